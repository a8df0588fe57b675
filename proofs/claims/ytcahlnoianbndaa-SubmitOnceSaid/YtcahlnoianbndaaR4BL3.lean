/- The program's code,point by point: printed by gen.py. -/
import Derived.Test.YtcahlnoianbndaaR4Seat
set_option linter.unusedVariables false
set_option linter.unusedSimpArgs false
set_option maxRecDepth 100000
set_option linter.unusedVariables false
namespace Go.Ab
open Go.Proofs
variable (t0 t1 t2 t3 t4 t5 t6 t7 t8 t9 ta tb tc td te tf tg th ti tj tk tl tm tn tp tq tr ts tt tu tv tw tx ty tz tA tB tC tD tE tF tG tH tI tJ tK tL tM tN tO tP tQ tR tS tT tU tV tW tX tY tZ q0 q1 q2 q3 q4 q5 q6 q7 q8 q9 qa qb qc qd qe qf qg qh qi qj qk ql qm qn qo qp qq qr qs qt qu qv qw qx qy qz qA qB qC qD qE qF qG qH qI qJ qK qL qM qN qO qP qQ qR qS qT qU qV qW qX qY qZ z0 z1 z2 z3 z4 z5 z6 z7 z8 z9 za zb zc zd ze zf zg zh zi zj zk zl zm zn zo zp zq zr zs zt zu zv zw zx zy zz zA zB zC zD zE zF zG zH zI zJ zK zL zM zN zO zP zQ zR zS zT zU zV zW zX zY zZ y0 y1 y2 y3 y4 y5 y6 : V)
noncomputable def xg3_0 : Code := codeAt (bodyOf Try.f3) [1,1,1,0,0]
noncomputable def xk3_0 : List Fr := [.seq (codeAt (bodyOf Try.f3) [1,1,1,0,1]),.seq (codeAt (bodyOf Try.f3) [1,1,1,1])]
noncomputable def xg3_1 : Code := codeAt (bodyOf Try.f3) [1,1,1,1,1,0,0]
noncomputable def xk3_1 : List Fr := [.seq (codeAt (bodyOf Try.f3) [1,1,1,1,1,0,1]),.seq (codeAt (bodyOf Try.f3) [1,1,1,1,1,1])]
noncomputable def xl3_0 : Code := codeAt (bodyOf Try.f3) [1,1,1,1,1,1,1,0,1,0,0]
noncomputable def xk3_2 : List Fr := [.block 0,.seq (codeAt (bodyOf Try.f3) [1,1,1,1,1,1,1,1])]
noncomputable def xg3_2 : Code := codeAt (bodyOf Try.f3) [1,1,1,1,1,1,1,0,1,0,0,1,0,0,0]
noncomputable def xk3_3 : List Fr := [.block 1,.seq (codeAt (bodyOf Try.f3) [1,1,1,1,1,1,1,0,1,0,0,1,1])]
noncomputable def xg3_3 : Code := codeAt (bodyOf Try.f3) [1,1,1,1,1,1,1,1,0,0]
noncomputable def xk3_4 : List Fr := [.seq (codeAt (bodyOf Try.f3) [1,1,1,1,1,1,1,1,0,1]),.seq (codeAt (bodyOf Try.f3) [1,1,1,1,1,1,1,1,1])]
noncomputable def xg3_4 : Code := codeAt (bodyOf Try.f3) [1,1,1,1,1,1,1,1,0,1,0,0]
noncomputable def xk3_5 : List Fr := [.seq (codeAt (bodyOf Try.f3) [1,1,1,1,1,1,1,1,0,1,0,1]),.seq (codeAt (bodyOf Try.f3) [1,1,1,1,1,1,1,1,1])]
noncomputable def xg3_5 : Code := codeAt (bodyOf Try.f3) [1,1,1,1,1,1,1,1,1,1,1,0]
noncomputable def xk3_6 : List Fr := [.seq (codeAt (bodyOf Try.f3) [1,1,1,1,1,1,1,1,1,1,1,1])]
noncomputable def xg3_6 : Code := codeAt (bodyOf Try.f3) [1,1,1,1,1,1,1,1,1,1,1,1,0]
noncomputable def xk3_7 : List Fr := [.seq (codeAt (bodyOf Try.f3) [1,1,1,1,1,1,1,1,1,1,1,1,1])]
noncomputable def xg3_7 : Code := codeAt (bodyOf Try.f3) [1,1,1,1,1,1,1,1,1,1,1,1,1,0]
noncomputable def xk3_8 : List Fr := [.seq (codeAt (bodyOf Try.f3) [1,1,1,1,1,1,1,1,1,1,1,1,1,1])]
noncomputable def xg3_8 : Code := codeAt (bodyOf Try.f3) [1,1,1,1,1,1,1,1,1,1,1,1,1,1,0]
noncomputable def xk3_9 : List Fr := [.seq (codeAt (bodyOf Try.f3) [1,1,1,1,1,1,1,1,1,1,1,1,1,1,1])]
theorem xo3_12 : orderIx (opsOf xg3_2) = [0,1,2,3,4,5,6,7,8] := by kernel_rfl
theorem xo3_12a : (rgOf (opsOf xg3_2)).any = false := by kernel_rfl
theorem xo3_12r : regOk (opsOf xg3_2) = true := by kernel_rfl
theorem xo3_18 : orderIx (opsOf xg3_5) = [0,1,2,3,4,5,6,7,8,9,10,11,12,13,14,15,16,17,18,19,20,21,22] := by kernel_rfl
theorem xo3_18a : (rgOf (opsOf xg3_5)).any = false := by kernel_rfl
theorem xo3_18r : regOk (opsOf xg3_5) = true := by kernel_rfl
theorem xb3 (s : Sys) (k wl : Nat) (h : Hp) : bodyV (xX s 3 wl k false) Try.f3 [t0,t1,t2,t3,t4] h =
  bp (opBox t0 h) fun v1 h2 =>
  bp (opBox t4 h2) fun v3 h4 =>
  bp (callV (xX s 3 wl k false) false true (.fn (.func 8) [] []) [] h4) fun v5 h6 =>
  bp (callV (xX s 3 wl k false) false true (.fn (.func 9) [] []) [t1] h6) fun v7 h8 =>
  bm (vUn .not v5) h8 fun v9 h10 =>
  gd v9 (
  opsP (xX s 3 wl k false) xg3_0 5 h8.length ([],[]) (runK (xX s 3 wl k false) (bodyK s.P Try.f3) xk3_0) ⟨(t0::t1::t2::t3::t4::v1::uu::uu::uu::v3::(V.lit (Value.bool false))::v5::v7::uu::uu::uu::uu::uu::uu::uu::uu::uu::uu::v5::t1::v7::v5::v9::(V.lit (Value.bool true))::uu::uu::uu::uu::uu::uu::uu::uu::uu::uu::uu::uu::uu::uu::uu::uu::uu::uu::uu::uu::uu::uu::uu::uu::uu::uu::uu::uu::uu::uu::uu::uu::uu::uu::uu::uu::uu::uu::uu::uu::uu::uu::uu::uu::uu::uu::uu::uu::uu::uu::uu::uu::uu::uu::uu::uu::uu::uu::uu::uu::uu::uu::uu::uu::uu::uu::uu::uu::uu::uu::uu::uu::uu::uu::uu::uu::uu::uu::uu::uu::uu::uu::uu::uu::uu::uu::uu::uu::uu::uu::uu::uu::uu::uu::uu::uu::uu::uu::uu::uu::uu::uu::uu::uu::uu::uu::uu::uu::uu::uu::uu::uu::uu::uu::uu::uu::uu::uu::uu::uu::uu::uu::uu::uu::uu::uu::uu::uu::uu::uu::uu::uu::uu::uu::uu::uu::uu::uu::uu::uu::uu::uu::uu::uu::uu::uu::uu::uu::uu::uu::uu::uu::uu::uu::uu::uu::uu::uu::uu::uu::uu::uu::uu::[]),h10⟩) (
  bm (vUn .not v7) h10 fun v11 h12 =>
  opsP (xX s 3 wl k false) xg3_0 5 h8.length ([],[]) (runK (xX s 3 wl k false) (bodyK s.P Try.f3) xk3_0) ⟨(t0::t1::t2::t3::t4::v1::uu::uu::uu::v3::(V.lit (Value.bool false))::v5::v7::uu::uu::uu::uu::uu::uu::uu::uu::uu::uu::v5::t1::v7::v5::v9::(V.lit (Value.bool false))::v7::v11::uu::uu::uu::uu::uu::uu::uu::uu::uu::uu::uu::uu::uu::uu::uu::uu::uu::uu::uu::uu::uu::uu::uu::uu::uu::uu::uu::uu::uu::uu::uu::uu::uu::uu::uu::uu::uu::uu::uu::uu::uu::uu::uu::uu::uu::uu::uu::uu::uu::uu::uu::uu::uu::uu::uu::uu::uu::uu::uu::uu::uu::uu::uu::uu::uu::uu::uu::uu::uu::uu::uu::uu::uu::uu::uu::uu::uu::uu::uu::uu::uu::uu::uu::uu::uu::uu::uu::uu::uu::uu::uu::uu::uu::uu::uu::uu::uu::uu::uu::uu::uu::uu::uu::uu::uu::uu::uu::uu::uu::uu::uu::uu::uu::uu::uu::uu::uu::uu::uu::uu::uu::uu::uu::uu::uu::uu::uu::uu::uu::uu::uu::uu::uu::uu::uu::uu::uu::uu::uu::uu::uu::uu::uu::uu::uu::uu::uu::uu::uu::uu::uu::uu::uu::uu::uu::uu::uu::uu::uu::uu::uu::[]),h12⟩) (
  opsP (xX s 3 wl k false) xg3_0 4 h8.length ([],[]) (runK (xX s 3 wl k false) (bodyK s.P Try.f3) xk3_0) ⟨(t0::t1::t2::t3::t4::v1::uu::uu::uu::v3::(V.lit (Value.bool false))::v5::v7::uu::uu::uu::uu::uu::uu::uu::uu::uu::uu::v5::t1::v7::v5::v9::v9::uu::uu::uu::uu::uu::uu::uu::uu::uu::uu::uu::uu::uu::uu::uu::uu::uu::uu::uu::uu::uu::uu::uu::uu::uu::uu::uu::uu::uu::uu::uu::uu::uu::uu::uu::uu::uu::uu::uu::uu::uu::uu::uu::uu::uu::uu::uu::uu::uu::uu::uu::uu::uu::uu::uu::uu::uu::uu::uu::uu::uu::uu::uu::uu::uu::uu::uu::uu::uu::uu::uu::uu::uu::uu::uu::uu::uu::uu::uu::uu::uu::uu::uu::uu::uu::uu::uu::uu::uu::uu::uu::uu::uu::uu::uu::uu::uu::uu::uu::uu::uu::uu::uu::uu::uu::uu::uu::uu::uu::uu::uu::uu::uu::uu::uu::uu::uu::uu::uu::uu::uu::uu::uu::uu::uu::uu::uu::uu::uu::uu::uu::uu::uu::uu::uu::uu::uu::uu::uu::uu::uu::uu::uu::uu::uu::uu::uu::uu::uu::uu::uu::uu::uu::uu::uu::uu::uu::uu::uu::uu::uu::uu::uu::[]),h10⟩) :=
  bodyV_run rfl (go_seq (go_reg0
  (go_op0 rfl rfl (st_bp (by kernel_rfl) fun v1 h2 =>
  (go_op0 rfl rfl (st_bp (by kernel_rfl) fun v3 h4 =>
  (go_op0 rfl rfl (st_id (v := (V.lit (Value.bool false))) (H := h4) (by kernel_rfl)
  (go_end0 (by kernel_rfl)
  (go_seq (go_reg0
  (go_op0 rfl rfl (st_bp (by kernel_rfl) fun v5 h6 =>
  (go_op0 rfl rfl (st_id (v := v5) (H := h6) (by kernel_rfl)
  (go_end0 (by kernel_rfl)
  (go_seq (go_reg0
  (go_op0 rfl rfl (st_id (v := t1) (H := h6) (by kernel_rfl)
  (go_op0 rfl rfl (st_bp (by kernel_rfl) fun v7 h8 =>
  (go_op0 rfl rfl (st_id (v := v7) (H := h8) (by kernel_rfl)
  (go_end0 (by kernel_rfl)
  (go_seq (go_seq (go_reg0
  (go_op0 rfl rfl (st_id (v := v5) (H := h8) (by kernel_rfl)
  (go_op0 rfl rfl (st_bm (by kernel_rfl) fun v9 h10 =>
  (go_op0 rfl rfl (st_id (v := v9) (H := h10) (by kernel_rfl)
  (go_gdF0 rfl rfl rfl (by kernel_rfl)
  (go_skip0 rfl rfl rfl (by kernel_rfl)
  (by kernel_rfl))
  (st_id (v := v7) (H := h10) (by kernel_rfl)
  (go_run0 rfl rfl rfl (by kernel_rfl) (st_bm (by kernel_rfl) fun v11 h12 =>
  (by kernel_rfl))))
  (by kernel_rfl))))))))))))))))))))))))))))))))))))
theorem xe3 (k wl : Nat) (h : Hp) : evF Try.prog xM (k + 1) wl 3 [t0,t1,t2,t3,t4] h = bodyV (xX (xS k) 3 wl k false) Try.f3 [t0,t1,t2,t3,t4] h := by kernel_rfl
theorem xz3 (P : Program) (h : Hp) : bodyK P Try.f3 .ret ⟨(t0::t1::t2::t3::t4::t5::t6::t7::t8::t9::ta::tb::tc::td::te::tf::tg::th::ti::tj::tk::tl::tm::tn::tp::tq::tr::ts::tt::tu::tv::tw::tx::ty::tz::tA::tB::tC::tD::tE::tF::tG::tH::tI::tJ::tK::tL::tM::tN::tO::tP::tQ::tR::tS::tT::tU::tV::tW::tX::tY::tZ::q0::q1::q2::q3::q4::q5::q6::q7::q8::q9::qa::qb::qc::qd::qe::qf::qg::qh::qi::qj::qk::ql::qm::qn::qo::qp::qq::qr::qs::qt::qu::qv::qw::qx::qy::qz::qA::qB::qC::qD::qE::qF::qG::qH::qI::qJ::qK::qL::qM::qN::qO::qP::qQ::qR::qS::qT::qU::qV::qW::qX::qY::qZ::z0::z1::z2::z3::z4::z5::z6::z7::z8::z9::za::zb::zc::zd::ze::zf::zg::zh::zi::zj::zk::zl::zm::zn::zo::zp::zq::zr::zs::zt::zu::zv::zw::zx::zy::zz::zA::zB::zC::zD::zE::zF::zG::zH::zI::zJ::zK::zL::zM::zN::zO::zP::zQ::zR::zS::zT::zU::zV::zW::zX::zY::zZ::y0::y1::y2::y3::y4::y5::y6::[]),h⟩ = some (ta,h) := by kernel_rfl
theorem xm3_0 (s : Sys) (k wl : Nat) (m0 : Nat) (ac : List Nat × List Nat) (h : Hp) : opsP (xX s 3 wl k false) xg3_0 5 m0 ac (runK (xX s 3 wl k false) (bodyK s.P Try.f3) xk3_0) ⟨(t0::t1::t2::t3::t4::t5::t6::t7::t8::t9::ta::tb::tc::td::te::tf::tg::th::ti::tj::tk::tl::tm::tn::tp::tq::tr::ts::tt::tu::tv::tw::tx::ty::tz::tA::tB::tC::tD::tE::tF::tG::tH::tI::tJ::tK::tL::tM::tN::tO::tP::tQ::tR::tS::tT::tU::tV::tW::tX::tY::tZ::q0::q1::q2::q3::q4::q5::q6::q7::q8::q9::qa::qb::qc::qd::qe::qf::qg::qh::qi::qj::qk::ql::qm::qn::qo::qp::qq::qr::qs::qt::qu::qv::qw::qx::qy::qz::qA::qB::qC::qD::qE::qF::qG::qH::qI::qJ::qK::qL::qM::qN::qO::qP::qQ::qR::qS::qT::qU::qV::qW::qX::qY::qZ::z0::z1::z2::z3::z4::z5::z6::z7::z8::z9::za::zb::zc::zd::ze::zf::zg::zh::zi::zj::zk::zl::zm::zn::zo::zp::zq::zr::zs::zt::zu::zv::zw::zx::zy::zz::zA::zB::zC::zD::zE::zF::zG::zH::zI::zJ::zK::zL::zM::zN::zO::zP::zQ::zR::zS::zT::zU::zV::zW::zX::zY::zZ::y0::y1::y2::y3::y4::y5::y6::[]),h⟩ =
  bm (vPick tt (V.lit (Value.bool true)) tv) h fun v13 h14 =>
  gd v13 (
  opsP (xX s 3 wl k false) xg3_0 10 m0 ac (runK (xX s 3 wl k false) (bodyK s.P Try.f3) xk3_0) ⟨(t0::t1::t2::t3::t4::t5::t6::t7::t8::t9::ta::tb::tc::td::te::tf::tg::th::ti::tj::tk::tl::tm::tn::tp::tq::tr::ts::tt::tu::tv::v13::(V.lit (Value.bool true))::uu::uu::uu::tB::tC::tD::tE::tF::tG::tH::tI::tJ::tK::tL::tM::tN::tO::tP::tQ::tR::tS::tT::tU::tV::tW::tX::tY::tZ::q0::q1::q2::q3::q4::q5::q6::q7::q8::q9::qa::qb::qc::qd::qe::qf::qg::qh::qi::qj::qk::ql::qm::qn::qo::qp::qq::qr::qs::qt::qu::qv::qw::qx::qy::qz::qA::qB::qC::qD::qE::qF::qG::qH::qI::qJ::qK::qL::qM::qN::qO::qP::qQ::qR::qS::qT::qU::qV::qW::qX::qY::qZ::z0::z1::z2::z3::z4::z5::z6::z7::z8::z9::za::zb::zc::zd::ze::zf::zg::zh::zi::zj::zk::zl::zm::zn::zo::zp::zq::zr::zs::zt::zu::zv::zw::zx::zy::zz::zA::zB::zC::zD::zE::zF::zG::zH::zI::zJ::zK::zL::zM::zN::zO::zP::zQ::zR::zS::zT::zU::zV::zW::zX::zY::zZ::y0::y1::y2::y3::y4::y5::y6::[]),h14⟩) (
  bp (opLen s.P 26 t2 h14) fun v15 h16 =>
  bm (vBin s.P .gtr 3 v15 (V.lit (Value.int .i64 500))) h16 fun v17 h18 =>
  opsP (xX s 3 wl k false) xg3_0 10 m0 ac (runK (xX s 3 wl k false) (bodyK s.P Try.f3) xk3_0) ⟨(t0::t1::t2::t3::t4::t5::t6::t7::t8::t9::ta::tb::tc::td::te::tf::tg::th::ti::tj::tk::tl::tm::tn::tp::tq::tr::ts::tt::tu::tv::v13::(V.lit (Value.bool false))::t2::v15::v17::tB::tC::tD::tE::tF::tG::tH::tI::tJ::tK::tL::tM::tN::tO::tP::tQ::tR::tS::tT::tU::tV::tW::tX::tY::tZ::q0::q1::q2::q3::q4::q5::q6::q7::q8::q9::qa::qb::qc::qd::qe::qf::qg::qh::qi::qj::qk::ql::qm::qn::qo::qp::qq::qr::qs::qt::qu::qv::qw::qx::qy::qz::qA::qB::qC::qD::qE::qF::qG::qH::qI::qJ::qK::qL::qM::qN::qO::qP::qQ::qR::qS::qT::qU::qV::qW::qX::qY::qZ::z0::z1::z2::z3::z4::z5::z6::z7::z8::z9::za::zb::zc::zd::ze::zf::zg::zh::zi::zj::zk::zl::zm::zn::zo::zp::zq::zr::zs::zt::zu::zv::zw::zx::zy::zz::zA::zB::zC::zD::zE::zF::zG::zH::zI::zJ::zK::zL::zM::zN::zO::zP::zQ::zR::zS::zT::zU::zV::zW::zX::zY::zZ::y0::y1::y2::y3::y4::y5::y6::[]),h18⟩) (
  opsP (xX s 3 wl k false) xg3_0 8 m0 ac (runK (xX s 3 wl k false) (bodyK s.P Try.f3) xk3_0) ⟨(t0::t1::t2::t3::t4::t5::t6::t7::t8::t9::ta::tb::tc::td::te::tf::tg::th::ti::tj::tk::tl::tm::tn::tp::tq::tr::ts::tt::tu::tv::v13::v13::uu::tz::tA::tB::tC::tD::tE::tF::tG::tH::tI::tJ::tK::tL::tM::tN::tO::tP::tQ::tR::tS::tT::tU::tV::tW::tX::tY::tZ::q0::q1::q2::q3::q4::q5::q6::q7::q8::q9::qa::qb::qc::qd::qe::qf::qg::qh::qi::qj::qk::ql::qm::qn::qo::qp::qq::qr::qs::qt::qu::qv::qw::qx::qy::qz::qA::qB::qC::qD::qE::qF::qG::qH::qI::qJ::qK::qL::qM::qN::qO::qP::qQ::qR::qS::qT::qU::qV::qW::qX::qY::qZ::z0::z1::z2::z3::z4::z5::z6::z7::z8::z9::za::zb::zc::zd::ze::zf::zg::zh::zi::zj::zk::zl::zm::zn::zo::zp::zq::zr::zs::zt::zu::zv::zw::zx::zy::zz::zA::zB::zC::zD::zE::zF::zG::zH::zI::zJ::zK::zL::zM::zN::zO::zP::zQ::zR::zS::zT::zU::zV::zW::zX::zY::zZ::y0::y1::y2::y3::y4::y5::y6::[]),h14⟩) :=
  (go_op0 rfl rfl (st_bm (by kernel_rfl) fun v13 h14 =>
  (go_op0 rfl rfl (st_id (v := v13) (H := h14) (by kernel_rfl)
  (go_gdF0 rfl rfl rfl (by kernel_rfl)
  (go_skip0 rfl rfl rfl (by kernel_rfl)
  (go_skip0 rfl rfl rfl (by kernel_rfl)
  (by kernel_rfl)))
  (st_id (v := t2) (H := h14) (by kernel_rfl)
  (go_run0 rfl rfl rfl (by kernel_rfl) (st_bp (by kernel_rfl) fun v15 h16 =>
  (go_run0 rfl rfl rfl (by kernel_rfl) (st_bm (by kernel_rfl) fun v17 h18 =>
  (by kernel_rfl))))))
  (by kernel_rfl))))))
theorem xm3_1 (s : Sys) (k wl : Nat) (m0 : Nat) (ac : List Nat × List Nat) (h : Hp) : opsP (xX s 3 wl k false) xg3_0 10 m0 ac (runK (xX s 3 wl k false) (bodyK s.P Try.f3) xk3_0) ⟨(t0::t1::t2::t3::t4::t5::t6::t7::t8::t9::ta::tb::tc::td::te::tf::tg::th::ti::tj::tk::tl::tm::tn::tp::tq::tr::ts::tt::tu::tv::tw::tx::ty::tz::tA::tB::tC::tD::tE::tF::tG::tH::tI::tJ::tK::tL::tM::tN::tO::tP::tQ::tR::tS::tT::tU::tV::tW::tX::tY::tZ::q0::q1::q2::q3::q4::q5::q6::q7::q8::q9::qa::qb::qc::qd::qe::qf::qg::qh::qi::qj::qk::ql::qm::qn::qo::qp::qq::qr::qs::qt::qu::qv::qw::qx::qy::qz::qA::qB::qC::qD::qE::qF::qG::qH::qI::qJ::qK::qL::qM::qN::qO::qP::qQ::qR::qS::qT::qU::qV::qW::qX::qY::qZ::z0::z1::z2::z3::z4::z5::z6::z7::z8::z9::za::zb::zc::zd::ze::zf::zg::zh::zi::zj::zk::zl::zm::zn::zo::zp::zq::zr::zs::zt::zu::zv::zw::zx::zy::zz::zA::zB::zC::zD::zE::zF::zG::zH::zI::zJ::zK::zL::zM::zN::zO::zP::zQ::zR::zS::zT::zU::zV::zW::zX::zY::zZ::y0::y1::y2::y3::y4::y5::y6::[]),h⟩ =
  bm (vPick tx (V.lit (Value.bool true)) tA) h fun v19 h20 =>
  gd v19 (
  opsP (xX s 3 wl k false) xg3_0 16 m0 ac (runK (xX s 3 wl k false) (bodyK s.P Try.f3) xk3_0) ⟨(t0::t1::t2::t3::t4::t5::t6::t7::t8::t9::ta::tb::tc::td::te::tf::tg::th::ti::tj::tk::tl::tm::tn::tp::tq::tr::ts::tt::tu::tv::tw::tx::ty::tz::tA::v19::(V.lit (Value.bool true))::uu::uu::uu::uu::tH::tI::tJ::tK::tL::tM::tN::tO::tP::tQ::tR::tS::tT::tU::tV::tW::tX::tY::tZ::q0::q1::q2::q3::q4::q5::q6::q7::q8::q9::qa::qb::qc::qd::qe::qf::qg::qh::qi::qj::qk::ql::qm::qn::qo::qp::qq::qr::qs::qt::qu::qv::qw::qx::qy::qz::qA::qB::qC::qD::qE::qF::qG::qH::qI::qJ::qK::qL::qM::qN::qO::qP::qQ::qR::qS::qT::qU::qV::qW::qX::qY::qZ::z0::z1::z2::z3::z4::z5::z6::z7::z8::z9::za::zb::zc::zd::ze::zf::zg::zh::zi::zj::zk::zl::zm::zn::zo::zp::zq::zr::zs::zt::zu::zv::zw::zx::zy::zz::zA::zB::zC::zD::zE::zF::zG::zH::zI::zJ::zK::zL::zM::zN::zO::zP::zQ::zR::zS::zT::zU::zV::zW::zX::zY::zZ::y0::y1::y2::y3::y4::y5::y6::[]),h20⟩) (
  bm (vFieldAddr s.P 32 t9 1) h20 fun v21 h22 =>
  bm (vLoad s.P 27 v21 h22) h22 fun v23 h24 =>
  bp (opLen s.P 27 v23 h24) fun v25 h26 =>
  bm (vBin s.P .gtr 3 v25 (V.lit (Value.int .i64 60))) h26 fun v27 h28 =>
  opsP (xX s 3 wl k false) xg3_0 16 m0 ac (runK (xX s 3 wl k false) (bodyK s.P Try.f3) xk3_0) ⟨(t0::t1::t2::t3::t4::t5::t6::t7::t8::t9::ta::tb::tc::td::te::tf::tg::th::ti::tj::tk::tl::tm::tn::tp::tq::tr::ts::tt::tu::tv::tw::tx::ty::tz::tA::v19::(V.lit (Value.bool false))::v21::v23::v25::v27::tH::tI::tJ::tK::tL::tM::tN::tO::tP::tQ::tR::tS::tT::tU::tV::tW::tX::tY::tZ::q0::q1::q2::q3::q4::q5::q6::q7::q8::q9::qa::qb::qc::qd::qe::qf::qg::qh::qi::qj::qk::ql::qm::qn::qo::qp::qq::qr::qs::qt::qu::qv::qw::qx::qy::qz::qA::qB::qC::qD::qE::qF::qG::qH::qI::qJ::qK::qL::qM::qN::qO::qP::qQ::qR::qS::qT::qU::qV::qW::qX::qY::qZ::z0::z1::z2::z3::z4::z5::z6::z7::z8::z9::za::zb::zc::zd::ze::zf::zg::zh::zi::zj::zk::zl::zm::zn::zo::zp::zq::zr::zs::zt::zu::zv::zw::zx::zy::zz::zA::zB::zC::zD::zE::zF::zG::zH::zI::zJ::zK::zL::zM::zN::zO::zP::zQ::zR::zS::zT::zU::zV::zW::zX::zY::zZ::y0::y1::y2::y3::y4::y5::y6::[]),h28⟩) (
  opsP (xX s 3 wl k false) xg3_0 13 m0 ac (runK (xX s 3 wl k false) (bodyK s.P Try.f3) xk3_0) ⟨(t0::t1::t2::t3::t4::t5::t6::t7::t8::t9::ta::tb::tc::td::te::tf::tg::th::ti::tj::tk::tl::tm::tn::tp::tq::tr::ts::tt::tu::tv::tw::tx::ty::tz::tA::v19::v19::uu::tE::tF::tG::tH::tI::tJ::tK::tL::tM::tN::tO::tP::tQ::tR::tS::tT::tU::tV::tW::tX::tY::tZ::q0::q1::q2::q3::q4::q5::q6::q7::q8::q9::qa::qb::qc::qd::qe::qf::qg::qh::qi::qj::qk::ql::qm::qn::qo::qp::qq::qr::qs::qt::qu::qv::qw::qx::qy::qz::qA::qB::qC::qD::qE::qF::qG::qH::qI::qJ::qK::qL::qM::qN::qO::qP::qQ::qR::qS::qT::qU::qV::qW::qX::qY::qZ::z0::z1::z2::z3::z4::z5::z6::z7::z8::z9::za::zb::zc::zd::ze::zf::zg::zh::zi::zj::zk::zl::zm::zn::zo::zp::zq::zr::zs::zt::zu::zv::zw::zx::zy::zz::zA::zB::zC::zD::zE::zF::zG::zH::zI::zJ::zK::zL::zM::zN::zO::zP::zQ::zR::zS::zT::zU::zV::zW::zX::zY::zZ::y0::y1::y2::y3::y4::y5::y6::[]),h20⟩) :=
  (go_op0 rfl rfl (st_bm (by kernel_rfl) fun v19 h20 =>
  (go_op0 rfl rfl (st_id (v := v19) (H := h20) (by kernel_rfl)
  (go_gdF0 rfl rfl rfl (by kernel_rfl)
  (go_skip0 rfl rfl rfl (by kernel_rfl)
  (go_skip0 rfl rfl rfl (by kernel_rfl)
  (go_skip0 rfl rfl rfl (by kernel_rfl)
  (by kernel_rfl))))
  (st_bm (by kernel_rfl) fun v21 h22 =>
  (go_run0 rfl rfl rfl (by kernel_rfl) (st_bm (by kernel_rfl) fun v23 h24 =>
  (go_run0 rfl rfl rfl (by kernel_rfl) (st_bp (by kernel_rfl) fun v25 h26 =>
  (go_run0 rfl rfl rfl (by kernel_rfl) (st_bm (by kernel_rfl) fun v27 h28 =>
  (by kernel_rfl))))))))
  (by kernel_rfl))))))
theorem xm3_2 (s : Sys) (k wl : Nat) (m0 : Nat) (ac : List Nat × List Nat) (h : Hp) : opsP (xX s 3 wl k false) xg3_0 16 m0 ac (runK (xX s 3 wl k false) (bodyK s.P Try.f3) xk3_0) ⟨(t0::t1::t2::t3::t4::t5::t6::t7::t8::t9::ta::tb::tc::td::te::tf::tg::th::ti::tj::tk::tl::tm::tn::tp::tq::tr::ts::tt::tu::tv::tw::tx::ty::tz::tA::tB::tC::tD::tE::tF::tG::tH::tI::tJ::tK::tL::tM::tN::tO::tP::tQ::tR::tS::tT::tU::tV::tW::tX::tY::tZ::q0::q1::q2::q3::q4::q5::q6::q7::q8::q9::qa::qb::qc::qd::qe::qf::qg::qh::qi::qj::qk::ql::qm::qn::qo::qp::qq::qr::qs::qt::qu::qv::qw::qx::qy::qz::qA::qB::qC::qD::qE::qF::qG::qH::qI::qJ::qK::qL::qM::qN::qO::qP::qQ::qR::qS::qT::qU::qV::qW::qX::qY::qZ::z0::z1::z2::z3::z4::z5::z6::z7::z8::z9::za::zb::zc::zd::ze::zf::zg::zh::zi::zj::zk::zl::zm::zn::zo::zp::zq::zr::zs::zt::zu::zv::zw::zx::zy::zz::zA::zB::zC::zD::zE::zF::zG::zH::zI::zJ::zK::zL::zM::zN::zO::zP::zQ::zR::zS::zT::zU::zV::zW::zX::zY::zZ::y0::y1::y2::y3::y4::y5::y6::[]),h⟩ =
  bm (vPick tC (V.lit (Value.bool true)) tG) h fun v29 h30 =>
  cnd v29 (
  some (tb,h30)) (
  bm (vLoad s.P 23 t5 h30) h30 fun v31 h32 =>
  bm (vLoad s.P 32 t9 h32) h32 fun v33 h34 =>
  bp (callV (xX s 3 wl k false) false true (.fn (.func 10) [] []) [v31,t1,t2,t3,v33] h34) fun v35 h36 =>
  bm (vExtract v35 0) h36 fun v37 h38 =>
  bm (vExtract v35 1) h38 fun v39 h40 =>
  bm (vExtract v35 2) h40 fun v41 h42 =>
  bp (opAlloc s.P 32 h42) fun v43 h44 =>
  bs (vStore s.P wl 32 v43 v39 h44) fun h45 =>
  bp (opLen s.P 26 v37 h45) fun v46 h47 =>
  bp (opLen s.P 26 t2 h47) fun v48 h49 =>
  bm (vBin s.P .neq 3 v46 v48) h49 fun v50 h51 =>
  gd v50 (
  opsP (xX s 3 wl k false) xg3_1 9 h45.length ([],[]) (runK (xX s 3 wl k false) (bodyK s.P Try.f3) xk3_1) ⟨(t0::t1::t2::t3::t4::t5::t6::t7::t8::t9::ta::tb::tc::v37::v43::v41::tg::th::ti::tj::tk::tl::tm::tn::tp::tq::tr::ts::tt::tu::tv::tw::tx::ty::tz::tA::tB::tC::tD::tE::tF::tG::v29::tI::v35::v31::t1::t2::t3::v33::v35::v37::v39::v41::v37::v46::t2::v48::v50::(V.lit (Value.bool true))::uu::uu::uu::q2::q3::q4::q5::q6::q7::q8::q9::qa::qb::qc::qd::qe::qf::qg::qh::qi::qj::qk::ql::qm::qn::qo::qp::qq::qr::qs::qt::qu::qv::qw::qx::qy::qz::qA::qB::qC::qD::qE::qF::qG::qH::qI::qJ::qK::qL::qM::qN::qO::qP::qQ::qR::qS::qT::qU::qV::qW::qX::qY::qZ::z0::z1::z2::z3::z4::z5::z6::z7::z8::z9::za::zb::zc::zd::ze::zf::zg::zh::zi::zj::zk::zl::zm::zn::zo::zp::zq::zr::zs::zt::zu::zv::zw::zx::zy::zz::zA::zB::zC::zD::zE::zF::zG::zH::zI::zJ::zK::zL::zM::zN::zO::zP::zQ::zR::zS::zT::zU::zV::zW::zX::zY::zZ::y0::y1::y2::y3::y4::y5::y6::[]),h51⟩) (
  bp (opLen s.P 35 v41 h51) fun v52 h53 =>
  bm (vBin s.P .gtr 3 v52 (V.lit (Value.int .i64 2))) h53 fun v54 h55 =>
  opsP (xX s 3 wl k false) xg3_1 9 h45.length ([],[]) (runK (xX s 3 wl k false) (bodyK s.P Try.f3) xk3_1) ⟨(t0::t1::t2::t3::t4::t5::t6::t7::t8::t9::ta::tb::tc::v37::v43::v41::tg::th::ti::tj::tk::tl::tm::tn::tp::tq::tr::ts::tt::tu::tv::tw::tx::ty::tz::tA::tB::tC::tD::tE::tF::tG::v29::tI::v35::v31::t1::t2::t3::v33::v35::v37::v39::v41::v37::v46::t2::v48::v50::(V.lit (Value.bool false))::v41::v52::v54::q2::q3::q4::q5::q6::q7::q8::q9::qa::qb::qc::qd::qe::qf::qg::qh::qi::qj::qk::ql::qm::qn::qo::qp::qq::qr::qs::qt::qu::qv::qw::qx::qy::qz::qA::qB::qC::qD::qE::qF::qG::qH::qI::qJ::qK::qL::qM::qN::qO::qP::qQ::qR::qS::qT::qU::qV::qW::qX::qY::qZ::z0::z1::z2::z3::z4::z5::z6::z7::z8::z9::za::zb::zc::zd::ze::zf::zg::zh::zi::zj::zk::zl::zm::zn::zo::zp::zq::zr::zs::zt::zu::zv::zw::zx::zy::zz::zA::zB::zC::zD::zE::zF::zG::zH::zI::zJ::zK::zL::zM::zN::zO::zP::zQ::zR::zS::zT::zU::zV::zW::zX::zY::zZ::y0::y1::y2::y3::y4::y5::y6::[]),h55⟩) (
  opsP (xX s 3 wl k false) xg3_1 7 h45.length ([],[]) (runK (xX s 3 wl k false) (bodyK s.P Try.f3) xk3_1) ⟨(t0::t1::t2::t3::t4::t5::t6::t7::t8::t9::ta::tb::tc::v37::v43::v41::tg::th::ti::tj::tk::tl::tm::tn::tp::tq::tr::ts::tt::tu::tv::tw::tx::ty::tz::tA::tB::tC::tD::tE::tF::tG::v29::tI::v35::v31::t1::t2::t3::v33::v35::v37::v39::v41::v37::v46::t2::v48::v50::v50::uu::q0::q1::q2::q3::q4::q5::q6::q7::q8::q9::qa::qb::qc::qd::qe::qf::qg::qh::qi::qj::qk::ql::qm::qn::qo::qp::qq::qr::qs::qt::qu::qv::qw::qx::qy::qz::qA::qB::qC::qD::qE::qF::qG::qH::qI::qJ::qK::qL::qM::qN::qO::qP::qQ::qR::qS::qT::qU::qV::qW::qX::qY::qZ::z0::z1::z2::z3::z4::z5::z6::z7::z8::z9::za::zb::zc::zd::ze::zf::zg::zh::zi::zj::zk::zl::zm::zn::zo::zp::zq::zr::zs::zt::zu::zv::zw::zx::zy::zz::zA::zB::zC::zD::zE::zF::zG::zH::zI::zJ::zK::zL::zM::zN::zO::zP::zQ::zR::zS::zT::zU::zV::zW::zX::zY::zZ::y0::y1::y2::y3::y4::y5::y6::[]),h51⟩)) :=
  (go_op0 rfl rfl (st_bm (by kernel_rfl) fun v29 h30 =>
  (go_end0 (by kernel_rfl)
  (go_cond (by kernel_rfl)
  (go_seq (go_reg0
  (go_op0 rfl rfl (st_id (v := tb) (H := h30) (by kernel_rfl)
  (go_op0 rfl rfl (st_id (v := tb) (H := h30) (by kernel_rfl)
  (go_end0 (by kernel_rfl)
  (go_ret (rt_seq_ret (by kernel_rfl))))))))))
  (go_skip (go_seq (go_reg0
  (go_op0 rfl rfl (st_bm (by kernel_rfl) fun v31 h32 =>
  (go_op0 rfl rfl (st_id (v := t1) (H := h32) (by kernel_rfl)
  (go_op0 rfl rfl (st_id (v := t2) (H := h32) (by kernel_rfl)
  (go_op0 rfl rfl (st_id (v := t3) (H := h32) (by kernel_rfl)
  (go_op0 rfl rfl (st_bm (by kernel_rfl) fun v33 h34 =>
  (go_op0 rfl rfl (st_bp (by kernel_rfl) fun v35 h36 =>
  (go_op0 rfl rfl (st_id (v := v35) (H := h36) (by kernel_rfl)
  (go_op0 rfl rfl (st_bm (by kernel_rfl) fun v37 h38 =>
  (go_op0 rfl rfl (st_bm (by kernel_rfl) fun v39 h40 =>
  (go_op0 rfl rfl (st_bm (by kernel_rfl) fun v41 h42 =>
  (go_op0 rfl rfl (st_bp (by kernel_rfl) fun v43 h44 =>
  (go_op0 rfl rfl (st_id (v := v37) (H := h44) (by kernel_rfl)
  (go_op0 rfl rfl (st_bs (by kernel_rfl) fun h45 =>
  (go_op0 rfl rfl (st_id (v := v41) (H := h45) (by kernel_rfl)
  (go_end0 (by kernel_rfl)
  (go_seq (go_seq (go_reg0
  (go_op0 rfl rfl (st_id (v := v37) (H := h45) (by kernel_rfl)
  (go_op0 rfl rfl (st_bp (by kernel_rfl) fun v46 h47 =>
  (go_op0 rfl rfl (st_id (v := t2) (H := h47) (by kernel_rfl)
  (go_op0 rfl rfl (st_bp (by kernel_rfl) fun v48 h49 =>
  (go_op0 rfl rfl (st_bm (by kernel_rfl) fun v50 h51 =>
  (go_op0 rfl rfl (st_id (v := v50) (H := h51) (by kernel_rfl)
  (go_gdF0 rfl rfl rfl (by kernel_rfl)
  (go_skip0 rfl rfl rfl (by kernel_rfl)
  (go_skip0 rfl rfl rfl (by kernel_rfl)
  (by kernel_rfl)))
  (st_id (v := v41) (H := h51) (by kernel_rfl)
  (go_run0 rfl rfl rfl (by kernel_rfl) (st_bp (by kernel_rfl) fun v52 h53 =>
  (go_run0 rfl rfl rfl (by kernel_rfl) (st_bm (by kernel_rfl) fun v54 h55 =>
  (by kernel_rfl))))))
  (by kernel_rfl)))))))))))))))))))))))))))))))))))))))))))))))))))))
theorem xm3_3 (s : Sys) (k wl : Nat) (m0 : Nat) (ac : List Nat × List Nat) (h : Hp) : opsP (xX s 3 wl k false) xg3_1 9 m0 ac (runK (xX s 3 wl k false) (bodyK s.P Try.f3) xk3_1) ⟨(t0::t1::t2::t3::t4::t5::t6::t7::t8::t9::ta::tb::tc::td::te::tf::tg::th::ti::tj::tk::tl::tm::tn::tp::tq::tr::ts::tt::tu::tv::tw::tx::ty::tz::tA::tB::tC::tD::tE::tF::tG::tH::tI::tJ::tK::tL::tM::tN::tO::tP::tQ::tR::tS::tT::tU::tV::tW::tX::tY::tZ::q0::q1::q2::q3::q4::q5::q6::q7::q8::q9::qa::qb::qc::qd::qe::qf::qg::qh::qi::qj::qk::ql::qm::qn::qo::qp::qq::qr::qs::qt::qu::qv::qw::qx::qy::qz::qA::qB::qC::qD::qE::qF::qG::qH::qI::qJ::qK::qL::qM::qN::qO::qP::qQ::qR::qS::qT::qU::qV::qW::qX::qY::qZ::z0::z1::z2::z3::z4::z5::z6::z7::z8::z9::za::zb::zc::zd::ze::zf::zg::zh::zi::zj::zk::zl::zm::zn::zo::zp::zq::zr::zs::zt::zu::zv::zw::zx::zy::zz::zA::zB::zC::zD::zE::zF::zG::zH::zI::zJ::zK::zL::zM::zN::zO::zP::zQ::zR::zS::zT::zU::zV::zW::zX::zY::zZ::y0::y1::y2::y3::y4::y5::y6::[]),h⟩ =
  bm (vPick tY (V.lit (Value.bool true)) q1) h fun v56 h57 =>
  cnd v56 (
  some ((V.lit (Value.bool false)),h57)) (
  itX (xX s 3 wl k false) xl3_0 h57.length (runK (xX s 3 wl k false) (bodyK s.P Try.f3) xk3_2) k ⟨((V.kill h57.length t0)::(V.kill h57.length t1)::(V.kill h57.length t2)::(V.kill h57.length t3)::(V.kill h57.length t4)::(V.kill h57.length t5)::(V.kill h57.length t6)::(V.kill h57.length t7)::(V.kill h57.length t8)::(V.kill h57.length t9)::(V.kill h57.length ta)::(V.kill h57.length tb)::(V.kill h57.length tc)::(V.kill h57.length td)::(V.kill h57.length te)::(V.kill h57.length tf)::(V.lit (Value.int .i64 0))::(V.lit (Value.int .i64 0))::(V.kill h57.length ti)::(V.kill h57.length tj)::(V.kill h57.length tk)::(V.kill h57.length tl)::(V.kill h57.length tm)::(V.kill h57.length tn)::(V.kill h57.length tp)::(V.kill h57.length tq)::(V.kill h57.length tr)::(V.kill h57.length ts)::(V.kill h57.length tt)::(V.kill h57.length tu)::(V.kill h57.length tv)::(V.kill h57.length tw)::(V.kill h57.length tx)::(V.kill h57.length ty)::(V.kill h57.length tz)::(V.kill h57.length tA)::(V.kill h57.length tB)::(V.kill h57.length tC)::(V.kill h57.length tD)::(V.kill h57.length tE)::(V.kill h57.length tF)::(V.kill h57.length tG)::(V.kill h57.length tH)::(V.kill h57.length tI)::(V.kill h57.length tJ)::(V.kill h57.length tK)::(V.kill h57.length tL)::(V.kill h57.length tM)::(V.kill h57.length tN)::(V.kill h57.length tO)::(V.kill h57.length tP)::(V.kill h57.length tQ)::(V.kill h57.length tR)::(V.kill h57.length tS)::(V.kill h57.length tT)::(V.kill h57.length tU)::(V.kill h57.length tV)::(V.kill h57.length tW)::(V.kill h57.length tX)::(V.kill h57.length tY)::(V.kill h57.length tZ)::(V.kill h57.length q0)::(V.kill h57.length q1)::(V.kill h57.length v56)::.junk::.junk::.junk::.junk::.junk::.junk::.junk::.junk::.junk::.junk::.junk::.junk::.junk::.junk::.junk::.junk::.junk::(V.kill h57.length qk)::(V.kill h57.length ql)::(V.kill h57.length qm)::(V.kill h57.length qn)::(V.kill h57.length qo)::(V.kill h57.length qp)::(V.kill h57.length qq)::(V.kill h57.length qr)::(V.kill h57.length qs)::(V.kill h57.length qt)::(V.kill h57.length qu)::(V.kill h57.length qv)::(V.kill h57.length qw)::(V.kill h57.length qx)::(V.kill h57.length qy)::(V.kill h57.length qz)::(V.kill h57.length qA)::(V.kill h57.length qB)::(V.kill h57.length qC)::(V.kill h57.length qD)::(V.kill h57.length qE)::(V.kill h57.length qF)::(V.kill h57.length qG)::(V.kill h57.length qH)::(V.kill h57.length qI)::(V.kill h57.length qJ)::(V.kill h57.length qK)::(V.kill h57.length qL)::(V.kill h57.length qM)::(V.kill h57.length qN)::(V.kill h57.length qO)::(V.kill h57.length qP)::(V.kill h57.length qQ)::(V.kill h57.length qR)::(V.kill h57.length qS)::(V.kill h57.length qT)::(V.kill h57.length qU)::(V.kill h57.length qV)::(V.kill h57.length qW)::(V.kill h57.length qX)::(V.kill h57.length qY)::(V.kill h57.length qZ)::(V.kill h57.length z0)::(V.kill h57.length z1)::(V.kill h57.length z2)::(V.kill h57.length z3)::(V.kill h57.length z4)::(V.kill h57.length z5)::(V.kill h57.length z6)::(V.kill h57.length z7)::(V.kill h57.length z8)::(V.kill h57.length z9)::(V.kill h57.length za)::(V.kill h57.length zb)::(V.kill h57.length zc)::(V.kill h57.length zd)::(V.kill h57.length ze)::(V.kill h57.length zf)::(V.kill h57.length zg)::(V.kill h57.length zh)::(V.kill h57.length zi)::(V.kill h57.length zj)::(V.kill h57.length zk)::(V.kill h57.length zl)::(V.kill h57.length zm)::(V.kill h57.length zn)::(V.kill h57.length zo)::(V.kill h57.length zp)::(V.kill h57.length zq)::(V.kill h57.length zr)::(V.kill h57.length zs)::(V.kill h57.length zt)::(V.kill h57.length zu)::(V.kill h57.length zv)::(V.kill h57.length zw)::(V.kill h57.length zx)::(V.kill h57.length zy)::(V.kill h57.length zz)::(V.kill h57.length zA)::(V.kill h57.length zB)::(V.kill h57.length zC)::(V.kill h57.length zD)::(V.kill h57.length zE)::(V.kill h57.length zF)::(V.kill h57.length zG)::(V.kill h57.length zH)::(V.kill h57.length zI)::(V.kill h57.length zJ)::(V.kill h57.length zK)::(V.kill h57.length zL)::(V.kill h57.length zM)::(V.kill h57.length zN)::(V.kill h57.length zO)::(V.kill h57.length zP)::(V.kill h57.length zQ)::(V.kill h57.length zR)::(V.kill h57.length zS)::(V.kill h57.length zT)::(V.kill h57.length zU)::(V.kill h57.length zV)::(V.kill h57.length zW)::(V.kill h57.length zX)::(V.kill h57.length zY)::(V.kill h57.length zZ)::(V.kill h57.length y0)::(V.kill h57.length y1)::(V.kill h57.length y2)::(V.kill h57.length y3)::(V.kill h57.length y4)::(V.kill h57.length y5)::(V.kill h57.length y6)::[]),cutH h57.length h57⟩) :=
  (go_op0 rfl rfl (st_bm (by kernel_rfl) fun v56 h57 =>
  (go_end0 (by kernel_rfl)
  (go_cond (by kernel_rfl)
  (go_seq (go_reg0
  (go_op0 rfl rfl (st_id (v := (V.lit (Value.bool false))) (H := h57) (by kernel_rfl)
  (go_end0 (by kernel_rfl)
  (go_ret (rt_seq_ret (by kernel_rfl))))))))
  (go_skip (go_seq (go_reg0
  (go_op0 rfl rfl (st_id (v := (V.lit (Value.int .i64 0))) (H := h57) (by kernel_rfl)
  (go_end0 (by kernel_rfl)
  (go_seq (go_seq (go_reg0
  (go_op0 rfl rfl (st_id (v := (V.lit (Value.int .i64 0))) (H := h57) (by kernel_rfl)
  (go_end0 (by kernel_rfl)
  (go_block (by kernel_rfl))))))))))))))))))
theorem xr3_0 (s : Sys) (K : Out → St → Option (V × Hp)) (k wl : Nat) (rd : Bool) (n n0 : Nat) (h : Hp) : itX (xX s 3 wl k rd) xl3_0 n0 K (n + 1) ⟨(t0::t1::t2::t3::t4::t5::t6::t7::t8::t9::ta::tb::tc::td::te::tf::tg::th::ti::tj::tk::tl::tm::tn::tp::tq::tr::ts::tt::tu::tv::tw::tx::ty::tz::tA::tB::tC::tD::tE::tF::tG::tH::tI::tJ::tK::tL::tM::tN::tO::tP::tQ::tR::tS::tT::tU::tV::tW::tX::tY::tZ::q0::q1::q2::q3::q4::q5::q6::q7::q8::q9::qa::qb::qc::qd::qe::qf::qg::qh::qi::qj::qk::ql::qm::qn::qo::qp::qq::qr::qs::qt::qu::qv::qw::qx::qy::qz::qA::qB::qC::qD::qE::qF::qG::qH::qI::qJ::qK::qL::qM::qN::qO::qP::qQ::qR::qS::qT::qU::qV::qW::qX::qY::qZ::z0::z1::z2::z3::z4::z5::z6::z7::z8::z9::za::zb::zc::zd::ze::zf::zg::zh::zi::zj::zk::zl::zm::zn::zo::zp::zq::zr::zs::zt::zu::zv::zw::zx::zy::zz::zA::zB::zC::zD::zE::zF::zG::zH::zI::zJ::zK::zL::zM::zN::zO::zP::zQ::zR::zS::zT::zU::zV::zW::zX::zY::zZ::y0::y1::y2::y3::y4::y5::y6::[]),h⟩ =
  bp (opLen s.P 26 t2 h) fun v58 h59 =>
  bm (vBin s.P .lss 3 th v58) h59 fun v60 h61 =>
  cnd v60 (
  bm (vIndexAddr s.P 26 td th h61) h61 fun v62 h63 =>
  bm (vLoad s.P 28 v62 h63) h63 fun v64 h65 =>
  bm (vIndexAddr s.P 26 t2 th h65) h65 fun v66 h67 =>
  bm (vLoad s.P 28 v66 h67) h67 fun v68 h69 =>
  bm (vBin s.P .neq 28 v64 v68) h69 fun v70 h71 =>
  cnd v70 (
  bm (vBin s.P .add 3 tg (V.lit (Value.int .i64 1))) h71 fun v72 h73 =>
  runK (xX s 3 wl k rd) (nextK (xX s 3 wl k rd) xl3_0 n0 K n) xk3_3 .norm ⟨(t0::t1::t2::t3::t4::t5::t6::t7::t8::t9::ta::tb::tc::td::te::tf::v72::th::ti::tj::tk::tl::tm::tn::tp::tq::tr::ts::tt::tu::tv::tw::tx::ty::tz::tA::tB::tC::tD::tE::tF::tG::tH::tI::tJ::tK::tL::tM::tN::tO::tP::tQ::tR::tS::tT::tU::tV::tW::tX::tY::tZ::q0::q1::q2::th::t2::v58::v60::q7::q8::td::th::v62::v64::t2::th::v66::v68::v70::tg::v72::qk::ql::qm::qn::qo::qp::qq::qr::qs::qt::qu::qv::qw::qx::qy::qz::qA::qB::qC::qD::qE::qF::qG::qH::qI::qJ::qK::qL::qM::qN::qO::qP::qQ::qR::qS::qT::qU::qV::qW::qX::qY::qZ::z0::z1::z2::z3::z4::z5::z6::z7::z8::z9::za::zb::zc::zd::ze::zf::zg::zh::zi::zj::zk::zl::zm::zn::zo::zp::zq::zr::zs::zt::zu::zv::zw::zx::zy::zz::zA::zB::zC::zD::zE::zF::zG::zH::zI::zJ::zK::zL::zM::zN::zO::zP::zQ::zR::zS::zT::zU::zV::zW::zX::zY::zZ::y0::y1::y2::y3::y4::y5::y6::[]),h73⟩) (
  runK (xX s 3 wl k rd) (nextK (xX s 3 wl k rd) xl3_0 n0 K n) xk3_3 .norm ⟨(t0::t1::t2::t3::t4::t5::t6::t7::t8::t9::ta::tb::tc::td::te::tf::tg::th::ti::tj::tk::tl::tm::tn::tp::tq::tr::ts::tt::tu::tv::tw::tx::ty::tz::tA::tB::tC::tD::tE::tF::tG::tH::tI::tJ::tK::tL::tM::tN::tO::tP::tQ::tR::tS::tT::tU::tV::tW::tX::tY::tZ::q0::q1::q2::th::t2::v58::v60::q7::q8::td::th::v62::v64::t2::th::v66::v68::v70::qi::qj::qk::ql::qm::qn::qo::qp::qq::qr::qs::qt::qu::qv::qw::qx::qy::qz::qA::qB::qC::qD::qE::qF::qG::qH::qI::qJ::qK::qL::qM::qN::qO::qP::qQ::qR::qS::qT::qU::qV::qW::qX::qY::qZ::z0::z1::z2::z3::z4::z5::z6::z7::z8::z9::za::zb::zc::zd::ze::zf::zg::zh::zi::zj::zk::zl::zm::zn::zo::zp::zq::zr::zs::zt::zu::zv::zw::zx::zy::zz::zA::zB::zC::zD::zE::zF::zG::zH::zI::zJ::zK::zL::zM::zN::zO::zP::zQ::zR::zS::zT::zU::zV::zW::zX::zY::zZ::y0::y1::y2::y3::y4::y5::y6::[]),h71⟩)) (
  K (.exit 0) ⟨((V.kill n0 t0)::(V.kill n0 t1)::(V.kill n0 t2)::(V.kill n0 t3)::(V.kill n0 t4)::(V.kill n0 t5)::(V.kill n0 t6)::(V.kill n0 t7)::(V.kill n0 t8)::(V.kill n0 t9)::(V.kill n0 ta)::(V.kill n0 tb)::(V.kill n0 tc)::(V.kill n0 td)::(V.kill n0 te)::(V.kill n0 tf)::(V.kill n0 tg)::(V.kill n0 th)::(V.kill n0 ti)::(V.kill n0 tj)::(V.kill n0 tk)::(V.kill n0 tl)::(V.kill n0 tm)::(V.kill n0 tn)::(V.kill n0 tp)::(V.kill n0 tq)::(V.kill n0 tr)::(V.kill n0 ts)::(V.kill n0 tt)::(V.kill n0 tu)::(V.kill n0 tv)::(V.kill n0 tw)::(V.kill n0 tx)::(V.kill n0 ty)::(V.kill n0 tz)::(V.kill n0 tA)::(V.kill n0 tB)::(V.kill n0 tC)::(V.kill n0 tD)::(V.kill n0 tE)::(V.kill n0 tF)::(V.kill n0 tG)::(V.kill n0 tH)::(V.kill n0 tI)::(V.kill n0 tJ)::(V.kill n0 tK)::(V.kill n0 tL)::(V.kill n0 tM)::(V.kill n0 tN)::(V.kill n0 tO)::(V.kill n0 tP)::(V.kill n0 tQ)::(V.kill n0 tR)::(V.kill n0 tS)::(V.kill n0 tT)::(V.kill n0 tU)::(V.kill n0 tV)::(V.kill n0 tW)::(V.kill n0 tX)::(V.kill n0 tY)::(V.kill n0 tZ)::(V.kill n0 q0)::(V.kill n0 q1)::(V.kill n0 q2)::.junk::.junk::.junk::.junk::.junk::.junk::.junk::.junk::.junk::.junk::.junk::.junk::.junk::.junk::.junk::.junk::.junk::(V.kill n0 qk)::(V.kill n0 ql)::(V.kill n0 qm)::(V.kill n0 qn)::(V.kill n0 qo)::(V.kill n0 qp)::(V.kill n0 qq)::(V.kill n0 qr)::(V.kill n0 qs)::(V.kill n0 qt)::(V.kill n0 qu)::(V.kill n0 qv)::(V.kill n0 qw)::(V.kill n0 qx)::(V.kill n0 qy)::(V.kill n0 qz)::(V.kill n0 qA)::(V.kill n0 qB)::(V.kill n0 qC)::(V.kill n0 qD)::(V.kill n0 qE)::(V.kill n0 qF)::(V.kill n0 qG)::(V.kill n0 qH)::(V.kill n0 qI)::(V.kill n0 qJ)::(V.kill n0 qK)::(V.kill n0 qL)::(V.kill n0 qM)::(V.kill n0 qN)::(V.kill n0 qO)::(V.kill n0 qP)::(V.kill n0 qQ)::(V.kill n0 qR)::(V.kill n0 qS)::(V.kill n0 qT)::(V.kill n0 qU)::(V.kill n0 qV)::(V.kill n0 qW)::(V.kill n0 qX)::(V.kill n0 qY)::(V.kill n0 qZ)::(V.kill n0 z0)::(V.kill n0 z1)::(V.kill n0 z2)::(V.kill n0 z3)::(V.kill n0 z4)::(V.kill n0 z5)::(V.kill n0 z6)::(V.kill n0 z7)::(V.kill n0 z8)::(V.kill n0 z9)::(V.kill n0 za)::(V.kill n0 zb)::(V.kill n0 zc)::(V.kill n0 zd)::(V.kill n0 ze)::(V.kill n0 zf)::(V.kill n0 zg)::(V.kill n0 zh)::(V.kill n0 zi)::(V.kill n0 zj)::(V.kill n0 zk)::(V.kill n0 zl)::(V.kill n0 zm)::(V.kill n0 zn)::(V.kill n0 zo)::(V.kill n0 zp)::(V.kill n0 zq)::(V.kill n0 zr)::(V.kill n0 zs)::(V.kill n0 zt)::(V.kill n0 zu)::(V.kill n0 zv)::(V.kill n0 zw)::(V.kill n0 zx)::(V.kill n0 zy)::(V.kill n0 zz)::(V.kill n0 zA)::(V.kill n0 zB)::(V.kill n0 zC)::(V.kill n0 zD)::(V.kill n0 zE)::(V.kill n0 zF)::(V.kill n0 zG)::(V.kill n0 zH)::(V.kill n0 zI)::(V.kill n0 zJ)::(V.kill n0 zK)::(V.kill n0 zL)::(V.kill n0 zM)::(V.kill n0 zN)::(V.kill n0 zO)::(V.kill n0 zP)::(V.kill n0 zQ)::(V.kill n0 zR)::(V.kill n0 zS)::(V.kill n0 zT)::(V.kill n0 zU)::(V.kill n0 zV)::(V.kill n0 zW)::(V.kill n0 zX)::(V.kill n0 zY)::(V.kill n0 zZ)::(V.kill n0 y0)::(V.kill n0 y1)::(V.kill n0 y2)::(V.kill n0 y3)::(V.kill n0 y4)::(V.kill n0 y5)::(V.kill n0 y6)::[]),cutH n0 h61⟩) :=
  itX_step (go_seq (go_seq (go_reg0
  (go_op0 rfl rfl (st_id (v := th) (H := h) (by kernel_rfl)
  (go_op0 rfl rfl (st_id (v := t2) (H := h) (by kernel_rfl)
  (go_op0 rfl rfl (st_bp (by kernel_rfl) fun v58 h59 =>
  (go_op0 rfl rfl (st_bm (by kernel_rfl) fun v60 h61 =>
  (go_end0 (by kernel_rfl)
  (go_cond (by kernel_rfl)
  (go_skip (go_seq (go_block (go_seq (go_reg1 xo3_12r
  (go_op1 xo3_12 xo3_12a rfl rfl rfl (st_no (by kernel_rfl) (st_id (v := td) (H := h61) (by kernel_rfl)
  (go_op1 xo3_12 xo3_12a rfl rfl rfl (st_no (by kernel_rfl) (st_id (v := th) (H := h61) (by kernel_rfl)
  (go_op1 xo3_12 xo3_12a rfl rfl rfl (st_no (by kernel_rfl) (st_bm (by kernel_rfl) fun v62 h63 =>
  (go_op1 xo3_12 xo3_12a rfl rfl rfl (st_no (by kernel_rfl) (st_bm (by kernel_rfl) fun v64 h65 =>
  (go_op1 xo3_12 xo3_12a rfl rfl rfl (st_no (by kernel_rfl) (st_id (v := t2) (H := h65) (by kernel_rfl)
  (go_op1 xo3_12 xo3_12a rfl rfl rfl (st_no (by kernel_rfl) (st_id (v := th) (H := h65) (by kernel_rfl)
  (go_op1 xo3_12 xo3_12a rfl rfl rfl (st_no (by kernel_rfl) (st_bm (by kernel_rfl) fun v66 h67 =>
  (go_op1 xo3_12 xo3_12a rfl rfl rfl (st_no (by kernel_rfl) (st_bm (by kernel_rfl) fun v68 h69 =>
  (go_op1 xo3_12 xo3_12a rfl rfl rfl (st_no (by kernel_rfl) (st_bm (by kernel_rfl) fun v70 h71 =>
  (go_end1 xo3_12 (by kernel_rfl) xo3_12a
  (go_cond (by kernel_rfl)
  (go_reg0
  (go_op0 rfl rfl (st_id (v := tg) (H := h71) (by kernel_rfl)
  (go_op0 rfl rfl (st_bm (by kernel_rfl) fun v72 h73 =>
  (go_op0 rfl rfl (st_id (v := v72) (H := h73) (by kernel_rfl)
  (go_end0 (by kernel_rfl)
  (by kernel_rfl)))))))))
  (go_skip (by kernel_rfl))))))))))))))))))))))))))))))))))))
  (go_exit (rt_seq_exit (by kernel_rfl))))))))))))))))
theorem xj3_4 (s : Sys) (k wl : Nat) (h : Hp) : runK (xX s 3 wl k false) (bodyK s.P Try.f3) xk3_2 (.exit 0) ⟨(t0::t1::t2::t3::t4::t5::t6::t7::t8::t9::ta::tb::tc::td::te::tf::tg::th::ti::tj::tk::tl::tm::tn::tp::tq::tr::ts::tt::tu::tv::tw::tx::ty::tz::tA::tB::tC::tD::tE::tF::tG::tH::tI::tJ::tK::tL::tM::tN::tO::tP::tQ::tR::tS::tT::tU::tV::tW::tX::tY::tZ::q0::q1::q2::q3::q4::q5::q6::q7::q8::q9::qa::qb::qc::qd::qe::qf::qg::qh::qi::qj::qk::ql::qm::qn::qo::qp::qq::qr::qs::qt::qu::qv::qw::qx::qy::qz::qA::qB::qC::qD::qE::qF::qG::qH::qI::qJ::qK::qL::qM::qN::qO::qP::qQ::qR::qS::qT::qU::qV::qW::qX::qY::qZ::z0::z1::z2::z3::z4::z5::z6::z7::z8::z9::za::zb::zc::zd::ze::zf::zg::zh::zi::zj::zk::zl::zm::zn::zo::zp::zq::zr::zs::zt::zu::zv::zw::zx::zy::zz::zA::zB::zC::zD::zE::zF::zG::zH::zI::zJ::zK::zL::zM::zN::zO::zP::zQ::zR::zS::zT::zU::zV::zW::zX::zY::zZ::y0::y1::y2::y3::y4::y5::y6::[]),h⟩ =
  bm (vLoad s.P 23 t5 h) h fun v74 h75 =>
  bm (vLoad s.P 32 t9 h75) h75 fun v76 h77 =>
  bp (callV (xX s 3 wl k false) false true (.fn (.func 11) [] []) [v74,t1,t2,v76] h77) fun v78 h79 =>
  bm (vUn .not v78) h79 fun v80 h81 =>
  gd v80 (
  opsP (xX s 3 wl k false) xg3_3 11 h.length ([],[]) (runK (xX s 3 wl k false) (bodyK s.P Try.f3) xk3_4) ⟨(t0::t1::t2::t3::t4::t5::t6::t7::t8::t9::ta::tb::tc::td::te::tf::tg::th::ti::tj::tk::tl::tm::tn::tp::tq::tr::ts::tt::tu::tv::tw::tx::ty::tz::tA::tB::tC::tD::tE::tF::tG::tH::tI::tJ::tK::tL::tM::tN::tO::tP::tQ::tR::tS::tT::tU::tV::tW::tX::tY::tZ::q0::q1::q2::q3::q4::q5::q6::q7::q8::q9::qa::qb::qc::qd::qe::qf::qg::qh::qi::qj::v74::t1::t2::v76::v78::v80::(V.lit (Value.bool true))::uu::uu::uu::uu::qv::qw::qx::qy::qz::qA::qB::qC::qD::qE::qF::qG::qH::qI::qJ::qK::qL::qM::qN::qO::qP::qQ::qR::qS::qT::qU::qV::qW::qX::qY::qZ::z0::z1::z2::z3::z4::z5::z6::z7::z8::z9::za::zb::zc::zd::ze::zf::zg::zh::zi::zj::zk::zl::zm::zn::zo::zp::zq::zr::zs::zt::zu::zv::zw::zx::zy::zz::zA::zB::zC::zD::zE::zF::zG::zH::zI::zJ::zK::zL::zM::zN::zO::zP::zQ::zR::zS::zT::zU::zV::zW::zX::zY::zZ::y0::y1::y2::y3::y4::y5::y6::[]),h81⟩) (
  bm (vFieldAddr s.P 32 t9 1) h81 fun v82 h83 =>
  bm (vLoad s.P 27 v82 h83) h83 fun v84 h85 =>
  bp (opLen s.P 27 v84 h85) fun v86 h87 =>
  bm (vBin s.P .eql 3 v86 (V.lit (Value.int .i64 0))) h87 fun v88 h89 =>
  opsP (xX s 3 wl k false) xg3_3 11 h.length ([],[]) (runK (xX s 3 wl k false) (bodyK s.P Try.f3) xk3_4) ⟨(t0::t1::t2::t3::t4::t5::t6::t7::t8::t9::ta::tb::tc::td::te::tf::tg::th::ti::tj::tk::tl::tm::tn::tp::tq::tr::ts::tt::tu::tv::tw::tx::ty::tz::tA::tB::tC::tD::tE::tF::tG::tH::tI::tJ::tK::tL::tM::tN::tO::tP::tQ::tR::tS::tT::tU::tV::tW::tX::tY::tZ::q0::q1::q2::q3::q4::q5::q6::q7::q8::q9::qa::qb::qc::qd::qe::qf::qg::qh::qi::qj::v74::t1::t2::v76::v78::v80::(V.lit (Value.bool false))::v82::v84::v86::v88::qv::qw::qx::qy::qz::qA::qB::qC::qD::qE::qF::qG::qH::qI::qJ::qK::qL::qM::qN::qO::qP::qQ::qR::qS::qT::qU::qV::qW::qX::qY::qZ::z0::z1::z2::z3::z4::z5::z6::z7::z8::z9::za::zb::zc::zd::ze::zf::zg::zh::zi::zj::zk::zl::zm::zn::zo::zp::zq::zr::zs::zt::zu::zv::zw::zx::zy::zz::zA::zB::zC::zD::zE::zF::zG::zH::zI::zJ::zK::zL::zM::zN::zO::zP::zQ::zR::zS::zT::zU::zV::zW::zX::zY::zZ::y0::y1::y2::y3::y4::y5::y6::[]),h89⟩) (
  opsP (xX s 3 wl k false) xg3_3 8 h.length ([],[]) (runK (xX s 3 wl k false) (bodyK s.P Try.f3) xk3_4) ⟨(t0::t1::t2::t3::t4::t5::t6::t7::t8::t9::ta::tb::tc::td::te::tf::tg::th::ti::tj::tk::tl::tm::tn::tp::tq::tr::ts::tt::tu::tv::tw::tx::ty::tz::tA::tB::tC::tD::tE::tF::tG::tH::tI::tJ::tK::tL::tM::tN::tO::tP::tQ::tR::tS::tT::tU::tV::tW::tX::tY::tZ::q0::q1::q2::q3::q4::q5::q6::q7::q8::q9::qa::qb::qc::qd::qe::qf::qg::qh::qi::qj::v74::t1::t2::v76::v78::v80::v80::uu::qs::qt::qu::qv::qw::qx::qy::qz::qA::qB::qC::qD::qE::qF::qG::qH::qI::qJ::qK::qL::qM::qN::qO::qP::qQ::qR::qS::qT::qU::qV::qW::qX::qY::qZ::z0::z1::z2::z3::z4::z5::z6::z7::z8::z9::za::zb::zc::zd::ze::zf::zg::zh::zi::zj::zk::zl::zm::zn::zo::zp::zq::zr::zs::zt::zu::zv::zw::zx::zy::zz::zA::zB::zC::zD::zE::zF::zG::zH::zI::zJ::zK::zL::zM::zN::zO::zP::zQ::zR::zS::zT::zU::zV::zW::zX::zY::zZ::y0::y1::y2::y3::y4::y5::y6::[]),h81⟩) :=
  (rt_block_eq (go_seq (go_seq (go_reg0
  (go_op0 rfl rfl (st_bm (by kernel_rfl) fun v74 h75 =>
  (go_op0 rfl rfl (st_id (v := t1) (H := h75) (by kernel_rfl)
  (go_op0 rfl rfl (st_id (v := t2) (H := h75) (by kernel_rfl)
  (go_op0 rfl rfl (st_bm (by kernel_rfl) fun v76 h77 =>
  (go_op0 rfl rfl (st_bp (by kernel_rfl) fun v78 h79 =>
  (go_op0 rfl rfl (st_bm (by kernel_rfl) fun v80 h81 =>
  (go_op0 rfl rfl (st_id (v := v80) (H := h81) (by kernel_rfl)
  (go_gdF0 rfl rfl rfl (by kernel_rfl)
  (go_skip0 rfl rfl rfl (by kernel_rfl)
  (go_skip0 rfl rfl rfl (by kernel_rfl)
  (go_skip0 rfl rfl rfl (by kernel_rfl)
  (by kernel_rfl))))
  (st_bm (by kernel_rfl) fun v82 h83 =>
  (go_run0 rfl rfl rfl (by kernel_rfl) (st_bm (by kernel_rfl) fun v84 h85 =>
  (go_run0 rfl rfl rfl (by kernel_rfl) (st_bp (by kernel_rfl) fun v86 h87 =>
  (go_run0 rfl rfl rfl (by kernel_rfl) (st_bm (by kernel_rfl) fun v88 h89 =>
  (by kernel_rfl))))))))
  (by kernel_rfl))))))))))))))))))))
theorem xj3_5 (s : Sys) (K : Out → St → Option (V × Hp)) (k wl : Nat) (rd : Bool) (n n0 : Nat) (h : Hp) : runK (xX s 3 wl k rd) (nextK (xX s 3 wl k rd) xl3_0 n0 K n) xk3_3 .norm ⟨(t0::t1::t2::t3::t4::t5::t6::t7::t8::t9::ta::tb::tc::td::te::tf::tg::th::ti::tj::tk::tl::tm::tn::tp::tq::tr::ts::tt::tu::tv::tw::tx::ty::tz::tA::tB::tC::tD::tE::tF::tG::tH::tI::tJ::tK::tL::tM::tN::tO::tP::tQ::tR::tS::tT::tU::tV::tW::tX::tY::tZ::q0::q1::q2::q3::q4::q5::q6::q7::q8::q9::qa::qb::qc::qd::qe::qf::qg::qh::qi::qj::qk::ql::qm::qn::qo::qp::qq::qr::qs::qt::qu::qv::qw::qx::qy::qz::qA::qB::qC::qD::qE::qF::qG::qH::qI::qJ::qK::qL::qM::qN::qO::qP::qQ::qR::qS::qT::qU::qV::qW::qX::qY::qZ::z0::z1::z2::z3::z4::z5::z6::z7::z8::z9::za::zb::zc::zd::ze::zf::zg::zh::zi::zj::zk::zl::zm::zn::zo::zp::zq::zr::zs::zt::zu::zv::zw::zx::zy::zz::zA::zB::zC::zD::zE::zF::zG::zH::zI::zJ::zK::zL::zM::zN::zO::zP::zQ::zR::zS::zT::zU::zV::zW::zX::zY::zZ::y0::y1::y2::y3::y4::y5::y6::[]),h⟩ =
  bm (vBin s.P .add 3 th (V.lit (Value.int .i64 1))) h fun v90 h91 =>
  itX (xX s 3 wl k rd) xl3_0 n0 K n ⟨((V.kill n0 t0)::(V.kill n0 t1)::(V.kill n0 t2)::(V.kill n0 t3)::(V.kill n0 t4)::(V.kill n0 t5)::(V.kill n0 t6)::(V.kill n0 t7)::(V.kill n0 t8)::(V.kill n0 t9)::(V.kill n0 ta)::(V.kill n0 tb)::(V.kill n0 tc)::(V.kill n0 td)::(V.kill n0 te)::(V.kill n0 tf)::(V.kill n0 tg)::(V.kill n0 v90)::(V.kill n0 ti)::(V.kill n0 tj)::(V.kill n0 tk)::(V.kill n0 tl)::(V.kill n0 tm)::(V.kill n0 tn)::(V.kill n0 tp)::(V.kill n0 tq)::(V.kill n0 tr)::(V.kill n0 ts)::(V.kill n0 tt)::(V.kill n0 tu)::(V.kill n0 tv)::(V.kill n0 tw)::(V.kill n0 tx)::(V.kill n0 ty)::(V.kill n0 tz)::(V.kill n0 tA)::(V.kill n0 tB)::(V.kill n0 tC)::(V.kill n0 tD)::(V.kill n0 tE)::(V.kill n0 tF)::(V.kill n0 tG)::(V.kill n0 tH)::(V.kill n0 tI)::(V.kill n0 tJ)::(V.kill n0 tK)::(V.kill n0 tL)::(V.kill n0 tM)::(V.kill n0 tN)::(V.kill n0 tO)::(V.kill n0 tP)::(V.kill n0 tQ)::(V.kill n0 tR)::(V.kill n0 tS)::(V.kill n0 tT)::(V.kill n0 tU)::(V.kill n0 tV)::(V.kill n0 tW)::(V.kill n0 tX)::(V.kill n0 tY)::(V.kill n0 tZ)::(V.kill n0 q0)::(V.kill n0 q1)::(V.kill n0 q2)::.junk::.junk::.junk::.junk::.junk::.junk::.junk::.junk::.junk::.junk::.junk::.junk::.junk::.junk::.junk::.junk::.junk::(V.kill n0 qk)::(V.kill n0 ql)::(V.kill n0 qm)::(V.kill n0 qn)::(V.kill n0 qo)::(V.kill n0 qp)::(V.kill n0 qq)::(V.kill n0 qr)::(V.kill n0 qs)::(V.kill n0 qt)::(V.kill n0 qu)::(V.kill n0 qv)::(V.kill n0 qw)::(V.kill n0 qx)::(V.kill n0 qy)::(V.kill n0 qz)::(V.kill n0 qA)::(V.kill n0 qB)::(V.kill n0 qC)::(V.kill n0 qD)::(V.kill n0 qE)::(V.kill n0 qF)::(V.kill n0 qG)::(V.kill n0 qH)::(V.kill n0 qI)::(V.kill n0 qJ)::(V.kill n0 qK)::(V.kill n0 qL)::(V.kill n0 qM)::(V.kill n0 qN)::(V.kill n0 qO)::(V.kill n0 qP)::(V.kill n0 qQ)::(V.kill n0 qR)::(V.kill n0 qS)::(V.kill n0 qT)::(V.kill n0 qU)::(V.kill n0 qV)::(V.kill n0 qW)::(V.kill n0 qX)::(V.kill n0 qY)::(V.kill n0 qZ)::(V.kill n0 z0)::(V.kill n0 z1)::(V.kill n0 z2)::(V.kill n0 z3)::(V.kill n0 z4)::(V.kill n0 z5)::(V.kill n0 z6)::(V.kill n0 z7)::(V.kill n0 z8)::(V.kill n0 z9)::(V.kill n0 za)::(V.kill n0 zb)::(V.kill n0 zc)::(V.kill n0 zd)::(V.kill n0 ze)::(V.kill n0 zf)::(V.kill n0 zg)::(V.kill n0 zh)::(V.kill n0 zi)::(V.kill n0 zj)::(V.kill n0 zk)::(V.kill n0 zl)::(V.kill n0 zm)::(V.kill n0 zn)::(V.kill n0 zo)::(V.kill n0 zp)::(V.kill n0 zq)::(V.kill n0 zr)::(V.kill n0 zs)::(V.kill n0 zt)::(V.kill n0 zu)::(V.kill n0 zv)::(V.kill n0 zw)::(V.kill n0 zx)::(V.kill n0 zy)::(V.kill n0 zz)::(V.kill n0 zA)::(V.kill n0 zB)::(V.kill n0 zC)::(V.kill n0 zD)::(V.kill n0 zE)::(V.kill n0 zF)::(V.kill n0 zG)::(V.kill n0 zH)::(V.kill n0 zI)::(V.kill n0 zJ)::(V.kill n0 zK)::(V.kill n0 zL)::(V.kill n0 zM)::(V.kill n0 zN)::(V.kill n0 zO)::(V.kill n0 zP)::(V.kill n0 zQ)::(V.kill n0 zR)::(V.kill n0 zS)::(V.kill n0 zT)::(V.kill n0 zU)::(V.kill n0 zV)::(V.kill n0 zW)::(V.kill n0 zX)::(V.kill n0 zY)::(V.kill n0 zZ)::(V.kill n0 y0)::(V.kill n0 y1)::(V.kill n0 y2)::(V.kill n0 y3)::(V.kill n0 y4)::(V.kill n0 y5)::(V.kill n0 y6)::[]),cutH n0 h91⟩ :=
  (rt_block_norm (go_reg0
  (go_op0 rfl rfl (st_id (v := th) (H := h) (by kernel_rfl)
  (go_op0 rfl rfl (st_bm (by kernel_rfl) fun v90 h91 =>
  (go_op0 rfl rfl (st_id (v := v90) (H := h91) (by kernel_rfl)
  (go_end0 (by kernel_rfl)
  (by kernel_rfl))))))))))
theorem xm3_6 (s : Sys) (k wl : Nat) (m0 : Nat) (ac : List Nat × List Nat) (h : Hp) : opsP (xX s 3 wl k false) xg3_3 11 m0 ac (runK (xX s 3 wl k false) (bodyK s.P Try.f3) xk3_4) ⟨(t0::t1::t2::t3::t4::t5::t6::t7::t8::t9::ta::tb::tc::td::te::tf::tg::th::ti::tj::tk::tl::tm::tn::tp::tq::tr::ts::tt::tu::tv::tw::tx::ty::tz::tA::tB::tC::tD::tE::tF::tG::tH::tI::tJ::tK::tL::tM::tN::tO::tP::tQ::tR::tS::tT::tU::tV::tW::tX::tY::tZ::q0::q1::q2::q3::q4::q5::q6::q7::q8::q9::qa::qb::qc::qd::qe::qf::qg::qh::qi::qj::qk::ql::qm::qn::qo::qp::qq::qr::qs::qt::qu::qv::qw::qx::qy::qz::qA::qB::qC::qD::qE::qF::qG::qH::qI::qJ::qK::qL::qM::qN::qO::qP::qQ::qR::qS::qT::qU::qV::qW::qX::qY::qZ::z0::z1::z2::z3::z4::z5::z6::z7::z8::z9::za::zb::zc::zd::ze::zf::zg::zh::zi::zj::zk::zl::zm::zn::zo::zp::zq::zr::zs::zt::zu::zv::zw::zx::zy::zz::zA::zB::zC::zD::zE::zF::zG::zH::zI::zJ::zK::zL::zM::zN::zO::zP::zQ::zR::zS::zT::zU::zV::zW::zX::zY::zZ::y0::y1::y2::y3::y4::y5::y6::[]),h⟩ =
  bm (vPick qq (V.lit (Value.bool true)) qu) h fun v92 h93 =>
  cnd v92 (
  bm (vBin s.P .eql 3 tg (V.lit (Value.int .i64 0))) h93 fun v94 h95 =>
  gd v94 (
  bp (opLen s.P 35 tf h95) fun v96 h97 =>
  bm (vBin s.P .eql 3 v96 (V.lit (Value.int .i64 0))) h97 fun v98 h99 =>
  opsP (xX s 3 wl k false) xg3_4 6 h93.length ([],[]) (runK (xX s 3 wl k false) (bodyK s.P Try.f3) xk3_5) ⟨(t0::t1::t2::t3::t4::t5::t6::t7::t8::t9::ta::tb::tc::td::te::tf::tg::th::ti::tj::tk::tl::tm::tn::tp::tq::tr::ts::tt::tu::tv::tw::tx::ty::tz::tA::tB::tC::tD::tE::tF::tG::tH::tI::tJ::tK::tL::tM::tN::tO::tP::tQ::tR::tS::tT::tU::tV::tW::tX::tY::tZ::q0::q1::q2::q3::q4::q5::q6::q7::q8::q9::qa::qb::qc::qd::qe::qf::qg::qh::qi::qj::qk::ql::qm::qn::qo::qp::qq::qr::qs::qt::qu::v92::tg::v94::(V.lit (Value.bool true))::tf::v96::v98::qC::qD::qE::qF::qG::qH::qI::qJ::qK::qL::qM::qN::qO::qP::qQ::qR::qS::qT::qU::qV::qW::qX::qY::qZ::z0::z1::z2::z3::z4::z5::z6::z7::z8::z9::za::zb::zc::zd::ze::zf::zg::zh::zi::zj::zk::zl::zm::zn::zo::zp::zq::zr::zs::zt::zu::zv::zw::zx::zy::zz::zA::zB::zC::zD::zE::zF::zG::zH::zI::zJ::zK::zL::zM::zN::zO::zP::zQ::zR::zS::zT::zU::zV::zW::zX::zY::zZ::y0::y1::y2::y3::y4::y5::y6::[]),h99⟩) (
  opsP (xX s 3 wl k false) xg3_4 6 h93.length ([],[]) (runK (xX s 3 wl k false) (bodyK s.P Try.f3) xk3_5) ⟨(t0::t1::t2::t3::t4::t5::t6::t7::t8::t9::ta::tb::tc::td::te::tf::tg::th::ti::tj::tk::tl::tm::tn::tp::tq::tr::ts::tt::tu::tv::tw::tx::ty::tz::tA::tB::tC::tD::tE::tF::tG::tH::tI::tJ::tK::tL::tM::tN::tO::tP::tQ::tR::tS::tT::tU::tV::tW::tX::tY::tZ::q0::q1::q2::q3::q4::q5::q6::q7::q8::q9::qa::qb::qc::qd::qe::qf::qg::qh::qi::qj::qk::ql::qm::qn::qo::qp::qq::qr::qs::qt::qu::v92::tg::v94::(V.lit (Value.bool false))::uu::uu::uu::qC::qD::qE::qF::qG::qH::qI::qJ::qK::qL::qM::qN::qO::qP::qQ::qR::qS::qT::qU::qV::qW::qX::qY::qZ::z0::z1::z2::z3::z4::z5::z6::z7::z8::z9::za::zb::zc::zd::ze::zf::zg::zh::zi::zj::zk::zl::zm::zn::zo::zp::zq::zr::zs::zt::zu::zv::zw::zx::zy::zz::zA::zB::zC::zD::zE::zF::zG::zH::zI::zJ::zK::zL::zM::zN::zO::zP::zQ::zR::zS::zT::zU::zV::zW::zX::zY::zZ::y0::y1::y2::y3::y4::y5::y6::[]),h95⟩) (
  opsP (xX s 3 wl k false) xg3_4 4 h93.length ([],[]) (runK (xX s 3 wl k false) (bodyK s.P Try.f3) xk3_5) ⟨(t0::t1::t2::t3::t4::t5::t6::t7::t8::t9::ta::tb::tc::td::te::tf::tg::th::ti::tj::tk::tl::tm::tn::tp::tq::tr::ts::tt::tu::tv::tw::tx::ty::tz::tA::tB::tC::tD::tE::tF::tG::tH::tI::tJ::tK::tL::tM::tN::tO::tP::tQ::tR::tS::tT::tU::tV::tW::tX::tY::tZ::q0::q1::q2::q3::q4::q5::q6::q7::q8::q9::qa::qb::qc::qd::qe::qf::qg::qh::qi::qj::qk::ql::qm::qn::qo::qp::qq::qr::qs::qt::qu::v92::tg::v94::v94::uu::qA::qB::qC::qD::qE::qF::qG::qH::qI::qJ::qK::qL::qM::qN::qO::qP::qQ::qR::qS::qT::qU::qV::qW::qX::qY::qZ::z0::z1::z2::z3::z4::z5::z6::z7::z8::z9::za::zb::zc::zd::ze::zf::zg::zh::zi::zj::zk::zl::zm::zn::zo::zp::zq::zr::zs::zt::zu::zv::zw::zx::zy::zz::zA::zB::zC::zD::zE::zF::zG::zH::zI::zJ::zK::zL::zM::zN::zO::zP::zQ::zR::zS::zT::zU::zV::zW::zX::zY::zZ::y0::y1::y2::y3::y4::y5::y6::[]),h95⟩)) (
  bm (vFieldAddr s.P 32 te 1) h93 fun v100 h101 =>
  bm (vLoad s.P 27 v100 h101) h101 fun v102 h103 =>
  bp (opLen s.P 27 v102 h103) fun v104 h105 =>
  bm (vFieldAddr s.P 32 t9 1) h105 fun v106 h107 =>
  bm (vLoad s.P 27 v106 h107) h107 fun v108 h109 =>
  bp (opLen s.P 27 v108 h109) fun v110 h111 =>
  bm (vBin s.P .sub 3 v110 (V.lit (Value.int .i64 1))) h111 fun v112 h113 =>
  bm (vBin s.P .eql 3 v104 v112) h113 fun v114 h115 =>
  bm (vFieldAddr s.P 32 te 1) h115 fun v116 h117 =>
  bm (vLoad s.P 27 v116 h117) h117 fun v118 h119 =>
  bp (opLen s.P 27 v118 h119) fun v120 h121 =>
  bm (vFieldAddr s.P 32 t9 1) h121 fun v122 h123 =>
  bm (vLoad s.P 27 v122 h123) h123 fun v124 h125 =>
  bp (opLen s.P 27 v124 h125) fun v126 h127 =>
  bm (vBin s.P .eql 3 v120 v126) h127 fun v128 h129 =>
  bp (opLen s.P 35 tf h129) fun v130 h131 =>
  bm (vBin s.P .gtr 3 v130 (V.lit (Value.int .i64 0))) h131 fun v132 h133 =>
  gd v132 (
  bm (vIndexAddr s.P 35 tf (V.lit (Value.int .i64 0)) h133) h133 fun v134 h135 =>
  bm (vFieldAddr s.P 41 v134 1) h135 fun v136 h137 =>
  bm (vLoad s.P 3 v136 h137) h137 fun v138 h139 =>
  bm (vFieldAddr s.P 32 t9 1) h139 fun v140 h141 =>
  bm (vLoad s.P 27 v140 h141) h141 fun v142 h143 =>
  bm (vIndexAddr s.P 27 v142 (V.lit (Value.int .i64 0)) h143) h143 fun v144 h145 =>
  bm (vLoad s.P 3 v144 h145) h145 fun v146 h147 =>
  bm (vBin s.P .eql 3 v138 v146) h147 fun v148 h149 =>
  opsP (xX s 3 wl k false) xg3_5 13 h129.length ([],[]) (runK (xX s 3 wl k false) (bodyK s.P Try.f3) xk3_6) ⟨(t0::t1::t2::t3::t4::t5::t6::t7::t8::t9::ta::tb::tc::td::te::tf::tg::th::v114::v128::tk::tl::tm::tn::tp::tq::tr::ts::tt::tu::tv::tw::tx::ty::tz::tA::tB::tC::tD::tE::tF::tG::tH::tI::tJ::tK::tL::tM::tN::tO::tP::tQ::tR::tS::tT::tU::tV::tW::tX::tY::tZ::q0::q1::q2::q3::q4::q5::q6::q7::q8::q9::qa::qb::qc::qd::qe::qf::qg::qh::qi::qj::qk::ql::qm::qn::qo::qp::qq::qr::qs::qt::qu::v92::qw::qx::qy::qz::qA::qB::qC::qD::qE::qF::qG::qH::v100::v102::v104::v106::v108::v110::v112::v114::v116::v118::v120::v122::v124::v126::v128::tf::v130::v132::(V.lit (Value.bool true))::tf::v134::v136::v138::v140::v142::v144::v146::v148::za::zb::zc::zd::ze::zf::zg::zh::zi::zj::zk::zl::zm::zn::zo::zp::zq::zr::zs::zt::zu::zv::zw::zx::zy::zz::zA::zB::zC::zD::zE::zF::zG::zH::zI::zJ::zK::zL::zM::zN::zO::zP::zQ::zR::zS::zT::zU::zV::zW::zX::zY::zZ::y0::y1::y2::y3::y4::y5::y6::[]),h149⟩) (
  opsP (xX s 3 wl k false) xg3_5 13 h129.length ([],[]) (runK (xX s 3 wl k false) (bodyK s.P Try.f3) xk3_6) ⟨(t0::t1::t2::t3::t4::t5::t6::t7::t8::t9::ta::tb::tc::td::te::tf::tg::th::v114::v128::tk::tl::tm::tn::tp::tq::tr::ts::tt::tu::tv::tw::tx::ty::tz::tA::tB::tC::tD::tE::tF::tG::tH::tI::tJ::tK::tL::tM::tN::tO::tP::tQ::tR::tS::tT::tU::tV::tW::tX::tY::tZ::q0::q1::q2::q3::q4::q5::q6::q7::q8::q9::qa::qb::qc::qd::qe::qf::qg::qh::qi::qj::qk::ql::qm::qn::qo::qp::qq::qr::qs::qt::qu::v92::qw::qx::qy::qz::qA::qB::qC::qD::qE::qF::qG::qH::v100::v102::v104::v106::v108::v110::v112::v114::v116::v118::v120::v122::v124::v126::v128::tf::v130::v132::(V.lit (Value.bool false))::uu::uu::uu::uu::uu::uu::uu::uu::uu::za::zb::zc::zd::ze::zf::zg::zh::zi::zj::zk::zl::zm::zn::zo::zp::zq::zr::zs::zt::zu::zv::zw::zx::zy::zz::zA::zB::zC::zD::zE::zF::zG::zH::zI::zJ::zK::zL::zM::zN::zO::zP::zQ::zR::zS::zT::zU::zV::zW::zX::zY::zZ::y0::y1::y2::y3::y4::y5::y6::[]),h133⟩) (
  opsP (xX s 3 wl k false) xg3_5 5 h129.length ([],[]) (runK (xX s 3 wl k false) (bodyK s.P Try.f3) xk3_6) ⟨(t0::t1::t2::t3::t4::t5::t6::t7::t8::t9::ta::tb::tc::td::te::tf::tg::th::v114::v128::tk::tl::tm::tn::tp::tq::tr::ts::tt::tu::tv::tw::tx::ty::tz::tA::tB::tC::tD::tE::tF::tG::tH::tI::tJ::tK::tL::tM::tN::tO::tP::tQ::tR::tS::tT::tU::tV::tW::tX::tY::tZ::q0::q1::q2::q3::q4::q5::q6::q7::q8::q9::qa::qb::qc::qd::qe::qf::qg::qh::qi::qj::qk::ql::qm::qn::qo::qp::qq::qr::qs::qt::qu::v92::qw::qx::qy::qz::qA::qB::qC::qD::qE::qF::qG::qH::v100::v102::v104::v106::v108::v110::v112::v114::v116::v118::v120::v122::v124::v126::v128::tf::v130::v132::v132::uu::z2::z3::z4::z5::z6::z7::z8::z9::za::zb::zc::zd::ze::zf::zg::zh::zi::zj::zk::zl::zm::zn::zo::zp::zq::zr::zs::zt::zu::zv::zw::zx::zy::zz::zA::zB::zC::zD::zE::zF::zG::zH::zI::zJ::zK::zL::zM::zN::zO::zP::zQ::zR::zS::zT::zU::zV::zW::zX::zY::zZ::y0::y1::y2::y3::y4::y5::y6::[]),h133⟩)) :=
  (go_op0 rfl rfl (st_bm (by kernel_rfl) fun v92 h93 =>
  (go_end0 (by kernel_rfl)
  (go_cond (by kernel_rfl)
  (go_seq (go_reg0
  (go_op0 rfl rfl (st_id (v := tg) (H := h93) (by kernel_rfl)
  (go_op0 rfl rfl (st_bm (by kernel_rfl) fun v94 h95 =>
  (go_op0 rfl rfl (st_id (v := v94) (H := h95) (by kernel_rfl)
  (go_gdT0 rfl rfl rfl (by kernel_rfl)
  (st_id (v := tf) (H := h95) (by kernel_rfl)
  (go_run0 rfl rfl rfl (by kernel_rfl) (st_bp (by kernel_rfl) fun v96 h97 =>
  (go_run0 rfl rfl rfl (by kernel_rfl) (st_bm (by kernel_rfl) fun v98 h99 =>
  (by kernel_rfl))))))
  (go_skip0 rfl rfl rfl (by kernel_rfl)
  (go_skip0 rfl rfl rfl (by kernel_rfl)
  (by kernel_rfl)))
  (by kernel_rfl))))))))))
  (go_skip (go_seq (go_reg0
  (go_op0 rfl rfl (st_bm (by kernel_rfl) fun v100 h101 =>
  (go_op0 rfl rfl (st_bm (by kernel_rfl) fun v102 h103 =>
  (go_op0 rfl rfl (st_bp (by kernel_rfl) fun v104 h105 =>
  (go_op0 rfl rfl (st_bm (by kernel_rfl) fun v106 h107 =>
  (go_op0 rfl rfl (st_bm (by kernel_rfl) fun v108 h109 =>
  (go_op0 rfl rfl (st_bp (by kernel_rfl) fun v110 h111 =>
  (go_op0 rfl rfl (st_bm (by kernel_rfl) fun v112 h113 =>
  (go_op0 rfl rfl (st_bm (by kernel_rfl) fun v114 h115 =>
  (go_op0 rfl rfl (st_id (v := v114) (H := h115) (by kernel_rfl)
  (go_end0 (by kernel_rfl)
  (go_seq (go_reg0
  (go_op0 rfl rfl (st_bm (by kernel_rfl) fun v116 h117 =>
  (go_op0 rfl rfl (st_bm (by kernel_rfl) fun v118 h119 =>
  (go_op0 rfl rfl (st_bp (by kernel_rfl) fun v120 h121 =>
  (go_op0 rfl rfl (st_bm (by kernel_rfl) fun v122 h123 =>
  (go_op0 rfl rfl (st_bm (by kernel_rfl) fun v124 h125 =>
  (go_op0 rfl rfl (st_bp (by kernel_rfl) fun v126 h127 =>
  (go_op0 rfl rfl (st_bm (by kernel_rfl) fun v128 h129 =>
  (go_op0 rfl rfl (st_id (v := v128) (H := h129) (by kernel_rfl)
  (go_end0 (by kernel_rfl)
  (go_seq (go_reg1 xo3_18r
  (go_op1 xo3_18 xo3_18a rfl rfl rfl (st_no (by kernel_rfl) (st_id (v := tf) (H := h129) (by kernel_rfl)
  (go_op1 xo3_18 xo3_18a rfl rfl rfl (st_no (by kernel_rfl) (st_bp (by kernel_rfl) fun v130 h131 =>
  (go_op1 xo3_18 xo3_18a rfl rfl rfl (st_no (by kernel_rfl) (st_bm (by kernel_rfl) fun v132 h133 =>
  (go_op1 xo3_18 xo3_18a rfl rfl rfl (st_no (by kernel_rfl) (st_id (v := v132) (H := h133) (by kernel_rfl)
  (go_gdT1 xo3_18 xo3_18a rfl rfl rfl rfl (by kernel_rfl)
  (st_no (by kernel_rfl) (st_id (v := tf) (H := h133) (by kernel_rfl)
  (go_run1 xo3_18 xo3_18a rfl rfl rfl rfl (by kernel_rfl) (st_no (by kernel_rfl) (st_bm (by kernel_rfl) fun v134 h135 =>
  (go_run1 xo3_18 xo3_18a rfl rfl rfl rfl (by kernel_rfl) (st_no (by kernel_rfl) (st_bm (by kernel_rfl) fun v136 h137 =>
  (go_run1 xo3_18 xo3_18a rfl rfl rfl rfl (by kernel_rfl) (st_no (by kernel_rfl) (st_bm (by kernel_rfl) fun v138 h139 =>
  (go_run1 xo3_18 xo3_18a rfl rfl rfl rfl (by kernel_rfl) (st_no (by kernel_rfl) (st_bm (by kernel_rfl) fun v140 h141 =>
  (go_run1 xo3_18 xo3_18a rfl rfl rfl rfl (by kernel_rfl) (st_no (by kernel_rfl) (st_bm (by kernel_rfl) fun v142 h143 =>
  (go_run1 xo3_18 xo3_18a rfl rfl rfl rfl (by kernel_rfl) (st_no (by kernel_rfl) (st_bm (by kernel_rfl) fun v144 h145 =>
  (go_run1 xo3_18 xo3_18a rfl rfl rfl rfl (by kernel_rfl) (st_no (by kernel_rfl) (st_bm (by kernel_rfl) fun v146 h147 =>
  (go_run1 xo3_18 xo3_18a rfl rfl rfl rfl (by kernel_rfl) (st_no (by kernel_rfl) (st_bm (by kernel_rfl) fun v148 h149 =>
  (by kernel_rfl)))))))))))))))))))))))))))
  (go_skip1 xo3_18 rfl rfl rfl rfl (by kernel_rfl)
  (go_skip1 xo3_18 rfl rfl rfl rfl (by kernel_rfl)
  (go_skip1 xo3_18 rfl rfl rfl rfl (by kernel_rfl)
  (go_skip1 xo3_18 rfl rfl rfl rfl (by kernel_rfl)
  (go_skip1 xo3_18 rfl rfl rfl rfl (by kernel_rfl)
  (go_skip1 xo3_18 rfl rfl rfl rfl (by kernel_rfl)
  (go_skip1 xo3_18 rfl rfl rfl rfl (by kernel_rfl)
  (go_skip1 xo3_18 rfl rfl rfl rfl (by kernel_rfl)
  (by kernel_rfl)))))))))
  (by kernel_rfl)))))))))))))))))))))))))))))))))))))))))))))))))))))))))))))
theorem xm3_7 (s : Sys) (k wl : Nat) (m0 : Nat) (ac : List Nat × List Nat) (h : Hp) : opsP (xX s 3 wl k false) xg3_4 6 m0 ac (runK (xX s 3 wl k false) (bodyK s.P Try.f3) xk3_5) ⟨(t0::t1::t2::t3::t4::t5::t6::t7::t8::t9::ta::tb::tc::td::te::tf::tg::th::ti::tj::tk::tl::tm::tn::tp::tq::tr::ts::tt::tu::tv::tw::tx::ty::tz::tA::tB::tC::tD::tE::tF::tG::tH::tI::tJ::tK::tL::tM::tN::tO::tP::tQ::tR::tS::tT::tU::tV::tW::tX::tY::tZ::q0::q1::q2::q3::q4::q5::q6::q7::q8::q9::qa::qb::qc::qd::qe::qf::qg::qh::qi::qj::qk::ql::qm::qn::qo::qp::qq::qr::qs::qt::qu::qv::qw::qx::qy::qz::qA::qB::qC::qD::qE::qF::qG::qH::qI::qJ::qK::qL::qM::qN::qO::qP::qQ::qR::qS::qT::qU::qV::qW::qX::qY::qZ::z0::z1::z2::z3::z4::z5::z6::z7::z8::z9::za::zb::zc::zd::ze::zf::zg::zh::zi::zj::zk::zl::zm::zn::zo::zp::zq::zr::zs::zt::zu::zv::zw::zx::zy::zz::zA::zB::zC::zD::zE::zF::zG::zH::zI::zJ::zK::zL::zM::zN::zO::zP::zQ::zR::zS::zT::zU::zV::zW::zX::zY::zZ::y0::y1::y2::y3::y4::y5::y6::[]),h⟩ =
  bm (vPick qy qB (V.lit (Value.bool false))) h fun v150 h151 =>
  gd v150 (
  bm (vLoad s.P 32 t9 h151) h151 fun v152 h153 =>
  bm (vLoad s.P 32 te h153) h153 fun v154 h155 =>
  bp (callV (xX s 3 wl k false) false true (.fn (.func 12) [] []) [v152,v154] h155) fun v156 h157 =>
  opsP (xX s 3 wl k false) xg3_4 11 m0 ac (runK (xX s 3 wl k false) (bodyK s.P Try.f3) xk3_5) ⟨(t0::t1::t2::t3::t4::t5::t6::t7::t8::t9::ta::tb::tc::td::te::tf::tg::th::ti::tj::tk::tl::tm::tn::tp::tq::tr::ts::tt::tu::tv::tw::tx::ty::tz::tA::tB::tC::tD::tE::tF::tG::tH::tI::tJ::tK::tL::tM::tN::tO::tP::tQ::tR::tS::tT::tU::tV::tW::tX::tY::tZ::q0::q1::q2::q3::q4::q5::q6::q7::q8::q9::qa::qb::qc::qd::qe::qf::qg::qh::qi::qj::qk::ql::qm::qn::qo::qp::qq::qr::qs::qt::qu::qv::qw::qx::qy::qz::qA::qB::v150::(V.lit (Value.bool true))::v152::v154::v156::qH::qI::qJ::qK::qL::qM::qN::qO::qP::qQ::qR::qS::qT::qU::qV::qW::qX::qY::qZ::z0::z1::z2::z3::z4::z5::z6::z7::z8::z9::za::zb::zc::zd::ze::zf::zg::zh::zi::zj::zk::zl::zm::zn::zo::zp::zq::zr::zs::zt::zu::zv::zw::zx::zy::zz::zA::zB::zC::zD::zE::zF::zG::zH::zI::zJ::zK::zL::zM::zN::zO::zP::zQ::zR::zS::zT::zU::zV::zW::zX::zY::zZ::y0::y1::y2::y3::y4::y5::y6::[]),h157⟩) (
  opsP (xX s 3 wl k false) xg3_4 11 m0 ac (runK (xX s 3 wl k false) (bodyK s.P Try.f3) xk3_5) ⟨(t0::t1::t2::t3::t4::t5::t6::t7::t8::t9::ta::tb::tc::td::te::tf::tg::th::ti::tj::tk::tl::tm::tn::tp::tq::tr::ts::tt::tu::tv::tw::tx::ty::tz::tA::tB::tC::tD::tE::tF::tG::tH::tI::tJ::tK::tL::tM::tN::tO::tP::tQ::tR::tS::tT::tU::tV::tW::tX::tY::tZ::q0::q1::q2::q3::q4::q5::q6::q7::q8::q9::qa::qb::qc::qd::qe::qf::qg::qh::qi::qj::qk::ql::qm::qn::qo::qp::qq::qr::qs::qt::qu::qv::qw::qx::qy::qz::qA::qB::v150::(V.lit (Value.bool false))::uu::uu::uu::qH::qI::qJ::qK::qL::qM::qN::qO::qP::qQ::qR::qS::qT::qU::qV::qW::qX::qY::qZ::z0::z1::z2::z3::z4::z5::z6::z7::z8::z9::za::zb::zc::zd::ze::zf::zg::zh::zi::zj::zk::zl::zm::zn::zo::zp::zq::zr::zs::zt::zu::zv::zw::zx::zy::zz::zA::zB::zC::zD::zE::zF::zG::zH::zI::zJ::zK::zL::zM::zN::zO::zP::zQ::zR::zS::zT::zU::zV::zW::zX::zY::zZ::y0::y1::y2::y3::y4::y5::y6::[]),h151⟩) (
  opsP (xX s 3 wl k false) xg3_4 9 m0 ac (runK (xX s 3 wl k false) (bodyK s.P Try.f3) xk3_5) ⟨(t0::t1::t2::t3::t4::t5::t6::t7::t8::t9::ta::tb::tc::td::te::tf::tg::th::ti::tj::tk::tl::tm::tn::tp::tq::tr::ts::tt::tu::tv::tw::tx::ty::tz::tA::tB::tC::tD::tE::tF::tG::tH::tI::tJ::tK::tL::tM::tN::tO::tP::tQ::tR::tS::tT::tU::tV::tW::tX::tY::tZ::q0::q1::q2::q3::q4::q5::q6::q7::q8::q9::qa::qb::qc::qd::qe::qf::qg::qh::qi::qj::qk::ql::qm::qn::qo::qp::qq::qr::qs::qt::qu::qv::qw::qx::qy::qz::qA::qB::v150::v150::uu::qF::qG::qH::qI::qJ::qK::qL::qM::qN::qO::qP::qQ::qR::qS::qT::qU::qV::qW::qX::qY::qZ::z0::z1::z2::z3::z4::z5::z6::z7::z8::z9::za::zb::zc::zd::ze::zf::zg::zh::zi::zj::zk::zl::zm::zn::zo::zp::zq::zr::zs::zt::zu::zv::zw::zx::zy::zz::zA::zB::zC::zD::zE::zF::zG::zH::zI::zJ::zK::zL::zM::zN::zO::zP::zQ::zR::zS::zT::zU::zV::zW::zX::zY::zZ::y0::y1::y2::y3::y4::y5::y6::[]),h151⟩) :=
  (go_op0 rfl rfl (st_bm (by kernel_rfl) fun v150 h151 =>
  (go_op0 rfl rfl (st_id (v := v150) (H := h151) (by kernel_rfl)
  (go_gdT0 rfl rfl rfl (by kernel_rfl)
  (st_bm (by kernel_rfl) fun v152 h153 =>
  (go_run0 rfl rfl rfl (by kernel_rfl) (st_bm (by kernel_rfl) fun v154 h155 =>
  (go_run0 rfl rfl rfl (by kernel_rfl) (st_bp (by kernel_rfl) fun v156 h157 =>
  (by kernel_rfl))))))
  (go_skip0 rfl rfl rfl (by kernel_rfl)
  (go_skip0 rfl rfl rfl (by kernel_rfl)
  (by kernel_rfl)))
  (by kernel_rfl))))))
theorem xm3_8 (s : Sys) (k wl : Nat) (m0 : Nat) (ac : List Nat × List Nat) (h : Hp) : opsP (xX s 3 wl k false) xg3_5 13 m0 ac (runK (xX s 3 wl k false) (bodyK s.P Try.f3) xk3_6) ⟨(t0::t1::t2::t3::t4::t5::t6::t7::t8::t9::ta::tb::tc::td::te::tf::tg::th::ti::tj::tk::tl::tm::tn::tp::tq::tr::ts::tt::tu::tv::tw::tx::ty::tz::tA::tB::tC::tD::tE::tF::tG::tH::tI::tJ::tK::tL::tM::tN::tO::tP::tQ::tR::tS::tT::tU::tV::tW::tX::tY::tZ::q0::q1::q2::q3::q4::q5::q6::q7::q8::q9::qa::qb::qc::qd::qe::qf::qg::qh::qi::qj::qk::ql::qm::qn::qo::qp::qq::qr::qs::qt::qu::qv::qw::qx::qy::qz::qA::qB::qC::qD::qE::qF::qG::qH::qI::qJ::qK::qL::qM::qN::qO::qP::qQ::qR::qS::qT::qU::qV::qW::qX::qY::qZ::z0::z1::z2::z3::z4::z5::z6::z7::z8::z9::za::zb::zc::zd::ze::zf::zg::zh::zi::zj::zk::zl::zm::zn::zo::zp::zq::zr::zs::zt::zu::zv::zw::zx::zy::zz::zA::zB::zC::zD::zE::zF::zG::zH::zI::zJ::zK::zL::zM::zN::zO::zP::zQ::zR::zS::zT::zU::zV::zW::zX::zY::zZ::y0::y1::y2::y3::y4::y5::y6::[]),h⟩ =
  bm (vPick z0 z9 (V.lit (Value.bool false))) h fun v158 h159 =>
  gd v158 (
  bm (vIndexAddr s.P 35 tf (V.lit (Value.int .i64 0)) h159) h159 fun v160 h161 =>
  bm (vFieldAddr s.P 41 v160 2) h161 fun v162 h163 =>
  bm (vLoad s.P 3 v162 h163) h163 fun v164 h165 =>
  bm (vBin s.P .eql 3 v164 t3) h165 fun v166 h167 =>
  opsP (xX s 3 wl k false) xg3_5 21 m0 ac (runK (xX s 3 wl k false) (bodyK s.P Try.f3) xk3_6) ⟨(t0::t1::t2::t3::t4::t5::t6::t7::t8::t9::ta::tb::tc::td::te::tf::tg::th::ti::tj::tk::tl::tm::tn::tp::tq::tr::ts::tt::tu::tv::tw::tx::ty::tz::tA::tB::tC::tD::tE::tF::tG::tH::tI::tJ::tK::tL::tM::tN::tO::tP::tQ::tR::tS::tT::tU::tV::tW::tX::tY::tZ::q0::q1::q2::q3::q4::q5::q6::q7::q8::q9::qa::qb::qc::qd::qe::qf::qg::qh::qi::qj::qk::ql::qm::qn::qo::qp::qq::qr::qs::qt::qu::qv::qw::qx::qy::qz::qA::qB::qC::qD::qE::qF::qG::qH::qI::qJ::qK::qL::qM::qN::qO::qP::qQ::qR::qS::qT::qU::qV::qW::qX::qY::qZ::z0::z1::z2::z3::z4::z5::z6::z7::z8::z9::v158::(V.lit (Value.bool true))::tf::v160::v162::v164::t3::v166::zi::zj::zk::zl::zm::zn::zo::zp::zq::zr::zs::zt::zu::zv::zw::zx::zy::zz::zA::zB::zC::zD::zE::zF::zG::zH::zI::zJ::zK::zL::zM::zN::zO::zP::zQ::zR::zS::zT::zU::zV::zW::zX::zY::zZ::y0::y1::y2::y3::y4::y5::y6::[]),h167⟩) (
  opsP (xX s 3 wl k false) xg3_5 21 m0 ac (runK (xX s 3 wl k false) (bodyK s.P Try.f3) xk3_6) ⟨(t0::t1::t2::t3::t4::t5::t6::t7::t8::t9::ta::tb::tc::td::te::tf::tg::th::ti::tj::tk::tl::tm::tn::tp::tq::tr::ts::tt::tu::tv::tw::tx::ty::tz::tA::tB::tC::tD::tE::tF::tG::tH::tI::tJ::tK::tL::tM::tN::tO::tP::tQ::tR::tS::tT::tU::tV::tW::tX::tY::tZ::q0::q1::q2::q3::q4::q5::q6::q7::q8::q9::qa::qb::qc::qd::qe::qf::qg::qh::qi::qj::qk::ql::qm::qn::qo::qp::qq::qr::qs::qt::qu::qv::qw::qx::qy::qz::qA::qB::qC::qD::qE::qF::qG::qH::qI::qJ::qK::qL::qM::qN::qO::qP::qQ::qR::qS::qT::qU::qV::qW::qX::qY::qZ::z0::z1::z2::z3::z4::z5::z6::z7::z8::z9::v158::(V.lit (Value.bool false))::uu::uu::uu::uu::uu::uu::zi::zj::zk::zl::zm::zn::zo::zp::zq::zr::zs::zt::zu::zv::zw::zx::zy::zz::zA::zB::zC::zD::zE::zF::zG::zH::zI::zJ::zK::zL::zM::zN::zO::zP::zQ::zR::zS::zT::zU::zV::zW::zX::zY::zZ::y0::y1::y2::y3::y4::y5::y6::[]),h159⟩) (
  opsP (xX s 3 wl k false) xg3_5 16 m0 ac (runK (xX s 3 wl k false) (bodyK s.P Try.f3) xk3_6) ⟨(t0::t1::t2::t3::t4::t5::t6::t7::t8::t9::ta::tb::tc::td::te::tf::tg::th::ti::tj::tk::tl::tm::tn::tp::tq::tr::ts::tt::tu::tv::tw::tx::ty::tz::tA::tB::tC::tD::tE::tF::tG::tH::tI::tJ::tK::tL::tM::tN::tO::tP::tQ::tR::tS::tT::tU::tV::tW::tX::tY::tZ::q0::q1::q2::q3::q4::q5::q6::q7::q8::q9::qa::qb::qc::qd::qe::qf::qg::qh::qi::qj::qk::ql::qm::qn::qo::qp::qq::qr::qs::qt::qu::qv::qw::qx::qy::qz::qA::qB::qC::qD::qE::qF::qG::qH::qI::qJ::qK::qL::qM::qN::qO::qP::qQ::qR::qS::qT::qU::qV::qW::qX::qY::qZ::z0::z1::z2::z3::z4::z5::z6::z7::z8::z9::v158::v158::uu::zd::ze::zf::zg::zh::zi::zj::zk::zl::zm::zn::zo::zp::zq::zr::zs::zt::zu::zv::zw::zx::zy::zz::zA::zB::zC::zD::zE::zF::zG::zH::zI::zJ::zK::zL::zM::zN::zO::zP::zQ::zR::zS::zT::zU::zV::zW::zX::zY::zZ::y0::y1::y2::y3::y4::y5::y6::[]),h159⟩) :=
  (go_op1 xo3_18 xo3_18a rfl rfl rfl (st_no (by kernel_rfl) (st_bm (by kernel_rfl) fun v158 h159 =>
  (go_op1 xo3_18 xo3_18a rfl rfl rfl (st_no (by kernel_rfl) (st_id (v := v158) (H := h159) (by kernel_rfl)
  (go_gdT1 xo3_18 xo3_18a rfl rfl rfl rfl (by kernel_rfl)
  (st_no (by kernel_rfl) (st_id (v := tf) (H := h159) (by kernel_rfl)
  (go_run1 xo3_18 xo3_18a rfl rfl rfl rfl (by kernel_rfl) (st_no (by kernel_rfl) (st_bm (by kernel_rfl) fun v160 h161 =>
  (go_run1 xo3_18 xo3_18a rfl rfl rfl rfl (by kernel_rfl) (st_no (by kernel_rfl) (st_bm (by kernel_rfl) fun v162 h163 =>
  (go_run1 xo3_18 xo3_18a rfl rfl rfl rfl (by kernel_rfl) (st_no (by kernel_rfl) (st_bm (by kernel_rfl) fun v164 h165 =>
  (go_run1 xo3_18 xo3_18a rfl rfl rfl rfl (by kernel_rfl) (st_no (by kernel_rfl) (st_id (v := t3) (H := h165) (by kernel_rfl)
  (go_run1 xo3_18 xo3_18a rfl rfl rfl rfl (by kernel_rfl) (st_no (by kernel_rfl) (st_bm (by kernel_rfl) fun v166 h167 =>
  (by kernel_rfl))))))))))))))))))
  (go_skip1 xo3_18 rfl rfl rfl rfl (by kernel_rfl)
  (go_skip1 xo3_18 rfl rfl rfl rfl (by kernel_rfl)
  (go_skip1 xo3_18 rfl rfl rfl rfl (by kernel_rfl)
  (go_skip1 xo3_18 rfl rfl rfl rfl (by kernel_rfl)
  (go_skip1 xo3_18 rfl rfl rfl rfl (by kernel_rfl)
  (by kernel_rfl))))))
  (by kernel_rfl))))))))
theorem xm3_9 (s : Sys) (k wl : Nat) (m0 : Nat) (ac : List Nat × List Nat) (h : Hp) : opsP (xX s 3 wl k false) xg3_4 11 m0 ac (runK (xX s 3 wl k false) (bodyK s.P Try.f3) xk3_5) ⟨(t0::t1::t2::t3::t4::t5::t6::t7::t8::t9::ta::tb::tc::td::te::tf::tg::th::ti::tj::tk::tl::tm::tn::tp::tq::tr::ts::tt::tu::tv::tw::tx::ty::tz::tA::tB::tC::tD::tE::tF::tG::tH::tI::tJ::tK::tL::tM::tN::tO::tP::tQ::tR::tS::tT::tU::tV::tW::tX::tY::tZ::q0::q1::q2::q3::q4::q5::q6::q7::q8::q9::qa::qb::qc::qd::qe::qf::qg::qh::qi::qj::qk::ql::qm::qn::qo::qp::qq::qr::qs::qt::qu::qv::qw::qx::qy::qz::qA::qB::qC::qD::qE::qF::qG::qH::qI::qJ::qK::qL::qM::qN::qO::qP::qQ::qR::qS::qT::qU::qV::qW::qX::qY::qZ::z0::z1::z2::z3::z4::z5::z6::z7::z8::z9::za::zb::zc::zd::ze::zf::zg::zh::zi::zj::zk::zl::zm::zn::zo::zp::zq::zr::zs::zt::zu::zv::zw::zx::zy::zz::zA::zB::zC::zD::zE::zF::zG::zH::zI::zJ::zK::zL::zM::zN::zO::zP::zQ::zR::zS::zT::zU::zV::zW::zX::zY::zZ::y0::y1::y2::y3::y4::y5::y6::[]),h⟩ =
  bm (vPick qD qG (V.lit (Value.bool false))) h fun v168 h169 =>
  some (v168,h169) :=
  (go_op0 rfl rfl (st_bm (by kernel_rfl) fun v168 h169 =>
  (go_op0 rfl rfl (st_id (v := v168) (H := h169) (by kernel_rfl)
  (go_end0 (by kernel_rfl)
  (go_ret (rt_seq_ret (by kernel_rfl))))))))
theorem xm3_10 (s : Sys) (k wl : Nat) (m0 : Nat) (ac : List Nat × List Nat) (h : Hp) : opsP (xX s 3 wl k false) xg3_5 21 m0 ac (runK (xX s 3 wl k false) (bodyK s.P Try.f3) xk3_6) ⟨(t0::t1::t2::t3::t4::t5::t6::t7::t8::t9::ta::tb::tc::td::te::tf::tg::th::ti::tj::tk::tl::tm::tn::tp::tq::tr::ts::tt::tu::tv::tw::tx::ty::tz::tA::tB::tC::tD::tE::tF::tG::tH::tI::tJ::tK::tL::tM::tN::tO::tP::tQ::tR::tS::tT::tU::tV::tW::tX::tY::tZ::q0::q1::q2::q3::q4::q5::q6::q7::q8::q9::qa::qb::qc::qd::qe::qf::qg::qh::qi::qj::qk::ql::qm::qn::qo::qp::qq::qr::qs::qt::qu::qv::qw::qx::qy::qz::qA::qB::qC::qD::qE::qF::qG::qH::qI::qJ::qK::qL::qM::qN::qO::qP::qQ::qR::qS::qT::qU::qV::qW::qX::qY::qZ::z0::z1::z2::z3::z4::z5::z6::z7::z8::z9::za::zb::zc::zd::ze::zf::zg::zh::zi::zj::zk::zl::zm::zn::zo::zp::zq::zr::zs::zt::zu::zv::zw::zx::zy::zz::zA::zB::zC::zD::zE::zF::zG::zH::zI::zJ::zK::zL::zM::zN::zO::zP::zQ::zR::zS::zT::zU::zV::zW::zX::zY::zZ::y0::y1::y2::y3::y4::y5::y6::[]),h⟩ =
  bm (vPick zb zh (V.lit (Value.bool false))) h fun v170 h171 =>
  gd v170 (
  bm (vIndexAddr s.P 35 tf (V.lit (Value.int .i64 0)) h171) h171 fun v172 h173 =>
  bm (vFieldAddr s.P 41 v172 0) h173 fun v174 h175 =>
  bm (vLoad s.P 3 v174 h175) h175 fun v176 h177 =>
  bm (vBin s.P .eql 3 v176 (V.lit (Value.int .i64 1))) h177 fun v178 h179 =>
  opsP (xX s 3 wl k false) xg3_6 7 h171.length ([],[]) (runK (xX s 3 wl k false) (bodyK s.P Try.f3) xk3_7) ⟨(t0::t1::t2::t3::t4::t5::t6::t7::t8::t9::ta::tb::tc::td::te::tf::tg::th::ti::tj::v170::tl::tm::tn::tp::tq::tr::ts::tt::tu::tv::tw::tx::ty::tz::tA::tB::tC::tD::tE::tF::tG::tH::tI::tJ::tK::tL::tM::tN::tO::tP::tQ::tR::tS::tT::tU::tV::tW::tX::tY::tZ::q0::q1::q2::q3::q4::q5::q6::q7::q8::q9::qa::qb::qc::qd::qe::qf::qg::qh::qi::qj::qk::ql::qm::qn::qo::qp::qq::qr::qs::qt::qu::qv::qw::qx::qy::qz::qA::qB::qC::qD::qE::qF::qG::qH::qI::qJ::qK::qL::qM::qN::qO::qP::qQ::qR::qS::qT::qU::qV::qW::qX::qY::qZ::z0::z1::z2::z3::z4::z5::z6::z7::z8::z9::za::zb::zc::zd::ze::zf::zg::zh::v170::v170::(V.lit (Value.bool true))::tf::v172::v174::v176::v178::zq::zr::zs::zt::zu::zv::zw::zx::zy::zz::zA::zB::zC::zD::zE::zF::zG::zH::zI::zJ::zK::zL::zM::zN::zO::zP::zQ::zR::zS::zT::zU::zV::zW::zX::zY::zZ::y0::y1::y2::y3::y4::y5::y6::[]),h179⟩) (
  opsP (xX s 3 wl k false) xg3_6 7 h171.length ([],[]) (runK (xX s 3 wl k false) (bodyK s.P Try.f3) xk3_7) ⟨(t0::t1::t2::t3::t4::t5::t6::t7::t8::t9::ta::tb::tc::td::te::tf::tg::th::ti::tj::v170::tl::tm::tn::tp::tq::tr::ts::tt::tu::tv::tw::tx::ty::tz::tA::tB::tC::tD::tE::tF::tG::tH::tI::tJ::tK::tL::tM::tN::tO::tP::tQ::tR::tS::tT::tU::tV::tW::tX::tY::tZ::q0::q1::q2::q3::q4::q5::q6::q7::q8::q9::qa::qb::qc::qd::qe::qf::qg::qh::qi::qj::qk::ql::qm::qn::qo::qp::qq::qr::qs::qt::qu::qv::qw::qx::qy::qz::qA::qB::qC::qD::qE::qF::qG::qH::qI::qJ::qK::qL::qM::qN::qO::qP::qQ::qR::qS::qT::qU::qV::qW::qX::qY::qZ::z0::z1::z2::z3::z4::z5::z6::z7::z8::z9::za::zb::zc::zd::ze::zf::zg::zh::v170::v170::(V.lit (Value.bool false))::uu::uu::uu::uu::uu::zq::zr::zs::zt::zu::zv::zw::zx::zy::zz::zA::zB::zC::zD::zE::zF::zG::zH::zI::zJ::zK::zL::zM::zN::zO::zP::zQ::zR::zS::zT::zU::zV::zW::zX::zY::zZ::y0::y1::y2::y3::y4::y5::y6::[]),h171⟩) (
  opsP (xX s 3 wl k false) xg3_6 3 h171.length ([],[]) (runK (xX s 3 wl k false) (bodyK s.P Try.f3) xk3_7) ⟨(t0::t1::t2::t3::t4::t5::t6::t7::t8::t9::ta::tb::tc::td::te::tf::tg::th::ti::tj::v170::tl::tm::tn::tp::tq::tr::ts::tt::tu::tv::tw::tx::ty::tz::tA::tB::tC::tD::tE::tF::tG::tH::tI::tJ::tK::tL::tM::tN::tO::tP::tQ::tR::tS::tT::tU::tV::tW::tX::tY::tZ::q0::q1::q2::q3::q4::q5::q6::q7::q8::q9::qa::qb::qc::qd::qe::qf::qg::qh::qi::qj::qk::ql::qm::qn::qo::qp::qq::qr::qs::qt::qu::qv::qw::qx::qy::qz::qA::qB::qC::qD::qE::qF::qG::qH::qI::qJ::qK::qL::qM::qN::qO::qP::qQ::qR::qS::qT::qU::qV::qW::qX::qY::qZ::z0::z1::z2::z3::z4::z5::z6::z7::z8::z9::za::zb::zc::zd::ze::zf::zg::zh::v170::v170::v170::uu::zm::zn::zo::zp::zq::zr::zs::zt::zu::zv::zw::zx::zy::zz::zA::zB::zC::zD::zE::zF::zG::zH::zI::zJ::zK::zL::zM::zN::zO::zP::zQ::zR::zS::zT::zU::zV::zW::zX::zY::zZ::y0::y1::y2::y3::y4::y5::y6::[]),h171⟩) :=
  (go_op1 xo3_18 xo3_18a rfl rfl rfl (st_no (by kernel_rfl) (st_bm (by kernel_rfl) fun v170 h171 =>
  (go_op1 xo3_18 xo3_18a rfl rfl rfl (st_no (by kernel_rfl) (st_id (v := v170) (H := h171) (by kernel_rfl)
  (go_end1 xo3_18 (by kernel_rfl) xo3_18a
  (go_seq (go_reg0
  (go_op0 rfl rfl (st_id (v := v170) (H := h171) (by kernel_rfl)
  (go_op0 rfl rfl (st_id (v := v170) (H := h171) (by kernel_rfl)
  (go_gdT0 rfl rfl rfl (by kernel_rfl)
  (st_id (v := tf) (H := h171) (by kernel_rfl)
  (go_run0 rfl rfl rfl (by kernel_rfl) (st_bm (by kernel_rfl) fun v172 h173 =>
  (go_run0 rfl rfl rfl (by kernel_rfl) (st_bm (by kernel_rfl) fun v174 h175 =>
  (go_run0 rfl rfl rfl (by kernel_rfl) (st_bm (by kernel_rfl) fun v176 h177 =>
  (go_run0 rfl rfl rfl (by kernel_rfl) (st_bm (by kernel_rfl) fun v178 h179 =>
  (by kernel_rfl))))))))))
  (go_skip0 rfl rfl rfl (by kernel_rfl)
  (go_skip0 rfl rfl rfl (by kernel_rfl)
  (go_skip0 rfl rfl rfl (by kernel_rfl)
  (go_skip0 rfl rfl rfl (by kernel_rfl)
  (by kernel_rfl)))))
  (by kernel_rfl)))))))))))))))
theorem xm3_11 (s : Sys) (k wl : Nat) (m0 : Nat) (ac : List Nat × List Nat) (h : Hp) : opsP (xX s 3 wl k false) xg3_6 7 m0 ac (runK (xX s 3 wl k false) (bodyK s.P Try.f3) xk3_7) ⟨(t0::t1::t2::t3::t4::t5::t6::t7::t8::t9::ta::tb::tc::td::te::tf::tg::th::ti::tj::tk::tl::tm::tn::tp::tq::tr::ts::tt::tu::tv::tw::tx::ty::tz::tA::tB::tC::tD::tE::tF::tG::tH::tI::tJ::tK::tL::tM::tN::tO::tP::tQ::tR::tS::tT::tU::tV::tW::tX::tY::tZ::q0::q1::q2::q3::q4::q5::q6::q7::q8::q9::qa::qb::qc::qd::qe::qf::qg::qh::qi::qj::qk::ql::qm::qn::qo::qp::qq::qr::qs::qt::qu::qv::qw::qx::qy::qz::qA::qB::qC::qD::qE::qF::qG::qH::qI::qJ::qK::qL::qM::qN::qO::qP::qQ::qR::qS::qT::qU::qV::qW::qX::qY::qZ::z0::z1::z2::z3::z4::z5::z6::z7::z8::z9::za::zb::zc::zd::ze::zf::zg::zh::zi::zj::zk::zl::zm::zn::zo::zp::zq::zr::zs::zt::zu::zv::zw::zx::zy::zz::zA::zB::zC::zD::zE::zF::zG::zH::zI::zJ::zK::zL::zM::zN::zO::zP::zQ::zR::zS::zT::zU::zV::zW::zX::zY::zZ::y0::y1::y2::y3::y4::y5::y6::[]),h⟩ =
  bm (vPick zk zp (V.lit (Value.bool false))) h fun v180 h181 =>
  gd tk (
  bm (vIndexAddr s.P 35 tf (V.lit (Value.int .i64 0)) h181) h181 fun v182 h183 =>
  bm (vFieldAddr s.P 41 v182 0) h183 fun v184 h185 =>
  bm (vLoad s.P 3 v184 h185) h185 fun v186 h187 =>
  bm (vBin s.P .eql 3 v186 (V.lit (Value.int .i64 0))) h187 fun v188 h189 =>
  opsP (xX s 3 wl k false) xg3_7 7 h181.length ([],[]) (runK (xX s 3 wl k false) (bodyK s.P Try.f3) xk3_8) ⟨(t0::t1::t2::t3::t4::t5::t6::t7::t8::t9::ta::tb::tc::td::te::tf::tg::th::ti::tj::tk::v180::tm::tn::tp::tq::tr::ts::tt::tu::tv::tw::tx::ty::tz::tA::tB::tC::tD::tE::tF::tG::tH::tI::tJ::tK::tL::tM::tN::tO::tP::tQ::tR::tS::tT::tU::tV::tW::tX::tY::tZ::q0::q1::q2::q3::q4::q5::q6::q7::q8::q9::qa::qb::qc::qd::qe::qf::qg::qh::qi::qj::qk::ql::qm::qn::qo::qp::qq::qr::qs::qt::qu::qv::qw::qx::qy::qz::qA::qB::qC::qD::qE::qF::qG::qH::qI::qJ::qK::qL::qM::qN::qO::qP::qQ::qR::qS::qT::qU::qV::qW::qX::qY::qZ::z0::z1::z2::z3::z4::z5::z6::z7::z8::z9::za::zb::zc::zd::ze::zf::zg::zh::zi::zj::zk::zl::zm::zn::zo::zp::v180::tk::(V.lit (Value.bool true))::tf::v182::v184::v186::v188::zy::zz::zA::zB::zC::zD::zE::zF::zG::zH::zI::zJ::zK::zL::zM::zN::zO::zP::zQ::zR::zS::zT::zU::zV::zW::zX::zY::zZ::y0::y1::y2::y3::y4::y5::y6::[]),h189⟩) (
  opsP (xX s 3 wl k false) xg3_7 7 h181.length ([],[]) (runK (xX s 3 wl k false) (bodyK s.P Try.f3) xk3_8) ⟨(t0::t1::t2::t3::t4::t5::t6::t7::t8::t9::ta::tb::tc::td::te::tf::tg::th::ti::tj::tk::v180::tm::tn::tp::tq::tr::ts::tt::tu::tv::tw::tx::ty::tz::tA::tB::tC::tD::tE::tF::tG::tH::tI::tJ::tK::tL::tM::tN::tO::tP::tQ::tR::tS::tT::tU::tV::tW::tX::tY::tZ::q0::q1::q2::q3::q4::q5::q6::q7::q8::q9::qa::qb::qc::qd::qe::qf::qg::qh::qi::qj::qk::ql::qm::qn::qo::qp::qq::qr::qs::qt::qu::qv::qw::qx::qy::qz::qA::qB::qC::qD::qE::qF::qG::qH::qI::qJ::qK::qL::qM::qN::qO::qP::qQ::qR::qS::qT::qU::qV::qW::qX::qY::qZ::z0::z1::z2::z3::z4::z5::z6::z7::z8::z9::za::zb::zc::zd::ze::zf::zg::zh::zi::zj::zk::zl::zm::zn::zo::zp::v180::tk::(V.lit (Value.bool false))::uu::uu::uu::uu::uu::zy::zz::zA::zB::zC::zD::zE::zF::zG::zH::zI::zJ::zK::zL::zM::zN::zO::zP::zQ::zR::zS::zT::zU::zV::zW::zX::zY::zZ::y0::y1::y2::y3::y4::y5::y6::[]),h181⟩) (
  opsP (xX s 3 wl k false) xg3_7 3 h181.length ([],[]) (runK (xX s 3 wl k false) (bodyK s.P Try.f3) xk3_8) ⟨(t0::t1::t2::t3::t4::t5::t6::t7::t8::t9::ta::tb::tc::td::te::tf::tg::th::ti::tj::tk::v180::tm::tn::tp::tq::tr::ts::tt::tu::tv::tw::tx::ty::tz::tA::tB::tC::tD::tE::tF::tG::tH::tI::tJ::tK::tL::tM::tN::tO::tP::tQ::tR::tS::tT::tU::tV::tW::tX::tY::tZ::q0::q1::q2::q3::q4::q5::q6::q7::q8::q9::qa::qb::qc::qd::qe::qf::qg::qh::qi::qj::qk::ql::qm::qn::qo::qp::qq::qr::qs::qt::qu::qv::qw::qx::qy::qz::qA::qB::qC::qD::qE::qF::qG::qH::qI::qJ::qK::qL::qM::qN::qO::qP::qQ::qR::qS::qT::qU::qV::qW::qX::qY::qZ::z0::z1::z2::z3::z4::z5::z6::z7::z8::z9::za::zb::zc::zd::ze::zf::zg::zh::zi::zj::zk::zl::zm::zn::zo::zp::v180::tk::tk::uu::zu::zv::zw::zx::zy::zz::zA::zB::zC::zD::zE::zF::zG::zH::zI::zJ::zK::zL::zM::zN::zO::zP::zQ::zR::zS::zT::zU::zV::zW::zX::zY::zZ::y0::y1::y2::y3::y4::y5::y6::[]),h181⟩) :=
  (go_op0 rfl rfl (st_bm (by kernel_rfl) fun v180 h181 =>
  (go_op0 rfl rfl (st_id (v := v180) (H := h181) (by kernel_rfl)
  (go_end0 (by kernel_rfl)
  (go_seq (go_reg0
  (go_op0 rfl rfl (st_id (v := tk) (H := h181) (by kernel_rfl)
  (go_op0 rfl rfl (st_id (v := tk) (H := h181) (by kernel_rfl)
  (go_gdT0 rfl rfl rfl (by kernel_rfl)
  (st_id (v := tf) (H := h181) (by kernel_rfl)
  (go_run0 rfl rfl rfl (by kernel_rfl) (st_bm (by kernel_rfl) fun v182 h183 =>
  (go_run0 rfl rfl rfl (by kernel_rfl) (st_bm (by kernel_rfl) fun v184 h185 =>
  (go_run0 rfl rfl rfl (by kernel_rfl) (st_bm (by kernel_rfl) fun v186 h187 =>
  (go_run0 rfl rfl rfl (by kernel_rfl) (st_bm (by kernel_rfl) fun v188 h189 =>
  (by kernel_rfl))))))))))
  (go_skip0 rfl rfl rfl (by kernel_rfl)
  (go_skip0 rfl rfl rfl (by kernel_rfl)
  (go_skip0 rfl rfl rfl (by kernel_rfl)
  (go_skip0 rfl rfl rfl (by kernel_rfl)
  (by kernel_rfl)))))
  (by kernel_rfl)))))))))))))
theorem xm3_12 (s : Sys) (k wl : Nat) (m0 : Nat) (ac : List Nat × List Nat) (h : Hp) : opsP (xX s 3 wl k false) xg3_7 7 m0 ac (runK (xX s 3 wl k false) (bodyK s.P Try.f3) xk3_8) ⟨(t0::t1::t2::t3::t4::t5::t6::t7::t8::t9::ta::tb::tc::td::te::tf::tg::th::ti::tj::tk::tl::tm::tn::tp::tq::tr::ts::tt::tu::tv::tw::tx::ty::tz::tA::tB::tC::tD::tE::tF::tG::tH::tI::tJ::tK::tL::tM::tN::tO::tP::tQ::tR::tS::tT::tU::tV::tW::tX::tY::tZ::q0::q1::q2::q3::q4::q5::q6::q7::q8::q9::qa::qb::qc::qd::qe::qf::qg::qh::qi::qj::qk::ql::qm::qn::qo::qp::qq::qr::qs::qt::qu::qv::qw::qx::qy::qz::qA::qB::qC::qD::qE::qF::qG::qH::qI::qJ::qK::qL::qM::qN::qO::qP::qQ::qR::qS::qT::qU::qV::qW::qX::qY::qZ::z0::z1::z2::z3::z4::z5::z6::z7::z8::z9::za::zb::zc::zd::ze::zf::zg::zh::zi::zj::zk::zl::zm::zn::zo::zp::zq::zr::zs::zt::zu::zv::zw::zx::zy::zz::zA::zB::zC::zD::zE::zF::zG::zH::zI::zJ::zK::zL::zM::zN::zO::zP::zQ::zR::zS::zT::zU::zV::zW::zX::zY::zZ::y0::y1::y2::y3::y4::y5::y6::[]),h⟩ =
  bm (vPick zs zx (V.lit (Value.bool false))) h fun v190 h191 =>
  bm (vBin s.P .leq 3 tg (V.lit (Value.int .i64 1))) h191 fun v192 h193 =>
  gd v192 (
  opsP (xX s 3 wl k false) xg3_8 5 h191.length ([],[]) (runK (xX s 3 wl k false) (bodyK s.P Try.f3) xk3_9) ⟨(t0::t1::t2::t3::t4::t5::t6::t7::t8::t9::ta::tb::tc::td::te::tf::tg::th::ti::tj::tk::tl::v190::tn::tp::tq::tr::ts::tt::tu::tv::tw::tx::ty::tz::tA::tB::tC::tD::tE::tF::tG::tH::tI::tJ::tK::tL::tM::tN::tO::tP::tQ::tR::tS::tT::tU::tV::tW::tX::tY::tZ::q0::q1::q2::q3::q4::q5::q6::q7::q8::q9::qa::qb::qc::qd::qe::qf::qg::qh::qi::qj::qk::ql::qm::qn::qo::qp::qq::qr::qs::qt::qu::qv::qw::qx::qy::qz::qA::qB::qC::qD::qE::qF::qG::qH::qI::qJ::qK::qL::qM::qN::qO::qP::qQ::qR::qS::qT::qU::qV::qW::qX::qY::qZ::z0::z1::z2::z3::z4::z5::z6::z7::z8::z9::za::zb::zc::zd::ze::zf::zg::zh::zi::zj::zk::zl::zm::zn::zo::zp::zq::zr::zs::zt::zu::zv::zw::zx::v190::tg::v192::(V.lit (Value.bool true))::ti::ti::zE::zF::zG::zH::zI::zJ::zK::zL::zM::zN::zO::zP::zQ::zR::zS::zT::zU::zV::zW::zX::zY::zZ::y0::y1::y2::y3::y4::y5::y6::[]),h193⟩) (
  opsP (xX s 3 wl k false) xg3_8 33 h191.length ([],[]) (runK (xX s 3 wl k false) (bodyK s.P Try.f3) xk3_9) ⟨(t0::t1::t2::t3::t4::t5::t6::t7::t8::t9::ta::tb::tc::td::te::tf::tg::th::ti::tj::tk::tl::v190::tn::tp::tq::tr::ts::tt::tu::tv::tw::tx::ty::tz::tA::tB::tC::tD::tE::tF::tG::tH::tI::tJ::tK::tL::tM::tN::tO::tP::tQ::tR::tS::tT::tU::tV::tW::tX::tY::tZ::q0::q1::q2::q3::q4::q5::q6::q7::q8::q9::qa::qb::qc::qd::qe::qf::qg::qh::qi::qj::qk::ql::qm::qn::qo::qp::qq::qr::qs::qt::qu::qv::qw::qx::qy::qz::qA::qB::qC::qD::qE::qF::qG::qH::qI::qJ::qK::qL::qM::qN::qO::qP::qQ::qR::qS::qT::qU::qV::qW::qX::qY::qZ::z0::z1::z2::z3::z4::z5::z6::z7::z8::z9::za::zb::zc::zd::ze::zf::zg::zh::zi::zj::zk::zl::zm::zn::zo::zp::zq::zr::zs::zt::zu::zv::zw::zx::v190::tg::v192::(V.lit (Value.bool false))::uu::uu::uu::uu::uu::uu::uu::uu::uu::uu::uu::uu::uu::uu::uu::uu::uu::uu::uu::uu::uu::uu::uu::uu::uu::uu::uu::uu::uu::uu::y6::[]),h193⟩) (
  opsP (xX s 3 wl k false) xg3_8 4 h191.length ([],[]) (runK (xX s 3 wl k false) (bodyK s.P Try.f3) xk3_9) ⟨(t0::t1::t2::t3::t4::t5::t6::t7::t8::t9::ta::tb::tc::td::te::tf::tg::th::ti::tj::tk::tl::v190::tn::tp::tq::tr::ts::tt::tu::tv::tw::tx::ty::tz::tA::tB::tC::tD::tE::tF::tG::tH::tI::tJ::tK::tL::tM::tN::tO::tP::tQ::tR::tS::tT::tU::tV::tW::tX::tY::tZ::q0::q1::q2::q3::q4::q5::q6::q7::q8::q9::qa::qb::qc::qd::qe::qf::qg::qh::qi::qj::qk::ql::qm::qn::qo::qp::qq::qr::qs::qt::qu::qv::qw::qx::qy::qz::qA::qB::qC::qD::qE::qF::qG::qH::qI::qJ::qK::qL::qM::qN::qO::qP::qQ::qR::qS::qT::qU::qV::qW::qX::qY::qZ::z0::z1::z2::z3::z4::z5::z6::z7::z8::z9::za::zb::zc::zd::ze::zf::zg::zh::zi::zj::zk::zl::zm::zn::zo::zp::zq::zr::zs::zt::zu::zv::zw::zx::v190::tg::v192::v192::uu::zD::zE::zF::zG::zH::zI::zJ::zK::zL::zM::zN::zO::zP::zQ::zR::zS::zT::zU::zV::zW::zX::zY::zZ::y0::y1::y2::y3::y4::y5::y6::[]),h193⟩) :=
  (go_op0 rfl rfl (st_bm (by kernel_rfl) fun v190 h191 =>
  (go_op0 rfl rfl (st_id (v := v190) (H := h191) (by kernel_rfl)
  (go_end0 (by kernel_rfl)
  (go_seq (go_reg0
  (go_op0 rfl rfl (st_id (v := tg) (H := h191) (by kernel_rfl)
  (go_op0 rfl rfl (st_bm (by kernel_rfl) fun v192 h193 =>
  (go_op0 rfl rfl (st_id (v := v192) (H := h193) (by kernel_rfl)
  (go_gdT0 rfl rfl rfl (by kernel_rfl)
  (st_id (v := ti) (H := h193) (by kernel_rfl)
  (go_run0 rfl rfl rfl (by kernel_rfl) (st_id (v := ti) (H := h193) (by kernel_rfl)
  (by kernel_rfl))))
  (go_skip0 rfl rfl rfl (by kernel_rfl)
  (go_none0 (x := #[]) rfl rfl rfl (by kernel_rfl)
  (go_none0 (x := #[]) rfl rfl rfl (by kernel_rfl)
  (go_none0 (x := #[]) rfl rfl rfl (by kernel_rfl)
  (go_skip0 rfl rfl rfl (by kernel_rfl)
  (go_skip0 rfl rfl rfl (by kernel_rfl)
  (go_none0 (x := #[]) rfl rfl rfl (by kernel_rfl)
  (go_none0 (x := #[]) rfl rfl rfl (by kernel_rfl)
  (go_none0 (x := #[]) rfl rfl rfl (by kernel_rfl)
  (go_none0 (x := #[]) rfl rfl rfl (by kernel_rfl)
  (go_none0 (x := #[]) rfl rfl rfl (by kernel_rfl)
  (go_none0 (x := #[]) rfl rfl rfl (by kernel_rfl)
  (go_skip0 rfl rfl rfl (by kernel_rfl)
  (go_skip0 rfl rfl rfl (by kernel_rfl)
  (go_none0 (x := #[]) rfl rfl rfl (by kernel_rfl)
  (go_none0 (x := #[]) rfl rfl rfl (by kernel_rfl)
  (go_none0 (x := #[]) rfl rfl rfl (by kernel_rfl)
  (go_none0 (x := #[]) rfl rfl rfl (by kernel_rfl)
  (go_none0 (x := #[]) rfl rfl rfl (by kernel_rfl)
  (go_none0 (x := #[]) rfl rfl rfl (by kernel_rfl)
  (go_none0 (x := #[]) rfl rfl rfl (by kernel_rfl)
  (go_none0 (x := #[]) rfl rfl rfl (by kernel_rfl)
  (go_none0 (x := #[]) rfl rfl rfl (by kernel_rfl)
  (go_none0 (x := #[]) rfl rfl rfl (by kernel_rfl)
  (go_none0 (x := #[]) rfl rfl rfl (by kernel_rfl)
  (go_none0 (x := #[]) rfl rfl rfl (by kernel_rfl)
  (go_none0 (x := #[]) rfl rfl rfl (by kernel_rfl)
  (go_none0 (x := #[]) rfl rfl rfl (by kernel_rfl)
  (go_skip0 rfl rfl rfl (by kernel_rfl)
  (by kernel_rfl))))))))))))))))))))))))))))))
  (by kernel_rfl)))))))))))))))
theorem xm3_13 (s : Sys) (k wl : Nat) (m0 : Nat) (ac : List Nat × List Nat) (h : Hp) : opsP (xX s 3 wl k false) xg3_8 5 m0 ac (runK (xX s 3 wl k false) (bodyK s.P Try.f3) xk3_9) ⟨(t0::t1::t2::t3::t4::t5::t6::t7::t8::t9::ta::tb::tc::td::te::tf::tg::th::ti::tj::tk::tl::tm::tn::tp::tq::tr::ts::tt::tu::tv::tw::tx::ty::tz::tA::tB::tC::tD::tE::tF::tG::tH::tI::tJ::tK::tL::tM::tN::tO::tP::tQ::tR::tS::tT::tU::tV::tW::tX::tY::tZ::q0::q1::q2::q3::q4::q5::q6::q7::q8::q9::qa::qb::qc::qd::qe::qf::qg::qh::qi::qj::qk::ql::qm::qn::qo::qp::qq::qr::qs::qt::qu::qv::qw::qx::qy::qz::qA::qB::qC::qD::qE::qF::qG::qH::qI::qJ::qK::qL::qM::qN::qO::qP::qQ::qR::qS::qT::qU::qV::qW::qX::qY::qZ::z0::z1::z2::z3::z4::z5::z6::z7::z8::z9::za::zb::zc::zd::ze::zf::zg::zh::zi::zj::zk::zl::zm::zn::zo::zp::zq::zr::zs::zt::zu::zv::zw::zx::zy::zz::zA::zB::zC::zD::zE::zF::zG::zH::zI::zJ::zK::zL::zM::zN::zO::zP::zQ::zR::zS::zT::zU::zV::zW::zX::zY::zZ::y0::y1::y2::y3::y4::y5::y6::[]),h⟩ =
  gd zD (
  bm (vLoad s.P 32 te h) h fun v194 h195 =>
  bp (callV (xX s 3 wl k false) false true (.fn (.func 13) [] []) [v194] h195) fun v196 h197 =>
  bm (vUn .not v196) h197 fun v198 h199 =>
  opsP (xX s 3 wl k false) xg3_8 8 m0 ac (runK (xX s 3 wl k false) (bodyK s.P Try.f3) xk3_9) ⟨(t0::t1::t2::t3::t4::t5::t6::t7::t8::t9::ta::tb::tc::td::te::tf::tg::th::ti::tj::tk::tl::tm::tn::tp::tq::tr::ts::tt::tu::tv::tw::tx::ty::tz::tA::tB::tC::tD::tE::tF::tG::tH::tI::tJ::tK::tL::tM::tN::tO::tP::tQ::tR::tS::tT::tU::tV::tW::tX::tY::tZ::q0::q1::q2::q3::q4::q5::q6::q7::q8::q9::qa::qb::qc::qd::qe::qf::qg::qh::qi::qj::qk::ql::qm::qn::qo::qp::qq::qr::qs::qt::qu::qv::qw::qx::qy::qz::qA::qB::qC::qD::qE::qF::qG::qH::qI::qJ::qK::qL::qM::qN::qO::qP::qQ::qR::qS::qT::qU::qV::qW::qX::qY::qZ::z0::z1::z2::z3::z4::z5::z6::z7::z8::z9::za::zb::zc::zd::ze::zf::zg::zh::zi::zj::zk::zl::zm::zn::zo::zp::zq::zr::zs::zt::zu::zv::zw::zx::zy::zz::zA::zB::zC::(V.lit (Value.bool true))::v194::v196::v198::zH::zI::zJ::zK::zL::zM::zN::zO::zP::zQ::zR::zS::zT::zU::zV::zW::zX::zY::zZ::y0::y1::y2::y3::y4::y5::y6::[]),h199⟩) (
  opsP (xX s 3 wl k false) xg3_8 8 m0 ac (runK (xX s 3 wl k false) (bodyK s.P Try.f3) xk3_9) ⟨(t0::t1::t2::t3::t4::t5::t6::t7::t8::t9::ta::tb::tc::td::te::tf::tg::th::ti::tj::tk::tl::tm::tn::tp::tq::tr::ts::tt::tu::tv::tw::tx::ty::tz::tA::tB::tC::tD::tE::tF::tG::tH::tI::tJ::tK::tL::tM::tN::tO::tP::tQ::tR::tS::tT::tU::tV::tW::tX::tY::tZ::q0::q1::q2::q3::q4::q5::q6::q7::q8::q9::qa::qb::qc::qd::qe::qf::qg::qh::qi::qj::qk::ql::qm::qn::qo::qp::qq::qr::qs::qt::qu::qv::qw::qx::qy::qz::qA::qB::qC::qD::qE::qF::qG::qH::qI::qJ::qK::qL::qM::qN::qO::qP::qQ::qR::qS::qT::qU::qV::qW::qX::qY::qZ::z0::z1::z2::z3::z4::z5::z6::z7::z8::z9::za::zb::zc::zd::ze::zf::zg::zh::zi::zj::zk::zl::zm::zn::zo::zp::zq::zr::zs::zt::zu::zv::zw::zx::zy::zz::zA::zB::zC::(V.lit (Value.bool false))::uu::uu::uu::zH::zI::zJ::zK::zL::zM::zN::zO::zP::zQ::zR::zS::zT::zU::zV::zW::zX::zY::zZ::y0::y1::y2::y3::y4::y5::y6::[]),h⟩) (
  opsP (xX s 3 wl k false) xg3_8 6 m0 ac (runK (xX s 3 wl k false) (bodyK s.P Try.f3) xk3_9) ⟨(t0::t1::t2::t3::t4::t5::t6::t7::t8::t9::ta::tb::tc::td::te::tf::tg::th::ti::tj::tk::tl::tm::tn::tp::tq::tr::ts::tt::tu::tv::tw::tx::ty::tz::tA::tB::tC::tD::tE::tF::tG::tH::tI::tJ::tK::tL::tM::tN::tO::tP::tQ::tR::tS::tT::tU::tV::tW::tX::tY::tZ::q0::q1::q2::q3::q4::q5::q6::q7::q8::q9::qa::qb::qc::qd::qe::qf::qg::qh::qi::qj::qk::ql::qm::qn::qo::qp::qq::qr::qs::qt::qu::qv::qw::qx::qy::qz::qA::qB::qC::qD::qE::qF::qG::qH::qI::qJ::qK::qL::qM::qN::qO::qP::qQ::qR::qS::qT::qU::qV::qW::qX::qY::qZ::z0::z1::z2::z3::z4::z5::z6::z7::z8::z9::za::zb::zc::zd::ze::zf::zg::zh::zi::zj::zk::zl::zm::zn::zo::zp::zq::zr::zs::zt::zu::zv::zw::zx::zy::zz::zA::zB::zC::zD::uu::zF::zG::zH::zI::zJ::zK::zL::zM::zN::zO::zP::zQ::zR::zS::zT::zU::zV::zW::zX::zY::zZ::y0::y1::y2::y3::y4::y5::y6::[]),h⟩) :=
  (go_gdT0 rfl rfl rfl (by kernel_rfl)
  (st_bm (by kernel_rfl) fun v194 h195 =>
  (go_run0 rfl rfl rfl (by kernel_rfl) (st_bp (by kernel_rfl) fun v196 h197 =>
  (go_run0 rfl rfl rfl (by kernel_rfl) (st_bm (by kernel_rfl) fun v198 h199 =>
  (by kernel_rfl))))))
  (go_skip0 rfl rfl rfl (by kernel_rfl)
  (go_skip0 rfl rfl rfl (by kernel_rfl)
  (by kernel_rfl)))
  (by kernel_rfl))
theorem xm3_14 (s : Sys) (k wl : Nat) (m0 : Nat) (ac : List Nat × List Nat) (h : Hp) : opsP (xX s 3 wl k false) xg3_8 33 m0 ac (runK (xX s 3 wl k false) (bodyK s.P Try.f3) xk3_9) ⟨(t0::t1::t2::t3::t4::t5::t6::t7::t8::t9::ta::tb::tc::td::te::tf::tg::th::ti::tj::tk::tl::tm::tn::tp::tq::tr::ts::tt::tu::tv::tw::tx::ty::tz::tA::tB::tC::tD::tE::tF::tG::tH::tI::tJ::tK::tL::tM::tN::tO::tP::tQ::tR::tS::tT::tU::tV::tW::tX::tY::tZ::q0::q1::q2::q3::q4::q5::q6::q7::q8::q9::qa::qb::qc::qd::qe::qf::qg::qh::qi::qj::qk::ql::qm::qn::qo::qp::qq::qr::qs::qt::qu::qv::qw::qx::qy::qz::qA::qB::qC::qD::qE::qF::qG::qH::qI::qJ::qK::qL::qM::qN::qO::qP::qQ::qR::qS::qT::qU::qV::qW::qX::qY::qZ::z0::z1::z2::z3::z4::z5::z6::z7::z8::z9::za::zb::zc::zd::ze::zf::zg::zh::zi::zj::zk::zl::zm::zn::zo::zp::zq::zr::zs::zt::zu::zv::zw::zx::zy::zz::zA::zB::zC::zD::zE::zF::zG::zH::zI::zJ::zK::zL::zM::zN::zO::zP::zQ::zR::zS::zT::zU::zV::zW::zX::zY::zZ::y0::y1::y2::y3::y4::y5::y6::[]),h⟩ =
  bm (vPick zB y5 (V.lit (Value.bool false))) h fun v200 h201 =>
  some (v200,h201) :=
  (go_op0 rfl rfl (st_bm (by kernel_rfl) fun v200 h201 =>
  (go_op0 rfl rfl (st_id (v := v200) (H := h201) (by kernel_rfl)
  (go_end0 (by kernel_rfl)
  (go_ret (by kernel_rfl)))))))
theorem xm3_15 (s : Sys) (k wl : Nat) (m0 : Nat) (ac : List Nat × List Nat) (h : Hp) : opsP (xX s 3 wl k false) xg3_8 8 m0 ac (runK (xX s 3 wl k false) (bodyK s.P Try.f3) xk3_9) ⟨(t0::t1::t2::t3::t4::t5::t6::t7::t8::t9::ta::tb::tc::td::te::tf::tg::th::ti::tj::tk::tl::tm::tn::tp::tq::tr::ts::tt::tu::tv::tw::tx::ty::tz::tA::tB::tC::tD::tE::tF::tG::tH::tI::tJ::tK::tL::tM::tN::tO::tP::tQ::tR::tS::tT::tU::tV::tW::tX::tY::tZ::q0::q1::q2::q3::q4::q5::q6::q7::q8::q9::qa::qb::qc::qd::qe::qf::qg::qh::qi::qj::qk::ql::qm::qn::qo::qp::qq::qr::qs::qt::qu::qv::qw::qx::qy::qz::qA::qB::qC::qD::qE::qF::qG::qH::qI::qJ::qK::qL::qM::qN::qO::qP::qQ::qR::qS::qT::qU::qV::qW::qX::qY::qZ::z0::z1::z2::z3::z4::z5::z6::z7::z8::z9::za::zb::zc::zd::ze::zf::zg::zh::zi::zj::zk::zl::zm::zn::zo::zp::zq::zr::zs::zt::zu::zv::zw::zx::zy::zz::zA::zB::zC::zD::zE::zF::zG::zH::zI::zJ::zK::zL::zM::zN::zO::zP::zQ::zR::zS::zT::zU::zV::zW::zX::zY::zZ::y0::y1::y2::y3::y4::y5::y6::[]),h⟩ =
  gd zB (
  bm (vPick zD zG (V.lit (Value.bool false))) h fun v202 h203 =>
  opsP (xX s 3 wl k false) xg3_8 10 m0 ac (runK (xX s 3 wl k false) (bodyK s.P Try.f3) xk3_9) ⟨(t0::t1::t2::t3::t4::t5::t6::t7::t8::t9::ta::tb::tc::td::te::tf::tg::th::ti::tj::tk::tl::tm::tn::tp::tq::tr::ts::tt::tu::tv::tw::tx::ty::tz::tA::tB::tC::tD::tE::tF::tG::tH::tI::tJ::tK::tL::tM::tN::tO::tP::tQ::tR::tS::tT::tU::tV::tW::tX::tY::tZ::q0::q1::q2::q3::q4::q5::q6::q7::q8::q9::qa::qb::qc::qd::qe::qf::qg::qh::qi::qj::qk::ql::qm::qn::qo::qp::qq::qr::qs::qt::qu::qv::qw::qx::qy::qz::qA::qB::qC::qD::qE::qF::qG::qH::qI::qJ::qK::qL::qM::qN::qO::qP::qQ::qR::qS::qT::qU::qV::qW::qX::qY::qZ::z0::z1::z2::z3::z4::z5::z6::z7::z8::z9::za::zb::zc::zd::ze::zf::zg::zh::zi::zj::zk::zl::zm::zn::zo::zp::zq::zr::zs::zt::zu::zv::zw::zx::zy::zz::zA::(V.lit (Value.bool true))::zC::zD::zE::zF::zG::v202::v202::zJ::zK::zL::zM::zN::zO::zP::zQ::zR::zS::zT::zU::zV::zW::zX::zY::zZ::y0::y1::y2::y3::y4::y5::y6::[]),h203⟩) (
  opsP (xX s 3 wl k false) xg3_8 33 m0 ac (runK (xX s 3 wl k false) (bodyK s.P Try.f3) xk3_9) ⟨(t0::t1::t2::t3::t4::t5::t6::t7::t8::t9::ta::tb::tc::td::te::tf::tg::th::ti::tj::tk::tl::tm::tn::tp::tq::tr::ts::tt::tu::tv::tw::tx::ty::tz::tA::tB::tC::tD::tE::tF::tG::tH::tI::tJ::tK::tL::tM::tN::tO::tP::tQ::tR::tS::tT::tU::tV::tW::tX::tY::tZ::q0::q1::q2::q3::q4::q5::q6::q7::q8::q9::qa::qb::qc::qd::qe::qf::qg::qh::qi::qj::qk::ql::qm::qn::qo::qp::qq::qr::qs::qt::qu::qv::qw::qx::qy::qz::qA::qB::qC::qD::qE::qF::qG::qH::qI::qJ::qK::qL::qM::qN::qO::qP::qQ::qR::qS::qT::qU::qV::qW::qX::qY::qZ::z0::z1::z2::z3::z4::z5::z6::z7::z8::z9::za::zb::zc::zd::ze::zf::zg::zh::zi::zj::zk::zl::zm::zn::zo::zp::zq::zr::zs::zt::zu::zv::zw::zx::zy::zz::zA::(V.lit (Value.bool false))::zC::zD::zE::zF::zG::uu::uu::uu::uu::uu::uu::uu::uu::uu::uu::uu::uu::uu::uu::uu::uu::uu::uu::uu::uu::uu::uu::uu::uu::uu::y6::[]),h⟩) (
  opsP (xX s 3 wl k false) xg3_8 9 m0 ac (runK (xX s 3 wl k false) (bodyK s.P Try.f3) xk3_9) ⟨(t0::t1::t2::t3::t4::t5::t6::t7::t8::t9::ta::tb::tc::td::te::tf::tg::th::ti::tj::tk::tl::tm::tn::tp::tq::tr::ts::tt::tu::tv::tw::tx::ty::tz::tA::tB::tC::tD::tE::tF::tG::tH::tI::tJ::tK::tL::tM::tN::tO::tP::tQ::tR::tS::tT::tU::tV::tW::tX::tY::tZ::q0::q1::q2::q3::q4::q5::q6::q7::q8::q9::qa::qb::qc::qd::qe::qf::qg::qh::qi::qj::qk::ql::qm::qn::qo::qp::qq::qr::qs::qt::qu::qv::qw::qx::qy::qz::qA::qB::qC::qD::qE::qF::qG::qH::qI::qJ::qK::qL::qM::qN::qO::qP::qQ::qR::qS::qT::qU::qV::qW::qX::qY::qZ::z0::z1::z2::z3::z4::z5::z6::z7::z8::z9::za::zb::zc::zd::ze::zf::zg::zh::zi::zj::zk::zl::zm::zn::zo::zp::zq::zr::zs::zt::zu::zv::zw::zx::zy::zz::zA::zB::zC::zD::zE::zF::zG::uu::zI::zJ::zK::zL::zM::zN::zO::zP::zQ::zR::zS::zT::zU::zV::zW::zX::zY::zZ::y0::y1::y2::y3::y4::y5::y6::[]),h⟩) :=
  (go_gdT0 rfl rfl rfl (by kernel_rfl)
  (st_bm (by kernel_rfl) fun v202 h203 =>
  (go_run0 rfl rfl rfl (by kernel_rfl) (st_id (v := v202) (H := h203) (by kernel_rfl)
  (by kernel_rfl))))
  (go_skip0 rfl rfl rfl (by kernel_rfl)
  (go_none0 (x := #[]) rfl rfl rfl (by kernel_rfl)
  (go_none0 (x := #[]) rfl rfl rfl (by kernel_rfl)
  (go_none0 (x := #[]) rfl rfl rfl (by kernel_rfl)
  (go_none0 (x := #[]) rfl rfl rfl (by kernel_rfl)
  (go_none0 (x := #[]) rfl rfl rfl (by kernel_rfl)
  (go_none0 (x := #[]) rfl rfl rfl (by kernel_rfl)
  (go_skip0 rfl rfl rfl (by kernel_rfl)
  (go_skip0 rfl rfl rfl (by kernel_rfl)
  (go_none0 (x := #[]) rfl rfl rfl (by kernel_rfl)
  (go_none0 (x := #[]) rfl rfl rfl (by kernel_rfl)
  (go_none0 (x := #[]) rfl rfl rfl (by kernel_rfl)
  (go_none0 (x := #[]) rfl rfl rfl (by kernel_rfl)
  (go_none0 (x := #[]) rfl rfl rfl (by kernel_rfl)
  (go_none0 (x := #[]) rfl rfl rfl (by kernel_rfl)
  (go_none0 (x := #[]) rfl rfl rfl (by kernel_rfl)
  (go_none0 (x := #[]) rfl rfl rfl (by kernel_rfl)
  (go_none0 (x := #[]) rfl rfl rfl (by kernel_rfl)
  (go_none0 (x := #[]) rfl rfl rfl (by kernel_rfl)
  (go_none0 (x := #[]) rfl rfl rfl (by kernel_rfl)
  (go_none0 (x := #[]) rfl rfl rfl (by kernel_rfl)
  (go_none0 (x := #[]) rfl rfl rfl (by kernel_rfl)
  (go_none0 (x := #[]) rfl rfl rfl (by kernel_rfl)
  (go_skip0 rfl rfl rfl (by kernel_rfl)
  (by kernel_rfl)))))))))))))))))))))))))
  (by kernel_rfl))
theorem xm3_16 (s : Sys) (k wl : Nat) (m0 : Nat) (ac : List Nat × List Nat) (h : Hp) : opsP (xX s 3 wl k false) xg3_8 6 m0 ac (runK (xX s 3 wl k false) (bodyK s.P Try.f3) xk3_9) ⟨(t0::t1::t2::t3::t4::t5::t6::t7::t8::t9::ta::tb::tc::td::te::tf::tg::th::ti::tj::tk::tl::tm::tn::tp::tq::tr::ts::tt::tu::tv::tw::tx::ty::tz::tA::tB::tC::tD::tE::tF::tG::tH::tI::tJ::tK::tL::tM::tN::tO::tP::tQ::tR::tS::tT::tU::tV::tW::tX::tY::tZ::q0::q1::q2::q3::q4::q5::q6::q7::q8::q9::qa::qb::qc::qd::qe::qf::qg::qh::qi::qj::qk::ql::qm::qn::qo::qp::qq::qr::qs::qt::qu::qv::qw::qx::qy::qz::qA::qB::qC::qD::qE::qF::qG::qH::qI::qJ::qK::qL::qM::qN::qO::qP::qQ::qR::qS::qT::qU::qV::qW::qX::qY::qZ::z0::z1::z2::z3::z4::z5::z6::z7::z8::z9::za::zb::zc::zd::ze::zf::zg::zh::zi::zj::zk::zl::zm::zn::zo::zp::zq::zr::zs::zt::zu::zv::zw::zx::zy::zz::zA::zB::zC::zD::zE::zF::zG::zH::zI::zJ::zK::zL::zM::zN::zO::zP::zQ::zR::zS::zT::zU::zV::zW::zX::zY::zZ::y0::y1::y2::y3::y4::y5::y6::[]),h⟩ =
  gd zD (
  bp (callV (xX s 3 wl k false) false true (.fn (.func 13) [] []) [zE] h) fun v204 h205 =>
  bm (vUn .not v204) h205 fun v206 h207 =>
  opsP (xX s 3 wl k false) xg3_8 8 m0 ac (runK (xX s 3 wl k false) (bodyK s.P Try.f3) xk3_9) ⟨(t0::t1::t2::t3::t4::t5::t6::t7::t8::t9::ta::tb::tc::td::te::tf::tg::th::ti::tj::tk::tl::tm::tn::tp::tq::tr::ts::tt::tu::tv::tw::tx::ty::tz::tA::tB::tC::tD::tE::tF::tG::tH::tI::tJ::tK::tL::tM::tN::tO::tP::tQ::tR::tS::tT::tU::tV::tW::tX::tY::tZ::q0::q1::q2::q3::q4::q5::q6::q7::q8::q9::qa::qb::qc::qd::qe::qf::qg::qh::qi::qj::qk::ql::qm::qn::qo::qp::qq::qr::qs::qt::qu::qv::qw::qx::qy::qz::qA::qB::qC::qD::qE::qF::qG::qH::qI::qJ::qK::qL::qM::qN::qO::qP::qQ::qR::qS::qT::qU::qV::qW::qX::qY::qZ::z0::z1::z2::z3::z4::z5::z6::z7::z8::z9::za::zb::zc::zd::ze::zf::zg::zh::zi::zj::zk::zl::zm::zn::zo::zp::zq::zr::zs::zt::zu::zv::zw::zx::zy::zz::zA::zB::zC::(V.lit (Value.bool true))::zE::v204::v206::zH::zI::zJ::zK::zL::zM::zN::zO::zP::zQ::zR::zS::zT::zU::zV::zW::zX::zY::zZ::y0::y1::y2::y3::y4::y5::y6::[]),h207⟩) (
  opsP (xX s 3 wl k false) xg3_8 8 m0 ac (runK (xX s 3 wl k false) (bodyK s.P Try.f3) xk3_9) ⟨(t0::t1::t2::t3::t4::t5::t6::t7::t8::t9::ta::tb::tc::td::te::tf::tg::th::ti::tj::tk::tl::tm::tn::tp::tq::tr::ts::tt::tu::tv::tw::tx::ty::tz::tA::tB::tC::tD::tE::tF::tG::tH::tI::tJ::tK::tL::tM::tN::tO::tP::tQ::tR::tS::tT::tU::tV::tW::tX::tY::tZ::q0::q1::q2::q3::q4::q5::q6::q7::q8::q9::qa::qb::qc::qd::qe::qf::qg::qh::qi::qj::qk::ql::qm::qn::qo::qp::qq::qr::qs::qt::qu::qv::qw::qx::qy::qz::qA::qB::qC::qD::qE::qF::qG::qH::qI::qJ::qK::qL::qM::qN::qO::qP::qQ::qR::qS::qT::qU::qV::qW::qX::qY::qZ::z0::z1::z2::z3::z4::z5::z6::z7::z8::z9::za::zb::zc::zd::ze::zf::zg::zh::zi::zj::zk::zl::zm::zn::zo::zp::zq::zr::zs::zt::zu::zv::zw::zx::zy::zz::zA::zB::zC::(V.lit (Value.bool false))::zE::uu::uu::zH::zI::zJ::zK::zL::zM::zN::zO::zP::zQ::zR::zS::zT::zU::zV::zW::zX::zY::zZ::y0::y1::y2::y3::y4::y5::y6::[]),h⟩) (
  opsP (xX s 3 wl k false) xg3_8 7 m0 ac (runK (xX s 3 wl k false) (bodyK s.P Try.f3) xk3_9) ⟨(t0::t1::t2::t3::t4::t5::t6::t7::t8::t9::ta::tb::tc::td::te::tf::tg::th::ti::tj::tk::tl::tm::tn::tp::tq::tr::ts::tt::tu::tv::tw::tx::ty::tz::tA::tB::tC::tD::tE::tF::tG::tH::tI::tJ::tK::tL::tM::tN::tO::tP::tQ::tR::tS::tT::tU::tV::tW::tX::tY::tZ::q0::q1::q2::q3::q4::q5::q6::q7::q8::q9::qa::qb::qc::qd::qe::qf::qg::qh::qi::qj::qk::ql::qm::qn::qo::qp::qq::qr::qs::qt::qu::qv::qw::qx::qy::qz::qA::qB::qC::qD::qE::qF::qG::qH::qI::qJ::qK::qL::qM::qN::qO::qP::qQ::qR::qS::qT::qU::qV::qW::qX::qY::qZ::z0::z1::z2::z3::z4::z5::z6::z7::z8::z9::za::zb::zc::zd::ze::zf::zg::zh::zi::zj::zk::zl::zm::zn::zo::zp::zq::zr::zs::zt::zu::zv::zw::zx::zy::zz::zA::zB::zC::zD::zE::uu::zG::zH::zI::zJ::zK::zL::zM::zN::zO::zP::zQ::zR::zS::zT::zU::zV::zW::zX::zY::zZ::y0::y1::y2::y3::y4::y5::y6::[]),h⟩) :=
  (go_gdT0 rfl rfl rfl (by kernel_rfl)
  (st_bp (by kernel_rfl) fun v204 h205 =>
  (go_run0 rfl rfl rfl (by kernel_rfl) (st_bm (by kernel_rfl) fun v206 h207 =>
  (by kernel_rfl))))
  (go_skip0 rfl rfl rfl (by kernel_rfl)
  (by kernel_rfl))
  (by kernel_rfl))
theorem xm3_17 (s : Sys) (k wl : Nat) (m0 : Nat) (ac : List Nat × List Nat) (h : Hp) : opsP (xX s 3 wl k false) xg3_8 10 m0 ac (runK (xX s 3 wl k false) (bodyK s.P Try.f3) xk3_9) ⟨(t0::t1::t2::t3::t4::t5::t6::t7::t8::t9::ta::tb::tc::td::te::tf::tg::th::ti::tj::tk::tl::tm::tn::tp::tq::tr::ts::tt::tu::tv::tw::tx::ty::tz::tA::tB::tC::tD::tE::tF::tG::tH::tI::tJ::tK::tL::tM::tN::tO::tP::tQ::tR::tS::tT::tU::tV::tW::tX::tY::tZ::q0::q1::q2::q3::q4::q5::q6::q7::q8::q9::qa::qb::qc::qd::qe::qf::qg::qh::qi::qj::qk::ql::qm::qn::qo::qp::qq::qr::qs::qt::qu::qv::qw::qx::qy::qz::qA::qB::qC::qD::qE::qF::qG::qH::qI::qJ::qK::qL::qM::qN::qO::qP::qQ::qR::qS::qT::qU::qV::qW::qX::qY::qZ::z0::z1::z2::z3::z4::z5::z6::z7::z8::z9::za::zb::zc::zd::ze::zf::zg::zh::zi::zj::zk::zl::zm::zn::zo::zp::zq::zr::zs::zt::zu::zv::zw::zx::zy::zz::zA::zB::zC::zD::zE::zF::zG::zH::zI::zJ::zK::zL::zM::zN::zO::zP::zQ::zR::zS::zT::zU::zV::zW::zX::zY::zZ::y0::y1::y2::y3::y4::y5::y6::[]),h⟩ =
  gd zI (
  bp (opLen s.P 35 tf h) fun v208 h209 =>
  bm (vBin s.P .eql 3 v208 (V.lit (Value.int .i64 0))) h209 fun v210 h211 =>
  opsP (xX s 3 wl k false) xg3_8 14 m0 ac (runK (xX s 3 wl k false) (bodyK s.P Try.f3) xk3_9) ⟨(t0::t1::t2::t3::t4::t5::t6::t7::t8::t9::ta::tb::tc::td::te::tf::tg::th::ti::tj::tk::tl::tm::tn::tp::tq::tr::ts::tt::tu::tv::tw::tx::ty::tz::tA::tB::tC::tD::tE::tF::tG::tH::tI::tJ::tK::tL::tM::tN::tO::tP::tQ::tR::tS::tT::tU::tV::tW::tX::tY::tZ::q0::q1::q2::q3::q4::q5::q6::q7::q8::q9::qa::qb::qc::qd::qe::qf::qg::qh::qi::qj::qk::ql::qm::qn::qo::qp::qq::qr::qs::qt::qu::qv::qw::qx::qy::qz::qA::qB::qC::qD::qE::qF::qG::qH::qI::qJ::qK::qL::qM::qN::qO::qP::qQ::qR::qS::qT::qU::qV::qW::qX::qY::qZ::z0::z1::z2::z3::z4::z5::z6::z7::z8::z9::za::zb::zc::zd::ze::zf::zg::zh::zi::zj::zk::zl::zm::zn::zo::zp::zq::zr::zs::zt::zu::zv::zw::zx::zy::zz::zA::zB::zC::zD::zE::zF::zG::zH::(V.lit (Value.bool true))::tf::v208::v210::v210::zN::zO::zP::zQ::zR::zS::zT::zU::zV::zW::zX::zY::zZ::y0::y1::y2::y3::y4::y5::y6::[]),h211⟩) (
  opsP (xX s 3 wl k false) xg3_8 16 m0 ac (runK (xX s 3 wl k false) (bodyK s.P Try.f3) xk3_9) ⟨(t0::t1::t2::t3::t4::t5::t6::t7::t8::t9::ta::tb::tc::td::te::tf::tg::th::ti::tj::tk::tl::tm::tn::tp::tq::tr::ts::tt::tu::tv::tw::tx::ty::tz::tA::tB::tC::tD::tE::tF::tG::tH::tI::tJ::tK::tL::tM::tN::tO::tP::tQ::tR::tS::tT::tU::tV::tW::tX::tY::tZ::q0::q1::q2::q3::q4::q5::q6::q7::q8::q9::qa::qb::qc::qd::qe::qf::qg::qh::qi::qj::qk::ql::qm::qn::qo::qp::qq::qr::qs::qt::qu::qv::qw::qx::qy::qz::qA::qB::qC::qD::qE::qF::qG::qH::qI::qJ::qK::qL::qM::qN::qO::qP::qQ::qR::qS::qT::qU::qV::qW::qX::qY::qZ::z0::z1::z2::z3::z4::z5::z6::z7::z8::z9::za::zb::zc::zd::ze::zf::zg::zh::zi::zj::zk::zl::zm::zn::zo::zp::zq::zr::zs::zt::zu::zv::zw::zx::zy::zz::zA::zB::zC::zD::zE::zF::zG::zH::(V.lit (Value.bool false))::uu::uu::uu::uu::uu::uu::zP::zQ::zR::zS::zT::zU::zV::zW::zX::zY::zZ::y0::y1::y2::y3::y4::y5::y6::[]),h⟩) (
  opsP (xX s 3 wl k false) xg3_8 11 m0 ac (runK (xX s 3 wl k false) (bodyK s.P Try.f3) xk3_9) ⟨(t0::t1::t2::t3::t4::t5::t6::t7::t8::t9::ta::tb::tc::td::te::tf::tg::th::ti::tj::tk::tl::tm::tn::tp::tq::tr::ts::tt::tu::tv::tw::tx::ty::tz::tA::tB::tC::tD::tE::tF::tG::tH::tI::tJ::tK::tL::tM::tN::tO::tP::tQ::tR::tS::tT::tU::tV::tW::tX::tY::tZ::q0::q1::q2::q3::q4::q5::q6::q7::q8::q9::qa::qb::qc::qd::qe::qf::qg::qh::qi::qj::qk::ql::qm::qn::qo::qp::qq::qr::qs::qt::qu::qv::qw::qx::qy::qz::qA::qB::qC::qD::qE::qF::qG::qH::qI::qJ::qK::qL::qM::qN::qO::qP::qQ::qR::qS::qT::qU::qV::qW::qX::qY::qZ::z0::z1::z2::z3::z4::z5::z6::z7::z8::z9::za::zb::zc::zd::ze::zf::zg::zh::zi::zj::zk::zl::zm::zn::zo::zp::zq::zr::zs::zt::zu::zv::zw::zx::zy::zz::zA::zB::zC::zD::zE::zF::zG::zH::zI::uu::zK::zL::zM::zN::zO::zP::zQ::zR::zS::zT::zU::zV::zW::zX::zY::zZ::y0::y1::y2::y3::y4::y5::y6::[]),h⟩) :=
  (go_gdT0 rfl rfl rfl (by kernel_rfl)
  (st_id (v := tf) (H := h) (by kernel_rfl)
  (go_run0 rfl rfl rfl (by kernel_rfl) (st_bp (by kernel_rfl) fun v208 h209 =>
  (go_run0 rfl rfl rfl (by kernel_rfl) (st_bm (by kernel_rfl) fun v210 h211 =>
  (go_run0 rfl rfl rfl (by kernel_rfl) (st_id (v := v210) (H := h211) (by kernel_rfl)
  (by kernel_rfl))))))))
  (go_skip0 rfl rfl rfl (by kernel_rfl)
  (go_skip0 rfl rfl rfl (by kernel_rfl)
  (go_skip0 rfl rfl rfl (by kernel_rfl)
  (go_none0 (x := #[]) rfl rfl rfl (by kernel_rfl)
  (go_skip0 rfl rfl rfl (by kernel_rfl)
  (by kernel_rfl))))))
  (by kernel_rfl))
theorem xm3_18 (s : Sys) (k wl : Nat) (m0 : Nat) (ac : List Nat × List Nat) (h : Hp) : opsP (xX s 3 wl k false) xg3_8 7 m0 ac (runK (xX s 3 wl k false) (bodyK s.P Try.f3) xk3_9) ⟨(t0::t1::t2::t3::t4::t5::t6::t7::t8::t9::ta::tb::tc::td::te::tf::tg::th::ti::tj::tk::tl::tm::tn::tp::tq::tr::ts::tt::tu::tv::tw::tx::ty::tz::tA::tB::tC::tD::tE::tF::tG::tH::tI::tJ::tK::tL::tM::tN::tO::tP::tQ::tR::tS::tT::tU::tV::tW::tX::tY::tZ::q0::q1::q2::q3::q4::q5::q6::q7::q8::q9::qa::qb::qc::qd::qe::qf::qg::qh::qi::qj::qk::ql::qm::qn::qo::qp::qq::qr::qs::qt::qu::qv::qw::qx::qy::qz::qA::qB::qC::qD::qE::qF::qG::qH::qI::qJ::qK::qL::qM::qN::qO::qP::qQ::qR::qS::qT::qU::qV::qW::qX::qY::qZ::z0::z1::z2::z3::z4::z5::z6::z7::z8::z9::za::zb::zc::zd::ze::zf::zg::zh::zi::zj::zk::zl::zm::zn::zo::zp::zq::zr::zs::zt::zu::zv::zw::zx::zy::zz::zA::zB::zC::zD::zE::zF::zG::zH::zI::zJ::zK::zL::zM::zN::zO::zP::zQ::zR::zS::zT::zU::zV::zW::zX::zY::zZ::y0::y1::y2::y3::y4::y5::y6::[]),h⟩ =
  gd zD (
  bm (vUn .not zF) h fun v212 h213 =>
  opsP (xX s 3 wl k false) xg3_8 8 m0 ac (runK (xX s 3 wl k false) (bodyK s.P Try.f3) xk3_9) ⟨(t0::t1::t2::t3::t4::t5::t6::t7::t8::t9::ta::tb::tc::td::te::tf::tg::th::ti::tj::tk::tl::tm::tn::tp::tq::tr::ts::tt::tu::tv::tw::tx::ty::tz::tA::tB::tC::tD::tE::tF::tG::tH::tI::tJ::tK::tL::tM::tN::tO::tP::tQ::tR::tS::tT::tU::tV::tW::tX::tY::tZ::q0::q1::q2::q3::q4::q5::q6::q7::q8::q9::qa::qb::qc::qd::qe::qf::qg::qh::qi::qj::qk::ql::qm::qn::qo::qp::qq::qr::qs::qt::qu::qv::qw::qx::qy::qz::qA::qB::qC::qD::qE::qF::qG::qH::qI::qJ::qK::qL::qM::qN::qO::qP::qQ::qR::qS::qT::qU::qV::qW::qX::qY::qZ::z0::z1::z2::z3::z4::z5::z6::z7::z8::z9::za::zb::zc::zd::ze::zf::zg::zh::zi::zj::zk::zl::zm::zn::zo::zp::zq::zr::zs::zt::zu::zv::zw::zx::zy::zz::zA::zB::zC::(V.lit (Value.bool true))::zE::zF::v212::zH::zI::zJ::zK::zL::zM::zN::zO::zP::zQ::zR::zS::zT::zU::zV::zW::zX::zY::zZ::y0::y1::y2::y3::y4::y5::y6::[]),h213⟩) (
  opsP (xX s 3 wl k false) xg3_8 8 m0 ac (runK (xX s 3 wl k false) (bodyK s.P Try.f3) xk3_9) ⟨(t0::t1::t2::t3::t4::t5::t6::t7::t8::t9::ta::tb::tc::td::te::tf::tg::th::ti::tj::tk::tl::tm::tn::tp::tq::tr::ts::tt::tu::tv::tw::tx::ty::tz::tA::tB::tC::tD::tE::tF::tG::tH::tI::tJ::tK::tL::tM::tN::tO::tP::tQ::tR::tS::tT::tU::tV::tW::tX::tY::tZ::q0::q1::q2::q3::q4::q5::q6::q7::q8::q9::qa::qb::qc::qd::qe::qf::qg::qh::qi::qj::qk::ql::qm::qn::qo::qp::qq::qr::qs::qt::qu::qv::qw::qx::qy::qz::qA::qB::qC::qD::qE::qF::qG::qH::qI::qJ::qK::qL::qM::qN::qO::qP::qQ::qR::qS::qT::qU::qV::qW::qX::qY::qZ::z0::z1::z2::z3::z4::z5::z6::z7::z8::z9::za::zb::zc::zd::ze::zf::zg::zh::zi::zj::zk::zl::zm::zn::zo::zp::zq::zr::zs::zt::zu::zv::zw::zx::zy::zz::zA::zB::zC::(V.lit (Value.bool false))::zE::zF::uu::zH::zI::zJ::zK::zL::zM::zN::zO::zP::zQ::zR::zS::zT::zU::zV::zW::zX::zY::zZ::y0::y1::y2::y3::y4::y5::y6::[]),h⟩) (
  opsP (xX s 3 wl k false) xg3_8 8 m0 ac (runK (xX s 3 wl k false) (bodyK s.P Try.f3) xk3_9) ⟨(t0::t1::t2::t3::t4::t5::t6::t7::t8::t9::ta::tb::tc::td::te::tf::tg::th::ti::tj::tk::tl::tm::tn::tp::tq::tr::ts::tt::tu::tv::tw::tx::ty::tz::tA::tB::tC::tD::tE::tF::tG::tH::tI::tJ::tK::tL::tM::tN::tO::tP::tQ::tR::tS::tT::tU::tV::tW::tX::tY::tZ::q0::q1::q2::q3::q4::q5::q6::q7::q8::q9::qa::qb::qc::qd::qe::qf::qg::qh::qi::qj::qk::ql::qm::qn::qo::qp::qq::qr::qs::qt::qu::qv::qw::qx::qy::qz::qA::qB::qC::qD::qE::qF::qG::qH::qI::qJ::qK::qL::qM::qN::qO::qP::qQ::qR::qS::qT::qU::qV::qW::qX::qY::qZ::z0::z1::z2::z3::z4::z5::z6::z7::z8::z9::za::zb::zc::zd::ze::zf::zg::zh::zi::zj::zk::zl::zm::zn::zo::zp::zq::zr::zs::zt::zu::zv::zw::zx::zy::zz::zA::zB::zC::zD::zE::zF::uu::zH::zI::zJ::zK::zL::zM::zN::zO::zP::zQ::zR::zS::zT::zU::zV::zW::zX::zY::zZ::y0::y1::y2::y3::y4::y5::y6::[]),h⟩) :=
  (go_gdT0 rfl rfl rfl (by kernel_rfl)
  (st_bm (by kernel_rfl) fun v212 h213 =>
  (by kernel_rfl))
  (by kernel_rfl)
  (by kernel_rfl))
theorem xm3_19 (s : Sys) (k wl : Nat) (m0 : Nat) (ac : List Nat × List Nat) (h : Hp) : opsP (xX s 3 wl k false) xg3_8 14 m0 ac (runK (xX s 3 wl k false) (bodyK s.P Try.f3) xk3_9) ⟨(t0::t1::t2::t3::t4::t5::t6::t7::t8::t9::ta::tb::tc::td::te::tf::tg::th::ti::tj::tk::tl::tm::tn::tp::tq::tr::ts::tt::tu::tv::tw::tx::ty::tz::tA::tB::tC::tD::tE::tF::tG::tH::tI::tJ::tK::tL::tM::tN::tO::tP::tQ::tR::tS::tT::tU::tV::tW::tX::tY::tZ::q0::q1::q2::q3::q4::q5::q6::q7::q8::q9::qa::qb::qc::qd::qe::qf::qg::qh::qi::qj::qk::ql::qm::qn::qo::qp::qq::qr::qs::qt::qu::qv::qw::qx::qy::qz::qA::qB::qC::qD::qE::qF::qG::qH::qI::qJ::qK::qL::qM::qN::qO::qP::qQ::qR::qS::qT::qU::qV::qW::qX::qY::qZ::z0::z1::z2::z3::z4::z5::z6::z7::z8::z9::za::zb::zc::zd::ze::zf::zg::zh::zi::zj::zk::zl::zm::zn::zo::zp::zq::zr::zs::zt::zu::zv::zw::zx::zy::zz::zA::zB::zC::zD::zE::zF::zG::zH::zI::zJ::zK::zL::zM::zN::zO::zP::zQ::zR::zS::zT::zU::zV::zW::zX::zY::zZ::y0::y1::y2::y3::y4::y5::y6::[]),h⟩ =
  gd zM (
  opsP (xX s 3 wl k false) xg3_8 15 m0 ac (runK (xX s 3 wl k false) (bodyK s.P Try.f3) xk3_9) ⟨(t0::t1::t2::t3::t4::t5::t6::t7::t8::t9::ta::tb::tc::td::te::tf::tg::th::ti::tj::tk::tl::tm::tn::tp::tq::tr::ts::tt::tu::tv::tw::tx::ty::tz::tA::tB::tC::tD::tE::tF::tG::tH::tI::tJ::tK::tL::tM::tN::tO::tP::tQ::tR::tS::tT::tU::tV::tW::tX::tY::tZ::q0::q1::q2::q3::q4::q5::q6::q7::q8::q9::qa::qb::qc::qd::qe::qf::qg::qh::qi::qj::qk::ql::qm::qn::qo::qp::qq::qr::qs::qt::qu::qv::qw::qx::qy::qz::qA::qB::qC::qD::qE::qF::qG::qH::qI::qJ::qK::qL::qM::qN::qO::qP::qQ::qR::qS::qT::qU::qV::qW::qX::qY::qZ::z0::z1::z2::z3::z4::z5::z6::z7::z8::z9::za::zb::zc::zd::ze::zf::zg::zh::zi::zj::zk::zl::zm::zn::zo::zp::zq::zr::zs::zt::zu::zv::zw::zx::zy::zz::zA::zB::zC::zD::zE::zF::zG::zH::zI::zJ::zK::zL::(V.lit (Value.bool true))::uu::zO::zP::zQ::zR::zS::zT::zU::zV::zW::zX::zY::zZ::y0::y1::y2::y3::y4::y5::y6::[]),h⟩) (
  opsP (xX s 3 wl k false) xg3_8 15 m0 ac (runK (xX s 3 wl k false) (bodyK s.P Try.f3) xk3_9) ⟨(t0::t1::t2::t3::t4::t5::t6::t7::t8::t9::ta::tb::tc::td::te::tf::tg::th::ti::tj::tk::tl::tm::tn::tp::tq::tr::ts::tt::tu::tv::tw::tx::ty::tz::tA::tB::tC::tD::tE::tF::tG::tH::tI::tJ::tK::tL::tM::tN::tO::tP::tQ::tR::tS::tT::tU::tV::tW::tX::tY::tZ::q0::q1::q2::q3::q4::q5::q6::q7::q8::q9::qa::qb::qc::qd::qe::qf::qg::qh::qi::qj::qk::ql::qm::qn::qo::qp::qq::qr::qs::qt::qu::qv::qw::qx::qy::qz::qA::qB::qC::qD::qE::qF::qG::qH::qI::qJ::qK::qL::qM::qN::qO::qP::qQ::qR::qS::qT::qU::qV::qW::qX::qY::qZ::z0::z1::z2::z3::z4::z5::z6::z7::z8::z9::za::zb::zc::zd::ze::zf::zg::zh::zi::zj::zk::zl::zm::zn::zo::zp::zq::zr::zs::zt::zu::zv::zw::zx::zy::zz::zA::zB::zC::zD::zE::zF::zG::zH::zI::zJ::zK::zL::(V.lit (Value.bool false))::tl::zO::zP::zQ::zR::zS::zT::zU::zV::zW::zX::zY::zZ::y0::y1::y2::y3::y4::y5::y6::[]),h⟩) (
  opsP (xX s 3 wl k false) xg3_8 15 m0 ac (runK (xX s 3 wl k false) (bodyK s.P Try.f3) xk3_9) ⟨(t0::t1::t2::t3::t4::t5::t6::t7::t8::t9::ta::tb::tc::td::te::tf::tg::th::ti::tj::tk::tl::tm::tn::tp::tq::tr::ts::tt::tu::tv::tw::tx::ty::tz::tA::tB::tC::tD::tE::tF::tG::tH::tI::tJ::tK::tL::tM::tN::tO::tP::tQ::tR::tS::tT::tU::tV::tW::tX::tY::tZ::q0::q1::q2::q3::q4::q5::q6::q7::q8::q9::qa::qb::qc::qd::qe::qf::qg::qh::qi::qj::qk::ql::qm::qn::qo::qp::qq::qr::qs::qt::qu::qv::qw::qx::qy::qz::qA::qB::qC::qD::qE::qF::qG::qH::qI::qJ::qK::qL::qM::qN::qO::qP::qQ::qR::qS::qT::qU::qV::qW::qX::qY::qZ::z0::z1::z2::z3::z4::z5::z6::z7::z8::z9::za::zb::zc::zd::ze::zf::zg::zh::zi::zj::zk::zl::zm::zn::zo::zp::zq::zr::zs::zt::zu::zv::zw::zx::zy::zz::zA::zB::zC::zD::zE::zF::zG::zH::zI::zJ::zK::zL::zM::uu::zO::zP::zQ::zR::zS::zT::zU::zV::zW::zX::zY::zZ::y0::y1::y2::y3::y4::y5::y6::[]),h⟩) :=
  (go_gdF0 rfl rfl rfl (by kernel_rfl)
  (by kernel_rfl)
  (st_id (v := tl) (H := h) (by kernel_rfl)
  (by kernel_rfl))
  (by kernel_rfl))
theorem xm3_20 (s : Sys) (k wl : Nat) (m0 : Nat) (ac : List Nat × List Nat) (h : Hp) : opsP (xX s 3 wl k false) xg3_8 16 m0 ac (runK (xX s 3 wl k false) (bodyK s.P Try.f3) xk3_9) ⟨(t0::t1::t2::t3::t4::t5::t6::t7::t8::t9::ta::tb::tc::td::te::tf::tg::th::ti::tj::tk::tl::tm::tn::tp::tq::tr::ts::tt::tu::tv::tw::tx::ty::tz::tA::tB::tC::tD::tE::tF::tG::tH::tI::tJ::tK::tL::tM::tN::tO::tP::tQ::tR::tS::tT::tU::tV::tW::tX::tY::tZ::q0::q1::q2::q3::q4::q5::q6::q7::q8::q9::qa::qb::qc::qd::qe::qf::qg::qh::qi::qj::qk::ql::qm::qn::qo::qp::qq::qr::qs::qt::qu::qv::qw::qx::qy::qz::qA::qB::qC::qD::qE::qF::qG::qH::qI::qJ::qK::qL::qM::qN::qO::qP::qQ::qR::qS::qT::qU::qV::qW::qX::qY::qZ::z0::z1::z2::z3::z4::z5::z6::z7::z8::z9::za::zb::zc::zd::ze::zf::zg::zh::zi::zj::zk::zl::zm::zn::zo::zp::zq::zr::zs::zt::zu::zv::zw::zx::zy::zz::zA::zB::zC::zD::zE::zF::zG::zH::zI::zJ::zK::zL::zM::zN::zO::zP::zQ::zR::zS::zT::zU::zV::zW::zX::zY::zZ::y0::y1::y2::y3::y4::y5::y6::[]),h⟩ =
  gd zB (
  bm (vPick zI zO (V.lit (Value.bool false))) h fun v214 h215 =>
  opsP (xX s 3 wl k false) xg3_8 18 m0 ac (runK (xX s 3 wl k false) (bodyK s.P Try.f3) xk3_9) ⟨(t0::t1::t2::t3::t4::t5::t6::t7::t8::t9::ta::tb::tc::td::te::tf::tg::th::ti::tj::tk::tl::tm::tn::tp::tq::tr::ts::tt::tu::tv::tw::tx::ty::tz::tA::tB::tC::tD::tE::tF::tG::tH::tI::tJ::tK::tL::tM::tN::tO::tP::tQ::tR::tS::tT::tU::tV::tW::tX::tY::tZ::q0::q1::q2::q3::q4::q5::q6::q7::q8::q9::qa::qb::qc::qd::qe::qf::qg::qh::qi::qj::qk::ql::qm::qn::qo::qp::qq::qr::qs::qt::qu::qv::qw::qx::qy::qz::qA::qB::qC::qD::qE::qF::qG::qH::qI::qJ::qK::qL::qM::qN::qO::qP::qQ::qR::qS::qT::qU::qV::qW::qX::qY::qZ::z0::z1::z2::z3::z4::z5::z6::z7::z8::z9::za::zb::zc::zd::ze::zf::zg::zh::zi::zj::zk::zl::zm::zn::zo::zp::zq::zr::zs::zt::zu::zv::zw::zx::zy::zz::zA::(V.lit (Value.bool true))::zC::zD::zE::zF::zG::zH::zI::zJ::zK::zL::zM::zN::zO::v214::v214::zR::zS::zT::zU::zV::zW::zX::zY::zZ::y0::y1::y2::y3::y4::y5::y6::[]),h215⟩) (
  opsP (xX s 3 wl k false) xg3_8 33 m0 ac (runK (xX s 3 wl k false) (bodyK s.P Try.f3) xk3_9) ⟨(t0::t1::t2::t3::t4::t5::t6::t7::t8::t9::ta::tb::tc::td::te::tf::tg::th::ti::tj::tk::tl::tm::tn::tp::tq::tr::ts::tt::tu::tv::tw::tx::ty::tz::tA::tB::tC::tD::tE::tF::tG::tH::tI::tJ::tK::tL::tM::tN::tO::tP::tQ::tR::tS::tT::tU::tV::tW::tX::tY::tZ::q0::q1::q2::q3::q4::q5::q6::q7::q8::q9::qa::qb::qc::qd::qe::qf::qg::qh::qi::qj::qk::ql::qm::qn::qo::qp::qq::qr::qs::qt::qu::qv::qw::qx::qy::qz::qA::qB::qC::qD::qE::qF::qG::qH::qI::qJ::qK::qL::qM::qN::qO::qP::qQ::qR::qS::qT::qU::qV::qW::qX::qY::qZ::z0::z1::z2::z3::z4::z5::z6::z7::z8::z9::za::zb::zc::zd::ze::zf::zg::zh::zi::zj::zk::zl::zm::zn::zo::zp::zq::zr::zs::zt::zu::zv::zw::zx::zy::zz::zA::(V.lit (Value.bool false))::zC::zD::zE::zF::zG::zH::zI::zJ::zK::zL::zM::zN::zO::uu::uu::uu::uu::uu::uu::uu::uu::uu::uu::uu::uu::uu::uu::uu::uu::uu::y6::[]),h⟩) (
  opsP (xX s 3 wl k false) xg3_8 17 m0 ac (runK (xX s 3 wl k false) (bodyK s.P Try.f3) xk3_9) ⟨(t0::t1::t2::t3::t4::t5::t6::t7::t8::t9::ta::tb::tc::td::te::tf::tg::th::ti::tj::tk::tl::tm::tn::tp::tq::tr::ts::tt::tu::tv::tw::tx::ty::tz::tA::tB::tC::tD::tE::tF::tG::tH::tI::tJ::tK::tL::tM::tN::tO::tP::tQ::tR::tS::tT::tU::tV::tW::tX::tY::tZ::q0::q1::q2::q3::q4::q5::q6::q7::q8::q9::qa::qb::qc::qd::qe::qf::qg::qh::qi::qj::qk::ql::qm::qn::qo::qp::qq::qr::qs::qt::qu::qv::qw::qx::qy::qz::qA::qB::qC::qD::qE::qF::qG::qH::qI::qJ::qK::qL::qM::qN::qO::qP::qQ::qR::qS::qT::qU::qV::qW::qX::qY::qZ::z0::z1::z2::z3::z4::z5::z6::z7::z8::z9::za::zb::zc::zd::ze::zf::zg::zh::zi::zj::zk::zl::zm::zn::zo::zp::zq::zr::zs::zt::zu::zv::zw::zx::zy::zz::zA::zB::zC::zD::zE::zF::zG::zH::zI::zJ::zK::zL::zM::zN::zO::uu::zQ::zR::zS::zT::zU::zV::zW::zX::zY::zZ::y0::y1::y2::y3::y4::y5::y6::[]),h⟩) :=
  (go_gdT0 rfl rfl rfl (by kernel_rfl)
  (st_bm (by kernel_rfl) fun v214 h215 =>
  (go_run0 rfl rfl rfl (by kernel_rfl) (st_id (v := v214) (H := h215) (by kernel_rfl)
  (by kernel_rfl))))
  (go_skip0 rfl rfl rfl (by kernel_rfl)
  (go_none0 (x := #[]) rfl rfl rfl (by kernel_rfl)
  (go_none0 (x := #[]) rfl rfl rfl (by kernel_rfl)
  (go_none0 (x := #[]) rfl rfl rfl (by kernel_rfl)
  (go_none0 (x := #[]) rfl rfl rfl (by kernel_rfl)
  (go_none0 (x := #[]) rfl rfl rfl (by kernel_rfl)
  (go_none0 (x := #[]) rfl rfl rfl (by kernel_rfl)
  (go_none0 (x := #[]) rfl rfl rfl (by kernel_rfl)
  (go_none0 (x := #[]) rfl rfl rfl (by kernel_rfl)
  (go_none0 (x := #[]) rfl rfl rfl (by kernel_rfl)
  (go_none0 (x := #[]) rfl rfl rfl (by kernel_rfl)
  (go_none0 (x := #[]) rfl rfl rfl (by kernel_rfl)
  (go_none0 (x := #[]) rfl rfl rfl (by kernel_rfl)
  (go_none0 (x := #[]) rfl rfl rfl (by kernel_rfl)
  (go_none0 (x := #[]) rfl rfl rfl (by kernel_rfl)
  (go_skip0 rfl rfl rfl (by kernel_rfl)
  (by kernel_rfl)))))))))))))))))
  (by kernel_rfl))
theorem xm3_21 (s : Sys) (k wl : Nat) (m0 : Nat) (ac : List Nat × List Nat) (h : Hp) : opsP (xX s 3 wl k false) xg3_8 11 m0 ac (runK (xX s 3 wl k false) (bodyK s.P Try.f3) xk3_9) ⟨(t0::t1::t2::t3::t4::t5::t6::t7::t8::t9::ta::tb::tc::td::te::tf::tg::th::ti::tj::tk::tl::tm::tn::tp::tq::tr::ts::tt::tu::tv::tw::tx::ty::tz::tA::tB::tC::tD::tE::tF::tG::tH::tI::tJ::tK::tL::tM::tN::tO::tP::tQ::tR::tS::tT::tU::tV::tW::tX::tY::tZ::q0::q1::q2::q3::q4::q5::q6::q7::q8::q9::qa::qb::qc::qd::qe::qf::qg::qh::qi::qj::qk::ql::qm::qn::qo::qp::qq::qr::qs::qt::qu::qv::qw::qx::qy::qz::qA::qB::qC::qD::qE::qF::qG::qH::qI::qJ::qK::qL::qM::qN::qO::qP::qQ::qR::qS::qT::qU::qV::qW::qX::qY::qZ::z0::z1::z2::z3::z4::z5::z6::z7::z8::z9::za::zb::zc::zd::ze::zf::zg::zh::zi::zj::zk::zl::zm::zn::zo::zp::zq::zr::zs::zt::zu::zv::zw::zx::zy::zz::zA::zB::zC::zD::zE::zF::zG::zH::zI::zJ::zK::zL::zM::zN::zO::zP::zQ::zR::zS::zT::zU::zV::zW::zX::zY::zZ::y0::y1::y2::y3::y4::y5::y6::[]),h⟩ =
  gd zI (
  bp (opLen s.P 35 zJ h) fun v216 h217 =>
  bm (vBin s.P .eql 3 v216 (V.lit (Value.int .i64 0))) h217 fun v218 h219 =>
  opsP (xX s 3 wl k false) xg3_8 14 m0 ac (runK (xX s 3 wl k false) (bodyK s.P Try.f3) xk3_9) ⟨(t0::t1::t2::t3::t4::t5::t6::t7::t8::t9::ta::tb::tc::td::te::tf::tg::th::ti::tj::tk::tl::tm::tn::tp::tq::tr::ts::tt::tu::tv::tw::tx::ty::tz::tA::tB::tC::tD::tE::tF::tG::tH::tI::tJ::tK::tL::tM::tN::tO::tP::tQ::tR::tS::tT::tU::tV::tW::tX::tY::tZ::q0::q1::q2::q3::q4::q5::q6::q7::q8::q9::qa::qb::qc::qd::qe::qf::qg::qh::qi::qj::qk::ql::qm::qn::qo::qp::qq::qr::qs::qt::qu::qv::qw::qx::qy::qz::qA::qB::qC::qD::qE::qF::qG::qH::qI::qJ::qK::qL::qM::qN::qO::qP::qQ::qR::qS::qT::qU::qV::qW::qX::qY::qZ::z0::z1::z2::z3::z4::z5::z6::z7::z8::z9::za::zb::zc::zd::ze::zf::zg::zh::zi::zj::zk::zl::zm::zn::zo::zp::zq::zr::zs::zt::zu::zv::zw::zx::zy::zz::zA::zB::zC::zD::zE::zF::zG::zH::(V.lit (Value.bool true))::zJ::v216::v218::v218::zN::zO::zP::zQ::zR::zS::zT::zU::zV::zW::zX::zY::zZ::y0::y1::y2::y3::y4::y5::y6::[]),h219⟩) (
  opsP (xX s 3 wl k false) xg3_8 16 m0 ac (runK (xX s 3 wl k false) (bodyK s.P Try.f3) xk3_9) ⟨(t0::t1::t2::t3::t4::t5::t6::t7::t8::t9::ta::tb::tc::td::te::tf::tg::th::ti::tj::tk::tl::tm::tn::tp::tq::tr::ts::tt::tu::tv::tw::tx::ty::tz::tA::tB::tC::tD::tE::tF::tG::tH::tI::tJ::tK::tL::tM::tN::tO::tP::tQ::tR::tS::tT::tU::tV::tW::tX::tY::tZ::q0::q1::q2::q3::q4::q5::q6::q7::q8::q9::qa::qb::qc::qd::qe::qf::qg::qh::qi::qj::qk::ql::qm::qn::qo::qp::qq::qr::qs::qt::qu::qv::qw::qx::qy::qz::qA::qB::qC::qD::qE::qF::qG::qH::qI::qJ::qK::qL::qM::qN::qO::qP::qQ::qR::qS::qT::qU::qV::qW::qX::qY::qZ::z0::z1::z2::z3::z4::z5::z6::z7::z8::z9::za::zb::zc::zd::ze::zf::zg::zh::zi::zj::zk::zl::zm::zn::zo::zp::zq::zr::zs::zt::zu::zv::zw::zx::zy::zz::zA::zB::zC::zD::zE::zF::zG::zH::(V.lit (Value.bool false))::zJ::uu::uu::uu::uu::uu::zP::zQ::zR::zS::zT::zU::zV::zW::zX::zY::zZ::y0::y1::y2::y3::y4::y5::y6::[]),h⟩) (
  opsP (xX s 3 wl k false) xg3_8 12 m0 ac (runK (xX s 3 wl k false) (bodyK s.P Try.f3) xk3_9) ⟨(t0::t1::t2::t3::t4::t5::t6::t7::t8::t9::ta::tb::tc::td::te::tf::tg::th::ti::tj::tk::tl::tm::tn::tp::tq::tr::ts::tt::tu::tv::tw::tx::ty::tz::tA::tB::tC::tD::tE::tF::tG::tH::tI::tJ::tK::tL::tM::tN::tO::tP::tQ::tR::tS::tT::tU::tV::tW::tX::tY::tZ::q0::q1::q2::q3::q4::q5::q6::q7::q8::q9::qa::qb::qc::qd::qe::qf::qg::qh::qi::qj::qk::ql::qm::qn::qo::qp::qq::qr::qs::qt::qu::qv::qw::qx::qy::qz::qA::qB::qC::qD::qE::qF::qG::qH::qI::qJ::qK::qL::qM::qN::qO::qP::qQ::qR::qS::qT::qU::qV::qW::qX::qY::qZ::z0::z1::z2::z3::z4::z5::z6::z7::z8::z9::za::zb::zc::zd::ze::zf::zg::zh::zi::zj::zk::zl::zm::zn::zo::zp::zq::zr::zs::zt::zu::zv::zw::zx::zy::zz::zA::zB::zC::zD::zE::zF::zG::zH::zI::zJ::uu::zL::zM::zN::zO::zP::zQ::zR::zS::zT::zU::zV::zW::zX::zY::zZ::y0::y1::y2::y3::y4::y5::y6::[]),h⟩) :=
  (go_gdT0 rfl rfl rfl (by kernel_rfl)
  (st_bp (by kernel_rfl) fun v216 h217 =>
  (go_run0 rfl rfl rfl (by kernel_rfl) (st_bm (by kernel_rfl) fun v218 h219 =>
  (go_run0 rfl rfl rfl (by kernel_rfl) (st_id (v := v218) (H := h219) (by kernel_rfl)
  (by kernel_rfl))))))
  (go_skip0 rfl rfl rfl (by kernel_rfl)
  (go_skip0 rfl rfl rfl (by kernel_rfl)
  (go_none0 (x := #[]) rfl rfl rfl (by kernel_rfl)
  (go_skip0 rfl rfl rfl (by kernel_rfl)
  (by kernel_rfl)))))
  (by kernel_rfl))
theorem xm3_22 (s : Sys) (k wl : Nat) (m0 : Nat) (ac : List Nat × List Nat) (h : Hp) : opsP (xX s 3 wl k false) xg3_8 15 m0 ac (runK (xX s 3 wl k false) (bodyK s.P Try.f3) xk3_9) ⟨(t0::t1::t2::t3::t4::t5::t6::t7::t8::t9::ta::tb::tc::td::te::tf::tg::th::ti::tj::tk::tl::tm::tn::tp::tq::tr::ts::tt::tu::tv::tw::tx::ty::tz::tA::tB::tC::tD::tE::tF::tG::tH::tI::tJ::tK::tL::tM::tN::tO::tP::tQ::tR::tS::tT::tU::tV::tW::tX::tY::tZ::q0::q1::q2::q3::q4::q5::q6::q7::q8::q9::qa::qb::qc::qd::qe::qf::qg::qh::qi::qj::qk::ql::qm::qn::qo::qp::qq::qr::qs::qt::qu::qv::qw::qx::qy::qz::qA::qB::qC::qD::qE::qF::qG::qH::qI::qJ::qK::qL::qM::qN::qO::qP::qQ::qR::qS::qT::qU::qV::qW::qX::qY::qZ::z0::z1::z2::z3::z4::z5::z6::z7::z8::z9::za::zb::zc::zd::ze::zf::zg::zh::zi::zj::zk::zl::zm::zn::zo::zp::zq::zr::zs::zt::zu::zv::zw::zx::zy::zz::zA::zB::zC::zD::zE::zF::zG::zH::zI::zJ::zK::zL::zM::zN::zO::zP::zQ::zR::zS::zT::zU::zV::zW::zX::zY::zZ::y0::y1::y2::y3::y4::y5::y6::[]),h⟩ =
  gd zI (
  bm (vPick zM (V.lit (Value.bool true)) zN) h fun v220 h221 =>
  opsP (xX s 3 wl k false) xg3_8 16 m0 ac (runK (xX s 3 wl k false) (bodyK s.P Try.f3) xk3_9) ⟨(t0::t1::t2::t3::t4::t5::t6::t7::t8::t9::ta::tb::tc::td::te::tf::tg::th::ti::tj::tk::tl::tm::tn::tp::tq::tr::ts::tt::tu::tv::tw::tx::ty::tz::tA::tB::tC::tD::tE::tF::tG::tH::tI::tJ::tK::tL::tM::tN::tO::tP::tQ::tR::tS::tT::tU::tV::tW::tX::tY::tZ::q0::q1::q2::q3::q4::q5::q6::q7::q8::q9::qa::qb::qc::qd::qe::qf::qg::qh::qi::qj::qk::ql::qm::qn::qo::qp::qq::qr::qs::qt::qu::qv::qw::qx::qy::qz::qA::qB::qC::qD::qE::qF::qG::qH::qI::qJ::qK::qL::qM::qN::qO::qP::qQ::qR::qS::qT::qU::qV::qW::qX::qY::qZ::z0::z1::z2::z3::z4::z5::z6::z7::z8::z9::za::zb::zc::zd::ze::zf::zg::zh::zi::zj::zk::zl::zm::zn::zo::zp::zq::zr::zs::zt::zu::zv::zw::zx::zy::zz::zA::zB::zC::zD::zE::zF::zG::zH::(V.lit (Value.bool true))::zJ::zK::zL::zM::zN::v220::zP::zQ::zR::zS::zT::zU::zV::zW::zX::zY::zZ::y0::y1::y2::y3::y4::y5::y6::[]),h221⟩) (
  opsP (xX s 3 wl k false) xg3_8 16 m0 ac (runK (xX s 3 wl k false) (bodyK s.P Try.f3) xk3_9) ⟨(t0::t1::t2::t3::t4::t5::t6::t7::t8::t9::ta::tb::tc::td::te::tf::tg::th::ti::tj::tk::tl::tm::tn::tp::tq::tr::ts::tt::tu::tv::tw::tx::ty::tz::tA::tB::tC::tD::tE::tF::tG::tH::tI::tJ::tK::tL::tM::tN::tO::tP::tQ::tR::tS::tT::tU::tV::tW::tX::tY::tZ::q0::q1::q2::q3::q4::q5::q6::q7::q8::q9::qa::qb::qc::qd::qe::qf::qg::qh::qi::qj::qk::ql::qm::qn::qo::qp::qq::qr::qs::qt::qu::qv::qw::qx::qy::qz::qA::qB::qC::qD::qE::qF::qG::qH::qI::qJ::qK::qL::qM::qN::qO::qP::qQ::qR::qS::qT::qU::qV::qW::qX::qY::qZ::z0::z1::z2::z3::z4::z5::z6::z7::z8::z9::za::zb::zc::zd::ze::zf::zg::zh::zi::zj::zk::zl::zm::zn::zo::zp::zq::zr::zs::zt::zu::zv::zw::zx::zy::zz::zA::zB::zC::zD::zE::zF::zG::zH::(V.lit (Value.bool false))::zJ::zK::zL::zM::zN::uu::zP::zQ::zR::zS::zT::zU::zV::zW::zX::zY::zZ::y0::y1::y2::y3::y4::y5::y6::[]),h⟩) (
  opsP (xX s 3 wl k false) xg3_8 16 m0 ac (runK (xX s 3 wl k false) (bodyK s.P Try.f3) xk3_9) ⟨(t0::t1::t2::t3::t4::t5::t6::t7::t8::t9::ta::tb::tc::td::te::tf::tg::th::ti::tj::tk::tl::tm::tn::tp::tq::tr::ts::tt::tu::tv::tw::tx::ty::tz::tA::tB::tC::tD::tE::tF::tG::tH::tI::tJ::tK::tL::tM::tN::tO::tP::tQ::tR::tS::tT::tU::tV::tW::tX::tY::tZ::q0::q1::q2::q3::q4::q5::q6::q7::q8::q9::qa::qb::qc::qd::qe::qf::qg::qh::qi::qj::qk::ql::qm::qn::qo::qp::qq::qr::qs::qt::qu::qv::qw::qx::qy::qz::qA::qB::qC::qD::qE::qF::qG::qH::qI::qJ::qK::qL::qM::qN::qO::qP::qQ::qR::qS::qT::qU::qV::qW::qX::qY::qZ::z0::z1::z2::z3::z4::z5::z6::z7::z8::z9::za::zb::zc::zd::ze::zf::zg::zh::zi::zj::zk::zl::zm::zn::zo::zp::zq::zr::zs::zt::zu::zv::zw::zx::zy::zz::zA::zB::zC::zD::zE::zF::zG::zH::zI::zJ::zK::zL::zM::zN::uu::zP::zQ::zR::zS::zT::zU::zV::zW::zX::zY::zZ::y0::y1::y2::y3::y4::y5::y6::[]),h⟩) :=
  (go_gdT0 rfl rfl rfl (by kernel_rfl)
  (st_bm (by kernel_rfl) fun v220 h221 =>
  (by kernel_rfl))
  (by kernel_rfl)
  (by kernel_rfl))
theorem xm3_23 (s : Sys) (k wl : Nat) (m0 : Nat) (ac : List Nat × List Nat) (h : Hp) : opsP (xX s 3 wl k false) xg3_8 18 m0 ac (runK (xX s 3 wl k false) (bodyK s.P Try.f3) xk3_9) ⟨(t0::t1::t2::t3::t4::t5::t6::t7::t8::t9::ta::tb::tc::td::te::tf::tg::th::ti::tj::tk::tl::tm::tn::tp::tq::tr::ts::tt::tu::tv::tw::tx::ty::tz::tA::tB::tC::tD::tE::tF::tG::tH::tI::tJ::tK::tL::tM::tN::tO::tP::tQ::tR::tS::tT::tU::tV::tW::tX::tY::tZ::q0::q1::q2::q3::q4::q5::q6::q7::q8::q9::qa::qb::qc::qd::qe::qf::qg::qh::qi::qj::qk::ql::qm::qn::qo::qp::qq::qr::qs::qt::qu::qv::qw::qx::qy::qz::qA::qB::qC::qD::qE::qF::qG::qH::qI::qJ::qK::qL::qM::qN::qO::qP::qQ::qR::qS::qT::qU::qV::qW::qX::qY::qZ::z0::z1::z2::z3::z4::z5::z6::z7::z8::z9::za::zb::zc::zd::ze::zf::zg::zh::zi::zj::zk::zl::zm::zn::zo::zp::zq::zr::zs::zt::zu::zv::zw::zx::zy::zz::zA::zB::zC::zD::zE::zF::zG::zH::zI::zJ::zK::zL::zM::zN::zO::zP::zQ::zR::zS::zT::zU::zV::zW::zX::zY::zZ::y0::y1::y2::y3::y4::y5::y6::[]),h⟩ =
  gd zQ (
  opsP (xX s 3 wl k false) xg3_8 32 m0 ac (runK (xX s 3 wl k false) (bodyK s.P Try.f3) xk3_9) ⟨(t0::t1::t2::t3::t4::t5::t6::t7::t8::t9::ta::tb::tc::td::te::tf::tg::th::ti::tj::tk::tl::tm::tn::tp::tq::tr::ts::tt::tu::tv::tw::tx::ty::tz::tA::tB::tC::tD::tE::tF::tG::tH::tI::tJ::tK::tL::tM::tN::tO::tP::tQ::tR::tS::tT::tU::tV::tW::tX::tY::tZ::q0::q1::q2::q3::q4::q5::q6::q7::q8::q9::qa::qb::qc::qd::qe::qf::qg::qh::qi::qj::qk::ql::qm::qn::qo::qp::qq::qr::qs::qt::qu::qv::qw::qx::qy::qz::qA::qB::qC::qD::qE::qF::qG::qH::qI::qJ::qK::qL::qM::qN::qO::qP::qQ::qR::qS::qT::qU::qV::qW::qX::qY::qZ::z0::z1::z2::z3::z4::z5::z6::z7::z8::z9::za::zb::zc::zd::ze::zf::zg::zh::zi::zj::zk::zl::zm::zn::zo::zp::zq::zr::zs::zt::zu::zv::zw::zx::zy::zz::zA::zB::zC::zD::zE::zF::zG::zH::zI::zJ::zK::zL::zM::zN::zO::zP::(V.lit (Value.bool true))::uu::uu::uu::uu::uu::uu::uu::uu::uu::uu::uu::uu::uu::uu::y5::y6::[]),h⟩) (
  opsP (xX s 3 wl k false) xg3_8 20 m0 ac (runK (xX s 3 wl k false) (bodyK s.P Try.f3) xk3_9) ⟨(t0::t1::t2::t3::t4::t5::t6::t7::t8::t9::ta::tb::tc::td::te::tf::tg::th::ti::tj::tk::tl::tm::tn::tp::tq::tr::ts::tt::tu::tv::tw::tx::ty::tz::tA::tB::tC::tD::tE::tF::tG::tH::tI::tJ::tK::tL::tM::tN::tO::tP::tQ::tR::tS::tT::tU::tV::tW::tX::tY::tZ::q0::q1::q2::q3::q4::q5::q6::q7::q8::q9::qa::qb::qc::qd::qe::qf::qg::qh::qi::qj::qk::ql::qm::qn::qo::qp::qq::qr::qs::qt::qu::qv::qw::qx::qy::qz::qA::qB::qC::qD::qE::qF::qG::qH::qI::qJ::qK::qL::qM::qN::qO::qP::qQ::qR::qS::qT::qU::qV::qW::qX::qY::qZ::z0::z1::z2::z3::z4::z5::z6::z7::z8::z9::za::zb::zc::zd::ze::zf::zg::zh::zi::zj::zk::zl::zm::zn::zo::zp::zq::zr::zs::zt::zu::zv::zw::zx::zy::zz::zA::zB::zC::zD::zE::zF::zG::zH::zI::zJ::zK::zL::zM::zN::zO::zP::(V.lit (Value.bool false))::tj::tj::zT::zU::zV::zW::zX::zY::zZ::y0::y1::y2::y3::y4::y5::y6::[]),h⟩) (
  opsP (xX s 3 wl k false) xg3_8 19 m0 ac (runK (xX s 3 wl k false) (bodyK s.P Try.f3) xk3_9) ⟨(t0::t1::t2::t3::t4::t5::t6::t7::t8::t9::ta::tb::tc::td::te::tf::tg::th::ti::tj::tk::tl::tm::tn::tp::tq::tr::ts::tt::tu::tv::tw::tx::ty::tz::tA::tB::tC::tD::tE::tF::tG::tH::tI::tJ::tK::tL::tM::tN::tO::tP::tQ::tR::tS::tT::tU::tV::tW::tX::tY::tZ::q0::q1::q2::q3::q4::q5::q6::q7::q8::q9::qa::qb::qc::qd::qe::qf::qg::qh::qi::qj::qk::ql::qm::qn::qo::qp::qq::qr::qs::qt::qu::qv::qw::qx::qy::qz::qA::qB::qC::qD::qE::qF::qG::qH::qI::qJ::qK::qL::qM::qN::qO::qP::qQ::qR::qS::qT::qU::qV::qW::qX::qY::qZ::z0::z1::z2::z3::z4::z5::z6::z7::z8::z9::za::zb::zc::zd::ze::zf::zg::zh::zi::zj::zk::zl::zm::zn::zo::zp::zq::zr::zs::zt::zu::zv::zw::zx::zy::zz::zA::zB::zC::zD::zE::zF::zG::zH::zI::zJ::zK::zL::zM::zN::zO::zP::zQ::uu::zS::zT::zU::zV::zW::zX::zY::zZ::y0::y1::y2::y3::y4::y5::y6::[]),h⟩) :=
  (go_gdF0 rfl rfl rfl (by kernel_rfl)
  (go_skip0 rfl rfl rfl (by kernel_rfl)
  (go_none0 (x := #[]) rfl rfl rfl (by kernel_rfl)
  (go_none0 (x := #[]) rfl rfl rfl (by kernel_rfl)
  (go_none0 (x := #[]) rfl rfl rfl (by kernel_rfl)
  (go_none0 (x := #[]) rfl rfl rfl (by kernel_rfl)
  (go_none0 (x := #[]) rfl rfl rfl (by kernel_rfl)
  (go_none0 (x := #[]) rfl rfl rfl (by kernel_rfl)
  (go_none0 (x := #[]) rfl rfl rfl (by kernel_rfl)
  (go_none0 (x := #[]) rfl rfl rfl (by kernel_rfl)
  (go_none0 (x := #[]) rfl rfl rfl (by kernel_rfl)
  (go_none0 (x := #[]) rfl rfl rfl (by kernel_rfl)
  (go_none0 (x := #[]) rfl rfl rfl (by kernel_rfl)
  (go_skip0 rfl rfl rfl (by kernel_rfl)
  (by kernel_rfl))))))))))))))
  (st_id (v := tj) (H := h) (by kernel_rfl)
  (go_run0 rfl rfl rfl (by kernel_rfl) (st_id (v := tj) (H := h) (by kernel_rfl)
  (by kernel_rfl))))
  (by kernel_rfl))
theorem xm3_24 (s : Sys) (k wl : Nat) (m0 : Nat) (ac : List Nat × List Nat) (h : Hp) : opsP (xX s 3 wl k false) xg3_8 12 m0 ac (runK (xX s 3 wl k false) (bodyK s.P Try.f3) xk3_9) ⟨(t0::t1::t2::t3::t4::t5::t6::t7::t8::t9::ta::tb::tc::td::te::tf::tg::th::ti::tj::tk::tl::tm::tn::tp::tq::tr::ts::tt::tu::tv::tw::tx::ty::tz::tA::tB::tC::tD::tE::tF::tG::tH::tI::tJ::tK::tL::tM::tN::tO::tP::tQ::tR::tS::tT::tU::tV::tW::tX::tY::tZ::q0::q1::q2::q3::q4::q5::q6::q7::q8::q9::qa::qb::qc::qd::qe::qf::qg::qh::qi::qj::qk::ql::qm::qn::qo::qp::qq::qr::qs::qt::qu::qv::qw::qx::qy::qz::qA::qB::qC::qD::qE::qF::qG::qH::qI::qJ::qK::qL::qM::qN::qO::qP::qQ::qR::qS::qT::qU::qV::qW::qX::qY::qZ::z0::z1::z2::z3::z4::z5::z6::z7::z8::z9::za::zb::zc::zd::ze::zf::zg::zh::zi::zj::zk::zl::zm::zn::zo::zp::zq::zr::zs::zt::zu::zv::zw::zx::zy::zz::zA::zB::zC::zD::zE::zF::zG::zH::zI::zJ::zK::zL::zM::zN::zO::zP::zQ::zR::zS::zT::zU::zV::zW::zX::zY::zZ::y0::y1::y2::y3::y4::y5::y6::[]),h⟩ =
  gd zI (
  bm (vBin s.P .eql 3 zK (V.lit (Value.int .i64 0))) h fun v222 h223 =>
  opsP (xX s 3 wl k false) xg3_8 14 m0 ac (runK (xX s 3 wl k false) (bodyK s.P Try.f3) xk3_9) ⟨(t0::t1::t2::t3::t4::t5::t6::t7::t8::t9::ta::tb::tc::td::te::tf::tg::th::ti::tj::tk::tl::tm::tn::tp::tq::tr::ts::tt::tu::tv::tw::tx::ty::tz::tA::tB::tC::tD::tE::tF::tG::tH::tI::tJ::tK::tL::tM::tN::tO::tP::tQ::tR::tS::tT::tU::tV::tW::tX::tY::tZ::q0::q1::q2::q3::q4::q5::q6::q7::q8::q9::qa::qb::qc::qd::qe::qf::qg::qh::qi::qj::qk::ql::qm::qn::qo::qp::qq::qr::qs::qt::qu::qv::qw::qx::qy::qz::qA::qB::qC::qD::qE::qF::qG::qH::qI::qJ::qK::qL::qM::qN::qO::qP::qQ::qR::qS::qT::qU::qV::qW::qX::qY::qZ::z0::z1::z2::z3::z4::z5::z6::z7::z8::z9::za::zb::zc::zd::ze::zf::zg::zh::zi::zj::zk::zl::zm::zn::zo::zp::zq::zr::zs::zt::zu::zv::zw::zx::zy::zz::zA::zB::zC::zD::zE::zF::zG::zH::(V.lit (Value.bool true))::zJ::zK::v222::v222::zN::zO::zP::zQ::zR::zS::zT::zU::zV::zW::zX::zY::zZ::y0::y1::y2::y3::y4::y5::y6::[]),h223⟩) (
  opsP (xX s 3 wl k false) xg3_8 16 m0 ac (runK (xX s 3 wl k false) (bodyK s.P Try.f3) xk3_9) ⟨(t0::t1::t2::t3::t4::t5::t6::t7::t8::t9::ta::tb::tc::td::te::tf::tg::th::ti::tj::tk::tl::tm::tn::tp::tq::tr::ts::tt::tu::tv::tw::tx::ty::tz::tA::tB::tC::tD::tE::tF::tG::tH::tI::tJ::tK::tL::tM::tN::tO::tP::tQ::tR::tS::tT::tU::tV::tW::tX::tY::tZ::q0::q1::q2::q3::q4::q5::q6::q7::q8::q9::qa::qb::qc::qd::qe::qf::qg::qh::qi::qj::qk::ql::qm::qn::qo::qp::qq::qr::qs::qt::qu::qv::qw::qx::qy::qz::qA::qB::qC::qD::qE::qF::qG::qH::qI::qJ::qK::qL::qM::qN::qO::qP::qQ::qR::qS::qT::qU::qV::qW::qX::qY::qZ::z0::z1::z2::z3::z4::z5::z6::z7::z8::z9::za::zb::zc::zd::ze::zf::zg::zh::zi::zj::zk::zl::zm::zn::zo::zp::zq::zr::zs::zt::zu::zv::zw::zx::zy::zz::zA::zB::zC::zD::zE::zF::zG::zH::(V.lit (Value.bool false))::zJ::zK::uu::uu::uu::uu::zP::zQ::zR::zS::zT::zU::zV::zW::zX::zY::zZ::y0::y1::y2::y3::y4::y5::y6::[]),h⟩) (
  opsP (xX s 3 wl k false) xg3_8 13 m0 ac (runK (xX s 3 wl k false) (bodyK s.P Try.f3) xk3_9) ⟨(t0::t1::t2::t3::t4::t5::t6::t7::t8::t9::ta::tb::tc::td::te::tf::tg::th::ti::tj::tk::tl::tm::tn::tp::tq::tr::ts::tt::tu::tv::tw::tx::ty::tz::tA::tB::tC::tD::tE::tF::tG::tH::tI::tJ::tK::tL::tM::tN::tO::tP::tQ::tR::tS::tT::tU::tV::tW::tX::tY::tZ::q0::q1::q2::q3::q4::q5::q6::q7::q8::q9::qa::qb::qc::qd::qe::qf::qg::qh::qi::qj::qk::ql::qm::qn::qo::qp::qq::qr::qs::qt::qu::qv::qw::qx::qy::qz::qA::qB::qC::qD::qE::qF::qG::qH::qI::qJ::qK::qL::qM::qN::qO::qP::qQ::qR::qS::qT::qU::qV::qW::qX::qY::qZ::z0::z1::z2::z3::z4::z5::z6::z7::z8::z9::za::zb::zc::zd::ze::zf::zg::zh::zi::zj::zk::zl::zm::zn::zo::zp::zq::zr::zs::zt::zu::zv::zw::zx::zy::zz::zA::zB::zC::zD::zE::zF::zG::zH::zI::zJ::zK::uu::zM::zN::zO::zP::zQ::zR::zS::zT::zU::zV::zW::zX::zY::zZ::y0::y1::y2::y3::y4::y5::y6::[]),h⟩) :=
  (go_gdT0 rfl rfl rfl (by kernel_rfl)
  (st_bm (by kernel_rfl) fun v222 h223 =>
  (go_run0 rfl rfl rfl (by kernel_rfl) (st_id (v := v222) (H := h223) (by kernel_rfl)
  (by kernel_rfl))))
  (go_skip0 rfl rfl rfl (by kernel_rfl)
  (go_none0 (x := #[]) rfl rfl rfl (by kernel_rfl)
  (go_skip0 rfl rfl rfl (by kernel_rfl)
  (by kernel_rfl))))
  (by kernel_rfl))
theorem xm3_25 (s : Sys) (k wl : Nat) (m0 : Nat) (ac : List Nat × List Nat) (h : Hp) : opsP (xX s 3 wl k false) xg3_8 32 m0 ac (runK (xX s 3 wl k false) (bodyK s.P Try.f3) xk3_9) ⟨(t0::t1::t2::t3::t4::t5::t6::t7::t8::t9::ta::tb::tc::td::te::tf::tg::th::ti::tj::tk::tl::tm::tn::tp::tq::tr::ts::tt::tu::tv::tw::tx::ty::tz::tA::tB::tC::tD::tE::tF::tG::tH::tI::tJ::tK::tL::tM::tN::tO::tP::tQ::tR::tS::tT::tU::tV::tW::tX::tY::tZ::q0::q1::q2::q3::q4::q5::q6::q7::q8::q9::qa::qb::qc::qd::qe::qf::qg::qh::qi::qj::qk::ql::qm::qn::qo::qp::qq::qr::qs::qt::qu::qv::qw::qx::qy::qz::qA::qB::qC::qD::qE::qF::qG::qH::qI::qJ::qK::qL::qM::qN::qO::qP::qQ::qR::qS::qT::qU::qV::qW::qX::qY::qZ::z0::z1::z2::z3::z4::z5::z6::z7::z8::z9::za::zb::zc::zd::ze::zf::zg::zh::zi::zj::zk::zl::zm::zn::zo::zp::zq::zr::zs::zt::zu::zv::zw::zx::zy::zz::zA::zB::zC::zD::zE::zF::zG::zH::zI::zJ::zK::zL::zM::zN::zO::zP::zQ::zR::zS::zT::zU::zV::zW::zX::zY::zZ::y0::y1::y2::y3::y4::y5::y6::[]),h⟩ =
  gd zB (
  bm (vPick zQ (V.lit (Value.bool true)) y4) h fun v224 h225 =>
  opsP (xX s 3 wl k false) xg3_8 33 m0 ac (runK (xX s 3 wl k false) (bodyK s.P Try.f3) xk3_9) ⟨(t0::t1::t2::t3::t4::t5::t6::t7::t8::t9::ta::tb::tc::td::te::tf::tg::th::ti::tj::tk::tl::tm::tn::tp::tq::tr::ts::tt::tu::tv::tw::tx::ty::tz::tA::tB::tC::tD::tE::tF::tG::tH::tI::tJ::tK::tL::tM::tN::tO::tP::tQ::tR::tS::tT::tU::tV::tW::tX::tY::tZ::q0::q1::q2::q3::q4::q5::q6::q7::q8::q9::qa::qb::qc::qd::qe::qf::qg::qh::qi::qj::qk::ql::qm::qn::qo::qp::qq::qr::qs::qt::qu::qv::qw::qx::qy::qz::qA::qB::qC::qD::qE::qF::qG::qH::qI::qJ::qK::qL::qM::qN::qO::qP::qQ::qR::qS::qT::qU::qV::qW::qX::qY::qZ::z0::z1::z2::z3::z4::z5::z6::z7::z8::z9::za::zb::zc::zd::ze::zf::zg::zh::zi::zj::zk::zl::zm::zn::zo::zp::zq::zr::zs::zt::zu::zv::zw::zx::zy::zz::zA::(V.lit (Value.bool true))::zC::zD::zE::zF::zG::zH::zI::zJ::zK::zL::zM::zN::zO::zP::zQ::zR::zS::zT::zU::zV::zW::zX::zY::zZ::y0::y1::y2::y3::y4::v224::y6::[]),h225⟩) (
  opsP (xX s 3 wl k false) xg3_8 33 m0 ac (runK (xX s 3 wl k false) (bodyK s.P Try.f3) xk3_9) ⟨(t0::t1::t2::t3::t4::t5::t6::t7::t8::t9::ta::tb::tc::td::te::tf::tg::th::ti::tj::tk::tl::tm::tn::tp::tq::tr::ts::tt::tu::tv::tw::tx::ty::tz::tA::tB::tC::tD::tE::tF::tG::tH::tI::tJ::tK::tL::tM::tN::tO::tP::tQ::tR::tS::tT::tU::tV::tW::tX::tY::tZ::q0::q1::q2::q3::q4::q5::q6::q7::q8::q9::qa::qb::qc::qd::qe::qf::qg::qh::qi::qj::qk::ql::qm::qn::qo::qp::qq::qr::qs::qt::qu::qv::qw::qx::qy::qz::qA::qB::qC::qD::qE::qF::qG::qH::qI::qJ::qK::qL::qM::qN::qO::qP::qQ::qR::qS::qT::qU::qV::qW::qX::qY::qZ::z0::z1::z2::z3::z4::z5::z6::z7::z8::z9::za::zb::zc::zd::ze::zf::zg::zh::zi::zj::zk::zl::zm::zn::zo::zp::zq::zr::zs::zt::zu::zv::zw::zx::zy::zz::zA::(V.lit (Value.bool false))::zC::zD::zE::zF::zG::zH::zI::zJ::zK::zL::zM::zN::zO::zP::zQ::zR::zS::zT::zU::zV::zW::zX::zY::zZ::y0::y1::y2::y3::y4::uu::y6::[]),h⟩) (
  opsP (xX s 3 wl k false) xg3_8 33 m0 ac (runK (xX s 3 wl k false) (bodyK s.P Try.f3) xk3_9) ⟨(t0::t1::t2::t3::t4::t5::t6::t7::t8::t9::ta::tb::tc::td::te::tf::tg::th::ti::tj::tk::tl::tm::tn::tp::tq::tr::ts::tt::tu::tv::tw::tx::ty::tz::tA::tB::tC::tD::tE::tF::tG::tH::tI::tJ::tK::tL::tM::tN::tO::tP::tQ::tR::tS::tT::tU::tV::tW::tX::tY::tZ::q0::q1::q2::q3::q4::q5::q6::q7::q8::q9::qa::qb::qc::qd::qe::qf::qg::qh::qi::qj::qk::ql::qm::qn::qo::qp::qq::qr::qs::qt::qu::qv::qw::qx::qy::qz::qA::qB::qC::qD::qE::qF::qG::qH::qI::qJ::qK::qL::qM::qN::qO::qP::qQ::qR::qS::qT::qU::qV::qW::qX::qY::qZ::z0::z1::z2::z3::z4::z5::z6::z7::z8::z9::za::zb::zc::zd::ze::zf::zg::zh::zi::zj::zk::zl::zm::zn::zo::zp::zq::zr::zs::zt::zu::zv::zw::zx::zy::zz::zA::zB::zC::zD::zE::zF::zG::zH::zI::zJ::zK::zL::zM::zN::zO::zP::zQ::zR::zS::zT::zU::zV::zW::zX::zY::zZ::y0::y1::y2::y3::y4::uu::y6::[]),h⟩) :=
  (go_gdT0 rfl rfl rfl (by kernel_rfl)
  (st_bm (by kernel_rfl) fun v224 h225 =>
  (by kernel_rfl))
  (by kernel_rfl)
  (by kernel_rfl))
theorem xm3_26 (s : Sys) (k wl : Nat) (m0 : Nat) (ac : List Nat × List Nat) (h : Hp) : opsP (xX s 3 wl k false) xg3_8 20 m0 ac (runK (xX s 3 wl k false) (bodyK s.P Try.f3) xk3_9) ⟨(t0::t1::t2::t3::t4::t5::t6::t7::t8::t9::ta::tb::tc::td::te::tf::tg::th::ti::tj::tk::tl::tm::tn::tp::tq::tr::ts::tt::tu::tv::tw::tx::ty::tz::tA::tB::tC::tD::tE::tF::tG::tH::tI::tJ::tK::tL::tM::tN::tO::tP::tQ::tR::tS::tT::tU::tV::tW::tX::tY::tZ::q0::q1::q2::q3::q4::q5::q6::q7::q8::q9::qa::qb::qc::qd::qe::qf::qg::qh::qi::qj::qk::ql::qm::qn::qo::qp::qq::qr::qs::qt::qu::qv::qw::qx::qy::qz::qA::qB::qC::qD::qE::qF::qG::qH::qI::qJ::qK::qL::qM::qN::qO::qP::qQ::qR::qS::qT::qU::qV::qW::qX::qY::qZ::z0::z1::z2::z3::z4::z5::z6::z7::z8::z9::za::zb::zc::zd::ze::zf::zg::zh::zi::zj::zk::zl::zm::zn::zo::zp::zq::zr::zs::zt::zu::zv::zw::zx::zy::zz::zA::zB::zC::zD::zE::zF::zG::zH::zI::zJ::zK::zL::zM::zN::zO::zP::zQ::zR::zS::zT::zU::zV::zW::zX::zY::zZ::y0::y1::y2::y3::y4::y5::y6::[]),h⟩ =
  gd zS (
  bp (opLen s.P 35 tf h) fun v226 h227 =>
  bm (vBin s.P .eql 3 v226 (V.lit (Value.int .i64 0))) h227 fun v228 h229 =>
  opsP (xX s 3 wl k false) xg3_8 24 m0 ac (runK (xX s 3 wl k false) (bodyK s.P Try.f3) xk3_9) ⟨(t0::t1::t2::t3::t4::t5::t6::t7::t8::t9::ta::tb::tc::td::te::tf::tg::th::ti::tj::tk::tl::tm::tn::tp::tq::tr::ts::tt::tu::tv::tw::tx::ty::tz::tA::tB::tC::tD::tE::tF::tG::tH::tI::tJ::tK::tL::tM::tN::tO::tP::tQ::tR::tS::tT::tU::tV::tW::tX::tY::tZ::q0::q1::q2::q3::q4::q5::q6::q7::q8::q9::qa::qb::qc::qd::qe::qf::qg::qh::qi::qj::qk::ql::qm::qn::qo::qp::qq::qr::qs::qt::qu::qv::qw::qx::qy::qz::qA::qB::qC::qD::qE::qF::qG::qH::qI::qJ::qK::qL::qM::qN::qO::qP::qQ::qR::qS::qT::qU::qV::qW::qX::qY::qZ::z0::z1::z2::z3::z4::z5::z6::z7::z8::z9::za::zb::zc::zd::ze::zf::zg::zh::zi::zj::zk::zl::zm::zn::zo::zp::zq::zr::zs::zt::zu::zv::zw::zx::zy::zz::zA::zB::zC::zD::zE::zF::zG::zH::zI::zJ::zK::zL::zM::zN::zO::zP::zQ::zR::(V.lit (Value.bool true))::tf::v226::v228::v228::zX::zY::zZ::y0::y1::y2::y3::y4::y5::y6::[]),h229⟩) (
  opsP (xX s 3 wl k false) xg3_8 31 m0 ac (runK (xX s 3 wl k false) (bodyK s.P Try.f3) xk3_9) ⟨(t0::t1::t2::t3::t4::t5::t6::t7::t8::t9::ta::tb::tc::td::te::tf::tg::th::ti::tj::tk::tl::tm::tn::tp::tq::tr::ts::tt::tu::tv::tw::tx::ty::tz::tA::tB::tC::tD::tE::tF::tG::tH::tI::tJ::tK::tL::tM::tN::tO::tP::tQ::tR::tS::tT::tU::tV::tW::tX::tY::tZ::q0::q1::q2::q3::q4::q5::q6::q7::q8::q9::qa::qb::qc::qd::qe::qf::qg::qh::qi::qj::qk::ql::qm::qn::qo::qp::qq::qr::qs::qt::qu::qv::qw::qx::qy::qz::qA::qB::qC::qD::qE::qF::qG::qH::qI::qJ::qK::qL::qM::qN::qO::qP::qQ::qR::qS::qT::qU::qV::qW::qX::qY::qZ::z0::z1::z2::z3::z4::z5::z6::z7::z8::z9::za::zb::zc::zd::ze::zf::zg::zh::zi::zj::zk::zl::zm::zn::zo::zp::zq::zr::zs::zt::zu::zv::zw::zx::zy::zz::zA::zB::zC::zD::zE::zF::zG::zH::zI::zJ::zK::zL::zM::zN::zO::zP::zQ::zR::(V.lit (Value.bool false))::uu::uu::uu::uu::uu::uu::uu::uu::uu::uu::uu::y4::y5::y6::[]),h⟩) (
  opsP (xX s 3 wl k false) xg3_8 21 m0 ac (runK (xX s 3 wl k false) (bodyK s.P Try.f3) xk3_9) ⟨(t0::t1::t2::t3::t4::t5::t6::t7::t8::t9::ta::tb::tc::td::te::tf::tg::th::ti::tj::tk::tl::tm::tn::tp::tq::tr::ts::tt::tu::tv::tw::tx::ty::tz::tA::tB::tC::tD::tE::tF::tG::tH::tI::tJ::tK::tL::tM::tN::tO::tP::tQ::tR::tS::tT::tU::tV::tW::tX::tY::tZ::q0::q1::q2::q3::q4::q5::q6::q7::q8::q9::qa::qb::qc::qd::qe::qf::qg::qh::qi::qj::qk::ql::qm::qn::qo::qp::qq::qr::qs::qt::qu::qv::qw::qx::qy::qz::qA::qB::qC::qD::qE::qF::qG::qH::qI::qJ::qK::qL::qM::qN::qO::qP::qQ::qR::qS::qT::qU::qV::qW::qX::qY::qZ::z0::z1::z2::z3::z4::z5::z6::z7::z8::z9::za::zb::zc::zd::ze::zf::zg::zh::zi::zj::zk::zl::zm::zn::zo::zp::zq::zr::zs::zt::zu::zv::zw::zx::zy::zz::zA::zB::zC::zD::zE::zF::zG::zH::zI::zJ::zK::zL::zM::zN::zO::zP::zQ::zR::zS::uu::zU::zV::zW::zX::zY::zZ::y0::y1::y2::y3::y4::y5::y6::[]),h⟩) :=
  (go_gdT0 rfl rfl rfl (by kernel_rfl)
  (st_id (v := tf) (H := h) (by kernel_rfl)
  (go_run0 rfl rfl rfl (by kernel_rfl) (st_bp (by kernel_rfl) fun v226 h227 =>
  (go_run0 rfl rfl rfl (by kernel_rfl) (st_bm (by kernel_rfl) fun v228 h229 =>
  (go_run0 rfl rfl rfl (by kernel_rfl) (st_id (v := v228) (H := h229) (by kernel_rfl)
  (by kernel_rfl))))))))
  (go_skip0 rfl rfl rfl (by kernel_rfl)
  (go_skip0 rfl rfl rfl (by kernel_rfl)
  (go_skip0 rfl rfl rfl (by kernel_rfl)
  (go_none0 (x := #[]) rfl rfl rfl (by kernel_rfl)
  (go_none0 (x := #[]) rfl rfl rfl (by kernel_rfl)
  (go_none0 (x := #[]) rfl rfl rfl (by kernel_rfl)
  (go_none0 (x := #[]) rfl rfl rfl (by kernel_rfl)
  (go_none0 (x := #[]) rfl rfl rfl (by kernel_rfl)
  (go_none0 (x := #[]) rfl rfl rfl (by kernel_rfl)
  (go_skip0 rfl rfl rfl (by kernel_rfl)
  (by kernel_rfl)))))))))))
  (by kernel_rfl))
theorem xm3_27 (s : Sys) (k wl : Nat) (m0 : Nat) (ac : List Nat × List Nat) (h : Hp) : opsP (xX s 3 wl k false) xg3_8 19 m0 ac (runK (xX s 3 wl k false) (bodyK s.P Try.f3) xk3_9) ⟨(t0::t1::t2::t3::t4::t5::t6::t7::t8::t9::ta::tb::tc::td::te::tf::tg::th::ti::tj::tk::tl::tm::tn::tp::tq::tr::ts::tt::tu::tv::tw::tx::ty::tz::tA::tB::tC::tD::tE::tF::tG::tH::tI::tJ::tK::tL::tM::tN::tO::tP::tQ::tR::tS::tT::tU::tV::tW::tX::tY::tZ::q0::q1::q2::q3::q4::q5::q6::q7::q8::q9::qa::qb::qc::qd::qe::qf::qg::qh::qi::qj::qk::ql::qm::qn::qo::qp::qq::qr::qs::qt::qu::qv::qw::qx::qy::qz::qA::qB::qC::qD::qE::qF::qG::qH::qI::qJ::qK::qL::qM::qN::qO::qP::qQ::qR::qS::qT::qU::qV::qW::qX::qY::qZ::z0::z1::z2::z3::z4::z5::z6::z7::z8::z9::za::zb::zc::zd::ze::zf::zg::zh::zi::zj::zk::zl::zm::zn::zo::zp::zq::zr::zs::zt::zu::zv::zw::zx::zy::zz::zA::zB::zC::zD::zE::zF::zG::zH::zI::zJ::zK::zL::zM::zN::zO::zP::zQ::zR::zS::zT::zU::zV::zW::zX::zY::zZ::y0::y1::y2::y3::y4::y5::y6::[]),h⟩ =
  gd zQ (
  opsP (xX s 3 wl k false) xg3_8 32 m0 ac (runK (xX s 3 wl k false) (bodyK s.P Try.f3) xk3_9) ⟨(t0::t1::t2::t3::t4::t5::t6::t7::t8::t9::ta::tb::tc::td::te::tf::tg::th::ti::tj::tk::tl::tm::tn::tp::tq::tr::ts::tt::tu::tv::tw::tx::ty::tz::tA::tB::tC::tD::tE::tF::tG::tH::tI::tJ::tK::tL::tM::tN::tO::tP::tQ::tR::tS::tT::tU::tV::tW::tX::tY::tZ::q0::q1::q2::q3::q4::q5::q6::q7::q8::q9::qa::qb::qc::qd::qe::qf::qg::qh::qi::qj::qk::ql::qm::qn::qo::qp::qq::qr::qs::qt::qu::qv::qw::qx::qy::qz::qA::qB::qC::qD::qE::qF::qG::qH::qI::qJ::qK::qL::qM::qN::qO::qP::qQ::qR::qS::qT::qU::qV::qW::qX::qY::qZ::z0::z1::z2::z3::z4::z5::z6::z7::z8::z9::za::zb::zc::zd::ze::zf::zg::zh::zi::zj::zk::zl::zm::zn::zo::zp::zq::zr::zs::zt::zu::zv::zw::zx::zy::zz::zA::zB::zC::zD::zE::zF::zG::zH::zI::zJ::zK::zL::zM::zN::zO::zP::(V.lit (Value.bool true))::zR::uu::uu::uu::uu::uu::uu::uu::uu::uu::uu::uu::uu::uu::y5::y6::[]),h⟩) (
  opsP (xX s 3 wl k false) xg3_8 20 m0 ac (runK (xX s 3 wl k false) (bodyK s.P Try.f3) xk3_9) ⟨(t0::t1::t2::t3::t4::t5::t6::t7::t8::t9::ta::tb::tc::td::te::tf::tg::th::ti::tj::tk::tl::tm::tn::tp::tq::tr::ts::tt::tu::tv::tw::tx::ty::tz::tA::tB::tC::tD::tE::tF::tG::tH::tI::tJ::tK::tL::tM::tN::tO::tP::tQ::tR::tS::tT::tU::tV::tW::tX::tY::tZ::q0::q1::q2::q3::q4::q5::q6::q7::q8::q9::qa::qb::qc::qd::qe::qf::qg::qh::qi::qj::qk::ql::qm::qn::qo::qp::qq::qr::qs::qt::qu::qv::qw::qx::qy::qz::qA::qB::qC::qD::qE::qF::qG::qH::qI::qJ::qK::qL::qM::qN::qO::qP::qQ::qR::qS::qT::qU::qV::qW::qX::qY::qZ::z0::z1::z2::z3::z4::z5::z6::z7::z8::z9::za::zb::zc::zd::ze::zf::zg::zh::zi::zj::zk::zl::zm::zn::zo::zp::zq::zr::zs::zt::zu::zv::zw::zx::zy::zz::zA::zB::zC::zD::zE::zF::zG::zH::zI::zJ::zK::zL::zM::zN::zO::zP::(V.lit (Value.bool false))::zR::zR::zT::zU::zV::zW::zX::zY::zZ::y0::y1::y2::y3::y4::y5::y6::[]),h⟩) (
  opsP (xX s 3 wl k false) xg3_8 20 m0 ac (runK (xX s 3 wl k false) (bodyK s.P Try.f3) xk3_9) ⟨(t0::t1::t2::t3::t4::t5::t6::t7::t8::t9::ta::tb::tc::td::te::tf::tg::th::ti::tj::tk::tl::tm::tn::tp::tq::tr::ts::tt::tu::tv::tw::tx::ty::tz::tA::tB::tC::tD::tE::tF::tG::tH::tI::tJ::tK::tL::tM::tN::tO::tP::tQ::tR::tS::tT::tU::tV::tW::tX::tY::tZ::q0::q1::q2::q3::q4::q5::q6::q7::q8::q9::qa::qb::qc::qd::qe::qf::qg::qh::qi::qj::qk::ql::qm::qn::qo::qp::qq::qr::qs::qt::qu::qv::qw::qx::qy::qz::qA::qB::qC::qD::qE::qF::qG::qH::qI::qJ::qK::qL::qM::qN::qO::qP::qQ::qR::qS::qT::qU::qV::qW::qX::qY::qZ::z0::z1::z2::z3::z4::z5::z6::z7::z8::z9::za::zb::zc::zd::ze::zf::zg::zh::zi::zj::zk::zl::zm::zn::zo::zp::zq::zr::zs::zt::zu::zv::zw::zx::zy::zz::zA::zB::zC::zD::zE::zF::zG::zH::zI::zJ::zK::zL::zM::zN::zO::zP::zQ::zR::uu::zT::zU::zV::zW::zX::zY::zZ::y0::y1::y2::y3::y4::y5::y6::[]),h⟩) :=
  (go_gdF0 rfl rfl rfl (by kernel_rfl)
  (go_none0 (x := #[]) rfl rfl rfl (by kernel_rfl)
  (go_none0 (x := #[]) rfl rfl rfl (by kernel_rfl)
  (go_none0 (x := #[]) rfl rfl rfl (by kernel_rfl)
  (go_none0 (x := #[]) rfl rfl rfl (by kernel_rfl)
  (go_none0 (x := #[]) rfl rfl rfl (by kernel_rfl)
  (go_none0 (x := #[]) rfl rfl rfl (by kernel_rfl)
  (go_none0 (x := #[]) rfl rfl rfl (by kernel_rfl)
  (go_none0 (x := #[]) rfl rfl rfl (by kernel_rfl)
  (go_none0 (x := #[]) rfl rfl rfl (by kernel_rfl)
  (go_none0 (x := #[]) rfl rfl rfl (by kernel_rfl)
  (go_none0 (x := #[]) rfl rfl rfl (by kernel_rfl)
  (go_skip0 rfl rfl rfl (by kernel_rfl)
  (by kernel_rfl)))))))))))))
  (st_id (v := zR) (H := h) (by kernel_rfl)
  (by kernel_rfl))
  (by kernel_rfl))
theorem xm3_28 (s : Sys) (k wl : Nat) (m0 : Nat) (ac : List Nat × List Nat) (h : Hp) : opsP (xX s 3 wl k false) xg3_8 13 m0 ac (runK (xX s 3 wl k false) (bodyK s.P Try.f3) xk3_9) ⟨(t0::t1::t2::t3::t4::t5::t6::t7::t8::t9::ta::tb::tc::td::te::tf::tg::th::ti::tj::tk::tl::tm::tn::tp::tq::tr::ts::tt::tu::tv::tw::tx::ty::tz::tA::tB::tC::tD::tE::tF::tG::tH::tI::tJ::tK::tL::tM::tN::tO::tP::tQ::tR::tS::tT::tU::tV::tW::tX::tY::tZ::q0::q1::q2::q3::q4::q5::q6::q7::q8::q9::qa::qb::qc::qd::qe::qf::qg::qh::qi::qj::qk::ql::qm::qn::qo::qp::qq::qr::qs::qt::qu::qv::qw::qx::qy::qz::qA::qB::qC::qD::qE::qF::qG::qH::qI::qJ::qK::qL::qM::qN::qO::qP::qQ::qR::qS::qT::qU::qV::qW::qX::qY::qZ::z0::z1::z2::z3::z4::z5::z6::z7::z8::z9::za::zb::zc::zd::ze::zf::zg::zh::zi::zj::zk::zl::zm::zn::zo::zp::zq::zr::zs::zt::zu::zv::zw::zx::zy::zz::zA::zB::zC::zD::zE::zF::zG::zH::zI::zJ::zK::zL::zM::zN::zO::zP::zQ::zR::zS::zT::zU::zV::zW::zX::zY::zZ::y0::y1::y2::y3::y4::y5::y6::[]),h⟩ =
  gd zI (
  opsP (xX s 3 wl k false) xg3_8 14 m0 ac (runK (xX s 3 wl k false) (bodyK s.P Try.f3) xk3_9) ⟨(t0::t1::t2::t3::t4::t5::t6::t7::t8::t9::ta::tb::tc::td::te::tf::tg::th::ti::tj::tk::tl::tm::tn::tp::tq::tr::ts::tt::tu::tv::tw::tx::ty::tz::tA::tB::tC::tD::tE::tF::tG::tH::tI::tJ::tK::tL::tM::tN::tO::tP::tQ::tR::tS::tT::tU::tV::tW::tX::tY::tZ::q0::q1::q2::q3::q4::q5::q6::q7::q8::q9::qa::qb::qc::qd::qe::qf::qg::qh::qi::qj::qk::ql::qm::qn::qo::qp::qq::qr::qs::qt::qu::qv::qw::qx::qy::qz::qA::qB::qC::qD::qE::qF::qG::qH::qI::qJ::qK::qL::qM::qN::qO::qP::qQ::qR::qS::qT::qU::qV::qW::qX::qY::qZ::z0::z1::z2::z3::z4::z5::z6::z7::z8::z9::za::zb::zc::zd::ze::zf::zg::zh::zi::zj::zk::zl::zm::zn::zo::zp::zq::zr::zs::zt::zu::zv::zw::zx::zy::zz::zA::zB::zC::zD::zE::zF::zG::zH::(V.lit (Value.bool true))::zJ::zK::zL::zL::zN::zO::zP::zQ::zR::zS::zT::zU::zV::zW::zX::zY::zZ::y0::y1::y2::y3::y4::y5::y6::[]),h⟩) (
  opsP (xX s 3 wl k false) xg3_8 16 m0 ac (runK (xX s 3 wl k false) (bodyK s.P Try.f3) xk3_9) ⟨(t0::t1::t2::t3::t4::t5::t6::t7::t8::t9::ta::tb::tc::td::te::tf::tg::th::ti::tj::tk::tl::tm::tn::tp::tq::tr::ts::tt::tu::tv::tw::tx::ty::tz::tA::tB::tC::tD::tE::tF::tG::tH::tI::tJ::tK::tL::tM::tN::tO::tP::tQ::tR::tS::tT::tU::tV::tW::tX::tY::tZ::q0::q1::q2::q3::q4::q5::q6::q7::q8::q9::qa::qb::qc::qd::qe::qf::qg::qh::qi::qj::qk::ql::qm::qn::qo::qp::qq::qr::qs::qt::qu::qv::qw::qx::qy::qz::qA::qB::qC::qD::qE::qF::qG::qH::qI::qJ::qK::qL::qM::qN::qO::qP::qQ::qR::qS::qT::qU::qV::qW::qX::qY::qZ::z0::z1::z2::z3::z4::z5::z6::z7::z8::z9::za::zb::zc::zd::ze::zf::zg::zh::zi::zj::zk::zl::zm::zn::zo::zp::zq::zr::zs::zt::zu::zv::zw::zx::zy::zz::zA::zB::zC::zD::zE::zF::zG::zH::(V.lit (Value.bool false))::zJ::zK::zL::uu::uu::uu::zP::zQ::zR::zS::zT::zU::zV::zW::zX::zY::zZ::y0::y1::y2::y3::y4::y5::y6::[]),h⟩) (
  opsP (xX s 3 wl k false) xg3_8 14 m0 ac (runK (xX s 3 wl k false) (bodyK s.P Try.f3) xk3_9) ⟨(t0::t1::t2::t3::t4::t5::t6::t7::t8::t9::ta::tb::tc::td::te::tf::tg::th::ti::tj::tk::tl::tm::tn::tp::tq::tr::ts::tt::tu::tv::tw::tx::ty::tz::tA::tB::tC::tD::tE::tF::tG::tH::tI::tJ::tK::tL::tM::tN::tO::tP::tQ::tR::tS::tT::tU::tV::tW::tX::tY::tZ::q0::q1::q2::q3::q4::q5::q6::q7::q8::q9::qa::qb::qc::qd::qe::qf::qg::qh::qi::qj::qk::ql::qm::qn::qo::qp::qq::qr::qs::qt::qu::qv::qw::qx::qy::qz::qA::qB::qC::qD::qE::qF::qG::qH::qI::qJ::qK::qL::qM::qN::qO::qP::qQ::qR::qS::qT::qU::qV::qW::qX::qY::qZ::z0::z1::z2::z3::z4::z5::z6::z7::z8::z9::za::zb::zc::zd::ze::zf::zg::zh::zi::zj::zk::zl::zm::zn::zo::zp::zq::zr::zs::zt::zu::zv::zw::zx::zy::zz::zA::zB::zC::zD::zE::zF::zG::zH::zI::zJ::zK::zL::uu::zN::zO::zP::zQ::zR::zS::zT::zU::zV::zW::zX::zY::zZ::y0::y1::y2::y3::y4::y5::y6::[]),h⟩) :=
  (go_gdT0 rfl rfl rfl (by kernel_rfl)
  (st_id (v := zL) (H := h) (by kernel_rfl)
  (by kernel_rfl))
  (go_none0 (x := #[]) rfl rfl rfl (by kernel_rfl)
  (go_skip0 rfl rfl rfl (by kernel_rfl)
  (by kernel_rfl)))
  (by kernel_rfl))
theorem xm3_29 (s : Sys) (k wl : Nat) (m0 : Nat) (ac : List Nat × List Nat) (h : Hp) : opsP (xX s 3 wl k false) xg3_8 24 m0 ac (runK (xX s 3 wl k false) (bodyK s.P Try.f3) xk3_9) ⟨(t0::t1::t2::t3::t4::t5::t6::t7::t8::t9::ta::tb::tc::td::te::tf::tg::th::ti::tj::tk::tl::tm::tn::tp::tq::tr::ts::tt::tu::tv::tw::tx::ty::tz::tA::tB::tC::tD::tE::tF::tG::tH::tI::tJ::tK::tL::tM::tN::tO::tP::tQ::tR::tS::tT::tU::tV::tW::tX::tY::tZ::q0::q1::q2::q3::q4::q5::q6::q7::q8::q9::qa::qb::qc::qd::qe::qf::qg::qh::qi::qj::qk::ql::qm::qn::qo::qp::qq::qr::qs::qt::qu::qv::qw::qx::qy::qz::qA::qB::qC::qD::qE::qF::qG::qH::qI::qJ::qK::qL::qM::qN::qO::qP::qQ::qR::qS::qT::qU::qV::qW::qX::qY::qZ::z0::z1::z2::z3::z4::z5::z6::z7::z8::z9::za::zb::zc::zd::ze::zf::zg::zh::zi::zj::zk::zl::zm::zn::zo::zp::zq::zr::zs::zt::zu::zv::zw::zx::zy::zz::zA::zB::zC::zD::zE::zF::zG::zH::zI::zJ::zK::zL::zM::zN::zO::zP::zQ::zR::zS::zT::zU::zV::zW::zX::zY::zZ::y0::y1::y2::y3::y4::y5::y6::[]),h⟩ =
  gd zW (
  opsP (xX s 3 wl k false) xg3_8 30 m0 ac (runK (xX s 3 wl k false) (bodyK s.P Try.f3) xk3_9) ⟨(t0::t1::t2::t3::t4::t5::t6::t7::t8::t9::ta::tb::tc::td::te::tf::tg::th::ti::tj::tk::tl::tm::tn::tp::tq::tr::ts::tt::tu::tv::tw::tx::ty::tz::tA::tB::tC::tD::tE::tF::tG::tH::tI::tJ::tK::tL::tM::tN::tO::tP::tQ::tR::tS::tT::tU::tV::tW::tX::tY::tZ::q0::q1::q2::q3::q4::q5::q6::q7::q8::q9::qa::qb::qc::qd::qe::qf::qg::qh::qi::qj::qk::ql::qm::qn::qo::qp::qq::qr::qs::qt::qu::qv::qw::qx::qy::qz::qA::qB::qC::qD::qE::qF::qG::qH::qI::qJ::qK::qL::qM::qN::qO::qP::qQ::qR::qS::qT::qU::qV::qW::qX::qY::qZ::z0::z1::z2::z3::z4::z5::z6::z7::z8::z9::za::zb::zc::zd::ze::zf::zg::zh::zi::zj::zk::zl::zm::zn::zo::zp::zq::zr::zs::zt::zu::zv::zw::zx::zy::zz::zA::zB::zC::zD::zE::zF::zG::zH::zI::zJ::zK::zL::zM::zN::zO::zP::zQ::zR::zS::zT::zU::zV::(V.lit (Value.bool true))::uu::uu::uu::uu::uu::uu::y3::y4::y5::y6::[]),h⟩) (
  opsP (xX s 3 wl k false) xg3_8 26 m0 ac (runK (xX s 3 wl k false) (bodyK s.P Try.f3) xk3_9) ⟨(t0::t1::t2::t3::t4::t5::t6::t7::t8::t9::ta::tb::tc::td::te::tf::tg::th::ti::tj::tk::tl::tm::tn::tp::tq::tr::ts::tt::tu::tv::tw::tx::ty::tz::tA::tB::tC::tD::tE::tF::tG::tH::tI::tJ::tK::tL::tM::tN::tO::tP::tQ::tR::tS::tT::tU::tV::tW::tX::tY::tZ::q0::q1::q2::q3::q4::q5::q6::q7::q8::q9::qa::qb::qc::qd::qe::qf::qg::qh::qi::qj::qk::ql::qm::qn::qo::qp::qq::qr::qs::qt::qu::qv::qw::qx::qy::qz::qA::qB::qC::qD::qE::qF::qG::qH::qI::qJ::qK::qL::qM::qN::qO::qP::qQ::qR::qS::qT::qU::qV::qW::qX::qY::qZ::z0::z1::z2::z3::z4::z5::z6::z7::z8::z9::za::zb::zc::zd::ze::zf::zg::zh::zi::zj::zk::zl::zm::zn::zo::zp::zq::zr::zs::zt::zu::zv::zw::zx::zy::zz::zA::zB::zC::zD::zE::zF::zG::zH::zI::zJ::zK::zL::zM::zN::zO::zP::zQ::zR::zS::zT::zU::zV::(V.lit (Value.bool false))::tm::tm::zZ::y0::y1::y2::y3::y4::y5::y6::[]),h⟩) (
  opsP (xX s 3 wl k false) xg3_8 25 m0 ac (runK (xX s 3 wl k false) (bodyK s.P Try.f3) xk3_9) ⟨(t0::t1::t2::t3::t4::t5::t6::t7::t8::t9::ta::tb::tc::td::te::tf::tg::th::ti::tj::tk::tl::tm::tn::tp::tq::tr::ts::tt::tu::tv::tw::tx::ty::tz::tA::tB::tC::tD::tE::tF::tG::tH::tI::tJ::tK::tL::tM::tN::tO::tP::tQ::tR::tS::tT::tU::tV::tW::tX::tY::tZ::q0::q1::q2::q3::q4::q5::q6::q7::q8::q9::qa::qb::qc::qd::qe::qf::qg::qh::qi::qj::qk::ql::qm::qn::qo::qp::qq::qr::qs::qt::qu::qv::qw::qx::qy::qz::qA::qB::qC::qD::qE::qF::qG::qH::qI::qJ::qK::qL::qM::qN::qO::qP::qQ::qR::qS::qT::qU::qV::qW::qX::qY::qZ::z0::z1::z2::z3::z4::z5::z6::z7::z8::z9::za::zb::zc::zd::ze::zf::zg::zh::zi::zj::zk::zl::zm::zn::zo::zp::zq::zr::zs::zt::zu::zv::zw::zx::zy::zz::zA::zB::zC::zD::zE::zF::zG::zH::zI::zJ::zK::zL::zM::zN::zO::zP::zQ::zR::zS::zT::zU::zV::zW::uu::zY::zZ::y0::y1::y2::y3::y4::y5::y6::[]),h⟩) :=
  (go_gdF0 rfl rfl rfl (by kernel_rfl)
  (go_skip0 rfl rfl rfl (by kernel_rfl)
  (go_none0 (x := #[]) rfl rfl rfl (by kernel_rfl)
  (go_none0 (x := #[]) rfl rfl rfl (by kernel_rfl)
  (go_none0 (x := #[]) rfl rfl rfl (by kernel_rfl)
  (go_skip0 rfl rfl rfl (by kernel_rfl)
  (by kernel_rfl))))))
  (st_id (v := tm) (H := h) (by kernel_rfl)
  (go_run0 rfl rfl rfl (by kernel_rfl) (st_id (v := tm) (H := h) (by kernel_rfl)
  (by kernel_rfl))))
  (by kernel_rfl))
theorem xm3_30 (s : Sys) (k wl : Nat) (m0 : Nat) (ac : List Nat × List Nat) (h : Hp) : opsP (xX s 3 wl k false) xg3_8 31 m0 ac (runK (xX s 3 wl k false) (bodyK s.P Try.f3) xk3_9) ⟨(t0::t1::t2::t3::t4::t5::t6::t7::t8::t9::ta::tb::tc::td::te::tf::tg::th::ti::tj::tk::tl::tm::tn::tp::tq::tr::ts::tt::tu::tv::tw::tx::ty::tz::tA::tB::tC::tD::tE::tF::tG::tH::tI::tJ::tK::tL::tM::tN::tO::tP::tQ::tR::tS::tT::tU::tV::tW::tX::tY::tZ::q0::q1::q2::q3::q4::q5::q6::q7::q8::q9::qa::qb::qc::qd::qe::qf::qg::qh::qi::qj::qk::ql::qm::qn::qo::qp::qq::qr::qs::qt::qu::qv::qw::qx::qy::qz::qA::qB::qC::qD::qE::qF::qG::qH::qI::qJ::qK::qL::qM::qN::qO::qP::qQ::qR::qS::qT::qU::qV::qW::qX::qY::qZ::z0::z1::z2::z3::z4::z5::z6::z7::z8::z9::za::zb::zc::zd::ze::zf::zg::zh::zi::zj::zk::zl::zm::zn::zo::zp::zq::zr::zs::zt::zu::zv::zw::zx::zy::zz::zA::zB::zC::zD::zE::zF::zG::zH::zI::zJ::zK::zL::zM::zN::zO::zP::zQ::zR::zS::zT::zU::zV::zW::zX::zY::zZ::y0::y1::y2::y3::y4::y5::y6::[]),h⟩ =
  gd zQ (
  opsP (xX s 3 wl k false) xg3_8 32 m0 ac (runK (xX s 3 wl k false) (bodyK s.P Try.f3) xk3_9) ⟨(t0::t1::t2::t3::t4::t5::t6::t7::t8::t9::ta::tb::tc::td::te::tf::tg::th::ti::tj::tk::tl::tm::tn::tp::tq::tr::ts::tt::tu::tv::tw::tx::ty::tz::tA::tB::tC::tD::tE::tF::tG::tH::tI::tJ::tK::tL::tM::tN::tO::tP::tQ::tR::tS::tT::tU::tV::tW::tX::tY::tZ::q0::q1::q2::q3::q4::q5::q6::q7::q8::q9::qa::qb::qc::qd::qe::qf::qg::qh::qi::qj::qk::ql::qm::qn::qo::qp::qq::qr::qs::qt::qu::qv::qw::qx::qy::qz::qA::qB::qC::qD::qE::qF::qG::qH::qI::qJ::qK::qL::qM::qN::qO::qP::qQ::qR::qS::qT::qU::qV::qW::qX::qY::qZ::z0::z1::z2::z3::z4::z5::z6::z7::z8::z9::za::zb::zc::zd::ze::zf::zg::zh::zi::zj::zk::zl::zm::zn::zo::zp::zq::zr::zs::zt::zu::zv::zw::zx::zy::zz::zA::zB::zC::zD::zE::zF::zG::zH::zI::zJ::zK::zL::zM::zN::zO::zP::(V.lit (Value.bool true))::zR::zS::zT::zU::zV::zW::zX::zY::zZ::y0::y1::y2::y3::uu::y5::y6::[]),h⟩) (
  bm (vPick zS y3 (V.lit (Value.bool false))) h fun v230 h231 =>
  opsP (xX s 3 wl k false) xg3_8 32 m0 ac (runK (xX s 3 wl k false) (bodyK s.P Try.f3) xk3_9) ⟨(t0::t1::t2::t3::t4::t5::t6::t7::t8::t9::ta::tb::tc::td::te::tf::tg::th::ti::tj::tk::tl::tm::tn::tp::tq::tr::ts::tt::tu::tv::tw::tx::ty::tz::tA::tB::tC::tD::tE::tF::tG::tH::tI::tJ::tK::tL::tM::tN::tO::tP::tQ::tR::tS::tT::tU::tV::tW::tX::tY::tZ::q0::q1::q2::q3::q4::q5::q6::q7::q8::q9::qa::qb::qc::qd::qe::qf::qg::qh::qi::qj::qk::ql::qm::qn::qo::qp::qq::qr::qs::qt::qu::qv::qw::qx::qy::qz::qA::qB::qC::qD::qE::qF::qG::qH::qI::qJ::qK::qL::qM::qN::qO::qP::qQ::qR::qS::qT::qU::qV::qW::qX::qY::qZ::z0::z1::z2::z3::z4::z5::z6::z7::z8::z9::za::zb::zc::zd::ze::zf::zg::zh::zi::zj::zk::zl::zm::zn::zo::zp::zq::zr::zs::zt::zu::zv::zw::zx::zy::zz::zA::zB::zC::zD::zE::zF::zG::zH::zI::zJ::zK::zL::zM::zN::zO::zP::(V.lit (Value.bool false))::zR::zS::zT::zU::zV::zW::zX::zY::zZ::y0::y1::y2::y3::v230::y5::y6::[]),h231⟩) (
  opsP (xX s 3 wl k false) xg3_8 32 m0 ac (runK (xX s 3 wl k false) (bodyK s.P Try.f3) xk3_9) ⟨(t0::t1::t2::t3::t4::t5::t6::t7::t8::t9::ta::tb::tc::td::te::tf::tg::th::ti::tj::tk::tl::tm::tn::tp::tq::tr::ts::tt::tu::tv::tw::tx::ty::tz::tA::tB::tC::tD::tE::tF::tG::tH::tI::tJ::tK::tL::tM::tN::tO::tP::tQ::tR::tS::tT::tU::tV::tW::tX::tY::tZ::q0::q1::q2::q3::q4::q5::q6::q7::q8::q9::qa::qb::qc::qd::qe::qf::qg::qh::qi::qj::qk::ql::qm::qn::qo::qp::qq::qr::qs::qt::qu::qv::qw::qx::qy::qz::qA::qB::qC::qD::qE::qF::qG::qH::qI::qJ::qK::qL::qM::qN::qO::qP::qQ::qR::qS::qT::qU::qV::qW::qX::qY::qZ::z0::z1::z2::z3::z4::z5::z6::z7::z8::z9::za::zb::zc::zd::ze::zf::zg::zh::zi::zj::zk::zl::zm::zn::zo::zp::zq::zr::zs::zt::zu::zv::zw::zx::zy::zz::zA::zB::zC::zD::zE::zF::zG::zH::zI::zJ::zK::zL::zM::zN::zO::zP::zQ::zR::zS::zT::zU::zV::zW::zX::zY::zZ::y0::y1::y2::y3::uu::y5::y6::[]),h⟩) :=
  (go_gdF0 rfl rfl rfl (by kernel_rfl)
  (by kernel_rfl)
  (st_bm (by kernel_rfl) fun v230 h231 =>
  (by kernel_rfl))
  (by kernel_rfl))
theorem xm3_31 (s : Sys) (k wl : Nat) (m0 : Nat) (ac : List Nat × List Nat) (h : Hp) : opsP (xX s 3 wl k false) xg3_8 21 m0 ac (runK (xX s 3 wl k false) (bodyK s.P Try.f3) xk3_9) ⟨(t0::t1::t2::t3::t4::t5::t6::t7::t8::t9::ta::tb::tc::td::te::tf::tg::th::ti::tj::tk::tl::tm::tn::tp::tq::tr::ts::tt::tu::tv::tw::tx::ty::tz::tA::tB::tC::tD::tE::tF::tG::tH::tI::tJ::tK::tL::tM::tN::tO::tP::tQ::tR::tS::tT::tU::tV::tW::tX::tY::tZ::q0::q1::q2::q3::q4::q5::q6::q7::q8::q9::qa::qb::qc::qd::qe::qf::qg::qh::qi::qj::qk::ql::qm::qn::qo::qp::qq::qr::qs::qt::qu::qv::qw::qx::qy::qz::qA::qB::qC::qD::qE::qF::qG::qH::qI::qJ::qK::qL::qM::qN::qO::qP::qQ::qR::qS::qT::qU::qV::qW::qX::qY::qZ::z0::z1::z2::z3::z4::z5::z6::z7::z8::z9::za::zb::zc::zd::ze::zf::zg::zh::zi::zj::zk::zl::zm::zn::zo::zp::zq::zr::zs::zt::zu::zv::zw::zx::zy::zz::zA::zB::zC::zD::zE::zF::zG::zH::zI::zJ::zK::zL::zM::zN::zO::zP::zQ::zR::zS::zT::zU::zV::zW::zX::zY::zZ::y0::y1::y2::y3::y4::y5::y6::[]),h⟩ =
  gd zS (
  bp (opLen s.P 35 zT h) fun v232 h233 =>
  bm (vBin s.P .eql 3 v232 (V.lit (Value.int .i64 0))) h233 fun v234 h235 =>
  opsP (xX s 3 wl k false) xg3_8 24 m0 ac (runK (xX s 3 wl k false) (bodyK s.P Try.f3) xk3_9) ⟨(t0::t1::t2::t3::t4::t5::t6::t7::t8::t9::ta::tb::tc::td::te::tf::tg::th::ti::tj::tk::tl::tm::tn::tp::tq::tr::ts::tt::tu::tv::tw::tx::ty::tz::tA::tB::tC::tD::tE::tF::tG::tH::tI::tJ::tK::tL::tM::tN::tO::tP::tQ::tR::tS::tT::tU::tV::tW::tX::tY::tZ::q0::q1::q2::q3::q4::q5::q6::q7::q8::q9::qa::qb::qc::qd::qe::qf::qg::qh::qi::qj::qk::ql::qm::qn::qo::qp::qq::qr::qs::qt::qu::qv::qw::qx::qy::qz::qA::qB::qC::qD::qE::qF::qG::qH::qI::qJ::qK::qL::qM::qN::qO::qP::qQ::qR::qS::qT::qU::qV::qW::qX::qY::qZ::z0::z1::z2::z3::z4::z5::z6::z7::z8::z9::za::zb::zc::zd::ze::zf::zg::zh::zi::zj::zk::zl::zm::zn::zo::zp::zq::zr::zs::zt::zu::zv::zw::zx::zy::zz::zA::zB::zC::zD::zE::zF::zG::zH::zI::zJ::zK::zL::zM::zN::zO::zP::zQ::zR::(V.lit (Value.bool true))::zT::v232::v234::v234::zX::zY::zZ::y0::y1::y2::y3::y4::y5::y6::[]),h235⟩) (
  opsP (xX s 3 wl k false) xg3_8 31 m0 ac (runK (xX s 3 wl k false) (bodyK s.P Try.f3) xk3_9) ⟨(t0::t1::t2::t3::t4::t5::t6::t7::t8::t9::ta::tb::tc::td::te::tf::tg::th::ti::tj::tk::tl::tm::tn::tp::tq::tr::ts::tt::tu::tv::tw::tx::ty::tz::tA::tB::tC::tD::tE::tF::tG::tH::tI::tJ::tK::tL::tM::tN::tO::tP::tQ::tR::tS::tT::tU::tV::tW::tX::tY::tZ::q0::q1::q2::q3::q4::q5::q6::q7::q8::q9::qa::qb::qc::qd::qe::qf::qg::qh::qi::qj::qk::ql::qm::qn::qo::qp::qq::qr::qs::qt::qu::qv::qw::qx::qy::qz::qA::qB::qC::qD::qE::qF::qG::qH::qI::qJ::qK::qL::qM::qN::qO::qP::qQ::qR::qS::qT::qU::qV::qW::qX::qY::qZ::z0::z1::z2::z3::z4::z5::z6::z7::z8::z9::za::zb::zc::zd::ze::zf::zg::zh::zi::zj::zk::zl::zm::zn::zo::zp::zq::zr::zs::zt::zu::zv::zw::zx::zy::zz::zA::zB::zC::zD::zE::zF::zG::zH::zI::zJ::zK::zL::zM::zN::zO::zP::zQ::zR::(V.lit (Value.bool false))::zT::uu::uu::uu::uu::uu::uu::uu::uu::uu::uu::y4::y5::y6::[]),h⟩) (
  opsP (xX s 3 wl k false) xg3_8 22 m0 ac (runK (xX s 3 wl k false) (bodyK s.P Try.f3) xk3_9) ⟨(t0::t1::t2::t3::t4::t5::t6::t7::t8::t9::ta::tb::tc::td::te::tf::tg::th::ti::tj::tk::tl::tm::tn::tp::tq::tr::ts::tt::tu::tv::tw::tx::ty::tz::tA::tB::tC::tD::tE::tF::tG::tH::tI::tJ::tK::tL::tM::tN::tO::tP::tQ::tR::tS::tT::tU::tV::tW::tX::tY::tZ::q0::q1::q2::q3::q4::q5::q6::q7::q8::q9::qa::qb::qc::qd::qe::qf::qg::qh::qi::qj::qk::ql::qm::qn::qo::qp::qq::qr::qs::qt::qu::qv::qw::qx::qy::qz::qA::qB::qC::qD::qE::qF::qG::qH::qI::qJ::qK::qL::qM::qN::qO::qP::qQ::qR::qS::qT::qU::qV::qW::qX::qY::qZ::z0::z1::z2::z3::z4::z5::z6::z7::z8::z9::za::zb::zc::zd::ze::zf::zg::zh::zi::zj::zk::zl::zm::zn::zo::zp::zq::zr::zs::zt::zu::zv::zw::zx::zy::zz::zA::zB::zC::zD::zE::zF::zG::zH::zI::zJ::zK::zL::zM::zN::zO::zP::zQ::zR::zS::zT::uu::zV::zW::zX::zY::zZ::y0::y1::y2::y3::y4::y5::y6::[]),h⟩) :=
  (go_gdT0 rfl rfl rfl (by kernel_rfl)
  (st_bp (by kernel_rfl) fun v232 h233 =>
  (go_run0 rfl rfl rfl (by kernel_rfl) (st_bm (by kernel_rfl) fun v234 h235 =>
  (go_run0 rfl rfl rfl (by kernel_rfl) (st_id (v := v234) (H := h235) (by kernel_rfl)
  (by kernel_rfl))))))
  (go_skip0 rfl rfl rfl (by kernel_rfl)
  (go_skip0 rfl rfl rfl (by kernel_rfl)
  (go_none0 (x := #[]) rfl rfl rfl (by kernel_rfl)
  (go_none0 (x := #[]) rfl rfl rfl (by kernel_rfl)
  (go_none0 (x := #[]) rfl rfl rfl (by kernel_rfl)
  (go_none0 (x := #[]) rfl rfl rfl (by kernel_rfl)
  (go_none0 (x := #[]) rfl rfl rfl (by kernel_rfl)
  (go_none0 (x := #[]) rfl rfl rfl (by kernel_rfl)
  (go_skip0 rfl rfl rfl (by kernel_rfl)
  (by kernel_rfl))))))))))
  (by kernel_rfl))
theorem xm3_32 (s : Sys) (k wl : Nat) (m0 : Nat) (ac : List Nat × List Nat) (h : Hp) : opsP (xX s 3 wl k false) xg3_8 30 m0 ac (runK (xX s 3 wl k false) (bodyK s.P Try.f3) xk3_9) ⟨(t0::t1::t2::t3::t4::t5::t6::t7::t8::t9::ta::tb::tc::td::te::tf::tg::th::ti::tj::tk::tl::tm::tn::tp::tq::tr::ts::tt::tu::tv::tw::tx::ty::tz::tA::tB::tC::tD::tE::tF::tG::tH::tI::tJ::tK::tL::tM::tN::tO::tP::tQ::tR::tS::tT::tU::tV::tW::tX::tY::tZ::q0::q1::q2::q3::q4::q5::q6::q7::q8::q9::qa::qb::qc::qd::qe::qf::qg::qh::qi::qj::qk::ql::qm::qn::qo::qp::qq::qr::qs::qt::qu::qv::qw::qx::qy::qz::qA::qB::qC::qD::qE::qF::qG::qH::qI::qJ::qK::qL::qM::qN::qO::qP::qQ::qR::qS::qT::qU::qV::qW::qX::qY::qZ::z0::z1::z2::z3::z4::z5::z6::z7::z8::z9::za::zb::zc::zd::ze::zf::zg::zh::zi::zj::zk::zl::zm::zn::zo::zp::zq::zr::zs::zt::zu::zv::zw::zx::zy::zz::zA::zB::zC::zD::zE::zF::zG::zH::zI::zJ::zK::zL::zM::zN::zO::zP::zQ::zR::zS::zT::zU::zV::zW::zX::zY::zZ::y0::y1::y2::y3::y4::y5::y6::[]),h⟩ =
  gd zS (
  bm (vPick zW (V.lit (Value.bool true)) y2) h fun v236 h237 =>
  opsP (xX s 3 wl k false) xg3_8 31 m0 ac (runK (xX s 3 wl k false) (bodyK s.P Try.f3) xk3_9) ⟨(t0::t1::t2::t3::t4::t5::t6::t7::t8::t9::ta::tb::tc::td::te::tf::tg::th::ti::tj::tk::tl::tm::tn::tp::tq::tr::ts::tt::tu::tv::tw::tx::ty::tz::tA::tB::tC::tD::tE::tF::tG::tH::tI::tJ::tK::tL::tM::tN::tO::tP::tQ::tR::tS::tT::tU::tV::tW::tX::tY::tZ::q0::q1::q2::q3::q4::q5::q6::q7::q8::q9::qa::qb::qc::qd::qe::qf::qg::qh::qi::qj::qk::ql::qm::qn::qo::qp::qq::qr::qs::qt::qu::qv::qw::qx::qy::qz::qA::qB::qC::qD::qE::qF::qG::qH::qI::qJ::qK::qL::qM::qN::qO::qP::qQ::qR::qS::qT::qU::qV::qW::qX::qY::qZ::z0::z1::z2::z3::z4::z5::z6::z7::z8::z9::za::zb::zc::zd::ze::zf::zg::zh::zi::zj::zk::zl::zm::zn::zo::zp::zq::zr::zs::zt::zu::zv::zw::zx::zy::zz::zA::zB::zC::zD::zE::zF::zG::zH::zI::zJ::zK::zL::zM::zN::zO::zP::zQ::zR::(V.lit (Value.bool true))::zT::zU::zV::zW::zX::zY::zZ::y0::y1::y2::v236::y4::y5::y6::[]),h237⟩) (
  opsP (xX s 3 wl k false) xg3_8 31 m0 ac (runK (xX s 3 wl k false) (bodyK s.P Try.f3) xk3_9) ⟨(t0::t1::t2::t3::t4::t5::t6::t7::t8::t9::ta::tb::tc::td::te::tf::tg::th::ti::tj::tk::tl::tm::tn::tp::tq::tr::ts::tt::tu::tv::tw::tx::ty::tz::tA::tB::tC::tD::tE::tF::tG::tH::tI::tJ::tK::tL::tM::tN::tO::tP::tQ::tR::tS::tT::tU::tV::tW::tX::tY::tZ::q0::q1::q2::q3::q4::q5::q6::q7::q8::q9::qa::qb::qc::qd::qe::qf::qg::qh::qi::qj::qk::ql::qm::qn::qo::qp::qq::qr::qs::qt::qu::qv::qw::qx::qy::qz::qA::qB::qC::qD::qE::qF::qG::qH::qI::qJ::qK::qL::qM::qN::qO::qP::qQ::qR::qS::qT::qU::qV::qW::qX::qY::qZ::z0::z1::z2::z3::z4::z5::z6::z7::z8::z9::za::zb::zc::zd::ze::zf::zg::zh::zi::zj::zk::zl::zm::zn::zo::zp::zq::zr::zs::zt::zu::zv::zw::zx::zy::zz::zA::zB::zC::zD::zE::zF::zG::zH::zI::zJ::zK::zL::zM::zN::zO::zP::zQ::zR::(V.lit (Value.bool false))::zT::zU::zV::zW::zX::zY::zZ::y0::y1::y2::uu::y4::y5::y6::[]),h⟩) (
  opsP (xX s 3 wl k false) xg3_8 31 m0 ac (runK (xX s 3 wl k false) (bodyK s.P Try.f3) xk3_9) ⟨(t0::t1::t2::t3::t4::t5::t6::t7::t8::t9::ta::tb::tc::td::te::tf::tg::th::ti::tj::tk::tl::tm::tn::tp::tq::tr::ts::tt::tu::tv::tw::tx::ty::tz::tA::tB::tC::tD::tE::tF::tG::tH::tI::tJ::tK::tL::tM::tN::tO::tP::tQ::tR::tS::tT::tU::tV::tW::tX::tY::tZ::q0::q1::q2::q3::q4::q5::q6::q7::q8::q9::qa::qb::qc::qd::qe::qf::qg::qh::qi::qj::qk::ql::qm::qn::qo::qp::qq::qr::qs::qt::qu::qv::qw::qx::qy::qz::qA::qB::qC::qD::qE::qF::qG::qH::qI::qJ::qK::qL::qM::qN::qO::qP::qQ::qR::qS::qT::qU::qV::qW::qX::qY::qZ::z0::z1::z2::z3::z4::z5::z6::z7::z8::z9::za::zb::zc::zd::ze::zf::zg::zh::zi::zj::zk::zl::zm::zn::zo::zp::zq::zr::zs::zt::zu::zv::zw::zx::zy::zz::zA::zB::zC::zD::zE::zF::zG::zH::zI::zJ::zK::zL::zM::zN::zO::zP::zQ::zR::zS::zT::zU::zV::zW::zX::zY::zZ::y0::y1::y2::uu::y4::y5::y6::[]),h⟩) :=
  (go_gdT0 rfl rfl rfl (by kernel_rfl)
  (st_bm (by kernel_rfl) fun v236 h237 =>
  (by kernel_rfl))
  (by kernel_rfl)
  (by kernel_rfl))
theorem xm3_33 (s : Sys) (k wl : Nat) (m0 : Nat) (ac : List Nat × List Nat) (h : Hp) : opsP (xX s 3 wl k false) xg3_8 26 m0 ac (runK (xX s 3 wl k false) (bodyK s.P Try.f3) xk3_9) ⟨(t0::t1::t2::t3::t4::t5::t6::t7::t8::t9::ta::tb::tc::td::te::tf::tg::th::ti::tj::tk::tl::tm::tn::tp::tq::tr::ts::tt::tu::tv::tw::tx::ty::tz::tA::tB::tC::tD::tE::tF::tG::tH::tI::tJ::tK::tL::tM::tN::tO::tP::tQ::tR::tS::tT::tU::tV::tW::tX::tY::tZ::q0::q1::q2::q3::q4::q5::q6::q7::q8::q9::qa::qb::qc::qd::qe::qf::qg::qh::qi::qj::qk::ql::qm::qn::qo::qp::qq::qr::qs::qt::qu::qv::qw::qx::qy::qz::qA::qB::qC::qD::qE::qF::qG::qH::qI::qJ::qK::qL::qM::qN::qO::qP::qQ::qR::qS::qT::qU::qV::qW::qX::qY::qZ::z0::z1::z2::z3::z4::z5::z6::z7::z8::z9::za::zb::zc::zd::ze::zf::zg::zh::zi::zj::zk::zl::zm::zn::zo::zp::zq::zr::zs::zt::zu::zv::zw::zx::zy::zz::zA::zB::zC::zD::zE::zF::zG::zH::zI::zJ::zK::zL::zM::zN::zO::zP::zQ::zR::zS::zT::zU::zV::zW::zX::zY::zZ::y0::y1::y2::y3::y4::y5::y6::[]),h⟩ =
  gd zY (
  bp (opLen s.P 35 tf h) fun v238 h239 =>
  bm (vBin s.P .eql 3 v238 (V.lit (Value.int .i64 1))) h239 fun v240 h241 =>
  opsP (xX s 3 wl k false) xg3_8 29 m0 ac (runK (xX s 3 wl k false) (bodyK s.P Try.f3) xk3_9) ⟨(t0::t1::t2::t3::t4::t5::t6::t7::t8::t9::ta::tb::tc::td::te::tf::tg::th::ti::tj::tk::tl::tm::tn::tp::tq::tr::ts::tt::tu::tv::tw::tx::ty::tz::tA::tB::tC::tD::tE::tF::tG::tH::tI::tJ::tK::tL::tM::tN::tO::tP::tQ::tR::tS::tT::tU::tV::tW::tX::tY::tZ::q0::q1::q2::q3::q4::q5::q6::q7::q8::q9::qa::qb::qc::qd::qe::qf::qg::qh::qi::qj::qk::ql::qm::qn::qo::qp::qq::qr::qs::qt::qu::qv::qw::qx::qy::qz::qA::qB::qC::qD::qE::qF::qG::qH::qI::qJ::qK::qL::qM::qN::qO::qP::qQ::qR::qS::qT::qU::qV::qW::qX::qY::qZ::z0::z1::z2::z3::z4::z5::z6::z7::z8::z9::za::zb::zc::zd::ze::zf::zg::zh::zi::zj::zk::zl::zm::zn::zo::zp::zq::zr::zs::zt::zu::zv::zw::zx::zy::zz::zA::zB::zC::zD::zE::zF::zG::zH::zI::zJ::zK::zL::zM::zN::zO::zP::zQ::zR::zS::zT::zU::zV::zW::zX::(V.lit (Value.bool true))::tf::v238::v240::y2::y3::y4::y5::y6::[]),h241⟩) (
  opsP (xX s 3 wl k false) xg3_8 29 m0 ac (runK (xX s 3 wl k false) (bodyK s.P Try.f3) xk3_9) ⟨(t0::t1::t2::t3::t4::t5::t6::t7::t8::t9::ta::tb::tc::td::te::tf::tg::th::ti::tj::tk::tl::tm::tn::tp::tq::tr::ts::tt::tu::tv::tw::tx::ty::tz::tA::tB::tC::tD::tE::tF::tG::tH::tI::tJ::tK::tL::tM::tN::tO::tP::tQ::tR::tS::tT::tU::tV::tW::tX::tY::tZ::q0::q1::q2::q3::q4::q5::q6::q7::q8::q9::qa::qb::qc::qd::qe::qf::qg::qh::qi::qj::qk::ql::qm::qn::qo::qp::qq::qr::qs::qt::qu::qv::qw::qx::qy::qz::qA::qB::qC::qD::qE::qF::qG::qH::qI::qJ::qK::qL::qM::qN::qO::qP::qQ::qR::qS::qT::qU::qV::qW::qX::qY::qZ::z0::z1::z2::z3::z4::z5::z6::z7::z8::z9::za::zb::zc::zd::ze::zf::zg::zh::zi::zj::zk::zl::zm::zn::zo::zp::zq::zr::zs::zt::zu::zv::zw::zx::zy::zz::zA::zB::zC::zD::zE::zF::zG::zH::zI::zJ::zK::zL::zM::zN::zO::zP::zQ::zR::zS::zT::zU::zV::zW::zX::(V.lit (Value.bool false))::uu::uu::uu::y2::y3::y4::y5::y6::[]),h⟩) (
  opsP (xX s 3 wl k false) xg3_8 27 m0 ac (runK (xX s 3 wl k false) (bodyK s.P Try.f3) xk3_9) ⟨(t0::t1::t2::t3::t4::t5::t6::t7::t8::t9::ta::tb::tc::td::te::tf::tg::th::ti::tj::tk::tl::tm::tn::tp::tq::tr::ts::tt::tu::tv::tw::tx::ty::tz::tA::tB::tC::tD::tE::tF::tG::tH::tI::tJ::tK::tL::tM::tN::tO::tP::tQ::tR::tS::tT::tU::tV::tW::tX::tY::tZ::q0::q1::q2::q3::q4::q5::q6::q7::q8::q9::qa::qb::qc::qd::qe::qf::qg::qh::qi::qj::qk::ql::qm::qn::qo::qp::qq::qr::qs::qt::qu::qv::qw::qx::qy::qz::qA::qB::qC::qD::qE::qF::qG::qH::qI::qJ::qK::qL::qM::qN::qO::qP::qQ::qR::qS::qT::qU::qV::qW::qX::qY::qZ::z0::z1::z2::z3::z4::z5::z6::z7::z8::z9::za::zb::zc::zd::ze::zf::zg::zh::zi::zj::zk::zl::zm::zn::zo::zp::zq::zr::zs::zt::zu::zv::zw::zx::zy::zz::zA::zB::zC::zD::zE::zF::zG::zH::zI::zJ::zK::zL::zM::zN::zO::zP::zQ::zR::zS::zT::zU::zV::zW::zX::zY::uu::y0::y1::y2::y3::y4::y5::y6::[]),h⟩) :=
  (go_gdT0 rfl rfl rfl (by kernel_rfl)
  (st_id (v := tf) (H := h) (by kernel_rfl)
  (go_run0 rfl rfl rfl (by kernel_rfl) (st_bp (by kernel_rfl) fun v238 h239 =>
  (go_run0 rfl rfl rfl (by kernel_rfl) (st_bm (by kernel_rfl) fun v240 h241 =>
  (by kernel_rfl))))))
  (go_skip0 rfl rfl rfl (by kernel_rfl)
  (go_skip0 rfl rfl rfl (by kernel_rfl)
  (by kernel_rfl)))
  (by kernel_rfl))
theorem xm3_34 (s : Sys) (k wl : Nat) (m0 : Nat) (ac : List Nat × List Nat) (h : Hp) : opsP (xX s 3 wl k false) xg3_8 25 m0 ac (runK (xX s 3 wl k false) (bodyK s.P Try.f3) xk3_9) ⟨(t0::t1::t2::t3::t4::t5::t6::t7::t8::t9::ta::tb::tc::td::te::tf::tg::th::ti::tj::tk::tl::tm::tn::tp::tq::tr::ts::tt::tu::tv::tw::tx::ty::tz::tA::tB::tC::tD::tE::tF::tG::tH::tI::tJ::tK::tL::tM::tN::tO::tP::tQ::tR::tS::tT::tU::tV::tW::tX::tY::tZ::q0::q1::q2::q3::q4::q5::q6::q7::q8::q9::qa::qb::qc::qd::qe::qf::qg::qh::qi::qj::qk::ql::qm::qn::qo::qp::qq::qr::qs::qt::qu::qv::qw::qx::qy::qz::qA::qB::qC::qD::qE::qF::qG::qH::qI::qJ::qK::qL::qM::qN::qO::qP::qQ::qR::qS::qT::qU::qV::qW::qX::qY::qZ::z0::z1::z2::z3::z4::z5::z6::z7::z8::z9::za::zb::zc::zd::ze::zf::zg::zh::zi::zj::zk::zl::zm::zn::zo::zp::zq::zr::zs::zt::zu::zv::zw::zx::zy::zz::zA::zB::zC::zD::zE::zF::zG::zH::zI::zJ::zK::zL::zM::zN::zO::zP::zQ::zR::zS::zT::zU::zV::zW::zX::zY::zZ::y0::y1::y2::y3::y4::y5::y6::[]),h⟩ =
  gd zW (
  opsP (xX s 3 wl k false) xg3_8 30 m0 ac (runK (xX s 3 wl k false) (bodyK s.P Try.f3) xk3_9) ⟨(t0::t1::t2::t3::t4::t5::t6::t7::t8::t9::ta::tb::tc::td::te::tf::tg::th::ti::tj::tk::tl::tm::tn::tp::tq::tr::ts::tt::tu::tv::tw::tx::ty::tz::tA::tB::tC::tD::tE::tF::tG::tH::tI::tJ::tK::tL::tM::tN::tO::tP::tQ::tR::tS::tT::tU::tV::tW::tX::tY::tZ::q0::q1::q2::q3::q4::q5::q6::q7::q8::q9::qa::qb::qc::qd::qe::qf::qg::qh::qi::qj::qk::ql::qm::qn::qo::qp::qq::qr::qs::qt::qu::qv::qw::qx::qy::qz::qA::qB::qC::qD::qE::qF::qG::qH::qI::qJ::qK::qL::qM::qN::qO::qP::qQ::qR::qS::qT::qU::qV::qW::qX::qY::qZ::z0::z1::z2::z3::z4::z5::z6::z7::z8::z9::za::zb::zc::zd::ze::zf::zg::zh::zi::zj::zk::zl::zm::zn::zo::zp::zq::zr::zs::zt::zu::zv::zw::zx::zy::zz::zA::zB::zC::zD::zE::zF::zG::zH::zI::zJ::zK::zL::zM::zN::zO::zP::zQ::zR::zS::zT::zU::zV::(V.lit (Value.bool true))::zX::uu::uu::uu::uu::uu::y3::y4::y5::y6::[]),h⟩) (
  opsP (xX s 3 wl k false) xg3_8 26 m0 ac (runK (xX s 3 wl k false) (bodyK s.P Try.f3) xk3_9) ⟨(t0::t1::t2::t3::t4::t5::t6::t7::t8::t9::ta::tb::tc::td::te::tf::tg::th::ti::tj::tk::tl::tm::tn::tp::tq::tr::ts::tt::tu::tv::tw::tx::ty::tz::tA::tB::tC::tD::tE::tF::tG::tH::tI::tJ::tK::tL::tM::tN::tO::tP::tQ::tR::tS::tT::tU::tV::tW::tX::tY::tZ::q0::q1::q2::q3::q4::q5::q6::q7::q8::q9::qa::qb::qc::qd::qe::qf::qg::qh::qi::qj::qk::ql::qm::qn::qo::qp::qq::qr::qs::qt::qu::qv::qw::qx::qy::qz::qA::qB::qC::qD::qE::qF::qG::qH::qI::qJ::qK::qL::qM::qN::qO::qP::qQ::qR::qS::qT::qU::qV::qW::qX::qY::qZ::z0::z1::z2::z3::z4::z5::z6::z7::z8::z9::za::zb::zc::zd::ze::zf::zg::zh::zi::zj::zk::zl::zm::zn::zo::zp::zq::zr::zs::zt::zu::zv::zw::zx::zy::zz::zA::zB::zC::zD::zE::zF::zG::zH::zI::zJ::zK::zL::zM::zN::zO::zP::zQ::zR::zS::zT::zU::zV::(V.lit (Value.bool false))::zX::zX::zZ::y0::y1::y2::y3::y4::y5::y6::[]),h⟩) (
  opsP (xX s 3 wl k false) xg3_8 26 m0 ac (runK (xX s 3 wl k false) (bodyK s.P Try.f3) xk3_9) ⟨(t0::t1::t2::t3::t4::t5::t6::t7::t8::t9::ta::tb::tc::td::te::tf::tg::th::ti::tj::tk::tl::tm::tn::tp::tq::tr::ts::tt::tu::tv::tw::tx::ty::tz::tA::tB::tC::tD::tE::tF::tG::tH::tI::tJ::tK::tL::tM::tN::tO::tP::tQ::tR::tS::tT::tU::tV::tW::tX::tY::tZ::q0::q1::q2::q3::q4::q5::q6::q7::q8::q9::qa::qb::qc::qd::qe::qf::qg::qh::qi::qj::qk::ql::qm::qn::qo::qp::qq::qr::qs::qt::qu::qv::qw::qx::qy::qz::qA::qB::qC::qD::qE::qF::qG::qH::qI::qJ::qK::qL::qM::qN::qO::qP::qQ::qR::qS::qT::qU::qV::qW::qX::qY::qZ::z0::z1::z2::z3::z4::z5::z6::z7::z8::z9::za::zb::zc::zd::ze::zf::zg::zh::zi::zj::zk::zl::zm::zn::zo::zp::zq::zr::zs::zt::zu::zv::zw::zx::zy::zz::zA::zB::zC::zD::zE::zF::zG::zH::zI::zJ::zK::zL::zM::zN::zO::zP::zQ::zR::zS::zT::zU::zV::zW::zX::uu::zZ::y0::y1::y2::y3::y4::y5::y6::[]),h⟩) :=
  (go_gdF0 rfl rfl rfl (by kernel_rfl)
  (go_none0 (x := #[]) rfl rfl rfl (by kernel_rfl)
  (go_none0 (x := #[]) rfl rfl rfl (by kernel_rfl)
  (go_none0 (x := #[]) rfl rfl rfl (by kernel_rfl)
  (go_skip0 rfl rfl rfl (by kernel_rfl)
  (by kernel_rfl)))))
  (st_id (v := zX) (H := h) (by kernel_rfl)
  (by kernel_rfl))
  (by kernel_rfl))
theorem xm3_35 (s : Sys) (k wl : Nat) (m0 : Nat) (ac : List Nat × List Nat) (h : Hp) : opsP (xX s 3 wl k false) xg3_8 22 m0 ac (runK (xX s 3 wl k false) (bodyK s.P Try.f3) xk3_9) ⟨(t0::t1::t2::t3::t4::t5::t6::t7::t8::t9::ta::tb::tc::td::te::tf::tg::th::ti::tj::tk::tl::tm::tn::tp::tq::tr::ts::tt::tu::tv::tw::tx::ty::tz::tA::tB::tC::tD::tE::tF::tG::tH::tI::tJ::tK::tL::tM::tN::tO::tP::tQ::tR::tS::tT::tU::tV::tW::tX::tY::tZ::q0::q1::q2::q3::q4::q5::q6::q7::q8::q9::qa::qb::qc::qd::qe::qf::qg::qh::qi::qj::qk::ql::qm::qn::qo::qp::qq::qr::qs::qt::qu::qv::qw::qx::qy::qz::qA::qB::qC::qD::qE::qF::qG::qH::qI::qJ::qK::qL::qM::qN::qO::qP::qQ::qR::qS::qT::qU::qV::qW::qX::qY::qZ::z0::z1::z2::z3::z4::z5::z6::z7::z8::z9::za::zb::zc::zd::ze::zf::zg::zh::zi::zj::zk::zl::zm::zn::zo::zp::zq::zr::zs::zt::zu::zv::zw::zx::zy::zz::zA::zB::zC::zD::zE::zF::zG::zH::zI::zJ::zK::zL::zM::zN::zO::zP::zQ::zR::zS::zT::zU::zV::zW::zX::zY::zZ::y0::y1::y2::y3::y4::y5::y6::[]),h⟩ =
  gd zS (
  bm (vBin s.P .eql 3 zU (V.lit (Value.int .i64 0))) h fun v242 h243 =>
  opsP (xX s 3 wl k false) xg3_8 24 m0 ac (runK (xX s 3 wl k false) (bodyK s.P Try.f3) xk3_9) ⟨(t0::t1::t2::t3::t4::t5::t6::t7::t8::t9::ta::tb::tc::td::te::tf::tg::th::ti::tj::tk::tl::tm::tn::tp::tq::tr::ts::tt::tu::tv::tw::tx::ty::tz::tA::tB::tC::tD::tE::tF::tG::tH::tI::tJ::tK::tL::tM::tN::tO::tP::tQ::tR::tS::tT::tU::tV::tW::tX::tY::tZ::q0::q1::q2::q3::q4::q5::q6::q7::q8::q9::qa::qb::qc::qd::qe::qf::qg::qh::qi::qj::qk::ql::qm::qn::qo::qp::qq::qr::qs::qt::qu::qv::qw::qx::qy::qz::qA::qB::qC::qD::qE::qF::qG::qH::qI::qJ::qK::qL::qM::qN::qO::qP::qQ::qR::qS::qT::qU::qV::qW::qX::qY::qZ::z0::z1::z2::z3::z4::z5::z6::z7::z8::z9::za::zb::zc::zd::ze::zf::zg::zh::zi::zj::zk::zl::zm::zn::zo::zp::zq::zr::zs::zt::zu::zv::zw::zx::zy::zz::zA::zB::zC::zD::zE::zF::zG::zH::zI::zJ::zK::zL::zM::zN::zO::zP::zQ::zR::(V.lit (Value.bool true))::zT::zU::v242::v242::zX::zY::zZ::y0::y1::y2::y3::y4::y5::y6::[]),h243⟩) (
  opsP (xX s 3 wl k false) xg3_8 31 m0 ac (runK (xX s 3 wl k false) (bodyK s.P Try.f3) xk3_9) ⟨(t0::t1::t2::t3::t4::t5::t6::t7::t8::t9::ta::tb::tc::td::te::tf::tg::th::ti::tj::tk::tl::tm::tn::tp::tq::tr::ts::tt::tu::tv::tw::tx::ty::tz::tA::tB::tC::tD::tE::tF::tG::tH::tI::tJ::tK::tL::tM::tN::tO::tP::tQ::tR::tS::tT::tU::tV::tW::tX::tY::tZ::q0::q1::q2::q3::q4::q5::q6::q7::q8::q9::qa::qb::qc::qd::qe::qf::qg::qh::qi::qj::qk::ql::qm::qn::qo::qp::qq::qr::qs::qt::qu::qv::qw::qx::qy::qz::qA::qB::qC::qD::qE::qF::qG::qH::qI::qJ::qK::qL::qM::qN::qO::qP::qQ::qR::qS::qT::qU::qV::qW::qX::qY::qZ::z0::z1::z2::z3::z4::z5::z6::z7::z8::z9::za::zb::zc::zd::ze::zf::zg::zh::zi::zj::zk::zl::zm::zn::zo::zp::zq::zr::zs::zt::zu::zv::zw::zx::zy::zz::zA::zB::zC::zD::zE::zF::zG::zH::zI::zJ::zK::zL::zM::zN::zO::zP::zQ::zR::(V.lit (Value.bool false))::zT::zU::uu::uu::uu::uu::uu::uu::uu::uu::uu::y4::y5::y6::[]),h⟩) (
  opsP (xX s 3 wl k false) xg3_8 23 m0 ac (runK (xX s 3 wl k false) (bodyK s.P Try.f3) xk3_9) ⟨(t0::t1::t2::t3::t4::t5::t6::t7::t8::t9::ta::tb::tc::td::te::tf::tg::th::ti::tj::tk::tl::tm::tn::tp::tq::tr::ts::tt::tu::tv::tw::tx::ty::tz::tA::tB::tC::tD::tE::tF::tG::tH::tI::tJ::tK::tL::tM::tN::tO::tP::tQ::tR::tS::tT::tU::tV::tW::tX::tY::tZ::q0::q1::q2::q3::q4::q5::q6::q7::q8::q9::qa::qb::qc::qd::qe::qf::qg::qh::qi::qj::qk::ql::qm::qn::qo::qp::qq::qr::qs::qt::qu::qv::qw::qx::qy::qz::qA::qB::qC::qD::qE::qF::qG::qH::qI::qJ::qK::qL::qM::qN::qO::qP::qQ::qR::qS::qT::qU::qV::qW::qX::qY::qZ::z0::z1::z2::z3::z4::z5::z6::z7::z8::z9::za::zb::zc::zd::ze::zf::zg::zh::zi::zj::zk::zl::zm::zn::zo::zp::zq::zr::zs::zt::zu::zv::zw::zx::zy::zz::zA::zB::zC::zD::zE::zF::zG::zH::zI::zJ::zK::zL::zM::zN::zO::zP::zQ::zR::zS::zT::zU::uu::zW::zX::zY::zZ::y0::y1::y2::y3::y4::y5::y6::[]),h⟩) :=
  (go_gdT0 rfl rfl rfl (by kernel_rfl)
  (st_bm (by kernel_rfl) fun v242 h243 =>
  (go_run0 rfl rfl rfl (by kernel_rfl) (st_id (v := v242) (H := h243) (by kernel_rfl)
  (by kernel_rfl))))
  (go_skip0 rfl rfl rfl (by kernel_rfl)
  (go_none0 (x := #[]) rfl rfl rfl (by kernel_rfl)
  (go_none0 (x := #[]) rfl rfl rfl (by kernel_rfl)
  (go_none0 (x := #[]) rfl rfl rfl (by kernel_rfl)
  (go_none0 (x := #[]) rfl rfl rfl (by kernel_rfl)
  (go_none0 (x := #[]) rfl rfl rfl (by kernel_rfl)
  (go_none0 (x := #[]) rfl rfl rfl (by kernel_rfl)
  (go_skip0 rfl rfl rfl (by kernel_rfl)
  (by kernel_rfl)))))))))
  (by kernel_rfl))
theorem xm3_36 (s : Sys) (k wl : Nat) (m0 : Nat) (ac : List Nat × List Nat) (h : Hp) : opsP (xX s 3 wl k false) xg3_8 29 m0 ac (runK (xX s 3 wl k false) (bodyK s.P Try.f3) xk3_9) ⟨(t0::t1::t2::t3::t4::t5::t6::t7::t8::t9::ta::tb::tc::td::te::tf::tg::th::ti::tj::tk::tl::tm::tn::tp::tq::tr::ts::tt::tu::tv::tw::tx::ty::tz::tA::tB::tC::tD::tE::tF::tG::tH::tI::tJ::tK::tL::tM::tN::tO::tP::tQ::tR::tS::tT::tU::tV::tW::tX::tY::tZ::q0::q1::q2::q3::q4::q5::q6::q7::q8::q9::qa::qb::qc::qd::qe::qf::qg::qh::qi::qj::qk::ql::qm::qn::qo::qp::qq::qr::qs::qt::qu::qv::qw::qx::qy::qz::qA::qB::qC::qD::qE::qF::qG::qH::qI::qJ::qK::qL::qM::qN::qO::qP::qQ::qR::qS::qT::qU::qV::qW::qX::qY::qZ::z0::z1::z2::z3::z4::z5::z6::z7::z8::z9::za::zb::zc::zd::ze::zf::zg::zh::zi::zj::zk::zl::zm::zn::zo::zp::zq::zr::zs::zt::zu::zv::zw::zx::zy::zz::zA::zB::zC::zD::zE::zF::zG::zH::zI::zJ::zK::zL::zM::zN::zO::zP::zQ::zR::zS::zT::zU::zV::zW::zX::zY::zZ::y0::y1::y2::y3::y4::y5::y6::[]),h⟩ =
  gd zW (
  opsP (xX s 3 wl k false) xg3_8 30 m0 ac (runK (xX s 3 wl k false) (bodyK s.P Try.f3) xk3_9) ⟨(t0::t1::t2::t3::t4::t5::t6::t7::t8::t9::ta::tb::tc::td::te::tf::tg::th::ti::tj::tk::tl::tm::tn::tp::tq::tr::ts::tt::tu::tv::tw::tx::ty::tz::tA::tB::tC::tD::tE::tF::tG::tH::tI::tJ::tK::tL::tM::tN::tO::tP::tQ::tR::tS::tT::tU::tV::tW::tX::tY::tZ::q0::q1::q2::q3::q4::q5::q6::q7::q8::q9::qa::qb::qc::qd::qe::qf::qg::qh::qi::qj::qk::ql::qm::qn::qo::qp::qq::qr::qs::qt::qu::qv::qw::qx::qy::qz::qA::qB::qC::qD::qE::qF::qG::qH::qI::qJ::qK::qL::qM::qN::qO::qP::qQ::qR::qS::qT::qU::qV::qW::qX::qY::qZ::z0::z1::z2::z3::z4::z5::z6::z7::z8::z9::za::zb::zc::zd::ze::zf::zg::zh::zi::zj::zk::zl::zm::zn::zo::zp::zq::zr::zs::zt::zu::zv::zw::zx::zy::zz::zA::zB::zC::zD::zE::zF::zG::zH::zI::zJ::zK::zL::zM::zN::zO::zP::zQ::zR::zS::zT::zU::zV::(V.lit (Value.bool true))::zX::zY::zZ::y0::y1::uu::y3::y4::y5::y6::[]),h⟩) (
  bm (vPick zY y1 (V.lit (Value.bool false))) h fun v244 h245 =>
  opsP (xX s 3 wl k false) xg3_8 30 m0 ac (runK (xX s 3 wl k false) (bodyK s.P Try.f3) xk3_9) ⟨(t0::t1::t2::t3::t4::t5::t6::t7::t8::t9::ta::tb::tc::td::te::tf::tg::th::ti::tj::tk::tl::tm::tn::tp::tq::tr::ts::tt::tu::tv::tw::tx::ty::tz::tA::tB::tC::tD::tE::tF::tG::tH::tI::tJ::tK::tL::tM::tN::tO::tP::tQ::tR::tS::tT::tU::tV::tW::tX::tY::tZ::q0::q1::q2::q3::q4::q5::q6::q7::q8::q9::qa::qb::qc::qd::qe::qf::qg::qh::qi::qj::qk::ql::qm::qn::qo::qp::qq::qr::qs::qt::qu::qv::qw::qx::qy::qz::qA::qB::qC::qD::qE::qF::qG::qH::qI::qJ::qK::qL::qM::qN::qO::qP::qQ::qR::qS::qT::qU::qV::qW::qX::qY::qZ::z0::z1::z2::z3::z4::z5::z6::z7::z8::z9::za::zb::zc::zd::ze::zf::zg::zh::zi::zj::zk::zl::zm::zn::zo::zp::zq::zr::zs::zt::zu::zv::zw::zx::zy::zz::zA::zB::zC::zD::zE::zF::zG::zH::zI::zJ::zK::zL::zM::zN::zO::zP::zQ::zR::zS::zT::zU::zV::(V.lit (Value.bool false))::zX::zY::zZ::y0::y1::v244::y3::y4::y5::y6::[]),h245⟩) (
  opsP (xX s 3 wl k false) xg3_8 30 m0 ac (runK (xX s 3 wl k false) (bodyK s.P Try.f3) xk3_9) ⟨(t0::t1::t2::t3::t4::t5::t6::t7::t8::t9::ta::tb::tc::td::te::tf::tg::th::ti::tj::tk::tl::tm::tn::tp::tq::tr::ts::tt::tu::tv::tw::tx::ty::tz::tA::tB::tC::tD::tE::tF::tG::tH::tI::tJ::tK::tL::tM::tN::tO::tP::tQ::tR::tS::tT::tU::tV::tW::tX::tY::tZ::q0::q1::q2::q3::q4::q5::q6::q7::q8::q9::qa::qb::qc::qd::qe::qf::qg::qh::qi::qj::qk::ql::qm::qn::qo::qp::qq::qr::qs::qt::qu::qv::qw::qx::qy::qz::qA::qB::qC::qD::qE::qF::qG::qH::qI::qJ::qK::qL::qM::qN::qO::qP::qQ::qR::qS::qT::qU::qV::qW::qX::qY::qZ::z0::z1::z2::z3::z4::z5::z6::z7::z8::z9::za::zb::zc::zd::ze::zf::zg::zh::zi::zj::zk::zl::zm::zn::zo::zp::zq::zr::zs::zt::zu::zv::zw::zx::zy::zz::zA::zB::zC::zD::zE::zF::zG::zH::zI::zJ::zK::zL::zM::zN::zO::zP::zQ::zR::zS::zT::zU::zV::zW::zX::zY::zZ::y0::y1::uu::y3::y4::y5::y6::[]),h⟩) :=
  (go_gdF0 rfl rfl rfl (by kernel_rfl)
  (by kernel_rfl)
  (st_bm (by kernel_rfl) fun v244 h245 =>
  (by kernel_rfl))
  (by kernel_rfl))
theorem xm3_37 (s : Sys) (k wl : Nat) (m0 : Nat) (ac : List Nat × List Nat) (h : Hp) : opsP (xX s 3 wl k false) xg3_8 27 m0 ac (runK (xX s 3 wl k false) (bodyK s.P Try.f3) xk3_9) ⟨(t0::t1::t2::t3::t4::t5::t6::t7::t8::t9::ta::tb::tc::td::te::tf::tg::th::ti::tj::tk::tl::tm::tn::tp::tq::tr::ts::tt::tu::tv::tw::tx::ty::tz::tA::tB::tC::tD::tE::tF::tG::tH::tI::tJ::tK::tL::tM::tN::tO::tP::tQ::tR::tS::tT::tU::tV::tW::tX::tY::tZ::q0::q1::q2::q3::q4::q5::q6::q7::q8::q9::qa::qb::qc::qd::qe::qf::qg::qh::qi::qj::qk::ql::qm::qn::qo::qp::qq::qr::qs::qt::qu::qv::qw::qx::qy::qz::qA::qB::qC::qD::qE::qF::qG::qH::qI::qJ::qK::qL::qM::qN::qO::qP::qQ::qR::qS::qT::qU::qV::qW::qX::qY::qZ::z0::z1::z2::z3::z4::z5::z6::z7::z8::z9::za::zb::zc::zd::ze::zf::zg::zh::zi::zj::zk::zl::zm::zn::zo::zp::zq::zr::zs::zt::zu::zv::zw::zx::zy::zz::zA::zB::zC::zD::zE::zF::zG::zH::zI::zJ::zK::zL::zM::zN::zO::zP::zQ::zR::zS::zT::zU::zV::zW::zX::zY::zZ::y0::y1::y2::y3::y4::y5::y6::[]),h⟩ =
  gd zY (
  bp (opLen s.P 35 zZ h) fun v246 h247 =>
  bm (vBin s.P .eql 3 v246 (V.lit (Value.int .i64 1))) h247 fun v248 h249 =>
  opsP (xX s 3 wl k false) xg3_8 29 m0 ac (runK (xX s 3 wl k false) (bodyK s.P Try.f3) xk3_9) ⟨(t0::t1::t2::t3::t4::t5::t6::t7::t8::t9::ta::tb::tc::td::te::tf::tg::th::ti::tj::tk::tl::tm::tn::tp::tq::tr::ts::tt::tu::tv::tw::tx::ty::tz::tA::tB::tC::tD::tE::tF::tG::tH::tI::tJ::tK::tL::tM::tN::tO::tP::tQ::tR::tS::tT::tU::tV::tW::tX::tY::tZ::q0::q1::q2::q3::q4::q5::q6::q7::q8::q9::qa::qb::qc::qd::qe::qf::qg::qh::qi::qj::qk::ql::qm::qn::qo::qp::qq::qr::qs::qt::qu::qv::qw::qx::qy::qz::qA::qB::qC::qD::qE::qF::qG::qH::qI::qJ::qK::qL::qM::qN::qO::qP::qQ::qR::qS::qT::qU::qV::qW::qX::qY::qZ::z0::z1::z2::z3::z4::z5::z6::z7::z8::z9::za::zb::zc::zd::ze::zf::zg::zh::zi::zj::zk::zl::zm::zn::zo::zp::zq::zr::zs::zt::zu::zv::zw::zx::zy::zz::zA::zB::zC::zD::zE::zF::zG::zH::zI::zJ::zK::zL::zM::zN::zO::zP::zQ::zR::zS::zT::zU::zV::zW::zX::(V.lit (Value.bool true))::zZ::v246::v248::y2::y3::y4::y5::y6::[]),h249⟩) (
  opsP (xX s 3 wl k false) xg3_8 29 m0 ac (runK (xX s 3 wl k false) (bodyK s.P Try.f3) xk3_9) ⟨(t0::t1::t2::t3::t4::t5::t6::t7::t8::t9::ta::tb::tc::td::te::tf::tg::th::ti::tj::tk::tl::tm::tn::tp::tq::tr::ts::tt::tu::tv::tw::tx::ty::tz::tA::tB::tC::tD::tE::tF::tG::tH::tI::tJ::tK::tL::tM::tN::tO::tP::tQ::tR::tS::tT::tU::tV::tW::tX::tY::tZ::q0::q1::q2::q3::q4::q5::q6::q7::q8::q9::qa::qb::qc::qd::qe::qf::qg::qh::qi::qj::qk::ql::qm::qn::qo::qp::qq::qr::qs::qt::qu::qv::qw::qx::qy::qz::qA::qB::qC::qD::qE::qF::qG::qH::qI::qJ::qK::qL::qM::qN::qO::qP::qQ::qR::qS::qT::qU::qV::qW::qX::qY::qZ::z0::z1::z2::z3::z4::z5::z6::z7::z8::z9::za::zb::zc::zd::ze::zf::zg::zh::zi::zj::zk::zl::zm::zn::zo::zp::zq::zr::zs::zt::zu::zv::zw::zx::zy::zz::zA::zB::zC::zD::zE::zF::zG::zH::zI::zJ::zK::zL::zM::zN::zO::zP::zQ::zR::zS::zT::zU::zV::zW::zX::(V.lit (Value.bool false))::zZ::uu::uu::y2::y3::y4::y5::y6::[]),h⟩) (
  opsP (xX s 3 wl k false) xg3_8 28 m0 ac (runK (xX s 3 wl k false) (bodyK s.P Try.f3) xk3_9) ⟨(t0::t1::t2::t3::t4::t5::t6::t7::t8::t9::ta::tb::tc::td::te::tf::tg::th::ti::tj::tk::tl::tm::tn::tp::tq::tr::ts::tt::tu::tv::tw::tx::ty::tz::tA::tB::tC::tD::tE::tF::tG::tH::tI::tJ::tK::tL::tM::tN::tO::tP::tQ::tR::tS::tT::tU::tV::tW::tX::tY::tZ::q0::q1::q2::q3::q4::q5::q6::q7::q8::q9::qa::qb::qc::qd::qe::qf::qg::qh::qi::qj::qk::ql::qm::qn::qo::qp::qq::qr::qs::qt::qu::qv::qw::qx::qy::qz::qA::qB::qC::qD::qE::qF::qG::qH::qI::qJ::qK::qL::qM::qN::qO::qP::qQ::qR::qS::qT::qU::qV::qW::qX::qY::qZ::z0::z1::z2::z3::z4::z5::z6::z7::z8::z9::za::zb::zc::zd::ze::zf::zg::zh::zi::zj::zk::zl::zm::zn::zo::zp::zq::zr::zs::zt::zu::zv::zw::zx::zy::zz::zA::zB::zC::zD::zE::zF::zG::zH::zI::zJ::zK::zL::zM::zN::zO::zP::zQ::zR::zS::zT::zU::zV::zW::zX::zY::zZ::uu::y1::y2::y3::y4::y5::y6::[]),h⟩) :=
  (go_gdT0 rfl rfl rfl (by kernel_rfl)
  (st_bp (by kernel_rfl) fun v246 h247 =>
  (go_run0 rfl rfl rfl (by kernel_rfl) (st_bm (by kernel_rfl) fun v248 h249 =>
  (by kernel_rfl))))
  (go_skip0 rfl rfl rfl (by kernel_rfl)
  (by kernel_rfl))
  (by kernel_rfl))
theorem xm3_38 (s : Sys) (k wl : Nat) (m0 : Nat) (ac : List Nat × List Nat) (h : Hp) : opsP (xX s 3 wl k false) xg3_8 23 m0 ac (runK (xX s 3 wl k false) (bodyK s.P Try.f3) xk3_9) ⟨(t0::t1::t2::t3::t4::t5::t6::t7::t8::t9::ta::tb::tc::td::te::tf::tg::th::ti::tj::tk::tl::tm::tn::tp::tq::tr::ts::tt::tu::tv::tw::tx::ty::tz::tA::tB::tC::tD::tE::tF::tG::tH::tI::tJ::tK::tL::tM::tN::tO::tP::tQ::tR::tS::tT::tU::tV::tW::tX::tY::tZ::q0::q1::q2::q3::q4::q5::q6::q7::q8::q9::qa::qb::qc::qd::qe::qf::qg::qh::qi::qj::qk::ql::qm::qn::qo::qp::qq::qr::qs::qt::qu::qv::qw::qx::qy::qz::qA::qB::qC::qD::qE::qF::qG::qH::qI::qJ::qK::qL::qM::qN::qO::qP::qQ::qR::qS::qT::qU::qV::qW::qX::qY::qZ::z0::z1::z2::z3::z4::z5::z6::z7::z8::z9::za::zb::zc::zd::ze::zf::zg::zh::zi::zj::zk::zl::zm::zn::zo::zp::zq::zr::zs::zt::zu::zv::zw::zx::zy::zz::zA::zB::zC::zD::zE::zF::zG::zH::zI::zJ::zK::zL::zM::zN::zO::zP::zQ::zR::zS::zT::zU::zV::zW::zX::zY::zZ::y0::y1::y2::y3::y4::y5::y6::[]),h⟩ =
  gd zS (
  opsP (xX s 3 wl k false) xg3_8 24 m0 ac (runK (xX s 3 wl k false) (bodyK s.P Try.f3) xk3_9) ⟨(t0::t1::t2::t3::t4::t5::t6::t7::t8::t9::ta::tb::tc::td::te::tf::tg::th::ti::tj::tk::tl::tm::tn::tp::tq::tr::ts::tt::tu::tv::tw::tx::ty::tz::tA::tB::tC::tD::tE::tF::tG::tH::tI::tJ::tK::tL::tM::tN::tO::tP::tQ::tR::tS::tT::tU::tV::tW::tX::tY::tZ::q0::q1::q2::q3::q4::q5::q6::q7::q8::q9::qa::qb::qc::qd::qe::qf::qg::qh::qi::qj::qk::ql::qm::qn::qo::qp::qq::qr::qs::qt::qu::qv::qw::qx::qy::qz::qA::qB::qC::qD::qE::qF::qG::qH::qI::qJ::qK::qL::qM::qN::qO::qP::qQ::qR::qS::qT::qU::qV::qW::qX::qY::qZ::z0::z1::z2::z3::z4::z5::z6::z7::z8::z9::za::zb::zc::zd::ze::zf::zg::zh::zi::zj::zk::zl::zm::zn::zo::zp::zq::zr::zs::zt::zu::zv::zw::zx::zy::zz::zA::zB::zC::zD::zE::zF::zG::zH::zI::zJ::zK::zL::zM::zN::zO::zP::zQ::zR::(V.lit (Value.bool true))::zT::zU::zV::zV::zX::zY::zZ::y0::y1::y2::y3::y4::y5::y6::[]),h⟩) (
  opsP (xX s 3 wl k false) xg3_8 31 m0 ac (runK (xX s 3 wl k false) (bodyK s.P Try.f3) xk3_9) ⟨(t0::t1::t2::t3::t4::t5::t6::t7::t8::t9::ta::tb::tc::td::te::tf::tg::th::ti::tj::tk::tl::tm::tn::tp::tq::tr::ts::tt::tu::tv::tw::tx::ty::tz::tA::tB::tC::tD::tE::tF::tG::tH::tI::tJ::tK::tL::tM::tN::tO::tP::tQ::tR::tS::tT::tU::tV::tW::tX::tY::tZ::q0::q1::q2::q3::q4::q5::q6::q7::q8::q9::qa::qb::qc::qd::qe::qf::qg::qh::qi::qj::qk::ql::qm::qn::qo::qp::qq::qr::qs::qt::qu::qv::qw::qx::qy::qz::qA::qB::qC::qD::qE::qF::qG::qH::qI::qJ::qK::qL::qM::qN::qO::qP::qQ::qR::qS::qT::qU::qV::qW::qX::qY::qZ::z0::z1::z2::z3::z4::z5::z6::z7::z8::z9::za::zb::zc::zd::ze::zf::zg::zh::zi::zj::zk::zl::zm::zn::zo::zp::zq::zr::zs::zt::zu::zv::zw::zx::zy::zz::zA::zB::zC::zD::zE::zF::zG::zH::zI::zJ::zK::zL::zM::zN::zO::zP::zQ::zR::(V.lit (Value.bool false))::zT::zU::zV::uu::uu::uu::uu::uu::uu::uu::uu::y4::y5::y6::[]),h⟩) (
  opsP (xX s 3 wl k false) xg3_8 24 m0 ac (runK (xX s 3 wl k false) (bodyK s.P Try.f3) xk3_9) ⟨(t0::t1::t2::t3::t4::t5::t6::t7::t8::t9::ta::tb::tc::td::te::tf::tg::th::ti::tj::tk::tl::tm::tn::tp::tq::tr::ts::tt::tu::tv::tw::tx::ty::tz::tA::tB::tC::tD::tE::tF::tG::tH::tI::tJ::tK::tL::tM::tN::tO::tP::tQ::tR::tS::tT::tU::tV::tW::tX::tY::tZ::q0::q1::q2::q3::q4::q5::q6::q7::q8::q9::qa::qb::qc::qd::qe::qf::qg::qh::qi::qj::qk::ql::qm::qn::qo::qp::qq::qr::qs::qt::qu::qv::qw::qx::qy::qz::qA::qB::qC::qD::qE::qF::qG::qH::qI::qJ::qK::qL::qM::qN::qO::qP::qQ::qR::qS::qT::qU::qV::qW::qX::qY::qZ::z0::z1::z2::z3::z4::z5::z6::z7::z8::z9::za::zb::zc::zd::ze::zf::zg::zh::zi::zj::zk::zl::zm::zn::zo::zp::zq::zr::zs::zt::zu::zv::zw::zx::zy::zz::zA::zB::zC::zD::zE::zF::zG::zH::zI::zJ::zK::zL::zM::zN::zO::zP::zQ::zR::zS::zT::zU::zV::uu::zX::zY::zZ::y0::y1::y2::y3::y4::y5::y6::[]),h⟩) :=
  (go_gdT0 rfl rfl rfl (by kernel_rfl)
  (st_id (v := zV) (H := h) (by kernel_rfl)
  (by kernel_rfl))
  (go_none0 (x := #[]) rfl rfl rfl (by kernel_rfl)
  (go_none0 (x := #[]) rfl rfl rfl (by kernel_rfl)
  (go_none0 (x := #[]) rfl rfl rfl (by kernel_rfl)
  (go_none0 (x := #[]) rfl rfl rfl (by kernel_rfl)
  (go_none0 (x := #[]) rfl rfl rfl (by kernel_rfl)
  (go_none0 (x := #[]) rfl rfl rfl (by kernel_rfl)
  (go_skip0 rfl rfl rfl (by kernel_rfl)
  (by kernel_rfl))))))))
  (by kernel_rfl))
theorem xm3_39 (s : Sys) (k wl : Nat) (m0 : Nat) (ac : List Nat × List Nat) (h : Hp) : opsP (xX s 3 wl k false) xg3_8 28 m0 ac (runK (xX s 3 wl k false) (bodyK s.P Try.f3) xk3_9) ⟨(t0::t1::t2::t3::t4::t5::t6::t7::t8::t9::ta::tb::tc::td::te::tf::tg::th::ti::tj::tk::tl::tm::tn::tp::tq::tr::ts::tt::tu::tv::tw::tx::ty::tz::tA::tB::tC::tD::tE::tF::tG::tH::tI::tJ::tK::tL::tM::tN::tO::tP::tQ::tR::tS::tT::tU::tV::tW::tX::tY::tZ::q0::q1::q2::q3::q4::q5::q6::q7::q8::q9::qa::qb::qc::qd::qe::qf::qg::qh::qi::qj::qk::ql::qm::qn::qo::qp::qq::qr::qs::qt::qu::qv::qw::qx::qy::qz::qA::qB::qC::qD::qE::qF::qG::qH::qI::qJ::qK::qL::qM::qN::qO::qP::qQ::qR::qS::qT::qU::qV::qW::qX::qY::qZ::z0::z1::z2::z3::z4::z5::z6::z7::z8::z9::za::zb::zc::zd::ze::zf::zg::zh::zi::zj::zk::zl::zm::zn::zo::zp::zq::zr::zs::zt::zu::zv::zw::zx::zy::zz::zA::zB::zC::zD::zE::zF::zG::zH::zI::zJ::zK::zL::zM::zN::zO::zP::zQ::zR::zS::zT::zU::zV::zW::zX::zY::zZ::y0::y1::y2::y3::y4::y5::y6::[]),h⟩ =
  gd zY (
  bm (vBin s.P .eql 3 y0 (V.lit (Value.int .i64 1))) h fun v250 h251 =>
  opsP (xX s 3 wl k false) xg3_8 29 m0 ac (runK (xX s 3 wl k false) (bodyK s.P Try.f3) xk3_9) ⟨(t0::t1::t2::t3::t4::t5::t6::t7::t8::t9::ta::tb::tc::td::te::tf::tg::th::ti::tj::tk::tl::tm::tn::tp::tq::tr::ts::tt::tu::tv::tw::tx::ty::tz::tA::tB::tC::tD::tE::tF::tG::tH::tI::tJ::tK::tL::tM::tN::tO::tP::tQ::tR::tS::tT::tU::tV::tW::tX::tY::tZ::q0::q1::q2::q3::q4::q5::q6::q7::q8::q9::qa::qb::qc::qd::qe::qf::qg::qh::qi::qj::qk::ql::qm::qn::qo::qp::qq::qr::qs::qt::qu::qv::qw::qx::qy::qz::qA::qB::qC::qD::qE::qF::qG::qH::qI::qJ::qK::qL::qM::qN::qO::qP::qQ::qR::qS::qT::qU::qV::qW::qX::qY::qZ::z0::z1::z2::z3::z4::z5::z6::z7::z8::z9::za::zb::zc::zd::ze::zf::zg::zh::zi::zj::zk::zl::zm::zn::zo::zp::zq::zr::zs::zt::zu::zv::zw::zx::zy::zz::zA::zB::zC::zD::zE::zF::zG::zH::zI::zJ::zK::zL::zM::zN::zO::zP::zQ::zR::zS::zT::zU::zV::zW::zX::(V.lit (Value.bool true))::zZ::y0::v250::y2::y3::y4::y5::y6::[]),h251⟩) (
  opsP (xX s 3 wl k false) xg3_8 29 m0 ac (runK (xX s 3 wl k false) (bodyK s.P Try.f3) xk3_9) ⟨(t0::t1::t2::t3::t4::t5::t6::t7::t8::t9::ta::tb::tc::td::te::tf::tg::th::ti::tj::tk::tl::tm::tn::tp::tq::tr::ts::tt::tu::tv::tw::tx::ty::tz::tA::tB::tC::tD::tE::tF::tG::tH::tI::tJ::tK::tL::tM::tN::tO::tP::tQ::tR::tS::tT::tU::tV::tW::tX::tY::tZ::q0::q1::q2::q3::q4::q5::q6::q7::q8::q9::qa::qb::qc::qd::qe::qf::qg::qh::qi::qj::qk::ql::qm::qn::qo::qp::qq::qr::qs::qt::qu::qv::qw::qx::qy::qz::qA::qB::qC::qD::qE::qF::qG::qH::qI::qJ::qK::qL::qM::qN::qO::qP::qQ::qR::qS::qT::qU::qV::qW::qX::qY::qZ::z0::z1::z2::z3::z4::z5::z6::z7::z8::z9::za::zb::zc::zd::ze::zf::zg::zh::zi::zj::zk::zl::zm::zn::zo::zp::zq::zr::zs::zt::zu::zv::zw::zx::zy::zz::zA::zB::zC::zD::zE::zF::zG::zH::zI::zJ::zK::zL::zM::zN::zO::zP::zQ::zR::zS::zT::zU::zV::zW::zX::(V.lit (Value.bool false))::zZ::y0::uu::y2::y3::y4::y5::y6::[]),h⟩) (
  opsP (xX s 3 wl k false) xg3_8 29 m0 ac (runK (xX s 3 wl k false) (bodyK s.P Try.f3) xk3_9) ⟨(t0::t1::t2::t3::t4::t5::t6::t7::t8::t9::ta::tb::tc::td::te::tf::tg::th::ti::tj::tk::tl::tm::tn::tp::tq::tr::ts::tt::tu::tv::tw::tx::ty::tz::tA::tB::tC::tD::tE::tF::tG::tH::tI::tJ::tK::tL::tM::tN::tO::tP::tQ::tR::tS::tT::tU::tV::tW::tX::tY::tZ::q0::q1::q2::q3::q4::q5::q6::q7::q8::q9::qa::qb::qc::qd::qe::qf::qg::qh::qi::qj::qk::ql::qm::qn::qo::qp::qq::qr::qs::qt::qu::qv::qw::qx::qy::qz::qA::qB::qC::qD::qE::qF::qG::qH::qI::qJ::qK::qL::qM::qN::qO::qP::qQ::qR::qS::qT::qU::qV::qW::qX::qY::qZ::z0::z1::z2::z3::z4::z5::z6::z7::z8::z9::za::zb::zc::zd::ze::zf::zg::zh::zi::zj::zk::zl::zm::zn::zo::zp::zq::zr::zs::zt::zu::zv::zw::zx::zy::zz::zA::zB::zC::zD::zE::zF::zG::zH::zI::zJ::zK::zL::zM::zN::zO::zP::zQ::zR::zS::zT::zU::zV::zW::zX::zY::zZ::y0::uu::y2::y3::y4::y5::y6::[]),h⟩) :=
  (go_gdT0 rfl rfl rfl (by kernel_rfl)
  (st_bm (by kernel_rfl) fun v250 h251 =>
  (by kernel_rfl))
  (by kernel_rfl)
  (by kernel_rfl))
theorem xk3_0_ret (cx : Cx) (K : Out → St → Option (V × Hp)) (s : St) : runK cx K xk3_0 .ret s = K .ret s := by kernel_rfl
theorem xk3_1_ret (cx : Cx) (K : Out → St → Option (V × Hp)) (s : St) : runK cx K xk3_1 .ret s = K .ret s := by kernel_rfl
theorem xk3_2_ret (cx : Cx) (K : Out → St → Option (V × Hp)) (s : St) : runK cx K xk3_2 .ret s = K .ret s := by kernel_rfl
theorem xk3_3_ret (cx : Cx) (K : Out → St → Option (V × Hp)) (s : St) : runK cx K xk3_3 .ret s = K .ret s := by kernel_rfl
theorem xk3_4_ret (cx : Cx) (K : Out → St → Option (V × Hp)) (s : St) : runK cx K xk3_4 .ret s = K .ret s := by kernel_rfl
theorem xk3_5_ret (cx : Cx) (K : Out → St → Option (V × Hp)) (s : St) : runK cx K xk3_5 .ret s = K .ret s := by kernel_rfl
theorem xk3_6_ret (cx : Cx) (K : Out → St → Option (V × Hp)) (s : St) : runK cx K xk3_6 .ret s = K .ret s := by kernel_rfl
theorem xk3_7_ret (cx : Cx) (K : Out → St → Option (V × Hp)) (s : St) : runK cx K xk3_7 .ret s = K .ret s := by kernel_rfl
theorem xk3_8_ret (cx : Cx) (K : Out → St → Option (V × Hp)) (s : St) : runK cx K xk3_8 .ret s = K .ret s := by kernel_rfl
theorem xk3_9_ret (cx : Cx) (K : Out → St → Option (V × Hp)) (s : St) : runK cx K xk3_9 .ret s = K .ret s := by kernel_rfl
-- names: xb3,xz3,xm3_0,xm3_1,xm3_2,xm3_3,xr3_0,xj3_4,xj3_5,xm3_6,xm3_7,xm3_8,xm3_9,xm3_10,xm3_11,xm3_12,xm3_13,xm3_14,xm3_15,xm3_16,xm3_17,xm3_18,xm3_19,xm3_20,xm3_21,xm3_22,xm3_23,xm3_24,xm3_25,xm3_26,xm3_27,xm3_28,xm3_29,xm3_30,xm3_31,xm3_32,xm3_33,xm3_34,xm3_35,xm3_36,xm3_37,xm3_38,xm3_39,xk3_0_ret,xk3_1_ret,xk3_2_ret,xk3_3_ret,xk3_4_ret,xk3_5_ret,xk3_6_ret,xk3_7_ret,xk3_8_ret,xk3_9_ret
end Go.Ab
