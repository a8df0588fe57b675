/- The program's code,point by point: printed by gen.py. -/
import Derived.Test.YtcmdnjaenhbdpaaGreatR5Seat
import Derived.Test.YtcmdnjaenhbdpaaGreatAbLibC
set_option linter.unusedVariables false
set_option linter.unusedSimpArgs false
set_option maxRecDepth 100000
set_option linter.unusedVariables false
namespace Go.Ab
open Go.Proofs
variable (s : Sys) (k wl : Nat) (m0 : Nat) (ac : List Nat × List Nat) (t0 t1 t2 t3 t4 t5 t6 t7 t8 t9 ta tb tc td te tf tg th ti tj tk tl tm tn tp tq tr ts tt tu tv tw tx ty tz tA tB tC tD tE tF tG tH tI tJ tK tL tM tN tO tP tQ tR tS tT tU tV tW tX tY tZ q0 q1 q2 q3 q4 q5 q6 q7 q8 q9 qa qb qc qd qe qf qg qh qi qj qk ql qm qn qo qp qq qr qs qt qu qv qw qx qy qz qA qB qC qD qE qF qG qH qJ qK qL qN qO qP qQ : V)
noncomputable def xg3_0 : Code := codeAt (bodyOf Tryz.f3) [1,1,1,0,0]
noncomputable def xk3_0 : List Fr := [.seq (codeAt (bodyOf Tryz.f3) [1,1,1,0,1]),.seq (codeAt (bodyOf Tryz.f3) [1,1,1,1])]
noncomputable def xg3_1 : Code := codeAt (bodyOf Tryz.f3) [1,1,1,1,1,0,0]
noncomputable def xk3_1 : List Fr := [.seq (codeAt (bodyOf Tryz.f3) [1,1,1,1,1,0,1]),.seq (codeAt (bodyOf Tryz.f3) [1,1,1,1,1,1])]
noncomputable def xl3_0 : Code := codeAt (bodyOf Tryz.f3) [1,1,1,1,1,1,1,0,1,0,0]
noncomputable def xk3_2 : List Fr := [.block 0,.seq (codeAt (bodyOf Tryz.f3) [1,1,1,1,1,1,1,1])]
noncomputable def xg3_2 : Code := codeAt (bodyOf Tryz.f3) [1,1,1,1,1,1,1,0,1,0,0,1,0,0,0]
noncomputable def xk3_3 : List Fr := [.block 1,.seq (codeAt (bodyOf Tryz.f3) [1,1,1,1,1,1,1,0,1,0,0,1,1])]
noncomputable def xg3_3 : Code := codeAt (bodyOf Tryz.f3) [1,1,1,1,1,1,1,1,1,0]
noncomputable def xk3_4 : List Fr := [.seq (codeAt (bodyOf Tryz.f3) [1,1,1,1,1,1,1,1,1,1])]
theorem xo3_12 : orderIx (opsOf xg3_2) = [0,1,2,3,4,5,6,7,8] := by kernel_rfl
theorem xo3_12a : (rgOf (opsOf xg3_2)).any = false := by kernel_rfl
theorem xo3_12r : regOk (opsOf xg3_2) = true := by kernel_rfl
theorem xb3 (h : Hp) : bodyV (xX s 3 wl k false) Tryz.f3 [t0,t1,t2,t3,t4,t5] h =
  bp (opBox t0 h) fun v1 h2 =>
  bp (opBox t4 h2) fun v3 h4 =>
  bp (callV (xX s 3 wl k false) false true (.fn (.func 8) [] []) [] h4) fun v5 h6 =>
  bm (vLoad s.P 32 v3 h6) h6 fun v7 h8 =>
  bp (callV (xX s 3 wl k false) false true (.fn (.func 9) [] []) [t1,v7] h8) fun v9 h10 =>
  bm (vUn .not v5) h10 fun v11 h12 =>
  gd v11 (
  opsP (xX s 3 wl k false) xg3_0 5 h10.length ([],[]) (runK (xX s 3 wl k false) (bodyK s.P Tryz.f3) xk3_0) ⟨(t0::t1::t2::t3::t4::t5::v1::uu::uu::uu::v3::uu::(V.lit (Value.bool false))::v5::v9::uu::uu::uu::uu::uu::uu::v5::t1::v7::v9::v5::v11::(V.lit (Value.bool true))::uu::uu::uu::uu::uu::uu::uu::uu::uu::uu::uu::uu::uu::uu::uu::uu::uu::uu::uu::uu::uu::uu::uu::uu::uu::uu::uu::uu::uu::uu::uu::uu::uu::uu::uu::uu::uu::uu::uu::uu::uu::uu::uu::uu::uu::uu::uu::uu::uu::uu::uu::uu::uu::uu::uu::uu::uu::uu::uu::uu::uu::uu::uu::uu::uu::uu::uu::uu::uu::uu::uu::uu::uu::uu::uu::uu::uu::uu::uu::uu::uu::uu::uu::uu::[]),h12⟩) (
  bm (vUn .not v9) h12 fun v13 h14 =>
  opsP (xX s 3 wl k false) xg3_0 5 h10.length ([],[]) (runK (xX s 3 wl k false) (bodyK s.P Tryz.f3) xk3_0) ⟨(t0::t1::t2::t3::t4::t5::v1::uu::uu::uu::v3::uu::(V.lit (Value.bool false))::v5::v9::uu::uu::uu::uu::uu::uu::v5::t1::v7::v9::v5::v11::(V.lit (Value.bool false))::v9::v13::uu::uu::uu::uu::uu::uu::uu::uu::uu::uu::uu::uu::uu::uu::uu::uu::uu::uu::uu::uu::uu::uu::uu::uu::uu::uu::uu::uu::uu::uu::uu::uu::uu::uu::uu::uu::uu::uu::uu::uu::uu::uu::uu::uu::uu::uu::uu::uu::uu::uu::uu::uu::uu::uu::uu::uu::uu::uu::uu::uu::uu::uu::uu::uu::uu::uu::uu::uu::uu::uu::uu::uu::uu::uu::uu::uu::uu::uu::uu::uu::uu::uu::[]),h14⟩) (
  opsP (xX s 3 wl k false) xg3_0 4 h10.length ([],[]) (runK (xX s 3 wl k false) (bodyK s.P Tryz.f3) xk3_0) ⟨(t0::t1::t2::t3::t4::t5::v1::uu::uu::uu::v3::uu::(V.lit (Value.bool false))::v5::v9::uu::uu::uu::uu::uu::uu::v5::t1::v7::v9::v5::v11::v11::uu::uu::uu::uu::uu::uu::uu::uu::uu::uu::uu::uu::uu::uu::uu::uu::uu::uu::uu::uu::uu::uu::uu::uu::uu::uu::uu::uu::uu::uu::uu::uu::uu::uu::uu::uu::uu::uu::uu::uu::uu::uu::uu::uu::uu::uu::uu::uu::uu::uu::uu::uu::uu::uu::uu::uu::uu::uu::uu::uu::uu::uu::uu::uu::uu::uu::uu::uu::uu::uu::uu::uu::uu::uu::uu::uu::uu::uu::uu::uu::uu::uu::uu::uu::[]),h12⟩) :=
  bodyV_run rfl (go_seq (go_reg0
  (pP fun v1 h2 =>
  (pP fun v3 h4 =>
  (go_op0 rfl rfl (st_id (v := (V.lit (Value.bool false))) (H := h4) (by kernel_rfl)
  (eN
  (go_seq (go_reg0
  (pP fun v5 h6 =>
  (pI v5 h6
  (eN
  (go_seq (go_reg0
  (pI t1 h6
  (pM fun v7 h8 =>
  (pP fun v9 h10 =>
  (pI v9 h10
  (eN
  (go_seq (go_seq (go_reg0
  (pI v5 h10
  (pM fun v11 h12 =>
  (pI v11 h12
  (go_gdF0 rfl rfl rfl (by kernel_rfl)
  (sK
  (by kernel_rfl))
  (st_id (v := v9) (H := h12) (by kernel_rfl)
  (rN (st_bm (by kernel_rfl) fun v13 h14 =>
  (by kernel_rfl))))
  (by kernel_rfl)))))))))))))))))))))))))))
theorem xe3 (k wl : Nat) (h : Hp) : evF Tryz.prog xM (k + 1) wl 3 [t0,t1,t2,t3,t4,t5] h = bodyV (xX (xS k) 3 wl k false) Tryz.f3 [t0,t1,t2,t3,t4,t5] h := by kernel_rfl
theorem xz3 (P : Program) (h : Hp) : bodyK P Tryz.f3 .ret ⟨(t0::t1::t2::t3::t4::t5::t6::t7::t8::t9::ta::tb::tc::td::te::tf::tg::th::ti::tj::tk::tl::tm::tn::tp::tq::tr::ts::tt::tu::tv::tw::tx::ty::tz::tA::tB::tC::tD::tE::tF::tG::tH::tI::tJ::tK::tL::tM::tN::tO::tP::tQ::tR::tS::tT::tU::tV::tW::tX::tY::tZ::q0::q1::q2::q3::q4::q5::q6::q7::q8::q9::qa::qb::qc::qd::qe::qf::qg::qh::qi::qj::qk::ql::qm::qn::qo::qp::qq::qr::qs::qt::qu::qv::qw::qx::qy::qz::qA::qB::qC::qD::qE::qF::qG::qH::qJ::qK::qL::qN::qO::qP::qQ::[]),h⟩ = some (tc,h) := by kernel_rfl
theorem xm3_0 (zz : List V) (h : Hp) : opsP (xX s 3 wl k false) xg3_0 5 m0 ac (runK (xX s 3 wl k false) (bodyK s.P Tryz.f3) xk3_0) ⟨(t0::t1::t2::t3::t4::t5::t6::t7::t8::t9::ta::tb::tc::td::te::tf::tg::th::ti::tj::tk::tl::tm::tn::tp::tq::tr::ts::tt::tu::tv::tw::tx::ty::tz::zz),h⟩ =
  bm (vPick ts (V.lit (Value.bool true)) tu) h fun v15 h16 =>
  gd v15 (
  opsP (xX s 3 wl k false) xg3_0 10 m0 ac (runK (xX s 3 wl k false) (bodyK s.P Tryz.f3) xk3_0) ⟨(t0::t1::t2::t3::t4::t5::t6::t7::t8::t9::ta::tb::tc::td::te::tf::tg::th::ti::tj::tk::tl::tm::tn::tp::tq::tr::ts::tt::tu::v15::(V.lit (Value.bool true))::uu::uu::uu::zz),h16⟩) (
  bp (opLen s.P 26 t2 h16) fun v17 h18 =>
  bm (vBin s.P .gtr 3 v17 (V.lit (Value.int .i64 500))) h18 fun v19 h20 =>
  opsP (xX s 3 wl k false) xg3_0 10 m0 ac (runK (xX s 3 wl k false) (bodyK s.P Tryz.f3) xk3_0) ⟨(t0::t1::t2::t3::t4::t5::t6::t7::t8::t9::ta::tb::tc::td::te::tf::tg::th::ti::tj::tk::tl::tm::tn::tp::tq::tr::ts::tt::tu::v15::(V.lit (Value.bool false))::t2::v17::v19::zz),h20⟩) (
  opsP (xX s 3 wl k false) xg3_0 8 m0 ac (runK (xX s 3 wl k false) (bodyK s.P Tryz.f3) xk3_0) ⟨(t0::t1::t2::t3::t4::t5::t6::t7::t8::t9::ta::tb::tc::td::te::tf::tg::th::ti::tj::tk::tl::tm::tn::tp::tq::tr::ts::tt::tu::v15::v15::uu::ty::tz::zz),h16⟩) :=
  (pM fun v15 h16 =>
  (pI v15 h16
  (go_gdF0 rfl rfl rfl (by kernel_rfl)
  (sK
  (sK
  (by kernel_rfl)))
  (st_id (v := t2) (H := h16) (by kernel_rfl)
  (rN (st_bp (by kernel_rfl) fun v17 h18 =>
  (rN (st_bm (by kernel_rfl) fun v19 h20 =>
  (by kernel_rfl))))))
  (by kernel_rfl))))
theorem xm3_1 (zz : List V) (h : Hp) : opsP (xX s 3 wl k false) xg3_0 10 m0 ac (runK (xX s 3 wl k false) (bodyK s.P Tryz.f3) xk3_0) ⟨(t0::t1::t2::t3::t4::t5::t6::t7::t8::t9::ta::tb::tc::td::te::tf::tg::th::ti::tj::tk::tl::tm::tn::tp::tq::tr::ts::tt::tu::tv::tw::tx::ty::tz::tA::tB::tC::tD::tE::tF::tG::tH::tI::tJ::tK::tL::tM::tN::tO::tP::tQ::tR::tS::tT::tU::tV::zz),h⟩ =
  bm (vPick tw (V.lit (Value.bool true)) tz) h fun v21 h22 =>
  cnd v21 (
  some (td,h22)) (
  bm (vLoad s.P 23 t6 h22) h22 fun v23 h24 =>
  bm (vLoad s.P 32 ta h24) h24 fun v25 h26 =>
  bp (callV (xX s 3 wl k false) false true (.fn (.func 10) [] []) [v23,t1,t2,t3,v25,t5] h26) fun v27 h28 =>
  bm (vExtract v27 0) h28 fun v29 h30 =>
  bm (vExtract v27 1) h30 fun v31 h32 =>
  bm (vExtract v27 2) h32 fun v33 h34 =>
  bp (opAlloc s.P 32 h34) fun v35 h36 =>
  bs (vStore s.P wl 32 v35 v31 h36) fun h37 =>
  bp (opLen s.P 26 v29 h37) fun v38 h39 =>
  bp (opLen s.P 26 t2 h39) fun v40 h41 =>
  bm (vBin s.P .neq 3 v38 v40) h41 fun v42 h43 =>
  gd v42 (
  opsP (xX s 3 wl k false) xg3_1 9 h37.length ([],[]) (runK (xX s 3 wl k false) (bodyK s.P Tryz.f3) xk3_1) ⟨(t0::t1::t2::t3::t4::t5::t6::t7::t8::t9::ta::tb::tc::td::te::v29::v35::v33::ti::tj::tk::tl::tm::tn::tp::tq::tr::ts::tt::tu::tv::tw::tx::ty::tz::v21::tB::v27::v23::t1::t2::t3::v25::t5::v27::v29::v31::v33::v29::v38::t2::v40::v42::(V.lit (Value.bool true))::uu::uu::uu::zz),h43⟩) (
  bp (opLen s.P 35 v33 h43) fun v44 h45 =>
  bm (vBin s.P .gtr 3 v44 (V.lit (Value.int .i64 2))) h45 fun v46 h47 =>
  opsP (xX s 3 wl k false) xg3_1 9 h37.length ([],[]) (runK (xX s 3 wl k false) (bodyK s.P Tryz.f3) xk3_1) ⟨(t0::t1::t2::t3::t4::t5::t6::t7::t8::t9::ta::tb::tc::td::te::v29::v35::v33::ti::tj::tk::tl::tm::tn::tp::tq::tr::ts::tt::tu::tv::tw::tx::ty::tz::v21::tB::v27::v23::t1::t2::t3::v25::t5::v27::v29::v31::v33::v29::v38::t2::v40::v42::(V.lit (Value.bool false))::v33::v44::v46::zz),h47⟩) (
  opsP (xX s 3 wl k false) xg3_1 7 h37.length ([],[]) (runK (xX s 3 wl k false) (bodyK s.P Tryz.f3) xk3_1) ⟨(t0::t1::t2::t3::t4::t5::t6::t7::t8::t9::ta::tb::tc::td::te::v29::v35::v33::ti::tj::tk::tl::tm::tn::tp::tq::tr::ts::tt::tu::tv::tw::tx::ty::tz::v21::tB::v27::v23::t1::t2::t3::v25::t5::v27::v29::v31::v33::v29::v38::t2::v40::v42::v42::uu::tU::tV::zz),h43⟩)) :=
  (pM fun v21 h22 =>
  (eN
  (go_cond (by kernel_rfl)
  (go_seq (go_reg0
  (pI td h22
  (pI td h22
  (eN
  (go_ret (rt_seq_ret (by kernel_rfl))))))))
  (go_skip (go_seq (go_reg0
  (pM fun v23 h24 =>
  (pI t1 h24
  (pI t2 h24
  (pI t3 h24
  (pM fun v25 h26 =>
  (pI t5 h26
  (pP fun v27 h28 =>
  (pI v27 h28
  (pM fun v29 h30 =>
  (pM fun v31 h32 =>
  (pM fun v33 h34 =>
  (pP fun v35 h36 =>
  (pI v29 h36
  (pS fun h37 =>
  (pI v33 h37
  (eN
  (go_seq (go_seq (go_reg0
  (pI v29 h37
  (pP fun v38 h39 =>
  (pI t2 h39
  (pP fun v40 h41 =>
  (pM fun v42 h43 =>
  (pI v42 h43
  (go_gdF0 rfl rfl rfl (by kernel_rfl)
  (sK
  (sK
  (by kernel_rfl)))
  (st_id (v := v33) (H := h43) (by kernel_rfl)
  (rN (st_bp (by kernel_rfl) fun v44 h45 =>
  (rN (st_bm (by kernel_rfl) fun v46 h47 =>
  (by kernel_rfl))))))
  (by kernel_rfl)))))))))))))))))))))))))))))))))
theorem xm3_2 (h : Hp) : opsP (xX s 3 wl k false) xg3_1 9 m0 ac (runK (xX s 3 wl k false) (bodyK s.P Tryz.f3) xk3_1) ⟨(t0::t1::t2::t3::t4::t5::t6::t7::t8::t9::ta::tb::tc::td::te::tf::tg::th::ti::tj::tk::tl::tm::tn::tp::tq::tr::ts::tt::tu::tv::tw::tx::ty::tz::tA::tB::tC::tD::tE::tF::tG::tH::tI::tJ::tK::tL::tM::tN::tO::tP::tQ::tR::tS::tT::tU::tV::tW::tX::tY::tZ::q0::q1::q2::q3::q4::q5::q6::q7::q8::q9::qa::qb::qc::qd::qe::qf::qg::qh::qi::qj::qk::ql::qm::qn::qo::qp::qq::qr::qs::qt::qu::qv::qw::qx::qy::qz::qA::qB::qC::qD::qE::qF::qG::qH::qJ::qK::qL::qN::qO::qP::qQ::[]),h⟩ =
  bm (vPick tS (V.lit (Value.bool true)) tV) h fun v48 h49 =>
  cnd v48 (
  some ((V.lit (Value.bool false)),h49)) (
  itX (xX s 3 wl k false) xl3_0 h49.length (runK (xX s 3 wl k false) (bodyK s.P Tryz.f3) xk3_2) k ⟨((V.kill h49.length t0)::(V.kill h49.length t1)::(V.kill h49.length t2)::(V.kill h49.length t3)::(V.kill h49.length t4)::(V.kill h49.length t5)::(V.kill h49.length t6)::(V.kill h49.length t7)::(V.kill h49.length t8)::(V.kill h49.length t9)::(V.kill h49.length ta)::(V.kill h49.length tb)::(V.kill h49.length tc)::(V.kill h49.length td)::(V.kill h49.length te)::(V.kill h49.length tf)::(V.kill h49.length tg)::(V.kill h49.length th)::(V.lit (Value.int .i64 0))::(V.lit (Value.int .i64 0))::(V.kill h49.length tk)::(V.kill h49.length tl)::(V.kill h49.length tm)::(V.kill h49.length tn)::(V.kill h49.length tp)::(V.kill h49.length tq)::(V.kill h49.length tr)::(V.kill h49.length ts)::(V.kill h49.length tt)::(V.kill h49.length tu)::(V.kill h49.length tv)::(V.kill h49.length tw)::(V.kill h49.length tx)::(V.kill h49.length ty)::(V.kill h49.length tz)::(V.kill h49.length tA)::(V.kill h49.length tB)::(V.kill h49.length tC)::(V.kill h49.length tD)::(V.kill h49.length tE)::(V.kill h49.length tF)::(V.kill h49.length tG)::(V.kill h49.length tH)::(V.kill h49.length tI)::(V.kill h49.length tJ)::(V.kill h49.length tK)::(V.kill h49.length tL)::(V.kill h49.length tM)::(V.kill h49.length tN)::(V.kill h49.length tO)::(V.kill h49.length tP)::(V.kill h49.length tQ)::(V.kill h49.length tR)::(V.kill h49.length tS)::(V.kill h49.length tT)::(V.kill h49.length tU)::(V.kill h49.length tV)::(V.kill h49.length v48)::.junk::.junk::.junk::.junk::.junk::.junk::.junk::.junk::.junk::.junk::.junk::.junk::.junk::.junk::.junk::.junk::.junk::(V.kill h49.length qe)::(V.kill h49.length qf)::(V.kill h49.length qg)::(V.kill h49.length qh)::(V.kill h49.length qi)::(V.kill h49.length qj)::(V.kill h49.length qk)::(V.kill h49.length ql)::(V.kill h49.length qm)::(V.kill h49.length qn)::(V.kill h49.length qo)::(V.kill h49.length qp)::(V.kill h49.length qq)::(V.kill h49.length qr)::(V.kill h49.length qs)::(V.kill h49.length qt)::(V.kill h49.length qu)::(V.kill h49.length qv)::(V.kill h49.length qw)::(V.kill h49.length qx)::(V.kill h49.length qy)::(V.kill h49.length qz)::(V.kill h49.length qA)::(V.kill h49.length qB)::(V.kill h49.length qC)::(V.kill h49.length qD)::(V.kill h49.length qE)::(V.kill h49.length qF)::(V.kill h49.length qG)::(V.kill h49.length qH)::(V.kill h49.length qJ)::(V.kill h49.length qK)::(V.kill h49.length qL)::(V.kill h49.length qN)::(V.kill h49.length qO)::(V.kill h49.length qP)::(V.kill h49.length qQ)::[]),cutH h49.length h49⟩) :=
  (pM fun v48 h49 =>
  (eN
  (go_cond (by kernel_rfl)
  (go_seq (go_reg0
  (go_op0 rfl rfl (st_id (v := (V.lit (Value.bool false))) (H := h49) (by kernel_rfl)
  (eN
  (go_ret (rt_seq_ret (by kernel_rfl))))))))
  (go_skip (go_seq (go_reg0
  (go_op0 rfl rfl (st_id (v := (V.lit (Value.int .i64 0))) (H := h49) (by kernel_rfl)
  (eN
  (go_seq (go_seq (go_reg0
  (go_op0 rfl rfl (st_id (v := (V.lit (Value.int .i64 0))) (H := h49) (by kernel_rfl)
  (eN
  (go_block (by kernel_rfl)))))))))))))))))
theorem xr3_0 (s : Sys) (K : Out → St → Option (V × Hp)) (k wl : Nat) (rd : Bool) (n n0 : Nat) (h : Hp) : itX (xX s 3 wl k rd) xl3_0 n0 K (n + 1) ⟨(t0::t1::t2::t3::t4::t5::t6::t7::t8::t9::ta::tb::tc::td::te::tf::tg::th::ti::tj::tk::tl::tm::tn::tp::tq::tr::ts::tt::tu::tv::tw::tx::ty::tz::tA::tB::tC::tD::tE::tF::tG::tH::tI::tJ::tK::tL::tM::tN::tO::tP::tQ::tR::tS::tT::tU::tV::tW::tX::tY::tZ::q0::q1::q2::q3::q4::q5::q6::q7::q8::q9::qa::qb::qc::qd::qe::qf::qg::qh::qi::qj::qk::ql::qm::qn::qo::qp::qq::qr::qs::qt::qu::qv::qw::qx::qy::qz::qA::qB::qC::qD::qE::qF::qG::qH::qJ::qK::qL::qN::qO::qP::qQ::[]),h⟩ =
  bp (opLen s.P 26 t2 h) fun v50 h51 =>
  bm (vBin s.P .lss 3 tj v50) h51 fun v52 h53 =>
  cnd v52 (
  bm (vIndexAddr s.P 26 tf tj h53) h53 fun v54 h55 =>
  bm (vLoad s.P 28 v54 h55) h55 fun v56 h57 =>
  bm (vIndexAddr s.P 26 t2 tj h57) h57 fun v58 h59 =>
  bm (vLoad s.P 28 v58 h59) h59 fun v60 h61 =>
  bm (vBin s.P .neq 28 v56 v60) h61 fun v62 h63 =>
  cnd v62 (
  bm (vBin s.P .add 3 ti (V.lit (Value.int .i64 1))) h63 fun v64 h65 =>
  runK (xX s 3 wl k rd) (nextK (xX s 3 wl k rd) xl3_0 n0 K n) xk3_3 .norm ⟨(t0::t1::t2::t3::t4::t5::t6::t7::t8::t9::ta::tb::tc::td::te::tf::tg::th::v64::tj::tk::tl::tm::tn::tp::tq::tr::ts::tt::tu::tv::tw::tx::ty::tz::tA::tB::tC::tD::tE::tF::tG::tH::tI::tJ::tK::tL::tM::tN::tO::tP::tQ::tR::tS::tT::tU::tV::tW::tj::t2::v50::v52::q1::q2::tf::tj::v54::v56::t2::tj::v58::v60::v62::ti::v64::qe::qf::qg::qh::qi::qj::qk::ql::qm::qn::qo::qp::qq::qr::qs::qt::qu::qv::qw::qx::qy::qz::qA::qB::qC::qD::qE::qF::qG::qH::qJ::qK::qL::qN::qO::qP::qQ::[]),h65⟩) (
  runK (xX s 3 wl k rd) (nextK (xX s 3 wl k rd) xl3_0 n0 K n) xk3_3 .norm ⟨(t0::t1::t2::t3::t4::t5::t6::t7::t8::t9::ta::tb::tc::td::te::tf::tg::th::ti::tj::tk::tl::tm::tn::tp::tq::tr::ts::tt::tu::tv::tw::tx::ty::tz::tA::tB::tC::tD::tE::tF::tG::tH::tI::tJ::tK::tL::tM::tN::tO::tP::tQ::tR::tS::tT::tU::tV::tW::tj::t2::v50::v52::q1::q2::tf::tj::v54::v56::t2::tj::v58::v60::v62::qc::qd::qe::qf::qg::qh::qi::qj::qk::ql::qm::qn::qo::qp::qq::qr::qs::qt::qu::qv::qw::qx::qy::qz::qA::qB::qC::qD::qE::qF::qG::qH::qJ::qK::qL::qN::qO::qP::qQ::[]),h63⟩)) (
  K (.exit 0) ⟨((V.kill n0 t0)::(V.kill n0 t1)::(V.kill n0 t2)::(V.kill n0 t3)::(V.kill n0 t4)::(V.kill n0 t5)::(V.kill n0 t6)::(V.kill n0 t7)::(V.kill n0 t8)::(V.kill n0 t9)::(V.kill n0 ta)::(V.kill n0 tb)::(V.kill n0 tc)::(V.kill n0 td)::(V.kill n0 te)::(V.kill n0 tf)::(V.kill n0 tg)::(V.kill n0 th)::(V.kill n0 ti)::(V.kill n0 tj)::(V.kill n0 tk)::(V.kill n0 tl)::(V.kill n0 tm)::(V.kill n0 tn)::(V.kill n0 tp)::(V.kill n0 tq)::(V.kill n0 tr)::(V.kill n0 ts)::(V.kill n0 tt)::(V.kill n0 tu)::(V.kill n0 tv)::(V.kill n0 tw)::(V.kill n0 tx)::(V.kill n0 ty)::(V.kill n0 tz)::(V.kill n0 tA)::(V.kill n0 tB)::(V.kill n0 tC)::(V.kill n0 tD)::(V.kill n0 tE)::(V.kill n0 tF)::(V.kill n0 tG)::(V.kill n0 tH)::(V.kill n0 tI)::(V.kill n0 tJ)::(V.kill n0 tK)::(V.kill n0 tL)::(V.kill n0 tM)::(V.kill n0 tN)::(V.kill n0 tO)::(V.kill n0 tP)::(V.kill n0 tQ)::(V.kill n0 tR)::(V.kill n0 tS)::(V.kill n0 tT)::(V.kill n0 tU)::(V.kill n0 tV)::(V.kill n0 tW)::.junk::.junk::.junk::.junk::.junk::.junk::.junk::.junk::.junk::.junk::.junk::.junk::.junk::.junk::.junk::.junk::.junk::(V.kill n0 qe)::(V.kill n0 qf)::(V.kill n0 qg)::(V.kill n0 qh)::(V.kill n0 qi)::(V.kill n0 qj)::(V.kill n0 qk)::(V.kill n0 ql)::(V.kill n0 qm)::(V.kill n0 qn)::(V.kill n0 qo)::(V.kill n0 qp)::(V.kill n0 qq)::(V.kill n0 qr)::(V.kill n0 qs)::(V.kill n0 qt)::(V.kill n0 qu)::(V.kill n0 qv)::(V.kill n0 qw)::(V.kill n0 qx)::(V.kill n0 qy)::(V.kill n0 qz)::(V.kill n0 qA)::(V.kill n0 qB)::(V.kill n0 qC)::(V.kill n0 qD)::(V.kill n0 qE)::(V.kill n0 qF)::(V.kill n0 qG)::(V.kill n0 qH)::(V.kill n0 qJ)::(V.kill n0 qK)::(V.kill n0 qL)::(V.kill n0 qN)::(V.kill n0 qO)::(V.kill n0 qP)::(V.kill n0 qQ)::[]),cutH n0 h53⟩) :=
  itX_step (go_seq (go_seq (go_reg0
  (pI tj h
  (pI t2 h
  (pP fun v50 h51 =>
  (pM fun v52 h53 =>
  (eN
  (go_cond (by kernel_rfl)
  (go_skip (go_seq (go_block (go_seq (go_reg1 xo3_12r
  (qI xo3_12 xo3_12a tf h53
  (qI xo3_12 xo3_12a tj h53
  (qM xo3_12 xo3_12a fun v54 h55 =>
  (qM xo3_12 xo3_12a fun v56 h57 =>
  (qI xo3_12 xo3_12a t2 h57
  (qI xo3_12 xo3_12a tj h57
  (qM xo3_12 xo3_12a fun v58 h59 =>
  (qM xo3_12 xo3_12a fun v60 h61 =>
  (qM xo3_12 xo3_12a fun v62 h63 =>
  (go_end1 xo3_12 (by kernel_rfl) xo3_12a
  (go_cond (by kernel_rfl)
  (go_reg0
  (pI ti h63
  (pM fun v64 h65 =>
  (pI v64 h65
  (eN
  (by kernel_rfl))))))
  (go_skip (by kernel_rfl))))))))))))))))))
  (go_exit (rt_seq_exit (by kernel_rfl))))))))))))
theorem xj3_3 (h : Hp) : runK (xX s 3 wl k false) (bodyK s.P Tryz.f3) xk3_2 (.exit 0) ⟨(t0::t1::t2::t3::t4::t5::t6::t7::t8::t9::ta::tb::tc::td::te::tf::tg::th::ti::tj::tk::tl::tm::tn::tp::tq::tr::ts::tt::tu::tv::tw::tx::ty::tz::tA::tB::tC::tD::tE::tF::tG::tH::tI::tJ::tK::tL::tM::tN::tO::tP::tQ::tR::tS::tT::tU::tV::tW::tX::tY::tZ::q0::q1::q2::q3::q4::q5::q6::q7::q8::q9::qa::qb::qc::qd::qe::qf::qg::qh::qi::qj::qk::ql::qm::qn::qo::qp::qq::qr::qs::qt::qu::qv::qw::qx::qy::qz::qA::qB::qC::qD::qE::qF::qG::qH::qJ::qK::qL::qN::qO::qP::qQ::[]),h⟩ =
  bm (vLoad s.P 23 t6 h) h fun v66 h67 =>
  bm (vLoad s.P 32 ta h67) h67 fun v68 h69 =>
  bp (callV (xX s 3 wl k false) false true (.fn (.func 11) [] []) [v66,t1,t2,t3,v68] h69) fun v70 h71 =>
  bm (vBin s.P .leq 3 ti (V.lit (Value.int .i64 1))) h71 fun v72 h73 =>
  gd v72 (
  opsP (xX s 3 wl k false) xg3_3 5 h71.length ([],[]) (runK (xX s 3 wl k false) (bodyK s.P Tryz.f3) xk3_4) ⟨(t0::t1::t2::t3::t4::t5::t6::t7::t8::t9::ta::tb::tc::td::te::tf::tg::th::ti::tj::v70::tl::tm::tn::tp::tq::tr::ts::tt::tu::tv::tw::tx::ty::tz::tA::tB::tC::tD::tE::tF::tG::tH::tI::tJ::tK::tL::tM::tN::tO::tP::tQ::tR::tS::tT::tU::tV::tW::tX::tY::tZ::q0::q1::q2::q3::q4::q5::q6::q7::q8::q9::qa::qb::qc::qd::v66::t1::t2::t3::v68::v70::ti::v72::(V.lit (Value.bool true))::v70::v70::qp::qq::qr::qs::qt::qu::qv::qw::qx::qy::qz::qA::qB::qC::qD::qE::qF::qG::qH::qJ::qK::qL::qN::qO::qP::qQ::[]),h73⟩) (
  opsP (xX s 3 wl k false) xg3_3 30 h71.length ([],[]) (runK (xX s 3 wl k false) (bodyK s.P Tryz.f3) xk3_4) ⟨(t0::t1::t2::t3::t4::t5::t6::t7::t8::t9::ta::tb::tc::td::te::tf::tg::th::ti::tj::v70::tl::tm::tn::tp::tq::tr::ts::tt::tu::tv::tw::tx::ty::tz::tA::tB::tC::tD::tE::tF::tG::tH::tI::tJ::tK::tL::tM::tN::tO::tP::tQ::tR::tS::tT::tU::tV::tW::tX::tY::tZ::q0::q1::q2::q3::q4::q5::q6::q7::q8::q9::qa::qb::qc::qd::v66::t1::t2::t3::v68::v70::ti::v72::(V.lit (Value.bool false))::uu::uu::uu::uu::uu::uu::uu::uu::uu::uu::uu::uu::uu::uu::uu::uu::uu::uu::uu::uu::uu::uu::uu::uu::uu::uu::uu::qQ::[]),h73⟩) (
  opsP (xX s 3 wl k false) xg3_3 4 h71.length ([],[]) (runK (xX s 3 wl k false) (bodyK s.P Tryz.f3) xk3_4) ⟨(t0::t1::t2::t3::t4::t5::t6::t7::t8::t9::ta::tb::tc::td::te::tf::tg::th::ti::tj::v70::tl::tm::tn::tp::tq::tr::ts::tt::tu::tv::tw::tx::ty::tz::tA::tB::tC::tD::tE::tF::tG::tH::tI::tJ::tK::tL::tM::tN::tO::tP::tQ::tR::tS::tT::tU::tV::tW::tX::tY::tZ::q0::q1::q2::q3::q4::q5::q6::q7::q8::q9::qa::qb::qc::qd::v66::t1::t2::t3::v68::v70::ti::v72::v72::uu::qo::qp::qq::qr::qs::qt::qu::qv::qw::qx::qy::qz::qA::qB::qC::qD::qE::qF::qG::qH::qJ::qK::qL::qN::qO::qP::qQ::[]),h73⟩) :=
  (rt_block_eq (go_seq (go_reg0
  (pM fun v66 h67 =>
  (pI t1 h67
  (pI t2 h67
  (pI t3 h67
  (pM fun v68 h69 =>
  (pP fun v70 h71 =>
  (pI v70 h71
  (eN
  (go_seq (go_reg0
  (pI ti h71
  (pM fun v72 h73 =>
  (pI v72 h73
  (go_gdT0 rfl rfl rfl (by kernel_rfl)
  (st_id (v := v70) (H := h73) (by kernel_rfl)
  (rN (st_id (v := v70) (H := h73) (by kernel_rfl)
  (by kernel_rfl))))
  (sK
  (go_none0 (x := #[]) rfl rfl rfl (by kernel_rfl)
  (go_none0 (x := #[]) rfl rfl rfl (by kernel_rfl)
  (go_none0 (x := #[]) rfl rfl rfl (by kernel_rfl)
  (go_none0 (x := #[]) rfl rfl rfl (by kernel_rfl)
  (go_none0 (x := #[]) rfl rfl rfl (by kernel_rfl)
  (go_none0 (x := #[]) rfl rfl rfl (by kernel_rfl)
  (sK
  (sK
  (go_none0 (x := #[]) rfl rfl rfl (by kernel_rfl)
  (go_none0 (x := #[]) rfl rfl rfl (by kernel_rfl)
  (go_none0 (x := #[]) rfl rfl rfl (by kernel_rfl)
  (go_none0 (x := #[]) rfl rfl rfl (by kernel_rfl)
  (go_none0 (x := #[]) rfl rfl rfl (by kernel_rfl)
  (go_none0 (x := #[]) rfl rfl rfl (by kernel_rfl)
  (go_none0 (x := #[]) rfl rfl rfl (by kernel_rfl)
  (go_none0 (x := #[]) rfl rfl rfl (by kernel_rfl)
  (go_none0 (x := #[]) rfl rfl rfl (by kernel_rfl)
  (go_none0 (x := #[]) rfl rfl rfl (by kernel_rfl)
  (go_none0 (x := #[]) rfl rfl rfl (by kernel_rfl)
  (go_none0 (x := #[]) rfl rfl rfl (by kernel_rfl)
  (go_none0 (x := #[]) rfl rfl rfl (by kernel_rfl)
  (go_none0 (x := #[]) rfl rfl rfl (by kernel_rfl)
  (go_none0 (x := #[]) rfl rfl rfl (by kernel_rfl)
  (go_none0 (x := #[]) rfl rfl rfl (by kernel_rfl)
  (sK
  (by kernel_rfl)))))))))))))))))))))))))))
  (by kernel_rfl))))))))))))))))))
theorem xj3_4 (s : Sys) (K : Out → St → Option (V × Hp)) (k wl : Nat) (rd : Bool) (n n0 : Nat) (h : Hp) : runK (xX s 3 wl k rd) (nextK (xX s 3 wl k rd) xl3_0 n0 K n) xk3_3 .norm ⟨(t0::t1::t2::t3::t4::t5::t6::t7::t8::t9::ta::tb::tc::td::te::tf::tg::th::ti::tj::tk::tl::tm::tn::tp::tq::tr::ts::tt::tu::tv::tw::tx::ty::tz::tA::tB::tC::tD::tE::tF::tG::tH::tI::tJ::tK::tL::tM::tN::tO::tP::tQ::tR::tS::tT::tU::tV::tW::tX::tY::tZ::q0::q1::q2::q3::q4::q5::q6::q7::q8::q9::qa::qb::qc::qd::qe::qf::qg::qh::qi::qj::qk::ql::qm::qn::qo::qp::qq::qr::qs::qt::qu::qv::qw::qx::qy::qz::qA::qB::qC::qD::qE::qF::qG::qH::qJ::qK::qL::qN::qO::qP::qQ::[]),h⟩ =
  bm (vBin s.P .add 3 tj (V.lit (Value.int .i64 1))) h fun v74 h75 =>
  itX (xX s 3 wl k rd) xl3_0 n0 K n ⟨((V.kill n0 t0)::(V.kill n0 t1)::(V.kill n0 t2)::(V.kill n0 t3)::(V.kill n0 t4)::(V.kill n0 t5)::(V.kill n0 t6)::(V.kill n0 t7)::(V.kill n0 t8)::(V.kill n0 t9)::(V.kill n0 ta)::(V.kill n0 tb)::(V.kill n0 tc)::(V.kill n0 td)::(V.kill n0 te)::(V.kill n0 tf)::(V.kill n0 tg)::(V.kill n0 th)::(V.kill n0 ti)::(V.kill n0 v74)::(V.kill n0 tk)::(V.kill n0 tl)::(V.kill n0 tm)::(V.kill n0 tn)::(V.kill n0 tp)::(V.kill n0 tq)::(V.kill n0 tr)::(V.kill n0 ts)::(V.kill n0 tt)::(V.kill n0 tu)::(V.kill n0 tv)::(V.kill n0 tw)::(V.kill n0 tx)::(V.kill n0 ty)::(V.kill n0 tz)::(V.kill n0 tA)::(V.kill n0 tB)::(V.kill n0 tC)::(V.kill n0 tD)::(V.kill n0 tE)::(V.kill n0 tF)::(V.kill n0 tG)::(V.kill n0 tH)::(V.kill n0 tI)::(V.kill n0 tJ)::(V.kill n0 tK)::(V.kill n0 tL)::(V.kill n0 tM)::(V.kill n0 tN)::(V.kill n0 tO)::(V.kill n0 tP)::(V.kill n0 tQ)::(V.kill n0 tR)::(V.kill n0 tS)::(V.kill n0 tT)::(V.kill n0 tU)::(V.kill n0 tV)::(V.kill n0 tW)::.junk::.junk::.junk::.junk::.junk::.junk::.junk::.junk::.junk::.junk::.junk::.junk::.junk::.junk::.junk::.junk::.junk::(V.kill n0 qe)::(V.kill n0 qf)::(V.kill n0 qg)::(V.kill n0 qh)::(V.kill n0 qi)::(V.kill n0 qj)::(V.kill n0 qk)::(V.kill n0 ql)::(V.kill n0 qm)::(V.kill n0 qn)::(V.kill n0 qo)::(V.kill n0 qp)::(V.kill n0 qq)::(V.kill n0 qr)::(V.kill n0 qs)::(V.kill n0 qt)::(V.kill n0 qu)::(V.kill n0 qv)::(V.kill n0 qw)::(V.kill n0 qx)::(V.kill n0 qy)::(V.kill n0 qz)::(V.kill n0 qA)::(V.kill n0 qB)::(V.kill n0 qC)::(V.kill n0 qD)::(V.kill n0 qE)::(V.kill n0 qF)::(V.kill n0 qG)::(V.kill n0 qH)::(V.kill n0 qJ)::(V.kill n0 qK)::(V.kill n0 qL)::(V.kill n0 qN)::(V.kill n0 qO)::(V.kill n0 qP)::(V.kill n0 qQ)::[]),cutH n0 h75⟩ :=
  (rt_block_norm (go_reg0
  (pI tj h
  (pM fun v74 h75 =>
  (pI v74 h75
  (eN
  (by kernel_rfl)))))))
theorem xm3_5 (zz : List V) (h : Hp) : opsP (xX s 3 wl k false) xg3_3 5 m0 ac (runK (xX s 3 wl k false) (bodyK s.P Tryz.f3) xk3_4) ⟨(t0::t1::t2::t3::t4::t5::t6::t7::t8::t9::ta::tb::tc::td::te::tf::tg::th::ti::tj::tk::tl::tm::tn::tp::tq::tr::ts::tt::tu::tv::tw::tx::ty::tz::tA::tB::tC::tD::tE::tF::tG::tH::tI::tJ::tK::tL::tM::tN::tO::tP::tQ::tR::tS::tT::tU::tV::tW::tX::tY::tZ::q0::q1::q2::q3::q4::q5::q6::q7::q8::q9::qa::qb::qc::qd::qe::qf::qg::qh::qi::qj::qk::ql::qm::qn::qo::qp::qq::qr::qs::qt::qu::zz),h⟩ =
  gd qo (
  bm (vLoad s.P 23 t6 h) h fun v76 h77 =>
  bm (vLoad s.P 32 tg h77) h77 fun v78 h79 =>
  bp (callV (xX s 3 wl k false) false true (.fn (.func 11) [] []) [v76,t1,tf,t3,v78] h79) fun v80 h81 =>
  opsP (xX s 3 wl k false) xg3_3 11 m0 ac (runK (xX s 3 wl k false) (bodyK s.P Tryz.f3) xk3_4) ⟨(t0::t1::t2::t3::t4::t5::t6::t7::t8::t9::ta::tb::tc::td::te::tf::tg::th::ti::tj::tk::tl::tm::tn::tp::tq::tr::ts::tt::tu::tv::tw::tx::ty::tz::tA::tB::tC::tD::tE::tF::tG::tH::tI::tJ::tK::tL::tM::tN::tO::tP::tQ::tR::tS::tT::tU::tV::tW::tX::tY::tZ::q0::q1::q2::q3::q4::q5::q6::q7::q8::q9::qa::qb::qc::qd::qe::qf::qg::qh::qi::qj::qk::ql::qm::qn::(V.lit (Value.bool true))::v76::t1::tf::t3::v78::v80::zz),h81⟩) (
  opsP (xX s 3 wl k false) xg3_3 11 m0 ac (runK (xX s 3 wl k false) (bodyK s.P Tryz.f3) xk3_4) ⟨(t0::t1::t2::t3::t4::t5::t6::t7::t8::t9::ta::tb::tc::td::te::tf::tg::th::ti::tj::tk::tl::tm::tn::tp::tq::tr::ts::tt::tu::tv::tw::tx::ty::tz::tA::tB::tC::tD::tE::tF::tG::tH::tI::tJ::tK::tL::tM::tN::tO::tP::tQ::tR::tS::tT::tU::tV::tW::tX::tY::tZ::q0::q1::q2::q3::q4::q5::q6::q7::q8::q9::qa::qb::qc::qd::qe::qf::qg::qh::qi::qj::qk::ql::qm::qn::(V.lit (Value.bool false))::uu::uu::uu::uu::uu::uu::zz),h⟩) (
  opsP (xX s 3 wl k false) xg3_3 6 m0 ac (runK (xX s 3 wl k false) (bodyK s.P Tryz.f3) xk3_4) ⟨(t0::t1::t2::t3::t4::t5::t6::t7::t8::t9::ta::tb::tc::td::te::tf::tg::th::ti::tj::tk::tl::tm::tn::tp::tq::tr::ts::tt::tu::tv::tw::tx::ty::tz::tA::tB::tC::tD::tE::tF::tG::tH::tI::tJ::tK::tL::tM::tN::tO::tP::tQ::tR::tS::tT::tU::tV::tW::tX::tY::tZ::q0::q1::q2::q3::q4::q5::q6::q7::q8::q9::qa::qb::qc::qd::qe::qf::qg::qh::qi::qj::qk::ql::qm::qn::qo::uu::qq::qr::qs::qt::qu::zz),h⟩) :=
  (go_gdT0 rfl rfl rfl (by kernel_rfl)
  (st_bm (by kernel_rfl) fun v76 h77 =>
  (rN (st_id (v := t1) (H := h77) (by kernel_rfl)
  (rN (st_id (v := tf) (H := h77) (by kernel_rfl)
  (rN (st_id (v := t3) (H := h77) (by kernel_rfl)
  (rN (st_bm (by kernel_rfl) fun v78 h79 =>
  (rN (st_bp (by kernel_rfl) fun v80 h81 =>
  (by kernel_rfl))))))))))))
  (sK
  (sK
  (sK
  (sK
  (sK
  (by kernel_rfl))))))
  (by kernel_rfl))
theorem xm3_6 (h : Hp) : opsP (xX s 3 wl k false) xg3_3 30 m0 ac (runK (xX s 3 wl k false) (bodyK s.P Tryz.f3) xk3_4) ⟨(t0::t1::t2::t3::t4::t5::t6::t7::t8::t9::ta::tb::tc::td::te::tf::tg::th::ti::tj::tk::tl::tm::tn::tp::tq::tr::ts::tt::tu::tv::tw::tx::ty::tz::tA::tB::tC::tD::tE::tF::tG::tH::tI::tJ::tK::tL::tM::tN::tO::tP::tQ::tR::tS::tT::tU::tV::tW::tX::tY::tZ::q0::q1::q2::q3::q4::q5::q6::q7::q8::q9::qa::qb::qc::qd::qe::qf::qg::qh::qi::qj::qk::ql::qm::qn::qo::qp::qq::qr::qs::qt::qu::qv::qw::qx::qy::qz::qA::qB::qC::qD::qE::qF::qG::qH::qJ::qK::qL::qN::qO::qP::qQ::[]),h⟩ =
  bm (vPick qm qP (V.lit (Value.bool false))) h fun v82 h83 =>
  some (v82,h83) :=
  (pM fun v82 h83 =>
  (pI v82 h83
  (eN
  (go_ret (by kernel_rfl)))))
theorem xm3_7 (h : Hp) : opsP (xX s 3 wl k false) xg3_3 11 m0 ac (runK (xX s 3 wl k false) (bodyK s.P Tryz.f3) xk3_4) ⟨(t0::t1::t2::t3::t4::t5::t6::t7::t8::t9::ta::tb::tc::td::te::tf::tg::th::ti::tj::tk::tl::tm::tn::tp::tq::tr::ts::tt::tu::tv::tw::tx::ty::tz::tA::tB::tC::tD::tE::tF::tG::tH::tI::tJ::tK::tL::tM::tN::tO::tP::tQ::tR::tS::tT::tU::tV::tW::tX::tY::tZ::q0::q1::q2::q3::q4::q5::q6::q7::q8::q9::qa::qb::qc::qd::qe::qf::qg::qh::qi::qj::qk::ql::qm::qn::qo::qp::qq::qr::qs::qt::qu::qv::qw::qx::qy::qz::qA::qB::qC::qD::qE::qF::qG::qH::qJ::qK::qL::qN::qO::qP::qQ::[]),h⟩ =
  gd qm (
  bm (vPick qo qu (V.lit (Value.bool false))) h fun v84 h85 =>
  opsP (xX s 3 wl k false) xg3_3 13 m0 ac (runK (xX s 3 wl k false) (bodyK s.P Tryz.f3) xk3_4) ⟨(t0::t1::t2::t3::t4::t5::t6::t7::t8::t9::ta::tb::tc::td::te::tf::tg::th::ti::tj::tk::tl::tm::tn::tp::tq::tr::ts::tt::tu::tv::tw::tx::ty::tz::tA::tB::tC::tD::tE::tF::tG::tH::tI::tJ::tK::tL::tM::tN::tO::tP::tQ::tR::tS::tT::tU::tV::tW::tX::tY::tZ::q0::q1::q2::q3::q4::q5::q6::q7::q8::q9::qa::qb::qc::qd::qe::qf::qg::qh::qi::qj::qk::ql::(V.lit (Value.bool true))::qn::qo::qp::qq::qr::qs::qt::qu::v84::v84::qx::qy::qz::qA::qB::qC::qD::qE::qF::qG::qH::qJ::qK::qL::qN::qO::qP::qQ::[]),h85⟩) (
  opsP (xX s 3 wl k false) xg3_3 30 m0 ac (runK (xX s 3 wl k false) (bodyK s.P Tryz.f3) xk3_4) ⟨(t0::t1::t2::t3::t4::t5::t6::t7::t8::t9::ta::tb::tc::td::te::tf::tg::th::ti::tj::tk::tl::tm::tn::tp::tq::tr::ts::tt::tu::tv::tw::tx::ty::tz::tA::tB::tC::tD::tE::tF::tG::tH::tI::tJ::tK::tL::tM::tN::tO::tP::tQ::tR::tS::tT::tU::tV::tW::tX::tY::tZ::q0::q1::q2::q3::q4::q5::q6::q7::q8::q9::qa::qb::qc::qd::qe::qf::qg::qh::qi::qj::qk::ql::(V.lit (Value.bool false))::qn::qo::qp::qq::qr::qs::qt::qu::uu::uu::uu::uu::uu::uu::uu::uu::uu::uu::uu::uu::uu::uu::uu::uu::uu::uu::uu::qQ::[]),h⟩) (
  opsP (xX s 3 wl k false) xg3_3 12 m0 ac (runK (xX s 3 wl k false) (bodyK s.P Tryz.f3) xk3_4) ⟨(t0::t1::t2::t3::t4::t5::t6::t7::t8::t9::ta::tb::tc::td::te::tf::tg::th::ti::tj::tk::tl::tm::tn::tp::tq::tr::ts::tt::tu::tv::tw::tx::ty::tz::tA::tB::tC::tD::tE::tF::tG::tH::tI::tJ::tK::tL::tM::tN::tO::tP::tQ::tR::tS::tT::tU::tV::tW::tX::tY::tZ::q0::q1::q2::q3::q4::q5::q6::q7::q8::q9::qa::qb::qc::qd::qe::qf::qg::qh::qi::qj::qk::ql::qm::qn::qo::qp::qq::qr::qs::qt::qu::uu::qw::qx::qy::qz::qA::qB::qC::qD::qE::qF::qG::qH::qJ::qK::qL::qN::qO::qP::qQ::[]),h⟩) :=
  (go_gdT0 rfl rfl rfl (by kernel_rfl)
  (st_bm (by kernel_rfl) fun v84 h85 =>
  (rN (st_id (v := v84) (H := h85) (by kernel_rfl)
  (by kernel_rfl))))
  (sK
  (go_none0 (x := #[]) rfl rfl rfl (by kernel_rfl)
  (go_none0 (x := #[]) rfl rfl rfl (by kernel_rfl)
  (go_none0 (x := #[]) rfl rfl rfl (by kernel_rfl)
  (go_none0 (x := #[]) rfl rfl rfl (by kernel_rfl)
  (go_none0 (x := #[]) rfl rfl rfl (by kernel_rfl)
  (go_none0 (x := #[]) rfl rfl rfl (by kernel_rfl)
  (go_none0 (x := #[]) rfl rfl rfl (by kernel_rfl)
  (go_none0 (x := #[]) rfl rfl rfl (by kernel_rfl)
  (go_none0 (x := #[]) rfl rfl rfl (by kernel_rfl)
  (go_none0 (x := #[]) rfl rfl rfl (by kernel_rfl)
  (go_none0 (x := #[]) rfl rfl rfl (by kernel_rfl)
  (go_none0 (x := #[]) rfl rfl rfl (by kernel_rfl)
  (go_none0 (x := #[]) rfl rfl rfl (by kernel_rfl)
  (go_none0 (x := #[]) rfl rfl rfl (by kernel_rfl)
  (go_none0 (x := #[]) rfl rfl rfl (by kernel_rfl)
  (go_none0 (x := #[]) rfl rfl rfl (by kernel_rfl)
  (sK
  (by kernel_rfl)))))))))))))))))))
  (by kernel_rfl))
theorem xm3_8 (zz : List V) (h : Hp) : opsP (xX s 3 wl k false) xg3_3 6 m0 ac (runK (xX s 3 wl k false) (bodyK s.P Tryz.f3) xk3_4) ⟨(t0::t1::t2::t3::t4::t5::t6::t7::t8::t9::ta::tb::tc::td::te::tf::tg::th::ti::tj::tk::tl::tm::tn::tp::tq::tr::ts::tt::tu::tv::tw::tx::ty::tz::tA::tB::tC::tD::tE::tF::tG::tH::tI::tJ::tK::tL::tM::tN::tO::tP::tQ::tR::tS::tT::tU::tV::tW::tX::tY::tZ::q0::q1::q2::q3::q4::q5::q6::q7::q8::q9::qa::qb::qc::qd::qe::qf::qg::qh::qi::qj::qk::ql::qm::qn::qo::qp::qq::qr::qs::qt::qu::zz),h⟩ =
  gd qo (
  bm (vLoad s.P 32 tg h) h fun v86 h87 =>
  bp (callV (xX s 3 wl k false) false true (.fn (.func 11) [] []) [qp,t1,tf,t3,v86] h87) fun v88 h89 =>
  opsP (xX s 3 wl k false) xg3_3 11 m0 ac (runK (xX s 3 wl k false) (bodyK s.P Tryz.f3) xk3_4) ⟨(t0::t1::t2::t3::t4::t5::t6::t7::t8::t9::ta::tb::tc::td::te::tf::tg::th::ti::tj::tk::tl::tm::tn::tp::tq::tr::ts::tt::tu::tv::tw::tx::ty::tz::tA::tB::tC::tD::tE::tF::tG::tH::tI::tJ::tK::tL::tM::tN::tO::tP::tQ::tR::tS::tT::tU::tV::tW::tX::tY::tZ::q0::q1::q2::q3::q4::q5::q6::q7::q8::q9::qa::qb::qc::qd::qe::qf::qg::qh::qi::qj::qk::ql::qm::qn::(V.lit (Value.bool true))::qp::t1::tf::t3::v86::v88::zz),h89⟩) (
  opsP (xX s 3 wl k false) xg3_3 11 m0 ac (runK (xX s 3 wl k false) (bodyK s.P Tryz.f3) xk3_4) ⟨(t0::t1::t2::t3::t4::t5::t6::t7::t8::t9::ta::tb::tc::td::te::tf::tg::th::ti::tj::tk::tl::tm::tn::tp::tq::tr::ts::tt::tu::tv::tw::tx::ty::tz::tA::tB::tC::tD::tE::tF::tG::tH::tI::tJ::tK::tL::tM::tN::tO::tP::tQ::tR::tS::tT::tU::tV::tW::tX::tY::tZ::q0::q1::q2::q3::q4::q5::q6::q7::q8::q9::qa::qb::qc::qd::qe::qf::qg::qh::qi::qj::qk::ql::qm::qn::(V.lit (Value.bool false))::qp::uu::uu::uu::uu::uu::zz),h⟩) (
  opsP (xX s 3 wl k false) xg3_3 7 m0 ac (runK (xX s 3 wl k false) (bodyK s.P Tryz.f3) xk3_4) ⟨(t0::t1::t2::t3::t4::t5::t6::t7::t8::t9::ta::tb::tc::td::te::tf::tg::th::ti::tj::tk::tl::tm::tn::tp::tq::tr::ts::tt::tu::tv::tw::tx::ty::tz::tA::tB::tC::tD::tE::tF::tG::tH::tI::tJ::tK::tL::tM::tN::tO::tP::tQ::tR::tS::tT::tU::tV::tW::tX::tY::tZ::q0::q1::q2::q3::q4::q5::q6::q7::q8::q9::qa::qb::qc::qd::qe::qf::qg::qh::qi::qj::qk::ql::qm::qn::qo::qp::uu::qr::qs::qt::qu::zz),h⟩) :=
  (go_gdT0 rfl rfl rfl (by kernel_rfl)
  (st_id (v := t1) (H := h) (by kernel_rfl)
  (rN (st_id (v := tf) (H := h) (by kernel_rfl)
  (rN (st_id (v := t3) (H := h) (by kernel_rfl)
  (rN (st_bm (by kernel_rfl) fun v86 h87 =>
  (rN (st_bp (by kernel_rfl) fun v88 h89 =>
  (by kernel_rfl))))))))))
  (sK
  (sK
  (sK
  (sK
  (by kernel_rfl)))))
  (by kernel_rfl))
theorem xm3_9 (zz : List V) (h : Hp) : opsP (xX s 3 wl k false) xg3_3 13 m0 ac (runK (xX s 3 wl k false) (bodyK s.P Tryz.f3) xk3_4) ⟨(t0::t1::t2::t3::t4::t5::t6::t7::t8::t9::ta::tb::tc::td::te::tf::tg::th::ti::tj::tk::tl::tm::tn::tp::tq::tr::ts::tt::tu::tv::tw::tx::ty::tz::tA::tB::tC::tD::tE::tF::tG::tH::tI::tJ::tK::tL::tM::tN::tO::tP::tQ::tR::tS::tT::tU::tV::tW::tX::tY::tZ::q0::q1::q2::q3::q4::q5::q6::q7::q8::q9::qa::qb::qc::qd::qe::qf::qg::qh::qi::qj::qk::ql::qm::qn::qo::qp::qq::qr::qs::qt::qu::qv::qw::qx::qy::qz::qA::qB::qC::qD::qE::qF::qG::qH::qJ::qK::qL::qN::qO::zz),h⟩ =
  gd qw (
  opsP (xX s 3 wl k false) xg3_3 29 m0 ac (runK (xX s 3 wl k false) (bodyK s.P Tryz.f3) xk3_4) ⟨(t0::t1::t2::t3::t4::t5::t6::t7::t8::t9::ta::tb::tc::td::te::tf::tg::th::ti::tj::tk::tl::tm::tn::tp::tq::tr::ts::tt::tu::tv::tw::tx::ty::tz::tA::tB::tC::tD::tE::tF::tG::tH::tI::tJ::tK::tL::tM::tN::tO::tP::tQ::tR::tS::tT::tU::tV::tW::tX::tY::tZ::q0::q1::q2::q3::q4::q5::q6::q7::q8::q9::qa::qb::qc::qd::qe::qf::qg::qh::qi::qj::qk::ql::qm::qn::qo::qp::qq::qr::qs::qt::qu::qv::(V.lit (Value.bool true))::uu::uu::uu::uu::uu::uu::uu::uu::uu::uu::uu::uu::uu::uu::uu::uu::zz),h⟩) (
  bm (vUn .not tk) h fun v90 h91 =>
  opsP (xX s 3 wl k false) xg3_3 16 m0 ac (runK (xX s 3 wl k false) (bodyK s.P Tryz.f3) xk3_4) ⟨(t0::t1::t2::t3::t4::t5::t6::t7::t8::t9::ta::tb::tc::td::te::tf::tg::th::ti::tj::tk::tl::tm::tn::tp::tq::tr::ts::tt::tu::tv::tw::tx::ty::tz::tA::tB::tC::tD::tE::tF::tG::tH::tI::tJ::tK::tL::tM::tN::tO::tP::tQ::tR::tS::tT::tU::tV::tW::tX::tY::tZ::q0::q1::q2::q3::q4::q5::q6::q7::q8::q9::qa::qb::qc::qd::qe::qf::qg::qh::qi::qj::qk::ql::qm::qn::qo::qp::qq::qr::qs::qt::qu::qv::(V.lit (Value.bool false))::tk::v90::v90::qA::qB::qC::qD::qE::qF::qG::qH::qJ::qK::qL::qN::qO::zz),h91⟩) (
  opsP (xX s 3 wl k false) xg3_3 14 m0 ac (runK (xX s 3 wl k false) (bodyK s.P Tryz.f3) xk3_4) ⟨(t0::t1::t2::t3::t4::t5::t6::t7::t8::t9::ta::tb::tc::td::te::tf::tg::th::ti::tj::tk::tl::tm::tn::tp::tq::tr::ts::tt::tu::tv::tw::tx::ty::tz::tA::tB::tC::tD::tE::tF::tG::tH::tI::tJ::tK::tL::tM::tN::tO::tP::tQ::tR::tS::tT::tU::tV::tW::tX::tY::tZ::q0::q1::q2::q3::q4::q5::q6::q7::q8::q9::qa::qb::qc::qd::qe::qf::qg::qh::qi::qj::qk::ql::qm::qn::qo::qp::qq::qr::qs::qt::qu::qv::qw::uu::qy::qz::qA::qB::qC::qD::qE::qF::qG::qH::qJ::qK::qL::qN::qO::zz),h⟩) :=
  (go_gdF0 rfl rfl rfl (by kernel_rfl)
  (sK
  (sK
  (go_none0 (x := #[]) rfl rfl rfl (by kernel_rfl)
  (go_none0 (x := #[]) rfl rfl rfl (by kernel_rfl)
  (sK
  (sK
  (go_none0 (x := #[]) rfl rfl rfl (by kernel_rfl)
  (go_none0 (x := #[]) rfl rfl rfl (by kernel_rfl)
  (go_none0 (x := #[]) rfl rfl rfl (by kernel_rfl)
  (sK
  (sK
  (go_none0 (x := #[]) rfl rfl rfl (by kernel_rfl)
  (go_none0 (x := #[]) rfl rfl rfl (by kernel_rfl)
  (go_none0 (x := #[]) rfl rfl rfl (by kernel_rfl)
  (sK
  (by kernel_rfl))))))))))))))))
  (st_id (v := tk) (H := h) (by kernel_rfl)
  (rN (st_bm (by kernel_rfl) fun v90 h91 =>
  (rN (st_id (v := v90) (H := h91) (by kernel_rfl)
  (by kernel_rfl))))))
  (by kernel_rfl))
theorem xm3_10 (zz : List V) (h : Hp) : opsP (xX s 3 wl k false) xg3_3 7 m0 ac (runK (xX s 3 wl k false) (bodyK s.P Tryz.f3) xk3_4) ⟨(t0::t1::t2::t3::t4::t5::t6::t7::t8::t9::ta::tb::tc::td::te::tf::tg::th::ti::tj::tk::tl::tm::tn::tp::tq::tr::ts::tt::tu::tv::tw::tx::ty::tz::tA::tB::tC::tD::tE::tF::tG::tH::tI::tJ::tK::tL::tM::tN::tO::tP::tQ::tR::tS::tT::tU::tV::tW::tX::tY::tZ::q0::q1::q2::q3::q4::q5::q6::q7::q8::q9::qa::qb::qc::qd::qe::qf::qg::qh::qi::qj::qk::ql::qm::qn::qo::qp::qq::qr::qs::qt::qu::zz),h⟩ =
  gd qo (
  bm (vLoad s.P 32 tg h) h fun v92 h93 =>
  bp (callV (xX s 3 wl k false) false true (.fn (.func 11) [] []) [qp,qq,tf,t3,v92] h93) fun v94 h95 =>
  opsP (xX s 3 wl k false) xg3_3 11 m0 ac (runK (xX s 3 wl k false) (bodyK s.P Tryz.f3) xk3_4) ⟨(t0::t1::t2::t3::t4::t5::t6::t7::t8::t9::ta::tb::tc::td::te::tf::tg::th::ti::tj::tk::tl::tm::tn::tp::tq::tr::ts::tt::tu::tv::tw::tx::ty::tz::tA::tB::tC::tD::tE::tF::tG::tH::tI::tJ::tK::tL::tM::tN::tO::tP::tQ::tR::tS::tT::tU::tV::tW::tX::tY::tZ::q0::q1::q2::q3::q4::q5::q6::q7::q8::q9::qa::qb::qc::qd::qe::qf::qg::qh::qi::qj::qk::ql::qm::qn::(V.lit (Value.bool true))::qp::qq::tf::t3::v92::v94::zz),h95⟩) (
  opsP (xX s 3 wl k false) xg3_3 11 m0 ac (runK (xX s 3 wl k false) (bodyK s.P Tryz.f3) xk3_4) ⟨(t0::t1::t2::t3::t4::t5::t6::t7::t8::t9::ta::tb::tc::td::te::tf::tg::th::ti::tj::tk::tl::tm::tn::tp::tq::tr::ts::tt::tu::tv::tw::tx::ty::tz::tA::tB::tC::tD::tE::tF::tG::tH::tI::tJ::tK::tL::tM::tN::tO::tP::tQ::tR::tS::tT::tU::tV::tW::tX::tY::tZ::q0::q1::q2::q3::q4::q5::q6::q7::q8::q9::qa::qb::qc::qd::qe::qf::qg::qh::qi::qj::qk::ql::qm::qn::(V.lit (Value.bool false))::qp::qq::uu::uu::uu::uu::zz),h⟩) (
  opsP (xX s 3 wl k false) xg3_3 8 m0 ac (runK (xX s 3 wl k false) (bodyK s.P Tryz.f3) xk3_4) ⟨(t0::t1::t2::t3::t4::t5::t6::t7::t8::t9::ta::tb::tc::td::te::tf::tg::th::ti::tj::tk::tl::tm::tn::tp::tq::tr::ts::tt::tu::tv::tw::tx::ty::tz::tA::tB::tC::tD::tE::tF::tG::tH::tI::tJ::tK::tL::tM::tN::tO::tP::tQ::tR::tS::tT::tU::tV::tW::tX::tY::tZ::q0::q1::q2::q3::q4::q5::q6::q7::q8::q9::qa::qb::qc::qd::qe::qf::qg::qh::qi::qj::qk::ql::qm::qn::qo::qp::qq::uu::qs::qt::qu::zz),h⟩) :=
  (go_gdT0 rfl rfl rfl (by kernel_rfl)
  (st_id (v := tf) (H := h) (by kernel_rfl)
  (rN (st_id (v := t3) (H := h) (by kernel_rfl)
  (rN (st_bm (by kernel_rfl) fun v92 h93 =>
  (rN (st_bp (by kernel_rfl) fun v94 h95 =>
  (by kernel_rfl))))))))
  (sK
  (sK
  (sK
  (by kernel_rfl))))
  (by kernel_rfl))
theorem xm3_11 (h : Hp) : opsP (xX s 3 wl k false) xg3_3 29 m0 ac (runK (xX s 3 wl k false) (bodyK s.P Tryz.f3) xk3_4) ⟨(t0::t1::t2::t3::t4::t5::t6::t7::t8::t9::ta::tb::tc::td::te::tf::tg::th::ti::tj::tk::tl::tm::tn::tp::tq::tr::ts::tt::tu::tv::tw::tx::ty::tz::tA::tB::tC::tD::tE::tF::tG::tH::tI::tJ::tK::tL::tM::tN::tO::tP::tQ::tR::tS::tT::tU::tV::tW::tX::tY::tZ::q0::q1::q2::q3::q4::q5::q6::q7::q8::q9::qa::qb::qc::qd::qe::qf::qg::qh::qi::qj::qk::ql::qm::qn::qo::qp::qq::qr::qs::qt::qu::qv::qw::qx::qy::qz::qA::qB::qC::qD::qE::qF::qG::qH::qJ::qK::qL::qN::qO::qP::qQ::[]),h⟩ =
  gd qm (
  bm (vPick qw (V.lit (Value.bool true)) qO) h fun v96 h97 =>
  opsP (xX s 3 wl k false) xg3_3 30 m0 ac (runK (xX s 3 wl k false) (bodyK s.P Tryz.f3) xk3_4) ⟨(t0::t1::t2::t3::t4::t5::t6::t7::t8::t9::ta::tb::tc::td::te::tf::tg::th::ti::tj::tk::tl::tm::tn::tp::tq::tr::ts::tt::tu::tv::tw::tx::ty::tz::tA::tB::tC::tD::tE::tF::tG::tH::tI::tJ::tK::tL::tM::tN::tO::tP::tQ::tR::tS::tT::tU::tV::tW::tX::tY::tZ::q0::q1::q2::q3::q4::q5::q6::q7::q8::q9::qa::qb::qc::qd::qe::qf::qg::qh::qi::qj::qk::ql::(V.lit (Value.bool true))::qn::qo::qp::qq::qr::qs::qt::qu::qv::qw::qx::qy::qz::qA::qB::qC::qD::qE::qF::qG::qH::qJ::qK::qL::qN::qO::v96::qQ::[]),h97⟩) (
  opsP (xX s 3 wl k false) xg3_3 30 m0 ac (runK (xX s 3 wl k false) (bodyK s.P Tryz.f3) xk3_4) ⟨(t0::t1::t2::t3::t4::t5::t6::t7::t8::t9::ta::tb::tc::td::te::tf::tg::th::ti::tj::tk::tl::tm::tn::tp::tq::tr::ts::tt::tu::tv::tw::tx::ty::tz::tA::tB::tC::tD::tE::tF::tG::tH::tI::tJ::tK::tL::tM::tN::tO::tP::tQ::tR::tS::tT::tU::tV::tW::tX::tY::tZ::q0::q1::q2::q3::q4::q5::q6::q7::q8::q9::qa::qb::qc::qd::qe::qf::qg::qh::qi::qj::qk::ql::(V.lit (Value.bool false))::qn::qo::qp::qq::qr::qs::qt::qu::qv::qw::qx::qy::qz::qA::qB::qC::qD::qE::qF::qG::qH::qJ::qK::qL::qN::qO::uu::qQ::[]),h⟩) (
  opsP (xX s 3 wl k false) xg3_3 30 m0 ac (runK (xX s 3 wl k false) (bodyK s.P Tryz.f3) xk3_4) ⟨(t0::t1::t2::t3::t4::t5::t6::t7::t8::t9::ta::tb::tc::td::te::tf::tg::th::ti::tj::tk::tl::tm::tn::tp::tq::tr::ts::tt::tu::tv::tw::tx::ty::tz::tA::tB::tC::tD::tE::tF::tG::tH::tI::tJ::tK::tL::tM::tN::tO::tP::tQ::tR::tS::tT::tU::tV::tW::tX::tY::tZ::q0::q1::q2::q3::q4::q5::q6::q7::q8::q9::qa::qb::qc::qd::qe::qf::qg::qh::qi::qj::qk::ql::qm::qn::qo::qp::qq::qr::qs::qt::qu::qv::qw::qx::qy::qz::qA::qB::qC::qD::qE::qF::qG::qH::qJ::qK::qL::qN::qO::uu::qQ::[]),h⟩) :=
  (go_gdT0 rfl rfl rfl (by kernel_rfl)
  (st_bm (by kernel_rfl) fun v96 h97 =>
  (by kernel_rfl))
  (by kernel_rfl)
  (by kernel_rfl))
theorem xm3_12 (zz : List V) (h : Hp) : opsP (xX s 3 wl k false) xg3_3 16 m0 ac (runK (xX s 3 wl k false) (bodyK s.P Tryz.f3) xk3_4) ⟨(t0::t1::t2::t3::t4::t5::t6::t7::t8::t9::ta::tb::tc::td::te::tf::tg::th::ti::tj::tk::tl::tm::tn::tp::tq::tr::ts::tt::tu::tv::tw::tx::ty::tz::tA::tB::tC::tD::tE::tF::tG::tH::tI::tJ::tK::tL::tM::tN::tO::tP::tQ::tR::tS::tT::tU::tV::tW::tX::tY::tZ::q0::q1::q2::q3::q4::q5::q6::q7::q8::q9::qa::qb::qc::qd::qe::qf::qg::qh::qi::qj::qk::ql::qm::qn::qo::qp::qq::qr::qs::qt::qu::qv::qw::qx::qy::qz::qA::qB::zz),h⟩ =
  gd qz (
  bm (vBin s.P .eql 3 ti (V.lit (Value.int .i64 0))) h fun v98 h99 =>
  opsP (xX s 3 wl k false) xg3_3 18 m0 ac (runK (xX s 3 wl k false) (bodyK s.P Tryz.f3) xk3_4) ⟨(t0::t1::t2::t3::t4::t5::t6::t7::t8::t9::ta::tb::tc::td::te::tf::tg::th::ti::tj::tk::tl::tm::tn::tp::tq::tr::ts::tt::tu::tv::tw::tx::ty::tz::tA::tB::tC::tD::tE::tF::tG::tH::tI::tJ::tK::tL::tM::tN::tO::tP::tQ::tR::tS::tT::tU::tV::tW::tX::tY::tZ::q0::q1::q2::q3::q4::q5::q6::q7::q8::q9::qa::qb::qc::qd::qe::qf::qg::qh::qi::qj::qk::ql::qm::qn::qo::qp::qq::qr::qs::qt::qu::qv::qw::qx::qy::(V.lit (Value.bool true))::ti::v98::zz),h99⟩) (
  opsP (xX s 3 wl k false) xg3_3 18 m0 ac (runK (xX s 3 wl k false) (bodyK s.P Tryz.f3) xk3_4) ⟨(t0::t1::t2::t3::t4::t5::t6::t7::t8::t9::ta::tb::tc::td::te::tf::tg::th::ti::tj::tk::tl::tm::tn::tp::tq::tr::ts::tt::tu::tv::tw::tx::ty::tz::tA::tB::tC::tD::tE::tF::tG::tH::tI::tJ::tK::tL::tM::tN::tO::tP::tQ::tR::tS::tT::tU::tV::tW::tX::tY::tZ::q0::q1::q2::q3::q4::q5::q6::q7::q8::q9::qa::qb::qc::qd::qe::qf::qg::qh::qi::qj::qk::ql::qm::qn::qo::qp::qq::qr::qs::qt::qu::qv::qw::qx::qy::(V.lit (Value.bool false))::uu::uu::zz),h⟩) (
  opsP (xX s 3 wl k false) xg3_3 17 m0 ac (runK (xX s 3 wl k false) (bodyK s.P Tryz.f3) xk3_4) ⟨(t0::t1::t2::t3::t4::t5::t6::t7::t8::t9::ta::tb::tc::td::te::tf::tg::th::ti::tj::tk::tl::tm::tn::tp::tq::tr::ts::tt::tu::tv::tw::tx::ty::tz::tA::tB::tC::tD::tE::tF::tG::tH::tI::tJ::tK::tL::tM::tN::tO::tP::tQ::tR::tS::tT::tU::tV::tW::tX::tY::tZ::q0::q1::q2::q3::q4::q5::q6::q7::q8::q9::qa::qb::qc::qd::qe::qf::qg::qh::qi::qj::qk::ql::qm::qn::qo::qp::qq::qr::qs::qt::qu::qv::qw::qx::qy::qz::uu::qB::zz),h⟩) :=
  (go_gdT0 rfl rfl rfl (by kernel_rfl)
  (st_id (v := ti) (H := h) (by kernel_rfl)
  (rN (st_bm (by kernel_rfl) fun v98 h99 =>
  (by kernel_rfl))))
  (sK
  (by kernel_rfl))
  (by kernel_rfl))
theorem xm3_13 (zz : List V) (h : Hp) : opsP (xX s 3 wl k false) xg3_3 14 m0 ac (runK (xX s 3 wl k false) (bodyK s.P Tryz.f3) xk3_4) ⟨(t0::t1::t2::t3::t4::t5::t6::t7::t8::t9::ta::tb::tc::td::te::tf::tg::th::ti::tj::tk::tl::tm::tn::tp::tq::tr::ts::tt::tu::tv::tw::tx::ty::tz::tA::tB::tC::tD::tE::tF::tG::tH::tI::tJ::tK::tL::tM::tN::tO::tP::tQ::tR::tS::tT::tU::tV::tW::tX::tY::tZ::q0::q1::q2::q3::q4::q5::q6::q7::q8::q9::qa::qb::qc::qd::qe::qf::qg::qh::qi::qj::qk::ql::qm::qn::qo::qp::qq::qr::qs::qt::qu::qv::qw::qx::qy::qz::qA::qB::qC::qD::qE::qF::qG::qH::qJ::qK::qL::qN::qO::zz),h⟩ =
  gd qw (
  opsP (xX s 3 wl k false) xg3_3 29 m0 ac (runK (xX s 3 wl k false) (bodyK s.P Tryz.f3) xk3_4) ⟨(t0::t1::t2::t3::t4::t5::t6::t7::t8::t9::ta::tb::tc::td::te::tf::tg::th::ti::tj::tk::tl::tm::tn::tp::tq::tr::ts::tt::tu::tv::tw::tx::ty::tz::tA::tB::tC::tD::tE::tF::tG::tH::tI::tJ::tK::tL::tM::tN::tO::tP::tQ::tR::tS::tT::tU::tV::tW::tX::tY::tZ::q0::q1::q2::q3::q4::q5::q6::q7::q8::q9::qa::qb::qc::qd::qe::qf::qg::qh::qi::qj::qk::ql::qm::qn::qo::qp::qq::qr::qs::qt::qu::qv::(V.lit (Value.bool true))::qx::uu::uu::uu::uu::uu::uu::uu::uu::uu::uu::uu::uu::uu::uu::uu::zz),h⟩) (
  bm (vUn .not qx) h fun v100 h101 =>
  opsP (xX s 3 wl k false) xg3_3 16 m0 ac (runK (xX s 3 wl k false) (bodyK s.P Tryz.f3) xk3_4) ⟨(t0::t1::t2::t3::t4::t5::t6::t7::t8::t9::ta::tb::tc::td::te::tf::tg::th::ti::tj::tk::tl::tm::tn::tp::tq::tr::ts::tt::tu::tv::tw::tx::ty::tz::tA::tB::tC::tD::tE::tF::tG::tH::tI::tJ::tK::tL::tM::tN::tO::tP::tQ::tR::tS::tT::tU::tV::tW::tX::tY::tZ::q0::q1::q2::q3::q4::q5::q6::q7::q8::q9::qa::qb::qc::qd::qe::qf::qg::qh::qi::qj::qk::ql::qm::qn::qo::qp::qq::qr::qs::qt::qu::qv::(V.lit (Value.bool false))::qx::v100::v100::qA::qB::qC::qD::qE::qF::qG::qH::qJ::qK::qL::qN::qO::zz),h101⟩) (
  opsP (xX s 3 wl k false) xg3_3 15 m0 ac (runK (xX s 3 wl k false) (bodyK s.P Tryz.f3) xk3_4) ⟨(t0::t1::t2::t3::t4::t5::t6::t7::t8::t9::ta::tb::tc::td::te::tf::tg::th::ti::tj::tk::tl::tm::tn::tp::tq::tr::ts::tt::tu::tv::tw::tx::ty::tz::tA::tB::tC::tD::tE::tF::tG::tH::tI::tJ::tK::tL::tM::tN::tO::tP::tQ::tR::tS::tT::tU::tV::tW::tX::tY::tZ::q0::q1::q2::q3::q4::q5::q6::q7::q8::q9::qa::qb::qc::qd::qe::qf::qg::qh::qi::qj::qk::ql::qm::qn::qo::qp::qq::qr::qs::qt::qu::qv::qw::qx::uu::qz::qA::qB::qC::qD::qE::qF::qG::qH::qJ::qK::qL::qN::qO::zz),h⟩) :=
  (go_gdF0 rfl rfl rfl (by kernel_rfl)
  (sK
  (go_none0 (x := #[]) rfl rfl rfl (by kernel_rfl)
  (go_none0 (x := #[]) rfl rfl rfl (by kernel_rfl)
  (sK
  (sK
  (go_none0 (x := #[]) rfl rfl rfl (by kernel_rfl)
  (go_none0 (x := #[]) rfl rfl rfl (by kernel_rfl)
  (go_none0 (x := #[]) rfl rfl rfl (by kernel_rfl)
  (sK
  (sK
  (go_none0 (x := #[]) rfl rfl rfl (by kernel_rfl)
  (go_none0 (x := #[]) rfl rfl rfl (by kernel_rfl)
  (go_none0 (x := #[]) rfl rfl rfl (by kernel_rfl)
  (sK
  (by kernel_rfl)))))))))))))))
  (st_bm (by kernel_rfl) fun v100 h101 =>
  (rN (st_id (v := v100) (H := h101) (by kernel_rfl)
  (by kernel_rfl))))
  (by kernel_rfl))
theorem xm3_14 (zz : List V) (h : Hp) : opsP (xX s 3 wl k false) xg3_3 8 m0 ac (runK (xX s 3 wl k false) (bodyK s.P Tryz.f3) xk3_4) ⟨(t0::t1::t2::t3::t4::t5::t6::t7::t8::t9::ta::tb::tc::td::te::tf::tg::th::ti::tj::tk::tl::tm::tn::tp::tq::tr::ts::tt::tu::tv::tw::tx::ty::tz::tA::tB::tC::tD::tE::tF::tG::tH::tI::tJ::tK::tL::tM::tN::tO::tP::tQ::tR::tS::tT::tU::tV::tW::tX::tY::tZ::q0::q1::q2::q3::q4::q5::q6::q7::q8::q9::qa::qb::qc::qd::qe::qf::qg::qh::qi::qj::qk::ql::qm::qn::qo::qp::qq::qr::qs::qt::qu::zz),h⟩ =
  gd qo (
  bm (vLoad s.P 32 tg h) h fun v102 h103 =>
  bp (callV (xX s 3 wl k false) false true (.fn (.func 11) [] []) [qp,qq,qr,t3,v102] h103) fun v104 h105 =>
  opsP (xX s 3 wl k false) xg3_3 11 m0 ac (runK (xX s 3 wl k false) (bodyK s.P Tryz.f3) xk3_4) ⟨(t0::t1::t2::t3::t4::t5::t6::t7::t8::t9::ta::tb::tc::td::te::tf::tg::th::ti::tj::tk::tl::tm::tn::tp::tq::tr::ts::tt::tu::tv::tw::tx::ty::tz::tA::tB::tC::tD::tE::tF::tG::tH::tI::tJ::tK::tL::tM::tN::tO::tP::tQ::tR::tS::tT::tU::tV::tW::tX::tY::tZ::q0::q1::q2::q3::q4::q5::q6::q7::q8::q9::qa::qb::qc::qd::qe::qf::qg::qh::qi::qj::qk::ql::qm::qn::(V.lit (Value.bool true))::qp::qq::qr::t3::v102::v104::zz),h105⟩) (
  opsP (xX s 3 wl k false) xg3_3 11 m0 ac (runK (xX s 3 wl k false) (bodyK s.P Tryz.f3) xk3_4) ⟨(t0::t1::t2::t3::t4::t5::t6::t7::t8::t9::ta::tb::tc::td::te::tf::tg::th::ti::tj::tk::tl::tm::tn::tp::tq::tr::ts::tt::tu::tv::tw::tx::ty::tz::tA::tB::tC::tD::tE::tF::tG::tH::tI::tJ::tK::tL::tM::tN::tO::tP::tQ::tR::tS::tT::tU::tV::tW::tX::tY::tZ::q0::q1::q2::q3::q4::q5::q6::q7::q8::q9::qa::qb::qc::qd::qe::qf::qg::qh::qi::qj::qk::ql::qm::qn::(V.lit (Value.bool false))::qp::qq::qr::uu::uu::uu::zz),h⟩) (
  opsP (xX s 3 wl k false) xg3_3 9 m0 ac (runK (xX s 3 wl k false) (bodyK s.P Tryz.f3) xk3_4) ⟨(t0::t1::t2::t3::t4::t5::t6::t7::t8::t9::ta::tb::tc::td::te::tf::tg::th::ti::tj::tk::tl::tm::tn::tp::tq::tr::ts::tt::tu::tv::tw::tx::ty::tz::tA::tB::tC::tD::tE::tF::tG::tH::tI::tJ::tK::tL::tM::tN::tO::tP::tQ::tR::tS::tT::tU::tV::tW::tX::tY::tZ::q0::q1::q2::q3::q4::q5::q6::q7::q8::q9::qa::qb::qc::qd::qe::qf::qg::qh::qi::qj::qk::ql::qm::qn::qo::qp::qq::qr::uu::qt::qu::zz),h⟩) :=
  (go_gdT0 rfl rfl rfl (by kernel_rfl)
  (st_id (v := t3) (H := h) (by kernel_rfl)
  (rN (st_bm (by kernel_rfl) fun v102 h103 =>
  (rN (st_bp (by kernel_rfl) fun v104 h105 =>
  (by kernel_rfl))))))
  (sK
  (sK
  (by kernel_rfl)))
  (by kernel_rfl))
theorem xm3_15 (zz : List V) (h : Hp) : opsP (xX s 3 wl k false) xg3_3 18 m0 ac (runK (xX s 3 wl k false) (bodyK s.P Tryz.f3) xk3_4) ⟨(t0::t1::t2::t3::t4::t5::t6::t7::t8::t9::ta::tb::tc::td::te::tf::tg::th::ti::tj::tk::tl::tm::tn::tp::tq::tr::ts::tt::tu::tv::tw::tx::ty::tz::tA::tB::tC::tD::tE::tF::tG::tH::tI::tJ::tK::tL::tM::tN::tO::tP::tQ::tR::tS::tT::tU::tV::tW::tX::tY::tZ::q0::q1::q2::q3::q4::q5::q6::q7::q8::q9::qa::qb::qc::qd::qe::qf::qg::qh::qi::qj::qk::ql::qm::qn::qo::qp::qq::qr::qs::qt::qu::qv::qw::qx::qy::qz::qA::qB::qC::qD::qE::qF::qG::qH::qJ::qK::qL::qN::qO::zz),h⟩ =
  gd qw (
  opsP (xX s 3 wl k false) xg3_3 29 m0 ac (runK (xX s 3 wl k false) (bodyK s.P Tryz.f3) xk3_4) ⟨(t0::t1::t2::t3::t4::t5::t6::t7::t8::t9::ta::tb::tc::td::te::tf::tg::th::ti::tj::tk::tl::tm::tn::tp::tq::tr::ts::tt::tu::tv::tw::tx::ty::tz::tA::tB::tC::tD::tE::tF::tG::tH::tI::tJ::tK::tL::tM::tN::tO::tP::tQ::tR::tS::tT::tU::tV::tW::tX::tY::tZ::q0::q1::q2::q3::q4::q5::q6::q7::q8::q9::qa::qb::qc::qd::qe::qf::qg::qh::qi::qj::qk::ql::qm::qn::qo::qp::qq::qr::qs::qt::qu::qv::(V.lit (Value.bool true))::qx::qy::qz::qA::qB::uu::uu::uu::uu::uu::uu::uu::uu::uu::uu::uu::zz),h⟩) (
  bm (vPick qz qB (V.lit (Value.bool false))) h fun v106 h107 =>
  opsP (xX s 3 wl k false) xg3_3 20 m0 ac (runK (xX s 3 wl k false) (bodyK s.P Tryz.f3) xk3_4) ⟨(t0::t1::t2::t3::t4::t5::t6::t7::t8::t9::ta::tb::tc::td::te::tf::tg::th::ti::tj::tk::tl::tm::tn::tp::tq::tr::ts::tt::tu::tv::tw::tx::ty::tz::tA::tB::tC::tD::tE::tF::tG::tH::tI::tJ::tK::tL::tM::tN::tO::tP::tQ::tR::tS::tT::tU::tV::tW::tX::tY::tZ::q0::q1::q2::q3::q4::q5::q6::q7::q8::q9::qa::qb::qc::qd::qe::qf::qg::qh::qi::qj::qk::ql::qm::qn::qo::qp::qq::qr::qs::qt::qu::qv::(V.lit (Value.bool false))::qx::qy::qz::qA::qB::v106::v106::qE::qF::qG::qH::qJ::qK::qL::qN::qO::zz),h107⟩) (
  opsP (xX s 3 wl k false) xg3_3 19 m0 ac (runK (xX s 3 wl k false) (bodyK s.P Tryz.f3) xk3_4) ⟨(t0::t1::t2::t3::t4::t5::t6::t7::t8::t9::ta::tb::tc::td::te::tf::tg::th::ti::tj::tk::tl::tm::tn::tp::tq::tr::ts::tt::tu::tv::tw::tx::ty::tz::tA::tB::tC::tD::tE::tF::tG::tH::tI::tJ::tK::tL::tM::tN::tO::tP::tQ::tR::tS::tT::tU::tV::tW::tX::tY::tZ::q0::q1::q2::q3::q4::q5::q6::q7::q8::q9::qa::qb::qc::qd::qe::qf::qg::qh::qi::qj::qk::ql::qm::qn::qo::qp::qq::qr::qs::qt::qu::qv::qw::qx::qy::qz::qA::qB::uu::qD::qE::qF::qG::qH::qJ::qK::qL::qN::qO::zz),h⟩) :=
  (go_gdF0 rfl rfl rfl (by kernel_rfl)
  (sK
  (go_none0 (x := #[]) rfl rfl rfl (by kernel_rfl)
  (go_none0 (x := #[]) rfl rfl rfl (by kernel_rfl)
  (go_none0 (x := #[]) rfl rfl rfl (by kernel_rfl)
  (sK
  (sK
  (go_none0 (x := #[]) rfl rfl rfl (by kernel_rfl)
  (go_none0 (x := #[]) rfl rfl rfl (by kernel_rfl)
  (go_none0 (x := #[]) rfl rfl rfl (by kernel_rfl)
  (sK
  (by kernel_rfl)))))))))))
  (st_bm (by kernel_rfl) fun v106 h107 =>
  (rN (st_id (v := v106) (H := h107) (by kernel_rfl)
  (by kernel_rfl))))
  (by kernel_rfl))
theorem xm3_16 (zz : List V) (h : Hp) : opsP (xX s 3 wl k false) xg3_3 17 m0 ac (runK (xX s 3 wl k false) (bodyK s.P Tryz.f3) xk3_4) ⟨(t0::t1::t2::t3::t4::t5::t6::t7::t8::t9::ta::tb::tc::td::te::tf::tg::th::ti::tj::tk::tl::tm::tn::tp::tq::tr::ts::tt::tu::tv::tw::tx::ty::tz::tA::tB::tC::tD::tE::tF::tG::tH::tI::tJ::tK::tL::tM::tN::tO::tP::tQ::tR::tS::tT::tU::tV::tW::tX::tY::tZ::q0::q1::q2::q3::q4::q5::q6::q7::q8::q9::qa::qb::qc::qd::qe::qf::qg::qh::qi::qj::qk::ql::qm::qn::qo::qp::qq::qr::qs::qt::qu::qv::qw::qx::qy::qz::qA::qB::zz),h⟩ =
  gd qz (
  bm (vBin s.P .eql 3 qA (V.lit (Value.int .i64 0))) h fun v108 h109 =>
  opsP (xX s 3 wl k false) xg3_3 18 m0 ac (runK (xX s 3 wl k false) (bodyK s.P Tryz.f3) xk3_4) ⟨(t0::t1::t2::t3::t4::t5::t6::t7::t8::t9::ta::tb::tc::td::te::tf::tg::th::ti::tj::tk::tl::tm::tn::tp::tq::tr::ts::tt::tu::tv::tw::tx::ty::tz::tA::tB::tC::tD::tE::tF::tG::tH::tI::tJ::tK::tL::tM::tN::tO::tP::tQ::tR::tS::tT::tU::tV::tW::tX::tY::tZ::q0::q1::q2::q3::q4::q5::q6::q7::q8::q9::qa::qb::qc::qd::qe::qf::qg::qh::qi::qj::qk::ql::qm::qn::qo::qp::qq::qr::qs::qt::qu::qv::qw::qx::qy::(V.lit (Value.bool true))::qA::v108::zz),h109⟩) (
  opsP (xX s 3 wl k false) xg3_3 18 m0 ac (runK (xX s 3 wl k false) (bodyK s.P Tryz.f3) xk3_4) ⟨(t0::t1::t2::t3::t4::t5::t6::t7::t8::t9::ta::tb::tc::td::te::tf::tg::th::ti::tj::tk::tl::tm::tn::tp::tq::tr::ts::tt::tu::tv::tw::tx::ty::tz::tA::tB::tC::tD::tE::tF::tG::tH::tI::tJ::tK::tL::tM::tN::tO::tP::tQ::tR::tS::tT::tU::tV::tW::tX::tY::tZ::q0::q1::q2::q3::q4::q5::q6::q7::q8::q9::qa::qb::qc::qd::qe::qf::qg::qh::qi::qj::qk::ql::qm::qn::qo::qp::qq::qr::qs::qt::qu::qv::qw::qx::qy::(V.lit (Value.bool false))::qA::uu::zz),h⟩) (
  opsP (xX s 3 wl k false) xg3_3 18 m0 ac (runK (xX s 3 wl k false) (bodyK s.P Tryz.f3) xk3_4) ⟨(t0::t1::t2::t3::t4::t5::t6::t7::t8::t9::ta::tb::tc::td::te::tf::tg::th::ti::tj::tk::tl::tm::tn::tp::tq::tr::ts::tt::tu::tv::tw::tx::ty::tz::tA::tB::tC::tD::tE::tF::tG::tH::tI::tJ::tK::tL::tM::tN::tO::tP::tQ::tR::tS::tT::tU::tV::tW::tX::tY::tZ::q0::q1::q2::q3::q4::q5::q6::q7::q8::q9::qa::qb::qc::qd::qe::qf::qg::qh::qi::qj::qk::ql::qm::qn::qo::qp::qq::qr::qs::qt::qu::qv::qw::qx::qy::qz::qA::uu::zz),h⟩) :=
  (go_gdT0 rfl rfl rfl (by kernel_rfl)
  (st_bm (by kernel_rfl) fun v108 h109 =>
  (by kernel_rfl))
  (by kernel_rfl)
  (by kernel_rfl))
theorem xm3_17 (zz : List V) (h : Hp) : opsP (xX s 3 wl k false) xg3_3 15 m0 ac (runK (xX s 3 wl k false) (bodyK s.P Tryz.f3) xk3_4) ⟨(t0::t1::t2::t3::t4::t5::t6::t7::t8::t9::ta::tb::tc::td::te::tf::tg::th::ti::tj::tk::tl::tm::tn::tp::tq::tr::ts::tt::tu::tv::tw::tx::ty::tz::tA::tB::tC::tD::tE::tF::tG::tH::tI::tJ::tK::tL::tM::tN::tO::tP::tQ::tR::tS::tT::tU::tV::tW::tX::tY::tZ::q0::q1::q2::q3::q4::q5::q6::q7::q8::q9::qa::qb::qc::qd::qe::qf::qg::qh::qi::qj::qk::ql::qm::qn::qo::qp::qq::qr::qs::qt::qu::qv::qw::qx::qy::qz::qA::qB::qC::qD::qE::qF::qG::qH::qJ::qK::qL::qN::qO::zz),h⟩ =
  gd qw (
  opsP (xX s 3 wl k false) xg3_3 29 m0 ac (runK (xX s 3 wl k false) (bodyK s.P Tryz.f3) xk3_4) ⟨(t0::t1::t2::t3::t4::t5::t6::t7::t8::t9::ta::tb::tc::td::te::tf::tg::th::ti::tj::tk::tl::tm::tn::tp::tq::tr::ts::tt::tu::tv::tw::tx::ty::tz::tA::tB::tC::tD::tE::tF::tG::tH::tI::tJ::tK::tL::tM::tN::tO::tP::tQ::tR::tS::tT::tU::tV::tW::tX::tY::tZ::q0::q1::q2::q3::q4::q5::q6::q7::q8::q9::qa::qb::qc::qd::qe::qf::qg::qh::qi::qj::qk::ql::qm::qn::qo::qp::qq::qr::qs::qt::qu::qv::(V.lit (Value.bool true))::qx::qy::uu::uu::uu::uu::uu::uu::uu::uu::uu::uu::uu::uu::uu::uu::zz),h⟩) (
  opsP (xX s 3 wl k false) xg3_3 16 m0 ac (runK (xX s 3 wl k false) (bodyK s.P Tryz.f3) xk3_4) ⟨(t0::t1::t2::t3::t4::t5::t6::t7::t8::t9::ta::tb::tc::td::te::tf::tg::th::ti::tj::tk::tl::tm::tn::tp::tq::tr::ts::tt::tu::tv::tw::tx::ty::tz::tA::tB::tC::tD::tE::tF::tG::tH::tI::tJ::tK::tL::tM::tN::tO::tP::tQ::tR::tS::tT::tU::tV::tW::tX::tY::tZ::q0::q1::q2::q3::q4::q5::q6::q7::q8::q9::qa::qb::qc::qd::qe::qf::qg::qh::qi::qj::qk::ql::qm::qn::qo::qp::qq::qr::qs::qt::qu::qv::(V.lit (Value.bool false))::qx::qy::qy::qA::qB::qC::qD::qE::qF::qG::qH::qJ::qK::qL::qN::qO::zz),h⟩) (
  opsP (xX s 3 wl k false) xg3_3 16 m0 ac (runK (xX s 3 wl k false) (bodyK s.P Tryz.f3) xk3_4) ⟨(t0::t1::t2::t3::t4::t5::t6::t7::t8::t9::ta::tb::tc::td::te::tf::tg::th::ti::tj::tk::tl::tm::tn::tp::tq::tr::ts::tt::tu::tv::tw::tx::ty::tz::tA::tB::tC::tD::tE::tF::tG::tH::tI::tJ::tK::tL::tM::tN::tO::tP::tQ::tR::tS::tT::tU::tV::tW::tX::tY::tZ::q0::q1::q2::q3::q4::q5::q6::q7::q8::q9::qa::qb::qc::qd::qe::qf::qg::qh::qi::qj::qk::ql::qm::qn::qo::qp::qq::qr::qs::qt::qu::qv::qw::qx::qy::uu::qA::qB::qC::qD::qE::qF::qG::qH::qJ::qK::qL::qN::qO::zz),h⟩) :=
  (go_gdF0 rfl rfl rfl (by kernel_rfl)
  (go_none0 (x := #[]) rfl rfl rfl (by kernel_rfl)
  (go_none0 (x := #[]) rfl rfl rfl (by kernel_rfl)
  (sK
  (sK
  (go_none0 (x := #[]) rfl rfl rfl (by kernel_rfl)
  (go_none0 (x := #[]) rfl rfl rfl (by kernel_rfl)
  (go_none0 (x := #[]) rfl rfl rfl (by kernel_rfl)
  (sK
  (sK
  (go_none0 (x := #[]) rfl rfl rfl (by kernel_rfl)
  (go_none0 (x := #[]) rfl rfl rfl (by kernel_rfl)
  (go_none0 (x := #[]) rfl rfl rfl (by kernel_rfl)
  (sK
  (by kernel_rfl))))))))))))))
  (st_id (v := qy) (H := h) (by kernel_rfl)
  (by kernel_rfl))
  (by kernel_rfl))
theorem xm3_18 (zz : List V) (h : Hp) : opsP (xX s 3 wl k false) xg3_3 9 m0 ac (runK (xX s 3 wl k false) (bodyK s.P Tryz.f3) xk3_4) ⟨(t0::t1::t2::t3::t4::t5::t6::t7::t8::t9::ta::tb::tc::td::te::tf::tg::th::ti::tj::tk::tl::tm::tn::tp::tq::tr::ts::tt::tu::tv::tw::tx::ty::tz::tA::tB::tC::tD::tE::tF::tG::tH::tI::tJ::tK::tL::tM::tN::tO::tP::tQ::tR::tS::tT::tU::tV::tW::tX::tY::tZ::q0::q1::q2::q3::q4::q5::q6::q7::q8::q9::qa::qb::qc::qd::qe::qf::qg::qh::qi::qj::qk::ql::qm::qn::qo::qp::qq::qr::qs::qt::qu::zz),h⟩ =
  gd qo (
  bm (vLoad s.P 32 tg h) h fun v110 h111 =>
  bp (callV (xX s 3 wl k false) false true (.fn (.func 11) [] []) [qp,qq,qr,qs,v110] h111) fun v112 h113 =>
  opsP (xX s 3 wl k false) xg3_3 11 m0 ac (runK (xX s 3 wl k false) (bodyK s.P Tryz.f3) xk3_4) ⟨(t0::t1::t2::t3::t4::t5::t6::t7::t8::t9::ta::tb::tc::td::te::tf::tg::th::ti::tj::tk::tl::tm::tn::tp::tq::tr::ts::tt::tu::tv::tw::tx::ty::tz::tA::tB::tC::tD::tE::tF::tG::tH::tI::tJ::tK::tL::tM::tN::tO::tP::tQ::tR::tS::tT::tU::tV::tW::tX::tY::tZ::q0::q1::q2::q3::q4::q5::q6::q7::q8::q9::qa::qb::qc::qd::qe::qf::qg::qh::qi::qj::qk::ql::qm::qn::(V.lit (Value.bool true))::qp::qq::qr::qs::v110::v112::zz),h113⟩) (
  opsP (xX s 3 wl k false) xg3_3 11 m0 ac (runK (xX s 3 wl k false) (bodyK s.P Tryz.f3) xk3_4) ⟨(t0::t1::t2::t3::t4::t5::t6::t7::t8::t9::ta::tb::tc::td::te::tf::tg::th::ti::tj::tk::tl::tm::tn::tp::tq::tr::ts::tt::tu::tv::tw::tx::ty::tz::tA::tB::tC::tD::tE::tF::tG::tH::tI::tJ::tK::tL::tM::tN::tO::tP::tQ::tR::tS::tT::tU::tV::tW::tX::tY::tZ::q0::q1::q2::q3::q4::q5::q6::q7::q8::q9::qa::qb::qc::qd::qe::qf::qg::qh::qi::qj::qk::ql::qm::qn::(V.lit (Value.bool false))::qp::qq::qr::qs::uu::uu::zz),h⟩) (
  opsP (xX s 3 wl k false) xg3_3 10 m0 ac (runK (xX s 3 wl k false) (bodyK s.P Tryz.f3) xk3_4) ⟨(t0::t1::t2::t3::t4::t5::t6::t7::t8::t9::ta::tb::tc::td::te::tf::tg::th::ti::tj::tk::tl::tm::tn::tp::tq::tr::ts::tt::tu::tv::tw::tx::ty::tz::tA::tB::tC::tD::tE::tF::tG::tH::tI::tJ::tK::tL::tM::tN::tO::tP::tQ::tR::tS::tT::tU::tV::tW::tX::tY::tZ::q0::q1::q2::q3::q4::q5::q6::q7::q8::q9::qa::qb::qc::qd::qe::qf::qg::qh::qi::qj::qk::ql::qm::qn::qo::qp::qq::qr::qs::uu::qu::zz),h⟩) :=
  (go_gdT0 rfl rfl rfl (by kernel_rfl)
  (st_bm (by kernel_rfl) fun v110 h111 =>
  (rN (st_bp (by kernel_rfl) fun v112 h113 =>
  (by kernel_rfl))))
  (sK
  (by kernel_rfl))
  (by kernel_rfl))
theorem xm3_19 (zz : List V) (h : Hp) : opsP (xX s 3 wl k false) xg3_3 20 m0 ac (runK (xX s 3 wl k false) (bodyK s.P Tryz.f3) xk3_4) ⟨(t0::t1::t2::t3::t4::t5::t6::t7::t8::t9::ta::tb::tc::td::te::tf::tg::th::ti::tj::tk::tl::tm::tn::tp::tq::tr::ts::tt::tu::tv::tw::tx::ty::tz::tA::tB::tC::tD::tE::tF::tG::tH::tI::tJ::tK::tL::tM::tN::tO::tP::tQ::tR::tS::tT::tU::tV::tW::tX::tY::tZ::q0::q1::q2::q3::q4::q5::q6::q7::q8::q9::qa::qb::qc::qd::qe::qf::qg::qh::qi::qj::qk::ql::qm::qn::qo::qp::qq::qr::qs::qt::qu::qv::qw::qx::qy::qz::qA::qB::qC::qD::qE::qF::qG::zz),h⟩ =
  gd qD (
  bp (opLen s.P 35 th h) fun v114 h115 =>
  bm (vBin s.P .eql 3 v114 (V.lit (Value.int .i64 0))) h115 fun v116 h117 =>
  opsP (xX s 3 wl k false) xg3_3 23 m0 ac (runK (xX s 3 wl k false) (bodyK s.P Tryz.f3) xk3_4) ⟨(t0::t1::t2::t3::t4::t5::t6::t7::t8::t9::ta::tb::tc::td::te::tf::tg::th::ti::tj::tk::tl::tm::tn::tp::tq::tr::ts::tt::tu::tv::tw::tx::ty::tz::tA::tB::tC::tD::tE::tF::tG::tH::tI::tJ::tK::tL::tM::tN::tO::tP::tQ::tR::tS::tT::tU::tV::tW::tX::tY::tZ::q0::q1::q2::q3::q4::q5::q6::q7::q8::q9::qa::qb::qc::qd::qe::qf::qg::qh::qi::qj::qk::ql::qm::qn::qo::qp::qq::qr::qs::qt::qu::qv::qw::qx::qy::qz::qA::qB::qC::(V.lit (Value.bool true))::th::v114::v116::zz),h117⟩) (
  opsP (xX s 3 wl k false) xg3_3 23 m0 ac (runK (xX s 3 wl k false) (bodyK s.P Tryz.f3) xk3_4) ⟨(t0::t1::t2::t3::t4::t5::t6::t7::t8::t9::ta::tb::tc::td::te::tf::tg::th::ti::tj::tk::tl::tm::tn::tp::tq::tr::ts::tt::tu::tv::tw::tx::ty::tz::tA::tB::tC::tD::tE::tF::tG::tH::tI::tJ::tK::tL::tM::tN::tO::tP::tQ::tR::tS::tT::tU::tV::tW::tX::tY::tZ::q0::q1::q2::q3::q4::q5::q6::q7::q8::q9::qa::qb::qc::qd::qe::qf::qg::qh::qi::qj::qk::ql::qm::qn::qo::qp::qq::qr::qs::qt::qu::qv::qw::qx::qy::qz::qA::qB::qC::(V.lit (Value.bool false))::uu::uu::uu::zz),h⟩) (
  opsP (xX s 3 wl k false) xg3_3 21 m0 ac (runK (xX s 3 wl k false) (bodyK s.P Tryz.f3) xk3_4) ⟨(t0::t1::t2::t3::t4::t5::t6::t7::t8::t9::ta::tb::tc::td::te::tf::tg::th::ti::tj::tk::tl::tm::tn::tp::tq::tr::ts::tt::tu::tv::tw::tx::ty::tz::tA::tB::tC::tD::tE::tF::tG::tH::tI::tJ::tK::tL::tM::tN::tO::tP::tQ::tR::tS::tT::tU::tV::tW::tX::tY::tZ::q0::q1::q2::q3::q4::q5::q6::q7::q8::q9::qa::qb::qc::qd::qe::qf::qg::qh::qi::qj::qk::ql::qm::qn::qo::qp::qq::qr::qs::qt::qu::qv::qw::qx::qy::qz::qA::qB::qC::qD::uu::qF::qG::zz),h⟩) :=
  (go_gdT0 rfl rfl rfl (by kernel_rfl)
  (st_id (v := th) (H := h) (by kernel_rfl)
  (rN (st_bp (by kernel_rfl) fun v114 h115 =>
  (rN (st_bm (by kernel_rfl) fun v116 h117 =>
  (by kernel_rfl))))))
  (sK
  (sK
  (by kernel_rfl)))
  (by kernel_rfl))
theorem xm3_20 (zz : List V) (h : Hp) : opsP (xX s 3 wl k false) xg3_3 19 m0 ac (runK (xX s 3 wl k false) (bodyK s.P Tryz.f3) xk3_4) ⟨(t0::t1::t2::t3::t4::t5::t6::t7::t8::t9::ta::tb::tc::td::te::tf::tg::th::ti::tj::tk::tl::tm::tn::tp::tq::tr::ts::tt::tu::tv::tw::tx::ty::tz::tA::tB::tC::tD::tE::tF::tG::tH::tI::tJ::tK::tL::tM::tN::tO::tP::tQ::tR::tS::tT::tU::tV::tW::tX::tY::tZ::q0::q1::q2::q3::q4::q5::q6::q7::q8::q9::qa::qb::qc::qd::qe::qf::qg::qh::qi::qj::qk::ql::qm::qn::qo::qp::qq::qr::qs::qt::qu::qv::qw::qx::qy::qz::qA::qB::qC::qD::qE::qF::qG::qH::qJ::qK::qL::qN::qO::zz),h⟩ =
  gd qw (
  opsP (xX s 3 wl k false) xg3_3 29 m0 ac (runK (xX s 3 wl k false) (bodyK s.P Tryz.f3) xk3_4) ⟨(t0::t1::t2::t3::t4::t5::t6::t7::t8::t9::ta::tb::tc::td::te::tf::tg::th::ti::tj::tk::tl::tm::tn::tp::tq::tr::ts::tt::tu::tv::tw::tx::ty::tz::tA::tB::tC::tD::tE::tF::tG::tH::tI::tJ::tK::tL::tM::tN::tO::tP::tQ::tR::tS::tT::tU::tV::tW::tX::tY::tZ::q0::q1::q2::q3::q4::q5::q6::q7::q8::q9::qa::qb::qc::qd::qe::qf::qg::qh::qi::qj::qk::ql::qm::qn::qo::qp::qq::qr::qs::qt::qu::qv::(V.lit (Value.bool true))::qx::qy::qz::qA::qB::qC::uu::uu::uu::uu::uu::uu::uu::uu::uu::uu::zz),h⟩) (
  opsP (xX s 3 wl k false) xg3_3 20 m0 ac (runK (xX s 3 wl k false) (bodyK s.P Tryz.f3) xk3_4) ⟨(t0::t1::t2::t3::t4::t5::t6::t7::t8::t9::ta::tb::tc::td::te::tf::tg::th::ti::tj::tk::tl::tm::tn::tp::tq::tr::ts::tt::tu::tv::tw::tx::ty::tz::tA::tB::tC::tD::tE::tF::tG::tH::tI::tJ::tK::tL::tM::tN::tO::tP::tQ::tR::tS::tT::tU::tV::tW::tX::tY::tZ::q0::q1::q2::q3::q4::q5::q6::q7::q8::q9::qa::qb::qc::qd::qe::qf::qg::qh::qi::qj::qk::ql::qm::qn::qo::qp::qq::qr::qs::qt::qu::qv::(V.lit (Value.bool false))::qx::qy::qz::qA::qB::qC::qC::qE::qF::qG::qH::qJ::qK::qL::qN::qO::zz),h⟩) (
  opsP (xX s 3 wl k false) xg3_3 20 m0 ac (runK (xX s 3 wl k false) (bodyK s.P Tryz.f3) xk3_4) ⟨(t0::t1::t2::t3::t4::t5::t6::t7::t8::t9::ta::tb::tc::td::te::tf::tg::th::ti::tj::tk::tl::tm::tn::tp::tq::tr::ts::tt::tu::tv::tw::tx::ty::tz::tA::tB::tC::tD::tE::tF::tG::tH::tI::tJ::tK::tL::tM::tN::tO::tP::tQ::tR::tS::tT::tU::tV::tW::tX::tY::tZ::q0::q1::q2::q3::q4::q5::q6::q7::q8::q9::qa::qb::qc::qd::qe::qf::qg::qh::qi::qj::qk::ql::qm::qn::qo::qp::qq::qr::qs::qt::qu::qv::qw::qx::qy::qz::qA::qB::qC::uu::qE::qF::qG::qH::qJ::qK::qL::qN::qO::zz),h⟩) :=
  (go_gdF0 rfl rfl rfl (by kernel_rfl)
  (go_none0 (x := #[]) rfl rfl rfl (by kernel_rfl)
  (go_none0 (x := #[]) rfl rfl rfl (by kernel_rfl)
  (go_none0 (x := #[]) rfl rfl rfl (by kernel_rfl)
  (sK
  (sK
  (go_none0 (x := #[]) rfl rfl rfl (by kernel_rfl)
  (go_none0 (x := #[]) rfl rfl rfl (by kernel_rfl)
  (go_none0 (x := #[]) rfl rfl rfl (by kernel_rfl)
  (sK
  (by kernel_rfl))))))))))
  (st_id (v := qC) (H := h) (by kernel_rfl)
  (by kernel_rfl))
  (by kernel_rfl))
theorem xm3_21 (zz : List V) (h : Hp) : opsP (xX s 3 wl k false) xg3_3 10 m0 ac (runK (xX s 3 wl k false) (bodyK s.P Tryz.f3) xk3_4) ⟨(t0::t1::t2::t3::t4::t5::t6::t7::t8::t9::ta::tb::tc::td::te::tf::tg::th::ti::tj::tk::tl::tm::tn::tp::tq::tr::ts::tt::tu::tv::tw::tx::ty::tz::tA::tB::tC::tD::tE::tF::tG::tH::tI::tJ::tK::tL::tM::tN::tO::tP::tQ::tR::tS::tT::tU::tV::tW::tX::tY::tZ::q0::q1::q2::q3::q4::q5::q6::q7::q8::q9::qa::qb::qc::qd::qe::qf::qg::qh::qi::qj::qk::ql::qm::qn::qo::qp::qq::qr::qs::qt::qu::zz),h⟩ =
  gd qo (
  bp (callV (xX s 3 wl k false) false true (.fn (.func 11) [] []) [qp,qq,qr,qs,qt] h) fun v118 h119 =>
  opsP (xX s 3 wl k false) xg3_3 11 m0 ac (runK (xX s 3 wl k false) (bodyK s.P Tryz.f3) xk3_4) ⟨(t0::t1::t2::t3::t4::t5::t6::t7::t8::t9::ta::tb::tc::td::te::tf::tg::th::ti::tj::tk::tl::tm::tn::tp::tq::tr::ts::tt::tu::tv::tw::tx::ty::tz::tA::tB::tC::tD::tE::tF::tG::tH::tI::tJ::tK::tL::tM::tN::tO::tP::tQ::tR::tS::tT::tU::tV::tW::tX::tY::tZ::q0::q1::q2::q3::q4::q5::q6::q7::q8::q9::qa::qb::qc::qd::qe::qf::qg::qh::qi::qj::qk::ql::qm::qn::(V.lit (Value.bool true))::qp::qq::qr::qs::qt::v118::zz),h119⟩) (
  opsP (xX s 3 wl k false) xg3_3 11 m0 ac (runK (xX s 3 wl k false) (bodyK s.P Tryz.f3) xk3_4) ⟨(t0::t1::t2::t3::t4::t5::t6::t7::t8::t9::ta::tb::tc::td::te::tf::tg::th::ti::tj::tk::tl::tm::tn::tp::tq::tr::ts::tt::tu::tv::tw::tx::ty::tz::tA::tB::tC::tD::tE::tF::tG::tH::tI::tJ::tK::tL::tM::tN::tO::tP::tQ::tR::tS::tT::tU::tV::tW::tX::tY::tZ::q0::q1::q2::q3::q4::q5::q6::q7::q8::q9::qa::qb::qc::qd::qe::qf::qg::qh::qi::qj::qk::ql::qm::qn::(V.lit (Value.bool false))::qp::qq::qr::qs::qt::uu::zz),h⟩) (
  opsP (xX s 3 wl k false) xg3_3 11 m0 ac (runK (xX s 3 wl k false) (bodyK s.P Tryz.f3) xk3_4) ⟨(t0::t1::t2::t3::t4::t5::t6::t7::t8::t9::ta::tb::tc::td::te::tf::tg::th::ti::tj::tk::tl::tm::tn::tp::tq::tr::ts::tt::tu::tv::tw::tx::ty::tz::tA::tB::tC::tD::tE::tF::tG::tH::tI::tJ::tK::tL::tM::tN::tO::tP::tQ::tR::tS::tT::tU::tV::tW::tX::tY::tZ::q0::q1::q2::q3::q4::q5::q6::q7::q8::q9::qa::qb::qc::qd::qe::qf::qg::qh::qi::qj::qk::ql::qm::qn::qo::qp::qq::qr::qs::qt::uu::zz),h⟩) :=
  (go_gdT0 rfl rfl rfl (by kernel_rfl)
  (st_bp (by kernel_rfl) fun v118 h119 =>
  (by kernel_rfl))
  (by kernel_rfl)
  (by kernel_rfl))
theorem xm3_22 (zz : List V) (h : Hp) : opsP (xX s 3 wl k false) xg3_3 23 m0 ac (runK (xX s 3 wl k false) (bodyK s.P Tryz.f3) xk3_4) ⟨(t0::t1::t2::t3::t4::t5::t6::t7::t8::t9::ta::tb::tc::td::te::tf::tg::th::ti::tj::tk::tl::tm::tn::tp::tq::tr::ts::tt::tu::tv::tw::tx::ty::tz::tA::tB::tC::tD::tE::tF::tG::tH::tI::tJ::tK::tL::tM::tN::tO::tP::tQ::tR::tS::tT::tU::tV::tW::tX::tY::tZ::q0::q1::q2::q3::q4::q5::q6::q7::q8::q9::qa::qb::qc::qd::qe::qf::qg::qh::qi::qj::qk::ql::qm::qn::qo::qp::qq::qr::qs::qt::qu::qv::qw::qx::qy::qz::qA::qB::qC::qD::qE::qF::qG::qH::qJ::qK::qL::qN::qO::zz),h⟩ =
  gd qw (
  opsP (xX s 3 wl k false) xg3_3 29 m0 ac (runK (xX s 3 wl k false) (bodyK s.P Tryz.f3) xk3_4) ⟨(t0::t1::t2::t3::t4::t5::t6::t7::t8::t9::ta::tb::tc::td::te::tf::tg::th::ti::tj::tk::tl::tm::tn::tp::tq::tr::ts::tt::tu::tv::tw::tx::ty::tz::tA::tB::tC::tD::tE::tF::tG::tH::tI::tJ::tK::tL::tM::tN::tO::tP::tQ::tR::tS::tT::tU::tV::tW::tX::tY::tZ::q0::q1::q2::q3::q4::q5::q6::q7::q8::q9::qa::qb::qc::qd::qe::qf::qg::qh::qi::qj::qk::ql::qm::qn::qo::qp::qq::qr::qs::qt::qu::qv::(V.lit (Value.bool true))::qx::qy::qz::qA::qB::qC::qD::qE::qF::qG::uu::uu::uu::uu::uu::uu::zz),h⟩) (
  bm (vPick qD qG (V.lit (Value.bool false))) h fun v120 h121 =>
  opsP (xX s 3 wl k false) xg3_3 25 m0 ac (runK (xX s 3 wl k false) (bodyK s.P Tryz.f3) xk3_4) ⟨(t0::t1::t2::t3::t4::t5::t6::t7::t8::t9::ta::tb::tc::td::te::tf::tg::th::ti::tj::tk::tl::tm::tn::tp::tq::tr::ts::tt::tu::tv::tw::tx::ty::tz::tA::tB::tC::tD::tE::tF::tG::tH::tI::tJ::tK::tL::tM::tN::tO::tP::tQ::tR::tS::tT::tU::tV::tW::tX::tY::tZ::q0::q1::q2::q3::q4::q5::q6::q7::q8::q9::qa::qb::qc::qd::qe::qf::qg::qh::qi::qj::qk::ql::qm::qn::qo::qp::qq::qr::qs::qt::qu::qv::(V.lit (Value.bool false))::qx::qy::qz::qA::qB::qC::qD::qE::qF::qG::v120::v120::qK::qL::qN::qO::zz),h121⟩) (
  opsP (xX s 3 wl k false) xg3_3 24 m0 ac (runK (xX s 3 wl k false) (bodyK s.P Tryz.f3) xk3_4) ⟨(t0::t1::t2::t3::t4::t5::t6::t7::t8::t9::ta::tb::tc::td::te::tf::tg::th::ti::tj::tk::tl::tm::tn::tp::tq::tr::ts::tt::tu::tv::tw::tx::ty::tz::tA::tB::tC::tD::tE::tF::tG::tH::tI::tJ::tK::tL::tM::tN::tO::tP::tQ::tR::tS::tT::tU::tV::tW::tX::tY::tZ::q0::q1::q2::q3::q4::q5::q6::q7::q8::q9::qa::qb::qc::qd::qe::qf::qg::qh::qi::qj::qk::ql::qm::qn::qo::qp::qq::qr::qs::qt::qu::qv::qw::qx::qy::qz::qA::qB::qC::qD::qE::qF::qG::uu::qJ::qK::qL::qN::qO::zz),h⟩) :=
  (go_gdF0 rfl rfl rfl (by kernel_rfl)
  (sK
  (go_none0 (x := #[]) rfl rfl rfl (by kernel_rfl)
  (go_none0 (x := #[]) rfl rfl rfl (by kernel_rfl)
  (go_none0 (x := #[]) rfl rfl rfl (by kernel_rfl)
  (sK
  (by kernel_rfl))))))
  (st_bm (by kernel_rfl) fun v120 h121 =>
  (rN (st_id (v := v120) (H := h121) (by kernel_rfl)
  (by kernel_rfl))))
  (by kernel_rfl))
theorem xm3_23 (zz : List V) (h : Hp) : opsP (xX s 3 wl k false) xg3_3 21 m0 ac (runK (xX s 3 wl k false) (bodyK s.P Tryz.f3) xk3_4) ⟨(t0::t1::t2::t3::t4::t5::t6::t7::t8::t9::ta::tb::tc::td::te::tf::tg::th::ti::tj::tk::tl::tm::tn::tp::tq::tr::ts::tt::tu::tv::tw::tx::ty::tz::tA::tB::tC::tD::tE::tF::tG::tH::tI::tJ::tK::tL::tM::tN::tO::tP::tQ::tR::tS::tT::tU::tV::tW::tX::tY::tZ::q0::q1::q2::q3::q4::q5::q6::q7::q8::q9::qa::qb::qc::qd::qe::qf::qg::qh::qi::qj::qk::ql::qm::qn::qo::qp::qq::qr::qs::qt::qu::qv::qw::qx::qy::qz::qA::qB::qC::qD::qE::qF::qG::zz),h⟩ =
  gd qD (
  bp (opLen s.P 35 qE h) fun v122 h123 =>
  bm (vBin s.P .eql 3 v122 (V.lit (Value.int .i64 0))) h123 fun v124 h125 =>
  opsP (xX s 3 wl k false) xg3_3 23 m0 ac (runK (xX s 3 wl k false) (bodyK s.P Tryz.f3) xk3_4) ⟨(t0::t1::t2::t3::t4::t5::t6::t7::t8::t9::ta::tb::tc::td::te::tf::tg::th::ti::tj::tk::tl::tm::tn::tp::tq::tr::ts::tt::tu::tv::tw::tx::ty::tz::tA::tB::tC::tD::tE::tF::tG::tH::tI::tJ::tK::tL::tM::tN::tO::tP::tQ::tR::tS::tT::tU::tV::tW::tX::tY::tZ::q0::q1::q2::q3::q4::q5::q6::q7::q8::q9::qa::qb::qc::qd::qe::qf::qg::qh::qi::qj::qk::ql::qm::qn::qo::qp::qq::qr::qs::qt::qu::qv::qw::qx::qy::qz::qA::qB::qC::(V.lit (Value.bool true))::qE::v122::v124::zz),h125⟩) (
  opsP (xX s 3 wl k false) xg3_3 23 m0 ac (runK (xX s 3 wl k false) (bodyK s.P Tryz.f3) xk3_4) ⟨(t0::t1::t2::t3::t4::t5::t6::t7::t8::t9::ta::tb::tc::td::te::tf::tg::th::ti::tj::tk::tl::tm::tn::tp::tq::tr::ts::tt::tu::tv::tw::tx::ty::tz::tA::tB::tC::tD::tE::tF::tG::tH::tI::tJ::tK::tL::tM::tN::tO::tP::tQ::tR::tS::tT::tU::tV::tW::tX::tY::tZ::q0::q1::q2::q3::q4::q5::q6::q7::q8::q9::qa::qb::qc::qd::qe::qf::qg::qh::qi::qj::qk::ql::qm::qn::qo::qp::qq::qr::qs::qt::qu::qv::qw::qx::qy::qz::qA::qB::qC::(V.lit (Value.bool false))::qE::uu::uu::zz),h⟩) (
  opsP (xX s 3 wl k false) xg3_3 22 m0 ac (runK (xX s 3 wl k false) (bodyK s.P Tryz.f3) xk3_4) ⟨(t0::t1::t2::t3::t4::t5::t6::t7::t8::t9::ta::tb::tc::td::te::tf::tg::th::ti::tj::tk::tl::tm::tn::tp::tq::tr::ts::tt::tu::tv::tw::tx::ty::tz::tA::tB::tC::tD::tE::tF::tG::tH::tI::tJ::tK::tL::tM::tN::tO::tP::tQ::tR::tS::tT::tU::tV::tW::tX::tY::tZ::q0::q1::q2::q3::q4::q5::q6::q7::q8::q9::qa::qb::qc::qd::qe::qf::qg::qh::qi::qj::qk::ql::qm::qn::qo::qp::qq::qr::qs::qt::qu::qv::qw::qx::qy::qz::qA::qB::qC::qD::qE::uu::qG::zz),h⟩) :=
  (go_gdT0 rfl rfl rfl (by kernel_rfl)
  (st_bp (by kernel_rfl) fun v122 h123 =>
  (rN (st_bm (by kernel_rfl) fun v124 h125 =>
  (by kernel_rfl))))
  (sK
  (by kernel_rfl))
  (by kernel_rfl))
theorem xm3_24 (zz : List V) (h : Hp) : opsP (xX s 3 wl k false) xg3_3 25 m0 ac (runK (xX s 3 wl k false) (bodyK s.P Tryz.f3) xk3_4) ⟨(t0::t1::t2::t3::t4::t5::t6::t7::t8::t9::ta::tb::tc::td::te::tf::tg::th::ti::tj::tk::tl::tm::tn::tp::tq::tr::ts::tt::tu::tv::tw::tx::ty::tz::tA::tB::tC::tD::tE::tF::tG::tH::tI::tJ::tK::tL::tM::tN::tO::tP::tQ::tR::tS::tT::tU::tV::tW::tX::tY::tZ::q0::q1::q2::q3::q4::q5::q6::q7::q8::q9::qa::qb::qc::qd::qe::qf::qg::qh::qi::qj::qk::ql::qm::qn::qo::qp::qq::qr::qs::qt::qu::qv::qw::qx::qy::qz::qA::qB::qC::qD::qE::qF::qG::qH::qJ::qK::qL::qN::zz),h⟩ =
  gd qJ (
  bm (vLoad s.P 32 ta h) h fun v126 h127 =>
  bm (vLoad s.P 32 tg h127) h127 fun v128 h129 =>
  bp (callV (xX s 3 wl k false) false true (.fn (.func 12) [] []) [v126,v128] h129) fun v130 h131 =>
  opsP (xX s 3 wl k false) xg3_3 28 m0 ac (runK (xX s 3 wl k false) (bodyK s.P Tryz.f3) xk3_4) ⟨(t0::t1::t2::t3::t4::t5::t6::t7::t8::t9::ta::tb::tc::td::te::tf::tg::th::ti::tj::tk::tl::tm::tn::tp::tq::tr::ts::tt::tu::tv::tw::tx::ty::tz::tA::tB::tC::tD::tE::tF::tG::tH::tI::tJ::tK::tL::tM::tN::tO::tP::tQ::tR::tS::tT::tU::tV::tW::tX::tY::tZ::q0::q1::q2::q3::q4::q5::q6::q7::q8::q9::qa::qb::qc::qd::qe::qf::qg::qh::qi::qj::qk::ql::qm::qn::qo::qp::qq::qr::qs::qt::qu::qv::qw::qx::qy::qz::qA::qB::qC::qD::qE::qF::qG::qH::(V.lit (Value.bool true))::v126::v128::v130::zz),h131⟩) (
  opsP (xX s 3 wl k false) xg3_3 28 m0 ac (runK (xX s 3 wl k false) (bodyK s.P Tryz.f3) xk3_4) ⟨(t0::t1::t2::t3::t4::t5::t6::t7::t8::t9::ta::tb::tc::td::te::tf::tg::th::ti::tj::tk::tl::tm::tn::tp::tq::tr::ts::tt::tu::tv::tw::tx::ty::tz::tA::tB::tC::tD::tE::tF::tG::tH::tI::tJ::tK::tL::tM::tN::tO::tP::tQ::tR::tS::tT::tU::tV::tW::tX::tY::tZ::q0::q1::q2::q3::q4::q5::q6::q7::q8::q9::qa::qb::qc::qd::qe::qf::qg::qh::qi::qj::qk::ql::qm::qn::qo::qp::qq::qr::qs::qt::qu::qv::qw::qx::qy::qz::qA::qB::qC::qD::qE::qF::qG::qH::(V.lit (Value.bool false))::uu::uu::uu::zz),h⟩) (
  opsP (xX s 3 wl k false) xg3_3 26 m0 ac (runK (xX s 3 wl k false) (bodyK s.P Tryz.f3) xk3_4) ⟨(t0::t1::t2::t3::t4::t5::t6::t7::t8::t9::ta::tb::tc::td::te::tf::tg::th::ti::tj::tk::tl::tm::tn::tp::tq::tr::ts::tt::tu::tv::tw::tx::ty::tz::tA::tB::tC::tD::tE::tF::tG::tH::tI::tJ::tK::tL::tM::tN::tO::tP::tQ::tR::tS::tT::tU::tV::tW::tX::tY::tZ::q0::q1::q2::q3::q4::q5::q6::q7::q8::q9::qa::qb::qc::qd::qe::qf::qg::qh::qi::qj::qk::ql::qm::qn::qo::qp::qq::qr::qs::qt::qu::qv::qw::qx::qy::qz::qA::qB::qC::qD::qE::qF::qG::qH::qJ::uu::qL::qN::zz),h⟩) :=
  (go_gdT0 rfl rfl rfl (by kernel_rfl)
  (st_bm (by kernel_rfl) fun v126 h127 =>
  (rN (st_bm (by kernel_rfl) fun v128 h129 =>
  (rN (st_bp (by kernel_rfl) fun v130 h131 =>
  (by kernel_rfl))))))
  (sK
  (sK
  (by kernel_rfl)))
  (by kernel_rfl))
theorem xm3_25 (zz : List V) (h : Hp) : opsP (xX s 3 wl k false) xg3_3 24 m0 ac (runK (xX s 3 wl k false) (bodyK s.P Tryz.f3) xk3_4) ⟨(t0::t1::t2::t3::t4::t5::t6::t7::t8::t9::ta::tb::tc::td::te::tf::tg::th::ti::tj::tk::tl::tm::tn::tp::tq::tr::ts::tt::tu::tv::tw::tx::ty::tz::tA::tB::tC::tD::tE::tF::tG::tH::tI::tJ::tK::tL::tM::tN::tO::tP::tQ::tR::tS::tT::tU::tV::tW::tX::tY::tZ::q0::q1::q2::q3::q4::q5::q6::q7::q8::q9::qa::qb::qc::qd::qe::qf::qg::qh::qi::qj::qk::ql::qm::qn::qo::qp::qq::qr::qs::qt::qu::qv::qw::qx::qy::qz::qA::qB::qC::qD::qE::qF::qG::qH::qJ::qK::qL::qN::qO::zz),h⟩ =
  gd qw (
  opsP (xX s 3 wl k false) xg3_3 29 m0 ac (runK (xX s 3 wl k false) (bodyK s.P Tryz.f3) xk3_4) ⟨(t0::t1::t2::t3::t4::t5::t6::t7::t8::t9::ta::tb::tc::td::te::tf::tg::th::ti::tj::tk::tl::tm::tn::tp::tq::tr::ts::tt::tu::tv::tw::tx::ty::tz::tA::tB::tC::tD::tE::tF::tG::tH::tI::tJ::tK::tL::tM::tN::tO::tP::tQ::tR::tS::tT::tU::tV::tW::tX::tY::tZ::q0::q1::q2::q3::q4::q5::q6::q7::q8::q9::qa::qb::qc::qd::qe::qf::qg::qh::qi::qj::qk::ql::qm::qn::qo::qp::qq::qr::qs::qt::qu::qv::(V.lit (Value.bool true))::qx::qy::qz::qA::qB::qC::qD::qE::qF::qG::qH::uu::uu::uu::uu::uu::zz),h⟩) (
  opsP (xX s 3 wl k false) xg3_3 25 m0 ac (runK (xX s 3 wl k false) (bodyK s.P Tryz.f3) xk3_4) ⟨(t0::t1::t2::t3::t4::t5::t6::t7::t8::t9::ta::tb::tc::td::te::tf::tg::th::ti::tj::tk::tl::tm::tn::tp::tq::tr::ts::tt::tu::tv::tw::tx::ty::tz::tA::tB::tC::tD::tE::tF::tG::tH::tI::tJ::tK::tL::tM::tN::tO::tP::tQ::tR::tS::tT::tU::tV::tW::tX::tY::tZ::q0::q1::q2::q3::q4::q5::q6::q7::q8::q9::qa::qb::qc::qd::qe::qf::qg::qh::qi::qj::qk::ql::qm::qn::qo::qp::qq::qr::qs::qt::qu::qv::(V.lit (Value.bool false))::qx::qy::qz::qA::qB::qC::qD::qE::qF::qG::qH::qH::qK::qL::qN::qO::zz),h⟩) (
  opsP (xX s 3 wl k false) xg3_3 25 m0 ac (runK (xX s 3 wl k false) (bodyK s.P Tryz.f3) xk3_4) ⟨(t0::t1::t2::t3::t4::t5::t6::t7::t8::t9::ta::tb::tc::td::te::tf::tg::th::ti::tj::tk::tl::tm::tn::tp::tq::tr::ts::tt::tu::tv::tw::tx::ty::tz::tA::tB::tC::tD::tE::tF::tG::tH::tI::tJ::tK::tL::tM::tN::tO::tP::tQ::tR::tS::tT::tU::tV::tW::tX::tY::tZ::q0::q1::q2::q3::q4::q5::q6::q7::q8::q9::qa::qb::qc::qd::qe::qf::qg::qh::qi::qj::qk::ql::qm::qn::qo::qp::qq::qr::qs::qt::qu::qv::qw::qx::qy::qz::qA::qB::qC::qD::qE::qF::qG::qH::uu::qK::qL::qN::qO::zz),h⟩) :=
  (go_gdF0 rfl rfl rfl (by kernel_rfl)
  (go_none0 (x := #[]) rfl rfl rfl (by kernel_rfl)
  (go_none0 (x := #[]) rfl rfl rfl (by kernel_rfl)
  (go_none0 (x := #[]) rfl rfl rfl (by kernel_rfl)
  (sK
  (by kernel_rfl)))))
  (st_id (v := qH) (H := h) (by kernel_rfl)
  (by kernel_rfl))
  (by kernel_rfl))
theorem xm3_26 (zz : List V) (h : Hp) : opsP (xX s 3 wl k false) xg3_3 22 m0 ac (runK (xX s 3 wl k false) (bodyK s.P Tryz.f3) xk3_4) ⟨(t0::t1::t2::t3::t4::t5::t6::t7::t8::t9::ta::tb::tc::td::te::tf::tg::th::ti::tj::tk::tl::tm::tn::tp::tq::tr::ts::tt::tu::tv::tw::tx::ty::tz::tA::tB::tC::tD::tE::tF::tG::tH::tI::tJ::tK::tL::tM::tN::tO::tP::tQ::tR::tS::tT::tU::tV::tW::tX::tY::tZ::q0::q1::q2::q3::q4::q5::q6::q7::q8::q9::qa::qb::qc::qd::qe::qf::qg::qh::qi::qj::qk::ql::qm::qn::qo::qp::qq::qr::qs::qt::qu::qv::qw::qx::qy::qz::qA::qB::qC::qD::qE::qF::qG::zz),h⟩ =
  gd qD (
  bm (vBin s.P .eql 3 qF (V.lit (Value.int .i64 0))) h fun v132 h133 =>
  opsP (xX s 3 wl k false) xg3_3 23 m0 ac (runK (xX s 3 wl k false) (bodyK s.P Tryz.f3) xk3_4) ⟨(t0::t1::t2::t3::t4::t5::t6::t7::t8::t9::ta::tb::tc::td::te::tf::tg::th::ti::tj::tk::tl::tm::tn::tp::tq::tr::ts::tt::tu::tv::tw::tx::ty::tz::tA::tB::tC::tD::tE::tF::tG::tH::tI::tJ::tK::tL::tM::tN::tO::tP::tQ::tR::tS::tT::tU::tV::tW::tX::tY::tZ::q0::q1::q2::q3::q4::q5::q6::q7::q8::q9::qa::qb::qc::qd::qe::qf::qg::qh::qi::qj::qk::ql::qm::qn::qo::qp::qq::qr::qs::qt::qu::qv::qw::qx::qy::qz::qA::qB::qC::(V.lit (Value.bool true))::qE::qF::v132::zz),h133⟩) (
  opsP (xX s 3 wl k false) xg3_3 23 m0 ac (runK (xX s 3 wl k false) (bodyK s.P Tryz.f3) xk3_4) ⟨(t0::t1::t2::t3::t4::t5::t6::t7::t8::t9::ta::tb::tc::td::te::tf::tg::th::ti::tj::tk::tl::tm::tn::tp::tq::tr::ts::tt::tu::tv::tw::tx::ty::tz::tA::tB::tC::tD::tE::tF::tG::tH::tI::tJ::tK::tL::tM::tN::tO::tP::tQ::tR::tS::tT::tU::tV::tW::tX::tY::tZ::q0::q1::q2::q3::q4::q5::q6::q7::q8::q9::qa::qb::qc::qd::qe::qf::qg::qh::qi::qj::qk::ql::qm::qn::qo::qp::qq::qr::qs::qt::qu::qv::qw::qx::qy::qz::qA::qB::qC::(V.lit (Value.bool false))::qE::qF::uu::zz),h⟩) (
  opsP (xX s 3 wl k false) xg3_3 23 m0 ac (runK (xX s 3 wl k false) (bodyK s.P Tryz.f3) xk3_4) ⟨(t0::t1::t2::t3::t4::t5::t6::t7::t8::t9::ta::tb::tc::td::te::tf::tg::th::ti::tj::tk::tl::tm::tn::tp::tq::tr::ts::tt::tu::tv::tw::tx::ty::tz::tA::tB::tC::tD::tE::tF::tG::tH::tI::tJ::tK::tL::tM::tN::tO::tP::tQ::tR::tS::tT::tU::tV::tW::tX::tY::tZ::q0::q1::q2::q3::q4::q5::q6::q7::q8::q9::qa::qb::qc::qd::qe::qf::qg::qh::qi::qj::qk::ql::qm::qn::qo::qp::qq::qr::qs::qt::qu::qv::qw::qx::qy::qz::qA::qB::qC::qD::qE::qF::uu::zz),h⟩) :=
  (go_gdT0 rfl rfl rfl (by kernel_rfl)
  (st_bm (by kernel_rfl) fun v132 h133 =>
  (by kernel_rfl))
  (by kernel_rfl)
  (by kernel_rfl))
theorem xm3_27 (zz : List V) (h : Hp) : opsP (xX s 3 wl k false) xg3_3 28 m0 ac (runK (xX s 3 wl k false) (bodyK s.P Tryz.f3) xk3_4) ⟨(t0::t1::t2::t3::t4::t5::t6::t7::t8::t9::ta::tb::tc::td::te::tf::tg::th::ti::tj::tk::tl::tm::tn::tp::tq::tr::ts::tt::tu::tv::tw::tx::ty::tz::tA::tB::tC::tD::tE::tF::tG::tH::tI::tJ::tK::tL::tM::tN::tO::tP::tQ::tR::tS::tT::tU::tV::tW::tX::tY::tZ::q0::q1::q2::q3::q4::q5::q6::q7::q8::q9::qa::qb::qc::qd::qe::qf::qg::qh::qi::qj::qk::ql::qm::qn::qo::qp::qq::qr::qs::qt::qu::qv::qw::qx::qy::qz::qA::qB::qC::qD::qE::qF::qG::qH::qJ::qK::qL::qN::qO::zz),h⟩ =
  gd qw (
  opsP (xX s 3 wl k false) xg3_3 29 m0 ac (runK (xX s 3 wl k false) (bodyK s.P Tryz.f3) xk3_4) ⟨(t0::t1::t2::t3::t4::t5::t6::t7::t8::t9::ta::tb::tc::td::te::tf::tg::th::ti::tj::tk::tl::tm::tn::tp::tq::tr::ts::tt::tu::tv::tw::tx::ty::tz::tA::tB::tC::tD::tE::tF::tG::tH::tI::tJ::tK::tL::tM::tN::tO::tP::tQ::tR::tS::tT::tU::tV::tW::tX::tY::tZ::q0::q1::q2::q3::q4::q5::q6::q7::q8::q9::qa::qb::qc::qd::qe::qf::qg::qh::qi::qj::qk::ql::qm::qn::qo::qp::qq::qr::qs::qt::qu::qv::(V.lit (Value.bool true))::qx::qy::qz::qA::qB::qC::qD::qE::qF::qG::qH::qJ::qK::qL::qN::uu::zz),h⟩) (
  bm (vPick qJ qN (V.lit (Value.bool false))) h fun v134 h135 =>
  opsP (xX s 3 wl k false) xg3_3 29 m0 ac (runK (xX s 3 wl k false) (bodyK s.P Tryz.f3) xk3_4) ⟨(t0::t1::t2::t3::t4::t5::t6::t7::t8::t9::ta::tb::tc::td::te::tf::tg::th::ti::tj::tk::tl::tm::tn::tp::tq::tr::ts::tt::tu::tv::tw::tx::ty::tz::tA::tB::tC::tD::tE::tF::tG::tH::tI::tJ::tK::tL::tM::tN::tO::tP::tQ::tR::tS::tT::tU::tV::tW::tX::tY::tZ::q0::q1::q2::q3::q4::q5::q6::q7::q8::q9::qa::qb::qc::qd::qe::qf::qg::qh::qi::qj::qk::ql::qm::qn::qo::qp::qq::qr::qs::qt::qu::qv::(V.lit (Value.bool false))::qx::qy::qz::qA::qB::qC::qD::qE::qF::qG::qH::qJ::qK::qL::qN::v134::zz),h135⟩) (
  opsP (xX s 3 wl k false) xg3_3 29 m0 ac (runK (xX s 3 wl k false) (bodyK s.P Tryz.f3) xk3_4) ⟨(t0::t1::t2::t3::t4::t5::t6::t7::t8::t9::ta::tb::tc::td::te::tf::tg::th::ti::tj::tk::tl::tm::tn::tp::tq::tr::ts::tt::tu::tv::tw::tx::ty::tz::tA::tB::tC::tD::tE::tF::tG::tH::tI::tJ::tK::tL::tM::tN::tO::tP::tQ::tR::tS::tT::tU::tV::tW::tX::tY::tZ::q0::q1::q2::q3::q4::q5::q6::q7::q8::q9::qa::qb::qc::qd::qe::qf::qg::qh::qi::qj::qk::ql::qm::qn::qo::qp::qq::qr::qs::qt::qu::qv::qw::qx::qy::qz::qA::qB::qC::qD::qE::qF::qG::qH::qJ::qK::qL::qN::uu::zz),h⟩) :=
  (go_gdF0 rfl rfl rfl (by kernel_rfl)
  (by kernel_rfl)
  (st_bm (by kernel_rfl) fun v134 h135 =>
  (by kernel_rfl))
  (by kernel_rfl))
theorem xm3_28 (zz : List V) (h : Hp) : opsP (xX s 3 wl k false) xg3_3 26 m0 ac (runK (xX s 3 wl k false) (bodyK s.P Tryz.f3) xk3_4) ⟨(t0::t1::t2::t3::t4::t5::t6::t7::t8::t9::ta::tb::tc::td::te::tf::tg::th::ti::tj::tk::tl::tm::tn::tp::tq::tr::ts::tt::tu::tv::tw::tx::ty::tz::tA::tB::tC::tD::tE::tF::tG::tH::tI::tJ::tK::tL::tM::tN::tO::tP::tQ::tR::tS::tT::tU::tV::tW::tX::tY::tZ::q0::q1::q2::q3::q4::q5::q6::q7::q8::q9::qa::qb::qc::qd::qe::qf::qg::qh::qi::qj::qk::ql::qm::qn::qo::qp::qq::qr::qs::qt::qu::qv::qw::qx::qy::qz::qA::qB::qC::qD::qE::qF::qG::qH::qJ::qK::qL::qN::zz),h⟩ =
  gd qJ (
  bm (vLoad s.P 32 tg h) h fun v136 h137 =>
  bp (callV (xX s 3 wl k false) false true (.fn (.func 12) [] []) [qK,v136] h137) fun v138 h139 =>
  opsP (xX s 3 wl k false) xg3_3 28 m0 ac (runK (xX s 3 wl k false) (bodyK s.P Tryz.f3) xk3_4) ⟨(t0::t1::t2::t3::t4::t5::t6::t7::t8::t9::ta::tb::tc::td::te::tf::tg::th::ti::tj::tk::tl::tm::tn::tp::tq::tr::ts::tt::tu::tv::tw::tx::ty::tz::tA::tB::tC::tD::tE::tF::tG::tH::tI::tJ::tK::tL::tM::tN::tO::tP::tQ::tR::tS::tT::tU::tV::tW::tX::tY::tZ::q0::q1::q2::q3::q4::q5::q6::q7::q8::q9::qa::qb::qc::qd::qe::qf::qg::qh::qi::qj::qk::ql::qm::qn::qo::qp::qq::qr::qs::qt::qu::qv::qw::qx::qy::qz::qA::qB::qC::qD::qE::qF::qG::qH::(V.lit (Value.bool true))::qK::v136::v138::zz),h139⟩) (
  opsP (xX s 3 wl k false) xg3_3 28 m0 ac (runK (xX s 3 wl k false) (bodyK s.P Tryz.f3) xk3_4) ⟨(t0::t1::t2::t3::t4::t5::t6::t7::t8::t9::ta::tb::tc::td::te::tf::tg::th::ti::tj::tk::tl::tm::tn::tp::tq::tr::ts::tt::tu::tv::tw::tx::ty::tz::tA::tB::tC::tD::tE::tF::tG::tH::tI::tJ::tK::tL::tM::tN::tO::tP::tQ::tR::tS::tT::tU::tV::tW::tX::tY::tZ::q0::q1::q2::q3::q4::q5::q6::q7::q8::q9::qa::qb::qc::qd::qe::qf::qg::qh::qi::qj::qk::ql::qm::qn::qo::qp::qq::qr::qs::qt::qu::qv::qw::qx::qy::qz::qA::qB::qC::qD::qE::qF::qG::qH::(V.lit (Value.bool false))::qK::uu::uu::zz),h⟩) (
  opsP (xX s 3 wl k false) xg3_3 27 m0 ac (runK (xX s 3 wl k false) (bodyK s.P Tryz.f3) xk3_4) ⟨(t0::t1::t2::t3::t4::t5::t6::t7::t8::t9::ta::tb::tc::td::te::tf::tg::th::ti::tj::tk::tl::tm::tn::tp::tq::tr::ts::tt::tu::tv::tw::tx::ty::tz::tA::tB::tC::tD::tE::tF::tG::tH::tI::tJ::tK::tL::tM::tN::tO::tP::tQ::tR::tS::tT::tU::tV::tW::tX::tY::tZ::q0::q1::q2::q3::q4::q5::q6::q7::q8::q9::qa::qb::qc::qd::qe::qf::qg::qh::qi::qj::qk::ql::qm::qn::qo::qp::qq::qr::qs::qt::qu::qv::qw::qx::qy::qz::qA::qB::qC::qD::qE::qF::qG::qH::qJ::qK::uu::qN::zz),h⟩) :=
  (go_gdT0 rfl rfl rfl (by kernel_rfl)
  (st_bm (by kernel_rfl) fun v136 h137 =>
  (rN (st_bp (by kernel_rfl) fun v138 h139 =>
  (by kernel_rfl))))
  (sK
  (by kernel_rfl))
  (by kernel_rfl))
theorem xm3_29 (zz : List V) (h : Hp) : opsP (xX s 3 wl k false) xg3_3 27 m0 ac (runK (xX s 3 wl k false) (bodyK s.P Tryz.f3) xk3_4) ⟨(t0::t1::t2::t3::t4::t5::t6::t7::t8::t9::ta::tb::tc::td::te::tf::tg::th::ti::tj::tk::tl::tm::tn::tp::tq::tr::ts::tt::tu::tv::tw::tx::ty::tz::tA::tB::tC::tD::tE::tF::tG::tH::tI::tJ::tK::tL::tM::tN::tO::tP::tQ::tR::tS::tT::tU::tV::tW::tX::tY::tZ::q0::q1::q2::q3::q4::q5::q6::q7::q8::q9::qa::qb::qc::qd::qe::qf::qg::qh::qi::qj::qk::ql::qm::qn::qo::qp::qq::qr::qs::qt::qu::qv::qw::qx::qy::qz::qA::qB::qC::qD::qE::qF::qG::qH::qJ::qK::qL::qN::zz),h⟩ =
  gd qJ (
  bp (callV (xX s 3 wl k false) false true (.fn (.func 12) [] []) [qK,qL] h) fun v140 h141 =>
  opsP (xX s 3 wl k false) xg3_3 28 m0 ac (runK (xX s 3 wl k false) (bodyK s.P Tryz.f3) xk3_4) ⟨(t0::t1::t2::t3::t4::t5::t6::t7::t8::t9::ta::tb::tc::td::te::tf::tg::th::ti::tj::tk::tl::tm::tn::tp::tq::tr::ts::tt::tu::tv::tw::tx::ty::tz::tA::tB::tC::tD::tE::tF::tG::tH::tI::tJ::tK::tL::tM::tN::tO::tP::tQ::tR::tS::tT::tU::tV::tW::tX::tY::tZ::q0::q1::q2::q3::q4::q5::q6::q7::q8::q9::qa::qb::qc::qd::qe::qf::qg::qh::qi::qj::qk::ql::qm::qn::qo::qp::qq::qr::qs::qt::qu::qv::qw::qx::qy::qz::qA::qB::qC::qD::qE::qF::qG::qH::(V.lit (Value.bool true))::qK::qL::v140::zz),h141⟩) (
  opsP (xX s 3 wl k false) xg3_3 28 m0 ac (runK (xX s 3 wl k false) (bodyK s.P Tryz.f3) xk3_4) ⟨(t0::t1::t2::t3::t4::t5::t6::t7::t8::t9::ta::tb::tc::td::te::tf::tg::th::ti::tj::tk::tl::tm::tn::tp::tq::tr::ts::tt::tu::tv::tw::tx::ty::tz::tA::tB::tC::tD::tE::tF::tG::tH::tI::tJ::tK::tL::tM::tN::tO::tP::tQ::tR::tS::tT::tU::tV::tW::tX::tY::tZ::q0::q1::q2::q3::q4::q5::q6::q7::q8::q9::qa::qb::qc::qd::qe::qf::qg::qh::qi::qj::qk::ql::qm::qn::qo::qp::qq::qr::qs::qt::qu::qv::qw::qx::qy::qz::qA::qB::qC::qD::qE::qF::qG::qH::(V.lit (Value.bool false))::qK::qL::uu::zz),h⟩) (
  opsP (xX s 3 wl k false) xg3_3 28 m0 ac (runK (xX s 3 wl k false) (bodyK s.P Tryz.f3) xk3_4) ⟨(t0::t1::t2::t3::t4::t5::t6::t7::t8::t9::ta::tb::tc::td::te::tf::tg::th::ti::tj::tk::tl::tm::tn::tp::tq::tr::ts::tt::tu::tv::tw::tx::ty::tz::tA::tB::tC::tD::tE::tF::tG::tH::tI::tJ::tK::tL::tM::tN::tO::tP::tQ::tR::tS::tT::tU::tV::tW::tX::tY::tZ::q0::q1::q2::q3::q4::q5::q6::q7::q8::q9::qa::qb::qc::qd::qe::qf::qg::qh::qi::qj::qk::ql::qm::qn::qo::qp::qq::qr::qs::qt::qu::qv::qw::qx::qy::qz::qA::qB::qC::qD::qE::qF::qG::qH::qJ::qK::qL::uu::zz),h⟩) :=
  (go_gdT0 rfl rfl rfl (by kernel_rfl)
  (st_bp (by kernel_rfl) fun v140 h141 =>
  (by kernel_rfl))
  (by kernel_rfl)
  (by kernel_rfl))
theorem xk3_0_ret (cx : Cx) (K : Out → St → Option (V × Hp)) (s : St) : runK cx K xk3_0 .ret s = K .ret s := by kernel_rfl
theorem xk3_1_ret (cx : Cx) (K : Out → St → Option (V × Hp)) (s : St) : runK cx K xk3_1 .ret s = K .ret s := by kernel_rfl
theorem xk3_2_ret (cx : Cx) (K : Out → St → Option (V × Hp)) (s : St) : runK cx K xk3_2 .ret s = K .ret s := by kernel_rfl
theorem xk3_3_ret (cx : Cx) (K : Out → St → Option (V × Hp)) (s : St) : runK cx K xk3_3 .ret s = K .ret s := by kernel_rfl
theorem xk3_4_ret (cx : Cx) (K : Out → St → Option (V × Hp)) (s : St) : runK cx K xk3_4 .ret s = K .ret s := by kernel_rfl
-- names: xb3,xz3,xm3_0,xm3_1,xm3_2,xr3_0,xj3_3,xj3_4,xm3_5,xm3_6,xm3_7,xm3_8,xm3_9,xm3_10,xm3_11,xm3_12,xm3_13,xm3_14,xm3_15,xm3_16,xm3_17,xm3_18,xm3_19,xm3_20,xm3_21,xm3_22,xm3_23,xm3_24,xm3_25,xm3_26,xm3_27,xm3_28,xm3_29,xk3_0_ret,xk3_1_ret,xk3_2_ret,xk3_3_ret,xk3_4_ret
end Go.Ab
