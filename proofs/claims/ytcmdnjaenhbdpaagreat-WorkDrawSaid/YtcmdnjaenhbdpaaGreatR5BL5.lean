/- The program's code,point by point: printed by gen.py. -/
import Derived.Test.YtcmdnjaenhbdpaaGreatR5Seat
import Derived.Test.YtcmdnjaenhbdpaaGreatAbLibC
set_option linter.unusedVariables false
set_option linter.unusedSimpArgs false
set_option maxRecDepth 100000
set_option linter.unusedVariables false
namespace Go.Ab
open Go.Proofs
variable (s : Sys) (k wl : Nat) (m0 : Nat) (ac : List Nat × List Nat) (t0 t1 t2 t3 t4 t5 t6 t7 t8 t9 ta tb tc td te tf tg th ti tj tk tl tm tn tp tq tr ts tt tu tv tw tx ty tz tA tB tC tD tE tF tG tH tI tJ tK tL tM tN tO tP tQ tR tS tT tU tV tW tX tY tZ q0 q1 q2 q3 q4 q5 q6 q7 q8 q9 qa qb qc qd qe qf qg qh qi qj qk ql qm qn qo qp qq qr qs qt qu qv qw qx qy qz qA qB qC qD qE qF qG qH qJ qK qL qN qO qP qQ qR qS qT qU qV qW qX qY qZ z0 z1 z2 z3 z4 z5 z6 z7 z8 : V)
noncomputable def xg5_0 : Code := codeAt (bodyOf Tryz.f5) [1,1,1,0,0]
noncomputable def xk5_0 : List Fr := [.seq (codeAt (bodyOf Tryz.f5) [1,1,1,0,1]),.seq (codeAt (bodyOf Tryz.f5) [1,1,1,1])]
noncomputable def xl5_0 : Code := codeAt (bodyOf Tryz.f5) [1,1,1,1,1,1,1,0,1,0,0]
noncomputable def xk5_1 : List Fr := [.block 0,.seq (codeAt (bodyOf Tryz.f5) [1,1,1,1,1,1,1,1])]
noncomputable def xg5_1 : Code := codeAt (bodyOf Tryz.f5) [1,1,1,1,1,1,1,0,1,0,0,1,0,0,0]
noncomputable def xg5_2 : Code := codeAt (bodyOf Tryz.f5) [1,1,1,1,1,1,1,1,1,0,1,0,0]
noncomputable def xk5_2 : List Fr := [.seq (codeAt (bodyOf Tryz.f5) [1,1,1,1,1,1,1,1,1,0,1,0,1]),.seq (codeAt (bodyOf Tryz.f5) [1,1,1,1,1,1,1,1,1,1])]
theorem xo5_12 : orderIx (opsOf xg5_1) = [0,1,2,3,4,5,6,7,8] := by kernel_rfl
theorem xo5_12a : (rgOf (opsOf xg5_1)).any = false := by kernel_rfl
theorem xo5_12r : regOk (opsOf xg5_1) = true := by kernel_rfl
theorem xb5 (h : Hp) : bodyV (xX s 5 wl k false) Tryz.f5 [t0,t1,t2,t3,t4,t5,t6] h =
  bp (opBox t0 h) fun v1 h2 =>
  bp (opBox t4 h2) fun v3 h4 =>
  bp (callV (xX s 5 wl k false) false true (.fn (.func 8) [] []) [] h4) fun v5 h6 =>
  bm (vLoad s.P 32 v3 h6) h6 fun v7 h8 =>
  bp (callV (xX s 5 wl k false) false true (.fn (.func 9) [] []) [t1,v7] h8) fun v9 h10 =>
  bm (vUn .not v5) h10 fun v11 h12 =>
  gd v11 (
  opsP (xX s 5 wl k false) xg5_0 5 h10.length ([],[]) (runK (xX s 5 wl k false) (bodyK s.P Tryz.f5) xk5_0) ⟨(t0::t1::t2::t3::t4::t5::t6::v1::uu::uu::uu::v3::uu::uu::(V.lit (Value.bool false))::v5::v9::uu::uu::uu::uu::uu::uu::uu::uu::v5::t1::v7::v9::v5::v11::(V.lit (Value.bool true))::uu::uu::uu::uu::uu::uu::uu::uu::uu::uu::uu::uu::uu::uu::uu::uu::uu::uu::uu::uu::uu::uu::uu::uu::uu::uu::uu::uu::uu::uu::uu::uu::uu::uu::uu::uu::uu::uu::uu::uu::uu::uu::uu::uu::uu::uu::uu::uu::uu::uu::uu::uu::uu::uu::uu::uu::uu::uu::uu::uu::uu::uu::uu::uu::uu::uu::uu::uu::uu::uu::uu::uu::uu::uu::uu::uu::uu::uu::uu::uu::uu::uu::uu::uu::uu::uu::uu::uu::uu::uu::uu::uu::uu::uu::uu::uu::uu::uu::[]),h12⟩) (
  bm (vUn .not v9) h12 fun v13 h14 =>
  opsP (xX s 5 wl k false) xg5_0 5 h10.length ([],[]) (runK (xX s 5 wl k false) (bodyK s.P Tryz.f5) xk5_0) ⟨(t0::t1::t2::t3::t4::t5::t6::v1::uu::uu::uu::v3::uu::uu::(V.lit (Value.bool false))::v5::v9::uu::uu::uu::uu::uu::uu::uu::uu::v5::t1::v7::v9::v5::v11::(V.lit (Value.bool false))::v9::v13::uu::uu::uu::uu::uu::uu::uu::uu::uu::uu::uu::uu::uu::uu::uu::uu::uu::uu::uu::uu::uu::uu::uu::uu::uu::uu::uu::uu::uu::uu::uu::uu::uu::uu::uu::uu::uu::uu::uu::uu::uu::uu::uu::uu::uu::uu::uu::uu::uu::uu::uu::uu::uu::uu::uu::uu::uu::uu::uu::uu::uu::uu::uu::uu::uu::uu::uu::uu::uu::uu::uu::uu::uu::uu::uu::uu::uu::uu::uu::uu::uu::uu::uu::uu::uu::uu::uu::uu::uu::uu::uu::uu::uu::uu::uu::uu::[]),h14⟩) (
  opsP (xX s 5 wl k false) xg5_0 4 h10.length ([],[]) (runK (xX s 5 wl k false) (bodyK s.P Tryz.f5) xk5_0) ⟨(t0::t1::t2::t3::t4::t5::t6::v1::uu::uu::uu::v3::uu::uu::(V.lit (Value.bool false))::v5::v9::uu::uu::uu::uu::uu::uu::uu::uu::v5::t1::v7::v9::v5::v11::v11::uu::uu::uu::uu::uu::uu::uu::uu::uu::uu::uu::uu::uu::uu::uu::uu::uu::uu::uu::uu::uu::uu::uu::uu::uu::uu::uu::uu::uu::uu::uu::uu::uu::uu::uu::uu::uu::uu::uu::uu::uu::uu::uu::uu::uu::uu::uu::uu::uu::uu::uu::uu::uu::uu::uu::uu::uu::uu::uu::uu::uu::uu::uu::uu::uu::uu::uu::uu::uu::uu::uu::uu::uu::uu::uu::uu::uu::uu::uu::uu::uu::uu::uu::uu::uu::uu::uu::uu::uu::uu::uu::uu::uu::uu::uu::uu::uu::uu::[]),h12⟩) :=
  bodyV_run rfl (go_seq (go_reg0
  (pP fun v1 h2 =>
  (pP fun v3 h4 =>
  (go_op0 rfl rfl (st_id (v := (V.lit (Value.bool false))) (H := h4) (by kernel_rfl)
  (eN
  (go_seq (go_reg0
  (pP fun v5 h6 =>
  (pI v5 h6
  (eN
  (go_seq (go_reg0
  (pI t1 h6
  (pM fun v7 h8 =>
  (pP fun v9 h10 =>
  (pI v9 h10
  (eN
  (go_seq (go_seq (go_reg0
  (pI v5 h10
  (pM fun v11 h12 =>
  (pI v11 h12
  (go_gdF0 rfl rfl rfl (by kernel_rfl)
  (sK
  (by kernel_rfl))
  (st_id (v := v9) (H := h12) (by kernel_rfl)
  (rN (st_bm (by kernel_rfl) fun v13 h14 =>
  (by kernel_rfl))))
  (by kernel_rfl)))))))))))))))))))))))))))
theorem xe5 (k wl : Nat) (h : Hp) : evF Tryz.prog xM (k + 1) wl 5 [t0,t1,t2,t3,t4,t5,t6] h = bodyV (xX (xS k) 5 wl k false) Tryz.f5 [t0,t1,t2,t3,t4,t5,t6] h := by kernel_rfl
theorem xz5 (P : Program) (h : Hp) : bodyK P Tryz.f5 .ret ⟨(t0::t1::t2::t3::t4::t5::t6::t7::t8::t9::ta::tb::tc::td::te::tf::tg::th::ti::tj::tk::tl::tm::tn::tp::tq::tr::ts::tt::tu::tv::tw::tx::ty::tz::tA::tB::tC::tD::tE::tF::tG::tH::tI::tJ::tK::tL::tM::tN::tO::tP::tQ::tR::tS::tT::tU::tV::tW::tX::tY::tZ::q0::q1::q2::q3::q4::q5::q6::q7::q8::q9::qa::qb::qc::qd::qe::qf::qg::qh::qi::qj::qk::ql::qm::qn::qo::qp::qq::qr::qs::qt::qu::qv::qw::qx::qy::qz::qA::qB::qC::qD::qE::qF::qG::qH::qJ::qK::qL::qN::qO::qP::qQ::qR::qS::qT::qU::qV::qW::qX::qY::qZ::z0::z1::z2::z3::z4::z5::z6::z7::z8::[]),h⟩ = some (te,h) := by kernel_rfl
theorem xm5_0 (zz : List V) (h : Hp) : opsP (xX s 5 wl k false) xg5_0 5 m0 ac (runK (xX s 5 wl k false) (bodyK s.P Tryz.f5) xk5_0) ⟨(t0::t1::t2::t3::t4::t5::t6::t7::t8::t9::ta::tb::tc::td::te::tf::tg::th::ti::tj::tk::tl::tm::tn::tp::tq::tr::ts::tt::tu::tv::tw::tx::ty::tz::tA::tB::tC::tD::zz),h⟩ =
  bm (vPick tw (V.lit (Value.bool true)) ty) h fun v15 h16 =>
  gd v15 (
  opsP (xX s 5 wl k false) xg5_0 10 m0 ac (runK (xX s 5 wl k false) (bodyK s.P Tryz.f5) xk5_0) ⟨(t0::t1::t2::t3::t4::t5::t6::t7::t8::t9::ta::tb::tc::td::te::tf::tg::th::ti::tj::tk::tl::tm::tn::tp::tq::tr::ts::tt::tu::tv::tw::tx::ty::v15::(V.lit (Value.bool true))::uu::uu::uu::zz),h16⟩) (
  bp (opLen s.P 26 t2 h16) fun v17 h18 =>
  bm (vBin s.P .gtr 3 v17 (V.lit (Value.int .i64 500))) h18 fun v19 h20 =>
  opsP (xX s 5 wl k false) xg5_0 10 m0 ac (runK (xX s 5 wl k false) (bodyK s.P Tryz.f5) xk5_0) ⟨(t0::t1::t2::t3::t4::t5::t6::t7::t8::t9::ta::tb::tc::td::te::tf::tg::th::ti::tj::tk::tl::tm::tn::tp::tq::tr::ts::tt::tu::tv::tw::tx::ty::v15::(V.lit (Value.bool false))::t2::v17::v19::zz),h20⟩) (
  opsP (xX s 5 wl k false) xg5_0 8 m0 ac (runK (xX s 5 wl k false) (bodyK s.P Tryz.f5) xk5_0) ⟨(t0::t1::t2::t3::t4::t5::t6::t7::t8::t9::ta::tb::tc::td::te::tf::tg::th::ti::tj::tk::tl::tm::tn::tp::tq::tr::ts::tt::tu::tv::tw::tx::ty::v15::v15::uu::tC::tD::zz),h16⟩) :=
  (pM fun v15 h16 =>
  (pI v15 h16
  (go_gdF0 rfl rfl rfl (by kernel_rfl)
  (sK
  (sK
  (by kernel_rfl)))
  (st_id (v := t2) (H := h16) (by kernel_rfl)
  (rN (st_bp (by kernel_rfl) fun v17 h18 =>
  (rN (st_bm (by kernel_rfl) fun v19 h20 =>
  (by kernel_rfl))))))
  (by kernel_rfl))))
theorem xm5_1 (h : Hp) : opsP (xX s 5 wl k false) xg5_0 10 m0 ac (runK (xX s 5 wl k false) (bodyK s.P Tryz.f5) xk5_0) ⟨(t0::t1::t2::t3::t4::t5::t6::t7::t8::t9::ta::tb::tc::td::te::tf::tg::th::ti::tj::tk::tl::tm::tn::tp::tq::tr::ts::tt::tu::tv::tw::tx::ty::tz::tA::tB::tC::tD::tE::tF::tG::tH::tI::tJ::tK::tL::tM::tN::tO::tP::tQ::tR::tS::tT::tU::tV::tW::tX::tY::tZ::q0::q1::q2::q3::q4::q5::q6::q7::q8::q9::qa::qb::qc::qd::qe::qf::qg::qh::qi::qj::qk::ql::qm::qn::qo::qp::qq::qr::qs::qt::qu::qv::qw::qx::qy::qz::qA::qB::qC::qD::qE::qF::qG::qH::qJ::qK::qL::qN::qO::qP::qQ::qR::qS::qT::qU::qV::qW::qX::qY::qZ::z0::z1::z2::z3::z4::z5::z6::z7::z8::[]),h⟩ =
  bm (vPick tA (V.lit (Value.bool true)) tD) h fun v21 h22 =>
  cnd v21 (
  some (tf,h22)) (
  bm (vLoad s.P 23 t7 h22) h22 fun v23 h24 =>
  bm (vLoad s.P 32 tb h24) h24 fun v25 h26 =>
  bp (callV (xX s 5 wl k false) false true (.fn (.func 10) [] []) [v23,t1,t2,t3,v25,t5] h26) fun v27 h28 =>
  bm (vExtract v27 0) h28 fun v29 h30 =>
  bm (vExtract v27 1) h30 fun v31 h32 =>
  bm (vExtract v27 2) h32 fun v33 h34 =>
  bp (opAlloc s.P 32 h34) fun v35 h36 =>
  bs (vStore s.P wl 32 v35 v31 h36) fun h37 =>
  bm (vLoad s.P 23 t7 h37) h37 fun v38 h39 =>
  bm (vLoad s.P 32 tb h39) h39 fun v40 h41 =>
  bp (callV (xX s 5 wl k false) false true (.fn (.func 10) [] []) [v38,t1,t2,t3,v40,t6] h41) fun v42 h43 =>
  bm (vExtract v42 0) h43 fun v44 h45 =>
  bm (vExtract v42 1) h45 fun v46 h47 =>
  bm (vExtract v42 2) h47 fun v48 h49 =>
  bp (opAlloc s.P 32 h49) fun v50 h51 =>
  bs (vStore s.P wl 32 v50 v46 h51) fun h52 =>
  bp (opLen s.P 26 v29 h52) fun v53 h54 =>
  bp (opLen s.P 26 v44 h54) fun v55 h56 =>
  bm (vBin s.P .neq 3 v53 v55) h56 fun v57 h58 =>
  cnd v57 (
  some ((V.lit (Value.bool false)),h58)) (
  itX (xX s 5 wl k false) xl5_0 h58.length (runK (xX s 5 wl k false) (bodyK s.P Tryz.f5) xk5_1) k ⟨((V.kill h58.length t0)::(V.kill h58.length t1)::(V.kill h58.length t2)::(V.kill h58.length t3)::(V.kill h58.length t4)::(V.kill h58.length t5)::(V.kill h58.length t6)::(V.kill h58.length t7)::(V.kill h58.length t8)::(V.kill h58.length t9)::(V.kill h58.length ta)::(V.kill h58.length tb)::(V.kill h58.length tc)::(V.kill h58.length td)::(V.kill h58.length te)::(V.kill h58.length tf)::(V.kill h58.length tg)::(V.kill h58.length v29)::(V.kill h58.length v35)::(V.kill h58.length v33)::(V.kill h58.length v44)::(V.kill h58.length v50)::(V.kill h58.length v48)::(V.lit (Value.int .i64 0))::(V.kill h58.length tp)::(V.kill h58.length tq)::(V.kill h58.length tr)::(V.kill h58.length ts)::(V.kill h58.length tt)::(V.kill h58.length tu)::(V.kill h58.length tv)::(V.kill h58.length tw)::(V.kill h58.length tx)::(V.kill h58.length ty)::(V.kill h58.length tz)::(V.kill h58.length tA)::(V.kill h58.length tB)::(V.kill h58.length tC)::(V.kill h58.length tD)::(V.kill h58.length v21)::(V.kill h58.length tF)::(V.kill h58.length v27)::(V.kill h58.length v23)::(V.kill h58.length t1)::(V.kill h58.length t2)::(V.kill h58.length t3)::(V.kill h58.length v25)::(V.kill h58.length t5)::(V.kill h58.length v27)::(V.kill h58.length v29)::(V.kill h58.length v31)::(V.kill h58.length v33)::(V.kill h58.length v42)::(V.kill h58.length v38)::(V.kill h58.length t1)::(V.kill h58.length t2)::(V.kill h58.length t3)::(V.kill h58.length v40)::(V.kill h58.length t6)::(V.kill h58.length v42)::(V.kill h58.length v44)::(V.kill h58.length v46)::(V.kill h58.length v48)::(V.kill h58.length v29)::(V.kill h58.length v53)::(V.kill h58.length v44)::(V.kill h58.length v55)::(V.kill h58.length v57)::.junk::.junk::.junk::.junk::.junk::.junk::.junk::.junk::.junk::.junk::.junk::.junk::.junk::.junk::.junk::(V.kill h58.length qm)::(V.kill h58.length qn)::(V.kill h58.length qo)::(V.kill h58.length qp)::(V.kill h58.length qq)::(V.kill h58.length qr)::(V.kill h58.length qs)::(V.kill h58.length qt)::(V.kill h58.length qu)::(V.kill h58.length qv)::(V.kill h58.length qw)::(V.kill h58.length qx)::(V.kill h58.length qy)::(V.kill h58.length qz)::(V.kill h58.length qA)::(V.kill h58.length qB)::(V.kill h58.length qC)::(V.kill h58.length qD)::(V.kill h58.length qE)::(V.kill h58.length qF)::(V.kill h58.length qG)::(V.kill h58.length qH)::(V.kill h58.length qJ)::(V.kill h58.length qK)::(V.kill h58.length qL)::(V.kill h58.length qN)::(V.kill h58.length qO)::(V.kill h58.length qP)::(V.kill h58.length qQ)::(V.kill h58.length qR)::(V.kill h58.length qS)::(V.kill h58.length qT)::(V.kill h58.length qU)::(V.kill h58.length qV)::(V.kill h58.length qW)::(V.kill h58.length qX)::(V.kill h58.length qY)::(V.kill h58.length qZ)::(V.kill h58.length z0)::(V.kill h58.length z1)::(V.kill h58.length z2)::(V.kill h58.length z3)::(V.kill h58.length z4)::(V.kill h58.length z5)::(V.kill h58.length z6)::(V.kill h58.length z7)::(V.kill h58.length z8)::[]),cutH h58.length h58⟩)) :=
  (pM fun v21 h22 =>
  (eN
  (go_cond (by kernel_rfl)
  (go_seq (go_reg0
  (pI tf h22
  (pI tf h22
  (eN
  (go_ret (rt_seq_ret (by kernel_rfl))))))))
  (go_skip (go_seq (go_reg0
  (pM fun v23 h24 =>
  (pI t1 h24
  (pI t2 h24
  (pI t3 h24
  (pM fun v25 h26 =>
  (pI t5 h26
  (pP fun v27 h28 =>
  (pI v27 h28
  (pM fun v29 h30 =>
  (pM fun v31 h32 =>
  (pM fun v33 h34 =>
  (pP fun v35 h36 =>
  (pI v29 h36
  (pS fun h37 =>
  (pI v33 h37
  (eN
  (go_seq (go_reg0
  (pM fun v38 h39 =>
  (pI t1 h39
  (pI t2 h39
  (pI t3 h39
  (pM fun v40 h41 =>
  (pI t6 h41
  (pP fun v42 h43 =>
  (pI v42 h43
  (pM fun v44 h45 =>
  (pM fun v46 h47 =>
  (pM fun v48 h49 =>
  (pP fun v50 h51 =>
  (pI v44 h51
  (pS fun h52 =>
  (pI v48 h52
  (eN
  (go_seq (go_seq (go_reg0
  (pI v29 h52
  (pP fun v53 h54 =>
  (pI v44 h54
  (pP fun v55 h56 =>
  (pM fun v57 h58 =>
  (eN
  (go_cond (by kernel_rfl)
  (go_seq (go_reg0
  (go_op0 rfl rfl (st_id (v := (V.lit (Value.bool false))) (H := h58) (by kernel_rfl)
  (eN
  (go_ret (rt_seq_ret (by kernel_rfl))))))))
  (go_skip (go_seq (go_seq (go_reg0
  (go_op0 rfl rfl (st_id (v := (V.lit (Value.int .i64 0))) (H := h58) (by kernel_rfl)
  (eN
  (go_block (by kernel_rfl)))))))))))))))))))))))))))))))))))))))))))))))))))))))))))
theorem xr5_0 (s : Sys) (K : Out → St → Option (V × Hp)) (k wl : Nat) (rd : Bool) (n n0 : Nat) (h : Hp) : itX (xX s 5 wl k rd) xl5_0 n0 K (n + 1) ⟨(t0::t1::t2::t3::t4::t5::t6::t7::t8::t9::ta::tb::tc::td::te::tf::tg::th::ti::tj::tk::tl::tm::tn::tp::tq::tr::ts::tt::tu::tv::tw::tx::ty::tz::tA::tB::tC::tD::tE::tF::tG::tH::tI::tJ::tK::tL::tM::tN::tO::tP::tQ::tR::tS::tT::tU::tV::tW::tX::tY::tZ::q0::q1::q2::q3::q4::q5::q6::q7::q8::q9::qa::qb::qc::qd::qe::qf::qg::qh::qi::qj::qk::ql::qm::qn::qo::qp::qq::qr::qs::qt::qu::qv::qw::qx::qy::qz::qA::qB::qC::qD::qE::qF::qG::qH::qJ::qK::qL::qN::qO::qP::qQ::qR::qS::qT::qU::qV::qW::qX::qY::qZ::z0::z1::z2::z3::z4::z5::z6::z7::z8::[]),h⟩ =
  bp (opLen s.P 26 th h) fun v59 h60 =>
  bm (vBin s.P .lss 3 tn v59) h60 fun v61 h62 =>
  cnd v61 (
  bm (vIndexAddr s.P 26 th tn h62) h62 fun v63 h64 =>
  bm (vLoad s.P 28 v63 h64) h64 fun v65 h66 =>
  bm (vIndexAddr s.P 26 tk tn h66) h66 fun v67 h68 =>
  bm (vLoad s.P 28 v67 h68) h68 fun v69 h70 =>
  bm (vBin s.P .neq 28 v65 v69) h70 fun v71 h72 =>
  cnd v71 (
  K .ret ⟨(t0::t1::t2::t3::t4::t5::t6::t7::t8::t9::ta::tb::tc::td::(V.lit (Value.bool false))::tf::tg::th::ti::tj::tk::tl::tm::tn::tp::tq::tr::ts::tt::tu::tv::tw::tx::ty::tz::tA::tB::tC::tD::tE::tF::tG::tH::tI::tJ::tK::tL::tM::tN::tO::tP::tQ::tR::tS::tT::tU::tV::tW::tX::tY::tZ::q0::q1::q2::q3::q4::q5::q6::tn::th::v59::v61::qb::qc::th::tn::v63::v65::tk::tn::v67::v69::v71::qm::qn::qo::qp::qq::qr::qs::qt::qu::qv::qw::qx::qy::qz::qA::qB::qC::qD::qE::qF::qG::qH::qJ::qK::qL::qN::qO::qP::qQ::qR::qS::qT::qU::qV::qW::qX::qY::qZ::z0::z1::z2::z3::z4::z5::z6::z7::z8::[]),h72⟩) (
  bm (vBin s.P .add 3 tn (V.lit (Value.int .i64 1))) h72 fun v73 h74 =>
  itX (xX s 5 wl k rd) xl5_0 n0 K n ⟨((V.kill n0 t0)::(V.kill n0 t1)::(V.kill n0 t2)::(V.kill n0 t3)::(V.kill n0 t4)::(V.kill n0 t5)::(V.kill n0 t6)::(V.kill n0 t7)::(V.kill n0 t8)::(V.kill n0 t9)::(V.kill n0 ta)::(V.kill n0 tb)::(V.kill n0 tc)::(V.kill n0 td)::(V.kill n0 te)::(V.kill n0 tf)::(V.kill n0 tg)::(V.kill n0 th)::(V.kill n0 ti)::(V.kill n0 tj)::(V.kill n0 tk)::(V.kill n0 tl)::(V.kill n0 tm)::(V.kill n0 v73)::(V.kill n0 tp)::(V.kill n0 tq)::(V.kill n0 tr)::(V.kill n0 ts)::(V.kill n0 tt)::(V.kill n0 tu)::(V.kill n0 tv)::(V.kill n0 tw)::(V.kill n0 tx)::(V.kill n0 ty)::(V.kill n0 tz)::(V.kill n0 tA)::(V.kill n0 tB)::(V.kill n0 tC)::(V.kill n0 tD)::(V.kill n0 tE)::(V.kill n0 tF)::(V.kill n0 tG)::(V.kill n0 tH)::(V.kill n0 tI)::(V.kill n0 tJ)::(V.kill n0 tK)::(V.kill n0 tL)::(V.kill n0 tM)::(V.kill n0 tN)::(V.kill n0 tO)::(V.kill n0 tP)::(V.kill n0 tQ)::(V.kill n0 tR)::(V.kill n0 tS)::(V.kill n0 tT)::(V.kill n0 tU)::(V.kill n0 tV)::(V.kill n0 tW)::(V.kill n0 tX)::(V.kill n0 tY)::(V.kill n0 tZ)::(V.kill n0 q0)::(V.kill n0 q1)::(V.kill n0 q2)::(V.kill n0 q3)::(V.kill n0 q4)::(V.kill n0 q5)::(V.kill n0 q6)::.junk::.junk::.junk::.junk::.junk::.junk::.junk::.junk::.junk::.junk::.junk::.junk::.junk::.junk::.junk::(V.kill n0 qm)::(V.kill n0 qn)::(V.kill n0 qo)::(V.kill n0 qp)::(V.kill n0 qq)::(V.kill n0 qr)::(V.kill n0 qs)::(V.kill n0 qt)::(V.kill n0 qu)::(V.kill n0 qv)::(V.kill n0 qw)::(V.kill n0 qx)::(V.kill n0 qy)::(V.kill n0 qz)::(V.kill n0 qA)::(V.kill n0 qB)::(V.kill n0 qC)::(V.kill n0 qD)::(V.kill n0 qE)::(V.kill n0 qF)::(V.kill n0 qG)::(V.kill n0 qH)::(V.kill n0 qJ)::(V.kill n0 qK)::(V.kill n0 qL)::(V.kill n0 qN)::(V.kill n0 qO)::(V.kill n0 qP)::(V.kill n0 qQ)::(V.kill n0 qR)::(V.kill n0 qS)::(V.kill n0 qT)::(V.kill n0 qU)::(V.kill n0 qV)::(V.kill n0 qW)::(V.kill n0 qX)::(V.kill n0 qY)::(V.kill n0 qZ)::(V.kill n0 z0)::(V.kill n0 z1)::(V.kill n0 z2)::(V.kill n0 z3)::(V.kill n0 z4)::(V.kill n0 z5)::(V.kill n0 z6)::(V.kill n0 z7)::(V.kill n0 z8)::[]),cutH n0 h74⟩)) (
  K (.exit 0) ⟨((V.kill n0 t0)::(V.kill n0 t1)::(V.kill n0 t2)::(V.kill n0 t3)::(V.kill n0 t4)::(V.kill n0 t5)::(V.kill n0 t6)::(V.kill n0 t7)::(V.kill n0 t8)::(V.kill n0 t9)::(V.kill n0 ta)::(V.kill n0 tb)::(V.kill n0 tc)::(V.kill n0 td)::(V.kill n0 te)::(V.kill n0 tf)::(V.kill n0 tg)::(V.kill n0 th)::(V.kill n0 ti)::(V.kill n0 tj)::(V.kill n0 tk)::(V.kill n0 tl)::(V.kill n0 tm)::(V.kill n0 tn)::(V.kill n0 tp)::(V.kill n0 tq)::(V.kill n0 tr)::(V.kill n0 ts)::(V.kill n0 tt)::(V.kill n0 tu)::(V.kill n0 tv)::(V.kill n0 tw)::(V.kill n0 tx)::(V.kill n0 ty)::(V.kill n0 tz)::(V.kill n0 tA)::(V.kill n0 tB)::(V.kill n0 tC)::(V.kill n0 tD)::(V.kill n0 tE)::(V.kill n0 tF)::(V.kill n0 tG)::(V.kill n0 tH)::(V.kill n0 tI)::(V.kill n0 tJ)::(V.kill n0 tK)::(V.kill n0 tL)::(V.kill n0 tM)::(V.kill n0 tN)::(V.kill n0 tO)::(V.kill n0 tP)::(V.kill n0 tQ)::(V.kill n0 tR)::(V.kill n0 tS)::(V.kill n0 tT)::(V.kill n0 tU)::(V.kill n0 tV)::(V.kill n0 tW)::(V.kill n0 tX)::(V.kill n0 tY)::(V.kill n0 tZ)::(V.kill n0 q0)::(V.kill n0 q1)::(V.kill n0 q2)::(V.kill n0 q3)::(V.kill n0 q4)::(V.kill n0 q5)::(V.kill n0 q6)::.junk::.junk::.junk::.junk::.junk::.junk::.junk::.junk::.junk::.junk::.junk::.junk::.junk::.junk::.junk::(V.kill n0 qm)::(V.kill n0 qn)::(V.kill n0 qo)::(V.kill n0 qp)::(V.kill n0 qq)::(V.kill n0 qr)::(V.kill n0 qs)::(V.kill n0 qt)::(V.kill n0 qu)::(V.kill n0 qv)::(V.kill n0 qw)::(V.kill n0 qx)::(V.kill n0 qy)::(V.kill n0 qz)::(V.kill n0 qA)::(V.kill n0 qB)::(V.kill n0 qC)::(V.kill n0 qD)::(V.kill n0 qE)::(V.kill n0 qF)::(V.kill n0 qG)::(V.kill n0 qH)::(V.kill n0 qJ)::(V.kill n0 qK)::(V.kill n0 qL)::(V.kill n0 qN)::(V.kill n0 qO)::(V.kill n0 qP)::(V.kill n0 qQ)::(V.kill n0 qR)::(V.kill n0 qS)::(V.kill n0 qT)::(V.kill n0 qU)::(V.kill n0 qV)::(V.kill n0 qW)::(V.kill n0 qX)::(V.kill n0 qY)::(V.kill n0 qZ)::(V.kill n0 z0)::(V.kill n0 z1)::(V.kill n0 z2)::(V.kill n0 z3)::(V.kill n0 z4)::(V.kill n0 z5)::(V.kill n0 z6)::(V.kill n0 z7)::(V.kill n0 z8)::[]),cutH n0 h62⟩) :=
  itX_step (go_seq (go_seq (go_reg0
  (pI tn h
  (pI th h
  (pP fun v59 h60 =>
  (pM fun v61 h62 =>
  (eN
  (go_cond (by kernel_rfl)
  (go_skip (go_seq (go_block (go_seq (go_reg1 xo5_12r
  (qI xo5_12 xo5_12a th h62
  (qI xo5_12 xo5_12a tn h62
  (qM xo5_12 xo5_12a fun v63 h64 =>
  (qM xo5_12 xo5_12a fun v65 h66 =>
  (qI xo5_12 xo5_12a tk h66
  (qI xo5_12 xo5_12a tn h66
  (qM xo5_12 xo5_12a fun v67 h68 =>
  (qM xo5_12 xo5_12a fun v69 h70 =>
  (qM xo5_12 xo5_12a fun v71 h72 =>
  (go_end1 xo5_12 (by kernel_rfl) xo5_12a
  (go_cond (by kernel_rfl)
  (go_seq (go_reg0
  (go_op0 rfl rfl (st_id (v := (V.lit (Value.bool false))) (H := h72) (by kernel_rfl)
  (eN
  (go_ret (rt_block_ret (rt_seq_ret (by kernel_rfl)))))))))
  (go_skip (rt_block_norm (go_reg0
  (pI tn h72
  (pM fun v73 h74 =>
  (pI v73 h74
  (eN
  (by kernel_rfl))))))))))))))))))))))))
  (go_exit (rt_seq_exit (by kernel_rfl))))))))))))
theorem xj5_2 (h : Hp) : runK (xX s 5 wl k false) (bodyK s.P Tryz.f5) xk5_1 (.exit 0) ⟨(t0::t1::t2::t3::t4::t5::t6::t7::t8::t9::ta::tb::tc::td::te::tf::tg::th::ti::tj::tk::tl::tm::tn::tp::tq::tr::ts::tt::tu::tv::tw::tx::ty::tz::tA::tB::tC::tD::tE::tF::tG::tH::tI::tJ::tK::tL::tM::tN::tO::tP::tQ::tR::tS::tT::tU::tV::tW::tX::tY::tZ::q0::q1::q2::q3::q4::q5::q6::q7::q8::q9::qa::qb::qc::qd::qe::qf::qg::qh::qi::qj::qk::ql::qm::qn::qo::qp::qq::qr::qs::qt::qu::qv::qw::qx::qy::qz::qA::qB::qC::qD::qE::qF::qG::qH::qJ::qK::qL::qN::qO::qP::qQ::qR::qS::qT::qU::qV::qW::qX::qY::qZ::z0::z1::z2::z3::z4::z5::z6::z7::z8::[]),h⟩ =
  bp (callV (xX s 5 wl k false) false true (.fn (.func 15) [] []) [tj,tm] h) fun v75 h76 =>
  bm (vLoad s.P 32 ti h76) h76 fun v77 h78 =>
  bm (vLoad s.P 32 tl h78) h78 fun v79 h80 =>
  bp (callV (xX s 5 wl k false) false true (.fn (.func 12) [] []) [v77,v79] h80) fun v81 h82 =>
  bm (vUn .not v81) h82 fun v83 h84 =>
  cnd v83 (
  gd v75 (
  bm (vFieldAddr s.P 32 tb 0) h84 fun v85 h86 =>
  bm (vLoad s.P 3 v85 h86) h86 fun v87 h88 =>
  bm (vBin s.P .eql 3 v87 (V.lit (Value.int .i64 2))) h88 fun v89 h90 =>
  opsP (xX s 5 wl k false) xg5_2 5 h84.length ([],[]) (runK (xX s 5 wl k false) (bodyK s.P Tryz.f5) xk5_2) ⟨(t0::t1::t2::t3::t4::t5::t6::t7::t8::t9::ta::tb::tc::td::te::tf::tg::th::ti::tj::tk::tl::tm::tn::v75::tq::tr::ts::tt::tu::tv::tw::tx::ty::tz::tA::tB::tC::tD::tE::tF::tG::tH::tI::tJ::tK::tL::tM::tN::tO::tP::tQ::tR::tS::tT::tU::tV::tW::tX::tY::tZ::q0::q1::q2::q3::q4::q5::q6::q7::q8::q9::qa::qb::qc::qd::qe::qf::qg::qh::qi::qj::qk::ql::tj::tm::v75::v77::v79::v81::v83::v75::(V.lit (Value.bool true))::v85::v87::v89::qy::qz::qA::qB::qC::qD::qE::qF::qG::qH::qJ::qK::qL::qN::qO::qP::qQ::qR::qS::qT::qU::qV::qW::qX::qY::qZ::z0::z1::z2::z3::z4::z5::z6::z7::z8::[]),h90⟩) (
  opsP (xX s 5 wl k false) xg5_2 5 h84.length ([],[]) (runK (xX s 5 wl k false) (bodyK s.P Tryz.f5) xk5_2) ⟨(t0::t1::t2::t3::t4::t5::t6::t7::t8::t9::ta::tb::tc::td::te::tf::tg::th::ti::tj::tk::tl::tm::tn::v75::tq::tr::ts::tt::tu::tv::tw::tx::ty::tz::tA::tB::tC::tD::tE::tF::tG::tH::tI::tJ::tK::tL::tM::tN::tO::tP::tQ::tR::tS::tT::tU::tV::tW::tX::tY::tZ::q0::q1::q2::q3::q4::q5::q6::q7::q8::q9::qa::qb::qc::qd::qe::qf::qg::qh::qi::qj::qk::ql::tj::tm::v75::v77::v79::v81::v83::v75::(V.lit (Value.bool false))::uu::uu::uu::qy::qz::qA::qB::qC::qD::qE::qF::qG::qH::qJ::qK::qL::qN::qO::qP::qQ::qR::qS::qT::qU::qV::qW::qX::qY::qZ::z0::z1::z2::z3::z4::z5::z6::z7::z8::[]),h84⟩) (
  opsP (xX s 5 wl k false) xg5_2 3 h84.length ([],[]) (runK (xX s 5 wl k false) (bodyK s.P Tryz.f5) xk5_2) ⟨(t0::t1::t2::t3::t4::t5::t6::t7::t8::t9::ta::tb::tc::td::te::tf::tg::th::ti::tj::tk::tl::tm::tn::v75::tq::tr::ts::tt::tu::tv::tw::tx::ty::tz::tA::tB::tC::tD::tE::tF::tG::tH::tI::tJ::tK::tL::tM::tN::tO::tP::tQ::tR::tS::tT::tU::tV::tW::tX::tY::tZ::q0::q1::q2::q3::q4::q5::q6::q7::q8::q9::qa::qb::qc::qd::qe::qf::qg::qh::qi::qj::qk::ql::tj::tm::v75::v77::v79::v81::v83::v75::v75::uu::qw::qx::qy::qz::qA::qB::qC::qD::qE::qF::qG::qH::qJ::qK::qL::qN::qO::qP::qQ::qR::qS::qT::qU::qV::qW::qX::qY::qZ::z0::z1::z2::z3::z4::z5::z6::z7::z8::[]),h84⟩)) (
  some (v75,h84)) :=
  (rt_block_eq (go_seq (go_reg0
  (pI tj h
  (pI tm h
  (pP fun v75 h76 =>
  (pI v75 h76
  (eN
  (go_seq (go_seq (go_reg0
  (pM fun v77 h78 =>
  (pM fun v79 h80 =>
  (pP fun v81 h82 =>
  (pM fun v83 h84 =>
  (eN
  (go_cond (by kernel_rfl)
  (go_seq (go_reg0
  (pI v75 h84
  (pI v75 h84
  (go_gdT0 rfl rfl rfl (by kernel_rfl)
  (st_bm (by kernel_rfl) fun v85 h86 =>
  (rN (st_bm (by kernel_rfl) fun v87 h88 =>
  (rN (st_bm (by kernel_rfl) fun v89 h90 =>
  (by kernel_rfl))))))
  (sK
  (sK
  (by kernel_rfl)))
  (by kernel_rfl))))))
  (go_skip (go_seq (go_reg0
  (pI v75 h84
  (pI v75 h84
  (eN
  (go_ret (by kernel_rfl)))))))))))))))))))))))))
theorem xm5_3 (zz : List V) (h : Hp) : opsP (xX s 5 wl k false) xg5_2 5 m0 ac (runK (xX s 5 wl k false) (bodyK s.P Tryz.f5) xk5_2) ⟨(t0::t1::t2::t3::t4::t5::t6::t7::t8::t9::ta::tb::tc::td::te::tf::tg::th::ti::tj::tk::tl::tm::tn::tp::tq::tr::ts::tt::tu::tv::tw::tx::ty::tz::tA::tB::tC::tD::tE::tF::tG::tH::tI::tJ::tK::tL::tM::tN::tO::tP::tQ::tR::tS::tT::tU::tV::tW::tX::tY::tZ::q0::q1::q2::q3::q4::q5::q6::q7::q8::q9::qa::qb::qc::qd::qe::qf::qg::qh::qi::qj::qk::ql::qm::qn::qo::qp::qq::qr::qs::qt::qu::qv::qw::qx::qy::qz::qA::qB::qC::zz),h⟩ =
  bm (vPick qu qx (V.lit (Value.bool false))) h fun v91 h92 =>
  gd v91 (
  bm (vFieldAddr s.P 32 ti 0) h92 fun v93 h94 =>
  bm (vLoad s.P 3 v93 h94) h94 fun v95 h96 =>
  bm (vBin s.P .eql 3 v95 (V.lit (Value.int .i64 3))) h96 fun v97 h98 =>
  opsP (xX s 5 wl k false) xg5_2 10 m0 ac (runK (xX s 5 wl k false) (bodyK s.P Tryz.f5) xk5_2) ⟨(t0::t1::t2::t3::t4::t5::t6::t7::t8::t9::ta::tb::tc::td::te::tf::tg::th::ti::tj::tk::tl::tm::tn::tp::tq::tr::ts::tt::tu::tv::tw::tx::ty::tz::tA::tB::tC::tD::tE::tF::tG::tH::tI::tJ::tK::tL::tM::tN::tO::tP::tQ::tR::tS::tT::tU::tV::tW::tX::tY::tZ::q0::q1::q2::q3::q4::q5::q6::q7::q8::q9::qa::qb::qc::qd::qe::qf::qg::qh::qi::qj::qk::ql::qm::qn::qo::qp::qq::qr::qs::qt::qu::qv::qw::qx::v91::(V.lit (Value.bool true))::v93::v95::v97::zz),h98⟩) (
  opsP (xX s 5 wl k false) xg5_2 10 m0 ac (runK (xX s 5 wl k false) (bodyK s.P Tryz.f5) xk5_2) ⟨(t0::t1::t2::t3::t4::t5::t6::t7::t8::t9::ta::tb::tc::td::te::tf::tg::th::ti::tj::tk::tl::tm::tn::tp::tq::tr::ts::tt::tu::tv::tw::tx::ty::tz::tA::tB::tC::tD::tE::tF::tG::tH::tI::tJ::tK::tL::tM::tN::tO::tP::tQ::tR::tS::tT::tU::tV::tW::tX::tY::tZ::q0::q1::q2::q3::q4::q5::q6::q7::q8::q9::qa::qb::qc::qd::qe::qf::qg::qh::qi::qj::qk::ql::qm::qn::qo::qp::qq::qr::qs::qt::qu::qv::qw::qx::v91::(V.lit (Value.bool false))::uu::uu::uu::zz),h92⟩) (
  opsP (xX s 5 wl k false) xg5_2 8 m0 ac (runK (xX s 5 wl k false) (bodyK s.P Tryz.f5) xk5_2) ⟨(t0::t1::t2::t3::t4::t5::t6::t7::t8::t9::ta::tb::tc::td::te::tf::tg::th::ti::tj::tk::tl::tm::tn::tp::tq::tr::ts::tt::tu::tv::tw::tx::ty::tz::tA::tB::tC::tD::tE::tF::tG::tH::tI::tJ::tK::tL::tM::tN::tO::tP::tQ::tR::tS::tT::tU::tV::tW::tX::tY::tZ::q0::q1::q2::q3::q4::q5::q6::q7::q8::q9::qa::qb::qc::qd::qe::qf::qg::qh::qi::qj::qk::ql::qm::qn::qo::qp::qq::qr::qs::qt::qu::qv::qw::qx::v91::v91::uu::qB::qC::zz),h92⟩) :=
  (pM fun v91 h92 =>
  (pI v91 h92
  (go_gdT0 rfl rfl rfl (by kernel_rfl)
  (st_bm (by kernel_rfl) fun v93 h94 =>
  (rN (st_bm (by kernel_rfl) fun v95 h96 =>
  (rN (st_bm (by kernel_rfl) fun v97 h98 =>
  (by kernel_rfl))))))
  (sK
  (sK
  (by kernel_rfl)))
  (by kernel_rfl))))
theorem xm5_4 (zz : List V) (h : Hp) : opsP (xX s 5 wl k false) xg5_2 10 m0 ac (runK (xX s 5 wl k false) (bodyK s.P Tryz.f5) xk5_2) ⟨(t0::t1::t2::t3::t4::t5::t6::t7::t8::t9::ta::tb::tc::td::te::tf::tg::th::ti::tj::tk::tl::tm::tn::tp::tq::tr::ts::tt::tu::tv::tw::tx::ty::tz::tA::tB::tC::tD::tE::tF::tG::tH::tI::tJ::tK::tL::tM::tN::tO::tP::tQ::tR::tS::tT::tU::tV::tW::tX::tY::tZ::q0::q1::q2::q3::q4::q5::q6::q7::q8::q9::qa::qb::qc::qd::qe::qf::qg::qh::qi::qj::qk::ql::qm::qn::qo::qp::qq::qr::qs::qt::qu::qv::qw::qx::qy::qz::qA::qB::qC::qD::qE::qF::qG::qH::zz),h⟩ =
  bm (vPick qz qC (V.lit (Value.bool false))) h fun v99 h100 =>
  gd v99 (
  bm (vFieldAddr s.P 32 tl 0) h100 fun v101 h102 =>
  bm (vLoad s.P 3 v101 h102) h102 fun v103 h104 =>
  bm (vBin s.P .eql 3 v103 (V.lit (Value.int .i64 3))) h104 fun v105 h106 =>
  opsP (xX s 5 wl k false) xg5_2 15 m0 ac (runK (xX s 5 wl k false) (bodyK s.P Tryz.f5) xk5_2) ⟨(t0::t1::t2::t3::t4::t5::t6::t7::t8::t9::ta::tb::tc::td::te::tf::tg::th::ti::tj::tk::tl::tm::tn::tp::tq::tr::ts::tt::tu::tv::tw::tx::ty::tz::tA::tB::tC::tD::tE::tF::tG::tH::tI::tJ::tK::tL::tM::tN::tO::tP::tQ::tR::tS::tT::tU::tV::tW::tX::tY::tZ::q0::q1::q2::q3::q4::q5::q6::q7::q8::q9::qa::qb::qc::qd::qe::qf::qg::qh::qi::qj::qk::ql::qm::qn::qo::qp::qq::qr::qs::qt::qu::qv::qw::qx::qy::qz::qA::qB::qC::v99::(V.lit (Value.bool true))::v101::v103::v105::zz),h106⟩) (
  opsP (xX s 5 wl k false) xg5_2 15 m0 ac (runK (xX s 5 wl k false) (bodyK s.P Tryz.f5) xk5_2) ⟨(t0::t1::t2::t3::t4::t5::t6::t7::t8::t9::ta::tb::tc::td::te::tf::tg::th::ti::tj::tk::tl::tm::tn::tp::tq::tr::ts::tt::tu::tv::tw::tx::ty::tz::tA::tB::tC::tD::tE::tF::tG::tH::tI::tJ::tK::tL::tM::tN::tO::tP::tQ::tR::tS::tT::tU::tV::tW::tX::tY::tZ::q0::q1::q2::q3::q4::q5::q6::q7::q8::q9::qa::qb::qc::qd::qe::qf::qg::qh::qi::qj::qk::ql::qm::qn::qo::qp::qq::qr::qs::qt::qu::qv::qw::qx::qy::qz::qA::qB::qC::v99::(V.lit (Value.bool false))::uu::uu::uu::zz),h100⟩) (
  opsP (xX s 5 wl k false) xg5_2 13 m0 ac (runK (xX s 5 wl k false) (bodyK s.P Tryz.f5) xk5_2) ⟨(t0::t1::t2::t3::t4::t5::t6::t7::t8::t9::ta::tb::tc::td::te::tf::tg::th::ti::tj::tk::tl::tm::tn::tp::tq::tr::ts::tt::tu::tv::tw::tx::ty::tz::tA::tB::tC::tD::tE::tF::tG::tH::tI::tJ::tK::tL::tM::tN::tO::tP::tQ::tR::tS::tT::tU::tV::tW::tX::tY::tZ::q0::q1::q2::q3::q4::q5::q6::q7::q8::q9::qa::qb::qc::qd::qe::qf::qg::qh::qi::qj::qk::ql::qm::qn::qo::qp::qq::qr::qs::qt::qu::qv::qw::qx::qy::qz::qA::qB::qC::v99::v99::uu::qG::qH::zz),h100⟩) :=
  (pM fun v99 h100 =>
  (pI v99 h100
  (go_gdT0 rfl rfl rfl (by kernel_rfl)
  (st_bm (by kernel_rfl) fun v101 h102 =>
  (rN (st_bm (by kernel_rfl) fun v103 h104 =>
  (rN (st_bm (by kernel_rfl) fun v105 h106 =>
  (by kernel_rfl))))))
  (sK
  (sK
  (by kernel_rfl)))
  (by kernel_rfl))))
theorem xm5_5 (zz : List V) (h : Hp) : opsP (xX s 5 wl k false) xg5_2 15 m0 ac (runK (xX s 5 wl k false) (bodyK s.P Tryz.f5) xk5_2) ⟨(t0::t1::t2::t3::t4::t5::t6::t7::t8::t9::ta::tb::tc::td::te::tf::tg::th::ti::tj::tk::tl::tm::tn::tp::tq::tr::ts::tt::tu::tv::tw::tx::ty::tz::tA::tB::tC::tD::tE::tF::tG::tH::tI::tJ::tK::tL::tM::tN::tO::tP::tQ::tR::tS::tT::tU::tV::tW::tX::tY::tZ::q0::q1::q2::q3::q4::q5::q6::q7::q8::q9::qa::qb::qc::qd::qe::qf::qg::qh::qi::qj::qk::ql::qm::qn::qo::qp::qq::qr::qs::qt::qu::qv::qw::qx::qy::qz::qA::qB::qC::qD::qE::qF::qG::qH::qJ::qK::qL::qN::qO::qP::qQ::zz),h⟩ =
  bm (vPick qE qH (V.lit (Value.bool false))) h fun v107 h108 =>
  gd v107 (
  bm (vFieldAddr s.P 32 ti 2) h108 fun v109 h110 =>
  bm (vFieldAddr s.P 30 v109 2) h110 fun v111 h112 =>
  bm (vLoad s.P 3 v111 h112) h112 fun v113 h114 =>
  bm (vBin s.P .neq 3 v113 t3) h114 fun v115 h116 =>
  opsP (xX s 5 wl k false) xg5_2 22 m0 ac (runK (xX s 5 wl k false) (bodyK s.P Tryz.f5) xk5_2) ⟨(t0::t1::t2::t3::t4::t5::t6::t7::t8::t9::ta::tb::tc::td::te::tf::tg::th::ti::tj::tk::tl::tm::tn::tp::tq::tr::ts::tt::tu::tv::tw::tx::ty::tz::tA::tB::tC::tD::tE::tF::tG::tH::tI::tJ::tK::tL::tM::tN::tO::tP::tQ::tR::tS::tT::tU::tV::tW::tX::tY::tZ::q0::q1::q2::q3::q4::q5::q6::q7::q8::q9::qa::qb::qc::qd::qe::qf::qg::qh::qi::qj::qk::ql::qm::qn::qo::qp::qq::qr::qs::qt::qu::qv::qw::qx::qy::qz::qA::qB::qC::qD::qE::qF::qG::qH::v107::(V.lit (Value.bool true))::v109::v111::v113::t3::v115::zz),h116⟩) (
  opsP (xX s 5 wl k false) xg5_2 22 m0 ac (runK (xX s 5 wl k false) (bodyK s.P Tryz.f5) xk5_2) ⟨(t0::t1::t2::t3::t4::t5::t6::t7::t8::t9::ta::tb::tc::td::te::tf::tg::th::ti::tj::tk::tl::tm::tn::tp::tq::tr::ts::tt::tu::tv::tw::tx::ty::tz::tA::tB::tC::tD::tE::tF::tG::tH::tI::tJ::tK::tL::tM::tN::tO::tP::tQ::tR::tS::tT::tU::tV::tW::tX::tY::tZ::q0::q1::q2::q3::q4::q5::q6::q7::q8::q9::qa::qb::qc::qd::qe::qf::qg::qh::qi::qj::qk::ql::qm::qn::qo::qp::qq::qr::qs::qt::qu::qv::qw::qx::qy::qz::qA::qB::qC::qD::qE::qF::qG::qH::v107::(V.lit (Value.bool false))::uu::uu::uu::uu::uu::zz),h108⟩) (
  opsP (xX s 5 wl k false) xg5_2 18 m0 ac (runK (xX s 5 wl k false) (bodyK s.P Tryz.f5) xk5_2) ⟨(t0::t1::t2::t3::t4::t5::t6::t7::t8::t9::ta::tb::tc::td::te::tf::tg::th::ti::tj::tk::tl::tm::tn::tp::tq::tr::ts::tt::tu::tv::tw::tx::ty::tz::tA::tB::tC::tD::tE::tF::tG::tH::tI::tJ::tK::tL::tM::tN::tO::tP::tQ::tR::tS::tT::tU::tV::tW::tX::tY::tZ::q0::q1::q2::q3::q4::q5::q6::q7::q8::q9::qa::qb::qc::qd::qe::qf::qg::qh::qi::qj::qk::ql::qm::qn::qo::qp::qq::qr::qs::qt::qu::qv::qw::qx::qy::qz::qA::qB::qC::qD::qE::qF::qG::qH::v107::v107::uu::qN::qO::qP::qQ::zz),h108⟩) :=
  (pM fun v107 h108 =>
  (pI v107 h108
  (go_gdT0 rfl rfl rfl (by kernel_rfl)
  (st_bm (by kernel_rfl) fun v109 h110 =>
  (rN (st_bm (by kernel_rfl) fun v111 h112 =>
  (rN (st_bm (by kernel_rfl) fun v113 h114 =>
  (rN (st_id (v := t3) (H := h114) (by kernel_rfl)
  (rN (st_bm (by kernel_rfl) fun v115 h116 =>
  (by kernel_rfl))))))))))
  (sK
  (sK
  (sK
  (sK
  (by kernel_rfl)))))
  (by kernel_rfl))))
theorem xm5_6 (zz : List V) (h : Hp) : opsP (xX s 5 wl k false) xg5_2 22 m0 ac (runK (xX s 5 wl k false) (bodyK s.P Tryz.f5) xk5_2) ⟨(t0::t1::t2::t3::t4::t5::t6::t7::t8::t9::ta::tb::tc::td::te::tf::tg::th::ti::tj::tk::tl::tm::tn::tp::tq::tr::ts::tt::tu::tv::tw::tx::ty::tz::tA::tB::tC::tD::tE::tF::tG::tH::tI::tJ::tK::tL::tM::tN::tO::tP::tQ::tR::tS::tT::tU::tV::tW::tX::tY::tZ::q0::q1::q2::q3::q4::q5::q6::q7::q8::q9::qa::qb::qc::qd::qe::qf::qg::qh::qi::qj::qk::ql::qm::qn::qo::qp::qq::qr::qs::qt::qu::qv::qw::qx::qy::qz::qA::qB::qC::qD::qE::qF::qG::qH::qJ::qK::qL::qN::qO::qP::qQ::qR::qS::qT::qU::qV::qW::qX::zz),h⟩ =
  bm (vPick qK qQ (V.lit (Value.bool false))) h fun v117 h118 =>
  gd v117 (
  bm (vFieldAddr s.P 32 tl 2) h118 fun v119 h120 =>
  bm (vFieldAddr s.P 30 v119 2) h120 fun v121 h122 =>
  bm (vLoad s.P 3 v121 h122) h122 fun v123 h124 =>
  bm (vBin s.P .neq 3 v123 t3) h124 fun v125 h126 =>
  opsP (xX s 5 wl k false) xg5_2 29 m0 ac (runK (xX s 5 wl k false) (bodyK s.P Tryz.f5) xk5_2) ⟨(t0::t1::t2::t3::t4::t5::t6::t7::t8::t9::ta::tb::tc::td::te::tf::tg::th::ti::tj::tk::tl::tm::tn::tp::tq::tr::ts::tt::tu::tv::tw::tx::ty::tz::tA::tB::tC::tD::tE::tF::tG::tH::tI::tJ::tK::tL::tM::tN::tO::tP::tQ::tR::tS::tT::tU::tV::tW::tX::tY::tZ::q0::q1::q2::q3::q4::q5::q6::q7::q8::q9::qa::qb::qc::qd::qe::qf::qg::qh::qi::qj::qk::ql::qm::qn::qo::qp::qq::qr::qs::qt::qu::qv::qw::qx::qy::qz::qA::qB::qC::qD::qE::qF::qG::qH::qJ::qK::qL::qN::qO::qP::qQ::v117::(V.lit (Value.bool true))::v119::v121::v123::t3::v125::zz),h126⟩) (
  opsP (xX s 5 wl k false) xg5_2 29 m0 ac (runK (xX s 5 wl k false) (bodyK s.P Tryz.f5) xk5_2) ⟨(t0::t1::t2::t3::t4::t5::t6::t7::t8::t9::ta::tb::tc::td::te::tf::tg::th::ti::tj::tk::tl::tm::tn::tp::tq::tr::ts::tt::tu::tv::tw::tx::ty::tz::tA::tB::tC::tD::tE::tF::tG::tH::tI::tJ::tK::tL::tM::tN::tO::tP::tQ::tR::tS::tT::tU::tV::tW::tX::tY::tZ::q0::q1::q2::q3::q4::q5::q6::q7::q8::q9::qa::qb::qc::qd::qe::qf::qg::qh::qi::qj::qk::ql::qm::qn::qo::qp::qq::qr::qs::qt::qu::qv::qw::qx::qy::qz::qA::qB::qC::qD::qE::qF::qG::qH::qJ::qK::qL::qN::qO::qP::qQ::v117::(V.lit (Value.bool false))::uu::uu::uu::uu::uu::zz),h118⟩) (
  opsP (xX s 5 wl k false) xg5_2 25 m0 ac (runK (xX s 5 wl k false) (bodyK s.P Tryz.f5) xk5_2) ⟨(t0::t1::t2::t3::t4::t5::t6::t7::t8::t9::ta::tb::tc::td::te::tf::tg::th::ti::tj::tk::tl::tm::tn::tp::tq::tr::ts::tt::tu::tv::tw::tx::ty::tz::tA::tB::tC::tD::tE::tF::tG::tH::tI::tJ::tK::tL::tM::tN::tO::tP::tQ::tR::tS::tT::tU::tV::tW::tX::tY::tZ::q0::q1::q2::q3::q4::q5::q6::q7::q8::q9::qa::qb::qc::qd::qe::qf::qg::qh::qi::qj::qk::ql::qm::qn::qo::qp::qq::qr::qs::qt::qu::qv::qw::qx::qy::qz::qA::qB::qC::qD::qE::qF::qG::qH::qJ::qK::qL::qN::qO::qP::qQ::v117::v117::uu::qU::qV::qW::qX::zz),h118⟩) :=
  (pM fun v117 h118 =>
  (pI v117 h118
  (go_gdT0 rfl rfl rfl (by kernel_rfl)
  (st_bm (by kernel_rfl) fun v119 h120 =>
  (rN (st_bm (by kernel_rfl) fun v121 h122 =>
  (rN (st_bm (by kernel_rfl) fun v123 h124 =>
  (rN (st_id (v := t3) (H := h124) (by kernel_rfl)
  (rN (st_bm (by kernel_rfl) fun v125 h126 =>
  (by kernel_rfl))))))))))
  (sK
  (sK
  (sK
  (sK
  (by kernel_rfl)))))
  (by kernel_rfl))))
theorem xm5_7 (zz : List V) (h : Hp) : opsP (xX s 5 wl k false) xg5_2 29 m0 ac (runK (xX s 5 wl k false) (bodyK s.P Tryz.f5) xk5_2) ⟨(t0::t1::t2::t3::t4::t5::t6::t7::t8::t9::ta::tb::tc::td::te::tf::tg::th::ti::tj::tk::tl::tm::tn::tp::tq::tr::ts::tt::tu::tv::tw::tx::ty::tz::tA::tB::tC::tD::tE::tF::tG::tH::tI::tJ::tK::tL::tM::tN::tO::tP::tQ::tR::tS::tT::tU::tV::tW::tX::tY::tZ::q0::q1::q2::q3::q4::q5::q6::q7::q8::q9::qa::qb::qc::qd::qe::qf::qg::qh::qi::qj::qk::ql::qm::qn::qo::qp::qq::qr::qs::qt::qu::qv::qw::qx::qy::qz::qA::qB::qC::qD::qE::qF::qG::qH::qJ::qK::qL::qN::qO::qP::qQ::qR::qS::qT::qU::qV::qW::qX::qY::qZ::z0::z1::z2::z3::z4::z5::z6::zz),h⟩ =
  bm (vPick qS qX (V.lit (Value.bool false))) h fun v127 h128 =>
  gd v127 (
  bm (vFieldAddr s.P 32 ti 2) h128 fun v129 h130 =>
  bm (vFieldAddr s.P 30 v129 2) h130 fun v131 h132 =>
  bm (vLoad s.P 3 v131 h132) h132 fun v133 h134 =>
  bm (vFieldAddr s.P 32 tl 2) h134 fun v135 h136 =>
  bm (vFieldAddr s.P 30 v135 2) h136 fun v137 h138 =>
  bm (vLoad s.P 3 v137 h138) h138 fun v139 h140 =>
  bm (vBin s.P .neq 3 v133 v139) h140 fun v141 h142 =>
  opsP (xX s 5 wl k false) xg5_2 38 m0 ac (runK (xX s 5 wl k false) (bodyK s.P Tryz.f5) xk5_2) ⟨(t0::t1::t2::t3::t4::t5::t6::t7::t8::t9::ta::tb::tc::td::te::tf::tg::th::ti::tj::tk::tl::tm::tn::tp::tq::tr::ts::tt::tu::tv::tw::tx::ty::tz::tA::tB::tC::tD::tE::tF::tG::tH::tI::tJ::tK::tL::tM::tN::tO::tP::tQ::tR::tS::tT::tU::tV::tW::tX::tY::tZ::q0::q1::q2::q3::q4::q5::q6::q7::q8::q9::qa::qb::qc::qd::qe::qf::qg::qh::qi::qj::qk::ql::qm::qn::qo::qp::qq::qr::qs::qt::qu::qv::qw::qx::qy::qz::qA::qB::qC::qD::qE::qF::qG::qH::qJ::qK::qL::qN::qO::qP::qQ::qR::qS::qT::qU::qV::qW::qX::v127::(V.lit (Value.bool true))::v129::v131::v133::v135::v137::v139::v141::zz),h142⟩) (
  opsP (xX s 5 wl k false) xg5_2 38 m0 ac (runK (xX s 5 wl k false) (bodyK s.P Tryz.f5) xk5_2) ⟨(t0::t1::t2::t3::t4::t5::t6::t7::t8::t9::ta::tb::tc::td::te::tf::tg::th::ti::tj::tk::tl::tm::tn::tp::tq::tr::ts::tt::tu::tv::tw::tx::ty::tz::tA::tB::tC::tD::tE::tF::tG::tH::tI::tJ::tK::tL::tM::tN::tO::tP::tQ::tR::tS::tT::tU::tV::tW::tX::tY::tZ::q0::q1::q2::q3::q4::q5::q6::q7::q8::q9::qa::qb::qc::qd::qe::qf::qg::qh::qi::qj::qk::ql::qm::qn::qo::qp::qq::qr::qs::qt::qu::qv::qw::qx::qy::qz::qA::qB::qC::qD::qE::qF::qG::qH::qJ::qK::qL::qN::qO::qP::qQ::qR::qS::qT::qU::qV::qW::qX::v127::(V.lit (Value.bool false))::uu::uu::uu::uu::uu::uu::uu::zz),h128⟩) (
  opsP (xX s 5 wl k false) xg5_2 32 m0 ac (runK (xX s 5 wl k false) (bodyK s.P Tryz.f5) xk5_2) ⟨(t0::t1::t2::t3::t4::t5::t6::t7::t8::t9::ta::tb::tc::td::te::tf::tg::th::ti::tj::tk::tl::tm::tn::tp::tq::tr::ts::tt::tu::tv::tw::tx::ty::tz::tA::tB::tC::tD::tE::tF::tG::tH::tI::tJ::tK::tL::tM::tN::tO::tP::tQ::tR::tS::tT::tU::tV::tW::tX::tY::tZ::q0::q1::q2::q3::q4::q5::q6::q7::q8::q9::qa::qb::qc::qd::qe::qf::qg::qh::qi::qj::qk::ql::qm::qn::qo::qp::qq::qr::qs::qt::qu::qv::qw::qx::qy::qz::qA::qB::qC::qD::qE::qF::qG::qH::qJ::qK::qL::qN::qO::qP::qQ::qR::qS::qT::qU::qV::qW::qX::v127::v127::uu::z1::z2::z3::z4::z5::z6::zz),h128⟩) :=
  (pM fun v127 h128 =>
  (pI v127 h128
  (go_gdT0 rfl rfl rfl (by kernel_rfl)
  (st_bm (by kernel_rfl) fun v129 h130 =>
  (rN (st_bm (by kernel_rfl) fun v131 h132 =>
  (rN (st_bm (by kernel_rfl) fun v133 h134 =>
  (rN (st_bm (by kernel_rfl) fun v135 h136 =>
  (rN (st_bm (by kernel_rfl) fun v137 h138 =>
  (rN (st_bm (by kernel_rfl) fun v139 h140 =>
  (rN (st_bm (by kernel_rfl) fun v141 h142 =>
  (by kernel_rfl))))))))))))))
  (sK
  (sK
  (sK
  (sK
  (sK
  (sK
  (by kernel_rfl)))))))
  (by kernel_rfl))))
theorem xm5_8 (h : Hp) : opsP (xX s 5 wl k false) xg5_2 38 m0 ac (runK (xX s 5 wl k false) (bodyK s.P Tryz.f5) xk5_2) ⟨(t0::t1::t2::t3::t4::t5::t6::t7::t8::t9::ta::tb::tc::td::te::tf::tg::th::ti::tj::tk::tl::tm::tn::tp::tq::tr::ts::tt::tu::tv::tw::tx::ty::tz::tA::tB::tC::tD::tE::tF::tG::tH::tI::tJ::tK::tL::tM::tN::tO::tP::tQ::tR::tS::tT::tU::tV::tW::tX::tY::tZ::q0::q1::q2::q3::q4::q5::q6::q7::q8::q9::qa::qb::qc::qd::qe::qf::qg::qh::qi::qj::qk::ql::qm::qn::qo::qp::qq::qr::qs::qt::qu::qv::qw::qx::qy::qz::qA::qB::qC::qD::qE::qF::qG::qH::qJ::qK::qL::qN::qO::qP::qQ::qR::qS::qT::qU::qV::qW::qX::qY::qZ::z0::z1::z2::z3::z4::z5::z6::z7::z8::[]),h⟩ =
  bm (vPick qZ z6 (V.lit (Value.bool false))) h fun v143 h144 =>
  some (v143,h144) :=
  (pM fun v143 h144 =>
  (pI v143 h144
  (eN
  (go_ret (rt_seq_ret (by kernel_rfl))))))
theorem xk5_0_ret (cx : Cx) (K : Out → St → Option (V × Hp)) (s : St) : runK cx K xk5_0 .ret s = K .ret s := by kernel_rfl
theorem xk5_1_ret (cx : Cx) (K : Out → St → Option (V × Hp)) (s : St) : runK cx K xk5_1 .ret s = K .ret s := by kernel_rfl
theorem xk5_2_ret (cx : Cx) (K : Out → St → Option (V × Hp)) (s : St) : runK cx K xk5_2 .ret s = K .ret s := by kernel_rfl
-- names: xb5,xz5,xm5_0,xm5_1,xr5_0,xj5_2,xm5_3,xm5_4,xm5_5,xm5_6,xm5_7,xm5_8,xk5_0_ret,xk5_1_ret,xk5_2_ret
end Go.Ab
