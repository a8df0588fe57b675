/- The program's code,point by point: printed by gen.py. -/
import Derived.Test.YtcmdnjaenhbdpaaGreatR5Seat
import Derived.Test.YtcmdnjaenhbdpaaGreatAbLibC
set_option linter.unusedVariables false
set_option linter.unusedSimpArgs false
set_option maxRecDepth 100000
set_option linter.unusedVariables false
namespace Go.Ab
open Go.Proofs
variable (s : Sys) (k wl : Nat) (m0 : Nat) (ac : List Nat × List Nat) (t0 t1 t2 t3 t4 t5 t6 t7 t8 t9 ta tb tc td te tf tg th ti tj tk tl tm tn tp tq tr ts tt tu tv tw tx ty tz tA tB tC tD tE tF tG tH tI tJ tK tL tM tN tO tP tQ tR tS tT tU tV tW tX tY tZ q0 q1 q2 q3 q4 q5 q6 q7 q8 q9 qa qb qc qd qe qf qg qh qi qj qk ql qm qn qo : V)
noncomputable def xg7_0 : Code := codeAt (bodyOf Tryz.f7) [1,1,1,1,1,1,0,0]
noncomputable def xk7_0 : List Fr := [.seq (codeAt (bodyOf Tryz.f7) [1,1,1,1,1,1,0,1]),.seq (codeAt (bodyOf Tryz.f7) [1,1,1,1,1,1,1])]
noncomputable def xl7_0 : Code := codeAt (bodyOf Tryz.f7) [1,1,1,1,1,1,1,1,1,0,0,0]
noncomputable def xk7_1 : List Fr := [.block 0,.seq (codeAt (bodyOf Tryz.f7) [1,1,1,1,1,1,1,1,1,1])]
noncomputable def xg7_1 : Code := codeAt (bodyOf Tryz.f7) [1,1,1,1,1,1,1,1,1,0,0,0,0,0]
noncomputable def xk7_2 : List Fr := [.seq (codeAt (bodyOf Tryz.f7) [1,1,1,1,1,1,1,1,1,0,0,0,0,1]),.seq (codeAt (bodyOf Tryz.f7) [1,1,1,1,1,1,1,1,1,0,0,0,1])]
noncomputable def xg7_2 : Code := codeAt (bodyOf Tryz.f7) [1,1,1,1,1,1,1,1,1,1,0]
noncomputable def xk7_3 : List Fr := [.seq (codeAt (bodyOf Tryz.f7) [1,1,1,1,1,1,1,1,1,1,1])]
theorem xo7_6 : orderIx (opsOf xg7_0) = [0,1,2,3,4,5,6,7,8,9,10,11,12,13,14,15] := by kernel_rfl
theorem xo7_6a : (rgOf (opsOf xg7_0)).any = false := by kernel_rfl
theorem xo7_6r : regOk (opsOf xg7_0) = true := by kernel_rfl
theorem xb7 (h : Hp) : bodyV (xX s 7 wl k false) Tryz.f7 [t0,t1,t2] h =
  bp (opBox t0 h) fun v1 h2 =>
  bp (callV (xX s 7 wl k false) false true (.fn (.func 8) [] []) [] h2) fun v3 h4 =>
  bp (callV (xX s 7 wl k false) false true (.fn (.func 16) [] []) [t2] h4) fun v5 h6 =>
  bp (opAlloc s.P 32 h6) fun v7 h8 =>
  bs (vStore s.P wl 32 v7 v5 h8) fun h9 =>
  bm (vFieldAddr s.P 32 v7 0) h9 fun v10 h11 =>
  bs (vStore s.P wl 3 v10 (V.lit (Value.int .i64 7)) h11) fun h12 =>
  bm (vBuild s.P 30 [(0,(V.lit (Value.int .i64 5))),(2,t2),(1,(V.lit (Value.int .i64 1)))]) h12 fun v13 h14 =>
  bm (vFieldAddr s.P 32 v7 2) h14 fun v15 h16 =>
  bs (vStore s.P wl 30 v15 v13 h16) fun h17 =>
  bm (vLoad s.P 32 v7 h17) h17 fun v18 h19 =>
  bp (callV (xX s 7 wl k false) false true (.fn (.func 9) [] []) [t1,v18] h19) fun v20 h21 =>
  bm (vUn .not v3) h21 fun v22 h23 =>
  gd v22 (
  opsP (xX s 7 wl k false) xg7_0 5 h21.length ([],[]) (runK (xX s 7 wl k false) (bodyK s.P Tryz.f7) xk7_0) ⟨(t0::t1::t2::v1::uu::uu::(V.lit (Value.bool false))::v3::v7::v20::uu::uu::uu::uu::uu::v3::t2::v5::v10::t2::v13::v15::t1::v18::v20::v3::v22::(V.lit (Value.bool true))::uu::uu::uu::uu::uu::uu::uu::uu::uu::uu::uu::uu::uu::uu::uu::uu::uu::uu::uu::uu::uu::uu::uu::uu::uu::uu::uu::uu::uu::uu::uu::uu::uu::uu::uu::uu::uu::uu::uu::uu::uu::uu::uu::uu::uu::uu::uu::uu::uu::uu::uu::uu::uu::uu::uu::uu::uu::uu::[]),h23⟩) (
  bm (vUn .not v20) h23 fun v24 h25 =>
  opsP (xX s 7 wl k false) xg7_0 5 h21.length ([],[]) (runK (xX s 7 wl k false) (bodyK s.P Tryz.f7) xk7_0) ⟨(t0::t1::t2::v1::uu::uu::(V.lit (Value.bool false))::v3::v7::v20::uu::uu::uu::uu::uu::v3::t2::v5::v10::t2::v13::v15::t1::v18::v20::v3::v22::(V.lit (Value.bool false))::v20::v24::uu::uu::uu::uu::uu::uu::uu::uu::uu::uu::uu::uu::uu::uu::uu::uu::uu::uu::uu::uu::uu::uu::uu::uu::uu::uu::uu::uu::uu::uu::uu::uu::uu::uu::uu::uu::uu::uu::uu::uu::uu::uu::uu::uu::uu::uu::uu::uu::uu::uu::uu::uu::uu::uu::uu::uu::[]),h25⟩) (
  opsP (xX s 7 wl k false) xg7_0 4 h21.length ([],[]) (runK (xX s 7 wl k false) (bodyK s.P Tryz.f7) xk7_0) ⟨(t0::t1::t2::v1::uu::uu::(V.lit (Value.bool false))::v3::v7::v20::uu::uu::uu::uu::uu::v3::t2::v5::v10::t2::v13::v15::t1::v18::v20::v3::v22::v22::uu::uu::uu::uu::uu::uu::uu::uu::uu::uu::uu::uu::uu::uu::uu::uu::uu::uu::uu::uu::uu::uu::uu::uu::uu::uu::uu::uu::uu::uu::uu::uu::uu::uu::uu::uu::uu::uu::uu::uu::uu::uu::uu::uu::uu::uu::uu::uu::uu::uu::uu::uu::uu::uu::uu::uu::uu::uu::[]),h23⟩) :=
  bodyV_run rfl (go_seq (go_reg0
  (pP fun v1 h2 =>
  (go_op0 rfl rfl (st_id (v := (V.lit (Value.bool false))) (H := h2) (by kernel_rfl)
  (eN
  (go_seq (go_reg0
  (pP fun v3 h4 =>
  (pI v3 h4
  (eN
  (go_seq (go_reg0
  (pI t2 h4
  (pP fun v5 h6 =>
  (pP fun v7 h8 =>
  (pS fun h9 =>
  (eN
  (go_seq (go_reg0
  (pM fun v10 h11 =>
  (pS fun h12 =>
  (eN
  (go_seq (go_reg0
  (pI t2 h12
  (pM fun v13 h14 =>
  (pM fun v15 h16 =>
  (pS fun h17 =>
  (eN
  (go_seq (go_reg0
  (pI t1 h17
  (pM fun v18 h19 =>
  (pP fun v20 h21 =>
  (pI v20 h21
  (eN
  (go_seq (go_seq (go_reg1 xo7_6r
  (qI xo7_6 xo7_6a v3 h21
  (qM xo7_6 xo7_6a fun v22 h23 =>
  (qI xo7_6 xo7_6a v22 h23
  (go_gdF1 xo7_6 xo7_6a rfl rfl rfl rfl (by kernel_rfl)
  (go_skip1 xo7_6 rfl rfl rfl rfl (by kernel_rfl)
  (by kernel_rfl))
  (st_no (by kernel_rfl) (st_id (v := v20) (H := h23) (by kernel_rfl)
  (go_run1 xo7_6 xo7_6a rfl rfl rfl rfl (by kernel_rfl) (st_no (by kernel_rfl) (st_bm (by kernel_rfl) fun v24 h25 =>
  (by kernel_rfl))))))
  (by kernel_rfl)))))))))))))))))))))))))))))))))))))))))))))
theorem xe7 (k wl : Nat) (h : Hp) : evF Tryz.prog xM (k + 1) wl 7 [t0,t1,t2] h = bodyV (xX (xS k) 7 wl k false) Tryz.f7 [t0,t1,t2] h := by kernel_rfl
theorem xz7 (P : Program) (h : Hp) : bodyK P Tryz.f7 .ret ⟨(t0::t1::t2::t3::t4::t5::t6::t7::t8::t9::ta::tb::tc::td::te::tf::tg::th::ti::tj::tk::tl::tm::tn::tp::tq::tr::ts::tt::tu::tv::tw::tx::ty::tz::tA::tB::tC::tD::tE::tF::tG::tH::tI::tJ::tK::tL::tM::tN::tO::tP::tQ::tR::tS::tT::tU::tV::tW::tX::tY::tZ::q0::q1::q2::q3::q4::q5::q6::q7::q8::q9::qa::qb::qc::qd::qe::qf::qg::qh::qi::qj::qk::ql::qm::qn::qo::[]),h⟩ = some (t6,h) := by kernel_rfl
theorem xm7_0 (zz : List V) (h : Hp) : opsP (xX s 7 wl k false) xg7_0 5 m0 ac (runK (xX s 7 wl k false) (bodyK s.P Tryz.f7) xk7_0) ⟨(t0::t1::t2::t3::t4::t5::t6::t7::t8::t9::ta::tb::tc::td::te::tf::tg::th::ti::tj::tk::tl::tm::tn::tp::tq::tr::ts::tt::tu::tv::tw::tx::ty::tz::tA::tB::tC::tD::tE::zz),h⟩ =
  bm (vPick ts (V.lit (Value.bool true)) tu) h fun v26 h27 =>
  gd v26 (
  opsP (xX s 7 wl k false) xg7_0 15 m0 ac (runK (xX s 7 wl k false) (bodyK s.P Tryz.f7) xk7_0) ⟨(t0::t1::t2::t3::t4::t5::t6::t7::t8::t9::ta::tb::tc::td::te::tf::tg::th::ti::tj::tk::tl::tm::tn::tp::tq::tr::ts::tt::tu::v26::(V.lit (Value.bool true))::uu::uu::uu::uu::uu::uu::uu::uu::zz),h27⟩) (
  stO m0 t3 (
  bm (vLoad s.P 23 t3 h27) h27 fun v28 h29 =>
  bm (vLoad s.P 23 t3 h29) h29 fun v30 h31 =>
  bp (callV (xX s 7 wl k false) true true (.fn (.func 17) [] []) [v30] h31) fun v32 h33 =>
  stO m0 t8 (
  bm (vLoad s.P 32 t8 h33) h33 fun v34 h35 =>
  bp (callV (xX s 7 wl k false) false true (.fn (.func 11) [] []) [v28,t1,v32,t2,v34] h35) fun v36 h37 =>
  bm (vUn .not v36) h37 fun v38 h39 =>
  opsP (xX s 7 wl k false) xg7_0 15 m0 ac (runK (xX s 7 wl k false) (bodyK s.P Tryz.f7) xk7_0) ⟨(t0::t1::t2::t3::t4::t5::t6::t7::t8::t9::ta::tb::tc::td::te::tf::tg::th::ti::tj::tk::tl::tm::tn::tp::tq::tr::ts::tt::tu::v26::(V.lit (Value.bool false))::v28::t1::v30::v32::t2::v34::v36::v38::zz),h39⟩))) (
  opsP (xX s 7 wl k false) xg7_0 8 m0 ac (runK (xX s 7 wl k false) (bodyK s.P Tryz.f7) xk7_0) ⟨(t0::t1::t2::t3::t4::t5::t6::t7::t8::t9::ta::tb::tc::td::te::tf::tg::th::ti::tj::tk::tl::tm::tn::tp::tq::tr::ts::tt::tu::v26::v26::uu::ty::tz::tA::tB::tC::tD::tE::zz),h27⟩) :=
  (qM xo7_6 xo7_6a fun v26 h27 =>
  (qI xo7_6 xo7_6a v26 h27
  (go_gdF1 xo7_6 xo7_6a rfl rfl rfl rfl (by kernel_rfl)
  (go_skip1 xo7_6 rfl rfl rfl rfl (by kernel_rfl)
  (go_skip1 xo7_6 rfl rfl rfl rfl (by kernel_rfl)
  (go_skip1 xo7_6 rfl rfl rfl rfl (by kernel_rfl)
  (go_skip1 xo7_6 rfl rfl rfl rfl (by kernel_rfl)
  (go_skip1 xo7_6 rfl rfl rfl rfl (by kernel_rfl)
  (go_skip1 xo7_6 rfl rfl rfl rfl (by kernel_rfl)
  (go_skip1 xo7_6 rfl rfl rfl rfl (by kernel_rfl)
  (by kernel_rfl))))))))
  (st_yes (by kernel_rfl) (st_bm (by kernel_rfl) fun v28 h29 =>
  (go_run1 xo7_6 xo7_6a rfl rfl rfl rfl (by kernel_rfl) (st_no (by kernel_rfl) (st_id (v := t1) (H := h29) (by kernel_rfl)
  (go_run1 xo7_6 xo7_6a rfl rfl rfl rfl (by kernel_rfl) (st_no (by kernel_rfl) (st_bm (by kernel_rfl) fun v30 h31 =>
  (go_run1 xo7_6 xo7_6a rfl rfl rfl rfl (by kernel_rfl) (st_no (by kernel_rfl) (st_bp (by kernel_rfl) fun v32 h33 =>
  (go_run1 xo7_6 xo7_6a rfl rfl rfl rfl (by kernel_rfl) (st_no (by kernel_rfl) (st_id (v := t2) (H := h33) (by kernel_rfl)
  (go_run1 xo7_6 xo7_6a rfl rfl rfl rfl (by kernel_rfl) (st_yes (by kernel_rfl) (st_bm (by kernel_rfl) fun v34 h35 =>
  (go_run1 xo7_6 xo7_6a rfl rfl rfl rfl (by kernel_rfl) (st_no (by kernel_rfl) (st_bp (by kernel_rfl) fun v36 h37 =>
  (go_run1 xo7_6 xo7_6a rfl rfl rfl rfl (by kernel_rfl) (st_no (by kernel_rfl) (st_bm (by kernel_rfl) fun v38 h39 =>
  (by kernel_rfl))))))))))))))))))))))))
  (by kernel_rfl))))
theorem xm7_1 (h : Hp) : opsP (xX s 7 wl k false) xg7_0 15 m0 ac (runK (xX s 7 wl k false) (bodyK s.P Tryz.f7) xk7_0) ⟨(t0::t1::t2::t3::t4::t5::t6::t7::t8::t9::ta::tb::tc::td::te::tf::tg::th::ti::tj::tk::tl::tm::tn::tp::tq::tr::ts::tt::tu::tv::tw::tx::ty::tz::tA::tB::tC::tD::tE::tF::tG::tH::tI::tJ::tK::tL::tM::tN::tO::tP::tQ::tR::tS::tT::tU::tV::tW::tX::tY::tZ::q0::q1::q2::q3::q4::q5::q6::q7::q8::q9::qa::qb::qc::qd::qe::qf::qg::qh::qi::qj::qk::ql::qm::qn::qo::[]),h⟩ =
  bm (vPick tw (V.lit (Value.bool true)) tE) h fun v40 h41 =>
  cnd v40 (
  some (t7,h41)) (
  bm (vLoad s.P 23 t3 h41) h41 fun v42 h43 =>
  bp (callV (xX s 7 wl k false) false true (.fn (.func 17) [] []) [v42] h43) fun v44 h45 =>
  itX (xX s 7 wl k false) xl7_0 h45.length (runK (xX s 7 wl k false) (bodyK s.P Tryz.f7) xk7_1) k ⟨((V.kill h45.length t0)::(V.kill h45.length t1)::(V.kill h45.length t2)::(V.kill h45.length t3)::(V.kill h45.length t4)::(V.kill h45.length t5)::(V.kill h45.length t6)::(V.kill h45.length t7)::(V.kill h45.length t8)::(V.kill h45.length t9)::(V.kill h45.length v44)::(V.lit (Value.int .i64 0))::(V.kill h45.length tc)::(V.kill h45.length td)::(V.kill h45.length te)::(V.kill h45.length tf)::(V.kill h45.length tg)::(V.kill h45.length th)::(V.kill h45.length ti)::(V.kill h45.length tj)::(V.kill h45.length tk)::(V.kill h45.length tl)::(V.kill h45.length tm)::(V.kill h45.length tn)::(V.kill h45.length tp)::(V.kill h45.length tq)::(V.kill h45.length tr)::(V.kill h45.length ts)::(V.kill h45.length tt)::(V.kill h45.length tu)::(V.kill h45.length tv)::(V.kill h45.length tw)::(V.kill h45.length tx)::(V.kill h45.length ty)::(V.kill h45.length tz)::(V.kill h45.length tA)::(V.kill h45.length tB)::(V.kill h45.length tC)::(V.kill h45.length tD)::(V.kill h45.length tE)::(V.kill h45.length v40)::(V.kill h45.length tG)::(V.kill h45.length v42)::(V.kill h45.length v44)::.junk::.junk::.junk::.junk::.junk::.junk::.junk::.junk::.junk::.junk::.junk::.junk::.junk::.junk::.junk::.junk::.junk::.junk::.junk::.junk::.junk::.junk::.junk::.junk::(V.kill h45.length q7)::(V.kill h45.length q8)::(V.kill h45.length q9)::(V.kill h45.length qa)::(V.kill h45.length qb)::(V.kill h45.length qc)::(V.kill h45.length qd)::(V.kill h45.length qe)::(V.kill h45.length qf)::(V.kill h45.length qg)::(V.kill h45.length qh)::(V.kill h45.length qi)::(V.kill h45.length qj)::(V.kill h45.length qk)::(V.kill h45.length ql)::(V.kill h45.length qm)::(V.kill h45.length qn)::(V.kill h45.length qo)::[]),cutH h45.length h45⟩) :=
  (qM xo7_6 xo7_6a fun v40 h41 =>
  (go_end1 xo7_6 (by kernel_rfl) xo7_6a
  (go_cond (by kernel_rfl)
  (go_seq (go_reg0
  (pI t7 h41
  (pI t7 h41
  (eN
  (go_ret (rt_seq_ret (by kernel_rfl))))))))
  (go_skip (go_seq (go_reg0
  (pM fun v42 h43 =>
  (pP fun v44 h45 =>
  (pI v44 h45
  (eN
  (go_seq (go_reg0
  (go_op0 rfl rfl (st_id (v := (V.lit (Value.int .i64 0))) (H := h45) (by kernel_rfl)
  (eN
  (go_seq (go_block (by kernel_rfl))))))))))))))))))
theorem xr7_0 (s : Sys) (K : Out → St → Option (V × Hp)) (k wl : Nat) (rd : Bool) (n n0 : Nat) (zz : List V) (h : Hp) : itX (xX s 7 wl k rd) xl7_0 n0 K (n + 1) ⟨(t0::t1::t2::t3::t4::t5::t6::t7::t8::t9::ta::tb::tc::td::te::tf::tg::th::ti::tj::tk::tl::tm::tn::tp::tq::tr::ts::tt::tu::tv::tw::tx::ty::tz::tA::tB::tC::tD::tE::tF::tG::tH::tI::tJ::tK::tL::tM::tN::tO::zz),h⟩ =
  bm (vBin s.P .lss 3 tb (V.lit (Value.int .i64 30))) h fun v46 h47 =>
  gd v46 (
  bm (vFieldAddr s.P 32 t8 0) h47 fun v48 h49 =>
  bm (vLoad s.P 3 v48 h49) h49 fun v50 h51 =>
  bm (vBin s.P .eql 3 v50 (V.lit (Value.int .i64 7))) h51 fun v52 h53 =>
  opsP (xX s 7 wl k rd) xg7_1 6 h.length ([],[]) (runK (xX s 7 wl k rd) (nextK (xX s 7 wl k rd) xl7_0 n0 K n) xk7_2) ⟨(t0::t1::t2::t3::t4::t5::t6::t7::t8::t9::ta::tb::tc::td::te::tf::tg::th::ti::tj::tk::tl::tm::tn::tp::tq::tr::ts::tt::tu::tv::tw::tx::ty::tz::tA::tB::tC::tD::tE::tF::tG::tH::tI::tb::v46::(V.lit (Value.bool true))::v48::v50::v52::zz),h53⟩) (
  opsP (xX s 7 wl k rd) xg7_1 6 h.length ([],[]) (runK (xX s 7 wl k rd) (nextK (xX s 7 wl k rd) xl7_0 n0 K n) xk7_2) ⟨(t0::t1::t2::t3::t4::t5::t6::t7::t8::t9::ta::tb::tc::td::te::tf::tg::th::ti::tj::tk::tl::tm::tn::tp::tq::tr::ts::tt::tu::tv::tw::tx::ty::tz::tA::tB::tC::tD::tE::tF::tG::tH::tI::tb::v46::(V.lit (Value.bool false))::uu::uu::uu::zz),h47⟩) (
  opsP (xX s 7 wl k rd) xg7_1 4 h.length ([],[]) (runK (xX s 7 wl k rd) (nextK (xX s 7 wl k rd) xl7_0 n0 K n) xk7_2) ⟨(t0::t1::t2::t3::t4::t5::t6::t7::t8::t9::ta::tb::tc::td::te::tf::tg::th::ti::tj::tk::tl::tm::tn::tp::tq::tr::ts::tt::tu::tv::tw::tx::ty::tz::tA::tB::tC::tD::tE::tF::tG::tH::tI::tb::v46::v46::uu::tN::tO::zz),h47⟩) :=
  itX_step (go_seq (go_seq (go_reg0
  (pI tb h
  (pM fun v46 h47 =>
  (pI v46 h47
  (go_gdT0 rfl rfl rfl (by kernel_rfl)
  (st_bm (by kernel_rfl) fun v48 h49 =>
  (rN (st_bm (by kernel_rfl) fun v50 h51 =>
  (rN (st_bm (by kernel_rfl) fun v52 h53 =>
  (by kernel_rfl))))))
  (sK
  (sK
  (by kernel_rfl)))
  (by kernel_rfl))))))))
theorem xj7_2 (s : Sys) (k wl : Nat) (zz : List V) (h : Hp) : runK (xX s 7 wl k false) (bodyK s.P Tryz.f7) xk7_1 (.exit 0) ⟨(t0::t1::t2::t3::t4::t5::t6::t7::t8::t9::ta::tb::tc::td::te::tf::tg::th::ti::tj::tk::tl::tm::tn::tp::tq::tr::ts::tt::tu::tv::tw::tx::ty::tz::tA::tB::tC::tD::tE::tF::tG::tH::tI::tJ::tK::tL::tM::tN::tO::tP::tQ::tR::tS::tT::tU::tV::tW::tX::tY::tZ::q0::q1::q2::q3::q4::q5::q6::q7::q8::q9::qa::qb::qc::qd::qe::qf::qg::zz),h⟩ =
  bm (vFieldAddr s.P 23 t3 0) h fun v54 h55 =>
  bm (vLoad s.P 3 v54 h55) h55 fun v56 h57 =>
  bm (vBin s.P .mul 3 (V.lit (Value.int .i64 2)) v56) h57 fun v58 h59 =>
  bm (vBin s.P .add 3 (V.lit (Value.int .i64 2)) v58) h59 fun v60 h61 =>
  bm (vBin s.P .eql 3 tb v60) h61 fun v62 h63 =>
  gd v62 (
  bm (vFieldAddr s.P 32 t8 0) h63 fun v64 h65 =>
  bm (vLoad s.P 3 v64 h65) h65 fun v66 h67 =>
  bm (vBin s.P .eql 3 v66 (V.lit (Value.int .i64 8))) h67 fun v68 h69 =>
  opsP (xX s 7 wl k false) xg7_2 10 h.length ([],[]) (runK (xX s 7 wl k false) (bodyK s.P Tryz.f7) xk7_3) ⟨(t0::t1::t2::t3::t4::t5::t6::t7::t8::t9::ta::tb::tc::td::te::tf::tg::th::ti::tj::tk::tl::tm::tn::tp::tq::tr::ts::tt::tu::tv::tw::tx::ty::tz::tA::tB::tC::tD::tE::tF::tG::tH::tI::tJ::tK::tL::tM::tN::tO::tP::tQ::tR::tS::tT::tU::tV::tW::tX::tY::tZ::q0::q1::q2::q3::q4::q5::q6::tb::v54::v56::v58::v60::v62::(V.lit (Value.bool true))::v64::v66::v68::zz),h69⟩) (
  opsP (xX s 7 wl k false) xg7_2 10 h.length ([],[]) (runK (xX s 7 wl k false) (bodyK s.P Tryz.f7) xk7_3) ⟨(t0::t1::t2::t3::t4::t5::t6::t7::t8::t9::ta::tb::tc::td::te::tf::tg::th::ti::tj::tk::tl::tm::tn::tp::tq::tr::ts::tt::tu::tv::tw::tx::ty::tz::tA::tB::tC::tD::tE::tF::tG::tH::tI::tJ::tK::tL::tM::tN::tO::tP::tQ::tR::tS::tT::tU::tV::tW::tX::tY::tZ::q0::q1::q2::q3::q4::q5::q6::tb::v54::v56::v58::v60::v62::(V.lit (Value.bool false))::uu::uu::uu::zz),h63⟩) (
  opsP (xX s 7 wl k false) xg7_2 8 h.length ([],[]) (runK (xX s 7 wl k false) (bodyK s.P Tryz.f7) xk7_3) ⟨(t0::t1::t2::t3::t4::t5::t6::t7::t8::t9::ta::tb::tc::td::te::tf::tg::th::ti::tj::tk::tl::tm::tn::tp::tq::tr::ts::tt::tu::tv::tw::tx::ty::tz::tA::tB::tC::tD::tE::tF::tG::tH::tI::tJ::tK::tL::tM::tN::tO::tP::tQ::tR::tS::tT::tU::tV::tW::tX::tY::tZ::q0::q1::q2::q3::q4::q5::q6::tb::v54::v56::v58::v60::v62::v62::uu::qf::qg::zz),h63⟩) :=
  (rt_block_eq (go_seq (go_reg0
  (pI tb h
  (pM fun v54 h55 =>
  (pM fun v56 h57 =>
  (pM fun v58 h59 =>
  (pM fun v60 h61 =>
  (pM fun v62 h63 =>
  (pI v62 h63
  (go_gdT0 rfl rfl rfl (by kernel_rfl)
  (st_bm (by kernel_rfl) fun v64 h65 =>
  (rN (st_bm (by kernel_rfl) fun v66 h67 =>
  (rN (st_bm (by kernel_rfl) fun v68 h69 =>
  (by kernel_rfl))))))
  (sK
  (sK
  (by kernel_rfl)))
  (by kernel_rfl))))))))))))
theorem xm7_3 (s : Sys) (K : Out → St → Option (V × Hp)) (k wl : Nat) (rd : Bool) (n n0 : Nat) (m0 : Nat) (ac : List Nat × List Nat) (h : Hp) : opsP (xX s 7 wl k rd) xg7_1 6 m0 ac (runK (xX s 7 wl k rd) (nextK (xX s 7 wl k rd) xl7_0 n0 K n) xk7_2) ⟨(t0::t1::t2::t3::t4::t5::t6::t7::t8::t9::ta::tb::tc::td::te::tf::tg::th::ti::tj::tk::tl::tm::tn::tp::tq::tr::ts::tt::tu::tv::tw::tx::ty::tz::tA::tB::tC::tD::tE::tF::tG::tH::tI::tJ::tK::tL::tM::tN::tO::tP::tQ::tR::tS::tT::tU::tV::tW::tX::tY::tZ::q0::q1::q2::q3::q4::q5::q6::q7::q8::q9::qa::qb::qc::qd::qe::qf::qg::qh::qi::qj::qk::ql::qm::qn::qo::[]),h⟩ =
  bm (vPick tL tO (V.lit (Value.bool false))) h fun v70 h71 =>
  cnd v70 (
  bm (vLoad s.P 23 t3 h71) h71 fun v72 h73 =>
  bm (vLoad s.P 32 t8 h73) h73 fun v74 h75 =>
  bp (callV (xX s 7 wl k rd) false true (.fn (.func 10) [] []) [v72,t1,ta,t2,v74,(V.lit (Value.int .u64 0))] h75) fun v76 h77 =>
  bm (vExtract v76 0) h77 fun v78 h79 =>
  bm (vExtract v76 1) h79 fun v80 h81 =>
  bm (vExtract v76 2) h81 fun v82 h83 =>
  bp (opAlloc s.P 32 h83) fun v84 h85 =>
  bs (vStore s.P wl 32 v84 v80 h85) fun h86 =>
  bp (opLen s.P 35 v82 h86) fun v87 h88 =>
  bm (vBin s.P .neq 3 v87 (V.lit (Value.int .i64 0))) h88 fun v89 h90 =>
  cnd v89 (
  K .ret ⟨(t0::t1::t2::t3::t4::t5::(V.lit (Value.bool false))::t7::t8::t9::ta::tb::v78::v84::v82::tf::tg::th::ti::tj::tk::tl::tm::tn::tp::tq::tr::ts::tt::tu::tv::tw::tx::ty::tz::tA::tB::tC::tD::tE::tF::tG::tH::tI::tJ::tK::tL::tM::tN::tO::v70::v76::v72::t1::ta::t2::v74::v76::v78::v80::v82::v82::v87::v89::q3::q4::q5::q6::q7::q8::q9::qa::qb::qc::qd::qe::qf::qg::qh::qi::qj::qk::ql::qm::qn::qo::[]),h90⟩) (
  bm (vLoad s.P 32 v84 h90) h90 fun v91 h92 =>
  bs (vStore s.P wl 32 t8 v91 h92) fun h93 =>
  bm (vBin s.P .add 3 tb (V.lit (Value.int .i64 1))) h93 fun v94 h95 =>
  itX (xX s 7 wl k rd) xl7_0 n0 K n ⟨((V.kill n0 t0)::(V.kill n0 t1)::(V.kill n0 t2)::(V.kill n0 t3)::(V.kill n0 t4)::(V.kill n0 t5)::(V.kill n0 t6)::(V.kill n0 t7)::(V.kill n0 t8)::(V.kill n0 t9)::(V.kill n0 v78)::(V.kill n0 v94)::(V.kill n0 v78)::(V.kill n0 v84)::(V.kill n0 v82)::(V.kill n0 tf)::(V.kill n0 tg)::(V.kill n0 th)::(V.kill n0 ti)::(V.kill n0 tj)::(V.kill n0 tk)::(V.kill n0 tl)::(V.kill n0 tm)::(V.kill n0 tn)::(V.kill n0 tp)::(V.kill n0 tq)::(V.kill n0 tr)::(V.kill n0 ts)::(V.kill n0 tt)::(V.kill n0 tu)::(V.kill n0 tv)::(V.kill n0 tw)::(V.kill n0 tx)::(V.kill n0 ty)::(V.kill n0 tz)::(V.kill n0 tA)::(V.kill n0 tB)::(V.kill n0 tC)::(V.kill n0 tD)::(V.kill n0 tE)::(V.kill n0 tF)::(V.kill n0 tG)::(V.kill n0 tH)::(V.kill n0 tI)::.junk::.junk::.junk::.junk::.junk::.junk::.junk::.junk::.junk::.junk::.junk::.junk::.junk::.junk::.junk::.junk::.junk::.junk::.junk::.junk::.junk::.junk::.junk::.junk::(V.kill n0 q7)::(V.kill n0 q8)::(V.kill n0 q9)::(V.kill n0 qa)::(V.kill n0 qb)::(V.kill n0 qc)::(V.kill n0 qd)::(V.kill n0 qe)::(V.kill n0 qf)::(V.kill n0 qg)::(V.kill n0 qh)::(V.kill n0 qi)::(V.kill n0 qj)::(V.kill n0 qk)::(V.kill n0 ql)::(V.kill n0 qm)::(V.kill n0 qn)::(V.kill n0 qo)::[]),cutH n0 h95⟩)) (
  K (.exit 0) ⟨((V.kill n0 t0)::(V.kill n0 t1)::(V.kill n0 t2)::(V.kill n0 t3)::(V.kill n0 t4)::(V.kill n0 t5)::(V.kill n0 t6)::(V.kill n0 t7)::(V.kill n0 t8)::(V.kill n0 t9)::(V.kill n0 ta)::(V.kill n0 tb)::(V.kill n0 tc)::(V.kill n0 td)::(V.kill n0 te)::(V.kill n0 tf)::(V.kill n0 tg)::(V.kill n0 th)::(V.kill n0 ti)::(V.kill n0 tj)::(V.kill n0 tk)::(V.kill n0 tl)::(V.kill n0 tm)::(V.kill n0 tn)::(V.kill n0 tp)::(V.kill n0 tq)::(V.kill n0 tr)::(V.kill n0 ts)::(V.kill n0 tt)::(V.kill n0 tu)::(V.kill n0 tv)::(V.kill n0 tw)::(V.kill n0 tx)::(V.kill n0 ty)::(V.kill n0 tz)::(V.kill n0 tA)::(V.kill n0 tB)::(V.kill n0 tC)::(V.kill n0 tD)::(V.kill n0 tE)::(V.kill n0 tF)::(V.kill n0 tG)::(V.kill n0 tH)::(V.kill n0 tI)::.junk::.junk::.junk::.junk::.junk::.junk::.junk::.junk::.junk::.junk::.junk::.junk::.junk::.junk::.junk::.junk::.junk::.junk::.junk::.junk::.junk::.junk::.junk::.junk::(V.kill n0 q7)::(V.kill n0 q8)::(V.kill n0 q9)::(V.kill n0 qa)::(V.kill n0 qb)::(V.kill n0 qc)::(V.kill n0 qd)::(V.kill n0 qe)::(V.kill n0 qf)::(V.kill n0 qg)::(V.kill n0 qh)::(V.kill n0 qi)::(V.kill n0 qj)::(V.kill n0 qk)::(V.kill n0 ql)::(V.kill n0 qm)::(V.kill n0 qn)::(V.kill n0 qo)::[]),cutH n0 h71⟩) :=
  (pM fun v70 h71 =>
  (eN
  (go_cond (by kernel_rfl)
  (go_skip (go_block (go_seq (go_reg0
  (pM fun v72 h73 =>
  (pI t1 h73
  (pI ta h73
  (pI t2 h73
  (pM fun v74 h75 =>
  (pP fun v76 h77 =>
  (pI v76 h77
  (pM fun v78 h79 =>
  (pM fun v80 h81 =>
  (pM fun v82 h83 =>
  (pP fun v84 h85 =>
  (pI v78 h85
  (pS fun h86 =>
  (pI v82 h86
  (eN
  (go_seq (go_seq (go_reg0
  (pI v82 h86
  (pP fun v87 h88 =>
  (pM fun v89 h90 =>
  (eN
  (go_cond (by kernel_rfl)
  (go_seq (go_reg0
  (go_op0 rfl rfl (st_id (v := (V.lit (Value.bool false))) (H := h90) (by kernel_rfl)
  (eN
  (go_ret (rt_seq_ret (rt_block_ret (by kernel_rfl)))))))))
  (go_skip (go_seq (go_reg0
  (pI v78 h90
  (pI v78 h90
  (eN
  (go_seq (go_reg0
  (pM fun v91 h92 =>
  (pS fun h93 =>
  (eN
  (go_reg0
  (pI tb h93
  (pM fun v94 h95 =>
  (pI v94 h95
  (eN
  (rt_block_norm (by kernel_rfl)))))))))))))))))))))))))))))))))))))))))))))
  (go_exit (rt_seq_exit (by kernel_rfl))))))
theorem xm7_4 (h : Hp) : opsP (xX s 7 wl k false) xg7_2 10 m0 ac (runK (xX s 7 wl k false) (bodyK s.P Tryz.f7) xk7_3) ⟨(t0::t1::t2::t3::t4::t5::t6::t7::t8::t9::ta::tb::tc::td::te::tf::tg::th::ti::tj::tk::tl::tm::tn::tp::tq::tr::ts::tt::tu::tv::tw::tx::ty::tz::tA::tB::tC::tD::tE::tF::tG::tH::tI::tJ::tK::tL::tM::tN::tO::tP::tQ::tR::tS::tT::tU::tV::tW::tX::tY::tZ::q0::q1::q2::q3::q4::q5::q6::q7::q8::q9::qa::qb::qc::qd::qe::qf::qg::qh::qi::qj::qk::ql::qm::qn::qo::[]),h⟩ =
  bm (vPick qd qg (V.lit (Value.bool false))) h fun v96 h97 =>
  gd v96 (
  bm (vFieldAddr s.P 32 t8 2) h97 fun v98 h99 =>
  bm (vLoad s.P 30 v98 h99) h99 fun v100 h101 =>
  bm (vBuild s.P 30 [(0,(V.lit (Value.int .i64 5))),(2,t2),(1,(V.lit (Value.int .i64 1)))]) h101 fun v102 h103 =>
  bm (vBin s.P .eql 30 v100 v102) h103 fun v104 h105 =>
  opsP (xX s 7 wl k false) xg7_2 17 m0 ac (runK (xX s 7 wl k false) (bodyK s.P Tryz.f7) xk7_3) ⟨(t0::t1::t2::t3::t4::t5::t6::t7::t8::t9::ta::tb::tc::td::te::tf::tg::th::ti::tj::tk::tl::tm::tn::tp::tq::tr::ts::tt::tu::tv::tw::tx::ty::tz::tA::tB::tC::tD::tE::tF::tG::tH::tI::tJ::tK::tL::tM::tN::tO::tP::tQ::tR::tS::tT::tU::tV::tW::tX::tY::tZ::q0::q1::q2::q3::q4::q5::q6::q7::q8::q9::qa::qb::qc::qd::qe::qf::qg::v96::(V.lit (Value.bool true))::v98::v100::t2::v102::v104::qo::[]),h105⟩) (
  opsP (xX s 7 wl k false) xg7_2 17 m0 ac (runK (xX s 7 wl k false) (bodyK s.P Tryz.f7) xk7_3) ⟨(t0::t1::t2::t3::t4::t5::t6::t7::t8::t9::ta::tb::tc::td::te::tf::tg::th::ti::tj::tk::tl::tm::tn::tp::tq::tr::ts::tt::tu::tv::tw::tx::ty::tz::tA::tB::tC::tD::tE::tF::tG::tH::tI::tJ::tK::tL::tM::tN::tO::tP::tQ::tR::tS::tT::tU::tV::tW::tX::tY::tZ::q0::q1::q2::q3::q4::q5::q6::q7::q8::q9::qa::qb::qc::qd::qe::qf::qg::v96::(V.lit (Value.bool false))::uu::uu::uu::uu::uu::qo::[]),h97⟩) (
  opsP (xX s 7 wl k false) xg7_2 13 m0 ac (runK (xX s 7 wl k false) (bodyK s.P Tryz.f7) xk7_3) ⟨(t0::t1::t2::t3::t4::t5::t6::t7::t8::t9::ta::tb::tc::td::te::tf::tg::th::ti::tj::tk::tl::tm::tn::tp::tq::tr::ts::tt::tu::tv::tw::tx::ty::tz::tA::tB::tC::tD::tE::tF::tG::tH::tI::tJ::tK::tL::tM::tN::tO::tP::tQ::tR::tS::tT::tU::tV::tW::tX::tY::tZ::q0::q1::q2::q3::q4::q5::q6::q7::q8::q9::qa::qb::qc::qd::qe::qf::qg::v96::v96::uu::qk::ql::qm::qn::qo::[]),h97⟩) :=
  (pM fun v96 h97 =>
  (pI v96 h97
  (go_gdT0 rfl rfl rfl (by kernel_rfl)
  (st_bm (by kernel_rfl) fun v98 h99 =>
  (rN (st_bm (by kernel_rfl) fun v100 h101 =>
  (rN (st_id (v := t2) (H := h101) (by kernel_rfl)
  (rN (st_bm (by kernel_rfl) fun v102 h103 =>
  (rN (st_bm (by kernel_rfl) fun v104 h105 =>
  (by kernel_rfl))))))))))
  (sK
  (sK
  (sK
  (sK
  (by kernel_rfl)))))
  (by kernel_rfl))))
theorem xm7_5 (h : Hp) : opsP (xX s 7 wl k false) xg7_2 17 m0 ac (runK (xX s 7 wl k false) (bodyK s.P Tryz.f7) xk7_3) ⟨(t0::t1::t2::t3::t4::t5::t6::t7::t8::t9::ta::tb::tc::td::te::tf::tg::th::ti::tj::tk::tl::tm::tn::tp::tq::tr::ts::tt::tu::tv::tw::tx::ty::tz::tA::tB::tC::tD::tE::tF::tG::tH::tI::tJ::tK::tL::tM::tN::tO::tP::tQ::tR::tS::tT::tU::tV::tW::tX::tY::tZ::q0::q1::q2::q3::q4::q5::q6::q7::q8::q9::qa::qb::qc::qd::qe::qf::qg::qh::qi::qj::qk::ql::qm::qn::qo::[]),h⟩ =
  bm (vPick qi qn (V.lit (Value.bool false))) h fun v106 h107 =>
  some (v106,h107) :=
  (pM fun v106 h107 =>
  (pI v106 h107
  (eN
  (go_ret (by kernel_rfl)))))
theorem xk7_0_ret (cx : Cx) (K : Out → St → Option (V × Hp)) (s : St) : runK cx K xk7_0 .ret s = K .ret s := by kernel_rfl
theorem xk7_1_ret (cx : Cx) (K : Out → St → Option (V × Hp)) (s : St) : runK cx K xk7_1 .ret s = K .ret s := by kernel_rfl
theorem xk7_2_ret (cx : Cx) (K : Out → St → Option (V × Hp)) (s : St) : runK cx K xk7_2 .ret s = K .ret s := by kernel_rfl
theorem xk7_3_ret (cx : Cx) (K : Out → St → Option (V × Hp)) (s : St) : runK cx K xk7_3 .ret s = K .ret s := by kernel_rfl
-- names: xb7,xz7,xm7_0,xm7_1,xr7_0,xj7_2,xm7_3,xm7_4,xm7_5,xk7_0_ret,xk7_1_ret,xk7_2_ret,xk7_3_ret
end Go.Ab
