import Derived.Test.YtblpbpnilkfjhaaGreatR6Seat
import Derived.Test.YtblpbpnilkfjhaaGreatR6FacP
import Derived.Test.YtblpbpnilkfjhaaGreatAbLibC
set_option linter.unusedVariables false
set_option linter.unusedSimpArgs false
set_option maxRecDepth 100000
set_option linter.unusedVariables false
namespace Go.Ab
open Go.Proofs
section
variable (s:Sys) (k wl:Nat) (m0:Nat) (ac:List Nat×List Nat) (f a b d e i x y z A B j D g W X Y o Z t0 t1 t2 T O Q E F G I J L M u N v t3 U t4 R t8 t6 t9 t7 t5 td tb te tc ta tj tf tk tl tm tn tp tq tr ts tt tu tv tw tx ty tz tA tB th tC ti tg tF tG tH tI tJ tK tL tM tN tO tP tQ tR tS tT tU tE tV tD tZ tX q0 tY tW q3 q2 q4 q1 q8 q6 q9 q7 q5 qe qc qf qd qb qa:V) (h:Hp) (K:Out→St→Option (V×Hp)) (rd:Bool) (n n0:Nat) (zz:List V)
noncomputable def iN:Code:=al (am Tryz.f12) [1,1,1,1,0,0]
noncomputable def ir:List Fr:=[.seq (al (am Tryz.f12) [1,1,1,1,0,1]),.seq (al (am Tryz.f12) [1,1,1,1,1])]
noncomputable def Ip:Code:=al (am Tryz.f12) [1,1,1,1,1,1,1,0,0]
noncomputable def Fl:List Fr:=[.seq (al (am Tryz.f12) [1,1,1,1,1,1,1,0,1]),.seq (al (am Tryz.f12) [1,1,1,1,1,1,1,1])]
noncomputable def gc:Code:=al (am Tryz.f12) [1,1,1,1,1,1,1,1,1,1,0]
noncomputable def fM:List Fr:=[.seq (al (am Tryz.f12) [1,1,1,1,1,1,1,1,1,1,1])]
theorem ajH:ak (xX s 12 wl k false) Tryz.f12 [f,a,b,d,e] h =
 bp (aP f h) fun v1 h2=>
 bp (bE (xX s 12 wl k false) false true (.fn (.func 33) [] []) [] h2) fun v3 h4=>
 bp (bE (xX s 12 wl k false) false true (.fn (.func 21) [] []) [a] h4) fun v5 h6=>
 bp (bE (xX s 12 wl k false) false true (.fn (.func 22) [] []) [b] h6) fun v7 h8=>
 bm (vUn .not v3) h8 fun v9 hI=>
 gd v9 (
 cK (xX s 12 wl k false) iN 5 h8.length ([],[]) (au (xX s 12 wl k false) (ap s.P Tryz.f12) ir) ⟨(f::a::b::d::e::v1::uu::uu::uu::uu::(.lit (.bool false))::v3::v5::v7::uu::uu::uu::uu::uu::uu::uu::uu::uu::uu::uu::v3::a::v5::b::v7::v3::v9::(.lit (.bool true))::uu::uu::uu::uu::uu::uu::uu::uu::uu::uu::uu::uu::uu::uu::uu::uu::uu::uu::uu::uu::uu::uu::uu::uu::uu::uu::uu::uu::uu::uu::uu::uu::uu::uu::uu::uu::uu::uu::uu::uu::uu::uu::uu::uu::uu::uu::uu::uu::uu::uu::uu::uu::uu::uu::uu::uu::uu::uu::uu::uu::uu::uu::uu::uu::uu::uu::uu::uu::uu::uu::uu::uu::uu::uu::uu::uu::uu::uu::[]),hI⟩) (
 bm (vUn .not v5) hI fun vy ha=>
 cK (xX s 12 wl k false) iN 5 h8.length ([],[]) (au (xX s 12 wl k false) (ap s.P Tryz.f12) ir) ⟨(f::a::b::d::e::v1::uu::uu::uu::uu::(.lit (.bool false))::v3::v5::v7::uu::uu::uu::uu::uu::uu::uu::uu::uu::uu::uu::v3::a::v5::b::v7::v3::v9::(.lit (.bool false))::v5::vy::uu::uu::uu::uu::uu::uu::uu::uu::uu::uu::uu::uu::uu::uu::uu::uu::uu::uu::uu::uu::uu::uu::uu::uu::uu::uu::uu::uu::uu::uu::uu::uu::uu::uu::uu::uu::uu::uu::uu::uu::uu::uu::uu::uu::uu::uu::uu::uu::uu::uu::uu::uu::uu::uu::uu::uu::uu::uu::uu::uu::uu::uu::uu::uu::uu::uu::uu::uu::uu::uu::uu::uu::uu::uu::uu::uu::[]),ha⟩) (
 cK (xX s 12 wl k false) iN 4 h8.length ([],[]) (au (xX s 12 wl k false) (ap s.P Tryz.f12) ir) ⟨(f::a::b::d::e::v1::uu::uu::uu::uu::(.lit (.bool false))::v3::v5::v7::uu::uu::uu::uu::uu::uu::uu::uu::uu::uu::uu::v3::a::v5::b::v7::v3::v9::v9::uu::uu::uu::uu::uu::uu::uu::uu::uu::uu::uu::uu::uu::uu::uu::uu::uu::uu::uu::uu::uu::uu::uu::uu::uu::uu::uu::uu::uu::uu::uu::uu::uu::uu::uu::uu::uu::uu::uu::uu::uu::uu::uu::uu::uu::uu::uu::uu::uu::uu::uu::uu::uu::uu::uu::uu::uu::uu::uu::uu::uu::uu::uu::uu::uu::uu::uu::uu::uu::uu::uu::uu::uu::uu::uu::uu::uu::uu::[]),hI⟩):=kB
theorem aj0:evF Tryz.prog xM (k+1) wl 12 [f,a,b,d,e] h=ak (xX (xS k) 12 wl k false) Tryz.f12 [f,a,b,d,e] h:=by kernel_rfl
theorem TY:cK (xX s 12 wl k false) iN 5 m0 ac (au (xX s 12 wl k false) (ap s.P Tryz.f12) ir) ⟨(f::a::b::d::e::i::x::y::z::A::B::j::D::g::W::X::Y::o::Z::t0::t1::t2::T::O::Q::E::F::G::I::J::L::M::u::N::v::t3::U::t4::R::zz),h⟩ =
 bm (aR u (.lit (.bool true)) v) h fun vO hJ=>
 gd vO (
 cK (xX s 12 wl k false) iN 9 m0 ac (au (xX s 12 wl k false) (ap s.P Tryz.f12) ir) ⟨(f::a::b::d::e::i::x::y::z::A::B::j::D::g::W::X::Y::o::Z::t0::t1::t2::T::O::Q::E::F::G::I::J::L::M::u::N::v::vO::(.lit (.bool true))::uu::uu::zz),hJ⟩) (
 bm (vUn .not g) hJ fun vz hb=>
 cK (xX s 12 wl k false) iN 9 m0 ac (au (xX s 12 wl k false) (ap s.P Tryz.f12) ir) ⟨(f::a::b::d::e::i::x::y::z::A::B::j::D::g::W::X::Y::o::Z::t0::t1::t2::T::O::Q::E::F::G::I::J::L::M::u::N::v::vO::(.lit (.bool false))::g::vz::zz),hb⟩) (
 cK (xX s 12 wl k false) iN 8 m0 ac (au (xX s 12 wl k false) (ap s.P Tryz.f12) ir) ⟨(f::a::b::d::e::i::x::y::z::A::B::j::D::g::W::X::Y::o::Z::t0::t1::t2::T::O::Q::E::F::G::I::J::L::M::u::N::v::vO::vO::uu::R::zz),hJ⟩):=kG
theorem SE:cK (xX s 12 wl k false) iN 9 m0 ac (au (xX s 12 wl k false) (ap s.P Tryz.f12) ir) ⟨(f::a::b::d::e::i::x::y::z::A::B::j::D::g::W::X::Y::o::Z::t0::t1::t2::T::O::Q::E::F::G::I::J::L::M::u::N::v::t3::U::t4::R::t8::t6::t9::t7::t5::zz),h⟩ =
 bm (aR U (.lit (.bool true)) R) h fun vP hK=>
 gd vP (
 cK (xX s 12 wl k false) iN 14 m0 ac (au (xX s 12 wl k false) (ap s.P Tryz.f12) ir) ⟨(f::a::b::d::e::i::x::y::z::A::B::j::D::g::W::X::Y::o::Z::t0::t1::t2::T::O::Q::E::F::G::I::J::L::M::u::N::v::t3::U::t4::R::vP::(.lit (.bool true))::uu::uu::uu::zz),hK⟩) (
 bp (a7 s.P 67 d hK) fun vo hc=>
 bm (aw s.P .gtr 3 vo (.lit (.int .i64 900))) hc fun v21 hd=>
 cK (xX s 12 wl k false) iN 14 m0 ac (au (xX s 12 wl k false) (ap s.P Tryz.f12) ir) ⟨(f::a::b::d::e::i::x::y::z::A::B::j::D::g::W::X::Y::o::Z::t0::t1::t2::T::O::Q::E::F::G::I::J::L::M::u::N::v::t3::U::t4::R::vP::(.lit (.bool false))::d::vo::v21::zz),hd⟩) (
 cK (xX s 12 wl k false) iN 12 m0 ac (au (xX s 12 wl k false) (ap s.P Tryz.f12) ir) ⟨(f::a::b::d::e::i::x::y::z::A::B::j::D::g::W::X::Y::o::Z::t0::t1::t2::T::O::Q::E::F::G::I::J::L::M::u::N::v::t3::U::t4::R::vP::vP::uu::t7::t5::zz),hK⟩):=kG
theorem Tk:cK (xX s 12 wl k false) iN 14 m0 ac (au (xX s 12 wl k false) (ap s.P Tryz.f12) ir) ⟨(f::a::b::d::e::i::x::y::z::A::B::j::D::g::W::X::Y::o::Z::t0::t1::t2::T::O::Q::E::F::G::I::J::L::M::u::N::v::t3::U::t4::R::t8::t6::t9::t7::t5::td::tb::te::tc::ta::zz),h⟩ =
 bm (aR t6 (.lit (.bool true)) t5) h fun vQ hL=>
 gd vQ (
 cK (xX s 12 wl k false) iN 19 m0 ac (au (xX s 12 wl k false) (ap s.P Tryz.f12) ir) ⟨(f::a::b::d::e::i::x::y::z::A::B::j::D::g::W::X::Y::o::Z::t0::t1::t2::T::O::Q::E::F::G::I::J::L::M::u::N::v::t3::U::t4::R::t8::t6::t9::t7::t5::vQ::(.lit (.bool true))::uu::uu::uu::zz),hL⟩) (
 bp (a7 s.P 31 e hL) fun vp he=>
 bm (aw s.P .gtr 3 vp (.lit (.int .i64 60))) he fun v27 hf=>
 cK (xX s 12 wl k false) iN 19 m0 ac (au (xX s 12 wl k false) (ap s.P Tryz.f12) ir) ⟨(f::a::b::d::e::i::x::y::z::A::B::j::D::g::W::X::Y::o::Z::t0::t1::t2::T::O::Q::E::F::G::I::J::L::M::u::N::v::t3::U::t4::R::t8::t6::t9::t7::t5::vQ::(.lit (.bool false))::e::vp::v27::zz),hf⟩) (
 cK (xX s 12 wl k false) iN 17 m0 ac (au (xX s 12 wl k false) (ap s.P Tryz.f12) ir) ⟨(f::a::b::d::e::i::x::y::z::A::B::j::D::g::W::X::Y::o::Z::t0::t1::t2::T::O::Q::E::F::G::I::J::L::M::u::N::v::t3::U::t4::R::t8::t6::t9::t7::t5::vQ::vQ::uu::tc::ta::zz),hL⟩):=kG
theorem Tz:cK (xX s 12 wl k false) iN 19 m0 ac (au (xX s 12 wl k false) (ap s.P Tryz.f12) ir) ⟨(f::a::b::d::e::i::x::y::z::A::B::j::D::g::W::X::Y::o::Z::t0::t1::t2::T::O::Q::E::F::G::I::J::L::M::u::N::v::t3::U::t4::R::t8::t6::t9::t7::t5::td::tb::te::tc::ta::tj::tf::tk::tl::tm::tn::tp::tq::tr::ts::tt::tu::tv::tw::tx::ty::tz::tA::tB::th::tC::ti::tg::zz),h⟩ =
 bm (aR tb (.lit (.bool true)) ta) h fun vX hM=>
 cnd vX (
 some (j,hM)) (
 bm (ab s.P 23 i hM) hM fun vY hg=>
 bp (bE (xX s 12 wl k false) false true (.fn (.func 34) [] []) [vY,a,b,d] hg) fun vC hh=>
 bm (aq vC 0) hh fun vZ hi=>
 bm (aq vC 1) hi fun vJ hj=>
 bm (aq vC 2) hj fun vA hk=>
 bp (av s.P 30 hk) fun vR hl=>
 bs (aj s.P wl 30 vR vZ hl) fun hP=>
 bm (ab s.P 30 vR hP) hP fun va hm=>
 bp (bE (xX s 12 wl k false) false true (.fn (.func 36) [] []) [va,(.lit (.int .i64 300))] hm) fun vD hn=>
 bm (aq vD 0) hn fun vb ho=>
 bm (aq vD 1) ho fun vK hp=>
 bm (aq vD 2) hp fun vL hq=>
 bp (av s.P 30 hq) fun vS hr=>
 bs (aj s.P wl 30 vS vb hr) fun hE=>
 bm (vUn .not vA) hE fun vT hF=>
 gd vT (
 cK (xX s 12 wl k false) Ip 6 hE.length ([],[]) (au (xX s 12 wl k false) (ap s.P Tryz.f12) Fl) ⟨(f::a::b::d::e::i::x::y::z::A::B::j::D::g::vR::vJ::vA::vS::vK::vL::t1::t2::T::O::Q::E::F::G::I::J::L::M::u::N::v::t3::U::t4::R::t8::t6::t9::t7::t5::td::tb::te::tc::ta::vX::tf::vC::vY::a::b::d::vC::vZ::vJ::vA::vD::va::vD::vb::vK::vL::vA::vT::(.lit (.bool true))::uu::uu::uu::zz),hF⟩) (
 bm (ab s.P 30 vS hF) hF fun vq hs=>
 bp (bE (xX s 12 wl k false) false true (.fn (.func 29) [] []) [vq] hs) fun vr ht=>
 bm (vUn .not vr) ht fun v63 hu=>
 cK (xX s 12 wl k false) Ip 6 hE.length ([],[]) (au (xX s 12 wl k false) (ap s.P Tryz.f12) Fl) ⟨(f::a::b::d::e::i::x::y::z::A::B::j::D::g::vR::vJ::vA::vS::vK::vL::t1::t2::T::O::Q::E::F::G::I::J::L::M::u::N::v::t3::U::t4::R::t8::t6::t9::t7::t5::td::tb::te::tc::ta::vX::tf::vC::vY::a::b::d::vC::vZ::vJ::vA::vD::va::vD::vb::vK::vL::vA::vT::(.lit (.bool false))::vq::vr::v63::zz),hu⟩) (
 cK (xX s 12 wl k false) Ip 4 hE.length ([],[]) (au (xX s 12 wl k false) (ap s.P Tryz.f12) Fl) ⟨(f::a::b::d::e::i::x::y::z::A::B::j::D::g::vR::vJ::vA::vS::vK::vL::t1::t2::T::O::Q::E::F::G::I::J::L::M::u::N::v::t3::U::t4::R::t8::t6::t9::t7::t5::td::tb::te::tc::ta::vX::tf::vC::vY::a::b::d::vC::vZ::vJ::vA::vD::va::vD::vb::vK::vL::vA::vT::vT::uu::ti::tg::zz),hF⟩)):=kG
theorem S3:cK (xX s 12 wl k false) Ip 6 m0 ac (au (xX s 12 wl k false) (ap s.P Tryz.f12) Fl) ⟨(f::a::b::d::e::i::x::y::z::A::B::j::D::g::W::X::Y::o::Z::t0::t1::t2::T::O::Q::E::F::G::I::J::L::M::u::N::v::t3::U::t4::R::t8::t6::t9::t7::t5::td::tb::te::tc::ta::tj::tf::tk::tl::tm::tn::tp::tq::tr::ts::tt::tu::tv::tw::tx::ty::tz::tA::tB::th::tC::ti::tg::tF::tG::tH::tI::tJ::tK::tL::tM::tN::tO::tP::tQ::tR::tS::tT::tU::tE::tV::tD::zz),h⟩ =
 bm (aR th (.lit (.bool true)) tg) h fun vc hN=>
 cnd vc (
 some ((.lit (.bool true)),hN)) (
 bm (ab s.P 30 o hN) hN fun vd hv=>
 bp (bE (xX s 12 wl k false) false true (.fn (.func 17) [] []) [vd,e] hv) fun vF hw=>
 bm (aq vF 0) hw fun ve hx=>
 bm (aq vF 1) hx fun vB hy=>
 bp (av s.P 30 hy) fun vU hz=>
 bs (aj s.P wl 30 vU ve hz) fun hQ=>
 bm (ab s.P 30 o hQ) hQ fun vf h79=>
 bp (bE (xX s 12 wl k false) false true (.fn (.func 36) [] []) [vf,(.lit (.int .i64 300))] h79) fun vE h81=>
 bm (aq vE 0) h81 fun vg h83=>
 bm (aq vE 1) h83 fun vM h85=>
 bm (aq vE 2) h85 fun vN h87=>
 bp (av s.P 30 h87) fun vh h89=>
 bs (aj s.P wl 30 vh vg h89) fun hG=>
 bp (a7 s.P 34 vB hG) fun vi h92=>
 bm (aw s.P .eql 3 vi (.lit (.int .i64 0))) h92 fun vV hH=>
 gd vV (
 bm (ab s.P 30 vU hH) hH fun vs h96=>
 bp (bE (xX s 12 wl k false) false true (.fn (.func 29) [] []) [vs] h96) fun v97 h98=>
 cK (xX s 12 wl k false) gc 6 hG.length ([],[]) (au (xX s 12 wl k false) (ap s.P Tryz.f12) fM) ⟨(f::a::b::d::e::i::x::y::z::A::B::j::D::g::W::X::Y::o::Z::t0::vU::vB::vh::vM::vN::E::F::G::I::J::L::M::u::N::v::t3::U::t4::R::t8::t6::t9::t7::t5::td::tb::te::tc::ta::tj::tf::tk::tl::tm::tn::tp::tq::tr::ts::tt::tu::tv::tw::tx::ty::tz::tA::tB::th::tC::ti::tg::vc::vF::vd::e::vF::ve::vB::vE::vf::vE::vg::vM::vN::vB::vi::vV::(.lit (.bool true))::vs::v97::zz),h98⟩) (
 cK (xX s 12 wl k false) gc 6 hG.length ([],[]) (au (xX s 12 wl k false) (ap s.P Tryz.f12) fM) ⟨(f::a::b::d::e::i::x::y::z::A::B::j::D::g::W::X::Y::o::Z::t0::vU::vB::vh::vM::vN::E::F::G::I::J::L::M::u::N::v::t3::U::t4::R::t8::t6::t9::t7::t5::td::tb::te::tc::ta::tj::tf::tk::tl::tm::tn::tp::tq::tr::ts::tt::tu::tv::tw::tx::ty::tz::tA::tB::th::tC::ti::tg::vc::vF::vd::e::vF::ve::vB::vE::vf::vE::vg::vM::vN::vB::vi::vV::(.lit (.bool false))::uu::uu::zz),hH⟩) (
 cK (xX s 12 wl k false) gc 5 hG.length ([],[]) (au (xX s 12 wl k false) (ap s.P Tryz.f12) fM) ⟨(f::a::b::d::e::i::x::y::z::A::B::j::D::g::W::X::Y::o::Z::t0::vU::vB::vh::vM::vN::E::F::G::I::J::L::M::u::N::v::t3::U::t4::R::t8::t6::t9::t7::t5::td::tb::te::tc::ta::tj::tf::tk::tl::tm::tn::tp::tq::tr::ts::tt::tu::tv::tw::tx::ty::tz::tA::tB::th::tC::ti::tg::vc::vF::vd::e::vF::ve::vB::vE::vf::vE::vg::vM::vN::vB::vi::vV::vV::uu::tD::zz),hH⟩)):=kG
theorem T5:cK (xX s 12 wl k false) gc 6 m0 ac (au (xX s 12 wl k false) (ap s.P Tryz.f12) fM) ⟨(f::a::b::d::e::i::x::y::z::A::B::j::D::g::W::X::Y::o::Z::t0::t1::t2::T::O::Q::E::F::G::I::J::L::M::u::N::v::t3::U::t4::R::t8::t6::t9::t7::t5::td::tb::te::tc::ta::tj::tf::tk::tl::tm::tn::tp::tq::tr::ts::tt::tu::tv::tw::tx::ty::tz::tA::tB::th::tC::ti::tg::tF::tG::tH::tI::tJ::tK::tL::tM::tN::tO::tP::tQ::tR::tS::tT::tU::tE::tV::tD::tZ::tX::q0::tY::tW::zz),h⟩ =
 bm (aR tE tD (.lit (.bool false))) h fun vW hC=>
 gd vW (
 bp (a7 s.P 34 O hC) fun vj hR=>
 bm (aw s.P .eql 3 vj (.lit (.int .i64 0))) hR fun vt hS=>
 cK (xX s 12 wl k false) gc 11 m0 ac (au (xX s 12 wl k false) (ap s.P Tryz.f12) fM) ⟨(f::a::b::d::e::i::x::y::z::A::B::j::D::g::W::X::Y::o::Z::t0::t1::t2::T::O::Q::E::F::G::I::J::L::M::u::N::v::t3::U::t4::R::t8::t6::t9::t7::t5::td::tb::te::tc::ta::tj::tf::tk::tl::tm::tn::tp::tq::tr::ts::tt::tu::tv::tw::tx::ty::tz::tA::tB::th::tC::ti::tg::tF::tG::tH::tI::tJ::tK::tL::tM::tN::tO::tP::tQ::tR::tS::tT::tU::tE::tV::tD::vW::(.lit (.bool true))::O::vj::vt::zz),hS⟩) (
 cK (xX s 12 wl k false) gc 11 m0 ac (au (xX s 12 wl k false) (ap s.P Tryz.f12) fM) ⟨(f::a::b::d::e::i::x::y::z::A::B::j::D::g::W::X::Y::o::Z::t0::t1::t2::T::O::Q::E::F::G::I::J::L::M::u::N::v::t3::U::t4::R::t8::t6::t9::t7::t5::td::tb::te::tc::ta::tj::tf::tk::tl::tm::tn::tp::tq::tr::ts::tt::tu::tv::tw::tx::ty::tz::tA::tB::th::tC::ti::tg::tF::tG::tH::tI::tJ::tK::tL::tM::tN::tO::tP::tQ::tR::tS::tT::tU::tE::tV::tD::vW::(.lit (.bool false))::uu::uu::uu::zz),hC⟩) (
 cK (xX s 12 wl k false) gc 9 m0 ac (au (xX s 12 wl k false) (ap s.P Tryz.f12) fM) ⟨(f::a::b::d::e::i::x::y::z::A::B::j::D::g::W::X::Y::o::Z::t0::t1::t2::T::O::Q::E::F::G::I::J::L::M::u::N::v::t3::U::t4::R::t8::t6::t9::t7::t5::td::tb::te::tc::ta::tj::tf::tk::tl::tm::tn::tp::tq::tr::ts::tt::tu::tv::tw::tx::ty::tz::tA::tB::th::tC::ti::tg::tF::tG::tH::tI::tJ::tK::tL::tM::tN::tO::tP::tQ::tR::tS::tT::tU::tE::tV::tD::vW::vW::uu::tY::tW::zz),hC⟩):=kG
theorem Un:cK (xX s 12 wl k false) gc 11 m0 ac (au (xX s 12 wl k false) (ap s.P Tryz.f12) fM) ⟨(f::a::b::d::e::i::x::y::z::A::B::j::D::g::W::X::Y::o::Z::t0::t1::t2::T::O::Q::E::F::G::I::J::L::M::u::N::v::t3::U::t4::R::t8::t6::t9::t7::t5::td::tb::te::tc::ta::tj::tf::tk::tl::tm::tn::tp::tq::tr::ts::tt::tu::tv::tw::tx::ty::tz::tA::tB::th::tC::ti::tg::tF::tG::tH::tI::tJ::tK::tL::tM::tN::tO::tP::tQ::tR::tS::tT::tU::tE::tV::tD::tZ::tX::q0::tY::tW::q3::q2::q4::q1::zz),h⟩ =
 bm (aR tX tW (.lit (.bool false))) h fun vG hD=>
 gd vG (
 bm (aw s.P .eql 3 Q (.lit (.int .i64 0))) hD fun vu hT=>
 cK (xX s 12 wl k false) gc 15 m0 ac (au (xX s 12 wl k false) (ap s.P Tryz.f12) fM) ⟨(f::a::b::d::e::i::x::y::z::A::B::j::D::g::W::X::Y::o::Z::t0::t1::t2::T::O::Q::E::F::G::I::J::L::M::u::N::v::t3::U::t4::R::t8::t6::t9::t7::t5::td::tb::te::tc::ta::tj::tf::tk::tl::tm::tn::tp::tq::tr::ts::tt::tu::tv::tw::tx::ty::tz::tA::tB::th::tC::ti::tg::tF::tG::tH::tI::tJ::tK::tL::tM::tN::tO::tP::tQ::tR::tS::tT::tU::tE::tV::tD::tZ::tX::q0::tY::tW::vG::(.lit (.bool true))::Q::vu::zz),hT⟩) (
 cK (xX s 12 wl k false) gc 15 m0 ac (au (xX s 12 wl k false) (ap s.P Tryz.f12) fM) ⟨(f::a::b::d::e::i::x::y::z::A::B::j::D::g::W::X::Y::o::Z::t0::t1::t2::T::O::Q::E::F::G::I::J::L::M::u::N::v::t3::U::t4::R::t8::t6::t9::t7::t5::td::tb::te::tc::ta::tj::tf::tk::tl::tm::tn::tp::tq::tr::ts::tt::tu::tv::tw::tx::ty::tz::tA::tB::th::tC::ti::tg::tF::tG::tH::tI::tJ::tK::tL::tM::tN::tO::tP::tQ::tR::tS::tT::tU::tE::tV::tD::tZ::tX::q0::tY::tW::vG::(.lit (.bool false))::uu::uu::zz),hD⟩) (
 cK (xX s 12 wl k false) gc 14 m0 ac (au (xX s 12 wl k false) (ap s.P Tryz.f12) fM) ⟨(f::a::b::d::e::i::x::y::z::A::B::j::D::g::W::X::Y::o::Z::t0::t1::t2::T::O::Q::E::F::G::I::J::L::M::u::N::v::t3::U::t4::R::t8::t6::t9::t7::t5::td::tb::te::tc::ta::tj::tf::tk::tl::tm::tn::tp::tq::tr::ts::tt::tu::tv::tw::tx::ty::tz::tA::tB::th::tC::ti::tg::tF::tG::tH::tI::tJ::tK::tL::tM::tN::tO::tP::tQ::tR::tS::tT::tU::tE::tV::tD::tZ::tX::q0::tY::tW::vG::vG::uu::q1::zz),hD⟩):=kG
theorem ST:cK (xX s 12 wl k false) gc 15 m0 ac (au (xX s 12 wl k false) (ap s.P Tryz.f12) fM) ⟨(f::a::b::d::e::i::x::y::z::A::B::j::D::g::W::X::Y::o::Z::t0::t1::t2::T::O::Q::E::F::G::I::J::L::M::u::N::v::t3::U::t4::R::t8::t6::t9::t7::t5::td::tb::te::tc::ta::tj::tf::tk::tl::tm::tn::tp::tq::tr::ts::tt::tu::tv::tw::tx::ty::tz::tA::tB::th::tC::ti::tg::tF::tG::tH::tI::tJ::tK::tL::tM::tN::tO::tP::tQ::tR::tS::tT::tU::tE::tV::tD::tZ::tX::q0::tY::tW::q3::q2::q4::q1::q8::q6::q9::q7::q5::zz),h⟩ =
 bm (aR q2 q1 (.lit (.bool false))) h fun vH hA=>
 gd vH (
 bm (ab s.P 30 T hA) hA fun vk hO=>
 bm (ab s.P 30 o hO) hO fun vl hU=>
 bp (bE (xX s 12 wl k false) false true (.fn (.func 19) [] []) [vk,vl] hU) fun vv hV=>
 cK (xX s 12 wl k false) gc 20 m0 ac (au (xX s 12 wl k false) (ap s.P Tryz.f12) fM) ⟨(f::a::b::d::e::i::x::y::z::A::B::j::D::g::W::X::Y::o::Z::t0::t1::t2::T::O::Q::E::F::G::I::J::L::M::u::N::v::t3::U::t4::R::t8::t6::t9::t7::t5::td::tb::te::tc::ta::tj::tf::tk::tl::tm::tn::tp::tq::tr::ts::tt::tu::tv::tw::tx::ty::tz::tA::tB::th::tC::ti::tg::tF::tG::tH::tI::tJ::tK::tL::tM::tN::tO::tP::tQ::tR::tS::tT::tU::tE::tV::tD::tZ::tX::q0::tY::tW::q3::q2::q4::q1::vH::(.lit (.bool true))::vk::vl::vv::zz),hV⟩) (
 cK (xX s 12 wl k false) gc 20 m0 ac (au (xX s 12 wl k false) (ap s.P Tryz.f12) fM) ⟨(f::a::b::d::e::i::x::y::z::A::B::j::D::g::W::X::Y::o::Z::t0::t1::t2::T::O::Q::E::F::G::I::J::L::M::u::N::v::t3::U::t4::R::t8::t6::t9::t7::t5::td::tb::te::tc::ta::tj::tf::tk::tl::tm::tn::tp::tq::tr::ts::tt::tu::tv::tw::tx::ty::tz::tA::tB::th::tC::ti::tg::tF::tG::tH::tI::tJ::tK::tL::tM::tN::tO::tP::tQ::tR::tS::tT::tU::tE::tV::tD::tZ::tX::q0::tY::tW::q3::q2::q4::q1::vH::(.lit (.bool false))::uu::uu::uu::zz),hA⟩) (
 cK (xX s 12 wl k false) gc 18 m0 ac (au (xX s 12 wl k false) (ap s.P Tryz.f12) fM) ⟨(f::a::b::d::e::i::x::y::z::A::B::j::D::g::W::X::Y::o::Z::t0::t1::t2::T::O::Q::E::F::G::I::J::L::M::u::N::v::t3::U::t4::R::t8::t6::t9::t7::t5::td::tb::te::tc::ta::tj::tf::tk::tl::tm::tn::tp::tq::tr::ts::tt::tu::tv::tw::tx::ty::tz::tA::tB::th::tC::ti::tg::tF::tG::tH::tI::tJ::tK::tL::tM::tN::tO::tP::tQ::tR::tS::tT::tU::tE::tV::tD::tZ::tX::q0::tY::tW::q3::q2::q4::q1::vH::vH::uu::q7::q5::zz),hA⟩):=kG
theorem Ty:cK (xX s 12 wl k false) gc 20 m0 ac (au (xX s 12 wl k false) (ap s.P Tryz.f12) fM) ⟨(f::a::b::d::e::i::x::y::z::A::B::j::D::g::W::X::Y::o::Z::t0::t1::t2::T::O::Q::E::F::G::I::J::L::M::u::N::v::t3::U::t4::R::t8::t6::t9::t7::t5::td::tb::te::tc::ta::tj::tf::tk::tl::tm::tn::tp::tq::tr::ts::tt::tu::tv::tw::tx::ty::tz::tA::tB::th::tC::ti::tg::tF::tG::tH::tI::tJ::tK::tL::tM::tN::tO::tP::tQ::tR::tS::tT::tU::tE::tV::tD::tZ::tX::q0::tY::tW::q3::q2::q4::q1::q8::q6::q9::q7::q5::qe::qc::qf::qd::qb::qa::[]),h⟩ =
 bm (aR q6 q5 (.lit (.bool false))) h fun vI hB=>
 gd vI (
 bm (ab s.P 30 o hB) hB fun vm hW=>
 bp (bE (xX s 12 wl k false) false true (.fn (.func 39) [] []) [vm] hW) fun vn hX=>
 bm (aw s.P .eql 3 vn (.lit (.int .i64 0))) hX fun vw hY=>
 cK (xX s 12 wl k false) gc 25 m0 ac (au (xX s 12 wl k false) (ap s.P Tryz.f12) fM) ⟨(f::a::b::d::e::i::x::y::z::A::B::j::D::g::W::X::Y::o::Z::t0::t1::t2::T::O::Q::E::F::G::I::J::L::M::u::N::v::t3::U::t4::R::t8::t6::t9::t7::t5::td::tb::te::tc::ta::tj::tf::tk::tl::tm::tn::tp::tq::tr::ts::tt::tu::tv::tw::tx::ty::tz::tA::tB::th::tC::ti::tg::tF::tG::tH::tI::tJ::tK::tL::tM::tN::tO::tP::tQ::tR::tS::tT::tU::tE::tV::tD::tZ::tX::q0::tY::tW::q3::q2::q4::q1::q8::q6::q9::q7::q5::vI::(.lit (.bool true))::vm::vn::vw::qa::[]),hY⟩) (
 cK (xX s 12 wl k false) gc 25 m0 ac (au (xX s 12 wl k false) (ap s.P Tryz.f12) fM) ⟨(f::a::b::d::e::i::x::y::z::A::B::j::D::g::W::X::Y::o::Z::t0::t1::t2::T::O::Q::E::F::G::I::J::L::M::u::N::v::t3::U::t4::R::t8::t6::t9::t7::t5::td::tb::te::tc::ta::tj::tf::tk::tl::tm::tn::tp::tq::tr::ts::tt::tu::tv::tw::tx::ty::tz::tA::tB::th::tC::ti::tg::tF::tG::tH::tI::tJ::tK::tL::tM::tN::tO::tP::tQ::tR::tS::tT::tU::tE::tV::tD::tZ::tX::q0::tY::tW::q3::q2::q4::q1::q8::q6::q9::q7::q5::vI::(.lit (.bool false))::uu::uu::uu::qa::[]),hB⟩) (
 cK (xX s 12 wl k false) gc 23 m0 ac (au (xX s 12 wl k false) (ap s.P Tryz.f12) fM) ⟨(f::a::b::d::e::i::x::y::z::A::B::j::D::g::W::X::Y::o::Z::t0::t1::t2::T::O::Q::E::F::G::I::J::L::M::u::N::v::t3::U::t4::R::t8::t6::t9::t7::t5::td::tb::te::tc::ta::tj::tf::tk::tl::tm::tn::tp::tq::tr::ts::tt::tu::tv::tw::tx::ty::tz::tA::tB::th::tC::ti::tg::tF::tG::tH::tI::tJ::tK::tL::tM::tN::tO::tP::tQ::tR::tS::tT::tU::tE::tV::tD::tZ::tX::q0::tY::tW::q3::q2::q4::q1::q8::q6::q9::q7::q5::vI::vI::uu::qd::qb::qa::[]),hB⟩):=kG
theorem T8:cK (xX s 12 wl k false) gc 25 m0 ac (au (xX s 12 wl k false) (ap s.P Tryz.f12) fM) ⟨(f::a::b::d::e::i::x::y::z::A::B::j::D::g::W::X::Y::o::Z::t0::t1::t2::T::O::Q::E::F::G::I::J::L::M::u::N::v::t3::U::t4::R::t8::t6::t9::t7::t5::td::tb::te::tc::ta::tj::tf::tk::tl::tm::tn::tp::tq::tr::ts::tt::tu::tv::tw::tx::ty::tz::tA::tB::th::tC::ti::tg::tF::tG::tH::tI::tJ::tK::tL::tM::tN::tO::tP::tQ::tR::tS::tT::tU::tE::tV::tD::tZ::tX::q0::tY::tW::q3::q2::q4::q1::q8::q6::q9::q7::q5::qe::qc::qf::qd::qb::qa::[]),h⟩ =
 bm (aR qc qb (.lit (.bool false))) h fun vx hZ=>
 some (vx,hZ):=kG
theorem Bg (cx:Cx) (s:St):au cx K ir .ret s=K .ret s:=by kernel_rfl
theorem BC (cx:Cx) (s:St):au cx K Fl .ret s=K .ret s:=by kernel_rfl
theorem Be (cx:Cx) (s:St):au cx K fM .ret s=K .ret s:=by kernel_rfl
-- names: xFP,ajH,TY,SE,Tk,Tz,S3,T5,Un,ST,Ty,T8,Bg,BC,Be
end
end Go.Ab
