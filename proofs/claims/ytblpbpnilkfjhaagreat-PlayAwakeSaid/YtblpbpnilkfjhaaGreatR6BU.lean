import Derived.Test.YtblpbpnilkfjhaaGreatR6Seat
import Derived.Test.YtblpbpnilkfjhaaGreatAbLibC
import Derived.Test.YtblpbpnilkfjhaaGreatR6FacP
set_option linter.unusedVariables false
set_option linter.unusedSimpArgs false
set_option maxRecDepth 100000
set_option linter.unusedVariables false
namespace Go.Ab
open Go.Proofs
section
variable (s:Sys) (k wl:Nat) (m0:Nat) (ac:List Nat×List Nat) (c e j f o g u v y A z J D E F G B L M N I Q O U T R X W Z Y t0 t3 t4 t2 t5 t1 t6 t7 t8 t9 td tb te tc ta tj tg th tf tm tk tl ti tq tp tr tn tt ts tv tu tz tx ty tw tA tC tD tB tF tE tI tG tH tK tJ tP tM tN tO tL tT tS tU tR tQ:V) (h:Hp) (K:Out→St→Option (V×Hp)) (rd:Bool) (n n0:Nat) (zz:List V)
noncomputable def ui:Code:=al (an Tryz.f22) [1,0,1,0,0]
noncomputable def HT:List Fr:=[.block 0,.seq (al (an Tryz.f22) [1,1])]
noncomputable def JA:Code:=al (an Tryz.f22) [1,0,1,0,0,0,0]
noncomputable def Ev:List Fr:=[.seq (al (an Tryz.f22) [1,0,1,0,0,0,1]),.seq (al (an Tryz.f22) [1,0,1,0,0,1])]
theorem agi:ak (xX s 22 wl k false) Tryz.f22 [c] h =
 yI s k wl 22 Tryz.f22 ui h.length HT k ⟨[(V.kill h.length c),(V.kill h.length uu),(.lit (.bool false)),(.lit (.int .i64 0)),.junk,.junk,.junk,.junk,.junk,.junk,.junk,.junk,.junk,.junk,.junk,.junk,.junk,.junk,.junk,.junk,(V.kill h.length uu),(V.kill h.length uu),(V.kill h.length uu)],bR h.length h⟩:=kB
theorem ahS:evF Tryz.prog xM (k+1) wl 22 [c] h=ak (xX (xS k) 22 wl k false) Tryz.f22 [c] h:=by kernel_rfl
theorem aen (P:Program):av P Tryz.f22 .ret ⟨[c,e,j,f,o,g,u,v,y,A,z,J,D,E,F,G,B,L,M,N,I,Q,O],h⟩=some (j,h):=by kernel_rfl
theorem SI:itX (xX s 22 wl k rd) ui n0 K (n+1) ⟨(c::e::j::f::o::g::u::v::y::A::z::zz),h⟩ =
 bp (bh s.P 40 c h) fun v1 h2=>
 bm (aA s.P .lss 3 f v1) h2 fun v3 h4=>
 gd v3 (
 bm (aA s.P .leq 3 f (.lit (.int .i64 10))) h4 fun v5 h6=>
 dK (xX s 22 wl k rd) JA 7 h.length ([],[]) (aw (xX s 22 wl k rd) (eg (xX s 22 wl k rd) ui n0 K n) Ev) ⟨(c::e::j::f::f::c::v1::v3::(.lit (.bool true))::f::v5::zz),h6⟩) (
 dK (xX s 22 wl k rd) JA 7 h.length ([],[]) (aw (xX s 22 wl k rd) (eg (xX s 22 wl k rd) ui n0 K n) Ev) ⟨(c::e::j::f::f::c::v1::v3::(.lit (.bool false))::uu::uu::zz),h4⟩) (
 dK (xX s 22 wl k rd) JA 6 h.length ([],[]) (aw (xX s 22 wl k rd) (eg (xX s 22 wl k rd) ui n0 K n) Ev) ⟨(c::e::j::f::f::c::v1::v3::v3::uu::z::zz),h4⟩):=kI
theorem NL:aw (xX s 22 wl k false) (av s.P Tryz.f22) HT (.exit 0) ⟨[c,e,j,f,o,g,u,v,y,A,z,J,D,E,F,G,B,L,M,N,I,Q,O],h⟩ =
 bp (bh s.P 40 c h) fun v7 h8=>
 bm (aA s.P .leq 3 v7 (.lit (.int .i64 10))) h8 fun v9 hD=>
 some (v9,hD):=kR
theorem M0:dK (xX s 22 wl k rd) JA 7 m0 ac (aw (xX s 22 wl k rd) (eg (xX s 22 wl k rd) ui n0 K n) Ev) ⟨[c,e,j,f,o,g,u,v,y,A,z,J,D,E,F,G,B,L,M,N,I,Q,O],h⟩ =
 bm (aS y z (.lit (.bool false))) h fun vA hB=>
 cnd vA (
 bm (am s.P 40 c f hB) hB fun vC hC=>
 bm (ab s.P 53 vC hC) hC fun vB hA=>
 bp (bh s.P 53 vB hA) fun vD hF=>
 bm (aA s.P .gtr 3 vD (.lit (.int .i64 60))) hF fun vF hH=>
 cnd vF (
 K .ret ⟨[c,e,(.lit (.bool false)),f,o,g,u,v,y,A,z,vA,D,E,c,f,vC,vB,vD,vF,I,Q,O],hH⟩) (
 bm (aA s.P .add 3 f (.lit (.int .i64 1))) hH fun vJ hI=>
 itX (xX s 22 wl k rd) ui n0 K n ⟨[(V.kill n0 c),(V.kill n0 e),(V.kill n0 j),(V.kill n0 vJ),.junk,.junk,.junk,.junk,.junk,.junk,.junk,.junk,.junk,.junk,.junk,.junk,.junk,.junk,.junk,.junk,(V.kill n0 I),(V.kill n0 Q),(V.kill n0 O)],bR n0 hI⟩)) (
 K (.exit 0) ⟨[(V.kill n0 c),(V.kill n0 e),(V.kill n0 j),(V.kill n0 f),.junk,.junk,.junk,.junk,.junk,.junk,.junk,.junk,.junk,.junk,.junk,.junk,.junk,.junk,.junk,.junk,(V.kill n0 I),(V.kill n0 Q),(V.kill n0 O)],bR n0 hB⟩):=kG
theorem rA (cx:Cx) (s:St):aw cx K HT .ret s=K .ret s:=by kernel_rfl
theorem rQ (cx:Cx) (s:St):aw cx K Ev .ret s=K .ret s:=by kernel_rfl
-- names: agi,aen,SI,NL,M0,rA,rQ
noncomputable def bI:Code:=al (an Tryz.f33) [1,1,1,1,1,0]
noncomputable def bF:List Fr:=[.seq (al (an Tryz.f33) [1,1,1,1,1,1])]
theorem ahx:ak (xX s 33 wl k false) Tryz.f33 [] h =
 bm (be s.P 101 [(0,(.lit (.int .i64 1)))]) h fun v1 h2=>
 bp (aF s.P wl 24 1 [(0,v1)] h2) fun v3 h4=>
 bm (be s.P 23 [(0,(.lit (.int .i64 1))),(1,(.lit (.int .i64 1))),(2,(.lit (.int .i64 1)))]) h4 fun v5 h6=>
 bp (aF s.P wl 53 1 [(0,(.lit (.int .i64 0)))] h6) fun v7 h8=>
 bp (aF s.P wl 40 1 [(0,v7)] h8) fun v9 hD=>
 bp (yC s k wl 33 false true (.fn (.func 34) [] []) [v5,v3,v9,.nil] hD) fun vA hB=>
 bm (ar vA 0) hB fun vC hC=>
 bm (ar vA 1) hC fun vB hA=>
 bm (ar vA 2) hA fun vD hF=>
 bp (az s.P 30 hF) fun vF hH=>
 bs (ai s.P wl 30 vF vC hH) fun hT=>
 bm (ab s.P 30 vF hT) hT fun vW hf=>
 bp (yC s k wl 33 false true (.fn (.func 36) [] []) [vW,(.lit (.int .i64 500))] hf) fun vR hg=>
 bm (ar vR 0) hg fun vY ha=>
 bm (ar vR 1) ha fun vP hU=>
 bm (ar vR 2) hU fun vS hV=>
 bp (az s.P 30 hV) fun vT hW=>
 bs (ai s.P wl 30 vT vY hW) fun hL=>
 bp (yC s k wl 33 false true (.fn (.func 37) [] []) [v3,vP] hL) fun vE hM=>
 bm (ar vE 0) hM fun vK hX=>
 bm (ar vE 1) hX fun vH hO=>
 bm (ar vE 2) hO fun vQ hP=>
 gd vD (
 bp (bh s.P 34 vB hP) fun vq hu=>
 bm (aA s.P .eql 3 vq (.lit (.int .i64 0))) hu fun v45 h46=>
 yO s k wl 33 Tryz.f33 bI 5 hP.length ([],[]) bF ⟨((.lit (.bool false))::v3::vF::vB::vD::vT::vP::vS::vK::vH::vQ::v1::v3::vA::v5::v3::v7::v9::vA::vC::vB::vD::vR::vW::vR::vY::vP::vS::vE::v3::vP::vE::vK::vH::vQ::vD::(.lit (.bool true))::vB::vq::v45::uu::uu::uu::uu::uu::uu::uu::uu::uu::uu::uu::uu::uu::uu::uu::uu::uu::uu::uu::uu::uu::uu::uu::uu::uu::uu::uu::uu::uu::uu::uu::uu::uu::uu::uu::uu::uu::uu::uu::uu::uu::uu::uu::uu::uu::uu::[]),h46⟩) (
 yO s k wl 33 Tryz.f33 bI 5 hP.length ([],[]) bF ⟨((.lit (.bool false))::v3::vF::vB::vD::vT::vP::vS::vK::vH::vQ::v1::v3::vA::v5::v3::v7::v9::vA::vC::vB::vD::vR::vW::vR::vY::vP::vS::vE::v3::vP::vE::vK::vH::vQ::vD::(.lit (.bool false))::uu::uu::uu::uu::uu::uu::uu::uu::uu::uu::uu::uu::uu::uu::uu::uu::uu::uu::uu::uu::uu::uu::uu::uu::uu::uu::uu::uu::uu::uu::uu::uu::uu::uu::uu::uu::uu::uu::uu::uu::uu::uu::uu::uu::uu::uu::uu::uu::uu::[]),hP⟩) (
 yO s k wl 33 Tryz.f33 bI 3 hP.length ([],[]) bF ⟨((.lit (.bool false))::v3::vF::vB::vD::vT::vP::vS::vK::vH::vQ::v1::v3::vA::v5::v3::v7::v9::vA::vC::vB::vD::vR::vW::vR::vY::vP::vS::vE::v3::vP::vE::vK::vH::vQ::vD::vD::uu::uu::uu::uu::uu::uu::uu::uu::uu::uu::uu::uu::uu::uu::uu::uu::uu::uu::uu::uu::uu::uu::uu::uu::uu::uu::uu::uu::uu::uu::uu::uu::uu::uu::uu::uu::uu::uu::uu::uu::uu::uu::uu::uu::uu::uu::uu::uu::uu::[]),hP⟩):=kB
theorem aie:evF Tryz.prog xM (k+1) wl 33 [] h=ak (xX (xS k) 33 wl k false) Tryz.f33 [] h:=by kernel_rfl
theorem TS:yO s k wl 33 Tryz.f33 bI 5 m0 ac bF ⟨(c::e::j::f::o::g::u::v::y::A::z::J::D::E::F::G::B::L::M::N::I::Q::O::U::T::R::X::W::Z::Y::t0::t3::t4::t2::t5::t1::t6::t7::t8::t9::td::tb::te::tc::ta::zz),h⟩ =
 bm (aS t6 t9 (.lit (.bool false))) h fun vf ho=>
 gd vf (
 bm (ab s.P 30 j ho) ho fun vw h50=>
 bp (yC s k wl 33 false true (.fn (.func 39) [] []) [vw] h50) fun vx hp=>
 bm (aA s.P .eql 3 vx (.lit (.int .i64 1))) hp fun vg hi=>
 yO s k wl 33 Tryz.f33 bI 10 m0 ac bF ⟨(c::e::j::f::o::g::u::v::y::A::z::J::D::E::F::G::B::L::M::N::I::Q::O::U::T::R::X::W::Z::Y::t0::t3::t4::t2::t5::t1::t6::t7::t8::t9::vf::(.lit (.bool true))::vw::vx::vg::zz),hi⟩) (
 yO s k wl 33 Tryz.f33 bI 10 m0 ac bF ⟨(c::e::j::f::o::g::u::v::y::A::z::J::D::E::F::G::B::L::M::N::I::Q::O::U::T::R::X::W::Z::Y::t0::t3::t4::t2::t5::t1::t6::t7::t8::t9::vf::(.lit (.bool false))::uu::uu::uu::zz),ho⟩) (
 yO s k wl 33 Tryz.f33 bI 8 m0 ac bF ⟨(c::e::j::f::o::g::u::v::y::A::z::J::D::E::F::G::B::L::M::N::I::Q::O::U::T::R::X::W::Z::Y::t0::t3::t4::t2::t5::t1::t6::t7::t8::t9::vf::vf::uu::tc::ta::zz),ho⟩):=kG
theorem Tu:yO s k wl 33 Tryz.f33 bI 10 m0 ac bF ⟨(c::e::j::f::o::g::u::v::y::A::z::J::D::E::F::G::B::L::M::N::I::Q::O::U::T::R::X::W::Z::Y::t0::t3::t4::t2::t5::t1::t6::t7::t8::t9::td::tb::te::tc::ta::tj::tg::th::tf::zz),h⟩ =
 bm (aS tb ta (.lit (.bool false))) h fun vU hR=>
 gd vU (
 bm (ab s.P 30 g hR) hR fun vh hv=>
 bp (yC s k wl 33 false true (.fn (.func 29) [] []) [vh] hv) fun vb hw=>
 yO s k wl 33 Tryz.f33 bI 14 m0 ac bF ⟨(c::e::j::f::o::g::u::v::y::A::z::J::D::E::F::G::B::L::M::N::I::Q::O::U::T::R::X::W::Z::Y::t0::t3::t4::t2::t5::t1::t6::t7::t8::t9::td::tb::te::tc::ta::vU::(.lit (.bool true))::vh::vb::zz),hw⟩) (
 yO s k wl 33 Tryz.f33 bI 14 m0 ac bF ⟨(c::e::j::f::o::g::u::v::y::A::z::J::D::E::F::G::B::L::M::N::I::Q::O::U::T::R::X::W::Z::Y::t0::t3::t4::t2::t5::t1::t6::t7::t8::t9::td::tb::te::tc::ta::vU::(.lit (.bool false))::uu::uu::zz),hR⟩) (
 yO s k wl 33 Tryz.f33 bI 13 m0 ac bF ⟨(c::e::j::f::o::g::u::v::y::A::z::J::D::E::F::G::B::L::M::N::I::Q::O::U::T::R::X::W::Z::Y::t0::t3::t4::t2::t5::t1::t6::t7::t8::t9::td::tb::te::tc::ta::vU::vU::uu::tf::zz),hR⟩):=kG
theorem T2:yO s k wl 33 Tryz.f33 bI 14 m0 ac bF ⟨(c::e::j::f::o::g::u::v::y::A::z::J::D::E::F::G::B::L::M::N::I::Q::O::U::T::R::X::W::Z::Y::t0::t3::t4::t2::t5::t1::t6::t7::t8::t9::td::tb::te::tc::ta::tj::tg::th::tf::tm::tk::tl::ti::zz),h⟩ =
 bm (aS tg tf (.lit (.bool false))) h fun vZ hj=>
 gd vZ (
 bm (aA s.P .gtr 3 v (.lit (.int .i64 10))) hj fun vc hx=>
 yO s k wl 33 Tryz.f33 bI 18 m0 ac bF ⟨(c::e::j::f::o::g::u::v::y::A::z::J::D::E::F::G::B::L::M::N::I::Q::O::U::T::R::X::W::Z::Y::t0::t3::t4::t2::t5::t1::t6::t7::t8::t9::td::tb::te::tc::ta::tj::tg::th::tf::vZ::(.lit (.bool true))::v::vc::zz),hx⟩) (
 yO s k wl 33 Tryz.f33 bI 18 m0 ac bF ⟨(c::e::j::f::o::g::u::v::y::A::z::J::D::E::F::G::B::L::M::N::I::Q::O::U::T::R::X::W::Z::Y::t0::t3::t4::t2::t5::t1::t6::t7::t8::t9::td::tb::te::tc::ta::tj::tg::th::tf::vZ::(.lit (.bool false))::uu::uu::zz),hj⟩) (
 yO s k wl 33 Tryz.f33 bI 17 m0 ac bF ⟨(c::e::j::f::o::g::u::v::y::A::z::J::D::E::F::G::B::L::M::N::I::Q::O::U::T::R::X::W::Z::Y::t0::t3::t4::t2::t5::t1::t6::t7::t8::t9::td::tb::te::tc::ta::tj::tg::th::tf::vZ::vZ::uu::ti::zz),hj⟩):=kG
theorem SE:yO s k wl 33 Tryz.f33 bI 18 m0 ac bF ⟨(c::e::j::f::o::g::u::v::y::A::z::J::D::E::F::G::B::L::M::N::I::Q::O::U::T::R::X::W::Z::Y::t0::t3::t4::t2::t5::t1::t6::t7::t8::t9::td::tb::te::tc::ta::tj::tg::th::tf::tm::tk::tl::ti::tq::tp::tr::tn::zz),h⟩ =
 bm (aS tk ti (.lit (.bool false))) h fun vV hk=>
 gd vV (
 bm (aA s.P .lss 3 v (.lit (.int .i64 500))) hk fun v67 h68=>
 yO s k wl 33 Tryz.f33 bI 22 m0 ac bF ⟨(c::e::j::f::o::g::u::v::y::A::z::J::D::E::F::G::B::L::M::N::I::Q::O::U::T::R::X::W::Z::Y::t0::t3::t4::t2::t5::t1::t6::t7::t8::t9::td::tb::te::tc::ta::tj::tg::th::tf::tm::tk::tl::ti::vV::(.lit (.bool true))::v::v67::zz),h68⟩) (
 yO s k wl 33 Tryz.f33 bI 22 m0 ac bF ⟨(c::e::j::f::o::g::u::v::y::A::z::J::D::E::F::G::B::L::M::N::I::Q::O::U::T::R::X::W::Z::Y::t0::t3::t4::t2::t5::t1::t6::t7::t8::t9::td::tb::te::tc::ta::tj::tg::th::tf::tm::tk::tl::ti::vV::(.lit (.bool false))::uu::uu::zz),hk⟩) (
 yO s k wl 33 Tryz.f33 bI 21 m0 ac bF ⟨(c::e::j::f::o::g::u::v::y::A::z::J::D::E::F::G::B::L::M::N::I::Q::O::U::T::R::X::W::Z::Y::t0::t3::t4::t2::t5::t1::t6::t7::t8::t9::td::tb::te::tc::ta::tj::tg::th::tf::tm::tk::tl::ti::vV::vV::uu::tn::zz),hk⟩):=kG
theorem TE:yO s k wl 33 Tryz.f33 bI 22 m0 ac bF ⟨(c::e::j::f::o::g::u::v::y::A::z::J::D::E::F::G::B::L::M::N::I::Q::O::U::T::R::X::W::Z::Y::t0::t3::t4::t2::t5::t1::t6::t7::t8::t9::td::tb::te::tc::ta::tj::tg::th::tf::tm::tk::tl::ti::tq::tp::tr::tn::tt::ts::tv::tu::zz),h⟩ =
 bm (aS tp tn (.lit (.bool false))) h fun vi hy=>
 gd vi (
 bm (aA s.P .eql 3 y (.lit (.int .i64 1))) hy fun v71 h72=>
 yO s k wl 33 Tryz.f33 bI 26 m0 ac bF ⟨(c::e::j::f::o::g::u::v::y::A::z::J::D::E::F::G::B::L::M::N::I::Q::O::U::T::R::X::W::Z::Y::t0::t3::t4::t2::t5::t1::t6::t7::t8::t9::td::tb::te::tc::ta::tj::tg::th::tf::tm::tk::tl::ti::tq::tp::tr::tn::vi::(.lit (.bool true))::y::v71::zz),h72⟩) (
 yO s k wl 33 Tryz.f33 bI 26 m0 ac bF ⟨(c::e::j::f::o::g::u::v::y::A::z::J::D::E::F::G::B::L::M::N::I::Q::O::U::T::R::X::W::Z::Y::t0::t3::t4::t2::t5::t1::t6::t7::t8::t9::td::tb::te::tc::ta::tj::tg::th::tf::tm::tk::tl::ti::tq::tp::tr::tn::vi::(.lit (.bool false))::uu::uu::zz),hy⟩) (
 yO s k wl 33 Tryz.f33 bI 25 m0 ac bF ⟨(c::e::j::f::o::g::u::v::y::A::z::J::D::E::F::G::B::L::M::N::I::Q::O::U::T::R::X::W::Z::Y::t0::t3::t4::t2::t5::t1::t6::t7::t8::t9::td::tb::te::tc::ta::tj::tg::th::tf::tm::tk::tl::ti::tq::tp::tr::tn::vi::vi::uu::tu::zz),hy⟩):=kG
theorem TK:yO s k wl 33 Tryz.f33 bI 26 m0 ac bF ⟨(c::e::j::f::o::g::u::v::y::A::z::J::D::E::F::G::B::L::M::N::I::Q::O::U::T::R::X::W::Z::Y::t0::t3::t4::t2::t5::t1::t6::t7::t8::t9::td::tb::te::tc::ta::tj::tg::th::tf::tm::tk::tl::ti::tq::tp::tr::tn::tt::ts::tv::tu::tz::tx::ty::tw::zz),h⟩ =
 bm (aS ts tu (.lit (.bool false))) h fun vj h74=>
 gd vj (
 bm (aA s.P .eql 3 A (.lit (.int .i64 0))) h74 fun v75 h76=>
 yO s k wl 33 Tryz.f33 bI 30 m0 ac bF ⟨(c::e::j::f::o::g::u::v::y::A::z::J::D::E::F::G::B::L::M::N::I::Q::O::U::T::R::X::W::Z::Y::t0::t3::t4::t2::t5::t1::t6::t7::t8::t9::td::tb::te::tc::ta::tj::tg::th::tf::tm::tk::tl::ti::tq::tp::tr::tn::tt::ts::tv::tu::vj::(.lit (.bool true))::A::v75::zz),h76⟩) (
 yO s k wl 33 Tryz.f33 bI 30 m0 ac bF ⟨(c::e::j::f::o::g::u::v::y::A::z::J::D::E::F::G::B::L::M::N::I::Q::O::U::T::R::X::W::Z::Y::t0::t3::t4::t2::t5::t1::t6::t7::t8::t9::td::tb::te::tc::ta::tj::tg::th::tf::tm::tk::tl::ti::tq::tp::tr::tn::tt::ts::tv::tu::vj::(.lit (.bool false))::uu::uu::zz),h74⟩) (
 yO s k wl 33 Tryz.f33 bI 29 m0 ac bF ⟨(c::e::j::f::o::g::u::v::y::A::z::J::D::E::F::G::B::L::M::N::I::Q::O::U::T::R::X::W::Z::Y::t0::t3::t4::t2::t5::t1::t6::t7::t8::t9::td::tb::te::tc::ta::tj::tg::th::tf::tm::tk::tl::ti::tq::tp::tr::tn::tt::ts::tv::tu::vj::vj::uu::tw::zz),h74⟩):=kG
theorem S8:yO s k wl 33 Tryz.f33 bI 30 m0 ac bF ⟨(c::e::j::f::o::g::u::v::y::A::z::J::D::E::F::G::B::L::M::N::I::Q::O::U::T::R::X::W::Z::Y::t0::t3::t4::t2::t5::t1::t6::t7::t8::t9::td::tb::te::tc::ta::tj::tg::th::tf::tm::tk::tl::ti::tq::tp::tr::tn::tt::ts::tv::tu::tz::tx::ty::tw::tA::tC::tD::tB::zz),h⟩ =
 bm (aS tx tw (.lit (.bool false))) h fun vk hl=>
 gd vk (
 bm (aA s.P .eql 3 z (.lit (.int .i64 1))) hl fun v79 h80=>
 yO s k wl 33 Tryz.f33 bI 34 m0 ac bF ⟨(c::e::j::f::o::g::u::v::y::A::z::J::D::E::F::G::B::L::M::N::I::Q::O::U::T::R::X::W::Z::Y::t0::t3::t4::t2::t5::t1::t6::t7::t8::t9::td::tb::te::tc::ta::tj::tg::th::tf::tm::tk::tl::ti::tq::tp::tr::tn::tt::ts::tv::tu::tz::tx::ty::tw::vk::(.lit (.bool true))::z::v79::zz),h80⟩) (
 yO s k wl 33 Tryz.f33 bI 34 m0 ac bF ⟨(c::e::j::f::o::g::u::v::y::A::z::J::D::E::F::G::B::L::M::N::I::Q::O::U::T::R::X::W::Z::Y::t0::t3::t4::t2::t5::t1::t6::t7::t8::t9::td::tb::te::tc::ta::tj::tg::th::tf::tm::tk::tl::ti::tq::tp::tr::tn::tt::ts::tv::tu::tz::tx::ty::tw::vk::(.lit (.bool false))::uu::uu::zz),hl⟩) (
 yO s k wl 33 Tryz.f33 bI 33 m0 ac bF ⟨(c::e::j::f::o::g::u::v::y::A::z::J::D::E::F::G::B::L::M::N::I::Q::O::U::T::R::X::W::Z::Y::t0::t3::t4::t2::t5::t1::t6::t7::t8::t9::td::tb::te::tc::ta::tj::tg::th::tf::tm::tk::tl::ti::tq::tp::tr::tn::tt::ts::tv::tu::tz::tx::ty::tw::vk::vk::uu::tB::zz),hl⟩):=kG
theorem T0:yO s k wl 33 Tryz.f33 bI 34 m0 ac bF ⟨(c::e::j::f::o::g::u::v::y::A::z::J::D::E::F::G::B::L::M::N::I::Q::O::U::T::R::X::W::Z::Y::t0::t3::t4::t2::t5::t1::t6::t7::t8::t9::td::tb::te::tc::ta::tj::tg::th::tf::tm::tk::tl::ti::tq::tp::tr::tn::tt::ts::tv::tu::tz::tx::ty::tw::tA::tC::tD::tB::tF::tE::tI::tG::tH::zz),h⟩ =
 bm (aS tC tB (.lit (.bool false))) h fun vl h82=>
 gd vl (
 bp (bh s.P 34 u h82) fun vy h84=>
 bm (aA s.P .eql 3 vy (.lit (.int .i64 4))) h84 fun v85 h86=>
 yO s k wl 33 Tryz.f33 bI 39 m0 ac bF ⟨(c::e::j::f::o::g::u::v::y::A::z::J::D::E::F::G::B::L::M::N::I::Q::O::U::T::R::X::W::Z::Y::t0::t3::t4::t2::t5::t1::t6::t7::t8::t9::td::tb::te::tc::ta::tj::tg::th::tf::tm::tk::tl::ti::tq::tp::tr::tn::tt::ts::tv::tu::tz::tx::ty::tw::tA::tC::tD::tB::vl::(.lit (.bool true))::u::vy::v85::zz),h86⟩) (
 yO s k wl 33 Tryz.f33 bI 39 m0 ac bF ⟨(c::e::j::f::o::g::u::v::y::A::z::J::D::E::F::G::B::L::M::N::I::Q::O::U::T::R::X::W::Z::Y::t0::t3::t4::t2::t5::t1::t6::t7::t8::t9::td::tb::te::tc::ta::tj::tg::th::tf::tm::tk::tl::ti::tq::tp::tr::tn::tt::ts::tv::tu::tz::tx::ty::tw::tA::tC::tD::tB::vl::(.lit (.bool false))::uu::uu::uu::zz),h82⟩) (
 yO s k wl 33 Tryz.f33 bI 37 m0 ac bF ⟨(c::e::j::f::o::g::u::v::y::A::z::J::D::E::F::G::B::L::M::N::I::Q::O::U::T::R::X::W::Z::Y::t0::t3::t4::t2::t5::t1::t6::t7::t8::t9::td::tb::te::tc::ta::tj::tg::th::tf::tm::tk::tl::ti::tq::tp::tr::tn::tt::ts::tv::tu::tz::tx::ty::tw::tA::tC::tD::tB::vl::vl::uu::tG::tH::zz),h82⟩):=kG
theorem S9:yO s k wl 33 Tryz.f33 bI 39 m0 ac bF ⟨(c::e::j::f::o::g::u::v::y::A::z::J::D::E::F::G::B::L::M::N::I::Q::O::U::T::R::X::W::Z::Y::t0::t3::t4::t2::t5::t1::t6::t7::t8::t9::td::tb::te::tc::ta::tj::tg::th::tf::tm::tk::tl::ti::tq::tp::tr::tn::tt::ts::tv::tu::tz::tx::ty::tw::tA::tC::tD::tB::tF::tE::tI::tG::tH::tK::tJ::tP::tM::tN::tO::tL::zz),h⟩ =
 bm (aS tE tH (.lit (.bool false))) h fun vm hq=>
 gd vm (
 bm (am s.P 34 u (.lit (.int .i64 3)) hq) hq fun vz h90=>
 bm (aa s.P 52 vz 0) h90 fun v91 h92=>
 bm (ab s.P 3 v91 h92) h92 fun v93 h94=>
 bm (aA s.P .eql 3 v93 (.lit (.int .i64 5))) h94 fun v95 h96=>
 yO s k wl 33 Tryz.f33 bI 46 m0 ac bF ⟨(c::e::j::f::o::g::u::v::y::A::z::J::D::E::F::G::B::L::M::N::I::Q::O::U::T::R::X::W::Z::Y::t0::t3::t4::t2::t5::t1::t6::t7::t8::t9::td::tb::te::tc::ta::tj::tg::th::tf::tm::tk::tl::ti::tq::tp::tr::tn::tt::ts::tv::tu::tz::tx::ty::tw::tA::tC::tD::tB::tF::tE::tI::tG::tH::vm::(.lit (.bool true))::u::vz::v91::v93::v95::zz),h96⟩) (
 yO s k wl 33 Tryz.f33 bI 46 m0 ac bF ⟨(c::e::j::f::o::g::u::v::y::A::z::J::D::E::F::G::B::L::M::N::I::Q::O::U::T::R::X::W::Z::Y::t0::t3::t4::t2::t5::t1::t6::t7::t8::t9::td::tb::te::tc::ta::tj::tg::th::tf::tm::tk::tl::ti::tq::tp::tr::tn::tt::ts::tv::tu::tz::tx::ty::tw::tA::tC::tD::tB::tF::tE::tI::tG::tH::vm::(.lit (.bool false))::uu::uu::uu::uu::uu::zz),hq⟩) (
 yO s k wl 33 Tryz.f33 bI 42 m0 ac bF ⟨(c::e::j::f::o::g::u::v::y::A::z::J::D::E::F::G::B::L::M::N::I::Q::O::U::T::R::X::W::Z::Y::t0::t3::t4::t2::t5::t1::t6::t7::t8::t9::td::tb::te::tc::ta::tj::tg::th::tf::tm::tk::tl::ti::tq::tp::tr::tn::tt::ts::tv::tu::tz::tx::ty::tw::tA::tC::tD::tB::tF::tE::tI::tG::tH::vm::vm::uu::tM::tN::tO::tL::zz),hq⟩):=kG
theorem SZ:yO s k wl 33 Tryz.f33 bI 46 m0 ac bF ⟨(c::e::j::f::o::g::u::v::y::A::z::J::D::E::F::G::B::L::M::N::I::Q::O::U::T::R::X::W::Z::Y::t0::t3::t4::t2::t5::t1::t6::t7::t8::t9::td::tb::te::tc::ta::tj::tg::th::tf::tm::tk::tl::ti::tq::tp::tr::tn::tt::ts::tv::tu::tz::tx::ty::tw::tA::tC::tD::tB::tF::tE::tI::tG::tH::tK::tJ::tP::tM::tN::tO::tL::tT::tS::tU::tR::tQ::[]),h⟩ =
 bm (aS tJ tL (.lit (.bool false))) h fun vn hr=>
 gd vn (
 bm (ab s.P 30 j hr) hr fun v99 h100=>
 bp (yC s k wl 33 false true (.fn (.func 35) [] []) [v99,.nil] h100) fun v101 h102=>
 yO s k wl 33 Tryz.f33 bI 50 m0 ac bF ⟨(c::e::j::f::o::g::u::v::y::A::z::J::D::E::F::G::B::L::M::N::I::Q::O::U::T::R::X::W::Z::Y::t0::t3::t4::t2::t5::t1::t6::t7::t8::t9::td::tb::te::tc::ta::tj::tg::th::tf::tm::tk::tl::ti::tq::tp::tr::tn::tt::ts::tv::tu::tz::tx::ty::tw::tA::tC::tD::tB::tF::tE::tI::tG::tH::tK::tJ::tP::tM::tN::tO::tL::vn::(.lit (.bool true))::v99::v101::tQ::[]),h102⟩) (
 yO s k wl 33 Tryz.f33 bI 50 m0 ac bF ⟨(c::e::j::f::o::g::u::v::y::A::z::J::D::E::F::G::B::L::M::N::I::Q::O::U::T::R::X::W::Z::Y::t0::t3::t4::t2::t5::t1::t6::t7::t8::t9::td::tb::te::tc::ta::tj::tg::th::tf::tm::tk::tl::ti::tq::tp::tr::tn::tt::ts::tv::tu::tz::tx::ty::tw::tA::tC::tD::tB::tF::tE::tI::tG::tH::tK::tJ::tP::tM::tN::tO::tL::vn::(.lit (.bool false))::uu::uu::tQ::[]),hr⟩) (
 yO s k wl 33 Tryz.f33 bI 49 m0 ac bF ⟨(c::e::j::f::o::g::u::v::y::A::z::J::D::E::F::G::B::L::M::N::I::Q::O::U::T::R::X::W::Z::Y::t0::t3::t4::t2::t5::t1::t6::t7::t8::t9::td::tb::te::tc::ta::tj::tg::th::tf::tm::tk::tl::ti::tq::tp::tr::tn::tt::ts::tv::tu::tz::tx::ty::tw::tA::tC::tD::tB::tF::tE::tI::tG::tH::tK::tJ::tP::tM::tN::tO::tL::vn::vn::uu::tR::tQ::[]),hr⟩):=kG
theorem MQ:yO s k wl 33 Tryz.f33 bI 50 m0 ac bF ⟨(c::e::j::f::o::g::u::v::y::A::z::J::D::E::F::G::B::L::M::N::I::Q::O::U::T::R::X::W::Z::Y::t0::t3::t4::t2::t5::t1::t6::t7::t8::t9::td::tb::te::tc::ta::tj::tg::th::tf::tm::tk::tl::ti::tq::tp::tr::tn::tt::ts::tv::tu::tz::tx::ty::tw::tA::tC::tD::tB::tF::tE::tI::tG::tH::tK::tJ::tP::tM::tN::tO::tL::tT::tS::tU::tR::tQ::[]),h⟩ =
 bm (aS tS tR (.lit (.bool false))) h fun v103 h104=>
 some (v103,h104):=kG
theorem Bl (cx:Cx) (s:St):aw cx K bF .ret s=K .ret s:=by kernel_rfl
-- names: ahx,TS,Tu,T2,SE,TE,TK,S8,T0,S9,SZ,MQ,Bl
end
end Go.Ab
set_option maxRecDepth 100000
set_option linter.unusedVariables false
namespace Go.Ab
open Go.Proofs
section
variable (s:Sys) (k wl:Nat) (m0:Nat) (ac:List Nat×List Nat) (d f g o j v y r u z D A B M N O I Q L E J G F R W X T U Y t0 Z t2 t3 t4 t1 t5 t6 t8 t9 ta t7 te tb tc td:V) (h:Hp) (K:Out→St→Option (V×Hp)) (rd:Bool) (n n0:Nat) (zz:List V)
theorem ahE:ak (xX s 34 wl k false) Tryz.f34 [d,f,g,o] h =
 bp (aQ d h) fun v1 h2=>
 bp (az s.P 30 h2) fun v3 h4=>
 bp (some (.own h4.length 0 0,h4++[.rows 0 [] 0 true])) fun v5 h6=>
 bm (ab s.P 23 v1 h6) h6 fun v7 h8=>
 bp (bG (xX s 34 wl k false) false true (.fn (.func 23) [] []) [v7,f,g] h8) fun v9 hD=>
 bm (ar v9 0) hD fun vA hB=>
 bm (ar v9 1) hB fun vC hC=>
 bp (az s.P 30 hC) fun vB hA=>
 bs (ai s.P wl 30 vB vA hA) fun hm=>
 bm (vUn .not vC) hm fun vX hN=>
 cnd vX (
 bm (be s.P 30 []) hN fun vd hT=>
 bs (ai s.P wl 30 v3 vd hT) fun hI=>
 bp (some (.own hI.length 0 0,hI++[.rows 0 [] 0 true])) fun vG hJ=>
 ew [ab s.P 30 v3 hJ,some vG,some (.lit (.bool false))] hJ) (
 bp (az s.P 30 hN) fun vI hE=>
 stO hN.length vB (
 bm (ab s.P 30 vB hE) hE fun vM hG=>
 bp (bG (xX s 34 wl k false) true true (.fn (.func 73) [] []) [o] hG) fun vO hK=>
 bp (bG (xX s 34 wl k false) true true (.fn (.func 17) [] []) [vM,vO] hK) fun vN hQ=>
 bm (ar vN 0) hQ fun vL hL=>
 bm (ar vN 1) hL fun vE hM=>
 bs (ai s.P wl 30 vI vL hM) fun hs=>
 bm (ab s.P 30 vI hs) hs fun vt hb=>
 bs (ai s.P wl 30 v3 vt hb) fun hO=>
 ew [ab s.P 30 v3 hO,some vE,some (.lit (.bool true))] hO)):=kB
theorem aip:evF Tryz.prog xM (k+1) wl 34 [d,f,g,o] h=ak (xX (xS k) 34 wl k false) Tryz.f34 [d,f,g,o] h:=by kernel_rfl
-- names: xFP,ahE,
noncomputable def uo:Code:=al (an Tryz.f35) [1,1,1,0,1,0,0]
noncomputable def Ic:List Fr:=[.block 0,.seq (al (an Tryz.f35) [1,1,1,1])]
noncomputable def Ig:Code:=al (an Tryz.f35) [1,1,1,0,1,0,0,1,0,0,0]
noncomputable def FA:List Fr:=[.seq (al (an Tryz.f35) [1,1,1,0,1,0,0,1,0,0,1]),.block 1,.seq (al (an Tryz.f35) [1,1,1,0,1,0,0,1,1])]
theorem afb:ak (xX s 35 wl k false) Tryz.f35 [d,f] h =
 bp (aQ d h) fun v1 h2=>
 bm (ab s.P 30 v1 h2) h2 fun v3 h4=>
 bp (bG (xX s 35 wl k false) false true (.fn (.func 20) [] []) [v3] h4) fun v5 h6=>
 bm (vUn .not v5) h6 fun v7 h8=>
 cnd v7 (
 some ((.lit (.bool false)),h8)) (
 itX (xX s 35 wl k false) uo h8.length (aw (xX s 35 wl k false) (av s.P Tryz.f35) Ic) k ⟨[(V.kill h8.length d),(V.kill h8.length f),(V.kill h8.length v1),(V.kill h8.length uu),(.lit (.bool false)),(.lit (.bool true)),(.lit (.int .i64 0)),(V.kill h8.length v3),(V.kill h8.length v5),(V.kill h8.length v7),.junk,.junk,.junk,.junk,.junk,.junk,.junk,.junk,.junk,.junk,.junk,.junk,.junk,.junk,.junk,.junk,.junk,.junk,.junk,.junk,.junk,.junk,.junk,.junk,(V.kill h8.length uu)],bR h8.length h8⟩):=kB
theorem ahL:evF Tryz.prog xM (k+1) wl 35 [d,f] h=ak (xX (xS k) 35 wl k false) Tryz.f35 [d,f] h:=by kernel_rfl
theorem agj (P:Program):av P Tryz.f35 .ret ⟨[d,f,g,o,j,v,y,r,u,z,D,A,B,M,N,O,I,Q,L,E,J,G,F,R,W,X,T,U,Y,t0,Z,t2,t3,t4,t1],h⟩=some (j,h):=by kernel_rfl
theorem TP:itX (xX s 35 wl k rd) uo n0 K (n+1) ⟨[d,f,g,o,j,v,y,r,u,z,D,A,B,M,N,O,I,Q,L,E,J,G,F,R,W,X,T,U,Y,t0,Z,t2,t3,t4,t1],h⟩ =
 cnd v (
 bm (ab s.P 30 g h) h fun v9 hD=>
 bp (bG (xX s 35 wl k rd) false true (.fn (.func 25) [] []) [v9] hD) fun vA hB=>
 bm (vUn .not vA) hB fun vC hC=>
 gd vC (
 dK (xX s 35 wl k rd) Ig 7 h.length ([],[]) (aw (xX s 35 wl k rd) (eg (xX s 35 wl k rd) uo n0 K n) FA) ⟨[d,f,g,o,j,v,y,r,u,z,v,A,B,v9,vA,vC,(.lit (.bool true)),uu,uu,uu,J,G,F,R,W,X,T,U,Y,t0,Z,t2,t3,t4,t1],hC⟩) (
 bm (ab s.P 30 g hC) hC fun vB hA=>
 bp (bG (xX s 35 wl k rd) false true (.fn (.func 26) [] []) [vB] hA) fun vD hF=>
 bm (aA s.P .leq 3 vD (.lit (.int .i64 0))) hF fun vF hH=>
 dK (xX s 35 wl k rd) Ig 7 h.length ([],[]) (aw (xX s 35 wl k rd) (eg (xX s 35 wl k rd) uo n0 K n) FA) ⟨[d,f,g,o,j,v,y,r,u,z,v,A,B,v9,vA,vC,(.lit (.bool false)),vB,vD,vF,J,G,F,R,W,X,T,U,Y,t0,Z,t2,t3,t4,t1],hH⟩) (
 dK (xX s 35 wl k rd) Ig 5 h.length ([],[]) (aw (xX s 35 wl k rd) (eg (xX s 35 wl k rd) uo n0 K n) FA) ⟨[d,f,g,o,j,v,y,r,u,z,v,A,B,v9,vA,vC,vC,uu,L,E,J,G,F,R,W,X,T,U,Y,t0,Z,t2,t3,t4,t1],hC⟩)) (
 K (.exit 0) ⟨[(V.kill n0 d),(V.kill n0 f),(V.kill n0 g),(V.kill n0 o),(V.kill n0 j),(V.kill n0 v),(V.kill n0 y),(V.kill n0 r),(V.kill n0 u),(V.kill n0 z),.junk,.junk,.junk,.junk,.junk,.junk,.junk,.junk,.junk,.junk,.junk,.junk,.junk,.junk,.junk,.junk,.junk,.junk,.junk,.junk,.junk,.junk,.junk,.junk,(V.kill n0 t1)],bR n0 h⟩):=kI
theorem Mu:aw (xX s 35 wl k false) (av s.P Tryz.f35) Ic (.exit 0) ⟨[d,f,g,o,j,v,y,r,u,z,D,A,B,M,N,O,I,Q,L,E,J,G,F,R,W,X,T,U,Y,t0,Z,t2,t3,t4,t1],h⟩ =
 some (v,h):=kR
theorem MM:dK (xX s 35 wl k rd) Ig 7 m0 ac (aw (xX s 35 wl k rd) (eg (xX s 35 wl k rd) uo n0 K n) FA) ⟨[d,f,g,o,j,v,y,r,u,z,D,A,B,M,N,O,I,Q,L,E,J,G,F,R,W,X,T,U,Y,t0,Z,t2,t3,t4,t1],h⟩ =
 bm (aS I (.lit (.bool true)) E) h fun vJ hI=>
 bp (bh s.P 31 f hI) fun vG hJ=>
 bm (aA s.P .eql 3 y vG) hJ fun vI hE=>
 cnd vI (
 K (.exit 0) ⟨[(V.kill n0 d),(V.kill n0 f),(V.kill n0 g),(V.kill n0 o),(V.kill n0 j),(V.kill n0 vJ),(V.kill n0 y),(V.kill n0 r),(V.kill n0 u),(V.kill n0 z),.junk,.junk,.junk,.junk,.junk,.junk,.junk,.junk,.junk,.junk,.junk,.junk,.junk,.junk,.junk,.junk,.junk,.junk,.junk,.junk,.junk,.junk,.junk,.junk,(V.kill n0 t1)],bR n0 hE⟩) (
 bm (ab s.P 30 g hE) hE fun vM hG=>
 bm (am s.P 31 f y hG) hG fun vO hK=>
 bm (ab s.P 48 vO hK) hK fun vN hQ=>
 bp (bG (xX s 35 wl k rd) false true (.fn (.func 24) [] []) [vM,vN] hQ) fun vL hL=>
 bm (ar vL 0) hL fun vE hM=>
 bm (ar vL 1) hM fun vK hX=>
 bs (ai s.P wl 30 g vE hX) fun hb=>
 bm (aA s.P .add 3 y (.lit (.int .i64 1))) hb fun vu hn=>
 itX (xX s 35 wl k rd) uo n0 K n ⟨[(V.kill n0 d),(V.kill n0 f),(V.kill n0 g),(V.kill n0 o),(V.kill n0 j),(V.kill n0 vJ),(V.kill n0 vu),(V.kill n0 r),(V.kill n0 u),(V.kill n0 z),.junk,.junk,.junk,.junk,.junk,.junk,.junk,.junk,.junk,.junk,.junk,.junk,.junk,.junk,.junk,.junk,.junk,.junk,.junk,.junk,.junk,.junk,.junk,.junk,(V.kill n0 t1)],bR n0 hn⟩):=kG
theorem rJ (cx:Cx) (s:St):aw cx K Ic .ret s=K .ret s:=by kernel_rfl
theorem rH (cx:Cx) (s:St):aw cx K FA .ret s=K .ret s:=by kernel_rfl
-- names: xFP,afb,agj,TP,Mu,MM,rJ,rH
noncomputable def SN:Code:=al (an Tryz.f36) [1,1,1,1,0,1,0]
noncomputable def Oz:Code:=al (an Tryz.f36) [1,1,1,1,0,1,0,0]
noncomputable def N1:Code:=al (an Tryz.f36) [1,1,1,1,0,1,0,1]
noncomputable def F6:List Fr:=[.block 0,.seq (al (an Tryz.f36) [1,1,1,1,1])]
theorem EE:SN= .rangeFunc (.tmp 25) #[26,27] Oz N1:=by kernel_rfl
theorem afh:ak (xX s 36 wl k false) Tryz.f36 [d,f] h =
 bp (aQ d h) fun v1 h2=>
 bp (az s.P 30 h2) fun v3 h4=>
 bp (some (.own h4.length 0 0,h4++[.rows 0 [] 0 true])) fun v5 h6=>
 bm (ab s.P 30 v1 h6) h6 fun v7 h8=>
 bp (bG (xX s 36 wl k false) false true (.fn (.func 17) [] []) [v7,.nil] h8) fun v9 hD=>
 bm (ar v9 0) hD fun vA hB=>
 bm (ar v9 1) hB fun vC hC=>
 bp (az s.P 30 hC) fun vB hA=>
 bp (az s.P 34 hA) fun vD hF=>
 bs (ai s.P wl 30 vB vA hF) fun hN=>
 bs (ai s.P wl 34 vD vC hN) fun hH=>
 bm (ab s.P 30 v1 hH) hH fun vJ hI=>
 bp (bG (xX s 36 wl k false) false true (.fn (.func 20) [] []) [vJ] hI) fun vG hJ=>
 bm (vUn .not vG) hJ fun vI hE=>
 cnd vI (
 bm (ab s.P 30 vB hE) hE fun vM hG=>
 bs (ai s.P wl 30 v3 vM hG) fun hU=>
 bp (some (.own hU.length 0 0,hU++[.rows 0 [] 0 true])) fun vS hV=>
 ew [ab s.P 30 v3 hV,some vS,some (.lit (.int .i64 0))] hV) (
 bp (az s.P 3 hE) fun vT hW=>
 bs (ai s.P wl 3 vT (.lit (.int .i64 0)) hW) fun hL=>
 bm (ab s.P 30 v1 hL) hL fun vE hM=>
 bp (bG (xX s 36 wl k false) false true (.fn (.func 74) [] []) [vE,f] hM) fun vK hX=>
 bd (xX s 36 wl k false) SN none (aw (xX s 36 wl k false) (av s.P Tryz.f36) F6) ⟨[d,f,v1,uu,v3,v5,(.lit (.int .i64 0)),vB,vD,vT,uu,uu,uu,uu,v9,v7,v9,vA,vC,vJ,vG,vI,uu,vE,f,vK,uu,uu,uu,uu,uu,uu,uu,uu,uu,uu,uu,uu,uu,uu,uu,uu,uu,uu,uu],hX⟩):=kB
theorem ahY:evF Tryz.prog xM (k+1) wl 36 [d,f] h=ak (xX (xS k) 36 wl k false) Tryz.f36 [d,f] h:=by kernel_rfl
theorem aes (P:Program):av P Tryz.f36 .ret ⟨[d,f,g,o,j,v,y,r,u,z,D,A,B,M,N,O,I,Q,L,E,J,G,F,R,W,X,T,U,Y,t0,Z,t2,t3,t4,t1,t5,t6,t8,t9,ta,t7,te,tb,tc,td],h⟩=ew [ab P 30 j h,some v,some y] h:=by kernel_rfl
theorem LY:aw (xX s 36 wl k false) (av s.P Tryz.f36) F6 .norm ⟨[d,f,g,o,j,v,y,r,u,z,D,A,B,M,N,O,I,Q,L,E,J,G,F,R,W,X,T,U,Y,t0,Z,t2,t3,t4,t1,t5,t6,t8,t9,ta,t7,te,tb,tc,td],h⟩ =
 bm (ab s.P 30 r h) h fun vH hO=>
 stO h.length u (
 bm (ab s.P 34 u hO) hO fun vQ hP=>
 stO h.length z (
 bm (ab s.P 3 z hP) hP fun vq hu=>
 bs (ai s.P wl 30 j vH hu) fun hS=>
 apt (lgW j (lgR z (lgR u ([],[])))) (
 ew [ab s.P 30 j hS,some vQ,some vq] hS))):=kR
theorem Mt:aw (xX s 36 wl k false) (av s.P Tryz.f36) F6 (.exit 0) ⟨[d,f,g,o,j,v,y,r,u,z,D,A,B,M,N,O,I,Q,L,E,J,G,F,R,W,X,T,U,Y,t0,Z,t2,t3,t4,t1,t5,t6,t8,t9,ta,t7,te,tb,tc,td],h⟩ =
 bm (ab s.P 30 r h) h fun ve hY=>
 stO h.length u (
 bm (ab s.P 34 u hY) hY fun vo hc=>
 stO h.length z (
 bm (ab s.P 3 z hc) hc fun vp hd=>
 bs (ai s.P wl 30 j ve hd) fun hp=>
 apt (lgW j (lgR z (lgR u ([],[])))) (
 ew [ab s.P 30 j hp,some vo,some vp] hp))):=kR
theorem fE:aw (xX s 36 wl k rd) K [.seq N1] .norm ⟨[d,f,g,o,j,v,y,r,u,z,D,A,B,M,N,O,I,Q,L,E,J,G,F,R,W,X,T,U,Y,t0,Z,t2,t3,t4,t1,t5,t6,t8,t9,ta,t7,te,tb,tc,td],h⟩ =
 bm (ab s.P 30 r h) h fun vg hi=>
 bp (bG (xX s 36 wl k rd) false true (.fn (.func 29) [] []) [vg] hi) fun vU hR=>
 cnd vU (
 K (.exit 0) ⟨[d,f,g,o,j,v,y,r,u,z,D,A,B,M,N,O,I,Q,L,E,J,G,F,R,W,X,T,U,vg,vU,Z,t2,t3,t4,t1,t5,t6,t8,t9,ta,t7,te,tb,tc,td],hR⟩) (
 bm (ab s.P 30 r hR) hR fun vh hv=>
 bp (bG (xX s 36 wl k rd) false true (.fn (.func 17) [] []) [vh,A] hv) fun vb hw=>
 bm (ar vb 0) hw fun vZ hj=>
 bm (ar vb 1) hj fun vc hx=>
 bp (az s.P 30 hx) fun vV hk=>
 bs (ai s.P wl 30 vV vZ hk) fun h67=>
 stO h67.length vV (
 bm (ab s.P 30 vV h67) h67 fun v68 h69=>
 bm (ab s.P 34 u h69) h69 fun vv h71=>
 bp (kS s.P wl 34 34 vv vc h71) fun v72 h73=>
 bm (aA s.P .add 3 D (.lit (.int .i64 1))) h73 fun v74 h75=>
 bs (ai s.P wl 30 r v68 h75) fun h76=>
 bs (ai s.P wl 34 u v72 h76) fun h77=>
 bs (ai s.P wl 3 z v74 h77) fun hl=>
 apt (lgW z (lgW u (lgW r (lgW vv (lgR vV ([],[])))))) (
 K .norm ⟨[d,f,g,o,j,v,y,r,u,z,D,A,vV,vc,N,O,I,Q,L,E,J,G,F,R,W,X,T,U,vg,vU,vb,vh,A,vb,vZ,vc,v68,vv,vc,v72,D,v74,tb,tc,td],hl⟩))):=kR
theorem fF:aw (xX s 36 wl k rd) K [.seq Oz] .norm ⟨[d,f,g,o,j,v,y,r,u,z,D,A,B,M,N,O,I,Q,L,E,J,G,F,R,W,X,T,U,Y,t0,Z,t2,t3,t4,t1,t5,t6,t8,t9,ta,t7,te,tb,tc,td],h⟩ =
 K .norm ⟨[d,f,g,o,j,v,y,r,u,z,T,U,B,M,N,O,I,Q,L,E,J,G,F,R,W,X,T,U,Y,t0,Z,t2,t3,t4,t1,t5,t6,t8,t9,ta,t7,te,tb,tc,td],h⟩:=kR
theorem rr (cx:Cx) (s:St):aw cx K F6 .ret s=K .ret s:=by kernel_rfl
-- names: xFP,afh,aes,LY,Mt,fE,fF,rr
-- range over a function at [1,1,1,1,0,1,0]
noncomputable def pk:Code:=al (an Tryz.f37) [1,0,1,1,0,1,0,0]
noncomputable def Ia:List Fr:=[.block 0,.seq (al (an Tryz.f37) [1,0,1,1,1]),.scope (al (an Tryz.f37) [1,0])]
noncomputable def Il:Code:=al (an Tryz.f37) [1,0,1,1,0,1,0,0,1,1,0,0,1,0,0]
noncomputable def E9:List Fr:=[.seq (al (an Tryz.f37) [1,0,1,1,0,1,0,0,1,1,0,0,1,0,1]),.seq (al (an Tryz.f37) [1,0,1,1,0,1,0,0,1,1,0,0,1,1]),.block 1,.seq (al (an Tryz.f37) [1,0,1,1,0,1,0,0,1,1,1])]
theorem ag4:ak (xX s 37 wl k false) Tryz.f37 [d,f] h =
 bp (az s.P 121 h) fun v1 h2=>
 bp (bh s.P 34 f h2) fun v3 h4=>
 itX (xX s 37 wl k false) pk h4.length (aw (xX s 37 wl k false) (av s.P Tryz.f37) Ia) k ⟨[(V.kill h4.length d),(V.kill h4.length f),(V.kill h4.length uu),(V.kill h4.length uu),(.lit (.int .i64 0)),(.lit (.int .i64 0)),(.lit (.int .i64 0)),(V.kill h4.length v1),(V.kill h4.length uu),(V.kill h4.length uu),(V.kill h4.length f),(V.kill h4.length v3),(.lit (.int .i64 0)),.junk,.junk,.junk,.junk,.junk,.junk,.junk,.junk,.junk,.junk,.junk,.junk,.junk,.junk,.junk,.junk,.junk,.junk,(V.kill h4.length uu),(V.kill h4.length uu),(V.kill h4.length uu),(V.kill h4.length uu),(V.kill h4.length uu),(V.kill h4.length uu)],bR h4.length h4⟩:=kB
theorem ahq:evF Tryz.prog xM (k+1) wl 37 [d,f] h=ak (xX (xS k) 37 wl k false) Tryz.f37 [d,f] h:=by kernel_rfl
theorem adE (P:Program):av P Tryz.f37 .ret ⟨[d,f,g,o,j,v,y,r,u,z,D,A,B,M,N,O,I,Q,L,E,J,G,F,R,W,X,T,U,Y,t0,Z,t2,t3,t4,t1,t5,t6],h⟩=some (.tup [j,v,y],h):=by kernel_rfl
theorem TD:itX (xX s 37 wl k rd) pk n0 K (n+1) ⟨[d,f,g,o,j,v,y,r,u,z,D,A,B,M,N,O,I,Q,L,E,J,G,F,R,W,X,T,U,Y,t0,Z,t2,t3,t4,t1,t5,t6],h⟩ =
 bm (aA s.P .lss 3 B A) h fun v5 h6=>
 cnd v5 (
 bm (am s.P 34 D B h6) h6 fun v7 h8=>
 bm (ab s.P 52 v7 h8) h8 fun v9 hD=>
 bp (az s.P 52 hD) fun vA hB=>
 bs (ai s.P wl 52 vA v9 hB) fun ht=>
 bm (aa s.P 52 vA 0) ht fun vr h15=>
 bm (ab s.P 3 vr h15) h15 fun vs hm=>
 bm (aA s.P .lss 3 vs (.lit (.int .i64 0))) hm fun vX hN=>
 gd vX (
 dK (xX s 37 wl k rd) Il 7 ht.length ([],[]) (aw (xX s 37 wl k rd) (eg (xX s 37 wl k rd) pk n0 K n) E9) ⟨[d,f,g,o,j,v,y,r,u,vA,D,A,B,v5,v7,v9,vr,vs,vX,(.lit (.bool true)),uu,uu,uu,R,W,X,T,U,Y,t0,Z,t2,t3,t4,t1,t5,t6],hN⟩) (
 bm (aa s.P 52 vA 0) hN fun vd hT=>
 bm (ab s.P 3 vd hT) hT fun vW hf=>
 bm (aA s.P .geq 3 vW (.lit (.int .i64 6))) hf fun vR hg=>
 dK (xX s 37 wl k rd) Il 7 ht.length ([],[]) (aw (xX s 37 wl k rd) (eg (xX s 37 wl k rd) pk n0 K n) E9) ⟨[d,f,g,o,j,v,y,r,u,vA,D,A,B,v5,v7,v9,vr,vs,vX,(.lit (.bool false)),vd,vW,vR,R,W,X,T,U,Y,t0,Z,t2,t3,t4,t1,t5,t6],hg⟩) (
 dK (xX s 37 wl k rd) Il 5 ht.length ([],[]) (aw (xX s 37 wl k rd) (eg (xX s 37 wl k rd) pk n0 K n) E9) ⟨[d,f,g,o,j,v,y,r,u,vA,D,A,B,v5,v7,v9,vr,vs,vX,vX,uu,G,F,R,W,X,T,U,Y,t0,Z,t2,t3,t4,t1,t5,t6],hN⟩)) (
 K (.exit 0) ⟨[(V.kill n0 d),(V.kill n0 f),(V.kill n0 g),(V.kill n0 o),(V.kill n0 j),(V.kill n0 v),(V.kill n0 y),(V.kill n0 r),(V.kill n0 u),(V.kill n0 z),(V.kill n0 D),(V.kill n0 A),.junk,.junk,.junk,.junk,.junk,.junk,.junk,.junk,.junk,.junk,.junk,.junk,.junk,.junk,.junk,.junk,.junk,.junk,.junk,(V.kill n0 t2),(V.kill n0 t3),(V.kill n0 t4),(V.kill n0 t1),(V.kill n0 t5),(V.kill n0 t6)],bR n0 h6⟩):=kI
theorem Mj:aw (xX s 37 wl k false) (av s.P Tryz.f37) Ia (.exit 0) ⟨[d,f,g,o,j,v,y,r,u,z,D,A,B,M,N,O,I,Q,L,E,J,G,F,R,W,X,T,U,Y,t0,Z,t2,t3,t4,t1,t5,t6],h⟩ =
 bm (am s.P 121 r (.lit (.int .i64 0)) h) h fun vY ha=>
 bm (ab s.P 3 vY ha) ha fun vP hU=>
 bm (am s.P 121 r (.lit (.int .i64 1)) hU) hU fun vS hV=>
 bm (ab s.P 3 vS hV) hV fun vT hW=>
 bm (am s.P 121 r (.lit (.int .i64 4)) hW) hW fun v34 h35=>
 bm (ab s.P 3 v34 h35) h35 fun v36 hs=>
 some (.tup [vP,vT,v36],hs):=kR
theorem MR:dK (xX s 37 wl k rd) Il 7 m0 ac (aw (xX s 37 wl k rd) (eg (xX s 37 wl k rd) pk n0 K n) E9) ⟨[d,f,g,o,j,v,y,r,u,z,D,A,B,M,N,O,I,Q,L,E,J,G,F,R,W,X,T,U,Y,t0,Z,t2,t3,t4,t1,t5,t6],h⟩ =
 bm (aS E (.lit (.bool true)) F) h fun vt hb=>
 cnd vt (
 bm (aA s.P .add 3 B (.lit (.int .i64 1))) hb fun vu hn=>
 itX (xX s 37 wl k rd) pk n0 K n ⟨[(V.kill n0 d),(V.kill n0 f),(V.kill n0 g),(V.kill n0 o),(V.kill n0 j),(V.kill n0 v),(V.kill n0 y),(V.kill n0 r),(V.kill n0 u),(V.kill n0 z),(V.kill n0 D),(V.kill n0 A),(V.kill n0 vu),.junk,.junk,.junk,.junk,.junk,.junk,.junk,.junk,.junk,.junk,.junk,.junk,.junk,.junk,.junk,.junk,.junk,.junk,(V.kill n0 t2),(V.kill n0 t3),(V.kill n0 t4),(V.kill n0 t1),(V.kill n0 t5),(V.kill n0 t6)],bR n0 hn⟩) (
 bm (aa s.P 52 z 0) hb fun v42 hZ=>
 bm (ab s.P 3 v42 hZ) hZ fun va hS=>
 bm (am s.P 121 r va hS) hS fun ve hY=>
 bm (ab s.P 3 ve hY) hY fun vo hc=>
 bm (aA s.P .add 3 vo (.lit (.int .i64 1))) hc fun vp hd=>
 bm (am s.P 121 r va hd) hd fun v52 h53=>
 bs (ai s.P wl 3 v52 vp h53) fun hi=>
 bm (aA s.P .add 3 B (.lit (.int .i64 1))) hi fun vU hR=>
 itX (xX s 37 wl k rd) pk n0 K n ⟨[(V.kill n0 d),(V.kill n0 f),(V.kill n0 g),(V.kill n0 o),(V.kill n0 j),(V.kill n0 v),(V.kill n0 y),(V.kill n0 r),(V.kill n0 u),(V.kill n0 z),(V.kill n0 D),(V.kill n0 A),(V.kill n0 vU),.junk,.junk,.junk,.junk,.junk,.junk,.junk,.junk,.junk,.junk,.junk,.junk,.junk,.junk,.junk,.junk,.junk,.junk,(V.kill n0 t2),(V.kill n0 t3),(V.kill n0 t4),(V.kill n0 t1),(V.kill n0 t5),(V.kill n0 t6)],bR n0 hR⟩):=kG
theorem rb (cx:Cx) (s:St):aw cx K Ia .ret s=K .ret s:=by kernel_rfl
theorem rP (cx:Cx) (s:St):aw cx K E9 .ret s=K .ret s:=by kernel_rfl
-- names: xFP,ag4,adE,TD,Mj,MR,rb,rP
noncomputable def IT:Code:=al (an Tryz.f39) [1,1,0,1,0,0]
noncomputable def II:List Fr:=[.block 0,.seq (al (an Tryz.f39) [1,1,1])]
theorem afl:ak (xX s 39 wl k false) Tryz.f39 [d] h =
 bp (aQ d h) fun v1 h2=>
 bm (aa s.P 30 v1 4) h2 fun v3 h4=>
 bm (ab s.P 28 v3 h4) h4 fun v5 h6=>
 bp (bh s.P 28 v5 h6) fun v7 h8=>
 itX (xX s 39 wl k false) IT h8.length (aw (xX s 39 wl k false) (av s.P Tryz.f39) II) k ⟨[(V.kill h8.length d),(V.kill h8.length v1),(.lit (.int .i64 0)),(.lit (.int .i64 0)),(V.kill h8.length uu),(V.kill h8.length uu),(V.kill h8.length v3),(V.kill h8.length v5),(V.kill h8.length v7),(.lit (.int .i64 0)),.junk,.junk,.junk,.junk,.junk,.junk,.junk,.junk,.junk,(V.kill h8.length uu),(V.kill h8.length uu),(V.kill h8.length uu),(V.kill h8.length uu)],bR h8.length h8⟩:=kB
theorem ahu:evF Tryz.prog xM (k+1) wl 39 [d] h=ak (xX (xS k) 39 wl k false) Tryz.f39 [d] h:=by kernel_rfl
theorem aep (P:Program):av P Tryz.f39 .ret ⟨[d,f,g,o,j,v,y,r,u,z,D,A,B,M,N,O,I,Q,L,E,J,G,F],h⟩=some (g,h):=by kernel_rfl
theorem Ug:itX (xX s 39 wl k rd) IT n0 K (n+1) ⟨[d,f,g,o,j,v,y,r,u,z,D,A,B,M,N,O,I,Q,L,E,J,G,F],h⟩ =
 bm (aA s.P .lss 3 z u) h fun v9 hD=>
 cnd v9 (
 bm (am s.P 28 r z hD) hD fun vA hB=>
 bm (ab s.P 57 vA hB) hB fun vC hC=>
 bp (az s.P 57 hC) fun vB hA=>
 bs (ai s.P wl 57 vB vC hA) fun hm=>
 bm (aa s.P 57 vB 1) hm fun vX hN=>
 bm (ab s.P 53 vX hN) hN fun vd hT=>
 bp (bh s.P 53 vd hT) fun vW hf=>
 bm (aA s.P .add 3 o vW) hf fun vR hg=>
 bm (aA s.P .add 3 z (.lit (.int .i64 1))) hg fun vY ha=>
 itX (xX s 39 wl k rd) IT n0 K n ⟨[(V.kill n0 d),(V.kill n0 f),(V.kill n0 g),(V.kill n0 vR),(V.kill n0 j),(V.kill n0 vB),(V.kill n0 y),(V.kill n0 r),(V.kill n0 u),(V.kill n0 vY),.junk,.junk,.junk,.junk,.junk,.junk,.junk,.junk,.junk,(V.kill n0 E),(V.kill n0 J),(V.kill n0 G),(V.kill n0 F)],bR n0 ha⟩) (
 K (.exit 0) ⟨[(V.kill n0 d),(V.kill n0 f),(V.kill n0 g),(V.kill n0 o),(V.kill n0 j),(V.kill n0 v),(V.kill n0 y),(V.kill n0 r),(V.kill n0 u),.junk,.junk,.junk,.junk,.junk,.junk,.junk,.junk,.junk,.junk,(V.kill n0 E),(V.kill n0 J),(V.kill n0 G),(V.kill n0 F)],bR n0 hD⟩):=kI
theorem OE:aw (xX s 39 wl k false) (av s.P Tryz.f39) II (.exit 0) ⟨[d,f,g,o,j,v,y,r,u,z,D,A,B,M,N,O,I,Q,L,E,J,G,F],h⟩ =
 bm (ab s.P 30 f h) h fun vP hU=>
 bp (bG (xX s 39 wl k false) false true (.fn (.func 20) [] []) [vP] hU) fun vS hV=>
 bm (vUn .not vS) hV fun vT hW=>
 cnd vT (
 some ((.lit (.int .i64 0)),hW)) (
 some (o,hW)):=kR
theorem rR (cx:Cx) (s:St):aw cx K II .ret s=K .ret s:=by kernel_rfl
-- names: xFP,afl,aep,Ug,OE,rR
noncomputable def SO:Code:=al (an Tryz.f73) [1,1,0,1,0]
noncomputable def Nk:Code:=al (an Tryz.f73) [1,1,0,1,0,0]
noncomputable def MW:Code:=al (an Tryz.f73) [1,1,0,1,0,1]
noncomputable def Ir:List Fr:=[.block 0,.seq (al (an Tryz.f73) [1,1,1])]
theorem FP:SO= .rangeFunc (.tmp 6) #[7] Nk MW:=by kernel_rfl
theorem aeL:ak (xX s 73 wl k false) Tryz.f73 [d] h =
 bp (some (.own h.length 0 0,h++[.rows 0 [] 0 true])) fun v1 h2=>
 bp (az s.P 31 h2) fun v3 h4=>
 bp (bG (xX s 73 wl k false) false true (.fn (.func 111) [] []) [d,(.lit (.int .i64 3))] h4) fun v5 h6=>
 bd (xX s 73 wl k false) SO none (aw (xX s 73 wl k false) (av s.P Tryz.f73) Ir) ⟨[d,uu,v1,v3,uu,d,v5,uu,uu,uu,uu,uu,uu,uu,uu,uu,uu,uu,uu,uu,uu,uu,uu,uu,uu,uu,uu,uu,uu],h6⟩:=kB
theorem ahB:evF Tryz.prog xM (k+1) wl 73 [d] h=ak (xX (xS k) 73 wl k false) Tryz.f73 [d] h:=by kernel_rfl
theorem afH (P:Program):av P Tryz.f73 .ret ⟨[d,f,g,o,j,v,y,r,u,z,D,A,B,M,N,O,I,Q,L,E,J,G,F,R,W,X,T,U,Y],h⟩=some (g,h):=by kernel_rfl
theorem Om:aw (xX s 73 wl k false) (av s.P Tryz.f73) Ir .norm ⟨[d,f,g,o,j,v,y,r,u,z,D,A,B,M,N,O,I,Q,L,E,J,G,F,R,W,X,T,U,Y],h⟩ =
 bm (ab s.P 31 o h) h fun v7 h8=>
 some (v7,h8):=kR
theorem iA:aw (xX s 73 wl k rd) K [.seq MW] .norm ⟨[d,f,g,o,j,v,y,r,u,z,D,A,B,M,N,O,I,Q,L,E,J,G,F,R,W,X,T,U,Y],h⟩ =
 bp (bh s.P 67 j h) fun v9 hD=>
 bm (aA s.P .eql 3 v9 (.lit (.int .i64 3))) hD fun vA hB=>
 cnd vA (
 stO hB.length o (
 bm (ab s.P 31 o hB) hB fun vC hC=>
 bm (am s.P 67 j (.lit (.int .i64 0)) hC) hC fun vB hA=>
 bm (ab s.P 5 vB hA) hA fun vD hF=>
 bm (aA s.P .rem 5 vD (.lit (.int .u8 4))) hF fun vF hH=>
 bm (fL s.P 5 3 vF) hH fun vJ hI=>
 bm (am s.P 67 j (.lit (.int .i64 1)) hI) hI fun vG hJ=>
 bm (ab s.P 5 vG hJ) hJ fun vI hE=>
 bm (fL s.P 5 3 vI) hE fun vM hG=>
 bm (am s.P 67 j (.lit (.int .i64 2)) hG) hG fun vO hK=>
 bm (ab s.P 5 vO hK) hK fun vN hQ=>
 bm (fL s.P 5 46 vN) hQ fun vL hL=>
 bm (be s.P 48 [(0,vJ),(1,vM),(2,vL)]) hL fun vE hM=>
 bp (cZ s.P wl 31 1 [(0,vE)] hM) fun vK hX=>
 bp (kS s.P wl 31 31 vC vK hX) fun vH hO=>
 bs (ai s.P wl 31 o vH hO) fun hn=>
 K .norm ⟨[d,f,g,o,j,v,y,r,j,v9,vA,vC,j,vB,vD,vF,vJ,j,vG,vI,vM,j,vO,vN,vL,vE,vK,vH,Y],hn⟩)) (
 K .norm ⟨[d,f,g,o,j,v,y,r,j,v9,vA,A,B,M,N,O,I,Q,L,E,J,G,F,R,W,X,T,U,Y],hB⟩):=kR
theorem iy:aw (xX s 73 wl k rd) K [.seq Nk] .norm ⟨[d,f,g,o,j,v,y,r,u,z,D,A,B,M,N,O,I,Q,L,E,J,G,F,R,W,X,T,U,Y],h⟩ =
 K .norm ⟨[d,f,g,o,r,v,y,r,u,z,D,A,B,M,N,O,I,Q,L,E,J,G,F,R,W,X,T,U,Y],h⟩:=kR
theorem r5 (cx:Cx) (s:St):aw cx K Ir .ret s=K .ret s:=by kernel_rfl
-- names: xFP,aeL,afH,Om,iA,iy,r5
-- range over a function at [1,1,0,1,0]
theorem ad1:ak (xX s 74 wl k false) Tryz.f74 [d,f] h =
 bp (aQ d h) fun v1 h2=>
 bp (aQ f h2) fun v3 h4=>
 some ((.fn (.func 112) [] [v3,v1]),h4):=kB
theorem ahj:evF Tryz.prog xM (k+1) wl 74 [d,f] h=ak (xX (xS k) 74 wl k false) Tryz.f74 [d,f] h:=by kernel_rfl
-- names: xFP,ad1,
noncomputable def Gr:List Fr:=[.seq (al (an Tryz.f111) [1,1])]
theorem X1:ak (xX s 111 wl k false) Tryz.f111 [d,f] h =
 bp (aQ d h) fun v1 h2=>
 bp (aQ f h2) fun v3 h4=>
 bm (ab s.P 3 v3 h4) h4 fun v5 h6=>
 bm (aA s.P .lss 3 v5 (.lit (.int .i64 1))) h6 fun v7 h8=>
 cnd v7 (
 none) (
 aw (xX s 111 wl k false) (av s.P Tryz.f111) Gr .norm ⟨[d,f,v1,v3,(kN Value.nilFunc),v5,v7,uu,uu],h8⟩):=kB
theorem abn:evF Tryz.prog xM (k+1) wl 111 [d,f] h=ak (xX (xS k) 111 wl k false) Tryz.f111 [d,f] h:=by kernel_rfl
theorem Gj:aw (xX s 111 wl k false) (av s.P Tryz.f111) Gr .norm ⟨[d,f,g,o,j,v,y,r,u],h⟩ =
 some ((.fn (.func 152) [] [g,o]),h):=kR
theorem oi (cx:Cx) (s:St):aw cx K Gr .ret s=K .ret s:=by kernel_rfl
-- names: xFP,X1,Gj,oi
noncomputable def Cu:Code:=al (an Tryz.f112) [1,0,0]
noncomputable def DL:List Fr:=[.block 0]
theorem WI:ak (xX s 112 wl k false) Tryz.f112 [d,f,g] h =
 itX (xX s 112 wl k false) Cu h.length (aw (xX s 112 wl k false) (av s.P Tryz.f112) DL) k ⟨[(V.kill h.length d),(V.kill h.length f),(V.kill h.length g),(V.kill h.length uu),(.lit (.int .i64 0)),.junk,.junk,.junk,.junk,.junk,.junk,.junk,.junk,.junk,.junk,.junk,.junk,.junk,.junk,.junk,.junk,.junk,.junk,.junk],bR h.length h⟩:=kB
theorem Z4:evF Tryz.prog xM (k+1) wl 112 [d,f,g] h=ak (xX (xS k) 112 wl k false) Tryz.f112 [d,f,g] h:=by kernel_rfl
theorem UX (P:Program):av P Tryz.f112 .ret ⟨[d,f,g,o,j,v,y,r,u,z,D,A,B,M,N,O,I,Q,L,E,J,G,F,R],h⟩=some (.tup [],h):=by kernel_rfl
theorem NX:itX (xX s 112 wl k rd) Cu n0 K (n+1) ⟨[d,f,g,o,j,v,y,r,u,z,D,A,B,M,N,O,I,Q,L,E,J,G,F,R],h⟩ =
 bm (ab s.P 3 f h) h fun v1 h2=>
 bm (gU false [v1,(.lit (.int .i64 5000))]) h2 fun v3 h4=>
 bm (aA s.P .lss 3 j v3) h4 fun v5 h6=>
 cnd v5 (
 bm (aa s.P 30 g 0) h6 fun v7 h8=>
 bm (aa s.P 23 v7 0) h8 fun v9 hD=>
 bm (ab s.P 3 v9 hD) hD fun vA hB=>
 bm (aa s.P 30 g 4) hB fun vC hC=>
 bm (ab s.P 28 vC hC) hC fun vB hA=>
 bp (bh s.P 28 vB hA) fun vD hF=>
 bm (fL s.P 3 46 j) hF fun vF hH=>
 bp (bG (xX s 112 wl k rd) false true (.fn (.func 113) [] []) [vA,vD,vF] hH) fun vJ hI=>
 bp (bG (xX s 112 wl k rd) false true d [j,vJ] hI) fun vG hJ=>
 bm (vUn .not vG) hJ fun vI hE=>
 cnd vI (
 K .ret ⟨[d,f,g,o,j,j,v1,v3,v5,z,D,d,j,v7,v9,vA,vC,vB,vD,j,vF,vJ,vG,vI],hE⟩) (
 bm (aA s.P .add 3 j (.lit (.int .i64 1))) hE fun vM hG=>
 itX (xX s 112 wl k rd) Cu n0 K n ⟨[(V.kill n0 d),(V.kill n0 f),(V.kill n0 g),(V.kill n0 o),(V.kill n0 vM),.junk,.junk,.junk,.junk,.junk,.junk,.junk,.junk,.junk,.junk,.junk,.junk,.junk,.junk,.junk,.junk,.junk,.junk,.junk],bR n0 hG⟩)) (
 K (.exit 0) ⟨[(V.kill n0 d),(V.kill n0 f),(V.kill n0 g),(V.kill n0 o),(V.kill n0 j),.junk,.junk,.junk,.junk,.junk,.junk,.junk,.junk,.junk,.junk,.junk,.junk,.junk,.junk,.junk,.junk,.junk,.junk,.junk],bR n0 h6⟩):=kI
theorem GJ:aw (xX s 112 wl k false) (av s.P Tryz.f112) DL (.exit 0) ⟨[d,f,g,o,j,v,y,r,u,z,D,A,B,M,N,O,I,Q,L,E,J,G,F,R],h⟩ =
 some (.tup [],h):=kR
theorem oB (cx:Cx) (s:St):aw cx K DL .ret s=K .ret s:=by kernel_rfl
-- names: xFP,WI,UX,NX,GJ,oB
noncomputable def CU:Code:=al (an Tryz.f113) [1,0,0]
noncomputable def Aj:List Fr:=[.seq (al (an Tryz.f113) [1,0,1]),.seq (al (an Tryz.f113) [1,1])]
noncomputable def CO:Code:=al (an Tryz.f113) [1,1,1,0,1,0,0]
noncomputable def DD:List Fr:=[.block 0,.seq (al (an Tryz.f113) [1,1,1,1])]
noncomputable def Cq:Code:=al (an Tryz.f113) [1,1,1,1,0,1,0,0]
noncomputable def Cl:List Fr:=[.block 2,.seq (al (an Tryz.f113) [1,1,1,1,1])]
theorem Pn:ak (xX s 113 wl k false) Tryz.f113 [d,f,g] h =
 bp (some (.own h.length 0 0,h++[.rows 0 [] 0 true])) fun v1 h2=>
 bp (bG (xX s 113 wl k false) false true (.fn (.func 81) [] []) [d,(.lit (.int .i64 21))] h2) fun v3 h4=>
 bm (vUn .not v3) h4 fun v5 h6=>
 gd v5 (
 dK (xX s 113 wl k false) CU 7 h2.length ([],[]) (aw (xX s 113 wl k false) (av s.P Tryz.f113) Aj) ⟨[d,f,g,uu,uu,uu,v1,uu,uu,uu,d,v3,v5,(.lit (.bool true)),uu,uu,uu,uu,uu,uu,uu,uu,uu,uu,uu,uu,uu,uu,uu,uu,uu,uu,uu,uu,uu,uu,uu,uu,uu,uu,uu],h6⟩) (
 bp (bG (xX s 113 wl k false) false true (.fn (.func 81) [] []) [f,(.lit (.int .i64 21))] h6) fun v7 h8=>
 bm (vUn .not v7) h8 fun v9 hD=>
 dK (xX s 113 wl k false) CU 7 h2.length ([],[]) (aw (xX s 113 wl k false) (av s.P Tryz.f113) Aj) ⟨[d,f,g,uu,uu,uu,v1,uu,uu,uu,d,v3,v5,(.lit (.bool false)),f,v7,v9,uu,uu,uu,uu,uu,uu,uu,uu,uu,uu,uu,uu,uu,uu,uu,uu,uu,uu,uu,uu,uu,uu,uu,uu],hD⟩) (
 dK (xX s 113 wl k false) CU 5 h2.length ([],[]) (aw (xX s 113 wl k false) (av s.P Tryz.f113) Aj) ⟨[d,f,g,uu,uu,uu,v1,uu,uu,uu,d,v3,v5,v5,uu,uu,uu,uu,uu,uu,uu,uu,uu,uu,uu,uu,uu,uu,uu,uu,uu,uu,uu,uu,uu,uu,uu,uu,uu,uu,uu],h6⟩):=kB
theorem WC:evF Tryz.prog xM (k+1) wl 113 [d,f,g] h=ak (xX (xS k) 113 wl k false) Tryz.f113 [d,f,g] h:=by kernel_rfl
theorem QI (P:Program):av P Tryz.f113 .ret ⟨[d,f,g,o,j,v,y,r,u,z,D,A,B,M,N,O,I,Q,L,E,J,G,F,R,W,X,T,U,Y,t0,Z,t2,t3,t4,t1,t5,t6,t8,t9,ta,t7],h⟩=some (y,h):=by kernel_rfl
theorem CW:dK (xX s 113 wl k false) CU 7 m0 ac (aw (xX s 113 wl k false) (av s.P Tryz.f113) Aj) ⟨[d,f,g,o,j,v,y,r,u,z,D,A,B,M,N,O,I,Q,L,E,J,G,F,R,W,X,T,U,Y,t0,Z,t2,t3,t4,t1,t5,t6,t8,t9,ta,t7],h⟩ =
 bm (aS M (.lit (.bool true)) I) h fun vA hB=>
 cnd vA (
 bp (some (.own hB.length 0 0,hB++[.rows 0 [] 0 true])) fun vC hC=>
 some (vC,hC)) (
 bp (some (.own hB.length 0 0,hB++[.rows 0 [] 0 true])) fun vB hA=>
 itX (xX s 113 wl k false) CO hA.length (aw (xX s 113 wl k false) (av s.P Tryz.f113) DD) k ⟨[(V.kill hA.length d),(V.kill hA.length f),(V.kill hA.length g),(V.kill hA.length o),(V.kill hA.length j),(V.kill hA.length v),(V.kill hA.length y),(V.kill hA.length vB),(V.kill hA.length u),(V.kill hA.length z),(V.kill hA.length D),(V.kill hA.length A),(V.kill hA.length B),(V.kill hA.length M),(V.kill hA.length N),(V.kill hA.length O),(V.kill hA.length I),(V.kill hA.length vA),(V.kill hA.length d),(.lit (.int .i64 0)),.junk,.junk,.junk,.junk,.junk,.junk,.junk,.junk,.junk,(V.kill hA.length t0),(V.kill hA.length Z),(V.kill hA.length t2),(V.kill hA.length t3),(V.kill hA.length t4),(V.kill hA.length t1),(V.kill hA.length t5),(V.kill hA.length t6),(V.kill hA.length t8),(V.kill hA.length t9),(V.kill hA.length ta),(V.kill hA.length t7)],bR hA.length hA⟩):=kG
theorem Lu:itX (xX s 113 wl k rd) CO n0 K (n+1) ⟨[d,f,g,o,j,v,y,r,u,z,D,A,B,M,N,O,I,Q,L,E,J,G,F,R,W,X,T,U,Y,t0,Z,t2,t3,t4,t1,t5,t6,t8,t9,ta,t7],h⟩ =
 bm (aA s.P .lss 3 E L) h fun vD hF=>
 cnd vD (
 bm (be s.P 48 [(0,(.lit (.int .i64 0))),(1,E),(2,g)]) hF fun vF hH=>
 bp (aF s.P wl 31 1 [(0,vF)] hH) fun vJ hI=>
 bp (kS s.P wl 31 31 r vJ hI) fun vG hJ=>
 bm (aA s.P .add 3 E (.lit (.int .i64 1))) hJ fun vI hE=>
 itX (xX s 113 wl k rd) CO n0 K n ⟨[(V.kill n0 d),(V.kill n0 f),(V.kill n0 g),(V.kill n0 o),(V.kill n0 j),(V.kill n0 v),(V.kill n0 y),(V.kill n0 vG),(V.kill n0 E),(V.kill n0 z),(V.kill n0 D),(V.kill n0 A),(V.kill n0 B),(V.kill n0 M),(V.kill n0 N),(V.kill n0 O),(V.kill n0 I),(V.kill n0 Q),(V.kill n0 L),(V.kill n0 vI),.junk,.junk,.junk,.junk,.junk,.junk,.junk,.junk,.junk,(V.kill n0 t0),(V.kill n0 Z),(V.kill n0 t2),(V.kill n0 t3),(V.kill n0 t4),(V.kill n0 t1),(V.kill n0 t5),(V.kill n0 t6),(V.kill n0 t8),(V.kill n0 t9),(V.kill n0 ta),(V.kill n0 t7)],bR n0 hE⟩) (
 K (.exit 0) ⟨[(V.kill n0 d),(V.kill n0 f),(V.kill n0 g),(V.kill n0 o),(V.kill n0 j),(V.kill n0 v),(V.kill n0 y),(V.kill n0 r),(V.kill n0 u),(V.kill n0 z),(V.kill n0 D),(V.kill n0 A),(V.kill n0 B),(V.kill n0 M),(V.kill n0 N),(V.kill n0 O),(V.kill n0 I),(V.kill n0 Q),(V.kill n0 L),.junk,.junk,.junk,.junk,.junk,.junk,.junk,.junk,.junk,.junk,(V.kill n0 t0),(V.kill n0 Z),(V.kill n0 t2),(V.kill n0 t3),(V.kill n0 t4),(V.kill n0 t1),(V.kill n0 t5),(V.kill n0 t6),(V.kill n0 t8),(V.kill n0 t9),(V.kill n0 ta),(V.kill n0 t7)],bR n0 hF⟩):=kI
theorem Ck:aw (xX s 113 wl k false) (av s.P Tryz.f113) DD (.exit 0) ⟨[d,f,g,o,j,v,y,r,u,z,D,A,B,M,N,O,I,Q,L,E,J,G,F,R,W,X,T,U,Y,t0,Z,t2,t3,t4,t1,t5,t6,t8,t9,ta,t7],h⟩ =
 itX (xX s 113 wl k false) Cq h.length (aw (xX s 113 wl k false) (av s.P Tryz.f113) Cl) k ⟨[(V.kill h.length d),(V.kill h.length f),(V.kill h.length g),(V.kill h.length o),(V.kill h.length j),(V.kill h.length v),(V.kill h.length y),(V.kill h.length r),(V.kill h.length u),(V.kill h.length z),(V.kill h.length D),(V.kill h.length A),(V.kill h.length B),(V.kill h.length M),(V.kill h.length N),(V.kill h.length O),(V.kill h.length I),(V.kill h.length Q),(V.kill h.length L),(V.kill h.length E),(V.kill h.length J),(V.kill h.length G),(V.kill h.length F),(V.kill h.length R),(V.kill h.length W),(V.kill h.length X),(V.kill h.length T),(V.kill h.length U),(V.kill h.length Y),(V.kill h.length f),(.lit (.int .i64 0)),.junk,.junk,.junk,.junk,.junk,.junk,.junk,.junk,.junk,(V.kill h.length t7)],bR h.length h⟩:=kR
theorem M5:itX (xX s 113 wl k rd) Cq n0 K (n+1) ⟨[d,f,g,o,j,v,y,r,u,z,D,A,B,M,N,O,I,Q,L,E,J,G,F,R,W,X,T,U,Y,t0,Z,t2,t3,t4,t1,t5,t6,t8,t9,ta,t7],h⟩ =
 bm (aA s.P .lss 3 Z t0) h fun vM hG=>
 cnd vM (
 bm (be s.P 48 [(0,(.lit (.int .i64 1))),(1,Z),(2,g)]) hG fun vO hK=>
 bp (aF s.P wl 31 1 [(0,vO)] hK) fun vN hQ=>
 bp (kS s.P wl 31 31 r vN hQ) fun vL hL=>
 bm (aA s.P .add 3 Z (.lit (.int .i64 1))) hL fun vE hM=>
 itX (xX s 113 wl k rd) Cq n0 K n ⟨[(V.kill n0 d),(V.kill n0 f),(V.kill n0 g),(V.kill n0 o),(V.kill n0 j),(V.kill n0 v),(V.kill n0 y),(V.kill n0 vL),(V.kill n0 u),(V.kill n0 Z),(V.kill n0 D),(V.kill n0 A),(V.kill n0 B),(V.kill n0 M),(V.kill n0 N),(V.kill n0 O),(V.kill n0 I),(V.kill n0 Q),(V.kill n0 L),(V.kill n0 E),(V.kill n0 J),(V.kill n0 G),(V.kill n0 F),(V.kill n0 R),(V.kill n0 W),(V.kill n0 X),(V.kill n0 T),(V.kill n0 U),(V.kill n0 Y),(V.kill n0 t0),(V.kill n0 vE),.junk,.junk,.junk,.junk,.junk,.junk,.junk,.junk,.junk,(V.kill n0 t7)],bR n0 hM⟩) (
 K (.exit 2) ⟨[(V.kill n0 d),(V.kill n0 f),(V.kill n0 g),(V.kill n0 o),(V.kill n0 j),(V.kill n0 v),(V.kill n0 y),(V.kill n0 r),(V.kill n0 u),(V.kill n0 z),(V.kill n0 D),(V.kill n0 A),(V.kill n0 B),(V.kill n0 M),(V.kill n0 N),(V.kill n0 O),(V.kill n0 I),(V.kill n0 Q),(V.kill n0 L),(V.kill n0 E),(V.kill n0 J),(V.kill n0 G),(V.kill n0 F),(V.kill n0 R),(V.kill n0 W),(V.kill n0 X),(V.kill n0 T),(V.kill n0 U),(V.kill n0 Y),(V.kill n0 t0),.junk,.junk,.junk,.junk,.junk,.junk,.junk,.junk,.junk,.junk,(V.kill n0 t7)],bR n0 hG⟩):=kI
theorem Dm:aw (xX s 113 wl k false) (av s.P Tryz.f113) Cl (.exit 2) ⟨[d,f,g,o,j,v,y,r,u,z,D,A,B,M,N,O,I,Q,L,E,J,G,F,R,W,X,T,U,Y,t0,Z,t2,t3,t4,t1,t5,t6,t8,t9,ta,t7],h⟩ =
 some (r,h):=kR
theorem ms (cx:Cx) (s:St):aw cx K Aj .ret s=K .ret s:=by kernel_rfl
theorem mA (cx:Cx) (s:St):aw cx K DD .ret s=K .ret s:=by kernel_rfl
theorem mz (cx:Cx) (s:St):aw cx K Cl .ret s=K .ret s:=by kernel_rfl
-- names: xFP,Pn,QI,CW,Lu,Ck,M5,Dm,ms,mA,mz
theorem Kg{P:Program} {wl:Nat} {c:Bool} {t e:TypeId} {α:Type} {enc:α→List V} {l:List α} {k k' k2:IntKind} {lo n m:Int} {H:Hp} (he:mE P t=some e) (hz:(aZ P e !=0)=true) (h:∀ x,(enc x).length=aZ P e) :
  eU P wl c t (.ro (l.map enc)) (some (.lit (.int k lo))) (some (.lit (.int k' n))) (some (.lit (.int k2 m))) H=bif decide (0≤lo∧lo≤n∧n≤m∧m≤l.length) then some (.ro (((l.take n.toNat).drop lo.toNat).map enc),H) else none:=by
 have hz':aZ P e≠0:=by simpa using hz
 unfold eU
 simp only [he,bnd]
 by_cases h0:0≤lo∧lo≤n∧n≤m∧m≤l.length
 ·have h1:0≤lo:=h0.1
  have h2:0≤n:=by omega
  have h3:0≤m:=by omega
  have h4:lo.toNat≤n.toNat:=by omega
  have h5:n.toNat≤m.toNat:=by omega
  have h6:m.toNat≤l.length:=by omega
  simp [h0,h1,h2,h3,h4,h5,h6,hz',Od h,List.map_take,List.map_drop]
  omega
 ·rw [decide_eq_false h0]
  by_cases h1:0≤lo
  ·by_cases h2:0≤n
   ·by_cases h3:0≤m
    ·have:¬ (lo.toNat≤n.toNat∧n.toNat≤m.toNat∧m.toNat≤l.length):=by omega
     simp only [h1,h2,h3,if_true,Option.bind_some,List.length_map,cond_false]
     rw [if_neg (fun hh=>this ⟨hh.2.1,hh.2.2.1,hh.2.2.2.1⟩)]
    ·simp [h1,h2,h3]
   ·simp [h1,h2]
  ·simp [h1]
theorem nM (kk:Nat) (wl:Nat) (c:Bool) (l:List Int) (k k2 k3:IntKind) (lo n m:Int) (H:Hp):eU (xS kk).P wl c 67 (.ro (l.map (aG .u8))) (some (.lit (.int k lo))) (some (.lit (.int k2 n))) (some (.lit (.int k3 m))) H=bif decide (0≤lo∧lo≤n∧n≤m∧m≤l.length) then some (.ro (((l.take n.toNat).drop lo.toNat).map (aG .u8)),H) else none:=Kg (e:=5) (by kernel_rfl) (by kernel_rfl) (fun _=>by kernel_rfl)
noncomputable def Dy:Code:=al (an Tryz.f152) [1,0,0]
noncomputable def C7:List Fr:=[.block 0]
theorem V3:ak (xX s 152 wl k false) Tryz.f152 [d,f,g] h =
 itX (xX s 152 wl k false) Dy h.length (aw (xX s 152 wl k false) (av s.P Tryz.f152) C7) k ⟨[(V.kill h.length d),(V.kill h.length f),(V.kill h.length g),(V.kill h.length uu),(.lit (.int .i64 0)),(V.kill h.length uu),.junk,.junk,.junk,.junk,.junk,.junk,.junk,.junk,.junk,.junk,.junk,.junk,.junk,.junk,.junk,.junk,.junk,.junk,.junk,.junk,.junk,.junk,.junk,.junk,.junk],bR h.length h⟩:=kB
theorem Zq:evF Tryz.prog xM (k+1) wl 152 [d,f,g] h=ak (xX (xS k) 152 wl k false) Tryz.f152 [d,f,g] h:=by kernel_rfl
theorem UI (P:Program):av P Tryz.f152 .ret ⟨[d,f,g,o,j,v,y,r,u,z,D,A,B,M,N,O,I,Q,L,E,J,G,F,R,W,X,T,U,Y,t0,Z],h⟩=some (.tup [],h):=by kernel_rfl
theorem Nm:itX (xX s 152 wl k rd) Dy n0 K (n+1) ⟨[d,f,g,o,j,v,y,r,u,z,D,A,B,M,N,O,I,Q,L,E,J,G,F,R,W,X,T,U,Y,t0,Z],h⟩ =
 bm (ab s.P 67 f h) h fun v1 h2=>
 bp (bh s.P 67 v1 h2) fun v3 h4=>
 bm (aA s.P .lss 3 j v3) h4 fun v5 h6=>
 cnd v5 (
 bm (ab s.P 3 g h6) h6 fun v7 h8=>
 bm (ab s.P 67 f h8) h8 fun v9 hD=>
 bp (eU s.P wl true 67 v9 (some j) none none hD) fun vA hB=>
 bp (bh s.P 67 vA hB) fun vC hC=>
 bm (gU false [v7,vC]) hC fun vB hA=>
 bm (ab s.P 67 f hA) hA fun vD hF=>
 bm (aA s.P .add 3 j vB) hF fun vF hH=>
 bm (aA s.P .add 3 j vB) hH fun vJ hI=>
 bp (eU s.P wl false 67 vD (some j) (some vF) (some vJ) hI) fun vG hJ=>
 bp (bG (xX s 152 wl k rd) false true d [vG] hJ) fun vI hE=>
 bm (vUn .not vI) hE fun vM hG=>
 cnd vM (
 K .ret ⟨[d,f,g,o,j,vB,j,v1,v3,v5,D,A,B,v7,v9,j,vA,vC,vB,d,vD,j,j,vB,vF,j,vB,vJ,vG,vI,vM],hG⟩) (
 bm (ab s.P 3 g hG) hG fun vO hK=>
 bm (aA s.P .add 3 j vO) hK fun vN hQ=>
 itX (xX s 152 wl k rd) Dy n0 K n ⟨[(V.kill n0 d),(V.kill n0 f),(V.kill n0 g),(V.kill n0 o),(V.kill n0 vN),(V.kill n0 vB),.junk,.junk,.junk,.junk,.junk,.junk,.junk,.junk,.junk,.junk,.junk,.junk,.junk,.junk,.junk,.junk,.junk,.junk,.junk,.junk,.junk,.junk,.junk,.junk,.junk],bR n0 hQ⟩)) (
 K (.exit 0) ⟨[(V.kill n0 d),(V.kill n0 f),(V.kill n0 g),(V.kill n0 o),(V.kill n0 j),(V.kill n0 v),.junk,.junk,.junk,.junk,.junk,.junk,.junk,.junk,.junk,.junk,.junk,.junk,.junk,.junk,.junk,.junk,.junk,.junk,.junk,.junk,.junk,.junk,.junk,.junk,.junk],bR n0 h6⟩):=kI
theorem HM:aw (xX s 152 wl k false) (av s.P Tryz.f152) C7 (.exit 0) ⟨[d,f,g,o,j,v,y,r,u,z,D,A,B,M,N,O,I,Q,L,E,J,G,F,R,W,X,T,U,Y,t0,Z],h⟩ =
 some (.tup [],h):=kR
theorem ow (cx:Cx) (s:St):aw cx K C7 .ret s=K .ret s:=by kernel_rfl
-- names: xFP,nM,V3,UI,Nm,HM,ow
end
end Go.Ab
set_option maxRecDepth 100000
set_option linter.unusedVariables false
namespace Go.Ab
open Go.Proofs
section
variable (s:Sys) (k wl:Nat) (m0:Nat) (ac:List Nat×List Nat) (f a b d e i q r u v x j y g M N O z A B D E F G n I o Q L R J X U Y W T t2 t0 t3 t1 Z t9 t4 ta tb tc td te tf tg th ti tj tk t7 tl t8 t6 t5:V) (h:Hp) (K:Out→St→Option (V×Hp)) (rd:Bool) (zz:List V)
noncomputable def nN:Code:=al (an Tryz.f9) [1,1,1,1,0,0]
noncomputable def nu:List Fr:=[.seq (al (an Tryz.f9) [1,1,1,1,0,1]),.seq (al (an Tryz.f9) [1,1,1,1,1])]
noncomputable def R9:Code:=al (an Tryz.f9) [1,1,1,1,1,1,0]
noncomputable def Lh:List Fr:=[.seq (al (an Tryz.f9) [1,1,1,1,1,1,1])]
theorem xb9:ak (xX s 9 wl k false) Tryz.f9 [f,a,b,d,e] h =
 bp (aQ f h) fun v1 h2=>
 bp (bG (xX s 9 wl k false) false true (.fn (.func 33) [] []) [] h2) fun v3 h4=>
 bp (bG (xX s 9 wl k false) false true (.fn (.func 21) [] []) [a] h4) fun v5 h6=>
 bp (bG (xX s 9 wl k false) false true (.fn (.func 22) [] []) [b] h6) fun v7 h8=>
 bm (vUn .not v3) h8 fun v9 hD=>
 gd v9 (
 dK (xX s 9 wl k false) nN 5 h8.length ([],[]) (aw (xX s 9 wl k false) (av s.P Tryz.f9) nu) ⟨[f,a,b,d,e,v1,uu,uu,uu,uu,(.lit (.bool false)),v3,v5,v7,uu,uu,uu,v3,a,v5,b,v7,v3,v9,(.lit (.bool true)),uu,uu,uu,uu,uu,uu,uu,uu,uu,uu,uu,uu,uu,uu,uu,uu,uu,uu,uu,uu,uu,uu,uu,uu,uu,uu,uu,uu,uu,uu,uu,uu,uu,uu],hD⟩) (
 bm (vUn .not v5) hD fun vA hB=>
 dK (xX s 9 wl k false) nN 5 h8.length ([],[]) (aw (xX s 9 wl k false) (av s.P Tryz.f9) nu) ⟨[f,a,b,d,e,v1,uu,uu,uu,uu,(.lit (.bool false)),v3,v5,v7,uu,uu,uu,v3,a,v5,b,v7,v3,v9,(.lit (.bool false)),v5,vA,uu,uu,uu,uu,uu,uu,uu,uu,uu,uu,uu,uu,uu,uu,uu,uu,uu,uu,uu,uu,uu,uu,uu,uu,uu,uu,uu,uu,uu,uu,uu,uu],hB⟩) (
 dK (xX s 9 wl k false) nN 4 h8.length ([],[]) (aw (xX s 9 wl k false) (av s.P Tryz.f9) nu) ⟨[f,a,b,d,e,v1,uu,uu,uu,uu,(.lit (.bool false)),v3,v5,v7,uu,uu,uu,v3,a,v5,b,v7,v3,v9,v9,uu,uu,uu,uu,uu,uu,uu,uu,uu,uu,uu,uu,uu,uu,uu,uu,uu,uu,uu,uu,uu,uu,uu,uu,uu,uu,uu,uu,uu,uu,uu,uu,uu,uu],hD⟩):=kB
theorem xe9:evF Tryz.prog xM (k+1) wl 9 [f,a,b,d,e] h=ak (xX (xS k) 9 wl k false) Tryz.f9 [f,a,b,d,e] h:=by kernel_rfl
theorem ZC:dK (xX s 9 wl k false) nN 5 m0 ac (aw (xX s 9 wl k false) (av s.P Tryz.f9) nu) ⟨(f::a::b::d::e::i::q::r::u::v::x::j::y::g::M::N::O::z::A::B::D::E::F::G::n::I::o::Q::L::R::J::zz),h⟩ =
 bm (aS n (.lit (.bool true)) o) h fun vC hC=>
 gd vC (
 dK (xX s 9 wl k false) nN 9 m0 ac (aw (xX s 9 wl k false) (av s.P Tryz.f9) nu) ⟨(f::a::b::d::e::i::q::r::u::v::x::j::y::g::M::N::O::z::A::B::D::E::F::G::n::I::o::vC::(.lit (.bool true))::uu::uu::zz),hC⟩) (
 bm (vUn .not g) hC fun vB hA=>
 dK (xX s 9 wl k false) nN 9 m0 ac (aw (xX s 9 wl k false) (av s.P Tryz.f9) nu) ⟨(f::a::b::d::e::i::q::r::u::v::x::j::y::g::M::N::O::z::A::B::D::E::F::G::n::I::o::vC::(.lit (.bool false))::g::vB::zz),hA⟩) (
 dK (xX s 9 wl k false) nN 8 m0 ac (aw (xX s 9 wl k false) (av s.P Tryz.f9) nu) ⟨(f::a::b::d::e::i::q::r::u::v::x::j::y::g::M::N::O::z::A::B::D::E::F::G::n::I::o::vC::vC::uu::J::zz),hC⟩):=kG
theorem Yo:dK (xX s 9 wl k false) nN 9 m0 ac (aw (xX s 9 wl k false) (av s.P Tryz.f9) nu) ⟨(f::a::b::d::e::i::q::r::u::v::x::j::y::g::M::N::O::z::A::B::D::E::F::G::n::I::o::Q::L::R::J::X::U::Y::W::T::zz),h⟩ =
 bm (aS L (.lit (.bool true)) J) h fun vD hF=>
 gd vD (
 dK (xX s 9 wl k false) nN 14 m0 ac (aw (xX s 9 wl k false) (av s.P Tryz.f9) nu) ⟨(f::a::b::d::e::i::q::r::u::v::x::j::y::g::M::N::O::z::A::B::D::E::F::G::n::I::o::Q::L::R::J::vD::(.lit (.bool true))::uu::uu::uu::zz),hF⟩) (
 bp (bh s.P 67 d hF) fun vF hH=>
 bm (aA s.P .gtr 3 vF (.lit (.int .i64 900))) hH fun vJ hI=>
 dK (xX s 9 wl k false) nN 14 m0 ac (aw (xX s 9 wl k false) (av s.P Tryz.f9) nu) ⟨(f::a::b::d::e::i::q::r::u::v::x::j::y::g::M::N::O::z::A::B::D::E::F::G::n::I::o::Q::L::R::J::vD::(.lit (.bool false))::d::vF::vJ::zz),hI⟩) (
 dK (xX s 9 wl k false) nN 12 m0 ac (aw (xX s 9 wl k false) (av s.P Tryz.f9) nu) ⟨(f::a::b::d::e::i::q::r::u::v::x::j::y::g::M::N::O::z::A::B::D::E::F::G::n::I::o::Q::L::R::J::vD::vD::uu::W::T::zz),hF⟩):=kG
theorem aad:dK (xX s 9 wl k false) nN 14 m0 ac (aw (xX s 9 wl k false) (av s.P Tryz.f9) nu) ⟨(f::a::b::d::e::i::q::r::u::v::x::j::y::g::M::N::O::z::A::B::D::E::F::G::n::I::o::Q::L::R::J::X::U::Y::W::T::t2::t0::t3::t1::Z::zz),h⟩ =
 bm (aS U (.lit (.bool true)) T) h fun vG hJ=>
 gd vG (
 dK (xX s 9 wl k false) nN 19 m0 ac (aw (xX s 9 wl k false) (av s.P Tryz.f9) nu) ⟨(f::a::b::d::e::i::q::r::u::v::x::j::y::g::M::N::O::z::A::B::D::E::F::G::n::I::o::Q::L::R::J::X::U::Y::W::T::vG::(.lit (.bool true))::uu::uu::uu::zz),hJ⟩) (
 bp (bh s.P 31 e hJ) fun vI hE=>
 bm (aA s.P .gtr 3 vI (.lit (.int .i64 300))) hE fun vM hG=>
 dK (xX s 9 wl k false) nN 19 m0 ac (aw (xX s 9 wl k false) (av s.P Tryz.f9) nu) ⟨(f::a::b::d::e::i::q::r::u::v::x::j::y::g::M::N::O::z::A::B::D::E::F::G::n::I::o::Q::L::R::J::X::U::Y::W::T::vG::(.lit (.bool false))::e::vI::vM::zz),hG⟩) (
 dK (xX s 9 wl k false) nN 17 m0 ac (aw (xX s 9 wl k false) (av s.P Tryz.f9) nu) ⟨(f::a::b::d::e::i::q::r::u::v::x::j::y::g::M::N::O::z::A::B::D::E::F::G::n::I::o::Q::L::R::J::X::U::Y::W::T::vG::vG::uu::t1::Z::zz),hJ⟩):=kG
theorem acu:dK (xX s 9 wl k false) nN 19 m0 ac (aw (xX s 9 wl k false) (av s.P Tryz.f9) nu) ⟨[f,a,b,d,e,i,q,r,u,v,x,j,y,g,M,N,O,z,A,B,D,E,F,G,n,I,o,Q,L,R,J,X,U,Y,W,T,t2,t0,t3,t1,Z,t9,t4,ta,tb,tc,td,te,tf,tg,th,ti,tj,tk,t7,tl,t8,t6,t5],h⟩ =
 bm (aS t0 (.lit (.bool true)) Z) h fun vO hK=>
 cnd vO (
 some (j,hK)) (
 bm (ab s.P 23 i hK) hK fun vN hQ=>
 bp (bG (xX s 9 wl k false) false true (.fn (.func 34) [] []) [vN,a,b,d] hQ) fun vL hL=>
 bm (ar vL 0) hL fun vE hM=>
 bm (ar vL 1) hM fun vK hX=>
 bm (ar vL 2) hX fun vH hO=>
 bp (az s.P 30 hO) fun vQ hP=>
 bs (ai s.P wl 30 vQ vE hP) fun hZ=>
 bm (vUn .not vH) hZ fun va hS=>
 gd va (
 dK (xX s 9 wl k false) R9 6 hZ.length ([],[]) (aw (xX s 9 wl k false) (av s.P Tryz.f9) Lh) ⟨[f,a,b,d,e,i,q,r,u,v,x,j,y,g,vQ,vK,vH,z,A,B,D,E,F,G,n,I,o,Q,L,R,J,X,U,Y,W,T,t2,t0,t3,t1,Z,vO,t4,vL,vN,a,b,d,vL,vE,vK,vH,vH,va,(.lit (.bool true)),uu,uu,uu,t5],hS⟩) (
 bm (ab s.P 30 vQ hS) hS fun ve hY=>
 bp (bG (xX s 9 wl k false) false true (.fn (.func 35) [] []) [ve,e] hY) fun vo hc=>
 dK (xX s 9 wl k false) R9 6 hZ.length ([],[]) (aw (xX s 9 wl k false) (av s.P Tryz.f9) Lh) ⟨[f,a,b,d,e,i,q,r,u,v,x,j,y,g,vQ,vK,vH,z,A,B,D,E,F,G,n,I,o,Q,L,R,J,X,U,Y,W,T,t2,t0,t3,t1,Z,vO,t4,vL,vN,a,b,d,vL,vE,vK,vH,vH,va,(.lit (.bool false)),ve,e,vo,t5],hc⟩) (
 dK (xX s 9 wl k false) R9 4 hZ.length ([],[]) (aw (xX s 9 wl k false) (av s.P Tryz.f9) Lh) ⟨[f,a,b,d,e,i,q,r,u,v,x,j,y,g,vQ,vK,vH,z,A,B,D,E,F,G,n,I,o,Q,L,R,J,X,U,Y,W,T,t2,t0,t3,t1,Z,vO,t4,vL,vN,a,b,d,vL,vE,vK,vH,vH,va,va,uu,t8,t6,t5],hS⟩)):=kG
theorem aaJ:dK (xX s 9 wl k false) R9 6 m0 ac (aw (xX s 9 wl k false) (av s.P Tryz.f9) Lh) ⟨[f,a,b,d,e,i,q,r,u,v,x,j,y,g,M,N,O,z,A,B,D,E,F,G,n,I,o,Q,L,R,J,X,U,Y,W,T,t2,t0,t3,t1,Z,t9,t4,ta,tb,tc,td,te,tf,tg,th,ti,tj,tk,t7,tl,t8,t6,t5],h⟩ =
 bm (aS t7 (.lit (.bool true)) t6) h fun vp hd=>
 some (vp,hd):=kG
theorem El (cx:Cx) (s:St):aw cx K nu .ret s=K .ret s:=by kernel_rfl
theorem E2 (cx:Cx) (s:St):aw cx K Lh .ret s=K .ret s:=by kernel_rfl
-- names: xFP,xb9,ZC,Yo,aad,acu,aaJ,El,E2
end
end Go.Ab
