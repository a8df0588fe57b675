import Derived.Test.YtblpbpnilkfjhaaGreatR6Seat
import Derived.Test.YtblpbpnilkfjhaaGreatAbLibC
set_option linter.unusedVariables false
set_option linter.unusedSimpArgs false
set_option maxRecDepth 100000
set_option linter.unusedVariables false
namespace Go.Ab
open Go.Proofs
section
variable (s:Sys) (k wl:Nat) (m0:Nat) (ac:List Nat×List Nat) (c e j f o g u v y A z J D E F G B L M N I Q O U T R X W Z Y t0 t3 t4 t2 t5 t1 t6 t7 t8 t9 td tb te tc ta tj tg th tf tm tk tl ti tq tp tr tn tt ts tv tu tz tx ty tw tA tC tD tB tF tE tI tG tH tK tJ tP tM tN tO tL tT tS tU tR tQ:V) (h:Hp) (K:Out→St→Option (V×Hp)) (rd:Bool) (n n0:Nat) (zz:List V)
noncomputable def rI:Code:=al (am Tryz.f22) [1,0,1,0,0]
noncomputable def IX:List Fr:=[.block 0,.seq (al (am Tryz.f22) [1,1])]
noncomputable def HZ:Code:=al (am Tryz.f22) [1,0,1,0,0,0,0]
noncomputable def EN:List Fr:=[.seq (al (am Tryz.f22) [1,0,1,0,0,0,1]),.seq (al (am Tryz.f22) [1,0,1,0,0,1])]
theorem afR:ak (xX s 22 wl k false) Tryz.f22 [c] h =
 yI s k wl 22 Tryz.f22 rI h.length IX k ⟨[(V.kill h.length c),(V.kill h.length uu),(.lit (.bool false)),(.lit (.int .i64 0)),.junk,.junk,.junk,.junk,.junk,.junk,.junk,.junk,.junk,.junk,.junk,.junk,.junk,.junk,.junk,.junk,(V.kill h.length uu),(V.kill h.length uu),(V.kill h.length uu)],bN h.length h⟩:=kB
theorem ajs:evF Tryz.prog xM (k+1) wl 22 [c] h=ak (xX (xS k) 22 wl k false) Tryz.f22 [c] h:=by kernel_rfl
theorem afi (P:Program):ap P Tryz.f22 .ret ⟨[c,e,j,f,o,g,u,v,y,A,z,J,D,E,F,G,B,L,M,N,I,Q,O],h⟩=some (j,h):=by kernel_rfl
theorem TU:itX (xX s 22 wl k rd) rI n0 K (n+1) ⟨(c::e::j::f::o::g::u::v::y::A::z::zz),h⟩ =
 bp (a7 s.P 40 c h) fun v1 h2=>
 bm (aw s.P .lss 3 f v1) h2 fun v3 h4=>
 gd v3 (
 bm (aw s.P .leq 3 f (.lit (.int .i64 10))) h4 fun v5 h6=>
 cK (xX s 22 wl k rd) HZ 7 h.length ([],[]) (au (xX s 22 wl k rd) (eq (xX s 22 wl k rd) rI n0 K n) EN) ⟨(c::e::j::f::f::c::v1::v3::(.lit (.bool true))::f::v5::zz),h6⟩) (
 cK (xX s 22 wl k rd) HZ 7 h.length ([],[]) (au (xX s 22 wl k rd) (eq (xX s 22 wl k rd) rI n0 K n) EN) ⟨(c::e::j::f::f::c::v1::v3::(.lit (.bool false))::uu::uu::zz),h4⟩) (
 cK (xX s 22 wl k rd) HZ 6 h.length ([],[]) (au (xX s 22 wl k rd) (eq (xX s 22 wl k rd) rI n0 K n) EN) ⟨(c::e::j::f::f::c::v1::v3::v3::uu::z::zz),h4⟩):=kI
theorem K1:au (xX s 22 wl k false) (ap s.P Tryz.f22) IX (.exit 0) ⟨[c,e,j,f,o,g,u,v,y,A,z,J,D,E,F,G,B,L,M,N,I,Q,O],h⟩ =
 bp (a7 s.P 40 c h) fun v7 h8=>
 bm (aw s.P .leq 3 v7 (.lit (.int .i64 10))) h8 fun v9 hI=>
 some (v9,hI):=kR
theorem K8:cK (xX s 22 wl k rd) HZ 7 m0 ac (au (xX s 22 wl k rd) (eq (xX s 22 wl k rd) rI n0 K n) EN) ⟨[c,e,j,f,o,g,u,v,y,A,z,J,D,E,F,G,B,L,M,N,I,Q,O],h⟩ =
 bm (aR y z (.lit (.bool false))) h fun vB hB=>
 cnd vB (
 bm (ai s.P 40 c f hB) hB fun vH hC=>
 bm (ab s.P 53 vH hC) hC fun vC hJ=>
 bp (a7 s.P 53 vC hJ) fun vA hK=>
 bm (aw s.P .gtr 3 vA (.lit (.int .i64 60))) hK fun vG hD=>
 cnd vG (
 K .ret ⟨[c,e,(.lit (.bool false)),f,o,g,u,v,y,A,z,vB,D,E,c,f,vH,vC,vA,vG,I,Q,O],hD⟩) (
 bm (aw s.P .add 3 f (.lit (.int .i64 1))) hD fun vk hW=>
 itX (xX s 22 wl k rd) rI n0 K n ⟨[(V.kill n0 c),(V.kill n0 e),(V.kill n0 j),(V.kill n0 vk),.junk,.junk,.junk,.junk,.junk,.junk,.junk,.junk,.junk,.junk,.junk,.junk,.junk,.junk,.junk,.junk,(V.kill n0 I),(V.kill n0 Q),(V.kill n0 O)],bN n0 hW⟩)) (
 K (.exit 0) ⟨[(V.kill n0 c),(V.kill n0 e),(V.kill n0 j),(V.kill n0 f),.junk,.junk,.junk,.junk,.junk,.junk,.junk,.junk,.junk,.junk,.junk,.junk,.junk,.junk,.junk,.junk,(V.kill n0 I),(V.kill n0 Q),(V.kill n0 O)],bN n0 hB⟩):=kG
theorem rh (cx:Cx) (s:St):au cx K IX .ret s=K .ret s:=by kernel_rfl
theorem pq (cx:Cx) (s:St):au cx K EN .ret s=K .ret s:=by kernel_rfl
-- names: afR,afi,TU,K1,K8,rh,pq
noncomputable def bR:Code:=al (am Tryz.f33) [1,1,1,1,1,0]
noncomputable def bM:List Fr:=[.seq (al (am Tryz.f33) [1,1,1,1,1,1])]
theorem ai2:ak (xX s 33 wl k false) Tryz.f33 [] h =
 bm (bf s.P 101 [(0,(.lit (.int .i64 1)))]) h fun v1 h2=>
 bp (aB s.P wl 24 1 [(0,v1)] h2) fun v3 h4=>
 bm (bf s.P 23 [(0,(.lit (.int .i64 1))),(1,(.lit (.int .i64 1))),(2,(.lit (.int .i64 1)))]) h4 fun v5 h6=>
 bp (aB s.P wl 53 1 [(0,(.lit (.int .i64 0)))] h6) fun v7 h8=>
 bp (aB s.P wl 40 1 [(0,v7)] h8) fun v9 hI=>
 bp (yC s k wl 33 false true (.fn (.func 34) [] []) [v5,v3,v9,.nil] hI) fun vB hB=>
 bm (aq vB 0) hB fun vH hC=>
 bm (aq vB 1) hC fun vC hJ=>
 bm (aq vB 2) hJ fun vA hK=>
 bp (av s.P 30 hK) fun vG hD=>
 bs (aj s.P wl 30 vG vH hD) fun hR=>
 bm (ab s.P 30 vG hR) hR fun vW hX=>
 bp (yC s k wl 33 false true (.fn (.func 36) [] []) [vW,(.lit (.int .i64 500))] hX) fun vE hY=>
 bm (aq vE 0) hY fun vX hZ=>
 bm (aq vE 1) hZ fun vD ha=>
 bm (aq vE 2) ha fun vI hb=>
 bp (av s.P 30 hb) fun vY hc=>
 bs (aj s.P wl 30 vY vX hc) fun hd=>
 bp (yC s k wl 33 false true (.fn (.func 37) [] []) [v3,vD] hd) fun vF he=>
 bm (aq vF 0) he fun vJ hf=>
 bm (aq vF 1) hf fun vK hg=>
 bm (aq vF 2) hg fun vL hA=>
 gd vA (
 bp (a7 s.P 34 vC hA) fun vZ hh=>
 bm (aw s.P .eql 3 vZ (.lit (.int .i64 0))) hh fun vl hi=>
 yO s k wl 33 Tryz.f33 bR 5 hA.length ([],[]) bM ⟨((.lit (.bool false))::v3::vG::vC::vA::vY::vD::vI::vJ::vK::vL::v1::v3::vB::v5::v3::v7::v9::vB::vH::vC::vA::vE::vW::vE::vX::vD::vI::vF::v3::vD::vF::vJ::vK::vL::vA::(.lit (.bool true))::vC::vZ::vl::uu::uu::uu::uu::uu::uu::uu::uu::uu::uu::uu::uu::uu::uu::uu::uu::uu::uu::uu::uu::uu::uu::uu::uu::uu::uu::uu::uu::uu::uu::uu::uu::uu::uu::uu::uu::uu::uu::uu::uu::uu::uu::uu::uu::uu::uu::[]),hi⟩) (
 yO s k wl 33 Tryz.f33 bR 5 hA.length ([],[]) bM ⟨((.lit (.bool false))::v3::vG::vC::vA::vY::vD::vI::vJ::vK::vL::v1::v3::vB::v5::v3::v7::v9::vB::vH::vC::vA::vE::vW::vE::vX::vD::vI::vF::v3::vD::vF::vJ::vK::vL::vA::(.lit (.bool false))::uu::uu::uu::uu::uu::uu::uu::uu::uu::uu::uu::uu::uu::uu::uu::uu::uu::uu::uu::uu::uu::uu::uu::uu::uu::uu::uu::uu::uu::uu::uu::uu::uu::uu::uu::uu::uu::uu::uu::uu::uu::uu::uu::uu::uu::uu::uu::uu::uu::[]),hA⟩) (
 yO s k wl 33 Tryz.f33 bR 3 hA.length ([],[]) bM ⟨((.lit (.bool false))::v3::vG::vC::vA::vY::vD::vI::vJ::vK::vL::v1::v3::vB::v5::v3::v7::v9::vB::vH::vC::vA::vE::vW::vE::vX::vD::vI::vF::v3::vD::vF::vJ::vK::vL::vA::vA::uu::uu::uu::uu::uu::uu::uu::uu::uu::uu::uu::uu::uu::uu::uu::uu::uu::uu::uu::uu::uu::uu::uu::uu::uu::uu::uu::uu::uu::uu::uu::uu::uu::uu::uu::uu::uu::uu::uu::uu::uu::uu::uu::uu::uu::uu::uu::uu::uu::[]),hA⟩):=kB
theorem aj6:evF Tryz.prog xM (k+1) wl 33 [] h=ak (xX (xS k) 33 wl k false) Tryz.f33 [] h:=by kernel_rfl
theorem Ug:yO s k wl 33 Tryz.f33 bR 5 m0 ac bM ⟨(c::e::j::f::o::g::u::v::y::A::z::J::D::E::F::G::B::L::M::N::I::Q::O::U::T::R::X::W::Z::Y::t0::t3::t4::t2::t5::t1::t6::t7::t8::t9::td::tb::te::tc::ta::zz),h⟩ =
 bm (aR t6 t9 (.lit (.bool false))) h fun vM hE=>
 gd vM (
 bm (ab s.P 30 j hE) hE fun va hj=>
 bp (yC s k wl 33 false true (.fn (.func 39) [] []) [va] hj) fun vb hk=>
 bm (aw s.P .eql 3 vb (.lit (.int .i64 1))) hk fun vm hl=>
 yO s k wl 33 Tryz.f33 bR 10 m0 ac bM ⟨(c::e::j::f::o::g::u::v::y::A::z::J::D::E::F::G::B::L::M::N::I::Q::O::U::T::R::X::W::Z::Y::t0::t3::t4::t2::t5::t1::t6::t7::t8::t9::vM::(.lit (.bool true))::va::vb::vm::zz),hl⟩) (
 yO s k wl 33 Tryz.f33 bR 10 m0 ac bM ⟨(c::e::j::f::o::g::u::v::y::A::z::J::D::E::F::G::B::L::M::N::I::Q::O::U::T::R::X::W::Z::Y::t0::t3::t4::t2::t5::t1::t6::t7::t8::t9::vM::(.lit (.bool false))::uu::uu::uu::zz),hE⟩) (
 yO s k wl 33 Tryz.f33 bR 8 m0 ac bM ⟨(c::e::j::f::o::g::u::v::y::A::z::J::D::E::F::G::B::L::M::N::I::Q::O::U::T::R::X::W::Z::Y::t0::t3::t4::t2::t5::t1::t6::t7::t8::t9::vM::vM::uu::tc::ta::zz),hE⟩):=kG
theorem Uv:yO s k wl 33 Tryz.f33 bR 10 m0 ac bM ⟨(c::e::j::f::o::g::u::v::y::A::z::J::D::E::F::G::B::L::M::N::I::Q::O::U::T::R::X::W::Z::Y::t0::t3::t4::t2::t5::t1::t6::t7::t8::t9::td::tb::te::tc::ta::tj::tg::th::tf::zz),h⟩ =
 bm (aR tb ta (.lit (.bool false))) h fun vN hF=>
 gd vN (
 bm (ab s.P 30 g hF) hF fun vc hm=>
 bp (yC s k wl 33 false true (.fn (.func 29) [] []) [vc] hm) fun vn hn=>
 yO s k wl 33 Tryz.f33 bR 14 m0 ac bM ⟨(c::e::j::f::o::g::u::v::y::A::z::J::D::E::F::G::B::L::M::N::I::Q::O::U::T::R::X::W::Z::Y::t0::t3::t4::t2::t5::t1::t6::t7::t8::t9::td::tb::te::tc::ta::vN::(.lit (.bool true))::vc::vn::zz),hn⟩) (
 yO s k wl 33 Tryz.f33 bR 14 m0 ac bM ⟨(c::e::j::f::o::g::u::v::y::A::z::J::D::E::F::G::B::L::M::N::I::Q::O::U::T::R::X::W::Z::Y::t0::t3::t4::t2::t5::t1::t6::t7::t8::t9::td::tb::te::tc::ta::vN::(.lit (.bool false))::uu::uu::zz),hF⟩) (
 yO s k wl 33 Tryz.f33 bR 13 m0 ac bM ⟨(c::e::j::f::o::g::u::v::y::A::z::J::D::E::F::G::B::L::M::N::I::Q::O::U::T::R::X::W::Z::Y::t0::t3::t4::t2::t5::t1::t6::t7::t8::t9::td::tb::te::tc::ta::vN::vN::uu::tf::zz),hF⟩):=kG
theorem Uu:yO s k wl 33 Tryz.f33 bR 14 m0 ac bM ⟨(c::e::j::f::o::g::u::v::y::A::z::J::D::E::F::G::B::L::M::N::I::Q::O::U::T::R::X::W::Z::Y::t0::t3::t4::t2::t5::t1::t6::t7::t8::t9::td::tb::te::tc::ta::tj::tg::th::tf::tm::tk::tl::ti::zz),h⟩ =
 bm (aR tg tf (.lit (.bool false))) h fun vO hL=>
 gd vO (
 bm (aw s.P .gtr 3 v (.lit (.int .i64 10))) hL fun vo ho=>
 yO s k wl 33 Tryz.f33 bR 18 m0 ac bM ⟨(c::e::j::f::o::g::u::v::y::A::z::J::D::E::F::G::B::L::M::N::I::Q::O::U::T::R::X::W::Z::Y::t0::t3::t4::t2::t5::t1::t6::t7::t8::t9::td::tb::te::tc::ta::tj::tg::th::tf::vO::(.lit (.bool true))::v::vo::zz),ho⟩) (
 yO s k wl 33 Tryz.f33 bR 18 m0 ac bM ⟨(c::e::j::f::o::g::u::v::y::A::z::J::D::E::F::G::B::L::M::N::I::Q::O::U::T::R::X::W::Z::Y::t0::t3::t4::t2::t5::t1::t6::t7::t8::t9::td::tb::te::tc::ta::tj::tg::th::tf::vO::(.lit (.bool false))::uu::uu::zz),hL⟩) (
 yO s k wl 33 Tryz.f33 bR 17 m0 ac bM ⟨(c::e::j::f::o::g::u::v::y::A::z::J::D::E::F::G::B::L::M::N::I::Q::O::U::T::R::X::W::Z::Y::t0::t3::t4::t2::t5::t1::t6::t7::t8::t9::td::tb::te::tc::ta::tj::tg::th::tf::vO::vO::uu::ti::zz),hL⟩):=kG
theorem SU:yO s k wl 33 Tryz.f33 bR 18 m0 ac bM ⟨(c::e::j::f::o::g::u::v::y::A::z::J::D::E::F::G::B::L::M::N::I::Q::O::U::T::R::X::W::Z::Y::t0::t3::t4::t2::t5::t1::t6::t7::t8::t9::td::tb::te::tc::ta::tj::tg::th::tf::tm::tk::tl::ti::tq::tp::tr::tn::zz),h⟩ =
 bm (aR tk ti (.lit (.bool false))) h fun vP hM=>
 gd vP (
 bm (aw s.P .lss 3 v (.lit (.int .i64 500))) hM fun vp hp=>
 yO s k wl 33 Tryz.f33 bR 22 m0 ac bM ⟨(c::e::j::f::o::g::u::v::y::A::z::J::D::E::F::G::B::L::M::N::I::Q::O::U::T::R::X::W::Z::Y::t0::t3::t4::t2::t5::t1::t6::t7::t8::t9::td::tb::te::tc::ta::tj::tg::th::tf::tm::tk::tl::ti::vP::(.lit (.bool true))::v::vp::zz),hp⟩) (
 yO s k wl 33 Tryz.f33 bR 22 m0 ac bM ⟨(c::e::j::f::o::g::u::v::y::A::z::J::D::E::F::G::B::L::M::N::I::Q::O::U::T::R::X::W::Z::Y::t0::t3::t4::t2::t5::t1::t6::t7::t8::t9::td::tb::te::tc::ta::tj::tg::th::tf::tm::tk::tl::ti::vP::(.lit (.bool false))::uu::uu::zz),hM⟩) (
 yO s k wl 33 Tryz.f33 bR 21 m0 ac bM ⟨(c::e::j::f::o::g::u::v::y::A::z::J::D::E::F::G::B::L::M::N::I::Q::O::U::T::R::X::W::Z::Y::t0::t3::t4::t2::t5::t1::t6::t7::t8::t9::td::tb::te::tc::ta::tj::tg::th::tf::tm::tk::tl::ti::vP::vP::uu::tn::zz),hM⟩):=kG
theorem T0:yO s k wl 33 Tryz.f33 bR 22 m0 ac bM ⟨(c::e::j::f::o::g::u::v::y::A::z::J::D::E::F::G::B::L::M::N::I::Q::O::U::T::R::X::W::Z::Y::t0::t3::t4::t2::t5::t1::t6::t7::t8::t9::td::tb::te::tc::ta::tj::tg::th::tf::tm::tk::tl::ti::tq::tp::tr::tn::tt::ts::tv::tu::zz),h⟩ =
 bm (aR tp tn (.lit (.bool false))) h fun vQ hN=>
 gd vQ (
 bm (aw s.P .eql 3 y (.lit (.int .i64 1))) hN fun vq hq=>
 yO s k wl 33 Tryz.f33 bR 26 m0 ac bM ⟨(c::e::j::f::o::g::u::v::y::A::z::J::D::E::F::G::B::L::M::N::I::Q::O::U::T::R::X::W::Z::Y::t0::t3::t4::t2::t5::t1::t6::t7::t8::t9::td::tb::te::tc::ta::tj::tg::th::tf::tm::tk::tl::ti::tq::tp::tr::tn::vQ::(.lit (.bool true))::y::vq::zz),hq⟩) (
 yO s k wl 33 Tryz.f33 bR 26 m0 ac bM ⟨(c::e::j::f::o::g::u::v::y::A::z::J::D::E::F::G::B::L::M::N::I::Q::O::U::T::R::X::W::Z::Y::t0::t3::t4::t2::t5::t1::t6::t7::t8::t9::td::tb::te::tc::ta::tj::tg::th::tf::tm::tk::tl::ti::tq::tp::tr::tn::vQ::(.lit (.bool false))::uu::uu::zz),hN⟩) (
 yO s k wl 33 Tryz.f33 bR 25 m0 ac bM ⟨(c::e::j::f::o::g::u::v::y::A::z::J::D::E::F::G::B::L::M::N::I::Q::O::U::T::R::X::W::Z::Y::t0::t3::t4::t2::t5::t1::t6::t7::t8::t9::td::tb::te::tc::ta::tj::tg::th::tf::tm::tk::tl::ti::tq::tp::tr::tn::vQ::vQ::uu::tu::zz),hN⟩):=kG
theorem Ux:yO s k wl 33 Tryz.f33 bR 26 m0 ac bM ⟨(c::e::j::f::o::g::u::v::y::A::z::J::D::E::F::G::B::L::M::N::I::Q::O::U::T::R::X::W::Z::Y::t0::t3::t4::t2::t5::t1::t6::t7::t8::t9::td::tb::te::tc::ta::tj::tg::th::tf::tm::tk::tl::ti::tq::tp::tr::tn::tt::ts::tv::tu::tz::tx::ty::tw::zz),h⟩ =
 bm (aR ts tu (.lit (.bool false))) h fun vR hO=>
 gd vR (
 bm (aw s.P .eql 3 A (.lit (.int .i64 0))) hO fun vr hr=>
 yO s k wl 33 Tryz.f33 bR 30 m0 ac bM ⟨(c::e::j::f::o::g::u::v::y::A::z::J::D::E::F::G::B::L::M::N::I::Q::O::U::T::R::X::W::Z::Y::t0::t3::t4::t2::t5::t1::t6::t7::t8::t9::td::tb::te::tc::ta::tj::tg::th::tf::tm::tk::tl::ti::tq::tp::tr::tn::tt::ts::tv::tu::vR::(.lit (.bool true))::A::vr::zz),hr⟩) (
 yO s k wl 33 Tryz.f33 bR 30 m0 ac bM ⟨(c::e::j::f::o::g::u::v::y::A::z::J::D::E::F::G::B::L::M::N::I::Q::O::U::T::R::X::W::Z::Y::t0::t3::t4::t2::t5::t1::t6::t7::t8::t9::td::tb::te::tc::ta::tj::tg::th::tf::tm::tk::tl::ti::tq::tp::tr::tn::tt::ts::tv::tu::vR::(.lit (.bool false))::uu::uu::zz),hO⟩) (
 yO s k wl 33 Tryz.f33 bR 29 m0 ac bM ⟨(c::e::j::f::o::g::u::v::y::A::z::J::D::E::F::G::B::L::M::N::I::Q::O::U::T::R::X::W::Z::Y::t0::t3::t4::t2::t5::t1::t6::t7::t8::t9::td::tb::te::tc::ta::tj::tg::th::tf::tm::tk::tl::ti::tq::tp::tr::tn::tt::ts::tv::tu::vR::vR::uu::tw::zz),hO⟩):=kG
theorem Uh:yO s k wl 33 Tryz.f33 bR 30 m0 ac bM ⟨(c::e::j::f::o::g::u::v::y::A::z::J::D::E::F::G::B::L::M::N::I::Q::O::U::T::R::X::W::Z::Y::t0::t3::t4::t2::t5::t1::t6::t7::t8::t9::td::tb::te::tc::ta::tj::tg::th::tf::tm::tk::tl::ti::tq::tp::tr::tn::tt::ts::tv::tu::tz::tx::ty::tw::tA::tC::tD::tB::zz),h⟩ =
 bm (aR tx tw (.lit (.bool false))) h fun vS hP=>
 gd vS (
 bm (aw s.P .eql 3 z (.lit (.int .i64 1))) hP fun vs hs=>
 yO s k wl 33 Tryz.f33 bR 34 m0 ac bM ⟨(c::e::j::f::o::g::u::v::y::A::z::J::D::E::F::G::B::L::M::N::I::Q::O::U::T::R::X::W::Z::Y::t0::t3::t4::t2::t5::t1::t6::t7::t8::t9::td::tb::te::tc::ta::tj::tg::th::tf::tm::tk::tl::ti::tq::tp::tr::tn::tt::ts::tv::tu::tz::tx::ty::tw::vS::(.lit (.bool true))::z::vs::zz),hs⟩) (
 yO s k wl 33 Tryz.f33 bR 34 m0 ac bM ⟨(c::e::j::f::o::g::u::v::y::A::z::J::D::E::F::G::B::L::M::N::I::Q::O::U::T::R::X::W::Z::Y::t0::t3::t4::t2::t5::t1::t6::t7::t8::t9::td::tb::te::tc::ta::tj::tg::th::tf::tm::tk::tl::ti::tq::tp::tr::tn::tt::ts::tv::tu::tz::tx::ty::tw::vS::(.lit (.bool false))::uu::uu::zz),hP⟩) (
 yO s k wl 33 Tryz.f33 bR 33 m0 ac bM ⟨(c::e::j::f::o::g::u::v::y::A::z::J::D::E::F::G::B::L::M::N::I::Q::O::U::T::R::X::W::Z::Y::t0::t3::t4::t2::t5::t1::t6::t7::t8::t9::td::tb::te::tc::ta::tj::tg::th::tf::tm::tk::tl::ti::tq::tp::tr::tn::tt::ts::tv::tu::tz::tx::ty::tw::vS::vS::uu::tB::zz),hP⟩):=kG
theorem S1:yO s k wl 33 Tryz.f33 bR 34 m0 ac bM ⟨(c::e::j::f::o::g::u::v::y::A::z::J::D::E::F::G::B::L::M::N::I::Q::O::U::T::R::X::W::Z::Y::t0::t3::t4::t2::t5::t1::t6::t7::t8::t9::td::tb::te::tc::ta::tj::tg::th::tf::tm::tk::tl::ti::tq::tp::tr::tn::tt::ts::tv::tu::tz::tx::ty::tw::tA::tC::tD::tB::tF::tE::tI::tG::tH::zz),h⟩ =
 bm (aR tC tB (.lit (.bool false))) h fun vT hQ=>
 gd vT (
 bp (a7 s.P 34 u hQ) fun vd ht=>
 bm (aw s.P .eql 3 vd (.lit (.int .i64 4))) ht fun vt hu=>
 yO s k wl 33 Tryz.f33 bR 39 m0 ac bM ⟨(c::e::j::f::o::g::u::v::y::A::z::J::D::E::F::G::B::L::M::N::I::Q::O::U::T::R::X::W::Z::Y::t0::t3::t4::t2::t5::t1::t6::t7::t8::t9::td::tb::te::tc::ta::tj::tg::th::tf::tm::tk::tl::ti::tq::tp::tr::tn::tt::ts::tv::tu::tz::tx::ty::tw::tA::tC::tD::tB::vT::(.lit (.bool true))::u::vd::vt::zz),hu⟩) (
 yO s k wl 33 Tryz.f33 bR 39 m0 ac bM ⟨(c::e::j::f::o::g::u::v::y::A::z::J::D::E::F::G::B::L::M::N::I::Q::O::U::T::R::X::W::Z::Y::t0::t3::t4::t2::t5::t1::t6::t7::t8::t9::td::tb::te::tc::ta::tj::tg::th::tf::tm::tk::tl::ti::tq::tp::tr::tn::tt::ts::tv::tu::tz::tx::ty::tw::tA::tC::tD::tB::vT::(.lit (.bool false))::uu::uu::uu::zz),hQ⟩) (
 yO s k wl 33 Tryz.f33 bR 37 m0 ac bM ⟨(c::e::j::f::o::g::u::v::y::A::z::J::D::E::F::G::B::L::M::N::I::Q::O::U::T::R::X::W::Z::Y::t0::t3::t4::t2::t5::t1::t6::t7::t8::t9::td::tb::te::tc::ta::tj::tg::th::tf::tm::tk::tl::ti::tq::tp::tr::tn::tt::ts::tv::tu::tz::tx::ty::tw::tA::tC::tD::tB::vT::vT::uu::tG::tH::zz),hQ⟩):=kG
theorem TN:yO s k wl 33 Tryz.f33 bR 39 m0 ac bM ⟨(c::e::j::f::o::g::u::v::y::A::z::J::D::E::F::G::B::L::M::N::I::Q::O::U::T::R::X::W::Z::Y::t0::t3::t4::t2::t5::t1::t6::t7::t8::t9::td::tb::te::tc::ta::tj::tg::th::tf::tm::tk::tl::ti::tq::tp::tr::tn::tt::ts::tv::tu::tz::tx::ty::tw::tA::tC::tD::tB::tF::tE::tI::tG::tH::tK::tJ::tP::tM::tN::tO::tL::zz),h⟩ =
 bm (aR tE tH (.lit (.bool false))) h fun vU hG=>
 gd vU (
 bm (ai s.P 34 u (.lit (.int .i64 3)) hG) hG fun ve hv=>
 bm (aa s.P 52 ve 0) hv fun vf hS=>
 bm (ab s.P 3 vf hS) hS fun vg hw=>
 bm (aw s.P .eql 3 vg (.lit (.int .i64 5))) hw fun vu hx=>
 yO s k wl 33 Tryz.f33 bR 46 m0 ac bM ⟨(c::e::j::f::o::g::u::v::y::A::z::J::D::E::F::G::B::L::M::N::I::Q::O::U::T::R::X::W::Z::Y::t0::t3::t4::t2::t5::t1::t6::t7::t8::t9::td::tb::te::tc::ta::tj::tg::th::tf::tm::tk::tl::ti::tq::tp::tr::tn::tt::ts::tv::tu::tz::tx::ty::tw::tA::tC::tD::tB::tF::tE::tI::tG::tH::vU::(.lit (.bool true))::u::ve::vf::vg::vu::zz),hx⟩) (
 yO s k wl 33 Tryz.f33 bR 46 m0 ac bM ⟨(c::e::j::f::o::g::u::v::y::A::z::J::D::E::F::G::B::L::M::N::I::Q::O::U::T::R::X::W::Z::Y::t0::t3::t4::t2::t5::t1::t6::t7::t8::t9::td::tb::te::tc::ta::tj::tg::th::tf::tm::tk::tl::ti::tq::tp::tr::tn::tt::ts::tv::tu::tz::tx::ty::tw::tA::tC::tD::tB::tF::tE::tI::tG::tH::vU::(.lit (.bool false))::uu::uu::uu::uu::uu::zz),hG⟩) (
 yO s k wl 33 Tryz.f33 bR 42 m0 ac bM ⟨(c::e::j::f::o::g::u::v::y::A::z::J::D::E::F::G::B::L::M::N::I::Q::O::U::T::R::X::W::Z::Y::t0::t3::t4::t2::t5::t1::t6::t7::t8::t9::td::tb::te::tc::ta::tj::tg::th::tf::tm::tk::tl::ti::tq::tp::tr::tn::tt::ts::tv::tu::tz::tx::ty::tw::tA::tC::tD::tB::tF::tE::tI::tG::tH::vU::vU::uu::tM::tN::tO::tL::zz),hG⟩):=kG
theorem TT:yO s k wl 33 Tryz.f33 bR 46 m0 ac bM ⟨(c::e::j::f::o::g::u::v::y::A::z::J::D::E::F::G::B::L::M::N::I::Q::O::U::T::R::X::W::Z::Y::t0::t3::t4::t2::t5::t1::t6::t7::t8::t9::td::tb::te::tc::ta::tj::tg::th::tf::tm::tk::tl::ti::tq::tp::tr::tn::tt::ts::tv::tu::tz::tx::ty::tw::tA::tC::tD::tB::tF::tE::tI::tG::tH::tK::tJ::tP::tM::tN::tO::tL::tT::tS::tU::tR::tQ::[]),h⟩ =
 bm (aR tJ tL (.lit (.bool false))) h fun vV hH=>
 gd vV (
 bm (ab s.P 30 j hH) hH fun vh hT=>
 bp (yC s k wl 33 false true (.fn (.func 35) [] []) [vh,.nil] hT) fun vi hU=>
 yO s k wl 33 Tryz.f33 bR 50 m0 ac bM ⟨(c::e::j::f::o::g::u::v::y::A::z::J::D::E::F::G::B::L::M::N::I::Q::O::U::T::R::X::W::Z::Y::t0::t3::t4::t2::t5::t1::t6::t7::t8::t9::td::tb::te::tc::ta::tj::tg::th::tf::tm::tk::tl::ti::tq::tp::tr::tn::tt::ts::tv::tu::tz::tx::ty::tw::tA::tC::tD::tB::tF::tE::tI::tG::tH::tK::tJ::tP::tM::tN::tO::tL::vV::(.lit (.bool true))::vh::vi::tQ::[]),hU⟩) (
 yO s k wl 33 Tryz.f33 bR 50 m0 ac bM ⟨(c::e::j::f::o::g::u::v::y::A::z::J::D::E::F::G::B::L::M::N::I::Q::O::U::T::R::X::W::Z::Y::t0::t3::t4::t2::t5::t1::t6::t7::t8::t9::td::tb::te::tc::ta::tj::tg::th::tf::tm::tk::tl::ti::tq::tp::tr::tn::tt::ts::tv::tu::tz::tx::ty::tw::tA::tC::tD::tB::tF::tE::tI::tG::tH::tK::tJ::tP::tM::tN::tO::tL::vV::(.lit (.bool false))::uu::uu::tQ::[]),hH⟩) (
 yO s k wl 33 Tryz.f33 bR 49 m0 ac bM ⟨(c::e::j::f::o::g::u::v::y::A::z::J::D::E::F::G::B::L::M::N::I::Q::O::U::T::R::X::W::Z::Y::t0::t3::t4::t2::t5::t1::t6::t7::t8::t9::td::tb::te::tc::ta::tj::tg::th::tf::tm::tk::tl::ti::tq::tp::tr::tn::tt::ts::tv::tu::tz::tx::ty::tw::tA::tC::tD::tB::tF::tE::tI::tG::tH::tK::tJ::tP::tM::tN::tO::tL::vV::vV::uu::tR::tQ::[]),hH⟩):=kG
theorem NM:yO s k wl 33 Tryz.f33 bR 50 m0 ac bM ⟨(c::e::j::f::o::g::u::v::y::A::z::J::D::E::F::G::B::L::M::N::I::Q::O::U::T::R::X::W::Z::Y::t0::t3::t4::t2::t5::t1::t6::t7::t8::t9::td::tb::te::tc::ta::tj::tg::th::tf::tm::tk::tl::ti::tq::tp::tr::tn::tt::ts::tv::tu::tz::tx::ty::tw::tA::tC::tD::tB::tF::tE::tI::tG::tH::tK::tJ::tP::tM::tN::tO::tL::tT::tS::tU::tR::tQ::[]),h⟩ =
 bm (aR tS tR (.lit (.bool false))) h fun vj hV=>
 some (vj,hV):=kG
theorem AR (cx:Cx) (s:St):au cx K bM .ret s=K .ret s:=by kernel_rfl
-- names: ai2,Ug,Uv,Uu,SU,T0,Ux,Uh,S1,TN,TT,NM,AR
end
end Go.Ab
