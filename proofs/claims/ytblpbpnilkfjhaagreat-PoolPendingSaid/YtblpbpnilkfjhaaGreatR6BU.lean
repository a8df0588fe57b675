import Derived.Test.YtblpbpnilkfjhaaGreatR6Seat
import Derived.Test.YtblpbpnilkfjhaaGreatAbLibC
set_option linter.unusedVariables false
set_option linter.unusedSimpArgs false
set_option maxRecDepth 100000
set_option linter.unusedVariables false
namespace Go.Ab
open Go.Proofs
section
variable (s:Sys) (k wl:Nat) (m0:Nat) (ac:List Nat×List Nat) (c e j f o g u v y A z J D E F G B L M N I Q O U T R X W Z Y t0 t3 t4 t2 t5 t1 t6 t7 t8 t9 td tb te tc ta tj tg th tf tm tk tl ti tq tp tr tn tt ts tv tu tz tx ty tw tA tC tD tB tF tE tI tG tH tK tJ tP tM tN tO tL tT tS tU tR tQ:V) (h:Hp) (K:Out→St→Option (V×Hp)) (rd:Bool) (n n0:Nat) (zz:List V)
noncomputable def mf:Code:=am (an Tryz.f15) [1,1,0]
noncomputable def kX:List Fr:=[.seq (am (an Tryz.f15) [1,1,1])]
noncomputable def K8:Code:=am (an Tryz.f15) [1,1,1,0,1,0,0]
noncomputable def KC:List Fr:=[.block 0,.seq (am (an Tryz.f15) [1,1,1,1])]
noncomputable def ed:Code:=am (an Tryz.f15) [1,1,1,1,1,0]
noncomputable def dU:List Fr:=[.seq (am (an Tryz.f15) [1,1,1,1,1,1])]
theorem afA:ak (xX s 15 wl k false) Tryz.f15 [] h =
 bm (bc s.P 23 [(0,(.lit (.int .i64 1))),(1,(.lit (.int .i64 1))),(2,(.lit (.int .i64 1)))]) h fun v1 h2=>
 bp (yC s k wl 15 false true (.fn (.func 23) [] []) [v1,.nil,.nil] h2) fun v3 h4=>
 bm (ar v3 0) h4 fun v5 h6=>
 bm (ar v3 1) h6 fun v7 h8=>
 bp (aA s.P 30 h8) fun v9 hE=>
 bs (ai s.P wl 30 v9 v5 hE) fun hN=>
 bm (ab s.P 30 v9 hN) hN fun vk h13=>
 bp (yC s k wl 15 false true (.fn (.func 26) [] []) [vk] h13) fun vl h15=>
 bm (az s.P .eql 3 vl (.lit (.int .i64 0))) h15 fun vW hY=>
 gd vW (
 bm (ab s.P 30 v9 hY) hY fun v18 h19=>
 bp (yC s k wl 15 false true (.fn (.func 25) [] []) [v18] h19) fun v20 h21=>
 bm (vUn .not v20) h21 fun v22 h23=>
 yO s k wl 15 Tryz.f15 mf 7 hN.length ([],[]) kX ⟨((.lit (.bool false))::v9::v7::uu::uu::uu::uu::uu::uu::v3::v1::v3::v5::v7::vk::vl::vW::(.lit (.bool true))::v18::v20::v22::uu::uu::uu::uu::uu::uu::uu::uu::uu::uu::uu::uu::uu::uu::uu::uu::uu::uu::uu::uu::uu::uu::uu::uu::uu::uu::uu::uu::uu::uu::uu::uu::uu::uu::uu::uu::uu::uu::uu::uu::uu::uu::uu::uu::uu::uu::uu::uu::uu::uu::uu::uu::uu::uu::uu::[]),h23⟩) (
 yO s k wl 15 Tryz.f15 mf 7 hN.length ([],[]) kX ⟨((.lit (.bool false))::v9::v7::uu::uu::uu::uu::uu::uu::v3::v1::v3::v5::v7::vk::vl::vW::(.lit (.bool false))::uu::uu::uu::uu::uu::uu::uu::uu::uu::uu::uu::uu::uu::uu::uu::uu::uu::uu::uu::uu::uu::uu::uu::uu::uu::uu::uu::uu::uu::uu::uu::uu::uu::uu::uu::uu::uu::uu::uu::uu::uu::uu::uu::uu::uu::uu::uu::uu::uu::uu::uu::uu::uu::uu::uu::uu::uu::uu::[]),hY⟩) (
 yO s k wl 15 Tryz.f15 mf 5 hN.length ([],[]) kX ⟨((.lit (.bool false))::v9::v7::uu::uu::uu::uu::uu::uu::v3::v1::v3::v5::v7::vk::vl::vW::vW::uu::uu::uu::uu::uu::uu::uu::uu::uu::uu::uu::uu::uu::uu::uu::uu::uu::uu::uu::uu::uu::uu::uu::uu::uu::uu::uu::uu::uu::uu::uu::uu::uu::uu::uu::uu::uu::uu::uu::uu::uu::uu::uu::uu::uu::uu::uu::uu::uu::uu::uu::uu::uu::uu::uu::uu::uu::uu::[]),hY⟩):=kB
theorem af6:evF Tryz.prog xM (k+1) wl 15 [] h=ak (xX (xS k) 15 wl k false) Tryz.f15 [] h:=by kernel_rfl
theorem afD (P:Program):aD P Tryz.f15 .ret ⟨(c::e::j::f::o::g::u::v::y::A::z::J::D::E::F::G::B::L::M::N::I::Q::O::U::T::R::X::W::Z::Y::t0::t3::t4::t2::t5::t1::t6::t7::t8::t9::td::tb::te::tc::ta::tj::tg::th::tf::tm::tk::tl::ti::tq::tp::tr::tn::tt::ts::tv::tu::tz::tx::ty::tw::tA::tC::tD::tB::tF::tE::tI::tG::tH::tK::tJ::[]),h⟩=some (c,h):=by kernel_rfl
theorem Si:yO s k wl 15 Tryz.f15 mf 7 m0 ac kX ⟨(c::e::j::f::o::g::u::v::y::A::z::J::D::E::F::G::B::L::M::N::I::Q::O::U::T::R::zz),h⟩ =
 bm (aT L I (.lit (.bool false))) h fun vX hZ=>
 gd vX (
 bm (ab s.P 30 e hZ) hZ fun v26 h27=>
 bp (yC s k wl 15 false true (.fn (.func 29) [] []) [v26] h27) fun v28 h29=>
 bm (vUn .not v28) h29 fun v30 h31=>
 yO s k wl 15 Tryz.f15 mf 12 m0 ac kX ⟨(c::e::j::f::o::g::u::v::y::A::z::J::D::E::F::G::B::L::M::N::I::vX::(.lit (.bool true))::v26::v28::v30::zz),h31⟩) (
 yO s k wl 15 Tryz.f15 mf 12 m0 ac kX ⟨(c::e::j::f::o::g::u::v::y::A::z::J::D::E::F::G::B::L::M::N::I::vX::(.lit (.bool false))::uu::uu::uu::zz),hZ⟩) (
 yO s k wl 15 Tryz.f15 mf 10 m0 ac kX ⟨(c::e::j::f::o::g::u::v::y::A::z::J::D::E::F::G::B::L::M::N::I::vX::vX::uu::T::R::zz),hZ⟩):=kG
theorem Rz:yO s k wl 15 Tryz.f15 mf 12 m0 ac kX ⟨(c::e::j::f::o::g::u::v::y::A::z::J::D::E::F::G::B::L::M::N::I::Q::O::U::T::R::X::W::Z::Y::zz),h⟩ =
 bm (aT O R (.lit (.bool false))) h fun vY ha=>
 gd vY (
 bm (ab s.P 30 e ha) ha fun v34 hj=>
 bp (yC s k wl 15 false true (.fn (.func 20) [] []) [v34] hj) fun vm hO=>
 yO s k wl 15 Tryz.f15 mf 16 m0 ac kX ⟨(c::e::j::f::o::g::u::v::y::A::z::J::D::E::F::G::B::L::M::N::I::Q::O::U::T::R::vY::(.lit (.bool true))::v34::vm::zz),hO⟩) (
 yO s k wl 15 Tryz.f15 mf 16 m0 ac kX ⟨(c::e::j::f::o::g::u::v::y::A::z::J::D::E::F::G::B::L::M::N::I::Q::O::U::T::R::vY::(.lit (.bool false))::uu::uu::zz),ha⟩) (
 yO s k wl 15 Tryz.f15 mf 15 m0 ac kX ⟨(c::e::j::f::o::g::u::v::y::A::z::J::D::E::F::G::B::L::M::N::I::Q::O::U::T::R::vY::vY::uu::Y::zz),ha⟩):=kG
theorem Rk:yO s k wl 15 Tryz.f15 mf 16 m0 ac kX ⟨(c::e::j::f::o::g::u::v::y::A::z::J::D::E::F::G::B::L::M::N::I::Q::O::U::T::R::X::W::Z::Y::t0::t3::t4::t2::t5::t1::t6::t7::t8::t9::td::tb::te::tc::ta::tj::tg::th::tf::tm::tk::tl::ti::tq::tp::tr::tn::tt::ts::tv::tu::tz::tx::ty::tw::tA::tC::tD::tB::tF::tE::tI::tG::tH::tK::tJ::[]),h⟩ =
 bm (aT W Y (.lit (.bool false))) h fun vZ hB=>
 yI s k wl 15 Tryz.f15 K8 hB.length KC k ⟨((V.kill hB.length c)::(V.kill hB.length e)::(V.kill hB.length j)::(V.kill hB.length vZ)::(.lit (.int .i64 0))::(V.kill hB.length g)::(V.kill hB.length u)::(V.kill hB.length v)::(V.kill hB.length y)::(V.kill hB.length A)::(V.kill hB.length z)::(V.kill hB.length J)::(V.kill hB.length D)::(V.kill hB.length E)::(V.kill hB.length F)::(V.kill hB.length G)::(V.kill hB.length B)::(V.kill hB.length L)::(V.kill hB.length M)::(V.kill hB.length N)::(V.kill hB.length I)::(V.kill hB.length Q)::(V.kill hB.length O)::(V.kill hB.length U)::(V.kill hB.length T)::(V.kill hB.length R)::(V.kill hB.length X)::(V.kill hB.length W)::(V.kill hB.length Z)::(V.kill hB.length Y)::(V.kill hB.length vZ)::.junk::.junk::.junk::.junk::.junk::.junk::.junk::.junk::.junk::.junk::.junk::(V.kill hB.length te)::(V.kill hB.length tc)::(V.kill hB.length ta)::(V.kill hB.length tj)::(V.kill hB.length tg)::(V.kill hB.length th)::(V.kill hB.length tf)::(V.kill hB.length tm)::(V.kill hB.length tk)::(V.kill hB.length tl)::(V.kill hB.length ti)::(V.kill hB.length tq)::(V.kill hB.length tp)::(V.kill hB.length tr)::(V.kill hB.length tn)::(V.kill hB.length tt)::(V.kill hB.length ts)::(V.kill hB.length tv)::(V.kill hB.length tu)::(V.kill hB.length tz)::(V.kill hB.length tx)::(V.kill hB.length ty)::(V.kill hB.length tw)::(V.kill hB.length tA)::(V.kill hB.length tC)::(V.kill hB.length tD)::(V.kill hB.length tB)::(V.kill hB.length tF)::(V.kill hB.length tE)::(V.kill hB.length tI)::(V.kill hB.length tG)::(V.kill hB.length tH)::(V.kill hB.length tK)::(V.kill hB.length tJ)::[]),co hB.length hB⟩:=kG
theorem Sr:itX (xX s 15 wl k rd) K8 n0 K (n+1) ⟨(c::e::j::f::o::g::u::v::y::A::z::J::D::E::F::G::B::L::M::N::I::Q::O::U::T::R::X::W::Z::Y::t0::t3::t4::t2::t5::t1::t6::t7::t8::t9::td::tb::te::tc::ta::tj::tg::th::tf::tm::tk::tl::ti::tq::tp::tr::tn::tt::ts::tv::tu::tz::tx::ty::tw::tA::tC::tD::tB::tF::tE::tI::tG::tH::tK::tJ::[]),h⟩ =
 bm (az s.P .lss 3 o (.lit (.int .i64 20))) h fun vP hP=>
 cnd vP (
 bm (ab s.P 30 e hP) hP fun vn hk=>
 bm (bc s.P 48 []) hk fun vo hl=>
 bp (dW (xX s 15 wl k rd) false true (.fn (.func 24) [] []) [vn,vo] hl) fun va hm=>
 bm (ar va 0) hm fun v48 h49=>
 bm (ar va 1) h49 fun v50 h51=>
 bp (aA s.P 30 h51) fun v52 h53=>
 bs (ai s.P wl 30 v52 v48 h53) fun hb=>
 bm (ab s.P 30 v52 hb) hb fun vQ hc=>
 bs (ai s.P wl 30 e vQ hc) fun h57=>
 bm (az s.P .add 3 o (.lit (.int .i64 1))) h57 fun v58 h59=>
 itX (xX s 15 wl k rd) K8 n0 K n ⟨((V.kill n0 c)::(V.kill n0 e)::(V.kill n0 j)::(V.kill n0 f)::(V.kill n0 v58)::(V.kill n0 v52)::(V.kill n0 v50)::(V.kill n0 v)::(V.kill n0 y)::(V.kill n0 A)::(V.kill n0 z)::(V.kill n0 J)::(V.kill n0 D)::(V.kill n0 E)::(V.kill n0 F)::(V.kill n0 G)::(V.kill n0 B)::(V.kill n0 L)::(V.kill n0 M)::(V.kill n0 N)::(V.kill n0 I)::(V.kill n0 Q)::(V.kill n0 O)::(V.kill n0 U)::(V.kill n0 T)::(V.kill n0 R)::(V.kill n0 X)::(V.kill n0 W)::(V.kill n0 Z)::(V.kill n0 Y)::(V.kill n0 t0)::.junk::.junk::.junk::.junk::.junk::.junk::.junk::.junk::.junk::.junk::.junk::(V.kill n0 te)::(V.kill n0 tc)::(V.kill n0 ta)::(V.kill n0 tj)::(V.kill n0 tg)::(V.kill n0 th)::(V.kill n0 tf)::(V.kill n0 tm)::(V.kill n0 tk)::(V.kill n0 tl)::(V.kill n0 ti)::(V.kill n0 tq)::(V.kill n0 tp)::(V.kill n0 tr)::(V.kill n0 tn)::(V.kill n0 tt)::(V.kill n0 ts)::(V.kill n0 tv)::(V.kill n0 tu)::(V.kill n0 tz)::(V.kill n0 tx)::(V.kill n0 ty)::(V.kill n0 tw)::(V.kill n0 tA)::(V.kill n0 tC)::(V.kill n0 tD)::(V.kill n0 tB)::(V.kill n0 tF)::(V.kill n0 tE)::(V.kill n0 tI)::(V.kill n0 tG)::(V.kill n0 tH)::(V.kill n0 tK)::(V.kill n0 tJ)::[]),co n0 h59⟩) (
 K (.exit 0) ⟨((V.kill n0 c)::(V.kill n0 e)::(V.kill n0 j)::(V.kill n0 f)::(V.kill n0 o)::(V.kill n0 g)::(V.kill n0 u)::(V.kill n0 v)::(V.kill n0 y)::(V.kill n0 A)::(V.kill n0 z)::(V.kill n0 J)::(V.kill n0 D)::(V.kill n0 E)::(V.kill n0 F)::(V.kill n0 G)::(V.kill n0 B)::(V.kill n0 L)::(V.kill n0 M)::(V.kill n0 N)::(V.kill n0 I)::(V.kill n0 Q)::(V.kill n0 O)::(V.kill n0 U)::(V.kill n0 T)::(V.kill n0 R)::(V.kill n0 X)::(V.kill n0 W)::(V.kill n0 Z)::(V.kill n0 Y)::(V.kill n0 t0)::.junk::.junk::.junk::.junk::.junk::.junk::.junk::.junk::.junk::.junk::.junk::(V.kill n0 te)::(V.kill n0 tc)::(V.kill n0 ta)::(V.kill n0 tj)::(V.kill n0 tg)::(V.kill n0 th)::(V.kill n0 tf)::(V.kill n0 tm)::(V.kill n0 tk)::(V.kill n0 tl)::(V.kill n0 ti)::(V.kill n0 tq)::(V.kill n0 tp)::(V.kill n0 tr)::(V.kill n0 tn)::(V.kill n0 tt)::(V.kill n0 ts)::(V.kill n0 tv)::(V.kill n0 tu)::(V.kill n0 tz)::(V.kill n0 tx)::(V.kill n0 ty)::(V.kill n0 tw)::(V.kill n0 tA)::(V.kill n0 tC)::(V.kill n0 tD)::(V.kill n0 tB)::(V.kill n0 tF)::(V.kill n0 tE)::(V.kill n0 tI)::(V.kill n0 tG)::(V.kill n0 tH)::(V.kill n0 tK)::(V.kill n0 tJ)::[]),co n0 hP⟩):=kI
theorem Rf:av (xX s 15 wl k false) (aD s.P Tryz.f15) KC (.exit 0) ⟨(c::e::j::f::o::g::u::v::y::A::z::J::D::E::F::G::B::L::M::N::I::Q::O::U::T::R::X::W::Z::Y::t0::t3::t4::t2::t5::t1::t6::t7::t8::t9::td::tb::te::tc::ta::tj::tg::th::tf::tm::tk::tl::ti::zz),h⟩ =
 bm (ab s.P 30 e h) h fun vp h61=>
 bm (bc s.P 48 []) h61 fun vq h63=>
 bm (bc s.P 48 [(0,(.lit (.int .i64 2)))]) h63 fun vr h65=>
 bp (aK s.P wl 31 2 [(0,vq),(1,vr)] h65) fun vs h67=>
 bp (yC s k wl 15 false true (.fn (.func 17) [] []) [vp,vs] h67) fun vH h69=>
 bm (ar vH 0) h69 fun vt h71=>
 bm (ar vH 1) h71 fun vR h73=>
 bp (aA s.P 30 h73) fun vu h75=>
 bs (ai s.P wl 30 vu vt h75) fun hD=>
 gd j (
 yO s k wl 15 Tryz.f15 ed 3 hD.length ([],[]) dU ⟨(c::e::j::f::o::g::u::vu::vR::A::z::J::D::E::F::G::B::L::M::N::I::Q::O::U::T::R::X::W::Z::Y::t0::t3::t4::t2::t5::t1::t6::t7::t8::t9::td::tb::vH::vp::vq::vr::vs::vH::vt::vR::j::(.lit (.bool true))::f::zz),hD⟩) (
 yO s k wl 15 Tryz.f15 ed 3 hD.length ([],[]) dU ⟨(c::e::j::f::o::g::u::vu::vR::A::z::J::D::E::F::G::B::L::M::N::I::Q::O::U::T::R::X::W::Z::Y::t0::t3::t4::t2::t5::t1::t6::t7::t8::t9::td::tb::vH::vp::vq::vr::vs::vH::vt::vR::j::(.lit (.bool false))::uu::zz),hD⟩) (
 yO s k wl 15 Tryz.f15 ed 3 hD.length ([],[]) dU ⟨(c::e::j::f::o::g::u::vu::vR::A::z::J::D::E::F::G::B::L::M::N::I::Q::O::U::T::R::X::W::Z::Y::t0::t3::t4::t2::t5::t1::t6::t7::t8::t9::td::tb::vH::vp::vq::vr::vs::vH::vt::vR::j::j::uu::zz),hD⟩):=kR
theorem RS:yO s k wl 15 Tryz.f15 ed 3 m0 ac dU ⟨(c::e::j::f::o::g::u::v::y::A::z::J::D::E::F::G::B::L::M::N::I::Q::O::U::T::R::X::W::Z::Y::t0::t3::t4::t2::t5::t1::t6::t7::t8::t9::td::tb::te::tc::ta::tj::tg::th::tf::tm::tk::tl::ti::tq::tp::tr::tn::zz),h⟩ =
 bm (aT tl ti (.lit (.bool false))) h fun vA hI=>
 gd vA (
 bm (ab s.P 30 e hI) hI fun vM hF=>
 bp (yC s k wl 15 false true (.fn (.func 29) [] []) [vM] hF) fun vS hd=>
 yO s k wl 15 Tryz.f15 ed 7 m0 ac dU ⟨(c::e::j::f::o::g::u::v::y::A::z::J::D::E::F::G::B::L::M::N::I::Q::O::U::T::R::X::W::Z::Y::t0::t3::t4::t2::t5::t1::t6::t7::t8::t9::td::tb::te::tc::ta::tj::tg::th::tf::tm::tk::tl::ti::vA::(.lit (.bool true))::vM::vS::zz),hd⟩) (
 yO s k wl 15 Tryz.f15 ed 7 m0 ac dU ⟨(c::e::j::f::o::g::u::v::y::A::z::J::D::E::F::G::B::L::M::N::I::Q::O::U::T::R::X::W::Z::Y::t0::t3::t4::t2::t5::t1::t6::t7::t8::t9::td::tb::te::tc::ta::tj::tg::th::tf::tm::tk::tl::ti::vA::(.lit (.bool false))::uu::uu::zz),hI⟩) (
 yO s k wl 15 Tryz.f15 ed 6 m0 ac dU ⟨(c::e::j::f::o::g::u::v::y::A::z::J::D::E::F::G::B::L::M::N::I::Q::O::U::T::R::X::W::Z::Y::t0::t3::t4::t2::t5::t1::t6::t7::t8::t9::td::tb::te::tc::ta::tj::tg::th::tf::tm::tk::tl::ti::vA::vA::uu::tn::zz),hI⟩):=kG
theorem Sc:yO s k wl 15 Tryz.f15 ed 7 m0 ac dU ⟨(c::e::j::f::o::g::u::v::y::A::z::J::D::E::F::G::B::L::M::N::I::Q::O::U::T::R::X::W::Z::Y::t0::t3::t4::t2::t5::t1::t6::t7::t8::t9::td::tb::te::tc::ta::tj::tg::th::tf::tm::tk::tl::ti::tq::tp::tr::tn::tt::ts::tv::tu::zz),h⟩ =
 bm (aT tp tn (.lit (.bool false))) h fun vB hG=>
 gd vB (
 bm (ab s.P 30 e hG) hG fun vN hn=>
 bp (yC s k wl 15 false true (.fn (.func 25) [] []) [vN] hn) fun vT he=>
 yO s k wl 15 Tryz.f15 ed 11 m0 ac dU ⟨(c::e::j::f::o::g::u::v::y::A::z::J::D::E::F::G::B::L::M::N::I::Q::O::U::T::R::X::W::Z::Y::t0::t3::t4::t2::t5::t1::t6::t7::t8::t9::td::tb::te::tc::ta::tj::tg::th::tf::tm::tk::tl::ti::tq::tp::tr::tn::vB::(.lit (.bool true))::vN::vT::zz),he⟩) (
 yO s k wl 15 Tryz.f15 ed 11 m0 ac dU ⟨(c::e::j::f::o::g::u::v::y::A::z::J::D::E::F::G::B::L::M::N::I::Q::O::U::T::R::X::W::Z::Y::t0::t3::t4::t2::t5::t1::t6::t7::t8::t9::td::tb::te::tc::ta::tj::tg::th::tf::tm::tk::tl::ti::tq::tp::tr::tn::vB::(.lit (.bool false))::uu::uu::zz),hG⟩) (
 yO s k wl 15 Tryz.f15 ed 10 m0 ac dU ⟨(c::e::j::f::o::g::u::v::y::A::z::J::D::E::F::G::B::L::M::N::I::Q::O::U::T::R::X::W::Z::Y::t0::t3::t4::t2::t5::t1::t6::t7::t8::t9::td::tb::te::tc::ta::tj::tg::th::tf::tm::tk::tl::ti::tq::tp::tr::tn::vB::vB::uu::tu::zz),hG⟩):=kG
theorem RF:yO s k wl 15 Tryz.f15 ed 11 m0 ac dU ⟨(c::e::j::f::o::g::u::v::y::A::z::J::D::E::F::G::B::L::M::N::I::Q::O::U::T::R::X::W::Z::Y::t0::t3::t4::t2::t5::t1::t6::t7::t8::t9::td::tb::te::tc::ta::tj::tg::th::tf::tm::tk::tl::ti::tq::tp::tr::tn::tt::ts::tv::tu::tz::tx::ty::tw::tA::zz),h⟩ =
 bm (aT ts tu (.lit (.bool false))) h fun vC hQ=>
 gd vC (
 bp (bw s.P 34 y hQ) fun vI hR=>
 bm (az s.P .eql 3 vI (.lit (.int .i64 0))) hR fun vv hf=>
 yO s k wl 15 Tryz.f15 ed 16 m0 ac dU ⟨(c::e::j::f::o::g::u::v::y::A::z::J::D::E::F::G::B::L::M::N::I::Q::O::U::T::R::X::W::Z::Y::t0::t3::t4::t2::t5::t1::t6::t7::t8::t9::td::tb::te::tc::ta::tj::tg::th::tf::tm::tk::tl::ti::tq::tp::tr::tn::tt::ts::tv::tu::vC::(.lit (.bool true))::y::vI::vv::zz),hf⟩) (
 yO s k wl 15 Tryz.f15 ed 16 m0 ac dU ⟨(c::e::j::f::o::g::u::v::y::A::z::J::D::E::F::G::B::L::M::N::I::Q::O::U::T::R::X::W::Z::Y::t0::t3::t4::t2::t5::t1::t6::t7::t8::t9::td::tb::te::tc::ta::tj::tg::th::tf::tm::tk::tl::ti::tq::tp::tr::tn::tt::ts::tv::tu::vC::(.lit (.bool false))::uu::uu::uu::zz),hQ⟩) (
 yO s k wl 15 Tryz.f15 ed 14 m0 ac dU ⟨(c::e::j::f::o::g::u::v::y::A::z::J::D::E::F::G::B::L::M::N::I::Q::O::U::T::R::X::W::Z::Y::t0::t3::t4::t2::t5::t1::t6::t7::t8::t9::td::tb::te::tc::ta::tj::tg::th::tf::tm::tk::tl::ti::tq::tp::tr::tn::tt::ts::tv::tu::vC::vC::uu::tw::tA::zz),hQ⟩):=kG
theorem RL:yO s k wl 15 Tryz.f15 ed 16 m0 ac dU ⟨(c::e::j::f::o::g::u::v::y::A::z::J::D::E::F::G::B::L::M::N::I::Q::O::U::T::R::X::W::Z::Y::t0::t3::t4::t2::t5::t1::t6::t7::t8::t9::td::tb::te::tc::ta::tj::tg::th::tf::tm::tk::tl::ti::tq::tp::tr::tn::tt::ts::tv::tu::tz::tx::ty::tw::tA::tC::tD::tB::tF::tE::zz),h⟩ =
 bm (aT tx tA (.lit (.bool false))) h fun vJ hH=>
 gd vJ (
 bm (ab s.P 30 e hH) hH fun vb hg=>
 bm (ab s.P 30 e hg) hg fun vc hL=>
 bp (yC s k wl 15 false true (.fn (.func 19) [] []) [vb,vc] hL) fun vU hU=>
 yO s k wl 15 Tryz.f15 ed 21 m0 ac dU ⟨(c::e::j::f::o::g::u::v::y::A::z::J::D::E::F::G::B::L::M::N::I::Q::O::U::T::R::X::W::Z::Y::t0::t3::t4::t2::t5::t1::t6::t7::t8::t9::td::tb::te::tc::ta::tj::tg::th::tf::tm::tk::tl::ti::tq::tp::tr::tn::tt::ts::tv::tu::tz::tx::ty::tw::tA::vJ::(.lit (.bool true))::vb::vc::vU::zz),hU⟩) (
 yO s k wl 15 Tryz.f15 ed 21 m0 ac dU ⟨(c::e::j::f::o::g::u::v::y::A::z::J::D::E::F::G::B::L::M::N::I::Q::O::U::T::R::X::W::Z::Y::t0::t3::t4::t2::t5::t1::t6::t7::t8::t9::td::tb::te::tc::ta::tj::tg::th::tf::tm::tk::tl::ti::tq::tp::tr::tn::tt::ts::tv::tu::tz::tx::ty::tw::tA::vJ::(.lit (.bool false))::uu::uu::uu::zz),hH⟩) (
 yO s k wl 15 Tryz.f15 ed 19 m0 ac dU ⟨(c::e::j::f::o::g::u::v::y::A::z::J::D::E::F::G::B::L::M::N::I::Q::O::U::T::R::X::W::Z::Y::t0::t3::t4::t2::t5::t1::t6::t7::t8::t9::td::tb::te::tc::ta::tj::tg::th::tf::tm::tk::tl::ti::tq::tp::tr::tn::tt::ts::tv::tu::tz::tx::ty::tw::tA::vJ::vJ::uu::tF::tE::zz),hH⟩):=kG
theorem Sy:yO s k wl 15 Tryz.f15 ed 21 m0 ac dU ⟨(c::e::j::f::o::g::u::v::y::A::z::J::D::E::F::G::B::L::M::N::I::Q::O::U::T::R::X::W::Z::Y::t0::t3::t4::t2::t5::t1::t6::t7::t8::t9::td::tb::te::tc::ta::tj::tg::th::tf::tm::tk::tl::ti::tq::tp::tr::tn::tt::ts::tv::tu::tz::tx::ty::tw::tA::tC::tD::tB::tF::tE::tI::tG::tH::tK::tJ::[]),h⟩ =
 bm (aT tD tE (.lit (.bool false))) h fun vD hC=>
 gd vD (
 bm (ab s.P 30 v hC) hC fun vE hM=>
 bp (yC s k wl 15 false true (.fn (.func 20) [] []) [vE] hM) fun vF hV=>
 yO s k wl 15 Tryz.f15 ed 25 m0 ac dU ⟨(c::e::j::f::o::g::u::v::y::A::z::J::D::E::F::G::B::L::M::N::I::Q::O::U::T::R::X::W::Z::Y::t0::t3::t4::t2::t5::t1::t6::t7::t8::t9::td::tb::te::tc::ta::tj::tg::th::tf::tm::tk::tl::ti::tq::tp::tr::tn::tt::ts::tv::tu::tz::tx::ty::tw::tA::tC::tD::tB::tF::tE::vD::(.lit (.bool true))::vE::vF::tJ::[]),hV⟩) (
 yO s k wl 15 Tryz.f15 ed 25 m0 ac dU ⟨(c::e::j::f::o::g::u::v::y::A::z::J::D::E::F::G::B::L::M::N::I::Q::O::U::T::R::X::W::Z::Y::t0::t3::t4::t2::t5::t1::t6::t7::t8::t9::td::tb::te::tc::ta::tj::tg::th::tf::tm::tk::tl::ti::tq::tp::tr::tn::tt::ts::tv::tu::tz::tx::ty::tw::tA::tC::tD::tB::tF::tE::vD::(.lit (.bool false))::uu::uu::tJ::[]),hC⟩) (
 yO s k wl 15 Tryz.f15 ed 24 m0 ac dU ⟨(c::e::j::f::o::g::u::v::y::A::z::J::D::E::F::G::B::L::M::N::I::Q::O::U::T::R::X::W::Z::Y::t0::t3::t4::t2::t5::t1::t6::t7::t8::t9::td::tb::te::tc::ta::tj::tg::th::tf::tm::tk::tl::ti::tq::tp::tr::tn::tt::ts::tv::tu::tz::tx::ty::tw::tA::tC::tD::tB::tF::tE::vD::vD::uu::tK::tJ::[]),hC⟩):=kG
theorem Rh:yO s k wl 15 Tryz.f15 ed 25 m0 ac dU ⟨(c::e::j::f::o::g::u::v::y::A::z::J::D::E::F::G::B::L::M::N::I::Q::O::U::T::R::X::W::Z::Y::t0::t3::t4::t2::t5::t1::t6::t7::t8::t9::td::tb::te::tc::ta::tj::tg::th::tf::tm::tk::tl::ti::tq::tp::tr::tn::tt::ts::tv::tu::tz::tx::ty::tw::tA::tC::tD::tB::tF::tE::tI::tG::tH::tK::tJ::[]),h⟩ =
 bm (aT tG tK (.lit (.bool false))) h fun vG hW=>
 some (vG,hW):=kG
theorem AG (cx:Cx) (s:St):av cx K kX .ret s=K .ret s:=by kernel_rfl
theorem AM (cx:Cx) (s:St):av cx K KC .ret s=K .ret s:=by kernel_rfl
theorem Bf (cx:Cx) (s:St):av cx K dU .ret s=K .ret s:=by kernel_rfl
-- names: afA,afD,Si,Rz,Rk,Sr,Rf,RS,Sc,RF,RL,Sy,Rh,AG,AM,Bf
noncomputable def rz:Code:=am (an Tryz.f22) [1,0,1,0,0]
noncomputable def H5:List Fr:=[.block 0,.seq (am (an Tryz.f22) [1,1])]
noncomputable def HG:Code:=am (an Tryz.f22) [1,0,1,0,0,0,0]
noncomputable def DF:List Fr:=[.seq (am (an Tryz.f22) [1,0,1,0,0,0,1]),.seq (am (an Tryz.f22) [1,0,1,0,0,1])]
theorem aes:ak (xX s 22 wl k false) Tryz.f22 [c] h =
 yI s k wl 22 Tryz.f22 rz h.length H5 k ⟨[(V.kill h.length c),(V.kill h.length uu),(.lit (.bool false)),(.lit (.int .i64 0)),.junk,.junk,.junk,.junk,.junk,.junk,.junk,.junk,.junk,.junk,.junk,.junk,.junk,.junk,.junk,.junk,(V.kill h.length uu),(V.kill h.length uu),(V.kill h.length uu)],co h.length h⟩:=kB
theorem afz:evF Tryz.prog xM (k+1) wl 22 [c] h=ak (xX (xS k) 22 wl k false) Tryz.f22 [c] h:=by kernel_rfl
theorem abU (P:Program):aD P Tryz.f22 .ret ⟨[c,e,j,f,o,g,u,v,y,A,z,J,D,E,F,G,B,L,M,N,I,Q,O],h⟩=some (j,h):=by kernel_rfl
theorem RB:itX (xX s 22 wl k rd) rz n0 K (n+1) ⟨(c::e::j::f::o::g::u::v::y::A::z::zz),h⟩ =
 bp (bw s.P 40 c h) fun v1 h2=>
 bm (az s.P .lss 3 f v1) h2 fun v3 h4=>
 gd v3 (
 bm (az s.P .leq 3 f (.lit (.int .i64 10))) h4 fun v5 h6=>
 fV (xX s 22 wl k rd) HG 7 h.length ([],[]) (av (xX s 22 wl k rd) (dc (xX s 22 wl k rd) rz n0 K n) DF) ⟨(c::e::j::f::f::c::v1::v3::(.lit (.bool true))::f::v5::zz),h6⟩) (
 fV (xX s 22 wl k rd) HG 7 h.length ([],[]) (av (xX s 22 wl k rd) (dc (xX s 22 wl k rd) rz n0 K n) DF) ⟨(c::e::j::f::f::c::v1::v3::(.lit (.bool false))::uu::uu::zz),h4⟩) (
 fV (xX s 22 wl k rd) HG 6 h.length ([],[]) (av (xX s 22 wl k rd) (dc (xX s 22 wl k rd) rz n0 K n) DF) ⟨(c::e::j::f::f::c::v1::v3::v3::uu::z::zz),h4⟩):=kI
theorem Lt:av (xX s 22 wl k false) (aD s.P Tryz.f22) H5 (.exit 0) ⟨[c,e,j,f,o,g,u,v,y,A,z,J,D,E,F,G,B,L,M,N,I,Q,O],h⟩ =
 bp (bw s.P 40 c h) fun v7 h8=>
 bm (az s.P .leq 3 v7 (.lit (.int .i64 10))) h8 fun v9 hE=>
 some (v9,hE):=kR
theorem Kz:fV (xX s 22 wl k rd) HG 7 m0 ac (av (xX s 22 wl k rd) (dc (xX s 22 wl k rd) rz n0 K n) DF) ⟨[c,e,j,f,o,g,u,v,y,A,z,J,D,E,F,G,B,L,M,N,I,Q,O],h⟩ =
 bm (aT y z (.lit (.bool false))) h fun vw hS=>
 cnd vw (
 bm (al s.P 40 c f hS) hS fun vK hJ=>
 bm (ab s.P 53 vK hJ) hJ fun vx ho=>
 bp (bw s.P 53 vx ho) fun vL hT=>
 bm (az s.P .gtr 3 vL (.lit (.int .i64 60))) hT fun vd hh=>
 cnd vd (
 K .ret ⟨[c,e,(.lit (.bool false)),f,o,g,u,v,y,A,z,vw,D,E,c,f,vK,vx,vL,vd,I,Q,O],hh⟩) (
 bm (az s.P .add 3 f (.lit (.int .i64 1))) hh fun v21 hp=>
 itX (xX s 22 wl k rd) rz n0 K n ⟨[(V.kill n0 c),(V.kill n0 e),(V.kill n0 j),(V.kill n0 v21),.junk,.junk,.junk,.junk,.junk,.junk,.junk,.junk,.junk,.junk,.junk,.junk,.junk,.junk,.junk,.junk,(V.kill n0 I),(V.kill n0 Q),(V.kill n0 O)],co n0 hp⟩)) (
 K (.exit 0) ⟨[(V.kill n0 c),(V.kill n0 e),(V.kill n0 j),(V.kill n0 f),.junk,.junk,.junk,.junk,.junk,.junk,.junk,.junk,.junk,.junk,.junk,.junk,.junk,.junk,.junk,.junk,(V.kill n0 I),(V.kill n0 Q),(V.kill n0 O)],co n0 hS⟩):=kG
theorem pq (cx:Cx) (s:St):av cx K H5 .ret s=K .ret s:=by kernel_rfl
theorem pA (cx:Cx) (s:St):av cx K DF .ret s=K .ret s:=by kernel_rfl
-- names: aes,abU,RB,Lt,Kz,pq,pA
end
end Go.Ab
set_option maxRecDepth 100000
set_option linter.unusedVariables false
namespace Go.Ab
open Go.Proofs
section
variable (s:Sys) (k wl:Nat) (m0:Nat) (ac:List Nat×List Nat) (g a b d v B D E x y F u R T r e o f j G I J L M N O z Q A X W Y U t2 t0 t3 t1 Z t5 t4 t6 t7 t8 t9 ta tb tc td te tf tg th ti tj tk tx ty tz tA tl tm tB tC tD tE tF tG tr tH ts tt tu tv tn tw tp tq tK tL tM tN tO tP tI tJ q4 q5 q6 q7 q8 tQ tR q9 qa qb qc qd qe qf tW qg tX tY tZ q0 q1 tS q2 tT tU qi qj qk ql qm qn qh qo q3 tV:V) (h:Hp) (K:Out→St→Option (V×Hp)) (rd:Bool) (n n0:Nat) (zz:List V)
noncomputable def rV:Code:=am (an Tryz.f5) [1,1,1,1,0,0]
noncomputable def ri:List Fr:=[.seq (am (an Tryz.f5) [1,1,1,1,0,1]),.seq (am (an Tryz.f5) [1,1,1,1,1])]
noncomputable def o7:Code:=am (an Tryz.f5) [1,1,1,1,1,1,1,1,1,0,1,0,0]
noncomputable def OL:List Fr:=[.block 0,.seq (am (an Tryz.f5) [1,1,1,1,1,1,1,1,1,1])]
noncomputable def Ps:Code:=am (an Tryz.f5) [1,1,1,1,1,1,1,1,1,0,1,0,0,1,0,0,0,0]
noncomputable def K1:List Fr:=[.seq (am (an Tryz.f5) [1,1,1,1,1,1,1,1,1,0,1,0,0,1,0,0,0,1]),.seq (am (an Tryz.f5) [1,1,1,1,1,1,1,1,1,0,1,0,0,1,0,0,1]),.block 1,.seq (am (an Tryz.f5) [1,1,1,1,1,1,1,1,1,0,1,0,0,1,1])]
noncomputable def uk:Code:=am (an Tryz.f5) [1,1,1,1,1,1,1,1,1,1,0,1,0,0]
noncomputable def Og:List Fr:=[.block 2,.seq (am (an Tryz.f5) [1,1,1,1,1,1,1,1,1,1,1])]
noncomputable def PI:List Fr:=[.seq (am (an Tryz.f5) [1,1,1,1,1,1,1,1,1,0,1,0,0,1,0,0,1]),.block 1,.seq (am (an Tryz.f5) [1,1,1,1,1,1,1,1,1,0,1,0,0,1,1])]
noncomputable def N4:Code:=am (an Tryz.f5) [1,1,1,1,1,1,1,1,1,1,0,1,0,0,1,0,0,0]
noncomputable def K7:List Fr:=[.seq (am (an Tryz.f5) [1,1,1,1,1,1,1,1,1,1,0,1,0,0,1,0,0,1]),.block 3,.seq (am (an Tryz.f5) [1,1,1,1,1,1,1,1,1,1,0,1,0,0,1,1])]
noncomputable def QD:Code:=am (an Tryz.f5) [1,1,1,1,1,1,1,1,1,1,1,0]
noncomputable def Lz:List Fr:=[.seq (am (an Tryz.f5) [1,1,1,1,1,1,1,1,1,1,1,1])]
noncomputable def Qj:List Fr:=[.block 1,.seq (am (an Tryz.f5) [1,1,1,1,1,1,1,1,1,0,1,0,0,1,1])]
noncomputable def Ow:List Fr:=[.block 3,.seq (am (an Tryz.f5) [1,1,1,1,1,1,1,1,1,1,0,1,0,0,1,1])]
theorem xb5:ak (xX s 5 wl k false) Tryz.f5 [g,a,b,d] h =
 bp (aU g h) fun v1 h2=>
 bp (yC s k wl 5 false true (.fn (.func 15) [] []) [] h2) fun v3 h4=>
 bp (yC s k wl 5 false true (.fn (.func 21) [] []) [a] h4) fun v5 h6=>
 bp (yC s k wl 5 false true (.fn (.func 22) [] []) [b] h6) fun v7 h8=>
 bm (vUn .not v3) h8 fun v9 hE=>
 gd v9 (
 yO s k wl 5 Tryz.f5 rV 5 h8.length ([],[]) ri ⟨(g::a::b::d::v1::uu::uu::uu::(.lit (.bool false))::v3::v5::v7::uu::uu::uu::uu::uu::uu::uu::v3::a::v5::b::v7::v3::v9::(.lit (.bool true))::uu::uu::uu::uu::uu::uu::uu::uu::uu::uu::uu::uu::uu::uu::uu::uu::uu::uu::uu::uu::uu::uu::uu::uu::uu::uu::uu::uu::uu::uu::uu::uu::uu::uu::uu::uu::uu::uu::uu::uu::uu::uu::uu::uu::uu::uu::uu::uu::uu::uu::uu::uu::uu::uu::uu::uu::uu::uu::uu::uu::uu::uu::uu::uu::uu::uu::uu::uu::uu::uu::uu::uu::uu::uu::uu::uu::uu::uu::uu::uu::uu::uu::uu::uu::uu::uu::uu::uu::uu::uu::uu::uu::uu::[]),hE⟩) (
 bm (vUn .not v5) hE fun vw hS=>
 yO s k wl 5 Tryz.f5 rV 5 h8.length ([],[]) ri ⟨(g::a::b::d::v1::uu::uu::uu::(.lit (.bool false))::v3::v5::v7::uu::uu::uu::uu::uu::uu::uu::v3::a::v5::b::v7::v3::v9::(.lit (.bool false))::v5::vw::uu::uu::uu::uu::uu::uu::uu::uu::uu::uu::uu::uu::uu::uu::uu::uu::uu::uu::uu::uu::uu::uu::uu::uu::uu::uu::uu::uu::uu::uu::uu::uu::uu::uu::uu::uu::uu::uu::uu::uu::uu::uu::uu::uu::uu::uu::uu::uu::uu::uu::uu::uu::uu::uu::uu::uu::uu::uu::uu::uu::uu::uu::uu::uu::uu::uu::uu::uu::uu::uu::uu::uu::uu::uu::uu::uu::uu::uu::uu::uu::uu::uu::uu::uu::uu::uu::uu::uu::uu::uu::uu::[]),hS⟩) (
 yO s k wl 5 Tryz.f5 rV 4 h8.length ([],[]) ri ⟨(g::a::b::d::v1::uu::uu::uu::(.lit (.bool false))::v3::v5::v7::uu::uu::uu::uu::uu::uu::uu::v3::a::v5::b::v7::v3::v9::v9::uu::uu::uu::uu::uu::uu::uu::uu::uu::uu::uu::uu::uu::uu::uu::uu::uu::uu::uu::uu::uu::uu::uu::uu::uu::uu::uu::uu::uu::uu::uu::uu::uu::uu::uu::uu::uu::uu::uu::uu::uu::uu::uu::uu::uu::uu::uu::uu::uu::uu::uu::uu::uu::uu::uu::uu::uu::uu::uu::uu::uu::uu::uu::uu::uu::uu::uu::uu::uu::uu::uu::uu::uu::uu::uu::uu::uu::uu::uu::uu::uu::uu::uu::uu::uu::uu::uu::uu::uu::uu::uu::uu::uu::[]),hE⟩):=kB
theorem xe5:evF Tryz.prog xM (k+1) wl 5 [g,a,b,d] h=ak (xX (xS k) 5 wl k false) Tryz.f5 [g,a,b,d] h:=by kernel_rfl
theorem xz5 (P:Program):aD P Tryz.f5 .ret ⟨(g::a::b::d::v::B::D::E::x::y::F::u::R::T::r::e::o::f::j::G::I::J::L::M::N::O::z::Q::A::X::W::Y::U::t2::t0::t3::t1::Z::t5::t4::t6::t7::t8::t9::ta::tb::tc::td::te::tf::tg::th::ti::tj::tk::tx::ty::tz::tA::tl::tm::tB::tC::tD::tE::tF::tG::tr::tH::ts::tt::tu::tv::tn::tw::tp::tq::tK::tL::tM::tN::tO::tP::tI::tJ::q4::q5::q6::q7::q8::tQ::tR::q9::qa::qb::qc::qd::qe::qf::tW::qg::tX::tY::tZ::q0::q1::tS::q2::tT::tU::qi::qj::qk::ql::qm::qn::qh::qo::q3::tV::[]),h⟩=some (x,h):=by kernel_rfl
theorem Qm:yO s k wl 5 Tryz.f5 rV 5 m0 ac ri ⟨(g::a::b::d::v::B::D::E::x::y::F::u::R::T::r::e::o::f::j::G::I::J::L::M::N::O::z::Q::A::X::W::Y::U::zz),h⟩ =
 bm (aT z (.lit (.bool true)) A) h fun vK hJ=>
 gd vK (
 yO s k wl 5 Tryz.f5 rV 9 m0 ac ri ⟨(g::a::b::d::v::B::D::E::x::y::F::u::R::T::r::e::o::f::j::G::I::J::L::M::N::O::z::Q::A::vK::(.lit (.bool true))::uu::uu::zz),hJ⟩) (
 bm (vUn .not u) hJ fun vx ho=>
 yO s k wl 5 Tryz.f5 rV 9 m0 ac ri ⟨(g::a::b::d::v::B::D::E::x::y::F::u::R::T::r::e::o::f::j::G::I::J::L::M::N::O::z::Q::A::vK::(.lit (.bool false))::u::vx::zz),ho⟩) (
 yO s k wl 5 Tryz.f5 rV 8 m0 ac ri ⟨(g::a::b::d::v::B::D::E::x::y::F::u::R::T::r::e::o::f::j::G::I::J::L::M::N::O::z::Q::A::vK::vK::uu::U::zz),hJ⟩):=kG
theorem OY:yO s k wl 5 Tryz.f5 rV 9 m0 ac ri ⟨(g::a::b::d::v::B::D::E::x::y::F::u::R::T::r::e::o::f::j::G::I::J::L::M::N::O::z::Q::A::X::W::Y::U::t2::t0::t3::t1::Z::zz),h⟩ =
 bm (aT W (.lit (.bool true)) U) h fun vL hT=>
 gd vL (
 yO s k wl 5 Tryz.f5 rV 14 m0 ac ri ⟨(g::a::b::d::v::B::D::E::x::y::F::u::R::T::r::e::o::f::j::G::I::J::L::M::N::O::z::Q::A::X::W::Y::U::vL::(.lit (.bool true))::uu::uu::uu::zz),hT⟩) (
 bp (bw s.P 31 d hT) fun vd hh=>
 bm (az s.P .gtr 3 vd (.lit (.int .i64 500))) hh fun v21 hp=>
 yO s k wl 5 Tryz.f5 rV 14 m0 ac ri ⟨(g::a::b::d::v::B::D::E::x::y::F::u::R::T::r::e::o::f::j::G::I::J::L::M::N::O::z::Q::A::X::W::Y::U::vL::(.lit (.bool false))::d::vd::v21::zz),hp⟩) (
 yO s k wl 5 Tryz.f5 rV 12 m0 ac ri ⟨(g::a::b::d::v::B::D::E::x::y::F::u::R::T::r::e::o::f::j::G::I::J::L::M::N::O::z::Q::A::X::W::Y::U::vL::vL::uu::t1::Z::zz),hT⟩):=kG
theorem Pe:yO s k wl 5 Tryz.f5 rV 14 m0 ac ri ⟨(g::a::b::d::v::B::D::E::x::y::F::u::R::T::r::e::o::f::j::G::I::J::L::M::N::O::z::Q::A::X::W::Y::U::t2::t0::t3::t1::Z::t5::t4::t6::t7::t8::t9::ta::tb::tc::td::te::tf::tg::th::ti::tj::tk::tx::ty::tz::tA::tl::tm::tB::tC::tD::tE::tF::tG::tr::tH::ts::tt::tu::tv::tn::tw::tp::tq::tK::tL::tM::tN::tO::tP::tI::tJ::q4::q5::q6::q7::q8::tQ::tR::q9::qa::qb::qc::qd::qe::qf::tW::qg::tX::tY::tZ::q0::q1::tS::q2::tT::tU::qi::qj::qk::ql::qm::qn::qh::qo::q3::tV::[]),h⟩ =
 bm (aT t0 (.lit (.bool true)) Z) h fun v23 hq=>
 cnd v23 (
 some (y,hq)) (
 bm (ab s.P 23 v hq) hq fun v25 h26=>
 bp (yC s k wl 5 false true (.fn (.func 23) [] []) [v25,a,b] h26) fun vy h28=>
 bm (ar vy 0) h28 fun v29 h30=>
 bm (ar vy 1) h30 fun vz h32=>
 bp (aA s.P 30 h32) fun v33 h34=>
 bs (ai s.P wl 30 v33 v29 h34) fun hj=>
 bm (vUn .not vz) hj fun vm hO=>
 cnd vm (
 some ((.lit (.bool true)),hO)) (
 bm (ab s.P 30 v33 hO) hO fun vZ hB=>
 bp (yC s k wl 5 false true (.fn (.func 17) [] []) [vZ,d] hB) fun vP hP=>
 bm (ar vP 0) hP fun vn hk=>
 bm (ar vP 1) hk fun vo hl=>
 bp (aA s.P 30 hl) fun va hm=>
 bs (ai s.P wl 30 va vn hm) fun hA=>
 yI s k wl 5 Tryz.f5 o7 hA.length OL k ⟨((V.kill hA.length g)::(V.kill hA.length a)::(V.kill hA.length b)::(V.kill hA.length d)::(V.kill hA.length v)::(V.kill hA.length B)::(V.kill hA.length D)::(V.kill hA.length E)::(V.kill hA.length x)::(V.kill hA.length y)::(V.kill hA.length F)::(V.kill hA.length u)::(V.kill hA.length v33)::(V.kill hA.length vz)::(V.kill hA.length va)::(V.kill hA.length vo)::(.lit (.int .i64 0))::(.lit (.int .i64 0))::(V.kill hA.length j)::(V.kill hA.length G)::(V.kill hA.length I)::(V.kill hA.length J)::(V.kill hA.length L)::(V.kill hA.length M)::(V.kill hA.length N)::(V.kill hA.length O)::(V.kill hA.length z)::(V.kill hA.length Q)::(V.kill hA.length A)::(V.kill hA.length X)::(V.kill hA.length W)::(V.kill hA.length Y)::(V.kill hA.length U)::(V.kill hA.length t2)::(V.kill hA.length t0)::(V.kill hA.length t3)::(V.kill hA.length t1)::(V.kill hA.length Z)::(V.kill hA.length v23)::(V.kill hA.length t4)::(V.kill hA.length vy)::(V.kill hA.length v25)::(V.kill hA.length a)::(V.kill hA.length b)::(V.kill hA.length vy)::(V.kill hA.length v29)::(V.kill hA.length vz)::(V.kill hA.length vz)::(V.kill hA.length vm)::(V.kill hA.length vP)::(V.kill hA.length vZ)::(V.kill hA.length d)::(V.kill hA.length vP)::(V.kill hA.length vn)::(V.kill hA.length vo)::.junk::.junk::.junk::.junk::.junk::.junk::.junk::.junk::.junk::.junk::.junk::.junk::.junk::.junk::.junk::.junk::.junk::.junk::.junk::.junk::.junk::.junk::.junk::.junk::.junk::.junk::.junk::.junk::.junk::.junk::(V.kill hA.length q4)::(V.kill hA.length q5)::(V.kill hA.length q6)::(V.kill hA.length q7)::(V.kill hA.length q8)::(V.kill hA.length tQ)::(V.kill hA.length tR)::(V.kill hA.length q9)::(V.kill hA.length qa)::(V.kill hA.length qb)::(V.kill hA.length qc)::(V.kill hA.length qd)::(V.kill hA.length qe)::(V.kill hA.length qf)::(V.kill hA.length tW)::(V.kill hA.length qg)::(V.kill hA.length tX)::(V.kill hA.length tY)::(V.kill hA.length tZ)::(V.kill hA.length q0)::(V.kill hA.length q1)::(V.kill hA.length tS)::(V.kill hA.length q2)::(V.kill hA.length tT)::(V.kill hA.length tU)::(V.kill hA.length qi)::(V.kill hA.length qj)::(V.kill hA.length qk)::(V.kill hA.length ql)::(V.kill hA.length qm)::(V.kill hA.length qn)::(V.kill hA.length qh)::(V.kill hA.length qo)::(V.kill hA.length q3)::(V.kill hA.length tV)::[]),co hA.length hA⟩)):=kG
theorem Zl:itX (xX s 5 wl k rd) o7 n0 K (n+1) ⟨(g::a::b::d::v::B::D::E::x::y::F::u::R::T::r::e::o::f::j::G::I::J::L::M::N::O::z::Q::A::X::W::Y::U::t2::t0::t3::t1::Z::t5::t4::t6::t7::t8::t9::ta::tb::tc::td::te::tf::tg::th::ti::tj::tk::tx::ty::tz::tA::tl::tm::tB::tC::tD::tE::tF::tG::tr::tH::ts::tt::tu::tv::tn::tw::tp::tq::tK::tL::tM::tN::tO::tP::tI::tJ::q4::q5::q6::q7::q8::tQ::tR::q9::qa::qb::qc::qd::qe::qf::tW::qg::tX::tY::tZ::q0::q1::tS::q2::tT::tU::qi::qj::qk::ql::qm::qn::qh::qo::q3::tV::[]),h⟩ =
 bp (bw s.P 34 e h) fun v49 h50=>
 bm (az s.P .lss 3 f v49) h50 fun v51 hK=>
 cnd v51 (
 bm (al s.P 34 e f hK) hK fun v53 hb=>
 bm (aa s.P 52 v53 0) hb fun vQ hc=>
 bm (ab s.P 3 vQ hc) hc fun v57 h58=>
 bm (az s.P .eql 3 v57 (.lit (.int .i64 0))) h58 fun ve hi=>
 gd ve (
 fV (xX s 5 wl k rd) Ps 13 hK.length ([],[]) (av (xX s 5 wl k rd) (dc (xX s 5 wl k rd) o7 n0 K n) K1) ⟨(g::a::b::d::v::B::D::E::x::y::F::u::R::T::r::e::o::f::j::G::I::J::L::M::N::O::z::Q::A::X::W::Y::U::t2::t0::t3::t1::Z::t5::t4::t6::t7::t8::t9::ta::tb::tc::td::te::tf::tg::th::ti::tj::tk::f::e::v49::v51::tl::tm::e::f::v53::vQ::v57::ve::(.lit (.bool true))::uu::uu::uu::uu::uu::uu::tw::tp::tq::tK::tL::tM::tN::tO::tP::tI::tJ::q4::q5::q6::q7::q8::tQ::tR::q9::qa::qb::qc::qd::qe::qf::tW::qg::tX::tY::tZ::q0::q1::tS::q2::tT::tU::qi::qj::qk::ql::qm::qn::qh::qo::q3::tV::[]),hi⟩) (
 bm (al s.P 34 e f hi) hi fun v61 h62=>
 bm (aa s.P 52 v61 0) h62 fun v63 hu=>
 bm (ab s.P 3 v63 hu) hu fun v65 h66=>
 bm (az s.P .eql 3 v65 (.lit (.int .i64 3))) h66 fun v67 h68=>
 fV (xX s 5 wl k rd) Ps 13 hK.length ([],[]) (av (xX s 5 wl k rd) (dc (xX s 5 wl k rd) o7 n0 K n) K1) ⟨(g::a::b::d::v::B::D::E::x::y::F::u::R::T::r::e::o::f::j::G::I::J::L::M::N::O::z::Q::A::X::W::Y::U::t2::t0::t3::t1::Z::t5::t4::t6::t7::t8::t9::ta::tb::tc::td::te::tf::tg::th::ti::tj::tk::f::e::v49::v51::tl::tm::e::f::v53::vQ::v57::ve::(.lit (.bool false))::e::f::v61::v63::v65::v67::tw::tp::tq::tK::tL::tM::tN::tO::tP::tI::tJ::q4::q5::q6::q7::q8::tQ::tR::q9::qa::qb::qc::qd::qe::qf::tW::qg::tX::tY::tZ::q0::q1::tS::q2::tT::tU::qi::qj::qk::ql::qm::qn::qh::qo::q3::tV::[]),h68⟩) (
 fV (xX s 5 wl k rd) Ps 8 hK.length ([],[]) (av (xX s 5 wl k rd) (dc (xX s 5 wl k rd) o7 n0 K n) K1) ⟨(g::a::b::d::v::B::D::E::x::y::F::u::R::T::r::e::o::f::j::G::I::J::L::M::N::O::z::Q::A::X::W::Y::U::t2::t0::t3::t1::Z::t5::t4::t6::t7::t8::t9::ta::tb::tc::td::te::tf::tg::th::ti::tj::tk::f::e::v49::v51::tl::tm::e::f::v53::vQ::v57::ve::ve::uu::ts::tt::tu::tv::tn::tw::tp::tq::tK::tL::tM::tN::tO::tP::tI::tJ::q4::q5::q6::q7::q8::tQ::tR::q9::qa::qb::qc::qd::qe::qf::tW::qg::tX::tY::tZ::q0::q1::tS::q2::tT::tU::qi::qj::qk::ql::qm::qn::qh::qo::q3::tV::[]),hi⟩)) (
 K (.exit 0) ⟨((V.kill n0 g)::(V.kill n0 a)::(V.kill n0 b)::(V.kill n0 d)::(V.kill n0 v)::(V.kill n0 B)::(V.kill n0 D)::(V.kill n0 E)::(V.kill n0 x)::(V.kill n0 y)::(V.kill n0 F)::(V.kill n0 u)::(V.kill n0 R)::(V.kill n0 T)::(V.kill n0 r)::(V.kill n0 e)::(V.kill n0 o)::(V.kill n0 f)::(V.kill n0 j)::(V.kill n0 G)::(V.kill n0 I)::(V.kill n0 J)::(V.kill n0 L)::(V.kill n0 M)::(V.kill n0 N)::(V.kill n0 O)::(V.kill n0 z)::(V.kill n0 Q)::(V.kill n0 A)::(V.kill n0 X)::(V.kill n0 W)::(V.kill n0 Y)::(V.kill n0 U)::(V.kill n0 t2)::(V.kill n0 t0)::(V.kill n0 t3)::(V.kill n0 t1)::(V.kill n0 Z)::(V.kill n0 t5)::(V.kill n0 t4)::(V.kill n0 t6)::(V.kill n0 t7)::(V.kill n0 t8)::(V.kill n0 t9)::(V.kill n0 ta)::(V.kill n0 tb)::(V.kill n0 tc)::(V.kill n0 td)::(V.kill n0 te)::(V.kill n0 tf)::(V.kill n0 tg)::(V.kill n0 th)::(V.kill n0 ti)::(V.kill n0 tj)::(V.kill n0 tk)::.junk::.junk::.junk::.junk::.junk::.junk::.junk::.junk::.junk::.junk::.junk::.junk::.junk::.junk::.junk::.junk::.junk::.junk::.junk::.junk::.junk::.junk::.junk::.junk::.junk::.junk::.junk::.junk::.junk::.junk::(V.kill n0 q4)::(V.kill n0 q5)::(V.kill n0 q6)::(V.kill n0 q7)::(V.kill n0 q8)::(V.kill n0 tQ)::(V.kill n0 tR)::(V.kill n0 q9)::(V.kill n0 qa)::(V.kill n0 qb)::(V.kill n0 qc)::(V.kill n0 qd)::(V.kill n0 qe)::(V.kill n0 qf)::(V.kill n0 tW)::(V.kill n0 qg)::(V.kill n0 tX)::(V.kill n0 tY)::(V.kill n0 tZ)::(V.kill n0 q0)::(V.kill n0 q1)::(V.kill n0 tS)::(V.kill n0 q2)::(V.kill n0 tT)::(V.kill n0 tU)::(V.kill n0 qi)::(V.kill n0 qj)::(V.kill n0 qk)::(V.kill n0 ql)::(V.kill n0 qm)::(V.kill n0 qn)::(V.kill n0 qh)::(V.kill n0 qo)::(V.kill n0 q3)::(V.kill n0 tV)::[]),co n0 hK⟩):=kI
theorem Ph:av (xX s 5 wl k false) (aD s.P Tryz.f5) OL (.exit 0) ⟨(g::a::b::d::v::B::D::E::x::y::F::u::R::T::r::e::o::f::j::G::I::J::L::M::N::O::z::Q::A::X::W::Y::U::t2::t0::t3::t1::Z::t5::t4::t6::t7::t8::t9::ta::tb::tc::td::te::tf::tg::th::ti::tj::tk::tx::ty::tz::tA::tl::tm::tB::tC::tD::tE::tF::tG::tr::tH::ts::tt::tu::tv::tn::tw::tp::tq::tK::tL::tM::tN::tO::tP::tI::tJ::q4::q5::q6::q7::q8::tQ::tR::q9::qa::qb::qc::qd::qe::qf::tW::qg::tX::tY::tZ::q0::q1::tS::q2::tT::tU::qi::qj::qk::ql::qm::qn::qh::qo::q3::tV::[]),h⟩ =
 yI s k wl 5 Tryz.f5 uk h.length Og k ⟨((V.kill h.length g)::(V.kill h.length a)::(V.kill h.length b)::(V.kill h.length d)::(V.kill h.length v)::(V.kill h.length B)::(V.kill h.length D)::(V.kill h.length E)::(V.kill h.length x)::(V.kill h.length y)::(V.kill h.length F)::(V.kill h.length u)::(V.kill h.length R)::(V.kill h.length T)::(V.kill h.length r)::(V.kill h.length e)::(V.kill h.length o)::(V.kill h.length f)::(.lit (.int .i64 0))::(V.kill h.length G)::(V.kill h.length I)::(V.kill h.length J)::(V.kill h.length L)::(V.kill h.length M)::(V.kill h.length N)::(V.kill h.length O)::(V.kill h.length z)::(V.kill h.length Q)::(V.kill h.length A)::(V.kill h.length X)::(V.kill h.length W)::(V.kill h.length Y)::(V.kill h.length U)::(V.kill h.length t2)::(V.kill h.length t0)::(V.kill h.length t3)::(V.kill h.length t1)::(V.kill h.length Z)::(V.kill h.length t5)::(V.kill h.length t4)::(V.kill h.length t6)::(V.kill h.length t7)::(V.kill h.length t8)::(V.kill h.length t9)::(V.kill h.length ta)::(V.kill h.length tb)::(V.kill h.length tc)::(V.kill h.length td)::(V.kill h.length te)::(V.kill h.length tf)::(V.kill h.length tg)::(V.kill h.length th)::(V.kill h.length ti)::(V.kill h.length tj)::(V.kill h.length tk)::(V.kill h.length tx)::(V.kill h.length ty)::(V.kill h.length tz)::(V.kill h.length tA)::(V.kill h.length tl)::(V.kill h.length tm)::(V.kill h.length tB)::(V.kill h.length tC)::(V.kill h.length tD)::(V.kill h.length tE)::(V.kill h.length tF)::(V.kill h.length tG)::(V.kill h.length tr)::(V.kill h.length tH)::(V.kill h.length ts)::(V.kill h.length tt)::(V.kill h.length tu)::(V.kill h.length tv)::(V.kill h.length tn)::(V.kill h.length tw)::(V.kill h.length tp)::(V.kill h.length tq)::(V.kill h.length tK)::(V.kill h.length tL)::(V.kill h.length tM)::(V.kill h.length tN)::(V.kill h.length tO)::(V.kill h.length tP)::(V.kill h.length tI)::(V.kill h.length tJ)::.junk::.junk::.junk::.junk::.junk::.junk::.junk::.junk::.junk::.junk::.junk::.junk::.junk::.junk::.junk::.junk::.junk::.junk::.junk::.junk::.junk::.junk::.junk::.junk::.junk::(V.kill h.length qi)::(V.kill h.length qj)::(V.kill h.length qk)::(V.kill h.length ql)::(V.kill h.length qm)::(V.kill h.length qn)::(V.kill h.length qh)::(V.kill h.length qo)::(V.kill h.length q3)::(V.kill h.length tV)::[]),co h.length h⟩:=kR
theorem Oz:fV (xX s 5 wl k rd) Ps 13 m0 ac (av (xX s 5 wl k rd) (dc (xX s 5 wl k rd) o7 n0 K n) K1) ⟨(g::a::b::d::v::B::D::E::x::y::F::u::R::T::r::e::o::f::j::G::I::J::L::M::N::O::z::Q::A::X::W::Y::U::t2::t0::t3::t1::Z::t5::t4::t6::t7::t8::t9::ta::tb::tc::td::te::tf::tg::th::ti::tj::tk::tx::ty::tz::tA::tl::tm::tB::tC::tD::tE::tF::tG::tr::tH::ts::tt::tu::tv::tn::tw::tp::tq::zz),h⟩ =
 bm (aT tr (.lit (.bool true)) tn) h fun v69 hv=>
 cnd v69 (
 bm (az s.P .add 3 o (.lit (.int .i64 1))) hv fun v71 h72=>
 av (xX s 5 wl k rd) (dc (xX s 5 wl k rd) o7 n0 K n) PI .norm ⟨(g::a::b::d::v::B::D::E::x::y::F::u::R::T::r::e::v71::f::j::G::I::J::L::M::N::O::z::Q::A::X::W::Y::U::t2::t0::t3::t1::Z::t5::t4::t6::t7::t8::t9::ta::tb::tc::td::te::tf::tg::th::ti::tj::tk::tx::ty::tz::tA::tl::tm::tB::tC::tD::tE::tF::tG::tr::tH::ts::tt::tu::tv::tn::v69::o::v71::zz),h72⟩) (
 av (xX s 5 wl k rd) (dc (xX s 5 wl k rd) o7 n0 K n) PI .norm ⟨(g::a::b::d::v::B::D::E::x::y::F::u::R::T::r::e::o::f::j::G::I::J::L::M::N::O::z::Q::A::X::W::Y::U::t2::t0::t3::t1::Z::t5::t4::t6::t7::t8::t9::ta::tb::tc::td::te::tf::tg::th::ti::tj::tk::tx::ty::tz::tA::tl::tm::tB::tC::tD::tE::tF::tG::tr::tH::ts::tt::tu::tv::tn::v69::tp::tq::zz),hv⟩):=kG
theorem YZ:itX (xX s 5 wl k rd) uk n0 K (n+1) ⟨(g::a::b::d::v::B::D::E::x::y::F::u::R::T::r::e::o::f::j::G::I::J::L::M::N::O::z::Q::A::X::W::Y::U::t2::t0::t3::t1::Z::t5::t4::t6::t7::t8::t9::ta::tb::tc::td::te::tf::tg::th::ti::tj::tk::tx::ty::tz::tA::tl::tm::tB::tC::tD::tE::tF::tG::tr::tH::ts::tt::tu::tv::tn::tw::tp::tq::tK::tL::tM::tN::tO::tP::tI::tJ::q4::q5::q6::q7::q8::tQ::tR::q9::qa::qb::qc::qd::qe::qf::tW::qg::tX::tY::tZ::q0::q1::tS::q2::tT::tU::qi::qj::qk::ql::qm::qn::qh::qo::q3::tV::[]),h⟩ =
 bm (aa s.P 30 r 4) h fun v73 hw=>
 bm (ab s.P 28 v73 hw) hw fun v75 hD=>
 bp (bw s.P 28 v75 hD) fun vA hI=>
 bm (az s.P .lss 3 j vA) hI fun vM hF=>
 cnd vM (
 bm (aa s.P 30 r 4) hF fun vS hd=>
 bm (ab s.P 28 vS hd) hd fun vB hG=>
 bm (al s.P 28 vB j hG) hG fun vN hn=>
 bm (aa s.P 57 vN 0) hn fun vT he=>
 bm (ab s.P 3 vT he) he fun vC hQ=>
 bm (az s.P .eql 3 vC (.lit (.int .i64 2))) hQ fun vI hR=>
 gd vI (
 fV (xX s 5 wl k rd) N4 15 hF.length ([],[]) (av (xX s 5 wl k rd) (dc (xX s 5 wl k rd) uk n0 K n) K7) ⟨(g::a::b::d::v::B::D::E::x::y::F::u::R::T::r::e::o::f::j::G::I::J::L::M::N::O::z::Q::A::X::W::Y::U::t2::t0::t3::t1::Z::t5::t4::t6::t7::t8::t9::ta::tb::tc::td::te::tf::tg::th::ti::tj::tk::tx::ty::tz::tA::tl::tm::tB::tC::tD::tE::tF::tG::tr::tH::ts::tt::tu::tv::tn::tw::tp::tq::tK::tL::tM::tN::tO::tP::tI::tJ::j::v73::v75::vA::vM::tQ::tR::vS::vB::j::vN::vT::vC::vI::(.lit (.bool true))::uu::uu::uu::uu::uu::uu::uu::q2::tT::tU::qi::qj::qk::ql::qm::qn::qh::qo::q3::tV::[]),hR⟩) (
 bm (aa s.P 30 r 4) hR fun vv hf=>
 bm (ab s.P 28 vv hf) hf fun vJ hH=>
 bm (al s.P 28 vJ j hH) hH fun vb hg=>
 bm (aa s.P 57 vb 0) hg fun vc hL=>
 bm (ab s.P 3 vc hL) hL fun vU hU=>
 bm (az s.P .eql 3 vU (.lit (.int .i64 5))) hU fun vD hC=>
 fV (xX s 5 wl k rd) N4 15 hF.length ([],[]) (av (xX s 5 wl k rd) (dc (xX s 5 wl k rd) uk n0 K n) K7) ⟨(g::a::b::d::v::B::D::E::x::y::F::u::R::T::r::e::o::f::j::G::I::J::L::M::N::O::z::Q::A::X::W::Y::U::t2::t0::t3::t1::Z::t5::t4::t6::t7::t8::t9::ta::tb::tc::td::te::tf::tg::th::ti::tj::tk::tx::ty::tz::tA::tl::tm::tB::tC::tD::tE::tF::tG::tr::tH::ts::tt::tu::tv::tn::tw::tp::tq::tK::tL::tM::tN::tO::tP::tI::tJ::j::v73::v75::vA::vM::tQ::tR::vS::vB::j::vN::vT::vC::vI::(.lit (.bool false))::vv::vJ::j::vb::vc::vU::vD::q2::tT::tU::qi::qj::qk::ql::qm::qn::qh::qo::q3::tV::[]),hC⟩) (
 fV (xX s 5 wl k rd) N4 9 hF.length ([],[]) (av (xX s 5 wl k rd) (dc (xX s 5 wl k rd) uk n0 K n) K7) ⟨(g::a::b::d::v::B::D::E::x::y::F::u::R::T::r::e::o::f::j::G::I::J::L::M::N::O::z::Q::A::X::W::Y::U::t2::t0::t3::t1::Z::t5::t4::t6::t7::t8::t9::ta::tb::tc::td::te::tf::tg::th::ti::tj::tk::tx::ty::tz::tA::tl::tm::tB::tC::tD::tE::tF::tG::tr::tH::ts::tt::tu::tv::tn::tw::tp::tq::tK::tL::tM::tN::tO::tP::tI::tJ::j::v73::v75::vA::vM::tQ::tR::vS::vB::j::vN::vT::vC::vI::vI::uu::tX::tY::tZ::q0::q1::tS::q2::tT::tU::qi::qj::qk::ql::qm::qn::qh::qo::q3::tV::[]),hR⟩)) (
 K (.exit 2) ⟨((V.kill n0 g)::(V.kill n0 a)::(V.kill n0 b)::(V.kill n0 d)::(V.kill n0 v)::(V.kill n0 B)::(V.kill n0 D)::(V.kill n0 E)::(V.kill n0 x)::(V.kill n0 y)::(V.kill n0 F)::(V.kill n0 u)::(V.kill n0 R)::(V.kill n0 T)::(V.kill n0 r)::(V.kill n0 e)::(V.kill n0 o)::(V.kill n0 f)::(V.kill n0 j)::(V.kill n0 G)::(V.kill n0 I)::(V.kill n0 J)::(V.kill n0 L)::(V.kill n0 M)::(V.kill n0 N)::(V.kill n0 O)::(V.kill n0 z)::(V.kill n0 Q)::(V.kill n0 A)::(V.kill n0 X)::(V.kill n0 W)::(V.kill n0 Y)::(V.kill n0 U)::(V.kill n0 t2)::(V.kill n0 t0)::(V.kill n0 t3)::(V.kill n0 t1)::(V.kill n0 Z)::(V.kill n0 t5)::(V.kill n0 t4)::(V.kill n0 t6)::(V.kill n0 t7)::(V.kill n0 t8)::(V.kill n0 t9)::(V.kill n0 ta)::(V.kill n0 tb)::(V.kill n0 tc)::(V.kill n0 td)::(V.kill n0 te)::(V.kill n0 tf)::(V.kill n0 tg)::(V.kill n0 th)::(V.kill n0 ti)::(V.kill n0 tj)::(V.kill n0 tk)::(V.kill n0 tx)::(V.kill n0 ty)::(V.kill n0 tz)::(V.kill n0 tA)::(V.kill n0 tl)::(V.kill n0 tm)::(V.kill n0 tB)::(V.kill n0 tC)::(V.kill n0 tD)::(V.kill n0 tE)::(V.kill n0 tF)::(V.kill n0 tG)::(V.kill n0 tr)::(V.kill n0 tH)::(V.kill n0 ts)::(V.kill n0 tt)::(V.kill n0 tu)::(V.kill n0 tv)::(V.kill n0 tn)::(V.kill n0 tw)::(V.kill n0 tp)::(V.kill n0 tq)::(V.kill n0 tK)::(V.kill n0 tL)::(V.kill n0 tM)::(V.kill n0 tN)::(V.kill n0 tO)::(V.kill n0 tP)::(V.kill n0 tI)::(V.kill n0 tJ)::.junk::.junk::.junk::.junk::.junk::.junk::.junk::.junk::.junk::.junk::.junk::.junk::.junk::.junk::.junk::.junk::.junk::.junk::.junk::.junk::.junk::.junk::.junk::.junk::.junk::(V.kill n0 qi)::(V.kill n0 qj)::(V.kill n0 qk)::(V.kill n0 ql)::(V.kill n0 qm)::(V.kill n0 qn)::(V.kill n0 qh)::(V.kill n0 qo)::(V.kill n0 q3)::(V.kill n0 tV)::[]),co n0 hF⟩):=kI
theorem QN:av (xX s 5 wl k false) (aD s.P Tryz.f5) Og (.exit 2) ⟨(g::a::b::d::v::B::D::E::x::y::F::u::R::T::r::e::o::f::j::G::I::J::L::M::N::O::z::Q::A::X::W::Y::U::t2::t0::t3::t1::Z::t5::t4::t6::t7::t8::t9::ta::tb::tc::td::te::tf::tg::th::ti::tj::tk::tx::ty::tz::tA::tl::tm::tB::tC::tD::tE::tF::tG::tr::tH::ts::tt::tu::tv::tn::tw::tp::tq::tK::tL::tM::tN::tO::tP::tI::tJ::q4::q5::q6::q7::q8::tQ::tR::q9::qa::qb::qc::qd::qe::qf::tW::qg::tX::tY::tZ::q0::q1::tS::q2::tT::tU::qi::qj::qk::ql::qm::qn::qh::qo::q3::tV::[]),h⟩ =
 bm (aa s.P 30 r 2) h fun vE hM=>
 bm (ab s.P 26 vE hM) hM fun vF hV=>
 bp (yC s k wl 5 false true (.fn (.func 27) [] []) [vF,(.lit (.int .i64 0))] hV) fun vG hW=>
 bm (gB s.P 3 46 o) hW fun vV hx=>
 bm (az s.P .eql 46 vG vV) hx fun vO hX=>
 gd vO (
 bm (az s.P .geq 3 o (.lit (.int .i64 0))) hX fun v115 hy=>
 yO s k wl 5 Tryz.f5 QD 9 h.length ([],[]) Lz ⟨(g::a::b::d::v::B::D::E::x::y::F::u::R::T::r::e::o::f::j::G::I::J::L::M::N::O::z::Q::A::X::W::Y::U::t2::t0::t3::t1::Z::t5::t4::t6::t7::t8::t9::ta::tb::tc::td::te::tf::tg::th::ti::tj::tk::tx::ty::tz::tA::tl::tm::tB::tC::tD::tE::tF::tG::tr::tH::ts::tt::tu::tv::tn::tw::tp::tq::tK::tL::tM::tN::tO::tP::tI::tJ::q4::q5::q6::q7::q8::tQ::tR::q9::qa::qb::qc::qd::qe::qf::tW::qg::tX::tY::tZ::q0::q1::tS::q2::tT::tU::vE::vF::vG::o::vV::vO::(.lit (.bool true))::o::v115::tV::[]),hy⟩) (
 yO s k wl 5 Tryz.f5 QD 9 h.length ([],[]) Lz ⟨(g::a::b::d::v::B::D::E::x::y::F::u::R::T::r::e::o::f::j::G::I::J::L::M::N::O::z::Q::A::X::W::Y::U::t2::t0::t3::t1::Z::t5::t4::t6::t7::t8::t9::ta::tb::tc::td::te::tf::tg::th::ti::tj::tk::tx::ty::tz::tA::tl::tm::tB::tC::tD::tE::tF::tG::tr::tH::ts::tt::tu::tv::tn::tw::tp::tq::tK::tL::tM::tN::tO::tP::tI::tJ::q4::q5::q6::q7::q8::tQ::tR::q9::qa::qb::qc::qd::qe::qf::tW::qg::tX::tY::tZ::q0::q1::tS::q2::tT::tU::vE::vF::vG::o::vV::vO::(.lit (.bool false))::uu::uu::tV::[]),hX⟩) (
 yO s k wl 5 Tryz.f5 QD 8 h.length ([],[]) Lz ⟨(g::a::b::d::v::B::D::E::x::y::F::u::R::T::r::e::o::f::j::G::I::J::L::M::N::O::z::Q::A::X::W::Y::U::t2::t0::t3::t1::Z::t5::t4::t6::t7::t8::t9::ta::tb::tc::td::te::tf::tg::th::ti::tj::tk::tx::ty::tz::tA::tl::tm::tB::tC::tD::tE::tF::tG::tr::tH::ts::tt::tu::tv::tn::tw::tp::tq::tK::tL::tM::tN::tO::tP::tI::tJ::q4::q5::q6::q7::q8::tQ::tR::q9::qa::qb::qc::qd::qe::qf::tW::qg::tX::tY::tZ::q0::q1::tS::q2::tT::tU::vE::vF::vG::o::vV::vO::vO::uu::q3::tV::[]),hX⟩):=kR
theorem P9:av (xX s 5 wl k rd) (dc (xX s 5 wl k rd) o7 n0 K n) PI .norm ⟨(g::a::b::d::v::B::D::E::x::y::F::u::R::T::r::e::o::f::j::G::I::J::L::M::N::O::z::Q::A::X::W::Y::U::t2::t0::t3::t1::Z::t5::t4::t6::t7::t8::t9::ta::tb::tc::td::te::tf::tg::th::ti::tj::tk::tx::ty::tz::tA::tl::tm::tB::tC::tD::tE::tF::tG::tr::tH::ts::tt::tu::tv::tn::tw::tp::tq::tK::tL::tM::tN::tO::tP::tI::tJ::zz),h⟩ =
 bm (al s.P 34 e f h) h fun vf hz=>
 bm (aa s.P 52 vf 0) hz fun vg hr=>
 bm (ab s.P 3 vg hr) hr fun vh h122=>
 bm (az s.P .eql 3 vh (.lit (.int .i64 4))) h122 fun vi hs=>
 cnd vi (
 bm (az s.P .sub 3 o (.lit (.int .i64 1))) hs fun v125 h126=>
 av (xX s 5 wl k rd) (dc (xX s 5 wl k rd) o7 n0 K n) Qj .norm ⟨(g::a::b::d::v::B::D::E::x::y::F::u::R::T::r::e::v125::f::j::G::I::J::L::M::N::O::z::Q::A::X::W::Y::U::t2::t0::t3::t1::Z::t5::t4::t6::t7::t8::t9::ta::tb::tc::td::te::tf::tg::th::ti::tj::tk::tx::ty::tz::tA::tl::tm::tB::tC::tD::tE::tF::tG::tr::tH::ts::tt::tu::tv::tn::tw::tp::tq::e::f::vf::vg::vh::vi::o::v125::zz),h126⟩) (
 av (xX s 5 wl k rd) (dc (xX s 5 wl k rd) o7 n0 K n) Qj .norm ⟨(g::a::b::d::v::B::D::E::x::y::F::u::R::T::r::e::o::f::j::G::I::J::L::M::N::O::z::Q::A::X::W::Y::U::t2::t0::t3::t1::Z::t5::t4::t6::t7::t8::t9::ta::tb::tc::td::te::tf::tg::th::ti::tj::tk::tx::ty::tz::tA::tl::tm::tB::tC::tD::tE::tF::tG::tr::tH::ts::tt::tu::tv::tn::tw::tp::tq::e::f::vf::vg::vh::vi::tI::tJ::zz),hs⟩):=kR
theorem N8:fV (xX s 5 wl k rd) N4 15 m0 ac (av (xX s 5 wl k rd) (dc (xX s 5 wl k rd) uk n0 K n) K7) ⟨(g::a::b::d::v::B::D::E::x::y::F::u::R::T::r::e::o::f::j::G::I::J::L::M::N::O::z::Q::A::X::W::Y::U::t2::t0::t3::t1::Z::t5::t4::t6::t7::t8::t9::ta::tb::tc::td::te::tf::tg::th::ti::tj::tk::tx::ty::tz::tA::tl::tm::tB::tC::tD::tE::tF::tG::tr::tH::ts::tt::tu::tv::tn::tw::tp::tq::tK::tL::tM::tN::tO::tP::tI::tJ::q4::q5::q6::q7::q8::tQ::tR::q9::qa::qb::qc::qd::qe::qf::tW::qg::tX::tY::tZ::q0::q1::tS::q2::tT::tU::zz),h⟩ =
 bm (aT tW (.lit (.bool true)) tS) h fun vj ht=>
 cnd vj (
 bm (az s.P .add 3 o (.lit (.int .i64 1))) ht fun v129 h130=>
 av (xX s 5 wl k rd) (dc (xX s 5 wl k rd) uk n0 K n) Ow .norm ⟨(g::a::b::d::v::B::D::E::x::y::F::u::R::T::r::e::v129::f::j::G::I::J::L::M::N::O::z::Q::A::X::W::Y::U::t2::t0::t3::t1::Z::t5::t4::t6::t7::t8::t9::ta::tb::tc::td::te::tf::tg::th::ti::tj::tk::tx::ty::tz::tA::tl::tm::tB::tC::tD::tE::tF::tG::tr::tH::ts::tt::tu::tv::tn::tw::tp::tq::tK::tL::tM::tN::tO::tP::tI::tJ::q4::q5::q6::q7::q8::tQ::tR::q9::qa::qb::qc::qd::qe::qf::tW::qg::tX::tY::tZ::q0::q1::tS::vj::o::v129::zz),h130⟩) (
 av (xX s 5 wl k rd) (dc (xX s 5 wl k rd) uk n0 K n) Ow .norm ⟨(g::a::b::d::v::B::D::E::x::y::F::u::R::T::r::e::o::f::j::G::I::J::L::M::N::O::z::Q::A::X::W::Y::U::t2::t0::t3::t1::Z::t5::t4::t6::t7::t8::t9::ta::tb::tc::td::te::tf::tg::th::ti::tj::tk::tx::ty::tz::tA::tl::tm::tB::tC::tD::tE::tF::tG::tr::tH::ts::tt::tu::tv::tn::tw::tp::tq::tK::tL::tM::tN::tO::tP::tI::tJ::q4::q5::q6::q7::q8::tQ::tR::q9::qa::qb::qc::qd::qe::qf::tW::qg::tX::tY::tZ::q0::q1::tS::vj::tT::tU::zz),ht⟩):=kG
theorem NI:yO s k wl 5 Tryz.f5 QD 9 m0 ac Lz ⟨(g::a::b::d::v::B::D::E::x::y::F::u::R::T::r::e::o::f::j::G::I::J::L::M::N::O::z::Q::A::X::W::Y::U::t2::t0::t3::t1::Z::t5::t4::t6::t7::t8::t9::ta::tb::tc::td::te::tf::tg::th::ti::tj::tk::tx::ty::tz::tA::tl::tm::tB::tC::tD::tE::tF::tG::tr::tH::ts::tt::tu::tv::tn::tw::tp::tq::tK::tL::tM::tN::tO::tP::tI::tJ::q4::q5::q6::q7::q8::tQ::tR::q9::qa::qb::qc::qd::qe::qf::tW::qg::tX::tY::tZ::q0::q1::tS::q2::tT::tU::qi::qj::qk::ql::qm::qn::qh::qo::q3::tV::[]),h⟩ =
 bm (aT qh q3 (.lit (.bool false))) h fun v131 h132=>
 some (v131,h132):=kG
theorem OX:av (xX s 5 wl k rd) (dc (xX s 5 wl k rd) o7 n0 K n) Qj .norm ⟨(g::a::b::d::v::B::D::E::x::y::F::u::R::T::r::e::o::f::j::G::I::J::L::M::N::O::z::Q::A::X::W::Y::U::t2::t0::t3::t1::Z::t5::t4::t6::t7::t8::t9::ta::tb::tc::td::te::tf::tg::th::ti::tj::tk::tx::ty::tz::tA::tl::tm::tB::tC::tD::tE::tF::tG::tr::tH::ts::tt::tu::tv::tn::tw::tp::tq::tK::tL::tM::tN::tO::tP::tI::tJ::q4::q5::q6::q7::q8::tQ::tR::q9::qa::qb::qc::qd::qe::qf::tW::qg::tX::tY::tZ::q0::q1::tS::q2::tT::tU::qi::qj::qk::ql::qm::qn::qh::qo::q3::tV::[]),h⟩ =
 bm (az s.P .add 3 f (.lit (.int .i64 1))) h fun v133 h134=>
 itX (xX s 5 wl k rd) o7 n0 K n ⟨((V.kill n0 g)::(V.kill n0 a)::(V.kill n0 b)::(V.kill n0 d)::(V.kill n0 v)::(V.kill n0 B)::(V.kill n0 D)::(V.kill n0 E)::(V.kill n0 x)::(V.kill n0 y)::(V.kill n0 F)::(V.kill n0 u)::(V.kill n0 R)::(V.kill n0 T)::(V.kill n0 r)::(V.kill n0 e)::(V.kill n0 o)::(V.kill n0 v133)::(V.kill n0 j)::(V.kill n0 G)::(V.kill n0 I)::(V.kill n0 J)::(V.kill n0 L)::(V.kill n0 M)::(V.kill n0 N)::(V.kill n0 O)::(V.kill n0 z)::(V.kill n0 Q)::(V.kill n0 A)::(V.kill n0 X)::(V.kill n0 W)::(V.kill n0 Y)::(V.kill n0 U)::(V.kill n0 t2)::(V.kill n0 t0)::(V.kill n0 t3)::(V.kill n0 t1)::(V.kill n0 Z)::(V.kill n0 t5)::(V.kill n0 t4)::(V.kill n0 t6)::(V.kill n0 t7)::(V.kill n0 t8)::(V.kill n0 t9)::(V.kill n0 ta)::(V.kill n0 tb)::(V.kill n0 tc)::(V.kill n0 td)::(V.kill n0 te)::(V.kill n0 tf)::(V.kill n0 tg)::(V.kill n0 th)::(V.kill n0 ti)::(V.kill n0 tj)::(V.kill n0 tk)::.junk::.junk::.junk::.junk::.junk::.junk::.junk::.junk::.junk::.junk::.junk::.junk::.junk::.junk::.junk::.junk::.junk::.junk::.junk::.junk::.junk::.junk::.junk::.junk::.junk::.junk::.junk::.junk::.junk::.junk::(V.kill n0 q4)::(V.kill n0 q5)::(V.kill n0 q6)::(V.kill n0 q7)::(V.kill n0 q8)::(V.kill n0 tQ)::(V.kill n0 tR)::(V.kill n0 q9)::(V.kill n0 qa)::(V.kill n0 qb)::(V.kill n0 qc)::(V.kill n0 qd)::(V.kill n0 qe)::(V.kill n0 qf)::(V.kill n0 tW)::(V.kill n0 qg)::(V.kill n0 tX)::(V.kill n0 tY)::(V.kill n0 tZ)::(V.kill n0 q0)::(V.kill n0 q1)::(V.kill n0 tS)::(V.kill n0 q2)::(V.kill n0 tT)::(V.kill n0 tU)::(V.kill n0 qi)::(V.kill n0 qj)::(V.kill n0 qk)::(V.kill n0 ql)::(V.kill n0 qm)::(V.kill n0 qn)::(V.kill n0 qh)::(V.kill n0 qo)::(V.kill n0 q3)::(V.kill n0 tV)::[]),co n0 h134⟩:=kR
theorem GV:av (xX s 5 wl k rd) (dc (xX s 5 wl k rd) uk n0 K n) Ow .norm ⟨(g::a::b::d::v::B::D::E::x::y::F::u::R::T::r::e::o::f::j::G::I::J::L::M::N::O::z::Q::A::X::W::Y::U::t2::t0::t3::t1::Z::t5::t4::t6::t7::t8::t9::ta::tb::tc::td::te::tf::tg::th::ti::tj::tk::tx::ty::tz::tA::tl::tm::tB::tC::tD::tE::tF::tG::tr::tH::ts::tt::tu::tv::tn::tw::tp::tq::tK::tL::tM::tN::tO::tP::tI::tJ::q4::q5::q6::q7::q8::tQ::tR::q9::qa::qb::qc::qd::qe::qf::tW::qg::tX::tY::tZ::q0::q1::tS::q2::tT::tU::qi::qj::qk::ql::qm::qn::qh::qo::q3::tV::[]),h⟩ =
 bm (az s.P .add 3 j (.lit (.int .i64 1))) h fun v135 h136=>
 itX (xX s 5 wl k rd) uk n0 K n ⟨((V.kill n0 g)::(V.kill n0 a)::(V.kill n0 b)::(V.kill n0 d)::(V.kill n0 v)::(V.kill n0 B)::(V.kill n0 D)::(V.kill n0 E)::(V.kill n0 x)::(V.kill n0 y)::(V.kill n0 F)::(V.kill n0 u)::(V.kill n0 R)::(V.kill n0 T)::(V.kill n0 r)::(V.kill n0 e)::(V.kill n0 o)::(V.kill n0 f)::(V.kill n0 v135)::(V.kill n0 G)::(V.kill n0 I)::(V.kill n0 J)::(V.kill n0 L)::(V.kill n0 M)::(V.kill n0 N)::(V.kill n0 O)::(V.kill n0 z)::(V.kill n0 Q)::(V.kill n0 A)::(V.kill n0 X)::(V.kill n0 W)::(V.kill n0 Y)::(V.kill n0 U)::(V.kill n0 t2)::(V.kill n0 t0)::(V.kill n0 t3)::(V.kill n0 t1)::(V.kill n0 Z)::(V.kill n0 t5)::(V.kill n0 t4)::(V.kill n0 t6)::(V.kill n0 t7)::(V.kill n0 t8)::(V.kill n0 t9)::(V.kill n0 ta)::(V.kill n0 tb)::(V.kill n0 tc)::(V.kill n0 td)::(V.kill n0 te)::(V.kill n0 tf)::(V.kill n0 tg)::(V.kill n0 th)::(V.kill n0 ti)::(V.kill n0 tj)::(V.kill n0 tk)::(V.kill n0 tx)::(V.kill n0 ty)::(V.kill n0 tz)::(V.kill n0 tA)::(V.kill n0 tl)::(V.kill n0 tm)::(V.kill n0 tB)::(V.kill n0 tC)::(V.kill n0 tD)::(V.kill n0 tE)::(V.kill n0 tF)::(V.kill n0 tG)::(V.kill n0 tr)::(V.kill n0 tH)::(V.kill n0 ts)::(V.kill n0 tt)::(V.kill n0 tu)::(V.kill n0 tv)::(V.kill n0 tn)::(V.kill n0 tw)::(V.kill n0 tp)::(V.kill n0 tq)::(V.kill n0 tK)::(V.kill n0 tL)::(V.kill n0 tM)::(V.kill n0 tN)::(V.kill n0 tO)::(V.kill n0 tP)::(V.kill n0 tI)::(V.kill n0 tJ)::.junk::.junk::.junk::.junk::.junk::.junk::.junk::.junk::.junk::.junk::.junk::.junk::.junk::.junk::.junk::.junk::.junk::.junk::.junk::.junk::.junk::.junk::.junk::.junk::.junk::(V.kill n0 qi)::(V.kill n0 qj)::(V.kill n0 qk)::(V.kill n0 ql)::(V.kill n0 qm)::(V.kill n0 qn)::(V.kill n0 qh)::(V.kill n0 qo)::(V.kill n0 q3)::(V.kill n0 tV)::[]),co n0 h136⟩:=kR
theorem ow (cx:Cx) (s:St):av cx K ri .ret s=K .ret s:=by kernel_rfl
theorem pd (cx:Cx) (s:St):av cx K OL .ret s=K .ret s:=by kernel_rfl
theorem pk (cx:Cx) (s:St):av cx K K1 .ret s=K .ret s:=by kernel_rfl
theorem o4 (cx:Cx) (s:St):av cx K Og .ret s=K .ret s:=by kernel_rfl
theorem oi (cx:Cx) (s:St):av cx K PI .ret s=K .ret s:=by kernel_rfl
theorem om (cx:Cx) (s:St):av cx K K7 .ret s=K .ret s:=by kernel_rfl
theorem oM (cx:Cx) (s:St):av cx K Lz .ret s=K .ret s:=by kernel_rfl
theorem oQ (cx:Cx) (s:St):av cx K Qj .ret s=K .ret s:=by kernel_rfl
theorem oX (cx:Cx) (s:St):av cx K Ow .ret s=K .ret s:=by kernel_rfl
-- names: xb5,xz5,Qm,OY,Pe,Zl,Ph,Oz,YZ,QN,P9,N8,NI,OX,GV,ow,pd,pk,o4,oi,om,oM,oQ,oX
end
end Go.Ab
