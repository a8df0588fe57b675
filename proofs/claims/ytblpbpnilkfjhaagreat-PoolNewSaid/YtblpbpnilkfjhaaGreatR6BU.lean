import Derived.Test.YtblpbpnilkfjhaaGreatR6Seat
import Derived.Test.YtblpbpnilkfjhaaGreatAbLibC
import Derived.Test.YtblpbpnilkfjhaaGreatR6FacP
set_option linter.unusedVariables false
set_option linter.unusedSimpArgs false
set_option maxRecDepth 100000
set_option linter.unusedVariables false
namespace Go.Ab
open Go.Proofs
section
variable (s:Sys) (k wl:Nat) (m0:Nat) (ac:List Nat×List Nat) (c e j f o g u v y A z J D E F G B L M N I Q O U T R X W Z Y t0 t3 t4 t2 t5 t1 t6 t7 t8 t9 td tb te tc ta tj tg th tf tm tk tl ti tq tp tr tn tt ts tv tu tz tx ty tw tA tC tD tB tF tE tI tG tH tK tJ tP tM tN tO tL tT tS tU tR tQ:V) (h:Hp) (K:Out→St→Option (V×Hp)) (rd:Bool) (n n0:Nat) (zz:List V)
noncomputable def kf:Code:=ak (al Tryz.f15) [1,1,0]
noncomputable def ib:List Fr:=[.seq (ak (al Tryz.f15) [1,1,1])]
noncomputable def JK:Code:=ak (al Tryz.f15) [1,1,1,0,1,0,0]
noncomputable def IL:List Fr:=[.block 0,.seq (ak (al Tryz.f15) [1,1,1,1])]
noncomputable def dF:Code:=ak (al Tryz.f15) [1,1,1,1,1,0]
noncomputable def dy:List Fr:=[.seq (ak (al Tryz.f15) [1,1,1,1,1,1])]
theorem ac7:ai (xX s 15 wl k false) Tryz.f15 [] h =
 bm (a8 s.P 23 [(0,(.lit (.int .i64 1))),(1,(.lit (.int .i64 1))),(2,(.lit (.int .i64 1)))]) h fun v1 h2=>
 bp (yC s k wl 15 false true (.fn (.func 23) [] []) [v1,.nil,.nil] h2) fun v3 h4=>
 bm (ao v3 0) h4 fun v5 h6=>
 bm (ao v3 1) h6 fun v7 h8=>
 bp (aw s.P 30 h8) fun v9 hI=>
 bs (ah s.P wl 30 v9 v5 hI) fun hP=>
 bm (ab s.P 30 v9 hP) hP fun vk h13=>
 bp (yC s k wl 15 false true (.fn (.func 26) [] []) [vk] h13) fun vl h15=>
 bm (au s.P .eql 3 vl (.lit (.int .i64 0))) h15 fun ve hZ=>
 gd ve (
 bm (ab s.P 30 v9 hZ) hZ fun v18 h19=>
 bp (yC s k wl 15 false true (.fn (.func 25) [] []) [v18] h19) fun v20 h21=>
 bm (vUn .not v20) h21 fun v22 h23=>
 yO s k wl 15 Tryz.f15 kf 7 hP.length ([],[]) ib ⟨((.lit (.bool false))::v9::v7::uu::uu::uu::uu::uu::uu::v3::v1::v3::v5::v7::vk::vl::ve::(.lit (.bool true))::v18::v20::v22::uu::uu::uu::uu::uu::uu::uu::uu::uu::uu::uu::uu::uu::uu::uu::uu::uu::uu::uu::uu::uu::uu::uu::uu::uu::uu::uu::uu::uu::uu::uu::uu::uu::uu::uu::uu::uu::uu::uu::uu::uu::uu::uu::uu::uu::uu::uu::uu::uu::uu::uu::uu::uu::uu::uu::[]),h23⟩) (
 yO s k wl 15 Tryz.f15 kf 7 hP.length ([],[]) ib ⟨((.lit (.bool false))::v9::v7::uu::uu::uu::uu::uu::uu::v3::v1::v3::v5::v7::vk::vl::ve::(.lit (.bool false))::uu::uu::uu::uu::uu::uu::uu::uu::uu::uu::uu::uu::uu::uu::uu::uu::uu::uu::uu::uu::uu::uu::uu::uu::uu::uu::uu::uu::uu::uu::uu::uu::uu::uu::uu::uu::uu::uu::uu::uu::uu::uu::uu::uu::uu::uu::uu::uu::uu::uu::uu::uu::uu::uu::uu::uu::uu::uu::[]),hZ⟩) (
 yO s k wl 15 Tryz.f15 kf 5 hP.length ([],[]) ib ⟨((.lit (.bool false))::v9::v7::uu::uu::uu::uu::uu::uu::v3::v1::v3::v5::v7::vk::vl::ve::ve::uu::uu::uu::uu::uu::uu::uu::uu::uu::uu::uu::uu::uu::uu::uu::uu::uu::uu::uu::uu::uu::uu::uu::uu::uu::uu::uu::uu::uu::uu::uu::uu::uu::uu::uu::uu::uu::uu::uu::uu::uu::uu::uu::uu::uu::uu::uu::uu::uu::uu::uu::uu::uu::uu::uu::uu::uu::uu::[]),hZ⟩):=kB
theorem aeu:evF Tryz.prog xM (k+1) wl 15 [] h=ai (xX (xS k) 15 wl k false) Tryz.f15 [] h:=by kernel_rfl
theorem adn (P:Program):am P Tryz.f15 .ret ⟨(c::e::j::f::o::g::u::v::y::A::z::J::D::E::F::G::B::L::M::N::I::Q::O::U::T::R::X::W::Z::Y::t0::t3::t4::t2::t5::t1::t6::t7::t8::t9::td::tb::te::tc::ta::tj::tg::th::tf::tm::tk::tl::ti::tq::tp::tr::tn::tt::ts::tv::tu::tz::tx::ty::tw::tA::tC::tD::tB::tF::tE::tI::tG::tH::tK::tJ::[]),h⟩=some (c,h):=by kernel_rfl
theorem OJ:yO s k wl 15 Tryz.f15 kf 7 m0 ac ib ⟨(c::e::j::f::o::g::u::v::y::A::z::J::D::E::F::G::B::L::M::N::I::Q::O::U::T::R::zz),h⟩ =
 bm (aM L I (.lit (.bool false))) h fun vf ha=>
 gd vf (
 bm (ab s.P 30 e ha) ha fun v26 h27=>
 bp (yC s k wl 15 false true (.fn (.func 29) [] []) [v26] h27) fun v28 hf=>
 bm (vUn .not v28) hf fun vM hG=>
 yO s k wl 15 Tryz.f15 kf 12 m0 ac ib ⟨(c::e::j::f::o::g::u::v::y::A::z::J::D::E::F::G::B::L::M::N::I::vf::(.lit (.bool true))::v26::v28::vM::zz),hG⟩) (
 yO s k wl 15 Tryz.f15 kf 12 m0 ac ib ⟨(c::e::j::f::o::g::u::v::y::A::z::J::D::E::F::G::B::L::M::N::I::vf::(.lit (.bool false))::uu::uu::uu::zz),ha⟩) (
 yO s k wl 15 Tryz.f15 kf 10 m0 ac ib ⟨(c::e::j::f::o::g::u::v::y::A::z::J::D::E::F::G::B::L::M::N::I::vf::vf::uu::T::R::zz),ha⟩):=kG
theorem N4:yO s k wl 15 Tryz.f15 kf 12 m0 ac ib ⟨(c::e::j::f::o::g::u::v::y::A::z::J::D::E::F::G::B::L::M::N::I::Q::O::U::T::R::X::W::Z::Y::zz),h⟩ =
 bm (aM O R (.lit (.bool false))) h fun vE hJ=>
 gd vE (
 bm (ab s.P 30 e hJ) hJ fun vN hg=>
 bp (yC s k wl 15 false true (.fn (.func 20) [] []) [vN] hg) fun vY hi=>
 yO s k wl 15 Tryz.f15 kf 16 m0 ac ib ⟨(c::e::j::f::o::g::u::v::y::A::z::J::D::E::F::G::B::L::M::N::I::Q::O::U::T::R::vE::(.lit (.bool true))::vN::vY::zz),hi⟩) (
 yO s k wl 15 Tryz.f15 kf 16 m0 ac ib ⟨(c::e::j::f::o::g::u::v::y::A::z::J::D::E::F::G::B::L::M::N::I::Q::O::U::T::R::vE::(.lit (.bool false))::uu::uu::zz),hJ⟩) (
 yO s k wl 15 Tryz.f15 kf 15 m0 ac ib ⟨(c::e::j::f::o::g::u::v::y::A::z::J::D::E::F::G::B::L::M::N::I::Q::O::U::T::R::vE::vE::uu::Y::zz),hJ⟩):=kG
theorem N2:yO s k wl 15 Tryz.f15 kf 16 m0 ac ib ⟨(c::e::j::f::o::g::u::v::y::A::z::J::D::E::F::G::B::L::M::N::I::Q::O::U::T::R::X::W::Z::Y::t0::t3::t4::t2::t5::t1::t6::t7::t8::t9::td::tb::te::tc::ta::tj::tg::th::tf::tm::tk::tl::ti::tq::tp::tr::tn::tt::ts::tv::tu::tz::tx::ty::tw::tA::tC::tD::tB::tF::tE::tI::tG::tH::tK::tJ::[]),h⟩ =
 bm (aM W Y (.lit (.bool false))) h fun vG hB=>
 yI s k wl 15 Tryz.f15 JK hB.length IL k ⟨((V.kill hB.length c)::(V.kill hB.length e)::(V.kill hB.length j)::(V.kill hB.length vG)::(.lit (.int .i64 0))::(V.kill hB.length g)::(V.kill hB.length u)::(V.kill hB.length v)::(V.kill hB.length y)::(V.kill hB.length A)::(V.kill hB.length z)::(V.kill hB.length J)::(V.kill hB.length D)::(V.kill hB.length E)::(V.kill hB.length F)::(V.kill hB.length G)::(V.kill hB.length B)::(V.kill hB.length L)::(V.kill hB.length M)::(V.kill hB.length N)::(V.kill hB.length I)::(V.kill hB.length Q)::(V.kill hB.length O)::(V.kill hB.length U)::(V.kill hB.length T)::(V.kill hB.length R)::(V.kill hB.length X)::(V.kill hB.length W)::(V.kill hB.length Z)::(V.kill hB.length Y)::(V.kill hB.length vG)::.junk::.junk::.junk::.junk::.junk::.junk::.junk::.junk::.junk::.junk::.junk::(V.kill hB.length te)::(V.kill hB.length tc)::(V.kill hB.length ta)::(V.kill hB.length tj)::(V.kill hB.length tg)::(V.kill hB.length th)::(V.kill hB.length tf)::(V.kill hB.length tm)::(V.kill hB.length tk)::(V.kill hB.length tl)::(V.kill hB.length ti)::(V.kill hB.length tq)::(V.kill hB.length tp)::(V.kill hB.length tr)::(V.kill hB.length tn)::(V.kill hB.length tt)::(V.kill hB.length ts)::(V.kill hB.length tv)::(V.kill hB.length tu)::(V.kill hB.length tz)::(V.kill hB.length tx)::(V.kill hB.length ty)::(V.kill hB.length tw)::(V.kill hB.length tA)::(V.kill hB.length tC)::(V.kill hB.length tD)::(V.kill hB.length tB)::(V.kill hB.length tF)::(V.kill hB.length tE)::(V.kill hB.length tI)::(V.kill hB.length tG)::(V.kill hB.length tH)::(V.kill hB.length tK)::(V.kill hB.length tJ)::[]),b7 hB.length hB⟩:=kG
theorem OD:itX (xX s 15 wl k rd) JK n0 K (n+1) ⟨(c::e::j::f::o::g::u::v::y::A::z::J::D::E::F::G::B::L::M::N::I::Q::O::U::T::R::X::W::Z::Y::t0::t3::t4::t2::t5::t1::t6::t7::t8::t9::td::tb::te::tc::ta::tj::tg::th::tf::tm::tk::tl::ti::tq::tp::tr::tn::tt::ts::tv::tu::tz::tx::ty::tw::tA::tC::tD::tB::tF::tE::tI::tG::tH::tK::tJ::[]),h⟩ =
 bm (au s.P .lss 3 o (.lit (.int .i64 20))) h fun vm hL=>
 cnd vm (
 bm (ab s.P 30 e hL) hL fun vn hj=>
 bm (a8 s.P 48 []) hj fun vo hk=>
 bp (bZ (xX s 15 wl k rd) false true (.fn (.func 24) [] []) [vn,vo] hk) fun vp hl=>
 bm (ao vp 0) hl fun vg hb=>
 bm (ao vp 1) hb fun vq hm=>
 bp (aw s.P 30 hm) fun vO hn=>
 bs (ah s.P wl 30 vO vg hn) fun h54=>
 bm (ab s.P 30 vO h54) h54 fun v55 h56=>
 bs (ah s.P wl 30 e v55 h56) fun ho=>
 bm (au s.P .add 3 o (.lit (.int .i64 1))) ho fun vr hp=>
 itX (xX s 15 wl k rd) JK n0 K n ⟨((V.kill n0 c)::(V.kill n0 e)::(V.kill n0 j)::(V.kill n0 f)::(V.kill n0 vr)::(V.kill n0 vO)::(V.kill n0 vq)::(V.kill n0 v)::(V.kill n0 y)::(V.kill n0 A)::(V.kill n0 z)::(V.kill n0 J)::(V.kill n0 D)::(V.kill n0 E)::(V.kill n0 F)::(V.kill n0 G)::(V.kill n0 B)::(V.kill n0 L)::(V.kill n0 M)::(V.kill n0 N)::(V.kill n0 I)::(V.kill n0 Q)::(V.kill n0 O)::(V.kill n0 U)::(V.kill n0 T)::(V.kill n0 R)::(V.kill n0 X)::(V.kill n0 W)::(V.kill n0 Z)::(V.kill n0 Y)::(V.kill n0 t0)::.junk::.junk::.junk::.junk::.junk::.junk::.junk::.junk::.junk::.junk::.junk::(V.kill n0 te)::(V.kill n0 tc)::(V.kill n0 ta)::(V.kill n0 tj)::(V.kill n0 tg)::(V.kill n0 th)::(V.kill n0 tf)::(V.kill n0 tm)::(V.kill n0 tk)::(V.kill n0 tl)::(V.kill n0 ti)::(V.kill n0 tq)::(V.kill n0 tp)::(V.kill n0 tr)::(V.kill n0 tn)::(V.kill n0 tt)::(V.kill n0 ts)::(V.kill n0 tv)::(V.kill n0 tu)::(V.kill n0 tz)::(V.kill n0 tx)::(V.kill n0 ty)::(V.kill n0 tw)::(V.kill n0 tA)::(V.kill n0 tC)::(V.kill n0 tD)::(V.kill n0 tB)::(V.kill n0 tF)::(V.kill n0 tE)::(V.kill n0 tI)::(V.kill n0 tG)::(V.kill n0 tH)::(V.kill n0 tK)::(V.kill n0 tJ)::[]),b7 n0 hp⟩) (
 K (.exit 0) ⟨((V.kill n0 c)::(V.kill n0 e)::(V.kill n0 j)::(V.kill n0 f)::(V.kill n0 o)::(V.kill n0 g)::(V.kill n0 u)::(V.kill n0 v)::(V.kill n0 y)::(V.kill n0 A)::(V.kill n0 z)::(V.kill n0 J)::(V.kill n0 D)::(V.kill n0 E)::(V.kill n0 F)::(V.kill n0 G)::(V.kill n0 B)::(V.kill n0 L)::(V.kill n0 M)::(V.kill n0 N)::(V.kill n0 I)::(V.kill n0 Q)::(V.kill n0 O)::(V.kill n0 U)::(V.kill n0 T)::(V.kill n0 R)::(V.kill n0 X)::(V.kill n0 W)::(V.kill n0 Z)::(V.kill n0 Y)::(V.kill n0 t0)::.junk::.junk::.junk::.junk::.junk::.junk::.junk::.junk::.junk::.junk::.junk::(V.kill n0 te)::(V.kill n0 tc)::(V.kill n0 ta)::(V.kill n0 tj)::(V.kill n0 tg)::(V.kill n0 th)::(V.kill n0 tf)::(V.kill n0 tm)::(V.kill n0 tk)::(V.kill n0 tl)::(V.kill n0 ti)::(V.kill n0 tq)::(V.kill n0 tp)::(V.kill n0 tr)::(V.kill n0 tn)::(V.kill n0 tt)::(V.kill n0 ts)::(V.kill n0 tv)::(V.kill n0 tu)::(V.kill n0 tz)::(V.kill n0 tx)::(V.kill n0 ty)::(V.kill n0 tw)::(V.kill n0 tA)::(V.kill n0 tC)::(V.kill n0 tD)::(V.kill n0 tB)::(V.kill n0 tF)::(V.kill n0 tE)::(V.kill n0 tI)::(V.kill n0 tG)::(V.kill n0 tH)::(V.kill n0 tK)::(V.kill n0 tJ)::[]),b7 n0 hL⟩):=kI
theorem Pe:ap (xX s 15 wl k false) (am s.P Tryz.f15) IL (.exit 0) ⟨(c::e::j::f::o::g::u::v::y::A::z::J::D::E::F::G::B::L::M::N::I::Q::O::U::T::R::X::W::Z::Y::t0::t3::t4::t2::t5::t1::t6::t7::t8::t9::td::tb::te::tc::ta::tj::tg::th::tf::tm::tk::tl::ti::zz),h⟩ =
 bm (ab s.P 30 e h) h fun vP hq=>
 bm (a8 s.P 48 []) hq fun vs h63=>
 bm (a8 s.P 48 [(0,(.lit (.int .i64 2)))]) h63 fun vt h65=>
 bp (aA s.P wl 31 2 [(0,vs),(1,vt)] h65) fun vu h67=>
 bp (yC s k wl 15 false true (.fn (.func 17) [] []) [vP,vu] h67) fun vH h69=>
 bm (ao vH 0) h69 fun vv h71=>
 bm (ao vH 1) h71 fun vZ h73=>
 bp (aw s.P 30 h73) fun vw h75=>
 bs (ah s.P wl 30 vw vv h75) fun hC=>
 gd j (
 yO s k wl 15 Tryz.f15 dF 3 hC.length ([],[]) dy ⟨(c::e::j::f::o::g::u::vw::vZ::A::z::J::D::E::F::G::B::L::M::N::I::Q::O::U::T::R::X::W::Z::Y::t0::t3::t4::t2::t5::t1::t6::t7::t8::t9::td::tb::vH::vP::vs::vt::vu::vH::vv::vZ::j::(.lit (.bool true))::f::zz),hC⟩) (
 yO s k wl 15 Tryz.f15 dF 3 hC.length ([],[]) dy ⟨(c::e::j::f::o::g::u::vw::vZ::A::z::J::D::E::F::G::B::L::M::N::I::Q::O::U::T::R::X::W::Z::Y::t0::t3::t4::t2::t5::t1::t6::t7::t8::t9::td::tb::vH::vP::vs::vt::vu::vH::vv::vZ::j::(.lit (.bool false))::uu::zz),hC⟩) (
 yO s k wl 15 Tryz.f15 dF 3 hC.length ([],[]) dy ⟨(c::e::j::f::o::g::u::vw::vZ::A::z::J::D::E::F::G::B::L::M::N::I::Q::O::U::T::R::X::W::Z::Y::t0::t3::t4::t2::t5::t1::t6::t7::t8::t9::td::tb::vH::vP::vs::vt::vu::vH::vv::vZ::j::j::uu::zz),hC⟩):=kR
theorem OP:yO s k wl 15 Tryz.f15 dF 3 m0 ac dy ⟨(c::e::j::f::o::g::u::v::y::A::z::J::D::E::F::G::B::L::M::N::I::Q::O::U::T::R::X::W::Z::Y::t0::t3::t4::t2::t5::t1::t6::t7::t8::t9::td::tb::te::tc::ta::tj::tg::th::tf::tm::tk::tl::ti::tq::tp::tr::tn::zz),h⟩ =
 bm (aM tl ti (.lit (.bool false))) h fun vQ hK=>
 gd vQ (
 bm (ab s.P 30 e hK) hK fun vx hr=>
 bp (yC s k wl 15 false true (.fn (.func 29) [] []) [vx] hr) fun v81 hs=>
 yO s k wl 15 Tryz.f15 dF 7 m0 ac dy ⟨(c::e::j::f::o::g::u::v::y::A::z::J::D::E::F::G::B::L::M::N::I::Q::O::U::T::R::X::W::Z::Y::t0::t3::t4::t2::t5::t1::t6::t7::t8::t9::td::tb::te::tc::ta::tj::tg::th::tf::tm::tk::tl::ti::vQ::(.lit (.bool true))::vx::v81::zz),hs⟩) (
 yO s k wl 15 Tryz.f15 dF 7 m0 ac dy ⟨(c::e::j::f::o::g::u::v::y::A::z::J::D::E::F::G::B::L::M::N::I::Q::O::U::T::R::X::W::Z::Y::t0::t3::t4::t2::t5::t1::t6::t7::t8::t9::td::tb::te::tc::ta::tj::tg::th::tf::tm::tk::tl::ti::vQ::(.lit (.bool false))::uu::uu::zz),hK⟩) (
 yO s k wl 15 Tryz.f15 dF 6 m0 ac dy ⟨(c::e::j::f::o::g::u::v::y::A::z::J::D::E::F::G::B::L::M::N::I::Q::O::U::T::R::X::W::Z::Y::t0::t3::t4::t2::t5::t1::t6::t7::t8::t9::td::tb::te::tc::ta::tj::tg::th::tf::tm::tk::tl::ti::vQ::vQ::uu::tn::zz),hK⟩):=kG
theorem Oc:yO s k wl 15 Tryz.f15 dF 7 m0 ac dy ⟨(c::e::j::f::o::g::u::v::y::A::z::J::D::E::F::G::B::L::M::N::I::Q::O::U::T::R::X::W::Z::Y::t0::t3::t4::t2::t5::t1::t6::t7::t8::t9::td::tb::te::tc::ta::tj::tg::th::tf::tm::tk::tl::ti::tq::tp::tr::tn::tt::ts::tv::tu::zz),h⟩ =
 bm (aM tp tn (.lit (.bool false))) h fun vR hM=>
 gd vR (
 bm (ab s.P 30 e hM) hM fun vy ht=>
 bp (yC s k wl 15 false true (.fn (.func 25) [] []) [vy] ht) fun va hu=>
 yO s k wl 15 Tryz.f15 dF 11 m0 ac dy ⟨(c::e::j::f::o::g::u::v::y::A::z::J::D::E::F::G::B::L::M::N::I::Q::O::U::T::R::X::W::Z::Y::t0::t3::t4::t2::t5::t1::t6::t7::t8::t9::td::tb::te::tc::ta::tj::tg::th::tf::tm::tk::tl::ti::tq::tp::tr::tn::vR::(.lit (.bool true))::vy::va::zz),hu⟩) (
 yO s k wl 15 Tryz.f15 dF 11 m0 ac dy ⟨(c::e::j::f::o::g::u::v::y::A::z::J::D::E::F::G::B::L::M::N::I::Q::O::U::T::R::X::W::Z::Y::t0::t3::t4::t2::t5::t1::t6::t7::t8::t9::td::tb::te::tc::ta::tj::tg::th::tf::tm::tk::tl::ti::tq::tp::tr::tn::vR::(.lit (.bool false))::uu::uu::zz),hM⟩) (
 yO s k wl 15 Tryz.f15 dF 10 m0 ac dy ⟨(c::e::j::f::o::g::u::v::y::A::z::J::D::E::F::G::B::L::M::N::I::Q::O::U::T::R::X::W::Z::Y::t0::t3::t4::t2::t5::t1::t6::t7::t8::t9::td::tb::te::tc::ta::tj::tg::th::tf::tm::tk::tl::ti::tq::tp::tr::tn::vR::vR::uu::tu::zz),hM⟩):=kG
theorem O4:yO s k wl 15 Tryz.f15 dF 11 m0 ac dy ⟨(c::e::j::f::o::g::u::v::y::A::z::J::D::E::F::G::B::L::M::N::I::Q::O::U::T::R::X::W::Z::Y::t0::t3::t4::t2::t5::t1::t6::t7::t8::t9::td::tb::te::tc::ta::tj::tg::th::tf::tm::tk::tl::ti::tq::tp::tr::tn::tt::ts::tv::tu::tz::tx::ty::tw::tA::zz),h⟩ =
 bm (aM ts tu (.lit (.bool false))) h fun vC hH=>
 gd vC (
 bp (a9 s.P 34 y hH) fun vh hv=>
 bm (au s.P .eql 3 vh (.lit (.int .i64 0))) hv fun vz hw=>
 yO s k wl 15 Tryz.f15 dF 16 m0 ac dy ⟨(c::e::j::f::o::g::u::v::y::A::z::J::D::E::F::G::B::L::M::N::I::Q::O::U::T::R::X::W::Z::Y::t0::t3::t4::t2::t5::t1::t6::t7::t8::t9::td::tb::te::tc::ta::tj::tg::th::tf::tm::tk::tl::ti::tq::tp::tr::tn::tt::ts::tv::tu::vC::(.lit (.bool true))::y::vh::vz::zz),hw⟩) (
 yO s k wl 15 Tryz.f15 dF 16 m0 ac dy ⟨(c::e::j::f::o::g::u::v::y::A::z::J::D::E::F::G::B::L::M::N::I::Q::O::U::T::R::X::W::Z::Y::t0::t3::t4::t2::t5::t1::t6::t7::t8::t9::td::tb::te::tc::ta::tj::tg::th::tf::tm::tk::tl::ti::tq::tp::tr::tn::tt::ts::tv::tu::vC::(.lit (.bool false))::uu::uu::uu::zz),hH⟩) (
 yO s k wl 15 Tryz.f15 dF 14 m0 ac dy ⟨(c::e::j::f::o::g::u::v::y::A::z::J::D::E::F::G::B::L::M::N::I::Q::O::U::T::R::X::W::Z::Y::t0::t3::t4::t2::t5::t1::t6::t7::t8::t9::td::tb::te::tc::ta::tj::tg::th::tf::tm::tk::tl::ti::tq::tp::tr::tn::tt::ts::tv::tu::vC::vC::uu::tw::tA::zz),hH⟩):=kG
theorem O9:yO s k wl 15 Tryz.f15 dF 16 m0 ac dy ⟨(c::e::j::f::o::g::u::v::y::A::z::J::D::E::F::G::B::L::M::N::I::Q::O::U::T::R::X::W::Z::Y::t0::t3::t4::t2::t5::t1::t6::t7::t8::t9::td::tb::te::tc::ta::tj::tg::th::tf::tm::tk::tl::ti::tq::tp::tr::tn::tt::ts::tv::tu::tz::tx::ty::tw::tA::tC::tD::tB::tF::tE::zz),h⟩ =
 bm (aM tx tA (.lit (.bool false))) h fun vS hN=>
 gd vS (
 bm (ab s.P 30 e hN) hN fun v97 hc=>
 bm (ab s.P 30 e hc) hc fun vI hD=>
 bp (yC s k wl 15 false true (.fn (.func 19) [] []) [v97,vI] hD) fun vb hS=>
 yO s k wl 15 Tryz.f15 dF 21 m0 ac dy ⟨(c::e::j::f::o::g::u::v::y::A::z::J::D::E::F::G::B::L::M::N::I::Q::O::U::T::R::X::W::Z::Y::t0::t3::t4::t2::t5::t1::t6::t7::t8::t9::td::tb::te::tc::ta::tj::tg::th::tf::tm::tk::tl::ti::tq::tp::tr::tn::tt::ts::tv::tu::tz::tx::ty::tw::tA::vS::(.lit (.bool true))::v97::vI::vb::zz),hS⟩) (
 yO s k wl 15 Tryz.f15 dF 21 m0 ac dy ⟨(c::e::j::f::o::g::u::v::y::A::z::J::D::E::F::G::B::L::M::N::I::Q::O::U::T::R::X::W::Z::Y::t0::t3::t4::t2::t5::t1::t6::t7::t8::t9::td::tb::te::tc::ta::tj::tg::th::tf::tm::tk::tl::ti::tq::tp::tr::tn::tt::ts::tv::tu::tz::tx::ty::tw::tA::vS::(.lit (.bool false))::uu::uu::uu::zz),hN⟩) (
 yO s k wl 15 Tryz.f15 dF 19 m0 ac dy ⟨(c::e::j::f::o::g::u::v::y::A::z::J::D::E::F::G::B::L::M::N::I::Q::O::U::T::R::X::W::Z::Y::t0::t3::t4::t2::t5::t1::t6::t7::t8::t9::td::tb::te::tc::ta::tj::tg::th::tf::tm::tk::tl::ti::tq::tp::tr::tn::tt::ts::tv::tu::tz::tx::ty::tw::tA::vS::vS::uu::tF::tE::zz),hN⟩):=kG
theorem On:yO s k wl 15 Tryz.f15 dF 21 m0 ac dy ⟨(c::e::j::f::o::g::u::v::y::A::z::J::D::E::F::G::B::L::M::N::I::Q::O::U::T::R::X::W::Z::Y::t0::t3::t4::t2::t5::t1::t6::t7::t8::t9::td::tb::te::tc::ta::tj::tg::th::tf::tm::tk::tl::ti::tq::tp::tr::tn::tt::ts::tv::tu::tz::tx::ty::tw::tA::tC::tD::tB::tF::tE::tI::tG::tH::tK::tJ::[]),h⟩ =
 bm (aM tD tE (.lit (.bool false))) h fun vD hE=>
 gd vD (
 bm (ab s.P 30 v hE) hE fun vc hT=>
 bp (yC s k wl 15 false true (.fn (.func 20) [] []) [vc] hT) fun vF hF=>
 yO s k wl 15 Tryz.f15 dF 25 m0 ac dy ⟨(c::e::j::f::o::g::u::v::y::A::z::J::D::E::F::G::B::L::M::N::I::Q::O::U::T::R::X::W::Z::Y::t0::t3::t4::t2::t5::t1::t6::t7::t8::t9::td::tb::te::tc::ta::tj::tg::th::tf::tm::tk::tl::ti::tq::tp::tr::tn::tt::ts::tv::tu::tz::tx::ty::tw::tA::tC::tD::tB::tF::tE::vD::(.lit (.bool true))::vc::vF::tJ::[]),hF⟩) (
 yO s k wl 15 Tryz.f15 dF 25 m0 ac dy ⟨(c::e::j::f::o::g::u::v::y::A::z::J::D::E::F::G::B::L::M::N::I::Q::O::U::T::R::X::W::Z::Y::t0::t3::t4::t2::t5::t1::t6::t7::t8::t9::td::tb::te::tc::ta::tj::tg::th::tf::tm::tk::tl::ti::tq::tp::tr::tn::tt::ts::tv::tu::tz::tx::ty::tw::tA::tC::tD::tB::tF::tE::vD::(.lit (.bool false))::uu::uu::tJ::[]),hE⟩) (
 yO s k wl 15 Tryz.f15 dF 24 m0 ac dy ⟨(c::e::j::f::o::g::u::v::y::A::z::J::D::E::F::G::B::L::M::N::I::Q::O::U::T::R::X::W::Z::Y::t0::t3::t4::t2::t5::t1::t6::t7::t8::t9::td::tb::te::tc::ta::tj::tg::th::tf::tm::tk::tl::ti::tq::tp::tr::tn::tt::ts::tv::tu::tz::tx::ty::tw::tA::tC::tD::tB::tF::tE::vD::vD::uu::tK::tJ::[]),hE⟩):=kG
theorem NY:yO s k wl 15 Tryz.f15 dF 25 m0 ac dy ⟨(c::e::j::f::o::g::u::v::y::A::z::J::D::E::F::G::B::L::M::N::I::Q::O::U::T::R::X::W::Z::Y::t0::t3::t4::t2::t5::t1::t6::t7::t8::t9::td::tb::te::tc::ta::tj::tg::th::tf::tm::tk::tl::ti::tq::tp::tr::tn::tt::ts::tv::tu::tz::tx::ty::tw::tA::tC::tD::tB::tF::tE::tI::tG::tH::tK::tJ::[]),h⟩ =
 bm (aM tG tK (.lit (.bool false))) h fun vd hU=>
 some (vd,hU):=kG
theorem uk (cx:Cx) (s:St):ap cx K ib .ret s=K .ret s:=by kernel_rfl
theorem us (cx:Cx) (s:St):ap cx K IL .ret s=K .ret s:=by kernel_rfl
theorem rX (cx:Cx) (s:St):ap cx K dy .ret s=K .ret s:=by kernel_rfl
-- names: ac7,adn,OJ,N4,N2,OD,Pe,OP,Oc,O4,O9,On,NY,uk,us,rX
noncomputable def oq:Code:=ak (al Tryz.f22) [1,0,1,0,0]
noncomputable def Fz:List Fr:=[.block 0,.seq (ak (al Tryz.f22) [1,1])]
noncomputable def D5:Code:=ak (al Tryz.f22) [1,0,1,0,0,0,0]
noncomputable def BR:List Fr:=[.seq (ak (al Tryz.f22) [1,0,1,0,0,0,1]),.seq (ak (al Tryz.f22) [1,0,1,0,0,1])]
theorem ZN:ai (xX s 22 wl k false) Tryz.f22 [c] h =
 yI s k wl 22 Tryz.f22 oq h.length Fz k ⟨[(V.kill h.length c),(V.kill h.length uu),(.lit (.bool false)),(.lit (.int .i64 0)),.junk,.junk,.junk,.junk,.junk,.junk,.junk,.junk,.junk,.junk,.junk,.junk,.junk,.junk,.junk,.junk,(V.kill h.length uu),(V.kill h.length uu),(V.kill h.length uu)],b7 h.length h⟩:=kB
theorem adI:evF Tryz.prog xM (k+1) wl 22 [c] h=ai (xX (xS k) 22 wl k false) Tryz.f22 [c] h:=by kernel_rfl
theorem Zr (P:Program):am P Tryz.f22 .ret ⟨[c,e,j,f,o,g,u,v,y,A,z,J,D,E,F,G,B,L,M,N,I,Q,O],h⟩=some (j,h):=by kernel_rfl
theorem O0:itX (xX s 22 wl k rd) oq n0 K (n+1) ⟨(c::e::j::f::o::g::u::v::y::A::z::zz),h⟩ =
 bp (a9 s.P 40 c h) fun v1 h2=>
 bm (au s.P .lss 3 f v1) h2 fun v3 h4=>
 gd v3 (
 bm (au s.P .leq 3 f (.lit (.int .i64 10))) h4 fun v5 h6=>
 bz (xX s 22 wl k rd) D5 7 h.length ([],[]) (ap (xX s 22 wl k rd) (eJ (xX s 22 wl k rd) oq n0 K n) BR) ⟨(c::e::j::f::f::c::v1::v3::(.lit (.bool true))::f::v5::zz),h6⟩) (
 bz (xX s 22 wl k rd) D5 7 h.length ([],[]) (ap (xX s 22 wl k rd) (eJ (xX s 22 wl k rd) oq n0 K n) BR) ⟨(c::e::j::f::f::c::v1::v3::(.lit (.bool false))::uu::uu::zz),h4⟩) (
 bz (xX s 22 wl k rd) D5 6 h.length ([],[]) (ap (xX s 22 wl k rd) (eJ (xX s 22 wl k rd) oq n0 K n) BR) ⟨(c::e::j::f::f::c::v1::v3::v3::uu::z::zz),h4⟩):=kI
theorem IA:ap (xX s 22 wl k false) (am s.P Tryz.f22) Fz (.exit 0) ⟨[c,e,j,f,o,g,u,v,y,A,z,J,D,E,F,G,B,L,M,N,I,Q,O],h⟩ =
 bp (a9 s.P 40 c h) fun v7 h8=>
 bm (au s.P .leq 3 v7 (.lit (.int .i64 10))) h8 fun v9 hI=>
 some (v9,hI):=kR
theorem IE:bz (xX s 22 wl k rd) D5 7 m0 ac (ap (xX s 22 wl k rd) (eJ (xX s 22 wl k rd) oq n0 K n) BR) ⟨[c,e,j,f,o,g,u,v,y,A,z,J,D,E,F,G,B,L,M,N,I,Q,O],h⟩ =
 bm (aM y z (.lit (.bool false))) h fun v11 hQ=>
 cnd v11 (
 bm (aj s.P 40 c f hQ) hQ fun vJ hO=>
 bm (ab s.P 53 vJ hO) hO fun v15 hx=>
 bp (a9 s.P 53 v15 hx) fun vK hR=>
 bm (au s.P .gtr 3 vK (.lit (.int .i64 60))) hR fun vL hd=>
 cnd vL (
 K .ret ⟨[c,e,(.lit (.bool false)),f,o,g,u,v,y,A,z,v11,D,E,c,f,vJ,v15,vK,vL,I,Q,O],hd⟩) (
 bm (au s.P .add 3 f (.lit (.int .i64 1))) hd fun vB hy=>
 itX (xX s 22 wl k rd) oq n0 K n ⟨[(V.kill n0 c),(V.kill n0 e),(V.kill n0 j),(V.kill n0 vB),.junk,.junk,.junk,.junk,.junk,.junk,.junk,.junk,.junk,.junk,.junk,.junk,.junk,.junk,.junk,.junk,(V.kill n0 I),(V.kill n0 Q),(V.kill n0 O)],b7 n0 hy⟩)) (
 K (.exit 0) ⟨[(V.kill n0 c),(V.kill n0 e),(V.kill n0 j),(V.kill n0 f),.junk,.junk,.junk,.junk,.junk,.junk,.junk,.junk,.junk,.junk,.junk,.junk,.junk,.junk,.junk,.junk,(V.kill n0 I),(V.kill n0 Q),(V.kill n0 O)],b7 n0 hQ⟩):=kG
theorem nw (cx:Cx) (s:St):ap cx K Fz .ret s=K .ret s:=by kernel_rfl
theorem nE (cx:Cx) (s:St):ap cx K BR .ret s=K .ret s:=by kernel_rfl
-- names: ZN,Zr,O0,IA,IE,nw,nE
end
end Go.Ab
set_option maxRecDepth 100000
set_option linter.unusedVariables false
namespace Go.Ab
open Go.Proofs
section
variable (s:Sys) (k wl:Nat) (m0:Nat) (ac:List Nat×List Nat) (d f g o j v y r u z D A B M N O I Q L E J G F R W X T U Y t0 Z t2 t3 t4 t1 t5 t6 t8 t9 ta t7 te tb tc td:V) (h:Hp) (K:Out→St→Option (V×Hp)) (rd:Bool) (n n0:Nat) (zz:List V)
theorem GI{P:Program} {wl:Nat} {c:Bool} {t e:TypeId} {α:Type} {enc:α→List V} {l:List α} {k k' k2:IntKind} {lo n m:Int} {H:Hp} (he:gK P t=some e) (hz:(aO P e !=0)=true) (h:∀ x,(enc x).length=aO P e) :
  bV P wl c t (.ro (l.map enc)) (some (.lit (.int k lo))) (some (.lit (.int k' n))) (some (.lit (.int k2 m))) H=bif decide (0≤lo∧lo≤n∧n≤m∧m≤l.length) then some (.ro (((l.take n.toNat).drop lo.toNat).map enc),H) else none:=by
 have hz':aO P e≠0:=by simpa using hz
 unfold bV
 simp only [he,bnd]
 by_cases h0:0≤lo∧lo≤n∧n≤m∧m≤l.length
 ·have h1:0≤lo:=h0.1
  have h2:0≤n:=by omega
  have h3:0≤m:=by omega
  have h4:lo.toNat≤n.toNat:=by omega
  have h5:n.toNat≤m.toNat:=by omega
  have h6:m.toNat≤l.length:=by omega
  simp [h0,h1,h2,h3,h4,h5,h6,hz',Af h,List.map_take,List.map_drop]
  omega
 ·rw [decide_eq_false h0]
  by_cases h1:0≤lo
  ·by_cases h2:0≤n
   ·by_cases h3:0≤m
    ·have:¬ (lo.toNat≤n.toNat∧n.toNat≤m.toNat∧m.toNat≤l.length):=by omega
     simp only [h1,h2,h3,if_true,Option.bind_some,List.length_map,cond_false]
     rw [if_neg (fun hh=>this ⟨hh.2.1,hh.2.2.1,hh.2.2.2.1⟩)]
    ·simp [h1,h2,h3]
   ·simp [h1,h2]
  ·simp [h1]
theorem WZ (kk:Nat) (wl:Nat) (c:Bool) (l:List Int) (k k2 k3:IntKind) (lo n m:Int) (H:Hp):bV (xS kk).P wl c 67 (.ro (l.map (aF .u8))) (some (.lit (.int k lo))) (some (.lit (.int k2 n))) (some (.lit (.int k3 m))) H=bif decide (0≤lo∧lo≤n∧n≤m∧m≤l.length) then some (.ro (((l.take n.toNat).drop lo.toNat).map (aF .u8)),H) else none:=GI (e:=5) (by kernel_rfl) (by kernel_rfl) (fun _=>by kernel_rfl)
end
end Go.Ab
set_option maxRecDepth 100000
set_option linter.unusedVariables false
namespace Go.Ab
open Go.Proofs
section
variable (s:Sys) (k wl:Nat) (m0:Nat) (ac:List Nat×List Nat) (d b a e x y l o z j f R A q g r B D E F G I J u L v O N Q M ta T tb tc td te tf tg th ti tj t3 t4 t5 t6 X t7 Y Z U t8 t0 t9 t1 t2 W tk tl tm tn tp tq tr ts tt tu tv tz tA tB tC tD tE tF tG tH tI tJ tK tL tM tN tx tO ty tw tS tQ tT tR tP tX tV tY tW tU q5 q0 q6 q1 q2 q3 q4 tZ qd q8 qe q9 qa qb qc q7 qg qh qi qf qk qj ql qp qm qn qo qq qr qs qy qv qz qw qx qu qt:V) (h:Hp) (K:Out→St→Option (V×Hp)) (rd:Bool) (n n0:Nat) (zz:List V)
noncomputable def BH:Code:=ak (al Tryz.f7) [1,1,1,1,0,0]
noncomputable def wU:List Fr:=[.seq (ak (al Tryz.f7) [1,1,1,1,0,1]),.seq (ak (al Tryz.f7) [1,1,1,1,1])]
noncomputable def Bv:Code:=ak (al Tryz.f7) [1,1,1,1,1,1,0,1,0,0]
noncomputable def Ae:List Fr:=[.seq (ak (al Tryz.f7) [1,1,1,1,1,1,0,1,0,1]),.seq (ak (al Tryz.f7) [1,1,1,1,1,1,1])]
noncomputable def NF:Code:=ak (al Tryz.f7) [1,1,1,1,1,1,1,1,1,0,1,0,0]
noncomputable def MK:List Fr:=[.block 0,.seq (ak (al Tryz.f7) [1,1,1,1,1,1,1,1,1,1])]
noncomputable def bE:Code:=ak (al Tryz.f7) [1,1,1,1,1,1,1,1,1,1,0]
noncomputable def bB:List Fr:=[.seq (ak (al Tryz.f7) [1,1,1,1,1,1,1,1,1,1,1])]
theorem xb7:ai (xX s 7 wl k false) Tryz.f7 [d,b,a] h =
 bp (aL d h) fun v1 h2=>
 bp (bZ (xX s 7 wl k false) false true (.fn (.func 15) [] []) [] h2) fun v3 h4=>
 bp (bZ (xX s 7 wl k false) false true (.fn (.func 21) [] []) [b] h4) fun v5 h6=>
 bp (bZ (xX s 7 wl k false) false true (.fn (.func 22) [] []) [a] h6) fun v7 h8=>
 bm (vUn .not v3) h8 fun v9 hI=>
 gd v9 (
 bz (xX s 7 wl k false) BH 5 h8.length ([],[]) (ap (xX s 7 wl k false) (am s.P Tryz.f7) wU) ⟨(d::b::a::v1::uu::uu::(.lit (.bool false))::v3::v5::v7::uu::uu::uu::uu::uu::uu::v3::b::v5::a::v7::v3::v9::(.lit (.bool true))::uu::uu::uu::uu::uu::uu::uu::uu::uu::uu::uu::uu::uu::uu::uu::uu::uu::uu::uu::uu::uu::uu::uu::uu::uu::uu::uu::uu::uu::uu::uu::uu::uu::uu::uu::uu::uu::uu::uu::uu::uu::uu::uu::uu::uu::uu::uu::uu::uu::uu::uu::uu::uu::uu::uu::uu::uu::uu::uu::uu::uu::uu::uu::uu::uu::uu::uu::uu::uu::uu::uu::uu::uu::uu::uu::uu::uu::uu::uu::uu::uu::uu::uu::uu::uu::uu::uu::uu::uu::uu::uu::uu::uu::uu::uu::uu::uu::uu::uu::uu::uu::uu::uu::uu::uu::uu::uu::uu::uu::[]),hI⟩) (
 bm (vUn .not v5) hI fun v11 hQ=>
 bz (xX s 7 wl k false) BH 5 h8.length ([],[]) (ap (xX s 7 wl k false) (am s.P Tryz.f7) wU) ⟨(d::b::a::v1::uu::uu::(.lit (.bool false))::v3::v5::v7::uu::uu::uu::uu::uu::uu::v3::b::v5::a::v7::v3::v9::(.lit (.bool false))::v5::v11::uu::uu::uu::uu::uu::uu::uu::uu::uu::uu::uu::uu::uu::uu::uu::uu::uu::uu::uu::uu::uu::uu::uu::uu::uu::uu::uu::uu::uu::uu::uu::uu::uu::uu::uu::uu::uu::uu::uu::uu::uu::uu::uu::uu::uu::uu::uu::uu::uu::uu::uu::uu::uu::uu::uu::uu::uu::uu::uu::uu::uu::uu::uu::uu::uu::uu::uu::uu::uu::uu::uu::uu::uu::uu::uu::uu::uu::uu::uu::uu::uu::uu::uu::uu::uu::uu::uu::uu::uu::uu::uu::uu::uu::uu::uu::uu::uu::uu::uu::uu::uu::uu::uu::uu::uu::uu::uu::[]),hQ⟩) (
 bz (xX s 7 wl k false) BH 4 h8.length ([],[]) (ap (xX s 7 wl k false) (am s.P Tryz.f7) wU) ⟨(d::b::a::v1::uu::uu::(.lit (.bool false))::v3::v5::v7::uu::uu::uu::uu::uu::uu::v3::b::v5::a::v7::v3::v9::v9::uu::uu::uu::uu::uu::uu::uu::uu::uu::uu::uu::uu::uu::uu::uu::uu::uu::uu::uu::uu::uu::uu::uu::uu::uu::uu::uu::uu::uu::uu::uu::uu::uu::uu::uu::uu::uu::uu::uu::uu::uu::uu::uu::uu::uu::uu::uu::uu::uu::uu::uu::uu::uu::uu::uu::uu::uu::uu::uu::uu::uu::uu::uu::uu::uu::uu::uu::uu::uu::uu::uu::uu::uu::uu::uu::uu::uu::uu::uu::uu::uu::uu::uu::uu::uu::uu::uu::uu::uu::uu::uu::uu::uu::uu::uu::uu::uu::uu::uu::uu::uu::uu::uu::uu::uu::uu::uu::uu::uu::[]),hI⟩):=kB
theorem xe7:evF Tryz.prog xM (k+1) wl 7 [d,b,a] h=ai (xX (xS k) 7 wl k false) Tryz.f7 [d,b,a] h:=by kernel_rfl
theorem xz7 (P:Program):am P Tryz.f7 .ret ⟨(d::b::a::e::x::y::l::o::z::j::f::R::A::q::g::r::B::D::E::F::G::I::J::u::L::v::O::N::Q::M::ta::T::tb::tc::td::te::tf::tg::th::ti::tj::t3::t4::t5::t6::X::t7::Y::Z::U::t8::t0::t9::t1::t2::W::tk::tl::tm::tn::tp::tq::tr::ts::tt::tu::tv::tz::tA::tB::tC::tD::tE::tF::tG::tH::tI::tJ::tK::tL::tM::tN::tx::tO::ty::tw::tS::tQ::tT::tR::tP::tX::tV::tY::tW::tU::q5::q0::q6::q1::q2::q3::q4::tZ::qd::q8::qe::q9::qa::qb::qc::q7::qg::qh::qi::qf::qk::qj::ql::qp::qm::qn::qo::qq::qr::qs::qy::qv::qz::qw::qx::qu::qt::[]),h⟩=some (l,h):=by kernel_rfl
theorem Qh:bz (xX s 7 wl k false) BH 5 m0 ac (ap (xX s 7 wl k false) (am s.P Tryz.f7) wU) ⟨(d::b::a::e::x::y::l::o::z::j::f::R::A::q::g::r::B::D::E::F::G::I::J::u::L::v::O::N::Q::M::zz),h⟩ =
 bm (aM u (.lit (.bool true)) v) h fun vJ hO=>
 gd vJ (
 bz (xX s 7 wl k false) BH 9 m0 ac (ap (xX s 7 wl k false) (am s.P Tryz.f7) wU) ⟨(d::b::a::e::x::y::l::o::z::j::f::R::A::q::g::r::B::D::E::F::G::I::J::u::L::v::vJ::(.lit (.bool true))::uu::uu::zz),hO⟩) (
 bm (vUn .not j) hO fun v15 hx=>
 bz (xX s 7 wl k false) BH 9 m0 ac (ap (xX s 7 wl k false) (am s.P Tryz.f7) wU) ⟨(d::b::a::e::x::y::l::o::z::j::f::R::A::q::g::r::B::D::E::F::G::I::J::u::L::v::vJ::(.lit (.bool false))::j::v15::zz),hx⟩) (
 bz (xX s 7 wl k false) BH 8 m0 ac (ap (xX s 7 wl k false) (am s.P Tryz.f7) wU) ⟨(d::b::a::e::x::y::l::o::z::j::f::R::A::q::g::r::B::D::E::F::G::I::J::u::L::v::vJ::vJ::uu::M::zz),hO⟩):=kG
theorem TJ:bz (xX s 7 wl k false) BH 9 m0 ac (ap (xX s 7 wl k false) (am s.P Tryz.f7) wU) ⟨(d::b::a::e::x::y::l::o::z::j::f::R::A::q::g::r::B::D::E::F::G::I::J::u::L::v::O::N::Q::M::ta::T::tb::tc::td::te::tf::tg::th::ti::tj::t3::t4::t5::t6::X::t7::Y::Z::U::t8::t0::t9::t1::t2::W::tk::tl::tm::tn::tp::tq::tr::ts::tt::tu::tv::tz::tA::tB::tC::tD::tE::tF::tG::tH::tI::tJ::tK::tL::tM::tN::tx::tO::ty::tw::tS::tQ::tT::tR::tP::tX::tV::tY::tW::tU::q5::q0::q6::q1::q2::q3::q4::tZ::qd::q8::qe::q9::qa::qb::qc::q7::qg::qh::qi::qf::qk::qj::ql::qp::qm::qn::qo::qq::qr::qs::qy::qv::qz::qw::qx::qu::qt::[]),h⟩ =
 bm (aM N (.lit (.bool true)) M) h fun vK hR=>
 cnd vK (
 some (o,hR)) (
 bm (ab s.P 23 e hR) hR fun vL hd=>
 bp (bZ (xX s 7 wl k false) false true (.fn (.func 23) [] []) [vL,b,a] hd) fun vB hy=>
 bm (ao vB 0) hy fun vi h24=>
 bm (ao vB 1) h24 fun vA h26=>
 bp (aw s.P 30 h26) fun vT h28=>
 bs (ah s.P wl 30 vT vi h28) fun hf=>
 bm (vUn .not vA) hf fun vM hG=>
 cnd vM (
 bm (aa s.P 30 vT 3) hG fun vE hJ=>
 bm (ab s.P 27 vE hJ) hJ fun vN hg=>
 bp (a9 s.P 27 vN hg) fun vY hi=>
 bm (au s.P .eql 3 vY (.lit (.int .i64 0))) hi fun vG hB=>
 gd vG (
 bm (aa s.P 30 vT 4) hB fun vm hL=>
 bm (ab s.P 28 vm hL) hL fun vn hj=>
 bp (a9 s.P 28 vn hj) fun vo hk=>
 bm (au s.P .eql 3 vo (.lit (.int .i64 0))) hk fun vp hl=>
 bz (xX s 7 wl k false) Bv 9 hG.length ([],[]) (ap (xX s 7 wl k false) (am s.P Tryz.f7) Ae) ⟨(d::b::a::e::x::y::l::o::z::j::vT::vA::A::q::g::r::B::D::E::F::G::I::J::u::L::v::O::N::Q::M::vK::T::vB::vL::b::a::vB::vi::vA::vA::vM::vE::vN::vY::vG::(.lit (.bool true))::vm::vn::vo::vp::t8::t0::t9::t1::t2::W::tk::tl::tm::tn::tp::tq::tr::ts::tt::tu::tv::tz::tA::tB::tC::tD::tE::tF::tG::tH::tI::tJ::tK::tL::tM::tN::tx::tO::ty::tw::tS::tQ::tT::tR::tP::tX::tV::tY::tW::tU::q5::q0::q6::q1::q2::q3::q4::tZ::qd::q8::qe::q9::qa::qb::qc::q7::qg::qh::qi::qf::qk::qj::ql::qp::qm::qn::qo::qq::qr::qs::qy::qv::qz::qw::qx::qu::qt::[]),hl⟩) (
 bz (xX s 7 wl k false) Bv 9 hG.length ([],[]) (ap (xX s 7 wl k false) (am s.P Tryz.f7) Ae) ⟨(d::b::a::e::x::y::l::o::z::j::vT::vA::A::q::g::r::B::D::E::F::G::I::J::u::L::v::O::N::Q::M::vK::T::vB::vL::b::a::vB::vi::vA::vA::vM::vE::vN::vY::vG::(.lit (.bool false))::uu::uu::uu::uu::t8::t0::t9::t1::t2::W::tk::tl::tm::tn::tp::tq::tr::ts::tt::tu::tv::tz::tA::tB::tC::tD::tE::tF::tG::tH::tI::tJ::tK::tL::tM::tN::tx::tO::ty::tw::tS::tQ::tT::tR::tP::tX::tV::tY::tW::tU::q5::q0::q6::q1::q2::q3::q4::tZ::qd::q8::qe::q9::qa::qb::qc::q7::qg::qh::qi::qf::qk::qj::ql::qp::qm::qn::qo::qq::qr::qs::qy::qv::qz::qw::qx::qu::qt::[]),hB⟩) (
 bz (xX s 7 wl k false) Bv 6 hG.length ([],[]) (ap (xX s 7 wl k false) (am s.P Tryz.f7) Ae) ⟨(d::b::a::e::x::y::l::o::z::j::vT::vA::A::q::g::r::B::D::E::F::G::I::J::u::L::v::O::N::Q::M::vK::T::vB::vL::b::a::vB::vi::vA::vA::vM::vE::vN::vY::vG::vG::uu::Y::Z::U::t8::t0::t9::t1::t2::W::tk::tl::tm::tn::tp::tq::tr::ts::tt::tu::tv::tz::tA::tB::tC::tD::tE::tF::tG::tH::tI::tJ::tK::tL::tM::tN::tx::tO::ty::tw::tS::tQ::tT::tR::tP::tX::tV::tY::tW::tU::q5::q0::q6::q1::q2::q3::q4::tZ::qd::q8::qe::q9::qa::qb::qc::q7::qg::qh::qi::qf::qk::qj::ql::qp::qm::qn::qo::qq::qr::qs::qy::qv::qz::qw::qx::qu::qt::[]),hB⟩)) (
 bp (aw s.P 30 hG) fun vg hb=>
 stO hG.length e (
 bm (ab s.P 23 e hb) hb fun vq hm=>
 bp (gL s.P wl 40 40 .nil a hm) fun vO hn=>
 bp (gL s.P wl 40 40 vO a hn) fun v54 h55=>
 bp (bZ (xX s 7 wl k false) true true (.fn (.func 23) [] []) [vq,b,v54] h55) fun v56 ho=>
 bm (ao v56 0) ho fun vr hp=>
 bm (ao v56 1) hp fun vP hq=>
 bs (ah s.P wl 30 vg vr hq) fun hA=>
 apt (lgW vg (lgW vO (lgW .nil (lgR e ([],[]))))) (
 itX (xX s 7 wl k false) NF hA.length (ap (xX s 7 wl k false) (am s.P Tryz.f7) MK) k ⟨((V.kill hA.length d)::(V.kill hA.length b)::(V.kill hA.length a)::(V.kill hA.length e)::(V.kill hA.length x)::(V.kill hA.length y)::(V.kill hA.length l)::(V.kill hA.length o)::(V.kill hA.length z)::(V.kill hA.length j)::(V.kill hA.length vT)::(V.kill hA.length vA)::(V.kill hA.length vg)::(V.kill hA.length vP)::(.lit (.int .i64 0))::(.lit (.int .i64 0))::(V.kill hA.length B)::(V.kill hA.length D)::(V.kill hA.length E)::(V.kill hA.length F)::(V.kill hA.length G)::(V.kill hA.length I)::(V.kill hA.length J)::(V.kill hA.length u)::(V.kill hA.length L)::(V.kill hA.length v)::(V.kill hA.length O)::(V.kill hA.length N)::(V.kill hA.length Q)::(V.kill hA.length M)::(V.kill hA.length vK)::(V.kill hA.length T)::(V.kill hA.length vB)::(V.kill hA.length vL)::(V.kill hA.length b)::(V.kill hA.length a)::(V.kill hA.length vB)::(V.kill hA.length vi)::(V.kill hA.length vA)::(V.kill hA.length vA)::(V.kill hA.length vM)::(V.kill hA.length t3)::(V.kill hA.length t4)::(V.kill hA.length t5)::(V.kill hA.length t6)::(V.kill hA.length X)::(V.kill hA.length t7)::(V.kill hA.length Y)::(V.kill hA.length Z)::(V.kill hA.length U)::(V.kill hA.length t8)::(V.kill hA.length t0)::(V.kill hA.length t9)::(V.kill hA.length t1)::(V.kill hA.length t2)::(V.kill hA.length W)::(V.kill hA.length tk)::(V.kill hA.length v56)::(V.kill hA.length vq)::(V.kill hA.length b)::(V.kill hA.length a)::(V.kill hA.length vO)::(V.kill hA.length a)::(V.kill hA.length v54)::(V.kill hA.length v56)::(V.kill hA.length vr)::(V.kill hA.length vP)::.junk::.junk::.junk::.junk::.junk::.junk::.junk::.junk::.junk::.junk::.junk::.junk::.junk::(V.kill hA.length tM)::(V.kill hA.length tN)::(V.kill hA.length tx)::(V.kill hA.length tO)::(V.kill hA.length ty)::(V.kill hA.length tw)::(V.kill hA.length tS)::(V.kill hA.length tQ)::(V.kill hA.length tT)::(V.kill hA.length tR)::(V.kill hA.length tP)::(V.kill hA.length tX)::(V.kill hA.length tV)::(V.kill hA.length tY)::(V.kill hA.length tW)::(V.kill hA.length tU)::(V.kill hA.length q5)::(V.kill hA.length q0)::(V.kill hA.length q6)::(V.kill hA.length q1)::(V.kill hA.length q2)::(V.kill hA.length q3)::(V.kill hA.length q4)::(V.kill hA.length tZ)::(V.kill hA.length qd)::(V.kill hA.length q8)::(V.kill hA.length qe)::(V.kill hA.length q9)::(V.kill hA.length qa)::(V.kill hA.length qb)::(V.kill hA.length qc)::(V.kill hA.length q7)::(V.kill hA.length qg)::(V.kill hA.length qh)::(V.kill hA.length qi)::(V.kill hA.length qf)::(V.kill hA.length qk)::(V.kill hA.length qj)::(V.kill hA.length ql)::(V.kill hA.length qp)::(V.kill hA.length qm)::(V.kill hA.length qn)::(V.kill hA.length qo)::(V.kill hA.length qq)::(V.kill hA.length qr)::(V.kill hA.length qs)::(V.kill hA.length qy)::(V.kill hA.length qv)::(V.kill hA.length qz)::(V.kill hA.length qw)::(V.kill hA.length qx)::(V.kill hA.length qu)::(V.kill hA.length qt)::[]),b7 hA.length hA⟩)))):=kG
theorem P8:bz (xX s 7 wl k false) Bv 9 m0 ac (ap (xX s 7 wl k false) (am s.P Tryz.f7) Ae) ⟨(d::b::a::e::x::y::l::o::z::j::f::R::A::q::g::r::B::D::E::F::G::I::J::u::L::v::O::N::Q::M::ta::T::tb::tc::td::te::tf::tg::th::ti::tj::t3::t4::t5::t6::X::t7::Y::Z::U::t8::t0::t9::t1::t2::W::zz),h⟩ =
 bm (aM X U (.lit (.bool false))) h fun vj h64=>
 gd vj (
 bm (aa s.P 30 f 2) h64 fun v65 h66=>
 bm (ab s.P 26 v65 h66) h66 fun v67 h68=>
 bp (a9 s.P 26 v67 h68) fun v69 h70=>
 bm (au s.P .eql 3 v69 (.lit (.int .i64 0))) h70 fun v71 h72=>
 bz (xX s 7 wl k false) Bv 15 m0 ac (ap (xX s 7 wl k false) (am s.P Tryz.f7) Ae) ⟨(d::b::a::e::x::y::l::o::z::j::f::R::A::q::g::r::B::D::E::F::G::I::J::u::L::v::O::N::Q::M::ta::T::tb::tc::td::te::tf::tg::th::ti::tj::t3::t4::t5::t6::X::t7::Y::Z::U::vj::(.lit (.bool true))::v65::v67::v69::v71::zz),h72⟩) (
 bz (xX s 7 wl k false) Bv 15 m0 ac (ap (xX s 7 wl k false) (am s.P Tryz.f7) Ae) ⟨(d::b::a::e::x::y::l::o::z::j::f::R::A::q::g::r::B::D::E::F::G::I::J::u::L::v::O::N::Q::M::ta::T::tb::tc::td::te::tf::tg::th::ti::tj::t3::t4::t5::t6::X::t7::Y::Z::U::vj::(.lit (.bool false))::uu::uu::uu::uu::zz),h64⟩) (
 bz (xX s 7 wl k false) Bv 12 m0 ac (ap (xX s 7 wl k false) (am s.P Tryz.f7) Ae) ⟨(d::b::a::e::x::y::l::o::z::j::f::R::A::q::g::r::B::D::E::F::G::I::J::u::L::v::O::N::Q::M::ta::T::tb::tc::td::te::tf::tg::th::ti::tj::t3::t4::t5::t6::X::t7::Y::Z::U::vj::vj::uu::t1::t2::W::zz),h64⟩):=kG
theorem Yk:itX (xX s 7 wl k rd) NF n0 K (n+1) ⟨(d::b::a::e::x::y::l::o::z::j::f::R::A::q::g::r::B::D::E::F::G::I::J::u::L::v::O::N::Q::M::ta::T::tb::tc::td::te::tf::tg::th::ti::tj::t3::t4::t5::t6::X::t7::Y::Z::U::t8::t0::t9::t1::t2::W::tk::tl::tm::tn::tp::tq::tr::ts::tt::tu::tv::tz::tA::tB::tC::tD::tE::tF::tG::tH::tI::tJ::tK::tL::tM::tN::tx::tO::ty::tw::tS::tQ::tT::tR::tP::tX::tV::tY::tW::tU::q5::q0::q6::q1::q2::q3::q4::tZ::qd::q8::qe::q9::qa::qb::qc::q7::qg::qh::qi::qf::qk::qj::ql::qp::qm::qn::qo::qq::qr::qs::qy::qv::qz::qw::qx::qu::qt::[]),h⟩ =
 bp (a9 s.P 40 a h) fun v73 h74=>
 bm (au s.P .lss 3 r v73) h74 fun v75 hC=>
 cnd v75 (
 bm (aj s.P 40 a r hC) hC fun vQ hK=>
 bm (ab s.P 53 vQ hK) hK fun vx hr=>
 bp (a9 s.P 53 vx hr) fun v81 hs=>
 bm (au s.P .add 3 g v81) hs fun vR hM=>
 bm (au s.P .add 3 r (.lit (.int .i64 1))) hM fun vy ht=>
 itX (xX s 7 wl k rd) NF n0 K n ⟨((V.kill n0 d)::(V.kill n0 b)::(V.kill n0 a)::(V.kill n0 e)::(V.kill n0 x)::(V.kill n0 y)::(V.kill n0 l)::(V.kill n0 o)::(V.kill n0 z)::(V.kill n0 j)::(V.kill n0 f)::(V.kill n0 R)::(V.kill n0 A)::(V.kill n0 q)::(V.kill n0 vR)::(V.kill n0 vy)::(V.kill n0 B)::(V.kill n0 D)::(V.kill n0 E)::(V.kill n0 F)::(V.kill n0 G)::(V.kill n0 I)::(V.kill n0 J)::(V.kill n0 u)::(V.kill n0 L)::(V.kill n0 v)::(V.kill n0 O)::(V.kill n0 N)::(V.kill n0 Q)::(V.kill n0 M)::(V.kill n0 ta)::(V.kill n0 T)::(V.kill n0 tb)::(V.kill n0 tc)::(V.kill n0 td)::(V.kill n0 te)::(V.kill n0 tf)::(V.kill n0 tg)::(V.kill n0 th)::(V.kill n0 ti)::(V.kill n0 tj)::(V.kill n0 t3)::(V.kill n0 t4)::(V.kill n0 t5)::(V.kill n0 t6)::(V.kill n0 X)::(V.kill n0 t7)::(V.kill n0 Y)::(V.kill n0 Z)::(V.kill n0 U)::(V.kill n0 t8)::(V.kill n0 t0)::(V.kill n0 t9)::(V.kill n0 t1)::(V.kill n0 t2)::(V.kill n0 W)::(V.kill n0 tk)::(V.kill n0 tl)::(V.kill n0 tm)::(V.kill n0 tn)::(V.kill n0 tp)::(V.kill n0 tq)::(V.kill n0 tr)::(V.kill n0 ts)::(V.kill n0 tt)::(V.kill n0 tu)::(V.kill n0 tv)::.junk::.junk::.junk::.junk::.junk::.junk::.junk::.junk::.junk::.junk::.junk::.junk::.junk::(V.kill n0 tM)::(V.kill n0 tN)::(V.kill n0 tx)::(V.kill n0 tO)::(V.kill n0 ty)::(V.kill n0 tw)::(V.kill n0 tS)::(V.kill n0 tQ)::(V.kill n0 tT)::(V.kill n0 tR)::(V.kill n0 tP)::(V.kill n0 tX)::(V.kill n0 tV)::(V.kill n0 tY)::(V.kill n0 tW)::(V.kill n0 tU)::(V.kill n0 q5)::(V.kill n0 q0)::(V.kill n0 q6)::(V.kill n0 q1)::(V.kill n0 q2)::(V.kill n0 q3)::(V.kill n0 q4)::(V.kill n0 tZ)::(V.kill n0 qd)::(V.kill n0 q8)::(V.kill n0 qe)::(V.kill n0 q9)::(V.kill n0 qa)::(V.kill n0 qb)::(V.kill n0 qc)::(V.kill n0 q7)::(V.kill n0 qg)::(V.kill n0 qh)::(V.kill n0 qi)::(V.kill n0 qf)::(V.kill n0 qk)::(V.kill n0 qj)::(V.kill n0 ql)::(V.kill n0 qp)::(V.kill n0 qm)::(V.kill n0 qn)::(V.kill n0 qo)::(V.kill n0 qq)::(V.kill n0 qr)::(V.kill n0 qs)::(V.kill n0 qy)::(V.kill n0 qv)::(V.kill n0 qz)::(V.kill n0 qw)::(V.kill n0 qx)::(V.kill n0 qu)::(V.kill n0 qt)::[]),b7 n0 ht⟩) (
 K (.exit 0) ⟨((V.kill n0 d)::(V.kill n0 b)::(V.kill n0 a)::(V.kill n0 e)::(V.kill n0 x)::(V.kill n0 y)::(V.kill n0 l)::(V.kill n0 o)::(V.kill n0 z)::(V.kill n0 j)::(V.kill n0 f)::(V.kill n0 R)::(V.kill n0 A)::(V.kill n0 q)::(V.kill n0 g)::(V.kill n0 r)::(V.kill n0 B)::(V.kill n0 D)::(V.kill n0 E)::(V.kill n0 F)::(V.kill n0 G)::(V.kill n0 I)::(V.kill n0 J)::(V.kill n0 u)::(V.kill n0 L)::(V.kill n0 v)::(V.kill n0 O)::(V.kill n0 N)::(V.kill n0 Q)::(V.kill n0 M)::(V.kill n0 ta)::(V.kill n0 T)::(V.kill n0 tb)::(V.kill n0 tc)::(V.kill n0 td)::(V.kill n0 te)::(V.kill n0 tf)::(V.kill n0 tg)::(V.kill n0 th)::(V.kill n0 ti)::(V.kill n0 tj)::(V.kill n0 t3)::(V.kill n0 t4)::(V.kill n0 t5)::(V.kill n0 t6)::(V.kill n0 X)::(V.kill n0 t7)::(V.kill n0 Y)::(V.kill n0 Z)::(V.kill n0 U)::(V.kill n0 t8)::(V.kill n0 t0)::(V.kill n0 t9)::(V.kill n0 t1)::(V.kill n0 t2)::(V.kill n0 W)::(V.kill n0 tk)::(V.kill n0 tl)::(V.kill n0 tm)::(V.kill n0 tn)::(V.kill n0 tp)::(V.kill n0 tq)::(V.kill n0 tr)::(V.kill n0 ts)::(V.kill n0 tt)::(V.kill n0 tu)::(V.kill n0 tv)::.junk::.junk::.junk::.junk::.junk::.junk::.junk::.junk::.junk::.junk::.junk::.junk::.junk::(V.kill n0 tM)::(V.kill n0 tN)::(V.kill n0 tx)::(V.kill n0 tO)::(V.kill n0 ty)::(V.kill n0 tw)::(V.kill n0 tS)::(V.kill n0 tQ)::(V.kill n0 tT)::(V.kill n0 tR)::(V.kill n0 tP)::(V.kill n0 tX)::(V.kill n0 tV)::(V.kill n0 tY)::(V.kill n0 tW)::(V.kill n0 tU)::(V.kill n0 q5)::(V.kill n0 q0)::(V.kill n0 q6)::(V.kill n0 q1)::(V.kill n0 q2)::(V.kill n0 q3)::(V.kill n0 q4)::(V.kill n0 tZ)::(V.kill n0 qd)::(V.kill n0 q8)::(V.kill n0 qe)::(V.kill n0 q9)::(V.kill n0 qa)::(V.kill n0 qb)::(V.kill n0 qc)::(V.kill n0 q7)::(V.kill n0 qg)::(V.kill n0 qh)::(V.kill n0 qi)::(V.kill n0 qf)::(V.kill n0 qk)::(V.kill n0 qj)::(V.kill n0 ql)::(V.kill n0 qp)::(V.kill n0 qm)::(V.kill n0 qn)::(V.kill n0 qo)::(V.kill n0 qq)::(V.kill n0 qr)::(V.kill n0 qs)::(V.kill n0 qy)::(V.kill n0 qv)::(V.kill n0 qz)::(V.kill n0 qw)::(V.kill n0 qx)::(V.kill n0 qu)::(V.kill n0 qt)::[]),b7 n0 hC⟩):=kI
theorem RV:ap (xX s 7 wl k false) (am s.P Tryz.f7) MK (.exit 0) ⟨(d::b::a::e::x::y::l::o::z::j::f::R::A::q::g::r::B::D::E::F::G::I::J::u::L::v::O::N::Q::M::ta::T::tb::tc::td::te::tf::tg::th::ti::tj::t3::t4::t5::t6::X::t7::Y::Z::U::t8::t0::t9::t1::t2::W::tk::tl::tm::tn::tp::tq::tr::ts::tt::tu::tv::tz::tA::tB::tC::tD::tE::tF::tG::tH::tI::tJ::tK::tL::tM::tN::tx::tO::ty::tw::zz),h⟩ =
 bm (ab s.P 30 f h) h fun va hu=>
 bp (bZ (xX s 7 wl k false) false true (.fn (.func 20) [] []) [va] hu) fun vC hH=>
 gd vC (
 bm (ab s.P 30 f hH) hH fun vh hv=>
 bp (bZ (xX s 7 wl k false) false true (.fn (.func 25) [] []) [vh] hv) fun vz hw=>
 bm (vUn .not vz) hw fun vS hN=>
 bz (xX s 7 wl k false) bE 6 h.length ([],[]) (ap (xX s 7 wl k false) (am s.P Tryz.f7) bB) ⟨(d::b::a::e::x::y::l::o::z::j::f::R::A::q::g::r::B::D::E::F::G::I::J::u::L::v::O::N::Q::M::ta::T::tb::tc::td::te::tf::tg::th::ti::tj::t3::t4::t5::t6::X::t7::Y::Z::U::t8::t0::t9::t1::t2::W::tk::tl::tm::tn::tp::tq::tr::ts::tt::tu::tv::tz::tA::tB::tC::tD::tE::tF::tG::tH::tI::tJ::tK::tL::va::vC::(.lit (.bool true))::vh::vz::vS::zz),hN⟩) (
 bz (xX s 7 wl k false) bE 6 h.length ([],[]) (ap (xX s 7 wl k false) (am s.P Tryz.f7) bB) ⟨(d::b::a::e::x::y::l::o::z::j::f::R::A::q::g::r::B::D::E::F::G::I::J::u::L::v::O::N::Q::M::ta::T::tb::tc::td::te::tf::tg::th::ti::tj::t3::t4::t5::t6::X::t7::Y::Z::U::t8::t0::t9::t1::t2::W::tk::tl::tm::tn::tp::tq::tr::ts::tt::tu::tv::tz::tA::tB::tC::tD::tE::tF::tG::tH::tI::tJ::tK::tL::va::vC::(.lit (.bool false))::uu::uu::uu::zz),hH⟩) (
 bz (xX s 7 wl k false) bE 4 h.length ([],[]) (ap (xX s 7 wl k false) (am s.P Tryz.f7) bB) ⟨(d::b::a::e::x::y::l::o::z::j::f::R::A::q::g::r::B::D::E::F::G::I::J::u::L::v::O::N::Q::M::ta::T::tb::tc::td::te::tf::tg::th::ti::tj::t3::t4::t5::t6::X::t7::Y::Z::U::t8::t0::t9::t1::t2::W::tk::tl::tm::tn::tp::tq::tr::ts::tt::tu::tv::tz::tA::tB::tC::tD::tE::tF::tG::tH::tI::tJ::tK::tL::va::vC::vC::uu::ty::tw::zz),hH⟩):=kR
theorem Su:bz (xX s 7 wl k false) Bv 15 m0 ac (ap (xX s 7 wl k false) (am s.P Tryz.f7) Ae) ⟨(d::b::a::e::x::y::l::o::z::j::f::R::A::q::g::r::B::D::E::F::G::I::J::u::L::v::O::N::Q::M::ta::T::tb::tc::td::te::tf::tg::th::ti::tj::t3::t4::t5::t6::X::t7::Y::Z::U::t8::t0::t9::t1::t2::W::tk::tl::tm::tn::tp::tq::tr::ts::tt::tu::tv::tz::tA::tB::tC::tD::tE::tF::tG::tH::tI::tJ::tK::tL::tM::tN::tx::tO::ty::tw::tS::tQ::tT::tR::tP::tX::tV::tY::tW::tU::q5::q0::q6::q1::q2::q3::q4::tZ::qd::q8::qe::q9::qa::qb::qc::q7::qg::qh::qi::qf::qk::qj::ql::qp::qm::qn::qo::qq::qr::qs::qy::qv::qz::qw::qx::qu::qt::[]),h⟩ =
 bm (aM t0 W (.lit (.bool false))) h fun v97 hc=>
 some (v97,hc):=kG
theorem Qs:bz (xX s 7 wl k false) bE 6 m0 ac (ap (xX s 7 wl k false) (am s.P Tryz.f7) bB) ⟨(d::b::a::e::x::y::l::o::z::j::f::R::A::q::g::r::B::D::E::F::G::I::J::u::L::v::O::N::Q::M::ta::T::tb::tc::td::te::tf::tg::th::ti::tj::t3::t4::t5::t6::X::t7::Y::Z::U::t8::t0::t9::t1::t2::W::tk::tl::tm::tn::tp::tq::tr::ts::tt::tu::tv::tz::tA::tB::tC::tD::tE::tF::tG::tH::tI::tJ::tK::tL::tM::tN::tx::tO::ty::tw::tS::tQ::tT::tR::tP::zz),h⟩ =
 bm (aM tx tw (.lit (.bool false))) h fun vI hD=>
 gd vI (
 bm (ab s.P 30 f hD) hD fun vb hS=>
 bp (bZ (xX s 7 wl k false) false true (.fn (.func 29) [] []) [vb] hS) fun vD hE=>
 bm (vUn .not vD) hE fun vc hT=>
 bz (xX s 7 wl k false) bE 11 m0 ac (ap (xX s 7 wl k false) (am s.P Tryz.f7) bB) ⟨(d::b::a::e::x::y::l::o::z::j::f::R::A::q::g::r::B::D::E::F::G::I::J::u::L::v::O::N::Q::M::ta::T::tb::tc::td::te::tf::tg::th::ti::tj::t3::t4::t5::t6::X::t7::Y::Z::U::t8::t0::t9::t1::t2::W::tk::tl::tm::tn::tp::tq::tr::ts::tt::tu::tv::tz::tA::tB::tC::tD::tE::tF::tG::tH::tI::tJ::tK::tL::tM::tN::tx::tO::ty::tw::vI::(.lit (.bool true))::vb::vD::vc::zz),hT⟩) (
 bz (xX s 7 wl k false) bE 11 m0 ac (ap (xX s 7 wl k false) (am s.P Tryz.f7) bB) ⟨(d::b::a::e::x::y::l::o::z::j::f::R::A::q::g::r::B::D::E::F::G::I::J::u::L::v::O::N::Q::M::ta::T::tb::tc::td::te::tf::tg::th::ti::tj::t3::t4::t5::t6::X::t7::Y::Z::U::t8::t0::t9::t1::t2::W::tk::tl::tm::tn::tp::tq::tr::ts::tt::tu::tv::tz::tA::tB::tC::tD::tE::tF::tG::tH::tI::tJ::tK::tL::tM::tN::tx::tO::ty::tw::vI::(.lit (.bool false))::uu::uu::uu::zz),hD⟩) (
 bz (xX s 7 wl k false) bE 9 m0 ac (ap (xX s 7 wl k false) (am s.P Tryz.f7) bB) ⟨(d::b::a::e::x::y::l::o::z::j::f::R::A::q::g::r::B::D::E::F::G::I::J::u::L::v::O::N::Q::M::ta::T::tb::tc::td::te::tf::tg::th::ti::tj::t3::t4::t5::t6::X::t7::Y::Z::U::t8::t0::t9::t1::t2::W::tk::tl::tm::tn::tp::tq::tr::ts::tt::tu::tv::tz::tA::tB::tC::tD::tE::tF::tG::tH::tI::tJ::tK::tL::tM::tN::tx::tO::ty::tw::vI::vI::uu::tR::tP::zz),hD⟩):=kG
theorem QG:bz (xX s 7 wl k false) bE 11 m0 ac (ap (xX s 7 wl k false) (am s.P Tryz.f7) bB) ⟨(d::b::a::e::x::y::l::o::z::j::f::R::A::q::g::r::B::D::E::F::G::I::J::u::L::v::O::N::Q::M::ta::T::tb::tc::td::te::tf::tg::th::ti::tj::t3::t4::t5::t6::X::t7::Y::Z::U::t8::t0::t9::t1::t2::W::tk::tl::tm::tn::tp::tq::tr::ts::tt::tu::tv::tz::tA::tB::tC::tD::tE::tF::tG::tH::tI::tJ::tK::tL::tM::tN::tx::tO::ty::tw::tS::tQ::tT::tR::tP::tX::tV::tY::tW::tU::zz),h⟩ =
 bm (aM tQ tP (.lit (.bool false))) h fun vF hF=>
 gd vF (
 bm (ab s.P 30 f hF) hF fun vd hU=>
 bp (bZ (xX s 7 wl k false) false true (.fn (.func 26) [] []) [vd] hU) fun v111 h112=>
 bm (au s.P .eql 3 v111 (.lit (.int .i64 0))) h112 fun v113 h114=>
 bz (xX s 7 wl k false) bE 16 m0 ac (ap (xX s 7 wl k false) (am s.P Tryz.f7) bB) ⟨(d::b::a::e::x::y::l::o::z::j::f::R::A::q::g::r::B::D::E::F::G::I::J::u::L::v::O::N::Q::M::ta::T::tb::tc::td::te::tf::tg::th::ti::tj::t3::t4::t5::t6::X::t7::Y::Z::U::t8::t0::t9::t1::t2::W::tk::tl::tm::tn::tp::tq::tr::ts::tt::tu::tv::tz::tA::tB::tC::tD::tE::tF::tG::tH::tI::tJ::tK::tL::tM::tN::tx::tO::ty::tw::tS::tQ::tT::tR::tP::vF::(.lit (.bool true))::vd::v111::v113::zz),h114⟩) (
 bz (xX s 7 wl k false) bE 16 m0 ac (ap (xX s 7 wl k false) (am s.P Tryz.f7) bB) ⟨(d::b::a::e::x::y::l::o::z::j::f::R::A::q::g::r::B::D::E::F::G::I::J::u::L::v::O::N::Q::M::ta::T::tb::tc::td::te::tf::tg::th::ti::tj::t3::t4::t5::t6::X::t7::Y::Z::U::t8::t0::t9::t1::t2::W::tk::tl::tm::tn::tp::tq::tr::ts::tt::tu::tv::tz::tA::tB::tC::tD::tE::tF::tG::tH::tI::tJ::tK::tL::tM::tN::tx::tO::ty::tw::tS::tQ::tT::tR::tP::vF::(.lit (.bool false))::uu::uu::uu::zz),hF⟩) (
 bz (xX s 7 wl k false) bE 14 m0 ac (ap (xX s 7 wl k false) (am s.P Tryz.f7) bB) ⟨(d::b::a::e::x::y::l::o::z::j::f::R::A::q::g::r::B::D::E::F::G::I::J::u::L::v::O::N::Q::M::ta::T::tb::tc::td::te::tf::tg::th::ti::tj::t3::t4::t5::t6::X::t7::Y::Z::U::t8::t0::t9::t1::t2::W::tk::tl::tm::tn::tp::tq::tr::ts::tt::tu::tv::tz::tA::tB::tC::tD::tE::tF::tG::tH::tI::tJ::tK::tL::tM::tN::tx::tO::ty::tw::tS::tQ::tT::tR::tP::vF::vF::uu::tW::tU::zz),hF⟩):=kG
theorem Tz:bz (xX s 7 wl k false) bE 16 m0 ac (ap (xX s 7 wl k false) (am s.P Tryz.f7) bB) ⟨(d::b::a::e::x::y::l::o::z::j::f::R::A::q::g::r::B::D::E::F::G::I::J::u::L::v::O::N::Q::M::ta::T::tb::tc::td::te::tf::tg::th::ti::tj::t3::t4::t5::t6::X::t7::Y::Z::U::t8::t0::t9::t1::t2::W::tk::tl::tm::tn::tp::tq::tr::ts::tt::tu::tv::tz::tA::tB::tC::tD::tE::tF::tG::tH::tI::tJ::tK::tL::tM::tN::tx::tO::ty::tw::tS::tQ::tT::tR::tP::tX::tV::tY::tW::tU::q5::q0::q6::q1::q2::q3::q4::tZ::zz),h⟩ =
 bm (aM tV tU (.lit (.bool false))) h fun vU hV=>
 gd vU (
 bm (aa s.P 30 f 3) hV fun v117 h118=>
 bm (ab s.P 27 v117 h118) h118 fun v119 h120=>
 bp (a9 s.P 27 v119 h120) fun v121 h122=>
 bm (aa s.P 23 e 0) h122 fun v123 h124=>
 bm (ab s.P 3 v123 h124) h124 fun v125 h126=>
 bm (au s.P .eql 3 v121 v125) h126 fun v127 h128=>
 bz (xX s 7 wl k false) bE 24 m0 ac (ap (xX s 7 wl k false) (am s.P Tryz.f7) bB) ⟨(d::b::a::e::x::y::l::o::z::j::f::R::A::q::g::r::B::D::E::F::G::I::J::u::L::v::O::N::Q::M::ta::T::tb::tc::td::te::tf::tg::th::ti::tj::t3::t4::t5::t6::X::t7::Y::Z::U::t8::t0::t9::t1::t2::W::tk::tl::tm::tn::tp::tq::tr::ts::tt::tu::tv::tz::tA::tB::tC::tD::tE::tF::tG::tH::tI::tJ::tK::tL::tM::tN::tx::tO::ty::tw::tS::tQ::tT::tR::tP::tX::tV::tY::tW::tU::vU::(.lit (.bool true))::v117::v119::v121::v123::v125::v127::zz),h128⟩) (
 bz (xX s 7 wl k false) bE 24 m0 ac (ap (xX s 7 wl k false) (am s.P Tryz.f7) bB) ⟨(d::b::a::e::x::y::l::o::z::j::f::R::A::q::g::r::B::D::E::F::G::I::J::u::L::v::O::N::Q::M::ta::T::tb::tc::td::te::tf::tg::th::ti::tj::t3::t4::t5::t6::X::t7::Y::Z::U::t8::t0::t9::t1::t2::W::tk::tl::tm::tn::tp::tq::tr::ts::tt::tu::tv::tz::tA::tB::tC::tD::tE::tF::tG::tH::tI::tJ::tK::tL::tM::tN::tx::tO::ty::tw::tS::tQ::tT::tR::tP::tX::tV::tY::tW::tU::vU::(.lit (.bool false))::uu::uu::uu::uu::uu::uu::zz),hV⟩) (
 bz (xX s 7 wl k false) bE 19 m0 ac (ap (xX s 7 wl k false) (am s.P Tryz.f7) bB) ⟨(d::b::a::e::x::y::l::o::z::j::f::R::A::q::g::r::B::D::E::F::G::I::J::u::L::v::O::N::Q::M::ta::T::tb::tc::td::te::tf::tg::th::ti::tj::t3::t4::t5::t6::X::t7::Y::Z::U::t8::t0::t9::t1::t2::W::tk::tl::tm::tn::tp::tq::tr::ts::tt::tu::tv::tz::tA::tB::tC::tD::tE::tF::tG::tH::tI::tJ::tK::tL::tM::tN::tx::tO::ty::tw::tS::tQ::tT::tR::tP::tX::tV::tY::tW::tU::vU::vU::uu::q1::q2::q3::q4::tZ::zz),hV⟩):=kG
theorem PO:bz (xX s 7 wl k false) bE 24 m0 ac (ap (xX s 7 wl k false) (am s.P Tryz.f7) bB) ⟨(d::b::a::e::x::y::l::o::z::j::f::R::A::q::g::r::B::D::E::F::G::I::J::u::L::v::O::N::Q::M::ta::T::tb::tc::td::te::tf::tg::th::ti::tj::t3::t4::t5::t6::X::t7::Y::Z::U::t8::t0::t9::t1::t2::W::tk::tl::tm::tn::tp::tq::tr::ts::tt::tu::tv::tz::tA::tB::tC::tD::tE::tF::tG::tH::tI::tJ::tK::tL::tM::tN::tx::tO::ty::tw::tS::tQ::tT::tR::tP::tX::tV::tY::tW::tU::q5::q0::q6::q1::q2::q3::q4::tZ::qd::q8::qe::q9::qa::qb::qc::q7::zz),h⟩ =
 bm (aM q0 tZ (.lit (.bool false))) h fun vV hW=>
 gd vV (
 bm (aa s.P 30 f 4) hW fun v131 h132=>
 bm (ab s.P 28 v131 h132) h132 fun v133 h134=>
 bp (a9 s.P 28 v133 h134) fun v135 h136=>
 bp (a9 s.P 40 a h136) fun v137 h138=>
 bm (au s.P .eql 3 v135 v137) h138 fun v139 h140=>
 bz (xX s 7 wl k false) bE 32 m0 ac (ap (xX s 7 wl k false) (am s.P Tryz.f7) bB) ⟨(d::b::a::e::x::y::l::o::z::j::f::R::A::q::g::r::B::D::E::F::G::I::J::u::L::v::O::N::Q::M::ta::T::tb::tc::td::te::tf::tg::th::ti::tj::t3::t4::t5::t6::X::t7::Y::Z::U::t8::t0::t9::t1::t2::W::tk::tl::tm::tn::tp::tq::tr::ts::tt::tu::tv::tz::tA::tB::tC::tD::tE::tF::tG::tH::tI::tJ::tK::tL::tM::tN::tx::tO::ty::tw::tS::tQ::tT::tR::tP::tX::tV::tY::tW::tU::q5::q0::q6::q1::q2::q3::q4::tZ::vV::(.lit (.bool true))::v131::v133::v135::a::v137::v139::zz),h140⟩) (
 bz (xX s 7 wl k false) bE 32 m0 ac (ap (xX s 7 wl k false) (am s.P Tryz.f7) bB) ⟨(d::b::a::e::x::y::l::o::z::j::f::R::A::q::g::r::B::D::E::F::G::I::J::u::L::v::O::N::Q::M::ta::T::tb::tc::td::te::tf::tg::th::ti::tj::t3::t4::t5::t6::X::t7::Y::Z::U::t8::t0::t9::t1::t2::W::tk::tl::tm::tn::tp::tq::tr::ts::tt::tu::tv::tz::tA::tB::tC::tD::tE::tF::tG::tH::tI::tJ::tK::tL::tM::tN::tx::tO::ty::tw::tS::tQ::tT::tR::tP::tX::tV::tY::tW::tU::q5::q0::q6::q1::q2::q3::q4::tZ::vV::(.lit (.bool false))::uu::uu::uu::uu::uu::uu::zz),hW⟩) (
 bz (xX s 7 wl k false) bE 27 m0 ac (ap (xX s 7 wl k false) (am s.P Tryz.f7) bB) ⟨(d::b::a::e::x::y::l::o::z::j::f::R::A::q::g::r::B::D::E::F::G::I::J::u::L::v::O::N::Q::M::ta::T::tb::tc::td::te::tf::tg::th::ti::tj::t3::t4::t5::t6::X::t7::Y::Z::U::t8::t0::t9::t1::t2::W::tk::tl::tm::tn::tp::tq::tr::ts::tt::tu::tv::tz::tA::tB::tC::tD::tE::tF::tG::tH::tI::tJ::tK::tL::tM::tN::tx::tO::ty::tw::tS::tQ::tT::tR::tP::tX::tV::tY::tW::tU::q5::q0::q6::q1::q2::q3::q4::tZ::vV::vV::uu::q9::qa::qb::qc::q7::zz),hW⟩):=kG
theorem Qj:bz (xX s 7 wl k false) bE 32 m0 ac (ap (xX s 7 wl k false) (am s.P Tryz.f7) bB) ⟨(d::b::a::e::x::y::l::o::z::j::f::R::A::q::g::r::B::D::E::F::G::I::J::u::L::v::O::N::Q::M::ta::T::tb::tc::td::te::tf::tg::th::ti::tj::t3::t4::t5::t6::X::t7::Y::Z::U::t8::t0::t9::t1::t2::W::tk::tl::tm::tn::tp::tq::tr::ts::tt::tu::tv::tz::tA::tB::tC::tD::tE::tF::tG::tH::tI::tJ::tK::tL::tM::tN::tx::tO::ty::tw::tS::tQ::tT::tR::tP::tX::tV::tY::tW::tU::q5::q0::q6::q1::q2::q3::q4::tZ::qd::q8::qe::q9::qa::qb::qc::q7::qg::qh::qi::qf::qk::qj::ql::qp::qm::qn::qo::qq::qr::qs::zz),h⟩ =
 bm (aM q8 q7 (.lit (.bool false))) h fun vW hX=>
 gd vW (
 bm (au s.P .eql 3 g (.lit (.int .i64 0))) hX fun v143 h144=>
 bz (xX s 7 wl k false) bE 37 m0 ac (ap (xX s 7 wl k false) (am s.P Tryz.f7) bB) ⟨(d::b::a::e::x::y::l::o::z::j::f::R::A::q::g::r::B::D::E::F::G::I::J::u::L::v::O::N::Q::M::ta::T::tb::tc::td::te::tf::tg::th::ti::tj::t3::t4::t5::t6::X::t7::Y::Z::U::t8::t0::t9::t1::t2::W::tk::tl::tm::tn::tp::tq::tr::ts::tt::tu::tv::tz::tA::tB::tC::tD::tE::tF::tG::tH::tI::tJ::tK::tL::tM::tN::tx::tO::ty::tw::tS::tQ::tT::tR::tP::tX::tV::tY::tW::tU::q5::q0::q6::q1::q2::q3::q4::tZ::qd::q8::qe::q9::qa::qb::qc::q7::vW::(.lit (.bool true))::g::v143::v143::qj::ql::qp::qm::qn::qo::qq::qr::qs::zz),h144⟩) (
 bz (xX s 7 wl k false) bE 46 m0 ac (ap (xX s 7 wl k false) (am s.P Tryz.f7) bB) ⟨(d::b::a::e::x::y::l::o::z::j::f::R::A::q::g::r::B::D::E::F::G::I::J::u::L::v::O::N::Q::M::ta::T::tb::tc::td::te::tf::tg::th::ti::tj::t3::t4::t5::t6::X::t7::Y::Z::U::t8::t0::t9::t1::t2::W::tk::tl::tm::tn::tp::tq::tr::ts::tt::tu::tv::tz::tA::tB::tC::tD::tE::tF::tG::tH::tI::tJ::tK::tL::tM::tN::tx::tO::ty::tw::tS::tQ::tT::tR::tP::tX::tV::tY::tW::tU::q5::q0::q6::q1::q2::q3::q4::tZ::qd::q8::qe::q9::qa::qb::qc::q7::vW::(.lit (.bool false))::uu::uu::uu::uu::uu::uu::uu::uu::uu::uu::uu::uu::zz),hX⟩) (
 bz (xX s 7 wl k false) bE 35 m0 ac (ap (xX s 7 wl k false) (am s.P Tryz.f7) bB) ⟨(d::b::a::e::x::y::l::o::z::j::f::R::A::q::g::r::B::D::E::F::G::I::J::u::L::v::O::N::Q::M::ta::T::tb::tc::td::te::tf::tg::th::ti::tj::t3::t4::t5::t6::X::t7::Y::Z::U::t8::t0::t9::t1::t2::W::tk::tl::tm::tn::tp::tq::tr::ts::tt::tu::tv::tz::tA::tB::tC::tD::tE::tF::tG::tH::tI::tJ::tK::tL::tM::tN::tx::tO::ty::tw::tS::tQ::tT::tR::tP::tX::tV::tY::tW::tU::q5::q0::q6::q1::q2::q3::q4::tZ::qd::q8::qe::q9::qa::qb::qc::q7::vW::vW::uu::qf::qk::qj::ql::qp::qm::qn::qo::qq::qr::qs::zz),hX⟩):=kG
theorem Jr:bz (xX s 7 wl k false) bE 37 m0 ac (ap (xX s 7 wl k false) (am s.P Tryz.f7) bB) ⟨(d::b::a::e::x::y::l::o::z::j::f::R::A::q::g::r::B::D::E::F::G::I::J::u::L::v::O::N::Q::M::ta::T::tb::tc::td::te::tf::tg::th::ti::tj::t3::t4::t5::t6::X::t7::Y::Z::U::t8::t0::t9::t1::t2::W::tk::tl::tm::tn::tp::tq::tr::ts::tt::tu::tv::tz::tA::tB::tC::tD::tE::tF::tG::tH::tI::tJ::tK::tL::tM::tN::tx::tO::ty::tw::tS::tQ::tT::tR::tP::tX::tV::tY::tW::tU::q5::q0::q6::q1::q2::q3::q4::tZ::qd::q8::qe::q9::qa::qb::qc::q7::qg::qh::qi::qf::qk::qj::ql::qp::qm::qn::qo::qq::qr::zz),h⟩ =
 gd qk (
 bz (xX s 7 wl k false) bE 45 m0 ac (ap (xX s 7 wl k false) (am s.P Tryz.f7) bB) ⟨(d::b::a::e::x::y::l::o::z::j::f::R::A::q::g::r::B::D::E::F::G::I::J::u::L::v::O::N::Q::M::ta::T::tb::tc::td::te::tf::tg::th::ti::tj::t3::t4::t5::t6::X::t7::Y::Z::U::t8::t0::t9::t1::t2::W::tk::tl::tm::tn::tp::tq::tr::ts::tt::tu::tv::tz::tA::tB::tC::tD::tE::tF::tG::tH::tI::tJ::tK::tL::tM::tN::tx::tO::ty::tw::tS::tQ::tT::tR::tP::tX::tV::tY::tW::tU::q5::q0::q6::q1::q2::q3::q4::tZ::qd::q8::qe::q9::qa::qb::qc::q7::qg::qh::qi::qf::(.lit (.bool true))::uu::uu::uu::uu::uu::uu::uu::uu::zz),h⟩) (
 bm (vUn .not q) h fun v145 h146=>
 bz (xX s 7 wl k false) bE 40 m0 ac (ap (xX s 7 wl k false) (am s.P Tryz.f7) bB) ⟨(d::b::a::e::x::y::l::o::z::j::f::R::A::q::g::r::B::D::E::F::G::I::J::u::L::v::O::N::Q::M::ta::T::tb::tc::td::te::tf::tg::th::ti::tj::t3::t4::t5::t6::X::t7::Y::Z::U::t8::t0::t9::t1::t2::W::tk::tl::tm::tn::tp::tq::tr::ts::tt::tu::tv::tz::tA::tB::tC::tD::tE::tF::tG::tH::tI::tJ::tK::tL::tM::tN::tx::tO::ty::tw::tS::tQ::tT::tR::tP::tX::tV::tY::tW::tU::q5::q0::q6::q1::q2::q3::q4::tZ::qd::q8::qe::q9::qa::qb::qc::q7::qg::qh::qi::qf::(.lit (.bool false))::q::v145::v145::qm::qn::qo::qq::qr::zz),h146⟩) (
 bz (xX s 7 wl k false) bE 38 m0 ac (ap (xX s 7 wl k false) (am s.P Tryz.f7) bB) ⟨(d::b::a::e::x::y::l::o::z::j::f::R::A::q::g::r::B::D::E::F::G::I::J::u::L::v::O::N::Q::M::ta::T::tb::tc::td::te::tf::tg::th::ti::tj::t3::t4::t5::t6::X::t7::Y::Z::U::t8::t0::t9::t1::t2::W::tk::tl::tm::tn::tp::tq::tr::ts::tt::tu::tv::tz::tA::tB::tC::tD::tE::tF::tG::tH::tI::tJ::tK::tL::tM::tN::tx::tO::ty::tw::tS::tQ::tT::tR::tP::tX::tV::tY::tW::tU::q5::q0::q6::q1::q2::q3::q4::tZ::qd::q8::qe::q9::qa::qb::qc::q7::qg::qh::qi::qf::qk::uu::ql::qp::qm::qn::qo::qq::qr::zz),h⟩):=kG
theorem Ja:bz (xX s 7 wl k false) bE 46 m0 ac (ap (xX s 7 wl k false) (am s.P Tryz.f7) bB) ⟨(d::b::a::e::x::y::l::o::z::j::f::R::A::q::g::r::B::D::E::F::G::I::J::u::L::v::O::N::Q::M::ta::T::tb::tc::td::te::tf::tg::th::ti::tj::t3::t4::t5::t6::X::t7::Y::Z::U::t8::t0::t9::t1::t2::W::tk::tl::tm::tn::tp::tq::tr::ts::tt::tu::tv::tz::tA::tB::tC::tD::tE::tF::tG::tH::tI::tJ::tK::tL::tM::tN::tx::tO::ty::tw::tS::tQ::tT::tR::tP::tX::tV::tY::tW::tU::q5::q0::q6::q1::q2::q3::q4::tZ::qd::q8::qe::q9::qa::qb::qc::q7::qg::qh::qi::qf::qk::qj::ql::qp::qm::qn::qo::qq::qr::qs::qy::qv::qz::qw::qx::qu::qt::[]),h⟩ =
 bm (aM qh qs (.lit (.bool false))) h fun vX hY=>
 gd vX (
 bp (a9 s.P 24 b hY) fun v149 h150=>
 bm (au s.P .leq 3 g v149) h150 fun v151 h152=>
 bz (xX s 7 wl k false) bE 52 m0 ac (ap (xX s 7 wl k false) (am s.P Tryz.f7) bB) ⟨(d::b::a::e::x::y::l::o::z::j::f::R::A::q::g::r::B::D::E::F::G::I::J::u::L::v::O::N::Q::M::ta::T::tb::tc::td::te::tf::tg::th::ti::tj::t3::t4::t5::t6::X::t7::Y::Z::U::t8::t0::t9::t1::t2::W::tk::tl::tm::tn::tp::tq::tr::ts::tt::tu::tv::tz::tA::tB::tC::tD::tE::tF::tG::tH::tI::tJ::tK::tL::tM::tN::tx::tO::ty::tw::tS::tQ::tT::tR::tP::tX::tV::tY::tW::tU::q5::q0::q6::q1::q2::q3::q4::tZ::qd::q8::qe::q9::qa::qb::qc::q7::qg::qh::qi::qf::qk::qj::ql::qp::qm::qn::qo::qq::qr::qs::vX::(.lit (.bool true))::g::b::v149::v151::qt::[]),h152⟩) (
 bz (xX s 7 wl k false) bE 52 m0 ac (ap (xX s 7 wl k false) (am s.P Tryz.f7) bB) ⟨(d::b::a::e::x::y::l::o::z::j::f::R::A::q::g::r::B::D::E::F::G::I::J::u::L::v::O::N::Q::M::ta::T::tb::tc::td::te::tf::tg::th::ti::tj::t3::t4::t5::t6::X::t7::Y::Z::U::t8::t0::t9::t1::t2::W::tk::tl::tm::tn::tp::tq::tr::ts::tt::tu::tv::tz::tA::tB::tC::tD::tE::tF::tG::tH::tI::tJ::tK::tL::tM::tN::tx::tO::ty::tw::tS::tQ::tT::tR::tP::tX::tV::tY::tW::tU::q5::q0::q6::q1::q2::q3::q4::tZ::qd::q8::qe::q9::qa::qb::qc::q7::qg::qh::qi::qf::qk::qj::ql::qp::qm::qn::qo::qq::qr::qs::vX::(.lit (.bool false))::uu::uu::uu::uu::qt::[]),hY⟩) (
 bz (xX s 7 wl k false) bE 49 m0 ac (ap (xX s 7 wl k false) (am s.P Tryz.f7) bB) ⟨(d::b::a::e::x::y::l::o::z::j::f::R::A::q::g::r::B::D::E::F::G::I::J::u::L::v::O::N::Q::M::ta::T::tb::tc::td::te::tf::tg::th::ti::tj::t3::t4::t5::t6::X::t7::Y::Z::U::t8::t0::t9::t1::t2::W::tk::tl::tm::tn::tp::tq::tr::ts::tt::tu::tv::tz::tA::tB::tC::tD::tE::tF::tG::tH::tI::tJ::tK::tL::tM::tN::tx::tO::ty::tw::tS::tQ::tT::tR::tP::tX::tV::tY::tW::tU::q5::q0::q6::q1::q2::q3::q4::tZ::qd::q8::qe::q9::qa::qb::qc::q7::qg::qh::qi::qf::qk::qj::ql::qp::qm::qn::qo::qq::qr::qs::vX::vX::uu::qw::qx::qu::qt::[]),hY⟩):=kG
theorem Ha:bz (xX s 7 wl k false) bE 45 m0 ac (ap (xX s 7 wl k false) (am s.P Tryz.f7) bB) ⟨(d::b::a::e::x::y::l::o::z::j::f::R::A::q::g::r::B::D::E::F::G::I::J::u::L::v::O::N::Q::M::ta::T::tb::tc::td::te::tf::tg::th::ti::tj::t3::t4::t5::t6::X::t7::Y::Z::U::t8::t0::t9::t1::t2::W::tk::tl::tm::tn::tp::tq::tr::ts::tt::tu::tv::tz::tA::tB::tC::tD::tE::tF::tG::tH::tI::tJ::tK::tL::tM::tN::tx::tO::ty::tw::tS::tQ::tT::tR::tP::tX::tV::tY::tW::tU::q5::q0::q6::q1::q2::q3::q4::tZ::qd::q8::qe::q9::qa::qb::qc::q7::qg::qh::qi::qf::qk::qj::ql::qp::qm::qn::qo::qq::qr::qs::zz),h⟩ =
 gd qh (
 bm (aM qk (.lit (.bool true)) qr) h fun v153 h154=>
 bz (xX s 7 wl k false) bE 46 m0 ac (ap (xX s 7 wl k false) (am s.P Tryz.f7) bB) ⟨(d::b::a::e::x::y::l::o::z::j::f::R::A::q::g::r::B::D::E::F::G::I::J::u::L::v::O::N::Q::M::ta::T::tb::tc::td::te::tf::tg::th::ti::tj::t3::t4::t5::t6::X::t7::Y::Z::U::t8::t0::t9::t1::t2::W::tk::tl::tm::tn::tp::tq::tr::ts::tt::tu::tv::tz::tA::tB::tC::tD::tE::tF::tG::tH::tI::tJ::tK::tL::tM::tN::tx::tO::ty::tw::tS::tQ::tT::tR::tP::tX::tV::tY::tW::tU::q5::q0::q6::q1::q2::q3::q4::tZ::qd::q8::qe::q9::qa::qb::qc::q7::qg::(.lit (.bool true))::qi::qf::qk::qj::ql::qp::qm::qn::qo::qq::qr::v153::zz),h154⟩) (
 bz (xX s 7 wl k false) bE 46 m0 ac (ap (xX s 7 wl k false) (am s.P Tryz.f7) bB) ⟨(d::b::a::e::x::y::l::o::z::j::f::R::A::q::g::r::B::D::E::F::G::I::J::u::L::v::O::N::Q::M::ta::T::tb::tc::td::te::tf::tg::th::ti::tj::t3::t4::t5::t6::X::t7::Y::Z::U::t8::t0::t9::t1::t2::W::tk::tl::tm::tn::tp::tq::tr::ts::tt::tu::tv::tz::tA::tB::tC::tD::tE::tF::tG::tH::tI::tJ::tK::tL::tM::tN::tx::tO::ty::tw::tS::tQ::tT::tR::tP::tX::tV::tY::tW::tU::q5::q0::q6::q1::q2::q3::q4::tZ::qd::q8::qe::q9::qa::qb::qc::q7::qg::(.lit (.bool false))::qi::qf::qk::qj::ql::qp::qm::qn::qo::qq::qr::uu::zz),h⟩) (
 bz (xX s 7 wl k false) bE 46 m0 ac (ap (xX s 7 wl k false) (am s.P Tryz.f7) bB) ⟨(d::b::a::e::x::y::l::o::z::j::f::R::A::q::g::r::B::D::E::F::G::I::J::u::L::v::O::N::Q::M::ta::T::tb::tc::td::te::tf::tg::th::ti::tj::t3::t4::t5::t6::X::t7::Y::Z::U::t8::t0::t9::t1::t2::W::tk::tl::tm::tn::tp::tq::tr::ts::tt::tu::tv::tz::tA::tB::tC::tD::tE::tF::tG::tH::tI::tJ::tK::tL::tM::tN::tx::tO::ty::tw::tS::tQ::tT::tR::tP::tX::tV::tY::tW::tU::q5::q0::q6::q1::q2::q3::q4::tZ::qd::q8::qe::q9::qa::qb::qc::q7::qg::qh::qi::qf::qk::qj::ql::qp::qm::qn::qo::qq::qr::uu::zz),h⟩):=kG
theorem IT:bz (xX s 7 wl k false) bE 40 m0 ac (ap (xX s 7 wl k false) (am s.P Tryz.f7) bB) ⟨(d::b::a::e::x::y::l::o::z::j::f::R::A::q::g::r::B::D::E::F::G::I::J::u::L::v::O::N::Q::M::ta::T::tb::tc::td::te::tf::tg::th::ti::tj::t3::t4::t5::t6::X::t7::Y::Z::U::t8::t0::t9::t1::t2::W::tk::tl::tm::tn::tp::tq::tr::ts::tt::tu::tv::tz::tA::tB::tC::tD::tE::tF::tG::tH::tI::tJ::tK::tL::tM::tN::tx::tO::ty::tw::tS::tQ::tT::tR::tP::tX::tV::tY::tW::tU::q5::q0::q6::q1::q2::q3::q4::tZ::qd::q8::qe::q9::qa::qb::qc::q7::qg::qh::qi::qf::qk::qj::ql::qp::qm::qn::qo::qq::zz),h⟩ =
 gd qp (
 bm (aa s.P 30 A 3) h fun v155 h156=>
 bm (ab s.P 27 v155 h156) h156 fun v157 h158=>
 bp (a9 s.P 27 v157 h158) fun v159 h160=>
 bm (au s.P .eql 3 v159 (.lit (.int .i64 0))) h160 fun v161 h162=>
 bz (xX s 7 wl k false) bE 44 m0 ac (ap (xX s 7 wl k false) (am s.P Tryz.f7) bB) ⟨(d::b::a::e::x::y::l::o::z::j::f::R::A::q::g::r::B::D::E::F::G::I::J::u::L::v::O::N::Q::M::ta::T::tb::tc::td::te::tf::tg::th::ti::tj::t3::t4::t5::t6::X::t7::Y::Z::U::t8::t0::t9::t1::t2::W::tk::tl::tm::tn::tp::tq::tr::ts::tt::tu::tv::tz::tA::tB::tC::tD::tE::tF::tG::tH::tI::tJ::tK::tL::tM::tN::tx::tO::ty::tw::tS::tQ::tT::tR::tP::tX::tV::tY::tW::tU::q5::q0::q6::q1::q2::q3::q4::tZ::qd::q8::qe::q9::qa::qb::qc::q7::qg::qh::qi::qf::qk::qj::ql::(.lit (.bool true))::v155::v157::v159::v161::zz),h162⟩) (
 bz (xX s 7 wl k false) bE 44 m0 ac (ap (xX s 7 wl k false) (am s.P Tryz.f7) bB) ⟨(d::b::a::e::x::y::l::o::z::j::f::R::A::q::g::r::B::D::E::F::G::I::J::u::L::v::O::N::Q::M::ta::T::tb::tc::td::te::tf::tg::th::ti::tj::t3::t4::t5::t6::X::t7::Y::Z::U::t8::t0::t9::t1::t2::W::tk::tl::tm::tn::tp::tq::tr::ts::tt::tu::tv::tz::tA::tB::tC::tD::tE::tF::tG::tH::tI::tJ::tK::tL::tM::tN::tx::tO::ty::tw::tS::tQ::tT::tR::tP::tX::tV::tY::tW::tU::q5::q0::q6::q1::q2::q3::q4::tZ::qd::q8::qe::q9::qa::qb::qc::q7::qg::qh::qi::qf::qk::qj::ql::(.lit (.bool false))::uu::uu::uu::uu::zz),h⟩) (
 bz (xX s 7 wl k false) bE 41 m0 ac (ap (xX s 7 wl k false) (am s.P Tryz.f7) bB) ⟨(d::b::a::e::x::y::l::o::z::j::f::R::A::q::g::r::B::D::E::F::G::I::J::u::L::v::O::N::Q::M::ta::T::tb::tc::td::te::tf::tg::th::ti::tj::t3::t4::t5::t6::X::t7::Y::Z::U::t8::t0::t9::t1::t2::W::tk::tl::tm::tn::tp::tq::tr::ts::tt::tu::tv::tz::tA::tB::tC::tD::tE::tF::tG::tH::tI::tJ::tK::tL::tM::tN::tx::tO::ty::tw::tS::tQ::tT::tR::tP::tX::tV::tY::tW::tU::q5::q0::q6::q1::q2::q3::q4::tZ::qd::q8::qe::q9::qa::qb::qc::q7::qg::qh::qi::qf::qk::qj::ql::qp::uu::qn::qo::qq::zz),h⟩):=kG
theorem IQ:bz (xX s 7 wl k false) bE 38 m0 ac (ap (xX s 7 wl k false) (am s.P Tryz.f7) bB) ⟨(d::b::a::e::x::y::l::o::z::j::f::R::A::q::g::r::B::D::E::F::G::I::J::u::L::v::O::N::Q::M::ta::T::tb::tc::td::te::tf::tg::th::ti::tj::t3::t4::t5::t6::X::t7::Y::Z::U::t8::t0::t9::t1::t2::W::tk::tl::tm::tn::tp::tq::tr::ts::tt::tu::tv::tz::tA::tB::tC::tD::tE::tF::tG::tH::tI::tJ::tK::tL::tM::tN::tx::tO::ty::tw::tS::tQ::tT::tR::tP::tX::tV::tY::tW::tU::q5::q0::q6::q1::q2::q3::q4::tZ::qd::q8::qe::q9::qa::qb::qc::q7::qg::qh::qi::qf::qk::qj::ql::qp::qm::qn::qo::qq::qr::zz),h⟩ =
 gd qk (
 bz (xX s 7 wl k false) bE 45 m0 ac (ap (xX s 7 wl k false) (am s.P Tryz.f7) bB) ⟨(d::b::a::e::x::y::l::o::z::j::f::R::A::q::g::r::B::D::E::F::G::I::J::u::L::v::O::N::Q::M::ta::T::tb::tc::td::te::tf::tg::th::ti::tj::t3::t4::t5::t6::X::t7::Y::Z::U::t8::t0::t9::t1::t2::W::tk::tl::tm::tn::tp::tq::tr::ts::tt::tu::tv::tz::tA::tB::tC::tD::tE::tF::tG::tH::tI::tJ::tK::tL::tM::tN::tx::tO::ty::tw::tS::tQ::tT::tR::tP::tX::tV::tY::tW::tU::q5::q0::q6::q1::q2::q3::q4::tZ::qd::q8::qe::q9::qa::qb::qc::q7::qg::qh::qi::qf::(.lit (.bool true))::qj::uu::uu::uu::uu::uu::uu::uu::zz),h⟩) (
 bm (vUn .not qj) h fun v163 h164=>
 bz (xX s 7 wl k false) bE 40 m0 ac (ap (xX s 7 wl k false) (am s.P Tryz.f7) bB) ⟨(d::b::a::e::x::y::l::o::z::j::f::R::A::q::g::r::B::D::E::F::G::I::J::u::L::v::O::N::Q::M::ta::T::tb::tc::td::te::tf::tg::th::ti::tj::t3::t4::t5::t6::X::t7::Y::Z::U::t8::t0::t9::t1::t2::W::tk::tl::tm::tn::tp::tq::tr::ts::tt::tu::tv::tz::tA::tB::tC::tD::tE::tF::tG::tH::tI::tJ::tK::tL::tM::tN::tx::tO::ty::tw::tS::tQ::tT::tR::tP::tX::tV::tY::tW::tU::q5::q0::q6::q1::q2::q3::q4::tZ::qd::q8::qe::q9::qa::qb::qc::q7::qg::qh::qi::qf::(.lit (.bool false))::qj::v163::v163::qm::qn::qo::qq::qr::zz),h164⟩) (
 bz (xX s 7 wl k false) bE 39 m0 ac (ap (xX s 7 wl k false) (am s.P Tryz.f7) bB) ⟨(d::b::a::e::x::y::l::o::z::j::f::R::A::q::g::r::B::D::E::F::G::I::J::u::L::v::O::N::Q::M::ta::T::tb::tc::td::te::tf::tg::th::ti::tj::t3::t4::t5::t6::X::t7::Y::Z::U::t8::t0::t9::t1::t2::W::tk::tl::tm::tn::tp::tq::tr::ts::tt::tu::tv::tz::tA::tB::tC::tD::tE::tF::tG::tH::tI::tJ::tK::tL::tM::tN::tx::tO::ty::tw::tS::tQ::tT::tR::tP::tX::tV::tY::tW::tU::q5::q0::q6::q1::q2::q3::q4::tZ::qd::q8::qe::q9::qa::qb::qc::q7::qg::qh::qi::qf::qk::qj::uu::qp::qm::qn::qo::qq::qr::zz),h⟩):=kG
theorem Ht:bz (xX s 7 wl k false) bE 52 m0 ac (ap (xX s 7 wl k false) (am s.P Tryz.f7) bB) ⟨(d::b::a::e::x::y::l::o::z::j::f::R::A::q::g::r::B::D::E::F::G::I::J::u::L::v::O::N::Q::M::ta::T::tb::tc::td::te::tf::tg::th::ti::tj::t3::t4::t5::t6::X::t7::Y::Z::U::t8::t0::t9::t1::t2::W::tk::tl::tm::tn::tp::tq::tr::ts::tt::tu::tv::tz::tA::tB::tC::tD::tE::tF::tG::tH::tI::tJ::tK::tL::tM::tN::tx::tO::ty::tw::tS::tQ::tT::tR::tP::tX::tV::tY::tW::tU::q5::q0::q6::q1::q2::q3::q4::tZ::qd::q8::qe::q9::qa::qb::qc::q7::qg::qh::qi::qf::qk::qj::ql::qp::qm::qn::qo::qq::qr::qs::qy::qv::qz::qw::qx::qu::qt::[]),h⟩ =
 bm (aM qv qu (.lit (.bool false))) h fun v165 h166=>
 some (v165,h166):=kG
theorem Iy:bz (xX s 7 wl k false) bE 44 m0 ac (ap (xX s 7 wl k false) (am s.P Tryz.f7) bB) ⟨(d::b::a::e::x::y::l::o::z::j::f::R::A::q::g::r::B::D::E::F::G::I::J::u::L::v::O::N::Q::M::ta::T::tb::tc::td::te::tf::tg::th::ti::tj::t3::t4::t5::t6::X::t7::Y::Z::U::t8::t0::t9::t1::t2::W::tk::tl::tm::tn::tp::tq::tr::ts::tt::tu::tv::tz::tA::tB::tC::tD::tE::tF::tG::tH::tI::tJ::tK::tL::tM::tN::tx::tO::ty::tw::tS::tQ::tT::tR::tP::tX::tV::tY::tW::tU::q5::q0::q6::q1::q2::q3::q4::tZ::qd::q8::qe::q9::qa::qb::qc::q7::qg::qh::qi::qf::qk::qj::ql::qp::qm::qn::qo::qq::qr::zz),h⟩ =
 gd qk (
 bz (xX s 7 wl k false) bE 45 m0 ac (ap (xX s 7 wl k false) (am s.P Tryz.f7) bB) ⟨(d::b::a::e::x::y::l::o::z::j::f::R::A::q::g::r::B::D::E::F::G::I::J::u::L::v::O::N::Q::M::ta::T::tb::tc::td::te::tf::tg::th::ti::tj::t3::t4::t5::t6::X::t7::Y::Z::U::t8::t0::t9::t1::t2::W::tk::tl::tm::tn::tp::tq::tr::ts::tt::tu::tv::tz::tA::tB::tC::tD::tE::tF::tG::tH::tI::tJ::tK::tL::tM::tN::tx::tO::ty::tw::tS::tQ::tT::tR::tP::tX::tV::tY::tW::tU::q5::q0::q6::q1::q2::q3::q4::tZ::qd::q8::qe::q9::qa::qb::qc::q7::qg::qh::qi::qf::(.lit (.bool true))::qj::ql::qp::qm::qn::qo::qq::uu::zz),h⟩) (
 bm (aM qp qq (.lit (.bool false))) h fun v167 h168=>
 bz (xX s 7 wl k false) bE 45 m0 ac (ap (xX s 7 wl k false) (am s.P Tryz.f7) bB) ⟨(d::b::a::e::x::y::l::o::z::j::f::R::A::q::g::r::B::D::E::F::G::I::J::u::L::v::O::N::Q::M::ta::T::tb::tc::td::te::tf::tg::th::ti::tj::t3::t4::t5::t6::X::t7::Y::Z::U::t8::t0::t9::t1::t2::W::tk::tl::tm::tn::tp::tq::tr::ts::tt::tu::tv::tz::tA::tB::tC::tD::tE::tF::tG::tH::tI::tJ::tK::tL::tM::tN::tx::tO::ty::tw::tS::tQ::tT::tR::tP::tX::tV::tY::tW::tU::q5::q0::q6::q1::q2::q3::q4::tZ::qd::q8::qe::q9::qa::qb::qc::q7::qg::qh::qi::qf::(.lit (.bool false))::qj::ql::qp::qm::qn::qo::qq::v167::zz),h168⟩) (
 bz (xX s 7 wl k false) bE 45 m0 ac (ap (xX s 7 wl k false) (am s.P Tryz.f7) bB) ⟨(d::b::a::e::x::y::l::o::z::j::f::R::A::q::g::r::B::D::E::F::G::I::J::u::L::v::O::N::Q::M::ta::T::tb::tc::td::te::tf::tg::th::ti::tj::t3::t4::t5::t6::X::t7::Y::Z::U::t8::t0::t9::t1::t2::W::tk::tl::tm::tn::tp::tq::tr::ts::tt::tu::tv::tz::tA::tB::tC::tD::tE::tF::tG::tH::tI::tJ::tK::tL::tM::tN::tx::tO::ty::tw::tS::tQ::tT::tR::tP::tX::tV::tY::tW::tU::q5::q0::q6::q1::q2::q3::q4::tZ::qd::q8::qe::q9::qa::qb::qc::q7::qg::qh::qi::qf::qk::qj::ql::qp::qm::qn::qo::qq::uu::zz),h⟩):=kG
theorem Ig:bz (xX s 7 wl k false) bE 41 m0 ac (ap (xX s 7 wl k false) (am s.P Tryz.f7) bB) ⟨(d::b::a::e::x::y::l::o::z::j::f::R::A::q::g::r::B::D::E::F::G::I::J::u::L::v::O::N::Q::M::ta::T::tb::tc::td::te::tf::tg::th::ti::tj::t3::t4::t5::t6::X::t7::Y::Z::U::t8::t0::t9::t1::t2::W::tk::tl::tm::tn::tp::tq::tr::ts::tt::tu::tv::tz::tA::tB::tC::tD::tE::tF::tG::tH::tI::tJ::tK::tL::tM::tN::tx::tO::ty::tw::tS::tQ::tT::tR::tP::tX::tV::tY::tW::tU::q5::q0::q6::q1::q2::q3::q4::tZ::qd::q8::qe::q9::qa::qb::qc::q7::qg::qh::qi::qf::qk::qj::ql::qp::qm::qn::qo::qq::zz),h⟩ =
 gd qp (
 bm (ab s.P 27 qm h) h fun v169 h170=>
 bp (a9 s.P 27 v169 h170) fun v171 h172=>
 bm (au s.P .eql 3 v171 (.lit (.int .i64 0))) h172 fun v173 h174=>
 bz (xX s 7 wl k false) bE 44 m0 ac (ap (xX s 7 wl k false) (am s.P Tryz.f7) bB) ⟨(d::b::a::e::x::y::l::o::z::j::f::R::A::q::g::r::B::D::E::F::G::I::J::u::L::v::O::N::Q::M::ta::T::tb::tc::td::te::tf::tg::th::ti::tj::t3::t4::t5::t6::X::t7::Y::Z::U::t8::t0::t9::t1::t2::W::tk::tl::tm::tn::tp::tq::tr::ts::tt::tu::tv::tz::tA::tB::tC::tD::tE::tF::tG::tH::tI::tJ::tK::tL::tM::tN::tx::tO::ty::tw::tS::tQ::tT::tR::tP::tX::tV::tY::tW::tU::q5::q0::q6::q1::q2::q3::q4::tZ::qd::q8::qe::q9::qa::qb::qc::q7::qg::qh::qi::qf::qk::qj::ql::(.lit (.bool true))::qm::v169::v171::v173::zz),h174⟩) (
 bz (xX s 7 wl k false) bE 44 m0 ac (ap (xX s 7 wl k false) (am s.P Tryz.f7) bB) ⟨(d::b::a::e::x::y::l::o::z::j::f::R::A::q::g::r::B::D::E::F::G::I::J::u::L::v::O::N::Q::M::ta::T::tb::tc::td::te::tf::tg::th::ti::tj::t3::t4::t5::t6::X::t7::Y::Z::U::t8::t0::t9::t1::t2::W::tk::tl::tm::tn::tp::tq::tr::ts::tt::tu::tv::tz::tA::tB::tC::tD::tE::tF::tG::tH::tI::tJ::tK::tL::tM::tN::tx::tO::ty::tw::tS::tQ::tT::tR::tP::tX::tV::tY::tW::tU::q5::q0::q6::q1::q2::q3::q4::tZ::qd::q8::qe::q9::qa::qb::qc::q7::qg::qh::qi::qf::qk::qj::ql::(.lit (.bool false))::qm::uu::uu::uu::zz),h⟩) (
 bz (xX s 7 wl k false) bE 42 m0 ac (ap (xX s 7 wl k false) (am s.P Tryz.f7) bB) ⟨(d::b::a::e::x::y::l::o::z::j::f::R::A::q::g::r::B::D::E::F::G::I::J::u::L::v::O::N::Q::M::ta::T::tb::tc::td::te::tf::tg::th::ti::tj::t3::t4::t5::t6::X::t7::Y::Z::U::t8::t0::t9::t1::t2::W::tk::tl::tm::tn::tp::tq::tr::ts::tt::tu::tv::tz::tA::tB::tC::tD::tE::tF::tG::tH::tI::tJ::tK::tL::tM::tN::tx::tO::ty::tw::tS::tQ::tT::tR::tP::tX::tV::tY::tW::tU::q5::q0::q6::q1::q2::q3::q4::tZ::qd::q8::qe::q9::qa::qb::qc::q7::qg::qh::qi::qf::qk::qj::ql::qp::qm::uu::qo::qq::zz),h⟩):=kG
theorem JP:bz (xX s 7 wl k false) bE 39 m0 ac (ap (xX s 7 wl k false) (am s.P Tryz.f7) bB) ⟨(d::b::a::e::x::y::l::o::z::j::f::R::A::q::g::r::B::D::E::F::G::I::J::u::L::v::O::N::Q::M::ta::T::tb::tc::td::te::tf::tg::th::ti::tj::t3::t4::t5::t6::X::t7::Y::Z::U::t8::t0::t9::t1::t2::W::tk::tl::tm::tn::tp::tq::tr::ts::tt::tu::tv::tz::tA::tB::tC::tD::tE::tF::tG::tH::tI::tJ::tK::tL::tM::tN::tx::tO::ty::tw::tS::tQ::tT::tR::tP::tX::tV::tY::tW::tU::q5::q0::q6::q1::q2::q3::q4::tZ::qd::q8::qe::q9::qa::qb::qc::q7::qg::qh::qi::qf::qk::qj::ql::qp::qm::qn::qo::qq::qr::zz),h⟩ =
 gd qk (
 bz (xX s 7 wl k false) bE 45 m0 ac (ap (xX s 7 wl k false) (am s.P Tryz.f7) bB) ⟨(d::b::a::e::x::y::l::o::z::j::f::R::A::q::g::r::B::D::E::F::G::I::J::u::L::v::O::N::Q::M::ta::T::tb::tc::td::te::tf::tg::th::ti::tj::t3::t4::t5::t6::X::t7::Y::Z::U::t8::t0::t9::t1::t2::W::tk::tl::tm::tn::tp::tq::tr::ts::tt::tu::tv::tz::tA::tB::tC::tD::tE::tF::tG::tH::tI::tJ::tK::tL::tM::tN::tx::tO::ty::tw::tS::tQ::tT::tR::tP::tX::tV::tY::tW::tU::q5::q0::q6::q1::q2::q3::q4::tZ::qd::q8::qe::q9::qa::qb::qc::q7::qg::qh::qi::qf::(.lit (.bool true))::qj::ql::uu::uu::uu::uu::uu::uu::zz),h⟩) (
 bz (xX s 7 wl k false) bE 40 m0 ac (ap (xX s 7 wl k false) (am s.P Tryz.f7) bB) ⟨(d::b::a::e::x::y::l::o::z::j::f::R::A::q::g::r::B::D::E::F::G::I::J::u::L::v::O::N::Q::M::ta::T::tb::tc::td::te::tf::tg::th::ti::tj::t3::t4::t5::t6::X::t7::Y::Z::U::t8::t0::t9::t1::t2::W::tk::tl::tm::tn::tp::tq::tr::ts::tt::tu::tv::tz::tA::tB::tC::tD::tE::tF::tG::tH::tI::tJ::tK::tL::tM::tN::tx::tO::ty::tw::tS::tQ::tT::tR::tP::tX::tV::tY::tW::tU::q5::q0::q6::q1::q2::q3::q4::tZ::qd::q8::qe::q9::qa::qb::qc::q7::qg::qh::qi::qf::(.lit (.bool false))::qj::ql::ql::qm::qn::qo::qq::qr::zz),h⟩) (
 bz (xX s 7 wl k false) bE 40 m0 ac (ap (xX s 7 wl k false) (am s.P Tryz.f7) bB) ⟨(d::b::a::e::x::y::l::o::z::j::f::R::A::q::g::r::B::D::E::F::G::I::J::u::L::v::O::N::Q::M::ta::T::tb::tc::td::te::tf::tg::th::ti::tj::t3::t4::t5::t6::X::t7::Y::Z::U::t8::t0::t9::t1::t2::W::tk::tl::tm::tn::tp::tq::tr::ts::tt::tu::tv::tz::tA::tB::tC::tD::tE::tF::tG::tH::tI::tJ::tK::tL::tM::tN::tx::tO::ty::tw::tS::tQ::tT::tR::tP::tX::tV::tY::tW::tU::q5::q0::q6::q1::q2::q3::q4::tZ::qd::q8::qe::q9::qa::qb::qc::q7::qg::qh::qi::qf::qk::qj::ql::uu::qm::qn::qo::qq::qr::zz),h⟩):=kG
theorem Ia:bz (xX s 7 wl k false) bE 42 m0 ac (ap (xX s 7 wl k false) (am s.P Tryz.f7) bB) ⟨(d::b::a::e::x::y::l::o::z::j::f::R::A::q::g::r::B::D::E::F::G::I::J::u::L::v::O::N::Q::M::ta::T::tb::tc::td::te::tf::tg::th::ti::tj::t3::t4::t5::t6::X::t7::Y::Z::U::t8::t0::t9::t1::t2::W::tk::tl::tm::tn::tp::tq::tr::ts::tt::tu::tv::tz::tA::tB::tC::tD::tE::tF::tG::tH::tI::tJ::tK::tL::tM::tN::tx::tO::ty::tw::tS::tQ::tT::tR::tP::tX::tV::tY::tW::tU::q5::q0::q6::q1::q2::q3::q4::tZ::qd::q8::qe::q9::qa::qb::qc::q7::qg::qh::qi::qf::qk::qj::ql::qp::qm::qn::qo::qq::zz),h⟩ =
 gd qp (
 bp (a9 s.P 27 qn h) fun v175 h176=>
 bm (au s.P .eql 3 v175 (.lit (.int .i64 0))) h176 fun v177 h178=>
 bz (xX s 7 wl k false) bE 44 m0 ac (ap (xX s 7 wl k false) (am s.P Tryz.f7) bB) ⟨(d::b::a::e::x::y::l::o::z::j::f::R::A::q::g::r::B::D::E::F::G::I::J::u::L::v::O::N::Q::M::ta::T::tb::tc::td::te::tf::tg::th::ti::tj::t3::t4::t5::t6::X::t7::Y::Z::U::t8::t0::t9::t1::t2::W::tk::tl::tm::tn::tp::tq::tr::ts::tt::tu::tv::tz::tA::tB::tC::tD::tE::tF::tG::tH::tI::tJ::tK::tL::tM::tN::tx::tO::ty::tw::tS::tQ::tT::tR::tP::tX::tV::tY::tW::tU::q5::q0::q6::q1::q2::q3::q4::tZ::qd::q8::qe::q9::qa::qb::qc::q7::qg::qh::qi::qf::qk::qj::ql::(.lit (.bool true))::qm::qn::v175::v177::zz),h178⟩) (
 bz (xX s 7 wl k false) bE 44 m0 ac (ap (xX s 7 wl k false) (am s.P Tryz.f7) bB) ⟨(d::b::a::e::x::y::l::o::z::j::f::R::A::q::g::r::B::D::E::F::G::I::J::u::L::v::O::N::Q::M::ta::T::tb::tc::td::te::tf::tg::th::ti::tj::t3::t4::t5::t6::X::t7::Y::Z::U::t8::t0::t9::t1::t2::W::tk::tl::tm::tn::tp::tq::tr::ts::tt::tu::tv::tz::tA::tB::tC::tD::tE::tF::tG::tH::tI::tJ::tK::tL::tM::tN::tx::tO::ty::tw::tS::tQ::tT::tR::tP::tX::tV::tY::tW::tU::q5::q0::q6::q1::q2::q3::q4::tZ::qd::q8::qe::q9::qa::qb::qc::q7::qg::qh::qi::qf::qk::qj::ql::(.lit (.bool false))::qm::qn::uu::uu::zz),h⟩) (
 bz (xX s 7 wl k false) bE 43 m0 ac (ap (xX s 7 wl k false) (am s.P Tryz.f7) bB) ⟨(d::b::a::e::x::y::l::o::z::j::f::R::A::q::g::r::B::D::E::F::G::I::J::u::L::v::O::N::Q::M::ta::T::tb::tc::td::te::tf::tg::th::ti::tj::t3::t4::t5::t6::X::t7::Y::Z::U::t8::t0::t9::t1::t2::W::tk::tl::tm::tn::tp::tq::tr::ts::tt::tu::tv::tz::tA::tB::tC::tD::tE::tF::tG::tH::tI::tJ::tK::tL::tM::tN::tx::tO::ty::tw::tS::tQ::tT::tR::tP::tX::tV::tY::tW::tU::q5::q0::q6::q1::q2::q3::q4::tZ::qd::q8::qe::q9::qa::qb::qc::q7::qg::qh::qi::qf::qk::qj::ql::qp::qm::qn::uu::qq::zz),h⟩):=kG
theorem Kg:bz (xX s 7 wl k false) bE 43 m0 ac (ap (xX s 7 wl k false) (am s.P Tryz.f7) bB) ⟨(d::b::a::e::x::y::l::o::z::j::f::R::A::q::g::r::B::D::E::F::G::I::J::u::L::v::O::N::Q::M::ta::T::tb::tc::td::te::tf::tg::th::ti::tj::t3::t4::t5::t6::X::t7::Y::Z::U::t8::t0::t9::t1::t2::W::tk::tl::tm::tn::tp::tq::tr::ts::tt::tu::tv::tz::tA::tB::tC::tD::tE::tF::tG::tH::tI::tJ::tK::tL::tM::tN::tx::tO::ty::tw::tS::tQ::tT::tR::tP::tX::tV::tY::tW::tU::q5::q0::q6::q1::q2::q3::q4::tZ::qd::q8::qe::q9::qa::qb::qc::q7::qg::qh::qi::qf::qk::qj::ql::qp::qm::qn::qo::qq::zz),h⟩ =
 gd qp (
 bm (au s.P .eql 3 qo (.lit (.int .i64 0))) h fun v179 h180=>
 bz (xX s 7 wl k false) bE 44 m0 ac (ap (xX s 7 wl k false) (am s.P Tryz.f7) bB) ⟨(d::b::a::e::x::y::l::o::z::j::f::R::A::q::g::r::B::D::E::F::G::I::J::u::L::v::O::N::Q::M::ta::T::tb::tc::td::te::tf::tg::th::ti::tj::t3::t4::t5::t6::X::t7::Y::Z::U::t8::t0::t9::t1::t2::W::tk::tl::tm::tn::tp::tq::tr::ts::tt::tu::tv::tz::tA::tB::tC::tD::tE::tF::tG::tH::tI::tJ::tK::tL::tM::tN::tx::tO::ty::tw::tS::tQ::tT::tR::tP::tX::tV::tY::tW::tU::q5::q0::q6::q1::q2::q3::q4::tZ::qd::q8::qe::q9::qa::qb::qc::q7::qg::qh::qi::qf::qk::qj::ql::(.lit (.bool true))::qm::qn::qo::v179::zz),h180⟩) (
 bz (xX s 7 wl k false) bE 44 m0 ac (ap (xX s 7 wl k false) (am s.P Tryz.f7) bB) ⟨(d::b::a::e::x::y::l::o::z::j::f::R::A::q::g::r::B::D::E::F::G::I::J::u::L::v::O::N::Q::M::ta::T::tb::tc::td::te::tf::tg::th::ti::tj::t3::t4::t5::t6::X::t7::Y::Z::U::t8::t0::t9::t1::t2::W::tk::tl::tm::tn::tp::tq::tr::ts::tt::tu::tv::tz::tA::tB::tC::tD::tE::tF::tG::tH::tI::tJ::tK::tL::tM::tN::tx::tO::ty::tw::tS::tQ::tT::tR::tP::tX::tV::tY::tW::tU::q5::q0::q6::q1::q2::q3::q4::tZ::qd::q8::qe::q9::qa::qb::qc::q7::qg::qh::qi::qf::qk::qj::ql::(.lit (.bool false))::qm::qn::qo::uu::zz),h⟩) (
 bz (xX s 7 wl k false) bE 44 m0 ac (ap (xX s 7 wl k false) (am s.P Tryz.f7) bB) ⟨(d::b::a::e::x::y::l::o::z::j::f::R::A::q::g::r::B::D::E::F::G::I::J::u::L::v::O::N::Q::M::ta::T::tb::tc::td::te::tf::tg::th::ti::tj::t3::t4::t5::t6::X::t7::Y::Z::U::t8::t0::t9::t1::t2::W::tk::tl::tm::tn::tp::tq::tr::ts::tt::tu::tv::tz::tA::tB::tC::tD::tE::tF::tG::tH::tI::tJ::tK::tL::tM::tN::tx::tO::ty::tw::tS::tQ::tT::tR::tP::tX::tV::tY::tW::tU::q5::q0::q6::q1::q2::q3::q4::tZ::qd::q8::qe::q9::qa::qb::qc::q7::qg::qh::qi::qf::qk::qj::ql::qp::qm::qn::qo::uu::zz),h⟩):=kG
theorem rC (cx:Cx) (s:St):ap cx K wU .ret s=K .ret s:=by kernel_rfl
theorem pD (cx:Cx) (s:St):ap cx K Ae .ret s=K .ret s:=by kernel_rfl
theorem pa (cx:Cx) (s:St):ap cx K MK .ret s=K .ret s:=by kernel_rfl
theorem ri (cx:Cx) (s:St):ap cx K bB .ret s=K .ret s:=by kernel_rfl
-- names: xb7,xz7,Qh,TJ,P8,Yk,RV,Su,Qs,QG,Tz,PO,Qj,Jr,Ja,Ha,IT,IQ,Ht,Iy,Ig,JP,Ia,Kg,rC,pD,pa,ri
end
end Go.Ab
