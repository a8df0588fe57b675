import Derived.Test.YtblpbpnilkfjhaaGreatR6Seat
import Derived.Test.YtblpbpnilkfjhaaGreatAbLibC
import Derived.Test.YtblpbpnilkfjhaaGreatR6FacP
set_option linter.unusedVariables false
set_option linter.unusedSimpArgs false
set_option maxRecDepth 100000
set_option linter.unusedVariables false
namespace Go.Ab
open Go.Proofs
section
variable (s:Sys) (k wl:Nat) (m0:Nat) (ac:List Nat×List Nat) (c e j f o g u v y A z J D E F G B L M N I Q O U T R X W Z Y t0 t3 t4 t2 t5 t1 t6 t7 t8 t9 td tb te tc ta tj tg th tf tm tk tl ti tq tp tr tn tt ts tv tu tz tx ty tw tA tC tD tB tF tE tI tG tH tK tJ tP tM tN tO tL tT tS tU tR tQ:V) (h:Hp) (K:Out→St→Option (V×Hp)) (rd:Bool) (n n0:Nat) (zz:List V)
noncomputable def mc:Code:=al (an Tryz.f15) [1,1,0]
noncomputable def lc:List Fr:=[.seq (al (an Tryz.f15) [1,1,1])]
noncomputable def K1:Code:=al (an Tryz.f15) [1,1,1,0,1,0,0]
noncomputable def Na:List Fr:=[.block 0,.seq (al (an Tryz.f15) [1,1,1,1])]
noncomputable def ef:Code:=al (an Tryz.f15) [1,1,1,1,1,0]
noncomputable def dZ:List Fr:=[.seq (al (an Tryz.f15) [1,1,1,1,1,1])]
theorem aij:ak (xX s 15 wl k false) Tryz.f15 [] h =
 bm (bf s.P 23 [(0,(.lit (.int .i64 1))),(1,(.lit (.int .i64 1))),(2,(.lit (.int .i64 1)))]) h fun v1 h2=>
 bp (yC s k wl 15 false true (.fn (.func 23) [] []) [v1,.nil,.nil] h2) fun v3 h4=>
 bm (ar v3 0) h4 fun v5 h6=>
 bm (ar v3 1) h6 fun v7 h8=>
 bp (aw s.P 30 h8) fun v9 hD=>
 bs (aj s.P wl 30 v9 v5 hD) fun hJ=>
 bm (ab s.P 30 v9 hJ) hJ fun va hu=>
 bp (yC s k wl 15 false true (.fn (.func 26) [] []) [va] hu) fun vb hv=>
 bm (au s.P .eql 3 vb (.lit (.int .i64 0))) hv fun vS hM=>
 gd vS (
 bm (ab s.P 30 v9 hM) hM fun vn hw=>
 bp (yC s k wl 15 false true (.fn (.func 25) [] []) [vn] hw) fun vo hx=>
 bm (vUn .not vo) hx fun v22 hy=>
 yO s k wl 15 Tryz.f15 mc 7 hJ.length ([],[]) lc ⟨((.lit (.bool false))::v9::v7::uu::uu::uu::uu::uu::uu::v3::v1::v3::v5::v7::va::vb::vS::(.lit (.bool true))::vn::vo::v22::uu::uu::uu::uu::uu::uu::uu::uu::uu::uu::uu::uu::uu::uu::uu::uu::uu::uu::uu::uu::uu::uu::uu::uu::uu::uu::uu::uu::uu::uu::uu::uu::uu::uu::uu::uu::uu::uu::uu::uu::uu::uu::uu::uu::uu::uu::uu::uu::uu::uu::uu::uu::uu::uu::uu::[]),hy⟩) (
 yO s k wl 15 Tryz.f15 mc 7 hJ.length ([],[]) lc ⟨((.lit (.bool false))::v9::v7::uu::uu::uu::uu::uu::uu::v3::v1::v3::v5::v7::va::vb::vS::(.lit (.bool false))::uu::uu::uu::uu::uu::uu::uu::uu::uu::uu::uu::uu::uu::uu::uu::uu::uu::uu::uu::uu::uu::uu::uu::uu::uu::uu::uu::uu::uu::uu::uu::uu::uu::uu::uu::uu::uu::uu::uu::uu::uu::uu::uu::uu::uu::uu::uu::uu::uu::uu::uu::uu::uu::uu::uu::uu::uu::uu::[]),hM⟩) (
 yO s k wl 15 Tryz.f15 mc 5 hJ.length ([],[]) lc ⟨((.lit (.bool false))::v9::v7::uu::uu::uu::uu::uu::uu::v3::v1::v3::v5::v7::va::vb::vS::vS::uu::uu::uu::uu::uu::uu::uu::uu::uu::uu::uu::uu::uu::uu::uu::uu::uu::uu::uu::uu::uu::uu::uu::uu::uu::uu::uu::uu::uu::uu::uu::uu::uu::uu::uu::uu::uu::uu::uu::uu::uu::uu::uu::uu::uu::uu::uu::uu::uu::uu::uu::uu::uu::uu::uu::uu::uu::uu::[]),hM⟩):=kB
theorem ai2:evF Tryz.prog xM (k+1) wl 15 [] h=ak (xX (xS k) 15 wl k false) Tryz.f15 [] h:=by kernel_rfl
theorem aia (P:Program):aB P Tryz.f15 .ret ⟨(c::e::j::f::o::g::u::v::y::A::z::J::D::E::F::G::B::L::M::N::I::Q::O::U::T::R::X::W::Z::Y::t0::t3::t4::t2::t5::t1::t6::t7::t8::t9::td::tb::te::tc::ta::tj::tg::th::tf::tm::tk::tl::ti::tq::tp::tr::tn::tt::ts::tv::tu::tz::tx::ty::tw::tA::tC::tD::tB::tF::tE::tI::tG::tH::tK::tJ::[]),h⟩=some (c,h):=by kernel_rfl
theorem TR:yO s k wl 15 Tryz.f15 mc 7 m0 ac lc ⟨(c::e::j::f::o::g::u::v::y::A::z::J::D::E::F::G::B::L::M::N::I::Q::O::U::T::R::zz),h⟩ =
 bm (aT L I (.lit (.bool false))) h fun vT hN=>
 gd vT (
 bm (ab s.P 30 e hN) hN fun vp hz=>
 bp (yC s k wl 15 false true (.fn (.func 29) [] []) [vp] hz) fun vq h29=>
 bm (vUn .not vq) h29 fun v30 h31=>
 yO s k wl 15 Tryz.f15 mc 12 m0 ac lc ⟨(c::e::j::f::o::g::u::v::y::A::z::J::D::E::F::G::B::L::M::N::I::vT::(.lit (.bool true))::vp::vq::v30::zz),h31⟩) (
 yO s k wl 15 Tryz.f15 mc 12 m0 ac lc ⟨(c::e::j::f::o::g::u::v::y::A::z::J::D::E::F::G::B::L::M::N::I::vT::(.lit (.bool false))::uu::uu::uu::zz),hN⟩) (
 yO s k wl 15 Tryz.f15 mc 10 m0 ac lc ⟨(c::e::j::f::o::g::u::v::y::A::z::J::D::E::F::G::B::L::M::N::I::vT::vT::uu::T::R::zz),hN⟩):=kG
theorem So:yO s k wl 15 Tryz.f15 mc 12 m0 ac lc ⟨(c::e::j::f::o::g::u::v::y::A::z::J::D::E::F::G::B::L::M::N::I::Q::O::U::T::R::X::W::Z::Y::zz),h⟩ =
 bm (aT O R (.lit (.bool false))) h fun vU hO=>
 gd vU (
 bm (ab s.P 30 e hO) hO fun vr hB=>
 bp (yC s k wl 15 false true (.fn (.func 20) [] []) [vr] hB) fun vO hX=>
 yO s k wl 15 Tryz.f15 mc 16 m0 ac lc ⟨(c::e::j::f::o::g::u::v::y::A::z::J::D::E::F::G::B::L::M::N::I::Q::O::U::T::R::vU::(.lit (.bool true))::vr::vO::zz),hX⟩) (
 yO s k wl 15 Tryz.f15 mc 16 m0 ac lc ⟨(c::e::j::f::o::g::u::v::y::A::z::J::D::E::F::G::B::L::M::N::I::Q::O::U::T::R::vU::(.lit (.bool false))::uu::uu::zz),hO⟩) (
 yO s k wl 15 Tryz.f15 mc 15 m0 ac lc ⟨(c::e::j::f::o::g::u::v::y::A::z::J::D::E::F::G::B::L::M::N::I::Q::O::U::T::R::vU::vU::uu::Y::zz),hO⟩):=kG
theorem TD:yO s k wl 15 Tryz.f15 mc 16 m0 ac lc ⟨(c::e::j::f::o::g::u::v::y::A::z::J::D::E::F::G::B::L::M::N::I::Q::O::U::T::R::X::W::Z::Y::t0::t3::t4::t2::t5::t1::t6::t7::t8::t9::td::tb::te::tc::ta::tj::tg::th::tf::tm::tk::tl::ti::tq::tp::tr::tn::tt::ts::tv::tu::tz::tx::ty::tw::tA::tC::tD::tB::tF::tE::tI::tG::tH::tK::tJ::[]),h⟩ =
 bm (aT W Y (.lit (.bool false))) h fun vE hA=>
 yI s k wl 15 Tryz.f15 K1 hA.length Na k ⟨((V.kill hA.length c)::(V.kill hA.length e)::(V.kill hA.length j)::(V.kill hA.length vE)::(.lit (.int .i64 0))::(V.kill hA.length g)::(V.kill hA.length u)::(V.kill hA.length v)::(V.kill hA.length y)::(V.kill hA.length A)::(V.kill hA.length z)::(V.kill hA.length J)::(V.kill hA.length D)::(V.kill hA.length E)::(V.kill hA.length F)::(V.kill hA.length G)::(V.kill hA.length B)::(V.kill hA.length L)::(V.kill hA.length M)::(V.kill hA.length N)::(V.kill hA.length I)::(V.kill hA.length Q)::(V.kill hA.length O)::(V.kill hA.length U)::(V.kill hA.length T)::(V.kill hA.length R)::(V.kill hA.length X)::(V.kill hA.length W)::(V.kill hA.length Z)::(V.kill hA.length Y)::(V.kill hA.length vE)::.junk::.junk::.junk::.junk::.junk::.junk::.junk::.junk::.junk::.junk::.junk::(V.kill hA.length te)::(V.kill hA.length tc)::(V.kill hA.length ta)::(V.kill hA.length tj)::(V.kill hA.length tg)::(V.kill hA.length th)::(V.kill hA.length tf)::(V.kill hA.length tm)::(V.kill hA.length tk)::(V.kill hA.length tl)::(V.kill hA.length ti)::(V.kill hA.length tq)::(V.kill hA.length tp)::(V.kill hA.length tr)::(V.kill hA.length tn)::(V.kill hA.length tt)::(V.kill hA.length ts)::(V.kill hA.length tv)::(V.kill hA.length tu)::(V.kill hA.length tz)::(V.kill hA.length tx)::(V.kill hA.length ty)::(V.kill hA.length tw)::(V.kill hA.length tA)::(V.kill hA.length tC)::(V.kill hA.length tD)::(V.kill hA.length tB)::(V.kill hA.length tF)::(V.kill hA.length tE)::(V.kill hA.length tI)::(V.kill hA.length tG)::(V.kill hA.length tH)::(V.kill hA.length tK)::(V.kill hA.length tJ)::[]),cg hA.length hA⟩:=kG
theorem S8:itX (xX s 15 wl k rd) K1 n0 K (n+1) ⟨(c::e::j::f::o::g::u::v::y::A::z::J::D::E::F::G::B::L::M::N::I::Q::O::U::T::R::X::W::Z::Y::t0::t3::t4::t2::t5::t1::t6::t7::t8::t9::td::tb::te::tc::ta::tj::tg::th::tf::tm::tk::tl::ti::tq::tp::tr::tn::tt::ts::tv::tu::tz::tx::ty::tw::tA::tC::tD::tB::tF::tE::tI::tG::tH::tK::tJ::[]),h⟩ =
 bm (au s.P .lss 3 o (.lit (.int .i64 20))) h fun vJ hC=>
 cnd vJ (
 bm (ab s.P 30 e hC) hC fun vc hY=>
 bm (bf s.P 48 []) hY fun vk hZ=>
 bp (cI (xX s 15 wl k rd) false true (.fn (.func 24) [] []) [vc,vk] hZ) fun vK hP=>
 bm (ar vK 0) hP fun vL hQ=>
 bm (ar vK 1) hQ fun vP hR=>
 bp (aw s.P 30 hR) fun vF hS=>
 bs (aj s.P wl 30 vF vL hS) fun hl=>
 bm (ab s.P 30 vF hl) hl fun v55 h56=>
 bs (aj s.P wl 30 e v55 h56) fun ha=>
 bm (au s.P .add 3 o (.lit (.int .i64 1))) ha fun vQ hb=>
 itX (xX s 15 wl k rd) K1 n0 K n ⟨((V.kill n0 c)::(V.kill n0 e)::(V.kill n0 j)::(V.kill n0 f)::(V.kill n0 vQ)::(V.kill n0 vF)::(V.kill n0 vP)::(V.kill n0 v)::(V.kill n0 y)::(V.kill n0 A)::(V.kill n0 z)::(V.kill n0 J)::(V.kill n0 D)::(V.kill n0 E)::(V.kill n0 F)::(V.kill n0 G)::(V.kill n0 B)::(V.kill n0 L)::(V.kill n0 M)::(V.kill n0 N)::(V.kill n0 I)::(V.kill n0 Q)::(V.kill n0 O)::(V.kill n0 U)::(V.kill n0 T)::(V.kill n0 R)::(V.kill n0 X)::(V.kill n0 W)::(V.kill n0 Z)::(V.kill n0 Y)::(V.kill n0 t0)::.junk::.junk::.junk::.junk::.junk::.junk::.junk::.junk::.junk::.junk::.junk::(V.kill n0 te)::(V.kill n0 tc)::(V.kill n0 ta)::(V.kill n0 tj)::(V.kill n0 tg)::(V.kill n0 th)::(V.kill n0 tf)::(V.kill n0 tm)::(V.kill n0 tk)::(V.kill n0 tl)::(V.kill n0 ti)::(V.kill n0 tq)::(V.kill n0 tp)::(V.kill n0 tr)::(V.kill n0 tn)::(V.kill n0 tt)::(V.kill n0 ts)::(V.kill n0 tv)::(V.kill n0 tu)::(V.kill n0 tz)::(V.kill n0 tx)::(V.kill n0 ty)::(V.kill n0 tw)::(V.kill n0 tA)::(V.kill n0 tC)::(V.kill n0 tD)::(V.kill n0 tB)::(V.kill n0 tF)::(V.kill n0 tE)::(V.kill n0 tI)::(V.kill n0 tG)::(V.kill n0 tH)::(V.kill n0 tK)::(V.kill n0 tJ)::[]),cg n0 hb⟩) (
 K (.exit 0) ⟨((V.kill n0 c)::(V.kill n0 e)::(V.kill n0 j)::(V.kill n0 f)::(V.kill n0 o)::(V.kill n0 g)::(V.kill n0 u)::(V.kill n0 v)::(V.kill n0 y)::(V.kill n0 A)::(V.kill n0 z)::(V.kill n0 J)::(V.kill n0 D)::(V.kill n0 E)::(V.kill n0 F)::(V.kill n0 G)::(V.kill n0 B)::(V.kill n0 L)::(V.kill n0 M)::(V.kill n0 N)::(V.kill n0 I)::(V.kill n0 Q)::(V.kill n0 O)::(V.kill n0 U)::(V.kill n0 T)::(V.kill n0 R)::(V.kill n0 X)::(V.kill n0 W)::(V.kill n0 Z)::(V.kill n0 Y)::(V.kill n0 t0)::.junk::.junk::.junk::.junk::.junk::.junk::.junk::.junk::.junk::.junk::.junk::(V.kill n0 te)::(V.kill n0 tc)::(V.kill n0 ta)::(V.kill n0 tj)::(V.kill n0 tg)::(V.kill n0 th)::(V.kill n0 tf)::(V.kill n0 tm)::(V.kill n0 tk)::(V.kill n0 tl)::(V.kill n0 ti)::(V.kill n0 tq)::(V.kill n0 tp)::(V.kill n0 tr)::(V.kill n0 tn)::(V.kill n0 tt)::(V.kill n0 ts)::(V.kill n0 tv)::(V.kill n0 tu)::(V.kill n0 tz)::(V.kill n0 tx)::(V.kill n0 ty)::(V.kill n0 tw)::(V.kill n0 tA)::(V.kill n0 tC)::(V.kill n0 tD)::(V.kill n0 tB)::(V.kill n0 tF)::(V.kill n0 tE)::(V.kill n0 tI)::(V.kill n0 tG)::(V.kill n0 tH)::(V.kill n0 tK)::(V.kill n0 tJ)::[]),cg n0 hC⟩):=kI
theorem SE:av (xX s 15 wl k false) (aB s.P Tryz.f15) Na (.exit 0) ⟨(c::e::j::f::o::g::u::v::y::A::z::J::D::E::F::G::B::L::M::N::I::Q::O::U::T::R::X::W::Z::Y::t0::t3::t4::t2::t5::t1::t6::t7::t8::t9::td::tb::te::tc::ta::tj::tg::th::tf::tm::tk::tl::ti::zz),h⟩ =
 bm (ab s.P 30 e h) h fun vB hc=>
 bm (bf s.P 48 []) hc fun vd h63=>
 bm (bf s.P 48 [(0,(.lit (.int .i64 2)))]) h63 fun ve hE=>
 bp (aD s.P wl 31 2 [(0,vd),(1,ve)] hE) fun vC hd=>
 bp (yC s k wl 15 false true (.fn (.func 17) [] []) [vB,vC] hd) fun vA hF=>
 bm (ar vA 0) hF fun vM he=>
 bm (ar vA 1) he fun vD hf=>
 bp (aw s.P 30 hf) fun vR hg=>
 bs (aj s.P wl 30 vR vM hg) fun hG=>
 gd j (
 yO s k wl 15 Tryz.f15 ef 3 hG.length ([],[]) dZ ⟨(c::e::j::f::o::g::u::vR::vD::A::z::J::D::E::F::G::B::L::M::N::I::Q::O::U::T::R::X::W::Z::Y::t0::t3::t4::t2::t5::t1::t6::t7::t8::t9::td::tb::vA::vB::vd::ve::vC::vA::vM::vD::j::(.lit (.bool true))::f::zz),hG⟩) (
 yO s k wl 15 Tryz.f15 ef 3 hG.length ([],[]) dZ ⟨(c::e::j::f::o::g::u::vR::vD::A::z::J::D::E::F::G::B::L::M::N::I::Q::O::U::T::R::X::W::Z::Y::t0::t3::t4::t2::t5::t1::t6::t7::t8::t9::td::tb::vA::vB::vd::ve::vC::vA::vM::vD::j::(.lit (.bool false))::uu::zz),hG⟩) (
 yO s k wl 15 Tryz.f15 ef 3 hG.length ([],[]) dZ ⟨(c::e::j::f::o::g::u::vR::vD::A::z::J::D::E::F::G::B::L::M::N::I::Q::O::U::T::R::X::W::Z::Y::t0::t3::t4::t2::t5::t1::t6::t7::t8::t9::td::tb::vA::vB::vd::ve::vC::vA::vM::vD::j::j::uu::zz),hG⟩):=kR
theorem Tf:yO s k wl 15 Tryz.f15 ef 3 m0 ac dZ ⟨(c::e::j::f::o::g::u::v::y::A::z::J::D::E::F::G::B::L::M::N::I::Q::O::U::T::R::X::W::Z::Y::t0::t3::t4::t2::t5::t1::t6::t7::t8::t9::td::tb::te::tc::ta::tj::tg::th::tf::tm::tk::tl::ti::tq::tp::tr::tn::zz),h⟩ =
 bm (aT tl ti (.lit (.bool false))) h fun vV hT=>
 gd vV (
 bm (ab s.P 30 e hT) hT fun vs h80=>
 bp (yC s k wl 15 false true (.fn (.func 29) [] []) [vs] h80) fun v81 h82=>
 yO s k wl 15 Tryz.f15 ef 7 m0 ac dZ ⟨(c::e::j::f::o::g::u::v::y::A::z::J::D::E::F::G::B::L::M::N::I::Q::O::U::T::R::X::W::Z::Y::t0::t3::t4::t2::t5::t1::t6::t7::t8::t9::td::tb::te::tc::ta::tj::tg::th::tf::tm::tk::tl::ti::vV::(.lit (.bool true))::vs::v81::zz),h82⟩) (
 yO s k wl 15 Tryz.f15 ef 7 m0 ac dZ ⟨(c::e::j::f::o::g::u::v::y::A::z::J::D::E::F::G::B::L::M::N::I::Q::O::U::T::R::X::W::Z::Y::t0::t3::t4::t2::t5::t1::t6::t7::t8::t9::td::tb::te::tc::ta::tj::tg::th::tf::tm::tk::tl::ti::vV::(.lit (.bool false))::uu::uu::zz),hT⟩) (
 yO s k wl 15 Tryz.f15 ef 6 m0 ac dZ ⟨(c::e::j::f::o::g::u::v::y::A::z::J::D::E::F::G::B::L::M::N::I::Q::O::U::T::R::X::W::Z::Y::t0::t3::t4::t2::t5::t1::t6::t7::t8::t9::td::tb::te::tc::ta::tj::tg::th::tf::tm::tk::tl::ti::vV::vV::uu::tn::zz),hT⟩):=kG
theorem Sp:yO s k wl 15 Tryz.f15 ef 7 m0 ac dZ ⟨(c::e::j::f::o::g::u::v::y::A::z::J::D::E::F::G::B::L::M::N::I::Q::O::U::T::R::X::W::Z::Y::t0::t3::t4::t2::t5::t1::t6::t7::t8::t9::td::tb::te::tc::ta::tj::tg::th::tf::tm::tk::tl::ti::tq::tp::tr::tn::tt::ts::tv::tu::zz),h⟩ =
 bm (aT tp tn (.lit (.bool false))) h fun vW hU=>
 gd vW (
 bm (ab s.P 30 e hU) hU fun vt h86=>
 bp (yC s k wl 15 false true (.fn (.func 25) [] []) [vt] h86) fun v87 h88=>
 yO s k wl 15 Tryz.f15 ef 11 m0 ac dZ ⟨(c::e::j::f::o::g::u::v::y::A::z::J::D::E::F::G::B::L::M::N::I::Q::O::U::T::R::X::W::Z::Y::t0::t3::t4::t2::t5::t1::t6::t7::t8::t9::td::tb::te::tc::ta::tj::tg::th::tf::tm::tk::tl::ti::tq::tp::tr::tn::vW::(.lit (.bool true))::vt::v87::zz),h88⟩) (
 yO s k wl 15 Tryz.f15 ef 11 m0 ac dZ ⟨(c::e::j::f::o::g::u::v::y::A::z::J::D::E::F::G::B::L::M::N::I::Q::O::U::T::R::X::W::Z::Y::t0::t3::t4::t2::t5::t1::t6::t7::t8::t9::td::tb::te::tc::ta::tj::tg::th::tf::tm::tk::tl::ti::tq::tp::tr::tn::vW::(.lit (.bool false))::uu::uu::zz),hU⟩) (
 yO s k wl 15 Tryz.f15 ef 10 m0 ac dZ ⟨(c::e::j::f::o::g::u::v::y::A::z::J::D::E::F::G::B::L::M::N::I::Q::O::U::T::R::X::W::Z::Y::t0::t3::t4::t2::t5::t1::t6::t7::t8::t9::td::tb::te::tc::ta::tj::tg::th::tf::tm::tk::tl::ti::tq::tp::tr::tn::vW::vW::uu::tu::zz),hU⟩):=kG
theorem TI:yO s k wl 15 Tryz.f15 ef 11 m0 ac dZ ⟨(c::e::j::f::o::g::u::v::y::A::z::J::D::E::F::G::B::L::M::N::I::Q::O::U::T::R::X::W::Z::Y::t0::t3::t4::t2::t5::t1::t6::t7::t8::t9::td::tb::te::tc::ta::tj::tg::th::tf::tm::tk::tl::ti::tq::tp::tr::tn::tt::ts::tv::tu::tz::tx::ty::tw::tA::zz),h⟩ =
 bm (aT ts tu (.lit (.bool false))) h fun vX hh=>
 gd vX (
 bp (br s.P 34 y hh) fun vu h92=>
 bm (au s.P .eql 3 vu (.lit (.int .i64 0))) h92 fun v93 h94=>
 yO s k wl 15 Tryz.f15 ef 16 m0 ac dZ ⟨(c::e::j::f::o::g::u::v::y::A::z::J::D::E::F::G::B::L::M::N::I::Q::O::U::T::R::X::W::Z::Y::t0::t3::t4::t2::t5::t1::t6::t7::t8::t9::td::tb::te::tc::ta::tj::tg::th::tf::tm::tk::tl::ti::tq::tp::tr::tn::tt::ts::tv::tu::vX::(.lit (.bool true))::y::vu::v93::zz),h94⟩) (
 yO s k wl 15 Tryz.f15 ef 16 m0 ac dZ ⟨(c::e::j::f::o::g::u::v::y::A::z::J::D::E::F::G::B::L::M::N::I::Q::O::U::T::R::X::W::Z::Y::t0::t3::t4::t2::t5::t1::t6::t7::t8::t9::td::tb::te::tc::ta::tj::tg::th::tf::tm::tk::tl::ti::tq::tp::tr::tn::tt::ts::tv::tu::vX::(.lit (.bool false))::uu::uu::uu::zz),hh⟩) (
 yO s k wl 15 Tryz.f15 ef 14 m0 ac dZ ⟨(c::e::j::f::o::g::u::v::y::A::z::J::D::E::F::G::B::L::M::N::I::Q::O::U::T::R::X::W::Z::Y::t0::t3::t4::t2::t5::t1::t6::t7::t8::t9::td::tb::te::tc::ta::tj::tg::th::tf::tm::tk::tl::ti::tq::tp::tr::tn::tt::ts::tv::tu::vX::vX::uu::tw::tA::zz),hh⟩):=kG
theorem Tg:yO s k wl 15 Tryz.f15 ef 16 m0 ac dZ ⟨(c::e::j::f::o::g::u::v::y::A::z::J::D::E::F::G::B::L::M::N::I::Q::O::U::T::R::X::W::Z::Y::t0::t3::t4::t2::t5::t1::t6::t7::t8::t9::td::tb::te::tc::ta::tj::tg::th::tf::tm::tk::tl::ti::tq::tp::tr::tn::tt::ts::tv::tu::tz::tx::ty::tw::tA::tC::tD::tB::tF::tE::zz),h⟩ =
 bm (aT tx tA (.lit (.bool false))) h fun vY hV=>
 gd vY (
 bm (ab s.P 30 e hV) hV fun vv hm=>
 bm (ab s.P 30 e hm) hm fun vw hp=>
 bp (yC s k wl 15 false true (.fn (.func 19) [] []) [vv,vw] hp) fun v101 hq=>
 yO s k wl 15 Tryz.f15 ef 21 m0 ac dZ ⟨(c::e::j::f::o::g::u::v::y::A::z::J::D::E::F::G::B::L::M::N::I::Q::O::U::T::R::X::W::Z::Y::t0::t3::t4::t2::t5::t1::t6::t7::t8::t9::td::tb::te::tc::ta::tj::tg::th::tf::tm::tk::tl::ti::tq::tp::tr::tn::tt::ts::tv::tu::tz::tx::ty::tw::tA::vY::(.lit (.bool true))::vv::vw::v101::zz),hq⟩) (
 yO s k wl 15 Tryz.f15 ef 21 m0 ac dZ ⟨(c::e::j::f::o::g::u::v::y::A::z::J::D::E::F::G::B::L::M::N::I::Q::O::U::T::R::X::W::Z::Y::t0::t3::t4::t2::t5::t1::t6::t7::t8::t9::td::tb::te::tc::ta::tj::tg::th::tf::tm::tk::tl::ti::tq::tp::tr::tn::tt::ts::tv::tu::tz::tx::ty::tw::tA::vY::(.lit (.bool false))::uu::uu::uu::zz),hV⟩) (
 yO s k wl 15 Tryz.f15 ef 19 m0 ac dZ ⟨(c::e::j::f::o::g::u::v::y::A::z::J::D::E::F::G::B::L::M::N::I::Q::O::U::T::R::X::W::Z::Y::t0::t3::t4::t2::t5::t1::t6::t7::t8::t9::td::tb::te::tc::ta::tj::tg::th::tf::tm::tk::tl::ti::tq::tp::tr::tn::tt::ts::tv::tu::tz::tx::ty::tw::tA::vY::vY::uu::tF::tE::zz),hV⟩):=kG
theorem Td:yO s k wl 15 Tryz.f15 ef 21 m0 ac dZ ⟨(c::e::j::f::o::g::u::v::y::A::z::J::D::E::F::G::B::L::M::N::I::Q::O::U::T::R::X::W::Z::Y::t0::t3::t4::t2::t5::t1::t6::t7::t8::t9::td::tb::te::tc::ta::tj::tg::th::tf::tm::tk::tl::ti::tq::tp::tr::tn::tt::ts::tv::tu::tz::tx::ty::tw::tA::tC::tD::tB::tF::tE::tI::tG::tH::tK::tJ::[]),h⟩ =
 bm (aT tD tE (.lit (.bool false))) h fun vN hI=>
 gd vN (
 bm (ab s.P 30 v hI) hI fun vl hr=>
 bp (yC s k wl 15 false true (.fn (.func 20) [] []) [vl] hr) fun v107 hs=>
 yO s k wl 15 Tryz.f15 ef 25 m0 ac dZ ⟨(c::e::j::f::o::g::u::v::y::A::z::J::D::E::F::G::B::L::M::N::I::Q::O::U::T::R::X::W::Z::Y::t0::t3::t4::t2::t5::t1::t6::t7::t8::t9::td::tb::te::tc::ta::tj::tg::th::tf::tm::tk::tl::ti::tq::tp::tr::tn::tt::ts::tv::tu::tz::tx::ty::tw::tA::tC::tD::tB::tF::tE::vN::(.lit (.bool true))::vl::v107::tJ::[]),hs⟩) (
 yO s k wl 15 Tryz.f15 ef 25 m0 ac dZ ⟨(c::e::j::f::o::g::u::v::y::A::z::J::D::E::F::G::B::L::M::N::I::Q::O::U::T::R::X::W::Z::Y::t0::t3::t4::t2::t5::t1::t6::t7::t8::t9::td::tb::te::tc::ta::tj::tg::th::tf::tm::tk::tl::ti::tq::tp::tr::tn::tt::ts::tv::tu::tz::tx::ty::tw::tA::tC::tD::tB::tF::tE::vN::(.lit (.bool false))::uu::uu::tJ::[]),hI⟩) (
 yO s k wl 15 Tryz.f15 ef 24 m0 ac dZ ⟨(c::e::j::f::o::g::u::v::y::A::z::J::D::E::F::G::B::L::M::N::I::Q::O::U::T::R::X::W::Z::Y::t0::t3::t4::t2::t5::t1::t6::t7::t8::t9::td::tb::te::tc::ta::tj::tg::th::tf::tm::tk::tl::ti::tq::tp::tr::tn::tt::ts::tv::tu::tz::tx::ty::tw::tA::tC::tD::tB::tF::tE::vN::vN::uu::tK::tJ::[]),hI⟩):=kG
theorem TP:yO s k wl 15 Tryz.f15 ef 25 m0 ac dZ ⟨(c::e::j::f::o::g::u::v::y::A::z::J::D::E::F::G::B::L::M::N::I::Q::O::U::T::R::X::W::Z::Y::t0::t3::t4::t2::t5::t1::t6::t7::t8::t9::td::tb::te::tc::ta::tj::tg::th::tf::tm::tk::tl::ti::tq::tp::tr::tn::tt::ts::tv::tu::tz::tx::ty::tw::tA::tC::tD::tB::tF::tE::tI::tG::tH::tK::tJ::[]),h⟩ =
 bm (aT tG tK (.lit (.bool false))) h fun v109 ht=>
 some (v109,ht):=kG
theorem AY (cx:Cx) (s:St):av cx K lc .ret s=K .ret s:=by kernel_rfl
theorem AS (cx:Cx) (s:St):av cx K Na .ret s=K .ret s:=by kernel_rfl
theorem Av (cx:Cx) (s:St):av cx K dZ .ret s=K .ret s:=by kernel_rfl
-- names: aij,aia,TR,So,TD,S8,SE,Tf,Sp,TI,Tg,Td,TP,AY,AS,Av
noncomputable def rh:Code:=al (an Tryz.f22) [1,0,1,0,0]
noncomputable def G4:List Fr:=[.block 0,.seq (al (an Tryz.f22) [1,1])]
noncomputable def Iq:Code:=al (an Tryz.f22) [1,0,1,0,0,0,0]
noncomputable def Da:List Fr:=[.seq (al (an Tryz.f22) [1,0,1,0,0,0,1]),.seq (al (an Tryz.f22) [1,0,1,0,0,1])]
theorem ahe:ak (xX s 22 wl k false) Tryz.f22 [c] h =
 yI s k wl 22 Tryz.f22 rh h.length G4 k ⟨[(V.kill h.length c),(V.kill h.length uu),(.lit (.bool false)),(.lit (.int .i64 0)),.junk,.junk,.junk,.junk,.junk,.junk,.junk,.junk,.junk,.junk,.junk,.junk,.junk,.junk,.junk,.junk,(V.kill h.length uu),(V.kill h.length uu),(V.kill h.length uu)],cg h.length h⟩:=kB
theorem aim:evF Tryz.prog xM (k+1) wl 22 [c] h=ak (xX (xS k) 22 wl k false) Tryz.f22 [c] h:=by kernel_rfl
theorem aek (P:Program):aB P Tryz.f22 .ret ⟨[c,e,j,f,o,g,u,v,y,A,z,J,D,E,F,G,B,L,M,N,I,Q,O],h⟩=some (j,h):=by kernel_rfl
theorem TM:itX (xX s 22 wl k rd) rh n0 K (n+1) ⟨(c::e::j::f::o::g::u::v::y::A::z::zz),h⟩ =
 bp (br s.P 40 c h) fun v1 h2=>
 bm (au s.P .lss 3 f v1) h2 fun v3 h4=>
 gd v3 (
 bm (au s.P .leq 3 f (.lit (.int .i64 10))) h4 fun v5 h6=>
 fJ (xX s 22 wl k rd) Iq 7 h.length ([],[]) (av (xX s 22 wl k rd) (dM (xX s 22 wl k rd) rh n0 K n) Da) ⟨(c::e::j::f::f::c::v1::v3::(.lit (.bool true))::f::v5::zz),h6⟩) (
 fJ (xX s 22 wl k rd) Iq 7 h.length ([],[]) (av (xX s 22 wl k rd) (dM (xX s 22 wl k rd) rh n0 K n) Da) ⟨(c::e::j::f::f::c::v1::v3::(.lit (.bool false))::uu::uu::zz),h4⟩) (
 fJ (xX s 22 wl k rd) Iq 6 h.length ([],[]) (av (xX s 22 wl k rd) (dM (xX s 22 wl k rd) rh n0 K n) Da) ⟨(c::e::j::f::f::c::v1::v3::v3::uu::z::zz),h4⟩):=kI
theorem K8:av (xX s 22 wl k false) (aB s.P Tryz.f22) G4 (.exit 0) ⟨[c,e,j,f,o,g,u,v,y,A,z,J,D,E,F,G,B,L,M,N,I,Q,O],h⟩ =
 bp (br s.P 40 c h) fun v7 h8=>
 bm (au s.P .leq 3 v7 (.lit (.int .i64 10))) h8 fun v9 hD=>
 some (v9,hD):=kR
theorem Kz:fJ (xX s 22 wl k rd) Iq 7 m0 ac (av (xX s 22 wl k rd) (dM (xX s 22 wl k rd) rh n0 K n) Da) ⟨[c,e,j,f,o,g,u,v,y,A,z,J,D,E,F,G,B,L,M,N,I,Q,O],h⟩ =
 bm (aT y z (.lit (.bool false))) h fun vf hK=>
 cnd vf (
 bm (am s.P 40 c f hK) hK fun vG hH=>
 bm (ab s.P 53 vG hH) hH fun vg hi=>
 bp (br s.P 53 vg hi) fun vH hL=>
 bm (au s.P .gtr 3 vH (.lit (.int .i64 60))) hL fun vZ hW=>
 cnd vZ (
 K .ret ⟨[c,e,(.lit (.bool false)),f,o,g,u,v,y,A,z,vf,D,E,c,f,vG,vg,vH,vZ,I,Q,O],hW⟩) (
 bm (au s.P .add 3 f (.lit (.int .i64 1))) hW fun vm hj=>
 itX (xX s 22 wl k rd) rh n0 K n ⟨[(V.kill n0 c),(V.kill n0 e),(V.kill n0 j),(V.kill n0 vm),.junk,.junk,.junk,.junk,.junk,.junk,.junk,.junk,.junk,.junk,.junk,.junk,.junk,.junk,.junk,.junk,(V.kill n0 I),(V.kill n0 Q),(V.kill n0 O)],cg n0 hj⟩)) (
 K (.exit 0) ⟨[(V.kill n0 c),(V.kill n0 e),(V.kill n0 j),(V.kill n0 f),.junk,.junk,.junk,.junk,.junk,.junk,.junk,.junk,.junk,.junk,.junk,.junk,.junk,.junk,.junk,.junk,(V.kill n0 I),(V.kill n0 Q),(V.kill n0 O)],cg n0 hK⟩):=kG
theorem pK (cx:Cx) (s:St):av cx K G4 .ret s=K .ret s:=by kernel_rfl
theorem o6 (cx:Cx) (s:St):av cx K Da .ret s=K .ret s:=by kernel_rfl
-- names: ahe,aek,TM,K8,Kz,pK,o6
end
end Go.Ab
set_option maxRecDepth 100000
set_option linter.unusedVariables false
namespace Go.Ab
open Go.Proofs
section
variable (s:Sys) (k wl:Nat) (m0:Nat) (ac:List Nat×List Nat) (d f g o j v y r u z D A B M N O I Q L E J G F R W X T U Y t0 Z t2 t3 t4 t1 t5 t6 t8 t9 ta t7 te tb tc td:V) (h:Hp) (K:Out→St→Option (V×Hp)) (rd:Bool) (n n0:Nat) (zz:List V)
end
end Go.Ab
set_option maxRecDepth 100000
set_option linter.unusedVariables false
namespace Go.Ab
open Go.Proofs
section
variable (s:Sys) (k wl:Nat) (m0:Nat) (ac:List Nat×List Nat) (e b d a r y z A B u D o g j f R T E F G I J L M v N x U Q W O t0 Y t1 Z X t3 t2 t4 t5 t6 t7 t8 t9 ta te tf tg th tb tc tu tk tl tv tw tx ty tz tA tB tC tD tE tF tG ts tH tt tq tr tm tn tj tp ti td:V) (h:Hp) (K:Out→St→Option (V×Hp)) (rd:Bool) (n n0:Nat) (zz:List V)
noncomputable def ru:Code:=al (an Tryz.f4) [1,1,1,1,0,0]
noncomputable def pD:List Fr:=[.seq (al (an Tryz.f4) [1,1,1,1,0,1]),.seq (al (an Tryz.f4) [1,1,1,1,1])]
noncomputable def rx:Code:=al (an Tryz.f4) [1,1,1,1,1,1,0,1,0,0]
noncomputable def Q2:List Fr:=[.block 0,.seq (al (an Tryz.f4) [1,1,1,1,1,1,1])]
noncomputable def Qu:Code:=al (an Tryz.f4) [1,1,1,1,1,1,0,1,0,0,0,0]
noncomputable def Nw:List Fr:=[.seq (al (an Tryz.f4) [1,1,1,1,1,1,0,1,0,0,0,1]),.seq (al (an Tryz.f4) [1,1,1,1,1,1,0,1,0,0,1])]
noncomputable def PI:Code:=al (an Tryz.f4) [1,1,1,1,1,1,1,0]
noncomputable def Mo:List Fr:=[.seq (al (an Tryz.f4) [1,1,1,1,1,1,1,1])]
noncomputable def Qk:Code:=al (an Tryz.f4) [1,1,1,1,1,1,0,1,0,0,1,0,0,1,1,0]
noncomputable def MX:List Fr:=[.seq (al (an Tryz.f4) [1,1,1,1,1,1,0,1,0,0,1,0,0,1,1,1]),.block 1,.seq (al (an Tryz.f4) [1,1,1,1,1,1,0,1,0,0,1,1])]
theorem xb4:ak (xX s 4 wl k false) Tryz.f4 [e,b,d,a] h =
 bp (aP e h) fun v1 h2=>
 bp (yC s k wl 4 false true (.fn (.func 15) [] []) [] h2) fun v3 h4=>
 bp (yC s k wl 4 false true (.fn (.func 21) [] []) [b] h4) fun v5 h6=>
 bp (yC s k wl 4 false true (.fn (.func 22) [] []) [d] h6) fun v7 h8=>
 bm (vUn .not v3) h8 fun v9 hD=>
 gd v9 (
 yO s k wl 4 Tryz.f4 ru 5 h8.length ([],[]) pD ⟨(e::b::d::a::v1::uu::uu::uu::(.lit (.bool false))::v3::v5::v7::uu::uu::uu::uu::uu::v3::b::v5::d::v7::v3::v9::(.lit (.bool true))::uu::uu::uu::uu::uu::uu::uu::uu::uu::uu::uu::uu::uu::uu::uu::uu::uu::uu::uu::uu::uu::uu::uu::uu::uu::uu::uu::uu::uu::uu::uu::uu::uu::uu::uu::uu::uu::uu::uu::uu::uu::uu::uu::uu::uu::uu::uu::uu::uu::uu::uu::uu::[]),hD⟩) (
 bm (vUn .not v5) hD fun vf hK=>
 yO s k wl 4 Tryz.f4 ru 5 h8.length ([],[]) pD ⟨(e::b::d::a::v1::uu::uu::uu::(.lit (.bool false))::v3::v5::v7::uu::uu::uu::uu::uu::v3::b::v5::d::v7::v3::v9::(.lit (.bool false))::v5::vf::uu::uu::uu::uu::uu::uu::uu::uu::uu::uu::uu::uu::uu::uu::uu::uu::uu::uu::uu::uu::uu::uu::uu::uu::uu::uu::uu::uu::uu::uu::uu::uu::uu::uu::uu::uu::uu::uu::uu::uu::uu::uu::uu::uu::uu::uu::uu::uu::uu::uu::[]),hK⟩) (
 yO s k wl 4 Tryz.f4 ru 4 h8.length ([],[]) pD ⟨(e::b::d::a::v1::uu::uu::uu::(.lit (.bool false))::v3::v5::v7::uu::uu::uu::uu::uu::v3::b::v5::d::v7::v3::v9::v9::uu::uu::uu::uu::uu::uu::uu::uu::uu::uu::uu::uu::uu::uu::uu::uu::uu::uu::uu::uu::uu::uu::uu::uu::uu::uu::uu::uu::uu::uu::uu::uu::uu::uu::uu::uu::uu::uu::uu::uu::uu::uu::uu::uu::uu::uu::uu::uu::uu::uu::uu::uu::[]),hD⟩):=kB
theorem xe4:evF Tryz.prog xM (k+1) wl 4 [e,b,d,a] h=ak (xX (xS k) 4 wl k false) Tryz.f4 [e,b,d,a] h:=by kernel_rfl
theorem xz4 (P:Program):aB P Tryz.f4 .ret ⟨(e::b::d::a::r::y::z::A::B::u::D::o::g::j::f::R::T::E::F::G::I::J::L::M::v::N::x::U::Q::W::O::t0::Y::t1::Z::X::t3::t2::t4::t5::t6::t7::t8::t9::ta::te::tf::tg::th::tb::tc::tu::tk::tl::tv::tw::tx::ty::tz::tA::tB::tC::tD::tE::tF::tG::ts::tH::tt::tq::tr::tm::tn::tj::tp::ti::td::[]),h⟩=some (B,h):=by kernel_rfl
theorem VM:yO s k wl 4 Tryz.f4 ru 5 m0 ac pD ⟨(e::b::d::a::r::y::z::A::B::u::D::o::g::j::f::R::T::E::F::G::I::J::L::M::v::N::x::U::Q::W::O::zz),h⟩ =
 bm (aT v (.lit (.bool true)) x) h fun vG hH=>
 gd vG (
 yO s k wl 4 Tryz.f4 ru 9 m0 ac pD ⟨(e::b::d::a::r::y::z::A::B::u::D::o::g::j::f::R::T::E::F::G::I::J::L::M::v::N::x::vG::(.lit (.bool true))::uu::uu::zz),hH⟩) (
 bm (vUn .not o) hH fun vg hi=>
 yO s k wl 4 Tryz.f4 ru 9 m0 ac pD ⟨(e::b::d::a::r::y::z::A::B::u::D::o::g::j::f::R::T::E::F::G::I::J::L::M::v::N::x::vG::(.lit (.bool false))::o::vg::zz),hi⟩) (
 yO s k wl 4 Tryz.f4 ru 8 m0 ac pD ⟨(e::b::d::a::r::y::z::A::B::u::D::o::g::j::f::R::T::E::F::G::I::J::L::M::v::N::x::vG::vG::uu::O::zz),hH⟩):=kG
theorem Yl:yO s k wl 4 Tryz.f4 ru 9 m0 ac pD ⟨(e::b::d::a::r::y::z::A::B::u::D::o::g::j::f::R::T::E::F::G::I::J::L::M::v::N::x::U::Q::W::O::t0::Y::t1::Z::X::zz),h⟩ =
 bm (aT Q (.lit (.bool true)) O) h fun vH hL=>
 gd vH (
 yO s k wl 4 Tryz.f4 ru 14 m0 ac pD ⟨(e::b::d::a::r::y::z::A::B::u::D::o::g::j::f::R::T::E::F::G::I::J::L::M::v::N::x::U::Q::W::O::vH::(.lit (.bool true))::uu::uu::uu::zz),hL⟩) (
 bp (br s.P 31 a hL) fun vZ hW=>
 bm (au s.P .gtr 3 vZ (.lit (.int .i64 500))) hW fun vm hj=>
 yO s k wl 4 Tryz.f4 ru 14 m0 ac pD ⟨(e::b::d::a::r::y::z::A::B::u::D::o::g::j::f::R::T::E::F::G::I::J::L::M::v::N::x::U::Q::W::O::vH::(.lit (.bool false))::a::vZ::vm::zz),hj⟩) (
 yO s k wl 4 Tryz.f4 ru 12 m0 ac pD ⟨(e::b::d::a::r::y::z::A::B::u::D::o::g::j::f::R::T::E::F::G::I::J::L::M::v::N::x::U::Q::W::O::vH::vH::uu::Z::X::zz),hL⟩):=kG
theorem Xd:yO s k wl 4 Tryz.f4 ru 14 m0 ac pD ⟨(e::b::d::a::r::y::z::A::B::u::D::o::g::j::f::R::T::E::F::G::I::J::L::M::v::N::x::U::Q::W::O::t0::Y::t1::Z::X::t3::t2::t4::t5::t6::t7::t8::t9::ta::te::tf::tg::th::tb::tc::tu::tk::tl::tv::tw::tx::ty::tz::tA::tB::tC::tD::tE::tF::tG::ts::tH::tt::tq::tr::tm::tn::tj::tp::ti::td::[]),h⟩ =
 bm (aT Y (.lit (.bool true)) X) h fun vx hk=>
 cnd vx (
 some (u,hk)) (
 bm (ab s.P 23 r hk) hk fun vy h26=>
 bp (yC s k wl 4 false true (.fn (.func 23) [] []) [vy,b,d] h26) fun vh h28=>
 bm (ar vh 0) h28 fun vz h30=>
 bm (ar vh 1) h30 fun v31 h32=>
 bp (aw s.P 30 h32) fun v33 h34=>
 bs (aj s.P wl 30 v33 vz h34) fun hB=>
 yI s k wl 4 Tryz.f4 rx hB.length Q2 k ⟨((V.kill hB.length e)::(V.kill hB.length b)::(V.kill hB.length d)::(V.kill hB.length a)::(V.kill hB.length r)::(V.kill hB.length y)::(V.kill hB.length z)::(V.kill hB.length A)::(V.kill hB.length B)::(V.kill hB.length u)::(V.kill hB.length D)::(V.kill hB.length o)::(V.kill hB.length v33)::(V.kill hB.length v31)::(.lit (.int .i64 0))::(V.kill hB.length R)::(V.kill hB.length T)::(V.kill hB.length E)::(V.kill hB.length F)::(V.kill hB.length G)::(V.kill hB.length I)::(V.kill hB.length J)::(V.kill hB.length L)::(V.kill hB.length M)::(V.kill hB.length v)::(V.kill hB.length N)::(V.kill hB.length x)::(V.kill hB.length U)::(V.kill hB.length Q)::(V.kill hB.length W)::(V.kill hB.length O)::(V.kill hB.length t0)::(V.kill hB.length Y)::(V.kill hB.length t1)::(V.kill hB.length Z)::(V.kill hB.length X)::(V.kill hB.length vx)::(V.kill hB.length t2)::(V.kill hB.length vh)::(V.kill hB.length vy)::(V.kill hB.length b)::(V.kill hB.length d)::(V.kill hB.length vh)::(V.kill hB.length vz)::(V.kill hB.length v31)::.junk::.junk::.junk::.junk::.junk::.junk::.junk::.junk::.junk::.junk::.junk::.junk::.junk::.junk::.junk::.junk::.junk::.junk::.junk::.junk::.junk::.junk::.junk::.junk::.junk::.junk::(V.kill hB.length tm)::(V.kill hB.length tn)::(V.kill hB.length tj)::(V.kill hB.length tp)::(V.kill hB.length ti)::(V.kill hB.length td)::[]),cg hB.length hB⟩):=kG
theorem acn:itX (xX s 4 wl k rd) rx n0 K (n+1) ⟨(e::b::d::a::r::y::z::A::B::u::D::o::g::j::f::R::T::E::F::G::I::J::L::M::v::N::x::U::Q::W::O::t0::Y::t1::Z::X::t3::t2::t4::t5::t6::t7::t8::t9::ta::te::tf::tg::th::tb::tc::zz),h⟩ =
 bp (br s.P 31 a h) fun vO hX=>
 bm (au s.P .lss 3 f vO) hX fun vE hA=>
 gd vE (
 fJ (xX s 4 wl k rd) Qu 6 h.length ([],[]) (av (xX s 4 wl k rd) (dM (xX s 4 wl k rd) rx n0 K n) Nw) ⟨(e::b::d::a::r::y::z::A::B::u::D::o::g::j::f::R::T::E::F::G::I::J::L::M::v::N::x::U::Q::W::O::t0::Y::t1::Z::X::t3::t2::t4::t5::t6::t7::t8::t9::ta::f::a::vO::vE::(.lit (.bool true))::j::zz),hA⟩) (
 fJ (xX s 4 wl k rd) Qu 6 h.length ([],[]) (av (xX s 4 wl k rd) (dM (xX s 4 wl k rd) rx n0 K n) Nw) ⟨(e::b::d::a::r::y::z::A::B::u::D::o::g::j::f::R::T::E::F::G::I::J::L::M::v::N::x::U::Q::W::O::t0::Y::t1::Z::X::t3::t2::t4::t5::t6::t7::t8::t9::ta::f::a::vO::vE::(.lit (.bool false))::uu::zz),hA⟩) (
 fJ (xX s 4 wl k rd) Qu 6 h.length ([],[]) (av (xX s 4 wl k rd) (dM (xX s 4 wl k rd) rx n0 K n) Nw) ⟨(e::b::d::a::r::y::z::A::B::u::D::o::g::j::f::R::T::E::F::G::I::J::L::M::v::N::x::U::Q::W::O::t0::Y::t1::Z::X::t3::t2::t4::t5::t6::t7::t8::t9::ta::f::a::vO::vE::vE::uu::zz),hA⟩):=kI
theorem We:av (xX s 4 wl k false) (aB s.P Tryz.f4) Q2 (.exit 0) ⟨(e::b::d::a::r::y::z::A::B::u::D::o::g::j::f::R::T::E::F::G::I::J::L::M::v::N::x::U::Q::W::O::t0::Y::t1::Z::X::t3::t2::t4::t5::t6::t7::t8::t9::ta::te::tf::tg::th::tb::tc::tu::tk::tl::tv::tw::tx::ty::tz::tA::tB::tC::tD::tE::tF::tG::ts::tH::tt::tq::tr::tm::tn::tj::tp::ti::td::[]),h⟩ =
 bm (vUn .not j) h fun vJ hC=>
 gd vJ (
 yO s k wl 4 Tryz.f4 PI 5 h.length ([],[]) Mo ⟨(e::b::d::a::r::y::z::A::B::u::D::o::g::j::f::R::T::E::F::G::I::J::L::M::v::N::x::U::Q::W::O::t0::Y::t1::Z::X::t3::t2::t4::t5::t6::t7::t8::t9::ta::te::tf::tg::th::tb::tc::tu::tk::tl::tv::tw::tx::ty::tz::tA::tB::tC::tD::tE::tF::tG::ts::tH::tt::tq::tr::j::vJ::(.lit (.bool true))::uu::uu::td::[]),hC⟩) (
 bm (ab s.P 30 g hC) hC fun vc hY=>
 bp (yC s k wl 4 false true (.fn (.func 20) [] []) [vc] hY) fun vk hZ=>
 yO s k wl 4 Tryz.f4 PI 5 h.length ([],[]) Mo ⟨(e::b::d::a::r::y::z::A::B::u::D::o::g::j::f::R::T::E::F::G::I::J::L::M::v::N::x::U::Q::W::O::t0::Y::t1::Z::X::t3::t2::t4::t5::t6::t7::t8::t9::ta::te::tf::tg::th::tb::tc::tu::tk::tl::tv::tw::tx::ty::tz::tA::tB::tC::tD::tE::tF::tG::ts::tH::tt::tq::tr::j::vJ::(.lit (.bool false))::vc::vk::td::[]),hZ⟩) (
 yO s k wl 4 Tryz.f4 PI 4 h.length ([],[]) Mo ⟨(e::b::d::a::r::y::z::A::B::u::D::o::g::j::f::R::T::E::F::G::I::J::L::M::v::N::x::U::Q::W::O::t0::Y::t1::Z::X::t3::t2::t4::t5::t6::t7::t8::t9::ta::te::tf::tg::th::tb::tc::tu::tk::tl::tv::tw::tx::ty::tz::tA::tB::tC::tD::tE::tF::tG::ts::tH::tt::tq::tr::j::vJ::vJ::uu::ti::td::[]),hC⟩):=kR
theorem Vy:fJ (xX s 4 wl k rd) Qu 6 m0 ac (av (xX s 4 wl k rd) (dM (xX s 4 wl k rd) rx n0 K n) Nw) ⟨(e::b::d::a::r::y::z::A::B::u::D::o::g::j::f::R::T::E::F::G::I::J::L::M::v::N::x::U::Q::W::O::t0::Y::t1::Z::X::t3::t2::t4::t5::t6::t7::t8::t9::ta::te::tf::tg::th::tb::tc::tu::tk::tl::tv::tw::tx::ty::tz::tA::tB::tC::tD::tE::tF::tG::ts::tH::tt::tq::tr::tm::tn::tj::tp::ti::td::[]),h⟩ =
 bm (aT tb tc (.lit (.bool false))) h fun vK hP=>
 cnd vK (
 bp (aw s.P 30 hP) fun vL hQ=>
 bm (ab s.P 30 g hQ) hQ fun vP hR=>
 bm (am s.P 31 a f hR) hR fun vF hS=>
 bm (ab s.P 48 vF hS) hS fun vi h55=>
 bp (cI (xX s 4 wl k rd) true true (.fn (.func 24) [] []) [vP,vi] h55) fun vI ha=>
 bm (ar vI 0) ha fun vQ hb=>
 bm (ar vI 1) hb fun vB hc=>
 bs (aj s.P wl 30 vL vQ hc) fun hn=>
 bm (ab s.P 30 vL hn) hn fun vj h64=>
 bs (aj s.P wl 30 g vj h64) fun hE=>
 bm (ab s.P 30 g hE) hE fun vC hd=>
 bp (cI (xX s 4 wl k rd) false true (.fn (.func 25) [] []) [vC] hd) fun vA hF=>
 gd vA (
 bm (ab s.P 30 g hF) hF fun vM he=>
 bp (cI (xX s 4 wl k rd) false true (.fn (.func 26) [] []) [vM] he) fun vD hf=>
 bm (au s.P .gtr 3 vD (.lit (.int .i64 0))) hf fun vR hg=>
 fJ (xX s 4 wl k rd) Qk 6 hE.length ([],[]) (av (xX s 4 wl k rd) (dM (xX s 4 wl k rd) rx n0 K n) MX) ⟨(e::b::d::a::r::y::z::A::B::u::D::o::g::j::f::vL::vB::E::F::G::I::J::L::M::v::N::x::U::Q::W::O::t0::Y::t1::Z::X::t3::t2::t4::t5::t6::t7::t8::t9::ta::te::tf::tg::th::tb::tc::vK::tk::tl::vI::vP::a::f::vF::vi::vI::vQ::vB::vj::vC::vA::(.lit (.bool true))::vM::vD::vR::tr::tm::tn::tj::tp::ti::td::[]),hg⟩) (
 fJ (xX s 4 wl k rd) Qk 6 hE.length ([],[]) (av (xX s 4 wl k rd) (dM (xX s 4 wl k rd) rx n0 K n) MX) ⟨(e::b::d::a::r::y::z::A::B::u::D::o::g::j::f::vL::vB::E::F::G::I::J::L::M::v::N::x::U::Q::W::O::t0::Y::t1::Z::X::t3::t2::t4::t5::t6::t7::t8::t9::ta::te::tf::tg::th::tb::tc::vK::tk::tl::vI::vP::a::f::vF::vi::vI::vQ::vB::vj::vC::vA::(.lit (.bool false))::uu::uu::uu::tr::tm::tn::tj::tp::ti::td::[]),hF⟩) (
 fJ (xX s 4 wl k rd) Qk 4 hE.length ([],[]) (av (xX s 4 wl k rd) (dM (xX s 4 wl k rd) rx n0 K n) MX) ⟨(e::b::d::a::r::y::z::A::B::u::D::o::g::j::f::vL::vB::E::F::G::I::J::L::M::v::N::x::U::Q::W::O::t0::Y::t1::Z::X::t3::t2::t4::t5::t6::t7::t8::t9::ta::te::tf::tg::th::tb::tc::vK::tk::tl::vI::vP::a::f::vF::vi::vI::vQ::vB::vj::vC::vA::vA::uu::tt::tq::tr::tm::tn::tj::tp::ti::td::[]),hF⟩)) (
 K (.exit 0) ⟨((V.kill n0 e)::(V.kill n0 b)::(V.kill n0 d)::(V.kill n0 a)::(V.kill n0 r)::(V.kill n0 y)::(V.kill n0 z)::(V.kill n0 A)::(V.kill n0 B)::(V.kill n0 u)::(V.kill n0 D)::(V.kill n0 o)::(V.kill n0 g)::(V.kill n0 j)::(V.kill n0 f)::(V.kill n0 R)::(V.kill n0 T)::(V.kill n0 E)::(V.kill n0 F)::(V.kill n0 G)::(V.kill n0 I)::(V.kill n0 J)::(V.kill n0 L)::(V.kill n0 M)::(V.kill n0 v)::(V.kill n0 N)::(V.kill n0 x)::(V.kill n0 U)::(V.kill n0 Q)::(V.kill n0 W)::(V.kill n0 O)::(V.kill n0 t0)::(V.kill n0 Y)::(V.kill n0 t1)::(V.kill n0 Z)::(V.kill n0 X)::(V.kill n0 t3)::(V.kill n0 t2)::(V.kill n0 t4)::(V.kill n0 t5)::(V.kill n0 t6)::(V.kill n0 t7)::(V.kill n0 t8)::(V.kill n0 t9)::(V.kill n0 ta)::.junk::.junk::.junk::.junk::.junk::.junk::.junk::.junk::.junk::.junk::.junk::.junk::.junk::.junk::.junk::.junk::.junk::.junk::.junk::.junk::.junk::.junk::.junk::.junk::.junk::.junk::(V.kill n0 tm)::(V.kill n0 tn)::(V.kill n0 tj)::(V.kill n0 tp)::(V.kill n0 ti)::(V.kill n0 td)::[]),cg n0 hP⟩):=kG
theorem V1:yO s k wl 4 Tryz.f4 PI 5 m0 ac Mo ⟨(e::b::d::a::r::y::z::A::B::u::D::o::g::j::f::R::T::E::F::G::I::J::L::M::v::N::x::U::Q::W::O::t0::Y::t1::Z::X::t3::t2::t4::t5::t6::t7::t8::t9::ta::te::tf::tg::th::tb::tc::tu::tk::tl::tv::tw::tx::ty::tz::tA::tB::tC::tD::tE::tF::tG::ts::tH::tt::tq::tr::tm::tn::tj::tp::ti::td::[]),h⟩ =
 bm (aT tj (.lit (.bool true)) ti) h fun v76 h77=>
 some (v76,h77):=kG
theorem VL:fJ (xX s 4 wl k rd) Qk 6 m0 ac (av (xX s 4 wl k rd) (dM (xX s 4 wl k rd) rx n0 K n) MX) ⟨(e::b::d::a::r::y::z::A::B::u::D::o::g::j::f::R::T::E::F::G::I::J::L::M::v::N::x::U::Q::W::O::t0::Y::t1::Z::X::t3::t2::t4::t5::t6::t7::t8::t9::ta::te::tf::tg::th::tb::tc::tu::tk::tl::tv::tw::tx::ty::tz::tA::tB::tC::tD::tE::tF::tG::ts::tH::tt::tq::tr::tm::tn::tj::tp::ti::td::[]),h⟩ =
 bm (aT ts tq (.lit (.bool false))) h fun v78 ho=>
 cnd v78 (
 K .ret ⟨(e::b::d::a::r::y::z::A::(.lit (.bool false))::u::D::o::g::j::f::R::T::E::F::G::I::J::L::M::v::N::x::U::Q::W::O::t0::Y::t1::Z::X::t3::t2::t4::t5::t6::t7::t8::t9::ta::te::tf::tg::th::tb::tc::tu::tk::tl::tv::tw::tx::ty::tz::tA::tB::tC::tD::tE::tF::tG::ts::tH::tt::tq::v78::tm::tn::tj::tp::ti::td::[]),ho⟩) (
 bm (au s.P .add 3 f (.lit (.int .i64 1))) ho fun v80 h81=>
 itX (xX s 4 wl k rd) rx n0 K n ⟨((V.kill n0 e)::(V.kill n0 b)::(V.kill n0 d)::(V.kill n0 a)::(V.kill n0 r)::(V.kill n0 y)::(V.kill n0 z)::(V.kill n0 A)::(V.kill n0 B)::(V.kill n0 u)::(V.kill n0 D)::(V.kill n0 o)::(V.kill n0 g)::(V.kill n0 j)::(V.kill n0 v80)::(V.kill n0 R)::(V.kill n0 T)::(V.kill n0 E)::(V.kill n0 F)::(V.kill n0 G)::(V.kill n0 I)::(V.kill n0 J)::(V.kill n0 L)::(V.kill n0 M)::(V.kill n0 v)::(V.kill n0 N)::(V.kill n0 x)::(V.kill n0 U)::(V.kill n0 Q)::(V.kill n0 W)::(V.kill n0 O)::(V.kill n0 t0)::(V.kill n0 Y)::(V.kill n0 t1)::(V.kill n0 Z)::(V.kill n0 X)::(V.kill n0 t3)::(V.kill n0 t2)::(V.kill n0 t4)::(V.kill n0 t5)::(V.kill n0 t6)::(V.kill n0 t7)::(V.kill n0 t8)::(V.kill n0 t9)::(V.kill n0 ta)::.junk::.junk::.junk::.junk::.junk::.junk::.junk::.junk::.junk::.junk::.junk::.junk::.junk::.junk::.junk::.junk::.junk::.junk::.junk::.junk::.junk::.junk::.junk::.junk::.junk::.junk::(V.kill n0 tm)::(V.kill n0 tn)::(V.kill n0 tj)::(V.kill n0 tp)::(V.kill n0 ti)::(V.kill n0 td)::[]),cg n0 h81⟩):=kG
theorem u8 (cx:Cx) (s:St):av cx K pD .ret s=K .ret s:=by kernel_rfl
theorem wq (cx:Cx) (s:St):av cx K Q2 .ret s=K .ret s:=by kernel_rfl
theorem u2 (cx:Cx) (s:St):av cx K Nw .ret s=K .ret s:=by kernel_rfl
theorem ut (cx:Cx) (s:St):av cx K Mo .ret s=K .ret s:=by kernel_rfl
theorem ug (cx:Cx) (s:St):av cx K MX .ret s=K .ret s:=by kernel_rfl
-- names: xb4,xz4,VM,Yl,Xd,acn,We,Vy,V1,VL,u8,wq,u2,ut,ug
end
end Go.Ab
