import Derived.Test.YtblpbpnilkfjhaaGreatR6Seat
import Derived.Test.YtblpbpnilkfjhaaGreatAbLibC
set_option linter.unusedVariables false
set_option linter.unusedSimpArgs false
set_option maxRecDepth 100000
set_option linter.unusedVariables false
namespace Go.Ab
open Go.Proofs
section
variable (s:Sys) (k wl:Nat) (m0:Nat) (ac:List Nat×List Nat) (c e j f o g u v y A z J D E F G B L M N I Q O U T R X W Z Y t0 t3 t4 t2 t5 t1 t6 t7 t8 t9 td tb te tc ta tj tg th tf tm tk tl ti tq tp tr tn tt ts tv tu tz tx ty tw tA tC tD tB tF tE tI tG tH tK tJ tP tM tN tO tL tT tS tU tR tQ:V)
noncomputable def kw:Code:=al (am Tryz.f15) [1,1,0]
noncomputable def iz:List Fr:=[.seq (al (am Tryz.f15) [1,1,1])]
noncomputable def Hr:Code:=al (am Tryz.f15) [1,1,1,0,1,0,0]
noncomputable def Id:List Fr:=[.block 0,.seq (al (am Tryz.f15) [1,1,1,1])]
noncomputable def dK:Code:=al (am Tryz.f15) [1,1,1,1,1,0]
noncomputable def dz:List Fr:=[.seq (al (am Tryz.f15) [1,1,1,1,1,1])]
theorem adW (h:Hp):ak (xX s 15 wl k false) Tryz.f15 [] h =
 bm (bh s.P 23 [(0,(.lit (.int .i64 1))),(1,(.lit (.int .i64 1))),(2,(.lit (.int .i64 1)))]) h fun v1 h2=>
 bp (yC s k wl 15 false true (.fn (.func 23) [] []) [v1,.nil,.nil] h2) fun v3 h4=>
 bm (ao v3 0) h4 fun v5 h6=>
 bm (ao v3 1) h6 fun v7 h8=>
 bp (ar s.P 30 h8) fun v9 h10=>
 bs (aj s.P wl 30 v9 v5 h10) fun h11=>
 bm (ab s.P 30 v9 h11) h11 fun v12 h13=>
 bp (yC s k wl 15 false true (.fn (.func 26) [] []) [v12] h13) fun v14 h15=>
 bm (aq s.P .eql 3 v14 (.lit (.int .i64 0))) h15 fun v16 h17=>
 gd v16 (
 bm (ab s.P 30 v9 h17) h17 fun v18 h19=>
 bp (yC s k wl 15 false true (.fn (.func 25) [] []) [v18] h19) fun v20 h21=>
 bm (vUn .not v20) h21 fun v22 h23=>
 yO s k wl 15 Tryz.f15 kw 7 h11.length ([],[]) iz ⟨((.lit (.bool false))::v9::v7::uu::uu::uu::uu::uu::uu::v3::v1::v3::v5::v7::v12::v14::v16::(.lit (.bool true))::v18::v20::v22::uu::uu::uu::uu::uu::uu::uu::uu::uu::uu::uu::uu::uu::uu::uu::uu::uu::uu::uu::uu::uu::uu::uu::uu::uu::uu::uu::uu::uu::uu::uu::uu::uu::uu::uu::uu::uu::uu::uu::uu::uu::uu::uu::uu::uu::uu::uu::uu::uu::uu::uu::uu::uu::uu::uu::[]),h23⟩) (
 yO s k wl 15 Tryz.f15 kw 7 h11.length ([],[]) iz ⟨((.lit (.bool false))::v9::v7::uu::uu::uu::uu::uu::uu::v3::v1::v3::v5::v7::v12::v14::v16::(.lit (.bool false))::uu::uu::uu::uu::uu::uu::uu::uu::uu::uu::uu::uu::uu::uu::uu::uu::uu::uu::uu::uu::uu::uu::uu::uu::uu::uu::uu::uu::uu::uu::uu::uu::uu::uu::uu::uu::uu::uu::uu::uu::uu::uu::uu::uu::uu::uu::uu::uu::uu::uu::uu::uu::uu::uu::uu::uu::uu::uu::[]),h17⟩) (
 yO s k wl 15 Tryz.f15 kw 5 h11.length ([],[]) iz ⟨((.lit (.bool false))::v9::v7::uu::uu::uu::uu::uu::uu::v3::v1::v3::v5::v7::v12::v14::v16::v16::uu::uu::uu::uu::uu::uu::uu::uu::uu::uu::uu::uu::uu::uu::uu::uu::uu::uu::uu::uu::uu::uu::uu::uu::uu::uu::uu::uu::uu::uu::uu::uu::uu::uu::uu::uu::uu::uu::uu::uu::uu::uu::uu::uu::uu::uu::uu::uu::uu::uu::uu::uu::uu::uu::uu::uu::uu::uu::[]),h17⟩):=kB
theorem afd (k wl:Nat) (h:Hp):evF Tryz.prog xM (k+1) wl 15 [] h=ak (xX (xS k) 15 wl k false) Tryz.f15 [] h:=by kernel_rfl
theorem ad4 (P:Program) (h:Hp):av P Tryz.f15 .ret ⟨(c::e::j::f::o::g::u::v::y::A::z::J::D::E::F::G::B::L::M::N::I::Q::O::U::T::R::X::W::Z::Y::t0::t3::t4::t2::t5::t1::t6::t7::t8::t9::td::tb::te::tc::ta::tj::tg::th::tf::tm::tk::tl::ti::tq::tp::tr::tn::tt::ts::tv::tu::tz::tx::ty::tw::tA::tC::tD::tB::tF::tE::tI::tG::tH::tK::tJ::[]),h⟩=some (c,h):=by kernel_rfl
theorem Pp (zz:List V) (h:Hp):yO s k wl 15 Tryz.f15 kw 7 m0 ac iz ⟨(c::e::j::f::o::g::u::v::y::A::z::J::D::E::F::G::B::L::M::N::I::Q::O::U::T::R::zz),h⟩ =
 bm (aO L I (.lit (.bool false))) h fun v24 h25=>
 gd v24 (
 bm (ab s.P 30 e h25) h25 fun v26 h27=>
 bp (yC s k wl 15 false true (.fn (.func 29) [] []) [v26] h27) fun v28 h29=>
 bm (vUn .not v28) h29 fun v30 h31=>
 yO s k wl 15 Tryz.f15 kw 12 m0 ac iz ⟨(c::e::j::f::o::g::u::v::y::A::z::J::D::E::F::G::B::L::M::N::I::v24::(.lit (.bool true))::v26::v28::v30::zz),h31⟩) (
 yO s k wl 15 Tryz.f15 kw 12 m0 ac iz ⟨(c::e::j::f::o::g::u::v::y::A::z::J::D::E::F::G::B::L::M::N::I::v24::(.lit (.bool false))::uu::uu::uu::zz),h25⟩) (
 yO s k wl 15 Tryz.f15 kw 10 m0 ac iz ⟨(c::e::j::f::o::g::u::v::y::A::z::J::D::E::F::G::B::L::M::N::I::v24::v24::uu::T::R::zz),h25⟩):=kG
theorem Pe (zz:List V) (h:Hp):yO s k wl 15 Tryz.f15 kw 12 m0 ac iz ⟨(c::e::j::f::o::g::u::v::y::A::z::J::D::E::F::G::B::L::M::N::I::Q::O::U::T::R::X::W::Z::Y::zz),h⟩ =
 bm (aO O R (.lit (.bool false))) h fun v32 h33=>
 gd v32 (
 bm (ab s.P 30 e h33) h33 fun v34 h35=>
 bp (yC s k wl 15 false true (.fn (.func 20) [] []) [v34] h35) fun v36 h37=>
 yO s k wl 15 Tryz.f15 kw 16 m0 ac iz ⟨(c::e::j::f::o::g::u::v::y::A::z::J::D::E::F::G::B::L::M::N::I::Q::O::U::T::R::v32::(.lit (.bool true))::v34::v36::zz),h37⟩) (
 yO s k wl 15 Tryz.f15 kw 16 m0 ac iz ⟨(c::e::j::f::o::g::u::v::y::A::z::J::D::E::F::G::B::L::M::N::I::Q::O::U::T::R::v32::(.lit (.bool false))::uu::uu::zz),h33⟩) (
 yO s k wl 15 Tryz.f15 kw 15 m0 ac iz ⟨(c::e::j::f::o::g::u::v::y::A::z::J::D::E::F::G::B::L::M::N::I::Q::O::U::T::R::v32::v32::uu::Y::zz),h33⟩):=kG
theorem PA (h:Hp):yO s k wl 15 Tryz.f15 kw 16 m0 ac iz ⟨(c::e::j::f::o::g::u::v::y::A::z::J::D::E::F::G::B::L::M::N::I::Q::O::U::T::R::X::W::Z::Y::t0::t3::t4::t2::t5::t1::t6::t7::t8::t9::td::tb::te::tc::ta::tj::tg::th::tf::tm::tk::tl::ti::tq::tp::tr::tn::tt::ts::tv::tu::tz::tx::ty::tw::tA::tC::tD::tB::tF::tE::tI::tG::tH::tK::tJ::[]),h⟩ =
 bm (aO W Y (.lit (.bool false))) h fun v38 h39=>
 yI s k wl 15 Tryz.f15 Hr h39.length Id k ⟨((V.kill h39.length c)::(V.kill h39.length e)::(V.kill h39.length j)::(V.kill h39.length v38)::(.lit (.int .i64 0))::(V.kill h39.length g)::(V.kill h39.length u)::(V.kill h39.length v)::(V.kill h39.length y)::(V.kill h39.length A)::(V.kill h39.length z)::(V.kill h39.length J)::(V.kill h39.length D)::(V.kill h39.length E)::(V.kill h39.length F)::(V.kill h39.length G)::(V.kill h39.length B)::(V.kill h39.length L)::(V.kill h39.length M)::(V.kill h39.length N)::(V.kill h39.length I)::(V.kill h39.length Q)::(V.kill h39.length O)::(V.kill h39.length U)::(V.kill h39.length T)::(V.kill h39.length R)::(V.kill h39.length X)::(V.kill h39.length W)::(V.kill h39.length Z)::(V.kill h39.length Y)::(V.kill h39.length v38)::.junk::.junk::.junk::.junk::.junk::.junk::.junk::.junk::.junk::.junk::.junk::(V.kill h39.length te)::(V.kill h39.length tc)::(V.kill h39.length ta)::(V.kill h39.length tj)::(V.kill h39.length tg)::(V.kill h39.length th)::(V.kill h39.length tf)::(V.kill h39.length tm)::(V.kill h39.length tk)::(V.kill h39.length tl)::(V.kill h39.length ti)::(V.kill h39.length tq)::(V.kill h39.length tp)::(V.kill h39.length tr)::(V.kill h39.length tn)::(V.kill h39.length tt)::(V.kill h39.length ts)::(V.kill h39.length tv)::(V.kill h39.length tu)::(V.kill h39.length tz)::(V.kill h39.length tx)::(V.kill h39.length ty)::(V.kill h39.length tw)::(V.kill h39.length tA)::(V.kill h39.length tC)::(V.kill h39.length tD)::(V.kill h39.length tB)::(V.kill h39.length tF)::(V.kill h39.length tE)::(V.kill h39.length tI)::(V.kill h39.length tG)::(V.kill h39.length tH)::(V.kill h39.length tK)::(V.kill h39.length tJ)::[]),bY h39.length h39⟩:=kG
theorem Pa (s:Sys) (K:Out→St→Option (V×Hp)) (k wl:Nat) (rd:Bool) (n n0:Nat) (h:Hp):itX (xX s 15 wl k rd) Hr n0 K (n+1) ⟨(c::e::j::f::o::g::u::v::y::A::z::J::D::E::F::G::B::L::M::N::I::Q::O::U::T::R::X::W::Z::Y::t0::t3::t4::t2::t5::t1::t6::t7::t8::t9::td::tb::te::tc::ta::tj::tg::th::tf::tm::tk::tl::ti::tq::tp::tr::tn::tt::ts::tv::tu::tz::tx::ty::tw::tA::tC::tD::tB::tF::tE::tI::tG::tH::tK::tJ::[]),h⟩ =
 bm (aq s.P .lss 3 o (.lit (.int .i64 20))) h fun v40 h41=>
 cnd v40 (
 bm (ab s.P 30 e h41) h41 fun v42 h43=>
 bm (bh s.P 48 []) h43 fun v44 h45=>
 bp (cw (xX s 15 wl k rd) false true (.fn (.func 24) [] []) [v42,v44] h45) fun v46 h47=>
 bm (ao v46 0) h47 fun v48 h49=>
 bm (ao v46 1) h49 fun v50 h51=>
 bp (ar s.P 30 h51) fun v52 h53=>
 bs (aj s.P wl 30 v52 v48 h53) fun h54=>
 bm (ab s.P 30 v52 h54) h54 fun v55 h56=>
 bs (aj s.P wl 30 e v55 h56) fun h57=>
 bm (aq s.P .add 3 o (.lit (.int .i64 1))) h57 fun v58 h59=>
 itX (xX s 15 wl k rd) Hr n0 K n ⟨((V.kill n0 c)::(V.kill n0 e)::(V.kill n0 j)::(V.kill n0 f)::(V.kill n0 v58)::(V.kill n0 v52)::(V.kill n0 v50)::(V.kill n0 v)::(V.kill n0 y)::(V.kill n0 A)::(V.kill n0 z)::(V.kill n0 J)::(V.kill n0 D)::(V.kill n0 E)::(V.kill n0 F)::(V.kill n0 G)::(V.kill n0 B)::(V.kill n0 L)::(V.kill n0 M)::(V.kill n0 N)::(V.kill n0 I)::(V.kill n0 Q)::(V.kill n0 O)::(V.kill n0 U)::(V.kill n0 T)::(V.kill n0 R)::(V.kill n0 X)::(V.kill n0 W)::(V.kill n0 Z)::(V.kill n0 Y)::(V.kill n0 t0)::.junk::.junk::.junk::.junk::.junk::.junk::.junk::.junk::.junk::.junk::.junk::(V.kill n0 te)::(V.kill n0 tc)::(V.kill n0 ta)::(V.kill n0 tj)::(V.kill n0 tg)::(V.kill n0 th)::(V.kill n0 tf)::(V.kill n0 tm)::(V.kill n0 tk)::(V.kill n0 tl)::(V.kill n0 ti)::(V.kill n0 tq)::(V.kill n0 tp)::(V.kill n0 tr)::(V.kill n0 tn)::(V.kill n0 tt)::(V.kill n0 ts)::(V.kill n0 tv)::(V.kill n0 tu)::(V.kill n0 tz)::(V.kill n0 tx)::(V.kill n0 ty)::(V.kill n0 tw)::(V.kill n0 tA)::(V.kill n0 tC)::(V.kill n0 tD)::(V.kill n0 tB)::(V.kill n0 tF)::(V.kill n0 tE)::(V.kill n0 tI)::(V.kill n0 tG)::(V.kill n0 tH)::(V.kill n0 tK)::(V.kill n0 tJ)::[]),bY n0 h59⟩) (
 K (.exit 0) ⟨((V.kill n0 c)::(V.kill n0 e)::(V.kill n0 j)::(V.kill n0 f)::(V.kill n0 o)::(V.kill n0 g)::(V.kill n0 u)::(V.kill n0 v)::(V.kill n0 y)::(V.kill n0 A)::(V.kill n0 z)::(V.kill n0 J)::(V.kill n0 D)::(V.kill n0 E)::(V.kill n0 F)::(V.kill n0 G)::(V.kill n0 B)::(V.kill n0 L)::(V.kill n0 M)::(V.kill n0 N)::(V.kill n0 I)::(V.kill n0 Q)::(V.kill n0 O)::(V.kill n0 U)::(V.kill n0 T)::(V.kill n0 R)::(V.kill n0 X)::(V.kill n0 W)::(V.kill n0 Z)::(V.kill n0 Y)::(V.kill n0 t0)::.junk::.junk::.junk::.junk::.junk::.junk::.junk::.junk::.junk::.junk::.junk::(V.kill n0 te)::(V.kill n0 tc)::(V.kill n0 ta)::(V.kill n0 tj)::(V.kill n0 tg)::(V.kill n0 th)::(V.kill n0 tf)::(V.kill n0 tm)::(V.kill n0 tk)::(V.kill n0 tl)::(V.kill n0 ti)::(V.kill n0 tq)::(V.kill n0 tp)::(V.kill n0 tr)::(V.kill n0 tn)::(V.kill n0 tt)::(V.kill n0 ts)::(V.kill n0 tv)::(V.kill n0 tu)::(V.kill n0 tz)::(V.kill n0 tx)::(V.kill n0 ty)::(V.kill n0 tw)::(V.kill n0 tA)::(V.kill n0 tC)::(V.kill n0 tD)::(V.kill n0 tB)::(V.kill n0 tF)::(V.kill n0 tE)::(V.kill n0 tI)::(V.kill n0 tG)::(V.kill n0 tH)::(V.kill n0 tK)::(V.kill n0 tJ)::[]),bY n0 h41⟩):=kI
theorem PR (s:Sys) (k wl:Nat) (zz:List V) (h:Hp):au (xX s 15 wl k false) (av s.P Tryz.f15) Id (.exit 0) ⟨(c::e::j::f::o::g::u::v::y::A::z::J::D::E::F::G::B::L::M::N::I::Q::O::U::T::R::X::W::Z::Y::t0::t3::t4::t2::t5::t1::t6::t7::t8::t9::td::tb::te::tc::ta::tj::tg::th::tf::tm::tk::tl::ti::zz),h⟩ =
 bm (ab s.P 30 e h) h fun v60 h61=>
 bm (bh s.P 48 []) h61 fun v62 h63=>
 bm (bh s.P 48 [(0,(.lit (.int .i64 2)))]) h63 fun v64 h65=>
 bp (aB s.P wl 31 2 [(0,v62),(1,v64)] h65) fun v66 h67=>
 bp (yC s k wl 15 false true (.fn (.func 17) [] []) [v60,v66] h67) fun v68 h69=>
 bm (ao v68 0) h69 fun v70 h71=>
 bm (ao v68 1) h71 fun v72 h73=>
 bp (ar s.P 30 h73) fun v74 h75=>
 bs (aj s.P wl 30 v74 v70 h75) fun h76=>
 gd j (
 yO s k wl 15 Tryz.f15 dK 3 h76.length ([],[]) dz ⟨(c::e::j::f::o::g::u::v74::v72::A::z::J::D::E::F::G::B::L::M::N::I::Q::O::U::T::R::X::W::Z::Y::t0::t3::t4::t2::t5::t1::t6::t7::t8::t9::td::tb::v68::v60::v62::v64::v66::v68::v70::v72::j::(.lit (.bool true))::f::zz),h76⟩) (
 yO s k wl 15 Tryz.f15 dK 3 h76.length ([],[]) dz ⟨(c::e::j::f::o::g::u::v74::v72::A::z::J::D::E::F::G::B::L::M::N::I::Q::O::U::T::R::X::W::Z::Y::t0::t3::t4::t2::t5::t1::t6::t7::t8::t9::td::tb::v68::v60::v62::v64::v66::v68::v70::v72::j::(.lit (.bool false))::uu::zz),h76⟩) (
 yO s k wl 15 Tryz.f15 dK 3 h76.length ([],[]) dz ⟨(c::e::j::f::o::g::u::v74::v72::A::z::J::D::E::F::G::B::L::M::N::I::Q::O::U::T::R::X::W::Z::Y::t0::t3::t4::t2::t5::t1::t6::t7::t8::t9::td::tb::v68::v60::v62::v64::v66::v68::v70::v72::j::j::uu::zz),h76⟩):=kR
theorem OP (zz:List V) (h:Hp):yO s k wl 15 Tryz.f15 dK 3 m0 ac dz ⟨(c::e::j::f::o::g::u::v::y::A::z::J::D::E::F::G::B::L::M::N::I::Q::O::U::T::R::X::W::Z::Y::t0::t3::t4::t2::t5::t1::t6::t7::t8::t9::td::tb::te::tc::ta::tj::tg::th::tf::tm::tk::tl::ti::tq::tp::tr::tn::zz),h⟩ =
 bm (aO tl ti (.lit (.bool false))) h fun v77 h78=>
 gd v77 (
 bm (ab s.P 30 e h78) h78 fun v79 h80=>
 bp (yC s k wl 15 false true (.fn (.func 29) [] []) [v79] h80) fun v81 h82=>
 yO s k wl 15 Tryz.f15 dK 7 m0 ac dz ⟨(c::e::j::f::o::g::u::v::y::A::z::J::D::E::F::G::B::L::M::N::I::Q::O::U::T::R::X::W::Z::Y::t0::t3::t4::t2::t5::t1::t6::t7::t8::t9::td::tb::te::tc::ta::tj::tg::th::tf::tm::tk::tl::ti::v77::(.lit (.bool true))::v79::v81::zz),h82⟩) (
 yO s k wl 15 Tryz.f15 dK 7 m0 ac dz ⟨(c::e::j::f::o::g::u::v::y::A::z::J::D::E::F::G::B::L::M::N::I::Q::O::U::T::R::X::W::Z::Y::t0::t3::t4::t2::t5::t1::t6::t7::t8::t9::td::tb::te::tc::ta::tj::tg::th::tf::tm::tk::tl::ti::v77::(.lit (.bool false))::uu::uu::zz),h78⟩) (
 yO s k wl 15 Tryz.f15 dK 6 m0 ac dz ⟨(c::e::j::f::o::g::u::v::y::A::z::J::D::E::F::G::B::L::M::N::I::Q::O::U::T::R::X::W::Z::Y::t0::t3::t4::t2::t5::t1::t6::t7::t8::t9::td::tb::te::tc::ta::tj::tg::th::tf::tm::tk::tl::ti::v77::v77::uu::tn::zz),h78⟩):=kG
theorem O5 (zz:List V) (h:Hp):yO s k wl 15 Tryz.f15 dK 7 m0 ac dz ⟨(c::e::j::f::o::g::u::v::y::A::z::J::D::E::F::G::B::L::M::N::I::Q::O::U::T::R::X::W::Z::Y::t0::t3::t4::t2::t5::t1::t6::t7::t8::t9::td::tb::te::tc::ta::tj::tg::th::tf::tm::tk::tl::ti::tq::tp::tr::tn::tt::ts::tv::tu::zz),h⟩ =
 bm (aO tp tn (.lit (.bool false))) h fun v83 h84=>
 gd v83 (
 bm (ab s.P 30 e h84) h84 fun v85 h86=>
 bp (yC s k wl 15 false true (.fn (.func 25) [] []) [v85] h86) fun v87 h88=>
 yO s k wl 15 Tryz.f15 dK 11 m0 ac dz ⟨(c::e::j::f::o::g::u::v::y::A::z::J::D::E::F::G::B::L::M::N::I::Q::O::U::T::R::X::W::Z::Y::t0::t3::t4::t2::t5::t1::t6::t7::t8::t9::td::tb::te::tc::ta::tj::tg::th::tf::tm::tk::tl::ti::tq::tp::tr::tn::v83::(.lit (.bool true))::v85::v87::zz),h88⟩) (
 yO s k wl 15 Tryz.f15 dK 11 m0 ac dz ⟨(c::e::j::f::o::g::u::v::y::A::z::J::D::E::F::G::B::L::M::N::I::Q::O::U::T::R::X::W::Z::Y::t0::t3::t4::t2::t5::t1::t6::t7::t8::t9::td::tb::te::tc::ta::tj::tg::th::tf::tm::tk::tl::ti::tq::tp::tr::tn::v83::(.lit (.bool false))::uu::uu::zz),h84⟩) (
 yO s k wl 15 Tryz.f15 dK 10 m0 ac dz ⟨(c::e::j::f::o::g::u::v::y::A::z::J::D::E::F::G::B::L::M::N::I::Q::O::U::T::R::X::W::Z::Y::t0::t3::t4::t2::t5::t1::t6::t7::t8::t9::td::tb::te::tc::ta::tj::tg::th::tf::tm::tk::tl::ti::tq::tp::tr::tn::v83::v83::uu::tu::zz),h84⟩):=kG
theorem PM (zz:List V) (h:Hp):yO s k wl 15 Tryz.f15 dK 11 m0 ac dz ⟨(c::e::j::f::o::g::u::v::y::A::z::J::D::E::F::G::B::L::M::N::I::Q::O::U::T::R::X::W::Z::Y::t0::t3::t4::t2::t5::t1::t6::t7::t8::t9::td::tb::te::tc::ta::tj::tg::th::tf::tm::tk::tl::ti::tq::tp::tr::tn::tt::ts::tv::tu::tz::tx::ty::tw::tA::zz),h⟩ =
 bm (aO ts tu (.lit (.bool false))) h fun v89 h90=>
 gd v89 (
 bp (aX s.P 34 y h90) fun v91 h92=>
 bm (aq s.P .eql 3 v91 (.lit (.int .i64 0))) h92 fun v93 h94=>
 yO s k wl 15 Tryz.f15 dK 16 m0 ac dz ⟨(c::e::j::f::o::g::u::v::y::A::z::J::D::E::F::G::B::L::M::N::I::Q::O::U::T::R::X::W::Z::Y::t0::t3::t4::t2::t5::t1::t6::t7::t8::t9::td::tb::te::tc::ta::tj::tg::th::tf::tm::tk::tl::ti::tq::tp::tr::tn::tt::ts::tv::tu::v89::(.lit (.bool true))::y::v91::v93::zz),h94⟩) (
 yO s k wl 15 Tryz.f15 dK 16 m0 ac dz ⟨(c::e::j::f::o::g::u::v::y::A::z::J::D::E::F::G::B::L::M::N::I::Q::O::U::T::R::X::W::Z::Y::t0::t3::t4::t2::t5::t1::t6::t7::t8::t9::td::tb::te::tc::ta::tj::tg::th::tf::tm::tk::tl::ti::tq::tp::tr::tn::tt::ts::tv::tu::v89::(.lit (.bool false))::uu::uu::uu::zz),h90⟩) (
 yO s k wl 15 Tryz.f15 dK 14 m0 ac dz ⟨(c::e::j::f::o::g::u::v::y::A::z::J::D::E::F::G::B::L::M::N::I::Q::O::U::T::R::X::W::Z::Y::t0::t3::t4::t2::t5::t1::t6::t7::t8::t9::td::tb::te::tc::ta::tj::tg::th::tf::tm::tk::tl::ti::tq::tp::tr::tn::tt::ts::tv::tu::v89::v89::uu::tw::tA::zz),h90⟩):=kG
theorem Oz (zz:List V) (h:Hp):yO s k wl 15 Tryz.f15 dK 16 m0 ac dz ⟨(c::e::j::f::o::g::u::v::y::A::z::J::D::E::F::G::B::L::M::N::I::Q::O::U::T::R::X::W::Z::Y::t0::t3::t4::t2::t5::t1::t6::t7::t8::t9::td::tb::te::tc::ta::tj::tg::th::tf::tm::tk::tl::ti::tq::tp::tr::tn::tt::ts::tv::tu::tz::tx::ty::tw::tA::tC::tD::tB::tF::tE::zz),h⟩ =
 bm (aO tx tA (.lit (.bool false))) h fun v95 h96=>
 gd v95 (
 bm (ab s.P 30 e h96) h96 fun v97 h98=>
 bm (ab s.P 30 e h98) h98 fun v99 h100=>
 bp (yC s k wl 15 false true (.fn (.func 19) [] []) [v97,v99] h100) fun v101 h102=>
 yO s k wl 15 Tryz.f15 dK 21 m0 ac dz ⟨(c::e::j::f::o::g::u::v::y::A::z::J::D::E::F::G::B::L::M::N::I::Q::O::U::T::R::X::W::Z::Y::t0::t3::t4::t2::t5::t1::t6::t7::t8::t9::td::tb::te::tc::ta::tj::tg::th::tf::tm::tk::tl::ti::tq::tp::tr::tn::tt::ts::tv::tu::tz::tx::ty::tw::tA::v95::(.lit (.bool true))::v97::v99::v101::zz),h102⟩) (
 yO s k wl 15 Tryz.f15 dK 21 m0 ac dz ⟨(c::e::j::f::o::g::u::v::y::A::z::J::D::E::F::G::B::L::M::N::I::Q::O::U::T::R::X::W::Z::Y::t0::t3::t4::t2::t5::t1::t6::t7::t8::t9::td::tb::te::tc::ta::tj::tg::th::tf::tm::tk::tl::ti::tq::tp::tr::tn::tt::ts::tv::tu::tz::tx::ty::tw::tA::v95::(.lit (.bool false))::uu::uu::uu::zz),h96⟩) (
 yO s k wl 15 Tryz.f15 dK 19 m0 ac dz ⟨(c::e::j::f::o::g::u::v::y::A::z::J::D::E::F::G::B::L::M::N::I::Q::O::U::T::R::X::W::Z::Y::t0::t3::t4::t2::t5::t1::t6::t7::t8::t9::td::tb::te::tc::ta::tj::tg::th::tf::tm::tk::tl::ti::tq::tp::tr::tn::tt::ts::tv::tu::tz::tx::ty::tw::tA::v95::v95::uu::tF::tE::zz),h96⟩):=kG
theorem OJ (h:Hp):yO s k wl 15 Tryz.f15 dK 21 m0 ac dz ⟨(c::e::j::f::o::g::u::v::y::A::z::J::D::E::F::G::B::L::M::N::I::Q::O::U::T::R::X::W::Z::Y::t0::t3::t4::t2::t5::t1::t6::t7::t8::t9::td::tb::te::tc::ta::tj::tg::th::tf::tm::tk::tl::ti::tq::tp::tr::tn::tt::ts::tv::tu::tz::tx::ty::tw::tA::tC::tD::tB::tF::tE::tI::tG::tH::tK::tJ::[]),h⟩ =
 bm (aO tD tE (.lit (.bool false))) h fun v103 h104=>
 gd v103 (
 bm (ab s.P 30 v h104) h104 fun v105 h106=>
 bp (yC s k wl 15 false true (.fn (.func 20) [] []) [v105] h106) fun v107 h108=>
 yO s k wl 15 Tryz.f15 dK 25 m0 ac dz ⟨(c::e::j::f::o::g::u::v::y::A::z::J::D::E::F::G::B::L::M::N::I::Q::O::U::T::R::X::W::Z::Y::t0::t3::t4::t2::t5::t1::t6::t7::t8::t9::td::tb::te::tc::ta::tj::tg::th::tf::tm::tk::tl::ti::tq::tp::tr::tn::tt::ts::tv::tu::tz::tx::ty::tw::tA::tC::tD::tB::tF::tE::v103::(.lit (.bool true))::v105::v107::tJ::[]),h108⟩) (
 yO s k wl 15 Tryz.f15 dK 25 m0 ac dz ⟨(c::e::j::f::o::g::u::v::y::A::z::J::D::E::F::G::B::L::M::N::I::Q::O::U::T::R::X::W::Z::Y::t0::t3::t4::t2::t5::t1::t6::t7::t8::t9::td::tb::te::tc::ta::tj::tg::th::tf::tm::tk::tl::ti::tq::tp::tr::tn::tt::ts::tv::tu::tz::tx::ty::tw::tA::tC::tD::tB::tF::tE::v103::(.lit (.bool false))::uu::uu::tJ::[]),h104⟩) (
 yO s k wl 15 Tryz.f15 dK 24 m0 ac dz ⟨(c::e::j::f::o::g::u::v::y::A::z::J::D::E::F::G::B::L::M::N::I::Q::O::U::T::R::X::W::Z::Y::t0::t3::t4::t2::t5::t1::t6::t7::t8::t9::td::tb::te::tc::ta::tj::tg::th::tf::tm::tk::tl::ti::tq::tp::tr::tn::tt::ts::tv::tu::tz::tx::ty::tw::tA::tC::tD::tB::tF::tE::v103::v103::uu::tK::tJ::[]),h104⟩):=kG
theorem Pc (h:Hp):yO s k wl 15 Tryz.f15 dK 25 m0 ac dz ⟨(c::e::j::f::o::g::u::v::y::A::z::J::D::E::F::G::B::L::M::N::I::Q::O::U::T::R::X::W::Z::Y::t0::t3::t4::t2::t5::t1::t6::t7::t8::t9::td::tb::te::tc::ta::tj::tg::th::tf::tm::tk::tl::ti::tq::tp::tr::tn::tt::ts::tv::tu::tz::tx::ty::tw::tA::tC::tD::tB::tF::tE::tI::tG::tH::tK::tJ::[]),h⟩ =
 bm (aO tG tK (.lit (.bool false))) h fun v109 h110=>
 some (v109,h110):=kG
theorem uK (cx:Cx) (K:Out→St→Option (V×Hp)) (s:St):au cx K iz .ret s=K .ret s:=by kernel_rfl
theorem ug (cx:Cx) (K:Out→St→Option (V×Hp)) (s:St):au cx K Id .ret s=K .ret s:=by kernel_rfl
theorem ue (cx:Cx) (K:Out→St→Option (V×Hp)) (s:St):au cx K dz .ret s=K .ret s:=by kernel_rfl
-- names: adW,ad4,Pp,Pe,PA,Pa,PR,OP,O5,PM,Oz,OJ,Pc,uK,ug,ue
noncomputable def nU:Code:=al (am Tryz.f16) [1,1,0,1,0,0]
noncomputable def Ee:List Fr:=[.block 0,.seq (al (am Tryz.f16) [1,1,1])]
noncomputable def DV:Code:=al (am Tryz.f16) [1,1,0,1,0,0,0,0]
noncomputable def AW:List Fr:=[.seq (al (am Tryz.f16) [1,1,0,1,0,0,0,1]),.seq (al (am Tryz.f16) [1,1,0,1,0,0,1])]
noncomputable def nQ:Code:=al (am Tryz.f16) [1,1,1,0,1,0,0]
noncomputable def E8:List Fr:=[.block 2,.seq (al (am Tryz.f16) [1,1,1,1])]
noncomputable def EI:Code:=al (am Tryz.f16) [1,1,1,0,1,0,0,0,0]
noncomputable def BB:List Fr:=[.seq (al (am Tryz.f16) [1,1,1,0,1,0,0,0,1]),.seq (al (am Tryz.f16) [1,1,1,0,1,0,0,1])]
noncomputable def ky:Code:=al (am Tryz.f16) [1,1,1,1,0]
noncomputable def iW:List Fr:=[.seq (al (am Tryz.f16) [1,1,1,1,1])]
theorem Zy (h:Hp):ak (xX s 16 wl k false) Tryz.f16 [c] h =
 bp (aJ c h) fun v1 h2=>
 bm (aa s.P 30 v1 1) h2 fun v3 h4=>
 bm (ab s.P 24 v3 h4) h4 fun v5 h6=>
 bp (yC s k wl 16 false true (.fn (.func 21) [] []) [v5] h6) fun v7 h8=>
 yI s k wl 16 Tryz.f16 nU h8.length Ee k ⟨((V.kill h8.length c)::(V.kill h8.length v1)::(.lit (.bool false))::(V.kill h8.length v7)::(.lit (.int .i64 0))::(V.kill h8.length uu)::(V.kill h8.length v3)::(V.kill h8.length v5)::(V.kill h8.length v7)::.junk::.junk::.junk::.junk::.junk::.junk::.junk::.junk::.junk::.junk::.junk::.junk::.junk::.junk::.junk::.junk::.junk::.junk::.junk::(V.kill h8.length uu)::(V.kill h8.length uu)::(V.kill h8.length uu)::(V.kill h8.length uu)::(V.kill h8.length uu)::(V.kill h8.length uu)::(V.kill h8.length uu)::(V.kill h8.length uu)::(V.kill h8.length uu)::(V.kill h8.length uu)::(V.kill h8.length uu)::(V.kill h8.length uu)::(V.kill h8.length uu)::(V.kill h8.length uu)::(V.kill h8.length uu)::(V.kill h8.length uu)::(V.kill h8.length uu)::(V.kill h8.length uu)::(V.kill h8.length uu)::(V.kill h8.length uu)::(V.kill h8.length uu)::(V.kill h8.length uu)::(V.kill h8.length uu)::(V.kill h8.length uu)::(V.kill h8.length uu)::(V.kill h8.length uu)::(V.kill h8.length uu)::(V.kill h8.length uu)::(V.kill h8.length uu)::(V.kill h8.length uu)::(V.kill h8.length uu)::(V.kill h8.length uu)::(V.kill h8.length uu)::(V.kill h8.length uu)::(V.kill h8.length uu)::(V.kill h8.length uu)::(V.kill h8.length uu)::(V.kill h8.length uu)::[]),bY h8.length h8⟩:=kB
theorem abH (k wl:Nat) (h:Hp):evF Tryz.prog xM (k+1) wl 16 [c] h=ak (xX (xS k) 16 wl k false) Tryz.f16 [c] h:=by kernel_rfl
theorem Zo (P:Program) (h:Hp):av P Tryz.f16 .ret ⟨(c::e::j::f::o::g::u::v::y::A::z::J::D::E::F::G::B::L::M::N::I::Q::O::U::T::R::X::W::Z::Y::t0::t3::t4::t2::t5::t1::t6::t7::t8::t9::td::tb::te::tc::ta::tj::tg::th::tf::tm::tk::tl::ti::tq::tp::tr::tn::tt::ts::tv::tu::tz::tx::ty::tw::tA::[]),h⟩=some (j,h):=by kernel_rfl
theorem OI (s:Sys) (K:Out→St→Option (V×Hp)) (k wl:Nat) (rd:Bool) (n n0:Nat) (zz:List V) (h:Hp):itX (xX s 16 wl k rd) nU n0 K (n+1) ⟨(c::e::j::f::o::g::u::v::y::A::z::J::D::E::F::G::B::zz),h⟩ =
 bm (aa s.P 30 e 3) h fun v9 h10=>
 bm (ab s.P 27 v9 h10) h10 fun v11 h12=>
 bp (aX s.P 27 v11 h12) fun v13 h14=>
 bm (aq s.P .lss 3 o v13) h14 fun v15 h16=>
 gd v15 (
 bm (aq s.P .leq 3 o (.lit (.int .i64 10))) h16 fun v17 h18=>
 dv (xX s 16 wl k rd) DV 8 h.length ([],[]) (au (xX s 16 wl k rd) (eD (xX s 16 wl k rd) nU n0 K n) AW) ⟨(c::e::j::f::o::g::u::v::y::o::v9::v11::v13::v15::(.lit (.bool true))::o::v17::zz),h18⟩) (
 dv (xX s 16 wl k rd) DV 8 h.length ([],[]) (au (xX s 16 wl k rd) (eD (xX s 16 wl k rd) nU n0 K n) AW) ⟨(c::e::j::f::o::g::u::v::y::o::v9::v11::v13::v15::(.lit (.bool false))::uu::uu::zz),h16⟩) (
 dv (xX s 16 wl k rd) DV 7 h.length ([],[]) (au (xX s 16 wl k rd) (eD (xX s 16 wl k rd) nU n0 K n) AW) ⟨(c::e::j::f::o::g::u::v::y::o::v9::v11::v13::v15::v15::uu::B::zz),h16⟩):=kI
theorem Fi (h:Hp):au (xX s 16 wl k false) (av s.P Tryz.f16) Ee (.exit 0) ⟨(c::e::j::f::o::g::u::v::y::A::z::J::D::E::F::G::B::L::M::N::I::Q::O::U::T::R::X::W::Z::Y::t0::t3::t4::t2::t5::t1::t6::t7::t8::t9::td::tb::te::tc::ta::tj::tg::th::tf::tm::tk::tl::ti::tq::tp::tr::tn::tt::ts::tv::tu::tz::tx::ty::tw::tA::[]),h⟩ =
 yI s k wl 16 Tryz.f16 nQ h.length E8 k ⟨((V.kill h.length c)::(V.kill h.length e)::(V.kill h.length j)::(V.kill h.length f)::(V.kill h.length o)::(.lit (.int .i64 0))::(V.kill h.length u)::(V.kill h.length v)::(V.kill h.length y)::(V.kill h.length A)::(V.kill h.length z)::(V.kill h.length J)::(V.kill h.length D)::(V.kill h.length E)::(V.kill h.length F)::(V.kill h.length G)::(V.kill h.length B)::(V.kill h.length L)::(V.kill h.length M)::(V.kill h.length N)::(V.kill h.length I)::(V.kill h.length Q)::(V.kill h.length O)::(V.kill h.length U)::(V.kill h.length T)::(V.kill h.length R)::(V.kill h.length X)::(V.kill h.length W)::.junk::.junk::.junk::.junk::.junk::.junk::.junk::.junk::.junk::.junk::.junk::.junk::.junk::.junk::.junk::.junk::.junk::.junk::.junk::(V.kill h.length th)::(V.kill h.length tf)::(V.kill h.length tm)::(V.kill h.length tk)::(V.kill h.length tl)::(V.kill h.length ti)::(V.kill h.length tq)::(V.kill h.length tp)::(V.kill h.length tr)::(V.kill h.length tn)::(V.kill h.length tt)::(V.kill h.length ts)::(V.kill h.length tv)::(V.kill h.length tu)::(V.kill h.length tz)::(V.kill h.length tx)::(V.kill h.length ty)::(V.kill h.length tw)::(V.kill h.length tA)::[]),bY h.length h⟩:=kR
theorem DO (s:Sys) (K:Out→St→Option (V×Hp)) (k wl:Nat) (rd:Bool) (n n0:Nat) (m0:Nat) (ac:List Nat×List Nat) (h:Hp):dv (xX s 16 wl k rd) DV 8 m0 ac (au (xX s 16 wl k rd) (eD (xX s 16 wl k rd) nU n0 K n) AW) ⟨(c::e::j::f::o::g::u::v::y::A::z::J::D::E::F::G::B::L::M::N::I::Q::O::U::T::R::X::W::Z::Y::t0::t3::t4::t2::t5::t1::t6::t7::t8::t9::td::tb::te::tc::ta::tj::tg::th::tf::tm::tk::tl::ti::tq::tp::tr::tn::tt::ts::tv::tu::tz::tx::ty::tw::tA::[]),h⟩ =
 bm (aO F B (.lit (.bool false))) h fun v19 h20=>
 cnd v19 (
 bm (aa s.P 30 e 3) h20 fun v21 h22=>
 bm (ab s.P 27 v21 h22) h22 fun v23 h24=>
 bm (ai s.P 27 v23 o h24) h24 fun v25 h26=>
 bm (aa s.P 65 v25 1) h26 fun v27 h28=>
 bm (ab s.P 63 v27 h28) h28 fun v29 h30=>
 bp (aX s.P 63 v29 h30) fun v31 h32=>
 bm (aq s.P .gtr 3 v31 (.lit (.int .i64 40))) h32 fun v33 h34=>
 cnd v33 (
 K .ret ⟨(c::e::(.lit (.bool false))::f::o::g::u::v::y::A::z::J::D::E::F::G::B::v19::M::N::v21::v23::o::v25::v27::v29::v31::v33::Z::Y::t0::t3::t4::t2::t5::t1::t6::t7::t8::t9::td::tb::te::tc::ta::tj::tg::th::tf::tm::tk::tl::ti::tq::tp::tr::tn::tt::ts::tv::tu::tz::tx::ty::tw::tA::[]),h34⟩) (
 bm (aq s.P .add 3 o (.lit (.int .i64 1))) h34 fun v35 h36=>
 itX (xX s 16 wl k rd) nU n0 K n ⟨((V.kill n0 c)::(V.kill n0 e)::(V.kill n0 j)::(V.kill n0 f)::(V.kill n0 v35)::(V.kill n0 g)::(V.kill n0 u)::(V.kill n0 v)::(V.kill n0 y)::.junk::.junk::.junk::.junk::.junk::.junk::.junk::.junk::.junk::.junk::.junk::.junk::.junk::.junk::.junk::.junk::.junk::.junk::.junk::(V.kill n0 Z)::(V.kill n0 Y)::(V.kill n0 t0)::(V.kill n0 t3)::(V.kill n0 t4)::(V.kill n0 t2)::(V.kill n0 t5)::(V.kill n0 t1)::(V.kill n0 t6)::(V.kill n0 t7)::(V.kill n0 t8)::(V.kill n0 t9)::(V.kill n0 td)::(V.kill n0 tb)::(V.kill n0 te)::(V.kill n0 tc)::(V.kill n0 ta)::(V.kill n0 tj)::(V.kill n0 tg)::(V.kill n0 th)::(V.kill n0 tf)::(V.kill n0 tm)::(V.kill n0 tk)::(V.kill n0 tl)::(V.kill n0 ti)::(V.kill n0 tq)::(V.kill n0 tp)::(V.kill n0 tr)::(V.kill n0 tn)::(V.kill n0 tt)::(V.kill n0 ts)::(V.kill n0 tv)::(V.kill n0 tu)::(V.kill n0 tz)::(V.kill n0 tx)::(V.kill n0 ty)::(V.kill n0 tw)::(V.kill n0 tA)::[]),bY n0 h36⟩)) (
 K (.exit 0) ⟨((V.kill n0 c)::(V.kill n0 e)::(V.kill n0 j)::(V.kill n0 f)::(V.kill n0 o)::(V.kill n0 g)::(V.kill n0 u)::(V.kill n0 v)::(V.kill n0 y)::.junk::.junk::.junk::.junk::.junk::.junk::.junk::.junk::.junk::.junk::.junk::.junk::.junk::.junk::.junk::.junk::.junk::.junk::.junk::(V.kill n0 Z)::(V.kill n0 Y)::(V.kill n0 t0)::(V.kill n0 t3)::(V.kill n0 t4)::(V.kill n0 t2)::(V.kill n0 t5)::(V.kill n0 t1)::(V.kill n0 t6)::(V.kill n0 t7)::(V.kill n0 t8)::(V.kill n0 t9)::(V.kill n0 td)::(V.kill n0 tb)::(V.kill n0 te)::(V.kill n0 tc)::(V.kill n0 ta)::(V.kill n0 tj)::(V.kill n0 tg)::(V.kill n0 th)::(V.kill n0 tf)::(V.kill n0 tm)::(V.kill n0 tk)::(V.kill n0 tl)::(V.kill n0 ti)::(V.kill n0 tq)::(V.kill n0 tp)::(V.kill n0 tr)::(V.kill n0 tn)::(V.kill n0 tt)::(V.kill n0 ts)::(V.kill n0 tv)::(V.kill n0 tu)::(V.kill n0 tz)::(V.kill n0 tx)::(V.kill n0 ty)::(V.kill n0 tw)::(V.kill n0 tA)::[]),bY n0 h20⟩):=kG
theorem Pb (s:Sys) (K:Out→St→Option (V×Hp)) (k wl:Nat) (rd:Bool) (n n0:Nat) (zz:List V) (h:Hp):itX (xX s 16 wl k rd) nQ n0 K (n+1) ⟨(c::e::j::f::o::g::u::v::y::A::z::J::D::E::F::G::B::L::M::N::I::Q::O::U::T::R::X::W::Z::Y::t0::t3::t4::t2::t5::t1::zz),h⟩ =
 bm (aa s.P 30 e 4) h fun v37 h38=>
 bm (ab s.P 28 v37 h38) h38 fun v39 h40=>
 bp (aX s.P 28 v39 h40) fun v41 h42=>
 bm (aq s.P .lss 3 g v41) h42 fun v43 h44=>
 gd v43 (
 bm (aq s.P .leq 3 g (.lit (.int .i64 10))) h44 fun v45 h46=>
 dv (xX s 16 wl k rd) EI 8 h.length ([],[]) (au (xX s 16 wl k rd) (eD (xX s 16 wl k rd) nQ n0 K n) BB) ⟨(c::e::j::f::o::g::u::v::y::A::z::J::D::E::F::G::B::L::M::N::I::Q::O::U::T::R::X::W::g::v37::v39::v41::v43::(.lit (.bool true))::g::v45::zz),h46⟩) (
 dv (xX s 16 wl k rd) EI 8 h.length ([],[]) (au (xX s 16 wl k rd) (eD (xX s 16 wl k rd) nQ n0 K n) BB) ⟨(c::e::j::f::o::g::u::v::y::A::z::J::D::E::F::G::B::L::M::N::I::Q::O::U::T::R::X::W::g::v37::v39::v41::v43::(.lit (.bool false))::uu::uu::zz),h44⟩) (
 dv (xX s 16 wl k rd) EI 7 h.length ([],[]) (au (xX s 16 wl k rd) (eD (xX s 16 wl k rd) nQ n0 K n) BB) ⟨(c::e::j::f::o::g::u::v::y::A::z::J::D::E::F::G::B::L::M::N::I::Q::O::U::T::R::X::W::g::v37::v39::v41::v43::v43::uu::t1::zz),h44⟩):=kI
theorem El (s:Sys) (k wl:Nat) (zz:List V) (h:Hp):au (xX s 16 wl k false) (av s.P Tryz.f16) E8 (.exit 2) ⟨(c::e::j::f::o::g::u::v::y::A::z::J::D::E::F::G::B::L::M::N::I::Q::O::U::T::R::X::W::Z::Y::t0::t3::t4::t2::t5::t1::t6::t7::t8::t9::td::tb::te::tc::ta::tj::tg::th::tf::tm::tk::tl::ti::zz),h⟩ =
 gd f (
 bm (aa s.P 30 e 3) h fun v47 h48=>
 bm (ab s.P 27 v47 h48) h48 fun v49 h50=>
 bp (aX s.P 27 v49 h50) fun v51 h52=>
 bm (aq s.P .leq 3 v51 (.lit (.int .i64 10))) h52 fun v53 h54=>
 yO s k wl 16 Tryz.f16 ky 6 h.length ([],[]) iW ⟨(c::e::j::f::o::g::u::v::y::A::z::J::D::E::F::G::B::L::M::N::I::Q::O::U::T::R::X::W::Z::Y::t0::t3::t4::t2::t5::t1::t6::t7::t8::t9::td::tb::te::tc::ta::tj::tg::f::(.lit (.bool true))::v47::v49::v51::v53::zz),h54⟩) (
 yO s k wl 16 Tryz.f16 ky 6 h.length ([],[]) iW ⟨(c::e::j::f::o::g::u::v::y::A::z::J::D::E::F::G::B::L::M::N::I::Q::O::U::T::R::X::W::Z::Y::t0::t3::t4::t2::t5::t1::t6::t7::t8::t9::td::tb::te::tc::ta::tj::tg::f::(.lit (.bool false))::uu::uu::uu::uu::zz),h⟩) (
 yO s k wl 16 Tryz.f16 ky 3 h.length ([],[]) iW ⟨(c::e::j::f::o::g::u::v::y::A::z::J::D::E::F::G::B::L::M::N::I::Q::O::U::T::R::X::W::Z::Y::t0::t3::t4::t2::t5::t1::t6::t7::t8::t9::td::tb::te::tc::ta::tj::tg::f::f::uu::tk::tl::ti::zz),h⟩):=kR
theorem DY (s:Sys) (K:Out→St→Option (V×Hp)) (k wl:Nat) (rd:Bool) (n n0:Nat) (m0:Nat) (ac:List Nat×List Nat) (h:Hp):dv (xX s 16 wl k rd) EI 8 m0 ac (au (xX s 16 wl k rd) (eD (xX s 16 wl k rd) nQ n0 K n) BB) ⟨(c::e::j::f::o::g::u::v::y::A::z::J::D::E::F::G::B::L::M::N::I::Q::O::U::T::R::X::W::Z::Y::t0::t3::t4::t2::t5::t1::t6::t7::t8::t9::td::tb::te::tc::ta::tj::tg::th::tf::tm::tk::tl::ti::tq::tp::tr::tn::tt::ts::tv::tu::tz::tx::ty::tw::tA::[]),h⟩ =
 bm (aO t2 t1 (.lit (.bool false))) h fun v55 h56=>
 cnd v55 (
 bm (aa s.P 30 e 4) h56 fun v57 h58=>
 bm (ab s.P 28 v57 h58) h58 fun v59 h60=>
 bm (ai s.P 28 v59 g h60) h60 fun v61 h62=>
 bm (aa s.P 57 v61 1) h62 fun v63 h64=>
 bm (ab s.P 53 v63 h64) h64 fun v65 h66=>
 bp (aX s.P 53 v65 h66) fun v67 h68=>
 bm (aq s.P .gtr 3 v67 (.lit (.int .i64 60))) h68 fun v69 h70=>
 cnd v69 (
 K .ret ⟨(c::e::(.lit (.bool false))::f::o::g::u::v::y::A::z::J::D::E::F::G::B::L::M::N::I::Q::O::U::T::R::X::W::Z::Y::t0::t3::t4::t2::t5::t1::v55::t7::t8::v57::v59::g::v61::v63::v65::v67::v69::th::tf::tm::tk::tl::ti::tq::tp::tr::tn::tt::ts::tv::tu::tz::tx::ty::tw::tA::[]),h70⟩) (
 bm (aq s.P .add 3 g (.lit (.int .i64 1))) h70 fun v71 h72=>
 itX (xX s 16 wl k rd) nQ n0 K n ⟨((V.kill n0 c)::(V.kill n0 e)::(V.kill n0 j)::(V.kill n0 f)::(V.kill n0 o)::(V.kill n0 v71)::(V.kill n0 u)::(V.kill n0 v)::(V.kill n0 y)::(V.kill n0 A)::(V.kill n0 z)::(V.kill n0 J)::(V.kill n0 D)::(V.kill n0 E)::(V.kill n0 F)::(V.kill n0 G)::(V.kill n0 B)::(V.kill n0 L)::(V.kill n0 M)::(V.kill n0 N)::(V.kill n0 I)::(V.kill n0 Q)::(V.kill n0 O)::(V.kill n0 U)::(V.kill n0 T)::(V.kill n0 R)::(V.kill n0 X)::(V.kill n0 W)::.junk::.junk::.junk::.junk::.junk::.junk::.junk::.junk::.junk::.junk::.junk::.junk::.junk::.junk::.junk::.junk::.junk::.junk::.junk::(V.kill n0 th)::(V.kill n0 tf)::(V.kill n0 tm)::(V.kill n0 tk)::(V.kill n0 tl)::(V.kill n0 ti)::(V.kill n0 tq)::(V.kill n0 tp)::(V.kill n0 tr)::(V.kill n0 tn)::(V.kill n0 tt)::(V.kill n0 ts)::(V.kill n0 tv)::(V.kill n0 tu)::(V.kill n0 tz)::(V.kill n0 tx)::(V.kill n0 ty)::(V.kill n0 tw)::(V.kill n0 tA)::[]),bY n0 h72⟩)) (
 K (.exit 2) ⟨((V.kill n0 c)::(V.kill n0 e)::(V.kill n0 j)::(V.kill n0 f)::(V.kill n0 o)::(V.kill n0 g)::(V.kill n0 u)::(V.kill n0 v)::(V.kill n0 y)::(V.kill n0 A)::(V.kill n0 z)::(V.kill n0 J)::(V.kill n0 D)::(V.kill n0 E)::(V.kill n0 F)::(V.kill n0 G)::(V.kill n0 B)::(V.kill n0 L)::(V.kill n0 M)::(V.kill n0 N)::(V.kill n0 I)::(V.kill n0 Q)::(V.kill n0 O)::(V.kill n0 U)::(V.kill n0 T)::(V.kill n0 R)::(V.kill n0 X)::(V.kill n0 W)::.junk::.junk::.junk::.junk::.junk::.junk::.junk::.junk::.junk::.junk::.junk::.junk::.junk::.junk::.junk::.junk::.junk::.junk::.junk::(V.kill n0 th)::(V.kill n0 tf)::(V.kill n0 tm)::(V.kill n0 tk)::(V.kill n0 tl)::(V.kill n0 ti)::(V.kill n0 tq)::(V.kill n0 tp)::(V.kill n0 tr)::(V.kill n0 tn)::(V.kill n0 tt)::(V.kill n0 ts)::(V.kill n0 tv)::(V.kill n0 tu)::(V.kill n0 tz)::(V.kill n0 tx)::(V.kill n0 ty)::(V.kill n0 tw)::(V.kill n0 tA)::[]),bY n0 h56⟩):=kG
theorem E7 (zz:List V) (h:Hp):yO s k wl 16 Tryz.f16 ky 6 m0 ac iW ⟨(c::e::j::f::o::g::u::v::y::A::z::J::D::E::F::G::B::L::M::N::I::Q::O::U::T::R::X::W::Z::Y::t0::t3::t4::t2::t5::t1::t6::t7::t8::t9::td::tb::te::tc::ta::tj::tg::th::tf::tm::tk::tl::ti::tq::tp::tr::tn::tt::ts::zz),h⟩ =
 bm (aO tf ti (.lit (.bool false))) h fun v73 h74=>
 gd v73 (
 bm (aa s.P 30 e 4) h74 fun v75 h76=>
 bm (ab s.P 28 v75 h76) h76 fun v77 h78=>
 bp (aX s.P 28 v77 h78) fun v79 h80=>
 bm (aq s.P .leq 3 v79 (.lit (.int .i64 10))) h80 fun v81 h82=>
 yO s k wl 16 Tryz.f16 ky 12 m0 ac iW ⟨(c::e::j::f::o::g::u::v::y::A::z::J::D::E::F::G::B::L::M::N::I::Q::O::U::T::R::X::W::Z::Y::t0::t3::t4::t2::t5::t1::t6::t7::t8::t9::td::tb::te::tc::ta::tj::tg::th::tf::tm::tk::tl::ti::v73::(.lit (.bool true))::v75::v77::v79::v81::zz),h82⟩) (
 yO s k wl 16 Tryz.f16 ky 12 m0 ac iW ⟨(c::e::j::f::o::g::u::v::y::A::z::J::D::E::F::G::B::L::M::N::I::Q::O::U::T::R::X::W::Z::Y::t0::t3::t4::t2::t5::t1::t6::t7::t8::t9::td::tb::te::tc::ta::tj::tg::th::tf::tm::tk::tl::ti::v73::(.lit (.bool false))::uu::uu::uu::uu::zz),h74⟩) (
 yO s k wl 16 Tryz.f16 ky 9 m0 ac iW ⟨(c::e::j::f::o::g::u::v::y::A::z::J::D::E::F::G::B::L::M::N::I::Q::O::U::T::R::X::W::Z::Y::t0::t3::t4::t2::t5::t1::t6::t7::t8::t9::td::tb::te::tc::ta::tj::tg::th::tf::tm::tk::tl::ti::v73::v73::uu::tn::tt::ts::zz),h74⟩):=kG
theorem Ej (h:Hp):yO s k wl 16 Tryz.f16 ky 12 m0 ac iW ⟨(c::e::j::f::o::g::u::v::y::A::z::J::D::E::F::G::B::L::M::N::I::Q::O::U::T::R::X::W::Z::Y::t0::t3::t4::t2::t5::t1::t6::t7::t8::t9::td::tb::te::tc::ta::tj::tg::th::tf::tm::tk::tl::ti::tq::tp::tr::tn::tt::ts::tv::tu::tz::tx::ty::tw::tA::[]),h⟩ =
 bm (aO tp ts (.lit (.bool false))) h fun v83 h84=>
 gd v83 (
 bm (aa s.P 30 e 2) h84 fun v85 h86=>
 bm (ab s.P 26 v85 h86) h86 fun v87 h88=>
 bp (aX s.P 26 v87 h88) fun v89 h90=>
 bm (aq s.P .leq 3 v89 (.lit (.int .i64 500))) h90 fun v91 h92=>
 yO s k wl 16 Tryz.f16 ky 18 m0 ac iW ⟨(c::e::j::f::o::g::u::v::y::A::z::J::D::E::F::G::B::L::M::N::I::Q::O::U::T::R::X::W::Z::Y::t0::t3::t4::t2::t5::t1::t6::t7::t8::t9::td::tb::te::tc::ta::tj::tg::th::tf::tm::tk::tl::ti::tq::tp::tr::tn::tt::ts::v83::(.lit (.bool true))::v85::v87::v89::v91::tA::[]),h92⟩) (
 yO s k wl 16 Tryz.f16 ky 18 m0 ac iW ⟨(c::e::j::f::o::g::u::v::y::A::z::J::D::E::F::G::B::L::M::N::I::Q::O::U::T::R::X::W::Z::Y::t0::t3::t4::t2::t5::t1::t6::t7::t8::t9::td::tb::te::tc::ta::tj::tg::th::tf::tm::tk::tl::ti::tq::tp::tr::tn::tt::ts::v83::(.lit (.bool false))::uu::uu::uu::uu::tA::[]),h84⟩) (
 yO s k wl 16 Tryz.f16 ky 15 m0 ac iW ⟨(c::e::j::f::o::g::u::v::y::A::z::J::D::E::F::G::B::L::M::N::I::Q::O::U::T::R::X::W::Z::Y::t0::t3::t4::t2::t5::t1::t6::t7::t8::t9::td::tb::te::tc::ta::tj::tg::th::tf::tm::tk::tl::ti::tq::tp::tr::tn::tt::ts::v83::v83::uu::tx::ty::tw::tA::[]),h84⟩):=kG
theorem D5 (h:Hp):yO s k wl 16 Tryz.f16 ky 18 m0 ac iW ⟨(c::e::j::f::o::g::u::v::y::A::z::J::D::E::F::G::B::L::M::N::I::Q::O::U::T::R::X::W::Z::Y::t0::t3::t4::t2::t5::t1::t6::t7::t8::t9::td::tb::te::tc::ta::tj::tg::th::tf::tm::tk::tl::ti::tq::tp::tr::tn::tt::ts::tv::tu::tz::tx::ty::tw::tA::[]),h⟩ =
 bm (aO tu tw (.lit (.bool false))) h fun v93 h94=>
 some (v93,h94):=kG
theorem lC (cx:Cx) (K:Out→St→Option (V×Hp)) (s:St):au cx K Ee .ret s=K .ret s:=by kernel_rfl
theorem ly (cx:Cx) (K:Out→St→Option (V×Hp)) (s:St):au cx K AW .ret s=K .ret s:=by kernel_rfl
theorem lF (cx:Cx) (K:Out→St→Option (V×Hp)) (s:St):au cx K E8 .ret s=K .ret s:=by kernel_rfl
theorem lD (cx:Cx) (K:Out→St→Option (V×Hp)) (s:St):au cx K BB .ret s=K .ret s:=by kernel_rfl
theorem lc (cx:Cx) (K:Out→St→Option (V×Hp)) (s:St):au cx K iW .ret s=K .ret s:=by kernel_rfl
-- names: Zy,Zo,OI,Fi,DO,Pb,El,DY,E7,Ej,D5,lC,ly,lF,lD,lc
noncomputable def EL:Code:=al (am Tryz.f18) [1,1,0,1,0,0]
noncomputable def Ey:List Fr:=[.block 0,.seq (al (am Tryz.f18) [1,1,1])]
theorem acR (h:Hp):ak (xX s 18 wl k false) Tryz.f18 [c,e] h =
 bp (aX s.P 34 c h) fun v1 h2=>
 bp (aX s.P 34 e h2) fun v3 h4=>
 bm (aq s.P .neq 3 v1 v3) h4 fun v5 h6=>
 cnd v5 (
 some ((.lit (.bool false)),h6)) (
 yI s k wl 18 Tryz.f18 EL h6.length Ey k ⟨[(V.kill h6.length c),(V.kill h6.length e),(V.kill h6.length uu),(V.kill h6.length uu),(.lit (.bool false)),(.lit (.int .i64 0)),(V.kill h6.length c),(V.kill h6.length v1),(V.kill h6.length e),(V.kill h6.length v3),(V.kill h6.length v5),.junk,.junk,.junk,.junk,.junk,.junk,.junk,.junk,.junk,.junk,.junk,.junk,.junk,.junk,.junk],bY h6.length h6⟩):=kB
theorem ad3 (k wl:Nat) (h:Hp):evF Tryz.prog xM (k+1) wl 18 [c,e] h=ak (xX (xS k) 18 wl k false) Tryz.f18 [c,e] h:=by kernel_rfl
theorem adh (P:Program) (h:Hp):av P Tryz.f18 .ret ⟨[c,e,j,f,o,g,u,v,y,A,z,J,D,E,F,G,B,L,M,N,I,Q,O,U,T,R],h⟩=some (o,h):=by kernel_rfl
theorem Ob (s:Sys) (K:Out→St→Option (V×Hp)) (k wl:Nat) (rd:Bool) (n n0:Nat) (h:Hp):itX (xX s 18 wl k rd) EL n0 K (n+1) ⟨[c,e,j,f,o,g,u,v,y,A,z,J,D,E,F,G,B,L,M,N,I,Q,O,U,T,R],h⟩ =
 bp (aX s.P 34 c h) fun v7 h8=>
 bm (aq s.P .lss 3 g v7) h8 fun v9 h10=>
 cnd v9 (
 bm (ai s.P 34 c g h10) h10 fun v11 h12=>
 bm (ab s.P 52 v11 h12) h12 fun v13 h14=>
 bm (ai s.P 34 e g h14) h14 fun v15 h16=>
 bm (ab s.P 52 v15 h16) h16 fun v17 h18=>
 bm (aq s.P .neq 52 v13 v17) h18 fun v19 h20=>
 cnd v19 (
 K .ret ⟨[c,e,j,f,(.lit (.bool false)),g,u,v,y,A,z,g,c,v7,v9,G,B,c,g,v11,v13,e,g,v15,v17,v19],h20⟩) (
 bm (aq s.P .add 3 g (.lit (.int .i64 1))) h20 fun v21 h22=>
 itX (xX s 18 wl k rd) EL n0 K n ⟨[(V.kill n0 c),(V.kill n0 e),(V.kill n0 j),(V.kill n0 f),(V.kill n0 o),(V.kill n0 v21),(V.kill n0 u),(V.kill n0 v),(V.kill n0 y),(V.kill n0 A),(V.kill n0 z),.junk,.junk,.junk,.junk,.junk,.junk,.junk,.junk,.junk,.junk,.junk,.junk,.junk,.junk,.junk],bY n0 h22⟩)) (
 K (.exit 0) ⟨[(V.kill n0 c),(V.kill n0 e),(V.kill n0 j),(V.kill n0 f),(V.kill n0 o),(V.kill n0 g),(V.kill n0 u),(V.kill n0 v),(V.kill n0 y),(V.kill n0 A),(V.kill n0 z),.junk,.junk,.junk,.junk,.junk,.junk,.junk,.junk,.junk,.junk,.junk,.junk,.junk,.junk,.junk],bY n0 h10⟩):=kI
theorem JB (h:Hp):au (xX s 18 wl k false) (av s.P Tryz.f18) Ey (.exit 0) ⟨[c,e,j,f,o,g,u,v,y,A,z,J,D,E,F,G,B,L,M,N,I,Q,O,U,T,R],h⟩ =
 some ((.lit (.bool true)),h):=kR
theorem nq (cx:Cx) (K:Out→St→Option (V×Hp)) (s:St):au cx K Ey .ret s=K .ret s:=by kernel_rfl
-- names: acR,adh,Ob,JB,nq
end
end Go.Ab
