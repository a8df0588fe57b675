import Derived.Test.YtblpbpnilkfjhaaGreatR6Seat
import Derived.Test.YtblpbpnilkfjhaaGreatAbLibC
set_option linter.unusedVariables false
set_option linter.unusedSimpArgs false
set_option maxRecDepth 100000
set_option linter.unusedVariables false
namespace Go.Ab
open Go.Proofs
section
variable (s:Sys) (k wl:Nat) (m0:Nat) (ac:List Nat×List Nat) (c e j f o g u v y A z J D E F G B L M N I Q O U T R X W Z Y t0 t3 t4 t2 t5 t1 t6 t7 t8 t9 td tb te tc ta tj tg th tf tm tk tl ti tq tp tr tn tt ts tv tu tz tx ty tw tA tC tD tB tF tE tI tG tH tK tJ tP tM tN tO tL tT tS tU tR tQ:V)
noncomputable def lz:Code:=al (am Tryz.f15) [1,1,0]
noncomputable def kQ:List Fr:=[.seq (al (am Tryz.f15) [1,1,1])]
noncomputable def Ke:Code:=al (am Tryz.f15) [1,1,1,0,1,0,0]
noncomputable def JH:List Fr:=[.block 0,.seq (al (am Tryz.f15) [1,1,1,1])]
noncomputable def dU:Code:=al (am Tryz.f15) [1,1,1,1,1,0]
noncomputable def dH:List Fr:=[.seq (al (am Tryz.f15) [1,1,1,1,1,1])]
theorem afx (h:Hp):aj (xX s 15 wl k false) Tryz.f15 [] h =
 bm (a9 s.P 23 [(0,(.lit (.int .i64 1))),(1,(.lit (.int .i64 1))),(2,(.lit (.int .i64 1)))]) h fun v1 h2=>
 bp (yC s k wl 15 false true (.fn (.func 23) [] []) [v1,.nil,.nil] h2) fun v3 h4=>
 bm (ar v3 0) h4 fun v5 h6=>
 bm (ar v3 1) h6 fun v7 h8=>
 bp (aw s.P 30 h8) fun v9 h10=>
 bs (ai s.P wl 30 v9 v5 h10) fun h11=>
 bm (ab s.P 30 v9 h11) h11 fun v12 h13=>
 bp (yC s k wl 15 false true (.fn (.func 26) [] []) [v12] h13) fun v14 h15=>
 bm (av s.P .eql 3 v14 (.lit (.int .i64 0))) h15 fun v16 h17=>
 gd v16 (
 bm (ab s.P 30 v9 h17) h17 fun v18 h19=>
 bp (yC s k wl 15 false true (.fn (.func 25) [] []) [v18] h19) fun v20 h21=>
 bm (vUn .not v20) h21 fun v22 h23=>
 yO s k wl 15 Tryz.f15 lz 7 h11.length ([],[]) kQ ⟨((.lit (.bool false))::v9::v7::uu::uu::uu::uu::uu::uu::v3::v1::v3::v5::v7::v12::v14::v16::(.lit (.bool true))::v18::v20::v22::uu::uu::uu::uu::uu::uu::uu::uu::uu::uu::uu::uu::uu::uu::uu::uu::uu::uu::uu::uu::uu::uu::uu::uu::uu::uu::uu::uu::uu::uu::uu::uu::uu::uu::uu::uu::uu::uu::uu::uu::uu::uu::uu::uu::uu::uu::uu::uu::uu::uu::uu::uu::uu::uu::uu::[]),h23⟩) (
 yO s k wl 15 Tryz.f15 lz 7 h11.length ([],[]) kQ ⟨((.lit (.bool false))::v9::v7::uu::uu::uu::uu::uu::uu::v3::v1::v3::v5::v7::v12::v14::v16::(.lit (.bool false))::uu::uu::uu::uu::uu::uu::uu::uu::uu::uu::uu::uu::uu::uu::uu::uu::uu::uu::uu::uu::uu::uu::uu::uu::uu::uu::uu::uu::uu::uu::uu::uu::uu::uu::uu::uu::uu::uu::uu::uu::uu::uu::uu::uu::uu::uu::uu::uu::uu::uu::uu::uu::uu::uu::uu::uu::uu::uu::[]),h17⟩) (
 yO s k wl 15 Tryz.f15 lz 5 h11.length ([],[]) kQ ⟨((.lit (.bool false))::v9::v7::uu::uu::uu::uu::uu::uu::v3::v1::v3::v5::v7::v12::v14::v16::v16::uu::uu::uu::uu::uu::uu::uu::uu::uu::uu::uu::uu::uu::uu::uu::uu::uu::uu::uu::uu::uu::uu::uu::uu::uu::uu::uu::uu::uu::uu::uu::uu::uu::uu::uu::uu::uu::uu::uu::uu::uu::uu::uu::uu::uu::uu::uu::uu::uu::uu::uu::uu::uu::uu::uu::uu::uu::uu::[]),h17⟩):=kB
theorem afB (k wl:Nat) (h:Hp):evF Tryz.prog xM (k+1) wl 15 [] h=aj (xX (xS k) 15 wl k false) Tryz.f15 [] h:=by kernel_rfl
theorem ae0 (P:Program) (h:Hp):aC P Tryz.f15 .ret ⟨(c::e::j::f::o::g::u::v::y::A::z::J::D::E::F::G::B::L::M::N::I::Q::O::U::T::R::X::W::Z::Y::t0::t3::t4::t2::t5::t1::t6::t7::t8::t9::td::tb::te::tc::ta::tj::tg::th::tf::tm::tk::tl::ti::tq::tp::tr::tn::tt::ts::tv::tu::tz::tx::ty::tw::tA::tC::tD::tB::tF::tE::tI::tG::tH::tK::tJ::[]),h⟩=some (c,h):=by kernel_rfl
theorem Q2 (zz:List V) (h:Hp):yO s k wl 15 Tryz.f15 lz 7 m0 ac kQ ⟨(c::e::j::f::o::g::u::v::y::A::z::J::D::E::F::G::B::L::M::N::I::Q::O::U::T::R::zz),h⟩ =
 bm (aQ L I (.lit (.bool false))) h fun v24 h25=>
 gd v24 (
 bm (ab s.P 30 e h25) h25 fun v26 h27=>
 bp (yC s k wl 15 false true (.fn (.func 29) [] []) [v26] h27) fun v28 h29=>
 bm (vUn .not v28) h29 fun v30 h31=>
 yO s k wl 15 Tryz.f15 lz 12 m0 ac kQ ⟨(c::e::j::f::o::g::u::v::y::A::z::J::D::E::F::G::B::L::M::N::I::v24::(.lit (.bool true))::v26::v28::v30::zz),h31⟩) (
 yO s k wl 15 Tryz.f15 lz 12 m0 ac kQ ⟨(c::e::j::f::o::g::u::v::y::A::z::J::D::E::F::G::B::L::M::N::I::v24::(.lit (.bool false))::uu::uu::uu::zz),h25⟩) (
 yO s k wl 15 Tryz.f15 lz 10 m0 ac kQ ⟨(c::e::j::f::o::g::u::v::y::A::z::J::D::E::F::G::B::L::M::N::I::v24::v24::uu::T::R::zz),h25⟩):=kG
theorem Qw (zz:List V) (h:Hp):yO s k wl 15 Tryz.f15 lz 12 m0 ac kQ ⟨(c::e::j::f::o::g::u::v::y::A::z::J::D::E::F::G::B::L::M::N::I::Q::O::U::T::R::X::W::Z::Y::zz),h⟩ =
 bm (aQ O R (.lit (.bool false))) h fun v32 h33=>
 gd v32 (
 bm (ab s.P 30 e h33) h33 fun v34 h35=>
 bp (yC s k wl 15 false true (.fn (.func 20) [] []) [v34] h35) fun v36 h37=>
 yO s k wl 15 Tryz.f15 lz 16 m0 ac kQ ⟨(c::e::j::f::o::g::u::v::y::A::z::J::D::E::F::G::B::L::M::N::I::Q::O::U::T::R::v32::(.lit (.bool true))::v34::v36::zz),h37⟩) (
 yO s k wl 15 Tryz.f15 lz 16 m0 ac kQ ⟨(c::e::j::f::o::g::u::v::y::A::z::J::D::E::F::G::B::L::M::N::I::Q::O::U::T::R::v32::(.lit (.bool false))::uu::uu::zz),h33⟩) (
 yO s k wl 15 Tryz.f15 lz 15 m0 ac kQ ⟨(c::e::j::f::o::g::u::v::y::A::z::J::D::E::F::G::B::L::M::N::I::Q::O::U::T::R::v32::v32::uu::Y::zz),h33⟩):=kG
theorem Q7 (h:Hp):yO s k wl 15 Tryz.f15 lz 16 m0 ac kQ ⟨(c::e::j::f::o::g::u::v::y::A::z::J::D::E::F::G::B::L::M::N::I::Q::O::U::T::R::X::W::Z::Y::t0::t3::t4::t2::t5::t1::t6::t7::t8::t9::td::tb::te::tc::ta::tj::tg::th::tf::tm::tk::tl::ti::tq::tp::tr::tn::tt::ts::tv::tu::tz::tx::ty::tw::tA::tC::tD::tB::tF::tE::tI::tG::tH::tK::tJ::[]),h⟩ =
 bm (aQ W Y (.lit (.bool false))) h fun v38 h39=>
 yI s k wl 15 Tryz.f15 Ke h39.length JH k ⟨((V.kill h39.length c)::(V.kill h39.length e)::(V.kill h39.length j)::(V.kill h39.length v38)::(.lit (.int .i64 0))::(V.kill h39.length g)::(V.kill h39.length u)::(V.kill h39.length v)::(V.kill h39.length y)::(V.kill h39.length A)::(V.kill h39.length z)::(V.kill h39.length J)::(V.kill h39.length D)::(V.kill h39.length E)::(V.kill h39.length F)::(V.kill h39.length G)::(V.kill h39.length B)::(V.kill h39.length L)::(V.kill h39.length M)::(V.kill h39.length N)::(V.kill h39.length I)::(V.kill h39.length Q)::(V.kill h39.length O)::(V.kill h39.length U)::(V.kill h39.length T)::(V.kill h39.length R)::(V.kill h39.length X)::(V.kill h39.length W)::(V.kill h39.length Z)::(V.kill h39.length Y)::(V.kill h39.length v38)::.junk::.junk::.junk::.junk::.junk::.junk::.junk::.junk::.junk::.junk::.junk::(V.kill h39.length te)::(V.kill h39.length tc)::(V.kill h39.length ta)::(V.kill h39.length tj)::(V.kill h39.length tg)::(V.kill h39.length th)::(V.kill h39.length tf)::(V.kill h39.length tm)::(V.kill h39.length tk)::(V.kill h39.length tl)::(V.kill h39.length ti)::(V.kill h39.length tq)::(V.kill h39.length tp)::(V.kill h39.length tr)::(V.kill h39.length tn)::(V.kill h39.length tt)::(V.kill h39.length ts)::(V.kill h39.length tv)::(V.kill h39.length tu)::(V.kill h39.length tz)::(V.kill h39.length tx)::(V.kill h39.length ty)::(V.kill h39.length tw)::(V.kill h39.length tA)::(V.kill h39.length tC)::(V.kill h39.length tD)::(V.kill h39.length tB)::(V.kill h39.length tF)::(V.kill h39.length tE)::(V.kill h39.length tI)::(V.kill h39.length tG)::(V.kill h39.length tH)::(V.kill h39.length tK)::(V.kill h39.length tJ)::[]),bZ h39.length h39⟩:=kG
theorem QY (s:Sys) (K:Out→St→Option (V×Hp)) (k wl:Nat) (rd:Bool) (n n0:Nat) (h:Hp):itX (xX s 15 wl k rd) Ke n0 K (n+1) ⟨(c::e::j::f::o::g::u::v::y::A::z::J::D::E::F::G::B::L::M::N::I::Q::O::U::T::R::X::W::Z::Y::t0::t3::t4::t2::t5::t1::t6::t7::t8::t9::td::tb::te::tc::ta::tj::tg::th::tf::tm::tk::tl::ti::tq::tp::tr::tn::tt::ts::tv::tu::tz::tx::ty::tw::tA::tC::tD::tB::tF::tE::tI::tG::tH::tK::tJ::[]),h⟩ =
 bm (av s.P .lss 3 o (.lit (.int .i64 20))) h fun v40 h41=>
 cnd v40 (
 bm (ab s.P 30 e h41) h41 fun v42 h43=>
 bm (a9 s.P 48 []) h43 fun v44 h45=>
 bp (cN (xX s 15 wl k rd) false true (.fn (.func 24) [] []) [v42,v44] h45) fun v46 h47=>
 bm (ar v46 0) h47 fun v48 h49=>
 bm (ar v46 1) h49 fun v50 h51=>
 bp (aw s.P 30 h51) fun v52 h53=>
 bs (ai s.P wl 30 v52 v48 h53) fun h54=>
 bm (ab s.P 30 v52 h54) h54 fun v55 h56=>
 bs (ai s.P wl 30 e v55 h56) fun h57=>
 bm (av s.P .add 3 o (.lit (.int .i64 1))) h57 fun v58 h59=>
 itX (xX s 15 wl k rd) Ke n0 K n ⟨((V.kill n0 c)::(V.kill n0 e)::(V.kill n0 j)::(V.kill n0 f)::(V.kill n0 v58)::(V.kill n0 v52)::(V.kill n0 v50)::(V.kill n0 v)::(V.kill n0 y)::(V.kill n0 A)::(V.kill n0 z)::(V.kill n0 J)::(V.kill n0 D)::(V.kill n0 E)::(V.kill n0 F)::(V.kill n0 G)::(V.kill n0 B)::(V.kill n0 L)::(V.kill n0 M)::(V.kill n0 N)::(V.kill n0 I)::(V.kill n0 Q)::(V.kill n0 O)::(V.kill n0 U)::(V.kill n0 T)::(V.kill n0 R)::(V.kill n0 X)::(V.kill n0 W)::(V.kill n0 Z)::(V.kill n0 Y)::(V.kill n0 t0)::.junk::.junk::.junk::.junk::.junk::.junk::.junk::.junk::.junk::.junk::.junk::(V.kill n0 te)::(V.kill n0 tc)::(V.kill n0 ta)::(V.kill n0 tj)::(V.kill n0 tg)::(V.kill n0 th)::(V.kill n0 tf)::(V.kill n0 tm)::(V.kill n0 tk)::(V.kill n0 tl)::(V.kill n0 ti)::(V.kill n0 tq)::(V.kill n0 tp)::(V.kill n0 tr)::(V.kill n0 tn)::(V.kill n0 tt)::(V.kill n0 ts)::(V.kill n0 tv)::(V.kill n0 tu)::(V.kill n0 tz)::(V.kill n0 tx)::(V.kill n0 ty)::(V.kill n0 tw)::(V.kill n0 tA)::(V.kill n0 tC)::(V.kill n0 tD)::(V.kill n0 tB)::(V.kill n0 tF)::(V.kill n0 tE)::(V.kill n0 tI)::(V.kill n0 tG)::(V.kill n0 tH)::(V.kill n0 tK)::(V.kill n0 tJ)::[]),bZ n0 h59⟩) (
 K (.exit 0) ⟨((V.kill n0 c)::(V.kill n0 e)::(V.kill n0 j)::(V.kill n0 f)::(V.kill n0 o)::(V.kill n0 g)::(V.kill n0 u)::(V.kill n0 v)::(V.kill n0 y)::(V.kill n0 A)::(V.kill n0 z)::(V.kill n0 J)::(V.kill n0 D)::(V.kill n0 E)::(V.kill n0 F)::(V.kill n0 G)::(V.kill n0 B)::(V.kill n0 L)::(V.kill n0 M)::(V.kill n0 N)::(V.kill n0 I)::(V.kill n0 Q)::(V.kill n0 O)::(V.kill n0 U)::(V.kill n0 T)::(V.kill n0 R)::(V.kill n0 X)::(V.kill n0 W)::(V.kill n0 Z)::(V.kill n0 Y)::(V.kill n0 t0)::.junk::.junk::.junk::.junk::.junk::.junk::.junk::.junk::.junk::.junk::.junk::(V.kill n0 te)::(V.kill n0 tc)::(V.kill n0 ta)::(V.kill n0 tj)::(V.kill n0 tg)::(V.kill n0 th)::(V.kill n0 tf)::(V.kill n0 tm)::(V.kill n0 tk)::(V.kill n0 tl)::(V.kill n0 ti)::(V.kill n0 tq)::(V.kill n0 tp)::(V.kill n0 tr)::(V.kill n0 tn)::(V.kill n0 tt)::(V.kill n0 ts)::(V.kill n0 tv)::(V.kill n0 tu)::(V.kill n0 tz)::(V.kill n0 tx)::(V.kill n0 ty)::(V.kill n0 tw)::(V.kill n0 tA)::(V.kill n0 tC)::(V.kill n0 tD)::(V.kill n0 tB)::(V.kill n0 tF)::(V.kill n0 tE)::(V.kill n0 tI)::(V.kill n0 tG)::(V.kill n0 tH)::(V.kill n0 tK)::(V.kill n0 tJ)::[]),bZ n0 h41⟩):=kI
theorem P0 (s:Sys) (k wl:Nat) (zz:List V) (h:Hp):au (xX s 15 wl k false) (aC s.P Tryz.f15) JH (.exit 0) ⟨(c::e::j::f::o::g::u::v::y::A::z::J::D::E::F::G::B::L::M::N::I::Q::O::U::T::R::X::W::Z::Y::t0::t3::t4::t2::t5::t1::t6::t7::t8::t9::td::tb::te::tc::ta::tj::tg::th::tf::tm::tk::tl::ti::zz),h⟩ =
 bm (ab s.P 30 e h) h fun v60 h61=>
 bm (a9 s.P 48 []) h61 fun v62 h63=>
 bm (a9 s.P 48 [(0,(.lit (.int .i64 2)))]) h63 fun v64 h65=>
 bp (az s.P wl 31 2 [(0,v62),(1,v64)] h65) fun v66 h67=>
 bp (yC s k wl 15 false true (.fn (.func 17) [] []) [v60,v66] h67) fun v68 h69=>
 bm (ar v68 0) h69 fun v70 h71=>
 bm (ar v68 1) h71 fun v72 h73=>
 bp (aw s.P 30 h73) fun v74 h75=>
 bs (ai s.P wl 30 v74 v70 h75) fun h76=>
 gd j (
 yO s k wl 15 Tryz.f15 dU 3 h76.length ([],[]) dH ⟨(c::e::j::f::o::g::u::v74::v72::A::z::J::D::E::F::G::B::L::M::N::I::Q::O::U::T::R::X::W::Z::Y::t0::t3::t4::t2::t5::t1::t6::t7::t8::t9::td::tb::v68::v60::v62::v64::v66::v68::v70::v72::j::(.lit (.bool true))::f::zz),h76⟩) (
 yO s k wl 15 Tryz.f15 dU 3 h76.length ([],[]) dH ⟨(c::e::j::f::o::g::u::v74::v72::A::z::J::D::E::F::G::B::L::M::N::I::Q::O::U::T::R::X::W::Z::Y::t0::t3::t4::t2::t5::t1::t6::t7::t8::t9::td::tb::v68::v60::v62::v64::v66::v68::v70::v72::j::(.lit (.bool false))::uu::zz),h76⟩) (
 yO s k wl 15 Tryz.f15 dU 3 h76.length ([],[]) dH ⟨(c::e::j::f::o::g::u::v74::v72::A::z::J::D::E::F::G::B::L::M::N::I::Q::O::U::T::R::X::W::Z::Y::t0::t3::t4::t2::t5::t1::t6::t7::t8::t9::td::tb::v68::v60::v62::v64::v66::v68::v70::v72::j::j::uu::zz),h76⟩):=kR
theorem QA (zz:List V) (h:Hp):yO s k wl 15 Tryz.f15 dU 3 m0 ac dH ⟨(c::e::j::f::o::g::u::v::y::A::z::J::D::E::F::G::B::L::M::N::I::Q::O::U::T::R::X::W::Z::Y::t0::t3::t4::t2::t5::t1::t6::t7::t8::t9::td::tb::te::tc::ta::tj::tg::th::tf::tm::tk::tl::ti::tq::tp::tr::tn::zz),h⟩ =
 bm (aQ tl ti (.lit (.bool false))) h fun v77 h78=>
 gd v77 (
 bm (ab s.P 30 e h78) h78 fun v79 h80=>
 bp (yC s k wl 15 false true (.fn (.func 29) [] []) [v79] h80) fun v81 h82=>
 yO s k wl 15 Tryz.f15 dU 7 m0 ac dH ⟨(c::e::j::f::o::g::u::v::y::A::z::J::D::E::F::G::B::L::M::N::I::Q::O::U::T::R::X::W::Z::Y::t0::t3::t4::t2::t5::t1::t6::t7::t8::t9::td::tb::te::tc::ta::tj::tg::th::tf::tm::tk::tl::ti::v77::(.lit (.bool true))::v79::v81::zz),h82⟩) (
 yO s k wl 15 Tryz.f15 dU 7 m0 ac dH ⟨(c::e::j::f::o::g::u::v::y::A::z::J::D::E::F::G::B::L::M::N::I::Q::O::U::T::R::X::W::Z::Y::t0::t3::t4::t2::t5::t1::t6::t7::t8::t9::td::tb::te::tc::ta::tj::tg::th::tf::tm::tk::tl::ti::v77::(.lit (.bool false))::uu::uu::zz),h78⟩) (
 yO s k wl 15 Tryz.f15 dU 6 m0 ac dH ⟨(c::e::j::f::o::g::u::v::y::A::z::J::D::E::F::G::B::L::M::N::I::Q::O::U::T::R::X::W::Z::Y::t0::t3::t4::t2::t5::t1::t6::t7::t8::t9::td::tb::te::tc::ta::tj::tg::th::tf::tm::tk::tl::ti::v77::v77::uu::tn::zz),h78⟩):=kG
theorem Qb (zz:List V) (h:Hp):yO s k wl 15 Tryz.f15 dU 7 m0 ac dH ⟨(c::e::j::f::o::g::u::v::y::A::z::J::D::E::F::G::B::L::M::N::I::Q::O::U::T::R::X::W::Z::Y::t0::t3::t4::t2::t5::t1::t6::t7::t8::t9::td::tb::te::tc::ta::tj::tg::th::tf::tm::tk::tl::ti::tq::tp::tr::tn::tt::ts::tv::tu::zz),h⟩ =
 bm (aQ tp tn (.lit (.bool false))) h fun v83 h84=>
 gd v83 (
 bm (ab s.P 30 e h84) h84 fun v85 h86=>
 bp (yC s k wl 15 false true (.fn (.func 25) [] []) [v85] h86) fun v87 h88=>
 yO s k wl 15 Tryz.f15 dU 11 m0 ac dH ⟨(c::e::j::f::o::g::u::v::y::A::z::J::D::E::F::G::B::L::M::N::I::Q::O::U::T::R::X::W::Z::Y::t0::t3::t4::t2::t5::t1::t6::t7::t8::t9::td::tb::te::tc::ta::tj::tg::th::tf::tm::tk::tl::ti::tq::tp::tr::tn::v83::(.lit (.bool true))::v85::v87::zz),h88⟩) (
 yO s k wl 15 Tryz.f15 dU 11 m0 ac dH ⟨(c::e::j::f::o::g::u::v::y::A::z::J::D::E::F::G::B::L::M::N::I::Q::O::U::T::R::X::W::Z::Y::t0::t3::t4::t2::t5::t1::t6::t7::t8::t9::td::tb::te::tc::ta::tj::tg::th::tf::tm::tk::tl::ti::tq::tp::tr::tn::v83::(.lit (.bool false))::uu::uu::zz),h84⟩) (
 yO s k wl 15 Tryz.f15 dU 10 m0 ac dH ⟨(c::e::j::f::o::g::u::v::y::A::z::J::D::E::F::G::B::L::M::N::I::Q::O::U::T::R::X::W::Z::Y::t0::t3::t4::t2::t5::t1::t6::t7::t8::t9::td::tb::te::tc::ta::tj::tg::th::tf::tm::tk::tl::ti::tq::tp::tr::tn::v83::v83::uu::tu::zz),h84⟩):=kG
theorem QP (zz:List V) (h:Hp):yO s k wl 15 Tryz.f15 dU 11 m0 ac dH ⟨(c::e::j::f::o::g::u::v::y::A::z::J::D::E::F::G::B::L::M::N::I::Q::O::U::T::R::X::W::Z::Y::t0::t3::t4::t2::t5::t1::t6::t7::t8::t9::td::tb::te::tc::ta::tj::tg::th::tf::tm::tk::tl::ti::tq::tp::tr::tn::tt::ts::tv::tu::tz::tx::ty::tw::tA::zz),h⟩ =
 bm (aQ ts tu (.lit (.bool false))) h fun v89 h90=>
 gd v89 (
 bp (bh s.P 34 y h90) fun v91 h92=>
 bm (av s.P .eql 3 v91 (.lit (.int .i64 0))) h92 fun v93 h94=>
 yO s k wl 15 Tryz.f15 dU 16 m0 ac dH ⟨(c::e::j::f::o::g::u::v::y::A::z::J::D::E::F::G::B::L::M::N::I::Q::O::U::T::R::X::W::Z::Y::t0::t3::t4::t2::t5::t1::t6::t7::t8::t9::td::tb::te::tc::ta::tj::tg::th::tf::tm::tk::tl::ti::tq::tp::tr::tn::tt::ts::tv::tu::v89::(.lit (.bool true))::y::v91::v93::zz),h94⟩) (
 yO s k wl 15 Tryz.f15 dU 16 m0 ac dH ⟨(c::e::j::f::o::g::u::v::y::A::z::J::D::E::F::G::B::L::M::N::I::Q::O::U::T::R::X::W::Z::Y::t0::t3::t4::t2::t5::t1::t6::t7::t8::t9::td::tb::te::tc::ta::tj::tg::th::tf::tm::tk::tl::ti::tq::tp::tr::tn::tt::ts::tv::tu::v89::(.lit (.bool false))::uu::uu::uu::zz),h90⟩) (
 yO s k wl 15 Tryz.f15 dU 14 m0 ac dH ⟨(c::e::j::f::o::g::u::v::y::A::z::J::D::E::F::G::B::L::M::N::I::Q::O::U::T::R::X::W::Z::Y::t0::t3::t4::t2::t5::t1::t6::t7::t8::t9::td::tb::te::tc::ta::tj::tg::th::tf::tm::tk::tl::ti::tq::tp::tr::tn::tt::ts::tv::tu::v89::v89::uu::tw::tA::zz),h90⟩):=kG
theorem Qu (zz:List V) (h:Hp):yO s k wl 15 Tryz.f15 dU 16 m0 ac dH ⟨(c::e::j::f::o::g::u::v::y::A::z::J::D::E::F::G::B::L::M::N::I::Q::O::U::T::R::X::W::Z::Y::t0::t3::t4::t2::t5::t1::t6::t7::t8::t9::td::tb::te::tc::ta::tj::tg::th::tf::tm::tk::tl::ti::tq::tp::tr::tn::tt::ts::tv::tu::tz::tx::ty::tw::tA::tC::tD::tB::tF::tE::zz),h⟩ =
 bm (aQ tx tA (.lit (.bool false))) h fun v95 h96=>
 gd v95 (
 bm (ab s.P 30 e h96) h96 fun v97 h98=>
 bm (ab s.P 30 e h98) h98 fun v99 h100=>
 bp (yC s k wl 15 false true (.fn (.func 19) [] []) [v97,v99] h100) fun v101 h102=>
 yO s k wl 15 Tryz.f15 dU 21 m0 ac dH ⟨(c::e::j::f::o::g::u::v::y::A::z::J::D::E::F::G::B::L::M::N::I::Q::O::U::T::R::X::W::Z::Y::t0::t3::t4::t2::t5::t1::t6::t7::t8::t9::td::tb::te::tc::ta::tj::tg::th::tf::tm::tk::tl::ti::tq::tp::tr::tn::tt::ts::tv::tu::tz::tx::ty::tw::tA::v95::(.lit (.bool true))::v97::v99::v101::zz),h102⟩) (
 yO s k wl 15 Tryz.f15 dU 21 m0 ac dH ⟨(c::e::j::f::o::g::u::v::y::A::z::J::D::E::F::G::B::L::M::N::I::Q::O::U::T::R::X::W::Z::Y::t0::t3::t4::t2::t5::t1::t6::t7::t8::t9::td::tb::te::tc::ta::tj::tg::th::tf::tm::tk::tl::ti::tq::tp::tr::tn::tt::ts::tv::tu::tz::tx::ty::tw::tA::v95::(.lit (.bool false))::uu::uu::uu::zz),h96⟩) (
 yO s k wl 15 Tryz.f15 dU 19 m0 ac dH ⟨(c::e::j::f::o::g::u::v::y::A::z::J::D::E::F::G::B::L::M::N::I::Q::O::U::T::R::X::W::Z::Y::t0::t3::t4::t2::t5::t1::t6::t7::t8::t9::td::tb::te::tc::ta::tj::tg::th::tf::tm::tk::tl::ti::tq::tp::tr::tn::tt::ts::tv::tu::tz::tx::ty::tw::tA::v95::v95::uu::tF::tE::zz),h96⟩):=kG
theorem Qz (h:Hp):yO s k wl 15 Tryz.f15 dU 21 m0 ac dH ⟨(c::e::j::f::o::g::u::v::y::A::z::J::D::E::F::G::B::L::M::N::I::Q::O::U::T::R::X::W::Z::Y::t0::t3::t4::t2::t5::t1::t6::t7::t8::t9::td::tb::te::tc::ta::tj::tg::th::tf::tm::tk::tl::ti::tq::tp::tr::tn::tt::ts::tv::tu::tz::tx::ty::tw::tA::tC::tD::tB::tF::tE::tI::tG::tH::tK::tJ::[]),h⟩ =
 bm (aQ tD tE (.lit (.bool false))) h fun v103 h104=>
 gd v103 (
 bm (ab s.P 30 v h104) h104 fun v105 h106=>
 bp (yC s k wl 15 false true (.fn (.func 20) [] []) [v105] h106) fun v107 h108=>
 yO s k wl 15 Tryz.f15 dU 25 m0 ac dH ⟨(c::e::j::f::o::g::u::v::y::A::z::J::D::E::F::G::B::L::M::N::I::Q::O::U::T::R::X::W::Z::Y::t0::t3::t4::t2::t5::t1::t6::t7::t8::t9::td::tb::te::tc::ta::tj::tg::th::tf::tm::tk::tl::ti::tq::tp::tr::tn::tt::ts::tv::tu::tz::tx::ty::tw::tA::tC::tD::tB::tF::tE::v103::(.lit (.bool true))::v105::v107::tJ::[]),h108⟩) (
 yO s k wl 15 Tryz.f15 dU 25 m0 ac dH ⟨(c::e::j::f::o::g::u::v::y::A::z::J::D::E::F::G::B::L::M::N::I::Q::O::U::T::R::X::W::Z::Y::t0::t3::t4::t2::t5::t1::t6::t7::t8::t9::td::tb::te::tc::ta::tj::tg::th::tf::tm::tk::tl::ti::tq::tp::tr::tn::tt::ts::tv::tu::tz::tx::ty::tw::tA::tC::tD::tB::tF::tE::v103::(.lit (.bool false))::uu::uu::tJ::[]),h104⟩) (
 yO s k wl 15 Tryz.f15 dU 24 m0 ac dH ⟨(c::e::j::f::o::g::u::v::y::A::z::J::D::E::F::G::B::L::M::N::I::Q::O::U::T::R::X::W::Z::Y::t0::t3::t4::t2::t5::t1::t6::t7::t8::t9::td::tb::te::tc::ta::tj::tg::th::tf::tm::tk::tl::ti::tq::tp::tr::tn::tt::ts::tv::tu::tz::tx::ty::tw::tA::tC::tD::tB::tF::tE::v103::v103::uu::tK::tJ::[]),h104⟩):=kG
theorem Q0 (h:Hp):yO s k wl 15 Tryz.f15 dU 25 m0 ac dH ⟨(c::e::j::f::o::g::u::v::y::A::z::J::D::E::F::G::B::L::M::N::I::Q::O::U::T::R::X::W::Z::Y::t0::t3::t4::t2::t5::t1::t6::t7::t8::t9::td::tb::te::tc::ta::tj::tg::th::tf::tm::tk::tl::ti::tq::tp::tr::tn::tt::ts::tv::tu::tz::tx::ty::tw::tA::tC::tD::tB::tF::tE::tI::tG::tH::tK::tJ::[]),h⟩ =
 bm (aQ tG tK (.lit (.bool false))) h fun v109 h110=>
 some (v109,h110):=kG
theorem wj (cx:Cx) (K:Out→St→Option (V×Hp)) (s:St):au cx K kQ .ret s=K .ret s:=by kernel_rfl
theorem wH (cx:Cx) (K:Out→St→Option (V×Hp)) (s:St):au cx K JH .ret s=K .ret s:=by kernel_rfl
theorem wL (cx:Cx) (K:Out→St→Option (V×Hp)) (s:St):au cx K dH .ret s=K .ret s:=by kernel_rfl
-- names: afx,ae0,Q2,Qw,Q7,QY,P0,QA,Qb,QP,Qu,Qz,Q0,wj,wH,wL
noncomputable def oY:Code:=al (am Tryz.f22) [1,0,1,0,0]
noncomputable def F0:List Fr:=[.block 0,.seq (al (am Tryz.f22) [1,1])]
noncomputable def Fp:Code:=al (am Tryz.f22) [1,0,1,0,0,0,0]
noncomputable def Cu:List Fr:=[.seq (al (am Tryz.f22) [1,0,1,0,0,0,1]),.seq (al (am Tryz.f22) [1,0,1,0,0,1])]
theorem adY (h:Hp):aj (xX s 22 wl k false) Tryz.f22 [c] h =
 yI s k wl 22 Tryz.f22 oY h.length F0 k ⟨[(V.kill h.length c),(V.kill h.length uu),(.lit (.bool false)),(.lit (.int .i64 0)),.junk,.junk,.junk,.junk,.junk,.junk,.junk,.junk,.junk,.junk,.junk,.junk,.junk,.junk,.junk,.junk,(V.kill h.length uu),(V.kill h.length uu),(V.kill h.length uu)],bZ h.length h⟩:=kB
theorem ae3 (k wl:Nat) (h:Hp):evF Tryz.prog xM (k+1) wl 22 [c] h=aj (xX (xS k) 22 wl k false) Tryz.f22 [c] h:=by kernel_rfl
theorem ads (P:Program) (h:Hp):aC P Tryz.f22 .ret ⟨[c,e,j,f,o,g,u,v,y,A,z,J,D,E,F,G,B,L,M,N,I,Q,O],h⟩=some (j,h):=by kernel_rfl
theorem PG (s:Sys) (K:Out→St→Option (V×Hp)) (k wl:Nat) (rd:Bool) (n n0:Nat) (zz:List V) (h:Hp):itX (xX s 22 wl k rd) oY n0 K (n+1) ⟨(c::e::j::f::o::g::u::v::y::A::z::zz),h⟩ =
 bp (bh s.P 40 c h) fun v1 h2=>
 bm (av s.P .lss 3 f v1) h2 fun v3 h4=>
 gd v3 (
 bm (av s.P .leq 3 f (.lit (.int .i64 10))) h4 fun v5 h6=>
 dM (xX s 22 wl k rd) Fp 7 h.length ([],[]) (au (xX s 22 wl k rd) (bK (xX s 22 wl k rd) oY n0 K n) Cu) ⟨(c::e::j::f::f::c::v1::v3::(.lit (.bool true))::f::v5::zz),h6⟩) (
 dM (xX s 22 wl k rd) Fp 7 h.length ([],[]) (au (xX s 22 wl k rd) (bK (xX s 22 wl k rd) oY n0 K n) Cu) ⟨(c::e::j::f::f::c::v1::v3::(.lit (.bool false))::uu::uu::zz),h4⟩) (
 dM (xX s 22 wl k rd) Fp 6 h.length ([],[]) (au (xX s 22 wl k rd) (bK (xX s 22 wl k rd) oY n0 K n) Cu) ⟨(c::e::j::f::f::c::v1::v3::v3::uu::z::zz),h4⟩):=kI
theorem KF (h:Hp):au (xX s 22 wl k false) (aC s.P Tryz.f22) F0 (.exit 0) ⟨[c,e,j,f,o,g,u,v,y,A,z,J,D,E,F,G,B,L,M,N,I,Q,O],h⟩ =
 bp (bh s.P 40 c h) fun v7 h8=>
 bm (av s.P .leq 3 v7 (.lit (.int .i64 10))) h8 fun v9 h10=>
 some (v9,h10):=kR
theorem Lk (s:Sys) (K:Out→St→Option (V×Hp)) (k wl:Nat) (rd:Bool) (n n0:Nat) (m0:Nat) (ac:List Nat×List Nat) (h:Hp):dM (xX s 22 wl k rd) Fp 7 m0 ac (au (xX s 22 wl k rd) (bK (xX s 22 wl k rd) oY n0 K n) Cu) ⟨[c,e,j,f,o,g,u,v,y,A,z,J,D,E,F,G,B,L,M,N,I,Q,O],h⟩ =
 bm (aQ y z (.lit (.bool false))) h fun v11 h12=>
 cnd v11 (
 bm (ak s.P 40 c f h12) h12 fun v13 h14=>
 bm (ab s.P 53 v13 h14) h14 fun v15 h16=>
 bp (bh s.P 53 v15 h16) fun v17 h18=>
 bm (av s.P .gtr 3 v17 (.lit (.int .i64 60))) h18 fun v19 h20=>
 cnd v19 (
 K .ret ⟨[c,e,(.lit (.bool false)),f,o,g,u,v,y,A,z,v11,D,E,c,f,v13,v15,v17,v19,I,Q,O],h20⟩) (
 bm (av s.P .add 3 f (.lit (.int .i64 1))) h20 fun v21 h22=>
 itX (xX s 22 wl k rd) oY n0 K n ⟨[(V.kill n0 c),(V.kill n0 e),(V.kill n0 j),(V.kill n0 v21),.junk,.junk,.junk,.junk,.junk,.junk,.junk,.junk,.junk,.junk,.junk,.junk,.junk,.junk,.junk,.junk,(V.kill n0 I),(V.kill n0 Q),(V.kill n0 O)],bZ n0 h22⟩)) (
 K (.exit 0) ⟨[(V.kill n0 c),(V.kill n0 e),(V.kill n0 j),(V.kill n0 f),.junk,.junk,.junk,.junk,.junk,.junk,.junk,.junk,.junk,.junk,.junk,.junk,.junk,.junk,.junk,.junk,(V.kill n0 I),(V.kill n0 Q),(V.kill n0 O)],bZ n0 h12⟩):=kG
theorem oD (cx:Cx) (K:Out→St→Option (V×Hp)) (s:St):au cx K F0 .ret s=K .ret s:=by kernel_rfl
theorem oj (cx:Cx) (K:Out→St→Option (V×Hp)) (s:St):au cx K Cu .ret s=K .ret s:=by kernel_rfl
-- names: adY,ads,PG,KF,Lk,oD,oj
end
end Go.Ab
