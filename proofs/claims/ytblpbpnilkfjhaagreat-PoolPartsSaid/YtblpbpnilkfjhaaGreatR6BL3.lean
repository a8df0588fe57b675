import Derived.Test.YtblpbpnilkfjhaaGreatR6Seat
import Derived.Test.YtblpbpnilkfjhaaGreatR6FacP
import Derived.Test.YtblpbpnilkfjhaaGreatAbLibC
set_option linter.unusedVariables false
set_option linter.unusedSimpArgs false
set_option maxRecDepth 100000
set_option linter.unusedVariables false
namespace Go.Ab
open Go.Proofs
section
variable (s:Sys) (k wl:Nat) (m0:Nat) (ac:List Nat×List Nat) (f d e g o q r i u I M N O Q R T v A B D E j F n U J W L G t0 Y t1 Z X t5 t2 t6 t7 t8 t9 ta tb tc td te tf tg th ti tj tk tl tm tn tp tq tr ts tt tu tv tw tx ty tz tA t3 t4 tH tD tI tE tF tG tC tB:V)
noncomputable def om:Code:=al (am Tryz.f3) [1,1,1,0,0]
noncomputable def nN:List Fr:=[.seq (al (am Tryz.f3) [1,1,1,0,1]),.seq (al (am Tryz.f3) [1,1,1,1])]
noncomputable def Az:Code:=al (am Tryz.f3) [1,1,1,1,1,1,1,1,0]
noncomputable def wE:List Fr:=[.seq (al (am Tryz.f3) [1,1,1,1,1,1,1,1,1])]
theorem xb3 (h:Hp):ak (xX s 3 wl k false) Tryz.f3 [f,d,e] h =
 bp (aJ f h) fun v1 h2=>
 bp (cw (xX s 3 wl k false) false true (.fn (.func 15) [] []) [] h2) fun v3 h4=>
 bm (ab s.P 30 v1 h4) h4 fun v5 h6=>
 bp (cw (xX s 3 wl k false) false true (.fn (.func 16) [] []) [v5] h6) fun v7 h8=>
 bm (vUn .not v3) h8 fun v9 h10=>
 gd v9 (
 dv (xX s 3 wl k false) om 5 h8.length ([],[]) (au (xX s 3 wl k false) (av s.P Tryz.f3) nN) ⟨(f::d::e::v1::uu::uu::(.lit (.bool false))::v3::v7::uu::uu::uu::uu::uu::uu::uu::v3::v5::v7::v3::v9::(.lit (.bool true))::uu::uu::uu::uu::uu::uu::uu::uu::uu::uu::uu::uu::uu::uu::uu::uu::uu::uu::uu::uu::uu::uu::uu::uu::uu::uu::uu::uu::uu::uu::uu::uu::uu::uu::uu::uu::uu::uu::uu::uu::uu::uu::uu::uu::uu::uu::uu::uu::uu::uu::uu::uu::uu::uu::[]),h10⟩) (
 bm (vUn .not v7) h10 fun v11 h12=>
 dv (xX s 3 wl k false) om 5 h8.length ([],[]) (au (xX s 3 wl k false) (av s.P Tryz.f3) nN) ⟨(f::d::e::v1::uu::uu::(.lit (.bool false))::v3::v7::uu::uu::uu::uu::uu::uu::uu::v3::v5::v7::v3::v9::(.lit (.bool false))::v7::v11::uu::uu::uu::uu::uu::uu::uu::uu::uu::uu::uu::uu::uu::uu::uu::uu::uu::uu::uu::uu::uu::uu::uu::uu::uu::uu::uu::uu::uu::uu::uu::uu::uu::uu::uu::uu::uu::uu::uu::uu::uu::uu::uu::uu::uu::uu::uu::uu::uu::uu::uu::uu::[]),h12⟩) (
 dv (xX s 3 wl k false) om 4 h8.length ([],[]) (au (xX s 3 wl k false) (av s.P Tryz.f3) nN) ⟨(f::d::e::v1::uu::uu::(.lit (.bool false))::v3::v7::uu::uu::uu::uu::uu::uu::uu::v3::v5::v7::v3::v9::v9::uu::uu::uu::uu::uu::uu::uu::uu::uu::uu::uu::uu::uu::uu::uu::uu::uu::uu::uu::uu::uu::uu::uu::uu::uu::uu::uu::uu::uu::uu::uu::uu::uu::uu::uu::uu::uu::uu::uu::uu::uu::uu::uu::uu::uu::uu::uu::uu::uu::uu::uu::uu::uu::uu::[]),h10⟩):=kB
theorem xe3 (k wl:Nat) (h:Hp):evF Tryz.prog xM (k+1) wl 3 [f,d,e] h=ak (xX (xS k) 3 wl k false) Tryz.f3 [f,d,e] h:=by kernel_rfl
theorem Ur (zz:List V) (h:Hp):dv (xX s 3 wl k false) om 5 m0 ac (au (xX s 3 wl k false) (av s.P Tryz.f3) nN) ⟨(f::d::e::g::o::q::r::i::u::I::M::N::O::Q::R::T::v::A::B::D::E::j::F::n::U::J::W::L::G::zz),h⟩ =
 bm (aO j (.lit (.bool true)) n) h fun v13 h14=>
 gd v13 (
 dv (xX s 3 wl k false) om 10 m0 ac (au (xX s 3 wl k false) (av s.P Tryz.f3) nN) ⟨(f::d::e::g::o::q::r::i::u::I::M::N::O::Q::R::T::v::A::B::D::E::j::F::n::v13::(.lit (.bool true))::uu::uu::uu::zz),h14⟩) (
 bp (aX s.P 31 d h14) fun v15 h16=>
 bm (aq s.P .gtr 3 v15 (.lit (.int .i64 250))) h16 fun v17 h18=>
 dv (xX s 3 wl k false) om 10 m0 ac (au (xX s 3 wl k false) (av s.P Tryz.f3) nN) ⟨(f::d::e::g::o::q::r::i::u::I::M::N::O::Q::R::T::v::A::B::D::E::j::F::n::v13::(.lit (.bool false))::d::v15::v17::zz),h18⟩) (
 dv (xX s 3 wl k false) om 8 m0 ac (au (xX s 3 wl k false) (av s.P Tryz.f3) nN) ⟨(f::d::e::g::o::q::r::i::u::I::M::N::O::Q::R::T::v::A::B::D::E::j::F::n::v13::v13::uu::L::G::zz),h14⟩):=kG
theorem Xi (zz:List V) (h:Hp):dv (xX s 3 wl k false) om 10 m0 ac (au (xX s 3 wl k false) (av s.P Tryz.f3) nN) ⟨(f::d::e::g::o::q::r::i::u::I::M::N::O::Q::R::T::v::A::B::D::E::j::F::n::U::J::W::L::G::t0::Y::t1::Z::X::zz),h⟩ =
 bm (aO J (.lit (.bool true)) G) h fun v19 h20=>
 gd v19 (
 dv (xX s 3 wl k false) om 15 m0 ac (au (xX s 3 wl k false) (av s.P Tryz.f3) nN) ⟨(f::d::e::g::o::q::r::i::u::I::M::N::O::Q::R::T::v::A::B::D::E::j::F::n::U::J::W::L::G::v19::(.lit (.bool true))::uu::uu::uu::zz),h20⟩) (
 bp (aX s.P 31 e h20) fun v21 h22=>
 bm (aq s.P .gtr 3 v21 (.lit (.int .i64 250))) h22 fun v23 h24=>
 dv (xX s 3 wl k false) om 15 m0 ac (au (xX s 3 wl k false) (av s.P Tryz.f3) nN) ⟨(f::d::e::g::o::q::r::i::u::I::M::N::O::Q::R::T::v::A::B::D::E::j::F::n::U::J::W::L::G::v19::(.lit (.bool false))::e::v21::v23::zz),h24⟩) (
 dv (xX s 3 wl k false) om 13 m0 ac (au (xX s 3 wl k false) (av s.P Tryz.f3) nN) ⟨(f::d::e::g::o::q::r::i::u::I::M::N::O::Q::R::T::v::A::B::D::E::j::F::n::U::J::W::L::G::v19::v19::uu::Z::X::zz),h20⟩):=kG
theorem VQ (zz:List V) (h:Hp):dv (xX s 3 wl k false) om 15 m0 ac (au (xX s 3 wl k false) (av s.P Tryz.f3) nN) ⟨(f::d::e::g::o::q::r::i::u::I::M::N::O::Q::R::T::v::A::B::D::E::j::F::n::U::J::W::L::G::t0::Y::t1::Z::X::t5::t2::t6::t7::t8::t9::ta::tb::tc::td::te::tf::tg::th::ti::tj::tk::tl::tm::tn::tp::tq::tr::ts::tt::tu::tv::tw::tx::ty::tz::tA::t3::t4::zz),h⟩ =
 bm (aO Y (.lit (.bool true)) X) h fun v25 h26=>
 cnd v25 (
 some (i,h26)) (
 bm (ab s.P 30 g h26) h26 fun v27 h28=>
 bp (cw (xX s 3 wl k false) false true (.fn (.func 17) [] []) [v27,d] h28) fun v29 h30=>
 bm (ao v29 0) h30 fun v31 h32=>
 bm (ao v29 1) h32 fun v33 h34=>
 bp (ar s.P 30 h34) fun v35 h36=>
 bs (aj s.P wl 30 v35 v31 h36) fun h37=>
 bm (ab s.P 30 v35 h37) h37 fun v38 h39=>
 bp (cw (xX s 3 wl k false) false true (.fn (.func 17) [] []) [v38,e] h39) fun v40 h41=>
 bm (ao v40 0) h41 fun v42 h43=>
 bm (ao v40 1) h43 fun v44 h45=>
 bp (ar s.P 30 h45) fun v46 h47=>
 bs (aj s.P wl 30 v46 v42 h47) fun h48=>
 bp (ar s.P 30 h48) fun v49 h50=>
 stO h48.length g (
 bm (ab s.P 30 g h50) h50 fun v51 h52=>
 bp (kf s.P wl 31 31 .nil d h52) fun v53 h54=>
 bp (kf s.P wl 31 31 v53 e h54) fun v55 h56=>
 bp (cw (xX s 3 wl k false) true true (.fn (.func 17) [] []) [v51,v55] h56) fun v57 h58=>
 bm (ao v57 0) h58 fun v59 h60=>
 bm (ao v57 1) h60 fun v61 h62=>
 bs (aj s.P wl 30 v49 v59 h62) fun h63=>
 apt (lgW v49 (lgW v53 (lgW .nil (lgR g ([],[]))))) (
 bp (kf s.P wl 34 34 .nil v33 h63) fun v64 h65=>
 bp (kf s.P wl 34 34 v64 v44 h65) fun v66 h67=>
 bp (cw (xX s 3 wl k false) false true (.fn (.func 18) [] []) [v61,v66] h67) fun v68 h69=>
 bm (ab s.P 30 v46 h69) h69 fun v70 h71=>
 bm (ab s.P 30 v49 h71) h71 fun v72 h73=>
 bp (cw (xX s 3 wl k false) false true (.fn (.func 19) [] []) [v70,v72] h73) fun v74 h75=>
 gd v74 (
 dv (xX s 3 wl k false) Az 5 h69.length ([],[]) (au (xX s 3 wl k false) (av s.P Tryz.f3) wE) ⟨(f::d::e::g::o::q::r::i::u::v35::v33::v46::v44::v49::v61::v68::v::A::B::D::E::j::F::n::U::J::W::L::G::t0::Y::t1::Z::X::v25::t2::v29::v27::d::v29::v31::v33::v40::v38::e::v40::v42::v44::v57::v51::d::v53::e::v55::v57::v59::v61::v61::v33::v64::v44::v66::v68::v70::v72::v74::(.lit (.bool true))::v68::zz),h75⟩) (
 dv (xX s 3 wl k false) Az 5 h69.length ([],[]) (au (xX s 3 wl k false) (av s.P Tryz.f3) wE) ⟨(f::d::e::g::o::q::r::i::u::v35::v33::v46::v44::v49::v61::v68::v::A::B::D::E::j::F::n::U::J::W::L::G::t0::Y::t1::Z::X::v25::t2::v29::v27::d::v29::v31::v33::v40::v38::e::v40::v42::v44::v57::v51::d::v53::e::v55::v57::v59::v61::v61::v33::v64::v44::v66::v68::v70::v72::v74::(.lit (.bool false))::uu::zz),h75⟩) (
 dv (xX s 3 wl k false) Az 5 h69.length ([],[]) (au (xX s 3 wl k false) (av s.P Tryz.f3) wE) ⟨(f::d::e::g::o::q::r::i::u::v35::v33::v46::v44::v49::v61::v68::v::A::B::D::E::j::F::n::U::J::W::L::G::t0::Y::t1::Z::X::v25::t2::v29::v27::d::v29::v31::v33::v40::v38::e::v40::v42::v44::v57::v51::d::v53::e::v55::v57::v59::v61::v61::v33::v64::v44::v66::v68::v70::v72::v74::v74::uu::zz),h75⟩)))):=kG
theorem W3 (h:Hp):dv (xX s 3 wl k false) Az 5 m0 ac (au (xX s 3 wl k false) (av s.P Tryz.f3) wE) ⟨(f::d::e::g::o::q::r::i::u::I::M::N::O::Q::R::T::v::A::B::D::E::j::F::n::U::J::W::L::G::t0::Y::t1::Z::X::t5::t2::t6::t7::t8::t9::ta::tb::tc::td::te::tf::tg::th::ti::tj::tk::tl::tm::tn::tp::tq::tr::ts::tt::tu::tv::tw::tx::ty::tz::tA::t3::t4::tH::tD::tI::tE::tF::tG::tC::tB::[]),h⟩ =
 bm (aO t3 t4 (.lit (.bool false))) h fun v76 h77=>
 gd v76 (
 bm (ab s.P 30 I h77) h77 fun v78 h79=>
 bp (cw (xX s 3 wl k false) true true (.fn (.func 20) [] []) [v78] h79) fun v80 h81=>
 stO m0 g (
 bm (ab s.P 30 g h81) h81 fun v82 h83=>
 bp (cw (xX s 3 wl k false) false true (.fn (.func 20) [] []) [v82] h83) fun v84 h85=>
 bm (aq s.P .eql 4 v80 v84) h85 fun v86 h87=>
 dv (xX s 3 wl k false) Az 12 m0 ac (au (xX s 3 wl k false) (av s.P Tryz.f3) wE) ⟨(f::d::e::g::o::q::r::i::u::I::M::N::O::Q::R::T::v::A::B::D::E::j::F::n::U::J::W::L::G::t0::Y::t1::Z::X::t5::t2::t6::t7::t8::t9::ta::tb::tc::td::te::tf::tg::th::ti::tj::tk::tl::tm::tn::tp::tq::tr::ts::tt::tu::tv::tw::tx::ty::tz::tA::t3::t4::v76::(.lit (.bool true))::v78::v80::v82::v84::v86::tB::[]),h87⟩)) (
 dv (xX s 3 wl k false) Az 12 m0 ac (au (xX s 3 wl k false) (av s.P Tryz.f3) wE) ⟨(f::d::e::g::o::q::r::i::u::I::M::N::O::Q::R::T::v::A::B::D::E::j::F::n::U::J::W::L::G::t0::Y::t1::Z::X::t5::t2::t6::t7::t8::t9::ta::tb::tc::td::te::tf::tg::th::ti::tj::tk::tl::tm::tn::tp::tq::tr::ts::tt::tu::tv::tw::tx::ty::tz::tA::t3::t4::v76::(.lit (.bool false))::uu::uu::uu::uu::uu::tB::[]),h77⟩) (
 dv (xX s 3 wl k false) Az 8 m0 ac (au (xX s 3 wl k false) (av s.P Tryz.f3) wE) ⟨(f::d::e::g::o::q::r::i::u::I::M::N::O::Q::R::T::v::A::B::D::E::j::F::n::U::J::W::L::G::t0::Y::t1::Z::X::t5::t2::t6::t7::t8::t9::ta::tb::tc::td::te::tf::tg::th::ti::tj::tk::tl::tm::tn::tp::tq::tr::ts::tt::tu::tv::tw::tx::ty::tz::tA::t3::t4::v76::v76::uu::tE::tF::tG::tC::tB::[]),h77⟩):=kG
theorem VL (h:Hp):dv (xX s 3 wl k false) Az 12 m0 ac (au (xX s 3 wl k false) (av s.P Tryz.f3) wE) ⟨(f::d::e::g::o::q::r::i::u::I::M::N::O::Q::R::T::v::A::B::D::E::j::F::n::U::J::W::L::G::t0::Y::t1::Z::X::t5::t2::t6::t7::t8::t9::ta::tb::tc::td::te::tf::tg::th::ti::tj::tk::tl::tm::tn::tp::tq::tr::ts::tt::tu::tv::tw::tx::ty::tz::tA::t3::t4::tH::tD::tI::tE::tF::tG::tC::tB::[]),h⟩ =
 bm (aO tD tC (.lit (.bool false))) h fun v88 h89=>
 some (v88,h89):=kG
theorem Ac (cx:Cx) (K:Out→St→Option (V×Hp)) (s:St):au cx K nN .ret s=K .ret s:=by kernel_rfl
theorem Bn (cx:Cx) (K:Out→St→Option (V×Hp)) (s:St):au cx K wE .ret s=K .ret s:=by kernel_rfl
-- names: xFP,xb3,Ur,Xi,VQ,W3,VL,Ac,Bn
end
end Go.Ab
