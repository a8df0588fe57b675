import Derived.Test.YtblpbpnilkfjhaaGreatR6Seat
import Derived.Test.YtblpbpnilkfjhaaGreatR6FacP
import Derived.Test.YtblpbpnilkfjhaaGreatAbLibC
set_option linter.unusedVariables false
set_option linter.unusedSimpArgs false
set_option maxRecDepth 100000
set_option linter.unusedVariables false
namespace Go.Ab
open Go.Proofs
section
variable (s:Sys) (k wl:Nat) (m0:Nat) (ac:List Nat×List Nat) (j f g i d e v A B D E F G x I u X Y Z t0 o q t1 l r t2 J L M N O Q R y T z t3 W t4 U t8 t6 t9 t7 t5 tc tb td ta tg tf th te tk tj tl ti tq tn tr tp tm tw ts tx ty tz tA tB tC tD tE tF tG tH tI tJ tK tL tM tN tO tP tQ tR tS tT tU tV tW tu tX tv tt q1 tZ q2 q0 tY q8 q4 q9 q5 q6 q7 q3 qd qe qf qg qh qi qj qk ql qm qa qb qn qc qo qp qr qq:V)
noncomputable def dz:Code:=al (am Tryz.f10) [1,1,1,1,0,0]
noncomputable def dt:List Fr:=[.seq (al (am Tryz.f10) [1,1,1,1,0,1]),.seq (al (am Tryz.f10) [1,1,1,1,1])]
noncomputable def mi:Code:=al (am Tryz.f10) [1,1,1,1,1,1,1,1,0,0]
noncomputable def li:List Fr:=[.seq (al (am Tryz.f10) [1,1,1,1,1,1,1,1,0,1]),.seq (al (am Tryz.f10) [1,1,1,1,1,1,1,1,1])]
noncomputable def fQ:Code:=al (am Tryz.f10) [1,1,1,1,1,1,1,1,1,1,0]
noncomputable def fD:List Fr:=[.seq (al (am Tryz.f10) [1,1,1,1,1,1,1,1,1,1,1])]
theorem agr (h:Hp):ak (xX s 10 wl k false) Tryz.f10 [j,f,g,i,d,e] h =
 bp (aN j h) fun v1 h2=>
 bp (bL (xX s 10 wl k false) false true (.fn (.func 33) [] []) [] h2) fun v3 h4=>
 bp (bL (xX s 10 wl k false) false true (.fn (.func 21) [] []) [f] h4) fun v5 h6=>
 bp (bL (xX s 10 wl k false) false true (.fn (.func 22) [] []) [g] h6) fun v7 h8=>
 bm (vUn .not v3) h8 fun v9 h10=>
 gd v9 (
 bV (xX s 10 wl k false) dz 5 h8.length ([],[]) (au (xX s 10 wl k false) (ao s.P Tryz.f10) dt) ⟨(j::f::g::i::d::e::v1::uu::uu::uu::uu::uu::(.lit (.bool false))::v3::v5::v7::uu::uu::uu::uu::uu::uu::uu::uu::uu::uu::v3::f::v5::g::v7::v3::v9::(.lit (.bool true))::uu::uu::uu::uu::uu::uu::uu::uu::uu::uu::uu::uu::uu::uu::uu::uu::uu::uu::uu::uu::uu::uu::uu::uu::uu::uu::uu::uu::uu::uu::uu::uu::uu::uu::uu::uu::uu::uu::uu::uu::uu::uu::uu::uu::uu::uu::uu::uu::uu::uu::uu::uu::uu::uu::uu::uu::uu::uu::uu::uu::uu::uu::uu::uu::uu::uu::uu::uu::uu::uu::uu::uu::uu::uu::uu::uu::uu::uu::uu::uu::uu::uu::uu::uu::uu::uu::uu::uu::uu::uu::[]),h10⟩) (
 bm (vUn .not v5) h10 fun v11 h12=>
 bV (xX s 10 wl k false) dz 5 h8.length ([],[]) (au (xX s 10 wl k false) (ao s.P Tryz.f10) dt) ⟨(j::f::g::i::d::e::v1::uu::uu::uu::uu::uu::(.lit (.bool false))::v3::v5::v7::uu::uu::uu::uu::uu::uu::uu::uu::uu::uu::v3::f::v5::g::v7::v3::v9::(.lit (.bool false))::v5::v11::uu::uu::uu::uu::uu::uu::uu::uu::uu::uu::uu::uu::uu::uu::uu::uu::uu::uu::uu::uu::uu::uu::uu::uu::uu::uu::uu::uu::uu::uu::uu::uu::uu::uu::uu::uu::uu::uu::uu::uu::uu::uu::uu::uu::uu::uu::uu::uu::uu::uu::uu::uu::uu::uu::uu::uu::uu::uu::uu::uu::uu::uu::uu::uu::uu::uu::uu::uu::uu::uu::uu::uu::uu::uu::uu::uu::uu::uu::uu::uu::uu::uu::uu::uu::uu::uu::uu::uu::[]),h12⟩) (
 bV (xX s 10 wl k false) dz 4 h8.length ([],[]) (au (xX s 10 wl k false) (ao s.P Tryz.f10) dt) ⟨(j::f::g::i::d::e::v1::uu::uu::uu::uu::uu::(.lit (.bool false))::v3::v5::v7::uu::uu::uu::uu::uu::uu::uu::uu::uu::uu::v3::f::v5::g::v7::v3::v9::v9::uu::uu::uu::uu::uu::uu::uu::uu::uu::uu::uu::uu::uu::uu::uu::uu::uu::uu::uu::uu::uu::uu::uu::uu::uu::uu::uu::uu::uu::uu::uu::uu::uu::uu::uu::uu::uu::uu::uu::uu::uu::uu::uu::uu::uu::uu::uu::uu::uu::uu::uu::uu::uu::uu::uu::uu::uu::uu::uu::uu::uu::uu::uu::uu::uu::uu::uu::uu::uu::uu::uu::uu::uu::uu::uu::uu::uu::uu::uu::uu::uu::uu::uu::uu::uu::uu::uu::uu::uu::uu::[]),h10⟩):=kB
theorem ahK (k wl:Nat) (h:Hp):evF Tryz.prog xM (k+1) wl 10 [j,f,g,i,d,e] h=ak (xX (xS k) 10 wl k false) Tryz.f10 [j,f,g,i,d,e] h:=by kernel_rfl
theorem Sy (zz:List V) (h:Hp):bV (xX s 10 wl k false) dz 5 m0 ac (au (xX s 10 wl k false) (ao s.P Tryz.f10) dt) ⟨(j::f::g::i::d::e::v::A::B::D::E::F::G::x::I::u::X::Y::Z::t0::o::q::t1::l::r::t2::J::L::M::N::O::Q::R::y::T::z::t3::W::t4::U::zz),h⟩ =
 bm (aQ y (.lit (.bool true)) z) h fun v13 h14=>
 gd v13 (
 bV (xX s 10 wl k false) dz 9 m0 ac (au (xX s 10 wl k false) (ao s.P Tryz.f10) dt) ⟨(j::f::g::i::d::e::v::A::B::D::E::F::G::x::I::u::X::Y::Z::t0::o::q::t1::l::r::t2::J::L::M::N::O::Q::R::y::T::z::v13::(.lit (.bool true))::uu::uu::zz),h14⟩) (
 bm (vUn .not u) h14 fun v15 h16=>
 bV (xX s 10 wl k false) dz 9 m0 ac (au (xX s 10 wl k false) (ao s.P Tryz.f10) dt) ⟨(j::f::g::i::d::e::v::A::B::D::E::F::G::x::I::u::X::Y::Z::t0::o::q::t1::l::r::t2::J::L::M::N::O::Q::R::y::T::z::v13::(.lit (.bool false))::u::v15::zz),h16⟩) (
 bV (xX s 10 wl k false) dz 8 m0 ac (au (xX s 10 wl k false) (ao s.P Tryz.f10) dt) ⟨(j::f::g::i::d::e::v::A::B::D::E::F::G::x::I::u::X::Y::Z::t0::o::q::t1::l::r::t2::J::L::M::N::O::Q::R::y::T::z::v13::v13::uu::U::zz),h14⟩):=kG
theorem R6 (zz:List V) (h:Hp):bV (xX s 10 wl k false) dz 9 m0 ac (au (xX s 10 wl k false) (ao s.P Tryz.f10) dt) ⟨(j::f::g::i::d::e::v::A::B::D::E::F::G::x::I::u::X::Y::Z::t0::o::q::t1::l::r::t2::J::L::M::N::O::Q::R::y::T::z::t3::W::t4::U::t8::t6::t9::t7::t5::zz),h⟩ =
 bm (aQ W (.lit (.bool true)) U) h fun v17 h18=>
 gd v17 (
 bV (xX s 10 wl k false) dz 14 m0 ac (au (xX s 10 wl k false) (ao s.P Tryz.f10) dt) ⟨(j::f::g::i::d::e::v::A::B::D::E::F::G::x::I::u::X::Y::Z::t0::o::q::t1::l::r::t2::J::L::M::N::O::Q::R::y::T::z::t3::W::t4::U::v17::(.lit (.bool true))::uu::uu::uu::zz),h18⟩) (
 bp (bc s.P 67 i h18) fun v19 h20=>
 bm (aw s.P .gtr 3 v19 (.lit (.int .i64 900))) h20 fun v21 h22=>
 bV (xX s 10 wl k false) dz 14 m0 ac (au (xX s 10 wl k false) (ao s.P Tryz.f10) dt) ⟨(j::f::g::i::d::e::v::A::B::D::E::F::G::x::I::u::X::Y::Z::t0::o::q::t1::l::r::t2::J::L::M::N::O::Q::R::y::T::z::t3::W::t4::U::v17::(.lit (.bool false))::i::v19::v21::zz),h22⟩) (
 bV (xX s 10 wl k false) dz 12 m0 ac (au (xX s 10 wl k false) (ao s.P Tryz.f10) dt) ⟨(j::f::g::i::d::e::v::A::B::D::E::F::G::x::I::u::X::Y::Z::t0::o::q::t1::l::r::t2::J::L::M::N::O::Q::R::y::T::z::t3::W::t4::U::v17::v17::uu::t7::t5::zz),h18⟩):=kG
theorem Q9 (zz:List V) (h:Hp):bV (xX s 10 wl k false) dz 14 m0 ac (au (xX s 10 wl k false) (ao s.P Tryz.f10) dt) ⟨(j::f::g::i::d::e::v::A::B::D::E::F::G::x::I::u::X::Y::Z::t0::o::q::t1::l::r::t2::J::L::M::N::O::Q::R::y::T::z::t3::W::t4::U::t8::t6::t9::t7::t5::tc::tb::td::ta::zz),h⟩ =
 bm (aQ t6 (.lit (.bool true)) t5) h fun v23 h24=>
 gd v23 (
 bV (xX s 10 wl k false) dz 18 m0 ac (au (xX s 10 wl k false) (ao s.P Tryz.f10) dt) ⟨(j::f::g::i::d::e::v::A::B::D::E::F::G::x::I::u::X::Y::Z::t0::o::q::t1::l::r::t2::J::L::M::N::O::Q::R::y::T::z::t3::W::t4::U::t8::t6::t9::t7::t5::v23::(.lit (.bool true))::uu::uu::zz),h24⟩) (
 bm (aw s.P .lss 3 d (.lit (.int .i64 0))) h24 fun v25 h26=>
 bV (xX s 10 wl k false) dz 18 m0 ac (au (xX s 10 wl k false) (ao s.P Tryz.f10) dt) ⟨(j::f::g::i::d::e::v::A::B::D::E::F::G::x::I::u::X::Y::Z::t0::o::q::t1::l::r::t2::J::L::M::N::O::Q::R::y::T::z::t3::W::t4::U::t8::t6::t9::t7::t5::v23::(.lit (.bool false))::d::v25::zz),h26⟩) (
 bV (xX s 10 wl k false) dz 17 m0 ac (au (xX s 10 wl k false) (ao s.P Tryz.f10) dt) ⟨(j::f::g::i::d::e::v::A::B::D::E::F::G::x::I::u::X::Y::Z::t0::o::q::t1::l::r::t2::J::L::M::N::O::Q::R::y::T::z::t3::W::t4::U::t8::t6::t9::t7::t5::v23::v23::uu::ta::zz),h24⟩):=kG
theorem Q8 (zz:List V) (h:Hp):bV (xX s 10 wl k false) dz 18 m0 ac (au (xX s 10 wl k false) (ao s.P Tryz.f10) dt) ⟨(j::f::g::i::d::e::v::A::B::D::E::F::G::x::I::u::X::Y::Z::t0::o::q::t1::l::r::t2::J::L::M::N::O::Q::R::y::T::z::t3::W::t4::U::t8::t6::t9::t7::t5::tc::tb::td::ta::tg::tf::th::te::zz),h⟩ =
 bm (aQ tb (.lit (.bool true)) ta) h fun v27 h28=>
 gd v27 (
 bV (xX s 10 wl k false) dz 22 m0 ac (au (xX s 10 wl k false) (ao s.P Tryz.f10) dt) ⟨(j::f::g::i::d::e::v::A::B::D::E::F::G::x::I::u::X::Y::Z::t0::o::q::t1::l::r::t2::J::L::M::N::O::Q::R::y::T::z::t3::W::t4::U::t8::t6::t9::t7::t5::tc::tb::td::ta::v27::(.lit (.bool true))::uu::uu::zz),h28⟩) (
 bm (aw s.P .gtr 3 d (.lit (.int .i64 100))) h28 fun v29 h30=>
 bV (xX s 10 wl k false) dz 22 m0 ac (au (xX s 10 wl k false) (ao s.P Tryz.f10) dt) ⟨(j::f::g::i::d::e::v::A::B::D::E::F::G::x::I::u::X::Y::Z::t0::o::q::t1::l::r::t2::J::L::M::N::O::Q::R::y::T::z::t3::W::t4::U::t8::t6::t9::t7::t5::tc::tb::td::ta::v27::(.lit (.bool false))::d::v29::zz),h30⟩) (
 bV (xX s 10 wl k false) dz 21 m0 ac (au (xX s 10 wl k false) (ao s.P Tryz.f10) dt) ⟨(j::f::g::i::d::e::v::A::B::D::E::F::G::x::I::u::X::Y::Z::t0::o::q::t1::l::r::t2::J::L::M::N::O::Q::R::y::T::z::t3::W::t4::U::t8::t6::t9::t7::t5::tc::tb::td::ta::v27::v27::uu::te::zz),h28⟩):=kG
theorem RX (zz:List V) (h:Hp):bV (xX s 10 wl k false) dz 22 m0 ac (au (xX s 10 wl k false) (ao s.P Tryz.f10) dt) ⟨(j::f::g::i::d::e::v::A::B::D::E::F::G::x::I::u::X::Y::Z::t0::o::q::t1::l::r::t2::J::L::M::N::O::Q::R::y::T::z::t3::W::t4::U::t8::t6::t9::t7::t5::tc::tb::td::ta::tg::tf::th::te::tk::tj::tl::ti::zz),h⟩ =
 bm (aQ tf (.lit (.bool true)) te) h fun v31 h32=>
 gd v31 (
 bV (xX s 10 wl k false) dz 26 m0 ac (au (xX s 10 wl k false) (ao s.P Tryz.f10) dt) ⟨(j::f::g::i::d::e::v::A::B::D::E::F::G::x::I::u::X::Y::Z::t0::o::q::t1::l::r::t2::J::L::M::N::O::Q::R::y::T::z::t3::W::t4::U::t8::t6::t9::t7::t5::tc::tb::td::ta::tg::tf::th::te::v31::(.lit (.bool true))::uu::uu::zz),h32⟩) (
 bm (aw s.P .lss 3 e (.lit (.int .i64 0))) h32 fun v33 h34=>
 bV (xX s 10 wl k false) dz 26 m0 ac (au (xX s 10 wl k false) (ao s.P Tryz.f10) dt) ⟨(j::f::g::i::d::e::v::A::B::D::E::F::G::x::I::u::X::Y::Z::t0::o::q::t1::l::r::t2::J::L::M::N::O::Q::R::y::T::z::t3::W::t4::U::t8::t6::t9::t7::t5::tc::tb::td::ta::tg::tf::th::te::v31::(.lit (.bool false))::e::v33::zz),h34⟩) (
 bV (xX s 10 wl k false) dz 25 m0 ac (au (xX s 10 wl k false) (ao s.P Tryz.f10) dt) ⟨(j::f::g::i::d::e::v::A::B::D::E::F::G::x::I::u::X::Y::Z::t0::o::q::t1::l::r::t2::J::L::M::N::O::Q::R::y::T::z::t3::W::t4::U::t8::t6::t9::t7::t5::tc::tb::td::ta::tg::tf::th::te::v31::v31::uu::ti::zz),h32⟩):=kG
theorem SY (zz:List V) (h:Hp):bV (xX s 10 wl k false) dz 26 m0 ac (au (xX s 10 wl k false) (ao s.P Tryz.f10) dt) ⟨(j::f::g::i::d::e::v::A::B::D::E::F::G::x::I::u::X::Y::Z::t0::o::q::t1::l::r::t2::J::L::M::N::O::Q::R::y::T::z::t3::W::t4::U::t8::t6::t9::t7::t5::tc::tb::td::ta::tg::tf::th::te::tk::tj::tl::ti::tq::tn::tr::tp::tm::zz),h⟩ =
 bm (aQ tj (.lit (.bool true)) ti) h fun v35 h36=>
 gd v35 (
 bV (xX s 10 wl k false) dz 31 m0 ac (au (xX s 10 wl k false) (ao s.P Tryz.f10) dt) ⟨(j::f::g::i::d::e::v::A::B::D::E::F::G::x::I::u::X::Y::Z::t0::o::q::t1::l::r::t2::J::L::M::N::O::Q::R::y::T::z::t3::W::t4::U::t8::t6::t9::t7::t5::tc::tb::td::ta::tg::tf::th::te::tk::tj::tl::ti::v35::(.lit (.bool true))::uu::uu::uu::zz),h36⟩) (
 bm (aw s.P .gtr 3 e d) h36 fun v37 h38=>
 bV (xX s 10 wl k false) dz 31 m0 ac (au (xX s 10 wl k false) (ao s.P Tryz.f10) dt) ⟨(j::f::g::i::d::e::v::A::B::D::E::F::G::x::I::u::X::Y::Z::t0::o::q::t1::l::r::t2::J::L::M::N::O::Q::R::y::T::z::t3::W::t4::U::t8::t6::t9::t7::t5::tc::tb::td::ta::tg::tf::th::te::tk::tj::tl::ti::v35::(.lit (.bool false))::e::d::v37::zz),h38⟩) (
 bV (xX s 10 wl k false) dz 29 m0 ac (au (xX s 10 wl k false) (ao s.P Tryz.f10) dt) ⟨(j::f::g::i::d::e::v::A::B::D::E::F::G::x::I::u::X::Y::Z::t0::o::q::t1::l::r::t2::J::L::M::N::O::Q::R::y::T::z::t3::W::t4::U::t8::t6::t9::t7::t5::tc::tb::td::ta::tg::tf::th::te::tk::tj::tl::ti::v35::v35::uu::tp::tm::zz),h36⟩):=kG
theorem SO (zz:List V) (h:Hp):bV (xX s 10 wl k false) dz 31 m0 ac (au (xX s 10 wl k false) (ao s.P Tryz.f10) dt) ⟨(j::f::g::i::d::e::v::A::B::D::E::F::G::x::I::u::X::Y::Z::t0::o::q::t1::l::r::t2::J::L::M::N::O::Q::R::y::T::z::t3::W::t4::U::t8::t6::t9::t7::t5::tc::tb::td::ta::tg::tf::th::te::tk::tj::tl::ti::tq::tn::tr::tp::tm::tw::ts::tx::ty::tz::tA::tB::tC::tD::tE::tF::tG::tH::tI::tJ::tK::tL::tM::tN::tO::tP::tQ::tR::tS::tT::tU::tV::tW::tu::tX::tv::tt::zz),h⟩ =
 bm (aQ tn (.lit (.bool true)) tm) h fun v39 h40=>
 cnd v39 (
 some (x,h40)) (
 bm (ab s.P 23 v h40) h40 fun v41 h42=>
 bp (bL (xX s 10 wl k false) false true (.fn (.func 34) [] []) [v41,f,g,i] h42) fun v43 h44=>
 bm (aq v43 0) h44 fun v45 h46=>
 bm (aq v43 1) h46 fun v47 h48=>
 bm (aq v43 2) h48 fun v49 h50=>
 bp (av s.P 30 h50) fun v51 h52=>
 bs (ai s.P wl 30 v51 v45 h52) fun h53=>
 bm (ab s.P 30 v51 h53) h53 fun v54 h55=>
 bp (bL (xX s 10 wl k false) false true (.fn (.func 36) [] []) [v54,d] h55) fun v56 h57=>
 bm (aq v56 0) h57 fun v58 h59=>
 bm (aq v56 1) h59 fun v60 h61=>
 bm (aq v56 2) h61 fun v62 h63=>
 bp (av s.P 30 h63) fun v64 h65=>
 bs (ai s.P wl 30 v64 v58 h65) fun h66=>
 bm (ab s.P 30 v51 h66) h66 fun v67 h68=>
 bp (bL (xX s 10 wl k false) false true (.fn (.func 36) [] []) [v67,e] h68) fun v69 h70=>
 bm (aq v69 0) h70 fun v71 h72=>
 bm (aq v69 1) h72 fun v73 h74=>
 bm (aq v69 2) h74 fun v75 h76=>
 bp (av s.P 30 h76) fun v77 h78=>
 bs (ai s.P wl 30 v77 v71 h78) fun h79=>
 bm (aw s.P .gtr 3 v62 d) h79 fun v80 h81=>
 gd v80 (
 bV (xX s 10 wl k false) mi 7 h79.length ([],[]) (au (xX s 10 wl k false) (ao s.P Tryz.f10) li) ⟨(j::f::g::i::d::e::v::A::B::D::E::F::G::x::I::u::v51::v47::v49::v64::v60::v62::v77::v73::v75::t2::J::L::M::N::O::Q::R::y::T::z::t3::W::t4::U::t8::t6::t9::t7::t5::tc::tb::td::ta::tg::tf::th::te::tk::tj::tl::ti::tq::tn::tr::tp::tm::v39::ts::v43::v41::f::g::i::v43::v45::v47::v49::v56::v54::d::v56::v58::v60::v62::v69::v67::e::v69::v71::v73::v75::v62::d::v80::(.lit (.bool true))::uu::uu::uu::zz),h81⟩) (
 bm (aw s.P .gtr 3 v75 e) h81 fun v82 h83=>
 bV (xX s 10 wl k false) mi 7 h79.length ([],[]) (au (xX s 10 wl k false) (ao s.P Tryz.f10) li) ⟨(j::f::g::i::d::e::v::A::B::D::E::F::G::x::I::u::v51::v47::v49::v64::v60::v62::v77::v73::v75::t2::J::L::M::N::O::Q::R::y::T::z::t3::W::t4::U::t8::t6::t9::t7::t5::tc::tb::td::ta::tg::tf::th::te::tk::tj::tl::ti::tq::tn::tr::tp::tm::v39::ts::v43::v41::f::g::i::v43::v45::v47::v49::v56::v54::d::v56::v58::v60::v62::v69::v67::e::v69::v71::v73::v75::v62::d::v80::(.lit (.bool false))::v75::e::v82::zz),h83⟩) (
 bV (xX s 10 wl k false) mi 5 h79.length ([],[]) (au (xX s 10 wl k false) (ao s.P Tryz.f10) li) ⟨(j::f::g::i::d::e::v::A::B::D::E::F::G::x::I::u::v51::v47::v49::v64::v60::v62::v77::v73::v75::t2::J::L::M::N::O::Q::R::y::T::z::t3::W::t4::U::t8::t6::t9::t7::t5::tc::tb::td::ta::tg::tf::th::te::tk::tj::tl::ti::tq::tn::tr::tp::tm::v39::ts::v43::v41::f::g::i::v43::v45::v47::v49::v56::v54::d::v56::v58::v60::v62::v69::v67::e::v69::v71::v73::v75::v62::d::v80::v80::uu::tv::tt::zz),h81⟩)):=kG
theorem SN (zz:List V) (h:Hp):bV (xX s 10 wl k false) mi 7 m0 ac (au (xX s 10 wl k false) (ao s.P Tryz.f10) li) ⟨(j::f::g::i::d::e::v::A::B::D::E::F::G::x::I::u::X::Y::Z::t0::o::q::t1::l::r::t2::J::L::M::N::O::Q::R::y::T::z::t3::W::t4::U::t8::t6::t9::t7::t5::tc::tb::td::ta::tg::tf::th::te::tk::tj::tl::ti::tq::tn::tr::tp::tm::tw::ts::tx::ty::tz::tA::tB::tC::tD::tE::tF::tG::tH::tI::tJ::tK::tL::tM::tN::tO::tP::tQ::tR::tS::tT::tU::tV::tW::tu::tX::tv::tt::q1::tZ::q2::q0::tY::zz),h⟩ =
 bm (aQ tu (.lit (.bool true)) tt) h fun v84 h85=>
 gd v84 (
 bV (xX s 10 wl k false) mi 12 m0 ac (au (xX s 10 wl k false) (ao s.P Tryz.f10) li) ⟨(j::f::g::i::d::e::v::A::B::D::E::F::G::x::I::u::X::Y::Z::t0::o::q::t1::l::r::t2::J::L::M::N::O::Q::R::y::T::z::t3::W::t4::U::t8::t6::t9::t7::t5::tc::tb::td::ta::tg::tf::th::te::tk::tj::tl::ti::tq::tn::tr::tp::tm::tw::ts::tx::ty::tz::tA::tB::tC::tD::tE::tF::tG::tH::tI::tJ::tK::tL::tM::tN::tO::tP::tQ::tR::tS::tT::tU::tV::tW::tu::tX::tv::tt::v84::(.lit (.bool true))::uu::uu::uu::zz),h85⟩) (
 bm (aw s.P .gtr 3 r q) h85 fun v86 h87=>
 bV (xX s 10 wl k false) mi 12 m0 ac (au (xX s 10 wl k false) (ao s.P Tryz.f10) li) ⟨(j::f::g::i::d::e::v::A::B::D::E::F::G::x::I::u::X::Y::Z::t0::o::q::t1::l::r::t2::J::L::M::N::O::Q::R::y::T::z::t3::W::t4::U::t8::t6::t9::t7::t5::tc::tb::td::ta::tg::tf::th::te::tk::tj::tl::ti::tq::tn::tr::tp::tm::tw::ts::tx::ty::tz::tA::tB::tC::tD::tE::tF::tG::tH::tI::tJ::tK::tL::tM::tN::tO::tP::tQ::tR::tS::tT::tU::tV::tW::tu::tX::tv::tt::v84::(.lit (.bool false))::r::q::v86::zz),h87⟩) (
 bV (xX s 10 wl k false) mi 10 m0 ac (au (xX s 10 wl k false) (ao s.P Tryz.f10) li) ⟨(j::f::g::i::d::e::v::A::B::D::E::F::G::x::I::u::X::Y::Z::t0::o::q::t1::l::r::t2::J::L::M::N::O::Q::R::y::T::z::t3::W::t4::U::t8::t6::t9::t7::t5::tc::tb::td::ta::tg::tf::th::te::tk::tj::tl::ti::tq::tn::tr::tp::tm::tw::ts::tx::ty::tz::tA::tB::tC::tD::tE::tF::tG::tH::tI::tJ::tK::tL::tM::tN::tO::tP::tQ::tR::tS::tT::tU::tV::tW::tu::tX::tv::tt::v84::v84::uu::q0::tY::zz),h85⟩):=kG
theorem SM (zz:List V) (h:Hp):bV (xX s 10 wl k false) mi 12 m0 ac (au (xX s 10 wl k false) (ao s.P Tryz.f10) li) ⟨(j::f::g::i::d::e::v::A::B::D::E::F::G::x::I::u::X::Y::Z::t0::o::q::t1::l::r::t2::J::L::M::N::O::Q::R::y::T::z::t3::W::t4::U::t8::t6::t9::t7::t5::tc::tb::td::ta::tg::tf::th::te::tk::tj::tl::ti::tq::tn::tr::tp::tm::tw::ts::tx::ty::tz::tA::tB::tC::tD::tE::tF::tG::tH::tI::tJ::tK::tL::tM::tN::tO::tP::tQ::tR::tS::tT::tU::tV::tW::tu::tX::tv::tt::q1::tZ::q2::q0::tY::q8::q4::q9::q5::q6::q7::q3::zz),h⟩ =
 bm (aQ tZ (.lit (.bool true)) tY) h fun v88 h89=>
 gd v88 (
 bV (xX s 10 wl k false) mi 19 m0 ac (au (xX s 10 wl k false) (ao s.P Tryz.f10) li) ⟨(j::f::g::i::d::e::v::A::B::D::E::F::G::x::I::u::X::Y::Z::t0::o::q::t1::l::r::t2::J::L::M::N::O::Q::R::y::T::z::t3::W::t4::U::t8::t6::t9::t7::t5::tc::tb::td::ta::tg::tf::th::te::tk::tj::tl::ti::tq::tn::tr::tp::tm::tw::ts::tx::ty::tz::tA::tB::tC::tD::tE::tF::tG::tH::tI::tJ::tK::tL::tM::tN::tO::tP::tQ::tR::tS::tT::tU::tV::tW::tu::tX::tv::tt::q1::tZ::q2::q0::tY::v88::(.lit (.bool true))::uu::uu::uu::uu::uu::zz),h89⟩) (
 bp (bc s.P 34 l h89) fun v90 h91=>
 bp (bc s.P 34 o h91) fun v92 h93=>
 bm (aw s.P .gtr 3 v90 v92) h93 fun v94 h95=>
 bV (xX s 10 wl k false) mi 19 m0 ac (au (xX s 10 wl k false) (ao s.P Tryz.f10) li) ⟨(j::f::g::i::d::e::v::A::B::D::E::F::G::x::I::u::X::Y::Z::t0::o::q::t1::l::r::t2::J::L::M::N::O::Q::R::y::T::z::t3::W::t4::U::t8::t6::t9::t7::t5::tc::tb::td::ta::tg::tf::th::te::tk::tj::tl::ti::tq::tn::tr::tp::tm::tw::ts::tx::ty::tz::tA::tB::tC::tD::tE::tF::tG::tH::tI::tJ::tK::tL::tM::tN::tO::tP::tQ::tR::tS::tT::tU::tV::tW::tu::tX::tv::tt::q1::tZ::q2::q0::tY::v88::(.lit (.bool false))::l::v90::o::v92::v94::zz),h95⟩) (
 bV (xX s 10 wl k false) mi 15 m0 ac (au (xX s 10 wl k false) (ao s.P Tryz.f10) li) ⟨(j::f::g::i::d::e::v::A::B::D::E::F::G::x::I::u::X::Y::Z::t0::o::q::t1::l::r::t2::J::L::M::N::O::Q::R::y::T::z::t3::W::t4::U::t8::t6::t9::t7::t5::tc::tb::td::ta::tg::tf::th::te::tk::tj::tl::ti::tq::tn::tr::tp::tm::tw::ts::tx::ty::tz::tA::tB::tC::tD::tE::tF::tG::tH::tI::tJ::tK::tL::tM::tN::tO::tP::tQ::tR::tS::tT::tU::tV::tW::tu::tX::tv::tt::q1::tZ::q2::q0::tY::v88::v88::uu::q5::q6::q7::q3::zz),h89⟩):=kG
theorem SQ (h:Hp):bV (xX s 10 wl k false) mi 19 m0 ac (au (xX s 10 wl k false) (ao s.P Tryz.f10) li) ⟨(j::f::g::i::d::e::v::A::B::D::E::F::G::x::I::u::X::Y::Z::t0::o::q::t1::l::r::t2::J::L::M::N::O::Q::R::y::T::z::t3::W::t4::U::t8::t6::t9::t7::t5::tc::tb::td::ta::tg::tf::th::te::tk::tj::tl::ti::tq::tn::tr::tp::tm::tw::ts::tx::ty::tz::tA::tB::tC::tD::tE::tF::tG::tH::tI::tJ::tK::tL::tM::tN::tO::tP::tQ::tR::tS::tT::tU::tV::tW::tu::tX::tv::tt::q1::tZ::q2::q0::tY::q8::q4::q9::q5::q6::q7::q3::qd::qe::qf::qg::qh::qi::qj::qk::ql::qm::qa::qb::qn::qc::qo::qp::qr::qq::[]),h⟩ =
 bm (aQ q4 (.lit (.bool true)) q3) h fun v96 h97=>
 cnd v96 (
 some ((.lit (.bool false)),h97)) (
 bp (bc s.P 34 l h97) fun v98 h99=>
 bp (bR s.P wl false 34 o none (some v98) none h99) fun v100 h101=>
 bp (bL (xX s 10 wl k false) false true (.fn (.func 18) [] []) [v100,l] h101) fun v102 h103=>
 gd v102 (
 bm (aw s.P .eql 3 r e) h103 fun v104 h105=>
 bV (xX s 10 wl k false) fQ 6 h103.length ([],[]) (au (xX s 10 wl k false) (ao s.P Tryz.f10) fD) ⟨(j::f::g::i::d::e::v::A::B::D::E::F::G::x::I::u::X::Y::Z::t0::o::q::t1::l::r::v102::J::L::M::N::O::Q::R::y::T::z::t3::W::t4::U::t8::t6::t9::t7::t5::tc::tb::td::ta::tg::tf::th::te::tk::tj::tl::ti::tq::tn::tr::tp::tm::tw::ts::tx::ty::tz::tA::tB::tC::tD::tE::tF::tG::tH::tI::tJ::tK::tL::tM::tN::tO::tP::tQ::tR::tS::tT::tU::tV::tW::tu::tX::tv::tt::q1::tZ::q2::q0::tY::q8::q4::q9::q5::q6::q7::q3::v96::o::l::v98::v100::l::v102::v102::(.lit (.bool true))::r::e::v104::v104::qc::qo::qp::qr::qq::[]),h105⟩) (
 bV (xX s 10 wl k false) fQ 10 h103.length ([],[]) (au (xX s 10 wl k false) (ao s.P Tryz.f10) fD) ⟨(j::f::g::i::d::e::v::A::B::D::E::F::G::x::I::u::X::Y::Z::t0::o::q::t1::l::r::v102::J::L::M::N::O::Q::R::y::T::z::t3::W::t4::U::t8::t6::t9::t7::t5::tc::tb::td::ta::tg::tf::th::te::tk::tj::tl::ti::tq::tn::tr::tp::tm::tw::ts::tx::ty::tz::tA::tB::tC::tD::tE::tF::tG::tH::tI::tJ::tK::tL::tM::tN::tO::tP::tQ::tR::tS::tT::tU::tV::tW::tu::tX::tv::tt::q1::tZ::q2::q0::tY::q8::q4::q9::q5::q6::q7::q3::v96::o::l::v98::v100::l::v102::v102::(.lit (.bool false))::uu::uu::uu::uu::uu::uu::uu::uu::qq::[]),h103⟩) (
 bV (xX s 10 wl k false) fQ 3 h103.length ([],[]) (au (xX s 10 wl k false) (ao s.P Tryz.f10) fD) ⟨(j::f::g::i::d::e::v::A::B::D::E::F::G::x::I::u::X::Y::Z::t0::o::q::t1::l::r::v102::J::L::M::N::O::Q::R::y::T::z::t3::W::t4::U::t8::t6::t9::t7::t5::tc::tb::td::ta::tg::tf::th::te::tk::tj::tl::ti::tq::tn::tr::tp::tm::tw::ts::tx::ty::tz::tA::tB::tC::tD::tE::tF::tG::tH::tI::tJ::tK::tL::tM::tN::tO::tP::tQ::tR::tS::tT::tU::tV::tW::tu::tX::tv::tt::q1::tZ::q2::q0::tY::q8::q4::q9::q5::q6::q7::q3::v96::o::l::v98::v100::l::v102::v102::v102::uu::qa::qb::qn::qc::qo::qp::qr::qq::[]),h103⟩)):=kG
theorem Ld (zz:List V) (h:Hp):bV (xX s 10 wl k false) fQ 6 m0 ac (au (xX s 10 wl k false) (ao s.P Tryz.f10) fD) ⟨(j::f::g::i::d::e::v::A::B::D::E::F::G::x::I::u::X::Y::Z::t0::o::q::t1::l::r::t2::J::L::M::N::O::Q::R::y::T::z::t3::W::t4::U::t8::t6::t9::t7::t5::tc::tb::td::ta::tg::tf::th::te::tk::tj::tl::ti::tq::tn::tr::tp::tm::tw::ts::tx::ty::tz::tA::tB::tC::tD::tE::tF::tG::tH::tI::tJ::tK::tL::tM::tN::tO::tP::tQ::tR::tS::tT::tU::tV::tW::tu::tX::tv::tt::q1::tZ::q2::q0::tY::q8::q4::q9::q5::q6::q7::q3::qd::qe::qf::qg::qh::qi::qj::qk::ql::qm::qa::qb::qn::qc::qo::qp::zz),h⟩ =
 gd qn (
 bV (xX s 10 wl k false) fQ 9 m0 ac (au (xX s 10 wl k false) (ao s.P Tryz.f10) fD) ⟨(j::f::g::i::d::e::v::A::B::D::E::F::G::x::I::u::X::Y::Z::t0::o::q::t1::l::r::t2::J::L::M::N::O::Q::R::y::T::z::t3::W::t4::U::t8::t6::t9::t7::t5::tc::tb::td::ta::tg::tf::th::te::tk::tj::tl::ti::tq::tn::tr::tp::tm::tw::ts::tx::ty::tz::tA::tB::tC::tD::tE::tF::tG::tH::tI::tJ::tK::tL::tM::tN::tO::tP::tQ::tR::tS::tT::tU::tV::tW::tu::tX::tv::tt::q1::tZ::q2::q0::tY::q8::q4::q9::q5::q6::q7::q3::qd::qe::qf::qg::qh::qi::qj::qk::ql::qm::qa::qb::(.lit (.bool true))::uu::uu::uu::zz),h⟩) (
 bm (aw s.P .eql 3 r q) h fun v106 h107=>
 bV (xX s 10 wl k false) fQ 9 m0 ac (au (xX s 10 wl k false) (ao s.P Tryz.f10) fD) ⟨(j::f::g::i::d::e::v::A::B::D::E::F::G::x::I::u::X::Y::Z::t0::o::q::t1::l::r::t2::J::L::M::N::O::Q::R::y::T::z::t3::W::t4::U::t8::t6::t9::t7::t5::tc::tb::td::ta::tg::tf::th::te::tk::tj::tl::ti::tq::tn::tr::tp::tm::tw::ts::tx::ty::tz::tA::tB::tC::tD::tE::tF::tG::tH::tI::tJ::tK::tL::tM::tN::tO::tP::tQ::tR::tS::tT::tU::tV::tW::tu::tX::tv::tt::q1::tZ::q2::q0::tY::q8::q4::q9::q5::q6::q7::q3::qd::qe::qf::qg::qh::qi::qj::qk::ql::qm::qa::qb::(.lit (.bool false))::r::q::v106::zz),h107⟩) (
 bV (xX s 10 wl k false) fQ 7 m0 ac (au (xX s 10 wl k false) (ao s.P Tryz.f10) fD) ⟨(j::f::g::i::d::e::v::A::B::D::E::F::G::x::I::u::X::Y::Z::t0::o::q::t1::l::r::t2::J::L::M::N::O::Q::R::y::T::z::t3::W::t4::U::t8::t6::t9::t7::t5::tc::tb::td::ta::tg::tf::th::te::tk::tj::tl::ti::tq::tn::tr::tp::tm::tw::ts::tx::ty::tz::tA::tB::tC::tD::tE::tF::tG::tH::tI::tJ::tK::tL::tM::tN::tO::tP::tQ::tR::tS::tT::tU::tV::tW::tu::tX::tv::tt::q1::tZ::q2::q0::tY::q8::q4::q9::q5::q6::q7::q3::qd::qe::qf::qg::qh::qi::qj::qk::ql::qm::qa::qb::qn::uu::qo::qp::zz),h⟩):=kG
theorem J2 (h:Hp):bV (xX s 10 wl k false) fQ 10 m0 ac (au (xX s 10 wl k false) (ao s.P Tryz.f10) fD) ⟨(j::f::g::i::d::e::v::A::B::D::E::F::G::x::I::u::X::Y::Z::t0::o::q::t1::l::r::t2::J::L::M::N::O::Q::R::y::T::z::t3::W::t4::U::t8::t6::t9::t7::t5::tc::tb::td::ta::tg::tf::th::te::tk::tj::tl::ti::tq::tn::tr::tp::tm::tw::ts::tx::ty::tz::tA::tB::tC::tD::tE::tF::tG::tH::tI::tJ::tK::tL::tM::tN::tO::tP::tQ::tR::tS::tT::tU::tV::tW::tu::tX::tv::tt::q1::tZ::q2::q0::tY::q8::q4::q9::q5::q6::q7::q3::qd::qe::qf::qg::qh::qi::qj::qk::ql::qm::qa::qb::qn::qc::qo::qp::qr::qq::[]),h⟩ =
 bm (aQ ql qr (.lit (.bool false))) h fun v108 h109=>
 some (v108,h109):=kG
theorem MG (h:Hp):bV (xX s 10 wl k false) fQ 9 m0 ac (au (xX s 10 wl k false) (ao s.P Tryz.f10) fD) ⟨(j::f::g::i::d::e::v::A::B::D::E::F::G::x::I::u::X::Y::Z::t0::o::q::t1::l::r::t2::J::L::M::N::O::Q::R::y::T::z::t3::W::t4::U::t8::t6::t9::t7::t5::tc::tb::td::ta::tg::tf::th::te::tk::tj::tl::ti::tq::tn::tr::tp::tm::tw::ts::tx::ty::tz::tA::tB::tC::tD::tE::tF::tG::tH::tI::tJ::tK::tL::tM::tN::tO::tP::tQ::tR::tS::tT::tU::tV::tW::tu::tX::tv::tt::q1::tZ::q2::q0::tY::q8::q4::q9::q5::q6::q7::q3::qd::qe::qf::qg::qh::qi::qj::qk::ql::qm::qa::qb::qn::qc::qo::qp::qr::qq::[]),h⟩ =
 gd ql (
 bm (aQ qn (.lit (.bool true)) qp) h fun v110 h111=>
 bV (xX s 10 wl k false) fQ 10 m0 ac (au (xX s 10 wl k false) (ao s.P Tryz.f10) fD) ⟨(j::f::g::i::d::e::v::A::B::D::E::F::G::x::I::u::X::Y::Z::t0::o::q::t1::l::r::t2::J::L::M::N::O::Q::R::y::T::z::t3::W::t4::U::t8::t6::t9::t7::t5::tc::tb::td::ta::tg::tf::th::te::tk::tj::tl::ti::tq::tn::tr::tp::tm::tw::ts::tx::ty::tz::tA::tB::tC::tD::tE::tF::tG::tH::tI::tJ::tK::tL::tM::tN::tO::tP::tQ::tR::tS::tT::tU::tV::tW::tu::tX::tv::tt::q1::tZ::q2::q0::tY::q8::q4::q9::q5::q6::q7::q3::qd::qe::qf::qg::qh::qi::qj::qk::(.lit (.bool true))::qm::qa::qb::qn::qc::qo::qp::v110::qq::[]),h111⟩) (
 bV (xX s 10 wl k false) fQ 10 m0 ac (au (xX s 10 wl k false) (ao s.P Tryz.f10) fD) ⟨(j::f::g::i::d::e::v::A::B::D::E::F::G::x::I::u::X::Y::Z::t0::o::q::t1::l::r::t2::J::L::M::N::O::Q::R::y::T::z::t3::W::t4::U::t8::t6::t9::t7::t5::tc::tb::td::ta::tg::tf::th::te::tk::tj::tl::ti::tq::tn::tr::tp::tm::tw::ts::tx::ty::tz::tA::tB::tC::tD::tE::tF::tG::tH::tI::tJ::tK::tL::tM::tN::tO::tP::tQ::tR::tS::tT::tU::tV::tW::tu::tX::tv::tt::q1::tZ::q2::q0::tY::q8::q4::q9::q5::q6::q7::q3::qd::qe::qf::qg::qh::qi::qj::qk::(.lit (.bool false))::qm::qa::qb::qn::qc::qo::qp::uu::qq::[]),h⟩) (
 bV (xX s 10 wl k false) fQ 10 m0 ac (au (xX s 10 wl k false) (ao s.P Tryz.f10) fD) ⟨(j::f::g::i::d::e::v::A::B::D::E::F::G::x::I::u::X::Y::Z::t0::o::q::t1::l::r::t2::J::L::M::N::O::Q::R::y::T::z::t3::W::t4::U::t8::t6::t9::t7::t5::tc::tb::td::ta::tg::tf::th::te::tk::tj::tl::ti::tq::tn::tr::tp::tm::tw::ts::tx::ty::tz::tA::tB::tC::tD::tE::tF::tG::tH::tI::tJ::tK::tL::tM::tN::tO::tP::tQ::tR::tS::tT::tU::tV::tW::tu::tX::tv::tt::q1::tZ::q2::q0::tY::q8::q4::q9::q5::q6::q7::q3::qd::qe::qf::qg::qh::qi::qj::qk::ql::qm::qa::qb::qn::qc::qo::qp::uu::qq::[]),h⟩):=kG
theorem MJ (zz:List V) (h:Hp):bV (xX s 10 wl k false) fQ 7 m0 ac (au (xX s 10 wl k false) (ao s.P Tryz.f10) fD) ⟨(j::f::g::i::d::e::v::A::B::D::E::F::G::x::I::u::X::Y::Z::t0::o::q::t1::l::r::t2::J::L::M::N::O::Q::R::y::T::z::t3::W::t4::U::t8::t6::t9::t7::t5::tc::tb::td::ta::tg::tf::th::te::tk::tj::tl::ti::tq::tn::tr::tp::tm::tw::ts::tx::ty::tz::tA::tB::tC::tD::tE::tF::tG::tH::tI::tJ::tK::tL::tM::tN::tO::tP::tQ::tR::tS::tT::tU::tV::tW::tu::tX::tv::tt::q1::tZ::q2::q0::tY::q8::q4::q9::q5::q6::q7::q3::qd::qe::qf::qg::qh::qi::qj::qk::ql::qm::qa::qb::qn::qc::qo::qp::zz),h⟩ =
 gd qn (
 bV (xX s 10 wl k false) fQ 9 m0 ac (au (xX s 10 wl k false) (ao s.P Tryz.f10) fD) ⟨(j::f::g::i::d::e::v::A::B::D::E::F::G::x::I::u::X::Y::Z::t0::o::q::t1::l::r::t2::J::L::M::N::O::Q::R::y::T::z::t3::W::t4::U::t8::t6::t9::t7::t5::tc::tb::td::ta::tg::tf::th::te::tk::tj::tl::ti::tq::tn::tr::tp::tm::tw::ts::tx::ty::tz::tA::tB::tC::tD::tE::tF::tG::tH::tI::tJ::tK::tL::tM::tN::tO::tP::tQ::tR::tS::tT::tU::tV::tW::tu::tX::tv::tt::q1::tZ::q2::q0::tY::q8::q4::q9::q5::q6::q7::q3::qd::qe::qf::qg::qh::qi::qj::qk::ql::qm::qa::qb::(.lit (.bool true))::qc::uu::uu::zz),h⟩) (
 bm (aw s.P .eql 3 qc q) h fun v112 h113=>
 bV (xX s 10 wl k false) fQ 9 m0 ac (au (xX s 10 wl k false) (ao s.P Tryz.f10) fD) ⟨(j::f::g::i::d::e::v::A::B::D::E::F::G::x::I::u::X::Y::Z::t0::o::q::t1::l::r::t2::J::L::M::N::O::Q::R::y::T::z::t3::W::t4::U::t8::t6::t9::t7::t5::tc::tb::td::ta::tg::tf::th::te::tk::tj::tl::ti::tq::tn::tr::tp::tm::tw::ts::tx::ty::tz::tA::tB::tC::tD::tE::tF::tG::tH::tI::tJ::tK::tL::tM::tN::tO::tP::tQ::tR::tS::tT::tU::tV::tW::tu::tX::tv::tt::q1::tZ::q2::q0::tY::q8::q4::q9::q5::q6::q7::q3::qd::qe::qf::qg::qh::qi::qj::qk::ql::qm::qa::qb::(.lit (.bool false))::qc::q::v112::zz),h113⟩) (
 bV (xX s 10 wl k false) fQ 8 m0 ac (au (xX s 10 wl k false) (ao s.P Tryz.f10) fD) ⟨(j::f::g::i::d::e::v::A::B::D::E::F::G::x::I::u::X::Y::Z::t0::o::q::t1::l::r::t2::J::L::M::N::O::Q::R::y::T::z::t3::W::t4::U::t8::t6::t9::t7::t5::tc::tb::td::ta::tg::tf::th::te::tk::tj::tl::ti::tq::tn::tr::tp::tm::tw::ts::tx::ty::tz::tA::tB::tC::tD::tE::tF::tG::tH::tI::tJ::tK::tL::tM::tN::tO::tP::tQ::tR::tS::tT::tU::tV::tW::tu::tX::tv::tt::q1::tZ::q2::q0::tY::q8::q4::q9::q5::q6::q7::q3::qd::qe::qf::qg::qh::qi::qj::qk::ql::qm::qa::qb::qn::qc::uu::qp::zz),h⟩):=kG
theorem Jx (zz:List V) (h:Hp):bV (xX s 10 wl k false) fQ 8 m0 ac (au (xX s 10 wl k false) (ao s.P Tryz.f10) fD) ⟨(j::f::g::i::d::e::v::A::B::D::E::F::G::x::I::u::X::Y::Z::t0::o::q::t1::l::r::t2::J::L::M::N::O::Q::R::y::T::z::t3::W::t4::U::t8::t6::t9::t7::t5::tc::tb::td::ta::tg::tf::th::te::tk::tj::tl::ti::tq::tn::tr::tp::tm::tw::ts::tx::ty::tz::tA::tB::tC::tD::tE::tF::tG::tH::tI::tJ::tK::tL::tM::tN::tO::tP::tQ::tR::tS::tT::tU::tV::tW::tu::tX::tv::tt::q1::tZ::q2::q0::tY::q8::q4::q9::q5::q6::q7::q3::qd::qe::qf::qg::qh::qi::qj::qk::ql::qm::qa::qb::qn::qc::qo::qp::zz),h⟩ =
 gd qn (
 bV (xX s 10 wl k false) fQ 9 m0 ac (au (xX s 10 wl k false) (ao s.P Tryz.f10) fD) ⟨(j::f::g::i::d::e::v::A::B::D::E::F::G::x::I::u::X::Y::Z::t0::o::q::t1::l::r::t2::J::L::M::N::O::Q::R::y::T::z::t3::W::t4::U::t8::t6::t9::t7::t5::tc::tb::td::ta::tg::tf::th::te::tk::tj::tl::ti::tq::tn::tr::tp::tm::tw::ts::tx::ty::tz::tA::tB::tC::tD::tE::tF::tG::tH::tI::tJ::tK::tL::tM::tN::tO::tP::tQ::tR::tS::tT::tU::tV::tW::tu::tX::tv::tt::q1::tZ::q2::q0::tY::q8::q4::q9::q5::q6::q7::q3::qd::qe::qf::qg::qh::qi::qj::qk::ql::qm::qa::qb::(.lit (.bool true))::qc::qo::uu::zz),h⟩) (
 bm (aw s.P .eql 3 qc qo) h fun v114 h115=>
 bV (xX s 10 wl k false) fQ 9 m0 ac (au (xX s 10 wl k false) (ao s.P Tryz.f10) fD) ⟨(j::f::g::i::d::e::v::A::B::D::E::F::G::x::I::u::X::Y::Z::t0::o::q::t1::l::r::t2::J::L::M::N::O::Q::R::y::T::z::t3::W::t4::U::t8::t6::t9::t7::t5::tc::tb::td::ta::tg::tf::th::te::tk::tj::tl::ti::tq::tn::tr::tp::tm::tw::ts::tx::ty::tz::tA::tB::tC::tD::tE::tF::tG::tH::tI::tJ::tK::tL::tM::tN::tO::tP::tQ::tR::tS::tT::tU::tV::tW::tu::tX::tv::tt::q1::tZ::q2::q0::tY::q8::q4::q9::q5::q6::q7::q3::qd::qe::qf::qg::qh::qi::qj::qk::ql::qm::qa::qb::(.lit (.bool false))::qc::qo::v114::zz),h115⟩) (
 bV (xX s 10 wl k false) fQ 9 m0 ac (au (xX s 10 wl k false) (ao s.P Tryz.f10) fD) ⟨(j::f::g::i::d::e::v::A::B::D::E::F::G::x::I::u::X::Y::Z::t0::o::q::t1::l::r::t2::J::L::M::N::O::Q::R::y::T::z::t3::W::t4::U::t8::t6::t9::t7::t5::tc::tb::td::ta::tg::tf::th::te::tk::tj::tl::ti::tq::tn::tr::tp::tm::tw::ts::tx::ty::tz::tA::tB::tC::tD::tE::tF::tG::tH::tI::tJ::tK::tL::tM::tN::tO::tP::tQ::tR::tS::tT::tU::tV::tW::tu::tX::tv::tt::q1::tZ::q2::q0::tY::q8::q4::q9::q5::q6::q7::q3::qd::qe::qf::qg::qh::qi::qj::qk::ql::qm::qa::qb::qn::qc::qo::uu::zz),h⟩):=kG
theorem xw (cx:Cx) (K:Out→St→Option (V×Hp)) (s:St):au cx K dt .ret s=K .ret s:=by kernel_rfl
theorem Af (cx:Cx) (K:Out→St→Option (V×Hp)) (s:St):au cx K li .ret s=K .ret s:=by kernel_rfl
theorem Aw (cx:Cx) (K:Out→St→Option (V×Hp)) (s:St):au cx K fD .ret s=K .ret s:=by kernel_rfl
-- names: xFP,agr,Sy,R6,Q9,Q8,RX,SY,SO,SN,SM,SQ,Ld,J2,MG,MJ,Jx,xw,Af,Aw
end
end Go.Ab
