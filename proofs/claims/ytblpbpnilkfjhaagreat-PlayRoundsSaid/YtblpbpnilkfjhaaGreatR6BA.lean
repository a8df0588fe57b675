import Derived.Test.YtblpbpnilkfjhaaGreatR6Seat
import Derived.Test.YtblpbpnilkfjhaaGreatAbLibC
set_option linter.unusedVariables false
set_option linter.unusedSimpArgs false
set_option maxRecDepth 100000
set_option linter.unusedVariables false
namespace Go.Ab
open Go.Proofs
section
variable (s:Sys) (k wl:Nat) (m0:Nat) (ac:List Nat×List Nat) (c e j f o g u v y A z J D E F G B L M N I Q O U T R X W Z Y t0 t3 t4 t2 t5 t1 t6 t7 t8 t9 td tb te tc ta tj tg th tf tm tk tl ti tq tp tr tn tt ts tv tu tz tx ty tw tA tC tD tB tF tE tI tG tH tK tJ tP tM tN tO tL tT tS tU tR tQ:V)
noncomputable def rv:Code:=al (am Tryz.f22) [1,0,1,0,0]
noncomputable def HJ:List Fr:=[.block 0,.seq (al (am Tryz.f22) [1,1])]
noncomputable def Hh:Code:=al (am Tryz.f22) [1,0,1,0,0,0,0]
noncomputable def Cp:List Fr:=[.seq (al (am Tryz.f22) [1,0,1,0,0,0,1]),.seq (al (am Tryz.f22) [1,0,1,0,0,1])]
theorem acz (h:Hp):ak (xX s 22 wl k false) Tryz.f22 [c] h =
 yI s k wl 22 Tryz.f22 rv h.length HJ k ⟨[(V.kill h.length c),(V.kill h.length uu),(.lit (.bool false)),(.lit (.int .i64 0)),.junk,.junk,.junk,.junk,.junk,.junk,.junk,.junk,.junk,.junk,.junk,.junk,.junk,.junk,.junk,.junk,(V.kill h.length uu),(V.kill h.length uu),(V.kill h.length uu)],bW h.length h⟩:=kB
theorem agW (k wl:Nat) (h:Hp):evF Tryz.prog xM (k+1) wl 22 [c] h=ak (xX (xS k) 22 wl k false) Tryz.f22 [c] h:=by kernel_rfl
theorem adW (P:Program) (h:Hp):ao P Tryz.f22 .ret ⟨[c,e,j,f,o,g,u,v,y,A,z,J,D,E,F,G,B,L,M,N,I,Q,O],h⟩=some (j,h):=by kernel_rfl
theorem RP (s:Sys) (K:Out→St→Option (V×Hp)) (k wl:Nat) (rd:Bool) (n n0:Nat) (zz:List V) (h:Hp):itX (xX s 22 wl k rd) rv n0 K (n+1) ⟨(c::e::j::f::o::g::u::v::y::A::z::zz),h⟩ =
 bp (bc s.P 40 c h) fun v1 h2=>
 bm (aw s.P .lss 3 f v1) h2 fun v3 h4=>
 gd v3 (
 bm (aw s.P .leq 3 f (.lit (.int .i64 10))) h4 fun v5 h6=>
 bV (xX s 22 wl k rd) Hh 7 h.length ([],[]) (au (xX s 22 wl k rd) (eO (xX s 22 wl k rd) rv n0 K n) Cp) ⟨(c::e::j::f::f::c::v1::v3::(.lit (.bool true))::f::v5::zz),h6⟩) (
 bV (xX s 22 wl k rd) Hh 7 h.length ([],[]) (au (xX s 22 wl k rd) (eO (xX s 22 wl k rd) rv n0 K n) Cp) ⟨(c::e::j::f::f::c::v1::v3::(.lit (.bool false))::uu::uu::zz),h4⟩) (
 bV (xX s 22 wl k rd) Hh 6 h.length ([],[]) (au (xX s 22 wl k rd) (eO (xX s 22 wl k rd) rv n0 K n) Cp) ⟨(c::e::j::f::f::c::v1::v3::v3::uu::z::zz),h4⟩):=kI
theorem KU (h:Hp):au (xX s 22 wl k false) (ao s.P Tryz.f22) HJ (.exit 0) ⟨[c,e,j,f,o,g,u,v,y,A,z,J,D,E,F,G,B,L,M,N,I,Q,O],h⟩ =
 bp (bc s.P 40 c h) fun v7 h8=>
 bm (aw s.P .leq 3 v7 (.lit (.int .i64 10))) h8 fun v9 h10=>
 some (v9,h10):=kR
theorem LA (s:Sys) (K:Out→St→Option (V×Hp)) (k wl:Nat) (rd:Bool) (n n0:Nat) (m0:Nat) (ac:List Nat×List Nat) (h:Hp):bV (xX s 22 wl k rd) Hh 7 m0 ac (au (xX s 22 wl k rd) (eO (xX s 22 wl k rd) rv n0 K n) Cp) ⟨[c,e,j,f,o,g,u,v,y,A,z,J,D,E,F,G,B,L,M,N,I,Q,O],h⟩ =
 bm (aQ y z (.lit (.bool false))) h fun v11 h12=>
 cnd v11 (
 bm (aj s.P 40 c f h12) h12 fun v13 h14=>
 bm (ab s.P 53 v13 h14) h14 fun v15 h16=>
 bp (bc s.P 53 v15 h16) fun v17 h18=>
 bm (aw s.P .gtr 3 v17 (.lit (.int .i64 60))) h18 fun v19 h20=>
 cnd v19 (
 K .ret ⟨[c,e,(.lit (.bool false)),f,o,g,u,v,y,A,z,v11,D,E,c,f,v13,v15,v17,v19,I,Q,O],h20⟩) (
 bm (aw s.P .add 3 f (.lit (.int .i64 1))) h20 fun v21 h22=>
 itX (xX s 22 wl k rd) rv n0 K n ⟨[(V.kill n0 c),(V.kill n0 e),(V.kill n0 j),(V.kill n0 v21),.junk,.junk,.junk,.junk,.junk,.junk,.junk,.junk,.junk,.junk,.junk,.junk,.junk,.junk,.junk,.junk,(V.kill n0 I),(V.kill n0 Q),(V.kill n0 O)],bW n0 h22⟩)) (
 K (.exit 0) ⟨[(V.kill n0 c),(V.kill n0 e),(V.kill n0 j),(V.kill n0 f),.junk,.junk,.junk,.junk,.junk,.junk,.junk,.junk,.junk,.junk,.junk,.junk,.junk,.junk,.junk,.junk,(V.kill n0 I),(V.kill n0 Q),(V.kill n0 O)],bW n0 h12⟩):=kG
theorem pV (cx:Cx) (K:Out→St→Option (V×Hp)) (s:St):au cx K HJ .ret s=K .ret s:=by kernel_rfl
theorem pI (cx:Cx) (K:Out→St→Option (V×Hp)) (s:St):au cx K Cp .ret s=K .ret s:=by kernel_rfl
-- names: acz,adW,RP,KU,LA,pV,pI
noncomputable def Gn:Code:=al (am Tryz.f18) [1,1,0,1,0,0]
noncomputable def GF:List Fr:=[.block 0,.seq (al (am Tryz.f18) [1,1,1])]
theorem ad1 (h:Hp):ak (xX s 18 wl k false) Tryz.f18 [c,e] h =
 bp (bc s.P 34 c h) fun v1 h2=>
 bp (bc s.P 34 e h2) fun v3 h4=>
 bm (aw s.P .neq 3 v1 v3) h4 fun v5 h6=>
 cnd v5 (
 some ((.lit (.bool false)),h6)) (
 yI s k wl 18 Tryz.f18 Gn h6.length GF k ⟨[(V.kill h6.length c),(V.kill h6.length e),(V.kill h6.length uu),(V.kill h6.length uu),(.lit (.bool false)),(.lit (.int .i64 0)),(V.kill h6.length c),(V.kill h6.length v1),(V.kill h6.length e),(V.kill h6.length v3),(V.kill h6.length v5),.junk,.junk,.junk,.junk,.junk,.junk,.junk,.junk,.junk,.junk,.junk,.junk,.junk,.junk,.junk],bW h6.length h6⟩):=kB
theorem agw (k wl:Nat) (h:Hp):evF Tryz.prog xM (k+1) wl 18 [c,e] h=ak (xX (xS k) 18 wl k false) Tryz.f18 [c,e] h:=by kernel_rfl
theorem ad8 (P:Program) (h:Hp):ao P Tryz.f18 .ret ⟨[c,e,j,f,o,g,u,v,y,A,z,J,D,E,F,G,B,L,M,N,I,Q,O,U,T,R],h⟩=some (o,h):=by kernel_rfl
theorem SU (s:Sys) (K:Out→St→Option (V×Hp)) (k wl:Nat) (rd:Bool) (n n0:Nat) (h:Hp):itX (xX s 18 wl k rd) Gn n0 K (n+1) ⟨[c,e,j,f,o,g,u,v,y,A,z,J,D,E,F,G,B,L,M,N,I,Q,O,U,T,R],h⟩ =
 bp (bc s.P 34 c h) fun v7 h8=>
 bm (aw s.P .lss 3 g v7) h8 fun v9 h10=>
 cnd v9 (
 bm (aj s.P 34 c g h10) h10 fun v11 h12=>
 bm (ab s.P 52 v11 h12) h12 fun v13 h14=>
 bm (aj s.P 34 e g h14) h14 fun v15 h16=>
 bm (ab s.P 52 v15 h16) h16 fun v17 h18=>
 bm (aw s.P .neq 52 v13 v17) h18 fun v19 h20=>
 cnd v19 (
 K .ret ⟨[c,e,j,f,(.lit (.bool false)),g,u,v,y,A,z,g,c,v7,v9,G,B,c,g,v11,v13,e,g,v15,v17,v19],h20⟩) (
 bm (aw s.P .add 3 g (.lit (.int .i64 1))) h20 fun v21 h22=>
 itX (xX s 18 wl k rd) Gn n0 K n ⟨[(V.kill n0 c),(V.kill n0 e),(V.kill n0 j),(V.kill n0 f),(V.kill n0 o),(V.kill n0 v21),(V.kill n0 u),(V.kill n0 v),(V.kill n0 y),(V.kill n0 A),(V.kill n0 z),.junk,.junk,.junk,.junk,.junk,.junk,.junk,.junk,.junk,.junk,.junk,.junk,.junk,.junk,.junk],bW n0 h22⟩)) (
 K (.exit 0) ⟨[(V.kill n0 c),(V.kill n0 e),(V.kill n0 j),(V.kill n0 f),(V.kill n0 o),(V.kill n0 g),(V.kill n0 u),(V.kill n0 v),(V.kill n0 y),(V.kill n0 A),(V.kill n0 z),.junk,.junk,.junk,.junk,.junk,.junk,.junk,.junk,.junk,.junk,.junk,.junk,.junk,.junk,.junk],bW n0 h10⟩):=kI
theorem Lz (h:Hp):au (xX s 18 wl k false) (ao s.P Tryz.f18) GF (.exit 0) ⟨[c,e,j,f,o,g,u,v,y,A,z,J,D,E,F,G,B,L,M,N,I,Q,O,U,T,R],h⟩ =
 some ((.lit (.bool true)),h):=kR
theorem rb (cx:Cx) (K:Out→St→Option (V×Hp)) (s:St):au cx K GF .ret s=K .ret s:=by kernel_rfl
-- names: ad1,ad8,SU,Lz,rb
noncomputable def bF:Code:=al (am Tryz.f33) [1,1,1,1,1,0]
noncomputable def bE:List Fr:=[.seq (al (am Tryz.f33) [1,1,1,1,1,1])]
theorem agv (h:Hp):ak (xX s 33 wl k false) Tryz.f33 [] h =
 bm (a8 s.P 101 [(0,(.lit (.int .i64 1)))]) h fun v1 h2=>
 bp (aA s.P wl 24 1 [(0,v1)] h2) fun v3 h4=>
 bm (a8 s.P 23 [(0,(.lit (.int .i64 1))),(1,(.lit (.int .i64 1))),(2,(.lit (.int .i64 1)))]) h4 fun v5 h6=>
 bp (aA s.P wl 53 1 [(0,(.lit (.int .i64 0)))] h6) fun v7 h8=>
 bp (aA s.P wl 40 1 [(0,v7)] h8) fun v9 h10=>
 bp (yC s k wl 33 false true (.fn (.func 34) [] []) [v5,v3,v9,.nil] h10) fun v11 h12=>
 bm (aq v11 0) h12 fun v13 h14=>
 bm (aq v11 1) h14 fun v15 h16=>
 bm (aq v11 2) h16 fun v17 h18=>
 bp (av s.P 30 h18) fun v19 h20=>
 bs (ai s.P wl 30 v19 v13 h20) fun h21=>
 bm (ab s.P 30 v19 h21) h21 fun v22 h23=>
 bp (yC s k wl 33 false true (.fn (.func 36) [] []) [v22,(.lit (.int .i64 500))] h23) fun v24 h25=>
 bm (aq v24 0) h25 fun v26 h27=>
 bm (aq v24 1) h27 fun v28 h29=>
 bm (aq v24 2) h29 fun v30 h31=>
 bp (av s.P 30 h31) fun v32 h33=>
 bs (ai s.P wl 30 v32 v26 h33) fun h34=>
 bp (yC s k wl 33 false true (.fn (.func 37) [] []) [v3,v28] h34) fun v35 h36=>
 bm (aq v35 0) h36 fun v37 h38=>
 bm (aq v35 1) h38 fun v39 h40=>
 bm (aq v35 2) h40 fun v41 h42=>
 gd v17 (
 bp (bc s.P 34 v15 h42) fun v43 h44=>
 bm (aw s.P .eql 3 v43 (.lit (.int .i64 0))) h44 fun v45 h46=>
 yO s k wl 33 Tryz.f33 bF 5 h42.length ([],[]) bE ⟨((.lit (.bool false))::v3::v19::v15::v17::v32::v28::v30::v37::v39::v41::v1::v3::v11::v5::v3::v7::v9::v11::v13::v15::v17::v24::v22::v24::v26::v28::v30::v35::v3::v28::v35::v37::v39::v41::v17::(.lit (.bool true))::v15::v43::v45::uu::uu::uu::uu::uu::uu::uu::uu::uu::uu::uu::uu::uu::uu::uu::uu::uu::uu::uu::uu::uu::uu::uu::uu::uu::uu::uu::uu::uu::uu::uu::uu::uu::uu::uu::uu::uu::uu::uu::uu::uu::uu::uu::uu::uu::uu::[]),h46⟩) (
 yO s k wl 33 Tryz.f33 bF 5 h42.length ([],[]) bE ⟨((.lit (.bool false))::v3::v19::v15::v17::v32::v28::v30::v37::v39::v41::v1::v3::v11::v5::v3::v7::v9::v11::v13::v15::v17::v24::v22::v24::v26::v28::v30::v35::v3::v28::v35::v37::v39::v41::v17::(.lit (.bool false))::uu::uu::uu::uu::uu::uu::uu::uu::uu::uu::uu::uu::uu::uu::uu::uu::uu::uu::uu::uu::uu::uu::uu::uu::uu::uu::uu::uu::uu::uu::uu::uu::uu::uu::uu::uu::uu::uu::uu::uu::uu::uu::uu::uu::uu::uu::uu::uu::uu::[]),h42⟩) (
 yO s k wl 33 Tryz.f33 bF 3 h42.length ([],[]) bE ⟨((.lit (.bool false))::v3::v19::v15::v17::v32::v28::v30::v37::v39::v41::v1::v3::v11::v5::v3::v7::v9::v11::v13::v15::v17::v24::v22::v24::v26::v28::v30::v35::v3::v28::v35::v37::v39::v41::v17::v17::uu::uu::uu::uu::uu::uu::uu::uu::uu::uu::uu::uu::uu::uu::uu::uu::uu::uu::uu::uu::uu::uu::uu::uu::uu::uu::uu::uu::uu::uu::uu::uu::uu::uu::uu::uu::uu::uu::uu::uu::uu::uu::uu::uu::uu::uu::uu::uu::uu::[]),h42⟩):=kB
theorem ahF (k wl:Nat) (h:Hp):evF Tryz.prog xM (k+1) wl 33 [] h=ak (xX (xS k) 33 wl k false) Tryz.f33 [] h:=by kernel_rfl
theorem R8 (zz:List V) (h:Hp):yO s k wl 33 Tryz.f33 bF 5 m0 ac bE ⟨(c::e::j::f::o::g::u::v::y::A::z::J::D::E::F::G::B::L::M::N::I::Q::O::U::T::R::X::W::Z::Y::t0::t3::t4::t2::t5::t1::t6::t7::t8::t9::td::tb::te::tc::ta::zz),h⟩ =
 bm (aQ t6 t9 (.lit (.bool false))) h fun v47 h48=>
 gd v47 (
 bm (ab s.P 30 j h48) h48 fun v49 h50=>
 bp (yC s k wl 33 false true (.fn (.func 39) [] []) [v49] h50) fun v51 h52=>
 bm (aw s.P .eql 3 v51 (.lit (.int .i64 1))) h52 fun v53 h54=>
 yO s k wl 33 Tryz.f33 bF 10 m0 ac bE ⟨(c::e::j::f::o::g::u::v::y::A::z::J::D::E::F::G::B::L::M::N::I::Q::O::U::T::R::X::W::Z::Y::t0::t3::t4::t2::t5::t1::t6::t7::t8::t9::v47::(.lit (.bool true))::v49::v51::v53::zz),h54⟩) (
 yO s k wl 33 Tryz.f33 bF 10 m0 ac bE ⟨(c::e::j::f::o::g::u::v::y::A::z::J::D::E::F::G::B::L::M::N::I::Q::O::U::T::R::X::W::Z::Y::t0::t3::t4::t2::t5::t1::t6::t7::t8::t9::v47::(.lit (.bool false))::uu::uu::uu::zz),h48⟩) (
 yO s k wl 33 Tryz.f33 bF 8 m0 ac bE ⟨(c::e::j::f::o::g::u::v::y::A::z::J::D::E::F::G::B::L::M::N::I::Q::O::U::T::R::X::W::Z::Y::t0::t3::t4::t2::t5::t1::t6::t7::t8::t9::v47::v47::uu::tc::ta::zz),h48⟩):=kG
theorem S3 (zz:List V) (h:Hp):yO s k wl 33 Tryz.f33 bF 10 m0 ac bE ⟨(c::e::j::f::o::g::u::v::y::A::z::J::D::E::F::G::B::L::M::N::I::Q::O::U::T::R::X::W::Z::Y::t0::t3::t4::t2::t5::t1::t6::t7::t8::t9::td::tb::te::tc::ta::tj::tg::th::tf::zz),h⟩ =
 bm (aQ tb ta (.lit (.bool false))) h fun v55 h56=>
 gd v55 (
 bm (ab s.P 30 g h56) h56 fun v57 h58=>
 bp (yC s k wl 33 false true (.fn (.func 29) [] []) [v57] h58) fun v59 h60=>
 yO s k wl 33 Tryz.f33 bF 14 m0 ac bE ⟨(c::e::j::f::o::g::u::v::y::A::z::J::D::E::F::G::B::L::M::N::I::Q::O::U::T::R::X::W::Z::Y::t0::t3::t4::t2::t5::t1::t6::t7::t8::t9::td::tb::te::tc::ta::v55::(.lit (.bool true))::v57::v59::zz),h60⟩) (
 yO s k wl 33 Tryz.f33 bF 14 m0 ac bE ⟨(c::e::j::f::o::g::u::v::y::A::z::J::D::E::F::G::B::L::M::N::I::Q::O::U::T::R::X::W::Z::Y::t0::t3::t4::t2::t5::t1::t6::t7::t8::t9::td::tb::te::tc::ta::v55::(.lit (.bool false))::uu::uu::zz),h56⟩) (
 yO s k wl 33 Tryz.f33 bF 13 m0 ac bE ⟨(c::e::j::f::o::g::u::v::y::A::z::J::D::E::F::G::B::L::M::N::I::Q::O::U::T::R::X::W::Z::Y::t0::t3::t4::t2::t5::t1::t6::t7::t8::t9::td::tb::te::tc::ta::v55::v55::uu::tf::zz),h56⟩):=kG
theorem Se (zz:List V) (h:Hp):yO s k wl 33 Tryz.f33 bF 14 m0 ac bE ⟨(c::e::j::f::o::g::u::v::y::A::z::J::D::E::F::G::B::L::M::N::I::Q::O::U::T::R::X::W::Z::Y::t0::t3::t4::t2::t5::t1::t6::t7::t8::t9::td::tb::te::tc::ta::tj::tg::th::tf::tm::tk::tl::ti::zz),h⟩ =
 bm (aQ tg tf (.lit (.bool false))) h fun v61 h62=>
 gd v61 (
 bm (aw s.P .gtr 3 v (.lit (.int .i64 10))) h62 fun v63 h64=>
 yO s k wl 33 Tryz.f33 bF 18 m0 ac bE ⟨(c::e::j::f::o::g::u::v::y::A::z::J::D::E::F::G::B::L::M::N::I::Q::O::U::T::R::X::W::Z::Y::t0::t3::t4::t2::t5::t1::t6::t7::t8::t9::td::tb::te::tc::ta::tj::tg::th::tf::v61::(.lit (.bool true))::v::v63::zz),h64⟩) (
 yO s k wl 33 Tryz.f33 bF 18 m0 ac bE ⟨(c::e::j::f::o::g::u::v::y::A::z::J::D::E::F::G::B::L::M::N::I::Q::O::U::T::R::X::W::Z::Y::t0::t3::t4::t2::t5::t1::t6::t7::t8::t9::td::tb::te::tc::ta::tj::tg::th::tf::v61::(.lit (.bool false))::uu::uu::zz),h62⟩) (
 yO s k wl 33 Tryz.f33 bF 17 m0 ac bE ⟨(c::e::j::f::o::g::u::v::y::A::z::J::D::E::F::G::B::L::M::N::I::Q::O::U::T::R::X::W::Z::Y::t0::t3::t4::t2::t5::t1::t6::t7::t8::t9::td::tb::te::tc::ta::tj::tg::th::tf::v61::v61::uu::ti::zz),h62⟩):=kG
theorem RN (zz:List V) (h:Hp):yO s k wl 33 Tryz.f33 bF 18 m0 ac bE ⟨(c::e::j::f::o::g::u::v::y::A::z::J::D::E::F::G::B::L::M::N::I::Q::O::U::T::R::X::W::Z::Y::t0::t3::t4::t2::t5::t1::t6::t7::t8::t9::td::tb::te::tc::ta::tj::tg::th::tf::tm::tk::tl::ti::tq::tp::tr::tn::zz),h⟩ =
 bm (aQ tk ti (.lit (.bool false))) h fun v65 h66=>
 gd v65 (
 bm (aw s.P .lss 3 v (.lit (.int .i64 500))) h66 fun v67 h68=>
 yO s k wl 33 Tryz.f33 bF 22 m0 ac bE ⟨(c::e::j::f::o::g::u::v::y::A::z::J::D::E::F::G::B::L::M::N::I::Q::O::U::T::R::X::W::Z::Y::t0::t3::t4::t2::t5::t1::t6::t7::t8::t9::td::tb::te::tc::ta::tj::tg::th::tf::tm::tk::tl::ti::v65::(.lit (.bool true))::v::v67::zz),h68⟩) (
 yO s k wl 33 Tryz.f33 bF 22 m0 ac bE ⟨(c::e::j::f::o::g::u::v::y::A::z::J::D::E::F::G::B::L::M::N::I::Q::O::U::T::R::X::W::Z::Y::t0::t3::t4::t2::t5::t1::t6::t7::t8::t9::td::tb::te::tc::ta::tj::tg::th::tf::tm::tk::tl::ti::v65::(.lit (.bool false))::uu::uu::zz),h66⟩) (
 yO s k wl 33 Tryz.f33 bF 21 m0 ac bE ⟨(c::e::j::f::o::g::u::v::y::A::z::J::D::E::F::G::B::L::M::N::I::Q::O::U::T::R::X::W::Z::Y::t0::t3::t4::t2::t5::t1::t6::t7::t8::t9::td::tb::te::tc::ta::tj::tg::th::tf::tm::tk::tl::ti::v65::v65::uu::tn::zz),h66⟩):=kG
theorem SA (zz:List V) (h:Hp):yO s k wl 33 Tryz.f33 bF 22 m0 ac bE ⟨(c::e::j::f::o::g::u::v::y::A::z::J::D::E::F::G::B::L::M::N::I::Q::O::U::T::R::X::W::Z::Y::t0::t3::t4::t2::t5::t1::t6::t7::t8::t9::td::tb::te::tc::ta::tj::tg::th::tf::tm::tk::tl::ti::tq::tp::tr::tn::tt::ts::tv::tu::zz),h⟩ =
 bm (aQ tp tn (.lit (.bool false))) h fun v69 h70=>
 gd v69 (
 bm (aw s.P .eql 3 y (.lit (.int .i64 1))) h70 fun v71 h72=>
 yO s k wl 33 Tryz.f33 bF 26 m0 ac bE ⟨(c::e::j::f::o::g::u::v::y::A::z::J::D::E::F::G::B::L::M::N::I::Q::O::U::T::R::X::W::Z::Y::t0::t3::t4::t2::t5::t1::t6::t7::t8::t9::td::tb::te::tc::ta::tj::tg::th::tf::tm::tk::tl::ti::tq::tp::tr::tn::v69::(.lit (.bool true))::y::v71::zz),h72⟩) (
 yO s k wl 33 Tryz.f33 bF 26 m0 ac bE ⟨(c::e::j::f::o::g::u::v::y::A::z::J::D::E::F::G::B::L::M::N::I::Q::O::U::T::R::X::W::Z::Y::t0::t3::t4::t2::t5::t1::t6::t7::t8::t9::td::tb::te::tc::ta::tj::tg::th::tf::tm::tk::tl::ti::tq::tp::tr::tn::v69::(.lit (.bool false))::uu::uu::zz),h70⟩) (
 yO s k wl 33 Tryz.f33 bF 25 m0 ac bE ⟨(c::e::j::f::o::g::u::v::y::A::z::J::D::E::F::G::B::L::M::N::I::Q::O::U::T::R::X::W::Z::Y::t0::t3::t4::t2::t5::t1::t6::t7::t8::t9::td::tb::te::tc::ta::tj::tg::th::tf::tm::tk::tl::ti::tq::tp::tr::tn::v69::v69::uu::tu::zz),h70⟩):=kG
theorem Sx (zz:List V) (h:Hp):yO s k wl 33 Tryz.f33 bF 26 m0 ac bE ⟨(c::e::j::f::o::g::u::v::y::A::z::J::D::E::F::G::B::L::M::N::I::Q::O::U::T::R::X::W::Z::Y::t0::t3::t4::t2::t5::t1::t6::t7::t8::t9::td::tb::te::tc::ta::tj::tg::th::tf::tm::tk::tl::ti::tq::tp::tr::tn::tt::ts::tv::tu::tz::tx::ty::tw::zz),h⟩ =
 bm (aQ ts tu (.lit (.bool false))) h fun v73 h74=>
 gd v73 (
 bm (aw s.P .eql 3 A (.lit (.int .i64 0))) h74 fun v75 h76=>
 yO s k wl 33 Tryz.f33 bF 30 m0 ac bE ⟨(c::e::j::f::o::g::u::v::y::A::z::J::D::E::F::G::B::L::M::N::I::Q::O::U::T::R::X::W::Z::Y::t0::t3::t4::t2::t5::t1::t6::t7::t8::t9::td::tb::te::tc::ta::tj::tg::th::tf::tm::tk::tl::ti::tq::tp::tr::tn::tt::ts::tv::tu::v73::(.lit (.bool true))::A::v75::zz),h76⟩) (
 yO s k wl 33 Tryz.f33 bF 30 m0 ac bE ⟨(c::e::j::f::o::g::u::v::y::A::z::J::D::E::F::G::B::L::M::N::I::Q::O::U::T::R::X::W::Z::Y::t0::t3::t4::t2::t5::t1::t6::t7::t8::t9::td::tb::te::tc::ta::tj::tg::th::tf::tm::tk::tl::ti::tq::tp::tr::tn::tt::ts::tv::tu::v73::(.lit (.bool false))::uu::uu::zz),h74⟩) (
 yO s k wl 33 Tryz.f33 bF 29 m0 ac bE ⟨(c::e::j::f::o::g::u::v::y::A::z::J::D::E::F::G::B::L::M::N::I::Q::O::U::T::R::X::W::Z::Y::t0::t3::t4::t2::t5::t1::t6::t7::t8::t9::td::tb::te::tc::ta::tj::tg::th::tf::tm::tk::tl::ti::tq::tp::tr::tn::tt::ts::tv::tu::v73::v73::uu::tw::zz),h74⟩):=kG
theorem SV (zz:List V) (h:Hp):yO s k wl 33 Tryz.f33 bF 30 m0 ac bE ⟨(c::e::j::f::o::g::u::v::y::A::z::J::D::E::F::G::B::L::M::N::I::Q::O::U::T::R::X::W::Z::Y::t0::t3::t4::t2::t5::t1::t6::t7::t8::t9::td::tb::te::tc::ta::tj::tg::th::tf::tm::tk::tl::ti::tq::tp::tr::tn::tt::ts::tv::tu::tz::tx::ty::tw::tA::tC::tD::tB::zz),h⟩ =
 bm (aQ tx tw (.lit (.bool false))) h fun v77 h78=>
 gd v77 (
 bm (aw s.P .eql 3 z (.lit (.int .i64 1))) h78 fun v79 h80=>
 yO s k wl 33 Tryz.f33 bF 34 m0 ac bE ⟨(c::e::j::f::o::g::u::v::y::A::z::J::D::E::F::G::B::L::M::N::I::Q::O::U::T::R::X::W::Z::Y::t0::t3::t4::t2::t5::t1::t6::t7::t8::t9::td::tb::te::tc::ta::tj::tg::th::tf::tm::tk::tl::ti::tq::tp::tr::tn::tt::ts::tv::tu::tz::tx::ty::tw::v77::(.lit (.bool true))::z::v79::zz),h80⟩) (
 yO s k wl 33 Tryz.f33 bF 34 m0 ac bE ⟨(c::e::j::f::o::g::u::v::y::A::z::J::D::E::F::G::B::L::M::N::I::Q::O::U::T::R::X::W::Z::Y::t0::t3::t4::t2::t5::t1::t6::t7::t8::t9::td::tb::te::tc::ta::tj::tg::th::tf::tm::tk::tl::ti::tq::tp::tr::tn::tt::ts::tv::tu::tz::tx::ty::tw::v77::(.lit (.bool false))::uu::uu::zz),h78⟩) (
 yO s k wl 33 Tryz.f33 bF 33 m0 ac bE ⟨(c::e::j::f::o::g::u::v::y::A::z::J::D::E::F::G::B::L::M::N::I::Q::O::U::T::R::X::W::Z::Y::t0::t3::t4::t2::t5::t1::t6::t7::t8::t9::td::tb::te::tc::ta::tj::tg::th::tf::tm::tk::tl::ti::tq::tp::tr::tn::tt::ts::tv::tu::tz::tx::ty::tw::v77::v77::uu::tB::zz),h78⟩):=kG
theorem Sw (zz:List V) (h:Hp):yO s k wl 33 Tryz.f33 bF 34 m0 ac bE ⟨(c::e::j::f::o::g::u::v::y::A::z::J::D::E::F::G::B::L::M::N::I::Q::O::U::T::R::X::W::Z::Y::t0::t3::t4::t2::t5::t1::t6::t7::t8::t9::td::tb::te::tc::ta::tj::tg::th::tf::tm::tk::tl::ti::tq::tp::tr::tn::tt::ts::tv::tu::tz::tx::ty::tw::tA::tC::tD::tB::tF::tE::tI::tG::tH::zz),h⟩ =
 bm (aQ tC tB (.lit (.bool false))) h fun v81 h82=>
 gd v81 (
 bp (bc s.P 34 u h82) fun v83 h84=>
 bm (aw s.P .eql 3 v83 (.lit (.int .i64 4))) h84 fun v85 h86=>
 yO s k wl 33 Tryz.f33 bF 39 m0 ac bE ⟨(c::e::j::f::o::g::u::v::y::A::z::J::D::E::F::G::B::L::M::N::I::Q::O::U::T::R::X::W::Z::Y::t0::t3::t4::t2::t5::t1::t6::t7::t8::t9::td::tb::te::tc::ta::tj::tg::th::tf::tm::tk::tl::ti::tq::tp::tr::tn::tt::ts::tv::tu::tz::tx::ty::tw::tA::tC::tD::tB::v81::(.lit (.bool true))::u::v83::v85::zz),h86⟩) (
 yO s k wl 33 Tryz.f33 bF 39 m0 ac bE ⟨(c::e::j::f::o::g::u::v::y::A::z::J::D::E::F::G::B::L::M::N::I::Q::O::U::T::R::X::W::Z::Y::t0::t3::t4::t2::t5::t1::t6::t7::t8::t9::td::tb::te::tc::ta::tj::tg::th::tf::tm::tk::tl::ti::tq::tp::tr::tn::tt::ts::tv::tu::tz::tx::ty::tw::tA::tC::tD::tB::v81::(.lit (.bool false))::uu::uu::uu::zz),h82⟩) (
 yO s k wl 33 Tryz.f33 bF 37 m0 ac bE ⟨(c::e::j::f::o::g::u::v::y::A::z::J::D::E::F::G::B::L::M::N::I::Q::O::U::T::R::X::W::Z::Y::t0::t3::t4::t2::t5::t1::t6::t7::t8::t9::td::tb::te::tc::ta::tj::tg::th::tf::tm::tk::tl::ti::tq::tp::tr::tn::tt::ts::tv::tu::tz::tx::ty::tw::tA::tC::tD::tB::v81::v81::uu::tG::tH::zz),h82⟩):=kG
theorem Sz (zz:List V) (h:Hp):yO s k wl 33 Tryz.f33 bF 39 m0 ac bE ⟨(c::e::j::f::o::g::u::v::y::A::z::J::D::E::F::G::B::L::M::N::I::Q::O::U::T::R::X::W::Z::Y::t0::t3::t4::t2::t5::t1::t6::t7::t8::t9::td::tb::te::tc::ta::tj::tg::th::tf::tm::tk::tl::ti::tq::tp::tr::tn::tt::ts::tv::tu::tz::tx::ty::tw::tA::tC::tD::tB::tF::tE::tI::tG::tH::tK::tJ::tP::tM::tN::tO::tL::zz),h⟩ =
 bm (aQ tE tH (.lit (.bool false))) h fun v87 h88=>
 gd v87 (
 bm (aj s.P 34 u (.lit (.int .i64 3)) h88) h88 fun v89 h90=>
 bm (aa s.P 52 v89 0) h90 fun v91 h92=>
 bm (ab s.P 3 v91 h92) h92 fun v93 h94=>
 bm (aw s.P .eql 3 v93 (.lit (.int .i64 5))) h94 fun v95 h96=>
 yO s k wl 33 Tryz.f33 bF 46 m0 ac bE ⟨(c::e::j::f::o::g::u::v::y::A::z::J::D::E::F::G::B::L::M::N::I::Q::O::U::T::R::X::W::Z::Y::t0::t3::t4::t2::t5::t1::t6::t7::t8::t9::td::tb::te::tc::ta::tj::tg::th::tf::tm::tk::tl::ti::tq::tp::tr::tn::tt::ts::tv::tu::tz::tx::ty::tw::tA::tC::tD::tB::tF::tE::tI::tG::tH::v87::(.lit (.bool true))::u::v89::v91::v93::v95::zz),h96⟩) (
 yO s k wl 33 Tryz.f33 bF 46 m0 ac bE ⟨(c::e::j::f::o::g::u::v::y::A::z::J::D::E::F::G::B::L::M::N::I::Q::O::U::T::R::X::W::Z::Y::t0::t3::t4::t2::t5::t1::t6::t7::t8::t9::td::tb::te::tc::ta::tj::tg::th::tf::tm::tk::tl::ti::tq::tp::tr::tn::tt::ts::tv::tu::tz::tx::ty::tw::tA::tC::tD::tB::tF::tE::tI::tG::tH::v87::(.lit (.bool false))::uu::uu::uu::uu::uu::zz),h88⟩) (
 yO s k wl 33 Tryz.f33 bF 42 m0 ac bE ⟨(c::e::j::f::o::g::u::v::y::A::z::J::D::E::F::G::B::L::M::N::I::Q::O::U::T::R::X::W::Z::Y::t0::t3::t4::t2::t5::t1::t6::t7::t8::t9::td::tb::te::tc::ta::tj::tg::th::tf::tm::tk::tl::ti::tq::tp::tr::tn::tt::ts::tv::tu::tz::tx::ty::tw::tA::tC::tD::tB::tF::tE::tI::tG::tH::v87::v87::uu::tM::tN::tO::tL::zz),h88⟩):=kG
theorem Sa (h:Hp):yO s k wl 33 Tryz.f33 bF 46 m0 ac bE ⟨(c::e::j::f::o::g::u::v::y::A::z::J::D::E::F::G::B::L::M::N::I::Q::O::U::T::R::X::W::Z::Y::t0::t3::t4::t2::t5::t1::t6::t7::t8::t9::td::tb::te::tc::ta::tj::tg::th::tf::tm::tk::tl::ti::tq::tp::tr::tn::tt::ts::tv::tu::tz::tx::ty::tw::tA::tC::tD::tB::tF::tE::tI::tG::tH::tK::tJ::tP::tM::tN::tO::tL::tT::tS::tU::tR::tQ::[]),h⟩ =
 bm (aQ tJ tL (.lit (.bool false))) h fun v97 h98=>
 gd v97 (
 bm (ab s.P 30 j h98) h98 fun v99 h100=>
 bp (yC s k wl 33 false true (.fn (.func 35) [] []) [v99,.nil] h100) fun v101 h102=>
 yO s k wl 33 Tryz.f33 bF 50 m0 ac bE ⟨(c::e::j::f::o::g::u::v::y::A::z::J::D::E::F::G::B::L::M::N::I::Q::O::U::T::R::X::W::Z::Y::t0::t3::t4::t2::t5::t1::t6::t7::t8::t9::td::tb::te::tc::ta::tj::tg::th::tf::tm::tk::tl::ti::tq::tp::tr::tn::tt::ts::tv::tu::tz::tx::ty::tw::tA::tC::tD::tB::tF::tE::tI::tG::tH::tK::tJ::tP::tM::tN::tO::tL::v97::(.lit (.bool true))::v99::v101::tQ::[]),h102⟩) (
 yO s k wl 33 Tryz.f33 bF 50 m0 ac bE ⟨(c::e::j::f::o::g::u::v::y::A::z::J::D::E::F::G::B::L::M::N::I::Q::O::U::T::R::X::W::Z::Y::t0::t3::t4::t2::t5::t1::t6::t7::t8::t9::td::tb::te::tc::ta::tj::tg::th::tf::tm::tk::tl::ti::tq::tp::tr::tn::tt::ts::tv::tu::tz::tx::ty::tw::tA::tC::tD::tB::tF::tE::tI::tG::tH::tK::tJ::tP::tM::tN::tO::tL::v97::(.lit (.bool false))::uu::uu::tQ::[]),h98⟩) (
 yO s k wl 33 Tryz.f33 bF 49 m0 ac bE ⟨(c::e::j::f::o::g::u::v::y::A::z::J::D::E::F::G::B::L::M::N::I::Q::O::U::T::R::X::W::Z::Y::t0::t3::t4::t2::t5::t1::t6::t7::t8::t9::td::tb::te::tc::ta::tj::tg::th::tf::tm::tk::tl::ti::tq::tp::tr::tn::tt::ts::tv::tu::tz::tx::ty::tw::tA::tC::tD::tB::tF::tE::tI::tG::tH::tK::tJ::tP::tM::tN::tO::tL::v97::v97::uu::tR::tQ::[]),h98⟩):=kG
theorem Km (h:Hp):yO s k wl 33 Tryz.f33 bF 50 m0 ac bE ⟨(c::e::j::f::o::g::u::v::y::A::z::J::D::E::F::G::B::L::M::N::I::Q::O::U::T::R::X::W::Z::Y::t0::t3::t4::t2::t5::t1::t6::t7::t8::t9::td::tb::te::tc::ta::tj::tg::th::tf::tm::tk::tl::ti::tq::tp::tr::tn::tt::ts::tv::tu::tz::tx::ty::tw::tA::tC::tD::tB::tF::tE::tI::tG::tH::tK::tJ::tP::tM::tN::tO::tL::tT::tS::tU::tR::tQ::[]),h⟩ =
 bm (aQ tS tR (.lit (.bool false))) h fun v103 h104=>
 some (v103,h104):=kG
theorem xZ (cx:Cx) (K:Out→St→Option (V×Hp)) (s:St):au cx K bE .ret s=K .ret s:=by kernel_rfl
-- names: agv,R8,S3,Se,RN,SA,Sx,SV,Sw,Sz,Sa,Km,xZ
end
end Go.Ab
