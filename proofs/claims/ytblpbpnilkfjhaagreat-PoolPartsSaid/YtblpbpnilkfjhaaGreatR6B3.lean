import Derived.Test.YtblpbpnilkfjhaaGreatR6Seat
import Derived.Test.YtblpbpnilkfjhaaGreatAbLibC
set_option linter.unusedVariables false
set_option linter.unusedSimpArgs false
set_option maxRecDepth 100000
set_option linter.unusedVariables false
namespace Go.Ab
open Go.Proofs
section
variable (s:Sys) (k wl:Nat) (m0:Nat) (ac:List Nat×List Nat) (a d b g i l o j p q r u G E A B D y z F J I M L Q N O T R t1 W X Z Y t0 U t3 t4 t2 t7 t6 t5 t8 tc th td ta ti te tj tf tg tb t9 tm tn tp tk tl:V)
noncomputable def bS:Code:=al (am Tryz.f188) [1,0]
noncomputable def bM:List Fr:=[.seq (al (am Tryz.f188) [1,1])]
theorem Uu (h:Hp):ak (xX s 188 wl k false) Tryz.f188 [a,d,b,g,i] h =
 bp (aJ a h) fun v1 h2=>
 bp (aJ b h2) fun v3 h4=>
 bm (ab s.P 23 v1 h4) h4 fun v5 h6=>
 bp (yC s k wl 188 false true (.fn (.func 50) [] []) [v5] h6) fun v7 h8=>
 gd v7 (
 bp (aX s.P 26 d h8) fun v9 h10=>
 bm (ab s.P 23 v1 h10) h10 fun v11 h12=>
 bp (yC s k wl 188 false true (.fn (.func 103) [] []) [v11] h12) fun v13 h14=>
 bm (aq s.P .eql 3 v9 v13) h14 fun v15 h16=>
 yO s k wl 188 Tryz.f188 bS 8 h4.length ([],[]) bM ⟨[a,d,b,g,i,v1,uu,v3,uu,uu,(.lit (.bool false)),v5,v7,(.lit (.bool true)),d,v9,v11,v13,v15,uu,uu,uu,uu,uu,uu,uu,uu,uu,uu,uu,uu,uu,uu,uu,uu,uu,uu,uu,uu,uu,uu,uu,uu,uu,uu,uu,uu,uu,uu,uu,uu,uu,uu,uu],h16⟩) (
 yO s k wl 188 Tryz.f188 bS 8 h4.length ([],[]) bM ⟨[a,d,b,g,i,v1,uu,v3,uu,uu,(.lit (.bool false)),v5,v7,(.lit (.bool false)),uu,uu,uu,uu,uu,uu,uu,uu,uu,uu,uu,uu,uu,uu,uu,uu,uu,uu,uu,uu,uu,uu,uu,uu,uu,uu,uu,uu,uu,uu,uu,uu,uu,uu,uu,uu,uu,uu,uu,uu],h8⟩) (
 yO s k wl 188 Tryz.f188 bS 4 h4.length ([],[]) bM ⟨[a,d,b,g,i,v1,uu,v3,uu,uu,(.lit (.bool false)),v5,v7,v7,uu,uu,uu,uu,uu,uu,uu,uu,uu,uu,uu,uu,uu,uu,uu,uu,uu,uu,uu,uu,uu,uu,uu,uu,uu,uu,uu,uu,uu,uu,uu,uu,uu,uu,uu,uu,uu,uu,uu,uu],h8⟩):=kB
theorem aaH (k wl:Nat) (h:Hp):evF Tryz.prog xM (k+1) wl 188 [a,d,b,g,i] h=ak (xX (xS k) 188 wl k false) Tryz.f188 [a,d,b,g,i] h:=by kernel_rfl
theorem Jc (zz:List V) (h:Hp):yO s k wl 188 Tryz.f188 bS 8 m0 ac bM ⟨(a::d::b::g::i::l::o::j::p::q::r::u::G::E::A::B::D::y::z::F::J::I::M::L::zz),h⟩ =
 bm (aO E z (.lit (.bool false))) h fun v17 h18=>
 gd v17 (
 bm (ab s.P 55 j h18) h18 fun v19 h20=>
 bp (yC s k wl 188 false true (.fn (.func 110) [] []) [v19] h20) fun v21 h22=>
 bm (vUn .not v21) h22 fun v23 h24=>
 yO s k wl 188 Tryz.f188 bS 13 m0 ac bM ⟨(a::d::b::g::i::l::o::j::p::q::r::u::G::E::A::B::D::y::z::v17::(.lit (.bool true))::v19::v21::v23::zz),h24⟩) (
 yO s k wl 188 Tryz.f188 bS 13 m0 ac bM ⟨(a::d::b::g::i::l::o::j::p::q::r::u::G::E::A::B::D::y::z::v17::(.lit (.bool false))::uu::uu::uu::zz),h18⟩) (
 yO s k wl 188 Tryz.f188 bS 11 m0 ac bM ⟨(a::d::b::g::i::l::o::j::p::q::r::u::G::E::A::B::D::y::z::v17::v17::uu::M::L::zz),h18⟩):=kG
theorem Hd (zz:List V) (h:Hp):yO s k wl 188 Tryz.f188 bS 13 m0 ac bM ⟨(a::d::b::g::i::l::o::j::p::q::r::u::G::E::A::B::D::y::z::F::J::I::M::L::Q::N::O::T::R::zz),h⟩ =
 bm (aO J L (.lit (.bool false))) h fun v25 h26=>
 gd v25 (
 bm (aa s.P 55 j 2) h26 fun v27 h28=>
 bm (ab s.P 3 v27 h28) h28 fun v29 h30=>
 bm (aq s.P .geq 3 v29 (.lit (.int .i64 0))) h30 fun v31 h32=>
 yO s k wl 188 Tryz.f188 bS 18 m0 ac bM ⟨(a::d::b::g::i::l::o::j::p::q::r::u::G::E::A::B::D::y::z::F::J::I::M::L::v25::(.lit (.bool true))::v27::v29::v31::zz),h32⟩) (
 yO s k wl 188 Tryz.f188 bS 18 m0 ac bM ⟨(a::d::b::g::i::l::o::j::p::q::r::u::G::E::A::B::D::y::z::F::J::I::M::L::v25::(.lit (.bool false))::uu::uu::uu::zz),h26⟩) (
 yO s k wl 188 Tryz.f188 bS 16 m0 ac bM ⟨(a::d::b::g::i::l::o::j::p::q::r::u::G::E::A::B::D::y::z::F::J::I::M::L::v25::v25::uu::T::R::zz),h26⟩):=kG
theorem JT (zz:List V) (h:Hp):yO s k wl 188 Tryz.f188 bS 18 m0 ac bM ⟨(a::d::b::g::i::l::o::j::p::q::r::u::G::E::A::B::D::y::z::F::J::I::M::L::Q::N::O::T::R::t1::W::X::Z::Y::t0::U::zz),h⟩ =
 bm (aO N R (.lit (.bool false))) h fun v33 h34=>
 gd v33 (
 bm (aa s.P 55 j 2) h34 fun v35 h36=>
 bm (ab s.P 3 v35 h36) h36 fun v37 h38=>
 bm (aa s.P 23 l 0) h38 fun v39 h40=>
 bm (ab s.P 3 v39 h40) h40 fun v41 h42=>
 bm (aq s.P .lss 3 v37 v41) h42 fun v43 h44=>
 yO s k wl 188 Tryz.f188 bS 25 m0 ac bM ⟨(a::d::b::g::i::l::o::j::p::q::r::u::G::E::A::B::D::y::z::F::J::I::M::L::Q::N::O::T::R::v33::(.lit (.bool true))::v35::v37::v39::v41::v43::zz),h44⟩) (
 yO s k wl 188 Tryz.f188 bS 25 m0 ac bM ⟨(a::d::b::g::i::l::o::j::p::q::r::u::G::E::A::B::D::y::z::F::J::I::M::L::Q::N::O::T::R::v33::(.lit (.bool false))::uu::uu::uu::uu::uu::zz),h34⟩) (
 yO s k wl 188 Tryz.f188 bS 21 m0 ac bM ⟨(a::d::b::g::i::l::o::j::p::q::r::u::G::E::A::B::D::y::z::F::J::I::M::L::Q::N::O::T::R::v33::v33::uu::Z::Y::t0::U::zz),h34⟩):=kG
theorem He (h:Hp):yO s k wl 188 Tryz.f188 bS 25 m0 ac bM ⟨[a,d,b,g,i,l,o,j,p,q,r,u,G,E,A,B,D,y,z,F,J,I,M,L,Q,N,O,T,R,t1,W,X,Z,Y,t0,U,t3,t4,t2,t7,t6,t5,t8,tc,th,td,ta,ti,te,tj,tf,tg,tb,t9],h⟩ =
 bm (aO W U (.lit (.bool false))) h fun v45 h46=>
 gd v45 (
 bm (aa s.P 55 j 0) h46 fun v47 h48=>
 bm (ab s.P 3 v47 h48) h48 fun v49 h50=>
 bm (aq s.P .eql 3 v49 g) h50 fun v51 h52=>
 yO s k wl 188 Tryz.f188 bS 31 m0 ac bM ⟨[a,d,b,g,i,l,o,j,p,q,r,u,G,E,A,B,D,y,z,F,J,I,M,L,Q,N,O,T,R,t1,W,X,Z,Y,t0,U,v45,(.lit (.bool true)),v47,v49,g,v51,t8,tc,th,td,ta,ti,te,tj,tf,tg,tb,t9],h52⟩) (
 yO s k wl 188 Tryz.f188 bS 31 m0 ac bM ⟨[a,d,b,g,i,l,o,j,p,q,r,u,G,E,A,B,D,y,z,F,J,I,M,L,Q,N,O,T,R,t1,W,X,Z,Y,t0,U,v45,(.lit (.bool false)),uu,uu,uu,uu,t8,tc,th,td,ta,ti,te,tj,tf,tg,tb,t9],h46⟩) (
 yO s k wl 188 Tryz.f188 bS 28 m0 ac bM ⟨[a,d,b,g,i,l,o,j,p,q,r,u,G,E,A,B,D,y,z,F,J,I,M,L,Q,N,O,T,R,t1,W,X,Z,Y,t0,U,v45,v45,uu,t7,t6,t5,t8,tc,th,td,ta,ti,te,tj,tf,tg,tb,t9],h46⟩):=kG
theorem I0 (h:Hp):yO s k wl 188 Tryz.f188 bS 31 m0 ac bM ⟨[a,d,b,g,i,l,o,j,p,q,r,u,G,E,A,B,D,y,z,F,J,I,M,L,Q,N,O,T,R,t1,W,X,Z,Y,t0,U,t3,t4,t2,t7,t6,t5,t8,tc,th,td,ta,ti,te,tj,tf,tg,tb,t9],h⟩ =
 bm (aO t4 t5 (.lit (.bool false))) h fun v53 h54=>
 gd v53 (
 bm (aa s.P 55 j 1) h54 fun v55 h56=>
 bm (ab s.P 3 v55 h56) h56 fun v57 h58=>
 bm (aq s.P .geq 3 v57 (.lit (.int .i64 0))) h58 fun v59 h60=>
 yO s k wl 188 Tryz.f188 bS 36 m0 ac bM ⟨[a,d,b,g,i,l,o,j,p,q,r,u,G,E,A,B,D,y,z,F,J,I,M,L,Q,N,O,T,R,t1,W,X,Z,Y,t0,U,t3,t4,t2,t7,t6,t5,v53,(.lit (.bool true)),v55,v57,v59,ti,te,tj,tf,tg,tb,t9],h60⟩) (
 yO s k wl 188 Tryz.f188 bS 36 m0 ac bM ⟨[a,d,b,g,i,l,o,j,p,q,r,u,G,E,A,B,D,y,z,F,J,I,M,L,Q,N,O,T,R,t1,W,X,Z,Y,t0,U,t3,t4,t2,t7,t6,t5,v53,(.lit (.bool false)),uu,uu,uu,ti,te,tj,tf,tg,tb,t9],h54⟩) (
 yO s k wl 188 Tryz.f188 bS 34 m0 ac bM ⟨[a,d,b,g,i,l,o,j,p,q,r,u,G,E,A,B,D,y,z,F,J,I,M,L,Q,N,O,T,R,t1,W,X,Z,Y,t0,U,t3,t4,t2,t7,t6,t5,v53,v53,uu,td,ta,ti,te,tj,tf,tg,tb,t9],h54⟩):=kG
theorem HK (h:Hp):yO s k wl 188 Tryz.f188 bS 36 m0 ac bM ⟨[a,d,b,g,i,l,o,j,p,q,r,u,G,E,A,B,D,y,z,F,J,I,M,L,Q,N,O,T,R,t1,W,X,Z,Y,t0,U,t3,t4,t2,t7,t6,t5,t8,tc,th,td,ta,ti,te,tj,tf,tg,tb,t9],h⟩ =
 bm (aO tc ta (.lit (.bool false))) h fun v61 h62=>
 gd v61 (
 bm (aa s.P 55 j 1) h62 fun v63 h64=>
 bm (ab s.P 3 v63 h64) h64 fun v65 h66=>
 bm (aq s.P .lss 3 v65 i) h66 fun v67 h68=>
 yO s k wl 188 Tryz.f188 bS 42 m0 ac bM ⟨[a,d,b,g,i,l,o,j,p,q,r,u,G,E,A,B,D,y,z,F,J,I,M,L,Q,N,O,T,R,t1,W,X,Z,Y,t0,U,t3,t4,t2,t7,t6,t5,t8,tc,th,td,ta,v61,(.lit (.bool true)),v63,v65,i,v67,t9],h68⟩) (
 yO s k wl 188 Tryz.f188 bS 42 m0 ac bM ⟨[a,d,b,g,i,l,o,j,p,q,r,u,G,E,A,B,D,y,z,F,J,I,M,L,Q,N,O,T,R,t1,W,X,Z,Y,t0,U,t3,t4,t2,t7,t6,t5,t8,tc,th,td,ta,v61,(.lit (.bool false)),uu,uu,uu,uu,t9],h62⟩) (
 yO s k wl 188 Tryz.f188 bS 39 m0 ac bM ⟨[a,d,b,g,i,l,o,j,p,q,r,u,G,E,A,B,D,y,z,F,J,I,M,L,Q,N,O,T,R,t1,W,X,Z,Y,t0,U,t3,t4,t2,t7,t6,t5,t8,tc,th,td,ta,v61,v61,uu,tf,tg,tb,t9],h62⟩):=kG
theorem H9 (h:Hp):yO s k wl 188 Tryz.f188 bS 42 m0 ac bM ⟨[a,d,b,g,i,l,o,j,p,q,r,u,G,E,A,B,D,y,z,F,J,I,M,L,Q,N,O,T,R,t1,W,X,Z,Y,t0,U,t3,t4,t2,t7,t6,t5,t8,tc,th,td,ta,ti,te,tj,tf,tg,tb,t9],h⟩ =
 bm (aO te tb (.lit (.bool false))) h fun v69 h70=>
 some (v69,h70):=kG
theorem oN (cx:Cx) (K:Out→St→Option (V×Hp)) (s:St):au cx K bM .ret s=K .ret s:=by kernel_rfl
-- names: Uu,Jc,Hd,JT,He,I0,HK,H9,oN
noncomputable def dg:Code:=al (am Tryz.f189) [1,1,0]
noncomputable def cT:List Fr:=[.seq (al (am Tryz.f189) [1,1,1])]
theorem U3 (h:Hp):ak (xX s 189 wl k false) Tryz.f189 [a,d,b] h =
 bp (aJ a h) fun v1 h2=>
 bp (aJ b h2) fun v3 h4=>
 bp (yC s k wl 189 true true (.fn (.func 190) [] []) [] h4) fun v5 h6=>
 bm (aa s.P 55 v3 0) h6 fun v7 h8=>
 stO h4.length v7 (
 bm (ab s.P 3 v7 h8) h8 fun v9 h10=>
 bm (fc s.P 212 v5 v9 true h10) h10 fun v11 h12=>
 bm (ao v11 0) h12 fun v13 h14=>
 bm (ao v11 1) h14 fun v15 h16=>
 gd v15 (
 bm (ab s.P 23 v1 h16) h16 fun v17 h18=>
 bp (yC s k wl 189 false true (.fn (.func 50) [] []) [v17] h18) fun v19 h20=>
 yO s k wl 189 Tryz.f189 dg 4 h16.length ([],[]) cT ⟨[a,d,b,v1,uu,v3,(.lit (.bool false)),v13,v15,v11,v5,v7,v9,v11,v13,v15,v15,(.lit (.bool true)),v17,v19,uu,uu,uu,uu,uu,uu,uu,uu,uu,uu,uu,uu,uu,uu,uu,uu,uu,uu,uu,uu,uu,uu,uu],h20⟩) (
 yO s k wl 189 Tryz.f189 dg 4 h16.length ([],[]) cT ⟨[a,d,b,v1,uu,v3,(.lit (.bool false)),v13,v15,v11,v5,v7,v9,v11,v13,v15,v15,(.lit (.bool false)),uu,uu,uu,uu,uu,uu,uu,uu,uu,uu,uu,uu,uu,uu,uu,uu,uu,uu,uu,uu,uu,uu,uu,uu,uu],h16⟩) (
 yO s k wl 189 Tryz.f189 dg 3 h16.length ([],[]) cT ⟨[a,d,b,v1,uu,v3,(.lit (.bool false)),v13,v15,v11,v5,v7,v9,v11,v13,v15,v15,v15,uu,uu,uu,uu,uu,uu,uu,uu,uu,uu,uu,uu,uu,uu,uu,uu,uu,uu,uu,uu,uu,uu,uu,uu,uu],h16⟩)):=kB
theorem acf (k wl:Nat) (h:Hp):evF Tryz.prog xM (k+1) wl 189 [a,d,b] h=ak (xX (xS k) 189 wl k false) Tryz.f189 [a,d,b] h:=by kernel_rfl
theorem Jr (zz:List V) (h:Hp):yO s k wl 189 Tryz.f189 dg 4 m0 ac cT ⟨(a::d::b::g::i::l::o::j::p::q::r::u::G::E::A::B::D::y::z::F::J::I::M::L::Q::N::O::zz),h⟩ =
 bm (aO y F (.lit (.bool false))) h fun v21 h22=>
 gd v21 (
 bp (aX s.P 26 d h22) fun v23 h24=>
 bm (ab s.P 23 g h24) h24 fun v25 h26=>
 bp (yC s k wl 189 false true (.fn (.func 103) [] []) [v25] h26) fun v27 h28=>
 bm (aq s.P .eql 3 v23 v27) h28 fun v29 h30=>
 yO s k wl 189 Tryz.f189 dg 11 m0 ac cT ⟨(a::d::b::g::i::l::o::j::p::q::r::u::G::E::A::B::D::y::z::F::v21::(.lit (.bool true))::d::v23::v25::v27::v29::zz),h30⟩) (
 yO s k wl 189 Tryz.f189 dg 11 m0 ac cT ⟨(a::d::b::g::i::l::o::j::p::q::r::u::G::E::A::B::D::y::z::F::v21::(.lit (.bool false))::uu::uu::uu::uu::uu::zz),h22⟩) (
 yO s k wl 189 Tryz.f189 dg 7 m0 ac cT ⟨(a::d::b::g::i::l::o::j::p::q::r::u::G::E::A::B::D::y::z::F::v21::v21::uu::L::Q::N::O::zz),h22⟩):=kG
theorem JG (h:Hp):yO s k wl 189 Tryz.f189 dg 11 m0 ac cT ⟨[a,d,b,g,i,l,o,j,p,q,r,u,G,E,A,B,D,y,z,F,J,I,M,L,Q,N,O,T,R,t1,W,X,Z,Y,t0,U,t3,t4,t2,t7,t6,t5,t8],h⟩ =
 bm (aO I O (.lit (.bool false))) h fun v31 h32=>
 gd v31 (
 bm (ab s.P 55 l h32) h32 fun v33 h34=>
 bp (yC s k wl 189 false true (.fn (.func 110) [] []) [v33] h34) fun v35 h36=>
 bm (vUn .not v35) h36 fun v37 h38=>
 yO s k wl 189 Tryz.f189 dg 16 m0 ac cT ⟨[a,d,b,g,i,l,o,j,p,q,r,u,G,E,A,B,D,y,z,F,J,I,M,L,Q,N,O,v31,(.lit (.bool true)),v33,v35,v37,Z,Y,t0,U,t3,t4,t2,t7,t6,t5,t8],h38⟩) (
 yO s k wl 189 Tryz.f189 dg 16 m0 ac cT ⟨[a,d,b,g,i,l,o,j,p,q,r,u,G,E,A,B,D,y,z,F,J,I,M,L,Q,N,O,v31,(.lit (.bool false)),uu,uu,uu,Z,Y,t0,U,t3,t4,t2,t7,t6,t5,t8],h32⟩) (
 yO s k wl 189 Tryz.f189 dg 14 m0 ac cT ⟨[a,d,b,g,i,l,o,j,p,q,r,u,G,E,A,B,D,y,z,F,J,I,M,L,Q,N,O,v31,v31,uu,W,X,Z,Y,t0,U,t3,t4,t2,t7,t6,t5,t8],h32⟩):=kG
theorem Iw (h:Hp):yO s k wl 189 Tryz.f189 dg 16 m0 ac cT ⟨[a,d,b,g,i,l,o,j,p,q,r,u,G,E,A,B,D,y,z,F,J,I,M,L,Q,N,O,T,R,t1,W,X,Z,Y,t0,U,t3,t4,t2,t7,t6,t5,t8],h⟩ =
 bm (aO R X (.lit (.bool false))) h fun v39 h40=>
 gd v39 (
 bm (aa s.P 55 l 1) h40 fun v41 h42=>
 bm (ab s.P 3 v41 h42) h42 fun v43 h44=>
 bm (aq s.P .geq 3 v43 (.lit (.int .i64 0))) h44 fun v45 h46=>
 yO s k wl 189 Tryz.f189 dg 21 m0 ac cT ⟨[a,d,b,g,i,l,o,j,p,q,r,u,G,E,A,B,D,y,z,F,J,I,M,L,Q,N,O,T,R,t1,W,X,v39,(.lit (.bool true)),v41,v43,v45,t4,t2,t7,t6,t5,t8],h46⟩) (
 yO s k wl 189 Tryz.f189 dg 21 m0 ac cT ⟨[a,d,b,g,i,l,o,j,p,q,r,u,G,E,A,B,D,y,z,F,J,I,M,L,Q,N,O,T,R,t1,W,X,v39,(.lit (.bool false)),uu,uu,uu,t4,t2,t7,t6,t5,t8],h40⟩) (
 yO s k wl 189 Tryz.f189 dg 19 m0 ac cT ⟨[a,d,b,g,i,l,o,j,p,q,r,u,G,E,A,B,D,y,z,F,J,I,M,L,Q,N,O,T,R,t1,W,X,v39,v39,uu,U,t3,t4,t2,t7,t6,t5,t8],h40⟩):=kG
theorem Hk (h:Hp):yO s k wl 189 Tryz.f189 dg 21 m0 ac cT ⟨[a,d,b,g,i,l,o,j,p,q,r,u,G,E,A,B,D,y,z,F,J,I,M,L,Q,N,O,T,R,t1,W,X,Z,Y,t0,U,t3,t4,t2,t7,t6,t5,t8],h⟩ =
 bm (aO Y t3 (.lit (.bool false))) h fun v47 h48=>
 gd v47 (
 bm (aa s.P 55 l 1) h48 fun v49 h50=>
 bm (ab s.P 3 v49 h50) h50 fun v51 h52=>
 bm (aq s.P .leq 3 v51 (.lit (.int .i64 2))) h52 fun v53 h54=>
 yO s k wl 189 Tryz.f189 dg 26 m0 ac cT ⟨[a,d,b,g,i,l,o,j,p,q,r,u,G,E,A,B,D,y,z,F,J,I,M,L,Q,N,O,T,R,t1,W,X,Z,Y,t0,U,t3,v47,(.lit (.bool true)),v49,v51,v53,t8],h54⟩) (
 yO s k wl 189 Tryz.f189 dg 26 m0 ac cT ⟨[a,d,b,g,i,l,o,j,p,q,r,u,G,E,A,B,D,y,z,F,J,I,M,L,Q,N,O,T,R,t1,W,X,Z,Y,t0,U,t3,v47,(.lit (.bool false)),uu,uu,uu,t8],h48⟩) (
 yO s k wl 189 Tryz.f189 dg 24 m0 ac cT ⟨[a,d,b,g,i,l,o,j,p,q,r,u,G,E,A,B,D,y,z,F,J,I,M,L,Q,N,O,T,R,t1,W,X,Z,Y,t0,U,t3,v47,v47,uu,t6,t5,t8],h48⟩):=kG
theorem Jo (h:Hp):yO s k wl 189 Tryz.f189 dg 26 m0 ac cT ⟨[a,d,b,g,i,l,o,j,p,q,r,u,G,E,A,B,D,y,z,F,J,I,M,L,Q,N,O,T,R,t1,W,X,Z,Y,t0,U,t3,t4,t2,t7,t6,t5,t8],h⟩ =
 bm (aO t2 t5 (.lit (.bool false))) h fun v55 h56=>
 some (v55,h56):=kG
theorem oW (cx:Cx) (K:Out→St→Option (V×Hp)) (s:St):au cx K cT .ret s=K .ret s:=by kernel_rfl
-- names: U3,Jr,JG,Iw,Hk,Jo,oW
theorem QH (h:Hp):ak (xX s 190 wl k false) Tryz.f190 [] h =
 bp (some (.map h.length,h++[.map []])) fun v1 h2=>
 bs (dX s.P wl 212 v1 (.lit (.int .i64 6)) (.fn (.func 215) [] []) h2) fun h3=>
 bs (dX s.P wl 212 v1 (.lit (.int .i64 7)) (.fn (.func 217) [] []) h3) fun h4=>
 some (v1,h4):=kB
theorem Ws (k wl:Nat) (h:Hp):evF Tryz.prog xM (k+1) wl 190 [] h=ak (xX (xS k) 190 wl k false) Tryz.f190 [] h:=by kernel_rfl
-- names: QH,
noncomputable def wQ:Code:=al (am Tryz.f194) [1,0,1,0,0]
noncomputable def u5:List Fr:=[.block 0,.seq (al (am Tryz.f194) [1,1])]
theorem R9 (h:Hp):ak (xX s 194 wl k false) Tryz.f194 [a,d,b] h =
 bp (aJ a h) fun v1 h2=>
 bp (some (.own h2.length 0 0,h2++[.rows 0 [] 0 true])) fun v3 h4=>
 bp (aX s.P 53 b h4) fun v5 h6=>
 yI s k wl 194 Tryz.f194 wQ h6.length u5 k ⟨[(V.kill h6.length a),(V.kill h6.length d),(V.kill h6.length b),(V.kill h6.length v1),(V.kill h6.length uu),(V.kill h6.length uu),(V.kill h6.length v3),(V.kill h6.length uu),(V.kill h6.length uu),(V.kill h6.length b),(V.kill h6.length v5),(.lit (.int .i64 0)),.junk,.junk,.junk,.junk,.junk,.junk,.junk,.junk,.junk,(V.kill h6.length uu)],bY h6.length h6⟩:=kB
theorem W5 (k wl:Nat) (h:Hp):evF Tryz.prog xM (k+1) wl 194 [a,d,b] h=ak (xX (xS k) 194 wl k false) Tryz.f194 [a,d,b] h:=by kernel_rfl
theorem Sq (P:Program) (h:Hp):av P Tryz.f194 .ret ⟨[a,d,b,g,i,l,o,j,p,q,r,u,G,E,A,B,D,y,z,F,J,I],h⟩=some (o,h):=by kernel_rfl
theorem Jk (s:Sys) (K:Out→St→Option (V×Hp)) (k wl:Nat) (rd:Bool) (n n0:Nat) (h:Hp):itX (xX s 194 wl k rd) wQ n0 K (n+1) ⟨[a,d,b,g,i,l,o,j,p,q,r,u,G,E,A,B,D,y,z,F,J,I],h⟩ =
 bm (aq s.P .lss 3 u r) h fun v7 h8=>
 cnd v7 (
 bm (ai s.P 53 q u h8) h8 fun v9 h10=>
 bm (ab s.P 3 v9 h10) h10 fun v11 h12=>
 bm (ab s.P 23 g h12) h12 fun v13 h14=>
 bp (cw (xX s 194 wl k rd) false true (.fn (.func 32) [] []) [v13,v11] h14) fun v15 h16=>
 bp (cw (xX s 194 wl k rd) false true (.fn (.func 88) [] []) [d,v15,(.lit (.int .u64 1))] h16) fun v17 h18=>
 bm (aq s.P .add 3 u (.lit (.int .i64 1))) h18 fun v19 h20=>
 itX (xX s 194 wl k rd) wQ n0 K n ⟨[(V.kill n0 a),(V.kill n0 v17),(V.kill n0 b),(V.kill n0 g),(V.kill n0 i),(V.kill n0 l),(V.kill n0 o),(V.kill n0 j),(V.kill n0 v11),(V.kill n0 q),(V.kill n0 r),(V.kill n0 v19),.junk,.junk,.junk,.junk,.junk,.junk,.junk,.junk,.junk,(V.kill n0 I)],bY n0 h20⟩) (
 K (.exit 0) ⟨[(V.kill n0 a),(V.kill n0 d),(V.kill n0 b),(V.kill n0 g),(V.kill n0 i),(V.kill n0 l),(V.kill n0 o),(V.kill n0 j),(V.kill n0 p),(V.kill n0 q),(V.kill n0 r),.junk,.junk,.junk,.junk,.junk,.junk,.junk,.junk,.junk,.junk,(V.kill n0 I)],bY n0 h8⟩):=kI
theorem CL (h:Hp):au (xX s 194 wl k false) (av s.P Tryz.f194) u5 (.exit 0) ⟨[a,d,b,g,i,l,o,j,p,q,r,u,G,E,A,B,D,y,z,F,J,I],h⟩ =
 some (d,h):=kR
theorem mo (cx:Cx) (K:Out→St→Option (V×Hp)) (s:St):au cx K u5 .ret s=K .ret s:=by kernel_rfl
-- names: R9,Sq,Jk,CL,mo
noncomputable def wA:List Fr:=[.seq (al (am Tryz.f207) [1,1,1,1])]
theorem V2 (h:Hp):ak (xX s 207 wl k false) Tryz.f207 [a,d,b] h =
 bp (aJ a h) fun v1 h2=>
 bp (aJ b h2) fun v3 h4=>
 bp (some (.own h4.length 0 0,h4++[.rows 0 [] 0 true])) fun v5 h6=>
 bp (ar s.P 55 h6) fun v7 h8=>
 stO h8.length v3 (
 bm (ab s.P 55 v3 h8) h8 fun v9 h10=>
 stO h8.length v1 (
 bm (ab s.P 23 v1 h10) h10 fun v11 h12=>
 bp (yC s k wl 207 true true (.fn (.func 76) [] []) [d] h12) fun v13 h14=>
 bm (bh s.P 235 [(0,v9),(1,v11),(2,v13)]) h14 fun v15 h16=>
 bp (aJ v15 h16) fun v17 h18=>
 bm (bh s.P 236 [(0,(.fn (.func 224) [v17] [])),(1,(.fn (.func 225) [v17] [])),(2,(.fn (.func 226) [v17] [])),(3,(.fn (.func 227) [v17] []))]) h18 fun v19 h20=>
 bp (ar s.P 236 h20) fun v21 h22=>
 bs (aj s.P wl 236 v21 v19 h22) fun h23=>
 bm (ab s.P 23 v1 h23) h23 fun v24 h25=>
 bm (ab s.P 55 v3 h25) h25 fun v26 h27=>
 bp (yC s k wl 207 false true (.fn (.func 188) [] []) [v24,d,v26,(.lit (.int .i64 0)),(.lit (.int .i64 4))] h27) fun v28 h29=>
 cnd v28 (
 bm (aa s.P 55 v3 1) h29 fun v30 h31=>
 bm (ab s.P 3 v30 h31) h31 fun v32 h33=>
 bm (ai s.P 236 v21 v32 h33) h33 fun v34 h35=>
 bm (ab s.P 1 v34 h35) h35 fun v36 h37=>
 bp (yC s k wl 207 false true v36 [] h37) fun v38 h39=>
 au (xX s 207 wl k false) (av s.P Tryz.f207) wA .norm ⟨[a,d,b,v1,uu,v3,v5,v7,v17,v21,v9,v11,d,v13,v15,v17,v17,(.fn (.func 224) [v17] []),v17,(.fn (.func 225) [v17] []),v17,(.fn (.func 226) [v17] []),v17,(.fn (.func 227) [v17] []),v19,v24,d,v26,v28,v30,v32,v34,v36,v38,uu,uu,uu,uu,uu,uu,uu,uu],h39⟩) (
 au (xX s 207 wl k false) (av s.P Tryz.f207) wA .norm ⟨[a,d,b,v1,uu,v3,v5,v7,v17,v21,v9,v11,d,v13,v15,v17,v17,(.fn (.func 224) [v17] []),v17,(.fn (.func 225) [v17] []),v17,(.fn (.func 226) [v17] []),v17,(.fn (.func 227) [v17] []),v19,v24,d,v26,v28,uu,uu,uu,uu,uu,uu,uu,uu,uu,uu,uu,uu,uu],h29⟩))):=kB
theorem aaO (k wl:Nat) (h:Hp):evF Tryz.prog xM (k+1) wl 207 [a,d,b] h=ak (xX (xS k) 207 wl k false) Tryz.f207 [a,d,b] h:=by kernel_rfl
theorem If (h:Hp):au (xX s 207 wl k false) (av s.P Tryz.f207) wA .norm ⟨[a,d,b,g,i,l,o,j,p,q,r,u,G,E,A,B,D,y,z,F,J,I,M,L,Q,N,O,T,R,t1,W,X,Z,Y,t0,U,t3,t4,t2,t7,t6,t5],h⟩ =
 bm (aL p h) h fun v40 h41=>
 bm (aa s.P 235 v40 2) h41 fun v42 h43=>
 bm (ab s.P 26 v42 h43) h43 fun v44 h45=>
 bm (aL p h45) h45 fun v46 h47=>
 bm (aa s.P 235 v46 0) h47 fun v48 h49=>
 bm (ab s.P 55 v48 h49) h49 fun v50 h51=>
 bs (aj s.P wl 55 j v50 h51) fun h52=>
 er [some v44,ab s.P 55 j h52] h52:=kR
theorem pD (cx:Cx) (K:Out→St→Option (V×Hp)) (s:St):au cx K wA .ret s=K .ret s:=by kernel_rfl
-- names: V2,If,pD
theorem WV (h:Hp):ak (xX s 208 wl k false) Tryz.f208 [a,d,b] h =
 bp (aJ a h) fun v1 h2=>
 bp (aJ b h2) fun v3 h4=>
 bp (some (.own h4.length 0 0,h4++[.rows 0 [] 0 true])) fun v5 h6=>
 bp (ar s.P 55 h6) fun v7 h8=>
 bp (yC s k wl 208 false true (.fn (.func 76) [] []) [d] h8) fun v9 h10=>
 bp (ar s.P 26 h10) fun v11 h12=>
 bs (aj s.P wl 26 v11 v9 h12) fun h13=>
 bm (ab s.P 23 v1 h13) h13 fun v14 h15=>
 bm (ab s.P 55 v3 h15) h15 fun v16 h17=>
 bp (yC s k wl 208 false true (.fn (.func 188) [] []) [v14,d,v16,(.lit (.int .i64 1)),(.lit (.int .i64 7))] h17) fun v18 h19=>
 bm (vUn .not v18) h19 fun v20 h21=>
 cnd v20 (
 bm (ab s.P 26 v11 h21) h21 fun v22 h23=>
 bm (ab s.P 55 v3 h23) h23 fun v24 h25=>
 bs (aj s.P wl 55 v7 v24 h25) fun h26=>
 er [some v22,ab s.P 55 v7 h26] h26) (
 bp (ar s.P 3 h21) fun v27 h28=>
 bm (ab s.P 23 v1 h28) h28 fun v29 h30=>
 bm (aa s.P 55 v3 2) h30 fun v31 h32=>
 bm (ab s.P 3 v31 h32) h32 fun v33 h34=>
 bp (yC s k wl 208 true true (.fn (.func 107) [] []) [v29,v33] h34) fun v35 h36=>
 stO h21.length v1 (
 bm (ab s.P 23 v1 h36) h36 fun v37 h38=>
 bm (aa s.P 55 v3 2) h38 fun v39 h40=>
 stO h21.length v39 (
 bm (ab s.P 3 v39 h40) h40 fun v41 h42=>
 bp (yC s k wl 208 true true (.fn (.func 108) [] []) [v37,v41] h42) fun v43 h44=>
 bs (aj s.P wl 3 v27 v43 h44) fun h45=>
 bm (aa s.P 55 v3 1) h45 fun v46 h47=>
 bm (ab s.P 3 v46 h47) h47 fun v48 h49=>
 bm (aq s.P .add 3 v48 (.lit (.int .i64 1))) h49 fun v50 h51=>
 bm (aa s.P 55 v3 1) h51 fun v52 h53=>
 bm (ab s.P 3 v52 h53) h53 fun v54 h55=>
 bm (aq s.P .eql 3 v54 (.lit (.int .i64 0))) h55 fun v56 h57=>
 cnd v56 (
 bm (ab s.P 26 v11 h57) h57 fun v58 h59=>
 bm (ab s.P 3 v27 h59) h59 fun v60 h61=>
 bp (yC s k wl 208 false true (.fn (.func 27) [] []) [v58,v60] h61) fun v62 h63=>
 bm (aq s.P .sub 46 v62 (.lit (.int .u64 1))) h63 fun v64 h65=>
 bm (aa s.P 55 v3 4) h65 fun v66 h67=>
 bs (aj s.P wl 46 v66 v64 h67) fun h68=>
 bm (aa s.P 55 v3 1) h68 fun v69 h70=>
 bs (aj s.P wl 3 v69 v50 h70) fun h71=>
 bm (ab s.P 26 v11 h71) h71 fun v72 h73=>
 bm (ab s.P 55 v3 h73) h73 fun v74 h75=>
 bs (aj s.P wl 55 v7 v74 h75) fun h76=>
 er [some v72,ab s.P 55 v7 h76] h76) (
 bm (aq s.P .eql 3 v54 (.lit (.int .i64 1))) h57 fun v77 h78=>
 cnd v77 (
 bm (ab s.P 26 v11 h78) h78 fun v79 h80=>
 bm (ab s.P 3 v27 h80) h80 fun v81 h82=>
 bm (aa s.P 55 v3 4) h82 fun v83 h84=>
 bm (ab s.P 46 v83 h84) h84 fun v85 h86=>
 bp (yC s k wl 208 false true (.fn (.func 88) [] []) [v79,v81,v85] h86) fun v87 h88=>
 bs (aj s.P wl 26 v11 v87 h88) fun h89=>
 bm (aa s.P 55 v3 1) h89 fun v90 h91=>
 bs (aj s.P wl 3 v90 v50 h91) fun h92=>
 bm (ab s.P 26 v11 h92) h92 fun v93 h94=>
 bm (ab s.P 55 v3 h94) h94 fun v95 h96=>
 bs (aj s.P wl 55 v7 v95 h96) fun h97=>
 er [some v93,ab s.P 55 v7 h97] h97) (
 bm (aq s.P .eql 3 v54 (.lit (.int .i64 2))) h78 fun v98 h99=>
 cnd v98 (
 bm (ab s.P 26 v11 h99) h99 fun v100 h101=>
 bp (yC s k wl 208 false true (.fn (.func 27) [] []) [v100,v35] h101) fun v102 h103=>
 bm (aa s.P 55 v3 5) h103 fun v104 h105=>
 bs (aj s.P wl 46 v104 v102 h105) fun h106=>
 bm (aa s.P 55 v3 4) h106 fun v107 h108=>
 bm (ab s.P 46 v107 h108) h108 fun v109 h110=>
 bm (aa s.P 55 v3 5) h110 fun v111 h112=>
 bm (ab s.P 46 v111 h112) h112 fun v113 h114=>
 bp (yC s k wl 208 false true (.fn (.func 106) [] []) [v109,v113] h114) fun v115 h116=>
 bm (aq s.P .lss 3 v115 (.lit (.int .i64 0))) h116 fun v117 h118=>
 cnd v117 (
 bm (aa s.P 55 v3 1) h118 fun v119 h120=>
 bs (aj s.P wl 3 v119 (.lit (.int .i64 6)) h120) fun h121=>
 bm (ab s.P 26 v11 h121) h121 fun v122 h123=>
 bm (ab s.P 55 v3 h123) h123 fun v124 h125=>
 bs (aj s.P wl 55 v7 v124 h125) fun h126=>
 er [some v122,ab s.P 55 v7 h126] h126) (
 bm (aa s.P 55 v3 1) h118 fun v127 h128=>
 bs (aj s.P wl 3 v127 v50 h128) fun h129=>
 bm (ab s.P 26 v11 h129) h129 fun v130 h131=>
 bm (ab s.P 55 v3 h131) h131 fun v132 h133=>
 bs (aj s.P wl 55 v7 v132 h133) fun h134=>
 er [some v130,ab s.P 55 v7 h134] h134)) (
 bm (aq s.P .eql 3 v54 (.lit (.int .i64 3))) h99 fun v135 h136=>
 cnd v135 (
 stO h136.length v11 (
 bm (ab s.P 26 v11 h136) h136 fun v137 h138=>
 bm (ab s.P 23 v1 h138) h138 fun v139 h140=>
 bm (aa s.P 55 v3 2) h140 fun v141 h142=>
 bm (ab s.P 3 v141 h142) h142 fun v143 h144=>
 bm (aa s.P 55 v3 4) h144 fun v145 h146=>
 bm (ab s.P 46 v145 h146) h146 fun v147 h148=>
 bp (yC s k wl 208 true true (.fn (.func 109) [] []) [v139,v143,v147] h148) fun v149 h150=>
 bp (yC s k wl 208 false true (.fn (.func 27) [] []) [v137,v149] h150) fun v151 h152=>
 bm (aa s.P 55 v3 3) h152 fun v153 h154=>
 bs (aj s.P wl 46 v153 v151 h154) fun h155=>
 bm (aa s.P 55 v3 4) h155 fun v156 h157=>
 bm (ab s.P 46 v156 h157) h157 fun v158 h159=>
 bm (aa s.P 55 v3 5) h159 fun v160 h161=>
 bm (ab s.P 46 v160 h161) h161 fun v162 h163=>
 bm (aq s.P .neq 46 v158 v162) h163 fun v164 h165=>
 cnd v164 (
 stO h165.length v11 (
 bm (ab s.P 26 v11 h165) h165 fun v166 h167=>
 bm (ab s.P 55 v3 h167) h167 fun v168 h169=>
 bm (aa s.P 55 v3 3) h169 fun v170 h171=>
 bm (ab s.P 46 v170 h171) h171 fun v172 h173=>
 bp (yC s k wl 208 true true (.fn (.func 193) [] []) [v168,(.lit (.int .i64 1)),v172] h173) fun v174 h175=>
 bs (aj s.P wl 55 v7 v174 h175) fun h176=>
 er [some v166,ab s.P 55 v7 h176] h176)) (
 bm (aa s.P 55 v3 1) h165 fun v177 h178=>
 bs (aj s.P wl 3 v177 v50 h178) fun h179=>
 bm (ab s.P 26 v11 h179) h179 fun v180 h181=>
 bm (ab s.P 55 v3 h181) h181 fun v182 h183=>
 bs (aj s.P wl 55 v7 v182 h183) fun h184=>
 er [some v180,ab s.P 55 v7 h184] h184))) (
 bm (aq s.P .eql 3 v54 (.lit (.int .i64 4))) h136 fun v185 h186=>
 cnd v185 (
 bm (ab s.P 26 v11 h186) h186 fun v187 h188=>
 bm (aa s.P 55 v3 5) h188 fun v189 h190=>
 bm (ab s.P 46 v189 h190) h190 fun v191 h192=>
 bm (aa s.P 55 v3 5) h192 fun v193 h194=>
 bm (ab s.P 46 v193 h194) h194 fun v195 h196=>
 bm (aq s.P .add 46 v195 (.lit (.int .u64 1))) h196 fun v197 h198=>
 bp (yC s k wl 208 false true (.fn (.func 191) [] []) [v187,v35,v191,v197] h198) fun v199 h200=>
 bm (ao v199 0) h200 fun v201 h202=>
 bm (ao v199 1) h202 fun v203 h204=>
 bs (aj s.P wl 26 v11 v201 h204) fun h205=>
 bm (vUn .not v203) h205 fun v206 h207=>
 cnd v206 (
 bm (aa s.P 55 v3 1) h207 fun v208 h209=>
 bs (aj s.P wl 3 v208 (.lit (.int .i64 6)) h209) fun h210=>
 bm (ab s.P 26 v11 h210) h210 fun v211 h212=>
 bm (ab s.P 55 v3 h212) h212 fun v213 h214=>
 bs (aj s.P wl 55 v7 v213 h214) fun h215=>
 er [some v211,ab s.P 55 v7 h215] h215) (
 bm (aa s.P 55 v3 1) h207 fun v216 h217=>
 bs (aj s.P wl 3 v216 v50 h217) fun h218=>
 bm (ab s.P 26 v11 h218) h218 fun v219 h220=>
 bm (ab s.P 55 v3 h220) h220 fun v221 h222=>
 bs (aj s.P wl 55 v7 v221 h222) fun h223=>
 er [some v219,ab s.P 55 v7 h223] h223)) (
 bm (aq s.P .eql 3 v54 (.lit (.int .i64 5))) h186 fun v224 h225=>
 cnd v224 (
 bm (aa s.P 55 v3 3) h225 fun v226 h227=>
 bm (ab s.P 46 v226 h227) h227 fun v228 h229=>
 bp (yC s k wl 208 false true (.fn (.func 228) [] [v11,v27,v3]) [(.lit (.int .i64 1)),v228] h229) fun v230 h231=>
 bm (ao v230 0) h231 fun v232 h233=>
 bm (ao v230 1) h233 fun v234 h235=>
 bs (aj s.P wl 55 v7 v234 h235) fun h236=>
 er [some v232,ab s.P 55 v7 h236] h236) (
 bp (yC s k wl 208 false true (.fn (.func 228) [] [v11,v27,v3]) [(.lit (.int .i64 3)),(.lit (.int .u64 0))] h225) fun v237 h238=>
 bm (ao v237 0) h238 fun v239 h240=>
 bm (ao v237 1) h240 fun v241 h242=>
 bs (aj s.P wl 55 v7 v241 h242) fun h243=>
 er [some v239,ab s.P 55 v7 h243] h243))))))))):=kB
theorem aa6 (k wl:Nat) (h:Hp):evF Tryz.prog xM (k+1) wl 208 [a,d,b] h=ak (xX (xS k) 208 wl k false) Tryz.f208 [a,d,b] h:=by kernel_rfl
-- names: WV,
noncomputable def wI:Code:=al (am Tryz.f209) [1,0,1,1,1,1,1,0,1,0,0]
noncomputable def wH:List Fr:=[.block 0,.seq (al (am Tryz.f209) [1,0,1,1,1,1,1,1]),.scope (al (am Tryz.f209) [1,0])]
theorem RH (h:Hp):ak (xX s 209 wl k false) Tryz.f209 [a,d,b] h =
 bp (aJ a h) fun v1 h2=>
 bp (aJ b h2) fun v3 h4=>
 bp (some (.own h4.length 0 0,h4++[.rows 0 [] 0 true])) fun v5 h6=>
 bp (ar s.P 55 h6) fun v7 h8=>
 bp (yC s k wl 209 false true (.fn (.func 76) [] []) [d] h8) fun v9 h10=>
 bp (ar s.P 26 h10) fun v11 h12=>
 bs (aj s.P wl 26 v11 v9 h12) fun h13=>
 bm (ab s.P 23 v1 h13) h13 fun v14 h15=>
 bm (ab s.P 55 v3 h15) h15 fun v16 h17=>
 bp (yC s k wl 209 false true (.fn (.func 188) [] []) [v14,d,v16,(.lit (.int .i64 2)),(.lit (.int .i64 4))] h17) fun v18 h19=>
 bm (vUn .not v18) h19 fun v20 h21=>
 cnd v20 (
 bm (ab s.P 26 v11 h21) h21 fun v22 h23=>
 bm (ab s.P 55 v3 h23) h23 fun v24 h25=>
 bs (aj s.P wl 55 v7 v24 h25) fun h26=>
 er [some v22,ab s.P 55 v7 h26] h26) (
 bp (ar s.P 3 h21) fun v27 h28=>
 bp (ar s.P 3 h28) fun v29 h30=>
 bm (ab s.P 23 v1 h30) h30 fun v31 h32=>
 bm (aa s.P 55 v3 2) h32 fun v33 h34=>
 bm (ab s.P 3 v33 h34) h34 fun v35 h36=>
 bp (yC s k wl 209 true true (.fn (.func 107) [] []) [v31,v35] h36) fun v37 h38=>
 stO h21.length v1 (
 bm (ab s.P 23 v1 h38) h38 fun v39 h40=>
 bm (aa s.P 55 v3 2) h40 fun v41 h42=>
 stO h21.length v41 (
 bm (ab s.P 3 v41 h42) h42 fun v43 h44=>
 bp (yC s k wl 209 true true (.fn (.func 108) [] []) [v39,v43] h44) fun v45 h46=>
 bs (aj s.P wl 3 v27 v37 h46) fun h47=>
 bs (aj s.P wl 3 v29 v45 h47) fun h48=>
 bp (aB s.P wl 238 4 [(0,(.fn (.func 229) [] [v11,v27,v3])),(1,(.fn (.func 230) [] [v11,v29,v3])),(2,(.fn (.func 231) [] [v11,v1,v3])),(3,(.fn (.func 232) [] [v11,v27,v3]))] h48) fun v49 h50=>
 bp (aX s.P 238 v49 h50) fun v51 h52=>
 yI s k wl 209 Tryz.f209 wI h52.length wH k ⟨[(V.kill h52.length a),(V.kill h52.length d),(V.kill h52.length b),(V.kill h52.length v1),(V.kill h52.length uu),(V.kill h52.length v3),(V.kill h52.length v5),(V.kill h52.length v7),(V.kill h52.length v11),(V.kill h52.length v27),(V.kill h52.length v29),(V.kill h52.length v49),(V.kill h52.length uu),(V.kill h52.length uu),(V.kill h52.length d),(V.kill h52.length v9),(V.kill h52.length v14),(V.kill h52.length d),(V.kill h52.length v16),(V.kill h52.length v18),(V.kill h52.length v20),(V.kill h52.length uu),(V.kill h52.length uu),(V.kill h52.length v31),(V.kill h52.length v33),(V.kill h52.length v35),(V.kill h52.length v37),(V.kill h52.length v39),(V.kill h52.length v41),(V.kill h52.length v43),(V.kill h52.length v45),(V.kill h52.length (.fn (.func 229) [] [v11,v27,v3])),(V.kill h52.length (.fn (.func 230) [] [v11,v29,v3])),(V.kill h52.length (.fn (.func 231) [] [v11,v1,v3])),(V.kill h52.length (.fn (.func 232) [] [v11,v27,v3])),(V.kill h52.length v49),(V.kill h52.length v49),(V.kill h52.length v51),(.lit (.int .i64 0)),.junk,.junk,.junk,.junk,.junk,.junk,.junk,.junk,.junk,.junk,.junk,.junk,.junk,.junk,.junk,.junk,.junk,.junk,(V.kill h52.length uu),(V.kill h52.length uu)],bY h52.length h52⟩))):=kB
theorem U6 (k wl:Nat) (h:Hp):evF Tryz.prog xM (k+1) wl 209 [a,d,b] h=ak (xX (xS k) 209 wl k false) Tryz.f209 [a,d,b] h:=by kernel_rfl
theorem S4 (P:Program) (h:Hp):av P Tryz.f209 .ret ⟨[a,d,b,g,i,l,o,j,p,q,r,u,G,E,A,B,D,y,z,F,J,I,M,L,Q,N,O,T,R,t1,W,X,Z,Y,t0,U,t3,t4,t2,t7,t6,t5,t8,tc,th,td,ta,ti,te,tj,tf,tg,tb,t9,tm,tn,tp,tk,tl],h⟩=er [some o,ab P 55 j h] h:=by kernel_rfl
theorem J4 (s:Sys) (K:Out→St→Option (V×Hp)) (k wl:Nat) (rd:Bool) (n n0:Nat) (h:Hp):itX (xX s 209 wl k rd) wI n0 K (n+1) ⟨[a,d,b,g,i,l,o,j,p,q,r,u,G,E,A,B,D,y,z,F,J,I,M,L,Q,N,O,T,R,t1,W,X,Z,Y,t0,U,t3,t4,t2,t7,t6,t5,t8,tc,th,td,ta,ti,te,tj,tf,tg,tb,t9,tm,tn,tp,tk,tl],h⟩ =
 bm (aq s.P .lss 3 t2 t4) h fun v53 h54=>
 cnd v53 (
 bm (ai s.P 238 t3 t2 h54) h54 fun v55 h56=>
 bm (ab s.P 1 v55 h56) h56 fun v57 h58=>
 bm (aa s.P 55 l 1) h58 fun v59 h60=>
 bm (ab s.P 3 v59 h60) h60 fun v61 h62=>
 bm (aq s.P .neq 3 t2 v61) h62 fun v63 h64=>
 cnd v63 (
 bm (aq s.P .add 3 t2 (.lit (.int .i64 1))) h64 fun v65 h66=>
 itX (xX s 209 wl k rd) wI n0 K n ⟨[(V.kill n0 a),(V.kill n0 d),(V.kill n0 b),(V.kill n0 g),(V.kill n0 i),(V.kill n0 l),(V.kill n0 o),(V.kill n0 j),(V.kill n0 p),(V.kill n0 q),(V.kill n0 r),(V.kill n0 u),(V.kill n0 t2),(V.kill n0 v57),(V.kill n0 A),(V.kill n0 B),(V.kill n0 D),(V.kill n0 y),(V.kill n0 z),(V.kill n0 F),(V.kill n0 J),(V.kill n0 I),(V.kill n0 M),(V.kill n0 L),(V.kill n0 Q),(V.kill n0 N),(V.kill n0 O),(V.kill n0 T),(V.kill n0 R),(V.kill n0 t1),(V.kill n0 W),(V.kill n0 X),(V.kill n0 Z),(V.kill n0 Y),(V.kill n0 t0),(V.kill n0 U),(V.kill n0 t3),(V.kill n0 t4),(V.kill n0 v65),.junk,.junk,.junk,.junk,.junk,.junk,.junk,.junk,.junk,.junk,.junk,.junk,.junk,.junk,.junk,.junk,.junk,.junk,(V.kill n0 tk),(V.kill n0 tl)],bY n0 h66⟩) (
 bp (cw (xX s 209 wl k rd) false true v57 [] h64) fun v67 h68=>
 bm (ab s.P 55 l h68) h68 fun v69 h70=>
 bp (cw (xX s 209 wl k rd) false true (.fn (.func 110) [] []) [v69] h70) fun v71 h72=>
 bm (vUn .not v71) h72 fun v73 h74=>
 cnd v73 (
 bm (aa s.P 55 l 1) h74 fun v75 h76=>
 bm (ab s.P 3 v75 h76) h76 fun v77 h78=>
 bm (aq s.P .add 3 v77 (.lit (.int .i64 1))) h78 fun v79 h80=>
 bm (aa s.P 55 l 1) h80 fun v81 h82=>
 bs (aj s.P wl 3 v81 v79 h82) fun h83=>
 K (.exit 0) ⟨[(V.kill n0 a),(V.kill n0 d),(V.kill n0 b),(V.kill n0 g),(V.kill n0 i),(V.kill n0 l),(V.kill n0 o),(V.kill n0 j),(V.kill n0 p),(V.kill n0 q),(V.kill n0 r),(V.kill n0 u),(V.kill n0 t2),(V.kill n0 v57),(V.kill n0 A),(V.kill n0 B),(V.kill n0 D),(V.kill n0 y),(V.kill n0 z),(V.kill n0 F),(V.kill n0 J),(V.kill n0 I),(V.kill n0 M),(V.kill n0 L),(V.kill n0 Q),(V.kill n0 N),(V.kill n0 O),(V.kill n0 T),(V.kill n0 R),(V.kill n0 t1),(V.kill n0 W),(V.kill n0 X),(V.kill n0 Z),(V.kill n0 Y),(V.kill n0 t0),(V.kill n0 U),(V.kill n0 t3),(V.kill n0 t4),.junk,.junk,.junk,.junk,.junk,.junk,.junk,.junk,.junk,.junk,.junk,.junk,.junk,.junk,.junk,.junk,.junk,.junk,.junk,(V.kill n0 tk),(V.kill n0 tl)],bY n0 h83⟩) (
 K (.exit 0) ⟨[(V.kill n0 a),(V.kill n0 d),(V.kill n0 b),(V.kill n0 g),(V.kill n0 i),(V.kill n0 l),(V.kill n0 o),(V.kill n0 j),(V.kill n0 p),(V.kill n0 q),(V.kill n0 r),(V.kill n0 u),(V.kill n0 t2),(V.kill n0 v57),(V.kill n0 A),(V.kill n0 B),(V.kill n0 D),(V.kill n0 y),(V.kill n0 z),(V.kill n0 F),(V.kill n0 J),(V.kill n0 I),(V.kill n0 M),(V.kill n0 L),(V.kill n0 Q),(V.kill n0 N),(V.kill n0 O),(V.kill n0 T),(V.kill n0 R),(V.kill n0 t1),(V.kill n0 W),(V.kill n0 X),(V.kill n0 Z),(V.kill n0 Y),(V.kill n0 t0),(V.kill n0 U),(V.kill n0 t3),(V.kill n0 t4),.junk,.junk,.junk,.junk,.junk,.junk,.junk,.junk,.junk,.junk,.junk,.junk,.junk,.junk,.junk,.junk,.junk,.junk,.junk,(V.kill n0 tk),(V.kill n0 tl)],bY n0 h74⟩))) (
 K (.exit 0) ⟨[(V.kill n0 a),(V.kill n0 d),(V.kill n0 b),(V.kill n0 g),(V.kill n0 i),(V.kill n0 l),(V.kill n0 o),(V.kill n0 j),(V.kill n0 p),(V.kill n0 q),(V.kill n0 r),(V.kill n0 u),(V.kill n0 G),(V.kill n0 E),(V.kill n0 A),(V.kill n0 B),(V.kill n0 D),(V.kill n0 y),(V.kill n0 z),(V.kill n0 F),(V.kill n0 J),(V.kill n0 I),(V.kill n0 M),(V.kill n0 L),(V.kill n0 Q),(V.kill n0 N),(V.kill n0 O),(V.kill n0 T),(V.kill n0 R),(V.kill n0 t1),(V.kill n0 W),(V.kill n0 X),(V.kill n0 Z),(V.kill n0 Y),(V.kill n0 t0),(V.kill n0 U),(V.kill n0 t3),(V.kill n0 t4),.junk,.junk,.junk,.junk,.junk,.junk,.junk,.junk,.junk,.junk,.junk,.junk,.junk,.junk,.junk,.junk,.junk,.junk,.junk,(V.kill n0 tk),(V.kill n0 tl)],bY n0 h54⟩):=kI
theorem Dx (h:Hp):au (xX s 209 wl k false) (av s.P Tryz.f209) wH (.exit 0) ⟨[a,d,b,g,i,l,o,j,p,q,r,u,G,E,A,B,D,y,z,F,J,I,M,L,Q,N,O,T,R,t1,W,X,Z,Y,t0,U,t3,t4,t2,t7,t6,t5,t8,tc,th,td,ta,ti,te,tj,tf,tg,tb,t9,tm,tn,tp,tk,tl],h⟩ =
 bm (ab s.P 26 p h) h fun v84 h85=>
 bm (ab s.P 55 l h85) h85 fun v86 h87=>
 bs (aj s.P wl 55 j v86 h87) fun h88=>
 er [some v84,ab s.P 55 j h88] h88:=kR
theorem md (cx:Cx) (K:Out→St→Option (V×Hp)) (s:St):au cx K wH .ret s=K .ret s:=by kernel_rfl
-- names: RH,S4,J4,Dx,md
theorem Ml (h:Hp):ak (xX s 215 wl k false) Tryz.f215 [a] h =
 bp (yC s k wl 215 false true (.fn (.func 216) [] []) [a] h) fun v1 h2=>
 bm (ao v1 0) h2 fun v3 h4=>
 bm (ao v1 1) h4 fun v5 h6=>
 bm (gu true [v5,(.lit (.int .i64 0))]) h6 fun v7 h8=>
 bm (fj s.P 3 46 v7) h8 fun v9 h10=>
 some (.tup [v3,v9],h10):=kB
theorem Tb (k wl:Nat) (h:Hp):evF Tryz.prog xM (k+1) wl 215 [a] h=ak (xX (xS k) 215 wl k false) Tryz.f215 [a] h:=by kernel_rfl
-- names: Ml,
theorem LE (h:Hp):ak (xX s 217 wl k false) Tryz.f217 [a] h =
 bp (yC s k wl 217 false true (.fn (.func 218) [] []) [a] h) fun v1 h2=>
 bp (yC s k wl 217 false true (.fn (.func 192) [] []) [a] h2) fun v3 h4=>
 some (.tup [v1,v3],h4):=kB
theorem P8 (k wl:Nat) (h:Hp):evF Tryz.prog xM (k+1) wl 217 [a] h=ak (xX (xS k) 217 wl k false) Tryz.f217 [a] h:=by kernel_rfl
-- names: LE,
theorem Up (h:Hp):ak (xX s 224 wl k false) Tryz.f224 [a] h =
 stO h.length a (
 bm (aL a h) h fun v1 h2=>
 bm (aa s.P 235 v1 2) h2 fun v3 h4=>
 stO h.length v3 (
 bm (ab s.P 26 v3 h4) h4 fun v5 h6=>
 bm (aL a h6) h6 fun v7 h8=>
 bm (aa s.P 235 v7 1) h8 fun v9 h10=>
 bm (ab s.P 23 v9 h10) h10 fun v11 h12=>
 bm (aL a h12) h12 fun v13 h14=>
 bm (aa s.P 235 v13 0) h14 fun v15 h16=>
 bm (aa s.P 55 v15 2) h16 fun v17 h18=>
 bm (ab s.P 3 v17 h18) h18 fun v19 h20=>
 bp (yC s k wl 224 true true (.fn (.func 108) [] []) [v11,v19] h20) fun v21 h22=>
 bp (yC s k wl 224 false true (.fn (.func 27) [] []) [v5,v21] h22) fun v23 h24=>
 bm (aL a h24) h24 fun v25 h26=>
 bm (aa s.P 235 v25 0) h26 fun v27 h28=>
 bm (aa s.P 55 v27 4) h28 fun v29 h30=>
 bs (aj s.P wl 46 v29 v23 h30) fun h31=>
 bm (aL a h31) h31 fun v32 h33=>
 bm (aa s.P 235 v32 0) h33 fun v34 h35=>
 bm (aa s.P 55 v34 1) h35 fun v36 h37=>
 bs (aj s.P wl 3 v36 (.lit (.int .i64 1)) h37) fun h38=>
 some (.tup [],h38))):=kB
theorem aau (k wl:Nat) (h:Hp):evF Tryz.prog xM (k+1) wl 224 [a] h=ak (xX (xS k) 224 wl k false) Tryz.f224 [a] h:=by kernel_rfl
-- names: Up,
theorem U7 (h:Hp):ak (xX s 225 wl k false) Tryz.f225 [a] h =
 stO h.length a (
 bm (aL a h) h fun v1 h2=>
 bm (aa s.P 235 v1 2) h2 fun v3 h4=>
 stO h.length v3 (
 bm (ab s.P 26 v3 h4) h4 fun v5 h6=>
 bm (aL a h6) h6 fun v7 h8=>
 bm (aa s.P 235 v7 1) h8 fun v9 h10=>
 bm (ab s.P 23 v9 h10) h10 fun v11 h12=>
 bm (aL a h12) h12 fun v13 h14=>
 bm (aa s.P 235 v13 0) h14 fun v15 h16=>
 bm (aa s.P 55 v15 2) h16 fun v17 h18=>
 bm (ab s.P 3 v17 h18) h18 fun v19 h20=>
 bp (yC s k wl 225 true true (.fn (.func 107) [] []) [v11,v19] h20) fun v21 h22=>
 bp (yC s k wl 225 false true (.fn (.func 27) [] []) [v5,v21] h22) fun v23 h24=>
 bm (aL a h24) h24 fun v25 h26=>
 bm (aa s.P 235 v25 0) h26 fun v27 h28=>
 bm (aa s.P 55 v27 5) h28 fun v29 h30=>
 bs (aj s.P wl 46 v29 v23 h30) fun h31=>
 bm (aL a h31) h31 fun v32 h33=>
 bm (aa s.P 235 v32 0) h33 fun v34 h35=>
 bm (aa s.P 55 v34 1) h35 fun v36 h37=>
 bs (aj s.P wl 3 v36 (.lit (.int .i64 2)) h37) fun h38=>
 bm (aL a h38) h38 fun v39 h40=>
 bm (aa s.P 235 v39 0) h40 fun v41 h42=>
 bm (aa s.P 55 v41 4) h42 fun v43 h44=>
 bm (ab s.P 46 v43 h44) h44 fun v45 h46=>
 bm (aL a h46) h46 fun v47 h48=>
 bm (aa s.P 235 v47 0) h48 fun v49 h50=>
 bm (aa s.P 55 v49 5) h50 fun v51 h52=>
 bm (ab s.P 46 v51 h52) h52 fun v53 h54=>
 bm (aq s.P .sub 46 v45 v53) h54 fun v55 h56=>
 bm (aL a h56) h56 fun v57 h58=>
 bm (aa s.P 235 v57 1) h58 fun v59 h60=>
 bm (aa s.P 23 v59 1) h60 fun v61 h62=>
 bm (ab s.P 3 v61 h62) h62 fun v63 h64=>
 bm (fj s.P 3 46 v63) h64 fun v65 h66=>
 bm (aq s.P .geq 46 v55 v65) h66 fun v67 h68=>
 cnd v67 (
 bm (aL a h68) h68 fun v69 h70=>
 bm (aa s.P 235 v69 0) h70 fun v71 h72=>
 bm (ab s.P 55 v71 h72) h72 fun v73 h74=>
 bm (aL a h74) h74 fun v75 h76=>
 bm (aa s.P 235 v75 0) h76 fun v77 h78=>
 bm (aa s.P 55 v77 3) h78 fun v79 h80=>
 bm (ab s.P 46 v79 h80) h80 fun v81 h82=>
 bp (yC s k wl 225 false true (.fn (.func 193) [] []) [v73,(.lit (.int .i64 2)),v81] h82) fun v83 h84=>
 bm (aL a h84) h84 fun v85 h86=>
 bm (aa s.P 235 v85 0) h86 fun v87 h88=>
 bs (aj s.P wl 55 v87 v83 h88) fun h89=>
 some (.tup [],h89)) (
 some (.tup [],h68)))):=kB
theorem aai (k wl:Nat) (h:Hp):evF Tryz.prog xM (k+1) wl 225 [a] h=ak (xX (xS k) 225 wl k false) Tryz.f225 [a] h:=by kernel_rfl
-- names: U7,
theorem XM (h:Hp):ak (xX s 226 wl k false) Tryz.f226 [a] h =
 stO h.length a (
 bm (aL a h) h fun v1 h2=>
 bm (aa s.P 235 v1 2) h2 fun v3 h4=>
 stO h.length v3 (
 bm (ab s.P 26 v3 h4) h4 fun v5 h6=>
 bm (aL a h6) h6 fun v7 h8=>
 bm (aa s.P 235 v7 1) h8 fun v9 h10=>
 bm (ab s.P 23 v9 h10) h10 fun v11 h12=>
 bm (aL a h12) h12 fun v13 h14=>
 bm (aa s.P 235 v13 0) h14 fun v15 h16=>
 bm (aa s.P 55 v15 2) h16 fun v17 h18=>
 bm (ab s.P 3 v17 h18) h18 fun v19 h20=>
 bm (aL a h20) h20 fun v21 h22=>
 bm (aa s.P 235 v21 0) h22 fun v23 h24=>
 bm (aa s.P 55 v23 4) h24 fun v25 h26=>
 bm (ab s.P 46 v25 h26) h26 fun v27 h28=>
 bp (yC s k wl 226 true true (.fn (.func 109) [] []) [v11,v19,v27] h28) fun v29 h30=>
 stO h.length a (
 bm (aL a h30) h30 fun v31 h32=>
 bm (aa s.P 235 v31 0) h32 fun v33 h34=>
 bm (aa s.P 55 v33 3) h34 fun v35 h36=>
 stO h.length v35 (
 bm (ab s.P 46 v35 h36) h36 fun v37 h38=>
 bp (yC s k wl 226 false true (.fn (.func 88) [] []) [v5,v29,v37] h38) fun v39 h40=>
 bm (aL a h40) h40 fun v41 h42=>
 bm (aa s.P 235 v41 2) h42 fun v43 h44=>
 bs (aj s.P wl 26 v43 v39 h44) fun h45=>
 bm (aL a h45) h45 fun v46 h47=>
 bm (aa s.P 235 v46 0) h47 fun v48 h49=>
 bm (aa s.P 55 v48 1) h49 fun v50 h51=>
 bs (aj s.P wl 3 v50 (.lit (.int .i64 3)) h51) fun h52=>
 some (.tup [],h52))))):=kB
theorem aa2 (k wl:Nat) (h:Hp):evF Tryz.prog xM (k+1) wl 226 [a] h=ak (xX (xS k) 226 wl k false) Tryz.f226 [a] h:=by kernel_rfl
-- names: XM,
theorem VJ (h:Hp):ak (xX s 227 wl k false) Tryz.f227 [a] h =
 stO h.length a (
 bm (aL a h) h fun v1 h2=>
 bm (aa s.P 235 v1 2) h2 fun v3 h4=>
 stO h.length v3 (
 bm (ab s.P 26 v3 h4) h4 fun v5 h6=>
 bm (aL a h6) h6 fun v7 h8=>
 bm (aa s.P 235 v7 1) h8 fun v9 h10=>
 bm (ab s.P 23 v9 h10) h10 fun v11 h12=>
 bm (aL a h12) h12 fun v13 h14=>
 bm (aa s.P 235 v13 0) h14 fun v15 h16=>
 bm (aa s.P 55 v15 2) h16 fun v17 h18=>
 bm (ab s.P 3 v17 h18) h18 fun v19 h20=>
 bp (yC s k wl 227 true true (.fn (.func 108) [] []) [v11,v19] h20) fun v21 h22=>
 stO h.length a (
 bm (aL a h22) h22 fun v23 h24=>
 bm (aa s.P 235 v23 0) h24 fun v25 h26=>
 bm (aa s.P 55 v25 4) h26 fun v27 h28=>
 stO h.length v27 (
 bm (ab s.P 46 v27 h28) h28 fun v29 h30=>
 bm (aq s.P .add 46 v29 (.lit (.int .u64 1))) h30 fun v31 h32=>
 bp (yC s k wl 227 false true (.fn (.func 88) [] []) [v5,v21,v31] h32) fun v33 h34=>
 bm (aL a h34) h34 fun v35 h36=>
 bm (aa s.P 235 v35 2) h36 fun v37 h38=>
 bs (aj s.P wl 26 v37 v33 h38) fun h39=>
 bm (aL a h39) h39 fun v40 h41=>
 bm (aa s.P 235 v40 0) h41 fun v42 h43=>
 bm (ab s.P 55 v42 h43) h43 fun v44 h45=>
 bm (aL a h45) h45 fun v46 h47=>
 bm (aa s.P 235 v46 0) h47 fun v48 h49=>
 bm (aa s.P 55 v48 3) h49 fun v50 h51=>
 bm (ab s.P 46 v50 h51) h51 fun v52 h53=>
 bp (yC s k wl 227 false true (.fn (.func 193) [] []) [v44,(.lit (.int .i64 1)),v52] h53) fun v54 h55=>
 bm (aL a h55) h55 fun v56 h57=>
 bm (aa s.P 235 v56 0) h57 fun v58 h59=>
 bs (aj s.P wl 55 v58 v54 h59) fun h60=>
 some (.tup [],h60))))):=kB
theorem abT (k wl:Nat) (h:Hp):evF Tryz.prog xM (k+1) wl 227 [a] h=ak (xX (xS k) 227 wl k false) Tryz.f227 [a] h:=by kernel_rfl
-- names: VJ,
theorem YC (h:Hp):ak (xX s 228 wl k false) Tryz.f228 [a,d,b,g,i] h =
 bp (some (.own h.length 0 0,h++[.rows 0 [] 0 true])) fun v1 h2=>
 bp (ar s.P 55 h2) fun v3 h4=>
 bm (ab s.P 26 b h4) h4 fun v5 h6=>
 bm (ab s.P 3 g h6) h6 fun v7 h8=>
 bm (aa s.P 55 i 4) h8 fun v9 h10=>
 bm (ab s.P 46 v9 h10) h10 fun v11 h12=>
 bm (aq s.P .add 46 v11 (.lit (.int .u64 1))) h12 fun v13 h14=>
 bp (yC s k wl 228 true true (.fn (.func 88) [] []) [v5,v7,v13] h14) fun v15 h16=>
 stO h4.length i (
 bm (ab s.P 55 i h16) h16 fun v17 h18=>
 bp (yC s k wl 228 false true (.fn (.func 193) [] []) [v17,a,d] h18) fun v19 h20=>
 bs (aj s.P wl 55 v3 v19 h20) fun h21=>
 er [some v15,ab s.P 55 v3 h21] h21):=kB
theorem abz (k wl:Nat) (h:Hp):evF Tryz.prog xM (k+1) wl 228 [a,d,b,g,i] h=ak (xX (xS k) 228 wl k false) Tryz.f228 [a,d,b,g,i] h:=by kernel_rfl
-- names: YC,
theorem Tx (h:Hp):ak (xX s 229 wl k false) Tryz.f229 [a,d,b] h =
 bm (ab s.P 26 a h) h fun v1 h2=>
 bm (ab s.P 3 d h2) h2 fun v3 h4=>
 bp (yC s k wl 229 false true (.fn (.func 27) [] []) [v1,v3] h4) fun v5 h6=>
 bm (aa s.P 55 b 5) h6 fun v7 h8=>
 bs (aj s.P wl 46 v7 v5 h8) fun h9=>
 some (.tup [],h9):=kB
theorem Wk (k wl:Nat) (h:Hp):evF Tryz.prog xM (k+1) wl 229 [a,d,b] h=ak (xX (xS k) 229 wl k false) Tryz.f229 [a,d,b] h:=by kernel_rfl
-- names: Tx,
theorem P7 (h:Hp):ak (xX s 230 wl k false) Tryz.f230 [a,d,b] h =
 bm (ab s.P 26 a h) h fun v1 h2=>
 bm (ab s.P 3 d h2) h2 fun v3 h4=>
 bp (yC s k wl 230 false true (.fn (.func 27) [] []) [v1,v3] h4) fun v5 h6=>
 bm (aa s.P 55 b 4) h6 fun v7 h8=>
 bs (aj s.P wl 46 v7 v5 h8) fun h9=>
 bm (aa s.P 55 b 4) h9 fun v10 h11=>
 bm (ab s.P 46 v10 h11) h11 fun v12 h13=>
 bm (aa s.P 55 b 5) h13 fun v14 h15=>
 bm (ab s.P 46 v14 h15) h15 fun v16 h17=>
 bp (yC s k wl 230 false true (.fn (.func 106) [] []) [v12,v16] h17) fun v18 h19=>
 bm (aq s.P .leq 3 v18 (.lit (.int .i64 0))) h19 fun v20 h21=>
 cnd v20 (
 bm (ab s.P 55 b h21) h21 fun v22 h23=>
 bp (yC s k wl 230 false true (.fn (.func 193) [] []) [v22,(.lit (.int .i64 3)),(.lit (.int .u64 0))] h23) fun v24 h25=>
 bs (aj s.P wl 55 b v24 h25) fun h26=>
 some (.tup [],h26)) (
 some (.tup [],h21)):=kB
theorem V8 (k wl:Nat) (h:Hp):evF Tryz.prog xM (k+1) wl 230 [a,d,b] h=ak (xX (xS k) 230 wl k false) Tryz.f230 [a,d,b] h:=by kernel_rfl
-- names: P7,
theorem PX (h:Hp):ak (xX s 231 wl k false) Tryz.f231 [a,d,b] h =
 stO h.length a (
 bm (ab s.P 26 a h) h fun v1 h2=>
 bm (ab s.P 23 d h2) h2 fun v3 h4=>
 bm (aa s.P 55 b 2) h4 fun v5 h6=>
 bm (ab s.P 3 v5 h6) h6 fun v7 h8=>
 bm (aa s.P 55 b 5) h8 fun v9 h10=>
 bm (ab s.P 46 v9 h10) h10 fun v11 h12=>
 bp (yC s k wl 231 true true (.fn (.func 109) [] []) [v3,v7,v11] h12) fun v13 h14=>
 bp (yC s k wl 231 false true (.fn (.func 27) [] []) [v1,v13] h14) fun v15 h16=>
 bm (aa s.P 55 b 3) h16 fun v17 h18=>
 bs (aj s.P wl 46 v17 v15 h18) fun h19=>
 some (.tup [],h19)):=kB
theorem Xz (k wl:Nat) (h:Hp):evF Tryz.prog xM (k+1) wl 231 [a,d,b] h=ak (xX (xS k) 231 wl k false) Tryz.f231 [a,d,b] h:=by kernel_rfl
-- names: PX,
theorem Tz (h:Hp):ak (xX s 232 wl k false) Tryz.f232 [a,d,b] h =
 bm (ab s.P 26 a h) h fun v1 h2=>
 bm (ab s.P 3 d h2) h2 fun v3 h4=>
 bm (aa s.P 55 b 5) h4 fun v5 h6=>
 bm (ab s.P 46 v5 h6) h6 fun v7 h8=>
 bm (aa s.P 55 b 5) h8 fun v9 h10=>
 bm (ab s.P 46 v9 h10) h10 fun v11 h12=>
 bm (aq s.P .add 46 v11 (.lit (.int .u64 1))) h12 fun v13 h14=>
 bp (yC s k wl 232 false true (.fn (.func 191) [] []) [v1,v3,v7,v13] h14) fun v15 h16=>
 bm (ao v15 0) h16 fun v17 h18=>
 bm (ao v15 1) h18 fun v19 h20=>
 bs (aj s.P wl 26 a v17 h20) fun h21=>
 cnd v19 (
 bm (ab s.P 55 b h21) h21 fun v22 h23=>
 bm (aa s.P 55 b 3) h23 fun v24 h25=>
 bm (ab s.P 46 v24 h25) h25 fun v26 h27=>
 bp (yC s k wl 232 false true (.fn (.func 193) [] []) [v22,(.lit (.int .i64 1)),v26] h27) fun v28 h29=>
 bs (aj s.P wl 55 b v28 h29) fun h30=>
 some (.tup [],h30)) (
 bm (ab s.P 55 b h21) h21 fun v31 h32=>
 bp (yC s k wl 232 false true (.fn (.func 193) [] []) [v31,(.lit (.int .i64 4)),(.lit (.int .u64 0))] h32) fun v33 h34=>
 bs (aj s.P wl 55 b v33 h34) fun h35=>
 some (.tup [],h35)):=kB
theorem Uw (k wl:Nat) (h:Hp):evF Tryz.prog xM (k+1) wl 232 [a,d,b] h=ak (xX (xS k) 232 wl k false) Tryz.f232 [a,d,b] h:=by kernel_rfl
-- names: Tz,
end
end Go.Ab
