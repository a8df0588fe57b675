import Derived.Test.YtblpbpnilkfjhaaGreatR6Seat
import Derived.Test.YtblpbpnilkfjhaaGreatAbLibC
set_option linter.unusedVariables false
set_option linter.unusedSimpArgs false
set_option maxRecDepth 100000
set_option linter.unusedVariables false
namespace Go.Ab
open Go.Proofs
section
variable (s:Sys) (k wl:Nat) (m0:Nat) (ac:List Nat×List Nat) (a d b g i l o j p q r u G E A B D y z F J I M L Q N O T R t1 W X Z Y t0 U t3 t4 t2 t7 t6 t5 t8 tc th td ta ti te tj tf tg tb t9 tm tn tp tk tl:V) (h:Hp) (K:Out→St→Option (V×Hp)) (rd:Bool) (n n0:Nat) (zz:List V)
noncomputable def cq:Code:=al (an Tryz.f188) [1,0]
noncomputable def b8:List Fr:=[.seq (al (an Tryz.f188) [1,1])]
theorem Zi:ak (xX s 188 wl k false) Tryz.f188 [a,d,b,g,i] h =
 bp (aQ a h) fun v1 h2=>
 bp (aQ b h2) fun v3 h4=>
 bm (ab s.P 23 v1 h4) h4 fun v5 h6=>
 bp (yC s k wl 188 false true (.fn (.func 50) [] []) [v5] h6) fun v7 h8=>
 gd v7 (
 bp (bh s.P 26 d h8) fun v9 hA=>
 bm (ab s.P 23 v1 hA) hA fun vA hB=>
 bp (yC s k wl 188 false true (.fn (.func 103) [] []) [vA] hB) fun vC hC=>
 bm (aA s.P .eql 3 v9 vC) hC fun vD hD=>
 yO s k wl 188 Tryz.f188 cq 8 h4.length ([],[]) b8 ⟨[a,d,b,g,i,v1,uu,v3,uu,uu,(.lit (.bool false)),v5,v7,(.lit (.bool true)),d,v9,vA,vC,vD,uu,uu,uu,uu,uu,uu,uu,uu,uu,uu,uu,uu,uu,uu,uu,uu,uu,uu,uu,uu,uu,uu,uu,uu,uu,uu,uu,uu,uu,uu,uu,uu,uu,uu,uu],hD⟩) (
 yO s k wl 188 Tryz.f188 cq 8 h4.length ([],[]) b8 ⟨[a,d,b,g,i,v1,uu,v3,uu,uu,(.lit (.bool false)),v5,v7,(.lit (.bool false)),uu,uu,uu,uu,uu,uu,uu,uu,uu,uu,uu,uu,uu,uu,uu,uu,uu,uu,uu,uu,uu,uu,uu,uu,uu,uu,uu,uu,uu,uu,uu,uu,uu,uu,uu,uu,uu,uu,uu,uu],h8⟩) (
 yO s k wl 188 Tryz.f188 cq 4 h4.length ([],[]) b8 ⟨[a,d,b,g,i,v1,uu,v3,uu,uu,(.lit (.bool false)),v5,v7,v7,uu,uu,uu,uu,uu,uu,uu,uu,uu,uu,uu,uu,uu,uu,uu,uu,uu,uu,uu,uu,uu,uu,uu,uu,uu,uu,uu,uu,uu,uu,uu,uu,uu,uu,uu,uu,uu,uu,uu,uu],h8⟩):=kB
theorem afp:evF Tryz.prog xM (k+1) wl 188 [a,d,b,g,i] h=ak (xX (xS k) 188 wl k false) Tryz.f188 [a,d,b,g,i] h:=by kernel_rfl
theorem MV:yO s k wl 188 Tryz.f188 cq 8 m0 ac b8 ⟨(a::d::b::g::i::l::o::j::p::q::r::u::G::E::A::B::D::y::z::F::J::I::M::L::zz),h⟩ =
 bm (aS E z (.lit (.bool false))) h fun vB hE=>
 gd vB (
 bm (ab s.P 55 j hE) hE fun vE hH=>
 bp (yC s k wl 188 false true (.fn (.func 110) [] []) [vE] hH) fun vF hF=>
 bm (vUn .not vF) hF fun vH hG=>
 yO s k wl 188 Tryz.f188 cq 13 m0 ac b8 ⟨(a::d::b::g::i::l::o::j::p::q::r::u::G::E::A::B::D::y::z::vB::(.lit (.bool true))::vE::vF::vH::zz),hG⟩) (
 yO s k wl 188 Tryz.f188 cq 13 m0 ac b8 ⟨(a::d::b::g::i::l::o::j::p::q::r::u::G::E::A::B::D::y::z::vB::(.lit (.bool false))::uu::uu::uu::zz),hE⟩) (
 yO s k wl 188 Tryz.f188 cq 11 m0 ac b8 ⟨(a::d::b::g::i::l::o::j::p::q::r::u::G::E::A::B::D::y::z::vB::vB::uu::M::L::zz),hE⟩):=kG
theorem La:yO s k wl 188 Tryz.f188 cq 13 m0 ac b8 ⟨(a::d::b::g::i::l::o::j::p::q::r::u::G::E::A::B::D::y::z::F::J::I::M::L::Q::N::O::T::R::zz),h⟩ =
 bm (aS J L (.lit (.bool false))) h fun vI hJ=>
 gd vI (
 bm (aa s.P 55 j 2) hJ fun vG hI=>
 bm (ab s.P 3 vG hI) hI fun vJ hL=>
 bm (aA s.P .geq 3 vJ (.lit (.int .i64 0))) hL fun vL hN=>
 yO s k wl 188 Tryz.f188 cq 18 m0 ac b8 ⟨(a::d::b::g::i::l::o::j::p::q::r::u::G::E::A::B::D::y::z::F::J::I::M::L::vI::(.lit (.bool true))::vG::vJ::vL::zz),hN⟩) (
 yO s k wl 188 Tryz.f188 cq 18 m0 ac b8 ⟨(a::d::b::g::i::l::o::j::p::q::r::u::G::E::A::B::D::y::z::F::J::I::M::L::vI::(.lit (.bool false))::uu::uu::uu::zz),hJ⟩) (
 yO s k wl 188 Tryz.f188 cq 16 m0 ac b8 ⟨(a::d::b::g::i::l::o::j::p::q::r::u::G::E::A::B::D::y::z::F::J::I::M::L::vI::vI::uu::T::R::zz),hJ⟩):=kG
theorem LF:yO s k wl 188 Tryz.f188 cq 18 m0 ac b8 ⟨(a::d::b::g::i::l::o::j::p::q::r::u::G::E::A::B::D::y::z::F::J::I::M::L::Q::N::O::T::R::t1::W::X::Z::Y::t0::U::zz),h⟩ =
 bm (aS N R (.lit (.bool false))) h fun vK hO=>
 gd vK (
 bm (aa s.P 55 j 2) hO fun vO hV=>
 bm (ab s.P 3 vO hV) hV fun vW hS=>
 bm (aa s.P 23 l 0) hS fun vY hU=>
 bm (ab s.P 3 vY hU) hU fun vP hP=>
 bm (aA s.P .lss 3 vW vP) hP fun vZ ha=>
 yO s k wl 188 Tryz.f188 cq 25 m0 ac b8 ⟨(a::d::b::g::i::l::o::j::p::q::r::u::G::E::A::B::D::y::z::F::J::I::M::L::Q::N::O::T::R::vK::(.lit (.bool true))::vO::vW::vY::vP::vZ::zz),ha⟩) (
 yO s k wl 188 Tryz.f188 cq 25 m0 ac b8 ⟨(a::d::b::g::i::l::o::j::p::q::r::u::G::E::A::B::D::y::z::F::J::I::M::L::Q::N::O::T::R::vK::(.lit (.bool false))::uu::uu::uu::uu::uu::zz),hO⟩) (
 yO s k wl 188 Tryz.f188 cq 21 m0 ac b8 ⟨(a::d::b::g::i::l::o::j::p::q::r::u::G::E::A::B::D::y::z::F::J::I::M::L::Q::N::O::T::R::vK::vK::uu::Z::Y::t0::U::zz),hO⟩):=kG
theorem NA:yO s k wl 188 Tryz.f188 cq 25 m0 ac b8 ⟨[a,d,b,g,i,l,o,j,p,q,r,u,G,E,A,B,D,y,z,F,J,I,M,L,Q,N,O,T,R,t1,W,X,Z,Y,t0,U,t3,t4,t2,t7,t6,t5,t8,tc,th,td,ta,ti,te,tj,tf,tg,tb,t9],h⟩ =
 bm (aS W U (.lit (.bool false))) h fun vc hK=>
 gd vc (
 bm (aa s.P 55 j 0) hK fun vl hj=>
 bm (ab s.P 3 vl hj) hj fun vg hl=>
 bm (aA s.P .eql 3 vg g) hl fun vs hM=>
 yO s k wl 188 Tryz.f188 cq 31 m0 ac b8 ⟨[a,d,b,g,i,l,o,j,p,q,r,u,G,E,A,B,D,y,z,F,J,I,M,L,Q,N,O,T,R,t1,W,X,Z,Y,t0,U,vc,(.lit (.bool true)),vl,vg,g,vs,t8,tc,th,td,ta,ti,te,tj,tf,tg,tb,t9],hM⟩) (
 yO s k wl 188 Tryz.f188 cq 31 m0 ac b8 ⟨[a,d,b,g,i,l,o,j,p,q,r,u,G,E,A,B,D,y,z,F,J,I,M,L,Q,N,O,T,R,t1,W,X,Z,Y,t0,U,vc,(.lit (.bool false)),uu,uu,uu,uu,t8,tc,th,td,ta,ti,te,tj,tf,tg,tb,t9],hK⟩) (
 yO s k wl 188 Tryz.f188 cq 28 m0 ac b8 ⟨[a,d,b,g,i,l,o,j,p,q,r,u,G,E,A,B,D,y,z,F,J,I,M,L,Q,N,O,T,R,t1,W,X,Z,Y,t0,U,vc,vc,uu,t7,t6,t5,t8,tc,th,td,ta,ti,te,tj,tf,tg,tb,t9],hK⟩):=kG
theorem Oi:yO s k wl 188 Tryz.f188 cq 31 m0 ac b8 ⟨[a,d,b,g,i,l,o,j,p,q,r,u,G,E,A,B,D,y,z,F,J,I,M,L,Q,N,O,T,R,t1,W,X,Z,Y,t0,U,t3,t4,t2,t7,t6,t5,t8,tc,th,td,ta,ti,te,tj,tf,tg,tb,t9],h⟩ =
 bm (aS t4 t5 (.lit (.bool false))) h fun vo hk=>
 gd vo (
 bm (aa s.P 55 j 1) hk fun vv hq=>
 bm (ab s.P 3 vv hq) hq fun vy hx=>
 bm (aA s.P .geq 3 vy (.lit (.int .i64 0))) hx fun v59 hy=>
 yO s k wl 188 Tryz.f188 cq 36 m0 ac b8 ⟨[a,d,b,g,i,l,o,j,p,q,r,u,G,E,A,B,D,y,z,F,J,I,M,L,Q,N,O,T,R,t1,W,X,Z,Y,t0,U,t3,t4,t2,t7,t6,t5,vo,(.lit (.bool true)),vv,vy,v59,ti,te,tj,tf,tg,tb,t9],hy⟩) (
 yO s k wl 188 Tryz.f188 cq 36 m0 ac b8 ⟨[a,d,b,g,i,l,o,j,p,q,r,u,G,E,A,B,D,y,z,F,J,I,M,L,Q,N,O,T,R,t1,W,X,Z,Y,t0,U,t3,t4,t2,t7,t6,t5,vo,(.lit (.bool false)),uu,uu,uu,ti,te,tj,tf,tg,tb,t9],hk⟩) (
 yO s k wl 188 Tryz.f188 cq 34 m0 ac b8 ⟨[a,d,b,g,i,l,o,j,p,q,r,u,G,E,A,B,D,y,z,F,J,I,M,L,Q,N,O,T,R,t1,W,X,Z,Y,t0,U,t3,t4,t2,t7,t6,t5,vo,vo,uu,td,ta,ti,te,tj,tf,tg,tb,t9],hk⟩):=kG
theorem Mb:yO s k wl 188 Tryz.f188 cq 36 m0 ac b8 ⟨[a,d,b,g,i,l,o,j,p,q,r,u,G,E,A,B,D,y,z,F,J,I,M,L,Q,N,O,T,R,t1,W,X,Z,Y,t0,U,t3,t4,t2,t7,t6,t5,t8,tc,th,td,ta,ti,te,tj,tf,tg,tb,t9],h⟩ =
 bm (aS tc ta (.lit (.bool false))) h fun v61 hw=>
 gd v61 (
 bm (aa s.P 55 j 1) hw fun v63 h64=>
 bm (ab s.P 3 v63 h64) h64 fun v65 h66=>
 bm (aA s.P .lss 3 v65 i) h66 fun v67 h68=>
 yO s k wl 188 Tryz.f188 cq 42 m0 ac b8 ⟨[a,d,b,g,i,l,o,j,p,q,r,u,G,E,A,B,D,y,z,F,J,I,M,L,Q,N,O,T,R,t1,W,X,Z,Y,t0,U,t3,t4,t2,t7,t6,t5,t8,tc,th,td,ta,v61,(.lit (.bool true)),v63,v65,i,v67,t9],h68⟩) (
 yO s k wl 188 Tryz.f188 cq 42 m0 ac b8 ⟨[a,d,b,g,i,l,o,j,p,q,r,u,G,E,A,B,D,y,z,F,J,I,M,L,Q,N,O,T,R,t1,W,X,Z,Y,t0,U,t3,t4,t2,t7,t6,t5,t8,tc,th,td,ta,v61,(.lit (.bool false)),uu,uu,uu,uu,t9],hw⟩) (
 yO s k wl 188 Tryz.f188 cq 39 m0 ac b8 ⟨[a,d,b,g,i,l,o,j,p,q,r,u,G,E,A,B,D,y,z,F,J,I,M,L,Q,N,O,T,R,t1,W,X,Z,Y,t0,U,t3,t4,t2,t7,t6,t5,t8,tc,th,td,ta,v61,v61,uu,tf,tg,tb,t9],hw⟩):=kG
theorem NK:yO s k wl 188 Tryz.f188 cq 42 m0 ac b8 ⟨[a,d,b,g,i,l,o,j,p,q,r,u,G,E,A,B,D,y,z,F,J,I,M,L,Q,N,O,T,R,t1,W,X,Z,Y,t0,U,t3,t4,t2,t7,t6,t5,t8,tc,th,td,ta,ti,te,tj,tf,tg,tb,t9],h⟩ =
 bm (aS te tb (.lit (.bool false))) h fun v69 h70=>
 some (v69,h70):=kG
theorem wX (cx:Cx) (s:St):aw cx K b8 .ret s=K .ret s:=by kernel_rfl
-- names: Zi,MV,La,LF,NA,Oi,Mb,NK,wX
noncomputable def dT:Code:=al (an Tryz.f189) [1,1,0]
noncomputable def dG:List Fr:=[.seq (al (an Tryz.f189) [1,1,1])]
theorem ZA:ak (xX s 189 wl k false) Tryz.f189 [a,d,b] h =
 bp (aQ a h) fun v1 h2=>
 bp (aQ b h2) fun v3 h4=>
 bp (yC s k wl 189 true true (.fn (.func 190) [] []) [] h4) fun v5 h6=>
 bm (aa s.P 55 v3 0) h6 fun v7 h8=>
 stO h4.length v7 (
 bm (ab s.P 3 v7 h8) h8 fun v9 hA=>
 bm (gG s.P 212 v5 v9 true hA) hA fun vA hB=>
 bm (ar vA 0) hB fun vC hC=>
 bm (ar vA 1) hC fun vD hD=>
 gd vD (
 bm (ab s.P 23 v1 hD) hD fun vB hE=>
 bp (yC s k wl 189 false true (.fn (.func 50) [] []) [vB] hE) fun vE hH=>
 yO s k wl 189 Tryz.f189 dT 4 hD.length ([],[]) dG ⟨[a,d,b,v1,uu,v3,(.lit (.bool false)),vC,vD,vA,v5,v7,v9,vA,vC,vD,vD,(.lit (.bool true)),vB,vE,uu,uu,uu,uu,uu,uu,uu,uu,uu,uu,uu,uu,uu,uu,uu,uu,uu,uu,uu,uu,uu,uu,uu],hH⟩) (
 yO s k wl 189 Tryz.f189 dT 4 hD.length ([],[]) dG ⟨[a,d,b,v1,uu,v3,(.lit (.bool false)),vC,vD,vA,v5,v7,v9,vA,vC,vD,vD,(.lit (.bool false)),uu,uu,uu,uu,uu,uu,uu,uu,uu,uu,uu,uu,uu,uu,uu,uu,uu,uu,uu,uu,uu,uu,uu,uu,uu],hD⟩) (
 yO s k wl 189 Tryz.f189 dT 3 hD.length ([],[]) dG ⟨[a,d,b,v1,uu,v3,(.lit (.bool false)),vC,vD,vA,v5,v7,v9,vA,vC,vD,vD,vD,uu,uu,uu,uu,uu,uu,uu,uu,uu,uu,uu,uu,uu,uu,uu,uu,uu,uu,uu,uu,uu,uu,uu,uu,uu],hD⟩)):=kB
theorem afQ:evF Tryz.prog xM (k+1) wl 189 [a,d,b] h=ak (xX (xS k) 189 wl k false) Tryz.f189 [a,d,b] h:=by kernel_rfl
theorem Nq:yO s k wl 189 Tryz.f189 dT 4 m0 ac dG ⟨(a::d::b::g::i::l::o::j::p::q::r::u::G::E::A::B::D::y::z::F::J::I::M::L::Q::N::O::zz),h⟩ =
 bm (aS y F (.lit (.bool false))) h fun vF hF=>
 gd vF (
 bp (bh s.P 26 d hF) fun vH hG=>
 bm (ab s.P 23 g hG) hG fun vI hJ=>
 bp (yC s k wl 189 false true (.fn (.func 103) [] []) [vI] hJ) fun vG hI=>
 bm (aA s.P .eql 3 vH vG) hI fun vJ hL=>
 yO s k wl 189 Tryz.f189 dT 11 m0 ac dG ⟨(a::d::b::g::i::l::o::j::p::q::r::u::G::E::A::B::D::y::z::F::vF::(.lit (.bool true))::d::vH::vI::vG::vJ::zz),hL⟩) (
 yO s k wl 189 Tryz.f189 dT 11 m0 ac dG ⟨(a::d::b::g::i::l::o::j::p::q::r::u::G::E::A::B::D::y::z::F::vF::(.lit (.bool false))::uu::uu::uu::uu::uu::zz),hF⟩) (
 yO s k wl 189 Tryz.f189 dT 7 m0 ac dG ⟨(a::d::b::g::i::l::o::j::p::q::r::u::G::E::A::B::D::y::z::F::vF::vF::uu::L::Q::N::O::zz),hF⟩):=kG
theorem LH:yO s k wl 189 Tryz.f189 dT 11 m0 ac dG ⟨[a,d,b,g,i,l,o,j,p,q,r,u,G,E,A,B,D,y,z,F,J,I,M,L,Q,N,O,T,R,t1,W,X,Z,Y,t0,U,t3,t4,t2,t7,t6,t5,t8],h⟩ =
 bm (aS I O (.lit (.bool false))) h fun vL hN=>
 gd vL (
 bm (ab s.P 55 l hN) hN fun vK hO=>
 bp (yC s k wl 189 false true (.fn (.func 110) [] []) [vK] hO) fun vO hV=>
 bm (vUn .not vO) hV fun vW hS=>
 yO s k wl 189 Tryz.f189 dT 16 m0 ac dG ⟨[a,d,b,g,i,l,o,j,p,q,r,u,G,E,A,B,D,y,z,F,J,I,M,L,Q,N,O,vL,(.lit (.bool true)),vK,vO,vW,Z,Y,t0,U,t3,t4,t2,t7,t6,t5,t8],hS⟩) (
 yO s k wl 189 Tryz.f189 dT 16 m0 ac dG ⟨[a,d,b,g,i,l,o,j,p,q,r,u,G,E,A,B,D,y,z,F,J,I,M,L,Q,N,O,vL,(.lit (.bool false)),uu,uu,uu,Z,Y,t0,U,t3,t4,t2,t7,t6,t5,t8],hN⟩) (
 yO s k wl 189 Tryz.f189 dT 14 m0 ac dG ⟨[a,d,b,g,i,l,o,j,p,q,r,u,G,E,A,B,D,y,z,F,J,I,M,L,Q,N,O,vL,vL,uu,W,X,Z,Y,t0,U,t3,t4,t2,t7,t6,t5,t8],hN⟩):=kG
theorem NS:yO s k wl 189 Tryz.f189 dT 16 m0 ac dG ⟨[a,d,b,g,i,l,o,j,p,q,r,u,G,E,A,B,D,y,z,F,J,I,M,L,Q,N,O,T,R,t1,W,X,Z,Y,t0,U,t3,t4,t2,t7,t6,t5,t8],h⟩ =
 bm (aS R X (.lit (.bool false))) h fun vY hU=>
 gd vY (
 bm (aa s.P 55 l 1) hU fun vP hP=>
 bm (ab s.P 3 vP hP) hP fun vZ ha=>
 bm (aA s.P .geq 3 vZ (.lit (.int .i64 0))) ha fun vc hK=>
 yO s k wl 189 Tryz.f189 dT 21 m0 ac dG ⟨[a,d,b,g,i,l,o,j,p,q,r,u,G,E,A,B,D,y,z,F,J,I,M,L,Q,N,O,T,R,t1,W,X,vY,(.lit (.bool true)),vP,vZ,vc,t4,t2,t7,t6,t5,t8],hK⟩) (
 yO s k wl 189 Tryz.f189 dT 21 m0 ac dG ⟨[a,d,b,g,i,l,o,j,p,q,r,u,G,E,A,B,D,y,z,F,J,I,M,L,Q,N,O,T,R,t1,W,X,vY,(.lit (.bool false)),uu,uu,uu,t4,t2,t7,t6,t5,t8],hU⟩) (
 yO s k wl 189 Tryz.f189 dT 19 m0 ac dG ⟨[a,d,b,g,i,l,o,j,p,q,r,u,G,E,A,B,D,y,z,F,J,I,M,L,Q,N,O,T,R,t1,W,X,vY,vY,uu,U,t3,t4,t2,t7,t6,t5,t8],hU⟩):=kG
theorem LK:yO s k wl 189 Tryz.f189 dT 21 m0 ac dG ⟨[a,d,b,g,i,l,o,j,p,q,r,u,G,E,A,B,D,y,z,F,J,I,M,L,Q,N,O,T,R,t1,W,X,Z,Y,t0,U,t3,t4,t2,t7,t6,t5,t8],h⟩ =
 bm (aS Y t3 (.lit (.bool false))) h fun vl hj=>
 gd vl (
 bm (aa s.P 55 l 1) hj fun vg hl=>
 bm (ab s.P 3 vg hl) hl fun vs hM=>
 bm (aA s.P .leq 3 vs (.lit (.int .i64 2))) hM fun vo hk=>
 yO s k wl 189 Tryz.f189 dT 26 m0 ac dG ⟨[a,d,b,g,i,l,o,j,p,q,r,u,G,E,A,B,D,y,z,F,J,I,M,L,Q,N,O,T,R,t1,W,X,Z,Y,t0,U,t3,vl,(.lit (.bool true)),vg,vs,vo,t8],hk⟩) (
 yO s k wl 189 Tryz.f189 dT 26 m0 ac dG ⟨[a,d,b,g,i,l,o,j,p,q,r,u,G,E,A,B,D,y,z,F,J,I,M,L,Q,N,O,T,R,t1,W,X,Z,Y,t0,U,t3,vl,(.lit (.bool false)),uu,uu,uu,t8],hj⟩) (
 yO s k wl 189 Tryz.f189 dT 24 m0 ac dG ⟨[a,d,b,g,i,l,o,j,p,q,r,u,G,E,A,B,D,y,z,F,J,I,M,L,Q,N,O,T,R,t1,W,X,Z,Y,t0,U,t3,vl,vl,uu,t6,t5,t8],hj⟩):=kG
theorem L1:yO s k wl 189 Tryz.f189 dT 26 m0 ac dG ⟨[a,d,b,g,i,l,o,j,p,q,r,u,G,E,A,B,D,y,z,F,J,I,M,L,Q,N,O,T,R,t1,W,X,Z,Y,t0,U,t3,t4,t2,t7,t6,t5,t8],h⟩ =
 bm (aS t2 t5 (.lit (.bool false))) h fun vv hq=>
 some (vv,hq):=kG
theorem Ap (cx:Cx) (s:St):aw cx K dG .ret s=K .ret s:=by kernel_rfl
-- names: ZA,Nq,LH,NS,LK,L1,Ap
theorem UY:ak (xX s 190 wl k false) Tryz.f190 [] h =
 bp (some (.map h.length,h++[.map []])) fun v1 h2=>
 bs (eX s.P wl 212 v1 (.lit (.int .i64 6)) (.fn (.func 215) [] []) h2) fun h3=>
 bs (eX s.P wl 212 v1 (.lit (.int .i64 7)) (.fn (.func 217) [] []) h3) fun h4=>
 some (v1,h4):=kB
theorem acO:evF Tryz.prog xM (k+1) wl 190 [] h=ak (xX (xS k) 190 wl k false) Tryz.f190 [] h:=by kernel_rfl
-- names: UY,
noncomputable def Dw:Code:=al (an Tryz.f194) [1,0,1,0,0]
noncomputable def CY:List Fr:=[.block 0,.seq (al (an Tryz.f194) [1,1])]
theorem UB:ak (xX s 194 wl k false) Tryz.f194 [a,d,b] h =
 bp (aQ a h) fun v1 h2=>
 bp (some (.own h2.length 0 0,h2++[.rows 0 [] 0 true])) fun v3 h4=>
 bp (bh s.P 53 b h4) fun v5 h6=>
 yI s k wl 194 Tryz.f194 Dw h6.length CY k ⟨[(V.kill h6.length a),(V.kill h6.length d),(V.kill h6.length b),(V.kill h6.length v1),(V.kill h6.length uu),(V.kill h6.length uu),(V.kill h6.length v3),(V.kill h6.length uu),(V.kill h6.length uu),(V.kill h6.length b),(V.kill h6.length v5),(.lit (.int .i64 0)),.junk,.junk,.junk,.junk,.junk,.junk,.junk,.junk,.junk,(V.kill h6.length uu)],bR h6.length h6⟩:=kB
theorem ZO:evF Tryz.prog xM (k+1) wl 194 [a,d,b] h=ak (xX (xS k) 194 wl k false) Tryz.f194 [a,d,b] h:=by kernel_rfl
theorem U9 (P:Program):av P Tryz.f194 .ret ⟨[a,d,b,g,i,l,o,j,p,q,r,u,G,E,A,B,D,y,z,F,J,I],h⟩=some (o,h):=by kernel_rfl
theorem Lx:itX (xX s 194 wl k rd) Dw n0 K (n+1) ⟨[a,d,b,g,i,l,o,j,p,q,r,u,G,E,A,B,D,y,z,F,J,I],h⟩ =
 bm (aA s.P .lss 3 u r) h fun v7 h8=>
 cnd v7 (
 bm (am s.P 53 q u h8) h8 fun v9 hA=>
 bm (ab s.P 3 v9 hA) hA fun vA hB=>
 bm (ab s.P 23 g hB) hB fun vC hC=>
 bp (bG (xX s 194 wl k rd) false true (.fn (.func 32) [] []) [vC,vA] hC) fun vD hD=>
 bp (bG (xX s 194 wl k rd) false true (.fn (.func 88) [] []) [d,vD,(.lit (.int .u64 1))] hD) fun vB hE=>
 bm (aA s.P .add 3 u (.lit (.int .i64 1))) hE fun vE hH=>
 itX (xX s 194 wl k rd) Dw n0 K n ⟨[(V.kill n0 a),(V.kill n0 vB),(V.kill n0 b),(V.kill n0 g),(V.kill n0 i),(V.kill n0 l),(V.kill n0 o),(V.kill n0 j),(V.kill n0 vA),(V.kill n0 q),(V.kill n0 r),(V.kill n0 vE),.junk,.junk,.junk,.junk,.junk,.junk,.junk,.junk,.junk,(V.kill n0 I)],bR n0 hH⟩) (
 K (.exit 0) ⟨[(V.kill n0 a),(V.kill n0 d),(V.kill n0 b),(V.kill n0 g),(V.kill n0 i),(V.kill n0 l),(V.kill n0 o),(V.kill n0 j),(V.kill n0 p),(V.kill n0 q),(V.kill n0 r),.junk,.junk,.junk,.junk,.junk,.junk,.junk,.junk,.junk,.junk,(V.kill n0 I)],bR n0 h8⟩):=kI
theorem GK:aw (xX s 194 wl k false) (av s.P Tryz.f194) CY (.exit 0) ⟨[a,d,b,g,i,l,o,j,p,q,r,u,G,E,A,B,D,y,z,F,J,I],h⟩ =
 some (d,h):=kR
theorem od (cx:Cx) (s:St):aw cx K CY .ret s=K .ret s:=by kernel_rfl
-- names: UB,U9,Lx,GK,od
noncomputable def C1:List Fr:=[.seq (al (an Tryz.f207) [1,1,1,1])]
theorem aaj:ak (xX s 207 wl k false) Tryz.f207 [a,d,b] h =
 bp (aQ a h) fun v1 h2=>
 bp (aQ b h2) fun v3 h4=>
 bp (some (.own h4.length 0 0,h4++[.rows 0 [] 0 true])) fun v5 h6=>
 bp (az s.P 55 h6) fun v7 h8=>
 stO h8.length v3 (
 bm (ab s.P 55 v3 h8) h8 fun v9 hA=>
 stO h8.length v1 (
 bm (ab s.P 23 v1 hA) hA fun vA hB=>
 bp (yC s k wl 207 true true (.fn (.func 76) [] []) [d] hB) fun vC hC=>
 bm (be s.P 235 [(0,v9),(1,vA),(2,vC)]) hC fun vD hD=>
 bp (aQ vD hD) fun vB hE=>
 bm (be s.P 236 [(0,(.fn (.func 224) [vB] [])),(1,(.fn (.func 225) [vB] [])),(2,(.fn (.func 226) [vB] [])),(3,(.fn (.func 227) [vB] []))]) hE fun vE hH=>
 bp (az s.P 236 hH) fun vF hF=>
 bs (ai s.P wl 236 vF vE hF) fun hm=>
 bm (ab s.P 23 v1 hm) hm fun vS hc=>
 bm (ab s.P 55 v3 hc) hc fun vN hn=>
 bp (yC s k wl 207 false true (.fn (.func 188) [] []) [vS,d,vN,(.lit (.int .i64 0)),(.lit (.int .i64 4))] hn) fun vh hs=>
 cnd vh (
 bm (aa s.P 55 v3 1) hs fun vp hY=>
 bm (ab s.P 3 vp hY) hY fun ve hh=>
 bm (am s.P 236 vF ve hh) hh fun vf hW=>
 bm (ab s.P 1 vf hW) hW fun vM hT=>
 bp (yC s k wl 207 false true vM [] hT) fun vT hb=>
 aw (xX s 207 wl k false) (av s.P Tryz.f207) C1 .norm ⟨[a,d,b,v1,uu,v3,v5,v7,vB,vF,v9,vA,d,vC,vD,vB,vB,(.fn (.func 224) [vB] []),vB,(.fn (.func 225) [vB] []),vB,(.fn (.func 226) [vB] []),vB,(.fn (.func 227) [vB] []),vE,vS,d,vN,vh,vp,ve,vf,vM,vT,uu,uu,uu,uu,uu,uu,uu,uu],hb⟩) (
 aw (xX s 207 wl k false) (av s.P Tryz.f207) C1 .norm ⟨[a,d,b,v1,uu,v3,v5,v7,vB,vF,v9,vA,d,vC,vD,vB,vB,(.fn (.func 224) [vB] []),vB,(.fn (.func 225) [vB] []),vB,(.fn (.func 226) [vB] []),vB,(.fn (.func 227) [vB] []),vE,vS,d,vN,vh,uu,uu,uu,uu,uu,uu,uu,uu,uu,uu,uu,uu,uu],hs⟩))):=kB
theorem aeh:evF Tryz.prog xM (k+1) wl 207 [a,d,b] h=ak (xX (xS k) 207 wl k false) Tryz.f207 [a,d,b] h:=by kernel_rfl
theorem ND:aw (xX s 207 wl k false) (av s.P Tryz.f207) C1 .norm ⟨[a,d,b,g,i,l,o,j,p,q,r,u,G,E,A,B,D,y,z,F,J,I,M,L,Q,N,O,T,R,t1,W,X,Z,Y,t0,U,t3,t4,t2,t7,t6,t5],h⟩ =
 bm (aU p h) h fun vQ hd=>
 bm (aa s.P 235 vQ 2) hd fun vm hf=>
 bm (ab s.P 26 vm hf) hf fun vi hX=>
 bm (aU p hX) hX fun va he=>
 bm (aa s.P 235 va 0) he fun vb hg=>
 bm (ab s.P 55 vb hg) hg fun vU hZ=>
 bs (ai s.P wl 55 j vU hZ) fun hM=>
 ew [some vi,ab s.P 55 j hM] hM:=kR
theorem AM (cx:Cx) (s:St):aw cx K C1 .ret s=K .ret s:=by kernel_rfl
-- names: aaj,ND,AM
theorem YG:ak (xX s 208 wl k false) Tryz.f208 [a,d,b] h =
 bp (aQ a h) fun v1 h2=>
 bp (aQ b h2) fun v3 h4=>
 bp (some (.own h4.length 0 0,h4++[.rows 0 [] 0 true])) fun v5 h6=>
 bp (az s.P 55 h6) fun v7 h8=>
 bp (yC s k wl 208 false true (.fn (.func 76) [] []) [d] h8) fun v9 hA=>
 bp (az s.P 26 hA) fun vA hB=>
 bs (ai s.P wl 26 vA v9 hB) fun h13=>
 bm (ab s.P 23 v1 h13) h13 fun vz ho=>
 bm (ab s.P 55 v3 ho) ho fun vr hu=>
 bp (yC s k wl 208 false true (.fn (.func 188) [] []) [vz,d,vr,(.lit (.int .i64 1)),(.lit (.int .i64 7))] hu) fun vn hr=>
 bm (vUn .not vn) hr fun vd hQ=>
 cnd vd (
 bm (ab s.P 26 vA hQ) hQ fun vV hm=>
 bm (ab s.P 55 v3 hm) hm fun vS hc=>
 bs (ai s.P wl 55 v7 vS hc) fun hJ=>
 ew [some vV,ab s.P 55 v7 hJ] hJ) (
 bp (az s.P 3 hQ) fun vG hI=>
 bm (ab s.P 23 v1 hI) hI fun vJ hL=>
 bm (aa s.P 55 v3 2) hL fun vL hN=>
 bm (ab s.P 3 vL hN) hN fun vK hO=>
 bp (yC s k wl 208 true true (.fn (.func 107) [] []) [vJ,vK] hO) fun vO hV=>
 stO hQ.length v1 (
 bm (ab s.P 23 v1 hV) hV fun vW hS=>
 bm (aa s.P 55 v3 2) hS fun vY hU=>
 stO hQ.length vY (
 bm (ab s.P 3 vY hU) hU fun vP hP=>
 bp (yC s k wl 208 true true (.fn (.func 108) [] []) [vW,vP] hP) fun vZ ha=>
 bs (ai s.P wl 3 vG vZ ha) fun hX=>
 bm (aa s.P 55 v3 1) hX fun va he=>
 bm (ab s.P 3 va he) he fun vb hg=>
 bm (aA s.P .add 3 vb (.lit (.int .i64 1))) hg fun vU hZ=>
 bm (aa s.P 55 v3 1) hZ fun vX hi=>
 bm (ab s.P 3 vX hi) hi fun vR hp=>
 bm (aA s.P .eql 3 vR (.lit (.int .i64 0))) hp fun vq ht=>
 cnd vq (
 bm (ab s.P 26 vA ht) ht fun vt hz=>
 bm (ab s.P 3 vG hz) hz fun v60 h61=>
 bp (yC s k wl 208 false true (.fn (.func 27) [] []) [vt,v60] h61) fun vx h63=>
 bm (aA s.P .sub 46 vx (.lit (.int .u64 1))) h63 fun vw h65=>
 bm (aa s.P 55 v3 4) h65 fun vk h67=>
 bs (ai s.P wl 46 vk vw h67) fun h68=>
 bm (aa s.P 55 v3 1) h68 fun v69 h70=>
 bs (ai s.P wl 3 v69 vU h70) fun h71=>
 bm (ab s.P 26 vA h71) h71 fun v72 h73=>
 bm (ab s.P 55 v3 h73) h73 fun v74 h75=>
 bs (ai s.P wl 55 v7 v74 h75) fun h76=>
 ew [some v72,ab s.P 55 v7 h76] h76) (
 bm (aA s.P .eql 3 vR (.lit (.int .i64 1))) ht fun v77 h78=>
 cnd v77 (
 bm (ab s.P 26 vA h78) h78 fun v79 h80=>
 bm (ab s.P 3 vG h80) h80 fun v81 h82=>
 bm (aa s.P 55 v3 4) h82 fun v83 h84=>
 bm (ab s.P 46 v83 h84) h84 fun v85 h86=>
 bp (yC s k wl 208 false true (.fn (.func 88) [] []) [v79,v81,v85] h86) fun v87 h88=>
 bs (ai s.P wl 26 vA v87 h88) fun h89=>
 bm (aa s.P 55 v3 1) h89 fun v90 h91=>
 bs (ai s.P wl 3 v90 vU h91) fun h92=>
 bm (ab s.P 26 vA h92) h92 fun v93 h94=>
 bm (ab s.P 55 v3 h94) h94 fun v95 h96=>
 bs (ai s.P wl 55 v7 v95 h96) fun h97=>
 ew [some v93,ab s.P 55 v7 h97] h97) (
 bm (aA s.P .eql 3 vR (.lit (.int .i64 2))) h78 fun v98 h99=>
 cnd v98 (
 bm (ab s.P 26 vA h99) h99 fun v100 h101=>
 bp (yC s k wl 208 false true (.fn (.func 27) [] []) [v100,vO] h101) fun v102 h103=>
 bm (aa s.P 55 v3 5) h103 fun v104 h105=>
 bs (ai s.P wl 46 v104 v102 h105) fun h106=>
 bm (aa s.P 55 v3 4) h106 fun v107 h108=>
 bm (ab s.P 46 v107 h108) h108 fun v109 h110=>
 bm (aa s.P 55 v3 5) h110 fun v111 h112=>
 bm (ab s.P 46 v111 h112) h112 fun v113 h114=>
 bp (yC s k wl 208 false true (.fn (.func 106) [] []) [v109,v113] h114) fun v115 h116=>
 bm (aA s.P .lss 3 v115 (.lit (.int .i64 0))) h116 fun v117 h118=>
 cnd v117 (
 bm (aa s.P 55 v3 1) h118 fun v119 h120=>
 bs (ai s.P wl 3 v119 (.lit (.int .i64 6)) h120) fun h121=>
 bm (ab s.P 26 vA h121) h121 fun v122 h123=>
 bm (ab s.P 55 v3 h123) h123 fun v124 h125=>
 bs (ai s.P wl 55 v7 v124 h125) fun h126=>
 ew [some v122,ab s.P 55 v7 h126] h126) (
 bm (aa s.P 55 v3 1) h118 fun v127 h128=>
 bs (ai s.P wl 3 v127 vU h128) fun h129=>
 bm (ab s.P 26 vA h129) h129 fun v130 h131=>
 bm (ab s.P 55 v3 h131) h131 fun v132 h133=>
 bs (ai s.P wl 55 v7 v132 h133) fun h134=>
 ew [some v130,ab s.P 55 v7 h134] h134)) (
 bm (aA s.P .eql 3 vR (.lit (.int .i64 3))) h99 fun v135 h136=>
 cnd v135 (
 stO h136.length vA (
 bm (ab s.P 26 vA h136) h136 fun v137 h138=>
 bm (ab s.P 23 v1 h138) h138 fun v139 h140=>
 bm (aa s.P 55 v3 2) h140 fun v141 h142=>
 bm (ab s.P 3 v141 h142) h142 fun v143 h144=>
 bm (aa s.P 55 v3 4) h144 fun v145 h146=>
 bm (ab s.P 46 v145 h146) h146 fun v147 h148=>
 bp (yC s k wl 208 true true (.fn (.func 109) [] []) [v139,v143,v147] h148) fun v149 h150=>
 bp (yC s k wl 208 false true (.fn (.func 27) [] []) [v137,v149] h150) fun v151 h152=>
 bm (aa s.P 55 v3 3) h152 fun v153 h154=>
 bs (ai s.P wl 46 v153 v151 h154) fun h155=>
 bm (aa s.P 55 v3 4) h155 fun v156 h157=>
 bm (ab s.P 46 v156 h157) h157 fun v158 h159=>
 bm (aa s.P 55 v3 5) h159 fun v160 h161=>
 bm (ab s.P 46 v160 h161) h161 fun v162 h163=>
 bm (aA s.P .neq 46 v158 v162) h163 fun v164 h165=>
 cnd v164 (
 stO h165.length vA (
 bm (ab s.P 26 vA h165) h165 fun v166 h167=>
 bm (ab s.P 55 v3 h167) h167 fun v168 h169=>
 bm (aa s.P 55 v3 3) h169 fun v170 h171=>
 bm (ab s.P 46 v170 h171) h171 fun v172 h173=>
 bp (yC s k wl 208 true true (.fn (.func 193) [] []) [v168,(.lit (.int .i64 1)),v172] h173) fun v174 h175=>
 bs (ai s.P wl 55 v7 v174 h175) fun h176=>
 ew [some v166,ab s.P 55 v7 h176] h176)) (
 bm (aa s.P 55 v3 1) h165 fun v177 h178=>
 bs (ai s.P wl 3 v177 vU h178) fun h179=>
 bm (ab s.P 26 vA h179) h179 fun v180 h181=>
 bm (ab s.P 55 v3 h181) h181 fun v182 h183=>
 bs (ai s.P wl 55 v7 v182 h183) fun h184=>
 ew [some v180,ab s.P 55 v7 h184] h184))) (
 bm (aA s.P .eql 3 vR (.lit (.int .i64 4))) h136 fun v185 h186=>
 cnd v185 (
 bm (ab s.P 26 vA h186) h186 fun v187 h188=>
 bm (aa s.P 55 v3 5) h188 fun v189 h190=>
 bm (ab s.P 46 v189 h190) h190 fun v191 h192=>
 bm (aa s.P 55 v3 5) h192 fun v193 h194=>
 bm (ab s.P 46 v193 h194) h194 fun v195 h196=>
 bm (aA s.P .add 46 v195 (.lit (.int .u64 1))) h196 fun v197 h198=>
 bp (yC s k wl 208 false true (.fn (.func 191) [] []) [v187,vO,v191,v197] h198) fun v199 h200=>
 bm (ar v199 0) h200 fun v201 h202=>
 bm (ar v199 1) h202 fun v203 h204=>
 bs (ai s.P wl 26 vA v201 h204) fun h205=>
 bm (vUn .not v203) h205 fun v206 h207=>
 cnd v206 (
 bm (aa s.P 55 v3 1) h207 fun v208 h209=>
 bs (ai s.P wl 3 v208 (.lit (.int .i64 6)) h209) fun h210=>
 bm (ab s.P 26 vA h210) h210 fun v211 h212=>
 bm (ab s.P 55 v3 h212) h212 fun v213 h214=>
 bs (ai s.P wl 55 v7 v213 h214) fun h215=>
 ew [some v211,ab s.P 55 v7 h215] h215) (
 bm (aa s.P 55 v3 1) h207 fun v216 h217=>
 bs (ai s.P wl 3 v216 vU h217) fun h218=>
 bm (ab s.P 26 vA h218) h218 fun v219 h220=>
 bm (ab s.P 55 v3 h220) h220 fun v221 h222=>
 bs (ai s.P wl 55 v7 v221 h222) fun h223=>
 ew [some v219,ab s.P 55 v7 h223] h223)) (
 bm (aA s.P .eql 3 vR (.lit (.int .i64 5))) h186 fun v224 h225=>
 cnd v224 (
 bm (aa s.P 55 v3 3) h225 fun v226 h227=>
 bm (ab s.P 46 v226 h227) h227 fun v228 h229=>
 bp (yC s k wl 208 false true (.fn (.func 228) [] [vA,vG,v3]) [(.lit (.int .i64 1)),v228] h229) fun v230 h231=>
 bm (ar v230 0) h231 fun v232 h233=>
 bm (ar v230 1) h233 fun v234 h235=>
 bs (ai s.P wl 55 v7 v234 h235) fun h236=>
 ew [some v232,ab s.P 55 v7 h236] h236) (
 bp (yC s k wl 208 false true (.fn (.func 228) [] [vA,vG,v3]) [(.lit (.int .i64 3)),(.lit (.int .u64 0))] h225) fun v237 h238=>
 bm (ar v237 0) h238 fun v239 h240=>
 bm (ar v237 1) h240 fun v241 h242=>
 bs (ai s.P wl 55 v7 v241 h242) fun h243=>
 ew [some v239,ab s.P 55 v7 h243] h243))))))))):=kB
theorem ad2:evF Tryz.prog xM (k+1) wl 208 [a,d,b] h=ak (xX (xS k) 208 wl k false) Tryz.f208 [a,d,b] h:=by kernel_rfl
-- names: YG,
noncomputable def Cz:Code:=al (an Tryz.f209) [1,0,1,1,1,1,1,0,1,0,0]
noncomputable def DX:List Fr:=[.block 0,.seq (al (an Tryz.f209) [1,0,1,1,1,1,1,1]),.scope (al (an Tryz.f209) [1,0])]
theorem U6:ak (xX s 209 wl k false) Tryz.f209 [a,d,b] h =
 bp (aQ a h) fun v1 h2=>
 bp (aQ b h2) fun v3 h4=>
 bp (some (.own h4.length 0 0,h4++[.rows 0 [] 0 true])) fun v5 h6=>
 bp (az s.P 55 h6) fun v7 h8=>
 bp (yC s k wl 209 false true (.fn (.func 76) [] []) [d] h8) fun v9 hA=>
 bp (az s.P 26 hA) fun vA hB=>
 bs (ai s.P wl 26 vA v9 hB) fun h13=>
 bm (ab s.P 23 v1 h13) h13 fun vz ho=>
 bm (ab s.P 55 v3 ho) ho fun vr hu=>
 bp (yC s k wl 209 false true (.fn (.func 188) [] []) [vz,d,vr,(.lit (.int .i64 2)),(.lit (.int .i64 4))] hu) fun vn hr=>
 bm (vUn .not vn) hr fun vd hQ=>
 cnd vd (
 bm (ab s.P 26 vA hQ) hQ fun vV hm=>
 bm (ab s.P 55 v3 hm) hm fun vS hc=>
 bs (ai s.P wl 55 v7 vS hc) fun hJ=>
 ew [some vV,ab s.P 55 v7 hJ] hJ) (
 bp (az s.P 3 hQ) fun vG hI=>
 bp (az s.P 3 hI) fun vJ hL=>
 bm (ab s.P 23 v1 hL) hL fun vL hN=>
 bm (aa s.P 55 v3 2) hN fun vK hO=>
 bm (ab s.P 3 vK hO) hO fun vO hV=>
 bp (yC s k wl 209 true true (.fn (.func 107) [] []) [vL,vO] hV) fun vW hS=>
 stO hQ.length v1 (
 bm (ab s.P 23 v1 hS) hS fun vY hU=>
 bm (aa s.P 55 v3 2) hU fun vP hP=>
 stO hQ.length vP (
 bm (ab s.P 3 vP hP) hP fun vZ ha=>
 bp (yC s k wl 209 true true (.fn (.func 108) [] []) [vY,vZ] ha) fun vc hK=>
 bs (ai s.P wl 3 vG vW hK) fun he=>
 bs (ai s.P wl 3 vJ vc he) fun hj=>
 bp (aF s.P wl 238 4 [(0,(.fn (.func 229) [] [vA,vG,v3])),(1,(.fn (.func 230) [] [vA,vJ,v3])),(2,(.fn (.func 231) [] [vA,v1,v3])),(3,(.fn (.func 232) [] [vA,vG,v3]))] hj) fun vg hl=>
 bp (bh s.P 238 vg hl) fun vs hM=>
 yI s k wl 209 Tryz.f209 Cz hM.length DX k ⟨[(V.kill hM.length a),(V.kill hM.length d),(V.kill hM.length b),(V.kill hM.length v1),(V.kill hM.length uu),(V.kill hM.length v3),(V.kill hM.length v5),(V.kill hM.length v7),(V.kill hM.length vA),(V.kill hM.length vG),(V.kill hM.length vJ),(V.kill hM.length vg),(V.kill hM.length uu),(V.kill hM.length uu),(V.kill hM.length d),(V.kill hM.length v9),(V.kill hM.length vz),(V.kill hM.length d),(V.kill hM.length vr),(V.kill hM.length vn),(V.kill hM.length vd),(V.kill hM.length uu),(V.kill hM.length uu),(V.kill hM.length vL),(V.kill hM.length vK),(V.kill hM.length vO),(V.kill hM.length vW),(V.kill hM.length vY),(V.kill hM.length vP),(V.kill hM.length vZ),(V.kill hM.length vc),(V.kill hM.length (.fn (.func 229) [] [vA,vG,v3])),(V.kill hM.length (.fn (.func 230) [] [vA,vJ,v3])),(V.kill hM.length (.fn (.func 231) [] [vA,v1,v3])),(V.kill hM.length (.fn (.func 232) [] [vA,vG,v3])),(V.kill hM.length vg),(V.kill hM.length vg),(V.kill hM.length vs),(.lit (.int .i64 0)),.junk,.junk,.junk,.junk,.junk,.junk,.junk,.junk,.junk,.junk,.junk,.junk,.junk,.junk,.junk,.junk,.junk,.junk,(V.kill hM.length uu),(V.kill hM.length uu)],bR hM.length hM⟩))):=kB
theorem acI:evF Tryz.prog xM (k+1) wl 209 [a,d,b] h=ak (xX (xS k) 209 wl k false) Tryz.f209 [a,d,b] h:=by kernel_rfl
theorem VM (P:Program):av P Tryz.f209 .ret ⟨[a,d,b,g,i,l,o,j,p,q,r,u,G,E,A,B,D,y,z,F,J,I,M,L,Q,N,O,T,R,t1,W,X,Z,Y,t0,U,t3,t4,t2,t7,t6,t5,t8,tc,th,td,ta,ti,te,tj,tf,tg,tb,t9,tm,tn,tp,tk,tl],h⟩=ew [some o,ab P 55 j h] h:=by kernel_rfl
theorem Oe:itX (xX s 209 wl k rd) Cz n0 K (n+1) ⟨[a,d,b,g,i,l,o,j,p,q,r,u,G,E,A,B,D,y,z,F,J,I,M,L,Q,N,O,T,R,t1,W,X,Z,Y,t0,U,t3,t4,t2,t7,t6,t5,t8,tc,th,td,ta,ti,te,tj,tf,tg,tb,t9,tm,tn,tp,tk,tl],h⟩ =
 bm (aA s.P .lss 3 t2 t4) h fun vo hk=>
 cnd vo (
 bm (am s.P 238 t3 t2 hk) hk fun vv hq=>
 bm (ab s.P 1 vv hq) hq fun vy hx=>
 bm (aa s.P 55 l 1) hx fun v59 hy=>
 bm (ab s.P 3 v59 hy) hy fun v61 hw=>
 bm (aA s.P .neq 3 t2 v61) hw fun v63 h64=>
 cnd v63 (
 bm (aA s.P .add 3 t2 (.lit (.int .i64 1))) h64 fun v65 h66=>
 itX (xX s 209 wl k rd) Cz n0 K n ⟨[(V.kill n0 a),(V.kill n0 d),(V.kill n0 b),(V.kill n0 g),(V.kill n0 i),(V.kill n0 l),(V.kill n0 o),(V.kill n0 j),(V.kill n0 p),(V.kill n0 q),(V.kill n0 r),(V.kill n0 u),(V.kill n0 t2),(V.kill n0 vy),(V.kill n0 A),(V.kill n0 B),(V.kill n0 D),(V.kill n0 y),(V.kill n0 z),(V.kill n0 F),(V.kill n0 J),(V.kill n0 I),(V.kill n0 M),(V.kill n0 L),(V.kill n0 Q),(V.kill n0 N),(V.kill n0 O),(V.kill n0 T),(V.kill n0 R),(V.kill n0 t1),(V.kill n0 W),(V.kill n0 X),(V.kill n0 Z),(V.kill n0 Y),(V.kill n0 t0),(V.kill n0 U),(V.kill n0 t3),(V.kill n0 t4),(V.kill n0 v65),.junk,.junk,.junk,.junk,.junk,.junk,.junk,.junk,.junk,.junk,.junk,.junk,.junk,.junk,.junk,.junk,.junk,.junk,(V.kill n0 tk),(V.kill n0 tl)],bR n0 h66⟩) (
 bp (bG (xX s 209 wl k rd) false true vy [] h64) fun v67 h68=>
 bm (ab s.P 55 l h68) h68 fun v69 h70=>
 bp (bG (xX s 209 wl k rd) false true (.fn (.func 110) [] []) [v69] h70) fun v71 h72=>
 bm (vUn .not v71) h72 fun vu hv=>
 cnd vu (
 bm (aa s.P 55 l 1) hv fun v75 h76=>
 bm (ab s.P 3 v75 h76) h76 fun v77 h78=>
 bm (aA s.P .add 3 v77 (.lit (.int .i64 1))) h78 fun v79 h80=>
 bm (aa s.P 55 l 1) h80 fun v81 h82=>
 bs (ai s.P wl 3 v81 v79 h82) fun h83=>
 K (.exit 0) ⟨[(V.kill n0 a),(V.kill n0 d),(V.kill n0 b),(V.kill n0 g),(V.kill n0 i),(V.kill n0 l),(V.kill n0 o),(V.kill n0 j),(V.kill n0 p),(V.kill n0 q),(V.kill n0 r),(V.kill n0 u),(V.kill n0 t2),(V.kill n0 vy),(V.kill n0 A),(V.kill n0 B),(V.kill n0 D),(V.kill n0 y),(V.kill n0 z),(V.kill n0 F),(V.kill n0 J),(V.kill n0 I),(V.kill n0 M),(V.kill n0 L),(V.kill n0 Q),(V.kill n0 N),(V.kill n0 O),(V.kill n0 T),(V.kill n0 R),(V.kill n0 t1),(V.kill n0 W),(V.kill n0 X),(V.kill n0 Z),(V.kill n0 Y),(V.kill n0 t0),(V.kill n0 U),(V.kill n0 t3),(V.kill n0 t4),.junk,.junk,.junk,.junk,.junk,.junk,.junk,.junk,.junk,.junk,.junk,.junk,.junk,.junk,.junk,.junk,.junk,.junk,.junk,(V.kill n0 tk),(V.kill n0 tl)],bR n0 h83⟩) (
 K (.exit 0) ⟨[(V.kill n0 a),(V.kill n0 d),(V.kill n0 b),(V.kill n0 g),(V.kill n0 i),(V.kill n0 l),(V.kill n0 o),(V.kill n0 j),(V.kill n0 p),(V.kill n0 q),(V.kill n0 r),(V.kill n0 u),(V.kill n0 t2),(V.kill n0 vy),(V.kill n0 A),(V.kill n0 B),(V.kill n0 D),(V.kill n0 y),(V.kill n0 z),(V.kill n0 F),(V.kill n0 J),(V.kill n0 I),(V.kill n0 M),(V.kill n0 L),(V.kill n0 Q),(V.kill n0 N),(V.kill n0 O),(V.kill n0 T),(V.kill n0 R),(V.kill n0 t1),(V.kill n0 W),(V.kill n0 X),(V.kill n0 Z),(V.kill n0 Y),(V.kill n0 t0),(V.kill n0 U),(V.kill n0 t3),(V.kill n0 t4),.junk,.junk,.junk,.junk,.junk,.junk,.junk,.junk,.junk,.junk,.junk,.junk,.junk,.junk,.junk,.junk,.junk,.junk,.junk,(V.kill n0 tk),(V.kill n0 tl)],bR n0 hv⟩))) (
 K (.exit 0) ⟨[(V.kill n0 a),(V.kill n0 d),(V.kill n0 b),(V.kill n0 g),(V.kill n0 i),(V.kill n0 l),(V.kill n0 o),(V.kill n0 j),(V.kill n0 p),(V.kill n0 q),(V.kill n0 r),(V.kill n0 u),(V.kill n0 G),(V.kill n0 E),(V.kill n0 A),(V.kill n0 B),(V.kill n0 D),(V.kill n0 y),(V.kill n0 z),(V.kill n0 F),(V.kill n0 J),(V.kill n0 I),(V.kill n0 M),(V.kill n0 L),(V.kill n0 Q),(V.kill n0 N),(V.kill n0 O),(V.kill n0 T),(V.kill n0 R),(V.kill n0 t1),(V.kill n0 W),(V.kill n0 X),(V.kill n0 Z),(V.kill n0 Y),(V.kill n0 t0),(V.kill n0 U),(V.kill n0 t3),(V.kill n0 t4),.junk,.junk,.junk,.junk,.junk,.junk,.junk,.junk,.junk,.junk,.junk,.junk,.junk,.junk,.junk,.junk,.junk,.junk,.junk,(V.kill n0 tk),(V.kill n0 tl)],bR n0 hk⟩):=kI
theorem HB:aw (xX s 209 wl k false) (av s.P Tryz.f209) DX (.exit 0) ⟨[a,d,b,g,i,l,o,j,p,q,r,u,G,E,A,B,D,y,z,F,J,I,M,L,Q,N,O,T,R,t1,W,X,Z,Y,t0,U,t3,t4,t2,t7,t6,t5,t8,tc,th,td,ta,ti,te,tj,tf,tg,tb,t9,tm,tn,tp,tk,tl],h⟩ =
 bm (ab s.P 26 p h) h fun v84 h85=>
 bm (ab s.P 55 l h85) h85 fun v86 h87=>
 bs (ai s.P wl 55 j v86 h87) fun h88=>
 ew [some v84,ab s.P 55 j h88] h88:=kR
theorem om (cx:Cx) (s:St):aw cx K DX .ret s=K .ret s:=by kernel_rfl
-- names: U6,VM,Oe,HB,om
theorem P1:ak (xX s 215 wl k false) Tryz.f215 [a] h =
 bp (yC s k wl 215 false true (.fn (.func 216) [] []) [a] h) fun v1 h2=>
 bm (ar v1 0) h2 fun v3 h4=>
 bm (ar v1 1) h4 fun v5 h6=>
 bm (gU true [v5,(.lit (.int .i64 0))]) h6 fun v7 h8=>
 bm (fL s.P 3 46 v7) h8 fun v9 hA=>
 some (.tup [v3,v9],hA):=kB
theorem X3:evF Tryz.prog xM (k+1) wl 215 [a] h=ak (xX (xS k) 215 wl k false) Tryz.f215 [a] h:=by kernel_rfl
-- names: P1,
theorem QT:ak (xX s 217 wl k false) Tryz.f217 [a] h =
 bp (yC s k wl 217 false true (.fn (.func 218) [] []) [a] h) fun v1 h2=>
 bp (yC s k wl 217 false true (.fn (.func 192) [] []) [a] h2) fun v3 h4=>
 some (.tup [v1,v3],h4):=kB
theorem Wa:evF Tryz.prog xM (k+1) wl 217 [a] h=ak (xX (xS k) 217 wl k false) Tryz.f217 [a] h:=by kernel_rfl
-- names: QT,
theorem Zt:ak (xX s 224 wl k false) Tryz.f224 [a] h =
 stO h.length a (
 bm (aU a h) h fun v1 h2=>
 bm (aa s.P 235 v1 2) h2 fun v3 h4=>
 stO h.length v3 (
 bm (ab s.P 26 v3 h4) h4 fun v5 h6=>
 bm (aU a h6) h6 fun v7 h8=>
 bm (aa s.P 235 v7 1) h8 fun v9 hA=>
 bm (ab s.P 23 v9 hA) hA fun vA hB=>
 bm (aU a hB) hB fun vC hC=>
 bm (aa s.P 235 vC 0) hC fun vD hD=>
 bm (aa s.P 55 vD 2) hD fun vB hE=>
 bm (ab s.P 3 vB hE) hE fun vE hH=>
 bp (yC s k wl 224 true true (.fn (.func 108) [] []) [vA,vE] hH) fun vF hF=>
 bp (yC s k wl 224 false true (.fn (.func 27) [] []) [v5,vF] hF) fun vH hG=>
 bm (aU a hG) hG fun vI hJ=>
 bm (aa s.P 235 vI 0) hJ fun vG hI=>
 bm (aa s.P 55 vG 4) hI fun vJ hL=>
 bs (ai s.P wl 46 vJ vH hL) fun hY=>
 bm (aU a hY) hY fun ve hh=>
 bm (aa s.P 235 ve 0) hh fun vf hW=>
 bm (aa s.P 55 vf 1) hW fun vM hT=>
 bs (ai s.P wl 3 vM (.lit (.int .i64 1)) hT) fun hS=>
 some (.tup [],hS))):=kB
theorem aeZ:evF Tryz.prog xM (k+1) wl 224 [a] h=ak (xX (xS k) 224 wl k false) Tryz.f224 [a] h:=by kernel_rfl
-- names: Zt,
theorem abB:ak (xX s 225 wl k false) Tryz.f225 [a] h =
 stO h.length a (
 bm (aU a h) h fun v1 h2=>
 bm (aa s.P 235 v1 2) h2 fun v3 h4=>
 stO h.length v3 (
 bm (ab s.P 26 v3 h4) h4 fun v5 h6=>
 bm (aU a h6) h6 fun v7 h8=>
 bm (aa s.P 235 v7 1) h8 fun v9 hA=>
 bm (ab s.P 23 v9 hA) hA fun vA hB=>
 bm (aU a hB) hB fun vC hC=>
 bm (aa s.P 235 vC 0) hC fun vD hD=>
 bm (aa s.P 55 vD 2) hD fun vB hE=>
 bm (ab s.P 3 vB hE) hE fun vE hH=>
 bp (yC s k wl 225 true true (.fn (.func 107) [] []) [vA,vE] hH) fun vF hF=>
 bp (yC s k wl 225 false true (.fn (.func 27) [] []) [v5,vF] hF) fun vH hG=>
 bm (aU a hG) hG fun vI hJ=>
 bm (aa s.P 235 vI 0) hJ fun vG hI=>
 bm (aa s.P 55 vG 5) hI fun vJ hL=>
 bs (ai s.P wl 46 vJ vH hL) fun hY=>
 bm (aU a hY) hY fun ve hh=>
 bm (aa s.P 235 ve 0) hh fun vf hW=>
 bm (aa s.P 55 vf 1) hW fun vM hT=>
 bs (ai s.P wl 3 vM (.lit (.int .i64 2)) hT) fun hS=>
 bm (aU a hS) hS fun vY hU=>
 bm (aa s.P 235 vY 0) hU fun vP hP=>
 bm (aa s.P 55 vP 4) hP fun vZ ha=>
 bm (ab s.P 46 vZ ha) ha fun vc hK=>
 bm (aU a hK) hK fun vl hj=>
 bm (aa s.P 235 vl 0) hj fun vg hl=>
 bm (aa s.P 55 vg 5) hl fun vs hM=>
 bm (ab s.P 46 vs hM) hM fun vo hk=>
 bm (aA s.P .sub 46 vc vo) hk fun vv hq=>
 bm (aU a hq) hq fun vy hx=>
 bm (aa s.P 235 vy 1) hx fun v59 hy=>
 bm (aa s.P 23 v59 1) hy fun v61 hw=>
 bm (ab s.P 3 v61 hw) hw fun v63 h64=>
 bm (fL s.P 3 46 v63) h64 fun v65 h66=>
 bm (aA s.P .geq 46 vv v65) h66 fun v67 h68=>
 cnd v67 (
 bm (aU a h68) h68 fun v69 h70=>
 bm (aa s.P 235 v69 0) h70 fun v71 h72=>
 bm (ab s.P 55 v71 h72) h72 fun vu hv=>
 bm (aU a hv) hv fun v75 h76=>
 bm (aa s.P 235 v75 0) h76 fun v77 h78=>
 bm (aa s.P 55 v77 3) h78 fun v79 h80=>
 bm (ab s.P 46 v79 h80) h80 fun v81 h82=>
 bp (yC s k wl 225 false true (.fn (.func 193) [] []) [vu,(.lit (.int .i64 2)),v81] h82) fun v83 h84=>
 bm (aU a h84) h84 fun v85 h86=>
 bm (aa s.P 235 v85 0) h86 fun v87 h88=>
 bs (ai s.P wl 55 v87 v83 h88) fun h89=>
 some (.tup [],h89)) (
 some (.tup [],h68)))):=kB
theorem ags:evF Tryz.prog xM (k+1) wl 225 [a] h=ak (xX (xS k) 225 wl k false) Tryz.f225 [a] h:=by kernel_rfl
-- names: abB,
theorem ZP:ak (xX s 226 wl k false) Tryz.f226 [a] h =
 stO h.length a (
 bm (aU a h) h fun v1 h2=>
 bm (aa s.P 235 v1 2) h2 fun v3 h4=>
 stO h.length v3 (
 bm (ab s.P 26 v3 h4) h4 fun v5 h6=>
 bm (aU a h6) h6 fun v7 h8=>
 bm (aa s.P 235 v7 1) h8 fun v9 hA=>
 bm (ab s.P 23 v9 hA) hA fun vA hB=>
 bm (aU a hB) hB fun vC hC=>
 bm (aa s.P 235 vC 0) hC fun vD hD=>
 bm (aa s.P 55 vD 2) hD fun vB hE=>
 bm (ab s.P 3 vB hE) hE fun vE hH=>
 bm (aU a hH) hH fun vF hF=>
 bm (aa s.P 235 vF 0) hF fun vH hG=>
 bm (aa s.P 55 vH 4) hG fun vI hJ=>
 bm (ab s.P 46 vI hJ) hJ fun vG hI=>
 bp (yC s k wl 226 true true (.fn (.func 109) [] []) [vA,vE,vG] hI) fun vJ hL=>
 stO h.length a (
 bm (aU a hL) hL fun vL hN=>
 bm (aa s.P 235 vL 0) hN fun vK hO=>
 bm (aa s.P 55 vK 3) hO fun vO hV=>
 stO h.length vO (
 bm (ab s.P 46 vO hV) hV fun vW hS=>
 bp (yC s k wl 226 false true (.fn (.func 88) [] []) [v5,vJ,vW] hS) fun vY hU=>
 bm (aU a hU) hU fun vP hP=>
 bm (aa s.P 235 vP 2) hP fun vZ ha=>
 bs (ai s.P wl 26 vZ vY ha) fun hX=>
 bm (aU a hX) hX fun va he=>
 bm (aa s.P 235 va 0) he fun vb hg=>
 bm (aa s.P 55 vb 1) hg fun vU hZ=>
 bs (ai s.P wl 3 vU (.lit (.int .i64 3)) hZ) fun hM=>
 some (.tup [],hM))))):=kB
theorem ad5:evF Tryz.prog xM (k+1) wl 226 [a] h=ak (xX (xS k) 226 wl k false) Tryz.f226 [a] h:=by kernel_rfl
-- names: ZP,
theorem Y1:ak (xX s 227 wl k false) Tryz.f227 [a] h =
 stO h.length a (
 bm (aU a h) h fun v1 h2=>
 bm (aa s.P 235 v1 2) h2 fun v3 h4=>
 stO h.length v3 (
 bm (ab s.P 26 v3 h4) h4 fun v5 h6=>
 bm (aU a h6) h6 fun v7 h8=>
 bm (aa s.P 235 v7 1) h8 fun v9 hA=>
 bm (ab s.P 23 v9 hA) hA fun vA hB=>
 bm (aU a hB) hB fun vC hC=>
 bm (aa s.P 235 vC 0) hC fun vD hD=>
 bm (aa s.P 55 vD 2) hD fun vB hE=>
 bm (ab s.P 3 vB hE) hE fun vE hH=>
 bp (yC s k wl 227 true true (.fn (.func 108) [] []) [vA,vE] hH) fun vF hF=>
 stO h.length a (
 bm (aU a hF) hF fun vH hG=>
 bm (aa s.P 235 vH 0) hG fun vI hJ=>
 bm (aa s.P 55 vI 4) hJ fun vG hI=>
 stO h.length vG (
 bm (ab s.P 46 vG hI) hI fun vJ hL=>
 bm (aA s.P .add 46 vJ (.lit (.int .u64 1))) hL fun vL hN=>
 bp (yC s k wl 227 false true (.fn (.func 88) [] []) [v5,vF,vL] hN) fun vK hO=>
 bm (aU a hO) hO fun vO hV=>
 bm (aa s.P 235 vO 2) hV fun vW hS=>
 bs (ai s.P wl 26 vW vK hS) fun hb=>
 bm (aU a hb) hb fun vQ hd=>
 bm (aa s.P 235 vQ 0) hd fun vm hf=>
 bm (ab s.P 55 vm hf) hf fun vi hX=>
 bm (aU a hX) hX fun va he=>
 bm (aa s.P 235 va 0) he fun vb hg=>
 bm (aa s.P 55 vb 3) hg fun vU hZ=>
 bm (ab s.P 46 vU hZ) hZ fun vX hi=>
 bp (yC s k wl 227 false true (.fn (.func 193) [] []) [vi,(.lit (.int .i64 1)),vX] hi) fun vR hp=>
 bm (aU a hp) hp fun vq ht=>
 bm (aa s.P 235 vq 0) ht fun vt hz=>
 bs (ai s.P wl 55 vt vR hz) fun hy=>
 some (.tup [],hy))))):=kB
theorem aev:evF Tryz.prog xM (k+1) wl 227 [a] h=ak (xX (xS k) 227 wl k false) Tryz.f227 [a] h:=by kernel_rfl
-- names: Y1,
theorem YP:ak (xX s 228 wl k false) Tryz.f228 [a,d,b,g,i] h =
 bp (some (.own h.length 0 0,h++[.rows 0 [] 0 true])) fun v1 h2=>
 bp (az s.P 55 h2) fun v3 h4=>
 bm (ab s.P 26 b h4) h4 fun v5 h6=>
 bm (ab s.P 3 g h6) h6 fun v7 h8=>
 bm (aa s.P 55 i 4) h8 fun v9 hA=>
 bm (ab s.P 46 v9 hA) hA fun vA hB=>
 bm (aA s.P .add 46 vA (.lit (.int .u64 1))) hB fun vC hC=>
 bp (yC s k wl 228 true true (.fn (.func 88) [] []) [v5,v7,vC] hC) fun vD hD=>
 stO h4.length i (
 bm (ab s.P 55 i hD) hD fun vB hE=>
 bp (yC s k wl 228 false true (.fn (.func 193) [] []) [vB,a,d] hE) fun vE hH=>
 bs (ai s.P wl 55 v3 vE hH) fun hQ=>
 ew [some vD,ab s.P 55 v3 hQ] hQ):=kB
theorem afw:evF Tryz.prog xM (k+1) wl 228 [a,d,b,g,i] h=ak (xX (xS k) 228 wl k false) Tryz.f228 [a,d,b,g,i] h:=by kernel_rfl
-- names: YP,
theorem Uz:ak (xX s 229 wl k false) Tryz.f229 [a,d,b] h =
 bm (ab s.P 26 a h) h fun v1 h2=>
 bm (ab s.P 3 d h2) h2 fun v3 h4=>
 bp (yC s k wl 229 false true (.fn (.func 27) [] []) [v1,v3] h4) fun v5 h6=>
 bm (aa s.P 55 b 5) h6 fun v7 h8=>
 bs (ai s.P wl 46 v7 v5 h8) fun h9=>
 some (.tup [],h9):=kB
theorem abH:evF Tryz.prog xM (k+1) wl 229 [a,d,b] h=ak (xX (xS k) 229 wl k false) Tryz.f229 [a,d,b] h:=by kernel_rfl
-- names: Uz,
theorem VF:ak (xX s 230 wl k false) Tryz.f230 [a,d,b] h =
 bm (ab s.P 26 a h) h fun v1 h2=>
 bm (ab s.P 3 d h2) h2 fun v3 h4=>
 bp (yC s k wl 230 false true (.fn (.func 27) [] []) [v1,v3] h4) fun v5 h6=>
 bm (aa s.P 55 b 4) h6 fun v7 h8=>
 bs (ai s.P wl 46 v7 v5 h8) fun h9=>
 bm (aa s.P 55 b 4) h9 fun v10 h11=>
 bm (ab s.P 46 v10 h11) h11 fun v12 h13=>
 bm (aa s.P 55 b 5) h13 fun vz ho=>
 bm (ab s.P 46 vz ho) ho fun vr hu=>
 bp (yC s k wl 230 false true (.fn (.func 106) [] []) [v12,vr] hu) fun vn hr=>
 bm (aA s.P .leq 3 vn (.lit (.int .i64 0))) hr fun vd hQ=>
 cnd vd (
 bm (ab s.P 55 b hQ) hQ fun vV hm=>
 bp (yC s k wl 230 false true (.fn (.func 193) [] []) [vV,(.lit (.int .i64 3)),(.lit (.int .u64 0))] hm) fun vS hc=>
 bs (ai s.P wl 55 b vS hc) fun hJ=>
 some (.tup [],hJ)) (
 some (.tup [],hQ)):=kB
theorem abp:evF Tryz.prog xM (k+1) wl 230 [a,d,b] h=ak (xX (xS k) 230 wl k false) Tryz.f230 [a,d,b] h:=by kernel_rfl
-- names: VF,
theorem VG:ak (xX s 231 wl k false) Tryz.f231 [a,d,b] h =
 stO h.length a (
 bm (ab s.P 26 a h) h fun v1 h2=>
 bm (ab s.P 23 d h2) h2 fun v3 h4=>
 bm (aa s.P 55 b 2) h4 fun v5 h6=>
 bm (ab s.P 3 v5 h6) h6 fun v7 h8=>
 bm (aa s.P 55 b 5) h8 fun v9 hA=>
 bm (ab s.P 46 v9 hA) hA fun vA hB=>
 bp (yC s k wl 231 true true (.fn (.func 109) [] []) [v3,v7,vA] hB) fun vC hC=>
 bp (yC s k wl 231 false true (.fn (.func 27) [] []) [v1,vC] hC) fun vD hD=>
 bm (aa s.P 55 b 3) hD fun vB hE=>
 bs (ai s.P wl 46 vB vD hE) fun hr=>
 some (.tup [],hr)):=kB
theorem Y6:evF Tryz.prog xM (k+1) wl 231 [a,d,b] h=ak (xX (xS k) 231 wl k false) Tryz.f231 [a,d,b] h:=by kernel_rfl
-- names: VG,
theorem Vl:ak (xX s 232 wl k false) Tryz.f232 [a,d,b] h =
 bm (ab s.P 26 a h) h fun v1 h2=>
 bm (ab s.P 3 d h2) h2 fun v3 h4=>
 bm (aa s.P 55 b 5) h4 fun v5 h6=>
 bm (ab s.P 46 v5 h6) h6 fun v7 h8=>
 bm (aa s.P 55 b 5) h8 fun v9 hA=>
 bm (ab s.P 46 v9 hA) hA fun vA hB=>
 bm (aA s.P .add 46 vA (.lit (.int .u64 1))) hB fun vC hC=>
 bp (yC s k wl 232 false true (.fn (.func 191) [] []) [v1,v3,v7,vC] hC) fun vD hD=>
 bm (ar vD 0) hD fun vB hE=>
 bm (ar vD 1) hE fun vE hH=>
 bs (ai s.P wl 26 a vB hH) fun hQ=>
 cnd vE (
 bm (ab s.P 55 b hQ) hQ fun vV hm=>
 bm (aa s.P 55 b 3) hm fun vS hc=>
 bm (ab s.P 46 vS hc) hc fun vN hn=>
 bp (yC s k wl 232 false true (.fn (.func 193) [] []) [vV,(.lit (.int .i64 1)),vN] hn) fun vh hs=>
 bs (ai s.P wl 55 b vh hs) fun hL=>
 some (.tup [],hL)) (
 bm (ab s.P 55 b hQ) hQ fun vL hN=>
 bp (yC s k wl 232 false true (.fn (.func 193) [] []) [vL,(.lit (.int .i64 4)),(.lit (.int .u64 0))] hN) fun vK hO=>
 bs (ai s.P wl 55 b vK hO) fun hW=>
 some (.tup [],hW)):=kB
theorem YS:evF Tryz.prog xM (k+1) wl 232 [a,d,b] h=ak (xX (xS k) 232 wl k false) Tryz.f232 [a,d,b] h:=by kernel_rfl
-- names: Vl,
end
end Go.Ab
set_option maxRecDepth 100000
set_option linter.unusedVariables false
namespace Go.Ab
open Go.Proofs
section
variable (s:Sys) (k wl:Nat) (m0:Nat) (ac:List Nat×List Nat) (a b d e n o g i j p q r l u y v E A F B D z Q L R M I T N U O J G W X Y Z t0:V) (h:Hp) (K:Out→St→Option (V×Hp)) (rd:Bool) (zz:List V)
noncomputable def CR:List Fr:=[.seq (al (an Tryz.f165) [1,1,1,1])]
theorem acN:ak (xX s 165 wl k false) Tryz.f165 [a,b,d] h =
 bp (aQ a h) fun v1 h2=>
 bp (aQ d h2) fun v3 h4=>
 bp (some (.own h4.length 0 0,h4++[.rows 0 [] 0 true])) fun v5 h6=>
 bp (az s.P 55 h6) fun v7 h8=>
 stO h8.length v3 (
 bm (ab s.P 55 v3 h8) h8 fun v9 hA=>
 stO h8.length v1 (
 bm (ab s.P 23 v1 hA) hA fun vA hB=>
 bp (yC s k wl 165 true true (.fn (.func 76) [] []) [b] hB) fun vC hC=>
 bm (be s.P 205 [(0,v9),(1,vA),(2,vC)]) hC fun vD hD=>
 bp (aQ vD hD) fun vB hE=>
 bp (aF s.P wl 207 5 [(0,(.fn (.func 183) [] [])),(1,(.fn (.func 184) [] [])),(2,(.fn (.func 185) [] [])),(3,(.fn (.func 186) [] [])),(4,(.fn (.func 187) [] []))] hE) fun vE hH=>
 bm (ab s.P 23 v1 hH) hH fun vF hF=>
 bm (ab s.P 55 v3 hF) hF fun vH hG=>
 bp (bh s.P 207 vE hG) fun vI hJ=>
 bp (yC s k wl 165 false true (.fn (.func 188) [] []) [vF,b,vH,(.lit (.int .i64 5)),vI] hJ) fun vG hI=>
 cnd vG (
 bm (aa s.P 55 v3 1) hI fun vJ hL=>
 bm (ab s.P 3 vJ hL) hL fun vL hN=>
 bm (am s.P 207 vE vL hN) hN fun vK hO=>
 bm (ab s.P 206 vK hO) hO fun vO hV=>
 bp (yC s k wl 165 false true vO [vB] hV) fun vW hS=>
 aw (xX s 165 wl k false) (av s.P Tryz.f165) CR .norm ⟨[a,b,d,v1,uu,v3,v5,v7,vB,vE,v9,vA,b,vC,vD,vB,vE,vF,b,vH,vE,vI,vG,vE,vJ,vL,vK,vO,vB,vW,uu,uu,uu,uu,uu,uu,uu,uu],hS⟩) (
 aw (xX s 165 wl k false) (av s.P Tryz.f165) CR .norm ⟨[a,b,d,v1,uu,v3,v5,v7,vB,vE,v9,vA,b,vC,vD,vB,vE,vF,b,vH,vE,vI,vG,uu,uu,uu,uu,uu,uu,uu,uu,uu,uu,uu,uu,uu,uu,uu],hI⟩))):=kB
theorem aeM:evF Tryz.prog xM (k+1) wl 165 [a,b,d] h=ak (xX (xS k) 165 wl k false) Tryz.f165 [a,b,d] h:=by kernel_rfl
theorem NP:aw (xX s 165 wl k false) (av s.P Tryz.f165) CR .norm ⟨[a,b,d,e,n,o,g,i,j,p,q,r,l,u,y,v,E,A,F,B,D,z,Q,L,R,M,I,T,N,U,O,J,G,W,X,Y,Z,t0],h⟩ =
 bm (aU j h) h fun vY hU=>
 bm (aa s.P 205 vY 2) hU fun vP hP=>
 bm (ab s.P 26 vP hP) hP fun vZ ha=>
 bm (aU j ha) ha fun vc hK=>
 bm (aa s.P 205 vc 0) hK fun vl hj=>
 bm (ab s.P 55 vl hj) hj fun vg hl=>
 bs (ai s.P wl 55 i vg hl) fun hZ=>
 ew [some vZ,ab s.P 55 i hZ] hZ:=kR
theorem u5 (cx:Cx) (s:St):aw cx K CR .ret s=K .ret s:=by kernel_rfl
-- names: acN,NP,u5
theorem ab5:ak (xX s 183 wl k false) Tryz.f183 [a] h =
 bm (aU a h) h fun v1 h2=>
 bm (aa s.P 205 v1 2) h2 fun v3 h4=>
 bm (ab s.P 26 v3 h4) h4 fun v5 h6=>
 bp (yC s k wl 183 false true (.fn (.func 27) [] []) [v5,(.lit (.int .i64 2))] h6) fun v7 h8=>
 bm (aU a h8) h8 fun v9 hA=>
 bm (aa s.P 205 v9 0) hA fun vA hB=>
 bm (aa s.P 55 vA 4) hB fun vC hC=>
 bs (ai s.P wl 46 vC v7 hC) fun ho=>
 bm (aU a ho) ho fun vr hu=>
 bm (aa s.P 205 vr 0) hu fun vn hr=>
 bm (aa s.P 55 vn 1) hr fun vd hQ=>
 bs (ai s.P wl 3 vd (.lit (.int .i64 1)) hQ) fun hF=>
 some (.tup [],hF):=kB
theorem afg:evF Tryz.prog xM (k+1) wl 183 [a] h=ak (xX (xS k) 183 wl k false) Tryz.f183 [a] h:=by kernel_rfl
-- names: ab5,
theorem acr:ak (xX s 184 wl k false) Tryz.f184 [a] h =
 bm (aU a h) h fun v1 h2=>
 bm (aa s.P 205 v1 2) h2 fun v3 h4=>
 bm (ab s.P 26 v3 h4) h4 fun v5 h6=>
 bp (yC s k wl 184 false true (.fn (.func 27) [] []) [v5,(.lit (.int .i64 2))] h6) fun v7 h8=>
 bm (aU a h8) h8 fun v9 hA=>
 bm (aa s.P 205 v9 0) hA fun vA hB=>
 bm (aa s.P 55 vA 5) hB fun vC hC=>
 bs (ai s.P wl 46 vC v7 hC) fun ho=>
 bm (aU a ho) ho fun vr hu=>
 bm (aa s.P 205 vr 0) hu fun vn hr=>
 bm (aa s.P 55 vn 1) hr fun vd hQ=>
 bs (ai s.P wl 3 vd (.lit (.int .i64 2)) hQ) fun hF=>
 bm (aU a hF) hF fun vH hG=>
 bm (aa s.P 205 vH 0) hG fun vI hJ=>
 bm (aa s.P 55 vI 5) hJ fun vG hI=>
 bm (ab s.P 46 vG hI) hI fun vJ hL=>
 bp (yC s k wl 184 true true (.fn (.func 213) [] []) [vJ] hL) fun vL hN=>
 stO hF.length a (
 bm (aU a hN) hN fun vK hO=>
 bm (aa s.P 205 vK 0) hO fun vO hV=>
 bm (aa s.P 55 vO 4) hV fun vW hS=>
 stO hF.length vW (
 bm (ab s.P 46 vW hS) hS fun vY hU=>
 bp (yC s k wl 184 false true (.fn (.func 213) [] []) [vY] hU) fun vP hP=>
 bm (aA s.P .neq 46 vL vP) hP fun vZ ha=>
 cnd vZ (
 bm (aU a ha) ha fun vc hK=>
 bm (aa s.P 205 vc 0) hK fun vl hj=>
 bm (ab s.P 55 vl hj) hj fun vg hl=>
 bp (yC s k wl 184 false true (.fn (.func 193) [] []) [vg,(.lit (.int .i64 4)),(.lit (.int .u64 0))] hl) fun vs hM=>
 bm (aU a hM) hM fun vo hk=>
 bm (aa s.P 205 vo 0) hk fun vv hq=>
 bs (ai s.P wl 55 vv vs hq) fun ht=>
 some (.tup [],ht)) (
 some (.tup [],ha)))):=kB
theorem agm:evF Tryz.prog xM (k+1) wl 184 [a] h=ak (xX (xS k) 184 wl k false) Tryz.f184 [a] h:=by kernel_rfl
-- names: acr,
theorem aaS:ak (xX s 185 wl k false) Tryz.f185 [a] h =
 bm (aU a h) h fun v1 h2=>
 bm (aa s.P 205 v1 0) h2 fun v3 h4=>
 bm (aa s.P 55 v3 1) h4 fun v5 h6=>
 bs (ai s.P wl 3 v5 (.lit (.int .i64 1)) h6) fun h7=>
 stO h7.length a (
 bm (aU a h7) h7 fun v8 h9=>
 bm (aa s.P 205 v8 2) h9 fun v10 h11=>
 stO h7.length v10 (
 bm (ab s.P 26 v10 h11) h11 fun v12 h13=>
 stO h7.length a (
 bm (aU a h13) h13 fun vz ho=>
 bm (aa s.P 205 vz 0) ho fun vr hu=>
 bm (aa s.P 55 vr 5) hu fun vn hr=>
 stO h7.length vn (
 bm (ab s.P 46 vn hr) hr fun vd hQ=>
 bm (aU a hQ) hQ fun vV hm=>
 bm (aa s.P 205 vV 0) hm fun vS hc=>
 bm (aa s.P 55 vS 5) hc fun vN hn=>
 bm (ab s.P 46 vN hn) hn fun vh hs=>
 bm (aU a hs) hs fun vp hY=>
 bm (aa s.P 205 vp 0) hY fun ve hh=>
 bm (aa s.P 55 ve 2) hh fun vf hW=>
 bm (ab s.P 3 vf hW) hW fun vM hT=>
 bp (yC s k wl 185 true true (.fn (.func 214) [] []) [vh,vM] hT) fun vT hb=>
 bp (yC s k wl 185 false true (.fn (.func 191) [] []) [v12,(.lit (.int .i64 2)),vd,vT] hb) fun vQ hd=>
 bm (ar vQ 0) hd fun vm hf=>
 bm (ar vQ 1) hf fun vi hX=>
 bm (aU a hX) hX fun va he=>
 bm (aa s.P 205 va 2) he fun vb hg=>
 bs (ai s.P wl 26 vb vm hg) fun hl=>
 cnd vi (
 bm (aU a hl) hl fun vs hM=>
 bm (aa s.P 205 vs 0) hM fun vo hk=>
 bm (aa s.P 55 vo 1) hk fun vv hq=>
 bs (ai s.P wl 3 vv (.lit (.int .i64 3)) hq) fun ht=>
 some (.tup [],ht)) (
 some (.tup [],hl)))))):=kB
theorem ag2:evF Tryz.prog xM (k+1) wl 185 [a] h=ak (xX (xS k) 185 wl k false) Tryz.f185 [a] h:=by kernel_rfl
-- names: aaS,
theorem YM:ak (xX s 186 wl k false) Tryz.f186 [a] h =
 stO h.length a (
 bm (aU a h) h fun v1 h2=>
 bm (aa s.P 205 v1 2) h2 fun v3 h4=>
 stO h.length v3 (
 bm (ab s.P 26 v3 h4) h4 fun v5 h6=>
 bm (aU a h6) h6 fun v7 h8=>
 bm (aa s.P 205 v7 1) h8 fun v9 hA=>
 bm (ab s.P 23 v9 hA) hA fun vA hB=>
 bm (aU a hB) hB fun vC hC=>
 bm (aa s.P 205 vC 0) hC fun vD hD=>
 bm (aa s.P 55 vD 2) hD fun vB hE=>
 bm (ab s.P 3 vB hE) hE fun vE hH=>
 bp (yC s k wl 186 true true (.fn (.func 32) [] []) [vA,vE] hH) fun vF hF=>
 bp (yC s k wl 186 false true (.fn (.func 27) [] []) [v5,vF] hF) fun vH hG=>
 bm (aU a hG) hG fun vI hJ=>
 bm (aa s.P 205 vI 0) hJ fun vG hI=>
 bm (aa s.P 55 vG 5) hI fun vJ hL=>
 bs (ai s.P wl 46 vJ vH hL) fun hY=>
 bm (aU a hY) hY fun ve hh=>
 bm (aa s.P 205 ve 0) hh fun vf hW=>
 bm (aa s.P 55 vf 5) hW fun vM hT=>
 bm (ab s.P 46 vM hT) hT fun vT hb=>
 bm (aA s.P .neq 46 vT (.lit (.int .u64 0))) hb fun vQ hd=>
 cnd vQ (
 bm (aU a hd) hd fun vm hf=>
 bm (aa s.P 205 vm 0) hf fun vi hX=>
 bm (aa s.P 55 vi 1) hX fun va he=>
 bs (ai s.P wl 3 va (.lit (.int .i64 4)) he) fun hj=>
 some (.tup [],hj)) (
 some (.tup [],hd)))):=kB
theorem afd:evF Tryz.prog xM (k+1) wl 186 [a] h=ak (xX (xS k) 186 wl k false) Tryz.f186 [a] h:=by kernel_rfl
-- names: YM,
theorem aco:ak (xX s 187 wl k false) Tryz.f187 [a] h =
 stO h.length a (
 bm (aU a h) h fun v1 h2=>
 bm (aa s.P 205 v1 2) h2 fun v3 h4=>
 stO h.length v3 (
 bm (ab s.P 26 v3 h4) h4 fun v5 h6=>
 bm (aU a h6) h6 fun v7 h8=>
 bm (aa s.P 205 v7 1) h8 fun v9 hA=>
 bm (ab s.P 23 v9 hA) hA fun vA hB=>
 bm (aU a hB) hB fun vC hC=>
 bm (aa s.P 205 vC 0) hC fun vD hD=>
 bm (aa s.P 55 vD 2) hD fun vB hE=>
 bm (ab s.P 3 vB hE) hE fun vE hH=>
 bp (yC s k wl 187 true true (.fn (.func 32) [] []) [vA,vE] hH) fun vF hF=>
 bp (yC s k wl 187 false true (.fn (.func 88) [] []) [v5,vF,(.lit (.int .u64 0))] hF) fun vH hG=>
 bm (aU a hG) hG fun vI hJ=>
 bm (aa s.P 205 vI 2) hJ fun vG hI=>
 bs (ai s.P wl 26 vG vH hI) fun hs=>
 bm (aU a hs) hs fun vp hY=>
 bm (aa s.P 205 vp 0) hY fun ve hh=>
 bm (ab s.P 55 ve hh) hh fun vf hW=>
 bp (yC s k wl 187 false true (.fn (.func 193) [] []) [vf,(.lit (.int .i64 1)),(.lit (.int .u64 0))] hW) fun vM hT=>
 bm (aU a hT) hT fun vT hb=>
 bm (aa s.P 205 vT 0) hb fun vQ hd=>
 bs (ai s.P wl 55 vQ vM hd) fun hP=>
 some (.tup [],hP))):=kB
theorem ae7:evF Tryz.prog xM (k+1) wl 187 [a] h=ak (xX (xS k) 187 wl k false) Tryz.f187 [a] h:=by kernel_rfl
-- names: aco,
noncomputable def fI:Code:=al (an Tryz.f196) [1,0]
noncomputable def eQ:List Fr:=[.seq (al (an Tryz.f196) [1,1])]
theorem ab1:ak (xX s 196 wl k false) Tryz.f196 [a,b,d,e] h =
 bp (aQ a h) fun v1 h2=>
 bp (aQ d h2) fun v3 h4=>
 bm (ab s.P 23 v1 h4) h4 fun v5 h6=>
 bp (yC s k wl 196 false true (.fn (.func 105) [] []) [v5,b] h6) fun v7 h8=>
 gd v7 (
 bm (ab s.P 55 v3 h8) h8 fun v9 hA=>
 bp (yC s k wl 196 false true (.fn (.func 110) [] []) [v9] hA) fun vA hB=>
 bm (vUn .not vA) hB fun vC hC=>
 yO s k wl 196 Tryz.f196 fI 7 h4.length ([],[]) eQ ⟨[a,b,d,e,v1,uu,v3,uu,(.lit (.bool false)),v5,b,v7,(.lit (.bool true)),v9,vA,vC,uu,uu,uu,uu,uu,uu,uu,uu,uu,uu,uu,uu,uu,uu,uu,uu,uu],hC⟩) (
 yO s k wl 196 Tryz.f196 fI 7 h4.length ([],[]) eQ ⟨[a,b,d,e,v1,uu,v3,uu,(.lit (.bool false)),v5,b,v7,(.lit (.bool false)),uu,uu,uu,uu,uu,uu,uu,uu,uu,uu,uu,uu,uu,uu,uu,uu,uu,uu,uu,uu],h8⟩) (
 yO s k wl 196 Tryz.f196 fI 5 h4.length ([],[]) eQ ⟨[a,b,d,e,v1,uu,v3,uu,(.lit (.bool false)),v5,b,v7,v7,uu,uu,uu,uu,uu,uu,uu,uu,uu,uu,uu,uu,uu,uu,uu,uu,uu,uu,uu,uu],h8⟩):=kB
theorem ag6:evF Tryz.prog xM (k+1) wl 196 [a,b,d,e] h=ak (xX (xS k) 196 wl k false) Tryz.f196 [a,b,d,e] h:=by kernel_rfl
theorem N5:yO s k wl 196 Tryz.f196 fI 7 m0 ac eQ ⟨(a::b::d::e::n::o::g::i::j::p::q::r::l::u::y::v::E::A::F::B::D::z::zz),h⟩ =
 bm (aS l v (.lit (.bool false))) h fun vD hD=>
 gd vD (
 bm (aa s.P 55 g 0) hD fun vB hE=>
 bm (ab s.P 3 vB hE) hE fun vE hH=>
 bm (aA s.P .eql 3 vE e) hH fun vF hF=>
 yO s k wl 196 Tryz.f196 fI 13 m0 ac eQ ⟨(a::b::d::e::n::o::g::i::j::p::q::r::l::u::y::v::vD::(.lit (.bool true))::vB::vE::e::vF::zz),hF⟩) (
 yO s k wl 196 Tryz.f196 fI 13 m0 ac eQ ⟨(a::b::d::e::n::o::g::i::j::p::q::r::l::u::y::v::vD::(.lit (.bool false))::uu::uu::uu::uu::zz),hD⟩) (
 yO s k wl 196 Tryz.f196 fI 10 m0 ac eQ ⟨(a::b::d::e::n::o::g::i::j::p::q::r::l::u::y::v::vD::vD::uu::B::D::z::zz),hD⟩):=kG
theorem Oh:yO s k wl 196 Tryz.f196 fI 13 m0 ac eQ ⟨[a,b,d,e,n,o,g,i,j,p,q,r,l,u,y,v,E,A,F,B,D,z,Q,L,R,M,I,T,N,U,O,J,G],h⟩ =
 bm (aS A z (.lit (.bool false))) h fun vH hG=>
 gd vH (
 bm (aa s.P 55 g 1) hG fun vI hJ=>
 bm (ab s.P 3 vI hJ) hJ fun vG hI=>
 bm (aA s.P .geq 3 vG (.lit (.int .i64 0))) hI fun vJ hL=>
 yO s k wl 196 Tryz.f196 fI 18 m0 ac eQ ⟨[a,b,d,e,n,o,g,i,j,p,q,r,l,u,y,v,E,A,F,B,D,z,vH,(.lit (.bool true)),vI,vG,vJ,T,N,U,O,J,G],hL⟩) (
 yO s k wl 196 Tryz.f196 fI 18 m0 ac eQ ⟨[a,b,d,e,n,o,g,i,j,p,q,r,l,u,y,v,E,A,F,B,D,z,vH,(.lit (.bool false)),uu,uu,uu,T,N,U,O,J,G],hG⟩) (
 yO s k wl 196 Tryz.f196 fI 16 m0 ac eQ ⟨[a,b,d,e,n,o,g,i,j,p,q,r,l,u,y,v,E,A,F,B,D,z,vH,vH,uu,M,I,T,N,U,O,J,G],hG⟩):=kG
theorem Oy:yO s k wl 196 Tryz.f196 fI 18 m0 ac eQ ⟨[a,b,d,e,n,o,g,i,j,p,q,r,l,u,y,v,E,A,F,B,D,z,Q,L,R,M,I,T,N,U,O,J,G],h⟩ =
 bm (aS L I (.lit (.bool false))) h fun vL hN=>
 gd vL (
 bm (aa s.P 55 g 1) hN fun vK hO=>
 bm (ab s.P 3 vK hO) hO fun vO hV=>
 bm (aA s.P .lss 3 vO (.lit (.int .i64 5))) hV fun vW hS=>
 yO s k wl 196 Tryz.f196 fI 23 m0 ac eQ ⟨[a,b,d,e,n,o,g,i,j,p,q,r,l,u,y,v,E,A,F,B,D,z,Q,L,R,M,I,vL,(.lit (.bool true)),vK,vO,vW,G],hS⟩) (
 yO s k wl 196 Tryz.f196 fI 23 m0 ac eQ ⟨[a,b,d,e,n,o,g,i,j,p,q,r,l,u,y,v,E,A,F,B,D,z,Q,L,R,M,I,vL,(.lit (.bool false)),uu,uu,uu,G],hN⟩) (
 yO s k wl 196 Tryz.f196 fI 21 m0 ac eQ ⟨[a,b,d,e,n,o,g,i,j,p,q,r,l,u,y,v,E,A,F,B,D,z,Q,L,R,M,I,vL,vL,uu,O,J,G],hN⟩):=kG
theorem MI:yO s k wl 196 Tryz.f196 fI 23 m0 ac eQ ⟨[a,b,d,e,n,o,g,i,j,p,q,r,l,u,y,v,E,A,F,B,D,z,Q,L,R,M,I,T,N,U,O,J,G],h⟩ =
 bm (aS N J (.lit (.bool false))) h fun vY hU=>
 some (vY,hU):=kG
theorem w9 (cx:Cx) (s:St):aw cx K eQ .ret s=K .ret s:=by kernel_rfl
-- names: ab1,N5,Oh,Oy,MI,w9
theorem aal:ak (xX s 197 wl k false) Tryz.f197 [a] h =
 bm (aU a h) h fun v1 h2=>
 bm (aa s.P 221 v1 2) h2 fun v3 h4=>
 bm (ab s.P 26 v3 h4) h4 fun v5 h6=>
 bp (yC s k wl 197 false true (.fn (.func 27) [] []) [v5,(.lit (.int .i64 5))] h6) fun v7 h8=>
 bm (aU a h8) h8 fun v9 hA=>
 bm (aa s.P 221 v9 0) hA fun vA hB=>
 bm (aa s.P 55 vA 4) hB fun vC hC=>
 bs (ai s.P wl 46 vC v7 hC) fun ho=>
 some ((.lit (.int .i64 1)),ho):=kB
theorem ae8:evF Tryz.prog xM (k+1) wl 197 [a] h=ak (xX (xS k) 197 wl k false) Tryz.f197 [a] h:=by kernel_rfl
-- names: aal,
theorem abT:ak (xX s 198 wl k false) Tryz.f198 [a] h =
 stO h.length a (
 bm (aU a h) h fun v1 h2=>
 bm (aa s.P 221 v1 2) h2 fun v3 h4=>
 stO h.length v3 (
 bm (ab s.P 26 v3 h4) h4 fun v5 h6=>
 bm (aU a h6) h6 fun v7 h8=>
 bm (aa s.P 221 v7 1) h8 fun v9 hA=>
 bm (ab s.P 23 v9 hA) hA fun vA hB=>
 bm (aU a hB) hB fun vC hC=>
 bm (aa s.P 221 vC 0) hC fun vD hD=>
 bm (aa s.P 55 vD 4) hD fun vB hE=>
 bm (ab s.P 46 vB hE) hE fun vE hH=>
 bp (yC s k wl 198 true true (.fn (.func 203) [] []) [vA,vE] hH) fun vF hF=>
 bp (yC s k wl 198 false true (.fn (.func 27) [] []) [v5,vF] hF) fun vH hG=>
 bm (aU a hG) hG fun vI hJ=>
 bm (aa s.P 221 vI 0) hJ fun vG hI=>
 bm (aa s.P 55 vG 5) hI fun vJ hL=>
 bs (ai s.P wl 46 vJ vH hL) fun hY=>
 stO hY.length a (
 bm (aU a hY) hY fun ve hh=>
 bm (aa s.P 221 ve 0) hh fun vf hW=>
 bm (aa s.P 55 vf 5) hW fun vM hT=>
 stO hY.length vM (
 bm (ab s.P 46 vM hT) hT fun vT hb=>
 bp (yC s k wl 198 true true (.fn (.func 221) [] []) [a] hb) fun vQ hd=>
 bm (aA s.P .eql 46 vT vQ) hd fun vm hf=>
 cnd vm (
 some ((.lit (.int .i64 2)),hf)) (
 stO hf.length a (
 bm (aU a hf) hf fun vi hX=>
 bm (aa s.P 221 vi 0) hX fun va he=>
 bm (aa s.P 55 va 5) he fun vb hg=>
 stO hf.length vb (
 bm (ab s.P 46 vb hg) hg fun vU hZ=>
 bp (yC s k wl 198 true true (.fn (.func 221) [] []) [a] hZ) fun vX hi=>
 bp (yC s k wl 198 false true (.fn (.func 106) [] []) [vU,vX] hi) fun vR hp=>
 bm (aA s.P .lss 3 vR (.lit (.int .i64 0))) hp fun vq ht=>
 cnd vq (
 bm (aU a ht) ht fun vt hz=>
 bm (aa s.P 221 vt 0) hz fun v60 h61=>
 bm (ab s.P 55 v60 h61) h61 fun vx h63=>
 bm (aU a h63) h63 fun vw h65=>
 bm (aa s.P 221 vw 0) h65 fun vk h67=>
 bm (aa s.P 55 vk 3) h67 fun v68 h69=>
 bm (ab s.P 46 v68 h69) h69 fun v70 h71=>
 bp (yC s k wl 198 false true (.fn (.func 193) [] []) [vx,(.lit (.int .i64 2)),v70] h71) fun v72 h73=>
 bm (aU a h73) h73 fun v74 h75=>
 bm (aa s.P 221 v74 0) h75 fun v76 hR=>
 bs (ai s.P wl 55 v76 v72 hR) fun h78=>
 some ((.lit (.int .i64 0)),h78)) (
 some ((.lit (.int .i64 0)),ht))))))))):=kB
theorem ag3:evF Tryz.prog xM (k+1) wl 198 [a] h=ak (xX (xS k) 198 wl k false) Tryz.f198 [a] h:=by kernel_rfl
-- names: abT,
theorem Zp:ak (xX s 199 wl k false) Tryz.f199 [a] h =
 bm (aU a h) h fun v1 h2=>
 bm (aa s.P 221 v1 2) h2 fun v3 h4=>
 bm (ab s.P 26 v3 h4) h4 fun v5 h6=>
 bm (aU a h6) h6 fun v7 h8=>
 bm (aa s.P 221 v7 0) h8 fun v9 hA=>
 bm (aa s.P 55 v9 4) hA fun vA hB=>
 bm (ab s.P 46 vA hB) hB fun vC hC=>
 bm (aU a hC) hC fun vD hD=>
 bm (aa s.P 221 vD 0) hD fun vB hE=>
 bm (aa s.P 55 vB 4) hE fun vE hH=>
 bm (ab s.P 46 vE hH) hH fun vF hF=>
 bm (aA s.P .add 46 vF (.lit (.int .u64 1))) hF fun vH hG=>
 bp (yC s k wl 199 false true (.fn (.func 191) [] []) [v5,(.lit (.int .i64 5)),vC,vH] hG) fun vI hJ=>
 bm (ar vI 0) hJ fun vG hI=>
 bm (ar vI 1) hI fun vJ hL=>
 bm (aU a hL) hL fun vL hN=>
 bm (aa s.P 221 vL 2) hN fun vK hO=>
 bs (ai s.P wl 26 vK vG hO) fun hW=>
 cnd vJ (
 some ((.lit (.int .i64 3)),hW)) (
 some ((.lit (.int .i64 0)),hW)):=kB
theorem agz:evF Tryz.prog xM (k+1) wl 199 [a] h=ak (xX (xS k) 199 wl k false) Tryz.f199 [a] h:=by kernel_rfl
-- names: Zp,
theorem ab9:ak (xX s 200 wl k false) Tryz.f200 [a] h =
 stO h.length a (
 bm (aU a h) h fun v1 h2=>
 bm (aa s.P 221 v1 2) h2 fun v3 h4=>
 stO h.length v3 (
 bm (ab s.P 26 v3 h4) h4 fun v5 h6=>
 bm (aU a h6) h6 fun v7 h8=>
 bm (aa s.P 221 v7 1) h8 fun v9 hA=>
 bm (ab s.P 23 v9 hA) hA fun vA hB=>
 bm (aU a hB) hB fun vC hC=>
 bm (aa s.P 221 vC 0) hC fun vD hD=>
 bm (aa s.P 55 vD 4) hD fun vB hE=>
 bm (ab s.P 46 vB hE) hE fun vE hH=>
 bp (yC s k wl 200 true true (.fn (.func 205) [] []) [vA,vE] hH) fun vF hF=>
 stO h.length a (
 bm (aU a hF) hF fun vH hG=>
 bm (aa s.P 221 vH 0) hG fun vI hJ=>
 bm (aa s.P 55 vI 3) hJ fun vG hI=>
 stO h.length vG (
 bm (ab s.P 46 vG hI) hI fun vJ hL=>
 bp (yC s k wl 200 false true (.fn (.func 88) [] []) [v5,vF,vJ] hL) fun vL hN=>
 bm (aU a hN) hN fun vK hO=>
 bm (aa s.P 221 vK 2) hO fun vO hV=>
 bs (ai s.P wl 26 vO vL hV) fun hT=>
 some ((.lit (.int .i64 4)),hT))))):=kB
theorem aek:evF Tryz.prog xM (k+1) wl 200 [a] h=ak (xX (xS k) 200 wl k false) Tryz.f200 [a] h:=by kernel_rfl
-- names: ab9,
theorem acx:ak (xX s 201 wl k false) Tryz.f201 [a] h =
 stO h.length a (
 bm (aU a h) h fun v1 h2=>
 bm (aa s.P 221 v1 2) h2 fun v3 h4=>
 stO h.length v3 (
 bm (ab s.P 26 v3 h4) h4 fun v5 h6=>
 bm (aU a h6) h6 fun v7 h8=>
 bm (aa s.P 221 v7 1) h8 fun v9 hA=>
 bm (ab s.P 23 v9 hA) hA fun vA hB=>
 bm (aU a hB) hB fun vC hC=>
 bm (aa s.P 221 vC 0) hC fun vD hD=>
 bm (aa s.P 55 vD 4) hD fun vB hE=>
 bm (ab s.P 46 vB hE) hE fun vE hH=>
 bp (yC s k wl 201 true true (.fn (.func 203) [] []) [vA,vE] hH) fun vF hF=>
 bp (yC s k wl 201 true true (.fn (.func 221) [] []) [a] hF) fun vH hG=>
 bm (aA s.P .add 46 vH (.lit (.int .u64 1))) hG fun vI hJ=>
 bp (yC s k wl 201 false true (.fn (.func 88) [] []) [v5,vF,vI] hJ) fun vG hI=>
 bm (aU a hI) hI fun vJ hL=>
 bm (aa s.P 221 vJ 2) hL fun vL hN=>
 bs (ai s.P wl 26 vL vG hN) fun hh=>
 bm (aU a hh) hh fun vf hW=>
 bm (aa s.P 221 vf 0) hW fun vM hT=>
 bm (ab s.P 55 vM hT) hT fun vT hb=>
 bm (aU a hb) hb fun vQ hd=>
 bm (aa s.P 221 vQ 0) hd fun vm hf=>
 bm (aa s.P 55 vm 3) hf fun vi hX=>
 bm (ab s.P 46 vi hX) hX fun va he=>
 bp (yC s k wl 201 false true (.fn (.func 193) [] []) [vT,(.lit (.int .i64 1)),va] he) fun vb hg=>
 bm (aU a hg) hg fun vU hZ=>
 bm (aa s.P 221 vU 0) hZ fun vX hi=>
 bs (ai s.P wl 55 vX vb hi) fun hk=>
 some ((.lit (.int .i64 0)),hk))):=kB
theorem adn:evF Tryz.prog xM (k+1) wl 201 [a] h=ak (xX (xS k) 201 wl k false) Tryz.f201 [a] h:=by kernel_rfl
-- names: acx,
theorem aau:ak (xX s 202 wl k false) Tryz.f202 [a,b] h =
 bm (ab s.P 223 a h) h fun v1 h2=>
 bm (aa s.P 55 b 1) h2 fun v3 h4=>
 bm (ab s.P 3 v3 h4) h4 fun v5 h6=>
 bm (am s.P 223 v1 v5 h6) h6 fun v7 h8=>
 bm (ab s.P 116 v7 h8) h8 fun v9 hA=>
 bp (yC s k wl 202 false true v9 [] hA) fun vA hB=>
 some (vA,hB):=kB
theorem aeH:evF Tryz.prog xM (k+1) wl 202 [a,b] h=ak (xX (xS k) 202 wl k false) Tryz.f202 [a,b] h:=by kernel_rfl
-- names: aau,
theorem ZU:ak (xX s 204 wl k false) Tryz.f204 [a,b] h =
 bp (aQ a h) fun v1 h2=>
 bm (aa s.P 23 v1 2) h2 fun v3 h4=>
 bm (ab s.P 3 v3 h4) h4 fun v5 h6=>
 bm (fL s.P 3 46 v5) h6 fun v7 h8=>
 bm (aA s.P .quo 46 b v7) h8 fun v9 hA=>
 bm (aA s.P .mul 46 v9 (.lit (.int .u64 2))) hA fun vA hB=>
 bm (aA s.P .add 46 vA (.lit (.int .u64 1))) hB fun vC hC=>
 some (vC,hC):=kB
theorem adR:evF Tryz.prog xM (k+1) wl 204 [a,b] h=ak (xX (xS k) 204 wl k false) Tryz.f204 [a,b] h:=by kernel_rfl
-- names: ZU,
theorem YC:ak (xX s 221 wl k false) Tryz.f221 [a] h =
 bm (aU a h) h fun v1 h2=>
 bm (aa s.P 221 v1 0) h2 fun v3 h4=>
 bm (aa s.P 55 v3 4) h4 fun v5 h6=>
 bm (ab s.P 46 v5 h6) h6 fun v7 h8=>
 bm (aU a h8) h8 fun v9 hA=>
 bm (aa s.P 221 v9 1) hA fun vA hB=>
 bm (aa s.P 23 vA 2) hB fun vC hC=>
 bm (ab s.P 3 vC hC) hC fun vD hD=>
 bm (fL s.P 3 46 vD) hD fun vB hE=>
 bm (aA s.P .quo 46 v7 vB) hE fun vE hH=>
 bm (aA s.P .mul 46 vE (.lit (.int .u64 2))) hH fun vF hF=>
 some (vF,hF):=kB
theorem ae9:evF Tryz.prog xM (k+1) wl 221 [a] h=ak (xX (xS k) 221 wl k false) Tryz.f221 [a] h:=by kernel_rfl
-- names: YC,
noncomputable def DO:Code:=al (an Tryz.f105) [1,0]
noncomputable def AH:List Fr:=[.seq (al (an Tryz.f105) [1,1])]
theorem Yx:ak (xX s 105 wl k false) Tryz.f105 [a,b] h =
 bp (aQ a h) fun v1 h2=>
 bm (ab s.P 23 v1 h2) h2 fun v3 h4=>
 bp (yC s k wl 105 false true (.fn (.func 50) [] []) [v3] h4) fun v5 h6=>
 gd v5 (
 bp (bh s.P 26 b h6) fun v7 h8=>
 bm (ab s.P 23 v1 h8) h8 fun v9 hA=>
 bp (yC s k wl 105 false true (.fn (.func 103) [] []) [v9] hA) fun vA hB=>
 bm (aA s.P .eql 3 v7 vA) hB fun vC hC=>
 yO s k wl 105 Tryz.f105 DO 8 h2.length ([],[]) AH ⟨[a,b,v1,uu,(.lit (.bool false)),v3,v5,(.lit (.bool true)),b,v7,v9,vA,vC,uu],hC⟩) (
 yO s k wl 105 Tryz.f105 DO 8 h2.length ([],[]) AH ⟨[a,b,v1,uu,(.lit (.bool false)),v3,v5,(.lit (.bool false)),uu,uu,uu,uu,uu,uu],h6⟩) (
 yO s k wl 105 Tryz.f105 DO 4 h2.length ([],[]) AH ⟨[a,b,v1,uu,(.lit (.bool false)),v3,v5,v5,uu,uu,uu,uu,uu,uu],h6⟩):=kB
theorem adT:evF Tryz.prog xM (k+1) wl 105 [a,b] h=ak (xX (xS k) 105 wl k false) Tryz.f105 [a,b] h:=by kernel_rfl
theorem N4:yO s k wl 105 Tryz.f105 DO 8 m0 ac AH ⟨[a,b,d,e,n,o,g,i,j,p,q,r,l,u],h⟩ =
 bm (aS i l (.lit (.bool false))) h fun vD hD=>
 some (vD,hD):=kG
theorem wD (cx:Cx) (s:St):aw cx K AH .ret s=K .ret s:=by kernel_rfl
-- names: Yx,N4,wD
end
end Go.Ab
set_option maxRecDepth 100000
set_option linter.unusedVariables false
namespace Go.Ab
open Go.Proofs
section
variable (s:Sys) (k wl:Nat) (m0:Nat) (ac:List Nat×List Nat) (b a d l q g r i j u v z A o B D E F p G I J L M N O Q R T U Y Z t0 t1 t2 t3 t4 t5 t6 t7 t8 W t9 ta X th tb tc td te tf tg ti tj tk tl tm tn tp tq tr ts tt tu tv tw tx ty tz tA tB tC tD tE tF tG tH tI tJ tK tL tM tN tO tP tQ tR tS tT tU tV tW tX tY tZ q0 q1 q2 q3 q4 q5 q6 q7 q8 q9 qa qb qc qd qe qf qg qh qi qj qk ql qm qn qo qp qq qr qs qt qu:V) (h:Hp) (K:Out→St→Option (V×Hp)) (rd:Bool) (n n0:Nat) (zz:List V)
noncomputable def CK:List Fr:=[.seq (al (an Tryz.f134) [1,0,1,0,1,1,1]),.block 0,.seq (al (an Tryz.f134) [1,1])]
theorem acs:ak (xX s 134 wl k false) Tryz.f134 [b,a,d] h =
 bp (aQ b h) fun v1 h2=>
 bp (aQ d h2) fun v3 h4=>
 bp (some (.own h4.length 0 0,h4++[.rows 0 [] 0 true])) fun v5 h6=>
 bp (az s.P 55 h6) fun v7 h8=>
 bm (aa s.P 55 v3 0) h8 fun v9 hA=>
 bm (ab s.P 3 v9 hA) hA fun vA hB=>
 bm (aA s.P .eql 3 vA (.lit (.int .i64 5))) hB fun vC hC=>
 cnd vC (
 bm (ab s.P 23 v1 hC) hC fun vD hD=>
 bm (ab s.P 55 v3 hD) hD fun vB hE=>
 bp (yC s k wl 134 false true (.fn (.func 165) [] []) [vD,a,vB] hE) fun vE hH=>
 bm (ar vE 0) hH fun vF hF=>
 bm (ar vE 1) hF fun vH hG=>
 bs (ai s.P wl 55 v7 vH hG) fun hc=>
 ew [some vF,ab s.P 55 v7 hc] hc) (
 bm (aA s.P .eql 3 vA (.lit (.int .i64 6))) hC fun vN hn=>
 cnd vN (
 aw (xX s 134 wl k false) (av s.P Tryz.f134) CK .norm ⟨[b,a,d,v1,uu,v3,v5,v7,v9,vA,vC,vC,uu,uu,uu,uu,uu,uu,vN,vN,uu,uu,uu,uu,uu,uu,uu,uu,uu,uu],hn⟩) (
 bm (aA s.P .eql 3 vA (.lit (.int .i64 7))) hn fun vh hs=>
 aw (xX s 134 wl k false) (av s.P Tryz.f134) CK .norm ⟨[b,a,d,v1,uu,v3,v5,v7,v9,vA,vC,vC,uu,uu,uu,uu,uu,uu,vh,vN,vh,uu,uu,uu,uu,uu,uu,uu,uu,uu],hs⟩)):=kB
theorem agq:evF Tryz.prog xM (k+1) wl 134 [b,a,d] h=ak (xX (xS k) 134 wl k false) Tryz.f134 [b,a,d] h:=by kernel_rfl
theorem Ow:aw (xX s 134 wl k false) (av s.P Tryz.f134) CK .norm ⟨[b,a,d,l,q,g,r,i,j,u,v,z,A,o,B,D,E,F,p,G,I,J,L,M,N,O,Q,R,T,U],h⟩ =
 cnd p (
 bm (ab s.P 23 l h) h fun vp hY=>
 bm (ab s.P 55 g hY) hY fun ve hh=>
 bp (yC s k wl 134 false true (.fn (.func 166) [] []) [vp,a,ve] hh) fun vf hW=>
 bm (ar vf 0) hW fun vM hT=>
 bm (ar vf 1) hT fun vT hb=>
 bs (ai s.P wl 55 i vT hb) fun hU=>
 ew [some vM,ab s.P 55 i hU] hU) (
 bp (yC s k wl 134 true true (.fn (.func 76) [] []) [a] h) fun vP hP=>
 stO h.length g (
 bm (ab s.P 55 g hP) hP fun vZ ha=>
 bs (ai s.P wl 55 i vZ ha) fun hX=>
 ew [some vP,ab s.P 55 i hX] hX)):=kR
theorem uY (cx:Cx) (s:St):aw cx K CK .ret s=K .ret s:=by kernel_rfl
-- names: acs,Ow,uY
theorem acF:ak (xX s 135 wl k false) Tryz.f135 [b,a,d] h =
 bp (aQ b h) fun v1 h2=>
 bp (aQ d h2) fun v3 h4=>
 bp (some (.own h4.length 0 0,h4++[.rows 0 [] 0 true])) fun v5 h6=>
 bp (az s.P 55 h6) fun v7 h8=>
 bm (aa s.P 55 v3 0) h8 fun v9 hA=>
 bm (ab s.P 3 v9 hA) hA fun vA hB=>
 bm (aA s.P .eql 3 vA (.lit (.int .i64 3))) hB fun vC hC=>
 cnd vC (
 bm (ab s.P 23 v1 hC) hC fun vD hD=>
 bm (ab s.P 55 v3 hD) hD fun vB hE=>
 bp (yC s k wl 135 false true (.fn (.func 167) [] []) [vD,a,vB] hE) fun vE hH=>
 bm (ar vE 0) hH fun vF hF=>
 bm (ar vE 1) hF fun vH hG=>
 bs (ai s.P wl 55 v7 vH hG) fun hc=>
 ew [some vF,ab s.P 55 v7 hc] hc) (
 bm (aA s.P .eql 3 vA (.lit (.int .i64 4))) hC fun vN hn=>
 cnd vN (
 bm (ab s.P 23 v1 hn) hn fun vh hs=>
 bm (ab s.P 55 v3 hs) hs fun vp hY=>
 bp (yC s k wl 135 false true (.fn (.func 168) [] []) [vh,a,vp] hY) fun ve hh=>
 bm (ar ve 0) hh fun vf hW=>
 bm (ar ve 1) hW fun vM hT=>
 bs (ai s.P wl 55 v7 vM hT) fun hS=>
 ew [some vf,ab s.P 55 v7 hS] hS) (
 bp (yC s k wl 135 true true (.fn (.func 76) [] []) [a] hn) fun vY hU=>
 stO hn.length v3 (
 bm (ab s.P 55 v3 hU) hU fun vP hP=>
 bs (ai s.P wl 55 v7 vP hP) fun hf=>
 ew [some vY,ab s.P 55 v7 hf] hf))):=kB
theorem adN:evF Tryz.prog xM (k+1) wl 135 [b,a,d] h=ak (xX (xS k) 135 wl k false) Tryz.f135 [b,a,d] h:=by kernel_rfl
-- names: acF,
noncomputable def AU:List Fr:=[.block 0,.seq (al (an Tryz.f166) [1,1,1,1])]
noncomputable def CJ:List Fr:=[.seq (al (an Tryz.f166) [1,1,1,0,0,1,1,1,1,1,0,1,1]),.block 0,.seq (al (an Tryz.f166) [1,1,1,1])]
noncomputable def Cy:Code:=al (an Tryz.f166) [1,1,1,0,0,1,1,1,1,1,1,1,0,1,0]
noncomputable def u4:List Fr:=[.seq (al (an Tryz.f166) [1,1,1,0,0,1,1,1,1,1,1,1,0,1,1]),.seq (al (an Tryz.f166) [1,1,1,0,0,1,1,1,1,1,1,1,1]),.block 0,.seq (al (an Tryz.f166) [1,1,1,1])]
theorem YV:ak (xX s 166 wl k false) Tryz.f166 [b,a,d] h =
 bp (aQ b h) fun v1 h2=>
 bp (aQ d h2) fun v3 h4=>
 bp (some (.own h4.length 0 0,h4++[.rows 0 [] 0 true])) fun v5 h6=>
 bp (az s.P 55 h6) fun v7 h8=>
 bp (yC s k wl 166 false true (.fn (.func 76) [] []) [a] h8) fun v9 hA=>
 bm (ab s.P 23 v1 hA) hA fun vA hB=>
 bm (ab s.P 55 v3 hB) hB fun vC hC=>
 bp (yC s k wl 166 false true (.fn (.func 189) [] []) [vA,a,vC] hC) fun vD hD=>
 bm (vUn .not vD) hD fun vB hE=>
 cnd vB (
 bm (ab s.P 55 v3 hE) hE fun vE hH=>
 bs (ai s.P wl 55 v7 vE hH) fun hQ=>
 ew [some v9,ab s.P 55 v7 hQ] hQ) (
 bm (aa s.P 55 v3 1) hE fun vV hm=>
 bm (ab s.P 3 vV hm) hm fun vS hc=>
 bm (aA s.P .eql 3 vS (.lit (.int .i64 0))) hc fun vN hn=>
 cnd vN (
 bp (yC s k wl 166 false true (.fn (.func 27) [] []) [v9,(.lit (.int .i64 2))] hn) fun vh hs=>
 bm (aa s.P 55 v3 4) hs fun vp hY=>
 bs (ai s.P wl 46 vp vh hY) fun hN=>
 bm (aa s.P 55 v3 1) hN fun vK hO=>
 bs (ai s.P wl 3 vK (.lit (.int .i64 1)) hO) fun hW=>
 aw (xX s 166 wl k false) (av s.P Tryz.f166) AU .norm ⟨(b::a::d::v1::uu::v3::v5::v7::v9::uu::uu::uu::uu::uu::a::v9::vA::a::vC::vD::vB::uu::uu::uu::uu::uu::uu::uu::uu::uu::uu::uu::uu::uu::uu::uu::uu::uu::uu::uu::uu::uu::uu::uu::uu::uu::uu::uu::uu::uu::uu::uu::uu::uu::uu::uu::uu::uu::uu::vN::vV::vS::vN::v9::vh::vp::vK::uu::uu::uu::uu::uu::uu::uu::uu::uu::uu::uu::uu::uu::uu::uu::uu::uu::uu::uu::uu::uu::uu::uu::uu::uu::uu::uu::uu::uu::uu::uu::uu::uu::uu::uu::uu::uu::uu::uu::uu::uu::uu::uu::uu::uu::uu::uu::uu::uu::uu::uu::uu::uu::uu::uu::uu::uu::uu::uu::[]),hW⟩) (
 bm (aa s.P 55 v3 1) hn fun vM hT=>
 bm (ab s.P 3 vM hT) hT fun vT hb=>
 bm (aA s.P .eql 3 vT (.lit (.int .i64 1))) hb fun vQ hd=>
 cnd vQ (
 bp (yC s k wl 166 true true (.fn (.func 190) [] []) [] hd) fun vm hf=>
 bm (aa s.P 55 v3 0) hf fun vi hX=>
 stO hd.length vi (
 bm (ab s.P 3 vi hX) hX fun va he=>
 bm (gG s.P 212 vm va false he) he fun vb hg=>
 bm (aa s.P 55 v3 4) hg fun vU hZ=>
 stO hd.length vU (
 bm (ab s.P 46 vU hZ) hZ fun vX hi=>
 bp (yC s k wl 166 false true vb [vX] hi) fun vR hp=>
 bm (ar vR 0) hp fun vq ht=>
 bm (ar vR 1) ht fun vt hz=>
 bm (aa s.P 55 v3 4) hz fun v60 h61=>
 bm (ab s.P 46 v60 h61) h61 fun vx h63=>
 bp (yC s k wl 166 false true (.fn (.func 191) [] []) [v9,(.lit (.int .i64 2)),vx,vq] h63) fun vw h65=>
 bm (ar vw 0) h65 fun vk h67=>
 bm (ar vw 1) h67 fun v68 h69=>
 bm (aa s.P 55 v3 1) h69 fun v70 h71=>
 bs (ai s.P wl 3 v70 (.lit (.int .i64 0)) h71) fun h72=>
 bm (vUn .not v68) h72 fun vu hv=>
 cnd vu (
 bm (ab s.P 55 v3 hv) hv fun v75 h76=>
 bs (ai s.P wl 55 v7 v75 h76) fun hR=>
 ew [some vk,ab s.P 55 v7 hR] hR) (
 bm (aa s.P 55 v3 4) hv fun v78 h79=>
 bm (ab s.P 46 v78 h79) h79 fun v80 h81=>
 bp (yC s k wl 166 false true (.fn (.func 192) [] []) [v80] h81) fun v82 h83=>
 bm (aA s.P .eql 46 v82 (.lit (.int .u64 0))) h83 fun v84 h85=>
 cnd v84 (
 bm (ab s.P 55 v3 h85) h85 fun v86 h87=>
 bp (yC s k wl 166 false true (.fn (.func 193) [] []) [v86,(.lit (.int .i64 3)),(.lit (.int .u64 0))] h87) fun v88 h89=>
 bs (ai s.P wl 55 v7 v88 h89) fun h90=>
 ew [some vk,ab s.P 55 v7 h90] h90) (
 bm (aa s.P 55 v3 5) h85 fun v91 h92=>
 bs (ai s.P wl 46 v91 vt h92) fun h93=>
 bm (aa s.P 55 v3 1) h93 fun v94 h95=>
 bs (ai s.P wl 3 v94 (.lit (.int .i64 2)) h95) fun h96=>
 aw (xX s 166 wl k false) (av s.P Tryz.f166) AU .norm ⟨(b::a::d::v1::uu::v3::v5::v7::vk::vq::vt::vk::v68::uu::a::v9::vA::a::vC::vD::vB::uu::uu::uu::uu::uu::uu::uu::uu::uu::uu::uu::uu::uu::uu::uu::uu::uu::uu::uu::uu::uu::uu::uu::uu::uu::uu::uu::uu::uu::uu::uu::uu::uu::uu::uu::uu::uu::uu::vN::vV::vS::vN::uu::uu::uu::uu::vQ::vM::vT::vQ::vR::vm::vi::va::vb::vU::vX::vR::vq::vt::vw::v9::v60::vx::vq::vw::vk::v68::vk::v70::v68::vu::uu::uu::v78::v80::v82::v84::uu::uu::uu::vt::v91::v94::uu::uu::uu::uu::uu::uu::uu::uu::uu::uu::uu::uu::uu::uu::uu::uu::uu::uu::uu::uu::uu::[]),h96⟩))))) (
 bm (aa s.P 55 v3 0) hd fun v97 h98=>
 bm (ab s.P 3 v97 h98) h98 fun v99 h100=>
 bm (aA s.P .eql 3 v99 (.lit (.int .i64 6))) h100 fun vj h102=>
 cnd vj (
 bm (aa s.P 55 v3 5) h102 fun v103 h104=>
 bm (ab s.P 46 v103 h104) h104 fun v105 h106=>
 bm (aA s.P .lss 46 v105 (.lit (.int .u64 8))) h106 fun v107 h108=>
 cnd v107 (
 bm (aa s.P 55 v3 5) h108 fun v109 h110=>
 bm (ab s.P 46 v109 h110) h110 fun v111 h112=>
 bm (fL s.P 46 3 v111) h112 fun v113 h114=>
 aw (xX s 166 wl k false) (av s.P Tryz.f166) CJ .norm ⟨(b::a::d::v1::uu::v3::v5::v7::v9::uu::uu::uu::uu::v113::a::v9::vA::a::vC::vD::vB::uu::uu::uu::uu::uu::uu::uu::uu::uu::uu::uu::uu::uu::uu::uu::uu::uu::uu::uu::uu::uu::uu::uu::uu::uu::uu::uu::uu::uu::uu::uu::uu::uu::uu::uu::uu::uu::uu::vN::vV::vS::vN::uu::uu::uu::uu::vQ::vM::vT::vQ::uu::uu::uu::uu::uu::uu::uu::uu::uu::uu::uu::uu::uu::uu::uu::uu::uu::uu::uu::uu::uu::uu::uu::uu::uu::uu::uu::uu::uu::uu::uu::uu::uu::uu::vj::v97::v99::vj::v103::v105::v107::v109::v111::v113::uu::uu::uu::uu::uu::uu::uu::uu::uu::uu::uu::[]),h114⟩) (
 aw (xX s 166 wl k false) (av s.P Tryz.f166) CJ .norm ⟨(b::a::d::v1::uu::v3::v5::v7::v9::uu::uu::uu::uu::(.lit (.int .i64 (-1)))::a::v9::vA::a::vC::vD::vB::uu::uu::uu::uu::uu::uu::uu::uu::uu::uu::uu::uu::uu::uu::uu::uu::uu::uu::uu::uu::uu::uu::uu::uu::uu::uu::uu::uu::uu::uu::uu::uu::uu::uu::uu::uu::uu::uu::vN::vV::vS::vN::uu::uu::uu::uu::vQ::vM::vT::vQ::uu::uu::uu::uu::uu::uu::uu::uu::uu::uu::uu::uu::uu::uu::uu::uu::uu::uu::uu::uu::uu::uu::uu::uu::uu::uu::uu::uu::uu::uu::uu::uu::uu::uu::vj::v97::v99::vj::v103::v105::v107::uu::uu::uu::uu::uu::uu::uu::uu::uu::uu::uu::uu::uu::uu::[]),h108⟩)) (
 stO h102.length v1 (
 bm (ab s.P 23 v1 h102) h102 fun v115 h116=>
 bm (aa s.P 55 v3 5) h116 fun v117 h118=>
 bm (ab s.P 46 v117 h118) h118 fun v119 h120=>
 bp (yC s k wl 166 true true (.fn (.func 195) [] []) [v119] h120) fun v121 h122=>
 bp (cZ s.P wl 53 1 [(0,v121)] h122) fun v123 h124=>
 bp (yC s k wl 166 false true (.fn (.func 194) [] []) [v115,v9,v123] h124) fun v125 h126=>
 bm (aa s.P 55 v3 5) h126 fun v127 h128=>
 bm (ab s.P 46 v127 h128) h128 fun v129 h130=>
 bp (yC s k wl 166 false true (.fn (.func 192) [] []) [v129] h130) fun v131 h132=>
 bm (aa s.P 55 v3 5) h132 fun v133 h134=>
 bs (ai s.P wl 46 v133 v131 h134) fun h135=>
 bm (aa s.P 55 v3 5) h135 fun v136 h137=>
 bm (ab s.P 46 v136 h137) h137 fun v138 h139=>
 bm (aa s.P 55 v3 5) h139 fun v140 h141=>
 bm (ab s.P 46 v140 h141) h141 fun v142 h143=>
 bm (aA s.P .sub 46 v142 (.lit (.int .u64 1))) h143 fun v144 h145=>
 bm (aA s.P .and 46 v138 v144) h145 fun v146 h147=>
 bm (aA s.P .eql 46 v146 (.lit (.int .u64 0))) h147 fun v148 h149=>
 gd v148 (
 yO s k wl 166 Tryz.f166 Cy 11 h135.length ([],[]) u4 ⟨(b::a::d::v1::uu::v3::v5::v7::v125::uu::uu::uu::uu::uu::a::v9::vA::a::vC::vD::vB::uu::uu::v115::v9::v117::v119::v121::v123::v125::v127::v129::v131::v133::v136::v138::v140::v142::v144::v146::v148::(.lit (.bool true))::uu::uu::uu::uu::uu::uu::uu::uu::uu::uu::uu::uu::uu::uu::uu::uu::uu::vN::vV::vS::vN::uu::uu::uu::uu::vQ::vM::vT::vQ::uu::uu::uu::uu::uu::uu::uu::uu::uu::uu::uu::uu::uu::uu::uu::uu::uu::uu::uu::uu::uu::uu::uu::uu::uu::uu::uu::uu::uu::uu::uu::uu::uu::uu::vj::v97::v99::vj::uu::uu::uu::uu::uu::uu::uu::uu::uu::uu::uu::uu::uu::uu::uu::uu::uu::[]),h149⟩) (
 bm (aa s.P 55 v3 5) h149 fun v150 h151=>
 bm (ab s.P 46 v150 h151) h151 fun v152 h153=>
 bm (aA s.P .eql 46 v152 (.lit (.int .u64 0))) h153 fun v154 h155=>
 yO s k wl 166 Tryz.f166 Cy 11 h135.length ([],[]) u4 ⟨(b::a::d::v1::uu::v3::v5::v7::v125::uu::uu::uu::uu::uu::a::v9::vA::a::vC::vD::vB::uu::uu::v115::v9::v117::v119::v121::v123::v125::v127::v129::v131::v133::v136::v138::v140::v142::v144::v146::v148::(.lit (.bool false))::v150::v152::v154::uu::uu::uu::uu::uu::uu::uu::uu::uu::uu::uu::uu::uu::uu::vN::vV::vS::vN::uu::uu::uu::uu::vQ::vM::vT::vQ::uu::uu::uu::uu::uu::uu::uu::uu::uu::uu::uu::uu::uu::uu::uu::uu::uu::uu::uu::uu::uu::uu::uu::uu::uu::uu::uu::uu::uu::uu::uu::uu::uu::uu::vj::v97::v99::vj::uu::uu::uu::uu::uu::uu::uu::uu::uu::uu::uu::uu::uu::uu::uu::uu::uu::[]),h155⟩) (
 yO s k wl 166 Tryz.f166 Cy 9 h135.length ([],[]) u4 ⟨(b::a::d::v1::uu::v3::v5::v7::v125::uu::uu::uu::uu::uu::a::v9::vA::a::vC::vD::vB::uu::uu::v115::v9::v117::v119::v121::v123::v125::v127::v129::v131::v133::v136::v138::v140::v142::v144::v146::v148::v148::uu::uu::uu::uu::uu::uu::uu::uu::uu::uu::uu::uu::uu::uu::uu::uu::uu::vN::vV::vS::vN::uu::uu::uu::uu::vQ::vM::vT::vQ::uu::uu::uu::uu::uu::uu::uu::uu::uu::uu::uu::uu::uu::uu::uu::uu::uu::uu::uu::uu::uu::uu::uu::uu::uu::uu::uu::uu::uu::uu::uu::uu::uu::uu::vj::v97::v99::vj::uu::uu::uu::uu::uu::uu::uu::uu::uu::uu::uu::uu::uu::uu::uu::uu::uu::[]),h149⟩)))))):=kB
theorem adq:evF Tryz.prog xM (k+1) wl 166 [b,a,d] h=ak (xX (xS k) 166 wl k false) Tryz.f166 [b,a,d] h:=by kernel_rfl
theorem Nr:aw (xX s 166 wl k false) (av s.P Tryz.f166) AU .norm ⟨(b::a::d::l::q::g::r::i::j::u::v::z::A::o::B::D::E::F::p::G::I::J::L::M::N::O::Q::R::T::U::Y::Z::t0::t1::t2::t3::t4::t5::t6::t7::t8::W::t9::ta::X::th::tb::tc::td::te::tf::tg::ti::tj::tk::tl::tm::tn::tp::tq::tr::ts::tt::tu::tv::tw::tx::ty::tz::tA::tB::tC::tD::tE::tF::tG::tH::tI::tJ::tK::tL::tM::tN::tO::tP::tQ::tR::tS::tT::tU::tV::tW::tX::tY::tZ::q0::q1::q2::q3::q4::q5::q6::q7::q8::q9::qa::qb::qc::qd::qe::qf::qg::qh::qi::qj::qk::ql::qm::qn::qo::qp::qq::qr::qs::qt::qu::[]),h⟩ =
 bm (ab s.P 55 g h) h fun v156 h157=>
 bs (ai s.P wl 55 i v156 h157) fun h158=>
 ew [some j,ab s.P 55 i h158] h158:=kR
theorem Lc:aw (xX s 166 wl k false) (av s.P Tryz.f166) CJ .norm ⟨(b::a::d::l::q::g::r::i::j::u::v::z::A::o::B::D::E::F::p::G::I::J::L::M::N::O::Q::R::T::U::Y::Z::t0::t1::t2::t3::t4::t5::t6::t7::t8::W::t9::ta::X::th::tb::tc::td::te::tf::tg::ti::tj::tk::tl::tm::tn::tp::tq::tr::ts::tt::tu::tv::tw::tx::ty::tz::tA::tB::tC::tD::tE::tF::tG::tH::tI::tJ::tK::tL::tM::tN::tO::tP::tQ::tR::tS::tT::tU::tV::tW::tX::tY::tZ::q0::q1::q2::q3::q4::q5::q6::q7::q8::q9::qa::qb::qc::qd::qe::qf::qg::qh::qi::qj::qk::ql::qm::qn::qo::qp::qq::qr::qs::qt::qu::[]),h⟩ =
 stO h.length l (
 bm (ab s.P 23 l h) h fun v159 h160=>
 bp (cZ s.P wl 53 1 [(0,o)] h160) fun v161 h162=>
 bp (yC s k wl 166 true true (.fn (.func 194) [] []) [v159,j,v161] h162) fun v163 h164=>
 stO h.length g (
 bm (ab s.P 55 g h164) h164 fun v165 h166=>
 bm (aa s.P 55 g 5) h166 fun v167 h168=>
 stO h.length v167 (
 bm (ab s.P 46 v167 h168) h168 fun v169 h170=>
 bp (yC s k wl 166 false true (.fn (.func 193) [] []) [v165,(.lit (.int .i64 1)),v169] h170) fun v171 h172=>
 bs (ai s.P wl 55 i v171 h172) fun h173=>
 ew [some v163,ab s.P 55 i h173] h173))):=kR
theorem Na:yO s k wl 166 Tryz.f166 Cy 11 m0 ac u4 ⟨(b::a::d::l::q::g::r::i::j::u::v::z::A::o::B::D::E::F::p::G::I::J::L::M::N::O::Q::R::T::U::Y::Z::t0::t1::t2::t3::t4::t5::t6::t7::t8::W::t9::ta::X::th::tb::tc::td::te::tf::tg::ti::tj::tk::tl::tm::tn::tp::zz),h⟩ =
 bm (aS W (.lit (.bool true)) X) h fun v174 h175=>
 cnd v174 (
 stO h175.length g (
 bm (ab s.P 55 g h175) h175 fun v176 h177=>
 bm (aa s.P 55 g 4) h177 fun v178 h179=>
 bm (ab s.P 46 v178 h179) h179 fun v180 h181=>
 bp (yC s k wl 166 true true (.fn (.func 192) [] []) [v180] h181) fun v182 h183=>
 bp (yC s k wl 166 false true (.fn (.func 193) [] []) [v176,(.lit (.int .i64 1)),v182] h183) fun v184 h185=>
 bs (ai s.P wl 55 i v184 h185) fun h186=>
 ew [some j,ab s.P 55 i h186] h186)) (
 bm (aa s.P 55 g 5) h175 fun v187 h188=>
 bm (ab s.P 46 v187 h188) h188 fun v189 h190=>
 bm (aa s.P 55 g 5) h190 fun v191 h192=>
 bm (ab s.P 46 v191 h192) h192 fun v193 h194=>
 bm (aA s.P .sub 46 v193 (.lit (.int .u64 1))) h194 fun v195 h196=>
 bm (aA s.P .and 46 v189 v195) h196 fun v197 h198=>
 bm (aa s.P 55 g 5) h198 fun v199 h200=>
 bs (ai s.P wl 46 v199 v197 h200) fun h201=>
 aw (xX s 166 wl k false) (av s.P Tryz.f166) AU .norm ⟨(b::a::d::l::q::g::r::i::j::u::v::z::A::o::B::D::E::F::p::G::I::J::L::M::N::O::Q::R::T::U::Y::Z::t0::t1::t2::t3::t4::t5::t6::t7::t8::W::t9::ta::X::v174::tb::tc::td::te::tf::tg::v187::v189::v191::v193::v195::v197::v199::zz),h201⟩):=kJ [2]
theorem Af (cx:Cx) (s:St):aw cx K AU .ret s=K .ret s:=by kernel_rfl
theorem AZ (cx:Cx) (s:St):aw cx K CJ .ret s=K .ret s:=by kernel_rfl
theorem AJ (cx:Cx) (s:St):aw cx K u4 .ret s=K .ret s:=by kernel_rfl
-- names: YV,Nr,Lc,Na,Af,AZ,AJ
theorem acm:ak (xX s 167 wl k false) Tryz.f167 [b,a,d] h =
 bp (aQ b h) fun v1 h2=>
 bp (aQ d h2) fun v3 h4=>
 bp (some (.own h4.length 0 0,h4++[.rows 0 [] 0 true])) fun v5 h6=>
 bp (az s.P 55 h6) fun v7 h8=>
 stO h8.length v3 (
 bm (ab s.P 55 v3 h8) h8 fun v9 hA=>
 stO h8.length v1 (
 bm (ab s.P 23 v1 hA) hA fun vA hB=>
 bp (yC s k wl 167 true true (.fn (.func 76) [] []) [a] hB) fun vC hC=>
 bm (be s.P 221 [(0,v9),(1,vA),(2,vC)]) hC fun vD hD=>
 bp (aQ vD hD) fun vB hE=>
 bm (ab s.P 23 v1 hE) hE fun vE hH=>
 bm (ab s.P 55 v3 hH) hH fun vF hF=>
 bp (yC s k wl 167 false true (.fn (.func 196) [] []) [vE,a,vF,(.lit (.int .i64 3))] hF) fun vH hG=>
 bm (vUn .not vH) hG fun vI hJ=>
 cnd vI (
 bm (aU vB hJ) hJ fun vG hI=>
 bm (aa s.P 221 vG 2) hI fun vJ hL=>
 bm (ab s.P 26 vJ hL) hL fun vL hN=>
 bm (ab s.P 55 v3 hN) hN fun vK hO=>
 bs (ai s.P wl 55 v7 vK hO) fun hW=>
 ew [some vL,ab s.P 55 v7 hW] hW) (
 bp (aF s.P wl 223 5 [(0,(.fn (.func 197) [vB] [])),(1,(.fn (.func 198) [vB] [])),(2,(.fn (.func 199) [vB] [])),(3,(.fn (.func 200) [vB] [])),(4,(.fn (.func 201) [vB] []))] hJ) fun vM hT=>
 bp (az s.P 223 hT) fun vT hb=>
 bs (ai s.P wl 223 vT vM hb) fun hU=>
 bp (yC s k wl 167 false true (.fn (.func 202) [] [vT,v3]) [] hU) fun vP hP=>
 bm (aU vB hP) hP fun vZ ha=>
 bm (aa s.P 221 vZ 0) ha fun vc hK=>
 bm (aa s.P 55 vc 1) hK fun vl hj=>
 bs (ai s.P wl 3 vl vP hj) fun hg=>
 bm (aU vB hg) hg fun vU hZ=>
 bm (aa s.P 221 vU 2) hZ fun vX hi=>
 bm (ab s.P 26 vX hi) hi fun vR hp=>
 bm (aU vB hp) hp fun vq ht=>
 bm (aa s.P 221 vq 0) ht fun vt hz=>
 bm (ab s.P 55 vt hz) hz fun v60 h61=>
 bs (ai s.P wl 55 v7 v60 h61) fun hw=>
 ew [some vR,ab s.P 55 v7 hw] hw))):=kB
theorem agQ:evF Tryz.prog xM (k+1) wl 167 [b,a,d] h=ak (xX (xS k) 167 wl k false) Tryz.f167 [b,a,d] h:=by kernel_rfl
-- names: acm,
noncomputable def lj:List Fr:=[.block 0,.seq (al (an Tryz.f168) [1,1,1,1])]
theorem YA:ak (xX s 168 wl k false) Tryz.f168 [b,a,d] h =
 bp (aQ b h) fun v1 h2=>
 bp (aQ d h2) fun v3 h4=>
 bp (some (.own h4.length 0 0,h4++[.rows 0 [] 0 true])) fun v5 h6=>
 bp (az s.P 55 h6) fun v7 h8=>
 bp (yC s k wl 168 false true (.fn (.func 76) [] []) [a] h8) fun v9 hA=>
 bm (ab s.P 23 v1 hA) hA fun vA hB=>
 bm (ab s.P 55 v3 hB) hB fun vC hC=>
 bp (yC s k wl 168 false true (.fn (.func 196) [] []) [vA,a,vC,(.lit (.int .i64 4))] hC) fun vD hD=>
 bm (vUn .not vD) hD fun vB hE=>
 cnd vB (
 bm (ab s.P 55 v3 hE) hE fun vE hH=>
 bs (ai s.P wl 55 v7 vE hH) fun hQ=>
 ew [some v9,ab s.P 55 v7 hQ] hQ) (
 bm (aa s.P 55 v3 1) hE fun vV hm=>
 bm (ab s.P 3 vV hm) hm fun vS hc=>
 bm (aA s.P .eql 3 vS (.lit (.int .i64 0))) hc fun vN hn=>
 cnd vN (
 bp (yC s k wl 168 false true (.fn (.func 27) [] []) [v9,(.lit (.int .i64 4))] hn) fun vh hs=>
 bm (aa s.P 55 v3 4) hs fun vp hY=>
 bs (ai s.P wl 46 vp vh hY) fun hN=>
 bm (aa s.P 55 v3 1) hN fun vK hO=>
 bs (ai s.P wl 3 vK (.lit (.int .i64 1)) hO) fun hW=>
 aw (xX s 168 wl k false) (av s.P Tryz.f168) lj .norm ⟨(b::a::d::v1::uu::v3::v5::v7::v9::uu::uu::a::v9::vA::a::vC::vD::vB::uu::uu::vV::vS::uu::uu::uu::uu::uu::uu::uu::uu::uu::uu::uu::uu::uu::uu::uu::vN::vN::v9::vh::vp::vK::uu::uu::uu::uu::uu::uu::uu::uu::uu::uu::uu::uu::uu::uu::uu::uu::uu::uu::uu::uu::uu::uu::uu::uu::uu::uu::uu::uu::uu::uu::uu::uu::uu::uu::uu::uu::uu::uu::uu::uu::uu::uu::uu::uu::uu::uu::uu::uu::uu::uu::uu::[]),hW⟩) (
 bm (aA s.P .eql 3 vS (.lit (.int .i64 1))) hn fun vM hT=>
 cnd vM (
 bm (ab s.P 23 v1 hT) hT fun vT hb=>
 bm (aa s.P 55 v3 4) hb fun vQ hd=>
 bm (ab s.P 46 vQ hd) hd fun vm hf=>
 bp (yC s k wl 168 false true (.fn (.func 203) [] []) [vT,vm] hf) fun vi hX=>
 bp (yC s k wl 168 false true (.fn (.func 27) [] []) [v9,vi] hX) fun va he=>
 bm (aa s.P 55 v3 5) he fun vb hg=>
 bs (ai s.P wl 46 vb va hg) fun hl=>
 bm (aa s.P 55 v3 1) hl fun vs hM=>
 bs (ai s.P wl 3 vs (.lit (.int .i64 0)) hM) fun hi=>
 bm (aa s.P 55 v3 5) hi fun vR hp=>
 stO hi.length vR (
 bm (ab s.P 46 vR hp) hp fun vq ht=>
 bm (ab s.P 23 v1 ht) ht fun vt hz=>
 bm (aa s.P 55 v3 4) hz fun v60 h61=>
 bm (ab s.P 46 v60 h61) h61 fun vx h63=>
 bp (yC s k wl 168 true true (.fn (.func 204) [] []) [vt,vx] h63) fun vw h65=>
 bp (yC s k wl 168 false true (.fn (.func 106) [] []) [vq,vw] h65) fun vk h67=>
 bm (aA s.P .eql 3 vk (.lit (.int .i64 0))) h67 fun v68 h69=>
 cnd v68 (
 bm (aa s.P 55 v3 1) h69 fun v70 h71=>
 bs (ai s.P wl 3 v70 (.lit (.int .i64 2)) h71) fun h72=>
 aw (xX s 168 wl k false) (av s.P Tryz.f168) lj .norm ⟨(b::a::d::v1::uu::v3::v5::v7::v9::vk::uu::a::v9::vA::a::vC::vD::vB::uu::uu::vV::vS::uu::uu::uu::uu::uu::uu::uu::uu::uu::uu::uu::uu::uu::uu::uu::vN::vN::uu::uu::uu::uu::vM::vM::v9::vT::vQ::vm::vi::va::vb::vs::vR::vq::vt::v60::vx::vw::vk::vk::v68::v70::uu::uu::uu::uu::uu::uu::uu::uu::uu::uu::uu::uu::uu::uu::uu::uu::uu::uu::uu::uu::uu::uu::uu::uu::uu::uu::uu::uu::uu::uu::uu::[]),h72⟩) (
 bm (aA s.P .lss 3 vk (.lit (.int .i64 0))) h69 fun vu hv=>
 cnd vu (
 bm (ab s.P 55 v3 hv) hv fun v75 h76=>
 bp (yC s k wl 168 false true (.fn (.func 193) [] []) [v75,(.lit (.int .i64 3)),(.lit (.int .u64 0))] h76) fun v77 h78=>
 bs (ai s.P wl 55 v3 v77 h78) fun h79=>
 aw (xX s 168 wl k false) (av s.P Tryz.f168) lj .norm ⟨(b::a::d::v1::uu::v3::v5::v7::v9::vk::uu::a::v9::vA::a::vC::vD::vB::uu::uu::vV::vS::uu::uu::uu::uu::uu::uu::uu::uu::uu::uu::uu::uu::uu::uu::uu::vN::vN::uu::uu::uu::uu::vM::vM::v9::vT::vQ::vm::vi::va::vb::vs::vR::vq::vt::v60::vx::vw::vk::vk::v68::uu::vk::vu::v75::v77::uu::uu::uu::uu::uu::uu::uu::uu::uu::uu::uu::uu::uu::uu::uu::uu::uu::uu::uu::uu::uu::uu::uu::uu::uu::uu::uu::[]),h79⟩) (
 aw (xX s 168 wl k false) (av s.P Tryz.f168) lj .norm ⟨(b::a::d::v1::uu::v3::v5::v7::v9::vk::uu::a::v9::vA::a::vC::vD::vB::uu::uu::vV::vS::uu::uu::uu::uu::uu::uu::uu::uu::uu::uu::uu::uu::uu::uu::uu::vN::vN::uu::uu::uu::uu::vM::vM::v9::vT::vQ::vm::vi::va::vb::vs::vR::vq::vt::v60::vx::vw::vk::vk::v68::uu::vk::vu::uu::uu::uu::uu::uu::uu::uu::uu::uu::uu::uu::uu::uu::uu::uu::uu::uu::uu::uu::uu::uu::uu::uu::uu::uu::uu::uu::uu::uu::[]),hv⟩)))) (
 bm (aA s.P .eql 3 vS (.lit (.int .i64 2))) hT fun v80 h81=>
 cnd v80 (
 bm (aa s.P 55 v3 1) h81 fun v82 h83=>
 bs (ai s.P wl 3 v82 (.lit (.int .i64 0)) h83) fun h84=>
 bm (aa s.P 55 v3 4) h84 fun v85 h86=>
 bm (ab s.P 46 v85 h86) h86 fun v87 h88=>
 bm (aa s.P 55 v3 4) h88 fun v89 h90=>
 bm (ab s.P 46 v89 h90) h90 fun v91 h92=>
 bm (aA s.P .add 46 v91 (.lit (.int .u64 1))) h92 fun v93 h94=>
 bp (yC s k wl 168 false true (.fn (.func 191) [] []) [v9,(.lit (.int .i64 4)),v87,v93] h94) fun v95 h96=>
 bm (ar v95 0) h96 fun v97 h98=>
 bm (ar v95 1) h98 fun v99 h100=>
 cnd v99 (
 bm (aa s.P 55 v3 1) h100 fun vj h102=>
 bs (ai s.P wl 3 vj (.lit (.int .i64 3)) h102) fun h103=>
 aw (xX s 168 wl k false) (av s.P Tryz.f168) lj .norm ⟨(b::a::d::v1::uu::v3::v5::v7::v97::uu::v99::a::v9::vA::a::vC::vD::vB::uu::uu::vV::vS::uu::uu::uu::uu::uu::uu::uu::uu::uu::uu::uu::uu::uu::uu::uu::vN::vN::uu::uu::uu::uu::vM::vM::uu::uu::uu::uu::uu::uu::uu::uu::uu::uu::uu::uu::uu::uu::uu::uu::uu::uu::uu::uu::uu::uu::v80::v80::v82::v95::v9::v85::v87::v89::v91::v93::v95::v97::v99::v99::vj::uu::uu::uu::uu::uu::uu::uu::uu::uu::uu::uu::uu::[]),h103⟩) (
 aw (xX s 168 wl k false) (av s.P Tryz.f168) lj .norm ⟨(b::a::d::v1::uu::v3::v5::v7::v97::uu::v99::a::v9::vA::a::vC::vD::vB::uu::uu::vV::vS::uu::uu::uu::uu::uu::uu::uu::uu::uu::uu::uu::uu::uu::uu::uu::vN::vN::uu::uu::uu::uu::vM::vM::uu::uu::uu::uu::uu::uu::uu::uu::uu::uu::uu::uu::uu::uu::uu::uu::uu::uu::uu::uu::uu::uu::v80::v80::v82::v95::v9::v85::v87::v89::v91::v93::v95::v97::v99::v99::uu::uu::uu::uu::uu::uu::uu::uu::uu::uu::uu::uu::uu::[]),h100⟩)) (
 bm (aA s.P .eql 3 vS (.lit (.int .i64 3))) h81 fun v104 h105=>
 cnd v104 (
 bm (ab s.P 23 v1 h105) h105 fun v106 h107=>
 bm (aa s.P 55 v3 4) h107 fun v108 h109=>
 bm (ab s.P 46 v108 h109) h109 fun v110 h111=>
 bp (yC s k wl 168 false true (.fn (.func 205) [] []) [v106,v110] h111) fun v112 h113=>
 bp (yC s k wl 168 false true (.fn (.func 27) [] []) [v9,v112] h113) fun v114 h115=>
 bm (aa s.P 55 v3 3) h115 fun v116 h117=>
 bs (ai s.P wl 46 v116 v114 h117) fun h118=>
 bm (aa s.P 55 v3 1) h118 fun v119 h120=>
 bs (ai s.P wl 3 v119 (.lit (.int .i64 4)) h120) fun h121=>
 aw (xX s 168 wl k false) (av s.P Tryz.f168) lj .norm ⟨(b::a::d::v1::uu::v3::v5::v7::v9::uu::uu::a::v9::vA::a::vC::vD::vB::uu::uu::vV::vS::uu::uu::uu::uu::uu::uu::uu::uu::uu::uu::uu::uu::uu::uu::uu::vN::vN::uu::uu::uu::uu::vM::vM::uu::uu::uu::uu::uu::uu::uu::uu::uu::uu::uu::uu::uu::uu::uu::uu::uu::uu::uu::uu::uu::uu::v80::v80::uu::uu::uu::uu::uu::uu::uu::uu::uu::uu::uu::uu::uu::v104::v104::v9::v106::v108::v110::v112::v114::v116::v119::uu::uu::[]),h121⟩) (
 bm (ab s.P 23 v1 h105) h105 fun v122 h123=>
 bm (aa s.P 55 v3 4) h123 fun v124 h125=>
 bm (ab s.P 46 v124 h125) h125 fun v126 h127=>
 bp (yC s k wl 168 true true (.fn (.func 203) [] []) [v122,v126] h127) fun v128 h129=>
 stO h105.length v1 (
 bm (ab s.P 23 v1 h129) h129 fun v130 h131=>
 bm (aa s.P 55 v3 4) h131 fun v132 h133=>
 stO h105.length v132 (
 bm (ab s.P 46 v132 h133) h133 fun v134 h135=>
 bp (yC s k wl 168 false true (.fn (.func 204) [] []) [v130,v134] h135) fun v136 h137=>
 bm (aA s.P .add 46 v136 (.lit (.int .u64 1))) h137 fun v138 h139=>
 bp (yC s k wl 168 false true (.fn (.func 88) [] []) [v9,v128,v138] h139) fun v140 h141=>
 bm (ab s.P 55 v3 h141) h141 fun v142 h143=>
 bm (aa s.P 55 v3 3) h143 fun v144 h145=>
 bm (ab s.P 46 v144 h145) h145 fun v146 h147=>
 bp (yC s k wl 168 false true (.fn (.func 193) [] []) [v142,(.lit (.int .i64 1)),v146] h147) fun v148 h149=>
 bs (ai s.P wl 55 v3 v148 h149) fun h150=>
 aw (xX s 168 wl k false) (av s.P Tryz.f168) lj .norm ⟨(b::a::d::v1::uu::v3::v5::v7::v140::uu::uu::a::v9::vA::a::vC::vD::vB::uu::uu::vV::vS::v9::v122::v124::v126::v128::v130::v132::v134::v136::v138::v140::v142::v144::v146::v148::vN::vN::uu::uu::uu::uu::vM::vM::uu::uu::uu::uu::uu::uu::uu::uu::uu::uu::uu::uu::uu::uu::uu::uu::uu::uu::uu::uu::uu::uu::v80::v80::uu::uu::uu::uu::uu::uu::uu::uu::uu::uu::uu::uu::uu::v104::v104::uu::uu::uu::uu::uu::uu::uu::uu::uu::uu::[]),h150⟩))))))):=kB
theorem afT:evF Tryz.prog xM (k+1) wl 168 [b,a,d] h=ak (xX (xS k) 168 wl k false) Tryz.f168 [b,a,d] h:=by kernel_rfl
theorem OI:aw (xX s 168 wl k false) (av s.P Tryz.f168) lj .norm ⟨(b::a::d::l::q::g::r::i::j::u::v::z::A::o::B::D::E::F::p::G::I::J::L::M::N::O::Q::R::T::U::Y::Z::t0::t1::t2::t3::t4::t5::t6::t7::t8::W::t9::ta::X::th::tb::tc::td::te::tf::tg::ti::tj::tk::tl::tm::tn::tp::tq::tr::ts::tt::tu::tv::tw::tx::ty::tz::tA::tB::tC::tD::tE::tF::tG::tH::tI::tJ::tK::tL::tM::tN::tO::tP::tQ::tR::tS::tT::tU::tV::tW::tX::tY::[]),h⟩ =
 bm (ab s.P 55 g h) h fun v151 h152=>
 bs (ai s.P wl 55 i v151 h152) fun h153=>
 ew [some j,ab s.P 55 i h153] h153:=kR
theorem Aq (cx:Cx) (s:St):aw cx K lj .ret s=K .ret s:=by kernel_rfl
-- names: YA,OI,Aq
theorem Z5:ak (xX s 180 wl k false) Tryz.f180 [b,a,d] h =
 bp (aQ b h) fun v1 h2=>
 bp (aQ d h2) fun v3 h4=>
 bp (some (.own h4.length 0 0,h4++[.rows 0 [] 0 true])) fun v5 h6=>
 bp (az s.P 55 h6) fun v7 h8=>
 bm (aa s.P 55 v3 0) h8 fun v9 hA=>
 bm (ab s.P 3 v9 hA) hA fun vA hB=>
 bm (aA s.P .eql 3 vA (.lit (.int .i64 0))) hB fun vC hC=>
 cnd vC (
 bm (ab s.P 23 v1 hC) hC fun vD hD=>
 bm (ab s.P 55 v3 hD) hD fun vB hE=>
 bp (yC s k wl 180 false true (.fn (.func 207) [] []) [vD,a,vB] hE) fun vE hH=>
 bm (ar vE 0) hH fun vF hF=>
 bm (ar vE 1) hF fun vH hG=>
 bs (ai s.P wl 55 v7 vH hG) fun hc=>
 ew [some vF,ab s.P 55 v7 hc] hc) (
 bm (aA s.P .eql 3 vA (.lit (.int .i64 1))) hC fun vN hn=>
 cnd vN (
 bm (ab s.P 23 v1 hn) hn fun vh hs=>
 bm (ab s.P 55 v3 hs) hs fun vp hY=>
 bp (yC s k wl 180 false true (.fn (.func 208) [] []) [vh,a,vp] hY) fun ve hh=>
 bm (ar ve 0) hh fun vf hW=>
 bm (ar ve 1) hW fun vM hT=>
 bs (ai s.P wl 55 v7 vM hT) fun hS=>
 ew [some vf,ab s.P 55 v7 hS] hS) (
 bm (aA s.P .eql 3 vA (.lit (.int .i64 2))) hn fun vY hU=>
 cnd vY (
 bm (ab s.P 23 v1 hU) hU fun vP hP=>
 bm (ab s.P 55 v3 hP) hP fun vZ ha=>
 bp (yC s k wl 180 false true (.fn (.func 209) [] []) [vP,a,vZ] ha) fun vc hK=>
 bm (ar vc 0) hK fun vl hj=>
 bm (ar vc 1) hj fun vg hl=>
 bs (ai s.P wl 55 v7 vg hl) fun hZ=>
 ew [some vl,ab s.P 55 v7 hZ] hZ) (
 bp (yC s k wl 180 true true (.fn (.func 76) [] []) [a] hU) fun vX hi=>
 stO hU.length v3 (
 bm (ab s.P 55 v3 hi) hi fun vR hp=>
 bs (ai s.P wl 55 v7 vR hp) fun hq=>
 ew [some vX,ab s.P 55 v7 hq] hq)))):=kB
theorem agu:evF Tryz.prog xM (k+1) wl 180 [b,a,d] h=ak (xX (xS k) 180 wl k false) Tryz.f180 [b,a,d] h:=by kernel_rfl
-- names: Z5,
end
end Go.Ab
set_option maxRecDepth 100000
set_option linter.unusedVariables false
namespace Go.Ab
open Go.Proofs
section
variable (s:Sys) (k wl:Nat) (m0:Nat) (ac:List Nat×List Nat) (b g e j l o r u y n p z A q D E B G F L I M J O R Q N Y U Z W X T t1 t2 t3 t4 t0 tf te tg t6 t5 tb t7 tc t8 t9 td ta th ti tj tk tl tm tn tp tq tr q4 q5 q6 ts tt tu tv tw tx ty tz tA tB qb qc qd tC tD tE tF tG tH tI tJ tK tL tM tN q7 q8 q9 qa tO tP tQ tR tS tT tU tV tW tX tY tZ q0 q1 q2 q3 qe qf qg qh qi qj qk ql qm qn qo qp qq qr qs qt qu qv qw qx qy qz qA qB qC qD qE qF qG qH qI qJ:V) (h:Hp) (K:Out→St→Option (V×Hp)) (rd:Bool) (zz:List V)
theorem ahA:ak (xX s 83 wl k false) Tryz.f83 [b,g,e,j,l,o] h =
 bp (aQ b h) fun v1 h2=>
 bp (aQ l h2) fun v3 h4=>
 bp (some (.own h4.length 0 0,h4++[.rows 0 [] 0 true])) fun v5 h6=>
 bp (az s.P 65 h6) fun v7 h8=>
 bp (some (.own h8.length 0 0,h8++[.rows 0 [] 0 true])) fun v9 hA=>
 stO hA.length v3 (
 bm (ab s.P 65 v3 hA) hA fun vA hB=>
 stO hA.length v1 (
 bm (ab s.P 23 v1 hB) hB fun vC hC=>
 bp (yC s k wl 83 true true (.fn (.func 76) [] []) [e] hC) fun vD hD=>
 bm (be s.P 168 [(0,vA),(1,vC),(2,g),(3,vD),(4,j),(5,o)]) hD fun vB hE=>
 bp (aQ vB hE) fun vE hH=>
 bm (aa s.P 65 v3 1) hH fun vF hF=>
 bm (ab s.P 63 vF hF) hF fun vH hG=>
 bp (yC s k wl 83 false true (.fn (.func 79) [] []) [vH] hG) fun vI hJ=>
 bm (aU vE hJ) hJ fun vG hI=>
 bm (aa s.P 168 vG 0) hI fun vJ hL=>
 bm (aa s.P 65 vJ 1) hL fun vL hN=>
 bs (ai s.P wl 63 vL vI hN) fun hh=>
 bm (ab s.P 23 v1 hh) hh fun vf hW=>
 bm (ab s.P 65 v3 hW) hW fun vM hT=>
 bp (yC s k wl 83 false true (.fn (.func 95) [] []) [vf,g,e,j,vM] hT) fun vT hb=>
 bm (vUn .not vT) hb fun vQ hd=>
 cnd vQ (
 bm (aU vE hd) hd fun vm hf=>
 bm (aa s.P 168 vm 3) hf fun vi hX=>
 bm (ab s.P 26 vi hX) hX fun va he=>
 bm (aU vE he) he fun vb hg=>
 bm (aa s.P 168 vb 0) hg fun vU hZ=>
 bm (ab s.P 65 vU hZ) hZ fun vX hi=>
 bs (ai s.P wl 65 v7 vX hi) fun hk=>
 bp (some (.own hk.length 0 0,hk++[.rows 0 [] 0 true])) fun vv hq=>
 ew [some va,ab s.P 65 v7 hq,some vv] hq) (
 bm (be s.P 169 [(0,(.fn (.func 116) [vE] [])),(1,(.fn (.func 117) [vE] [])),(2,(.fn (.func 118) [vE] [])),(3,(.fn (.func 118) [vE] [])),(4,(.fn (.func 119) [vE] [])),(5,(.fn (.func 120) [vE] [])),(6,(.fn (.func 121) [vE] [])),(7,(.fn (.func 122) [vE] [])),(8,(.fn (.func 123) [vE] [])),(9,(.fn (.func 124) [vE] [])),(10,(.fn (.func 125) [vE] [])),(11,(.fn (.func 126) [vE] [])),(12,(.fn (.func 127) [vE] [])),(13,(.fn (.func 128) [vE] [])),(14,(.fn (.func 129) [vE] [])),(15,(.fn (.func 130) [vE] []))]) hd fun vy hx=>
 bp (az s.P 169 hx) fun v59 hy=>
 bs (ai s.P wl 169 v59 vy hy) fun h61=>
 bm (aa s.P 65 v3 0) h61 fun vx h63=>
 bm (ab s.P 3 vx h63) h63 fun vw h65=>
 bm (am s.P 169 v59 vw h65) h65 fun vk h67=>
 bm (ab s.P 1 vk h67) h67 fun v68 h69=>
 bp (yC s k wl 83 false true v68 [] h69) fun v70 h71=>
 bm (aU vE h71) h71 fun v72 h73=>
 bm (aa s.P 168 v72 3) h73 fun v74 h75=>
 bm (ab s.P 26 v74 h75) h75 fun v76 hR=>
 bm (aU vE hR) hR fun v78 h79=>
 bm (aa s.P 168 v78 0) h79 fun v80 h81=>
 bm (ab s.P 65 v80 h81) h81 fun v82 h83=>
 stO h71.length vE (
 bm (aU vE h83) h83 fun v84 h85=>
 bm (aa s.P 168 v84 6) h85 fun v86 h87=>
 stO h71.length v86 (
 bm (ab s.P 34 v86 h87) h87 fun v88 h89=>
 bs (ai s.P wl 65 v7 v82 h89) fun h90=>
 apt (lgW v7 (lgR v86 (lgR vE ([],[])))) (
 ew [some v76,ab s.P 65 v7 h90,some v88] h90)))))):=kB
theorem aik:evF Tryz.prog xM (k+1) wl 83 [b,g,e,j,l,o] h=ak (xX (xS k) 83 wl k false) Tryz.f83 [b,g,e,j,l,o] h:=by kernel_rfl
-- names: ahA,
theorem ZB:ak (xX s 116 wl k false) Tryz.f116 [b] h =
 bp (yC s k wl 116 false true (.fn (.func 156) [] []) [b] h) fun v1 h2=>
 bm (vUn .not v1) h2 fun v3 h4=>
 cnd v3 (
 some (.tup [],h4)) (
 bm (aU b h4) h4 fun v5 h6=>
 bm (aa s.P 168 v5 0) h6 fun v7 h8=>
 bm (aa s.P 65 v7 2) h8 fun v9 hA=>
 bm (ab s.P 55 v9 hA) hA fun vA hB=>
 bp (az s.P 55 hB) fun vC hC=>
 bs (ai s.P wl 55 vC vA hC) fun ho=>
 bm (aa s.P 55 vC 6) ho fun vr hu=>
 bm (ab s.P 3 vr hu) hu fun vn hr=>
 bm (aA s.P .neq 3 vn (.lit (.int .i64 1))) hr fun vd hQ=>
 cnd vd (
 bp (yC s k wl 116 false true (.fn (.func 157) [] []) [b,(.lit (.int .i64 1))] hQ) fun vV hm=>
 some (.tup [],hm)) (
 bp (yC s k wl 116 false true (.fn (.func 157) [] []) [b,(.lit (.int .i64 9))] hQ) fun vS hc=>
 bm (aa s.P 55 vC 3) hc fun vN hn=>
 bm (ab s.P 46 vN hn) hn fun vh hs=>
 bp (yC s k wl 116 false true (.fn (.func 158) [] []) [b,vh] hs) fun vp hY=>
 some (.tup [],hY))):=kB
theorem agx:evF Tryz.prog xM (k+1) wl 116 [b] h=ak (xX (xS k) 116 wl k false) Tryz.f116 [b] h:=by kernel_rfl
-- names: ZB,
theorem aaZ:ak (xX s 117 wl k false) Tryz.f117 [b] h =
 bp (yC s k wl 117 false true (.fn (.func 159) [] []) [b,(.lit (.int .i64 1)),(.lit (.int .u64 1))] h) fun v1 h2=>
 bm (aU b h2) h2 fun v3 h4=>
 bm (aa s.P 168 v3 1) h4 fun v5 h6=>
 bm (aa s.P 23 v5 3) h6 fun v7 h8=>
 bm (ab s.P 3 v7 h8) h8 fun v9 hA=>
 bm (aU b hA) hA fun vA hB=>
 bm (aa s.P 168 vA 0) hB fun vC hC=>
 bm (aa s.P 65 vC 3) hC fun vD hD=>
 bs (ai s.P wl 3 vD v9 hD) fun hu=>
 bm (aU b hu) hu fun vn hr=>
 bm (aa s.P 168 vn 4) hr fun vd hQ=>
 bm (ab s.P 3 vd hQ) hQ fun vV hm=>
 bp (yC s k wl 117 false true (.fn (.func 160) [] []) [b,(.lit (.int .i64 2)),(.lit (.int .i64 4)),vV,(.lit (.int .u64 0))] hm) fun vS hc=>
 some (.tup [],hc):=kB
theorem aeu:evF Tryz.prog xM (k+1) wl 117 [b] h=ak (xX (xS k) 117 wl k false) Tryz.f117 [b] h:=by kernel_rfl
-- names: aaZ,
noncomputable def CL:Code:=al (an Tryz.f118) [0,1,1,1,0,0]
noncomputable def wE:List Fr:=[.seq (al (an Tryz.f118) [0,1,1,1,0,1]),.seq (al (an Tryz.f118) [0,1,1,1,1]),.scope (al (an Tryz.f118) [0])]
theorem Yv:ak (xX s 118 wl k false) Tryz.f118 [b] h =
 bm (aU b h) h fun v1 h2=>
 bm (aa s.P 168 v1 5) h2 fun v3 h4=>
 bm (ab s.P 46 v3 h4) h4 fun v5 h6=>
 bm (aU b h6) h6 fun v7 h8=>
 bm (aa s.P 168 v7 4) h8 fun v9 hA=>
 bm (ab s.P 3 v9 hA) hA fun vA hB=>
 bm (aU b hB) hB fun vC hC=>
 bm (aa s.P 168 vC 1) hC fun vD hD=>
 bm (aa s.P 23 vD 0) hD fun vB hE=>
 bm (ab s.P 3 vB hE) hE fun vE hH=>
 bp (yC s k wl 118 false true (.fn (.func 161) [] []) [v5,vA,vE] hH) fun vF hF=>
 bp (yC s k wl 118 false true (.fn (.func 156) [] []) [b] hF) fun vH hG=>
 bm (vUn .not vH) hG fun vI hJ=>
 cnd vI (
 some (.tup [],hJ)) (
 bm (aU b hJ) hJ fun vG hI=>
 bm (aa s.P 168 vG 0) hI fun vJ hL=>
 bm (aa s.P 65 vJ 2) hL fun vL hN=>
 bm (aa s.P 55 vL 6) hN fun vK hO=>
 bm (ab s.P 3 vK hO) hO fun vO hV=>
 bm (aA s.P .eql 3 vO (.lit (.int .i64 1))) hV fun vW hS=>
 cnd vW (
 bm (aU b hS) hS fun vY hU=>
 bm (aa s.P 168 vY 0) hU fun vP hP=>
 bm (aa s.P 65 vP 0) hP fun vZ ha=>
 bs (ai s.P wl 3 vZ (.lit (.int .i64 4)) ha) fun hX=>
 some (.tup [],hX)) (
 bm (aU b hS) hS fun va he=>
 bm (aa s.P 168 va 0) he fun vb hg=>
 bm (aa s.P 65 vb 0) hg fun vU hZ=>
 bm (ab s.P 3 vU hZ) hZ fun vX hi=>
 bm (aA s.P .eql 3 vX (.lit (.int .i64 2))) hi fun vR hp=>
 gd vR (
 bm (aA s.P .geq 3 vF (.lit (.int .i64 0))) hp fun vq ht=>
 yO s k wl 118 Tryz.f118 CL 9 hS.length ([],[]) wE ⟨(b::uu::vF::b::v1::v3::v5::b::v7::v9::vA::b::vC::vD::vB::vE::vF::b::vH::vI::b::vG::vJ::vL::vK::vO::vW::b::va::vb::vU::vX::vR::(.lit (.bool true))::vF::vq::uu::uu::uu::uu::uu::uu::uu::uu::uu::uu::uu::uu::uu::uu::uu::uu::uu::uu::uu::uu::uu::uu::uu::uu::uu::uu::uu::uu::uu::uu::uu::uu::uu::uu::uu::[]),ht⟩) (
 yO s k wl 118 Tryz.f118 CL 9 hS.length ([],[]) wE ⟨(b::uu::vF::b::v1::v3::v5::b::v7::v9::vA::b::vC::vD::vB::vE::vF::b::vH::vI::b::vG::vJ::vL::vK::vO::vW::b::va::vb::vU::vX::vR::(.lit (.bool false))::uu::uu::uu::uu::uu::uu::uu::uu::uu::uu::uu::uu::uu::uu::uu::uu::uu::uu::uu::uu::uu::uu::uu::uu::uu::uu::uu::uu::uu::uu::uu::uu::uu::uu::uu::uu::uu::[]),hp⟩) (
 yO s k wl 118 Tryz.f118 CL 8 hS.length ([],[]) wE ⟨(b::uu::vF::b::v1::v3::v5::b::v7::v9::vA::b::vC::vD::vB::vE::vF::b::vH::vI::b::vG::vJ::vL::vK::vO::vW::b::va::vb::vU::vX::vR::vR::uu::uu::uu::uu::uu::uu::uu::uu::uu::uu::uu::uu::uu::uu::uu::uu::uu::uu::uu::uu::uu::uu::uu::uu::uu::uu::uu::uu::uu::uu::uu::uu::uu::uu::uu::uu::uu::[]),hp⟩))):=kB
theorem aez:evF Tryz.prog xM (k+1) wl 118 [b] h=ak (xX (xS k) 118 wl k false) Tryz.f118 [b] h:=by kernel_rfl
theorem Ox:yO s k wl 118 Tryz.f118 CL 9 m0 ac wE ⟨(b::g::e::j::l::o::r::u::y::n::p::z::A::q::D::E::B::G::F::L::I::M::J::O::R::Q::N::Y::U::Z::W::X::T::t1::t2::t3::t4::t0::tf::te::tg::t6::t5::tb::t7::tc::t8::t9::td::ta::th::ti::tj::tk::tl::tm::tn::tp::tq::tr::q4::q5::q6::ts::tt::tu::tv::tw::tx::ty::tz::[]),h⟩ =
 bm (aS t1 t3 (.lit (.bool false))) h fun vt hz=>
 cnd vt (
 bp (yC s k wl 118 false true (.fn (.func 160) [] []) [b,(.lit (.int .i64 3)),(.lit (.int .i64 2)),e,(.lit (.int .u64 0))] hz) fun v60 h61=>
 some (.tup [],h61)) (
 bm (aU b hz) hz fun vx h63=>
 bm (aa s.P 168 vx 0) h63 fun vw h65=>
 bm (aa s.P 65 vw 3) h65 fun vk h67=>
 bm (ab s.P 3 vk h67) h67 fun v68 h69=>
 bm (aA s.P .leq 3 v68 (.lit (.int .i64 0))) h69 fun v70 h71=>
 cnd v70 (
 bm (aU b h71) h71 fun v72 h73=>
 bm (aa s.P 168 v72 4) h73 fun v74 h75=>
 bm (ab s.P 3 v74 h75) h75 fun v76 hR=>
 bp (yC s k wl 118 false true (.fn (.func 160) [] []) [b,(.lit (.int .i64 5)),(.lit (.int .i64 5)),v76,(.lit (.int .u64 0))] hR) fun v78 h79=>
 some (.tup [],h79)) (
 bm (aU b h71) h71 fun v80 h81=>
 bm (aa s.P 168 v80 0) h81 fun v82 h83=>
 bm (aa s.P 65 v82 3) h83 fun v84 h85=>
 bm (ab s.P 3 v84 h85) h85 fun v86 h87=>
 bm (aA s.P .sub 3 v86 (.lit (.int .i64 1))) h87 fun v88 h89=>
 bm (aU b h89) h89 fun v90 h91=>
 bm (aa s.P 168 v90 0) h91 fun v92 h93=>
 bm (aa s.P 65 v92 3) h93 fun v94 h95=>
 bs (ai s.P wl 3 v94 v88 h95) fun h96=>
 bm (aU b h96) h96 fun v97 h98=>
 bm (aa s.P 168 v97 4) h98 fun v99 h100=>
 bm (ab s.P 3 v99 h100) h100 fun vj h102=>
 bp (yC s k wl 118 false true (.fn (.func 160) [] []) [b,(.lit (.int .i64 2)),(.lit (.int .i64 4)),vj,(.lit (.int .u64 0))] h102) fun v103 h104=>
 some (.tup [],h104))):=kG
theorem wC (cx:Cx) (s:St):aw cx K wE .ret s=K .ret s:=by kernel_rfl
-- names: Yv,Ox,wC
noncomputable def DF:List Fr:=[.seq (al (an Tryz.f119) [1,1])]
theorem aat:ak (xX s 119 wl k false) Tryz.f119 [b] h =
 bm (aU b h) h fun v1 h2=>
 bm (aa s.P 168 v1 0) h2 fun v3 h4=>
 bm (aa s.P 65 v3 2) h4 fun v5 h6=>
 bm (aa s.P 55 v5 3) h6 fun v7 h8=>
 bm (ab s.P 46 v7 h8) h8 fun v9 hA=>
 bp (yC s k wl 119 false true (.fn (.func 159) [] []) [b,(.lit (.int .i64 1)),(.lit (.int .u64 18446744073709551615))] hA) fun vA hB=>
 bm (aA s.P .eql 46 vA (.lit (.int .u64 1))) hB fun vC hC=>
 cnd vC (
 bm (aU b hC) hC fun vD hD=>
 bm (aa s.P 168 vD 4) hD fun vB hE=>
 bm (ab s.P 3 vB hE) hE fun vE hH=>
 bp (yC s k wl 119 false true (.fn (.func 160) [] []) [b,(.lit (.int .i64 14)),(.lit (.int .i64 6)),vE,(.lit (.int .u64 0))] hH) fun vF hF=>
 aw (xX s 119 wl k false) (av s.P Tryz.f119) DF .norm ⟨[b,uu,v9,b,v1,v3,v5,v7,v9,b,vA,vC,b,b,vD,vB,vE,vF,uu,uu,uu,uu,uu],hF⟩) (
 bp (yC s k wl 119 false true (.fn (.func 157) [] []) [b,(.lit (.int .i64 9))] hC) fun vH hG=>
 aw (xX s 119 wl k false) (av s.P Tryz.f119) DF .norm ⟨[b,uu,v9,b,v1,v3,v5,v7,v9,b,vA,vC,uu,uu,uu,uu,uu,uu,b,vH,uu,uu,uu],hG⟩):=kB
theorem afk:evF Tryz.prog xM (k+1) wl 119 [b] h=ak (xX (xS k) 119 wl k false) Tryz.f119 [b] h:=by kernel_rfl
theorem Og:aw (xX s 119 wl k false) (av s.P Tryz.f119) DF .norm ⟨[b,g,e,j,l,o,r,u,y,n,p,z,A,q,D,E,B,G,F,L,I,M,J],h⟩ =
 bp (yC s k wl 119 false true (.fn (.func 158) [] []) [b,e] h) fun vI hJ=>
 some (.tup [],hJ):=kR
theorem AW (cx:Cx) (s:St):aw cx K DF .ret s=K .ret s:=by kernel_rfl
-- names: aat,Og,AW
theorem aax:ak (xX s 120 wl k false) Tryz.f120 [b] h =
 bp (yC s k wl 120 false true (.fn (.func 156) [] []) [b] h) fun v1 h2=>
 bm (aU b h2) h2 fun v3 h4=>
 bm (aa s.P 168 v3 0) h4 fun v5 h6=>
 bm (aa s.P 65 v5 0) h6 fun v7 h8=>
 bs (ai s.P wl 3 v7 (.lit (.int .i64 6)) h8) fun h9=>
 some (.tup [],h9):=kB
theorem aeP:evF Tryz.prog xM (k+1) wl 120 [b] h=ak (xX (xS k) 120 wl k false) Tryz.f120 [b] h:=by kernel_rfl
-- names: aax,
theorem aaC:ak (xX s 121 wl k false) Tryz.f121 [b] h =
 bp (yC s k wl 121 false true (.fn (.func 159) [] []) [b,(.lit (.int .i64 1)),(.lit (.int .u64 18446744073709551615))] h) fun v1 h2=>
 bm (aU b h2) h2 fun v3 h4=>
 bm (aa s.P 168 v3 0) h4 fun v5 h6=>
 bm (aa s.P 65 v5 0) h6 fun v7 h8=>
 bs (ai s.P wl 3 v7 (.lit (.int .i64 7)) h8) fun h9=>
 bm (aU b h9) h9 fun v10 h11=>
 bm (aa s.P 168 v10 0) h11 fun v12 h13=>
 bm (aa s.P 65 v12 4) h13 fun vz ho=>
 bs (ai s.P wl 3 vz (.lit (.int .i64 0)) ho) fun hD=>
 some (.tup [],hD):=kB
theorem aeO:evF Tryz.prog xM (k+1) wl 121 [b] h=ak (xX (xS k) 121 wl k false) Tryz.f121 [b] h:=by kernel_rfl
-- names: aaC,
noncomputable def Cv:Code:=al (an Tryz.f122) [1,1,0,0]
noncomputable def wM:List Fr:=[.seq (al (an Tryz.f122) [1,1,0,1]),.seq (al (an Tryz.f122) [1,1,1])]
noncomputable def rz:List Fr:=[.block 0,.seq (al (an Tryz.f122) [1,1,1,1,1,1])]
theorem aaT:ak (xX s 122 wl k false) Tryz.f122 [b] h =
 bm (aU b h) h fun v1 h2=>
 bm (aa s.P 168 v1 0) h2 fun v3 h4=>
 bm (aa s.P 65 v3 4) h4 fun v5 h6=>
 bm (ab s.P 3 v5 h6) h6 fun v7 h8=>
 bm (aU b h8) h8 fun v9 hA=>
 bm (aa s.P 168 v9 1) hA fun vA hB=>
 bm (aa s.P 23 vA 0) hB fun vC hC=>
 bm (ab s.P 3 vC hC) hC fun vD hD=>
 bm (aA s.P .mul 3 (.lit (.int .i64 2)) vD) hD fun vB hE=>
 bm (aA s.P .add 3 (.lit (.int .i64 2)) vB) hE fun vE hH=>
 bm (aA s.P .lss 3 v7 (.lit (.int .i64 0))) hH fun vF hF=>
 gd vF (
 yO s k wl 122 Tryz.f122 Cv 6 hH.length ([],[]) wM ⟨(b::uu::v7::vE::uu::uu::b::v1::v3::v5::v7::b::v9::vA::vC::vD::vB::vE::v7::vF::(.lit (.bool true))::uu::uu::uu::uu::uu::uu::uu::uu::uu::uu::uu::uu::uu::uu::uu::uu::uu::uu::uu::uu::uu::uu::uu::uu::uu::uu::uu::uu::uu::uu::uu::uu::uu::uu::uu::uu::uu::uu::uu::uu::uu::uu::uu::uu::uu::uu::uu::uu::uu::uu::uu::uu::uu::uu::uu::uu::uu::uu::uu::uu::uu::uu::uu::uu::uu::uu::uu::uu::uu::uu::uu::uu::uu::uu::uu::uu::uu::uu::uu::uu::uu::uu::uu::uu::uu::uu::uu::uu::uu::uu::uu::uu::uu::uu::uu::uu::uu::uu::uu::uu::uu::uu::uu::uu::uu::uu::uu::uu::uu::uu::uu::uu::uu::uu::uu::uu::uu::uu::uu::[]),hF⟩) (
 bm (aA s.P .geq 3 v7 vE) hF fun vH hG=>
 yO s k wl 122 Tryz.f122 Cv 6 hH.length ([],[]) wM ⟨(b::uu::v7::vE::uu::uu::b::v1::v3::v5::v7::b::v9::vA::vC::vD::vB::vE::v7::vF::(.lit (.bool false))::v7::vE::vH::uu::uu::uu::uu::uu::uu::uu::uu::uu::uu::uu::uu::uu::uu::uu::uu::uu::uu::uu::uu::uu::uu::uu::uu::uu::uu::uu::uu::uu::uu::uu::uu::uu::uu::uu::uu::uu::uu::uu::uu::uu::uu::uu::uu::uu::uu::uu::uu::uu::uu::uu::uu::uu::uu::uu::uu::uu::uu::uu::uu::uu::uu::uu::uu::uu::uu::uu::uu::uu::uu::uu::uu::uu::uu::uu::uu::uu::uu::uu::uu::uu::uu::uu::uu::uu::uu::uu::uu::uu::uu::uu::uu::uu::uu::uu::uu::uu::uu::uu::uu::uu::uu::uu::uu::uu::uu::uu::uu::uu::uu::uu::uu::uu::uu::uu::uu::[]),hG⟩) (
 yO s k wl 122 Tryz.f122 Cv 4 hH.length ([],[]) wM ⟨(b::uu::v7::vE::uu::uu::b::v1::v3::v5::v7::b::v9::vA::vC::vD::vB::vE::v7::vF::vF::uu::uu::uu::uu::uu::uu::uu::uu::uu::uu::uu::uu::uu::uu::uu::uu::uu::uu::uu::uu::uu::uu::uu::uu::uu::uu::uu::uu::uu::uu::uu::uu::uu::uu::uu::uu::uu::uu::uu::uu::uu::uu::uu::uu::uu::uu::uu::uu::uu::uu::uu::uu::uu::uu::uu::uu::uu::uu::uu::uu::uu::uu::uu::uu::uu::uu::uu::uu::uu::uu::uu::uu::uu::uu::uu::uu::uu::uu::uu::uu::uu::uu::uu::uu::uu::uu::uu::uu::uu::uu::uu::uu::uu::uu::uu::uu::uu::uu::uu::uu::uu::uu::uu::uu::uu::uu::uu::uu::uu::uu::uu::uu::uu::uu::uu::uu::uu::uu::uu::[]),hF⟩):=kB
theorem afI:evF Tryz.prog xM (k+1) wl 122 [b] h=ak (xX (xS k) 122 wl k false) Tryz.f122 [b] h:=by kernel_rfl
theorem OR:yO s k wl 122 Tryz.f122 Cv 6 m0 ac wM ⟨(b::g::e::j::l::o::r::u::y::n::p::z::A::q::D::E::B::G::F::L::I::M::J::O::R::Q::N::Y::U::Z::W::X::T::t1::t2::t3::t4::t0::tf::te::tg::t6::t5::tb::t7::tc::t8::t9::td::ta::th::ti::tj::tk::tl::tm::tn::tp::tq::tr::q4::q5::q6::ts::tt::tu::tv::tw::tx::ty::tz::tA::tB::qb::qc::qd::tC::tD::tE::tF::tG::tH::tI::tJ::tK::tL::tM::tN::q7::q8::q9::qa::tO::tP::tQ::tR::tS::tT::tU::tV::tW::tX::tY::tZ::q0::q1::q2::q3::zz),h⟩ =
 bm (aS I (.lit (.bool true)) O) h fun vI hJ=>
 cnd vI (
 bm (aU b hJ) hJ fun vG hI=>
 bm (aa s.P 168 vG 0) hI fun vJ hL=>
 bm (aa s.P 65 vJ 0) hL fun vL hN=>
 bs (ai s.P wl 3 vL (.lit (.int .i64 8)) hN) fun hh=>
 bm (aU b hh) hh fun vf hW=>
 bm (aa s.P 168 vf 0) hW fun vM hT=>
 bm (aa s.P 65 vM 2) hT fun vT hb=>
 bm (aa s.P 55 vT 3) hb fun vQ hd=>
 bs (ai s.P wl 46 vQ (.lit (.int .u64 0)) hd) fun hP=>
 bm (aU b hP) hP fun vZ ha=>
 bm (aa s.P 168 vZ 0) ha fun vc hK=>
 bm (aa s.P 65 vc 4) hK fun vl hj=>
 bs (ai s.P wl 3 vl (.lit (.int .i64 0)) hj) fun hg=>
 some (.tup [],hg)) (
 bm (aA s.P .sub 3 e (.lit (.int .i64 2))) hJ fun vU hZ=>
 bm (aA s.P .quo 3 vU (.lit (.int .i64 2))) hZ fun vX hi=>
 bm (aA s.P .eql 3 e (.lit (.int .i64 0))) hi fun vR hp=>
 cnd vR (
 bm (aU b hp) hp fun vq ht=>
 bm (aa s.P 168 vq 3) ht fun vt hz=>
 bm (ab s.P 26 vt hz) hz fun v60 h61=>
 bp (yC s k wl 122 false true (.fn (.func 27) [] []) [v60,(.lit (.int .i64 4))] h61) fun vx h63=>
 bm (aU b h63) h63 fun vw h65=>
 bm (aa s.P 168 vw 0) h65 fun vk h67=>
 bm (aa s.P 65 vk 2) h67 fun v68 h69=>
 bm (aa s.P 55 v68 3) h69 fun v70 h71=>
 bs (ai s.P wl 46 v70 vx h71) fun h72=>
 aw (xX s 122 wl k false) (av s.P Tryz.f122) rz .norm ⟨(b::g::e::j::(.lit (.bool false))::vX::r::u::y::n::p::z::A::q::D::E::B::G::F::L::I::M::J::O::vI::Q::N::Y::U::Z::W::X::T::t1::t2::t3::t4::t0::e::vU::vX::t6::t5::tb::t7::tc::t8::t9::td::ta::th::ti::tj::tk::tl::tm::tn::tp::tq::tr::vR::e::vR::b::b::vq::vt::v60::vx::vw::vk::v68::v70::qb::qc::qd::tC::tD::tE::tF::tG::tH::tI::tJ::tK::tL::tM::tN::q7::q8::q9::qa::tO::tP::tQ::tR::tS::tT::tU::tV::tW::tX::tY::tZ::q0::q1::q2::q3::zz),h72⟩) (
 bm (aA s.P .eql 3 e (.lit (.int .i64 1))) hp fun vu hv=>
 cnd vu (
 bm (aU b hv) hv fun v75 h76=>
 bm (aa s.P 168 v75 3) h76 fun v77 h78=>
 bm (ab s.P 26 v77 h78) h78 fun v79 h80=>
 bp (yC s k wl 122 true true (.fn (.func 27) [] []) [v79,(.lit (.int .i64 5))] h80) fun v81 h82=>
 stO hv.length b (
 bm (aU b h82) h82 fun v83 h84=>
 bm (aa s.P 168 v83 0) h84 fun v85 h86=>
 bm (aa s.P 65 v85 2) h86 fun v87 h88=>
 bm (aa s.P 55 v87 3) h88 fun v89 h90=>
 stO hv.length v89 (
 bm (ab s.P 46 v89 h90) h90 fun v91 h92=>
 bm (aA s.P .neq 46 v81 v91) h92 fun v93 h94=>
 aw (xX s 122 wl k false) (av s.P Tryz.f122) rz .norm ⟨(b::g::e::j::v93::vX::r::u::y::n::p::z::A::q::D::E::B::G::F::L::I::M::J::O::vI::Q::N::Y::U::Z::W::X::T::t1::t2::t3::t4::t0::e::vU::vX::t6::t5::tb::t7::tc::t8::t9::td::ta::th::ti::tj::tk::tl::tm::tn::tp::tq::tr::vR::e::vR::ts::tt::tu::tv::tw::tx::ty::tz::tA::tB::vu::e::vu::b::v75::v77::v79::v81::b::v83::v85::v87::v89::v91::v93::q7::q8::q9::qa::tO::tP::tQ::tR::tS::tT::tU::tV::tW::tX::tY::tZ::q0::q1::q2::q3::zz),h94⟩))) (
 bm (aA s.P .rem 3 e (.lit (.int .i64 2))) hv fun v95 h96=>
 bm (aA s.P .eql 3 v95 (.lit (.int .i64 0))) h96 fun v97 h98=>
 cnd v97 (
 stO h98.length b (
 bm (aU b h98) h98 fun v99 h100=>
 bm (aa s.P 168 v99 3) h100 fun vj h102=>
 stO h98.length vj (
 bm (ab s.P 26 vj h102) h102 fun v103 h104=>
 bm (aU b h104) h104 fun v105 h106=>
 bm (aa s.P 168 v105 1) h106 fun v107 h108=>
 bm (ab s.P 23 v107 h108) h108 fun v109 h110=>
 bp (yC s k wl 122 true true (.fn (.func 107) [] []) [v109,vX] h110) fun v111 h112=>
 bp (yC s k wl 122 false true (.fn (.func 27) [] []) [v103,v111] h112) fun v113 h114=>
 bm (aU b h114) h114 fun v115 h116=>
 bm (aa s.P 168 v115 0) h116 fun v117 h118=>
 bm (aa s.P 65 v117 2) h118 fun v119 h120=>
 bm (aa s.P 55 v119 3) h120 fun v121 h122=>
 bs (ai s.P wl 46 v121 v113 h122) fun h123=>
 aw (xX s 122 wl k false) (av s.P Tryz.f122) rz .norm ⟨(b::g::e::j::(.lit (.bool false))::vX::r::u::y::n::p::z::A::q::D::E::B::G::F::L::I::M::J::O::vI::Q::N::Y::U::Z::W::X::T::t1::t2::t3::t4::t0::e::vU::vX::t6::t5::tb::t7::tc::t8::t9::td::ta::th::ti::tj::tk::tl::tm::tn::tp::tq::tr::vR::e::vR::ts::tt::tu::tv::tw::tx::ty::tz::tA::tB::vu::e::vu::tC::tD::tE::tF::tG::tH::tI::tJ::tK::tL::tM::tN::v97::e::v95::v97::b::b::v99::vj::v103::b::v105::v107::v109::vX::v111::v113::v115::v117::v119::v121::zz),h123⟩))) (
 stO h98.length b (
 bm (aU b h98) h98 fun v124 h125=>
 bm (aa s.P 168 v124 3) h125 fun v126 h127=>
 stO h98.length v126 (
 bm (ab s.P 26 v126 h127) h127 fun v128 h129=>
 bm (aU b h129) h129 fun v130 h131=>
 bm (aa s.P 168 v130 1) h131 fun v132 h133=>
 bm (ab s.P 23 v132 h133) h133 fun v134 h135=>
 bp (yC s k wl 122 true true (.fn (.func 108) [] []) [v134,vX] h135) fun v136 h137=>
 bp (yC s k wl 122 true true (.fn (.func 27) [] []) [v128,v136] h137) fun v138 h139=>
 stO h98.length b (
 bm (aU b h139) h139 fun v140 h141=>
 bm (aa s.P 168 v140 0) h141 fun v142 h143=>
 bm (aa s.P 65 v142 2) h143 fun v144 h145=>
 bm (aa s.P 55 v144 3) h145 fun v146 h147=>
 stO h98.length v146 (
 bm (ab s.P 46 v146 h147) h147 fun v148 h149=>
 bp (yC s k wl 122 false true (.fn (.func 106) [] []) [v138,v148] h149) fun v150 h151=>
 bm (aA s.P .gtr 3 v150 (.lit (.int .i64 0))) h151 fun v152 h153=>
 aw (xX s 122 wl k false) (av s.P Tryz.f122) rz .norm ⟨(b::g::e::j::v152::vX::r::u::y::n::p::z::A::q::D::E::B::G::F::L::I::M::J::O::vI::Q::N::Y::U::Z::W::X::T::t1::t2::t3::t4::t0::e::vU::vX::b::v124::v126::v128::b::v130::v132::v134::vX::v136::v138::b::v140::v142::v144::v146::v148::v150::v152::vR::e::vR::ts::tt::tu::tv::tw::tx::ty::tz::tA::tB::vu::e::vu::tC::tD::tE::tF::tG::tH::tI::tJ::tK::tL::tM::tN::v97::e::v95::v97::tO::tP::tQ::tR::tS::tT::tU::tV::tW::tX::tY::tZ::q0::q1::q2::q3::zz),h153⟩)))))))):=kG
theorem OA:aw (xX s 122 wl k false) (av s.P Tryz.f122) rz .norm ⟨(b::g::e::j::l::o::r::u::y::n::p::z::A::q::D::E::B::G::F::L::I::M::J::O::R::Q::N::Y::U::Z::W::X::T::t1::t2::t3::t4::t0::tf::te::tg::t6::t5::tb::t7::tc::t8::t9::td::ta::th::ti::tj::tk::tl::tm::tn::tp::tq::tr::q4::q5::q6::ts::tt::tu::tv::tw::tx::ty::tz::tA::tB::qb::qc::qd::tC::tD::tE::tF::tG::tH::tI::tJ::tK::tL::tM::tN::q7::q8::q9::qa::tO::tP::tQ::tR::tS::tT::tU::tV::tW::tX::tY::tZ::q0::q1::q2::q3::qe::qf::qg::qh::qi::qj::qk::ql::qm::qn::qo::qp::qq::qr::qs::qt::qu::qv::qw::qx::qy::qz::qA::qB::qC::qD::qE::qF::qG::qH::qI::qJ::[]),h⟩ =
 cnd l (
 bp (yC s k wl 122 false true (.fn (.func 157) [] []) [b,(.lit (.int .i64 1))] h) fun v154 h155=>
 some (.tup [],h155)) (
 bm (aU b h) h fun v156 h157=>
 bm (aa s.P 168 v156 0) h157 fun v158 h159=>
 bm (aa s.P 65 v158 4) h159 fun v160 h161=>
 bm (ab s.P 3 v160 h161) h161 fun v162 h163=>
 bm (aA s.P .add 3 v162 (.lit (.int .i64 1))) h163 fun v164 h165=>
 bm (aU b h165) h165 fun v166 h167=>
 bm (aa s.P 168 v166 0) h167 fun v168 h169=>
 bm (aa s.P 65 v168 4) h169 fun v170 h171=>
 bs (ai s.P wl 3 v170 v164 h171) fun h172=>
 bm (aU b h172) h172 fun v173 h174=>
 bm (aa s.P 168 v173 0) h174 fun v175 h176=>
 bm (aa s.P 65 v175 4) h176 fun v177 h178=>
 bm (ab s.P 3 v177 h178) h178 fun v179 h180=>
 bm (aA s.P .eql 3 v179 j) h180 fun v181 h182=>
 cnd v181 (
 bm (aU b h182) h182 fun v183 h184=>
 bm (aa s.P 168 v183 0) h184 fun v185 h186=>
 bm (aa s.P 65 v185 0) h186 fun v187 h188=>
 bs (ai s.P wl 3 v187 (.lit (.int .i64 8)) h188) fun h189=>
 bm (aU b h189) h189 fun v190 h191=>
 bm (aa s.P 168 v190 0) h191 fun v192 h193=>
 bm (aa s.P 65 v192 2) h193 fun v194 h195=>
 bm (aa s.P 55 v194 3) h195 fun v196 h197=>
 bs (ai s.P wl 46 v196 (.lit (.int .u64 0)) h197) fun h198=>
 bm (aU b h198) h198 fun v199 h200=>
 bm (aa s.P 168 v199 0) h200 fun v201 h202=>
 bm (aa s.P 65 v201 4) h202 fun v203 h204=>
 bs (ai s.P wl 3 v203 (.lit (.int .i64 0)) h204) fun h205=>
 some (.tup [],h205)) (
 some (.tup [],h182))):=kR
theorem As (cx:Cx) (s:St):aw cx K wM .ret s=K .ret s:=by kernel_rfl
theorem Ak (cx:Cx) (s:St):aw cx K rz .ret s=K .ret s:=by kernel_rfl
-- names: aaT,OR,OA,As,Ak
theorem Z0:ak (xX s 123 wl k false) Tryz.f123 [b] h =
 bp (yC s k wl 123 false true (.fn (.func 156) [] []) [b] h) fun v1 h2=>
 cnd v1 (
 bp (yC s k wl 123 false true (.fn (.func 157) [] []) [b,(.lit (.int .i64 1))] h2) fun v3 h4=>
 some (.tup [],h4)) (
 some (.tup [],h2)):=kB
theorem adM:evF Tryz.prog xM (k+1) wl 123 [b] h=ak (xX (xS k) 123 wl k false) Tryz.f123 [b] h:=by kernel_rfl
-- names: Z0,
theorem abh:ak (xX s 124 wl k false) Tryz.f124 [b] h =
 bm (aU b h) h fun v1 h2=>
 bm (aa s.P 168 v1 2) h2 fun v3 h4=>
 bm (ab s.P 24 v3 h4) h4 fun v5 h6=>
 bm (aU b h6) h6 fun v7 h8=>
 bm (aa s.P 168 v7 0) h8 fun v9 hA=>
 bm (aa s.P 65 v9 1) hA fun vA hB=>
 bm (ab s.P 63 vA hB) hB fun vC hC=>
 bp (yC s k wl 124 false true (.fn (.func 162) [] []) [v5,vC] hC) fun vD hD=>
 bm (AS s.P 194 vD 0) hD fun vB hE=>
 bm (aA s.P .eql 3 vB (.lit (.int .i64 1))) hE fun vE hH=>
 cnd vE (
 bm (aU b hH) hH fun vF hF=>
 bm (aa s.P 168 vF 2) hF fun vH hG=>
 bm (ab s.P 24 vH hG) hG fun vI hJ=>
 bm (aU b hJ) hJ fun vG hI=>
 bm (aa s.P 168 vG 0) hI fun vJ hL=>
 bm (aa s.P 65 vJ 1) hL fun vL hN=>
 bm (ab s.P 63 vL hN) hN fun vK hO=>
 bp (yC s k wl 124 false true (.fn (.func 163) [] []) [vI,vK] hO) fun vO hV=>
 bm (aU b hV) hV fun vW hS=>
 bm (aa s.P 168 vW 0) hS fun vY hU=>
 bm (aa s.P 65 vY 1) hU fun vP hP=>
 bs (ai s.P wl 63 vP vO hP) fun hf=>
 some (.tup [],hf)) (
 bm (aA s.P .eql 3 vB (.lit (.int .i64 2))) hH fun vi hX=>
 cnd vi (
 bm (aU b hX) hX fun va he=>
 bm (aa s.P 168 va 0) he fun vb hg=>
 bm (aa s.P 65 vb 0) hg fun vU hZ=>
 bs (ai s.P wl 3 vU (.lit (.int .i64 10)) hZ) fun hM=>
 some (.tup [],hM)) (
 bm (aA s.P .eql 3 vB (.lit (.int .i64 3))) hX fun vo hk=>
 cnd vo (
 bm (aU b hk) hk fun vv hq=>
 bm (aa s.P 168 vv 0) hq fun vy hx=>
 bm (aa s.P 65 vy 0) hx fun v59 hy=>
 bs (ai s.P wl 3 v59 (.lit (.int .i64 15)) hy) fun h61=>
 some (.tup [],h61)) (
 bm (aU b hk) hk fun vx h63=>
 bm (aa s.P 168 vx 4) h63 fun vw h65=>
 bm (ab s.P 3 vw h65) h65 fun vk h67=>
 bp (yC s k wl 124 false true (.fn (.func 160) [] []) [b,(.lit (.int .i64 0)),(.lit (.int .i64 1)),vk,(.lit (.int .u64 0))] h67) fun v68 h69=>
 some (.tup [],h69)))):=kB
theorem adX:evF Tryz.prog xM (k+1) wl 124 [b] h=ak (xX (xS k) 124 wl k false) Tryz.f124 [b] h:=by kernel_rfl
-- names: abh,
theorem abF:ak (xX s 125 wl k false) Tryz.f125 [b] h =
 bp (az s.P 194 h) fun v1 h2=>
 bm (aU b h2) h2 fun v3 h4=>
 bm (aa s.P 168 v3 2) h4 fun v5 h6=>
 bm (ab s.P 24 v5 h6) h6 fun v7 h8=>
 bm (aU b h8) h8 fun v9 hA=>
 bm (aa s.P 168 v9 0) hA fun vA hB=>
 bm (aa s.P 65 vA 1) hB fun vC hC=>
 bm (ab s.P 63 vC hC) hC fun vD hD=>
 bp (yC s k wl 125 true true (.fn (.func 162) [] []) [v7,vD] hD) fun vB hE=>
 bs (ai s.P wl 194 v1 vB hE) fun hr=>
 bm (aa s.P 194 v1 0) hr fun vd hQ=>
 bm (ab s.P 3 vd hQ) hQ fun vV hm=>
 bm (aA s.P .neq 3 vV (.lit (.int .i64 2))) hm fun vS hc=>
 cnd vS (
 bp (yC s k wl 125 false true (.fn (.func 157) [] []) [b,(.lit (.int .i64 9))] hc) fun vN hn=>
 some (.tup [],hn)) (
 bp (yC s k wl 125 false true (.fn (.func 159) [] []) [b,(.lit (.int .i64 0)),(.lit (.int .u64 1))] hc) fun vh hs=>
 bm (aa s.P 194 v1 1) hs fun vp hY=>
 bm (ab s.P 3 vp hY) hY fun ve hh=>
 bp (yC s k wl 125 false true (.fn (.func 164) [] []) [b,(.lit (.int .i64 3)),ve] hh) fun vf hW=>
 bm (aU b hW) hW fun vM hT=>
 bm (aa s.P 168 vM 2) hT fun vT hb=>
 bm (ab s.P 24 vT hb) hb fun vQ hd=>
 bm (aU b hd) hd fun vm hf=>
 bm (aa s.P 168 vm 0) hf fun vi hX=>
 bm (aa s.P 65 vi 1) hX fun va he=>
 bm (ab s.P 63 va he) he fun vb hg=>
 bp (yC s k wl 125 false true (.fn (.func 163) [] []) [vQ,vb] hg) fun vU hZ=>
 bm (aU b hZ) hZ fun vX hi=>
 bm (aa s.P 168 vX 0) hi fun vR hp=>
 bm (aa s.P 65 vR 1) hp fun vq ht=>
 bs (ai s.P wl 63 vq vU ht) fun hx=>
 bm (aU b hx) hx fun v59 hy=>
 bm (aa s.P 168 v59 4) hy fun v61 hw=>
 bm (ab s.P 3 v61 hw) hw fun v63 h64=>
 bm (aa s.P 194 v1 1) h64 fun v65 h66=>
 bm (ab s.P 3 v65 h66) h66 fun v67 h68=>
 bm (fL s.P 3 46 v67) h68 fun v69 h70=>
 bp (yC s k wl 125 false true (.fn (.func 160) [] []) [b,(.lit (.int .i64 11)),(.lit (.int .i64 0)),v63,v69] h70) fun v71 h72=>
 some (.tup [],h72)):=kB
theorem adI:evF Tryz.prog xM (k+1) wl 125 [b] h=ak (xX (xS k) 125 wl k false) Tryz.f125 [b] h:=by kernel_rfl
-- names: abF,
theorem aaI:ak (xX s 126 wl k false) Tryz.f126 [b] h =
 bp (yC s k wl 126 false true (.fn (.func 156) [] []) [b] h) fun v1 h2=>
 bm (vUn .not v1) h2 fun v3 h4=>
 cnd v3 (
 some (.tup [],h4)) (
 bm (aU b h4) h4 fun v5 h6=>
 bm (aa s.P 168 v5 0) h6 fun v7 h8=>
 bm (aa s.P 65 v7 2) h8 fun v9 hA=>
 bm (aa s.P 55 v9 6) hA fun vA hB=>
 bm (ab s.P 3 vA hB) hB fun vC hC=>
 bm (aA s.P .eql 3 vC (.lit (.int .i64 2))) hC fun vD hD=>
 cnd vD (
 bm (aU b hD) hD fun vB hE=>
 bm (aa s.P 168 vB 4) hE fun vE hH=>
 bm (ab s.P 3 vE hH) hH fun vF hF=>
 bm (aU b hF) hF fun vH hG=>
 bm (aa s.P 168 vH 0) hG fun vI hJ=>
 bm (aa s.P 65 vI 2) hJ fun vG hI=>
 bm (aa s.P 55 vG 3) hI fun vJ hL=>
 bm (ab s.P 46 vJ hL) hL fun vL hN=>
 bp (yC s k wl 126 false true (.fn (.func 160) [] []) [b,(.lit (.int .i64 12)),(.lit (.int .i64 3)),vF,vL] hN) fun vK hO=>
 some (.tup [],hO)) (
 bp (yC s k wl 126 false true (.fn (.func 157) [] []) [b,(.lit (.int .i64 13))] hD) fun vO hV=>
 some (.tup [],hV))):=kB
theorem aeq:evF Tryz.prog xM (k+1) wl 126 [b] h=ak (xX (xS k) 126 wl k false) Tryz.f126 [b] h:=by kernel_rfl
-- names: aaI,
theorem ZX:ak (xX s 127 wl k false) Tryz.f127 [b] h =
 bp (yC s k wl 127 false true (.fn (.func 156) [] []) [b] h) fun v1 h2=>
 bm (vUn .not v1) h2 fun v3 h4=>
 cnd v3 (
 some (.tup [],h4)) (
 bm (aU b h4) h4 fun v5 h6=>
 bm (aa s.P 168 v5 0) h6 fun v7 h8=>
 bm (aa s.P 65 v7 2) h8 fun v9 hA=>
 bm (aa s.P 55 v9 6) hA fun vA hB=>
 bm (ab s.P 3 vA hB) hB fun vC hC=>
 bm (aA s.P .eql 3 vC (.lit (.int .i64 2))) hC fun vD hD=>
 cnd vD (
 bm (aU b hD) hD fun vB hE=>
 bm (aa s.P 168 vB 0) hE fun vE hH=>
 bm (aa s.P 65 vE 2) hH fun vF hF=>
 bm (aa s.P 55 vF 3) hF fun vH hG=>
 bm (ab s.P 46 vH hG) hG fun vI hJ=>
 bp (yC s k wl 127 false true (.fn (.func 157) [] []) [b,(.lit (.int .i64 9))] hJ) fun vG hI=>
 bp (yC s k wl 127 false true (.fn (.func 158) [] []) [b,vI] hI) fun vJ hL=>
 some (.tup [],hL)) (
 bp (yC s k wl 127 false true (.fn (.func 157) [] []) [b,(.lit (.int .i64 13))] hD) fun vL hN=>
 some (.tup [],hN))):=kB
theorem adH:evF Tryz.prog xM (k+1) wl 127 [b] h=ak (xX (xS k) 127 wl k false) Tryz.f127 [b] h:=by kernel_rfl
-- names: ZX,
theorem aah:ak (xX s 128 wl k false) Tryz.f128 [b] h =
 bm (aU b h) h fun v1 h2=>
 bm (aa s.P 168 v1 3) h2 fun v3 h4=>
 bm (ab s.P 26 v3 h4) h4 fun v5 h6=>
 bp (yC s k wl 128 false true (.fn (.func 27) [] []) [v5,(.lit (.int .i64 1))] h6) fun v7 h8=>
 bm (aA s.P .eql 46 v7 (.lit (.int .u64 0))) h8 fun v9 hA=>
 cnd v9 (
 bm (aU b hA) hA fun vA hB=>
 bm (aa s.P 168 vA 4) hB fun vC hC=>
 bm (ab s.P 3 vC hC) hC fun vD hD=>
 bp (yC s k wl 128 false true (.fn (.func 160) [] []) [b,(.lit (.int .i64 14)),(.lit (.int .i64 6)),vD,(.lit (.int .u64 0))] hD) fun vB hE=>
 some (.tup [],hE)) (
 bp (yC s k wl 128 false true (.fn (.func 157) [] []) [b,(.lit (.int .i64 9))] hA) fun vE hH=>
 some (.tup [],hH)):=kB
theorem ae5:evF Tryz.prog xM (k+1) wl 128 [b] h=ak (xX (xS k) 128 wl k false) Tryz.f128 [b] h:=by kernel_rfl
-- names: aah,
theorem aaH:ak (xX s 129 wl k false) Tryz.f129 [b] h =
 bp (yC s k wl 129 false true (.fn (.func 156) [] []) [b] h) fun v1 h2=>
 cnd v1 (
 bp (yC s k wl 129 false true (.fn (.func 157) [] []) [b,(.lit (.int .i64 9))] h2) fun v3 h4=>
 some (.tup [],h4)) (
 some (.tup [],h2)):=kB
theorem ad6:evF Tryz.prog xM (k+1) wl 129 [b] h=ak (xX (xS k) 129 wl k false) Tryz.f129 [b] h:=by kernel_rfl
-- names: aaH,
noncomputable def CM:List Fr:=[.seq (al (an Tryz.f130) [1,1,1,1,1])]
theorem aaw:ak (xX s 130 wl k false) Tryz.f130 [b] h =
 bp (az s.P 194 h) fun v1 h2=>
 bm (aU b h2) h2 fun v3 h4=>
 bm (aa s.P 168 v3 2) h4 fun v5 h6=>
 bm (ab s.P 24 v5 h6) h6 fun v7 h8=>
 bm (aU b h8) h8 fun v9 hA=>
 bm (aa s.P 168 v9 0) hA fun vA hB=>
 bm (aa s.P 65 vA 1) hB fun vC hC=>
 bm (ab s.P 63 vC hC) hC fun vD hD=>
 bp (yC s k wl 130 true true (.fn (.func 162) [] []) [v7,vD] hD) fun vB hE=>
 bs (ai s.P wl 194 v1 vB hE) fun hr=>
 bm (aa s.P 194 v1 0) hr fun vd hQ=>
 bm (ab s.P 3 vd hQ) hQ fun vV hm=>
 bm (aA s.P .neq 3 vV (.lit (.int .i64 3))) hm fun vS hc=>
 cnd vS (
 bp (yC s k wl 130 false true (.fn (.func 157) [] []) [b,(.lit (.int .i64 9))] hc) fun vN hn=>
 some (.tup [],hn)) (
 bp (yC s k wl 130 false true (.fn (.func 159) [] []) [b,(.lit (.int .i64 0)),(.lit (.int .u64 18446744073709551615))] hc) fun vh hs=>
 bm (aa s.P 194 v1 1) hs fun vp hY=>
 bm (ab s.P 3 vp hY) hY fun ve hh=>
 bp (yC s k wl 130 false true (.fn (.func 164) [] []) [b,(.lit (.int .i64 4)),ve] hh) fun vf hW=>
 bm (aA s.P .eql 46 vh (.lit (.int .u64 1))) hW fun vM hT=>
 cnd vM (
 bp (yC s k wl 130 false true (.fn (.func 164) [] []) [b,(.lit (.int .i64 5)),(.lit (.int .i64 0))] hT) fun vT hb=>
 aw (xX s 130 wl k false) (av s.P Tryz.f130) CM .norm ⟨[b,uu,v1,vh,b,v3,v5,v7,b,v9,vA,vC,vD,vB,vd,vV,vS,uu,uu,b,vh,b,vp,ve,vf,vh,vM,b,vT,uu,uu,uu,uu,uu,uu,uu,uu,uu,uu,uu,uu,uu,uu,uu,uu,uu,uu,uu,uu,uu,uu,uu,uu,uu,uu,uu,uu,uu],hb⟩) (
 aw (xX s 130 wl k false) (av s.P Tryz.f130) CM .norm ⟨[b,uu,v1,vh,b,v3,v5,v7,b,v9,vA,vC,vD,vB,vd,vV,vS,uu,uu,b,vh,b,vp,ve,vf,vh,vM,uu,uu,uu,uu,uu,uu,uu,uu,uu,uu,uu,uu,uu,uu,uu,uu,uu,uu,uu,uu,uu,uu,uu,uu,uu,uu,uu,uu,uu,uu,uu],hT⟩)):=kB
theorem afE:evF Tryz.prog xM (k+1) wl 130 [b] h=ak (xX (xS k) 130 wl k false) Tryz.f130 [b] h:=by kernel_rfl
theorem LG:aw (xX s 130 wl k false) (av s.P Tryz.f130) CM .norm ⟨[b,g,e,j,l,o,r,u,y,n,p,z,A,q,D,E,B,G,F,L,I,M,J,O,R,Q,N,Y,U,Z,W,X,T,t1,t2,t3,t4,t0,tf,te,tg,t6,t5,tb,t7,tc,t8,t9,td,ta,th,ti,tj,tk,tl,tm,tn,tp],h⟩ =
 bm (aU b h) h fun vQ hd=>
 bm (aa s.P 168 vQ 2) hd fun vm hf=>
 bm (ab s.P 24 vm hf) hf fun vi hX=>
 bm (aU b hX) hX fun va he=>
 bm (aa s.P 168 va 0) he fun vb hg=>
 bm (aa s.P 65 vb 1) hg fun vU hZ=>
 bm (ab s.P 63 vU hZ) hZ fun vX hi=>
 bp (yC s k wl 130 false true (.fn (.func 163) [] []) [vi,vX] hi) fun vR hp=>
 bm (aU b hp) hp fun vq ht=>
 bm (aa s.P 168 vq 0) ht fun vt hz=>
 bm (aa s.P 65 vt 1) hz fun v60 h61=>
 bs (ai s.P wl 63 v60 vR h61) fun hw=>
 bm (aU b hw) hw fun v63 h64=>
 bm (aa s.P 168 v63 0) h64 fun v65 h66=>
 bm (aa s.P 65 v65 1) h66 fun v67 h68=>
 bm (ab s.P 63 v67 h68) h68 fun v69 h70=>
 bp (bh s.P 63 v69 h70) fun v71 h72=>
 bm (aA s.P .eql 3 v71 (.lit (.int .i64 0))) h72 fun vu hv=>
 cnd vu (
 bm (aU b hv) hv fun v75 h76=>
 bm (aa s.P 168 v75 4) h76 fun v77 h78=>
 bm (ab s.P 3 v77 h78) h78 fun v79 h80=>
 bp (yC s k wl 130 false true (.fn (.func 160) [] []) [b,(.lit (.int .i64 0)),(.lit (.int .i64 1)),v79,(.lit (.int .u64 0))] h80) fun v81 h82=>
 some (.tup [],h82)) (
 bp (yC s k wl 130 false true (.fn (.func 157) [] []) [b,(.lit (.int .i64 9))] hv) fun v83 h84=>
 some (.tup [],h84)):=kR
theorem AX (cx:Cx) (s:St):aw cx K CM .ret s=K .ret s:=by kernel_rfl
-- names: aaw,LG,AX
noncomputable def wv:List Fr:=[.seq (al (an Tryz.f156) [1,1,0,1,0,1]),.block 0,.seq (al (an Tryz.f156) [1,1,1])]
noncomputable def nY:List Fr:=[.block 0,.seq (al (an Tryz.f156) [1,1,1])]
theorem YQ:ak (xX s 156 wl k false) Tryz.f156 [b] h =
 bm (aU b h) h fun v1 h2=>
 bm (aa s.P 168 v1 0) h2 fun v3 h4=>
 bm (aa s.P 65 v3 2) h4 fun v5 h6=>
 bm (aa s.P 55 v5 0) h6 fun v7 h8=>
 bm (ab s.P 3 v7 h8) h8 fun v9 hA=>
 bm (aA s.P .eql 3 v9 (.lit (.int .i64 0))) hA fun vA hB=>
 cnd vA (
 aw (xX s 156 wl k false) (av s.P Tryz.f156) wv .norm ⟨[b,uu,(.lit (.bool false)),(.fn (.func 134) [] []),b,v1,v3,v5,v7,v9,vA,vA,uu,uu,uu,uu,uu,uu,uu,uu,uu,uu,uu,uu,uu,uu,uu,uu,uu,uu,uu,uu,uu,uu,uu,uu,uu,uu,uu,uu,uu,uu,uu,uu,uu,uu,uu,uu],hB⟩) (
 bm (aA s.P .eql 3 v9 (.lit (.int .i64 1))) hB fun vC hC=>
 cnd vC (
 aw (xX s 156 wl k false) (av s.P Tryz.f156) wv .norm ⟨[b,uu,(.lit (.bool false)),(.fn (.func 134) [] []),b,v1,v3,v5,v7,v9,vC,vA,vC,uu,uu,uu,uu,uu,uu,uu,uu,uu,uu,uu,uu,uu,uu,uu,uu,uu,uu,uu,uu,uu,uu,uu,uu,uu,uu,uu,uu,uu,uu,uu,uu,uu,uu,uu],hC⟩) (
 bm (aA s.P .eql 3 v9 (.lit (.int .i64 2))) hC fun vD hD=>
 aw (xX s 156 wl k false) (av s.P Tryz.f156) wv .norm ⟨[b,uu,(.lit (.bool false)),(.fn (.func 134) [] []),b,v1,v3,v5,v7,v9,vD,vA,vC,vD,uu,uu,uu,uu,uu,uu,uu,uu,uu,uu,uu,uu,uu,uu,uu,uu,uu,uu,uu,uu,uu,uu,uu,uu,uu,uu,uu,uu,uu,uu,uu,uu,uu,uu],hD⟩)):=kB
theorem aeV:evF Tryz.prog xM (k+1) wl 156 [b] h=ak (xX (xS k) 156 wl k false) Tryz.f156 [b] h:=by kernel_rfl
theorem My:aw (xX s 156 wl k false) (av s.P Tryz.f156) wv .norm ⟨(b::g::e::j::l::o::r::u::y::n::p::z::A::q::D::E::B::zz),h⟩ =
 cnd p (
 aw (xX s 156 wl k false) (av s.P Tryz.f156) nY .norm ⟨(b::g::e::(.fn (.func 180) [] [])::l::o::r::u::y::n::p::z::A::q::D::E::B::zz),h⟩) (
 bm (aA s.P .eql 3 n (.lit (.int .i64 3))) h fun vB hE=>
 cnd vB (
 cnd vB (
 aw (xX s 156 wl k false) (av s.P Tryz.f156) nY .norm ⟨(b::g::e::(.fn (.func 135) [] [])::l::o::r::u::y::n::p::z::A::q::vB::vB::B::zz),hE⟩) (
 aw (xX s 156 wl k false) (av s.P Tryz.f156) nY .norm ⟨(b::g::e::j::l::o::r::u::y::n::p::z::A::q::vB::vB::B::zz),hE⟩)) (
 bm (aA s.P .eql 3 n (.lit (.int .i64 4))) hE fun vE hH=>
 cnd vE (
 aw (xX s 156 wl k false) (av s.P Tryz.f156) nY .norm ⟨(b::g::e::(.fn (.func 135) [] [])::l::o::r::u::y::n::p::z::A::q::vE::vB::vE::zz),hH⟩) (
 aw (xX s 156 wl k false) (av s.P Tryz.f156) nY .norm ⟨(b::g::e::j::l::o::r::u::y::n::p::z::A::q::vE::vB::vE::zz),hH⟩))):=kR
theorem Lo:aw (xX s 156 wl k false) (av s.P Tryz.f156) nY .norm ⟨[b,g,e,j,l,o,r,u,y,n,p,z,A,q,D,E,B,G,F,L,I,M,J,O,R,Q,N,Y,U,Z,W,X,T,t1,t2,t3,t4,t0,tf,te,tg,t6,t5,tb,t7,tc,t8,t9],h⟩ =
 bm (aU b h) h fun vF hF=>
 bm (aa s.P 168 vF 1) hF fun vH hG=>
 bm (ab s.P 23 vH hG) hG fun vI hJ=>
 bm (aU b hJ) hJ fun vG hI=>
 bm (aa s.P 168 vG 3) hI fun vJ hL=>
 bm (ab s.P 26 vJ hL) hL fun vL hN=>
 bm (aU b hN) hN fun vK hO=>
 bm (aa s.P 168 vK 0) hO fun vO hV=>
 bm (aa s.P 65 vO 2) hV fun vW hS=>
 bm (ab s.P 55 vW hS) hS fun vY hU=>
 bp (yC s k wl 156 false true j [vI,vL,vY] hU) fun vP hP=>
 bm (ar vP 0) hP fun vZ ha=>
 bm (ar vP 1) ha fun vc hK=>
 bm (aU b hK) hK fun vl hj=>
 bm (aa s.P 168 vl 3) hj fun vg hl=>
 bs (ai s.P wl 26 vg vZ hl) fun hZ=>
 bm (aU b hZ) hZ fun vX hi=>
 bm (aa s.P 168 vX 0) hi fun vR hp=>
 bm (aa s.P 65 vR 2) hp fun vq ht=>
 bs (ai s.P wl 55 vq vc ht) fun hx=>
 bm (aU b hx) hx fun v59 hy=>
 bm (aa s.P 168 v59 0) hy fun v61 hw=>
 bm (aa s.P 65 v61 2) hw fun v63 h64=>
 bm (ab s.P 55 v63 h64) h64 fun v65 h66=>
 bp (yC s k wl 156 false true (.fn (.func 110) [] []) [v65] h66) fun v67 h68=>
 some (v67,h68):=kR
theorem AK (cx:Cx) (s:St):aw cx K wv .ret s=K .ret s:=by kernel_rfl
theorem wB (cx:Cx) (s:St):aw cx K nY .ret s=K .ret s:=by kernel_rfl
-- names: YQ,My,Lo,AK,wB
theorem ab8:ak (xX s 157 wl k false) Tryz.f157 [b,g] h =
 bm (be s.P 55 []) h fun v1 h2=>
 bm (aU b h2) h2 fun v3 h4=>
 bm (aa s.P 168 v3 0) h4 fun v5 h6=>
 bm (aa s.P 65 v5 0) h6 fun v7 h8=>
 bs (ai s.P wl 3 v7 g h8) fun h9=>
 bm (aU b h9) h9 fun v10 h11=>
 bm (aa s.P 168 v10 0) h11 fun v12 h13=>
 bm (aa s.P 65 v12 2) h13 fun vz ho=>
 bs (ai s.P wl 55 vz v1 ho) fun hD=>
 some (.tup [],hD):=kB
theorem afc:evF Tryz.prog xM (k+1) wl 157 [b,g] h=ak (xX (xS k) 157 wl k false) Tryz.f157 [b,g] h:=by kernel_rfl
-- names: ab8,
theorem aa5:ak (xX s 158 wl k false) Tryz.f158 [b,g] h =
 bm (aU b h) h fun v1 h2=>
 bm (aa s.P 168 v1 2) h2 fun v3 h4=>
 bm (ab s.P 24 v3 h4) h4 fun v5 h6=>
 bm (aU b h6) h6 fun v7 h8=>
 bm (aa s.P 168 v7 0) h8 fun v9 hA=>
 bm (aa s.P 65 v9 1) hA fun vA hB=>
 bm (ab s.P 63 vA hB) hB fun vC hC=>
 bm (fL s.P 46 3 g) hC fun vD hD=>
 bp (yC s k wl 158 false true (.fn (.func 181) [] []) [v5,vC,vD] hD) fun vB hE=>
 bm (aU b hE) hE fun vE hH=>
 bm (aa s.P 168 vE 0) hH fun vF hF=>
 bm (aa s.P 65 vF 1) hF fun vH hG=>
 bs (ai s.P wl 63 vH vB hG) fun hc=>
 bm (fL s.P 46 3 g) hc fun vN hn=>
 bp (yC s k wl 158 false true (.fn (.func 164) [] []) [b,(.lit (.int .i64 2)),vN] hn) fun vh hs=>
 some (.tup [],hs):=kB
theorem afz:evF Tryz.prog xM (k+1) wl 158 [b,g] h=ak (xX (xS k) 158 wl k false) Tryz.f158 [b,g] h:=by kernel_rfl
-- names: aa5,
theorem abl:ak (xX s 159 wl k false) Tryz.f159 [b,g,e] h =
 bm (aU b h) h fun v1 h2=>
 bm (aa s.P 168 v1 3) h2 fun v3 h4=>
 bm (ab s.P 26 v3 h4) h4 fun v5 h6=>
 bp (yC s k wl 159 false true (.fn (.func 138) [] []) [v5,g,e] h6) fun v7 h8=>
 bm (ar v7 0) h8 fun v9 hA=>
 bm (ar v7 1) hA fun vA hB=>
 bm (aU b hB) hB fun vC hC=>
 bm (aa s.P 168 vC 3) hC fun vD hD=>
 bs (ai s.P wl 26 vD v9 hD) fun hu=>
 some (vA,hu):=kB
theorem afq:evF Tryz.prog xM (k+1) wl 159 [b,g,e] h=ak (xX (xS k) 159 wl k false) Tryz.f159 [b,g,e] h:=by kernel_rfl
-- names: abl,
theorem ZS:ak (xX s 160 wl k false) Tryz.f160 [b,g,e,j,l] h =
 bp (yC s k wl 160 false true (.fn (.func 104) [] []) [e,j,l] h) fun v1 h2=>
 bm (aU b h2) h2 fun v3 h4=>
 bm (aa s.P 168 v3 0) h4 fun v5 h6=>
 bm (aa s.P 65 v5 0) h6 fun v7 h8=>
 bs (ai s.P wl 3 v7 g h8) fun h9=>
 bm (aU b h9) h9 fun v10 h11=>
 bm (aa s.P 168 v10 0) h11 fun v12 h13=>
 bm (aa s.P 65 v12 2) h13 fun vz ho=>
 bs (ai s.P wl 55 vz v1 ho) fun hD=>
 some (.tup [],hD):=kB
theorem agZ:evF Tryz.prog xM (k+1) wl 160 [b,g,e,j,l] h=ak (xX (xS k) 160 wl k false) Tryz.f160 [b,g,e,j,l] h:=by kernel_rfl
-- names: ZS,
theorem ZV:ak (xX s 164 wl k false) Tryz.f164 [b,g,e] h =
 stO h.length b (
 bm (aU b h) h fun v1 h2=>
 bm (aa s.P 168 v1 6) h2 fun v3 h4=>
 stO h.length v3 (
 bm (ab s.P 34 v3 h4) h4 fun v5 h6=>
 bm (aU b h6) h6 fun v7 h8=>
 bm (aa s.P 168 v7 4) h8 fun v9 hA=>
 bm (ab s.P 3 v9 hA) hA fun vA hB=>
 bm (be s.P 52 [(0,g),(1,e),(2,vA)]) hB fun vC hC=>
 bp (cZ s.P wl 34 1 [(0,vC)] hC) fun vD hD=>
 bp (kS s.P wl 34 34 v5 vD hD) fun vB hE=>
 bm (aU b hE) hE fun vE hH=>
 bm (aa s.P 168 vE 6) hH fun vF hF=>
 bs (ai s.P wl 34 vF vB hF) fun hm=>
 some (.tup [],hm))):=kB
theorem agV:evF Tryz.prog xM (k+1) wl 164 [b,g,e] h=ak (xX (xS k) 164 wl k false) Tryz.f164 [b,g,e] h:=by kernel_rfl
-- names: ZV,
noncomputable def dL:Code:=al (an Tryz.f95) [1,0]
noncomputable def dC:List Fr:=[.seq (al (an Tryz.f95) [1,1])]
theorem ahD:ak (xX s 95 wl k false) Tryz.f95 [b,g,e,j,l] h =
 bp (aQ b h) fun v1 h2=>
 bp (aQ l h2) fun v3 h4=>
 bm (ab s.P 23 v1 h4) h4 fun v5 h6=>
 bp (yC s k wl 95 false true (.fn (.func 50) [] []) [v5] h6) fun v7 h8=>
 gd v7 (
 bp (bh s.P 26 e h8) fun v9 hA=>
 bm (ab s.P 23 v1 hA) hA fun vA hB=>
 bp (yC s k wl 95 false true (.fn (.func 103) [] []) [vA] hB) fun vC hC=>
 bm (aA s.P .eql 3 v9 vC) hC fun vD hD=>
 yO s k wl 95 Tryz.f95 dL 8 h4.length ([],[]) dC ⟨[b,g,e,j,l,v1,uu,uu,uu,v3,(.lit (.bool false)),v5,v7,(.lit (.bool true)),e,v9,vA,vC,vD,uu,uu,uu,uu,uu,uu,uu,uu,uu,uu,uu,uu,uu,uu,uu,uu,uu,uu,uu,uu,uu,uu,uu,uu,uu,uu,uu,uu,uu,uu,uu],hD⟩) (
 yO s k wl 95 Tryz.f95 dL 8 h4.length ([],[]) dC ⟨[b,g,e,j,l,v1,uu,uu,uu,v3,(.lit (.bool false)),v5,v7,(.lit (.bool false)),uu,uu,uu,uu,uu,uu,uu,uu,uu,uu,uu,uu,uu,uu,uu,uu,uu,uu,uu,uu,uu,uu,uu,uu,uu,uu,uu,uu,uu,uu,uu,uu,uu,uu,uu,uu],h8⟩) (
 yO s k wl 95 Tryz.f95 dL 4 h4.length ([],[]) dC ⟨[b,g,e,j,l,v1,uu,uu,uu,v3,(.lit (.bool false)),v5,v7,v7,uu,uu,uu,uu,uu,uu,uu,uu,uu,uu,uu,uu,uu,uu,uu,uu,uu,uu,uu,uu,uu,uu,uu,uu,uu,uu,uu,uu,uu,uu,uu,uu,uu,uu,uu,uu],h8⟩):=kB
theorem ail:evF Tryz.prog xM (k+1) wl 95 [b,g,e,j,l] h=ak (xX (xS k) 95 wl k false) Tryz.f95 [b,g,e,j,l] h:=by kernel_rfl
theorem Tp:yO s k wl 95 Tryz.f95 dL 8 m0 ac dC ⟨(b::g::e::j::l::o::r::u::y::n::p::z::A::q::D::E::B::G::F::L::I::M::J::zz),h⟩ =
 bm (aS q F (.lit (.bool false))) h fun vB hE=>
 gd vB (
 bp (yC s k wl 95 false true (.fn (.func 56) [] []) [g] hE) fun vE hH=>
 yO s k wl 95 Tryz.f95 dL 12 m0 ac dC ⟨(b::g::e::j::l::o::r::u::y::n::p::z::A::q::D::E::B::G::F::vB::(.lit (.bool true))::g::vE::zz),hH⟩) (
 yO s k wl 95 Tryz.f95 dL 12 m0 ac dC ⟨(b::g::e::j::l::o::r::u::y::n::p::z::A::q::D::E::B::G::F::vB::(.lit (.bool false))::uu::uu::zz),hE⟩) (
 yO s k wl 95 Tryz.f95 dL 11 m0 ac dC ⟨(b::g::e::j::l::o::r::u::y::n::p::z::A::q::D::E::B::G::F::vB::vB::uu::J::zz),hE⟩):=kG
theorem TV:yO s k wl 95 Tryz.f95 dL 12 m0 ac dC ⟨(b::g::e::j::l::o::r::u::y::n::p::z::A::q::D::E::B::G::F::L::I::M::J::O::R::Q::N::zz),h⟩ =
 bm (aS I J (.lit (.bool false))) h fun vF hF=>
 gd vF (
 bm (aA s.P .geq 3 j (.lit (.int .i64 0))) hF fun vH hG=>
 yO s k wl 95 Tryz.f95 dL 16 m0 ac dC ⟨(b::g::e::j::l::o::r::u::y::n::p::z::A::q::D::E::B::G::F::L::I::M::J::vF::(.lit (.bool true))::j::vH::zz),hG⟩) (
 yO s k wl 95 Tryz.f95 dL 16 m0 ac dC ⟨(b::g::e::j::l::o::r::u::y::n::p::z::A::q::D::E::B::G::F::L::I::M::J::vF::(.lit (.bool false))::uu::uu::zz),hF⟩) (
 yO s k wl 95 Tryz.f95 dL 15 m0 ac dC ⟨(b::g::e::j::l::o::r::u::y::n::p::z::A::q::D::E::B::G::F::L::I::M::J::vF::vF::uu::N::zz),hF⟩):=kG
theorem S7:yO s k wl 95 Tryz.f95 dL 16 m0 ac dC ⟨(b::g::e::j::l::o::r::u::y::n::p::z::A::q::D::E::B::G::F::L::I::M::J::O::R::Q::N::Y::U::Z::W::X::T::zz),h⟩ =
 bm (aS R N (.lit (.bool false))) h fun vI hJ=>
 gd vI (
 bm (aa s.P 23 o 0) hJ fun vG hI=>
 bm (ab s.P 3 vG hI) hI fun vJ hL=>
 bm (aA s.P .lss 3 j vJ) hL fun vL hN=>
 yO s k wl 95 Tryz.f95 dL 22 m0 ac dC ⟨(b::g::e::j::l::o::r::u::y::n::p::z::A::q::D::E::B::G::F::L::I::M::J::O::R::Q::N::vI::(.lit (.bool true))::j::vG::vJ::vL::zz),hN⟩) (
 yO s k wl 95 Tryz.f95 dL 22 m0 ac dC ⟨(b::g::e::j::l::o::r::u::y::n::p::z::A::q::D::E::B::G::F::L::I::M::J::O::R::Q::N::vI::(.lit (.bool false))::uu::uu::uu::uu::zz),hJ⟩) (
 yO s k wl 95 Tryz.f95 dL 19 m0 ac dC ⟨(b::g::e::j::l::o::r::u::y::n::p::z::A::q::D::E::B::G::F::L::I::M::J::O::R::Q::N::vI::vI::uu::W::X::T::zz),hJ⟩):=kG
theorem Te:yO s k wl 95 Tryz.f95 dL 22 m0 ac dC ⟨[b,g,e,j,l,o,r,u,y,n,p,z,A,q,D,E,B,G,F,L,I,M,J,O,R,Q,N,Y,U,Z,W,X,T,t1,t2,t3,t4,t0,tf,te,tg,t6,t5,tb,t7,tc,t8,t9,td,ta],h⟩ =
 bm (aS U T (.lit (.bool false))) h fun vK hO=>
 gd vK (
 bm (aa s.P 65 n 0) hO fun vO hV=>
 bm (ab s.P 3 vO hV) hV fun vW hS=>
 bm (aA s.P .geq 3 vW (.lit (.int .i64 0))) hS fun vY hU=>
 yO s k wl 95 Tryz.f95 dL 27 m0 ac dC ⟨[b,g,e,j,l,o,r,u,y,n,p,z,A,q,D,E,B,G,F,L,I,M,J,O,R,Q,N,Y,U,Z,W,X,T,vK,(.lit (.bool true)),vO,vW,vY,tf,te,tg,t6,t5,tb,t7,tc,t8,t9,td,ta],hU⟩) (
 yO s k wl 95 Tryz.f95 dL 27 m0 ac dC ⟨[b,g,e,j,l,o,r,u,y,n,p,z,A,q,D,E,B,G,F,L,I,M,J,O,R,Q,N,Y,U,Z,W,X,T,vK,(.lit (.bool false)),uu,uu,uu,tf,te,tg,t6,t5,tb,t7,tc,t8,t9,td,ta],hO⟩) (
 yO s k wl 95 Tryz.f95 dL 25 m0 ac dC ⟨[b,g,e,j,l,o,r,u,y,n,p,z,A,q,D,E,B,G,F,L,I,M,J,O,R,Q,N,Y,U,Z,W,X,T,vK,vK,uu,t4,t0,tf,te,tg,t6,t5,tb,t7,tc,t8,t9,td,ta],hO⟩):=kG
theorem Ub:yO s k wl 95 Tryz.f95 dL 27 m0 ac dC ⟨[b,g,e,j,l,o,r,u,y,n,p,z,A,q,D,E,B,G,F,L,I,M,J,O,R,Q,N,Y,U,Z,W,X,T,t1,t2,t3,t4,t0,tf,te,tg,t6,t5,tb,t7,tc,t8,t9,td,ta],h⟩ =
 bm (aS t2 t0 (.lit (.bool false))) h fun vP hP=>
 gd vP (
 bm (aa s.P 65 n 0) hP fun vZ ha=>
 bm (ab s.P 3 vZ ha) ha fun vc hK=>
 bm (aA s.P .lss 3 vc (.lit (.int .i64 16))) hK fun vl hj=>
 yO s k wl 95 Tryz.f95 dL 32 m0 ac dC ⟨[b,g,e,j,l,o,r,u,y,n,p,z,A,q,D,E,B,G,F,L,I,M,J,O,R,Q,N,Y,U,Z,W,X,T,t1,t2,t3,t4,t0,vP,(.lit (.bool true)),vZ,vc,vl,tb,t7,tc,t8,t9,td,ta],hj⟩) (
 yO s k wl 95 Tryz.f95 dL 32 m0 ac dC ⟨[b,g,e,j,l,o,r,u,y,n,p,z,A,q,D,E,B,G,F,L,I,M,J,O,R,Q,N,Y,U,Z,W,X,T,t1,t2,t3,t4,t0,vP,(.lit (.bool false)),uu,uu,uu,tb,t7,tc,t8,t9,td,ta],hP⟩) (
 yO s k wl 95 Tryz.f95 dL 30 m0 ac dC ⟨[b,g,e,j,l,o,r,u,y,n,p,z,A,q,D,E,B,G,F,L,I,M,J,O,R,Q,N,Y,U,Z,W,X,T,t1,t2,t3,t4,t0,vP,vP,uu,t6,t5,tb,t7,tc,t8,t9,td,ta],hP⟩):=kG
theorem S2:yO s k wl 95 Tryz.f95 dL 32 m0 ac dC ⟨[b,g,e,j,l,o,r,u,y,n,p,z,A,q,D,E,B,G,F,L,I,M,J,O,R,Q,N,Y,U,Z,W,X,T,t1,t2,t3,t4,t0,tf,te,tg,t6,t5,tb,t7,tc,t8,t9,td,ta],h⟩ =
 bm (aS te t5 (.lit (.bool false))) h fun vg hl=>
 gd vg (
 bm (aa s.P 65 n 1) hl fun vs hM=>
 bm (ab s.P 63 vs hM) hM fun vo hk=>
 bp (yC s k wl 95 false true (.fn (.func 146) [] []) [g,vo] hk) fun vv hq=>
 yO s k wl 95 Tryz.f95 dL 38 m0 ac dC ⟨[b,g,e,j,l,o,r,u,y,n,p,z,A,q,D,E,B,G,F,L,I,M,J,O,R,Q,N,Y,U,Z,W,X,T,t1,t2,t3,t4,t0,tf,te,tg,t6,t5,vg,(.lit (.bool true)),g,vs,vo,vv,ta],hq⟩) (
 yO s k wl 95 Tryz.f95 dL 38 m0 ac dC ⟨[b,g,e,j,l,o,r,u,y,n,p,z,A,q,D,E,B,G,F,L,I,M,J,O,R,Q,N,Y,U,Z,W,X,T,t1,t2,t3,t4,t0,tf,te,tg,t6,t5,vg,(.lit (.bool false)),uu,uu,uu,uu,ta],hl⟩) (
 yO s k wl 95 Tryz.f95 dL 35 m0 ac dC ⟨[b,g,e,j,l,o,r,u,y,n,p,z,A,q,D,E,B,G,F,L,I,M,J,O,R,Q,N,Y,U,Z,W,X,T,t1,t2,t3,t4,t0,tf,te,tg,t6,t5,vg,vg,uu,t8,t9,td,ta],hl⟩):=kG
theorem SV:yO s k wl 95 Tryz.f95 dL 38 m0 ac dC ⟨[b,g,e,j,l,o,r,u,y,n,p,z,A,q,D,E,B,G,F,L,I,M,J,O,R,Q,N,Y,U,Z,W,X,T,t1,t2,t3,t4,t0,tf,te,tg,t6,t5,tb,t7,tc,t8,t9,td,ta],h⟩ =
 bm (aS t7 td (.lit (.bool false))) h fun vy hx=>
 some (vy,hx):=kG
theorem Bt (cx:Cx) (s:St):aw cx K dC .ret s=K .ret s:=by kernel_rfl
-- names: ahD,Tp,TV,S7,Te,Ub,S2,SV,Bt
end
end Go.Ab
set_option maxRecDepth 100000
set_option linter.unusedVariables false
namespace Go.Ab
open Go.Proofs
section
variable (s:Sys) (k wl:Nat) (m0:Nat) (ac:List Nat×List Nat) (c d e o q j g u f y A z B F D E v G I L J N M O R T U W X Q Y Z t2 t1 t0 t3 t4 t5 tb tc t9 ta t7 t6 td te tf tg th ti tj tk tl tm tn tp tq tr ts t8:V) (h:Hp) (K:Out→St→Option (V×Hp)) (rd:Bool) (n n0:Nat) (zz:List V)
noncomputable def Ax:Code:=al (an Tryz.f17) [1,1,1,1,0,1,0,0]
noncomputable def B8:List Fr:=[.block 0,.seq (al (an Tryz.f17) [1,1,1,1,1])]
theorem Rp:ak (xX s 17 wl k false) Tryz.f17 [c,d] h =
 bp (aQ c h) fun v1 h2=>
 bp (az s.P 30 h2) fun v3 h4=>
 bp (some (.own h4.length 0 0,h4++[.rows 0 [] 0 true])) fun v5 h6=>
 bm (ab s.P 30 v1 h6) h6 fun v7 h8=>
 bp (yC s k wl 17 false true (.fn (.func 41) [] []) [v7] h8) fun v9 hA=>
 bp (az s.P 30 hA) fun vA hB=>
 bs (ai s.P wl 30 vA v9 hB) fun h13=>
 bm (ab s.P 30 v1 h13) h13 fun vz ho=>
 bp (yC s k wl 17 false true (.fn (.func 20) [] []) [vz] ho) fun vr hu=>
 bm (vUn .not vr) hu fun vn hr=>
 cnd vn (
 bm (ab s.P 30 vA hr) hr fun vd hQ=>
 bs (ai s.P wl 30 v3 vd hQ) fun hF=>
 bp (some (.own hF.length 0 0,hF++[.rows 0 [] 0 true])) fun vH hG=>
 ew [ab s.P 30 v3 hG,some vH] hG) (
 bp (some (.own hr.length 0 0,hr++[.rows 0 [] 0 true])) fun vI hJ=>
 bp (bh s.P 31 d hJ) fun vG hI=>
 yI s k wl 17 Tryz.f17 Ax hI.length B8 k ⟨[(V.kill hI.length c),(V.kill hI.length d),(V.kill hI.length v1),(V.kill hI.length uu),(V.kill hI.length v3),(V.kill hI.length v5),(V.kill hI.length vA),(V.kill hI.length vI),(V.kill hI.length uu),(V.kill hI.length uu),(V.kill hI.length v7),(V.kill hI.length v9),(V.kill hI.length vz),(V.kill hI.length vr),(V.kill hI.length vn),(V.kill hI.length uu),(V.kill hI.length d),(V.kill hI.length vG),(.lit (.int .i64 0)),.junk,.junk,.junk,.junk,.junk,.junk,.junk,.junk,.junk,.junk,.junk,.junk,.junk,.junk,.junk,.junk,(V.kill hI.length uu),(V.kill hI.length uu)],bR hI.length hI⟩):=kB
theorem S3:evF Tryz.prog xM (k+1) wl 17 [c,d] h=ak (xX (xS k) 17 wl k false) Tryz.f17 [c,d] h:=by kernel_rfl
theorem PS (P:Program):av P Tryz.f17 .ret ⟨[c,d,e,o,q,j,g,u,f,y,A,z,B,F,D,E,v,G,I,L,J,N,M,O,R,T,U,W,X,Q,Y,Z,t2,t1,t0,t3,t4],h⟩=ew [ab P 30 q h,some j] h:=by kernel_rfl
theorem H5:itX (xX s 17 wl k rd) Ax n0 K (n+1) ⟨[c,d,e,o,q,j,g,u,f,y,A,z,B,F,D,E,v,G,I,L,J,N,M,O,R,T,U,W,X,Q,Y,Z,t2,t1,t0,t3,t4],h⟩ =
 bm (aA s.P .lss 3 I G) h fun vJ hL=>
 cnd vJ (
 bm (am s.P 31 v I hL) hL fun vL hN=>
 bm (ab s.P 48 vL hN) hN fun vK hO=>
 bp (az s.P 48 hO) fun vO hV=>
 bs (ai s.P wl 48 vO vK hV) fun hT=>
 bm (ab s.P 48 vO hT) hT fun vT hb=>
 bm (aa s.P 30 e 0) hb fun vQ hd=>
 bm (aa s.P 23 vQ 0) hd fun vm hf=>
 bm (ab s.P 3 vm hf) hf fun vi hX=>
 bm (aa s.P 30 e 4) hX fun va he=>
 bm (ab s.P 28 va he) he fun vb hg=>
 bp (bh s.P 28 vb hg) fun vU hZ=>
 bp (bG (xX s 17 wl k rd) false true (.fn (.func 42) [] []) [vT,vi,vU] hZ) fun vX hi=>
 cnd vX (
 bm (ab s.P 48 vO hi) hi fun vR hp=>
 bp (bG (xX s 17 wl k rd) false true (.fn (.func 43) [] []) [g,vR] hp) fun vq ht=>
 bp (kS s.P wl 34 34 u vq ht) fun vt hz=>
 bm (aA s.P .add 3 I (.lit (.int .i64 1))) hz fun v60 h61=>
 itX (xX s 17 wl k rd) Ax n0 K n ⟨[(V.kill n0 c),(V.kill n0 d),(V.kill n0 e),(V.kill n0 o),(V.kill n0 q),(V.kill n0 j),(V.kill n0 g),(V.kill n0 vt),(V.kill n0 f),(V.kill n0 vO),(V.kill n0 A),(V.kill n0 z),(V.kill n0 B),(V.kill n0 F),(V.kill n0 D),(V.kill n0 E),(V.kill n0 v),(V.kill n0 G),(V.kill n0 v60),.junk,.junk,.junk,.junk,.junk,.junk,.junk,.junk,.junk,.junk,.junk,.junk,.junk,.junk,.junk,.junk,(V.kill n0 t3),(V.kill n0 t4)],bR n0 h61⟩) (
 bm (aA s.P .add 3 I (.lit (.int .i64 1))) hi fun vx h63=>
 itX (xX s 17 wl k rd) Ax n0 K n ⟨[(V.kill n0 c),(V.kill n0 d),(V.kill n0 e),(V.kill n0 o),(V.kill n0 q),(V.kill n0 j),(V.kill n0 g),(V.kill n0 u),(V.kill n0 f),(V.kill n0 vO),(V.kill n0 A),(V.kill n0 z),(V.kill n0 B),(V.kill n0 F),(V.kill n0 D),(V.kill n0 E),(V.kill n0 v),(V.kill n0 G),(V.kill n0 vx),.junk,.junk,.junk,.junk,.junk,.junk,.junk,.junk,.junk,.junk,.junk,.junk,.junk,.junk,.junk,.junk,(V.kill n0 t3),(V.kill n0 t4)],bR n0 h63⟩)) (
 K (.exit 0) ⟨[(V.kill n0 c),(V.kill n0 d),(V.kill n0 e),(V.kill n0 o),(V.kill n0 q),(V.kill n0 j),(V.kill n0 g),(V.kill n0 u),(V.kill n0 f),(V.kill n0 y),(V.kill n0 A),(V.kill n0 z),(V.kill n0 B),(V.kill n0 F),(V.kill n0 D),(V.kill n0 E),(V.kill n0 v),(V.kill n0 G),.junk,.junk,.junk,.junk,.junk,.junk,.junk,.junk,.junk,.junk,.junk,.junk,.junk,.junk,.junk,.junk,.junk,(V.kill n0 t3),(V.kill n0 t4)],bR n0 hL⟩):=kI
theorem pm:aw (xX s 17 wl k false) (av s.P Tryz.f17) B8 (.exit 0) ⟨[c,d,e,o,q,j,g,u,f,y,A,z,B,F,D,E,v,G,I,L,J,N,M,O,R,T,U,W,X,Q,Y,Z,t2,t1,t0,t3,t4],h⟩ =
 bm (ab s.P 30 g h) h fun vw h65=>
 bs (ai s.P wl 30 q vw h65) fun h66=>
 ew [ab s.P 30 q h66,some u] h66:=kR
theorem fC (cx:Cx) (s:St):aw cx K B8 .ret s=K .ret s:=by kernel_rfl
-- names: Rp,PS,H5,pm,fC
noncomputable def uh:Code:=al (an Tryz.f20) [1,0,0]
noncomputable def pU:List Fr:=[.seq (al (an Tryz.f20) [1,0,1]),.seq (al (an Tryz.f20) [1,1])]
noncomputable def Ud:Code:=al (an Tryz.f20) [1,1,0,1,0]
noncomputable def MN:Code:=al (an Tryz.f20) [1,1,0,1,0,0]
noncomputable def NM:Code:=al (an Tryz.f20) [1,1,0,1,0,1]
noncomputable def Jf:List Fr:=[.block 0,.seq (al (an Tryz.f20) [1,1,1])]
theorem pO:Ud= .rangeFunc (.tmp 23) #[24] MN NM:=by kernel_rfl
theorem aaf:ak (xX s 20 wl k false) Tryz.f20 [c] h =
 bp (aQ c h) fun v1 h2=>
 bp (az s.P 4 h2) fun v3 h4=>
 bm (aa s.P 30 v1 0) h4 fun v5 h6=>
 bm (ab s.P 23 v5 h6) h6 fun v7 h8=>
 bp (yC s k wl 20 false true (.fn (.func 50) [] []) [v7] h8) fun v9 hA=>
 bm (vUn .not v9) hA fun vA hB=>
 gd vA (
 yO s k wl 20 Tryz.f20 uh 12 h4.length ([],[]) pU ⟨[c,v1,v3,v5,v7,v9,vA,(.lit (.bool true)),uu,uu,uu,uu,uu,uu,uu,uu,uu,uu,uu,uu,uu,uu,uu,uu,uu,uu,uu,uu,uu,uu],hB⟩) (
 bm (aa s.P 30 v1 3) hB fun vC hC=>
 bm (ab s.P 27 vC hC) hC fun vD hD=>
 bp (bh s.P 27 vD hD) fun vB hE=>
 bm (aa s.P 30 v1 0) hE fun vE hH=>
 bm (aa s.P 23 vE 0) hH fun vF hF=>
 bm (ab s.P 3 vF hF) hF fun vH hG=>
 bm (aA s.P .neq 3 vB vH) hG fun vI hJ=>
 yO s k wl 20 Tryz.f20 uh 12 h4.length ([],[]) pU ⟨[c,v1,v3,v5,v7,v9,vA,(.lit (.bool false)),vC,vD,vB,vE,vF,vH,vI,uu,uu,uu,uu,uu,uu,uu,uu,uu,uu,uu,uu,uu,uu,uu],hJ⟩) (
 yO s k wl 20 Tryz.f20 uh 6 h4.length ([],[]) pU ⟨[c,v1,v3,v5,v7,v9,vA,vA,uu,uu,uu,uu,uu,uu,uu,uu,uu,uu,uu,uu,uu,uu,uu,uu,uu,uu,uu,uu,uu,uu],hB⟩):=kB
theorem adc:evF Tryz.prog xM (k+1) wl 20 [c] h=ak (xX (xS k) 20 wl k false) Tryz.f20 [c] h:=by kernel_rfl
theorem ZN (P:Program):av P Tryz.f20 .ret ⟨[c,d,e,o,q,j,g,u,f,y,A,z,B,F,D,E,v,G,I,L,J,N,M,O,R,T,U,W,X,Q],h⟩=ew [ab P 4 e h] h:=by kernel_rfl
theorem Ei:yO s k wl 20 Tryz.f20 uh 12 m0 ac pU ⟨(c::d::e::o::q::j::g::u::f::y::A::z::B::F::D::E::v::G::I::L::J::zz),h⟩ =
 bm (aS u (.lit (.bool true)) D) h fun vG hI=>
 gd vG (
 yO s k wl 20 Tryz.f20 uh 18 m0 ac pU ⟨(c::d::e::o::q::j::g::u::f::y::A::z::B::F::D::vG::(.lit (.bool true))::uu::uu::uu::uu::zz),hI⟩) (
 bm (aa s.P 30 d 4) hI fun vJ hL=>
 bm (ab s.P 28 vJ hL) hL fun vL hN=>
 bp (bh s.P 28 vL hN) fun vK hO=>
 bm (aA s.P .gtr 3 vK (.lit (.int .i64 3))) hO fun vO hV=>
 yO s k wl 20 Tryz.f20 uh 18 m0 ac pU ⟨(c::d::e::o::q::j::g::u::f::y::A::z::B::F::D::vG::(.lit (.bool false))::vJ::vL::vK::vO::zz),hV⟩) (
 yO s k wl 20 Tryz.f20 uh 15 m0 ac pU ⟨(c::d::e::o::q::j::g::u::f::y::A::z::B::F::D::vG::vG::uu::I::L::J::zz),hI⟩):=kG
theorem EM:yO s k wl 20 Tryz.f20 uh 18 m0 ac pU ⟨[c,d,e,o,q,j,g,u,f,y,A,z,B,F,D,E,v,G,I,L,J,N,M,O,R,T,U,W,X,Q],h⟩ =
 bm (aS v (.lit (.bool true)) J) h fun vW hS=>
 cnd vW (
 bs (ai s.P wl 4 e (.lit (.bool false)) hS) fun hb=>
 ew [ab s.P 4 e hb] hb) (
 bm (ab s.P 30 d hS) hS fun vQ hd=>
 bp (yC s k wl 20 false true (.fn (.func 51) [] []) [vQ] hd) fun vm hf=>
 bd (xX s 20 wl k false) Ud none (aw (xX s 20 wl k false) (av s.P Tryz.f20) Jf) ⟨[c,d,e,o,q,j,g,u,f,y,A,z,B,F,D,E,v,G,I,L,J,vW,vQ,vm,R,T,U,W,X,Q],hf⟩):=kG
theorem ED:aw (xX s 20 wl k false) (av s.P Tryz.f20) Jf .norm ⟨[c,d,e,o,q,j,g,u,f,y,A,z,B,F,D,E,v,G,I,L,J,N,M,O,R,T,U,W,X,Q],h⟩ =
 bm (aa s.P 30 d 4) h fun vi hX=>
 bm (ab s.P 28 vi hX) hX fun va he=>
 bp (yC s k wl 20 false true (.fn (.func 52) [] []) [va,(.fn (.func 53) [] [d])] he) fun vb hg=>
 bm (vUn .not vb) hg fun vU hZ=>
 bs (ai s.P wl 4 e vU hZ) fun hM=>
 ew [ab s.P 4 e hM] hM:=kR
theorem eA:aw (xX s 20 wl k rd) K [.seq NM] .norm ⟨(c::d::e::zz),h⟩ =
 bs (ai s.P wl 4 e (.lit (.bool false)) h) fun hi=>
 K .ret ⟨(c::d::e::zz),hi⟩:=kR
theorem eB:aw (xX s 20 wl k rd) K [.seq MN] .norm ⟨(c::zz),h⟩ =
 K .norm ⟨(c::zz),h⟩:=kR
theorem l8 (cx:Cx) (s:St):aw cx K pU .ret s=K .ret s:=by kernel_rfl
theorem lB (cx:Cx) (s:St):aw cx K Jf .ret s=K .ret s:=by kernel_rfl
-- names: aaf,ZN,Ei,EM,ED,eA,eB,l8,lB
-- range over a function at [1,1,0,1,0]
theorem ahv:ak (xX s 24 wl k false) Tryz.f24 [c,d] h =
 bp (aQ c h) fun v1 h2=>
 bp (aQ d h2) fun v3 h4=>
 bp (az s.P 30 h4) fun v5 h6=>
 bp (some (.own h6.length 0 0,h6++[.rows 0 [] 0 true])) fun v7 h8=>
 bm (ab s.P 30 v1 h8) h8 fun v9 hA=>
 bm (ab s.P 48 v3 hA) hA fun vA hB=>
 bp (aF s.P wl 31 1 [(0,vA)] hB) fun vC hC=>
 bp (yC s k wl 24 false true (.fn (.func 17) [] []) [v9,vC] hC) fun vD hD=>
 bm (ar vD 0) hD fun vB hE=>
 bm (ar vD 1) hE fun vE hH=>
 bs (ai s.P wl 30 v5 vB hH) fun hQ=>
 ew [ab s.P 30 v5 hQ,some vE] hQ:=kB
theorem aif:evF Tryz.prog xM (k+1) wl 24 [c,d] h=ak (xX (xS k) 24 wl k false) Tryz.f24 [c,d] h:=by kernel_rfl
-- names: ahv,
noncomputable def H8:Code:=al (an Tryz.f25) [1,0,0]
noncomputable def ER:List Fr:=[.seq (al (an Tryz.f25) [1,0,1]),.seq (al (an Tryz.f25) [1,1])]
noncomputable def un:Code:=al (an Tryz.f25) [1,1,0,1,0,0]
noncomputable def Iw:List Fr:=[.block 0,.seq (al (an Tryz.f25) [1,1,1])]
noncomputable def IG:Code:=al (an Tryz.f25) [1,1,0,1,0,0,1,1,0,0,1,0]
noncomputable def Ea:List Fr:=[.seq (al (an Tryz.f25) [1,1,0,1,0,0,1,1,0,0,1,1]),.block 1,.seq (al (an Tryz.f25) [1,1,0,1,0,0,1,1,1])]
theorem afY:ak (xX s 25 wl k false) Tryz.f25 [c] h =
 bp (aQ c h) fun v1 h2=>
 bm (ab s.P 30 v1 h2) h2 fun v3 h4=>
 bp (yC s k wl 25 false true (.fn (.func 20) [] []) [v3] h4) fun v5 h6=>
 bm (vUn .not v5) h6 fun v7 h8=>
 gd v7 (
 yO s k wl 25 Tryz.f25 H8 7 h2.length ([],[]) ER ⟨[c,v1,(.lit (.bool false)),uu,uu,v3,v5,v7,(.lit (.bool true)),uu,uu,uu,uu,uu,uu,uu,uu,uu,uu,uu,uu,uu,uu,uu,uu,uu,uu,uu,uu,uu,uu,uu,uu,uu,uu],h8⟩) (
 bm (aa s.P 30 v1 4) h8 fun v9 hA=>
 bm (ab s.P 28 v9 hA) hA fun vA hB=>
 bp (yC s k wl 25 false true (.fn (.func 52) [] []) [vA,(.fn (.func 28) [] [])] hB) fun vC hC=>
 yO s k wl 25 Tryz.f25 H8 7 h2.length ([],[]) ER ⟨[c,v1,(.lit (.bool false)),uu,uu,v3,v5,v7,(.lit (.bool false)),v9,vA,vC,uu,uu,uu,uu,uu,uu,uu,uu,uu,uu,uu,uu,uu,uu,uu,uu,uu,uu,uu,uu,uu,uu,uu],hC⟩) (
 yO s k wl 25 Tryz.f25 H8 5 h2.length ([],[]) ER ⟨[c,v1,(.lit (.bool false)),uu,uu,v3,v5,v7,v7,uu,uu,uu,uu,uu,uu,uu,uu,uu,uu,uu,uu,uu,uu,uu,uu,uu,uu,uu,uu,uu,uu,uu,uu,uu,uu],h8⟩):=kB
theorem ahM:evF Tryz.prog xM (k+1) wl 25 [c] h=ak (xX (xS k) 25 wl k false) Tryz.f25 [c] h:=by kernel_rfl
theorem adk (P:Program):av P Tryz.f25 .ret ⟨[c,d,e,o,q,j,g,u,f,y,A,z,B,F,D,E,v,G,I,L,J,N,M,O,R,T,U,W,X,Q,Y,Z,t2,t1,t0],h⟩=some (e,h):=by kernel_rfl
theorem Mi:yO s k wl 25 Tryz.f25 H8 7 m0 ac ER ⟨[c,d,e,o,q,j,g,u,f,y,A,z,B,F,D,E,v,G,I,L,J,N,M,O,R,T,U,W,X,Q,Y,Z,t2,t1,t0],h⟩ =
 bm (aS f (.lit (.bool true)) z) h fun vD hD=>
 cnd vD (
 some ((.lit (.bool false)),hD)) (
 bm (aa s.P 30 d 3) hD fun vB hE=>
 bm (ab s.P 27 vB hE) hE fun vE hH=>
 bp (bh s.P 27 vE hH) fun vF hF=>
 yI s k wl 25 Tryz.f25 un hF.length Iw k ⟨[(V.kill hF.length c),(V.kill hF.length d),(V.kill hF.length e),(V.kill hF.length o),(V.kill hF.length q),(V.kill hF.length j),(V.kill hF.length g),(V.kill hF.length u),(V.kill hF.length f),(V.kill hF.length y),(V.kill hF.length A),(V.kill hF.length z),(V.kill hF.length vD),(V.kill hF.length vB),(V.kill hF.length vE),(V.kill hF.length vF),(.lit (.int .i64 0)),.junk,.junk,.junk,.junk,.junk,.junk,.junk,.junk,.junk,.junk,.junk,.junk,.junk,.junk,.junk,.junk,.junk,.junk],bR hF.length hF⟩):=kG
theorem TM:itX (xX s 25 wl k rd) un n0 K (n+1) ⟨[c,d,e,o,q,j,g,u,f,y,A,z,B,F,D,E,v,G,I,L,J,N,M,O,R,T,U,W,X,Q,Y,Z,t2,t1,t0],h⟩ =
 bm (aA s.P .lss 3 v E) h fun vH hG=>
 cnd vH (
 bm (am s.P 27 D v hG) hG fun vI hJ=>
 bm (ab s.P 65 vI hJ) hJ fun vG hI=>
 bp (az s.P 65 hI) fun vJ hL=>
 bs (ai s.P wl 65 vJ vG hL) fun hY=>
 bm (ab s.P 65 vJ hY) hY fun ve hh=>
 bp (bG (xX s 25 wl k rd) false true (.fn (.func 31) [] []) [ve] hh) fun vf hW=>
 bm (vUn .not vf) hW fun vM hT=>
 gd vM (
 dK (xX s 25 wl k rd) IG 12 hY.length ([],[]) (aw (xX s 25 wl k rd) (eg (xX s 25 wl k rd) un n0 K n) Ea) ⟨[c,d,e,v,vJ,j,g,u,f,y,A,z,B,F,D,E,v,vH,v,vI,vG,ve,vf,vM,(.lit (.bool true)),uu,uu,uu,uu,uu,uu,uu,uu,t1,t0],hT⟩) (
 bm (aa s.P 30 d 2) hT fun vT hb=>
 stO hY.length vT (
 bm (ab s.P 26 vT hb) hb fun vQ hd=>
 bm (aa s.P 30 d 0) hd fun vm hf=>
 bm (ab s.P 23 vm hf) hf fun vi hX=>
 bp (bG (xX s 25 wl k rd) true true (.fn (.func 32) [] []) [vi,v] hX) fun va he=>
 bp (bG (xX s 25 wl k rd) false true (.fn (.func 27) [] []) [vQ,va] he) fun vb hg=>
 bm (aA s.P .neq 46 vb (.lit (.int .u64 0))) hg fun vU hZ=>
 dK (xX s 25 wl k rd) IG 12 hY.length ([],[]) (aw (xX s 25 wl k rd) (eg (xX s 25 wl k rd) un n0 K n) Ea) ⟨[c,d,e,v,vJ,j,g,u,f,y,A,z,B,F,D,E,v,vH,v,vI,vG,ve,vf,vM,(.lit (.bool false)),vT,vQ,vm,vi,v,va,vb,vU,t1,t0],hZ⟩)) (
 dK (xX s 25 wl k rd) IG 5 hY.length ([],[]) (aw (xX s 25 wl k rd) (eg (xX s 25 wl k rd) un n0 K n) Ea) ⟨[c,d,e,v,vJ,j,g,u,f,y,A,z,B,F,D,E,v,vH,v,vI,vG,ve,vf,vM,vM,uu,U,W,X,Q,Y,Z,t2,t1,t0],hT⟩)) (
 K (.exit 0) ⟨[(V.kill n0 c),(V.kill n0 d),(V.kill n0 e),(V.kill n0 o),(V.kill n0 q),(V.kill n0 j),(V.kill n0 g),(V.kill n0 u),(V.kill n0 f),(V.kill n0 y),(V.kill n0 A),(V.kill n0 z),(V.kill n0 B),(V.kill n0 F),(V.kill n0 D),(V.kill n0 E),.junk,.junk,.junk,.junk,.junk,.junk,.junk,.junk,.junk,.junk,.junk,.junk,.junk,.junk,.junk,.junk,.junk,.junk,.junk],bR n0 hG⟩):=kI
theorem L8:aw (xX s 25 wl k false) (av s.P Tryz.f25) Iw (.exit 0) ⟨[c,d,e,o,q,j,g,u,f,y,A,z,B,F,D,E,v,G,I,L,J,N,M,O,R,T,U,W,X,Q,Y,Z,t2,t1,t0],h⟩ =
 some ((.lit (.bool true)),h):=kR
theorem Li:dK (xX s 25 wl k rd) IG 12 m0 ac (aw (xX s 25 wl k rd) (eg (xX s 25 wl k rd) un n0 K n) Ea) ⟨[c,d,e,o,q,j,g,u,f,y,A,z,B,F,D,E,v,G,I,L,J,N,M,O,R,T,U,W,X,Q,Y,Z,t2,t1,t0],h⟩ =
 bm (aS R (.lit (.bool true)) t2) h fun vX hi=>
 cnd vX (
 K .ret ⟨[c,d,(.lit (.bool false)),o,q,j,g,u,f,y,A,z,B,F,D,E,v,G,I,L,J,N,M,O,R,T,U,W,X,Q,Y,Z,t2,vX,t0],hi⟩) (
 bm (aA s.P .add 3 v (.lit (.int .i64 1))) hi fun vR hp=>
 itX (xX s 25 wl k rd) un n0 K n ⟨[(V.kill n0 c),(V.kill n0 d),(V.kill n0 e),(V.kill n0 o),(V.kill n0 q),(V.kill n0 j),(V.kill n0 g),(V.kill n0 u),(V.kill n0 f),(V.kill n0 y),(V.kill n0 A),(V.kill n0 z),(V.kill n0 B),(V.kill n0 F),(V.kill n0 D),(V.kill n0 E),(V.kill n0 vR),.junk,.junk,.junk,.junk,.junk,.junk,.junk,.junk,.junk,.junk,.junk,.junk,.junk,.junk,.junk,.junk,.junk,.junk],bR n0 hp⟩):=kG
theorem ru (cx:Cx) (s:St):aw cx K ER .ret s=K .ret s:=by kernel_rfl
theorem r9 (cx:Cx) (s:St):aw cx K Iw .ret s=K .ret s:=by kernel_rfl
theorem r6 (cx:Cx) (s:St):aw cx K Ea .ret s=K .ret s:=by kernel_rfl
-- names: afY,adk,Mi,TM,L8,Li,ru,r9,r6
noncomputable def Je:Code:=al (an Tryz.f26) [1,1,1,0,1,0,0]
noncomputable def Io:List Fr:=[.block 0,.seq (al (an Tryz.f26) [1,1,1,1])]
theorem aft:ak (xX s 26 wl k false) Tryz.f26 [c] h =
 bp (aQ c h) fun v1 h2=>
 bm (ab s.P 30 v1 h2) h2 fun v3 h4=>
 bp (yC s k wl 26 false true (.fn (.func 20) [] []) [v3] h4) fun v5 h6=>
 bm (vUn .not v5) h6 fun v7 h8=>
 cnd v7 (
 some ((.lit (.int .i64 0)),h8)) (
 bm (aa s.P 30 v1 0) h8 fun v9 hA=>
 bm (ab s.P 23 v9 hA) hA fun vA hB=>
 bm (aa s.P 30 v1 2) hB fun vC hC=>
 bm (ab s.P 26 vC hC) hC fun vD hD=>
 bp (yC s k wl 26 false true (.fn (.func 64) [] []) [vA,vD] hD) fun vB hE=>
 bm (aa s.P 30 v1 0) hE fun vE hH=>
 bm (aa s.P 23 vE 0) hH fun vF hF=>
 bm (ab s.P 3 vF hF) hF fun vH hG=>
 yI s k wl 26 Tryz.f26 Je hG.length Io k ⟨[(V.kill hG.length c),(V.kill hG.length v1),(.lit (.int .i64 0)),(V.kill hG.length vB),(V.kill hG.length uu),(V.kill hG.length uu),(V.kill hG.length uu),(V.kill hG.length v3),(V.kill hG.length v5),(V.kill hG.length v7),(V.kill hG.length v9),(V.kill hG.length vA),(V.kill hG.length vC),(V.kill hG.length vD),(V.kill hG.length vB),(V.kill hG.length vE),(V.kill hG.length vF),(V.kill hG.length vH),(.lit (.int .i64 0)),.junk,.junk,.junk,.junk,.junk,.junk,.junk,.junk,.junk,.junk,.junk,.junk,.junk,.junk,.junk,.junk,(V.kill hG.length uu)],bR hG.length hG⟩):=kB
theorem ahJ:evF Tryz.prog xM (k+1) wl 26 [c] h=ak (xX (xS k) 26 wl k false) Tryz.f26 [c] h:=by kernel_rfl
theorem adD (P:Program):av P Tryz.f26 .ret ⟨[c,d,e,o,q,j,g,u,f,y,A,z,B,F,D,E,v,G,I,L,J,N,M,O,R,T,U,W,X,Q,Y,Z,t2,t1,t0,t3],h⟩=some (e,h):=by kernel_rfl
theorem TZ:itX (xX s 26 wl k rd) Je n0 K (n+1) ⟨[c,d,e,o,q,j,g,u,f,y,A,z,B,F,D,E,v,G,I,L,J,N,M,O,R,T,U,W,X,Q,Y,Z,t2,t1,t0,t3],h⟩ =
 bm (aA s.P .lss 3 I G) h fun vI hJ=>
 cnd vI (
 bm (aa s.P 30 d 0) hJ fun vG hI=>
 bm (ab s.P 23 vG hI) hI fun vJ hL=>
 bm (aa s.P 30 d 2) hL fun vL hN=>
 bm (ab s.P 26 vL hN) hN fun vK hO=>
 bp (bG (xX s 26 wl k rd) false true (.fn (.func 65) [] []) [vJ,vK,I] hO) fun vO hV=>
 bm (ar vO 0) hV fun vW hS=>
 bm (ar vO 1) hS fun vY hU=>
 bp (bh s.P 25 vW hU) fun vP hP=>
 bm (aA s.P .add 3 o vP) hP fun vZ ha=>
 bm (aA s.P .add 3 I (.lit (.int .i64 1))) ha fun vc hK=>
 itX (xX s 26 wl k rd) Je n0 K n ⟨[(V.kill n0 c),(V.kill n0 d),(V.kill n0 e),(V.kill n0 vZ),(V.kill n0 I),(V.kill n0 vW),(V.kill n0 vY),(V.kill n0 u),(V.kill n0 f),(V.kill n0 y),(V.kill n0 A),(V.kill n0 z),(V.kill n0 B),(V.kill n0 F),(V.kill n0 D),(V.kill n0 E),(V.kill n0 v),(V.kill n0 G),(V.kill n0 vc),.junk,.junk,.junk,.junk,.junk,.junk,.junk,.junk,.junk,.junk,.junk,.junk,.junk,.junk,.junk,.junk,(V.kill n0 t3)],bR n0 hK⟩) (
 K (.exit 0) ⟨[(V.kill n0 c),(V.kill n0 d),(V.kill n0 e),(V.kill n0 o),(V.kill n0 q),(V.kill n0 j),(V.kill n0 g),(V.kill n0 u),(V.kill n0 f),(V.kill n0 y),(V.kill n0 A),(V.kill n0 z),(V.kill n0 B),(V.kill n0 F),(V.kill n0 D),(V.kill n0 E),(V.kill n0 v),(V.kill n0 G),.junk,.junk,.junk,.junk,.junk,.junk,.junk,.junk,.junk,.junk,.junk,.junk,.junk,.junk,.junk,.junk,.junk,(V.kill n0 t3)],bR n0 hJ⟩):=kI
theorem NJ:aw (xX s 26 wl k false) (av s.P Tryz.f26) Io (.exit 0) ⟨[c,d,e,o,q,j,g,u,f,y,A,z,B,F,D,E,v,G,I,L,J,N,M,O,R,T,U,W,X,Q,Y,Z,t2,t1,t0,t3],h⟩ =
 some (o,h):=kR
theorem rj (cx:Cx) (s:St):aw cx K Io .ret s=K .ret s:=by kernel_rfl
-- names: aft,adD,TZ,NJ,rj
noncomputable def um:Code:=al (an Tryz.f29) [1,0]
noncomputable def oX:List Fr:=[.seq (al (an Tryz.f29) [1,1])]
theorem ahh:ak (xX s 29 wl k false) Tryz.f29 [c] h =
 bp (aQ c h) fun v1 h2=>
 bm (ab s.P 30 v1 h2) h2 fun v3 h4=>
 bp (yC s k wl 29 false true (.fn (.func 25) [] []) [v3] h4) fun v5 h6=>
 gd v5 (
 bm (aa s.P 30 v1 2) h6 fun v7 h8=>
 bm (ab s.P 26 v7 h8) h8 fun v9 hA=>
 bp (yC s k wl 29 false true (.fn (.func 27) [] []) [v9,(.lit (.int .i64 0))] hA) fun vA hB=>
 bm (aA s.P .eql 46 vA (.lit (.int .u64 0))) hB fun vC hC=>
 yO s k wl 29 Tryz.f29 um 7 h2.length ([],[]) oX ⟨[c,v1,(.lit (.bool false)),v3,v5,(.lit (.bool true)),v7,v9,vA,vC,uu,uu,uu,uu,uu,uu,uu],hC⟩) (
 yO s k wl 29 Tryz.f29 um 7 h2.length ([],[]) oX ⟨[c,v1,(.lit (.bool false)),v3,v5,(.lit (.bool false)),uu,uu,uu,uu,uu,uu,uu,uu,uu,uu,uu],h6⟩) (
 yO s k wl 29 Tryz.f29 um 4 h2.length ([],[]) oX ⟨[c,v1,(.lit (.bool false)),v3,v5,v5,uu,uu,uu,uu,uu,uu,uu,uu,uu,uu,uu],h6⟩):=kB
theorem aiA:evF Tryz.prog xM (k+1) wl 29 [c] h=ak (xX (xS k) 29 wl k false) Tryz.f29 [c] h:=by kernel_rfl
theorem TA:yO s k wl 29 Tryz.f29 um 7 m0 ac oX ⟨[c,d,e,o,q,j,g,u,f,y,A,z,B,F,D,E,v],h⟩ =
 bm (aS j y (.lit (.bool false))) h fun vD hD=>
 gd vD (
 bm (aa s.P 30 d 4) hD fun vB hE=>
 bm (ab s.P 28 vB hE) hE fun vE hH=>
 bp (yC s k wl 29 false true (.fn (.func 52) [] []) [vE,(.fn (.func 67) [] [])] hH) fun vF hF=>
 bm (vUn .not vF) hF fun vH hG=>
 yO s k wl 29 Tryz.f29 um 13 m0 ac oX ⟨[c,d,e,o,q,j,g,u,f,y,vD,(.lit (.bool true)),vB,vE,vF,vH,v],hG⟩) (
 yO s k wl 29 Tryz.f29 um 13 m0 ac oX ⟨[c,d,e,o,q,j,g,u,f,y,vD,(.lit (.bool false)),uu,uu,uu,uu,v],hD⟩) (
 yO s k wl 29 Tryz.f29 um 10 m0 ac oX ⟨[c,d,e,o,q,j,g,u,f,y,vD,vD,uu,F,D,E,v],hD⟩):=kG
theorem TL:yO s k wl 29 Tryz.f29 um 13 m0 ac oX ⟨[c,d,e,o,q,j,g,u,f,y,A,z,B,F,D,E,v],h⟩ =
 bm (aS z E (.lit (.bool false))) h fun vI hJ=>
 some (vI,hJ):=kG
theorem Ce (cx:Cx) (s:St):aw cx K oX .ret s=K .ret s:=by kernel_rfl
-- names: ahh,TA,TL,Ce
noncomputable def Ju:Code:=al (an Tryz.f41) [1,1,1,0,1,0,0]
noncomputable def I3:List Fr:=[.block 0,.seq (al (an Tryz.f41) [1,1,1,1])]
noncomputable def Jq:Code:=al (an Tryz.f41) [1,1,1,1,0,1,0,0]
noncomputable def Ix:List Fr:=[.block 2,.seq (al (an Tryz.f41) [1,1,1,1,1])]
theorem Ph:ak (xX s 41 wl k false) Tryz.f41 [c] h =
 bp (aQ c h) fun v1 h2=>
 bp (az s.P 30 h2) fun v3 h4=>
 bm (aa s.P 30 v1 1) h4 fun v5 h6=>
 bm (ab s.P 24 v5 h6) h6 fun v7 h8=>
 bp (yC s k wl 41 true true (.fn (.func 58) [] []) [v7] h8) fun v9 hA=>
 bm (aa s.P 30 v1 2) hA fun vA hB=>
 stO h4.length vA (
 bm (ab s.P 26 vA hB) hB fun vC hC=>
 bp (yC s k wl 41 false true (.fn (.func 76) [] []) [vC] hC) fun vD hD=>
 bm (aa s.P 30 v1 1) hD fun vB hE=>
 bs (ai s.P wl 24 vB v9 hE) fun hr=>
 bm (aa s.P 30 v1 2) hr fun vd hQ=>
 bs (ai s.P wl 26 vd vD hQ) fun hF=>
 bm (aa s.P 30 v1 3) hF fun vH hG=>
 bm (ab s.P 27 vH hG) hG fun vI hJ=>
 bp (yC s k wl 41 true true (.fn (.func 77) [] []) [vI] hJ) fun vG hI=>
 bm (aa s.P 30 v1 4) hI fun vJ hL=>
 stO hF.length vJ (
 bm (ab s.P 28 vJ hL) hL fun vL hN=>
 bp (yC s k wl 41 false true (.fn (.func 78) [] []) [vL] hN) fun vK hO=>
 bm (aa s.P 30 v1 3) hO fun vO hV=>
 bs (ai s.P wl 27 vO vG hV) fun hT=>
 bm (aa s.P 30 v1 4) hT fun vT hb=>
 bs (ai s.P wl 28 vT vK hb) fun hU=>
 bm (aa s.P 30 v1 3) hU fun vP hP=>
 bm (ab s.P 27 vP hP) hP fun vZ ha=>
 bp (bh s.P 27 vZ ha) fun vc hK=>
 yI s k wl 41 Tryz.f41 Ju hK.length I3 k ⟨[(V.kill hK.length c),(V.kill hK.length v1),(V.kill hK.length v3),(V.kill hK.length uu),(V.kill hK.length uu),(V.kill hK.length v5),(V.kill hK.length v7),(V.kill hK.length v9),(V.kill hK.length vA),(V.kill hK.length vC),(V.kill hK.length vD),(V.kill hK.length vB),(V.kill hK.length vd),(V.kill hK.length vH),(V.kill hK.length vI),(V.kill hK.length vG),(V.kill hK.length vJ),(V.kill hK.length vL),(V.kill hK.length vK),(V.kill hK.length vO),(V.kill hK.length vT),(V.kill hK.length vP),(V.kill hK.length vZ),(V.kill hK.length vc),(.lit (.int .i64 0)),.junk,.junk,.junk,.junk,.junk,.junk,.junk,.junk,.junk,.junk,.junk,.junk,.junk,.junk,.junk,(V.kill hK.length uu),(V.kill hK.length uu),(V.kill hK.length uu),(V.kill hK.length uu),(V.kill hK.length uu),(V.kill hK.length uu),(V.kill hK.length uu),(V.kill hK.length uu),(V.kill hK.length uu),(V.kill hK.length uu),(V.kill hK.length uu),(V.kill hK.length uu),(V.kill hK.length uu),(V.kill hK.length uu),(V.kill hK.length uu),(V.kill hK.length uu),(V.kill hK.length uu),(V.kill hK.length uu),(V.kill hK.length uu),(V.kill hK.length uu)],bR hK.length hK⟩)):=kB
theorem TR:evF Tryz.prog xM (k+1) wl 41 [c] h=ak (xX (xS k) 41 wl k false) Tryz.f41 [c] h:=by kernel_rfl
theorem PF (P:Program):av P Tryz.f41 .ret ⟨[c,d,e,o,q,j,g,u,f,y,A,z,B,F,D,E,v,G,I,L,J,N,M,O,R,T,U,W,X,Q,Y,Z,t2,t1,t0,t3,t4,t5,tb,tc,t9,ta,t7,t6,td,te,tf,tg,th,ti,tj,tk,tl,tm,tn,tp,tq,tr,ts,t8],h⟩=ew [ab P 30 e h] h:=by kernel_rfl
theorem Uh:itX (xX s 41 wl k rd) Ju n0 K (n+1) ⟨[c,d,e,o,q,j,g,u,f,y,A,z,B,F,D,E,v,G,I,L,J,N,M,O,R,T,U,W,X,Q,Y,Z,t2,t1,t0,t3,t4,t5,tb,tc,t9,ta,t7,t6,td,te,tf,tg,th,ti,tj,tk,tl,tm,tn,tp,tq,tr,ts,t8],h⟩ =
 bm (aA s.P .lss 3 R O) h fun vl hj=>
 cnd vl (
 bm (aa s.P 30 d 3) hj fun vg hl=>
 stO hj.length vg (
 bm (ab s.P 27 vg hl) hl fun vs hM=>
 bm (aa s.P 30 d 3) hM fun vo hk=>
 bm (ab s.P 27 vo hk) hk fun vv hq=>
 bm (am s.P 27 vv R hq) hq fun vy hx=>
 bm (aa s.P 65 vy 1) hx fun v59 hy=>
 bm (ab s.P 63 v59 hy) hy fun v61 hw=>
 bp (bG (xX s 41 wl k rd) true true (.fn (.func 79) [] []) [v61] hw) fun v63 h64=>
 bm (am s.P 27 vs R h64) h64 fun v65 h66=>
 bm (aa s.P 65 v65 1) h66 fun v67 h68=>
 bs (ai s.P wl 63 v67 v63 h68) fun h69=>
 bm (aA s.P .add 3 R (.lit (.int .i64 1))) h69 fun v70 h71=>
 itX (xX s 41 wl k rd) Ju n0 K n ⟨[(V.kill n0 c),(V.kill n0 d),(V.kill n0 e),(V.kill n0 R),(V.kill n0 q),(V.kill n0 j),(V.kill n0 g),(V.kill n0 u),(V.kill n0 f),(V.kill n0 y),(V.kill n0 A),(V.kill n0 z),(V.kill n0 B),(V.kill n0 F),(V.kill n0 D),(V.kill n0 E),(V.kill n0 v),(V.kill n0 G),(V.kill n0 I),(V.kill n0 L),(V.kill n0 J),(V.kill n0 N),(V.kill n0 M),(V.kill n0 O),(V.kill n0 v70),.junk,.junk,.junk,.junk,.junk,.junk,.junk,.junk,.junk,.junk,.junk,.junk,.junk,.junk,.junk,(V.kill n0 t9),(V.kill n0 ta),(V.kill n0 t7),(V.kill n0 t6),(V.kill n0 td),(V.kill n0 te),(V.kill n0 tf),(V.kill n0 tg),(V.kill n0 th),(V.kill n0 ti),(V.kill n0 tj),(V.kill n0 tk),(V.kill n0 tl),(V.kill n0 tm),(V.kill n0 tn),(V.kill n0 tp),(V.kill n0 tq),(V.kill n0 tr),(V.kill n0 ts),(V.kill n0 t8)],bR n0 h71⟩)) (
 K (.exit 0) ⟨[(V.kill n0 c),(V.kill n0 d),(V.kill n0 e),(V.kill n0 o),(V.kill n0 q),(V.kill n0 j),(V.kill n0 g),(V.kill n0 u),(V.kill n0 f),(V.kill n0 y),(V.kill n0 A),(V.kill n0 z),(V.kill n0 B),(V.kill n0 F),(V.kill n0 D),(V.kill n0 E),(V.kill n0 v),(V.kill n0 G),(V.kill n0 I),(V.kill n0 L),(V.kill n0 J),(V.kill n0 N),(V.kill n0 M),(V.kill n0 O),.junk,.junk,.junk,.junk,.junk,.junk,.junk,.junk,.junk,.junk,.junk,.junk,.junk,.junk,.junk,.junk,(V.kill n0 t9),(V.kill n0 ta),(V.kill n0 t7),(V.kill n0 t6),(V.kill n0 td),(V.kill n0 te),(V.kill n0 tf),(V.kill n0 tg),(V.kill n0 th),(V.kill n0 ti),(V.kill n0 tj),(V.kill n0 tk),(V.kill n0 tl),(V.kill n0 tm),(V.kill n0 tn),(V.kill n0 tp),(V.kill n0 tq),(V.kill n0 tr),(V.kill n0 ts),(V.kill n0 t8)],bR n0 hj⟩):=kI
theorem pN:aw (xX s 41 wl k false) (av s.P Tryz.f41) I3 (.exit 0) ⟨[c,d,e,o,q,j,g,u,f,y,A,z,B,F,D,E,v,G,I,L,J,N,M,O,R,T,U,W,X,Q,Y,Z,t2,t1,t0,t3,t4,t5,tb,tc,t9,ta,t7,t6,td,te,tf,tg,th,ti,tj,tk,tl,tm,tn,tp,tq,tr,ts,t8],h⟩ =
 bm (aa s.P 30 d 4) h fun v72 h73=>
 bm (ab s.P 28 v72 h73) h73 fun v74 h75=>
 bp (bh s.P 28 v74 h75) fun v76 hR=>
 yI s k wl 41 Tryz.f41 Jq hR.length Ix k ⟨[(V.kill hR.length c),(V.kill hR.length d),(V.kill hR.length e),(V.kill hR.length o),(V.kill hR.length q),(V.kill hR.length j),(V.kill hR.length g),(V.kill hR.length u),(V.kill hR.length f),(V.kill hR.length y),(V.kill hR.length A),(V.kill hR.length z),(V.kill hR.length B),(V.kill hR.length F),(V.kill hR.length D),(V.kill hR.length E),(V.kill hR.length v),(V.kill hR.length G),(V.kill hR.length I),(V.kill hR.length L),(V.kill hR.length J),(V.kill hR.length N),(V.kill hR.length M),(V.kill hR.length O),(V.kill hR.length R),(V.kill hR.length T),(V.kill hR.length U),(V.kill hR.length W),(V.kill hR.length X),(V.kill hR.length Q),(V.kill hR.length Y),(V.kill hR.length Z),(V.kill hR.length t2),(V.kill hR.length t1),(V.kill hR.length t0),(V.kill hR.length t3),(V.kill hR.length t4),(V.kill hR.length t5),(V.kill hR.length tb),(V.kill hR.length tc),(V.kill hR.length v72),(V.kill hR.length v74),(V.kill hR.length v76),(.lit (.int .i64 0)),.junk,.junk,.junk,.junk,.junk,.junk,.junk,.junk,.junk,.junk,.junk,.junk,.junk,.junk,.junk,(V.kill hR.length t8)],bR hR.length hR⟩:=kR
theorem SA:itX (xX s 41 wl k rd) Jq n0 K (n+1) ⟨[c,d,e,o,q,j,g,u,f,y,A,z,B,F,D,E,v,G,I,L,J,N,M,O,R,T,U,W,X,Q,Y,Z,t2,t1,t0,t3,t4,t5,tb,tc,t9,ta,t7,t6,td,te,tf,tg,th,ti,tj,tk,tl,tm,tn,tp,tq,tr,ts,t8],h⟩ =
 bm (aA s.P .lss 3 t6 t7) h fun v78 h79=>
 cnd v78 (
 bm (aa s.P 30 d 4) h79 fun v80 h81=>
 stO h79.length v80 (
 bm (ab s.P 28 v80 h81) h81 fun v82 h83=>
 bm (aa s.P 30 d 4) h83 fun v84 h85=>
 bm (ab s.P 28 v84 h85) h85 fun v86 h87=>
 bm (am s.P 28 v86 t6 h87) h87 fun v88 h89=>
 bm (aa s.P 57 v88 1) h89 fun v90 h91=>
 bm (ab s.P 53 v90 h91) h91 fun v92 h93=>
 bp (bG (xX s 41 wl k rd) true true (.fn (.func 80) [] []) [v92] h93) fun v94 h95=>
 bm (am s.P 28 v82 t6 h95) h95 fun v96 h97=>
 bm (aa s.P 57 v96 1) h97 fun v98 h99=>
 bs (ai s.P wl 53 v98 v94 h99) fun h100=>
 bm (aA s.P .add 3 t6 (.lit (.int .i64 1))) h100 fun vj h102=>
 itX (xX s 41 wl k rd) Jq n0 K n ⟨[(V.kill n0 c),(V.kill n0 d),(V.kill n0 e),(V.kill n0 o),(V.kill n0 t6),(V.kill n0 j),(V.kill n0 g),(V.kill n0 u),(V.kill n0 f),(V.kill n0 y),(V.kill n0 A),(V.kill n0 z),(V.kill n0 B),(V.kill n0 F),(V.kill n0 D),(V.kill n0 E),(V.kill n0 v),(V.kill n0 G),(V.kill n0 I),(V.kill n0 L),(V.kill n0 J),(V.kill n0 N),(V.kill n0 M),(V.kill n0 O),(V.kill n0 R),(V.kill n0 T),(V.kill n0 U),(V.kill n0 W),(V.kill n0 X),(V.kill n0 Q),(V.kill n0 Y),(V.kill n0 Z),(V.kill n0 t2),(V.kill n0 t1),(V.kill n0 t0),(V.kill n0 t3),(V.kill n0 t4),(V.kill n0 t5),(V.kill n0 tb),(V.kill n0 tc),(V.kill n0 t9),(V.kill n0 ta),(V.kill n0 t7),(V.kill n0 vj),.junk,.junk,.junk,.junk,.junk,.junk,.junk,.junk,.junk,.junk,.junk,.junk,.junk,.junk,.junk,(V.kill n0 t8)],bR n0 h102⟩)) (
 K (.exit 2) ⟨[(V.kill n0 c),(V.kill n0 d),(V.kill n0 e),(V.kill n0 o),(V.kill n0 q),(V.kill n0 j),(V.kill n0 g),(V.kill n0 u),(V.kill n0 f),(V.kill n0 y),(V.kill n0 A),(V.kill n0 z),(V.kill n0 B),(V.kill n0 F),(V.kill n0 D),(V.kill n0 E),(V.kill n0 v),(V.kill n0 G),(V.kill n0 I),(V.kill n0 L),(V.kill n0 J),(V.kill n0 N),(V.kill n0 M),(V.kill n0 O),(V.kill n0 R),(V.kill n0 T),(V.kill n0 U),(V.kill n0 W),(V.kill n0 X),(V.kill n0 Q),(V.kill n0 Y),(V.kill n0 Z),(V.kill n0 t2),(V.kill n0 t1),(V.kill n0 t0),(V.kill n0 t3),(V.kill n0 t4),(V.kill n0 t5),(V.kill n0 tb),(V.kill n0 tc),(V.kill n0 t9),(V.kill n0 ta),(V.kill n0 t7),.junk,.junk,.junk,.junk,.junk,.junk,.junk,.junk,.junk,.junk,.junk,.junk,.junk,.junk,.junk,.junk,(V.kill n0 t8)],bR n0 h79⟩):=kI
theorem pp:aw (xX s 41 wl k false) (av s.P Tryz.f41) Ix (.exit 2) ⟨[c,d,e,o,q,j,g,u,f,y,A,z,B,F,D,E,v,G,I,L,J,N,M,O,R,T,U,W,X,Q,Y,Z,t2,t1,t0,t3,t4,t5,tb,tc,t9,ta,t7,t6,td,te,tf,tg,th,ti,tj,tk,tl,tm,tn,tp,tq,tr,ts,t8],h⟩ =
 bm (ab s.P 30 d h) h fun v103 h104=>
 bs (ai s.P wl 30 e v103 h104) fun h105=>
 ew [ab s.P 30 e h105] h105:=kR
theorem fh (cx:Cx) (s:St):aw cx K I3 .ret s=K .ret s:=by kernel_rfl
theorem fw (cx:Cx) (s:St):aw cx K Ix .ret s=K .ret s:=by kernel_rfl
-- names: Ph,PF,Uh,pN,SA,pp,fh,fw
noncomputable def I4:List Fr:=[.seq (al (an Tryz.f43) [1,1,1])]
theorem RO:ak (xX s 43 wl k false) Tryz.f43 [c,d] h =
 bp (aQ c h) fun v1 h2=>
 bp (aQ d h2) fun v3 h4=>
 bp (az s.P 34 h4) fun v5 h6=>
 bp (some (.map h6.length,h6++[.map []])) fun v7 h8=>
 bs (eX s.P wl 138 v7 (.lit (.int .i64 0)) (.fn (.func 82) [] [v1,v3,v5]) h8) fun h9=>
 bs (eX s.P wl 138 v7 (.lit (.int .i64 1)) (.fn (.func 84) [] [v1,v3,v5]) h9) fun hA=>
 bs (eX s.P wl 138 v7 (.lit (.int .i64 2)) (.fn (.func 87) [] [v1]) hA) fun h11=>
 bm (aa s.P 48 v3 0) h11 fun v12 h13=>
 bm (ab s.P 3 v12 h13) h13 fun vz ho=>
 bm (gG s.P 138 v7 vz true ho) ho fun vr hu=>
 bm (ar vr 0) hu fun vn hr=>
 bm (ar vr 1) hr fun vd hQ=>
 cnd vd (
 bp (yC s k wl 43 false true vn [] hQ) fun vV hm=>
 aw (xX s 43 wl k false) (av s.P Tryz.f43) I4 .norm ⟨[c,d,v1,v3,v5,v7,vn,vd,v7,(.fn (.func 82) [] [v1,v3,v5]),(.fn (.func 84) [] [v1,v3,v5]),(.fn (.func 87) [] [v1]),v7,vr,v7,v12,vz,vr,vn,vd,vd,vn,vV,uu],hm⟩) (
 aw (xX s 43 wl k false) (av s.P Tryz.f43) I4 .norm ⟨[c,d,v1,v3,v5,v7,vn,vd,v7,(.fn (.func 82) [] [v1,v3,v5]),(.fn (.func 84) [] [v1,v3,v5]),(.fn (.func 87) [] [v1]),v7,vr,v7,v12,vz,vr,vn,vd,vd,uu,uu,uu],hQ⟩):=kB
theorem S4:evF Tryz.prog xM (k+1) wl 43 [c,d] h=ak (xX (xS k) 43 wl k false) Tryz.f43 [c,d] h:=by kernel_rfl
theorem pi:aw (xX s 43 wl k false) (av s.P Tryz.f43) I4 .norm ⟨[c,d,e,o,q,j,g,u,f,y,A,z,B,F,D,E,v,G,I,L,J,N,M,O],h⟩ =
 bm (ab s.P 34 q h) h fun vS hc=>
 bs (ai s.P wl 34 q vS hc) fun hJ=>
 ew [ab s.P 34 q hJ] hJ:=kR
theorem fe (cx:Cx) (s:St):aw cx K I4 .ret s=K .ret s:=by kernel_rfl
-- names: RO,pi,fe
theorem Yy:ak (xX s 51 wl k false) Tryz.f51 [c] h =
 bp (aQ c h) fun v1 h2=>
 some ((.fn (.func 94) [] [v1]),h2):=kB
theorem ada:evF Tryz.prog xM (k+1) wl 51 [c] h=ak (xX (xS k) 51 wl k false) Tryz.f51 [c] h:=by kernel_rfl
-- names: Yy,
noncomputable def dd:Code:=al (an Tryz.f53) [1,1,0]
noncomputable def cV:List Fr:=[.seq (al (an Tryz.f53) [1,1,1])]
theorem acB:ak (xX s 53 wl k false) Tryz.f53 [c,d] h =
 bp (aQ c h) fun v1 h2=>
 bm (aa s.P 57 v1 0) h2 fun v3 h4=>
 bm (ab s.P 3 v3 h4) h4 fun v5 h6=>
 bm (aA s.P .lss 3 v5 (.lit (.int .i64 0))) h6 fun v7 h8=>
 gd v7 (
 yO s k wl 53 Tryz.f53 dd 7 h2.length ([],[]) cV ⟨[c,d,v1,(.lit (.bool false)),(.fn (.func 54) [] [d]),(.fn (.func 54) [] [d]),v3,v5,v7,(.lit (.bool true)),uu,uu,uu,uu,uu,uu,uu,uu,uu,uu,uu,uu,uu,uu,uu,uu,uu,uu,uu,uu,uu],h8⟩) (
 bm (aa s.P 57 v1 0) h8 fun v9 hA=>
 bm (ab s.P 3 v9 hA) hA fun vA hB=>
 bm (aA s.P .geq 3 vA (.lit (.int .i64 6))) hB fun vC hC=>
 yO s k wl 53 Tryz.f53 dd 7 h2.length ([],[]) cV ⟨[c,d,v1,(.lit (.bool false)),(.fn (.func 54) [] [d]),(.fn (.func 54) [] [d]),v3,v5,v7,(.lit (.bool false)),v9,vA,vC,uu,uu,uu,uu,uu,uu,uu,uu,uu,uu,uu,uu,uu,uu,uu,uu,uu,uu],hC⟩) (
 yO s k wl 53 Tryz.f53 dd 5 h2.length ([],[]) cV ⟨[c,d,v1,(.lit (.bool false)),(.fn (.func 54) [] [d]),(.fn (.func 54) [] [d]),v3,v5,v7,v7,uu,uu,uu,uu,uu,uu,uu,uu,uu,uu,uu,uu,uu,uu,uu,uu,uu,uu,uu,uu,uu],h8⟩):=kB
theorem ac2:evF Tryz.prog xM (k+1) wl 53 [c,d] h=ak (xX (xS k) 53 wl k false) Tryz.f53 [c,d] h:=by kernel_rfl
theorem FU:yO s k wl 53 Tryz.f53 dd 7 m0 ac cV ⟨(c::d::e::o::q::j::g::u::f::y::A::z::B::F::D::E::v::G::I::zz),h⟩ =
 bm (aS y (.lit (.bool true)) B) h fun vD hD=>
 gd vD (
 yO s k wl 53 Tryz.f53 dd 13 m0 ac cV ⟨(c::d::e::o::q::j::g::u::f::y::A::z::B::vD::(.lit (.bool true))::uu::uu::uu::uu::zz),hD⟩) (
 bm (aa s.P 57 e 1) hD fun vB hE=>
 bm (ab s.P 53 vB hE) hE fun vE hH=>
 bp (yC s k wl 53 false true (.fn (.func 55) [] []) [vE,q] hH) fun vF hF=>
 yO s k wl 53 Tryz.f53 dd 13 m0 ac cV ⟨(c::d::e::o::q::j::g::u::f::y::A::z::B::vD::(.lit (.bool false))::vB::vE::q::vF::zz),hF⟩) (
 yO s k wl 53 Tryz.f53 dd 10 m0 ac cV ⟨(c::d::e::o::q::j::g::u::f::y::A::z::B::vD::vD::uu::v::G::I::zz),hD⟩):=kG
theorem FF:yO s k wl 53 Tryz.f53 dd 13 m0 ac cV ⟨[c,d,e,o,q,j,g,u,f,y,A,z,B,F,D,E,v,G,I,L,J,N,M,O,R,T,U,W,X,Q,Y],h⟩ =
 bm (aS D (.lit (.bool true)) I) h fun vH hG=>
 gd vH (
 yO s k wl 53 Tryz.f53 dd 24 m0 ac cV ⟨[c,d,e,o,q,j,g,u,f,y,A,z,B,F,D,E,v,G,I,vH,(.lit (.bool true)),uu,uu,uu,uu,uu,uu,uu,uu,uu,Y],hG⟩) (
 bm (aa s.P 57 e 0) hG fun vI hJ=>
 bm (ab s.P 3 vI hJ) hJ fun vG hI=>
 bm (aA s.P .neq 3 vG (.lit (.int .i64 0))) hI fun vJ hL=>
 yO s k wl 53 Tryz.f53 dd 19 m0 ac cV ⟨[c,d,e,o,q,j,g,u,f,y,A,z,B,F,D,E,v,G,I,vH,(.lit (.bool false)),vI,vG,vJ,vJ,T,U,W,X,Q,Y],hL⟩) (
 yO s k wl 53 Tryz.f53 dd 16 m0 ac cV ⟨[c,d,e,o,q,j,g,u,f,y,A,z,B,F,D,E,v,G,I,vH,vH,uu,M,O,R,T,U,W,X,Q,Y],hG⟩):=kG
theorem FW:yO s k wl 53 Tryz.f53 dd 24 m0 ac cV ⟨[c,d,e,o,q,j,g,u,f,y,A,z,B,F,D,E,v,G,I,L,J,N,M,O,R,T,U,W,X,Q,Y],h⟩ =
 bm (aS J (.lit (.bool true)) Q) h fun vL hN=>
 some (vL,hN):=kG
theorem EK:yO s k wl 53 Tryz.f53 dd 19 m0 ac cV ⟨[c,d,e,o,q,j,g,u,f,y,A,z,B,F,D,E,v,G,I,L,J,N,M,O,R,T,U,W,X,Q,Y],h⟩ =
 gd R (
 bm (aa s.P 57 e 1) h fun vK hO=>
 bm (ab s.P 53 vK hO) hO fun vO hV=>
 bp (bh s.P 53 vO hV) fun vW hS=>
 bm (aA s.P .eql 3 vW (.lit (.int .i64 0))) hS fun vY hU=>
 yO s k wl 53 Tryz.f53 dd 23 m0 ac cV ⟨[c,d,e,o,q,j,g,u,f,y,A,z,B,F,D,E,v,G,I,L,J,N,M,O,(.lit (.bool true)),vK,vO,vW,vY,Q,Y],hU⟩) (
 yO s k wl 53 Tryz.f53 dd 23 m0 ac cV ⟨[c,d,e,o,q,j,g,u,f,y,A,z,B,F,D,E,v,G,I,L,J,N,M,O,(.lit (.bool false)),uu,uu,uu,uu,Q,Y],h⟩) (
 yO s k wl 53 Tryz.f53 dd 20 m0 ac cV ⟨[c,d,e,o,q,j,g,u,f,y,A,z,B,F,D,E,v,G,I,L,J,N,M,O,R,uu,U,W,X,Q,Y],h⟩):=kG
theorem ES:yO s k wl 53 Tryz.f53 dd 23 m0 ac cV ⟨[c,d,e,o,q,j,g,u,f,y,A,z,B,F,D,E,v,G,I,L,J,N,M,O,R,T,U,W,X,Q,Y],h⟩ =
 gd J (
 yO s k wl 53 Tryz.f53 dd 24 m0 ac cV ⟨[c,d,e,o,q,j,g,u,f,y,A,z,B,F,D,E,v,G,I,L,(.lit (.bool true)),N,M,O,R,T,U,W,X,uu,Y],h⟩) (
 bm (aS R X (.lit (.bool false))) h fun vP hP=>
 yO s k wl 53 Tryz.f53 dd 24 m0 ac cV ⟨[c,d,e,o,q,j,g,u,f,y,A,z,B,F,D,E,v,G,I,L,(.lit (.bool false)),N,M,O,R,T,U,W,X,vP,Y],hP⟩) (
 yO s k wl 53 Tryz.f53 dd 24 m0 ac cV ⟨[c,d,e,o,q,j,g,u,f,y,A,z,B,F,D,E,v,G,I,L,J,N,M,O,R,T,U,W,X,uu,Y],h⟩):=kG
theorem FB:yO s k wl 53 Tryz.f53 dd 20 m0 ac cV ⟨[c,d,e,o,q,j,g,u,f,y,A,z,B,F,D,E,v,G,I,L,J,N,M,O,R,T,U,W,X,Q,Y],h⟩ =
 gd R (
 bm (ab s.P 53 T h) h fun vZ ha=>
 bp (bh s.P 53 vZ ha) fun vc hK=>
 bm (aA s.P .eql 3 vc (.lit (.int .i64 0))) hK fun vl hj=>
 yO s k wl 53 Tryz.f53 dd 23 m0 ac cV ⟨[c,d,e,o,q,j,g,u,f,y,A,z,B,F,D,E,v,G,I,L,J,N,M,O,(.lit (.bool true)),T,vZ,vc,vl,Q,Y],hj⟩) (
 yO s k wl 53 Tryz.f53 dd 23 m0 ac cV ⟨[c,d,e,o,q,j,g,u,f,y,A,z,B,F,D,E,v,G,I,L,J,N,M,O,(.lit (.bool false)),T,uu,uu,uu,Q,Y],h⟩) (
 yO s k wl 53 Tryz.f53 dd 21 m0 ac cV ⟨[c,d,e,o,q,j,g,u,f,y,A,z,B,F,D,E,v,G,I,L,J,N,M,O,R,T,uu,W,X,Q,Y],h⟩):=kG
theorem Ec:yO s k wl 53 Tryz.f53 dd 21 m0 ac cV ⟨[c,d,e,o,q,j,g,u,f,y,A,z,B,F,D,E,v,G,I,L,J,N,M,O,R,T,U,W,X,Q,Y],h⟩ =
 gd R (
 bp (bh s.P 53 U h) fun vg hl=>
 bm (aA s.P .eql 3 vg (.lit (.int .i64 0))) hl fun vs hM=>
 yO s k wl 53 Tryz.f53 dd 23 m0 ac cV ⟨[c,d,e,o,q,j,g,u,f,y,A,z,B,F,D,E,v,G,I,L,J,N,M,O,(.lit (.bool true)),T,U,vg,vs,Q,Y],hM⟩) (
 yO s k wl 53 Tryz.f53 dd 23 m0 ac cV ⟨[c,d,e,o,q,j,g,u,f,y,A,z,B,F,D,E,v,G,I,L,J,N,M,O,(.lit (.bool false)),T,U,uu,uu,Q,Y],h⟩) (
 yO s k wl 53 Tryz.f53 dd 22 m0 ac cV ⟨[c,d,e,o,q,j,g,u,f,y,A,z,B,F,D,E,v,G,I,L,J,N,M,O,R,T,U,uu,X,Q,Y],h⟩):=kG
theorem Fu:yO s k wl 53 Tryz.f53 dd 22 m0 ac cV ⟨[c,d,e,o,q,j,g,u,f,y,A,z,B,F,D,E,v,G,I,L,J,N,M,O,R,T,U,W,X,Q,Y],h⟩ =
 gd R (
 bm (aA s.P .eql 3 W (.lit (.int .i64 0))) h fun vo hk=>
 yO s k wl 53 Tryz.f53 dd 23 m0 ac cV ⟨[c,d,e,o,q,j,g,u,f,y,A,z,B,F,D,E,v,G,I,L,J,N,M,O,(.lit (.bool true)),T,U,W,vo,Q,Y],hk⟩) (
 yO s k wl 53 Tryz.f53 dd 23 m0 ac cV ⟨[c,d,e,o,q,j,g,u,f,y,A,z,B,F,D,E,v,G,I,L,J,N,M,O,(.lit (.bool false)),T,U,W,uu,Q,Y],h⟩) (
 yO s k wl 53 Tryz.f53 dd 23 m0 ac cV ⟨[c,d,e,o,q,j,g,u,f,y,A,z,B,F,D,E,v,G,I,L,J,N,M,O,R,T,U,W,uu,Q,Y],h⟩):=kG
theorem lN (cx:Cx) (s:St):aw cx K cV .ret s=K .ret s:=by kernel_rfl
-- names: acB,FU,FF,FW,EK,ES,FB,Ec,Fu,lN
noncomputable def IE:Code:=al (an Tryz.f54) [1,0]
noncomputable def E7:List Fr:=[.seq (al (an Tryz.f54) [1,1])]
theorem ZM:ak (xX s 54 wl k false) Tryz.f54 [c,d] h =
 bm (aA s.P .lss 3 c (.lit (.int .i64 0))) h fun v1 h2=>
 gd v1 (
 yO s k wl 54 Tryz.f54 IE 8 h.length ([],[]) E7 ⟨[c,d,uu,(.lit (.bool false)),c,v1,(.lit (.bool true)),uu,uu,uu,uu,uu,uu],h2⟩) (
 bm (aa s.P 30 d 1) h2 fun v3 h4=>
 bm (ab s.P 24 v3 h4) h4 fun v5 h6=>
 bp (bh s.P 24 v5 h6) fun v7 h8=>
 bm (aA s.P .geq 3 c v7) h8 fun v9 hA=>
 yO s k wl 54 Tryz.f54 IE 8 h.length ([],[]) E7 ⟨[c,d,uu,(.lit (.bool false)),c,v1,(.lit (.bool false)),c,v3,v5,v7,v9,uu],hA⟩) (
 yO s k wl 54 Tryz.f54 IE 4 h.length ([],[]) E7 ⟨[c,d,uu,(.lit (.bool false)),c,v1,v1,uu,uu,uu,uu,uu,uu],h2⟩):=kB
theorem ac3:evF Tryz.prog xM (k+1) wl 54 [c,d] h=ak (xX (xS k) 54 wl k false) Tryz.f54 [c,d] h:=by kernel_rfl
theorem FK:yO s k wl 54 Tryz.f54 IE 8 m0 ac E7 ⟨[c,d,e,o,q,j,g,u,f,y,A,z,B],h⟩ =
 bm (aS g (.lit (.bool true)) z) h fun vA hB=>
 some (vA,hB):=kG
theorem lL (cx:Cx) (s:St):aw cx K E7 .ret s=K .ret s:=by kernel_rfl
-- names: ZM,FK,lL
noncomputable def Ik:Code:=al (an Tryz.f58) [1,1,0,1,0,0]
noncomputable def Jy:List Fr:=[.block 0,.seq (al (an Tryz.f58) [1,1,1])]
theorem aeF:ak (xX s 58 wl k false) Tryz.f58 [c] h =
 bp (some (.own h.length 0 0,h++[.rows 0 [] 0 true])) fun v1 h2=>
 bp (yC s k wl 58 false true (.fn (.func 102) [] []) [c] h2) fun v3 h4=>
 bp (bh s.P 24 v3 h4) fun v5 h6=>
 yI s k wl 58 Tryz.f58 Ik h6.length Jy k ⟨[(V.kill h6.length c),(V.kill h6.length uu),(V.kill h6.length v1),(V.kill h6.length v3),(V.kill h6.length uu),(V.kill h6.length c),(V.kill h6.length v3),(V.kill h6.length v3),(V.kill h6.length v5),(.lit (.int .i64 0)),.junk,.junk,.junk,.junk,.junk,.junk,.junk,.junk,.junk,.junk,.junk,.junk,.junk,(V.kill h6.length uu)],bR h6.length h6⟩:=kB
theorem ahK:evF Tryz.prog xM (k+1) wl 58 [c] h=ak (xX (xS k) 58 wl k false) Tryz.f58 [c] h:=by kernel_rfl
theorem afD (P:Program):av P Tryz.f58 .ret ⟨[c,d,e,o,q,j,g,u,f,y,A,z,B,F,D,E,v,G,I,L,J,N,M,O],h⟩=some (e,h):=by kernel_rfl
theorem TC:itX (xX s 58 wl k rd) Ik n0 K (n+1) ⟨[c,d,e,o,q,j,g,u,f,y,A,z,B,F,D,E,v,G,I,L,J,N,M,O],h⟩ =
 bm (aA s.P .lss 3 y f) h fun v7 h8=>
 cnd v7 (
 bm (am s.P 24 o y h8) h8 fun v9 hA=>
 bm (aa s.P 101 v9 1) hA fun vA hB=>
 bm (ab s.P 53 vA hB) hB fun vC hC=>
 bp (bG (xX s 58 wl k rd) false true (.fn (.func 80) [] []) [vC] hC) fun vD hD=>
 bm (am s.P 24 o y hD) hD fun vB hE=>
 bm (aa s.P 101 vB 1) hE fun vE hH=>
 bs (ai s.P wl 53 vE vD hH) fun hQ=>
 bm (aA s.P .add 3 y (.lit (.int .i64 1))) hQ fun vV hm=>
 itX (xX s 58 wl k rd) Ik n0 K n ⟨[(V.kill n0 c),(V.kill n0 d),(V.kill n0 e),(V.kill n0 o),(V.kill n0 y),(V.kill n0 j),(V.kill n0 g),(V.kill n0 u),(V.kill n0 f),(V.kill n0 vV),.junk,.junk,.junk,.junk,.junk,.junk,.junk,.junk,.junk,.junk,.junk,.junk,.junk,(V.kill n0 O)],bR n0 hm⟩) (
 K (.exit 0) ⟨[(V.kill n0 c),(V.kill n0 d),(V.kill n0 e),(V.kill n0 o),(V.kill n0 q),(V.kill n0 j),(V.kill n0 g),(V.kill n0 u),(V.kill n0 f),.junk,.junk,.junk,.junk,.junk,.junk,.junk,.junk,.junk,.junk,.junk,.junk,.junk,.junk,(V.kill n0 O)],bR n0 h8⟩):=kI
theorem OS:aw (xX s 58 wl k false) (av s.P Tryz.f58) Jy (.exit 0) ⟨[c,d,e,o,q,j,g,u,f,y,A,z,B,F,D,E,v,G,I,L,J,N,M,O],h⟩ =
 some (o,h):=kR
theorem rc (cx:Cx) (s:St):aw cx K Jy .ret s=K .ret s:=by kernel_rfl
-- names: aeF,afD,TC,OS,rc
theorem af6:ak (xX s 67 wl k false) Tryz.f67 [c] h =
 bp (aQ c h) fun v1 h2=>
 bm (aa s.P 57 v1 1) h2 fun v3 h4=>
 bm (ab s.P 53 v3 h4) h4 fun v5 h6=>
 bp (bh s.P 53 v5 h6) fun v7 h8=>
 bm (aA s.P .gtr 3 v7 (.lit (.int .i64 0))) h8 fun v9 hA=>
 some (v9,hA):=kB
theorem ahk:evF Tryz.prog xM (k+1) wl 67 [c] h=ak (xX (xS k) 67 wl k false) Tryz.f67 [c] h:=by kernel_rfl
-- names: af6,
theorem RR:ak (xX s 82 wl k false) Tryz.f82 [c,d,e] h =
 stO h.length c (
 bm (ab s.P 86 c h) h fun v1 h2=>
 stO h.length c (
 bm (ab s.P 86 c h2) h2 fun v3 h4=>
 stO h.length v3 (
 bm (aU v3 h4) h4 fun v5 h6=>
 bm (aa s.P 30 v5 3) h6 fun v7 h8=>
 stO h.length v7 (
 bm (ab s.P 27 v7 h8) h8 fun v9 hA=>
 bm (aa s.P 48 d 1) hA fun vA hB=>
 stO h.length vA (
 bm (ab s.P 3 vA hB) hB fun vC hC=>
 bm (ab s.P 86 c hC) hC fun vD hD=>
 bm (aU vD hD) hD fun vB hE=>
 bm (aa s.P 30 vB 0) hE fun vE hH=>
 bm (ab s.P 23 vE hH) hH fun vF hF=>
 bm (ab s.P 86 c hF) hF fun vH hG=>
 bm (aU vH hG) hG fun vI hJ=>
 bm (aa s.P 30 vI 1) hJ fun vG hI=>
 bm (ab s.P 24 vG hI) hI fun vJ hL=>
 bm (ab s.P 86 c hL) hL fun vL hN=>
 bm (aU vL hN) hN fun vK hO=>
 bm (aa s.P 30 vK 2) hO fun vO hV=>
 bm (ab s.P 26 vO hV) hV fun vW hS=>
 bm (aa s.P 48 d 1) hS fun vY hU=>
 bm (ab s.P 3 vY hU) hU fun vP hP=>
 bm (ab s.P 86 c hP) hP fun vZ ha=>
 bm (aU vZ ha) ha fun vc hK=>
 bm (aa s.P 30 vc 3) hK fun vl hj=>
 bm (ab s.P 27 vl hj) hj fun vg hl=>
 bm (aa s.P 48 d 1) hl fun vs hM=>
 bm (ab s.P 3 vs hM) hM fun vo hk=>
 bm (am s.P 27 vg vo hk) hk fun vv hq=>
 bm (ab s.P 65 vv hq) hq fun vy hx=>
 bm (aa s.P 48 d 2) hx fun v59 hy=>
 bm (ab s.P 46 v59 hy) hy fun v61 hw=>
 bp (yC s k wl 82 true true (.fn (.func 83) [] []) [vF,vJ,vW,vP,vy,v61] hw) fun v63 h64=>
 bm (ar v63 0) h64 fun v65 h66=>
 bm (ar v63 1) h66 fun v67 h68=>
 bm (ar v63 2) h68 fun v69 h70=>
 bm (aU v1 h70) h70 fun v71 h72=>
 bm (aa s.P 30 v71 2) h72 fun vu hv=>
 bs (ai s.P wl 26 vu v65 hv) fun h75=>
 bm (am s.P 27 v9 vC h75) h75 fun v76 hR=>
 bs (ai s.P wl 65 v76 v67 hR) fun h78=>
 bs (ai s.P wl 34 e v69 h78) fun h79=>
 apt (lgW e (lgW v76 (lgW vu (lgR vA ([],[]))))) (
 some (.tup [],h79))))))):=kB
theorem Tn:evF Tryz.prog xM (k+1) wl 82 [c,d,e] h=ak (xX (xS k) 82 wl k false) Tryz.f82 [c,d,e] h:=by kernel_rfl
-- names: RR,
theorem Pz:ak (xX s 84 wl k false) Tryz.f84 [c,d,e] h =
 bm (ab s.P 86 c h) h fun v1 h2=>
 bm (aU v1 h2) h2 fun v3 h4=>
 bm (aa s.P 30 v3 0) h4 fun v5 h6=>
 bm (ab s.P 23 v5 h6) h6 fun v7 h8=>
 bm (ab s.P 86 c h8) h8 fun v9 hA=>
 bm (aU v9 hA) hA fun vA hB=>
 bm (aa s.P 30 vA 1) hB fun vC hC=>
 bm (ab s.P 24 vC hC) hC fun vD hD=>
 bm (ab s.P 86 c hD) hD fun vB hE=>
 bm (aU vB hE) hE fun vE hH=>
 bm (aa s.P 30 vE 2) hH fun vF hF=>
 bm (ab s.P 26 vF hF) hF fun vH hG=>
 bm (ab s.P 86 c hG) hG fun vI hJ=>
 bm (aU vI hJ) hJ fun vG hI=>
 bm (aa s.P 30 vG 4) hI fun vJ hL=>
 bm (ab s.P 28 vJ hL) hL fun vL hN=>
 bm (aa s.P 48 d 1) hN fun vK hO=>
 bm (ab s.P 3 vK hO) hO fun vO hV=>
 bm (am s.P 28 vL vO hV) hV fun vW hS=>
 bm (ab s.P 57 vW hS) hS fun vY hU=>
 bp (yC s k wl 84 false true (.fn (.func 85) [] []) [v7,vD,vH,vY] hU) fun vP hP=>
 cnd vP (
 stO hP.length c (
 bm (ab s.P 86 c hP) hP fun vZ ha=>
 stO hP.length c (
 bm (ab s.P 86 c ha) ha fun vc hK=>
 stO hP.length vc (
 bm (aU vc hK) hK fun vl hj=>
 bm (aa s.P 30 vl 4) hj fun vg hl=>
 stO hP.length vg (
 bm (ab s.P 28 vg hl) hl fun vs hM=>
 bm (aa s.P 48 d 1) hM fun vo hk=>
 stO hP.length vo (
 bm (ab s.P 3 vo hk) hk fun vv hq=>
 bm (ab s.P 86 c hq) hq fun vy hx=>
 bm (aU vy hx) hx fun v59 hy=>
 bm (aa s.P 30 v59 0) hy fun v61 hw=>
 bm (ab s.P 23 v61 hw) hw fun v63 h64=>
 bm (ab s.P 86 c h64) h64 fun v65 h66=>
 bm (aU v65 h66) h66 fun v67 h68=>
 bm (aa s.P 30 v67 1) h68 fun v69 h70=>
 bm (ab s.P 24 v69 h70) h70 fun v71 h72=>
 bm (ab s.P 86 c h72) h72 fun vu hv=>
 bm (aU vu hv) hv fun v75 h76=>
 bm (aa s.P 30 v75 2) h76 fun v77 h78=>
 bm (ab s.P 26 v77 h78) h78 fun v79 h80=>
 bm (aa s.P 48 d 1) h80 fun v81 h82=>
 bm (ab s.P 3 v81 h82) h82 fun v83 h84=>
 bm (ab s.P 86 c h84) h84 fun v85 h86=>
 bm (aU v85 h86) h86 fun v87 h88=>
 bm (aa s.P 30 v87 4) h88 fun v89 h90=>
 bm (ab s.P 28 v89 h90) h90 fun v91 h92=>
 bm (aa s.P 48 d 1) h92 fun v93 h94=>
 bm (ab s.P 3 v93 h94) h94 fun v95 h96=>
 bm (am s.P 28 v91 v95 h96) h96 fun v97 h98=>
 bm (ab s.P 57 v97 h98) h98 fun v99 h100=>
 bp (yC s k wl 84 true true (.fn (.func 86) [] []) [v63,v71,v79,v83,v99] h100) fun vj h102=>
 bm (ar vj 0) h102 fun v103 h104=>
 bm (ar vj 1) h104 fun v105 h106=>
 bm (ar vj 2) h106 fun v107 h108=>
 bm (aU vZ h108) h108 fun v109 h110=>
 bm (aa s.P 30 v109 2) h110 fun v111 h112=>
 bs (ai s.P wl 26 v111 v103 h112) fun h113=>
 bm (am s.P 28 vs vv h113) h113 fun v114 h115=>
 bs (ai s.P wl 57 v114 v105 h115) fun h116=>
 bs (ai s.P wl 34 e v107 h116) fun h117=>
 apt (lgW e (lgW v114 (lgW v111 (lgR vo ([],[]))))) (
 some (.tup [],h117)))))))) (
 some (.tup [],hP)):=kB
theorem Tk:evF Tryz.prog xM (k+1) wl 84 [c,d,e] h=ak (xX (xS k) 84 wl k false) Tryz.f84 [c,d,e] h:=by kernel_rfl
-- names: Pz,
theorem QB:ak (xX s 87 wl k false) Tryz.f87 [c] h =
 stO h.length c (
 bm (ab s.P 86 c h) h fun v1 h2=>
 bm (ab s.P 86 c h2) h2 fun v3 h4=>
 bm (aU v3 h4) h4 fun v5 h6=>
 bm (aa s.P 30 v5 2) h6 fun v7 h8=>
 bm (ab s.P 26 v7 h8) h8 fun v9 hA=>
 bp (yC s k wl 87 true true (.fn (.func 88) [] []) [v9,(.lit (.int .i64 3)),(.lit (.int .u64 1))] hA) fun vA hB=>
 bm (aU v1 hB) hB fun vC hC=>
 bm (aa s.P 30 vC 2) hC fun vD hD=>
 bs (ai s.P wl 26 vD vA hD) fun hu=>
 some (.tup [],hu)):=kB
theorem T3:evF Tryz.prog xM (k+1) wl 87 [c] h=ak (xX (xS k) 87 wl k false) Tryz.f87 [c] h:=by kernel_rfl
-- names: QB,
noncomputable def ul:Code:=al (an Tryz.f94) [1,0,0]
noncomputable def Js:List Fr:=[.block 0]
noncomputable def IR:Code:=al (an Tryz.f94) [1,0,0,1,1,0,0,1,0]
noncomputable def Ee:List Fr:=[.seq (al (an Tryz.f94) [1,0,0,1,1,0,0,1,1]),.block 1,.seq (al (an Tryz.f94) [1,0,0,1,1,1])]
theorem abW:ak (xX s 94 wl k false) Tryz.f94 [c,d] h =
 bm (aa s.P 30 d 3) h fun v1 h2=>
 bm (ab s.P 27 v1 h2) h2 fun v3 h4=>
 bp (bh s.P 27 v3 h4) fun v5 h6=>
 yI s k wl 94 Tryz.f94 ul h6.length Js k ⟨[(V.kill h6.length c),(V.kill h6.length d),(V.kill h6.length uu),(V.kill h6.length uu),(V.kill h6.length uu),(V.kill h6.length v1),(V.kill h6.length v3),(V.kill h6.length v5),(.lit (.int .i64 0)),.junk,.junk,.junk,.junk,.junk,.junk,.junk,.junk,.junk,.junk,.junk,.junk,.junk,.junk,.junk,.junk,.junk,.junk,.junk,.junk,.junk],bR h6.length h6⟩:=kB
theorem adi:evF Tryz.prog xM (k+1) wl 94 [c,d] h=ak (xX (xS k) 94 wl k false) Tryz.f94 [c,d] h:=by kernel_rfl
theorem aa2 (P:Program):av P Tryz.f94 .ret ⟨[c,d,e,o,q,j,g,u,f,y,A,z,B,F,D,E,v,G,I,L,J,N,M,O,R,T,U,W,X,Q],h⟩=some (.tup [],h):=by kernel_rfl
theorem Ue:itX (xX s 94 wl k rd) ul n0 K (n+1) ⟨[c,d,e,o,q,j,g,u,f,y,A,z,B,F,D,E,v,G,I,L,J,N,M,O,R,T,U,W,X,Q],h⟩ =
 bm (aA s.P .lss 3 f u) h fun v7 h8=>
 cnd v7 (
 bm (am s.P 27 g f h8) h8 fun v9 hA=>
 bm (ab s.P 65 v9 hA) hA fun vA hB=>
 bp (az s.P 65 hB) fun vC hC=>
 bs (ai s.P wl 65 vC vA hC) fun ho=>
 bm (aa s.P 30 d 0) ho fun vr hu=>
 bm (ab s.P 23 vr hu) hu fun vn hr=>
 bm (aa s.P 30 d 1) hr fun vd hQ=>
 bm (ab s.P 24 vd hQ) hQ fun vV hm=>
 bm (aa s.P 30 d 2) hm fun vS hc=>
 bm (ab s.P 26 vS hc) hc fun vN hn=>
 bm (ab s.P 65 vC hn) hn fun vh hs=>
 bp (bG (xX s 94 wl k rd) false true (.fn (.func 95) [] []) [vn,vV,vN,f,vh] hs) fun vp hY=>
 bm (vUn .not vp) hY fun ve hh=>
 gd ve (
 bp (bG (xX s 94 wl k rd) false true c [f] hh) fun vf hW=>
 bm (vUn .not vf) hW fun vM hT=>
 dK (xX s 94 wl k rd) IR 15 ho.length ([],[]) (aw (xX s 94 wl k rd) (eg (xX s 94 wl k rd) ul n0 K n) Ee) ⟨[c,d,e,f,vC,j,g,u,f,v7,f,v9,vA,vr,vn,vd,vV,vS,vN,f,vh,vp,ve,(.lit (.bool true)),c,f,vf,vM,X,Q],hT⟩) (
 dK (xX s 94 wl k rd) IR 15 ho.length ([],[]) (aw (xX s 94 wl k rd) (eg (xX s 94 wl k rd) ul n0 K n) Ee) ⟨[c,d,e,f,vC,j,g,u,f,v7,f,v9,vA,vr,vn,vd,vV,vS,vN,f,vh,vp,ve,(.lit (.bool false)),uu,uu,uu,uu,X,Q],hh⟩) (
 dK (xX s 94 wl k rd) IR 12 ho.length ([],[]) (aw (xX s 94 wl k rd) (eg (xX s 94 wl k rd) ul n0 K n) Ee) ⟨[c,d,e,f,vC,j,g,u,f,v7,f,v9,vA,vr,vn,vd,vV,vS,vN,f,vh,vp,ve,ve,uu,T,U,W,X,Q],hh⟩)) (
 K (.exit 0) ⟨[(V.kill n0 c),(V.kill n0 d),(V.kill n0 e),(V.kill n0 o),(V.kill n0 q),(V.kill n0 j),(V.kill n0 g),(V.kill n0 u),.junk,.junk,.junk,.junk,.junk,.junk,.junk,.junk,.junk,.junk,.junk,.junk,.junk,.junk,.junk,.junk,.junk,.junk,.junk,.junk,.junk,.junk],bR n0 h8⟩):=kI
theorem F0:aw (xX s 94 wl k false) (av s.P Tryz.f94) Js (.exit 0) ⟨(c::zz),h⟩ =
 some (.tup [],h):=kR
theorem EU:dK (xX s 94 wl k rd) IR 15 m0 ac (aw (xX s 94 wl k rd) (eg (xX s 94 wl k rd) ul n0 K n) Ee) ⟨[c,d,e,o,q,j,g,u,f,y,A,z,B,F,D,E,v,G,I,L,J,N,M,O,R,T,U,W,X,Q],h⟩ =
 bm (aS O W (.lit (.bool false))) h fun vT hb=>
 cnd vT (
 K .ret ⟨[c,d,e,o,q,j,g,u,f,y,A,z,B,F,D,E,v,G,I,L,J,N,M,O,R,T,U,W,vT,Q],hb⟩) (
 bm (aA s.P .add 3 f (.lit (.int .i64 1))) hb fun vQ hd=>
 itX (xX s 94 wl k rd) ul n0 K n ⟨[(V.kill n0 c),(V.kill n0 d),(V.kill n0 e),(V.kill n0 o),(V.kill n0 q),(V.kill n0 j),(V.kill n0 g),(V.kill n0 u),(V.kill n0 vQ),.junk,.junk,.junk,.junk,.junk,.junk,.junk,.junk,.junk,.junk,.junk,.junk,.junk,.junk,.junk,.junk,.junk,.junk,.junk,.junk,.junk],bR n0 hd⟩):=kG
theorem lE (cx:Cx) (s:St):aw cx K Js .ret s=K .ret s:=by kernel_rfl
theorem mg (cx:Cx) (s:St):aw cx K Ee .ret s=K .ret s:=by kernel_rfl
-- names: abW,aa2,Ue,F0,EU,lE,mg
end
end Go.Ab
