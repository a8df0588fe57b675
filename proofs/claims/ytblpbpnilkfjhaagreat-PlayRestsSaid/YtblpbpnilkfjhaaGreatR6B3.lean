import Derived.Test.YtblpbpnilkfjhaaGreatR6Seat
import Derived.Test.YtblpbpnilkfjhaaGreatAbLibC
set_option linter.unusedVariables false
set_option linter.unusedSimpArgs false
set_option maxRecDepth 100000
set_option linter.unusedVariables false
namespace Go.Ab
open Go.Proofs
section
variable (s:Sys) (k wl:Nat) (m0:Nat) (ac:List Nat×List Nat) (a d b g i l o j p q r u G E A B D y z F J I M L Q N O T R t1 W X Z Y t0 U t3 t4 t2 t7 t6 t5 t8 tc th td ta ti te tj tf tg tb t9 tm tn tp tk tl:V) (h:Hp) (K:Out→St→Option (V×Hp)) (rd:Bool) (n n0:Nat) (zz:List V)
noncomputable def cB:Code:=al (am Tryz.f188) [1,0]
noncomputable def cf:List Fr:=[.seq (al (am Tryz.f188) [1,1])]
theorem ac1:ak (xX s 188 wl k false) Tryz.f188 [a,d,b,g,i] h =
 bp (aP a h) fun v1 h2=>
 bp (aP b h2) fun v3 h4=>
 bm (ab s.P 23 v1 h4) h4 fun v5 h6=>
 bp (yC s k wl 188 false true (.fn (.func 50) [] []) [v5] h6) fun v7 h8=>
 gd v7 (
 bp (a7 s.P 26 d h8) fun v9 hB=>
 bm (ab s.P 23 v1 hB) hB fun vA hC=>
 bp (yC s k wl 188 false true (.fn (.func 103) [] []) [vA] hC) fun vD hH=>
 bm (aw s.P .eql 3 v9 vD) hH fun vC hD=>
 yO s k wl 188 Tryz.f188 cB 8 h4.length ([],[]) cf ⟨[a,d,b,g,i,v1,uu,v3,uu,uu,(.lit (.bool false)),v5,v7,(.lit (.bool true)),d,v9,vA,vD,vC,uu,uu,uu,uu,uu,uu,uu,uu,uu,uu,uu,uu,uu,uu,uu,uu,uu,uu,uu,uu,uu,uu,uu,uu,uu,uu,uu,uu,uu,uu,uu,uu,uu,uu,uu],hD⟩) (
 yO s k wl 188 Tryz.f188 cB 8 h4.length ([],[]) cf ⟨[a,d,b,g,i,v1,uu,v3,uu,uu,(.lit (.bool false)),v5,v7,(.lit (.bool false)),uu,uu,uu,uu,uu,uu,uu,uu,uu,uu,uu,uu,uu,uu,uu,uu,uu,uu,uu,uu,uu,uu,uu,uu,uu,uu,uu,uu,uu,uu,uu,uu,uu,uu,uu,uu,uu,uu,uu,uu],h8⟩) (
 yO s k wl 188 Tryz.f188 cB 4 h4.length ([],[]) cf ⟨[a,d,b,g,i,v1,uu,v3,uu,uu,(.lit (.bool false)),v5,v7,v7,uu,uu,uu,uu,uu,uu,uu,uu,uu,uu,uu,uu,uu,uu,uu,uu,uu,uu,uu,uu,uu,uu,uu,uu,uu,uu,uu,uu,uu,uu,uu,uu,uu,uu,uu,uu,uu,uu,uu,uu],h8⟩):=kB
theorem aik:evF Tryz.prog xM (k+1) wl 188 [a,d,b,g,i] h=ak (xX (xS k) 188 wl k false) Tryz.f188 [a,d,b,g,i] h:=by kernel_rfl
theorem MJ:yO s k wl 188 Tryz.f188 cB 8 m0 ac cf ⟨(a::d::b::g::i::l::o::j::p::q::r::u::G::E::A::B::D::y::z::F::J::I::M::L::zz),h⟩ =
 bm (aR E z (.lit (.bool false))) h fun vB hE=>
 gd vB (
 bm (ab s.P 55 j hE) hE fun vF hI=>
 bp (yC s k wl 188 false true (.fn (.func 110) [] []) [vF] hI) fun vG hO=>
 bm (vUn .not vG) hO fun vQ hQ=>
 yO s k wl 188 Tryz.f188 cB 13 m0 ac cf ⟨(a::d::b::g::i::l::o::j::p::q::r::u::G::E::A::B::D::y::z::vB::(.lit (.bool true))::vF::vG::vQ::zz),hQ⟩) (
 yO s k wl 188 Tryz.f188 cB 13 m0 ac cf ⟨(a::d::b::g::i::l::o::j::p::q::r::u::G::E::A::B::D::y::z::vB::(.lit (.bool false))::uu::uu::uu::zz),hE⟩) (
 yO s k wl 188 Tryz.f188 cB 11 m0 ac cf ⟨(a::d::b::g::i::l::o::j::p::q::r::u::G::E::A::B::D::y::z::vB::vB::uu::M::L::zz),hE⟩):=kG
theorem N9:yO s k wl 188 Tryz.f188 cB 13 m0 ac cf ⟨(a::d::b::g::i::l::o::j::p::q::r::u::G::E::A::B::D::y::z::F::J::I::M::L::Q::N::O::T::R::zz),h⟩ =
 bm (aR J L (.lit (.bool false))) h fun vL hG=>
 gd vL (
 bm (aa s.P 55 j 2) hG fun vE hK=>
 bm (ab s.P 3 vE hK) hK fun vH hJ=>
 bm (aw s.P .geq 3 vH (.lit (.int .i64 0))) hJ fun vJ hL=>
 yO s k wl 188 Tryz.f188 cB 18 m0 ac cf ⟨(a::d::b::g::i::l::o::j::p::q::r::u::G::E::A::B::D::y::z::F::J::I::M::L::vL::(.lit (.bool true))::vE::vH::vJ::zz),hL⟩) (
 yO s k wl 188 Tryz.f188 cB 18 m0 ac cf ⟨(a::d::b::g::i::l::o::j::p::q::r::u::G::E::A::B::D::y::z::F::J::I::M::L::vL::(.lit (.bool false))::uu::uu::uu::zz),hG⟩) (
 yO s k wl 188 Tryz.f188 cB 16 m0 ac cf ⟨(a::d::b::g::i::l::o::j::p::q::r::u::G::E::A::B::D::y::z::F::J::I::M::L::vL::vL::uu::T::R::zz),hG⟩):=kG
theorem L7:yO s k wl 188 Tryz.f188 cB 18 m0 ac cf ⟨(a::d::b::g::i::l::o::j::p::q::r::u::G::E::A::B::D::y::z::F::J::I::M::L::Q::N::O::T::R::t1::W::X::Z::Y::t0::U::zz),h⟩ =
 bm (aR N R (.lit (.bool false))) h fun vI hM=>
 gd vI (
 bm (aa s.P 55 j 2) hM fun vM hR=>
 bm (ab s.P 3 vM hR) hR fun vO hN=>
 bm (aa s.P 23 l 0) hN fun vK hP=>
 bm (ab s.P 3 vK hP) hP fun vN hS=>
 bm (aw s.P .lss 3 vO vN) hS fun vP hT=>
 yO s k wl 188 Tryz.f188 cB 25 m0 ac cf ⟨(a::d::b::g::i::l::o::j::p::q::r::u::G::E::A::B::D::y::z::F::J::I::M::L::Q::N::O::T::R::vI::(.lit (.bool true))::vM::vO::vK::vN::vP::zz),hT⟩) (
 yO s k wl 188 Tryz.f188 cB 25 m0 ac cf ⟨(a::d::b::g::i::l::o::j::p::q::r::u::G::E::A::B::D::y::z::F::J::I::M::L::Q::N::O::T::R::vI::(.lit (.bool false))::uu::uu::uu::uu::uu::zz),hM⟩) (
 yO s k wl 188 Tryz.f188 cB 21 m0 ac cf ⟨(a::d::b::g::i::l::o::j::p::q::r::u::G::E::A::B::D::y::z::F::J::I::M::L::Q::N::O::T::R::vI::vI::uu::Z::Y::t0::U::zz),hM⟩):=kG
theorem Np:yO s k wl 188 Tryz.f188 cB 25 m0 ac cf ⟨[a,d,b,g,i,l,o,j,p,q,r,u,G,E,A,B,D,y,z,F,J,I,M,L,Q,N,O,T,R,t1,W,X,Z,Y,t0,U,t3,t4,t2,t7,t6,t5,t8,tc,th,td,ta,ti,te,tj,tf,tg,tb,t9],h⟩ =
 bm (aR W U (.lit (.bool false))) h fun vR hX=>
 gd vR (
 bm (aa s.P 55 j 0) hX fun vW hY=>
 bm (ab s.P 3 vW hY) hY fun vS hd=>
 bm (aw s.P .eql 3 vS g) hd fun vZ hA=>
 yO s k wl 188 Tryz.f188 cB 31 m0 ac cf ⟨[a,d,b,g,i,l,o,j,p,q,r,u,G,E,A,B,D,y,z,F,J,I,M,L,Q,N,O,T,R,t1,W,X,Z,Y,t0,U,vR,(.lit (.bool true)),vW,vS,g,vZ,t8,tc,th,td,ta,ti,te,tj,tf,tg,tb,t9],hA⟩) (
 yO s k wl 188 Tryz.f188 cB 31 m0 ac cf ⟨[a,d,b,g,i,l,o,j,p,q,r,u,G,E,A,B,D,y,z,F,J,I,M,L,Q,N,O,T,R,t1,W,X,Z,Y,t0,U,vR,(.lit (.bool false)),uu,uu,uu,uu,t8,tc,th,td,ta,ti,te,tj,tf,tg,tb,t9],hX⟩) (
 yO s k wl 188 Tryz.f188 cB 28 m0 ac cf ⟨[a,d,b,g,i,l,o,j,p,q,r,u,G,E,A,B,D,y,z,F,J,I,M,L,Q,N,O,T,R,t1,W,X,Z,Y,t0,U,vR,vR,uu,t7,t6,t5,t8,tc,th,td,ta,ti,te,tj,tf,tg,tb,t9],hX⟩):=kG
theorem Om:yO s k wl 188 Tryz.f188 cB 31 m0 ac cf ⟨[a,d,b,g,i,l,o,j,p,q,r,u,G,E,A,B,D,y,z,F,J,I,M,L,Q,N,O,T,R,t1,W,X,Z,Y,t0,U,t3,t4,t2,t7,t6,t5,t8,tc,th,td,ta,ti,te,tj,tf,tg,tb,t9],h⟩ =
 bm (aR t4 t5 (.lit (.bool false))) h fun vT hV=>
 gd vT (
 bm (aa s.P 55 j 1) hV fun va hZ=>
 bm (ab s.P 3 va hZ) hZ fun vX hw=>
 bm (aw s.P .geq 3 vX (.lit (.int .i64 0))) hw fun vp he=>
 yO s k wl 188 Tryz.f188 cB 36 m0 ac cf ⟨[a,d,b,g,i,l,o,j,p,q,r,u,G,E,A,B,D,y,z,F,J,I,M,L,Q,N,O,T,R,t1,W,X,Z,Y,t0,U,t3,t4,t2,t7,t6,t5,vT,(.lit (.bool true)),va,vX,vp,ti,te,tj,tf,tg,tb,t9],he⟩) (
 yO s k wl 188 Tryz.f188 cB 36 m0 ac cf ⟨[a,d,b,g,i,l,o,j,p,q,r,u,G,E,A,B,D,y,z,F,J,I,M,L,Q,N,O,T,R,t1,W,X,Z,Y,t0,U,t3,t4,t2,t7,t6,t5,vT,(.lit (.bool false)),uu,uu,uu,ti,te,tj,tf,tg,tb,t9],hV⟩) (
 yO s k wl 188 Tryz.f188 cB 34 m0 ac cf ⟨[a,d,b,g,i,l,o,j,p,q,r,u,G,E,A,B,D,y,z,F,J,I,M,L,Q,N,O,T,R,t1,W,X,Z,Y,t0,U,t3,t4,t2,t7,t6,t5,vT,vT,uu,td,ta,ti,te,tj,tf,tg,tb,t9],hV⟩):=kG
theorem Oj:yO s k wl 188 Tryz.f188 cB 36 m0 ac cf ⟨[a,d,b,g,i,l,o,j,p,q,r,u,G,E,A,B,D,y,z,F,J,I,M,L,Q,N,O,T,R,t1,W,X,Z,Y,t0,U,t3,t4,t2,t7,t6,t5,t8,tc,th,td,ta,ti,te,tj,tf,tg,tb,t9],h⟩ =
 bm (aR tc ta (.lit (.bool false))) h fun vY hf=>
 gd vY (
 bm (aa s.P 55 j 1) hf fun vg hl=>
 bm (ab s.P 3 vg hl) hl fun vh hx=>
 bm (aw s.P .lss 3 vh i) hx fun vv ha=>
 yO s k wl 188 Tryz.f188 cB 42 m0 ac cf ⟨[a,d,b,g,i,l,o,j,p,q,r,u,G,E,A,B,D,y,z,F,J,I,M,L,Q,N,O,T,R,t1,W,X,Z,Y,t0,U,t3,t4,t2,t7,t6,t5,t8,tc,th,td,ta,vY,(.lit (.bool true)),vg,vh,i,vv,t9],ha⟩) (
 yO s k wl 188 Tryz.f188 cB 42 m0 ac cf ⟨[a,d,b,g,i,l,o,j,p,q,r,u,G,E,A,B,D,y,z,F,J,I,M,L,Q,N,O,T,R,t1,W,X,Z,Y,t0,U,t3,t4,t2,t7,t6,t5,t8,tc,th,td,ta,vY,(.lit (.bool false)),uu,uu,uu,uu,t9],hf⟩) (
 yO s k wl 188 Tryz.f188 cB 39 m0 ac cf ⟨[a,d,b,g,i,l,o,j,p,q,r,u,G,E,A,B,D,y,z,F,J,I,M,L,Q,N,O,T,R,t1,W,X,Z,Y,t0,U,t3,t4,t2,t7,t6,t5,t8,tc,th,td,ta,vY,vY,uu,tf,tg,tb,t9],hf⟩):=kG
theorem NA:yO s k wl 188 Tryz.f188 cB 42 m0 ac cf ⟨[a,d,b,g,i,l,o,j,p,q,r,u,G,E,A,B,D,y,z,F,J,I,M,L,Q,N,O,T,R,t1,W,X,Z,Y,t0,U,t3,t4,t2,t7,t6,t5,t8,tc,th,td,ta,ti,te,tj,tf,tg,tb,t9],h⟩ =
 bm (aR te tb (.lit (.bool false))) h fun vc hm=>
 some (vc,hm):=kG
theorem uy (cx:Cx) (s:St):au cx K cf .ret s=K .ret s:=by kernel_rfl
-- names: ac1,MJ,N9,L7,Np,Om,Oj,NA,uy
noncomputable def dN:Code:=al (am Tryz.f189) [1,1,0]
noncomputable def dH:List Fr:=[.seq (al (am Tryz.f189) [1,1,1])]
theorem abc:ak (xX s 189 wl k false) Tryz.f189 [a,d,b] h =
 bp (aP a h) fun v1 h2=>
 bp (aP b h2) fun v3 h4=>
 bp (yC s k wl 189 true true (.fn (.func 190) [] []) [] h4) fun v5 h6=>
 bm (aa s.P 55 v3 0) h6 fun v7 h8=>
 stO h4.length v7 (
 bm (ab s.P 3 v7 h8) h8 fun v9 hB=>
 bm (gD s.P 212 v5 v9 true hB) hB fun vA hC=>
 bm (aq vA 0) hC fun vD hH=>
 bm (aq vA 1) hH fun vC hD=>
 gd vC (
 bm (ab s.P 23 v1 hD) hD fun vB hE=>
 bp (yC s k wl 189 false true (.fn (.func 50) [] []) [vB] hE) fun vF hI=>
 yO s k wl 189 Tryz.f189 dN 4 hD.length ([],[]) dH ⟨[a,d,b,v1,uu,v3,(.lit (.bool false)),vD,vC,vA,v5,v7,v9,vA,vD,vC,vC,(.lit (.bool true)),vB,vF,uu,uu,uu,uu,uu,uu,uu,uu,uu,uu,uu,uu,uu,uu,uu,uu,uu,uu,uu,uu,uu,uu,uu],hI⟩) (
 yO s k wl 189 Tryz.f189 dN 4 hD.length ([],[]) dH ⟨[a,d,b,v1,uu,v3,(.lit (.bool false)),vD,vC,vA,v5,v7,v9,vA,vD,vC,vC,(.lit (.bool false)),uu,uu,uu,uu,uu,uu,uu,uu,uu,uu,uu,uu,uu,uu,uu,uu,uu,uu,uu,uu,uu,uu,uu,uu,uu],hD⟩) (
 yO s k wl 189 Tryz.f189 dN 3 hD.length ([],[]) dH ⟨[a,d,b,v1,uu,v3,(.lit (.bool false)),vD,vC,vA,v5,v7,v9,vA,vD,vC,vC,vC,uu,uu,uu,uu,uu,uu,uu,uu,uu,uu,uu,uu,uu,uu,uu,uu,uu,uu,uu,uu,uu,uu,uu,uu,uu],hD⟩)):=kB
theorem ahz:evF Tryz.prog xM (k+1) wl 189 [a,d,b] h=ak (xX (xS k) 189 wl k false) Tryz.f189 [a,d,b] h:=by kernel_rfl
theorem L4:yO s k wl 189 Tryz.f189 dN 4 m0 ac dH ⟨(a::d::b::g::i::l::o::j::p::q::r::u::G::E::A::B::D::y::z::F::J::I::M::L::Q::N::O::zz),h⟩ =
 bm (aR y F (.lit (.bool false))) h fun vG hO=>
 gd vG (
 bp (a7 s.P 26 d hO) fun vQ hQ=>
 bm (ab s.P 23 g hQ) hQ fun vL hG=>
 bp (yC s k wl 189 false true (.fn (.func 103) [] []) [vL] hG) fun vE hK=>
 bm (aw s.P .eql 3 vQ vE) hK fun vH hJ=>
 yO s k wl 189 Tryz.f189 dN 11 m0 ac dH ⟨(a::d::b::g::i::l::o::j::p::q::r::u::G::E::A::B::D::y::z::F::vG::(.lit (.bool true))::d::vQ::vL::vE::vH::zz),hJ⟩) (
 yO s k wl 189 Tryz.f189 dN 11 m0 ac dH ⟨(a::d::b::g::i::l::o::j::p::q::r::u::G::E::A::B::D::y::z::F::vG::(.lit (.bool false))::uu::uu::uu::uu::uu::zz),hO⟩) (
 yO s k wl 189 Tryz.f189 dN 7 m0 ac dH ⟨(a::d::b::g::i::l::o::j::p::q::r::u::G::E::A::B::D::y::z::F::vG::vG::uu::L::Q::N::O::zz),hO⟩):=kG
theorem Mw:yO s k wl 189 Tryz.f189 dN 11 m0 ac dH ⟨[a,d,b,g,i,l,o,j,p,q,r,u,G,E,A,B,D,y,z,F,J,I,M,L,Q,N,O,T,R,t1,W,X,Z,Y,t0,U,t3,t4,t2,t7,t6,t5,t8],h⟩ =
 bm (aR I O (.lit (.bool false))) h fun vJ hL=>
 gd vJ (
 bm (ab s.P 55 l hL) hL fun vI hM=>
 bp (yC s k wl 189 false true (.fn (.func 110) [] []) [vI] hM) fun vM hR=>
 bm (vUn .not vM) hR fun vO hN=>
 yO s k wl 189 Tryz.f189 dN 16 m0 ac dH ⟨[a,d,b,g,i,l,o,j,p,q,r,u,G,E,A,B,D,y,z,F,J,I,M,L,Q,N,O,vJ,(.lit (.bool true)),vI,vM,vO,Z,Y,t0,U,t3,t4,t2,t7,t6,t5,t8],hN⟩) (
 yO s k wl 189 Tryz.f189 dN 16 m0 ac dH ⟨[a,d,b,g,i,l,o,j,p,q,r,u,G,E,A,B,D,y,z,F,J,I,M,L,Q,N,O,vJ,(.lit (.bool false)),uu,uu,uu,Z,Y,t0,U,t3,t4,t2,t7,t6,t5,t8],hL⟩) (
 yO s k wl 189 Tryz.f189 dN 14 m0 ac dH ⟨[a,d,b,g,i,l,o,j,p,q,r,u,G,E,A,B,D,y,z,F,J,I,M,L,Q,N,O,vJ,vJ,uu,W,X,Z,Y,t0,U,t3,t4,t2,t7,t6,t5,t8],hL⟩):=kG
theorem MT:yO s k wl 189 Tryz.f189 dN 16 m0 ac dH ⟨[a,d,b,g,i,l,o,j,p,q,r,u,G,E,A,B,D,y,z,F,J,I,M,L,Q,N,O,T,R,t1,W,X,Z,Y,t0,U,t3,t4,t2,t7,t6,t5,t8],h⟩ =
 bm (aR R X (.lit (.bool false))) h fun vK hP=>
 gd vK (
 bm (aa s.P 55 l 1) hP fun vN hS=>
 bm (ab s.P 3 vN hS) hS fun vP hT=>
 bm (aw s.P .geq 3 vP (.lit (.int .i64 0))) hT fun vR hX=>
 yO s k wl 189 Tryz.f189 dN 21 m0 ac dH ⟨[a,d,b,g,i,l,o,j,p,q,r,u,G,E,A,B,D,y,z,F,J,I,M,L,Q,N,O,T,R,t1,W,X,vK,(.lit (.bool true)),vN,vP,vR,t4,t2,t7,t6,t5,t8],hX⟩) (
 yO s k wl 189 Tryz.f189 dN 21 m0 ac dH ⟨[a,d,b,g,i,l,o,j,p,q,r,u,G,E,A,B,D,y,z,F,J,I,M,L,Q,N,O,T,R,t1,W,X,vK,(.lit (.bool false)),uu,uu,uu,t4,t2,t7,t6,t5,t8],hP⟩) (
 yO s k wl 189 Tryz.f189 dN 19 m0 ac dH ⟨[a,d,b,g,i,l,o,j,p,q,r,u,G,E,A,B,D,y,z,F,J,I,M,L,Q,N,O,T,R,t1,W,X,vK,vK,uu,U,t3,t4,t2,t7,t6,t5,t8],hP⟩):=kG
theorem M2:yO s k wl 189 Tryz.f189 dN 21 m0 ac dH ⟨[a,d,b,g,i,l,o,j,p,q,r,u,G,E,A,B,D,y,z,F,J,I,M,L,Q,N,O,T,R,t1,W,X,Z,Y,t0,U,t3,t4,t2,t7,t6,t5,t8],h⟩ =
 bm (aR Y t3 (.lit (.bool false))) h fun vW hY=>
 gd vW (
 bm (aa s.P 55 l 1) hY fun vS hd=>
 bm (ab s.P 3 vS hd) hd fun vZ hA=>
 bm (aw s.P .leq 3 vZ (.lit (.int .i64 2))) hA fun vT hV=>
 yO s k wl 189 Tryz.f189 dN 26 m0 ac dH ⟨[a,d,b,g,i,l,o,j,p,q,r,u,G,E,A,B,D,y,z,F,J,I,M,L,Q,N,O,T,R,t1,W,X,Z,Y,t0,U,t3,vW,(.lit (.bool true)),vS,vZ,vT,t8],hV⟩) (
 yO s k wl 189 Tryz.f189 dN 26 m0 ac dH ⟨[a,d,b,g,i,l,o,j,p,q,r,u,G,E,A,B,D,y,z,F,J,I,M,L,Q,N,O,T,R,t1,W,X,Z,Y,t0,U,t3,vW,(.lit (.bool false)),uu,uu,uu,t8],hY⟩) (
 yO s k wl 189 Tryz.f189 dN 24 m0 ac dH ⟨[a,d,b,g,i,l,o,j,p,q,r,u,G,E,A,B,D,y,z,F,J,I,M,L,Q,N,O,T,R,t1,W,X,Z,Y,t0,U,t3,vW,vW,uu,t6,t5,t8],hY⟩):=kG
theorem Mx:yO s k wl 189 Tryz.f189 dN 26 m0 ac dH ⟨[a,d,b,g,i,l,o,j,p,q,r,u,G,E,A,B,D,y,z,F,J,I,M,L,Q,N,O,T,R,t1,W,X,Z,Y,t0,U,t3,t4,t2,t7,t6,t5,t8],h⟩ =
 bm (aR t2 t5 (.lit (.bool false))) h fun va hZ=>
 some (va,hZ):=kG
theorem wy (cx:Cx) (s:St):au cx K dH .ret s=K .ret s:=by kernel_rfl
-- names: abc,L4,Mw,MT,M2,Mx,wy
theorem VL:ak (xX s 190 wl k false) Tryz.f190 [] h =
 bp (some (.map h.length,h++[.map []])) fun v1 h2=>
 bs (fe s.P wl 212 v1 (.lit (.int .i64 6)) (.fn (.func 215) [] []) h2) fun h3=>
 bs (fe s.P wl 212 v1 (.lit (.int .i64 7)) (.fn (.func 217) [] []) h3) fun h4=>
 some (v1,h4):=kB
theorem Zl:evF Tryz.prog xM (k+1) wl 190 [] h=ak (xX (xS k) 190 wl k false) Tryz.f190 [] h:=by kernel_rfl
-- names: VL,
noncomputable def B4:Code:=al (am Tryz.f194) [1,0,1,0,0]
noncomputable def B9:List Fr:=[.block 0,.seq (al (am Tryz.f194) [1,1])]
theorem YT:ak (xX s 194 wl k false) Tryz.f194 [a,d,b] h =
 bp (aP a h) fun v1 h2=>
 bp (some (.own h2.length 0 0,h2++[.rows 0 [] 0 true])) fun v3 h4=>
 bp (a7 s.P 53 b h4) fun v5 h6=>
 yI s k wl 194 Tryz.f194 B4 h6.length B9 k ⟨[(V.kill h6.length a),(V.kill h6.length d),(V.kill h6.length b),(V.kill h6.length v1),(V.kill h6.length uu),(V.kill h6.length uu),(V.kill h6.length v3),(V.kill h6.length uu),(V.kill h6.length uu),(V.kill h6.length b),(V.kill h6.length v5),(.lit (.int .i64 0)),.junk,.junk,.junk,.junk,.junk,.junk,.junk,.junk,.junk,(V.kill h6.length uu)],bN h6.length h6⟩:=kB
theorem adB:evF Tryz.prog xM (k+1) wl 194 [a,d,b] h=ak (xX (xS k) 194 wl k false) Tryz.f194 [a,d,b] h:=by kernel_rfl
theorem WT (P:Program):ap P Tryz.f194 .ret ⟨[a,d,b,g,i,l,o,j,p,q,r,u,G,E,A,B,D,y,z,F,J,I],h⟩=some (o,h):=by kernel_rfl
theorem MK:itX (xX s 194 wl k rd) B4 n0 K (n+1) ⟨[a,d,b,g,i,l,o,j,p,q,r,u,G,E,A,B,D,y,z,F,J,I],h⟩ =
 bm (aw s.P .lss 3 u r) h fun v7 h8=>
 cnd v7 (
 bm (ai s.P 53 q u h8) h8 fun v9 hB=>
 bm (ab s.P 3 v9 hB) hB fun vA hC=>
 bm (ab s.P 23 g hC) hC fun vD hH=>
 bp (bE (xX s 194 wl k rd) false true (.fn (.func 32) [] []) [vD,vA] hH) fun vC hD=>
 bp (bE (xX s 194 wl k rd) false true (.fn (.func 88) [] []) [d,vC,(.lit (.int .u64 1))] hD) fun vB hE=>
 bm (aw s.P .add 3 u (.lit (.int .i64 1))) hE fun vF hI=>
 itX (xX s 194 wl k rd) B4 n0 K n ⟨[(V.kill n0 a),(V.kill n0 vB),(V.kill n0 b),(V.kill n0 g),(V.kill n0 i),(V.kill n0 l),(V.kill n0 o),(V.kill n0 j),(V.kill n0 vA),(V.kill n0 q),(V.kill n0 r),(V.kill n0 vF),.junk,.junk,.junk,.junk,.junk,.junk,.junk,.junk,.junk,(V.kill n0 I)],bN n0 hI⟩) (
 K (.exit 0) ⟨[(V.kill n0 a),(V.kill n0 d),(V.kill n0 b),(V.kill n0 g),(V.kill n0 i),(V.kill n0 l),(V.kill n0 o),(V.kill n0 j),(V.kill n0 p),(V.kill n0 q),(V.kill n0 r),.junk,.junk,.junk,.junk,.junk,.junk,.junk,.junk,.junk,.junk,(V.kill n0 I)],bN n0 h8⟩):=kI
theorem Hb:au (xX s 194 wl k false) (ap s.P Tryz.f194) B9 (.exit 0) ⟨[a,d,b,g,i,l,o,j,p,q,r,u,G,E,A,B,D,y,z,F,J,I],h⟩ =
 some (d,h):=kR
theorem oa (cx:Cx) (s:St):au cx K B9 .ret s=K .ret s:=by kernel_rfl
-- names: YT,WT,MK,Hb,oa
noncomputable def Cm:List Fr:=[.seq (al (am Tryz.f207) [1,1,1,1])]
theorem ZU:ak (xX s 207 wl k false) Tryz.f207 [a,d,b] h =
 bp (aP a h) fun v1 h2=>
 bp (aP b h2) fun v3 h4=>
 bp (some (.own h4.length 0 0,h4++[.rows 0 [] 0 true])) fun v5 h6=>
 bp (av s.P 55 h6) fun v7 h8=>
 stO h8.length v3 (
 bm (ab s.P 55 v3 h8) h8 fun v9 hB=>
 stO h8.length v1 (
 bm (ab s.P 23 v1 hB) hB fun vA hC=>
 bp (yC s k wl 207 true true (.fn (.func 76) [] []) [d] hC) fun vD hH=>
 bm (bf s.P 235 [(0,v9),(1,vA),(2,vD)]) hH fun vC hD=>
 bp (aP vC hD) fun vB hE=>
 bm (bf s.P 236 [(0,(.fn (.func 224) [vB] [])),(1,(.fn (.func 225) [vB] [])),(2,(.fn (.func 226) [vB] [])),(3,(.fn (.func 227) [vB] []))]) hE fun vF hI=>
 bp (av s.P 236 hI) fun vG hO=>
 bs (aj s.P wl 236 vG vF hO) fun hU=>
 bm (ab s.P 23 v1 hU) hU fun vU hW=>
 bm (ab s.P 55 v3 hW) hW fun vq h27=>
 bp (yC s k wl 207 false true (.fn (.func 188) [] []) [vU,d,vq,(.lit (.int .i64 0)),(.lit (.int .i64 4))] h27) fun vr h29=>
 cnd vr (
 bm (aa s.P 55 v3 1) h29 fun v30 hg=>
 bm (ab s.P 3 v30 hg) hg fun vi hs=>
 bm (ai s.P 236 vG vi hs) hs fun vj hh=>
 bm (ab s.P 1 vj hh) hh fun vk hy=>
 bp (yC s k wl 207 false true vk [] hy) fun v38 h39=>
 au (xX s 207 wl k false) (ap s.P Tryz.f207) Cm .norm ⟨[a,d,b,v1,uu,v3,v5,v7,vB,vG,v9,vA,d,vD,vC,vB,vB,(.fn (.func 224) [vB] []),vB,(.fn (.func 225) [vB] []),vB,(.fn (.func 226) [vB] []),vB,(.fn (.func 227) [vB] []),vF,vU,d,vq,vr,v30,vi,vj,vk,v38,uu,uu,uu,uu,uu,uu,uu,uu],h39⟩) (
 au (xX s 207 wl k false) (ap s.P Tryz.f207) Cm .norm ⟨[a,d,b,v1,uu,v3,v5,v7,vB,vG,v9,vA,d,vD,vC,vB,vB,(.fn (.func 224) [vB] []),vB,(.fn (.func 225) [vB] []),vB,(.fn (.func 226) [vB] []),vB,(.fn (.func 227) [vB] []),vF,vU,d,vq,vr,uu,uu,uu,uu,uu,uu,uu,uu,uu,uu,uu,uu,uu],h29⟩))):=kB
theorem aio:evF Tryz.prog xM (k+1) wl 207 [a,d,b] h=ak (xX (xS k) 207 wl k false) Tryz.f207 [a,d,b] h:=by kernel_rfl
theorem NG:au (xX s 207 wl k false) (ap s.P Tryz.f207) Cm .norm ⟨[a,d,b,g,i,l,o,j,p,q,r,u,G,E,A,B,D,y,z,F,J,I,M,L,Q,N,O,T,R,t1,W,X,Z,Y,t0,U,t3,t4,t2,t7,t6,t5],h⟩ =
 bm (aV p h) h fun vw h41=>
 bm (aa s.P 235 vw 2) h41 fun vx hz=>
 bm (ab s.P 26 vx hz) hz fun vy hb=>
 bm (aV p hb) hb fun vd hc=>
 bm (aa s.P 235 vd 0) hc fun ve hi=>
 bm (ab s.P 55 ve hi) hi fun vV hj=>
 bs (aj s.P wl 55 j vV hj) fun hA=>
 ew [some vy,ab s.P 55 j hA] hA:=kR
theorem uw (cx:Cx) (s:St):au cx K Cm .ret s=K .ret s:=by kernel_rfl
-- names: ZU,NG,uw
theorem ZF:ak (xX s 208 wl k false) Tryz.f208 [a,d,b] h =
 bp (aP a h) fun v1 h2=>
 bp (aP b h2) fun v3 h4=>
 bp (some (.own h4.length 0 0,h4++[.rows 0 [] 0 true])) fun v5 h6=>
 bp (av s.P 55 h6) fun v7 h8=>
 bp (yC s k wl 208 false true (.fn (.func 76) [] []) [d] h8) fun v9 hB=>
 bp (av s.P 26 hB) fun vA hC=>
 bs (aj s.P wl 26 vA v9 hC) fun hn=>
 bm (ab s.P 23 v1 hn) hn fun vl hk=>
 bm (ab s.P 55 v3 hk) hk fun vm h17=>
 bp (yC s k wl 208 false true (.fn (.func 188) [] []) [vl,d,vm,(.lit (.int .i64 1)),(.lit (.int .i64 7))] h17) fun vn ho=>
 bm (vUn .not vn) ho fun vo hF=>
 cnd vo (
 bm (ab s.P 26 vA hF) hF fun vf hU=>
 bm (ab s.P 55 v3 hU) hU fun vU hW=>
 bs (aj s.P wl 55 v7 vU hW) fun hG=>
 ew [some vf,ab s.P 55 v7 hG] hG) (
 bp (av s.P 3 hF) fun vE hK=>
 bm (ab s.P 23 v1 hK) hK fun vH hJ=>
 bm (aa s.P 55 v3 2) hJ fun vJ hL=>
 bm (ab s.P 3 vJ hL) hL fun vI hM=>
 bp (yC s k wl 208 true true (.fn (.func 107) [] []) [vH,vI] hM) fun vM hR=>
 stO hF.length v1 (
 bm (ab s.P 23 v1 hR) hR fun vO hN=>
 bm (aa s.P 55 v3 2) hN fun vK hP=>
 stO hF.length vK (
 bm (ab s.P 3 vK hP) hP fun vN hS=>
 bp (yC s k wl 208 true true (.fn (.func 108) [] []) [vO,vN] hS) fun vP hT=>
 bs (aj s.P wl 3 vE vP hT) fun hb=>
 bm (aa s.P 55 v3 1) hb fun vd hc=>
 bm (ab s.P 3 vd hc) hc fun ve hi=>
 bm (aw s.P .add 3 ve (.lit (.int .i64 1))) hi fun vV hj=>
 bm (aa s.P 55 v3 1) hj fun vz h53=>
 bm (ab s.P 3 vz h53) h53 fun vb h55=>
 bm (aw s.P .eql 3 vb (.lit (.int .i64 0))) h55 fun v56 h57=>
 cnd v56 (
 bm (ab s.P 26 vA h57) h57 fun v58 h59=>
 bm (ab s.P 3 vE h59) h59 fun v60 h61=>
 bp (yC s k wl 208 false true (.fn (.func 27) [] []) [v58,v60] h61) fun v62 h63=>
 bm (aw s.P .sub 46 v62 (.lit (.int .u64 1))) h63 fun v64 h65=>
 bm (aa s.P 55 v3 4) h65 fun v66 h67=>
 bs (aj s.P wl 46 v66 v64 h67) fun ha=>
 bm (aa s.P 55 v3 1) ha fun vc hm=>
 bs (aj s.P wl 3 vc vV hm) fun h71=>
 bm (ab s.P 26 vA h71) h71 fun v72 h73=>
 bm (ab s.P 55 v3 h73) h73 fun v74 h75=>
 bs (aj s.P wl 55 v7 v74 h75) fun hp=>
 ew [some v72,ab s.P 55 v7 hp] hp) (
 bm (aw s.P .eql 3 vb (.lit (.int .i64 1))) h57 fun vs hq=>
 cnd vs (
 bm (ab s.P 26 vA hq) hq fun vt hr=>
 bm (ab s.P 3 vE hr) hr fun vu h82=>
 bm (aa s.P 55 v3 4) h82 fun v83 h84=>
 bm (ab s.P 46 v83 h84) h84 fun v85 h86=>
 bp (yC s k wl 208 false true (.fn (.func 88) [] []) [vt,vu,v85] h86) fun v87 ht=>
 bs (aj s.P wl 26 vA v87 ht) fun h89=>
 bm (aa s.P 55 v3 1) h89 fun v90 h91=>
 bs (aj s.P wl 3 v90 vV h91) fun h92=>
 bm (ab s.P 26 vA h92) h92 fun v93 h94=>
 bm (ab s.P 55 v3 h94) h94 fun v95 h96=>
 bs (aj s.P wl 55 v7 v95 h96) fun h97=>
 ew [some v93,ab s.P 55 v7 h97] h97) (
 bm (aw s.P .eql 3 vb (.lit (.int .i64 2))) hq fun v98 h99=>
 cnd v98 (
 bm (ab s.P 26 vA h99) h99 fun v100 h101=>
 bp (yC s k wl 208 false true (.fn (.func 27) [] []) [v100,vM] h101) fun v102 h103=>
 bm (aa s.P 55 v3 5) h103 fun v104 h105=>
 bs (aj s.P wl 46 v104 v102 h105) fun h106=>
 bm (aa s.P 55 v3 4) h106 fun v107 h108=>
 bm (ab s.P 46 v107 h108) h108 fun v109 h110=>
 bm (aa s.P 55 v3 5) h110 fun v111 h112=>
 bm (ab s.P 46 v111 h112) h112 fun v113 h114=>
 bp (yC s k wl 208 false true (.fn (.func 106) [] []) [v109,v113] h114) fun v115 h116=>
 bm (aw s.P .lss 3 v115 (.lit (.int .i64 0))) h116 fun v117 h118=>
 cnd v117 (
 bm (aa s.P 55 v3 1) h118 fun v119 h120=>
 bs (aj s.P wl 3 v119 (.lit (.int .i64 6)) h120) fun h121=>
 bm (ab s.P 26 vA h121) h121 fun v122 h123=>
 bm (ab s.P 55 v3 h123) h123 fun v124 h125=>
 bs (aj s.P wl 55 v7 v124 h125) fun h126=>
 ew [some v122,ab s.P 55 v7 h126] h126) (
 bm (aa s.P 55 v3 1) h118 fun v127 h128=>
 bs (aj s.P wl 3 v127 vV h128) fun h129=>
 bm (ab s.P 26 vA h129) h129 fun v130 h131=>
 bm (ab s.P 55 v3 h131) h131 fun v132 h133=>
 bs (aj s.P wl 55 v7 v132 h133) fun h134=>
 ew [some v130,ab s.P 55 v7 h134] h134)) (
 bm (aw s.P .eql 3 vb (.lit (.int .i64 3))) h99 fun v135 hu=>
 cnd v135 (
 stO hu.length vA (
 bm (ab s.P 26 vA hu) hu fun v137 h138=>
 bm (ab s.P 23 v1 h138) h138 fun v139 h140=>
 bm (aa s.P 55 v3 2) h140 fun v141 h142=>
 bm (ab s.P 3 v141 h142) h142 fun v143 h144=>
 bm (aa s.P 55 v3 4) h144 fun v145 h146=>
 bm (ab s.P 46 v145 h146) h146 fun v147 h148=>
 bp (yC s k wl 208 true true (.fn (.func 109) [] []) [v139,v143,v147] h148) fun v149 h150=>
 bp (yC s k wl 208 false true (.fn (.func 27) [] []) [v137,v149] h150) fun v151 h152=>
 bm (aa s.P 55 v3 3) h152 fun v153 h154=>
 bs (aj s.P wl 46 v153 v151 h154) fun h155=>
 bm (aa s.P 55 v3 4) h155 fun v156 h157=>
 bm (ab s.P 46 v156 h157) h157 fun v158 h159=>
 bm (aa s.P 55 v3 5) h159 fun v160 h161=>
 bm (ab s.P 46 v160 h161) h161 fun v162 h163=>
 bm (aw s.P .neq 46 v158 v162) h163 fun v164 hv=>
 cnd v164 (
 stO hv.length vA (
 bm (ab s.P 26 vA hv) hv fun v166 h167=>
 bm (ab s.P 55 v3 h167) h167 fun v168 h169=>
 bm (aa s.P 55 v3 3) h169 fun v170 h171=>
 bm (ab s.P 46 v170 h171) h171 fun v172 h173=>
 bp (yC s k wl 208 true true (.fn (.func 193) [] []) [v168,(.lit (.int .i64 1)),v172] h173) fun v174 h175=>
 bs (aj s.P wl 55 v7 v174 h175) fun h176=>
 ew [some v166,ab s.P 55 v7 h176] h176)) (
 bm (aa s.P 55 v3 1) hv fun v177 h178=>
 bs (aj s.P wl 3 v177 vV h178) fun h179=>
 bm (ab s.P 26 vA h179) h179 fun v180 h181=>
 bm (ab s.P 55 v3 h181) h181 fun v182 h183=>
 bs (aj s.P wl 55 v7 v182 h183) fun h184=>
 ew [some v180,ab s.P 55 v7 h184] h184))) (
 bm (aw s.P .eql 3 vb (.lit (.int .i64 4))) hu fun v185 h186=>
 cnd v185 (
 bm (ab s.P 26 vA h186) h186 fun v187 h188=>
 bm (aa s.P 55 v3 5) h188 fun v189 h190=>
 bm (ab s.P 46 v189 h190) h190 fun v191 h192=>
 bm (aa s.P 55 v3 5) h192 fun v193 h194=>
 bm (ab s.P 46 v193 h194) h194 fun v195 h196=>
 bm (aw s.P .add 46 v195 (.lit (.int .u64 1))) h196 fun v197 h198=>
 bp (yC s k wl 208 false true (.fn (.func 191) [] []) [v187,vM,v191,v197] h198) fun v199 h200=>
 bm (aq v199 0) h200 fun v201 h202=>
 bm (aq v199 1) h202 fun v203 h204=>
 bs (aj s.P wl 26 vA v201 h204) fun h205=>
 bm (vUn .not v203) h205 fun v206 h207=>
 cnd v206 (
 bm (aa s.P 55 v3 1) h207 fun v208 h209=>
 bs (aj s.P wl 3 v208 (.lit (.int .i64 6)) h209) fun h210=>
 bm (ab s.P 26 vA h210) h210 fun v211 h212=>
 bm (ab s.P 55 v3 h212) h212 fun v213 h214=>
 bs (aj s.P wl 55 v7 v213 h214) fun h215=>
 ew [some v211,ab s.P 55 v7 h215] h215) (
 bm (aa s.P 55 v3 1) h207 fun v216 h217=>
 bs (aj s.P wl 3 v216 vV h217) fun h218=>
 bm (ab s.P 26 vA h218) h218 fun v219 h220=>
 bm (ab s.P 55 v3 h220) h220 fun v221 h222=>
 bs (aj s.P wl 55 v7 v221 h222) fun h223=>
 ew [some v219,ab s.P 55 v7 h223] h223)) (
 bm (aw s.P .eql 3 vb (.lit (.int .i64 5))) h186 fun v224 h225=>
 cnd v224 (
 bm (aa s.P 55 v3 3) h225 fun v226 h227=>
 bm (ab s.P 46 v226 h227) h227 fun v228 h229=>
 bp (yC s k wl 208 false true (.fn (.func 228) [] [vA,vE,v3]) [(.lit (.int .i64 1)),v228] h229) fun v230 h231=>
 bm (aq v230 0) h231 fun v232 h233=>
 bm (aq v230 1) h233 fun v234 h235=>
 bs (aj s.P wl 55 v7 v234 h235) fun h236=>
 ew [some v232,ab s.P 55 v7 h236] h236) (
 bp (yC s k wl 208 false true (.fn (.func 228) [] [vA,vE,v3]) [(.lit (.int .i64 3)),(.lit (.int .u64 0))] h225) fun v237 h238=>
 bm (aq v237 0) h238 fun v239 h240=>
 bm (aq v237 1) h240 fun v241 h242=>
 bs (aj s.P wl 55 v7 v241 h242) fun h243=>
 ew [some v239,ab s.P 55 v7 h243] h243))))))))):=kB
theorem afB:evF Tryz.prog xM (k+1) wl 208 [a,d,b] h=ak (xX (xS k) 208 wl k false) Tryz.f208 [a,d,b] h:=by kernel_rfl
-- names: ZF,
noncomputable def Cr:Code:=al (am Tryz.f209) [1,0,1,1,1,1,1,0,1,0,0]
noncomputable def BZ:List Fr:=[.block 0,.seq (al (am Tryz.f209) [1,0,1,1,1,1,1,1]),.scope (al (am Tryz.f209) [1,0])]
theorem VD:ak (xX s 209 wl k false) Tryz.f209 [a,d,b] h =
 bp (aP a h) fun v1 h2=>
 bp (aP b h2) fun v3 h4=>
 bp (some (.own h4.length 0 0,h4++[.rows 0 [] 0 true])) fun v5 h6=>
 bp (av s.P 55 h6) fun v7 h8=>
 bp (yC s k wl 209 false true (.fn (.func 76) [] []) [d] h8) fun v9 hB=>
 bp (av s.P 26 hB) fun vA hC=>
 bs (aj s.P wl 26 vA v9 hC) fun hn=>
 bm (ab s.P 23 v1 hn) hn fun vl hk=>
 bm (ab s.P 55 v3 hk) hk fun vm h17=>
 bp (yC s k wl 209 false true (.fn (.func 188) [] []) [vl,d,vm,(.lit (.int .i64 2)),(.lit (.int .i64 4))] h17) fun vn ho=>
 bm (vUn .not vn) ho fun vo hF=>
 cnd vo (
 bm (ab s.P 26 vA hF) hF fun vf hU=>
 bm (ab s.P 55 v3 hU) hU fun vU hW=>
 bs (aj s.P wl 55 v7 vU hW) fun hG=>
 ew [some vf,ab s.P 55 v7 hG] hG) (
 bp (av s.P 3 hF) fun vE hK=>
 bp (av s.P 3 hK) fun vH hJ=>
 bm (ab s.P 23 v1 hJ) hJ fun vJ hL=>
 bm (aa s.P 55 v3 2) hL fun vI hM=>
 bm (ab s.P 3 vI hM) hM fun vM hR=>
 bp (yC s k wl 209 true true (.fn (.func 107) [] []) [vJ,vM] hR) fun vO hN=>
 stO hF.length v1 (
 bm (ab s.P 23 v1 hN) hN fun vK hP=>
 bm (aa s.P 55 v3 2) hP fun vN hS=>
 stO hF.length vN (
 bm (ab s.P 3 vN hS) hS fun vP hT=>
 bp (yC s k wl 209 true true (.fn (.func 108) [] []) [vK,vP] hT) fun vR hX=>
 bs (aj s.P wl 3 vE vO hX) fun hc=>
 bs (aj s.P wl 3 vH vR hc) fun hY=>
 bp (aB s.P wl 238 4 [(0,(.fn (.func 229) [] [vA,vE,v3])),(1,(.fn (.func 230) [] [vA,vH,v3])),(2,(.fn (.func 231) [] [vA,v1,v3])),(3,(.fn (.func 232) [] [vA,vE,v3]))] hY) fun vS hd=>
 bp (a7 s.P 238 vS hd) fun vZ hA=>
 yI s k wl 209 Tryz.f209 Cr hA.length BZ k ⟨[(V.kill hA.length a),(V.kill hA.length d),(V.kill hA.length b),(V.kill hA.length v1),(V.kill hA.length uu),(V.kill hA.length v3),(V.kill hA.length v5),(V.kill hA.length v7),(V.kill hA.length vA),(V.kill hA.length vE),(V.kill hA.length vH),(V.kill hA.length vS),(V.kill hA.length uu),(V.kill hA.length uu),(V.kill hA.length d),(V.kill hA.length v9),(V.kill hA.length vl),(V.kill hA.length d),(V.kill hA.length vm),(V.kill hA.length vn),(V.kill hA.length vo),(V.kill hA.length uu),(V.kill hA.length uu),(V.kill hA.length vJ),(V.kill hA.length vI),(V.kill hA.length vM),(V.kill hA.length vO),(V.kill hA.length vK),(V.kill hA.length vN),(V.kill hA.length vP),(V.kill hA.length vR),(V.kill hA.length (.fn (.func 229) [] [vA,vE,v3])),(V.kill hA.length (.fn (.func 230) [] [vA,vH,v3])),(V.kill hA.length (.fn (.func 231) [] [vA,v1,v3])),(V.kill hA.length (.fn (.func 232) [] [vA,vE,v3])),(V.kill hA.length vS),(V.kill hA.length vS),(V.kill hA.length vZ),(.lit (.int .i64 0)),.junk,.junk,.junk,.junk,.junk,.junk,.junk,.junk,.junk,.junk,.junk,.junk,.junk,.junk,.junk,.junk,.junk,.junk,(V.kill hA.length uu),(V.kill hA.length uu)],bN hA.length hA⟩))):=kB
theorem abA:evF Tryz.prog xM (k+1) wl 209 [a,d,b] h=ak (xX (xS k) 209 wl k false) Tryz.f209 [a,d,b] h:=by kernel_rfl
theorem V7 (P:Program):ap P Tryz.f209 .ret ⟨[a,d,b,g,i,l,o,j,p,q,r,u,G,E,A,B,D,y,z,F,J,I,M,L,Q,N,O,T,R,t1,W,X,Z,Y,t0,U,t3,t4,t2,t7,t6,t5,t8,tc,th,td,ta,ti,te,tj,tf,tg,tb,t9,tm,tn,tp,tk,tl],h⟩=ew [some o,ab P 55 j h] h:=by kernel_rfl
theorem Nl:itX (xX s 209 wl k rd) Cr n0 K (n+1) ⟨[a,d,b,g,i,l,o,j,p,q,r,u,G,E,A,B,D,y,z,F,J,I,M,L,Q,N,O,T,R,t1,W,X,Z,Y,t0,U,t3,t4,t2,t7,t6,t5,t8,tc,th,td,ta,ti,te,tj,tf,tg,tb,t9,tm,tn,tp,tk,tl],h⟩ =
 bm (aw s.P .lss 3 t2 t4) h fun vT hV=>
 cnd vT (
 bm (ai s.P 238 t3 t2 hV) hV fun va hZ=>
 bm (ab s.P 1 va hZ) hZ fun vX hw=>
 bm (aa s.P 55 l 1) hw fun vp he=>
 bm (ab s.P 3 vp he) he fun vY hf=>
 bm (aw s.P .neq 3 t2 vY) hf fun vg hl=>
 cnd vg (
 bm (aw s.P .add 3 t2 (.lit (.int .i64 1))) hl fun vh hx=>
 itX (xX s 209 wl k rd) Cr n0 K n ⟨[(V.kill n0 a),(V.kill n0 d),(V.kill n0 b),(V.kill n0 g),(V.kill n0 i),(V.kill n0 l),(V.kill n0 o),(V.kill n0 j),(V.kill n0 p),(V.kill n0 q),(V.kill n0 r),(V.kill n0 u),(V.kill n0 t2),(V.kill n0 vX),(V.kill n0 A),(V.kill n0 B),(V.kill n0 D),(V.kill n0 y),(V.kill n0 z),(V.kill n0 F),(V.kill n0 J),(V.kill n0 I),(V.kill n0 M),(V.kill n0 L),(V.kill n0 Q),(V.kill n0 N),(V.kill n0 O),(V.kill n0 T),(V.kill n0 R),(V.kill n0 t1),(V.kill n0 W),(V.kill n0 X),(V.kill n0 Z),(V.kill n0 Y),(V.kill n0 t0),(V.kill n0 U),(V.kill n0 t3),(V.kill n0 t4),(V.kill n0 vh),.junk,.junk,.junk,.junk,.junk,.junk,.junk,.junk,.junk,.junk,.junk,.junk,.junk,.junk,.junk,.junk,.junk,.junk,(V.kill n0 tk),(V.kill n0 tl)],bN n0 hx⟩) (
 bp (bE (xX s 209 wl k rd) false true vX [] hl) fun vv ha=>
 bm (ab s.P 55 l ha) ha fun vc hm=>
 bp (bE (xX s 209 wl k rd) false true (.fn (.func 110) [] []) [vc] hm) fun v71 h72=>
 bm (vUn .not v71) h72 fun v73 h74=>
 cnd v73 (
 bm (aa s.P 55 l 1) h74 fun v75 hp=>
 bm (ab s.P 3 v75 hp) hp fun vs hq=>
 bm (aw s.P .add 3 vs (.lit (.int .i64 1))) hq fun vt hr=>
 bm (aa s.P 55 l 1) hr fun vu h82=>
 bs (aj s.P wl 3 vu vt h82) fun h83=>
 K (.exit 0) ⟨[(V.kill n0 a),(V.kill n0 d),(V.kill n0 b),(V.kill n0 g),(V.kill n0 i),(V.kill n0 l),(V.kill n0 o),(V.kill n0 j),(V.kill n0 p),(V.kill n0 q),(V.kill n0 r),(V.kill n0 u),(V.kill n0 t2),(V.kill n0 vX),(V.kill n0 A),(V.kill n0 B),(V.kill n0 D),(V.kill n0 y),(V.kill n0 z),(V.kill n0 F),(V.kill n0 J),(V.kill n0 I),(V.kill n0 M),(V.kill n0 L),(V.kill n0 Q),(V.kill n0 N),(V.kill n0 O),(V.kill n0 T),(V.kill n0 R),(V.kill n0 t1),(V.kill n0 W),(V.kill n0 X),(V.kill n0 Z),(V.kill n0 Y),(V.kill n0 t0),(V.kill n0 U),(V.kill n0 t3),(V.kill n0 t4),.junk,.junk,.junk,.junk,.junk,.junk,.junk,.junk,.junk,.junk,.junk,.junk,.junk,.junk,.junk,.junk,.junk,.junk,.junk,(V.kill n0 tk),(V.kill n0 tl)],bN n0 h83⟩) (
 K (.exit 0) ⟨[(V.kill n0 a),(V.kill n0 d),(V.kill n0 b),(V.kill n0 g),(V.kill n0 i),(V.kill n0 l),(V.kill n0 o),(V.kill n0 j),(V.kill n0 p),(V.kill n0 q),(V.kill n0 r),(V.kill n0 u),(V.kill n0 t2),(V.kill n0 vX),(V.kill n0 A),(V.kill n0 B),(V.kill n0 D),(V.kill n0 y),(V.kill n0 z),(V.kill n0 F),(V.kill n0 J),(V.kill n0 I),(V.kill n0 M),(V.kill n0 L),(V.kill n0 Q),(V.kill n0 N),(V.kill n0 O),(V.kill n0 T),(V.kill n0 R),(V.kill n0 t1),(V.kill n0 W),(V.kill n0 X),(V.kill n0 Z),(V.kill n0 Y),(V.kill n0 t0),(V.kill n0 U),(V.kill n0 t3),(V.kill n0 t4),.junk,.junk,.junk,.junk,.junk,.junk,.junk,.junk,.junk,.junk,.junk,.junk,.junk,.junk,.junk,.junk,.junk,.junk,.junk,(V.kill n0 tk),(V.kill n0 tl)],bN n0 h74⟩))) (
 K (.exit 0) ⟨[(V.kill n0 a),(V.kill n0 d),(V.kill n0 b),(V.kill n0 g),(V.kill n0 i),(V.kill n0 l),(V.kill n0 o),(V.kill n0 j),(V.kill n0 p),(V.kill n0 q),(V.kill n0 r),(V.kill n0 u),(V.kill n0 G),(V.kill n0 E),(V.kill n0 A),(V.kill n0 B),(V.kill n0 D),(V.kill n0 y),(V.kill n0 z),(V.kill n0 F),(V.kill n0 J),(V.kill n0 I),(V.kill n0 M),(V.kill n0 L),(V.kill n0 Q),(V.kill n0 N),(V.kill n0 O),(V.kill n0 T),(V.kill n0 R),(V.kill n0 t1),(V.kill n0 W),(V.kill n0 X),(V.kill n0 Z),(V.kill n0 Y),(V.kill n0 t0),(V.kill n0 U),(V.kill n0 t3),(V.kill n0 t4),.junk,.junk,.junk,.junk,.junk,.junk,.junk,.junk,.junk,.junk,.junk,.junk,.junk,.junk,.junk,.junk,.junk,.junk,.junk,(V.kill n0 tk),(V.kill n0 tl)],bN n0 hV⟩):=kI
theorem Gb:au (xX s 209 wl k false) (ap s.P Tryz.f209) BZ (.exit 0) ⟨[a,d,b,g,i,l,o,j,p,q,r,u,G,E,A,B,D,y,z,F,J,I,M,L,Q,N,O,T,R,t1,W,X,Z,Y,t0,U,t3,t4,t2,t7,t6,t5,t8,tc,th,td,ta,ti,te,tj,tf,tg,tb,t9,tm,tn,tp,tk,tl],h⟩ =
 bm (ab s.P 26 p h) h fun v84 h85=>
 bm (ab s.P 55 l h85) h85 fun v86 h87=>
 bs (aj s.P wl 55 j v86 h87) fun ht=>
 ew [some v84,ab s.P 55 j ht] ht:=kR
theorem nN (cx:Cx) (s:St):au cx K BZ .ret s=K .ret s:=by kernel_rfl
-- names: VD,V7,Nl,Gb,nN
theorem ON:ak (xX s 215 wl k false) Tryz.f215 [a] h =
 bp (yC s k wl 215 false true (.fn (.func 216) [] []) [a] h) fun v1 h2=>
 bm (aq v1 0) h2 fun v3 h4=>
 bm (aq v1 1) h4 fun v5 h6=>
 bm (gS true [v5,(.lit (.int .i64 0))]) h6 fun v7 h8=>
 bm (fY s.P 3 46 v7) h8 fun v9 hB=>
 some (.tup [v3,v9],hB):=kB
theorem Ya:evF Tryz.prog xM (k+1) wl 215 [a] h=ak (xX (xS k) 215 wl k false) Tryz.f215 [a] h:=by kernel_rfl
-- names: ON,
theorem PC:ak (xX s 217 wl k false) Tryz.f217 [a] h =
 bp (yC s k wl 217 false true (.fn (.func 218) [] []) [a] h) fun v1 h2=>
 bp (yC s k wl 217 false true (.fn (.func 192) [] []) [a] h2) fun v3 h4=>
 some (.tup [v1,v3],h4):=kB
theorem Zc:evF Tryz.prog xM (k+1) wl 217 [a] h=ak (xX (xS k) 217 wl k false) Tryz.f217 [a] h:=by kernel_rfl
-- names: PC,
theorem Z7:ak (xX s 224 wl k false) Tryz.f224 [a] h =
 stO h.length a (
 bm (aV a h) h fun v1 h2=>
 bm (aa s.P 235 v1 2) h2 fun v3 h4=>
 stO h.length v3 (
 bm (ab s.P 26 v3 h4) h4 fun v5 h6=>
 bm (aV a h6) h6 fun v7 h8=>
 bm (aa s.P 235 v7 1) h8 fun v9 hB=>
 bm (ab s.P 23 v9 hB) hB fun vA hC=>
 bm (aV a hC) hC fun vD hH=>
 bm (aa s.P 235 vD 0) hH fun vC hD=>
 bm (aa s.P 55 vC 2) hD fun vB hE=>
 bm (ab s.P 3 vB hE) hE fun vF hI=>
 bp (yC s k wl 224 true true (.fn (.func 108) [] []) [vA,vF] hI) fun vG hO=>
 bp (yC s k wl 224 false true (.fn (.func 27) [] []) [v5,vG] hO) fun vQ hQ=>
 bm (aV a hQ) hQ fun vL hG=>
 bm (aa s.P 235 vL 0) hG fun vE hK=>
 bm (aa s.P 55 vE 4) hK fun vH hJ=>
 bs (aj s.P wl 46 vH vQ hJ) fun hg=>
 bm (aV a hg) hg fun vi hs=>
 bm (aa s.P 235 vi 0) hs fun vj hh=>
 bm (aa s.P 55 vj 1) hh fun vk hy=>
 bs (aj s.P wl 3 vk (.lit (.int .i64 1)) hy) fun hN=>
 some (.tup [],hN))):=kB
theorem afN:evF Tryz.prog xM (k+1) wl 224 [a] h=ak (xX (xS k) 224 wl k false) Tryz.f224 [a] h:=by kernel_rfl
-- names: Z7,
theorem act:ak (xX s 225 wl k false) Tryz.f225 [a] h =
 stO h.length a (
 bm (aV a h) h fun v1 h2=>
 bm (aa s.P 235 v1 2) h2 fun v3 h4=>
 stO h.length v3 (
 bm (ab s.P 26 v3 h4) h4 fun v5 h6=>
 bm (aV a h6) h6 fun v7 h8=>
 bm (aa s.P 235 v7 1) h8 fun v9 hB=>
 bm (ab s.P 23 v9 hB) hB fun vA hC=>
 bm (aV a hC) hC fun vD hH=>
 bm (aa s.P 235 vD 0) hH fun vC hD=>
 bm (aa s.P 55 vC 2) hD fun vB hE=>
 bm (ab s.P 3 vB hE) hE fun vF hI=>
 bp (yC s k wl 225 true true (.fn (.func 107) [] []) [vA,vF] hI) fun vG hO=>
 bp (yC s k wl 225 false true (.fn (.func 27) [] []) [v5,vG] hO) fun vQ hQ=>
 bm (aV a hQ) hQ fun vL hG=>
 bm (aa s.P 235 vL 0) hG fun vE hK=>
 bm (aa s.P 55 vE 5) hK fun vH hJ=>
 bs (aj s.P wl 46 vH vQ hJ) fun hg=>
 bm (aV a hg) hg fun vi hs=>
 bm (aa s.P 235 vi 0) hs fun vj hh=>
 bm (aa s.P 55 vj 1) hh fun vk hy=>
 bs (aj s.P wl 3 vk (.lit (.int .i64 2)) hy) fun hN=>
 bm (aV a hN) hN fun vK hP=>
 bm (aa s.P 235 vK 0) hP fun vN hS=>
 bm (aa s.P 55 vN 4) hS fun vP hT=>
 bm (ab s.P 46 vP hT) hT fun vR hX=>
 bm (aV a hX) hX fun vW hY=>
 bm (aa s.P 235 vW 0) hY fun vS hd=>
 bm (aa s.P 55 vS 5) hd fun vZ hA=>
 bm (ab s.P 46 vZ hA) hA fun vT hV=>
 bm (aw s.P .sub 46 vR vT) hV fun va hZ=>
 bm (aV a hZ) hZ fun vX hw=>
 bm (aa s.P 235 vX 1) hw fun vp he=>
 bm (aa s.P 23 vp 1) he fun vY hf=>
 bm (ab s.P 3 vY hf) hf fun vg hl=>
 bm (fY s.P 3 46 vg) hl fun vh hx=>
 bm (aw s.P .geq 46 va vh) hx fun vv ha=>
 cnd vv (
 bm (aV a ha) ha fun vc hm=>
 bm (aa s.P 235 vc 0) hm fun v71 h72=>
 bm (ab s.P 55 v71 h72) h72 fun v73 h74=>
 bm (aV a h74) h74 fun v75 hp=>
 bm (aa s.P 235 v75 0) hp fun vs hq=>
 bm (aa s.P 55 vs 3) hq fun vt hr=>
 bm (ab s.P 46 vt hr) hr fun vu h82=>
 bp (yC s k wl 225 false true (.fn (.func 193) [] []) [v73,(.lit (.int .i64 2)),vu] h82) fun v83 h84=>
 bm (aV a h84) h84 fun v85 h86=>
 bm (aa s.P 235 v85 0) h86 fun v87 ht=>
 bs (aj s.P wl 55 v87 v83 ht) fun h89=>
 some (.tup [],h89)) (
 some (.tup [],ha)))):=kB
theorem ah5:evF Tryz.prog xM (k+1) wl 225 [a] h=ak (xX (xS k) 225 wl k false) Tryz.f225 [a] h:=by kernel_rfl
-- names: act,
theorem ac9:ak (xX s 226 wl k false) Tryz.f226 [a] h =
 stO h.length a (
 bm (aV a h) h fun v1 h2=>
 bm (aa s.P 235 v1 2) h2 fun v3 h4=>
 stO h.length v3 (
 bm (ab s.P 26 v3 h4) h4 fun v5 h6=>
 bm (aV a h6) h6 fun v7 h8=>
 bm (aa s.P 235 v7 1) h8 fun v9 hB=>
 bm (ab s.P 23 v9 hB) hB fun vA hC=>
 bm (aV a hC) hC fun vD hH=>
 bm (aa s.P 235 vD 0) hH fun vC hD=>
 bm (aa s.P 55 vC 2) hD fun vB hE=>
 bm (ab s.P 3 vB hE) hE fun vF hI=>
 bm (aV a hI) hI fun vG hO=>
 bm (aa s.P 235 vG 0) hO fun vQ hQ=>
 bm (aa s.P 55 vQ 4) hQ fun vL hG=>
 bm (ab s.P 46 vL hG) hG fun vE hK=>
 bp (yC s k wl 226 true true (.fn (.func 109) [] []) [vA,vF,vE] hK) fun vH hJ=>
 stO h.length a (
 bm (aV a hJ) hJ fun vJ hL=>
 bm (aa s.P 235 vJ 0) hL fun vI hM=>
 bm (aa s.P 55 vI 3) hM fun vM hR=>
 stO h.length vM (
 bm (ab s.P 46 vM hR) hR fun vO hN=>
 bp (yC s k wl 226 false true (.fn (.func 88) [] []) [v5,vH,vO] hN) fun vK hP=>
 bm (aV a hP) hP fun vN hS=>
 bm (aa s.P 235 vN 2) hS fun vP hT=>
 bs (aj s.P wl 26 vP vK hT) fun hb=>
 bm (aV a hb) hb fun vd hc=>
 bm (aa s.P 235 vd 0) hc fun ve hi=>
 bm (aa s.P 55 ve 1) hi fun vV hj=>
 bs (aj s.P wl 3 vV (.lit (.int .i64 3)) hj) fun hA=>
 some (.tup [],hA))))):=kB
theorem ahr:evF Tryz.prog xM (k+1) wl 226 [a] h=ak (xX (xS k) 226 wl k false) Tryz.f226 [a] h:=by kernel_rfl
-- names: ac9,
theorem ab4:ak (xX s 227 wl k false) Tryz.f227 [a] h =
 stO h.length a (
 bm (aV a h) h fun v1 h2=>
 bm (aa s.P 235 v1 2) h2 fun v3 h4=>
 stO h.length v3 (
 bm (ab s.P 26 v3 h4) h4 fun v5 h6=>
 bm (aV a h6) h6 fun v7 h8=>
 bm (aa s.P 235 v7 1) h8 fun v9 hB=>
 bm (ab s.P 23 v9 hB) hB fun vA hC=>
 bm (aV a hC) hC fun vD hH=>
 bm (aa s.P 235 vD 0) hH fun vC hD=>
 bm (aa s.P 55 vC 2) hD fun vB hE=>
 bm (ab s.P 3 vB hE) hE fun vF hI=>
 bp (yC s k wl 227 true true (.fn (.func 108) [] []) [vA,vF] hI) fun vG hO=>
 stO h.length a (
 bm (aV a hO) hO fun vQ hQ=>
 bm (aa s.P 235 vQ 0) hQ fun vL hG=>
 bm (aa s.P 55 vL 4) hG fun vE hK=>
 stO h.length vE (
 bm (ab s.P 46 vE hK) hK fun vH hJ=>
 bm (aw s.P .add 46 vH (.lit (.int .u64 1))) hJ fun vJ hL=>
 bp (yC s k wl 227 false true (.fn (.func 88) [] []) [v5,vG,vJ] hL) fun vI hM=>
 bm (aV a hM) hM fun vM hR=>
 bm (aa s.P 235 vM 2) hR fun vO hN=>
 bs (aj s.P wl 26 vO vI hN) fun h39=>
 bm (aV a h39) h39 fun vw h41=>
 bm (aa s.P 235 vw 0) h41 fun vx hz=>
 bm (ab s.P 55 vx hz) hz fun vy hb=>
 bm (aV a hb) hb fun vd hc=>
 bm (aa s.P 235 vd 0) hc fun ve hi=>
 bm (aa s.P 55 ve 3) hi fun vV hj=>
 bm (ab s.P 46 vV hj) hj fun vz h53=>
 bp (yC s k wl 227 false true (.fn (.func 193) [] []) [vy,(.lit (.int .i64 1)),vz] h53) fun vb h55=>
 bm (aV a h55) h55 fun v56 h57=>
 bm (aa s.P 235 v56 0) h57 fun v58 h59=>
 bs (aj s.P wl 55 v58 vb h59) fun he=>
 some (.tup [],he))))):=kB
theorem af9:evF Tryz.prog xM (k+1) wl 227 [a] h=ak (xX (xS k) 227 wl k false) Tryz.f227 [a] h:=by kernel_rfl
-- names: ab4,
theorem Zk:ak (xX s 228 wl k false) Tryz.f228 [a,d,b,g,i] h =
 bp (some (.own h.length 0 0,h++[.rows 0 [] 0 true])) fun v1 h2=>
 bp (av s.P 55 h2) fun v3 h4=>
 bm (ab s.P 26 b h4) h4 fun v5 h6=>
 bm (ab s.P 3 g h6) h6 fun v7 h8=>
 bm (aa s.P 55 i 4) h8 fun v9 hB=>
 bm (ab s.P 46 v9 hB) hB fun vA hC=>
 bm (aw s.P .add 46 vA (.lit (.int .u64 1))) hC fun vD hH=>
 bp (yC s k wl 228 true true (.fn (.func 88) [] []) [v5,v7,vD] hH) fun vC hD=>
 stO h4.length i (
 bm (ab s.P 55 i hD) hD fun vB hE=>
 bp (yC s k wl 228 false true (.fn (.func 193) [] []) [vB,a,d] hE) fun vF hI=>
 bs (aj s.P wl 55 v3 vF hI) fun hF=>
 ew [some vC,ab s.P 55 v3 hF] hF):=kB
theorem aeW:evF Tryz.prog xM (k+1) wl 228 [a,d,b,g,i] h=ak (xX (xS k) 228 wl k false) Tryz.f228 [a,d,b,g,i] h:=by kernel_rfl
-- names: Zk,
theorem YH:ak (xX s 229 wl k false) Tryz.f229 [a,d,b] h =
 bm (ab s.P 26 a h) h fun v1 h2=>
 bm (ab s.P 3 d h2) h2 fun v3 h4=>
 bp (yC s k wl 229 false true (.fn (.func 27) [] []) [v1,v3] h4) fun v5 h6=>
 bm (aa s.P 55 b 5) h6 fun v7 h8=>
 bs (aj s.P wl 46 v7 v5 h8) fun h9=>
 some (.tup [],h9):=kB
theorem abY:evF Tryz.prog xM (k+1) wl 229 [a,d,b] h=ak (xX (xS k) 229 wl k false) Tryz.f229 [a,d,b] h:=by kernel_rfl
-- names: YH,
theorem V9:ak (xX s 230 wl k false) Tryz.f230 [a,d,b] h =
 bm (ab s.P 26 a h) h fun v1 h2=>
 bm (ab s.P 3 d h2) h2 fun v3 h4=>
 bp (yC s k wl 230 false true (.fn (.func 27) [] []) [v1,v3] h4) fun v5 h6=>
 bm (aa s.P 55 b 4) h6 fun v7 h8=>
 bs (aj s.P wl 46 v7 v5 h8) fun h9=>
 bm (aa s.P 55 b 4) h9 fun v10 h11=>
 bm (ab s.P 46 v10 h11) h11 fun v12 hn=>
 bm (aa s.P 55 b 5) hn fun vl hk=>
 bm (ab s.P 46 vl hk) hk fun vm h17=>
 bp (yC s k wl 230 false true (.fn (.func 106) [] []) [v12,vm] h17) fun vn ho=>
 bm (aw s.P .leq 3 vn (.lit (.int .i64 0))) ho fun vo hF=>
 cnd vo (
 bm (ab s.P 55 b hF) hF fun vf hU=>
 bp (yC s k wl 230 false true (.fn (.func 193) [] []) [vf,(.lit (.int .i64 3)),(.lit (.int .u64 0))] hU) fun vU hW=>
 bs (aj s.P wl 55 b vU hW) fun hG=>
 some (.tup [],hG)) (
 some (.tup [],hF)):=kB
theorem acZ:evF Tryz.prog xM (k+1) wl 230 [a,d,b] h=ak (xX (xS k) 230 wl k false) Tryz.f230 [a,d,b] h:=by kernel_rfl
-- names: V9,
theorem Y9:ak (xX s 231 wl k false) Tryz.f231 [a,d,b] h =
 stO h.length a (
 bm (ab s.P 26 a h) h fun v1 h2=>
 bm (ab s.P 23 d h2) h2 fun v3 h4=>
 bm (aa s.P 55 b 2) h4 fun v5 h6=>
 bm (ab s.P 3 v5 h6) h6 fun v7 h8=>
 bm (aa s.P 55 b 5) h8 fun v9 hB=>
 bm (ab s.P 46 v9 hB) hB fun vA hC=>
 bp (yC s k wl 231 true true (.fn (.func 109) [] []) [v3,v7,vA] hC) fun vD hH=>
 bp (yC s k wl 231 false true (.fn (.func 27) [] []) [v1,vD] hH) fun vC hD=>
 bm (aa s.P 55 b 3) hD fun vB hE=>
 bs (aj s.P wl 46 vB vC hE) fun ho=>
 some (.tup [],ho)):=kB
theorem aa7:evF Tryz.prog xM (k+1) wl 231 [a,d,b] h=ak (xX (xS k) 231 wl k false) Tryz.f231 [a,d,b] h:=by kernel_rfl
-- names: Y9,
theorem XE:ak (xX s 232 wl k false) Tryz.f232 [a,d,b] h =
 bm (ab s.P 26 a h) h fun v1 h2=>
 bm (ab s.P 3 d h2) h2 fun v3 h4=>
 bm (aa s.P 55 b 5) h4 fun v5 h6=>
 bm (ab s.P 46 v5 h6) h6 fun v7 h8=>
 bm (aa s.P 55 b 5) h8 fun v9 hB=>
 bm (ab s.P 46 v9 hB) hB fun vA hC=>
 bm (aw s.P .add 46 vA (.lit (.int .u64 1))) hC fun vD hH=>
 bp (yC s k wl 232 false true (.fn (.func 191) [] []) [v1,v3,v7,vD] hH) fun vC hD=>
 bm (aq vC 0) hD fun vB hE=>
 bm (aq vC 1) hE fun vF hI=>
 bs (aj s.P wl 26 a vB hI) fun hF=>
 cnd vF (
 bm (ab s.P 55 b hF) hF fun vf hU=>
 bm (aa s.P 55 b 3) hU fun vU hW=>
 bm (ab s.P 46 vU hW) hW fun vq h27=>
 bp (yC s k wl 232 false true (.fn (.func 193) [] []) [vf,(.lit (.int .i64 1)),vq] h27) fun vr h29=>
 bs (aj s.P wl 55 b vr h29) fun hJ=>
 some (.tup [],hJ)) (
 bm (ab s.P 55 b hF) hF fun vJ hL=>
 bp (yC s k wl 232 false true (.fn (.func 193) [] []) [vJ,(.lit (.int .i64 4)),(.lit (.int .u64 0))] hL) fun vI hM=>
 bs (aj s.P wl 55 b vI hM) fun hh=>
 some (.tup [],hh)):=kB
theorem adP:evF Tryz.prog xM (k+1) wl 232 [a,d,b] h=ak (xX (xS k) 232 wl k false) Tryz.f232 [a,d,b] h:=by kernel_rfl
-- names: XE,
end
end Go.Ab
