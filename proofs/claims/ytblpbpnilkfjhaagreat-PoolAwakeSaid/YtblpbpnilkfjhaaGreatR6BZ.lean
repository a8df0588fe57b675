import Derived.Test.YtblpbpnilkfjhaaGreatR6Seat
import Derived.Test.YtblpbpnilkfjhaaGreatAbLibC
set_option linter.unusedVariables false
set_option linter.unusedSimpArgs false
set_option maxRecDepth 100000
set_option linter.unusedVariables false
namespace Go.Ab
open Go.Proofs
section
variable (s:Sys) (k wl:Nat) (m0:Nat) (ac:List Nat×List Nat) (a d b g i l o j p q r u G E A B D y z F J I M L Q N O T R t1 W X Z Y t0 U t3 t4 t2 t7 t6 t5 t8 tc th td ta ti te tj tf tg tb t9 tm tn tp tk tl:V) (h:Hp) (K:Out→St→Option (V×Hp)) (rd:Bool) (n n0:Nat) (zz:List V)
noncomputable def b7:Code:=al (an Tryz.f188) [1,0]
noncomputable def bV:List Fr:=[.seq (al (an Tryz.f188) [1,1])]
theorem ZC:ak (xX s 188 wl k false) Tryz.f188 [a,d,b,g,i] h =
 bp (aP a h) fun v1 h2=>
 bp (aP b h2) fun v3 h4=>
 bm (ab s.P 23 v1 h4) h4 fun v5 h6=>
 bp (yC s k wl 188 false true (.fn (.func 50) [] []) [v5] h6) fun v7 h8=>
 gd v7 (
 bp (br s.P 26 d h8) fun v9 hA=>
 bm (ab s.P 23 v1 hA) hA fun vA hB=>
 bp (yC s k wl 188 false true (.fn (.func 103) [] []) [vA] hB) fun vC hC=>
 bm (au s.P .eql 3 v9 vC) hC fun vD hD=>
 yO s k wl 188 Tryz.f188 b7 8 h4.length ([],[]) bV ⟨[a,d,b,g,i,v1,uu,v3,uu,uu,(.lit (.bool false)),v5,v7,(.lit (.bool true)),d,v9,vA,vC,vD,uu,uu,uu,uu,uu,uu,uu,uu,uu,uu,uu,uu,uu,uu,uu,uu,uu,uu,uu,uu,uu,uu,uu,uu,uu,uu,uu,uu,uu,uu,uu,uu,uu,uu,uu],hD⟩) (
 yO s k wl 188 Tryz.f188 b7 8 h4.length ([],[]) bV ⟨[a,d,b,g,i,v1,uu,v3,uu,uu,(.lit (.bool false)),v5,v7,(.lit (.bool false)),uu,uu,uu,uu,uu,uu,uu,uu,uu,uu,uu,uu,uu,uu,uu,uu,uu,uu,uu,uu,uu,uu,uu,uu,uu,uu,uu,uu,uu,uu,uu,uu,uu,uu,uu,uu,uu,uu,uu,uu],h8⟩) (
 yO s k wl 188 Tryz.f188 b7 4 h4.length ([],[]) bV ⟨[a,d,b,g,i,v1,uu,v3,uu,uu,(.lit (.bool false)),v5,v7,v7,uu,uu,uu,uu,uu,uu,uu,uu,uu,uu,uu,uu,uu,uu,uu,uu,uu,uu,uu,uu,uu,uu,uu,uu,uu,uu,uu,uu,uu,uu,uu,uu,uu,uu,uu,uu,uu,uu,uu,uu],h8⟩):=kB
theorem ae7:evF Tryz.prog xM (k+1) wl 188 [a,d,b,g,i] h=ak (xX (xS k) 188 wl k false) Tryz.f188 [a,d,b,g,i] h:=by kernel_rfl
theorem KE:yO s k wl 188 Tryz.f188 b7 8 m0 ac bV ⟨(a::d::b::g::i::l::o::j::p::q::r::u::G::E::A::B::D::y::z::F::J::I::M::L::zz),h⟩ =
 bm (aT E z (.lit (.bool false))) h fun vB hE=>
 gd vB (
 bm (ab s.P 55 j hE) hE fun vE hH=>
 bp (yC s k wl 188 false true (.fn (.func 110) [] []) [vE] hH) fun vF hF=>
 bm (vUn .not vF) hF fun vH hG=>
 yO s k wl 188 Tryz.f188 b7 13 m0 ac bV ⟨(a::d::b::g::i::l::o::j::p::q::r::u::G::E::A::B::D::y::z::vB::(.lit (.bool true))::vE::vF::vH::zz),hG⟩) (
 yO s k wl 188 Tryz.f188 b7 13 m0 ac bV ⟨(a::d::b::g::i::l::o::j::p::q::r::u::G::E::A::B::D::y::z::vB::(.lit (.bool false))::uu::uu::uu::zz),hE⟩) (
 yO s k wl 188 Tryz.f188 b7 11 m0 ac bV ⟨(a::d::b::g::i::l::o::j::p::q::r::u::G::E::A::B::D::y::z::vB::vB::uu::M::L::zz),hE⟩):=kG
theorem NT:yO s k wl 188 Tryz.f188 b7 13 m0 ac bV ⟨(a::d::b::g::i::l::o::j::p::q::r::u::G::E::A::B::D::y::z::F::J::I::M::L::Q::N::O::T::R::zz),h⟩ =
 bm (aT J L (.lit (.bool false))) h fun vI hJ=>
 gd vI (
 bm (aa s.P 55 j 2) hJ fun vG hI=>
 bm (ab s.P 3 vG hI) hI fun vJ hL=>
 bm (au s.P .geq 3 vJ (.lit (.int .i64 0))) hL fun vL hN=>
 yO s k wl 188 Tryz.f188 b7 18 m0 ac bV ⟨(a::d::b::g::i::l::o::j::p::q::r::u::G::E::A::B::D::y::z::F::J::I::M::L::vI::(.lit (.bool true))::vG::vJ::vL::zz),hN⟩) (
 yO s k wl 188 Tryz.f188 b7 18 m0 ac bV ⟨(a::d::b::g::i::l::o::j::p::q::r::u::G::E::A::B::D::y::z::F::J::I::M::L::vI::(.lit (.bool false))::uu::uu::uu::zz),hJ⟩) (
 yO s k wl 188 Tryz.f188 b7 16 m0 ac bV ⟨(a::d::b::g::i::l::o::j::p::q::r::u::G::E::A::B::D::y::z::F::J::I::M::L::vI::vI::uu::T::R::zz),hJ⟩):=kG
theorem Lh:yO s k wl 188 Tryz.f188 b7 18 m0 ac bV ⟨(a::d::b::g::i::l::o::j::p::q::r::u::G::E::A::B::D::y::z::F::J::I::M::L::Q::N::O::T::R::t1::W::X::Z::Y::t0::U::zz),h⟩ =
 bm (aT N R (.lit (.bool false))) h fun vK hO=>
 gd vK (
 bm (aa s.P 55 j 2) hO fun vO hV=>
 bm (ab s.P 3 vO hV) hV fun vW hS=>
 bm (aa s.P 23 l 0) hS fun vY hU=>
 bm (ab s.P 3 vY hU) hU fun vP hP=>
 bm (au s.P .lss 3 vW vP) hP fun vZ ha=>
 yO s k wl 188 Tryz.f188 b7 25 m0 ac bV ⟨(a::d::b::g::i::l::o::j::p::q::r::u::G::E::A::B::D::y::z::F::J::I::M::L::Q::N::O::T::R::vK::(.lit (.bool true))::vO::vW::vY::vP::vZ::zz),ha⟩) (
 yO s k wl 188 Tryz.f188 b7 25 m0 ac bV ⟨(a::d::b::g::i::l::o::j::p::q::r::u::G::E::A::B::D::y::z::F::J::I::M::L::Q::N::O::T::R::vK::(.lit (.bool false))::uu::uu::uu::uu::uu::zz),hO⟩) (
 yO s k wl 188 Tryz.f188 b7 21 m0 ac bV ⟨(a::d::b::g::i::l::o::j::p::q::r::u::G::E::A::B::D::y::z::F::J::I::M::L::Q::N::O::T::R::vK::vK::uu::Z::Y::t0::U::zz),hO⟩):=kG
theorem L1:yO s k wl 188 Tryz.f188 b7 25 m0 ac bV ⟨[a,d,b,g,i,l,o,j,p,q,r,u,G,E,A,B,D,y,z,F,J,I,M,L,Q,N,O,T,R,t1,W,X,Z,Y,t0,U,t3,t4,t2,t7,t6,t5,t8,tc,th,td,ta,ti,te,tj,tf,tg,tb,t9],h⟩ =
 bm (aT W U (.lit (.bool false))) h fun vc hK=>
 gd vc (
 bm (aa s.P 55 j 0) hK fun vl hj=>
 bm (ab s.P 3 vl hj) hj fun vg hl=>
 bm (au s.P .eql 3 vg g) hl fun vs hM=>
 yO s k wl 188 Tryz.f188 b7 31 m0 ac bV ⟨[a,d,b,g,i,l,o,j,p,q,r,u,G,E,A,B,D,y,z,F,J,I,M,L,Q,N,O,T,R,t1,W,X,Z,Y,t0,U,vc,(.lit (.bool true)),vl,vg,g,vs,t8,tc,th,td,ta,ti,te,tj,tf,tg,tb,t9],hM⟩) (
 yO s k wl 188 Tryz.f188 b7 31 m0 ac bV ⟨[a,d,b,g,i,l,o,j,p,q,r,u,G,E,A,B,D,y,z,F,J,I,M,L,Q,N,O,T,R,t1,W,X,Z,Y,t0,U,vc,(.lit (.bool false)),uu,uu,uu,uu,t8,tc,th,td,ta,ti,te,tj,tf,tg,tb,t9],hK⟩) (
 yO s k wl 188 Tryz.f188 b7 28 m0 ac bV ⟨[a,d,b,g,i,l,o,j,p,q,r,u,G,E,A,B,D,y,z,F,J,I,M,L,Q,N,O,T,R,t1,W,X,Z,Y,t0,U,vc,vc,uu,t7,t6,t5,t8,tc,th,td,ta,ti,te,tj,tf,tg,tb,t9],hK⟩):=kG
theorem KX:yO s k wl 188 Tryz.f188 b7 31 m0 ac bV ⟨[a,d,b,g,i,l,o,j,p,q,r,u,G,E,A,B,D,y,z,F,J,I,M,L,Q,N,O,T,R,t1,W,X,Z,Y,t0,U,t3,t4,t2,t7,t6,t5,t8,tc,th,td,ta,ti,te,tj,tf,tg,tb,t9],h⟩ =
 bm (aT t4 t5 (.lit (.bool false))) h fun vo hk=>
 gd vo (
 bm (aa s.P 55 j 1) hk fun vv hq=>
 bm (ab s.P 3 vv hq) hq fun vy hx=>
 bm (au s.P .geq 3 vy (.lit (.int .i64 0))) hx fun v59 hy=>
 yO s k wl 188 Tryz.f188 b7 36 m0 ac bV ⟨[a,d,b,g,i,l,o,j,p,q,r,u,G,E,A,B,D,y,z,F,J,I,M,L,Q,N,O,T,R,t1,W,X,Z,Y,t0,U,t3,t4,t2,t7,t6,t5,vo,(.lit (.bool true)),vv,vy,v59,ti,te,tj,tf,tg,tb,t9],hy⟩) (
 yO s k wl 188 Tryz.f188 b7 36 m0 ac bV ⟨[a,d,b,g,i,l,o,j,p,q,r,u,G,E,A,B,D,y,z,F,J,I,M,L,Q,N,O,T,R,t1,W,X,Z,Y,t0,U,t3,t4,t2,t7,t6,t5,vo,(.lit (.bool false)),uu,uu,uu,ti,te,tj,tf,tg,tb,t9],hk⟩) (
 yO s k wl 188 Tryz.f188 b7 34 m0 ac bV ⟨[a,d,b,g,i,l,o,j,p,q,r,u,G,E,A,B,D,y,z,F,J,I,M,L,Q,N,O,T,R,t1,W,X,Z,Y,t0,U,t3,t4,t2,t7,t6,t5,vo,vo,uu,td,ta,ti,te,tj,tf,tg,tb,t9],hk⟩):=kG
theorem Mu:yO s k wl 188 Tryz.f188 b7 36 m0 ac bV ⟨[a,d,b,g,i,l,o,j,p,q,r,u,G,E,A,B,D,y,z,F,J,I,M,L,Q,N,O,T,R,t1,W,X,Z,Y,t0,U,t3,t4,t2,t7,t6,t5,t8,tc,th,td,ta,ti,te,tj,tf,tg,tb,t9],h⟩ =
 bm (aT tc ta (.lit (.bool false))) h fun v61 hw=>
 gd v61 (
 bm (aa s.P 55 j 1) hw fun v63 h64=>
 bm (ab s.P 3 v63 h64) h64 fun v65 h66=>
 bm (au s.P .lss 3 v65 i) h66 fun v67 h68=>
 yO s k wl 188 Tryz.f188 b7 42 m0 ac bV ⟨[a,d,b,g,i,l,o,j,p,q,r,u,G,E,A,B,D,y,z,F,J,I,M,L,Q,N,O,T,R,t1,W,X,Z,Y,t0,U,t3,t4,t2,t7,t6,t5,t8,tc,th,td,ta,v61,(.lit (.bool true)),v63,v65,i,v67,t9],h68⟩) (
 yO s k wl 188 Tryz.f188 b7 42 m0 ac bV ⟨[a,d,b,g,i,l,o,j,p,q,r,u,G,E,A,B,D,y,z,F,J,I,M,L,Q,N,O,T,R,t1,W,X,Z,Y,t0,U,t3,t4,t2,t7,t6,t5,t8,tc,th,td,ta,v61,(.lit (.bool false)),uu,uu,uu,uu,t9],hw⟩) (
 yO s k wl 188 Tryz.f188 b7 39 m0 ac bV ⟨[a,d,b,g,i,l,o,j,p,q,r,u,G,E,A,B,D,y,z,F,J,I,M,L,Q,N,O,T,R,t1,W,X,Z,Y,t0,U,t3,t4,t2,t7,t6,t5,t8,tc,th,td,ta,v61,v61,uu,tf,tg,tb,t9],hw⟩):=kG
theorem Lx:yO s k wl 188 Tryz.f188 b7 42 m0 ac bV ⟨[a,d,b,g,i,l,o,j,p,q,r,u,G,E,A,B,D,y,z,F,J,I,M,L,Q,N,O,T,R,t1,W,X,Z,Y,t0,U,t3,t4,t2,t7,t6,t5,t8,tc,th,td,ta,ti,te,tj,tf,tg,tb,t9],h⟩ =
 bm (aT te tb (.lit (.bool false))) h fun v69 h70=>
 some (v69,h70):=kG
theorem uy (cx:Cx) (s:St):av cx K bV .ret s=K .ret s:=by kernel_rfl
-- names: ZC,KE,NT,Lh,L1,KX,Mu,Lx,uy
noncomputable def dD:Code:=al (an Tryz.f189) [1,1,0]
noncomputable def du:List Fr:=[.seq (al (an Tryz.f189) [1,1,1])]
theorem aab:ak (xX s 189 wl k false) Tryz.f189 [a,d,b] h =
 bp (aP a h) fun v1 h2=>
 bp (aP b h2) fun v3 h4=>
 bp (yC s k wl 189 true true (.fn (.func 190) [] []) [] h4) fun v5 h6=>
 bm (aa s.P 55 v3 0) h6 fun v7 h8=>
 stO h4.length v7 (
 bm (ab s.P 3 v7 h8) h8 fun v9 hA=>
 bm (fS s.P 212 v5 v9 true hA) hA fun vA hB=>
 bm (ar vA 0) hB fun vC hC=>
 bm (ar vA 1) hC fun vD hD=>
 gd vD (
 bm (ab s.P 23 v1 hD) hD fun vB hE=>
 bp (yC s k wl 189 false true (.fn (.func 50) [] []) [vB] hE) fun vE hH=>
 yO s k wl 189 Tryz.f189 dD 4 hD.length ([],[]) du ⟨[a,d,b,v1,uu,v3,(.lit (.bool false)),vC,vD,vA,v5,v7,v9,vA,vC,vD,vD,(.lit (.bool true)),vB,vE,uu,uu,uu,uu,uu,uu,uu,uu,uu,uu,uu,uu,uu,uu,uu,uu,uu,uu,uu,uu,uu,uu,uu],hH⟩) (
 yO s k wl 189 Tryz.f189 dD 4 hD.length ([],[]) du ⟨[a,d,b,v1,uu,v3,(.lit (.bool false)),vC,vD,vA,v5,v7,v9,vA,vC,vD,vD,(.lit (.bool false)),uu,uu,uu,uu,uu,uu,uu,uu,uu,uu,uu,uu,uu,uu,uu,uu,uu,uu,uu,uu,uu,uu,uu,uu,uu],hD⟩) (
 yO s k wl 189 Tryz.f189 dD 3 hD.length ([],[]) du ⟨[a,d,b,v1,uu,v3,(.lit (.bool false)),vC,vD,vA,v5,v7,v9,vA,vC,vD,vD,vD,uu,uu,uu,uu,uu,uu,uu,uu,uu,uu,uu,uu,uu,uu,uu,uu,uu,uu,uu,uu,uu,uu,uu,uu,uu],hD⟩)):=kB
theorem ag5:evF Tryz.prog xM (k+1) wl 189 [a,d,b] h=ak (xX (xS k) 189 wl k false) Tryz.f189 [a,d,b] h:=by kernel_rfl
theorem NR:yO s k wl 189 Tryz.f189 dD 4 m0 ac du ⟨(a::d::b::g::i::l::o::j::p::q::r::u::G::E::A::B::D::y::z::F::J::I::M::L::Q::N::O::zz),h⟩ =
 bm (aT y F (.lit (.bool false))) h fun vF hF=>
 gd vF (
 bp (br s.P 26 d hF) fun vH hG=>
 bm (ab s.P 23 g hG) hG fun vI hJ=>
 bp (yC s k wl 189 false true (.fn (.func 103) [] []) [vI] hJ) fun vG hI=>
 bm (au s.P .eql 3 vH vG) hI fun vJ hL=>
 yO s k wl 189 Tryz.f189 dD 11 m0 ac du ⟨(a::d::b::g::i::l::o::j::p::q::r::u::G::E::A::B::D::y::z::F::vF::(.lit (.bool true))::d::vH::vI::vG::vJ::zz),hL⟩) (
 yO s k wl 189 Tryz.f189 dD 11 m0 ac du ⟨(a::d::b::g::i::l::o::j::p::q::r::u::G::E::A::B::D::y::z::F::vF::(.lit (.bool false))::uu::uu::uu::uu::uu::zz),hF⟩) (
 yO s k wl 189 Tryz.f189 dD 7 m0 ac du ⟨(a::d::b::g::i::l::o::j::p::q::r::u::G::E::A::B::D::y::z::F::vF::vF::uu::L::Q::N::O::zz),hF⟩):=kG
theorem Le:yO s k wl 189 Tryz.f189 dD 11 m0 ac du ⟨[a,d,b,g,i,l,o,j,p,q,r,u,G,E,A,B,D,y,z,F,J,I,M,L,Q,N,O,T,R,t1,W,X,Z,Y,t0,U,t3,t4,t2,t7,t6,t5,t8],h⟩ =
 bm (aT I O (.lit (.bool false))) h fun vL hN=>
 gd vL (
 bm (ab s.P 55 l hN) hN fun vK hO=>
 bp (yC s k wl 189 false true (.fn (.func 110) [] []) [vK] hO) fun vO hV=>
 bm (vUn .not vO) hV fun vW hS=>
 yO s k wl 189 Tryz.f189 dD 16 m0 ac du ⟨[a,d,b,g,i,l,o,j,p,q,r,u,G,E,A,B,D,y,z,F,J,I,M,L,Q,N,O,vL,(.lit (.bool true)),vK,vO,vW,Z,Y,t0,U,t3,t4,t2,t7,t6,t5,t8],hS⟩) (
 yO s k wl 189 Tryz.f189 dD 16 m0 ac du ⟨[a,d,b,g,i,l,o,j,p,q,r,u,G,E,A,B,D,y,z,F,J,I,M,L,Q,N,O,vL,(.lit (.bool false)),uu,uu,uu,Z,Y,t0,U,t3,t4,t2,t7,t6,t5,t8],hN⟩) (
 yO s k wl 189 Tryz.f189 dD 14 m0 ac du ⟨[a,d,b,g,i,l,o,j,p,q,r,u,G,E,A,B,D,y,z,F,J,I,M,L,Q,N,O,vL,vL,uu,W,X,Z,Y,t0,U,t3,t4,t2,t7,t6,t5,t8],hN⟩):=kG
theorem Mm:yO s k wl 189 Tryz.f189 dD 16 m0 ac du ⟨[a,d,b,g,i,l,o,j,p,q,r,u,G,E,A,B,D,y,z,F,J,I,M,L,Q,N,O,T,R,t1,W,X,Z,Y,t0,U,t3,t4,t2,t7,t6,t5,t8],h⟩ =
 bm (aT R X (.lit (.bool false))) h fun vY hU=>
 gd vY (
 bm (aa s.P 55 l 1) hU fun vP hP=>
 bm (ab s.P 3 vP hP) hP fun vZ ha=>
 bm (au s.P .geq 3 vZ (.lit (.int .i64 0))) ha fun vc hK=>
 yO s k wl 189 Tryz.f189 dD 21 m0 ac du ⟨[a,d,b,g,i,l,o,j,p,q,r,u,G,E,A,B,D,y,z,F,J,I,M,L,Q,N,O,T,R,t1,W,X,vY,(.lit (.bool true)),vP,vZ,vc,t4,t2,t7,t6,t5,t8],hK⟩) (
 yO s k wl 189 Tryz.f189 dD 21 m0 ac du ⟨[a,d,b,g,i,l,o,j,p,q,r,u,G,E,A,B,D,y,z,F,J,I,M,L,Q,N,O,T,R,t1,W,X,vY,(.lit (.bool false)),uu,uu,uu,t4,t2,t7,t6,t5,t8],hU⟩) (
 yO s k wl 189 Tryz.f189 dD 19 m0 ac du ⟨[a,d,b,g,i,l,o,j,p,q,r,u,G,E,A,B,D,y,z,F,J,I,M,L,Q,N,O,T,R,t1,W,X,vY,vY,uu,U,t3,t4,t2,t7,t6,t5,t8],hU⟩):=kG
theorem Ku:yO s k wl 189 Tryz.f189 dD 21 m0 ac du ⟨[a,d,b,g,i,l,o,j,p,q,r,u,G,E,A,B,D,y,z,F,J,I,M,L,Q,N,O,T,R,t1,W,X,Z,Y,t0,U,t3,t4,t2,t7,t6,t5,t8],h⟩ =
 bm (aT Y t3 (.lit (.bool false))) h fun vl hj=>
 gd vl (
 bm (aa s.P 55 l 1) hj fun vg hl=>
 bm (ab s.P 3 vg hl) hl fun vs hM=>
 bm (au s.P .leq 3 vs (.lit (.int .i64 2))) hM fun vo hk=>
 yO s k wl 189 Tryz.f189 dD 26 m0 ac du ⟨[a,d,b,g,i,l,o,j,p,q,r,u,G,E,A,B,D,y,z,F,J,I,M,L,Q,N,O,T,R,t1,W,X,Z,Y,t0,U,t3,vl,(.lit (.bool true)),vg,vs,vo,t8],hk⟩) (
 yO s k wl 189 Tryz.f189 dD 26 m0 ac du ⟨[a,d,b,g,i,l,o,j,p,q,r,u,G,E,A,B,D,y,z,F,J,I,M,L,Q,N,O,T,R,t1,W,X,Z,Y,t0,U,t3,vl,(.lit (.bool false)),uu,uu,uu,t8],hj⟩) (
 yO s k wl 189 Tryz.f189 dD 24 m0 ac du ⟨[a,d,b,g,i,l,o,j,p,q,r,u,G,E,A,B,D,y,z,F,J,I,M,L,Q,N,O,T,R,t1,W,X,Z,Y,t0,U,t3,vl,vl,uu,t6,t5,t8],hj⟩):=kG
theorem KP:yO s k wl 189 Tryz.f189 dD 26 m0 ac du ⟨[a,d,b,g,i,l,o,j,p,q,r,u,G,E,A,B,D,y,z,F,J,I,M,L,Q,N,O,T,R,t1,W,X,Z,Y,t0,U,t3,t4,t2,t7,t6,t5,t8],h⟩ =
 bm (aT t2 t5 (.lit (.bool false))) h fun vv hq=>
 some (vv,hq):=kG
theorem uS (cx:Cx) (s:St):av cx K du .ret s=K .ret s:=by kernel_rfl
-- names: aab,NR,Le,Mm,Ku,KP,uS
theorem Ys:ak (xX s 190 wl k false) Tryz.f190 [] h =
 bp (some (.map h.length,h++[.map []])) fun v1 h2=>
 bs (eA s.P wl 212 v1 (.lit (.int .i64 6)) (.fn (.func 215) [] []) h2) fun h3=>
 bs (eA s.P wl 212 v1 (.lit (.int .i64 7)) (.fn (.func 217) [] []) h3) fun h4=>
 some (v1,h4):=kB
theorem abr:evF Tryz.prog xM (k+1) wl 190 [] h=ak (xX (xS k) 190 wl k false) Tryz.f190 [] h:=by kernel_rfl
-- names: Ys,
noncomputable def BO:Code:=al (an Tryz.f194) [1,0,1,0,0]
noncomputable def BI:List Fr:=[.block 0,.seq (al (an Tryz.f194) [1,1])]
theorem UA:ak (xX s 194 wl k false) Tryz.f194 [a,d,b] h =
 bp (aP a h) fun v1 h2=>
 bp (some (.own h2.length 0 0,h2++[.rows 0 [] 0 true])) fun v3 h4=>
 bp (br s.P 53 b h4) fun v5 h6=>
 yI s k wl 194 Tryz.f194 BO h6.length BI k ⟨[(V.kill h6.length a),(V.kill h6.length d),(V.kill h6.length b),(V.kill h6.length v1),(V.kill h6.length uu),(V.kill h6.length uu),(V.kill h6.length v3),(V.kill h6.length uu),(V.kill h6.length uu),(V.kill h6.length b),(V.kill h6.length v5),(.lit (.int .i64 0)),.junk,.junk,.junk,.junk,.junk,.junk,.junk,.junk,.junk,(V.kill h6.length uu)],cg h6.length h6⟩:=kB
theorem aba:evF Tryz.prog xM (k+1) wl 194 [a,d,b] h=ak (xX (xS k) 194 wl k false) Tryz.f194 [a,d,b] h:=by kernel_rfl
theorem Vj (P:Program):aB P Tryz.f194 .ret ⟨[a,d,b,g,i,l,o,j,p,q,r,u,G,E,A,B,D,y,z,F,J,I],h⟩=some (o,h):=by kernel_rfl
theorem Nm:itX (xX s 194 wl k rd) BO n0 K (n+1) ⟨[a,d,b,g,i,l,o,j,p,q,r,u,G,E,A,B,D,y,z,F,J,I],h⟩ =
 bm (au s.P .lss 3 u r) h fun v7 h8=>
 cnd v7 (
 bm (am s.P 53 q u h8) h8 fun v9 hA=>
 bm (ab s.P 3 v9 hA) hA fun vA hB=>
 bm (ab s.P 23 g hB) hB fun vC hC=>
 bp (cI (xX s 194 wl k rd) false true (.fn (.func 32) [] []) [vC,vA] hC) fun vD hD=>
 bp (cI (xX s 194 wl k rd) false true (.fn (.func 88) [] []) [d,vD,(.lit (.int .u64 1))] hD) fun vB hE=>
 bm (au s.P .add 3 u (.lit (.int .i64 1))) hE fun vE hH=>
 itX (xX s 194 wl k rd) BO n0 K n ⟨[(V.kill n0 a),(V.kill n0 vB),(V.kill n0 b),(V.kill n0 g),(V.kill n0 i),(V.kill n0 l),(V.kill n0 o),(V.kill n0 j),(V.kill n0 vA),(V.kill n0 q),(V.kill n0 r),(V.kill n0 vE),.junk,.junk,.junk,.junk,.junk,.junk,.junk,.junk,.junk,(V.kill n0 I)],cg n0 hH⟩) (
 K (.exit 0) ⟨[(V.kill n0 a),(V.kill n0 d),(V.kill n0 b),(V.kill n0 g),(V.kill n0 i),(V.kill n0 l),(V.kill n0 o),(V.kill n0 j),(V.kill n0 p),(V.kill n0 q),(V.kill n0 r),.junk,.junk,.junk,.junk,.junk,.junk,.junk,.junk,.junk,.junk,(V.kill n0 I)],cg n0 h8⟩):=kI
theorem Gh:av (xX s 194 wl k false) (aB s.P Tryz.f194) BI (.exit 0) ⟨[a,d,b,g,i,l,o,j,p,q,r,u,G,E,A,B,D,y,z,F,J,I],h⟩ =
 some (d,h):=kR
theorem nK (cx:Cx) (s:St):av cx K BI .ret s=K .ret s:=by kernel_rfl
-- names: UA,Vj,Nm,Gh,nK
noncomputable def BM:List Fr:=[.seq (al (an Tryz.f207) [1,1,1,1])]
theorem Zl:ak (xX s 207 wl k false) Tryz.f207 [a,d,b] h =
 bp (aP a h) fun v1 h2=>
 bp (aP b h2) fun v3 h4=>
 bp (some (.own h4.length 0 0,h4++[.rows 0 [] 0 true])) fun v5 h6=>
 bp (aw s.P 55 h6) fun v7 h8=>
 stO h8.length v3 (
 bm (ab s.P 55 v3 h8) h8 fun v9 hA=>
 stO h8.length v1 (
 bm (ab s.P 23 v1 hA) hA fun vA hB=>
 bp (yC s k wl 207 true true (.fn (.func 76) [] []) [d] hB) fun vC hC=>
 bm (bf s.P 235 [(0,v9),(1,vA),(2,vC)]) hC fun vD hD=>
 bp (aP vD hD) fun vB hE=>
 bm (bf s.P 236 [(0,(.fn (.func 224) [vB] [])),(1,(.fn (.func 225) [vB] [])),(2,(.fn (.func 226) [vB] [])),(3,(.fn (.func 227) [vB] []))]) hE fun vE hH=>
 bp (aw s.P 236 hH) fun vF hF=>
 bs (aj s.P wl 236 vF vE hF) fun hm=>
 bm (ab s.P 23 v1 hm) hm fun vS hc=>
 bm (ab s.P 55 v3 hc) hc fun vN hn=>
 bp (yC s k wl 207 false true (.fn (.func 188) [] []) [vS,d,vN,(.lit (.int .i64 0)),(.lit (.int .i64 4))] hn) fun vh hs=>
 cnd vh (
 bm (aa s.P 55 v3 1) hs fun vp hY=>
 bm (ab s.P 3 vp hY) hY fun ve hh=>
 bm (am s.P 236 vF ve hh) hh fun vf hW=>
 bm (ab s.P 1 vf hW) hW fun vM hT=>
 bp (yC s k wl 207 false true vM [] hT) fun vT hb=>
 av (xX s 207 wl k false) (aB s.P Tryz.f207) BM .norm ⟨[a,d,b,v1,uu,v3,v5,v7,vB,vF,v9,vA,d,vC,vD,vB,vB,(.fn (.func 224) [vB] []),vB,(.fn (.func 225) [vB] []),vB,(.fn (.func 226) [vB] []),vB,(.fn (.func 227) [vB] []),vE,vS,d,vN,vh,vp,ve,vf,vM,vT,uu,uu,uu,uu,uu,uu,uu,uu],hb⟩) (
 av (xX s 207 wl k false) (aB s.P Tryz.f207) BM .norm ⟨[a,d,b,v1,uu,v3,v5,v7,vB,vF,v9,vA,d,vC,vD,vB,vB,(.fn (.func 224) [vB] []),vB,(.fn (.func 225) [vB] []),vB,(.fn (.func 226) [vB] []),vB,(.fn (.func 227) [vB] []),vE,vS,d,vN,vh,uu,uu,uu,uu,uu,uu,uu,uu,uu,uu,uu,uu,uu],hs⟩))):=kB
theorem agL:evF Tryz.prog xM (k+1) wl 207 [a,d,b] h=ak (xX (xS k) 207 wl k false) Tryz.f207 [a,d,b] h:=by kernel_rfl
theorem NV:av (xX s 207 wl k false) (aB s.P Tryz.f207) BM .norm ⟨[a,d,b,g,i,l,o,j,p,q,r,u,G,E,A,B,D,y,z,F,J,I,M,L,Q,N,O,T,R,t1,W,X,Z,Y,t0,U,t3,t4,t2,t7,t6,t5],h⟩ =
 bm (aS p h) h fun vQ hd=>
 bm (aa s.P 235 vQ 2) hd fun vm hf=>
 bm (ab s.P 26 vm hf) hf fun vi hX=>
 bm (aS p hX) hX fun va he=>
 bm (aa s.P 235 va 0) he fun vb hg=>
 bm (ab s.P 55 vb hg) hg fun vU hZ=>
 bs (aj s.P wl 55 j vU hZ) fun hM=>
 eo [some vi,ab s.P 55 j hM] hM:=kR
theorem r8 (cx:Cx) (s:St):av cx K BM .ret s=K .ret s:=by kernel_rfl
-- names: Zl,NV,r8
theorem aaX:ak (xX s 208 wl k false) Tryz.f208 [a,d,b] h =
 bp (aP a h) fun v1 h2=>
 bp (aP b h2) fun v3 h4=>
 bp (some (.own h4.length 0 0,h4++[.rows 0 [] 0 true])) fun v5 h6=>
 bp (aw s.P 55 h6) fun v7 h8=>
 bp (yC s k wl 208 false true (.fn (.func 76) [] []) [d] h8) fun v9 hA=>
 bp (aw s.P 26 hA) fun vA hB=>
 bs (aj s.P wl 26 vA v9 hB) fun h13=>
 bm (ab s.P 23 v1 h13) h13 fun vz ho=>
 bm (ab s.P 55 v3 ho) ho fun vr hu=>
 bp (yC s k wl 208 false true (.fn (.func 188) [] []) [vz,d,vr,(.lit (.int .i64 1)),(.lit (.int .i64 7))] hu) fun vn hr=>
 bm (vUn .not vn) hr fun vd hQ=>
 cnd vd (
 bm (ab s.P 26 vA hQ) hQ fun vV hm=>
 bm (ab s.P 55 v3 hm) hm fun vS hc=>
 bs (aj s.P wl 55 v7 vS hc) fun hJ=>
 eo [some vV,ab s.P 55 v7 hJ] hJ) (
 bp (aw s.P 3 hQ) fun vG hI=>
 bm (ab s.P 23 v1 hI) hI fun vJ hL=>
 bm (aa s.P 55 v3 2) hL fun vL hN=>
 bm (ab s.P 3 vL hN) hN fun vK hO=>
 bp (yC s k wl 208 true true (.fn (.func 107) [] []) [vJ,vK] hO) fun vO hV=>
 stO hQ.length v1 (
 bm (ab s.P 23 v1 hV) hV fun vW hS=>
 bm (aa s.P 55 v3 2) hS fun vY hU=>
 stO hQ.length vY (
 bm (ab s.P 3 vY hU) hU fun vP hP=>
 bp (yC s k wl 208 true true (.fn (.func 108) [] []) [vW,vP] hP) fun vZ ha=>
 bs (aj s.P wl 3 vG vZ ha) fun hX=>
 bm (aa s.P 55 v3 1) hX fun va he=>
 bm (ab s.P 3 va he) he fun vb hg=>
 bm (au s.P .add 3 vb (.lit (.int .i64 1))) hg fun vU hZ=>
 bm (aa s.P 55 v3 1) hZ fun vX hi=>
 bm (ab s.P 3 vX hi) hi fun vR hp=>
 bm (au s.P .eql 3 vR (.lit (.int .i64 0))) hp fun vq ht=>
 cnd vq (
 bm (ab s.P 26 vA ht) ht fun vt hz=>
 bm (ab s.P 3 vG hz) hz fun v60 h61=>
 bp (yC s k wl 208 false true (.fn (.func 27) [] []) [vt,v60] h61) fun vx h63=>
 bm (au s.P .sub 46 vx (.lit (.int .u64 1))) h63 fun vw h65=>
 bm (aa s.P 55 v3 4) h65 fun vk h67=>
 bs (aj s.P wl 46 vk vw h67) fun h68=>
 bm (aa s.P 55 v3 1) h68 fun v69 h70=>
 bs (aj s.P wl 3 v69 vU h70) fun h71=>
 bm (ab s.P 26 vA h71) h71 fun v72 h73=>
 bm (ab s.P 55 v3 h73) h73 fun v74 h75=>
 bs (aj s.P wl 55 v7 v74 h75) fun h76=>
 eo [some v72,ab s.P 55 v7 h76] h76) (
 bm (au s.P .eql 3 vR (.lit (.int .i64 1))) ht fun v77 h78=>
 cnd v77 (
 bm (ab s.P 26 vA h78) h78 fun v79 h80=>
 bm (ab s.P 3 vG h80) h80 fun v81 h82=>
 bm (aa s.P 55 v3 4) h82 fun v83 h84=>
 bm (ab s.P 46 v83 h84) h84 fun v85 h86=>
 bp (yC s k wl 208 false true (.fn (.func 88) [] []) [v79,v81,v85] h86) fun v87 h88=>
 bs (aj s.P wl 26 vA v87 h88) fun h89=>
 bm (aa s.P 55 v3 1) h89 fun v90 h91=>
 bs (aj s.P wl 3 v90 vU h91) fun h92=>
 bm (ab s.P 26 vA h92) h92 fun v93 h94=>
 bm (ab s.P 55 v3 h94) h94 fun v95 h96=>
 bs (aj s.P wl 55 v7 v95 h96) fun h97=>
 eo [some v93,ab s.P 55 v7 h97] h97) (
 bm (au s.P .eql 3 vR (.lit (.int .i64 2))) h78 fun v98 h99=>
 cnd v98 (
 bm (ab s.P 26 vA h99) h99 fun v100 h101=>
 bp (yC s k wl 208 false true (.fn (.func 27) [] []) [v100,vO] h101) fun v102 h103=>
 bm (aa s.P 55 v3 5) h103 fun v104 h105=>
 bs (aj s.P wl 46 v104 v102 h105) fun h106=>
 bm (aa s.P 55 v3 4) h106 fun v107 h108=>
 bm (ab s.P 46 v107 h108) h108 fun v109 h110=>
 bm (aa s.P 55 v3 5) h110 fun v111 h112=>
 bm (ab s.P 46 v111 h112) h112 fun v113 h114=>
 bp (yC s k wl 208 false true (.fn (.func 106) [] []) [v109,v113] h114) fun v115 h116=>
 bm (au s.P .lss 3 v115 (.lit (.int .i64 0))) h116 fun v117 h118=>
 cnd v117 (
 bm (aa s.P 55 v3 1) h118 fun v119 h120=>
 bs (aj s.P wl 3 v119 (.lit (.int .i64 6)) h120) fun h121=>
 bm (ab s.P 26 vA h121) h121 fun v122 h123=>
 bm (ab s.P 55 v3 h123) h123 fun v124 h125=>
 bs (aj s.P wl 55 v7 v124 h125) fun h126=>
 eo [some v122,ab s.P 55 v7 h126] h126) (
 bm (aa s.P 55 v3 1) h118 fun v127 h128=>
 bs (aj s.P wl 3 v127 vU h128) fun h129=>
 bm (ab s.P 26 vA h129) h129 fun v130 h131=>
 bm (ab s.P 55 v3 h131) h131 fun v132 h133=>
 bs (aj s.P wl 55 v7 v132 h133) fun h134=>
 eo [some v130,ab s.P 55 v7 h134] h134)) (
 bm (au s.P .eql 3 vR (.lit (.int .i64 3))) h99 fun v135 h136=>
 cnd v135 (
 stO h136.length vA (
 bm (ab s.P 26 vA h136) h136 fun v137 h138=>
 bm (ab s.P 23 v1 h138) h138 fun v139 h140=>
 bm (aa s.P 55 v3 2) h140 fun v141 h142=>
 bm (ab s.P 3 v141 h142) h142 fun v143 h144=>
 bm (aa s.P 55 v3 4) h144 fun v145 h146=>
 bm (ab s.P 46 v145 h146) h146 fun v147 h148=>
 bp (yC s k wl 208 true true (.fn (.func 109) [] []) [v139,v143,v147] h148) fun v149 h150=>
 bp (yC s k wl 208 false true (.fn (.func 27) [] []) [v137,v149] h150) fun v151 h152=>
 bm (aa s.P 55 v3 3) h152 fun v153 h154=>
 bs (aj s.P wl 46 v153 v151 h154) fun h155=>
 bm (aa s.P 55 v3 4) h155 fun v156 h157=>
 bm (ab s.P 46 v156 h157) h157 fun v158 h159=>
 bm (aa s.P 55 v3 5) h159 fun v160 h161=>
 bm (ab s.P 46 v160 h161) h161 fun v162 h163=>
 bm (au s.P .neq 46 v158 v162) h163 fun v164 h165=>
 cnd v164 (
 stO h165.length vA (
 bm (ab s.P 26 vA h165) h165 fun v166 h167=>
 bm (ab s.P 55 v3 h167) h167 fun v168 h169=>
 bm (aa s.P 55 v3 3) h169 fun v170 h171=>
 bm (ab s.P 46 v170 h171) h171 fun v172 h173=>
 bp (yC s k wl 208 true true (.fn (.func 193) [] []) [v168,(.lit (.int .i64 1)),v172] h173) fun v174 h175=>
 bs (aj s.P wl 55 v7 v174 h175) fun h176=>
 eo [some v166,ab s.P 55 v7 h176] h176)) (
 bm (aa s.P 55 v3 1) h165 fun v177 h178=>
 bs (aj s.P wl 3 v177 vU h178) fun h179=>
 bm (ab s.P 26 vA h179) h179 fun v180 h181=>
 bm (ab s.P 55 v3 h181) h181 fun v182 h183=>
 bs (aj s.P wl 55 v7 v182 h183) fun h184=>
 eo [some v180,ab s.P 55 v7 h184] h184))) (
 bm (au s.P .eql 3 vR (.lit (.int .i64 4))) h136 fun v185 h186=>
 cnd v185 (
 bm (ab s.P 26 vA h186) h186 fun v187 h188=>
 bm (aa s.P 55 v3 5) h188 fun v189 h190=>
 bm (ab s.P 46 v189 h190) h190 fun v191 h192=>
 bm (aa s.P 55 v3 5) h192 fun v193 h194=>
 bm (ab s.P 46 v193 h194) h194 fun v195 h196=>
 bm (au s.P .add 46 v195 (.lit (.int .u64 1))) h196 fun v197 h198=>
 bp (yC s k wl 208 false true (.fn (.func 191) [] []) [v187,vO,v191,v197] h198) fun v199 h200=>
 bm (ar v199 0) h200 fun v201 h202=>
 bm (ar v199 1) h202 fun v203 h204=>
 bs (aj s.P wl 26 vA v201 h204) fun h205=>
 bm (vUn .not v203) h205 fun v206 h207=>
 cnd v206 (
 bm (aa s.P 55 v3 1) h207 fun v208 h209=>
 bs (aj s.P wl 3 v208 (.lit (.int .i64 6)) h209) fun h210=>
 bm (ab s.P 26 vA h210) h210 fun v211 h212=>
 bm (ab s.P 55 v3 h212) h212 fun v213 h214=>
 bs (aj s.P wl 55 v7 v213 h214) fun h215=>
 eo [some v211,ab s.P 55 v7 h215] h215) (
 bm (aa s.P 55 v3 1) h207 fun v216 h217=>
 bs (aj s.P wl 3 v216 vU h217) fun h218=>
 bm (ab s.P 26 vA h218) h218 fun v219 h220=>
 bm (ab s.P 55 v3 h220) h220 fun v221 h222=>
 bs (aj s.P wl 55 v7 v221 h222) fun h223=>
 eo [some v219,ab s.P 55 v7 h223] h223)) (
 bm (au s.P .eql 3 vR (.lit (.int .i64 5))) h186 fun v224 h225=>
 cnd v224 (
 bm (aa s.P 55 v3 3) h225 fun v226 h227=>
 bm (ab s.P 46 v226 h227) h227 fun v228 h229=>
 bp (yC s k wl 208 false true (.fn (.func 228) [] [vA,vG,v3]) [(.lit (.int .i64 1)),v228] h229) fun v230 h231=>
 bm (ar v230 0) h231 fun v232 h233=>
 bm (ar v230 1) h233 fun v234 h235=>
 bs (aj s.P wl 55 v7 v234 h235) fun h236=>
 eo [some v232,ab s.P 55 v7 h236] h236) (
 bp (yC s k wl 208 false true (.fn (.func 228) [] [vA,vG,v3]) [(.lit (.int .i64 3)),(.lit (.int .u64 0))] h225) fun v237 h238=>
 bm (ar v237 0) h238 fun v239 h240=>
 bm (ar v237 1) h240 fun v241 h242=>
 bs (aj s.P wl 55 v7 v241 h242) fun h243=>
 eo [some v239,ab s.P 55 v7 h243] h243))))))))):=kB
theorem aht:evF Tryz.prog xM (k+1) wl 208 [a,d,b] h=ak (xX (xS k) 208 wl k false) Tryz.f208 [a,d,b] h:=by kernel_rfl
-- names: aaX,
noncomputable def Bu:Code:=al (an Tryz.f209) [1,0,1,1,1,1,1,0,1,0,0]
noncomputable def Be:List Fr:=[.block 0,.seq (al (an Tryz.f209) [1,0,1,1,1,1,1,1]),.scope (al (an Tryz.f209) [1,0])]
theorem U0:ak (xX s 209 wl k false) Tryz.f209 [a,d,b] h =
 bp (aP a h) fun v1 h2=>
 bp (aP b h2) fun v3 h4=>
 bp (some (.own h4.length 0 0,h4++[.rows 0 [] 0 true])) fun v5 h6=>
 bp (aw s.P 55 h6) fun v7 h8=>
 bp (yC s k wl 209 false true (.fn (.func 76) [] []) [d] h8) fun v9 hA=>
 bp (aw s.P 26 hA) fun vA hB=>
 bs (aj s.P wl 26 vA v9 hB) fun h13=>
 bm (ab s.P 23 v1 h13) h13 fun vz ho=>
 bm (ab s.P 55 v3 ho) ho fun vr hu=>
 bp (yC s k wl 209 false true (.fn (.func 188) [] []) [vz,d,vr,(.lit (.int .i64 2)),(.lit (.int .i64 4))] hu) fun vn hr=>
 bm (vUn .not vn) hr fun vd hQ=>
 cnd vd (
 bm (ab s.P 26 vA hQ) hQ fun vV hm=>
 bm (ab s.P 55 v3 hm) hm fun vS hc=>
 bs (aj s.P wl 55 v7 vS hc) fun hJ=>
 eo [some vV,ab s.P 55 v7 hJ] hJ) (
 bp (aw s.P 3 hQ) fun vG hI=>
 bp (aw s.P 3 hI) fun vJ hL=>
 bm (ab s.P 23 v1 hL) hL fun vL hN=>
 bm (aa s.P 55 v3 2) hN fun vK hO=>
 bm (ab s.P 3 vK hO) hO fun vO hV=>
 bp (yC s k wl 209 true true (.fn (.func 107) [] []) [vL,vO] hV) fun vW hS=>
 stO hQ.length v1 (
 bm (ab s.P 23 v1 hS) hS fun vY hU=>
 bm (aa s.P 55 v3 2) hU fun vP hP=>
 stO hQ.length vP (
 bm (ab s.P 3 vP hP) hP fun vZ ha=>
 bp (yC s k wl 209 true true (.fn (.func 108) [] []) [vY,vZ] ha) fun vc hK=>
 bs (aj s.P wl 3 vG vW hK) fun he=>
 bs (aj s.P wl 3 vJ vc he) fun hj=>
 bp (aD s.P wl 238 4 [(0,(.fn (.func 229) [] [vA,vG,v3])),(1,(.fn (.func 230) [] [vA,vJ,v3])),(2,(.fn (.func 231) [] [vA,v1,v3])),(3,(.fn (.func 232) [] [vA,vG,v3]))] hj) fun vg hl=>
 bp (br s.P 238 vg hl) fun vs hM=>
 yI s k wl 209 Tryz.f209 Bu hM.length Be k ⟨[(V.kill hM.length a),(V.kill hM.length d),(V.kill hM.length b),(V.kill hM.length v1),(V.kill hM.length uu),(V.kill hM.length v3),(V.kill hM.length v5),(V.kill hM.length v7),(V.kill hM.length vA),(V.kill hM.length vG),(V.kill hM.length vJ),(V.kill hM.length vg),(V.kill hM.length uu),(V.kill hM.length uu),(V.kill hM.length d),(V.kill hM.length v9),(V.kill hM.length vz),(V.kill hM.length d),(V.kill hM.length vr),(V.kill hM.length vn),(V.kill hM.length vd),(V.kill hM.length uu),(V.kill hM.length uu),(V.kill hM.length vL),(V.kill hM.length vK),(V.kill hM.length vO),(V.kill hM.length vW),(V.kill hM.length vY),(V.kill hM.length vP),(V.kill hM.length vZ),(V.kill hM.length vc),(V.kill hM.length (.fn (.func 229) [] [vA,vG,v3])),(V.kill hM.length (.fn (.func 230) [] [vA,vJ,v3])),(V.kill hM.length (.fn (.func 231) [] [vA,v1,v3])),(V.kill hM.length (.fn (.func 232) [] [vA,vG,v3])),(V.kill hM.length vg),(V.kill hM.length vg),(V.kill hM.length vs),(.lit (.int .i64 0)),.junk,.junk,.junk,.junk,.junk,.junk,.junk,.junk,.junk,.junk,.junk,.junk,.junk,.junk,.junk,.junk,.junk,.junk,(V.kill hM.length uu),(V.kill hM.length uu)],cg hM.length hM⟩))):=kB
theorem ZM:evF Tryz.prog xM (k+1) wl 209 [a,d,b] h=ak (xX (xS k) 209 wl k false) Tryz.f209 [a,d,b] h:=by kernel_rfl
theorem Wz (P:Program):aB P Tryz.f209 .ret ⟨[a,d,b,g,i,l,o,j,p,q,r,u,G,E,A,B,D,y,z,F,J,I,M,L,Q,N,O,T,R,t1,W,X,Z,Y,t0,U,t3,t4,t2,t7,t6,t5,t8,tc,th,td,ta,ti,te,tj,tf,tg,tb,t9,tm,tn,tp,tk,tl],h⟩=eo [some o,ab P 55 j h] h:=by kernel_rfl
theorem Mq:itX (xX s 209 wl k rd) Bu n0 K (n+1) ⟨[a,d,b,g,i,l,o,j,p,q,r,u,G,E,A,B,D,y,z,F,J,I,M,L,Q,N,O,T,R,t1,W,X,Z,Y,t0,U,t3,t4,t2,t7,t6,t5,t8,tc,th,td,ta,ti,te,tj,tf,tg,tb,t9,tm,tn,tp,tk,tl],h⟩ =
 bm (au s.P .lss 3 t2 t4) h fun vo hk=>
 cnd vo (
 bm (am s.P 238 t3 t2 hk) hk fun vv hq=>
 bm (ab s.P 1 vv hq) hq fun vy hx=>
 bm (aa s.P 55 l 1) hx fun v59 hy=>
 bm (ab s.P 3 v59 hy) hy fun v61 hw=>
 bm (au s.P .neq 3 t2 v61) hw fun v63 h64=>
 cnd v63 (
 bm (au s.P .add 3 t2 (.lit (.int .i64 1))) h64 fun v65 h66=>
 itX (xX s 209 wl k rd) Bu n0 K n ⟨[(V.kill n0 a),(V.kill n0 d),(V.kill n0 b),(V.kill n0 g),(V.kill n0 i),(V.kill n0 l),(V.kill n0 o),(V.kill n0 j),(V.kill n0 p),(V.kill n0 q),(V.kill n0 r),(V.kill n0 u),(V.kill n0 t2),(V.kill n0 vy),(V.kill n0 A),(V.kill n0 B),(V.kill n0 D),(V.kill n0 y),(V.kill n0 z),(V.kill n0 F),(V.kill n0 J),(V.kill n0 I),(V.kill n0 M),(V.kill n0 L),(V.kill n0 Q),(V.kill n0 N),(V.kill n0 O),(V.kill n0 T),(V.kill n0 R),(V.kill n0 t1),(V.kill n0 W),(V.kill n0 X),(V.kill n0 Z),(V.kill n0 Y),(V.kill n0 t0),(V.kill n0 U),(V.kill n0 t3),(V.kill n0 t4),(V.kill n0 v65),.junk,.junk,.junk,.junk,.junk,.junk,.junk,.junk,.junk,.junk,.junk,.junk,.junk,.junk,.junk,.junk,.junk,.junk,(V.kill n0 tk),(V.kill n0 tl)],cg n0 h66⟩) (
 bp (cI (xX s 209 wl k rd) false true vy [] h64) fun v67 h68=>
 bm (ab s.P 55 l h68) h68 fun v69 h70=>
 bp (cI (xX s 209 wl k rd) false true (.fn (.func 110) [] []) [v69] h70) fun v71 h72=>
 bm (vUn .not v71) h72 fun vu hv=>
 cnd vu (
 bm (aa s.P 55 l 1) hv fun v75 h76=>
 bm (ab s.P 3 v75 h76) h76 fun v77 h78=>
 bm (au s.P .add 3 v77 (.lit (.int .i64 1))) h78 fun v79 h80=>
 bm (aa s.P 55 l 1) h80 fun v81 h82=>
 bs (aj s.P wl 3 v81 v79 h82) fun h83=>
 K (.exit 0) ⟨[(V.kill n0 a),(V.kill n0 d),(V.kill n0 b),(V.kill n0 g),(V.kill n0 i),(V.kill n0 l),(V.kill n0 o),(V.kill n0 j),(V.kill n0 p),(V.kill n0 q),(V.kill n0 r),(V.kill n0 u),(V.kill n0 t2),(V.kill n0 vy),(V.kill n0 A),(V.kill n0 B),(V.kill n0 D),(V.kill n0 y),(V.kill n0 z),(V.kill n0 F),(V.kill n0 J),(V.kill n0 I),(V.kill n0 M),(V.kill n0 L),(V.kill n0 Q),(V.kill n0 N),(V.kill n0 O),(V.kill n0 T),(V.kill n0 R),(V.kill n0 t1),(V.kill n0 W),(V.kill n0 X),(V.kill n0 Z),(V.kill n0 Y),(V.kill n0 t0),(V.kill n0 U),(V.kill n0 t3),(V.kill n0 t4),.junk,.junk,.junk,.junk,.junk,.junk,.junk,.junk,.junk,.junk,.junk,.junk,.junk,.junk,.junk,.junk,.junk,.junk,.junk,(V.kill n0 tk),(V.kill n0 tl)],cg n0 h83⟩) (
 K (.exit 0) ⟨[(V.kill n0 a),(V.kill n0 d),(V.kill n0 b),(V.kill n0 g),(V.kill n0 i),(V.kill n0 l),(V.kill n0 o),(V.kill n0 j),(V.kill n0 p),(V.kill n0 q),(V.kill n0 r),(V.kill n0 u),(V.kill n0 t2),(V.kill n0 vy),(V.kill n0 A),(V.kill n0 B),(V.kill n0 D),(V.kill n0 y),(V.kill n0 z),(V.kill n0 F),(V.kill n0 J),(V.kill n0 I),(V.kill n0 M),(V.kill n0 L),(V.kill n0 Q),(V.kill n0 N),(V.kill n0 O),(V.kill n0 T),(V.kill n0 R),(V.kill n0 t1),(V.kill n0 W),(V.kill n0 X),(V.kill n0 Z),(V.kill n0 Y),(V.kill n0 t0),(V.kill n0 U),(V.kill n0 t3),(V.kill n0 t4),.junk,.junk,.junk,.junk,.junk,.junk,.junk,.junk,.junk,.junk,.junk,.junk,.junk,.junk,.junk,.junk,.junk,.junk,.junk,(V.kill n0 tk),(V.kill n0 tl)],cg n0 hv⟩))) (
 K (.exit 0) ⟨[(V.kill n0 a),(V.kill n0 d),(V.kill n0 b),(V.kill n0 g),(V.kill n0 i),(V.kill n0 l),(V.kill n0 o),(V.kill n0 j),(V.kill n0 p),(V.kill n0 q),(V.kill n0 r),(V.kill n0 u),(V.kill n0 G),(V.kill n0 E),(V.kill n0 A),(V.kill n0 B),(V.kill n0 D),(V.kill n0 y),(V.kill n0 z),(V.kill n0 F),(V.kill n0 J),(V.kill n0 I),(V.kill n0 M),(V.kill n0 L),(V.kill n0 Q),(V.kill n0 N),(V.kill n0 O),(V.kill n0 T),(V.kill n0 R),(V.kill n0 t1),(V.kill n0 W),(V.kill n0 X),(V.kill n0 Z),(V.kill n0 Y),(V.kill n0 t0),(V.kill n0 U),(V.kill n0 t3),(V.kill n0 t4),.junk,.junk,.junk,.junk,.junk,.junk,.junk,.junk,.junk,.junk,.junk,.junk,.junk,.junk,.junk,.junk,.junk,.junk,.junk,(V.kill n0 tk),(V.kill n0 tl)],cg n0 hk⟩):=kI
theorem FS:av (xX s 209 wl k false) (aB s.P Tryz.f209) Be (.exit 0) ⟨[a,d,b,g,i,l,o,j,p,q,r,u,G,E,A,B,D,y,z,F,J,I,M,L,Q,N,O,T,R,t1,W,X,Z,Y,t0,U,t3,t4,t2,t7,t6,t5,t8,tc,th,td,ta,ti,te,tj,tf,tg,tb,t9,tm,tn,tp,tk,tl],h⟩ =
 bm (ab s.P 26 p h) h fun v84 h85=>
 bm (ab s.P 55 l h85) h85 fun v86 h87=>
 bs (aj s.P wl 55 j v86 h87) fun h88=>
 eo [some v84,ab s.P 55 j h88] h88:=kR
theorem nv (cx:Cx) (s:St):av cx K Be .ret s=K .ret s:=by kernel_rfl
-- names: U0,Wz,Mq,FS,nv
theorem PZ:ak (xX s 215 wl k false) Tryz.f215 [a] h =
 bp (yC s k wl 215 false true (.fn (.func 216) [] []) [a] h) fun v1 h2=>
 bm (ar v1 0) h2 fun v3 h4=>
 bm (ar v1 1) h4 fun v5 h6=>
 bm (iE true [v5,(.lit (.int .i64 0))]) h6 fun v7 h8=>
 bm (gL s.P 3 46 v7) h8 fun v9 hA=>
 some (.tup [v3,v9],hA):=kB
theorem Uj:evF Tryz.prog xM (k+1) wl 215 [a] h=ak (xX (xS k) 215 wl k false) Tryz.f215 [a] h:=by kernel_rfl
-- names: PZ,
theorem OF:ak (xX s 217 wl k false) Tryz.f217 [a] h =
 bp (yC s k wl 217 false true (.fn (.func 218) [] []) [a] h) fun v1 h2=>
 bp (yC s k wl 217 false true (.fn (.func 192) [] []) [a] h2) fun v3 h4=>
 some (.tup [v1,v3],h4):=kB
theorem Ye:evF Tryz.prog xM (k+1) wl 217 [a] h=ak (xX (xS k) 217 wl k false) Tryz.f217 [a] h:=by kernel_rfl
-- names: OF,
theorem Z4:ak (xX s 224 wl k false) Tryz.f224 [a] h =
 stO h.length a (
 bm (aS a h) h fun v1 h2=>
 bm (aa s.P 235 v1 2) h2 fun v3 h4=>
 stO h.length v3 (
 bm (ab s.P 26 v3 h4) h4 fun v5 h6=>
 bm (aS a h6) h6 fun v7 h8=>
 bm (aa s.P 235 v7 1) h8 fun v9 hA=>
 bm (ab s.P 23 v9 hA) hA fun vA hB=>
 bm (aS a hB) hB fun vC hC=>
 bm (aa s.P 235 vC 0) hC fun vD hD=>
 bm (aa s.P 55 vD 2) hD fun vB hE=>
 bm (ab s.P 3 vB hE) hE fun vE hH=>
 bp (yC s k wl 224 true true (.fn (.func 108) [] []) [vA,vE] hH) fun vF hF=>
 bp (yC s k wl 224 false true (.fn (.func 27) [] []) [v5,vF] hF) fun vH hG=>
 bm (aS a hG) hG fun vI hJ=>
 bm (aa s.P 235 vI 0) hJ fun vG hI=>
 bm (aa s.P 55 vG 4) hI fun vJ hL=>
 bs (aj s.P wl 46 vJ vH hL) fun hY=>
 bm (aS a hY) hY fun ve hh=>
 bm (aa s.P 235 ve 0) hh fun vf hW=>
 bm (aa s.P 55 vf 1) hW fun vM hT=>
 bs (aj s.P wl 3 vM (.lit (.int .i64 1)) hT) fun hS=>
 some (.tup [],hS))):=kB
theorem agn:evF Tryz.prog xM (k+1) wl 224 [a] h=ak (xX (xS k) 224 wl k false) Tryz.f224 [a] h:=by kernel_rfl
-- names: Z4,
theorem Zz:ak (xX s 225 wl k false) Tryz.f225 [a] h =
 stO h.length a (
 bm (aS a h) h fun v1 h2=>
 bm (aa s.P 235 v1 2) h2 fun v3 h4=>
 stO h.length v3 (
 bm (ab s.P 26 v3 h4) h4 fun v5 h6=>
 bm (aS a h6) h6 fun v7 h8=>
 bm (aa s.P 235 v7 1) h8 fun v9 hA=>
 bm (ab s.P 23 v9 hA) hA fun vA hB=>
 bm (aS a hB) hB fun vC hC=>
 bm (aa s.P 235 vC 0) hC fun vD hD=>
 bm (aa s.P 55 vD 2) hD fun vB hE=>
 bm (ab s.P 3 vB hE) hE fun vE hH=>
 bp (yC s k wl 225 true true (.fn (.func 107) [] []) [vA,vE] hH) fun vF hF=>
 bp (yC s k wl 225 false true (.fn (.func 27) [] []) [v5,vF] hF) fun vH hG=>
 bm (aS a hG) hG fun vI hJ=>
 bm (aa s.P 235 vI 0) hJ fun vG hI=>
 bm (aa s.P 55 vG 5) hI fun vJ hL=>
 bs (aj s.P wl 46 vJ vH hL) fun hY=>
 bm (aS a hY) hY fun ve hh=>
 bm (aa s.P 235 ve 0) hh fun vf hW=>
 bm (aa s.P 55 vf 1) hW fun vM hT=>
 bs (aj s.P wl 3 vM (.lit (.int .i64 2)) hT) fun hS=>
 bm (aS a hS) hS fun vY hU=>
 bm (aa s.P 235 vY 0) hU fun vP hP=>
 bm (aa s.P 55 vP 4) hP fun vZ ha=>
 bm (ab s.P 46 vZ ha) ha fun vc hK=>
 bm (aS a hK) hK fun vl hj=>
 bm (aa s.P 235 vl 0) hj fun vg hl=>
 bm (aa s.P 55 vg 5) hl fun vs hM=>
 bm (ab s.P 46 vs hM) hM fun vo hk=>
 bm (au s.P .sub 46 vc vo) hk fun vv hq=>
 bm (aS a hq) hq fun vy hx=>
 bm (aa s.P 235 vy 1) hx fun v59 hy=>
 bm (aa s.P 23 v59 1) hy fun v61 hw=>
 bm (ab s.P 3 v61 hw) hw fun v63 h64=>
 bm (gL s.P 3 46 v63) h64 fun v65 h66=>
 bm (au s.P .geq 46 vv v65) h66 fun v67 h68=>
 cnd v67 (
 bm (aS a h68) h68 fun v69 h70=>
 bm (aa s.P 235 v69 0) h70 fun v71 h72=>
 bm (ab s.P 55 v71 h72) h72 fun vu hv=>
 bm (aS a hv) hv fun v75 h76=>
 bm (aa s.P 235 v75 0) h76 fun v77 h78=>
 bm (aa s.P 55 v77 3) h78 fun v79 h80=>
 bm (ab s.P 46 v79 h80) h80 fun v81 h82=>
 bp (yC s k wl 225 false true (.fn (.func 193) [] []) [vu,(.lit (.int .i64 2)),v81] h82) fun v83 h84=>
 bm (aS a h84) h84 fun v85 h86=>
 bm (aa s.P 235 v85 0) h86 fun v87 h88=>
 bs (aj s.P wl 55 v87 v83 h88) fun h89=>
 some (.tup [],h89)) (
 some (.tup [],h68)))):=kB
theorem ahw:evF Tryz.prog xM (k+1) wl 225 [a] h=ak (xX (xS k) 225 wl k false) Tryz.f225 [a] h:=by kernel_rfl
-- names: Zz,
theorem adg:ak (xX s 226 wl k false) Tryz.f226 [a] h =
 stO h.length a (
 bm (aS a h) h fun v1 h2=>
 bm (aa s.P 235 v1 2) h2 fun v3 h4=>
 stO h.length v3 (
 bm (ab s.P 26 v3 h4) h4 fun v5 h6=>
 bm (aS a h6) h6 fun v7 h8=>
 bm (aa s.P 235 v7 1) h8 fun v9 hA=>
 bm (ab s.P 23 v9 hA) hA fun vA hB=>
 bm (aS a hB) hB fun vC hC=>
 bm (aa s.P 235 vC 0) hC fun vD hD=>
 bm (aa s.P 55 vD 2) hD fun vB hE=>
 bm (ab s.P 3 vB hE) hE fun vE hH=>
 bm (aS a hH) hH fun vF hF=>
 bm (aa s.P 235 vF 0) hF fun vH hG=>
 bm (aa s.P 55 vH 4) hG fun vI hJ=>
 bm (ab s.P 46 vI hJ) hJ fun vG hI=>
 bp (yC s k wl 226 true true (.fn (.func 109) [] []) [vA,vE,vG] hI) fun vJ hL=>
 stO h.length a (
 bm (aS a hL) hL fun vL hN=>
 bm (aa s.P 235 vL 0) hN fun vK hO=>
 bm (aa s.P 55 vK 3) hO fun vO hV=>
 stO h.length vO (
 bm (ab s.P 46 vO hV) hV fun vW hS=>
 bp (yC s k wl 226 false true (.fn (.func 88) [] []) [v5,vJ,vW] hS) fun vY hU=>
 bm (aS a hU) hU fun vP hP=>
 bm (aa s.P 235 vP 2) hP fun vZ ha=>
 bs (aj s.P wl 26 vZ vY ha) fun hX=>
 bm (aS a hX) hX fun va he=>
 bm (aa s.P 235 va 0) he fun vb hg=>
 bm (aa s.P 55 vb 1) hg fun vU hZ=>
 bs (aj s.P wl 3 vU (.lit (.int .i64 3)) hZ) fun hM=>
 some (.tup [],hM))))):=kB
theorem aeX:evF Tryz.prog xM (k+1) wl 226 [a] h=ak (xX (xS k) 226 wl k false) Tryz.f226 [a] h:=by kernel_rfl
-- names: adg,
theorem YT:ak (xX s 227 wl k false) Tryz.f227 [a] h =
 stO h.length a (
 bm (aS a h) h fun v1 h2=>
 bm (aa s.P 235 v1 2) h2 fun v3 h4=>
 stO h.length v3 (
 bm (ab s.P 26 v3 h4) h4 fun v5 h6=>
 bm (aS a h6) h6 fun v7 h8=>
 bm (aa s.P 235 v7 1) h8 fun v9 hA=>
 bm (ab s.P 23 v9 hA) hA fun vA hB=>
 bm (aS a hB) hB fun vC hC=>
 bm (aa s.P 235 vC 0) hC fun vD hD=>
 bm (aa s.P 55 vD 2) hD fun vB hE=>
 bm (ab s.P 3 vB hE) hE fun vE hH=>
 bp (yC s k wl 227 true true (.fn (.func 108) [] []) [vA,vE] hH) fun vF hF=>
 stO h.length a (
 bm (aS a hF) hF fun vH hG=>
 bm (aa s.P 235 vH 0) hG fun vI hJ=>
 bm (aa s.P 55 vI 4) hJ fun vG hI=>
 stO h.length vG (
 bm (ab s.P 46 vG hI) hI fun vJ hL=>
 bm (au s.P .add 46 vJ (.lit (.int .u64 1))) hL fun vL hN=>
 bp (yC s k wl 227 false true (.fn (.func 88) [] []) [v5,vF,vL] hN) fun vK hO=>
 bm (aS a hO) hO fun vO hV=>
 bm (aa s.P 235 vO 2) hV fun vW hS=>
 bs (aj s.P wl 26 vW vK hS) fun hb=>
 bm (aS a hb) hb fun vQ hd=>
 bm (aa s.P 235 vQ 0) hd fun vm hf=>
 bm (ab s.P 55 vm hf) hf fun vi hX=>
 bm (aS a hX) hX fun va he=>
 bm (aa s.P 235 va 0) he fun vb hg=>
 bm (aa s.P 55 vb 3) hg fun vU hZ=>
 bm (ab s.P 46 vU hZ) hZ fun vX hi=>
 bp (yC s k wl 227 false true (.fn (.func 193) [] []) [vi,(.lit (.int .i64 1)),vX] hi) fun vR hp=>
 bm (aS a hp) hp fun vq ht=>
 bm (aa s.P 235 vq 0) ht fun vt hz=>
 bs (aj s.P wl 55 vt vR hz) fun hy=>
 some (.tup [],hy))))):=kB
theorem ad7:evF Tryz.prog xM (k+1) wl 227 [a] h=ak (xX (xS k) 227 wl k false) Tryz.f227 [a] h:=by kernel_rfl
-- names: YT,
theorem Z7:ak (xX s 228 wl k false) Tryz.f228 [a,d,b,g,i] h =
 bp (some (.own h.length 0 0,h++[.rows 0 [] 0 true])) fun v1 h2=>
 bp (aw s.P 55 h2) fun v3 h4=>
 bm (ab s.P 26 b h4) h4 fun v5 h6=>
 bm (ab s.P 3 g h6) h6 fun v7 h8=>
 bm (aa s.P 55 i 4) h8 fun v9 hA=>
 bm (ab s.P 46 v9 hA) hA fun vA hB=>
 bm (au s.P .add 46 vA (.lit (.int .u64 1))) hB fun vC hC=>
 bp (yC s k wl 228 true true (.fn (.func 88) [] []) [v5,v7,vC] hC) fun vD hD=>
 stO h4.length i (
 bm (ab s.P 55 i hD) hD fun vB hE=>
 bp (yC s k wl 228 false true (.fn (.func 193) [] []) [vB,a,d] hE) fun vE hH=>
 bs (aj s.P wl 55 v3 vE hH) fun hQ=>
 eo [some vD,ab s.P 55 v3 hQ] hQ):=kB
theorem agW:evF Tryz.prog xM (k+1) wl 228 [a,d,b,g,i] h=ak (xX (xS k) 228 wl k false) Tryz.f228 [a,d,b,g,i] h:=by kernel_rfl
-- names: Z7,
theorem Xb:ak (xX s 229 wl k false) Tryz.f229 [a,d,b] h =
 bm (ab s.P 26 a h) h fun v1 h2=>
 bm (ab s.P 3 d h2) h2 fun v3 h4=>
 bp (yC s k wl 229 false true (.fn (.func 27) [] []) [v1,v3] h4) fun v5 h6=>
 bm (aa s.P 55 b 5) h6 fun v7 h8=>
 bs (aj s.P wl 46 v7 v5 h8) fun h9=>
 some (.tup [],h9):=kB
theorem Y2:evF Tryz.prog xM (k+1) wl 229 [a,d,b] h=ak (xX (xS k) 229 wl k false) Tryz.f229 [a,d,b] h:=by kernel_rfl
-- names: Xb,
theorem Ut:ak (xX s 230 wl k false) Tryz.f230 [a,d,b] h =
 bm (ab s.P 26 a h) h fun v1 h2=>
 bm (ab s.P 3 d h2) h2 fun v3 h4=>
 bp (yC s k wl 230 false true (.fn (.func 27) [] []) [v1,v3] h4) fun v5 h6=>
 bm (aa s.P 55 b 4) h6 fun v7 h8=>
 bs (aj s.P wl 46 v7 v5 h8) fun h9=>
 bm (aa s.P 55 b 4) h9 fun v10 h11=>
 bm (ab s.P 46 v10 h11) h11 fun v12 h13=>
 bm (aa s.P 55 b 5) h13 fun vz ho=>
 bm (ab s.P 46 vz ho) ho fun vr hu=>
 bp (yC s k wl 230 false true (.fn (.func 106) [] []) [v12,vr] hu) fun vn hr=>
 bm (au s.P .leq 3 vn (.lit (.int .i64 0))) hr fun vd hQ=>
 cnd vd (
 bm (ab s.P 55 b hQ) hQ fun vV hm=>
 bp (yC s k wl 230 false true (.fn (.func 193) [] []) [vV,(.lit (.int .i64 3)),(.lit (.int .u64 0))] hm) fun vS hc=>
 bs (aj s.P wl 55 b vS hc) fun hJ=>
 some (.tup [],hJ)) (
 some (.tup [],hQ)):=kB
theorem acZ:evF Tryz.prog xM (k+1) wl 230 [a,d,b] h=ak (xX (xS k) 230 wl k false) Tryz.f230 [a,d,b] h:=by kernel_rfl
-- names: Ut,
theorem Vq:ak (xX s 231 wl k false) Tryz.f231 [a,d,b] h =
 stO h.length a (
 bm (ab s.P 26 a h) h fun v1 h2=>
 bm (ab s.P 23 d h2) h2 fun v3 h4=>
 bm (aa s.P 55 b 2) h4 fun v5 h6=>
 bm (ab s.P 3 v5 h6) h6 fun v7 h8=>
 bm (aa s.P 55 b 5) h8 fun v9 hA=>
 bm (ab s.P 46 v9 hA) hA fun vA hB=>
 bp (yC s k wl 231 true true (.fn (.func 109) [] []) [v3,v7,vA] hB) fun vC hC=>
 bp (yC s k wl 231 false true (.fn (.func 27) [] []) [v1,vC] hC) fun vD hD=>
 bm (aa s.P 55 b 3) hD fun vB hE=>
 bs (aj s.P wl 46 vB vD hE) fun hr=>
 some (.tup [],hr)):=kB
theorem ab7:evF Tryz.prog xM (k+1) wl 231 [a,d,b] h=ak (xX (xS k) 231 wl k false) Tryz.f231 [a,d,b] h:=by kernel_rfl
-- names: Vq,
theorem V5:ak (xX s 232 wl k false) Tryz.f232 [a,d,b] h =
 bm (ab s.P 26 a h) h fun v1 h2=>
 bm (ab s.P 3 d h2) h2 fun v3 h4=>
 bm (aa s.P 55 b 5) h4 fun v5 h6=>
 bm (ab s.P 46 v5 h6) h6 fun v7 h8=>
 bm (aa s.P 55 b 5) h8 fun v9 hA=>
 bm (ab s.P 46 v9 hA) hA fun vA hB=>
 bm (au s.P .add 46 vA (.lit (.int .u64 1))) hB fun vC hC=>
 bp (yC s k wl 232 false true (.fn (.func 191) [] []) [v1,v3,v7,vC] hC) fun vD hD=>
 bm (ar vD 0) hD fun vB hE=>
 bm (ar vD 1) hE fun vE hH=>
 bs (aj s.P wl 26 a vB hH) fun hQ=>
 cnd vE (
 bm (ab s.P 55 b hQ) hQ fun vV hm=>
 bm (aa s.P 55 b 3) hm fun vS hc=>
 bm (ab s.P 46 vS hc) hc fun vN hn=>
 bp (yC s k wl 232 false true (.fn (.func 193) [] []) [vV,(.lit (.int .i64 1)),vN] hn) fun vh hs=>
 bs (aj s.P wl 55 b vh hs) fun hL=>
 some (.tup [],hL)) (
 bm (ab s.P 55 b hQ) hQ fun vL hN=>
 bp (yC s k wl 232 false true (.fn (.func 193) [] []) [vL,(.lit (.int .i64 4)),(.lit (.int .u64 0))] hN) fun vK hO=>
 bs (aj s.P wl 55 b vK hO) fun hW=>
 some (.tup [],hW)):=kB
theorem adk:evF Tryz.prog xM (k+1) wl 232 [a,d,b] h=ak (xX (xS k) 232 wl k false) Tryz.f232 [a,d,b] h:=by kernel_rfl
-- names: V5,
end
end Go.Ab
set_option maxRecDepth 100000
set_option linter.unusedVariables false
namespace Go.Ab
open Go.Proofs
section
variable (s:Sys) (k wl:Nat) (m0:Nat) (ac:List Nat×List Nat) (a b d e n o g i j p q r l u y v E A F B D z Q L R M I T N U O J G W X Y Z t0:V) (h:Hp) (K:Out→St→Option (V×Hp)) (rd:Bool) (zz:List V)
noncomputable def B7:List Fr:=[.seq (al (an Tryz.f165) [1,1,1,1])]
theorem abU:ak (xX s 165 wl k false) Tryz.f165 [a,b,d] h =
 bp (aP a h) fun v1 h2=>
 bp (aP d h2) fun v3 h4=>
 bp (some (.own h4.length 0 0,h4++[.rows 0 [] 0 true])) fun v5 h6=>
 bp (aw s.P 55 h6) fun v7 h8=>
 stO h8.length v3 (
 bm (ab s.P 55 v3 h8) h8 fun v9 hA=>
 stO h8.length v1 (
 bm (ab s.P 23 v1 hA) hA fun vA hB=>
 bp (yC s k wl 165 true true (.fn (.func 76) [] []) [b] hB) fun vC hC=>
 bm (bf s.P 205 [(0,v9),(1,vA),(2,vC)]) hC fun vD hD=>
 bp (aP vD hD) fun vB hE=>
 bp (aD s.P wl 207 5 [(0,(.fn (.func 183) [] [])),(1,(.fn (.func 184) [] [])),(2,(.fn (.func 185) [] [])),(3,(.fn (.func 186) [] [])),(4,(.fn (.func 187) [] []))] hE) fun vE hH=>
 bm (ab s.P 23 v1 hH) hH fun vF hF=>
 bm (ab s.P 55 v3 hF) hF fun vH hG=>
 bp (br s.P 207 vE hG) fun vI hJ=>
 bp (yC s k wl 165 false true (.fn (.func 188) [] []) [vF,b,vH,(.lit (.int .i64 5)),vI] hJ) fun vG hI=>
 cnd vG (
 bm (aa s.P 55 v3 1) hI fun vJ hL=>
 bm (ab s.P 3 vJ hL) hL fun vL hN=>
 bm (am s.P 207 vE vL hN) hN fun vK hO=>
 bm (ab s.P 206 vK hO) hO fun vO hV=>
 bp (yC s k wl 165 false true vO [vB] hV) fun vW hS=>
 av (xX s 165 wl k false) (aB s.P Tryz.f165) B7 .norm ⟨[a,b,d,v1,uu,v3,v5,v7,vB,vE,v9,vA,b,vC,vD,vB,vE,vF,b,vH,vE,vI,vG,vE,vJ,vL,vK,vO,vB,vW,uu,uu,uu,uu,uu,uu,uu,uu],hS⟩) (
 av (xX s 165 wl k false) (aB s.P Tryz.f165) B7 .norm ⟨[a,b,d,v1,uu,v3,v5,v7,vB,vE,v9,vA,b,vC,vD,vB,vE,vF,b,vH,vE,vI,vG,uu,uu,uu,uu,uu,uu,uu,uu,uu,uu,uu,uu,uu,uu,uu],hI⟩))):=kB
theorem afJ:evF Tryz.prog xM (k+1) wl 165 [a,b,d] h=ak (xX (xS k) 165 wl k false) Tryz.f165 [a,b,d] h:=by kernel_rfl
theorem LF:av (xX s 165 wl k false) (aB s.P Tryz.f165) B7 .norm ⟨[a,b,d,e,n,o,g,i,j,p,q,r,l,u,y,v,E,A,F,B,D,z,Q,L,R,M,I,T,N,U,O,J,G,W,X,Y,Z,t0],h⟩ =
 bm (aS j h) h fun vY hU=>
 bm (aa s.P 205 vY 2) hU fun vP hP=>
 bm (ab s.P 26 vP hP) hP fun vZ ha=>
 bm (aS j ha) ha fun vc hK=>
 bm (aa s.P 205 vc 0) hK fun vl hj=>
 bm (ab s.P 55 vl hj) hj fun vg hl=>
 bs (aj s.P wl 55 i vg hl) fun hZ=>
 eo [some vZ,ab s.P 55 i hZ] hZ:=kR
theorem uz (cx:Cx) (s:St):av cx K B7 .ret s=K .ret s:=by kernel_rfl
-- names: abU,LF,uz
theorem aaP:ak (xX s 183 wl k false) Tryz.f183 [a] h =
 bm (aS a h) h fun v1 h2=>
 bm (aa s.P 205 v1 2) h2 fun v3 h4=>
 bm (ab s.P 26 v3 h4) h4 fun v5 h6=>
 bp (yC s k wl 183 false true (.fn (.func 27) [] []) [v5,(.lit (.int .i64 2))] h6) fun v7 h8=>
 bm (aS a h8) h8 fun v9 hA=>
 bm (aa s.P 205 v9 0) hA fun vA hB=>
 bm (aa s.P 55 vA 4) hB fun vC hC=>
 bs (aj s.P wl 46 vC v7 hC) fun ho=>
 bm (aS a ho) ho fun vr hu=>
 bm (aa s.P 205 vr 0) hu fun vn hr=>
 bm (aa s.P 55 vn 1) hr fun vd hQ=>
 bs (aj s.P wl 3 vd (.lit (.int .i64 1)) hQ) fun hF=>
 some (.tup [],hF):=kB
theorem afB:evF Tryz.prog xM (k+1) wl 183 [a] h=ak (xX (xS k) 183 wl k false) Tryz.f183 [a] h:=by kernel_rfl
-- names: aaP,
theorem aan:ak (xX s 184 wl k false) Tryz.f184 [a] h =
 bm (aS a h) h fun v1 h2=>
 bm (aa s.P 205 v1 2) h2 fun v3 h4=>
 bm (ab s.P 26 v3 h4) h4 fun v5 h6=>
 bp (yC s k wl 184 false true (.fn (.func 27) [] []) [v5,(.lit (.int .i64 2))] h6) fun v7 h8=>
 bm (aS a h8) h8 fun v9 hA=>
 bm (aa s.P 205 v9 0) hA fun vA hB=>
 bm (aa s.P 55 vA 5) hB fun vC hC=>
 bs (aj s.P wl 46 vC v7 hC) fun ho=>
 bm (aS a ho) ho fun vr hu=>
 bm (aa s.P 205 vr 0) hu fun vn hr=>
 bm (aa s.P 55 vn 1) hr fun vd hQ=>
 bs (aj s.P wl 3 vd (.lit (.int .i64 2)) hQ) fun hF=>
 bm (aS a hF) hF fun vH hG=>
 bm (aa s.P 205 vH 0) hG fun vI hJ=>
 bm (aa s.P 55 vI 5) hJ fun vG hI=>
 bm (ab s.P 46 vG hI) hI fun vJ hL=>
 bp (yC s k wl 184 true true (.fn (.func 213) [] []) [vJ] hL) fun vL hN=>
 stO hF.length a (
 bm (aS a hN) hN fun vK hO=>
 bm (aa s.P 205 vK 0) hO fun vO hV=>
 bm (aa s.P 55 vO 4) hV fun vW hS=>
 stO hF.length vW (
 bm (ab s.P 46 vW hS) hS fun vY hU=>
 bp (yC s k wl 184 false true (.fn (.func 213) [] []) [vY] hU) fun vP hP=>
 bm (au s.P .neq 46 vL vP) hP fun vZ ha=>
 cnd vZ (
 bm (aS a ha) ha fun vc hK=>
 bm (aa s.P 205 vc 0) hK fun vl hj=>
 bm (ab s.P 55 vl hj) hj fun vg hl=>
 bp (yC s k wl 184 false true (.fn (.func 193) [] []) [vg,(.lit (.int .i64 4)),(.lit (.int .u64 0))] hl) fun vs hM=>
 bm (aS a hM) hM fun vo hk=>
 bm (aa s.P 205 vo 0) hk fun vv hq=>
 bs (aj s.P wl 55 vv vs hq) fun ht=>
 some (.tup [],ht)) (
 some (.tup [],ha)))):=kB
theorem ah1:evF Tryz.prog xM (k+1) wl 184 [a] h=ak (xX (xS k) 184 wl k false) Tryz.f184 [a] h:=by kernel_rfl
-- names: aan,
theorem abM:ak (xX s 185 wl k false) Tryz.f185 [a] h =
 bm (aS a h) h fun v1 h2=>
 bm (aa s.P 205 v1 0) h2 fun v3 h4=>
 bm (aa s.P 55 v3 1) h4 fun v5 h6=>
 bs (aj s.P wl 3 v5 (.lit (.int .i64 1)) h6) fun h7=>
 stO h7.length a (
 bm (aS a h7) h7 fun v8 h9=>
 bm (aa s.P 205 v8 2) h9 fun v10 h11=>
 stO h7.length v10 (
 bm (ab s.P 26 v10 h11) h11 fun v12 h13=>
 stO h7.length a (
 bm (aS a h13) h13 fun vz ho=>
 bm (aa s.P 205 vz 0) ho fun vr hu=>
 bm (aa s.P 55 vr 5) hu fun vn hr=>
 stO h7.length vn (
 bm (ab s.P 46 vn hr) hr fun vd hQ=>
 bm (aS a hQ) hQ fun vV hm=>
 bm (aa s.P 205 vV 0) hm fun vS hc=>
 bm (aa s.P 55 vS 5) hc fun vN hn=>
 bm (ab s.P 46 vN hn) hn fun vh hs=>
 bm (aS a hs) hs fun vp hY=>
 bm (aa s.P 205 vp 0) hY fun ve hh=>
 bm (aa s.P 55 ve 2) hh fun vf hW=>
 bm (ab s.P 3 vf hW) hW fun vM hT=>
 bp (yC s k wl 185 true true (.fn (.func 214) [] []) [vh,vM] hT) fun vT hb=>
 bp (yC s k wl 185 false true (.fn (.func 191) [] []) [v12,(.lit (.int .i64 2)),vd,vT] hb) fun vQ hd=>
 bm (ar vQ 0) hd fun vm hf=>
 bm (ar vQ 1) hf fun vi hX=>
 bm (aS a hX) hX fun va he=>
 bm (aa s.P 205 va 2) he fun vb hg=>
 bs (aj s.P wl 26 vb vm hg) fun hl=>
 cnd vi (
 bm (aS a hl) hl fun vs hM=>
 bm (aa s.P 205 vs 0) hM fun vo hk=>
 bm (aa s.P 55 vo 1) hk fun vv hq=>
 bs (aj s.P wl 3 vv (.lit (.int .i64 3)) hq) fun ht=>
 some (.tup [],ht)) (
 some (.tup [],hl)))))):=kB
theorem af3:evF Tryz.prog xM (k+1) wl 185 [a] h=ak (xX (xS k) 185 wl k false) Tryz.f185 [a] h:=by kernel_rfl
-- names: abM,
theorem acw:ak (xX s 186 wl k false) Tryz.f186 [a] h =
 stO h.length a (
 bm (aS a h) h fun v1 h2=>
 bm (aa s.P 205 v1 2) h2 fun v3 h4=>
 stO h.length v3 (
 bm (ab s.P 26 v3 h4) h4 fun v5 h6=>
 bm (aS a h6) h6 fun v7 h8=>
 bm (aa s.P 205 v7 1) h8 fun v9 hA=>
 bm (ab s.P 23 v9 hA) hA fun vA hB=>
 bm (aS a hB) hB fun vC hC=>
 bm (aa s.P 205 vC 0) hC fun vD hD=>
 bm (aa s.P 55 vD 2) hD fun vB hE=>
 bm (ab s.P 3 vB hE) hE fun vE hH=>
 bp (yC s k wl 186 true true (.fn (.func 32) [] []) [vA,vE] hH) fun vF hF=>
 bp (yC s k wl 186 false true (.fn (.func 27) [] []) [v5,vF] hF) fun vH hG=>
 bm (aS a hG) hG fun vI hJ=>
 bm (aa s.P 205 vI 0) hJ fun vG hI=>
 bm (aa s.P 55 vG 5) hI fun vJ hL=>
 bs (aj s.P wl 46 vJ vH hL) fun hY=>
 bm (aS a hY) hY fun ve hh=>
 bm (aa s.P 205 ve 0) hh fun vf hW=>
 bm (aa s.P 55 vf 5) hW fun vM hT=>
 bm (ab s.P 46 vM hT) hT fun vT hb=>
 bm (au s.P .neq 46 vT (.lit (.int .u64 0))) hb fun vQ hd=>
 cnd vQ (
 bm (aS a hd) hd fun vm hf=>
 bm (aa s.P 205 vm 0) hf fun vi hX=>
 bm (aa s.P 55 vi 1) hX fun va he=>
 bs (aj s.P wl 3 va (.lit (.int .i64 4)) he) fun hj=>
 some (.tup [],hj)) (
 some (.tup [],hd)))):=kB
theorem agP:evF Tryz.prog xM (k+1) wl 186 [a] h=ak (xX (xS k) 186 wl k false) Tryz.f186 [a] h:=by kernel_rfl
-- names: acw,
theorem abi:ak (xX s 187 wl k false) Tryz.f187 [a] h =
 stO h.length a (
 bm (aS a h) h fun v1 h2=>
 bm (aa s.P 205 v1 2) h2 fun v3 h4=>
 stO h.length v3 (
 bm (ab s.P 26 v3 h4) h4 fun v5 h6=>
 bm (aS a h6) h6 fun v7 h8=>
 bm (aa s.P 205 v7 1) h8 fun v9 hA=>
 bm (ab s.P 23 v9 hA) hA fun vA hB=>
 bm (aS a hB) hB fun vC hC=>
 bm (aa s.P 205 vC 0) hC fun vD hD=>
 bm (aa s.P 55 vD 2) hD fun vB hE=>
 bm (ab s.P 3 vB hE) hE fun vE hH=>
 bp (yC s k wl 187 true true (.fn (.func 32) [] []) [vA,vE] hH) fun vF hF=>
 bp (yC s k wl 187 false true (.fn (.func 88) [] []) [v5,vF,(.lit (.int .u64 0))] hF) fun vH hG=>
 bm (aS a hG) hG fun vI hJ=>
 bm (aa s.P 205 vI 2) hJ fun vG hI=>
 bs (aj s.P wl 26 vG vH hI) fun hs=>
 bm (aS a hs) hs fun vp hY=>
 bm (aa s.P 205 vp 0) hY fun ve hh=>
 bm (ab s.P 55 ve hh) hh fun vf hW=>
 bp (yC s k wl 187 false true (.fn (.func 193) [] []) [vf,(.lit (.int .i64 1)),(.lit (.int .u64 0))] hW) fun vM hT=>
 bm (aS a hT) hT fun vT hb=>
 bm (aa s.P 205 vT 0) hb fun vQ hd=>
 bs (aj s.P wl 55 vQ vM hd) fun hP=>
 some (.tup [],hP))):=kB
theorem aet:evF Tryz.prog xM (k+1) wl 187 [a] h=ak (xX (xS k) 187 wl k false) Tryz.f187 [a] h:=by kernel_rfl
-- names: abi,
noncomputable def ff:Code:=al (an Tryz.f196) [1,0]
noncomputable def ez:List Fr:=[.seq (al (an Tryz.f196) [1,1])]
theorem YS:ak (xX s 196 wl k false) Tryz.f196 [a,b,d,e] h =
 bp (aP a h) fun v1 h2=>
 bp (aP d h2) fun v3 h4=>
 bm (ab s.P 23 v1 h4) h4 fun v5 h6=>
 bp (yC s k wl 196 false true (.fn (.func 105) [] []) [v5,b] h6) fun v7 h8=>
 gd v7 (
 bm (ab s.P 55 v3 h8) h8 fun v9 hA=>
 bp (yC s k wl 196 false true (.fn (.func 110) [] []) [v9] hA) fun vA hB=>
 bm (vUn .not vA) hB fun vC hC=>
 yO s k wl 196 Tryz.f196 ff 7 h4.length ([],[]) ez ⟨[a,b,d,e,v1,uu,v3,uu,(.lit (.bool false)),v5,b,v7,(.lit (.bool true)),v9,vA,vC,uu,uu,uu,uu,uu,uu,uu,uu,uu,uu,uu,uu,uu,uu,uu,uu,uu],hC⟩) (
 yO s k wl 196 Tryz.f196 ff 7 h4.length ([],[]) ez ⟨[a,b,d,e,v1,uu,v3,uu,(.lit (.bool false)),v5,b,v7,(.lit (.bool false)),uu,uu,uu,uu,uu,uu,uu,uu,uu,uu,uu,uu,uu,uu,uu,uu,uu,uu,uu,uu],h8⟩) (
 yO s k wl 196 Tryz.f196 ff 5 h4.length ([],[]) ez ⟨[a,b,d,e,v1,uu,v3,uu,(.lit (.bool false)),v5,b,v7,v7,uu,uu,uu,uu,uu,uu,uu,uu,uu,uu,uu,uu,uu,uu,uu,uu,uu,uu,uu,uu],h8⟩):=kB
theorem ahL:evF Tryz.prog xM (k+1) wl 196 [a,b,d,e] h=ak (xX (xS k) 196 wl k false) Tryz.f196 [a,b,d,e] h:=by kernel_rfl
theorem LW:yO s k wl 196 Tryz.f196 ff 7 m0 ac ez ⟨(a::b::d::e::n::o::g::i::j::p::q::r::l::u::y::v::E::A::F::B::D::z::zz),h⟩ =
 bm (aT l v (.lit (.bool false))) h fun vD hD=>
 gd vD (
 bm (aa s.P 55 g 0) hD fun vB hE=>
 bm (ab s.P 3 vB hE) hE fun vE hH=>
 bm (au s.P .eql 3 vE e) hH fun vF hF=>
 yO s k wl 196 Tryz.f196 ff 13 m0 ac ez ⟨(a::b::d::e::n::o::g::i::j::p::q::r::l::u::y::v::vD::(.lit (.bool true))::vB::vE::e::vF::zz),hF⟩) (
 yO s k wl 196 Tryz.f196 ff 13 m0 ac ez ⟨(a::b::d::e::n::o::g::i::j::p::q::r::l::u::y::v::vD::(.lit (.bool false))::uu::uu::uu::uu::zz),hD⟩) (
 yO s k wl 196 Tryz.f196 ff 10 m0 ac ez ⟨(a::b::d::e::n::o::g::i::j::p::q::r::l::u::y::v::vD::vD::uu::B::D::z::zz),hD⟩):=kG
theorem KG:yO s k wl 196 Tryz.f196 ff 13 m0 ac ez ⟨[a,b,d,e,n,o,g,i,j,p,q,r,l,u,y,v,E,A,F,B,D,z,Q,L,R,M,I,T,N,U,O,J,G],h⟩ =
 bm (aT A z (.lit (.bool false))) h fun vH hG=>
 gd vH (
 bm (aa s.P 55 g 1) hG fun vI hJ=>
 bm (ab s.P 3 vI hJ) hJ fun vG hI=>
 bm (au s.P .geq 3 vG (.lit (.int .i64 0))) hI fun vJ hL=>
 yO s k wl 196 Tryz.f196 ff 18 m0 ac ez ⟨[a,b,d,e,n,o,g,i,j,p,q,r,l,u,y,v,E,A,F,B,D,z,vH,(.lit (.bool true)),vI,vG,vJ,T,N,U,O,J,G],hL⟩) (
 yO s k wl 196 Tryz.f196 ff 18 m0 ac ez ⟨[a,b,d,e,n,o,g,i,j,p,q,r,l,u,y,v,E,A,F,B,D,z,vH,(.lit (.bool false)),uu,uu,uu,T,N,U,O,J,G],hG⟩) (
 yO s k wl 196 Tryz.f196 ff 16 m0 ac ez ⟨[a,b,d,e,n,o,g,i,j,p,q,r,l,u,y,v,E,A,F,B,D,z,vH,vH,uu,M,I,T,N,U,O,J,G],hG⟩):=kG
theorem NU:yO s k wl 196 Tryz.f196 ff 18 m0 ac ez ⟨[a,b,d,e,n,o,g,i,j,p,q,r,l,u,y,v,E,A,F,B,D,z,Q,L,R,M,I,T,N,U,O,J,G],h⟩ =
 bm (aT L I (.lit (.bool false))) h fun vL hN=>
 gd vL (
 bm (aa s.P 55 g 1) hN fun vK hO=>
 bm (ab s.P 3 vK hO) hO fun vO hV=>
 bm (au s.P .lss 3 vO (.lit (.int .i64 5))) hV fun vW hS=>
 yO s k wl 196 Tryz.f196 ff 23 m0 ac ez ⟨[a,b,d,e,n,o,g,i,j,p,q,r,l,u,y,v,E,A,F,B,D,z,Q,L,R,M,I,vL,(.lit (.bool true)),vK,vO,vW,G],hS⟩) (
 yO s k wl 196 Tryz.f196 ff 23 m0 ac ez ⟨[a,b,d,e,n,o,g,i,j,p,q,r,l,u,y,v,E,A,F,B,D,z,Q,L,R,M,I,vL,(.lit (.bool false)),uu,uu,uu,G],hN⟩) (
 yO s k wl 196 Tryz.f196 ff 21 m0 ac ez ⟨[a,b,d,e,n,o,g,i,j,p,q,r,l,u,y,v,E,A,F,B,D,z,Q,L,R,M,I,vL,vL,uu,O,J,G],hN⟩):=kG
theorem Kj:yO s k wl 196 Tryz.f196 ff 23 m0 ac ez ⟨[a,b,d,e,n,o,g,i,j,p,q,r,l,u,y,v,E,A,F,B,D,z,Q,L,R,M,I,T,N,U,O,J,G],h⟩ =
 bm (aT N J (.lit (.bool false))) h fun vY hU=>
 some (vY,hU):=kG
theorem uH (cx:Cx) (s:St):av cx K ez .ret s=K .ret s:=by kernel_rfl
-- names: YS,LW,KG,NU,Kj,uH
theorem ace:ak (xX s 197 wl k false) Tryz.f197 [a] h =
 bm (aS a h) h fun v1 h2=>
 bm (aa s.P 221 v1 2) h2 fun v3 h4=>
 bm (ab s.P 26 v3 h4) h4 fun v5 h6=>
 bp (yC s k wl 197 false true (.fn (.func 27) [] []) [v5,(.lit (.int .i64 5))] h6) fun v7 h8=>
 bm (aS a h8) h8 fun v9 hA=>
 bm (aa s.P 221 v9 0) hA fun vA hB=>
 bm (aa s.P 55 vA 4) hB fun vC hC=>
 bs (aj s.P wl 46 vC v7 hC) fun ho=>
 some ((.lit (.int .i64 1)),ho):=kB
theorem af8:evF Tryz.prog xM (k+1) wl 197 [a] h=ak (xX (xS k) 197 wl k false) Tryz.f197 [a] h:=by kernel_rfl
-- names: ace,
theorem ab8:ak (xX s 198 wl k false) Tryz.f198 [a] h =
 stO h.length a (
 bm (aS a h) h fun v1 h2=>
 bm (aa s.P 221 v1 2) h2 fun v3 h4=>
 stO h.length v3 (
 bm (ab s.P 26 v3 h4) h4 fun v5 h6=>
 bm (aS a h6) h6 fun v7 h8=>
 bm (aa s.P 221 v7 1) h8 fun v9 hA=>
 bm (ab s.P 23 v9 hA) hA fun vA hB=>
 bm (aS a hB) hB fun vC hC=>
 bm (aa s.P 221 vC 0) hC fun vD hD=>
 bm (aa s.P 55 vD 4) hD fun vB hE=>
 bm (ab s.P 46 vB hE) hE fun vE hH=>
 bp (yC s k wl 198 true true (.fn (.func 203) [] []) [vA,vE] hH) fun vF hF=>
 bp (yC s k wl 198 false true (.fn (.func 27) [] []) [v5,vF] hF) fun vH hG=>
 bm (aS a hG) hG fun vI hJ=>
 bm (aa s.P 221 vI 0) hJ fun vG hI=>
 bm (aa s.P 55 vG 5) hI fun vJ hL=>
 bs (aj s.P wl 46 vJ vH hL) fun hY=>
 stO hY.length a (
 bm (aS a hY) hY fun ve hh=>
 bm (aa s.P 221 ve 0) hh fun vf hW=>
 bm (aa s.P 55 vf 5) hW fun vM hT=>
 stO hY.length vM (
 bm (ab s.P 46 vM hT) hT fun vT hb=>
 bp (yC s k wl 198 true true (.fn (.func 221) [] []) [a] hb) fun vQ hd=>
 bm (au s.P .eql 46 vT vQ) hd fun vm hf=>
 cnd vm (
 some ((.lit (.int .i64 2)),hf)) (
 stO hf.length a (
 bm (aS a hf) hf fun vi hX=>
 bm (aa s.P 221 vi 0) hX fun va he=>
 bm (aa s.P 55 va 5) he fun vb hg=>
 stO hf.length vb (
 bm (ab s.P 46 vb hg) hg fun vU hZ=>
 bp (yC s k wl 198 true true (.fn (.func 221) [] []) [a] hZ) fun vX hi=>
 bp (yC s k wl 198 false true (.fn (.func 106) [] []) [vU,vX] hi) fun vR hp=>
 bm (au s.P .lss 3 vR (.lit (.int .i64 0))) hp fun vq ht=>
 cnd vq (
 bm (aS a ht) ht fun vt hz=>
 bm (aa s.P 221 vt 0) hz fun v60 h61=>
 bm (ab s.P 55 v60 h61) h61 fun vx h63=>
 bm (aS a h63) h63 fun vw h65=>
 bm (aa s.P 221 vw 0) h65 fun vk h67=>
 bm (aa s.P 55 vk 3) h67 fun v68 h69=>
 bm (ab s.P 46 v68 h69) h69 fun v70 h71=>
 bp (yC s k wl 198 false true (.fn (.func 193) [] []) [vx,(.lit (.int .i64 2)),v70] h71) fun v72 h73=>
 bm (aS a h73) h73 fun v74 h75=>
 bm (aa s.P 221 v74 0) h75 fun v76 hR=>
 bs (aj s.P wl 55 v76 v72 hR) fun h78=>
 some ((.lit (.int .i64 0)),h78)) (
 some ((.lit (.int .i64 0)),ht))))))))):=kB
theorem aha:evF Tryz.prog xM (k+1) wl 198 [a] h=ak (xX (xS k) 198 wl k false) Tryz.f198 [a] h:=by kernel_rfl
-- names: ab8,
theorem acU:ak (xX s 199 wl k false) Tryz.f199 [a] h =
 bm (aS a h) h fun v1 h2=>
 bm (aa s.P 221 v1 2) h2 fun v3 h4=>
 bm (ab s.P 26 v3 h4) h4 fun v5 h6=>
 bm (aS a h6) h6 fun v7 h8=>
 bm (aa s.P 221 v7 0) h8 fun v9 hA=>
 bm (aa s.P 55 v9 4) hA fun vA hB=>
 bm (ab s.P 46 vA hB) hB fun vC hC=>
 bm (aS a hC) hC fun vD hD=>
 bm (aa s.P 221 vD 0) hD fun vB hE=>
 bm (aa s.P 55 vB 4) hE fun vE hH=>
 bm (ab s.P 46 vE hH) hH fun vF hF=>
 bm (au s.P .add 46 vF (.lit (.int .u64 1))) hF fun vH hG=>
 bp (yC s k wl 199 false true (.fn (.func 191) [] []) [v5,(.lit (.int .i64 5)),vC,vH] hG) fun vI hJ=>
 bm (ar vI 0) hJ fun vG hI=>
 bm (ar vI 1) hI fun vJ hL=>
 bm (aS a hL) hL fun vL hN=>
 bm (aa s.P 221 vL 2) hN fun vK hO=>
 bs (aj s.P wl 26 vK vG hO) fun hW=>
 cnd vJ (
 some ((.lit (.int .i64 3)),hW)) (
 some ((.lit (.int .i64 0)),hW)):=kB
theorem ahA:evF Tryz.prog xM (k+1) wl 199 [a] h=ak (xX (xS k) 199 wl k false) Tryz.f199 [a] h:=by kernel_rfl
-- names: acU,
theorem aa0:ak (xX s 200 wl k false) Tryz.f200 [a] h =
 stO h.length a (
 bm (aS a h) h fun v1 h2=>
 bm (aa s.P 221 v1 2) h2 fun v3 h4=>
 stO h.length v3 (
 bm (ab s.P 26 v3 h4) h4 fun v5 h6=>
 bm (aS a h6) h6 fun v7 h8=>
 bm (aa s.P 221 v7 1) h8 fun v9 hA=>
 bm (ab s.P 23 v9 hA) hA fun vA hB=>
 bm (aS a hB) hB fun vC hC=>
 bm (aa s.P 221 vC 0) hC fun vD hD=>
 bm (aa s.P 55 vD 4) hD fun vB hE=>
 bm (ab s.P 46 vB hE) hE fun vE hH=>
 bp (yC s k wl 200 true true (.fn (.func 205) [] []) [vA,vE] hH) fun vF hF=>
 stO h.length a (
 bm (aS a hF) hF fun vH hG=>
 bm (aa s.P 221 vH 0) hG fun vI hJ=>
 bm (aa s.P 55 vI 3) hJ fun vG hI=>
 stO h.length vG (
 bm (ab s.P 46 vG hI) hI fun vJ hL=>
 bp (yC s k wl 200 false true (.fn (.func 88) [] []) [v5,vF,vJ] hL) fun vL hN=>
 bm (aS a hN) hN fun vK hO=>
 bm (aa s.P 221 vK 2) hO fun vO hV=>
 bs (aj s.P wl 26 vO vL hV) fun hT=>
 some ((.lit (.int .i64 4)),hT))))):=kB
theorem aep:evF Tryz.prog xM (k+1) wl 200 [a] h=ak (xX (xS k) 200 wl k false) Tryz.f200 [a] h:=by kernel_rfl
-- names: aa0,
theorem acb:ak (xX s 201 wl k false) Tryz.f201 [a] h =
 stO h.length a (
 bm (aS a h) h fun v1 h2=>
 bm (aa s.P 221 v1 2) h2 fun v3 h4=>
 stO h.length v3 (
 bm (ab s.P 26 v3 h4) h4 fun v5 h6=>
 bm (aS a h6) h6 fun v7 h8=>
 bm (aa s.P 221 v7 1) h8 fun v9 hA=>
 bm (ab s.P 23 v9 hA) hA fun vA hB=>
 bm (aS a hB) hB fun vC hC=>
 bm (aa s.P 221 vC 0) hC fun vD hD=>
 bm (aa s.P 55 vD 4) hD fun vB hE=>
 bm (ab s.P 46 vB hE) hE fun vE hH=>
 bp (yC s k wl 201 true true (.fn (.func 203) [] []) [vA,vE] hH) fun vF hF=>
 bp (yC s k wl 201 true true (.fn (.func 221) [] []) [a] hF) fun vH hG=>
 bm (au s.P .add 46 vH (.lit (.int .u64 1))) hG fun vI hJ=>
 bp (yC s k wl 201 false true (.fn (.func 88) [] []) [v5,vF,vI] hJ) fun vG hI=>
 bm (aS a hI) hI fun vJ hL=>
 bm (aa s.P 221 vJ 2) hL fun vL hN=>
 bs (aj s.P wl 26 vL vG hN) fun hh=>
 bm (aS a hh) hh fun vf hW=>
 bm (aa s.P 221 vf 0) hW fun vM hT=>
 bm (ab s.P 55 vM hT) hT fun vT hb=>
 bm (aS a hb) hb fun vQ hd=>
 bm (aa s.P 221 vQ 0) hd fun vm hf=>
 bm (aa s.P 55 vm 3) hf fun vi hX=>
 bm (ab s.P 46 vi hX) hX fun va he=>
 bp (yC s k wl 201 false true (.fn (.func 193) [] []) [vT,(.lit (.int .i64 1)),va] he) fun vb hg=>
 bm (aS a hg) hg fun vU hZ=>
 bm (aa s.P 221 vU 0) hZ fun vX hi=>
 bs (aj s.P wl 55 vX vb hi) fun hk=>
 some ((.lit (.int .i64 0)),hk))):=kB
theorem ad9:evF Tryz.prog xM (k+1) wl 201 [a] h=ak (xX (xS k) 201 wl k false) Tryz.f201 [a] h:=by kernel_rfl
-- names: acb,
theorem adz:ak (xX s 202 wl k false) Tryz.f202 [a,b] h =
 bm (ab s.P 223 a h) h fun v1 h2=>
 bm (aa s.P 55 b 1) h2 fun v3 h4=>
 bm (ab s.P 3 v3 h4) h4 fun v5 h6=>
 bm (am s.P 223 v1 v5 h6) h6 fun v7 h8=>
 bm (ab s.P 116 v7 h8) h8 fun v9 hA=>
 bp (yC s k wl 202 false true v9 [] hA) fun vA hB=>
 some (vA,hB):=kB
theorem ae8:evF Tryz.prog xM (k+1) wl 202 [a,b] h=ak (xX (xS k) 202 wl k false) Tryz.f202 [a,b] h:=by kernel_rfl
-- names: adz,
theorem abI:ak (xX s 204 wl k false) Tryz.f204 [a,b] h =
 bp (aP a h) fun v1 h2=>
 bm (aa s.P 23 v1 2) h2 fun v3 h4=>
 bm (ab s.P 3 v3 h4) h4 fun v5 h6=>
 bm (gL s.P 3 46 v5) h6 fun v7 h8=>
 bm (au s.P .quo 46 b v7) h8 fun v9 hA=>
 bm (au s.P .mul 46 v9 (.lit (.int .u64 2))) hA fun vA hB=>
 bm (au s.P .add 46 vA (.lit (.int .u64 1))) hB fun vC hC=>
 some (vC,hC):=kB
theorem agH:evF Tryz.prog xM (k+1) wl 204 [a,b] h=ak (xX (xS k) 204 wl k false) Tryz.f204 [a,b] h:=by kernel_rfl
-- names: abI,
theorem aac:ak (xX s 221 wl k false) Tryz.f221 [a] h =
 bm (aS a h) h fun v1 h2=>
 bm (aa s.P 221 v1 0) h2 fun v3 h4=>
 bm (aa s.P 55 v3 4) h4 fun v5 h6=>
 bm (ab s.P 46 v5 h6) h6 fun v7 h8=>
 bm (aS a h8) h8 fun v9 hA=>
 bm (aa s.P 221 v9 1) hA fun vA hB=>
 bm (aa s.P 23 vA 2) hB fun vC hC=>
 bm (ab s.P 3 vC hC) hC fun vD hD=>
 bm (gL s.P 3 46 vD) hD fun vB hE=>
 bm (au s.P .quo 46 v7 vB) hE fun vE hH=>
 bm (au s.P .mul 46 vE (.lit (.int .u64 2))) hH fun vF hF=>
 some (vF,hF):=kB
theorem ago:evF Tryz.prog xM (k+1) wl 221 [a] h=ak (xX (xS k) 221 wl k false) Tryz.f221 [a] h:=by kernel_rfl
-- names: aac,
noncomputable def B8:Code:=al (an Tryz.f105) [1,0]
noncomputable def rU:List Fr:=[.seq (al (an Tryz.f105) [1,1])]
theorem abJ:ak (xX s 105 wl k false) Tryz.f105 [a,b] h =
 bp (aP a h) fun v1 h2=>
 bm (ab s.P 23 v1 h2) h2 fun v3 h4=>
 bp (yC s k wl 105 false true (.fn (.func 50) [] []) [v3] h4) fun v5 h6=>
 gd v5 (
 bp (br s.P 26 b h6) fun v7 h8=>
 bm (ab s.P 23 v1 h8) h8 fun v9 hA=>
 bp (yC s k wl 105 false true (.fn (.func 103) [] []) [v9] hA) fun vA hB=>
 bm (au s.P .eql 3 v7 vA) hB fun vC hC=>
 yO s k wl 105 Tryz.f105 B8 8 h2.length ([],[]) rU ⟨[a,b,v1,uu,(.lit (.bool false)),v3,v5,(.lit (.bool true)),b,v7,v9,vA,vC,uu],hC⟩) (
 yO s k wl 105 Tryz.f105 B8 8 h2.length ([],[]) rU ⟨[a,b,v1,uu,(.lit (.bool false)),v3,v5,(.lit (.bool false)),uu,uu,uu,uu,uu,uu],h6⟩) (
 yO s k wl 105 Tryz.f105 B8 4 h2.length ([],[]) rU ⟨[a,b,v1,uu,(.lit (.bool false)),v3,v5,v5,uu,uu,uu,uu,uu,uu],h6⟩):=kB
theorem afT:evF Tryz.prog xM (k+1) wl 105 [a,b] h=ak (xX (xS k) 105 wl k false) Tryz.f105 [a,b] h:=by kernel_rfl
theorem Ke:yO s k wl 105 Tryz.f105 B8 8 m0 ac rU ⟨[a,b,d,e,n,o,g,i,j,p,q,r,l,u],h⟩ =
 bm (aT i l (.lit (.bool false))) h fun vD hD=>
 some (vD,hD):=kG
theorem ul (cx:Cx) (s:St):av cx K rU .ret s=K .ret s:=by kernel_rfl
-- names: abJ,Ke,ul
end
end Go.Ab
set_option maxRecDepth 100000
set_option linter.unusedVariables false
namespace Go.Ab
open Go.Proofs
section
variable (s:Sys) (k wl:Nat) (m0:Nat) (ac:List Nat×List Nat) (b a d l q g r i j u v z A o B D E F p G I J L M N O Q R T U Y Z t0 t1 t2 t3 t4 t5 t6 t7 t8 W t9 ta X th tb tc td te tf tg ti tj tk tl tm tn tp tq tr ts tt tu tv tw tx ty tz tA tB tC tD tE tF tG tH tI tJ tK tL tM tN tO tP tQ tR tS tT tU tV tW tX tY tZ q0 q1 q2 q3 q4 q5 q6 q7 q8 q9 qa qb qc qd qe qf qg qh qi qj qk ql qm qn qo qp qq qr qs qt qu:V) (h:Hp) (K:Out→St→Option (V×Hp)) (rd:Bool) (n n0:Nat) (zz:List V)
noncomputable def Ch:List Fr:=[.seq (al (an Tryz.f134) [1,0,1,0,1,1,1]),.block 0,.seq (al (an Tryz.f134) [1,1])]
theorem acY:ak (xX s 134 wl k false) Tryz.f134 [b,a,d] h =
 bp (aP b h) fun v1 h2=>
 bp (aP d h2) fun v3 h4=>
 bp (some (.own h4.length 0 0,h4++[.rows 0 [] 0 true])) fun v5 h6=>
 bp (aw s.P 55 h6) fun v7 h8=>
 bm (aa s.P 55 v3 0) h8 fun v9 hA=>
 bm (ab s.P 3 v9 hA) hA fun vA hB=>
 bm (au s.P .eql 3 vA (.lit (.int .i64 5))) hB fun vC hC=>
 cnd vC (
 bm (ab s.P 23 v1 hC) hC fun vD hD=>
 bm (ab s.P 55 v3 hD) hD fun vB hE=>
 bp (yC s k wl 134 false true (.fn (.func 165) [] []) [vD,a,vB] hE) fun vE hH=>
 bm (ar vE 0) hH fun vF hF=>
 bm (ar vE 1) hF fun vH hG=>
 bs (aj s.P wl 55 v7 vH hG) fun hc=>
 eo [some vF,ab s.P 55 v7 hc] hc) (
 bm (au s.P .eql 3 vA (.lit (.int .i64 6))) hC fun vN hn=>
 cnd vN (
 av (xX s 134 wl k false) (aB s.P Tryz.f134) Ch .norm ⟨[b,a,d,v1,uu,v3,v5,v7,v9,vA,vC,vC,uu,uu,uu,uu,uu,uu,vN,vN,uu,uu,uu,uu,uu,uu,uu,uu,uu,uu],hn⟩) (
 bm (au s.P .eql 3 vA (.lit (.int .i64 7))) hn fun vh hs=>
 av (xX s 134 wl k false) (aB s.P Tryz.f134) Ch .norm ⟨[b,a,d,v1,uu,v3,v5,v7,v9,vA,vC,vC,uu,uu,uu,uu,uu,uu,vh,vN,vh,uu,uu,uu,uu,uu,uu,uu,uu,uu],hs⟩)):=kB
theorem ah2:evF Tryz.prog xM (k+1) wl 134 [b,a,d] h=ak (xX (xS k) 134 wl k false) Tryz.f134 [b,a,d] h:=by kernel_rfl
theorem KJ:av (xX s 134 wl k false) (aB s.P Tryz.f134) Ch .norm ⟨[b,a,d,l,q,g,r,i,j,u,v,z,A,o,B,D,E,F,p,G,I,J,L,M,N,O,Q,R,T,U],h⟩ =
 cnd p (
 bm (ab s.P 23 l h) h fun vp hY=>
 bm (ab s.P 55 g hY) hY fun ve hh=>
 bp (yC s k wl 134 false true (.fn (.func 166) [] []) [vp,a,ve] hh) fun vf hW=>
 bm (ar vf 0) hW fun vM hT=>
 bm (ar vf 1) hT fun vT hb=>
 bs (aj s.P wl 55 i vT hb) fun hU=>
 eo [some vM,ab s.P 55 i hU] hU) (
 bp (yC s k wl 134 true true (.fn (.func 76) [] []) [a] h) fun vP hP=>
 stO h.length g (
 bm (ab s.P 55 g hP) hP fun vZ ha=>
 bs (aj s.P wl 55 i vZ ha) fun hX=>
 eo [some vP,ab s.P 55 i hX] hX)):=kR
theorem ua (cx:Cx) (s:St):av cx K Ch .ret s=K .ret s:=by kernel_rfl
-- names: acY,KJ,ua
theorem Zd:ak (xX s 135 wl k false) Tryz.f135 [b,a,d] h =
 bp (aP b h) fun v1 h2=>
 bp (aP d h2) fun v3 h4=>
 bp (some (.own h4.length 0 0,h4++[.rows 0 [] 0 true])) fun v5 h6=>
 bp (aw s.P 55 h6) fun v7 h8=>
 bm (aa s.P 55 v3 0) h8 fun v9 hA=>
 bm (ab s.P 3 v9 hA) hA fun vA hB=>
 bm (au s.P .eql 3 vA (.lit (.int .i64 3))) hB fun vC hC=>
 cnd vC (
 bm (ab s.P 23 v1 hC) hC fun vD hD=>
 bm (ab s.P 55 v3 hD) hD fun vB hE=>
 bp (yC s k wl 135 false true (.fn (.func 167) [] []) [vD,a,vB] hE) fun vE hH=>
 bm (ar vE 0) hH fun vF hF=>
 bm (ar vE 1) hF fun vH hG=>
 bs (aj s.P wl 55 v7 vH hG) fun hc=>
 eo [some vF,ab s.P 55 v7 hc] hc) (
 bm (au s.P .eql 3 vA (.lit (.int .i64 4))) hC fun vN hn=>
 cnd vN (
 bm (ab s.P 23 v1 hn) hn fun vh hs=>
 bm (ab s.P 55 v3 hs) hs fun vp hY=>
 bp (yC s k wl 135 false true (.fn (.func 168) [] []) [vh,a,vp] hY) fun ve hh=>
 bm (ar ve 0) hh fun vf hW=>
 bm (ar ve 1) hW fun vM hT=>
 bs (aj s.P wl 55 v7 vM hT) fun hS=>
 eo [some vf,ab s.P 55 v7 hS] hS) (
 bp (yC s k wl 135 true true (.fn (.func 76) [] []) [a] hn) fun vY hU=>
 stO hn.length v3 (
 bm (ab s.P 55 v3 hU) hU fun vP hP=>
 bs (aj s.P wl 55 v7 vP hP) fun hf=>
 eo [some vY,ab s.P 55 v7 hf] hf))):=kB
theorem af9:evF Tryz.prog xM (k+1) wl 135 [b,a,d] h=ak (xX (xS k) 135 wl k false) Tryz.f135 [b,a,d] h:=by kernel_rfl
-- names: Zd,
noncomputable def ui:List Fr:=[.block 0,.seq (al (an Tryz.f166) [1,1,1,1])]
noncomputable def B2:List Fr:=[.seq (al (an Tryz.f166) [1,1,1,0,0,1,1,1,1,1,0,1,1]),.block 0,.seq (al (an Tryz.f166) [1,1,1,1])]
noncomputable def BS:Code:=al (an Tryz.f166) [1,1,1,0,0,1,1,1,1,1,1,1,0,1,0]
noncomputable def rS:List Fr:=[.seq (al (an Tryz.f166) [1,1,1,0,0,1,1,1,1,1,1,1,0,1,1]),.seq (al (an Tryz.f166) [1,1,1,0,0,1,1,1,1,1,1,1,1]),.block 0,.seq (al (an Tryz.f166) [1,1,1,1])]
theorem aa6:ak (xX s 166 wl k false) Tryz.f166 [b,a,d] h =
 bp (aP b h) fun v1 h2=>
 bp (aP d h2) fun v3 h4=>
 bp (some (.own h4.length 0 0,h4++[.rows 0 [] 0 true])) fun v5 h6=>
 bp (aw s.P 55 h6) fun v7 h8=>
 bp (yC s k wl 166 false true (.fn (.func 76) [] []) [a] h8) fun v9 hA=>
 bm (ab s.P 23 v1 hA) hA fun vA hB=>
 bm (ab s.P 55 v3 hB) hB fun vC hC=>
 bp (yC s k wl 166 false true (.fn (.func 189) [] []) [vA,a,vC] hC) fun vD hD=>
 bm (vUn .not vD) hD fun vB hE=>
 cnd vB (
 bm (ab s.P 55 v3 hE) hE fun vE hH=>
 bs (aj s.P wl 55 v7 vE hH) fun hQ=>
 eo [some v9,ab s.P 55 v7 hQ] hQ) (
 bm (aa s.P 55 v3 1) hE fun vV hm=>
 bm (ab s.P 3 vV hm) hm fun vS hc=>
 bm (au s.P .eql 3 vS (.lit (.int .i64 0))) hc fun vN hn=>
 cnd vN (
 bp (yC s k wl 166 false true (.fn (.func 27) [] []) [v9,(.lit (.int .i64 2))] hn) fun vh hs=>
 bm (aa s.P 55 v3 4) hs fun vp hY=>
 bs (aj s.P wl 46 vp vh hY) fun hN=>
 bm (aa s.P 55 v3 1) hN fun vK hO=>
 bs (aj s.P wl 3 vK (.lit (.int .i64 1)) hO) fun hW=>
 av (xX s 166 wl k false) (aB s.P Tryz.f166) ui .norm ⟨(b::a::d::v1::uu::v3::v5::v7::v9::uu::uu::uu::uu::uu::a::v9::vA::a::vC::vD::vB::uu::uu::uu::uu::uu::uu::uu::uu::uu::uu::uu::uu::uu::uu::uu::uu::uu::uu::uu::uu::uu::uu::uu::uu::uu::uu::uu::uu::uu::uu::uu::uu::uu::uu::uu::uu::uu::uu::vN::vV::vS::vN::v9::vh::vp::vK::uu::uu::uu::uu::uu::uu::uu::uu::uu::uu::uu::uu::uu::uu::uu::uu::uu::uu::uu::uu::uu::uu::uu::uu::uu::uu::uu::uu::uu::uu::uu::uu::uu::uu::uu::uu::uu::uu::uu::uu::uu::uu::uu::uu::uu::uu::uu::uu::uu::uu::uu::uu::uu::uu::uu::uu::uu::uu::uu::[]),hW⟩) (
 bm (aa s.P 55 v3 1) hn fun vM hT=>
 bm (ab s.P 3 vM hT) hT fun vT hb=>
 bm (au s.P .eql 3 vT (.lit (.int .i64 1))) hb fun vQ hd=>
 cnd vQ (
 bp (yC s k wl 166 true true (.fn (.func 190) [] []) [] hd) fun vm hf=>
 bm (aa s.P 55 v3 0) hf fun vi hX=>
 stO hd.length vi (
 bm (ab s.P 3 vi hX) hX fun va he=>
 bm (fS s.P 212 vm va false he) he fun vb hg=>
 bm (aa s.P 55 v3 4) hg fun vU hZ=>
 stO hd.length vU (
 bm (ab s.P 46 vU hZ) hZ fun vX hi=>
 bp (yC s k wl 166 false true vb [vX] hi) fun vR hp=>
 bm (ar vR 0) hp fun vq ht=>
 bm (ar vR 1) ht fun vt hz=>
 bm (aa s.P 55 v3 4) hz fun v60 h61=>
 bm (ab s.P 46 v60 h61) h61 fun vx h63=>
 bp (yC s k wl 166 false true (.fn (.func 191) [] []) [v9,(.lit (.int .i64 2)),vx,vq] h63) fun vw h65=>
 bm (ar vw 0) h65 fun vk h67=>
 bm (ar vw 1) h67 fun v68 h69=>
 bm (aa s.P 55 v3 1) h69 fun v70 h71=>
 bs (aj s.P wl 3 v70 (.lit (.int .i64 0)) h71) fun h72=>
 bm (vUn .not v68) h72 fun vu hv=>
 cnd vu (
 bm (ab s.P 55 v3 hv) hv fun v75 h76=>
 bs (aj s.P wl 55 v7 v75 h76) fun hR=>
 eo [some vk,ab s.P 55 v7 hR] hR) (
 bm (aa s.P 55 v3 4) hv fun v78 h79=>
 bm (ab s.P 46 v78 h79) h79 fun v80 h81=>
 bp (yC s k wl 166 false true (.fn (.func 192) [] []) [v80] h81) fun v82 h83=>
 bm (au s.P .eql 46 v82 (.lit (.int .u64 0))) h83 fun v84 h85=>
 cnd v84 (
 bm (ab s.P 55 v3 h85) h85 fun v86 h87=>
 bp (yC s k wl 166 false true (.fn (.func 193) [] []) [v86,(.lit (.int .i64 3)),(.lit (.int .u64 0))] h87) fun v88 h89=>
 bs (aj s.P wl 55 v7 v88 h89) fun h90=>
 eo [some vk,ab s.P 55 v7 h90] h90) (
 bm (aa s.P 55 v3 5) h85 fun v91 h92=>
 bs (aj s.P wl 46 v91 vt h92) fun h93=>
 bm (aa s.P 55 v3 1) h93 fun v94 h95=>
 bs (aj s.P wl 3 v94 (.lit (.int .i64 2)) h95) fun h96=>
 av (xX s 166 wl k false) (aB s.P Tryz.f166) ui .norm ⟨(b::a::d::v1::uu::v3::v5::v7::vk::vq::vt::vk::v68::uu::a::v9::vA::a::vC::vD::vB::uu::uu::uu::uu::uu::uu::uu::uu::uu::uu::uu::uu::uu::uu::uu::uu::uu::uu::uu::uu::uu::uu::uu::uu::uu::uu::uu::uu::uu::uu::uu::uu::uu::uu::uu::uu::uu::uu::vN::vV::vS::vN::uu::uu::uu::uu::vQ::vM::vT::vQ::vR::vm::vi::va::vb::vU::vX::vR::vq::vt::vw::v9::v60::vx::vq::vw::vk::v68::vk::v70::v68::vu::uu::uu::v78::v80::v82::v84::uu::uu::uu::vt::v91::v94::uu::uu::uu::uu::uu::uu::uu::uu::uu::uu::uu::uu::uu::uu::uu::uu::uu::uu::uu::uu::uu::[]),h96⟩))))) (
 bm (aa s.P 55 v3 0) hd fun v97 h98=>
 bm (ab s.P 3 v97 h98) h98 fun v99 h100=>
 bm (au s.P .eql 3 v99 (.lit (.int .i64 6))) h100 fun vj h102=>
 cnd vj (
 bm (aa s.P 55 v3 5) h102 fun v103 h104=>
 bm (ab s.P 46 v103 h104) h104 fun v105 h106=>
 bm (au s.P .lss 46 v105 (.lit (.int .u64 8))) h106 fun v107 h108=>
 cnd v107 (
 bm (aa s.P 55 v3 5) h108 fun v109 h110=>
 bm (ab s.P 46 v109 h110) h110 fun v111 h112=>
 bm (gL s.P 46 3 v111) h112 fun v113 h114=>
 av (xX s 166 wl k false) (aB s.P Tryz.f166) B2 .norm ⟨(b::a::d::v1::uu::v3::v5::v7::v9::uu::uu::uu::uu::v113::a::v9::vA::a::vC::vD::vB::uu::uu::uu::uu::uu::uu::uu::uu::uu::uu::uu::uu::uu::uu::uu::uu::uu::uu::uu::uu::uu::uu::uu::uu::uu::uu::uu::uu::uu::uu::uu::uu::uu::uu::uu::uu::uu::uu::vN::vV::vS::vN::uu::uu::uu::uu::vQ::vM::vT::vQ::uu::uu::uu::uu::uu::uu::uu::uu::uu::uu::uu::uu::uu::uu::uu::uu::uu::uu::uu::uu::uu::uu::uu::uu::uu::uu::uu::uu::uu::uu::uu::uu::uu::uu::vj::v97::v99::vj::v103::v105::v107::v109::v111::v113::uu::uu::uu::uu::uu::uu::uu::uu::uu::uu::uu::[]),h114⟩) (
 av (xX s 166 wl k false) (aB s.P Tryz.f166) B2 .norm ⟨(b::a::d::v1::uu::v3::v5::v7::v9::uu::uu::uu::uu::(.lit (.int .i64 (-1)))::a::v9::vA::a::vC::vD::vB::uu::uu::uu::uu::uu::uu::uu::uu::uu::uu::uu::uu::uu::uu::uu::uu::uu::uu::uu::uu::uu::uu::uu::uu::uu::uu::uu::uu::uu::uu::uu::uu::uu::uu::uu::uu::uu::uu::vN::vV::vS::vN::uu::uu::uu::uu::vQ::vM::vT::vQ::uu::uu::uu::uu::uu::uu::uu::uu::uu::uu::uu::uu::uu::uu::uu::uu::uu::uu::uu::uu::uu::uu::uu::uu::uu::uu::uu::uu::uu::uu::uu::uu::uu::uu::vj::v97::v99::vj::v103::v105::v107::uu::uu::uu::uu::uu::uu::uu::uu::uu::uu::uu::uu::uu::uu::[]),h108⟩)) (
 stO h102.length v1 (
 bm (ab s.P 23 v1 h102) h102 fun v115 h116=>
 bm (aa s.P 55 v3 5) h116 fun v117 h118=>
 bm (ab s.P 46 v117 h118) h118 fun v119 h120=>
 bp (yC s k wl 166 true true (.fn (.func 195) [] []) [v119] h120) fun v121 h122=>
 bp (di s.P wl 53 1 [(0,v121)] h122) fun v123 h124=>
 bp (yC s k wl 166 false true (.fn (.func 194) [] []) [v115,v9,v123] h124) fun v125 h126=>
 bm (aa s.P 55 v3 5) h126 fun v127 h128=>
 bm (ab s.P 46 v127 h128) h128 fun v129 h130=>
 bp (yC s k wl 166 false true (.fn (.func 192) [] []) [v129] h130) fun v131 h132=>
 bm (aa s.P 55 v3 5) h132 fun v133 h134=>
 bs (aj s.P wl 46 v133 v131 h134) fun h135=>
 bm (aa s.P 55 v3 5) h135 fun v136 h137=>
 bm (ab s.P 46 v136 h137) h137 fun v138 h139=>
 bm (aa s.P 55 v3 5) h139 fun v140 h141=>
 bm (ab s.P 46 v140 h141) h141 fun v142 h143=>
 bm (au s.P .sub 46 v142 (.lit (.int .u64 1))) h143 fun v144 h145=>
 bm (au s.P .and 46 v138 v144) h145 fun v146 h147=>
 bm (au s.P .eql 46 v146 (.lit (.int .u64 0))) h147 fun v148 h149=>
 gd v148 (
 yO s k wl 166 Tryz.f166 BS 11 h135.length ([],[]) rS ⟨(b::a::d::v1::uu::v3::v5::v7::v125::uu::uu::uu::uu::uu::a::v9::vA::a::vC::vD::vB::uu::uu::v115::v9::v117::v119::v121::v123::v125::v127::v129::v131::v133::v136::v138::v140::v142::v144::v146::v148::(.lit (.bool true))::uu::uu::uu::uu::uu::uu::uu::uu::uu::uu::uu::uu::uu::uu::uu::uu::uu::vN::vV::vS::vN::uu::uu::uu::uu::vQ::vM::vT::vQ::uu::uu::uu::uu::uu::uu::uu::uu::uu::uu::uu::uu::uu::uu::uu::uu::uu::uu::uu::uu::uu::uu::uu::uu::uu::uu::uu::uu::uu::uu::uu::uu::uu::uu::vj::v97::v99::vj::uu::uu::uu::uu::uu::uu::uu::uu::uu::uu::uu::uu::uu::uu::uu::uu::uu::[]),h149⟩) (
 bm (aa s.P 55 v3 5) h149 fun v150 h151=>
 bm (ab s.P 46 v150 h151) h151 fun v152 h153=>
 bm (au s.P .eql 46 v152 (.lit (.int .u64 0))) h153 fun v154 h155=>
 yO s k wl 166 Tryz.f166 BS 11 h135.length ([],[]) rS ⟨(b::a::d::v1::uu::v3::v5::v7::v125::uu::uu::uu::uu::uu::a::v9::vA::a::vC::vD::vB::uu::uu::v115::v9::v117::v119::v121::v123::v125::v127::v129::v131::v133::v136::v138::v140::v142::v144::v146::v148::(.lit (.bool false))::v150::v152::v154::uu::uu::uu::uu::uu::uu::uu::uu::uu::uu::uu::uu::uu::uu::vN::vV::vS::vN::uu::uu::uu::uu::vQ::vM::vT::vQ::uu::uu::uu::uu::uu::uu::uu::uu::uu::uu::uu::uu::uu::uu::uu::uu::uu::uu::uu::uu::uu::uu::uu::uu::uu::uu::uu::uu::uu::uu::uu::uu::uu::uu::vj::v97::v99::vj::uu::uu::uu::uu::uu::uu::uu::uu::uu::uu::uu::uu::uu::uu::uu::uu::uu::[]),h155⟩) (
 yO s k wl 166 Tryz.f166 BS 9 h135.length ([],[]) rS ⟨(b::a::d::v1::uu::v3::v5::v7::v125::uu::uu::uu::uu::uu::a::v9::vA::a::vC::vD::vB::uu::uu::v115::v9::v117::v119::v121::v123::v125::v127::v129::v131::v133::v136::v138::v140::v142::v144::v146::v148::v148::uu::uu::uu::uu::uu::uu::uu::uu::uu::uu::uu::uu::uu::uu::uu::uu::uu::vN::vV::vS::vN::uu::uu::uu::uu::vQ::vM::vT::vQ::uu::uu::uu::uu::uu::uu::uu::uu::uu::uu::uu::uu::uu::uu::uu::uu::uu::uu::uu::uu::uu::uu::uu::uu::uu::uu::uu::uu::uu::uu::uu::uu::uu::uu::vj::v97::v99::vj::uu::uu::uu::uu::uu::uu::uu::uu::uu::uu::uu::uu::uu::uu::uu::uu::uu::[]),h149⟩)))))):=kB
theorem agX:evF Tryz.prog xM (k+1) wl 166 [b,a,d] h=ak (xX (xS k) 166 wl k false) Tryz.f166 [b,a,d] h:=by kernel_rfl
theorem L4:av (xX s 166 wl k false) (aB s.P Tryz.f166) ui .norm ⟨(b::a::d::l::q::g::r::i::j::u::v::z::A::o::B::D::E::F::p::G::I::J::L::M::N::O::Q::R::T::U::Y::Z::t0::t1::t2::t3::t4::t5::t6::t7::t8::W::t9::ta::X::th::tb::tc::td::te::tf::tg::ti::tj::tk::tl::tm::tn::tp::tq::tr::ts::tt::tu::tv::tw::tx::ty::tz::tA::tB::tC::tD::tE::tF::tG::tH::tI::tJ::tK::tL::tM::tN::tO::tP::tQ::tR::tS::tT::tU::tV::tW::tX::tY::tZ::q0::q1::q2::q3::q4::q5::q6::q7::q8::q9::qa::qb::qc::qd::qe::qf::qg::qh::qi::qj::qk::ql::qm::qn::qo::qp::qq::qr::qs::qt::qu::[]),h⟩ =
 bm (ab s.P 55 g h) h fun v156 h157=>
 bs (aj s.P wl 55 i v156 h157) fun h158=>
 eo [some j,ab s.P 55 i h158] h158:=kR
theorem Nl:av (xX s 166 wl k false) (aB s.P Tryz.f166) B2 .norm ⟨(b::a::d::l::q::g::r::i::j::u::v::z::A::o::B::D::E::F::p::G::I::J::L::M::N::O::Q::R::T::U::Y::Z::t0::t1::t2::t3::t4::t5::t6::t7::t8::W::t9::ta::X::th::tb::tc::td::te::tf::tg::ti::tj::tk::tl::tm::tn::tp::tq::tr::ts::tt::tu::tv::tw::tx::ty::tz::tA::tB::tC::tD::tE::tF::tG::tH::tI::tJ::tK::tL::tM::tN::tO::tP::tQ::tR::tS::tT::tU::tV::tW::tX::tY::tZ::q0::q1::q2::q3::q4::q5::q6::q7::q8::q9::qa::qb::qc::qd::qe::qf::qg::qh::qi::qj::qk::ql::qm::qn::qo::qp::qq::qr::qs::qt::qu::[]),h⟩ =
 stO h.length l (
 bm (ab s.P 23 l h) h fun v159 h160=>
 bp (di s.P wl 53 1 [(0,o)] h160) fun v161 h162=>
 bp (yC s k wl 166 true true (.fn (.func 194) [] []) [v159,j,v161] h162) fun v163 h164=>
 stO h.length g (
 bm (ab s.P 55 g h164) h164 fun v165 h166=>
 bm (aa s.P 55 g 5) h166 fun v167 h168=>
 stO h.length v167 (
 bm (ab s.P 46 v167 h168) h168 fun v169 h170=>
 bp (yC s k wl 166 false true (.fn (.func 193) [] []) [v165,(.lit (.int .i64 1)),v169] h170) fun v171 h172=>
 bs (aj s.P wl 55 i v171 h172) fun h173=>
 eo [some v163,ab s.P 55 i h173] h173))):=kR
theorem K7:yO s k wl 166 Tryz.f166 BS 11 m0 ac rS ⟨(b::a::d::l::q::g::r::i::j::u::v::z::A::o::B::D::E::F::p::G::I::J::L::M::N::O::Q::R::T::U::Y::Z::t0::t1::t2::t3::t4::t5::t6::t7::t8::W::t9::ta::X::th::tb::tc::td::te::tf::tg::ti::tj::tk::tl::tm::tn::tp::zz),h⟩ =
 bm (aT W (.lit (.bool true)) X) h fun v174 h175=>
 cnd v174 (
 stO h175.length g (
 bm (ab s.P 55 g h175) h175 fun v176 h177=>
 bm (aa s.P 55 g 4) h177 fun v178 h179=>
 bm (ab s.P 46 v178 h179) h179 fun v180 h181=>
 bp (yC s k wl 166 true true (.fn (.func 192) [] []) [v180] h181) fun v182 h183=>
 bp (yC s k wl 166 false true (.fn (.func 193) [] []) [v176,(.lit (.int .i64 1)),v182] h183) fun v184 h185=>
 bs (aj s.P wl 55 i v184 h185) fun h186=>
 eo [some j,ab s.P 55 i h186] h186)) (
 bm (aa s.P 55 g 5) h175 fun v187 h188=>
 bm (ab s.P 46 v187 h188) h188 fun v189 h190=>
 bm (aa s.P 55 g 5) h190 fun v191 h192=>
 bm (ab s.P 46 v191 h192) h192 fun v193 h194=>
 bm (au s.P .sub 46 v193 (.lit (.int .u64 1))) h194 fun v195 h196=>
 bm (au s.P .and 46 v189 v195) h196 fun v197 h198=>
 bm (aa s.P 55 g 5) h198 fun v199 h200=>
 bs (aj s.P wl 46 v199 v197 h200) fun h201=>
 av (xX s 166 wl k false) (aB s.P Tryz.f166) ui .norm ⟨(b::a::d::l::q::g::r::i::j::u::v::z::A::o::B::D::E::F::p::G::I::J::L::M::N::O::Q::R::T::U::Y::Z::t0::t1::t2::t3::t4::t5::t6::t7::t8::W::t9::ta::X::v174::tb::tc::td::te::tf::tg::v187::v189::v191::v193::v195::v197::v199::zz),h201⟩):=kJ [2]
theorem rV (cx:Cx) (s:St):av cx K ui .ret s=K .ret s:=by kernel_rfl
theorem wb (cx:Cx) (s:St):av cx K B2 .ret s=K .ret s:=by kernel_rfl
theorem wz (cx:Cx) (s:St):av cx K rS .ret s=K .ret s:=by kernel_rfl
-- names: aa6,L4,Nl,K7,rV,wb,wz
theorem Zi:ak (xX s 167 wl k false) Tryz.f167 [b,a,d] h =
 bp (aP b h) fun v1 h2=>
 bp (aP d h2) fun v3 h4=>
 bp (some (.own h4.length 0 0,h4++[.rows 0 [] 0 true])) fun v5 h6=>
 bp (aw s.P 55 h6) fun v7 h8=>
 stO h8.length v3 (
 bm (ab s.P 55 v3 h8) h8 fun v9 hA=>
 stO h8.length v1 (
 bm (ab s.P 23 v1 hA) hA fun vA hB=>
 bp (yC s k wl 167 true true (.fn (.func 76) [] []) [a] hB) fun vC hC=>
 bm (bf s.P 221 [(0,v9),(1,vA),(2,vC)]) hC fun vD hD=>
 bp (aP vD hD) fun vB hE=>
 bm (ab s.P 23 v1 hE) hE fun vE hH=>
 bm (ab s.P 55 v3 hH) hH fun vF hF=>
 bp (yC s k wl 167 false true (.fn (.func 196) [] []) [vE,a,vF,(.lit (.int .i64 3))] hF) fun vH hG=>
 bm (vUn .not vH) hG fun vI hJ=>
 cnd vI (
 bm (aS vB hJ) hJ fun vG hI=>
 bm (aa s.P 221 vG 2) hI fun vJ hL=>
 bm (ab s.P 26 vJ hL) hL fun vL hN=>
 bm (ab s.P 55 v3 hN) hN fun vK hO=>
 bs (aj s.P wl 55 v7 vK hO) fun hW=>
 eo [some vL,ab s.P 55 v7 hW] hW) (
 bp (aD s.P wl 223 5 [(0,(.fn (.func 197) [vB] [])),(1,(.fn (.func 198) [vB] [])),(2,(.fn (.func 199) [vB] [])),(3,(.fn (.func 200) [vB] [])),(4,(.fn (.func 201) [vB] []))] hJ) fun vM hT=>
 bp (aw s.P 223 hT) fun vT hb=>
 bs (aj s.P wl 223 vT vM hb) fun hU=>
 bp (yC s k wl 167 false true (.fn (.func 202) [] [vT,v3]) [] hU) fun vP hP=>
 bm (aS vB hP) hP fun vZ ha=>
 bm (aa s.P 221 vZ 0) ha fun vc hK=>
 bm (aa s.P 55 vc 1) hK fun vl hj=>
 bs (aj s.P wl 3 vl vP hj) fun hg=>
 bm (aS vB hg) hg fun vU hZ=>
 bm (aa s.P 221 vU 2) hZ fun vX hi=>
 bm (ab s.P 26 vX hi) hi fun vR hp=>
 bm (aS vB hp) hp fun vq ht=>
 bm (aa s.P 221 vq 0) ht fun vt hz=>
 bm (ab s.P 55 vt hz) hz fun v60 h61=>
 bs (aj s.P wl 55 v7 v60 h61) fun hw=>
 eo [some vR,ab s.P 55 v7 hw] hw))):=kB
theorem agr:evF Tryz.prog xM (k+1) wl 167 [b,a,d] h=ak (xX (xS k) 167 wl k false) Tryz.f167 [b,a,d] h:=by kernel_rfl
-- names: Zi,
noncomputable def ky:List Fr:=[.block 0,.seq (al (an Tryz.f168) [1,1,1,1])]
theorem Zy:ak (xX s 168 wl k false) Tryz.f168 [b,a,d] h =
 bp (aP b h) fun v1 h2=>
 bp (aP d h2) fun v3 h4=>
 bp (some (.own h4.length 0 0,h4++[.rows 0 [] 0 true])) fun v5 h6=>
 bp (aw s.P 55 h6) fun v7 h8=>
 bp (yC s k wl 168 false true (.fn (.func 76) [] []) [a] h8) fun v9 hA=>
 bm (ab s.P 23 v1 hA) hA fun vA hB=>
 bm (ab s.P 55 v3 hB) hB fun vC hC=>
 bp (yC s k wl 168 false true (.fn (.func 196) [] []) [vA,a,vC,(.lit (.int .i64 4))] hC) fun vD hD=>
 bm (vUn .not vD) hD fun vB hE=>
 cnd vB (
 bm (ab s.P 55 v3 hE) hE fun vE hH=>
 bs (aj s.P wl 55 v7 vE hH) fun hQ=>
 eo [some v9,ab s.P 55 v7 hQ] hQ) (
 bm (aa s.P 55 v3 1) hE fun vV hm=>
 bm (ab s.P 3 vV hm) hm fun vS hc=>
 bm (au s.P .eql 3 vS (.lit (.int .i64 0))) hc fun vN hn=>
 cnd vN (
 bp (yC s k wl 168 false true (.fn (.func 27) [] []) [v9,(.lit (.int .i64 4))] hn) fun vh hs=>
 bm (aa s.P 55 v3 4) hs fun vp hY=>
 bs (aj s.P wl 46 vp vh hY) fun hN=>
 bm (aa s.P 55 v3 1) hN fun vK hO=>
 bs (aj s.P wl 3 vK (.lit (.int .i64 1)) hO) fun hW=>
 av (xX s 168 wl k false) (aB s.P Tryz.f168) ky .norm ⟨(b::a::d::v1::uu::v3::v5::v7::v9::uu::uu::a::v9::vA::a::vC::vD::vB::uu::uu::vV::vS::uu::uu::uu::uu::uu::uu::uu::uu::uu::uu::uu::uu::uu::uu::uu::vN::vN::v9::vh::vp::vK::uu::uu::uu::uu::uu::uu::uu::uu::uu::uu::uu::uu::uu::uu::uu::uu::uu::uu::uu::uu::uu::uu::uu::uu::uu::uu::uu::uu::uu::uu::uu::uu::uu::uu::uu::uu::uu::uu::uu::uu::uu::uu::uu::uu::uu::uu::uu::uu::uu::uu::uu::[]),hW⟩) (
 bm (au s.P .eql 3 vS (.lit (.int .i64 1))) hn fun vM hT=>
 cnd vM (
 bm (ab s.P 23 v1 hT) hT fun vT hb=>
 bm (aa s.P 55 v3 4) hb fun vQ hd=>
 bm (ab s.P 46 vQ hd) hd fun vm hf=>
 bp (yC s k wl 168 false true (.fn (.func 203) [] []) [vT,vm] hf) fun vi hX=>
 bp (yC s k wl 168 false true (.fn (.func 27) [] []) [v9,vi] hX) fun va he=>
 bm (aa s.P 55 v3 5) he fun vb hg=>
 bs (aj s.P wl 46 vb va hg) fun hl=>
 bm (aa s.P 55 v3 1) hl fun vs hM=>
 bs (aj s.P wl 3 vs (.lit (.int .i64 0)) hM) fun hi=>
 bm (aa s.P 55 v3 5) hi fun vR hp=>
 stO hi.length vR (
 bm (ab s.P 46 vR hp) hp fun vq ht=>
 bm (ab s.P 23 v1 ht) ht fun vt hz=>
 bm (aa s.P 55 v3 4) hz fun v60 h61=>
 bm (ab s.P 46 v60 h61) h61 fun vx h63=>
 bp (yC s k wl 168 true true (.fn (.func 204) [] []) [vt,vx] h63) fun vw h65=>
 bp (yC s k wl 168 false true (.fn (.func 106) [] []) [vq,vw] h65) fun vk h67=>
 bm (au s.P .eql 3 vk (.lit (.int .i64 0))) h67 fun v68 h69=>
 cnd v68 (
 bm (aa s.P 55 v3 1) h69 fun v70 h71=>
 bs (aj s.P wl 3 v70 (.lit (.int .i64 2)) h71) fun h72=>
 av (xX s 168 wl k false) (aB s.P Tryz.f168) ky .norm ⟨(b::a::d::v1::uu::v3::v5::v7::v9::vk::uu::a::v9::vA::a::vC::vD::vB::uu::uu::vV::vS::uu::uu::uu::uu::uu::uu::uu::uu::uu::uu::uu::uu::uu::uu::uu::vN::vN::uu::uu::uu::uu::vM::vM::v9::vT::vQ::vm::vi::va::vb::vs::vR::vq::vt::v60::vx::vw::vk::vk::v68::v70::uu::uu::uu::uu::uu::uu::uu::uu::uu::uu::uu::uu::uu::uu::uu::uu::uu::uu::uu::uu::uu::uu::uu::uu::uu::uu::uu::uu::uu::uu::uu::[]),h72⟩) (
 bm (au s.P .lss 3 vk (.lit (.int .i64 0))) h69 fun vu hv=>
 cnd vu (
 bm (ab s.P 55 v3 hv) hv fun v75 h76=>
 bp (yC s k wl 168 false true (.fn (.func 193) [] []) [v75,(.lit (.int .i64 3)),(.lit (.int .u64 0))] h76) fun v77 h78=>
 bs (aj s.P wl 55 v3 v77 h78) fun h79=>
 av (xX s 168 wl k false) (aB s.P Tryz.f168) ky .norm ⟨(b::a::d::v1::uu::v3::v5::v7::v9::vk::uu::a::v9::vA::a::vC::vD::vB::uu::uu::vV::vS::uu::uu::uu::uu::uu::uu::uu::uu::uu::uu::uu::uu::uu::uu::uu::vN::vN::uu::uu::uu::uu::vM::vM::v9::vT::vQ::vm::vi::va::vb::vs::vR::vq::vt::v60::vx::vw::vk::vk::v68::uu::vk::vu::v75::v77::uu::uu::uu::uu::uu::uu::uu::uu::uu::uu::uu::uu::uu::uu::uu::uu::uu::uu::uu::uu::uu::uu::uu::uu::uu::uu::uu::[]),h79⟩) (
 av (xX s 168 wl k false) (aB s.P Tryz.f168) ky .norm ⟨(b::a::d::v1::uu::v3::v5::v7::v9::vk::uu::a::v9::vA::a::vC::vD::vB::uu::uu::vV::vS::uu::uu::uu::uu::uu::uu::uu::uu::uu::uu::uu::uu::uu::uu::uu::vN::vN::uu::uu::uu::uu::vM::vM::v9::vT::vQ::vm::vi::va::vb::vs::vR::vq::vt::v60::vx::vw::vk::vk::v68::uu::vk::vu::uu::uu::uu::uu::uu::uu::uu::uu::uu::uu::uu::uu::uu::uu::uu::uu::uu::uu::uu::uu::uu::uu::uu::uu::uu::uu::uu::uu::uu::[]),hv⟩)))) (
 bm (au s.P .eql 3 vS (.lit (.int .i64 2))) hT fun v80 h81=>
 cnd v80 (
 bm (aa s.P 55 v3 1) h81 fun v82 h83=>
 bs (aj s.P wl 3 v82 (.lit (.int .i64 0)) h83) fun h84=>
 bm (aa s.P 55 v3 4) h84 fun v85 h86=>
 bm (ab s.P 46 v85 h86) h86 fun v87 h88=>
 bm (aa s.P 55 v3 4) h88 fun v89 h90=>
 bm (ab s.P 46 v89 h90) h90 fun v91 h92=>
 bm (au s.P .add 46 v91 (.lit (.int .u64 1))) h92 fun v93 h94=>
 bp (yC s k wl 168 false true (.fn (.func 191) [] []) [v9,(.lit (.int .i64 4)),v87,v93] h94) fun v95 h96=>
 bm (ar v95 0) h96 fun v97 h98=>
 bm (ar v95 1) h98 fun v99 h100=>
 cnd v99 (
 bm (aa s.P 55 v3 1) h100 fun vj h102=>
 bs (aj s.P wl 3 vj (.lit (.int .i64 3)) h102) fun h103=>
 av (xX s 168 wl k false) (aB s.P Tryz.f168) ky .norm ⟨(b::a::d::v1::uu::v3::v5::v7::v97::uu::v99::a::v9::vA::a::vC::vD::vB::uu::uu::vV::vS::uu::uu::uu::uu::uu::uu::uu::uu::uu::uu::uu::uu::uu::uu::uu::vN::vN::uu::uu::uu::uu::vM::vM::uu::uu::uu::uu::uu::uu::uu::uu::uu::uu::uu::uu::uu::uu::uu::uu::uu::uu::uu::uu::uu::uu::v80::v80::v82::v95::v9::v85::v87::v89::v91::v93::v95::v97::v99::v99::vj::uu::uu::uu::uu::uu::uu::uu::uu::uu::uu::uu::uu::[]),h103⟩) (
 av (xX s 168 wl k false) (aB s.P Tryz.f168) ky .norm ⟨(b::a::d::v1::uu::v3::v5::v7::v97::uu::v99::a::v9::vA::a::vC::vD::vB::uu::uu::vV::vS::uu::uu::uu::uu::uu::uu::uu::uu::uu::uu::uu::uu::uu::uu::uu::vN::vN::uu::uu::uu::uu::vM::vM::uu::uu::uu::uu::uu::uu::uu::uu::uu::uu::uu::uu::uu::uu::uu::uu::uu::uu::uu::uu::uu::uu::v80::v80::v82::v95::v9::v85::v87::v89::v91::v93::v95::v97::v99::v99::uu::uu::uu::uu::uu::uu::uu::uu::uu::uu::uu::uu::uu::[]),h100⟩)) (
 bm (au s.P .eql 3 vS (.lit (.int .i64 3))) h81 fun v104 h105=>
 cnd v104 (
 bm (ab s.P 23 v1 h105) h105 fun v106 h107=>
 bm (aa s.P 55 v3 4) h107 fun v108 h109=>
 bm (ab s.P 46 v108 h109) h109 fun v110 h111=>
 bp (yC s k wl 168 false true (.fn (.func 205) [] []) [v106,v110] h111) fun v112 h113=>
 bp (yC s k wl 168 false true (.fn (.func 27) [] []) [v9,v112] h113) fun v114 h115=>
 bm (aa s.P 55 v3 3) h115 fun v116 h117=>
 bs (aj s.P wl 46 v116 v114 h117) fun h118=>
 bm (aa s.P 55 v3 1) h118 fun v119 h120=>
 bs (aj s.P wl 3 v119 (.lit (.int .i64 4)) h120) fun h121=>
 av (xX s 168 wl k false) (aB s.P Tryz.f168) ky .norm ⟨(b::a::d::v1::uu::v3::v5::v7::v9::uu::uu::a::v9::vA::a::vC::vD::vB::uu::uu::vV::vS::uu::uu::uu::uu::uu::uu::uu::uu::uu::uu::uu::uu::uu::uu::uu::vN::vN::uu::uu::uu::uu::vM::vM::uu::uu::uu::uu::uu::uu::uu::uu::uu::uu::uu::uu::uu::uu::uu::uu::uu::uu::uu::uu::uu::uu::v80::v80::uu::uu::uu::uu::uu::uu::uu::uu::uu::uu::uu::uu::uu::v104::v104::v9::v106::v108::v110::v112::v114::v116::v119::uu::uu::[]),h121⟩) (
 bm (ab s.P 23 v1 h105) h105 fun v122 h123=>
 bm (aa s.P 55 v3 4) h123 fun v124 h125=>
 bm (ab s.P 46 v124 h125) h125 fun v126 h127=>
 bp (yC s k wl 168 true true (.fn (.func 203) [] []) [v122,v126] h127) fun v128 h129=>
 stO h105.length v1 (
 bm (ab s.P 23 v1 h129) h129 fun v130 h131=>
 bm (aa s.P 55 v3 4) h131 fun v132 h133=>
 stO h105.length v132 (
 bm (ab s.P 46 v132 h133) h133 fun v134 h135=>
 bp (yC s k wl 168 false true (.fn (.func 204) [] []) [v130,v134] h135) fun v136 h137=>
 bm (au s.P .add 46 v136 (.lit (.int .u64 1))) h137 fun v138 h139=>
 bp (yC s k wl 168 false true (.fn (.func 88) [] []) [v9,v128,v138] h139) fun v140 h141=>
 bm (ab s.P 55 v3 h141) h141 fun v142 h143=>
 bm (aa s.P 55 v3 3) h143 fun v144 h145=>
 bm (ab s.P 46 v144 h145) h145 fun v146 h147=>
 bp (yC s k wl 168 false true (.fn (.func 193) [] []) [v142,(.lit (.int .i64 1)),v146] h147) fun v148 h149=>
 bs (aj s.P wl 55 v3 v148 h149) fun h150=>
 av (xX s 168 wl k false) (aB s.P Tryz.f168) ky .norm ⟨(b::a::d::v1::uu::v3::v5::v7::v140::uu::uu::a::v9::vA::a::vC::vD::vB::uu::uu::vV::vS::v9::v122::v124::v126::v128::v130::v132::v134::v136::v138::v140::v142::v144::v146::v148::vN::vN::uu::uu::uu::uu::vM::vM::uu::uu::uu::uu::uu::uu::uu::uu::uu::uu::uu::uu::uu::uu::uu::uu::uu::uu::uu::uu::uu::uu::v80::v80::uu::uu::uu::uu::uu::uu::uu::uu::uu::uu::uu::uu::uu::v104::v104::uu::uu::uu::uu::uu::uu::uu::uu::uu::uu::[]),h150⟩))))))):=kB
theorem ahZ:evF Tryz.prog xM (k+1) wl 168 [b,a,d] h=ak (xX (xS k) 168 wl k false) Tryz.f168 [b,a,d] h:=by kernel_rfl
theorem Ma:av (xX s 168 wl k false) (aB s.P Tryz.f168) ky .norm ⟨(b::a::d::l::q::g::r::i::j::u::v::z::A::o::B::D::E::F::p::G::I::J::L::M::N::O::Q::R::T::U::Y::Z::t0::t1::t2::t3::t4::t5::t6::t7::t8::W::t9::ta::X::th::tb::tc::td::te::tf::tg::ti::tj::tk::tl::tm::tn::tp::tq::tr::ts::tt::tu::tv::tw::tx::ty::tz::tA::tB::tC::tD::tE::tF::tG::tH::tI::tJ::tK::tL::tM::tN::tO::tP::tQ::tR::tS::tT::tU::tV::tW::tX::tY::[]),h⟩ =
 bm (ab s.P 55 g h) h fun v151 h152=>
 bs (aj s.P wl 55 i v151 h152) fun h153=>
 eo [some j,ab s.P 55 i h153] h153:=kR
theorem us (cx:Cx) (s:St):av cx K ky .ret s=K .ret s:=by kernel_rfl
-- names: Zy,Ma,us
theorem acr:ak (xX s 180 wl k false) Tryz.f180 [b,a,d] h =
 bp (aP b h) fun v1 h2=>
 bp (aP d h2) fun v3 h4=>
 bp (some (.own h4.length 0 0,h4++[.rows 0 [] 0 true])) fun v5 h6=>
 bp (aw s.P 55 h6) fun v7 h8=>
 bm (aa s.P 55 v3 0) h8 fun v9 hA=>
 bm (ab s.P 3 v9 hA) hA fun vA hB=>
 bm (au s.P .eql 3 vA (.lit (.int .i64 0))) hB fun vC hC=>
 cnd vC (
 bm (ab s.P 23 v1 hC) hC fun vD hD=>
 bm (ab s.P 55 v3 hD) hD fun vB hE=>
 bp (yC s k wl 180 false true (.fn (.func 207) [] []) [vD,a,vB] hE) fun vE hH=>
 bm (ar vE 0) hH fun vF hF=>
 bm (ar vE 1) hF fun vH hG=>
 bs (aj s.P wl 55 v7 vH hG) fun hc=>
 eo [some vF,ab s.P 55 v7 hc] hc) (
 bm (au s.P .eql 3 vA (.lit (.int .i64 1))) hC fun vN hn=>
 cnd vN (
 bm (ab s.P 23 v1 hn) hn fun vh hs=>
 bm (ab s.P 55 v3 hs) hs fun vp hY=>
 bp (yC s k wl 180 false true (.fn (.func 208) [] []) [vh,a,vp] hY) fun ve hh=>
 bm (ar ve 0) hh fun vf hW=>
 bm (ar ve 1) hW fun vM hT=>
 bs (aj s.P wl 55 v7 vM hT) fun hS=>
 eo [some vf,ab s.P 55 v7 hS] hS) (
 bm (au s.P .eql 3 vA (.lit (.int .i64 2))) hn fun vY hU=>
 cnd vY (
 bm (ab s.P 23 v1 hU) hU fun vP hP=>
 bm (ab s.P 55 v3 hP) hP fun vZ ha=>
 bp (yC s k wl 180 false true (.fn (.func 209) [] []) [vP,a,vZ] ha) fun vc hK=>
 bm (ar vc 0) hK fun vl hj=>
 bm (ar vc 1) hj fun vg hl=>
 bs (aj s.P wl 55 v7 vg hl) fun hZ=>
 eo [some vl,ab s.P 55 v7 hZ] hZ) (
 bp (yC s k wl 180 true true (.fn (.func 76) [] []) [a] hU) fun vX hi=>
 stO hU.length v3 (
 bm (ab s.P 55 v3 hi) hi fun vR hp=>
 bs (aj s.P wl 55 v7 vR hp) fun hq=>
 eo [some vX,ab s.P 55 v7 hq] hq)))):=kB
theorem ahS:evF Tryz.prog xM (k+1) wl 180 [b,a,d] h=ak (xX (xS k) 180 wl k false) Tryz.f180 [b,a,d] h:=by kernel_rfl
-- names: acr,
end
end Go.Ab
set_option maxRecDepth 100000
set_option linter.unusedVariables false
namespace Go.Ab
open Go.Proofs
section
variable (s:Sys) (k wl:Nat) (m0:Nat) (ac:List Nat×List Nat) (b g e j l o r u y n p z A q D E B G F L I M J O R Q N Y U Z W X T t1 t2 t3 t4 t0 tf te tg t6 t5 tb t7 tc t8 t9 td ta th ti tj tk tl tm tn tp tq tr q4 q5 q6 ts tt tu tv tw tx ty tz tA tB qb qc qd tC tD tE tF tG tH tI tJ tK tL tM tN q7 q8 q9 qa tO tP tQ tR tS tT tU tV tW tX tY tZ q0 q1 q2 q3 qe qf qg qh qi qj qk ql qm qn qo qp qq qr qs qt qu qv qw qx qy qz qA qB qC qD qE qF qG qH qI qJ:V) (h:Hp) (K:Out→St→Option (V×Hp)) (rd:Bool) (zz:List V)
theorem aiw:ak (xX s 83 wl k false) Tryz.f83 [b,g,e,j,l,o] h =
 bp (aP b h) fun v1 h2=>
 bp (aP l h2) fun v3 h4=>
 bp (some (.own h4.length 0 0,h4++[.rows 0 [] 0 true])) fun v5 h6=>
 bp (aw s.P 65 h6) fun v7 h8=>
 bp (some (.own h8.length 0 0,h8++[.rows 0 [] 0 true])) fun v9 hA=>
 stO hA.length v3 (
 bm (ab s.P 65 v3 hA) hA fun vA hB=>
 stO hA.length v1 (
 bm (ab s.P 23 v1 hB) hB fun vC hC=>
 bp (yC s k wl 83 true true (.fn (.func 76) [] []) [e] hC) fun vD hD=>
 bm (bf s.P 168 [(0,vA),(1,vC),(2,g),(3,vD),(4,j),(5,o)]) hD fun vB hE=>
 bp (aP vB hE) fun vE hH=>
 bm (aa s.P 65 v3 1) hH fun vF hF=>
 bm (ab s.P 63 vF hF) hF fun vH hG=>
 bp (yC s k wl 83 false true (.fn (.func 79) [] []) [vH] hG) fun vI hJ=>
 bm (aS vE hJ) hJ fun vG hI=>
 bm (aa s.P 168 vG 0) hI fun vJ hL=>
 bm (aa s.P 65 vJ 1) hL fun vL hN=>
 bs (aj s.P wl 63 vL vI hN) fun hh=>
 bm (ab s.P 23 v1 hh) hh fun vf hW=>
 bm (ab s.P 65 v3 hW) hW fun vM hT=>
 bp (yC s k wl 83 false true (.fn (.func 95) [] []) [vf,g,e,j,vM] hT) fun vT hb=>
 bm (vUn .not vT) hb fun vQ hd=>
 cnd vQ (
 bm (aS vE hd) hd fun vm hf=>
 bm (aa s.P 168 vm 3) hf fun vi hX=>
 bm (ab s.P 26 vi hX) hX fun va he=>
 bm (aS vE he) he fun vb hg=>
 bm (aa s.P 168 vb 0) hg fun vU hZ=>
 bm (ab s.P 65 vU hZ) hZ fun vX hi=>
 bs (aj s.P wl 65 v7 vX hi) fun hk=>
 bp (some (.own hk.length 0 0,hk++[.rows 0 [] 0 true])) fun vv hq=>
 eo [some va,ab s.P 65 v7 hq,some vv] hq) (
 bm (bf s.P 169 [(0,(.fn (.func 116) [vE] [])),(1,(.fn (.func 117) [vE] [])),(2,(.fn (.func 118) [vE] [])),(3,(.fn (.func 118) [vE] [])),(4,(.fn (.func 119) [vE] [])),(5,(.fn (.func 120) [vE] [])),(6,(.fn (.func 121) [vE] [])),(7,(.fn (.func 122) [vE] [])),(8,(.fn (.func 123) [vE] [])),(9,(.fn (.func 124) [vE] [])),(10,(.fn (.func 125) [vE] [])),(11,(.fn (.func 126) [vE] [])),(12,(.fn (.func 127) [vE] [])),(13,(.fn (.func 128) [vE] [])),(14,(.fn (.func 129) [vE] [])),(15,(.fn (.func 130) [vE] []))]) hd fun vy hx=>
 bp (aw s.P 169 hx) fun v59 hy=>
 bs (aj s.P wl 169 v59 vy hy) fun h61=>
 bm (aa s.P 65 v3 0) h61 fun vx h63=>
 bm (ab s.P 3 vx h63) h63 fun vw h65=>
 bm (am s.P 169 v59 vw h65) h65 fun vk h67=>
 bm (ab s.P 1 vk h67) h67 fun v68 h69=>
 bp (yC s k wl 83 false true v68 [] h69) fun v70 h71=>
 bm (aS vE h71) h71 fun v72 h73=>
 bm (aa s.P 168 v72 3) h73 fun v74 h75=>
 bm (ab s.P 26 v74 h75) h75 fun v76 hR=>
 bm (aS vE hR) hR fun v78 h79=>
 bm (aa s.P 168 v78 0) h79 fun v80 h81=>
 bm (ab s.P 65 v80 h81) h81 fun v82 h83=>
 stO h71.length vE (
 bm (aS vE h83) h83 fun v84 h85=>
 bm (aa s.P 168 v84 6) h85 fun v86 h87=>
 stO h71.length v86 (
 bm (ab s.P 34 v86 h87) h87 fun v88 h89=>
 bs (aj s.P wl 65 v7 v82 h89) fun h90=>
 apt (lgW v7 (lgR v86 (lgR vE ([],[])))) (
 eo [some v76,ab s.P 65 v7 h90,some v88] h90)))))):=kB
theorem ai3:evF Tryz.prog xM (k+1) wl 83 [b,g,e,j,l,o] h=ak (xX (xS k) 83 wl k false) Tryz.f83 [b,g,e,j,l,o] h:=by kernel_rfl
-- names: aiw,
theorem Y4:ak (xX s 116 wl k false) Tryz.f116 [b] h =
 bp (yC s k wl 116 false true (.fn (.func 156) [] []) [b] h) fun v1 h2=>
 bm (vUn .not v1) h2 fun v3 h4=>
 cnd v3 (
 some (.tup [],h4)) (
 bm (aS b h4) h4 fun v5 h6=>
 bm (aa s.P 168 v5 0) h6 fun v7 h8=>
 bm (aa s.P 65 v7 2) h8 fun v9 hA=>
 bm (ab s.P 55 v9 hA) hA fun vA hB=>
 bp (aw s.P 55 hB) fun vC hC=>
 bs (aj s.P wl 55 vC vA hC) fun ho=>
 bm (aa s.P 55 vC 6) ho fun vr hu=>
 bm (ab s.P 3 vr hu) hu fun vn hr=>
 bm (au s.P .neq 3 vn (.lit (.int .i64 1))) hr fun vd hQ=>
 cnd vd (
 bp (yC s k wl 116 false true (.fn (.func 157) [] []) [b,(.lit (.int .i64 1))] hQ) fun vV hm=>
 some (.tup [],hm)) (
 bp (yC s k wl 116 false true (.fn (.func 157) [] []) [b,(.lit (.int .i64 9))] hQ) fun vS hc=>
 bm (aa s.P 55 vC 3) hc fun vN hn=>
 bm (ab s.P 46 vN hn) hn fun vh hs=>
 bp (yC s k wl 116 false true (.fn (.func 158) [] []) [b,vh] hs) fun vp hY=>
 some (.tup [],hY))):=kB
theorem aeJ:evF Tryz.prog xM (k+1) wl 116 [b] h=ak (xX (xS k) 116 wl k false) Tryz.f116 [b] h:=by kernel_rfl
-- names: Y4,
theorem ac6:ak (xX s 117 wl k false) Tryz.f117 [b] h =
 bp (yC s k wl 117 false true (.fn (.func 159) [] []) [b,(.lit (.int .i64 1)),(.lit (.int .u64 1))] h) fun v1 h2=>
 bm (aS b h2) h2 fun v3 h4=>
 bm (aa s.P 168 v3 1) h4 fun v5 h6=>
 bm (aa s.P 23 v5 3) h6 fun v7 h8=>
 bm (ab s.P 3 v7 h8) h8 fun v9 hA=>
 bm (aS b hA) hA fun vA hB=>
 bm (aa s.P 168 vA 0) hB fun vC hC=>
 bm (aa s.P 65 vC 3) hC fun vD hD=>
 bs (aj s.P wl 3 vD v9 hD) fun hu=>
 bm (aS b hu) hu fun vn hr=>
 bm (aa s.P 168 vn 4) hr fun vd hQ=>
 bm (ab s.P 3 vd hQ) hQ fun vV hm=>
 bp (yC s k wl 117 false true (.fn (.func 160) [] []) [b,(.lit (.int .i64 2)),(.lit (.int .i64 4)),vV,(.lit (.int .u64 0))] hm) fun vS hc=>
 some (.tup [],hc):=kB
theorem af6:evF Tryz.prog xM (k+1) wl 117 [b] h=ak (xX (xS k) 117 wl k false) Tryz.f117 [b] h:=by kernel_rfl
-- names: ac6,
noncomputable def BZ:Code:=al (an Tryz.f118) [0,1,1,1,0,0]
noncomputable def wL:List Fr:=[.seq (al (an Tryz.f118) [0,1,1,1,0,1]),.seq (al (an Tryz.f118) [0,1,1,1,1]),.scope (al (an Tryz.f118) [0])]
theorem aa5:ak (xX s 118 wl k false) Tryz.f118 [b] h =
 bm (aS b h) h fun v1 h2=>
 bm (aa s.P 168 v1 5) h2 fun v3 h4=>
 bm (ab s.P 46 v3 h4) h4 fun v5 h6=>
 bm (aS b h6) h6 fun v7 h8=>
 bm (aa s.P 168 v7 4) h8 fun v9 hA=>
 bm (ab s.P 3 v9 hA) hA fun vA hB=>
 bm (aS b hB) hB fun vC hC=>
 bm (aa s.P 168 vC 1) hC fun vD hD=>
 bm (aa s.P 23 vD 0) hD fun vB hE=>
 bm (ab s.P 3 vB hE) hE fun vE hH=>
 bp (yC s k wl 118 false true (.fn (.func 161) [] []) [v5,vA,vE] hH) fun vF hF=>
 bp (yC s k wl 118 false true (.fn (.func 156) [] []) [b] hF) fun vH hG=>
 bm (vUn .not vH) hG fun vI hJ=>
 cnd vI (
 some (.tup [],hJ)) (
 bm (aS b hJ) hJ fun vG hI=>
 bm (aa s.P 168 vG 0) hI fun vJ hL=>
 bm (aa s.P 65 vJ 2) hL fun vL hN=>
 bm (aa s.P 55 vL 6) hN fun vK hO=>
 bm (ab s.P 3 vK hO) hO fun vO hV=>
 bm (au s.P .eql 3 vO (.lit (.int .i64 1))) hV fun vW hS=>
 cnd vW (
 bm (aS b hS) hS fun vY hU=>
 bm (aa s.P 168 vY 0) hU fun vP hP=>
 bm (aa s.P 65 vP 0) hP fun vZ ha=>
 bs (aj s.P wl 3 vZ (.lit (.int .i64 4)) ha) fun hX=>
 some (.tup [],hX)) (
 bm (aS b hS) hS fun va he=>
 bm (aa s.P 168 va 0) he fun vb hg=>
 bm (aa s.P 65 vb 0) hg fun vU hZ=>
 bm (ab s.P 3 vU hZ) hZ fun vX hi=>
 bm (au s.P .eql 3 vX (.lit (.int .i64 2))) hi fun vR hp=>
 gd vR (
 bm (au s.P .geq 3 vF (.lit (.int .i64 0))) hp fun vq ht=>
 yO s k wl 118 Tryz.f118 BZ 9 hS.length ([],[]) wL ⟨(b::uu::vF::b::v1::v3::v5::b::v7::v9::vA::b::vC::vD::vB::vE::vF::b::vH::vI::b::vG::vJ::vL::vK::vO::vW::b::va::vb::vU::vX::vR::(.lit (.bool true))::vF::vq::uu::uu::uu::uu::uu::uu::uu::uu::uu::uu::uu::uu::uu::uu::uu::uu::uu::uu::uu::uu::uu::uu::uu::uu::uu::uu::uu::uu::uu::uu::uu::uu::uu::uu::uu::[]),ht⟩) (
 yO s k wl 118 Tryz.f118 BZ 9 hS.length ([],[]) wL ⟨(b::uu::vF::b::v1::v3::v5::b::v7::v9::vA::b::vC::vD::vB::vE::vF::b::vH::vI::b::vG::vJ::vL::vK::vO::vW::b::va::vb::vU::vX::vR::(.lit (.bool false))::uu::uu::uu::uu::uu::uu::uu::uu::uu::uu::uu::uu::uu::uu::uu::uu::uu::uu::uu::uu::uu::uu::uu::uu::uu::uu::uu::uu::uu::uu::uu::uu::uu::uu::uu::uu::uu::[]),hp⟩) (
 yO s k wl 118 Tryz.f118 BZ 8 hS.length ([],[]) wL ⟨(b::uu::vF::b::v1::v3::v5::b::v7::v9::vA::b::vC::vD::vB::vE::vF::b::vH::vI::b::vG::vJ::vL::vK::vO::vW::b::va::vb::vU::vX::vR::vR::uu::uu::uu::uu::uu::uu::uu::uu::uu::uu::uu::uu::uu::uu::uu::uu::uu::uu::uu::uu::uu::uu::uu::uu::uu::uu::uu::uu::uu::uu::uu::uu::uu::uu::uu::uu::uu::[]),hp⟩))):=kB
theorem agi:evF Tryz.prog xM (k+1) wl 118 [b] h=ak (xX (xS k) 118 wl k false) Tryz.f118 [b] h:=by kernel_rfl
theorem Kp:yO s k wl 118 Tryz.f118 BZ 9 m0 ac wL ⟨(b::g::e::j::l::o::r::u::y::n::p::z::A::q::D::E::B::G::F::L::I::M::J::O::R::Q::N::Y::U::Z::W::X::T::t1::t2::t3::t4::t0::tf::te::tg::t6::t5::tb::t7::tc::t8::t9::td::ta::th::ti::tj::tk::tl::tm::tn::tp::tq::tr::q4::q5::q6::ts::tt::tu::tv::tw::tx::ty::tz::[]),h⟩ =
 bm (aT t1 t3 (.lit (.bool false))) h fun vt hz=>
 cnd vt (
 bp (yC s k wl 118 false true (.fn (.func 160) [] []) [b,(.lit (.int .i64 3)),(.lit (.int .i64 2)),e,(.lit (.int .u64 0))] hz) fun v60 h61=>
 some (.tup [],h61)) (
 bm (aS b hz) hz fun vx h63=>
 bm (aa s.P 168 vx 0) h63 fun vw h65=>
 bm (aa s.P 65 vw 3) h65 fun vk h67=>
 bm (ab s.P 3 vk h67) h67 fun v68 h69=>
 bm (au s.P .leq 3 v68 (.lit (.int .i64 0))) h69 fun v70 h71=>
 cnd v70 (
 bm (aS b h71) h71 fun v72 h73=>
 bm (aa s.P 168 v72 4) h73 fun v74 h75=>
 bm (ab s.P 3 v74 h75) h75 fun v76 hR=>
 bp (yC s k wl 118 false true (.fn (.func 160) [] []) [b,(.lit (.int .i64 5)),(.lit (.int .i64 5)),v76,(.lit (.int .u64 0))] hR) fun v78 h79=>
 some (.tup [],h79)) (
 bm (aS b h71) h71 fun v80 h81=>
 bm (aa s.P 168 v80 0) h81 fun v82 h83=>
 bm (aa s.P 65 v82 3) h83 fun v84 h85=>
 bm (ab s.P 3 v84 h85) h85 fun v86 h87=>
 bm (au s.P .sub 3 v86 (.lit (.int .i64 1))) h87 fun v88 h89=>
 bm (aS b h89) h89 fun v90 h91=>
 bm (aa s.P 168 v90 0) h91 fun v92 h93=>
 bm (aa s.P 65 v92 3) h93 fun v94 h95=>
 bs (aj s.P wl 3 v94 v88 h95) fun h96=>
 bm (aS b h96) h96 fun v97 h98=>
 bm (aa s.P 168 v97 4) h98 fun v99 h100=>
 bm (ab s.P 3 v99 h100) h100 fun vj h102=>
 bp (yC s k wl 118 false true (.fn (.func 160) [] []) [b,(.lit (.int .i64 2)),(.lit (.int .i64 4)),vj,(.lit (.int .u64 0))] h102) fun v103 h104=>
 some (.tup [],h104))):=kG
theorem wJ (cx:Cx) (s:St):av cx K wL .ret s=K .ret s:=by kernel_rfl
-- names: aa5,Kp,wJ
noncomputable def Cg:List Fr:=[.seq (al (an Tryz.f119) [1,1])]
theorem aaA:ak (xX s 119 wl k false) Tryz.f119 [b] h =
 bm (aS b h) h fun v1 h2=>
 bm (aa s.P 168 v1 0) h2 fun v3 h4=>
 bm (aa s.P 65 v3 2) h4 fun v5 h6=>
 bm (aa s.P 55 v5 3) h6 fun v7 h8=>
 bm (ab s.P 46 v7 h8) h8 fun v9 hA=>
 bp (yC s k wl 119 false true (.fn (.func 159) [] []) [b,(.lit (.int .i64 1)),(.lit (.int .u64 18446744073709551615))] hA) fun vA hB=>
 bm (au s.P .eql 46 vA (.lit (.int .u64 1))) hB fun vC hC=>
 cnd vC (
 bm (aS b hC) hC fun vD hD=>
 bm (aa s.P 168 vD 4) hD fun vB hE=>
 bm (ab s.P 3 vB hE) hE fun vE hH=>
 bp (yC s k wl 119 false true (.fn (.func 160) [] []) [b,(.lit (.int .i64 14)),(.lit (.int .i64 6)),vE,(.lit (.int .u64 0))] hH) fun vF hF=>
 av (xX s 119 wl k false) (aB s.P Tryz.f119) Cg .norm ⟨[b,uu,v9,b,v1,v3,v5,v7,v9,b,vA,vC,b,b,vD,vB,vE,vF,uu,uu,uu,uu,uu],hF⟩) (
 bp (yC s k wl 119 false true (.fn (.func 157) [] []) [b,(.lit (.int .i64 9))] hC) fun vH hG=>
 av (xX s 119 wl k false) (aB s.P Tryz.f119) Cg .norm ⟨[b,uu,v9,b,v1,v3,v5,v7,v9,b,vA,vC,uu,uu,uu,uu,uu,uu,b,vH,uu,uu,uu],hG⟩):=kB
theorem afy:evF Tryz.prog xM (k+1) wl 119 [b] h=ak (xX (xS k) 119 wl k false) Tryz.f119 [b] h:=by kernel_rfl
theorem Mj:av (xX s 119 wl k false) (aB s.P Tryz.f119) Cg .norm ⟨[b,g,e,j,l,o,r,u,y,n,p,z,A,q,D,E,B,G,F,L,I,M,J],h⟩ =
 bp (yC s k wl 119 false true (.fn (.func 158) [] []) [b,e] h) fun vI hJ=>
 some (.tup [],hJ):=kR
theorem wu (cx:Cx) (s:St):av cx K Cg .ret s=K .ret s:=by kernel_rfl
-- names: aaA,Mj,wu
theorem aci:ak (xX s 120 wl k false) Tryz.f120 [b] h =
 bp (yC s k wl 120 false true (.fn (.func 156) [] []) [b] h) fun v1 h2=>
 bm (aS b h2) h2 fun v3 h4=>
 bm (aa s.P 168 v3 0) h4 fun v5 h6=>
 bm (aa s.P 65 v5 0) h6 fun v7 h8=>
 bs (aj s.P wl 3 v7 (.lit (.int .i64 6)) h8) fun h9=>
 some (.tup [],h9):=kB
theorem afI:evF Tryz.prog xM (k+1) wl 120 [b] h=ak (xX (xS k) 120 wl k false) Tryz.f120 [b] h:=by kernel_rfl
-- names: aci,
theorem ZP:ak (xX s 121 wl k false) Tryz.f121 [b] h =
 bp (yC s k wl 121 false true (.fn (.func 159) [] []) [b,(.lit (.int .i64 1)),(.lit (.int .u64 18446744073709551615))] h) fun v1 h2=>
 bm (aS b h2) h2 fun v3 h4=>
 bm (aa s.P 168 v3 0) h4 fun v5 h6=>
 bm (aa s.P 65 v5 0) h6 fun v7 h8=>
 bs (aj s.P wl 3 v7 (.lit (.int .i64 7)) h8) fun h9=>
 bm (aS b h9) h9 fun v10 h11=>
 bm (aa s.P 168 v10 0) h11 fun v12 h13=>
 bm (aa s.P 65 v12 4) h13 fun vz ho=>
 bs (aj s.P wl 3 vz (.lit (.int .i64 0)) ho) fun hD=>
 some (.tup [],hD):=kB
theorem agK:evF Tryz.prog xM (k+1) wl 121 [b] h=ak (xX (xS k) 121 wl k false) Tryz.f121 [b] h:=by kernel_rfl
-- names: ZP,
noncomputable def Cm:Code:=al (an Tryz.f122) [1,1,0,0]
noncomputable def r6:List Fr:=[.seq (al (an Tryz.f122) [1,1,0,1]),.seq (al (an Tryz.f122) [1,1,1])]
noncomputable def pw:List Fr:=[.block 0,.seq (al (an Tryz.f122) [1,1,1,1,1,1])]
theorem adx:ak (xX s 122 wl k false) Tryz.f122 [b] h =
 bm (aS b h) h fun v1 h2=>
 bm (aa s.P 168 v1 0) h2 fun v3 h4=>
 bm (aa s.P 65 v3 4) h4 fun v5 h6=>
 bm (ab s.P 3 v5 h6) h6 fun v7 h8=>
 bm (aS b h8) h8 fun v9 hA=>
 bm (aa s.P 168 v9 1) hA fun vA hB=>
 bm (aa s.P 23 vA 0) hB fun vC hC=>
 bm (ab s.P 3 vC hC) hC fun vD hD=>
 bm (au s.P .mul 3 (.lit (.int .i64 2)) vD) hD fun vB hE=>
 bm (au s.P .add 3 (.lit (.int .i64 2)) vB) hE fun vE hH=>
 bm (au s.P .lss 3 v7 (.lit (.int .i64 0))) hH fun vF hF=>
 gd vF (
 yO s k wl 122 Tryz.f122 Cm 6 hH.length ([],[]) r6 ⟨(b::uu::v7::vE::uu::uu::b::v1::v3::v5::v7::b::v9::vA::vC::vD::vB::vE::v7::vF::(.lit (.bool true))::uu::uu::uu::uu::uu::uu::uu::uu::uu::uu::uu::uu::uu::uu::uu::uu::uu::uu::uu::uu::uu::uu::uu::uu::uu::uu::uu::uu::uu::uu::uu::uu::uu::uu::uu::uu::uu::uu::uu::uu::uu::uu::uu::uu::uu::uu::uu::uu::uu::uu::uu::uu::uu::uu::uu::uu::uu::uu::uu::uu::uu::uu::uu::uu::uu::uu::uu::uu::uu::uu::uu::uu::uu::uu::uu::uu::uu::uu::uu::uu::uu::uu::uu::uu::uu::uu::uu::uu::uu::uu::uu::uu::uu::uu::uu::uu::uu::uu::uu::uu::uu::uu::uu::uu::uu::uu::uu::uu::uu::uu::uu::uu::uu::uu::uu::uu::uu::uu::uu::[]),hF⟩) (
 bm (au s.P .geq 3 v7 vE) hF fun vH hG=>
 yO s k wl 122 Tryz.f122 Cm 6 hH.length ([],[]) r6 ⟨(b::uu::v7::vE::uu::uu::b::v1::v3::v5::v7::b::v9::vA::vC::vD::vB::vE::v7::vF::(.lit (.bool false))::v7::vE::vH::uu::uu::uu::uu::uu::uu::uu::uu::uu::uu::uu::uu::uu::uu::uu::uu::uu::uu::uu::uu::uu::uu::uu::uu::uu::uu::uu::uu::uu::uu::uu::uu::uu::uu::uu::uu::uu::uu::uu::uu::uu::uu::uu::uu::uu::uu::uu::uu::uu::uu::uu::uu::uu::uu::uu::uu::uu::uu::uu::uu::uu::uu::uu::uu::uu::uu::uu::uu::uu::uu::uu::uu::uu::uu::uu::uu::uu::uu::uu::uu::uu::uu::uu::uu::uu::uu::uu::uu::uu::uu::uu::uu::uu::uu::uu::uu::uu::uu::uu::uu::uu::uu::uu::uu::uu::uu::uu::uu::uu::uu::uu::uu::uu::uu::uu::uu::[]),hG⟩) (
 yO s k wl 122 Tryz.f122 Cm 4 hH.length ([],[]) r6 ⟨(b::uu::v7::vE::uu::uu::b::v1::v3::v5::v7::b::v9::vA::vC::vD::vB::vE::v7::vF::vF::uu::uu::uu::uu::uu::uu::uu::uu::uu::uu::uu::uu::uu::uu::uu::uu::uu::uu::uu::uu::uu::uu::uu::uu::uu::uu::uu::uu::uu::uu::uu::uu::uu::uu::uu::uu::uu::uu::uu::uu::uu::uu::uu::uu::uu::uu::uu::uu::uu::uu::uu::uu::uu::uu::uu::uu::uu::uu::uu::uu::uu::uu::uu::uu::uu::uu::uu::uu::uu::uu::uu::uu::uu::uu::uu::uu::uu::uu::uu::uu::uu::uu::uu::uu::uu::uu::uu::uu::uu::uu::uu::uu::uu::uu::uu::uu::uu::uu::uu::uu::uu::uu::uu::uu::uu::uu::uu::uu::uu::uu::uu::uu::uu::uu::uu::uu::uu::uu::uu::[]),hF⟩):=kB
theorem agx:evF Tryz.prog xM (k+1) wl 122 [b] h=ak (xX (xS k) 122 wl k false) Tryz.f122 [b] h:=by kernel_rfl
theorem M9:yO s k wl 122 Tryz.f122 Cm 6 m0 ac r6 ⟨(b::g::e::j::l::o::r::u::y::n::p::z::A::q::D::E::B::G::F::L::I::M::J::O::R::Q::N::Y::U::Z::W::X::T::t1::t2::t3::t4::t0::tf::te::tg::t6::t5::tb::t7::tc::t8::t9::td::ta::th::ti::tj::tk::tl::tm::tn::tp::tq::tr::q4::q5::q6::ts::tt::tu::tv::tw::tx::ty::tz::tA::tB::qb::qc::qd::tC::tD::tE::tF::tG::tH::tI::tJ::tK::tL::tM::tN::q7::q8::q9::qa::tO::tP::tQ::tR::tS::tT::tU::tV::tW::tX::tY::tZ::q0::q1::q2::q3::zz),h⟩ =
 bm (aT I (.lit (.bool true)) O) h fun vI hJ=>
 cnd vI (
 bm (aS b hJ) hJ fun vG hI=>
 bm (aa s.P 168 vG 0) hI fun vJ hL=>
 bm (aa s.P 65 vJ 0) hL fun vL hN=>
 bs (aj s.P wl 3 vL (.lit (.int .i64 8)) hN) fun hh=>
 bm (aS b hh) hh fun vf hW=>
 bm (aa s.P 168 vf 0) hW fun vM hT=>
 bm (aa s.P 65 vM 2) hT fun vT hb=>
 bm (aa s.P 55 vT 3) hb fun vQ hd=>
 bs (aj s.P wl 46 vQ (.lit (.int .u64 0)) hd) fun hP=>
 bm (aS b hP) hP fun vZ ha=>
 bm (aa s.P 168 vZ 0) ha fun vc hK=>
 bm (aa s.P 65 vc 4) hK fun vl hj=>
 bs (aj s.P wl 3 vl (.lit (.int .i64 0)) hj) fun hg=>
 some (.tup [],hg)) (
 bm (au s.P .sub 3 e (.lit (.int .i64 2))) hJ fun vU hZ=>
 bm (au s.P .quo 3 vU (.lit (.int .i64 2))) hZ fun vX hi=>
 bm (au s.P .eql 3 e (.lit (.int .i64 0))) hi fun vR hp=>
 cnd vR (
 bm (aS b hp) hp fun vq ht=>
 bm (aa s.P 168 vq 3) ht fun vt hz=>
 bm (ab s.P 26 vt hz) hz fun v60 h61=>
 bp (yC s k wl 122 false true (.fn (.func 27) [] []) [v60,(.lit (.int .i64 4))] h61) fun vx h63=>
 bm (aS b h63) h63 fun vw h65=>
 bm (aa s.P 168 vw 0) h65 fun vk h67=>
 bm (aa s.P 65 vk 2) h67 fun v68 h69=>
 bm (aa s.P 55 v68 3) h69 fun v70 h71=>
 bs (aj s.P wl 46 v70 vx h71) fun h72=>
 av (xX s 122 wl k false) (aB s.P Tryz.f122) pw .norm ⟨(b::g::e::j::(.lit (.bool false))::vX::r::u::y::n::p::z::A::q::D::E::B::G::F::L::I::M::J::O::vI::Q::N::Y::U::Z::W::X::T::t1::t2::t3::t4::t0::e::vU::vX::t6::t5::tb::t7::tc::t8::t9::td::ta::th::ti::tj::tk::tl::tm::tn::tp::tq::tr::vR::e::vR::b::b::vq::vt::v60::vx::vw::vk::v68::v70::qb::qc::qd::tC::tD::tE::tF::tG::tH::tI::tJ::tK::tL::tM::tN::q7::q8::q9::qa::tO::tP::tQ::tR::tS::tT::tU::tV::tW::tX::tY::tZ::q0::q1::q2::q3::zz),h72⟩) (
 bm (au s.P .eql 3 e (.lit (.int .i64 1))) hp fun vu hv=>
 cnd vu (
 bm (aS b hv) hv fun v75 h76=>
 bm (aa s.P 168 v75 3) h76 fun v77 h78=>
 bm (ab s.P 26 v77 h78) h78 fun v79 h80=>
 bp (yC s k wl 122 true true (.fn (.func 27) [] []) [v79,(.lit (.int .i64 5))] h80) fun v81 h82=>
 stO hv.length b (
 bm (aS b h82) h82 fun v83 h84=>
 bm (aa s.P 168 v83 0) h84 fun v85 h86=>
 bm (aa s.P 65 v85 2) h86 fun v87 h88=>
 bm (aa s.P 55 v87 3) h88 fun v89 h90=>
 stO hv.length v89 (
 bm (ab s.P 46 v89 h90) h90 fun v91 h92=>
 bm (au s.P .neq 46 v81 v91) h92 fun v93 h94=>
 av (xX s 122 wl k false) (aB s.P Tryz.f122) pw .norm ⟨(b::g::e::j::v93::vX::r::u::y::n::p::z::A::q::D::E::B::G::F::L::I::M::J::O::vI::Q::N::Y::U::Z::W::X::T::t1::t2::t3::t4::t0::e::vU::vX::t6::t5::tb::t7::tc::t8::t9::td::ta::th::ti::tj::tk::tl::tm::tn::tp::tq::tr::vR::e::vR::ts::tt::tu::tv::tw::tx::ty::tz::tA::tB::vu::e::vu::b::v75::v77::v79::v81::b::v83::v85::v87::v89::v91::v93::q7::q8::q9::qa::tO::tP::tQ::tR::tS::tT::tU::tV::tW::tX::tY::tZ::q0::q1::q2::q3::zz),h94⟩))) (
 bm (au s.P .rem 3 e (.lit (.int .i64 2))) hv fun v95 h96=>
 bm (au s.P .eql 3 v95 (.lit (.int .i64 0))) h96 fun v97 h98=>
 cnd v97 (
 stO h98.length b (
 bm (aS b h98) h98 fun v99 h100=>
 bm (aa s.P 168 v99 3) h100 fun vj h102=>
 stO h98.length vj (
 bm (ab s.P 26 vj h102) h102 fun v103 h104=>
 bm (aS b h104) h104 fun v105 h106=>
 bm (aa s.P 168 v105 1) h106 fun v107 h108=>
 bm (ab s.P 23 v107 h108) h108 fun v109 h110=>
 bp (yC s k wl 122 true true (.fn (.func 107) [] []) [v109,vX] h110) fun v111 h112=>
 bp (yC s k wl 122 false true (.fn (.func 27) [] []) [v103,v111] h112) fun v113 h114=>
 bm (aS b h114) h114 fun v115 h116=>
 bm (aa s.P 168 v115 0) h116 fun v117 h118=>
 bm (aa s.P 65 v117 2) h118 fun v119 h120=>
 bm (aa s.P 55 v119 3) h120 fun v121 h122=>
 bs (aj s.P wl 46 v121 v113 h122) fun h123=>
 av (xX s 122 wl k false) (aB s.P Tryz.f122) pw .norm ⟨(b::g::e::j::(.lit (.bool false))::vX::r::u::y::n::p::z::A::q::D::E::B::G::F::L::I::M::J::O::vI::Q::N::Y::U::Z::W::X::T::t1::t2::t3::t4::t0::e::vU::vX::t6::t5::tb::t7::tc::t8::t9::td::ta::th::ti::tj::tk::tl::tm::tn::tp::tq::tr::vR::e::vR::ts::tt::tu::tv::tw::tx::ty::tz::tA::tB::vu::e::vu::tC::tD::tE::tF::tG::tH::tI::tJ::tK::tL::tM::tN::v97::e::v95::v97::b::b::v99::vj::v103::b::v105::v107::v109::vX::v111::v113::v115::v117::v119::v121::zz),h123⟩))) (
 stO h98.length b (
 bm (aS b h98) h98 fun v124 h125=>
 bm (aa s.P 168 v124 3) h125 fun v126 h127=>
 stO h98.length v126 (
 bm (ab s.P 26 v126 h127) h127 fun v128 h129=>
 bm (aS b h129) h129 fun v130 h131=>
 bm (aa s.P 168 v130 1) h131 fun v132 h133=>
 bm (ab s.P 23 v132 h133) h133 fun v134 h135=>
 bp (yC s k wl 122 true true (.fn (.func 108) [] []) [v134,vX] h135) fun v136 h137=>
 bp (yC s k wl 122 true true (.fn (.func 27) [] []) [v128,v136] h137) fun v138 h139=>
 stO h98.length b (
 bm (aS b h139) h139 fun v140 h141=>
 bm (aa s.P 168 v140 0) h141 fun v142 h143=>
 bm (aa s.P 65 v142 2) h143 fun v144 h145=>
 bm (aa s.P 55 v144 3) h145 fun v146 h147=>
 stO h98.length v146 (
 bm (ab s.P 46 v146 h147) h147 fun v148 h149=>
 bp (yC s k wl 122 false true (.fn (.func 106) [] []) [v138,v148] h149) fun v150 h151=>
 bm (au s.P .gtr 3 v150 (.lit (.int .i64 0))) h151 fun v152 h153=>
 av (xX s 122 wl k false) (aB s.P Tryz.f122) pw .norm ⟨(b::g::e::j::v152::vX::r::u::y::n::p::z::A::q::D::E::B::G::F::L::I::M::J::O::vI::Q::N::Y::U::Z::W::X::T::t1::t2::t3::t4::t0::e::vU::vX::b::v124::v126::v128::b::v130::v132::v134::vX::v136::v138::b::v140::v142::v144::v146::v148::v150::v152::vR::e::vR::ts::tt::tu::tv::tw::tx::ty::tz::tA::tB::vu::e::vu::tC::tD::tE::tF::tG::tH::tI::tJ::tK::tL::tM::tN::v97::e::v95::v97::tO::tP::tQ::tR::tS::tT::tU::tV::tW::tX::tY::tZ::q0::q1::q2::q3::zz),h153⟩)))))))):=kG
theorem NW:av (xX s 122 wl k false) (aB s.P Tryz.f122) pw .norm ⟨(b::g::e::j::l::o::r::u::y::n::p::z::A::q::D::E::B::G::F::L::I::M::J::O::R::Q::N::Y::U::Z::W::X::T::t1::t2::t3::t4::t0::tf::te::tg::t6::t5::tb::t7::tc::t8::t9::td::ta::th::ti::tj::tk::tl::tm::tn::tp::tq::tr::q4::q5::q6::ts::tt::tu::tv::tw::tx::ty::tz::tA::tB::qb::qc::qd::tC::tD::tE::tF::tG::tH::tI::tJ::tK::tL::tM::tN::q7::q8::q9::qa::tO::tP::tQ::tR::tS::tT::tU::tV::tW::tX::tY::tZ::q0::q1::q2::q3::qe::qf::qg::qh::qi::qj::qk::ql::qm::qn::qo::qp::qq::qr::qs::qt::qu::qv::qw::qx::qy::qz::qA::qB::qC::qD::qE::qF::qG::qH::qI::qJ::[]),h⟩ =
 cnd l (
 bp (yC s k wl 122 false true (.fn (.func 157) [] []) [b,(.lit (.int .i64 1))] h) fun v154 h155=>
 some (.tup [],h155)) (
 bm (aS b h) h fun v156 h157=>
 bm (aa s.P 168 v156 0) h157 fun v158 h159=>
 bm (aa s.P 65 v158 4) h159 fun v160 h161=>
 bm (ab s.P 3 v160 h161) h161 fun v162 h163=>
 bm (au s.P .add 3 v162 (.lit (.int .i64 1))) h163 fun v164 h165=>
 bm (aS b h165) h165 fun v166 h167=>
 bm (aa s.P 168 v166 0) h167 fun v168 h169=>
 bm (aa s.P 65 v168 4) h169 fun v170 h171=>
 bs (aj s.P wl 3 v170 v164 h171) fun h172=>
 bm (aS b h172) h172 fun v173 h174=>
 bm (aa s.P 168 v173 0) h174 fun v175 h176=>
 bm (aa s.P 65 v175 4) h176 fun v177 h178=>
 bm (ab s.P 3 v177 h178) h178 fun v179 h180=>
 bm (au s.P .eql 3 v179 j) h180 fun v181 h182=>
 cnd v181 (
 bm (aS b h182) h182 fun v183 h184=>
 bm (aa s.P 168 v183 0) h184 fun v185 h186=>
 bm (aa s.P 65 v185 0) h186 fun v187 h188=>
 bs (aj s.P wl 3 v187 (.lit (.int .i64 8)) h188) fun h189=>
 bm (aS b h189) h189 fun v190 h191=>
 bm (aa s.P 168 v190 0) h191 fun v192 h193=>
 bm (aa s.P 65 v192 2) h193 fun v194 h195=>
 bm (aa s.P 55 v194 3) h195 fun v196 h197=>
 bs (aj s.P wl 46 v196 (.lit (.int .u64 0)) h197) fun h198=>
 bm (aS b h198) h198 fun v199 h200=>
 bm (aa s.P 168 v199 0) h200 fun v201 h202=>
 bm (aa s.P 65 v201 4) h202 fun v203 h204=>
 bs (aj s.P wl 3 v203 (.lit (.int .i64 0)) h204) fun h205=>
 some (.tup [],h205)) (
 some (.tup [],h182))):=kR
theorem rX (cx:Cx) (s:St):av cx K r6 .ret s=K .ret s:=by kernel_rfl
theorem uY (cx:Cx) (s:St):av cx K pw .ret s=K .ret s:=by kernel_rfl
-- names: adx,M9,NW,rX,uY
theorem acL:ak (xX s 123 wl k false) Tryz.f123 [b] h =
 bp (yC s k wl 123 false true (.fn (.func 156) [] []) [b] h) fun v1 h2=>
 cnd v1 (
 bp (yC s k wl 123 false true (.fn (.func 157) [] []) [b,(.lit (.int .i64 1))] h2) fun v3 h4=>
 some (.tup [],h4)) (
 some (.tup [],h2)):=kB
theorem afK:evF Tryz.prog xM (k+1) wl 123 [b] h=ak (xX (xS k) 123 wl k false) Tryz.f123 [b] h:=by kernel_rfl
-- names: acL,
theorem ac8:ak (xX s 124 wl k false) Tryz.f124 [b] h =
 bm (aS b h) h fun v1 h2=>
 bm (aa s.P 168 v1 2) h2 fun v3 h4=>
 bm (ab s.P 24 v3 h4) h4 fun v5 h6=>
 bm (aS b h6) h6 fun v7 h8=>
 bm (aa s.P 168 v7 0) h8 fun v9 hA=>
 bm (aa s.P 65 v9 1) hA fun vA hB=>
 bm (ab s.P 63 vA hB) hB fun vC hC=>
 bp (yC s k wl 124 false true (.fn (.func 162) [] []) [v5,vC] hC) fun vD hD=>
 bm (uC s.P 194 vD 0) hD fun vB hE=>
 bm (au s.P .eql 3 vB (.lit (.int .i64 1))) hE fun vE hH=>
 cnd vE (
 bm (aS b hH) hH fun vF hF=>
 bm (aa s.P 168 vF 2) hF fun vH hG=>
 bm (ab s.P 24 vH hG) hG fun vI hJ=>
 bm (aS b hJ) hJ fun vG hI=>
 bm (aa s.P 168 vG 0) hI fun vJ hL=>
 bm (aa s.P 65 vJ 1) hL fun vL hN=>
 bm (ab s.P 63 vL hN) hN fun vK hO=>
 bp (yC s k wl 124 false true (.fn (.func 163) [] []) [vI,vK] hO) fun vO hV=>
 bm (aS b hV) hV fun vW hS=>
 bm (aa s.P 168 vW 0) hS fun vY hU=>
 bm (aa s.P 65 vY 1) hU fun vP hP=>
 bs (aj s.P wl 63 vP vO hP) fun hf=>
 some (.tup [],hf)) (
 bm (au s.P .eql 3 vB (.lit (.int .i64 2))) hH fun vi hX=>
 cnd vi (
 bm (aS b hX) hX fun va he=>
 bm (aa s.P 168 va 0) he fun vb hg=>
 bm (aa s.P 65 vb 0) hg fun vU hZ=>
 bs (aj s.P wl 3 vU (.lit (.int .i64 10)) hZ) fun hM=>
 some (.tup [],hM)) (
 bm (au s.P .eql 3 vB (.lit (.int .i64 3))) hX fun vo hk=>
 cnd vo (
 bm (aS b hk) hk fun vv hq=>
 bm (aa s.P 168 vv 0) hq fun vy hx=>
 bm (aa s.P 65 vy 0) hx fun v59 hy=>
 bs (aj s.P wl 3 v59 (.lit (.int .i64 15)) hy) fun h61=>
 some (.tup [],h61)) (
 bm (aS b hk) hk fun vx h63=>
 bm (aa s.P 168 vx 4) h63 fun vw h65=>
 bm (ab s.P 3 vw h65) h65 fun vk h67=>
 bp (yC s k wl 124 false true (.fn (.func 160) [] []) [b,(.lit (.int .i64 0)),(.lit (.int .i64 1)),vk,(.lit (.int .u64 0))] h67) fun v68 h69=>
 some (.tup [],h69)))):=kB
theorem aft:evF Tryz.prog xM (k+1) wl 124 [b] h=ak (xX (xS k) 124 wl k false) Tryz.f124 [b] h:=by kernel_rfl
-- names: ac8,
theorem aaw:ak (xX s 125 wl k false) Tryz.f125 [b] h =
 bp (aw s.P 194 h) fun v1 h2=>
 bm (aS b h2) h2 fun v3 h4=>
 bm (aa s.P 168 v3 2) h4 fun v5 h6=>
 bm (ab s.P 24 v5 h6) h6 fun v7 h8=>
 bm (aS b h8) h8 fun v9 hA=>
 bm (aa s.P 168 v9 0) hA fun vA hB=>
 bm (aa s.P 65 vA 1) hB fun vC hC=>
 bm (ab s.P 63 vC hC) hC fun vD hD=>
 bp (yC s k wl 125 true true (.fn (.func 162) [] []) [v7,vD] hD) fun vB hE=>
 bs (aj s.P wl 194 v1 vB hE) fun hr=>
 bm (aa s.P 194 v1 0) hr fun vd hQ=>
 bm (ab s.P 3 vd hQ) hQ fun vV hm=>
 bm (au s.P .neq 3 vV (.lit (.int .i64 2))) hm fun vS hc=>
 cnd vS (
 bp (yC s k wl 125 false true (.fn (.func 157) [] []) [b,(.lit (.int .i64 9))] hc) fun vN hn=>
 some (.tup [],hn)) (
 bp (yC s k wl 125 false true (.fn (.func 159) [] []) [b,(.lit (.int .i64 0)),(.lit (.int .u64 1))] hc) fun vh hs=>
 bm (aa s.P 194 v1 1) hs fun vp hY=>
 bm (ab s.P 3 vp hY) hY fun ve hh=>
 bp (yC s k wl 125 false true (.fn (.func 164) [] []) [b,(.lit (.int .i64 3)),ve] hh) fun vf hW=>
 bm (aS b hW) hW fun vM hT=>
 bm (aa s.P 168 vM 2) hT fun vT hb=>
 bm (ab s.P 24 vT hb) hb fun vQ hd=>
 bm (aS b hd) hd fun vm hf=>
 bm (aa s.P 168 vm 0) hf fun vi hX=>
 bm (aa s.P 65 vi 1) hX fun va he=>
 bm (ab s.P 63 va he) he fun vb hg=>
 bp (yC s k wl 125 false true (.fn (.func 163) [] []) [vQ,vb] hg) fun vU hZ=>
 bm (aS b hZ) hZ fun vX hi=>
 bm (aa s.P 168 vX 0) hi fun vR hp=>
 bm (aa s.P 65 vR 1) hp fun vq ht=>
 bs (aj s.P wl 63 vq vU ht) fun hx=>
 bm (aS b hx) hx fun v59 hy=>
 bm (aa s.P 168 v59 4) hy fun v61 hw=>
 bm (ab s.P 3 v61 hw) hw fun v63 h64=>
 bm (aa s.P 194 v1 1) h64 fun v65 h66=>
 bm (ab s.P 3 v65 h66) h66 fun v67 h68=>
 bm (gL s.P 3 46 v67) h68 fun v69 h70=>
 bp (yC s k wl 125 false true (.fn (.func 160) [] []) [b,(.lit (.int .i64 11)),(.lit (.int .i64 0)),v63,v69] h70) fun v71 h72=>
 some (.tup [],h72)):=kB
theorem afk:evF Tryz.prog xM (k+1) wl 125 [b] h=ak (xX (xS k) 125 wl k false) Tryz.f125 [b] h:=by kernel_rfl
-- names: aaw,
theorem adj:ak (xX s 126 wl k false) Tryz.f126 [b] h =
 bp (yC s k wl 126 false true (.fn (.func 156) [] []) [b] h) fun v1 h2=>
 bm (vUn .not v1) h2 fun v3 h4=>
 cnd v3 (
 some (.tup [],h4)) (
 bm (aS b h4) h4 fun v5 h6=>
 bm (aa s.P 168 v5 0) h6 fun v7 h8=>
 bm (aa s.P 65 v7 2) h8 fun v9 hA=>
 bm (aa s.P 55 v9 6) hA fun vA hB=>
 bm (ab s.P 3 vA hB) hB fun vC hC=>
 bm (au s.P .eql 3 vC (.lit (.int .i64 2))) hC fun vD hD=>
 cnd vD (
 bm (aS b hD) hD fun vB hE=>
 bm (aa s.P 168 vB 4) hE fun vE hH=>
 bm (ab s.P 3 vE hH) hH fun vF hF=>
 bm (aS b hF) hF fun vH hG=>
 bm (aa s.P 168 vH 0) hG fun vI hJ=>
 bm (aa s.P 65 vI 2) hJ fun vG hI=>
 bm (aa s.P 55 vG 3) hI fun vJ hL=>
 bm (ab s.P 46 vJ hL) hL fun vL hN=>
 bp (yC s k wl 126 false true (.fn (.func 160) [] []) [b,(.lit (.int .i64 12)),(.lit (.int .i64 3)),vF,vL] hN) fun vK hO=>
 some (.tup [],hO)) (
 bp (yC s k wl 126 false true (.fn (.func 157) [] []) [b,(.lit (.int .i64 13))] hD) fun vO hV=>
 some (.tup [],hV))):=kB
theorem ag9:evF Tryz.prog xM (k+1) wl 126 [b] h=ak (xX (xS k) 126 wl k false) Tryz.f126 [b] h:=by kernel_rfl
-- names: adj,
theorem aa9:ak (xX s 127 wl k false) Tryz.f127 [b] h =
 bp (yC s k wl 127 false true (.fn (.func 156) [] []) [b] h) fun v1 h2=>
 bm (vUn .not v1) h2 fun v3 h4=>
 cnd v3 (
 some (.tup [],h4)) (
 bm (aS b h4) h4 fun v5 h6=>
 bm (aa s.P 168 v5 0) h6 fun v7 h8=>
 bm (aa s.P 65 v7 2) h8 fun v9 hA=>
 bm (aa s.P 55 v9 6) hA fun vA hB=>
 bm (ab s.P 3 vA hB) hB fun vC hC=>
 bm (au s.P .eql 3 vC (.lit (.int .i64 2))) hC fun vD hD=>
 cnd vD (
 bm (aS b hD) hD fun vB hE=>
 bm (aa s.P 168 vB 0) hE fun vE hH=>
 bm (aa s.P 65 vE 2) hH fun vF hF=>
 bm (aa s.P 55 vF 3) hF fun vH hG=>
 bm (ab s.P 46 vH hG) hG fun vI hJ=>
 bp (yC s k wl 127 false true (.fn (.func 157) [] []) [b,(.lit (.int .i64 9))] hJ) fun vG hI=>
 bp (yC s k wl 127 false true (.fn (.func 158) [] []) [b,vI] hI) fun vJ hL=>
 some (.tup [],hL)) (
 bp (yC s k wl 127 false true (.fn (.func 157) [] []) [b,(.lit (.int .i64 13))] hD) fun vL hN=>
 some (.tup [],hN))):=kB
theorem ae5:evF Tryz.prog xM (k+1) wl 127 [b] h=ak (xX (xS k) 127 wl k false) Tryz.f127 [b] h:=by kernel_rfl
-- names: aa9,
theorem aaT:ak (xX s 128 wl k false) Tryz.f128 [b] h =
 bm (aS b h) h fun v1 h2=>
 bm (aa s.P 168 v1 3) h2 fun v3 h4=>
 bm (ab s.P 26 v3 h4) h4 fun v5 h6=>
 bp (yC s k wl 128 false true (.fn (.func 27) [] []) [v5,(.lit (.int .i64 1))] h6) fun v7 h8=>
 bm (au s.P .eql 46 v7 (.lit (.int .u64 0))) h8 fun v9 hA=>
 cnd v9 (
 bm (aS b hA) hA fun vA hB=>
 bm (aa s.P 168 vA 4) hB fun vC hC=>
 bm (ab s.P 3 vC hC) hC fun vD hD=>
 bp (yC s k wl 128 false true (.fn (.func 160) [] []) [b,(.lit (.int .i64 14)),(.lit (.int .i64 6)),vD,(.lit (.int .u64 0))] hD) fun vB hE=>
 some (.tup [],hE)) (
 bp (yC s k wl 128 false true (.fn (.func 157) [] []) [b,(.lit (.int .i64 9))] hA) fun vE hH=>
 some (.tup [],hH)):=kB
theorem af0:evF Tryz.prog xM (k+1) wl 128 [b] h=ak (xX (xS k) 128 wl k false) Tryz.f128 [b] h:=by kernel_rfl
-- names: aaT,
theorem aam:ak (xX s 129 wl k false) Tryz.f129 [b] h =
 bp (yC s k wl 129 false true (.fn (.func 156) [] []) [b] h) fun v1 h2=>
 cnd v1 (
 bp (yC s k wl 129 false true (.fn (.func 157) [] []) [b,(.lit (.int .i64 9))] h2) fun v3 h4=>
 some (.tup [],h4)) (
 some (.tup [],h2)):=kB
theorem aeE:evF Tryz.prog xM (k+1) wl 129 [b] h=ak (xX (xS k) 129 wl k false) Tryz.f129 [b] h:=by kernel_rfl
-- names: aam,
noncomputable def BL:List Fr:=[.seq (al (an Tryz.f130) [1,1,1,1,1])]
theorem Y6:ak (xX s 130 wl k false) Tryz.f130 [b] h =
 bp (aw s.P 194 h) fun v1 h2=>
 bm (aS b h2) h2 fun v3 h4=>
 bm (aa s.P 168 v3 2) h4 fun v5 h6=>
 bm (ab s.P 24 v5 h6) h6 fun v7 h8=>
 bm (aS b h8) h8 fun v9 hA=>
 bm (aa s.P 168 v9 0) hA fun vA hB=>
 bm (aa s.P 65 vA 1) hB fun vC hC=>
 bm (ab s.P 63 vC hC) hC fun vD hD=>
 bp (yC s k wl 130 true true (.fn (.func 162) [] []) [v7,vD] hD) fun vB hE=>
 bs (aj s.P wl 194 v1 vB hE) fun hr=>
 bm (aa s.P 194 v1 0) hr fun vd hQ=>
 bm (ab s.P 3 vd hQ) hQ fun vV hm=>
 bm (au s.P .neq 3 vV (.lit (.int .i64 3))) hm fun vS hc=>
 cnd vS (
 bp (yC s k wl 130 false true (.fn (.func 157) [] []) [b,(.lit (.int .i64 9))] hc) fun vN hn=>
 some (.tup [],hn)) (
 bp (yC s k wl 130 false true (.fn (.func 159) [] []) [b,(.lit (.int .i64 0)),(.lit (.int .u64 18446744073709551615))] hc) fun vh hs=>
 bm (aa s.P 194 v1 1) hs fun vp hY=>
 bm (ab s.P 3 vp hY) hY fun ve hh=>
 bp (yC s k wl 130 false true (.fn (.func 164) [] []) [b,(.lit (.int .i64 4)),ve] hh) fun vf hW=>
 bm (au s.P .eql 46 vh (.lit (.int .u64 1))) hW fun vM hT=>
 cnd vM (
 bp (yC s k wl 130 false true (.fn (.func 164) [] []) [b,(.lit (.int .i64 5)),(.lit (.int .i64 0))] hT) fun vT hb=>
 av (xX s 130 wl k false) (aB s.P Tryz.f130) BL .norm ⟨[b,uu,v1,vh,b,v3,v5,v7,b,v9,vA,vC,vD,vB,vd,vV,vS,uu,uu,b,vh,b,vp,ve,vf,vh,vM,b,vT,uu,uu,uu,uu,uu,uu,uu,uu,uu,uu,uu,uu,uu,uu,uu,uu,uu,uu,uu,uu,uu,uu,uu,uu,uu,uu,uu,uu,uu],hb⟩) (
 av (xX s 130 wl k false) (aB s.P Tryz.f130) BL .norm ⟨[b,uu,v1,vh,b,v3,v5,v7,b,v9,vA,vC,vD,vB,vd,vV,vS,uu,uu,b,vh,b,vp,ve,vf,vh,vM,uu,uu,uu,uu,uu,uu,uu,uu,uu,uu,uu,uu,uu,uu,uu,uu,uu,uu,uu,uu,uu,uu,uu,uu,uu,uu,uu,uu,uu,uu,uu],hT⟩)):=kB
theorem ahW:evF Tryz.prog xM (k+1) wl 130 [b] h=ak (xX (xS k) 130 wl k false) Tryz.f130 [b] h:=by kernel_rfl
theorem J5:av (xX s 130 wl k false) (aB s.P Tryz.f130) BL .norm ⟨[b,g,e,j,l,o,r,u,y,n,p,z,A,q,D,E,B,G,F,L,I,M,J,O,R,Q,N,Y,U,Z,W,X,T,t1,t2,t3,t4,t0,tf,te,tg,t6,t5,tb,t7,tc,t8,t9,td,ta,th,ti,tj,tk,tl,tm,tn,tp],h⟩ =
 bm (aS b h) h fun vQ hd=>
 bm (aa s.P 168 vQ 2) hd fun vm hf=>
 bm (ab s.P 24 vm hf) hf fun vi hX=>
 bm (aS b hX) hX fun va he=>
 bm (aa s.P 168 va 0) he fun vb hg=>
 bm (aa s.P 65 vb 1) hg fun vU hZ=>
 bm (ab s.P 63 vU hZ) hZ fun vX hi=>
 bp (yC s k wl 130 false true (.fn (.func 163) [] []) [vi,vX] hi) fun vR hp=>
 bm (aS b hp) hp fun vq ht=>
 bm (aa s.P 168 vq 0) ht fun vt hz=>
 bm (aa s.P 65 vt 1) hz fun v60 h61=>
 bs (aj s.P wl 63 v60 vR h61) fun hw=>
 bm (aS b hw) hw fun v63 h64=>
 bm (aa s.P 168 v63 0) h64 fun v65 h66=>
 bm (aa s.P 65 v65 1) h66 fun v67 h68=>
 bm (ab s.P 63 v67 h68) h68 fun v69 h70=>
 bp (br s.P 63 v69 h70) fun v71 h72=>
 bm (au s.P .eql 3 v71 (.lit (.int .i64 0))) h72 fun vu hv=>
 cnd vu (
 bm (aS b hv) hv fun v75 h76=>
 bm (aa s.P 168 v75 4) h76 fun v77 h78=>
 bm (ab s.P 3 v77 h78) h78 fun v79 h80=>
 bp (yC s k wl 130 false true (.fn (.func 160) [] []) [b,(.lit (.int .i64 0)),(.lit (.int .i64 1)),v79,(.lit (.int .u64 0))] h80) fun v81 h82=>
 some (.tup [],h82)) (
 bp (yC s k wl 130 false true (.fn (.func 157) [] []) [b,(.lit (.int .i64 9))] hv) fun v83 h84=>
 some (.tup [],h84)):=kR
theorem rR (cx:Cx) (s:St):av cx K BL .ret s=K .ret s:=by kernel_rfl
-- names: Y6,J5,rR
noncomputable def wo:List Fr:=[.seq (al (an Tryz.f156) [1,1,0,1,0,1]),.block 0,.seq (al (an Tryz.f156) [1,1,1])]
noncomputable def nu:List Fr:=[.block 0,.seq (al (an Tryz.f156) [1,1,1])]
theorem aaY:ak (xX s 156 wl k false) Tryz.f156 [b] h =
 bm (aS b h) h fun v1 h2=>
 bm (aa s.P 168 v1 0) h2 fun v3 h4=>
 bm (aa s.P 65 v3 2) h4 fun v5 h6=>
 bm (aa s.P 55 v5 0) h6 fun v7 h8=>
 bm (ab s.P 3 v7 h8) h8 fun v9 hA=>
 bm (au s.P .eql 3 v9 (.lit (.int .i64 0))) hA fun vA hB=>
 cnd vA (
 av (xX s 156 wl k false) (aB s.P Tryz.f156) wo .norm ⟨[b,uu,(.lit (.bool false)),(.fn (.func 134) [] []),b,v1,v3,v5,v7,v9,vA,vA,uu,uu,uu,uu,uu,uu,uu,uu,uu,uu,uu,uu,uu,uu,uu,uu,uu,uu,uu,uu,uu,uu,uu,uu,uu,uu,uu,uu,uu,uu,uu,uu,uu,uu,uu,uu],hB⟩) (
 bm (au s.P .eql 3 v9 (.lit (.int .i64 1))) hB fun vC hC=>
 cnd vC (
 av (xX s 156 wl k false) (aB s.P Tryz.f156) wo .norm ⟨[b,uu,(.lit (.bool false)),(.fn (.func 134) [] []),b,v1,v3,v5,v7,v9,vC,vA,vC,uu,uu,uu,uu,uu,uu,uu,uu,uu,uu,uu,uu,uu,uu,uu,uu,uu,uu,uu,uu,uu,uu,uu,uu,uu,uu,uu,uu,uu,uu,uu,uu,uu,uu,uu],hC⟩) (
 bm (au s.P .eql 3 v9 (.lit (.int .i64 2))) hC fun vD hD=>
 av (xX s 156 wl k false) (aB s.P Tryz.f156) wo .norm ⟨[b,uu,(.lit (.bool false)),(.fn (.func 134) [] []),b,v1,v3,v5,v7,v9,vD,vA,vC,vD,uu,uu,uu,uu,uu,uu,uu,uu,uu,uu,uu,uu,uu,uu,uu,uu,uu,uu,uu,uu,uu,uu,uu,uu,uu,uu,uu,uu,uu,uu,uu,uu,uu,uu],hD⟩)):=kB
theorem aeF:evF Tryz.prog xM (k+1) wl 156 [b] h=ak (xX (xS k) 156 wl k false) Tryz.f156 [b] h:=by kernel_rfl
theorem Nb:av (xX s 156 wl k false) (aB s.P Tryz.f156) wo .norm ⟨(b::g::e::j::l::o::r::u::y::n::p::z::A::q::D::E::B::zz),h⟩ =
 cnd p (
 av (xX s 156 wl k false) (aB s.P Tryz.f156) nu .norm ⟨(b::g::e::(.fn (.func 180) [] [])::l::o::r::u::y::n::p::z::A::q::D::E::B::zz),h⟩) (
 bm (au s.P .eql 3 n (.lit (.int .i64 3))) h fun vB hE=>
 cnd vB (
 cnd vB (
 av (xX s 156 wl k false) (aB s.P Tryz.f156) nu .norm ⟨(b::g::e::(.fn (.func 135) [] [])::l::o::r::u::y::n::p::z::A::q::vB::vB::B::zz),hE⟩) (
 av (xX s 156 wl k false) (aB s.P Tryz.f156) nu .norm ⟨(b::g::e::j::l::o::r::u::y::n::p::z::A::q::vB::vB::B::zz),hE⟩)) (
 bm (au s.P .eql 3 n (.lit (.int .i64 4))) hE fun vE hH=>
 cnd vE (
 av (xX s 156 wl k false) (aB s.P Tryz.f156) nu .norm ⟨(b::g::e::(.fn (.func 135) [] [])::l::o::r::u::y::n::p::z::A::q::vE::vB::vE::zz),hH⟩) (
 av (xX s 156 wl k false) (aB s.P Tryz.f156) nu .norm ⟨(b::g::e::j::l::o::r::u::y::n::p::z::A::q::vE::vB::vE::zz),hH⟩))):=kR
theorem J4:av (xX s 156 wl k false) (aB s.P Tryz.f156) nu .norm ⟨[b,g,e,j,l,o,r,u,y,n,p,z,A,q,D,E,B,G,F,L,I,M,J,O,R,Q,N,Y,U,Z,W,X,T,t1,t2,t3,t4,t0,tf,te,tg,t6,t5,tb,t7,tc,t8,t9],h⟩ =
 bm (aS b h) h fun vF hF=>
 bm (aa s.P 168 vF 1) hF fun vH hG=>
 bm (ab s.P 23 vH hG) hG fun vI hJ=>
 bm (aS b hJ) hJ fun vG hI=>
 bm (aa s.P 168 vG 3) hI fun vJ hL=>
 bm (ab s.P 26 vJ hL) hL fun vL hN=>
 bm (aS b hN) hN fun vK hO=>
 bm (aa s.P 168 vK 0) hO fun vO hV=>
 bm (aa s.P 65 vO 2) hV fun vW hS=>
 bm (ab s.P 55 vW hS) hS fun vY hU=>
 bp (yC s k wl 156 false true j [vI,vL,vY] hU) fun vP hP=>
 bm (ar vP 0) hP fun vZ ha=>
 bm (ar vP 1) ha fun vc hK=>
 bm (aS b hK) hK fun vl hj=>
 bm (aa s.P 168 vl 3) hj fun vg hl=>
 bs (aj s.P wl 26 vg vZ hl) fun hZ=>
 bm (aS b hZ) hZ fun vX hi=>
 bm (aa s.P 168 vX 0) hi fun vR hp=>
 bm (aa s.P 65 vR 2) hp fun vq ht=>
 bs (aj s.P wl 55 vq vc ht) fun hx=>
 bm (aS b hx) hx fun v59 hy=>
 bm (aa s.P 168 v59 0) hy fun v61 hw=>
 bm (aa s.P 65 v61 2) hw fun v63 h64=>
 bm (ab s.P 55 v63 h64) h64 fun v65 h66=>
 bp (yC s k wl 156 false true (.fn (.func 110) [] []) [v65] h66) fun v67 h68=>
 some (v67,h68):=kR
theorem wA (cx:Cx) (s:St):av cx K wo .ret s=K .ret s:=by kernel_rfl
theorem wi (cx:Cx) (s:St):av cx K nu .ret s=K .ret s:=by kernel_rfl
-- names: aaY,Nb,J4,wA,wi
theorem adi:ak (xX s 157 wl k false) Tryz.f157 [b,g] h =
 bm (bf s.P 55 []) h fun v1 h2=>
 bm (aS b h2) h2 fun v3 h4=>
 bm (aa s.P 168 v3 0) h4 fun v5 h6=>
 bm (aa s.P 65 v5 0) h6 fun v7 h8=>
 bs (aj s.P wl 3 v7 g h8) fun h9=>
 bm (aS b h9) h9 fun v10 h11=>
 bm (aa s.P 168 v10 0) h11 fun v12 h13=>
 bm (aa s.P 65 v12 2) h13 fun vz ho=>
 bs (aj s.P wl 55 vz v1 ho) fun hD=>
 some (.tup [],hD):=kB
theorem aeL:evF Tryz.prog xM (k+1) wl 157 [b,g] h=ak (xX (xS k) 157 wl k false) Tryz.f157 [b,g] h:=by kernel_rfl
-- names: adi,
theorem adm:ak (xX s 158 wl k false) Tryz.f158 [b,g] h =
 bm (aS b h) h fun v1 h2=>
 bm (aa s.P 168 v1 2) h2 fun v3 h4=>
 bm (ab s.P 24 v3 h4) h4 fun v5 h6=>
 bm (aS b h6) h6 fun v7 h8=>
 bm (aa s.P 168 v7 0) h8 fun v9 hA=>
 bm (aa s.P 65 v9 1) hA fun vA hB=>
 bm (ab s.P 63 vA hB) hB fun vC hC=>
 bm (gL s.P 46 3 g) hC fun vD hD=>
 bp (yC s k wl 158 false true (.fn (.func 181) [] []) [v5,vC,vD] hD) fun vB hE=>
 bm (aS b hE) hE fun vE hH=>
 bm (aa s.P 168 vE 0) hH fun vF hF=>
 bm (aa s.P 65 vF 1) hF fun vH hG=>
 bs (aj s.P wl 63 vH vB hG) fun hc=>
 bm (gL s.P 46 3 g) hc fun vN hn=>
 bp (yC s k wl 158 false true (.fn (.func 164) [] []) [b,(.lit (.int .i64 2)),vN] hn) fun vh hs=>
 some (.tup [],hs):=kB
theorem ahU:evF Tryz.prog xM (k+1) wl 158 [b,g] h=ak (xX (xS k) 158 wl k false) Tryz.f158 [b,g] h:=by kernel_rfl
-- names: adm,
theorem adq:ak (xX s 159 wl k false) Tryz.f159 [b,g,e] h =
 bm (aS b h) h fun v1 h2=>
 bm (aa s.P 168 v1 3) h2 fun v3 h4=>
 bm (ab s.P 26 v3 h4) h4 fun v5 h6=>
 bp (yC s k wl 159 false true (.fn (.func 138) [] []) [v5,g,e] h6) fun v7 h8=>
 bm (ar v7 0) h8 fun v9 hA=>
 bm (ar v7 1) hA fun vA hB=>
 bm (aS b hB) hB fun vC hC=>
 bm (aa s.P 168 vC 3) hC fun vD hD=>
 bs (aj s.P wl 26 vD v9 hD) fun hu=>
 some (vA,hu):=kB
theorem ahx:evF Tryz.prog xM (k+1) wl 159 [b,g,e] h=ak (xX (xS k) 159 wl k false) Tryz.f159 [b,g,e] h:=by kernel_rfl
-- names: adq,
theorem acV:ak (xX s 160 wl k false) Tryz.f160 [b,g,e,j,l] h =
 bp (yC s k wl 160 false true (.fn (.func 104) [] []) [e,j,l] h) fun v1 h2=>
 bm (aS b h2) h2 fun v3 h4=>
 bm (aa s.P 168 v3 0) h4 fun v5 h6=>
 bm (aa s.P 65 v5 0) h6 fun v7 h8=>
 bs (aj s.P wl 3 v7 g h8) fun h9=>
 bm (aS b h9) h9 fun v10 h11=>
 bm (aa s.P 168 v10 0) h11 fun v12 h13=>
 bm (aa s.P 65 v12 2) h13 fun vz ho=>
 bs (aj s.P wl 55 vz v1 ho) fun hD=>
 some (.tup [],hD):=kB
theorem aeP:evF Tryz.prog xM (k+1) wl 160 [b,g,e,j,l] h=ak (xX (xS k) 160 wl k false) Tryz.f160 [b,g,e,j,l] h:=by kernel_rfl
-- names: acV,
theorem ab2:ak (xX s 164 wl k false) Tryz.f164 [b,g,e] h =
 stO h.length b (
 bm (aS b h) h fun v1 h2=>
 bm (aa s.P 168 v1 6) h2 fun v3 h4=>
 stO h.length v3 (
 bm (ab s.P 34 v3 h4) h4 fun v5 h6=>
 bm (aS b h6) h6 fun v7 h8=>
 bm (aa s.P 168 v7 4) h8 fun v9 hA=>
 bm (ab s.P 3 v9 hA) hA fun vA hB=>
 bm (bf s.P 52 [(0,g),(1,e),(2,vA)]) hB fun vC hC=>
 bp (di s.P wl 34 1 [(0,vC)] hC) fun vD hD=>
 bp (mg s.P wl 34 34 v5 vD hD) fun vB hE=>
 bm (aS b hE) hE fun vE hH=>
 bm (aa s.P 168 vE 6) hH fun vF hF=>
 bs (aj s.P wl 34 vF vB hF) fun hm=>
 some (.tup [],hm))):=kB
theorem afg:evF Tryz.prog xM (k+1) wl 164 [b,g,e] h=ak (xX (xS k) 164 wl k false) Tryz.f164 [b,g,e] h:=by kernel_rfl
-- names: ab2,
noncomputable def dx:Code:=al (an Tryz.f95) [1,0]
noncomputable def dj:List Fr:=[.seq (al (an Tryz.f95) [1,1])]
theorem aiE:ak (xX s 95 wl k false) Tryz.f95 [b,g,e,j,l] h =
 bp (aP b h) fun v1 h2=>
 bp (aP l h2) fun v3 h4=>
 bm (ab s.P 23 v1 h4) h4 fun v5 h6=>
 bp (yC s k wl 95 false true (.fn (.func 50) [] []) [v5] h6) fun v7 h8=>
 gd v7 (
 bp (br s.P 26 e h8) fun v9 hA=>
 bm (ab s.P 23 v1 hA) hA fun vA hB=>
 bp (yC s k wl 95 false true (.fn (.func 103) [] []) [vA] hB) fun vC hC=>
 bm (au s.P .eql 3 v9 vC) hC fun vD hD=>
 yO s k wl 95 Tryz.f95 dx 8 h4.length ([],[]) dj ⟨[b,g,e,j,l,v1,uu,uu,uu,v3,(.lit (.bool false)),v5,v7,(.lit (.bool true)),e,v9,vA,vC,vD,uu,uu,uu,uu,uu,uu,uu,uu,uu,uu,uu,uu,uu,uu,uu,uu,uu,uu,uu,uu,uu,uu,uu,uu,uu,uu,uu,uu,uu,uu,uu],hD⟩) (
 yO s k wl 95 Tryz.f95 dx 8 h4.length ([],[]) dj ⟨[b,g,e,j,l,v1,uu,uu,uu,v3,(.lit (.bool false)),v5,v7,(.lit (.bool false)),uu,uu,uu,uu,uu,uu,uu,uu,uu,uu,uu,uu,uu,uu,uu,uu,uu,uu,uu,uu,uu,uu,uu,uu,uu,uu,uu,uu,uu,uu,uu,uu,uu,uu,uu,uu],h8⟩) (
 yO s k wl 95 Tryz.f95 dx 4 h4.length ([],[]) dj ⟨[b,g,e,j,l,v1,uu,uu,uu,v3,(.lit (.bool false)),v5,v7,v7,uu,uu,uu,uu,uu,uu,uu,uu,uu,uu,uu,uu,uu,uu,uu,uu,uu,uu,uu,uu,uu,uu,uu,uu,uu,uu,uu,uu,uu,uu,uu,uu,uu,uu,uu,uu],h8⟩):=kB
theorem aiY:evF Tryz.prog xM (k+1) wl 95 [b,g,e,j,l] h=ak (xX (xS k) 95 wl k false) Tryz.f95 [b,g,e,j,l] h:=by kernel_rfl
theorem Su:yO s k wl 95 Tryz.f95 dx 8 m0 ac dj ⟨(b::g::e::j::l::o::r::u::y::n::p::z::A::q::D::E::B::G::F::L::I::M::J::zz),h⟩ =
 bm (aT q F (.lit (.bool false))) h fun vB hE=>
 gd vB (
 bp (yC s k wl 95 false true (.fn (.func 56) [] []) [g] hE) fun vE hH=>
 yO s k wl 95 Tryz.f95 dx 12 m0 ac dj ⟨(b::g::e::j::l::o::r::u::y::n::p::z::A::q::D::E::B::G::F::vB::(.lit (.bool true))::g::vE::zz),hH⟩) (
 yO s k wl 95 Tryz.f95 dx 12 m0 ac dj ⟨(b::g::e::j::l::o::r::u::y::n::p::z::A::q::D::E::B::G::F::vB::(.lit (.bool false))::uu::uu::zz),hE⟩) (
 yO s k wl 95 Tryz.f95 dx 11 m0 ac dj ⟨(b::g::e::j::l::o::r::u::y::n::p::z::A::q::D::E::B::G::F::vB::vB::uu::J::zz),hE⟩):=kG
theorem Tz:yO s k wl 95 Tryz.f95 dx 12 m0 ac dj ⟨(b::g::e::j::l::o::r::u::y::n::p::z::A::q::D::E::B::G::F::L::I::M::J::O::R::Q::N::zz),h⟩ =
 bm (aT I J (.lit (.bool false))) h fun vF hF=>
 gd vF (
 bm (au s.P .geq 3 j (.lit (.int .i64 0))) hF fun vH hG=>
 yO s k wl 95 Tryz.f95 dx 16 m0 ac dj ⟨(b::g::e::j::l::o::r::u::y::n::p::z::A::q::D::E::B::G::F::L::I::M::J::vF::(.lit (.bool true))::j::vH::zz),hG⟩) (
 yO s k wl 95 Tryz.f95 dx 16 m0 ac dj ⟨(b::g::e::j::l::o::r::u::y::n::p::z::A::q::D::E::B::G::F::L::I::M::J::vF::(.lit (.bool false))::uu::uu::zz),hF⟩) (
 yO s k wl 95 Tryz.f95 dx 15 m0 ac dj ⟨(b::g::e::j::l::o::r::u::y::n::p::z::A::q::D::E::B::G::F::L::I::M::J::vF::vF::uu::N::zz),hF⟩):=kG
theorem S2:yO s k wl 95 Tryz.f95 dx 16 m0 ac dj ⟨(b::g::e::j::l::o::r::u::y::n::p::z::A::q::D::E::B::G::F::L::I::M::J::O::R::Q::N::Y::U::Z::W::X::T::zz),h⟩ =
 bm (aT R N (.lit (.bool false))) h fun vI hJ=>
 gd vI (
 bm (aa s.P 23 o 0) hJ fun vG hI=>
 bm (ab s.P 3 vG hI) hI fun vJ hL=>
 bm (au s.P .lss 3 j vJ) hL fun vL hN=>
 yO s k wl 95 Tryz.f95 dx 22 m0 ac dj ⟨(b::g::e::j::l::o::r::u::y::n::p::z::A::q::D::E::B::G::F::L::I::M::J::O::R::Q::N::vI::(.lit (.bool true))::j::vG::vJ::vL::zz),hN⟩) (
 yO s k wl 95 Tryz.f95 dx 22 m0 ac dj ⟨(b::g::e::j::l::o::r::u::y::n::p::z::A::q::D::E::B::G::F::L::I::M::J::O::R::Q::N::vI::(.lit (.bool false))::uu::uu::uu::uu::zz),hJ⟩) (
 yO s k wl 95 Tryz.f95 dx 19 m0 ac dj ⟨(b::g::e::j::l::o::r::u::y::n::p::z::A::q::D::E::B::G::F::L::I::M::J::O::R::Q::N::vI::vI::uu::W::X::T::zz),hJ⟩):=kG
theorem Sy:yO s k wl 95 Tryz.f95 dx 22 m0 ac dj ⟨[b,g,e,j,l,o,r,u,y,n,p,z,A,q,D,E,B,G,F,L,I,M,J,O,R,Q,N,Y,U,Z,W,X,T,t1,t2,t3,t4,t0,tf,te,tg,t6,t5,tb,t7,tc,t8,t9,td,ta],h⟩ =
 bm (aT U T (.lit (.bool false))) h fun vK hO=>
 gd vK (
 bm (aa s.P 65 n 0) hO fun vO hV=>
 bm (ab s.P 3 vO hV) hV fun vW hS=>
 bm (au s.P .geq 3 vW (.lit (.int .i64 0))) hS fun vY hU=>
 yO s k wl 95 Tryz.f95 dx 27 m0 ac dj ⟨[b,g,e,j,l,o,r,u,y,n,p,z,A,q,D,E,B,G,F,L,I,M,J,O,R,Q,N,Y,U,Z,W,X,T,vK,(.lit (.bool true)),vO,vW,vY,tf,te,tg,t6,t5,tb,t7,tc,t8,t9,td,ta],hU⟩) (
 yO s k wl 95 Tryz.f95 dx 27 m0 ac dj ⟨[b,g,e,j,l,o,r,u,y,n,p,z,A,q,D,E,B,G,F,L,I,M,J,O,R,Q,N,Y,U,Z,W,X,T,vK,(.lit (.bool false)),uu,uu,uu,tf,te,tg,t6,t5,tb,t7,tc,t8,t9,td,ta],hO⟩) (
 yO s k wl 95 Tryz.f95 dx 25 m0 ac dj ⟨[b,g,e,j,l,o,r,u,y,n,p,z,A,q,D,E,B,G,F,L,I,M,J,O,R,Q,N,Y,U,Z,W,X,T,vK,vK,uu,t4,t0,tf,te,tg,t6,t5,tb,t7,tc,t8,t9,td,ta],hO⟩):=kG
theorem S3:yO s k wl 95 Tryz.f95 dx 27 m0 ac dj ⟨[b,g,e,j,l,o,r,u,y,n,p,z,A,q,D,E,B,G,F,L,I,M,J,O,R,Q,N,Y,U,Z,W,X,T,t1,t2,t3,t4,t0,tf,te,tg,t6,t5,tb,t7,tc,t8,t9,td,ta],h⟩ =
 bm (aT t2 t0 (.lit (.bool false))) h fun vP hP=>
 gd vP (
 bm (aa s.P 65 n 0) hP fun vZ ha=>
 bm (ab s.P 3 vZ ha) ha fun vc hK=>
 bm (au s.P .lss 3 vc (.lit (.int .i64 16))) hK fun vl hj=>
 yO s k wl 95 Tryz.f95 dx 32 m0 ac dj ⟨[b,g,e,j,l,o,r,u,y,n,p,z,A,q,D,E,B,G,F,L,I,M,J,O,R,Q,N,Y,U,Z,W,X,T,t1,t2,t3,t4,t0,vP,(.lit (.bool true)),vZ,vc,vl,tb,t7,tc,t8,t9,td,ta],hj⟩) (
 yO s k wl 95 Tryz.f95 dx 32 m0 ac dj ⟨[b,g,e,j,l,o,r,u,y,n,p,z,A,q,D,E,B,G,F,L,I,M,J,O,R,Q,N,Y,U,Z,W,X,T,t1,t2,t3,t4,t0,vP,(.lit (.bool false)),uu,uu,uu,tb,t7,tc,t8,t9,td,ta],hP⟩) (
 yO s k wl 95 Tryz.f95 dx 30 m0 ac dj ⟨[b,g,e,j,l,o,r,u,y,n,p,z,A,q,D,E,B,G,F,L,I,M,J,O,R,Q,N,Y,U,Z,W,X,T,t1,t2,t3,t4,t0,vP,vP,uu,t6,t5,tb,t7,tc,t8,t9,td,ta],hP⟩):=kG
theorem S6:yO s k wl 95 Tryz.f95 dx 32 m0 ac dj ⟨[b,g,e,j,l,o,r,u,y,n,p,z,A,q,D,E,B,G,F,L,I,M,J,O,R,Q,N,Y,U,Z,W,X,T,t1,t2,t3,t4,t0,tf,te,tg,t6,t5,tb,t7,tc,t8,t9,td,ta],h⟩ =
 bm (aT te t5 (.lit (.bool false))) h fun vg hl=>
 gd vg (
 bm (aa s.P 65 n 1) hl fun vs hM=>
 bm (ab s.P 63 vs hM) hM fun vo hk=>
 bp (yC s k wl 95 false true (.fn (.func 146) [] []) [g,vo] hk) fun vv hq=>
 yO s k wl 95 Tryz.f95 dx 38 m0 ac dj ⟨[b,g,e,j,l,o,r,u,y,n,p,z,A,q,D,E,B,G,F,L,I,M,J,O,R,Q,N,Y,U,Z,W,X,T,t1,t2,t3,t4,t0,tf,te,tg,t6,t5,vg,(.lit (.bool true)),g,vs,vo,vv,ta],hq⟩) (
 yO s k wl 95 Tryz.f95 dx 38 m0 ac dj ⟨[b,g,e,j,l,o,r,u,y,n,p,z,A,q,D,E,B,G,F,L,I,M,J,O,R,Q,N,Y,U,Z,W,X,T,t1,t2,t3,t4,t0,tf,te,tg,t6,t5,vg,(.lit (.bool false)),uu,uu,uu,uu,ta],hl⟩) (
 yO s k wl 95 Tryz.f95 dx 35 m0 ac dj ⟨[b,g,e,j,l,o,r,u,y,n,p,z,A,q,D,E,B,G,F,L,I,M,J,O,R,Q,N,Y,U,Z,W,X,T,t1,t2,t3,t4,t0,tf,te,tg,t6,t5,vg,vg,uu,t8,t9,td,ta],hl⟩):=kG
theorem TN:yO s k wl 95 Tryz.f95 dx 38 m0 ac dj ⟨[b,g,e,j,l,o,r,u,y,n,p,z,A,q,D,E,B,G,F,L,I,M,J,O,R,Q,N,Y,U,Z,W,X,T,t1,t2,t3,t4,t0,tf,te,tg,t6,t5,tb,t7,tc,t8,t9,td,ta],h⟩ =
 bm (aT t7 td (.lit (.bool false))) h fun vy hx=>
 some (vy,hx):=kG
theorem Ay (cx:Cx) (s:St):av cx K dj .ret s=K .ret s:=by kernel_rfl
-- names: aiE,Su,Tz,S2,Sy,S3,S6,TN,Ay
end
end Go.Ab
set_option maxRecDepth 100000
set_option linter.unusedVariables false
namespace Go.Ab
open Go.Proofs
section
variable (s:Sys) (k wl:Nat) (m0:Nat) (ac:List Nat×List Nat) (c d e o q j g u f y A z B F D E v G I L J N M O R T U W X Q Y Z t2 t1 t0 t3 t4 t5 tb tc t9 ta t7 t6 td te tf tg th ti tj tk tl tm tn tp tq tr ts t8:V) (h:Hp) (K:Out→St→Option (V×Hp)) (rd:Bool) (n n0:Nat) (zz:List V)
noncomputable def Ei:Code:=al (an Tryz.f17) [1,1,1,1,0,1,0,0]
noncomputable def Ht:List Fr:=[.block 0,.seq (al (an Tryz.f17) [1,1,1,1,1])]
theorem ab9:ak (xX s 17 wl k false) Tryz.f17 [c,d] h =
 bp (aP c h) fun v1 h2=>
 bp (aw s.P 30 h2) fun v3 h4=>
 bp (some (.own h4.length 0 0,h4++[.rows 0 [] 0 true])) fun v5 h6=>
 bm (ab s.P 30 v1 h6) h6 fun v7 h8=>
 bp (yC s k wl 17 false true (.fn (.func 41) [] []) [v7] h8) fun v9 hA=>
 bp (aw s.P 30 hA) fun vA hB=>
 bs (aj s.P wl 30 vA v9 hB) fun h13=>
 bm (ab s.P 30 v1 h13) h13 fun vz ho=>
 bp (yC s k wl 17 false true (.fn (.func 20) [] []) [vz] ho) fun vr hu=>
 bm (vUn .not vr) hu fun vn hr=>
 cnd vn (
 bm (ab s.P 30 vA hr) hr fun vd hQ=>
 bs (aj s.P wl 30 v3 vd hQ) fun hF=>
 bp (some (.own hF.length 0 0,hF++[.rows 0 [] 0 true])) fun vH hG=>
 eo [ab s.P 30 v3 hG,some vH] hG) (
 bp (some (.own hr.length 0 0,hr++[.rows 0 [] 0 true])) fun vI hJ=>
 bp (br s.P 31 d hJ) fun vG hI=>
 yI s k wl 17 Tryz.f17 Ei hI.length Ht k ⟨[(V.kill hI.length c),(V.kill hI.length d),(V.kill hI.length v1),(V.kill hI.length uu),(V.kill hI.length v3),(V.kill hI.length v5),(V.kill hI.length vA),(V.kill hI.length vI),(V.kill hI.length uu),(V.kill hI.length uu),(V.kill hI.length v7),(V.kill hI.length v9),(V.kill hI.length vz),(V.kill hI.length vr),(V.kill hI.length vn),(V.kill hI.length uu),(V.kill hI.length d),(V.kill hI.length vG),(.lit (.int .i64 0)),.junk,.junk,.junk,.junk,.junk,.junk,.junk,.junk,.junk,.junk,.junk,.junk,.junk,.junk,.junk,.junk,(V.kill hI.length uu),(V.kill hI.length uu)],cg hI.length hI⟩):=kB
theorem adX:evF Tryz.prog xM (k+1) wl 17 [c,d] h=ak (xX (xS k) 17 wl k false) Tryz.f17 [c,d] h:=by kernel_rfl
theorem YW (P:Program):aB P Tryz.f17 .ret ⟨[c,d,e,o,q,j,g,u,f,y,A,z,B,F,D,E,v,G,I,L,J,N,M,O,R,T,U,W,X,Q,Y,Z,t2,t1,t0,t3,t4],h⟩=eo [ab P 30 q h,some j] h:=by kernel_rfl
theorem TG:itX (xX s 17 wl k rd) Ei n0 K (n+1) ⟨[c,d,e,o,q,j,g,u,f,y,A,z,B,F,D,E,v,G,I,L,J,N,M,O,R,T,U,W,X,Q,Y,Z,t2,t1,t0,t3,t4],h⟩ =
 bm (au s.P .lss 3 I G) h fun vJ hL=>
 cnd vJ (
 bm (am s.P 31 v I hL) hL fun vL hN=>
 bm (ab s.P 48 vL hN) hN fun vK hO=>
 bp (aw s.P 48 hO) fun vO hV=>
 bs (aj s.P wl 48 vO vK hV) fun hT=>
 bm (ab s.P 48 vO hT) hT fun vT hb=>
 bm (aa s.P 30 e 0) hb fun vQ hd=>
 bm (aa s.P 23 vQ 0) hd fun vm hf=>
 bm (ab s.P 3 vm hf) hf fun vi hX=>
 bm (aa s.P 30 e 4) hX fun va he=>
 bm (ab s.P 28 va he) he fun vb hg=>
 bp (br s.P 28 vb hg) fun vU hZ=>
 bp (cI (xX s 17 wl k rd) false true (.fn (.func 42) [] []) [vT,vi,vU] hZ) fun vX hi=>
 cnd vX (
 bm (ab s.P 48 vO hi) hi fun vR hp=>
 bp (cI (xX s 17 wl k rd) false true (.fn (.func 43) [] []) [g,vR] hp) fun vq ht=>
 bp (mg s.P wl 34 34 u vq ht) fun vt hz=>
 bm (au s.P .add 3 I (.lit (.int .i64 1))) hz fun v60 h61=>
 itX (xX s 17 wl k rd) Ei n0 K n ⟨[(V.kill n0 c),(V.kill n0 d),(V.kill n0 e),(V.kill n0 o),(V.kill n0 q),(V.kill n0 j),(V.kill n0 g),(V.kill n0 vt),(V.kill n0 f),(V.kill n0 vO),(V.kill n0 A),(V.kill n0 z),(V.kill n0 B),(V.kill n0 F),(V.kill n0 D),(V.kill n0 E),(V.kill n0 v),(V.kill n0 G),(V.kill n0 v60),.junk,.junk,.junk,.junk,.junk,.junk,.junk,.junk,.junk,.junk,.junk,.junk,.junk,.junk,.junk,.junk,(V.kill n0 t3),(V.kill n0 t4)],cg n0 h61⟩) (
 bm (au s.P .add 3 I (.lit (.int .i64 1))) hi fun vx h63=>
 itX (xX s 17 wl k rd) Ei n0 K n ⟨[(V.kill n0 c),(V.kill n0 d),(V.kill n0 e),(V.kill n0 o),(V.kill n0 q),(V.kill n0 j),(V.kill n0 g),(V.kill n0 u),(V.kill n0 f),(V.kill n0 vO),(V.kill n0 A),(V.kill n0 z),(V.kill n0 B),(V.kill n0 F),(V.kill n0 D),(V.kill n0 E),(V.kill n0 v),(V.kill n0 G),(V.kill n0 vx),.junk,.junk,.junk,.junk,.junk,.junk,.junk,.junk,.junk,.junk,.junk,.junk,.junk,.junk,.junk,.junk,(V.kill n0 t3),(V.kill n0 t4)],cg n0 h63⟩)) (
 K (.exit 0) ⟨[(V.kill n0 c),(V.kill n0 d),(V.kill n0 e),(V.kill n0 o),(V.kill n0 q),(V.kill n0 j),(V.kill n0 g),(V.kill n0 u),(V.kill n0 f),(V.kill n0 y),(V.kill n0 A),(V.kill n0 z),(V.kill n0 B),(V.kill n0 F),(V.kill n0 D),(V.kill n0 E),(V.kill n0 v),(V.kill n0 G),.junk,.junk,.junk,.junk,.junk,.junk,.junk,.junk,.junk,.junk,.junk,.junk,.junk,.junk,.junk,.junk,.junk,(V.kill n0 t3),(V.kill n0 t4)],cg n0 hL⟩):=kI
theorem Ee:av (xX s 17 wl k false) (aB s.P Tryz.f17) Ht (.exit 0) ⟨[c,d,e,o,q,j,g,u,f,y,A,z,B,F,D,E,v,G,I,L,J,N,M,O,R,T,U,W,X,Q,Y,Z,t2,t1,t0,t3,t4],h⟩ =
 bm (ab s.P 30 g h) h fun vw h65=>
 bs (aj s.P wl 30 q vw h65) fun h66=>
 eo [ab s.P 30 q h66,some u] h66:=kR
theorem kS (cx:Cx) (s:St):av cx K Ht .ret s=K .ret s:=by kernel_rfl
-- names: ab9,YW,TG,Ee,kS
noncomputable def pS:Code:=al (an Tryz.f20) [1,0,0]
noncomputable def oG:List Fr:=[.seq (al (an Tryz.f20) [1,0,1]),.seq (al (an Tryz.f20) [1,1])]
noncomputable def S1:Code:=al (an Tryz.f20) [1,1,0,1,0]
noncomputable def Np:Code:=al (an Tryz.f20) [1,1,0,1,0,0]
noncomputable def Nt:Code:=al (an Tryz.f20) [1,1,0,1,0,1]
noncomputable def G5:List Fr:=[.block 0,.seq (al (an Tryz.f20) [1,1,1])]
theorem ov:S1= .rangeFunc (.tmp 23) #[24] Np Nt:=by kernel_rfl
theorem ZQ:ak (xX s 20 wl k false) Tryz.f20 [c] h =
 bp (aP c h) fun v1 h2=>
 bp (aw s.P 4 h2) fun v3 h4=>
 bm (aa s.P 30 v1 0) h4 fun v5 h6=>
 bm (ab s.P 23 v5 h6) h6 fun v7 h8=>
 bp (yC s k wl 20 false true (.fn (.func 50) [] []) [v7] h8) fun v9 hA=>
 bm (vUn .not v9) hA fun vA hB=>
 gd vA (
 yO s k wl 20 Tryz.f20 pS 12 h4.length ([],[]) oG ⟨[c,v1,v3,v5,v7,v9,vA,(.lit (.bool true)),uu,uu,uu,uu,uu,uu,uu,uu,uu,uu,uu,uu,uu,uu,uu,uu,uu,uu,uu,uu,uu,uu],hB⟩) (
 bm (aa s.P 30 v1 3) hB fun vC hC=>
 bm (ab s.P 27 vC hC) hC fun vD hD=>
 bp (br s.P 27 vD hD) fun vB hE=>
 bm (aa s.P 30 v1 0) hE fun vE hH=>
 bm (aa s.P 23 vE 0) hH fun vF hF=>
 bm (ab s.P 3 vF hF) hF fun vH hG=>
 bm (au s.P .neq 3 vB vH) hG fun vI hJ=>
 yO s k wl 20 Tryz.f20 pS 12 h4.length ([],[]) oG ⟨[c,v1,v3,v5,v7,v9,vA,(.lit (.bool false)),vC,vD,vB,vE,vF,vH,vI,uu,uu,uu,uu,uu,uu,uu,uu,uu,uu,uu,uu,uu,uu,uu],hJ⟩) (
 yO s k wl 20 Tryz.f20 pS 6 h4.length ([],[]) oG ⟨[c,v1,v3,v5,v7,v9,vA,vA,uu,uu,uu,uu,uu,uu,uu,uu,uu,uu,uu,uu,uu,uu,uu,uu,uu,uu,uu,uu,uu,uu],hB⟩):=kB
theorem adN:evF Tryz.prog xM (k+1) wl 20 [c] h=ak (xX (xS k) 20 wl k false) Tryz.f20 [c] h:=by kernel_rfl
theorem YZ (P:Program):aB P Tryz.f20 .ret ⟨[c,d,e,o,q,j,g,u,f,y,A,z,B,F,D,E,v,G,I,L,J,N,M,O,R,T,U,W,X,Q],h⟩=eo [ab P 4 e h] h:=by kernel_rfl
theorem ER:yO s k wl 20 Tryz.f20 pS 12 m0 ac oG ⟨(c::d::e::o::q::j::g::u::f::y::A::z::B::F::D::E::v::G::I::L::J::zz),h⟩ =
 bm (aT u (.lit (.bool true)) D) h fun vG hI=>
 gd vG (
 yO s k wl 20 Tryz.f20 pS 18 m0 ac oG ⟨(c::d::e::o::q::j::g::u::f::y::A::z::B::F::D::vG::(.lit (.bool true))::uu::uu::uu::uu::zz),hI⟩) (
 bm (aa s.P 30 d 4) hI fun vJ hL=>
 bm (ab s.P 28 vJ hL) hL fun vL hN=>
 bp (br s.P 28 vL hN) fun vK hO=>
 bm (au s.P .gtr 3 vK (.lit (.int .i64 3))) hO fun vO hV=>
 yO s k wl 20 Tryz.f20 pS 18 m0 ac oG ⟨(c::d::e::o::q::j::g::u::f::y::A::z::B::F::D::vG::(.lit (.bool false))::vJ::vL::vK::vO::zz),hV⟩) (
 yO s k wl 20 Tryz.f20 pS 15 m0 ac oG ⟨(c::d::e::o::q::j::g::u::f::y::A::z::B::F::D::vG::vG::uu::I::L::J::zz),hI⟩):=kG
theorem Ev:yO s k wl 20 Tryz.f20 pS 18 m0 ac oG ⟨[c,d,e,o,q,j,g,u,f,y,A,z,B,F,D,E,v,G,I,L,J,N,M,O,R,T,U,W,X,Q],h⟩ =
 bm (aT v (.lit (.bool true)) J) h fun vW hS=>
 cnd vW (
 bs (aj s.P wl 4 e (.lit (.bool false)) hS) fun hb=>
 eo [ab s.P 4 e hb] hb) (
 bm (ab s.P 30 d hS) hS fun vQ hd=>
 bp (yC s k wl 20 false true (.fn (.func 51) [] []) [vQ] hd) fun vm hf=>
 bd (xX s 20 wl k false) S1 none (av (xX s 20 wl k false) (aB s.P Tryz.f20) G5) ⟨[c,d,e,o,q,j,g,u,f,y,A,z,B,F,D,E,v,G,I,L,J,vW,vQ,vm,R,T,U,W,X,Q],hf⟩):=kG
theorem Di:av (xX s 20 wl k false) (aB s.P Tryz.f20) G5 .norm ⟨[c,d,e,o,q,j,g,u,f,y,A,z,B,F,D,E,v,G,I,L,J,N,M,O,R,T,U,W,X,Q],h⟩ =
 bm (aa s.P 30 d 4) h fun vi hX=>
 bm (ab s.P 28 vi hX) hX fun va he=>
 bp (yC s k wl 20 false true (.fn (.func 52) [] []) [va,(.fn (.func 53) [] [d])] he) fun vb hg=>
 bm (vUn .not vb) hg fun vU hZ=>
 bs (aj s.P wl 4 e vU hZ) fun hM=>
 eo [ab s.P 4 e hM] hM:=kR
theorem dW:av (xX s 20 wl k rd) K [.seq Nt] .norm ⟨(c::d::e::zz),h⟩ =
 bs (aj s.P wl 4 e (.lit (.bool false)) h) fun hi=>
 K .ret ⟨(c::d::e::zz),hi⟩:=kR
theorem dX:av (xX s 20 wl k rd) K [.seq Np] .norm ⟨(c::zz),h⟩ =
 K .norm ⟨(c::zz),h⟩:=kR
theorem kL (cx:Cx) (s:St):av cx K oG .ret s=K .ret s:=by kernel_rfl
theorem kX (cx:Cx) (s:St):av cx K G5 .ret s=K .ret s:=by kernel_rfl
-- names: ZQ,YZ,ER,Ev,Di,dW,dX,kL,kX
-- range over a function at [1,1,0,1,0]
theorem aiK:ak (xX s 24 wl k false) Tryz.f24 [c,d] h =
 bp (aP c h) fun v1 h2=>
 bp (aP d h2) fun v3 h4=>
 bp (aw s.P 30 h4) fun v5 h6=>
 bp (some (.own h6.length 0 0,h6++[.rows 0 [] 0 true])) fun v7 h8=>
 bm (ab s.P 30 v1 h8) h8 fun v9 hA=>
 bm (ab s.P 48 v3 hA) hA fun vA hB=>
 bp (aD s.P wl 31 1 [(0,vA)] hB) fun vC hC=>
 bp (yC s k wl 24 false true (.fn (.func 17) [] []) [v9,vC] hC) fun vD hD=>
 bm (ar vD 0) hD fun vB hE=>
 bm (ar vD 1) hE fun vE hH=>
 bs (aj s.P wl 30 v5 vB hH) fun hQ=>
 eo [ab s.P 30 v5 hQ,some vE] hQ:=kB
theorem aiO:evF Tryz.prog xM (k+1) wl 24 [c,d] h=ak (xX (xS k) 24 wl k false) Tryz.f24 [c,d] h:=by kernel_rfl
-- names: aiK,
noncomputable def GP:Code:=al (an Tryz.f25) [1,0,0]
noncomputable def DC:List Fr:=[.seq (al (an Tryz.f25) [1,0,1]),.seq (al (an Tryz.f25) [1,1])]
noncomputable def rj:Code:=al (an Tryz.f25) [1,1,0,1,0,0]
noncomputable def Io:List Fr:=[.block 0,.seq (al (an Tryz.f25) [1,1,1])]
noncomputable def HS:Code:=al (an Tryz.f25) [1,1,0,1,0,0,1,1,0,0,1,0]
noncomputable def Dj:List Fr:=[.seq (al (an Tryz.f25) [1,1,0,1,0,0,1,1,0,0,1,1]),.block 1,.seq (al (an Tryz.f25) [1,1,0,1,0,0,1,1,1])]
theorem agt:ak (xX s 25 wl k false) Tryz.f25 [c] h =
 bp (aP c h) fun v1 h2=>
 bm (ab s.P 30 v1 h2) h2 fun v3 h4=>
 bp (yC s k wl 25 false true (.fn (.func 20) [] []) [v3] h4) fun v5 h6=>
 bm (vUn .not v5) h6 fun v7 h8=>
 gd v7 (
 yO s k wl 25 Tryz.f25 GP 7 h2.length ([],[]) DC ⟨[c,v1,(.lit (.bool false)),uu,uu,v3,v5,v7,(.lit (.bool true)),uu,uu,uu,uu,uu,uu,uu,uu,uu,uu,uu,uu,uu,uu,uu,uu,uu,uu,uu,uu,uu,uu,uu,uu,uu,uu],h8⟩) (
 bm (aa s.P 30 v1 4) h8 fun v9 hA=>
 bm (ab s.P 28 v9 hA) hA fun vA hB=>
 bp (yC s k wl 25 false true (.fn (.func 52) [] []) [vA,(.fn (.func 28) [] [])] hB) fun vC hC=>
 yO s k wl 25 Tryz.f25 GP 7 h2.length ([],[]) DC ⟨[c,v1,(.lit (.bool false)),uu,uu,v3,v5,v7,(.lit (.bool false)),v9,vA,vC,uu,uu,uu,uu,uu,uu,uu,uu,uu,uu,uu,uu,uu,uu,uu,uu,uu,uu,uu,uu,uu,uu,uu],hC⟩) (
 yO s k wl 25 Tryz.f25 GP 5 h2.length ([],[]) DC ⟨[c,v1,(.lit (.bool false)),uu,uu,v3,v5,v7,v7,uu,uu,uu,uu,uu,uu,uu,uu,uu,uu,uu,uu,uu,uu,uu,uu,uu,uu,uu,uu,uu,uu,uu,uu,uu,uu],h8⟩):=kB
theorem aiq:evF Tryz.prog xM (k+1) wl 25 [c] h=ak (xX (xS k) 25 wl k false) Tryz.f25 [c] h:=by kernel_rfl
theorem aff (P:Program):aB P Tryz.f25 .ret ⟨[c,d,e,o,q,j,g,u,f,y,A,z,B,F,D,E,v,G,I,L,J,N,M,O,R,T,U,W,X,Q,Y,Z,t2,t1,t0],h⟩=some (e,h):=by kernel_rfl
theorem K2:yO s k wl 25 Tryz.f25 GP 7 m0 ac DC ⟨[c,d,e,o,q,j,g,u,f,y,A,z,B,F,D,E,v,G,I,L,J,N,M,O,R,T,U,W,X,Q,Y,Z,t2,t1,t0],h⟩ =
 bm (aT f (.lit (.bool true)) z) h fun vD hD=>
 cnd vD (
 some ((.lit (.bool false)),hD)) (
 bm (aa s.P 30 d 3) hD fun vB hE=>
 bm (ab s.P 27 vB hE) hE fun vE hH=>
 bp (br s.P 27 vE hH) fun vF hF=>
 yI s k wl 25 Tryz.f25 rj hF.length Io k ⟨[(V.kill hF.length c),(V.kill hF.length d),(V.kill hF.length e),(V.kill hF.length o),(V.kill hF.length q),(V.kill hF.length j),(V.kill hF.length g),(V.kill hF.length u),(V.kill hF.length f),(V.kill hF.length y),(V.kill hF.length A),(V.kill hF.length z),(V.kill hF.length vD),(V.kill hF.length vB),(V.kill hF.length vE),(V.kill hF.length vF),(.lit (.int .i64 0)),.junk,.junk,.junk,.junk,.junk,.junk,.junk,.junk,.junk,.junk,.junk,.junk,.junk,.junk,.junk,.junk,.junk,.junk],cg hF.length hF⟩):=kG
theorem Tn:itX (xX s 25 wl k rd) rj n0 K (n+1) ⟨[c,d,e,o,q,j,g,u,f,y,A,z,B,F,D,E,v,G,I,L,J,N,M,O,R,T,U,W,X,Q,Y,Z,t2,t1,t0],h⟩ =
 bm (au s.P .lss 3 v E) h fun vH hG=>
 cnd vH (
 bm (am s.P 27 D v hG) hG fun vI hJ=>
 bm (ab s.P 65 vI hJ) hJ fun vG hI=>
 bp (aw s.P 65 hI) fun vJ hL=>
 bs (aj s.P wl 65 vJ vG hL) fun hY=>
 bm (ab s.P 65 vJ hY) hY fun ve hh=>
 bp (cI (xX s 25 wl k rd) false true (.fn (.func 31) [] []) [ve] hh) fun vf hW=>
 bm (vUn .not vf) hW fun vM hT=>
 gd vM (
 fJ (xX s 25 wl k rd) HS 12 hY.length ([],[]) (av (xX s 25 wl k rd) (dM (xX s 25 wl k rd) rj n0 K n) Dj) ⟨[c,d,e,v,vJ,j,g,u,f,y,A,z,B,F,D,E,v,vH,v,vI,vG,ve,vf,vM,(.lit (.bool true)),uu,uu,uu,uu,uu,uu,uu,uu,t1,t0],hT⟩) (
 bm (aa s.P 30 d 2) hT fun vT hb=>
 stO hY.length vT (
 bm (ab s.P 26 vT hb) hb fun vQ hd=>
 bm (aa s.P 30 d 0) hd fun vm hf=>
 bm (ab s.P 23 vm hf) hf fun vi hX=>
 bp (cI (xX s 25 wl k rd) true true (.fn (.func 32) [] []) [vi,v] hX) fun va he=>
 bp (cI (xX s 25 wl k rd) false true (.fn (.func 27) [] []) [vQ,va] he) fun vb hg=>
 bm (au s.P .neq 46 vb (.lit (.int .u64 0))) hg fun vU hZ=>
 fJ (xX s 25 wl k rd) HS 12 hY.length ([],[]) (av (xX s 25 wl k rd) (dM (xX s 25 wl k rd) rj n0 K n) Dj) ⟨[c,d,e,v,vJ,j,g,u,f,y,A,z,B,F,D,E,v,vH,v,vI,vG,ve,vf,vM,(.lit (.bool false)),vT,vQ,vm,vi,v,va,vb,vU,t1,t0],hZ⟩)) (
 fJ (xX s 25 wl k rd) HS 5 hY.length ([],[]) (av (xX s 25 wl k rd) (dM (xX s 25 wl k rd) rj n0 K n) Dj) ⟨[c,d,e,v,vJ,j,g,u,f,y,A,z,B,F,D,E,v,vH,v,vI,vG,ve,vf,vM,vM,uu,U,W,X,Q,Y,Z,t2,t1,t0],hT⟩)) (
 K (.exit 0) ⟨[(V.kill n0 c),(V.kill n0 d),(V.kill n0 e),(V.kill n0 o),(V.kill n0 q),(V.kill n0 j),(V.kill n0 g),(V.kill n0 u),(V.kill n0 f),(V.kill n0 y),(V.kill n0 A),(V.kill n0 z),(V.kill n0 B),(V.kill n0 F),(V.kill n0 D),(V.kill n0 E),.junk,.junk,.junk,.junk,.junk,.junk,.junk,.junk,.junk,.junk,.junk,.junk,.junk,.junk,.junk,.junk,.junk,.junk,.junk],cg n0 hG⟩):=kI
theorem LZ:av (xX s 25 wl k false) (aB s.P Tryz.f25) Io (.exit 0) ⟨[c,d,e,o,q,j,g,u,f,y,A,z,B,F,D,E,v,G,I,L,J,N,M,O,R,T,U,W,X,Q,Y,Z,t2,t1,t0],h⟩ =
 some ((.lit (.bool true)),h):=kR
theorem KB:fJ (xX s 25 wl k rd) HS 12 m0 ac (av (xX s 25 wl k rd) (dM (xX s 25 wl k rd) rj n0 K n) Dj) ⟨[c,d,e,o,q,j,g,u,f,y,A,z,B,F,D,E,v,G,I,L,J,N,M,O,R,T,U,W,X,Q,Y,Z,t2,t1,t0],h⟩ =
 bm (aT R (.lit (.bool true)) t2) h fun vX hi=>
 cnd vX (
 K .ret ⟨[c,d,(.lit (.bool false)),o,q,j,g,u,f,y,A,z,B,F,D,E,v,G,I,L,J,N,M,O,R,T,U,W,X,Q,Y,Z,t2,vX,t0],hi⟩) (
 bm (au s.P .add 3 v (.lit (.int .i64 1))) hi fun vR hp=>
 itX (xX s 25 wl k rd) rj n0 K n ⟨[(V.kill n0 c),(V.kill n0 d),(V.kill n0 e),(V.kill n0 o),(V.kill n0 q),(V.kill n0 j),(V.kill n0 g),(V.kill n0 u),(V.kill n0 f),(V.kill n0 y),(V.kill n0 A),(V.kill n0 z),(V.kill n0 B),(V.kill n0 F),(V.kill n0 D),(V.kill n0 E),(V.kill n0 vR),.junk,.junk,.junk,.junk,.junk,.junk,.junk,.junk,.junk,.junk,.junk,.junk,.junk,.junk,.junk,.junk,.junk,.junk],cg n0 hp⟩):=kG
theorem pi (cx:Cx) (s:St):av cx K DC .ret s=K .ret s:=by kernel_rfl
theorem pu (cx:Cx) (s:St):av cx K Io .ret s=K .ret s:=by kernel_rfl
theorem pj (cx:Cx) (s:St):av cx K Dj .ret s=K .ret s:=by kernel_rfl
-- names: agt,aff,K2,Tn,LZ,KB,pi,pu,pj
noncomputable def HX:Code:=al (an Tryz.f26) [1,1,1,0,1,0,0]
noncomputable def Hy:List Fr:=[.block 0,.seq (al (an Tryz.f26) [1,1,1,1])]
theorem aeU:ak (xX s 26 wl k false) Tryz.f26 [c] h =
 bp (aP c h) fun v1 h2=>
 bm (ab s.P 30 v1 h2) h2 fun v3 h4=>
 bp (yC s k wl 26 false true (.fn (.func 20) [] []) [v3] h4) fun v5 h6=>
 bm (vUn .not v5) h6 fun v7 h8=>
 cnd v7 (
 some ((.lit (.int .i64 0)),h8)) (
 bm (aa s.P 30 v1 0) h8 fun v9 hA=>
 bm (ab s.P 23 v9 hA) hA fun vA hB=>
 bm (aa s.P 30 v1 2) hB fun vC hC=>
 bm (ab s.P 26 vC hC) hC fun vD hD=>
 bp (yC s k wl 26 false true (.fn (.func 64) [] []) [vA,vD] hD) fun vB hE=>
 bm (aa s.P 30 v1 0) hE fun vE hH=>
 bm (aa s.P 23 vE 0) hH fun vF hF=>
 bm (ab s.P 3 vF hF) hF fun vH hG=>
 yI s k wl 26 Tryz.f26 HX hG.length Hy k ⟨[(V.kill hG.length c),(V.kill hG.length v1),(.lit (.int .i64 0)),(V.kill hG.length vB),(V.kill hG.length uu),(V.kill hG.length uu),(V.kill hG.length uu),(V.kill hG.length v3),(V.kill hG.length v5),(V.kill hG.length v7),(V.kill hG.length v9),(V.kill hG.length vA),(V.kill hG.length vC),(V.kill hG.length vD),(V.kill hG.length vB),(V.kill hG.length vE),(V.kill hG.length vF),(V.kill hG.length vH),(.lit (.int .i64 0)),.junk,.junk,.junk,.junk,.junk,.junk,.junk,.junk,.junk,.junk,.junk,.junk,.junk,.junk,.junk,.junk,(V.kill hG.length uu)],cg hG.length hG⟩):=kB
theorem ain:evF Tryz.prog xM (k+1) wl 26 [c] h=ak (xX (xS k) 26 wl k false) Tryz.f26 [c] h:=by kernel_rfl
theorem afr (P:Program):aB P Tryz.f26 .ret ⟨[c,d,e,o,q,j,g,u,f,y,A,z,B,F,D,E,v,G,I,L,J,N,M,O,R,T,U,W,X,Q,Y,Z,t2,t1,t0,t3],h⟩=some (e,h):=by kernel_rfl
theorem SH:itX (xX s 26 wl k rd) HX n0 K (n+1) ⟨[c,d,e,o,q,j,g,u,f,y,A,z,B,F,D,E,v,G,I,L,J,N,M,O,R,T,U,W,X,Q,Y,Z,t2,t1,t0,t3],h⟩ =
 bm (au s.P .lss 3 I G) h fun vI hJ=>
 cnd vI (
 bm (aa s.P 30 d 0) hJ fun vG hI=>
 bm (ab s.P 23 vG hI) hI fun vJ hL=>
 bm (aa s.P 30 d 2) hL fun vL hN=>
 bm (ab s.P 26 vL hN) hN fun vK hO=>
 bp (cI (xX s 26 wl k rd) false true (.fn (.func 65) [] []) [vJ,vK,I] hO) fun vO hV=>
 bm (ar vO 0) hV fun vW hS=>
 bm (ar vO 1) hS fun vY hU=>
 bp (br s.P 25 vW hU) fun vP hP=>
 bm (au s.P .add 3 o vP) hP fun vZ ha=>
 bm (au s.P .add 3 I (.lit (.int .i64 1))) ha fun vc hK=>
 itX (xX s 26 wl k rd) HX n0 K n ⟨[(V.kill n0 c),(V.kill n0 d),(V.kill n0 e),(V.kill n0 vZ),(V.kill n0 I),(V.kill n0 vW),(V.kill n0 vY),(V.kill n0 u),(V.kill n0 f),(V.kill n0 y),(V.kill n0 A),(V.kill n0 z),(V.kill n0 B),(V.kill n0 F),(V.kill n0 D),(V.kill n0 E),(V.kill n0 v),(V.kill n0 G),(V.kill n0 vc),.junk,.junk,.junk,.junk,.junk,.junk,.junk,.junk,.junk,.junk,.junk,.junk,.junk,.junk,.junk,.junk,(V.kill n0 t3)],cg n0 hK⟩) (
 K (.exit 0) ⟨[(V.kill n0 c),(V.kill n0 d),(V.kill n0 e),(V.kill n0 o),(V.kill n0 q),(V.kill n0 j),(V.kill n0 g),(V.kill n0 u),(V.kill n0 f),(V.kill n0 y),(V.kill n0 A),(V.kill n0 z),(V.kill n0 B),(V.kill n0 F),(V.kill n0 D),(V.kill n0 E),(V.kill n0 v),(V.kill n0 G),.junk,.junk,.junk,.junk,.junk,.junk,.junk,.junk,.junk,.junk,.junk,.junk,.junk,.junk,.junk,.junk,.junk,(V.kill n0 t3)],cg n0 hJ⟩):=kI
theorem Kx:av (xX s 26 wl k false) (aB s.P Tryz.f26) Hy (.exit 0) ⟨[c,d,e,o,q,j,g,u,f,y,A,z,B,F,D,E,v,G,I,L,J,N,M,O,R,T,U,W,X,Q,Y,Z,t2,t1,t0,t3],h⟩ =
 some (o,h):=kR
theorem oZ (cx:Cx) (s:St):av cx K Hy .ret s=K .ret s:=by kernel_rfl
-- names: aeU,afr,SH,Kx,oZ
noncomputable def G3:Code:=al (an Tryz.f41) [1,1,1,0,1,0,0]
noncomputable def Ir:List Fr:=[.block 0,.seq (al (an Tryz.f41) [1,1,1,1])]
noncomputable def Hv:Code:=al (an Tryz.f41) [1,1,1,1,0,1,0,0]
noncomputable def Hn:List Fr:=[.block 2,.seq (al (an Tryz.f41) [1,1,1,1,1])]
theorem Zb:ak (xX s 41 wl k false) Tryz.f41 [c] h =
 bp (aP c h) fun v1 h2=>
 bp (aw s.P 30 h2) fun v3 h4=>
 bm (aa s.P 30 v1 1) h4 fun v5 h6=>
 bm (ab s.P 24 v5 h6) h6 fun v7 h8=>
 bp (yC s k wl 41 true true (.fn (.func 58) [] []) [v7] h8) fun v9 hA=>
 bm (aa s.P 30 v1 2) hA fun vA hB=>
 stO h4.length vA (
 bm (ab s.P 26 vA hB) hB fun vC hC=>
 bp (yC s k wl 41 false true (.fn (.func 76) [] []) [vC] hC) fun vD hD=>
 bm (aa s.P 30 v1 1) hD fun vB hE=>
 bs (aj s.P wl 24 vB v9 hE) fun hr=>
 bm (aa s.P 30 v1 2) hr fun vd hQ=>
 bs (aj s.P wl 26 vd vD hQ) fun hF=>
 bm (aa s.P 30 v1 3) hF fun vH hG=>
 bm (ab s.P 27 vH hG) hG fun vI hJ=>
 bp (yC s k wl 41 true true (.fn (.func 77) [] []) [vI] hJ) fun vG hI=>
 bm (aa s.P 30 v1 4) hI fun vJ hL=>
 stO hF.length vJ (
 bm (ab s.P 28 vJ hL) hL fun vL hN=>
 bp (yC s k wl 41 false true (.fn (.func 78) [] []) [vL] hN) fun vK hO=>
 bm (aa s.P 30 v1 3) hO fun vO hV=>
 bs (aj s.P wl 27 vO vG hV) fun hT=>
 bm (aa s.P 30 v1 4) hT fun vT hb=>
 bs (aj s.P wl 28 vT vK hb) fun hU=>
 bm (aa s.P 30 v1 3) hU fun vP hP=>
 bm (ab s.P 27 vP hP) hP fun vZ ha=>
 bp (br s.P 27 vZ ha) fun vc hK=>
 yI s k wl 41 Tryz.f41 G3 hK.length Ir k ⟨[(V.kill hK.length c),(V.kill hK.length v1),(V.kill hK.length v3),(V.kill hK.length uu),(V.kill hK.length uu),(V.kill hK.length v5),(V.kill hK.length v7),(V.kill hK.length v9),(V.kill hK.length vA),(V.kill hK.length vC),(V.kill hK.length vD),(V.kill hK.length vB),(V.kill hK.length vd),(V.kill hK.length vH),(V.kill hK.length vI),(V.kill hK.length vG),(V.kill hK.length vJ),(V.kill hK.length vL),(V.kill hK.length vK),(V.kill hK.length vO),(V.kill hK.length vT),(V.kill hK.length vP),(V.kill hK.length vZ),(V.kill hK.length vc),(.lit (.int .i64 0)),.junk,.junk,.junk,.junk,.junk,.junk,.junk,.junk,.junk,.junk,.junk,.junk,.junk,.junk,.junk,(V.kill hK.length uu),(V.kill hK.length uu),(V.kill hK.length uu),(V.kill hK.length uu),(V.kill hK.length uu),(V.kill hK.length uu),(V.kill hK.length uu),(V.kill hK.length uu),(V.kill hK.length uu),(V.kill hK.length uu),(V.kill hK.length uu),(V.kill hK.length uu),(V.kill hK.length uu),(V.kill hK.length uu),(V.kill hK.length uu),(V.kill hK.length uu),(V.kill hK.length uu),(V.kill hK.length uu),(V.kill hK.length uu),(V.kill hK.length uu)],cg hK.length hK⟩)):=kB
theorem adP:evF Tryz.prog xM (k+1) wl 41 [c] h=ak (xX (xS k) 41 wl k false) Tryz.f41 [c] h:=by kernel_rfl
theorem aa1 (P:Program):aB P Tryz.f41 .ret ⟨[c,d,e,o,q,j,g,u,f,y,A,z,B,F,D,E,v,G,I,L,J,N,M,O,R,T,U,W,X,Q,Y,Z,t2,t1,t0,t3,t4,t5,tb,tc,t9,ta,t7,t6,td,te,tf,tg,th,ti,tj,tk,tl,tm,tn,tp,tq,tr,ts,t8],h⟩=eo [ab P 30 e h] h:=by kernel_rfl
theorem TL:itX (xX s 41 wl k rd) G3 n0 K (n+1) ⟨[c,d,e,o,q,j,g,u,f,y,A,z,B,F,D,E,v,G,I,L,J,N,M,O,R,T,U,W,X,Q,Y,Z,t2,t1,t0,t3,t4,t5,tb,tc,t9,ta,t7,t6,td,te,tf,tg,th,ti,tj,tk,tl,tm,tn,tp,tq,tr,ts,t8],h⟩ =
 bm (au s.P .lss 3 R O) h fun vl hj=>
 cnd vl (
 bm (aa s.P 30 d 3) hj fun vg hl=>
 stO hj.length vg (
 bm (ab s.P 27 vg hl) hl fun vs hM=>
 bm (aa s.P 30 d 3) hM fun vo hk=>
 bm (ab s.P 27 vo hk) hk fun vv hq=>
 bm (am s.P 27 vv R hq) hq fun vy hx=>
 bm (aa s.P 65 vy 1) hx fun v59 hy=>
 bm (ab s.P 63 v59 hy) hy fun v61 hw=>
 bp (cI (xX s 41 wl k rd) true true (.fn (.func 79) [] []) [v61] hw) fun v63 h64=>
 bm (am s.P 27 vs R h64) h64 fun v65 h66=>
 bm (aa s.P 65 v65 1) h66 fun v67 h68=>
 bs (aj s.P wl 63 v67 v63 h68) fun h69=>
 bm (au s.P .add 3 R (.lit (.int .i64 1))) h69 fun v70 h71=>
 itX (xX s 41 wl k rd) G3 n0 K n ⟨[(V.kill n0 c),(V.kill n0 d),(V.kill n0 e),(V.kill n0 R),(V.kill n0 q),(V.kill n0 j),(V.kill n0 g),(V.kill n0 u),(V.kill n0 f),(V.kill n0 y),(V.kill n0 A),(V.kill n0 z),(V.kill n0 B),(V.kill n0 F),(V.kill n0 D),(V.kill n0 E),(V.kill n0 v),(V.kill n0 G),(V.kill n0 I),(V.kill n0 L),(V.kill n0 J),(V.kill n0 N),(V.kill n0 M),(V.kill n0 O),(V.kill n0 v70),.junk,.junk,.junk,.junk,.junk,.junk,.junk,.junk,.junk,.junk,.junk,.junk,.junk,.junk,.junk,(V.kill n0 t9),(V.kill n0 ta),(V.kill n0 t7),(V.kill n0 t6),(V.kill n0 td),(V.kill n0 te),(V.kill n0 tf),(V.kill n0 tg),(V.kill n0 th),(V.kill n0 ti),(V.kill n0 tj),(V.kill n0 tk),(V.kill n0 tl),(V.kill n0 tm),(V.kill n0 tn),(V.kill n0 tp),(V.kill n0 tq),(V.kill n0 tr),(V.kill n0 ts),(V.kill n0 t8)],cg n0 h71⟩)) (
 K (.exit 0) ⟨[(V.kill n0 c),(V.kill n0 d),(V.kill n0 e),(V.kill n0 o),(V.kill n0 q),(V.kill n0 j),(V.kill n0 g),(V.kill n0 u),(V.kill n0 f),(V.kill n0 y),(V.kill n0 A),(V.kill n0 z),(V.kill n0 B),(V.kill n0 F),(V.kill n0 D),(V.kill n0 E),(V.kill n0 v),(V.kill n0 G),(V.kill n0 I),(V.kill n0 L),(V.kill n0 J),(V.kill n0 N),(V.kill n0 M),(V.kill n0 O),.junk,.junk,.junk,.junk,.junk,.junk,.junk,.junk,.junk,.junk,.junk,.junk,.junk,.junk,.junk,.junk,(V.kill n0 t9),(V.kill n0 ta),(V.kill n0 t7),(V.kill n0 t6),(V.kill n0 td),(V.kill n0 te),(V.kill n0 tf),(V.kill n0 tg),(V.kill n0 th),(V.kill n0 ti),(V.kill n0 tj),(V.kill n0 tk),(V.kill n0 tl),(V.kill n0 tm),(V.kill n0 tn),(V.kill n0 tp),(V.kill n0 tq),(V.kill n0 tr),(V.kill n0 ts),(V.kill n0 t8)],cg n0 hj⟩):=kI
theorem Eu:av (xX s 41 wl k false) (aB s.P Tryz.f41) Ir (.exit 0) ⟨[c,d,e,o,q,j,g,u,f,y,A,z,B,F,D,E,v,G,I,L,J,N,M,O,R,T,U,W,X,Q,Y,Z,t2,t1,t0,t3,t4,t5,tb,tc,t9,ta,t7,t6,td,te,tf,tg,th,ti,tj,tk,tl,tm,tn,tp,tq,tr,ts,t8],h⟩ =
 bm (aa s.P 30 d 4) h fun v72 h73=>
 bm (ab s.P 28 v72 h73) h73 fun v74 h75=>
 bp (br s.P 28 v74 h75) fun v76 hR=>
 yI s k wl 41 Tryz.f41 Hv hR.length Hn k ⟨[(V.kill hR.length c),(V.kill hR.length d),(V.kill hR.length e),(V.kill hR.length o),(V.kill hR.length q),(V.kill hR.length j),(V.kill hR.length g),(V.kill hR.length u),(V.kill hR.length f),(V.kill hR.length y),(V.kill hR.length A),(V.kill hR.length z),(V.kill hR.length B),(V.kill hR.length F),(V.kill hR.length D),(V.kill hR.length E),(V.kill hR.length v),(V.kill hR.length G),(V.kill hR.length I),(V.kill hR.length L),(V.kill hR.length J),(V.kill hR.length N),(V.kill hR.length M),(V.kill hR.length O),(V.kill hR.length R),(V.kill hR.length T),(V.kill hR.length U),(V.kill hR.length W),(V.kill hR.length X),(V.kill hR.length Q),(V.kill hR.length Y),(V.kill hR.length Z),(V.kill hR.length t2),(V.kill hR.length t1),(V.kill hR.length t0),(V.kill hR.length t3),(V.kill hR.length t4),(V.kill hR.length t5),(V.kill hR.length tb),(V.kill hR.length tc),(V.kill hR.length v72),(V.kill hR.length v74),(V.kill hR.length v76),(.lit (.int .i64 0)),.junk,.junk,.junk,.junk,.junk,.junk,.junk,.junk,.junk,.junk,.junk,.junk,.junk,.junk,.junk,(V.kill hR.length t8)],cg hR.length hR⟩:=kR
theorem SK:itX (xX s 41 wl k rd) Hv n0 K (n+1) ⟨[c,d,e,o,q,j,g,u,f,y,A,z,B,F,D,E,v,G,I,L,J,N,M,O,R,T,U,W,X,Q,Y,Z,t2,t1,t0,t3,t4,t5,tb,tc,t9,ta,t7,t6,td,te,tf,tg,th,ti,tj,tk,tl,tm,tn,tp,tq,tr,ts,t8],h⟩ =
 bm (au s.P .lss 3 t6 t7) h fun v78 h79=>
 cnd v78 (
 bm (aa s.P 30 d 4) h79 fun v80 h81=>
 stO h79.length v80 (
 bm (ab s.P 28 v80 h81) h81 fun v82 h83=>
 bm (aa s.P 30 d 4) h83 fun v84 h85=>
 bm (ab s.P 28 v84 h85) h85 fun v86 h87=>
 bm (am s.P 28 v86 t6 h87) h87 fun v88 h89=>
 bm (aa s.P 57 v88 1) h89 fun v90 h91=>
 bm (ab s.P 53 v90 h91) h91 fun v92 h93=>
 bp (cI (xX s 41 wl k rd) true true (.fn (.func 80) [] []) [v92] h93) fun v94 h95=>
 bm (am s.P 28 v82 t6 h95) h95 fun v96 h97=>
 bm (aa s.P 57 v96 1) h97 fun v98 h99=>
 bs (aj s.P wl 53 v98 v94 h99) fun h100=>
 bm (au s.P .add 3 t6 (.lit (.int .i64 1))) h100 fun vj h102=>
 itX (xX s 41 wl k rd) Hv n0 K n ⟨[(V.kill n0 c),(V.kill n0 d),(V.kill n0 e),(V.kill n0 o),(V.kill n0 t6),(V.kill n0 j),(V.kill n0 g),(V.kill n0 u),(V.kill n0 f),(V.kill n0 y),(V.kill n0 A),(V.kill n0 z),(V.kill n0 B),(V.kill n0 F),(V.kill n0 D),(V.kill n0 E),(V.kill n0 v),(V.kill n0 G),(V.kill n0 I),(V.kill n0 L),(V.kill n0 J),(V.kill n0 N),(V.kill n0 M),(V.kill n0 O),(V.kill n0 R),(V.kill n0 T),(V.kill n0 U),(V.kill n0 W),(V.kill n0 X),(V.kill n0 Q),(V.kill n0 Y),(V.kill n0 Z),(V.kill n0 t2),(V.kill n0 t1),(V.kill n0 t0),(V.kill n0 t3),(V.kill n0 t4),(V.kill n0 t5),(V.kill n0 tb),(V.kill n0 tc),(V.kill n0 t9),(V.kill n0 ta),(V.kill n0 t7),(V.kill n0 vj),.junk,.junk,.junk,.junk,.junk,.junk,.junk,.junk,.junk,.junk,.junk,.junk,.junk,.junk,.junk,(V.kill n0 t8)],cg n0 h102⟩)) (
 K (.exit 2) ⟨[(V.kill n0 c),(V.kill n0 d),(V.kill n0 e),(V.kill n0 o),(V.kill n0 q),(V.kill n0 j),(V.kill n0 g),(V.kill n0 u),(V.kill n0 f),(V.kill n0 y),(V.kill n0 A),(V.kill n0 z),(V.kill n0 B),(V.kill n0 F),(V.kill n0 D),(V.kill n0 E),(V.kill n0 v),(V.kill n0 G),(V.kill n0 I),(V.kill n0 L),(V.kill n0 J),(V.kill n0 N),(V.kill n0 M),(V.kill n0 O),(V.kill n0 R),(V.kill n0 T),(V.kill n0 U),(V.kill n0 W),(V.kill n0 X),(V.kill n0 Q),(V.kill n0 Y),(V.kill n0 Z),(V.kill n0 t2),(V.kill n0 t1),(V.kill n0 t0),(V.kill n0 t3),(V.kill n0 t4),(V.kill n0 t5),(V.kill n0 tb),(V.kill n0 tc),(V.kill n0 t9),(V.kill n0 ta),(V.kill n0 t7),.junk,.junk,.junk,.junk,.junk,.junk,.junk,.junk,.junk,.junk,.junk,.junk,.junk,.junk,.junk,.junk,(V.kill n0 t8)],cg n0 h79⟩):=kI
theorem EC:av (xX s 41 wl k false) (aB s.P Tryz.f41) Hn (.exit 2) ⟨[c,d,e,o,q,j,g,u,f,y,A,z,B,F,D,E,v,G,I,L,J,N,M,O,R,T,U,W,X,Q,Y,Z,t2,t1,t0,t3,t4,t5,tb,tc,t9,ta,t7,t6,td,te,tf,tg,th,ti,tj,tk,tl,tm,tn,tp,tq,tr,ts,t8],h⟩ =
 bm (ab s.P 30 d h) h fun v103 h104=>
 bs (aj s.P wl 30 e v103 h104) fun h105=>
 eo [ab s.P 30 e h105] h105:=kR
theorem lD (cx:Cx) (s:St):av cx K Ir .ret s=K .ret s:=by kernel_rfl
theorem lI (cx:Cx) (s:St):av cx K Hn .ret s=K .ret s:=by kernel_rfl
-- names: Zb,aa1,TL,Eu,SK,EC,lD,lI
noncomputable def Ik:List Fr:=[.seq (al (an Tryz.f43) [1,1,1])]
theorem ady:ak (xX s 43 wl k false) Tryz.f43 [c,d] h =
 bp (aP c h) fun v1 h2=>
 bp (aP d h2) fun v3 h4=>
 bp (aw s.P 34 h4) fun v5 h6=>
 bp (some (.map h6.length,h6++[.map []])) fun v7 h8=>
 bs (eA s.P wl 138 v7 (.lit (.int .i64 0)) (.fn (.func 82) [] [v1,v3,v5]) h8) fun h9=>
 bs (eA s.P wl 138 v7 (.lit (.int .i64 1)) (.fn (.func 84) [] [v1,v3,v5]) h9) fun hA=>
 bs (eA s.P wl 138 v7 (.lit (.int .i64 2)) (.fn (.func 87) [] [v1]) hA) fun h11=>
 bm (aa s.P 48 v3 0) h11 fun v12 h13=>
 bm (ab s.P 3 v12 h13) h13 fun vz ho=>
 bm (fS s.P 138 v7 vz true ho) ho fun vr hu=>
 bm (ar vr 0) hu fun vn hr=>
 bm (ar vr 1) hr fun vd hQ=>
 cnd vd (
 bp (yC s k wl 43 false true vn [] hQ) fun vV hm=>
 av (xX s 43 wl k false) (aB s.P Tryz.f43) Ik .norm ⟨[c,d,v1,v3,v5,v7,vn,vd,v7,(.fn (.func 82) [] [v1,v3,v5]),(.fn (.func 84) [] [v1,v3,v5]),(.fn (.func 87) [] [v1]),v7,vr,v7,v12,vz,vr,vn,vd,vd,vn,vV,uu],hm⟩) (
 av (xX s 43 wl k false) (aB s.P Tryz.f43) Ik .norm ⟨[c,d,v1,v3,v5,v7,vn,vd,v7,(.fn (.func 82) [] [v1,v3,v5]),(.fn (.func 84) [] [v1,v3,v5]),(.fn (.func 87) [] [v1]),v7,vr,v7,v12,vz,vr,vn,vd,vd,uu,uu,uu],hQ⟩):=kB
theorem adS:evF Tryz.prog xM (k+1) wl 43 [c,d] h=ak (xX (xS k) 43 wl k false) Tryz.f43 [c,d] h:=by kernel_rfl
theorem DY:av (xX s 43 wl k false) (aB s.P Tryz.f43) Ik .norm ⟨[c,d,e,o,q,j,g,u,f,y,A,z,B,F,D,E,v,G,I,L,J,N,M,O],h⟩ =
 bm (ab s.P 34 q h) h fun vS hc=>
 bs (aj s.P wl 34 q vS hc) fun hJ=>
 eo [ab s.P 34 q hJ] hJ:=kR
theorem lq (cx:Cx) (s:St):av cx K Ik .ret s=K .ret s:=by kernel_rfl
-- names: ady,DY,lq
theorem Za:ak (xX s 51 wl k false) Tryz.f51 [c] h =
 bp (aP c h) fun v1 h2=>
 some ((.fn (.func 94) [] [v1]),h2):=kB
theorem adO:evF Tryz.prog xM (k+1) wl 51 [c] h=ak (xX (xS k) 51 wl k false) Tryz.f51 [c] h:=by kernel_rfl
-- names: Za,
noncomputable def cP:Code:=al (an Tryz.f53) [1,1,0]
noncomputable def cJ:List Fr:=[.seq (al (an Tryz.f53) [1,1,1])]
theorem acl:ak (xX s 53 wl k false) Tryz.f53 [c,d] h =
 bp (aP c h) fun v1 h2=>
 bm (aa s.P 57 v1 0) h2 fun v3 h4=>
 bm (ab s.P 3 v3 h4) h4 fun v5 h6=>
 bm (au s.P .lss 3 v5 (.lit (.int .i64 0))) h6 fun v7 h8=>
 gd v7 (
 yO s k wl 53 Tryz.f53 cP 7 h2.length ([],[]) cJ ⟨[c,d,v1,(.lit (.bool false)),(.fn (.func 54) [] [d]),(.fn (.func 54) [] [d]),v3,v5,v7,(.lit (.bool true)),uu,uu,uu,uu,uu,uu,uu,uu,uu,uu,uu,uu,uu,uu,uu,uu,uu,uu,uu,uu,uu],h8⟩) (
 bm (aa s.P 57 v1 0) h8 fun v9 hA=>
 bm (ab s.P 3 v9 hA) hA fun vA hB=>
 bm (au s.P .geq 3 vA (.lit (.int .i64 6))) hB fun vC hC=>
 yO s k wl 53 Tryz.f53 cP 7 h2.length ([],[]) cJ ⟨[c,d,v1,(.lit (.bool false)),(.fn (.func 54) [] [d]),(.fn (.func 54) [] [d]),v3,v5,v7,(.lit (.bool false)),v9,vA,vC,uu,uu,uu,uu,uu,uu,uu,uu,uu,uu,uu,uu,uu,uu,uu,uu,uu,uu],hC⟩) (
 yO s k wl 53 Tryz.f53 cP 5 h2.length ([],[]) cJ ⟨[c,d,v1,(.lit (.bool false)),(.fn (.func 54) [] [d]),(.fn (.func 54) [] [d]),v3,v5,v7,v7,uu,uu,uu,uu,uu,uu,uu,uu,uu,uu,uu,uu,uu,uu,uu,uu,uu,uu,uu,uu,uu],h8⟩):=kB
theorem adL:evF Tryz.prog xM (k+1) wl 53 [c,d] h=ak (xX (xS k) 53 wl k false) Tryz.f53 [c,d] h:=by kernel_rfl
theorem EM:yO s k wl 53 Tryz.f53 cP 7 m0 ac cJ ⟨(c::d::e::o::q::j::g::u::f::y::A::z::B::F::D::E::v::G::I::zz),h⟩ =
 bm (aT y (.lit (.bool true)) B) h fun vD hD=>
 gd vD (
 yO s k wl 53 Tryz.f53 cP 13 m0 ac cJ ⟨(c::d::e::o::q::j::g::u::f::y::A::z::B::vD::(.lit (.bool true))::uu::uu::uu::uu::zz),hD⟩) (
 bm (aa s.P 57 e 1) hD fun vB hE=>
 bm (ab s.P 53 vB hE) hE fun vE hH=>
 bp (yC s k wl 53 false true (.fn (.func 55) [] []) [vE,q] hH) fun vF hF=>
 yO s k wl 53 Tryz.f53 cP 13 m0 ac cJ ⟨(c::d::e::o::q::j::g::u::f::y::A::z::B::vD::(.lit (.bool false))::vB::vE::q::vF::zz),hF⟩) (
 yO s k wl 53 Tryz.f53 cP 10 m0 ac cJ ⟨(c::d::e::o::q::j::g::u::f::y::A::z::B::vD::vD::uu::v::G::I::zz),hD⟩):=kG
theorem Em:yO s k wl 53 Tryz.f53 cP 13 m0 ac cJ ⟨[c,d,e,o,q,j,g,u,f,y,A,z,B,F,D,E,v,G,I,L,J,N,M,O,R,T,U,W,X,Q,Y],h⟩ =
 bm (aT D (.lit (.bool true)) I) h fun vH hG=>
 gd vH (
 yO s k wl 53 Tryz.f53 cP 24 m0 ac cJ ⟨[c,d,e,o,q,j,g,u,f,y,A,z,B,F,D,E,v,G,I,vH,(.lit (.bool true)),uu,uu,uu,uu,uu,uu,uu,uu,uu,Y],hG⟩) (
 bm (aa s.P 57 e 0) hG fun vI hJ=>
 bm (ab s.P 3 vI hJ) hJ fun vG hI=>
 bm (au s.P .neq 3 vG (.lit (.int .i64 0))) hI fun vJ hL=>
 yO s k wl 53 Tryz.f53 cP 19 m0 ac cJ ⟨[c,d,e,o,q,j,g,u,f,y,A,z,B,F,D,E,v,G,I,vH,(.lit (.bool false)),vI,vG,vJ,vJ,T,U,W,X,Q,Y],hL⟩) (
 yO s k wl 53 Tryz.f53 cP 16 m0 ac cJ ⟨[c,d,e,o,q,j,g,u,f,y,A,z,B,F,D,E,v,G,I,vH,vH,uu,M,O,R,T,U,W,X,Q,Y],hG⟩):=kG
theorem Es:yO s k wl 53 Tryz.f53 cP 24 m0 ac cJ ⟨[c,d,e,o,q,j,g,u,f,y,A,z,B,F,D,E,v,G,I,L,J,N,M,O,R,T,U,W,X,Q,Y],h⟩ =
 bm (aT J (.lit (.bool true)) Q) h fun vL hN=>
 some (vL,hN):=kG
theorem DV:yO s k wl 53 Tryz.f53 cP 19 m0 ac cJ ⟨[c,d,e,o,q,j,g,u,f,y,A,z,B,F,D,E,v,G,I,L,J,N,M,O,R,T,U,W,X,Q,Y],h⟩ =
 gd R (
 bm (aa s.P 57 e 1) h fun vK hO=>
 bm (ab s.P 53 vK hO) hO fun vO hV=>
 bp (br s.P 53 vO hV) fun vW hS=>
 bm (au s.P .eql 3 vW (.lit (.int .i64 0))) hS fun vY hU=>
 yO s k wl 53 Tryz.f53 cP 23 m0 ac cJ ⟨[c,d,e,o,q,j,g,u,f,y,A,z,B,F,D,E,v,G,I,L,J,N,M,O,(.lit (.bool true)),vK,vO,vW,vY,Q,Y],hU⟩) (
 yO s k wl 53 Tryz.f53 cP 23 m0 ac cJ ⟨[c,d,e,o,q,j,g,u,f,y,A,z,B,F,D,E,v,G,I,L,J,N,M,O,(.lit (.bool false)),uu,uu,uu,uu,Q,Y],h⟩) (
 yO s k wl 53 Tryz.f53 cP 20 m0 ac cJ ⟨[c,d,e,o,q,j,g,u,f,y,A,z,B,F,D,E,v,G,I,L,J,N,M,O,R,uu,U,W,X,Q,Y],h⟩):=kG
theorem C1:yO s k wl 53 Tryz.f53 cP 23 m0 ac cJ ⟨[c,d,e,o,q,j,g,u,f,y,A,z,B,F,D,E,v,G,I,L,J,N,M,O,R,T,U,W,X,Q,Y],h⟩ =
 gd J (
 yO s k wl 53 Tryz.f53 cP 24 m0 ac cJ ⟨[c,d,e,o,q,j,g,u,f,y,A,z,B,F,D,E,v,G,I,L,(.lit (.bool true)),N,M,O,R,T,U,W,X,uu,Y],h⟩) (
 bm (aT R X (.lit (.bool false))) h fun vP hP=>
 yO s k wl 53 Tryz.f53 cP 24 m0 ac cJ ⟨[c,d,e,o,q,j,g,u,f,y,A,z,B,F,D,E,v,G,I,L,(.lit (.bool false)),N,M,O,R,T,U,W,X,vP,Y],hP⟩) (
 yO s k wl 53 Tryz.f53 cP 24 m0 ac cJ ⟨[c,d,e,o,q,j,g,u,f,y,A,z,B,F,D,E,v,G,I,L,J,N,M,O,R,T,U,W,X,uu,Y],h⟩):=kG
theorem D8:yO s k wl 53 Tryz.f53 cP 20 m0 ac cJ ⟨[c,d,e,o,q,j,g,u,f,y,A,z,B,F,D,E,v,G,I,L,J,N,M,O,R,T,U,W,X,Q,Y],h⟩ =
 gd R (
 bm (ab s.P 53 T h) h fun vZ ha=>
 bp (br s.P 53 vZ ha) fun vc hK=>
 bm (au s.P .eql 3 vc (.lit (.int .i64 0))) hK fun vl hj=>
 yO s k wl 53 Tryz.f53 cP 23 m0 ac cJ ⟨[c,d,e,o,q,j,g,u,f,y,A,z,B,F,D,E,v,G,I,L,J,N,M,O,(.lit (.bool true)),T,vZ,vc,vl,Q,Y],hj⟩) (
 yO s k wl 53 Tryz.f53 cP 23 m0 ac cJ ⟨[c,d,e,o,q,j,g,u,f,y,A,z,B,F,D,E,v,G,I,L,J,N,M,O,(.lit (.bool false)),T,uu,uu,uu,Q,Y],h⟩) (
 yO s k wl 53 Tryz.f53 cP 21 m0 ac cJ ⟨[c,d,e,o,q,j,g,u,f,y,A,z,B,F,D,E,v,G,I,L,J,N,M,O,R,T,uu,W,X,Q,Y],h⟩):=kG
theorem EQ:yO s k wl 53 Tryz.f53 cP 21 m0 ac cJ ⟨[c,d,e,o,q,j,g,u,f,y,A,z,B,F,D,E,v,G,I,L,J,N,M,O,R,T,U,W,X,Q,Y],h⟩ =
 gd R (
 bp (br s.P 53 U h) fun vg hl=>
 bm (au s.P .eql 3 vg (.lit (.int .i64 0))) hl fun vs hM=>
 yO s k wl 53 Tryz.f53 cP 23 m0 ac cJ ⟨[c,d,e,o,q,j,g,u,f,y,A,z,B,F,D,E,v,G,I,L,J,N,M,O,(.lit (.bool true)),T,U,vg,vs,Q,Y],hM⟩) (
 yO s k wl 53 Tryz.f53 cP 23 m0 ac cJ ⟨[c,d,e,o,q,j,g,u,f,y,A,z,B,F,D,E,v,G,I,L,J,N,M,O,(.lit (.bool false)),T,U,uu,uu,Q,Y],h⟩) (
 yO s k wl 53 Tryz.f53 cP 22 m0 ac cJ ⟨[c,d,e,o,q,j,g,u,f,y,A,z,B,F,D,E,v,G,I,L,J,N,M,O,R,T,U,uu,X,Q,Y],h⟩):=kG
theorem Eh:yO s k wl 53 Tryz.f53 cP 22 m0 ac cJ ⟨[c,d,e,o,q,j,g,u,f,y,A,z,B,F,D,E,v,G,I,L,J,N,M,O,R,T,U,W,X,Q,Y],h⟩ =
 gd R (
 bm (au s.P .eql 3 W (.lit (.int .i64 0))) h fun vo hk=>
 yO s k wl 53 Tryz.f53 cP 23 m0 ac cJ ⟨[c,d,e,o,q,j,g,u,f,y,A,z,B,F,D,E,v,G,I,L,J,N,M,O,(.lit (.bool true)),T,U,W,vo,Q,Y],hk⟩) (
 yO s k wl 53 Tryz.f53 cP 23 m0 ac cJ ⟨[c,d,e,o,q,j,g,u,f,y,A,z,B,F,D,E,v,G,I,L,J,N,M,O,(.lit (.bool false)),T,U,W,uu,Q,Y],h⟩) (
 yO s k wl 53 Tryz.f53 cP 23 m0 ac cJ ⟨[c,d,e,o,q,j,g,u,f,y,A,z,B,F,D,E,v,G,I,L,J,N,M,O,R,T,U,W,uu,Q,Y],h⟩):=kG
theorem kN (cx:Cx) (s:St):av cx K cJ .ret s=K .ret s:=by kernel_rfl
-- names: acl,EM,Em,Es,DV,C1,D8,EQ,Eh,kN
noncomputable def HZ:Code:=al (an Tryz.f54) [1,0]
noncomputable def Et:List Fr:=[.seq (al (an Tryz.f54) [1,1])]
theorem aaB:ak (xX s 54 wl k false) Tryz.f54 [c,d] h =
 bm (au s.P .lss 3 c (.lit (.int .i64 0))) h fun v1 h2=>
 gd v1 (
 yO s k wl 54 Tryz.f54 HZ 8 h.length ([],[]) Et ⟨[c,d,uu,(.lit (.bool false)),c,v1,(.lit (.bool true)),uu,uu,uu,uu,uu,uu],h2⟩) (
 bm (aa s.P 30 d 1) h2 fun v3 h4=>
 bm (ab s.P 24 v3 h4) h4 fun v5 h6=>
 bp (br s.P 24 v5 h6) fun v7 h8=>
 bm (au s.P .geq 3 c v7) h8 fun v9 hA=>
 yO s k wl 54 Tryz.f54 HZ 8 h.length ([],[]) Et ⟨[c,d,uu,(.lit (.bool false)),c,v1,(.lit (.bool false)),c,v3,v5,v7,v9,uu],hA⟩) (
 yO s k wl 54 Tryz.f54 HZ 4 h.length ([],[]) Et ⟨[c,d,uu,(.lit (.bool false)),c,v1,v1,uu,uu,uu,uu,uu,uu],h2⟩):=kB
theorem adU:evF Tryz.prog xM (k+1) wl 54 [c,d] h=ak (xX (xS k) 54 wl k false) Tryz.f54 [c,d] h:=by kernel_rfl
theorem CU:yO s k wl 54 Tryz.f54 HZ 8 m0 ac Et ⟨[c,d,e,o,q,j,g,u,f,y,A,z,B],h⟩ =
 bm (aT g (.lit (.bool true)) z) h fun vA hB=>
 some (vA,hB):=kG
theorem kT (cx:Cx) (s:St):av cx K Et .ret s=K .ret s:=by kernel_rfl
-- names: aaB,CU,kT
noncomputable def Hi:Code:=al (an Tryz.f58) [1,1,0,1,0,0]
noncomputable def Ha:List Fr:=[.block 0,.seq (al (an Tryz.f58) [1,1,1])]
theorem agc:ak (xX s 58 wl k false) Tryz.f58 [c] h =
 bp (some (.own h.length 0 0,h++[.rows 0 [] 0 true])) fun v1 h2=>
 bp (yC s k wl 58 false true (.fn (.func 102) [] []) [c] h2) fun v3 h4=>
 bp (br s.P 24 v3 h4) fun v5 h6=>
 yI s k wl 58 Tryz.f58 Hi h6.length Ha k ⟨[(V.kill h6.length c),(V.kill h6.length uu),(V.kill h6.length v1),(V.kill h6.length v3),(V.kill h6.length uu),(V.kill h6.length c),(V.kill h6.length v3),(V.kill h6.length v3),(V.kill h6.length v5),(.lit (.int .i64 0)),.junk,.junk,.junk,.junk,.junk,.junk,.junk,.junk,.junk,.junk,.junk,.junk,.junk,(V.kill h6.length uu)],cg h6.length h6⟩:=kB
theorem aiz:evF Tryz.prog xM (k+1) wl 58 [c] h=ak (xX (xS k) 58 wl k false) Tryz.f58 [c] h:=by kernel_rfl
theorem afn (P:Program):aB P Tryz.f58 .ret ⟨[c,d,e,o,q,j,g,u,f,y,A,z,B,F,D,E,v,G,I,L,J,N,M,O],h⟩=some (e,h):=by kernel_rfl
theorem TH:itX (xX s 58 wl k rd) Hi n0 K (n+1) ⟨[c,d,e,o,q,j,g,u,f,y,A,z,B,F,D,E,v,G,I,L,J,N,M,O],h⟩ =
 bm (au s.P .lss 3 y f) h fun v7 h8=>
 cnd v7 (
 bm (am s.P 24 o y h8) h8 fun v9 hA=>
 bm (aa s.P 101 v9 1) hA fun vA hB=>
 bm (ab s.P 53 vA hB) hB fun vC hC=>
 bp (cI (xX s 58 wl k rd) false true (.fn (.func 80) [] []) [vC] hC) fun vD hD=>
 bm (am s.P 24 o y hD) hD fun vB hE=>
 bm (aa s.P 101 vB 1) hE fun vE hH=>
 bs (aj s.P wl 53 vE vD hH) fun hQ=>
 bm (au s.P .add 3 y (.lit (.int .i64 1))) hQ fun vV hm=>
 itX (xX s 58 wl k rd) Hi n0 K n ⟨[(V.kill n0 c),(V.kill n0 d),(V.kill n0 e),(V.kill n0 o),(V.kill n0 y),(V.kill n0 j),(V.kill n0 g),(V.kill n0 u),(V.kill n0 f),(V.kill n0 vV),.junk,.junk,.junk,.junk,.junk,.junk,.junk,.junk,.junk,.junk,.junk,.junk,.junk,(V.kill n0 O)],cg n0 hm⟩) (
 K (.exit 0) ⟨[(V.kill n0 c),(V.kill n0 d),(V.kill n0 e),(V.kill n0 o),(V.kill n0 q),(V.kill n0 j),(V.kill n0 g),(V.kill n0 u),(V.kill n0 f),.junk,.junk,.junk,.junk,.junk,.junk,.junk,.junk,.junk,.junk,.junk,.junk,.junk,.junk,(V.kill n0 O)],cg n0 h8⟩):=kI
theorem NA:av (xX s 58 wl k false) (aB s.P Tryz.f58) Ha (.exit 0) ⟨[c,d,e,o,q,j,g,u,f,y,A,z,B,F,D,E,v,G,I,L,J,N,M,O],h⟩ =
 some (o,h):=kR
theorem pf (cx:Cx) (s:St):av cx K Ha .ret s=K .ret s:=by kernel_rfl
-- names: agc,afn,TH,NA,pf
theorem ac7:ak (xX s 82 wl k false) Tryz.f82 [c,d,e] h =
 stO h.length c (
 bm (ab s.P 86 c h) h fun v1 h2=>
 stO h.length c (
 bm (ab s.P 86 c h2) h2 fun v3 h4=>
 stO h.length v3 (
 bm (aS v3 h4) h4 fun v5 h6=>
 bm (aa s.P 30 v5 3) h6 fun v7 h8=>
 stO h.length v7 (
 bm (ab s.P 27 v7 h8) h8 fun v9 hA=>
 bm (aa s.P 48 d 1) hA fun vA hB=>
 stO h.length vA (
 bm (ab s.P 3 vA hB) hB fun vC hC=>
 bm (ab s.P 86 c hC) hC fun vD hD=>
 bm (aS vD hD) hD fun vB hE=>
 bm (aa s.P 30 vB 0) hE fun vE hH=>
 bm (ab s.P 23 vE hH) hH fun vF hF=>
 bm (ab s.P 86 c hF) hF fun vH hG=>
 bm (aS vH hG) hG fun vI hJ=>
 bm (aa s.P 30 vI 1) hJ fun vG hI=>
 bm (ab s.P 24 vG hI) hI fun vJ hL=>
 bm (ab s.P 86 c hL) hL fun vL hN=>
 bm (aS vL hN) hN fun vK hO=>
 bm (aa s.P 30 vK 2) hO fun vO hV=>
 bm (ab s.P 26 vO hV) hV fun vW hS=>
 bm (aa s.P 48 d 1) hS fun vY hU=>
 bm (ab s.P 3 vY hU) hU fun vP hP=>
 bm (ab s.P 86 c hP) hP fun vZ ha=>
 bm (aS vZ ha) ha fun vc hK=>
 bm (aa s.P 30 vc 3) hK fun vl hj=>
 bm (ab s.P 27 vl hj) hj fun vg hl=>
 bm (aa s.P 48 d 1) hl fun vs hM=>
 bm (ab s.P 3 vs hM) hM fun vo hk=>
 bm (am s.P 27 vg vo hk) hk fun vv hq=>
 bm (ab s.P 65 vv hq) hq fun vy hx=>
 bm (aa s.P 48 d 2) hx fun v59 hy=>
 bm (ab s.P 46 v59 hy) hy fun v61 hw=>
 bp (yC s k wl 82 true true (.fn (.func 83) [] []) [vF,vJ,vW,vP,vy,v61] hw) fun v63 h64=>
 bm (ar v63 0) h64 fun v65 h66=>
 bm (ar v63 1) h66 fun v67 h68=>
 bm (ar v63 2) h68 fun v69 h70=>
 bm (aS v1 h70) h70 fun v71 h72=>
 bm (aa s.P 30 v71 2) h72 fun vu hv=>
 bs (aj s.P wl 26 vu v65 hv) fun h75=>
 bm (am s.P 27 v9 vC h75) h75 fun v76 hR=>
 bs (aj s.P wl 65 v76 v67 hR) fun h78=>
 bs (aj s.P wl 34 e v69 h78) fun h79=>
 apt (lgW e (lgW v76 (lgW vu (lgR vA ([],[]))))) (
 some (.tup [],h79))))))):=kB
theorem ad4:evF Tryz.prog xM (k+1) wl 82 [c,d,e] h=ak (xX (xS k) 82 wl k false) Tryz.f82 [c,d,e] h:=by kernel_rfl
-- names: ac7,
theorem ach:ak (xX s 84 wl k false) Tryz.f84 [c,d,e] h =
 bm (ab s.P 86 c h) h fun v1 h2=>
 bm (aS v1 h2) h2 fun v3 h4=>
 bm (aa s.P 30 v3 0) h4 fun v5 h6=>
 bm (ab s.P 23 v5 h6) h6 fun v7 h8=>
 bm (ab s.P 86 c h8) h8 fun v9 hA=>
 bm (aS v9 hA) hA fun vA hB=>
 bm (aa s.P 30 vA 1) hB fun vC hC=>
 bm (ab s.P 24 vC hC) hC fun vD hD=>
 bm (ab s.P 86 c hD) hD fun vB hE=>
 bm (aS vB hE) hE fun vE hH=>
 bm (aa s.P 30 vE 2) hH fun vF hF=>
 bm (ab s.P 26 vF hF) hF fun vH hG=>
 bm (ab s.P 86 c hG) hG fun vI hJ=>
 bm (aS vI hJ) hJ fun vG hI=>
 bm (aa s.P 30 vG 4) hI fun vJ hL=>
 bm (ab s.P 28 vJ hL) hL fun vL hN=>
 bm (aa s.P 48 d 1) hN fun vK hO=>
 bm (ab s.P 3 vK hO) hO fun vO hV=>
 bm (am s.P 28 vL vO hV) hV fun vW hS=>
 bm (ab s.P 57 vW hS) hS fun vY hU=>
 bp (yC s k wl 84 false true (.fn (.func 85) [] []) [v7,vD,vH,vY] hU) fun vP hP=>
 cnd vP (
 stO hP.length c (
 bm (ab s.P 86 c hP) hP fun vZ ha=>
 stO hP.length c (
 bm (ab s.P 86 c ha) ha fun vc hK=>
 stO hP.length vc (
 bm (aS vc hK) hK fun vl hj=>
 bm (aa s.P 30 vl 4) hj fun vg hl=>
 stO hP.length vg (
 bm (ab s.P 28 vg hl) hl fun vs hM=>
 bm (aa s.P 48 d 1) hM fun vo hk=>
 stO hP.length vo (
 bm (ab s.P 3 vo hk) hk fun vv hq=>
 bm (ab s.P 86 c hq) hq fun vy hx=>
 bm (aS vy hx) hx fun v59 hy=>
 bm (aa s.P 30 v59 0) hy fun v61 hw=>
 bm (ab s.P 23 v61 hw) hw fun v63 h64=>
 bm (ab s.P 86 c h64) h64 fun v65 h66=>
 bm (aS v65 h66) h66 fun v67 h68=>
 bm (aa s.P 30 v67 1) h68 fun v69 h70=>
 bm (ab s.P 24 v69 h70) h70 fun v71 h72=>
 bm (ab s.P 86 c h72) h72 fun vu hv=>
 bm (aS vu hv) hv fun v75 h76=>
 bm (aa s.P 30 v75 2) h76 fun v77 h78=>
 bm (ab s.P 26 v77 h78) h78 fun v79 h80=>
 bm (aa s.P 48 d 1) h80 fun v81 h82=>
 bm (ab s.P 3 v81 h82) h82 fun v83 h84=>
 bm (ab s.P 86 c h84) h84 fun v85 h86=>
 bm (aS v85 h86) h86 fun v87 h88=>
 bm (aa s.P 30 v87 4) h88 fun v89 h90=>
 bm (ab s.P 28 v89 h90) h90 fun v91 h92=>
 bm (aa s.P 48 d 1) h92 fun v93 h94=>
 bm (ab s.P 3 v93 h94) h94 fun v95 h96=>
 bm (am s.P 28 v91 v95 h96) h96 fun v97 h98=>
 bm (ab s.P 57 v97 h98) h98 fun v99 h100=>
 bp (yC s k wl 84 true true (.fn (.func 86) [] []) [v63,v71,v79,v83,v99] h100) fun vj h102=>
 bm (ar vj 0) h102 fun v103 h104=>
 bm (ar vj 1) h104 fun v105 h106=>
 bm (ar vj 2) h106 fun v107 h108=>
 bm (aS vZ h108) h108 fun v109 h110=>
 bm (aa s.P 30 v109 2) h110 fun v111 h112=>
 bs (aj s.P wl 26 v111 v103 h112) fun h113=>
 bm (am s.P 28 vs vv h113) h113 fun v114 h115=>
 bs (aj s.P wl 57 v114 v105 h115) fun h116=>
 bs (aj s.P wl 34 e v107 h116) fun h117=>
 apt (lgW e (lgW v114 (lgW v111 (lgR vo ([],[]))))) (
 some (.tup [],h117)))))))) (
 some (.tup [],hP)):=kB
theorem adM:evF Tryz.prog xM (k+1) wl 84 [c,d,e] h=ak (xX (xS k) 84 wl k false) Tryz.f84 [c,d,e] h:=by kernel_rfl
-- names: ach,
theorem Y3:ak (xX s 87 wl k false) Tryz.f87 [c] h =
 stO h.length c (
 bm (ab s.P 86 c h) h fun v1 h2=>
 bm (ab s.P 86 c h2) h2 fun v3 h4=>
 bm (aS v3 h4) h4 fun v5 h6=>
 bm (aa s.P 30 v5 2) h6 fun v7 h8=>
 bm (ab s.P 26 v7 h8) h8 fun v9 hA=>
 bp (yC s k wl 87 true true (.fn (.func 88) [] []) [v9,(.lit (.int .i64 3)),(.lit (.int .u64 1))] hA) fun vA hB=>
 bm (aS v1 hB) hB fun vC hC=>
 bm (aa s.P 30 vC 2) hC fun vD hD=>
 bs (aj s.P wl 26 vD vA hD) fun hu=>
 some (.tup [],hu)):=kB
theorem adK:evF Tryz.prog xM (k+1) wl 87 [c] h=ak (xX (xS k) 87 wl k false) Tryz.f87 [c] h:=by kernel_rfl
-- names: Y3,
noncomputable def pP:Code:=al (an Tryz.f94) [1,0,0]
noncomputable def HQ:List Fr:=[.block 0]
noncomputable def HN:Code:=al (an Tryz.f94) [1,0,0,1,1,0,0,1,0]
noncomputable def El:List Fr:=[.seq (al (an Tryz.f94) [1,0,0,1,1,0,0,1,1]),.block 1,.seq (al (an Tryz.f94) [1,0,0,1,1,1])]
theorem Zc:ak (xX s 94 wl k false) Tryz.f94 [c,d] h =
 bm (aa s.P 30 d 3) h fun v1 h2=>
 bm (ab s.P 27 v1 h2) h2 fun v3 h4=>
 bp (br s.P 27 v3 h4) fun v5 h6=>
 yI s k wl 94 Tryz.f94 pP h6.length HQ k ⟨[(V.kill h6.length c),(V.kill h6.length d),(V.kill h6.length uu),(V.kill h6.length uu),(V.kill h6.length uu),(V.kill h6.length v1),(V.kill h6.length v3),(V.kill h6.length v5),(.lit (.int .i64 0)),.junk,.junk,.junk,.junk,.junk,.junk,.junk,.junk,.junk,.junk,.junk,.junk,.junk,.junk,.junk,.junk,.junk,.junk,.junk,.junk,.junk],cg h6.length h6⟩:=kB
theorem adT:evF Tryz.prog xM (k+1) wl 94 [c,d] h=ak (xX (xS k) 94 wl k false) Tryz.f94 [c,d] h:=by kernel_rfl
theorem abS (P:Program):aB P Tryz.f94 .ret ⟨[c,d,e,o,q,j,g,u,f,y,A,z,B,F,D,E,v,G,I,L,J,N,M,O,R,T,U,W,X,Q],h⟩=some (.tup [],h):=by kernel_rfl
theorem TJ:itX (xX s 94 wl k rd) pP n0 K (n+1) ⟨[c,d,e,o,q,j,g,u,f,y,A,z,B,F,D,E,v,G,I,L,J,N,M,O,R,T,U,W,X,Q],h⟩ =
 bm (au s.P .lss 3 f u) h fun v7 h8=>
 cnd v7 (
 bm (am s.P 27 g f h8) h8 fun v9 hA=>
 bm (ab s.P 65 v9 hA) hA fun vA hB=>
 bp (aw s.P 65 hB) fun vC hC=>
 bs (aj s.P wl 65 vC vA hC) fun ho=>
 bm (aa s.P 30 d 0) ho fun vr hu=>
 bm (ab s.P 23 vr hu) hu fun vn hr=>
 bm (aa s.P 30 d 1) hr fun vd hQ=>
 bm (ab s.P 24 vd hQ) hQ fun vV hm=>
 bm (aa s.P 30 d 2) hm fun vS hc=>
 bm (ab s.P 26 vS hc) hc fun vN hn=>
 bm (ab s.P 65 vC hn) hn fun vh hs=>
 bp (cI (xX s 94 wl k rd) false true (.fn (.func 95) [] []) [vn,vV,vN,f,vh] hs) fun vp hY=>
 bm (vUn .not vp) hY fun ve hh=>
 gd ve (
 bp (cI (xX s 94 wl k rd) false true c [f] hh) fun vf hW=>
 bm (vUn .not vf) hW fun vM hT=>
 fJ (xX s 94 wl k rd) HN 15 ho.length ([],[]) (av (xX s 94 wl k rd) (dM (xX s 94 wl k rd) pP n0 K n) El) ⟨[c,d,e,f,vC,j,g,u,f,v7,f,v9,vA,vr,vn,vd,vV,vS,vN,f,vh,vp,ve,(.lit (.bool true)),c,f,vf,vM,X,Q],hT⟩) (
 fJ (xX s 94 wl k rd) HN 15 ho.length ([],[]) (av (xX s 94 wl k rd) (dM (xX s 94 wl k rd) pP n0 K n) El) ⟨[c,d,e,f,vC,j,g,u,f,v7,f,v9,vA,vr,vn,vd,vV,vS,vN,f,vh,vp,ve,(.lit (.bool false)),uu,uu,uu,uu,X,Q],hh⟩) (
 fJ (xX s 94 wl k rd) HN 12 ho.length ([],[]) (av (xX s 94 wl k rd) (dM (xX s 94 wl k rd) pP n0 K n) El) ⟨[c,d,e,f,vC,j,g,u,f,v7,f,v9,vA,vr,vn,vd,vV,vS,vN,f,vh,vp,ve,ve,uu,T,U,W,X,Q],hh⟩)) (
 K (.exit 0) ⟨[(V.kill n0 c),(V.kill n0 d),(V.kill n0 e),(V.kill n0 o),(V.kill n0 q),(V.kill n0 j),(V.kill n0 g),(V.kill n0 u),.junk,.junk,.junk,.junk,.junk,.junk,.junk,.junk,.junk,.junk,.junk,.junk,.junk,.junk,.junk,.junk,.junk,.junk,.junk,.junk,.junk,.junk],cg n0 h8⟩):=kI
theorem Dv:av (xX s 94 wl k false) (aB s.P Tryz.f94) HQ (.exit 0) ⟨(c::zz),h⟩ =
 some (.tup [],h):=kR
theorem Eg:fJ (xX s 94 wl k rd) HN 15 m0 ac (av (xX s 94 wl k rd) (dM (xX s 94 wl k rd) pP n0 K n) El) ⟨[c,d,e,o,q,j,g,u,f,y,A,z,B,F,D,E,v,G,I,L,J,N,M,O,R,T,U,W,X,Q],h⟩ =
 bm (aT O W (.lit (.bool false))) h fun vT hb=>
 cnd vT (
 K .ret ⟨[c,d,e,o,q,j,g,u,f,y,A,z,B,F,D,E,v,G,I,L,J,N,M,O,R,T,U,W,vT,Q],hb⟩) (
 bm (au s.P .add 3 f (.lit (.int .i64 1))) hb fun vQ hd=>
 itX (xX s 94 wl k rd) pP n0 K n ⟨[(V.kill n0 c),(V.kill n0 d),(V.kill n0 e),(V.kill n0 o),(V.kill n0 q),(V.kill n0 j),(V.kill n0 g),(V.kill n0 u),(V.kill n0 vQ),.junk,.junk,.junk,.junk,.junk,.junk,.junk,.junk,.junk,.junk,.junk,.junk,.junk,.junk,.junk,.junk,.junk,.junk,.junk,.junk,.junk],cg n0 hd⟩):=kG
theorem kY (cx:Cx) (s:St):av cx K HQ .ret s=K .ret s:=by kernel_rfl
theorem ly (cx:Cx) (s:St):av cx K El .ret s=K .ret s:=by kernel_rfl
-- names: Zc,abS,TJ,Dv,Eg,kY,ly
end
end Go.Ab
