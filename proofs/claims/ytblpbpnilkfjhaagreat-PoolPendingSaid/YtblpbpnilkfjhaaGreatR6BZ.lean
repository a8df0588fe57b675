import Derived.Test.YtblpbpnilkfjhaaGreatR6Seat
import Derived.Test.YtblpbpnilkfjhaaGreatAbLibC
set_option linter.unusedVariables false
set_option linter.unusedSimpArgs false
set_option maxRecDepth 100000
set_option linter.unusedVariables false
namespace Go.Ab
open Go.Proofs
section
variable (s:Sys) (k wl:Nat) (m0:Nat) (ac:List Nat×List Nat) (a d b g i l o j p q r u G E A B D y z F J I M L Q N O T R t1 W X Z Y t0 U t3 t4 t2 t7 t6 t5 t8 tc th td ta ti te tj tf tg tb t9 tm tn tp tk tl:V) (h:Hp) (K:Out→St→Option (V×Hp)) (rd:Bool) (n n0:Nat) (zz:List V)
noncomputable def bT:Code:=am (an Tryz.f188) [1,0]
noncomputable def bN:List Fr:=[.seq (am (an Tryz.f188) [1,1])]
theorem Y9:ak (xX s 188 wl k false) Tryz.f188 [a,d,b,g,i] h =
 bp (aU a h) fun v1 h2=>
 bp (aU b h2) fun v3 h4=>
 bm (ab s.P 23 v1 h4) h4 fun v5 h6=>
 bp (yC s k wl 188 false true (.fn (.func 50) [] []) [v5] h6) fun v7 h8=>
 gd v7 (
 bp (bw s.P 26 d h8) fun v9 hA=>
 bm (ab s.P 23 v1 hA) hA fun vA hB=>
 bp (yC s k wl 188 false true (.fn (.func 103) [] []) [vA] hB) fun vC hC=>
 bm (az s.P .eql 3 v9 vC) hC fun vD hD=>
 yO s k wl 188 Tryz.f188 bT 8 h4.length ([],[]) bN ⟨[a,d,b,g,i,v1,uu,v3,uu,uu,(.lit (.bool false)),v5,v7,(.lit (.bool true)),d,v9,vA,vC,vD,uu,uu,uu,uu,uu,uu,uu,uu,uu,uu,uu,uu,uu,uu,uu,uu,uu,uu,uu,uu,uu,uu,uu,uu,uu,uu,uu,uu,uu,uu,uu,uu,uu,uu,uu],hD⟩) (
 yO s k wl 188 Tryz.f188 bT 8 h4.length ([],[]) bN ⟨[a,d,b,g,i,v1,uu,v3,uu,uu,(.lit (.bool false)),v5,v7,(.lit (.bool false)),uu,uu,uu,uu,uu,uu,uu,uu,uu,uu,uu,uu,uu,uu,uu,uu,uu,uu,uu,uu,uu,uu,uu,uu,uu,uu,uu,uu,uu,uu,uu,uu,uu,uu,uu,uu,uu,uu,uu,uu],h8⟩) (
 yO s k wl 188 Tryz.f188 bT 4 h4.length ([],[]) bN ⟨[a,d,b,g,i,v1,uu,v3,uu,uu,(.lit (.bool false)),v5,v7,v7,uu,uu,uu,uu,uu,uu,uu,uu,uu,uu,uu,uu,uu,uu,uu,uu,uu,uu,uu,uu,uu,uu,uu,uu,uu,uu,uu,uu,uu,uu,uu,uu,uu,uu,uu,uu,uu,uu,uu,uu],h8⟩):=kB
theorem ae3:evF Tryz.prog xM (k+1) wl 188 [a,d,b,g,i] h=ak (xX (xS k) 188 wl k false) Tryz.f188 [a,d,b,g,i] h:=by kernel_rfl
theorem J6:yO s k wl 188 Tryz.f188 bT 8 m0 ac bN ⟨(a::d::b::g::i::l::o::j::p::q::r::u::G::E::A::B::D::y::z::F::J::I::M::L::zz),h⟩ =
 bm (aT E z (.lit (.bool false))) h fun vB hE=>
 gd vB (
 bm (ab s.P 55 j hE) hE fun vE hF=>
 bp (yC s k wl 188 false true (.fn (.func 110) [] []) [vE] hF) fun vF hG=>
 bm (vUn .not vF) hG fun vH hJ=>
 yO s k wl 188 Tryz.f188 bT 13 m0 ac bN ⟨(a::d::b::g::i::l::o::j::p::q::r::u::G::E::A::B::D::y::z::vB::(.lit (.bool true))::vE::vF::vH::zz),hJ⟩) (
 yO s k wl 188 Tryz.f188 bT 13 m0 ac bN ⟨(a::d::b::g::i::l::o::j::p::q::r::u::G::E::A::B::D::y::z::vB::(.lit (.bool false))::uu::uu::uu::zz),hE⟩) (
 yO s k wl 188 Tryz.f188 bT 11 m0 ac bN ⟨(a::d::b::g::i::l::o::j::p::q::r::u::G::E::A::B::D::y::z::vB::vB::uu::M::L::zz),hE⟩):=kG
theorem MZ:yO s k wl 188 Tryz.f188 bT 13 m0 ac bN ⟨(a::d::b::g::i::l::o::j::p::q::r::u::G::E::A::B::D::y::z::F::J::I::M::L::Q::N::O::T::R::zz),h⟩ =
 bm (aT J L (.lit (.bool false))) h fun vI hI=>
 gd vI (
 bm (aa s.P 55 j 2) hI fun vG hH=>
 bm (ab s.P 3 vG hH) hH fun vJ hM=>
 bm (az s.P .geq 3 vJ (.lit (.int .i64 0))) hM fun vL hN=>
 yO s k wl 188 Tryz.f188 bT 18 m0 ac bN ⟨(a::d::b::g::i::l::o::j::p::q::r::u::G::E::A::B::D::y::z::F::J::I::M::L::vI::(.lit (.bool true))::vG::vJ::vL::zz),hN⟩) (
 yO s k wl 188 Tryz.f188 bT 18 m0 ac bN ⟨(a::d::b::g::i::l::o::j::p::q::r::u::G::E::A::B::D::y::z::F::J::I::M::L::vI::(.lit (.bool false))::uu::uu::uu::zz),hI⟩) (
 yO s k wl 188 Tryz.f188 bT 16 m0 ac bN ⟨(a::d::b::g::i::l::o::j::p::q::r::u::G::E::A::B::D::y::z::F::J::I::M::L::vI::vI::uu::T::R::zz),hI⟩):=kG
theorem MG:yO s k wl 188 Tryz.f188 bT 18 m0 ac bN ⟨(a::d::b::g::i::l::o::j::p::q::r::u::G::E::A::B::D::y::z::F::J::I::M::L::Q::N::O::T::R::t1::W::X::Z::Y::t0::U::zz),h⟩ =
 bm (aT N R (.lit (.bool false))) h fun vK hP=>
 gd vK (
 bm (aa s.P 55 j 2) hP fun vO hV=>
 bm (ab s.P 3 vO hV) hV fun vW hS=>
 bm (aa s.P 23 l 0) hS fun vX hT=>
 bm (ab s.P 3 vX hT) hT fun vQ hQ=>
 bm (az s.P .lss 3 vW vQ) hQ fun vY hZ=>
 yO s k wl 188 Tryz.f188 bT 25 m0 ac bN ⟨(a::d::b::g::i::l::o::j::p::q::r::u::G::E::A::B::D::y::z::F::J::I::M::L::Q::N::O::T::R::vK::(.lit (.bool true))::vO::vW::vX::vQ::vY::zz),hZ⟩) (
 yO s k wl 188 Tryz.f188 bT 25 m0 ac bN ⟨(a::d::b::g::i::l::o::j::p::q::r::u::G::E::A::B::D::y::z::F::J::I::M::L::Q::N::O::T::R::vK::(.lit (.bool false))::uu::uu::uu::uu::uu::zz),hP⟩) (
 yO s k wl 188 Tryz.f188 bT 21 m0 ac bN ⟨(a::d::b::g::i::l::o::j::p::q::r::u::G::E::A::B::D::y::z::F::J::I::M::L::Q::N::O::T::R::vK::vK::uu::Z::Y::t0::U::zz),hP⟩):=kG
theorem My:yO s k wl 188 Tryz.f188 bT 25 m0 ac bN ⟨[a,d,b,g,i,l,o,j,p,q,r,u,G,E,A,B,D,y,z,F,J,I,M,L,Q,N,O,T,R,t1,W,X,Z,Y,t0,U,t3,t4,t2,t7,t6,t5,t8,tc,th,td,ta,ti,te,tj,tf,tg,tb,t9],h⟩ =
 bm (aT W U (.lit (.bool false))) h fun vd hK=>
 gd vd (
 bm (aa s.P 55 j 0) hK fun vk hf=>
 bm (ab s.P 3 vk hf) hf fun ve hl=>
 bm (az s.P .eql 3 ve g) hl fun vs hL=>
 yO s k wl 188 Tryz.f188 bT 31 m0 ac bN ⟨[a,d,b,g,i,l,o,j,p,q,r,u,G,E,A,B,D,y,z,F,J,I,M,L,Q,N,O,T,R,t1,W,X,Z,Y,t0,U,vd,(.lit (.bool true)),vk,ve,g,vs,t8,tc,th,td,ta,ti,te,tj,tf,tg,tb,t9],hL⟩) (
 yO s k wl 188 Tryz.f188 bT 31 m0 ac bN ⟨[a,d,b,g,i,l,o,j,p,q,r,u,G,E,A,B,D,y,z,F,J,I,M,L,Q,N,O,T,R,t1,W,X,Z,Y,t0,U,vd,(.lit (.bool false)),uu,uu,uu,uu,t8,tc,th,td,ta,ti,te,tj,tf,tg,tb,t9],hK⟩) (
 yO s k wl 188 Tryz.f188 bT 28 m0 ac bN ⟨[a,d,b,g,i,l,o,j,p,q,r,u,G,E,A,B,D,y,z,F,J,I,M,L,Q,N,O,T,R,t1,W,X,Z,Y,t0,U,vd,vd,uu,t7,t6,t5,t8,tc,th,td,ta,ti,te,tj,tf,tg,tb,t9],hK⟩):=kG
theorem LU:yO s k wl 188 Tryz.f188 bT 31 m0 ac bN ⟨[a,d,b,g,i,l,o,j,p,q,r,u,G,E,A,B,D,y,z,F,J,I,M,L,Q,N,O,T,R,t1,W,X,Z,Y,t0,U,t3,t4,t2,t7,t6,t5,t8,tc,th,td,ta,ti,te,tj,tf,tg,tb,t9],h⟩ =
 bm (aT t4 t5 (.lit (.bool false))) h fun vn hh=>
 gd vn (
 bm (aa s.P 55 j 1) hh fun vv hp=>
 bm (ab s.P 3 vv hp) hp fun vy hx=>
 bm (az s.P .geq 3 vy (.lit (.int .i64 0))) hx fun v59 hy=>
 yO s k wl 188 Tryz.f188 bT 36 m0 ac bN ⟨[a,d,b,g,i,l,o,j,p,q,r,u,G,E,A,B,D,y,z,F,J,I,M,L,Q,N,O,T,R,t1,W,X,Z,Y,t0,U,t3,t4,t2,t7,t6,t5,vn,(.lit (.bool true)),vv,vy,v59,ti,te,tj,tf,tg,tb,t9],hy⟩) (
 yO s k wl 188 Tryz.f188 bT 36 m0 ac bN ⟨[a,d,b,g,i,l,o,j,p,q,r,u,G,E,A,B,D,y,z,F,J,I,M,L,Q,N,O,T,R,t1,W,X,Z,Y,t0,U,t3,t4,t2,t7,t6,t5,vn,(.lit (.bool false)),uu,uu,uu,ti,te,tj,tf,tg,tb,t9],hh⟩) (
 yO s k wl 188 Tryz.f188 bT 34 m0 ac bN ⟨[a,d,b,g,i,l,o,j,p,q,r,u,G,E,A,B,D,y,z,F,J,I,M,L,Q,N,O,T,R,t1,W,X,Z,Y,t0,U,t3,t4,t2,t7,t6,t5,vn,vn,uu,td,ta,ti,te,tj,tf,tg,tb,t9],hh⟩):=kG
theorem Ml:yO s k wl 188 Tryz.f188 bT 36 m0 ac bN ⟨[a,d,b,g,i,l,o,j,p,q,r,u,G,E,A,B,D,y,z,F,J,I,M,L,Q,N,O,T,R,t1,W,X,Z,Y,t0,U,t3,t4,t2,t7,t6,t5,t8,tc,th,td,ta,ti,te,tj,tf,tg,tb,t9],h⟩ =
 bm (aT tc ta (.lit (.bool false))) h fun v61 hw=>
 gd v61 (
 bm (aa s.P 55 j 1) hw fun v63 h64=>
 bm (ab s.P 3 v63 h64) h64 fun v65 h66=>
 bm (az s.P .lss 3 v65 i) h66 fun v67 h68=>
 yO s k wl 188 Tryz.f188 bT 42 m0 ac bN ⟨[a,d,b,g,i,l,o,j,p,q,r,u,G,E,A,B,D,y,z,F,J,I,M,L,Q,N,O,T,R,t1,W,X,Z,Y,t0,U,t3,t4,t2,t7,t6,t5,t8,tc,th,td,ta,v61,(.lit (.bool true)),v63,v65,i,v67,t9],h68⟩) (
 yO s k wl 188 Tryz.f188 bT 42 m0 ac bN ⟨[a,d,b,g,i,l,o,j,p,q,r,u,G,E,A,B,D,y,z,F,J,I,M,L,Q,N,O,T,R,t1,W,X,Z,Y,t0,U,t3,t4,t2,t7,t6,t5,t8,tc,th,td,ta,v61,(.lit (.bool false)),uu,uu,uu,uu,t9],hw⟩) (
 yO s k wl 188 Tryz.f188 bT 39 m0 ac bN ⟨[a,d,b,g,i,l,o,j,p,q,r,u,G,E,A,B,D,y,z,F,J,I,M,L,Q,N,O,T,R,t1,W,X,Z,Y,t0,U,t3,t4,t2,t7,t6,t5,t8,tc,th,td,ta,v61,v61,uu,tf,tg,tb,t9],hw⟩):=kG
theorem Mh:yO s k wl 188 Tryz.f188 bT 42 m0 ac bN ⟨[a,d,b,g,i,l,o,j,p,q,r,u,G,E,A,B,D,y,z,F,J,I,M,L,Q,N,O,T,R,t1,W,X,Z,Y,t0,U,t3,t4,t2,t7,t6,t5,t8,tc,th,td,ta,ti,te,tj,tf,tg,tb,t9],h⟩ =
 bm (aT te tb (.lit (.bool false))) h fun v69 h70=>
 some (v69,h70):=kG
theorem uh (cx:Cx) (s:St):av cx K bN .ret s=K .ret s:=by kernel_rfl
-- names: Y9,J6,MZ,MG,My,LU,Ml,Mh,uh
noncomputable def dy:Code:=am (an Tryz.f189) [1,1,0]
noncomputable def dk:List Fr:=[.seq (am (an Tryz.f189) [1,1,1])]
theorem Z9:ak (xX s 189 wl k false) Tryz.f189 [a,d,b] h =
 bp (aU a h) fun v1 h2=>
 bp (aU b h2) fun v3 h4=>
 bp (yC s k wl 189 true true (.fn (.func 190) [] []) [] h4) fun v5 h6=>
 bm (aa s.P 55 v3 0) h6 fun v7 h8=>
 stO h4.length v7 (
 bm (ab s.P 3 v7 h8) h8 fun v9 hA=>
 bm (fH s.P 212 v5 v9 true hA) hA fun vA hB=>
 bm (ar vA 0) hB fun vC hC=>
 bm (ar vA 1) hC fun vD hD=>
 gd vD (
 bm (ab s.P 23 v1 hD) hD fun vB hE=>
 bp (yC s k wl 189 false true (.fn (.func 50) [] []) [vB] hE) fun vE hF=>
 yO s k wl 189 Tryz.f189 dy 4 hD.length ([],[]) dk ⟨[a,d,b,v1,uu,v3,(.lit (.bool false)),vC,vD,vA,v5,v7,v9,vA,vC,vD,vD,(.lit (.bool true)),vB,vE,uu,uu,uu,uu,uu,uu,uu,uu,uu,uu,uu,uu,uu,uu,uu,uu,uu,uu,uu,uu,uu,uu,uu],hF⟩) (
 yO s k wl 189 Tryz.f189 dy 4 hD.length ([],[]) dk ⟨[a,d,b,v1,uu,v3,(.lit (.bool false)),vC,vD,vA,v5,v7,v9,vA,vC,vD,vD,(.lit (.bool false)),uu,uu,uu,uu,uu,uu,uu,uu,uu,uu,uu,uu,uu,uu,uu,uu,uu,uu,uu,uu,uu,uu,uu,uu,uu],hD⟩) (
 yO s k wl 189 Tryz.f189 dy 3 hD.length ([],[]) dk ⟨[a,d,b,v1,uu,v3,(.lit (.bool false)),vC,vD,vA,v5,v7,v9,vA,vC,vD,vD,vD,uu,uu,uu,uu,uu,uu,uu,uu,uu,uu,uu,uu,uu,uu,uu,uu,uu,uu,uu,uu,uu,uu,uu,uu,uu],hD⟩)):=kB
theorem adX:evF Tryz.prog xM (k+1) wl 189 [a,d,b] h=ak (xX (xS k) 189 wl k false) Tryz.f189 [a,d,b] h:=by kernel_rfl
theorem Mt:yO s k wl 189 Tryz.f189 dy 4 m0 ac dk ⟨(a::d::b::g::i::l::o::j::p::q::r::u::G::E::A::B::D::y::z::F::J::I::M::L::Q::N::O::zz),h⟩ =
 bm (aT y F (.lit (.bool false))) h fun vF hG=>
 gd vF (
 bp (bw s.P 26 d hG) fun vH hJ=>
 bm (ab s.P 23 g hJ) hJ fun vI hI=>
 bp (yC s k wl 189 false true (.fn (.func 103) [] []) [vI] hI) fun vG hH=>
 bm (az s.P .eql 3 vH vG) hH fun vJ hM=>
 yO s k wl 189 Tryz.f189 dy 11 m0 ac dk ⟨(a::d::b::g::i::l::o::j::p::q::r::u::G::E::A::B::D::y::z::F::vF::(.lit (.bool true))::d::vH::vI::vG::vJ::zz),hM⟩) (
 yO s k wl 189 Tryz.f189 dy 11 m0 ac dk ⟨(a::d::b::g::i::l::o::j::p::q::r::u::G::E::A::B::D::y::z::F::vF::(.lit (.bool false))::uu::uu::uu::uu::uu::zz),hG⟩) (
 yO s k wl 189 Tryz.f189 dy 7 m0 ac dk ⟨(a::d::b::g::i::l::o::j::p::q::r::u::G::E::A::B::D::y::z::F::vF::vF::uu::L::Q::N::O::zz),hG⟩):=kG
theorem K2:yO s k wl 189 Tryz.f189 dy 11 m0 ac dk ⟨[a,d,b,g,i,l,o,j,p,q,r,u,G,E,A,B,D,y,z,F,J,I,M,L,Q,N,O,T,R,t1,W,X,Z,Y,t0,U,t3,t4,t2,t7,t6,t5,t8],h⟩ =
 bm (aT I O (.lit (.bool false))) h fun vL hN=>
 gd vL (
 bm (ab s.P 55 l hN) hN fun vK hP=>
 bp (yC s k wl 189 false true (.fn (.func 110) [] []) [vK] hP) fun vO hV=>
 bm (vUn .not vO) hV fun vW hS=>
 yO s k wl 189 Tryz.f189 dy 16 m0 ac dk ⟨[a,d,b,g,i,l,o,j,p,q,r,u,G,E,A,B,D,y,z,F,J,I,M,L,Q,N,O,vL,(.lit (.bool true)),vK,vO,vW,Z,Y,t0,U,t3,t4,t2,t7,t6,t5,t8],hS⟩) (
 yO s k wl 189 Tryz.f189 dy 16 m0 ac dk ⟨[a,d,b,g,i,l,o,j,p,q,r,u,G,E,A,B,D,y,z,F,J,I,M,L,Q,N,O,vL,(.lit (.bool false)),uu,uu,uu,Z,Y,t0,U,t3,t4,t2,t7,t6,t5,t8],hN⟩) (
 yO s k wl 189 Tryz.f189 dy 14 m0 ac dk ⟨[a,d,b,g,i,l,o,j,p,q,r,u,G,E,A,B,D,y,z,F,J,I,M,L,Q,N,O,vL,vL,uu,W,X,Z,Y,t0,U,t3,t4,t2,t7,t6,t5,t8],hN⟩):=kG
theorem Lw:yO s k wl 189 Tryz.f189 dy 16 m0 ac dk ⟨[a,d,b,g,i,l,o,j,p,q,r,u,G,E,A,B,D,y,z,F,J,I,M,L,Q,N,O,T,R,t1,W,X,Z,Y,t0,U,t3,t4,t2,t7,t6,t5,t8],h⟩ =
 bm (aT R X (.lit (.bool false))) h fun vX hT=>
 gd vX (
 bm (aa s.P 55 l 1) hT fun vQ hQ=>
 bm (ab s.P 3 vQ hQ) hQ fun vY hZ=>
 bm (az s.P .geq 3 vY (.lit (.int .i64 0))) hZ fun vd hK=>
 yO s k wl 189 Tryz.f189 dy 21 m0 ac dk ⟨[a,d,b,g,i,l,o,j,p,q,r,u,G,E,A,B,D,y,z,F,J,I,M,L,Q,N,O,T,R,t1,W,X,vX,(.lit (.bool true)),vQ,vY,vd,t4,t2,t7,t6,t5,t8],hK⟩) (
 yO s k wl 189 Tryz.f189 dy 21 m0 ac dk ⟨[a,d,b,g,i,l,o,j,p,q,r,u,G,E,A,B,D,y,z,F,J,I,M,L,Q,N,O,T,R,t1,W,X,vX,(.lit (.bool false)),uu,uu,uu,t4,t2,t7,t6,t5,t8],hT⟩) (
 yO s k wl 189 Tryz.f189 dy 19 m0 ac dk ⟨[a,d,b,g,i,l,o,j,p,q,r,u,G,E,A,B,D,y,z,F,J,I,M,L,Q,N,O,T,R,t1,W,X,vX,vX,uu,U,t3,t4,t2,t7,t6,t5,t8],hT⟩):=kG
theorem KL:yO s k wl 189 Tryz.f189 dy 21 m0 ac dk ⟨[a,d,b,g,i,l,o,j,p,q,r,u,G,E,A,B,D,y,z,F,J,I,M,L,Q,N,O,T,R,t1,W,X,Z,Y,t0,U,t3,t4,t2,t7,t6,t5,t8],h⟩ =
 bm (aT Y t3 (.lit (.bool false))) h fun vk hf=>
 gd vk (
 bm (aa s.P 55 l 1) hf fun ve hl=>
 bm (ab s.P 3 ve hl) hl fun vs hL=>
 bm (az s.P .leq 3 vs (.lit (.int .i64 2))) hL fun vn hh=>
 yO s k wl 189 Tryz.f189 dy 26 m0 ac dk ⟨[a,d,b,g,i,l,o,j,p,q,r,u,G,E,A,B,D,y,z,F,J,I,M,L,Q,N,O,T,R,t1,W,X,Z,Y,t0,U,t3,vk,(.lit (.bool true)),ve,vs,vn,t8],hh⟩) (
 yO s k wl 189 Tryz.f189 dy 26 m0 ac dk ⟨[a,d,b,g,i,l,o,j,p,q,r,u,G,E,A,B,D,y,z,F,J,I,M,L,Q,N,O,T,R,t1,W,X,Z,Y,t0,U,t3,vk,(.lit (.bool false)),uu,uu,uu,t8],hf⟩) (
 yO s k wl 189 Tryz.f189 dy 24 m0 ac dk ⟨[a,d,b,g,i,l,o,j,p,q,r,u,G,E,A,B,D,y,z,F,J,I,M,L,Q,N,O,T,R,t1,W,X,Z,Y,t0,U,t3,vk,vk,uu,t6,t5,t8],hf⟩):=kG
theorem J9:yO s k wl 189 Tryz.f189 dy 26 m0 ac dk ⟨[a,d,b,g,i,l,o,j,p,q,r,u,G,E,A,B,D,y,z,F,J,I,M,L,Q,N,O,T,R,t1,W,X,Z,Y,t0,U,t3,t4,t2,t7,t6,t5,t8],h⟩ =
 bm (aT t2 t5 (.lit (.bool false))) h fun vv hp=>
 some (vv,hp):=kG
theorem wF (cx:Cx) (s:St):av cx K dk .ret s=K .ret s:=by kernel_rfl
-- names: Z9,Mt,K2,Lw,KL,J9,wF
theorem To:ak (xX s 190 wl k false) Tryz.f190 [] h =
 bp (some (.map h.length,h++[.map []])) fun v1 h2=>
 bs (ej s.P wl 212 v1 (.lit (.int .i64 6)) (.fn (.func 215) [] []) h2) fun h3=>
 bs (ej s.P wl 212 v1 (.lit (.int .i64 7)) (.fn (.func 217) [] []) h3) fun h4=>
 some (v1,h4):=kB
theorem Zx:evF Tryz.prog xM (k+1) wl 190 [] h=ak (xX (xS k) 190 wl k false) Tryz.f190 [] h:=by kernel_rfl
-- names: To,
noncomputable def Cz:Code:=am (an Tryz.f194) [1,0,1,0,0]
noncomputable def BU:List Fr:=[.block 0,.seq (am (an Tryz.f194) [1,1])]
theorem Tf:ak (xX s 194 wl k false) Tryz.f194 [a,d,b] h =
 bp (aU a h) fun v1 h2=>
 bp (some (.own h2.length 0 0,h2++[.rows 0 [] 0 true])) fun v3 h4=>
 bp (bw s.P 53 b h4) fun v5 h6=>
 yI s k wl 194 Tryz.f194 Cz h6.length BU k ⟨[(V.kill h6.length a),(V.kill h6.length d),(V.kill h6.length b),(V.kill h6.length v1),(V.kill h6.length uu),(V.kill h6.length uu),(V.kill h6.length v3),(V.kill h6.length uu),(V.kill h6.length uu),(V.kill h6.length b),(V.kill h6.length v5),(.lit (.int .i64 0)),.junk,.junk,.junk,.junk,.junk,.junk,.junk,.junk,.junk,(V.kill h6.length uu)],co h6.length h6⟩:=kB
theorem aaP:evF Tryz.prog xM (k+1) wl 194 [a,d,b] h=ak (xX (xS k) 194 wl k false) Tryz.f194 [a,d,b] h:=by kernel_rfl
theorem T9 (P:Program):aD P Tryz.f194 .ret ⟨[a,d,b,g,i,l,o,j,p,q,r,u,G,E,A,B,D,y,z,F,J,I],h⟩=some (o,h):=by kernel_rfl
theorem LE:itX (xX s 194 wl k rd) Cz n0 K (n+1) ⟨[a,d,b,g,i,l,o,j,p,q,r,u,G,E,A,B,D,y,z,F,J,I],h⟩ =
 bm (az s.P .lss 3 u r) h fun v7 h8=>
 cnd v7 (
 bm (al s.P 53 q u h8) h8 fun v9 hA=>
 bm (ab s.P 3 v9 hA) hA fun vA hB=>
 bm (ab s.P 23 g hB) hB fun vC hC=>
 bp (dW (xX s 194 wl k rd) false true (.fn (.func 32) [] []) [vC,vA] hC) fun vD hD=>
 bp (dW (xX s 194 wl k rd) false true (.fn (.func 88) [] []) [d,vD,(.lit (.int .u64 1))] hD) fun vB hE=>
 bm (az s.P .add 3 u (.lit (.int .i64 1))) hE fun vE hF=>
 itX (xX s 194 wl k rd) Cz n0 K n ⟨[(V.kill n0 a),(V.kill n0 vB),(V.kill n0 b),(V.kill n0 g),(V.kill n0 i),(V.kill n0 l),(V.kill n0 o),(V.kill n0 j),(V.kill n0 vA),(V.kill n0 q),(V.kill n0 r),(V.kill n0 vE),.junk,.junk,.junk,.junk,.junk,.junk,.junk,.junk,.junk,(V.kill n0 I)],co n0 hF⟩) (
 K (.exit 0) ⟨[(V.kill n0 a),(V.kill n0 d),(V.kill n0 b),(V.kill n0 g),(V.kill n0 i),(V.kill n0 l),(V.kill n0 o),(V.kill n0 j),(V.kill n0 p),(V.kill n0 q),(V.kill n0 r),.junk,.junk,.junk,.junk,.junk,.junk,.junk,.junk,.junk,.junk,(V.kill n0 I)],co n0 h8⟩):=kI
theorem GD:av (xX s 194 wl k false) (aD s.P Tryz.f194) BU (.exit 0) ⟨[a,d,b,g,i,l,o,j,p,q,r,u,G,E,A,B,D,y,z,F,J,I],h⟩ =
 some (d,h):=kR
theorem nY (cx:Cx) (s:St):av cx K BU .ret s=K .ret s:=by kernel_rfl
-- names: Tf,T9,LE,GD,nY
noncomputable def Cr:List Fr:=[.seq (am (an Tryz.f207) [1,1,1,1])]
theorem aaC:ak (xX s 207 wl k false) Tryz.f207 [a,d,b] h =
 bp (aU a h) fun v1 h2=>
 bp (aU b h2) fun v3 h4=>
 bp (some (.own h4.length 0 0,h4++[.rows 0 [] 0 true])) fun v5 h6=>
 bp (aA s.P 55 h6) fun v7 h8=>
 stO h8.length v3 (
 bm (ab s.P 55 v3 h8) h8 fun v9 hA=>
 stO h8.length v1 (
 bm (ab s.P 23 v1 hA) hA fun vA hB=>
 bp (yC s k wl 207 true true (.fn (.func 76) [] []) [d] hB) fun vC hC=>
 bm (bc s.P 235 [(0,v9),(1,vA),(2,vC)]) hC fun vD hD=>
 bp (aU vD hD) fun vB hE=>
 bm (bc s.P 236 [(0,(.fn (.func 224) [vB] [])),(1,(.fn (.func 225) [vB] [])),(2,(.fn (.func 226) [vB] [])),(3,(.fn (.func 227) [vB] []))]) hE fun vE hF=>
 bp (aA s.P 236 hF) fun vF hG=>
 bs (ai s.P wl 236 vF vE hG) fun hm=>
 bm (ab s.P 23 v1 hm) hm fun vP ha=>
 bm (ab s.P 55 v3 ha) ha fun vM hn=>
 bp (yC s k wl 207 false true (.fn (.func 188) [] []) [vP,d,vM,(.lit (.int .i64 0)),(.lit (.int .i64 4))] hn) fun vf hs=>
 cnd vf (
 bm (aa s.P 55 v3 1) hs fun vo hc=>
 bm (ab s.P 3 vo hc) hc fun vh hi=>
 bm (al s.P 236 vF vh hi) hi fun vi hW=>
 bm (ab s.P 1 vi hW) hW fun vN hU=>
 bp (yC s k wl 207 false true vN [] hU) fun vU hb=>
 av (xX s 207 wl k false) (aD s.P Tryz.f207) Cr .norm ⟨[a,d,b,v1,uu,v3,v5,v7,vB,vF,v9,vA,d,vC,vD,vB,vB,(.fn (.func 224) [vB] []),vB,(.fn (.func 225) [vB] []),vB,(.fn (.func 226) [vB] []),vB,(.fn (.func 227) [vB] []),vE,vP,d,vM,vf,vo,vh,vi,vN,vU,uu,uu,uu,uu,uu,uu,uu,uu],hb⟩) (
 av (xX s 207 wl k false) (aD s.P Tryz.f207) Cr .norm ⟨[a,d,b,v1,uu,v3,v5,v7,vB,vF,v9,vA,d,vC,vD,vB,vB,(.fn (.func 224) [vB] []),vB,(.fn (.func 225) [vB] []),vB,(.fn (.func 226) [vB] []),vB,(.fn (.func 227) [vB] []),vE,vP,d,vM,vf,uu,uu,uu,uu,uu,uu,uu,uu,uu,uu,uu,uu,uu],hs⟩))):=kB
theorem abL:evF Tryz.prog xM (k+1) wl 207 [a,d,b] h=ak (xX (xS k) 207 wl k false) Tryz.f207 [a,d,b] h:=by kernel_rfl
theorem MW:av (xX s 207 wl k false) (aD s.P Tryz.f207) Cr .norm ⟨[a,d,b,g,i,l,o,j,p,q,r,u,G,E,A,B,D,y,z,F,J,I,M,L,Q,N,O,T,R,t1,W,X,Z,Y,t0,U,t3,t4,t2,t7,t6,t5],h⟩ =
 bm (aN p h) h fun vS hd=>
 bm (aa s.P 235 vS 2) hd fun vq hj=>
 bm (ab s.P 26 vq hj) hj fun vl hX=>
 bm (aN p hX) hX fun va he=>
 bm (aa s.P 235 va 0) he fun vc hg=>
 bm (ab s.P 55 vc hg) hg fun vV hY=>
 bs (ai s.P wl 55 j vV hY) fun hL=>
 eg [some vl,ab s.P 55 j hL] hL:=kR
theorem wJ (cx:Cx) (s:St):av cx K Cr .ret s=K .ret s:=by kernel_rfl
-- names: aaC,MW,wJ
theorem ZB:ak (xX s 208 wl k false) Tryz.f208 [a,d,b] h =
 bp (aU a h) fun v1 h2=>
 bp (aU b h2) fun v3 h4=>
 bp (some (.own h4.length 0 0,h4++[.rows 0 [] 0 true])) fun v5 h6=>
 bp (aA s.P 55 h6) fun v7 h8=>
 bp (yC s k wl 208 false true (.fn (.func 76) [] []) [d] h8) fun v9 hA=>
 bp (aA s.P 26 hA) fun vA hB=>
 bs (ai s.P wl 26 vA v9 hB) fun h13=>
 bm (ab s.P 23 v1 h13) h13 fun vz ho=>
 bm (ab s.P 55 v3 ho) ho fun vr hu=>
 bp (yC s k wl 208 false true (.fn (.func 188) [] []) [vz,d,vr,(.lit (.int .i64 1)),(.lit (.int .i64 7))] hu) fun vm hq=>
 bm (vUn .not vm) hq fun vb hO=>
 cnd vb (
 bm (ab s.P 26 vA hO) hO fun vT hm=>
 bm (ab s.P 55 v3 hm) hm fun vP ha=>
 bs (ai s.P wl 55 v7 vP ha) fun hI=>
 eg [some vT,ab s.P 55 v7 hI] hI) (
 bp (aA s.P 3 hO) fun vG hH=>
 bm (ab s.P 23 v1 hH) hH fun vJ hM=>
 bm (aa s.P 55 v3 2) hM fun vL hN=>
 bm (ab s.P 3 vL hN) hN fun vK hP=>
 bp (yC s k wl 208 true true (.fn (.func 107) [] []) [vJ,vK] hP) fun vO hV=>
 stO hO.length v1 (
 bm (ab s.P 23 v1 hV) hV fun vW hS=>
 bm (aa s.P 55 v3 2) hS fun vX hT=>
 stO hO.length vX (
 bm (ab s.P 3 vX hT) hT fun vQ hQ=>
 bp (yC s k wl 208 true true (.fn (.func 108) [] []) [vW,vQ] hQ) fun vY hZ=>
 bs (ai s.P wl 3 vG vY hZ) fun hX=>
 bm (aa s.P 55 v3 1) hX fun va he=>
 bm (ab s.P 3 va he) he fun vc hg=>
 bm (az s.P .add 3 vc (.lit (.int .i64 1))) hg fun vV hY=>
 bm (aa s.P 55 v3 1) hY fun vZ hk=>
 bm (ab s.P 3 vZ hk) hk fun vR hr=>
 bm (az s.P .eql 3 vR (.lit (.int .i64 0))) hr fun vp ht=>
 cnd vp (
 bm (ab s.P 26 vA ht) ht fun vt hz=>
 bm (ab s.P 3 vG hz) hz fun v60 h61=>
 bp (yC s k wl 208 false true (.fn (.func 27) [] []) [vt,v60] h61) fun vx h63=>
 bm (az s.P .sub 46 vx (.lit (.int .u64 1))) h63 fun vw h65=>
 bm (aa s.P 55 v3 4) h65 fun vj h67=>
 bs (ai s.P wl 46 vj vw h67) fun h68=>
 bm (aa s.P 55 v3 1) h68 fun v69 h70=>
 bs (ai s.P wl 3 v69 vV h70) fun h71=>
 bm (ab s.P 26 vA h71) h71 fun v72 h73=>
 bm (ab s.P 55 v3 h73) h73 fun v74 h75=>
 bs (ai s.P wl 55 v7 v74 h75) fun h76=>
 eg [some v72,ab s.P 55 v7 h76] h76) (
 bm (az s.P .eql 3 vR (.lit (.int .i64 1))) ht fun v77 h78=>
 cnd v77 (
 bm (ab s.P 26 vA h78) h78 fun v79 h80=>
 bm (ab s.P 3 vG h80) h80 fun v81 h82=>
 bm (aa s.P 55 v3 4) h82 fun v83 h84=>
 bm (ab s.P 46 v83 h84) h84 fun v85 h86=>
 bp (yC s k wl 208 false true (.fn (.func 88) [] []) [v79,v81,v85] h86) fun v87 h88=>
 bs (ai s.P wl 26 vA v87 h88) fun h89=>
 bm (aa s.P 55 v3 1) h89 fun v90 h91=>
 bs (ai s.P wl 3 v90 vV h91) fun h92=>
 bm (ab s.P 26 vA h92) h92 fun v93 h94=>
 bm (ab s.P 55 v3 h94) h94 fun v95 h96=>
 bs (ai s.P wl 55 v7 v95 h96) fun h97=>
 eg [some v93,ab s.P 55 v7 h97] h97) (
 bm (az s.P .eql 3 vR (.lit (.int .i64 2))) h78 fun v98 h99=>
 cnd v98 (
 bm (ab s.P 26 vA h99) h99 fun v100 h101=>
 bp (yC s k wl 208 false true (.fn (.func 27) [] []) [v100,vO] h101) fun v102 h103=>
 bm (aa s.P 55 v3 5) h103 fun v104 h105=>
 bs (ai s.P wl 46 v104 v102 h105) fun h106=>
 bm (aa s.P 55 v3 4) h106 fun v107 h108=>
 bm (ab s.P 46 v107 h108) h108 fun v109 h110=>
 bm (aa s.P 55 v3 5) h110 fun v111 h112=>
 bm (ab s.P 46 v111 h112) h112 fun v113 h114=>
 bp (yC s k wl 208 false true (.fn (.func 106) [] []) [v109,v113] h114) fun v115 h116=>
 bm (az s.P .lss 3 v115 (.lit (.int .i64 0))) h116 fun v117 h118=>
 cnd v117 (
 bm (aa s.P 55 v3 1) h118 fun v119 h120=>
 bs (ai s.P wl 3 v119 (.lit (.int .i64 6)) h120) fun h121=>
 bm (ab s.P 26 vA h121) h121 fun v122 h123=>
 bm (ab s.P 55 v3 h123) h123 fun v124 h125=>
 bs (ai s.P wl 55 v7 v124 h125) fun h126=>
 eg [some v122,ab s.P 55 v7 h126] h126) (
 bm (aa s.P 55 v3 1) h118 fun v127 h128=>
 bs (ai s.P wl 3 v127 vV h128) fun h129=>
 bm (ab s.P 26 vA h129) h129 fun v130 h131=>
 bm (ab s.P 55 v3 h131) h131 fun v132 h133=>
 bs (ai s.P wl 55 v7 v132 h133) fun h134=>
 eg [some v130,ab s.P 55 v7 h134] h134)) (
 bm (az s.P .eql 3 vR (.lit (.int .i64 3))) h99 fun v135 h136=>
 cnd v135 (
 stO h136.length vA (
 bm (ab s.P 26 vA h136) h136 fun v137 h138=>
 bm (ab s.P 23 v1 h138) h138 fun v139 h140=>
 bm (aa s.P 55 v3 2) h140 fun v141 h142=>
 bm (ab s.P 3 v141 h142) h142 fun v143 h144=>
 bm (aa s.P 55 v3 4) h144 fun v145 h146=>
 bm (ab s.P 46 v145 h146) h146 fun v147 h148=>
 bp (yC s k wl 208 true true (.fn (.func 109) [] []) [v139,v143,v147] h148) fun v149 h150=>
 bp (yC s k wl 208 false true (.fn (.func 27) [] []) [v137,v149] h150) fun v151 h152=>
 bm (aa s.P 55 v3 3) h152 fun v153 h154=>
 bs (ai s.P wl 46 v153 v151 h154) fun h155=>
 bm (aa s.P 55 v3 4) h155 fun v156 h157=>
 bm (ab s.P 46 v156 h157) h157 fun v158 h159=>
 bm (aa s.P 55 v3 5) h159 fun v160 h161=>
 bm (ab s.P 46 v160 h161) h161 fun v162 h163=>
 bm (az s.P .neq 46 v158 v162) h163 fun v164 h165=>
 cnd v164 (
 stO h165.length vA (
 bm (ab s.P 26 vA h165) h165 fun v166 h167=>
 bm (ab s.P 55 v3 h167) h167 fun v168 h169=>
 bm (aa s.P 55 v3 3) h169 fun v170 h171=>
 bm (ab s.P 46 v170 h171) h171 fun v172 h173=>
 bp (yC s k wl 208 true true (.fn (.func 193) [] []) [v168,(.lit (.int .i64 1)),v172] h173) fun v174 h175=>
 bs (ai s.P wl 55 v7 v174 h175) fun h176=>
 eg [some v166,ab s.P 55 v7 h176] h176)) (
 bm (aa s.P 55 v3 1) h165 fun v177 h178=>
 bs (ai s.P wl 3 v177 vV h178) fun h179=>
 bm (ab s.P 26 vA h179) h179 fun v180 h181=>
 bm (ab s.P 55 v3 h181) h181 fun v182 h183=>
 bs (ai s.P wl 55 v7 v182 h183) fun h184=>
 eg [some v180,ab s.P 55 v7 h184] h184))) (
 bm (az s.P .eql 3 vR (.lit (.int .i64 4))) h136 fun v185 h186=>
 cnd v185 (
 bm (ab s.P 26 vA h186) h186 fun v187 h188=>
 bm (aa s.P 55 v3 5) h188 fun v189 h190=>
 bm (ab s.P 46 v189 h190) h190 fun v191 h192=>
 bm (aa s.P 55 v3 5) h192 fun v193 h194=>
 bm (ab s.P 46 v193 h194) h194 fun v195 h196=>
 bm (az s.P .add 46 v195 (.lit (.int .u64 1))) h196 fun v197 h198=>
 bp (yC s k wl 208 false true (.fn (.func 191) [] []) [v187,vO,v191,v197] h198) fun v199 h200=>
 bm (ar v199 0) h200 fun v201 h202=>
 bm (ar v199 1) h202 fun v203 h204=>
 bs (ai s.P wl 26 vA v201 h204) fun h205=>
 bm (vUn .not v203) h205 fun v206 h207=>
 cnd v206 (
 bm (aa s.P 55 v3 1) h207 fun v208 h209=>
 bs (ai s.P wl 3 v208 (.lit (.int .i64 6)) h209) fun h210=>
 bm (ab s.P 26 vA h210) h210 fun v211 h212=>
 bm (ab s.P 55 v3 h212) h212 fun v213 h214=>
 bs (ai s.P wl 55 v7 v213 h214) fun h215=>
 eg [some v211,ab s.P 55 v7 h215] h215) (
 bm (aa s.P 55 v3 1) h207 fun v216 h217=>
 bs (ai s.P wl 3 v216 vV h217) fun h218=>
 bm (ab s.P 26 vA h218) h218 fun v219 h220=>
 bm (ab s.P 55 v3 h220) h220 fun v221 h222=>
 bs (ai s.P wl 55 v7 v221 h222) fun h223=>
 eg [some v219,ab s.P 55 v7 h223] h223)) (
 bm (az s.P .eql 3 vR (.lit (.int .i64 5))) h186 fun v224 h225=>
 cnd v224 (
 bm (aa s.P 55 v3 3) h225 fun v226 h227=>
 bm (ab s.P 46 v226 h227) h227 fun v228 h229=>
 bp (yC s k wl 208 false true (.fn (.func 228) [] [vA,vG,v3]) [(.lit (.int .i64 1)),v228] h229) fun v230 h231=>
 bm (ar v230 0) h231 fun v232 h233=>
 bm (ar v230 1) h233 fun v234 h235=>
 bs (ai s.P wl 55 v7 v234 h235) fun h236=>
 eg [some v232,ab s.P 55 v7 h236] h236) (
 bp (yC s k wl 208 false true (.fn (.func 228) [] [vA,vG,v3]) [(.lit (.int .i64 3)),(.lit (.int .u64 0))] h225) fun v237 h238=>
 bm (ar v237 0) h238 fun v239 h240=>
 bm (ar v237 1) h240 fun v241 h242=>
 bs (ai s.P wl 55 v7 v241 h242) fun h243=>
 eg [some v239,ab s.P 55 v7 h243] h243))))))))):=kB
theorem abQ:evF Tryz.prog xM (k+1) wl 208 [a,d,b] h=ak (xX (xS k) 208 wl k false) Tryz.f208 [a,d,b] h:=by kernel_rfl
-- names: ZB,
noncomputable def BZ:Code:=am (an Tryz.f209) [1,0,1,1,1,1,1,0,1,0,0]
noncomputable def Cn:List Fr:=[.block 0,.seq (am (an Tryz.f209) [1,0,1,1,1,1,1,1]),.scope (am (an Tryz.f209) [1,0])]
theorem Ub:ak (xX s 209 wl k false) Tryz.f209 [a,d,b] h =
 bp (aU a h) fun v1 h2=>
 bp (aU b h2) fun v3 h4=>
 bp (some (.own h4.length 0 0,h4++[.rows 0 [] 0 true])) fun v5 h6=>
 bp (aA s.P 55 h6) fun v7 h8=>
 bp (yC s k wl 209 false true (.fn (.func 76) [] []) [d] h8) fun v9 hA=>
 bp (aA s.P 26 hA) fun vA hB=>
 bs (ai s.P wl 26 vA v9 hB) fun h13=>
 bm (ab s.P 23 v1 h13) h13 fun vz ho=>
 bm (ab s.P 55 v3 ho) ho fun vr hu=>
 bp (yC s k wl 209 false true (.fn (.func 188) [] []) [vz,d,vr,(.lit (.int .i64 2)),(.lit (.int .i64 4))] hu) fun vm hq=>
 bm (vUn .not vm) hq fun vb hO=>
 cnd vb (
 bm (ab s.P 26 vA hO) hO fun vT hm=>
 bm (ab s.P 55 v3 hm) hm fun vP ha=>
 bs (ai s.P wl 55 v7 vP ha) fun hI=>
 eg [some vT,ab s.P 55 v7 hI] hI) (
 bp (aA s.P 3 hO) fun vG hH=>
 bp (aA s.P 3 hH) fun vJ hM=>
 bm (ab s.P 23 v1 hM) hM fun vL hN=>
 bm (aa s.P 55 v3 2) hN fun vK hP=>
 bm (ab s.P 3 vK hP) hP fun vO hV=>
 bp (yC s k wl 209 true true (.fn (.func 107) [] []) [vL,vO] hV) fun vW hS=>
 stO hO.length v1 (
 bm (ab s.P 23 v1 hS) hS fun vX hT=>
 bm (aa s.P 55 v3 2) hT fun vQ hQ=>
 stO hO.length vQ (
 bm (ab s.P 3 vQ hQ) hQ fun vY hZ=>
 bp (yC s k wl 209 true true (.fn (.func 108) [] []) [vX,vY] hZ) fun vd hK=>
 bs (ai s.P wl 3 vG vW hK) fun he=>
 bs (ai s.P wl 3 vJ vd he) fun hf=>
 bp (aK s.P wl 238 4 [(0,(.fn (.func 229) [] [vA,vG,v3])),(1,(.fn (.func 230) [] [vA,vJ,v3])),(2,(.fn (.func 231) [] [vA,v1,v3])),(3,(.fn (.func 232) [] [vA,vG,v3]))] hf) fun ve hl=>
 bp (bw s.P 238 ve hl) fun vs hL=>
 yI s k wl 209 Tryz.f209 BZ hL.length Cn k ⟨[(V.kill hL.length a),(V.kill hL.length d),(V.kill hL.length b),(V.kill hL.length v1),(V.kill hL.length uu),(V.kill hL.length v3),(V.kill hL.length v5),(V.kill hL.length v7),(V.kill hL.length vA),(V.kill hL.length vG),(V.kill hL.length vJ),(V.kill hL.length ve),(V.kill hL.length uu),(V.kill hL.length uu),(V.kill hL.length d),(V.kill hL.length v9),(V.kill hL.length vz),(V.kill hL.length d),(V.kill hL.length vr),(V.kill hL.length vm),(V.kill hL.length vb),(V.kill hL.length uu),(V.kill hL.length uu),(V.kill hL.length vL),(V.kill hL.length vK),(V.kill hL.length vO),(V.kill hL.length vW),(V.kill hL.length vX),(V.kill hL.length vQ),(V.kill hL.length vY),(V.kill hL.length vd),(V.kill hL.length (.fn (.func 229) [] [vA,vG,v3])),(V.kill hL.length (.fn (.func 230) [] [vA,vJ,v3])),(V.kill hL.length (.fn (.func 231) [] [vA,v1,v3])),(V.kill hL.length (.fn (.func 232) [] [vA,vG,v3])),(V.kill hL.length ve),(V.kill hL.length ve),(V.kill hL.length vs),(.lit (.int .i64 0)),.junk,.junk,.junk,.junk,.junk,.junk,.junk,.junk,.junk,.junk,.junk,.junk,.junk,.junk,.junk,.junk,.junk,.junk,(V.kill hL.length uu),(V.kill hL.length uu)],co hL.length hL⟩))):=kB
theorem ZV:evF Tryz.prog xM (k+1) wl 209 [a,d,b] h=ak (xX (xS k) 209 wl k false) Tryz.f209 [a,d,b] h:=by kernel_rfl
theorem Td (P:Program):aD P Tryz.f209 .ret ⟨[a,d,b,g,i,l,o,j,p,q,r,u,G,E,A,B,D,y,z,F,J,I,M,L,Q,N,O,T,R,t1,W,X,Z,Y,t0,U,t3,t4,t2,t7,t6,t5,t8,tc,th,td,ta,ti,te,tj,tf,tg,tb,t9,tm,tn,tp,tk,tl],h⟩=eg [some o,ab P 55 j h] h:=by kernel_rfl
theorem Mc:itX (xX s 209 wl k rd) BZ n0 K (n+1) ⟨[a,d,b,g,i,l,o,j,p,q,r,u,G,E,A,B,D,y,z,F,J,I,M,L,Q,N,O,T,R,t1,W,X,Z,Y,t0,U,t3,t4,t2,t7,t6,t5,t8,tc,th,td,ta,ti,te,tj,tf,tg,tb,t9,tm,tn,tp,tk,tl],h⟩ =
 bm (az s.P .lss 3 t2 t4) h fun vn hh=>
 cnd vn (
 bm (al s.P 238 t3 t2 hh) hh fun vv hp=>
 bm (ab s.P 1 vv hp) hp fun vy hx=>
 bm (aa s.P 55 l 1) hx fun v59 hy=>
 bm (ab s.P 3 v59 hy) hy fun v61 hw=>
 bm (az s.P .neq 3 t2 v61) hw fun v63 h64=>
 cnd v63 (
 bm (az s.P .add 3 t2 (.lit (.int .i64 1))) h64 fun v65 h66=>
 itX (xX s 209 wl k rd) BZ n0 K n ⟨[(V.kill n0 a),(V.kill n0 d),(V.kill n0 b),(V.kill n0 g),(V.kill n0 i),(V.kill n0 l),(V.kill n0 o),(V.kill n0 j),(V.kill n0 p),(V.kill n0 q),(V.kill n0 r),(V.kill n0 u),(V.kill n0 t2),(V.kill n0 vy),(V.kill n0 A),(V.kill n0 B),(V.kill n0 D),(V.kill n0 y),(V.kill n0 z),(V.kill n0 F),(V.kill n0 J),(V.kill n0 I),(V.kill n0 M),(V.kill n0 L),(V.kill n0 Q),(V.kill n0 N),(V.kill n0 O),(V.kill n0 T),(V.kill n0 R),(V.kill n0 t1),(V.kill n0 W),(V.kill n0 X),(V.kill n0 Z),(V.kill n0 Y),(V.kill n0 t0),(V.kill n0 U),(V.kill n0 t3),(V.kill n0 t4),(V.kill n0 v65),.junk,.junk,.junk,.junk,.junk,.junk,.junk,.junk,.junk,.junk,.junk,.junk,.junk,.junk,.junk,.junk,.junk,.junk,(V.kill n0 tk),(V.kill n0 tl)],co n0 h66⟩) (
 bp (dW (xX s 209 wl k rd) false true vy [] h64) fun v67 h68=>
 bm (ab s.P 55 l h68) h68 fun v69 h70=>
 bp (dW (xX s 209 wl k rd) false true (.fn (.func 110) [] []) [v69] h70) fun v71 h72=>
 bm (vUn .not v71) h72 fun vu hv=>
 cnd vu (
 bm (aa s.P 55 l 1) hv fun v75 h76=>
 bm (ab s.P 3 v75 h76) h76 fun v77 h78=>
 bm (az s.P .add 3 v77 (.lit (.int .i64 1))) h78 fun v79 h80=>
 bm (aa s.P 55 l 1) h80 fun v81 h82=>
 bs (ai s.P wl 3 v81 v79 h82) fun h83=>
 K (.exit 0) ⟨[(V.kill n0 a),(V.kill n0 d),(V.kill n0 b),(V.kill n0 g),(V.kill n0 i),(V.kill n0 l),(V.kill n0 o),(V.kill n0 j),(V.kill n0 p),(V.kill n0 q),(V.kill n0 r),(V.kill n0 u),(V.kill n0 t2),(V.kill n0 vy),(V.kill n0 A),(V.kill n0 B),(V.kill n0 D),(V.kill n0 y),(V.kill n0 z),(V.kill n0 F),(V.kill n0 J),(V.kill n0 I),(V.kill n0 M),(V.kill n0 L),(V.kill n0 Q),(V.kill n0 N),(V.kill n0 O),(V.kill n0 T),(V.kill n0 R),(V.kill n0 t1),(V.kill n0 W),(V.kill n0 X),(V.kill n0 Z),(V.kill n0 Y),(V.kill n0 t0),(V.kill n0 U),(V.kill n0 t3),(V.kill n0 t4),.junk,.junk,.junk,.junk,.junk,.junk,.junk,.junk,.junk,.junk,.junk,.junk,.junk,.junk,.junk,.junk,.junk,.junk,.junk,(V.kill n0 tk),(V.kill n0 tl)],co n0 h83⟩) (
 K (.exit 0) ⟨[(V.kill n0 a),(V.kill n0 d),(V.kill n0 b),(V.kill n0 g),(V.kill n0 i),(V.kill n0 l),(V.kill n0 o),(V.kill n0 j),(V.kill n0 p),(V.kill n0 q),(V.kill n0 r),(V.kill n0 u),(V.kill n0 t2),(V.kill n0 vy),(V.kill n0 A),(V.kill n0 B),(V.kill n0 D),(V.kill n0 y),(V.kill n0 z),(V.kill n0 F),(V.kill n0 J),(V.kill n0 I),(V.kill n0 M),(V.kill n0 L),(V.kill n0 Q),(V.kill n0 N),(V.kill n0 O),(V.kill n0 T),(V.kill n0 R),(V.kill n0 t1),(V.kill n0 W),(V.kill n0 X),(V.kill n0 Z),(V.kill n0 Y),(V.kill n0 t0),(V.kill n0 U),(V.kill n0 t3),(V.kill n0 t4),.junk,.junk,.junk,.junk,.junk,.junk,.junk,.junk,.junk,.junk,.junk,.junk,.junk,.junk,.junk,.junk,.junk,.junk,.junk,(V.kill n0 tk),(V.kill n0 tl)],co n0 hv⟩))) (
 K (.exit 0) ⟨[(V.kill n0 a),(V.kill n0 d),(V.kill n0 b),(V.kill n0 g),(V.kill n0 i),(V.kill n0 l),(V.kill n0 o),(V.kill n0 j),(V.kill n0 p),(V.kill n0 q),(V.kill n0 r),(V.kill n0 u),(V.kill n0 G),(V.kill n0 E),(V.kill n0 A),(V.kill n0 B),(V.kill n0 D),(V.kill n0 y),(V.kill n0 z),(V.kill n0 F),(V.kill n0 J),(V.kill n0 I),(V.kill n0 M),(V.kill n0 L),(V.kill n0 Q),(V.kill n0 N),(V.kill n0 O),(V.kill n0 T),(V.kill n0 R),(V.kill n0 t1),(V.kill n0 W),(V.kill n0 X),(V.kill n0 Z),(V.kill n0 Y),(V.kill n0 t0),(V.kill n0 U),(V.kill n0 t3),(V.kill n0 t4),.junk,.junk,.junk,.junk,.junk,.junk,.junk,.junk,.junk,.junk,.junk,.junk,.junk,.junk,.junk,.junk,.junk,.junk,.junk,(V.kill n0 tk),(V.kill n0 tl)],co n0 hh⟩):=kI
theorem FH:av (xX s 209 wl k false) (aD s.P Tryz.f209) Cn (.exit 0) ⟨[a,d,b,g,i,l,o,j,p,q,r,u,G,E,A,B,D,y,z,F,J,I,M,L,Q,N,O,T,R,t1,W,X,Z,Y,t0,U,t3,t4,t2,t7,t6,t5,t8,tc,th,td,ta,ti,te,tj,tf,tg,tb,t9,tm,tn,tp,tk,tl],h⟩ =
 bm (ab s.P 26 p h) h fun v84 h85=>
 bm (ab s.P 55 l h85) h85 fun v86 h87=>
 bs (ai s.P wl 55 j v86 h87) fun h88=>
 eg [some v84,ab s.P 55 j h88] h88:=kR
theorem od (cx:Cx) (s:St):av cx K Cn .ret s=K .ret s:=by kernel_rfl
-- names: Ub,Td,Mc,FH,od
theorem NN:ak (xX s 215 wl k false) Tryz.f215 [a] h =
 bp (yC s k wl 215 false true (.fn (.func 216) [] []) [a] h) fun v1 h2=>
 bm (ar v1 0) h2 fun v3 h4=>
 bm (ar v1 1) h4 fun v5 h6=>
 bm (l8 true [v5,(.lit (.int .i64 0))]) h6 fun v7 h8=>
 bm (gB s.P 3 46 v7) h8 fun v9 hA=>
 some (.tup [v3,v9],hA):=kB
theorem Wy:evF Tryz.prog xM (k+1) wl 215 [a] h=ak (xX (xS k) 215 wl k false) Tryz.f215 [a] h:=by kernel_rfl
-- names: NN,
theorem OC:ak (xX s 217 wl k false) Tryz.f217 [a] h =
 bp (yC s k wl 217 false true (.fn (.func 218) [] []) [a] h) fun v1 h2=>
 bp (yC s k wl 217 false true (.fn (.func 192) [] []) [a] h2) fun v3 h4=>
 some (.tup [v1,v3],h4):=kB
theorem V1:evF Tryz.prog xM (k+1) wl 217 [a] h=ak (xX (xS k) 217 wl k false) Tryz.f217 [a] h:=by kernel_rfl
-- names: OC,
theorem ZA:ak (xX s 224 wl k false) Tryz.f224 [a] h =
 stO h.length a (
 bm (aN a h) h fun v1 h2=>
 bm (aa s.P 235 v1 2) h2 fun v3 h4=>
 stO h.length v3 (
 bm (ab s.P 26 v3 h4) h4 fun v5 h6=>
 bm (aN a h6) h6 fun v7 h8=>
 bm (aa s.P 235 v7 1) h8 fun v9 hA=>
 bm (ab s.P 23 v9 hA) hA fun vA hB=>
 bm (aN a hB) hB fun vC hC=>
 bm (aa s.P 235 vC 0) hC fun vD hD=>
 bm (aa s.P 55 vD 2) hD fun vB hE=>
 bm (ab s.P 3 vB hE) hE fun vE hF=>
 bp (yC s k wl 224 true true (.fn (.func 108) [] []) [vA,vE] hF) fun vF hG=>
 bp (yC s k wl 224 false true (.fn (.func 27) [] []) [v5,vF] hG) fun vH hJ=>
 bm (aN a hJ) hJ fun vI hI=>
 bm (aa s.P 235 vI 0) hI fun vG hH=>
 bm (aa s.P 55 vG 4) hH fun vJ hM=>
 bs (ai s.P wl 46 vJ vH hM) fun hc=>
 bm (aN a hc) hc fun vh hi=>
 bm (aa s.P 235 vh 0) hi fun vi hW=>
 bm (aa s.P 55 vi 1) hW fun vN hU=>
 bs (ai s.P wl 3 vN (.lit (.int .i64 1)) hU) fun hS=>
 some (.tup [],hS))):=kB
theorem aco:evF Tryz.prog xM (k+1) wl 224 [a] h=ak (xX (xS k) 224 wl k false) Tryz.f224 [a] h:=by kernel_rfl
-- names: ZA,
theorem Xs:ak (xX s 225 wl k false) Tryz.f225 [a] h =
 stO h.length a (
 bm (aN a h) h fun v1 h2=>
 bm (aa s.P 235 v1 2) h2 fun v3 h4=>
 stO h.length v3 (
 bm (ab s.P 26 v3 h4) h4 fun v5 h6=>
 bm (aN a h6) h6 fun v7 h8=>
 bm (aa s.P 235 v7 1) h8 fun v9 hA=>
 bm (ab s.P 23 v9 hA) hA fun vA hB=>
 bm (aN a hB) hB fun vC hC=>
 bm (aa s.P 235 vC 0) hC fun vD hD=>
 bm (aa s.P 55 vD 2) hD fun vB hE=>
 bm (ab s.P 3 vB hE) hE fun vE hF=>
 bp (yC s k wl 225 true true (.fn (.func 107) [] []) [vA,vE] hF) fun vF hG=>
 bp (yC s k wl 225 false true (.fn (.func 27) [] []) [v5,vF] hG) fun vH hJ=>
 bm (aN a hJ) hJ fun vI hI=>
 bm (aa s.P 235 vI 0) hI fun vG hH=>
 bm (aa s.P 55 vG 5) hH fun vJ hM=>
 bs (ai s.P wl 46 vJ vH hM) fun hc=>
 bm (aN a hc) hc fun vh hi=>
 bm (aa s.P 235 vh 0) hi fun vi hW=>
 bm (aa s.P 55 vi 1) hW fun vN hU=>
 bs (ai s.P wl 3 vN (.lit (.int .i64 2)) hU) fun hS=>
 bm (aN a hS) hS fun vX hT=>
 bm (aa s.P 235 vX 0) hT fun vQ hQ=>
 bm (aa s.P 55 vQ 4) hQ fun vY hZ=>
 bm (ab s.P 46 vY hZ) hZ fun vd hK=>
 bm (aN a hK) hK fun vk hf=>
 bm (aa s.P 235 vk 0) hf fun ve hl=>
 bm (aa s.P 55 ve 5) hl fun vs hL=>
 bm (ab s.P 46 vs hL) hL fun vn hh=>
 bm (az s.P .sub 46 vd vn) hh fun vv hp=>
 bm (aN a hp) hp fun vy hx=>
 bm (aa s.P 235 vy 1) hx fun v59 hy=>
 bm (aa s.P 23 v59 1) hy fun v61 hw=>
 bm (ab s.P 3 v61 hw) hw fun v63 h64=>
 bm (gB s.P 3 46 v63) h64 fun v65 h66=>
 bm (az s.P .geq 46 vv v65) h66 fun v67 h68=>
 cnd v67 (
 bm (aN a h68) h68 fun v69 h70=>
 bm (aa s.P 235 v69 0) h70 fun v71 h72=>
 bm (ab s.P 55 v71 h72) h72 fun vu hv=>
 bm (aN a hv) hv fun v75 h76=>
 bm (aa s.P 235 v75 0) h76 fun v77 h78=>
 bm (aa s.P 55 v77 3) h78 fun v79 h80=>
 bm (ab s.P 46 v79 h80) h80 fun v81 h82=>
 bp (yC s k wl 225 false true (.fn (.func 193) [] []) [vu,(.lit (.int .i64 2)),v81] h82) fun v83 h84=>
 bm (aN a h84) h84 fun v85 h86=>
 bm (aa s.P 235 v85 0) h86 fun v87 h88=>
 bs (ai s.P wl 55 v87 v83 h88) fun h89=>
 some (.tup [],h89)) (
 some (.tup [],h68)))):=kB
theorem aeE:evF Tryz.prog xM (k+1) wl 225 [a] h=ak (xX (xS k) 225 wl k false) Tryz.f225 [a] h:=by kernel_rfl
-- names: Xs,
theorem Xg:ak (xX s 226 wl k false) Tryz.f226 [a] h =
 stO h.length a (
 bm (aN a h) h fun v1 h2=>
 bm (aa s.P 235 v1 2) h2 fun v3 h4=>
 stO h.length v3 (
 bm (ab s.P 26 v3 h4) h4 fun v5 h6=>
 bm (aN a h6) h6 fun v7 h8=>
 bm (aa s.P 235 v7 1) h8 fun v9 hA=>
 bm (ab s.P 23 v9 hA) hA fun vA hB=>
 bm (aN a hB) hB fun vC hC=>
 bm (aa s.P 235 vC 0) hC fun vD hD=>
 bm (aa s.P 55 vD 2) hD fun vB hE=>
 bm (ab s.P 3 vB hE) hE fun vE hF=>
 bm (aN a hF) hF fun vF hG=>
 bm (aa s.P 235 vF 0) hG fun vH hJ=>
 bm (aa s.P 55 vH 4) hJ fun vI hI=>
 bm (ab s.P 46 vI hI) hI fun vG hH=>
 bp (yC s k wl 226 true true (.fn (.func 109) [] []) [vA,vE,vG] hH) fun vJ hM=>
 stO h.length a (
 bm (aN a hM) hM fun vL hN=>
 bm (aa s.P 235 vL 0) hN fun vK hP=>
 bm (aa s.P 55 vK 3) hP fun vO hV=>
 stO h.length vO (
 bm (ab s.P 46 vO hV) hV fun vW hS=>
 bp (yC s k wl 226 false true (.fn (.func 88) [] []) [v5,vJ,vW] hS) fun vX hT=>
 bm (aN a hT) hT fun vQ hQ=>
 bm (aa s.P 235 vQ 2) hQ fun vY hZ=>
 bs (ai s.P wl 26 vY vX hZ) fun hX=>
 bm (aN a hX) hX fun va he=>
 bm (aa s.P 235 va 0) he fun vc hg=>
 bm (aa s.P 55 vc 1) hg fun vV hY=>
 bs (ai s.P wl 3 vV (.lit (.int .i64 3)) hY) fun hL=>
 some (.tup [],hL))))):=kB
theorem adP:evF Tryz.prog xM (k+1) wl 226 [a] h=ak (xX (xS k) 226 wl k false) Tryz.f226 [a] h:=by kernel_rfl
-- names: Xg,
theorem Xi:ak (xX s 227 wl k false) Tryz.f227 [a] h =
 stO h.length a (
 bm (aN a h) h fun v1 h2=>
 bm (aa s.P 235 v1 2) h2 fun v3 h4=>
 stO h.length v3 (
 bm (ab s.P 26 v3 h4) h4 fun v5 h6=>
 bm (aN a h6) h6 fun v7 h8=>
 bm (aa s.P 235 v7 1) h8 fun v9 hA=>
 bm (ab s.P 23 v9 hA) hA fun vA hB=>
 bm (aN a hB) hB fun vC hC=>
 bm (aa s.P 235 vC 0) hC fun vD hD=>
 bm (aa s.P 55 vD 2) hD fun vB hE=>
 bm (ab s.P 3 vB hE) hE fun vE hF=>
 bp (yC s k wl 227 true true (.fn (.func 108) [] []) [vA,vE] hF) fun vF hG=>
 stO h.length a (
 bm (aN a hG) hG fun vH hJ=>
 bm (aa s.P 235 vH 0) hJ fun vI hI=>
 bm (aa s.P 55 vI 4) hI fun vG hH=>
 stO h.length vG (
 bm (ab s.P 46 vG hH) hH fun vJ hM=>
 bm (az s.P .add 46 vJ (.lit (.int .u64 1))) hM fun vL hN=>
 bp (yC s k wl 227 false true (.fn (.func 88) [] []) [v5,vF,vL] hN) fun vK hP=>
 bm (aN a hP) hP fun vO hV=>
 bm (aa s.P 235 vO 2) hV fun vW hS=>
 bs (ai s.P wl 26 vW vK hS) fun hb=>
 bm (aN a hb) hb fun vS hd=>
 bm (aa s.P 235 vS 0) hd fun vq hj=>
 bm (ab s.P 55 vq hj) hj fun vl hX=>
 bm (aN a hX) hX fun va he=>
 bm (aa s.P 235 va 0) he fun vc hg=>
 bm (aa s.P 55 vc 3) hg fun vV hY=>
 bm (ab s.P 46 vV hY) hY fun vZ hk=>
 bp (yC s k wl 227 false true (.fn (.func 193) [] []) [vl,(.lit (.int .i64 1)),vZ] hk) fun vR hr=>
 bm (aN a hr) hr fun vp ht=>
 bm (aa s.P 235 vp 0) ht fun vt hz=>
 bs (ai s.P wl 55 vt vR hz) fun hy=>
 some (.tup [],hy))))):=kB
theorem adZ:evF Tryz.prog xM (k+1) wl 227 [a] h=ak (xX (xS k) 227 wl k false) Tryz.f227 [a] h:=by kernel_rfl
-- names: Xi,
theorem aad:ak (xX s 228 wl k false) Tryz.f228 [a,d,b,g,i] h =
 bp (some (.own h.length 0 0,h++[.rows 0 [] 0 true])) fun v1 h2=>
 bp (aA s.P 55 h2) fun v3 h4=>
 bm (ab s.P 26 b h4) h4 fun v5 h6=>
 bm (ab s.P 3 g h6) h6 fun v7 h8=>
 bm (aa s.P 55 i 4) h8 fun v9 hA=>
 bm (ab s.P 46 v9 hA) hA fun vA hB=>
 bm (az s.P .add 46 vA (.lit (.int .u64 1))) hB fun vC hC=>
 bp (yC s k wl 228 true true (.fn (.func 88) [] []) [v5,v7,vC] hC) fun vD hD=>
 stO h4.length i (
 bm (ab s.P 55 i hD) hD fun vB hE=>
 bp (yC s k wl 228 false true (.fn (.func 193) [] []) [vB,a,d] hE) fun vE hF=>
 bs (ai s.P wl 55 v3 vE hF) fun hO=>
 eg [some vD,ab s.P 55 v3 hO] hO):=kB
theorem ad6:evF Tryz.prog xM (k+1) wl 228 [a,d,b,g,i] h=ak (xX (xS k) 228 wl k false) Tryz.f228 [a,d,b,g,i] h:=by kernel_rfl
-- names: aad,
theorem Tx:ak (xX s 229 wl k false) Tryz.f229 [a,d,b] h =
 bm (ab s.P 26 a h) h fun v1 h2=>
 bm (ab s.P 3 d h2) h2 fun v3 h4=>
 bp (yC s k wl 229 false true (.fn (.func 27) [] []) [v1,v3] h4) fun v5 h6=>
 bm (aa s.P 55 b 5) h6 fun v7 h8=>
 bs (ai s.P wl 46 v7 v5 h8) fun h9=>
 some (.tup [],h9):=kB
theorem ZF:evF Tryz.prog xM (k+1) wl 229 [a,d,b] h=ak (xX (xS k) 229 wl k false) Tryz.f229 [a,d,b] h:=by kernel_rfl
-- names: Tx,
theorem UY:ak (xX s 230 wl k false) Tryz.f230 [a,d,b] h =
 bm (ab s.P 26 a h) h fun v1 h2=>
 bm (ab s.P 3 d h2) h2 fun v3 h4=>
 bp (yC s k wl 230 false true (.fn (.func 27) [] []) [v1,v3] h4) fun v5 h6=>
 bm (aa s.P 55 b 4) h6 fun v7 h8=>
 bs (ai s.P wl 46 v7 v5 h8) fun h9=>
 bm (aa s.P 55 b 4) h9 fun v10 h11=>
 bm (ab s.P 46 v10 h11) h11 fun v12 h13=>
 bm (aa s.P 55 b 5) h13 fun vz ho=>
 bm (ab s.P 46 vz ho) ho fun vr hu=>
 bp (yC s k wl 230 false true (.fn (.func 106) [] []) [v12,vr] hu) fun vm hq=>
 bm (az s.P .leq 3 vm (.lit (.int .i64 0))) hq fun vb hO=>
 cnd vb (
 bm (ab s.P 55 b hO) hO fun vT hm=>
 bp (yC s k wl 230 false true (.fn (.func 193) [] []) [vT,(.lit (.int .i64 3)),(.lit (.int .u64 0))] hm) fun vP ha=>
 bs (ai s.P wl 55 b vP ha) fun hI=>
 some (.tup [],hI)) (
 some (.tup [],hO)):=kB
theorem Xe:evF Tryz.prog xM (k+1) wl 230 [a,d,b] h=ak (xX (xS k) 230 wl k false) Tryz.f230 [a,d,b] h:=by kernel_rfl
-- names: UY,
theorem VX:ak (xX s 231 wl k false) Tryz.f231 [a,d,b] h =
 stO h.length a (
 bm (ab s.P 26 a h) h fun v1 h2=>
 bm (ab s.P 23 d h2) h2 fun v3 h4=>
 bm (aa s.P 55 b 2) h4 fun v5 h6=>
 bm (ab s.P 3 v5 h6) h6 fun v7 h8=>
 bm (aa s.P 55 b 5) h8 fun v9 hA=>
 bm (ab s.P 46 v9 hA) hA fun vA hB=>
 bp (yC s k wl 231 true true (.fn (.func 109) [] []) [v3,v7,vA] hB) fun vC hC=>
 bp (yC s k wl 231 false true (.fn (.func 27) [] []) [v1,vC] hC) fun vD hD=>
 bm (aa s.P 55 b 3) hD fun vB hE=>
 bs (ai s.P wl 46 vB vD hE) fun hq=>
 some (.tup [],hq)):=kB
theorem YR:evF Tryz.prog xM (k+1) wl 231 [a,d,b] h=ak (xX (xS k) 231 wl k false) Tryz.f231 [a,d,b] h:=by kernel_rfl
-- names: VX,
theorem V5:ak (xX s 232 wl k false) Tryz.f232 [a,d,b] h =
 bm (ab s.P 26 a h) h fun v1 h2=>
 bm (ab s.P 3 d h2) h2 fun v3 h4=>
 bm (aa s.P 55 b 5) h4 fun v5 h6=>
 bm (ab s.P 46 v5 h6) h6 fun v7 h8=>
 bm (aa s.P 55 b 5) h8 fun v9 hA=>
 bm (ab s.P 46 v9 hA) hA fun vA hB=>
 bm (az s.P .add 46 vA (.lit (.int .u64 1))) hB fun vC hC=>
 bp (yC s k wl 232 false true (.fn (.func 191) [] []) [v1,v3,v7,vC] hC) fun vD hD=>
 bm (ar vD 0) hD fun vB hE=>
 bm (ar vD 1) hE fun vE hF=>
 bs (ai s.P wl 26 a vB hF) fun hO=>
 cnd vE (
 bm (ab s.P 55 b hO) hO fun vT hm=>
 bm (aa s.P 55 b 3) hm fun vP ha=>
 bm (ab s.P 46 vP ha) ha fun vM hn=>
 bp (yC s k wl 232 false true (.fn (.func 193) [] []) [vT,(.lit (.int .i64 1)),vM] hn) fun vf hs=>
 bs (ai s.P wl 55 b vf hs) fun hM=>
 some (.tup [],hM)) (
 bm (ab s.P 55 b hO) hO fun vL hN=>
 bp (yC s k wl 232 false true (.fn (.func 193) [] []) [vL,(.lit (.int .i64 4)),(.lit (.int .u64 0))] hN) fun vK hP=>
 bs (ai s.P wl 55 b vK hP) fun hW=>
 some (.tup [],hW)):=kB
theorem WP:evF Tryz.prog xM (k+1) wl 232 [a,d,b] h=ak (xX (xS k) 232 wl k false) Tryz.f232 [a,d,b] h:=by kernel_rfl
-- names: V5,
end
end Go.Ab
set_option maxRecDepth 100000
set_option linter.unusedVariables false
namespace Go.Ab
open Go.Proofs
section
variable (s:Sys) (k wl:Nat) (m0:Nat) (ac:List Nat×List Nat) (a b d e n o g i j p q r l u y v E A F B D z Q L R M I T N U O J G W X Y Z t0:V) (h:Hp) (K:Out→St→Option (V×Hp)) (rd:Bool) (zz:List V)
noncomputable def CO:List Fr:=[.seq (am (an Tryz.f165) [1,1,1,1])]
theorem Z4:ak (xX s 165 wl k false) Tryz.f165 [a,b,d] h =
 bp (aU a h) fun v1 h2=>
 bp (aU d h2) fun v3 h4=>
 bp (some (.own h4.length 0 0,h4++[.rows 0 [] 0 true])) fun v5 h6=>
 bp (aA s.P 55 h6) fun v7 h8=>
 stO h8.length v3 (
 bm (ab s.P 55 v3 h8) h8 fun v9 hA=>
 stO h8.length v1 (
 bm (ab s.P 23 v1 hA) hA fun vA hB=>
 bp (yC s k wl 165 true true (.fn (.func 76) [] []) [b] hB) fun vC hC=>
 bm (bc s.P 205 [(0,v9),(1,vA),(2,vC)]) hC fun vD hD=>
 bp (aU vD hD) fun vB hE=>
 bp (aK s.P wl 207 5 [(0,(.fn (.func 183) [] [])),(1,(.fn (.func 184) [] [])),(2,(.fn (.func 185) [] [])),(3,(.fn (.func 186) [] [])),(4,(.fn (.func 187) [] []))] hE) fun vE hF=>
 bm (ab s.P 23 v1 hF) hF fun vF hG=>
 bm (ab s.P 55 v3 hG) hG fun vH hJ=>
 bp (bw s.P 207 vE hJ) fun vI hI=>
 bp (yC s k wl 165 false true (.fn (.func 188) [] []) [vF,b,vH,(.lit (.int .i64 5)),vI] hI) fun vG hH=>
 cnd vG (
 bm (aa s.P 55 v3 1) hH fun vJ hM=>
 bm (ab s.P 3 vJ hM) hM fun vL hN=>
 bm (al s.P 207 vE vL hN) hN fun vK hP=>
 bm (ab s.P 206 vK hP) hP fun vO hV=>
 bp (yC s k wl 165 false true vO [vB] hV) fun vW hS=>
 av (xX s 165 wl k false) (aD s.P Tryz.f165) CO .norm ⟨[a,b,d,v1,uu,v3,v5,v7,vB,vE,v9,vA,b,vC,vD,vB,vE,vF,b,vH,vE,vI,vG,vE,vJ,vL,vK,vO,vB,vW,uu,uu,uu,uu,uu,uu,uu,uu],hS⟩) (
 av (xX s 165 wl k false) (aD s.P Tryz.f165) CO .norm ⟨[a,b,d,v1,uu,v3,v5,v7,vB,vE,v9,vA,b,vC,vD,vB,vE,vF,b,vH,vE,vI,vG,uu,uu,uu,uu,uu,uu,uu,uu,uu,uu,uu,uu,uu,uu,uu],hH⟩))):=kB
theorem ac8:evF Tryz.prog xM (k+1) wl 165 [a,b,d] h=ak (xX (xS k) 165 wl k false) Tryz.f165 [a,b,d] h:=by kernel_rfl
theorem KE:av (xX s 165 wl k false) (aD s.P Tryz.f165) CO .norm ⟨[a,b,d,e,n,o,g,i,j,p,q,r,l,u,y,v,E,A,F,B,D,z,Q,L,R,M,I,T,N,U,O,J,G,W,X,Y,Z,t0],h⟩ =
 bm (aN j h) h fun vX hT=>
 bm (aa s.P 205 vX 2) hT fun vQ hQ=>
 bm (ab s.P 26 vQ hQ) hQ fun vY hZ=>
 bm (aN j hZ) hZ fun vd hK=>
 bm (aa s.P 205 vd 0) hK fun vk hf=>
 bm (ab s.P 55 vk hf) hf fun ve hl=>
 bs (ai s.P wl 55 i ve hl) fun hY=>
 eg [some vY,ab s.P 55 i hY] hY:=kR
theorem uK (cx:Cx) (s:St):av cx K CO .ret s=K .ret s:=by kernel_rfl
-- names: Z4,KE,uK
theorem aav:ak (xX s 183 wl k false) Tryz.f183 [a] h =
 bm (aN a h) h fun v1 h2=>
 bm (aa s.P 205 v1 2) h2 fun v3 h4=>
 bm (ab s.P 26 v3 h4) h4 fun v5 h6=>
 bp (yC s k wl 183 false true (.fn (.func 27) [] []) [v5,(.lit (.int .i64 2))] h6) fun v7 h8=>
 bm (aN a h8) h8 fun v9 hA=>
 bm (aa s.P 205 v9 0) hA fun vA hB=>
 bm (aa s.P 55 vA 4) hB fun vC hC=>
 bs (ai s.P wl 46 vC v7 hC) fun ho=>
 bm (aN a ho) ho fun vr hu=>
 bm (aa s.P 205 vr 0) hu fun vm hq=>
 bm (aa s.P 55 vm 1) hq fun vb hO=>
 bs (ai s.P wl 3 vb (.lit (.int .i64 1)) hO) fun hG=>
 some (.tup [],hG):=kB
theorem adf:evF Tryz.prog xM (k+1) wl 183 [a] h=ak (xX (xS k) 183 wl k false) Tryz.f183 [a] h:=by kernel_rfl
-- names: aav,
theorem aam:ak (xX s 184 wl k false) Tryz.f184 [a] h =
 bm (aN a h) h fun v1 h2=>
 bm (aa s.P 205 v1 2) h2 fun v3 h4=>
 bm (ab s.P 26 v3 h4) h4 fun v5 h6=>
 bp (yC s k wl 184 false true (.fn (.func 27) [] []) [v5,(.lit (.int .i64 2))] h6) fun v7 h8=>
 bm (aN a h8) h8 fun v9 hA=>
 bm (aa s.P 205 v9 0) hA fun vA hB=>
 bm (aa s.P 55 vA 5) hB fun vC hC=>
 bs (ai s.P wl 46 vC v7 hC) fun ho=>
 bm (aN a ho) ho fun vr hu=>
 bm (aa s.P 205 vr 0) hu fun vm hq=>
 bm (aa s.P 55 vm 1) hq fun vb hO=>
 bs (ai s.P wl 3 vb (.lit (.int .i64 2)) hO) fun hG=>
 bm (aN a hG) hG fun vH hJ=>
 bm (aa s.P 205 vH 0) hJ fun vI hI=>
 bm (aa s.P 55 vI 5) hI fun vG hH=>
 bm (ab s.P 46 vG hH) hH fun vJ hM=>
 bp (yC s k wl 184 true true (.fn (.func 213) [] []) [vJ] hM) fun vL hN=>
 stO hG.length a (
 bm (aN a hN) hN fun vK hP=>
 bm (aa s.P 205 vK 0) hP fun vO hV=>
 bm (aa s.P 55 vO 4) hV fun vW hS=>
 stO hG.length vW (
 bm (ab s.P 46 vW hS) hS fun vX hT=>
 bp (yC s k wl 184 false true (.fn (.func 213) [] []) [vX] hT) fun vQ hQ=>
 bm (az s.P .neq 46 vL vQ) hQ fun vY hZ=>
 cnd vY (
 bm (aN a hZ) hZ fun vd hK=>
 bm (aa s.P 205 vd 0) hK fun vk hf=>
 bm (ab s.P 55 vk hf) hf fun ve hl=>
 bp (yC s k wl 184 false true (.fn (.func 193) [] []) [ve,(.lit (.int .i64 4)),(.lit (.int .u64 0))] hl) fun vs hL=>
 bm (aN a hL) hL fun vn hh=>
 bm (aa s.P 205 vn 0) hh fun vv hp=>
 bs (ai s.P wl 55 vv vs hp) fun ht=>
 some (.tup [],ht)) (
 some (.tup [],hZ)))):=kB
theorem ad3:evF Tryz.prog xM (k+1) wl 184 [a] h=ak (xX (xS k) 184 wl k false) Tryz.f184 [a] h:=by kernel_rfl
-- names: aam,
theorem ZO:ak (xX s 185 wl k false) Tryz.f185 [a] h =
 bm (aN a h) h fun v1 h2=>
 bm (aa s.P 205 v1 0) h2 fun v3 h4=>
 bm (aa s.P 55 v3 1) h4 fun v5 h6=>
 bs (ai s.P wl 3 v5 (.lit (.int .i64 1)) h6) fun h7=>
 stO h7.length a (
 bm (aN a h7) h7 fun v8 h9=>
 bm (aa s.P 205 v8 2) h9 fun v10 h11=>
 stO h7.length v10 (
 bm (ab s.P 26 v10 h11) h11 fun v12 h13=>
 stO h7.length a (
 bm (aN a h13) h13 fun vz ho=>
 bm (aa s.P 205 vz 0) ho fun vr hu=>
 bm (aa s.P 55 vr 5) hu fun vm hq=>
 stO h7.length vm (
 bm (ab s.P 46 vm hq) hq fun vb hO=>
 bm (aN a hO) hO fun vT hm=>
 bm (aa s.P 205 vT 0) hm fun vP ha=>
 bm (aa s.P 55 vP 5) ha fun vM hn=>
 bm (ab s.P 46 vM hn) hn fun vf hs=>
 bm (aN a hs) hs fun vo hc=>
 bm (aa s.P 205 vo 0) hc fun vh hi=>
 bm (aa s.P 55 vh 2) hi fun vi hW=>
 bm (ab s.P 3 vi hW) hW fun vN hU=>
 bp (yC s k wl 185 true true (.fn (.func 214) [] []) [vf,vN] hU) fun vU hb=>
 bp (yC s k wl 185 false true (.fn (.func 191) [] []) [v12,(.lit (.int .i64 2)),vb,vU] hb) fun vS hd=>
 bm (ar vS 0) hd fun vq hj=>
 bm (ar vS 1) hj fun vl hX=>
 bm (aN a hX) hX fun va he=>
 bm (aa s.P 205 va 2) he fun vc hg=>
 bs (ai s.P wl 26 vc vq hg) fun hl=>
 cnd vl (
 bm (aN a hl) hl fun vs hL=>
 bm (aa s.P 205 vs 0) hL fun vn hh=>
 bm (aa s.P 55 vn 1) hh fun vv hp=>
 bs (ai s.P wl 3 vv (.lit (.int .i64 3)) hp) fun ht=>
 some (.tup [],ht)) (
 some (.tup [],hl)))))):=kB
theorem adt:evF Tryz.prog xM (k+1) wl 185 [a] h=ak (xX (xS k) 185 wl k false) Tryz.f185 [a] h:=by kernel_rfl
-- names: ZO,
theorem Yy:ak (xX s 186 wl k false) Tryz.f186 [a] h =
 stO h.length a (
 bm (aN a h) h fun v1 h2=>
 bm (aa s.P 205 v1 2) h2 fun v3 h4=>
 stO h.length v3 (
 bm (ab s.P 26 v3 h4) h4 fun v5 h6=>
 bm (aN a h6) h6 fun v7 h8=>
 bm (aa s.P 205 v7 1) h8 fun v9 hA=>
 bm (ab s.P 23 v9 hA) hA fun vA hB=>
 bm (aN a hB) hB fun vC hC=>
 bm (aa s.P 205 vC 0) hC fun vD hD=>
 bm (aa s.P 55 vD 2) hD fun vB hE=>
 bm (ab s.P 3 vB hE) hE fun vE hF=>
 bp (yC s k wl 186 true true (.fn (.func 32) [] []) [vA,vE] hF) fun vF hG=>
 bp (yC s k wl 186 false true (.fn (.func 27) [] []) [v5,vF] hG) fun vH hJ=>
 bm (aN a hJ) hJ fun vI hI=>
 bm (aa s.P 205 vI 0) hI fun vG hH=>
 bm (aa s.P 55 vG 5) hH fun vJ hM=>
 bs (ai s.P wl 46 vJ vH hM) fun hc=>
 bm (aN a hc) hc fun vh hi=>
 bm (aa s.P 205 vh 0) hi fun vi hW=>
 bm (aa s.P 55 vi 5) hW fun vN hU=>
 bm (ab s.P 46 vN hU) hU fun vU hb=>
 bm (az s.P .neq 46 vU (.lit (.int .u64 0))) hb fun vS hd=>
 cnd vS (
 bm (aN a hd) hd fun vq hj=>
 bm (aa s.P 205 vq 0) hj fun vl hX=>
 bm (aa s.P 55 vl 1) hX fun va he=>
 bs (ai s.P wl 3 va (.lit (.int .i64 4)) he) fun hf=>
 some (.tup [],hf)) (
 some (.tup [],hd)))):=kB
theorem acN:evF Tryz.prog xM (k+1) wl 186 [a] h=ak (xX (xS k) 186 wl k false) Tryz.f186 [a] h:=by kernel_rfl
-- names: Yy,
theorem Yp:ak (xX s 187 wl k false) Tryz.f187 [a] h =
 stO h.length a (
 bm (aN a h) h fun v1 h2=>
 bm (aa s.P 205 v1 2) h2 fun v3 h4=>
 stO h.length v3 (
 bm (ab s.P 26 v3 h4) h4 fun v5 h6=>
 bm (aN a h6) h6 fun v7 h8=>
 bm (aa s.P 205 v7 1) h8 fun v9 hA=>
 bm (ab s.P 23 v9 hA) hA fun vA hB=>
 bm (aN a hB) hB fun vC hC=>
 bm (aa s.P 205 vC 0) hC fun vD hD=>
 bm (aa s.P 55 vD 2) hD fun vB hE=>
 bm (ab s.P 3 vB hE) hE fun vE hF=>
 bp (yC s k wl 187 true true (.fn (.func 32) [] []) [vA,vE] hF) fun vF hG=>
 bp (yC s k wl 187 false true (.fn (.func 88) [] []) [v5,vF,(.lit (.int .u64 0))] hG) fun vH hJ=>
 bm (aN a hJ) hJ fun vI hI=>
 bm (aa s.P 205 vI 2) hI fun vG hH=>
 bs (ai s.P wl 26 vG vH hH) fun hs=>
 bm (aN a hs) hs fun vo hc=>
 bm (aa s.P 205 vo 0) hc fun vh hi=>
 bm (ab s.P 55 vh hi) hi fun vi hW=>
 bp (yC s k wl 187 false true (.fn (.func 193) [] []) [vi,(.lit (.int .i64 1)),(.lit (.int .u64 0))] hW) fun vN hU=>
 bm (aN a hU) hU fun vU hb=>
 bm (aa s.P 205 vU 0) hb fun vS hd=>
 bs (ai s.P wl 55 vS vN hd) fun hQ=>
 some (.tup [],hQ))):=kB
theorem acX:evF Tryz.prog xM (k+1) wl 187 [a] h=ak (xX (xS k) 187 wl k false) Tryz.f187 [a] h:=by kernel_rfl
-- names: Yp,
noncomputable def eW:Code:=am (an Tryz.f196) [1,0]
noncomputable def eA:List Fr:=[.seq (am (an Tryz.f196) [1,1])]
theorem ZS:ak (xX s 196 wl k false) Tryz.f196 [a,b,d,e] h =
 bp (aU a h) fun v1 h2=>
 bp (aU d h2) fun v3 h4=>
 bm (ab s.P 23 v1 h4) h4 fun v5 h6=>
 bp (yC s k wl 196 false true (.fn (.func 105) [] []) [v5,b] h6) fun v7 h8=>
 gd v7 (
 bm (ab s.P 55 v3 h8) h8 fun v9 hA=>
 bp (yC s k wl 196 false true (.fn (.func 110) [] []) [v9] hA) fun vA hB=>
 bm (vUn .not vA) hB fun vC hC=>
 yO s k wl 196 Tryz.f196 eW 7 h4.length ([],[]) eA ⟨[a,b,d,e,v1,uu,v3,uu,(.lit (.bool false)),v5,b,v7,(.lit (.bool true)),v9,vA,vC,uu,uu,uu,uu,uu,uu,uu,uu,uu,uu,uu,uu,uu,uu,uu,uu,uu],hC⟩) (
 yO s k wl 196 Tryz.f196 eW 7 h4.length ([],[]) eA ⟨[a,b,d,e,v1,uu,v3,uu,(.lit (.bool false)),v5,b,v7,(.lit (.bool false)),uu,uu,uu,uu,uu,uu,uu,uu,uu,uu,uu,uu,uu,uu,uu,uu,uu,uu,uu,uu],h8⟩) (
 yO s k wl 196 Tryz.f196 eW 5 h4.length ([],[]) eA ⟨[a,b,d,e,v1,uu,v3,uu,(.lit (.bool false)),v5,b,v7,v7,uu,uu,uu,uu,uu,uu,uu,uu,uu,uu,uu,uu,uu,uu,uu,uu,uu,uu,uu,uu],h8⟩):=kB
theorem aeV:evF Tryz.prog xM (k+1) wl 196 [a,b,d,e] h=ak (xX (xS k) 196 wl k false) Tryz.f196 [a,b,d,e] h:=by kernel_rfl
theorem Mv:yO s k wl 196 Tryz.f196 eW 7 m0 ac eA ⟨(a::b::d::e::n::o::g::i::j::p::q::r::l::u::y::v::E::A::F::B::D::z::zz),h⟩ =
 bm (aT l v (.lit (.bool false))) h fun vD hD=>
 gd vD (
 bm (aa s.P 55 g 0) hD fun vB hE=>
 bm (ab s.P 3 vB hE) hE fun vE hF=>
 bm (az s.P .eql 3 vE e) hF fun vF hG=>
 yO s k wl 196 Tryz.f196 eW 13 m0 ac eA ⟨(a::b::d::e::n::o::g::i::j::p::q::r::l::u::y::v::vD::(.lit (.bool true))::vB::vE::e::vF::zz),hG⟩) (
 yO s k wl 196 Tryz.f196 eW 13 m0 ac eA ⟨(a::b::d::e::n::o::g::i::j::p::q::r::l::u::y::v::vD::(.lit (.bool false))::uu::uu::uu::uu::zz),hD⟩) (
 yO s k wl 196 Tryz.f196 eW 10 m0 ac eA ⟨(a::b::d::e::n::o::g::i::j::p::q::r::l::u::y::v::vD::vD::uu::B::D::z::zz),hD⟩):=kG
theorem M1:yO s k wl 196 Tryz.f196 eW 13 m0 ac eA ⟨[a,b,d,e,n,o,g,i,j,p,q,r,l,u,y,v,E,A,F,B,D,z,Q,L,R,M,I,T,N,U,O,J,G],h⟩ =
 bm (aT A z (.lit (.bool false))) h fun vH hJ=>
 gd vH (
 bm (aa s.P 55 g 1) hJ fun vI hI=>
 bm (ab s.P 3 vI hI) hI fun vG hH=>
 bm (az s.P .geq 3 vG (.lit (.int .i64 0))) hH fun vJ hM=>
 yO s k wl 196 Tryz.f196 eW 18 m0 ac eA ⟨[a,b,d,e,n,o,g,i,j,p,q,r,l,u,y,v,E,A,F,B,D,z,vH,(.lit (.bool true)),vI,vG,vJ,T,N,U,O,J,G],hM⟩) (
 yO s k wl 196 Tryz.f196 eW 18 m0 ac eA ⟨[a,b,d,e,n,o,g,i,j,p,q,r,l,u,y,v,E,A,F,B,D,z,vH,(.lit (.bool false)),uu,uu,uu,T,N,U,O,J,G],hJ⟩) (
 yO s k wl 196 Tryz.f196 eW 16 m0 ac eA ⟨[a,b,d,e,n,o,g,i,j,p,q,r,l,u,y,v,E,A,F,B,D,z,vH,vH,uu,M,I,T,N,U,O,J,G],hJ⟩):=kG
theorem Ko:yO s k wl 196 Tryz.f196 eW 18 m0 ac eA ⟨[a,b,d,e,n,o,g,i,j,p,q,r,l,u,y,v,E,A,F,B,D,z,Q,L,R,M,I,T,N,U,O,J,G],h⟩ =
 bm (aT L I (.lit (.bool false))) h fun vL hN=>
 gd vL (
 bm (aa s.P 55 g 1) hN fun vK hP=>
 bm (ab s.P 3 vK hP) hP fun vO hV=>
 bm (az s.P .lss 3 vO (.lit (.int .i64 5))) hV fun vW hS=>
 yO s k wl 196 Tryz.f196 eW 23 m0 ac eA ⟨[a,b,d,e,n,o,g,i,j,p,q,r,l,u,y,v,E,A,F,B,D,z,Q,L,R,M,I,vL,(.lit (.bool true)),vK,vO,vW,G],hS⟩) (
 yO s k wl 196 Tryz.f196 eW 23 m0 ac eA ⟨[a,b,d,e,n,o,g,i,j,p,q,r,l,u,y,v,E,A,F,B,D,z,Q,L,R,M,I,vL,(.lit (.bool false)),uu,uu,uu,G],hN⟩) (
 yO s k wl 196 Tryz.f196 eW 21 m0 ac eA ⟨[a,b,d,e,n,o,g,i,j,p,q,r,l,u,y,v,E,A,F,B,D,z,Q,L,R,M,I,vL,vL,uu,O,J,G],hN⟩):=kG
theorem M0:yO s k wl 196 Tryz.f196 eW 23 m0 ac eA ⟨[a,b,d,e,n,o,g,i,j,p,q,r,l,u,y,v,E,A,F,B,D,z,Q,L,R,M,I,T,N,U,O,J,G],h⟩ =
 bm (aT N J (.lit (.bool false))) h fun vX hT=>
 some (vX,hT):=kG
theorem wE (cx:Cx) (s:St):av cx K eA .ret s=K .ret s:=by kernel_rfl
-- names: ZS,Mv,M1,Ko,M0,wE
theorem Yi:ak (xX s 197 wl k false) Tryz.f197 [a] h =
 bm (aN a h) h fun v1 h2=>
 bm (aa s.P 221 v1 2) h2 fun v3 h4=>
 bm (ab s.P 26 v3 h4) h4 fun v5 h6=>
 bp (yC s k wl 197 false true (.fn (.func 27) [] []) [v5,(.lit (.int .i64 5))] h6) fun v7 h8=>
 bm (aN a h8) h8 fun v9 hA=>
 bm (aa s.P 221 v9 0) hA fun vA hB=>
 bm (aa s.P 55 vA 4) hB fun vC hC=>
 bs (ai s.P wl 46 vC v7 hC) fun ho=>
 some ((.lit (.int .i64 1)),ho):=kB
theorem adb:evF Tryz.prog xM (k+1) wl 197 [a] h=ak (xX (xS k) 197 wl k false) Tryz.f197 [a] h:=by kernel_rfl
-- names: Yi,
theorem Xu:ak (xX s 198 wl k false) Tryz.f198 [a] h =
 stO h.length a (
 bm (aN a h) h fun v1 h2=>
 bm (aa s.P 221 v1 2) h2 fun v3 h4=>
 stO h.length v3 (
 bm (ab s.P 26 v3 h4) h4 fun v5 h6=>
 bm (aN a h6) h6 fun v7 h8=>
 bm (aa s.P 221 v7 1) h8 fun v9 hA=>
 bm (ab s.P 23 v9 hA) hA fun vA hB=>
 bm (aN a hB) hB fun vC hC=>
 bm (aa s.P 221 vC 0) hC fun vD hD=>
 bm (aa s.P 55 vD 4) hD fun vB hE=>
 bm (ab s.P 46 vB hE) hE fun vE hF=>
 bp (yC s k wl 198 true true (.fn (.func 203) [] []) [vA,vE] hF) fun vF hG=>
 bp (yC s k wl 198 false true (.fn (.func 27) [] []) [v5,vF] hG) fun vH hJ=>
 bm (aN a hJ) hJ fun vI hI=>
 bm (aa s.P 221 vI 0) hI fun vG hH=>
 bm (aa s.P 55 vG 5) hH fun vJ hM=>
 bs (ai s.P wl 46 vJ vH hM) fun hc=>
 stO hc.length a (
 bm (aN a hc) hc fun vh hi=>
 bm (aa s.P 221 vh 0) hi fun vi hW=>
 bm (aa s.P 55 vi 5) hW fun vN hU=>
 stO hc.length vN (
 bm (ab s.P 46 vN hU) hU fun vU hb=>
 bp (yC s k wl 198 true true (.fn (.func 221) [] []) [a] hb) fun vS hd=>
 bm (az s.P .eql 46 vU vS) hd fun vq hj=>
 cnd vq (
 some ((.lit (.int .i64 2)),hj)) (
 stO hj.length a (
 bm (aN a hj) hj fun vl hX=>
 bm (aa s.P 221 vl 0) hX fun va he=>
 bm (aa s.P 55 va 5) he fun vc hg=>
 stO hj.length vc (
 bm (ab s.P 46 vc hg) hg fun vV hY=>
 bp (yC s k wl 198 true true (.fn (.func 221) [] []) [a] hY) fun vZ hk=>
 bp (yC s k wl 198 false true (.fn (.func 106) [] []) [vV,vZ] hk) fun vR hr=>
 bm (az s.P .lss 3 vR (.lit (.int .i64 0))) hr fun vp ht=>
 cnd vp (
 bm (aN a ht) ht fun vt hz=>
 bm (aa s.P 221 vt 0) hz fun v60 h61=>
 bm (ab s.P 55 v60 h61) h61 fun vx h63=>
 bm (aN a h63) h63 fun vw h65=>
 bm (aa s.P 221 vw 0) h65 fun vj h67=>
 bm (aa s.P 55 vj 3) h67 fun v68 h69=>
 bm (ab s.P 46 v68 h69) h69 fun v70 h71=>
 bp (yC s k wl 198 false true (.fn (.func 193) [] []) [vx,(.lit (.int .i64 2)),v70] h71) fun v72 h73=>
 bm (aN a h73) h73 fun v74 h75=>
 bm (aa s.P 221 v74 0) h75 fun v76 hR=>
 bs (ai s.P wl 55 v76 v72 hR) fun h78=>
 some ((.lit (.int .i64 0)),h78)) (
 some ((.lit (.int .i64 0)),ht))))))))):=kB
theorem ael:evF Tryz.prog xM (k+1) wl 198 [a] h=ak (xX (xS k) 198 wl k false) Tryz.f198 [a] h:=by kernel_rfl
-- names: Xu,
theorem aaJ:ak (xX s 199 wl k false) Tryz.f199 [a] h =
 bm (aN a h) h fun v1 h2=>
 bm (aa s.P 221 v1 2) h2 fun v3 h4=>
 bm (ab s.P 26 v3 h4) h4 fun v5 h6=>
 bm (aN a h6) h6 fun v7 h8=>
 bm (aa s.P 221 v7 0) h8 fun v9 hA=>
 bm (aa s.P 55 v9 4) hA fun vA hB=>
 bm (ab s.P 46 vA hB) hB fun vC hC=>
 bm (aN a hC) hC fun vD hD=>
 bm (aa s.P 221 vD 0) hD fun vB hE=>
 bm (aa s.P 55 vB 4) hE fun vE hF=>
 bm (ab s.P 46 vE hF) hF fun vF hG=>
 bm (az s.P .add 46 vF (.lit (.int .u64 1))) hG fun vH hJ=>
 bp (yC s k wl 199 false true (.fn (.func 191) [] []) [v5,(.lit (.int .i64 5)),vC,vH] hJ) fun vI hI=>
 bm (ar vI 0) hI fun vG hH=>
 bm (ar vI 1) hH fun vJ hM=>
 bm (aN a hM) hM fun vL hN=>
 bm (aa s.P 221 vL 2) hN fun vK hP=>
 bs (ai s.P wl 26 vK vG hP) fun hW=>
 cnd vJ (
 some ((.lit (.int .i64 3)),hW)) (
 some ((.lit (.int .i64 0)),hW)):=kB
theorem adx:evF Tryz.prog xM (k+1) wl 199 [a] h=ak (xX (xS k) 199 wl k false) Tryz.f199 [a] h:=by kernel_rfl
-- names: aaJ,
theorem aay:ak (xX s 200 wl k false) Tryz.f200 [a] h =
 stO h.length a (
 bm (aN a h) h fun v1 h2=>
 bm (aa s.P 221 v1 2) h2 fun v3 h4=>
 stO h.length v3 (
 bm (ab s.P 26 v3 h4) h4 fun v5 h6=>
 bm (aN a h6) h6 fun v7 h8=>
 bm (aa s.P 221 v7 1) h8 fun v9 hA=>
 bm (ab s.P 23 v9 hA) hA fun vA hB=>
 bm (aN a hB) hB fun vC hC=>
 bm (aa s.P 221 vC 0) hC fun vD hD=>
 bm (aa s.P 55 vD 4) hD fun vB hE=>
 bm (ab s.P 46 vB hE) hE fun vE hF=>
 bp (yC s k wl 200 true true (.fn (.func 205) [] []) [vA,vE] hF) fun vF hG=>
 stO h.length a (
 bm (aN a hG) hG fun vH hJ=>
 bm (aa s.P 221 vH 0) hJ fun vI hI=>
 bm (aa s.P 55 vI 3) hI fun vG hH=>
 stO h.length vG (
 bm (ab s.P 46 vG hH) hH fun vJ hM=>
 bp (yC s k wl 200 false true (.fn (.func 88) [] []) [v5,vF,vJ] hM) fun vL hN=>
 bm (aN a hN) hN fun vK hP=>
 bm (aa s.P 221 vK 2) hP fun vO hV=>
 bs (ai s.P wl 26 vO vL hV) fun hU=>
 some ((.lit (.int .i64 4)),hU))))):=kB
theorem acH:evF Tryz.prog xM (k+1) wl 200 [a] h=ak (xX (xS k) 200 wl k false) Tryz.f200 [a] h:=by kernel_rfl
-- names: aay,
theorem XT:ak (xX s 201 wl k false) Tryz.f201 [a] h =
 stO h.length a (
 bm (aN a h) h fun v1 h2=>
 bm (aa s.P 221 v1 2) h2 fun v3 h4=>
 stO h.length v3 (
 bm (ab s.P 26 v3 h4) h4 fun v5 h6=>
 bm (aN a h6) h6 fun v7 h8=>
 bm (aa s.P 221 v7 1) h8 fun v9 hA=>
 bm (ab s.P 23 v9 hA) hA fun vA hB=>
 bm (aN a hB) hB fun vC hC=>
 bm (aa s.P 221 vC 0) hC fun vD hD=>
 bm (aa s.P 55 vD 4) hD fun vB hE=>
 bm (ab s.P 46 vB hE) hE fun vE hF=>
 bp (yC s k wl 201 true true (.fn (.func 203) [] []) [vA,vE] hF) fun vF hG=>
 bp (yC s k wl 201 true true (.fn (.func 221) [] []) [a] hG) fun vH hJ=>
 bm (az s.P .add 46 vH (.lit (.int .u64 1))) hJ fun vI hI=>
 bp (yC s k wl 201 false true (.fn (.func 88) [] []) [v5,vF,vI] hI) fun vG hH=>
 bm (aN a hH) hH fun vJ hM=>
 bm (aa s.P 221 vJ 2) hM fun vL hN=>
 bs (ai s.P wl 26 vL vG hN) fun hi=>
 bm (aN a hi) hi fun vi hW=>
 bm (aa s.P 221 vi 0) hW fun vN hU=>
 bm (ab s.P 55 vN hU) hU fun vU hb=>
 bm (aN a hb) hb fun vS hd=>
 bm (aa s.P 221 vS 0) hd fun vq hj=>
 bm (aa s.P 55 vq 3) hj fun vl hX=>
 bm (ab s.P 46 vl hX) hX fun va he=>
 bp (yC s k wl 201 false true (.fn (.func 193) [] []) [vU,(.lit (.int .i64 1)),va] he) fun vc hg=>
 bm (aN a hg) hg fun vV hY=>
 bm (aa s.P 221 vV 0) hY fun vZ hk=>
 bs (ai s.P wl 55 vZ vc hk) fun hh=>
 some ((.lit (.int .i64 0)),hh))):=kB
theorem acD:evF Tryz.prog xM (k+1) wl 201 [a] h=ak (xX (xS k) 201 wl k false) Tryz.f201 [a] h:=by kernel_rfl
-- names: XT,
theorem WL:ak (xX s 202 wl k false) Tryz.f202 [a,b] h =
 bm (ab s.P 223 a h) h fun v1 h2=>
 bm (aa s.P 55 b 1) h2 fun v3 h4=>
 bm (ab s.P 3 v3 h4) h4 fun v5 h6=>
 bm (al s.P 223 v1 v5 h6) h6 fun v7 h8=>
 bm (ab s.P 116 v7 h8) h8 fun v9 hA=>
 bp (yC s k wl 202 false true v9 [] hA) fun vA hB=>
 some (vA,hB):=kB
theorem aer:evF Tryz.prog xM (k+1) wl 202 [a,b] h=ak (xX (xS k) 202 wl k false) Tryz.f202 [a,b] h:=by kernel_rfl
-- names: WL,
theorem XL:ak (xX s 204 wl k false) Tryz.f204 [a,b] h =
 bp (aU a h) fun v1 h2=>
 bm (aa s.P 23 v1 2) h2 fun v3 h4=>
 bm (ab s.P 3 v3 h4) h4 fun v5 h6=>
 bm (gB s.P 3 46 v5) h6 fun v7 h8=>
 bm (az s.P .quo 46 b v7) h8 fun v9 hA=>
 bm (az s.P .mul 46 v9 (.lit (.int .u64 2))) hA fun vA hB=>
 bm (az s.P .add 46 vA (.lit (.int .u64 1))) hB fun vC hC=>
 some (vC,hC):=kB
theorem ady:evF Tryz.prog xM (k+1) wl 204 [a,b] h=ak (xX (xS k) 204 wl k false) Tryz.f204 [a,b] h:=by kernel_rfl
-- names: XL,
theorem WT:ak (xX s 221 wl k false) Tryz.f221 [a] h =
 bm (aN a h) h fun v1 h2=>
 bm (aa s.P 221 v1 0) h2 fun v3 h4=>
 bm (aa s.P 55 v3 4) h4 fun v5 h6=>
 bm (ab s.P 46 v5 h6) h6 fun v7 h8=>
 bm (aN a h8) h8 fun v9 hA=>
 bm (aa s.P 221 v9 1) hA fun vA hB=>
 bm (aa s.P 23 vA 2) hB fun vC hC=>
 bm (ab s.P 3 vC hC) hC fun vD hD=>
 bm (gB s.P 3 46 vD) hD fun vB hE=>
 bm (az s.P .quo 46 v7 vB) hE fun vE hF=>
 bm (az s.P .mul 46 vE (.lit (.int .u64 2))) hF fun vF hG=>
 some (vF,hG):=kB
theorem aew:evF Tryz.prog xM (k+1) wl 221 [a] h=ak (xX (xS k) 221 wl k false) Tryz.f221 [a] h:=by kernel_rfl
-- names: WT,
noncomputable def By:Code:=am (an Tryz.f105) [1,0]
noncomputable def uv:List Fr:=[.seq (am (an Tryz.f105) [1,1])]
theorem Zr:ak (xX s 105 wl k false) Tryz.f105 [a,b] h =
 bp (aU a h) fun v1 h2=>
 bm (ab s.P 23 v1 h2) h2 fun v3 h4=>
 bp (yC s k wl 105 false true (.fn (.func 50) [] []) [v3] h4) fun v5 h6=>
 gd v5 (
 bp (bw s.P 26 b h6) fun v7 h8=>
 bm (ab s.P 23 v1 h8) h8 fun v9 hA=>
 bp (yC s k wl 105 false true (.fn (.func 103) [] []) [v9] hA) fun vA hB=>
 bm (az s.P .eql 3 v7 vA) hB fun vC hC=>
 yO s k wl 105 Tryz.f105 By 8 h2.length ([],[]) uv ⟨[a,b,v1,uu,(.lit (.bool false)),v3,v5,(.lit (.bool true)),b,v7,v9,vA,vC,uu],hC⟩) (
 yO s k wl 105 Tryz.f105 By 8 h2.length ([],[]) uv ⟨[a,b,v1,uu,(.lit (.bool false)),v3,v5,(.lit (.bool false)),uu,uu,uu,uu,uu,uu],h6⟩) (
 yO s k wl 105 Tryz.f105 By 4 h2.length ([],[]) uv ⟨[a,b,v1,uu,(.lit (.bool false)),v3,v5,v5,uu,uu,uu,uu,uu,uu],h6⟩):=kB
theorem adI:evF Tryz.prog xM (k+1) wl 105 [a,b] h=ak (xX (xS k) 105 wl k false) Tryz.f105 [a,b] h:=by kernel_rfl
theorem LN:yO s k wl 105 Tryz.f105 By 8 m0 ac uv ⟨[a,b,d,e,n,o,g,i,j,p,q,r,l,u],h⟩ =
 bm (aT i l (.lit (.bool false))) h fun vD hD=>
 some (vD,hD):=kG
theorem ul (cx:Cx) (s:St):av cx K uv .ret s=K .ret s:=by kernel_rfl
-- names: Zr,LN,ul
end
end Go.Ab
set_option maxRecDepth 100000
set_option linter.unusedVariables false
namespace Go.Ab
open Go.Proofs
section
variable (s:Sys) (k wl:Nat) (m0:Nat) (ac:List Nat×List Nat) (b a d l q g r i j u v z A o B D E F p G I J L M N O Q R T U Y Z t0 t1 t2 t3 t4 t5 t6 t7 t8 W t9 ta X th tb tc td te tf tg ti tj tk tl tm tn tp tq tr ts tt tu tv tw tx ty tz tA tB tC tD tE tF tG tH tI tJ tK tL tM tN tO tP tQ tR tS tT tU tV tW tX tY tZ q0 q1 q2 q3 q4 q5 q6 q7 q8 q9 qa qb qc qd qe qf qg qh qi qj qk ql qm qn qo qp qq qr qs qt qu:V) (h:Hp) (K:Out→St→Option (V×Hp)) (rd:Bool) (n n0:Nat) (zz:List V)
noncomputable def BD:List Fr:=[.seq (am (an Tryz.f134) [1,0,1,0,1,1,1]),.block 0,.seq (am (an Tryz.f134) [1,1])]
theorem Xh:ak (xX s 134 wl k false) Tryz.f134 [b,a,d] h =
 bp (aU b h) fun v1 h2=>
 bp (aU d h2) fun v3 h4=>
 bp (some (.own h4.length 0 0,h4++[.rows 0 [] 0 true])) fun v5 h6=>
 bp (aA s.P 55 h6) fun v7 h8=>
 bm (aa s.P 55 v3 0) h8 fun v9 hA=>
 bm (ab s.P 3 v9 hA) hA fun vA hB=>
 bm (az s.P .eql 3 vA (.lit (.int .i64 5))) hB fun vC hC=>
 cnd vC (
 bm (ab s.P 23 v1 hC) hC fun vD hD=>
 bm (ab s.P 55 v3 hD) hD fun vB hE=>
 bp (yC s k wl 134 false true (.fn (.func 165) [] []) [vD,a,vB] hE) fun vE hF=>
 bm (ar vE 0) hF fun vF hG=>
 bm (ar vE 1) hG fun vH hJ=>
 bs (ai s.P wl 55 v7 vH hJ) fun ha=>
 eg [some vF,ab s.P 55 v7 ha] ha) (
 bm (az s.P .eql 3 vA (.lit (.int .i64 6))) hC fun vM hn=>
 cnd vM (
 av (xX s 134 wl k false) (aD s.P Tryz.f134) BD .norm ⟨[b,a,d,v1,uu,v3,v5,v7,v9,vA,vC,vC,uu,uu,uu,uu,uu,uu,vM,vM,uu,uu,uu,uu,uu,uu,uu,uu,uu,uu],hn⟩) (
 bm (az s.P .eql 3 vA (.lit (.int .i64 7))) hn fun vf hs=>
 av (xX s 134 wl k false) (aD s.P Tryz.f134) BD .norm ⟨[b,a,d,v1,uu,v3,v5,v7,v9,vA,vC,vC,uu,uu,uu,uu,uu,uu,vf,vM,vf,uu,uu,uu,uu,uu,uu,uu,uu,uu],hs⟩)):=kB
theorem acb:evF Tryz.prog xM (k+1) wl 134 [b,a,d] h=ak (xX (xS k) 134 wl k false) Tryz.f134 [b,a,d] h:=by kernel_rfl
theorem K5:av (xX s 134 wl k false) (aD s.P Tryz.f134) BD .norm ⟨[b,a,d,l,q,g,r,i,j,u,v,z,A,o,B,D,E,F,p,G,I,J,L,M,N,O,Q,R,T,U],h⟩ =
 cnd p (
 bm (ab s.P 23 l h) h fun vo hc=>
 bm (ab s.P 55 g hc) hc fun vh hi=>
 bp (yC s k wl 134 false true (.fn (.func 166) [] []) [vo,a,vh] hi) fun vi hW=>
 bm (ar vi 0) hW fun vN hU=>
 bm (ar vi 1) hU fun vU hb=>
 bs (ai s.P wl 55 i vU hb) fun hT=>
 eg [some vN,ab s.P 55 i hT] hT) (
 bp (yC s k wl 134 true true (.fn (.func 76) [] []) [a] h) fun vQ hQ=>
 stO h.length g (
 bm (ab s.P 55 g hQ) hQ fun vY hZ=>
 bs (ai s.P wl 55 i vY hZ) fun hX=>
 eg [some vQ,ab s.P 55 i hX] hX)):=kR
theorem wb (cx:Cx) (s:St):av cx K BD .ret s=K .ret s:=by kernel_rfl
-- names: Xh,K5,wb
theorem Zg:ak (xX s 135 wl k false) Tryz.f135 [b,a,d] h =
 bp (aU b h) fun v1 h2=>
 bp (aU d h2) fun v3 h4=>
 bp (some (.own h4.length 0 0,h4++[.rows 0 [] 0 true])) fun v5 h6=>
 bp (aA s.P 55 h6) fun v7 h8=>
 bm (aa s.P 55 v3 0) h8 fun v9 hA=>
 bm (ab s.P 3 v9 hA) hA fun vA hB=>
 bm (az s.P .eql 3 vA (.lit (.int .i64 3))) hB fun vC hC=>
 cnd vC (
 bm (ab s.P 23 v1 hC) hC fun vD hD=>
 bm (ab s.P 55 v3 hD) hD fun vB hE=>
 bp (yC s k wl 135 false true (.fn (.func 167) [] []) [vD,a,vB] hE) fun vE hF=>
 bm (ar vE 0) hF fun vF hG=>
 bm (ar vE 1) hG fun vH hJ=>
 bs (ai s.P wl 55 v7 vH hJ) fun ha=>
 eg [some vF,ab s.P 55 v7 ha] ha) (
 bm (az s.P .eql 3 vA (.lit (.int .i64 4))) hC fun vM hn=>
 cnd vM (
 bm (ab s.P 23 v1 hn) hn fun vf hs=>
 bm (ab s.P 55 v3 hs) hs fun vo hc=>
 bp (yC s k wl 135 false true (.fn (.func 168) [] []) [vf,a,vo] hc) fun vh hi=>
 bm (ar vh 0) hi fun vi hW=>
 bm (ar vh 1) hW fun vN hU=>
 bs (ai s.P wl 55 v7 vN hU) fun hS=>
 eg [some vi,ab s.P 55 v7 hS] hS) (
 bp (yC s k wl 135 true true (.fn (.func 76) [] []) [a] hn) fun vX hT=>
 stO hn.length v3 (
 bm (ab s.P 55 v3 hT) hT fun vQ hQ=>
 bs (ai s.P wl 55 v7 vQ hQ) fun hj=>
 eg [some vX,ab s.P 55 v7 hj] hj))):=kB
theorem acM:evF Tryz.prog xM (k+1) wl 135 [b,a,d] h=ak (xX (xS k) 135 wl k false) Tryz.f135 [b,a,d] h:=by kernel_rfl
-- names: Zg,
noncomputable def wM:List Fr:=[.block 0,.seq (am (an Tryz.f166) [1,1,1,1])]
noncomputable def BK:List Fr:=[.seq (am (an Tryz.f166) [1,1,1,0,0,1,1,1,1,1,0,1,1]),.block 0,.seq (am (an Tryz.f166) [1,1,1,1])]
noncomputable def BR:Code:=am (an Tryz.f166) [1,1,1,0,0,1,1,1,1,1,1,1,0,1,0]
noncomputable def uO:List Fr:=[.seq (am (an Tryz.f166) [1,1,1,0,0,1,1,1,1,1,1,1,0,1,1]),.seq (am (an Tryz.f166) [1,1,1,0,0,1,1,1,1,1,1,1,1]),.block 0,.seq (am (an Tryz.f166) [1,1,1,1])]
theorem XD:ak (xX s 166 wl k false) Tryz.f166 [b,a,d] h =
 bp (aU b h) fun v1 h2=>
 bp (aU d h2) fun v3 h4=>
 bp (some (.own h4.length 0 0,h4++[.rows 0 [] 0 true])) fun v5 h6=>
 bp (aA s.P 55 h6) fun v7 h8=>
 bp (yC s k wl 166 false true (.fn (.func 76) [] []) [a] h8) fun v9 hA=>
 bm (ab s.P 23 v1 hA) hA fun vA hB=>
 bm (ab s.P 55 v3 hB) hB fun vC hC=>
 bp (yC s k wl 166 false true (.fn (.func 189) [] []) [vA,a,vC] hC) fun vD hD=>
 bm (vUn .not vD) hD fun vB hE=>
 cnd vB (
 bm (ab s.P 55 v3 hE) hE fun vE hF=>
 bs (ai s.P wl 55 v7 vE hF) fun hO=>
 eg [some v9,ab s.P 55 v7 hO] hO) (
 bm (aa s.P 55 v3 1) hE fun vT hm=>
 bm (ab s.P 3 vT hm) hm fun vP ha=>
 bm (az s.P .eql 3 vP (.lit (.int .i64 0))) ha fun vM hn=>
 cnd vM (
 bp (yC s k wl 166 false true (.fn (.func 27) [] []) [v9,(.lit (.int .i64 2))] hn) fun vf hs=>
 bm (aa s.P 55 v3 4) hs fun vo hc=>
 bs (ai s.P wl 46 vo vf hc) fun hN=>
 bm (aa s.P 55 v3 1) hN fun vK hP=>
 bs (ai s.P wl 3 vK (.lit (.int .i64 1)) hP) fun hW=>
 av (xX s 166 wl k false) (aD s.P Tryz.f166) wM .norm ⟨(b::a::d::v1::uu::v3::v5::v7::v9::uu::uu::uu::uu::uu::a::v9::vA::a::vC::vD::vB::uu::uu::uu::uu::uu::uu::uu::uu::uu::uu::uu::uu::uu::uu::uu::uu::uu::uu::uu::uu::uu::uu::uu::uu::uu::uu::uu::uu::uu::uu::uu::uu::uu::uu::uu::uu::uu::uu::vM::vT::vP::vM::v9::vf::vo::vK::uu::uu::uu::uu::uu::uu::uu::uu::uu::uu::uu::uu::uu::uu::uu::uu::uu::uu::uu::uu::uu::uu::uu::uu::uu::uu::uu::uu::uu::uu::uu::uu::uu::uu::uu::uu::uu::uu::uu::uu::uu::uu::uu::uu::uu::uu::uu::uu::uu::uu::uu::uu::uu::uu::uu::uu::uu::uu::uu::[]),hW⟩) (
 bm (aa s.P 55 v3 1) hn fun vN hU=>
 bm (ab s.P 3 vN hU) hU fun vU hb=>
 bm (az s.P .eql 3 vU (.lit (.int .i64 1))) hb fun vS hd=>
 cnd vS (
 bp (yC s k wl 166 true true (.fn (.func 190) [] []) [] hd) fun vq hj=>
 bm (aa s.P 55 v3 0) hj fun vl hX=>
 stO hd.length vl (
 bm (ab s.P 3 vl hX) hX fun va he=>
 bm (fH s.P 212 vq va false he) he fun vc hg=>
 bm (aa s.P 55 v3 4) hg fun vV hY=>
 stO hd.length vV (
 bm (ab s.P 46 vV hY) hY fun vZ hk=>
 bp (yC s k wl 166 false true vc [vZ] hk) fun vR hr=>
 bm (ar vR 0) hr fun vp ht=>
 bm (ar vR 1) ht fun vt hz=>
 bm (aa s.P 55 v3 4) hz fun v60 h61=>
 bm (ab s.P 46 v60 h61) h61 fun vx h63=>
 bp (yC s k wl 166 false true (.fn (.func 191) [] []) [v9,(.lit (.int .i64 2)),vx,vp] h63) fun vw h65=>
 bm (ar vw 0) h65 fun vj h67=>
 bm (ar vw 1) h67 fun v68 h69=>
 bm (aa s.P 55 v3 1) h69 fun v70 h71=>
 bs (ai s.P wl 3 v70 (.lit (.int .i64 0)) h71) fun h72=>
 bm (vUn .not v68) h72 fun vu hv=>
 cnd vu (
 bm (ab s.P 55 v3 hv) hv fun v75 h76=>
 bs (ai s.P wl 55 v7 v75 h76) fun hR=>
 eg [some vj,ab s.P 55 v7 hR] hR) (
 bm (aa s.P 55 v3 4) hv fun v78 h79=>
 bm (ab s.P 46 v78 h79) h79 fun v80 h81=>
 bp (yC s k wl 166 false true (.fn (.func 192) [] []) [v80] h81) fun v82 h83=>
 bm (az s.P .eql 46 v82 (.lit (.int .u64 0))) h83 fun v84 h85=>
 cnd v84 (
 bm (ab s.P 55 v3 h85) h85 fun v86 h87=>
 bp (yC s k wl 166 false true (.fn (.func 193) [] []) [v86,(.lit (.int .i64 3)),(.lit (.int .u64 0))] h87) fun v88 h89=>
 bs (ai s.P wl 55 v7 v88 h89) fun h90=>
 eg [some vj,ab s.P 55 v7 h90] h90) (
 bm (aa s.P 55 v3 5) h85 fun v91 h92=>
 bs (ai s.P wl 46 v91 vt h92) fun h93=>
 bm (aa s.P 55 v3 1) h93 fun v94 h95=>
 bs (ai s.P wl 3 v94 (.lit (.int .i64 2)) h95) fun h96=>
 av (xX s 166 wl k false) (aD s.P Tryz.f166) wM .norm ⟨(b::a::d::v1::uu::v3::v5::v7::vj::vp::vt::vj::v68::uu::a::v9::vA::a::vC::vD::vB::uu::uu::uu::uu::uu::uu::uu::uu::uu::uu::uu::uu::uu::uu::uu::uu::uu::uu::uu::uu::uu::uu::uu::uu::uu::uu::uu::uu::uu::uu::uu::uu::uu::uu::uu::uu::uu::uu::vM::vT::vP::vM::uu::uu::uu::uu::vS::vN::vU::vS::vR::vq::vl::va::vc::vV::vZ::vR::vp::vt::vw::v9::v60::vx::vp::vw::vj::v68::vj::v70::v68::vu::uu::uu::v78::v80::v82::v84::uu::uu::uu::vt::v91::v94::uu::uu::uu::uu::uu::uu::uu::uu::uu::uu::uu::uu::uu::uu::uu::uu::uu::uu::uu::uu::uu::[]),h96⟩))))) (
 bm (aa s.P 55 v3 0) hd fun v97 h98=>
 bm (ab s.P 3 v97 h98) h98 fun v99 h100=>
 bm (az s.P .eql 3 v99 (.lit (.int .i64 6))) h100 fun vg h102=>
 cnd vg (
 bm (aa s.P 55 v3 5) h102 fun v103 h104=>
 bm (ab s.P 46 v103 h104) h104 fun v105 h106=>
 bm (az s.P .lss 46 v105 (.lit (.int .u64 8))) h106 fun v107 h108=>
 cnd v107 (
 bm (aa s.P 55 v3 5) h108 fun v109 h110=>
 bm (ab s.P 46 v109 h110) h110 fun v111 h112=>
 bm (gB s.P 46 3 v111) h112 fun v113 h114=>
 av (xX s 166 wl k false) (aD s.P Tryz.f166) BK .norm ⟨(b::a::d::v1::uu::v3::v5::v7::v9::uu::uu::uu::uu::v113::a::v9::vA::a::vC::vD::vB::uu::uu::uu::uu::uu::uu::uu::uu::uu::uu::uu::uu::uu::uu::uu::uu::uu::uu::uu::uu::uu::uu::uu::uu::uu::uu::uu::uu::uu::uu::uu::uu::uu::uu::uu::uu::uu::uu::vM::vT::vP::vM::uu::uu::uu::uu::vS::vN::vU::vS::uu::uu::uu::uu::uu::uu::uu::uu::uu::uu::uu::uu::uu::uu::uu::uu::uu::uu::uu::uu::uu::uu::uu::uu::uu::uu::uu::uu::uu::uu::uu::uu::uu::uu::vg::v97::v99::vg::v103::v105::v107::v109::v111::v113::uu::uu::uu::uu::uu::uu::uu::uu::uu::uu::uu::[]),h114⟩) (
 av (xX s 166 wl k false) (aD s.P Tryz.f166) BK .norm ⟨(b::a::d::v1::uu::v3::v5::v7::v9::uu::uu::uu::uu::(.lit (.int .i64 (-1)))::a::v9::vA::a::vC::vD::vB::uu::uu::uu::uu::uu::uu::uu::uu::uu::uu::uu::uu::uu::uu::uu::uu::uu::uu::uu::uu::uu::uu::uu::uu::uu::uu::uu::uu::uu::uu::uu::uu::uu::uu::uu::uu::uu::uu::vM::vT::vP::vM::uu::uu::uu::uu::vS::vN::vU::vS::uu::uu::uu::uu::uu::uu::uu::uu::uu::uu::uu::uu::uu::uu::uu::uu::uu::uu::uu::uu::uu::uu::uu::uu::uu::uu::uu::uu::uu::uu::uu::uu::uu::uu::vg::v97::v99::vg::v103::v105::v107::uu::uu::uu::uu::uu::uu::uu::uu::uu::uu::uu::uu::uu::uu::[]),h108⟩)) (
 stO h102.length v1 (
 bm (ab s.P 23 v1 h102) h102 fun v115 h116=>
 bm (aa s.P 55 v3 5) h116 fun v117 h118=>
 bm (ab s.P 46 v117 h118) h118 fun v119 h120=>
 bp (yC s k wl 166 true true (.fn (.func 195) [] []) [v119] h120) fun v121 h122=>
 bp (cW s.P wl 53 1 [(0,v121)] h122) fun v123 h124=>
 bp (yC s k wl 166 false true (.fn (.func 194) [] []) [v115,v9,v123] h124) fun v125 h126=>
 bm (aa s.P 55 v3 5) h126 fun v127 h128=>
 bm (ab s.P 46 v127 h128) h128 fun v129 h130=>
 bp (yC s k wl 166 false true (.fn (.func 192) [] []) [v129] h130) fun v131 h132=>
 bm (aa s.P 55 v3 5) h132 fun v133 h134=>
 bs (ai s.P wl 46 v133 v131 h134) fun h135=>
 bm (aa s.P 55 v3 5) h135 fun v136 h137=>
 bm (ab s.P 46 v136 h137) h137 fun v138 h139=>
 bm (aa s.P 55 v3 5) h139 fun v140 h141=>
 bm (ab s.P 46 v140 h141) h141 fun v142 h143=>
 bm (az s.P .sub 46 v142 (.lit (.int .u64 1))) h143 fun v144 h145=>
 bm (az s.P .and 46 v138 v144) h145 fun v146 h147=>
 bm (az s.P .eql 46 v146 (.lit (.int .u64 0))) h147 fun v148 h149=>
 gd v148 (
 yO s k wl 166 Tryz.f166 BR 11 h135.length ([],[]) uO ⟨(b::a::d::v1::uu::v3::v5::v7::v125::uu::uu::uu::uu::uu::a::v9::vA::a::vC::vD::vB::uu::uu::v115::v9::v117::v119::v121::v123::v125::v127::v129::v131::v133::v136::v138::v140::v142::v144::v146::v148::(.lit (.bool true))::uu::uu::uu::uu::uu::uu::uu::uu::uu::uu::uu::uu::uu::uu::uu::uu::uu::vM::vT::vP::vM::uu::uu::uu::uu::vS::vN::vU::vS::uu::uu::uu::uu::uu::uu::uu::uu::uu::uu::uu::uu::uu::uu::uu::uu::uu::uu::uu::uu::uu::uu::uu::uu::uu::uu::uu::uu::uu::uu::uu::uu::uu::uu::vg::v97::v99::vg::uu::uu::uu::uu::uu::uu::uu::uu::uu::uu::uu::uu::uu::uu::uu::uu::uu::[]),h149⟩) (
 bm (aa s.P 55 v3 5) h149 fun v150 h151=>
 bm (ab s.P 46 v150 h151) h151 fun v152 h153=>
 bm (az s.P .eql 46 v152 (.lit (.int .u64 0))) h153 fun v154 h155=>
 yO s k wl 166 Tryz.f166 BR 11 h135.length ([],[]) uO ⟨(b::a::d::v1::uu::v3::v5::v7::v125::uu::uu::uu::uu::uu::a::v9::vA::a::vC::vD::vB::uu::uu::v115::v9::v117::v119::v121::v123::v125::v127::v129::v131::v133::v136::v138::v140::v142::v144::v146::v148::(.lit (.bool false))::v150::v152::v154::uu::uu::uu::uu::uu::uu::uu::uu::uu::uu::uu::uu::uu::uu::vM::vT::vP::vM::uu::uu::uu::uu::vS::vN::vU::vS::uu::uu::uu::uu::uu::uu::uu::uu::uu::uu::uu::uu::uu::uu::uu::uu::uu::uu::uu::uu::uu::uu::uu::uu::uu::uu::uu::uu::uu::uu::uu::uu::uu::uu::vg::v97::v99::vg::uu::uu::uu::uu::uu::uu::uu::uu::uu::uu::uu::uu::uu::uu::uu::uu::uu::[]),h155⟩) (
 yO s k wl 166 Tryz.f166 BR 9 h135.length ([],[]) uO ⟨(b::a::d::v1::uu::v3::v5::v7::v125::uu::uu::uu::uu::uu::a::v9::vA::a::vC::vD::vB::uu::uu::v115::v9::v117::v119::v121::v123::v125::v127::v129::v131::v133::v136::v138::v140::v142::v144::v146::v148::v148::uu::uu::uu::uu::uu::uu::uu::uu::uu::uu::uu::uu::uu::uu::uu::uu::uu::vM::vT::vP::vM::uu::uu::uu::uu::vS::vN::vU::vS::uu::uu::uu::uu::uu::uu::uu::uu::uu::uu::uu::uu::uu::uu::uu::uu::uu::uu::uu::uu::uu::uu::uu::uu::uu::uu::uu::uu::uu::uu::uu::uu::uu::uu::vg::v97::v99::vg::uu::uu::uu::uu::uu::uu::uu::uu::uu::uu::uu::uu::uu::uu::uu::uu::uu::[]),h149⟩)))))):=kB
theorem adD:evF Tryz.prog xM (k+1) wl 166 [b,a,d] h=ak (xX (xS k) 166 wl k false) Tryz.f166 [b,a,d] h:=by kernel_rfl
theorem Nt:av (xX s 166 wl k false) (aD s.P Tryz.f166) wM .norm ⟨(b::a::d::l::q::g::r::i::j::u::v::z::A::o::B::D::E::F::p::G::I::J::L::M::N::O::Q::R::T::U::Y::Z::t0::t1::t2::t3::t4::t5::t6::t7::t8::W::t9::ta::X::th::tb::tc::td::te::tf::tg::ti::tj::tk::tl::tm::tn::tp::tq::tr::ts::tt::tu::tv::tw::tx::ty::tz::tA::tB::tC::tD::tE::tF::tG::tH::tI::tJ::tK::tL::tM::tN::tO::tP::tQ::tR::tS::tT::tU::tV::tW::tX::tY::tZ::q0::q1::q2::q3::q4::q5::q6::q7::q8::q9::qa::qb::qc::qd::qe::qf::qg::qh::qi::qj::qk::ql::qm::qn::qo::qp::qq::qr::qs::qt::qu::[]),h⟩ =
 bm (ab s.P 55 g h) h fun v156 h157=>
 bs (ai s.P wl 55 i v156 h157) fun h158=>
 eg [some j,ab s.P 55 i h158] h158:=kR
theorem Ke:av (xX s 166 wl k false) (aD s.P Tryz.f166) BK .norm ⟨(b::a::d::l::q::g::r::i::j::u::v::z::A::o::B::D::E::F::p::G::I::J::L::M::N::O::Q::R::T::U::Y::Z::t0::t1::t2::t3::t4::t5::t6::t7::t8::W::t9::ta::X::th::tb::tc::td::te::tf::tg::ti::tj::tk::tl::tm::tn::tp::tq::tr::ts::tt::tu::tv::tw::tx::ty::tz::tA::tB::tC::tD::tE::tF::tG::tH::tI::tJ::tK::tL::tM::tN::tO::tP::tQ::tR::tS::tT::tU::tV::tW::tX::tY::tZ::q0::q1::q2::q3::q4::q5::q6::q7::q8::q9::qa::qb::qc::qd::qe::qf::qg::qh::qi::qj::qk::ql::qm::qn::qo::qp::qq::qr::qs::qt::qu::[]),h⟩ =
 stO h.length l (
 bm (ab s.P 23 l h) h fun v159 h160=>
 bp (cW s.P wl 53 1 [(0,o)] h160) fun v161 h162=>
 bp (yC s k wl 166 true true (.fn (.func 194) [] []) [v159,j,v161] h162) fun v163 h164=>
 stO h.length g (
 bm (ab s.P 55 g h164) h164 fun v165 h166=>
 bm (aa s.P 55 g 5) h166 fun v167 h168=>
 stO h.length v167 (
 bm (ab s.P 46 v167 h168) h168 fun v169 h170=>
 bp (yC s k wl 166 false true (.fn (.func 193) [] []) [v165,(.lit (.int .i64 1)),v169] h170) fun v171 h172=>
 bs (ai s.P wl 55 i v171 h172) fun h173=>
 eg [some v163,ab s.P 55 i h173] h173))):=kR
theorem Ni:yO s k wl 166 Tryz.f166 BR 11 m0 ac uO ⟨(b::a::d::l::q::g::r::i::j::u::v::z::A::o::B::D::E::F::p::G::I::J::L::M::N::O::Q::R::T::U::Y::Z::t0::t1::t2::t3::t4::t5::t6::t7::t8::W::t9::ta::X::th::tb::tc::td::te::tf::tg::ti::tj::tk::tl::tm::tn::tp::zz),h⟩ =
 bm (aT W (.lit (.bool true)) X) h fun v174 h175=>
 cnd v174 (
 stO h175.length g (
 bm (ab s.P 55 g h175) h175 fun v176 h177=>
 bm (aa s.P 55 g 4) h177 fun v178 h179=>
 bm (ab s.P 46 v178 h179) h179 fun v180 h181=>
 bp (yC s k wl 166 true true (.fn (.func 192) [] []) [v180] h181) fun v182 h183=>
 bp (yC s k wl 166 false true (.fn (.func 193) [] []) [v176,(.lit (.int .i64 1)),v182] h183) fun v184 h185=>
 bs (ai s.P wl 55 i v184 h185) fun h186=>
 eg [some j,ab s.P 55 i h186] h186)) (
 bm (aa s.P 55 g 5) h175 fun v187 h188=>
 bm (ab s.P 46 v187 h188) h188 fun v189 h190=>
 bm (aa s.P 55 g 5) h190 fun v191 h192=>
 bm (ab s.P 46 v191 h192) h192 fun v193 h194=>
 bm (az s.P .sub 46 v193 (.lit (.int .u64 1))) h194 fun v195 h196=>
 bm (az s.P .and 46 v189 v195) h196 fun v197 h198=>
 bm (aa s.P 55 g 5) h198 fun v199 h200=>
 bs (ai s.P wl 46 v199 v197 h200) fun h201=>
 av (xX s 166 wl k false) (aD s.P Tryz.f166) wM .norm ⟨(b::a::d::l::q::g::r::i::j::u::v::z::A::o::B::D::E::F::p::G::I::J::L::M::N::O::Q::R::T::U::Y::Z::t0::t1::t2::t3::t4::t5::t6::t7::t8::W::t9::ta::X::v174::tb::tc::td::te::tf::tg::v187::v189::v191::v193::v195::v197::v199::zz),h201⟩):=kJ [2]
theorem wi (cx:Cx) (s:St):av cx K wM .ret s=K .ret s:=by kernel_rfl
theorem wZ (cx:Cx) (s:St):av cx K BK .ret s=K .ret s:=by kernel_rfl
theorem wC (cx:Cx) (s:St):av cx K uO .ret s=K .ret s:=by kernel_rfl
-- names: XD,Nt,Ke,Ni,wi,wZ,wC
theorem Xy:ak (xX s 167 wl k false) Tryz.f167 [b,a,d] h =
 bp (aU b h) fun v1 h2=>
 bp (aU d h2) fun v3 h4=>
 bp (some (.own h4.length 0 0,h4++[.rows 0 [] 0 true])) fun v5 h6=>
 bp (aA s.P 55 h6) fun v7 h8=>
 stO h8.length v3 (
 bm (ab s.P 55 v3 h8) h8 fun v9 hA=>
 stO h8.length v1 (
 bm (ab s.P 23 v1 hA) hA fun vA hB=>
 bp (yC s k wl 167 true true (.fn (.func 76) [] []) [a] hB) fun vC hC=>
 bm (bc s.P 221 [(0,v9),(1,vA),(2,vC)]) hC fun vD hD=>
 bp (aU vD hD) fun vB hE=>
 bm (ab s.P 23 v1 hE) hE fun vE hF=>
 bm (ab s.P 55 v3 hF) hF fun vF hG=>
 bp (yC s k wl 167 false true (.fn (.func 196) [] []) [vE,a,vF,(.lit (.int .i64 3))] hG) fun vH hJ=>
 bm (vUn .not vH) hJ fun vI hI=>
 cnd vI (
 bm (aN vB hI) hI fun vG hH=>
 bm (aa s.P 221 vG 2) hH fun vJ hM=>
 bm (ab s.P 26 vJ hM) hM fun vL hN=>
 bm (ab s.P 55 v3 hN) hN fun vK hP=>
 bs (ai s.P wl 55 v7 vK hP) fun hW=>
 eg [some vL,ab s.P 55 v7 hW] hW) (
 bp (aK s.P wl 223 5 [(0,(.fn (.func 197) [vB] [])),(1,(.fn (.func 198) [vB] [])),(2,(.fn (.func 199) [vB] [])),(3,(.fn (.func 200) [vB] [])),(4,(.fn (.func 201) [vB] []))] hI) fun vN hU=>
 bp (aA s.P 223 hU) fun vU hb=>
 bs (ai s.P wl 223 vU vN hb) fun hT=>
 bp (yC s k wl 167 false true (.fn (.func 202) [] [vU,v3]) [] hT) fun vQ hQ=>
 bm (aN vB hQ) hQ fun vY hZ=>
 bm (aa s.P 221 vY 0) hZ fun vd hK=>
 bm (aa s.P 55 vd 1) hK fun vk hf=>
 bs (ai s.P wl 3 vk vQ hf) fun hg=>
 bm (aN vB hg) hg fun vV hY=>
 bm (aa s.P 221 vV 2) hY fun vZ hk=>
 bm (ab s.P 26 vZ hk) hk fun vR hr=>
 bm (aN vB hr) hr fun vp ht=>
 bm (aa s.P 221 vp 0) ht fun vt hz=>
 bm (ab s.P 55 vt hz) hz fun v60 h61=>
 bs (ai s.P wl 55 v7 v60 h61) fun hw=>
 eg [some vR,ab s.P 55 v7 hw] hw))):=kB
theorem aey:evF Tryz.prog xM (k+1) wl 167 [b,a,d] h=ak (xX (xS k) 167 wl k false) Tryz.f167 [b,a,d] h:=by kernel_rfl
-- names: Xy,
noncomputable def kF:List Fr:=[.block 0,.seq (am (an Tryz.f168) [1,1,1,1])]
theorem Yz:ak (xX s 168 wl k false) Tryz.f168 [b,a,d] h =
 bp (aU b h) fun v1 h2=>
 bp (aU d h2) fun v3 h4=>
 bp (some (.own h4.length 0 0,h4++[.rows 0 [] 0 true])) fun v5 h6=>
 bp (aA s.P 55 h6) fun v7 h8=>
 bp (yC s k wl 168 false true (.fn (.func 76) [] []) [a] h8) fun v9 hA=>
 bm (ab s.P 23 v1 hA) hA fun vA hB=>
 bm (ab s.P 55 v3 hB) hB fun vC hC=>
 bp (yC s k wl 168 false true (.fn (.func 196) [] []) [vA,a,vC,(.lit (.int .i64 4))] hC) fun vD hD=>
 bm (vUn .not vD) hD fun vB hE=>
 cnd vB (
 bm (ab s.P 55 v3 hE) hE fun vE hF=>
 bs (ai s.P wl 55 v7 vE hF) fun hO=>
 eg [some v9,ab s.P 55 v7 hO] hO) (
 bm (aa s.P 55 v3 1) hE fun vT hm=>
 bm (ab s.P 3 vT hm) hm fun vP ha=>
 bm (az s.P .eql 3 vP (.lit (.int .i64 0))) ha fun vM hn=>
 cnd vM (
 bp (yC s k wl 168 false true (.fn (.func 27) [] []) [v9,(.lit (.int .i64 4))] hn) fun vf hs=>
 bm (aa s.P 55 v3 4) hs fun vo hc=>
 bs (ai s.P wl 46 vo vf hc) fun hN=>
 bm (aa s.P 55 v3 1) hN fun vK hP=>
 bs (ai s.P wl 3 vK (.lit (.int .i64 1)) hP) fun hW=>
 av (xX s 168 wl k false) (aD s.P Tryz.f168) kF .norm ⟨(b::a::d::v1::uu::v3::v5::v7::v9::uu::uu::a::v9::vA::a::vC::vD::vB::uu::uu::vT::vP::uu::uu::uu::uu::uu::uu::uu::uu::uu::uu::uu::uu::uu::uu::uu::vM::vM::v9::vf::vo::vK::uu::uu::uu::uu::uu::uu::uu::uu::uu::uu::uu::uu::uu::uu::uu::uu::uu::uu::uu::uu::uu::uu::uu::uu::uu::uu::uu::uu::uu::uu::uu::uu::uu::uu::uu::uu::uu::uu::uu::uu::uu::uu::uu::uu::uu::uu::uu::uu::uu::uu::uu::[]),hW⟩) (
 bm (az s.P .eql 3 vP (.lit (.int .i64 1))) hn fun vN hU=>
 cnd vN (
 bm (ab s.P 23 v1 hU) hU fun vU hb=>
 bm (aa s.P 55 v3 4) hb fun vS hd=>
 bm (ab s.P 46 vS hd) hd fun vq hj=>
 bp (yC s k wl 168 false true (.fn (.func 203) [] []) [vU,vq] hj) fun vl hX=>
 bp (yC s k wl 168 false true (.fn (.func 27) [] []) [v9,vl] hX) fun va he=>
 bm (aa s.P 55 v3 5) he fun vc hg=>
 bs (ai s.P wl 46 vc va hg) fun hl=>
 bm (aa s.P 55 v3 1) hl fun vs hL=>
 bs (ai s.P wl 3 vs (.lit (.int .i64 0)) hL) fun hk=>
 bm (aa s.P 55 v3 5) hk fun vR hr=>
 stO hk.length vR (
 bm (ab s.P 46 vR hr) hr fun vp ht=>
 bm (ab s.P 23 v1 ht) ht fun vt hz=>
 bm (aa s.P 55 v3 4) hz fun v60 h61=>
 bm (ab s.P 46 v60 h61) h61 fun vx h63=>
 bp (yC s k wl 168 true true (.fn (.func 204) [] []) [vt,vx] h63) fun vw h65=>
 bp (yC s k wl 168 false true (.fn (.func 106) [] []) [vp,vw] h65) fun vj h67=>
 bm (az s.P .eql 3 vj (.lit (.int .i64 0))) h67 fun v68 h69=>
 cnd v68 (
 bm (aa s.P 55 v3 1) h69 fun v70 h71=>
 bs (ai s.P wl 3 v70 (.lit (.int .i64 2)) h71) fun h72=>
 av (xX s 168 wl k false) (aD s.P Tryz.f168) kF .norm ⟨(b::a::d::v1::uu::v3::v5::v7::v9::vj::uu::a::v9::vA::a::vC::vD::vB::uu::uu::vT::vP::uu::uu::uu::uu::uu::uu::uu::uu::uu::uu::uu::uu::uu::uu::uu::vM::vM::uu::uu::uu::uu::vN::vN::v9::vU::vS::vq::vl::va::vc::vs::vR::vp::vt::v60::vx::vw::vj::vj::v68::v70::uu::uu::uu::uu::uu::uu::uu::uu::uu::uu::uu::uu::uu::uu::uu::uu::uu::uu::uu::uu::uu::uu::uu::uu::uu::uu::uu::uu::uu::uu::uu::[]),h72⟩) (
 bm (az s.P .lss 3 vj (.lit (.int .i64 0))) h69 fun vu hv=>
 cnd vu (
 bm (ab s.P 55 v3 hv) hv fun v75 h76=>
 bp (yC s k wl 168 false true (.fn (.func 193) [] []) [v75,(.lit (.int .i64 3)),(.lit (.int .u64 0))] h76) fun v77 h78=>
 bs (ai s.P wl 55 v3 v77 h78) fun h79=>
 av (xX s 168 wl k false) (aD s.P Tryz.f168) kF .norm ⟨(b::a::d::v1::uu::v3::v5::v7::v9::vj::uu::a::v9::vA::a::vC::vD::vB::uu::uu::vT::vP::uu::uu::uu::uu::uu::uu::uu::uu::uu::uu::uu::uu::uu::uu::uu::vM::vM::uu::uu::uu::uu::vN::vN::v9::vU::vS::vq::vl::va::vc::vs::vR::vp::vt::v60::vx::vw::vj::vj::v68::uu::vj::vu::v75::v77::uu::uu::uu::uu::uu::uu::uu::uu::uu::uu::uu::uu::uu::uu::uu::uu::uu::uu::uu::uu::uu::uu::uu::uu::uu::uu::uu::[]),h79⟩) (
 av (xX s 168 wl k false) (aD s.P Tryz.f168) kF .norm ⟨(b::a::d::v1::uu::v3::v5::v7::v9::vj::uu::a::v9::vA::a::vC::vD::vB::uu::uu::vT::vP::uu::uu::uu::uu::uu::uu::uu::uu::uu::uu::uu::uu::uu::uu::uu::vM::vM::uu::uu::uu::uu::vN::vN::v9::vU::vS::vq::vl::va::vc::vs::vR::vp::vt::v60::vx::vw::vj::vj::v68::uu::vj::vu::uu::uu::uu::uu::uu::uu::uu::uu::uu::uu::uu::uu::uu::uu::uu::uu::uu::uu::uu::uu::uu::uu::uu::uu::uu::uu::uu::uu::uu::[]),hv⟩)))) (
 bm (az s.P .eql 3 vP (.lit (.int .i64 2))) hU fun v80 h81=>
 cnd v80 (
 bm (aa s.P 55 v3 1) h81 fun v82 h83=>
 bs (ai s.P wl 3 v82 (.lit (.int .i64 0)) h83) fun h84=>
 bm (aa s.P 55 v3 4) h84 fun v85 h86=>
 bm (ab s.P 46 v85 h86) h86 fun v87 h88=>
 bm (aa s.P 55 v3 4) h88 fun v89 h90=>
 bm (ab s.P 46 v89 h90) h90 fun v91 h92=>
 bm (az s.P .add 46 v91 (.lit (.int .u64 1))) h92 fun v93 h94=>
 bp (yC s k wl 168 false true (.fn (.func 191) [] []) [v9,(.lit (.int .i64 4)),v87,v93] h94) fun v95 h96=>
 bm (ar v95 0) h96 fun v97 h98=>
 bm (ar v95 1) h98 fun v99 h100=>
 cnd v99 (
 bm (aa s.P 55 v3 1) h100 fun vg h102=>
 bs (ai s.P wl 3 vg (.lit (.int .i64 3)) h102) fun h103=>
 av (xX s 168 wl k false) (aD s.P Tryz.f168) kF .norm ⟨(b::a::d::v1::uu::v3::v5::v7::v97::uu::v99::a::v9::vA::a::vC::vD::vB::uu::uu::vT::vP::uu::uu::uu::uu::uu::uu::uu::uu::uu::uu::uu::uu::uu::uu::uu::vM::vM::uu::uu::uu::uu::vN::vN::uu::uu::uu::uu::uu::uu::uu::uu::uu::uu::uu::uu::uu::uu::uu::uu::uu::uu::uu::uu::uu::uu::v80::v80::v82::v95::v9::v85::v87::v89::v91::v93::v95::v97::v99::v99::vg::uu::uu::uu::uu::uu::uu::uu::uu::uu::uu::uu::uu::[]),h103⟩) (
 av (xX s 168 wl k false) (aD s.P Tryz.f168) kF .norm ⟨(b::a::d::v1::uu::v3::v5::v7::v97::uu::v99::a::v9::vA::a::vC::vD::vB::uu::uu::vT::vP::uu::uu::uu::uu::uu::uu::uu::uu::uu::uu::uu::uu::uu::uu::uu::vM::vM::uu::uu::uu::uu::vN::vN::uu::uu::uu::uu::uu::uu::uu::uu::uu::uu::uu::uu::uu::uu::uu::uu::uu::uu::uu::uu::uu::uu::v80::v80::v82::v95::v9::v85::v87::v89::v91::v93::v95::v97::v99::v99::uu::uu::uu::uu::uu::uu::uu::uu::uu::uu::uu::uu::uu::[]),h100⟩)) (
 bm (az s.P .eql 3 vP (.lit (.int .i64 3))) h81 fun v104 h105=>
 cnd v104 (
 bm (ab s.P 23 v1 h105) h105 fun v106 h107=>
 bm (aa s.P 55 v3 4) h107 fun v108 h109=>
 bm (ab s.P 46 v108 h109) h109 fun v110 h111=>
 bp (yC s k wl 168 false true (.fn (.func 205) [] []) [v106,v110] h111) fun v112 h113=>
 bp (yC s k wl 168 false true (.fn (.func 27) [] []) [v9,v112] h113) fun v114 h115=>
 bm (aa s.P 55 v3 3) h115 fun v116 h117=>
 bs (ai s.P wl 46 v116 v114 h117) fun h118=>
 bm (aa s.P 55 v3 1) h118 fun v119 h120=>
 bs (ai s.P wl 3 v119 (.lit (.int .i64 4)) h120) fun h121=>
 av (xX s 168 wl k false) (aD s.P Tryz.f168) kF .norm ⟨(b::a::d::v1::uu::v3::v5::v7::v9::uu::uu::a::v9::vA::a::vC::vD::vB::uu::uu::vT::vP::uu::uu::uu::uu::uu::uu::uu::uu::uu::uu::uu::uu::uu::uu::uu::vM::vM::uu::uu::uu::uu::vN::vN::uu::uu::uu::uu::uu::uu::uu::uu::uu::uu::uu::uu::uu::uu::uu::uu::uu::uu::uu::uu::uu::uu::v80::v80::uu::uu::uu::uu::uu::uu::uu::uu::uu::uu::uu::uu::uu::v104::v104::v9::v106::v108::v110::v112::v114::v116::v119::uu::uu::[]),h121⟩) (
 bm (ab s.P 23 v1 h105) h105 fun v122 h123=>
 bm (aa s.P 55 v3 4) h123 fun v124 h125=>
 bm (ab s.P 46 v124 h125) h125 fun v126 h127=>
 bp (yC s k wl 168 true true (.fn (.func 203) [] []) [v122,v126] h127) fun v128 h129=>
 stO h105.length v1 (
 bm (ab s.P 23 v1 h129) h129 fun v130 h131=>
 bm (aa s.P 55 v3 4) h131 fun v132 h133=>
 stO h105.length v132 (
 bm (ab s.P 46 v132 h133) h133 fun v134 h135=>
 bp (yC s k wl 168 false true (.fn (.func 204) [] []) [v130,v134] h135) fun v136 h137=>
 bm (az s.P .add 46 v136 (.lit (.int .u64 1))) h137 fun v138 h139=>
 bp (yC s k wl 168 false true (.fn (.func 88) [] []) [v9,v128,v138] h139) fun v140 h141=>
 bm (ab s.P 55 v3 h141) h141 fun v142 h143=>
 bm (aa s.P 55 v3 3) h143 fun v144 h145=>
 bm (ab s.P 46 v144 h145) h145 fun v146 h147=>
 bp (yC s k wl 168 false true (.fn (.func 193) [] []) [v142,(.lit (.int .i64 1)),v146] h147) fun v148 h149=>
 bs (ai s.P wl 55 v3 v148 h149) fun h150=>
 av (xX s 168 wl k false) (aD s.P Tryz.f168) kF .norm ⟨(b::a::d::v1::uu::v3::v5::v7::v140::uu::uu::a::v9::vA::a::vC::vD::vB::uu::uu::vT::vP::v9::v122::v124::v126::v128::v130::v132::v134::v136::v138::v140::v142::v144::v146::v148::vM::vM::uu::uu::uu::uu::vN::vN::uu::uu::uu::uu::uu::uu::uu::uu::uu::uu::uu::uu::uu::uu::uu::uu::uu::uu::uu::uu::uu::uu::v80::v80::uu::uu::uu::uu::uu::uu::uu::uu::uu::uu::uu::uu::uu::v104::v104::uu::uu::uu::uu::uu::uu::uu::uu::uu::uu::[]),h150⟩))))))):=kB
theorem ab5:evF Tryz.prog xM (k+1) wl 168 [b,a,d] h=ak (xX (xS k) 168 wl k false) Tryz.f168 [b,a,d] h:=by kernel_rfl
theorem J5:av (xX s 168 wl k false) (aD s.P Tryz.f168) kF .norm ⟨(b::a::d::l::q::g::r::i::j::u::v::z::A::o::B::D::E::F::p::G::I::J::L::M::N::O::Q::R::T::U::Y::Z::t0::t1::t2::t3::t4::t5::t6::t7::t8::W::t9::ta::X::th::tb::tc::td::te::tf::tg::ti::tj::tk::tl::tm::tn::tp::tq::tr::ts::tt::tu::tv::tw::tx::ty::tz::tA::tB::tC::tD::tE::tF::tG::tH::tI::tJ::tK::tL::tM::tN::tO::tP::tQ::tR::tS::tT::tU::tV::tW::tX::tY::[]),h⟩ =
 bm (ab s.P 55 g h) h fun v151 h152=>
 bs (ai s.P wl 55 i v151 h152) fun h153=>
 eg [some j,ab s.P 55 i h153] h153:=kR
theorem wG (cx:Cx) (s:St):av cx K kF .ret s=K .ret s:=by kernel_rfl
-- names: Yz,J5,wG
theorem Ye:ak (xX s 180 wl k false) Tryz.f180 [b,a,d] h =
 bp (aU b h) fun v1 h2=>
 bp (aU d h2) fun v3 h4=>
 bp (some (.own h4.length 0 0,h4++[.rows 0 [] 0 true])) fun v5 h6=>
 bp (aA s.P 55 h6) fun v7 h8=>
 bm (aa s.P 55 v3 0) h8 fun v9 hA=>
 bm (ab s.P 3 v9 hA) hA fun vA hB=>
 bm (az s.P .eql 3 vA (.lit (.int .i64 0))) hB fun vC hC=>
 cnd vC (
 bm (ab s.P 23 v1 hC) hC fun vD hD=>
 bm (ab s.P 55 v3 hD) hD fun vB hE=>
 bp (yC s k wl 180 false true (.fn (.func 207) [] []) [vD,a,vB] hE) fun vE hF=>
 bm (ar vE 0) hF fun vF hG=>
 bm (ar vE 1) hG fun vH hJ=>
 bs (ai s.P wl 55 v7 vH hJ) fun ha=>
 eg [some vF,ab s.P 55 v7 ha] ha) (
 bm (az s.P .eql 3 vA (.lit (.int .i64 1))) hC fun vM hn=>
 cnd vM (
 bm (ab s.P 23 v1 hn) hn fun vf hs=>
 bm (ab s.P 55 v3 hs) hs fun vo hc=>
 bp (yC s k wl 180 false true (.fn (.func 208) [] []) [vf,a,vo] hc) fun vh hi=>
 bm (ar vh 0) hi fun vi hW=>
 bm (ar vh 1) hW fun vN hU=>
 bs (ai s.P wl 55 v7 vN hU) fun hS=>
 eg [some vi,ab s.P 55 v7 hS] hS) (
 bm (az s.P .eql 3 vA (.lit (.int .i64 2))) hn fun vX hT=>
 cnd vX (
 bm (ab s.P 23 v1 hT) hT fun vQ hQ=>
 bm (ab s.P 55 v3 hQ) hQ fun vY hZ=>
 bp (yC s k wl 180 false true (.fn (.func 209) [] []) [vQ,a,vY] hZ) fun vd hK=>
 bm (ar vd 0) hK fun vk hf=>
 bm (ar vd 1) hf fun ve hl=>
 bs (ai s.P wl 55 v7 ve hl) fun hY=>
 eg [some vk,ab s.P 55 v7 hY] hY) (
 bp (yC s k wl 180 true true (.fn (.func 76) [] []) [a] hT) fun vZ hk=>
 stO hT.length v3 (
 bm (ab s.P 55 v3 hk) hk fun vR hr=>
 bs (ai s.P wl 55 v7 vR hr) fun hp=>
 eg [some vZ,ab s.P 55 v7 hp] hp)))):=kB
theorem adK:evF Tryz.prog xM (k+1) wl 180 [b,a,d] h=ak (xX (xS k) 180 wl k false) Tryz.f180 [b,a,d] h:=by kernel_rfl
-- names: Ye,
end
end Go.Ab
set_option maxRecDepth 100000
set_option linter.unusedVariables false
namespace Go.Ab
open Go.Proofs
section
variable (s:Sys) (k wl:Nat) (m0:Nat) (ac:List Nat×List Nat) (b g e j l o r u y n p z A q D E B G F L I M J O R Q N Y U Z W X T t1 t2 t3 t4 t0 tf te tg t6 t5 tb t7 tc t8 t9 td ta th ti tj tk tl tm tn tp tq tr q4 q5 q6 ts tt tu tv tw tx ty tz tA tB qb qc qd tC tD tE tF tG tH tI tJ tK tL tM tN q7 q8 q9 qa tO tP tQ tR tS tT tU tV tW tX tY tZ q0 q1 q2 q3 qe qf qg qh qi qj qk ql qm qn qo qp qq qr qs qt qu qv qw qx qy qz qA qB qC qD qE qF qG qH qI qJ:V) (h:Hp) (K:Out→St→Option (V×Hp)) (rd:Bool) (zz:List V)
theorem afh:ak (xX s 83 wl k false) Tryz.f83 [b,g,e,j,l,o] h =
 bp (aU b h) fun v1 h2=>
 bp (aU l h2) fun v3 h4=>
 bp (some (.own h4.length 0 0,h4++[.rows 0 [] 0 true])) fun v5 h6=>
 bp (aA s.P 65 h6) fun v7 h8=>
 bp (some (.own h8.length 0 0,h8++[.rows 0 [] 0 true])) fun v9 hA=>
 stO hA.length v3 (
 bm (ab s.P 65 v3 hA) hA fun vA hB=>
 stO hA.length v1 (
 bm (ab s.P 23 v1 hB) hB fun vC hC=>
 bp (yC s k wl 83 true true (.fn (.func 76) [] []) [e] hC) fun vD hD=>
 bm (bc s.P 168 [(0,vA),(1,vC),(2,g),(3,vD),(4,j),(5,o)]) hD fun vB hE=>
 bp (aU vB hE) fun vE hF=>
 bm (aa s.P 65 v3 1) hF fun vF hG=>
 bm (ab s.P 63 vF hG) hG fun vH hJ=>
 bp (yC s k wl 83 false true (.fn (.func 79) [] []) [vH] hJ) fun vI hI=>
 bm (aN vE hI) hI fun vG hH=>
 bm (aa s.P 168 vG 0) hH fun vJ hM=>
 bm (aa s.P 65 vJ 1) hM fun vL hN=>
 bs (ai s.P wl 63 vL vI hN) fun hi=>
 bm (ab s.P 23 v1 hi) hi fun vi hW=>
 bm (ab s.P 65 v3 hW) hW fun vN hU=>
 bp (yC s k wl 83 false true (.fn (.func 95) [] []) [vi,g,e,j,vN] hU) fun vU hb=>
 bm (vUn .not vU) hb fun vS hd=>
 cnd vS (
 bm (aN vE hd) hd fun vq hj=>
 bm (aa s.P 168 vq 3) hj fun vl hX=>
 bm (ab s.P 26 vl hX) hX fun va he=>
 bm (aN vE he) he fun vc hg=>
 bm (aa s.P 168 vc 0) hg fun vV hY=>
 bm (ab s.P 65 vV hY) hY fun vZ hk=>
 bs (ai s.P wl 65 v7 vZ hk) fun hh=>
 bp (some (.own hh.length 0 0,hh++[.rows 0 [] 0 true])) fun vv hp=>
 eg [some va,ab s.P 65 v7 hp,some vv] hp) (
 bm (bc s.P 169 [(0,(.fn (.func 116) [vE] [])),(1,(.fn (.func 117) [vE] [])),(2,(.fn (.func 118) [vE] [])),(3,(.fn (.func 118) [vE] [])),(4,(.fn (.func 119) [vE] [])),(5,(.fn (.func 120) [vE] [])),(6,(.fn (.func 121) [vE] [])),(7,(.fn (.func 122) [vE] [])),(8,(.fn (.func 123) [vE] [])),(9,(.fn (.func 124) [vE] [])),(10,(.fn (.func 125) [vE] [])),(11,(.fn (.func 126) [vE] [])),(12,(.fn (.func 127) [vE] [])),(13,(.fn (.func 128) [vE] [])),(14,(.fn (.func 129) [vE] [])),(15,(.fn (.func 130) [vE] []))]) hd fun vy hx=>
 bp (aA s.P 169 hx) fun v59 hy=>
 bs (ai s.P wl 169 v59 vy hy) fun h61=>
 bm (aa s.P 65 v3 0) h61 fun vx h63=>
 bm (ab s.P 3 vx h63) h63 fun vw h65=>
 bm (al s.P 169 v59 vw h65) h65 fun vj h67=>
 bm (ab s.P 1 vj h67) h67 fun v68 h69=>
 bp (yC s k wl 83 false true v68 [] h69) fun v70 h71=>
 bm (aN vE h71) h71 fun v72 h73=>
 bm (aa s.P 168 v72 3) h73 fun v74 h75=>
 bm (ab s.P 26 v74 h75) h75 fun v76 hR=>
 bm (aN vE hR) hR fun v78 h79=>
 bm (aa s.P 168 v78 0) h79 fun v80 h81=>
 bm (ab s.P 65 v80 h81) h81 fun v82 h83=>
 stO h71.length vE (
 bm (aN vE h83) h83 fun v84 h85=>
 bm (aa s.P 168 v84 6) h85 fun v86 h87=>
 stO h71.length v86 (
 bm (ab s.P 34 v86 h87) h87 fun v88 h89=>
 bs (ai s.P wl 65 v7 v82 h89) fun h90=>
 apt (lgW v7 (lgR v86 (lgR vE ([],[])))) (
 eg [some v76,ab s.P 65 v7 h90,some v88] h90)))))):=kB
theorem afP:evF Tryz.prog xM (k+1) wl 83 [b,g,e,j,l,o] h=ak (xX (xS k) 83 wl k false) Tryz.f83 [b,g,e,j,l,o] h:=by kernel_rfl
-- names: afh,
theorem aas:ak (xX s 116 wl k false) Tryz.f116 [b] h =
 bp (yC s k wl 116 false true (.fn (.func 156) [] []) [b] h) fun v1 h2=>
 bm (vUn .not v1) h2 fun v3 h4=>
 cnd v3 (
 some (.tup [],h4)) (
 bm (aN b h4) h4 fun v5 h6=>
 bm (aa s.P 168 v5 0) h6 fun v7 h8=>
 bm (aa s.P 65 v7 2) h8 fun v9 hA=>
 bm (ab s.P 55 v9 hA) hA fun vA hB=>
 bp (aA s.P 55 hB) fun vC hC=>
 bs (ai s.P wl 55 vC vA hC) fun ho=>
 bm (aa s.P 55 vC 6) ho fun vr hu=>
 bm (ab s.P 3 vr hu) hu fun vm hq=>
 bm (az s.P .neq 3 vm (.lit (.int .i64 1))) hq fun vb hO=>
 cnd vb (
 bp (yC s k wl 116 false true (.fn (.func 157) [] []) [b,(.lit (.int .i64 1))] hO) fun vT hm=>
 some (.tup [],hm)) (
 bp (yC s k wl 116 false true (.fn (.func 157) [] []) [b,(.lit (.int .i64 9))] hO) fun vP ha=>
 bm (aa s.P 55 vC 3) ha fun vM hn=>
 bm (ab s.P 46 vM hn) hn fun vf hs=>
 bp (yC s k wl 116 false true (.fn (.func 158) [] []) [b,vf] hs) fun vo hc=>
 some (.tup [],hc))):=kB
theorem adC:evF Tryz.prog xM (k+1) wl 116 [b] h=ak (xX (xS k) 116 wl k false) Tryz.f116 [b] h:=by kernel_rfl
-- names: aas,
theorem ZW:ak (xX s 117 wl k false) Tryz.f117 [b] h =
 bp (yC s k wl 117 false true (.fn (.func 159) [] []) [b,(.lit (.int .i64 1)),(.lit (.int .u64 1))] h) fun v1 h2=>
 bm (aN b h2) h2 fun v3 h4=>
 bm (aa s.P 168 v3 1) h4 fun v5 h6=>
 bm (aa s.P 23 v5 3) h6 fun v7 h8=>
 bm (ab s.P 3 v7 h8) h8 fun v9 hA=>
 bm (aN b hA) hA fun vA hB=>
 bm (aa s.P 168 vA 0) hB fun vC hC=>
 bm (aa s.P 65 vC 3) hC fun vD hD=>
 bs (ai s.P wl 3 vD v9 hD) fun hu=>
 bm (aN b hu) hu fun vm hq=>
 bm (aa s.P 168 vm 4) hq fun vb hO=>
 bm (ab s.P 3 vb hO) hO fun vT hm=>
 bp (yC s k wl 117 false true (.fn (.func 160) [] []) [b,(.lit (.int .i64 2)),(.lit (.int .i64 4)),vT,(.lit (.int .u64 0))] hm) fun vP ha=>
 some (.tup [],ha):=kB
theorem aeu:evF Tryz.prog xM (k+1) wl 117 [b] h=ak (xX (xS k) 117 wl k false) Tryz.f117 [b] h:=by kernel_rfl
-- names: ZW,
noncomputable def CS:Code:=am (an Tryz.f118) [0,1,1,1,0,0]
noncomputable def ww:List Fr:=[.seq (am (an Tryz.f118) [0,1,1,1,0,1]),.seq (am (an Tryz.f118) [0,1,1,1,1]),.scope (am (an Tryz.f118) [0])]
theorem Z1:ak (xX s 118 wl k false) Tryz.f118 [b] h =
 bm (aN b h) h fun v1 h2=>
 bm (aa s.P 168 v1 5) h2 fun v3 h4=>
 bm (ab s.P 46 v3 h4) h4 fun v5 h6=>
 bm (aN b h6) h6 fun v7 h8=>
 bm (aa s.P 168 v7 4) h8 fun v9 hA=>
 bm (ab s.P 3 v9 hA) hA fun vA hB=>
 bm (aN b hB) hB fun vC hC=>
 bm (aa s.P 168 vC 1) hC fun vD hD=>
 bm (aa s.P 23 vD 0) hD fun vB hE=>
 bm (ab s.P 3 vB hE) hE fun vE hF=>
 bp (yC s k wl 118 false true (.fn (.func 161) [] []) [v5,vA,vE] hF) fun vF hG=>
 bp (yC s k wl 118 false true (.fn (.func 156) [] []) [b] hG) fun vH hJ=>
 bm (vUn .not vH) hJ fun vI hI=>
 cnd vI (
 some (.tup [],hI)) (
 bm (aN b hI) hI fun vG hH=>
 bm (aa s.P 168 vG 0) hH fun vJ hM=>
 bm (aa s.P 65 vJ 2) hM fun vL hN=>
 bm (aa s.P 55 vL 6) hN fun vK hP=>
 bm (ab s.P 3 vK hP) hP fun vO hV=>
 bm (az s.P .eql 3 vO (.lit (.int .i64 1))) hV fun vW hS=>
 cnd vW (
 bm (aN b hS) hS fun vX hT=>
 bm (aa s.P 168 vX 0) hT fun vQ hQ=>
 bm (aa s.P 65 vQ 0) hQ fun vY hZ=>
 bs (ai s.P wl 3 vY (.lit (.int .i64 4)) hZ) fun hX=>
 some (.tup [],hX)) (
 bm (aN b hS) hS fun va he=>
 bm (aa s.P 168 va 0) he fun vc hg=>
 bm (aa s.P 65 vc 0) hg fun vV hY=>
 bm (ab s.P 3 vV hY) hY fun vZ hk=>
 bm (az s.P .eql 3 vZ (.lit (.int .i64 2))) hk fun vR hr=>
 gd vR (
 bm (az s.P .geq 3 vF (.lit (.int .i64 0))) hr fun vp ht=>
 yO s k wl 118 Tryz.f118 CS 9 hS.length ([],[]) ww ⟨(b::uu::vF::b::v1::v3::v5::b::v7::v9::vA::b::vC::vD::vB::vE::vF::b::vH::vI::b::vG::vJ::vL::vK::vO::vW::b::va::vc::vV::vZ::vR::(.lit (.bool true))::vF::vp::uu::uu::uu::uu::uu::uu::uu::uu::uu::uu::uu::uu::uu::uu::uu::uu::uu::uu::uu::uu::uu::uu::uu::uu::uu::uu::uu::uu::uu::uu::uu::uu::uu::uu::uu::[]),ht⟩) (
 yO s k wl 118 Tryz.f118 CS 9 hS.length ([],[]) ww ⟨(b::uu::vF::b::v1::v3::v5::b::v7::v9::vA::b::vC::vD::vB::vE::vF::b::vH::vI::b::vG::vJ::vL::vK::vO::vW::b::va::vc::vV::vZ::vR::(.lit (.bool false))::uu::uu::uu::uu::uu::uu::uu::uu::uu::uu::uu::uu::uu::uu::uu::uu::uu::uu::uu::uu::uu::uu::uu::uu::uu::uu::uu::uu::uu::uu::uu::uu::uu::uu::uu::uu::uu::[]),hr⟩) (
 yO s k wl 118 Tryz.f118 CS 8 hS.length ([],[]) ww ⟨(b::uu::vF::b::v1::v3::v5::b::v7::v9::vA::b::vC::vD::vB::vE::vF::b::vH::vI::b::vG::vJ::vL::vK::vO::vW::b::va::vc::vV::vZ::vR::vR::uu::uu::uu::uu::uu::uu::uu::uu::uu::uu::uu::uu::uu::uu::uu::uu::uu::uu::uu::uu::uu::uu::uu::uu::uu::uu::uu::uu::uu::uu::uu::uu::uu::uu::uu::uu::uu::[]),hr⟩))):=kB
theorem adF:evF Tryz.prog xM (k+1) wl 118 [b] h=ak (xX (xS k) 118 wl k false) Tryz.f118 [b] h:=by kernel_rfl
theorem NA:yO s k wl 118 Tryz.f118 CS 9 m0 ac ww ⟨(b::g::e::j::l::o::r::u::y::n::p::z::A::q::D::E::B::G::F::L::I::M::J::O::R::Q::N::Y::U::Z::W::X::T::t1::t2::t3::t4::t0::tf::te::tg::t6::t5::tb::t7::tc::t8::t9::td::ta::th::ti::tj::tk::tl::tm::tn::tp::tq::tr::q4::q5::q6::ts::tt::tu::tv::tw::tx::ty::tz::[]),h⟩ =
 bm (aT t1 t3 (.lit (.bool false))) h fun vt hz=>
 cnd vt (
 bp (yC s k wl 118 false true (.fn (.func 160) [] []) [b,(.lit (.int .i64 3)),(.lit (.int .i64 2)),e,(.lit (.int .u64 0))] hz) fun v60 h61=>
 some (.tup [],h61)) (
 bm (aN b hz) hz fun vx h63=>
 bm (aa s.P 168 vx 0) h63 fun vw h65=>
 bm (aa s.P 65 vw 3) h65 fun vj h67=>
 bm (ab s.P 3 vj h67) h67 fun v68 h69=>
 bm (az s.P .leq 3 v68 (.lit (.int .i64 0))) h69 fun v70 h71=>
 cnd v70 (
 bm (aN b h71) h71 fun v72 h73=>
 bm (aa s.P 168 v72 4) h73 fun v74 h75=>
 bm (ab s.P 3 v74 h75) h75 fun v76 hR=>
 bp (yC s k wl 118 false true (.fn (.func 160) [] []) [b,(.lit (.int .i64 5)),(.lit (.int .i64 5)),v76,(.lit (.int .u64 0))] hR) fun v78 h79=>
 some (.tup [],h79)) (
 bm (aN b h71) h71 fun v80 h81=>
 bm (aa s.P 168 v80 0) h81 fun v82 h83=>
 bm (aa s.P 65 v82 3) h83 fun v84 h85=>
 bm (ab s.P 3 v84 h85) h85 fun v86 h87=>
 bm (az s.P .sub 3 v86 (.lit (.int .i64 1))) h87 fun v88 h89=>
 bm (aN b h89) h89 fun v90 h91=>
 bm (aa s.P 168 v90 0) h91 fun v92 h93=>
 bm (aa s.P 65 v92 3) h93 fun v94 h95=>
 bs (ai s.P wl 3 v94 v88 h95) fun h96=>
 bm (aN b h96) h96 fun v97 h98=>
 bm (aa s.P 168 v97 4) h98 fun v99 h100=>
 bm (ab s.P 3 v99 h100) h100 fun vg h102=>
 bp (yC s k wl 118 false true (.fn (.func 160) [] []) [b,(.lit (.int .i64 2)),(.lit (.int .i64 4)),vg,(.lit (.int .u64 0))] h102) fun v103 h104=>
 some (.tup [],h104))):=kG
theorem uA (cx:Cx) (s:St):av cx K ww .ret s=K .ret s:=by kernel_rfl
-- names: Z1,NA,uA
noncomputable def Cp:List Fr:=[.seq (am (an Tryz.f119) [1,1])]
theorem aaR:ak (xX s 119 wl k false) Tryz.f119 [b] h =
 bm (aN b h) h fun v1 h2=>
 bm (aa s.P 168 v1 0) h2 fun v3 h4=>
 bm (aa s.P 65 v3 2) h4 fun v5 h6=>
 bm (aa s.P 55 v5 3) h6 fun v7 h8=>
 bm (ab s.P 46 v7 h8) h8 fun v9 hA=>
 bp (yC s k wl 119 false true (.fn (.func 159) [] []) [b,(.lit (.int .i64 1)),(.lit (.int .u64 18446744073709551615))] hA) fun vA hB=>
 bm (az s.P .eql 46 vA (.lit (.int .u64 1))) hB fun vC hC=>
 cnd vC (
 bm (aN b hC) hC fun vD hD=>
 bm (aa s.P 168 vD 4) hD fun vB hE=>
 bm (ab s.P 3 vB hE) hE fun vE hF=>
 bp (yC s k wl 119 false true (.fn (.func 160) [] []) [b,(.lit (.int .i64 14)),(.lit (.int .i64 6)),vE,(.lit (.int .u64 0))] hF) fun vF hG=>
 av (xX s 119 wl k false) (aD s.P Tryz.f119) Cp .norm ⟨[b,uu,v9,b,v1,v3,v5,v7,v9,b,vA,vC,b,b,vD,vB,vE,vF,uu,uu,uu,uu,uu],hG⟩) (
 bp (yC s k wl 119 false true (.fn (.func 157) [] []) [b,(.lit (.int .i64 9))] hC) fun vH hJ=>
 av (xX s 119 wl k false) (aD s.P Tryz.f119) Cp .norm ⟨[b,uu,v9,b,v1,v3,v5,v7,v9,b,vA,vC,uu,uu,uu,uu,uu,uu,b,vH,uu,uu,uu],hJ⟩):=kB
theorem ad8:evF Tryz.prog xM (k+1) wl 119 [b] h=ak (xX (xS k) 119 wl k false) Tryz.f119 [b] h:=by kernel_rfl
theorem Kg:av (xX s 119 wl k false) (aD s.P Tryz.f119) Cp .norm ⟨[b,g,e,j,l,o,r,u,y,n,p,z,A,q,D,E,B,G,F,L,I,M,J],h⟩ =
 bp (yC s k wl 119 false true (.fn (.func 158) [] []) [b,e] h) fun vI hI=>
 some (.tup [],hI):=kR
theorem uy (cx:Cx) (s:St):av cx K Cp .ret s=K .ret s:=by kernel_rfl
-- names: aaR,Kg,uy
theorem Zk:ak (xX s 120 wl k false) Tryz.f120 [b] h =
 bp (yC s k wl 120 false true (.fn (.func 156) [] []) [b] h) fun v1 h2=>
 bm (aN b h2) h2 fun v3 h4=>
 bm (aa s.P 168 v3 0) h4 fun v5 h6=>
 bm (aa s.P 65 v5 0) h6 fun v7 h8=>
 bs (ai s.P wl 3 v7 (.lit (.int .i64 6)) h8) fun h9=>
 some (.tup [],h9):=kB
theorem abY:evF Tryz.prog xM (k+1) wl 120 [b] h=ak (xX (xS k) 120 wl k false) Tryz.f120 [b] h:=by kernel_rfl
-- names: Zk,
theorem XF:ak (xX s 121 wl k false) Tryz.f121 [b] h =
 bp (yC s k wl 121 false true (.fn (.func 159) [] []) [b,(.lit (.int .i64 1)),(.lit (.int .u64 18446744073709551615))] h) fun v1 h2=>
 bm (aN b h2) h2 fun v3 h4=>
 bm (aa s.P 168 v3 0) h4 fun v5 h6=>
 bm (aa s.P 65 v5 0) h6 fun v7 h8=>
 bs (ai s.P wl 3 v7 (.lit (.int .i64 7)) h8) fun h9=>
 bm (aN b h9) h9 fun v10 h11=>
 bm (aa s.P 168 v10 0) h11 fun v12 h13=>
 bm (aa s.P 65 v12 4) h13 fun vz ho=>
 bs (ai s.P wl 3 vz (.lit (.int .i64 0)) ho) fun hD=>
 some (.tup [],hD):=kB
theorem adL:evF Tryz.prog xM (k+1) wl 121 [b] h=ak (xX (xS k) 121 wl k false) Tryz.f121 [b] h:=by kernel_rfl
-- names: XF,
noncomputable def CK:Code:=am (an Tryz.f122) [1,1,0,0]
noncomputable def wv:List Fr:=[.seq (am (an Tryz.f122) [1,1,0,1]),.seq (am (an Tryz.f122) [1,1,1])]
noncomputable def pL:List Fr:=[.block 0,.seq (am (an Tryz.f122) [1,1,1,1,1,1])]
theorem Xw:ak (xX s 122 wl k false) Tryz.f122 [b] h =
 bm (aN b h) h fun v1 h2=>
 bm (aa s.P 168 v1 0) h2 fun v3 h4=>
 bm (aa s.P 65 v3 4) h4 fun v5 h6=>
 bm (ab s.P 3 v5 h6) h6 fun v7 h8=>
 bm (aN b h8) h8 fun v9 hA=>
 bm (aa s.P 168 v9 1) hA fun vA hB=>
 bm (aa s.P 23 vA 0) hB fun vC hC=>
 bm (ab s.P 3 vC hC) hC fun vD hD=>
 bm (az s.P .mul 3 (.lit (.int .i64 2)) vD) hD fun vB hE=>
 bm (az s.P .add 3 (.lit (.int .i64 2)) vB) hE fun vE hF=>
 bm (az s.P .lss 3 v7 (.lit (.int .i64 0))) hF fun vF hG=>
 gd vF (
 yO s k wl 122 Tryz.f122 CK 6 hF.length ([],[]) wv ⟨(b::uu::v7::vE::uu::uu::b::v1::v3::v5::v7::b::v9::vA::vC::vD::vB::vE::v7::vF::(.lit (.bool true))::uu::uu::uu::uu::uu::uu::uu::uu::uu::uu::uu::uu::uu::uu::uu::uu::uu::uu::uu::uu::uu::uu::uu::uu::uu::uu::uu::uu::uu::uu::uu::uu::uu::uu::uu::uu::uu::uu::uu::uu::uu::uu::uu::uu::uu::uu::uu::uu::uu::uu::uu::uu::uu::uu::uu::uu::uu::uu::uu::uu::uu::uu::uu::uu::uu::uu::uu::uu::uu::uu::uu::uu::uu::uu::uu::uu::uu::uu::uu::uu::uu::uu::uu::uu::uu::uu::uu::uu::uu::uu::uu::uu::uu::uu::uu::uu::uu::uu::uu::uu::uu::uu::uu::uu::uu::uu::uu::uu::uu::uu::uu::uu::uu::uu::uu::uu::uu::uu::uu::[]),hG⟩) (
 bm (az s.P .geq 3 v7 vE) hG fun vH hJ=>
 yO s k wl 122 Tryz.f122 CK 6 hF.length ([],[]) wv ⟨(b::uu::v7::vE::uu::uu::b::v1::v3::v5::v7::b::v9::vA::vC::vD::vB::vE::v7::vF::(.lit (.bool false))::v7::vE::vH::uu::uu::uu::uu::uu::uu::uu::uu::uu::uu::uu::uu::uu::uu::uu::uu::uu::uu::uu::uu::uu::uu::uu::uu::uu::uu::uu::uu::uu::uu::uu::uu::uu::uu::uu::uu::uu::uu::uu::uu::uu::uu::uu::uu::uu::uu::uu::uu::uu::uu::uu::uu::uu::uu::uu::uu::uu::uu::uu::uu::uu::uu::uu::uu::uu::uu::uu::uu::uu::uu::uu::uu::uu::uu::uu::uu::uu::uu::uu::uu::uu::uu::uu::uu::uu::uu::uu::uu::uu::uu::uu::uu::uu::uu::uu::uu::uu::uu::uu::uu::uu::uu::uu::uu::uu::uu::uu::uu::uu::uu::uu::uu::uu::uu::uu::uu::[]),hJ⟩) (
 yO s k wl 122 Tryz.f122 CK 4 hF.length ([],[]) wv ⟨(b::uu::v7::vE::uu::uu::b::v1::v3::v5::v7::b::v9::vA::vC::vD::vB::vE::v7::vF::vF::uu::uu::uu::uu::uu::uu::uu::uu::uu::uu::uu::uu::uu::uu::uu::uu::uu::uu::uu::uu::uu::uu::uu::uu::uu::uu::uu::uu::uu::uu::uu::uu::uu::uu::uu::uu::uu::uu::uu::uu::uu::uu::uu::uu::uu::uu::uu::uu::uu::uu::uu::uu::uu::uu::uu::uu::uu::uu::uu::uu::uu::uu::uu::uu::uu::uu::uu::uu::uu::uu::uu::uu::uu::uu::uu::uu::uu::uu::uu::uu::uu::uu::uu::uu::uu::uu::uu::uu::uu::uu::uu::uu::uu::uu::uu::uu::uu::uu::uu::uu::uu::uu::uu::uu::uu::uu::uu::uu::uu::uu::uu::uu::uu::uu::uu::uu::uu::uu::uu::[]),hG⟩):=kB
theorem ace:evF Tryz.prog xM (k+1) wl 122 [b] h=ak (xX (xS k) 122 wl k false) Tryz.f122 [b] h:=by kernel_rfl
theorem Nj:yO s k wl 122 Tryz.f122 CK 6 m0 ac wv ⟨(b::g::e::j::l::o::r::u::y::n::p::z::A::q::D::E::B::G::F::L::I::M::J::O::R::Q::N::Y::U::Z::W::X::T::t1::t2::t3::t4::t0::tf::te::tg::t6::t5::tb::t7::tc::t8::t9::td::ta::th::ti::tj::tk::tl::tm::tn::tp::tq::tr::q4::q5::q6::ts::tt::tu::tv::tw::tx::ty::tz::tA::tB::qb::qc::qd::tC::tD::tE::tF::tG::tH::tI::tJ::tK::tL::tM::tN::q7::q8::q9::qa::tO::tP::tQ::tR::tS::tT::tU::tV::tW::tX::tY::tZ::q0::q1::q2::q3::zz),h⟩ =
 bm (aT I (.lit (.bool true)) O) h fun vI hI=>
 cnd vI (
 bm (aN b hI) hI fun vG hH=>
 bm (aa s.P 168 vG 0) hH fun vJ hM=>
 bm (aa s.P 65 vJ 0) hM fun vL hN=>
 bs (ai s.P wl 3 vL (.lit (.int .i64 8)) hN) fun hi=>
 bm (aN b hi) hi fun vi hW=>
 bm (aa s.P 168 vi 0) hW fun vN hU=>
 bm (aa s.P 65 vN 2) hU fun vU hb=>
 bm (aa s.P 55 vU 3) hb fun vS hd=>
 bs (ai s.P wl 46 vS (.lit (.int .u64 0)) hd) fun hQ=>
 bm (aN b hQ) hQ fun vY hZ=>
 bm (aa s.P 168 vY 0) hZ fun vd hK=>
 bm (aa s.P 65 vd 4) hK fun vk hf=>
 bs (ai s.P wl 3 vk (.lit (.int .i64 0)) hf) fun hg=>
 some (.tup [],hg)) (
 bm (az s.P .sub 3 e (.lit (.int .i64 2))) hI fun vV hY=>
 bm (az s.P .quo 3 vV (.lit (.int .i64 2))) hY fun vZ hk=>
 bm (az s.P .eql 3 e (.lit (.int .i64 0))) hk fun vR hr=>
 cnd vR (
 bm (aN b hr) hr fun vp ht=>
 bm (aa s.P 168 vp 3) ht fun vt hz=>
 bm (ab s.P 26 vt hz) hz fun v60 h61=>
 bp (yC s k wl 122 false true (.fn (.func 27) [] []) [v60,(.lit (.int .i64 4))] h61) fun vx h63=>
 bm (aN b h63) h63 fun vw h65=>
 bm (aa s.P 168 vw 0) h65 fun vj h67=>
 bm (aa s.P 65 vj 2) h67 fun v68 h69=>
 bm (aa s.P 55 v68 3) h69 fun v70 h71=>
 bs (ai s.P wl 46 v70 vx h71) fun h72=>
 av (xX s 122 wl k false) (aD s.P Tryz.f122) pL .norm ⟨(b::g::e::j::(.lit (.bool false))::vZ::r::u::y::n::p::z::A::q::D::E::B::G::F::L::I::M::J::O::vI::Q::N::Y::U::Z::W::X::T::t1::t2::t3::t4::t0::e::vV::vZ::t6::t5::tb::t7::tc::t8::t9::td::ta::th::ti::tj::tk::tl::tm::tn::tp::tq::tr::vR::e::vR::b::b::vp::vt::v60::vx::vw::vj::v68::v70::qb::qc::qd::tC::tD::tE::tF::tG::tH::tI::tJ::tK::tL::tM::tN::q7::q8::q9::qa::tO::tP::tQ::tR::tS::tT::tU::tV::tW::tX::tY::tZ::q0::q1::q2::q3::zz),h72⟩) (
 bm (az s.P .eql 3 e (.lit (.int .i64 1))) hr fun vu hv=>
 cnd vu (
 bm (aN b hv) hv fun v75 h76=>
 bm (aa s.P 168 v75 3) h76 fun v77 h78=>
 bm (ab s.P 26 v77 h78) h78 fun v79 h80=>
 bp (yC s k wl 122 true true (.fn (.func 27) [] []) [v79,(.lit (.int .i64 5))] h80) fun v81 h82=>
 stO hv.length b (
 bm (aN b h82) h82 fun v83 h84=>
 bm (aa s.P 168 v83 0) h84 fun v85 h86=>
 bm (aa s.P 65 v85 2) h86 fun v87 h88=>
 bm (aa s.P 55 v87 3) h88 fun v89 h90=>
 stO hv.length v89 (
 bm (ab s.P 46 v89 h90) h90 fun v91 h92=>
 bm (az s.P .neq 46 v81 v91) h92 fun v93 h94=>
 av (xX s 122 wl k false) (aD s.P Tryz.f122) pL .norm ⟨(b::g::e::j::v93::vZ::r::u::y::n::p::z::A::q::D::E::B::G::F::L::I::M::J::O::vI::Q::N::Y::U::Z::W::X::T::t1::t2::t3::t4::t0::e::vV::vZ::t6::t5::tb::t7::tc::t8::t9::td::ta::th::ti::tj::tk::tl::tm::tn::tp::tq::tr::vR::e::vR::ts::tt::tu::tv::tw::tx::ty::tz::tA::tB::vu::e::vu::b::v75::v77::v79::v81::b::v83::v85::v87::v89::v91::v93::q7::q8::q9::qa::tO::tP::tQ::tR::tS::tT::tU::tV::tW::tX::tY::tZ::q0::q1::q2::q3::zz),h94⟩))) (
 bm (az s.P .rem 3 e (.lit (.int .i64 2))) hv fun v95 h96=>
 bm (az s.P .eql 3 v95 (.lit (.int .i64 0))) h96 fun v97 h98=>
 cnd v97 (
 stO h98.length b (
 bm (aN b h98) h98 fun v99 h100=>
 bm (aa s.P 168 v99 3) h100 fun vg h102=>
 stO h98.length vg (
 bm (ab s.P 26 vg h102) h102 fun v103 h104=>
 bm (aN b h104) h104 fun v105 h106=>
 bm (aa s.P 168 v105 1) h106 fun v107 h108=>
 bm (ab s.P 23 v107 h108) h108 fun v109 h110=>
 bp (yC s k wl 122 true true (.fn (.func 107) [] []) [v109,vZ] h110) fun v111 h112=>
 bp (yC s k wl 122 false true (.fn (.func 27) [] []) [v103,v111] h112) fun v113 h114=>
 bm (aN b h114) h114 fun v115 h116=>
 bm (aa s.P 168 v115 0) h116 fun v117 h118=>
 bm (aa s.P 65 v117 2) h118 fun v119 h120=>
 bm (aa s.P 55 v119 3) h120 fun v121 h122=>
 bs (ai s.P wl 46 v121 v113 h122) fun h123=>
 av (xX s 122 wl k false) (aD s.P Tryz.f122) pL .norm ⟨(b::g::e::j::(.lit (.bool false))::vZ::r::u::y::n::p::z::A::q::D::E::B::G::F::L::I::M::J::O::vI::Q::N::Y::U::Z::W::X::T::t1::t2::t3::t4::t0::e::vV::vZ::t6::t5::tb::t7::tc::t8::t9::td::ta::th::ti::tj::tk::tl::tm::tn::tp::tq::tr::vR::e::vR::ts::tt::tu::tv::tw::tx::ty::tz::tA::tB::vu::e::vu::tC::tD::tE::tF::tG::tH::tI::tJ::tK::tL::tM::tN::v97::e::v95::v97::b::b::v99::vg::v103::b::v105::v107::v109::vZ::v111::v113::v115::v117::v119::v121::zz),h123⟩))) (
 stO h98.length b (
 bm (aN b h98) h98 fun v124 h125=>
 bm (aa s.P 168 v124 3) h125 fun v126 h127=>
 stO h98.length v126 (
 bm (ab s.P 26 v126 h127) h127 fun v128 h129=>
 bm (aN b h129) h129 fun v130 h131=>
 bm (aa s.P 168 v130 1) h131 fun v132 h133=>
 bm (ab s.P 23 v132 h133) h133 fun v134 h135=>
 bp (yC s k wl 122 true true (.fn (.func 108) [] []) [v134,vZ] h135) fun v136 h137=>
 bp (yC s k wl 122 true true (.fn (.func 27) [] []) [v128,v136] h137) fun v138 h139=>
 stO h98.length b (
 bm (aN b h139) h139 fun v140 h141=>
 bm (aa s.P 168 v140 0) h141 fun v142 h143=>
 bm (aa s.P 65 v142 2) h143 fun v144 h145=>
 bm (aa s.P 55 v144 3) h145 fun v146 h147=>
 stO h98.length v146 (
 bm (ab s.P 46 v146 h147) h147 fun v148 h149=>
 bp (yC s k wl 122 false true (.fn (.func 106) [] []) [v138,v148] h149) fun v150 h151=>
 bm (az s.P .gtr 3 v150 (.lit (.int .i64 0))) h151 fun v152 h153=>
 av (xX s 122 wl k false) (aD s.P Tryz.f122) pL .norm ⟨(b::g::e::j::v152::vZ::r::u::y::n::p::z::A::q::D::E::B::G::F::L::I::M::J::O::vI::Q::N::Y::U::Z::W::X::T::t1::t2::t3::t4::t0::e::vV::vZ::b::v124::v126::v128::b::v130::v132::v134::vZ::v136::v138::b::v140::v142::v144::v146::v148::v150::v152::vR::e::vR::ts::tt::tu::tv::tw::tx::ty::tz::tA::tB::vu::e::vu::tC::tD::tE::tF::tG::tH::tI::tJ::tK::tL::tM::tN::v97::e::v95::v97::tO::tP::tQ::tR::tS::tT::tU::tV::tW::tX::tY::tZ::q0::q1::q2::q3::zz),h153⟩)))))))):=kG
theorem Km:av (xX s 122 wl k false) (aD s.P Tryz.f122) pL .norm ⟨(b::g::e::j::l::o::r::u::y::n::p::z::A::q::D::E::B::G::F::L::I::M::J::O::R::Q::N::Y::U::Z::W::X::T::t1::t2::t3::t4::t0::tf::te::tg::t6::t5::tb::t7::tc::t8::t9::td::ta::th::ti::tj::tk::tl::tm::tn::tp::tq::tr::q4::q5::q6::ts::tt::tu::tv::tw::tx::ty::tz::tA::tB::qb::qc::qd::tC::tD::tE::tF::tG::tH::tI::tJ::tK::tL::tM::tN::q7::q8::q9::qa::tO::tP::tQ::tR::tS::tT::tU::tV::tW::tX::tY::tZ::q0::q1::q2::q3::qe::qf::qg::qh::qi::qj::qk::ql::qm::qn::qo::qp::qq::qr::qs::qt::qu::qv::qw::qx::qy::qz::qA::qB::qC::qD::qE::qF::qG::qH::qI::qJ::[]),h⟩ =
 cnd l (
 bp (yC s k wl 122 false true (.fn (.func 157) [] []) [b,(.lit (.int .i64 1))] h) fun v154 h155=>
 some (.tup [],h155)) (
 bm (aN b h) h fun v156 h157=>
 bm (aa s.P 168 v156 0) h157 fun v158 h159=>
 bm (aa s.P 65 v158 4) h159 fun v160 h161=>
 bm (ab s.P 3 v160 h161) h161 fun v162 h163=>
 bm (az s.P .add 3 v162 (.lit (.int .i64 1))) h163 fun v164 h165=>
 bm (aN b h165) h165 fun v166 h167=>
 bm (aa s.P 168 v166 0) h167 fun v168 h169=>
 bm (aa s.P 65 v168 4) h169 fun v170 h171=>
 bs (ai s.P wl 3 v170 v164 h171) fun h172=>
 bm (aN b h172) h172 fun v173 h174=>
 bm (aa s.P 168 v173 0) h174 fun v175 h176=>
 bm (aa s.P 65 v175 4) h176 fun v177 h178=>
 bm (ab s.P 3 v177 h178) h178 fun v179 h180=>
 bm (az s.P .eql 3 v179 j) h180 fun v181 h182=>
 cnd v181 (
 bm (aN b h182) h182 fun v183 h184=>
 bm (aa s.P 168 v183 0) h184 fun v185 h186=>
 bm (aa s.P 65 v185 0) h186 fun v187 h188=>
 bs (ai s.P wl 3 v187 (.lit (.int .i64 8)) h188) fun h189=>
 bm (aN b h189) h189 fun v190 h191=>
 bm (aa s.P 168 v190 0) h191 fun v192 h193=>
 bm (aa s.P 65 v192 2) h193 fun v194 h195=>
 bm (aa s.P 55 v194 3) h195 fun v196 h197=>
 bs (ai s.P wl 46 v196 (.lit (.int .u64 0)) h197) fun h198=>
 bm (aN b h198) h198 fun v199 h200=>
 bm (aa s.P 168 v199 0) h200 fun v201 h202=>
 bm (aa s.P 65 v201 4) h202 fun v203 h204=>
 bs (ai s.P wl 3 v203 (.lit (.int .i64 0)) h204) fun h205=>
 some (.tup [],h205)) (
 some (.tup [],h182))):=kR
theorem uC (cx:Cx) (s:St):av cx K wv .ret s=K .ret s:=by kernel_rfl
theorem wd (cx:Cx) (s:St):av cx K pL .ret s=K .ret s:=by kernel_rfl
-- names: Xw,Nj,Km,uC,wd
theorem Ym:ak (xX s 123 wl k false) Tryz.f123 [b] h =
 bp (yC s k wl 123 false true (.fn (.func 156) [] []) [b] h) fun v1 h2=>
 cnd v1 (
 bp (yC s k wl 123 false true (.fn (.func 157) [] []) [b,(.lit (.int .i64 1))] h2) fun v3 h4=>
 some (.tup [],h4)) (
 some (.tup [],h2)):=kB
theorem adT:evF Tryz.prog xM (k+1) wl 123 [b] h=ak (xX (xS k) 123 wl k false) Tryz.f123 [b] h:=by kernel_rfl
-- names: Ym,
theorem Y5:ak (xX s 124 wl k false) Tryz.f124 [b] h =
 bm (aN b h) h fun v1 h2=>
 bm (aa s.P 168 v1 2) h2 fun v3 h4=>
 bm (ab s.P 24 v3 h4) h4 fun v5 h6=>
 bm (aN b h6) h6 fun v7 h8=>
 bm (aa s.P 168 v7 0) h8 fun v9 hA=>
 bm (aa s.P 65 v9 1) hA fun vA hB=>
 bm (ab s.P 63 vA hB) hB fun vC hC=>
 bp (yC s k wl 124 false true (.fn (.func 162) [] []) [v5,vC] hC) fun vD hD=>
 bm (wj s.P 194 vD 0) hD fun vB hE=>
 bm (az s.P .eql 3 vB (.lit (.int .i64 1))) hE fun vE hF=>
 cnd vE (
 bm (aN b hF) hF fun vF hG=>
 bm (aa s.P 168 vF 2) hG fun vH hJ=>
 bm (ab s.P 24 vH hJ) hJ fun vI hI=>
 bm (aN b hI) hI fun vG hH=>
 bm (aa s.P 168 vG 0) hH fun vJ hM=>
 bm (aa s.P 65 vJ 1) hM fun vL hN=>
 bm (ab s.P 63 vL hN) hN fun vK hP=>
 bp (yC s k wl 124 false true (.fn (.func 163) [] []) [vI,vK] hP) fun vO hV=>
 bm (aN b hV) hV fun vW hS=>
 bm (aa s.P 168 vW 0) hS fun vX hT=>
 bm (aa s.P 65 vX 1) hT fun vQ hQ=>
 bs (ai s.P wl 63 vQ vO hQ) fun hj=>
 some (.tup [],hj)) (
 bm (az s.P .eql 3 vB (.lit (.int .i64 2))) hF fun vl hX=>
 cnd vl (
 bm (aN b hX) hX fun va he=>
 bm (aa s.P 168 va 0) he fun vc hg=>
 bm (aa s.P 65 vc 0) hg fun vV hY=>
 bs (ai s.P wl 3 vV (.lit (.int .i64 10)) hY) fun hL=>
 some (.tup [],hL)) (
 bm (az s.P .eql 3 vB (.lit (.int .i64 3))) hX fun vn hh=>
 cnd vn (
 bm (aN b hh) hh fun vv hp=>
 bm (aa s.P 168 vv 0) hp fun vy hx=>
 bm (aa s.P 65 vy 0) hx fun v59 hy=>
 bs (ai s.P wl 3 v59 (.lit (.int .i64 15)) hy) fun h61=>
 some (.tup [],h61)) (
 bm (aN b hh) hh fun vx h63=>
 bm (aa s.P 168 vx 4) h63 fun vw h65=>
 bm (ab s.P 3 vw h65) h65 fun vj h67=>
 bp (yC s k wl 124 false true (.fn (.func 160) [] []) [b,(.lit (.int .i64 0)),(.lit (.int .i64 1)),vj,(.lit (.int .u64 0))] h67) fun v68 h69=>
 some (.tup [],h69)))):=kB
theorem adu:evF Tryz.prog xM (k+1) wl 124 [b] h=ak (xX (xS k) 124 wl k false) Tryz.f124 [b] h:=by kernel_rfl
-- names: Y5,
theorem WW:ak (xX s 125 wl k false) Tryz.f125 [b] h =
 bp (aA s.P 194 h) fun v1 h2=>
 bm (aN b h2) h2 fun v3 h4=>
 bm (aa s.P 168 v3 2) h4 fun v5 h6=>
 bm (ab s.P 24 v5 h6) h6 fun v7 h8=>
 bm (aN b h8) h8 fun v9 hA=>
 bm (aa s.P 168 v9 0) hA fun vA hB=>
 bm (aa s.P 65 vA 1) hB fun vC hC=>
 bm (ab s.P 63 vC hC) hC fun vD hD=>
 bp (yC s k wl 125 true true (.fn (.func 162) [] []) [v7,vD] hD) fun vB hE=>
 bs (ai s.P wl 194 v1 vB hE) fun hq=>
 bm (aa s.P 194 v1 0) hq fun vb hO=>
 bm (ab s.P 3 vb hO) hO fun vT hm=>
 bm (az s.P .neq 3 vT (.lit (.int .i64 2))) hm fun vP ha=>
 cnd vP (
 bp (yC s k wl 125 false true (.fn (.func 157) [] []) [b,(.lit (.int .i64 9))] ha) fun vM hn=>
 some (.tup [],hn)) (
 bp (yC s k wl 125 false true (.fn (.func 159) [] []) [b,(.lit (.int .i64 0)),(.lit (.int .u64 1))] ha) fun vf hs=>
 bm (aa s.P 194 v1 1) hs fun vo hc=>
 bm (ab s.P 3 vo hc) hc fun vh hi=>
 bp (yC s k wl 125 false true (.fn (.func 164) [] []) [b,(.lit (.int .i64 3)),vh] hi) fun vi hW=>
 bm (aN b hW) hW fun vN hU=>
 bm (aa s.P 168 vN 2) hU fun vU hb=>
 bm (ab s.P 24 vU hb) hb fun vS hd=>
 bm (aN b hd) hd fun vq hj=>
 bm (aa s.P 168 vq 0) hj fun vl hX=>
 bm (aa s.P 65 vl 1) hX fun va he=>
 bm (ab s.P 63 va he) he fun vc hg=>
 bp (yC s k wl 125 false true (.fn (.func 163) [] []) [vS,vc] hg) fun vV hY=>
 bm (aN b hY) hY fun vZ hk=>
 bm (aa s.P 168 vZ 0) hk fun vR hr=>
 bm (aa s.P 65 vR 1) hr fun vp ht=>
 bs (ai s.P wl 63 vp vV ht) fun hx=>
 bm (aN b hx) hx fun v59 hy=>
 bm (aa s.P 168 v59 4) hy fun v61 hw=>
 bm (ab s.P 3 v61 hw) hw fun v63 h64=>
 bm (aa s.P 194 v1 1) h64 fun v65 h66=>
 bm (ab s.P 3 v65 h66) h66 fun v67 h68=>
 bm (gB s.P 3 46 v67) h68 fun v69 h70=>
 bp (yC s k wl 125 false true (.fn (.func 160) [] []) [b,(.lit (.int .i64 11)),(.lit (.int .i64 0)),v63,v69] h70) fun v71 h72=>
 some (.tup [],h72)):=kB
theorem aeW:evF Tryz.prog xM (k+1) wl 125 [b] h=ak (xX (xS k) 125 wl k false) Tryz.f125 [b] h:=by kernel_rfl
-- names: WW,
theorem Xd:ak (xX s 126 wl k false) Tryz.f126 [b] h =
 bp (yC s k wl 126 false true (.fn (.func 156) [] []) [b] h) fun v1 h2=>
 bm (vUn .not v1) h2 fun v3 h4=>
 cnd v3 (
 some (.tup [],h4)) (
 bm (aN b h4) h4 fun v5 h6=>
 bm (aa s.P 168 v5 0) h6 fun v7 h8=>
 bm (aa s.P 65 v7 2) h8 fun v9 hA=>
 bm (aa s.P 55 v9 6) hA fun vA hB=>
 bm (ab s.P 3 vA hB) hB fun vC hC=>
 bm (az s.P .eql 3 vC (.lit (.int .i64 2))) hC fun vD hD=>
 cnd vD (
 bm (aN b hD) hD fun vB hE=>
 bm (aa s.P 168 vB 4) hE fun vE hF=>
 bm (ab s.P 3 vE hF) hF fun vF hG=>
 bm (aN b hG) hG fun vH hJ=>
 bm (aa s.P 168 vH 0) hJ fun vI hI=>
 bm (aa s.P 65 vI 2) hI fun vG hH=>
 bm (aa s.P 55 vG 3) hH fun vJ hM=>
 bm (ab s.P 46 vJ hM) hM fun vL hN=>
 bp (yC s k wl 126 false true (.fn (.func 160) [] []) [b,(.lit (.int .i64 12)),(.lit (.int .i64 3)),vF,vL] hN) fun vK hP=>
 some (.tup [],hP)) (
 bp (yC s k wl 126 false true (.fn (.func 157) [] []) [b,(.lit (.int .i64 13))] hD) fun vO hV=>
 some (.tup [],hV))):=kB
theorem aek:evF Tryz.prog xM (k+1) wl 126 [b] h=ak (xX (xS k) 126 wl k false) Tryz.f126 [b] h:=by kernel_rfl
-- names: Xd,
theorem W4:ak (xX s 127 wl k false) Tryz.f127 [b] h =
 bp (yC s k wl 127 false true (.fn (.func 156) [] []) [b] h) fun v1 h2=>
 bm (vUn .not v1) h2 fun v3 h4=>
 cnd v3 (
 some (.tup [],h4)) (
 bm (aN b h4) h4 fun v5 h6=>
 bm (aa s.P 168 v5 0) h6 fun v7 h8=>
 bm (aa s.P 65 v7 2) h8 fun v9 hA=>
 bm (aa s.P 55 v9 6) hA fun vA hB=>
 bm (ab s.P 3 vA hB) hB fun vC hC=>
 bm (az s.P .eql 3 vC (.lit (.int .i64 2))) hC fun vD hD=>
 cnd vD (
 bm (aN b hD) hD fun vB hE=>
 bm (aa s.P 168 vB 0) hE fun vE hF=>
 bm (aa s.P 65 vE 2) hF fun vF hG=>
 bm (aa s.P 55 vF 3) hG fun vH hJ=>
 bm (ab s.P 46 vH hJ) hJ fun vI hI=>
 bp (yC s k wl 127 false true (.fn (.func 157) [] []) [b,(.lit (.int .i64 9))] hI) fun vG hH=>
 bp (yC s k wl 127 false true (.fn (.func 158) [] []) [b,vI] hH) fun vJ hM=>
 some (.tup [],hM)) (
 bp (yC s k wl 127 false true (.fn (.func 157) [] []) [b,(.lit (.int .i64 13))] hD) fun vL hN=>
 some (.tup [],hN))):=kB
theorem ae6:evF Tryz.prog xM (k+1) wl 127 [b] h=ak (xX (xS k) 127 wl k false) Tryz.f127 [b] h:=by kernel_rfl
-- names: W4,
theorem XM:ak (xX s 128 wl k false) Tryz.f128 [b] h =
 bm (aN b h) h fun v1 h2=>
 bm (aa s.P 168 v1 3) h2 fun v3 h4=>
 bm (ab s.P 26 v3 h4) h4 fun v5 h6=>
 bp (yC s k wl 128 false true (.fn (.func 27) [] []) [v5,(.lit (.int .i64 1))] h6) fun v7 h8=>
 bm (az s.P .eql 46 v7 (.lit (.int .u64 0))) h8 fun v9 hA=>
 cnd v9 (
 bm (aN b hA) hA fun vA hB=>
 bm (aa s.P 168 vA 4) hB fun vC hC=>
 bm (ab s.P 3 vC hC) hC fun vD hD=>
 bp (yC s k wl 128 false true (.fn (.func 160) [] []) [b,(.lit (.int .i64 14)),(.lit (.int .i64 6)),vD,(.lit (.int .u64 0))] hD) fun vB hE=>
 some (.tup [],hE)) (
 bp (yC s k wl 128 false true (.fn (.func 157) [] []) [b,(.lit (.int .i64 9))] hA) fun vE hF=>
 some (.tup [],hF)):=kB
theorem ad7:evF Tryz.prog xM (k+1) wl 128 [b] h=ak (xX (xS k) 128 wl k false) Tryz.f128 [b] h:=by kernel_rfl
-- names: XM,
theorem WU:ak (xX s 129 wl k false) Tryz.f129 [b] h =
 bp (yC s k wl 129 false true (.fn (.func 156) [] []) [b] h) fun v1 h2=>
 cnd v1 (
 bp (yC s k wl 129 false true (.fn (.func 157) [] []) [b,(.lit (.int .i64 9))] h2) fun v3 h4=>
 some (.tup [],h4)) (
 some (.tup [],h2)):=kB
theorem abS:evF Tryz.prog xM (k+1) wl 129 [b] h=ak (xX (xS k) 129 wl k false) Tryz.f129 [b] h:=by kernel_rfl
-- names: WU,
noncomputable def BA:List Fr:=[.seq (am (an Tryz.f130) [1,1,1,1,1])]
theorem aaq:ak (xX s 130 wl k false) Tryz.f130 [b] h =
 bp (aA s.P 194 h) fun v1 h2=>
 bm (aN b h2) h2 fun v3 h4=>
 bm (aa s.P 168 v3 2) h4 fun v5 h6=>
 bm (ab s.P 24 v5 h6) h6 fun v7 h8=>
 bm (aN b h8) h8 fun v9 hA=>
 bm (aa s.P 168 v9 0) hA fun vA hB=>
 bm (aa s.P 65 vA 1) hB fun vC hC=>
 bm (ab s.P 63 vC hC) hC fun vD hD=>
 bp (yC s k wl 130 true true (.fn (.func 162) [] []) [v7,vD] hD) fun vB hE=>
 bs (ai s.P wl 194 v1 vB hE) fun hq=>
 bm (aa s.P 194 v1 0) hq fun vb hO=>
 bm (ab s.P 3 vb hO) hO fun vT hm=>
 bm (az s.P .neq 3 vT (.lit (.int .i64 3))) hm fun vP ha=>
 cnd vP (
 bp (yC s k wl 130 false true (.fn (.func 157) [] []) [b,(.lit (.int .i64 9))] ha) fun vM hn=>
 some (.tup [],hn)) (
 bp (yC s k wl 130 false true (.fn (.func 159) [] []) [b,(.lit (.int .i64 0)),(.lit (.int .u64 18446744073709551615))] ha) fun vf hs=>
 bm (aa s.P 194 v1 1) hs fun vo hc=>
 bm (ab s.P 3 vo hc) hc fun vh hi=>
 bp (yC s k wl 130 false true (.fn (.func 164) [] []) [b,(.lit (.int .i64 4)),vh] hi) fun vi hW=>
 bm (az s.P .eql 46 vf (.lit (.int .u64 1))) hW fun vN hU=>
 cnd vN (
 bp (yC s k wl 130 false true (.fn (.func 164) [] []) [b,(.lit (.int .i64 5)),(.lit (.int .i64 0))] hU) fun vU hb=>
 av (xX s 130 wl k false) (aD s.P Tryz.f130) BA .norm ⟨[b,uu,v1,vf,b,v3,v5,v7,b,v9,vA,vC,vD,vB,vb,vT,vP,uu,uu,b,vf,b,vo,vh,vi,vf,vN,b,vU,uu,uu,uu,uu,uu,uu,uu,uu,uu,uu,uu,uu,uu,uu,uu,uu,uu,uu,uu,uu,uu,uu,uu,uu,uu,uu,uu,uu,uu],hb⟩) (
 av (xX s 130 wl k false) (aD s.P Tryz.f130) BA .norm ⟨[b,uu,v1,vf,b,v3,v5,v7,b,v9,vA,vC,vD,vB,vb,vT,vP,uu,uu,b,vf,b,vo,vh,vi,vf,vN,uu,uu,uu,uu,uu,uu,uu,uu,uu,uu,uu,uu,uu,uu,uu,uu,uu,uu,uu,uu,uu,uu,uu,uu,uu,uu,uu,uu,uu,uu,uu],hU⟩)):=kB
theorem acR:evF Tryz.prog xM (k+1) wl 130 [b] h=ak (xX (xS k) 130 wl k false) Tryz.f130 [b] h:=by kernel_rfl
theorem L5:av (xX s 130 wl k false) (aD s.P Tryz.f130) BA .norm ⟨[b,g,e,j,l,o,r,u,y,n,p,z,A,q,D,E,B,G,F,L,I,M,J,O,R,Q,N,Y,U,Z,W,X,T,t1,t2,t3,t4,t0,tf,te,tg,t6,t5,tb,t7,tc,t8,t9,td,ta,th,ti,tj,tk,tl,tm,tn,tp],h⟩ =
 bm (aN b h) h fun vS hd=>
 bm (aa s.P 168 vS 2) hd fun vq hj=>
 bm (ab s.P 24 vq hj) hj fun vl hX=>
 bm (aN b hX) hX fun va he=>
 bm (aa s.P 168 va 0) he fun vc hg=>
 bm (aa s.P 65 vc 1) hg fun vV hY=>
 bm (ab s.P 63 vV hY) hY fun vZ hk=>
 bp (yC s k wl 130 false true (.fn (.func 163) [] []) [vl,vZ] hk) fun vR hr=>
 bm (aN b hr) hr fun vp ht=>
 bm (aa s.P 168 vp 0) ht fun vt hz=>
 bm (aa s.P 65 vt 1) hz fun v60 h61=>
 bs (ai s.P wl 63 v60 vR h61) fun hw=>
 bm (aN b hw) hw fun v63 h64=>
 bm (aa s.P 168 v63 0) h64 fun v65 h66=>
 bm (aa s.P 65 v65 1) h66 fun v67 h68=>
 bm (ab s.P 63 v67 h68) h68 fun v69 h70=>
 bp (bw s.P 63 v69 h70) fun v71 h72=>
 bm (az s.P .eql 3 v71 (.lit (.int .i64 0))) h72 fun vu hv=>
 cnd vu (
 bm (aN b hv) hv fun v75 h76=>
 bm (aa s.P 168 v75 4) h76 fun v77 h78=>
 bm (ab s.P 3 v77 h78) h78 fun v79 h80=>
 bp (yC s k wl 130 false true (.fn (.func 160) [] []) [b,(.lit (.int .i64 0)),(.lit (.int .i64 1)),v79,(.lit (.int .u64 0))] h80) fun v81 h82=>
 some (.tup [],h82)) (
 bp (yC s k wl 130 false true (.fn (.func 157) [] []) [b,(.lit (.int .i64 9))] hv) fun v83 h84=>
 some (.tup [],h84)):=kR
theorem u9 (cx:Cx) (s:St):av cx K BA .ret s=K .ret s:=by kernel_rfl
-- names: aaq,L5,u9
noncomputable def un:List Fr:=[.seq (am (an Tryz.f156) [1,1,0,1,0,1]),.block 0,.seq (am (an Tryz.f156) [1,1,1])]
noncomputable def nH:List Fr:=[.block 0,.seq (am (an Tryz.f156) [1,1,1])]
theorem aaG:ak (xX s 156 wl k false) Tryz.f156 [b] h =
 bm (aN b h) h fun v1 h2=>
 bm (aa s.P 168 v1 0) h2 fun v3 h4=>
 bm (aa s.P 65 v3 2) h4 fun v5 h6=>
 bm (aa s.P 55 v5 0) h6 fun v7 h8=>
 bm (ab s.P 3 v7 h8) h8 fun v9 hA=>
 bm (az s.P .eql 3 v9 (.lit (.int .i64 0))) hA fun vA hB=>
 cnd vA (
 av (xX s 156 wl k false) (aD s.P Tryz.f156) un .norm ⟨[b,uu,(.lit (.bool false)),(.fn (.func 134) [] []),b,v1,v3,v5,v7,v9,vA,vA,uu,uu,uu,uu,uu,uu,uu,uu,uu,uu,uu,uu,uu,uu,uu,uu,uu,uu,uu,uu,uu,uu,uu,uu,uu,uu,uu,uu,uu,uu,uu,uu,uu,uu,uu,uu],hB⟩) (
 bm (az s.P .eql 3 v9 (.lit (.int .i64 1))) hB fun vC hC=>
 cnd vC (
 av (xX s 156 wl k false) (aD s.P Tryz.f156) un .norm ⟨[b,uu,(.lit (.bool false)),(.fn (.func 134) [] []),b,v1,v3,v5,v7,v9,vC,vA,vC,uu,uu,uu,uu,uu,uu,uu,uu,uu,uu,uu,uu,uu,uu,uu,uu,uu,uu,uu,uu,uu,uu,uu,uu,uu,uu,uu,uu,uu,uu,uu,uu,uu,uu,uu],hC⟩) (
 bm (az s.P .eql 3 v9 (.lit (.int .i64 2))) hC fun vD hD=>
 av (xX s 156 wl k false) (aD s.P Tryz.f156) un .norm ⟨[b,uu,(.lit (.bool false)),(.fn (.func 134) [] []),b,v1,v3,v5,v7,v9,vD,vA,vC,vD,uu,uu,uu,uu,uu,uu,uu,uu,uu,uu,uu,uu,uu,uu,uu,uu,uu,uu,uu,uu,uu,uu,uu,uu,uu,uu,uu,uu,uu,uu,uu,uu,uu,uu],hD⟩)):=kB
theorem abI:evF Tryz.prog xM (k+1) wl 156 [b] h=ak (xX (xS k) 156 wl k false) Tryz.f156 [b] h:=by kernel_rfl
theorem Nu:av (xX s 156 wl k false) (aD s.P Tryz.f156) un .norm ⟨(b::g::e::j::l::o::r::u::y::n::p::z::A::q::D::E::B::zz),h⟩ =
 cnd p (
 av (xX s 156 wl k false) (aD s.P Tryz.f156) nH .norm ⟨(b::g::e::(.fn (.func 180) [] [])::l::o::r::u::y::n::p::z::A::q::D::E::B::zz),h⟩) (
 bm (az s.P .eql 3 n (.lit (.int .i64 3))) h fun vB hE=>
 cnd vB (
 cnd vB (
 av (xX s 156 wl k false) (aD s.P Tryz.f156) nH .norm ⟨(b::g::e::(.fn (.func 135) [] [])::l::o::r::u::y::n::p::z::A::q::vB::vB::B::zz),hE⟩) (
 av (xX s 156 wl k false) (aD s.P Tryz.f156) nH .norm ⟨(b::g::e::j::l::o::r::u::y::n::p::z::A::q::vB::vB::B::zz),hE⟩)) (
 bm (az s.P .eql 3 n (.lit (.int .i64 4))) hE fun vE hF=>
 cnd vE (
 av (xX s 156 wl k false) (aD s.P Tryz.f156) nH .norm ⟨(b::g::e::(.fn (.func 135) [] [])::l::o::r::u::y::n::p::z::A::q::vE::vB::vE::zz),hF⟩) (
 av (xX s 156 wl k false) (aD s.P Tryz.f156) nH .norm ⟨(b::g::e::j::l::o::r::u::y::n::p::z::A::q::vE::vB::vE::zz),hF⟩))):=kR
theorem LJ:av (xX s 156 wl k false) (aD s.P Tryz.f156) nH .norm ⟨[b,g,e,j,l,o,r,u,y,n,p,z,A,q,D,E,B,G,F,L,I,M,J,O,R,Q,N,Y,U,Z,W,X,T,t1,t2,t3,t4,t0,tf,te,tg,t6,t5,tb,t7,tc,t8,t9],h⟩ =
 bm (aN b h) h fun vF hG=>
 bm (aa s.P 168 vF 1) hG fun vH hJ=>
 bm (ab s.P 23 vH hJ) hJ fun vI hI=>
 bm (aN b hI) hI fun vG hH=>
 bm (aa s.P 168 vG 3) hH fun vJ hM=>
 bm (ab s.P 26 vJ hM) hM fun vL hN=>
 bm (aN b hN) hN fun vK hP=>
 bm (aa s.P 168 vK 0) hP fun vO hV=>
 bm (aa s.P 65 vO 2) hV fun vW hS=>
 bm (ab s.P 55 vW hS) hS fun vX hT=>
 bp (yC s k wl 156 false true j [vI,vL,vX] hT) fun vQ hQ=>
 bm (ar vQ 0) hQ fun vY hZ=>
 bm (ar vQ 1) hZ fun vd hK=>
 bm (aN b hK) hK fun vk hf=>
 bm (aa s.P 168 vk 3) hf fun ve hl=>
 bs (ai s.P wl 26 ve vY hl) fun hY=>
 bm (aN b hY) hY fun vZ hk=>
 bm (aa s.P 168 vZ 0) hk fun vR hr=>
 bm (aa s.P 65 vR 2) hr fun vp ht=>
 bs (ai s.P wl 55 vp vd ht) fun hx=>
 bm (aN b hx) hx fun v59 hy=>
 bm (aa s.P 168 v59 0) hy fun v61 hw=>
 bm (aa s.P 65 v61 2) hw fun v63 h64=>
 bm (ab s.P 55 v63 h64) h64 fun v65 h66=>
 bp (yC s k wl 156 false true (.fn (.func 110) [] []) [v65] h66) fun v67 h68=>
 some (v67,h68):=kR
theorem uS (cx:Cx) (s:St):av cx K un .ret s=K .ret s:=by kernel_rfl
theorem u8 (cx:Cx) (s:St):av cx K nH .ret s=K .ret s:=by kernel_rfl
-- names: aaG,Nu,LJ,uS,u8
theorem Zv:ak (xX s 157 wl k false) Tryz.f157 [b,g] h =
 bm (bc s.P 55 []) h fun v1 h2=>
 bm (aN b h2) h2 fun v3 h4=>
 bm (aa s.P 168 v3 0) h4 fun v5 h6=>
 bm (aa s.P 65 v5 0) h6 fun v7 h8=>
 bs (ai s.P wl 3 v7 g h8) fun h9=>
 bm (aN b h9) h9 fun v10 h11=>
 bm (aa s.P 168 v10 0) h11 fun v12 h13=>
 bm (aa s.P 65 v12 2) h13 fun vz ho=>
 bs (ai s.P wl 55 vz v1 ho) fun hD=>
 some (.tup [],hD):=kB
theorem aeG:evF Tryz.prog xM (k+1) wl 157 [b,g] h=ak (xX (xS k) 157 wl k false) Tryz.f157 [b,g] h:=by kernel_rfl
-- names: Zv,
theorem ZP:ak (xX s 158 wl k false) Tryz.f158 [b,g] h =
 bm (aN b h) h fun v1 h2=>
 bm (aa s.P 168 v1 2) h2 fun v3 h4=>
 bm (ab s.P 24 v3 h4) h4 fun v5 h6=>
 bm (aN b h6) h6 fun v7 h8=>
 bm (aa s.P 168 v7 0) h8 fun v9 hA=>
 bm (aa s.P 65 v9 1) hA fun vA hB=>
 bm (ab s.P 63 vA hB) hB fun vC hC=>
 bm (gB s.P 46 3 g) hC fun vD hD=>
 bp (yC s k wl 158 false true (.fn (.func 181) [] []) [v5,vC,vD] hD) fun vB hE=>
 bm (aN b hE) hE fun vE hF=>
 bm (aa s.P 168 vE 0) hF fun vF hG=>
 bm (aa s.P 65 vF 1) hG fun vH hJ=>
 bs (ai s.P wl 63 vH vB hJ) fun ha=>
 bm (gB s.P 46 3 g) ha fun vM hn=>
 bp (yC s k wl 158 false true (.fn (.func 164) [] []) [b,(.lit (.int .i64 2)),vM] hn) fun vf hs=>
 some (.tup [],hs):=kB
theorem adM:evF Tryz.prog xM (k+1) wl 158 [b,g] h=ak (xX (xS k) 158 wl k false) Tryz.f158 [b,g] h:=by kernel_rfl
-- names: ZP,
theorem XY:ak (xX s 159 wl k false) Tryz.f159 [b,g,e] h =
 bm (aN b h) h fun v1 h2=>
 bm (aa s.P 168 v1 3) h2 fun v3 h4=>
 bm (ab s.P 26 v3 h4) h4 fun v5 h6=>
 bp (yC s k wl 159 false true (.fn (.func 138) [] []) [v5,g,e] h6) fun v7 h8=>
 bm (ar v7 0) h8 fun v9 hA=>
 bm (ar v7 1) hA fun vA hB=>
 bm (aN b hB) hB fun vC hC=>
 bm (aa s.P 168 vC 3) hC fun vD hD=>
 bs (ai s.P wl 26 vD v9 hD) fun hu=>
 some (vA,hu):=kB
theorem acC:evF Tryz.prog xM (k+1) wl 159 [b,g,e] h=ak (xX (xS k) 159 wl k false) Tryz.f159 [b,g,e] h:=by kernel_rfl
-- names: XY,
theorem Xp:ak (xX s 160 wl k false) Tryz.f160 [b,g,e,j,l] h =
 bp (yC s k wl 160 false true (.fn (.func 104) [] []) [e,j,l] h) fun v1 h2=>
 bm (aN b h2) h2 fun v3 h4=>
 bm (aa s.P 168 v3 0) h4 fun v5 h6=>
 bm (aa s.P 65 v5 0) h6 fun v7 h8=>
 bs (ai s.P wl 3 v7 g h8) fun h9=>
 bm (aN b h9) h9 fun v10 h11=>
 bm (aa s.P 168 v10 0) h11 fun v12 h13=>
 bm (aa s.P 65 v12 2) h13 fun vz ho=>
 bs (ai s.P wl 55 vz v1 ho) fun hD=>
 some (.tup [],hD):=kB
theorem ach:evF Tryz.prog xM (k+1) wl 160 [b,g,e,j,l] h=ak (xX (xS k) 160 wl k false) Tryz.f160 [b,g,e,j,l] h:=by kernel_rfl
-- names: Xp,
theorem Zn:ak (xX s 164 wl k false) Tryz.f164 [b,g,e] h =
 stO h.length b (
 bm (aN b h) h fun v1 h2=>
 bm (aa s.P 168 v1 6) h2 fun v3 h4=>
 stO h.length v3 (
 bm (ab s.P 34 v3 h4) h4 fun v5 h6=>
 bm (aN b h6) h6 fun v7 h8=>
 bm (aa s.P 168 v7 4) h8 fun v9 hA=>
 bm (ab s.P 3 v9 hA) hA fun vA hB=>
 bm (bc s.P 52 [(0,g),(1,e),(2,vA)]) hB fun vC hC=>
 bp (cW s.P wl 34 1 [(0,vC)] hC) fun vD hD=>
 bp (ng s.P wl 34 34 v5 vD hD) fun vB hE=>
 bm (aN b hE) hE fun vE hF=>
 bm (aa s.P 168 vE 6) hF fun vF hG=>
 bs (ai s.P wl 34 vF vB hG) fun hm=>
 some (.tup [],hm))):=kB
theorem adO:evF Tryz.prog xM (k+1) wl 164 [b,g,e] h=ak (xX (xS k) 164 wl k false) Tryz.f164 [b,g,e] h:=by kernel_rfl
-- names: Zn,
noncomputable def dl:Code:=am (an Tryz.f95) [1,0]
noncomputable def cZ:List Fr:=[.seq (am (an Tryz.f95) [1,1])]
theorem afp:ak (xX s 95 wl k false) Tryz.f95 [b,g,e,j,l] h =
 bp (aU b h) fun v1 h2=>
 bp (aU l h2) fun v3 h4=>
 bm (ab s.P 23 v1 h4) h4 fun v5 h6=>
 bp (yC s k wl 95 false true (.fn (.func 50) [] []) [v5] h6) fun v7 h8=>
 gd v7 (
 bp (bw s.P 26 e h8) fun v9 hA=>
 bm (ab s.P 23 v1 hA) hA fun vA hB=>
 bp (yC s k wl 95 false true (.fn (.func 103) [] []) [vA] hB) fun vC hC=>
 bm (az s.P .eql 3 v9 vC) hC fun vD hD=>
 yO s k wl 95 Tryz.f95 dl 8 h4.length ([],[]) cZ ⟨[b,g,e,j,l,v1,uu,uu,uu,v3,(.lit (.bool false)),v5,v7,(.lit (.bool true)),e,v9,vA,vC,vD,uu,uu,uu,uu,uu,uu,uu,uu,uu,uu,uu,uu,uu,uu,uu,uu,uu,uu,uu,uu,uu,uu,uu,uu,uu,uu,uu,uu,uu,uu,uu],hD⟩) (
 yO s k wl 95 Tryz.f95 dl 8 h4.length ([],[]) cZ ⟨[b,g,e,j,l,v1,uu,uu,uu,v3,(.lit (.bool false)),v5,v7,(.lit (.bool false)),uu,uu,uu,uu,uu,uu,uu,uu,uu,uu,uu,uu,uu,uu,uu,uu,uu,uu,uu,uu,uu,uu,uu,uu,uu,uu,uu,uu,uu,uu,uu,uu,uu,uu,uu,uu],h8⟩) (
 yO s k wl 95 Tryz.f95 dl 4 h4.length ([],[]) cZ ⟨[b,g,e,j,l,v1,uu,uu,uu,v3,(.lit (.bool false)),v5,v7,v7,uu,uu,uu,uu,uu,uu,uu,uu,uu,uu,uu,uu,uu,uu,uu,uu,uu,uu,uu,uu,uu,uu,uu,uu,uu,uu,uu,uu,uu,uu,uu,uu,uu,uu,uu,uu],h8⟩):=kB
theorem agw:evF Tryz.prog xM (k+1) wl 95 [b,g,e,j,l] h=ak (xX (xS k) 95 wl k false) Tryz.f95 [b,g,e,j,l] h:=by kernel_rfl
theorem Sd:yO s k wl 95 Tryz.f95 dl 8 m0 ac cZ ⟨(b::g::e::j::l::o::r::u::y::n::p::z::A::q::D::E::B::G::F::L::I::M::J::zz),h⟩ =
 bm (aT q F (.lit (.bool false))) h fun vB hE=>
 gd vB (
 bp (yC s k wl 95 false true (.fn (.func 56) [] []) [g] hE) fun vE hF=>
 yO s k wl 95 Tryz.f95 dl 12 m0 ac cZ ⟨(b::g::e::j::l::o::r::u::y::n::p::z::A::q::D::E::B::G::F::vB::(.lit (.bool true))::g::vE::zz),hF⟩) (
 yO s k wl 95 Tryz.f95 dl 12 m0 ac cZ ⟨(b::g::e::j::l::o::r::u::y::n::p::z::A::q::D::E::B::G::F::vB::(.lit (.bool false))::uu::uu::zz),hE⟩) (
 yO s k wl 95 Tryz.f95 dl 11 m0 ac cZ ⟨(b::g::e::j::l::o::r::u::y::n::p::z::A::q::D::E::B::G::F::vB::vB::uu::J::zz),hE⟩):=kG
theorem R8:yO s k wl 95 Tryz.f95 dl 12 m0 ac cZ ⟨(b::g::e::j::l::o::r::u::y::n::p::z::A::q::D::E::B::G::F::L::I::M::J::O::R::Q::N::zz),h⟩ =
 bm (aT I J (.lit (.bool false))) h fun vF hG=>
 gd vF (
 bm (az s.P .geq 3 j (.lit (.int .i64 0))) hG fun vH hJ=>
 yO s k wl 95 Tryz.f95 dl 16 m0 ac cZ ⟨(b::g::e::j::l::o::r::u::y::n::p::z::A::q::D::E::B::G::F::L::I::M::J::vF::(.lit (.bool true))::j::vH::zz),hJ⟩) (
 yO s k wl 95 Tryz.f95 dl 16 m0 ac cZ ⟨(b::g::e::j::l::o::r::u::y::n::p::z::A::q::D::E::B::G::F::L::I::M::J::vF::(.lit (.bool false))::uu::uu::zz),hG⟩) (
 yO s k wl 95 Tryz.f95 dl 15 m0 ac cZ ⟨(b::g::e::j::l::o::r::u::y::n::p::z::A::q::D::E::B::G::F::L::I::M::J::vF::vF::uu::N::zz),hG⟩):=kG
theorem SI:yO s k wl 95 Tryz.f95 dl 16 m0 ac cZ ⟨(b::g::e::j::l::o::r::u::y::n::p::z::A::q::D::E::B::G::F::L::I::M::J::O::R::Q::N::Y::U::Z::W::X::T::zz),h⟩ =
 bm (aT R N (.lit (.bool false))) h fun vI hI=>
 gd vI (
 bm (aa s.P 23 o 0) hI fun vG hH=>
 bm (ab s.P 3 vG hH) hH fun vJ hM=>
 bm (az s.P .lss 3 j vJ) hM fun vL hN=>
 yO s k wl 95 Tryz.f95 dl 22 m0 ac cZ ⟨(b::g::e::j::l::o::r::u::y::n::p::z::A::q::D::E::B::G::F::L::I::M::J::O::R::Q::N::vI::(.lit (.bool true))::j::vG::vJ::vL::zz),hN⟩) (
 yO s k wl 95 Tryz.f95 dl 22 m0 ac cZ ⟨(b::g::e::j::l::o::r::u::y::n::p::z::A::q::D::E::B::G::F::L::I::M::J::O::R::Q::N::vI::(.lit (.bool false))::uu::uu::uu::uu::zz),hI⟩) (
 yO s k wl 95 Tryz.f95 dl 19 m0 ac cZ ⟨(b::g::e::j::l::o::r::u::y::n::p::z::A::q::D::E::B::G::F::L::I::M::J::O::R::Q::N::vI::vI::uu::W::X::T::zz),hI⟩):=kG
theorem Rb:yO s k wl 95 Tryz.f95 dl 22 m0 ac cZ ⟨[b,g,e,j,l,o,r,u,y,n,p,z,A,q,D,E,B,G,F,L,I,M,J,O,R,Q,N,Y,U,Z,W,X,T,t1,t2,t3,t4,t0,tf,te,tg,t6,t5,tb,t7,tc,t8,t9,td,ta],h⟩ =
 bm (aT U T (.lit (.bool false))) h fun vK hP=>
 gd vK (
 bm (aa s.P 65 n 0) hP fun vO hV=>
 bm (ab s.P 3 vO hV) hV fun vW hS=>
 bm (az s.P .geq 3 vW (.lit (.int .i64 0))) hS fun vX hT=>
 yO s k wl 95 Tryz.f95 dl 27 m0 ac cZ ⟨[b,g,e,j,l,o,r,u,y,n,p,z,A,q,D,E,B,G,F,L,I,M,J,O,R,Q,N,Y,U,Z,W,X,T,vK,(.lit (.bool true)),vO,vW,vX,tf,te,tg,t6,t5,tb,t7,tc,t8,t9,td,ta],hT⟩) (
 yO s k wl 95 Tryz.f95 dl 27 m0 ac cZ ⟨[b,g,e,j,l,o,r,u,y,n,p,z,A,q,D,E,B,G,F,L,I,M,J,O,R,Q,N,Y,U,Z,W,X,T,vK,(.lit (.bool false)),uu,uu,uu,tf,te,tg,t6,t5,tb,t7,tc,t8,t9,td,ta],hP⟩) (
 yO s k wl 95 Tryz.f95 dl 25 m0 ac cZ ⟨[b,g,e,j,l,o,r,u,y,n,p,z,A,q,D,E,B,G,F,L,I,M,J,O,R,Q,N,Y,U,Z,W,X,T,vK,vK,uu,t4,t0,tf,te,tg,t6,t5,tb,t7,tc,t8,t9,td,ta],hP⟩):=kG
theorem RX:yO s k wl 95 Tryz.f95 dl 27 m0 ac cZ ⟨[b,g,e,j,l,o,r,u,y,n,p,z,A,q,D,E,B,G,F,L,I,M,J,O,R,Q,N,Y,U,Z,W,X,T,t1,t2,t3,t4,t0,tf,te,tg,t6,t5,tb,t7,tc,t8,t9,td,ta],h⟩ =
 bm (aT t2 t0 (.lit (.bool false))) h fun vQ hQ=>
 gd vQ (
 bm (aa s.P 65 n 0) hQ fun vY hZ=>
 bm (ab s.P 3 vY hZ) hZ fun vd hK=>
 bm (az s.P .lss 3 vd (.lit (.int .i64 16))) hK fun vk hf=>
 yO s k wl 95 Tryz.f95 dl 32 m0 ac cZ ⟨[b,g,e,j,l,o,r,u,y,n,p,z,A,q,D,E,B,G,F,L,I,M,J,O,R,Q,N,Y,U,Z,W,X,T,t1,t2,t3,t4,t0,vQ,(.lit (.bool true)),vY,vd,vk,tb,t7,tc,t8,t9,td,ta],hf⟩) (
 yO s k wl 95 Tryz.f95 dl 32 m0 ac cZ ⟨[b,g,e,j,l,o,r,u,y,n,p,z,A,q,D,E,B,G,F,L,I,M,J,O,R,Q,N,Y,U,Z,W,X,T,t1,t2,t3,t4,t0,vQ,(.lit (.bool false)),uu,uu,uu,tb,t7,tc,t8,t9,td,ta],hQ⟩) (
 yO s k wl 95 Tryz.f95 dl 30 m0 ac cZ ⟨[b,g,e,j,l,o,r,u,y,n,p,z,A,q,D,E,B,G,F,L,I,M,J,O,R,Q,N,Y,U,Z,W,X,T,t1,t2,t3,t4,t0,vQ,vQ,uu,t6,t5,tb,t7,tc,t8,t9,td,ta],hQ⟩):=kG
theorem Rl:yO s k wl 95 Tryz.f95 dl 32 m0 ac cZ ⟨[b,g,e,j,l,o,r,u,y,n,p,z,A,q,D,E,B,G,F,L,I,M,J,O,R,Q,N,Y,U,Z,W,X,T,t1,t2,t3,t4,t0,tf,te,tg,t6,t5,tb,t7,tc,t8,t9,td,ta],h⟩ =
 bm (aT te t5 (.lit (.bool false))) h fun ve hl=>
 gd ve (
 bm (aa s.P 65 n 1) hl fun vs hL=>
 bm (ab s.P 63 vs hL) hL fun vn hh=>
 bp (yC s k wl 95 false true (.fn (.func 146) [] []) [g,vn] hh) fun vv hp=>
 yO s k wl 95 Tryz.f95 dl 38 m0 ac cZ ⟨[b,g,e,j,l,o,r,u,y,n,p,z,A,q,D,E,B,G,F,L,I,M,J,O,R,Q,N,Y,U,Z,W,X,T,t1,t2,t3,t4,t0,tf,te,tg,t6,t5,ve,(.lit (.bool true)),g,vs,vn,vv,ta],hp⟩) (
 yO s k wl 95 Tryz.f95 dl 38 m0 ac cZ ⟨[b,g,e,j,l,o,r,u,y,n,p,z,A,q,D,E,B,G,F,L,I,M,J,O,R,Q,N,Y,U,Z,W,X,T,t1,t2,t3,t4,t0,tf,te,tg,t6,t5,ve,(.lit (.bool false)),uu,uu,uu,uu,ta],hl⟩) (
 yO s k wl 95 Tryz.f95 dl 35 m0 ac cZ ⟨[b,g,e,j,l,o,r,u,y,n,p,z,A,q,D,E,B,G,F,L,I,M,J,O,R,Q,N,Y,U,Z,W,X,T,t1,t2,t3,t4,t0,tf,te,tg,t6,t5,ve,ve,uu,t8,t9,td,ta],hl⟩):=kG
theorem RY:yO s k wl 95 Tryz.f95 dl 38 m0 ac cZ ⟨[b,g,e,j,l,o,r,u,y,n,p,z,A,q,D,E,B,G,F,L,I,M,J,O,R,Q,N,Y,U,Z,W,X,T,t1,t2,t3,t4,t0,tf,te,tg,t6,t5,tb,t7,tc,t8,t9,td,ta],h⟩ =
 bm (aT t7 td (.lit (.bool false))) h fun vy hx=>
 some (vy,hx):=kG
theorem Bg (cx:Cx) (s:St):av cx K cZ .ret s=K .ret s:=by kernel_rfl
-- names: afp,Sd,R8,SI,Rb,RX,Rl,RY,Bg
end
end Go.Ab
set_option maxRecDepth 100000
set_option linter.unusedVariables false
namespace Go.Ab
open Go.Proofs
section
variable (s:Sys) (k wl:Nat) (m0:Nat) (ac:List Nat×List Nat) (c d e o q j g u f y A z B F D E v G I L J N M O R T U W X Q Y Z t2 t1 t0 t3 t4 t5 tb tc t9 ta t7 t6 td te tf tg th ti tj tk tl tm tn tp tq tr ts t8:V) (h:Hp) (K:Out→St→Option (V×Hp)) (rd:Bool) (n n0:Nat) (zz:List V)
noncomputable def C0:Code:=am (an Tryz.f17) [1,1,1,1,0,1,0,0]
noncomputable def Ic:List Fr:=[.block 0,.seq (am (an Tryz.f17) [1,1,1,1,1])]
theorem X4:ak (xX s 17 wl k false) Tryz.f17 [c,d] h =
 bp (aU c h) fun v1 h2=>
 bp (aA s.P 30 h2) fun v3 h4=>
 bp (some (.own h4.length 0 0,h4++[.rows 0 [] 0 true])) fun v5 h6=>
 bm (ab s.P 30 v1 h6) h6 fun v7 h8=>
 bp (yC s k wl 17 false true (.fn (.func 41) [] []) [v7] h8) fun v9 hA=>
 bp (aA s.P 30 hA) fun vA hB=>
 bs (ai s.P wl 30 vA v9 hB) fun h13=>
 bm (ab s.P 30 v1 h13) h13 fun vz ho=>
 bp (yC s k wl 17 false true (.fn (.func 20) [] []) [vz] ho) fun vr hu=>
 bm (vUn .not vr) hu fun vm hq=>
 cnd vm (
 bm (ab s.P 30 vA hq) hq fun vb hO=>
 bs (ai s.P wl 30 v3 vb hO) fun hG=>
 bp (some (.own hG.length 0 0,hG++[.rows 0 [] 0 true])) fun vH hJ=>
 eg [ab s.P 30 v3 hJ,some vH] hJ) (
 bp (some (.own hq.length 0 0,hq++[.rows 0 [] 0 true])) fun vI hI=>
 bp (bw s.P 31 d hI) fun vG hH=>
 yI s k wl 17 Tryz.f17 C0 hH.length Ic k ⟨[(V.kill hH.length c),(V.kill hH.length d),(V.kill hH.length v1),(V.kill hH.length uu),(V.kill hH.length v3),(V.kill hH.length v5),(V.kill hH.length vA),(V.kill hH.length vI),(V.kill hH.length uu),(V.kill hH.length uu),(V.kill hH.length v7),(V.kill hH.length v9),(V.kill hH.length vz),(V.kill hH.length vr),(V.kill hH.length vm),(V.kill hH.length uu),(V.kill hH.length d),(V.kill hH.length vG),(.lit (.int .i64 0)),.junk,.junk,.junk,.junk,.junk,.junk,.junk,.junk,.junk,.junk,.junk,.junk,.junk,.junk,.junk,.junk,(V.kill hH.length uu),(V.kill hH.length uu)],co hH.length hH⟩):=kB
theorem abh:evF Tryz.prog xM (k+1) wl 17 [c,d] h=ak (xX (xS k) 17 wl k false) Tryz.f17 [c,d] h:=by kernel_rfl
theorem Zy (P:Program):aD P Tryz.f17 .ret ⟨[c,d,e,o,q,j,g,u,f,y,A,z,B,F,D,E,v,G,I,L,J,N,M,O,R,T,U,W,X,Q,Y,Z,t2,t1,t0,t3,t4],h⟩=eg [ab P 30 q h,some j] h:=by kernel_rfl
theorem So:itX (xX s 17 wl k rd) C0 n0 K (n+1) ⟨[c,d,e,o,q,j,g,u,f,y,A,z,B,F,D,E,v,G,I,L,J,N,M,O,R,T,U,W,X,Q,Y,Z,t2,t1,t0,t3,t4],h⟩ =
 bm (az s.P .lss 3 I G) h fun vJ hM=>
 cnd vJ (
 bm (al s.P 31 v I hM) hM fun vL hN=>
 bm (ab s.P 48 vL hN) hN fun vK hP=>
 bp (aA s.P 48 hP) fun vO hV=>
 bs (ai s.P wl 48 vO vK hV) fun hU=>
 bm (ab s.P 48 vO hU) hU fun vU hb=>
 bm (aa s.P 30 e 0) hb fun vS hd=>
 bm (aa s.P 23 vS 0) hd fun vq hj=>
 bm (ab s.P 3 vq hj) hj fun vl hX=>
 bm (aa s.P 30 e 4) hX fun va he=>
 bm (ab s.P 28 va he) he fun vc hg=>
 bp (bw s.P 28 vc hg) fun vV hY=>
 bp (dW (xX s 17 wl k rd) false true (.fn (.func 42) [] []) [vU,vl,vV] hY) fun vZ hk=>
 cnd vZ (
 bm (ab s.P 48 vO hk) hk fun vR hr=>
 bp (dW (xX s 17 wl k rd) false true (.fn (.func 43) [] []) [g,vR] hr) fun vp ht=>
 bp (ng s.P wl 34 34 u vp ht) fun vt hz=>
 bm (az s.P .add 3 I (.lit (.int .i64 1))) hz fun v60 h61=>
 itX (xX s 17 wl k rd) C0 n0 K n ⟨[(V.kill n0 c),(V.kill n0 d),(V.kill n0 e),(V.kill n0 o),(V.kill n0 q),(V.kill n0 j),(V.kill n0 g),(V.kill n0 vt),(V.kill n0 f),(V.kill n0 vO),(V.kill n0 A),(V.kill n0 z),(V.kill n0 B),(V.kill n0 F),(V.kill n0 D),(V.kill n0 E),(V.kill n0 v),(V.kill n0 G),(V.kill n0 v60),.junk,.junk,.junk,.junk,.junk,.junk,.junk,.junk,.junk,.junk,.junk,.junk,.junk,.junk,.junk,.junk,(V.kill n0 t3),(V.kill n0 t4)],co n0 h61⟩) (
 bm (az s.P .add 3 I (.lit (.int .i64 1))) hk fun vx h63=>
 itX (xX s 17 wl k rd) C0 n0 K n ⟨[(V.kill n0 c),(V.kill n0 d),(V.kill n0 e),(V.kill n0 o),(V.kill n0 q),(V.kill n0 j),(V.kill n0 g),(V.kill n0 u),(V.kill n0 f),(V.kill n0 vO),(V.kill n0 A),(V.kill n0 z),(V.kill n0 B),(V.kill n0 F),(V.kill n0 D),(V.kill n0 E),(V.kill n0 v),(V.kill n0 G),(V.kill n0 vx),.junk,.junk,.junk,.junk,.junk,.junk,.junk,.junk,.junk,.junk,.junk,.junk,.junk,.junk,.junk,.junk,(V.kill n0 t3),(V.kill n0 t4)],co n0 h63⟩)) (
 K (.exit 0) ⟨[(V.kill n0 c),(V.kill n0 d),(V.kill n0 e),(V.kill n0 o),(V.kill n0 q),(V.kill n0 j),(V.kill n0 g),(V.kill n0 u),(V.kill n0 f),(V.kill n0 y),(V.kill n0 A),(V.kill n0 z),(V.kill n0 B),(V.kill n0 F),(V.kill n0 D),(V.kill n0 E),(V.kill n0 v),(V.kill n0 G),.junk,.junk,.junk,.junk,.junk,.junk,.junk,.junk,.junk,.junk,.junk,.junk,.junk,.junk,.junk,.junk,.junk,(V.kill n0 t3),(V.kill n0 t4)],co n0 hM⟩):=kI
theorem D5:av (xX s 17 wl k false) (aD s.P Tryz.f17) Ic (.exit 0) ⟨[c,d,e,o,q,j,g,u,f,y,A,z,B,F,D,E,v,G,I,L,J,N,M,O,R,T,U,W,X,Q,Y,Z,t2,t1,t0,t3,t4],h⟩ =
 bm (ab s.P 30 g h) h fun vw h65=>
 bs (ai s.P wl 30 q vw h65) fun h66=>
 eg [ab s.P 30 q h66,some u] h66:=kR
theorem kQ (cx:Cx) (s:St):av cx K Ic .ret s=K .ret s:=by kernel_rfl
-- names: X4,Zy,So,D5,kQ
noncomputable def rB:Code:=am (an Tryz.f20) [1,0,0]
noncomputable def pn:List Fr:=[.seq (am (an Tryz.f20) [1,0,1]),.seq (am (an Tryz.f20) [1,1])]
noncomputable def Ss:Code:=am (an Tryz.f20) [1,1,0,1,0]
noncomputable def Lb:Code:=am (an Tryz.f20) [1,1,0,1,0,0]
noncomputable def Ln:Code:=am (an Tryz.f20) [1,1,0,1,0,1]
noncomputable def H0:List Fr:=[.block 0,.seq (am (an Tryz.f20) [1,1,1])]
theorem oP:Ss= .rangeFunc (.tmp 23) #[24] Lb Ln:=by kernel_rfl
theorem abb:ak (xX s 20 wl k false) Tryz.f20 [c] h =
 bp (aU c h) fun v1 h2=>
 bp (aA s.P 4 h2) fun v3 h4=>
 bm (aa s.P 30 v1 0) h4 fun v5 h6=>
 bm (ab s.P 23 v5 h6) h6 fun v7 h8=>
 bp (yC s k wl 20 false true (.fn (.func 50) [] []) [v7] h8) fun v9 hA=>
 bm (vUn .not v9) hA fun vA hB=>
 gd vA (
 yO s k wl 20 Tryz.f20 rB 12 h4.length ([],[]) pn ⟨[c,v1,v3,v5,v7,v9,vA,(.lit (.bool true)),uu,uu,uu,uu,uu,uu,uu,uu,uu,uu,uu,uu,uu,uu,uu,uu,uu,uu,uu,uu,uu,uu],hB⟩) (
 bm (aa s.P 30 v1 3) hB fun vC hC=>
 bm (ab s.P 27 vC hC) hC fun vD hD=>
 bp (bw s.P 27 vD hD) fun vB hE=>
 bm (aa s.P 30 v1 0) hE fun vE hF=>
 bm (aa s.P 23 vE 0) hF fun vF hG=>
 bm (ab s.P 3 vF hG) hG fun vH hJ=>
 bm (az s.P .neq 3 vB vH) hJ fun vI hI=>
 yO s k wl 20 Tryz.f20 rB 12 h4.length ([],[]) pn ⟨[c,v1,v3,v5,v7,v9,vA,(.lit (.bool false)),vC,vD,vB,vE,vF,vH,vI,uu,uu,uu,uu,uu,uu,uu,uu,uu,uu,uu,uu,uu,uu,uu],hI⟩) (
 yO s k wl 20 Tryz.f20 rB 6 h4.length ([],[]) pn ⟨[c,v1,v3,v5,v7,v9,vA,vA,uu,uu,uu,uu,uu,uu,uu,uu,uu,uu,uu,uu,uu,uu,uu,uu,uu,uu,uu,uu,uu,uu],hB⟩):=kB
theorem abp:evF Tryz.prog xM (k+1) wl 20 [c] h=ak (xX (xS k) 20 wl k false) Tryz.f20 [c] h:=by kernel_rfl
theorem Xz (P:Program):aD P Tryz.f20 .ret ⟨[c,d,e,o,q,j,g,u,f,y,A,z,B,F,D,E,v,G,I,L,J,N,M,O,R,T,U,W,X,Q],h⟩=eg [ab P 4 e h] h:=by kernel_rfl
theorem DX:yO s k wl 20 Tryz.f20 rB 12 m0 ac pn ⟨(c::d::e::o::q::j::g::u::f::y::A::z::B::F::D::E::v::G::I::L::J::zz),h⟩ =
 bm (aT u (.lit (.bool true)) D) h fun vG hH=>
 gd vG (
 yO s k wl 20 Tryz.f20 rB 18 m0 ac pn ⟨(c::d::e::o::q::j::g::u::f::y::A::z::B::F::D::vG::(.lit (.bool true))::uu::uu::uu::uu::zz),hH⟩) (
 bm (aa s.P 30 d 4) hH fun vJ hM=>
 bm (ab s.P 28 vJ hM) hM fun vL hN=>
 bp (bw s.P 28 vL hN) fun vK hP=>
 bm (az s.P .gtr 3 vK (.lit (.int .i64 3))) hP fun vO hV=>
 yO s k wl 20 Tryz.f20 rB 18 m0 ac pn ⟨(c::d::e::o::q::j::g::u::f::y::A::z::B::F::D::vG::(.lit (.bool false))::vJ::vL::vK::vO::zz),hV⟩) (
 yO s k wl 20 Tryz.f20 rB 15 m0 ac pn ⟨(c::d::e::o::q::j::g::u::f::y::A::z::B::F::D::vG::vG::uu::I::L::J::zz),hH⟩):=kG
theorem DK:yO s k wl 20 Tryz.f20 rB 18 m0 ac pn ⟨[c,d,e,o,q,j,g,u,f,y,A,z,B,F,D,E,v,G,I,L,J,N,M,O,R,T,U,W,X,Q],h⟩ =
 bm (aT v (.lit (.bool true)) J) h fun vW hS=>
 cnd vW (
 bs (ai s.P wl 4 e (.lit (.bool false)) hS) fun hb=>
 eg [ab s.P 4 e hb] hb) (
 bm (ab s.P 30 d hS) hS fun vS hd=>
 bp (yC s k wl 20 false true (.fn (.func 51) [] []) [vS] hd) fun vq hj=>
 a9 (xX s 20 wl k false) Ss none (av (xX s 20 wl k false) (aD s.P Tryz.f20) H0) ⟨[c,d,e,o,q,j,g,u,f,y,A,z,B,F,D,E,v,G,I,L,J,vW,vS,vq,R,T,U,W,X,Q],hj⟩):=kG
theorem Ec:av (xX s 20 wl k false) (aD s.P Tryz.f20) H0 .norm ⟨[c,d,e,o,q,j,g,u,f,y,A,z,B,F,D,E,v,G,I,L,J,N,M,O,R,T,U,W,X,Q],h⟩ =
 bm (aa s.P 30 d 4) h fun vl hX=>
 bm (ab s.P 28 vl hX) hX fun va he=>
 bp (yC s k wl 20 false true (.fn (.func 52) [] []) [va,(.fn (.func 53) [] [d])] he) fun vc hg=>
 bm (vUn .not vc) hg fun vV hY=>
 bs (ai s.P wl 4 e vV hY) fun hL=>
 eg [ab s.P 4 e hL] hL:=kR
theorem dY:av (xX s 20 wl k rd) K [.seq Ln] .norm ⟨(c::d::e::zz),h⟩ =
 bs (ai s.P wl 4 e (.lit (.bool false)) h) fun hk=>
 K .ret ⟨(c::d::e::zz),hk⟩:=kR
theorem dV:av (xX s 20 wl k rd) K [.seq Lb] .norm ⟨(c::zz),h⟩ =
 K .norm ⟨(c::zz),h⟩:=kR
theorem kO (cx:Cx) (s:St):av cx K pn .ret s=K .ret s:=by kernel_rfl
theorem lz (cx:Cx) (s:St):av cx K H0 .ret s=K .ret s:=by kernel_rfl
-- names: abb,Xz,DX,DK,Ec,dY,dV,kO,lz
-- range over a function at [1,1,0,1,0]
theorem afB:ak (xX s 24 wl k false) Tryz.f24 [c,d] h =
 bp (aU c h) fun v1 h2=>
 bp (aU d h2) fun v3 h4=>
 bp (aA s.P 30 h4) fun v5 h6=>
 bp (some (.own h6.length 0 0,h6++[.rows 0 [] 0 true])) fun v7 h8=>
 bm (ab s.P 30 v1 h8) h8 fun v9 hA=>
 bm (ab s.P 48 v3 hA) hA fun vA hB=>
 bp (aK s.P wl 31 1 [(0,vA)] hB) fun vC hC=>
 bp (yC s k wl 24 false true (.fn (.func 17) [] []) [v9,vC] hC) fun vD hD=>
 bm (ar vD 0) hD fun vB hE=>
 bm (ar vD 1) hE fun vE hF=>
 bs (ai s.P wl 30 v5 vB hF) fun hO=>
 eg [ab s.P 30 v5 hO,some vE] hO:=kB
theorem agb:evF Tryz.prog xM (k+1) wl 24 [c,d] h=ak (xX (xS k) 24 wl k false) Tryz.f24 [c,d] h:=by kernel_rfl
-- names: afB,
noncomputable def HW:Code:=am (an Tryz.f41) [1,1,1,0,1,0,0]
noncomputable def GX:List Fr:=[.block 0,.seq (am (an Tryz.f41) [1,1,1,1])]
noncomputable def Ib:Code:=am (an Tryz.f41) [1,1,1,1,0,1,0,0]
noncomputable def HI:List Fr:=[.block 2,.seq (am (an Tryz.f41) [1,1,1,1,1])]
theorem ZJ:ak (xX s 41 wl k false) Tryz.f41 [c] h =
 bp (aU c h) fun v1 h2=>
 bp (aA s.P 30 h2) fun v3 h4=>
 bm (aa s.P 30 v1 1) h4 fun v5 h6=>
 bm (ab s.P 24 v5 h6) h6 fun v7 h8=>
 bp (yC s k wl 41 true true (.fn (.func 58) [] []) [v7] h8) fun v9 hA=>
 bm (aa s.P 30 v1 2) hA fun vA hB=>
 stO h4.length vA (
 bm (ab s.P 26 vA hB) hB fun vC hC=>
 bp (yC s k wl 41 false true (.fn (.func 76) [] []) [vC] hC) fun vD hD=>
 bm (aa s.P 30 v1 1) hD fun vB hE=>
 bs (ai s.P wl 24 vB v9 hE) fun hq=>
 bm (aa s.P 30 v1 2) hq fun vb hO=>
 bs (ai s.P wl 26 vb vD hO) fun hG=>
 bm (aa s.P 30 v1 3) hG fun vH hJ=>
 bm (ab s.P 27 vH hJ) hJ fun vI hI=>
 bp (yC s k wl 41 true true (.fn (.func 77) [] []) [vI] hI) fun vG hH=>
 bm (aa s.P 30 v1 4) hH fun vJ hM=>
 stO hG.length vJ (
 bm (ab s.P 28 vJ hM) hM fun vL hN=>
 bp (yC s k wl 41 false true (.fn (.func 78) [] []) [vL] hN) fun vK hP=>
 bm (aa s.P 30 v1 3) hP fun vO hV=>
 bs (ai s.P wl 27 vO vG hV) fun hU=>
 bm (aa s.P 30 v1 4) hU fun vU hb=>
 bs (ai s.P wl 28 vU vK hb) fun hT=>
 bm (aa s.P 30 v1 3) hT fun vQ hQ=>
 bm (ab s.P 27 vQ hQ) hQ fun vY hZ=>
 bp (bw s.P 27 vY hZ) fun vd hK=>
 yI s k wl 41 Tryz.f41 HW hK.length GX k ⟨[(V.kill hK.length c),(V.kill hK.length v1),(V.kill hK.length v3),(V.kill hK.length uu),(V.kill hK.length uu),(V.kill hK.length v5),(V.kill hK.length v7),(V.kill hK.length v9),(V.kill hK.length vA),(V.kill hK.length vC),(V.kill hK.length vD),(V.kill hK.length vB),(V.kill hK.length vb),(V.kill hK.length vH),(V.kill hK.length vI),(V.kill hK.length vG),(V.kill hK.length vJ),(V.kill hK.length vL),(V.kill hK.length vK),(V.kill hK.length vO),(V.kill hK.length vU),(V.kill hK.length vQ),(V.kill hK.length vY),(V.kill hK.length vd),(.lit (.int .i64 0)),.junk,.junk,.junk,.junk,.junk,.junk,.junk,.junk,.junk,.junk,.junk,.junk,.junk,.junk,.junk,(V.kill hK.length uu),(V.kill hK.length uu),(V.kill hK.length uu),(V.kill hK.length uu),(V.kill hK.length uu),(V.kill hK.length uu),(V.kill hK.length uu),(V.kill hK.length uu),(V.kill hK.length uu),(V.kill hK.length uu),(V.kill hK.length uu),(V.kill hK.length uu),(V.kill hK.length uu),(V.kill hK.length uu),(V.kill hK.length uu),(V.kill hK.length uu),(V.kill hK.length uu),(V.kill hK.length uu),(V.kill hK.length uu),(V.kill hK.length uu)],co hK.length hK⟩)):=kB
theorem abE:evF Tryz.prog xM (k+1) wl 41 [c] h=ak (xX (xS k) 41 wl k false) Tryz.f41 [c] h:=by kernel_rfl
theorem aaN (P:Program):aD P Tryz.f41 .ret ⟨[c,d,e,o,q,j,g,u,f,y,A,z,B,F,D,E,v,G,I,L,J,N,M,O,R,T,U,W,X,Q,Y,Z,t2,t1,t0,t3,t4,t5,tb,tc,t9,ta,t7,t6,td,te,tf,tg,th,ti,tj,tk,tl,tm,tn,tp,tq,tr,ts,t8],h⟩=eg [ab P 30 e h] h:=by kernel_rfl
theorem RV:itX (xX s 41 wl k rd) HW n0 K (n+1) ⟨[c,d,e,o,q,j,g,u,f,y,A,z,B,F,D,E,v,G,I,L,J,N,M,O,R,T,U,W,X,Q,Y,Z,t2,t1,t0,t3,t4,t5,tb,tc,t9,ta,t7,t6,td,te,tf,tg,th,ti,tj,tk,tl,tm,tn,tp,tq,tr,ts,t8],h⟩ =
 bm (az s.P .lss 3 R O) h fun vk hf=>
 cnd vk (
 bm (aa s.P 30 d 3) hf fun ve hl=>
 stO hf.length ve (
 bm (ab s.P 27 ve hl) hl fun vs hL=>
 bm (aa s.P 30 d 3) hL fun vn hh=>
 bm (ab s.P 27 vn hh) hh fun vv hp=>
 bm (al s.P 27 vv R hp) hp fun vy hx=>
 bm (aa s.P 65 vy 1) hx fun v59 hy=>
 bm (ab s.P 63 v59 hy) hy fun v61 hw=>
 bp (dW (xX s 41 wl k rd) true true (.fn (.func 79) [] []) [v61] hw) fun v63 h64=>
 bm (al s.P 27 vs R h64) h64 fun v65 h66=>
 bm (aa s.P 65 v65 1) h66 fun v67 h68=>
 bs (ai s.P wl 63 v67 v63 h68) fun h69=>
 bm (az s.P .add 3 R (.lit (.int .i64 1))) h69 fun v70 h71=>
 itX (xX s 41 wl k rd) HW n0 K n ⟨[(V.kill n0 c),(V.kill n0 d),(V.kill n0 e),(V.kill n0 R),(V.kill n0 q),(V.kill n0 j),(V.kill n0 g),(V.kill n0 u),(V.kill n0 f),(V.kill n0 y),(V.kill n0 A),(V.kill n0 z),(V.kill n0 B),(V.kill n0 F),(V.kill n0 D),(V.kill n0 E),(V.kill n0 v),(V.kill n0 G),(V.kill n0 I),(V.kill n0 L),(V.kill n0 J),(V.kill n0 N),(V.kill n0 M),(V.kill n0 O),(V.kill n0 v70),.junk,.junk,.junk,.junk,.junk,.junk,.junk,.junk,.junk,.junk,.junk,.junk,.junk,.junk,.junk,(V.kill n0 t9),(V.kill n0 ta),(V.kill n0 t7),(V.kill n0 t6),(V.kill n0 td),(V.kill n0 te),(V.kill n0 tf),(V.kill n0 tg),(V.kill n0 th),(V.kill n0 ti),(V.kill n0 tj),(V.kill n0 tk),(V.kill n0 tl),(V.kill n0 tm),(V.kill n0 tn),(V.kill n0 tp),(V.kill n0 tq),(V.kill n0 tr),(V.kill n0 ts),(V.kill n0 t8)],co n0 h71⟩)) (
 K (.exit 0) ⟨[(V.kill n0 c),(V.kill n0 d),(V.kill n0 e),(V.kill n0 o),(V.kill n0 q),(V.kill n0 j),(V.kill n0 g),(V.kill n0 u),(V.kill n0 f),(V.kill n0 y),(V.kill n0 A),(V.kill n0 z),(V.kill n0 B),(V.kill n0 F),(V.kill n0 D),(V.kill n0 E),(V.kill n0 v),(V.kill n0 G),(V.kill n0 I),(V.kill n0 L),(V.kill n0 J),(V.kill n0 N),(V.kill n0 M),(V.kill n0 O),.junk,.junk,.junk,.junk,.junk,.junk,.junk,.junk,.junk,.junk,.junk,.junk,.junk,.junk,.junk,.junk,(V.kill n0 t9),(V.kill n0 ta),(V.kill n0 t7),(V.kill n0 t6),(V.kill n0 td),(V.kill n0 te),(V.kill n0 tf),(V.kill n0 tg),(V.kill n0 th),(V.kill n0 ti),(V.kill n0 tj),(V.kill n0 tk),(V.kill n0 tl),(V.kill n0 tm),(V.kill n0 tn),(V.kill n0 tp),(V.kill n0 tq),(V.kill n0 tr),(V.kill n0 ts),(V.kill n0 t8)],co n0 hf⟩):=kI
theorem EN:av (xX s 41 wl k false) (aD s.P Tryz.f41) GX (.exit 0) ⟨[c,d,e,o,q,j,g,u,f,y,A,z,B,F,D,E,v,G,I,L,J,N,M,O,R,T,U,W,X,Q,Y,Z,t2,t1,t0,t3,t4,t5,tb,tc,t9,ta,t7,t6,td,te,tf,tg,th,ti,tj,tk,tl,tm,tn,tp,tq,tr,ts,t8],h⟩ =
 bm (aa s.P 30 d 4) h fun v72 h73=>
 bm (ab s.P 28 v72 h73) h73 fun v74 h75=>
 bp (bw s.P 28 v74 h75) fun v76 hR=>
 yI s k wl 41 Tryz.f41 Ib hR.length HI k ⟨[(V.kill hR.length c),(V.kill hR.length d),(V.kill hR.length e),(V.kill hR.length o),(V.kill hR.length q),(V.kill hR.length j),(V.kill hR.length g),(V.kill hR.length u),(V.kill hR.length f),(V.kill hR.length y),(V.kill hR.length A),(V.kill hR.length z),(V.kill hR.length B),(V.kill hR.length F),(V.kill hR.length D),(V.kill hR.length E),(V.kill hR.length v),(V.kill hR.length G),(V.kill hR.length I),(V.kill hR.length L),(V.kill hR.length J),(V.kill hR.length N),(V.kill hR.length M),(V.kill hR.length O),(V.kill hR.length R),(V.kill hR.length T),(V.kill hR.length U),(V.kill hR.length W),(V.kill hR.length X),(V.kill hR.length Q),(V.kill hR.length Y),(V.kill hR.length Z),(V.kill hR.length t2),(V.kill hR.length t1),(V.kill hR.length t0),(V.kill hR.length t3),(V.kill hR.length t4),(V.kill hR.length t5),(V.kill hR.length tb),(V.kill hR.length tc),(V.kill hR.length v72),(V.kill hR.length v74),(V.kill hR.length v76),(.lit (.int .i64 0)),.junk,.junk,.junk,.junk,.junk,.junk,.junk,.junk,.junk,.junk,.junk,.junk,.junk,.junk,.junk,(V.kill hR.length t8)],co hR.length hR⟩:=kR
theorem RZ:itX (xX s 41 wl k rd) Ib n0 K (n+1) ⟨[c,d,e,o,q,j,g,u,f,y,A,z,B,F,D,E,v,G,I,L,J,N,M,O,R,T,U,W,X,Q,Y,Z,t2,t1,t0,t3,t4,t5,tb,tc,t9,ta,t7,t6,td,te,tf,tg,th,ti,tj,tk,tl,tm,tn,tp,tq,tr,ts,t8],h⟩ =
 bm (az s.P .lss 3 t6 t7) h fun v78 h79=>
 cnd v78 (
 bm (aa s.P 30 d 4) h79 fun v80 h81=>
 stO h79.length v80 (
 bm (ab s.P 28 v80 h81) h81 fun v82 h83=>
 bm (aa s.P 30 d 4) h83 fun v84 h85=>
 bm (ab s.P 28 v84 h85) h85 fun v86 h87=>
 bm (al s.P 28 v86 t6 h87) h87 fun v88 h89=>
 bm (aa s.P 57 v88 1) h89 fun v90 h91=>
 bm (ab s.P 53 v90 h91) h91 fun v92 h93=>
 bp (dW (xX s 41 wl k rd) true true (.fn (.func 80) [] []) [v92] h93) fun v94 h95=>
 bm (al s.P 28 v82 t6 h95) h95 fun v96 h97=>
 bm (aa s.P 57 v96 1) h97 fun v98 h99=>
 bs (ai s.P wl 53 v98 v94 h99) fun h100=>
 bm (az s.P .add 3 t6 (.lit (.int .i64 1))) h100 fun vg h102=>
 itX (xX s 41 wl k rd) Ib n0 K n ⟨[(V.kill n0 c),(V.kill n0 d),(V.kill n0 e),(V.kill n0 o),(V.kill n0 t6),(V.kill n0 j),(V.kill n0 g),(V.kill n0 u),(V.kill n0 f),(V.kill n0 y),(V.kill n0 A),(V.kill n0 z),(V.kill n0 B),(V.kill n0 F),(V.kill n0 D),(V.kill n0 E),(V.kill n0 v),(V.kill n0 G),(V.kill n0 I),(V.kill n0 L),(V.kill n0 J),(V.kill n0 N),(V.kill n0 M),(V.kill n0 O),(V.kill n0 R),(V.kill n0 T),(V.kill n0 U),(V.kill n0 W),(V.kill n0 X),(V.kill n0 Q),(V.kill n0 Y),(V.kill n0 Z),(V.kill n0 t2),(V.kill n0 t1),(V.kill n0 t0),(V.kill n0 t3),(V.kill n0 t4),(V.kill n0 t5),(V.kill n0 tb),(V.kill n0 tc),(V.kill n0 t9),(V.kill n0 ta),(V.kill n0 t7),(V.kill n0 vg),.junk,.junk,.junk,.junk,.junk,.junk,.junk,.junk,.junk,.junk,.junk,.junk,.junk,.junk,.junk,(V.kill n0 t8)],co n0 h102⟩)) (
 K (.exit 2) ⟨[(V.kill n0 c),(V.kill n0 d),(V.kill n0 e),(V.kill n0 o),(V.kill n0 q),(V.kill n0 j),(V.kill n0 g),(V.kill n0 u),(V.kill n0 f),(V.kill n0 y),(V.kill n0 A),(V.kill n0 z),(V.kill n0 B),(V.kill n0 F),(V.kill n0 D),(V.kill n0 E),(V.kill n0 v),(V.kill n0 G),(V.kill n0 I),(V.kill n0 L),(V.kill n0 J),(V.kill n0 N),(V.kill n0 M),(V.kill n0 O),(V.kill n0 R),(V.kill n0 T),(V.kill n0 U),(V.kill n0 W),(V.kill n0 X),(V.kill n0 Q),(V.kill n0 Y),(V.kill n0 Z),(V.kill n0 t2),(V.kill n0 t1),(V.kill n0 t0),(V.kill n0 t3),(V.kill n0 t4),(V.kill n0 t5),(V.kill n0 tb),(V.kill n0 tc),(V.kill n0 t9),(V.kill n0 ta),(V.kill n0 t7),.junk,.junk,.junk,.junk,.junk,.junk,.junk,.junk,.junk,.junk,.junk,.junk,.junk,.junk,.junk,.junk,(V.kill n0 t8)],co n0 h79⟩):=kI
theorem Dc:av (xX s 41 wl k false) (aD s.P Tryz.f41) HI (.exit 2) ⟨[c,d,e,o,q,j,g,u,f,y,A,z,B,F,D,E,v,G,I,L,J,N,M,O,R,T,U,W,X,Q,Y,Z,t2,t1,t0,t3,t4,t5,tb,tc,t9,ta,t7,t6,td,te,tf,tg,th,ti,tj,tk,tl,tm,tn,tp,tq,tr,ts,t8],h⟩ =
 bm (ab s.P 30 d h) h fun v103 h104=>
 bs (ai s.P wl 30 e v103 h104) fun h105=>
 eg [ab s.P 30 e h105] h105:=kR
theorem kW (cx:Cx) (s:St):av cx K GX .ret s=K .ret s:=by kernel_rfl
theorem lA (cx:Cx) (s:St):av cx K HI .ret s=K .ret s:=by kernel_rfl
-- names: ZJ,aaN,RV,EN,RZ,Dc,kW,lA
noncomputable def G7:List Fr:=[.seq (am (an Tryz.f43) [1,1,1])]
theorem Zu:ak (xX s 43 wl k false) Tryz.f43 [c,d] h =
 bp (aU c h) fun v1 h2=>
 bp (aU d h2) fun v3 h4=>
 bp (aA s.P 34 h4) fun v5 h6=>
 bp (some (.map h6.length,h6++[.map []])) fun v7 h8=>
 bs (ej s.P wl 138 v7 (.lit (.int .i64 0)) (.fn (.func 82) [] [v1,v3,v5]) h8) fun h9=>
 bs (ej s.P wl 138 v7 (.lit (.int .i64 1)) (.fn (.func 84) [] [v1,v3,v5]) h9) fun hA=>
 bs (ej s.P wl 138 v7 (.lit (.int .i64 2)) (.fn (.func 87) [] [v1]) hA) fun h11=>
 bm (aa s.P 48 v3 0) h11 fun v12 h13=>
 bm (ab s.P 3 v12 h13) h13 fun vz ho=>
 bm (fH s.P 138 v7 vz true ho) ho fun vr hu=>
 bm (ar vr 0) hu fun vm hq=>
 bm (ar vr 1) hq fun vb hO=>
 cnd vb (
 bp (yC s k wl 43 false true vm [] hO) fun vT hm=>
 av (xX s 43 wl k false) (aD s.P Tryz.f43) G7 .norm ⟨[c,d,v1,v3,v5,v7,vm,vb,v7,(.fn (.func 82) [] [v1,v3,v5]),(.fn (.func 84) [] [v1,v3,v5]),(.fn (.func 87) [] [v1]),v7,vr,v7,v12,vz,vr,vm,vb,vb,vm,vT,uu],hm⟩) (
 av (xX s 43 wl k false) (aD s.P Tryz.f43) G7 .norm ⟨[c,d,v1,v3,v5,v7,vm,vb,v7,(.fn (.func 82) [] [v1,v3,v5]),(.fn (.func 84) [] [v1,v3,v5]),(.fn (.func 87) [] [v1]),v7,vr,v7,v12,vz,vr,vm,vb,vb,uu,uu,uu],hO⟩):=kB
theorem abf:evF Tryz.prog xM (k+1) wl 43 [c,d] h=ak (xX (xS k) 43 wl k false) Tryz.f43 [c,d] h:=by kernel_rfl
theorem De:av (xX s 43 wl k false) (aD s.P Tryz.f43) G7 .norm ⟨[c,d,e,o,q,j,g,u,f,y,A,z,B,F,D,E,v,G,I,L,J,N,M,O],h⟩ =
 bm (ab s.P 34 q h) h fun vP ha=>
 bs (ai s.P wl 34 q vP ha) fun hI=>
 eg [ab s.P 34 q hI] hI:=kR
theorem lJ (cx:Cx) (s:St):av cx K G7 .ret s=K .ret s:=by kernel_rfl
-- names: Zu,De,lJ
theorem X9:ak (xX s 51 wl k false) Tryz.f51 [c] h =
 bp (aU c h) fun v1 h2=>
 some ((.fn (.func 94) [] [v1]),h2):=kB
theorem abu:evF Tryz.prog xM (k+1) wl 51 [c] h=ak (xX (xS k) 51 wl k false) Tryz.f51 [c] h:=by kernel_rfl
-- names: X9,
noncomputable def cG:Code:=am (an Tryz.f53) [1,1,0]
noncomputable def cw:List Fr:=[.seq (am (an Tryz.f53) [1,1,1])]
theorem Xt:ak (xX s 53 wl k false) Tryz.f53 [c,d] h =
 bp (aU c h) fun v1 h2=>
 bm (aa s.P 57 v1 0) h2 fun v3 h4=>
 bm (ab s.P 3 v3 h4) h4 fun v5 h6=>
 bm (az s.P .lss 3 v5 (.lit (.int .i64 0))) h6 fun v7 h8=>
 gd v7 (
 yO s k wl 53 Tryz.f53 cG 7 h2.length ([],[]) cw ⟨[c,d,v1,(.lit (.bool false)),(.fn (.func 54) [] [d]),(.fn (.func 54) [] [d]),v3,v5,v7,(.lit (.bool true)),uu,uu,uu,uu,uu,uu,uu,uu,uu,uu,uu,uu,uu,uu,uu,uu,uu,uu,uu,uu,uu],h8⟩) (
 bm (aa s.P 57 v1 0) h8 fun v9 hA=>
 bm (ab s.P 3 v9 hA) hA fun vA hB=>
 bm (az s.P .geq 3 vA (.lit (.int .i64 6))) hB fun vC hC=>
 yO s k wl 53 Tryz.f53 cG 7 h2.length ([],[]) cw ⟨[c,d,v1,(.lit (.bool false)),(.fn (.func 54) [] [d]),(.fn (.func 54) [] [d]),v3,v5,v7,(.lit (.bool false)),v9,vA,vC,uu,uu,uu,uu,uu,uu,uu,uu,uu,uu,uu,uu,uu,uu,uu,uu,uu,uu],hC⟩) (
 yO s k wl 53 Tryz.f53 cG 5 h2.length ([],[]) cw ⟨[c,d,v1,(.lit (.bool false)),(.fn (.func 54) [] [d]),(.fn (.func 54) [] [d]),v3,v5,v7,v7,uu,uu,uu,uu,uu,uu,uu,uu,uu,uu,uu,uu,uu,uu,uu,uu,uu,uu,uu,uu,uu],h8⟩):=kB
theorem abr:evF Tryz.prog xM (k+1) wl 53 [c,d] h=ak (xX (xS k) 53 wl k false) Tryz.f53 [c,d] h:=by kernel_rfl
theorem D4:yO s k wl 53 Tryz.f53 cG 7 m0 ac cw ⟨(c::d::e::o::q::j::g::u::f::y::A::z::B::F::D::E::v::G::I::zz),h⟩ =
 bm (aT y (.lit (.bool true)) B) h fun vD hD=>
 gd vD (
 yO s k wl 53 Tryz.f53 cG 13 m0 ac cw ⟨(c::d::e::o::q::j::g::u::f::y::A::z::B::vD::(.lit (.bool true))::uu::uu::uu::uu::zz),hD⟩) (
 bm (aa s.P 57 e 1) hD fun vB hE=>
 bm (ab s.P 53 vB hE) hE fun vE hF=>
 bp (yC s k wl 53 false true (.fn (.func 55) [] []) [vE,q] hF) fun vF hG=>
 yO s k wl 53 Tryz.f53 cG 13 m0 ac cw ⟨(c::d::e::o::q::j::g::u::f::y::A::z::B::vD::(.lit (.bool false))::vB::vE::q::vF::zz),hG⟩) (
 yO s k wl 53 Tryz.f53 cG 10 m0 ac cw ⟨(c::d::e::o::q::j::g::u::f::y::A::z::B::vD::vD::uu::v::G::I::zz),hD⟩):=kG
theorem Ek:yO s k wl 53 Tryz.f53 cG 13 m0 ac cw ⟨[c,d,e,o,q,j,g,u,f,y,A,z,B,F,D,E,v,G,I,L,J,N,M,O,R,T,U,W,X,Q,Y],h⟩ =
 bm (aT D (.lit (.bool true)) I) h fun vH hJ=>
 gd vH (
 yO s k wl 53 Tryz.f53 cG 24 m0 ac cw ⟨[c,d,e,o,q,j,g,u,f,y,A,z,B,F,D,E,v,G,I,vH,(.lit (.bool true)),uu,uu,uu,uu,uu,uu,uu,uu,uu,Y],hJ⟩) (
 bm (aa s.P 57 e 0) hJ fun vI hI=>
 bm (ab s.P 3 vI hI) hI fun vG hH=>
 bm (az s.P .neq 3 vG (.lit (.int .i64 0))) hH fun vJ hM=>
 yO s k wl 53 Tryz.f53 cG 19 m0 ac cw ⟨[c,d,e,o,q,j,g,u,f,y,A,z,B,F,D,E,v,G,I,vH,(.lit (.bool false)),vI,vG,vJ,vJ,T,U,W,X,Q,Y],hM⟩) (
 yO s k wl 53 Tryz.f53 cG 16 m0 ac cw ⟨[c,d,e,o,q,j,g,u,f,y,A,z,B,F,D,E,v,G,I,vH,vH,uu,M,O,R,T,U,W,X,Q,Y],hJ⟩):=kG
theorem EX:yO s k wl 53 Tryz.f53 cG 24 m0 ac cw ⟨[c,d,e,o,q,j,g,u,f,y,A,z,B,F,D,E,v,G,I,L,J,N,M,O,R,T,U,W,X,Q,Y],h⟩ =
 bm (aT J (.lit (.bool true)) Q) h fun vL hN=>
 some (vL,hN):=kG
theorem DR:yO s k wl 53 Tryz.f53 cG 19 m0 ac cw ⟨[c,d,e,o,q,j,g,u,f,y,A,z,B,F,D,E,v,G,I,L,J,N,M,O,R,T,U,W,X,Q,Y],h⟩ =
 gd R (
 bm (aa s.P 57 e 1) h fun vK hP=>
 bm (ab s.P 53 vK hP) hP fun vO hV=>
 bp (bw s.P 53 vO hV) fun vW hS=>
 bm (az s.P .eql 3 vW (.lit (.int .i64 0))) hS fun vX hT=>
 yO s k wl 53 Tryz.f53 cG 23 m0 ac cw ⟨[c,d,e,o,q,j,g,u,f,y,A,z,B,F,D,E,v,G,I,L,J,N,M,O,(.lit (.bool true)),vK,vO,vW,vX,Q,Y],hT⟩) (
 yO s k wl 53 Tryz.f53 cG 23 m0 ac cw ⟨[c,d,e,o,q,j,g,u,f,y,A,z,B,F,D,E,v,G,I,L,J,N,M,O,(.lit (.bool false)),uu,uu,uu,uu,Q,Y],h⟩) (
 yO s k wl 53 Tryz.f53 cG 20 m0 ac cw ⟨[c,d,e,o,q,j,g,u,f,y,A,z,B,F,D,E,v,G,I,L,J,N,M,O,R,uu,U,W,X,Q,Y],h⟩):=kG
theorem EG:yO s k wl 53 Tryz.f53 cG 23 m0 ac cw ⟨[c,d,e,o,q,j,g,u,f,y,A,z,B,F,D,E,v,G,I,L,J,N,M,O,R,T,U,W,X,Q,Y],h⟩ =
 gd J (
 yO s k wl 53 Tryz.f53 cG 24 m0 ac cw ⟨[c,d,e,o,q,j,g,u,f,y,A,z,B,F,D,E,v,G,I,L,(.lit (.bool true)),N,M,O,R,T,U,W,X,uu,Y],h⟩) (
 bm (aT R X (.lit (.bool false))) h fun vQ hQ=>
 yO s k wl 53 Tryz.f53 cG 24 m0 ac cw ⟨[c,d,e,o,q,j,g,u,f,y,A,z,B,F,D,E,v,G,I,L,(.lit (.bool false)),N,M,O,R,T,U,W,X,vQ,Y],hQ⟩) (
 yO s k wl 53 Tryz.f53 cG 24 m0 ac cw ⟨[c,d,e,o,q,j,g,u,f,y,A,z,B,F,D,E,v,G,I,L,J,N,M,O,R,T,U,W,X,uu,Y],h⟩):=kG
theorem DC:yO s k wl 53 Tryz.f53 cG 20 m0 ac cw ⟨[c,d,e,o,q,j,g,u,f,y,A,z,B,F,D,E,v,G,I,L,J,N,M,O,R,T,U,W,X,Q,Y],h⟩ =
 gd R (
 bm (ab s.P 53 T h) h fun vY hZ=>
 bp (bw s.P 53 vY hZ) fun vd hK=>
 bm (az s.P .eql 3 vd (.lit (.int .i64 0))) hK fun vk hf=>
 yO s k wl 53 Tryz.f53 cG 23 m0 ac cw ⟨[c,d,e,o,q,j,g,u,f,y,A,z,B,F,D,E,v,G,I,L,J,N,M,O,(.lit (.bool true)),T,vY,vd,vk,Q,Y],hf⟩) (
 yO s k wl 53 Tryz.f53 cG 23 m0 ac cw ⟨[c,d,e,o,q,j,g,u,f,y,A,z,B,F,D,E,v,G,I,L,J,N,M,O,(.lit (.bool false)),T,uu,uu,uu,Q,Y],h⟩) (
 yO s k wl 53 Tryz.f53 cG 21 m0 ac cw ⟨[c,d,e,o,q,j,g,u,f,y,A,z,B,F,D,E,v,G,I,L,J,N,M,O,R,T,uu,W,X,Q,Y],h⟩):=kG
theorem Et:yO s k wl 53 Tryz.f53 cG 21 m0 ac cw ⟨[c,d,e,o,q,j,g,u,f,y,A,z,B,F,D,E,v,G,I,L,J,N,M,O,R,T,U,W,X,Q,Y],h⟩ =
 gd R (
 bp (bw s.P 53 U h) fun ve hl=>
 bm (az s.P .eql 3 ve (.lit (.int .i64 0))) hl fun vs hL=>
 yO s k wl 53 Tryz.f53 cG 23 m0 ac cw ⟨[c,d,e,o,q,j,g,u,f,y,A,z,B,F,D,E,v,G,I,L,J,N,M,O,(.lit (.bool true)),T,U,ve,vs,Q,Y],hL⟩) (
 yO s k wl 53 Tryz.f53 cG 23 m0 ac cw ⟨[c,d,e,o,q,j,g,u,f,y,A,z,B,F,D,E,v,G,I,L,J,N,M,O,(.lit (.bool false)),T,U,uu,uu,Q,Y],h⟩) (
 yO s k wl 53 Tryz.f53 cG 22 m0 ac cw ⟨[c,d,e,o,q,j,g,u,f,y,A,z,B,F,D,E,v,G,I,L,J,N,M,O,R,T,U,uu,X,Q,Y],h⟩):=kG
theorem DT:yO s k wl 53 Tryz.f53 cG 22 m0 ac cw ⟨[c,d,e,o,q,j,g,u,f,y,A,z,B,F,D,E,v,G,I,L,J,N,M,O,R,T,U,W,X,Q,Y],h⟩ =
 gd R (
 bm (az s.P .eql 3 W (.lit (.int .i64 0))) h fun vn hh=>
 yO s k wl 53 Tryz.f53 cG 23 m0 ac cw ⟨[c,d,e,o,q,j,g,u,f,y,A,z,B,F,D,E,v,G,I,L,J,N,M,O,(.lit (.bool true)),T,U,W,vn,Q,Y],hh⟩) (
 yO s k wl 53 Tryz.f53 cG 23 m0 ac cw ⟨[c,d,e,o,q,j,g,u,f,y,A,z,B,F,D,E,v,G,I,L,J,N,M,O,(.lit (.bool false)),T,U,W,uu,Q,Y],h⟩) (
 yO s k wl 53 Tryz.f53 cG 23 m0 ac cw ⟨[c,d,e,o,q,j,g,u,f,y,A,z,B,F,D,E,v,G,I,L,J,N,M,O,R,T,U,W,uu,Q,Y],h⟩):=kG
theorem lE (cx:Cx) (s:St):av cx K cw .ret s=K .ret s:=by kernel_rfl
-- names: Xt,D4,Ek,EX,DR,EG,DC,Et,DT,lE
noncomputable def Hl:Code:=am (an Tryz.f54) [1,0]
noncomputable def Dg:List Fr:=[.seq (am (an Tryz.f54) [1,1])]
theorem WO:ak (xX s 54 wl k false) Tryz.f54 [c,d] h =
 bm (az s.P .lss 3 c (.lit (.int .i64 0))) h fun v1 h2=>
 gd v1 (
 yO s k wl 54 Tryz.f54 Hl 8 h.length ([],[]) Dg ⟨[c,d,uu,(.lit (.bool false)),c,v1,(.lit (.bool true)),uu,uu,uu,uu,uu,uu],h2⟩) (
 bm (aa s.P 30 d 1) h2 fun v3 h4=>
 bm (ab s.P 24 v3 h4) h4 fun v5 h6=>
 bp (bw s.P 24 v5 h6) fun v7 h8=>
 bm (az s.P .geq 3 c v7) h8 fun v9 hA=>
 yO s k wl 54 Tryz.f54 Hl 8 h.length ([],[]) Dg ⟨[c,d,uu,(.lit (.bool false)),c,v1,(.lit (.bool false)),c,v3,v5,v7,v9,uu],hA⟩) (
 yO s k wl 54 Tryz.f54 Hl 4 h.length ([],[]) Dg ⟨[c,d,uu,(.lit (.bool false)),c,v1,v1,uu,uu,uu,uu,uu,uu],h2⟩):=kB
theorem abt:evF Tryz.prog xM (k+1) wl 54 [c,d] h=ak (xX (xS k) 54 wl k false) Tryz.f54 [c,d] h:=by kernel_rfl
theorem Eg:yO s k wl 54 Tryz.f54 Hl 8 m0 ac Dg ⟨[c,d,e,o,q,j,g,u,f,y,A,z,B],h⟩ =
 bm (aT g (.lit (.bool true)) z) h fun vA hB=>
 some (vA,hB):=kG
theorem lb (cx:Cx) (s:St):av cx K Dg .ret s=K .ret s:=by kernel_rfl
-- names: WO,Eg,lb
noncomputable def H9:Code:=am (an Tryz.f58) [1,1,0,1,0,0]
noncomputable def HU:List Fr:=[.block 0,.seq (am (an Tryz.f58) [1,1,1])]
theorem acO:ak (xX s 58 wl k false) Tryz.f58 [c] h =
 bp (some (.own h.length 0 0,h++[.rows 0 [] 0 true])) fun v1 h2=>
 bp (yC s k wl 58 false true (.fn (.func 102) [] []) [c] h2) fun v3 h4=>
 bp (bw s.P 24 v3 h4) fun v5 h6=>
 yI s k wl 58 Tryz.f58 H9 h6.length HU k ⟨[(V.kill h6.length c),(V.kill h6.length uu),(V.kill h6.length v1),(V.kill h6.length v3),(V.kill h6.length uu),(V.kill h6.length c),(V.kill h6.length v3),(V.kill h6.length v3),(V.kill h6.length v5),(.lit (.int .i64 0)),.junk,.junk,.junk,.junk,.junk,.junk,.junk,.junk,.junk,.junk,.junk,.junk,.junk,(V.kill h6.length uu)],co h6.length h6⟩:=kB
theorem afo:evF Tryz.prog xM (k+1) wl 58 [c] h=ak (xX (xS k) 58 wl k false) Tryz.f58 [c] h:=by kernel_rfl
theorem ac7 (P:Program):aD P Tryz.f58 .ret ⟨[c,d,e,o,q,j,g,u,f,y,A,z,B,F,D,E,v,G,I,L,J,N,M,O],h⟩=some (e,h):=by kernel_rfl
theorem RG:itX (xX s 58 wl k rd) H9 n0 K (n+1) ⟨[c,d,e,o,q,j,g,u,f,y,A,z,B,F,D,E,v,G,I,L,J,N,M,O],h⟩ =
 bm (az s.P .lss 3 y f) h fun v7 h8=>
 cnd v7 (
 bm (al s.P 24 o y h8) h8 fun v9 hA=>
 bm (aa s.P 101 v9 1) hA fun vA hB=>
 bm (ab s.P 53 vA hB) hB fun vC hC=>
 bp (dW (xX s 58 wl k rd) false true (.fn (.func 80) [] []) [vC] hC) fun vD hD=>
 bm (al s.P 24 o y hD) hD fun vB hE=>
 bm (aa s.P 101 vB 1) hE fun vE hF=>
 bs (ai s.P wl 53 vE vD hF) fun hO=>
 bm (az s.P .add 3 y (.lit (.int .i64 1))) hO fun vT hm=>
 itX (xX s 58 wl k rd) H9 n0 K n ⟨[(V.kill n0 c),(V.kill n0 d),(V.kill n0 e),(V.kill n0 o),(V.kill n0 y),(V.kill n0 j),(V.kill n0 g),(V.kill n0 u),(V.kill n0 f),(V.kill n0 vT),.junk,.junk,.junk,.junk,.junk,.junk,.junk,.junk,.junk,.junk,.junk,.junk,.junk,(V.kill n0 O)],co n0 hm⟩) (
 K (.exit 0) ⟨[(V.kill n0 c),(V.kill n0 d),(V.kill n0 e),(V.kill n0 o),(V.kill n0 q),(V.kill n0 j),(V.kill n0 g),(V.kill n0 u),(V.kill n0 f),.junk,.junk,.junk,.junk,.junk,.junk,.junk,.junk,.junk,.junk,.junk,.junk,.junk,.junk,(V.kill n0 O)],co n0 h8⟩):=kI
theorem LK:av (xX s 58 wl k false) (aD s.P Tryz.f58) HU (.exit 0) ⟨[c,d,e,o,q,j,g,u,f,y,A,z,B,F,D,E,v,G,I,L,J,N,M,O],h⟩ =
 some (o,h):=kR
theorem pJ (cx:Cx) (s:St):av cx K HU .ret s=K .ret s:=by kernel_rfl
-- names: acO,ac7,RG,LK,pJ
theorem aac:ak (xX s 82 wl k false) Tryz.f82 [c,d,e] h =
 stO h.length c (
 bm (ab s.P 86 c h) h fun v1 h2=>
 stO h.length c (
 bm (ab s.P 86 c h2) h2 fun v3 h4=>
 stO h.length v3 (
 bm (aN v3 h4) h4 fun v5 h6=>
 bm (aa s.P 30 v5 3) h6 fun v7 h8=>
 stO h.length v7 (
 bm (ab s.P 27 v7 h8) h8 fun v9 hA=>
 bm (aa s.P 48 d 1) hA fun vA hB=>
 stO h.length vA (
 bm (ab s.P 3 vA hB) hB fun vC hC=>
 bm (ab s.P 86 c hC) hC fun vD hD=>
 bm (aN vD hD) hD fun vB hE=>
 bm (aa s.P 30 vB 0) hE fun vE hF=>
 bm (ab s.P 23 vE hF) hF fun vF hG=>
 bm (ab s.P 86 c hG) hG fun vH hJ=>
 bm (aN vH hJ) hJ fun vI hI=>
 bm (aa s.P 30 vI 1) hI fun vG hH=>
 bm (ab s.P 24 vG hH) hH fun vJ hM=>
 bm (ab s.P 86 c hM) hM fun vL hN=>
 bm (aN vL hN) hN fun vK hP=>
 bm (aa s.P 30 vK 2) hP fun vO hV=>
 bm (ab s.P 26 vO hV) hV fun vW hS=>
 bm (aa s.P 48 d 1) hS fun vX hT=>
 bm (ab s.P 3 vX hT) hT fun vQ hQ=>
 bm (ab s.P 86 c hQ) hQ fun vY hZ=>
 bm (aN vY hZ) hZ fun vd hK=>
 bm (aa s.P 30 vd 3) hK fun vk hf=>
 bm (ab s.P 27 vk hf) hf fun ve hl=>
 bm (aa s.P 48 d 1) hl fun vs hL=>
 bm (ab s.P 3 vs hL) hL fun vn hh=>
 bm (al s.P 27 ve vn hh) hh fun vv hp=>
 bm (ab s.P 65 vv hp) hp fun vy hx=>
 bm (aa s.P 48 d 2) hx fun v59 hy=>
 bm (ab s.P 46 v59 hy) hy fun v61 hw=>
 bp (yC s k wl 82 true true (.fn (.func 83) [] []) [vF,vJ,vW,vQ,vy,v61] hw) fun v63 h64=>
 bm (ar v63 0) h64 fun v65 h66=>
 bm (ar v63 1) h66 fun v67 h68=>
 bm (ar v63 2) h68 fun v69 h70=>
 bm (aN v1 h70) h70 fun v71 h72=>
 bm (aa s.P 30 v71 2) h72 fun vu hv=>
 bs (ai s.P wl 26 vu v65 hv) fun h75=>
 bm (al s.P 27 v9 vC h75) h75 fun v76 hR=>
 bs (ai s.P wl 65 v76 v67 hR) fun h78=>
 bs (ai s.P wl 34 e v69 h78) fun h79=>
 apt (lgW e (lgW v76 (lgW vu (lgR vA ([],[]))))) (
 some (.tup [],h79))))))):=kB
theorem abB:evF Tryz.prog xM (k+1) wl 82 [c,d,e] h=ak (xX (xS k) 82 wl k false) Tryz.f82 [c,d,e] h:=by kernel_rfl
-- names: aac,
theorem aaf:ak (xX s 84 wl k false) Tryz.f84 [c,d,e] h =
 bm (ab s.P 86 c h) h fun v1 h2=>
 bm (aN v1 h2) h2 fun v3 h4=>
 bm (aa s.P 30 v3 0) h4 fun v5 h6=>
 bm (ab s.P 23 v5 h6) h6 fun v7 h8=>
 bm (ab s.P 86 c h8) h8 fun v9 hA=>
 bm (aN v9 hA) hA fun vA hB=>
 bm (aa s.P 30 vA 1) hB fun vC hC=>
 bm (ab s.P 24 vC hC) hC fun vD hD=>
 bm (ab s.P 86 c hD) hD fun vB hE=>
 bm (aN vB hE) hE fun vE hF=>
 bm (aa s.P 30 vE 2) hF fun vF hG=>
 bm (ab s.P 26 vF hG) hG fun vH hJ=>
 bm (ab s.P 86 c hJ) hJ fun vI hI=>
 bm (aN vI hI) hI fun vG hH=>
 bm (aa s.P 30 vG 4) hH fun vJ hM=>
 bm (ab s.P 28 vJ hM) hM fun vL hN=>
 bm (aa s.P 48 d 1) hN fun vK hP=>
 bm (ab s.P 3 vK hP) hP fun vO hV=>
 bm (al s.P 28 vL vO hV) hV fun vW hS=>
 bm (ab s.P 57 vW hS) hS fun vX hT=>
 bp (yC s k wl 84 false true (.fn (.func 85) [] []) [v7,vD,vH,vX] hT) fun vQ hQ=>
 cnd vQ (
 stO hQ.length c (
 bm (ab s.P 86 c hQ) hQ fun vY hZ=>
 stO hQ.length c (
 bm (ab s.P 86 c hZ) hZ fun vd hK=>
 stO hQ.length vd (
 bm (aN vd hK) hK fun vk hf=>
 bm (aa s.P 30 vk 4) hf fun ve hl=>
 stO hQ.length ve (
 bm (ab s.P 28 ve hl) hl fun vs hL=>
 bm (aa s.P 48 d 1) hL fun vn hh=>
 stO hQ.length vn (
 bm (ab s.P 3 vn hh) hh fun vv hp=>
 bm (ab s.P 86 c hp) hp fun vy hx=>
 bm (aN vy hx) hx fun v59 hy=>
 bm (aa s.P 30 v59 0) hy fun v61 hw=>
 bm (ab s.P 23 v61 hw) hw fun v63 h64=>
 bm (ab s.P 86 c h64) h64 fun v65 h66=>
 bm (aN v65 h66) h66 fun v67 h68=>
 bm (aa s.P 30 v67 1) h68 fun v69 h70=>
 bm (ab s.P 24 v69 h70) h70 fun v71 h72=>
 bm (ab s.P 86 c h72) h72 fun vu hv=>
 bm (aN vu hv) hv fun v75 h76=>
 bm (aa s.P 30 v75 2) h76 fun v77 h78=>
 bm (ab s.P 26 v77 h78) h78 fun v79 h80=>
 bm (aa s.P 48 d 1) h80 fun v81 h82=>
 bm (ab s.P 3 v81 h82) h82 fun v83 h84=>
 bm (ab s.P 86 c h84) h84 fun v85 h86=>
 bm (aN v85 h86) h86 fun v87 h88=>
 bm (aa s.P 30 v87 4) h88 fun v89 h90=>
 bm (ab s.P 28 v89 h90) h90 fun v91 h92=>
 bm (aa s.P 48 d 1) h92 fun v93 h94=>
 bm (ab s.P 3 v93 h94) h94 fun v95 h96=>
 bm (al s.P 28 v91 v95 h96) h96 fun v97 h98=>
 bm (ab s.P 57 v97 h98) h98 fun v99 h100=>
 bp (yC s k wl 84 true true (.fn (.func 86) [] []) [v63,v71,v79,v83,v99] h100) fun vg h102=>
 bm (ar vg 0) h102 fun v103 h104=>
 bm (ar vg 1) h104 fun v105 h106=>
 bm (ar vg 2) h106 fun v107 h108=>
 bm (aN vY h108) h108 fun v109 h110=>
 bm (aa s.P 30 v109 2) h110 fun v111 h112=>
 bs (ai s.P wl 26 v111 v103 h112) fun h113=>
 bm (al s.P 28 vs vv h113) h113 fun v114 h115=>
 bs (ai s.P wl 57 v114 v105 h115) fun h116=>
 bs (ai s.P wl 34 e v107 h116) fun h117=>
 apt (lgW e (lgW v114 (lgW v111 (lgR vn ([],[]))))) (
 some (.tup [],h117)))))))) (
 some (.tup [],hQ)):=kB
theorem abi:evF Tryz.prog xM (k+1) wl 84 [c,d,e] h=ak (xX (xS k) 84 wl k false) Tryz.f84 [c,d,e] h:=by kernel_rfl
-- names: aaf,
theorem XC:ak (xX s 87 wl k false) Tryz.f87 [c] h =
 stO h.length c (
 bm (ab s.P 86 c h) h fun v1 h2=>
 bm (ab s.P 86 c h2) h2 fun v3 h4=>
 bm (aN v3 h4) h4 fun v5 h6=>
 bm (aa s.P 30 v5 2) h6 fun v7 h8=>
 bm (ab s.P 26 v7 h8) h8 fun v9 hA=>
 bp (yC s k wl 87 true true (.fn (.func 88) [] []) [v9,(.lit (.int .i64 3)),(.lit (.int .u64 1))] hA) fun vA hB=>
 bm (aN v1 hB) hB fun vC hC=>
 bm (aa s.P 30 vC 2) hC fun vD hD=>
 bs (ai s.P wl 26 vD vA hD) fun hu=>
 some (.tup [],hu)):=kB
theorem aby:evF Tryz.prog xM (k+1) wl 87 [c] h=ak (xX (xS k) 87 wl k false) Tryz.f87 [c] h:=by kernel_rfl
-- names: XC,
noncomputable def rC:Code:=am (an Tryz.f94) [1,0,0]
noncomputable def Iw:List Fr:=[.block 0]
noncomputable def GY:Code:=am (an Tryz.f94) [1,0,0,1,1,0,0,1,0]
noncomputable def El:List Fr:=[.seq (am (an Tryz.f94) [1,0,0,1,1,0,0,1,1]),.block 1,.seq (am (an Tryz.f94) [1,0,0,1,1,1])]
theorem aaB:ak (xX s 94 wl k false) Tryz.f94 [c,d] h =
 bm (aa s.P 30 d 3) h fun v1 h2=>
 bm (ab s.P 27 v1 h2) h2 fun v3 h4=>
 bp (bw s.P 27 v3 h4) fun v5 h6=>
 yI s k wl 94 Tryz.f94 rC h6.length Iw k ⟨[(V.kill h6.length c),(V.kill h6.length d),(V.kill h6.length uu),(V.kill h6.length uu),(V.kill h6.length uu),(V.kill h6.length v1),(V.kill h6.length v3),(V.kill h6.length v5),(.lit (.int .i64 0)),.junk,.junk,.junk,.junk,.junk,.junk,.junk,.junk,.junk,.junk,.junk,.junk,.junk,.junk,.junk,.junk,.junk,.junk,.junk,.junk,.junk],co h6.length h6⟩:=kB
theorem abD:evF Tryz.prog xM (k+1) wl 94 [c,d] h=ak (xX (xS k) 94 wl k false) Tryz.f94 [c,d] h:=by kernel_rfl
theorem aaH (P:Program):aD P Tryz.f94 .ret ⟨[c,d,e,o,q,j,g,u,f,y,A,z,B,F,D,E,v,G,I,L,J,N,M,O,R,T,U,W,X,Q],h⟩=some (.tup [],h):=by kernel_rfl
theorem Rx:itX (xX s 94 wl k rd) rC n0 K (n+1) ⟨[c,d,e,o,q,j,g,u,f,y,A,z,B,F,D,E,v,G,I,L,J,N,M,O,R,T,U,W,X,Q],h⟩ =
 bm (az s.P .lss 3 f u) h fun v7 h8=>
 cnd v7 (
 bm (al s.P 27 g f h8) h8 fun v9 hA=>
 bm (ab s.P 65 v9 hA) hA fun vA hB=>
 bp (aA s.P 65 hB) fun vC hC=>
 bs (ai s.P wl 65 vC vA hC) fun ho=>
 bm (aa s.P 30 d 0) ho fun vr hu=>
 bm (ab s.P 23 vr hu) hu fun vm hq=>
 bm (aa s.P 30 d 1) hq fun vb hO=>
 bm (ab s.P 24 vb hO) hO fun vT hm=>
 bm (aa s.P 30 d 2) hm fun vP ha=>
 bm (ab s.P 26 vP ha) ha fun vM hn=>
 bm (ab s.P 65 vC hn) hn fun vf hs=>
 bp (dW (xX s 94 wl k rd) false true (.fn (.func 95) [] []) [vm,vT,vM,f,vf] hs) fun vo hc=>
 bm (vUn .not vo) hc fun vh hi=>
 gd vh (
 bp (dW (xX s 94 wl k rd) false true c [f] hi) fun vi hW=>
 bm (vUn .not vi) hW fun vN hU=>
 fV (xX s 94 wl k rd) GY 15 ho.length ([],[]) (av (xX s 94 wl k rd) (dc (xX s 94 wl k rd) rC n0 K n) El) ⟨[c,d,e,f,vC,j,g,u,f,v7,f,v9,vA,vr,vm,vb,vT,vP,vM,f,vf,vo,vh,(.lit (.bool true)),c,f,vi,vN,X,Q],hU⟩) (
 fV (xX s 94 wl k rd) GY 15 ho.length ([],[]) (av (xX s 94 wl k rd) (dc (xX s 94 wl k rd) rC n0 K n) El) ⟨[c,d,e,f,vC,j,g,u,f,v7,f,v9,vA,vr,vm,vb,vT,vP,vM,f,vf,vo,vh,(.lit (.bool false)),uu,uu,uu,uu,X,Q],hi⟩) (
 fV (xX s 94 wl k rd) GY 12 ho.length ([],[]) (av (xX s 94 wl k rd) (dc (xX s 94 wl k rd) rC n0 K n) El) ⟨[c,d,e,f,vC,j,g,u,f,v7,f,v9,vA,vr,vm,vb,vT,vP,vM,f,vf,vo,vh,vh,uu,T,U,W,X,Q],hi⟩)) (
 K (.exit 0) ⟨[(V.kill n0 c),(V.kill n0 d),(V.kill n0 e),(V.kill n0 o),(V.kill n0 q),(V.kill n0 j),(V.kill n0 g),(V.kill n0 u),.junk,.junk,.junk,.junk,.junk,.junk,.junk,.junk,.junk,.junk,.junk,.junk,.junk,.junk,.junk,.junk,.junk,.junk,.junk,.junk,.junk,.junk],co n0 h8⟩):=kI
theorem DD:av (xX s 94 wl k false) (aD s.P Tryz.f94) Iw (.exit 0) ⟨(c::zz),h⟩ =
 some (.tup [],h):=kR
theorem C3:fV (xX s 94 wl k rd) GY 15 m0 ac (av (xX s 94 wl k rd) (dc (xX s 94 wl k rd) rC n0 K n) El) ⟨[c,d,e,o,q,j,g,u,f,y,A,z,B,F,D,E,v,G,I,L,J,N,M,O,R,T,U,W,X,Q],h⟩ =
 bm (aT O W (.lit (.bool false))) h fun vU hb=>
 cnd vU (
 K .ret ⟨[c,d,e,o,q,j,g,u,f,y,A,z,B,F,D,E,v,G,I,L,J,N,M,O,R,T,U,W,vU,Q],hb⟩) (
 bm (az s.P .add 3 f (.lit (.int .i64 1))) hb fun vS hd=>
 itX (xX s 94 wl k rd) rC n0 K n ⟨[(V.kill n0 c),(V.kill n0 d),(V.kill n0 e),(V.kill n0 o),(V.kill n0 q),(V.kill n0 j),(V.kill n0 g),(V.kill n0 u),(V.kill n0 vS),.junk,.junk,.junk,.junk,.junk,.junk,.junk,.junk,.junk,.junk,.junk,.junk,.junk,.junk,.junk,.junk,.junk,.junk,.junk,.junk,.junk],co n0 hd⟩):=kG
theorem ln (cx:Cx) (s:St):av cx K Iw .ret s=K .ret s:=by kernel_rfl
theorem kU (cx:Cx) (s:St):av cx K El .ret s=K .ret s:=by kernel_rfl
-- names: aaB,aaH,Rx,DD,C3,ln,kU
end
end Go.Ab
