import Derived.Test.YtblpbpnilkfjhaaGreatR6Seat
import Derived.Test.YtblpbpnilkfjhaaGreatAbLibC
set_option linter.unusedVariables false
set_option linter.unusedSimpArgs false
set_option maxRecDepth 100000
set_option linter.unusedVariables false
namespace Go.Ab
open Go.Proofs
section
variable (s:Sys) (k wl:Nat) (m0:Nat) (ac:List Nat×List Nat) (c d g j l q p o e u r z A B F D E G I L N M J O R Q U T Y X Z W t4 t0 t5 t1 t2 t3:V) (h:Hp) (K:Out→St→Option (V×Hp)) (rd:Bool) (n n0:Nat) (zz:List V)
noncomputable def rx:Code:=am (an Tryz.f21) [1,0,1,0,0]
noncomputable def HZ:List Fr:=[.block 0,.seq (am (an Tryz.f21) [1,1])]
noncomputable def HA:Code:=am (an Tryz.f21) [1,0,1,0,0,0,0]
noncomputable def Da:List Fr:=[.seq (am (an Tryz.f21) [1,0,1,0,0,0,1]),.seq (am (an Tryz.f21) [1,0,1,0,0,1])]
theorem acm:ak (xX s 21 wl k false) Tryz.f21 [c] h =
 yI s k wl 21 Tryz.f21 rx h.length HZ k ⟨[(V.kill h.length c),(V.kill h.length uu),(.lit (.bool false)),(.lit (.int .i64 0)),.junk,.junk,.junk,.junk,.junk,.junk,.junk,.junk,.junk,.junk,.junk,.junk,.junk,.junk,.junk,.junk,.junk,(V.kill h.length uu),(V.kill h.length uu),(V.kill h.length uu)],co h.length h⟩:=kB
theorem afK:evF Tryz.prog xM (k+1) wl 21 [c] h=ak (xX (xS k) 21 wl k false) Tryz.f21 [c] h:=by kernel_rfl
theorem aca (P:Program):aD P Tryz.f21 .ret ⟨[c,d,g,j,l,q,p,o,e,u,r,z,A,B,F,D,E,G,I,L,N,M,J,O],h⟩=some (g,h):=by kernel_rfl
theorem Ru:itX (xX s 21 wl k rd) rx n0 K (n+1) ⟨(c::d::g::j::l::q::p::o::e::u::r::zz),h⟩ =
 bp (bw s.P 24 c h) fun v1 h2=>
 bm (az s.P .lss 3 j v1) h2 fun v3 h4=>
 gd v3 (
 bm (az s.P .leq 3 j (.lit (.int .i64 40))) h4 fun v5 h6=>
 fV (xX s 21 wl k rd) HA 7 h.length ([],[]) (av (xX s 21 wl k rd) (dc (xX s 21 wl k rd) rx n0 K n) Da) ⟨(c::d::g::j::j::c::v1::v3::(.lit (.bool true))::j::v5::zz),h6⟩) (
 fV (xX s 21 wl k rd) HA 7 h.length ([],[]) (av (xX s 21 wl k rd) (dc (xX s 21 wl k rd) rx n0 K n) Da) ⟨(c::d::g::j::j::c::v1::v3::(.lit (.bool false))::uu::uu::zz),h4⟩) (
 fV (xX s 21 wl k rd) HA 6 h.length ([],[]) (av (xX s 21 wl k rd) (dc (xX s 21 wl k rd) rx n0 K n) Da) ⟨(c::d::g::j::j::c::v1::v3::v3::uu::r::zz),h4⟩):=kI
theorem MV:av (xX s 21 wl k false) (aD s.P Tryz.f21) HZ (.exit 0) ⟨[c,d,g,j,l,q,p,o,e,u,r,z,A,B,F,D,E,G,I,L,N,M,J,O],h⟩ =
 bp (bw s.P 24 c h) fun v7 h8=>
 bm (az s.P .leq 3 v7 (.lit (.int .i64 40))) h8 fun v9 hA=>
 some (v9,hA):=kR
theorem Kp:fV (xX s 21 wl k rd) HA 7 m0 ac (av (xX s 21 wl k rd) (dc (xX s 21 wl k rd) rx n0 K n) Da) ⟨[c,d,g,j,l,q,p,o,e,u,r,z,A,B,F,D,E,G,I,L,N,M,J,O],h⟩ =
 bm (aT e r (.lit (.bool false))) h fun vA hB=>
 cnd vA (
 bm (al s.P 24 c j hB) hB fun vB hD=>
 bm (aa s.P 101 vB 1) hD fun vC hE=>
 bm (ab s.P 53 vC hE) hE fun vD hG=>
 bp (bw s.P 53 vD hG) fun vI hH=>
 bm (az s.P .gtr 3 vI (.lit (.int .i64 40))) hH fun vF hI=>
 cnd vF (
 K .ret ⟨[c,d,(.lit (.bool false)),j,l,q,p,o,e,u,r,vA,A,B,c,j,vB,vC,vD,vI,vF,M,J,O],hI⟩) (
 bm (az s.P .add 3 j (.lit (.int .i64 1))) hI fun vJ hL=>
 itX (xX s 21 wl k rd) rx n0 K n ⟨[(V.kill n0 c),(V.kill n0 d),(V.kill n0 g),(V.kill n0 vJ),.junk,.junk,.junk,.junk,.junk,.junk,.junk,.junk,.junk,.junk,.junk,.junk,.junk,.junk,.junk,.junk,.junk,(V.kill n0 M),(V.kill n0 J),(V.kill n0 O)],co n0 hL⟩)) (
 K (.exit 0) ⟨[(V.kill n0 c),(V.kill n0 d),(V.kill n0 g),(V.kill n0 j),.junk,.junk,.junk,.junk,.junk,.junk,.junk,.junk,.junk,.junk,.junk,.junk,.junk,.junk,.junk,.junk,.junk,(V.kill n0 M),(V.kill n0 J),(V.kill n0 O)],co n0 hB⟩):=kG
theorem pz (cx:Cx) (s:St):av cx K HZ .ret s=K .ret s:=by kernel_rfl
theorem pR (cx:Cx) (s:St):av cx K Da .ret s=K .ret s:=by kernel_rfl
-- names: acm,aca,Ru,MV,Kp,pz,pR
noncomputable def Hi:Code:=am (an Tryz.f56) [1,0,0]
noncomputable def Dq:List Fr:=[.seq (am (an Tryz.f56) [1,0,1]),.seq (am (an Tryz.f56) [1,1])]
noncomputable def Sx:Code:=am (an Tryz.f56) [1,1,1,0,1,0]
noncomputable def EE:Code:=am (an Tryz.f56) [1,1,1,0,1,0,0]
noncomputable def Ed:Code:=am (an Tryz.f56) [1,1,1,0,1,0,1]
noncomputable def AT:List Fr:=[.block 0,.seq (am (an Tryz.f56) [1,1,1,1])]
noncomputable def rj:Code:=am (an Tryz.f56) [1,1,1,0,1,0,1,0,0,0]
noncomputable def oI:List Fr:=[.seq (am (an Tryz.f56) [1,1,1,0,1,0,1,0,0,1]),.seq (am (an Tryz.f56) [1,1,1,0,1,0,1,0,1]),.block 1]
theorem u2:Sx= .rangeFunc (.tmp 17) #[18,19] EE Ed:=by kernel_rfl
theorem abo:ak (xX s 56 wl k false) Tryz.f56 [c] h =
 bp (aU c h) fun v1 h2=>
 bp (aA s.P 4 h2) fun v3 h4=>
 bm (ab s.P 24 v1 h4) h4 fun v5 h6=>
 bp (bw s.P 24 v5 h6) fun v7 h8=>
 bm (az s.P .gtr 3 v7 (.lit (.int .i64 30))) h8 fun v9 hA=>
 gd v9 (
 yO s k wl 56 Tryz.f56 Hi 6 h4.length ([],[]) Dq ⟨[c,v1,v3,uu,uu,uu,v5,v7,v9,(.lit (.bool true)),uu,uu,uu,uu,uu,uu,uu,uu,uu,uu,uu,uu,uu,uu,uu,uu,uu,uu,uu,uu,uu,uu,uu,uu,uu,uu,uu,uu],hA⟩) (
 bm (ab s.P 24 v1 hA) hA fun vA hB=>
 bp (yC s k wl 56 false true (.fn (.func 98) [] []) [vA,(.fn (.func 99) [] [])] hB) fun vB hD=>
 yO s k wl 56 Tryz.f56 Hi 6 h4.length ([],[]) Dq ⟨[c,v1,v3,uu,uu,uu,v5,v7,v9,(.lit (.bool false)),vA,vB,uu,uu,uu,uu,uu,uu,uu,uu,uu,uu,uu,uu,uu,uu,uu,uu,uu,uu,uu,uu,uu,uu,uu,uu,uu,uu],hD⟩) (
 yO s k wl 56 Tryz.f56 Hi 5 h4.length ([],[]) Dq ⟨[c,v1,v3,uu,uu,uu,v5,v7,v9,v9,uu,uu,uu,uu,uu,uu,uu,uu,uu,uu,uu,uu,uu,uu,uu,uu,uu,uu,uu,uu,uu,uu,uu,uu,uu,uu,uu,uu],hA⟩):=kB
theorem adn:evF Tryz.prog xM (k+1) wl 56 [c] h=ak (xX (xS k) 56 wl k false) Tryz.f56 [c] h:=by kernel_rfl
theorem abz (P:Program):aD P Tryz.f56 .ret ⟨[c,d,g,j,l,q,p,o,e,u,r,z,A,B,F,D,E,G,I,L,N,M,J,O,R,Q,U,T,Y,X,Z,W,t4,t0,t5,t1,t2,t3],h⟩=eg [ab P 4 g h] h:=by kernel_rfl
theorem Hu:yO s k wl 56 Tryz.f56 Hi 6 m0 ac Dq ⟨(c::d::g::j::l::q::p::o::e::u::r::z::A::B::F::D::E::G::zz),h⟩ =
 bm (aT u (.lit (.bool true)) z) h fun vC hE=>
 cnd vC (
 bs (ai s.P wl 4 g (.lit (.bool false)) hE) fun hF=>
 eg [ab s.P 4 g hF] hF) (
 bm (ab s.P 24 d hE) hE fun vE hC=>
 bp (bw s.P 24 vE hC) fun vK hJ=>
 bp (ba s.P 150 vK vK hJ) fun vN hM=>
 bp (aA s.P 150 hM) fun vG hO=>
 bs (ai s.P wl 150 vG vN hO) fun hN=>
 bm (ab s.P 24 d hN) hN fun vH hT=>
 bp (yC s k wl 56 false true (.fn (.func 100) [] []) [vH] hT) fun vP hU=>
 a9 (xX s 56 wl k false) Sx none (av (xX s 56 wl k false) (aD s.P Tryz.f56) AT) ⟨(c::d::g::vG::l::q::p::o::e::u::r::z::vC::vE::vK::vN::vH::vP::zz),hU⟩):=kG
theorem G0:av (xX s 56 wl k false) (aD s.P Tryz.f56) AT .norm ⟨(c::d::g::zz),h⟩ =
 bs (ai s.P wl 4 g (.lit (.bool true)) h) fun hV=>
 eg [ab s.P 4 g hV] hV:=kR
theorem eb:av (xX s 56 wl k rd) K [.seq Ed] .norm ⟨[c,d,g,j,l,q,p,o,e,u,r,z,A,B,F,D,E,G,I,L,N,M,J,O,R,Q,U,T,Y,X,Z,W,t4,t0,t5,t1,t2,t3],h⟩ =
 bm (az s.P .leq 3 l q) h fun vL hP=>
 gd vL (
 fV (xX s 56 wl k rd) rj 8 h.length ([],[]) (av (xX s 56 wl k rd) K oI) ⟨[c,d,g,j,l,q,p,o,e,u,r,z,A,B,F,D,E,G,I,L,l,q,vL,(.lit (.bool true)),uu,uu,uu,uu,Y,X,Z,W,t4,t0,t5,t1,t2,t3],hP⟩) (
 bm (ab s.P 24 d hP) hP fun vQ hZ=>
 bp (bw s.P 24 vQ hZ) fun va hq=>
 bm (az s.P .geq 3 l va) hq fun vW hg=>
 fV (xX s 56 wl k rd) rj 8 h.length ([],[]) (av (xX s 56 wl k rd) K oI) ⟨[c,d,g,j,l,q,p,o,e,u,r,z,A,B,F,D,E,G,I,L,l,q,vL,(.lit (.bool false)),l,vQ,va,vW,Y,X,Z,W,t4,t0,t5,t1,t2,t3],hg⟩) (
 fV (xX s 56 wl k rd) rj 5 h.length ([],[]) (av (xX s 56 wl k rd) K oI) ⟨[c,d,g,j,l,q,p,o,e,u,r,z,A,B,F,D,E,G,I,L,l,q,vL,vL,uu,Q,U,T,Y,X,Z,W,t4,t0,t5,t1,t2,t3],hP⟩):=kR
theorem d8:av (xX s 56 wl k rd) K [.seq EE] .norm ⟨(c::d::g::j::l::q::p::o::e::u::r::z::A::B::F::D::E::G::I::L::zz),h⟩ =
 K .norm ⟨(c::d::g::j::I::L::p::o::e::u::r::z::A::B::F::D::E::G::I::L::zz),h⟩:=kR
theorem Hq:fV (xX s 56 wl k rd) rj 8 m0 ac (av (xX s 56 wl k rd) K oI) ⟨[c,d,g,j,l,q,p,o,e,u,r,z,A,B,F,D,E,G,I,L,N,M,J,O,R,Q,U,T,Y,X,Z,W,t4,t0,t5,t1,t2,t3],h⟩ =
 bm (aT O (.lit (.bool true)) T) h fun vM hW=>
 gd vM (
 fV (xX s 56 wl k rd) rj 14 m0 ac (av (xX s 56 wl k rd) K oI) ⟨[c,d,g,j,l,q,p,o,e,u,r,z,A,B,F,D,E,G,I,L,N,M,J,O,R,Q,U,T,vM,(.lit (.bool true)),uu,uu,uu,uu,t5,t1,t2,t3],hW⟩) (
 bm (ab s.P 150 j hW) hW fun vb ha=>
 bm (al s.P 150 vb l ha) ha fun vc hh=>
 bm (ab s.P 4 vc hh) hh fun vk hc=>
 fV (xX s 56 wl k rd) rj 14 m0 ac (av (xX s 56 wl k rd) K oI) ⟨[c,d,g,j,l,q,p,o,e,u,r,z,A,B,F,D,E,G,I,L,N,M,J,O,R,Q,U,T,vM,(.lit (.bool false)),vb,l,vc,vk,t5,t1,t2,t3],hc⟩) (
 fV (xX s 56 wl k rd) rj 11 m0 ac (av (xX s 56 wl k rd) K oI) ⟨[c,d,g,j,l,q,p,o,e,u,r,z,A,B,F,D,E,G,I,L,N,M,J,O,R,Q,U,T,vM,vM,uu,W,t4,t0,t5,t1,t2,t3],hW⟩):=kG
theorem He:fV (xX s 56 wl k rd) rj 14 m0 ac (av (xX s 56 wl k rd) K oI) ⟨[c,d,g,j,l,q,p,o,e,u,r,z,A,B,F,D,E,G,I,L,N,M,J,O,R,Q,U,T,Y,X,Z,W,t4,t0,t5,t1,t2,t3],h⟩ =
 bm (aT X (.lit (.bool true)) t0) h fun vX hR=>
 cnd vX (
 bs (ai s.P wl 4 g (.lit (.bool false)) hR) fun hz=>
 K .ret ⟨[c,d,g,j,l,q,p,o,e,u,r,z,A,B,F,D,E,G,I,L,N,M,J,O,R,Q,U,T,Y,X,Z,W,t4,t0,vX,t1,t2,t3],hz⟩) (
 bm (ab s.P 150 j hR) hR fun vr hr=>
 bm (al s.P 150 vr l hr) hr fun vs hd=>
 bs (ai s.P wl 4 vs (.lit (.bool true)) hd) fun hi=>
 K .norm ⟨[c,d,g,j,l,q,p,o,e,u,r,z,A,B,F,D,E,G,I,L,N,M,J,O,R,Q,U,T,Y,X,Z,W,t4,t0,vX,vr,l,vs],hi⟩):=kG
theorem mS (cx:Cx) (s:St):av cx K Dq .ret s=K .ret s:=by kernel_rfl
theorem m7 (cx:Cx) (s:St):av cx K AT .ret s=K .ret s:=by kernel_rfl
theorem m9 (cx:Cx) (s:St):av cx K oI .ret s=K .ret s:=by kernel_rfl
-- names: abo,abz,Hu,G0,eb,d8,Hq,He,mS,m7,m9
-- range over a function at [1,1,1,0,1,0]
noncomputable def AR:Code:=am (an Tryz.f57) [1,1,1,0,1,0,0]
noncomputable def Dv:List Fr:=[.block 0,.seq (am (an Tryz.f57) [1,1,1,1])]
theorem WE:ak (xX s 57 wl k false) Tryz.f57 [c] h =
 bp (some (.own h.length 0 0,h++[.rows 0 [] 0 true])) fun v1 h2=>
 bp (yC s k wl 57 false true (.fn (.func 56) [] []) [c] h2) fun v3 h4=>
 bm (vUn .not v3) h4 fun v5 h6=>
 cnd v5 (
 bp (some (.own h6.length 0 0,h6++[.rows 0 [] 0 true])) fun v7 h8=>
 some (v7,h8)) (
 bp (some (.own h6.length 0 0,h6++[.rows 0 [] 0 true])) fun v9 hA=>
 bp (bw s.P 24 c hA) fun vA hB=>
 yI s k wl 57 Tryz.f57 AR hB.length Dv k ⟨[(V.kill hB.length c),(V.kill hB.length uu),(V.kill hB.length v1),(V.kill hB.length v9),(V.kill hB.length uu),(V.kill hB.length c),(V.kill hB.length v3),(V.kill hB.length v5),(V.kill hB.length c),(V.kill hB.length vA),(.lit (.int .i64 0)),.junk,.junk,.junk,.junk,.junk,.junk,.junk,.junk,.junk,.junk,.junk,(V.kill hB.length uu)],co hB.length hB⟩):=kB
theorem Yg:evF Tryz.prog xM (k+1) wl 57 [c] h=ak (xX (xS k) 57 wl k false) Tryz.f57 [c] h:=by kernel_rfl
theorem WF (P:Program):aD P Tryz.f57 .ret ⟨[c,d,g,j,l,q,p,o,e,u,r,z,A,B,F,D,E,G,I,L,N,M,J],h⟩=some (g,h):=by kernel_rfl
theorem Sf:itX (xX s 57 wl k rd) AR n0 K (n+1) ⟨[c,d,g,j,l,q,p,o,e,u,r,z,A,B,F,D,E,G,I,L,N,M,J],h⟩ =
 bm (az s.P .lss 3 r u) h fun vB hD=>
 cnd vB (
 bp (dW (xX s 57 wl k rd) false true (.fn (.func 101) [] []) [c,r] hD) fun vC hE=>
 bm (az s.P .eql 3 vC (.lit (.int .i64 (-1)))) hE fun vD hG=>
 cnd vD (
 bp (aK s.P wl 53 1 [(0,r)] hG) fun vI hH=>
 bp (ng s.P wl 53 53 j vI hH) fun vF hI=>
 bm (az s.P .add 3 r (.lit (.int .i64 1))) hI fun vJ hL=>
 itX (xX s 57 wl k rd) AR n0 K n ⟨[(V.kill n0 c),(V.kill n0 d),(V.kill n0 g),(V.kill n0 vF),(V.kill n0 r),(V.kill n0 q),(V.kill n0 p),(V.kill n0 o),(V.kill n0 e),(V.kill n0 u),(V.kill n0 vJ),.junk,.junk,.junk,.junk,.junk,.junk,.junk,.junk,.junk,.junk,.junk,(V.kill n0 J)],co n0 hL⟩) (
 bm (az s.P .add 3 r (.lit (.int .i64 1))) hG fun vR hN=>
 itX (xX s 57 wl k rd) AR n0 K n ⟨[(V.kill n0 c),(V.kill n0 d),(V.kill n0 g),(V.kill n0 j),(V.kill n0 r),(V.kill n0 q),(V.kill n0 p),(V.kill n0 o),(V.kill n0 e),(V.kill n0 u),(V.kill n0 vR),.junk,.junk,.junk,.junk,.junk,.junk,.junk,.junk,.junk,.junk,.junk,(V.kill n0 J)],co n0 hN⟩)) (
 K (.exit 0) ⟨[(V.kill n0 c),(V.kill n0 d),(V.kill n0 g),(V.kill n0 j),(V.kill n0 l),(V.kill n0 q),(V.kill n0 p),(V.kill n0 o),(V.kill n0 e),(V.kill n0 u),.junk,.junk,.junk,.junk,.junk,.junk,.junk,.junk,.junk,.junk,.junk,.junk,(V.kill n0 J)],co n0 hD⟩):=kI
theorem AU:av (xX s 57 wl k false) (aD s.P Tryz.f57) Dv (.exit 0) ⟨[c,d,g,j,l,q,p,o,e,u,r,z,A,B,F,D,E,G,I,L,N,M,J],h⟩ =
 some (j,h):=kR
theorem iv (cx:Cx) (s:St):av cx K Dv .ret s=K .ret s:=by kernel_rfl
-- names: WE,WF,Sf,AU,iv
theorem YW:ak (xX s 98 wl k false) Tryz.f98 [c,d] h =
 bp (yC s k wl 98 false true (.fn (.func 147) [] []) [c,d] h) fun v1 h2=>
 bm (az s.P .geq 3 v1 (.lit (.int .i64 0))) h2 fun v3 h4=>
 some (v3,h4):=kB
theorem abk:evF Tryz.prog xM (k+1) wl 98 [c,d] h=ak (xX (xS k) 98 wl k false) Tryz.f98 [c,d] h:=by kernel_rfl
-- names: YW,
noncomputable def Iv:Code:=am (an Tryz.f99) [1,0]
noncomputable def Dy:List Fr:=[.seq (am (an Tryz.f99) [1,1])]
theorem aal:ak (xX s 99 wl k false) Tryz.f99 [c] h =
 bp (aU c h) fun v1 h2=>
 bm (aa s.P 101 v1 0) h2 fun v3 h4=>
 bm (ab s.P 3 v3 h4) h4 fun v5 h6=>
 bm (az s.P .lss 3 v5 (.lit (.int .i64 0))) h6 fun v7 h8=>
 gd v7 (
 yO s k wl 99 Tryz.f99 Iv 7 h2.length ([],[]) Dy ⟨[c,v1,(.lit (.bool false)),v3,v5,v7,(.lit (.bool true)),uu,uu,uu,uu],h8⟩) (
 bm (aa s.P 101 v1 0) h8 fun v9 hA=>
 bm (ab s.P 3 v9 hA) hA fun vA hB=>
 bm (az s.P .gtr 3 vA (.lit (.int .i64 20))) hB fun vB hD=>
 yO s k wl 99 Tryz.f99 Iv 7 h2.length ([],[]) Dy ⟨[c,v1,(.lit (.bool false)),v3,v5,v7,(.lit (.bool false)),v9,vA,vB,uu],hD⟩) (
 yO s k wl 99 Tryz.f99 Iv 5 h2.length ([],[]) Dy ⟨[c,v1,(.lit (.bool false)),v3,v5,v7,v7,uu,uu,uu,uu],h8⟩):=kB
theorem abx:evF Tryz.prog xM (k+1) wl 99 [c] h=ak (xX (xS k) 99 wl k false) Tryz.f99 [c] h:=by kernel_rfl
theorem Ev:yO s k wl 99 Tryz.f99 Iv 7 m0 ac Dy ⟨[c,d,g,j,l,q,p,o,e,u,r],h⟩ =
 bm (aT p (.lit (.bool true)) u) h fun vC hE=>
 some (vC,hE):=kG
theorem lm (cx:Cx) (s:St):av cx K Dy .ret s=K .ret s:=by kernel_rfl
-- names: aal,Ev,lm
theorem F2:ak (xX s 100 wl k false) Tryz.f100 [c] h =
 bp (aU c h) fun v1 h2=>
 some ((.fn (.func 148) [] [v1]),h2):=kB
theorem Jq:evF Tryz.prog xM (k+1) wl 100 [c] h=ak (xX (xS k) 100 wl k false) Tryz.f100 [c] h:=by kernel_rfl
-- names: F2,
noncomputable def BB:Code:=am (an Tryz.f147) [1,0,1,0,0]
noncomputable def B8:List Fr:=[.block 0,.seq (am (an Tryz.f147) [1,1])]
theorem Fz:ak (xX s 147 wl k false) Tryz.f147 [c,d] h =
 bp (bw s.P 24 c h) fun v1 h2=>
 yI s k wl 147 Tryz.f147 BB h2.length B8 k ⟨[(V.kill h2.length c),(V.kill h2.length d),(V.kill h2.length uu),(V.kill h2.length uu),(.lit (.int .i64 0)),(V.kill h2.length uu),(V.kill h2.length c),(V.kill h2.length v1),(.lit (.int .i64 0)),.junk,.junk,.junk,.junk,.junk,.junk,.junk,.junk,.junk,.junk],co h2.length h2⟩:=kB
theorem JU:evF Tryz.prog xM (k+1) wl 147 [c,d] h=ak (xX (xS k) 147 wl k false) Tryz.f147 [c,d] h:=by kernel_rfl
theorem FE (P:Program):aD P Tryz.f147 .ret ⟨[c,d,g,j,l,q,p,o,e,u,r,z,A,B,F,D,E,G,I],h⟩=some (l,h):=by kernel_rfl
theorem Nv:itX (xX s 147 wl k rd) BB n0 K (n+1) ⟨[c,d,g,j,l,q,p,o,e,u,r,z,A,B,F,D,E,G,I],h⟩ =
 bm (az s.P .lss 3 e o) h fun v3 h4=>
 cnd v3 (
 bm (al s.P 24 c e h4) h4 fun v5 h6=>
 bm (ab s.P 101 v5 h6) h6 fun v7 h8=>
 bp (dW (xX s 147 wl k rd) false true d [v7] h8) fun v9 hA=>
 cnd v9 (
 K .ret ⟨[c,d,g,j,e,e,p,o,e,v3,e,d,c,e,v5,v7,v9,e,I],hA⟩) (
 bm (az s.P .add 3 e (.lit (.int .i64 1))) hA fun vA hB=>
 itX (xX s 147 wl k rd) BB n0 K n ⟨[(V.kill n0 c),(V.kill n0 d),(V.kill n0 g),(V.kill n0 j),(V.kill n0 l),(V.kill n0 e),(V.kill n0 p),(V.kill n0 o),(V.kill n0 vA),.junk,.junk,.junk,.junk,.junk,.junk,.junk,.junk,.junk,.junk],co n0 hB⟩)) (
 K (.exit 0) ⟨[(V.kill n0 c),(V.kill n0 d),(V.kill n0 g),(V.kill n0 j),(V.kill n0 l),(V.kill n0 q),(V.kill n0 p),(V.kill n0 o),.junk,.junk,.junk,.junk,.junk,.junk,.junk,.junk,.junk,.junk,.junk],co n0 h4⟩):=kI
theorem ny:av (xX s 147 wl k false) (aD s.P Tryz.f147) B8 (.exit 0) ⟨[c,d,g,j,l,q,p,o,e,u,r,z,A,B,F,D,E,G,I],h⟩ =
 some ((.lit (.int .i64 (-1))),h):=kR
theorem fo (cx:Cx) (s:St):av cx K B8 .ret s=K .ret s:=by kernel_rfl
-- names: Fz,FE,Nv,ny,fo
noncomputable def iR:Code:=am (an Tryz.f148) [1,0,0]
noncomputable def lQ:List Fr:=[.block 0]
noncomputable def wu:Code:=am (an Tryz.f148) [1,0,0,1,1,0,0,1,1,0,0]
noncomputable def u3:List Fr:=[.block 2,.block 1,.seq (am (an Tryz.f148) [1,0,0,1,1,1])]
theorem GF:ak (xX s 148 wl k false) Tryz.f148 [c,d] h =
 bm (ab s.P 24 d h) h fun v1 h2=>
 bp (bw s.P 24 v1 h2) fun v3 h4=>
 yI s k wl 148 Tryz.f148 iR h4.length lQ k ⟨[(V.kill h4.length c),(V.kill h4.length d),(V.kill h4.length uu),(V.kill h4.length uu),(V.kill h4.length uu),(V.kill h4.length uu),(V.kill h4.length uu),(V.kill h4.length v1),(V.kill h4.length v3),(.lit (.int .i64 0)),.junk,.junk,.junk,.junk,.junk,.junk,.junk,.junk,.junk,.junk,.junk,.junk,.junk,.junk,.junk,.junk,.junk,.junk],co h4.length h4⟩:=kB
theorem Jf:evF Tryz.prog xM (k+1) wl 148 [c,d] h=ak (xX (xS k) 148 wl k false) Tryz.f148 [c,d] h:=by kernel_rfl
theorem GH (P:Program):aD P Tryz.f148 .ret ⟨[c,d,g,j,l,q,p,o,e,u,r,z,A,B,F,D,E,G,I,L,N,M,J,O,R,Q,U,T],h⟩=some (.tup [],h):=by kernel_rfl
theorem Fc:itX (xX s 148 wl k rd) iR n0 K (n+1) ⟨[c,d,g,j,l,q,p,o,e,u,r,z,A,B,F,D,E,G,I,L,N,M,J,O,R,Q,U,T],h⟩ =
 bm (az s.P .lss 3 u e) h fun v5 h6=>
 cnd v5 (
 bm (al s.P 24 o u h6) h6 fun v7 h8=>
 bm (ab s.P 101 v7 h8) h8 fun v9 hA=>
 bp (aA s.P 101 hA) fun vA hB=>
 bs (ai s.P wl 101 vA v9 hB) fun hX=>
 bm (aa s.P 101 vA 1) hX fun vY hK=>
 bm (ab s.P 53 vY hK) hK fun vO hF=>
 bp (bw s.P 53 vO hF) fun vE hC=>
 itX (xX s 148 wl k rd) wu hC.length (av (xX s 148 wl k rd) (dc (xX s 148 wl k rd) iR n0 K n) u3) k ⟨[(V.kill hC.length c),(V.kill hC.length d),(V.kill hC.length g),(V.kill hC.length u),(V.kill hC.length vA),(V.kill hC.length q),(V.kill hC.length p),(V.kill hC.length o),(V.kill hC.length e),(V.kill hC.length u),(V.kill hC.length v5),(V.kill hC.length u),(V.kill hC.length v7),(V.kill hC.length v9),(V.kill hC.length vY),(V.kill hC.length vO),(V.kill hC.length vE),(.lit (.int .i64 0)),.junk,.junk,.junk,.junk,.junk,.junk,.junk,.junk,.junk,(V.kill hC.length T)],co hC.length hC⟩) (
 K (.exit 0) ⟨[(V.kill n0 c),(V.kill n0 d),(V.kill n0 g),(V.kill n0 j),(V.kill n0 l),(V.kill n0 q),(V.kill n0 p),(V.kill n0 o),(V.kill n0 e),.junk,.junk,.junk,.junk,.junk,.junk,.junk,.junk,.junk,.junk,.junk,.junk,.junk,.junk,.junk,.junk,.junk,.junk,.junk],co n0 h6⟩):=kI
theorem nL:av (xX s 148 wl k false) (aD s.P Tryz.f148) lQ (.exit 0) ⟨(c::zz),h⟩ =
 some (.tup [],h):=kR
theorem Gt:itX (xX s 148 wl k rd) wu n0 K (n+1) ⟨[c,d,g,j,l,q,p,o,e,u,r,z,A,B,F,D,E,G,I,L,N,M,J,O,R,Q,U,T],h⟩ =
 bm (az s.P .lss 3 G E) h fun vK hJ=>
 cnd vK (
 bm (al s.P 53 D G hJ) hJ fun vN hM=>
 bm (ab s.P 3 vN hM) hM fun vG hO=>
 bp (dW (xX s 148 wl k rd) false true c [vG,j] hO) fun vl hs=>
 bm (vUn .not vl) hs fun vt hS=>
 cnd vt (
 K .ret ⟨[c,d,g,j,l,q,vG,o,e,u,r,z,A,B,F,D,E,G,vK,vN,vG,c,vG,j,vl,vt,U,T],hS⟩) (
 bm (az s.P .add 3 G (.lit (.int .i64 1))) hS fun vS hV=>
 itX (xX s 148 wl k rd) wu n0 K n ⟨[(V.kill n0 c),(V.kill n0 d),(V.kill n0 g),(V.kill n0 j),(V.kill n0 l),(V.kill n0 q),(V.kill n0 vG),(V.kill n0 o),(V.kill n0 e),(V.kill n0 u),(V.kill n0 r),(V.kill n0 z),(V.kill n0 A),(V.kill n0 B),(V.kill n0 F),(V.kill n0 D),(V.kill n0 E),(V.kill n0 vS),.junk,.junk,.junk,.junk,.junk,.junk,.junk,.junk,.junk,(V.kill n0 T)],co n0 hV⟩)) (
 K (.exit 2) ⟨[(V.kill n0 c),(V.kill n0 d),(V.kill n0 g),(V.kill n0 j),(V.kill n0 l),(V.kill n0 q),(V.kill n0 p),(V.kill n0 o),(V.kill n0 e),(V.kill n0 u),(V.kill n0 r),(V.kill n0 z),(V.kill n0 A),(V.kill n0 B),(V.kill n0 F),(V.kill n0 D),(V.kill n0 E),.junk,.junk,.junk,.junk,.junk,.junk,.junk,.junk,.junk,.junk,(V.kill n0 T)],co n0 hJ⟩):=kI
theorem nE:av (xX s 148 wl k rd) (dc (xX s 148 wl k rd) iR n0 K n) u3 (.exit 2) ⟨[c,d,g,j,l,q,p,o,e,u,r,z,A,B,F,D,E,G,I,L,N,M,J,O,R,Q,U,T],h⟩ =
 bm (az s.P .add 3 u (.lit (.int .i64 1))) h fun vL hP=>
 itX (xX s 148 wl k rd) iR n0 K n ⟨[(V.kill n0 c),(V.kill n0 d),(V.kill n0 g),(V.kill n0 j),(V.kill n0 l),(V.kill n0 q),(V.kill n0 p),(V.kill n0 o),(V.kill n0 e),(V.kill n0 vL),.junk,.junk,.junk,.junk,.junk,.junk,.junk,.junk,.junk,.junk,.junk,.junk,.junk,.junk,.junk,.junk,.junk,.junk],co n0 hP⟩:=kR
theorem fk (cx:Cx) (s:St):av cx K lQ .ret s=K .ret s:=by kernel_rfl
theorem fp (cx:Cx) (s:St):av cx K u3 .ret s=K .ret s:=by kernel_rfl
-- names: GF,GH,Fc,nL,Gt,nE,fk,fp
noncomputable def Hj:Code:=am (an Tryz.f97) [1,0,1,0,0]
noncomputable def Hc:List Fr:=[.block 0,.seq (am (an Tryz.f97) [1,1])]
theorem Yj:ak (xX s 97 wl k false) Tryz.f97 [c,d] h =
 bp (bw s.P 53 c h) fun v1 h2=>
 yI s k wl 97 Tryz.f97 Hj h2.length Hc k ⟨[(V.kill h2.length c),(V.kill h2.length d),(V.kill h2.length uu),(V.kill h2.length uu),(.lit (.int .i64 0)),(V.kill h2.length uu),(V.kill h2.length c),(V.kill h2.length v1),(.lit (.int .i64 0)),.junk,.junk,.junk,.junk,.junk,.junk,.junk,.junk,.junk,.junk],co h2.length h2⟩:=kB
theorem abl:evF Tryz.prog xM (k+1) wl 97 [c,d] h=ak (xX (xS k) 97 wl k false) Tryz.f97 [c,d] h:=by kernel_rfl
theorem W6 (P:Program):aD P Tryz.f97 .ret ⟨[c,d,g,j,l,q,p,o,e,u,r,z,A,B,F,D,E,G,I],h⟩=some (l,h):=by kernel_rfl
theorem Q7:itX (xX s 97 wl k rd) Hj n0 K (n+1) ⟨[c,d,g,j,l,q,p,o,e,u,r,z,A,B,F,D,E,G,I],h⟩ =
 bm (az s.P .lss 3 e o) h fun v3 h4=>
 cnd v3 (
 bm (al s.P 53 c e h4) h4 fun v5 h6=>
 bm (ab s.P 3 v5 h6) h6 fun v7 h8=>
 bp (dW (xX s 97 wl k rd) false true d [v7] h8) fun v9 hA=>
 cnd v9 (
 K .ret ⟨[c,d,g,j,e,e,p,o,e,v3,e,d,c,e,v5,v7,v9,e,I],hA⟩) (
 bm (az s.P .add 3 e (.lit (.int .i64 1))) hA fun vA hB=>
 itX (xX s 97 wl k rd) Hj n0 K n ⟨[(V.kill n0 c),(V.kill n0 d),(V.kill n0 g),(V.kill n0 j),(V.kill n0 l),(V.kill n0 e),(V.kill n0 p),(V.kill n0 o),(V.kill n0 vA),.junk,.junk,.junk,.junk,.junk,.junk,.junk,.junk,.junk,.junk],co n0 hB⟩)) (
 K (.exit 0) ⟨[(V.kill n0 c),(V.kill n0 d),(V.kill n0 g),(V.kill n0 j),(V.kill n0 l),(V.kill n0 q),(V.kill n0 p),(V.kill n0 o),.junk,.junk,.junk,.junk,.junk,.junk,.junk,.junk,.junk,.junk,.junk],co n0 h4⟩):=kI
theorem ER:av (xX s 97 wl k false) (aD s.P Tryz.f97) Hc (.exit 0) ⟨[c,d,g,j,l,q,p,o,e,u,r,z,A,B,F,D,E,G,I],h⟩ =
 some ((.lit (.int .i64 (-1))),h):=kR
theorem lN (cx:Cx) (s:St):av cx K Hc .ret s=K .ret s:=by kernel_rfl
-- names: Yj,W6,Q7,ER,lN
theorem ZK:ak (xX s 55 wl k false) Tryz.f55 [c,d] h =
 bp (yC s k wl 55 false true (.fn (.func 97) [] []) [c,d] h) fun v1 h2=>
 bm (az s.P .geq 3 v1 (.lit (.int .i64 0))) h2 fun v3 h4=>
 some (v3,h4):=kB
theorem abm:evF Tryz.prog xM (k+1) wl 55 [c,d] h=ak (xX (xS k) 55 wl k false) Tryz.f55 [c,d] h:=by kernel_rfl
-- names: ZK,
theorem XR:ak (xX s 52 wl k false) Tryz.f52 [c,d] h =
 bp (yC s k wl 52 false true (.fn (.func 96) [] []) [c,d] h) fun v1 h2=>
 bm (az s.P .geq 3 v1 (.lit (.int .i64 0))) h2 fun v3 h4=>
 some (v3,h4):=kB
theorem abe:evF Tryz.prog xM (k+1) wl 52 [c,d] h=ak (xX (xS k) 52 wl k false) Tryz.f52 [c,d] h:=by kernel_rfl
-- names: XR,
noncomputable def Hx:Code:=am (an Tryz.f96) [1,0,1,0,0]
noncomputable def Hy:List Fr:=[.block 0,.seq (am (an Tryz.f96) [1,1])]
theorem aar:ak (xX s 96 wl k false) Tryz.f96 [c,d] h =
 bp (bw s.P 28 c h) fun v1 h2=>
 yI s k wl 96 Tryz.f96 Hx h2.length Hy k ⟨[(V.kill h2.length c),(V.kill h2.length d),(V.kill h2.length uu),(V.kill h2.length uu),(.lit (.int .i64 0)),(V.kill h2.length uu),(V.kill h2.length c),(V.kill h2.length v1),(.lit (.int .i64 0)),.junk,.junk,.junk,.junk,.junk,.junk,.junk,.junk,.junk,.junk],co h2.length h2⟩:=kB
theorem abA:evF Tryz.prog xM (k+1) wl 96 [c,d] h=ak (xX (xS k) 96 wl k false) Tryz.f96 [c,d] h:=by kernel_rfl
theorem W8 (P:Program):aD P Tryz.f96 .ret ⟨[c,d,g,j,l,q,p,o,e,u,r,z,A,B,F,D,E,G,I],h⟩=some (l,h):=by kernel_rfl
theorem Rj:itX (xX s 96 wl k rd) Hx n0 K (n+1) ⟨[c,d,g,j,l,q,p,o,e,u,r,z,A,B,F,D,E,G,I],h⟩ =
 bm (az s.P .lss 3 e o) h fun v3 h4=>
 cnd v3 (
 bm (al s.P 28 c e h4) h4 fun v5 h6=>
 bm (ab s.P 57 v5 h6) h6 fun v7 h8=>
 bp (dW (xX s 96 wl k rd) false true d [v7] h8) fun v9 hA=>
 cnd v9 (
 K .ret ⟨[c,d,g,j,e,e,p,o,e,v3,e,d,c,e,v5,v7,v9,e,I],hA⟩) (
 bm (az s.P .add 3 e (.lit (.int .i64 1))) hA fun vA hB=>
 itX (xX s 96 wl k rd) Hx n0 K n ⟨[(V.kill n0 c),(V.kill n0 d),(V.kill n0 g),(V.kill n0 j),(V.kill n0 l),(V.kill n0 e),(V.kill n0 p),(V.kill n0 o),(V.kill n0 vA),.junk,.junk,.junk,.junk,.junk,.junk,.junk,.junk,.junk,.junk],co n0 hB⟩)) (
 K (.exit 0) ⟨[(V.kill n0 c),(V.kill n0 d),(V.kill n0 g),(V.kill n0 j),(V.kill n0 l),(V.kill n0 q),(V.kill n0 p),(V.kill n0 o),.junk,.junk,.junk,.junk,.junk,.junk,.junk,.junk,.junk,.junk,.junk],co n0 h4⟩):=kI
theorem C1:av (xX s 96 wl k false) (aD s.P Tryz.f96) Hy (.exit 0) ⟨[c,d,g,j,l,q,p,o,e,u,r,z,A,B,F,D,E,G,I],h⟩ =
 some ((.lit (.int .i64 (-1))),h):=kR
theorem kL (cx:Cx) (s:St):av cx K Hy .ret s=K .ret s:=by kernel_rfl
-- names: aar,W8,Rj,C1,kL
noncomputable def G1:Code:=am (an Tryz.f61) [1,0,1,0,0]
noncomputable def HF:List Fr:=[.block 0,.seq (am (an Tryz.f61) [1,1])]
theorem ae4:ak (xX s 61 wl k false) Tryz.f61 [c,d] h =
 bp (bw s.P 53 c h) fun v1 h2=>
 yI s k wl 61 Tryz.f61 G1 h2.length HF k ⟨[(V.kill h2.length c),(V.kill h2.length d),(V.kill h2.length uu),(V.kill h2.length uu),(.lit (.int .i64 0)),(V.kill h2.length uu),(V.kill h2.length c),(V.kill h2.length v1),(.lit (.int .i64 0)),.junk,.junk,.junk,.junk,.junk,.junk,.junk,.junk,.junk,.junk],co h2.length h2⟩:=kB
theorem afv:evF Tryz.prog xM (k+1) wl 61 [c,d] h=ak (xX (xS k) 61 wl k false) Tryz.f61 [c,d] h:=by kernel_rfl
theorem abZ (P:Program):aD P Tryz.f61 .ret ⟨[c,d,g,j,l,q,p,o,e,u,r,z,A,B,F,D,E,G,I],h⟩=some (l,h):=by kernel_rfl
theorem SE:itX (xX s 61 wl k rd) G1 n0 K (n+1) ⟨[c,d,g,j,l,q,p,o,e,u,r,z,A,B,F,D,E,G,I],h⟩ =
 bm (az s.P .lss 3 e o) h fun v3 h4=>
 cnd v3 (
 bm (al s.P 53 c e h4) h4 fun v5 h6=>
 bm (ab s.P 3 v5 h6) h6 fun v7 h8=>
 bm (az s.P .eql 3 d v7) h8 fun v9 hA=>
 cnd v9 (
 K .ret ⟨[c,d,g,j,e,e,p,o,e,v3,e,d,c,e,v5,v7,v9,e,I],hA⟩) (
 bm (az s.P .add 3 e (.lit (.int .i64 1))) hA fun vA hB=>
 itX (xX s 61 wl k rd) G1 n0 K n ⟨[(V.kill n0 c),(V.kill n0 d),(V.kill n0 g),(V.kill n0 j),(V.kill n0 l),(V.kill n0 e),(V.kill n0 p),(V.kill n0 o),(V.kill n0 vA),.junk,.junk,.junk,.junk,.junk,.junk,.junk,.junk,.junk,.junk],co n0 hB⟩)) (
 K (.exit 0) ⟨[(V.kill n0 c),(V.kill n0 d),(V.kill n0 g),(V.kill n0 j),(V.kill n0 l),(V.kill n0 q),(V.kill n0 p),(V.kill n0 o),.junk,.junk,.junk,.junk,.junk,.junk,.junk,.junk,.junk,.junk,.junk],co n0 h4⟩):=kI
theorem MC:av (xX s 61 wl k false) (aD s.P Tryz.f61) HF (.exit 0) ⟨[c,d,g,j,l,q,p,o,e,u,r,z,A,B,F,D,E,G,I],h⟩ =
 some ((.lit (.int .i64 (-1))),h):=kR
theorem pu (cx:Cx) (s:St):av cx K HF .ret s=K .ret s:=by kernel_rfl
-- names: ae4,abZ,SE,MC,pu
noncomputable def Nl:Code:=am (an Tryz.f101) [1,0,1,0,1,0]
noncomputable def ui:Code:=am (an Tryz.f101) [1,0,1,0,1,0,0]
noncomputable def wL:Code:=am (an Tryz.f101) [1,0,1,0,1,0,1]
noncomputable def pC:List Fr:=[.block 0,.seq (am (an Tryz.f101) [1,1])]
theorem pN:Nl= .rangeFunc (.tmp 10) #[11,12] ui wL:=by kernel_rfl
theorem PW:ak (xX s 101 wl k false) Tryz.f101 [c,d] h =
 bp (aU d h) fun v1 h2=>
 bp (aA s.P 3 h2) fun v3 h4=>
 bp (yC s k wl 101 false true (.fn (.func 56) [] []) [c] h4) fun v5 h6=>
 cnd v5 (
 bp (yC s k wl 101 false true (.fn (.func 100) [] []) [c] h6) fun v7 h8=>
 a9 (xX s 101 wl k false) Nl none (av (xX s 101 wl k false) (aD s.P Tryz.f101) pC) ⟨[c,d,uu,v1,v3,uu,uu,c,v5,c,v7,uu,uu,uu,uu,uu,uu],h8⟩) (
 bs (ai s.P wl 3 v3 (.lit (.int .i64 (-1))) h6) fun h9=>
 eg [ab s.P 3 v3 h9] h9):=kB
theorem Wq:evF Tryz.prog xM (k+1) wl 101 [c,d] h=ak (xX (xS k) 101 wl k false) Tryz.f101 [c,d] h:=by kernel_rfl
theorem N5 (P:Program):aD P Tryz.f101 .ret ⟨[c,d,g,j,l,q,p,o,e,u,r,z,A,B,F,D,E],h⟩=eg [ab P 3 l h] h:=by kernel_rfl
theorem Cl:av (xX s 101 wl k false) (aD s.P Tryz.f101) pC .norm ⟨(c::d::g::j::l::zz),h⟩ =
 bs (ai s.P wl 3 l (.lit (.int .i64 (-1))) h) fun hA=>
 eg [ab s.P 3 l hA] hA:=kR
theorem dQ:av (xX s 101 wl k rd) K [.seq wL] .norm ⟨[c,d,g,j,l,q,p,o,e,u,r,z,A,B,F,D,E],h⟩ =
 bm (ab s.P 3 j h) h fun vA hB=>
 bm (az s.P .eql 3 q vA) hB fun vB hD=>
 cnd vB (
 bs (ai s.P wl 3 l p hD) fun hK=>
 K .ret ⟨[c,d,g,j,l,q,p,o,e,u,r,z,A,q,vA,vB,p],hK⟩) (
 K .norm ⟨[c,d,g,j,l,q,p,o,e,u,r,z,A,q,vA,vB,E],hD⟩):=kR
theorem dM:av (xX s 101 wl k rd) K [.seq ui] .norm ⟨[c,d,g,j,l,q,p,o,e,u,r,z,A,B,F,D,E],h⟩ =
 K .norm ⟨[c,d,g,j,l,z,A,o,e,u,r,z,A,B,F,D,E],h⟩:=kR
theorem lZ (cx:Cx) (s:St):av cx K pC .ret s=K .ret s:=by kernel_rfl
-- names: PW,N5,Cl,dQ,dM,lZ
-- range over a function at [1,0,1,0,1,0]
end
end Go.Ab
set_option maxRecDepth 100000
set_option linter.unusedVariables false
namespace Go.Ab
open Go.Proofs
section
variable (s:Sys) (k wl:Nat) (m0:Nat) (ac:List Nat×List Nat) (c d e o g y p l j v r u z q A D E F B L G M N I O J Q R U W T t2 t3 t4 Y Z t0 t1 t7 t5 t8 t9 t6 X ta tb tc td te tf tg th ti tj:V) (h:Hp) (K:Out→St→Option (V×Hp)) (rd:Bool) (n n0:Nat) (zz:List V)
noncomputable def Ch:Code:=am (an Tryz.f146) [1,0]
noncomputable def wy:List Fr:=[.seq (am (an Tryz.f146) [1,1])]
theorem TC:ak (xX s 146 wl k false) Tryz.f146 [c,d] h =
 bp (aU c h) fun v1 h2=>
 bm (ab s.P 24 v1 h2) h2 fun v3 h4=>
 bp (yC s k wl 146 false true (.fn (.func 56) [] []) [v3] h4) fun v5 h6=>
 gd v5 (
 bp (yC s k wl 146 false true (.fn (.func 170) [] []) [d,(.fn (.func 171) [] [v1])] h6) fun v7 h8=>
 bm (vUn .not v7) h8 fun v9 hA=>
 yO s k wl 146 Tryz.f146 Ch 7 h2.length ([],[]) wy ⟨[c,d,v1,uu,(.lit (.bool false)),v3,v5,(.lit (.bool true)),d,(.fn (.func 171) [] [v1]),v7,v9,uu],hA⟩) (
 yO s k wl 146 Tryz.f146 Ch 7 h2.length ([],[]) wy ⟨[c,d,v1,uu,(.lit (.bool false)),v3,v5,(.lit (.bool false)),uu,uu,uu,uu,uu],h6⟩) (
 yO s k wl 146 Tryz.f146 Ch 4 h2.length ([],[]) wy ⟨[c,d,v1,uu,(.lit (.bool false)),v3,v5,v5,uu,uu,uu,uu,uu],h6⟩):=kB
theorem ZD:evF Tryz.prog xM (k+1) wl 146 [c,d] h=ak (xX (xS k) 146 wl k false) Tryz.f146 [c,d] h:=by kernel_rfl
theorem GM:yO s k wl 146 Tryz.f146 Ch 7 m0 ac wy ⟨[c,d,e,o,g,y,p,l,j,v,r,u,z],h⟩ =
 bm (aT l u (.lit (.bool false))) h fun vA hB=>
 some (vA,hB):=kG
theorem nD (cx:Cx) (s:St):av cx K wy .ret s=K .ret s:=by kernel_rfl
-- names: TC,GM,nD
noncomputable def BQ:Code:=am (an Tryz.f162) [1,0,0]
noncomputable def wT:List Fr:=[.seq (am (an Tryz.f162) [1,0,1]),.seq (am (an Tryz.f162) [1,1])]
theorem Z5:ak (xX s 162 wl k false) Tryz.f162 [c,d] h =
 bp (aA s.P 194 h) fun v1 h2=>
 bp (bw s.P 63 d h2) fun v3 h4=>
 bm (az s.P .eql 3 v3 (.lit (.int .i64 0))) h4 fun v5 h6=>
 gd v5 (
 yO s k wl 162 Tryz.f162 BQ 8 h2.length ([],[]) wT ⟨[c,d,uu,uu,v1,uu,uu,d,v3,v5,(.lit (.bool true)),uu,uu,uu,uu,uu,uu,uu,uu,uu,uu,uu,uu,uu,uu,uu,uu,uu,uu,uu,uu,uu,uu,uu,uu,uu,uu,uu,uu,uu,uu,uu,uu,uu,uu,uu,uu,uu,uu,uu,uu,uu,uu,uu],h6⟩) (
 bp (yC s k wl 162 false true (.fn (.func 146) [] []) [c,d] h6) fun v7 h8=>
 bm (vUn .not v7) h8 fun v9 hA=>
 yO s k wl 162 Tryz.f162 BQ 8 h2.length ([],[]) wT ⟨[c,d,uu,uu,v1,uu,uu,d,v3,v5,(.lit (.bool false)),c,d,v7,v9,uu,uu,uu,uu,uu,uu,uu,uu,uu,uu,uu,uu,uu,uu,uu,uu,uu,uu,uu,uu,uu,uu,uu,uu,uu,uu,uu,uu,uu,uu,uu,uu,uu,uu,uu,uu,uu,uu,uu],hA⟩) (
 yO s k wl 162 Tryz.f162 BQ 5 h2.length ([],[]) wT ⟨[c,d,uu,uu,v1,uu,uu,d,v3,v5,v5,uu,uu,uu,uu,uu,uu,uu,uu,uu,uu,uu,uu,uu,uu,uu,uu,uu,uu,uu,uu,uu,uu,uu,uu,uu,uu,uu,uu,uu,uu,uu,uu,uu,uu,uu,uu,uu,uu,uu,uu,uu,uu,uu],h6⟩):=kB
theorem acd:evF Tryz.prog xM (k+1) wl 162 [c,d] h=ak (xX (xS k) 162 wl k false) Tryz.f162 [c,d] h:=by kernel_rfl
theorem MH:yO s k wl 162 Tryz.f162 BQ 8 m0 ac wT ⟨[c,d,e,o,g,y,p,l,j,v,r,u,z,q,A,D,E,F,B,L,G,M,N,I,O,J,Q,R,U,W,T,t2,t3,t4,Y,Z,t0,t1,t7,t5,t8,t9,t6,X,ta,tb,tc,td,te,tf,tg,th,ti,tj],h⟩ =
 bm (aT r (.lit (.bool true)) A) h fun vA hB=>
 cnd vA (
 bm (bc s.P 194 []) hB fun vB hD=>
 bs (ai s.P wl 194 g vB hD) fun hK=>
 eg [ab s.P 194 g hK] hK) (
 bp (bw s.P 63 d hB) fun vO hF=>
 bm (az s.P .sub 3 vO (.lit (.int .i64 1))) hF fun vE hC=>
 bm (al s.P 63 d vE hC) hC fun vK hJ=>
 bm (ab s.P 129 vK hJ) hJ fun vN hM=>
 bp (aA s.P 129 hM) fun vG hO=>
 bs (ai s.P wl 129 vG vN hO) fun hN=>
 bm (aa s.P 129 vG 0) hN fun vH hT=>
 bm (ab s.P 3 vH hT) hT fun vP hU=>
 bm (al s.P 24 c vP hU) hU fun vm he=>
 bm (ab s.P 101 vm he) he fun vu h34=>
 bp (aA s.P 101 h34) fun vn hb=>
 bs (ai s.P wl 101 vn vu hb) fun hq=>
 bm (aa s.P 129 vG 1) hq fun vW hg=>
 bm (ab s.P 3 vW hg) hg fun vM hW=>
 bm (aa s.P 101 vn 0) hW fun vb ha=>
 bm (ab s.P 3 vb ha) ha fun vc hh=>
 bm (az s.P .lss 3 vM vc) hh fun vk hc=>
 cnd vk (
 bm (aa s.P 129 vG 0) hc fun vX hR=>
 bm (ab s.P 3 vX hR) hR fun vo hj=>
 bm (bc s.P 194 [(0,(.lit (.int .i64 1))),(1,vo)]) hj fun vT ht=>
 bs (ai s.P wl 194 g vT ht) fun hd=>
 eg [ab s.P 194 g hd] hd) (
 bm (aa s.P 129 vG 2) hc fun vv h56=>
 bm (ab s.P 3 vv h56) h56 fun v57 h58=>
 bm (aa s.P 101 vn 1) h58 fun vd hk=>
 bm (ab s.P 53 vd hk) hk fun vw h62=>
 bp (bw s.P 53 vw h62) fun vx hl=>
 bm (az s.P .lss 3 v57 vx) hl fun vU hf=>
 cnd vU (
 bm (aa s.P 101 vn 1) hf fun vy h68=>
 bm (ab s.P 53 vy h68) h68 fun vz hu=>
 bm (aa s.P 129 vG 2) hu fun ve hm=>
 bm (ab s.P 3 ve hm) hm fun v73 h74=>
 bm (al s.P 53 vz v73 h74) h74 fun v75 h76=>
 bm (ab s.P 3 v75 h76) h76 fun v77 h78=>
 bm (bc s.P 194 [(0,(.lit (.int .i64 2))),(1,v77)]) h78 fun v79 h80=>
 bs (ai s.P wl 194 g v79 h80) fun h81=>
 eg [ab s.P 194 g h81] h81) (
 bm (aa s.P 129 vG 0) hf fun v82 h83=>
 bm (ab s.P 3 v82 h83) h83 fun v84 h85=>
 bm (bc s.P 194 [(0,(.lit (.int .i64 3))),(1,v84)]) h85 fun v86 h87=>
 bs (ai s.P wl 194 g v86 h87) fun hn=>
 eg [ab s.P 194 g hn] hn))):=kG
theorem uP (cx:Cx) (s:St):av cx K wT .ret s=K .ret s:=by kernel_rfl
-- names: Z5,MH,uP
theorem YG:ak (xX s 163 wl k false) Tryz.f163 [c,d] h =
 bp (some (.own h.length 0 0,h++[.rows 0 [] 0 true])) fun v1 h2=>
 bp (yC s k wl 163 false true (.fn (.func 79) [] []) [d] h2) fun v3 h4=>
 bp (yC s k wl 163 false true (.fn (.func 182) [] []) [] h4) fun v5 h6=>
 bp (yC s k wl 163 false true (.fn (.func 162) [] []) [c,d] h6) fun v7 h8=>
 bm (wj s.P 194 v7 0) h8 fun v9 hA=>
 bm (fH s.P 201 v5 v9 true hA) hA fun vA hB=>
 bm (ar vA 0) hB fun vB hD=>
 bm (ar vA 1) hD fun vC hE=>
 cnd vC (
 bp (yC s k wl 163 false true vB [v3] hE) fun vD hG=>
 some (vD,hG)) (
 some (v3,hE)):=kB
theorem adq:evF Tryz.prog xM (k+1) wl 163 [c,d] h=ak (xX (xS k) 163 wl k false) Tryz.f163 [c,d] h:=by kernel_rfl
-- names: YG,
theorem T1:ak (xX s 170 wl k false) Tryz.f170 [c,d] h =
 bp (yC s k wl 170 false true (.fn (.func 206) [] []) [c,d] h) fun v1 h2=>
 bm (az s.P .geq 3 v1 (.lit (.int .i64 0))) h2 fun v3 h4=>
 some (v3,h4):=kB
theorem ZT:evF Tryz.prog xM (k+1) wl 170 [c,d] h=ak (xX (xS k) 170 wl k false) Tryz.f170 [c,d] h:=by kernel_rfl
-- names: T1,
noncomputable def cz:Code:=am (an Tryz.f171) [1,1,1,0]
noncomputable def cg:List Fr:=[.seq (am (an Tryz.f171) [1,1,1,1])]
theorem UN:ak (xX s 171 wl k false) Tryz.f171 [c,d] h =
 bp (aU c h) fun v1 h2=>
 bm (aa s.P 129 v1 0) h2 fun v3 h4=>
 bm (ab s.P 3 v3 h4) h4 fun v5 h6=>
 bm (ab s.P 24 d h6) h6 fun v7 h8=>
 bp (bw s.P 24 v7 h8) fun v9 hA=>
 bm (az s.P .sub 3 v9 (.lit (.int .i64 1))) hA fun vA hB=>
 bp (yC s k wl 171 false true (.fn (.func 172) [] []) [v5,vA] hB) fun vB hD=>
 bm (vUn .not vB) hD fun vC hE=>
 cnd vC (
 some ((.lit (.bool true)),hE)) (
 bm (ab s.P 24 d hE) hE fun vD hG=>
 bm (aa s.P 129 v1 0) hG fun vI hH=>
 bm (ab s.P 3 vI hH) hH fun vF hI=>
 bm (al s.P 24 vD vF hI) hI fun vJ hL=>
 bm (ab s.P 101 vJ hL) hL fun vR hN=>
 bp (aA s.P 101 hN) fun vH hT=>
 bs (ai s.P wl 101 vH vR hT) fun hS=>
 bm (aa s.P 129 v1 1) hS fun vS hV=>
 bm (ab s.P 3 vS hV) hV fun vL hP=>
 bm (aa s.P 101 vH 0) hP fun vQ hZ=>
 bm (ab s.P 3 vQ hZ) hZ fun va hq=>
 bp (yC s k wl 171 false true (.fn (.func 172) [] []) [vL,va] hq) fun vW hg=>
 bm (vUn .not vW) hg fun vM hW=>
 gd vM (
 yO s k wl 171 Tryz.f171 cz 14 hS.length ([],[]) cg ⟨[c,d,v1,(.lit (.bool false)),vH,v3,v5,v7,v9,vA,vB,vC,vD,vI,vF,vJ,vR,vS,vL,vQ,va,vW,vM,(.lit (.bool true)),uu,uu,uu,uu,uu,uu,uu,uu,uu,uu,uu,uu,uu,uu,uu,uu,uu,uu,uu,uu],hW⟩) (
 bm (aa s.P 129 v1 2) hW fun vb ha=>
 bm (ab s.P 3 vb ha) ha fun vc hh=>
 bm (aa s.P 101 vH 1) hh fun vk hc=>
 bm (ab s.P 53 vk hc) hc fun vX hR=>
 bp (bw s.P 53 vX hR) fun vo hj=>
 bp (yC s k wl 171 false true (.fn (.func 172) [] []) [vc,vo] hj) fun vT ht=>
 bm (vUn .not vT) ht fun v54 hi=>
 yO s k wl 171 Tryz.f171 cz 14 hS.length ([],[]) cg ⟨[c,d,v1,(.lit (.bool false)),vH,v3,v5,v7,v9,vA,vB,vC,vD,vI,vF,vJ,vR,vS,vL,vQ,va,vW,vM,(.lit (.bool false)),vb,vc,vk,vX,vo,vT,v54,uu,uu,uu,uu,uu,uu,uu,uu,uu,uu,uu,uu,uu],hi⟩) (
 yO s k wl 171 Tryz.f171 cz 8 hS.length ([],[]) cg ⟨[c,d,v1,(.lit (.bool false)),vH,v3,v5,v7,v9,vA,vB,vC,vD,vI,vF,vJ,vR,vS,vL,vQ,va,vW,vM,vM,uu,uu,uu,uu,uu,uu,uu,uu,uu,uu,uu,uu,uu,uu,uu,uu,uu,uu,uu,uu],hW⟩)):=kB
theorem aa6:evF Tryz.prog xM (k+1) wl 171 [c,d] h=ak (xX (xS k) 171 wl k false) Tryz.f171 [c,d] h:=by kernel_rfl
theorem GG:yO s k wl 171 Tryz.f171 cz 14 m0 ac cg ⟨[c,d,e,o,g,y,p,l,j,v,r,u,z,q,A,D,E,F,B,L,G,M,N,I,O,J,Q,R,U,W,T,t2,t3,t4,Y,Z,t0,t1,t7,t5,t8,t9,t6,X],h⟩ =
 bm (aT I (.lit (.bool true)) T) h fun vf ho=>
 gd vf (
 yO s k wl 171 Tryz.f171 cz 26 m0 ac cg ⟨[c,d,e,o,g,y,p,l,j,v,r,u,z,q,A,D,E,F,B,L,G,M,N,I,O,J,Q,R,U,W,T,vf,(.lit (.bool true)),uu,uu,uu,uu,uu,uu,uu,uu,uu,uu,X],ho⟩) (
 bm (aa s.P 129 e 1) ho fun v58 hv=>
 bm (ab s.P 3 v58 hv) hv fun v60 h61=>
 bm (aa s.P 101 g 0) h61 fun vZ h63=>
 bm (ab s.P 3 vZ h63) h63 fun v64 h65=>
 bm (az s.P .lss 3 v60 v64) h65 fun v66 h67=>
 yO s k wl 171 Tryz.f171 cz 22 m0 ac cg ⟨[c,d,e,o,g,y,p,l,j,v,r,u,z,q,A,D,E,F,B,L,G,M,N,I,O,J,Q,R,U,W,T,vf,(.lit (.bool false)),v58,v60,vZ,v64,v66,v66,t5,t8,t9,t6,X],h67⟩) (
 yO s k wl 171 Tryz.f171 cz 17 m0 ac cg ⟨[c,d,e,o,g,y,p,l,j,v,r,u,z,q,A,D,E,F,B,L,G,M,N,I,O,J,Q,R,U,W,T,vf,vf,uu,Y,Z,t0,t1,t7,t5,t8,t9,t6,X],ho⟩):=kG
theorem GU:yO s k wl 171 Tryz.f171 cz 26 m0 ac cg ⟨[c,d,e,o,g,y,p,l,j,v,r,u,z,q,A,D,E,F,B,L,G,M,N,I,O,J,Q,R,U,W,T,t2,t3,t4,Y,Z,t0,t1,t7,t5,t8,t9,t6,X],h⟩ =
 bm (aT t3 (.lit (.bool true)) t6) h fun vg h69=>
 some (vg,h69):=kG
theorem GN:yO s k wl 171 Tryz.f171 cz 22 m0 ac cg ⟨[c,d,e,o,g,y,p,l,j,v,r,u,z,q,A,D,E,F,B,L,G,M,N,I,O,J,Q,R,U,W,T,t2,t3,t4,Y,Z,t0,t1,t7,t5,t8,t9,t6,X],h⟩ =
 gd t7 (
 bm (aa s.P 129 e 2) h fun v70 h71=>
 bm (ab s.P 3 v70 h71) h71 fun v72 h73=>
 bm (az s.P .gtr 3 v72 (.lit (.int .i64 0))) h73 fun v74 h75=>
 yO s k wl 171 Tryz.f171 cz 25 m0 ac cg ⟨[c,d,e,o,g,y,p,l,j,v,r,u,z,q,A,D,E,F,B,L,G,M,N,I,O,J,Q,R,U,W,T,t2,t3,t4,Y,Z,t0,t1,(.lit (.bool true)),v70,v72,v74,t6,X],h75⟩) (
 yO s k wl 171 Tryz.f171 cz 25 m0 ac cg ⟨[c,d,e,o,g,y,p,l,j,v,r,u,z,q,A,D,E,F,B,L,G,M,N,I,O,J,Q,R,U,W,T,t2,t3,t4,Y,Z,t0,t1,(.lit (.bool false)),uu,uu,uu,t6,X],h⟩) (
 yO s k wl 171 Tryz.f171 cz 23 m0 ac cg ⟨[c,d,e,o,g,y,p,l,j,v,r,u,z,q,A,D,E,F,B,L,G,M,N,I,O,J,Q,R,U,W,T,t2,t3,t4,Y,Z,t0,t1,t7,uu,t8,t9,t6,X],h⟩):=kG
theorem Fo:yO s k wl 171 Tryz.f171 cz 25 m0 ac cg ⟨[c,d,e,o,g,y,p,l,j,v,r,u,z,q,A,D,E,F,B,L,G,M,N,I,O,J,Q,R,U,W,T,t2,t3,t4,Y,Z,t0,t1,t7,t5,t8,t9,t6,X],h⟩ =
 gd t3 (
 yO s k wl 171 Tryz.f171 cz 26 m0 ac cg ⟨[c,d,e,o,g,y,p,l,j,v,r,u,z,q,A,D,E,F,B,L,G,M,N,I,O,J,Q,R,U,W,T,t2,(.lit (.bool true)),t4,Y,Z,t0,t1,t7,t5,t8,t9,uu,X],h⟩) (
 bm (aT t7 t9 (.lit (.bool false))) h fun v76 h77=>
 yO s k wl 171 Tryz.f171 cz 26 m0 ac cg ⟨[c,d,e,o,g,y,p,l,j,v,r,u,z,q,A,D,E,F,B,L,G,M,N,I,O,J,Q,R,U,W,T,t2,(.lit (.bool false)),t4,Y,Z,t0,t1,t7,t5,t8,t9,v76,X],h77⟩) (
 yO s k wl 171 Tryz.f171 cz 26 m0 ac cg ⟨[c,d,e,o,g,y,p,l,j,v,r,u,z,q,A,D,E,F,B,L,G,M,N,I,O,J,Q,R,U,W,T,t2,t3,t4,Y,Z,t0,t1,t7,t5,t8,t9,uu,X],h⟩):=kG
theorem E7:yO s k wl 171 Tryz.f171 cz 23 m0 ac cg ⟨[c,d,e,o,g,y,p,l,j,v,r,u,z,q,A,D,E,F,B,L,G,M,N,I,O,J,Q,R,U,W,T,t2,t3,t4,Y,Z,t0,t1,t7,t5,t8,t9,t6,X],h⟩ =
 gd t7 (
 bm (ab s.P 3 t5 h) h fun v78 h79=>
 bm (az s.P .gtr 3 v78 (.lit (.int .i64 0))) h79 fun v80 h81=>
 yO s k wl 171 Tryz.f171 cz 25 m0 ac cg ⟨[c,d,e,o,g,y,p,l,j,v,r,u,z,q,A,D,E,F,B,L,G,M,N,I,O,J,Q,R,U,W,T,t2,t3,t4,Y,Z,t0,t1,(.lit (.bool true)),t5,v78,v80,t6,X],h81⟩) (
 yO s k wl 171 Tryz.f171 cz 25 m0 ac cg ⟨[c,d,e,o,g,y,p,l,j,v,r,u,z,q,A,D,E,F,B,L,G,M,N,I,O,J,Q,R,U,W,T,t2,t3,t4,Y,Z,t0,t1,(.lit (.bool false)),t5,uu,uu,t6,X],h⟩) (
 yO s k wl 171 Tryz.f171 cz 24 m0 ac cg ⟨[c,d,e,o,g,y,p,l,j,v,r,u,z,q,A,D,E,F,B,L,G,M,N,I,O,J,Q,R,U,W,T,t2,t3,t4,Y,Z,t0,t1,t7,t5,uu,t9,t6,X],h⟩):=kG
theorem FT:yO s k wl 171 Tryz.f171 cz 24 m0 ac cg ⟨[c,d,e,o,g,y,p,l,j,v,r,u,z,q,A,D,E,F,B,L,G,M,N,I,O,J,Q,R,U,W,T,t2,t3,t4,Y,Z,t0,t1,t7,t5,t8,t9,t6,X],h⟩ =
 gd t7 (
 bm (az s.P .gtr 3 t8 (.lit (.int .i64 0))) h fun v82 h83=>
 yO s k wl 171 Tryz.f171 cz 25 m0 ac cg ⟨[c,d,e,o,g,y,p,l,j,v,r,u,z,q,A,D,E,F,B,L,G,M,N,I,O,J,Q,R,U,W,T,t2,t3,t4,Y,Z,t0,t1,(.lit (.bool true)),t5,t8,v82,t6,X],h83⟩) (
 yO s k wl 171 Tryz.f171 cz 25 m0 ac cg ⟨[c,d,e,o,g,y,p,l,j,v,r,u,z,q,A,D,E,F,B,L,G,M,N,I,O,J,Q,R,U,W,T,t2,t3,t4,Y,Z,t0,t1,(.lit (.bool false)),t5,t8,uu,t6,X],h⟩) (
 yO s k wl 171 Tryz.f171 cz 25 m0 ac cg ⟨[c,d,e,o,g,y,p,l,j,v,r,u,z,q,A,D,E,F,B,L,G,M,N,I,O,J,Q,R,U,W,T,t2,t3,t4,Y,Z,t0,t1,t7,t5,t8,uu,t6,X],h⟩):=kG
theorem nJ (cx:Cx) (s:St):av cx K cg .ret s=K .ret s:=by kernel_rfl
-- names: UN,GG,GU,GN,Fo,E7,FT,nJ
noncomputable def BH:Code:=am (an Tryz.f172) [1,0]
noncomputable def ut:List Fr:=[.seq (am (an Tryz.f172) [1,1])]
theorem Xb:ak (xX s 172 wl k false) Tryz.f172 [c,d] h =
 bm (az s.P .geq 3 c (.lit (.int .i64 0))) h fun v1 h2=>
 gd v1 (
 bm (az s.P .leq 3 c d) h2 fun v3 h4=>
 yO s k wl 172 Tryz.f172 BH 6 h.length ([],[]) ut ⟨[c,d,uu,uu,(.lit (.bool false)),c,v1,(.lit (.bool true)),c,d,v3,uu],h4⟩) (
 yO s k wl 172 Tryz.f172 BH 6 h.length ([],[]) ut ⟨[c,d,uu,uu,(.lit (.bool false)),c,v1,(.lit (.bool false)),uu,uu,uu,uu],h2⟩) (
 yO s k wl 172 Tryz.f172 BH 4 h.length ([],[]) ut ⟨[c,d,uu,uu,(.lit (.bool false)),c,v1,v1,uu,uu,uu,uu],h2⟩):=kB
theorem adE:evF Tryz.prog xM (k+1) wl 172 [c,d] h=ak (xX (xS k) 172 wl k false) Tryz.f172 [c,d] h:=by kernel_rfl
theorem Nh:yO s k wl 172 Tryz.f172 BH 6 m0 ac ut ⟨[c,d,e,o,g,y,p,l,j,v,r,u],h⟩ =
 bm (aT l r (.lit (.bool false))) h fun v5 h6=>
 some (v5,h6):=kG
theorem wW (cx:Cx) (s:St):av cx K ut .ret s=K .ret s:=by kernel_rfl
-- names: Xb,Nh,wW
noncomputable def CI:Code:=am (an Tryz.f181) [1,1,0,0]
noncomputable def uo:List Fr:=[.seq (am (an Tryz.f181) [1,1,0,1]),.seq (am (an Tryz.f181) [1,1,1])]
theorem Xf:ak (xX s 181 wl k false) Tryz.f181 [c,d,e] h =
 bp (some (.own h.length 0 0,h++[.rows 0 [] 0 true])) fun v1 h2=>
 bp (yC s k wl 181 false true (.fn (.func 79) [] []) [d] h2) fun v3 h4=>
 bp (yC s k wl 181 false true (.fn (.func 146) [] []) [c,d] h4) fun v5 h6=>
 bm (vUn .not v5) h6 fun v7 h8=>
 gd v7 (
 yO s k wl 181 Tryz.f181 CI 11 h4.length ([],[]) uo ⟨[c,d,e,uu,uu,uu,v1,v3,d,v3,c,d,v5,v7,(.lit (.bool true)),uu,uu,uu,uu,uu,uu,uu,uu,uu,uu,uu,uu,uu],h8⟩) (
 bp (bw s.P 24 c h8) fun v9 hA=>
 bm (az s.P .sub 3 v9 (.lit (.int .i64 1))) hA fun vA hB=>
 bp (yC s k wl 181 false true (.fn (.func 172) [] []) [e,vA] hB) fun vB hD=>
 bm (vUn .not vB) hD fun vC hE=>
 yO s k wl 181 Tryz.f181 CI 11 h4.length ([],[]) uo ⟨[c,d,e,uu,uu,uu,v1,v3,d,v3,c,d,v5,v7,(.lit (.bool false)),e,c,v9,vA,vB,vC,uu,uu,uu,uu,uu,uu,uu],hE⟩) (
 yO s k wl 181 Tryz.f181 CI 6 h4.length ([],[]) uo ⟨[c,d,e,uu,uu,uu,v1,v3,d,v3,c,d,v5,v7,v7,uu,uu,uu,uu,uu,uu,uu,uu,uu,uu,uu,uu,uu],h8⟩):=kB
theorem ab3:evF Tryz.prog xM (k+1) wl 181 [c,d,e] h=ak (xX (xS k) 181 wl k false) Tryz.f181 [c,d,e] h:=by kernel_rfl
theorem MJ:yO s k wl 181 Tryz.f181 CI 11 m0 ac uo ⟨[c,d,e,o,g,y,p,l,j,v,r,u,z,q,A,D,E,F,B,L,G,M,N,I,O,J,Q,R],h⟩ =
 bm (aT A (.lit (.bool true)) G) h fun vD hG=>
 cnd vD (
 some (l,hG)) (
 bm (bc s.P 129 [(0,e)]) hG fun vI hH=>
 bp (aK s.P wl 63 1 [(0,vI)] hH) fun vF hI=>
 bp (ng s.P wl 63 63 l vF hI) fun vJ hL=>
 some (vJ,hL)):=kG
theorem ux (cx:Cx) (s:St):av cx K uo .ret s=K .ret s:=by kernel_rfl
-- names: Xf,MJ,ux
theorem YV:ak (xX s 182 wl k false) Tryz.f182 [] h =
 bp (some (.map h.length,h++[.map []])) fun v1 h2=>
 bs (ej s.P wl 201 v1 (.lit (.int .i64 1)) (.fn (.func 210) [] []) h2) fun h3=>
 bs (ej s.P wl 201 v1 (.lit (.int .i64 2)) (.fn (.func 211) [] []) h3) fun h4=>
 bs (ej s.P wl 201 v1 (.lit (.int .i64 3)) (.fn (.func 212) [] []) h4) fun h5=>
 some (v1,h5):=kB
theorem ab9:evF Tryz.prog xM (k+1) wl 182 [] h=ak (xX (xS k) 182 wl k false) Tryz.f182 [] h:=by kernel_rfl
-- names: YV,
noncomputable def CQ:Code:=am (an Tryz.f206) [1,0,1,0,0]
noncomputable def CN:List Fr:=[.block 0,.seq (am (an Tryz.f206) [1,1])]
theorem Wl:ak (xX s 206 wl k false) Tryz.f206 [c,d] h =
 bp (bw s.P 63 c h) fun v1 h2=>
 yI s k wl 206 Tryz.f206 CQ h2.length CN k ⟨[(V.kill h2.length c),(V.kill h2.length d),(V.kill h2.length uu),(V.kill h2.length uu),(.lit (.int .i64 0)),(V.kill h2.length uu),(V.kill h2.length c),(V.kill h2.length v1),(.lit (.int .i64 0)),.junk,.junk,.junk,.junk,.junk,.junk,.junk,.junk,.junk,.junk],co h2.length h2⟩:=kB
theorem X0:evF Tryz.prog xM (k+1) wl 206 [c,d] h=ak (xX (xS k) 206 wl k false) Tryz.f206 [c,d] h:=by kernel_rfl
theorem Ug (P:Program):aD P Tryz.f206 .ret ⟨[c,d,e,o,g,y,p,l,j,v,r,u,z,q,A,D,E,F,B],h⟩=some (g,h):=by kernel_rfl
theorem Ns:itX (xX s 206 wl k rd) CQ n0 K (n+1) ⟨[c,d,e,o,g,y,p,l,j,v,r,u,z,q,A,D,E,F,B],h⟩ =
 bm (az s.P .lss 3 j l) h fun v3 h4=>
 cnd v3 (
 bm (al s.P 63 c j h4) h4 fun v5 h6=>
 bm (ab s.P 129 v5 h6) h6 fun v7 h8=>
 bp (dW (xX s 206 wl k rd) false true d [v7] h8) fun v9 hA=>
 cnd v9 (
 K .ret ⟨[c,d,e,o,j,j,p,l,j,v3,j,d,c,j,v5,v7,v9,j,B],hA⟩) (
 bm (az s.P .add 3 j (.lit (.int .i64 1))) hA fun vA hB=>
 itX (xX s 206 wl k rd) CQ n0 K n ⟨[(V.kill n0 c),(V.kill n0 d),(V.kill n0 e),(V.kill n0 o),(V.kill n0 g),(V.kill n0 j),(V.kill n0 p),(V.kill n0 l),(V.kill n0 vA),.junk,.junk,.junk,.junk,.junk,.junk,.junk,.junk,.junk,.junk],co n0 hB⟩)) (
 K (.exit 0) ⟨[(V.kill n0 c),(V.kill n0 d),(V.kill n0 e),(V.kill n0 o),(V.kill n0 g),(V.kill n0 y),(V.kill n0 p),(V.kill n0 l),.junk,.junk,.junk,.junk,.junk,.junk,.junk,.junk,.junk,.junk,.junk],co n0 h4⟩):=kI
theorem Gg:av (xX s 206 wl k false) (aD s.P Tryz.f206) CN (.exit 0) ⟨[c,d,e,o,g,y,p,l,j,v,r,u,z,q,A,D,E,F,B],h⟩ =
 some ((.lit (.int .i64 (-1))),h):=kR
theorem oe (cx:Cx) (s:St):av cx K CN .ret s=K .ret s:=by kernel_rfl
-- names: Wl,Ug,Ns,Gg,oe
theorem W7:ak (xX s 210 wl k false) Tryz.f210 [c] h =
 bp (some (.own h.length 0 0,h++[.rows 0 [] 0 true])) fun v1 h2=>
 bp (bw s.P 63 c h2) fun v3 h4=>
 bm (az s.P .sub 3 v3 (.lit (.int .i64 1))) h4 fun v5 h6=>
 bm (al s.P 63 c v5 h6) h6 fun v7 h8=>
 bm (aa s.P 129 v7 1) h8 fun v9 hA=>
 bm (ab s.P 3 v9 hA) hA fun vA hB=>
 bm (az s.P .add 3 vA (.lit (.int .i64 1))) hB fun vB hD=>
 bm (al s.P 63 c v5 hD) hD fun vC hE=>
 bm (aa s.P 129 vC 1) hE fun vD hG=>
 bs (ai s.P wl 3 vD vB hG) fun hC=>
 some (c,hC):=kB
theorem acj:evF Tryz.prog xM (k+1) wl 210 [c] h=ak (xX (xS k) 210 wl k false) Tryz.f210 [c] h:=by kernel_rfl
-- names: W7,
theorem ZG:ak (xX s 211 wl k false) Tryz.f211 [c] h =
 bp (some (.own h.length 0 0,h++[.rows 0 [] 0 true])) fun v1 h2=>
 bp (bw s.P 63 c h2) fun v3 h4=>
 bm (az s.P .sub 3 v3 (.lit (.int .i64 1))) h4 fun v5 h6=>
 bm (al s.P 63 c v5 h6) h6 fun v7 h8=>
 bm (aa s.P 129 v7 2) h8 fun v9 hA=>
 bm (ab s.P 3 v9 hA) hA fun vA hB=>
 bm (az s.P .add 3 vA (.lit (.int .i64 1))) hB fun vB hD=>
 bm (al s.P 63 c v5 hD) hD fun vC hE=>
 bm (aa s.P 129 vC 2) hE fun vD hG=>
 bs (ai s.P wl 3 vD vB hG) fun hC=>
 some (c,hC):=kB
theorem aci:evF Tryz.prog xM (k+1) wl 211 [c] h=ak (xX (xS k) 211 wl k false) Tryz.f211 [c] h:=by kernel_rfl
-- names: ZG,
theorem ZI:ak (xX s 212 wl k false) Tryz.f212 [c] h =
 bp (some (.own h.length 0 0,h++[.rows 0 [] 0 true])) fun v1 h2=>
 bp (bw s.P 63 c h2) fun v3 h4=>
 bm (az s.P .sub 3 v3 (.lit (.int .i64 1))) h4 fun v5 h6=>
 bp (gC s.P wl false 63 c none (some v5) none h6) fun v7 h8=>
 some (v7,h8):=kB
theorem aeR:evF Tryz.prog xM (k+1) wl 212 [c] h=ak (xX (xS k) 212 wl k false) Tryz.f212 [c] h:=by kernel_rfl
-- names: ZI,
end
end Go.Ab
set_option maxRecDepth 100000
set_option linter.unusedVariables false
namespace Go.Ab
open Go.Proofs
section
variable (s:Sys) (k wl:Nat) (m0:Nat) (ac:List Nat×List Nat) (a b d e f o p g q j u l v n y A z E D F B L I M J G O N T R Q Z W t0 X Y U te t4 tf t5 t6 t7 t2 tg t8 th t9 ta tb tc td t3 t1:V) (h:Hp) (K:Out→St→Option (V×Hp)) (rd:Bool) (zz:List V)
noncomputable def dm:Code:=am (an Tryz.f85) [1,0]
noncomputable def dd:List Fr:=[.seq (am (an Tryz.f85) [1,1])]
theorem afw:ak (xX s 85 wl k false) Tryz.f85 [a,b,d,e] h =
 bp (aU a h) fun v1 h2=>
 bp (aU e h2) fun v3 h4=>
 bm (ab s.P 23 v1 h4) h4 fun v5 h6=>
 bp (yC s k wl 85 false true (.fn (.func 50) [] []) [v5] h6) fun v7 h8=>
 gd v7 (
 bp (bw s.P 26 d h8) fun v9 hA=>
 bm (ab s.P 23 v1 hA) hA fun vA hB=>
 bp (yC s k wl 85 false true (.fn (.func 103) [] []) [vA] hB) fun vB hD=>
 bm (az s.P .eql 3 v9 vB) hD fun vC hE=>
 yO s k wl 85 Tryz.f85 dm 8 h4.length ([],[]) dd ⟨[a,b,d,e,v1,uu,uu,v3,(.lit (.bool false)),v5,v7,(.lit (.bool true)),d,v9,vA,vB,vC,uu,uu,uu,uu,uu,uu,uu,uu,uu,uu,uu,uu,uu,uu,uu,uu,uu,uu,uu,uu,uu,uu,uu,uu,uu,uu,uu,uu,uu,uu,uu,uu,uu,uu,uu,uu,uu],hE⟩) (
 yO s k wl 85 Tryz.f85 dm 8 h4.length ([],[]) dd ⟨[a,b,d,e,v1,uu,uu,v3,(.lit (.bool false)),v5,v7,(.lit (.bool false)),uu,uu,uu,uu,uu,uu,uu,uu,uu,uu,uu,uu,uu,uu,uu,uu,uu,uu,uu,uu,uu,uu,uu,uu,uu,uu,uu,uu,uu,uu,uu,uu,uu,uu,uu,uu,uu,uu,uu,uu,uu,uu],h8⟩) (
 yO s k wl 85 Tryz.f85 dm 4 h4.length ([],[]) dd ⟨[a,b,d,e,v1,uu,uu,v3,(.lit (.bool false)),v5,v7,v7,uu,uu,uu,uu,uu,uu,uu,uu,uu,uu,uu,uu,uu,uu,uu,uu,uu,uu,uu,uu,uu,uu,uu,uu,uu,uu,uu,uu,uu,uu,uu,uu,uu,uu,uu,uu,uu,uu,uu,uu,uu,uu],h8⟩):=kB
theorem agv:evF Tryz.prog xM (k+1) wl 85 [a,b,d,e] h=ak (xX (xS k) 85 wl k false) Tryz.f85 [a,b,d,e] h:=by kernel_rfl
theorem SJ:yO s k wl 85 Tryz.f85 dm 8 m0 ac dd ⟨(a::b::d::e::f::o::p::g::q::j::u::l::v::n::y::A::z::E::D::F::B::zz),h⟩ =
 bm (aT l z (.lit (.bool false))) h fun vD hG=>
 gd vD (
 bp (yC s k wl 85 false true (.fn (.func 56) [] []) [b] hG) fun vI hH=>
 yO s k wl 85 Tryz.f85 dm 12 m0 ac dd ⟨(a::b::d::e::f::o::p::g::q::j::u::l::v::n::y::A::z::vD::(.lit (.bool true))::b::vI::zz),hH⟩) (
 yO s k wl 85 Tryz.f85 dm 12 m0 ac dd ⟨(a::b::d::e::f::o::p::g::q::j::u::l::v::n::y::A::z::vD::(.lit (.bool false))::uu::uu::zz),hG⟩) (
 yO s k wl 85 Tryz.f85 dm 11 m0 ac dd ⟨(a::b::d::e::f::o::p::g::q::j::u::l::v::n::y::A::z::vD::vD::uu::B::zz),hG⟩):=kG
theorem SH:yO s k wl 85 Tryz.f85 dm 12 m0 ac dd ⟨(a::b::d::e::f::o::p::g::q::j::u::l::v::n::y::A::z::E::D::F::B::L::I::M::J::G::zz),h⟩ =
 bm (aT D B (.lit (.bool false))) h fun vF hI=>
 gd vF (
 bm (aa s.P 57 g 0) hI fun vJ hL=>
 bm (ab s.P 3 vJ hL) hL fun vR hN=>
 bm (az s.P .geq 3 vR (.lit (.int .i64 0))) hN fun vH hT=>
 yO s k wl 85 Tryz.f85 dm 17 m0 ac dd ⟨(a::b::d::e::f::o::p::g::q::j::u::l::v::n::y::A::z::E::D::F::B::vF::(.lit (.bool true))::vJ::vR::vH::zz),hT⟩) (
 yO s k wl 85 Tryz.f85 dm 17 m0 ac dd ⟨(a::b::d::e::f::o::p::g::q::j::u::l::v::n::y::A::z::E::D::F::B::vF::(.lit (.bool false))::uu::uu::uu::zz),hI⟩) (
 yO s k wl 85 Tryz.f85 dm 15 m0 ac dd ⟨(a::b::d::e::f::o::p::g::q::j::u::l::v::n::y::A::z::E::D::F::B::vF::vF::uu::J::G::zz),hI⟩):=kG
theorem Rv:yO s k wl 85 Tryz.f85 dm 17 m0 ac dd ⟨(a::b::d::e::f::o::p::g::q::j::u::l::v::n::y::A::z::E::D::F::B::L::I::M::J::G::O::N::T::R::Q::zz),h⟩ =
 bm (aT I G (.lit (.bool false))) h fun vP hU=>
 gd vP (
 bm (aa s.P 57 g 0) hU fun vm he=>
 bm (ab s.P 3 vm he) he fun vu h34=>
 bm (az s.P .lss 3 vu (.lit (.int .i64 6))) h34 fun vn hb=>
 yO s k wl 85 Tryz.f85 dm 22 m0 ac dd ⟨(a::b::d::e::f::o::p::g::q::j::u::l::v::n::y::A::z::E::D::F::B::L::I::M::J::G::vP::(.lit (.bool true))::vm::vu::vn::zz),hb⟩) (
 yO s k wl 85 Tryz.f85 dm 22 m0 ac dd ⟨(a::b::d::e::f::o::p::g::q::j::u::l::v::n::y::A::z::E::D::F::B::L::I::M::J::G::vP::(.lit (.bool false))::uu::uu::uu::zz),hU⟩) (
 yO s k wl 85 Tryz.f85 dm 20 m0 ac dd ⟨(a::b::d::e::f::o::p::g::q::j::u::l::v::n::y::A::z::E::D::F::B::L::I::M::J::G::vP::vP::uu::R::Q::zz),hU⟩):=kG
theorem Rr:yO s k wl 85 Tryz.f85 dm 22 m0 ac dd ⟨(a::b::d::e::f::o::p::g::q::j::u::l::v::n::y::A::z::E::D::F::B::L::I::M::J::G::O::N::T::R::Q::Z::W::t0::X::Y::U::zz),h⟩ =
 bm (aT N Q (.lit (.bool false))) h fun vV hY=>
 gd vV (
 bm (aa s.P 57 g 1) hY fun vp hp=>
 bm (ab s.P 53 vp hp) hp fun vq hw=>
 bp (bw s.P 53 vq hw) fun v43 hx=>
 bm (az s.P .gtr 3 v43 (.lit (.int .i64 0))) hx fun v45 h46=>
 yO s k wl 85 Tryz.f85 dm 28 m0 ac dd ⟨(a::b::d::e::f::o::p::g::q::j::u::l::v::n::y::A::z::E::D::F::B::L::I::M::J::G::O::N::T::R::Q::vV::(.lit (.bool true))::vp::vq::v43::v45::zz),h46⟩) (
 yO s k wl 85 Tryz.f85 dm 28 m0 ac dd ⟨(a::b::d::e::f::o::p::g::q::j::u::l::v::n::y::A::z::E::D::F::B::L::I::M::J::G::O::N::T::R::Q::vV::(.lit (.bool false))::uu::uu::uu::uu::zz),hY⟩) (
 yO s k wl 85 Tryz.f85 dm 25 m0 ac dd ⟨(a::b::d::e::f::o::p::g::q::j::u::l::v::n::y::A::z::E::D::F::B::L::I::M::J::G::O::N::T::R::Q::vV::vV::uu::X::Y::U::zz),hY⟩):=kG
theorem Su:yO s k wl 85 Tryz.f85 dm 28 m0 ac dd ⟨[a,b,d,e,f,o,p,g,q,j,u,l,v,n,y,A,z,E,D,F,B,L,I,M,J,G,O,N,T,R,Q,Z,W,t0,X,Y,U,te,t4,tf,t5,t6,t7,t2,tg,t8,th,t9,ta,tb,tc,td,t3,t1],h⟩ =
 bm (aT W U (.lit (.bool false))) h fun vh hy=>
 gd vh (
 bm (aa s.P 57 g 1) hy fun v49 hz=>
 bm (ab s.P 53 v49 hz) hz fun vr hr=>
 bm (al s.P 53 vr (.lit (.int .i64 0)) hr) hr fun vs hd=>
 bm (ab s.P 3 vs hd) hd fun vv h56=>
 bm (az s.P .geq 3 vv (.lit (.int .i64 0))) h56 fun v57 h58=>
 yO s k wl 85 Tryz.f85 dm 35 m0 ac dd ⟨[a,b,d,e,f,o,p,g,q,j,u,l,v,n,y,A,z,E,D,F,B,L,I,M,J,G,O,N,T,R,Q,Z,W,t0,X,Y,U,vh,(.lit (.bool true)),v49,vr,vs,vv,v57,tg,t8,th,t9,ta,tb,tc,td,t3,t1],h58⟩) (
 yO s k wl 85 Tryz.f85 dm 35 m0 ac dd ⟨[a,b,d,e,f,o,p,g,q,j,u,l,v,n,y,A,z,E,D,F,B,L,I,M,J,G,O,N,T,R,Q,Z,W,t0,X,Y,U,vh,(.lit (.bool false)),uu,uu,uu,uu,uu,tg,t8,th,t9,ta,tb,tc,td,t3,t1],hy⟩) (
 yO s k wl 85 Tryz.f85 dm 31 m0 ac dd ⟨[a,b,d,e,f,o,p,g,q,j,u,l,v,n,y,A,z,E,D,F,B,L,I,M,J,G,O,N,T,R,Q,Z,W,t0,X,Y,U,vh,vh,uu,t5,t6,t7,t2,tg,t8,th,t9,ta,tb,tc,td,t3,t1],hy⟩):=kG
theorem Rw:yO s k wl 85 Tryz.f85 dm 35 m0 ac dd ⟨[a,b,d,e,f,o,p,g,q,j,u,l,v,n,y,A,z,E,D,F,B,L,I,M,J,G,O,N,T,R,Q,Z,W,t0,X,Y,U,te,t4,tf,t5,t6,t7,t2,tg,t8,th,t9,ta,tb,tc,td,t3,t1],h⟩ =
 bm (aT t4 t2 (.lit (.bool false))) h fun vd hk=>
 gd vd (
 bm (aa s.P 57 g 1) hk fun vw h62=>
 bm (ab s.P 53 vw h62) h62 fun vx hl=>
 bm (al s.P 53 vx (.lit (.int .i64 0)) hl) hl fun vU hf=>
 bm (ab s.P 3 vU hf) hf fun vy h68=>
 bp (bw s.P 24 b h68) fun vz hu=>
 bm (az s.P .lss 3 vy vz) hu fun ve hm=>
 yO s k wl 85 Tryz.f85 dm 44 m0 ac dd ⟨[a,b,d,e,f,o,p,g,q,j,u,l,v,n,y,A,z,E,D,F,B,L,I,M,J,G,O,N,T,R,Q,Z,W,t0,X,Y,U,te,t4,tf,t5,t6,t7,t2,vd,(.lit (.bool true)),vw,vx,vU,vy,b,vz,ve,t1],hm⟩) (
 yO s k wl 85 Tryz.f85 dm 44 m0 ac dd ⟨[a,b,d,e,f,o,p,g,q,j,u,l,v,n,y,A,z,E,D,F,B,L,I,M,J,G,O,N,T,R,Q,Z,W,t0,X,Y,U,te,t4,tf,t5,t6,t7,t2,vd,(.lit (.bool false)),uu,uu,uu,uu,uu,uu,uu,t1],hk⟩) (
 yO s k wl 85 Tryz.f85 dm 38 m0 ac dd ⟨[a,b,d,e,f,o,p,g,q,j,u,l,v,n,y,A,z,E,D,F,B,L,I,M,J,G,O,N,T,R,Q,Z,W,t0,X,Y,U,te,t4,tf,t5,t6,t7,t2,vd,vd,uu,t9,ta,tb,tc,td,t3,t1],hk⟩):=kG
theorem RU:yO s k wl 85 Tryz.f85 dm 44 m0 ac dd ⟨[a,b,d,e,f,o,p,g,q,j,u,l,v,n,y,A,z,E,D,F,B,L,I,M,J,G,O,N,T,R,Q,Z,W,t0,X,Y,U,te,t4,tf,t5,t6,t7,t2,tg,t8,th,t9,ta,tb,tc,td,t3,t1],h⟩ =
 bm (aT t8 t3 (.lit (.bool false))) h fun v73 h74=>
 some (v73,h74):=kG
theorem Bq (cx:Cx) (s:St):av cx K dd .ret s=K .ret s:=by kernel_rfl
-- names: afw,SJ,SH,Rv,Rr,Su,Rw,RU,Bq
theorem afx:ak (xX s 86 wl k false) Tryz.f86 [a,b,d,e,f] h =
 bp (aU a h) fun v1 h2=>
 bp (aU e h2) fun v3 h4=>
 bp (aU f h4) fun v5 h6=>
 bp (some (.own h6.length 0 0,h6++[.rows 0 [] 0 true])) fun v7 h8=>
 bp (aA s.P 57 h8) fun v9 hA=>
 bp (some (.own hA.length 0 0,hA++[.rows 0 [] 0 true])) fun vA hB=>
 bp (yC s k wl 86 false true (.fn (.func 76) [] []) [d] hB) fun vB hD=>
 bp (aA s.P 26 hD) fun vC hE=>
 bs (ai s.P wl 26 vC vB hE) fun hF=>
 bp (aA s.P 57 hF) fun vE hC=>
 bm (aa s.P 57 v5 0) hC fun vK hJ=>
 stO hF.length vK (
 bm (ab s.P 3 vK hJ) hJ fun vN hM=>
 bm (aa s.P 57 v5 1) hM fun vG hO=>
 bm (ab s.P 53 vG hO) hO fun vl hs=>
 bp (yC s k wl 86 true true (.fn (.func 80) [] []) [vl] hs) fun vt hS=>
 bm (aa s.P 57 v5 2) hS fun vS hV=>
 stO hF.length vS (
 bm (ab s.P 55 vS hV) hV fun vL hP=>
 bm (bc s.P 57 [(0,vN),(1,vt),(2,vL)]) hP fun vQ hZ=>
 bs (ai s.P wl 57 vE vQ hZ) fun hb=>
 bm (ab s.P 23 v1 hb) hb fun vV hY=>
 bm (ab s.P 57 v5 hY) hY fun vp hp=>
 bp (yC s k wl 86 false true (.fn (.func 85) [] []) [vV,b,d,vp] hp) fun vq hw=>
 bm (vUn .not vq) hw fun v43 hx=>
 cnd v43 (
 bm (ab s.P 26 vC hx) hx fun v45 h46=>
 bm (ab s.P 57 vE h46) h46 fun vh hy=>
 bs (ai s.P wl 57 v9 vh hy) fun hR=>
 bp (some (.own hR.length 0 0,hR++[.rows 0 [] 0 true])) fun vo hj=>
 eg [some v45,ab s.P 57 v9 hj,some vo] hj) (
 bp (aA s.P 34 hx) fun vT ht=>
 bm (aa s.P 57 vE 1) ht fun v54 hi=>
 bm (ab s.P 53 v54 hi) hi fun vf ho=>
 bm (al s.P 53 vf (.lit (.int .i64 0)) ho) ho fun v58 hv=>
 bm (ab s.P 3 v58 hv) hv fun v60 h61=>
 bp (aA s.P 3 h61) fun vZ h63=>
 bs (ai s.P wl 3 vZ v60 h63) fun hl=>
 bp (aA s.P 170 hl) fun vU hf=>
 bs (ai s.P wl 170 vU (.fn (.func 131) [] [vT,v3]) hf) fun h67=>
 bp (aA s.P 1 h67) fun vg h69=>
 bs (ai s.P wl 1 vg (.fn (.func 132) [] [vE]) h69) fun hu=>
 bp (aA s.P 32 hu) fun ve hm=>
 bs (ai s.P wl 32 ve (.fn (.func 133) [] [vE,v1,vC]) hm) fun h73=>
 bm (bc s.P 175 [(0,(.fn (.func 136) [] [vE,vC,vU,vZ,vg])),(1,(.fn (.func 137) [] [vC,v3,vZ,vE])),(2,(.fn (.func 139) [] [ve,vE,vU,vZ])),(3,(.fn (.func 140) [] [vC,vg,v3,vE])),(4,(.fn (.func 141) [] [ve,vg])),(5,(.fn (.func 142) [] [vC,vU,vZ,vg]))]) h73 fun v74 h75=>
 bp (aA s.P 175 h75) fun v76 h77=>
 bs (ai s.P wl 175 v76 v74 h77) fun h78=>
 bm (aa s.P 57 v5 0) h78 fun v79 h80=>
 bm (ab s.P 3 v79 h80) h80 fun v81 h82=>
 bm (al s.P 175 v76 v81 h82) h82 fun v83 h84=>
 bm (ab s.P 1 v83 h84) h84 fun v85 h86=>
 bp (yC s k wl 86 false true v85 [] h86) fun v87 hn=>
 bm (ab s.P 26 vC hn) hn fun v89 h90=>
 bm (ab s.P 57 vE h90) h90 fun v91 h92=>
 stO hn.length vT (
 bm (ab s.P 34 vT h92) h92 fun v93 h94=>
 bs (ai s.P wl 57 v9 v91 h94) fun h95=>
 apt (lgW v9 (lgR vT ([],[]))) (
 eg [some v89,ab s.P 57 v9 h95,some v93] h95))))):=kB
theorem agk:evF Tryz.prog xM (k+1) wl 86 [a,b,d,e,f] h=ak (xX (xS k) 86 wl k false) Tryz.f86 [a,b,d,e,f] h:=by kernel_rfl
-- names: afx,
theorem aaF:ak (xX s 131 wl k false) Tryz.f131 [a,b,d,e] h =
 bm (ab s.P 34 d h) h fun v1 h2=>
 bm (ab s.P 3 e h2) h2 fun v3 h4=>
 bm (bc s.P 52 [(0,a),(1,b),(2,v3)]) h4 fun v5 h6=>
 bp (aK s.P wl 34 1 [(0,v5)] h6) fun v7 h8=>
 bp (ng s.P wl 34 34 v1 v7 h8) fun v9 hA=>
 bs (ai s.P wl 34 d v9 hA) fun hQ=>
 some (.tup [],hQ):=kB
theorem aev:evF Tryz.prog xM (k+1) wl 131 [a,b,d,e] h=ak (xX (xS k) 131 wl k false) Tryz.f131 [a,b,d,e] h:=by kernel_rfl
-- names: aaF,
theorem Zc:ak (xX s 132 wl k false) Tryz.f132 [a] h =
 bm (aa s.P 57 a 1) h fun v1 h2=>
 bm (ab s.P 53 v1 h2) h2 fun v3 h4=>
 bp (gC s.P wl false 53 v3 (some (.lit (.int .i64 1))) none none h4) fun v5 h6=>
 bm (bc s.P 57 [(1,v5)]) h6 fun v7 h8=>
 bs (ai s.P wl 57 a v7 h8) fun h9=>
 some (.tup [],h9):=kB
theorem aeb:evF Tryz.prog xM (k+1) wl 132 [a] h=ak (xX (xS k) 132 wl k false) Tryz.f132 [a] h:=by kernel_rfl
-- names: Zc,
noncomputable def Cg:Code:=am (an Tryz.f133) [1,1,0,0]
noncomputable def u4:List Fr:=[.seq (am (an Tryz.f133) [1,1,0,1]),.seq (am (an Tryz.f133) [1,1,1])]
noncomputable def BC:List Fr:=[.seq (am (an Tryz.f133) [1,1,1])]
theorem ZE:ak (xX s 133 wl k false) Tryz.f133 [a,b,d] h =
 bm (aa s.P 57 a 2) h fun v1 h2=>
 bm (aa s.P 55 v1 0) h2 fun v3 h4=>
 bm (ab s.P 3 v3 h4) h4 fun v5 h6=>
 bm (az s.P .eql 3 v5 (.lit (.int .i64 3))) h6 fun v7 h8=>
 gd v7 (
 yO s k wl 133 Tryz.f133 Cg 9 h.length ([],[]) u4 ⟨[a,b,d,(.lit (.bool false)),(.fn (.func 134) [] []),v1,v3,v5,v7,(.lit (.bool true)),uu,uu,uu,uu,uu,uu,uu,uu,uu,uu,uu,uu,uu,uu,uu,uu,uu,uu],h8⟩) (
 bm (aa s.P 57 a 2) h8 fun v9 hA=>
 bm (aa s.P 55 v9 0) hA fun vA hB=>
 bm (ab s.P 3 vA hB) hB fun vB hD=>
 bm (az s.P .eql 3 vB (.lit (.int .i64 4))) hD fun vC hE=>
 yO s k wl 133 Tryz.f133 Cg 9 h.length ([],[]) u4 ⟨[a,b,d,(.lit (.bool false)),(.fn (.func 134) [] []),v1,v3,v5,v7,(.lit (.bool false)),v9,vA,vB,vC,uu,uu,uu,uu,uu,uu,uu,uu,uu,uu,uu,uu,uu,uu],hE⟩) (
 yO s k wl 133 Tryz.f133 Cg 6 h.length ([],[]) u4 ⟨[a,b,d,(.lit (.bool false)),(.fn (.func 134) [] []),v1,v3,v5,v7,v7,uu,uu,uu,uu,uu,uu,uu,uu,uu,uu,uu,uu,uu,uu,uu,uu,uu,uu],h8⟩):=kB
theorem afd:evF Tryz.prog xM (k+1) wl 133 [a,b,d] h=ak (xX (xS k) 133 wl k false) Tryz.f133 [a,b,d] h:=by kernel_rfl
theorem Mk:yO s k wl 133 Tryz.f133 Cg 9 m0 ac u4 ⟨(a::b::d::e::f::o::p::g::q::j::u::l::v::n::y::zz),h⟩ =
 bm (aT j (.lit (.bool true)) n) h fun vD hG=>
 cnd vD (
 av (xX s 133 wl k false) (aD s.P Tryz.f133) BC .norm ⟨(a::b::d::e::(.fn (.func 135) [] [])::o::p::g::q::j::u::l::v::n::vD::zz),hG⟩) (
 av (xX s 133 wl k false) (aD s.P Tryz.f133) BC .norm ⟨(a::b::d::e::f::o::p::g::q::j::u::l::v::n::vD::zz),hG⟩):=kG
theorem Mw:av (xX s 133 wl k false) (aD s.P Tryz.f133) BC .norm ⟨[a,b,d,e,f,o,p,g,q,j,u,l,v,n,y,A,z,E,D,F,B,L,I,M,J,G,O,N],h⟩ =
 bm (ab s.P 23 b h) h fun vI hH=>
 bm (ab s.P 26 d hH) hH fun vF hI=>
 bm (aa s.P 57 a 2) hI fun vJ hL=>
 bm (ab s.P 55 vJ hL) hL fun vR hN=>
 bp (yC s k wl 133 false true f [vI,vF,vR] hN) fun vH hT=>
 bm (ar vH 0) hT fun vP hU=>
 bm (ar vH 1) hU fun vm he=>
 bs (ai s.P wl 26 d vP he) fun hP=>
 bm (aa s.P 57 a 2) hP fun vQ hZ=>
 bs (ai s.P wl 55 vQ vm hZ) fun hb=>
 bm (aa s.P 57 a 2) hb fun vV hY=>
 bm (ab s.P 55 vV hY) hY fun vp hp=>
 bp (yC s k wl 133 false true (.fn (.func 110) [] []) [vp] hp) fun vq hw=>
 some (vq,hw):=kR
theorem wS (cx:Cx) (s:St):av cx K u4 .ret s=K .ret s:=by kernel_rfl
theorem wg (cx:Cx) (s:St):av cx K BC .ret s=K .ret s:=by kernel_rfl
-- names: ZE,Mk,Mw,wS,wg
theorem Xc:ak (xX s 136 wl k false) Tryz.f136 [a,b,d,e,f] h =
 bm (aa s.P 57 a 0) h fun v1 h2=>
 bs (ai s.P wl 3 v1 (.lit (.int .i64 1)) h2) fun h3=>
 bm (ab s.P 26 b h3) h3 fun v4 h5=>
 bp (yC s k wl 136 false true (.fn (.func 27) [] []) [v4,(.lit (.int .i64 3))] h5) fun v6 h7=>
 bm (az s.P .neq 46 v6 (.lit (.int .u64 0))) h7 fun v8 h9=>
 cnd v8 (
 bm (ab s.P 170 d h9) h9 fun vi hQ=>
 bm (ab s.P 3 e hQ) hQ fun vj hX=>
 bp (yC s k wl 136 false true vi [(.lit (.int .i64 1)),vj] hX) fun vY hK=>
 bm (ab s.P 1 f hK) hK fun vO hF=>
 bp (yC s k wl 136 false true vO [] hF) fun vE hC=>
 some (.tup [],hC)) (
 some (.tup [],h9)):=kB
theorem adh:evF Tryz.prog xM (k+1) wl 136 [a,b,d,e,f] h=ak (xX (xS k) 136 wl k false) Tryz.f136 [a,b,d,e,f] h:=by kernel_rfl
-- names: Xc,
theorem XN:ak (xX s 137 wl k false) Tryz.f137 [a,b,d,e] h =
 bm (ab s.P 26 a h) h fun v1 h2=>
 bp (yC s k wl 137 false true (.fn (.func 138) [] []) [v1,(.lit (.int .i64 0)),(.lit (.int .u64 1))] h2) fun v3 h4=>
 bm (ar v3 0) h4 fun v5 h6=>
 bm (ar v3 1) h6 fun v7 h8=>
 bs (ai s.P wl 26 a v5 h8) fun h9=>
 bm (ab s.P 3 b h9) h9 fun vi hQ=>
 bm (ab s.P 3 d hQ) hQ fun vj hX=>
 bm (gB s.P 3 46 vj) hX fun vY hK=>
 bp (yC s k wl 137 false true (.fn (.func 104) [] []) [(.lit (.int .i64 3)),vi,vY] hK) fun vO hF=>
 bm (aa s.P 57 e 0) hF fun vE hC=>
 bs (ai s.P wl 3 vE (.lit (.int .i64 2)) hC) fun hH=>
 bm (aa s.P 57 e 2) hH fun vF hI=>
 bs (ai s.P wl 55 vF vO hI) fun hM=>
 some (.tup [],hM):=kB
theorem acV:evF Tryz.prog xM (k+1) wl 137 [a,b,d,e] h=ak (xX (xS k) 137 wl k false) Tryz.f137 [a,b,d,e] h:=by kernel_rfl
-- names: XN,
theorem Xj:ak (xX s 139 wl k false) Tryz.f139 [a,b,d,e] h =
 bm (ab s.P 32 a h) h fun v1 h2=>
 bp (yC s k wl 139 false true v1 [] h2) fun v3 h4=>
 bm (vUn .not v3) h4 fun v5 h6=>
 cnd v5 (
 some (.tup [],h6)) (
 bm (aa s.P 57 b 0) h6 fun v7 h8=>
 bs (ai s.P wl 3 v7 (.lit (.int .i64 5)) h8) fun h9=>
 bm (aa s.P 57 b 2) h9 fun vi hQ=>
 bm (aa s.P 55 vi 6) hQ fun vj hX=>
 bm (ab s.P 3 vj hX) hX fun vY hK=>
 bm (az s.P .neq 3 vY (.lit (.int .i64 2))) hK fun vO hF=>
 cnd vO (
 bm (ab s.P 170 d hF) hF fun vE hC=>
 bm (ab s.P 3 e hC) hC fun vK hJ=>
 bp (yC s k wl 139 false true vE [(.lit (.int .i64 0)),vK] hJ) fun vN hM=>
 bm (aa s.P 57 b 0) hM fun vG hO=>
 bs (ai s.P wl 3 vG (.lit (.int .i64 3)) hO) fun hN=>
 some (.tup [],hN)) (
 some (.tup [],hF))):=kB
theorem afe:evF Tryz.prog xM (k+1) wl 139 [a,b,d,e] h=ak (xX (xS k) 139 wl k false) Tryz.f139 [a,b,d,e] h:=by kernel_rfl
-- names: Xj,
theorem YK:ak (xX s 140 wl k false) Tryz.f140 [a,b,d,e] h =
 bm (ab s.P 26 a h) h fun v1 h2=>
 bp (yC s k wl 140 false true (.fn (.func 27) [] []) [v1,(.lit (.int .i64 1))] h2) fun v3 h4=>
 bm (az s.P .neq 46 v3 (.lit (.int .u64 0))) h4 fun v5 h6=>
 cnd v5 (
 bm (ab s.P 1 b h6) h6 fun v7 h8=>
 bp (yC s k wl 140 false true v7 [] h8) fun v9 hA=>
 some (.tup [],hA)) (
 bm (ab s.P 3 d h6) h6 fun vA hB=>
 bp (yC s k wl 140 false true (.fn (.func 104) [] []) [(.lit (.int .i64 6)),vA,(.lit (.int .u64 0))] hB) fun vB hD=>
 bm (aa s.P 57 e 0) hD fun vC hE=>
 bs (ai s.P wl 3 vC (.lit (.int .i64 4)) hE) fun hF=>
 bm (aa s.P 57 e 2) hF fun vE hC=>
 bs (ai s.P wl 55 vE vB hC) fun hH=>
 some (.tup [],hH)):=kB
theorem acP:evF Tryz.prog xM (k+1) wl 140 [a,b,d,e] h=ak (xX (xS k) 140 wl k false) Tryz.f140 [a,b,d,e] h:=by kernel_rfl
-- names: YK,
theorem Zd:ak (xX s 141 wl k false) Tryz.f141 [a,b] h =
 bm (ab s.P 32 a h) h fun v1 h2=>
 bp (yC s k wl 141 false true v1 [] h2) fun v3 h4=>
 cnd v3 (
 bm (ab s.P 1 b h4) h4 fun v5 h6=>
 bp (yC s k wl 141 false true v5 [] h6) fun v7 h8=>
 some (.tup [],h8)) (
 some (.tup [],h4)):=kB
theorem aea:evF Tryz.prog xM (k+1) wl 141 [a,b] h=ak (xX (xS k) 141 wl k false) Tryz.f141 [a,b] h:=by kernel_rfl
-- names: Zd,
theorem ZU:ak (xX s 142 wl k false) Tryz.f142 [a,b,d,e] h =
 bm (ab s.P 26 a h) h fun v1 h2=>
 bp (yC s k wl 142 false true (.fn (.func 138) [] []) [v1,(.lit (.int .i64 0)),(.lit (.int .u64 18446744073709551615))] h2) fun v3 h4=>
 bm (ar v3 0) h4 fun v5 h6=>
 bm (ar v3 1) h6 fun v7 h8=>
 bs (ai s.P wl 26 a v5 h8) fun h9=>
 bm (ab s.P 170 b h9) h9 fun vi hQ=>
 bm (ab s.P 3 d hQ) hQ fun vj hX=>
 bp (yC s k wl 142 false true vi [(.lit (.int .i64 1)),vj] hX) fun vY hK=>
 bm (az s.P .eql 46 v7 (.lit (.int .u64 1))) hK fun vO hF=>
 cnd vO (
 bm (ab s.P 170 b hF) hF fun vE hC=>
 bp (yC s k wl 142 false true vE [(.lit (.int .i64 5)),(.lit (.int .i64 0))] hC) fun vK hJ=>
 bm (ab s.P 1 e hJ) hJ fun vN hM=>
 bp (yC s k wl 142 false true vN [] hM) fun vG hO=>
 some (.tup [],hO)) (
 bm (ab s.P 1 e hF) hF fun vl hs=>
 bp (yC s k wl 142 false true vl [] hs) fun vt hS=>
 some (.tup [],hS)):=kB
theorem aem:evF Tryz.prog xM (k+1) wl 142 [a,b,d,e] h=ak (xX (xS k) 142 wl k false) Tryz.f142 [a,b,d,e] h:=by kernel_rfl
-- names: ZU,
theorem afO:ak (xX s 63 wl k false) Tryz.f63 [a] h =
 bp (aA s.P 57 h) fun v1 h2=>
 bp (yC s k wl 63 false true (.fn (.func 80) [] []) [a] h2) fun v3 h4=>
 bm (bc s.P 57 [(1,v3)]) h4 fun v5 h6=>
 bs (ai s.P wl 57 v1 v5 h6) fun h7=>
 eg [ab s.P 57 v1 h7] h7:=kB
theorem age:evF Tryz.prog xM (k+1) wl 63 [a] h=ak (xX (xS k) 63 wl k false) Tryz.f63 [a] h:=by kernel_rfl
-- names: afO,
end
end Go.Ab
