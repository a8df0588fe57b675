import Derived.Test.YtblpbpnilkfjhaaGreatR6Seat
import Derived.Test.YtblpbpnilkfjhaaGreatAbLibC
set_option linter.unusedVariables false
set_option linter.unusedSimpArgs false
set_option maxRecDepth 100000
set_option linter.unusedVariables false
namespace Go.Ab
open Go.Proofs
section
variable (s:Sys) (k wl:Nat) (m0:Nat) (ac:List Nat×List Nat) (c d g j l q p o e u r z A B F D E G I L N M J O R Q U T Y X Z W t4 t0 t5 t1 t2 t3:V) (h:Hp) (K:Out→St→Option (V×Hp)) (rd:Bool) (n n0:Nat) (zz:List V)
noncomputable def ot:Code:=ak (al Tryz.f21) [1,0,1,0,0]
noncomputable def Eb:List Fr:=[.block 0,.seq (ak (al Tryz.f21) [1,1])]
noncomputable def Ea:Code:=ak (al Tryz.f21) [1,0,1,0,0,0,0]
noncomputable def AH:List Fr:=[.seq (ak (al Tryz.f21) [1,0,1,0,0,0,1]),.seq (ak (al Tryz.f21) [1,0,1,0,0,1])]
theorem aai:ai (xX s 21 wl k false) Tryz.f21 [c] h =
 yI s k wl 21 Tryz.f21 ot h.length Eb k ⟨[(V.kill h.length c),(V.kill h.length uu),(.lit (.bool false)),(.lit (.int .i64 0)),.junk,.junk,.junk,.junk,.junk,.junk,.junk,.junk,.junk,.junk,.junk,.junk,.junk,.junk,.junk,.junk,.junk,(V.kill h.length uu),(V.kill h.length uu),(V.kill h.length uu)],b7 h.length h⟩:=kB
theorem ado:evF Tryz.prog xM (k+1) wl 21 [c] h=ai (xX (xS k) 21 wl k false) Tryz.f21 [c] h:=by kernel_rfl
theorem abB (P:Program):am P Tryz.f21 .ret ⟨[c,d,g,j,l,q,p,o,e,u,r,z,A,B,F,D,E,G,I,L,N,M,J,O],h⟩=some (g,h):=by kernel_rfl
theorem Oi:itX (xX s 21 wl k rd) ot n0 K (n+1) ⟨(c::d::g::j::l::q::p::o::e::u::r::zz),h⟩ =
 bp (a9 s.P 24 c h) fun v1 h2=>
 bm (au s.P .lss 3 j v1) h2 fun v3 h4=>
 gd v3 (
 bm (au s.P .leq 3 j (.lit (.int .i64 40))) h4 fun v5 h6=>
 bz (xX s 21 wl k rd) Ea 7 h.length ([],[]) (ap (xX s 21 wl k rd) (eJ (xX s 21 wl k rd) ot n0 K n) AH) ⟨(c::d::g::j::j::c::v1::v3::(.lit (.bool true))::j::v5::zz),h6⟩) (
 bz (xX s 21 wl k rd) Ea 7 h.length ([],[]) (ap (xX s 21 wl k rd) (eJ (xX s 21 wl k rd) ot n0 K n) AH) ⟨(c::d::g::j::j::c::v1::v3::(.lit (.bool false))::uu::uu::zz),h4⟩) (
 bz (xX s 21 wl k rd) Ea 6 h.length ([],[]) (ap (xX s 21 wl k rd) (eJ (xX s 21 wl k rd) ot n0 K n) AH) ⟨(c::d::g::j::j::c::v1::v3::v3::uu::r::zz),h4⟩):=kI
theorem Hw:ap (xX s 21 wl k false) (am s.P Tryz.f21) Eb (.exit 0) ⟨[c,d,g,j,l,q,p,o,e,u,r,z,A,B,F,D,E,G,I,L,N,M,J,O],h⟩ =
 bp (a9 s.P 24 c h) fun v7 h8=>
 bm (au s.P .leq 3 v7 (.lit (.int .i64 40))) h8 fun v9 hA=>
 some (v9,hA):=kR
theorem JS:bz (xX s 21 wl k rd) Ea 7 m0 ac (ap (xX s 21 wl k rd) (eJ (xX s 21 wl k rd) ot n0 K n) AH) ⟨[c,d,g,j,l,q,p,o,e,u,r,z,A,B,F,D,E,G,I,L,N,M,J,O],h⟩ =
 bm (aM e r (.lit (.bool false))) h fun vA hB=>
 cnd vA (
 bm (aj s.P 24 c j hB) hB fun vB hD=>
 bm (aa s.P 101 vB 1) hD fun vC hE=>
 bm (ab s.P 53 vC hE) hE fun vD hG=>
 bp (a9 s.P 53 vD hG) fun vI hH=>
 bm (au s.P .gtr 3 vI (.lit (.int .i64 40))) hH fun vF hI=>
 cnd vF (
 K .ret ⟨[c,d,(.lit (.bool false)),j,l,q,p,o,e,u,r,vA,A,B,c,j,vB,vC,vD,vI,vF,M,J,O],hI⟩) (
 bm (au s.P .add 3 j (.lit (.int .i64 1))) hI fun vJ hL=>
 itX (xX s 21 wl k rd) ot n0 K n ⟨[(V.kill n0 c),(V.kill n0 d),(V.kill n0 g),(V.kill n0 vJ),.junk,.junk,.junk,.junk,.junk,.junk,.junk,.junk,.junk,.junk,.junk,.junk,.junk,.junk,.junk,.junk,.junk,(V.kill n0 M),(V.kill n0 J),(V.kill n0 O)],b7 n0 hL⟩)) (
 K (.exit 0) ⟨[(V.kill n0 c),(V.kill n0 d),(V.kill n0 g),(V.kill n0 j),.junk,.junk,.junk,.junk,.junk,.junk,.junk,.junk,.junk,.junk,.junk,.junk,.junk,.junk,.junk,.junk,.junk,(V.kill n0 M),(V.kill n0 J),(V.kill n0 O)],b7 n0 hB⟩):=kG
theorem nQ (cx:Cx) (s:St):ap cx K Eb .ret s=K .ret s:=by kernel_rfl
theorem nt (cx:Cx) (s:St):ap cx K AH .ret s=K .ret s:=by kernel_rfl
-- names: aai,abB,Oi,Hw,JS,nQ,nt
noncomputable def Ej:Code:=ak (al Tryz.f56) [1,0,0]
noncomputable def BD:List Fr:=[.seq (ak (al Tryz.f56) [1,0,1]),.seq (ak (al Tryz.f56) [1,1])]
noncomputable def OF:Code:=ak (al Tryz.f56) [1,1,1,0,1,0]
noncomputable def Al:Code:=ak (al Tryz.f56) [1,1,1,0,1,0,0]
noncomputable def Bt:Code:=ak (al Tryz.f56) [1,1,1,0,1,0,1]
noncomputable def rU:List Fr:=[.block 0,.seq (ak (al Tryz.f56) [1,1,1,1])]
noncomputable def nU:Code:=ak (al Tryz.f56) [1,1,1,0,1,0,1,0,0,0]
noncomputable def mN:List Fr:=[.seq (ak (al Tryz.f56) [1,1,1,0,1,0,1,0,0,1]),.seq (ak (al Tryz.f56) [1,1,1,0,1,0,1,0,1]),.block 1]
theorem ry:OF= .rangeFunc (.tmp 17) #[18,19] Al Bt:=by kernel_rfl
theorem YK:ai (xX s 56 wl k false) Tryz.f56 [c] h =
 bp (aL c h) fun v1 h2=>
 bp (aw s.P 4 h2) fun v3 h4=>
 bm (ab s.P 24 v1 h4) h4 fun v5 h6=>
 bp (a9 s.P 24 v5 h6) fun v7 h8=>
 bm (au s.P .gtr 3 v7 (.lit (.int .i64 30))) h8 fun v9 hA=>
 gd v9 (
 yO s k wl 56 Tryz.f56 Ej 6 h4.length ([],[]) BD ⟨[c,v1,v3,uu,uu,uu,v5,v7,v9,(.lit (.bool true)),uu,uu,uu,uu,uu,uu,uu,uu,uu,uu,uu,uu,uu,uu,uu,uu,uu,uu,uu,uu,uu,uu,uu,uu,uu,uu,uu,uu],hA⟩) (
 bm (ab s.P 24 v1 hA) hA fun vA hB=>
 bp (yC s k wl 56 false true (.fn (.func 98) [] []) [vA,(.fn (.func 99) [] [])] hB) fun vB hD=>
 yO s k wl 56 Tryz.f56 Ej 6 h4.length ([],[]) BD ⟨[c,v1,v3,uu,uu,uu,v5,v7,v9,(.lit (.bool false)),vA,vB,uu,uu,uu,uu,uu,uu,uu,uu,uu,uu,uu,uu,uu,uu,uu,uu,uu,uu,uu,uu,uu,uu,uu,uu,uu,uu],hD⟩) (
 yO s k wl 56 Tryz.f56 Ej 5 h4.length ([],[]) BD ⟨[c,v1,v3,uu,uu,uu,v5,v7,v9,v9,uu,uu,uu,uu,uu,uu,uu,uu,uu,uu,uu,uu,uu,uu,uu,uu,uu,uu,uu,uu,uu,uu,uu,uu,uu,uu,uu,uu],hA⟩):=kB
theorem ab3:evF Tryz.prog xM (k+1) wl 56 [c] h=ai (xX (xS k) 56 wl k false) Tryz.f56 [c] h:=by kernel_rfl
theorem YB (P:Program):am P Tryz.f56 .ret ⟨[c,d,g,j,l,q,p,o,e,u,r,z,A,B,F,D,E,G,I,L,N,M,J,O,R,Q,U,T,Y,X,Z,W,t4,t0,t5,t1,t2,t3],h⟩=dK [ab P 4 g h] h:=by kernel_rfl
theorem D9:yO s k wl 56 Tryz.f56 Ej 6 m0 ac BD ⟨(c::d::g::j::l::q::p::o::e::u::r::z::A::B::F::D::E::G::zz),h⟩ =
 bm (aM u (.lit (.bool true)) z) h fun vC hE=>
 cnd vC (
 bs (ah s.P wl 4 g (.lit (.bool false)) hE) fun hF=>
 dK [ab s.P 4 g hF] hF) (
 bm (ab s.P 24 d hE) hE fun vE hC=>
 bp (a9 s.P 24 vE hC) fun vK hJ=>
 bp (bc s.P 150 vK vK hJ) fun vN hM=>
 bp (aw s.P 150 hM) fun vG hO=>
 bs (ah s.P wl 150 vG vN hO) fun hN=>
 bm (ab s.P 24 d hN) hN fun vH hT=>
 bp (yC s k wl 56 false true (.fn (.func 100) [] []) [vH] hT) fun vP hU=>
 be (xX s 56 wl k false) OF none (ap (xX s 56 wl k false) (am s.P Tryz.f56) rU) ⟨(c::d::g::vG::l::q::p::o::e::u::r::z::vC::vE::vK::vN::vH::vP::zz),hU⟩):=kG
theorem Ew:ap (xX s 56 wl k false) (am s.P Tryz.f56) rU .norm ⟨(c::d::g::zz),h⟩ =
 bs (ah s.P wl 4 g (.lit (.bool true)) h) fun hV=>
 dK [ab s.P 4 g hV] hV:=kR
theorem dI:ap (xX s 56 wl k rd) K [.seq Bt] .norm ⟨[c,d,g,j,l,q,p,o,e,u,r,z,A,B,F,D,E,G,I,L,N,M,J,O,R,Q,U,T,Y,X,Z,W,t4,t0,t5,t1,t2,t3],h⟩ =
 bm (au s.P .leq 3 l q) h fun vL hP=>
 gd vL (
 bz (xX s 56 wl k rd) nU 8 h.length ([],[]) (ap (xX s 56 wl k rd) K mN) ⟨[c,d,g,j,l,q,p,o,e,u,r,z,A,B,F,D,E,G,I,L,l,q,vL,(.lit (.bool true)),uu,uu,uu,uu,Y,X,Z,W,t4,t0,t5,t1,t2,t3],hP⟩) (
 bm (ab s.P 24 d hP) hP fun vQ hZ=>
 bp (a9 s.P 24 vQ hZ) fun va hq=>
 bm (au s.P .geq 3 l va) hq fun vW hg=>
 bz (xX s 56 wl k rd) nU 8 h.length ([],[]) (ap (xX s 56 wl k rd) K mN) ⟨[c,d,g,j,l,q,p,o,e,u,r,z,A,B,F,D,E,G,I,L,l,q,vL,(.lit (.bool false)),l,vQ,va,vW,Y,X,Z,W,t4,t0,t5,t1,t2,t3],hg⟩) (
 bz (xX s 56 wl k rd) nU 5 h.length ([],[]) (ap (xX s 56 wl k rd) K mN) ⟨[c,d,g,j,l,q,p,o,e,u,r,z,A,B,F,D,E,G,I,L,l,q,vL,vL,uu,Q,U,T,Y,X,Z,W,t4,t0,t5,t1,t2,t3],hP⟩):=kR
theorem dG:ap (xX s 56 wl k rd) K [.seq Al] .norm ⟨(c::d::g::j::l::q::p::o::e::u::r::z::A::B::F::D::E::G::I::L::zz),h⟩ =
 K .norm ⟨(c::d::g::j::I::L::p::o::e::u::r::z::A::B::F::D::E::G::I::L::zz),h⟩:=kR
theorem Fx:bz (xX s 56 wl k rd) nU 8 m0 ac (ap (xX s 56 wl k rd) K mN) ⟨[c,d,g,j,l,q,p,o,e,u,r,z,A,B,F,D,E,G,I,L,N,M,J,O,R,Q,U,T,Y,X,Z,W,t4,t0,t5,t1,t2,t3],h⟩ =
 bm (aM O (.lit (.bool true)) T) h fun vM hW=>
 gd vM (
 bz (xX s 56 wl k rd) nU 14 m0 ac (ap (xX s 56 wl k rd) K mN) ⟨[c,d,g,j,l,q,p,o,e,u,r,z,A,B,F,D,E,G,I,L,N,M,J,O,R,Q,U,T,vM,(.lit (.bool true)),uu,uu,uu,uu,t5,t1,t2,t3],hW⟩) (
 bm (ab s.P 150 j hW) hW fun vb ha=>
 bm (aj s.P 150 vb l ha) ha fun vc hh=>
 bm (ab s.P 4 vc hh) hh fun vk hc=>
 bz (xX s 56 wl k rd) nU 14 m0 ac (ap (xX s 56 wl k rd) K mN) ⟨[c,d,g,j,l,q,p,o,e,u,r,z,A,B,F,D,E,G,I,L,N,M,J,O,R,Q,U,T,vM,(.lit (.bool false)),vb,l,vc,vk,t5,t1,t2,t3],hc⟩) (
 bz (xX s 56 wl k rd) nU 11 m0 ac (ap (xX s 56 wl k rd) K mN) ⟨[c,d,g,j,l,q,p,o,e,u,r,z,A,B,F,D,E,G,I,L,N,M,J,O,R,Q,U,T,vM,vM,uu,W,t4,t0,t5,t1,t2,t3],hW⟩):=kG
theorem Fu:bz (xX s 56 wl k rd) nU 14 m0 ac (ap (xX s 56 wl k rd) K mN) ⟨[c,d,g,j,l,q,p,o,e,u,r,z,A,B,F,D,E,G,I,L,N,M,J,O,R,Q,U,T,Y,X,Z,W,t4,t0,t5,t1,t2,t3],h⟩ =
 bm (aM X (.lit (.bool true)) t0) h fun vX hR=>
 cnd vX (
 bs (ah s.P wl 4 g (.lit (.bool false)) hR) fun hz=>
 K .ret ⟨[c,d,g,j,l,q,p,o,e,u,r,z,A,B,F,D,E,G,I,L,N,M,J,O,R,Q,U,T,Y,X,Z,W,t4,t0,vX,t1,t2,t3],hz⟩) (
 bm (ab s.P 150 j hR) hR fun vr hr=>
 bm (aj s.P 150 vr l hr) hr fun vs hd=>
 bs (ah s.P wl 4 vs (.lit (.bool true)) hd) fun hi=>
 K .norm ⟨[c,d,g,j,l,q,p,o,e,u,r,z,A,B,F,D,E,G,I,L,N,M,J,O,R,Q,U,T,Y,X,Z,W,t4,t0,vX,vr,l,vs],hi⟩):=kG
theorem k7 (cx:Cx) (s:St):ap cx K BD .ret s=K .ret s:=by kernel_rfl
theorem ln (cx:Cx) (s:St):ap cx K rU .ret s=K .ret s:=by kernel_rfl
theorem lb (cx:Cx) (s:St):ap cx K mN .ret s=K .ret s:=by kernel_rfl
-- names: YK,YB,D9,Ew,dI,dG,Fx,Fu,k7,ln,lb
-- range over a function at [1,1,1,0,1,0]
noncomputable def uq:Code:=ak (al Tryz.f57) [1,1,1,0,1,0,0]
noncomputable def Aj:List Fr:=[.block 0,.seq (ak (al Tryz.f57) [1,1,1,1])]
theorem TY:ai (xX s 57 wl k false) Tryz.f57 [c] h =
 bp (some (.own h.length 0 0,h++[.rows 0 [] 0 true])) fun v1 h2=>
 bp (yC s k wl 57 false true (.fn (.func 56) [] []) [c] h2) fun v3 h4=>
 bm (vUn .not v3) h4 fun v5 h6=>
 cnd v5 (
 bp (some (.own h6.length 0 0,h6++[.rows 0 [] 0 true])) fun v7 h8=>
 some (v7,h8)) (
 bp (some (.own h6.length 0 0,h6++[.rows 0 [] 0 true])) fun v9 hA=>
 bp (a9 s.P 24 c hA) fun vA hB=>
 yI s k wl 57 Tryz.f57 uq hB.length Aj k ⟨[(V.kill hB.length c),(V.kill hB.length uu),(V.kill hB.length v1),(V.kill hB.length v9),(V.kill hB.length uu),(V.kill hB.length c),(V.kill hB.length v3),(V.kill hB.length v5),(V.kill hB.length c),(V.kill hB.length vA),(.lit (.int .i64 0)),.junk,.junk,.junk,.junk,.junk,.junk,.junk,.junk,.junk,.junk,.junk,(V.kill hB.length uu)],b7 hB.length hB⟩):=kB
theorem UZ:evF Tryz.prog xM (k+1) wl 57 [c] h=ai (xX (xS k) 57 wl k false) Tryz.f57 [c] h:=by kernel_rfl
theorem TX (P:Program):am P Tryz.f57 .ret ⟨[c,d,g,j,l,q,p,o,e,u,r,z,A,B,F,D,E,G,I,L,N,M,J],h⟩=some (g,h):=by kernel_rfl
theorem Ox:itX (xX s 57 wl k rd) uq n0 K (n+1) ⟨[c,d,g,j,l,q,p,o,e,u,r,z,A,B,F,D,E,G,I,L,N,M,J],h⟩ =
 bm (au s.P .lss 3 r u) h fun vB hD=>
 cnd vB (
 bp (bZ (xX s 57 wl k rd) false true (.fn (.func 101) [] []) [c,r] hD) fun vC hE=>
 bm (au s.P .eql 3 vC (.lit (.int .i64 (-1)))) hE fun vD hG=>
 cnd vD (
 bp (aA s.P wl 53 1 [(0,r)] hG) fun vI hH=>
 bp (gL s.P wl 53 53 j vI hH) fun vF hI=>
 bm (au s.P .add 3 r (.lit (.int .i64 1))) hI fun vJ hL=>
 itX (xX s 57 wl k rd) uq n0 K n ⟨[(V.kill n0 c),(V.kill n0 d),(V.kill n0 g),(V.kill n0 vF),(V.kill n0 r),(V.kill n0 q),(V.kill n0 p),(V.kill n0 o),(V.kill n0 e),(V.kill n0 u),(V.kill n0 vJ),.junk,.junk,.junk,.junk,.junk,.junk,.junk,.junk,.junk,.junk,.junk,(V.kill n0 J)],b7 n0 hL⟩) (
 bm (au s.P .add 3 r (.lit (.int .i64 1))) hG fun vR hN=>
 itX (xX s 57 wl k rd) uq n0 K n ⟨[(V.kill n0 c),(V.kill n0 d),(V.kill n0 g),(V.kill n0 j),(V.kill n0 r),(V.kill n0 q),(V.kill n0 p),(V.kill n0 o),(V.kill n0 e),(V.kill n0 u),(V.kill n0 vR),.junk,.junk,.junk,.junk,.junk,.junk,.junk,.junk,.junk,.junk,.junk,(V.kill n0 J)],b7 n0 hN⟩)) (
 K (.exit 0) ⟨[(V.kill n0 c),(V.kill n0 d),(V.kill n0 g),(V.kill n0 j),(V.kill n0 l),(V.kill n0 q),(V.kill n0 p),(V.kill n0 o),(V.kill n0 e),(V.kill n0 u),.junk,.junk,.junk,.junk,.junk,.junk,.junk,.junk,.junk,.junk,.junk,.junk,(V.kill n0 J)],b7 n0 hD⟩):=kI
theorem rZ:ap (xX s 57 wl k false) (am s.P Tryz.f57) Aj (.exit 0) ⟨[c,d,g,j,l,q,p,o,e,u,r,z,A,B,F,D,E,G,I,L,N,M,J],h⟩ =
 some (j,h):=kR
theorem f9 (cx:Cx) (s:St):ap cx K Aj .ret s=K .ret s:=by kernel_rfl
-- names: TY,TX,Ox,rZ,f9
theorem Ut:ai (xX s 98 wl k false) Tryz.f98 [c,d] h =
 bp (yC s k wl 98 false true (.fn (.func 147) [] []) [c,d] h) fun v1 h2=>
 bm (au s.P .geq 3 v1 (.lit (.int .i64 0))) h2 fun v3 h4=>
 some (v3,h4):=kB
theorem YC:evF Tryz.prog xM (k+1) wl 98 [c,d] h=ai (xX (xS k) 98 wl k false) Tryz.f98 [c,d] h:=by kernel_rfl
-- names: Ut,
noncomputable def EW:Code:=ak (al Tryz.f99) [1,0]
noncomputable def Bn:List Fr:=[.seq (ak (al Tryz.f99) [1,1])]
theorem Yq:ai (xX s 99 wl k false) Tryz.f99 [c] h =
 bp (aL c h) fun v1 h2=>
 bm (aa s.P 101 v1 0) h2 fun v3 h4=>
 bm (ab s.P 3 v3 h4) h4 fun v5 h6=>
 bm (au s.P .lss 3 v5 (.lit (.int .i64 0))) h6 fun v7 h8=>
 gd v7 (
 yO s k wl 99 Tryz.f99 EW 7 h2.length ([],[]) Bn ⟨[c,v1,(.lit (.bool false)),v3,v5,v7,(.lit (.bool true)),uu,uu,uu,uu],h8⟩) (
 bm (aa s.P 101 v1 0) h8 fun v9 hA=>
 bm (ab s.P 3 v9 hA) hA fun vA hB=>
 bm (au s.P .gtr 3 vA (.lit (.int .i64 20))) hB fun vB hD=>
 yO s k wl 99 Tryz.f99 EW 7 h2.length ([],[]) Bn ⟨[c,v1,(.lit (.bool false)),v3,v5,v7,(.lit (.bool false)),v9,vA,vB,uu],hD⟩) (
 yO s k wl 99 Tryz.f99 EW 5 h2.length ([],[]) Bn ⟨[c,v1,(.lit (.bool false)),v3,v5,v7,v7,uu,uu,uu,uu],h8⟩):=kB
theorem YL:evF Tryz.prog xM (k+1) wl 99 [c] h=ai (xX (xS k) 99 wl k false) Tryz.f99 [c] h:=by kernel_rfl
theorem Au:yO s k wl 99 Tryz.f99 EW 7 m0 ac Bn ⟨[c,d,g,j,l,q,p,o,e,u,r],h⟩ =
 bm (aM p (.lit (.bool true)) u) h fun vC hE=>
 some (vC,hE):=kG
theorem iw (cx:Cx) (s:St):ap cx K Bn .ret s=K .ret s:=by kernel_rfl
-- names: Yq,Au,iw
theorem C2:ai (xX s 100 wl k false) Tryz.f100 [c] h =
 bp (aL c h) fun v1 h2=>
 some ((.fn (.func 148) [] [v1]),h2):=kB
theorem FH:evF Tryz.prog xM (k+1) wl 100 [c] h=ai (xX (xS k) 100 wl k false) Tryz.f100 [c] h:=by kernel_rfl
-- names: C2,
noncomputable def wv:Code:=ak (al Tryz.f147) [1,0,1,0,0]
noncomputable def wq:List Fr:=[.block 0,.seq (ak (al Tryz.f147) [1,1])]
theorem Do:ai (xX s 147 wl k false) Tryz.f147 [c,d] h =
 bp (a9 s.P 24 c h) fun v1 h2=>
 yI s k wl 147 Tryz.f147 wv h2.length wq k ⟨[(V.kill h2.length c),(V.kill h2.length d),(V.kill h2.length uu),(V.kill h2.length uu),(.lit (.int .i64 0)),(V.kill h2.length uu),(V.kill h2.length c),(V.kill h2.length v1),(.lit (.int .i64 0)),.junk,.junk,.junk,.junk,.junk,.junk,.junk,.junk,.junk,.junk],b7 h2.length h2⟩:=kB
theorem FX:evF Tryz.prog xM (k+1) wl 147 [c,d] h=ai (xX (xS k) 147 wl k false) Tryz.f147 [c,d] h:=by kernel_rfl
theorem CX (P:Program):am P Tryz.f147 .ret ⟨[c,d,g,j,l,q,p,o,e,u,r,z,A,B,F,D,E,G,I],h⟩=some (l,h):=by kernel_rfl
theorem Hf:itX (xX s 147 wl k rd) wv n0 K (n+1) ⟨[c,d,g,j,l,q,p,o,e,u,r,z,A,B,F,D,E,G,I],h⟩ =
 bm (au s.P .lss 3 e o) h fun v3 h4=>
 cnd v3 (
 bm (aj s.P 24 c e h4) h4 fun v5 h6=>
 bm (ab s.P 101 v5 h6) h6 fun v7 h8=>
 bp (bZ (xX s 147 wl k rd) false true d [v7] h8) fun v9 hA=>
 cnd v9 (
 K .ret ⟨[c,d,g,j,e,e,p,o,e,v3,e,d,c,e,v5,v7,v9,e,I],hA⟩) (
 bm (au s.P .add 3 e (.lit (.int .i64 1))) hA fun vA hB=>
 itX (xX s 147 wl k rd) wv n0 K n ⟨[(V.kill n0 c),(V.kill n0 d),(V.kill n0 g),(V.kill n0 j),(V.kill n0 l),(V.kill n0 e),(V.kill n0 p),(V.kill n0 o),(V.kill n0 vA),.junk,.junk,.junk,.junk,.junk,.junk,.junk,.junk,.junk,.junk],b7 n0 hB⟩)) (
 K (.exit 0) ⟨[(V.kill n0 c),(V.kill n0 d),(V.kill n0 g),(V.kill n0 j),(V.kill n0 l),(V.kill n0 q),(V.kill n0 p),(V.kill n0 o),.junk,.junk,.junk,.junk,.junk,.junk,.junk,.junk,.junk,.junk,.junk],b7 n0 h4⟩):=kI
theorem mn:ap (xX s 147 wl k false) (am s.P Tryz.f147) wq (.exit 0) ⟨[c,d,g,j,l,q,p,o,e,u,r,z,A,B,F,D,E,G,I],h⟩ =
 some ((.lit (.int .i64 (-1))),h):=kR
theorem eG (cx:Cx) (s:St):ap cx K wq .ret s=K .ret s:=by kernel_rfl
-- names: Do,CX,Hf,mn,eG
noncomputable def gH:Code:=ak (al Tryz.f148) [1,0,0]
noncomputable def i6:List Fr:=[.block 0]
noncomputable def rz:Code:=ak (al Tryz.f148) [1,0,0,1,1,0,0,1,1,0,0]
noncomputable def pB:List Fr:=[.block 2,.block 1,.seq (ak (al Tryz.f148) [1,0,0,1,1,1])]
theorem CW:ai (xX s 148 wl k false) Tryz.f148 [c,d] h =
 bm (ab s.P 24 d h) h fun v1 h2=>
 bp (a9 s.P 24 v1 h2) fun v3 h4=>
 yI s k wl 148 Tryz.f148 gH h4.length i6 k ⟨[(V.kill h4.length c),(V.kill h4.length d),(V.kill h4.length uu),(V.kill h4.length uu),(V.kill h4.length uu),(V.kill h4.length uu),(V.kill h4.length uu),(V.kill h4.length v1),(V.kill h4.length v3),(.lit (.int .i64 0)),.junk,.junk,.junk,.junk,.junk,.junk,.junk,.junk,.junk,.junk,.junk,.junk,.junk,.junk,.junk,.junk,.junk,.junk],b7 h4.length h4⟩:=kB
theorem FZ:evF Tryz.prog xM (k+1) wl 148 [c,d] h=ai (xX (xS k) 148 wl k false) Tryz.f148 [c,d] h:=by kernel_rfl
theorem DL (P:Program):am P Tryz.f148 .ret ⟨[c,d,g,j,l,q,p,o,e,u,r,z,A,B,F,D,E,G,I,L,N,M,J,O,R,Q,U,T],h⟩=some (.tup [],h):=by kernel_rfl
theorem DI:itX (xX s 148 wl k rd) gH n0 K (n+1) ⟨[c,d,g,j,l,q,p,o,e,u,r,z,A,B,F,D,E,G,I,L,N,M,J,O,R,Q,U,T],h⟩ =
 bm (au s.P .lss 3 u e) h fun v5 h6=>
 cnd v5 (
 bm (aj s.P 24 o u h6) h6 fun v7 h8=>
 bm (ab s.P 101 v7 h8) h8 fun v9 hA=>
 bp (aw s.P 101 hA) fun vA hB=>
 bs (ah s.P wl 101 vA v9 hB) fun hX=>
 bm (aa s.P 101 vA 1) hX fun vY hK=>
 bm (ab s.P 53 vY hK) hK fun vO hF=>
 bp (a9 s.P 53 vO hF) fun vE hC=>
 itX (xX s 148 wl k rd) rz hC.length (ap (xX s 148 wl k rd) (eJ (xX s 148 wl k rd) gH n0 K n) pB) k ⟨[(V.kill hC.length c),(V.kill hC.length d),(V.kill hC.length g),(V.kill hC.length u),(V.kill hC.length vA),(V.kill hC.length q),(V.kill hC.length p),(V.kill hC.length o),(V.kill hC.length e),(V.kill hC.length u),(V.kill hC.length v5),(V.kill hC.length u),(V.kill hC.length v7),(V.kill hC.length v9),(V.kill hC.length vY),(V.kill hC.length vO),(V.kill hC.length vE),(.lit (.int .i64 0)),.junk,.junk,.junk,.junk,.junk,.junk,.junk,.junk,.junk,(V.kill hC.length T)],b7 hC.length hC⟩) (
 K (.exit 0) ⟨[(V.kill n0 c),(V.kill n0 d),(V.kill n0 g),(V.kill n0 j),(V.kill n0 l),(V.kill n0 q),(V.kill n0 p),(V.kill n0 o),(V.kill n0 e),.junk,.junk,.junk,.junk,.junk,.junk,.junk,.junk,.junk,.junk,.junk,.junk,.junk,.junk,.junk,.junk,.junk,.junk,.junk],b7 n0 h6⟩):=kI
theorem lY:ap (xX s 148 wl k false) (am s.P Tryz.f148) i6 (.exit 0) ⟨(c::zz),h⟩ =
 some (.tup [],h):=kR
theorem Cg:itX (xX s 148 wl k rd) rz n0 K (n+1) ⟨[c,d,g,j,l,q,p,o,e,u,r,z,A,B,F,D,E,G,I,L,N,M,J,O,R,Q,U,T],h⟩ =
 bm (au s.P .lss 3 G E) h fun vK hJ=>
 cnd vK (
 bm (aj s.P 53 D G hJ) hJ fun vN hM=>
 bm (ab s.P 3 vN hM) hM fun vG hO=>
 bp (bZ (xX s 148 wl k rd) false true c [vG,j] hO) fun vl hs=>
 bm (vUn .not vl) hs fun vt hS=>
 cnd vt (
 K .ret ⟨[c,d,g,j,l,q,vG,o,e,u,r,z,A,B,F,D,E,G,vK,vN,vG,c,vG,j,vl,vt,U,T],hS⟩) (
 bm (au s.P .add 3 G (.lit (.int .i64 1))) hS fun vS hV=>
 itX (xX s 148 wl k rd) rz n0 K n ⟨[(V.kill n0 c),(V.kill n0 d),(V.kill n0 g),(V.kill n0 j),(V.kill n0 l),(V.kill n0 q),(V.kill n0 vG),(V.kill n0 o),(V.kill n0 e),(V.kill n0 u),(V.kill n0 r),(V.kill n0 z),(V.kill n0 A),(V.kill n0 B),(V.kill n0 F),(V.kill n0 D),(V.kill n0 E),(V.kill n0 vS),.junk,.junk,.junk,.junk,.junk,.junk,.junk,.junk,.junk,(V.kill n0 T)],b7 n0 hV⟩)) (
 K (.exit 2) ⟨[(V.kill n0 c),(V.kill n0 d),(V.kill n0 g),(V.kill n0 j),(V.kill n0 l),(V.kill n0 q),(V.kill n0 p),(V.kill n0 o),(V.kill n0 e),(V.kill n0 u),(V.kill n0 r),(V.kill n0 z),(V.kill n0 A),(V.kill n0 B),(V.kill n0 F),(V.kill n0 D),(V.kill n0 E),.junk,.junk,.junk,.junk,.junk,.junk,.junk,.junk,.junk,.junk,(V.kill n0 T)],b7 n0 hJ⟩):=kI
theorem lE:ap (xX s 148 wl k rd) (eJ (xX s 148 wl k rd) gH n0 K n) pB (.exit 2) ⟨[c,d,g,j,l,q,p,o,e,u,r,z,A,B,F,D,E,G,I,L,N,M,J,O,R,Q,U,T],h⟩ =
 bm (au s.P .add 3 u (.lit (.int .i64 1))) h fun vL hP=>
 itX (xX s 148 wl k rd) gH n0 K n ⟨[(V.kill n0 c),(V.kill n0 d),(V.kill n0 g),(V.kill n0 j),(V.kill n0 l),(V.kill n0 q),(V.kill n0 p),(V.kill n0 o),(V.kill n0 e),(V.kill n0 vL),.junk,.junk,.junk,.junk,.junk,.junk,.junk,.junk,.junk,.junk,.junk,.junk,.junk,.junk,.junk,.junk,.junk,.junk],b7 n0 hP⟩:=kR
theorem eH (cx:Cx) (s:St):ap cx K i6 .ret s=K .ret s:=by kernel_rfl
theorem eD (cx:Cx) (s:St):ap cx K pB .ret s=K .ret s:=by kernel_rfl
-- names: CW,DL,DI,lY,Cg,lE,eH,eD
noncomputable def Fg:Code:=ak (al Tryz.f97) [1,0,1,0,0]
noncomputable def EN:List Fr:=[.block 0,.seq (ak (al Tryz.f97) [1,1])]
theorem VU:ai (xX s 97 wl k false) Tryz.f97 [c,d] h =
 bp (a9 s.P 53 c h) fun v1 h2=>
 yI s k wl 97 Tryz.f97 Fg h2.length EN k ⟨[(V.kill h2.length c),(V.kill h2.length d),(V.kill h2.length uu),(V.kill h2.length uu),(.lit (.int .i64 0)),(V.kill h2.length uu),(V.kill h2.length c),(V.kill h2.length v1),(.lit (.int .i64 0)),.junk,.junk,.junk,.junk,.junk,.junk,.junk,.junk,.junk,.junk],b7 h2.length h2⟩:=kB
theorem YF:evF Tryz.prog xM (k+1) wl 97 [c,d] h=ai (xX (xS k) 97 wl k false) Tryz.f97 [c,d] h:=by kernel_rfl
theorem Xk (P:Program):am P Tryz.f97 .ret ⟨[c,d,g,j,l,q,p,o,e,u,r,z,A,B,F,D,E,G,I],h⟩=some (l,h):=by kernel_rfl
theorem OY:itX (xX s 97 wl k rd) Fg n0 K (n+1) ⟨[c,d,g,j,l,q,p,o,e,u,r,z,A,B,F,D,E,G,I],h⟩ =
 bm (au s.P .lss 3 e o) h fun v3 h4=>
 cnd v3 (
 bm (aj s.P 53 c e h4) h4 fun v5 h6=>
 bm (ab s.P 3 v5 h6) h6 fun v7 h8=>
 bp (bZ (xX s 97 wl k rd) false true d [v7] h8) fun v9 hA=>
 cnd v9 (
 K .ret ⟨[c,d,g,j,e,e,p,o,e,v3,e,d,c,e,v5,v7,v9,e,I],hA⟩) (
 bm (au s.P .add 3 e (.lit (.int .i64 1))) hA fun vA hB=>
 itX (xX s 97 wl k rd) Fg n0 K n ⟨[(V.kill n0 c),(V.kill n0 d),(V.kill n0 g),(V.kill n0 j),(V.kill n0 l),(V.kill n0 e),(V.kill n0 p),(V.kill n0 o),(V.kill n0 vA),.junk,.junk,.junk,.junk,.junk,.junk,.junk,.junk,.junk,.junk],b7 n0 hB⟩)) (
 K (.exit 0) ⟨[(V.kill n0 c),(V.kill n0 d),(V.kill n0 g),(V.kill n0 j),(V.kill n0 l),(V.kill n0 q),(V.kill n0 p),(V.kill n0 o),.junk,.junk,.junk,.junk,.junk,.junk,.junk,.junk,.junk,.junk,.junk],b7 n0 h4⟩):=kI
theorem Av:ap (xX s 97 wl k false) (am s.P Tryz.f97) EN (.exit 0) ⟨[c,d,g,j,l,q,p,o,e,u,r,z,A,B,F,D,E,G,I],h⟩ =
 some ((.lit (.int .i64 (-1))),h):=kR
theorem iK (cx:Cx) (s:St):ap cx K EN .ret s=K .ret s:=by kernel_rfl
-- names: VU,Xk,OY,Av,iK
theorem VD:ai (xX s 55 wl k false) Tryz.f55 [c,d] h =
 bp (yC s k wl 55 false true (.fn (.func 97) [] []) [c,d] h) fun v1 h2=>
 bm (au s.P .geq 3 v1 (.lit (.int .i64 0))) h2 fun v3 h4=>
 some (v3,h4):=kB
theorem YD:evF Tryz.prog xM (k+1) wl 55 [c,d] h=ai (xX (xS k) 55 wl k false) Tryz.f55 [c,d] h:=by kernel_rfl
-- names: VD,
theorem Kk:ai (xX s 52 wl k false) Tryz.f52 [c,d] h =
 bp (yC s k wl 52 false true (.fn (.func 96) [] []) [c,d] h) fun v1 h2=>
 bm (au s.P .geq 3 v1 (.lit (.int .i64 0))) h2 fun v3 h4=>
 some (v3,h4):=kB
theorem Nx:evF Tryz.prog xM (k+1) wl 52 [c,d] h=ai (xX (xS k) 52 wl k false) Tryz.f52 [c,d] h:=by kernel_rfl
-- names: Kk,
noncomputable def uw:Code:=ak (al Tryz.f96) [1,0,1,0,0]
noncomputable def r4:List Fr:=[.block 0,.seq (ak (al Tryz.f96) [1,1])]
theorem Ft:ai (xX s 96 wl k false) Tryz.f96 [c,d] h =
 bp (a9 s.P 28 c h) fun v1 h2=>
 yI s k wl 96 Tryz.f96 uw h2.length r4 k ⟨[(V.kill h2.length c),(V.kill h2.length d),(V.kill h2.length uu),(V.kill h2.length uu),(.lit (.int .i64 0)),(V.kill h2.length uu),(V.kill h2.length c),(V.kill h2.length v1),(.lit (.int .i64 0)),.junk,.junk,.junk,.junk,.junk,.junk,.junk,.junk,.junk,.junk],b7 h2.length h2⟩:=kB
theorem Gz:evF Tryz.prog xM (k+1) wl 96 [c,d] h=ai (xX (xS k) 96 wl k false) Tryz.f96 [c,d] h:=by kernel_rfl
theorem EJ (P:Program):am P Tryz.f96 .ret ⟨[c,d,g,j,l,q,p,o,e,u,r,z,A,B,F,D,E,G,I],h⟩=some (l,h):=by kernel_rfl
theorem Ec:itX (xX s 96 wl k rd) uw n0 K (n+1) ⟨[c,d,g,j,l,q,p,o,e,u,r,z,A,B,F,D,E,G,I],h⟩ =
 bm (au s.P .lss 3 e o) h fun v3 h4=>
 cnd v3 (
 bm (aj s.P 28 c e h4) h4 fun v5 h6=>
 bm (ab s.P 57 v5 h6) h6 fun v7 h8=>
 bp (bZ (xX s 96 wl k rd) false true d [v7] h8) fun v9 hA=>
 cnd v9 (
 K .ret ⟨[c,d,g,j,e,e,p,o,e,v3,e,d,c,e,v5,v7,v9,e,I],hA⟩) (
 bm (au s.P .add 3 e (.lit (.int .i64 1))) hA fun vA hB=>
 itX (xX s 96 wl k rd) uw n0 K n ⟨[(V.kill n0 c),(V.kill n0 d),(V.kill n0 g),(V.kill n0 j),(V.kill n0 l),(V.kill n0 e),(V.kill n0 p),(V.kill n0 o),(V.kill n0 vA),.junk,.junk,.junk,.junk,.junk,.junk,.junk,.junk,.junk,.junk],b7 n0 hB⟩)) (
 K (.exit 0) ⟨[(V.kill n0 c),(V.kill n0 d),(V.kill n0 g),(V.kill n0 j),(V.kill n0 l),(V.kill n0 q),(V.kill n0 p),(V.kill n0 o),.junk,.junk,.junk,.junk,.junk,.junk,.junk,.junk,.junk,.junk,.junk],b7 n0 h4⟩):=kI
theorem gR:ap (xX s 96 wl k false) (am s.P Tryz.f96) r4 (.exit 0) ⟨[c,d,g,j,l,q,p,o,e,u,r,z,A,B,F,D,E,G,I],h⟩ =
 some ((.lit (.int .i64 (-1))),h):=kR
theorem co (cx:Cx) (s:St):ap cx K r4 .ret s=K .ret s:=by kernel_rfl
-- names: Ft,EJ,Ec,gR,co
noncomputable def Et:Code:=ak (al Tryz.f61) [1,0,1,0,0]
noncomputable def EY:List Fr:=[.block 0,.seq (ak (al Tryz.f61) [1,1])]
theorem Zi:ai (xX s 61 wl k false) Tryz.f61 [c,d] h =
 bp (a9 s.P 53 c h) fun v1 h2=>
 yI s k wl 61 Tryz.f61 Et h2.length EY k ⟨[(V.kill h2.length c),(V.kill h2.length d),(V.kill h2.length uu),(V.kill h2.length uu),(.lit (.int .i64 0)),(V.kill h2.length uu),(V.kill h2.length c),(V.kill h2.length v1),(.lit (.int .i64 0)),.junk,.junk,.junk,.junk,.junk,.junk,.junk,.junk,.junk,.junk],b7 h2.length h2⟩:=kB
theorem ac8:evF Tryz.prog xM (k+1) wl 61 [c,d] h=ai (xX (xS k) 61 wl k false) Tryz.f61 [c,d] h:=by kernel_rfl
theorem acP (P:Program):am P Tryz.f61 .ret ⟨[c,d,g,j,l,q,p,o,e,u,r,z,A,B,F,D,E,G,I],h⟩=some (l,h):=by kernel_rfl
theorem N8:itX (xX s 61 wl k rd) Et n0 K (n+1) ⟨[c,d,g,j,l,q,p,o,e,u,r,z,A,B,F,D,E,G,I],h⟩ =
 bm (au s.P .lss 3 e o) h fun v3 h4=>
 cnd v3 (
 bm (aj s.P 53 c e h4) h4 fun v5 h6=>
 bm (ab s.P 3 v5 h6) h6 fun v7 h8=>
 bm (au s.P .eql 3 d v7) h8 fun v9 hA=>
 cnd v9 (
 K .ret ⟨[c,d,g,j,e,e,p,o,e,v3,e,d,c,e,v5,v7,v9,e,I],hA⟩) (
 bm (au s.P .add 3 e (.lit (.int .i64 1))) hA fun vA hB=>
 itX (xX s 61 wl k rd) Et n0 K n ⟨[(V.kill n0 c),(V.kill n0 d),(V.kill n0 g),(V.kill n0 j),(V.kill n0 l),(V.kill n0 e),(V.kill n0 p),(V.kill n0 o),(V.kill n0 vA),.junk,.junk,.junk,.junk,.junk,.junk,.junk,.junk,.junk,.junk],b7 n0 hB⟩)) (
 K (.exit 0) ⟨[(V.kill n0 c),(V.kill n0 d),(V.kill n0 g),(V.kill n0 j),(V.kill n0 l),(V.kill n0 q),(V.kill n0 p),(V.kill n0 o),.junk,.junk,.junk,.junk,.junk,.junk,.junk,.junk,.junk,.junk,.junk],b7 n0 h4⟩):=kI
theorem IN:ap (xX s 61 wl k false) (am s.P Tryz.f61) EY (.exit 0) ⟨[c,d,g,j,l,q,p,o,e,u,r,z,A,B,F,D,E,G,I],h⟩ =
 some ((.lit (.int .i64 (-1))),h):=kR
theorem m7 (cx:Cx) (s:St):ap cx K EY .ret s=K .ret s:=by kernel_rfl
-- names: Zi,acP,N8,IN,m7
noncomputable def Ju:Code:=ak (al Tryz.f101) [1,0,1,0,1,0]
noncomputable def re:Code:=ak (al Tryz.f101) [1,0,1,0,1,0,0]
noncomputable def o4:Code:=ak (al Tryz.f101) [1,0,1,0,1,0,1]
noncomputable def nC:List Fr:=[.block 0,.seq (ak (al Tryz.f101) [1,1])]
theorem nh:Ju= .rangeFunc (.tmp 10) #[11,12] re o4:=by kernel_rfl
theorem Lj:ai (xX s 101 wl k false) Tryz.f101 [c,d] h =
 bp (aL d h) fun v1 h2=>
 bp (aw s.P 3 h2) fun v3 h4=>
 bp (yC s k wl 101 false true (.fn (.func 56) [] []) [c] h4) fun v5 h6=>
 cnd v5 (
 bp (yC s k wl 101 false true (.fn (.func 100) [] []) [c] h6) fun v7 h8=>
 be (xX s 101 wl k false) Ju none (ap (xX s 101 wl k false) (am s.P Tryz.f101) nC) ⟨[c,d,uu,v1,v3,uu,uu,c,v5,c,v7,uu,uu,uu,uu,uu,uu],h8⟩) (
 bs (ah s.P wl 3 v3 (.lit (.int .i64 (-1))) h6) fun h9=>
 dK [ab s.P 3 v3 h9] h9):=kB
theorem SV:evF Tryz.prog xM (k+1) wl 101 [c,d] h=ai (xX (xS k) 101 wl k false) Tryz.f101 [c,d] h:=by kernel_rfl
theorem Kr (P:Program):am P Tryz.f101 .ret ⟨[c,d,g,j,l,q,p,o,e,u,r,z,A,B,F,D,E],h⟩=dK [ab P 3 l h] h:=by kernel_rfl
theorem wQ:ap (xX s 101 wl k false) (am s.P Tryz.f101) nC .norm ⟨(c::d::g::j::l::zz),h⟩ =
 bs (ah s.P wl 3 l (.lit (.int .i64 (-1))) h) fun hA=>
 dK [ab s.P 3 l hA] hA:=kR
theorem dv:ap (xX s 101 wl k rd) K [.seq o4] .norm ⟨[c,d,g,j,l,q,p,o,e,u,r,z,A,B,F,D,E],h⟩ =
 bm (ab s.P 3 j h) h fun vA hB=>
 bm (au s.P .eql 3 q vA) hB fun vB hD=>
 cnd vB (
 bs (ah s.P wl 3 l p hD) fun hK=>
 K .ret ⟨[c,d,g,j,l,q,p,o,e,u,r,z,A,q,vA,vB,p],hK⟩) (
 K .norm ⟨[c,d,g,j,l,q,p,o,e,u,r,z,A,q,vA,vB,E],hD⟩):=kR
theorem dq:ap (xX s 101 wl k rd) K [.seq re] .norm ⟨[c,d,g,j,l,q,p,o,e,u,r,z,A,B,F,D,E],h⟩ =
 K .norm ⟨[c,d,g,j,l,z,A,o,e,u,r,z,A,B,F,D,E],h⟩:=kR
theorem iV (cx:Cx) (s:St):ap cx K nC .ret s=K .ret s:=by kernel_rfl
-- names: Lj,Kr,wQ,dv,dq,iV
-- range over a function at [1,0,1,0,1,0]
end
end Go.Ab
set_option maxRecDepth 100000
set_option linter.unusedVariables false
namespace Go.Ab
open Go.Proofs
section
variable (s:Sys) (k wl:Nat) (m0:Nat) (ac:List Nat×List Nat) (c d e o g y p l j v r u z q A D E F B L G M N I O J Q R U W T t2 t3 t4 Y Z t0 t1 t7 t5 t8 t9 t6 X ta tb tc td te tf tg th ti tj:V) (h:Hp) (K:Out→St→Option (V×Hp)) (rd:Bool) (n n0:Nat) (zz:List V)
noncomputable def u2:Code:=ak (al Tryz.f146) [1,0]
noncomputable def o8:List Fr:=[.seq (ak (al Tryz.f146) [1,1])]
theorem Pv:ai (xX s 146 wl k false) Tryz.f146 [c,d] h =
 bp (aL c h) fun v1 h2=>
 bm (ab s.P 24 v1 h2) h2 fun v3 h4=>
 bp (yC s k wl 146 false true (.fn (.func 56) [] []) [v3] h4) fun v5 h6=>
 gd v5 (
 bp (yC s k wl 146 false true (.fn (.func 170) [] []) [d,(.fn (.func 171) [] [v1])] h6) fun v7 h8=>
 bm (vUn .not v7) h8 fun v9 hA=>
 yO s k wl 146 Tryz.f146 u2 7 h2.length ([],[]) o8 ⟨[c,d,v1,uu,(.lit (.bool false)),v3,v5,(.lit (.bool true)),d,(.fn (.func 171) [] [v1]),v7,v9,uu],hA⟩) (
 yO s k wl 146 Tryz.f146 u2 7 h2.length ([],[]) o8 ⟨[c,d,v1,uu,(.lit (.bool false)),v3,v5,(.lit (.bool false)),uu,uu,uu,uu,uu],h6⟩) (
 yO s k wl 146 Tryz.f146 u2 4 h2.length ([],[]) o8 ⟨[c,d,v1,uu,(.lit (.bool false)),v3,v5,v5,uu,uu,uu,uu,uu],h6⟩):=kB
theorem WM:evF Tryz.prog xM (k+1) wl 146 [c,d] h=ai (xX (xS k) 146 wl k false) Tryz.f146 [c,d] h:=by kernel_rfl
theorem Db:yO s k wl 146 Tryz.f146 u2 7 m0 ac o8 ⟨[c,d,e,o,g,y,p,l,j,v,r,u,z],h⟩ =
 bm (aM l u (.lit (.bool false))) h fun vA hB=>
 some (vA,hB):=kG
theorem l9 (cx:Cx) (s:St):ap cx K o8 .ret s=K .ret s:=by kernel_rfl
-- names: Pv,Db,l9
noncomputable def wG:Code:=ak (al Tryz.f162) [1,0,0]
noncomputable def po:List Fr:=[.seq (ak (al Tryz.f162) [1,0,1]),.seq (ak (al Tryz.f162) [1,1])]
theorem Uk:ai (xX s 162 wl k false) Tryz.f162 [c,d] h =
 bp (aw s.P 194 h) fun v1 h2=>
 bp (a9 s.P 63 d h2) fun v3 h4=>
 bm (au s.P .eql 3 v3 (.lit (.int .i64 0))) h4 fun v5 h6=>
 gd v5 (
 yO s k wl 162 Tryz.f162 wG 8 h2.length ([],[]) po ⟨[c,d,uu,uu,v1,uu,uu,d,v3,v5,(.lit (.bool true)),uu,uu,uu,uu,uu,uu,uu,uu,uu,uu,uu,uu,uu,uu,uu,uu,uu,uu,uu,uu,uu,uu,uu,uu,uu,uu,uu,uu,uu,uu,uu,uu,uu,uu,uu,uu,uu,uu,uu,uu,uu,uu,uu],h6⟩) (
 bp (yC s k wl 162 false true (.fn (.func 146) [] []) [c,d] h6) fun v7 h8=>
 bm (vUn .not v7) h8 fun v9 hA=>
 yO s k wl 162 Tryz.f162 wG 8 h2.length ([],[]) po ⟨[c,d,uu,uu,v1,uu,uu,d,v3,v5,(.lit (.bool false)),c,d,v7,v9,uu,uu,uu,uu,uu,uu,uu,uu,uu,uu,uu,uu,uu,uu,uu,uu,uu,uu,uu,uu,uu,uu,uu,uu,uu,uu,uu,uu,uu,uu,uu,uu,uu,uu,uu,uu,uu,uu,uu],hA⟩) (
 yO s k wl 162 Tryz.f162 wG 5 h2.length ([],[]) po ⟨[c,d,uu,uu,v1,uu,uu,d,v3,v5,v5,uu,uu,uu,uu,uu,uu,uu,uu,uu,uu,uu,uu,uu,uu,uu,uu,uu,uu,uu,uu,uu,uu,uu,uu,uu,uu,uu,uu,uu,uu,uu,uu,uu,uu,uu,uu,uu,uu,uu,uu,uu,uu,uu],h6⟩):=kB
theorem acy:evF Tryz.prog xM (k+1) wl 162 [c,d] h=ai (xX (xS k) 162 wl k false) Tryz.f162 [c,d] h:=by kernel_rfl
theorem IR:yO s k wl 162 Tryz.f162 wG 8 m0 ac po ⟨[c,d,e,o,g,y,p,l,j,v,r,u,z,q,A,D,E,F,B,L,G,M,N,I,O,J,Q,R,U,W,T,t2,t3,t4,Y,Z,t0,t1,t7,t5,t8,t9,t6,X,ta,tb,tc,td,te,tf,tg,th,ti,tj],h⟩ =
 bm (aM r (.lit (.bool true)) A) h fun vA hB=>
 cnd vA (
 bm (a8 s.P 194 []) hB fun vB hD=>
 bs (ah s.P wl 194 g vB hD) fun hK=>
 dK [ab s.P 194 g hK] hK) (
 bp (a9 s.P 63 d hB) fun vO hF=>
 bm (au s.P .sub 3 vO (.lit (.int .i64 1))) hF fun vE hC=>
 bm (aj s.P 63 d vE hC) hC fun vK hJ=>
 bm (ab s.P 129 vK hJ) hJ fun vN hM=>
 bp (aw s.P 129 hM) fun vG hO=>
 bs (ah s.P wl 129 vG vN hO) fun hN=>
 bm (aa s.P 129 vG 0) hN fun vH hT=>
 bm (ab s.P 3 vH hT) hT fun vP hU=>
 bm (aj s.P 24 c vP hU) hU fun vm he=>
 bm (ab s.P 101 vm he) he fun vu h34=>
 bp (aw s.P 101 h34) fun vn hb=>
 bs (ah s.P wl 101 vn vu hb) fun hq=>
 bm (aa s.P 129 vG 1) hq fun vW hg=>
 bm (ab s.P 3 vW hg) hg fun vM hW=>
 bm (aa s.P 101 vn 0) hW fun vb ha=>
 bm (ab s.P 3 vb ha) ha fun vc hh=>
 bm (au s.P .lss 3 vM vc) hh fun vk hc=>
 cnd vk (
 bm (aa s.P 129 vG 0) hc fun vX hR=>
 bm (ab s.P 3 vX hR) hR fun vo hj=>
 bm (a8 s.P 194 [(0,(.lit (.int .i64 1))),(1,vo)]) hj fun vT ht=>
 bs (ah s.P wl 194 g vT ht) fun hd=>
 dK [ab s.P 194 g hd] hd) (
 bm (aa s.P 129 vG 2) hc fun vv h56=>
 bm (ab s.P 3 vv h56) h56 fun v57 h58=>
 bm (aa s.P 101 vn 1) h58 fun vd hk=>
 bm (ab s.P 53 vd hk) hk fun vw h62=>
 bp (a9 s.P 53 vw h62) fun vx hl=>
 bm (au s.P .lss 3 v57 vx) hl fun vU hf=>
 cnd vU (
 bm (aa s.P 101 vn 1) hf fun vy h68=>
 bm (ab s.P 53 vy h68) h68 fun vz hu=>
 bm (aa s.P 129 vG 2) hu fun ve hm=>
 bm (ab s.P 3 ve hm) hm fun v73 h74=>
 bm (aj s.P 53 vz v73 h74) h74 fun v75 h76=>
 bm (ab s.P 3 v75 h76) h76 fun v77 h78=>
 bm (a8 s.P 194 [(0,(.lit (.int .i64 2))),(1,v77)]) h78 fun v79 h80=>
 bs (ah s.P wl 194 g v79 h80) fun h81=>
 dK [ab s.P 194 g h81] h81) (
 bm (aa s.P 129 vG 0) hf fun v82 h83=>
 bm (ab s.P 3 v82 h83) h83 fun v84 h85=>
 bm (a8 s.P 194 [(0,(.lit (.int .i64 3))),(1,v84)]) h85 fun v86 h87=>
 bs (ah s.P wl 194 g v86 h87) fun hn=>
 dK [ab s.P 194 g hn] hn))):=kG
theorem o9 (cx:Cx) (s:St):ap cx K po .ret s=K .ret s:=by kernel_rfl
-- names: Uk,IR,o9
theorem Ux:ai (xX s 163 wl k false) Tryz.f163 [c,d] h =
 bp (some (.own h.length 0 0,h++[.rows 0 [] 0 true])) fun v1 h2=>
 bp (yC s k wl 163 false true (.fn (.func 79) [] []) [d] h2) fun v3 h4=>
 bp (yC s k wl 163 false true (.fn (.func 182) [] []) [] h4) fun v5 h6=>
 bp (yC s k wl 163 false true (.fn (.func 162) [] []) [c,d] h6) fun v7 h8=>
 bm (pj s.P 194 v7 0) h8 fun v9 hA=>
 bm (eY s.P 201 v5 v9 true hA) hA fun vA hB=>
 bm (ao vA 0) hB fun vB hD=>
 bm (ao vA 1) hD fun vC hE=>
 cnd vC (
 bp (yC s k wl 163 false true vB [v3] hE) fun vD hG=>
 some (vD,hG)) (
 some (v3,hE)):=kB
theorem acA:evF Tryz.prog xM (k+1) wl 163 [c,d] h=ai (xX (xS k) 163 wl k false) Tryz.f163 [c,d] h:=by kernel_rfl
-- names: Ux,
theorem QE:ai (xX s 170 wl k false) Tryz.f170 [c,d] h =
 bp (yC s k wl 170 false true (.fn (.func 206) [] []) [c,d] h) fun v1 h2=>
 bm (au s.P .geq 3 v1 (.lit (.int .i64 0))) h2 fun v3 h4=>
 some (v3,h4):=kB
theorem Wn:evF Tryz.prog xM (k+1) wl 170 [c,d] h=ai (xX (xS k) 170 wl k false) Tryz.f170 [c,d] h:=by kernel_rfl
-- names: QE,
noncomputable def cB:Code:=ak (al Tryz.f171) [1,1,1,0]
noncomputable def cq:List Fr:=[.seq (ak (al Tryz.f171) [1,1,1,1])]
theorem Si:ai (xX s 171 wl k false) Tryz.f171 [c,d] h =
 bp (aL c h) fun v1 h2=>
 bm (aa s.P 129 v1 0) h2 fun v3 h4=>
 bm (ab s.P 3 v3 h4) h4 fun v5 h6=>
 bm (ab s.P 24 d h6) h6 fun v7 h8=>
 bp (a9 s.P 24 v7 h8) fun v9 hA=>
 bm (au s.P .sub 3 v9 (.lit (.int .i64 1))) hA fun vA hB=>
 bp (yC s k wl 171 false true (.fn (.func 172) [] []) [v5,vA] hB) fun vB hD=>
 bm (vUn .not vB) hD fun vC hE=>
 cnd vC (
 some ((.lit (.bool true)),hE)) (
 bm (ab s.P 24 d hE) hE fun vD hG=>
 bm (aa s.P 129 v1 0) hG fun vI hH=>
 bm (ab s.P 3 vI hH) hH fun vF hI=>
 bm (aj s.P 24 vD vF hI) hI fun vJ hL=>
 bm (ab s.P 101 vJ hL) hL fun vR hN=>
 bp (aw s.P 101 hN) fun vH hT=>
 bs (ah s.P wl 101 vH vR hT) fun hS=>
 bm (aa s.P 129 v1 1) hS fun vS hV=>
 bm (ab s.P 3 vS hV) hV fun vL hP=>
 bm (aa s.P 101 vH 0) hP fun vQ hZ=>
 bm (ab s.P 3 vQ hZ) hZ fun va hq=>
 bp (yC s k wl 171 false true (.fn (.func 172) [] []) [vL,va] hq) fun vW hg=>
 bm (vUn .not vW) hg fun vM hW=>
 gd vM (
 yO s k wl 171 Tryz.f171 cB 14 hS.length ([],[]) cq ⟨[c,d,v1,(.lit (.bool false)),vH,v3,v5,v7,v9,vA,vB,vC,vD,vI,vF,vJ,vR,vS,vL,vQ,va,vW,vM,(.lit (.bool true)),uu,uu,uu,uu,uu,uu,uu,uu,uu,uu,uu,uu,uu,uu,uu,uu,uu,uu,uu,uu],hW⟩) (
 bm (aa s.P 129 v1 2) hW fun vb ha=>
 bm (ab s.P 3 vb ha) ha fun vc hh=>
 bm (aa s.P 101 vH 1) hh fun vk hc=>
 bm (ab s.P 53 vk hc) hc fun vX hR=>
 bp (a9 s.P 53 vX hR) fun vo hj=>
 bp (yC s k wl 171 false true (.fn (.func 172) [] []) [vc,vo] hj) fun vT ht=>
 bm (vUn .not vT) ht fun v54 hi=>
 yO s k wl 171 Tryz.f171 cB 14 hS.length ([],[]) cq ⟨[c,d,v1,(.lit (.bool false)),vH,v3,v5,v7,v9,vA,vB,vC,vD,vI,vF,vJ,vR,vS,vL,vQ,va,vW,vM,(.lit (.bool false)),vb,vc,vk,vX,vo,vT,v54,uu,uu,uu,uu,uu,uu,uu,uu,uu,uu,uu,uu,uu],hi⟩) (
 yO s k wl 171 Tryz.f171 cB 8 hS.length ([],[]) cq ⟨[c,d,v1,(.lit (.bool false)),vH,v3,v5,v7,v9,vA,vB,vC,vD,vI,vF,vJ,vR,vS,vL,vQ,va,vW,vM,vM,uu,uu,uu,uu,uu,uu,uu,uu,uu,uu,uu,uu,uu,uu,uu,uu,uu,uu,uu,uu],hW⟩)):=kB
theorem UN:evF Tryz.prog xM (k+1) wl 171 [c,d] h=ai (xX (xS k) 171 wl k false) Tryz.f171 [c,d] h:=by kernel_rfl
theorem DN:yO s k wl 171 Tryz.f171 cB 14 m0 ac cq ⟨[c,d,e,o,g,y,p,l,j,v,r,u,z,q,A,D,E,F,B,L,G,M,N,I,O,J,Q,R,U,W,T,t2,t3,t4,Y,Z,t0,t1,t7,t5,t8,t9,t6,X],h⟩ =
 bm (aM I (.lit (.bool true)) T) h fun vf ho=>
 gd vf (
 yO s k wl 171 Tryz.f171 cB 26 m0 ac cq ⟨[c,d,e,o,g,y,p,l,j,v,r,u,z,q,A,D,E,F,B,L,G,M,N,I,O,J,Q,R,U,W,T,vf,(.lit (.bool true)),uu,uu,uu,uu,uu,uu,uu,uu,uu,uu,X],ho⟩) (
 bm (aa s.P 129 e 1) ho fun v58 hv=>
 bm (ab s.P 3 v58 hv) hv fun v60 h61=>
 bm (aa s.P 101 g 0) h61 fun vZ h63=>
 bm (ab s.P 3 vZ h63) h63 fun v64 h65=>
 bm (au s.P .lss 3 v60 v64) h65 fun v66 h67=>
 yO s k wl 171 Tryz.f171 cB 22 m0 ac cq ⟨[c,d,e,o,g,y,p,l,j,v,r,u,z,q,A,D,E,F,B,L,G,M,N,I,O,J,Q,R,U,W,T,vf,(.lit (.bool false)),v58,v60,vZ,v64,v66,v66,t5,t8,t9,t6,X],h67⟩) (
 yO s k wl 171 Tryz.f171 cB 17 m0 ac cq ⟨[c,d,e,o,g,y,p,l,j,v,r,u,z,q,A,D,E,F,B,L,G,M,N,I,O,J,Q,R,U,W,T,vf,vf,uu,Y,Z,t0,t1,t7,t5,t8,t9,t6,X],ho⟩):=kG
theorem Cl:yO s k wl 171 Tryz.f171 cB 26 m0 ac cq ⟨[c,d,e,o,g,y,p,l,j,v,r,u,z,q,A,D,E,F,B,L,G,M,N,I,O,J,Q,R,U,W,T,t2,t3,t4,Y,Z,t0,t1,t7,t5,t8,t9,t6,X],h⟩ =
 bm (aM t3 (.lit (.bool true)) t6) h fun vg h69=>
 some (vg,h69):=kG
theorem Dh:yO s k wl 171 Tryz.f171 cB 22 m0 ac cq ⟨[c,d,e,o,g,y,p,l,j,v,r,u,z,q,A,D,E,F,B,L,G,M,N,I,O,J,Q,R,U,W,T,t2,t3,t4,Y,Z,t0,t1,t7,t5,t8,t9,t6,X],h⟩ =
 gd t7 (
 bm (aa s.P 129 e 2) h fun v70 h71=>
 bm (ab s.P 3 v70 h71) h71 fun v72 h73=>
 bm (au s.P .gtr 3 v72 (.lit (.int .i64 0))) h73 fun v74 h75=>
 yO s k wl 171 Tryz.f171 cB 25 m0 ac cq ⟨[c,d,e,o,g,y,p,l,j,v,r,u,z,q,A,D,E,F,B,L,G,M,N,I,O,J,Q,R,U,W,T,t2,t3,t4,Y,Z,t0,t1,(.lit (.bool true)),v70,v72,v74,t6,X],h75⟩) (
 yO s k wl 171 Tryz.f171 cB 25 m0 ac cq ⟨[c,d,e,o,g,y,p,l,j,v,r,u,z,q,A,D,E,F,B,L,G,M,N,I,O,J,Q,R,U,W,T,t2,t3,t4,Y,Z,t0,t1,(.lit (.bool false)),uu,uu,uu,t6,X],h⟩) (
 yO s k wl 171 Tryz.f171 cB 23 m0 ac cq ⟨[c,d,e,o,g,y,p,l,j,v,r,u,z,q,A,D,E,F,B,L,G,M,N,I,O,J,Q,R,U,W,T,t2,t3,t4,Y,Z,t0,t1,t7,uu,t8,t9,t6,X],h⟩):=kG
theorem Dt:yO s k wl 171 Tryz.f171 cB 25 m0 ac cq ⟨[c,d,e,o,g,y,p,l,j,v,r,u,z,q,A,D,E,F,B,L,G,M,N,I,O,J,Q,R,U,W,T,t2,t3,t4,Y,Z,t0,t1,t7,t5,t8,t9,t6,X],h⟩ =
 gd t3 (
 yO s k wl 171 Tryz.f171 cB 26 m0 ac cq ⟨[c,d,e,o,g,y,p,l,j,v,r,u,z,q,A,D,E,F,B,L,G,M,N,I,O,J,Q,R,U,W,T,t2,(.lit (.bool true)),t4,Y,Z,t0,t1,t7,t5,t8,t9,uu,X],h⟩) (
 bm (aM t7 t9 (.lit (.bool false))) h fun v76 h77=>
 yO s k wl 171 Tryz.f171 cB 26 m0 ac cq ⟨[c,d,e,o,g,y,p,l,j,v,r,u,z,q,A,D,E,F,B,L,G,M,N,I,O,J,Q,R,U,W,T,t2,(.lit (.bool false)),t4,Y,Z,t0,t1,t7,t5,t8,t9,v76,X],h77⟩) (
 yO s k wl 171 Tryz.f171 cB 26 m0 ac cq ⟨[c,d,e,o,g,y,p,l,j,v,r,u,z,q,A,D,E,F,B,L,G,M,N,I,O,J,Q,R,U,W,T,t2,t3,t4,Y,Z,t0,t1,t7,t5,t8,t9,uu,X],h⟩):=kG
theorem DK:yO s k wl 171 Tryz.f171 cB 23 m0 ac cq ⟨[c,d,e,o,g,y,p,l,j,v,r,u,z,q,A,D,E,F,B,L,G,M,N,I,O,J,Q,R,U,W,T,t2,t3,t4,Y,Z,t0,t1,t7,t5,t8,t9,t6,X],h⟩ =
 gd t7 (
 bm (ab s.P 3 t5 h) h fun v78 h79=>
 bm (au s.P .gtr 3 v78 (.lit (.int .i64 0))) h79 fun v80 h81=>
 yO s k wl 171 Tryz.f171 cB 25 m0 ac cq ⟨[c,d,e,o,g,y,p,l,j,v,r,u,z,q,A,D,E,F,B,L,G,M,N,I,O,J,Q,R,U,W,T,t2,t3,t4,Y,Z,t0,t1,(.lit (.bool true)),t5,v78,v80,t6,X],h81⟩) (
 yO s k wl 171 Tryz.f171 cB 25 m0 ac cq ⟨[c,d,e,o,g,y,p,l,j,v,r,u,z,q,A,D,E,F,B,L,G,M,N,I,O,J,Q,R,U,W,T,t2,t3,t4,Y,Z,t0,t1,(.lit (.bool false)),t5,uu,uu,t6,X],h⟩) (
 yO s k wl 171 Tryz.f171 cB 24 m0 ac cq ⟨[c,d,e,o,g,y,p,l,j,v,r,u,z,q,A,D,E,F,B,L,G,M,N,I,O,J,Q,R,U,W,T,t2,t3,t4,Y,Z,t0,t1,t7,t5,uu,t9,t6,X],h⟩):=kG
theorem DF:yO s k wl 171 Tryz.f171 cB 24 m0 ac cq ⟨[c,d,e,o,g,y,p,l,j,v,r,u,z,q,A,D,E,F,B,L,G,M,N,I,O,J,Q,R,U,W,T,t2,t3,t4,Y,Z,t0,t1,t7,t5,t8,t9,t6,X],h⟩ =
 gd t7 (
 bm (au s.P .gtr 3 t8 (.lit (.int .i64 0))) h fun v82 h83=>
 yO s k wl 171 Tryz.f171 cB 25 m0 ac cq ⟨[c,d,e,o,g,y,p,l,j,v,r,u,z,q,A,D,E,F,B,L,G,M,N,I,O,J,Q,R,U,W,T,t2,t3,t4,Y,Z,t0,t1,(.lit (.bool true)),t5,t8,v82,t6,X],h83⟩) (
 yO s k wl 171 Tryz.f171 cB 25 m0 ac cq ⟨[c,d,e,o,g,y,p,l,j,v,r,u,z,q,A,D,E,F,B,L,G,M,N,I,O,J,Q,R,U,W,T,t2,t3,t4,Y,Z,t0,t1,(.lit (.bool false)),t5,t8,uu,t6,X],h⟩) (
 yO s k wl 171 Tryz.f171 cB 25 m0 ac cq ⟨[c,d,e,o,g,y,p,l,j,v,r,u,z,q,A,D,E,F,B,L,G,M,N,I,O,J,Q,R,U,W,T,t2,t3,t4,Y,Z,t0,t1,t7,t5,t8,uu,t6,X],h⟩):=kG
theorem l8 (cx:Cx) (s:St):ap cx K cq .ret s=K .ret s:=by kernel_rfl
-- names: Si,DN,Cl,Dh,Dt,DK,DF,l8
noncomputable def u4:Code:=ak (al Tryz.f172) [1,0]
noncomputable def oV:List Fr:=[.seq (ak (al Tryz.f172) [1,1])]
theorem Xs:ai (xX s 172 wl k false) Tryz.f172 [c,d] h =
 bm (au s.P .geq 3 c (.lit (.int .i64 0))) h fun v1 h2=>
 gd v1 (
 bm (au s.P .leq 3 c d) h2 fun v3 h4=>
 yO s k wl 172 Tryz.f172 u4 6 h.length ([],[]) oV ⟨[c,d,uu,uu,(.lit (.bool false)),c,v1,(.lit (.bool true)),c,d,v3,uu],h4⟩) (
 yO s k wl 172 Tryz.f172 u4 6 h.length ([],[]) oV ⟨[c,d,uu,uu,(.lit (.bool false)),c,v1,(.lit (.bool false)),uu,uu,uu,uu],h2⟩) (
 yO s k wl 172 Tryz.f172 u4 4 h.length ([],[]) oV ⟨[c,d,uu,uu,(.lit (.bool false)),c,v1,v1,uu,uu,uu,uu],h2⟩):=kB
theorem Zh:evF Tryz.prog xM (k+1) wl 172 [c,d] h=ai (xX (xS k) 172 wl k false) Tryz.f172 [c,d] h:=by kernel_rfl
theorem H7:yO s k wl 172 Tryz.f172 u4 6 m0 ac oV ⟨[c,d,e,o,g,y,p,l,j,v,r,u],h⟩ =
 bm (aM l r (.lit (.bool false))) h fun v5 h6=>
 some (v5,h6):=kG
theorem rE (cx:Cx) (s:St):ap cx K oV .ret s=K .ret s:=by kernel_rfl
-- names: Xs,H7,rE
noncomputable def uS:Code:=ak (al Tryz.f181) [1,1,0,0]
noncomputable def oM:List Fr:=[.seq (ak (al Tryz.f181) [1,1,0,1]),.seq (ak (al Tryz.f181) [1,1,1])]
theorem UE:ai (xX s 181 wl k false) Tryz.f181 [c,d,e] h =
 bp (some (.own h.length 0 0,h++[.rows 0 [] 0 true])) fun v1 h2=>
 bp (yC s k wl 181 false true (.fn (.func 79) [] []) [d] h2) fun v3 h4=>
 bp (yC s k wl 181 false true (.fn (.func 146) [] []) [c,d] h4) fun v5 h6=>
 bm (vUn .not v5) h6 fun v7 h8=>
 gd v7 (
 yO s k wl 181 Tryz.f181 uS 11 h4.length ([],[]) oM ⟨[c,d,e,uu,uu,uu,v1,v3,d,v3,c,d,v5,v7,(.lit (.bool true)),uu,uu,uu,uu,uu,uu,uu,uu,uu,uu,uu,uu,uu],h8⟩) (
 bp (a9 s.P 24 c h8) fun v9 hA=>
 bm (au s.P .sub 3 v9 (.lit (.int .i64 1))) hA fun vA hB=>
 bp (yC s k wl 181 false true (.fn (.func 172) [] []) [e,vA] hB) fun vB hD=>
 bm (vUn .not vB) hD fun vC hE=>
 yO s k wl 181 Tryz.f181 uS 11 h4.length ([],[]) oM ⟨[c,d,e,uu,uu,uu,v1,v3,d,v3,c,d,v5,v7,(.lit (.bool false)),e,c,v9,vA,vB,vC,uu,uu,uu,uu,uu,uu,uu],hE⟩) (
 yO s k wl 181 Tryz.f181 uS 6 h4.length ([],[]) oM ⟨[c,d,e,uu,uu,uu,v1,v3,d,v3,c,d,v5,v7,v7,uu,uu,uu,uu,uu,uu,uu,uu,uu,uu,uu,uu,uu],h8⟩):=kB
theorem Y5:evF Tryz.prog xM (k+1) wl 181 [c,d,e] h=ai (xX (xS k) 181 wl k false) Tryz.f181 [c,d,e] h:=by kernel_rfl
theorem G5:yO s k wl 181 Tryz.f181 uS 11 m0 ac oM ⟨[c,d,e,o,g,y,p,l,j,v,r,u,z,q,A,D,E,F,B,L,G,M,N,I,O,J,Q,R],h⟩ =
 bm (aM A (.lit (.bool true)) G) h fun vD hG=>
 cnd vD (
 some (l,hG)) (
 bm (a8 s.P 129 [(0,e)]) hG fun vI hH=>
 bp (aA s.P wl 63 1 [(0,vI)] hH) fun vF hI=>
 bp (gL s.P wl 63 63 l vF hI) fun vJ hL=>
 some (vJ,hL)):=kG
theorem rm (cx:Cx) (s:St):ap cx K oM .ret s=K .ret s:=by kernel_rfl
-- names: UE,G5,rm
theorem Xb:ai (xX s 182 wl k false) Tryz.f182 [] h =
 bp (some (.map h.length,h++[.map []])) fun v1 h2=>
 bs (dS s.P wl 201 v1 (.lit (.int .i64 1)) (.fn (.func 210) [] []) h2) fun h3=>
 bs (dS s.P wl 201 v1 (.lit (.int .i64 2)) (.fn (.func 211) [] []) h3) fun h4=>
 bs (dS s.P wl 201 v1 (.lit (.int .i64 3)) (.fn (.func 212) [] []) h4) fun h5=>
 some (v1,h5):=kB
theorem abS:evF Tryz.prog xM (k+1) wl 182 [] h=ai (xX (xS k) 182 wl k false) Tryz.f182 [] h:=by kernel_rfl
-- names: Xb,
noncomputable def wo:Code:=ak (al Tryz.f206) [1,0,1,0,0]
noncomputable def wP:List Fr:=[.block 0,.seq (ak (al Tryz.f206) [1,1])]
theorem Ry:ai (xX s 206 wl k false) Tryz.f206 [c,d] h =
 bp (a9 s.P 63 c h) fun v1 h2=>
 yI s k wl 206 Tryz.f206 wo h2.length wP k ⟨[(V.kill h2.length c),(V.kill h2.length d),(V.kill h2.length uu),(V.kill h2.length uu),(.lit (.int .i64 0)),(V.kill h2.length uu),(V.kill h2.length c),(V.kill h2.length v1),(.lit (.int .i64 0)),.junk,.junk,.junk,.junk,.junk,.junk,.junk,.junk,.junk,.junk],b7 h2.length h2⟩:=kB
theorem UP:evF Tryz.prog xM (k+1) wl 206 [c,d] h=ai (xX (xS k) 206 wl k false) Tryz.f206 [c,d] h:=by kernel_rfl
theorem P2 (P:Program):am P Tryz.f206 .ret ⟨[c,d,e,o,g,y,p,l,j,v,r,u,z,q,A,D,E,F,B],h⟩=some (g,h):=by kernel_rfl
theorem HI:itX (xX s 206 wl k rd) wo n0 K (n+1) ⟨[c,d,e,o,g,y,p,l,j,v,r,u,z,q,A,D,E,F,B],h⟩ =
 bm (au s.P .lss 3 j l) h fun v3 h4=>
 cnd v3 (
 bm (aj s.P 63 c j h4) h4 fun v5 h6=>
 bm (ab s.P 129 v5 h6) h6 fun v7 h8=>
 bp (bZ (xX s 206 wl k rd) false true d [v7] h8) fun v9 hA=>
 cnd v9 (
 K .ret ⟨[c,d,e,o,j,j,p,l,j,v3,j,d,c,j,v5,v7,v9,j,B],hA⟩) (
 bm (au s.P .add 3 j (.lit (.int .i64 1))) hA fun vA hB=>
 itX (xX s 206 wl k rd) wo n0 K n ⟨[(V.kill n0 c),(V.kill n0 d),(V.kill n0 e),(V.kill n0 o),(V.kill n0 g),(V.kill n0 j),(V.kill n0 p),(V.kill n0 l),(V.kill n0 vA),.junk,.junk,.junk,.junk,.junk,.junk,.junk,.junk,.junk,.junk],b7 n0 hB⟩)) (
 K (.exit 0) ⟨[(V.kill n0 c),(V.kill n0 d),(V.kill n0 e),(V.kill n0 o),(V.kill n0 g),(V.kill n0 y),(V.kill n0 p),(V.kill n0 l),.junk,.junk,.junk,.junk,.junk,.junk,.junk,.junk,.junk,.junk,.junk],b7 n0 h4⟩):=kI
theorem CS:ap (xX s 206 wl k false) (am s.P Tryz.f206) wP (.exit 0) ⟨[c,d,e,o,g,y,p,l,j,v,r,u,z,q,A,D,E,F,B],h⟩ =
 some ((.lit (.int .i64 (-1))),h):=kR
theorem mi (cx:Cx) (s:St):ap cx K wP .ret s=K .ret s:=by kernel_rfl
-- names: Ry,P2,HI,CS,mi
theorem Ue:ai (xX s 210 wl k false) Tryz.f210 [c] h =
 bp (some (.own h.length 0 0,h++[.rows 0 [] 0 true])) fun v1 h2=>
 bp (a9 s.P 63 c h2) fun v3 h4=>
 bm (au s.P .sub 3 v3 (.lit (.int .i64 1))) h4 fun v5 h6=>
 bm (aj s.P 63 c v5 h6) h6 fun v7 h8=>
 bm (aa s.P 129 v7 1) h8 fun v9 hA=>
 bm (ab s.P 3 v9 hA) hA fun vA hB=>
 bm (au s.P .add 3 vA (.lit (.int .i64 1))) hB fun vB hD=>
 bm (aj s.P 63 c v5 hD) hD fun vC hE=>
 bm (aa s.P 129 vC 1) hE fun vD hG=>
 bs (ah s.P wl 3 vD vB hG) fun hC=>
 some (c,hC):=kB
theorem Zq:evF Tryz.prog xM (k+1) wl 210 [c] h=ai (xX (xS k) 210 wl k false) Tryz.f210 [c] h:=by kernel_rfl
-- names: Ue,
theorem XL:ai (xX s 211 wl k false) Tryz.f211 [c] h =
 bp (some (.own h.length 0 0,h++[.rows 0 [] 0 true])) fun v1 h2=>
 bp (a9 s.P 63 c h2) fun v3 h4=>
 bm (au s.P .sub 3 v3 (.lit (.int .i64 1))) h4 fun v5 h6=>
 bm (aj s.P 63 c v5 h6) h6 fun v7 h8=>
 bm (aa s.P 129 v7 2) h8 fun v9 hA=>
 bm (ab s.P 3 v9 hA) hA fun vA hB=>
 bm (au s.P .add 3 vA (.lit (.int .i64 1))) hB fun vB hD=>
 bm (aj s.P 63 c v5 hD) hD fun vC hE=>
 bm (aa s.P 129 vC 2) hE fun vD hG=>
 bs (ah s.P wl 3 vD vB hG) fun hC=>
 some (c,hC):=kB
theorem acN:evF Tryz.prog xM (k+1) wl 211 [c] h=ai (xX (xS k) 211 wl k false) Tryz.f211 [c] h:=by kernel_rfl
-- names: XL,
theorem V8:ai (xX s 212 wl k false) Tryz.f212 [c] h =
 bp (some (.own h.length 0 0,h++[.rows 0 [] 0 true])) fun v1 h2=>
 bp (a9 s.P 63 c h2) fun v3 h4=>
 bm (au s.P .sub 3 v3 (.lit (.int .i64 1))) h4 fun v5 h6=>
 bp (bV s.P wl false 63 c none (some v5) none h6) fun v7 h8=>
 some (v7,h8):=kB
theorem abu:evF Tryz.prog xM (k+1) wl 212 [c] h=ai (xX (xS k) 212 wl k false) Tryz.f212 [c] h:=by kernel_rfl
-- names: V8,
end
end Go.Ab
set_option maxRecDepth 100000
set_option linter.unusedVariables false
namespace Go.Ab
open Go.Proofs
section
variable (s:Sys) (k wl:Nat) (m0:Nat) (ac:List Nat×List Nat) (a b d e f o p g q j u l v n y A z E D F B L I M J G O N T R Q Z W t0 X Y U te t4 tf t5 t6 t7 t2 tg t8 th t9 ta tb tc td t3 t1:V) (h:Hp) (K:Out→St→Option (V×Hp)) (rd:Bool) (zz:List V)
noncomputable def da:Code:=ak (al Tryz.f85) [1,0]
noncomputable def cP:List Fr:=[.seq (ak (al Tryz.f85) [1,1])]
theorem adH:ai (xX s 85 wl k false) Tryz.f85 [a,b,d,e] h =
 bp (aL a h) fun v1 h2=>
 bp (aL e h2) fun v3 h4=>
 bm (ab s.P 23 v1 h4) h4 fun v5 h6=>
 bp (yC s k wl 85 false true (.fn (.func 50) [] []) [v5] h6) fun v7 h8=>
 gd v7 (
 bp (a9 s.P 26 d h8) fun v9 hA=>
 bm (ab s.P 23 v1 hA) hA fun vA hB=>
 bp (yC s k wl 85 false true (.fn (.func 103) [] []) [vA] hB) fun vB hD=>
 bm (au s.P .eql 3 v9 vB) hD fun vC hE=>
 yO s k wl 85 Tryz.f85 da 8 h4.length ([],[]) cP ⟨[a,b,d,e,v1,uu,uu,v3,(.lit (.bool false)),v5,v7,(.lit (.bool true)),d,v9,vA,vB,vC,uu,uu,uu,uu,uu,uu,uu,uu,uu,uu,uu,uu,uu,uu,uu,uu,uu,uu,uu,uu,uu,uu,uu,uu,uu,uu,uu,uu,uu,uu,uu,uu,uu,uu,uu,uu,uu],hE⟩) (
 yO s k wl 85 Tryz.f85 da 8 h4.length ([],[]) cP ⟨[a,b,d,e,v1,uu,uu,v3,(.lit (.bool false)),v5,v7,(.lit (.bool false)),uu,uu,uu,uu,uu,uu,uu,uu,uu,uu,uu,uu,uu,uu,uu,uu,uu,uu,uu,uu,uu,uu,uu,uu,uu,uu,uu,uu,uu,uu,uu,uu,uu,uu,uu,uu,uu,uu,uu,uu,uu,uu],h8⟩) (
 yO s k wl 85 Tryz.f85 da 4 h4.length ([],[]) cP ⟨[a,b,d,e,v1,uu,uu,v3,(.lit (.bool false)),v5,v7,v7,uu,uu,uu,uu,uu,uu,uu,uu,uu,uu,uu,uu,uu,uu,uu,uu,uu,uu,uu,uu,uu,uu,uu,uu,uu,uu,uu,uu,uu,uu,uu,uu,uu,uu,uu,uu,uu,uu,uu,uu,uu,uu],h8⟩):=kB
theorem aec:evF Tryz.prog xM (k+1) wl 85 [a,b,d,e] h=ai (xX (xS k) 85 wl k false) Tryz.f85 [a,b,d,e] h:=by kernel_rfl
theorem Ph:yO s k wl 85 Tryz.f85 da 8 m0 ac cP ⟨(a::b::d::e::f::o::p::g::q::j::u::l::v::n::y::A::z::E::D::F::B::zz),h⟩ =
 bm (aM l z (.lit (.bool false))) h fun vD hG=>
 gd vD (
 bp (yC s k wl 85 false true (.fn (.func 56) [] []) [b] hG) fun vI hH=>
 yO s k wl 85 Tryz.f85 da 12 m0 ac cP ⟨(a::b::d::e::f::o::p::g::q::j::u::l::v::n::y::A::z::vD::(.lit (.bool true))::b::vI::zz),hH⟩) (
 yO s k wl 85 Tryz.f85 da 12 m0 ac cP ⟨(a::b::d::e::f::o::p::g::q::j::u::l::v::n::y::A::z::vD::(.lit (.bool false))::uu::uu::zz),hG⟩) (
 yO s k wl 85 Tryz.f85 da 11 m0 ac cP ⟨(a::b::d::e::f::o::p::g::q::j::u::l::v::n::y::A::z::vD::vD::uu::B::zz),hG⟩):=kG
theorem Pi:yO s k wl 85 Tryz.f85 da 12 m0 ac cP ⟨(a::b::d::e::f::o::p::g::q::j::u::l::v::n::y::A::z::E::D::F::B::L::I::M::J::G::zz),h⟩ =
 bm (aM D B (.lit (.bool false))) h fun vF hI=>
 gd vF (
 bm (aa s.P 57 g 0) hI fun vJ hL=>
 bm (ab s.P 3 vJ hL) hL fun vR hN=>
 bm (au s.P .geq 3 vR (.lit (.int .i64 0))) hN fun vH hT=>
 yO s k wl 85 Tryz.f85 da 17 m0 ac cP ⟨(a::b::d::e::f::o::p::g::q::j::u::l::v::n::y::A::z::E::D::F::B::vF::(.lit (.bool true))::vJ::vR::vH::zz),hT⟩) (
 yO s k wl 85 Tryz.f85 da 17 m0 ac cP ⟨(a::b::d::e::f::o::p::g::q::j::u::l::v::n::y::A::z::E::D::F::B::vF::(.lit (.bool false))::uu::uu::uu::zz),hI⟩) (
 yO s k wl 85 Tryz.f85 da 15 m0 ac cP ⟨(a::b::d::e::f::o::p::g::q::j::u::l::v::n::y::A::z::E::D::F::B::vF::vF::uu::J::G::zz),hI⟩):=kG
theorem OV:yO s k wl 85 Tryz.f85 da 17 m0 ac cP ⟨(a::b::d::e::f::o::p::g::q::j::u::l::v::n::y::A::z::E::D::F::B::L::I::M::J::G::O::N::T::R::Q::zz),h⟩ =
 bm (aM I G (.lit (.bool false))) h fun vP hU=>
 gd vP (
 bm (aa s.P 57 g 0) hU fun vm he=>
 bm (ab s.P 3 vm he) he fun vu h34=>
 bm (au s.P .lss 3 vu (.lit (.int .i64 6))) h34 fun vn hb=>
 yO s k wl 85 Tryz.f85 da 22 m0 ac cP ⟨(a::b::d::e::f::o::p::g::q::j::u::l::v::n::y::A::z::E::D::F::B::L::I::M::J::G::vP::(.lit (.bool true))::vm::vu::vn::zz),hb⟩) (
 yO s k wl 85 Tryz.f85 da 22 m0 ac cP ⟨(a::b::d::e::f::o::p::g::q::j::u::l::v::n::y::A::z::E::D::F::B::L::I::M::J::G::vP::(.lit (.bool false))::uu::uu::uu::zz),hU⟩) (
 yO s k wl 85 Tryz.f85 da 20 m0 ac cP ⟨(a::b::d::e::f::o::p::g::q::j::u::l::v::n::y::A::z::E::D::F::B::L::I::M::J::G::vP::vP::uu::R::Q::zz),hU⟩):=kG
theorem Oy:yO s k wl 85 Tryz.f85 da 22 m0 ac cP ⟨(a::b::d::e::f::o::p::g::q::j::u::l::v::n::y::A::z::E::D::F::B::L::I::M::J::G::O::N::T::R::Q::Z::W::t0::X::Y::U::zz),h⟩ =
 bm (aM N Q (.lit (.bool false))) h fun vV hY=>
 gd vV (
 bm (aa s.P 57 g 1) hY fun vp hp=>
 bm (ab s.P 53 vp hp) hp fun vq hw=>
 bp (a9 s.P 53 vq hw) fun v43 hx=>
 bm (au s.P .gtr 3 v43 (.lit (.int .i64 0))) hx fun v45 h46=>
 yO s k wl 85 Tryz.f85 da 28 m0 ac cP ⟨(a::b::d::e::f::o::p::g::q::j::u::l::v::n::y::A::z::E::D::F::B::L::I::M::J::G::O::N::T::R::Q::vV::(.lit (.bool true))::vp::vq::v43::v45::zz),h46⟩) (
 yO s k wl 85 Tryz.f85 da 28 m0 ac cP ⟨(a::b::d::e::f::o::p::g::q::j::u::l::v::n::y::A::z::E::D::F::B::L::I::M::J::G::O::N::T::R::Q::vV::(.lit (.bool false))::uu::uu::uu::uu::zz),hY⟩) (
 yO s k wl 85 Tryz.f85 da 25 m0 ac cP ⟨(a::b::d::e::f::o::p::g::q::j::u::l::v::n::y::A::z::E::D::F::B::L::I::M::J::G::O::N::T::R::Q::vV::vV::uu::X::Y::U::zz),hY⟩):=kG
theorem Of:yO s k wl 85 Tryz.f85 da 28 m0 ac cP ⟨[a,b,d,e,f,o,p,g,q,j,u,l,v,n,y,A,z,E,D,F,B,L,I,M,J,G,O,N,T,R,Q,Z,W,t0,X,Y,U,te,t4,tf,t5,t6,t7,t2,tg,t8,th,t9,ta,tb,tc,td,t3,t1],h⟩ =
 bm (aM W U (.lit (.bool false))) h fun vh hy=>
 gd vh (
 bm (aa s.P 57 g 1) hy fun v49 hz=>
 bm (ab s.P 53 v49 hz) hz fun vr hr=>
 bm (aj s.P 53 vr (.lit (.int .i64 0)) hr) hr fun vs hd=>
 bm (ab s.P 3 vs hd) hd fun vv h56=>
 bm (au s.P .geq 3 vv (.lit (.int .i64 0))) h56 fun v57 h58=>
 yO s k wl 85 Tryz.f85 da 35 m0 ac cP ⟨[a,b,d,e,f,o,p,g,q,j,u,l,v,n,y,A,z,E,D,F,B,L,I,M,J,G,O,N,T,R,Q,Z,W,t0,X,Y,U,vh,(.lit (.bool true)),v49,vr,vs,vv,v57,tg,t8,th,t9,ta,tb,tc,td,t3,t1],h58⟩) (
 yO s k wl 85 Tryz.f85 da 35 m0 ac cP ⟨[a,b,d,e,f,o,p,g,q,j,u,l,v,n,y,A,z,E,D,F,B,L,I,M,J,G,O,N,T,R,Q,Z,W,t0,X,Y,U,vh,(.lit (.bool false)),uu,uu,uu,uu,uu,tg,t8,th,t9,ta,tb,tc,td,t3,t1],hy⟩) (
 yO s k wl 85 Tryz.f85 da 31 m0 ac cP ⟨[a,b,d,e,f,o,p,g,q,j,u,l,v,n,y,A,z,E,D,F,B,L,I,M,J,G,O,N,T,R,Q,Z,W,t0,X,Y,U,vh,vh,uu,t5,t6,t7,t2,tg,t8,th,t9,ta,tb,tc,td,t3,t1],hy⟩):=kG
theorem O2:yO s k wl 85 Tryz.f85 da 35 m0 ac cP ⟨[a,b,d,e,f,o,p,g,q,j,u,l,v,n,y,A,z,E,D,F,B,L,I,M,J,G,O,N,T,R,Q,Z,W,t0,X,Y,U,te,t4,tf,t5,t6,t7,t2,tg,t8,th,t9,ta,tb,tc,td,t3,t1],h⟩ =
 bm (aM t4 t2 (.lit (.bool false))) h fun vd hk=>
 gd vd (
 bm (aa s.P 57 g 1) hk fun vw h62=>
 bm (ab s.P 53 vw h62) h62 fun vx hl=>
 bm (aj s.P 53 vx (.lit (.int .i64 0)) hl) hl fun vU hf=>
 bm (ab s.P 3 vU hf) hf fun vy h68=>
 bp (a9 s.P 24 b h68) fun vz hu=>
 bm (au s.P .lss 3 vy vz) hu fun ve hm=>
 yO s k wl 85 Tryz.f85 da 44 m0 ac cP ⟨[a,b,d,e,f,o,p,g,q,j,u,l,v,n,y,A,z,E,D,F,B,L,I,M,J,G,O,N,T,R,Q,Z,W,t0,X,Y,U,te,t4,tf,t5,t6,t7,t2,vd,(.lit (.bool true)),vw,vx,vU,vy,b,vz,ve,t1],hm⟩) (
 yO s k wl 85 Tryz.f85 da 44 m0 ac cP ⟨[a,b,d,e,f,o,p,g,q,j,u,l,v,n,y,A,z,E,D,F,B,L,I,M,J,G,O,N,T,R,Q,Z,W,t0,X,Y,U,te,t4,tf,t5,t6,t7,t2,vd,(.lit (.bool false)),uu,uu,uu,uu,uu,uu,uu,t1],hk⟩) (
 yO s k wl 85 Tryz.f85 da 38 m0 ac cP ⟨[a,b,d,e,f,o,p,g,q,j,u,l,v,n,y,A,z,E,D,F,B,L,I,M,J,G,O,N,T,R,Q,Z,W,t0,X,Y,U,te,t4,tf,t5,t6,t7,t2,vd,vd,uu,t9,ta,tb,tc,td,t3,t1],hk⟩):=kG
theorem Oh:yO s k wl 85 Tryz.f85 da 44 m0 ac cP ⟨[a,b,d,e,f,o,p,g,q,j,u,l,v,n,y,A,z,E,D,F,B,L,I,M,J,G,O,N,T,R,Q,Z,W,t0,X,Y,U,te,t4,tf,t5,t6,t7,t2,tg,t8,th,t9,ta,tb,tc,td,t3,t1],h⟩ =
 bm (aM t8 t3 (.lit (.bool false))) h fun v73 h74=>
 some (v73,h74):=kG
theorem uf (cx:Cx) (s:St):ap cx K cP .ret s=K .ret s:=by kernel_rfl
-- names: adH,Ph,Pi,OV,Oy,Of,O2,Oh,uf
theorem ac5:ai (xX s 86 wl k false) Tryz.f86 [a,b,d,e,f] h =
 bp (aL a h) fun v1 h2=>
 bp (aL e h2) fun v3 h4=>
 bp (aL f h4) fun v5 h6=>
 bp (some (.own h6.length 0 0,h6++[.rows 0 [] 0 true])) fun v7 h8=>
 bp (aw s.P 57 h8) fun v9 hA=>
 bp (some (.own hA.length 0 0,hA++[.rows 0 [] 0 true])) fun vA hB=>
 bp (yC s k wl 86 false true (.fn (.func 76) [] []) [d] hB) fun vB hD=>
 bp (aw s.P 26 hD) fun vC hE=>
 bs (ah s.P wl 26 vC vB hE) fun hF=>
 bp (aw s.P 57 hF) fun vE hC=>
 bm (aa s.P 57 v5 0) hC fun vK hJ=>
 stO hF.length vK (
 bm (ab s.P 3 vK hJ) hJ fun vN hM=>
 bm (aa s.P 57 v5 1) hM fun vG hO=>
 bm (ab s.P 53 vG hO) hO fun vl hs=>
 bp (yC s k wl 86 true true (.fn (.func 80) [] []) [vl] hs) fun vt hS=>
 bm (aa s.P 57 v5 2) hS fun vS hV=>
 stO hF.length vS (
 bm (ab s.P 55 vS hV) hV fun vL hP=>
 bm (a8 s.P 57 [(0,vN),(1,vt),(2,vL)]) hP fun vQ hZ=>
 bs (ah s.P wl 57 vE vQ hZ) fun hb=>
 bm (ab s.P 23 v1 hb) hb fun vV hY=>
 bm (ab s.P 57 v5 hY) hY fun vp hp=>
 bp (yC s k wl 86 false true (.fn (.func 85) [] []) [vV,b,d,vp] hp) fun vq hw=>
 bm (vUn .not vq) hw fun v43 hx=>
 cnd v43 (
 bm (ab s.P 26 vC hx) hx fun v45 h46=>
 bm (ab s.P 57 vE h46) h46 fun vh hy=>
 bs (ah s.P wl 57 v9 vh hy) fun hR=>
 bp (some (.own hR.length 0 0,hR++[.rows 0 [] 0 true])) fun vo hj=>
 dK [some v45,ab s.P 57 v9 hj,some vo] hj) (
 bp (aw s.P 34 hx) fun vT ht=>
 bm (aa s.P 57 vE 1) ht fun v54 hi=>
 bm (ab s.P 53 v54 hi) hi fun vf ho=>
 bm (aj s.P 53 vf (.lit (.int .i64 0)) ho) ho fun v58 hv=>
 bm (ab s.P 3 v58 hv) hv fun v60 h61=>
 bp (aw s.P 3 h61) fun vZ h63=>
 bs (ah s.P wl 3 vZ v60 h63) fun hl=>
 bp (aw s.P 170 hl) fun vU hf=>
 bs (ah s.P wl 170 vU (.fn (.func 131) [] [vT,v3]) hf) fun h67=>
 bp (aw s.P 1 h67) fun vg h69=>
 bs (ah s.P wl 1 vg (.fn (.func 132) [] [vE]) h69) fun hu=>
 bp (aw s.P 32 hu) fun ve hm=>
 bs (ah s.P wl 32 ve (.fn (.func 133) [] [vE,v1,vC]) hm) fun h73=>
 bm (a8 s.P 175 [(0,(.fn (.func 136) [] [vE,vC,vU,vZ,vg])),(1,(.fn (.func 137) [] [vC,v3,vZ,vE])),(2,(.fn (.func 139) [] [ve,vE,vU,vZ])),(3,(.fn (.func 140) [] [vC,vg,v3,vE])),(4,(.fn (.func 141) [] [ve,vg])),(5,(.fn (.func 142) [] [vC,vU,vZ,vg]))]) h73 fun v74 h75=>
 bp (aw s.P 175 h75) fun v76 h77=>
 bs (ah s.P wl 175 v76 v74 h77) fun h78=>
 bm (aa s.P 57 v5 0) h78 fun v79 h80=>
 bm (ab s.P 3 v79 h80) h80 fun v81 h82=>
 bm (aj s.P 175 v76 v81 h82) h82 fun v83 h84=>
 bm (ab s.P 1 v83 h84) h84 fun v85 h86=>
 bp (yC s k wl 86 false true v85 [] h86) fun v87 hn=>
 bm (ab s.P 26 vC hn) hn fun v89 h90=>
 bm (ab s.P 57 vE h90) h90 fun v91 h92=>
 stO hn.length vT (
 bm (ab s.P 34 vT h92) h92 fun v93 h94=>
 bs (ah s.P wl 57 v9 v91 h94) fun h95=>
 apt (lgW v9 (lgR vT ([],[]))) (
 dK [some v89,ab s.P 57 v9 h95,some v93] h95))))):=kB
theorem aeC:evF Tryz.prog xM (k+1) wl 86 [a,b,d,e,f] h=ai (xX (xS k) 86 wl k false) Tryz.f86 [a,b,d,e,f] h:=by kernel_rfl
-- names: ac5,
theorem Yc:ai (xX s 131 wl k false) Tryz.f131 [a,b,d,e] h =
 bm (ab s.P 34 d h) h fun v1 h2=>
 bm (ab s.P 3 e h2) h2 fun v3 h4=>
 bm (a8 s.P 52 [(0,a),(1,b),(2,v3)]) h4 fun v5 h6=>
 bp (aA s.P wl 34 1 [(0,v5)] h6) fun v7 h8=>
 bp (gL s.P wl 34 34 v1 v7 h8) fun v9 hA=>
 bs (ah s.P wl 34 d v9 hA) fun hQ=>
 some (.tup [],hQ):=kB
theorem Y4:evF Tryz.prog xM (k+1) wl 131 [a,b,d,e] h=ai (xX (xS k) 131 wl k false) Tryz.f131 [a,b,d,e] h:=by kernel_rfl
-- names: Yc,
theorem U2:ai (xX s 132 wl k false) Tryz.f132 [a] h =
 bm (aa s.P 57 a 1) h fun v1 h2=>
 bm (ab s.P 53 v1 h2) h2 fun v3 h4=>
 bp (bV s.P wl false 53 v3 (some (.lit (.int .i64 1))) none none h4) fun v5 h6=>
 bm (a8 s.P 57 [(1,v5)]) h6 fun v7 h8=>
 bs (ah s.P wl 57 a v7 h8) fun h9=>
 some (.tup [],h9):=kB
theorem aaF:evF Tryz.prog xM (k+1) wl 132 [a] h=ai (xX (xS k) 132 wl k false) Tryz.f132 [a] h:=by kernel_rfl
-- names: U2,
noncomputable def wT:Code:=ak (al Tryz.f133) [1,1,0,0]
noncomputable def pY:List Fr:=[.seq (ak (al Tryz.f133) [1,1,0,1]),.seq (ak (al Tryz.f133) [1,1,1])]
noncomputable def wF:List Fr:=[.seq (ak (al Tryz.f133) [1,1,1])]
theorem Yp:ai (xX s 133 wl k false) Tryz.f133 [a,b,d] h =
 bm (aa s.P 57 a 2) h fun v1 h2=>
 bm (aa s.P 55 v1 0) h2 fun v3 h4=>
 bm (ab s.P 3 v3 h4) h4 fun v5 h6=>
 bm (au s.P .eql 3 v5 (.lit (.int .i64 3))) h6 fun v7 h8=>
 gd v7 (
 yO s k wl 133 Tryz.f133 wT 9 h.length ([],[]) pY ⟨[a,b,d,(.lit (.bool false)),(.fn (.func 134) [] []),v1,v3,v5,v7,(.lit (.bool true)),uu,uu,uu,uu,uu,uu,uu,uu,uu,uu,uu,uu,uu,uu,uu,uu,uu,uu],h8⟩) (
 bm (aa s.P 57 a 2) h8 fun v9 hA=>
 bm (aa s.P 55 v9 0) hA fun vA hB=>
 bm (ab s.P 3 vA hB) hB fun vB hD=>
 bm (au s.P .eql 3 vB (.lit (.int .i64 4))) hD fun vC hE=>
 yO s k wl 133 Tryz.f133 wT 9 h.length ([],[]) pY ⟨[a,b,d,(.lit (.bool false)),(.fn (.func 134) [] []),v1,v3,v5,v7,(.lit (.bool false)),v9,vA,vB,vC,uu,uu,uu,uu,uu,uu,uu,uu,uu,uu,uu,uu,uu,uu],hE⟩) (
 yO s k wl 133 Tryz.f133 wT 6 h.length ([],[]) pY ⟨[a,b,d,(.lit (.bool false)),(.fn (.func 134) [] []),v1,v3,v5,v7,v7,uu,uu,uu,uu,uu,uu,uu,uu,uu,uu,uu,uu,uu,uu,uu,uu,uu,uu],h8⟩):=kB
theorem Y9:evF Tryz.prog xM (k+1) wl 133 [a,b,d] h=ai (xX (xS k) 133 wl k false) Tryz.f133 [a,b,d] h:=by kernel_rfl
theorem Jn:yO s k wl 133 Tryz.f133 wT 9 m0 ac pY ⟨(a::b::d::e::f::o::p::g::q::j::u::l::v::n::y::zz),h⟩ =
 bm (aM j (.lit (.bool true)) n) h fun vD hG=>
 cnd vD (
 ap (xX s 133 wl k false) (am s.P Tryz.f133) wF .norm ⟨(a::b::d::e::(.fn (.func 135) [] [])::o::p::g::q::j::u::l::v::n::vD::zz),hG⟩) (
 ap (xX s 133 wl k false) (am s.P Tryz.f133) wF .norm ⟨(a::b::d::e::f::o::p::g::q::j::u::l::v::n::vD::zz),hG⟩):=kG
theorem I0:ap (xX s 133 wl k false) (am s.P Tryz.f133) wF .norm ⟨[a,b,d,e,f,o,p,g,q,j,u,l,v,n,y,A,z,E,D,F,B,L,I,M,J,G,O,N],h⟩ =
 bm (ab s.P 23 b h) h fun vI hH=>
 bm (ab s.P 26 d hH) hH fun vF hI=>
 bm (aa s.P 57 a 2) hI fun vJ hL=>
 bm (ab s.P 55 vJ hL) hL fun vR hN=>
 bp (yC s k wl 133 false true f [vI,vF,vR] hN) fun vH hT=>
 bm (ao vH 0) hT fun vP hU=>
 bm (ao vH 1) hU fun vm he=>
 bs (ah s.P wl 26 d vP he) fun hP=>
 bm (aa s.P 57 a 2) hP fun vQ hZ=>
 bs (ah s.P wl 55 vQ vm hZ) fun hb=>
 bm (aa s.P 57 a 2) hb fun vV hY=>
 bm (ab s.P 55 vV hY) hY fun vp hp=>
 bp (yC s k wl 133 false true (.fn (.func 110) [] []) [vp] hp) fun vq hw=>
 some (vq,hw):=kR
theorem pn (cx:Cx) (s:St):ap cx K pY .ret s=K .ret s:=by kernel_rfl
theorem oZ (cx:Cx) (s:St):ap cx K wF .ret s=K .ret s:=by kernel_rfl
-- names: Yp,Jn,I0,pn,oZ
theorem W6:ai (xX s 136 wl k false) Tryz.f136 [a,b,d,e,f] h =
 bm (aa s.P 57 a 0) h fun v1 h2=>
 bs (ah s.P wl 3 v1 (.lit (.int .i64 1)) h2) fun h3=>
 bm (ab s.P 26 b h3) h3 fun v4 h5=>
 bp (yC s k wl 136 false true (.fn (.func 27) [] []) [v4,(.lit (.int .i64 3))] h5) fun v6 h7=>
 bm (au s.P .neq 46 v6 (.lit (.int .u64 0))) h7 fun v8 h9=>
 cnd v8 (
 bm (ab s.P 170 d h9) h9 fun vi hQ=>
 bm (ab s.P 3 e hQ) hQ fun vj hX=>
 bp (yC s k wl 136 false true vi [(.lit (.int .i64 1)),vj] hX) fun vY hK=>
 bm (ab s.P 1 f hK) hK fun vO hF=>
 bp (yC s k wl 136 false true vO [] hF) fun vE hC=>
 some (.tup [],hC)) (
 some (.tup [],h9)):=kB
theorem acC:evF Tryz.prog xM (k+1) wl 136 [a,b,d,e,f] h=ai (xX (xS k) 136 wl k false) Tryz.f136 [a,b,d,e,f] h:=by kernel_rfl
-- names: W6,
theorem XT:ai (xX s 137 wl k false) Tryz.f137 [a,b,d,e] h =
 bm (ab s.P 26 a h) h fun v1 h2=>
 bp (yC s k wl 137 false true (.fn (.func 138) [] []) [v1,(.lit (.int .i64 0)),(.lit (.int .u64 1))] h2) fun v3 h4=>
 bm (ao v3 0) h4 fun v5 h6=>
 bm (ao v3 1) h6 fun v7 h8=>
 bs (ah s.P wl 26 a v5 h8) fun h9=>
 bm (ab s.P 3 b h9) h9 fun vi hQ=>
 bm (ab s.P 3 d hQ) hQ fun vj hX=>
 bm (fi s.P 3 46 vj) hX fun vY hK=>
 bp (yC s k wl 137 false true (.fn (.func 104) [] []) [(.lit (.int .i64 3)),vi,vY] hK) fun vO hF=>
 bm (aa s.P 57 e 0) hF fun vE hC=>
 bs (ah s.P wl 3 vE (.lit (.int .i64 2)) hC) fun hH=>
 bm (aa s.P 57 e 2) hH fun vF hI=>
 bs (ah s.P wl 55 vF vO hI) fun hM=>
 some (.tup [],hM):=kB
theorem aa7:evF Tryz.prog xM (k+1) wl 137 [a,b,d,e] h=ai (xX (xS k) 137 wl k false) Tryz.f137 [a,b,d,e] h:=by kernel_rfl
-- names: XT,
theorem V6:ai (xX s 139 wl k false) Tryz.f139 [a,b,d,e] h =
 bm (ab s.P 32 a h) h fun v1 h2=>
 bp (yC s k wl 139 false true v1 [] h2) fun v3 h4=>
 bm (vUn .not v3) h4 fun v5 h6=>
 cnd v5 (
 some (.tup [],h6)) (
 bm (aa s.P 57 b 0) h6 fun v7 h8=>
 bs (ah s.P wl 3 v7 (.lit (.int .i64 5)) h8) fun h9=>
 bm (aa s.P 57 b 2) h9 fun vi hQ=>
 bm (aa s.P 55 vi 6) hQ fun vj hX=>
 bm (ab s.P 3 vj hX) hX fun vY hK=>
 bm (au s.P .neq 3 vY (.lit (.int .i64 2))) hK fun vO hF=>
 cnd vO (
 bm (ab s.P 170 d hF) hF fun vE hC=>
 bm (ab s.P 3 e hC) hC fun vK hJ=>
 bp (yC s k wl 139 false true vE [(.lit (.int .i64 0)),vK] hJ) fun vN hM=>
 bm (aa s.P 57 b 0) hM fun vG hO=>
 bs (ah s.P wl 3 vG (.lit (.int .i64 3)) hO) fun hN=>
 some (.tup [],hN)) (
 some (.tup [],hF))):=kB
theorem YZ:evF Tryz.prog xM (k+1) wl 139 [a,b,d,e] h=ai (xX (xS k) 139 wl k false) Tryz.f139 [a,b,d,e] h:=by kernel_rfl
-- names: V6,
theorem Wb:ai (xX s 140 wl k false) Tryz.f140 [a,b,d,e] h =
 bm (ab s.P 26 a h) h fun v1 h2=>
 bp (yC s k wl 140 false true (.fn (.func 27) [] []) [v1,(.lit (.int .i64 1))] h2) fun v3 h4=>
 bm (au s.P .neq 46 v3 (.lit (.int .u64 0))) h4 fun v5 h6=>
 cnd v5 (
 bm (ab s.P 1 b h6) h6 fun v7 h8=>
 bp (yC s k wl 140 false true v7 [] h8) fun v9 hA=>
 some (.tup [],hA)) (
 bm (ab s.P 3 d h6) h6 fun vA hB=>
 bp (yC s k wl 140 false true (.fn (.func 104) [] []) [(.lit (.int .i64 6)),vA,(.lit (.int .u64 0))] hB) fun vB hD=>
 bm (aa s.P 57 e 0) hD fun vC hE=>
 bs (ah s.P wl 3 vC (.lit (.int .i64 4)) hE) fun hF=>
 bm (aa s.P 57 e 2) hF fun vE hC=>
 bs (ah s.P wl 55 vE vB hC) fun hH=>
 some (.tup [],hH)):=kB
theorem acU:evF Tryz.prog xM (k+1) wl 140 [a,b,d,e] h=ai (xX (xS k) 140 wl k false) Tryz.f140 [a,b,d,e] h:=by kernel_rfl
-- names: Wb,
theorem VZ:ai (xX s 141 wl k false) Tryz.f141 [a,b] h =
 bm (ab s.P 32 a h) h fun v1 h2=>
 bp (yC s k wl 141 false true v1 [] h2) fun v3 h4=>
 cnd v3 (
 bm (ab s.P 1 b h4) h4 fun v5 h6=>
 bp (yC s k wl 141 false true v5 [] h6) fun v7 h8=>
 some (.tup [],h8)) (
 some (.tup [],h4)):=kB
theorem aba:evF Tryz.prog xM (k+1) wl 141 [a,b] h=ai (xX (xS k) 141 wl k false) Tryz.f141 [a,b] h:=by kernel_rfl
-- names: VZ,
theorem VR:ai (xX s 142 wl k false) Tryz.f142 [a,b,d,e] h =
 bm (ab s.P 26 a h) h fun v1 h2=>
 bp (yC s k wl 142 false true (.fn (.func 138) [] []) [v1,(.lit (.int .i64 0)),(.lit (.int .u64 18446744073709551615))] h2) fun v3 h4=>
 bm (ao v3 0) h4 fun v5 h6=>
 bm (ao v3 1) h6 fun v7 h8=>
 bs (ah s.P wl 26 a v5 h8) fun h9=>
 bm (ab s.P 170 b h9) h9 fun vi hQ=>
 bm (ab s.P 3 d hQ) hQ fun vj hX=>
 bp (yC s k wl 142 false true vi [(.lit (.int .i64 1)),vj] hX) fun vY hK=>
 bm (au s.P .eql 46 v7 (.lit (.int .u64 1))) hK fun vO hF=>
 cnd vO (
 bm (ab s.P 170 b hF) hF fun vE hC=>
 bp (yC s k wl 142 false true vE [(.lit (.int .i64 5)),(.lit (.int .i64 0))] hC) fun vK hJ=>
 bm (ab s.P 1 e hJ) hJ fun vN hM=>
 bp (yC s k wl 142 false true vN [] hM) fun vG hO=>
 some (.tup [],hO)) (
 bm (ab s.P 1 e hF) hF fun vl hs=>
 bp (yC s k wl 142 false true vl [] hs) fun vt hS=>
 some (.tup [],hS)):=kB
theorem acx:evF Tryz.prog xM (k+1) wl 142 [a,b,d,e] h=ai (xX (xS k) 142 wl k false) Tryz.f142 [a,b,d,e] h:=by kernel_rfl
-- names: VR,
theorem adD:ai (xX s 28 wl k false) Tryz.f28 [a] h =
 bp (aL a h) fun v1 h2=>
 bm (aa s.P 57 v1 0) h2 fun v3 h4=>
 bm (ab s.P 3 v3 h4) h4 fun v5 h6=>
 bm (au s.P .neq 3 v5 (.lit (.int .i64 0))) h6 fun v7 h8=>
 some (v7,h8):=kB
theorem aer:evF Tryz.prog xM (k+1) wl 28 [a] h=ai (xX (xS k) 28 wl k false) Tryz.f28 [a] h:=by kernel_rfl
-- names: adD,
theorem adx:ai (xX s 63 wl k false) Tryz.f63 [a] h =
 bp (aw s.P 57 h) fun v1 h2=>
 bp (yC s k wl 63 false true (.fn (.func 80) [] []) [a] h2) fun v3 h4=>
 bm (a8 s.P 57 [(1,v3)]) h4 fun v5 h6=>
 bs (ah s.P wl 57 v1 v5 h6) fun h7=>
 dK [ab s.P 57 v1 h7] h7:=kB
theorem ad7:evF Tryz.prog xM (k+1) wl 63 [a] h=ai (xX (xS k) 63 wl k false) Tryz.f63 [a] h:=by kernel_rfl
-- names: adx,
end
end Go.Ab
