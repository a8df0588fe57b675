import Derived.Test.YtblpbpnilkfjhaaGreatR6Seat
import Derived.Test.YtblpbpnilkfjhaaGreatAbLibC
set_option linter.unusedVariables false
set_option linter.unusedSimpArgs false
set_option maxRecDepth 100000
set_option linter.unusedVariables false
namespace Go.Ab
open Go.Proofs
section
variable (s:Sys) (k wl:Nat) (m0:Nat) (ac:List Nat×List Nat) (c d g j l q p o e u r z A B F D E G I L N M J O R Q U T Y X Z W t4 t0 t5 t1 t2 t3:V) (h:Hp) (K:Out→St→Option (V×Hp)) (rd:Bool) (n n0:Nat) (zz:List V)
noncomputable def us:Code:=al (an Tryz.f21) [1,0,1,0,0]
noncomputable def IS:List Fr:=[.block 0,.seq (al (an Tryz.f21) [1,1])]
noncomputable def IV:Code:=al (an Tryz.f21) [1,0,1,0,0,0,0]
noncomputable def Er:List Fr:=[.seq (al (an Tryz.f21) [1,0,1,0,0,0,1]),.seq (al (an Tryz.f21) [1,0,1,0,0,1])]
theorem aeg:ak (xX s 21 wl k false) Tryz.f21 [c] h =
 yI s k wl 21 Tryz.f21 us h.length IS k ⟨[(V.kill h.length c),(V.kill h.length uu),(.lit (.bool false)),(.lit (.int .i64 0)),.junk,.junk,.junk,.junk,.junk,.junk,.junk,.junk,.junk,.junk,.junk,.junk,.junk,.junk,.junk,.junk,.junk,(V.kill h.length uu),(V.kill h.length uu),(V.kill h.length uu)],bR h.length h⟩:=kB
theorem ahV:evF Tryz.prog xM (k+1) wl 21 [c] h=ak (xX (xS k) 21 wl k false) Tryz.f21 [c] h:=by kernel_rfl
theorem af0 (P:Program):av P Tryz.f21 .ret ⟨[c,d,g,j,l,q,p,o,e,u,r,z,A,B,F,D,E,G,I,L,N,M,J,O],h⟩=some (g,h):=by kernel_rfl
theorem T1:itX (xX s 21 wl k rd) us n0 K (n+1) ⟨(c::d::g::j::l::q::p::o::e::u::r::zz),h⟩ =
 bp (bh s.P 24 c h) fun v1 h2=>
 bm (aA s.P .lss 3 j v1) h2 fun v3 h4=>
 gd v3 (
 bm (aA s.P .leq 3 j (.lit (.int .i64 40))) h4 fun v5 h6=>
 dK (xX s 21 wl k rd) IV 7 h.length ([],[]) (aw (xX s 21 wl k rd) (eg (xX s 21 wl k rd) us n0 K n) Er) ⟨(c::d::g::j::j::c::v1::v3::(.lit (.bool true))::j::v5::zz),h6⟩) (
 dK (xX s 21 wl k rd) IV 7 h.length ([],[]) (aw (xX s 21 wl k rd) (eg (xX s 21 wl k rd) us n0 K n) Er) ⟨(c::d::g::j::j::c::v1::v3::(.lit (.bool false))::uu::uu::zz),h4⟩) (
 dK (xX s 21 wl k rd) IV 6 h.length ([],[]) (aw (xX s 21 wl k rd) (eg (xX s 21 wl k rd) us n0 K n) Er) ⟨(c::d::g::j::j::c::v1::v3::v3::uu::r::zz),h4⟩):=kI
theorem Ma:aw (xX s 21 wl k false) (av s.P Tryz.f21) IS (.exit 0) ⟨[c,d,g,j,l,q,p,o,e,u,r,z,A,B,F,D,E,G,I,L,N,M,J,O],h⟩ =
 bp (bh s.P 24 c h) fun v7 h8=>
 bm (aA s.P .leq 3 v7 (.lit (.int .i64 40))) h8 fun v9 hA=>
 some (v9,hA):=kR
theorem NQ:dK (xX s 21 wl k rd) IV 7 m0 ac (aw (xX s 21 wl k rd) (eg (xX s 21 wl k rd) us n0 K n) Er) ⟨[c,d,g,j,l,q,p,o,e,u,r,z,A,B,F,D,E,G,I,L,N,M,J,O],h⟩ =
 bm (aS e r (.lit (.bool false))) h fun vA hB=>
 cnd vA (
 bm (am s.P 24 c j hB) hB fun vB hD=>
 bm (aa s.P 101 vB 1) hD fun vC hE=>
 bm (ab s.P 53 vC hE) hE fun vD hG=>
 bp (bh s.P 53 vD hG) fun vI hH=>
 bm (aA s.P .gtr 3 vI (.lit (.int .i64 40))) hH fun vF hI=>
 cnd vF (
 K .ret ⟨[c,d,(.lit (.bool false)),j,l,q,p,o,e,u,r,vA,A,B,c,j,vB,vC,vD,vI,vF,M,J,O],hI⟩) (
 bm (aA s.P .add 3 j (.lit (.int .i64 1))) hI fun vJ hL=>
 itX (xX s 21 wl k rd) us n0 K n ⟨[(V.kill n0 c),(V.kill n0 d),(V.kill n0 g),(V.kill n0 vJ),.junk,.junk,.junk,.junk,.junk,.junk,.junk,.junk,.junk,.junk,.junk,.junk,.junk,.junk,.junk,.junk,.junk,(V.kill n0 M),(V.kill n0 J),(V.kill n0 O)],bR n0 hL⟩)) (
 K (.exit 0) ⟨[(V.kill n0 c),(V.kill n0 d),(V.kill n0 g),(V.kill n0 j),.junk,.junk,.junk,.junk,.junk,.junk,.junk,.junk,.junk,.junk,.junk,.junk,.junk,.junk,.junk,.junk,.junk,(V.kill n0 M),(V.kill n0 J),(V.kill n0 O)],bR n0 hB⟩):=kG
theorem ry (cx:Cx) (s:St):aw cx K IS .ret s=K .ret s:=by kernel_rfl
theorem rD (cx:Cx) (s:St):aw cx K Er .ret s=K .ret s:=by kernel_rfl
-- names: aeg,af0,T1,Ma,NQ,ry,rD
noncomputable def Jx:Code:=al (an Tryz.f56) [1,0,0]
noncomputable def Ex:List Fr:=[.seq (al (an Tryz.f56) [1,0,1]),.seq (al (an Tryz.f56) [1,1])]
noncomputable def S1:Code:=al (an Tryz.f56) [1,1,1,0,1,0]
noncomputable def EW:Code:=al (an Tryz.f56) [1,1,1,0,1,0,0]
noncomputable def EP:Code:=al (an Tryz.f56) [1,1,1,0,1,0,1]
noncomputable def BX:List Fr:=[.block 0,.seq (al (an Tryz.f56) [1,1,1,1])]
noncomputable def ue:Code:=al (an Tryz.f56) [1,1,1,0,1,0,1,0,0,0]
noncomputable def oU:List Fr:=[.seq (al (an Tryz.f56) [1,1,1,0,1,0,1,0,0,1]),.seq (al (an Tryz.f56) [1,1,1,0,1,0,1,0,1]),.block 1]
theorem wa:S1= .rangeFunc (.tmp 17) #[18,19] EW EP:=by kernel_rfl
theorem ac5:ak (xX s 56 wl k false) Tryz.f56 [c] h =
 bp (aQ c h) fun v1 h2=>
 bp (az s.P 4 h2) fun v3 h4=>
 bm (ab s.P 24 v1 h4) h4 fun v5 h6=>
 bp (bh s.P 24 v5 h6) fun v7 h8=>
 bm (aA s.P .gtr 3 v7 (.lit (.int .i64 30))) h8 fun v9 hA=>
 gd v9 (
 yO s k wl 56 Tryz.f56 Jx 6 h4.length ([],[]) Ex ⟨[c,v1,v3,uu,uu,uu,v5,v7,v9,(.lit (.bool true)),uu,uu,uu,uu,uu,uu,uu,uu,uu,uu,uu,uu,uu,uu,uu,uu,uu,uu,uu,uu,uu,uu,uu,uu,uu,uu,uu,uu],hA⟩) (
 bm (ab s.P 24 v1 hA) hA fun vA hB=>
 bp (yC s k wl 56 false true (.fn (.func 98) [] []) [vA,(.fn (.func 99) [] [])] hB) fun vB hD=>
 yO s k wl 56 Tryz.f56 Jx 6 h4.length ([],[]) Ex ⟨[c,v1,v3,uu,uu,uu,v5,v7,v9,(.lit (.bool false)),vA,vB,uu,uu,uu,uu,uu,uu,uu,uu,uu,uu,uu,uu,uu,uu,uu,uu,uu,uu,uu,uu,uu,uu,uu,uu,uu,uu],hD⟩) (
 yO s k wl 56 Tryz.f56 Jx 5 h4.length ([],[]) Ex ⟨[c,v1,v3,uu,uu,uu,v5,v7,v9,v9,uu,uu,uu,uu,uu,uu,uu,uu,uu,uu,uu,uu,uu,uu,uu,uu,uu,uu,uu,uu,uu,uu,uu,uu,uu,uu,uu,uu],hA⟩):=kB
theorem ady:evF Tryz.prog xM (k+1) wl 56 [c] h=ak (xX (xS k) 56 wl k false) Tryz.f56 [c] h:=by kernel_rfl
theorem ac0 (P:Program):av P Tryz.f56 .ret ⟨[c,d,g,j,l,q,p,o,e,u,r,z,A,B,F,D,E,G,I,L,N,M,J,O,R,Q,U,T,Y,X,Z,W,t4,t0,t5,t1,t2,t3],h⟩=ew [ab P 4 g h] h:=by kernel_rfl
theorem I1:yO s k wl 56 Tryz.f56 Jx 6 m0 ac Ex ⟨(c::d::g::j::l::q::p::o::e::u::r::z::A::B::F::D::E::G::zz),h⟩ =
 bm (aS u (.lit (.bool true)) z) h fun vC hE=>
 cnd vC (
 bs (ai s.P wl 4 g (.lit (.bool false)) hE) fun hF=>
 ew [ab s.P 4 g hF] hF) (
 bm (ab s.P 24 d hE) hE fun vE hC=>
 bp (bh s.P 24 vE hC) fun vK hJ=>
 bp (bg s.P 150 vK vK hJ) fun vN hM=>
 bp (az s.P 150 hM) fun vG hO=>
 bs (ai s.P wl 150 vG vN hO) fun hN=>
 bm (ab s.P 24 d hN) hN fun vH hT=>
 bp (yC s k wl 56 false true (.fn (.func 100) [] []) [vH] hT) fun vP hU=>
 bd (xX s 56 wl k false) S1 none (aw (xX s 56 wl k false) (av s.P Tryz.f56) BX) ⟨(c::d::g::vG::l::q::p::o::e::u::r::z::vC::vE::vK::vN::vH::vP::zz),hU⟩):=kG
theorem Jp:aw (xX s 56 wl k false) (av s.P Tryz.f56) BX .norm ⟨(c::d::g::zz),h⟩ =
 bs (ai s.P wl 4 g (.lit (.bool true)) h) fun hV=>
 ew [ab s.P 4 g hV] hV:=kR
theorem eI:aw (xX s 56 wl k rd) K [.seq EP] .norm ⟨[c,d,g,j,l,q,p,o,e,u,r,z,A,B,F,D,E,G,I,L,N,M,J,O,R,Q,U,T,Y,X,Z,W,t4,t0,t5,t1,t2,t3],h⟩ =
 bm (aA s.P .leq 3 l q) h fun vL hP=>
 gd vL (
 dK (xX s 56 wl k rd) ue 8 h.length ([],[]) (aw (xX s 56 wl k rd) K oU) ⟨[c,d,g,j,l,q,p,o,e,u,r,z,A,B,F,D,E,G,I,L,l,q,vL,(.lit (.bool true)),uu,uu,uu,uu,Y,X,Z,W,t4,t0,t5,t1,t2,t3],hP⟩) (
 bm (ab s.P 24 d hP) hP fun vQ hZ=>
 bp (bh s.P 24 vQ hZ) fun va hq=>
 bm (aA s.P .geq 3 l va) hq fun vW hg=>
 dK (xX s 56 wl k rd) ue 8 h.length ([],[]) (aw (xX s 56 wl k rd) K oU) ⟨[c,d,g,j,l,q,p,o,e,u,r,z,A,B,F,D,E,G,I,L,l,q,vL,(.lit (.bool false)),l,vQ,va,vW,Y,X,Z,W,t4,t0,t5,t1,t2,t3],hg⟩) (
 dK (xX s 56 wl k rd) ue 5 h.length ([],[]) (aw (xX s 56 wl k rd) K oU) ⟨[c,d,g,j,l,q,p,o,e,u,r,z,A,B,F,D,E,G,I,L,l,q,vL,vL,uu,Q,U,T,Y,X,Z,W,t4,t0,t5,t1,t2,t3],hP⟩):=kR
theorem eG:aw (xX s 56 wl k rd) K [.seq EW] .norm ⟨(c::d::g::j::l::q::p::o::e::u::r::z::A::B::F::D::E::G::I::L::zz),h⟩ =
 K .norm ⟨(c::d::g::j::I::L::p::o::e::u::r::z::A::B::F::D::E::G::I::L::zz),h⟩:=kR
theorem IW:dK (xX s 56 wl k rd) ue 8 m0 ac (aw (xX s 56 wl k rd) K oU) ⟨[c,d,g,j,l,q,p,o,e,u,r,z,A,B,F,D,E,G,I,L,N,M,J,O,R,Q,U,T,Y,X,Z,W,t4,t0,t5,t1,t2,t3],h⟩ =
 bm (aS O (.lit (.bool true)) T) h fun vM hW=>
 gd vM (
 dK (xX s 56 wl k rd) ue 14 m0 ac (aw (xX s 56 wl k rd) K oU) ⟨[c,d,g,j,l,q,p,o,e,u,r,z,A,B,F,D,E,G,I,L,N,M,J,O,R,Q,U,T,vM,(.lit (.bool true)),uu,uu,uu,uu,t5,t1,t2,t3],hW⟩) (
 bm (ab s.P 150 j hW) hW fun vb ha=>
 bm (am s.P 150 vb l ha) ha fun vc hh=>
 bm (ab s.P 4 vc hh) hh fun vk hc=>
 dK (xX s 56 wl k rd) ue 14 m0 ac (aw (xX s 56 wl k rd) K oU) ⟨[c,d,g,j,l,q,p,o,e,u,r,z,A,B,F,D,E,G,I,L,N,M,J,O,R,Q,U,T,vM,(.lit (.bool false)),vb,l,vc,vk,t5,t1,t2,t3],hc⟩) (
 dK (xX s 56 wl k rd) ue 11 m0 ac (aw (xX s 56 wl k rd) K oU) ⟨[c,d,g,j,l,q,p,o,e,u,r,z,A,B,F,D,E,G,I,L,N,M,J,O,R,Q,U,T,vM,vM,uu,W,t4,t0,t5,t1,t2,t3],hW⟩):=kG
theorem Iv:dK (xX s 56 wl k rd) ue 14 m0 ac (aw (xX s 56 wl k rd) K oU) ⟨[c,d,g,j,l,q,p,o,e,u,r,z,A,B,F,D,E,G,I,L,N,M,J,O,R,Q,U,T,Y,X,Z,W,t4,t0,t5,t1,t2,t3],h⟩ =
 bm (aS X (.lit (.bool true)) t0) h fun vX hR=>
 cnd vX (
 bs (ai s.P wl 4 g (.lit (.bool false)) hR) fun hz=>
 K .ret ⟨[c,d,g,j,l,q,p,o,e,u,r,z,A,B,F,D,E,G,I,L,N,M,J,O,R,Q,U,T,Y,X,Z,W,t4,t0,vX,t1,t2,t3],hz⟩) (
 bm (ab s.P 150 j hR) hR fun vr hr=>
 bm (am s.P 150 vr l hr) hr fun vs hd=>
 bs (ai s.P wl 4 vs (.lit (.bool true)) hd) fun hi=>
 K .norm ⟨[c,d,g,j,l,q,p,o,e,u,r,z,A,B,F,D,E,G,I,L,N,M,J,O,R,Q,U,T,Y,X,Z,W,t4,t0,vX,vr,l,vs],hi⟩):=kG
theorem nA (cx:Cx) (s:St):aw cx K Ex .ret s=K .ret s:=by kernel_rfl
theorem nE (cx:Cx) (s:St):aw cx K BX .ret s=K .ret s:=by kernel_rfl
theorem nG (cx:Cx) (s:St):aw cx K oU .ret s=K .ret s:=by kernel_rfl
-- names: ac5,ac0,I1,Jp,eI,eG,IW,Iv,nA,nE,nG
-- range over a function at [1,1,1,0,1,0]
noncomputable def Ch:Code:=al (an Tryz.f57) [1,1,1,0,1,0,0]
noncomputable def EB:List Fr:=[.block 0,.seq (al (an Tryz.f57) [1,1,1,1])]
theorem Yh:ak (xX s 57 wl k false) Tryz.f57 [c] h =
 bp (some (.own h.length 0 0,h++[.rows 0 [] 0 true])) fun v1 h2=>
 bp (yC s k wl 57 false true (.fn (.func 56) [] []) [c] h2) fun v3 h4=>
 bm (vUn .not v3) h4 fun v5 h6=>
 cnd v5 (
 bp (some (.own h6.length 0 0,h6++[.rows 0 [] 0 true])) fun v7 h8=>
 some (v7,h8)) (
 bp (some (.own h6.length 0 0,h6++[.rows 0 [] 0 true])) fun v9 hA=>
 bp (bh s.P 24 c hA) fun vA hB=>
 yI s k wl 57 Tryz.f57 Ch hB.length EB k ⟨[(V.kill hB.length c),(V.kill hB.length uu),(V.kill hB.length v1),(V.kill hB.length v9),(V.kill hB.length uu),(V.kill hB.length c),(V.kill hB.length v3),(V.kill hB.length v5),(V.kill hB.length c),(V.kill hB.length vA),(.lit (.int .i64 0)),.junk,.junk,.junk,.junk,.junk,.junk,.junk,.junk,.junk,.junk,.junk,(V.kill hB.length uu)],bR hB.length hB⟩):=kB
theorem acb:evF Tryz.prog xM (k+1) wl 57 [c] h=ak (xX (xS k) 57 wl k false) Tryz.f57 [c] h:=by kernel_rfl
theorem Yj (P:Program):av P Tryz.f57 .ret ⟨[c,d,g,j,l,q,p,o,e,u,r,z,A,B,F,D,E,G,I,L,N,M,J],h⟩=some (g,h):=by kernel_rfl
theorem Tw:itX (xX s 57 wl k rd) Ch n0 K (n+1) ⟨[c,d,g,j,l,q,p,o,e,u,r,z,A,B,F,D,E,G,I,L,N,M,J],h⟩ =
 bm (aA s.P .lss 3 r u) h fun vB hD=>
 cnd vB (
 bp (bG (xX s 57 wl k rd) false true (.fn (.func 101) [] []) [c,r] hD) fun vC hE=>
 bm (aA s.P .eql 3 vC (.lit (.int .i64 (-1)))) hE fun vD hG=>
 cnd vD (
 bp (aF s.P wl 53 1 [(0,r)] hG) fun vI hH=>
 bp (kS s.P wl 53 53 j vI hH) fun vF hI=>
 bm (aA s.P .add 3 r (.lit (.int .i64 1))) hI fun vJ hL=>
 itX (xX s 57 wl k rd) Ch n0 K n ⟨[(V.kill n0 c),(V.kill n0 d),(V.kill n0 g),(V.kill n0 vF),(V.kill n0 r),(V.kill n0 q),(V.kill n0 p),(V.kill n0 o),(V.kill n0 e),(V.kill n0 u),(V.kill n0 vJ),.junk,.junk,.junk,.junk,.junk,.junk,.junk,.junk,.junk,.junk,.junk,(V.kill n0 J)],bR n0 hL⟩) (
 bm (aA s.P .add 3 r (.lit (.int .i64 1))) hG fun vR hN=>
 itX (xX s 57 wl k rd) Ch n0 K n ⟨[(V.kill n0 c),(V.kill n0 d),(V.kill n0 g),(V.kill n0 j),(V.kill n0 r),(V.kill n0 q),(V.kill n0 p),(V.kill n0 o),(V.kill n0 e),(V.kill n0 u),(V.kill n0 vR),.junk,.junk,.junk,.junk,.junk,.junk,.junk,.junk,.junk,.junk,.junk,(V.kill n0 J)],bR n0 hN⟩)) (
 K (.exit 0) ⟨[(V.kill n0 c),(V.kill n0 d),(V.kill n0 g),(V.kill n0 j),(V.kill n0 l),(V.kill n0 q),(V.kill n0 p),(V.kill n0 o),(V.kill n0 e),(V.kill n0 u),.junk,.junk,.junk,.junk,.junk,.junk,.junk,.junk,.junk,.junk,.junk,.junk,(V.kill n0 J)],bR n0 hD⟩):=kI
theorem BM:aw (xX s 57 wl k false) (av s.P Tryz.f57) EB (.exit 0) ⟨[c,d,g,j,l,q,p,o,e,u,r,z,A,B,F,D,E,G,I,L,N,M,J],h⟩ =
 some (j,h):=kR
theorem iX (cx:Cx) (s:St):aw cx K EB .ret s=K .ret s:=by kernel_rfl
-- names: Yh,Yj,Tw,BM,iX
theorem Zf:ak (xX s 98 wl k false) Tryz.f98 [c,d] h =
 bp (yC s k wl 98 false true (.fn (.func 147) [] []) [c,d] h) fun v1 h2=>
 bm (aA s.P .geq 3 v1 (.lit (.int .i64 0))) h2 fun v3 h4=>
 some (v3,h4):=kB
theorem acZ:evF Tryz.prog xM (k+1) wl 98 [c,d] h=ak (xX (xS k) 98 wl k false) Tryz.f98 [c,d] h:=by kernel_rfl
-- names: Zf,
noncomputable def Ie:Code:=al (an Tryz.f99) [1,0]
noncomputable def FX:List Fr:=[.seq (al (an Tryz.f99) [1,1])]
theorem aaE:ak (xX s 99 wl k false) Tryz.f99 [c] h =
 bp (aQ c h) fun v1 h2=>
 bm (aa s.P 101 v1 0) h2 fun v3 h4=>
 bm (ab s.P 3 v3 h4) h4 fun v5 h6=>
 bm (aA s.P .lss 3 v5 (.lit (.int .i64 0))) h6 fun v7 h8=>
 gd v7 (
 yO s k wl 99 Tryz.f99 Ie 7 h2.length ([],[]) FX ⟨[c,v1,(.lit (.bool false)),v3,v5,v7,(.lit (.bool true)),uu,uu,uu,uu],h8⟩) (
 bm (aa s.P 101 v1 0) h8 fun v9 hA=>
 bm (ab s.P 3 v9 hA) hA fun vA hB=>
 bm (aA s.P .gtr 3 vA (.lit (.int .i64 20))) hB fun vB hD=>
 yO s k wl 99 Tryz.f99 Ie 7 h2.length ([],[]) FX ⟨[c,v1,(.lit (.bool false)),v3,v5,v7,(.lit (.bool false)),v9,vA,vB,uu],hD⟩) (
 yO s k wl 99 Tryz.f99 Ie 5 h2.length ([],[]) FX ⟨[c,v1,(.lit (.bool false)),v3,v5,v7,v7,uu,uu,uu,uu],h8⟩):=kB
theorem acX:evF Tryz.prog xM (k+1) wl 99 [c] h=ak (xX (xS k) 99 wl k false) Tryz.f99 [c] h:=by kernel_rfl
theorem EO:yO s k wl 99 Tryz.f99 Ie 7 m0 ac FX ⟨[c,d,g,j,l,q,p,o,e,u,r],h⟩ =
 bm (aS p (.lit (.bool true)) u) h fun vC hE=>
 some (vC,hE):=kG
theorem lz (cx:Cx) (s:St):aw cx K FX .ret s=K .ret s:=by kernel_rfl
-- names: aaE,EO,lz
theorem GV:ak (xX s 100 wl k false) Tryz.f100 [c] h =
 bp (aQ c h) fun v1 h2=>
 some ((.fn (.func 148) [] [v1]),h2):=kB
theorem KY:evF Tryz.prog xM (k+1) wl 100 [c] h=ak (xX (xS k) 100 wl k false) Tryz.f100 [c] h:=by kernel_rfl
-- names: GV,
noncomputable def C3:Code:=al (an Tryz.f147) [1,0,1,0,0]
noncomputable def Cj:List Fr:=[.block 0,.seq (al (an Tryz.f147) [1,1])]
theorem GP:ak (xX s 147 wl k false) Tryz.f147 [c,d] h =
 bp (bh s.P 24 c h) fun v1 h2=>
 yI s k wl 147 Tryz.f147 C3 h2.length Cj k ⟨[(V.kill h2.length c),(V.kill h2.length d),(V.kill h2.length uu),(V.kill h2.length uu),(.lit (.int .i64 0)),(V.kill h2.length uu),(V.kill h2.length c),(V.kill h2.length v1),(.lit (.int .i64 0)),.junk,.junk,.junk,.junk,.junk,.junk,.junk,.junk,.junk,.junk],bR h2.length h2⟩:=kB
theorem Kd:evF Tryz.prog xM (k+1) wl 147 [c,d] h=ak (xX (xS k) 147 wl k false) Tryz.f147 [c,d] h:=by kernel_rfl
theorem Ho (P:Program):av P Tryz.f147 .ret ⟨[c,d,g,j,l,q,p,o,e,u,r,z,A,B,F,D,E,G,I],h⟩=some (l,h):=by kernel_rfl
theorem MD:itX (xX s 147 wl k rd) C3 n0 K (n+1) ⟨[c,d,g,j,l,q,p,o,e,u,r,z,A,B,F,D,E,G,I],h⟩ =
 bm (aA s.P .lss 3 e o) h fun v3 h4=>
 cnd v3 (
 bm (am s.P 24 c e h4) h4 fun v5 h6=>
 bm (ab s.P 101 v5 h6) h6 fun v7 h8=>
 bp (bG (xX s 147 wl k rd) false true d [v7] h8) fun v9 hA=>
 cnd v9 (
 K .ret ⟨[c,d,g,j,e,e,p,o,e,v3,e,d,c,e,v5,v7,v9,e,I],hA⟩) (
 bm (aA s.P .add 3 e (.lit (.int .i64 1))) hA fun vA hB=>
 itX (xX s 147 wl k rd) C3 n0 K n ⟨[(V.kill n0 c),(V.kill n0 d),(V.kill n0 g),(V.kill n0 j),(V.kill n0 l),(V.kill n0 e),(V.kill n0 p),(V.kill n0 o),(V.kill n0 vA),.junk,.junk,.junk,.junk,.junk,.junk,.junk,.junk,.junk,.junk],bR n0 hB⟩)) (
 K (.exit 0) ⟨[(V.kill n0 c),(V.kill n0 d),(V.kill n0 g),(V.kill n0 j),(V.kill n0 l),(V.kill n0 q),(V.kill n0 p),(V.kill n0 o),.junk,.junk,.junk,.junk,.junk,.junk,.junk,.junk,.junk,.junk,.junk],bR n0 h4⟩):=kI
theorem og:aw (xX s 147 wl k false) (av s.P Tryz.f147) Cj (.exit 0) ⟨[c,d,g,j,l,q,p,o,e,u,r,z,A,B,F,D,E,G,I],h⟩ =
 some ((.lit (.int .i64 (-1))),h):=kR
theorem fY (cx:Cx) (s:St):aw cx K Cj .ret s=K .ret s:=by kernel_rfl
-- names: GP,Ho,MD,og,fY
noncomputable def i7:Code:=al (an Tryz.f148) [1,0,0]
noncomputable def ml:List Fr:=[.block 0]
noncomputable def we:Code:=al (an Tryz.f148) [1,0,0,1,1,0,0,1,1,0,0]
noncomputable def AD:List Fr:=[.block 2,.block 1,.seq (al (an Tryz.f148) [1,0,0,1,1,1])]
theorem GI:ak (xX s 148 wl k false) Tryz.f148 [c,d] h =
 bm (ab s.P 24 d h) h fun v1 h2=>
 bp (bh s.P 24 v1 h2) fun v3 h4=>
 yI s k wl 148 Tryz.f148 i7 h4.length ml k ⟨[(V.kill h4.length c),(V.kill h4.length d),(V.kill h4.length uu),(V.kill h4.length uu),(V.kill h4.length uu),(V.kill h4.length uu),(V.kill h4.length uu),(V.kill h4.length v1),(V.kill h4.length v3),(.lit (.int .i64 0)),.junk,.junk,.junk,.junk,.junk,.junk,.junk,.junk,.junk,.junk,.junk,.junk,.junk,.junk,.junk,.junk,.junk,.junk],bR h4.length h4⟩:=kB
theorem Ka:evF Tryz.prog xM (k+1) wl 148 [c,d] h=ak (xX (xS k) 148 wl k false) Tryz.f148 [c,d] h:=by kernel_rfl
theorem GH (P:Program):av P Tryz.f148 .ret ⟨[c,d,g,j,l,q,p,o,e,u,r,z,A,B,F,D,E,G,I,L,N,M,J,O,R,Q,U,T],h⟩=some (.tup [],h):=by kernel_rfl
theorem G4:itX (xX s 148 wl k rd) i7 n0 K (n+1) ⟨[c,d,g,j,l,q,p,o,e,u,r,z,A,B,F,D,E,G,I,L,N,M,J,O,R,Q,U,T],h⟩ =
 bm (aA s.P .lss 3 u e) h fun v5 h6=>
 cnd v5 (
 bm (am s.P 24 o u h6) h6 fun v7 h8=>
 bm (ab s.P 101 v7 h8) h8 fun v9 hA=>
 bp (az s.P 101 hA) fun vA hB=>
 bs (ai s.P wl 101 vA v9 hB) fun hX=>
 bm (aa s.P 101 vA 1) hX fun vY hK=>
 bm (ab s.P 53 vY hK) hK fun vO hF=>
 bp (bh s.P 53 vO hF) fun vE hC=>
 itX (xX s 148 wl k rd) we hC.length (aw (xX s 148 wl k rd) (eg (xX s 148 wl k rd) i7 n0 K n) AD) k ⟨[(V.kill hC.length c),(V.kill hC.length d),(V.kill hC.length g),(V.kill hC.length u),(V.kill hC.length vA),(V.kill hC.length q),(V.kill hC.length p),(V.kill hC.length o),(V.kill hC.length e),(V.kill hC.length u),(V.kill hC.length v5),(V.kill hC.length u),(V.kill hC.length v7),(V.kill hC.length v9),(V.kill hC.length vY),(V.kill hC.length vO),(V.kill hC.length vE),(.lit (.int .i64 0)),.junk,.junk,.junk,.junk,.junk,.junk,.junk,.junk,.junk,(V.kill hC.length T)],bR hC.length hC⟩) (
 K (.exit 0) ⟨[(V.kill n0 c),(V.kill n0 d),(V.kill n0 g),(V.kill n0 j),(V.kill n0 l),(V.kill n0 q),(V.kill n0 p),(V.kill n0 o),(V.kill n0 e),.junk,.junk,.junk,.junk,.junk,.junk,.junk,.junk,.junk,.junk,.junk,.junk,.junk,.junk,.junk,.junk,.junk,.junk,.junk],bR n0 h6⟩):=kI
theorem oc:aw (xX s 148 wl k false) (av s.P Tryz.f148) ml (.exit 0) ⟨(c::zz),h⟩ =
 some (.tup [],h):=kR
theorem GB:itX (xX s 148 wl k rd) we n0 K (n+1) ⟨[c,d,g,j,l,q,p,o,e,u,r,z,A,B,F,D,E,G,I,L,N,M,J,O,R,Q,U,T],h⟩ =
 bm (aA s.P .lss 3 G E) h fun vK hJ=>
 cnd vK (
 bm (am s.P 53 D G hJ) hJ fun vN hM=>
 bm (ab s.P 3 vN hM) hM fun vG hO=>
 bp (bG (xX s 148 wl k rd) false true c [vG,j] hO) fun vl hs=>
 bm (vUn .not vl) hs fun vt hS=>
 cnd vt (
 K .ret ⟨[c,d,g,j,l,q,vG,o,e,u,r,z,A,B,F,D,E,G,vK,vN,vG,c,vG,j,vl,vt,U,T],hS⟩) (
 bm (aA s.P .add 3 G (.lit (.int .i64 1))) hS fun vS hV=>
 itX (xX s 148 wl k rd) we n0 K n ⟨[(V.kill n0 c),(V.kill n0 d),(V.kill n0 g),(V.kill n0 j),(V.kill n0 l),(V.kill n0 q),(V.kill n0 vG),(V.kill n0 o),(V.kill n0 e),(V.kill n0 u),(V.kill n0 r),(V.kill n0 z),(V.kill n0 A),(V.kill n0 B),(V.kill n0 F),(V.kill n0 D),(V.kill n0 E),(V.kill n0 vS),.junk,.junk,.junk,.junk,.junk,.junk,.junk,.junk,.junk,(V.kill n0 T)],bR n0 hV⟩)) (
 K (.exit 2) ⟨[(V.kill n0 c),(V.kill n0 d),(V.kill n0 g),(V.kill n0 j),(V.kill n0 l),(V.kill n0 q),(V.kill n0 p),(V.kill n0 o),(V.kill n0 e),(V.kill n0 u),(V.kill n0 r),(V.kill n0 z),(V.kill n0 A),(V.kill n0 B),(V.kill n0 F),(V.kill n0 D),(V.kill n0 E),.junk,.junk,.junk,.junk,.junk,.junk,.junk,.junk,.junk,.junk,(V.kill n0 T)],bR n0 hJ⟩):=kI
theorem oE:aw (xX s 148 wl k rd) (eg (xX s 148 wl k rd) i7 n0 K n) AD (.exit 2) ⟨[c,d,g,j,l,q,p,o,e,u,r,z,A,B,F,D,E,G,I,L,N,M,J,O,R,Q,U,T],h⟩ =
 bm (aA s.P .add 3 u (.lit (.int .i64 1))) h fun vL hP=>
 itX (xX s 148 wl k rd) i7 n0 K n ⟨[(V.kill n0 c),(V.kill n0 d),(V.kill n0 g),(V.kill n0 j),(V.kill n0 l),(V.kill n0 q),(V.kill n0 p),(V.kill n0 o),(V.kill n0 e),(V.kill n0 vL),.junk,.junk,.junk,.junk,.junk,.junk,.junk,.junk,.junk,.junk,.junk,.junk,.junk,.junk,.junk,.junk,.junk,.junk],bR n0 hP⟩:=kR
theorem fZ (cx:Cx) (s:St):aw cx K ml .ret s=K .ret s:=by kernel_rfl
theorem fW (cx:Cx) (s:St):aw cx K AD .ret s=K .ret s:=by kernel_rfl
-- names: GI,GH,G4,oc,GB,oE,fZ,fW
noncomputable def IX:Code:=al (an Tryz.f97) [1,0,1,0,0]
noncomputable def HZ:List Fr:=[.block 0,.seq (al (an Tryz.f97) [1,1])]
theorem abZ:ak (xX s 97 wl k false) Tryz.f97 [c,d] h =
 bp (bh s.P 53 c h) fun v1 h2=>
 yI s k wl 97 Tryz.f97 IX h2.length HZ k ⟨[(V.kill h2.length c),(V.kill h2.length d),(V.kill h2.length uu),(V.kill h2.length uu),(.lit (.int .i64 0)),(V.kill h2.length uu),(V.kill h2.length c),(V.kill h2.length v1),(.lit (.int .i64 0)),.junk,.junk,.junk,.junk,.junk,.junk,.junk,.junk,.junk,.junk],bR h2.length h2⟩:=kB
theorem adg:evF Tryz.prog xM (k+1) wl 97 [c,d] h=ak (xX (xS k) 97 wl k false) Tryz.f97 [c,d] h:=by kernel_rfl
theorem ab6 (P:Program):av P Tryz.f97 .ret ⟨[c,d,g,j,l,q,p,o,e,u,r,z,A,B,F,D,E,G,I],h⟩=some (l,h):=by kernel_rfl
theorem Ui:itX (xX s 97 wl k rd) IX n0 K (n+1) ⟨[c,d,g,j,l,q,p,o,e,u,r,z,A,B,F,D,E,G,I],h⟩ =
 bm (aA s.P .lss 3 e o) h fun v3 h4=>
 cnd v3 (
 bm (am s.P 53 c e h4) h4 fun v5 h6=>
 bm (ab s.P 3 v5 h6) h6 fun v7 h8=>
 bp (bG (xX s 97 wl k rd) false true d [v7] h8) fun v9 hA=>
 cnd v9 (
 K .ret ⟨[c,d,g,j,e,e,p,o,e,v3,e,d,c,e,v5,v7,v9,e,I],hA⟩) (
 bm (aA s.P .add 3 e (.lit (.int .i64 1))) hA fun vA hB=>
 itX (xX s 97 wl k rd) IX n0 K n ⟨[(V.kill n0 c),(V.kill n0 d),(V.kill n0 g),(V.kill n0 j),(V.kill n0 l),(V.kill n0 e),(V.kill n0 p),(V.kill n0 o),(V.kill n0 vA),.junk,.junk,.junk,.junk,.junk,.junk,.junk,.junk,.junk,.junk],bR n0 hB⟩)) (
 K (.exit 0) ⟨[(V.kill n0 c),(V.kill n0 d),(V.kill n0 g),(V.kill n0 j),(V.kill n0 l),(V.kill n0 q),(V.kill n0 p),(V.kill n0 o),.junk,.junk,.junk,.junk,.junk,.junk,.junk,.junk,.junk,.junk,.junk],bR n0 h4⟩):=kI
theorem Gb:aw (xX s 97 wl k false) (av s.P Tryz.f97) HZ (.exit 0) ⟨[c,d,g,j,l,q,p,o,e,u,r,z,A,B,F,D,E,G,I],h⟩ =
 some ((.lit (.int .i64 (-1))),h):=kR
theorem lG (cx:Cx) (s:St):aw cx K HZ .ret s=K .ret s:=by kernel_rfl
-- names: abZ,ab6,Ui,Gb,lG
theorem abO:ak (xX s 55 wl k false) Tryz.f55 [c,d] h =
 bp (yC s k wl 55 false true (.fn (.func 97) [] []) [c,d] h) fun v1 h2=>
 bm (aA s.P .geq 3 v1 (.lit (.int .i64 0))) h2 fun v3 h4=>
 some (v3,h4):=kB
theorem adj:evF Tryz.prog xM (k+1) wl 55 [c,d] h=ak (xX (xS k) 55 wl k false) Tryz.f55 [c,d] h:=by kernel_rfl
-- names: abO,
theorem OT:ak (xX s 52 wl k false) Tryz.f52 [c,d] h =
 bp (yC s k wl 52 false true (.fn (.func 96) [] []) [c,d] h) fun v1 h2=>
 bm (aA s.P .geq 3 v1 (.lit (.int .i64 0))) h2 fun v3 h4=>
 some (v3,h4):=kB
theorem P5:evF Tryz.prog xM (k+1) wl 52 [c,d] h=ak (xX (xS k) 52 wl k false) Tryz.f52 [c,d] h:=by kernel_rfl
-- names: OT,
noncomputable def Cc:Code:=al (an Tryz.f96) [1,0,1,0,0]
noncomputable def BQ:List Fr:=[.block 0,.seq (al (an Tryz.f96) [1,1])]
theorem Iu:ak (xX s 96 wl k false) Tryz.f96 [c,d] h =
 bp (bh s.P 28 c h) fun v1 h2=>
 yI s k wl 96 Tryz.f96 Cc h2.length BQ k ⟨[(V.kill h2.length c),(V.kill h2.length d),(V.kill h2.length uu),(V.kill h2.length uu),(.lit (.int .i64 0)),(V.kill h2.length uu),(V.kill h2.length c),(V.kill h2.length v1),(.lit (.int .i64 0)),.junk,.junk,.junk,.junk,.junk,.junk,.junk,.junk,.junk,.junk],bR h2.length h2⟩:=kB
theorem J2:evF Tryz.prog xM (k+1) wl 96 [c,d] h=ak (xX (xS k) 96 wl k false) Tryz.f96 [c,d] h:=by kernel_rfl
theorem Jw (P:Program):av P Tryz.f96 .ret ⟨[c,d,g,j,l,q,p,o,e,u,r,z,A,B,F,D,E,G,I],h⟩=some (l,h):=by kernel_rfl
theorem Iq:itX (xX s 96 wl k rd) Cc n0 K (n+1) ⟨[c,d,g,j,l,q,p,o,e,u,r,z,A,B,F,D,E,G,I],h⟩ =
 bm (aA s.P .lss 3 e o) h fun v3 h4=>
 cnd v3 (
 bm (am s.P 28 c e h4) h4 fun v5 h6=>
 bm (ab s.P 57 v5 h6) h6 fun v7 h8=>
 bp (bG (xX s 96 wl k rd) false true d [v7] h8) fun v9 hA=>
 cnd v9 (
 K .ret ⟨[c,d,g,j,e,e,p,o,e,v3,e,d,c,e,v5,v7,v9,e,I],hA⟩) (
 bm (aA s.P .add 3 e (.lit (.int .i64 1))) hA fun vA hB=>
 itX (xX s 96 wl k rd) Cc n0 K n ⟨[(V.kill n0 c),(V.kill n0 d),(V.kill n0 g),(V.kill n0 j),(V.kill n0 l),(V.kill n0 e),(V.kill n0 p),(V.kill n0 o),(V.kill n0 vA),.junk,.junk,.junk,.junk,.junk,.junk,.junk,.junk,.junk,.junk],bR n0 hB⟩)) (
 K (.exit 0) ⟨[(V.kill n0 c),(V.kill n0 d),(V.kill n0 g),(V.kill n0 j),(V.kill n0 l),(V.kill n0 q),(V.kill n0 p),(V.kill n0 o),.junk,.junk,.junk,.junk,.junk,.junk,.junk,.junk,.junk,.junk,.junk],bR n0 h4⟩):=kI
theorem li:aw (xX s 96 wl k false) (av s.P Tryz.f96) BQ (.exit 0) ⟨[c,d,g,j,l,q,p,o,e,u,r,z,A,B,F,D,E,G,I],h⟩ =
 some ((.lit (.int .i64 (-1))),h):=kR
theorem cL (cx:Cx) (s:St):aw cx K BQ .ret s=K .ret s:=by kernel_rfl
-- names: Iu,Jw,Iq,li,cL
noncomputable def Jm:Code:=al (an Tryz.f61) [1,0,1,0,0]
noncomputable def Jv:List Fr:=[.block 0,.seq (al (an Tryz.f61) [1,1])]
theorem afC:ak (xX s 61 wl k false) Tryz.f61 [c,d] h =
 bp (bh s.P 53 c h) fun v1 h2=>
 yI s k wl 61 Tryz.f61 Jm h2.length Jv k ⟨[(V.kill h2.length c),(V.kill h2.length d),(V.kill h2.length uu),(V.kill h2.length uu),(.lit (.int .i64 0)),(V.kill h2.length uu),(V.kill h2.length c),(V.kill h2.length v1),(.lit (.int .i64 0)),.junk,.junk,.junk,.junk,.junk,.junk,.junk,.junk,.junk,.junk],bR h2.length h2⟩:=kB
theorem ahX:evF Tryz.prog xM (k+1) wl 61 [c,d] h=ak (xX (xS k) 61 wl k false) Tryz.f61 [c,d] h:=by kernel_rfl
theorem afJ (P:Program):av P Tryz.f61 .ret ⟨[c,d,g,j,l,q,p,o,e,u,r,z,A,B,F,D,E,G,I],h⟩=some (l,h):=by kernel_rfl
theorem Uj:itX (xX s 61 wl k rd) Jm n0 K (n+1) ⟨[c,d,g,j,l,q,p,o,e,u,r,z,A,B,F,D,E,G,I],h⟩ =
 bm (aA s.P .lss 3 e o) h fun v3 h4=>
 cnd v3 (
 bm (am s.P 53 c e h4) h4 fun v5 h6=>
 bm (ab s.P 3 v5 h6) h6 fun v7 h8=>
 bm (aA s.P .eql 3 d v7) h8 fun v9 hA=>
 cnd v9 (
 K .ret ⟨[c,d,g,j,e,e,p,o,e,v3,e,d,c,e,v5,v7,v9,e,I],hA⟩) (
 bm (aA s.P .add 3 e (.lit (.int .i64 1))) hA fun vA hB=>
 itX (xX s 61 wl k rd) Jm n0 K n ⟨[(V.kill n0 c),(V.kill n0 d),(V.kill n0 g),(V.kill n0 j),(V.kill n0 l),(V.kill n0 e),(V.kill n0 p),(V.kill n0 o),(V.kill n0 vA),.junk,.junk,.junk,.junk,.junk,.junk,.junk,.junk,.junk,.junk],bR n0 hB⟩)) (
 K (.exit 0) ⟨[(V.kill n0 c),(V.kill n0 d),(V.kill n0 g),(V.kill n0 j),(V.kill n0 l),(V.kill n0 q),(V.kill n0 p),(V.kill n0 o),.junk,.junk,.junk,.junk,.junk,.junk,.junk,.junk,.junk,.junk,.junk],bR n0 h4⟩):=kI
theorem L2:aw (xX s 61 wl k false) (av s.P Tryz.f61) Jv (.exit 0) ⟨[c,d,g,j,l,q,p,o,e,u,r,z,A,B,F,D,E,G,I],h⟩ =
 some ((.lit (.int .i64 (-1))),h):=kR
theorem rU (cx:Cx) (s:St):aw cx K Jv .ret s=K .ret s:=by kernel_rfl
-- names: afC,afJ,Uj,L2,rU
noncomputable def Oa:Code:=al (an Tryz.f101) [1,0,1,0,1,0]
noncomputable def AF:Code:=al (an Tryz.f101) [1,0,1,0,1,0,0]
noncomputable def AP:Code:=al (an Tryz.f101) [1,0,1,0,1,0,1]
noncomputable def rI:List Fr:=[.block 0,.seq (al (an Tryz.f101) [1,1])]
theorem rn:Oa= .rangeFunc (.tmp 10) #[11,12] AF AP:=by kernel_rfl
theorem QY:ak (xX s 101 wl k false) Tryz.f101 [c,d] h =
 bp (aQ d h) fun v1 h2=>
 bp (az s.P 3 h2) fun v3 h4=>
 bp (yC s k wl 101 false true (.fn (.func 56) [] []) [c] h4) fun v5 h6=>
 cnd v5 (
 bp (yC s k wl 101 false true (.fn (.func 100) [] []) [c] h6) fun v7 h8=>
 bd (xX s 101 wl k false) Oa none (aw (xX s 101 wl k false) (av s.P Tryz.f101) rI) ⟨[c,d,uu,v1,v3,uu,uu,c,v5,c,v7,uu,uu,uu,uu,uu,uu],h8⟩) (
 bs (ai s.P wl 3 v3 (.lit (.int .i64 (-1))) h6) fun h9=>
 ew [ab s.P 3 v3 h9] h9):=kB
theorem WN:evF Tryz.prog xM (k+1) wl 101 [c,d] h=ak (xX (xS k) 101 wl k false) Tryz.f101 [c,d] h:=by kernel_rfl
theorem Sy (P:Program):av P Tryz.f101 .ret ⟨[c,d,g,j,l,q,p,o,e,u,r,z,A,B,F,D,E],h⟩=ew [ab P 3 l h] h:=by kernel_rfl
theorem Ci:aw (xX s 101 wl k false) (av s.P Tryz.f101) rI .norm ⟨(c::d::g::j::l::zz),h⟩ =
 bs (ai s.P wl 3 l (.lit (.int .i64 (-1))) h) fun hA=>
 ew [ab s.P 3 l hA] hA:=kR
theorem eb:aw (xX s 101 wl k rd) K [.seq AP] .norm ⟨[c,d,g,j,l,q,p,o,e,u,r,z,A,B,F,D,E],h⟩ =
 bm (ab s.P 3 j h) h fun vA hB=>
 bm (aA s.P .eql 3 q vA) hB fun vB hD=>
 cnd vB (
 bs (ai s.P wl 3 l p hD) fun hK=>
 K .ret ⟨[c,d,g,j,l,q,p,o,e,u,r,z,A,q,vA,vB,p],hK⟩) (
 K .norm ⟨[c,d,g,j,l,q,p,o,e,u,r,z,A,q,vA,vB,E],hD⟩):=kR
theorem d9:aw (xX s 101 wl k rd) K [.seq AF] .norm ⟨[c,d,g,j,l,q,p,o,e,u,r,z,A,B,F,D,E],h⟩ =
 K .norm ⟨[c,d,g,j,l,z,A,o,e,u,r,z,A,B,F,D,E],h⟩:=kR
theorem mi (cx:Cx) (s:St):aw cx K rI .ret s=K .ret s:=by kernel_rfl
-- names: QY,Sy,Ci,eb,d9,mi
-- range over a function at [1,0,1,0,1,0]
end
end Go.Ab
set_option maxRecDepth 100000
set_option linter.unusedVariables false
namespace Go.Ab
open Go.Proofs
section
variable (s:Sys) (k wl:Nat) (m0:Nat) (ac:List Nat×List Nat) (c d e o g y p l j v r u z q A D E F B L G M N I O J Q R U W T t2 t3 t4 Y Z t0 t1 t7 t5 t8 t9 t6 X ta tb tc td te tf tg th ti tj:V) (h:Hp) (K:Out→St→Option (V×Hp)) (rd:Bool) (n n0:Nat) (zz:List V)
noncomputable def CX:Code:=al (an Tryz.f146) [1,0]
noncomputable def AV:List Fr:=[.seq (al (an Tryz.f146) [1,1])]
theorem Wh:ak (xX s 146 wl k false) Tryz.f146 [c,d] h =
 bp (aQ c h) fun v1 h2=>
 bm (ab s.P 24 v1 h2) h2 fun v3 h4=>
 bp (yC s k wl 146 false true (.fn (.func 56) [] []) [v3] h4) fun v5 h6=>
 gd v5 (
 bp (yC s k wl 146 false true (.fn (.func 170) [] []) [d,(.fn (.func 171) [] [v1])] h6) fun v7 h8=>
 bm (vUn .not v7) h8 fun v9 hA=>
 yO s k wl 146 Tryz.f146 CX 7 h2.length ([],[]) AV ⟨[c,d,v1,uu,(.lit (.bool false)),v3,v5,(.lit (.bool true)),d,(.fn (.func 171) [] [v1]),v7,v9,uu],hA⟩) (
 yO s k wl 146 Tryz.f146 CX 7 h2.length ([],[]) AV ⟨[c,d,v1,uu,(.lit (.bool false)),v3,v5,(.lit (.bool false)),uu,uu,uu,uu,uu],h6⟩) (
 yO s k wl 146 Tryz.f146 CX 4 h2.length ([],[]) AV ⟨[c,d,v1,uu,(.lit (.bool false)),v3,v5,v5,uu,uu,uu,uu,uu],h6⟩):=kB
theorem Zh:evF Tryz.prog xM (k+1) wl 146 [c,d] h=ak (xX (xS k) 146 wl k false) Tryz.f146 [c,d] h:=by kernel_rfl
theorem G7:yO s k wl 146 Tryz.f146 CX 7 m0 ac AV ⟨[c,d,e,o,g,y,p,l,j,v,r,u,z],h⟩ =
 bm (aS l u (.lit (.bool false))) h fun vA hB=>
 some (vA,hB):=kG
theorem oI (cx:Cx) (s:St):aw cx K AV .ret s=K .ret s:=by kernel_rfl
-- names: Wh,G7,oI
noncomputable def Cw:Code:=al (an Tryz.f162) [1,0,0]
noncomputable def Am:List Fr:=[.seq (al (an Tryz.f162) [1,0,1]),.seq (al (an Tryz.f162) [1,1])]
theorem aaU:ak (xX s 162 wl k false) Tryz.f162 [c,d] h =
 bp (az s.P 194 h) fun v1 h2=>
 bp (bh s.P 63 d h2) fun v3 h4=>
 bm (aA s.P .eql 3 v3 (.lit (.int .i64 0))) h4 fun v5 h6=>
 gd v5 (
 yO s k wl 162 Tryz.f162 Cw 8 h2.length ([],[]) Am ⟨[c,d,uu,uu,v1,uu,uu,d,v3,v5,(.lit (.bool true)),uu,uu,uu,uu,uu,uu,uu,uu,uu,uu,uu,uu,uu,uu,uu,uu,uu,uu,uu,uu,uu,uu,uu,uu,uu,uu,uu,uu,uu,uu,uu,uu,uu,uu,uu,uu,uu,uu,uu,uu,uu,uu,uu],h6⟩) (
 bp (yC s k wl 162 false true (.fn (.func 146) [] []) [c,d] h6) fun v7 h8=>
 bm (vUn .not v7) h8 fun v9 hA=>
 yO s k wl 162 Tryz.f162 Cw 8 h2.length ([],[]) Am ⟨[c,d,uu,uu,v1,uu,uu,d,v3,v5,(.lit (.bool false)),c,d,v7,v9,uu,uu,uu,uu,uu,uu,uu,uu,uu,uu,uu,uu,uu,uu,uu,uu,uu,uu,uu,uu,uu,uu,uu,uu,uu,uu,uu,uu,uu,uu,uu,uu,uu,uu,uu,uu,uu,uu,uu],hA⟩) (
 yO s k wl 162 Tryz.f162 Cw 5 h2.length ([],[]) Am ⟨[c,d,uu,uu,v1,uu,uu,d,v3,v5,v5,uu,uu,uu,uu,uu,uu,uu,uu,uu,uu,uu,uu,uu,uu,uu,uu,uu,uu,uu,uu,uu,uu,uu,uu,uu,uu,uu,uu,uu,uu,uu,uu,uu,uu,uu,uu,uu,uu,uu,uu,uu,uu,uu],h6⟩):=kB
theorem adA:evF Tryz.prog xM (k+1) wl 162 [c,d] h=ak (xX (xS k) 162 wl k false) Tryz.f162 [c,d] h:=by kernel_rfl
theorem MK:yO s k wl 162 Tryz.f162 Cw 8 m0 ac Am ⟨[c,d,e,o,g,y,p,l,j,v,r,u,z,q,A,D,E,F,B,L,G,M,N,I,O,J,Q,R,U,W,T,t2,t3,t4,Y,Z,t0,t1,t7,t5,t8,t9,t6,X,ta,tb,tc,td,te,tf,tg,th,ti,tj],h⟩ =
 bm (aS r (.lit (.bool true)) A) h fun vA hB=>
 cnd vA (
 bm (be s.P 194 []) hB fun vB hD=>
 bs (ai s.P wl 194 g vB hD) fun hK=>
 ew [ab s.P 194 g hK] hK) (
 bp (bh s.P 63 d hB) fun vO hF=>
 bm (aA s.P .sub 3 vO (.lit (.int .i64 1))) hF fun vE hC=>
 bm (am s.P 63 d vE hC) hC fun vK hJ=>
 bm (ab s.P 129 vK hJ) hJ fun vN hM=>
 bp (az s.P 129 hM) fun vG hO=>
 bs (ai s.P wl 129 vG vN hO) fun hN=>
 bm (aa s.P 129 vG 0) hN fun vH hT=>
 bm (ab s.P 3 vH hT) hT fun vP hU=>
 bm (am s.P 24 c vP hU) hU fun vm he=>
 bm (ab s.P 101 vm he) he fun vu h34=>
 bp (az s.P 101 h34) fun vn hb=>
 bs (ai s.P wl 101 vn vu hb) fun hq=>
 bm (aa s.P 129 vG 1) hq fun vW hg=>
 bm (ab s.P 3 vW hg) hg fun vM hW=>
 bm (aa s.P 101 vn 0) hW fun vb ha=>
 bm (ab s.P 3 vb ha) ha fun vc hh=>
 bm (aA s.P .lss 3 vM vc) hh fun vk hc=>
 cnd vk (
 bm (aa s.P 129 vG 0) hc fun vX hR=>
 bm (ab s.P 3 vX hR) hR fun vo hj=>
 bm (be s.P 194 [(0,(.lit (.int .i64 1))),(1,vo)]) hj fun vT ht=>
 bs (ai s.P wl 194 g vT ht) fun hd=>
 ew [ab s.P 194 g hd] hd) (
 bm (aa s.P 129 vG 2) hc fun vv h56=>
 bm (ab s.P 3 vv h56) h56 fun v57 h58=>
 bm (aa s.P 101 vn 1) h58 fun vd hk=>
 bm (ab s.P 53 vd hk) hk fun vw h62=>
 bp (bh s.P 53 vw h62) fun vx hl=>
 bm (aA s.P .lss 3 v57 vx) hl fun vU hf=>
 cnd vU (
 bm (aa s.P 101 vn 1) hf fun vy h68=>
 bm (ab s.P 53 vy h68) h68 fun vz hu=>
 bm (aa s.P 129 vG 2) hu fun ve hm=>
 bm (ab s.P 3 ve hm) hm fun v73 h74=>
 bm (am s.P 53 vz v73 h74) h74 fun v75 h76=>
 bm (ab s.P 3 v75 h76) h76 fun v77 h78=>
 bm (be s.P 194 [(0,(.lit (.int .i64 2))),(1,v77)]) h78 fun v79 h80=>
 bs (ai s.P wl 194 g v79 h80) fun h81=>
 ew [ab s.P 194 g h81] h81) (
 bm (aa s.P 129 vG 0) hf fun v82 h83=>
 bm (ab s.P 3 v82 h83) h83 fun v84 h85=>
 bm (be s.P 194 [(0,(.lit (.int .i64 3))),(1,v84)]) h85 fun v86 h87=>
 bs (ai s.P wl 194 g v86 h87) fun hn=>
 ew [ab s.P 194 g hn] hn))):=kG
theorem Al (cx:Cx) (s:St):aw cx K Am .ret s=K .ret s:=by kernel_rfl
-- names: aaU,MK,Al
theorem Y0:ak (xX s 163 wl k false) Tryz.f163 [c,d] h =
 bp (some (.own h.length 0 0,h++[.rows 0 [] 0 true])) fun v1 h2=>
 bp (yC s k wl 163 false true (.fn (.func 79) [] []) [d] h2) fun v3 h4=>
 bp (yC s k wl 163 false true (.fn (.func 182) [] []) [] h4) fun v5 h6=>
 bp (yC s k wl 163 false true (.fn (.func 162) [] []) [c,d] h6) fun v7 h8=>
 bm (AS s.P 194 v7 0) h8 fun v9 hA=>
 bm (gG s.P 201 v5 v9 true hA) hA fun vA hB=>
 bm (ar vA 0) hB fun vB hD=>
 bm (ar vA 1) hD fun vC hE=>
 cnd vC (
 bp (yC s k wl 163 false true vB [v3] hE) fun vD hG=>
 some (vD,hG)) (
 some (v3,hE)):=kB
theorem adx:evF Tryz.prog xM (k+1) wl 163 [c,d] h=ak (xX (xS k) 163 wl k false) Tryz.f163 [c,d] h:=by kernel_rfl
-- names: Y0,
theorem W5:ak (xX s 170 wl k false) Tryz.f170 [c,d] h =
 bp (yC s k wl 170 false true (.fn (.func 206) [] []) [c,d] h) fun v1 h2=>
 bm (aA s.P .geq 3 v1 (.lit (.int .i64 0))) h2 fun v3 h4=>
 some (v3,h4):=kB
theorem Zb:evF Tryz.prog xM (k+1) wl 170 [c,d] h=ak (xX (xS k) 170 wl k false) Tryz.f170 [c,d] h:=by kernel_rfl
-- names: W5,
noncomputable def cX:Code:=al (an Tryz.f171) [1,1,1,0]
noncomputable def cT:List Fr:=[.seq (al (an Tryz.f171) [1,1,1,1])]
theorem XB:ak (xX s 171 wl k false) Tryz.f171 [c,d] h =
 bp (aQ c h) fun v1 h2=>
 bm (aa s.P 129 v1 0) h2 fun v3 h4=>
 bm (ab s.P 3 v3 h4) h4 fun v5 h6=>
 bm (ab s.P 24 d h6) h6 fun v7 h8=>
 bp (bh s.P 24 v7 h8) fun v9 hA=>
 bm (aA s.P .sub 3 v9 (.lit (.int .i64 1))) hA fun vA hB=>
 bp (yC s k wl 171 false true (.fn (.func 172) [] []) [v5,vA] hB) fun vB hD=>
 bm (vUn .not vB) hD fun vC hE=>
 cnd vC (
 some ((.lit (.bool true)),hE)) (
 bm (ab s.P 24 d hE) hE fun vD hG=>
 bm (aa s.P 129 v1 0) hG fun vI hH=>
 bm (ab s.P 3 vI hH) hH fun vF hI=>
 bm (am s.P 24 vD vF hI) hI fun vJ hL=>
 bm (ab s.P 101 vJ hL) hL fun vR hN=>
 bp (az s.P 101 hN) fun vH hT=>
 bs (ai s.P wl 101 vH vR hT) fun hS=>
 bm (aa s.P 129 v1 1) hS fun vS hV=>
 bm (ab s.P 3 vS hV) hV fun vL hP=>
 bm (aa s.P 101 vH 0) hP fun vQ hZ=>
 bm (ab s.P 3 vQ hZ) hZ fun va hq=>
 bp (yC s k wl 171 false true (.fn (.func 172) [] []) [vL,va] hq) fun vW hg=>
 bm (vUn .not vW) hg fun vM hW=>
 gd vM (
 yO s k wl 171 Tryz.f171 cX 14 hS.length ([],[]) cT ⟨[c,d,v1,(.lit (.bool false)),vH,v3,v5,v7,v9,vA,vB,vC,vD,vI,vF,vJ,vR,vS,vL,vQ,va,vW,vM,(.lit (.bool true)),uu,uu,uu,uu,uu,uu,uu,uu,uu,uu,uu,uu,uu,uu,uu,uu,uu,uu,uu,uu],hW⟩) (
 bm (aa s.P 129 v1 2) hW fun vb ha=>
 bm (ab s.P 3 vb ha) ha fun vc hh=>
 bm (aa s.P 101 vH 1) hh fun vk hc=>
 bm (ab s.P 53 vk hc) hc fun vX hR=>
 bp (bh s.P 53 vX hR) fun vo hj=>
 bp (yC s k wl 171 false true (.fn (.func 172) [] []) [vc,vo] hj) fun vT ht=>
 bm (vUn .not vT) ht fun v54 hi=>
 yO s k wl 171 Tryz.f171 cX 14 hS.length ([],[]) cT ⟨[c,d,v1,(.lit (.bool false)),vH,v3,v5,v7,v9,vA,vB,vC,vD,vI,vF,vJ,vR,vS,vL,vQ,va,vW,vM,(.lit (.bool false)),vb,vc,vk,vX,vo,vT,v54,uu,uu,uu,uu,uu,uu,uu,uu,uu,uu,uu,uu,uu],hi⟩) (
 yO s k wl 171 Tryz.f171 cX 8 hS.length ([],[]) cT ⟨[c,d,v1,(.lit (.bool false)),vH,v3,v5,v7,v9,vA,vB,vC,vD,vI,vF,vJ,vR,vS,vL,vQ,va,vW,vM,vM,uu,uu,uu,uu,uu,uu,uu,uu,uu,uu,uu,uu,uu,uu,uu,uu,uu,uu,uu,uu],hW⟩)):=kB
theorem ZD:evF Tryz.prog xM (k+1) wl 171 [c,d] h=ak (xX (xS k) 171 wl k false) Tryz.f171 [c,d] h:=by kernel_rfl
theorem GR:yO s k wl 171 Tryz.f171 cX 14 m0 ac cT ⟨[c,d,e,o,g,y,p,l,j,v,r,u,z,q,A,D,E,F,B,L,G,M,N,I,O,J,Q,R,U,W,T,t2,t3,t4,Y,Z,t0,t1,t7,t5,t8,t9,t6,X],h⟩ =
 bm (aS I (.lit (.bool true)) T) h fun vf ho=>
 gd vf (
 yO s k wl 171 Tryz.f171 cX 26 m0 ac cT ⟨[c,d,e,o,g,y,p,l,j,v,r,u,z,q,A,D,E,F,B,L,G,M,N,I,O,J,Q,R,U,W,T,vf,(.lit (.bool true)),uu,uu,uu,uu,uu,uu,uu,uu,uu,uu,X],ho⟩) (
 bm (aa s.P 129 e 1) ho fun v58 hv=>
 bm (ab s.P 3 v58 hv) hv fun v60 h61=>
 bm (aa s.P 101 g 0) h61 fun vZ h63=>
 bm (ab s.P 3 vZ h63) h63 fun v64 h65=>
 bm (aA s.P .lss 3 v60 v64) h65 fun v66 h67=>
 yO s k wl 171 Tryz.f171 cX 22 m0 ac cT ⟨[c,d,e,o,g,y,p,l,j,v,r,u,z,q,A,D,E,F,B,L,G,M,N,I,O,J,Q,R,U,W,T,vf,(.lit (.bool false)),v58,v60,vZ,v64,v66,v66,t5,t8,t9,t6,X],h67⟩) (
 yO s k wl 171 Tryz.f171 cX 17 m0 ac cT ⟨[c,d,e,o,g,y,p,l,j,v,r,u,z,q,A,D,E,F,B,L,G,M,N,I,O,J,Q,R,U,W,T,vf,vf,uu,Y,Z,t0,t1,t7,t5,t8,t9,t6,X],ho⟩):=kG
theorem GA:yO s k wl 171 Tryz.f171 cX 26 m0 ac cT ⟨[c,d,e,o,g,y,p,l,j,v,r,u,z,q,A,D,E,F,B,L,G,M,N,I,O,J,Q,R,U,W,T,t2,t3,t4,Y,Z,t0,t1,t7,t5,t8,t9,t6,X],h⟩ =
 bm (aS t3 (.lit (.bool true)) t6) h fun vg h69=>
 some (vg,h69):=kG
theorem Hc:yO s k wl 171 Tryz.f171 cX 22 m0 ac cT ⟨[c,d,e,o,g,y,p,l,j,v,r,u,z,q,A,D,E,F,B,L,G,M,N,I,O,J,Q,R,U,W,T,t2,t3,t4,Y,Z,t0,t1,t7,t5,t8,t9,t6,X],h⟩ =
 gd t7 (
 bm (aa s.P 129 e 2) h fun v70 h71=>
 bm (ab s.P 3 v70 h71) h71 fun v72 h73=>
 bm (aA s.P .gtr 3 v72 (.lit (.int .i64 0))) h73 fun v74 h75=>
 yO s k wl 171 Tryz.f171 cX 25 m0 ac cT ⟨[c,d,e,o,g,y,p,l,j,v,r,u,z,q,A,D,E,F,B,L,G,M,N,I,O,J,Q,R,U,W,T,t2,t3,t4,Y,Z,t0,t1,(.lit (.bool true)),v70,v72,v74,t6,X],h75⟩) (
 yO s k wl 171 Tryz.f171 cX 25 m0 ac cT ⟨[c,d,e,o,g,y,p,l,j,v,r,u,z,q,A,D,E,F,B,L,G,M,N,I,O,J,Q,R,U,W,T,t2,t3,t4,Y,Z,t0,t1,(.lit (.bool false)),uu,uu,uu,t6,X],h⟩) (
 yO s k wl 171 Tryz.f171 cX 23 m0 ac cT ⟨[c,d,e,o,g,y,p,l,j,v,r,u,z,q,A,D,E,F,B,L,G,M,N,I,O,J,Q,R,U,W,T,t2,t3,t4,Y,Z,t0,t1,t7,uu,t8,t9,t6,X],h⟩):=kG
theorem Ha:yO s k wl 171 Tryz.f171 cX 25 m0 ac cT ⟨[c,d,e,o,g,y,p,l,j,v,r,u,z,q,A,D,E,F,B,L,G,M,N,I,O,J,Q,R,U,W,T,t2,t3,t4,Y,Z,t0,t1,t7,t5,t8,t9,t6,X],h⟩ =
 gd t3 (
 yO s k wl 171 Tryz.f171 cX 26 m0 ac cT ⟨[c,d,e,o,g,y,p,l,j,v,r,u,z,q,A,D,E,F,B,L,G,M,N,I,O,J,Q,R,U,W,T,t2,(.lit (.bool true)),t4,Y,Z,t0,t1,t7,t5,t8,t9,uu,X],h⟩) (
 bm (aS t7 t9 (.lit (.bool false))) h fun v76 h77=>
 yO s k wl 171 Tryz.f171 cX 26 m0 ac cT ⟨[c,d,e,o,g,y,p,l,j,v,r,u,z,q,A,D,E,F,B,L,G,M,N,I,O,J,Q,R,U,W,T,t2,(.lit (.bool false)),t4,Y,Z,t0,t1,t7,t5,t8,t9,v76,X],h77⟩) (
 yO s k wl 171 Tryz.f171 cX 26 m0 ac cT ⟨[c,d,e,o,g,y,p,l,j,v,r,u,z,q,A,D,E,F,B,L,G,M,N,I,O,J,Q,R,U,W,T,t2,t3,t4,Y,Z,t0,t1,t7,t5,t8,t9,uu,X],h⟩):=kG
theorem Gl:yO s k wl 171 Tryz.f171 cX 23 m0 ac cT ⟨[c,d,e,o,g,y,p,l,j,v,r,u,z,q,A,D,E,F,B,L,G,M,N,I,O,J,Q,R,U,W,T,t2,t3,t4,Y,Z,t0,t1,t7,t5,t8,t9,t6,X],h⟩ =
 gd t7 (
 bm (ab s.P 3 t5 h) h fun v78 h79=>
 bm (aA s.P .gtr 3 v78 (.lit (.int .i64 0))) h79 fun v80 h81=>
 yO s k wl 171 Tryz.f171 cX 25 m0 ac cT ⟨[c,d,e,o,g,y,p,l,j,v,r,u,z,q,A,D,E,F,B,L,G,M,N,I,O,J,Q,R,U,W,T,t2,t3,t4,Y,Z,t0,t1,(.lit (.bool true)),t5,v78,v80,t6,X],h81⟩) (
 yO s k wl 171 Tryz.f171 cX 25 m0 ac cT ⟨[c,d,e,o,g,y,p,l,j,v,r,u,z,q,A,D,E,F,B,L,G,M,N,I,O,J,Q,R,U,W,T,t2,t3,t4,Y,Z,t0,t1,(.lit (.bool false)),t5,uu,uu,t6,X],h⟩) (
 yO s k wl 171 Tryz.f171 cX 24 m0 ac cT ⟨[c,d,e,o,g,y,p,l,j,v,r,u,z,q,A,D,E,F,B,L,G,M,N,I,O,J,Q,R,U,W,T,t2,t3,t4,Y,Z,t0,t1,t7,t5,uu,t9,t6,X],h⟩):=kG
theorem GW:yO s k wl 171 Tryz.f171 cX 24 m0 ac cT ⟨[c,d,e,o,g,y,p,l,j,v,r,u,z,q,A,D,E,F,B,L,G,M,N,I,O,J,Q,R,U,W,T,t2,t3,t4,Y,Z,t0,t1,t7,t5,t8,t9,t6,X],h⟩ =
 gd t7 (
 bm (aA s.P .gtr 3 t8 (.lit (.int .i64 0))) h fun v82 h83=>
 yO s k wl 171 Tryz.f171 cX 25 m0 ac cT ⟨[c,d,e,o,g,y,p,l,j,v,r,u,z,q,A,D,E,F,B,L,G,M,N,I,O,J,Q,R,U,W,T,t2,t3,t4,Y,Z,t0,t1,(.lit (.bool true)),t5,t8,v82,t6,X],h83⟩) (
 yO s k wl 171 Tryz.f171 cX 25 m0 ac cT ⟨[c,d,e,o,g,y,p,l,j,v,r,u,z,q,A,D,E,F,B,L,G,M,N,I,O,J,Q,R,U,W,T,t2,t3,t4,Y,Z,t0,t1,(.lit (.bool false)),t5,t8,uu,t6,X],h⟩) (
 yO s k wl 171 Tryz.f171 cX 25 m0 ac cT ⟨[c,d,e,o,g,y,p,l,j,v,r,u,z,q,A,D,E,F,B,L,G,M,N,I,O,J,Q,R,U,W,T,t2,t3,t4,Y,Z,t0,t1,t7,t5,t8,uu,t6,X],h⟩):=kG
theorem oz (cx:Cx) (s:St):aw cx K cT .ret s=K .ret s:=by kernel_rfl
-- names: XB,GR,GA,Hc,Ha,Gl,GW,oz
noncomputable def Ct:Code:=al (an Tryz.f172) [1,0]
noncomputable def AT:List Fr:=[.seq (al (an Tryz.f172) [1,1])]
theorem Ym:ak (xX s 172 wl k false) Tryz.f172 [c,d] h =
 bm (aA s.P .geq 3 c (.lit (.int .i64 0))) h fun v1 h2=>
 gd v1 (
 bm (aA s.P .leq 3 c d) h2 fun v3 h4=>
 yO s k wl 172 Tryz.f172 Ct 6 h.length ([],[]) AT ⟨[c,d,uu,uu,(.lit (.bool false)),c,v1,(.lit (.bool true)),c,d,v3,uu],h4⟩) (
 yO s k wl 172 Tryz.f172 Ct 6 h.length ([],[]) AT ⟨[c,d,uu,uu,(.lit (.bool false)),c,v1,(.lit (.bool false)),uu,uu,uu,uu],h2⟩) (
 yO s k wl 172 Tryz.f172 Ct 4 h.length ([],[]) AT ⟨[c,d,uu,uu,(.lit (.bool false)),c,v1,v1,uu,uu,uu,uu],h2⟩):=kB
theorem afW:evF Tryz.prog xM (k+1) wl 172 [c,d] h=ak (xX (xS k) 172 wl k false) Tryz.f172 [c,d] h:=by kernel_rfl
theorem N9:yO s k wl 172 Tryz.f172 Ct 6 m0 ac AT ⟨[c,d,e,o,g,y,p,l,j,v,r,u],h⟩ =
 bm (aS l r (.lit (.bool false))) h fun v5 h6=>
 some (v5,h6):=kG
theorem AE (cx:Cx) (s:St):aw cx K AT .ret s=K .ret s:=by kernel_rfl
-- names: Ym,N9,AE
noncomputable def DV:Code:=al (an Tryz.f181) [1,1,0,0]
noncomputable def Ay:List Fr:=[.seq (al (an Tryz.f181) [1,1,0,1]),.seq (al (an Tryz.f181) [1,1,1])]
theorem abv:ak (xX s 181 wl k false) Tryz.f181 [c,d,e] h =
 bp (some (.own h.length 0 0,h++[.rows 0 [] 0 true])) fun v1 h2=>
 bp (yC s k wl 181 false true (.fn (.func 79) [] []) [d] h2) fun v3 h4=>
 bp (yC s k wl 181 false true (.fn (.func 146) [] []) [c,d] h4) fun v5 h6=>
 bm (vUn .not v5) h6 fun v7 h8=>
 gd v7 (
 yO s k wl 181 Tryz.f181 DV 11 h4.length ([],[]) Ay ⟨[c,d,e,uu,uu,uu,v1,v3,d,v3,c,d,v5,v7,(.lit (.bool true)),uu,uu,uu,uu,uu,uu,uu,uu,uu,uu,uu,uu,uu],h8⟩) (
 bp (bh s.P 24 c h8) fun v9 hA=>
 bm (aA s.P .sub 3 v9 (.lit (.int .i64 1))) hA fun vA hB=>
 bp (yC s k wl 181 false true (.fn (.func 172) [] []) [e,vA] hB) fun vB hD=>
 bm (vUn .not vB) hD fun vC hE=>
 yO s k wl 181 Tryz.f181 DV 11 h4.length ([],[]) Ay ⟨[c,d,e,uu,uu,uu,v1,v3,d,v3,c,d,v5,v7,(.lit (.bool false)),e,c,v9,vA,vB,vC,uu,uu,uu,uu,uu,uu,uu],hE⟩) (
 yO s k wl 181 Tryz.f181 DV 6 h4.length ([],[]) Ay ⟨[c,d,e,uu,uu,uu,v1,v3,d,v3,c,d,v5,v7,v7,uu,uu,uu,uu,uu,uu,uu,uu,uu,uu,uu,uu,uu],h8⟩):=kB
theorem ad8:evF Tryz.prog xM (k+1) wl 181 [c,d,e] h=ak (xX (xS k) 181 wl k false) Tryz.f181 [c,d,e] h:=by kernel_rfl
theorem Mx:yO s k wl 181 Tryz.f181 DV 11 m0 ac Ay ⟨[c,d,e,o,g,y,p,l,j,v,r,u,z,q,A,D,E,F,B,L,G,M,N,I,O,J,Q,R],h⟩ =
 bm (aS A (.lit (.bool true)) G) h fun vD hG=>
 cnd vD (
 some (l,hG)) (
 bm (be s.P 129 [(0,e)]) hG fun vI hH=>
 bp (aF s.P wl 63 1 [(0,vI)] hH) fun vF hI=>
 bp (kS s.P wl 63 63 l vF hI) fun vJ hL=>
 some (vJ,hL)):=kG
theorem uZ (cx:Cx) (s:St):aw cx K Ay .ret s=K .ret s:=by kernel_rfl
-- names: abv,Mx,uZ
theorem acg:ak (xX s 182 wl k false) Tryz.f182 [] h =
 bp (some (.map h.length,h++[.map []])) fun v1 h2=>
 bs (eX s.P wl 201 v1 (.lit (.int .i64 1)) (.fn (.func 210) [] []) h2) fun h3=>
 bs (eX s.P wl 201 v1 (.lit (.int .i64 2)) (.fn (.func 211) [] []) h3) fun h4=>
 bs (eX s.P wl 201 v1 (.lit (.int .i64 3)) (.fn (.func 212) [] []) h4) fun h5=>
 some (v1,h5):=kB
theorem aga:evF Tryz.prog xM (k+1) wl 182 [] h=ak (xX (xS k) 182 wl k false) Tryz.f182 [] h:=by kernel_rfl
-- names: acg,
noncomputable def Cr:Code:=al (an Tryz.f206) [1,0,1,0,0]
noncomputable def Di:List Fr:=[.block 0,.seq (al (an Tryz.f206) [1,1])]
theorem X5:ak (xX s 206 wl k false) Tryz.f206 [c,d] h =
 bp (bh s.P 63 c h) fun v1 h2=>
 yI s k wl 206 Tryz.f206 Cr h2.length Di k ⟨[(V.kill h2.length c),(V.kill h2.length d),(V.kill h2.length uu),(V.kill h2.length uu),(.lit (.int .i64 0)),(V.kill h2.length uu),(V.kill h2.length c),(V.kill h2.length v1),(.lit (.int .i64 0)),.junk,.junk,.junk,.junk,.junk,.junk,.junk,.junk,.junk,.junk],bR h2.length h2⟩:=kB
theorem ZY:evF Tryz.prog xM (k+1) wl 206 [c,d] h=ak (xX (xS k) 206 wl k false) Tryz.f206 [c,d] h:=by kernel_rfl
theorem VR (P:Program):av P Tryz.f206 .ret ⟨[c,d,e,o,g,y,p,l,j,v,r,u,z,q,A,D,E,F,B],h⟩=some (g,h):=by kernel_rfl
theorem Ns:itX (xX s 206 wl k rd) Cr n0 K (n+1) ⟨[c,d,e,o,g,y,p,l,j,v,r,u,z,q,A,D,E,F,B],h⟩ =
 bm (aA s.P .lss 3 j l) h fun v3 h4=>
 cnd v3 (
 bm (am s.P 63 c j h4) h4 fun v5 h6=>
 bm (ab s.P 129 v5 h6) h6 fun v7 h8=>
 bp (bG (xX s 206 wl k rd) false true d [v7] h8) fun v9 hA=>
 cnd v9 (
 K .ret ⟨[c,d,e,o,j,j,p,l,j,v3,j,d,c,j,v5,v7,v9,j,B],hA⟩) (
 bm (aA s.P .add 3 j (.lit (.int .i64 1))) hA fun vA hB=>
 itX (xX s 206 wl k rd) Cr n0 K n ⟨[(V.kill n0 c),(V.kill n0 d),(V.kill n0 e),(V.kill n0 o),(V.kill n0 g),(V.kill n0 j),(V.kill n0 p),(V.kill n0 l),(V.kill n0 vA),.junk,.junk,.junk,.junk,.junk,.junk,.junk,.junk,.junk,.junk],bR n0 hB⟩)) (
 K (.exit 0) ⟨[(V.kill n0 c),(V.kill n0 d),(V.kill n0 e),(V.kill n0 o),(V.kill n0 g),(V.kill n0 y),(V.kill n0 p),(V.kill n0 l),.junk,.junk,.junk,.junk,.junk,.junk,.junk,.junk,.junk,.junk,.junk],bR n0 h4⟩):=kI
theorem HD:aw (xX s 206 wl k false) (av s.P Tryz.f206) Di (.exit 0) ⟨[c,d,e,o,g,y,p,l,j,v,r,u,z,q,A,D,E,F,B],h⟩ =
 some ((.lit (.int .i64 (-1))),h):=kR
theorem ov (cx:Cx) (s:St):aw cx K Di .ret s=K .ret s:=by kernel_rfl
-- names: X5,VR,Ns,HD,ov
theorem Zl:ak (xX s 210 wl k false) Tryz.f210 [c] h =
 bp (some (.own h.length 0 0,h++[.rows 0 [] 0 true])) fun v1 h2=>
 bp (bh s.P 63 c h2) fun v3 h4=>
 bm (aA s.P .sub 3 v3 (.lit (.int .i64 1))) h4 fun v5 h6=>
 bm (am s.P 63 c v5 h6) h6 fun v7 h8=>
 bm (aa s.P 129 v7 1) h8 fun v9 hA=>
 bm (ab s.P 3 v9 hA) hA fun vA hB=>
 bm (aA s.P .add 3 vA (.lit (.int .i64 1))) hB fun vB hD=>
 bm (am s.P 63 c v5 hD) hD fun vC hE=>
 bm (aa s.P 129 vC 1) hE fun vD hG=>
 bs (ai s.P wl 3 vD vB hG) fun hC=>
 some (c,hC):=kB
theorem agr:evF Tryz.prog xM (k+1) wl 210 [c] h=ak (xX (xS k) 210 wl k false) Tryz.f210 [c] h:=by kernel_rfl
-- names: Zl,
theorem YU:ak (xX s 211 wl k false) Tryz.f211 [c] h =
 bp (some (.own h.length 0 0,h++[.rows 0 [] 0 true])) fun v1 h2=>
 bp (bh s.P 63 c h2) fun v3 h4=>
 bm (aA s.P .sub 3 v3 (.lit (.int .i64 1))) h4 fun v5 h6=>
 bm (am s.P 63 c v5 h6) h6 fun v7 h8=>
 bm (aa s.P 129 v7 2) h8 fun v9 hA=>
 bm (ab s.P 3 v9 hA) hA fun vA hB=>
 bm (aA s.P .add 3 vA (.lit (.int .i64 1))) hB fun vB hD=>
 bm (am s.P 63 c v5 hD) hD fun vC hE=>
 bm (aa s.P 129 vC 2) hE fun vD hG=>
 bs (ai s.P wl 3 vD vB hG) fun hC=>
 some (c,hC):=kB
theorem af2:evF Tryz.prog xM (k+1) wl 211 [c] h=ak (xX (xS k) 211 wl k false) Tryz.f211 [c] h:=by kernel_rfl
-- names: YU,
theorem abY:ak (xX s 212 wl k false) Tryz.f212 [c] h =
 bp (some (.own h.length 0 0,h++[.rows 0 [] 0 true])) fun v1 h2=>
 bp (bh s.P 63 c h2) fun v3 h4=>
 bm (aA s.P .sub 3 v3 (.lit (.int .i64 1))) h4 fun v5 h6=>
 bp (eU s.P wl false 63 c none (some v5) none h6) fun v7 h8=>
 some (v7,h8):=kB
theorem adC:evF Tryz.prog xM (k+1) wl 212 [c] h=ak (xX (xS k) 212 wl k false) Tryz.f212 [c] h:=by kernel_rfl
-- names: abY,
end
end Go.Ab
set_option maxRecDepth 100000
set_option linter.unusedVariables false
namespace Go.Ab
open Go.Proofs
section
variable (s:Sys) (k wl:Nat) (m0:Nat) (ac:List Nat×List Nat) (a b d e f o p g q j u l v n y A z E D F B L I M J G O N T R Q Z W t0 X Y U te t4 tf t5 t6 t7 t2 tg t8 th t9 ta tb tc td t3 t1:V) (h:Hp) (K:Out→St→Option (V×Hp)) (rd:Bool) (zz:List V)
noncomputable def dM:Code:=al (an Tryz.f85) [1,0]
noncomputable def dy:List Fr:=[.seq (al (an Tryz.f85) [1,1])]
theorem ahr:ak (xX s 85 wl k false) Tryz.f85 [a,b,d,e] h =
 bp (aQ a h) fun v1 h2=>
 bp (aQ e h2) fun v3 h4=>
 bm (ab s.P 23 v1 h4) h4 fun v5 h6=>
 bp (yC s k wl 85 false true (.fn (.func 50) [] []) [v5] h6) fun v7 h8=>
 gd v7 (
 bp (bh s.P 26 d h8) fun v9 hA=>
 bm (ab s.P 23 v1 hA) hA fun vA hB=>
 bp (yC s k wl 85 false true (.fn (.func 103) [] []) [vA] hB) fun vB hD=>
 bm (aA s.P .eql 3 v9 vB) hD fun vC hE=>
 yO s k wl 85 Tryz.f85 dM 8 h4.length ([],[]) dy ⟨[a,b,d,e,v1,uu,uu,v3,(.lit (.bool false)),v5,v7,(.lit (.bool true)),d,v9,vA,vB,vC,uu,uu,uu,uu,uu,uu,uu,uu,uu,uu,uu,uu,uu,uu,uu,uu,uu,uu,uu,uu,uu,uu,uu,uu,uu,uu,uu,uu,uu,uu,uu,uu,uu,uu,uu,uu,uu],hE⟩) (
 yO s k wl 85 Tryz.f85 dM 8 h4.length ([],[]) dy ⟨[a,b,d,e,v1,uu,uu,v3,(.lit (.bool false)),v5,v7,(.lit (.bool false)),uu,uu,uu,uu,uu,uu,uu,uu,uu,uu,uu,uu,uu,uu,uu,uu,uu,uu,uu,uu,uu,uu,uu,uu,uu,uu,uu,uu,uu,uu,uu,uu,uu,uu,uu,uu,uu,uu,uu,uu,uu,uu],h8⟩) (
 yO s k wl 85 Tryz.f85 dM 4 h4.length ([],[]) dy ⟨[a,b,d,e,v1,uu,uu,v3,(.lit (.bool false)),v5,v7,v7,uu,uu,uu,uu,uu,uu,uu,uu,uu,uu,uu,uu,uu,uu,uu,uu,uu,uu,uu,uu,uu,uu,uu,uu,uu,uu,uu,uu,uu,uu,uu,uu,uu,uu,uu,uu,uu,uu,uu,uu,uu,uu],h8⟩):=kB
theorem ah9:evF Tryz.prog xM (k+1) wl 85 [a,b,d,e] h=ak (xX (xS k) 85 wl k false) Tryz.f85 [a,b,d,e] h:=by kernel_rfl
theorem SU:yO s k wl 85 Tryz.f85 dM 8 m0 ac dy ⟨(a::b::d::e::f::o::p::g::q::j::u::l::v::n::y::A::z::E::D::F::B::zz),h⟩ =
 bm (aS l z (.lit (.bool false))) h fun vD hG=>
 gd vD (
 bp (yC s k wl 85 false true (.fn (.func 56) [] []) [b] hG) fun vI hH=>
 yO s k wl 85 Tryz.f85 dM 12 m0 ac dy ⟨(a::b::d::e::f::o::p::g::q::j::u::l::v::n::y::A::z::vD::(.lit (.bool true))::b::vI::zz),hH⟩) (
 yO s k wl 85 Tryz.f85 dM 12 m0 ac dy ⟨(a::b::d::e::f::o::p::g::q::j::u::l::v::n::y::A::z::vD::(.lit (.bool false))::uu::uu::zz),hG⟩) (
 yO s k wl 85 Tryz.f85 dM 11 m0 ac dy ⟨(a::b::d::e::f::o::p::g::q::j::u::l::v::n::y::A::z::vD::vD::uu::B::zz),hG⟩):=kG
theorem Tx:yO s k wl 85 Tryz.f85 dM 12 m0 ac dy ⟨(a::b::d::e::f::o::p::g::q::j::u::l::v::n::y::A::z::E::D::F::B::L::I::M::J::G::zz),h⟩ =
 bm (aS D B (.lit (.bool false))) h fun vF hI=>
 gd vF (
 bm (aa s.P 57 g 0) hI fun vJ hL=>
 bm (ab s.P 3 vJ hL) hL fun vR hN=>
 bm (aA s.P .geq 3 vR (.lit (.int .i64 0))) hN fun vH hT=>
 yO s k wl 85 Tryz.f85 dM 17 m0 ac dy ⟨(a::b::d::e::f::o::p::g::q::j::u::l::v::n::y::A::z::E::D::F::B::vF::(.lit (.bool true))::vJ::vR::vH::zz),hT⟩) (
 yO s k wl 85 Tryz.f85 dM 17 m0 ac dy ⟨(a::b::d::e::f::o::p::g::q::j::u::l::v::n::y::A::z::E::D::F::B::vF::(.lit (.bool false))::uu::uu::uu::zz),hI⟩) (
 yO s k wl 85 Tryz.f85 dM 15 m0 ac dy ⟨(a::b::d::e::f::o::p::g::q::j::u::l::v::n::y::A::z::E::D::F::B::vF::vF::uu::J::G::zz),hI⟩):=kG
theorem Ta:yO s k wl 85 Tryz.f85 dM 17 m0 ac dy ⟨(a::b::d::e::f::o::p::g::q::j::u::l::v::n::y::A::z::E::D::F::B::L::I::M::J::G::O::N::T::R::Q::zz),h⟩ =
 bm (aS I G (.lit (.bool false))) h fun vP hU=>
 gd vP (
 bm (aa s.P 57 g 0) hU fun vm he=>
 bm (ab s.P 3 vm he) he fun vu h34=>
 bm (aA s.P .lss 3 vu (.lit (.int .i64 6))) h34 fun vn hb=>
 yO s k wl 85 Tryz.f85 dM 22 m0 ac dy ⟨(a::b::d::e::f::o::p::g::q::j::u::l::v::n::y::A::z::E::D::F::B::L::I::M::J::G::vP::(.lit (.bool true))::vm::vu::vn::zz),hb⟩) (
 yO s k wl 85 Tryz.f85 dM 22 m0 ac dy ⟨(a::b::d::e::f::o::p::g::q::j::u::l::v::n::y::A::z::E::D::F::B::L::I::M::J::G::vP::(.lit (.bool false))::uu::uu::uu::zz),hU⟩) (
 yO s k wl 85 Tryz.f85 dM 20 m0 ac dy ⟨(a::b::d::e::f::o::p::g::q::j::u::l::v::n::y::A::z::E::D::F::B::L::I::M::J::G::vP::vP::uu::R::Q::zz),hU⟩):=kG
theorem Tf:yO s k wl 85 Tryz.f85 dM 22 m0 ac dy ⟨(a::b::d::e::f::o::p::g::q::j::u::l::v::n::y::A::z::E::D::F::B::L::I::M::J::G::O::N::T::R::Q::Z::W::t0::X::Y::U::zz),h⟩ =
 bm (aS N Q (.lit (.bool false))) h fun vV hY=>
 gd vV (
 bm (aa s.P 57 g 1) hY fun vp hp=>
 bm (ab s.P 53 vp hp) hp fun vq hw=>
 bp (bh s.P 53 vq hw) fun v43 hx=>
 bm (aA s.P .gtr 3 v43 (.lit (.int .i64 0))) hx fun v45 h46=>
 yO s k wl 85 Tryz.f85 dM 28 m0 ac dy ⟨(a::b::d::e::f::o::p::g::q::j::u::l::v::n::y::A::z::E::D::F::B::L::I::M::J::G::O::N::T::R::Q::vV::(.lit (.bool true))::vp::vq::v43::v45::zz),h46⟩) (
 yO s k wl 85 Tryz.f85 dM 28 m0 ac dy ⟨(a::b::d::e::f::o::p::g::q::j::u::l::v::n::y::A::z::E::D::F::B::L::I::M::J::G::O::N::T::R::Q::vV::(.lit (.bool false))::uu::uu::uu::uu::zz),hY⟩) (
 yO s k wl 85 Tryz.f85 dM 25 m0 ac dy ⟨(a::b::d::e::f::o::p::g::q::j::u::l::v::n::y::A::z::E::D::F::B::L::I::M::J::G::O::N::T::R::Q::vV::vV::uu::X::Y::U::zz),hY⟩):=kG
theorem S5:yO s k wl 85 Tryz.f85 dM 28 m0 ac dy ⟨[a,b,d,e,f,o,p,g,q,j,u,l,v,n,y,A,z,E,D,F,B,L,I,M,J,G,O,N,T,R,Q,Z,W,t0,X,Y,U,te,t4,tf,t5,t6,t7,t2,tg,t8,th,t9,ta,tb,tc,td,t3,t1],h⟩ =
 bm (aS W U (.lit (.bool false))) h fun vh hy=>
 gd vh (
 bm (aa s.P 57 g 1) hy fun v49 hz=>
 bm (ab s.P 53 v49 hz) hz fun vr hr=>
 bm (am s.P 53 vr (.lit (.int .i64 0)) hr) hr fun vs hd=>
 bm (ab s.P 3 vs hd) hd fun vv h56=>
 bm (aA s.P .geq 3 vv (.lit (.int .i64 0))) h56 fun v57 h58=>
 yO s k wl 85 Tryz.f85 dM 35 m0 ac dy ⟨[a,b,d,e,f,o,p,g,q,j,u,l,v,n,y,A,z,E,D,F,B,L,I,M,J,G,O,N,T,R,Q,Z,W,t0,X,Y,U,vh,(.lit (.bool true)),v49,vr,vs,vv,v57,tg,t8,th,t9,ta,tb,tc,td,t3,t1],h58⟩) (
 yO s k wl 85 Tryz.f85 dM 35 m0 ac dy ⟨[a,b,d,e,f,o,p,g,q,j,u,l,v,n,y,A,z,E,D,F,B,L,I,M,J,G,O,N,T,R,Q,Z,W,t0,X,Y,U,vh,(.lit (.bool false)),uu,uu,uu,uu,uu,tg,t8,th,t9,ta,tb,tc,td,t3,t1],hy⟩) (
 yO s k wl 85 Tryz.f85 dM 31 m0 ac dy ⟨[a,b,d,e,f,o,p,g,q,j,u,l,v,n,y,A,z,E,D,F,B,L,I,M,J,G,O,N,T,R,Q,Z,W,t0,X,Y,U,vh,vh,uu,t5,t6,t7,t2,tg,t8,th,t9,ta,tb,tc,td,t3,t1],hy⟩):=kG
theorem SL:yO s k wl 85 Tryz.f85 dM 35 m0 ac dy ⟨[a,b,d,e,f,o,p,g,q,j,u,l,v,n,y,A,z,E,D,F,B,L,I,M,J,G,O,N,T,R,Q,Z,W,t0,X,Y,U,te,t4,tf,t5,t6,t7,t2,tg,t8,th,t9,ta,tb,tc,td,t3,t1],h⟩ =
 bm (aS t4 t2 (.lit (.bool false))) h fun vd hk=>
 gd vd (
 bm (aa s.P 57 g 1) hk fun vw h62=>
 bm (ab s.P 53 vw h62) h62 fun vx hl=>
 bm (am s.P 53 vx (.lit (.int .i64 0)) hl) hl fun vU hf=>
 bm (ab s.P 3 vU hf) hf fun vy h68=>
 bp (bh s.P 24 b h68) fun vz hu=>
 bm (aA s.P .lss 3 vy vz) hu fun ve hm=>
 yO s k wl 85 Tryz.f85 dM 44 m0 ac dy ⟨[a,b,d,e,f,o,p,g,q,j,u,l,v,n,y,A,z,E,D,F,B,L,I,M,J,G,O,N,T,R,Q,Z,W,t0,X,Y,U,te,t4,tf,t5,t6,t7,t2,vd,(.lit (.bool true)),vw,vx,vU,vy,b,vz,ve,t1],hm⟩) (
 yO s k wl 85 Tryz.f85 dM 44 m0 ac dy ⟨[a,b,d,e,f,o,p,g,q,j,u,l,v,n,y,A,z,E,D,F,B,L,I,M,J,G,O,N,T,R,Q,Z,W,t0,X,Y,U,te,t4,tf,t5,t6,t7,t2,vd,(.lit (.bool false)),uu,uu,uu,uu,uu,uu,uu,t1],hk⟩) (
 yO s k wl 85 Tryz.f85 dM 38 m0 ac dy ⟨[a,b,d,e,f,o,p,g,q,j,u,l,v,n,y,A,z,E,D,F,B,L,I,M,J,G,O,N,T,R,Q,Z,W,t0,X,Y,U,te,t4,tf,t5,t6,t7,t2,vd,vd,uu,t9,ta,tb,tc,td,t3,t1],hk⟩):=kG
theorem SQ:yO s k wl 85 Tryz.f85 dM 44 m0 ac dy ⟨[a,b,d,e,f,o,p,g,q,j,u,l,v,n,y,A,z,E,D,F,B,L,I,M,J,G,O,N,T,R,Q,Z,W,t0,X,Y,U,te,t4,tf,t5,t6,t7,t2,tg,t8,th,t9,ta,tb,tc,td,t3,t1],h⟩ =
 bm (aS t8 t3 (.lit (.bool false))) h fun v73 h74=>
 some (v73,h74):=kG
theorem BJ (cx:Cx) (s:St):aw cx K dy .ret s=K .ret s:=by kernel_rfl
-- names: ahr,SU,Tx,Ta,Tf,S5,SL,SQ,BJ
theorem ahW:ak (xX s 86 wl k false) Tryz.f86 [a,b,d,e,f] h =
 bp (aQ a h) fun v1 h2=>
 bp (aQ e h2) fun v3 h4=>
 bp (aQ f h4) fun v5 h6=>
 bp (some (.own h6.length 0 0,h6++[.rows 0 [] 0 true])) fun v7 h8=>
 bp (az s.P 57 h8) fun v9 hA=>
 bp (some (.own hA.length 0 0,hA++[.rows 0 [] 0 true])) fun vA hB=>
 bp (yC s k wl 86 false true (.fn (.func 76) [] []) [d] hB) fun vB hD=>
 bp (az s.P 26 hD) fun vC hE=>
 bs (ai s.P wl 26 vC vB hE) fun hF=>
 bp (az s.P 57 hF) fun vE hC=>
 bm (aa s.P 57 v5 0) hC fun vK hJ=>
 stO hF.length vK (
 bm (ab s.P 3 vK hJ) hJ fun vN hM=>
 bm (aa s.P 57 v5 1) hM fun vG hO=>
 bm (ab s.P 53 vG hO) hO fun vl hs=>
 bp (yC s k wl 86 true true (.fn (.func 80) [] []) [vl] hs) fun vt hS=>
 bm (aa s.P 57 v5 2) hS fun vS hV=>
 stO hF.length vS (
 bm (ab s.P 55 vS hV) hV fun vL hP=>
 bm (be s.P 57 [(0,vN),(1,vt),(2,vL)]) hP fun vQ hZ=>
 bs (ai s.P wl 57 vE vQ hZ) fun hb=>
 bm (ab s.P 23 v1 hb) hb fun vV hY=>
 bm (ab s.P 57 v5 hY) hY fun vp hp=>
 bp (yC s k wl 86 false true (.fn (.func 85) [] []) [vV,b,d,vp] hp) fun vq hw=>
 bm (vUn .not vq) hw fun v43 hx=>
 cnd v43 (
 bm (ab s.P 26 vC hx) hx fun v45 h46=>
 bm (ab s.P 57 vE h46) h46 fun vh hy=>
 bs (ai s.P wl 57 v9 vh hy) fun hR=>
 bp (some (.own hR.length 0 0,hR++[.rows 0 [] 0 true])) fun vo hj=>
 ew [some v45,ab s.P 57 v9 hj,some vo] hj) (
 bp (az s.P 34 hx) fun vT ht=>
 bm (aa s.P 57 vE 1) ht fun v54 hi=>
 bm (ab s.P 53 v54 hi) hi fun vf ho=>
 bm (am s.P 53 vf (.lit (.int .i64 0)) ho) ho fun v58 hv=>
 bm (ab s.P 3 v58 hv) hv fun v60 h61=>
 bp (az s.P 3 h61) fun vZ h63=>
 bs (ai s.P wl 3 vZ v60 h63) fun hl=>
 bp (az s.P 170 hl) fun vU hf=>
 bs (ai s.P wl 170 vU (.fn (.func 131) [] [vT,v3]) hf) fun h67=>
 bp (az s.P 1 h67) fun vg h69=>
 bs (ai s.P wl 1 vg (.fn (.func 132) [] [vE]) h69) fun hu=>
 bp (az s.P 32 hu) fun ve hm=>
 bs (ai s.P wl 32 ve (.fn (.func 133) [] [vE,v1,vC]) hm) fun h73=>
 bm (be s.P 175 [(0,(.fn (.func 136) [] [vE,vC,vU,vZ,vg])),(1,(.fn (.func 137) [] [vC,v3,vZ,vE])),(2,(.fn (.func 139) [] [ve,vE,vU,vZ])),(3,(.fn (.func 140) [] [vC,vg,v3,vE])),(4,(.fn (.func 141) [] [ve,vg])),(5,(.fn (.func 142) [] [vC,vU,vZ,vg]))]) h73 fun v74 h75=>
 bp (az s.P 175 h75) fun v76 h77=>
 bs (ai s.P wl 175 v76 v74 h77) fun h78=>
 bm (aa s.P 57 v5 0) h78 fun v79 h80=>
 bm (ab s.P 3 v79 h80) h80 fun v81 h82=>
 bm (am s.P 175 v76 v81 h82) h82 fun v83 h84=>
 bm (ab s.P 1 v83 h84) h84 fun v85 h86=>
 bp (yC s k wl 86 false true v85 [] h86) fun v87 hn=>
 bm (ab s.P 26 vC hn) hn fun v89 h90=>
 bm (ab s.P 57 vE h90) h90 fun v91 h92=>
 stO hn.length vT (
 bm (ab s.P 34 vT h92) h92 fun v93 h94=>
 bs (ai s.P wl 57 v9 v91 h94) fun h95=>
 apt (lgW v9 (lgR vT ([],[]))) (
 ew [some v89,ab s.P 57 v9 h95,some v93] h95))))):=kB
theorem aiy:evF Tryz.prog xM (k+1) wl 86 [a,b,d,e,f] h=ak (xX (xS k) 86 wl k false) Tryz.f86 [a,b,d,e,f] h:=by kernel_rfl
-- names: ahW,
theorem aby:ak (xX s 131 wl k false) Tryz.f131 [a,b,d,e] h =
 bm (ab s.P 34 d h) h fun v1 h2=>
 bm (ab s.P 3 e h2) h2 fun v3 h4=>
 bm (be s.P 52 [(0,a),(1,b),(2,v3)]) h4 fun v5 h6=>
 bp (aF s.P wl 34 1 [(0,v5)] h6) fun v7 h8=>
 bp (kS s.P wl 34 34 v1 v7 h8) fun v9 hA=>
 bs (ai s.P wl 34 d v9 hA) fun hQ=>
 some (.tup [],hQ):=kB
theorem adw:evF Tryz.prog xM (k+1) wl 131 [a,b,d,e] h=ak (xX (xS k) 131 wl k false) Tryz.f131 [a,b,d,e] h:=by kernel_rfl
-- names: aby,
theorem aa1:ak (xX s 132 wl k false) Tryz.f132 [a] h =
 bm (aa s.P 57 a 1) h fun v1 h2=>
 bm (ab s.P 53 v1 h2) h2 fun v3 h4=>
 bp (eU s.P wl false 53 v3 (some (.lit (.int .i64 1))) none none h4) fun v5 h6=>
 bm (be s.P 57 [(1,v5)]) h6 fun v7 h8=>
 bs (ai s.P wl 57 a v7 h8) fun h9=>
 some (.tup [],h9):=kB
theorem adl:evF Tryz.prog xM (k+1) wl 132 [a] h=ak (xX (xS k) 132 wl k false) Tryz.f132 [a] h:=by kernel_rfl
-- names: aa1,
noncomputable def CG:Code:=al (an Tryz.f133) [1,1,0,0]
noncomputable def wj:List Fr:=[.seq (al (an Tryz.f133) [1,1,0,1]),.seq (al (an Tryz.f133) [1,1,1])]
noncomputable def Do:List Fr:=[.seq (al (an Tryz.f133) [1,1,1])]
theorem Zo:ak (xX s 133 wl k false) Tryz.f133 [a,b,d] h =
 bm (aa s.P 57 a 2) h fun v1 h2=>
 bm (aa s.P 55 v1 0) h2 fun v3 h4=>
 bm (ab s.P 3 v3 h4) h4 fun v5 h6=>
 bm (aA s.P .eql 3 v5 (.lit (.int .i64 3))) h6 fun v7 h8=>
 gd v7 (
 yO s k wl 133 Tryz.f133 CG 9 h.length ([],[]) wj ⟨[a,b,d,(.lit (.bool false)),(.fn (.func 134) [] []),v1,v3,v5,v7,(.lit (.bool true)),uu,uu,uu,uu,uu,uu,uu,uu,uu,uu,uu,uu,uu,uu,uu,uu,uu,uu],h8⟩) (
 bm (aa s.P 57 a 2) h8 fun v9 hA=>
 bm (aa s.P 55 v9 0) hA fun vA hB=>
 bm (ab s.P 3 vA hB) hB fun vB hD=>
 bm (aA s.P .eql 3 vB (.lit (.int .i64 4))) hD fun vC hE=>
 yO s k wl 133 Tryz.f133 CG 9 h.length ([],[]) wj ⟨[a,b,d,(.lit (.bool false)),(.fn (.func 134) [] []),v1,v3,v5,v7,(.lit (.bool false)),v9,vA,vB,vC,uu,uu,uu,uu,uu,uu,uu,uu,uu,uu,uu,uu,uu,uu],hE⟩) (
 yO s k wl 133 Tryz.f133 CG 6 h.length ([],[]) wj ⟨[a,b,d,(.lit (.bool false)),(.fn (.func 134) [] []),v1,v3,v5,v7,v7,uu,uu,uu,uu,uu,uu,uu,uu,uu,uu,uu,uu,uu,uu,uu,uu,uu,uu],h8⟩):=kB
theorem afF:evF Tryz.prog xM (k+1) wl 133 [a,b,d] h=ak (xX (xS k) 133 wl k false) Tryz.f133 [a,b,d] h:=by kernel_rfl
theorem M8:yO s k wl 133 Tryz.f133 CG 9 m0 ac wj ⟨(a::b::d::e::f::o::p::g::q::j::u::l::v::n::y::zz),h⟩ =
 bm (aS j (.lit (.bool true)) n) h fun vD hG=>
 cnd vD (
 aw (xX s 133 wl k false) (av s.P Tryz.f133) Do .norm ⟨(a::b::d::e::(.fn (.func 135) [] [])::o::p::g::q::j::u::l::v::n::vD::zz),hG⟩) (
 aw (xX s 133 wl k false) (av s.P Tryz.f133) Do .norm ⟨(a::b::d::e::f::o::p::g::q::j::u::l::v::n::vD::zz),hG⟩):=kG
theorem LM:aw (xX s 133 wl k false) (av s.P Tryz.f133) Do .norm ⟨[a,b,d,e,f,o,p,g,q,j,u,l,v,n,y,A,z,E,D,F,B,L,I,M,J,G,O,N],h⟩ =
 bm (ab s.P 23 b h) h fun vI hH=>
 bm (ab s.P 26 d hH) hH fun vF hI=>
 bm (aa s.P 57 a 2) hI fun vJ hL=>
 bm (ab s.P 55 vJ hL) hL fun vR hN=>
 bp (yC s k wl 133 false true f [vI,vF,vR] hN) fun vH hT=>
 bm (ar vH 0) hT fun vP hU=>
 bm (ar vH 1) hU fun vm he=>
 bs (ai s.P wl 26 d vP he) fun hP=>
 bm (aa s.P 57 a 2) hP fun vQ hZ=>
 bs (ai s.P wl 55 vQ vm hZ) fun hb=>
 bm (aa s.P 57 a 2) hb fun vV hY=>
 bm (ab s.P 55 vV hY) hY fun vp hp=>
 bp (yC s k wl 133 false true (.fn (.func 110) [] []) [vp] hp) fun vq hw=>
 some (vq,hw):=kR
theorem AN (cx:Cx) (s:St):aw cx K wj .ret s=K .ret s:=by kernel_rfl
theorem w6 (cx:Cx) (s:St):aw cx K Do .ret s=K .ret s:=by kernel_rfl
-- names: Zo,M8,LM,AN,w6
theorem abz:ak (xX s 136 wl k false) Tryz.f136 [a,b,d,e,f] h =
 bm (aa s.P 57 a 0) h fun v1 h2=>
 bs (ai s.P wl 3 v1 (.lit (.int .i64 1)) h2) fun h3=>
 bm (ab s.P 26 b h3) h3 fun v4 h5=>
 bp (yC s k wl 136 false true (.fn (.func 27) [] []) [v4,(.lit (.int .i64 3))] h5) fun v6 h7=>
 bm (aA s.P .neq 46 v6 (.lit (.int .u64 0))) h7 fun v8 h9=>
 cnd v8 (
 bm (ab s.P 170 d h9) h9 fun vi hQ=>
 bm (ab s.P 3 e hQ) hQ fun vj hX=>
 bp (yC s k wl 136 false true vi [(.lit (.int .i64 1)),vj] hX) fun vY hK=>
 bm (ab s.P 1 f hK) hK fun vO hF=>
 bp (yC s k wl 136 false true vO [] hF) fun vE hC=>
 some (.tup [],hC)) (
 some (.tup [],h9)):=kB
theorem agF:evF Tryz.prog xM (k+1) wl 136 [a,b,d,e,f] h=ak (xX (xS k) 136 wl k false) Tryz.f136 [a,b,d,e,f] h:=by kernel_rfl
-- names: abz,
theorem Yq:ak (xX s 137 wl k false) Tryz.f137 [a,b,d,e] h =
 bm (ab s.P 26 a h) h fun v1 h2=>
 bp (yC s k wl 137 false true (.fn (.func 138) [] []) [v1,(.lit (.int .i64 0)),(.lit (.int .u64 1))] h2) fun v3 h4=>
 bm (ar v3 0) h4 fun v5 h6=>
 bm (ar v3 1) h6 fun v7 h8=>
 bs (ai s.P wl 26 a v5 h8) fun h9=>
 bm (ab s.P 3 b h9) h9 fun vi hQ=>
 bm (ab s.P 3 d hQ) hQ fun vj hX=>
 bm (fL s.P 3 46 vj) hX fun vY hK=>
 bp (yC s k wl 137 false true (.fn (.func 104) [] []) [(.lit (.int .i64 3)),vi,vY] hK) fun vO hF=>
 bm (aa s.P 57 e 0) hF fun vE hC=>
 bs (ai s.P wl 3 vE (.lit (.int .i64 2)) hC) fun hH=>
 bm (aa s.P 57 e 2) hH fun vF hI=>
 bs (ai s.P wl 55 vF vO hI) fun hM=>
 some (.tup [],hM):=kB
theorem agY:evF Tryz.prog xM (k+1) wl 137 [a,b,d,e] h=ak (xX (xS k) 137 wl k false) Tryz.f137 [a,b,d,e] h:=by kernel_rfl
-- names: Yq,
theorem Zw:ak (xX s 139 wl k false) Tryz.f139 [a,b,d,e] h =
 bm (ab s.P 32 a h) h fun v1 h2=>
 bp (yC s k wl 139 false true v1 [] h2) fun v3 h4=>
 bm (vUn .not v3) h4 fun v5 h6=>
 cnd v5 (
 some (.tup [],h6)) (
 bm (aa s.P 57 b 0) h6 fun v7 h8=>
 bs (ai s.P wl 3 v7 (.lit (.int .i64 5)) h8) fun h9=>
 bm (aa s.P 57 b 2) h9 fun vi hQ=>
 bm (aa s.P 55 vi 6) hQ fun vj hX=>
 bm (ab s.P 3 vj hX) hX fun vY hK=>
 bm (aA s.P .neq 3 vY (.lit (.int .i64 2))) hK fun vO hF=>
 cnd vO (
 bm (ab s.P 170 d hF) hF fun vE hC=>
 bm (ab s.P 3 e hC) hC fun vK hJ=>
 bp (yC s k wl 139 false true vE [(.lit (.int .i64 0)),vK] hJ) fun vN hM=>
 bm (aa s.P 57 b 0) hM fun vG hO=>
 bs (ai s.P wl 3 vG (.lit (.int .i64 3)) hO) fun hN=>
 some (.tup [],hN)) (
 some (.tup [],hF))):=kB
theorem agG:evF Tryz.prog xM (k+1) wl 139 [a,b,d,e] h=ak (xX (xS k) 139 wl k false) Tryz.f139 [a,b,d,e] h:=by kernel_rfl
-- names: Zw,
theorem aaM:ak (xX s 140 wl k false) Tryz.f140 [a,b,d,e] h =
 bm (ab s.P 26 a h) h fun v1 h2=>
 bp (yC s k wl 140 false true (.fn (.func 27) [] []) [v1,(.lit (.int .i64 1))] h2) fun v3 h4=>
 bm (aA s.P .neq 46 v3 (.lit (.int .u64 0))) h4 fun v5 h6=>
 cnd v5 (
 bm (ab s.P 1 b h6) h6 fun v7 h8=>
 bp (yC s k wl 140 false true v7 [] h8) fun v9 hA=>
 some (.tup [],hA)) (
 bm (ab s.P 3 d h6) h6 fun vA hB=>
 bp (yC s k wl 140 false true (.fn (.func 104) [] []) [(.lit (.int .i64 6)),vA,(.lit (.int .u64 0))] hB) fun vB hD=>
 bm (aa s.P 57 e 0) hD fun vC hE=>
 bs (ai s.P wl 3 vC (.lit (.int .i64 4)) hE) fun hF=>
 bm (aa s.P 57 e 2) hF fun vE hC=>
 bs (ai s.P wl 55 vE vB hC) fun hH=>
 some (.tup [],hH)):=kB
theorem agy:evF Tryz.prog xM (k+1) wl 140 [a,b,d,e] h=ak (xX (xS k) 140 wl k false) Tryz.f140 [a,b,d,e] h:=by kernel_rfl
-- names: aaM,
theorem abe:ak (xX s 141 wl k false) Tryz.f141 [a,b] h =
 bm (ab s.P 32 a h) h fun v1 h2=>
 bp (yC s k wl 141 false true v1 [] h2) fun v3 h4=>
 cnd v3 (
 bm (ab s.P 1 b h4) h4 fun v5 h6=>
 bp (yC s k wl 141 false true v5 [] h6) fun v7 h8=>
 some (.tup [],h8)) (
 some (.tup [],h4)):=kB
theorem adB:evF Tryz.prog xM (k+1) wl 141 [a,b] h=ak (xX (xS k) 141 wl k false) Tryz.f141 [a,b] h:=by kernel_rfl
-- names: abe,
theorem aba:ak (xX s 142 wl k false) Tryz.f142 [a,b,d,e] h =
 bm (ab s.P 26 a h) h fun v1 h2=>
 bp (yC s k wl 142 false true (.fn (.func 138) [] []) [v1,(.lit (.int .i64 0)),(.lit (.int .u64 18446744073709551615))] h2) fun v3 h4=>
 bm (ar v3 0) h4 fun v5 h6=>
 bm (ar v3 1) h6 fun v7 h8=>
 bs (ai s.P wl 26 a v5 h8) fun h9=>
 bm (ab s.P 170 b h9) h9 fun vi hQ=>
 bm (ab s.P 3 d hQ) hQ fun vj hX=>
 bp (yC s k wl 142 false true vi [(.lit (.int .i64 1)),vj] hX) fun vY hK=>
 bm (aA s.P .eql 46 v7 (.lit (.int .u64 1))) hK fun vO hF=>
 cnd vO (
 bm (ab s.P 170 b hF) hF fun vE hC=>
 bp (yC s k wl 142 false true vE [(.lit (.int .i64 5)),(.lit (.int .i64 0))] hC) fun vK hJ=>
 bm (ab s.P 1 e hJ) hJ fun vN hM=>
 bp (yC s k wl 142 false true vN [] hM) fun vG hO=>
 some (.tup [],hO)) (
 bm (ab s.P 1 e hF) hF fun vl hs=>
 bp (yC s k wl 142 false true vl [] hs) fun vt hS=>
 some (.tup [],hS)):=kB
theorem afx:evF Tryz.prog xM (k+1) wl 142 [a,b,d,e] h=ak (xX (xS k) 142 wl k false) Tryz.f142 [a,b,d,e] h:=by kernel_rfl
-- names: aba,
theorem ahC:ak (xX s 28 wl k false) Tryz.f28 [a] h =
 bp (aQ a h) fun v1 h2=>
 bm (aa s.P 57 v1 0) h2 fun v3 h4=>
 bm (ab s.P 3 v3 h4) h4 fun v5 h6=>
 bm (aA s.P .neq 3 v5 (.lit (.int .i64 0))) h6 fun v7 h8=>
 some (v7,h8):=kB
theorem aiK:evF Tryz.prog xM (k+1) wl 28 [a] h=ak (xX (xS k) 28 wl k false) Tryz.f28 [a] h:=by kernel_rfl
-- names: ahC,
theorem ahy:ak (xX s 63 wl k false) Tryz.f63 [a] h =
 bp (az s.P 57 h) fun v1 h2=>
 bp (yC s k wl 63 false true (.fn (.func 80) [] []) [a] h2) fun v3 h4=>
 bm (be s.P 57 [(1,v3)]) h4 fun v5 h6=>
 bs (ai s.P wl 57 v1 v5 h6) fun h7=>
 ew [ab s.P 57 v1 h7] h7:=kB
theorem ais:evF Tryz.prog xM (k+1) wl 63 [a] h=ak (xX (xS k) 63 wl k false) Tryz.f63 [a] h:=by kernel_rfl
-- names: ahy,
end
end Go.Ab
