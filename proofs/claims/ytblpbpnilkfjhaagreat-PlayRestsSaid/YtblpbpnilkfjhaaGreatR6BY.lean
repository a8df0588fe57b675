import Derived.Test.YtblpbpnilkfjhaaGreatR6Seat
import Derived.Test.YtblpbpnilkfjhaaGreatAbLibC
set_option linter.unusedVariables false
set_option linter.unusedSimpArgs false
set_option maxRecDepth 100000
set_option linter.unusedVariables false
namespace Go.Ab
open Go.Proofs
section
variable (s:Sys) (k wl:Nat) (m0:Nat) (ac:List Nat×List Nat) (c d g j l q p o e u r z A B F D E G I L N M J O R Q U T Y X Z W t4 t0 t5 t1 t2 t3:V) (h:Hp) (K:Out→St→Option (V×Hp)) (rd:Bool) (n n0:Nat) (zz:List V)
noncomputable def rX:Code:=al (am Tryz.f21) [1,0,1,0,0]
noncomputable def Iz:List Fr:=[.block 0,.seq (al (am Tryz.f21) [1,1])]
noncomputable def Ig:Code:=al (am Tryz.f21) [1,0,1,0,0,0,0]
noncomputable def Fb:List Fr:=[.seq (al (am Tryz.f21) [1,0,1,0,0,0,1]),.seq (al (am Tryz.f21) [1,0,1,0,0,1])]
theorem aiK:ak (xX s 21 wl k false) Tryz.f21 [c] h =
 yI s k wl 21 Tryz.f21 rX h.length Iz k ⟨[(V.kill h.length c),(V.kill h.length uu),(.lit (.bool false)),(.lit (.int .i64 0)),.junk,.junk,.junk,.junk,.junk,.junk,.junk,.junk,.junk,.junk,.junk,.junk,.junk,.junk,.junk,.junk,.junk,(V.kill h.length uu),(V.kill h.length uu),(V.kill h.length uu)],bN h.length h⟩:=kB
theorem ajz:evF Tryz.prog xM (k+1) wl 21 [c] h=ak (xX (xS k) 21 wl k false) Tryz.f21 [c] h:=by kernel_rfl
theorem aff (P:Program):ap P Tryz.f21 .ret ⟨[c,d,g,j,l,q,p,o,e,u,r,z,A,B,F,D,E,G,I,L,N,M,J,O],h⟩=some (g,h):=by kernel_rfl
theorem SX:itX (xX s 21 wl k rd) rX n0 K (n+1) ⟨(c::d::g::j::l::q::p::o::e::u::r::zz),h⟩ =
 bp (a7 s.P 24 c h) fun v1 h2=>
 bm (aw s.P .lss 3 j v1) h2 fun v3 h4=>
 gd v3 (
 bm (aw s.P .leq 3 j (.lit (.int .i64 40))) h4 fun v5 h6=>
 cK (xX s 21 wl k rd) Ig 7 h.length ([],[]) (au (xX s 21 wl k rd) (eq (xX s 21 wl k rd) rX n0 K n) Fb) ⟨(c::d::g::j::j::c::v1::v3::(.lit (.bool true))::j::v5::zz),h6⟩) (
 cK (xX s 21 wl k rd) Ig 7 h.length ([],[]) (au (xX s 21 wl k rd) (eq (xX s 21 wl k rd) rX n0 K n) Fb) ⟨(c::d::g::j::j::c::v1::v3::(.lit (.bool false))::uu::uu::zz),h4⟩) (
 cK (xX s 21 wl k rd) Ig 6 h.length ([],[]) (au (xX s 21 wl k rd) (eq (xX s 21 wl k rd) rX n0 K n) Fb) ⟨(c::d::g::j::j::c::v1::v3::v3::uu::r::zz),h4⟩):=kI
theorem Lv:au (xX s 21 wl k false) (ap s.P Tryz.f21) Iz (.exit 0) ⟨[c,d,g,j,l,q,p,o,e,u,r,z,A,B,F,D,E,G,I,L,N,M,J,O],h⟩ =
 bp (a7 s.P 24 c h) fun v7 h8=>
 bm (aw s.P .leq 3 v7 (.lit (.int .i64 40))) h8 fun v9 hA=>
 some (v9,hA):=kR
theorem La:cK (xX s 21 wl k rd) Ig 7 m0 ac (au (xX s 21 wl k rd) (eq (xX s 21 wl k rd) rX n0 K n) Fb) ⟨[c,d,g,j,l,q,p,o,e,u,r,z,A,B,F,D,E,G,I,L,N,M,J,O],h⟩ =
 bm (aR e r (.lit (.bool false))) h fun vA hB=>
 cnd vA (
 bm (ai s.P 24 c j hB) hB fun vB hD=>
 bm (aa s.P 101 vB 1) hD fun vC hE=>
 bm (ab s.P 53 vC hE) hE fun vD hF=>
 bp (a7 s.P 53 vD hF) fun vG hH=>
 bm (aw s.P .gtr 3 vG (.lit (.int .i64 40))) hH fun vF hI=>
 cnd vF (
 K .ret ⟨[c,d,(.lit (.bool false)),j,l,q,p,o,e,u,r,vA,A,B,c,j,vB,vC,vD,vG,vF,M,J,O],hI⟩) (
 bm (aw s.P .add 3 j (.lit (.int .i64 1))) hI fun vJ hJ=>
 itX (xX s 21 wl k rd) rX n0 K n ⟨[(V.kill n0 c),(V.kill n0 d),(V.kill n0 g),(V.kill n0 vJ),.junk,.junk,.junk,.junk,.junk,.junk,.junk,.junk,.junk,.junk,.junk,.junk,.junk,.junk,.junk,.junk,.junk,(V.kill n0 M),(V.kill n0 J),(V.kill n0 O)],bN n0 hJ⟩)) (
 K (.exit 0) ⟨[(V.kill n0 c),(V.kill n0 d),(V.kill n0 g),(V.kill n0 j),.junk,.junk,.junk,.junk,.junk,.junk,.junk,.junk,.junk,.junk,.junk,.junk,.junk,.junk,.junk,.junk,.junk,(V.kill n0 M),(V.kill n0 J),(V.kill n0 O)],bN n0 hB⟩):=kG
theorem rr (cx:Cx) (s:St):au cx K Iz .ret s=K .ret s:=by kernel_rfl
theorem rB (cx:Cx) (s:St):au cx K Fb .ret s=K .ret s:=by kernel_rfl
-- names: aiK,aff,SX,Lv,La,rr,rB
theorem ajb:ak (xX s 44 wl k false) Tryz.f44 [c,d] h =
 bp (yC s k wl 44 false true (.fn (.func 89) [] []) [c,d,(.fn (.func 90) [] [])] h) fun v1 h2=>
 some (v1,h2):=kB
theorem aj2:evF Tryz.prog xM (k+1) wl 44 [c,d] h=ak (xX (xS k) 44 wl k false) Tryz.f44 [c,d] h:=by kernel_rfl
-- names: ajb,
noncomputable def If:Code:=al (am Tryz.f56) [1,0,0]
noncomputable def D9:List Fr:=[.seq (al (am Tryz.f56) [1,0,1]),.seq (al (am Tryz.f56) [1,1])]
noncomputable def UH:Code:=al (am Tryz.f56) [1,1,1,0,1,0]
noncomputable def D1:Code:=al (am Tryz.f56) [1,1,1,0,1,0,0]
noncomputable def Ea:Code:=al (am Tryz.f56) [1,1,1,0,1,0,1]
noncomputable def AZ:List Fr:=[.block 0,.seq (al (am Tryz.f56) [1,1,1,1])]
noncomputable def rR:Code:=al (am Tryz.f56) [1,1,1,0,1,0,1,0,0,0]
noncomputable def o6:List Fr:=[.seq (al (am Tryz.f56) [1,1,1,0,1,0,1,0,0,1]),.seq (al (am Tryz.f56) [1,1,1,0,1,0,1,0,1]),.block 1]
theorem uC:UH= .rangeFunc (.tmp 17) #[18,19] D1 Ea:=by kernel_rfl
theorem aej:ak (xX s 56 wl k false) Tryz.f56 [c] h =
 bp (aP c h) fun v1 h2=>
 bp (av s.P 4 h2) fun v3 h4=>
 bm (ab s.P 24 v1 h4) h4 fun v5 h6=>
 bp (a7 s.P 24 v5 h6) fun v7 h8=>
 bm (aw s.P .gtr 3 v7 (.lit (.int .i64 30))) h8 fun v9 hA=>
 gd v9 (
 yO s k wl 56 Tryz.f56 If 6 h4.length ([],[]) D9 ⟨[c,v1,v3,uu,uu,uu,v5,v7,v9,(.lit (.bool true)),uu,uu,uu,uu,uu,uu,uu,uu,uu,uu,uu,uu,uu,uu,uu,uu,uu,uu,uu,uu,uu,uu,uu,uu,uu,uu,uu,uu],hA⟩) (
 bm (ab s.P 24 v1 hA) hA fun vA hB=>
 bp (yC s k wl 56 false true (.fn (.func 98) [] []) [vA,(.fn (.func 99) [] [])] hB) fun vB hD=>
 yO s k wl 56 Tryz.f56 If 6 h4.length ([],[]) D9 ⟨[c,v1,v3,uu,uu,uu,v5,v7,v9,(.lit (.bool false)),vA,vB,uu,uu,uu,uu,uu,uu,uu,uu,uu,uu,uu,uu,uu,uu,uu,uu,uu,uu,uu,uu,uu,uu,uu,uu,uu,uu],hD⟩) (
 yO s k wl 56 Tryz.f56 If 5 h4.length ([],[]) D9 ⟨[c,v1,v3,uu,uu,uu,v5,v7,v9,v9,uu,uu,uu,uu,uu,uu,uu,uu,uu,uu,uu,uu,uu,uu,uu,uu,uu,uu,uu,uu,uu,uu,uu,uu,uu,uu,uu,uu],hA⟩):=kB
theorem ae4:evF Tryz.prog xM (k+1) wl 56 [c] h=ak (xX (xS k) 56 wl k false) Tryz.f56 [c] h:=by kernel_rfl
theorem aem (P:Program):ap P Tryz.f56 .ret ⟨[c,d,g,j,l,q,p,o,e,u,r,z,A,B,F,D,E,G,I,L,N,M,J,O,R,Q,U,T,Y,X,Z,W,t4,t0,t5,t1,t2,t3],h⟩=ew [ab P 4 g h] h:=by kernel_rfl
theorem Ja:yO s k wl 56 Tryz.f56 If 6 m0 ac D9 ⟨(c::d::g::j::l::q::p::o::e::u::r::z::A::B::F::D::E::G::zz),h⟩ =
 bm (aR u (.lit (.bool true)) z) h fun vC hE=>
 cnd vC (
 bs (aj s.P wl 4 g (.lit (.bool false)) hE) fun hG=>
 ew [ab s.P 4 g hG] hG) (
 bm (ab s.P 24 d hE) hE fun vE hC=>
 bp (a7 s.P 24 vE hC) fun vK hL=>
 bp (bn s.P 150 vK vK hL) fun vL hM=>
 bp (av s.P 150 hM) fun vH hO=>
 bs (aj s.P wl 150 vH vL hO) fun hK=>
 bm (ab s.P 24 d hK) hK fun vI hP=>
 bp (yC s k wl 56 false true (.fn (.func 100) [] []) [vI] hP) fun vN hQ=>
 bk (xX s 56 wl k false) UH none (au (xX s 56 wl k false) (ap s.P Tryz.f56) AZ) ⟨(c::d::g::vH::l::q::p::o::e::u::r::z::vC::vE::vK::vL::vI::vN::zz),hQ⟩):=kG
theorem H3:au (xX s 56 wl k false) (ap s.P Tryz.f56) AZ .norm ⟨(c::d::g::zz),h⟩ =
 bs (aj s.P wl 4 g (.lit (.bool true)) h) fun hV=>
 ew [ab s.P 4 g hV] hV:=kR
theorem eN:au (xX s 56 wl k rd) K [.seq Ea] .norm ⟨[c,d,g,j,l,q,p,o,e,u,r,z,A,B,F,D,E,G,I,L,N,M,J,O,R,Q,U,T,Y,X,Z,W,t4,t0,t5,t1,t2,t3],h⟩ =
 bm (aw s.P .leq 3 l q) h fun vO hR=>
 gd vO (
 cK (xX s 56 wl k rd) rR 8 h.length ([],[]) (au (xX s 56 wl k rd) K o6) ⟨[c,d,g,j,l,q,p,o,e,u,r,z,A,B,F,D,E,G,I,L,l,q,vO,(.lit (.bool true)),uu,uu,uu,uu,Y,X,Z,W,t4,t0,t5,t1,t2,t3],hR⟩) (
 bm (ab s.P 24 d hR) hR fun vR ha=>
 bp (a7 s.P 24 vR ha) fun vb hq=>
 bm (aw s.P .geq 3 l vb) hq fun vX hg=>
 cK (xX s 56 wl k rd) rR 8 h.length ([],[]) (au (xX s 56 wl k rd) K o6) ⟨[c,d,g,j,l,q,p,o,e,u,r,z,A,B,F,D,E,G,I,L,l,q,vO,(.lit (.bool false)),l,vR,vb,vX,Y,X,Z,W,t4,t0,t5,t1,t2,t3],hg⟩) (
 cK (xX s 56 wl k rd) rR 5 h.length ([],[]) (au (xX s 56 wl k rd) K o6) ⟨[c,d,g,j,l,q,p,o,e,u,r,z,A,B,F,D,E,G,I,L,l,q,vO,vO,uu,Q,U,T,Y,X,Z,W,t4,t0,t5,t1,t2,t3],hR⟩):=kR
theorem eL:au (xX s 56 wl k rd) K [.seq D1] .norm ⟨(c::d::g::j::l::q::p::o::e::u::r::z::A::B::F::D::E::G::I::L::zz),h⟩ =
 K .norm ⟨(c::d::g::j::I::L::p::o::e::u::r::z::A::B::F::D::E::G::I::L::zz),h⟩:=kR
theorem IW:cK (xX s 56 wl k rd) rR 8 m0 ac (au (xX s 56 wl k rd) K o6) ⟨[c,d,g,j,l,q,p,o,e,u,r,z,A,B,F,D,E,G,I,L,N,M,J,O,R,Q,U,T,Y,X,Z,W,t4,t0,t5,t1,t2,t3],h⟩ =
 bm (aR O (.lit (.bool true)) T) h fun vP hW=>
 gd vP (
 cK (xX s 56 wl k rd) rR 14 m0 ac (au (xX s 56 wl k rd) K o6) ⟨[c,d,g,j,l,q,p,o,e,u,r,z,A,B,F,D,E,G,I,L,N,M,J,O,R,Q,U,T,vP,(.lit (.bool true)),uu,uu,uu,uu,t5,t1,t2,t3],hW⟩) (
 bm (ab s.P 150 j hW) hW fun vc hb=>
 bm (ai s.P 150 vc l hb) hb fun vd hh=>
 bm (ab s.P 4 vd hh) hh fun vl hd=>
 cK (xX s 56 wl k rd) rR 14 m0 ac (au (xX s 56 wl k rd) K o6) ⟨[c,d,g,j,l,q,p,o,e,u,r,z,A,B,F,D,E,G,I,L,N,M,J,O,R,Q,U,T,vP,(.lit (.bool false)),vc,l,vd,vl,t5,t1,t2,t3],hd⟩) (
 cK (xX s 56 wl k rd) rR 11 m0 ac (au (xX s 56 wl k rd) K o6) ⟨[c,d,g,j,l,q,p,o,e,u,r,z,A,B,F,D,E,G,I,L,N,M,J,O,R,Q,U,T,vP,vP,uu,W,t4,t0,t5,t1,t2,t3],hW⟩):=kG
theorem HC:cK (xX s 56 wl k rd) rR 14 m0 ac (au (xX s 56 wl k rd) K o6) ⟨[c,d,g,j,l,q,p,o,e,u,r,z,A,B,F,D,E,G,I,L,N,M,J,O,R,Q,U,T,Y,X,Z,W,t4,t0,t5,t1,t2,t3],h⟩ =
 bm (aR X (.lit (.bool true)) t0) h fun vY hT=>
 cnd vY (
 bs (aj s.P wl 4 g (.lit (.bool false)) hT) fun h50=>
 K .ret ⟨[c,d,g,j,l,q,p,o,e,u,r,z,A,B,F,D,E,G,I,L,N,M,J,O,R,Q,U,T,Y,X,Z,W,t4,t0,vY,t1,t2,t3],h50⟩) (
 bm (ab s.P 150 j hT) hT fun vs hr=>
 bm (ai s.P 150 vs l hr) hr fun vt he=>
 bs (aj s.P wl 4 vt (.lit (.bool true)) he) fun hi=>
 K .norm ⟨[c,d,g,j,l,q,p,o,e,u,r,z,A,B,F,D,E,G,I,L,N,M,J,O,R,Q,U,T,Y,X,Z,W,t4,t0,vY,vs,l,vt],hi⟩):=kG
theorem m6 (cx:Cx) (s:St):au cx K D9 .ret s=K .ret s:=by kernel_rfl
theorem nm (cx:Cx) (s:St):au cx K AZ .ret s=K .ret s:=by kernel_rfl
theorem nn (cx:Cx) (s:St):au cx K o6 .ret s=K .ret s:=by kernel_rfl
-- names: aej,aem,Ja,H3,eN,eL,IW,HC,m6,nm,nn
-- range over a function at [1,1,1,0,1,0]
noncomputable def AV:Code:=al (am Tryz.f57) [1,1,1,0,1,0,0]
noncomputable def DW:List Fr:=[.block 0,.seq (al (am Tryz.f57) [1,1,1,1])]
theorem Zj:ak (xX s 57 wl k false) Tryz.f57 [c] h =
 bp (some (.own h.length 0 0,h++[.rows 0 [] 0 true])) fun v1 h2=>
 bp (yC s k wl 57 false true (.fn (.func 56) [] []) [c] h2) fun v3 h4=>
 bm (vUn .not v3) h4 fun v5 h6=>
 cnd v5 (
 bp (some (.own h6.length 0 0,h6++[.rows 0 [] 0 true])) fun v7 h8=>
 some (v7,h8)) (
 bp (some (.own h6.length 0 0,h6++[.rows 0 [] 0 true])) fun v9 hA=>
 bp (a7 s.P 24 c hA) fun vA hB=>
 yI s k wl 57 Tryz.f57 AV hB.length DW k ⟨[(V.kill hB.length c),(V.kill hB.length uu),(V.kill hB.length v1),(V.kill hB.length v9),(V.kill hB.length uu),(V.kill hB.length c),(V.kill hB.length v3),(V.kill hB.length v5),(V.kill hB.length c),(V.kill hB.length vA),(.lit (.int .i64 0)),.junk,.junk,.junk,.junk,.junk,.junk,.junk,.junk,.junk,.junk,.junk,(V.kill hB.length uu)],bN hB.length hB⟩):=kB
theorem ZI:evF Tryz.prog xM (k+1) wl 57 [c] h=ak (xX (xS k) 57 wl k false) Tryz.f57 [c] h:=by kernel_rfl
theorem Zf (P:Program):ap P Tryz.f57 .ret ⟨[c,d,g,j,l,q,p,o,e,u,r,z,A,B,F,D,E,G,I,L,N,M,J],h⟩=some (g,h):=by kernel_rfl
theorem UG:itX (xX s 57 wl k rd) AV n0 K (n+1) ⟨[c,d,g,j,l,q,p,o,e,u,r,z,A,B,F,D,E,G,I,L,N,M,J],h⟩ =
 bm (aw s.P .lss 3 r u) h fun vB hD=>
 cnd vB (
 bp (bE (xX s 57 wl k rd) false true (.fn (.func 101) [] []) [c,r] hD) fun vC hE=>
 bm (aw s.P .eql 3 vC (.lit (.int .i64 (-1)))) hE fun vD hF=>
 cnd vD (
 bp (aB s.P wl 53 1 [(0,r)] hF) fun vG hH=>
 bp (kQ s.P wl 53 53 j vG hH) fun vF hI=>
 bm (aw s.P .add 3 r (.lit (.int .i64 1))) hI fun vJ hJ=>
 itX (xX s 57 wl k rd) AV n0 K n ⟨[(V.kill n0 c),(V.kill n0 d),(V.kill n0 g),(V.kill n0 vF),(V.kill n0 r),(V.kill n0 q),(V.kill n0 p),(V.kill n0 o),(V.kill n0 e),(V.kill n0 u),(V.kill n0 vJ),.junk,.junk,.junk,.junk,.junk,.junk,.junk,.junk,.junk,.junk,.junk,(V.kill n0 J)],bN n0 hJ⟩) (
 bm (aw s.P .add 3 r (.lit (.int .i64 1))) hF fun vM hK=>
 itX (xX s 57 wl k rd) AV n0 K n ⟨[(V.kill n0 c),(V.kill n0 d),(V.kill n0 g),(V.kill n0 j),(V.kill n0 r),(V.kill n0 q),(V.kill n0 p),(V.kill n0 o),(V.kill n0 e),(V.kill n0 u),(V.kill n0 vM),.junk,.junk,.junk,.junk,.junk,.junk,.junk,.junk,.junk,.junk,.junk,(V.kill n0 J)],bN n0 hK⟩)) (
 K (.exit 0) ⟨[(V.kill n0 c),(V.kill n0 d),(V.kill n0 g),(V.kill n0 j),(V.kill n0 l),(V.kill n0 q),(V.kill n0 p),(V.kill n0 o),(V.kill n0 e),(V.kill n0 u),.junk,.junk,.junk,.junk,.junk,.junk,.junk,.junk,.junk,.junk,.junk,.junk,(V.kill n0 J)],bN n0 hD⟩):=kI
theorem Bm:au (xX s 57 wl k false) (ap s.P Tryz.f57) DW (.exit 0) ⟨[c,d,g,j,l,q,p,o,e,u,r,z,A,B,F,D,E,G,I,L,N,M,J],h⟩ =
 some (j,h):=kR
theorem i4 (cx:Cx) (s:St):au cx K DW .ret s=K .ret s:=by kernel_rfl
-- names: Zj,Zf,UG,Bm,i4
noncomputable def Ie:Code:=al (am Tryz.f89) [1,1,0,1,0,0]
noncomputable def HV:List Fr:=[.block 0,.seq (al (am Tryz.f89) [1,1,1])]
theorem aez:ak (xX s 89 wl k false) Tryz.f89 [c,d,g] h =
 bp (a7 s.P 24 c h) fun v1 h2=>
 bp (a7 s.P 24 d h2) fun v3 h4=>
 bm (aw s.P .neq 3 v1 v3) h4 fun v5 h6=>
 cnd v5 (
 some ((.lit (.bool false)),h6)) (
 bp (a7 s.P 24 c h6) fun v7 h8=>
 yI s k wl 89 Tryz.f89 Ie h8.length HV k ⟨[(V.kill h8.length c),(V.kill h8.length d),(V.kill h8.length g),(V.kill h8.length uu),(V.kill h8.length uu),(V.kill h8.length uu),(.lit (.bool false)),(V.kill h8.length uu),(V.kill h8.length uu),(V.kill h8.length uu),(V.kill h8.length c),(V.kill h8.length v1),(V.kill h8.length d),(V.kill h8.length v3),(V.kill h8.length v5),(V.kill h8.length c),(V.kill h8.length v7),(.lit (.int .i64 0)),.junk,.junk,.junk,.junk,.junk,.junk,.junk,.junk,.junk,.junk,.junk,.junk,.junk,.junk],bN h8.length h8⟩):=kB
theorem afZ:evF Tryz.prog xM (k+1) wl 89 [c,d,g] h=ak (xX (xS k) 89 wl k false) Tryz.f89 [c,d,g] h:=by kernel_rfl
theorem aeA (P:Program):ap P Tryz.f89 .ret ⟨[c,d,g,j,l,q,p,o,e,u,r,z,A,B,F,D,E,G,I,L,N,M,J,O,R,Q,U,T,Y,X,Z,W],h⟩=some (p,h):=by kernel_rfl
theorem Ul:itX (xX s 89 wl k rd) Ie n0 K (n+1) ⟨[c,d,g,j,l,q,p,o,e,u,r,z,A,B,F,D,E,G,I,L,N,M,J,O,R,Q,U,T,Y,X,Z,W],h⟩ =
 bm (aw s.P .lss 3 G E) h fun v9 hA=>
 cnd v9 (
 bm (ai s.P 24 D G hA) hA fun vA hB=>
 bm (ab s.P 101 vA hB) hB fun vB hD=>
 bp (av s.P 101 hD) fun vC hE=>
 bs (aj s.P wl 101 vC vB hE) fun hG=>
 bm (ai s.P 24 d G hG) hG fun vE hC=>
 bm (ab s.P 101 vE hC) hC fun vK hL=>
 bp (av s.P 101 hL) fun vL hM=>
 bs (aj s.P wl 101 vL vK hM) fun hJ=>
 bm (ab s.P 101 vC hJ) hJ fun vM hK=>
 bm (ab s.P 101 vL hK) hK fun vI hP=>
 bp (bE (xX s 89 wl k rd) false true g [vM,vI] hP) fun vN hQ=>
 bm (vUn .not vN) hQ fun vS hX=>
 cnd vS (
 K .ret ⟨[c,d,g,j,l,q,(.lit (.bool false)),G,vC,vL,r,z,A,B,F,D,E,G,v9,G,vA,vB,d,G,vE,vK,g,vM,vI,vN,vS,W],hX⟩) (
 bm (aw s.P .add 3 G (.lit (.int .i64 1))) hX fun vm hs=>
 itX (xX s 89 wl k rd) Ie n0 K n ⟨[(V.kill n0 c),(V.kill n0 d),(V.kill n0 g),(V.kill n0 j),(V.kill n0 l),(V.kill n0 q),(V.kill n0 p),(V.kill n0 G),(V.kill n0 vC),(V.kill n0 vL),(V.kill n0 r),(V.kill n0 z),(V.kill n0 A),(V.kill n0 B),(V.kill n0 F),(V.kill n0 D),(V.kill n0 E),(V.kill n0 vm),.junk,.junk,.junk,.junk,.junk,.junk,.junk,.junk,.junk,.junk,.junk,.junk,.junk,.junk],bN n0 hs⟩)) (
 K (.exit 0) ⟨[(V.kill n0 c),(V.kill n0 d),(V.kill n0 g),(V.kill n0 j),(V.kill n0 l),(V.kill n0 q),(V.kill n0 p),(V.kill n0 o),(V.kill n0 e),(V.kill n0 u),(V.kill n0 r),(V.kill n0 z),(V.kill n0 A),(V.kill n0 B),(V.kill n0 F),(V.kill n0 D),(V.kill n0 E),.junk,.junk,.junk,.junk,.junk,.junk,.junk,.junk,.junk,.junk,.junk,.junk,.junk,.junk,.junk],bN n0 hA⟩):=kI
theorem IQ:au (xX s 89 wl k false) (ap s.P Tryz.f89) HV (.exit 0) ⟨[c,d,g,j,l,q,p,o,e,u,r,z,A,B,F,D,E,G,I,L,N,M,J,O,R,Q,U,T,Y,X,Z,W],h⟩ =
 some ((.lit (.bool true)),h):=kR
theorem nh (cx:Cx) (s:St):au cx K HV .ret s=K .ret s:=by kernel_rfl
-- names: aez,aeA,Ul,IQ,nh
noncomputable def Hw:Code:=al (am Tryz.f90) [1,0]
noncomputable def Fa:List Fr:=[.seq (al (am Tryz.f90) [1,1])]
theorem af0:ak (xX s 90 wl k false) Tryz.f90 [c,d] h =
 bp (aP c h) fun v1 h2=>
 bp (aP d h2) fun v3 h4=>
 bm (aa s.P 101 v1 0) h4 fun v5 h6=>
 bm (ab s.P 3 v5 h6) h6 fun v7 h8=>
 bm (aa s.P 101 v3 0) h8 fun v9 hA=>
 bm (ab s.P 3 v9 hA) hA fun vA hB=>
 bm (aw s.P .eql 3 v7 vA) hB fun vB hD=>
 gd vB (
 bm (aa s.P 101 v1 1) hD fun vC hE=>
 bm (ab s.P 53 vC hE) hE fun vD hF=>
 bm (aa s.P 101 v3 1) hF fun vG hH=>
 bm (ab s.P 53 vG hH) hH fun vF hI=>
 bp (yC s k wl 90 false true (.fn (.func 91) [] []) [vD,vF] hI) fun vJ hJ=>
 yO s k wl 90 Tryz.f90 Hw 11 h4.length ([],[]) Fa ⟨[c,d,v1,v3,(.lit (.bool false)),v5,v7,v9,vA,vB,(.lit (.bool true)),vC,vD,vG,vF,vJ,uu],hJ⟩) (
 yO s k wl 90 Tryz.f90 Hw 11 h4.length ([],[]) Fa ⟨[c,d,v1,v3,(.lit (.bool false)),v5,v7,v9,vA,vB,(.lit (.bool false)),uu,uu,uu,uu,uu,uu],hD⟩) (
 yO s k wl 90 Tryz.f90 Hw 7 h4.length ([],[]) Fa ⟨[c,d,v1,v3,(.lit (.bool false)),v5,v7,v9,vA,vB,vB,uu,uu,uu,uu,uu,uu],hD⟩):=kB
theorem ai7:evF Tryz.prog xM (k+1) wl 90 [c,d] h=ak (xX (xS k) 90 wl k false) Tryz.f90 [c,d] h:=by kernel_rfl
theorem Lj:yO s k wl 90 Tryz.f90 Hw 11 m0 ac Fa ⟨[c,d,g,j,l,q,p,o,e,u,r,z,A,B,F,D,E],h⟩ =
 bm (aR r D (.lit (.bool false))) h fun vM hK=>
 some (vM,hK):=kG
theorem ri (cx:Cx) (s:St):au cx K Fa .ret s=K .ret s:=by kernel_rfl
-- names: af0,Lj,ri
noncomputable def IA:Code:=al (am Tryz.f91) [1,1,0,1,0,0]
noncomputable def Jf:List Fr:=[.block 0,.seq (al (am Tryz.f91) [1,1,1])]
theorem agp:ak (xX s 91 wl k false) Tryz.f91 [c,d] h =
 bp (a7 s.P 53 c h) fun v1 h2=>
 bp (a7 s.P 53 d h2) fun v3 h4=>
 bm (aw s.P .neq 3 v1 v3) h4 fun v5 h6=>
 cnd v5 (
 some ((.lit (.bool false)),h6)) (
 bp (a7 s.P 53 c h6) fun v7 h8=>
 yI s k wl 91 Tryz.f91 IA h8.length Jf k ⟨[(V.kill h8.length c),(V.kill h8.length d),(V.kill h8.length uu),(V.kill h8.length uu),(.lit (.bool false)),(V.kill h8.length uu),(V.kill h8.length c),(V.kill h8.length v1),(V.kill h8.length d),(V.kill h8.length v3),(V.kill h8.length v5),(V.kill h8.length c),(V.kill h8.length v7),(.lit (.int .i64 0)),.junk,.junk,.junk,.junk,.junk,.junk,.junk,.junk,.junk,.junk,.junk,.junk],bN h8.length h8⟩):=kB
theorem ajn:evF Tryz.prog xM (k+1) wl 91 [c,d] h=ak (xX (xS k) 91 wl k false) Tryz.f91 [c,d] h:=by kernel_rfl
theorem aiS (P:Program):ap P Tryz.f91 .ret ⟨[c,d,g,j,l,q,p,o,e,u,r,z,A,B,F,D,E,G,I,L,N,M,J,O,R,Q],h⟩=some (l,h):=by kernel_rfl
theorem Tg:itX (xX s 91 wl k rd) IA n0 K (n+1) ⟨[c,d,g,j,l,q,p,o,e,u,r,z,A,B,F,D,E,G,I,L,N,M,J,O,R,Q],h⟩ =
 bm (aw s.P .lss 3 B A) h fun v9 hA=>
 cnd v9 (
 bm (ai s.P 53 c B hA) hA fun vA hB=>
 bm (ab s.P 3 vA hB) hB fun vB hD=>
 bm (ai s.P 53 d B hD) hD fun vC hE=>
 bm (ab s.P 3 vC hE) hE fun vD hF=>
 bm (aw s.P .neq 3 vB vD) hF fun vG hH=>
 cnd vG (
 K .ret ⟨[c,d,g,j,(.lit (.bool false)),B,p,o,e,u,r,z,A,B,v9,B,c,B,vA,vB,d,B,vC,vD,vG,Q],hH⟩) (
 bm (aw s.P .add 3 B (.lit (.int .i64 1))) hH fun vF hI=>
 itX (xX s 91 wl k rd) IA n0 K n ⟨[(V.kill n0 c),(V.kill n0 d),(V.kill n0 g),(V.kill n0 j),(V.kill n0 l),(V.kill n0 B),(V.kill n0 p),(V.kill n0 o),(V.kill n0 e),(V.kill n0 u),(V.kill n0 r),(V.kill n0 z),(V.kill n0 A),(V.kill n0 vF),.junk,.junk,.junk,.junk,.junk,.junk,.junk,.junk,.junk,.junk,.junk,.junk],bN n0 hI⟩)) (
 K (.exit 0) ⟨[(V.kill n0 c),(V.kill n0 d),(V.kill n0 g),(V.kill n0 j),(V.kill n0 l),(V.kill n0 q),(V.kill n0 p),(V.kill n0 o),(V.kill n0 e),(V.kill n0 u),(V.kill n0 r),(V.kill n0 z),(V.kill n0 A),.junk,.junk,.junk,.junk,.junk,.junk,.junk,.junk,.junk,.junk,.junk,.junk,.junk],bN n0 hA⟩):=kI
theorem KU:au (xX s 91 wl k false) (ap s.P Tryz.f91) Jf (.exit 0) ⟨[c,d,g,j,l,q,p,o,e,u,r,z,A,B,F,D,E,G,I,L,N,M,J,O,R,Q],h⟩ =
 some ((.lit (.bool true)),h):=kR
theorem pQ (cx:Cx) (s:St):au cx K Jf .ret s=K .ret s:=by kernel_rfl
-- names: agp,aiS,Tg,KU,pQ
theorem abE:ak (xX s 98 wl k false) Tryz.f98 [c,d] h =
 bp (yC s k wl 98 false true (.fn (.func 147) [] []) [c,d] h) fun v1 h2=>
 bm (aw s.P .geq 3 v1 (.lit (.int .i64 0))) h2 fun v3 h4=>
 some (v3,h4):=kB
theorem aef:evF Tryz.prog xM (k+1) wl 98 [c,d] h=ak (xX (xS k) 98 wl k false) Tryz.f98 [c,d] h:=by kernel_rfl
-- names: abE,
noncomputable def HK:Code:=al (am Tryz.f99) [1,0]
noncomputable def Fd:List Fr:=[.seq (al (am Tryz.f99) [1,1])]
theorem ZR:ak (xX s 99 wl k false) Tryz.f99 [c] h =
 bp (aP c h) fun v1 h2=>
 bm (aa s.P 101 v1 0) h2 fun v3 h4=>
 bm (ab s.P 3 v3 h4) h4 fun v5 h6=>
 bm (aw s.P .lss 3 v5 (.lit (.int .i64 0))) h6 fun v7 h8=>
 gd v7 (
 yO s k wl 99 Tryz.f99 HK 7 h2.length ([],[]) Fd ⟨[c,v1,(.lit (.bool false)),v3,v5,v7,(.lit (.bool true)),uu,uu,uu,uu],h8⟩) (
 bm (aa s.P 101 v1 0) h8 fun v9 hA=>
 bm (ab s.P 3 v9 hA) hA fun vA hB=>
 bm (aw s.P .gtr 3 vA (.lit (.int .i64 20))) hB fun vB hD=>
 yO s k wl 99 Tryz.f99 HK 7 h2.length ([],[]) Fd ⟨[c,v1,(.lit (.bool false)),v3,v5,v7,(.lit (.bool false)),v9,vA,vB,uu],hD⟩) (
 yO s k wl 99 Tryz.f99 HK 5 h2.length ([],[]) Fd ⟨[c,v1,(.lit (.bool false)),v3,v5,v7,v7,uu,uu,uu,uu],h8⟩):=kB
theorem aew:evF Tryz.prog xM (k+1) wl 99 [c] h=ak (xX (xS k) 99 wl k false) Tryz.f99 [c] h:=by kernel_rfl
theorem DN:yO s k wl 99 Tryz.f99 HK 7 m0 ac Fd ⟨[c,d,g,j,l,q,p,o,e,u,r],h⟩ =
 bm (aR p (.lit (.bool true)) u) h fun vC hE=>
 some (vC,hE):=kG
theorem lg (cx:Cx) (s:St):au cx K Fd .ret s=K .ret s:=by kernel_rfl
-- names: ZR,DN,lg
theorem Gn:ak (xX s 100 wl k false) Tryz.f100 [c] h =
 bp (aP c h) fun v1 h2=>
 some ((.fn (.func 148) [] [v1]),h2):=kB
theorem Jj:evF Tryz.prog xM (k+1) wl 100 [c] h=ak (xX (xS k) 100 wl k false) Tryz.f100 [c] h:=by kernel_rfl
-- names: Gn,
noncomputable def Da:Code:=al (am Tryz.f147) [1,0,1,0,0]
noncomputable def Cp:List Fr:=[.block 0,.seq (al (am Tryz.f147) [1,1])]
theorem GF:ak (xX s 147 wl k false) Tryz.f147 [c,d] h =
 bp (a7 s.P 24 c h) fun v1 h2=>
 yI s k wl 147 Tryz.f147 Da h2.length Cp k ⟨[(V.kill h2.length c),(V.kill h2.length d),(V.kill h2.length uu),(V.kill h2.length uu),(.lit (.int .i64 0)),(V.kill h2.length uu),(V.kill h2.length c),(V.kill h2.length v1),(.lit (.int .i64 0)),.junk,.junk,.junk,.junk,.junk,.junk,.junk,.junk,.junk,.junk],bN h2.length h2⟩:=kB
theorem Kc:evF Tryz.prog xM (k+1) wl 147 [c,d] h=ak (xX (xS k) 147 wl k false) Tryz.f147 [c,d] h:=by kernel_rfl
theorem FQ (P:Program):ap P Tryz.f147 .ret ⟨[c,d,g,j,l,q,p,o,e,u,r,z,A,B,F,D,E,G,I],h⟩=some (l,h):=by kernel_rfl
theorem N6:itX (xX s 147 wl k rd) Da n0 K (n+1) ⟨[c,d,g,j,l,q,p,o,e,u,r,z,A,B,F,D,E,G,I],h⟩ =
 bm (aw s.P .lss 3 e o) h fun v3 h4=>
 cnd v3 (
 bm (ai s.P 24 c e h4) h4 fun v5 h6=>
 bm (ab s.P 101 v5 h6) h6 fun v7 h8=>
 bp (bE (xX s 147 wl k rd) false true d [v7] h8) fun v9 hA=>
 cnd v9 (
 K .ret ⟨[c,d,g,j,e,e,p,o,e,v3,e,d,c,e,v5,v7,v9,e,I],hA⟩) (
 bm (aw s.P .add 3 e (.lit (.int .i64 1))) hA fun vA hB=>
 itX (xX s 147 wl k rd) Da n0 K n ⟨[(V.kill n0 c),(V.kill n0 d),(V.kill n0 g),(V.kill n0 j),(V.kill n0 l),(V.kill n0 e),(V.kill n0 p),(V.kill n0 o),(V.kill n0 vA),.junk,.junk,.junk,.junk,.junk,.junk,.junk,.junk,.junk,.junk],bN n0 hB⟩)) (
 K (.exit 0) ⟨[(V.kill n0 c),(V.kill n0 d),(V.kill n0 g),(V.kill n0 j),(V.kill n0 l),(V.kill n0 q),(V.kill n0 p),(V.kill n0 o),.junk,.junk,.junk,.junk,.junk,.junk,.junk,.junk,.junk,.junk,.junk],bN n0 h4⟩):=kI
theorem nC:au (xX s 147 wl k false) (ap s.P Tryz.f147) Cp (.exit 0) ⟨[c,d,g,j,l,q,p,o,e,u,r,z,A,B,F,D,E,G,I],h⟩ =
 some ((.lit (.int .i64 (-1))),h):=kR
theorem fW (cx:Cx) (s:St):au cx K Cp .ret s=K .ret s:=by kernel_rfl
-- names: GF,FQ,N6,nC,fW
noncomputable def kN:Code:=al (am Tryz.f148) [1,0,0]
noncomputable def mc:List Fr:=[.block 0]
noncomputable def us:Code:=al (am Tryz.f148) [1,0,0,1,1,0,0,1,1,0,0]
noncomputable def uM:List Fr:=[.block 2,.block 1,.seq (al (am Tryz.f148) [1,0,0,1,1,1])]
theorem GE:ak (xX s 148 wl k false) Tryz.f148 [c,d] h =
 bm (ab s.P 24 d h) h fun v1 h2=>
 bp (a7 s.P 24 v1 h2) fun v3 h4=>
 yI s k wl 148 Tryz.f148 kN h4.length mc k ⟨[(V.kill h4.length c),(V.kill h4.length d),(V.kill h4.length uu),(V.kill h4.length uu),(V.kill h4.length uu),(V.kill h4.length uu),(V.kill h4.length uu),(V.kill h4.length v1),(V.kill h4.length v3),(.lit (.int .i64 0)),.junk,.junk,.junk,.junk,.junk,.junk,.junk,.junk,.junk,.junk,.junk,.junk,.junk,.junk,.junk,.junk,.junk,.junk],bN h4.length h4⟩:=kB
theorem Jh:evF Tryz.prog xM (k+1) wl 148 [c,d] h=ak (xX (xS k) 148 wl k false) Tryz.f148 [c,d] h:=by kernel_rfl
theorem Fy (P:Program):ap P Tryz.f148 .ret ⟨[c,d,g,j,l,q,p,o,e,u,r,z,A,B,F,D,E,G,I,L,N,M,J,O,R,Q,U,T],h⟩=some (.tup [],h):=by kernel_rfl
theorem FE:itX (xX s 148 wl k rd) kN n0 K (n+1) ⟨[c,d,g,j,l,q,p,o,e,u,r,z,A,B,F,D,E,G,I,L,N,M,J,O,R,Q,U,T],h⟩ =
 bm (aw s.P .lss 3 u e) h fun v5 h6=>
 cnd v5 (
 bm (ai s.P 24 o u h6) h6 fun v7 h8=>
 bm (ab s.P 101 v7 h8) h8 fun v9 hA=>
 bp (av s.P 101 hA) fun vA hB=>
 bs (aj s.P wl 101 vA v9 hB) fun hY=>
 bm (aa s.P 101 vA 1) hY fun vZ hN=>
 bm (ab s.P 53 vZ hN) hN fun vQ hG=>
 bp (a7 s.P 53 vQ hG) fun vE hC=>
 itX (xX s 148 wl k rd) us hC.length (au (xX s 148 wl k rd) (eq (xX s 148 wl k rd) kN n0 K n) uM) k ⟨[(V.kill hC.length c),(V.kill hC.length d),(V.kill hC.length g),(V.kill hC.length u),(V.kill hC.length vA),(V.kill hC.length q),(V.kill hC.length p),(V.kill hC.length o),(V.kill hC.length e),(V.kill hC.length u),(V.kill hC.length v5),(V.kill hC.length u),(V.kill hC.length v7),(V.kill hC.length v9),(V.kill hC.length vZ),(V.kill hC.length vQ),(V.kill hC.length vE),(.lit (.int .i64 0)),.junk,.junk,.junk,.junk,.junk,.junk,.junk,.junk,.junk,(V.kill hC.length T)],bN hC.length hC⟩) (
 K (.exit 0) ⟨[(V.kill n0 c),(V.kill n0 d),(V.kill n0 g),(V.kill n0 j),(V.kill n0 l),(V.kill n0 q),(V.kill n0 p),(V.kill n0 o),(V.kill n0 e),.junk,.junk,.junk,.junk,.junk,.junk,.junk,.junk,.junk,.junk,.junk,.junk,.junk,.junk,.junk,.junk,.junk,.junk,.junk],bN n0 h6⟩):=kI
theorem nV:au (xX s 148 wl k false) (ap s.P Tryz.f148) mc (.exit 0) ⟨(c::zz),h⟩ =
 some (.tup [],h):=kR
theorem Gr:itX (xX s 148 wl k rd) us n0 K (n+1) ⟨[c,d,g,j,l,q,p,o,e,u,r,z,A,B,F,D,E,G,I,L,N,M,J,O,R,Q,U,T],h⟩ =
 bm (aw s.P .lss 3 G E) h fun vK hL=>
 cnd vK (
 bm (ai s.P 53 D G hL) hL fun vL hM=>
 bm (ab s.P 3 vL hM) hM fun vH hO=>
 bp (bE (xX s 148 wl k rd) false true c [vH,j] hO) fun vn ht=>
 bm (vUn .not vn) ht fun vu hU=>
 cnd vu (
 K .ret ⟨[c,d,g,j,l,q,vH,o,e,u,r,z,A,B,F,D,E,G,vK,vL,vH,c,vH,j,vn,vu,U,T],hU⟩) (
 bm (aw s.P .add 3 G (.lit (.int .i64 1))) hU fun vT hV=>
 itX (xX s 148 wl k rd) us n0 K n ⟨[(V.kill n0 c),(V.kill n0 d),(V.kill n0 g),(V.kill n0 j),(V.kill n0 l),(V.kill n0 q),(V.kill n0 vH),(V.kill n0 o),(V.kill n0 e),(V.kill n0 u),(V.kill n0 r),(V.kill n0 z),(V.kill n0 A),(V.kill n0 B),(V.kill n0 F),(V.kill n0 D),(V.kill n0 E),(V.kill n0 vT),.junk,.junk,.junk,.junk,.junk,.junk,.junk,.junk,.junk,(V.kill n0 T)],bN n0 hV⟩)) (
 K (.exit 2) ⟨[(V.kill n0 c),(V.kill n0 d),(V.kill n0 g),(V.kill n0 j),(V.kill n0 l),(V.kill n0 q),(V.kill n0 p),(V.kill n0 o),(V.kill n0 e),(V.kill n0 u),(V.kill n0 r),(V.kill n0 z),(V.kill n0 A),(V.kill n0 B),(V.kill n0 F),(V.kill n0 D),(V.kill n0 E),.junk,.junk,.junk,.junk,.junk,.junk,.junk,.junk,.junk,.junk,(V.kill n0 T)],bN n0 hL⟩):=kI
theorem nQ:au (xX s 148 wl k rd) (eq (xX s 148 wl k rd) kN n0 K n) uM (.exit 2) ⟨[c,d,g,j,l,q,p,o,e,u,r,z,A,B,F,D,E,G,I,L,N,M,J,O,R,Q,U,T],h⟩ =
 bm (aw s.P .add 3 u (.lit (.int .i64 1))) h fun vO hR=>
 itX (xX s 148 wl k rd) kN n0 K n ⟨[(V.kill n0 c),(V.kill n0 d),(V.kill n0 g),(V.kill n0 j),(V.kill n0 l),(V.kill n0 q),(V.kill n0 p),(V.kill n0 o),(V.kill n0 e),(V.kill n0 vO),.junk,.junk,.junk,.junk,.junk,.junk,.junk,.junk,.junk,.junk,.junk,.junk,.junk,.junk,.junk,.junk,.junk,.junk],bN n0 hR⟩:=kR
theorem fT (cx:Cx) (s:St):au cx K mc .ret s=K .ret s:=by kernel_rfl
theorem fZ (cx:Cx) (s:St):au cx K uM .ret s=K .ret s:=by kernel_rfl
-- names: GE,Fy,FE,nV,Gr,nQ,fT,fZ
noncomputable def IB:Code:=al (am Tryz.f97) [1,0,1,0,0]
noncomputable def HO:List Fr:=[.block 0,.seq (al (am Tryz.f97) [1,1])]
theorem abO:ak (xX s 97 wl k false) Tryz.f97 [c,d] h =
 bp (a7 s.P 53 c h) fun v1 h2=>
 yI s k wl 97 Tryz.f97 IB h2.length HO k ⟨[(V.kill h2.length c),(V.kill h2.length d),(V.kill h2.length uu),(V.kill h2.length uu),(.lit (.int .i64 0)),(V.kill h2.length uu),(V.kill h2.length c),(V.kill h2.length v1),(.lit (.int .i64 0)),.junk,.junk,.junk,.junk,.junk,.junk,.junk,.junk,.junk,.junk],bN h2.length h2⟩:=kB
theorem ael:evF Tryz.prog xM (k+1) wl 97 [c,d] h=ak (xX (xS k) 97 wl k false) Tryz.f97 [c,d] h:=by kernel_rfl
theorem aaP (P:Program):ap P Tryz.f97 .ret ⟨[c,d,g,j,l,q,p,o,e,u,r,z,A,B,F,D,E,G,I],h⟩=some (l,h):=by kernel_rfl
theorem T6:itX (xX s 97 wl k rd) IB n0 K (n+1) ⟨[c,d,g,j,l,q,p,o,e,u,r,z,A,B,F,D,E,G,I],h⟩ =
 bm (aw s.P .lss 3 e o) h fun v3 h4=>
 cnd v3 (
 bm (ai s.P 53 c e h4) h4 fun v5 h6=>
 bm (ab s.P 3 v5 h6) h6 fun v7 h8=>
 bp (bE (xX s 97 wl k rd) false true d [v7] h8) fun v9 hA=>
 cnd v9 (
 K .ret ⟨[c,d,g,j,e,e,p,o,e,v3,e,d,c,e,v5,v7,v9,e,I],hA⟩) (
 bm (aw s.P .add 3 e (.lit (.int .i64 1))) hA fun vA hB=>
 itX (xX s 97 wl k rd) IB n0 K n ⟨[(V.kill n0 c),(V.kill n0 d),(V.kill n0 g),(V.kill n0 j),(V.kill n0 l),(V.kill n0 e),(V.kill n0 p),(V.kill n0 o),(V.kill n0 vA),.junk,.junk,.junk,.junk,.junk,.junk,.junk,.junk,.junk,.junk],bN n0 hB⟩)) (
 K (.exit 0) ⟨[(V.kill n0 c),(V.kill n0 d),(V.kill n0 g),(V.kill n0 j),(V.kill n0 l),(V.kill n0 q),(V.kill n0 p),(V.kill n0 o),.junk,.junk,.junk,.junk,.junk,.junk,.junk,.junk,.junk,.junk,.junk],bN n0 h4⟩):=kI
theorem DK:au (xX s 97 wl k false) (ap s.P Tryz.f97) HO (.exit 0) ⟨[c,d,g,j,l,q,p,o,e,u,r,z,A,B,F,D,E,G,I],h⟩ =
 some ((.lit (.int .i64 (-1))),h):=kR
theorem lN (cx:Cx) (s:St):au cx K HO .ret s=K .ret s:=by kernel_rfl
-- names: abO,aaP,T6,DK,lN
theorem abC:ak (xX s 55 wl k false) Tryz.f55 [c,d] h =
 bp (yC s k wl 55 false true (.fn (.func 97) [] []) [c,d] h) fun v1 h2=>
 bm (aw s.P .geq 3 v1 (.lit (.int .i64 0))) h2 fun v3 h4=>
 some (v3,h4):=kB
theorem aes:evF Tryz.prog xM (k+1) wl 55 [c,d] h=ak (xX (xS k) 55 wl k false) Tryz.f55 [c,d] h:=by kernel_rfl
-- names: abC,
theorem Ov:ak (xX s 52 wl k false) Tryz.f52 [c,d] h =
 bp (yC s k wl 52 false true (.fn (.func 96) [] []) [c,d] h) fun v1 h2=>
 bm (aw s.P .geq 3 v1 (.lit (.int .i64 0))) h2 fun v3 h4=>
 some (v3,h4):=kB
theorem Rv:evF Tryz.prog xM (k+1) wl 52 [c,d] h=ak (xX (xS k) 52 wl k false) Tryz.f52 [c,d] h:=by kernel_rfl
-- names: Ov,
noncomputable def Bu:Code:=al (am Tryz.f96) [1,0,1,0,0]
noncomputable def Bq:List Fr:=[.block 0,.seq (al (am Tryz.f96) [1,1])]
theorem HL:ak (xX s 96 wl k false) Tryz.f96 [c,d] h =
 bp (a7 s.P 28 c h) fun v1 h2=>
 yI s k wl 96 Tryz.f96 Bu h2.length Bq k ⟨[(V.kill h2.length c),(V.kill h2.length d),(V.kill h2.length uu),(V.kill h2.length uu),(.lit (.int .i64 0)),(V.kill h2.length uu),(V.kill h2.length c),(V.kill h2.length v1),(.lit (.int .i64 0)),.junk,.junk,.junk,.junk,.junk,.junk,.junk,.junk,.junk,.junk],bN h2.length h2⟩:=kB
theorem J2:evF Tryz.prog xM (k+1) wl 96 [c,d] h=ak (xX (xS k) 96 wl k false) Tryz.f96 [c,d] h:=by kernel_rfl
theorem Iy (P:Program):ap P Tryz.f96 .ret ⟨[c,d,g,j,l,q,p,o,e,u,r,z,A,B,F,D,E,G,I],h⟩=some (l,h):=by kernel_rfl
theorem Je:itX (xX s 96 wl k rd) Bu n0 K (n+1) ⟨[c,d,g,j,l,q,p,o,e,u,r,z,A,B,F,D,E,G,I],h⟩ =
 bm (aw s.P .lss 3 e o) h fun v3 h4=>
 cnd v3 (
 bm (ai s.P 28 c e h4) h4 fun v5 h6=>
 bm (ab s.P 57 v5 h6) h6 fun v7 h8=>
 bp (bE (xX s 96 wl k rd) false true d [v7] h8) fun v9 hA=>
 cnd v9 (
 K .ret ⟨[c,d,g,j,e,e,p,o,e,v3,e,d,c,e,v5,v7,v9,e,I],hA⟩) (
 bm (aw s.P .add 3 e (.lit (.int .i64 1))) hA fun vA hB=>
 itX (xX s 96 wl k rd) Bu n0 K n ⟨[(V.kill n0 c),(V.kill n0 d),(V.kill n0 g),(V.kill n0 j),(V.kill n0 l),(V.kill n0 e),(V.kill n0 p),(V.kill n0 o),(V.kill n0 vA),.junk,.junk,.junk,.junk,.junk,.junk,.junk,.junk,.junk,.junk],bN n0 hB⟩)) (
 K (.exit 0) ⟨[(V.kill n0 c),(V.kill n0 d),(V.kill n0 g),(V.kill n0 j),(V.kill n0 l),(V.kill n0 q),(V.kill n0 p),(V.kill n0 o),.junk,.junk,.junk,.junk,.junk,.junk,.junk,.junk,.junk,.junk,.junk],bN n0 h4⟩):=kI
theorem kS:au (xX s 96 wl k false) (ap s.P Tryz.f96) Bq (.exit 0) ⟨[c,d,g,j,l,q,p,o,e,u,r,z,A,B,F,D,E,G,I],h⟩ =
 some ((.lit (.int .i64 (-1))),h):=kR
theorem cP (cx:Cx) (s:St):au cx K Bq .ret s=K .ret s:=by kernel_rfl
-- names: HL,Iy,Je,kS,cP
noncomputable def I4:Code:=al (am Tryz.f61) [1,0,1,0,0]
noncomputable def I2:List Fr:=[.block 0,.seq (al (am Tryz.f61) [1,1])]
theorem ag5:ak (xX s 61 wl k false) Tryz.f61 [c,d] h =
 bp (a7 s.P 53 c h) fun v1 h2=>
 yI s k wl 61 Tryz.f61 I4 h2.length I2 k ⟨[(V.kill h2.length c),(V.kill h2.length d),(V.kill h2.length uu),(V.kill h2.length uu),(.lit (.int .i64 0)),(V.kill h2.length uu),(V.kill h2.length c),(V.kill h2.length v1),(.lit (.int .i64 0)),.junk,.junk,.junk,.junk,.junk,.junk,.junk,.junk,.junk,.junk],bN h2.length h2⟩:=kB
theorem ai1:evF Tryz.prog xM (k+1) wl 61 [c,d] h=ak (xX (xS k) 61 wl k false) Tryz.f61 [c,d] h:=by kernel_rfl
theorem afp (P:Program):ap P Tryz.f61 .ret ⟨[c,d,g,j,l,q,p,o,e,u,r,z,A,B,F,D,E,G,I],h⟩=some (l,h):=by kernel_rfl
theorem SI:itX (xX s 61 wl k rd) I4 n0 K (n+1) ⟨[c,d,g,j,l,q,p,o,e,u,r,z,A,B,F,D,E,G,I],h⟩ =
 bm (aw s.P .lss 3 e o) h fun v3 h4=>
 cnd v3 (
 bm (ai s.P 53 c e h4) h4 fun v5 h6=>
 bm (ab s.P 3 v5 h6) h6 fun v7 h8=>
 bm (aw s.P .eql 3 d v7) h8 fun v9 hA=>
 cnd v9 (
 K .ret ⟨[c,d,g,j,e,e,p,o,e,v3,e,d,c,e,v5,v7,v9,e,I],hA⟩) (
 bm (aw s.P .add 3 e (.lit (.int .i64 1))) hA fun vA hB=>
 itX (xX s 61 wl k rd) I4 n0 K n ⟨[(V.kill n0 c),(V.kill n0 d),(V.kill n0 g),(V.kill n0 j),(V.kill n0 l),(V.kill n0 e),(V.kill n0 p),(V.kill n0 o),(V.kill n0 vA),.junk,.junk,.junk,.junk,.junk,.junk,.junk,.junk,.junk,.junk],bN n0 hB⟩)) (
 K (.exit 0) ⟨[(V.kill n0 c),(V.kill n0 d),(V.kill n0 g),(V.kill n0 j),(V.kill n0 l),(V.kill n0 q),(V.kill n0 p),(V.kill n0 o),.junk,.junk,.junk,.junk,.junk,.junk,.junk,.junk,.junk,.junk,.junk],bN n0 h4⟩):=kI
theorem NC:au (xX s 61 wl k false) (ap s.P Tryz.f61) I2 (.exit 0) ⟨[c,d,g,j,l,q,p,o,e,u,r,z,A,B,F,D,E,G,I],h⟩ =
 some ((.lit (.int .i64 (-1))),h):=kR
theorem pu (cx:Cx) (s:St):au cx K I2 .ret s=K .ret s:=by kernel_rfl
-- names: ag5,afp,SI,NC,pu
noncomputable def Mp:Code:=al (am Tryz.f101) [1,0,1,0,1,0]
noncomputable def uV:Code:=al (am Tryz.f101) [1,0,1,0,1,0,0]
noncomputable def wc:Code:=al (am Tryz.f101) [1,0,1,0,1,0,1]
noncomputable def pR:List Fr:=[.block 0,.seq (al (am Tryz.f101) [1,1])]
theorem pw:Mp= .rangeFunc (.tmp 10) #[11,12] uV wc:=by kernel_rfl
theorem RT:ak (xX s 101 wl k false) Tryz.f101 [c,d] h =
 bp (aP d h) fun v1 h2=>
 bp (av s.P 3 h2) fun v3 h4=>
 bp (yC s k wl 101 false true (.fn (.func 56) [] []) [c] h4) fun v5 h6=>
 cnd v5 (
 bp (yC s k wl 101 false true (.fn (.func 100) [] []) [c] h6) fun v7 h8=>
 bk (xX s 101 wl k false) Mp none (au (xX s 101 wl k false) (ap s.P Tryz.f101) pR) ⟨[c,d,uu,v1,v3,uu,uu,c,v5,c,v7,uu,uu,uu,uu,uu,uu],h8⟩) (
 bs (aj s.P wl 3 v3 (.lit (.int .i64 (-1))) h6) fun h9=>
 ew [ab s.P 3 v3 h9] h9):=kB
theorem Vl:evF Tryz.prog xM (k+1) wl 101 [c,d] h=ak (xX (xS k) 101 wl k false) Tryz.f101 [c,d] h:=by kernel_rfl
theorem PX (P:Program):ap P Tryz.f101 .ret ⟨[c,d,g,j,l,q,p,o,e,u,r,z,A,B,F,D,E],h⟩=ew [ab P 3 l h] h:=by kernel_rfl
theorem C1:au (xX s 101 wl k false) (ap s.P Tryz.f101) pR .norm ⟨(c::d::g::j::l::zz),h⟩ =
 bs (aj s.P wl 3 l (.lit (.int .i64 (-1))) h) fun hA=>
 ew [ab s.P 3 l hA] hA:=kR
theorem ep:au (xX s 101 wl k rd) K [.seq wc] .norm ⟨[c,d,g,j,l,q,p,o,e,u,r,z,A,B,F,D,E],h⟩ =
 bm (ab s.P 3 j h) h fun vA hB=>
 bm (aw s.P .eql 3 q vA) hB fun vB hD=>
 cnd vB (
 bs (aj s.P wl 3 l p hD) fun hN=>
 K .ret ⟨[c,d,g,j,l,q,p,o,e,u,r,z,A,q,vA,vB,p],hN⟩) (
 K .norm ⟨[c,d,g,j,l,q,p,o,e,u,r,z,A,q,vA,vB,E],hD⟩):=kR
theorem eu:au (xX s 101 wl k rd) K [.seq uV] .norm ⟨[c,d,g,j,l,q,p,o,e,u,r,z,A,B,F,D,E],h⟩ =
 K .norm ⟨[c,d,g,j,l,z,A,o,e,u,r,z,A,B,F,D,E],h⟩:=kR
theorem mi (cx:Cx) (s:St):au cx K pR .ret s=K .ret s:=by kernel_rfl
-- names: RT,PX,C1,ep,eu,mi
-- range over a function at [1,0,1,0,1,0]
end
end Go.Ab
set_option maxRecDepth 100000
set_option linter.unusedVariables false
namespace Go.Ab
open Go.Proofs
section
variable (s:Sys) (k wl:Nat) (m0:Nat) (ac:List Nat×List Nat) (c d e o g y p l j v r u z q A D E F B L G M N I O J Q R U W T t2 t3 t4 Y Z t0 t1 t7 t5 t8 t9 t6 X ta tb tc td te tf tg th ti tj:V) (h:Hp) (K:Out→St→Option (V×Hp)) (rd:Bool) (n n0:Nat) (zz:List V)
theorem ajt:ak (xX s 92 wl k false) Tryz.f92 [c,d] h =
 bp (yC s k wl 92 false true (.fn (.func 145) [] []) [c,d] h) fun v1 h2=>
 some (v1,h2):=kB
theorem akJ:evF Tryz.prog xM (k+1) wl 92 [c,d] h=ak (xX (xS k) 92 wl k false) Tryz.f92 [c,d] h:=by kernel_rfl
-- names: ajt,
noncomputable def CD:Code:=al (am Tryz.f145) [1,1,0,1,0,0]
noncomputable def C5:List Fr:=[.block 0,.seq (al (am Tryz.f145) [1,1,1])]
theorem VA:ak (xX s 145 wl k false) Tryz.f145 [c,d] h =
 bp (a7 s.P 63 c h) fun v1 h2=>
 bp (a7 s.P 63 d h2) fun v3 h4=>
 bm (aw s.P .neq 3 v1 v3) h4 fun v5 h6=>
 cnd v5 (
 some ((.lit (.bool false)),h6)) (
 bp (a7 s.P 63 c h6) fun v7 h8=>
 yI s k wl 145 Tryz.f145 CD h8.length C5 k ⟨[(V.kill h8.length c),(V.kill h8.length d),(V.kill h8.length uu),(V.kill h8.length uu),(.lit (.bool false)),(V.kill h8.length uu),(V.kill h8.length c),(V.kill h8.length v1),(V.kill h8.length d),(V.kill h8.length v3),(V.kill h8.length v5),(V.kill h8.length c),(V.kill h8.length v7),(.lit (.int .i64 0)),.junk,.junk,.junk,.junk,.junk,.junk,.junk,.junk,.junk,.junk,.junk,.junk],bN h8.length h8⟩):=kB
theorem ZJ:evF Tryz.prog xM (k+1) wl 145 [c,d] h=ak (xX (xS k) 145 wl k false) Tryz.f145 [c,d] h:=by kernel_rfl
theorem YF (P:Program):ap P Tryz.f145 .ret ⟨[c,d,e,o,g,y,p,l,j,v,r,u,z,q,A,D,E,F,B,L,G,M,N,I,O,J],h⟩=some (g,h):=by kernel_rfl
theorem Lb:itX (xX s 145 wl k rd) CD n0 K (n+1) ⟨[c,d,e,o,g,y,p,l,j,v,r,u,z,q,A,D,E,F,B,L,G,M,N,I,O,J],h⟩ =
 bm (aw s.P .lss 3 q z) h fun v9 hA=>
 cnd v9 (
 bm (ai s.P 63 c q hA) hA fun vA hB=>
 bm (ab s.P 129 vA hB) hB fun vB hD=>
 bm (ai s.P 63 d q hD) hD fun vC hE=>
 bm (ab s.P 129 vC hE) hE fun vD hF=>
 bm (aw s.P .neq 129 vB vD) hF fun vG hH=>
 cnd vG (
 K .ret ⟨[c,d,e,o,(.lit (.bool false)),q,p,l,j,v,r,u,z,q,v9,q,c,q,vA,vB,d,q,vC,vD,vG,J],hH⟩) (
 bm (aw s.P .add 3 q (.lit (.int .i64 1))) hH fun vF hI=>
 itX (xX s 145 wl k rd) CD n0 K n ⟨[(V.kill n0 c),(V.kill n0 d),(V.kill n0 e),(V.kill n0 o),(V.kill n0 g),(V.kill n0 q),(V.kill n0 p),(V.kill n0 l),(V.kill n0 j),(V.kill n0 v),(V.kill n0 r),(V.kill n0 u),(V.kill n0 z),(V.kill n0 vF),.junk,.junk,.junk,.junk,.junk,.junk,.junk,.junk,.junk,.junk,.junk,.junk],bN n0 hI⟩)) (
 K (.exit 0) ⟨[(V.kill n0 c),(V.kill n0 d),(V.kill n0 e),(V.kill n0 o),(V.kill n0 g),(V.kill n0 y),(V.kill n0 p),(V.kill n0 l),(V.kill n0 j),(V.kill n0 v),(V.kill n0 r),(V.kill n0 u),(V.kill n0 z),.junk,.junk,.junk,.junk,.junk,.junk,.junk,.junk,.junk,.junk,.junk,.junk,.junk],bN n0 hA⟩):=kI
theorem FG:au (xX s 145 wl k false) (ap s.P Tryz.f145) C5 (.exit 0) ⟨[c,d,e,o,g,y,p,l,j,v,r,u,z,q,A,D,E,F,B,L,G,M,N,I,O,J],h⟩ =
 some ((.lit (.bool true)),h):=kR
theorem nE (cx:Cx) (s:St):au cx K C5 .ret s=K .ret s:=by kernel_rfl
-- names: VA,YF,Lb,FG,nE
noncomputable def Cv:Code:=al (am Tryz.f146) [1,0]
noncomputable def uI:List Fr:=[.seq (al (am Tryz.f146) [1,1])]
theorem WI:ak (xX s 146 wl k false) Tryz.f146 [c,d] h =
 bp (aP c h) fun v1 h2=>
 bm (ab s.P 24 v1 h2) h2 fun v3 h4=>
 bp (yC s k wl 146 false true (.fn (.func 56) [] []) [v3] h4) fun v5 h6=>
 gd v5 (
 bp (yC s k wl 146 false true (.fn (.func 170) [] []) [d,(.fn (.func 171) [] [v1])] h6) fun v7 h8=>
 bm (vUn .not v7) h8 fun v9 hA=>
 yO s k wl 146 Tryz.f146 Cv 7 h2.length ([],[]) uI ⟨[c,d,v1,uu,(.lit (.bool false)),v3,v5,(.lit (.bool true)),d,(.fn (.func 171) [] [v1]),v7,v9,uu],hA⟩) (
 yO s k wl 146 Tryz.f146 Cv 7 h2.length ([],[]) uI ⟨[c,d,v1,uu,(.lit (.bool false)),v3,v5,(.lit (.bool false)),uu,uu,uu,uu,uu],h6⟩) (
 yO s k wl 146 Tryz.f146 Cv 4 h2.length ([],[]) uI ⟨[c,d,v1,uu,(.lit (.bool false)),v3,v5,v5,uu,uu,uu,uu,uu],h6⟩):=kB
theorem ab2:evF Tryz.prog xM (k+1) wl 146 [c,d] h=ak (xX (xS k) 146 wl k false) Tryz.f146 [c,d] h:=by kernel_rfl
theorem G4:yO s k wl 146 Tryz.f146 Cv 7 m0 ac uI ⟨[c,d,e,o,g,y,p,l,j,v,r,u,z],h⟩ =
 bm (aR l u (.lit (.bool false))) h fun vA hB=>
 some (vA,hB):=kG
theorem oj (cx:Cx) (s:St):au cx K uI .ret s=K .ret s:=by kernel_rfl
-- names: WI,G4,oj
noncomputable def C8:Code:=al (am Tryz.f162) [1,0,0]
noncomputable def uW:List Fr:=[.seq (al (am Tryz.f162) [1,0,1]),.seq (al (am Tryz.f162) [1,1])]
theorem ab1:ak (xX s 162 wl k false) Tryz.f162 [c,d] h =
 bp (av s.P 194 h) fun v1 h2=>
 bp (a7 s.P 63 d h2) fun v3 h4=>
 bm (aw s.P .eql 3 v3 (.lit (.int .i64 0))) h4 fun v5 h6=>
 gd v5 (
 yO s k wl 162 Tryz.f162 C8 8 h2.length ([],[]) uW ⟨[c,d,uu,uu,v1,uu,uu,d,v3,v5,(.lit (.bool true)),uu,uu,uu,uu,uu,uu,uu,uu,uu,uu,uu,uu,uu,uu,uu,uu,uu,uu,uu,uu,uu,uu,uu,uu,uu,uu,uu,uu,uu,uu,uu,uu,uu,uu,uu,uu,uu,uu,uu,uu,uu,uu,uu],h6⟩) (
 bp (yC s k wl 162 false true (.fn (.func 146) [] []) [c,d] h6) fun v7 h8=>
 bm (vUn .not v7) h8 fun v9 hA=>
 yO s k wl 162 Tryz.f162 C8 8 h2.length ([],[]) uW ⟨[c,d,uu,uu,v1,uu,uu,d,v3,v5,(.lit (.bool false)),c,d,v7,v9,uu,uu,uu,uu,uu,uu,uu,uu,uu,uu,uu,uu,uu,uu,uu,uu,uu,uu,uu,uu,uu,uu,uu,uu,uu,uu,uu,uu,uu,uu,uu,uu,uu,uu,uu,uu,uu,uu,uu],hA⟩) (
 yO s k wl 162 Tryz.f162 C8 5 h2.length ([],[]) uW ⟨[c,d,uu,uu,v1,uu,uu,d,v3,v5,v5,uu,uu,uu,uu,uu,uu,uu,uu,uu,uu,uu,uu,uu,uu,uu,uu,uu,uu,uu,uu,uu,uu,uu,uu,uu,uu,uu,uu,uu,uu,uu,uu,uu,uu,uu,uu,uu,uu,uu,uu,uu,uu,uu],h6⟩):=kB
theorem ah8:evF Tryz.prog xM (k+1) wl 162 [c,d] h=ak (xX (xS k) 162 wl k false) Tryz.f162 [c,d] h:=by kernel_rfl
theorem Oa:yO s k wl 162 Tryz.f162 C8 8 m0 ac uW ⟨[c,d,e,o,g,y,p,l,j,v,r,u,z,q,A,D,E,F,B,L,G,M,N,I,O,J,Q,R,U,W,T,t2,t3,t4,Y,Z,t0,t1,t7,t5,t8,t9,t6,X,ta,tb,tc,td,te,tf,tg,th,ti,tj],h⟩ =
 bm (aR r (.lit (.bool true)) A) h fun vA hB=>
 cnd vA (
 bm (bf s.P 194 []) hB fun vB hD=>
 bs (aj s.P wl 194 g vB hD) fun hN=>
 ew [ab s.P 194 g hN] hN) (
 bp (a7 s.P 63 d hB) fun vQ hG=>
 bm (aw s.P .sub 3 vQ (.lit (.int .i64 1))) hG fun vE hC=>
 bm (ai s.P 63 d vE hC) hC fun vK hL=>
 bm (ab s.P 129 vK hL) hL fun vL hM=>
 bp (av s.P 129 hM) fun vH hO=>
 bs (aj s.P wl 129 vH vL hO) fun hK=>
 bm (aa s.P 129 vH 0) hK fun vI hP=>
 bm (ab s.P 3 vI hP) hP fun vN hQ=>
 bm (ai s.P 24 c vN hQ) hQ fun vS hX=>
 bm (ab s.P 101 vS hX) hX fun vm hs=>
 bp (av s.P 101 hs) fun vo hc=>
 bs (aj s.P wl 101 vo vm hc) fun hq=>
 bm (aa s.P 129 vH 1) hq fun vX hg=>
 bm (ab s.P 3 vX hg) hg fun vP hW=>
 bm (aa s.P 101 vo 0) hW fun vc hb=>
 bm (ab s.P 3 vc hb) hb fun vd hh=>
 bm (aw s.P .lss 3 vP vd) hh fun vl hd=>
 cnd vl (
 bm (aa s.P 129 vH 0) hd fun vY hT=>
 bm (ab s.P 3 vY hT) hT fun vp hj=>
 bm (bf s.P 194 [(0,(.lit (.int .i64 1))),(1,vp)]) hj fun vU hu=>
 bs (aj s.P wl 194 g vU hu) fun he=>
 ew [ab s.P 194 g he] he) (
 bm (aa s.P 129 vH 2) hd fun vv h56=>
 bm (ab s.P 3 vv h56) h56 fun v57 h58=>
 bm (aa s.P 101 vo 1) h58 fun ve hk=>
 bm (ab s.P 53 ve hk) hk fun vw h62=>
 bp (a7 s.P 53 vw h62) fun vx hl=>
 bm (aw s.P .lss 3 v57 vx) hl fun vV hf=>
 cnd vV (
 bm (aa s.P 101 vo 1) hf fun vy h68=>
 bm (ab s.P 53 vy h68) h68 fun vz hv=>
 bm (aa s.P 129 vH 2) hv fun vf hm=>
 bm (ab s.P 3 vf hm) hm fun v73 h74=>
 bm (ai s.P 53 vz v73 h74) h74 fun v75 h76=>
 bm (ab s.P 3 v75 h76) h76 fun v77 h78=>
 bm (bf s.P 194 [(0,(.lit (.int .i64 2))),(1,v77)]) h78 fun v79 h80=>
 bs (aj s.P wl 194 g v79 h80) fun h81=>
 ew [ab s.P 194 g h81] h81) (
 bm (aa s.P 129 vH 0) hf fun v82 h83=>
 bm (ab s.P 3 v82 h83) h83 fun v84 h85=>
 bm (bf s.P 194 [(0,(.lit (.int .i64 3))),(1,v84)]) h85 fun v86 h87=>
 bs (aj s.P wl 194 g v86 h87) fun hn=>
 ew [ab s.P 194 g hn] hn))):=kG
theorem Aa (cx:Cx) (s:St):au cx K uW .ret s=K .ret s:=by kernel_rfl
-- names: ab1,Oa,Aa
theorem acb:ak (xX s 163 wl k false) Tryz.f163 [c,d] h =
 bp (some (.own h.length 0 0,h++[.rows 0 [] 0 true])) fun v1 h2=>
 bp (yC s k wl 163 false true (.fn (.func 79) [] []) [d] h2) fun v3 h4=>
 bp (yC s k wl 163 false true (.fn (.func 182) [] []) [] h4) fun v5 h6=>
 bp (yC s k wl 163 false true (.fn (.func 162) [] []) [c,d] h6) fun v7 h8=>
 bm (wx s.P 194 v7 0) h8 fun v9 hA=>
 bm (gD s.P 201 v5 v9 true hA) hA fun vA hB=>
 bm (aq vA 0) hB fun vB hD=>
 bm (aq vA 1) hD fun vC hE=>
 cnd vC (
 bp (yC s k wl 163 false true vB [v3] hE) fun vD hF=>
 some (vD,hF)) (
 some (v3,hE)):=kB
theorem afS:evF Tryz.prog xM (k+1) wl 163 [c,d] h=ak (xX (xS k) 163 wl k false) Tryz.f163 [c,d] h:=by kernel_rfl
-- names: acb,
theorem YD:ak (xX s 170 wl k false) Tryz.f170 [c,d] h =
 bp (yC s k wl 170 false true (.fn (.func 206) [] []) [c,d] h) fun v1 h2=>
 bm (aw s.P .geq 3 v1 (.lit (.int .i64 0))) h2 fun v3 h4=>
 some (v3,h4):=kB
theorem aah:evF Tryz.prog xM (k+1) wl 170 [c,d] h=ak (xX (xS k) 170 wl k false) Tryz.f170 [c,d] h:=by kernel_rfl
-- names: YD,
noncomputable def cZ:Code:=al (am Tryz.f171) [1,1,1,0]
noncomputable def cR:List Fr:=[.seq (al (am Tryz.f171) [1,1,1,1])]
theorem UP:ak (xX s 171 wl k false) Tryz.f171 [c,d] h =
 bp (aP c h) fun v1 h2=>
 bm (aa s.P 129 v1 0) h2 fun v3 h4=>
 bm (ab s.P 3 v3 h4) h4 fun v5 h6=>
 bm (ab s.P 24 d h6) h6 fun v7 h8=>
 bp (a7 s.P 24 v7 h8) fun v9 hA=>
 bm (aw s.P .sub 3 v9 (.lit (.int .i64 1))) hA fun vA hB=>
 bp (yC s k wl 171 false true (.fn (.func 172) [] []) [v5,vA] hB) fun vB hD=>
 bm (vUn .not vB) hD fun vC hE=>
 cnd vC (
 some ((.lit (.bool true)),hE)) (
 bm (ab s.P 24 d hE) hE fun vD hF=>
 bm (aa s.P 129 v1 0) hF fun vG hH=>
 bm (ab s.P 3 vG hH) hH fun vF hI=>
 bm (ai s.P 24 vD vF hI) hI fun vJ hJ=>
 bm (ab s.P 101 vJ hJ) hJ fun vM hK=>
 bp (av s.P 101 hK) fun vI hP=>
 bs (aj s.P wl 101 vI vM hP) fun hU=>
 bm (aa s.P 129 v1 1) hU fun vT hV=>
 bm (ab s.P 3 vT hV) hV fun vO hR=>
 bm (aa s.P 101 vI 0) hR fun vR ha=>
 bm (ab s.P 3 vR ha) ha fun vb hq=>
 bp (yC s k wl 171 false true (.fn (.func 172) [] []) [vO,vb] hq) fun vX hg=>
 bm (vUn .not vX) hg fun vP hW=>
 gd vP (
 yO s k wl 171 Tryz.f171 cZ 14 hU.length ([],[]) cR ⟨[c,d,v1,(.lit (.bool false)),vI,v3,v5,v7,v9,vA,vB,vC,vD,vG,vF,vJ,vM,vT,vO,vR,vb,vX,vP,(.lit (.bool true)),uu,uu,uu,uu,uu,uu,uu,uu,uu,uu,uu,uu,uu,uu,uu,uu,uu,uu,uu,uu],hW⟩) (
 bm (aa s.P 129 v1 2) hW fun vc hb=>
 bm (ab s.P 3 vc hb) hb fun vd hh=>
 bm (aa s.P 101 vI 1) hh fun vl hd=>
 bm (ab s.P 53 vl hd) hd fun vY hT=>
 bp (a7 s.P 53 vY hT) fun vp hj=>
 bp (yC s k wl 171 false true (.fn (.func 172) [] []) [vd,vp] hj) fun vU hu=>
 bm (vUn .not vU) hu fun v54 hi=>
 yO s k wl 171 Tryz.f171 cZ 14 hU.length ([],[]) cR ⟨[c,d,v1,(.lit (.bool false)),vI,v3,v5,v7,v9,vA,vB,vC,vD,vG,vF,vJ,vM,vT,vO,vR,vb,vX,vP,(.lit (.bool false)),vc,vd,vl,vY,vp,vU,v54,uu,uu,uu,uu,uu,uu,uu,uu,uu,uu,uu,uu,uu],hi⟩) (
 yO s k wl 171 Tryz.f171 cZ 8 hU.length ([],[]) cR ⟨[c,d,v1,(.lit (.bool false)),vI,v3,v5,v7,v9,vA,vB,vC,vD,vG,vF,vJ,vM,vT,vO,vR,vb,vX,vP,vP,uu,uu,uu,uu,uu,uu,uu,uu,uu,uu,uu,uu,uu,uu,uu,uu,uu,uu,uu,uu],hW⟩)):=kB
theorem Z2:evF Tryz.prog xM (k+1) wl 171 [c,d] h=ak (xX (xS k) 171 wl k false) Tryz.f171 [c,d] h:=by kernel_rfl
theorem GG:yO s k wl 171 Tryz.f171 cZ 14 m0 ac cR ⟨[c,d,e,o,g,y,p,l,j,v,r,u,z,q,A,D,E,F,B,L,G,M,N,I,O,J,Q,R,U,W,T,t2,t3,t4,Y,Z,t0,t1,t7,t5,t8,t9,t6,X],h⟩ =
 bm (aR I (.lit (.bool true)) T) h fun vg ho=>
 gd vg (
 yO s k wl 171 Tryz.f171 cZ 26 m0 ac cR ⟨[c,d,e,o,g,y,p,l,j,v,r,u,z,q,A,D,E,F,B,L,G,M,N,I,O,J,Q,R,U,W,T,vg,(.lit (.bool true)),uu,uu,uu,uu,uu,uu,uu,uu,uu,uu,X],ho⟩) (
 bm (aa s.P 129 e 1) ho fun v58 hw=>
 bm (ab s.P 3 v58 hw) hw fun v60 h61=>
 bm (aa s.P 101 g 0) h61 fun va h63=>
 bm (ab s.P 3 va h63) h63 fun v64 h65=>
 bm (aw s.P .lss 3 v60 v64) h65 fun v66 h67=>
 yO s k wl 171 Tryz.f171 cZ 22 m0 ac cR ⟨[c,d,e,o,g,y,p,l,j,v,r,u,z,q,A,D,E,F,B,L,G,M,N,I,O,J,Q,R,U,W,T,vg,(.lit (.bool false)),v58,v60,va,v64,v66,v66,t5,t8,t9,t6,X],h67⟩) (
 yO s k wl 171 Tryz.f171 cZ 17 m0 ac cR ⟨[c,d,e,o,g,y,p,l,j,v,r,u,z,q,A,D,E,F,B,L,G,M,N,I,O,J,Q,R,U,W,T,vg,vg,uu,Y,Z,t0,t1,t7,t5,t8,t9,t6,X],ho⟩):=kG
theorem Gc:yO s k wl 171 Tryz.f171 cZ 26 m0 ac cR ⟨[c,d,e,o,g,y,p,l,j,v,r,u,z,q,A,D,E,F,B,L,G,M,N,I,O,J,Q,R,U,W,T,t2,t3,t4,Y,Z,t0,t1,t7,t5,t8,t9,t6,X],h⟩ =
 bm (aR t3 (.lit (.bool true)) t6) h fun vh h69=>
 some (vh,h69):=kG
theorem Hn:yO s k wl 171 Tryz.f171 cZ 22 m0 ac cR ⟨[c,d,e,o,g,y,p,l,j,v,r,u,z,q,A,D,E,F,B,L,G,M,N,I,O,J,Q,R,U,W,T,t2,t3,t4,Y,Z,t0,t1,t7,t5,t8,t9,t6,X],h⟩ =
 gd t7 (
 bm (aa s.P 129 e 2) h fun v70 h71=>
 bm (ab s.P 3 v70 h71) h71 fun v72 h73=>
 bm (aw s.P .gtr 3 v72 (.lit (.int .i64 0))) h73 fun v74 h75=>
 yO s k wl 171 Tryz.f171 cZ 25 m0 ac cR ⟨[c,d,e,o,g,y,p,l,j,v,r,u,z,q,A,D,E,F,B,L,G,M,N,I,O,J,Q,R,U,W,T,t2,t3,t4,Y,Z,t0,t1,(.lit (.bool true)),v70,v72,v74,t6,X],h75⟩) (
 yO s k wl 171 Tryz.f171 cZ 25 m0 ac cR ⟨[c,d,e,o,g,y,p,l,j,v,r,u,z,q,A,D,E,F,B,L,G,M,N,I,O,J,Q,R,U,W,T,t2,t3,t4,Y,Z,t0,t1,(.lit (.bool false)),uu,uu,uu,t6,X],h⟩) (
 yO s k wl 171 Tryz.f171 cZ 23 m0 ac cR ⟨[c,d,e,o,g,y,p,l,j,v,r,u,z,q,A,D,E,F,B,L,G,M,N,I,O,J,Q,R,U,W,T,t2,t3,t4,Y,Z,t0,t1,t7,uu,t8,t9,t6,X],h⟩):=kG
theorem GS:yO s k wl 171 Tryz.f171 cZ 25 m0 ac cR ⟨[c,d,e,o,g,y,p,l,j,v,r,u,z,q,A,D,E,F,B,L,G,M,N,I,O,J,Q,R,U,W,T,t2,t3,t4,Y,Z,t0,t1,t7,t5,t8,t9,t6,X],h⟩ =
 gd t3 (
 yO s k wl 171 Tryz.f171 cZ 26 m0 ac cR ⟨[c,d,e,o,g,y,p,l,j,v,r,u,z,q,A,D,E,F,B,L,G,M,N,I,O,J,Q,R,U,W,T,t2,(.lit (.bool true)),t4,Y,Z,t0,t1,t7,t5,t8,t9,uu,X],h⟩) (
 bm (aR t7 t9 (.lit (.bool false))) h fun v76 h77=>
 yO s k wl 171 Tryz.f171 cZ 26 m0 ac cR ⟨[c,d,e,o,g,y,p,l,j,v,r,u,z,q,A,D,E,F,B,L,G,M,N,I,O,J,Q,R,U,W,T,t2,(.lit (.bool false)),t4,Y,Z,t0,t1,t7,t5,t8,t9,v76,X],h77⟩) (
 yO s k wl 171 Tryz.f171 cZ 26 m0 ac cR ⟨[c,d,e,o,g,y,p,l,j,v,r,u,z,q,A,D,E,F,B,L,G,M,N,I,O,J,Q,R,U,W,T,t2,t3,t4,Y,Z,t0,t1,t7,t5,t8,t9,uu,X],h⟩):=kG
theorem Gv:yO s k wl 171 Tryz.f171 cZ 23 m0 ac cR ⟨[c,d,e,o,g,y,p,l,j,v,r,u,z,q,A,D,E,F,B,L,G,M,N,I,O,J,Q,R,U,W,T,t2,t3,t4,Y,Z,t0,t1,t7,t5,t8,t9,t6,X],h⟩ =
 gd t7 (
 bm (ab s.P 3 t5 h) h fun v78 h79=>
 bm (aw s.P .gtr 3 v78 (.lit (.int .i64 0))) h79 fun v80 h81=>
 yO s k wl 171 Tryz.f171 cZ 25 m0 ac cR ⟨[c,d,e,o,g,y,p,l,j,v,r,u,z,q,A,D,E,F,B,L,G,M,N,I,O,J,Q,R,U,W,T,t2,t3,t4,Y,Z,t0,t1,(.lit (.bool true)),t5,v78,v80,t6,X],h81⟩) (
 yO s k wl 171 Tryz.f171 cZ 25 m0 ac cR ⟨[c,d,e,o,g,y,p,l,j,v,r,u,z,q,A,D,E,F,B,L,G,M,N,I,O,J,Q,R,U,W,T,t2,t3,t4,Y,Z,t0,t1,(.lit (.bool false)),t5,uu,uu,t6,X],h⟩) (
 yO s k wl 171 Tryz.f171 cZ 24 m0 ac cR ⟨[c,d,e,o,g,y,p,l,j,v,r,u,z,q,A,D,E,F,B,L,G,M,N,I,O,J,Q,R,U,W,T,t2,t3,t4,Y,Z,t0,t1,t7,t5,uu,t9,t6,X],h⟩):=kG
theorem Gd:yO s k wl 171 Tryz.f171 cZ 24 m0 ac cR ⟨[c,d,e,o,g,y,p,l,j,v,r,u,z,q,A,D,E,F,B,L,G,M,N,I,O,J,Q,R,U,W,T,t2,t3,t4,Y,Z,t0,t1,t7,t5,t8,t9,t6,X],h⟩ =
 gd t7 (
 bm (aw s.P .gtr 3 t8 (.lit (.int .i64 0))) h fun v82 h83=>
 yO s k wl 171 Tryz.f171 cZ 25 m0 ac cR ⟨[c,d,e,o,g,y,p,l,j,v,r,u,z,q,A,D,E,F,B,L,G,M,N,I,O,J,Q,R,U,W,T,t2,t3,t4,Y,Z,t0,t1,(.lit (.bool true)),t5,t8,v82,t6,X],h83⟩) (
 yO s k wl 171 Tryz.f171 cZ 25 m0 ac cR ⟨[c,d,e,o,g,y,p,l,j,v,r,u,z,q,A,D,E,F,B,L,G,M,N,I,O,J,Q,R,U,W,T,t2,t3,t4,Y,Z,t0,t1,(.lit (.bool false)),t5,t8,uu,t6,X],h⟩) (
 yO s k wl 171 Tryz.f171 cZ 25 m0 ac cR ⟨[c,d,e,o,g,y,p,l,j,v,r,u,z,q,A,D,E,F,B,L,G,M,N,I,O,J,Q,R,U,W,T,t2,t3,t4,Y,Z,t0,t1,t7,t5,t8,uu,t6,X],h⟩):=kG
theorem nW (cx:Cx) (s:St):au cx K cR .ret s=K .ret s:=by kernel_rfl
-- names: UP,GG,Gc,Hn,GS,Gv,Gd,nW
noncomputable def C6:Code:=al (am Tryz.f172) [1,0]
noncomputable def wT:List Fr:=[.seq (al (am Tryz.f172) [1,1])]
theorem aaB:ak (xX s 172 wl k false) Tryz.f172 [c,d] h =
 bm (aw s.P .geq 3 c (.lit (.int .i64 0))) h fun v1 h2=>
 gd v1 (
 bm (aw s.P .leq 3 c d) h2 fun v3 h4=>
 yO s k wl 172 Tryz.f172 C6 6 h.length ([],[]) wT ⟨[c,d,uu,uu,(.lit (.bool false)),c,v1,(.lit (.bool true)),c,d,v3,uu],h4⟩) (
 yO s k wl 172 Tryz.f172 C6 6 h.length ([],[]) wT ⟨[c,d,uu,uu,(.lit (.bool false)),c,v1,(.lit (.bool false)),uu,uu,uu,uu],h2⟩) (
 yO s k wl 172 Tryz.f172 C6 4 h.length ([],[]) wT ⟨[c,d,uu,uu,(.lit (.bool false)),c,v1,v1,uu,uu,uu,uu],h2⟩):=kB
theorem aiC:evF Tryz.prog xM (k+1) wl 172 [c,d] h=ak (xX (xS k) 172 wl k false) Tryz.f172 [c,d] h:=by kernel_rfl
theorem LN:yO s k wl 172 Tryz.f172 C6 6 m0 ac wT ⟨[c,d,e,o,g,y,p,l,j,v,r,u],h⟩ =
 bm (aR l r (.lit (.bool false))) h fun v5 h6=>
 some (v5,h6):=kG
theorem wU (cx:Cx) (s:St):au cx K wT .ret s=K .ret s:=by kernel_rfl
-- names: aaB,LN,wU
noncomputable def Cl:Code:=al (am Tryz.f181) [1,1,0,0]
noncomputable def uQ:List Fr:=[.seq (al (am Tryz.f181) [1,1,0,1]),.seq (al (am Tryz.f181) [1,1,1])]
theorem aas:ak (xX s 181 wl k false) Tryz.f181 [c,d,e] h =
 bp (some (.own h.length 0 0,h++[.rows 0 [] 0 true])) fun v1 h2=>
 bp (yC s k wl 181 false true (.fn (.func 79) [] []) [d] h2) fun v3 h4=>
 bp (yC s k wl 181 false true (.fn (.func 146) [] []) [c,d] h4) fun v5 h6=>
 bm (vUn .not v5) h6 fun v7 h8=>
 gd v7 (
 yO s k wl 181 Tryz.f181 Cl 11 h4.length ([],[]) uQ ⟨[c,d,e,uu,uu,uu,v1,v3,d,v3,c,d,v5,v7,(.lit (.bool true)),uu,uu,uu,uu,uu,uu,uu,uu,uu,uu,uu,uu,uu],h8⟩) (
 bp (a7 s.P 24 c h8) fun v9 hA=>
 bm (aw s.P .sub 3 v9 (.lit (.int .i64 1))) hA fun vA hB=>
 bp (yC s k wl 181 false true (.fn (.func 172) [] []) [e,vA] hB) fun vB hD=>
 bm (vUn .not vB) hD fun vC hE=>
 yO s k wl 181 Tryz.f181 Cl 11 h4.length ([],[]) uQ ⟨[c,d,e,uu,uu,uu,v1,v3,d,v3,c,d,v5,v7,(.lit (.bool false)),e,c,v9,vA,vB,vC,uu,uu,uu,uu,uu,uu,uu],hE⟩) (
 yO s k wl 181 Tryz.f181 Cl 6 h4.length ([],[]) uQ ⟨[c,d,e,uu,uu,uu,v1,v3,d,v3,c,d,v5,v7,v7,uu,uu,uu,uu,uu,uu,uu,uu,uu,uu,uu,uu,uu],h8⟩):=kB
theorem afd:evF Tryz.prog xM (k+1) wl 181 [c,d,e] h=ak (xX (xS k) 181 wl k false) Tryz.f181 [c,d,e] h:=by kernel_rfl
theorem Ol:yO s k wl 181 Tryz.f181 Cl 11 m0 ac uQ ⟨[c,d,e,o,g,y,p,l,j,v,r,u,z,q,A,D,E,F,B,L,G,M,N,I,O,J,Q,R],h⟩ =
 bm (aR A (.lit (.bool true)) G) h fun vD hF=>
 cnd vD (
 some (l,hF)) (
 bm (bf s.P 129 [(0,e)]) hF fun vG hH=>
 bp (aB s.P wl 63 1 [(0,vG)] hH) fun vF hI=>
 bp (kQ s.P wl 63 63 l vF hI) fun vJ hJ=>
 some (vJ,hJ)):=kG
theorem wQ (cx:Cx) (s:St):au cx K uQ .ret s=K .ret s:=by kernel_rfl
-- names: aas,Ol,wQ
theorem aa9:ak (xX s 182 wl k false) Tryz.f182 [] h =
 bp (some (.map h.length,h++[.map []])) fun v1 h2=>
 bs (fe s.P wl 201 v1 (.lit (.int .i64 1)) (.fn (.func 210) [] []) h2) fun h3=>
 bs (fe s.P wl 201 v1 (.lit (.int .i64 2)) (.fn (.func 211) [] []) h3) fun h4=>
 bs (fe s.P wl 201 v1 (.lit (.int .i64 3)) (.fn (.func 212) [] []) h4) fun h5=>
 some (v1,h5):=kB
theorem agq:evF Tryz.prog xM (k+1) wl 182 [] h=ak (xX (xS k) 182 wl k false) Tryz.f182 [] h:=by kernel_rfl
-- names: aa9,
noncomputable def Cc:Code:=al (am Tryz.f206) [1,0,1,0,0]
noncomputable def CO:List Fr:=[.block 0,.seq (al (am Tryz.f206) [1,1])]
theorem VJ:ak (xX s 206 wl k false) Tryz.f206 [c,d] h =
 bp (a7 s.P 63 c h) fun v1 h2=>
 yI s k wl 206 Tryz.f206 Cc h2.length CO k ⟨[(V.kill h2.length c),(V.kill h2.length d),(V.kill h2.length uu),(V.kill h2.length uu),(.lit (.int .i64 0)),(V.kill h2.length uu),(V.kill h2.length c),(V.kill h2.length v1),(.lit (.int .i64 0)),.junk,.junk,.junk,.junk,.junk,.junk,.junk,.junk,.junk,.junk],bN h2.length h2⟩:=kB
theorem aaU:evF Tryz.prog xM (k+1) wl 206 [c,d] h=ak (xX (xS k) 206 wl k false) Tryz.f206 [c,d] h:=by kernel_rfl
theorem UV (P:Program):ap P Tryz.f206 .ret ⟨[c,d,e,o,g,y,p,l,j,v,r,u,z,q,A,D,E,F,B],h⟩=some (g,h):=by kernel_rfl
theorem NR:itX (xX s 206 wl k rd) Cc n0 K (n+1) ⟨[c,d,e,o,g,y,p,l,j,v,r,u,z,q,A,D,E,F,B],h⟩ =
 bm (aw s.P .lss 3 j l) h fun v3 h4=>
 cnd v3 (
 bm (ai s.P 63 c j h4) h4 fun v5 h6=>
 bm (ab s.P 129 v5 h6) h6 fun v7 h8=>
 bp (bE (xX s 206 wl k rd) false true d [v7] h8) fun v9 hA=>
 cnd v9 (
 K .ret ⟨[c,d,e,o,j,j,p,l,j,v3,j,d,c,j,v5,v7,v9,j,B],hA⟩) (
 bm (aw s.P .add 3 j (.lit (.int .i64 1))) hA fun vA hB=>
 itX (xX s 206 wl k rd) Cc n0 K n ⟨[(V.kill n0 c),(V.kill n0 d),(V.kill n0 e),(V.kill n0 o),(V.kill n0 g),(V.kill n0 j),(V.kill n0 p),(V.kill n0 l),(V.kill n0 vA),.junk,.junk,.junk,.junk,.junk,.junk,.junk,.junk,.junk,.junk],bN n0 hB⟩)) (
 K (.exit 0) ⟨[(V.kill n0 c),(V.kill n0 d),(V.kill n0 e),(V.kill n0 o),(V.kill n0 g),(V.kill n0 y),(V.kill n0 p),(V.kill n0 l),.junk,.junk,.junk,.junk,.junk,.junk,.junk,.junk,.junk,.junk,.junk],bN n0 h4⟩):=kI
theorem Hj:au (xX s 206 wl k false) (ap s.P Tryz.f206) CO (.exit 0) ⟨[c,d,e,o,g,y,p,l,j,v,r,u,z,q,A,D,E,F,B],h⟩ =
 some ((.lit (.int .i64 (-1))),h):=kR
theorem nZ (cx:Cx) (s:St):au cx K CO .ret s=K .ret s:=by kernel_rfl
-- names: VJ,UV,NR,Hj,nZ
theorem Zo:ak (xX s 210 wl k false) Tryz.f210 [c] h =
 bp (some (.own h.length 0 0,h++[.rows 0 [] 0 true])) fun v1 h2=>
 bp (a7 s.P 63 c h2) fun v3 h4=>
 bm (aw s.P .sub 3 v3 (.lit (.int .i64 1))) h4 fun v5 h6=>
 bm (ai s.P 63 c v5 h6) h6 fun v7 h8=>
 bm (aa s.P 129 v7 1) h8 fun v9 hA=>
 bm (ab s.P 3 v9 hA) hA fun vA hB=>
 bm (aw s.P .add 3 vA (.lit (.int .i64 1))) hB fun vB hD=>
 bm (ai s.P 63 c v5 hD) hD fun vC hE=>
 bm (aa s.P 129 vC 1) hE fun vD hF=>
 bs (aj s.P wl 3 vD vB hF) fun hC=>
 some (c,hC):=kB
theorem afF:evF Tryz.prog xM (k+1) wl 210 [c] h=ak (xX (xS k) 210 wl k false) Tryz.f210 [c] h:=by kernel_rfl
-- names: Zo,
theorem ZQ:ak (xX s 211 wl k false) Tryz.f211 [c] h =
 bp (some (.own h.length 0 0,h++[.rows 0 [] 0 true])) fun v1 h2=>
 bp (a7 s.P 63 c h2) fun v3 h4=>
 bm (aw s.P .sub 3 v3 (.lit (.int .i64 1))) h4 fun v5 h6=>
 bm (ai s.P 63 c v5 h6) h6 fun v7 h8=>
 bm (aa s.P 129 v7 2) h8 fun v9 hA=>
 bm (ab s.P 3 v9 hA) hA fun vA hB=>
 bm (aw s.P .add 3 vA (.lit (.int .i64 1))) hB fun vB hD=>
 bm (ai s.P 63 c v5 hD) hD fun vC hE=>
 bm (aa s.P 129 vC 2) hE fun vD hF=>
 bs (aj s.P wl 3 vD vB hF) fun hC=>
 some (c,hC):=kB
theorem ahL:evF Tryz.prog xM (k+1) wl 211 [c] h=ak (xX (xS k) 211 wl k false) Tryz.f211 [c] h:=by kernel_rfl
-- names: ZQ,
theorem acX:ak (xX s 212 wl k false) Tryz.f212 [c] h =
 bp (some (.own h.length 0 0,h++[.rows 0 [] 0 true])) fun v1 h2=>
 bp (a7 s.P 63 c h2) fun v3 h4=>
 bm (aw s.P .sub 3 v3 (.lit (.int .i64 1))) h4 fun v5 h6=>
 bp (b8 s.P wl false 63 c none (some v5) none h6) fun v7 h8=>
 some (v7,h8):=kB
theorem aeE:evF Tryz.prog xM (k+1) wl 212 [c] h=ak (xX (xS k) 212 wl k false) Tryz.f212 [c] h:=by kernel_rfl
-- names: acX,
end
end Go.Ab
set_option maxRecDepth 100000
set_option linter.unusedVariables false
namespace Go.Ab
open Go.Proofs
section
variable (s:Sys) (k wl:Nat) (m0:Nat) (ac:List Nat×List Nat) (a b d e f o p g q j u l v n y A z E D F B L I M J G O N T R Q Z W t0 X Y U te t4 tf t5 t6 t7 t2 tg t8 th t9 ta tb tc td t3 t1:V) (h:Hp) (K:Out→St→Option (V×Hp)) (rd:Bool) (zz:List V)
noncomputable def dJ:Code:=al (am Tryz.f85) [1,0]
noncomputable def dC:List Fr:=[.seq (al (am Tryz.f85) [1,1])]
theorem ajD:ak (xX s 85 wl k false) Tryz.f85 [a,b,d,e] h =
 bp (aP a h) fun v1 h2=>
 bp (aP e h2) fun v3 h4=>
 bm (ab s.P 23 v1 h4) h4 fun v5 h6=>
 bp (yC s k wl 85 false true (.fn (.func 50) [] []) [v5] h6) fun v7 h8=>
 gd v7 (
 bp (a7 s.P 26 d h8) fun v9 hA=>
 bm (ab s.P 23 v1 hA) hA fun vA hB=>
 bp (yC s k wl 85 false true (.fn (.func 103) [] []) [vA] hB) fun vB hD=>
 bm (aw s.P .eql 3 v9 vB) hD fun vC hE=>
 yO s k wl 85 Tryz.f85 dJ 8 h4.length ([],[]) dC ⟨[a,b,d,e,v1,uu,uu,v3,(.lit (.bool false)),v5,v7,(.lit (.bool true)),d,v9,vA,vB,vC,uu,uu,uu,uu,uu,uu,uu,uu,uu,uu,uu,uu,uu,uu,uu,uu,uu,uu,uu,uu,uu,uu,uu,uu,uu,uu,uu,uu,uu,uu,uu,uu,uu,uu,uu,uu,uu],hE⟩) (
 yO s k wl 85 Tryz.f85 dJ 8 h4.length ([],[]) dC ⟨[a,b,d,e,v1,uu,uu,v3,(.lit (.bool false)),v5,v7,(.lit (.bool false)),uu,uu,uu,uu,uu,uu,uu,uu,uu,uu,uu,uu,uu,uu,uu,uu,uu,uu,uu,uu,uu,uu,uu,uu,uu,uu,uu,uu,uu,uu,uu,uu,uu,uu,uu,uu,uu,uu,uu,uu,uu,uu],h8⟩) (
 yO s k wl 85 Tryz.f85 dJ 4 h4.length ([],[]) dC ⟨[a,b,d,e,v1,uu,uu,v3,(.lit (.bool false)),v5,v7,v7,uu,uu,uu,uu,uu,uu,uu,uu,uu,uu,uu,uu,uu,uu,uu,uu,uu,uu,uu,uu,uu,uu,uu,uu,uu,uu,uu,uu,uu,uu,uu,uu,uu,uu,uu,uu,uu,uu,uu,uu,uu,uu],h8⟩):=kB
theorem aky:evF Tryz.prog xM (k+1) wl 85 [a,b,d,e] h=ak (xX (xS k) 85 wl k false) Tryz.f85 [a,b,d,e] h:=by kernel_rfl
theorem S8:yO s k wl 85 Tryz.f85 dJ 8 m0 ac dC ⟨(a::b::d::e::f::o::p::g::q::j::u::l::v::n::y::A::z::E::D::F::B::zz),h⟩ =
 bm (aR l z (.lit (.bool false))) h fun vD hF=>
 gd vD (
 bp (yC s k wl 85 false true (.fn (.func 56) [] []) [b] hF) fun vG hH=>
 yO s k wl 85 Tryz.f85 dJ 12 m0 ac dC ⟨(a::b::d::e::f::o::p::g::q::j::u::l::v::n::y::A::z::vD::(.lit (.bool true))::b::vG::zz),hH⟩) (
 yO s k wl 85 Tryz.f85 dJ 12 m0 ac dC ⟨(a::b::d::e::f::o::p::g::q::j::u::l::v::n::y::A::z::vD::(.lit (.bool false))::uu::uu::zz),hF⟩) (
 yO s k wl 85 Tryz.f85 dJ 11 m0 ac dC ⟨(a::b::d::e::f::o::p::g::q::j::u::l::v::n::y::A::z::vD::vD::uu::B::zz),hF⟩):=kG
theorem SL:yO s k wl 85 Tryz.f85 dJ 12 m0 ac dC ⟨(a::b::d::e::f::o::p::g::q::j::u::l::v::n::y::A::z::E::D::F::B::L::I::M::J::G::zz),h⟩ =
 bm (aR D B (.lit (.bool false))) h fun vF hI=>
 gd vF (
 bm (aa s.P 57 g 0) hI fun vJ hJ=>
 bm (ab s.P 3 vJ hJ) hJ fun vM hK=>
 bm (aw s.P .geq 3 vM (.lit (.int .i64 0))) hK fun vI hP=>
 yO s k wl 85 Tryz.f85 dJ 17 m0 ac dC ⟨(a::b::d::e::f::o::p::g::q::j::u::l::v::n::y::A::z::E::D::F::B::vF::(.lit (.bool true))::vJ::vM::vI::zz),hP⟩) (
 yO s k wl 85 Tryz.f85 dJ 17 m0 ac dC ⟨(a::b::d::e::f::o::p::g::q::j::u::l::v::n::y::A::z::E::D::F::B::vF::(.lit (.bool false))::uu::uu::uu::zz),hI⟩) (
 yO s k wl 85 Tryz.f85 dJ 15 m0 ac dC ⟨(a::b::d::e::f::o::p::g::q::j::u::l::v::n::y::A::z::E::D::F::B::vF::vF::uu::J::G::zz),hI⟩):=kG
theorem SG:yO s k wl 85 Tryz.f85 dJ 17 m0 ac dC ⟨(a::b::d::e::f::o::p::g::q::j::u::l::v::n::y::A::z::E::D::F::B::L::I::M::J::G::O::N::T::R::Q::zz),h⟩ =
 bm (aR I G (.lit (.bool false))) h fun vN hQ=>
 gd vN (
 bm (aa s.P 57 g 0) hQ fun vS hX=>
 bm (ab s.P 3 vS hX) hX fun vm hs=>
 bm (aw s.P .lss 3 vm (.lit (.int .i64 6))) hs fun vo hc=>
 yO s k wl 85 Tryz.f85 dJ 22 m0 ac dC ⟨(a::b::d::e::f::o::p::g::q::j::u::l::v::n::y::A::z::E::D::F::B::L::I::M::J::G::vN::(.lit (.bool true))::vS::vm::vo::zz),hc⟩) (
 yO s k wl 85 Tryz.f85 dJ 22 m0 ac dC ⟨(a::b::d::e::f::o::p::g::q::j::u::l::v::n::y::A::z::E::D::F::B::L::I::M::J::G::vN::(.lit (.bool false))::uu::uu::uu::zz),hQ⟩) (
 yO s k wl 85 Tryz.f85 dJ 20 m0 ac dC ⟨(a::b::d::e::f::o::p::g::q::j::u::l::v::n::y::A::z::E::D::F::B::L::I::M::J::G::vN::vN::uu::R::Q::zz),hQ⟩):=kG
theorem Up:yO s k wl 85 Tryz.f85 dJ 22 m0 ac dC ⟨(a::b::d::e::f::o::p::g::q::j::u::l::v::n::y::A::z::E::D::F::B::L::I::M::J::G::O::N::T::R::Q::Z::W::t0::X::Y::U::zz),h⟩ =
 bm (aR N Q (.lit (.bool false))) h fun vW hZ=>
 gd vW (
 bm (aa s.P 57 g 1) hZ fun vq hp=>
 bm (ab s.P 53 vq hp) hp fun vr hx=>
 bp (a7 s.P 53 vr hx) fun v43 hy=>
 bm (aw s.P .gtr 3 v43 (.lit (.int .i64 0))) hy fun v45 h46=>
 yO s k wl 85 Tryz.f85 dJ 28 m0 ac dC ⟨(a::b::d::e::f::o::p::g::q::j::u::l::v::n::y::A::z::E::D::F::B::L::I::M::J::G::O::N::T::R::Q::vW::(.lit (.bool true))::vq::vr::v43::v45::zz),h46⟩) (
 yO s k wl 85 Tryz.f85 dJ 28 m0 ac dC ⟨(a::b::d::e::f::o::p::g::q::j::u::l::v::n::y::A::z::E::D::F::B::L::I::M::J::G::O::N::T::R::Q::vW::(.lit (.bool false))::uu::uu::uu::uu::zz),hZ⟩) (
 yO s k wl 85 Tryz.f85 dJ 25 m0 ac dC ⟨(a::b::d::e::f::o::p::g::q::j::u::l::v::n::y::A::z::E::D::F::B::L::I::M::J::G::O::N::T::R::Q::vW::vW::uu::X::Y::U::zz),hZ⟩):=kG
theorem SY:yO s k wl 85 Tryz.f85 dJ 28 m0 ac dC ⟨[a,b,d,e,f,o,p,g,q,j,u,l,v,n,y,A,z,E,D,F,B,L,I,M,J,G,O,N,T,R,Q,Z,W,t0,X,Y,U,te,t4,tf,t5,t6,t7,t2,tg,t8,th,t9,ta,tb,tc,td,t3,t1],h⟩ =
 bm (aR W U (.lit (.bool false))) h fun vi hz=>
 gd vi (
 bm (aa s.P 57 g 1) hz fun v49 h50=>
 bm (ab s.P 53 v49 h50) h50 fun vs hr=>
 bm (ai s.P 53 vs (.lit (.int .i64 0)) hr) hr fun vt he=>
 bm (ab s.P 3 vt he) he fun vv h56=>
 bm (aw s.P .geq 3 vv (.lit (.int .i64 0))) h56 fun v57 h58=>
 yO s k wl 85 Tryz.f85 dJ 35 m0 ac dC ⟨[a,b,d,e,f,o,p,g,q,j,u,l,v,n,y,A,z,E,D,F,B,L,I,M,J,G,O,N,T,R,Q,Z,W,t0,X,Y,U,vi,(.lit (.bool true)),v49,vs,vt,vv,v57,tg,t8,th,t9,ta,tb,tc,td,t3,t1],h58⟩) (
 yO s k wl 85 Tryz.f85 dJ 35 m0 ac dC ⟨[a,b,d,e,f,o,p,g,q,j,u,l,v,n,y,A,z,E,D,F,B,L,I,M,J,G,O,N,T,R,Q,Z,W,t0,X,Y,U,vi,(.lit (.bool false)),uu,uu,uu,uu,uu,tg,t8,th,t9,ta,tb,tc,td,t3,t1],hz⟩) (
 yO s k wl 85 Tryz.f85 dJ 31 m0 ac dC ⟨[a,b,d,e,f,o,p,g,q,j,u,l,v,n,y,A,z,E,D,F,B,L,I,M,J,G,O,N,T,R,Q,Z,W,t0,X,Y,U,vi,vi,uu,t5,t6,t7,t2,tg,t8,th,t9,ta,tb,tc,td,t3,t1],hz⟩):=kG
theorem Tt:yO s k wl 85 Tryz.f85 dJ 35 m0 ac dC ⟨[a,b,d,e,f,o,p,g,q,j,u,l,v,n,y,A,z,E,D,F,B,L,I,M,J,G,O,N,T,R,Q,Z,W,t0,X,Y,U,te,t4,tf,t5,t6,t7,t2,tg,t8,th,t9,ta,tb,tc,td,t3,t1],h⟩ =
 bm (aR t4 t2 (.lit (.bool false))) h fun ve hk=>
 gd ve (
 bm (aa s.P 57 g 1) hk fun vw h62=>
 bm (ab s.P 53 vw h62) h62 fun vx hl=>
 bm (ai s.P 53 vx (.lit (.int .i64 0)) hl) hl fun vV hf=>
 bm (ab s.P 3 vV hf) hf fun vy h68=>
 bp (a7 s.P 24 b h68) fun vz hv=>
 bm (aw s.P .lss 3 vy vz) hv fun vf hm=>
 yO s k wl 85 Tryz.f85 dJ 44 m0 ac dC ⟨[a,b,d,e,f,o,p,g,q,j,u,l,v,n,y,A,z,E,D,F,B,L,I,M,J,G,O,N,T,R,Q,Z,W,t0,X,Y,U,te,t4,tf,t5,t6,t7,t2,ve,(.lit (.bool true)),vw,vx,vV,vy,b,vz,vf,t1],hm⟩) (
 yO s k wl 85 Tryz.f85 dJ 44 m0 ac dC ⟨[a,b,d,e,f,o,p,g,q,j,u,l,v,n,y,A,z,E,D,F,B,L,I,M,J,G,O,N,T,R,Q,Z,W,t0,X,Y,U,te,t4,tf,t5,t6,t7,t2,ve,(.lit (.bool false)),uu,uu,uu,uu,uu,uu,uu,t1],hk⟩) (
 yO s k wl 85 Tryz.f85 dJ 38 m0 ac dC ⟨[a,b,d,e,f,o,p,g,q,j,u,l,v,n,y,A,z,E,D,F,B,L,I,M,J,G,O,N,T,R,Q,Z,W,t0,X,Y,U,te,t4,tf,t5,t6,t7,t2,ve,ve,uu,t9,ta,tb,tc,td,t3,t1],hk⟩):=kG
theorem SS:yO s k wl 85 Tryz.f85 dJ 44 m0 ac dC ⟨[a,b,d,e,f,o,p,g,q,j,u,l,v,n,y,A,z,E,D,F,B,L,I,M,J,G,O,N,T,R,Q,Z,W,t0,X,Y,U,te,t4,tf,t5,t6,t7,t2,tg,t8,th,t9,ta,tb,tc,td,t3,t1],h⟩ =
 bm (aR t8 t3 (.lit (.bool false))) h fun v73 h74=>
 some (v73,h74):=kG
theorem AQ (cx:Cx) (s:St):au cx K dC .ret s=K .ret s:=by kernel_rfl
-- names: ajD,S8,SL,SG,Up,SY,Tt,SS,AQ
theorem ajE:ak (xX s 86 wl k false) Tryz.f86 [a,b,d,e,f] h =
 bp (aP a h) fun v1 h2=>
 bp (aP e h2) fun v3 h4=>
 bp (aP f h4) fun v5 h6=>
 bp (some (.own h6.length 0 0,h6++[.rows 0 [] 0 true])) fun v7 h8=>
 bp (av s.P 57 h8) fun v9 hA=>
 bp (some (.own hA.length 0 0,hA++[.rows 0 [] 0 true])) fun vA hB=>
 bp (yC s k wl 86 false true (.fn (.func 76) [] []) [d] hB) fun vB hD=>
 bp (av s.P 26 hD) fun vC hE=>
 bs (aj s.P wl 26 vC vB hE) fun hG=>
 bp (av s.P 57 hG) fun vE hC=>
 bm (aa s.P 57 v5 0) hC fun vK hL=>
 stO hG.length vK (
 bm (ab s.P 3 vK hL) hL fun vL hM=>
 bm (aa s.P 57 v5 1) hM fun vH hO=>
 bm (ab s.P 53 vH hO) hO fun vn ht=>
 bp (yC s k wl 86 true true (.fn (.func 80) [] []) [vn] ht) fun vu hU=>
 bm (aa s.P 57 v5 2) hU fun vT hV=>
 stO hG.length vT (
 bm (ab s.P 55 vT hV) hV fun vO hR=>
 bm (bf s.P 57 [(0,vL),(1,vu),(2,vO)]) hR fun vR ha=>
 bs (aj s.P wl 57 vE vR ha) fun hc=>
 bm (ab s.P 23 v1 hc) hc fun vW hZ=>
 bm (ab s.P 57 v5 hZ) hZ fun vq hp=>
 bp (yC s k wl 86 false true (.fn (.func 85) [] []) [vW,b,d,vq] hp) fun vr hx=>
 bm (vUn .not vr) hx fun v43 hy=>
 cnd v43 (
 bm (ab s.P 26 vC hy) hy fun v45 h46=>
 bm (ab s.P 57 vE h46) h46 fun vi hz=>
 bs (aj s.P wl 57 v9 vi hz) fun hT=>
 bp (some (.own hT.length 0 0,hT++[.rows 0 [] 0 true])) fun vp hj=>
 ew [some v45,ab s.P 57 v9 hj,some vp] hj) (
 bp (av s.P 34 hy) fun vU hu=>
 bm (aa s.P 57 vE 1) hu fun v54 hi=>
 bm (ab s.P 53 v54 hi) hi fun vg ho=>
 bm (ai s.P 53 vg (.lit (.int .i64 0)) ho) ho fun v58 hw=>
 bm (ab s.P 3 v58 hw) hw fun v60 h61=>
 bp (av s.P 3 h61) fun va h63=>
 bs (aj s.P wl 3 va v60 h63) fun hl=>
 bp (av s.P 170 hl) fun vV hf=>
 bs (aj s.P wl 170 vV (.fn (.func 131) [] [vU,v3]) hf) fun h67=>
 bp (av s.P 1 h67) fun vh h69=>
 bs (aj s.P wl 1 vh (.fn (.func 132) [] [vE]) h69) fun hv=>
 bp (av s.P 32 hv) fun vf hm=>
 bs (aj s.P wl 32 vf (.fn (.func 133) [] [vE,v1,vC]) hm) fun h73=>
 bm (bf s.P 175 [(0,(.fn (.func 136) [] [vE,vC,vV,va,vh])),(1,(.fn (.func 137) [] [vC,v3,va,vE])),(2,(.fn (.func 139) [] [vf,vE,vV,va])),(3,(.fn (.func 140) [] [vC,vh,v3,vE])),(4,(.fn (.func 141) [] [vf,vh])),(5,(.fn (.func 142) [] [vC,vV,va,vh]))]) h73 fun v74 h75=>
 bp (av s.P 175 h75) fun v76 h77=>
 bs (aj s.P wl 175 v76 v74 h77) fun h78=>
 bm (aa s.P 57 v5 0) h78 fun v79 h80=>
 bm (ab s.P 3 v79 h80) h80 fun v81 h82=>
 bm (ai s.P 175 v76 v81 h82) h82 fun v83 h84=>
 bm (ab s.P 1 v83 h84) h84 fun v85 h86=>
 bp (yC s k wl 86 false true v85 [] h86) fun v87 hn=>
 bm (ab s.P 26 vC hn) hn fun v89 h90=>
 bm (ab s.P 57 vE h90) h90 fun v91 h92=>
 stO hn.length vU (
 bm (ab s.P 34 vU h92) h92 fun v93 h94=>
 bs (aj s.P wl 57 v9 v91 h94) fun h95=>
 apt (lgW v9 (lgR vU ([],[]))) (
 ew [some v89,ab s.P 57 v9 h95,some v93] h95))))):=kB
theorem akt:evF Tryz.prog xM (k+1) wl 86 [a,b,d,e,f] h=ak (xX (xS k) 86 wl k false) Tryz.f86 [a,b,d,e,f] h:=by kernel_rfl
-- names: ajE,
theorem ZO:ak (xX s 131 wl k false) Tryz.f131 [a,b,d,e] h =
 bm (ab s.P 34 d h) h fun v1 h2=>
 bm (ab s.P 3 e h2) h2 fun v3 h4=>
 bm (bf s.P 52 [(0,a),(1,b),(2,v3)]) h4 fun v5 h6=>
 bp (aB s.P wl 34 1 [(0,v5)] h6) fun v7 h8=>
 bp (kQ s.P wl 34 34 v1 v7 h8) fun v9 hA=>
 bs (aj s.P wl 34 d v9 hA) fun hS=>
 some (.tup [],hS):=kB
theorem aeG:evF Tryz.prog xM (k+1) wl 131 [a,b,d,e] h=ak (xX (xS k) 131 wl k false) Tryz.f131 [a,b,d,e] h:=by kernel_rfl
-- names: ZO,
theorem Zx:ak (xX s 132 wl k false) Tryz.f132 [a] h =
 bm (aa s.P 57 a 1) h fun v1 h2=>
 bm (ab s.P 53 v1 h2) h2 fun v3 h4=>
 bp (b8 s.P wl false 53 v3 (some (.lit (.int .i64 1))) none none h4) fun v5 h6=>
 bm (bf s.P 57 [(1,v5)]) h6 fun v7 h8=>
 bs (aj s.P wl 57 a v7 h8) fun h9=>
 some (.tup [],h9):=kB
theorem agS:evF Tryz.prog xM (k+1) wl 132 [a] h=ak (xX (xS k) 132 wl k false) Tryz.f132 [a] h:=by kernel_rfl
-- names: Zx,
noncomputable def Cs:Code:=al (am Tryz.f133) [1,1,0,0]
noncomputable def u9:List Fr:=[.seq (al (am Tryz.f133) [1,1,0,1]),.seq (al (am Tryz.f133) [1,1,1])]
noncomputable def Cb:List Fr:=[.seq (al (am Tryz.f133) [1,1,1])]
theorem aa8:ak (xX s 133 wl k false) Tryz.f133 [a,b,d] h =
 bm (aa s.P 57 a 2) h fun v1 h2=>
 bm (aa s.P 55 v1 0) h2 fun v3 h4=>
 bm (ab s.P 3 v3 h4) h4 fun v5 h6=>
 bm (aw s.P .eql 3 v5 (.lit (.int .i64 3))) h6 fun v7 h8=>
 gd v7 (
 yO s k wl 133 Tryz.f133 Cs 9 h.length ([],[]) u9 ⟨[a,b,d,(.lit (.bool false)),(.fn (.func 134) [] []),v1,v3,v5,v7,(.lit (.bool true)),uu,uu,uu,uu,uu,uu,uu,uu,uu,uu,uu,uu,uu,uu,uu,uu,uu,uu],h8⟩) (
 bm (aa s.P 57 a 2) h8 fun v9 hA=>
 bm (aa s.P 55 v9 0) hA fun vA hB=>
 bm (ab s.P 3 vA hB) hB fun vB hD=>
 bm (aw s.P .eql 3 vB (.lit (.int .i64 4))) hD fun vC hE=>
 yO s k wl 133 Tryz.f133 Cs 9 h.length ([],[]) u9 ⟨[a,b,d,(.lit (.bool false)),(.fn (.func 134) [] []),v1,v3,v5,v7,(.lit (.bool false)),v9,vA,vB,vC,uu,uu,uu,uu,uu,uu,uu,uu,uu,uu,uu,uu,uu,uu],hE⟩) (
 yO s k wl 133 Tryz.f133 Cs 6 h.length ([],[]) u9 ⟨[a,b,d,(.lit (.bool false)),(.fn (.func 134) [] []),v1,v3,v5,v7,v7,uu,uu,uu,uu,uu,uu,uu,uu,uu,uu,uu,uu,uu,uu,uu,uu,uu,uu],h8⟩):=kB
theorem ahK:evF Tryz.prog xM (k+1) wl 133 [a,b,d] h=ak (xX (xS k) 133 wl k false) Tryz.f133 [a,b,d] h:=by kernel_rfl
theorem Ly:yO s k wl 133 Tryz.f133 Cs 9 m0 ac u9 ⟨(a::b::d::e::f::o::p::g::q::j::u::l::v::n::y::zz),h⟩ =
 bm (aR j (.lit (.bool true)) n) h fun vD hF=>
 cnd vD (
 au (xX s 133 wl k false) (ap s.P Tryz.f133) Cb .norm ⟨(a::b::d::e::(.fn (.func 135) [] [])::o::p::g::q::j::u::l::v::n::vD::zz),hF⟩) (
 au (xX s 133 wl k false) (ap s.P Tryz.f133) Cb .norm ⟨(a::b::d::e::f::o::p::g::q::j::u::l::v::n::vD::zz),hF⟩):=kG
theorem Mj:au (xX s 133 wl k false) (ap s.P Tryz.f133) Cb .norm ⟨[a,b,d,e,f,o,p,g,q,j,u,l,v,n,y,A,z,E,D,F,B,L,I,M,J,G,O,N],h⟩ =
 bm (ab s.P 23 b h) h fun vG hH=>
 bm (ab s.P 26 d hH) hH fun vF hI=>
 bm (aa s.P 57 a 2) hI fun vJ hJ=>
 bm (ab s.P 55 vJ hJ) hJ fun vM hK=>
 bp (yC s k wl 133 false true f [vG,vF,vM] hK) fun vI hP=>
 bm (aq vI 0) hP fun vN hQ=>
 bm (aq vI 1) hQ fun vS hX=>
 bs (aj s.P wl 26 d vN hX) fun hR=>
 bm (aa s.P 57 a 2) hR fun vR ha=>
 bs (aj s.P wl 55 vR vS ha) fun hc=>
 bm (aa s.P 57 a 2) hc fun vW hZ=>
 bm (ab s.P 55 vW hZ) hZ fun vq hp=>
 bp (yC s k wl 133 false true (.fn (.func 110) [] []) [vq] hp) fun vr hx=>
 some (vr,hx):=kR
theorem uv (cx:Cx) (s:St):au cx K u9 .ret s=K .ret s:=by kernel_rfl
theorem uG (cx:Cx) (s:St):au cx K Cb .ret s=K .ret s:=by kernel_rfl
-- names: aa8,Ly,Mj,uv,uG
theorem acS:ak (xX s 136 wl k false) Tryz.f136 [a,b,d,e,f] h =
 bm (aa s.P 57 a 0) h fun v1 h2=>
 bs (aj s.P wl 3 v1 (.lit (.int .i64 1)) h2) fun h3=>
 bm (ab s.P 26 b h3) h3 fun v4 h5=>
 bp (yC s k wl 136 false true (.fn (.func 27) [] []) [v4,(.lit (.int .i64 3))] h5) fun v6 h7=>
 bm (aw s.P .neq 46 v6 (.lit (.int .u64 0))) h7 fun v8 h9=>
 cnd v8 (
 bm (ab s.P 170 d h9) h9 fun vj hS=>
 bm (ab s.P 3 e hS) hS fun vk hY=>
 bp (yC s k wl 136 false true vj [(.lit (.int .i64 1)),vk] hY) fun vZ hN=>
 bm (ab s.P 1 f hN) hN fun vQ hG=>
 bp (yC s k wl 136 false true vQ [] hG) fun vE hC=>
 some (.tup [],hC)) (
 some (.tup [],h9)):=kB
theorem aeU:evF Tryz.prog xM (k+1) wl 136 [a,b,d,e,f] h=ak (xX (xS k) 136 wl k false) Tryz.f136 [a,b,d,e,f] h:=by kernel_rfl
-- names: acS,
theorem adH:ak (xX s 137 wl k false) Tryz.f137 [a,b,d,e] h =
 bm (ab s.P 26 a h) h fun v1 h2=>
 bp (yC s k wl 137 false true (.fn (.func 138) [] []) [v1,(.lit (.int .i64 0)),(.lit (.int .u64 1))] h2) fun v3 h4=>
 bm (aq v3 0) h4 fun v5 h6=>
 bm (aq v3 1) h6 fun v7 h8=>
 bs (aj s.P wl 26 a v5 h8) fun h9=>
 bm (ab s.P 3 b h9) h9 fun vj hS=>
 bm (ab s.P 3 d hS) hS fun vk hY=>
 bm (fY s.P 3 46 vk) hY fun vZ hN=>
 bp (yC s k wl 137 false true (.fn (.func 104) [] []) [(.lit (.int .i64 3)),vj,vZ] hN) fun vQ hG=>
 bm (aa s.P 57 e 0) hG fun vE hC=>
 bs (aj s.P wl 3 vE (.lit (.int .i64 2)) hC) fun hH=>
 bm (aa s.P 57 e 2) hH fun vF hI=>
 bs (aj s.P wl 55 vF vQ hI) fun hM=>
 some (.tup [],hM):=kB
theorem ahx:evF Tryz.prog xM (k+1) wl 137 [a,b,d,e] h=ak (xX (xS k) 137 wl k false) Tryz.f137 [a,b,d,e] h:=by kernel_rfl
-- names: adH,
theorem ad6:ak (xX s 139 wl k false) Tryz.f139 [a,b,d,e] h =
 bm (ab s.P 32 a h) h fun v1 h2=>
 bp (yC s k wl 139 false true v1 [] h2) fun v3 h4=>
 bm (vUn .not v3) h4 fun v5 h6=>
 cnd v5 (
 some (.tup [],h6)) (
 bm (aa s.P 57 b 0) h6 fun v7 h8=>
 bs (aj s.P wl 3 v7 (.lit (.int .i64 5)) h8) fun h9=>
 bm (aa s.P 57 b 2) h9 fun vj hS=>
 bm (aa s.P 55 vj 6) hS fun vk hY=>
 bm (ab s.P 3 vk hY) hY fun vZ hN=>
 bm (aw s.P .neq 3 vZ (.lit (.int .i64 2))) hN fun vQ hG=>
 cnd vQ (
 bm (ab s.P 170 d hG) hG fun vE hC=>
 bm (ab s.P 3 e hC) hC fun vK hL=>
 bp (yC s k wl 139 false true vE [(.lit (.int .i64 0)),vK] hL) fun vL hM=>
 bm (aa s.P 57 b 0) hM fun vH hO=>
 bs (aj s.P wl 3 vH (.lit (.int .i64 3)) hO) fun hK=>
 some (.tup [],hK)) (
 some (.tup [],hG))):=kB
theorem aeQ:evF Tryz.prog xM (k+1) wl 139 [a,b,d,e] h=ak (xX (xS k) 139 wl k false) Tryz.f139 [a,b,d,e] h:=by kernel_rfl
-- names: ad6,
theorem ab7:ak (xX s 140 wl k false) Tryz.f140 [a,b,d,e] h =
 bm (ab s.P 26 a h) h fun v1 h2=>
 bp (yC s k wl 140 false true (.fn (.func 27) [] []) [v1,(.lit (.int .i64 1))] h2) fun v3 h4=>
 bm (aw s.P .neq 46 v3 (.lit (.int .u64 0))) h4 fun v5 h6=>
 cnd v5 (
 bm (ab s.P 1 b h6) h6 fun v7 h8=>
 bp (yC s k wl 140 false true v7 [] h8) fun v9 hA=>
 some (.tup [],hA)) (
 bm (ab s.P 3 d h6) h6 fun vA hB=>
 bp (yC s k wl 140 false true (.fn (.func 104) [] []) [(.lit (.int .i64 6)),vA,(.lit (.int .u64 0))] hB) fun vB hD=>
 bm (aa s.P 57 e 0) hD fun vC hE=>
 bs (aj s.P wl 3 vC (.lit (.int .i64 4)) hE) fun hG=>
 bm (aa s.P 57 e 2) hG fun vE hC=>
 bs (aj s.P wl 55 vE vB hC) fun hH=>
 some (.tup [],hH)):=kB
theorem aij:evF Tryz.prog xM (k+1) wl 140 [a,b,d,e] h=ak (xX (xS k) 140 wl k false) Tryz.f140 [a,b,d,e] h:=by kernel_rfl
-- names: ab7,
theorem aad:ak (xX s 141 wl k false) Tryz.f141 [a,b] h =
 bm (ab s.P 32 a h) h fun v1 h2=>
 bp (yC s k wl 141 false true v1 [] h2) fun v3 h4=>
 cnd v3 (
 bm (ab s.P 1 b h4) h4 fun v5 h6=>
 bp (yC s k wl 141 false true v5 [] h6) fun v7 h8=>
 some (.tup [],h8)) (
 some (.tup [],h4)):=kB
theorem agD:evF Tryz.prog xM (k+1) wl 141 [a,b] h=ak (xX (xS k) 141 wl k false) Tryz.f141 [a,b] h:=by kernel_rfl
-- names: aad,
theorem abt:ak (xX s 142 wl k false) Tryz.f142 [a,b,d,e] h =
 bm (ab s.P 26 a h) h fun v1 h2=>
 bp (yC s k wl 142 false true (.fn (.func 138) [] []) [v1,(.lit (.int .i64 0)),(.lit (.int .u64 18446744073709551615))] h2) fun v3 h4=>
 bm (aq v3 0) h4 fun v5 h6=>
 bm (aq v3 1) h6 fun v7 h8=>
 bs (aj s.P wl 26 a v5 h8) fun h9=>
 bm (ab s.P 170 b h9) h9 fun vj hS=>
 bm (ab s.P 3 d hS) hS fun vk hY=>
 bp (yC s k wl 142 false true vj [(.lit (.int .i64 1)),vk] hY) fun vZ hN=>
 bm (aw s.P .eql 46 v7 (.lit (.int .u64 1))) hN fun vQ hG=>
 cnd vQ (
 bm (ab s.P 170 b hG) hG fun vE hC=>
 bp (yC s k wl 142 false true vE [(.lit (.int .i64 5)),(.lit (.int .i64 0))] hC) fun vK hL=>
 bm (ab s.P 1 e hL) hL fun vL hM=>
 bp (yC s k wl 142 false true vL [] hM) fun vH hO=>
 some (.tup [],hO)) (
 bm (ab s.P 1 e hG) hG fun vn ht=>
 bp (yC s k wl 142 false true vn [] ht) fun vu hU=>
 some (.tup [],hU)):=kB
theorem ahn:evF Tryz.prog xM (k+1) wl 142 [a,b,d,e] h=ak (xX (xS k) 142 wl k false) Tryz.f142 [a,b,d,e] h:=by kernel_rfl
-- names: abt,
theorem ajc:ak (xX s 28 wl k false) Tryz.f28 [a] h =
 bp (aP a h) fun v1 h2=>
 bm (aa s.P 57 v1 0) h2 fun v3 h4=>
 bm (ab s.P 3 v3 h4) h4 fun v5 h6=>
 bm (aw s.P .neq 3 v5 (.lit (.int .i64 0))) h6 fun v7 h8=>
 some (v7,h8):=kB
theorem ake:evF Tryz.prog xM (k+1) wl 28 [a] h=ak (xX (xS k) 28 wl k false) Tryz.f28 [a] h:=by kernel_rfl
-- names: ajc,
theorem ajm:ak (xX s 63 wl k false) Tryz.f63 [a] h =
 bp (av s.P 57 h) fun v1 h2=>
 bp (yC s k wl 63 false true (.fn (.func 80) [] []) [a] h2) fun v3 h4=>
 bm (bf s.P 57 [(1,v3)]) h4 fun v5 h6=>
 bs (aj s.P wl 57 v1 v5 h6) fun h7=>
 ew [ab s.P 57 v1 h7] h7:=kB
theorem akE:evF Tryz.prog xM (k+1) wl 63 [a] h=ak (xX (xS k) 63 wl k false) Tryz.f63 [a] h:=by kernel_rfl
-- names: ajm,
end
end Go.Ab
