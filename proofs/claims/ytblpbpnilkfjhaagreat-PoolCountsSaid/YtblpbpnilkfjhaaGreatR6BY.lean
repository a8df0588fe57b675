import Derived.Test.YtblpbpnilkfjhaaGreatR6Seat
import Derived.Test.YtblpbpnilkfjhaaGreatAbLibC
set_option linter.unusedVariables false
set_option linter.unusedSimpArgs false
set_option maxRecDepth 100000
set_option linter.unusedVariables false
namespace Go.Ab
open Go.Proofs
section
variable (s:Sys) (k wl:Nat) (m0:Nat) (ac:List Nat×List Nat) (c d g j l q p o e u r z A B F D E G I L N M J O R Q U T Y X Z W t4 t0 t5 t1 t2 t3:V)
noncomputable def o8:Code:=al (am Tryz.f21) [1,0,1,0,0]
noncomputable def FM:List Fr:=[.block 0,.seq (al (am Tryz.f21) [1,1])]
noncomputable def Ff:Code:=al (am Tryz.f21) [1,0,1,0,0,0,0]
noncomputable def CK:List Fr:=[.seq (al (am Tryz.f21) [1,0,1,0,0,0,1]),.seq (al (am Tryz.f21) [1,0,1,0,0,1])]
theorem acT (h:Hp):aj (xX s 21 wl k false) Tryz.f21 [c] h =
 yI s k wl 21 Tryz.f21 o8 h.length FM k ⟨[(V.kill h.length c),(V.kill h.length uu),(.lit (.bool false)),(.lit (.int .i64 0)),.junk,.junk,.junk,.junk,.junk,.junk,.junk,.junk,.junk,.junk,.junk,.junk,.junk,.junk,.junk,.junk,.junk,(V.kill h.length uu),(V.kill h.length uu),(V.kill h.length uu)],bZ h.length h⟩:=kB
theorem ae6 (k wl:Nat) (h:Hp):evF Tryz.prog xM (k+1) wl 21 [c] h=aj (xX (xS k) 21 wl k false) Tryz.f21 [c] h:=by kernel_rfl
theorem acG (P:Program) (h:Hp):aC P Tryz.f21 .ret ⟨[c,d,g,j,l,q,p,o,e,u,r,z,A,B,F,D,E,G,I,L,N,M,J,O],h⟩=some (g,h):=by kernel_rfl
theorem PJ (s:Sys) (K:Out→St→Option (V×Hp)) (k wl:Nat) (rd:Bool) (n n0:Nat) (zz:List V) (h:Hp):itX (xX s 21 wl k rd) o8 n0 K (n+1) ⟨(c::d::g::j::l::q::p::o::e::u::r::zz),h⟩ =
 bp (bh s.P 24 c h) fun v1 h2=>
 bm (av s.P .lss 3 j v1) h2 fun v3 h4=>
 gd v3 (
 bm (av s.P .leq 3 j (.lit (.int .i64 40))) h4 fun v5 h6=>
 dM (xX s 21 wl k rd) Ff 7 h.length ([],[]) (au (xX s 21 wl k rd) (bK (xX s 21 wl k rd) o8 n0 K n) CK) ⟨(c::d::g::j::j::c::v1::v3::(.lit (.bool true))::j::v5::zz),h6⟩) (
 dM (xX s 21 wl k rd) Ff 7 h.length ([],[]) (au (xX s 21 wl k rd) (bK (xX s 21 wl k rd) o8 n0 K n) CK) ⟨(c::d::g::j::j::c::v1::v3::(.lit (.bool false))::uu::uu::zz),h4⟩) (
 dM (xX s 21 wl k rd) Ff 6 h.length ([],[]) (au (xX s 21 wl k rd) (bK (xX s 21 wl k rd) o8 n0 K n) CK) ⟨(c::d::g::j::j::c::v1::v3::v3::uu::r::zz),h4⟩):=kI
theorem Ir (h:Hp):au (xX s 21 wl k false) (aC s.P Tryz.f21) FM (.exit 0) ⟨[c,d,g,j,l,q,p,o,e,u,r,z,A,B,F,D,E,G,I,L,N,M,J,O],h⟩ =
 bp (bh s.P 24 c h) fun v7 h8=>
 bm (av s.P .leq 3 v7 (.lit (.int .i64 40))) h8 fun v9 h10=>
 some (v9,h10):=kR
theorem I7 (s:Sys) (K:Out→St→Option (V×Hp)) (k wl:Nat) (rd:Bool) (n n0:Nat) (m0:Nat) (ac:List Nat×List Nat) (h:Hp):dM (xX s 21 wl k rd) Ff 7 m0 ac (au (xX s 21 wl k rd) (bK (xX s 21 wl k rd) o8 n0 K n) CK) ⟨[c,d,g,j,l,q,p,o,e,u,r,z,A,B,F,D,E,G,I,L,N,M,J,O],h⟩ =
 bm (aQ e r (.lit (.bool false))) h fun v11 h12=>
 cnd v11 (
 bm (ak s.P 24 c j h12) h12 fun v13 h14=>
 bm (aa s.P 101 v13 1) h14 fun v15 h16=>
 bm (ab s.P 53 v15 h16) h16 fun v17 h18=>
 bp (bh s.P 53 v17 h18) fun v19 h20=>
 bm (av s.P .gtr 3 v19 (.lit (.int .i64 40))) h20 fun v21 h22=>
 cnd v21 (
 K .ret ⟨[c,d,(.lit (.bool false)),j,l,q,p,o,e,u,r,v11,A,B,c,j,v13,v15,v17,v19,v21,M,J,O],h22⟩) (
 bm (av s.P .add 3 j (.lit (.int .i64 1))) h22 fun v23 h24=>
 itX (xX s 21 wl k rd) o8 n0 K n ⟨[(V.kill n0 c),(V.kill n0 d),(V.kill n0 g),(V.kill n0 v23),.junk,.junk,.junk,.junk,.junk,.junk,.junk,.junk,.junk,.junk,.junk,.junk,.junk,.junk,.junk,.junk,.junk,(V.kill n0 M),(V.kill n0 J),(V.kill n0 O)],bZ n0 h24⟩)) (
 K (.exit 0) ⟨[(V.kill n0 c),(V.kill n0 d),(V.kill n0 g),(V.kill n0 j),.junk,.junk,.junk,.junk,.junk,.junk,.junk,.junk,.junk,.junk,.junk,.junk,.junk,.junk,.junk,.junk,.junk,(V.kill n0 M),(V.kill n0 J),(V.kill n0 O)],bZ n0 h12⟩):=kG
theorem od (cx:Cx) (K:Out→St→Option (V×Hp)) (s:St):au cx K FM .ret s=K .ret s:=by kernel_rfl
theorem ol (cx:Cx) (K:Out→St→Option (V×Hp)) (s:St):au cx K CK .ret s=K .ret s:=by kernel_rfl
-- names: acT,acG,PJ,Ir,I7,od,ol
noncomputable def Gs:Code:=al (am Tryz.f56) [1,0,0]
noncomputable def CE:List Fr:=[.seq (al (am Tryz.f56) [1,0,1]),.seq (al (am Tryz.f56) [1,1])]
noncomputable def PM:Code:=al (am Tryz.f56) [1,1,1,0,1,0]
noncomputable def Cg:Code:=al (am Tryz.f56) [1,1,1,0,1,0,0]
noncomputable def CT:Code:=al (am Tryz.f56) [1,1,1,0,1,0,1]
noncomputable def w9:List Fr:=[.block 0,.seq (al (am Tryz.f56) [1,1,1,1])]
noncomputable def o9:Code:=al (am Tryz.f56) [1,1,1,0,1,0,1,0,0,0]
noncomputable def nS:List Fr:=[.seq (al (am Tryz.f56) [1,1,1,0,1,0,1,0,0,1]),.seq (al (am Tryz.f56) [1,1,1,0,1,0,1,0,1]),.block 1]
theorem pM:PM = .rangeFunc (.tmp 17) #[18,19] Cg CT:=by kernel_rfl
theorem aa1 (h:Hp):aj (xX s 56 wl k false) Tryz.f56 [c] h =
 bp (aO c h) fun v1 h2=>
 bp (aw s.P 4 h2) fun v3 h4=>
 bm (ab s.P 24 v1 h4) h4 fun v5 h6=>
 bp (bh s.P 24 v5 h6) fun v7 h8=>
 bm (av s.P .gtr 3 v7 (.lit (.int .i64 30))) h8 fun v9 h10=>
 gd v9 (
 yO s k wl 56 Tryz.f56 Gs 6 h4.length ([],[]) CE ⟨[c,v1,v3,uu,uu,uu,v5,v7,v9,(.lit (.bool true)),uu,uu,uu,uu,uu,uu,uu,uu,uu,uu,uu,uu,uu,uu,uu,uu,uu,uu,uu,uu,uu,uu,uu,uu,uu,uu,uu,uu],h10⟩) (
 bm (ab s.P 24 v1 h10) h10 fun v11 h12=>
 bp (yC s k wl 56 false true (.fn (.func 98) [] []) [v11,(.fn (.func 99) [] [])] h12) fun v13 h14=>
 yO s k wl 56 Tryz.f56 Gs 6 h4.length ([],[]) CE ⟨[c,v1,v3,uu,uu,uu,v5,v7,v9,(.lit (.bool false)),v11,v13,uu,uu,uu,uu,uu,uu,uu,uu,uu,uu,uu,uu,uu,uu,uu,uu,uu,uu,uu,uu,uu,uu,uu,uu,uu,uu],h14⟩) (
 yO s k wl 56 Tryz.f56 Gs 5 h4.length ([],[]) CE ⟨[c,v1,v3,uu,uu,uu,v5,v7,v9,v9,uu,uu,uu,uu,uu,uu,uu,uu,uu,uu,uu,uu,uu,uu,uu,uu,uu,uu,uu,uu,uu,uu,uu,uu,uu,uu,uu,uu],h10⟩):=kB
theorem acX (k wl:Nat) (h:Hp):evF Tryz.prog xM (k+1) wl 56 [c] h=aj (xX (xS k) 56 wl k false) Tryz.f56 [c] h:=by kernel_rfl
theorem aaQ (P:Program) (h:Hp):aC P Tryz.f56 .ret ⟨[c,d,g,j,l,q,p,o,e,u,r,z,A,B,F,D,E,G,I,L,N,M,J,O,R,Q,U,T,Y,X,Z,W,t4,t0,t5,t1,t2,t3],h⟩=dW [ab P 4 g h] h:=by kernel_rfl
theorem EW (zz:List V) (h:Hp):yO s k wl 56 Tryz.f56 Gs 6 m0 ac CE ⟨(c::d::g::j::l::q::p::o::e::u::r::z::A::B::F::D::E::G::zz),h⟩ =
 bm (aQ u (.lit (.bool true)) z) h fun v15 h16=>
 cnd v15 (
 bs (ai s.P wl 4 g (.lit (.bool false)) h16) fun h17=>
 dW [ab s.P 4 g h17] h17) (
 bm (ab s.P 24 d h16) h16 fun v18 h19=>
 bp (bh s.P 24 v18 h19) fun v20 h21=>
 bp (a8 s.P 150 v20 v20 h21) fun v22 h23=>
 bp (aw s.P 150 h23) fun v24 h25=>
 bs (ai s.P wl 150 v24 v22 h25) fun h26=>
 bm (ab s.P 24 d h26) h26 fun v27 h28=>
 bp (yC s k wl 56 false true (.fn (.func 100) [] []) [v27] h28) fun v29 h30=>
 a7 (xX s 56 wl k false) PM none (au (xX s 56 wl k false) (aC s.P Tryz.f56) w9) ⟨(c::d::g::v24::l::q::p::o::e::u::r::z::v15::v18::v20::v22::v27::v29::zz),h30⟩):=kG
theorem F1 (s:Sys) (k wl:Nat) (zz:List V) (h:Hp):au (xX s 56 wl k false) (aC s.P Tryz.f56) w9 .norm ⟨(c::d::g::zz),h⟩ =
 bs (ai s.P wl 4 g (.lit (.bool true)) h) fun h31=>
 dW [ab s.P 4 g h31] h31:=kR
theorem dT (s:Sys) (K:Out→St→Option (V×Hp)) (k wl:Nat) (rd:Bool) (h:Hp):au (xX s 56 wl k rd) K [.seq CT] .norm ⟨[c,d,g,j,l,q,p,o,e,u,r,z,A,B,F,D,E,G,I,L,N,M,J,O,R,Q,U,T,Y,X,Z,W,t4,t0,t5,t1,t2,t3],h⟩ =
 bm (av s.P .leq 3 l q) h fun v32 h33=>
 gd v32 (
 dM (xX s 56 wl k rd) o9 8 h.length ([],[]) (au (xX s 56 wl k rd) K nS) ⟨[c,d,g,j,l,q,p,o,e,u,r,z,A,B,F,D,E,G,I,L,l,q,v32,(.lit (.bool true)),uu,uu,uu,uu,Y,X,Z,W,t4,t0,t5,t1,t2,t3],h33⟩) (
 bm (ab s.P 24 d h33) h33 fun v34 h35=>
 bp (bh s.P 24 v34 h35) fun v36 h37=>
 bm (av s.P .geq 3 l v36) h37 fun v38 h39=>
 dM (xX s 56 wl k rd) o9 8 h.length ([],[]) (au (xX s 56 wl k rd) K nS) ⟨[c,d,g,j,l,q,p,o,e,u,r,z,A,B,F,D,E,G,I,L,l,q,v32,(.lit (.bool false)),l,v34,v36,v38,Y,X,Z,W,t4,t0,t5,t1,t2,t3],h39⟩) (
 dM (xX s 56 wl k rd) o9 5 h.length ([],[]) (au (xX s 56 wl k rd) K nS) ⟨[c,d,g,j,l,q,p,o,e,u,r,z,A,B,F,D,E,G,I,L,l,q,v32,v32,uu,Q,U,T,Y,X,Z,W,t4,t0,t5,t1,t2,t3],h33⟩):=kR
theorem dO (s:Sys) (K:Out→St→Option (V×Hp)) (k wl:Nat) (rd:Bool) (zz:List V) (h:Hp):au (xX s 56 wl k rd) K [.seq Cg] .norm ⟨(c::d::g::j::l::q::p::o::e::u::r::z::A::B::F::D::E::G::I::L::zz),h⟩ =
 K .norm ⟨(c::d::g::j::I::L::p::o::e::u::r::z::A::B::F::D::E::G::I::L::zz),h⟩:=kR
theorem FU (s:Sys) (K:Out→St→Option (V×Hp)) (k wl:Nat) (rd:Bool) (m0:Nat) (ac:List Nat×List Nat) (h:Hp):dM (xX s 56 wl k rd) o9 8 m0 ac (au (xX s 56 wl k rd) K nS) ⟨[c,d,g,j,l,q,p,o,e,u,r,z,A,B,F,D,E,G,I,L,N,M,J,O,R,Q,U,T,Y,X,Z,W,t4,t0,t5,t1,t2,t3],h⟩ =
 bm (aQ O (.lit (.bool true)) T) h fun v40 h41=>
 gd v40 (
 dM (xX s 56 wl k rd) o9 14 m0 ac (au (xX s 56 wl k rd) K nS) ⟨[c,d,g,j,l,q,p,o,e,u,r,z,A,B,F,D,E,G,I,L,N,M,J,O,R,Q,U,T,v40,(.lit (.bool true)),uu,uu,uu,uu,t5,t1,t2,t3],h41⟩) (
 bm (ab s.P 150 j h41) h41 fun v42 h43=>
 bm (ak s.P 150 v42 l h43) h43 fun v44 h45=>
 bm (ab s.P 4 v44 h45) h45 fun v46 h47=>
 dM (xX s 56 wl k rd) o9 14 m0 ac (au (xX s 56 wl k rd) K nS) ⟨[c,d,g,j,l,q,p,o,e,u,r,z,A,B,F,D,E,G,I,L,N,M,J,O,R,Q,U,T,v40,(.lit (.bool false)),v42,l,v44,v46,t5,t1,t2,t3],h47⟩) (
 dM (xX s 56 wl k rd) o9 11 m0 ac (au (xX s 56 wl k rd) K nS) ⟨[c,d,g,j,l,q,p,o,e,u,r,z,A,B,F,D,E,G,I,L,N,M,J,O,R,Q,U,T,v40,v40,uu,W,t4,t0,t5,t1,t2,t3],h41⟩):=kG
theorem FV (s:Sys) (K:Out→St→Option (V×Hp)) (k wl:Nat) (rd:Bool) (m0:Nat) (ac:List Nat×List Nat) (h:Hp):dM (xX s 56 wl k rd) o9 14 m0 ac (au (xX s 56 wl k rd) K nS) ⟨[c,d,g,j,l,q,p,o,e,u,r,z,A,B,F,D,E,G,I,L,N,M,J,O,R,Q,U,T,Y,X,Z,W,t4,t0,t5,t1,t2,t3],h⟩ =
 bm (aQ X (.lit (.bool true)) t0) h fun v48 h49=>
 cnd v48 (
 bs (ai s.P wl 4 g (.lit (.bool false)) h49) fun h50=>
 K .ret ⟨[c,d,g,j,l,q,p,o,e,u,r,z,A,B,F,D,E,G,I,L,N,M,J,O,R,Q,U,T,Y,X,Z,W,t4,t0,v48,t1,t2,t3],h50⟩) (
 bm (ab s.P 150 j h49) h49 fun v51 h52=>
 bm (ak s.P 150 v51 l h52) h52 fun v53 h54=>
 bs (ai s.P wl 4 v53 (.lit (.bool true)) h54) fun h55=>
 K .norm ⟨[c,d,g,j,l,q,p,o,e,u,r,z,A,B,F,D,E,G,I,L,N,M,J,O,R,Q,U,T,Y,X,Z,W,t4,t0,v48,v51,l,v53],h55⟩):=kG
theorem mv (cx:Cx) (K:Out→St→Option (V×Hp)) (s:St):au cx K CE .ret s=K .ret s:=by kernel_rfl
theorem mh (cx:Cx) (K:Out→St→Option (V×Hp)) (s:St):au cx K w9 .ret s=K .ret s:=by kernel_rfl
theorem mu (cx:Cx) (K:Out→St→Option (V×Hp)) (s:St):au cx K nS .ret s=K .ret s:=by kernel_rfl
-- names: aa1,aaQ,EW,F1,dT,dO,FU,FV,mv,mh,mu
-- range over a function at [1,1,1,0,1,0]
noncomputable def wN:Code:=al (am Tryz.f57) [1,1,1,0,1,0,0]
noncomputable def BX:List Fr:=[.block 0,.seq (al (am Tryz.f57) [1,1,1,1])]
theorem VB (h:Hp):aj (xX s 57 wl k false) Tryz.f57 [c] h =
 bp (some (.own h.length 0 0,h++[.rows 0 [] 0 true])) fun v1 h2=>
 bp (yC s k wl 57 false true (.fn (.func 56) [] []) [c] h2) fun v3 h4=>
 bm (vUn .not v3) h4 fun v5 h6=>
 cnd v5 (
 bp (some (.own h6.length 0 0,h6++[.rows 0 [] 0 true])) fun v7 h8=>
 some (v7,h8)) (
 bp (some (.own h6.length 0 0,h6++[.rows 0 [] 0 true])) fun v9 h10=>
 bp (bh s.P 24 c h10) fun v11 h12=>
 yI s k wl 57 Tryz.f57 wN h12.length BX k ⟨[(V.kill h12.length c),(V.kill h12.length uu),(V.kill h12.length v1),(V.kill h12.length v9),(V.kill h12.length uu),(V.kill h12.length c),(V.kill h12.length v3),(V.kill h12.length v5),(V.kill h12.length c),(V.kill h12.length v11),(.lit (.int .i64 0)),.junk,.junk,.junk,.junk,.junk,.junk,.junk,.junk,.junk,.junk,.junk,(V.kill h12.length uu)],bZ h12.length h12⟩):=kB
theorem Yy (k wl:Nat) (h:Hp):evF Tryz.prog xM (k+1) wl 57 [c] h=aj (xX (xS k) 57 wl k false) Tryz.f57 [c] h:=by kernel_rfl
theorem VH (P:Program) (h:Hp):aC P Tryz.f57 .ret ⟨[c,d,g,j,l,q,p,o,e,u,r,z,A,B,F,D,E,G,I,L,N,M,J],h⟩=some (g,h):=by kernel_rfl
theorem PX (s:Sys) (K:Out→St→Option (V×Hp)) (k wl:Nat) (rd:Bool) (n n0:Nat) (h:Hp):itX (xX s 57 wl k rd) wN n0 K (n+1) ⟨[c,d,g,j,l,q,p,o,e,u,r,z,A,B,F,D,E,G,I,L,N,M,J],h⟩ =
 bm (av s.P .lss 3 r u) h fun v13 h14=>
 cnd v13 (
 bp (cN (xX s 57 wl k rd) false true (.fn (.func 101) [] []) [c,r] h14) fun v15 h16=>
 bm (av s.P .eql 3 v15 (.lit (.int .i64 (-1)))) h16 fun v17 h18=>
 cnd v17 (
 bp (az s.P wl 53 1 [(0,r)] h18) fun v19 h20=>
 bp (lF s.P wl 53 53 j v19 h20) fun v21 h22=>
 bm (av s.P .add 3 r (.lit (.int .i64 1))) h22 fun v23 h24=>
 itX (xX s 57 wl k rd) wN n0 K n ⟨[(V.kill n0 c),(V.kill n0 d),(V.kill n0 g),(V.kill n0 v21),(V.kill n0 r),(V.kill n0 q),(V.kill n0 p),(V.kill n0 o),(V.kill n0 e),(V.kill n0 u),(V.kill n0 v23),.junk,.junk,.junk,.junk,.junk,.junk,.junk,.junk,.junk,.junk,.junk,(V.kill n0 J)],bZ n0 h24⟩) (
 bm (av s.P .add 3 r (.lit (.int .i64 1))) h18 fun v25 h26=>
 itX (xX s 57 wl k rd) wN n0 K n ⟨[(V.kill n0 c),(V.kill n0 d),(V.kill n0 g),(V.kill n0 j),(V.kill n0 r),(V.kill n0 q),(V.kill n0 p),(V.kill n0 o),(V.kill n0 e),(V.kill n0 u),(V.kill n0 v25),.junk,.junk,.junk,.junk,.junk,.junk,.junk,.junk,.junk,.junk,.junk,(V.kill n0 J)],bZ n0 h26⟩)) (
 K (.exit 0) ⟨[(V.kill n0 c),(V.kill n0 d),(V.kill n0 g),(V.kill n0 j),(V.kill n0 l),(V.kill n0 q),(V.kill n0 p),(V.kill n0 o),(V.kill n0 e),(V.kill n0 u),.junk,.junk,.junk,.junk,.junk,.junk,.junk,.junk,.junk,.junk,.junk,.junk,(V.kill n0 J)],bZ n0 h14⟩):=kI
theorem wB (h:Hp):au (xX s 57 wl k false) (aC s.P Tryz.f57) BX (.exit 0) ⟨[c,d,g,j,l,q,p,o,e,u,r,z,A,B,F,D,E,G,I,L,N,M,J],h⟩ =
 some (j,h):=kR
theorem gH (cx:Cx) (K:Out→St→Option (V×Hp)) (s:St):au cx K BX .ret s=K .ret s:=by kernel_rfl
-- names: VB,VH,PX,wB,gH
theorem aaj (h:Hp):aj (xX s 98 wl k false) Tryz.f98 [c,d] h =
 bp (yC s k wl 98 false true (.fn (.func 147) [] []) [c,d] h) fun v1 h2=>
 bm (av s.P .geq 3 v1 (.lit (.int .i64 0))) h2 fun v3 h4=>
 some (v3,h4):=kB
theorem aa2 (k wl:Nat) (h:Hp):evF Tryz.prog xM (k+1) wl 98 [c,d] h=aj (xX (xS k) 98 wl k false) Tryz.f98 [c,d] h:=by kernel_rfl
-- names: aaj,
noncomputable def Fc:Code:=al (am Tryz.f99) [1,0]
noncomputable def CS:List Fr:=[.seq (al (am Tryz.f99) [1,1])]
theorem Ww (h:Hp):aj (xX s 99 wl k false) Tryz.f99 [c] h =
 bp (aO c h) fun v1 h2=>
 bm (aa s.P 101 v1 0) h2 fun v3 h4=>
 bm (ab s.P 3 v3 h4) h4 fun v5 h6=>
 bm (av s.P .lss 3 v5 (.lit (.int .i64 0))) h6 fun v7 h8=>
 gd v7 (
 yO s k wl 99 Tryz.f99 Fc 7 h2.length ([],[]) CS ⟨[c,v1,(.lit (.bool false)),v3,v5,v7,(.lit (.bool true)),uu,uu,uu,uu],h8⟩) (
 bm (aa s.P 101 v1 0) h8 fun v9 h10=>
 bm (ab s.P 3 v9 h10) h10 fun v11 h12=>
 bm (av s.P .gtr 3 v11 (.lit (.int .i64 20))) h12 fun v13 h14=>
 yO s k wl 99 Tryz.f99 Fc 7 h2.length ([],[]) CS ⟨[c,v1,(.lit (.bool false)),v3,v5,v7,(.lit (.bool false)),v9,v11,v13,uu],h14⟩) (
 yO s k wl 99 Tryz.f99 Fc 5 h2.length ([],[]) CS ⟨[c,v1,(.lit (.bool false)),v3,v5,v7,v7,uu,uu,uu,uu],h8⟩):=kB
theorem aaV (k wl:Nat) (h:Hp):evF Tryz.prog xM (k+1) wl 99 [c] h=aj (xX (xS k) 99 wl k false) Tryz.f99 [c] h:=by kernel_rfl
theorem C5 (h:Hp):yO s k wl 99 Tryz.f99 Fc 7 m0 ac CS ⟨[c,d,g,j,l,q,p,o,e,u,r],h⟩ =
 bm (aQ p (.lit (.bool true)) u) h fun v15 h16=>
 some (v15,h16):=kG
theorem ko (cx:Cx) (K:Out→St→Option (V×Hp)) (s:St):au cx K CS .ret s=K .ret s:=by kernel_rfl
-- names: Ww,C5,ko
theorem Eo (h:Hp):aj (xX s 100 wl k false) Tryz.f100 [c] h =
 bp (aO c h) fun v1 h2=>
 some ((.fn (.func 148) [] [v1]),h2):=kB
theorem Hu (k wl:Nat) (h:Hp):evF Tryz.prog xM (k+1) wl 100 [c] h=aj (xX (xS k) 100 wl k false) Tryz.f100 [c] h:=by kernel_rfl
-- names: Eo,
noncomputable def xj:Code:=al (am Tryz.f147) [1,0,1,0,0]
noncomputable def Af:List Fr:=[.block 0,.seq (al (am Tryz.f147) [1,1])]
theorem DG (h:Hp):aj (xX s 147 wl k false) Tryz.f147 [c,d] h =
 bp (bh s.P 24 c h) fun v1 h2=>
 yI s k wl 147 Tryz.f147 xj h2.length Af k ⟨[(V.kill h2.length c),(V.kill h2.length d),(V.kill h2.length uu),(V.kill h2.length uu),(.lit (.int .i64 0)),(V.kill h2.length uu),(V.kill h2.length c),(V.kill h2.length v1),(.lit (.int .i64 0)),.junk,.junk,.junk,.junk,.junk,.junk,.junk,.junk,.junk,.junk],bZ h2.length h2⟩:=kB
theorem Hs (k wl:Nat) (h:Hp):evF Tryz.prog xM (k+1) wl 147 [c,d] h=aj (xX (xS k) 147 wl k false) Tryz.f147 [c,d] h:=by kernel_rfl
theorem Dk (P:Program) (h:Hp):aC P Tryz.f147 .ret ⟨[c,d,g,j,l,q,p,o,e,u,r,z,A,B,F,D,E,G,I],h⟩=some (l,h):=by kernel_rfl
theorem I5 (s:Sys) (K:Out→St→Option (V×Hp)) (k wl:Nat) (rd:Bool) (n n0:Nat) (h:Hp):itX (xX s 147 wl k rd) xj n0 K (n+1) ⟨[c,d,g,j,l,q,p,o,e,u,r,z,A,B,F,D,E,G,I],h⟩ =
 bm (av s.P .lss 3 e o) h fun v3 h4=>
 cnd v3 (
 bm (ak s.P 24 c e h4) h4 fun v5 h6=>
 bm (ab s.P 101 v5 h6) h6 fun v7 h8=>
 bp (cN (xX s 147 wl k rd) false true d [v7] h8) fun v9 h10=>
 cnd v9 (
 K .ret ⟨[c,d,g,j,e,e,p,o,e,v3,e,d,c,e,v5,v7,v9,e,I],h10⟩) (
 bm (av s.P .add 3 e (.lit (.int .i64 1))) h10 fun v11 h12=>
 itX (xX s 147 wl k rd) xj n0 K n ⟨[(V.kill n0 c),(V.kill n0 d),(V.kill n0 g),(V.kill n0 j),(V.kill n0 l),(V.kill n0 e),(V.kill n0 p),(V.kill n0 o),(V.kill n0 v11),.junk,.junk,.junk,.junk,.junk,.junk,.junk,.junk,.junk,.junk],bZ n0 h12⟩)) (
 K (.exit 0) ⟨[(V.kill n0 c),(V.kill n0 d),(V.kill n0 g),(V.kill n0 j),(V.kill n0 l),(V.kill n0 q),(V.kill n0 p),(V.kill n0 o),.junk,.junk,.junk,.junk,.junk,.junk,.junk,.junk,.junk,.junk,.junk],bZ n0 h4⟩):=kI
theorem nb (h:Hp):au (xX s 147 wl k false) (aC s.P Tryz.f147) Af (.exit 0) ⟨[c,d,g,j,l,q,p,o,e,u,r,z,A,B,F,D,E,G,I],h⟩ =
 some ((.lit (.int .i64 (-1))),h):=kR
theorem eT (cx:Cx) (K:Out→St→Option (V×Hp)) (s:St):au cx K Af .ret s=K .ret s:=by kernel_rfl
-- names: DG,Dk,I5,nb,eT
noncomputable def iq:Code:=al (am Tryz.f148) [1,0,0]
noncomputable def kX:List Fr:=[.block 0]
noncomputable def uq:Code:=al (am Tryz.f148) [1,0,0,1,1,0,0,1,1,0,0]
noncomputable def ul:List Fr:=[.block 2,.block 1,.seq (al (am Tryz.f148) [1,0,0,1,1,1])]
theorem DH (h:Hp):aj (xX s 148 wl k false) Tryz.f148 [c,d] h =
 bm (ab s.P 24 d h) h fun v1 h2=>
 bp (bh s.P 24 v1 h2) fun v3 h4=>
 yI s k wl 148 Tryz.f148 iq h4.length kX k ⟨[(V.kill h4.length c),(V.kill h4.length d),(V.kill h4.length uu),(V.kill h4.length uu),(V.kill h4.length uu),(V.kill h4.length uu),(V.kill h4.length uu),(V.kill h4.length v1),(V.kill h4.length v3),(.lit (.int .i64 0)),.junk,.junk,.junk,.junk,.junk,.junk,.junk,.junk,.junk,.junk,.junk,.junk,.junk,.junk,.junk,.junk,.junk,.junk],bZ h4.length h4⟩:=kB
theorem HF (k wl:Nat) (h:Hp):evF Tryz.prog xM (k+1) wl 148 [c,d] h=aj (xX (xS k) 148 wl k false) Tryz.f148 [c,d] h:=by kernel_rfl
theorem Ds (P:Program) (h:Hp):aC P Tryz.f148 .ret ⟨[c,d,g,j,l,q,p,o,e,u,r,z,A,B,F,D,E,G,I,L,N,M,J,O,R,Q,U,T],h⟩=some (.tup [],h):=by kernel_rfl
theorem DN (s:Sys) (K:Out→St→Option (V×Hp)) (k wl:Nat) (rd:Bool) (n n0:Nat) (h:Hp):itX (xX s 148 wl k rd) iq n0 K (n+1) ⟨[c,d,g,j,l,q,p,o,e,u,r,z,A,B,F,D,E,G,I,L,N,M,J,O,R,Q,U,T],h⟩ =
 bm (av s.P .lss 3 u e) h fun v5 h6=>
 cnd v5 (
 bm (ak s.P 24 o u h6) h6 fun v7 h8=>
 bm (ab s.P 101 v7 h8) h8 fun v9 h10=>
 bp (aw s.P 101 h10) fun v11 h12=>
 bs (ai s.P wl 101 v11 v9 h12) fun h13=>
 bm (aa s.P 101 v11 1) h13 fun v14 h15=>
 bm (ab s.P 53 v14 h15) h15 fun v16 h17=>
 bp (bh s.P 53 v16 h17) fun v18 h19=>
 itX (xX s 148 wl k rd) uq h19.length (au (xX s 148 wl k rd) (bK (xX s 148 wl k rd) iq n0 K n) ul) k ⟨[(V.kill h19.length c),(V.kill h19.length d),(V.kill h19.length g),(V.kill h19.length u),(V.kill h19.length v11),(V.kill h19.length q),(V.kill h19.length p),(V.kill h19.length o),(V.kill h19.length e),(V.kill h19.length u),(V.kill h19.length v5),(V.kill h19.length u),(V.kill h19.length v7),(V.kill h19.length v9),(V.kill h19.length v14),(V.kill h19.length v16),(V.kill h19.length v18),(.lit (.int .i64 0)),.junk,.junk,.junk,.junk,.junk,.junk,.junk,.junk,.junk,(V.kill h19.length T)],bZ h19.length h19⟩) (
 K (.exit 0) ⟨[(V.kill n0 c),(V.kill n0 d),(V.kill n0 g),(V.kill n0 j),(V.kill n0 l),(V.kill n0 q),(V.kill n0 p),(V.kill n0 o),(V.kill n0 e),.junk,.junk,.junk,.junk,.junk,.junk,.junk,.junk,.junk,.junk,.junk,.junk,.junk,.junk,.junk,.junk,.junk,.junk,.junk],bZ n0 h6⟩):=kI
theorem mM (s:Sys) (k wl:Nat) (zz:List V) (h:Hp):au (xX s 148 wl k false) (aC s.P Tryz.f148) kX (.exit 0) ⟨(c::zz),h⟩ =
 some (.tup [],h):=kR
theorem Ep (s:Sys) (K:Out→St→Option (V×Hp)) (k wl:Nat) (rd:Bool) (n n0:Nat) (h:Hp):itX (xX s 148 wl k rd) uq n0 K (n+1) ⟨[c,d,g,j,l,q,p,o,e,u,r,z,A,B,F,D,E,G,I,L,N,M,J,O,R,Q,U,T],h⟩ =
 bm (av s.P .lss 3 G E) h fun v20 h21=>
 cnd v20 (
 bm (ak s.P 53 D G h21) h21 fun v22 h23=>
 bm (ab s.P 3 v22 h23) h23 fun v24 h25=>
 bp (cN (xX s 148 wl k rd) false true c [v24,j] h25) fun v26 h27=>
 bm (vUn .not v26) h27 fun v28 h29=>
 cnd v28 (
 K .ret ⟨[c,d,g,j,l,q,v24,o,e,u,r,z,A,B,F,D,E,G,v20,v22,v24,c,v24,j,v26,v28,U,T],h29⟩) (
 bm (av s.P .add 3 G (.lit (.int .i64 1))) h29 fun v30 h31=>
 itX (xX s 148 wl k rd) uq n0 K n ⟨[(V.kill n0 c),(V.kill n0 d),(V.kill n0 g),(V.kill n0 j),(V.kill n0 l),(V.kill n0 q),(V.kill n0 v24),(V.kill n0 o),(V.kill n0 e),(V.kill n0 u),(V.kill n0 r),(V.kill n0 z),(V.kill n0 A),(V.kill n0 B),(V.kill n0 F),(V.kill n0 D),(V.kill n0 E),(V.kill n0 v30),.junk,.junk,.junk,.junk,.junk,.junk,.junk,.junk,.junk,(V.kill n0 T)],bZ n0 h31⟩)) (
 K (.exit 2) ⟨[(V.kill n0 c),(V.kill n0 d),(V.kill n0 g),(V.kill n0 j),(V.kill n0 l),(V.kill n0 q),(V.kill n0 p),(V.kill n0 o),(V.kill n0 e),(V.kill n0 u),(V.kill n0 r),(V.kill n0 z),(V.kill n0 A),(V.kill n0 B),(V.kill n0 F),(V.kill n0 D),(V.kill n0 E),.junk,.junk,.junk,.junk,.junk,.junk,.junk,.junk,.junk,.junk,(V.kill n0 T)],bZ n0 h21⟩):=kI
theorem mK (s:Sys) (K:Out→St→Option (V×Hp)) (k wl:Nat) (rd:Bool) (n n0:Nat) (h:Hp):au (xX s 148 wl k rd) (bK (xX s 148 wl k rd) iq n0 K n) ul (.exit 2) ⟨[c,d,g,j,l,q,p,o,e,u,r,z,A,B,F,D,E,G,I,L,N,M,J,O,R,Q,U,T],h⟩ =
 bm (av s.P .add 3 u (.lit (.int .i64 1))) h fun v32 h33=>
 itX (xX s 148 wl k rd) iq n0 K n ⟨[(V.kill n0 c),(V.kill n0 d),(V.kill n0 g),(V.kill n0 j),(V.kill n0 l),(V.kill n0 q),(V.kill n0 p),(V.kill n0 o),(V.kill n0 e),(V.kill n0 v32),.junk,.junk,.junk,.junk,.junk,.junk,.junk,.junk,.junk,.junk,.junk,.junk,.junk,.junk,.junk,.junk,.junk,.junk],bZ n0 h33⟩:=kR
theorem eV (cx:Cx) (K:Out→St→Option (V×Hp)) (s:St):au cx K kX .ret s=K .ret s:=by kernel_rfl
theorem eP (cx:Cx) (K:Out→St→Option (V×Hp)) (s:St):au cx K ul .ret s=K .ret s:=by kernel_rfl
-- names: DH,Ds,DN,mM,Ep,mK,eV,eP
noncomputable def FJ:Code:=al (am Tryz.f97) [1,0,1,0,0]
noncomputable def FG:List Fr:=[.block 0,.seq (al (am Tryz.f97) [1,1])]
theorem YK (h:Hp):aj (xX s 97 wl k false) Tryz.f97 [c,d] h =
 bp (bh s.P 53 c h) fun v1 h2=>
 yI s k wl 97 Tryz.f97 FJ h2.length FG k ⟨[(V.kill h2.length c),(V.kill h2.length d),(V.kill h2.length uu),(V.kill h2.length uu),(.lit (.int .i64 0)),(V.kill h2.length uu),(V.kill h2.length c),(V.kill h2.length v1),(.lit (.int .i64 0)),.junk,.junk,.junk,.junk,.junk,.junk,.junk,.junk,.junk,.junk],bZ h2.length h2⟩:=kB
theorem aaW (k wl:Nat) (h:Hp):evF Tryz.prog xM (k+1) wl 97 [c,d] h=aj (xX (xS k) 97 wl k false) Tryz.f97 [c,d] h:=by kernel_rfl
theorem W7 (P:Program) (h:Hp):aC P Tryz.f97 .ret ⟨[c,d,g,j,l,q,p,o,e,u,r,z,A,B,F,D,E,G,I],h⟩=some (l,h):=by kernel_rfl
theorem Qy (s:Sys) (K:Out→St→Option (V×Hp)) (k wl:Nat) (rd:Bool) (n n0:Nat) (h:Hp):itX (xX s 97 wl k rd) FJ n0 K (n+1) ⟨[c,d,g,j,l,q,p,o,e,u,r,z,A,B,F,D,E,G,I],h⟩ =
 bm (av s.P .lss 3 e o) h fun v3 h4=>
 cnd v3 (
 bm (ak s.P 53 c e h4) h4 fun v5 h6=>
 bm (ab s.P 3 v5 h6) h6 fun v7 h8=>
 bp (cN (xX s 97 wl k rd) false true d [v7] h8) fun v9 h10=>
 cnd v9 (
 K .ret ⟨[c,d,g,j,e,e,p,o,e,v3,e,d,c,e,v5,v7,v9,e,I],h10⟩) (
 bm (av s.P .add 3 e (.lit (.int .i64 1))) h10 fun v11 h12=>
 itX (xX s 97 wl k rd) FJ n0 K n ⟨[(V.kill n0 c),(V.kill n0 d),(V.kill n0 g),(V.kill n0 j),(V.kill n0 l),(V.kill n0 e),(V.kill n0 p),(V.kill n0 o),(V.kill n0 v11),.junk,.junk,.junk,.junk,.junk,.junk,.junk,.junk,.junk,.junk],bZ n0 h12⟩)) (
 K (.exit 0) ⟨[(V.kill n0 c),(V.kill n0 d),(V.kill n0 g),(V.kill n0 j),(V.kill n0 l),(V.kill n0 q),(V.kill n0 p),(V.kill n0 o),.junk,.junk,.junk,.junk,.junk,.junk,.junk,.junk,.junk,.junk,.junk],bZ n0 h4⟩):=kI
theorem C0 (h:Hp):au (xX s 97 wl k false) (aC s.P Tryz.f97) FG (.exit 0) ⟨[c,d,g,j,l,q,p,o,e,u,r,z,A,B,F,D,E,G,I],h⟩ =
 some ((.lit (.int .i64 (-1))),h):=kR
theorem kE (cx:Cx) (K:Out→St→Option (V×Hp)) (s:St):au cx K FG .ret s=K .ret s:=by kernel_rfl
-- names: YK,W7,Qy,C0,kE
theorem ZX (h:Hp):aj (xX s 55 wl k false) Tryz.f55 [c,d] h =
 bp (yC s k wl 55 false true (.fn (.func 97) [] []) [c,d] h) fun v1 h2=>
 bm (av s.P .geq 3 v1 (.lit (.int .i64 0))) h2 fun v3 h4=>
 some (v3,h4):=kB
theorem aaH (k wl:Nat) (h:Hp):evF Tryz.prog xM (k+1) wl 55 [c,d] h=aj (xX (xS k) 55 wl k false) Tryz.f55 [c,d] h:=by kernel_rfl
-- names: ZX,
theorem Yw (h:Hp):aj (xX s 52 wl k false) Tryz.f52 [c,d] h =
 bp (yC s k wl 52 false true (.fn (.func 96) [] []) [c,d] h) fun v1 h2=>
 bm (av s.P .geq 3 v1 (.lit (.int .i64 0))) h2 fun v3 h4=>
 some (v3,h4):=kB
theorem aaJ (k wl:Nat) (h:Hp):evF Tryz.prog xM (k+1) wl 52 [c,d] h=aj (xX (xS k) 52 wl k false) Tryz.f52 [c,d] h:=by kernel_rfl
-- names: Yw,
noncomputable def FQ:Code:=al (am Tryz.f96) [1,0,1,0,0]
noncomputable def Fo:List Fr:=[.block 0,.seq (al (am Tryz.f96) [1,1])]
theorem Wq (h:Hp):aj (xX s 96 wl k false) Tryz.f96 [c,d] h =
 bp (bh s.P 28 c h) fun v1 h2=>
 yI s k wl 96 Tryz.f96 FQ h2.length Fo k ⟨[(V.kill h2.length c),(V.kill h2.length d),(V.kill h2.length uu),(V.kill h2.length uu),(.lit (.int .i64 0)),(V.kill h2.length uu),(V.kill h2.length c),(V.kill h2.length v1),(.lit (.int .i64 0)),.junk,.junk,.junk,.junk,.junk,.junk,.junk,.junk,.junk,.junk],bZ h2.length h2⟩:=kB
theorem aaF (k wl:Nat) (h:Hp):evF Tryz.prog xM (k+1) wl 96 [c,d] h=aj (xX (xS k) 96 wl k false) Tryz.f96 [c,d] h:=by kernel_rfl
theorem YQ (P:Program) (h:Hp):aC P Tryz.f96 .ret ⟨[c,d,g,j,l,q,p,o,e,u,r,z,A,B,F,D,E,G,I],h⟩=some (l,h):=by kernel_rfl
theorem PT (s:Sys) (K:Out→St→Option (V×Hp)) (k wl:Nat) (rd:Bool) (n n0:Nat) (h:Hp):itX (xX s 96 wl k rd) FQ n0 K (n+1) ⟨[c,d,g,j,l,q,p,o,e,u,r,z,A,B,F,D,E,G,I],h⟩ =
 bm (av s.P .lss 3 e o) h fun v3 h4=>
 cnd v3 (
 bm (ak s.P 28 c e h4) h4 fun v5 h6=>
 bm (ab s.P 57 v5 h6) h6 fun v7 h8=>
 bp (cN (xX s 96 wl k rd) false true d [v7] h8) fun v9 h10=>
 cnd v9 (
 K .ret ⟨[c,d,g,j,e,e,p,o,e,v3,e,d,c,e,v5,v7,v9,e,I],h10⟩) (
 bm (av s.P .add 3 e (.lit (.int .i64 1))) h10 fun v11 h12=>
 itX (xX s 96 wl k rd) FQ n0 K n ⟨[(V.kill n0 c),(V.kill n0 d),(V.kill n0 g),(V.kill n0 j),(V.kill n0 l),(V.kill n0 e),(V.kill n0 p),(V.kill n0 o),(V.kill n0 v11),.junk,.junk,.junk,.junk,.junk,.junk,.junk,.junk,.junk,.junk],bZ n0 h12⟩)) (
 K (.exit 0) ⟨[(V.kill n0 c),(V.kill n0 d),(V.kill n0 g),(V.kill n0 j),(V.kill n0 l),(V.kill n0 q),(V.kill n0 p),(V.kill n0 o),.junk,.junk,.junk,.junk,.junk,.junk,.junk,.junk,.junk,.junk,.junk],bZ n0 h4⟩):=kI
theorem Bd (h:Hp):au (xX s 96 wl k false) (aC s.P Tryz.f96) Fo (.exit 0) ⟨[c,d,g,j,l,q,p,o,e,u,r,z,A,B,F,D,E,G,I],h⟩ =
 some ((.lit (.int .i64 (-1))),h):=kR
theorem kL (cx:Cx) (K:Out→St→Option (V×Hp)) (s:St):au cx K Fo .ret s=K .ret s:=by kernel_rfl
-- names: Wq,YQ,PT,Bd,kL
noncomputable def Gd:Code:=al (am Tryz.f61) [1,0,1,0,0]
noncomputable def E1:List Fr:=[.block 0,.seq (al (am Tryz.f61) [1,1])]
theorem aeD (h:Hp):aj (xX s 61 wl k false) Tryz.f61 [c,d] h =
 bp (bh s.P 53 c h) fun v1 h2=>
 yI s k wl 61 Tryz.f61 Gd h2.length E1 k ⟨[(V.kill h2.length c),(V.kill h2.length d),(V.kill h2.length uu),(V.kill h2.length uu),(.lit (.int .i64 0)),(V.kill h2.length uu),(V.kill h2.length c),(V.kill h2.length v1),(.lit (.int .i64 0)),.junk,.junk,.junk,.junk,.junk,.junk,.junk,.junk,.junk,.junk],bZ h2.length h2⟩:=kB
theorem afp (k wl:Nat) (h:Hp):evF Tryz.prog xM (k+1) wl 61 [c,d] h=aj (xX (xS k) 61 wl k false) Tryz.f61 [c,d] h:=by kernel_rfl
theorem adu (P:Program) (h:Hp):aC P Tryz.f61 .ret ⟨[c,d,g,j,l,q,p,o,e,u,r,z,A,B,F,D,E,G,I],h⟩=some (l,h):=by kernel_rfl
theorem Qg (s:Sys) (K:Out→St→Option (V×Hp)) (k wl:Nat) (rd:Bool) (n n0:Nat) (h:Hp):itX (xX s 61 wl k rd) Gd n0 K (n+1) ⟨[c,d,g,j,l,q,p,o,e,u,r,z,A,B,F,D,E,G,I],h⟩ =
 bm (av s.P .lss 3 e o) h fun v3 h4=>
 cnd v3 (
 bm (ak s.P 53 c e h4) h4 fun v5 h6=>
 bm (ab s.P 3 v5 h6) h6 fun v7 h8=>
 bm (av s.P .eql 3 d v7) h8 fun v9 h10=>
 cnd v9 (
 K .ret ⟨[c,d,g,j,e,e,p,o,e,v3,e,d,c,e,v5,v7,v9,e,I],h10⟩) (
 bm (av s.P .add 3 e (.lit (.int .i64 1))) h10 fun v11 h12=>
 itX (xX s 61 wl k rd) Gd n0 K n ⟨[(V.kill n0 c),(V.kill n0 d),(V.kill n0 g),(V.kill n0 j),(V.kill n0 l),(V.kill n0 e),(V.kill n0 p),(V.kill n0 o),(V.kill n0 v11),.junk,.junk,.junk,.junk,.junk,.junk,.junk,.junk,.junk,.junk],bZ n0 h12⟩)) (
 K (.exit 0) ⟨[(V.kill n0 c),(V.kill n0 d),(V.kill n0 g),(V.kill n0 j),(V.kill n0 l),(V.kill n0 q),(V.kill n0 p),(V.kill n0 o),.junk,.junk,.junk,.junk,.junk,.junk,.junk,.junk,.junk,.junk,.junk],bZ n0 h4⟩):=kI
theorem Kg (h:Hp):au (xX s 61 wl k false) (aC s.P Tryz.f61) E1 (.exit 0) ⟨[c,d,g,j,l,q,p,o,e,u,r,z,A,B,F,D,E,G,I],h⟩ =
 some ((.lit (.int .i64 (-1))),h):=kR
theorem oL (cx:Cx) (K:Out→St→Option (V×Hp)) (s:St):au cx K E1 .ret s=K .ret s:=by kernel_rfl
-- names: aeD,adu,Qg,Kg,oL
theorem afc (h:Hp):aj (xX s 68 wl k false) Tryz.f68 [c,d] h =
 bp (yC s k wl 68 false true (.fn (.func 61) [] []) [c,d] h) fun v1 h2=>
 bm (av s.P .geq 3 v1 (.lit (.int .i64 0))) h2 fun v3 h4=>
 some (v3,h4):=kB
theorem af3 (k wl:Nat) (h:Hp):evF Tryz.prog xM (k+1) wl 68 [c,d] h=aj (xX (xS k) 68 wl k false) Tryz.f68 [c,d] h:=by kernel_rfl
-- names: afc,
noncomputable def IJ:Code:=al (am Tryz.f101) [1,0,1,0,1,0]
noncomputable def ui:Code:=al (am Tryz.f101) [1,0,1,0,1,0,0]
noncomputable def uc:Code:=al (am Tryz.f101) [1,0,1,0,1,0,1]
noncomputable def oa:List Fr:=[.block 0,.seq (al (am Tryz.f101) [1,1])]
theorem n8:IJ = .rangeFunc (.tmp 10) #[11,12] ui uc:=by kernel_rfl
theorem Me (h:Hp):aj (xX s 101 wl k false) Tryz.f101 [c,d] h =
 bp (aO d h) fun v1 h2=>
 bp (aw s.P 3 h2) fun v3 h4=>
 bp (yC s k wl 101 false true (.fn (.func 56) [] []) [c] h4) fun v5 h6=>
 cnd v5 (
 bp (yC s k wl 101 false true (.fn (.func 100) [] []) [c] h6) fun v7 h8=>
 a7 (xX s 101 wl k false) IJ none (au (xX s 101 wl k false) (aC s.P Tryz.f101) oa) ⟨[c,d,uu,v1,v3,uu,uu,c,v5,c,v7,uu,uu,uu,uu,uu,uu],h8⟩) (
 bs (ai s.P wl 3 v3 (.lit (.int .i64 (-1))) h6) fun h9=>
 dW [ab s.P 3 v3 h9] h9):=kB
theorem RC (k wl:Nat) (h:Hp):evF Tryz.prog xM (k+1) wl 101 [c,d] h=aj (xX (xS k) 101 wl k false) Tryz.f101 [c,d] h:=by kernel_rfl
theorem Mc (P:Program) (h:Hp):aC P Tryz.f101 .ret ⟨[c,d,g,j,l,q,p,o,e,u,r,z,A,B,F,D,E],h⟩=dW [ab P 3 l h] h:=by kernel_rfl
theorem xi (s:Sys) (k wl:Nat) (zz:List V) (h:Hp):au (xX s 101 wl k false) (aC s.P Tryz.f101) oa .norm ⟨(c::d::g::j::l::zz),h⟩ =
 bs (ai s.P wl 3 l (.lit (.int .i64 (-1))) h) fun h10=>
 dW [ab s.P 3 l h10] h10:=kR
theorem dw (s:Sys) (K:Out→St→Option (V×Hp)) (k wl:Nat) (rd:Bool) (h:Hp):au (xX s 101 wl k rd) K [.seq uc] .norm ⟨[c,d,g,j,l,q,p,o,e,u,r,z,A,B,F,D,E],h⟩ =
 bm (ab s.P 3 j h) h fun v11 h12=>
 bm (av s.P .eql 3 q v11) h12 fun v13 h14=>
 cnd v13 (
 bs (ai s.P wl 3 l p h14) fun h15=>
 K .ret ⟨[c,d,g,j,l,q,p,o,e,u,r,z,A,q,v11,v13,p],h15⟩) (
 K .norm ⟨[c,d,g,j,l,q,p,o,e,u,r,z,A,q,v11,v13,E],h14⟩):=kR
theorem dz (s:Sys) (K:Out→St→Option (V×Hp)) (k wl:Nat) (rd:Bool) (h:Hp):au (xX s 101 wl k rd) K [.seq ui] .norm ⟨[c,d,g,j,l,q,p,o,e,u,r,z,A,B,F,D,E],h⟩ =
 K .norm ⟨[c,d,g,j,l,z,A,o,e,u,r,z,A,B,F,D,E],h⟩:=kR
theorem kY (cx:Cx) (K:Out→St→Option (V×Hp)) (s:St):au cx K oa .ret s=K .ret s:=by kernel_rfl
-- names: Me,Mc,xi,dw,dz,kY
-- range over a function at [1,0,1,0,1,0]
end
end Go.Ab
set_option maxRecDepth 100000
set_option linter.unusedVariables false
namespace Go.Ab
open Go.Proofs
section
variable (s:Sys) (k wl:Nat) (m0:Nat) (ac:List Nat×List Nat) (c d e o g y p l j v r u z q A D E F B L G M N I O J Q R U W T t2 t3 t4 Y Z t0 t1 t7 t5 t8 t9 t6 X ta tb tc td te tf tg th ti tj:V)
noncomputable def xw:Code:=al (am Tryz.f146) [1,0]
noncomputable def pP:List Fr:=[.seq (al (am Tryz.f146) [1,1])]
theorem Vt (h:Hp):aj (xX s 146 wl k false) Tryz.f146 [c,d] h =
 bp (aO c h) fun v1 h2=>
 bm (ab s.P 24 v1 h2) h2 fun v3 h4=>
 bp (yC s k wl 146 false true (.fn (.func 56) [] []) [v3] h4) fun v5 h6=>
 gd v5 (
 bp (yC s k wl 146 false true (.fn (.func 170) [] []) [d,(.fn (.func 171) [] [v1])] h6) fun v7 h8=>
 bm (vUn .not v7) h8 fun v9 h10=>
 yO s k wl 146 Tryz.f146 xw 7 h2.length ([],[]) pP ⟨[c,d,v1,uu,(.lit (.bool false)),v3,v5,(.lit (.bool true)),d,(.fn (.func 171) [] [v1]),v7,v9,uu],h10⟩) (
 yO s k wl 146 Tryz.f146 xw 7 h2.length ([],[]) pP ⟨[c,d,v1,uu,(.lit (.bool false)),v3,v5,(.lit (.bool false)),uu,uu,uu,uu,uu],h6⟩) (
 yO s k wl 146 Tryz.f146 xw 4 h2.length ([],[]) pP ⟨[c,d,v1,uu,(.lit (.bool false)),v3,v5,v5,uu,uu,uu,uu,uu],h6⟩):=kB
theorem ZR (k wl:Nat) (h:Hp):evF Tryz.prog xM (k+1) wl 146 [c,d] h=aj (xX (xS k) 146 wl k false) Tryz.f146 [c,d] h:=by kernel_rfl
theorem Db (h:Hp):yO s k wl 146 Tryz.f146 xw 7 m0 ac pP ⟨[c,d,e,o,g,y,p,l,j,v,r,u,z],h⟩ =
 bm (aQ l u (.lit (.bool false))) h fun v11 h12=>
 some (v11,h12):=kG
theorem nf (cx:Cx) (K:Out→St→Option (V×Hp)) (s:St):au cx K pP .ret s=K .ret s:=by kernel_rfl
-- names: Vt,Db,nf
noncomputable def Aq:Code:=al (am Tryz.f162) [1,0,0]
noncomputable def r6:List Fr:=[.seq (al (am Tryz.f162) [1,0,1]),.seq (al (am Tryz.f162) [1,1])]
theorem Xr (h:Hp):aj (xX s 162 wl k false) Tryz.f162 [c,d] h =
 bp (aw s.P 194 h) fun v1 h2=>
 bp (bh s.P 63 d h2) fun v3 h4=>
 bm (av s.P .eql 3 v3 (.lit (.int .i64 0))) h4 fun v5 h6=>
 gd v5 (
 yO s k wl 162 Tryz.f162 Aq 8 h2.length ([],[]) r6 ⟨[c,d,uu,uu,v1,uu,uu,d,v3,v5,(.lit (.bool true)),uu,uu,uu,uu,uu,uu,uu,uu,uu,uu,uu,uu,uu,uu,uu,uu,uu,uu,uu,uu,uu,uu,uu,uu,uu,uu,uu,uu,uu,uu,uu,uu,uu,uu,uu,uu,uu,uu,uu,uu,uu,uu,uu],h6⟩) (
 bp (yC s k wl 162 false true (.fn (.func 146) [] []) [c,d] h6) fun v7 h8=>
 bm (vUn .not v7) h8 fun v9 h10=>
 yO s k wl 162 Tryz.f162 Aq 8 h2.length ([],[]) r6 ⟨[c,d,uu,uu,v1,uu,uu,d,v3,v5,(.lit (.bool false)),c,d,v7,v9,uu,uu,uu,uu,uu,uu,uu,uu,uu,uu,uu,uu,uu,uu,uu,uu,uu,uu,uu,uu,uu,uu,uu,uu,uu,uu,uu,uu,uu,uu,uu,uu,uu,uu,uu,uu,uu,uu,uu],h10⟩) (
 yO s k wl 162 Tryz.f162 Aq 5 h2.length ([],[]) r6 ⟨[c,d,uu,uu,v1,uu,uu,d,v3,v5,v5,uu,uu,uu,uu,uu,uu,uu,uu,uu,uu,uu,uu,uu,uu,uu,uu,uu,uu,uu,uu,uu,uu,uu,uu,uu,uu,uu,uu,uu,uu,uu,uu,uu,uu,uu,uu,uu,uu,uu,uu,uu,uu,uu],h6⟩):=kB
theorem abQ (k wl:Nat) (h:Hp):evF Tryz.prog xM (k+1) wl 162 [c,d] h=aj (xX (xS k) 162 wl k false) Tryz.f162 [c,d] h:=by kernel_rfl
theorem Lv (h:Hp):yO s k wl 162 Tryz.f162 Aq 8 m0 ac r6 ⟨[c,d,e,o,g,y,p,l,j,v,r,u,z,q,A,D,E,F,B,L,G,M,N,I,O,J,Q,R,U,W,T,t2,t3,t4,Y,Z,t0,t1,t7,t5,t8,t9,t6,X,ta,tb,tc,td,te,tf,tg,th,ti,tj],h⟩ =
 bm (aQ r (.lit (.bool true)) A) h fun v11 h12=>
 cnd v11 (
 bm (a9 s.P 194 []) h12 fun v13 h14=>
 bs (ai s.P wl 194 g v13 h14) fun h15=>
 dW [ab s.P 194 g h15] h15) (
 bp (bh s.P 63 d h12) fun v16 h17=>
 bm (av s.P .sub 3 v16 (.lit (.int .i64 1))) h17 fun v18 h19=>
 bm (ak s.P 63 d v18 h19) h19 fun v20 h21=>
 bm (ab s.P 129 v20 h21) h21 fun v22 h23=>
 bp (aw s.P 129 h23) fun v24 h25=>
 bs (ai s.P wl 129 v24 v22 h25) fun h26=>
 bm (aa s.P 129 v24 0) h26 fun v27 h28=>
 bm (ab s.P 3 v27 h28) h28 fun v29 h30=>
 bm (ak s.P 24 c v29 h30) h30 fun v31 h32=>
 bm (ab s.P 101 v31 h32) h32 fun v33 h34=>
 bp (aw s.P 101 h34) fun v35 h36=>
 bs (ai s.P wl 101 v35 v33 h36) fun h37=>
 bm (aa s.P 129 v24 1) h37 fun v38 h39=>
 bm (ab s.P 3 v38 h39) h39 fun v40 h41=>
 bm (aa s.P 101 v35 0) h41 fun v42 h43=>
 bm (ab s.P 3 v42 h43) h43 fun v44 h45=>
 bm (av s.P .lss 3 v40 v44) h45 fun v46 h47=>
 cnd v46 (
 bm (aa s.P 129 v24 0) h47 fun v48 h49=>
 bm (ab s.P 3 v48 h49) h49 fun v50 h51=>
 bm (a9 s.P 194 [(0,(.lit (.int .i64 1))),(1,v50)]) h51 fun v52 h53=>
 bs (ai s.P wl 194 g v52 h53) fun h54=>
 dW [ab s.P 194 g h54] h54) (
 bm (aa s.P 129 v24 2) h47 fun v55 h56=>
 bm (ab s.P 3 v55 h56) h56 fun v57 h58=>
 bm (aa s.P 101 v35 1) h58 fun v59 h60=>
 bm (ab s.P 53 v59 h60) h60 fun v61 h62=>
 bp (bh s.P 53 v61 h62) fun v63 h64=>
 bm (av s.P .lss 3 v57 v63) h64 fun v65 h66=>
 cnd v65 (
 bm (aa s.P 101 v35 1) h66 fun v67 h68=>
 bm (ab s.P 53 v67 h68) h68 fun v69 h70=>
 bm (aa s.P 129 v24 2) h70 fun v71 h72=>
 bm (ab s.P 3 v71 h72) h72 fun v73 h74=>
 bm (ak s.P 53 v69 v73 h74) h74 fun v75 h76=>
 bm (ab s.P 3 v75 h76) h76 fun v77 h78=>
 bm (a9 s.P 194 [(0,(.lit (.int .i64 2))),(1,v77)]) h78 fun v79 h80=>
 bs (ai s.P wl 194 g v79 h80) fun h81=>
 dW [ab s.P 194 g h81] h81) (
 bm (aa s.P 129 v24 0) h66 fun v82 h83=>
 bm (ab s.P 3 v82 h83) h83 fun v84 h85=>
 bm (a9 s.P 194 [(0,(.lit (.int .i64 3))),(1,v84)]) h85 fun v86 h87=>
 bs (ai s.P wl 194 g v86 h87) fun h88=>
 dW [ab s.P 194 g h88] h88))):=kG
theorem pY (cx:Cx) (K:Out→St→Option (V×Hp)) (s:St):au cx K r6 .ret s=K .ret s:=by kernel_rfl
-- names: Xr,Lv,pY
theorem Xm (h:Hp):aj (xX s 163 wl k false) Tryz.f163 [c,d] h =
 bp (some (.own h.length 0 0,h++[.rows 0 [] 0 true])) fun v1 h2=>
 bp (yC s k wl 163 false true (.fn (.func 79) [] []) [d] h2) fun v3 h4=>
 bp (yC s k wl 163 false true (.fn (.func 182) [] []) [] h4) fun v5 h6=>
 bp (yC s k wl 163 false true (.fn (.func 162) [] []) [c,d] h6) fun v7 h8=>
 bm (ua s.P 194 v7 0) h8 fun v9 h10=>
 bm (fo s.P 201 v5 v9 true h10) h10 fun v11 h12=>
 bm (ar v11 0) h12 fun v13 h14=>
 bm (ar v11 1) h14 fun v15 h16=>
 cnd v15 (
 bp (yC s k wl 163 false true v13 [v3] h16) fun v17 h18=>
 some (v17,h18)) (
 some (v3,h16)):=kB
theorem aek (k wl:Nat) (h:Hp):evF Tryz.prog xM (k+1) wl 163 [c,d] h=aj (xX (xS k) 163 wl k false) Tryz.f163 [c,d] h:=by kernel_rfl
-- names: Xm,
theorem RF (h:Hp):aj (xX s 170 wl k false) Tryz.f170 [c,d] h =
 bp (yC s k wl 170 false true (.fn (.func 206) [] []) [c,d] h) fun v1 h2=>
 bm (av s.P .geq 3 v1 (.lit (.int .i64 0))) h2 fun v3 h4=>
 some (v3,h4):=kB
theorem ZB (k wl:Nat) (h:Hp):evF Tryz.prog xM (k+1) wl 170 [c,d] h=aj (xX (xS k) 170 wl k false) Tryz.f170 [c,d] h:=by kernel_rfl
-- names: RF,
noncomputable def cz:Code:=al (am Tryz.f171) [1,1,1,0]
noncomputable def cj:List Fr:=[.seq (al (am Tryz.f171) [1,1,1,1])]
theorem Ul (h:Hp):aj (xX s 171 wl k false) Tryz.f171 [c,d] h =
 bp (aO c h) fun v1 h2=>
 bm (aa s.P 129 v1 0) h2 fun v3 h4=>
 bm (ab s.P 3 v3 h4) h4 fun v5 h6=>
 bm (ab s.P 24 d h6) h6 fun v7 h8=>
 bp (bh s.P 24 v7 h8) fun v9 h10=>
 bm (av s.P .sub 3 v9 (.lit (.int .i64 1))) h10 fun v11 h12=>
 bp (yC s k wl 171 false true (.fn (.func 172) [] []) [v5,v11] h12) fun v13 h14=>
 bm (vUn .not v13) h14 fun v15 h16=>
 cnd v15 (
 some ((.lit (.bool true)),h16)) (
 bm (ab s.P 24 d h16) h16 fun v17 h18=>
 bm (aa s.P 129 v1 0) h18 fun v19 h20=>
 bm (ab s.P 3 v19 h20) h20 fun v21 h22=>
 bm (ak s.P 24 v17 v21 h22) h22 fun v23 h24=>
 bm (ab s.P 101 v23 h24) h24 fun v25 h26=>
 bp (aw s.P 101 h26) fun v27 h28=>
 bs (ai s.P wl 101 v27 v25 h28) fun h29=>
 bm (aa s.P 129 v1 1) h29 fun v30 h31=>
 bm (ab s.P 3 v30 h31) h31 fun v32 h33=>
 bm (aa s.P 101 v27 0) h33 fun v34 h35=>
 bm (ab s.P 3 v34 h35) h35 fun v36 h37=>
 bp (yC s k wl 171 false true (.fn (.func 172) [] []) [v32,v36] h37) fun v38 h39=>
 bm (vUn .not v38) h39 fun v40 h41=>
 gd v40 (
 yO s k wl 171 Tryz.f171 cz 14 h29.length ([],[]) cj ⟨[c,d,v1,(.lit (.bool false)),v27,v3,v5,v7,v9,v11,v13,v15,v17,v19,v21,v23,v25,v30,v32,v34,v36,v38,v40,(.lit (.bool true)),uu,uu,uu,uu,uu,uu,uu,uu,uu,uu,uu,uu,uu,uu,uu,uu,uu,uu,uu,uu],h41⟩) (
 bm (aa s.P 129 v1 2) h41 fun v42 h43=>
 bm (ab s.P 3 v42 h43) h43 fun v44 h45=>
 bm (aa s.P 101 v27 1) h45 fun v46 h47=>
 bm (ab s.P 53 v46 h47) h47 fun v48 h49=>
 bp (bh s.P 53 v48 h49) fun v50 h51=>
 bp (yC s k wl 171 false true (.fn (.func 172) [] []) [v44,v50] h51) fun v52 h53=>
 bm (vUn .not v52) h53 fun v54 h55=>
 yO s k wl 171 Tryz.f171 cz 14 h29.length ([],[]) cj ⟨[c,d,v1,(.lit (.bool false)),v27,v3,v5,v7,v9,v11,v13,v15,v17,v19,v21,v23,v25,v30,v32,v34,v36,v38,v40,(.lit (.bool false)),v42,v44,v46,v48,v50,v52,v54,uu,uu,uu,uu,uu,uu,uu,uu,uu,uu,uu,uu,uu],h55⟩) (
 yO s k wl 171 Tryz.f171 cz 8 h29.length ([],[]) cj ⟨[c,d,v1,(.lit (.bool false)),v27,v3,v5,v7,v9,v11,v13,v15,v17,v19,v21,v23,v25,v30,v32,v34,v36,v38,v40,v40,uu,uu,uu,uu,uu,uu,uu,uu,uu,uu,uu,uu,uu,uu,uu,uu,uu,uu,uu,uu],h41⟩)):=kB
theorem Ya (k wl:Nat) (h:Hp):evF Tryz.prog xM (k+1) wl 171 [c,d] h=aj (xX (xS k) 171 wl k false) Tryz.f171 [c,d] h:=by kernel_rfl
theorem DQ (h:Hp):yO s k wl 171 Tryz.f171 cz 14 m0 ac cj ⟨[c,d,e,o,g,y,p,l,j,v,r,u,z,q,A,D,E,F,B,L,G,M,N,I,O,J,Q,R,U,W,T,t2,t3,t4,Y,Z,t0,t1,t7,t5,t8,t9,t6,X],h⟩ =
 bm (aQ I (.lit (.bool true)) T) h fun v56 h57=>
 gd v56 (
 yO s k wl 171 Tryz.f171 cz 26 m0 ac cj ⟨[c,d,e,o,g,y,p,l,j,v,r,u,z,q,A,D,E,F,B,L,G,M,N,I,O,J,Q,R,U,W,T,v56,(.lit (.bool true)),uu,uu,uu,uu,uu,uu,uu,uu,uu,uu,X],h57⟩) (
 bm (aa s.P 129 e 1) h57 fun v58 h59=>
 bm (ab s.P 3 v58 h59) h59 fun v60 h61=>
 bm (aa s.P 101 g 0) h61 fun v62 h63=>
 bm (ab s.P 3 v62 h63) h63 fun v64 h65=>
 bm (av s.P .lss 3 v60 v64) h65 fun v66 h67=>
 yO s k wl 171 Tryz.f171 cz 22 m0 ac cj ⟨[c,d,e,o,g,y,p,l,j,v,r,u,z,q,A,D,E,F,B,L,G,M,N,I,O,J,Q,R,U,W,T,v56,(.lit (.bool false)),v58,v60,v62,v64,v66,v66,t5,t8,t9,t6,X],h67⟩) (
 yO s k wl 171 Tryz.f171 cz 17 m0 ac cj ⟨[c,d,e,o,g,y,p,l,j,v,r,u,z,q,A,D,E,F,B,L,G,M,N,I,O,J,Q,R,U,W,T,v56,v56,uu,Y,Z,t0,t1,t7,t5,t8,t9,t6,X],h57⟩):=kG
theorem Ei (h:Hp):yO s k wl 171 Tryz.f171 cz 26 m0 ac cj ⟨[c,d,e,o,g,y,p,l,j,v,r,u,z,q,A,D,E,F,B,L,G,M,N,I,O,J,Q,R,U,W,T,t2,t3,t4,Y,Z,t0,t1,t7,t5,t8,t9,t6,X],h⟩ =
 bm (aQ t3 (.lit (.bool true)) t6) h fun v68 h69=>
 some (v68,h69):=kG
theorem Eb (h:Hp):yO s k wl 171 Tryz.f171 cz 22 m0 ac cj ⟨[c,d,e,o,g,y,p,l,j,v,r,u,z,q,A,D,E,F,B,L,G,M,N,I,O,J,Q,R,U,W,T,t2,t3,t4,Y,Z,t0,t1,t7,t5,t8,t9,t6,X],h⟩ =
 gd t7 (
 bm (aa s.P 129 e 2) h fun v70 h71=>
 bm (ab s.P 3 v70 h71) h71 fun v72 h73=>
 bm (av s.P .gtr 3 v72 (.lit (.int .i64 0))) h73 fun v74 h75=>
 yO s k wl 171 Tryz.f171 cz 25 m0 ac cj ⟨[c,d,e,o,g,y,p,l,j,v,r,u,z,q,A,D,E,F,B,L,G,M,N,I,O,J,Q,R,U,W,T,t2,t3,t4,Y,Z,t0,t1,(.lit (.bool true)),v70,v72,v74,t6,X],h75⟩) (
 yO s k wl 171 Tryz.f171 cz 25 m0 ac cj ⟨[c,d,e,o,g,y,p,l,j,v,r,u,z,q,A,D,E,F,B,L,G,M,N,I,O,J,Q,R,U,W,T,t2,t3,t4,Y,Z,t0,t1,(.lit (.bool false)),uu,uu,uu,t6,X],h⟩) (
 yO s k wl 171 Tryz.f171 cz 23 m0 ac cj ⟨[c,d,e,o,g,y,p,l,j,v,r,u,z,q,A,D,E,F,B,L,G,M,N,I,O,J,Q,R,U,W,T,t2,t3,t4,Y,Z,t0,t1,t7,uu,t8,t9,t6,X],h⟩):=kG
theorem D7 (h:Hp):yO s k wl 171 Tryz.f171 cz 25 m0 ac cj ⟨[c,d,e,o,g,y,p,l,j,v,r,u,z,q,A,D,E,F,B,L,G,M,N,I,O,J,Q,R,U,W,T,t2,t3,t4,Y,Z,t0,t1,t7,t5,t8,t9,t6,X],h⟩ =
 gd t3 (
 yO s k wl 171 Tryz.f171 cz 26 m0 ac cj ⟨[c,d,e,o,g,y,p,l,j,v,r,u,z,q,A,D,E,F,B,L,G,M,N,I,O,J,Q,R,U,W,T,t2,(.lit (.bool true)),t4,Y,Z,t0,t1,t7,t5,t8,t9,uu,X],h⟩) (
 bm (aQ t7 t9 (.lit (.bool false))) h fun v76 h77=>
 yO s k wl 171 Tryz.f171 cz 26 m0 ac cj ⟨[c,d,e,o,g,y,p,l,j,v,r,u,z,q,A,D,E,F,B,L,G,M,N,I,O,J,Q,R,U,W,T,t2,(.lit (.bool false)),t4,Y,Z,t0,t1,t7,t5,t8,t9,v76,X],h77⟩) (
 yO s k wl 171 Tryz.f171 cz 26 m0 ac cj ⟨[c,d,e,o,g,y,p,l,j,v,r,u,z,q,A,D,E,F,B,L,G,M,N,I,O,J,Q,R,U,W,T,t2,t3,t4,Y,Z,t0,t1,t7,t5,t8,t9,uu,X],h⟩):=kG
theorem DU (h:Hp):yO s k wl 171 Tryz.f171 cz 23 m0 ac cj ⟨[c,d,e,o,g,y,p,l,j,v,r,u,z,q,A,D,E,F,B,L,G,M,N,I,O,J,Q,R,U,W,T,t2,t3,t4,Y,Z,t0,t1,t7,t5,t8,t9,t6,X],h⟩ =
 gd t7 (
 bm (ab s.P 3 t5 h) h fun v78 h79=>
 bm (av s.P .gtr 3 v78 (.lit (.int .i64 0))) h79 fun v80 h81=>
 yO s k wl 171 Tryz.f171 cz 25 m0 ac cj ⟨[c,d,e,o,g,y,p,l,j,v,r,u,z,q,A,D,E,F,B,L,G,M,N,I,O,J,Q,R,U,W,T,t2,t3,t4,Y,Z,t0,t1,(.lit (.bool true)),t5,v78,v80,t6,X],h81⟩) (
 yO s k wl 171 Tryz.f171 cz 25 m0 ac cj ⟨[c,d,e,o,g,y,p,l,j,v,r,u,z,q,A,D,E,F,B,L,G,M,N,I,O,J,Q,R,U,W,T,t2,t3,t4,Y,Z,t0,t1,(.lit (.bool false)),t5,uu,uu,t6,X],h⟩) (
 yO s k wl 171 Tryz.f171 cz 24 m0 ac cj ⟨[c,d,e,o,g,y,p,l,j,v,r,u,z,q,A,D,E,F,B,L,G,M,N,I,O,J,Q,R,U,W,T,t2,t3,t4,Y,Z,t0,t1,t7,t5,uu,t9,t6,X],h⟩):=kG
theorem EM (h:Hp):yO s k wl 171 Tryz.f171 cz 24 m0 ac cj ⟨[c,d,e,o,g,y,p,l,j,v,r,u,z,q,A,D,E,F,B,L,G,M,N,I,O,J,Q,R,U,W,T,t2,t3,t4,Y,Z,t0,t1,t7,t5,t8,t9,t6,X],h⟩ =
 gd t7 (
 bm (av s.P .gtr 3 t8 (.lit (.int .i64 0))) h fun v82 h83=>
 yO s k wl 171 Tryz.f171 cz 25 m0 ac cj ⟨[c,d,e,o,g,y,p,l,j,v,r,u,z,q,A,D,E,F,B,L,G,M,N,I,O,J,Q,R,U,W,T,t2,t3,t4,Y,Z,t0,t1,(.lit (.bool true)),t5,t8,v82,t6,X],h83⟩) (
 yO s k wl 171 Tryz.f171 cz 25 m0 ac cj ⟨[c,d,e,o,g,y,p,l,j,v,r,u,z,q,A,D,E,F,B,L,G,M,N,I,O,J,Q,R,U,W,T,t2,t3,t4,Y,Z,t0,t1,(.lit (.bool false)),t5,t8,uu,t6,X],h⟩) (
 yO s k wl 171 Tryz.f171 cz 25 m0 ac cj ⟨[c,d,e,o,g,y,p,l,j,v,r,u,z,q,A,D,E,F,B,L,G,M,N,I,O,J,Q,R,U,W,T,t2,t3,t4,Y,Z,t0,t1,t7,t5,t8,uu,t6,X],h⟩):=kG
theorem mL (cx:Cx) (K:Out→St→Option (V×Hp)) (s:St):au cx K cj .ret s=K .ret s:=by kernel_rfl
-- names: Ul,DQ,Ei,Eb,D7,DU,EM,mL
noncomputable def xq:Code:=al (am Tryz.f172) [1,0]
noncomputable def uK:List Fr:=[.seq (al (am Tryz.f172) [1,1])]
theorem ZN (h:Hp):aj (xX s 172 wl k false) Tryz.f172 [c,d] h =
 bm (av s.P .geq 3 c (.lit (.int .i64 0))) h fun v1 h2=>
 gd v1 (
 bm (av s.P .leq 3 c d) h2 fun v3 h4=>
 yO s k wl 172 Tryz.f172 xq 6 h.length ([],[]) uK ⟨[c,d,uu,uu,(.lit (.bool false)),c,v1,(.lit (.bool true)),c,d,v3,uu],h4⟩) (
 yO s k wl 172 Tryz.f172 xq 6 h.length ([],[]) uK ⟨[c,d,uu,uu,(.lit (.bool false)),c,v1,(.lit (.bool false)),uu,uu,uu,uu],h2⟩) (
 yO s k wl 172 Tryz.f172 xq 4 h.length ([],[]) uK ⟨[c,d,uu,uu,(.lit (.bool false)),c,v1,v1,uu,uu,uu,uu],h2⟩):=kB
theorem abw (k wl:Nat) (h:Hp):evF Tryz.prog xM (k+1) wl 172 [c,d] h=aj (xX (xS k) 172 wl k false) Tryz.f172 [c,d] h:=by kernel_rfl
theorem JC (h:Hp):yO s k wl 172 Tryz.f172 xq 6 m0 ac uK ⟨[c,d,e,o,g,y,p,l,j,v,r,u],h⟩ =
 bm (aQ l r (.lit (.bool false))) h fun v5 h6=>
 some (v5,h6):=kG
theorem rm (cx:Cx) (K:Out→St→Option (V×Hp)) (s:St):au cx K uK .ret s=K .ret s:=by kernel_rfl
-- names: ZN,JC,rm
noncomputable def Ah:Code:=al (am Tryz.f181) [1,1,0,0]
noncomputable def uh:List Fr:=[.seq (al (am Tryz.f181) [1,1,0,1]),.seq (al (am Tryz.f181) [1,1,1])]
theorem Wd (h:Hp):aj (xX s 181 wl k false) Tryz.f181 [c,d,e] h =
 bp (some (.own h.length 0 0,h++[.rows 0 [] 0 true])) fun v1 h2=>
 bp (yC s k wl 181 false true (.fn (.func 79) [] []) [d] h2) fun v3 h4=>
 bp (yC s k wl 181 false true (.fn (.func 146) [] []) [c,d] h4) fun v5 h6=>
 bm (vUn .not v5) h6 fun v7 h8=>
 gd v7 (
 yO s k wl 181 Tryz.f181 Ah 11 h4.length ([],[]) uh ⟨[c,d,e,uu,uu,uu,v1,v3,d,v3,c,d,v5,v7,(.lit (.bool true)),uu,uu,uu,uu,uu,uu,uu,uu,uu,uu,uu,uu,uu],h8⟩) (
 bp (bh s.P 24 c h8) fun v9 h10=>
 bm (av s.P .sub 3 v9 (.lit (.int .i64 1))) h10 fun v11 h12=>
 bp (yC s k wl 181 false true (.fn (.func 172) [] []) [e,v11] h12) fun v13 h14=>
 bm (vUn .not v13) h14 fun v15 h16=>
 yO s k wl 181 Tryz.f181 Ah 11 h4.length ([],[]) uh ⟨[c,d,e,uu,uu,uu,v1,v3,d,v3,c,d,v5,v7,(.lit (.bool false)),e,c,v9,v11,v13,v15,uu,uu,uu,uu,uu,uu,uu],h16⟩) (
 yO s k wl 181 Tryz.f181 Ah 6 h4.length ([],[]) uh ⟨[c,d,e,uu,uu,uu,v1,v3,d,v3,c,d,v5,v7,v7,uu,uu,uu,uu,uu,uu,uu,uu,uu,uu,uu,uu,uu],h8⟩):=kB
theorem acU (k wl:Nat) (h:Hp):evF Tryz.prog xM (k+1) wl 181 [c,d,e] h=aj (xX (xS k) 181 wl k false) Tryz.f181 [c,d,e] h:=by kernel_rfl
theorem KT (h:Hp):yO s k wl 181 Tryz.f181 Ah 11 m0 ac uh ⟨[c,d,e,o,g,y,p,l,j,v,r,u,z,q,A,D,E,F,B,L,G,M,N,I,O,J,Q,R],h⟩ =
 bm (aQ A (.lit (.bool true)) G) h fun v17 h18=>
 cnd v17 (
 some (l,h18)) (
 bm (a9 s.P 129 [(0,e)]) h18 fun v19 h20=>
 bp (az s.P wl 63 1 [(0,v19)] h20) fun v21 h22=>
 bp (lF s.P wl 63 63 l v21 h22) fun v23 h24=>
 some (v23,h24)):=kG
theorem rR (cx:Cx) (K:Out→St→Option (V×Hp)) (s:St):au cx K uh .ret s=K .ret s:=by kernel_rfl
-- names: Wd,KT,rR
theorem Xx (h:Hp):aj (xX s 182 wl k false) Tryz.f182 [] h =
 bp (some (.map h.length,h++[.map []])) fun v1 h2=>
 bs (dY s.P wl 201 v1 (.lit (.int .i64 1)) (.fn (.func 210) [] []) h2) fun h3=>
 bs (dY s.P wl 201 v1 (.lit (.int .i64 2)) (.fn (.func 211) [] []) h3) fun h4=>
 bs (dY s.P wl 201 v1 (.lit (.int .i64 3)) (.fn (.func 212) [] []) h4) fun h5=>
 some (v1,h5):=kB
theorem aew (k wl:Nat) (h:Hp):evF Tryz.prog xM (k+1) wl 182 [] h=aj (xX (xS k) 182 wl k false) Tryz.f182 [] h:=by kernel_rfl
-- names: Xx,
noncomputable def Aw:Code:=al (am Tryz.f206) [1,0,1,0,0]
noncomputable def Aj:List Fr:=[.block 0,.seq (al (am Tryz.f206) [1,1])]
theorem UV (h:Hp):aj (xX s 206 wl k false) Tryz.f206 [c,d] h =
 bp (bh s.P 63 c h) fun v1 h2=>
 yI s k wl 206 Tryz.f206 Aw h2.length Aj k ⟨[(V.kill h2.length c),(V.kill h2.length d),(V.kill h2.length uu),(V.kill h2.length uu),(.lit (.int .i64 0)),(V.kill h2.length uu),(V.kill h2.length c),(V.kill h2.length v1),(.lit (.int .i64 0)),.junk,.junk,.junk,.junk,.junk,.junk,.junk,.junk,.junk,.junk],bZ h2.length h2⟩:=kB
theorem Y5 (k wl:Nat) (h:Hp):evF Tryz.prog xM (k+1) wl 206 [c,d] h=aj (xX (xS k) 206 wl k false) Tryz.f206 [c,d] h:=by kernel_rfl
theorem Ts (P:Program) (h:Hp):aC P Tryz.f206 .ret ⟨[c,d,e,o,g,y,p,l,j,v,r,u,z,q,A,D,E,F,B],h⟩=some (g,h):=by kernel_rfl
theorem Ik (s:Sys) (K:Out→St→Option (V×Hp)) (k wl:Nat) (rd:Bool) (n n0:Nat) (h:Hp):itX (xX s 206 wl k rd) Aw n0 K (n+1) ⟨[c,d,e,o,g,y,p,l,j,v,r,u,z,q,A,D,E,F,B],h⟩ =
 bm (av s.P .lss 3 j l) h fun v3 h4=>
 cnd v3 (
 bm (ak s.P 63 c j h4) h4 fun v5 h6=>
 bm (ab s.P 129 v5 h6) h6 fun v7 h8=>
 bp (cN (xX s 206 wl k rd) false true d [v7] h8) fun v9 h10=>
 cnd v9 (
 K .ret ⟨[c,d,e,o,j,j,p,l,j,v3,j,d,c,j,v5,v7,v9,j,B],h10⟩) (
 bm (av s.P .add 3 j (.lit (.int .i64 1))) h10 fun v11 h12=>
 itX (xX s 206 wl k rd) Aw n0 K n ⟨[(V.kill n0 c),(V.kill n0 d),(V.kill n0 e),(V.kill n0 o),(V.kill n0 g),(V.kill n0 j),(V.kill n0 p),(V.kill n0 l),(V.kill n0 v11),.junk,.junk,.junk,.junk,.junk,.junk,.junk,.junk,.junk,.junk],bZ n0 h12⟩)) (
 K (.exit 0) ⟨[(V.kill n0 c),(V.kill n0 d),(V.kill n0 e),(V.kill n0 o),(V.kill n0 g),(V.kill n0 y),(V.kill n0 p),(V.kill n0 l),.junk,.junk,.junk,.junk,.junk,.junk,.junk,.junk,.junk,.junk,.junk],bZ n0 h4⟩):=kI
theorem D2 (h:Hp):au (xX s 206 wl k false) (aC s.P Tryz.f206) Aj (.exit 0) ⟨[c,d,e,o,g,y,p,l,j,v,r,u,z,q,A,D,E,F,B],h⟩ =
 some ((.lit (.int .i64 (-1))),h):=kR
theorem mY (cx:Cx) (K:Out→St→Option (V×Hp)) (s:St):au cx K Aj .ret s=K .ret s:=by kernel_rfl
-- names: UV,Ts,Ik,D2,mY
theorem Xy (h:Hp):aj (xX s 210 wl k false) Tryz.f210 [c] h =
 bp (some (.own h.length 0 0,h++[.rows 0 [] 0 true])) fun v1 h2=>
 bp (bh s.P 63 c h2) fun v3 h4=>
 bm (av s.P .sub 3 v3 (.lit (.int .i64 1))) h4 fun v5 h6=>
 bm (ak s.P 63 c v5 h6) h6 fun v7 h8=>
 bm (aa s.P 129 v7 1) h8 fun v9 h10=>
 bm (ab s.P 3 v9 h10) h10 fun v11 h12=>
 bm (av s.P .add 3 v11 (.lit (.int .i64 1))) h12 fun v13 h14=>
 bm (ak s.P 63 c v5 h14) h14 fun v15 h16=>
 bm (aa s.P 129 v15 1) h16 fun v17 h18=>
 bs (ai s.P wl 3 v17 v13 h18) fun h19=>
 some (c,h19):=kB
theorem ad2 (k wl:Nat) (h:Hp):evF Tryz.prog xM (k+1) wl 210 [c] h=aj (xX (xS k) 210 wl k false) Tryz.f210 [c] h:=by kernel_rfl
-- names: Xy,
theorem YL (h:Hp):aj (xX s 211 wl k false) Tryz.f211 [c] h =
 bp (some (.own h.length 0 0,h++[.rows 0 [] 0 true])) fun v1 h2=>
 bp (bh s.P 63 c h2) fun v3 h4=>
 bm (av s.P .sub 3 v3 (.lit (.int .i64 1))) h4 fun v5 h6=>
 bm (ak s.P 63 c v5 h6) h6 fun v7 h8=>
 bm (aa s.P 129 v7 2) h8 fun v9 h10=>
 bm (ab s.P 3 v9 h10) h10 fun v11 h12=>
 bm (av s.P .add 3 v11 (.lit (.int .i64 1))) h12 fun v13 h14=>
 bm (ak s.P 63 c v5 h14) h14 fun v15 h16=>
 bm (aa s.P 129 v15 2) h16 fun v17 h18=>
 bs (ai s.P wl 3 v17 v13 h18) fun h19=>
 some (c,h19):=kB
theorem adi (k wl:Nat) (h:Hp):evF Tryz.prog xM (k+1) wl 211 [c] h=aj (xX (xS k) 211 wl k false) Tryz.f211 [c] h:=by kernel_rfl
-- names: YL,
theorem Z7 (h:Hp):aj (xX s 212 wl k false) Tryz.f212 [c] h =
 bp (some (.own h.length 0 0,h++[.rows 0 [] 0 true])) fun v1 h2=>
 bp (bh s.P 63 c h2) fun v3 h4=>
 bm (av s.P .sub 3 v3 (.lit (.int .i64 1))) h4 fun v5 h6=>
 bp (dp s.P wl false 63 c none (some v5) none h6) fun v7 h8=>
 some (v7,h8):=kB
theorem abc (k wl:Nat) (h:Hp):evF Tryz.prog xM (k+1) wl 212 [c] h=aj (xX (xS k) 212 wl k false) Tryz.f212 [c] h:=by kernel_rfl
-- names: Z7,
end
end Go.Ab
set_option maxRecDepth 100000
set_option linter.unusedVariables false
namespace Go.Ab
open Go.Proofs
section
variable (s:Sys) (k wl:Nat) (m0:Nat) (ac:List Nat×List Nat) (a b d e f o p g q j u l v n y A z E D F B L I M J G O N T R Q Z W t0 X Y U te t4 tf t5 t6 t7 t2 tg t8 th t9 ta tb tc td t3 t1:V)
noncomputable def dg:Code:=al (am Tryz.f85) [1,0]
noncomputable def da:List Fr:=[.seq (al (am Tryz.f85) [1,1])]
theorem afj (h:Hp):aj (xX s 85 wl k false) Tryz.f85 [a,b,d,e] h =
 bp (aO a h) fun v1 h2=>
 bp (aO e h2) fun v3 h4=>
 bm (ab s.P 23 v1 h4) h4 fun v5 h6=>
 bp (yC s k wl 85 false true (.fn (.func 50) [] []) [v5] h6) fun v7 h8=>
 gd v7 (
 bp (bh s.P 26 d h8) fun v9 h10=>
 bm (ab s.P 23 v1 h10) h10 fun v11 h12=>
 bp (yC s k wl 85 false true (.fn (.func 103) [] []) [v11] h12) fun v13 h14=>
 bm (av s.P .eql 3 v9 v13) h14 fun v15 h16=>
 yO s k wl 85 Tryz.f85 dg 8 h4.length ([],[]) da ⟨[a,b,d,e,v1,uu,uu,v3,(.lit (.bool false)),v5,v7,(.lit (.bool true)),d,v9,v11,v13,v15,uu,uu,uu,uu,uu,uu,uu,uu,uu,uu,uu,uu,uu,uu,uu,uu,uu,uu,uu,uu,uu,uu,uu,uu,uu,uu,uu,uu,uu,uu,uu,uu,uu,uu,uu,uu,uu],h16⟩) (
 yO s k wl 85 Tryz.f85 dg 8 h4.length ([],[]) da ⟨[a,b,d,e,v1,uu,uu,v3,(.lit (.bool false)),v5,v7,(.lit (.bool false)),uu,uu,uu,uu,uu,uu,uu,uu,uu,uu,uu,uu,uu,uu,uu,uu,uu,uu,uu,uu,uu,uu,uu,uu,uu,uu,uu,uu,uu,uu,uu,uu,uu,uu,uu,uu,uu,uu,uu,uu,uu,uu],h8⟩) (
 yO s k wl 85 Tryz.f85 dg 4 h4.length ([],[]) da ⟨[a,b,d,e,v1,uu,uu,v3,(.lit (.bool false)),v5,v7,v7,uu,uu,uu,uu,uu,uu,uu,uu,uu,uu,uu,uu,uu,uu,uu,uu,uu,uu,uu,uu,uu,uu,uu,uu,uu,uu,uu,uu,uu,uu,uu,uu,uu,uu,uu,uu,uu,uu,uu,uu,uu,uu],h8⟩):=kB
theorem afU (k wl:Nat) (h:Hp):evF Tryz.prog xM (k+1) wl 85 [a,b,d,e] h=aj (xX (xS k) 85 wl k false) Tryz.f85 [a,b,d,e] h:=by kernel_rfl
theorem PN (zz:List V) (h:Hp):yO s k wl 85 Tryz.f85 dg 8 m0 ac da ⟨(a::b::d::e::f::o::p::g::q::j::u::l::v::n::y::A::z::E::D::F::B::zz),h⟩ =
 bm (aQ l z (.lit (.bool false))) h fun v17 h18=>
 gd v17 (
 bp (yC s k wl 85 false true (.fn (.func 56) [] []) [b] h18) fun v19 h20=>
 yO s k wl 85 Tryz.f85 dg 12 m0 ac da ⟨(a::b::d::e::f::o::p::g::q::j::u::l::v::n::y::A::z::v17::(.lit (.bool true))::b::v19::zz),h20⟩) (
 yO s k wl 85 Tryz.f85 dg 12 m0 ac da ⟨(a::b::d::e::f::o::p::g::q::j::u::l::v::n::y::A::z::v17::(.lit (.bool false))::uu::uu::zz),h18⟩) (
 yO s k wl 85 Tryz.f85 dg 11 m0 ac da ⟨(a::b::d::e::f::o::p::g::q::j::u::l::v::n::y::A::z::v17::v17::uu::B::zz),h18⟩):=kG
theorem Qs (zz:List V) (h:Hp):yO s k wl 85 Tryz.f85 dg 12 m0 ac da ⟨(a::b::d::e::f::o::p::g::q::j::u::l::v::n::y::A::z::E::D::F::B::L::I::M::J::G::zz),h⟩ =
 bm (aQ D B (.lit (.bool false))) h fun v21 h22=>
 gd v21 (
 bm (aa s.P 57 g 0) h22 fun v23 h24=>
 bm (ab s.P 3 v23 h24) h24 fun v25 h26=>
 bm (av s.P .geq 3 v25 (.lit (.int .i64 0))) h26 fun v27 h28=>
 yO s k wl 85 Tryz.f85 dg 17 m0 ac da ⟨(a::b::d::e::f::o::p::g::q::j::u::l::v::n::y::A::z::E::D::F::B::v21::(.lit (.bool true))::v23::v25::v27::zz),h28⟩) (
 yO s k wl 85 Tryz.f85 dg 17 m0 ac da ⟨(a::b::d::e::f::o::p::g::q::j::u::l::v::n::y::A::z::E::D::F::B::v21::(.lit (.bool false))::uu::uu::uu::zz),h22⟩) (
 yO s k wl 85 Tryz.f85 dg 15 m0 ac da ⟨(a::b::d::e::f::o::p::g::q::j::u::l::v::n::y::A::z::E::D::F::B::v21::v21::uu::J::G::zz),h22⟩):=kG
theorem QI (zz:List V) (h:Hp):yO s k wl 85 Tryz.f85 dg 17 m0 ac da ⟨(a::b::d::e::f::o::p::g::q::j::u::l::v::n::y::A::z::E::D::F::B::L::I::M::J::G::O::N::T::R::Q::zz),h⟩ =
 bm (aQ I G (.lit (.bool false))) h fun v29 h30=>
 gd v29 (
 bm (aa s.P 57 g 0) h30 fun v31 h32=>
 bm (ab s.P 3 v31 h32) h32 fun v33 h34=>
 bm (av s.P .lss 3 v33 (.lit (.int .i64 6))) h34 fun v35 h36=>
 yO s k wl 85 Tryz.f85 dg 22 m0 ac da ⟨(a::b::d::e::f::o::p::g::q::j::u::l::v::n::y::A::z::E::D::F::B::L::I::M::J::G::v29::(.lit (.bool true))::v31::v33::v35::zz),h36⟩) (
 yO s k wl 85 Tryz.f85 dg 22 m0 ac da ⟨(a::b::d::e::f::o::p::g::q::j::u::l::v::n::y::A::z::E::D::F::B::L::I::M::J::G::v29::(.lit (.bool false))::uu::uu::uu::zz),h30⟩) (
 yO s k wl 85 Tryz.f85 dg 20 m0 ac da ⟨(a::b::d::e::f::o::p::g::q::j::u::l::v::n::y::A::z::E::D::F::B::L::I::M::J::G::v29::v29::uu::R::Q::zz),h30⟩):=kG
theorem Qf (zz:List V) (h:Hp):yO s k wl 85 Tryz.f85 dg 22 m0 ac da ⟨(a::b::d::e::f::o::p::g::q::j::u::l::v::n::y::A::z::E::D::F::B::L::I::M::J::G::O::N::T::R::Q::Z::W::t0::X::Y::U::zz),h⟩ =
 bm (aQ N Q (.lit (.bool false))) h fun v37 h38=>
 gd v37 (
 bm (aa s.P 57 g 1) h38 fun v39 h40=>
 bm (ab s.P 53 v39 h40) h40 fun v41 h42=>
 bp (bh s.P 53 v41 h42) fun v43 h44=>
 bm (av s.P .gtr 3 v43 (.lit (.int .i64 0))) h44 fun v45 h46=>
 yO s k wl 85 Tryz.f85 dg 28 m0 ac da ⟨(a::b::d::e::f::o::p::g::q::j::u::l::v::n::y::A::z::E::D::F::B::L::I::M::J::G::O::N::T::R::Q::v37::(.lit (.bool true))::v39::v41::v43::v45::zz),h46⟩) (
 yO s k wl 85 Tryz.f85 dg 28 m0 ac da ⟨(a::b::d::e::f::o::p::g::q::j::u::l::v::n::y::A::z::E::D::F::B::L::I::M::J::G::O::N::T::R::Q::v37::(.lit (.bool false))::uu::uu::uu::uu::zz),h38⟩) (
 yO s k wl 85 Tryz.f85 dg 25 m0 ac da ⟨(a::b::d::e::f::o::p::g::q::j::u::l::v::n::y::A::z::E::D::F::B::L::I::M::J::G::O::N::T::R::Q::v37::v37::uu::X::Y::U::zz),h38⟩):=kG
theorem P3 (h:Hp):yO s k wl 85 Tryz.f85 dg 28 m0 ac da ⟨[a,b,d,e,f,o,p,g,q,j,u,l,v,n,y,A,z,E,D,F,B,L,I,M,J,G,O,N,T,R,Q,Z,W,t0,X,Y,U,te,t4,tf,t5,t6,t7,t2,tg,t8,th,t9,ta,tb,tc,td,t3,t1],h⟩ =
 bm (aQ W U (.lit (.bool false))) h fun v47 h48=>
 gd v47 (
 bm (aa s.P 57 g 1) h48 fun v49 h50=>
 bm (ab s.P 53 v49 h50) h50 fun v51 h52=>
 bm (ak s.P 53 v51 (.lit (.int .i64 0)) h52) h52 fun v53 h54=>
 bm (ab s.P 3 v53 h54) h54 fun v55 h56=>
 bm (av s.P .geq 3 v55 (.lit (.int .i64 0))) h56 fun v57 h58=>
 yO s k wl 85 Tryz.f85 dg 35 m0 ac da ⟨[a,b,d,e,f,o,p,g,q,j,u,l,v,n,y,A,z,E,D,F,B,L,I,M,J,G,O,N,T,R,Q,Z,W,t0,X,Y,U,v47,(.lit (.bool true)),v49,v51,v53,v55,v57,tg,t8,th,t9,ta,tb,tc,td,t3,t1],h58⟩) (
 yO s k wl 85 Tryz.f85 dg 35 m0 ac da ⟨[a,b,d,e,f,o,p,g,q,j,u,l,v,n,y,A,z,E,D,F,B,L,I,M,J,G,O,N,T,R,Q,Z,W,t0,X,Y,U,v47,(.lit (.bool false)),uu,uu,uu,uu,uu,tg,t8,th,t9,ta,tb,tc,td,t3,t1],h48⟩) (
 yO s k wl 85 Tryz.f85 dg 31 m0 ac da ⟨[a,b,d,e,f,o,p,g,q,j,u,l,v,n,y,A,z,E,D,F,B,L,I,M,J,G,O,N,T,R,Q,Z,W,t0,X,Y,U,v47,v47,uu,t5,t6,t7,t2,tg,t8,th,t9,ta,tb,tc,td,t3,t1],h48⟩):=kG
theorem QZ (h:Hp):yO s k wl 85 Tryz.f85 dg 35 m0 ac da ⟨[a,b,d,e,f,o,p,g,q,j,u,l,v,n,y,A,z,E,D,F,B,L,I,M,J,G,O,N,T,R,Q,Z,W,t0,X,Y,U,te,t4,tf,t5,t6,t7,t2,tg,t8,th,t9,ta,tb,tc,td,t3,t1],h⟩ =
 bm (aQ t4 t2 (.lit (.bool false))) h fun v59 h60=>
 gd v59 (
 bm (aa s.P 57 g 1) h60 fun v61 h62=>
 bm (ab s.P 53 v61 h62) h62 fun v63 h64=>
 bm (ak s.P 53 v63 (.lit (.int .i64 0)) h64) h64 fun v65 h66=>
 bm (ab s.P 3 v65 h66) h66 fun v67 h68=>
 bp (bh s.P 24 b h68) fun v69 h70=>
 bm (av s.P .lss 3 v67 v69) h70 fun v71 h72=>
 yO s k wl 85 Tryz.f85 dg 44 m0 ac da ⟨[a,b,d,e,f,o,p,g,q,j,u,l,v,n,y,A,z,E,D,F,B,L,I,M,J,G,O,N,T,R,Q,Z,W,t0,X,Y,U,te,t4,tf,t5,t6,t7,t2,v59,(.lit (.bool true)),v61,v63,v65,v67,b,v69,v71,t1],h72⟩) (
 yO s k wl 85 Tryz.f85 dg 44 m0 ac da ⟨[a,b,d,e,f,o,p,g,q,j,u,l,v,n,y,A,z,E,D,F,B,L,I,M,J,G,O,N,T,R,Q,Z,W,t0,X,Y,U,te,t4,tf,t5,t6,t7,t2,v59,(.lit (.bool false)),uu,uu,uu,uu,uu,uu,uu,t1],h60⟩) (
 yO s k wl 85 Tryz.f85 dg 38 m0 ac da ⟨[a,b,d,e,f,o,p,g,q,j,u,l,v,n,y,A,z,E,D,F,B,L,I,M,J,G,O,N,T,R,Q,Z,W,t0,X,Y,U,te,t4,tf,t5,t6,t7,t2,v59,v59,uu,t9,ta,tb,tc,td,t3,t1],h60⟩):=kG
theorem P5 (h:Hp):yO s k wl 85 Tryz.f85 dg 44 m0 ac da ⟨[a,b,d,e,f,o,p,g,q,j,u,l,v,n,y,A,z,E,D,F,B,L,I,M,J,G,O,N,T,R,Q,Z,W,t0,X,Y,U,te,t4,tf,t5,t6,t7,t2,tg,t8,th,t9,ta,tb,tc,td,t3,t1],h⟩ =
 bm (aQ t8 t3 (.lit (.bool false))) h fun v73 h74=>
 some (v73,h74):=kG
theorem wP (cx:Cx) (K:Out→St→Option (V×Hp)) (s:St):au cx K da .ret s=K .ret s:=by kernel_rfl
-- names: afj,PN,Qs,QI,Qf,P3,QZ,P5,wP
theorem afe (h:Hp):aj (xX s 86 wl k false) Tryz.f86 [a,b,d,e,f] h =
 bp (aO a h) fun v1 h2=>
 bp (aO e h2) fun v3 h4=>
 bp (aO f h4) fun v5 h6=>
 bp (some (.own h6.length 0 0,h6++[.rows 0 [] 0 true])) fun v7 h8=>
 bp (aw s.P 57 h8) fun v9 h10=>
 bp (some (.own h10.length 0 0,h10++[.rows 0 [] 0 true])) fun v11 h12=>
 bp (yC s k wl 86 false true (.fn (.func 76) [] []) [d] h12) fun v13 h14=>
 bp (aw s.P 26 h14) fun v15 h16=>
 bs (ai s.P wl 26 v15 v13 h16) fun h17=>
 bp (aw s.P 57 h17) fun v18 h19=>
 bm (aa s.P 57 v5 0) h19 fun v20 h21=>
 stO h17.length v20 (
 bm (ab s.P 3 v20 h21) h21 fun v22 h23=>
 bm (aa s.P 57 v5 1) h23 fun v24 h25=>
 bm (ab s.P 53 v24 h25) h25 fun v26 h27=>
 bp (yC s k wl 86 true true (.fn (.func 80) [] []) [v26] h27) fun v28 h29=>
 bm (aa s.P 57 v5 2) h29 fun v30 h31=>
 stO h17.length v30 (
 bm (ab s.P 55 v30 h31) h31 fun v32 h33=>
 bm (a9 s.P 57 [(0,v22),(1,v28),(2,v32)]) h33 fun v34 h35=>
 bs (ai s.P wl 57 v18 v34 h35) fun h36=>
 bm (ab s.P 23 v1 h36) h36 fun v37 h38=>
 bm (ab s.P 57 v5 h38) h38 fun v39 h40=>
 bp (yC s k wl 86 false true (.fn (.func 85) [] []) [v37,b,d,v39] h40) fun v41 h42=>
 bm (vUn .not v41) h42 fun v43 h44=>
 cnd v43 (
 bm (ab s.P 26 v15 h44) h44 fun v45 h46=>
 bm (ab s.P 57 v18 h46) h46 fun v47 h48=>
 bs (ai s.P wl 57 v9 v47 h48) fun h49=>
 bp (some (.own h49.length 0 0,h49++[.rows 0 [] 0 true])) fun v50 h51=>
 dW [some v45,ab s.P 57 v9 h51,some v50] h51) (
 bp (aw s.P 34 h44) fun v52 h53=>
 bm (aa s.P 57 v18 1) h53 fun v54 h55=>
 bm (ab s.P 53 v54 h55) h55 fun v56 h57=>
 bm (ak s.P 53 v56 (.lit (.int .i64 0)) h57) h57 fun v58 h59=>
 bm (ab s.P 3 v58 h59) h59 fun v60 h61=>
 bp (aw s.P 3 h61) fun v62 h63=>
 bs (ai s.P wl 3 v62 v60 h63) fun h64=>
 bp (aw s.P 170 h64) fun v65 h66=>
 bs (ai s.P wl 170 v65 (.fn (.func 131) [] [v52,v3]) h66) fun h67=>
 bp (aw s.P 1 h67) fun v68 h69=>
 bs (ai s.P wl 1 v68 (.fn (.func 132) [] [v18]) h69) fun h70=>
 bp (aw s.P 32 h70) fun v71 h72=>
 bs (ai s.P wl 32 v71 (.fn (.func 133) [] [v18,v1,v15]) h72) fun h73=>
 bm (a9 s.P 175 [(0,(.fn (.func 136) [] [v18,v15,v65,v62,v68])),(1,(.fn (.func 137) [] [v15,v3,v62,v18])),(2,(.fn (.func 139) [] [v71,v18,v65,v62])),(3,(.fn (.func 140) [] [v15,v68,v3,v18])),(4,(.fn (.func 141) [] [v71,v68])),(5,(.fn (.func 142) [] [v15,v65,v62,v68]))]) h73 fun v74 h75=>
 bp (aw s.P 175 h75) fun v76 h77=>
 bs (ai s.P wl 175 v76 v74 h77) fun h78=>
 bm (aa s.P 57 v5 0) h78 fun v79 h80=>
 bm (ab s.P 3 v79 h80) h80 fun v81 h82=>
 bm (ak s.P 175 v76 v81 h82) h82 fun v83 h84=>
 bm (ab s.P 1 v83 h84) h84 fun v85 h86=>
 bp (yC s k wl 86 false true v85 [] h86) fun v87 h88=>
 bm (ab s.P 26 v15 h88) h88 fun v89 h90=>
 bm (ab s.P 57 v18 h90) h90 fun v91 h92=>
 stO h88.length v52 (
 bm (ab s.P 34 v52 h92) h92 fun v93 h94=>
 bs (ai s.P wl 57 v9 v91 h94) fun h95=>
 apt (lgW v9 (lgR v52 ([],[]))) (
 dW [some v89,ab s.P 57 v9 h95,some v93] h95))))):=kB
theorem agi (k wl:Nat) (h:Hp):evF Tryz.prog xM (k+1) wl 86 [a,b,d,e,f] h=aj (xX (xS k) 86 wl k false) Tryz.f86 [a,b,d,e,f] h:=by kernel_rfl
-- names: afe,
theorem Xn (h:Hp):aj (xX s 131 wl k false) Tryz.f131 [a,b,d,e] h =
 bm (ab s.P 34 d h) h fun v1 h2=>
 bm (ab s.P 3 e h2) h2 fun v3 h4=>
 bm (a9 s.P 52 [(0,a),(1,b),(2,v3)]) h4 fun v5 h6=>
 bp (az s.P wl 34 1 [(0,v5)] h6) fun v7 h8=>
 bp (lF s.P wl 34 34 v1 v7 h8) fun v9 h10=>
 bs (ai s.P wl 34 d v9 h10) fun h11=>
 some (.tup [],h11):=kB
theorem aeB (k wl:Nat) (h:Hp):evF Tryz.prog xM (k+1) wl 131 [a,b,d,e] h=aj (xX (xS k) 131 wl k false) Tryz.f131 [a,b,d,e] h:=by kernel_rfl
-- names: Xn,
theorem WA (h:Hp):aj (xX s 132 wl k false) Tryz.f132 [a] h =
 bm (aa s.P 57 a 1) h fun v1 h2=>
 bm (ab s.P 53 v1 h2) h2 fun v3 h4=>
 bp (dp s.P wl false 53 v3 (some (.lit (.int .i64 1))) none none h4) fun v5 h6=>
 bm (a9 s.P 57 [(1,v5)]) h6 fun v7 h8=>
 bs (ai s.P wl 57 a v7 h8) fun h9=>
 some (.tup [],h9):=kB
theorem abP (k wl:Nat) (h:Hp):evF Tryz.prog xM (k+1) wl 132 [a] h=aj (xX (xS k) 132 wl k false) Tryz.f132 [a] h:=by kernel_rfl
-- names: WA,
noncomputable def xT:Code:=al (am Tryz.f133) [1,1,0,0]
noncomputable def rz:List Fr:=[.seq (al (am Tryz.f133) [1,1,0,1]),.seq (al (am Tryz.f133) [1,1,1])]
noncomputable def AA:List Fr:=[.seq (al (am Tryz.f133) [1,1,1])]
theorem VU (h:Hp):aj (xX s 133 wl k false) Tryz.f133 [a,b,d] h =
 bm (aa s.P 57 a 2) h fun v1 h2=>
 bm (aa s.P 55 v1 0) h2 fun v3 h4=>
 bm (ab s.P 3 v3 h4) h4 fun v5 h6=>
 bm (av s.P .eql 3 v5 (.lit (.int .i64 3))) h6 fun v7 h8=>
 gd v7 (
 yO s k wl 133 Tryz.f133 xT 9 h.length ([],[]) rz ⟨[a,b,d,(.lit (.bool false)),(.fn (.func 134) [] []),v1,v3,v5,v7,(.lit (.bool true)),uu,uu,uu,uu,uu,uu,uu,uu,uu,uu,uu,uu,uu,uu,uu,uu,uu,uu],h8⟩) (
 bm (aa s.P 57 a 2) h8 fun v9 h10=>
 bm (aa s.P 55 v9 0) h10 fun v11 h12=>
 bm (ab s.P 3 v11 h12) h12 fun v13 h14=>
 bm (av s.P .eql 3 v13 (.lit (.int .i64 4))) h14 fun v15 h16=>
 yO s k wl 133 Tryz.f133 xT 9 h.length ([],[]) rz ⟨[a,b,d,(.lit (.bool false)),(.fn (.func 134) [] []),v1,v3,v5,v7,(.lit (.bool false)),v9,v11,v13,v15,uu,uu,uu,uu,uu,uu,uu,uu,uu,uu,uu,uu,uu,uu],h16⟩) (
 yO s k wl 133 Tryz.f133 xT 6 h.length ([],[]) rz ⟨[a,b,d,(.lit (.bool false)),(.fn (.func 134) [] []),v1,v3,v5,v7,v7,uu,uu,uu,uu,uu,uu,uu,uu,uu,uu,uu,uu,uu,uu,uu,uu,uu,uu],h8⟩):=kB
theorem acP (k wl:Nat) (h:Hp):evF Tryz.prog xM (k+1) wl 133 [a,b,d] h=aj (xX (xS k) 133 wl k false) Tryz.f133 [a,b,d] h:=by kernel_rfl
theorem Ly (zz:List V) (h:Hp):yO s k wl 133 Tryz.f133 xT 9 m0 ac rz ⟨(a::b::d::e::f::o::p::g::q::j::u::l::v::n::y::zz),h⟩ =
 bm (aQ j (.lit (.bool true)) n) h fun v17 h18=>
 cnd v17 (
 au (xX s 133 wl k false) (aC s.P Tryz.f133) AA .norm ⟨(a::b::d::e::(.fn (.func 135) [] [])::o::p::g::q::j::u::l::v::n::v17::zz),h18⟩) (
 au (xX s 133 wl k false) (aC s.P Tryz.f133) AA .norm ⟨(a::b::d::e::f::o::p::g::q::j::u::l::v::n::v17::zz),h18⟩):=kG
theorem Jt (h:Hp):au (xX s 133 wl k false) (aC s.P Tryz.f133) AA .norm ⟨[a,b,d,e,f,o,p,g,q,j,u,l,v,n,y,A,z,E,D,F,B,L,I,M,J,G,O,N],h⟩ =
 bm (ab s.P 23 b h) h fun v19 h20=>
 bm (ab s.P 26 d h20) h20 fun v21 h22=>
 bm (aa s.P 57 a 2) h22 fun v23 h24=>
 bm (ab s.P 55 v23 h24) h24 fun v25 h26=>
 bp (yC s k wl 133 false true f [v19,v21,v25] h26) fun v27 h28=>
 bm (ar v27 0) h28 fun v29 h30=>
 bm (ar v27 1) h30 fun v31 h32=>
 bs (ai s.P wl 26 d v29 h32) fun h33=>
 bm (aa s.P 57 a 2) h33 fun v34 h35=>
 bs (ai s.P wl 55 v34 v31 h35) fun h36=>
 bm (aa s.P 57 a 2) h36 fun v37 h38=>
 bm (ab s.P 55 v37 h38) h38 fun v39 h40=>
 bp (yC s k wl 133 false true (.fn (.func 110) [] []) [v39] h40) fun v41 h42=>
 some (v41,h42):=kR
theorem rF (cx:Cx) (K:Out→St→Option (V×Hp)) (s:St):au cx K rz .ret s=K .ret s:=by kernel_rfl
theorem rb (cx:Cx) (K:Out→St→Option (V×Hp)) (s:St):au cx K AA .ret s=K .ret s:=by kernel_rfl
-- names: VU,Ly,Jt,rF,rb
theorem Yp (h:Hp):aj (xX s 136 wl k false) Tryz.f136 [a,b,d,e,f] h =
 bm (aa s.P 57 a 0) h fun v1 h2=>
 bs (ai s.P wl 3 v1 (.lit (.int .i64 1)) h2) fun h3=>
 bm (ab s.P 26 b h3) h3 fun v4 h5=>
 bp (yC s k wl 136 false true (.fn (.func 27) [] []) [v4,(.lit (.int .i64 3))] h5) fun v6 h7=>
 bm (av s.P .neq 46 v6 (.lit (.int .u64 0))) h7 fun v8 h9=>
 cnd v8 (
 bm (ab s.P 170 d h9) h9 fun v10 h11=>
 bm (ab s.P 3 e h11) h11 fun v12 h13=>
 bp (yC s k wl 136 false true v10 [(.lit (.int .i64 1)),v12] h13) fun v14 h15=>
 bm (ab s.P 1 f h15) h15 fun v16 h17=>
 bp (yC s k wl 136 false true v16 [] h17) fun v18 h19=>
 some (.tup [],h19)) (
 some (.tup [],h9)):=kB
theorem ac6 (k wl:Nat) (h:Hp):evF Tryz.prog xM (k+1) wl 136 [a,b,d,e,f] h=aj (xX (xS k) 136 wl k false) Tryz.f136 [a,b,d,e,f] h:=by kernel_rfl
-- names: Yp,
theorem X3 (h:Hp):aj (xX s 137 wl k false) Tryz.f137 [a,b,d,e] h =
 bm (ab s.P 26 a h) h fun v1 h2=>
 bp (yC s k wl 137 false true (.fn (.func 138) [] []) [v1,(.lit (.int .i64 0)),(.lit (.int .u64 1))] h2) fun v3 h4=>
 bm (ar v3 0) h4 fun v5 h6=>
 bm (ar v3 1) h6 fun v7 h8=>
 bs (ai s.P wl 26 a v5 h8) fun h9=>
 bm (ab s.P 3 b h9) h9 fun v10 h11=>
 bm (ab s.P 3 d h11) h11 fun v12 h13=>
 bm (fZ s.P 3 46 v12) h13 fun v14 h15=>
 bp (yC s k wl 137 false true (.fn (.func 104) [] []) [(.lit (.int .i64 3)),v10,v14] h15) fun v16 h17=>
 bm (aa s.P 57 e 0) h17 fun v18 h19=>
 bs (ai s.P wl 3 v18 (.lit (.int .i64 2)) h19) fun h20=>
 bm (aa s.P 57 e 2) h20 fun v21 h22=>
 bs (ai s.P wl 55 v21 v16 h22) fun h23=>
 some (.tup [],h23):=kB
theorem ab9 (k wl:Nat) (h:Hp):evF Tryz.prog xM (k+1) wl 137 [a,b,d,e] h=aj (xX (xS k) 137 wl k false) Tryz.f137 [a,b,d,e] h:=by kernel_rfl
-- names: X3,
theorem VT (h:Hp):aj (xX s 139 wl k false) Tryz.f139 [a,b,d,e] h =
 bm (ab s.P 32 a h) h fun v1 h2=>
 bp (yC s k wl 139 false true v1 [] h2) fun v3 h4=>
 bm (vUn .not v3) h4 fun v5 h6=>
 cnd v5 (
 some (.tup [],h6)) (
 bm (aa s.P 57 b 0) h6 fun v7 h8=>
 bs (ai s.P wl 3 v7 (.lit (.int .i64 5)) h8) fun h9=>
 bm (aa s.P 57 b 2) h9 fun v10 h11=>
 bm (aa s.P 55 v10 6) h11 fun v12 h13=>
 bm (ab s.P 3 v12 h13) h13 fun v14 h15=>
 bm (av s.P .neq 3 v14 (.lit (.int .i64 2))) h15 fun v16 h17=>
 cnd v16 (
 bm (ab s.P 170 d h17) h17 fun v18 h19=>
 bm (ab s.P 3 e h19) h19 fun v20 h21=>
 bp (yC s k wl 139 false true v18 [(.lit (.int .i64 0)),v20] h21) fun v22 h23=>
 bm (aa s.P 57 b 0) h23 fun v24 h25=>
 bs (ai s.P wl 3 v24 (.lit (.int .i64 3)) h25) fun h26=>
 some (.tup [],h26)) (
 some (.tup [],h17))):=kB
theorem aeE (k wl:Nat) (h:Hp):evF Tryz.prog xM (k+1) wl 139 [a,b,d,e] h=aj (xX (xS k) 139 wl k false) Tryz.f139 [a,b,d,e] h:=by kernel_rfl
-- names: VT,
theorem Z1 (h:Hp):aj (xX s 140 wl k false) Tryz.f140 [a,b,d,e] h =
 bm (ab s.P 26 a h) h fun v1 h2=>
 bp (yC s k wl 140 false true (.fn (.func 27) [] []) [v1,(.lit (.int .i64 1))] h2) fun v3 h4=>
 bm (av s.P .neq 46 v3 (.lit (.int .u64 0))) h4 fun v5 h6=>
 cnd v5 (
 bm (ab s.P 1 b h6) h6 fun v7 h8=>
 bp (yC s k wl 140 false true v7 [] h8) fun v9 h10=>
 some (.tup [],h10)) (
 bm (ab s.P 3 d h6) h6 fun v11 h12=>
 bp (yC s k wl 140 false true (.fn (.func 104) [] []) [(.lit (.int .i64 6)),v11,(.lit (.int .u64 0))] h12) fun v13 h14=>
 bm (aa s.P 57 e 0) h14 fun v15 h16=>
 bs (ai s.P wl 3 v15 (.lit (.int .i64 4)) h16) fun h17=>
 bm (aa s.P 57 e 2) h17 fun v18 h19=>
 bs (ai s.P wl 55 v18 v13 h19) fun h20=>
 some (.tup [],h20)):=kB
theorem aeg (k wl:Nat) (h:Hp):evF Tryz.prog xM (k+1) wl 140 [a,b,d,e] h=aj (xX (xS k) 140 wl k false) Tryz.f140 [a,b,d,e] h:=by kernel_rfl
-- names: Z1,
theorem WT (h:Hp):aj (xX s 141 wl k false) Tryz.f141 [a,b] h =
 bm (ab s.P 32 a h) h fun v1 h2=>
 bp (yC s k wl 141 false true v1 [] h2) fun v3 h4=>
 cnd v3 (
 bm (ab s.P 1 b h4) h4 fun v5 h6=>
 bp (yC s k wl 141 false true v5 [] h6) fun v7 h8=>
 some (.tup [],h8)) (
 some (.tup [],h4)):=kB
theorem adx (k wl:Nat) (h:Hp):evF Tryz.prog xM (k+1) wl 141 [a,b] h=aj (xX (xS k) 141 wl k false) Tryz.f141 [a,b] h:=by kernel_rfl
-- names: WT,
theorem ZO (h:Hp):aj (xX s 142 wl k false) Tryz.f142 [a,b,d,e] h =
 bm (ab s.P 26 a h) h fun v1 h2=>
 bp (yC s k wl 142 false true (.fn (.func 138) [] []) [v1,(.lit (.int .i64 0)),(.lit (.int .u64 18446744073709551615))] h2) fun v3 h4=>
 bm (ar v3 0) h4 fun v5 h6=>
 bm (ar v3 1) h6 fun v7 h8=>
 bs (ai s.P wl 26 a v5 h8) fun h9=>
 bm (ab s.P 170 b h9) h9 fun v10 h11=>
 bm (ab s.P 3 d h11) h11 fun v12 h13=>
 bp (yC s k wl 142 false true v10 [(.lit (.int .i64 1)),v12] h13) fun v14 h15=>
 bm (av s.P .eql 46 v7 (.lit (.int .u64 1))) h15 fun v16 h17=>
 cnd v16 (
 bm (ab s.P 170 b h17) h17 fun v18 h19=>
 bp (yC s k wl 142 false true v18 [(.lit (.int .i64 5)),(.lit (.int .i64 0))] h19) fun v20 h21=>
 bm (ab s.P 1 e h21) h21 fun v22 h23=>
 bp (yC s k wl 142 false true v22 [] h23) fun v24 h25=>
 some (.tup [],h25)) (
 bm (ab s.P 1 e h17) h17 fun v26 h27=>
 bp (yC s k wl 142 false true v26 [] h27) fun v28 h29=>
 some (.tup [],h29)):=kB
theorem adH (k wl:Nat) (h:Hp):evF Tryz.prog xM (k+1) wl 142 [a,b,d,e] h=aj (xX (xS k) 142 wl k false) Tryz.f142 [a,b,d,e] h:=by kernel_rfl
-- names: ZO,
theorem aeZ (h:Hp):aj (xX s 63 wl k false) Tryz.f63 [a] h =
 bp (aw s.P 57 h) fun v1 h2=>
 bp (yC s k wl 63 false true (.fn (.func 80) [] []) [a] h2) fun v3 h4=>
 bm (a9 s.P 57 [(1,v3)]) h4 fun v5 h6=>
 bs (ai s.P wl 57 v1 v5 h6) fun h7=>
 dW [ab s.P 57 v1 h7] h7:=kB
theorem agf (k wl:Nat) (h:Hp):evF Tryz.prog xM (k+1) wl 63 [a] h=aj (xX (xS k) 63 wl k false) Tryz.f63 [a] h:=by kernel_rfl
-- names: aeZ,
end
end Go.Ab
