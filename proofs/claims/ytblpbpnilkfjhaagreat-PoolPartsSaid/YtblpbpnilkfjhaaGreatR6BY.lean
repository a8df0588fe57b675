import Derived.Test.YtblpbpnilkfjhaaGreatR6Seat
import Derived.Test.YtblpbpnilkfjhaaGreatAbLibC
set_option linter.unusedVariables false
set_option linter.unusedSimpArgs false
set_option maxRecDepth 100000
set_option linter.unusedVariables false
namespace Go.Ab
open Go.Proofs
section
variable (s:Sys) (k wl:Nat) (m0:Nat) (ac:List Nat×List Nat) (c d g j l q p o e u r z A B F D E G I L N M J O R Q U T Y X Z W t4 t0 t5 t1 t2 t3:V)
noncomputable def oh:Code:=al (am Tryz.f21) [1,0,1,0,0]
noncomputable def ED:List Fr:=[.block 0,.seq (al (am Tryz.f21) [1,1])]
noncomputable def D3:Code:=al (am Tryz.f21) [1,0,1,0,0,0,0]
noncomputable def BN:List Fr:=[.seq (al (am Tryz.f21) [1,0,1,0,0,0,1]),.seq (al (am Tryz.f21) [1,0,1,0,0,1])]
theorem aaK (h:Hp):ak (xX s 21 wl k false) Tryz.f21 [c] h =
 yI s k wl 21 Tryz.f21 oh h.length ED k ⟨[(V.kill h.length c),(V.kill h.length uu),(.lit (.bool false)),(.lit (.int .i64 0)),.junk,.junk,.junk,.junk,.junk,.junk,.junk,.junk,.junk,.junk,.junk,.junk,.junk,.junk,.junk,.junk,.junk,(V.kill h.length uu),(V.kill h.length uu),(V.kill h.length uu)],bY h.length h⟩:=kB
theorem aeg (k wl:Nat) (h:Hp):evF Tryz.prog xM (k+1) wl 21 [c] h=ak (xX (xS k) 21 wl k false) Tryz.f21 [c] h:=by kernel_rfl
theorem abP (P:Program) (h:Hp):av P Tryz.f21 .ret ⟨[c,d,g,j,l,q,p,o,e,u,r,z,A,B,F,D,E,G,I,L,N,M,J,O],h⟩=some (g,h):=by kernel_rfl
theorem PG (s:Sys) (K:Out→St→Option (V×Hp)) (k wl:Nat) (rd:Bool) (n n0:Nat) (zz:List V) (h:Hp):itX (xX s 21 wl k rd) oh n0 K (n+1) ⟨(c::d::g::j::l::q::p::o::e::u::r::zz),h⟩ =
 bp (aX s.P 24 c h) fun v1 h2=>
 bm (aq s.P .lss 3 j v1) h2 fun v3 h4=>
 gd v3 (
 bm (aq s.P .leq 3 j (.lit (.int .i64 40))) h4 fun v5 h6=>
 dv (xX s 21 wl k rd) D3 7 h.length ([],[]) (au (xX s 21 wl k rd) (eD (xX s 21 wl k rd) oh n0 K n) BN) ⟨(c::d::g::j::j::c::v1::v3::(.lit (.bool true))::j::v5::zz),h6⟩) (
 dv (xX s 21 wl k rd) D3 7 h.length ([],[]) (au (xX s 21 wl k rd) (eD (xX s 21 wl k rd) oh n0 K n) BN) ⟨(c::d::g::j::j::c::v1::v3::(.lit (.bool false))::uu::uu::zz),h4⟩) (
 dv (xX s 21 wl k rd) D3 6 h.length ([],[]) (au (xX s 21 wl k rd) (eD (xX s 21 wl k rd) oh n0 K n) BN) ⟨(c::d::g::j::j::c::v1::v3::v3::uu::r::zz),h4⟩):=kI
theorem Jj (h:Hp):au (xX s 21 wl k false) (av s.P Tryz.f21) ED (.exit 0) ⟨[c,d,g,j,l,q,p,o,e,u,r,z,A,B,F,D,E,G,I,L,N,M,J,O],h⟩ =
 bp (aX s.P 24 c h) fun v7 h8=>
 bm (aq s.P .leq 3 v7 (.lit (.int .i64 40))) h8 fun v9 h10=>
 some (v9,h10):=kR
theorem Kg (s:Sys) (K:Out→St→Option (V×Hp)) (k wl:Nat) (rd:Bool) (n n0:Nat) (m0:Nat) (ac:List Nat×List Nat) (h:Hp):dv (xX s 21 wl k rd) D3 7 m0 ac (au (xX s 21 wl k rd) (eD (xX s 21 wl k rd) oh n0 K n) BN) ⟨[c,d,g,j,l,q,p,o,e,u,r,z,A,B,F,D,E,G,I,L,N,M,J,O],h⟩ =
 bm (aO e r (.lit (.bool false))) h fun v11 h12=>
 cnd v11 (
 bm (ai s.P 24 c j h12) h12 fun v13 h14=>
 bm (aa s.P 101 v13 1) h14 fun v15 h16=>
 bm (ab s.P 53 v15 h16) h16 fun v17 h18=>
 bp (aX s.P 53 v17 h18) fun v19 h20=>
 bm (aq s.P .gtr 3 v19 (.lit (.int .i64 40))) h20 fun v21 h22=>
 cnd v21 (
 K .ret ⟨[c,d,(.lit (.bool false)),j,l,q,p,o,e,u,r,v11,A,B,c,j,v13,v15,v17,v19,v21,M,J,O],h22⟩) (
 bm (aq s.P .add 3 j (.lit (.int .i64 1))) h22 fun v23 h24=>
 itX (xX s 21 wl k rd) oh n0 K n ⟨[(V.kill n0 c),(V.kill n0 d),(V.kill n0 g),(V.kill n0 v23),.junk,.junk,.junk,.junk,.junk,.junk,.junk,.junk,.junk,.junk,.junk,.junk,.junk,.junk,.junk,.junk,.junk,(V.kill n0 M),(V.kill n0 J),(V.kill n0 O)],bY n0 h24⟩)) (
 K (.exit 0) ⟨[(V.kill n0 c),(V.kill n0 d),(V.kill n0 g),(V.kill n0 j),.junk,.junk,.junk,.junk,.junk,.junk,.junk,.junk,.junk,.junk,.junk,.junk,.junk,.junk,.junk,.junk,.junk,(V.kill n0 M),(V.kill n0 J),(V.kill n0 O)],bY n0 h12⟩):=kG
theorem nC (cx:Cx) (K:Out→St→Option (V×Hp)) (s:St):au cx K ED .ret s=K .ret s:=by kernel_rfl
theorem nI (cx:Cx) (K:Out→St→Option (V×Hp)) (s:St):au cx K BN .ret s=K .ret s:=by kernel_rfl
-- names: aaK,abP,PG,Jj,Kg,nC,nI
theorem aej (h:Hp):ak (xX s 44 wl k false) Tryz.f44 [c,d] h =
 bp (yC s k wl 44 false true (.fn (.func 89) [] []) [c,d,(.fn (.func 90) [] [])] h) fun v1 h2=>
 some (v1,h2):=kB
theorem aeO (k wl:Nat) (h:Hp):evF Tryz.prog xM (k+1) wl 44 [c,d] h=ak (xX (xS k) 44 wl k false) Tryz.f44 [c,d] h:=by kernel_rfl
-- names: aej,
noncomputable def EQ:Code:=al (am Tryz.f56) [1,0,0]
noncomputable def Bb:List Fr:=[.seq (al (am Tryz.f56) [1,0,1]),.seq (al (am Tryz.f56) [1,1])]
noncomputable def Pf:Code:=al (am Tryz.f56) [1,1,1,0,1,0]
noncomputable def AR:Code:=al (am Tryz.f56) [1,1,1,0,1,0,0]
noncomputable def xy:Code:=al (am Tryz.f56) [1,1,1,0,1,0,1]
noncomputable def r8:List Fr:=[.block 0,.seq (al (am Tryz.f56) [1,1,1,1])]
noncomputable def oj:Code:=al (am Tryz.f56) [1,1,1,0,1,0,1,0,0,0]
noncomputable def mT:List Fr:=[.seq (al (am Tryz.f56) [1,1,1,0,1,0,1,0,0,1]),.seq (al (am Tryz.f56) [1,1,1,0,1,0,1,0,1]),.block 1]
theorem rk:Pf = .rangeFunc (.tmp 17) #[18,19] AR xy:=by kernel_rfl
theorem Zw (h:Hp):ak (xX s 56 wl k false) Tryz.f56 [c] h =
 bp (aJ c h) fun v1 h2=>
 bp (ar s.P 4 h2) fun v3 h4=>
 bm (ab s.P 24 v1 h4) h4 fun v5 h6=>
 bp (aX s.P 24 v5 h6) fun v7 h8=>
 bm (aq s.P .gtr 3 v7 (.lit (.int .i64 30))) h8 fun v9 h10=>
 gd v9 (
 yO s k wl 56 Tryz.f56 EQ 6 h4.length ([],[]) Bb ⟨[c,v1,v3,uu,uu,uu,v5,v7,v9,(.lit (.bool true)),uu,uu,uu,uu,uu,uu,uu,uu,uu,uu,uu,uu,uu,uu,uu,uu,uu,uu,uu,uu,uu,uu,uu,uu,uu,uu,uu,uu],h10⟩) (
 bm (ab s.P 24 v1 h10) h10 fun v11 h12=>
 bp (yC s k wl 56 false true (.fn (.func 98) [] []) [v11,(.fn (.func 99) [] [])] h12) fun v13 h14=>
 yO s k wl 56 Tryz.f56 EQ 6 h4.length ([],[]) Bb ⟨[c,v1,v3,uu,uu,uu,v5,v7,v9,(.lit (.bool false)),v11,v13,uu,uu,uu,uu,uu,uu,uu,uu,uu,uu,uu,uu,uu,uu,uu,uu,uu,uu,uu,uu,uu,uu,uu,uu,uu,uu],h14⟩) (
 yO s k wl 56 Tryz.f56 EQ 5 h4.length ([],[]) Bb ⟨[c,v1,v3,uu,uu,uu,v5,v7,v9,v9,uu,uu,uu,uu,uu,uu,uu,uu,uu,uu,uu,uu,uu,uu,uu,uu,uu,uu,uu,uu,uu,uu,uu,uu,uu,uu,uu,uu],h10⟩):=kB
theorem acE (k wl:Nat) (h:Hp):evF Tryz.prog xM (k+1) wl 56 [c] h=ak (xX (xS k) 56 wl k false) Tryz.f56 [c] h:=by kernel_rfl
theorem ZB (P:Program) (h:Hp):av P Tryz.f56 .ret ⟨[c,d,g,j,l,q,p,o,e,u,r,z,A,B,F,D,E,G,I,L,N,M,J,O,R,Q,U,T,Y,X,Z,W,t4,t0,t5,t1,t2,t3],h⟩=er [ab P 4 g h] h:=by kernel_rfl
theorem E4 (zz:List V) (h:Hp):yO s k wl 56 Tryz.f56 EQ 6 m0 ac Bb ⟨(c::d::g::j::l::q::p::o::e::u::r::z::A::B::F::D::E::G::zz),h⟩ =
 bm (aO u (.lit (.bool true)) z) h fun v15 h16=>
 cnd v15 (
 bs (aj s.P wl 4 g (.lit (.bool false)) h16) fun h17=>
 er [ab s.P 4 g h17] h17) (
 bm (ab s.P 24 d h16) h16 fun v18 h19=>
 bp (aX s.P 24 v18 h19) fun v20 h21=>
 bp (ba s.P 150 v20 v20 h21) fun v22 h23=>
 bp (ar s.P 150 h23) fun v24 h25=>
 bs (aj s.P wl 150 v24 v22 h25) fun h26=>
 bm (ab s.P 24 d h26) h26 fun v27 h28=>
 bp (yC s k wl 56 false true (.fn (.func 100) [] []) [v27] h28) fun v29 h30=>
 bc (xX s 56 wl k false) Pf none (au (xX s 56 wl k false) (av s.P Tryz.f56) r8) ⟨(c::d::g::v24::l::q::p::o::e::u::r::z::v15::v18::v20::v22::v27::v29::zz),h30⟩):=kG
theorem Fc (s:Sys) (k wl:Nat) (zz:List V) (h:Hp):au (xX s 56 wl k false) (av s.P Tryz.f56) r8 .norm ⟨(c::d::g::zz),h⟩ =
 bs (aj s.P wl 4 g (.lit (.bool true)) h) fun h31=>
 er [ab s.P 4 g h31] h31:=kR
theorem dG (s:Sys) (K:Out→St→Option (V×Hp)) (k wl:Nat) (rd:Bool) (h:Hp):au (xX s 56 wl k rd) K [.seq xy] .norm ⟨[c,d,g,j,l,q,p,o,e,u,r,z,A,B,F,D,E,G,I,L,N,M,J,O,R,Q,U,T,Y,X,Z,W,t4,t0,t5,t1,t2,t3],h⟩ =
 bm (aq s.P .leq 3 l q) h fun v32 h33=>
 gd v32 (
 dv (xX s 56 wl k rd) oj 8 h.length ([],[]) (au (xX s 56 wl k rd) K mT) ⟨[c,d,g,j,l,q,p,o,e,u,r,z,A,B,F,D,E,G,I,L,l,q,v32,(.lit (.bool true)),uu,uu,uu,uu,Y,X,Z,W,t4,t0,t5,t1,t2,t3],h33⟩) (
 bm (ab s.P 24 d h33) h33 fun v34 h35=>
 bp (aX s.P 24 v34 h35) fun v36 h37=>
 bm (aq s.P .geq 3 l v36) h37 fun v38 h39=>
 dv (xX s 56 wl k rd) oj 8 h.length ([],[]) (au (xX s 56 wl k rd) K mT) ⟨[c,d,g,j,l,q,p,o,e,u,r,z,A,B,F,D,E,G,I,L,l,q,v32,(.lit (.bool false)),l,v34,v36,v38,Y,X,Z,W,t4,t0,t5,t1,t2,t3],h39⟩) (
 dv (xX s 56 wl k rd) oj 5 h.length ([],[]) (au (xX s 56 wl k rd) K mT) ⟨[c,d,g,j,l,q,p,o,e,u,r,z,A,B,F,D,E,G,I,L,l,q,v32,v32,uu,Q,U,T,Y,X,Z,W,t4,t0,t5,t1,t2,t3],h33⟩):=kR
theorem dJ (s:Sys) (K:Out→St→Option (V×Hp)) (k wl:Nat) (rd:Bool) (zz:List V) (h:Hp):au (xX s 56 wl k rd) K [.seq AR] .norm ⟨(c::d::g::j::l::q::p::o::e::u::r::z::A::B::F::D::E::G::I::L::zz),h⟩ =
 K .norm ⟨(c::d::g::j::I::L::p::o::e::u::r::z::A::B::F::D::E::G::I::L::zz),h⟩:=kR
theorem DM (s:Sys) (K:Out→St→Option (V×Hp)) (k wl:Nat) (rd:Bool) (m0:Nat) (ac:List Nat×List Nat) (h:Hp):dv (xX s 56 wl k rd) oj 8 m0 ac (au (xX s 56 wl k rd) K mT) ⟨[c,d,g,j,l,q,p,o,e,u,r,z,A,B,F,D,E,G,I,L,N,M,J,O,R,Q,U,T,Y,X,Z,W,t4,t0,t5,t1,t2,t3],h⟩ =
 bm (aO O (.lit (.bool true)) T) h fun v40 h41=>
 gd v40 (
 dv (xX s 56 wl k rd) oj 14 m0 ac (au (xX s 56 wl k rd) K mT) ⟨[c,d,g,j,l,q,p,o,e,u,r,z,A,B,F,D,E,G,I,L,N,M,J,O,R,Q,U,T,v40,(.lit (.bool true)),uu,uu,uu,uu,t5,t1,t2,t3],h41⟩) (
 bm (ab s.P 150 j h41) h41 fun v42 h43=>
 bm (ai s.P 150 v42 l h43) h43 fun v44 h45=>
 bm (ab s.P 4 v44 h45) h45 fun v46 h47=>
 dv (xX s 56 wl k rd) oj 14 m0 ac (au (xX s 56 wl k rd) K mT) ⟨[c,d,g,j,l,q,p,o,e,u,r,z,A,B,F,D,E,G,I,L,N,M,J,O,R,Q,U,T,v40,(.lit (.bool false)),v42,l,v44,v46,t5,t1,t2,t3],h47⟩) (
 dv (xX s 56 wl k rd) oj 11 m0 ac (au (xX s 56 wl k rd) K mT) ⟨[c,d,g,j,l,q,p,o,e,u,r,z,A,B,F,D,E,G,I,L,N,M,J,O,R,Q,U,T,v40,v40,uu,W,t4,t0,t5,t1,t2,t3],h41⟩):=kG
theorem Eo (s:Sys) (K:Out→St→Option (V×Hp)) (k wl:Nat) (rd:Bool) (m0:Nat) (ac:List Nat×List Nat) (h:Hp):dv (xX s 56 wl k rd) oj 14 m0 ac (au (xX s 56 wl k rd) K mT) ⟨[c,d,g,j,l,q,p,o,e,u,r,z,A,B,F,D,E,G,I,L,N,M,J,O,R,Q,U,T,Y,X,Z,W,t4,t0,t5,t1,t2,t3],h⟩ =
 bm (aO X (.lit (.bool true)) t0) h fun v48 h49=>
 cnd v48 (
 bs (aj s.P wl 4 g (.lit (.bool false)) h49) fun h50=>
 K .ret ⟨[c,d,g,j,l,q,p,o,e,u,r,z,A,B,F,D,E,G,I,L,N,M,J,O,R,Q,U,T,Y,X,Z,W,t4,t0,v48,t1,t2,t3],h50⟩) (
 bm (ab s.P 150 j h49) h49 fun v51 h52=>
 bm (ai s.P 150 v51 l h52) h52 fun v53 h54=>
 bs (aj s.P wl 4 v53 (.lit (.bool true)) h54) fun h55=>
 K .norm ⟨[c,d,g,j,l,q,p,o,e,u,r,z,A,B,F,D,E,G,I,L,N,M,J,O,R,Q,U,T,Y,X,Z,W,t4,t0,v48,v51,l,v53],h55⟩):=kG
theorem lj (cx:Cx) (K:Out→St→Option (V×Hp)) (s:St):au cx K Bb .ret s=K .ret s:=by kernel_rfl
theorem li (cx:Cx) (K:Out→St→Option (V×Hp)) (s:St):au cx K r8 .ret s=K .ret s:=by kernel_rfl
theorem lE (cx:Cx) (K:Out→St→Option (V×Hp)) (s:St):au cx K mT .ret s=K .ret s:=by kernel_rfl
-- names: Zw,ZB,E4,Fc,dG,dJ,DM,Eo,lj,li,lE
-- range over a function at [1,1,1,0,1,0]
noncomputable def ES:Code:=al (am Tryz.f89) [1,1,0,1,0,0]
noncomputable def Ek:List Fr:=[.block 0,.seq (al (am Tryz.f89) [1,1,1])]
theorem Zz (h:Hp):ak (xX s 89 wl k false) Tryz.f89 [c,d,g] h =
 bp (aX s.P 24 c h) fun v1 h2=>
 bp (aX s.P 24 d h2) fun v3 h4=>
 bm (aq s.P .neq 3 v1 v3) h4 fun v5 h6=>
 cnd v5 (
 some ((.lit (.bool false)),h6)) (
 bp (aX s.P 24 c h6) fun v7 h8=>
 yI s k wl 89 Tryz.f89 ES h8.length Ek k ⟨[(V.kill h8.length c),(V.kill h8.length d),(V.kill h8.length g),(V.kill h8.length uu),(V.kill h8.length uu),(V.kill h8.length uu),(.lit (.bool false)),(V.kill h8.length uu),(V.kill h8.length uu),(V.kill h8.length uu),(V.kill h8.length c),(V.kill h8.length v1),(V.kill h8.length d),(V.kill h8.length v3),(V.kill h8.length v5),(V.kill h8.length c),(V.kill h8.length v7),(.lit (.int .i64 0)),.junk,.junk,.junk,.junk,.junk,.junk,.junk,.junk,.junk,.junk,.junk,.junk,.junk,.junk],bY h8.length h8⟩):=kB
theorem adB (k wl:Nat) (h:Hp):evF Tryz.prog xM (k+1) wl 89 [c,d,g] h=ak (xX (xS k) 89 wl k false) Tryz.f89 [c,d,g] h:=by kernel_rfl
theorem ZG (P:Program) (h:Hp):av P Tryz.f89 .ret ⟨[c,d,g,j,l,q,p,o,e,u,r,z,A,B,F,D,E,G,I,L,N,M,J,O,R,Q,U,T,Y,X,Z,W],h⟩=some (p,h):=by kernel_rfl
theorem Oo (s:Sys) (K:Out→St→Option (V×Hp)) (k wl:Nat) (rd:Bool) (n n0:Nat) (h:Hp):itX (xX s 89 wl k rd) ES n0 K (n+1) ⟨[c,d,g,j,l,q,p,o,e,u,r,z,A,B,F,D,E,G,I,L,N,M,J,O,R,Q,U,T,Y,X,Z,W],h⟩ =
 bm (aq s.P .lss 3 G E) h fun v9 h10=>
 cnd v9 (
 bm (ai s.P 24 D G h10) h10 fun v11 h12=>
 bm (ab s.P 101 v11 h12) h12 fun v13 h14=>
 bp (ar s.P 101 h14) fun v15 h16=>
 bs (aj s.P wl 101 v15 v13 h16) fun h17=>
 bm (ai s.P 24 d G h17) h17 fun v18 h19=>
 bm (ab s.P 101 v18 h19) h19 fun v20 h21=>
 bp (ar s.P 101 h21) fun v22 h23=>
 bs (aj s.P wl 101 v22 v20 h23) fun h24=>
 bm (ab s.P 101 v15 h24) h24 fun v25 h26=>
 bm (ab s.P 101 v22 h26) h26 fun v27 h28=>
 bp (cw (xX s 89 wl k rd) false true g [v25,v27] h28) fun v29 h30=>
 bm (vUn .not v29) h30 fun v31 h32=>
 cnd v31 (
 K .ret ⟨[c,d,g,j,l,q,(.lit (.bool false)),G,v15,v22,r,z,A,B,F,D,E,G,v9,G,v11,v13,d,G,v18,v20,g,v25,v27,v29,v31,W],h32⟩) (
 bm (aq s.P .add 3 G (.lit (.int .i64 1))) h32 fun v33 h34=>
 itX (xX s 89 wl k rd) ES n0 K n ⟨[(V.kill n0 c),(V.kill n0 d),(V.kill n0 g),(V.kill n0 j),(V.kill n0 l),(V.kill n0 q),(V.kill n0 p),(V.kill n0 G),(V.kill n0 v15),(V.kill n0 v22),(V.kill n0 r),(V.kill n0 z),(V.kill n0 A),(V.kill n0 B),(V.kill n0 F),(V.kill n0 D),(V.kill n0 E),(V.kill n0 v33),.junk,.junk,.junk,.junk,.junk,.junk,.junk,.junk,.junk,.junk,.junk,.junk,.junk,.junk],bY n0 h34⟩)) (
 K (.exit 0) ⟨[(V.kill n0 c),(V.kill n0 d),(V.kill n0 g),(V.kill n0 j),(V.kill n0 l),(V.kill n0 q),(V.kill n0 p),(V.kill n0 o),(V.kill n0 e),(V.kill n0 u),(V.kill n0 r),(V.kill n0 z),(V.kill n0 A),(V.kill n0 B),(V.kill n0 F),(V.kill n0 D),(V.kill n0 E),.junk,.junk,.junk,.junk,.junk,.junk,.junk,.junk,.junk,.junk,.junk,.junk,.junk,.junk,.junk],bY n0 h10⟩):=kI
theorem EA (h:Hp):au (xX s 89 wl k false) (av s.P Tryz.f89) Ek (.exit 0) ⟨[c,d,g,j,l,q,p,o,e,u,r,z,A,B,F,D,E,G,I,L,N,M,J,O,R,Q,U,T,Y,X,Z,W],h⟩ =
 some ((.lit (.bool true)),h):=kR
theorem lk (cx:Cx) (K:Out→St→Option (V×Hp)) (s:St):au cx K Ek .ret s=K .ret s:=by kernel_rfl
-- names: Zz,ZG,Oo,EA,lk
noncomputable def Eb:Code:=al (am Tryz.f90) [1,0]
noncomputable def Ay:List Fr:=[.seq (al (am Tryz.f90) [1,1])]
theorem aaw (h:Hp):ak (xX s 90 wl k false) Tryz.f90 [c,d] h =
 bp (aJ c h) fun v1 h2=>
 bp (aJ d h2) fun v3 h4=>
 bm (aa s.P 101 v1 0) h4 fun v5 h6=>
 bm (ab s.P 3 v5 h6) h6 fun v7 h8=>
 bm (aa s.P 101 v3 0) h8 fun v9 h10=>
 bm (ab s.P 3 v9 h10) h10 fun v11 h12=>
 bm (aq s.P .eql 3 v7 v11) h12 fun v13 h14=>
 gd v13 (
 bm (aa s.P 101 v1 1) h14 fun v15 h16=>
 bm (ab s.P 53 v15 h16) h16 fun v17 h18=>
 bm (aa s.P 101 v3 1) h18 fun v19 h20=>
 bm (ab s.P 53 v19 h20) h20 fun v21 h22=>
 bp (yC s k wl 90 false true (.fn (.func 91) [] []) [v17,v21] h22) fun v23 h24=>
 yO s k wl 90 Tryz.f90 Eb 11 h4.length ([],[]) Ay ⟨[c,d,v1,v3,(.lit (.bool false)),v5,v7,v9,v11,v13,(.lit (.bool true)),v15,v17,v19,v21,v23,uu],h24⟩) (
 yO s k wl 90 Tryz.f90 Eb 11 h4.length ([],[]) Ay ⟨[c,d,v1,v3,(.lit (.bool false)),v5,v7,v9,v11,v13,(.lit (.bool false)),uu,uu,uu,uu,uu,uu],h14⟩) (
 yO s k wl 90 Tryz.f90 Eb 7 h4.length ([],[]) Ay ⟨[c,d,v1,v3,(.lit (.bool false)),v5,v7,v9,v11,v13,v13,uu,uu,uu,uu,uu,uu],h14⟩):=kB
theorem ael (k wl:Nat) (h:Hp):evF Tryz.prog xM (k+1) wl 90 [c,d] h=ak (xX (xS k) 90 wl k false) Tryz.f90 [c,d] h:=by kernel_rfl
theorem Js (h:Hp):yO s k wl 90 Tryz.f90 Eb 11 m0 ac Ay ⟨[c,d,g,j,l,q,p,o,e,u,r,z,A,B,F,D,E],h⟩ =
 bm (aO r D (.lit (.bool false))) h fun v25 h26=>
 some (v25,h26):=kG
theorem nD (cx:Cx) (K:Out→St→Option (V×Hp)) (s:St):au cx K Ay .ret s=K .ret s:=by kernel_rfl
-- names: aaw,Js,nD
noncomputable def D4:Code:=al (am Tryz.f91) [1,1,0,1,0,0]
noncomputable def DQ:List Fr:=[.block 0,.seq (al (am Tryz.f91) [1,1,1])]
theorem aaG (h:Hp):ak (xX s 91 wl k false) Tryz.f91 [c,d] h =
 bp (aX s.P 53 c h) fun v1 h2=>
 bp (aX s.P 53 d h2) fun v3 h4=>
 bm (aq s.P .neq 3 v1 v3) h4 fun v5 h6=>
 cnd v5 (
 some ((.lit (.bool false)),h6)) (
 bp (aX s.P 53 c h6) fun v7 h8=>
 yI s k wl 91 Tryz.f91 D4 h8.length DQ k ⟨[(V.kill h8.length c),(V.kill h8.length d),(V.kill h8.length uu),(V.kill h8.length uu),(.lit (.bool false)),(V.kill h8.length uu),(V.kill h8.length c),(V.kill h8.length v1),(V.kill h8.length d),(V.kill h8.length v3),(V.kill h8.length v5),(V.kill h8.length c),(V.kill h8.length v7),(.lit (.int .i64 0)),.junk,.junk,.junk,.junk,.junk,.junk,.junk,.junk,.junk,.junk,.junk,.junk],bY h8.length h8⟩):=kB
theorem adV (k wl:Nat) (h:Hp):evF Tryz.prog xM (k+1) wl 91 [c,d] h=ak (xX (xS k) 91 wl k false) Tryz.f91 [c,d] h:=by kernel_rfl
theorem aao (P:Program) (h:Hp):av P Tryz.f91 .ret ⟨[c,d,g,j,l,q,p,o,e,u,r,z,A,B,F,D,E,G,I,L,N,M,J,O,R,Q],h⟩=some (l,h):=by kernel_rfl
theorem OQ (s:Sys) (K:Out→St→Option (V×Hp)) (k wl:Nat) (rd:Bool) (n n0:Nat) (h:Hp):itX (xX s 91 wl k rd) D4 n0 K (n+1) ⟨[c,d,g,j,l,q,p,o,e,u,r,z,A,B,F,D,E,G,I,L,N,M,J,O,R,Q],h⟩ =
 bm (aq s.P .lss 3 B A) h fun v9 h10=>
 cnd v9 (
 bm (ai s.P 53 c B h10) h10 fun v11 h12=>
 bm (ab s.P 3 v11 h12) h12 fun v13 h14=>
 bm (ai s.P 53 d B h14) h14 fun v15 h16=>
 bm (ab s.P 3 v15 h16) h16 fun v17 h18=>
 bm (aq s.P .neq 3 v13 v17) h18 fun v19 h20=>
 cnd v19 (
 K .ret ⟨[c,d,g,j,(.lit (.bool false)),B,p,o,e,u,r,z,A,B,v9,B,c,B,v11,v13,d,B,v15,v17,v19,Q],h20⟩) (
 bm (aq s.P .add 3 B (.lit (.int .i64 1))) h20 fun v21 h22=>
 itX (xX s 91 wl k rd) D4 n0 K n ⟨[(V.kill n0 c),(V.kill n0 d),(V.kill n0 g),(V.kill n0 j),(V.kill n0 l),(V.kill n0 B),(V.kill n0 p),(V.kill n0 o),(V.kill n0 e),(V.kill n0 u),(V.kill n0 r),(V.kill n0 z),(V.kill n0 A),(V.kill n0 v21),.junk,.junk,.junk,.junk,.junk,.junk,.junk,.junk,.junk,.junk,.junk,.junk],bY n0 h22⟩)) (
 K (.exit 0) ⟨[(V.kill n0 c),(V.kill n0 d),(V.kill n0 g),(V.kill n0 j),(V.kill n0 l),(V.kill n0 q),(V.kill n0 p),(V.kill n0 o),(V.kill n0 e),(V.kill n0 u),(V.kill n0 r),(V.kill n0 z),(V.kill n0 A),.junk,.junk,.junk,.junk,.junk,.junk,.junk,.junk,.junk,.junk,.junk,.junk,.junk],bY n0 h10⟩):=kI
theorem IF (h:Hp):au (xX s 91 wl k false) (av s.P Tryz.f91) DQ (.exit 0) ⟨[c,d,g,j,l,q,p,o,e,u,r,z,A,B,F,D,E,G,I,L,N,M,J,O,R,Q],h⟩ =
 some ((.lit (.bool true)),h):=kR
theorem nk (cx:Cx) (K:Out→St→Option (V×Hp)) (s:St):au cx K DQ .ret s=K .ret s:=by kernel_rfl
-- names: aaG,aao,OQ,IF,nk
theorem U4 (h:Hp):ak (xX s 98 wl k false) Tryz.f98 [c,d] h =
 bp (yC s k wl 98 false true (.fn (.func 147) [] []) [c,d] h) fun v1 h2=>
 bm (aq s.P .geq 3 v1 (.lit (.int .i64 0))) h2 fun v3 h4=>
 some (v3,h4):=kB
theorem Zn (k wl:Nat) (h:Hp):evF Tryz.prog xM (k+1) wl 98 [c,d] h=ak (xX (xS k) 98 wl k false) Tryz.f98 [c,d] h:=by kernel_rfl
-- names: U4,
noncomputable def D8:Code:=al (am Tryz.f99) [1,0]
noncomputable def xJ:List Fr:=[.seq (al (am Tryz.f99) [1,1])]
theorem X8 (h:Hp):ak (xX s 99 wl k false) Tryz.f99 [c] h =
 bp (aJ c h) fun v1 h2=>
 bm (aa s.P 101 v1 0) h2 fun v3 h4=>
 bm (ab s.P 3 v3 h4) h4 fun v5 h6=>
 bm (aq s.P .lss 3 v5 (.lit (.int .i64 0))) h6 fun v7 h8=>
 gd v7 (
 yO s k wl 99 Tryz.f99 D8 7 h2.length ([],[]) xJ ⟨[c,v1,(.lit (.bool false)),v3,v5,v7,(.lit (.bool true)),uu,uu,uu,uu],h8⟩) (
 bm (aa s.P 101 v1 0) h8 fun v9 h10=>
 bm (ab s.P 3 v9 h10) h10 fun v11 h12=>
 bm (aq s.P .gtr 3 v11 (.lit (.int .i64 20))) h12 fun v13 h14=>
 yO s k wl 99 Tryz.f99 D8 7 h2.length ([],[]) xJ ⟨[c,v1,(.lit (.bool false)),v3,v5,v7,(.lit (.bool false)),v9,v11,v13,uu],h14⟩) (
 yO s k wl 99 Tryz.f99 D8 5 h2.length ([],[]) xJ ⟨[c,v1,(.lit (.bool false)),v3,v5,v7,v7,uu,uu,uu,uu],h8⟩):=kB
theorem ZU (k wl:Nat) (h:Hp):evF Tryz.prog xM (k+1) wl 99 [c] h=ak (xX (xS k) 99 wl k false) Tryz.f99 [c] h:=by kernel_rfl
theorem AI (h:Hp):yO s k wl 99 Tryz.f99 D8 7 m0 ac xJ ⟨[c,d,g,j,l,q,p,o,e,u,r],h⟩ =
 bm (aO p (.lit (.bool true)) u) h fun v15 h16=>
 some (v15,h16):=kG
theorem iq (cx:Cx) (K:Out→St→Option (V×Hp)) (s:St):au cx K xJ .ret s=K .ret s:=by kernel_rfl
-- names: X8,AI,iq
theorem NH (h:Hp):ak (xX s 100 wl k false) Tryz.f100 [c] h =
 bp (aJ c h) fun v1 h2=>
 some ((.fn (.func 148) [] [v1]),h2):=kB
theorem Qd (k wl:Nat) (h:Hp):evF Tryz.prog xM (k+1) wl 100 [c] h=ak (xX (xS k) 100 wl k false) Tryz.f100 [c] h:=by kernel_rfl
-- names: NH,
noncomputable def xn:Code:=al (am Tryz.f147) [1,0,1,0,0]
noncomputable def xi:List Fr:=[.block 0,.seq (al (am Tryz.f147) [1,1])]
theorem CU (h:Hp):ak (xX s 147 wl k false) Tryz.f147 [c,d] h =
 bp (aX s.P 24 c h) fun v1 h2=>
 yI s k wl 147 Tryz.f147 xn h2.length xi k ⟨[(V.kill h2.length c),(V.kill h2.length d),(V.kill h2.length uu),(V.kill h2.length uu),(.lit (.int .i64 0)),(V.kill h2.length uu),(V.kill h2.length c),(V.kill h2.length v1),(.lit (.int .i64 0)),.junk,.junk,.junk,.junk,.junk,.junk,.junk,.junk,.junk,.junk],bY h2.length h2⟩:=kB
theorem FT (k wl:Nat) (h:Hp):evF Tryz.prog xM (k+1) wl 147 [c,d] h=ak (xX (xS k) 147 wl k false) Tryz.f147 [c,d] h:=by kernel_rfl
theorem Ds (P:Program) (h:Hp):av P Tryz.f147 .ret ⟨[c,d,g,j,l,q,p,o,e,u,r,z,A,B,F,D,E,G,I],h⟩=some (l,h):=by kernel_rfl
theorem Is (s:Sys) (K:Out→St→Option (V×Hp)) (k wl:Nat) (rd:Bool) (n n0:Nat) (h:Hp):itX (xX s 147 wl k rd) xn n0 K (n+1) ⟨[c,d,g,j,l,q,p,o,e,u,r,z,A,B,F,D,E,G,I],h⟩ =
 bm (aq s.P .lss 3 e o) h fun v3 h4=>
 cnd v3 (
 bm (ai s.P 24 c e h4) h4 fun v5 h6=>
 bm (ab s.P 101 v5 h6) h6 fun v7 h8=>
 bp (cw (xX s 147 wl k rd) false true d [v7] h8) fun v9 h10=>
 cnd v9 (
 K .ret ⟨[c,d,g,j,e,e,p,o,e,v3,e,d,c,e,v5,v7,v9,e,I],h10⟩) (
 bm (aq s.P .add 3 e (.lit (.int .i64 1))) h10 fun v11 h12=>
 itX (xX s 147 wl k rd) xn n0 K n ⟨[(V.kill n0 c),(V.kill n0 d),(V.kill n0 g),(V.kill n0 j),(V.kill n0 l),(V.kill n0 e),(V.kill n0 p),(V.kill n0 o),(V.kill n0 v11),.junk,.junk,.junk,.junk,.junk,.junk,.junk,.junk,.junk,.junk],bY n0 h12⟩)) (
 K (.exit 0) ⟨[(V.kill n0 c),(V.kill n0 d),(V.kill n0 g),(V.kill n0 j),(V.kill n0 l),(V.kill n0 q),(V.kill n0 p),(V.kill n0 o),.junk,.junk,.junk,.junk,.junk,.junk,.junk,.junk,.junk,.junk,.junk],bY n0 h4⟩):=kI
theorem lZ (h:Hp):au (xX s 147 wl k false) (av s.P Tryz.f147) xi (.exit 0) ⟨[c,d,g,j,l,q,p,o,e,u,r,z,A,B,F,D,E,G,I],h⟩ =
 some ((.lit (.int .i64 (-1))),h):=kR
theorem eA (cx:Cx) (K:Out→St→Option (V×Hp)) (s:St):au cx K xi .ret s=K .ret s:=by kernel_rfl
-- names: CU,Ds,Is,lZ,eA
noncomputable def kP:Code:=al (am Tryz.f148) [1,0,0]
noncomputable def nj:List Fr:=[.block 0]
noncomputable def wb:Code:=al (am Tryz.f148) [1,0,0,1,1,0,0,1,1,0,0]
noncomputable def we:List Fr:=[.block 2,.block 1,.seq (al (am Tryz.f148) [1,0,0,1,1,1])]
theorem NG (h:Hp):ak (xX s 148 wl k false) Tryz.f148 [c,d] h =
 bm (ab s.P 24 d h) h fun v1 h2=>
 bp (aX s.P 24 v1 h2) fun v3 h4=>
 yI s k wl 148 Tryz.f148 kP h4.length nj k ⟨[(V.kill h4.length c),(V.kill h4.length d),(V.kill h4.length uu),(V.kill h4.length uu),(V.kill h4.length uu),(V.kill h4.length uu),(V.kill h4.length uu),(V.kill h4.length v1),(V.kill h4.length v3),(.lit (.int .i64 0)),.junk,.junk,.junk,.junk,.junk,.junk,.junk,.junk,.junk,.junk,.junk,.junk,.junk,.junk,.junk,.junk,.junk,.junk],bY h4.length h4⟩:=kB
theorem SQ (k wl:Nat) (h:Hp):evF Tryz.prog xM (k+1) wl 148 [c,d] h=ak (xX (xS k) 148 wl k false) Tryz.f148 [c,d] h:=by kernel_rfl
theorem NZ (P:Program) (h:Hp):av P Tryz.f148 .ret ⟨[c,d,g,j,l,q,p,o,e,u,r,z,A,B,F,D,E,G,I,L,N,M,J,O,R,Q,U,T],h⟩=some (.tup [],h):=by kernel_rfl
theorem Hl (s:Sys) (K:Out→St→Option (V×Hp)) (k wl:Nat) (rd:Bool) (n n0:Nat) (h:Hp):itX (xX s 148 wl k rd) kP n0 K (n+1) ⟨[c,d,g,j,l,q,p,o,e,u,r,z,A,B,F,D,E,G,I,L,N,M,J,O,R,Q,U,T],h⟩ =
 bm (aq s.P .lss 3 u e) h fun v5 h6=>
 cnd v5 (
 bm (ai s.P 24 o u h6) h6 fun v7 h8=>
 bm (ab s.P 101 v7 h8) h8 fun v9 h10=>
 bp (ar s.P 101 h10) fun v11 h12=>
 bs (aj s.P wl 101 v11 v9 h12) fun h13=>
 bm (aa s.P 101 v11 1) h13 fun v14 h15=>
 bm (ab s.P 53 v14 h15) h15 fun v16 h17=>
 bp (aX s.P 53 v16 h17) fun v18 h19=>
 itX (xX s 148 wl k rd) wb h19.length (au (xX s 148 wl k rd) (eD (xX s 148 wl k rd) kP n0 K n) we) k ⟨[(V.kill h19.length c),(V.kill h19.length d),(V.kill h19.length g),(V.kill h19.length u),(V.kill h19.length v11),(V.kill h19.length q),(V.kill h19.length p),(V.kill h19.length o),(V.kill h19.length e),(V.kill h19.length u),(V.kill h19.length v5),(V.kill h19.length u),(V.kill h19.length v7),(V.kill h19.length v9),(V.kill h19.length v14),(V.kill h19.length v16),(V.kill h19.length v18),(.lit (.int .i64 0)),.junk,.junk,.junk,.junk,.junk,.junk,.junk,.junk,.junk,(V.kill h19.length T)],bY h19.length h19⟩) (
 K (.exit 0) ⟨[(V.kill n0 c),(V.kill n0 d),(V.kill n0 g),(V.kill n0 j),(V.kill n0 l),(V.kill n0 q),(V.kill n0 p),(V.kill n0 o),(V.kill n0 e),.junk,.junk,.junk,.junk,.junk,.junk,.junk,.junk,.junk,.junk,.junk,.junk,.junk,.junk,.junk,.junk,.junk,.junk,.junk],bY n0 h6⟩):=kI
theorem w7 (s:Sys) (k wl:Nat) (zz:List V) (h:Hp):au (xX s 148 wl k false) (av s.P Tryz.f148) nj (.exit 0) ⟨(c::zz),h⟩ =
 some (.tup [],h):=kR
theorem Hm (s:Sys) (K:Out→St→Option (V×Hp)) (k wl:Nat) (rd:Bool) (n n0:Nat) (h:Hp):itX (xX s 148 wl k rd) wb n0 K (n+1) ⟨[c,d,g,j,l,q,p,o,e,u,r,z,A,B,F,D,E,G,I,L,N,M,J,O,R,Q,U,T],h⟩ =
 bm (aq s.P .lss 3 G E) h fun v20 h21=>
 cnd v20 (
 bm (ai s.P 53 D G h21) h21 fun v22 h23=>
 bm (ab s.P 3 v22 h23) h23 fun v24 h25=>
 bp (cw (xX s 148 wl k rd) false true c [v24,j] h25) fun v26 h27=>
 bm (vUn .not v26) h27 fun v28 h29=>
 cnd v28 (
 K .ret ⟨[c,d,g,j,l,q,v24,o,e,u,r,z,A,B,F,D,E,G,v20,v22,v24,c,v24,j,v26,v28,U,T],h29⟩) (
 bm (aq s.P .add 3 G (.lit (.int .i64 1))) h29 fun v30 h31=>
 itX (xX s 148 wl k rd) wb n0 K n ⟨[(V.kill n0 c),(V.kill n0 d),(V.kill n0 g),(V.kill n0 j),(V.kill n0 l),(V.kill n0 q),(V.kill n0 v24),(V.kill n0 o),(V.kill n0 e),(V.kill n0 u),(V.kill n0 r),(V.kill n0 z),(V.kill n0 A),(V.kill n0 B),(V.kill n0 F),(V.kill n0 D),(V.kill n0 E),(V.kill n0 v30),.junk,.junk,.junk,.junk,.junk,.junk,.junk,.junk,.junk,(V.kill n0 T)],bY n0 h31⟩)) (
 K (.exit 2) ⟨[(V.kill n0 c),(V.kill n0 d),(V.kill n0 g),(V.kill n0 j),(V.kill n0 l),(V.kill n0 q),(V.kill n0 p),(V.kill n0 o),(V.kill n0 e),(V.kill n0 u),(V.kill n0 r),(V.kill n0 z),(V.kill n0 A),(V.kill n0 B),(V.kill n0 F),(V.kill n0 D),(V.kill n0 E),.junk,.junk,.junk,.junk,.junk,.junk,.junk,.junk,.junk,.junk,(V.kill n0 T)],bY n0 h21⟩):=kI
theorem xo (s:Sys) (K:Out→St→Option (V×Hp)) (k wl:Nat) (rd:Bool) (n n0:Nat) (h:Hp):au (xX s 148 wl k rd) (eD (xX s 148 wl k rd) kP n0 K n) we (.exit 2) ⟨[c,d,g,j,l,q,p,o,e,u,r,z,A,B,F,D,E,G,I,L,N,M,J,O,R,Q,U,T],h⟩ =
 bm (aq s.P .add 3 u (.lit (.int .i64 1))) h fun v32 h33=>
 itX (xX s 148 wl k rd) kP n0 K n ⟨[(V.kill n0 c),(V.kill n0 d),(V.kill n0 g),(V.kill n0 j),(V.kill n0 l),(V.kill n0 q),(V.kill n0 p),(V.kill n0 o),(V.kill n0 e),(V.kill n0 v32),.junk,.junk,.junk,.junk,.junk,.junk,.junk,.junk,.junk,.junk,.junk,.junk,.junk,.junk,.junk,.junk,.junk,.junk],bY n0 h33⟩:=kR
theorem kc (cx:Cx) (K:Out→St→Option (V×Hp)) (s:St):au cx K nj .ret s=K .ret s:=by kernel_rfl
theorem ke (cx:Cx) (K:Out→St→Option (V×Hp)) (s:St):au cx K we .ret s=K .ret s:=by kernel_rfl
-- names: NG,NZ,Hl,w7,Hm,xo,kc,ke
noncomputable def DP:Code:=al (am Tryz.f97) [1,0,1,0,0]
noncomputable def EX:List Fr:=[.block 0,.seq (al (am Tryz.f97) [1,1])]
theorem Yn (h:Hp):ak (xX s 97 wl k false) Tryz.f97 [c,d] h =
 bp (aX s.P 53 c h) fun v1 h2=>
 yI s k wl 97 Tryz.f97 DP h2.length EX k ⟨[(V.kill h2.length c),(V.kill h2.length d),(V.kill h2.length uu),(V.kill h2.length uu),(.lit (.int .i64 0)),(V.kill h2.length uu),(V.kill h2.length c),(V.kill h2.length v1),(.lit (.int .i64 0)),.junk,.junk,.junk,.junk,.junk,.junk,.junk,.junk,.junk,.junk],bY h2.length h2⟩:=kB
theorem ZF (k wl:Nat) (h:Hp):evF Tryz.prog xM (k+1) wl 97 [c,d] h=ak (xX (xS k) 97 wl k false) Tryz.f97 [c,d] h:=by kernel_rfl
theorem US (P:Program) (h:Hp):av P Tryz.f97 .ret ⟨[c,d,g,j,l,q,p,o,e,u,r,z,A,B,F,D,E,G,I],h⟩=some (l,h):=by kernel_rfl
theorem OY (s:Sys) (K:Out→St→Option (V×Hp)) (k wl:Nat) (rd:Bool) (n n0:Nat) (h:Hp):itX (xX s 97 wl k rd) DP n0 K (n+1) ⟨[c,d,g,j,l,q,p,o,e,u,r,z,A,B,F,D,E,G,I],h⟩ =
 bm (aq s.P .lss 3 e o) h fun v3 h4=>
 cnd v3 (
 bm (ai s.P 53 c e h4) h4 fun v5 h6=>
 bm (ab s.P 3 v5 h6) h6 fun v7 h8=>
 bp (cw (xX s 97 wl k rd) false true d [v7] h8) fun v9 h10=>
 cnd v9 (
 K .ret ⟨[c,d,g,j,e,e,p,o,e,v3,e,d,c,e,v5,v7,v9,e,I],h10⟩) (
 bm (aq s.P .add 3 e (.lit (.int .i64 1))) h10 fun v11 h12=>
 itX (xX s 97 wl k rd) DP n0 K n ⟨[(V.kill n0 c),(V.kill n0 d),(V.kill n0 g),(V.kill n0 j),(V.kill n0 l),(V.kill n0 e),(V.kill n0 p),(V.kill n0 o),(V.kill n0 v11),.junk,.junk,.junk,.junk,.junk,.junk,.junk,.junk,.junk,.junk],bY n0 h12⟩)) (
 K (.exit 0) ⟨[(V.kill n0 c),(V.kill n0 d),(V.kill n0 g),(V.kill n0 j),(V.kill n0 l),(V.kill n0 q),(V.kill n0 p),(V.kill n0 o),.junk,.junk,.junk,.junk,.junk,.junk,.junk,.junk,.junk,.junk,.junk],bY n0 h4⟩):=kI
theorem BK (h:Hp):au (xX s 97 wl k false) (av s.P Tryz.f97) EX (.exit 0) ⟨[c,d,g,j,l,q,p,o,e,u,r,z,A,B,F,D,E,G,I],h⟩ =
 some ((.lit (.int .i64 (-1))),h):=kR
theorem iQ (cx:Cx) (K:Out→St→Option (V×Hp)) (s:St):au cx K EX .ret s=K .ret s:=by kernel_rfl
-- names: Yn,US,OY,BK,iQ
theorem Ya (h:Hp):ak (xX s 55 wl k false) Tryz.f55 [c,d] h =
 bp (yC s k wl 55 false true (.fn (.func 97) [] []) [c,d] h) fun v1 h2=>
 bm (aq s.P .geq 3 v1 (.lit (.int .i64 0))) h2 fun v3 h4=>
 some (v3,h4):=kB
theorem ZO (k wl:Nat) (h:Hp):evF Tryz.prog xM (k+1) wl 55 [c,d] h=ak (xX (xS k) 55 wl k false) Tryz.f55 [c,d] h:=by kernel_rfl
-- names: Ya,
theorem X3 (h:Hp):ak (xX s 52 wl k false) Tryz.f52 [c,d] h =
 bp (yC s k wl 52 false true (.fn (.func 96) [] []) [c,d] h) fun v1 h2=>
 bm (aq s.P .geq 3 v1 (.lit (.int .i64 0))) h2 fun v3 h4=>
 some (v3,h4):=kB
theorem Zp (k wl:Nat) (h:Hp):evF Tryz.prog xM (k+1) wl 52 [c,d] h=ak (xX (xS k) 52 wl k false) Tryz.f52 [c,d] h:=by kernel_rfl
-- names: X3,
noncomputable def D6:Code:=al (am Tryz.f96) [1,0,1,0,0]
noncomputable def DT:List Fr:=[.block 0,.seq (al (am Tryz.f96) [1,1])]
theorem Vs (h:Hp):ak (xX s 96 wl k false) Tryz.f96 [c,d] h =
 bp (aX s.P 28 c h) fun v1 h2=>
 yI s k wl 96 Tryz.f96 D6 h2.length DT k ⟨[(V.kill h2.length c),(V.kill h2.length d),(V.kill h2.length uu),(V.kill h2.length uu),(.lit (.int .i64 0)),(V.kill h2.length uu),(V.kill h2.length c),(V.kill h2.length v1),(.lit (.int .i64 0)),.junk,.junk,.junk,.junk,.junk,.junk,.junk,.junk,.junk,.junk],bY h2.length h2⟩:=kB
theorem ZT (k wl:Nat) (h:Hp):evF Tryz.prog xM (k+1) wl 96 [c,d] h=ak (xX (xS k) 96 wl k false) Tryz.f96 [c,d] h:=by kernel_rfl
theorem UB (P:Program) (h:Hp):av P Tryz.f96 .ret ⟨[c,d,g,j,l,q,p,o,e,u,r,z,A,B,F,D,E,G,I],h⟩=some (l,h):=by kernel_rfl
theorem Ox (s:Sys) (K:Out→St→Option (V×Hp)) (k wl:Nat) (rd:Bool) (n n0:Nat) (h:Hp):itX (xX s 96 wl k rd) D6 n0 K (n+1) ⟨[c,d,g,j,l,q,p,o,e,u,r,z,A,B,F,D,E,G,I],h⟩ =
 bm (aq s.P .lss 3 e o) h fun v3 h4=>
 cnd v3 (
 bm (ai s.P 28 c e h4) h4 fun v5 h6=>
 bm (ab s.P 57 v5 h6) h6 fun v7 h8=>
 bp (cw (xX s 96 wl k rd) false true d [v7] h8) fun v9 h10=>
 cnd v9 (
 K .ret ⟨[c,d,g,j,e,e,p,o,e,v3,e,d,c,e,v5,v7,v9,e,I],h10⟩) (
 bm (aq s.P .add 3 e (.lit (.int .i64 1))) h10 fun v11 h12=>
 itX (xX s 96 wl k rd) D6 n0 K n ⟨[(V.kill n0 c),(V.kill n0 d),(V.kill n0 g),(V.kill n0 j),(V.kill n0 l),(V.kill n0 e),(V.kill n0 p),(V.kill n0 o),(V.kill n0 v11),.junk,.junk,.junk,.junk,.junk,.junk,.junk,.junk,.junk,.junk],bY n0 h12⟩)) (
 K (.exit 0) ⟨[(V.kill n0 c),(V.kill n0 d),(V.kill n0 g),(V.kill n0 j),(V.kill n0 l),(V.kill n0 q),(V.kill n0 p),(V.kill n0 o),.junk,.junk,.junk,.junk,.junk,.junk,.junk,.junk,.junk,.junk,.junk],bY n0 h4⟩):=kI
theorem xL (h:Hp):au (xX s 96 wl k false) (av s.P Tryz.f96) DT (.exit 0) ⟨[c,d,g,j,l,q,p,o,e,u,r,z,A,B,F,D,E,G,I],h⟩ =
 some ((.lit (.int .i64 (-1))),h):=kR
theorem iE (cx:Cx) (K:Out→St→Option (V×Hp)) (s:St):au cx K DT .ret s=K .ret s:=by kernel_rfl
-- names: Vs,UB,Ox,xL,iE
end
end Go.Ab
set_option maxRecDepth 100000
set_option linter.unusedVariables false
namespace Go.Ab
open Go.Proofs
section
variable (s:Sys) (k wl:Nat) (m0:Nat) (ac:List Nat×List Nat) (c d e o g y p l j v r u z q A D E F B L G M N I O J Q R U W T t2 t3 t4 Y Z t0 t1 t7 t5 t8 t9 t6 X ta tb tc td te tf tg th ti tj:V)
theorem aee (h:Hp):ak (xX s 92 wl k false) Tryz.f92 [c,d] h =
 bp (yC s k wl 92 false true (.fn (.func 145) [] []) [c,d] h) fun v1 h2=>
 some (v1,h2):=kB
theorem afh (k wl:Nat) (h:Hp):evF Tryz.prog xM (k+1) wl 92 [c,d] h=ak (xX (xS k) 92 wl k false) Tryz.f92 [c,d] h:=by kernel_rfl
-- names: aee,
noncomputable def wC:Code:=al (am Tryz.f145) [1,1,0,1,0,0]
noncomputable def xq:List Fr:=[.block 0,.seq (al (am Tryz.f145) [1,1,1])]
theorem Q0 (h:Hp):ak (xX s 145 wl k false) Tryz.f145 [c,d] h =
 bp (aX s.P 63 c h) fun v1 h2=>
 bp (aX s.P 63 d h2) fun v3 h4=>
 bm (aq s.P .neq 3 v1 v3) h4 fun v5 h6=>
 cnd v5 (
 some ((.lit (.bool false)),h6)) (
 bp (aX s.P 63 c h6) fun v7 h8=>
 yI s k wl 145 Tryz.f145 wC h8.length xq k ⟨[(V.kill h8.length c),(V.kill h8.length d),(V.kill h8.length uu),(V.kill h8.length uu),(.lit (.bool false)),(V.kill h8.length uu),(V.kill h8.length c),(V.kill h8.length v1),(V.kill h8.length d),(V.kill h8.length v3),(V.kill h8.length v5),(V.kill h8.length c),(V.kill h8.length v7),(.lit (.int .i64 0)),.junk,.junk,.junk,.junk,.junk,.junk,.junk,.junk,.junk,.junk,.junk,.junk],bY h8.length h8⟩):=kB
theorem Wz (k wl:Nat) (h:Hp):evF Tryz.prog xM (k+1) wl 145 [c,d] h=ak (xX (xS k) 145 wl k false) Tryz.f145 [c,d] h:=by kernel_rfl
theorem SX (P:Program) (h:Hp):av P Tryz.f145 .ret ⟨[c,d,e,o,g,y,p,l,j,v,r,u,z,q,A,D,E,F,B,L,G,M,N,I,O,J],h⟩=some (g,h):=by kernel_rfl
theorem Ig (s:Sys) (K:Out→St→Option (V×Hp)) (k wl:Nat) (rd:Bool) (n n0:Nat) (h:Hp):itX (xX s 145 wl k rd) wC n0 K (n+1) ⟨[c,d,e,o,g,y,p,l,j,v,r,u,z,q,A,D,E,F,B,L,G,M,N,I,O,J],h⟩ =
 bm (aq s.P .lss 3 q z) h fun v9 h10=>
 cnd v9 (
 bm (ai s.P 63 c q h10) h10 fun v11 h12=>
 bm (ab s.P 129 v11 h12) h12 fun v13 h14=>
 bm (ai s.P 63 d q h14) h14 fun v15 h16=>
 bm (ab s.P 129 v15 h16) h16 fun v17 h18=>
 bm (aq s.P .neq 129 v13 v17) h18 fun v19 h20=>
 cnd v19 (
 K .ret ⟨[c,d,e,o,(.lit (.bool false)),q,p,l,j,v,r,u,z,q,v9,q,c,q,v11,v13,d,q,v15,v17,v19,J],h20⟩) (
 bm (aq s.P .add 3 q (.lit (.int .i64 1))) h20 fun v21 h22=>
 itX (xX s 145 wl k rd) wC n0 K n ⟨[(V.kill n0 c),(V.kill n0 d),(V.kill n0 e),(V.kill n0 o),(V.kill n0 g),(V.kill n0 q),(V.kill n0 p),(V.kill n0 l),(V.kill n0 j),(V.kill n0 v),(V.kill n0 r),(V.kill n0 u),(V.kill n0 z),(V.kill n0 v21),.junk,.junk,.junk,.junk,.junk,.junk,.junk,.junk,.junk,.junk,.junk,.junk],bY n0 h22⟩)) (
 K (.exit 0) ⟨[(V.kill n0 c),(V.kill n0 d),(V.kill n0 e),(V.kill n0 o),(V.kill n0 g),(V.kill n0 y),(V.kill n0 p),(V.kill n0 l),(V.kill n0 j),(V.kill n0 v),(V.kill n0 r),(V.kill n0 u),(V.kill n0 z),.junk,.junk,.junk,.junk,.junk,.junk,.junk,.junk,.junk,.junk,.junk,.junk,.junk],bY n0 h10⟩):=kI
theorem DG (h:Hp):au (xX s 145 wl k false) (av s.P Tryz.f145) xq (.exit 0) ⟨[c,d,e,o,g,y,p,l,j,v,r,u,z,q,A,D,E,F,B,L,G,M,N,I,O,J],h⟩ =
 some ((.lit (.bool true)),h):=kR
theorem l8 (cx:Cx) (K:Out→St→Option (V×Hp)) (s:St):au cx K xq .ret s=K .ret s:=by kernel_rfl
-- names: Q0,SX,Ig,DG,l8
noncomputable def wp:Code:=al (am Tryz.f146) [1,0]
noncomputable def pM:List Fr:=[.seq (al (am Tryz.f146) [1,1])]
theorem QM (h:Hp):ak (xX s 146 wl k false) Tryz.f146 [c,d] h =
 bp (aJ c h) fun v1 h2=>
 bm (ab s.P 24 v1 h2) h2 fun v3 h4=>
 bp (yC s k wl 146 false true (.fn (.func 56) [] []) [v3] h4) fun v5 h6=>
 gd v5 (
 bp (yC s k wl 146 false true (.fn (.func 170) [] []) [d,(.fn (.func 171) [] [v1])] h6) fun v7 h8=>
 bm (vUn .not v7) h8 fun v9 h10=>
 yO s k wl 146 Tryz.f146 wp 7 h2.length ([],[]) pM ⟨[c,d,v1,uu,(.lit (.bool false)),v3,v5,(.lit (.bool true)),d,(.fn (.func 171) [] [v1]),v7,v9,uu],h10⟩) (
 yO s k wl 146 Tryz.f146 wp 7 h2.length ([],[]) pM ⟨[c,d,v1,uu,(.lit (.bool false)),v3,v5,(.lit (.bool false)),uu,uu,uu,uu,uu],h6⟩) (
 yO s k wl 146 Tryz.f146 wp 4 h2.length ([],[]) pM ⟨[c,d,v1,uu,(.lit (.bool false)),v3,v5,v5,uu,uu,uu,uu,uu],h6⟩):=kB
theorem XE (k wl:Nat) (h:Hp):evF Tryz.prog xM (k+1) wl 146 [c,d] h=ak (xX (xS k) 146 wl k false) Tryz.f146 [c,d] h:=by kernel_rfl
theorem CO (h:Hp):yO s k wl 146 Tryz.f146 wp 7 m0 ac pM ⟨[c,d,e,o,g,y,p,l,j,v,r,u,z],h⟩ =
 bm (aO l u (.lit (.bool false))) h fun v11 h12=>
 some (v11,h12):=kG
theorem lP (cx:Cx) (K:Out→St→Option (V×Hp)) (s:St):au cx K pM .ret s=K .ret s:=by kernel_rfl
-- names: QM,CO,lP
noncomputable def xk:Code:=al (am Tryz.f162) [1,0,0]
noncomputable def oK:List Fr:=[.seq (al (am Tryz.f162) [1,0,1]),.seq (al (am Tryz.f162) [1,1])]
theorem Ye (h:Hp):ak (xX s 162 wl k false) Tryz.f162 [c,d] h =
 bp (ar s.P 194 h) fun v1 h2=>
 bp (aX s.P 63 d h2) fun v3 h4=>
 bm (aq s.P .eql 3 v3 (.lit (.int .i64 0))) h4 fun v5 h6=>
 gd v5 (
 yO s k wl 162 Tryz.f162 xk 8 h2.length ([],[]) oK ⟨[c,d,uu,uu,v1,uu,uu,d,v3,v5,(.lit (.bool true)),uu,uu,uu,uu,uu,uu,uu,uu,uu,uu,uu,uu,uu,uu,uu,uu,uu,uu,uu,uu,uu,uu,uu,uu,uu,uu,uu,uu,uu,uu,uu,uu,uu,uu,uu,uu,uu,uu,uu,uu,uu,uu,uu],h6⟩) (
 bp (yC s k wl 162 false true (.fn (.func 146) [] []) [c,d] h6) fun v7 h8=>
 bm (vUn .not v7) h8 fun v9 h10=>
 yO s k wl 162 Tryz.f162 xk 8 h2.length ([],[]) oK ⟨[c,d,uu,uu,v1,uu,uu,d,v3,v5,(.lit (.bool false)),c,d,v7,v9,uu,uu,uu,uu,uu,uu,uu,uu,uu,uu,uu,uu,uu,uu,uu,uu,uu,uu,uu,uu,uu,uu,uu,uu,uu,uu,uu,uu,uu,uu,uu,uu,uu,uu,uu,uu,uu,uu,uu],h10⟩) (
 yO s k wl 162 Tryz.f162 xk 5 h2.length ([],[]) oK ⟨[c,d,uu,uu,v1,uu,uu,d,v3,v5,v5,uu,uu,uu,uu,uu,uu,uu,uu,uu,uu,uu,uu,uu,uu,uu,uu,uu,uu,uu,uu,uu,uu,uu,uu,uu,uu,uu,uu,uu,uu,uu,uu,uu,uu,uu,uu,uu,uu,uu,uu,uu,uu,uu],h6⟩):=kB
theorem Z3 (k wl:Nat) (h:Hp):evF Tryz.prog xM (k+1) wl 162 [c,d] h=ak (xX (xS k) 162 wl k false) Tryz.f162 [c,d] h:=by kernel_rfl
theorem JH (h:Hp):yO s k wl 162 Tryz.f162 xk 8 m0 ac oK ⟨[c,d,e,o,g,y,p,l,j,v,r,u,z,q,A,D,E,F,B,L,G,M,N,I,O,J,Q,R,U,W,T,t2,t3,t4,Y,Z,t0,t1,t7,t5,t8,t9,t6,X,ta,tb,tc,td,te,tf,tg,th,ti,tj],h⟩ =
 bm (aO r (.lit (.bool true)) A) h fun v11 h12=>
 cnd v11 (
 bm (bh s.P 194 []) h12 fun v13 h14=>
 bs (aj s.P wl 194 g v13 h14) fun h15=>
 er [ab s.P 194 g h15] h15) (
 bp (aX s.P 63 d h12) fun v16 h17=>
 bm (aq s.P .sub 3 v16 (.lit (.int .i64 1))) h17 fun v18 h19=>
 bm (ai s.P 63 d v18 h19) h19 fun v20 h21=>
 bm (ab s.P 129 v20 h21) h21 fun v22 h23=>
 bp (ar s.P 129 h23) fun v24 h25=>
 bs (aj s.P wl 129 v24 v22 h25) fun h26=>
 bm (aa s.P 129 v24 0) h26 fun v27 h28=>
 bm (ab s.P 3 v27 h28) h28 fun v29 h30=>
 bm (ai s.P 24 c v29 h30) h30 fun v31 h32=>
 bm (ab s.P 101 v31 h32) h32 fun v33 h34=>
 bp (ar s.P 101 h34) fun v35 h36=>
 bs (aj s.P wl 101 v35 v33 h36) fun h37=>
 bm (aa s.P 129 v24 1) h37 fun v38 h39=>
 bm (ab s.P 3 v38 h39) h39 fun v40 h41=>
 bm (aa s.P 101 v35 0) h41 fun v42 h43=>
 bm (ab s.P 3 v42 h43) h43 fun v44 h45=>
 bm (aq s.P .lss 3 v40 v44) h45 fun v46 h47=>
 cnd v46 (
 bm (aa s.P 129 v24 0) h47 fun v48 h49=>
 bm (ab s.P 3 v48 h49) h49 fun v50 h51=>
 bm (bh s.P 194 [(0,(.lit (.int .i64 1))),(1,v50)]) h51 fun v52 h53=>
 bs (aj s.P wl 194 g v52 h53) fun h54=>
 er [ab s.P 194 g h54] h54) (
 bm (aa s.P 129 v24 2) h47 fun v55 h56=>
 bm (ab s.P 3 v55 h56) h56 fun v57 h58=>
 bm (aa s.P 101 v35 1) h58 fun v59 h60=>
 bm (ab s.P 53 v59 h60) h60 fun v61 h62=>
 bp (aX s.P 53 v61 h62) fun v63 h64=>
 bm (aq s.P .lss 3 v57 v63) h64 fun v65 h66=>
 cnd v65 (
 bm (aa s.P 101 v35 1) h66 fun v67 h68=>
 bm (ab s.P 53 v67 h68) h68 fun v69 h70=>
 bm (aa s.P 129 v24 2) h70 fun v71 h72=>
 bm (ab s.P 3 v71 h72) h72 fun v73 h74=>
 bm (ai s.P 53 v69 v73 h74) h74 fun v75 h76=>
 bm (ab s.P 3 v75 h76) h76 fun v77 h78=>
 bm (bh s.P 194 [(0,(.lit (.int .i64 2))),(1,v77)]) h78 fun v79 h80=>
 bs (aj s.P wl 194 g v79 h80) fun h81=>
 er [ab s.P 194 g h81] h81) (
 bm (aa s.P 129 v24 0) h66 fun v82 h83=>
 bm (ab s.P 3 v82 h83) h83 fun v84 h85=>
 bm (bh s.P 194 [(0,(.lit (.int .i64 3))),(1,v84)]) h85 fun v86 h87=>
 bs (aj s.P wl 194 g v86 h87) fun h88=>
 er [ab s.P 194 g h88] h88))):=kG
theorem pZ (cx:Cx) (K:Out→St→Option (V×Hp)) (s:St):au cx K oK .ret s=K .ret s:=by kernel_rfl
-- names: Ye,JH,pZ
theorem Zk (h:Hp):ak (xX s 163 wl k false) Tryz.f163 [c,d] h =
 bp (some (.own h.length 0 0,h++[.rows 0 [] 0 true])) fun v1 h2=>
 bp (yC s k wl 163 false true (.fn (.func 79) [] []) [d] h2) fun v3 h4=>
 bp (yC s k wl 163 false true (.fn (.func 182) [] []) [] h4) fun v5 h6=>
 bp (yC s k wl 163 false true (.fn (.func 162) [] []) [c,d] h6) fun v7 h8=>
 bm (pW s.P 194 v7 0) h8 fun v9 h10=>
 bm (fc s.P 201 v5 v9 true h10) h10 fun v11 h12=>
 bm (ao v11 0) h12 fun v13 h14=>
 bm (ao v11 1) h14 fun v15 h16=>
 cnd v15 (
 bp (yC s k wl 163 false true v13 [v3] h16) fun v17 h18=>
 some (v17,h18)) (
 some (v3,h16)):=kB
theorem acT (k wl:Nat) (h:Hp):evF Tryz.prog xM (k+1) wl 163 [c,d] h=ak (xX (xS k) 163 wl k false) Tryz.f163 [c,d] h:=by kernel_rfl
-- names: Zk,
theorem T8 (h:Hp):ak (xX s 170 wl k false) Tryz.f170 [c,d] h =
 bp (yC s k wl 170 false true (.fn (.func 206) [] []) [c,d] h) fun v1 h2=>
 bm (aq s.P .geq 3 v1 (.lit (.int .i64 0))) h2 fun v3 h4=>
 some (v3,h4):=kB
theorem WY (k wl:Nat) (h:Hp):evF Tryz.prog xM (k+1) wl 170 [c,d] h=ak (xX (xS k) 170 wl k false) Tryz.f170 [c,d] h:=by kernel_rfl
-- names: T8,
noncomputable def cq:Code:=al (am Tryz.f171) [1,1,1,0]
noncomputable def co:List Fr:=[.seq (al (am Tryz.f171) [1,1,1,1])]
theorem ST (h:Hp):ak (xX s 171 wl k false) Tryz.f171 [c,d] h =
 bp (aJ c h) fun v1 h2=>
 bm (aa s.P 129 v1 0) h2 fun v3 h4=>
 bm (ab s.P 3 v3 h4) h4 fun v5 h6=>
 bm (ab s.P 24 d h6) h6 fun v7 h8=>
 bp (aX s.P 24 v7 h8) fun v9 h10=>
 bm (aq s.P .sub 3 v9 (.lit (.int .i64 1))) h10 fun v11 h12=>
 bp (yC s k wl 171 false true (.fn (.func 172) [] []) [v5,v11] h12) fun v13 h14=>
 bm (vUn .not v13) h14 fun v15 h16=>
 cnd v15 (
 some ((.lit (.bool true)),h16)) (
 bm (ab s.P 24 d h16) h16 fun v17 h18=>
 bm (aa s.P 129 v1 0) h18 fun v19 h20=>
 bm (ab s.P 3 v19 h20) h20 fun v21 h22=>
 bm (ai s.P 24 v17 v21 h22) h22 fun v23 h24=>
 bm (ab s.P 101 v23 h24) h24 fun v25 h26=>
 bp (ar s.P 101 h26) fun v27 h28=>
 bs (aj s.P wl 101 v27 v25 h28) fun h29=>
 bm (aa s.P 129 v1 1) h29 fun v30 h31=>
 bm (ab s.P 3 v30 h31) h31 fun v32 h33=>
 bm (aa s.P 101 v27 0) h33 fun v34 h35=>
 bm (ab s.P 3 v34 h35) h35 fun v36 h37=>
 bp (yC s k wl 171 false true (.fn (.func 172) [] []) [v32,v36] h37) fun v38 h39=>
 bm (vUn .not v38) h39 fun v40 h41=>
 gd v40 (
 yO s k wl 171 Tryz.f171 cq 14 h29.length ([],[]) co ⟨[c,d,v1,(.lit (.bool false)),v27,v3,v5,v7,v9,v11,v13,v15,v17,v19,v21,v23,v25,v30,v32,v34,v36,v38,v40,(.lit (.bool true)),uu,uu,uu,uu,uu,uu,uu,uu,uu,uu,uu,uu,uu,uu,uu,uu,uu,uu,uu,uu],h41⟩) (
 bm (aa s.P 129 v1 2) h41 fun v42 h43=>
 bm (ab s.P 3 v42 h43) h43 fun v44 h45=>
 bm (aa s.P 101 v27 1) h45 fun v46 h47=>
 bm (ab s.P 53 v46 h47) h47 fun v48 h49=>
 bp (aX s.P 53 v48 h49) fun v50 h51=>
 bp (yC s k wl 171 false true (.fn (.func 172) [] []) [v44,v50] h51) fun v52 h53=>
 bm (vUn .not v52) h53 fun v54 h55=>
 yO s k wl 171 Tryz.f171 cq 14 h29.length ([],[]) co ⟨[c,d,v1,(.lit (.bool false)),v27,v3,v5,v7,v9,v11,v13,v15,v17,v19,v21,v23,v25,v30,v32,v34,v36,v38,v40,(.lit (.bool false)),v42,v44,v46,v48,v50,v52,v54,uu,uu,uu,uu,uu,uu,uu,uu,uu,uu,uu,uu,uu],h55⟩) (
 yO s k wl 171 Tryz.f171 cq 8 h29.length ([],[]) co ⟨[c,d,v1,(.lit (.bool false)),v27,v3,v5,v7,v9,v11,v13,v15,v17,v19,v21,v23,v25,v30,v32,v34,v36,v38,v40,v40,uu,uu,uu,uu,uu,uu,uu,uu,uu,uu,uu,uu,uu,uu,uu,uu,uu,uu,uu,uu],h41⟩)):=kB
theorem YE (k wl:Nat) (h:Hp):evF Tryz.prog xM (k+1) wl 171 [c,d] h=ak (xX (xS k) 171 wl k false) Tryz.f171 [c,d] h:=by kernel_rfl
theorem Dq (h:Hp):yO s k wl 171 Tryz.f171 cq 14 m0 ac co ⟨[c,d,e,o,g,y,p,l,j,v,r,u,z,q,A,D,E,F,B,L,G,M,N,I,O,J,Q,R,U,W,T,t2,t3,t4,Y,Z,t0,t1,t7,t5,t8,t9,t6,X],h⟩ =
 bm (aO I (.lit (.bool true)) T) h fun v56 h57=>
 gd v56 (
 yO s k wl 171 Tryz.f171 cq 26 m0 ac co ⟨[c,d,e,o,g,y,p,l,j,v,r,u,z,q,A,D,E,F,B,L,G,M,N,I,O,J,Q,R,U,W,T,v56,(.lit (.bool true)),uu,uu,uu,uu,uu,uu,uu,uu,uu,uu,X],h57⟩) (
 bm (aa s.P 129 e 1) h57 fun v58 h59=>
 bm (ab s.P 3 v58 h59) h59 fun v60 h61=>
 bm (aa s.P 101 g 0) h61 fun v62 h63=>
 bm (ab s.P 3 v62 h63) h63 fun v64 h65=>
 bm (aq s.P .lss 3 v60 v64) h65 fun v66 h67=>
 yO s k wl 171 Tryz.f171 cq 22 m0 ac co ⟨[c,d,e,o,g,y,p,l,j,v,r,u,z,q,A,D,E,F,B,L,G,M,N,I,O,J,Q,R,U,W,T,v56,(.lit (.bool false)),v58,v60,v62,v64,v66,v66,t5,t8,t9,t6,X],h67⟩) (
 yO s k wl 171 Tryz.f171 cq 17 m0 ac co ⟨[c,d,e,o,g,y,p,l,j,v,r,u,z,q,A,D,E,F,B,L,G,M,N,I,O,J,Q,R,U,W,T,v56,v56,uu,Y,Z,t0,t1,t7,t5,t8,t9,t6,X],h57⟩):=kG
theorem Cd (h:Hp):yO s k wl 171 Tryz.f171 cq 26 m0 ac co ⟨[c,d,e,o,g,y,p,l,j,v,r,u,z,q,A,D,E,F,B,L,G,M,N,I,O,J,Q,R,U,W,T,t2,t3,t4,Y,Z,t0,t1,t7,t5,t8,t9,t6,X],h⟩ =
 bm (aO t3 (.lit (.bool true)) t6) h fun v68 h69=>
 some (v68,h69):=kG
theorem B7 (h:Hp):yO s k wl 171 Tryz.f171 cq 22 m0 ac co ⟨[c,d,e,o,g,y,p,l,j,v,r,u,z,q,A,D,E,F,B,L,G,M,N,I,O,J,Q,R,U,W,T,t2,t3,t4,Y,Z,t0,t1,t7,t5,t8,t9,t6,X],h⟩ =
 gd t7 (
 bm (aa s.P 129 e 2) h fun v70 h71=>
 bm (ab s.P 3 v70 h71) h71 fun v72 h73=>
 bm (aq s.P .gtr 3 v72 (.lit (.int .i64 0))) h73 fun v74 h75=>
 yO s k wl 171 Tryz.f171 cq 25 m0 ac co ⟨[c,d,e,o,g,y,p,l,j,v,r,u,z,q,A,D,E,F,B,L,G,M,N,I,O,J,Q,R,U,W,T,t2,t3,t4,Y,Z,t0,t1,(.lit (.bool true)),v70,v72,v74,t6,X],h75⟩) (
 yO s k wl 171 Tryz.f171 cq 25 m0 ac co ⟨[c,d,e,o,g,y,p,l,j,v,r,u,z,q,A,D,E,F,B,L,G,M,N,I,O,J,Q,R,U,W,T,t2,t3,t4,Y,Z,t0,t1,(.lit (.bool false)),uu,uu,uu,t6,X],h⟩) (
 yO s k wl 171 Tryz.f171 cq 23 m0 ac co ⟨[c,d,e,o,g,y,p,l,j,v,r,u,z,q,A,D,E,F,B,L,G,M,N,I,O,J,Q,R,U,W,T,t2,t3,t4,Y,Z,t0,t1,t7,uu,t8,t9,t6,X],h⟩):=kG
theorem DC (h:Hp):yO s k wl 171 Tryz.f171 cq 25 m0 ac co ⟨[c,d,e,o,g,y,p,l,j,v,r,u,z,q,A,D,E,F,B,L,G,M,N,I,O,J,Q,R,U,W,T,t2,t3,t4,Y,Z,t0,t1,t7,t5,t8,t9,t6,X],h⟩ =
 gd t3 (
 yO s k wl 171 Tryz.f171 cq 26 m0 ac co ⟨[c,d,e,o,g,y,p,l,j,v,r,u,z,q,A,D,E,F,B,L,G,M,N,I,O,J,Q,R,U,W,T,t2,(.lit (.bool true)),t4,Y,Z,t0,t1,t7,t5,t8,t9,uu,X],h⟩) (
 bm (aO t7 t9 (.lit (.bool false))) h fun v76 h77=>
 yO s k wl 171 Tryz.f171 cq 26 m0 ac co ⟨[c,d,e,o,g,y,p,l,j,v,r,u,z,q,A,D,E,F,B,L,G,M,N,I,O,J,Q,R,U,W,T,t2,(.lit (.bool false)),t4,Y,Z,t0,t1,t7,t5,t8,t9,v76,X],h77⟩) (
 yO s k wl 171 Tryz.f171 cq 26 m0 ac co ⟨[c,d,e,o,g,y,p,l,j,v,r,u,z,q,A,D,E,F,B,L,G,M,N,I,O,J,Q,R,U,W,T,t2,t3,t4,Y,Z,t0,t1,t7,t5,t8,t9,uu,X],h⟩):=kG
theorem Co (h:Hp):yO s k wl 171 Tryz.f171 cq 23 m0 ac co ⟨[c,d,e,o,g,y,p,l,j,v,r,u,z,q,A,D,E,F,B,L,G,M,N,I,O,J,Q,R,U,W,T,t2,t3,t4,Y,Z,t0,t1,t7,t5,t8,t9,t6,X],h⟩ =
 gd t7 (
 bm (ab s.P 3 t5 h) h fun v78 h79=>
 bm (aq s.P .gtr 3 v78 (.lit (.int .i64 0))) h79 fun v80 h81=>
 yO s k wl 171 Tryz.f171 cq 25 m0 ac co ⟨[c,d,e,o,g,y,p,l,j,v,r,u,z,q,A,D,E,F,B,L,G,M,N,I,O,J,Q,R,U,W,T,t2,t3,t4,Y,Z,t0,t1,(.lit (.bool true)),t5,v78,v80,t6,X],h81⟩) (
 yO s k wl 171 Tryz.f171 cq 25 m0 ac co ⟨[c,d,e,o,g,y,p,l,j,v,r,u,z,q,A,D,E,F,B,L,G,M,N,I,O,J,Q,R,U,W,T,t2,t3,t4,Y,Z,t0,t1,(.lit (.bool false)),t5,uu,uu,t6,X],h⟩) (
 yO s k wl 171 Tryz.f171 cq 24 m0 ac co ⟨[c,d,e,o,g,y,p,l,j,v,r,u,z,q,A,D,E,F,B,L,G,M,N,I,O,J,Q,R,U,W,T,t2,t3,t4,Y,Z,t0,t1,t7,t5,uu,t9,t6,X],h⟩):=kG
theorem Dt (h:Hp):yO s k wl 171 Tryz.f171 cq 24 m0 ac co ⟨[c,d,e,o,g,y,p,l,j,v,r,u,z,q,A,D,E,F,B,L,G,M,N,I,O,J,Q,R,U,W,T,t2,t3,t4,Y,Z,t0,t1,t7,t5,t8,t9,t6,X],h⟩ =
 gd t7 (
 bm (aq s.P .gtr 3 t8 (.lit (.int .i64 0))) h fun v82 h83=>
 yO s k wl 171 Tryz.f171 cq 25 m0 ac co ⟨[c,d,e,o,g,y,p,l,j,v,r,u,z,q,A,D,E,F,B,L,G,M,N,I,O,J,Q,R,U,W,T,t2,t3,t4,Y,Z,t0,t1,(.lit (.bool true)),t5,t8,v82,t6,X],h83⟩) (
 yO s k wl 171 Tryz.f171 cq 25 m0 ac co ⟨[c,d,e,o,g,y,p,l,j,v,r,u,z,q,A,D,E,F,B,L,G,M,N,I,O,J,Q,R,U,W,T,t2,t3,t4,Y,Z,t0,t1,(.lit (.bool false)),t5,t8,uu,t6,X],h⟩) (
 yO s k wl 171 Tryz.f171 cq 25 m0 ac co ⟨[c,d,e,o,g,y,p,l,j,v,r,u,z,q,A,D,E,F,B,L,G,M,N,I,O,J,Q,R,U,W,T,t2,t3,t4,Y,Z,t0,t1,t7,t5,t8,uu,t6,X],h⟩):=kG
theorem l9 (cx:Cx) (K:Out→St→Option (V×Hp)) (s:St):au cx K co .ret s=K .ret s:=by kernel_rfl
-- names: ST,Dq,Cd,B7,DC,Co,Dt,l9
noncomputable def xl:Code:=al (am Tryz.f172) [1,0]
noncomputable def rv:List Fr:=[.seq (al (am Tryz.f172) [1,1])]
theorem Zh (h:Hp):ak (xX s 172 wl k false) Tryz.f172 [c,d] h =
 bm (aq s.P .geq 3 c (.lit (.int .i64 0))) h fun v1 h2=>
 gd v1 (
 bm (aq s.P .leq 3 c d) h2 fun v3 h4=>
 yO s k wl 172 Tryz.f172 xl 6 h.length ([],[]) rv ⟨[c,d,uu,uu,(.lit (.bool false)),c,v1,(.lit (.bool true)),c,d,v3,uu],h4⟩) (
 yO s k wl 172 Tryz.f172 xl 6 h.length ([],[]) rv ⟨[c,d,uu,uu,(.lit (.bool false)),c,v1,(.lit (.bool false)),uu,uu,uu,uu],h2⟩) (
 yO s k wl 172 Tryz.f172 xl 4 h.length ([],[]) rv ⟨[c,d,uu,uu,(.lit (.bool false)),c,v1,v1,uu,uu,uu,uu],h2⟩):=kB
theorem adS (k wl:Nat) (h:Hp):evF Tryz.prog xM (k+1) wl 172 [c,d] h=ak (xX (xS k) 172 wl k false) Tryz.f172 [c,d] h:=by kernel_rfl
theorem Jv (h:Hp):yO s k wl 172 Tryz.f172 xl 6 m0 ac rv ⟨[c,d,e,o,g,y,p,l,j,v,r,u],h⟩ =
 bm (aO l r (.lit (.bool false))) h fun v5 h6=>
 some (v5,h6):=kG
theorem oO (cx:Cx) (K:Out→St→Option (V×Hp)) (s:St):au cx K rv .ret s=K .ret s:=by kernel_rfl
-- names: Zh,Jv,oO
noncomputable def wX:Code:=al (am Tryz.f181) [1,1,0,0]
noncomputable def pS:List Fr:=[.seq (al (am Tryz.f181) [1,1,0,1]),.seq (al (am Tryz.f181) [1,1,1])]
theorem Yr (h:Hp):ak (xX s 181 wl k false) Tryz.f181 [c,d,e] h =
 bp (some (.own h.length 0 0,h++[.rows 0 [] 0 true])) fun v1 h2=>
 bp (yC s k wl 181 false true (.fn (.func 79) [] []) [d] h2) fun v3 h4=>
 bp (yC s k wl 181 false true (.fn (.func 146) [] []) [c,d] h4) fun v5 h6=>
 bm (vUn .not v5) h6 fun v7 h8=>
 gd v7 (
 yO s k wl 181 Tryz.f181 wX 11 h4.length ([],[]) pS ⟨[c,d,e,uu,uu,uu,v1,v3,d,v3,c,d,v5,v7,(.lit (.bool true)),uu,uu,uu,uu,uu,uu,uu,uu,uu,uu,uu,uu,uu],h8⟩) (
 bp (aX s.P 24 c h8) fun v9 h10=>
 bm (aq s.P .sub 3 v9 (.lit (.int .i64 1))) h10 fun v11 h12=>
 bp (yC s k wl 181 false true (.fn (.func 172) [] []) [e,v11] h12) fun v13 h14=>
 bm (vUn .not v13) h14 fun v15 h16=>
 yO s k wl 181 Tryz.f181 wX 11 h4.length ([],[]) pS ⟨[c,d,e,uu,uu,uu,v1,v3,d,v3,c,d,v5,v7,(.lit (.bool false)),e,c,v9,v11,v13,v15,uu,uu,uu,uu,uu,uu,uu],h16⟩) (
 yO s k wl 181 Tryz.f181 wX 6 h4.length ([],[]) pS ⟨[c,d,e,uu,uu,uu,v1,v3,d,v3,c,d,v5,v7,v7,uu,uu,uu,uu,uu,uu,uu,uu,uu,uu,uu,uu,uu],h8⟩):=kB
theorem abd (k wl:Nat) (h:Hp):evF Tryz.prog xM (k+1) wl 181 [c,d,e] h=ak (xX (xS k) 181 wl k false) Tryz.f181 [c,d,e] h:=by kernel_rfl
theorem JY (h:Hp):yO s k wl 181 Tryz.f181 wX 11 m0 ac pS ⟨[c,d,e,o,g,y,p,l,j,v,r,u,z,q,A,D,E,F,B,L,G,M,N,I,O,J,Q,R],h⟩ =
 bm (aO A (.lit (.bool true)) G) h fun v17 h18=>
 cnd v17 (
 some (l,h18)) (
 bm (bh s.P 129 [(0,e)]) h18 fun v19 h20=>
 bp (aB s.P wl 63 1 [(0,v19)] h20) fun v21 h22=>
 bp (kf s.P wl 63 63 l v21 h22) fun v23 h24=>
 some (v23,h24)):=kG
theorem pC (cx:Cx) (K:Out→St→Option (V×Hp)) (s:St):au cx K pS .ret s=K .ret s:=by kernel_rfl
-- names: Yr,JY,pC
theorem Xs (h:Hp):ak (xX s 182 wl k false) Tryz.f182 [] h =
 bp (some (.map h.length,h++[.map []])) fun v1 h2=>
 bs (dX s.P wl 201 v1 (.lit (.int .i64 1)) (.fn (.func 210) [] []) h2) fun h3=>
 bs (dX s.P wl 201 v1 (.lit (.int .i64 2)) (.fn (.func 211) [] []) h3) fun h4=>
 bs (dX s.P wl 201 v1 (.lit (.int .i64 3)) (.fn (.func 212) [] []) h4) fun h5=>
 some (v1,h5):=kB
theorem acX (k wl:Nat) (h:Hp):evF Tryz.prog xM (k+1) wl 182 [] h=ak (xX (xS k) 182 wl k false) Tryz.f182 [] h:=by kernel_rfl
-- names: Xs,
noncomputable def wK:Code:=al (am Tryz.f206) [1,0,1,0,0]
noncomputable def wT:List Fr:=[.block 0,.seq (al (am Tryz.f206) [1,1])]
theorem Qv (h:Hp):ak (xX s 206 wl k false) Tryz.f206 [c,d] h =
 bp (aX s.P 63 c h) fun v1 h2=>
 yI s k wl 206 Tryz.f206 wK h2.length wT k ⟨[(V.kill h2.length c),(V.kill h2.length d),(V.kill h2.length uu),(V.kill h2.length uu),(.lit (.int .i64 0)),(V.kill h2.length uu),(V.kill h2.length c),(V.kill h2.length v1),(.lit (.int .i64 0)),.junk,.junk,.junk,.junk,.junk,.junk,.junk,.junk,.junk,.junk],bY h2.length h2⟩:=kB
theorem UA (k wl:Nat) (h:Hp):evF Tryz.prog xM (k+1) wl 206 [c,d] h=ak (xX (xS k) 206 wl k false) Tryz.f206 [c,d] h:=by kernel_rfl
theorem QU (P:Program) (h:Hp):av P Tryz.f206 .ret ⟨[c,d,e,o,g,y,p,l,j,v,r,u,z,q,A,D,E,F,B],h⟩=some (g,h):=by kernel_rfl
theorem G3 (s:Sys) (K:Out→St→Option (V×Hp)) (k wl:Nat) (rd:Bool) (n n0:Nat) (h:Hp):itX (xX s 206 wl k rd) wK n0 K (n+1) ⟨[c,d,e,o,g,y,p,l,j,v,r,u,z,q,A,D,E,F,B],h⟩ =
 bm (aq s.P .lss 3 j l) h fun v3 h4=>
 cnd v3 (
 bm (ai s.P 63 c j h4) h4 fun v5 h6=>
 bm (ab s.P 129 v5 h6) h6 fun v7 h8=>
 bp (cw (xX s 206 wl k rd) false true d [v7] h8) fun v9 h10=>
 cnd v9 (
 K .ret ⟨[c,d,e,o,j,j,p,l,j,v3,j,d,c,j,v5,v7,v9,j,B],h10⟩) (
 bm (aq s.P .add 3 j (.lit (.int .i64 1))) h10 fun v11 h12=>
 itX (xX s 206 wl k rd) wK n0 K n ⟨[(V.kill n0 c),(V.kill n0 d),(V.kill n0 e),(V.kill n0 o),(V.kill n0 g),(V.kill n0 j),(V.kill n0 p),(V.kill n0 l),(V.kill n0 v11),.junk,.junk,.junk,.junk,.junk,.junk,.junk,.junk,.junk,.junk],bY n0 h12⟩)) (
 K (.exit 0) ⟨[(V.kill n0 c),(V.kill n0 d),(V.kill n0 e),(V.kill n0 o),(V.kill n0 g),(V.kill n0 y),(V.kill n0 p),(V.kill n0 l),.junk,.junk,.junk,.junk,.junk,.junk,.junk,.junk,.junk,.junk,.junk],bY n0 h4⟩):=kI
theorem Cf (h:Hp):au (xX s 206 wl k false) (av s.P Tryz.f206) wT (.exit 0) ⟨[c,d,e,o,g,y,p,l,j,v,r,u,z,q,A,D,E,F,B],h⟩ =
 some ((.lit (.int .i64 (-1))),h):=kR
theorem lU (cx:Cx) (K:Out→St→Option (V×Hp)) (s:St):au cx K wT .ret s=K .ret s:=by kernel_rfl
-- names: Qv,QU,G3,Cf,lU
theorem Yf (h:Hp):ak (xX s 210 wl k false) Tryz.f210 [c] h =
 bp (some (.own h.length 0 0,h++[.rows 0 [] 0 true])) fun v1 h2=>
 bp (aX s.P 63 c h2) fun v3 h4=>
 bm (aq s.P .sub 3 v3 (.lit (.int .i64 1))) h4 fun v5 h6=>
 bm (ai s.P 63 c v5 h6) h6 fun v7 h8=>
 bm (aa s.P 129 v7 1) h8 fun v9 h10=>
 bm (ab s.P 3 v9 h10) h10 fun v11 h12=>
 bm (aq s.P .add 3 v11 (.lit (.int .i64 1))) h12 fun v13 h14=>
 bm (ai s.P 63 c v5 h14) h14 fun v15 h16=>
 bm (aa s.P 129 v15 1) h16 fun v17 h18=>
 bs (aj s.P wl 3 v17 v13 h18) fun h19=>
 some (c,h19):=kB
theorem ab0 (k wl:Nat) (h:Hp):evF Tryz.prog xM (k+1) wl 210 [c] h=ak (xX (xS k) 210 wl k false) Tryz.f210 [c] h:=by kernel_rfl
-- names: Yf,
theorem UQ (h:Hp):ak (xX s 211 wl k false) Tryz.f211 [c] h =
 bp (some (.own h.length 0 0,h++[.rows 0 [] 0 true])) fun v1 h2=>
 bp (aX s.P 63 c h2) fun v3 h4=>
 bm (aq s.P .sub 3 v3 (.lit (.int .i64 1))) h4 fun v5 h6=>
 bm (ai s.P 63 c v5 h6) h6 fun v7 h8=>
 bm (aa s.P 129 v7 2) h8 fun v9 h10=>
 bm (ab s.P 3 v9 h10) h10 fun v11 h12=>
 bm (aq s.P .add 3 v11 (.lit (.int .i64 1))) h12 fun v13 h14=>
 bm (ai s.P 63 c v5 h14) h14 fun v15 h16=>
 bm (aa s.P 129 v15 2) h16 fun v17 h18=>
 bs (aj s.P wl 3 v17 v13 h18) fun h19=>
 some (c,h19):=kB
theorem adi (k wl:Nat) (h:Hp):evF Tryz.prog xM (k+1) wl 211 [c] h=ak (xX (xS k) 211 wl k false) Tryz.f211 [c] h:=by kernel_rfl
-- names: UQ,
theorem WF (h:Hp):ak (xX s 212 wl k false) Tryz.f212 [c] h =
 bp (some (.own h.length 0 0,h++[.rows 0 [] 0 true])) fun v1 h2=>
 bp (aX s.P 63 c h2) fun v3 h4=>
 bm (aq s.P .sub 3 v3 (.lit (.int .i64 1))) h4 fun v5 h6=>
 bp (bP s.P wl false 63 c none (some v5) none h6) fun v7 h8=>
 some (v7,h8):=kB
theorem adA (k wl:Nat) (h:Hp):evF Tryz.prog xM (k+1) wl 212 [c] h=ak (xX (xS k) 212 wl k false) Tryz.f212 [c] h:=by kernel_rfl
-- names: WF,
end
end Go.Ab
set_option maxRecDepth 100000
set_option linter.unusedVariables false
namespace Go.Ab
open Go.Proofs
section
variable (s:Sys) (k wl:Nat) (m0:Nat) (ac:List Nat×List Nat) (a b d e f o p g q j u l v n y A z E D F B L I M J G O N T R Q Z W t0 X Y U te t4 tf t5 t6 t7 t2 tg t8 th t9 ta tb tc td t3 t1:V)
noncomputable def cZ:Code:=al (am Tryz.f85) [1,0]
noncomputable def cO:List Fr:=[.seq (al (am Tryz.f85) [1,1])]
theorem ad5 (h:Hp):ak (xX s 85 wl k false) Tryz.f85 [a,b,d,e] h =
 bp (aJ a h) fun v1 h2=>
 bp (aJ e h2) fun v3 h4=>
 bm (ab s.P 23 v1 h4) h4 fun v5 h6=>
 bp (yC s k wl 85 false true (.fn (.func 50) [] []) [v5] h6) fun v7 h8=>
 gd v7 (
 bp (aX s.P 26 d h8) fun v9 h10=>
 bm (ab s.P 23 v1 h10) h10 fun v11 h12=>
 bp (yC s k wl 85 false true (.fn (.func 103) [] []) [v11] h12) fun v13 h14=>
 bm (aq s.P .eql 3 v9 v13) h14 fun v15 h16=>
 yO s k wl 85 Tryz.f85 cZ 8 h4.length ([],[]) cO ⟨[a,b,d,e,v1,uu,uu,v3,(.lit (.bool false)),v5,v7,(.lit (.bool true)),d,v9,v11,v13,v15,uu,uu,uu,uu,uu,uu,uu,uu,uu,uu,uu,uu,uu,uu,uu,uu,uu,uu,uu,uu,uu,uu,uu,uu,uu,uu,uu,uu,uu,uu,uu,uu,uu,uu,uu,uu,uu],h16⟩) (
 yO s k wl 85 Tryz.f85 cZ 8 h4.length ([],[]) cO ⟨[a,b,d,e,v1,uu,uu,v3,(.lit (.bool false)),v5,v7,(.lit (.bool false)),uu,uu,uu,uu,uu,uu,uu,uu,uu,uu,uu,uu,uu,uu,uu,uu,uu,uu,uu,uu,uu,uu,uu,uu,uu,uu,uu,uu,uu,uu,uu,uu,uu,uu,uu,uu,uu,uu,uu,uu,uu,uu],h8⟩) (
 yO s k wl 85 Tryz.f85 cZ 4 h4.length ([],[]) cO ⟨[a,b,d,e,v1,uu,uu,v3,(.lit (.bool false)),v5,v7,v7,uu,uu,uu,uu,uu,uu,uu,uu,uu,uu,uu,uu,uu,uu,uu,uu,uu,uu,uu,uu,uu,uu,uu,uu,uu,uu,uu,uu,uu,uu,uu,uu,uu,uu,uu,uu,uu,uu,uu,uu,uu,uu],h8⟩):=kB
theorem afc (k wl:Nat) (h:Hp):evF Tryz.prog xM (k+1) wl 85 [a,b,d,e] h=ak (xX (xS k) 85 wl k false) Tryz.f85 [a,b,d,e] h:=by kernel_rfl
theorem Pm (zz:List V) (h:Hp):yO s k wl 85 Tryz.f85 cZ 8 m0 ac cO ⟨(a::b::d::e::f::o::p::g::q::j::u::l::v::n::y::A::z::E::D::F::B::zz),h⟩ =
 bm (aO l z (.lit (.bool false))) h fun v17 h18=>
 gd v17 (
 bp (yC s k wl 85 false true (.fn (.func 56) [] []) [b] h18) fun v19 h20=>
 yO s k wl 85 Tryz.f85 cZ 12 m0 ac cO ⟨(a::b::d::e::f::o::p::g::q::j::u::l::v::n::y::A::z::v17::(.lit (.bool true))::b::v19::zz),h20⟩) (
 yO s k wl 85 Tryz.f85 cZ 12 m0 ac cO ⟨(a::b::d::e::f::o::p::g::q::j::u::l::v::n::y::A::z::v17::(.lit (.bool false))::uu::uu::zz),h18⟩) (
 yO s k wl 85 Tryz.f85 cZ 11 m0 ac cO ⟨(a::b::d::e::f::o::p::g::q::j::u::l::v::n::y::A::z::v17::v17::uu::B::zz),h18⟩):=kG
theorem PL (zz:List V) (h:Hp):yO s k wl 85 Tryz.f85 cZ 12 m0 ac cO ⟨(a::b::d::e::f::o::p::g::q::j::u::l::v::n::y::A::z::E::D::F::B::L::I::M::J::G::zz),h⟩ =
 bm (aO D B (.lit (.bool false))) h fun v21 h22=>
 gd v21 (
 bm (aa s.P 57 g 0) h22 fun v23 h24=>
 bm (ab s.P 3 v23 h24) h24 fun v25 h26=>
 bm (aq s.P .geq 3 v25 (.lit (.int .i64 0))) h26 fun v27 h28=>
 yO s k wl 85 Tryz.f85 cZ 17 m0 ac cO ⟨(a::b::d::e::f::o::p::g::q::j::u::l::v::n::y::A::z::E::D::F::B::v21::(.lit (.bool true))::v23::v25::v27::zz),h28⟩) (
 yO s k wl 85 Tryz.f85 cZ 17 m0 ac cO ⟨(a::b::d::e::f::o::p::g::q::j::u::l::v::n::y::A::z::E::D::F::B::v21::(.lit (.bool false))::uu::uu::uu::zz),h22⟩) (
 yO s k wl 85 Tryz.f85 cZ 15 m0 ac cO ⟨(a::b::d::e::f::o::p::g::q::j::u::l::v::n::y::A::z::E::D::F::B::v21::v21::uu::J::G::zz),h22⟩):=kG
theorem OE (zz:List V) (h:Hp):yO s k wl 85 Tryz.f85 cZ 17 m0 ac cO ⟨(a::b::d::e::f::o::p::g::q::j::u::l::v::n::y::A::z::E::D::F::B::L::I::M::J::G::O::N::T::R::Q::zz),h⟩ =
 bm (aO I G (.lit (.bool false))) h fun v29 h30=>
 gd v29 (
 bm (aa s.P 57 g 0) h30 fun v31 h32=>
 bm (ab s.P 3 v31 h32) h32 fun v33 h34=>
 bm (aq s.P .lss 3 v33 (.lit (.int .i64 6))) h34 fun v35 h36=>
 yO s k wl 85 Tryz.f85 cZ 22 m0 ac cO ⟨(a::b::d::e::f::o::p::g::q::j::u::l::v::n::y::A::z::E::D::F::B::L::I::M::J::G::v29::(.lit (.bool true))::v31::v33::v35::zz),h36⟩) (
 yO s k wl 85 Tryz.f85 cZ 22 m0 ac cO ⟨(a::b::d::e::f::o::p::g::q::j::u::l::v::n::y::A::z::E::D::F::B::L::I::M::J::G::v29::(.lit (.bool false))::uu::uu::uu::zz),h30⟩) (
 yO s k wl 85 Tryz.f85 cZ 20 m0 ac cO ⟨(a::b::d::e::f::o::p::g::q::j::u::l::v::n::y::A::z::E::D::F::B::L::I::M::J::G::v29::v29::uu::R::Q::zz),h30⟩):=kG
theorem PP (zz:List V) (h:Hp):yO s k wl 85 Tryz.f85 cZ 22 m0 ac cO ⟨(a::b::d::e::f::o::p::g::q::j::u::l::v::n::y::A::z::E::D::F::B::L::I::M::J::G::O::N::T::R::Q::Z::W::t0::X::Y::U::zz),h⟩ =
 bm (aO N Q (.lit (.bool false))) h fun v37 h38=>
 gd v37 (
 bm (aa s.P 57 g 1) h38 fun v39 h40=>
 bm (ab s.P 53 v39 h40) h40 fun v41 h42=>
 bp (aX s.P 53 v41 h42) fun v43 h44=>
 bm (aq s.P .gtr 3 v43 (.lit (.int .i64 0))) h44 fun v45 h46=>
 yO s k wl 85 Tryz.f85 cZ 28 m0 ac cO ⟨(a::b::d::e::f::o::p::g::q::j::u::l::v::n::y::A::z::E::D::F::B::L::I::M::J::G::O::N::T::R::Q::v37::(.lit (.bool true))::v39::v41::v43::v45::zz),h46⟩) (
 yO s k wl 85 Tryz.f85 cZ 28 m0 ac cO ⟨(a::b::d::e::f::o::p::g::q::j::u::l::v::n::y::A::z::E::D::F::B::L::I::M::J::G::O::N::T::R::Q::v37::(.lit (.bool false))::uu::uu::uu::uu::zz),h38⟩) (
 yO s k wl 85 Tryz.f85 cZ 25 m0 ac cO ⟨(a::b::d::e::f::o::p::g::q::j::u::l::v::n::y::A::z::E::D::F::B::L::I::M::J::G::O::N::T::R::Q::v37::v37::uu::X::Y::U::zz),h38⟩):=kG
theorem OA (h:Hp):yO s k wl 85 Tryz.f85 cZ 28 m0 ac cO ⟨[a,b,d,e,f,o,p,g,q,j,u,l,v,n,y,A,z,E,D,F,B,L,I,M,J,G,O,N,T,R,Q,Z,W,t0,X,Y,U,te,t4,tf,t5,t6,t7,t2,tg,t8,th,t9,ta,tb,tc,td,t3,t1],h⟩ =
 bm (aO W U (.lit (.bool false))) h fun v47 h48=>
 gd v47 (
 bm (aa s.P 57 g 1) h48 fun v49 h50=>
 bm (ab s.P 53 v49 h50) h50 fun v51 h52=>
 bm (ai s.P 53 v51 (.lit (.int .i64 0)) h52) h52 fun v53 h54=>
 bm (ab s.P 3 v53 h54) h54 fun v55 h56=>
 bm (aq s.P .geq 3 v55 (.lit (.int .i64 0))) h56 fun v57 h58=>
 yO s k wl 85 Tryz.f85 cZ 35 m0 ac cO ⟨[a,b,d,e,f,o,p,g,q,j,u,l,v,n,y,A,z,E,D,F,B,L,I,M,J,G,O,N,T,R,Q,Z,W,t0,X,Y,U,v47,(.lit (.bool true)),v49,v51,v53,v55,v57,tg,t8,th,t9,ta,tb,tc,td,t3,t1],h58⟩) (
 yO s k wl 85 Tryz.f85 cZ 35 m0 ac cO ⟨[a,b,d,e,f,o,p,g,q,j,u,l,v,n,y,A,z,E,D,F,B,L,I,M,J,G,O,N,T,R,Q,Z,W,t0,X,Y,U,v47,(.lit (.bool false)),uu,uu,uu,uu,uu,tg,t8,th,t9,ta,tb,tc,td,t3,t1],h48⟩) (
 yO s k wl 85 Tryz.f85 cZ 31 m0 ac cO ⟨[a,b,d,e,f,o,p,g,q,j,u,l,v,n,y,A,z,E,D,F,B,L,I,M,J,G,O,N,T,R,Q,Z,W,t0,X,Y,U,v47,v47,uu,t5,t6,t7,t2,tg,t8,th,t9,ta,tb,tc,td,t3,t1],h48⟩):=kG
theorem O8 (h:Hp):yO s k wl 85 Tryz.f85 cZ 35 m0 ac cO ⟨[a,b,d,e,f,o,p,g,q,j,u,l,v,n,y,A,z,E,D,F,B,L,I,M,J,G,O,N,T,R,Q,Z,W,t0,X,Y,U,te,t4,tf,t5,t6,t7,t2,tg,t8,th,t9,ta,tb,tc,td,t3,t1],h⟩ =
 bm (aO t4 t2 (.lit (.bool false))) h fun v59 h60=>
 gd v59 (
 bm (aa s.P 57 g 1) h60 fun v61 h62=>
 bm (ab s.P 53 v61 h62) h62 fun v63 h64=>
 bm (ai s.P 53 v63 (.lit (.int .i64 0)) h64) h64 fun v65 h66=>
 bm (ab s.P 3 v65 h66) h66 fun v67 h68=>
 bp (aX s.P 24 b h68) fun v69 h70=>
 bm (aq s.P .lss 3 v67 v69) h70 fun v71 h72=>
 yO s k wl 85 Tryz.f85 cZ 44 m0 ac cO ⟨[a,b,d,e,f,o,p,g,q,j,u,l,v,n,y,A,z,E,D,F,B,L,I,M,J,G,O,N,T,R,Q,Z,W,t0,X,Y,U,te,t4,tf,t5,t6,t7,t2,v59,(.lit (.bool true)),v61,v63,v65,v67,b,v69,v71,t1],h72⟩) (
 yO s k wl 85 Tryz.f85 cZ 44 m0 ac cO ⟨[a,b,d,e,f,o,p,g,q,j,u,l,v,n,y,A,z,E,D,F,B,L,I,M,J,G,O,N,T,R,Q,Z,W,t0,X,Y,U,te,t4,tf,t5,t6,t7,t2,v59,(.lit (.bool false)),uu,uu,uu,uu,uu,uu,uu,t1],h60⟩) (
 yO s k wl 85 Tryz.f85 cZ 38 m0 ac cO ⟨[a,b,d,e,f,o,p,g,q,j,u,l,v,n,y,A,z,E,D,F,B,L,I,M,J,G,O,N,T,R,Q,Z,W,t0,X,Y,U,te,t4,tf,t5,t6,t7,t2,v59,v59,uu,t9,ta,tb,tc,td,t3,t1],h60⟩):=kG
theorem OU (h:Hp):yO s k wl 85 Tryz.f85 cZ 44 m0 ac cO ⟨[a,b,d,e,f,o,p,g,q,j,u,l,v,n,y,A,z,E,D,F,B,L,I,M,J,G,O,N,T,R,Q,Z,W,t0,X,Y,U,te,t4,tf,t5,t6,t7,t2,tg,t8,th,t9,ta,tb,tc,td,t3,t1],h⟩ =
 bm (aO t8 t3 (.lit (.bool false))) h fun v73 h74=>
 some (v73,h74):=kG
theorem uG (cx:Cx) (K:Out→St→Option (V×Hp)) (s:St):au cx K cO .ret s=K .ret s:=by kernel_rfl
-- names: ad5,Pm,PL,OE,PP,OA,O8,OU,uG
theorem aeb (h:Hp):ak (xX s 86 wl k false) Tryz.f86 [a,b,d,e,f] h =
 bp (aJ a h) fun v1 h2=>
 bp (aJ e h2) fun v3 h4=>
 bp (aJ f h4) fun v5 h6=>
 bp (some (.own h6.length 0 0,h6++[.rows 0 [] 0 true])) fun v7 h8=>
 bp (ar s.P 57 h8) fun v9 h10=>
 bp (some (.own h10.length 0 0,h10++[.rows 0 [] 0 true])) fun v11 h12=>
 bp (yC s k wl 86 false true (.fn (.func 76) [] []) [d] h12) fun v13 h14=>
 bp (ar s.P 26 h14) fun v15 h16=>
 bs (aj s.P wl 26 v15 v13 h16) fun h17=>
 bp (ar s.P 57 h17) fun v18 h19=>
 bm (aa s.P 57 v5 0) h19 fun v20 h21=>
 stO h17.length v20 (
 bm (ab s.P 3 v20 h21) h21 fun v22 h23=>
 bm (aa s.P 57 v5 1) h23 fun v24 h25=>
 bm (ab s.P 53 v24 h25) h25 fun v26 h27=>
 bp (yC s k wl 86 true true (.fn (.func 80) [] []) [v26] h27) fun v28 h29=>
 bm (aa s.P 57 v5 2) h29 fun v30 h31=>
 stO h17.length v30 (
 bm (ab s.P 55 v30 h31) h31 fun v32 h33=>
 bm (bh s.P 57 [(0,v22),(1,v28),(2,v32)]) h33 fun v34 h35=>
 bs (aj s.P wl 57 v18 v34 h35) fun h36=>
 bm (ab s.P 23 v1 h36) h36 fun v37 h38=>
 bm (ab s.P 57 v5 h38) h38 fun v39 h40=>
 bp (yC s k wl 86 false true (.fn (.func 85) [] []) [v37,b,d,v39] h40) fun v41 h42=>
 bm (vUn .not v41) h42 fun v43 h44=>
 cnd v43 (
 bm (ab s.P 26 v15 h44) h44 fun v45 h46=>
 bm (ab s.P 57 v18 h46) h46 fun v47 h48=>
 bs (aj s.P wl 57 v9 v47 h48) fun h49=>
 bp (some (.own h49.length 0 0,h49++[.rows 0 [] 0 true])) fun v50 h51=>
 er [some v45,ab s.P 57 v9 h51,some v50] h51) (
 bp (ar s.P 34 h44) fun v52 h53=>
 bm (aa s.P 57 v18 1) h53 fun v54 h55=>
 bm (ab s.P 53 v54 h55) h55 fun v56 h57=>
 bm (ai s.P 53 v56 (.lit (.int .i64 0)) h57) h57 fun v58 h59=>
 bm (ab s.P 3 v58 h59) h59 fun v60 h61=>
 bp (ar s.P 3 h61) fun v62 h63=>
 bs (aj s.P wl 3 v62 v60 h63) fun h64=>
 bp (ar s.P 170 h64) fun v65 h66=>
 bs (aj s.P wl 170 v65 (.fn (.func 131) [] [v52,v3]) h66) fun h67=>
 bp (ar s.P 1 h67) fun v68 h69=>
 bs (aj s.P wl 1 v68 (.fn (.func 132) [] [v18]) h69) fun h70=>
 bp (ar s.P 32 h70) fun v71 h72=>
 bs (aj s.P wl 32 v71 (.fn (.func 133) [] [v18,v1,v15]) h72) fun h73=>
 bm (bh s.P 175 [(0,(.fn (.func 136) [] [v18,v15,v65,v62,v68])),(1,(.fn (.func 137) [] [v15,v3,v62,v18])),(2,(.fn (.func 139) [] [v71,v18,v65,v62])),(3,(.fn (.func 140) [] [v15,v68,v3,v18])),(4,(.fn (.func 141) [] [v71,v68])),(5,(.fn (.func 142) [] [v15,v65,v62,v68]))]) h73 fun v74 h75=>
 bp (ar s.P 175 h75) fun v76 h77=>
 bs (aj s.P wl 175 v76 v74 h77) fun h78=>
 bm (aa s.P 57 v5 0) h78 fun v79 h80=>
 bm (ab s.P 3 v79 h80) h80 fun v81 h82=>
 bm (ai s.P 175 v76 v81 h82) h82 fun v83 h84=>
 bm (ab s.P 1 v83 h84) h84 fun v85 h86=>
 bp (yC s k wl 86 false true v85 [] h86) fun v87 h88=>
 bm (ab s.P 26 v15 h88) h88 fun v89 h90=>
 bm (ab s.P 57 v18 h90) h90 fun v91 h92=>
 stO h88.length v52 (
 bm (ab s.P 34 v52 h92) h92 fun v93 h94=>
 bs (aj s.P wl 57 v9 v91 h94) fun h95=>
 apt (lgW v9 (lgR v52 ([],[]))) (
 er [some v89,ab s.P 57 v9 h95,some v93] h95))))):=kB
theorem aeQ (k wl:Nat) (h:Hp):evF Tryz.prog xM (k+1) wl 86 [a,b,d,e,f] h=ak (xX (xS k) 86 wl k false) Tryz.f86 [a,b,d,e,f] h:=by kernel_rfl
-- names: aeb,
theorem XG (h:Hp):ak (xX s 131 wl k false) Tryz.f131 [a,b,d,e] h =
 bm (ab s.P 34 d h) h fun v1 h2=>
 bm (ab s.P 3 e h2) h2 fun v3 h4=>
 bm (bh s.P 52 [(0,a),(1,b),(2,v3)]) h4 fun v5 h6=>
 bp (aB s.P wl 34 1 [(0,v5)] h6) fun v7 h8=>
 bp (kf s.P wl 34 34 v1 v7 h8) fun v9 h10=>
 bs (aj s.P wl 34 d v9 h10) fun h11=>
 some (.tup [],h11):=kB
theorem ac0 (k wl:Nat) (h:Hp):evF Tryz.prog xM (k+1) wl 131 [a,b,d,e] h=ak (xX (xS k) 131 wl k false) Tryz.f131 [a,b,d,e] h:=by kernel_rfl
-- names: XG,
theorem XN (h:Hp):ak (xX s 132 wl k false) Tryz.f132 [a] h =
 bm (aa s.P 57 a 1) h fun v1 h2=>
 bm (ab s.P 53 v1 h2) h2 fun v3 h4=>
 bp (bP s.P wl false 53 v3 (some (.lit (.int .i64 1))) none none h4) fun v5 h6=>
 bm (bh s.P 57 [(1,v5)]) h6 fun v7 h8=>
 bs (aj s.P wl 57 a v7 h8) fun h9=>
 some (.tup [],h9):=kB
theorem acA (k wl:Nat) (h:Hp):evF Tryz.prog xM (k+1) wl 132 [a] h=ak (xX (xS k) 132 wl k false) Tryz.f132 [a] h:=by kernel_rfl
-- names: XN,
noncomputable def u3:Code:=al (am Tryz.f133) [1,1,0,0]
noncomputable def pI:List Fr:=[.seq (al (am Tryz.f133) [1,1,0,1]),.seq (al (am Tryz.f133) [1,1,1])]
noncomputable def wU:List Fr:=[.seq (al (am Tryz.f133) [1,1,1])]
theorem X4 (h:Hp):ak (xX s 133 wl k false) Tryz.f133 [a,b,d] h =
 bm (aa s.P 57 a 2) h fun v1 h2=>
 bm (aa s.P 55 v1 0) h2 fun v3 h4=>
 bm (ab s.P 3 v3 h4) h4 fun v5 h6=>
 bm (aq s.P .eql 3 v5 (.lit (.int .i64 3))) h6 fun v7 h8=>
 gd v7 (
 yO s k wl 133 Tryz.f133 u3 9 h.length ([],[]) pI ⟨[a,b,d,(.lit (.bool false)),(.fn (.func 134) [] []),v1,v3,v5,v7,(.lit (.bool true)),uu,uu,uu,uu,uu,uu,uu,uu,uu,uu,uu,uu,uu,uu,uu,uu,uu,uu],h8⟩) (
 bm (aa s.P 57 a 2) h8 fun v9 h10=>
 bm (aa s.P 55 v9 0) h10 fun v11 h12=>
 bm (ab s.P 3 v11 h12) h12 fun v13 h14=>
 bm (aq s.P .eql 3 v13 (.lit (.int .i64 4))) h14 fun v15 h16=>
 yO s k wl 133 Tryz.f133 u3 9 h.length ([],[]) pI ⟨[a,b,d,(.lit (.bool false)),(.fn (.func 134) [] []),v1,v3,v5,v7,(.lit (.bool false)),v9,v11,v13,v15,uu,uu,uu,uu,uu,uu,uu,uu,uu,uu,uu,uu,uu,uu],h16⟩) (
 yO s k wl 133 Tryz.f133 u3 6 h.length ([],[]) pI ⟨[a,b,d,(.lit (.bool false)),(.fn (.func 134) [] []),v1,v3,v5,v7,v7,uu,uu,uu,uu,uu,uu,uu,uu,uu,uu,uu,uu,uu,uu,uu,uu,uu,uu],h8⟩):=kB
theorem ac6 (k wl:Nat) (h:Hp):evF Tryz.prog xM (k+1) wl 133 [a,b,d] h=ak (xX (xS k) 133 wl k false) Tryz.f133 [a,b,d] h:=by kernel_rfl
theorem IX (zz:List V) (h:Hp):yO s k wl 133 Tryz.f133 u3 9 m0 ac pI ⟨(a::b::d::e::f::o::p::g::q::j::u::l::v::n::y::zz),h⟩ =
 bm (aO j (.lit (.bool true)) n) h fun v17 h18=>
 cnd v17 (
 au (xX s 133 wl k false) (av s.P Tryz.f133) wU .norm ⟨(a::b::d::e::(.fn (.func 135) [] [])::o::p::g::q::j::u::l::v::n::v17::zz),h18⟩) (
 au (xX s 133 wl k false) (av s.P Tryz.f133) wU .norm ⟨(a::b::d::e::f::o::p::g::q::j::u::l::v::n::v17::zz),h18⟩):=kG
theorem IQ (h:Hp):au (xX s 133 wl k false) (av s.P Tryz.f133) wU .norm ⟨[a,b,d,e,f,o,p,g,q,j,u,l,v,n,y,A,z,E,D,F,B,L,I,M,J,G,O,N],h⟩ =
 bm (ab s.P 23 b h) h fun v19 h20=>
 bm (ab s.P 26 d h20) h20 fun v21 h22=>
 bm (aa s.P 57 a 2) h22 fun v23 h24=>
 bm (ab s.P 55 v23 h24) h24 fun v25 h26=>
 bp (yC s k wl 133 false true f [v19,v21,v25] h26) fun v27 h28=>
 bm (ao v27 0) h28 fun v29 h30=>
 bm (ao v27 1) h30 fun v31 h32=>
 bs (aj s.P wl 26 d v29 h32) fun h33=>
 bm (aa s.P 57 a 2) h33 fun v34 h35=>
 bs (aj s.P wl 55 v34 v31 h35) fun h36=>
 bm (aa s.P 57 a 2) h36 fun v37 h38=>
 bm (ab s.P 55 v37 h38) h38 fun v39 h40=>
 bp (yC s k wl 133 false true (.fn (.func 110) [] []) [v39] h40) fun v41 h42=>
 some (v41,h42):=kR
theorem oT (cx:Cx) (K:Out→St→Option (V×Hp)) (s:St):au cx K pI .ret s=K .ret s:=by kernel_rfl
theorem oV (cx:Cx) (K:Out→St→Option (V×Hp)) (s:St):au cx K wU .ret s=K .ret s:=by kernel_rfl
-- names: X4,IX,IQ,oT,oV
theorem VR (h:Hp):ak (xX s 136 wl k false) Tryz.f136 [a,b,d,e,f] h =
 bm (aa s.P 57 a 0) h fun v1 h2=>
 bs (aj s.P wl 3 v1 (.lit (.int .i64 1)) h2) fun h3=>
 bm (ab s.P 26 b h3) h3 fun v4 h5=>
 bp (yC s k wl 136 false true (.fn (.func 27) [] []) [v4,(.lit (.int .i64 3))] h5) fun v6 h7=>
 bm (aq s.P .neq 46 v6 (.lit (.int .u64 0))) h7 fun v8 h9=>
 cnd v8 (
 bm (ab s.P 170 d h9) h9 fun v10 h11=>
 bm (ab s.P 3 e h11) h11 fun v12 h13=>
 bp (yC s k wl 136 false true v10 [(.lit (.int .i64 1)),v12] h13) fun v14 h15=>
 bm (ab s.P 1 f h15) h15 fun v16 h17=>
 bp (yC s k wl 136 false true v16 [] h17) fun v18 h19=>
 some (.tup [],h19)) (
 some (.tup [],h9)):=kB
theorem ZV (k wl:Nat) (h:Hp):evF Tryz.prog xM (k+1) wl 136 [a,b,d,e,f] h=ak (xX (xS k) 136 wl k false) Tryz.f136 [a,b,d,e,f] h:=by kernel_rfl
-- names: VR,
theorem YN (h:Hp):ak (xX s 137 wl k false) Tryz.f137 [a,b,d,e] h =
 bm (ab s.P 26 a h) h fun v1 h2=>
 bp (yC s k wl 137 false true (.fn (.func 138) [] []) [v1,(.lit (.int .i64 0)),(.lit (.int .u64 1))] h2) fun v3 h4=>
 bm (ao v3 0) h4 fun v5 h6=>
 bm (ao v3 1) h6 fun v7 h8=>
 bs (aj s.P wl 26 a v5 h8) fun h9=>
 bm (ab s.P 3 b h9) h9 fun v10 h11=>
 bm (ab s.P 3 d h11) h11 fun v12 h13=>
 bm (fj s.P 3 46 v12) h13 fun v14 h15=>
 bp (yC s k wl 137 false true (.fn (.func 104) [] []) [(.lit (.int .i64 3)),v10,v14] h15) fun v16 h17=>
 bm (aa s.P 57 e 0) h17 fun v18 h19=>
 bs (aj s.P wl 3 v18 (.lit (.int .i64 2)) h19) fun h20=>
 bm (aa s.P 57 e 2) h20 fun v21 h22=>
 bs (aj s.P wl 55 v21 v16 h22) fun h23=>
 some (.tup [],h23):=kB
theorem adu (k wl:Nat) (h:Hp):evF Tryz.prog xM (k+1) wl 137 [a,b,d,e] h=ak (xX (xS k) 137 wl k false) Tryz.f137 [a,b,d,e] h:=by kernel_rfl
-- names: YN,
theorem Wi (h:Hp):ak (xX s 139 wl k false) Tryz.f139 [a,b,d,e] h =
 bm (ab s.P 32 a h) h fun v1 h2=>
 bp (yC s k wl 139 false true v1 [] h2) fun v3 h4=>
 bm (vUn .not v3) h4 fun v5 h6=>
 cnd v5 (
 some (.tup [],h6)) (
 bm (aa s.P 57 b 0) h6 fun v7 h8=>
 bs (aj s.P wl 3 v7 (.lit (.int .i64 5)) h8) fun h9=>
 bm (aa s.P 57 b 2) h9 fun v10 h11=>
 bm (aa s.P 55 v10 6) h11 fun v12 h13=>
 bm (ab s.P 3 v12 h13) h13 fun v14 h15=>
 bm (aq s.P .neq 3 v14 (.lit (.int .i64 2))) h15 fun v16 h17=>
 cnd v16 (
 bm (ab s.P 170 d h17) h17 fun v18 h19=>
 bm (ab s.P 3 e h19) h19 fun v20 h21=>
 bp (yC s k wl 139 false true v18 [(.lit (.int .i64 0)),v20] h21) fun v22 h23=>
 bm (aa s.P 57 b 0) h23 fun v24 h25=>
 bs (aj s.P wl 3 v24 (.lit (.int .i64 3)) h25) fun h26=>
 some (.tup [],h26)) (
 some (.tup [],h17))):=kB
theorem aa4 (k wl:Nat) (h:Hp):evF Tryz.prog xM (k+1) wl 139 [a,b,d,e] h=ak (xX (xS k) 139 wl k false) Tryz.f139 [a,b,d,e] h:=by kernel_rfl
-- names: Wi,
theorem Yg (h:Hp):ak (xX s 140 wl k false) Tryz.f140 [a,b,d,e] h =
 bm (ab s.P 26 a h) h fun v1 h2=>
 bp (yC s k wl 140 false true (.fn (.func 27) [] []) [v1,(.lit (.int .i64 1))] h2) fun v3 h4=>
 bm (aq s.P .neq 46 v3 (.lit (.int .u64 0))) h4 fun v5 h6=>
 cnd v5 (
 bm (ab s.P 1 b h6) h6 fun v7 h8=>
 bp (yC s k wl 140 false true v7 [] h8) fun v9 h10=>
 some (.tup [],h10)) (
 bm (ab s.P 3 d h6) h6 fun v11 h12=>
 bp (yC s k wl 140 false true (.fn (.func 104) [] []) [(.lit (.int .i64 6)),v11,(.lit (.int .u64 0))] h12) fun v13 h14=>
 bm (aa s.P 57 e 0) h14 fun v15 h16=>
 bs (aj s.P wl 3 v15 (.lit (.int .i64 4)) h16) fun h17=>
 bm (aa s.P 57 e 2) h17 fun v18 h19=>
 bs (aj s.P wl 55 v18 v13 h19) fun h20=>
 some (.tup [],h20)):=kB
theorem aaD (k wl:Nat) (h:Hp):evF Tryz.prog xM (k+1) wl 140 [a,b,d,e] h=ak (xX (xS k) 140 wl k false) Tryz.f140 [a,b,d,e] h:=by kernel_rfl
-- names: Yg,
theorem XA (h:Hp):ak (xX s 141 wl k false) Tryz.f141 [a,b] h =
 bm (ab s.P 32 a h) h fun v1 h2=>
 bp (yC s k wl 141 false true v1 [] h2) fun v3 h4=>
 cnd v3 (
 bm (ab s.P 1 b h4) h4 fun v5 h6=>
 bp (yC s k wl 141 false true v5 [] h6) fun v7 h8=>
 some (.tup [],h8)) (
 some (.tup [],h4)):=kB
theorem acs (k wl:Nat) (h:Hp):evF Tryz.prog xM (k+1) wl 141 [a,b] h=ak (xX (xS k) 141 wl k false) Tryz.f141 [a,b] h:=by kernel_rfl
-- names: XA,
theorem YO (h:Hp):ak (xX s 142 wl k false) Tryz.f142 [a,b,d,e] h =
 bm (ab s.P 26 a h) h fun v1 h2=>
 bp (yC s k wl 142 false true (.fn (.func 138) [] []) [v1,(.lit (.int .i64 0)),(.lit (.int .u64 18446744073709551615))] h2) fun v3 h4=>
 bm (ao v3 0) h4 fun v5 h6=>
 bm (ao v3 1) h6 fun v7 h8=>
 bs (aj s.P wl 26 a v5 h8) fun h9=>
 bm (ab s.P 170 b h9) h9 fun v10 h11=>
 bm (ab s.P 3 d h11) h11 fun v12 h13=>
 bp (yC s k wl 142 false true v10 [(.lit (.int .i64 1)),v12] h13) fun v14 h15=>
 bm (aq s.P .eql 46 v7 (.lit (.int .u64 1))) h15 fun v16 h17=>
 cnd v16 (
 bm (ab s.P 170 b h17) h17 fun v18 h19=>
 bp (yC s k wl 142 false true v18 [(.lit (.int .i64 5)),(.lit (.int .i64 0))] h19) fun v20 h21=>
 bm (ab s.P 1 e h21) h21 fun v22 h23=>
 bp (yC s k wl 142 false true v22 [] h23) fun v24 h25=>
 some (.tup [],h25)) (
 bm (ab s.P 1 e h17) h17 fun v26 h27=>
 bp (yC s k wl 142 false true v26 [] h27) fun v28 h29=>
 some (.tup [],h29)):=kB
theorem abn (k wl:Nat) (h:Hp):evF Tryz.prog xM (k+1) wl 142 [a,b,d,e] h=ak (xX (xS k) 142 wl k false) Tryz.f142 [a,b,d,e] h:=by kernel_rfl
-- names: YO,
end
end Go.Ab
