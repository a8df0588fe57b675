import Derived.Test.YtblpbpnilkfjhaaGreatR6Seat
import Derived.Test.YtblpbpnilkfjhaaGreatAbLibC
set_option linter.unusedVariables false
set_option linter.unusedSimpArgs false
set_option maxRecDepth 100000
set_option linter.unusedVariables false
namespace Go.Ab
open Go.Proofs
section
variable (s:Sys) (k wl:Nat) (m0:Nat) (ac:List Nat×List Nat) (c d g j l q p o e u r z A B F D E G I L N M J O R Q U T Y X Z W t4 t0 t5 t1 t2 t3:V)
noncomputable def rN:Code:=al (am Tryz.f21) [1,0,1,0,0]
noncomputable def Gl:List Fr:=[.block 0,.seq (al (am Tryz.f21) [1,1])]
noncomputable def Ha:Code:=al (am Tryz.f21) [1,0,1,0,0,0,0]
noncomputable def D4:List Fr:=[.seq (al (am Tryz.f21) [1,0,1,0,0,0,1]),.seq (al (am Tryz.f21) [1,0,1,0,0,1])]
theorem afF (h:Hp):ak (xX s 21 wl k false) Tryz.f21 [c] h =
 yI s k wl 21 Tryz.f21 rN h.length Gl k ⟨[(V.kill h.length c),(V.kill h.length uu),(.lit (.bool false)),(.lit (.int .i64 0)),.junk,.junk,.junk,.junk,.junk,.junk,.junk,.junk,.junk,.junk,.junk,.junk,.junk,.junk,.junk,.junk,.junk,(V.kill h.length uu),(V.kill h.length uu),(V.kill h.length uu)],bW h.length h⟩:=kB
theorem agE (k wl:Nat) (h:Hp):evF Tryz.prog xM (k+1) wl 21 [c] h=ak (xX (xS k) 21 wl k false) Tryz.f21 [c] h:=by kernel_rfl
theorem ac9 (P:Program) (h:Hp):ao P Tryz.f21 .ret ⟨[c,d,g,j,l,q,p,o,e,u,r,z,A,B,F,D,E,G,I,L,N,M,J,O],h⟩=some (g,h):=by kernel_rfl
theorem Rc (s:Sys) (K:Out→St→Option (V×Hp)) (k wl:Nat) (rd:Bool) (n n0:Nat) (zz:List V) (h:Hp):itX (xX s 21 wl k rd) rN n0 K (n+1) ⟨(c::d::g::j::l::q::p::o::e::u::r::zz),h⟩ =
 bp (bc s.P 24 c h) fun v1 h2=>
 bm (aw s.P .lss 3 j v1) h2 fun v3 h4=>
 gd v3 (
 bm (aw s.P .leq 3 j (.lit (.int .i64 40))) h4 fun v5 h6=>
 bV (xX s 21 wl k rd) Ha 7 h.length ([],[]) (au (xX s 21 wl k rd) (eO (xX s 21 wl k rd) rN n0 K n) D4) ⟨(c::d::g::j::j::c::v1::v3::(.lit (.bool true))::j::v5::zz),h6⟩) (
 bV (xX s 21 wl k rd) Ha 7 h.length ([],[]) (au (xX s 21 wl k rd) (eO (xX s 21 wl k rd) rN n0 K n) D4) ⟨(c::d::g::j::j::c::v1::v3::(.lit (.bool false))::uu::uu::zz),h4⟩) (
 bV (xX s 21 wl k rd) Ha 6 h.length ([],[]) (au (xX s 21 wl k rd) (eO (xX s 21 wl k rd) rN n0 K n) D4) ⟨(c::d::g::j::j::c::v1::v3::v3::uu::r::zz),h4⟩):=kI
theorem La (h:Hp):au (xX s 21 wl k false) (ao s.P Tryz.f21) Gl (.exit 0) ⟨[c,d,g,j,l,q,p,o,e,u,r,z,A,B,F,D,E,G,I,L,N,M,J,O],h⟩ =
 bp (bc s.P 24 c h) fun v7 h8=>
 bm (aw s.P .leq 3 v7 (.lit (.int .i64 40))) h8 fun v9 h10=>
 some (v9,h10):=kR
theorem JP (s:Sys) (K:Out→St→Option (V×Hp)) (k wl:Nat) (rd:Bool) (n n0:Nat) (m0:Nat) (ac:List Nat×List Nat) (h:Hp):bV (xX s 21 wl k rd) Ha 7 m0 ac (au (xX s 21 wl k rd) (eO (xX s 21 wl k rd) rN n0 K n) D4) ⟨[c,d,g,j,l,q,p,o,e,u,r,z,A,B,F,D,E,G,I,L,N,M,J,O],h⟩ =
 bm (aQ e r (.lit (.bool false))) h fun v11 h12=>
 cnd v11 (
 bm (aj s.P 24 c j h12) h12 fun v13 h14=>
 bm (aa s.P 101 v13 1) h14 fun v15 h16=>
 bm (ab s.P 53 v15 h16) h16 fun v17 h18=>
 bp (bc s.P 53 v17 h18) fun v19 h20=>
 bm (aw s.P .gtr 3 v19 (.lit (.int .i64 40))) h20 fun v21 h22=>
 cnd v21 (
 K .ret ⟨[c,d,(.lit (.bool false)),j,l,q,p,o,e,u,r,v11,A,B,c,j,v13,v15,v17,v19,v21,M,J,O],h22⟩) (
 bm (aw s.P .add 3 j (.lit (.int .i64 1))) h22 fun v23 h24=>
 itX (xX s 21 wl k rd) rN n0 K n ⟨[(V.kill n0 c),(V.kill n0 d),(V.kill n0 g),(V.kill n0 v23),.junk,.junk,.junk,.junk,.junk,.junk,.junk,.junk,.junk,.junk,.junk,.junk,.junk,.junk,.junk,.junk,.junk,(V.kill n0 M),(V.kill n0 J),(V.kill n0 O)],bW n0 h24⟩)) (
 K (.exit 0) ⟨[(V.kill n0 c),(V.kill n0 d),(V.kill n0 g),(V.kill n0 j),.junk,.junk,.junk,.junk,.junk,.junk,.junk,.junk,.junk,.junk,.junk,.junk,.junk,.junk,.junk,.junk,.junk,(V.kill n0 M),(V.kill n0 J),(V.kill n0 O)],bW n0 h12⟩):=kG
theorem pL (cx:Cx) (K:Out→St→Option (V×Hp)) (s:St):au cx K Gl .ret s=K .ret s:=by kernel_rfl
theorem rn (cx:Cx) (K:Out→St→Option (V×Hp)) (s:St):au cx K D4 .ret s=K .ret s:=by kernel_rfl
-- names: afF,ac9,Rc,La,JP,pL,rn
noncomputable def HL:Code:=al (am Tryz.f56) [1,0,0]
noncomputable def Db:List Fr:=[.seq (al (am Tryz.f56) [1,0,1]),.seq (al (am Tryz.f56) [1,1])]
noncomputable def SR:Code:=al (am Tryz.f56) [1,1,1,0,1,0]
noncomputable def CY:Code:=al (am Tryz.f56) [1,1,1,0,1,0,0]
noncomputable def CD:Code:=al (am Tryz.f56) [1,1,1,0,1,0,1]
noncomputable def AF:List Fr:=[.block 0,.seq (al (am Tryz.f56) [1,1,1,1])]
noncomputable def rR:Code:=al (am Tryz.f56) [1,1,1,0,1,0,1,0,0,0]
noncomputable def oM:List Fr:=[.seq (al (am Tryz.f56) [1,1,1,0,1,0,1,0,0,1]),.seq (al (am Tryz.f56) [1,1,1,0,1,0,1,0,1]),.block 1]
theorem uH:SR = .rangeFunc (.tmp 17) #[18,19] CY CD:=by kernel_rfl
theorem acf (h:Hp):ak (xX s 56 wl k false) Tryz.f56 [c] h =
 bp (aN c h) fun v1 h2=>
 bp (av s.P 4 h2) fun v3 h4=>
 bm (ab s.P 24 v1 h4) h4 fun v5 h6=>
 bp (bc s.P 24 v5 h6) fun v7 h8=>
 bm (aw s.P .gtr 3 v7 (.lit (.int .i64 30))) h8 fun v9 h10=>
 gd v9 (
 yO s k wl 56 Tryz.f56 HL 6 h4.length ([],[]) Db ⟨[c,v1,v3,uu,uu,uu,v5,v7,v9,(.lit (.bool true)),uu,uu,uu,uu,uu,uu,uu,uu,uu,uu,uu,uu,uu,uu,uu,uu,uu,uu,uu,uu,uu,uu,uu,uu,uu,uu,uu,uu],h10⟩) (
 bm (ab s.P 24 v1 h10) h10 fun v11 h12=>
 bp (yC s k wl 56 false true (.fn (.func 98) [] []) [v11,(.fn (.func 99) [] [])] h12) fun v13 h14=>
 yO s k wl 56 Tryz.f56 HL 6 h4.length ([],[]) Db ⟨[c,v1,v3,uu,uu,uu,v5,v7,v9,(.lit (.bool false)),v11,v13,uu,uu,uu,uu,uu,uu,uu,uu,uu,uu,uu,uu,uu,uu,uu,uu,uu,uu,uu,uu,uu,uu,uu,uu,uu,uu],h14⟩) (
 yO s k wl 56 Tryz.f56 HL 5 h4.length ([],[]) Db ⟨[c,v1,v3,uu,uu,uu,v5,v7,v9,v9,uu,uu,uu,uu,uu,uu,uu,uu,uu,uu,uu,uu,uu,uu,uu,uu,uu,uu,uu,uu,uu,uu,uu,uu,uu,uu,uu,uu],h10⟩):=kB
theorem acn (k wl:Nat) (h:Hp):evF Tryz.prog xM (k+1) wl 56 [c] h=ak (xX (xS k) 56 wl k false) Tryz.f56 [c] h:=by kernel_rfl
theorem ab9 (P:Program) (h:Hp):ao P Tryz.f56 .ret ⟨[c,d,g,j,l,q,p,o,e,u,r,z,A,B,F,D,E,G,I,L,N,M,J,O,R,Q,U,T,Y,X,Z,W,t4,t0,t5,t1,t2,t3],h⟩=ef [ab P 4 g h] h:=by kernel_rfl
theorem Gq (zz:List V) (h:Hp):yO s k wl 56 Tryz.f56 HL 6 m0 ac Db ⟨(c::d::g::j::l::q::p::o::e::u::r::z::A::B::F::D::E::G::zz),h⟩ =
 bm (aQ u (.lit (.bool true)) z) h fun v15 h16=>
 cnd v15 (
 bs (ai s.P wl 4 g (.lit (.bool false)) h16) fun h17=>
 ef [ab s.P 4 g h17] h17) (
 bm (ab s.P 24 d h16) h16 fun v18 h19=>
 bp (bc s.P 24 v18 h19) fun v20 h21=>
 bp (be s.P 150 v20 v20 h21) fun v22 h23=>
 bp (av s.P 150 h23) fun v24 h25=>
 bs (ai s.P wl 150 v24 v22 h25) fun h26=>
 bm (ab s.P 24 d h26) h26 fun v27 h28=>
 bp (yC s k wl 56 false true (.fn (.func 100) [] []) [v27] h28) fun v29 h30=>
 ba (xX s 56 wl k false) SR none (au (xX s 56 wl k false) (ao s.P Tryz.f56) AF) ⟨(c::d::g::v24::l::q::p::o::e::u::r::z::v15::v18::v20::v22::v27::v29::zz),h30⟩):=kG
theorem GM (s:Sys) (k wl:Nat) (zz:List V) (h:Hp):au (xX s 56 wl k false) (ao s.P Tryz.f56) AF .norm ⟨(c::d::g::zz),h⟩ =
 bs (ai s.P wl 4 g (.lit (.bool true)) h) fun h31=>
 ef [ab s.P 4 g h31] h31:=kR
theorem ez (s:Sys) (K:Out→St→Option (V×Hp)) (k wl:Nat) (rd:Bool) (h:Hp):au (xX s 56 wl k rd) K [.seq CD] .norm ⟨[c,d,g,j,l,q,p,o,e,u,r,z,A,B,F,D,E,G,I,L,N,M,J,O,R,Q,U,T,Y,X,Z,W,t4,t0,t5,t1,t2,t3],h⟩ =
 bm (aw s.P .leq 3 l q) h fun v32 h33=>
 gd v32 (
 bV (xX s 56 wl k rd) rR 8 h.length ([],[]) (au (xX s 56 wl k rd) K oM) ⟨[c,d,g,j,l,q,p,o,e,u,r,z,A,B,F,D,E,G,I,L,l,q,v32,(.lit (.bool true)),uu,uu,uu,uu,Y,X,Z,W,t4,t0,t5,t1,t2,t3],h33⟩) (
 bm (ab s.P 24 d h33) h33 fun v34 h35=>
 bp (bc s.P 24 v34 h35) fun v36 h37=>
 bm (aw s.P .geq 3 l v36) h37 fun v38 h39=>
 bV (xX s 56 wl k rd) rR 8 h.length ([],[]) (au (xX s 56 wl k rd) K oM) ⟨[c,d,g,j,l,q,p,o,e,u,r,z,A,B,F,D,E,G,I,L,l,q,v32,(.lit (.bool false)),l,v34,v36,v38,Y,X,Z,W,t4,t0,t5,t1,t2,t3],h39⟩) (
 bV (xX s 56 wl k rd) rR 5 h.length ([],[]) (au (xX s 56 wl k rd) K oM) ⟨[c,d,g,j,l,q,p,o,e,u,r,z,A,B,F,D,E,G,I,L,l,q,v32,v32,uu,Q,U,T,Y,X,Z,W,t4,t0,t5,t1,t2,t3],h33⟩):=kR
theorem eB (s:Sys) (K:Out→St→Option (V×Hp)) (k wl:Nat) (rd:Bool) (zz:List V) (h:Hp):au (xX s 56 wl k rd) K [.seq CY] .norm ⟨(c::d::g::j::l::q::p::o::e::u::r::z::A::B::F::D::E::G::I::L::zz),h⟩ =
 K .norm ⟨(c::d::g::j::I::L::p::o::e::u::r::z::A::B::F::D::E::G::I::L::zz),h⟩:=kR
theorem GC (s:Sys) (K:Out→St→Option (V×Hp)) (k wl:Nat) (rd:Bool) (m0:Nat) (ac:List Nat×List Nat) (h:Hp):bV (xX s 56 wl k rd) rR 8 m0 ac (au (xX s 56 wl k rd) K oM) ⟨[c,d,g,j,l,q,p,o,e,u,r,z,A,B,F,D,E,G,I,L,N,M,J,O,R,Q,U,T,Y,X,Z,W,t4,t0,t5,t1,t2,t3],h⟩ =
 bm (aQ O (.lit (.bool true)) T) h fun v40 h41=>
 gd v40 (
 bV (xX s 56 wl k rd) rR 14 m0 ac (au (xX s 56 wl k rd) K oM) ⟨[c,d,g,j,l,q,p,o,e,u,r,z,A,B,F,D,E,G,I,L,N,M,J,O,R,Q,U,T,v40,(.lit (.bool true)),uu,uu,uu,uu,t5,t1,t2,t3],h41⟩) (
 bm (ab s.P 150 j h41) h41 fun v42 h43=>
 bm (aj s.P 150 v42 l h43) h43 fun v44 h45=>
 bm (ab s.P 4 v44 h45) h45 fun v46 h47=>
 bV (xX s 56 wl k rd) rR 14 m0 ac (au (xX s 56 wl k rd) K oM) ⟨[c,d,g,j,l,q,p,o,e,u,r,z,A,B,F,D,E,G,I,L,N,M,J,O,R,Q,U,T,v40,(.lit (.bool false)),v42,l,v44,v46,t5,t1,t2,t3],h47⟩) (
 bV (xX s 56 wl k rd) rR 11 m0 ac (au (xX s 56 wl k rd) K oM) ⟨[c,d,g,j,l,q,p,o,e,u,r,z,A,B,F,D,E,G,I,L,N,M,J,O,R,Q,U,T,v40,v40,uu,W,t4,t0,t5,t1,t2,t3],h41⟩):=kG
theorem GX (s:Sys) (K:Out→St→Option (V×Hp)) (k wl:Nat) (rd:Bool) (m0:Nat) (ac:List Nat×List Nat) (h:Hp):bV (xX s 56 wl k rd) rR 14 m0 ac (au (xX s 56 wl k rd) K oM) ⟨[c,d,g,j,l,q,p,o,e,u,r,z,A,B,F,D,E,G,I,L,N,M,J,O,R,Q,U,T,Y,X,Z,W,t4,t0,t5,t1,t2,t3],h⟩ =
 bm (aQ X (.lit (.bool true)) t0) h fun v48 h49=>
 cnd v48 (
 bs (ai s.P wl 4 g (.lit (.bool false)) h49) fun h50=>
 K .ret ⟨[c,d,g,j,l,q,p,o,e,u,r,z,A,B,F,D,E,G,I,L,N,M,J,O,R,Q,U,T,Y,X,Z,W,t4,t0,v48,t1,t2,t3],h50⟩) (
 bm (ab s.P 150 j h49) h49 fun v51 h52=>
 bm (aj s.P 150 v51 l h52) h52 fun v53 h54=>
 bs (ai s.P wl 4 v53 (.lit (.bool true)) h54) fun h55=>
 K .norm ⟨[c,d,g,j,l,q,p,o,e,u,r,z,A,B,F,D,E,G,I,L,N,M,J,O,R,Q,U,T,Y,X,Z,W,t4,t0,v48,v51,l,v53],h55⟩):=kG
theorem m6 (cx:Cx) (K:Out→St→Option (V×Hp)) (s:St):au cx K Db .ret s=K .ret s:=by kernel_rfl
theorem mX (cx:Cx) (K:Out→St→Option (V×Hp)) (s:St):au cx K AF .ret s=K .ret s:=by kernel_rfl
theorem mM (cx:Cx) (K:Out→St→Option (V×Hp)) (s:St):au cx K oM .ret s=K .ret s:=by kernel_rfl
-- names: acf,ab9,Gq,GM,ez,eB,GC,GX,m6,mX,mM
-- range over a function at [1,1,1,0,1,0]
noncomputable def xD:Code:=al (am Tryz.f57) [1,1,1,0,1,0,0]
noncomputable def Dq:List Fr:=[.block 0,.seq (al (am Tryz.f57) [1,1,1,1])]
theorem Xs (h:Hp):ak (xX s 57 wl k false) Tryz.f57 [c] h =
 bp (some (.own h.length 0 0,h++[.rows 0 [] 0 true])) fun v1 h2=>
 bp (yC s k wl 57 false true (.fn (.func 56) [] []) [c] h2) fun v3 h4=>
 bm (vUn .not v3) h4 fun v5 h6=>
 cnd v5 (
 bp (some (.own h6.length 0 0,h6++[.rows 0 [] 0 true])) fun v7 h8=>
 some (v7,h8)) (
 bp (some (.own h6.length 0 0,h6++[.rows 0 [] 0 true])) fun v9 h10=>
 bp (bc s.P 24 c h10) fun v11 h12=>
 yI s k wl 57 Tryz.f57 xD h12.length Dq k ⟨[(V.kill h12.length c),(V.kill h12.length uu),(V.kill h12.length v1),(V.kill h12.length v9),(V.kill h12.length uu),(V.kill h12.length c),(V.kill h12.length v3),(V.kill h12.length v5),(V.kill h12.length c),(V.kill h12.length v11),(.lit (.int .i64 0)),.junk,.junk,.junk,.junk,.junk,.junk,.junk,.junk,.junk,.junk,.junk,(V.kill h12.length uu)],bW h12.length h12⟩):=kB
theorem YP (k wl:Nat) (h:Hp):evF Tryz.prog xM (k+1) wl 57 [c] h=ak (xX (xS k) 57 wl k false) Tryz.f57 [c] h:=by kernel_rfl
theorem Xr (P:Program) (h:Hp):ao P Tryz.f57 .ret ⟨[c,d,g,j,l,q,p,o,e,u,r,z,A,B,F,D,E,G,I,L,N,M,J],h⟩=some (g,h):=by kernel_rfl
theorem SC (s:Sys) (K:Out→St→Option (V×Hp)) (k wl:Nat) (rd:Bool) (n n0:Nat) (h:Hp):itX (xX s 57 wl k rd) xD n0 K (n+1) ⟨[c,d,g,j,l,q,p,o,e,u,r,z,A,B,F,D,E,G,I,L,N,M,J],h⟩ =
 bm (aw s.P .lss 3 r u) h fun v13 h14=>
 cnd v13 (
 bp (bL (xX s 57 wl k rd) false true (.fn (.func 101) [] []) [c,r] h14) fun v15 h16=>
 bm (aw s.P .eql 3 v15 (.lit (.int .i64 (-1)))) h16 fun v17 h18=>
 cnd v17 (
 bp (aA s.P wl 53 1 [(0,r)] h18) fun v19 h20=>
 bp (kM s.P wl 53 53 j v19 h20) fun v21 h22=>
 bm (aw s.P .add 3 r (.lit (.int .i64 1))) h22 fun v23 h24=>
 itX (xX s 57 wl k rd) xD n0 K n ⟨[(V.kill n0 c),(V.kill n0 d),(V.kill n0 g),(V.kill n0 v21),(V.kill n0 r),(V.kill n0 q),(V.kill n0 p),(V.kill n0 o),(V.kill n0 e),(V.kill n0 u),(V.kill n0 v23),.junk,.junk,.junk,.junk,.junk,.junk,.junk,.junk,.junk,.junk,.junk,(V.kill n0 J)],bW n0 h24⟩) (
 bm (aw s.P .add 3 r (.lit (.int .i64 1))) h18 fun v25 h26=>
 itX (xX s 57 wl k rd) xD n0 K n ⟨[(V.kill n0 c),(V.kill n0 d),(V.kill n0 g),(V.kill n0 j),(V.kill n0 r),(V.kill n0 q),(V.kill n0 p),(V.kill n0 o),(V.kill n0 e),(V.kill n0 u),(V.kill n0 v25),.junk,.junk,.junk,.junk,.junk,.junk,.junk,.junk,.junk,.junk,.junk,(V.kill n0 J)],bW n0 h26⟩)) (
 K (.exit 0) ⟨[(V.kill n0 c),(V.kill n0 d),(V.kill n0 g),(V.kill n0 j),(V.kill n0 l),(V.kill n0 q),(V.kill n0 p),(V.kill n0 o),(V.kill n0 e),(V.kill n0 u),.junk,.junk,.junk,.junk,.junk,.junk,.junk,.junk,.junk,.junk,.junk,.junk,(V.kill n0 J)],bW n0 h14⟩):=kI
theorem AE (h:Hp):au (xX s 57 wl k false) (ao s.P Tryz.f57) Dq (.exit 0) ⟨[c,d,g,j,l,q,p,o,e,u,r,z,A,B,F,D,E,G,I,L,N,M,J],h⟩ =
 some (j,h):=kR
theorem i6 (cx:Cx) (K:Out→St→Option (V×Hp)) (s:St):au cx K Dq .ret s=K .ret s:=by kernel_rfl
-- names: Xs,Xr,SC,AE,i6
theorem aaq (h:Hp):ak (xX s 98 wl k false) Tryz.f98 [c,d] h =
 bp (yC s k wl 98 false true (.fn (.func 147) [] []) [c,d] h) fun v1 h2=>
 bm (aw s.P .geq 3 v1 (.lit (.int .i64 0))) h2 fun v3 h4=>
 some (v3,h4):=kB
theorem ab5 (k wl:Nat) (h:Hp):evF Tryz.prog xM (k+1) wl 98 [c,d] h=ak (xX (xS k) 98 wl k false) Tryz.f98 [c,d] h:=by kernel_rfl
-- names: aaq,
noncomputable def GL:Code:=al (am Tryz.f99) [1,0]
noncomputable def Dt:List Fr:=[.seq (al (am Tryz.f99) [1,1])]
theorem abv (h:Hp):ak (xX s 99 wl k false) Tryz.f99 [c] h =
 bp (aN c h) fun v1 h2=>
 bm (aa s.P 101 v1 0) h2 fun v3 h4=>
 bm (ab s.P 3 v3 h4) h4 fun v5 h6=>
 bm (aw s.P .lss 3 v5 (.lit (.int .i64 0))) h6 fun v7 h8=>
 gd v7 (
 yO s k wl 99 Tryz.f99 GL 7 h2.length ([],[]) Dt ⟨[c,v1,(.lit (.bool false)),v3,v5,v7,(.lit (.bool true)),uu,uu,uu,uu],h8⟩) (
 bm (aa s.P 101 v1 0) h8 fun v9 h10=>
 bm (ab s.P 3 v9 h10) h10 fun v11 h12=>
 bm (aw s.P .gtr 3 v11 (.lit (.int .i64 20))) h12 fun v13 h14=>
 yO s k wl 99 Tryz.f99 GL 7 h2.length ([],[]) Dt ⟨[c,v1,(.lit (.bool false)),v3,v5,v7,(.lit (.bool false)),v9,v11,v13,uu],h14⟩) (
 yO s k wl 99 Tryz.f99 GL 5 h2.length ([],[]) Dt ⟨[c,v1,(.lit (.bool false)),v3,v5,v7,v7,uu,uu,uu,uu],h8⟩):=kB
theorem ab0 (k wl:Nat) (h:Hp):evF Tryz.prog xM (k+1) wl 99 [c] h=ak (xX (xS k) 99 wl k false) Tryz.f99 [c] h:=by kernel_rfl
theorem CB (h:Hp):yO s k wl 99 Tryz.f99 GL 7 m0 ac Dt ⟨[c,d,g,j,l,q,p,o,e,u,r],h⟩ =
 bm (aQ p (.lit (.bool true)) u) h fun v15 h16=>
 some (v15,h16):=kG
theorem kZ (cx:Cx) (K:Out→St→Option (V×Hp)) (s:St):au cx K Dt .ret s=K .ret s:=by kernel_rfl
-- names: abv,CB,kZ
theorem Fo (h:Hp):ak (xX s 100 wl k false) Tryz.f100 [c] h =
 bp (aN c h) fun v1 h2=>
 some ((.fn (.func 148) [] [v1]),h2):=kB
theorem Jf (k wl:Nat) (h:Hp):evF Tryz.prog xM (k+1) wl 100 [c] h=ak (xX (xS k) 100 wl k false) Tryz.f100 [c] h:=by kernel_rfl
-- names: Fo,
noncomputable def AM:Code:=al (am Tryz.f147) [1,0,1,0,0]
noncomputable def Bz:List Fr:=[.block 0,.seq (al (am Tryz.f147) [1,1])]
theorem FN (h:Hp):ak (xX s 147 wl k false) Tryz.f147 [c,d] h =
 bp (bc s.P 24 c h) fun v1 h2=>
 yI s k wl 147 Tryz.f147 AM h2.length Bz k ⟨[(V.kill h2.length c),(V.kill h2.length d),(V.kill h2.length uu),(V.kill h2.length uu),(.lit (.int .i64 0)),(V.kill h2.length uu),(V.kill h2.length c),(V.kill h2.length v1),(.lit (.int .i64 0)),.junk,.junk,.junk,.junk,.junk,.junk,.junk,.junk,.junk,.junk],bW h2.length h2⟩:=kB
theorem Jg (k wl:Nat) (h:Hp):evF Tryz.prog xM (k+1) wl 147 [c,d] h=ak (xX (xS k) 147 wl k false) Tryz.f147 [c,d] h:=by kernel_rfl
theorem E4 (P:Program) (h:Hp):ao P Tryz.f147 .ret ⟨[c,d,g,j,l,q,p,o,e,u,r,z,A,B,F,D,E,G,I],h⟩=some (l,h):=by kernel_rfl
theorem Ly (s:Sys) (K:Out→St→Option (V×Hp)) (k wl:Nat) (rd:Bool) (n n0:Nat) (h:Hp):itX (xX s 147 wl k rd) AM n0 K (n+1) ⟨[c,d,g,j,l,q,p,o,e,u,r,z,A,B,F,D,E,G,I],h⟩ =
 bm (aw s.P .lss 3 e o) h fun v3 h4=>
 cnd v3 (
 bm (aj s.P 24 c e h4) h4 fun v5 h6=>
 bm (ab s.P 101 v5 h6) h6 fun v7 h8=>
 bp (bL (xX s 147 wl k rd) false true d [v7] h8) fun v9 h10=>
 cnd v9 (
 K .ret ⟨[c,d,g,j,e,e,p,o,e,v3,e,d,c,e,v5,v7,v9,e,I],h10⟩) (
 bm (aw s.P .add 3 e (.lit (.int .i64 1))) h10 fun v11 h12=>
 itX (xX s 147 wl k rd) AM n0 K n ⟨[(V.kill n0 c),(V.kill n0 d),(V.kill n0 g),(V.kill n0 j),(V.kill n0 l),(V.kill n0 e),(V.kill n0 p),(V.kill n0 o),(V.kill n0 v11),.junk,.junk,.junk,.junk,.junk,.junk,.junk,.junk,.junk,.junk],bW n0 h12⟩)) (
 K (.exit 0) ⟨[(V.kill n0 c),(V.kill n0 d),(V.kill n0 g),(V.kill n0 j),(V.kill n0 l),(V.kill n0 q),(V.kill n0 p),(V.kill n0 o),.junk,.junk,.junk,.junk,.junk,.junk,.junk,.junk,.junk,.junk,.junk],bW n0 h4⟩):=kI
theorem n8 (h:Hp):au (xX s 147 wl k false) (ao s.P Tryz.f147) Bz (.exit 0) ⟨[c,d,g,j,l,q,p,o,e,u,r,z,A,B,F,D,E,G,I],h⟩ =
 some ((.lit (.int .i64 (-1))),h):=kR
theorem fO (cx:Cx) (K:Out→St→Option (V×Hp)) (s:St):au cx K Bz .ret s=K .ret s:=by kernel_rfl
-- names: FN,E4,Ly,n8,fO
noncomputable def kd:Code:=al (am Tryz.f148) [1,0,0]
noncomputable def ma:List Fr:=[.block 0]
noncomputable def uI:Code:=al (am Tryz.f148) [1,0,0,1,1,0,0,1,1,0,0]
noncomputable def wS:List Fr:=[.block 2,.block 1,.seq (al (am Tryz.f148) [1,0,0,1,1,1])]
theorem Ff (h:Hp):ak (xX s 148 wl k false) Tryz.f148 [c,d] h =
 bm (ab s.P 24 d h) h fun v1 h2=>
 bp (bc s.P 24 v1 h2) fun v3 h4=>
 yI s k wl 148 Tryz.f148 kd h4.length ma k ⟨[(V.kill h4.length c),(V.kill h4.length d),(V.kill h4.length uu),(V.kill h4.length uu),(V.kill h4.length uu),(V.kill h4.length uu),(V.kill h4.length uu),(V.kill h4.length v1),(V.kill h4.length v3),(.lit (.int .i64 0)),.junk,.junk,.junk,.junk,.junk,.junk,.junk,.junk,.junk,.junk,.junk,.junk,.junk,.junk,.junk,.junk,.junk,.junk],bW h4.length h4⟩:=kB
theorem Jo (k wl:Nat) (h:Hp):evF Tryz.prog xM (k+1) wl 148 [c,d] h=ak (xX (xS k) 148 wl k false) Tryz.f148 [c,d] h:=by kernel_rfl
theorem F2 (P:Program) (h:Hp):ao P Tryz.f148 .ret ⟨[c,d,g,j,l,q,p,o,e,u,r,z,A,B,F,D,E,G,I,L,N,M,J,O,R,Q,U,T],h⟩=some (.tup [],h):=by kernel_rfl
theorem Fq (s:Sys) (K:Out→St→Option (V×Hp)) (k wl:Nat) (rd:Bool) (n n0:Nat) (h:Hp):itX (xX s 148 wl k rd) kd n0 K (n+1) ⟨[c,d,g,j,l,q,p,o,e,u,r,z,A,B,F,D,E,G,I,L,N,M,J,O,R,Q,U,T],h⟩ =
 bm (aw s.P .lss 3 u e) h fun v5 h6=>
 cnd v5 (
 bm (aj s.P 24 o u h6) h6 fun v7 h8=>
 bm (ab s.P 101 v7 h8) h8 fun v9 h10=>
 bp (av s.P 101 h10) fun v11 h12=>
 bs (ai s.P wl 101 v11 v9 h12) fun h13=>
 bm (aa s.P 101 v11 1) h13 fun v14 h15=>
 bm (ab s.P 53 v14 h15) h15 fun v16 h17=>
 bp (bc s.P 53 v16 h17) fun v18 h19=>
 itX (xX s 148 wl k rd) uI h19.length (au (xX s 148 wl k rd) (eO (xX s 148 wl k rd) kd n0 K n) wS) k ⟨[(V.kill h19.length c),(V.kill h19.length d),(V.kill h19.length g),(V.kill h19.length u),(V.kill h19.length v11),(V.kill h19.length q),(V.kill h19.length p),(V.kill h19.length o),(V.kill h19.length e),(V.kill h19.length u),(V.kill h19.length v5),(V.kill h19.length u),(V.kill h19.length v7),(V.kill h19.length v9),(V.kill h19.length v14),(V.kill h19.length v16),(V.kill h19.length v18),(.lit (.int .i64 0)),.junk,.junk,.junk,.junk,.junk,.junk,.junk,.junk,.junk,(V.kill h19.length T)],bW h19.length h19⟩) (
 K (.exit 0) ⟨[(V.kill n0 c),(V.kill n0 d),(V.kill n0 g),(V.kill n0 j),(V.kill n0 l),(V.kill n0 q),(V.kill n0 p),(V.kill n0 o),(V.kill n0 e),.junk,.junk,.junk,.junk,.junk,.junk,.junk,.junk,.junk,.junk,.junk,.junk,.junk,.junk,.junk,.junk,.junk,.junk,.junk],bW n0 h6⟩):=kI
theorem nP (s:Sys) (k wl:Nat) (zz:List V) (h:Hp):au (xX s 148 wl k false) (ao s.P Tryz.f148) ma (.exit 0) ⟨(c::zz),h⟩ =
 some (.tup [],h):=kR
theorem Fd (s:Sys) (K:Out→St→Option (V×Hp)) (k wl:Nat) (rd:Bool) (n n0:Nat) (h:Hp):itX (xX s 148 wl k rd) uI n0 K (n+1) ⟨[c,d,g,j,l,q,p,o,e,u,r,z,A,B,F,D,E,G,I,L,N,M,J,O,R,Q,U,T],h⟩ =
 bm (aw s.P .lss 3 G E) h fun v20 h21=>
 cnd v20 (
 bm (aj s.P 53 D G h21) h21 fun v22 h23=>
 bm (ab s.P 3 v22 h23) h23 fun v24 h25=>
 bp (bL (xX s 148 wl k rd) false true c [v24,j] h25) fun v26 h27=>
 bm (vUn .not v26) h27 fun v28 h29=>
 cnd v28 (
 K .ret ⟨[c,d,g,j,l,q,v24,o,e,u,r,z,A,B,F,D,E,G,v20,v22,v24,c,v24,j,v26,v28,U,T],h29⟩) (
 bm (aw s.P .add 3 G (.lit (.int .i64 1))) h29 fun v30 h31=>
 itX (xX s 148 wl k rd) uI n0 K n ⟨[(V.kill n0 c),(V.kill n0 d),(V.kill n0 g),(V.kill n0 j),(V.kill n0 l),(V.kill n0 q),(V.kill n0 v24),(V.kill n0 o),(V.kill n0 e),(V.kill n0 u),(V.kill n0 r),(V.kill n0 z),(V.kill n0 A),(V.kill n0 B),(V.kill n0 F),(V.kill n0 D),(V.kill n0 E),(V.kill n0 v30),.junk,.junk,.junk,.junk,.junk,.junk,.junk,.junk,.junk,(V.kill n0 T)],bW n0 h31⟩)) (
 K (.exit 2) ⟨[(V.kill n0 c),(V.kill n0 d),(V.kill n0 g),(V.kill n0 j),(V.kill n0 l),(V.kill n0 q),(V.kill n0 p),(V.kill n0 o),(V.kill n0 e),(V.kill n0 u),(V.kill n0 r),(V.kill n0 z),(V.kill n0 A),(V.kill n0 B),(V.kill n0 F),(V.kill n0 D),(V.kill n0 E),.junk,.junk,.junk,.junk,.junk,.junk,.junk,.junk,.junk,.junk,(V.kill n0 T)],bW n0 h21⟩):=kI
theorem nL (s:Sys) (K:Out→St→Option (V×Hp)) (k wl:Nat) (rd:Bool) (n n0:Nat) (h:Hp):au (xX s 148 wl k rd) (eO (xX s 148 wl k rd) kd n0 K n) wS (.exit 2) ⟨[c,d,g,j,l,q,p,o,e,u,r,z,A,B,F,D,E,G,I,L,N,M,J,O,R,Q,U,T],h⟩ =
 bm (aw s.P .add 3 u (.lit (.int .i64 1))) h fun v32 h33=>
 itX (xX s 148 wl k rd) kd n0 K n ⟨[(V.kill n0 c),(V.kill n0 d),(V.kill n0 g),(V.kill n0 j),(V.kill n0 l),(V.kill n0 q),(V.kill n0 p),(V.kill n0 o),(V.kill n0 e),(V.kill n0 v32),.junk,.junk,.junk,.junk,.junk,.junk,.junk,.junk,.junk,.junk,.junk,.junk,.junk,.junk,.junk,.junk,.junk,.junk],bW n0 h33⟩:=kR
theorem fG (cx:Cx) (K:Out→St→Option (V×Hp)) (s:St):au cx K ma .ret s=K .ret s:=by kernel_rfl
theorem fJ (cx:Cx) (K:Out→St→Option (V×Hp)) (s:St):au cx K wS .ret s=K .ret s:=by kernel_rfl
-- names: Ff,F2,Fq,nP,Fd,nL,fG,fJ
noncomputable def GK:Code:=al (am Tryz.f97) [1,0,1,0,0]
noncomputable def G4:List Fr:=[.block 0,.seq (al (am Tryz.f97) [1,1])]
theorem ZA (h:Hp):ak (xX s 97 wl k false) Tryz.f97 [c,d] h =
 bp (bc s.P 53 c h) fun v1 h2=>
 yI s k wl 97 Tryz.f97 GK h2.length G4 k ⟨[(V.kill h2.length c),(V.kill h2.length d),(V.kill h2.length uu),(V.kill h2.length uu),(.lit (.int .i64 0)),(V.kill h2.length uu),(V.kill h2.length c),(V.kill h2.length v1),(.lit (.int .i64 0)),.junk,.junk,.junk,.junk,.junk,.junk,.junk,.junk,.junk,.junk],bW h2.length h2⟩:=kB
theorem ab8 (k wl:Nat) (h:Hp):evF Tryz.prog xM (k+1) wl 97 [c,d] h=ak (xX (xS k) 97 wl k false) Tryz.f97 [c,d] h:=by kernel_rfl
theorem Z1 (P:Program) (h:Hp):ao P Tryz.f97 .ret ⟨[c,d,g,j,l,q,p,o,e,u,r,z,A,B,F,D,E,G,I],h⟩=some (l,h):=by kernel_rfl
theorem Ru (s:Sys) (K:Out→St→Option (V×Hp)) (k wl:Nat) (rd:Bool) (n n0:Nat) (h:Hp):itX (xX s 97 wl k rd) GK n0 K (n+1) ⟨[c,d,g,j,l,q,p,o,e,u,r,z,A,B,F,D,E,G,I],h⟩ =
 bm (aw s.P .lss 3 e o) h fun v3 h4=>
 cnd v3 (
 bm (aj s.P 53 c e h4) h4 fun v5 h6=>
 bm (ab s.P 3 v5 h6) h6 fun v7 h8=>
 bp (bL (xX s 97 wl k rd) false true d [v7] h8) fun v9 h10=>
 cnd v9 (
 K .ret ⟨[c,d,g,j,e,e,p,o,e,v3,e,d,c,e,v5,v7,v9,e,I],h10⟩) (
 bm (aw s.P .add 3 e (.lit (.int .i64 1))) h10 fun v11 h12=>
 itX (xX s 97 wl k rd) GK n0 K n ⟨[(V.kill n0 c),(V.kill n0 d),(V.kill n0 g),(V.kill n0 j),(V.kill n0 l),(V.kill n0 e),(V.kill n0 p),(V.kill n0 o),(V.kill n0 v11),.junk,.junk,.junk,.junk,.junk,.junk,.junk,.junk,.junk,.junk],bW n0 h12⟩)) (
 K (.exit 0) ⟨[(V.kill n0 c),(V.kill n0 d),(V.kill n0 g),(V.kill n0 j),(V.kill n0 l),(V.kill n0 q),(V.kill n0 p),(V.kill n0 o),.junk,.junk,.junk,.junk,.junk,.junk,.junk,.junk,.junk,.junk,.junk],bW n0 h4⟩):=kI
theorem D0 (h:Hp):au (xX s 97 wl k false) (ao s.P Tryz.f97) G4 (.exit 0) ⟨[c,d,g,j,l,q,p,o,e,u,r,z,A,B,F,D,E,G,I],h⟩ =
 some ((.lit (.int .i64 (-1))),h):=kR
theorem lz (cx:Cx) (K:Out→St→Option (V×Hp)) (s:St):au cx K G4 .ret s=K .ret s:=by kernel_rfl
-- names: ZA,Z1,Ru,D0,lz
theorem Y2 (h:Hp):ak (xX s 55 wl k false) Tryz.f55 [c,d] h =
 bp (yC s k wl 55 false true (.fn (.func 97) [] []) [c,d] h) fun v1 h2=>
 bm (aw s.P .geq 3 v1 (.lit (.int .i64 0))) h2 fun v3 h4=>
 some (v3,h4):=kB
theorem abV (k wl:Nat) (h:Hp):evF Tryz.prog xM (k+1) wl 55 [c,d] h=ak (xX (xS k) 55 wl k false) Tryz.f55 [c,d] h:=by kernel_rfl
-- names: Y2,
theorem M3 (h:Hp):ak (xX s 52 wl k false) Tryz.f52 [c,d] h =
 bp (yC s k wl 52 false true (.fn (.func 96) [] []) [c,d] h) fun v1 h2=>
 bm (aw s.P .geq 3 v1 (.lit (.int .i64 0))) h2 fun v3 h4=>
 some (v3,h4):=kB
theorem M6 (k wl:Nat) (h:Hp):evF Tryz.prog xM (k+1) wl 52 [c,d] h=ak (xX (xS k) 52 wl k false) Tryz.f52 [c,d] h:=by kernel_rfl
-- names: M3,
noncomputable def AK:Code:=al (am Tryz.f96) [1,0,1,0,0]
noncomputable def xV:List Fr:=[.block 0,.seq (al (am Tryz.f96) [1,1])]
theorem GD (h:Hp):ak (xX s 96 wl k false) Tryz.f96 [c,d] h =
 bp (bc s.P 28 c h) fun v1 h2=>
 yI s k wl 96 Tryz.f96 AK h2.length xV k ⟨[(V.kill h2.length c),(V.kill h2.length d),(V.kill h2.length uu),(V.kill h2.length uu),(.lit (.int .i64 0)),(V.kill h2.length uu),(V.kill h2.length c),(V.kill h2.length v1),(.lit (.int .i64 0)),.junk,.junk,.junk,.junk,.junk,.junk,.junk,.junk,.junk,.junk],bW h2.length h2⟩:=kB
theorem IS (k wl:Nat) (h:Hp):evF Tryz.prog xM (k+1) wl 96 [c,d] h=ak (xX (xS k) 96 wl k false) Tryz.f96 [c,d] h:=by kernel_rfl
theorem Gp (P:Program) (h:Hp):ao P Tryz.f96 .ret ⟨[c,d,g,j,l,q,p,o,e,u,r,z,A,B,F,D,E,G,I],h⟩=some (l,h):=by kernel_rfl
theorem Hr (s:Sys) (K:Out→St→Option (V×Hp)) (k wl:Nat) (rd:Bool) (n n0:Nat) (h:Hp):itX (xX s 96 wl k rd) AK n0 K (n+1) ⟨[c,d,g,j,l,q,p,o,e,u,r,z,A,B,F,D,E,G,I],h⟩ =
 bm (aw s.P .lss 3 e o) h fun v3 h4=>
 cnd v3 (
 bm (aj s.P 28 c e h4) h4 fun v5 h6=>
 bm (ab s.P 57 v5 h6) h6 fun v7 h8=>
 bp (bL (xX s 96 wl k rd) false true d [v7] h8) fun v9 h10=>
 cnd v9 (
 K .ret ⟨[c,d,g,j,e,e,p,o,e,v3,e,d,c,e,v5,v7,v9,e,I],h10⟩) (
 bm (aw s.P .add 3 e (.lit (.int .i64 1))) h10 fun v11 h12=>
 itX (xX s 96 wl k rd) AK n0 K n ⟨[(V.kill n0 c),(V.kill n0 d),(V.kill n0 g),(V.kill n0 j),(V.kill n0 l),(V.kill n0 e),(V.kill n0 p),(V.kill n0 o),(V.kill n0 v11),.junk,.junk,.junk,.junk,.junk,.junk,.junk,.junk,.junk,.junk],bW n0 h12⟩)) (
 K (.exit 0) ⟨[(V.kill n0 c),(V.kill n0 d),(V.kill n0 g),(V.kill n0 j),(V.kill n0 l),(V.kill n0 q),(V.kill n0 p),(V.kill n0 o),.junk,.junk,.junk,.junk,.junk,.junk,.junk,.junk,.junk,.junk,.junk],bW n0 h4⟩):=kI
theorem kP (h:Hp):au (xX s 96 wl k false) (ao s.P Tryz.f96) xV (.exit 0) ⟨[c,d,g,j,l,q,p,o,e,u,r,z,A,B,F,D,E,G,I],h⟩ =
 some ((.lit (.int .i64 (-1))),h):=kR
theorem cE (cx:Cx) (K:Out→St→Option (V×Hp)) (s:St):au cx K xV .ret s=K .ret s:=by kernel_rfl
-- names: GD,Gp,Hr,kP,cE
noncomputable def GH:Code:=al (am Tryz.f61) [1,0,1,0,0]
noncomputable def GR:List Fr:=[.block 0,.seq (al (am Tryz.f61) [1,1])]
theorem afu (h:Hp):ak (xX s 61 wl k false) Tryz.f61 [c,d] h =
 bp (bc s.P 53 c h) fun v1 h2=>
 yI s k wl 61 Tryz.f61 GH h2.length GR k ⟨[(V.kill h2.length c),(V.kill h2.length d),(V.kill h2.length uu),(V.kill h2.length uu),(.lit (.int .i64 0)),(V.kill h2.length uu),(V.kill h2.length c),(V.kill h2.length v1),(.lit (.int .i64 0)),.junk,.junk,.junk,.junk,.junk,.junk,.junk,.junk,.junk,.junk],bW h2.length h2⟩:=kB
theorem agN (k wl:Nat) (h:Hp):evF Tryz.prog xM (k+1) wl 61 [c,d] h=ak (xX (xS k) 61 wl k false) Tryz.f61 [c,d] h:=by kernel_rfl
theorem af8 (P:Program) (h:Hp):ao P Tryz.f61 .ret ⟨[c,d,g,j,l,q,p,o,e,u,r,z,A,B,F,D,E,G,I],h⟩=some (l,h):=by kernel_rfl
theorem So (s:Sys) (K:Out→St→Option (V×Hp)) (k wl:Nat) (rd:Bool) (n n0:Nat) (h:Hp):itX (xX s 61 wl k rd) GH n0 K (n+1) ⟨[c,d,g,j,l,q,p,o,e,u,r,z,A,B,F,D,E,G,I],h⟩ =
 bm (aw s.P .lss 3 e o) h fun v3 h4=>
 cnd v3 (
 bm (aj s.P 53 c e h4) h4 fun v5 h6=>
 bm (ab s.P 3 v5 h6) h6 fun v7 h8=>
 bm (aw s.P .eql 3 d v7) h8 fun v9 h10=>
 cnd v9 (
 K .ret ⟨[c,d,g,j,e,e,p,o,e,v3,e,d,c,e,v5,v7,v9,e,I],h10⟩) (
 bm (aw s.P .add 3 e (.lit (.int .i64 1))) h10 fun v11 h12=>
 itX (xX s 61 wl k rd) GH n0 K n ⟨[(V.kill n0 c),(V.kill n0 d),(V.kill n0 g),(V.kill n0 j),(V.kill n0 l),(V.kill n0 e),(V.kill n0 p),(V.kill n0 o),(V.kill n0 v11),.junk,.junk,.junk,.junk,.junk,.junk,.junk,.junk,.junk,.junk],bW n0 h12⟩)) (
 K (.exit 0) ⟨[(V.kill n0 c),(V.kill n0 d),(V.kill n0 g),(V.kill n0 j),(V.kill n0 l),(V.kill n0 q),(V.kill n0 p),(V.kill n0 o),.junk,.junk,.junk,.junk,.junk,.junk,.junk,.junk,.junk,.junk,.junk],bW n0 h4⟩):=kI
theorem LY (h:Hp):au (xX s 61 wl k false) (ao s.P Tryz.f61) GR (.exit 0) ⟨[c,d,g,j,l,q,p,o,e,u,r,z,A,B,F,D,E,G,I],h⟩ =
 some ((.lit (.int .i64 (-1))),h):=kR
theorem pP (cx:Cx) (K:Out→St→Option (V×Hp)) (s:St):au cx K GR .ret s=K .ret s:=by kernel_rfl
-- names: afu,af8,So,LY,pP
noncomputable def Mm:Code:=al (am Tryz.f101) [1,0,1,0,1,0]
noncomputable def wN:Code:=al (am Tryz.f101) [1,0,1,0,1,0,0]
noncomputable def ww:Code:=al (am Tryz.f101) [1,0,1,0,1,0,1]
noncomputable def rq:List Fr:=[.block 0,.seq (al (am Tryz.f101) [1,1])]
theorem pO:Mm = .rangeFunc (.tmp 10) #[11,12] wN ww:=by kernel_rfl
theorem QO (h:Hp):ak (xX s 101 wl k false) Tryz.f101 [c,d] h =
 bp (aN d h) fun v1 h2=>
 bp (av s.P 3 h2) fun v3 h4=>
 bp (yC s k wl 101 false true (.fn (.func 56) [] []) [c] h4) fun v5 h6=>
 cnd v5 (
 bp (yC s k wl 101 false true (.fn (.func 100) [] []) [c] h6) fun v7 h8=>
 ba (xX s 101 wl k false) Mm none (au (xX s 101 wl k false) (ao s.P Tryz.f101) rq) ⟨[c,d,uu,v1,v3,uu,uu,c,v5,c,v7,uu,uu,uu,uu,uu,uu],h8⟩) (
 bs (ai s.P wl 3 v3 (.lit (.int .i64 (-1))) h6) fun h9=>
 ef [ab s.P 3 v3 h9] h9):=kB
theorem Xg (k wl:Nat) (h:Hp):evF Tryz.prog xM (k+1) wl 101 [c,d] h=ak (xX (xS k) 101 wl k false) Tryz.f101 [c,d] h:=by kernel_rfl
theorem OO (P:Program) (h:Hp):ao P Tryz.f101 .ret ⟨[c,d,g,j,l,q,p,o,e,u,r,z,A,B,F,D,E],h⟩=ef [ab P 3 l h] h:=by kernel_rfl
theorem Ba (s:Sys) (k wl:Nat) (zz:List V) (h:Hp):au (xX s 101 wl k false) (ao s.P Tryz.f101) rq .norm ⟨(c::d::g::j::l::zz),h⟩ =
 bs (ai s.P wl 3 l (.lit (.int .i64 (-1))) h) fun h10=>
 ef [ab s.P 3 l h10] h10:=kR
theorem ea (s:Sys) (K:Out→St→Option (V×Hp)) (k wl:Nat) (rd:Bool) (h:Hp):au (xX s 101 wl k rd) K [.seq ww] .norm ⟨[c,d,g,j,l,q,p,o,e,u,r,z,A,B,F,D,E],h⟩ =
 bm (ab s.P 3 j h) h fun v11 h12=>
 bm (aw s.P .eql 3 q v11) h12 fun v13 h14=>
 cnd v13 (
 bs (ai s.P wl 3 l p h14) fun h15=>
 K .ret ⟨[c,d,g,j,l,q,p,o,e,u,r,z,A,q,v11,v13,p],h15⟩) (
 K .norm ⟨[c,d,g,j,l,q,p,o,e,u,r,z,A,q,v11,v13,E],h14⟩):=kR
theorem d9 (s:Sys) (K:Out→St→Option (V×Hp)) (k wl:Nat) (rd:Bool) (h:Hp):au (xX s 101 wl k rd) K [.seq wN] .norm ⟨[c,d,g,j,l,q,p,o,e,u,r,z,A,B,F,D,E],h⟩ =
 K .norm ⟨[c,d,g,j,l,z,A,o,e,u,r,z,A,B,F,D,E],h⟩:=kR
theorem mb (cx:Cx) (K:Out→St→Option (V×Hp)) (s:St):au cx K rq .ret s=K .ret s:=by kernel_rfl
-- names: QO,OO,Ba,ea,d9,mb
-- range over a function at [1,0,1,0,1,0]
end
end Go.Ab
set_option maxRecDepth 100000
set_option linter.unusedVariables false
namespace Go.Ab
open Go.Proofs
section
variable (s:Sys) (k wl:Nat) (m0:Nat) (ac:List Nat×List Nat) (c d e o g y p l j v r u z q A D E F B L G M N I O J Q R U W T t2 t3 t4 Y Z t0 t1 t7 t5 t8 t9 t6 X ta tb tc td te tf tg th ti tj:V)
noncomputable def Bi:Code:=al (am Tryz.f146) [1,0]
noncomputable def wH:List Fr:=[.seq (al (am Tryz.f146) [1,1])]
theorem TR (h:Hp):ak (xX s 146 wl k false) Tryz.f146 [c,d] h =
 bp (aN c h) fun v1 h2=>
 bm (ab s.P 24 v1 h2) h2 fun v3 h4=>
 bp (yC s k wl 146 false true (.fn (.func 56) [] []) [v3] h4) fun v5 h6=>
 gd v5 (
 bp (yC s k wl 146 false true (.fn (.func 170) [] []) [d,(.fn (.func 171) [] [v1])] h6) fun v7 h8=>
 bm (vUn .not v7) h8 fun v9 h10=>
 yO s k wl 146 Tryz.f146 Bi 7 h2.length ([],[]) wH ⟨[c,d,v1,uu,(.lit (.bool false)),v3,v5,(.lit (.bool true)),d,(.fn (.func 171) [] [v1]),v7,v9,uu],h10⟩) (
 yO s k wl 146 Tryz.f146 Bi 7 h2.length ([],[]) wH ⟨[c,d,v1,uu,(.lit (.bool false)),v3,v5,(.lit (.bool false)),uu,uu,uu,uu,uu],h6⟩) (
 yO s k wl 146 Tryz.f146 Bi 4 h2.length ([],[]) wH ⟨[c,d,v1,uu,(.lit (.bool false)),v3,v5,v5,uu,uu,uu,uu,uu],h6⟩):=kB
theorem Y8 (k wl:Nat) (h:Hp):evF Tryz.prog xM (k+1) wl 146 [c,d] h=ak (xX (xS k) 146 wl k false) Tryz.f146 [c,d] h:=by kernel_rfl
theorem FI (h:Hp):yO s k wl 146 Tryz.f146 Bi 7 m0 ac wH ⟨[c,d,e,o,g,y,p,l,j,v,r,u,z],h⟩ =
 bm (aQ l u (.lit (.bool false))) h fun v11 h12=>
 some (v11,h12):=kG
theorem ny (cx:Cx) (K:Out→St→Option (V×Hp)) (s:St):au cx K wH .ret s=K .ret s:=by kernel_rfl
-- names: TR,FI,ny
noncomputable def Ca:Code:=al (am Tryz.f162) [1,0,0]
noncomputable def xb:List Fr:=[.seq (al (am Tryz.f162) [1,0,1]),.seq (al (am Tryz.f162) [1,1])]
theorem Zv (h:Hp):ak (xX s 162 wl k false) Tryz.f162 [c,d] h =
 bp (av s.P 194 h) fun v1 h2=>
 bp (bc s.P 63 d h2) fun v3 h4=>
 bm (aw s.P .eql 3 v3 (.lit (.int .i64 0))) h4 fun v5 h6=>
 gd v5 (
 yO s k wl 162 Tryz.f162 Ca 8 h2.length ([],[]) xb ⟨[c,d,uu,uu,v1,uu,uu,d,v3,v5,(.lit (.bool true)),uu,uu,uu,uu,uu,uu,uu,uu,uu,uu,uu,uu,uu,uu,uu,uu,uu,uu,uu,uu,uu,uu,uu,uu,uu,uu,uu,uu,uu,uu,uu,uu,uu,uu,uu,uu,uu,uu,uu,uu,uu,uu,uu],h6⟩) (
 bp (yC s k wl 162 false true (.fn (.func 146) [] []) [c,d] h6) fun v7 h8=>
 bm (vUn .not v7) h8 fun v9 h10=>
 yO s k wl 162 Tryz.f162 Ca 8 h2.length ([],[]) xb ⟨[c,d,uu,uu,v1,uu,uu,d,v3,v5,(.lit (.bool false)),c,d,v7,v9,uu,uu,uu,uu,uu,uu,uu,uu,uu,uu,uu,uu,uu,uu,uu,uu,uu,uu,uu,uu,uu,uu,uu,uu,uu,uu,uu,uu,uu,uu,uu,uu,uu,uu,uu,uu,uu,uu,uu],h10⟩) (
 yO s k wl 162 Tryz.f162 Ca 5 h2.length ([],[]) xb ⟨[c,d,uu,uu,v1,uu,uu,d,v3,v5,v5,uu,uu,uu,uu,uu,uu,uu,uu,uu,uu,uu,uu,uu,uu,uu,uu,uu,uu,uu,uu,uu,uu,uu,uu,uu,uu,uu,uu,uu,uu,uu,uu,uu,uu,uu,uu,uu,uu,uu,uu,uu,uu,uu],h6⟩):=kB
theorem ac2 (k wl:Nat) (h:Hp):evF Tryz.prog xM (k+1) wl 162 [c,d] h=ak (xX (xS k) 162 wl k false) Tryz.f162 [c,d] h:=by kernel_rfl
theorem Lr (h:Hp):yO s k wl 162 Tryz.f162 Ca 8 m0 ac xb ⟨[c,d,e,o,g,y,p,l,j,v,r,u,z,q,A,D,E,F,B,L,G,M,N,I,O,J,Q,R,U,W,T,t2,t3,t4,Y,Z,t0,t1,t7,t5,t8,t9,t6,X,ta,tb,tc,td,te,tf,tg,th,ti,tj],h⟩ =
 bm (aQ r (.lit (.bool true)) A) h fun v11 h12=>
 cnd v11 (
 bm (a8 s.P 194 []) h12 fun v13 h14=>
 bs (ai s.P wl 194 g v13 h14) fun h15=>
 ef [ab s.P 194 g h15] h15) (
 bp (bc s.P 63 d h12) fun v16 h17=>
 bm (aw s.P .sub 3 v16 (.lit (.int .i64 1))) h17 fun v18 h19=>
 bm (aj s.P 63 d v18 h19) h19 fun v20 h21=>
 bm (ab s.P 129 v20 h21) h21 fun v22 h23=>
 bp (av s.P 129 h23) fun v24 h25=>
 bs (ai s.P wl 129 v24 v22 h25) fun h26=>
 bm (aa s.P 129 v24 0) h26 fun v27 h28=>
 bm (ab s.P 3 v27 h28) h28 fun v29 h30=>
 bm (aj s.P 24 c v29 h30) h30 fun v31 h32=>
 bm (ab s.P 101 v31 h32) h32 fun v33 h34=>
 bp (av s.P 101 h34) fun v35 h36=>
 bs (ai s.P wl 101 v35 v33 h36) fun h37=>
 bm (aa s.P 129 v24 1) h37 fun v38 h39=>
 bm (ab s.P 3 v38 h39) h39 fun v40 h41=>
 bm (aa s.P 101 v35 0) h41 fun v42 h43=>
 bm (ab s.P 3 v42 h43) h43 fun v44 h45=>
 bm (aw s.P .lss 3 v40 v44) h45 fun v46 h47=>
 cnd v46 (
 bm (aa s.P 129 v24 0) h47 fun v48 h49=>
 bm (ab s.P 3 v48 h49) h49 fun v50 h51=>
 bm (a8 s.P 194 [(0,(.lit (.int .i64 1))),(1,v50)]) h51 fun v52 h53=>
 bs (ai s.P wl 194 g v52 h53) fun h54=>
 ef [ab s.P 194 g h54] h54) (
 bm (aa s.P 129 v24 2) h47 fun v55 h56=>
 bm (ab s.P 3 v55 h56) h56 fun v57 h58=>
 bm (aa s.P 101 v35 1) h58 fun v59 h60=>
 bm (ab s.P 53 v59 h60) h60 fun v61 h62=>
 bp (bc s.P 53 v61 h62) fun v63 h64=>
 bm (aw s.P .lss 3 v57 v63) h64 fun v65 h66=>
 cnd v65 (
 bm (aa s.P 101 v35 1) h66 fun v67 h68=>
 bm (ab s.P 53 v67 h68) h68 fun v69 h70=>
 bm (aa s.P 129 v24 2) h70 fun v71 h72=>
 bm (ab s.P 3 v71 h72) h72 fun v73 h74=>
 bm (aj s.P 53 v69 v73 h74) h74 fun v75 h76=>
 bm (ab s.P 3 v75 h76) h76 fun v77 h78=>
 bm (a8 s.P 194 [(0,(.lit (.int .i64 2))),(1,v77)]) h78 fun v79 h80=>
 bs (ai s.P wl 194 g v79 h80) fun h81=>
 ef [ab s.P 194 g h81] h81) (
 bm (aa s.P 129 v24 0) h66 fun v82 h83=>
 bm (ab s.P 3 v82 h83) h83 fun v84 h85=>
 bm (a8 s.P 194 [(0,(.lit (.int .i64 3))),(1,v84)]) h85 fun v86 h87=>
 bs (ai s.P wl 194 g v86 h87) fun h88=>
 ef [ab s.P 194 g h88] h88))):=kG
theorem uL (cx:Cx) (K:Out→St→Option (V×Hp)) (s:St):au cx K xb .ret s=K .ret s:=by kernel_rfl
-- names: Zv,Lr,uL
theorem YH (h:Hp):ak (xX s 163 wl k false) Tryz.f163 [c,d] h =
 bp (some (.own h.length 0 0,h++[.rows 0 [] 0 true])) fun v1 h2=>
 bp (yC s k wl 163 false true (.fn (.func 79) [] []) [d] h2) fun v3 h4=>
 bp (yC s k wl 163 false true (.fn (.func 182) [] []) [] h4) fun v5 h6=>
 bp (yC s k wl 163 false true (.fn (.func 162) [] []) [c,d] h6) fun v7 h8=>
 bm (wW s.P 194 v7 0) h8 fun v9 h10=>
 bm (gk s.P 201 v5 v9 true h10) h10 fun v11 h12=>
 bm (aq v11 0) h12 fun v13 h14=>
 bm (aq v11 1) h14 fun v15 h16=>
 cnd v15 (
 bp (yC s k wl 163 false true v13 [v3] h16) fun v17 h18=>
 some (v17,h18)) (
 some (v3,h16)):=kB
theorem af1 (k wl:Nat) (h:Hp):evF Tryz.prog xM (k+1) wl 163 [c,d] h=ak (xX (xS k) 163 wl k false) Tryz.f163 [c,d] h:=by kernel_rfl
-- names: YH,
theorem UY (h:Hp):ak (xX s 170 wl k false) Tryz.f170 [c,d] h =
 bp (yC s k wl 170 false true (.fn (.func 206) [] []) [c,d] h) fun v1 h2=>
 bm (aw s.P .geq 3 v1 (.lit (.int .i64 0))) h2 fun v3 h4=>
 some (v3,h4):=kB
theorem X1 (k wl:Nat) (h:Hp):evF Tryz.prog xM (k+1) wl 170 [c,d] h=ak (xX (xS k) 170 wl k false) Tryz.f170 [c,d] h:=by kernel_rfl
-- names: UY,
noncomputable def cO:Code:=al (am Tryz.f171) [1,1,1,0]
noncomputable def cI:List Fr:=[.seq (al (am Tryz.f171) [1,1,1,1])]
theorem UN (h:Hp):ak (xX s 171 wl k false) Tryz.f171 [c,d] h =
 bp (aN c h) fun v1 h2=>
 bm (aa s.P 129 v1 0) h2 fun v3 h4=>
 bm (ab s.P 3 v3 h4) h4 fun v5 h6=>
 bm (ab s.P 24 d h6) h6 fun v7 h8=>
 bp (bc s.P 24 v7 h8) fun v9 h10=>
 bm (aw s.P .sub 3 v9 (.lit (.int .i64 1))) h10 fun v11 h12=>
 bp (yC s k wl 171 false true (.fn (.func 172) [] []) [v5,v11] h12) fun v13 h14=>
 bm (vUn .not v13) h14 fun v15 h16=>
 cnd v15 (
 some ((.lit (.bool true)),h16)) (
 bm (ab s.P 24 d h16) h16 fun v17 h18=>
 bm (aa s.P 129 v1 0) h18 fun v19 h20=>
 bm (ab s.P 3 v19 h20) h20 fun v21 h22=>
 bm (aj s.P 24 v17 v21 h22) h22 fun v23 h24=>
 bm (ab s.P 101 v23 h24) h24 fun v25 h26=>
 bp (av s.P 101 h26) fun v27 h28=>
 bs (ai s.P wl 101 v27 v25 h28) fun h29=>
 bm (aa s.P 129 v1 1) h29 fun v30 h31=>
 bm (ab s.P 3 v30 h31) h31 fun v32 h33=>
 bm (aa s.P 101 v27 0) h33 fun v34 h35=>
 bm (ab s.P 3 v34 h35) h35 fun v36 h37=>
 bp (yC s k wl 171 false true (.fn (.func 172) [] []) [v32,v36] h37) fun v38 h39=>
 bm (vUn .not v38) h39 fun v40 h41=>
 gd v40 (
 yO s k wl 171 Tryz.f171 cO 14 h29.length ([],[]) cI ⟨[c,d,v1,(.lit (.bool false)),v27,v3,v5,v7,v9,v11,v13,v15,v17,v19,v21,v23,v25,v30,v32,v34,v36,v38,v40,(.lit (.bool true)),uu,uu,uu,uu,uu,uu,uu,uu,uu,uu,uu,uu,uu,uu,uu,uu,uu,uu,uu,uu],h41⟩) (
 bm (aa s.P 129 v1 2) h41 fun v42 h43=>
 bm (ab s.P 3 v42 h43) h43 fun v44 h45=>
 bm (aa s.P 101 v27 1) h45 fun v46 h47=>
 bm (ab s.P 53 v46 h47) h47 fun v48 h49=>
 bp (bc s.P 53 v48 h49) fun v50 h51=>
 bp (yC s k wl 171 false true (.fn (.func 172) [] []) [v44,v50] h51) fun v52 h53=>
 bm (vUn .not v52) h53 fun v54 h55=>
 yO s k wl 171 Tryz.f171 cO 14 h29.length ([],[]) cI ⟨[c,d,v1,(.lit (.bool false)),v27,v3,v5,v7,v9,v11,v13,v15,v17,v19,v21,v23,v25,v30,v32,v34,v36,v38,v40,(.lit (.bool false)),v42,v44,v46,v48,v50,v52,v54,uu,uu,uu,uu,uu,uu,uu,uu,uu,uu,uu,uu,uu],h55⟩) (
 yO s k wl 171 Tryz.f171 cO 8 h29.length ([],[]) cI ⟨[c,d,v1,(.lit (.bool false)),v27,v3,v5,v7,v9,v11,v13,v15,v17,v19,v21,v23,v25,v30,v32,v34,v36,v38,v40,v40,uu,uu,uu,uu,uu,uu,uu,uu,uu,uu,uu,uu,uu,uu,uu,uu,uu,uu,uu,uu],h41⟩)):=kB
theorem aad (k wl:Nat) (h:Hp):evF Tryz.prog xM (k+1) wl 171 [c,d] h=ak (xX (xS k) 171 wl k false) Tryz.f171 [c,d] h:=by kernel_rfl
theorem EG (h:Hp):yO s k wl 171 Tryz.f171 cO 14 m0 ac cI ⟨[c,d,e,o,g,y,p,l,j,v,r,u,z,q,A,D,E,F,B,L,G,M,N,I,O,J,Q,R,U,W,T,t2,t3,t4,Y,Z,t0,t1,t7,t5,t8,t9,t6,X],h⟩ =
 bm (aQ I (.lit (.bool true)) T) h fun v56 h57=>
 gd v56 (
 yO s k wl 171 Tryz.f171 cO 26 m0 ac cI ⟨[c,d,e,o,g,y,p,l,j,v,r,u,z,q,A,D,E,F,B,L,G,M,N,I,O,J,Q,R,U,W,T,v56,(.lit (.bool true)),uu,uu,uu,uu,uu,uu,uu,uu,uu,uu,X],h57⟩) (
 bm (aa s.P 129 e 1) h57 fun v58 h59=>
 bm (ab s.P 3 v58 h59) h59 fun v60 h61=>
 bm (aa s.P 101 g 0) h61 fun v62 h63=>
 bm (ab s.P 3 v62 h63) h63 fun v64 h65=>
 bm (aw s.P .lss 3 v60 v64) h65 fun v66 h67=>
 yO s k wl 171 Tryz.f171 cO 22 m0 ac cI ⟨[c,d,e,o,g,y,p,l,j,v,r,u,z,q,A,D,E,F,B,L,G,M,N,I,O,J,Q,R,U,W,T,v56,(.lit (.bool false)),v58,v60,v62,v64,v66,v66,t5,t8,t9,t6,X],h67⟩) (
 yO s k wl 171 Tryz.f171 cO 17 m0 ac cI ⟨[c,d,e,o,g,y,p,l,j,v,r,u,z,q,A,D,E,F,B,L,G,M,N,I,O,J,Q,R,U,W,T,v56,v56,uu,Y,Z,t0,t1,t7,t5,t8,t9,t6,X],h57⟩):=kG
theorem FH (h:Hp):yO s k wl 171 Tryz.f171 cO 26 m0 ac cI ⟨[c,d,e,o,g,y,p,l,j,v,r,u,z,q,A,D,E,F,B,L,G,M,N,I,O,J,Q,R,U,W,T,t2,t3,t4,Y,Z,t0,t1,t7,t5,t8,t9,t6,X],h⟩ =
 bm (aQ t3 (.lit (.bool true)) t6) h fun v68 h69=>
 some (v68,h69):=kG
theorem Fi (h:Hp):yO s k wl 171 Tryz.f171 cO 22 m0 ac cI ⟨[c,d,e,o,g,y,p,l,j,v,r,u,z,q,A,D,E,F,B,L,G,M,N,I,O,J,Q,R,U,W,T,t2,t3,t4,Y,Z,t0,t1,t7,t5,t8,t9,t6,X],h⟩ =
 gd t7 (
 bm (aa s.P 129 e 2) h fun v70 h71=>
 bm (ab s.P 3 v70 h71) h71 fun v72 h73=>
 bm (aw s.P .gtr 3 v72 (.lit (.int .i64 0))) h73 fun v74 h75=>
 yO s k wl 171 Tryz.f171 cO 25 m0 ac cI ⟨[c,d,e,o,g,y,p,l,j,v,r,u,z,q,A,D,E,F,B,L,G,M,N,I,O,J,Q,R,U,W,T,t2,t3,t4,Y,Z,t0,t1,(.lit (.bool true)),v70,v72,v74,t6,X],h75⟩) (
 yO s k wl 171 Tryz.f171 cO 25 m0 ac cI ⟨[c,d,e,o,g,y,p,l,j,v,r,u,z,q,A,D,E,F,B,L,G,M,N,I,O,J,Q,R,U,W,T,t2,t3,t4,Y,Z,t0,t1,(.lit (.bool false)),uu,uu,uu,t6,X],h⟩) (
 yO s k wl 171 Tryz.f171 cO 23 m0 ac cI ⟨[c,d,e,o,g,y,p,l,j,v,r,u,z,q,A,D,E,F,B,L,G,M,N,I,O,J,Q,R,U,W,T,t2,t3,t4,Y,Z,t0,t1,t7,uu,t8,t9,t6,X],h⟩):=kG
theorem FE (h:Hp):yO s k wl 171 Tryz.f171 cO 25 m0 ac cI ⟨[c,d,e,o,g,y,p,l,j,v,r,u,z,q,A,D,E,F,B,L,G,M,N,I,O,J,Q,R,U,W,T,t2,t3,t4,Y,Z,t0,t1,t7,t5,t8,t9,t6,X],h⟩ =
 gd t3 (
 yO s k wl 171 Tryz.f171 cO 26 m0 ac cI ⟨[c,d,e,o,g,y,p,l,j,v,r,u,z,q,A,D,E,F,B,L,G,M,N,I,O,J,Q,R,U,W,T,t2,(.lit (.bool true)),t4,Y,Z,t0,t1,t7,t5,t8,t9,uu,X],h⟩) (
 bm (aQ t7 t9 (.lit (.bool false))) h fun v76 h77=>
 yO s k wl 171 Tryz.f171 cO 26 m0 ac cI ⟨[c,d,e,o,g,y,p,l,j,v,r,u,z,q,A,D,E,F,B,L,G,M,N,I,O,J,Q,R,U,W,T,t2,(.lit (.bool false)),t4,Y,Z,t0,t1,t7,t5,t8,t9,v76,X],h77⟩) (
 yO s k wl 171 Tryz.f171 cO 26 m0 ac cI ⟨[c,d,e,o,g,y,p,l,j,v,r,u,z,q,A,D,E,F,B,L,G,M,N,I,O,J,Q,R,U,W,T,t2,t3,t4,Y,Z,t0,t1,t7,t5,t8,t9,uu,X],h⟩):=kG
theorem EQ (h:Hp):yO s k wl 171 Tryz.f171 cO 23 m0 ac cI ⟨[c,d,e,o,g,y,p,l,j,v,r,u,z,q,A,D,E,F,B,L,G,M,N,I,O,J,Q,R,U,W,T,t2,t3,t4,Y,Z,t0,t1,t7,t5,t8,t9,t6,X],h⟩ =
 gd t7 (
 bm (ab s.P 3 t5 h) h fun v78 h79=>
 bm (aw s.P .gtr 3 v78 (.lit (.int .i64 0))) h79 fun v80 h81=>
 yO s k wl 171 Tryz.f171 cO 25 m0 ac cI ⟨[c,d,e,o,g,y,p,l,j,v,r,u,z,q,A,D,E,F,B,L,G,M,N,I,O,J,Q,R,U,W,T,t2,t3,t4,Y,Z,t0,t1,(.lit (.bool true)),t5,v78,v80,t6,X],h81⟩) (
 yO s k wl 171 Tryz.f171 cO 25 m0 ac cI ⟨[c,d,e,o,g,y,p,l,j,v,r,u,z,q,A,D,E,F,B,L,G,M,N,I,O,J,Q,R,U,W,T,t2,t3,t4,Y,Z,t0,t1,(.lit (.bool false)),t5,uu,uu,t6,X],h⟩) (
 yO s k wl 171 Tryz.f171 cO 24 m0 ac cI ⟨[c,d,e,o,g,y,p,l,j,v,r,u,z,q,A,D,E,F,B,L,G,M,N,I,O,J,Q,R,U,W,T,t2,t3,t4,Y,Z,t0,t1,t7,t5,uu,t9,t6,X],h⟩):=kG
theorem Et (h:Hp):yO s k wl 171 Tryz.f171 cO 24 m0 ac cI ⟨[c,d,e,o,g,y,p,l,j,v,r,u,z,q,A,D,E,F,B,L,G,M,N,I,O,J,Q,R,U,W,T,t2,t3,t4,Y,Z,t0,t1,t7,t5,t8,t9,t6,X],h⟩ =
 gd t7 (
 bm (aw s.P .gtr 3 t8 (.lit (.int .i64 0))) h fun v82 h83=>
 yO s k wl 171 Tryz.f171 cO 25 m0 ac cI ⟨[c,d,e,o,g,y,p,l,j,v,r,u,z,q,A,D,E,F,B,L,G,M,N,I,O,J,Q,R,U,W,T,t2,t3,t4,Y,Z,t0,t1,(.lit (.bool true)),t5,t8,v82,t6,X],h83⟩) (
 yO s k wl 171 Tryz.f171 cO 25 m0 ac cI ⟨[c,d,e,o,g,y,p,l,j,v,r,u,z,q,A,D,E,F,B,L,G,M,N,I,O,J,Q,R,U,W,T,t2,t3,t4,Y,Z,t0,t1,(.lit (.bool false)),t5,t8,uu,t6,X],h⟩) (
 yO s k wl 171 Tryz.f171 cO 25 m0 ac cI ⟨[c,d,e,o,g,y,p,l,j,v,r,u,z,q,A,D,E,F,B,L,G,M,N,I,O,J,Q,R,U,W,T,t2,t3,t4,Y,Z,t0,t1,t7,t5,t8,uu,t6,X],h⟩):=kG
theorem nC (cx:Cx) (K:Out→St→Option (V×Hp)) (s:St):au cx K cI .ret s=K .ret s:=by kernel_rfl
-- names: UN,EG,FH,Fi,FE,EQ,Et,nC
noncomputable def Bg:Code:=al (am Tryz.f172) [1,0]
noncomputable def wD:List Fr:=[.seq (al (am Tryz.f172) [1,1])]
theorem Yd (h:Hp):ak (xX s 172 wl k false) Tryz.f172 [c,d] h =
 bm (aw s.P .geq 3 c (.lit (.int .i64 0))) h fun v1 h2=>
 gd v1 (
 bm (aw s.P .leq 3 c d) h2 fun v3 h4=>
 yO s k wl 172 Tryz.f172 Bg 6 h.length ([],[]) wD ⟨[c,d,uu,uu,(.lit (.bool false)),c,v1,(.lit (.bool true)),c,d,v3,uu],h4⟩) (
 yO s k wl 172 Tryz.f172 Bg 6 h.length ([],[]) wD ⟨[c,d,uu,uu,(.lit (.bool false)),c,v1,(.lit (.bool false)),uu,uu,uu,uu],h2⟩) (
 yO s k wl 172 Tryz.f172 Bg 4 h.length ([],[]) wD ⟨[c,d,uu,uu,(.lit (.bool false)),c,v1,v1,uu,uu,uu,uu],h2⟩):=kB
theorem afx (k wl:Nat) (h:Hp):evF Tryz.prog xM (k+1) wl 172 [c,d] h=ak (xX (xS k) 172 wl k false) Tryz.f172 [c,d] h:=by kernel_rfl
theorem Ml (h:Hp):yO s k wl 172 Tryz.f172 Bg 6 m0 ac wD ⟨[c,d,e,o,g,y,p,l,j,v,r,u],h⟩ =
 bm (aQ l r (.lit (.bool false))) h fun v5 h6=>
 some (v5,h6):=kG
theorem w9 (cx:Cx) (K:Out→St→Option (V×Hp)) (s:St):au cx K wD .ret s=K .ret s:=by kernel_rfl
-- names: Yd,Ml,w9
noncomputable def B4:Code:=al (am Tryz.f181) [1,1,0,0]
noncomputable def wY:List Fr:=[.seq (al (am Tryz.f181) [1,1,0,1]),.seq (al (am Tryz.f181) [1,1,1])]
theorem abl (h:Hp):ak (xX s 181 wl k false) Tryz.f181 [c,d,e] h =
 bp (some (.own h.length 0 0,h++[.rows 0 [] 0 true])) fun v1 h2=>
 bp (yC s k wl 181 false true (.fn (.func 79) [] []) [d] h2) fun v3 h4=>
 bp (yC s k wl 181 false true (.fn (.func 146) [] []) [c,d] h4) fun v5 h6=>
 bm (vUn .not v5) h6 fun v7 h8=>
 gd v7 (
 yO s k wl 181 Tryz.f181 B4 11 h4.length ([],[]) wY ⟨[c,d,e,uu,uu,uu,v1,v3,d,v3,c,d,v5,v7,(.lit (.bool true)),uu,uu,uu,uu,uu,uu,uu,uu,uu,uu,uu,uu,uu],h8⟩) (
 bp (bc s.P 24 c h8) fun v9 h10=>
 bm (aw s.P .sub 3 v9 (.lit (.int .i64 1))) h10 fun v11 h12=>
 bp (yC s k wl 181 false true (.fn (.func 172) [] []) [e,v11] h12) fun v13 h14=>
 bm (vUn .not v13) h14 fun v15 h16=>
 yO s k wl 181 Tryz.f181 B4 11 h4.length ([],[]) wY ⟨[c,d,e,uu,uu,uu,v1,v3,d,v3,c,d,v5,v7,(.lit (.bool false)),e,c,v9,v11,v13,v15,uu,uu,uu,uu,uu,uu,uu],h16⟩) (
 yO s k wl 181 Tryz.f181 B4 6 h4.length ([],[]) wY ⟨[c,d,e,uu,uu,uu,v1,v3,d,v3,c,d,v5,v7,v7,uu,uu,uu,uu,uu,uu,uu,uu,uu,uu,uu,uu,uu],h8⟩):=kB
theorem aga (k wl:Nat) (h:Hp):evF Tryz.prog xM (k+1) wl 181 [c,d,e] h=ak (xX (xS k) 181 wl k false) Tryz.f181 [c,d,e] h:=by kernel_rfl
theorem Mo (h:Hp):yO s k wl 181 Tryz.f181 B4 11 m0 ac wY ⟨[c,d,e,o,g,y,p,l,j,v,r,u,z,q,A,D,E,F,B,L,G,M,N,I,O,J,Q,R],h⟩ =
 bm (aQ A (.lit (.bool true)) G) h fun v17 h18=>
 cnd v17 (
 some (l,h18)) (
 bm (a8 s.P 129 [(0,e)]) h18 fun v19 h20=>
 bp (aA s.P wl 63 1 [(0,v19)] h20) fun v21 h22=>
 bp (kM s.P wl 63 63 l v21 h22) fun v23 h24=>
 some (v23,h24)):=kG
theorem wO (cx:Cx) (K:Out→St→Option (V×Hp)) (s:St):au cx K wY .ret s=K .ret s:=by kernel_rfl
-- names: abl,Mo,wO
theorem Yv (h:Hp):ak (xX s 182 wl k false) Tryz.f182 [] h =
 bp (some (.map h.length,h++[.map []])) fun v1 h2=>
 bs (eP s.P wl 201 v1 (.lit (.int .i64 1)) (.fn (.func 210) [] []) h2) fun h3=>
 bs (eP s.P wl 201 v1 (.lit (.int .i64 2)) (.fn (.func 211) [] []) h3) fun h4=>
 bs (eP s.P wl 201 v1 (.lit (.int .i64 3)) (.fn (.func 212) [] []) h4) fun h5=>
 some (v1,h5):=kB
theorem ac1 (k wl:Nat) (h:Hp):evF Tryz.prog xM (k+1) wl 182 [] h=ak (xX (xS k) 182 wl k false) Tryz.f182 [] h:=by kernel_rfl
-- names: Yv,
noncomputable def BT:Code:=al (am Tryz.f206) [1,0,1,0,0]
noncomputable def BF:List Fr:=[.block 0,.seq (al (am Tryz.f206) [1,1])]
theorem Te (h:Hp):ak (xX s 206 wl k false) Tryz.f206 [c,d] h =
 bp (bc s.P 63 c h) fun v1 h2=>
 yI s k wl 206 Tryz.f206 BT h2.length BF k ⟨[(V.kill h2.length c),(V.kill h2.length d),(V.kill h2.length uu),(V.kill h2.length uu),(.lit (.int .i64 0)),(V.kill h2.length uu),(V.kill h2.length c),(V.kill h2.length v1),(.lit (.int .i64 0)),.junk,.junk,.junk,.junk,.junk,.junk,.junk,.junk,.junk,.junk],bW h2.length h2⟩:=kB
theorem ZE (k wl:Nat) (h:Hp):evF Tryz.prog xM (k+1) wl 206 [c,d] h=ak (xX (xS k) 206 wl k false) Tryz.f206 [c,d] h:=by kernel_rfl
theorem Ts (P:Program) (h:Hp):ao P Tryz.f206 .ret ⟨[c,d,e,o,g,y,p,l,j,v,r,u,z,q,A,D,E,F,B],h⟩=some (g,h):=by kernel_rfl
theorem Lk (s:Sys) (K:Out→St→Option (V×Hp)) (k wl:Nat) (rd:Bool) (n n0:Nat) (h:Hp):itX (xX s 206 wl k rd) BT n0 K (n+1) ⟨[c,d,e,o,g,y,p,l,j,v,r,u,z,q,A,D,E,F,B],h⟩ =
 bm (aw s.P .lss 3 j l) h fun v3 h4=>
 cnd v3 (
 bm (aj s.P 63 c j h4) h4 fun v5 h6=>
 bm (ab s.P 129 v5 h6) h6 fun v7 h8=>
 bp (bL (xX s 206 wl k rd) false true d [v7] h8) fun v9 h10=>
 cnd v9 (
 K .ret ⟨[c,d,e,o,j,j,p,l,j,v3,j,d,c,j,v5,v7,v9,j,B],h10⟩) (
 bm (aw s.P .add 3 j (.lit (.int .i64 1))) h10 fun v11 h12=>
 itX (xX s 206 wl k rd) BT n0 K n ⟨[(V.kill n0 c),(V.kill n0 d),(V.kill n0 e),(V.kill n0 o),(V.kill n0 g),(V.kill n0 j),(V.kill n0 p),(V.kill n0 l),(V.kill n0 v11),.junk,.junk,.junk,.junk,.junk,.junk,.junk,.junk,.junk,.junk],bW n0 h12⟩)) (
 K (.exit 0) ⟨[(V.kill n0 c),(V.kill n0 d),(V.kill n0 e),(V.kill n0 o),(V.kill n0 g),(V.kill n0 y),(V.kill n0 p),(V.kill n0 l),.junk,.junk,.junk,.junk,.junk,.junk,.junk,.junk,.junk,.junk,.junk],bW n0 h4⟩):=kI
theorem E2 (h:Hp):au (xX s 206 wl k false) (ao s.P Tryz.f206) BF (.exit 0) ⟨[c,d,e,o,g,y,p,l,j,v,r,u,z,q,A,D,E,F,B],h⟩ =
 some ((.lit (.int .i64 (-1))),h):=kR
theorem oc (cx:Cx) (K:Out→St→Option (V×Hp)) (s:St):au cx K BF .ret s=K .ret s:=by kernel_rfl
-- names: Te,Ts,Lk,E2,oc
theorem abh (h:Hp):ak (xX s 210 wl k false) Tryz.f210 [c] h =
 bp (some (.own h.length 0 0,h++[.rows 0 [] 0 true])) fun v1 h2=>
 bp (bc s.P 63 c h2) fun v3 h4=>
 bm (aw s.P .sub 3 v3 (.lit (.int .i64 1))) h4 fun v5 h6=>
 bm (aj s.P 63 c v5 h6) h6 fun v7 h8=>
 bm (aa s.P 129 v7 1) h8 fun v9 h10=>
 bm (ab s.P 3 v9 h10) h10 fun v11 h12=>
 bm (aw s.P .add 3 v11 (.lit (.int .i64 1))) h12 fun v13 h14=>
 bm (aj s.P 63 c v5 h14) h14 fun v15 h16=>
 bm (aa s.P 129 v15 1) h16 fun v17 h18=>
 bs (ai s.P wl 3 v17 v13 h18) fun h19=>
 some (c,h19):=kB
theorem afj (k wl:Nat) (h:Hp):evF Tryz.prog xM (k+1) wl 210 [c] h=ak (xX (xS k) 210 wl k false) Tryz.f210 [c] h:=by kernel_rfl
-- names: abh,
theorem Yk (h:Hp):ak (xX s 211 wl k false) Tryz.f211 [c] h =
 bp (some (.own h.length 0 0,h++[.rows 0 [] 0 true])) fun v1 h2=>
 bp (bc s.P 63 c h2) fun v3 h4=>
 bm (aw s.P .sub 3 v3 (.lit (.int .i64 1))) h4 fun v5 h6=>
 bm (aj s.P 63 c v5 h6) h6 fun v7 h8=>
 bm (aa s.P 129 v7 2) h8 fun v9 h10=>
 bm (ab s.P 3 v9 h10) h10 fun v11 h12=>
 bm (aw s.P .add 3 v11 (.lit (.int .i64 1))) h12 fun v13 h14=>
 bm (aj s.P 63 c v5 h14) h14 fun v15 h16=>
 bm (aa s.P 129 v15 2) h16 fun v17 h18=>
 bs (ai s.P wl 3 v17 v13 h18) fun h19=>
 some (c,h19):=kB
theorem af7 (k wl:Nat) (h:Hp):evF Tryz.prog xM (k+1) wl 211 [c] h=ak (xX (xS k) 211 wl k false) Tryz.f211 [c] h:=by kernel_rfl
-- names: Yk,
theorem Zc (h:Hp):ak (xX s 212 wl k false) Tryz.f212 [c] h =
 bp (some (.own h.length 0 0,h++[.rows 0 [] 0 true])) fun v1 h2=>
 bp (bc s.P 63 c h2) fun v3 h4=>
 bm (aw s.P .sub 3 v3 (.lit (.int .i64 1))) h4 fun v5 h6=>
 bp (bR s.P wl false 63 c none (some v5) none h6) fun v7 h8=>
 some (v7,h8):=kB
theorem adT (k wl:Nat) (h:Hp):evF Tryz.prog xM (k+1) wl 212 [c] h=ak (xX (xS k) 212 wl k false) Tryz.f212 [c] h:=by kernel_rfl
-- names: Zc,
end
end Go.Ab
set_option maxRecDepth 100000
set_option linter.unusedVariables false
namespace Go.Ab
open Go.Proofs
section
variable (s:Sys) (k wl:Nat) (m0:Nat) (ac:List Nat×List Nat) (a b d e f o p g q j u l v n y A z E D F B L I M J G O N T R Q Z W t0 X Y U te t4 tf t5 t6 t7 t2 tg t8 th t9 ta tb tc td t3 t1:V)
noncomputable def dB:Code:=al (am Tryz.f85) [1,0]
noncomputable def du:List Fr:=[.seq (al (am Tryz.f85) [1,1])]
theorem ag5 (h:Hp):ak (xX s 85 wl k false) Tryz.f85 [a,b,d,e] h =
 bp (aN a h) fun v1 h2=>
 bp (aN e h2) fun v3 h4=>
 bm (ab s.P 23 v1 h4) h4 fun v5 h6=>
 bp (yC s k wl 85 false true (.fn (.func 50) [] []) [v5] h6) fun v7 h8=>
 gd v7 (
 bp (bc s.P 26 d h8) fun v9 h10=>
 bm (ab s.P 23 v1 h10) h10 fun v11 h12=>
 bp (yC s k wl 85 false true (.fn (.func 103) [] []) [v11] h12) fun v13 h14=>
 bm (aw s.P .eql 3 v9 v13) h14 fun v15 h16=>
 yO s k wl 85 Tryz.f85 dB 8 h4.length ([],[]) du ⟨[a,b,d,e,v1,uu,uu,v3,(.lit (.bool false)),v5,v7,(.lit (.bool true)),d,v9,v11,v13,v15,uu,uu,uu,uu,uu,uu,uu,uu,uu,uu,uu,uu,uu,uu,uu,uu,uu,uu,uu,uu,uu,uu,uu,uu,uu,uu,uu,uu,uu,uu,uu,uu,uu,uu,uu,uu,uu],h16⟩) (
 yO s k wl 85 Tryz.f85 dB 8 h4.length ([],[]) du ⟨[a,b,d,e,v1,uu,uu,v3,(.lit (.bool false)),v5,v7,(.lit (.bool false)),uu,uu,uu,uu,uu,uu,uu,uu,uu,uu,uu,uu,uu,uu,uu,uu,uu,uu,uu,uu,uu,uu,uu,uu,uu,uu,uu,uu,uu,uu,uu,uu,uu,uu,uu,uu,uu,uu,uu,uu,uu,uu],h8⟩) (
 yO s k wl 85 Tryz.f85 dB 4 h4.length ([],[]) du ⟨[a,b,d,e,v1,uu,uu,v3,(.lit (.bool false)),v5,v7,v7,uu,uu,uu,uu,uu,uu,uu,uu,uu,uu,uu,uu,uu,uu,uu,uu,uu,uu,uu,uu,uu,uu,uu,uu,uu,uu,uu,uu,uu,uu,uu,uu,uu,uu,uu,uu,uu,uu,uu,uu,uu,uu],h8⟩):=kB
theorem ahQ (k wl:Nat) (h:Hp):evF Tryz.prog xM (k+1) wl 85 [a,b,d,e] h=ak (xX (xS k) 85 wl k false) Tryz.f85 [a,b,d,e] h:=by kernel_rfl
theorem RS (zz:List V) (h:Hp):yO s k wl 85 Tryz.f85 dB 8 m0 ac du ⟨(a::b::d::e::f::o::p::g::q::j::u::l::v::n::y::A::z::E::D::F::B::zz),h⟩ =
 bm (aQ l z (.lit (.bool false))) h fun v17 h18=>
 gd v17 (
 bp (yC s k wl 85 false true (.fn (.func 56) [] []) [b] h18) fun v19 h20=>
 yO s k wl 85 Tryz.f85 dB 12 m0 ac du ⟨(a::b::d::e::f::o::p::g::q::j::u::l::v::n::y::A::z::v17::(.lit (.bool true))::b::v19::zz),h20⟩) (
 yO s k wl 85 Tryz.f85 dB 12 m0 ac du ⟨(a::b::d::e::f::o::p::g::q::j::u::l::v::n::y::A::z::v17::(.lit (.bool false))::uu::uu::zz),h18⟩) (
 yO s k wl 85 Tryz.f85 dB 11 m0 ac du ⟨(a::b::d::e::f::o::p::g::q::j::u::l::v::n::y::A::z::v17::v17::uu::B::zz),h18⟩):=kG
theorem SX (zz:List V) (h:Hp):yO s k wl 85 Tryz.f85 dB 12 m0 ac du ⟨(a::b::d::e::f::o::p::g::q::j::u::l::v::n::y::A::z::E::D::F::B::L::I::M::J::G::zz),h⟩ =
 bm (aQ D B (.lit (.bool false))) h fun v21 h22=>
 gd v21 (
 bm (aa s.P 57 g 0) h22 fun v23 h24=>
 bm (ab s.P 3 v23 h24) h24 fun v25 h26=>
 bm (aw s.P .geq 3 v25 (.lit (.int .i64 0))) h26 fun v27 h28=>
 yO s k wl 85 Tryz.f85 dB 17 m0 ac du ⟨(a::b::d::e::f::o::p::g::q::j::u::l::v::n::y::A::z::E::D::F::B::v21::(.lit (.bool true))::v23::v25::v27::zz),h28⟩) (
 yO s k wl 85 Tryz.f85 dB 17 m0 ac du ⟨(a::b::d::e::f::o::p::g::q::j::u::l::v::n::y::A::z::E::D::F::B::v21::(.lit (.bool false))::uu::uu::uu::zz),h22⟩) (
 yO s k wl 85 Tryz.f85 dB 15 m0 ac du ⟨(a::b::d::e::f::o::p::g::q::j::u::l::v::n::y::A::z::E::D::F::B::v21::v21::uu::J::G::zz),h22⟩):=kG
theorem SD (zz:List V) (h:Hp):yO s k wl 85 Tryz.f85 dB 17 m0 ac du ⟨(a::b::d::e::f::o::p::g::q::j::u::l::v::n::y::A::z::E::D::F::B::L::I::M::J::G::O::N::T::R::Q::zz),h⟩ =
 bm (aQ I G (.lit (.bool false))) h fun v29 h30=>
 gd v29 (
 bm (aa s.P 57 g 0) h30 fun v31 h32=>
 bm (ab s.P 3 v31 h32) h32 fun v33 h34=>
 bm (aw s.P .lss 3 v33 (.lit (.int .i64 6))) h34 fun v35 h36=>
 yO s k wl 85 Tryz.f85 dB 22 m0 ac du ⟨(a::b::d::e::f::o::p::g::q::j::u::l::v::n::y::A::z::E::D::F::B::L::I::M::J::G::v29::(.lit (.bool true))::v31::v33::v35::zz),h36⟩) (
 yO s k wl 85 Tryz.f85 dB 22 m0 ac du ⟨(a::b::d::e::f::o::p::g::q::j::u::l::v::n::y::A::z::E::D::F::B::L::I::M::J::G::v29::(.lit (.bool false))::uu::uu::uu::zz),h30⟩) (
 yO s k wl 85 Tryz.f85 dB 20 m0 ac du ⟨(a::b::d::e::f::o::p::g::q::j::u::l::v::n::y::A::z::E::D::F::B::L::I::M::J::G::v29::v29::uu::R::Q::zz),h30⟩):=kG
theorem SE (zz:List V) (h:Hp):yO s k wl 85 Tryz.f85 dB 22 m0 ac du ⟨(a::b::d::e::f::o::p::g::q::j::u::l::v::n::y::A::z::E::D::F::B::L::I::M::J::G::O::N::T::R::Q::Z::W::t0::X::Y::U::zz),h⟩ =
 bm (aQ N Q (.lit (.bool false))) h fun v37 h38=>
 gd v37 (
 bm (aa s.P 57 g 1) h38 fun v39 h40=>
 bm (ab s.P 53 v39 h40) h40 fun v41 h42=>
 bp (bc s.P 53 v41 h42) fun v43 h44=>
 bm (aw s.P .gtr 3 v43 (.lit (.int .i64 0))) h44 fun v45 h46=>
 yO s k wl 85 Tryz.f85 dB 28 m0 ac du ⟨(a::b::d::e::f::o::p::g::q::j::u::l::v::n::y::A::z::E::D::F::B::L::I::M::J::G::O::N::T::R::Q::v37::(.lit (.bool true))::v39::v41::v43::v45::zz),h46⟩) (
 yO s k wl 85 Tryz.f85 dB 28 m0 ac du ⟨(a::b::d::e::f::o::p::g::q::j::u::l::v::n::y::A::z::E::D::F::B::L::I::M::J::G::O::N::T::R::Q::v37::(.lit (.bool false))::uu::uu::uu::uu::zz),h38⟩) (
 yO s k wl 85 Tryz.f85 dB 25 m0 ac du ⟨(a::b::d::e::f::o::p::g::q::j::u::l::v::n::y::A::z::E::D::F::B::L::I::M::J::G::O::N::T::R::Q::v37::v37::uu::X::Y::U::zz),h38⟩):=kG
theorem Sv (h:Hp):yO s k wl 85 Tryz.f85 dB 28 m0 ac du ⟨[a,b,d,e,f,o,p,g,q,j,u,l,v,n,y,A,z,E,D,F,B,L,I,M,J,G,O,N,T,R,Q,Z,W,t0,X,Y,U,te,t4,tf,t5,t6,t7,t2,tg,t8,th,t9,ta,tb,tc,td,t3,t1],h⟩ =
 bm (aQ W U (.lit (.bool false))) h fun v47 h48=>
 gd v47 (
 bm (aa s.P 57 g 1) h48 fun v49 h50=>
 bm (ab s.P 53 v49 h50) h50 fun v51 h52=>
 bm (aj s.P 53 v51 (.lit (.int .i64 0)) h52) h52 fun v53 h54=>
 bm (ab s.P 3 v53 h54) h54 fun v55 h56=>
 bm (aw s.P .geq 3 v55 (.lit (.int .i64 0))) h56 fun v57 h58=>
 yO s k wl 85 Tryz.f85 dB 35 m0 ac du ⟨[a,b,d,e,f,o,p,g,q,j,u,l,v,n,y,A,z,E,D,F,B,L,I,M,J,G,O,N,T,R,Q,Z,W,t0,X,Y,U,v47,(.lit (.bool true)),v49,v51,v53,v55,v57,tg,t8,th,t9,ta,tb,tc,td,t3,t1],h58⟩) (
 yO s k wl 85 Tryz.f85 dB 35 m0 ac du ⟨[a,b,d,e,f,o,p,g,q,j,u,l,v,n,y,A,z,E,D,F,B,L,I,M,J,G,O,N,T,R,Q,Z,W,t0,X,Y,U,v47,(.lit (.bool false)),uu,uu,uu,uu,uu,tg,t8,th,t9,ta,tb,tc,td,t3,t1],h48⟩) (
 yO s k wl 85 Tryz.f85 dB 31 m0 ac du ⟨[a,b,d,e,f,o,p,g,q,j,u,l,v,n,y,A,z,E,D,F,B,L,I,M,J,G,O,N,T,R,Q,Z,W,t0,X,Y,U,v47,v47,uu,t5,t6,t7,t2,tg,t8,th,t9,ta,tb,tc,td,t3,t1],h48⟩):=kG
theorem Rf (h:Hp):yO s k wl 85 Tryz.f85 dB 35 m0 ac du ⟨[a,b,d,e,f,o,p,g,q,j,u,l,v,n,y,A,z,E,D,F,B,L,I,M,J,G,O,N,T,R,Q,Z,W,t0,X,Y,U,te,t4,tf,t5,t6,t7,t2,tg,t8,th,t9,ta,tb,tc,td,t3,t1],h⟩ =
 bm (aQ t4 t2 (.lit (.bool false))) h fun v59 h60=>
 gd v59 (
 bm (aa s.P 57 g 1) h60 fun v61 h62=>
 bm (ab s.P 53 v61 h62) h62 fun v63 h64=>
 bm (aj s.P 53 v63 (.lit (.int .i64 0)) h64) h64 fun v65 h66=>
 bm (ab s.P 3 v65 h66) h66 fun v67 h68=>
 bp (bc s.P 24 b h68) fun v69 h70=>
 bm (aw s.P .lss 3 v67 v69) h70 fun v71 h72=>
 yO s k wl 85 Tryz.f85 dB 44 m0 ac du ⟨[a,b,d,e,f,o,p,g,q,j,u,l,v,n,y,A,z,E,D,F,B,L,I,M,J,G,O,N,T,R,Q,Z,W,t0,X,Y,U,te,t4,tf,t5,t6,t7,t2,v59,(.lit (.bool true)),v61,v63,v65,v67,b,v69,v71,t1],h72⟩) (
 yO s k wl 85 Tryz.f85 dB 44 m0 ac du ⟨[a,b,d,e,f,o,p,g,q,j,u,l,v,n,y,A,z,E,D,F,B,L,I,M,J,G,O,N,T,R,Q,Z,W,t0,X,Y,U,te,t4,tf,t5,t6,t7,t2,v59,(.lit (.bool false)),uu,uu,uu,uu,uu,uu,uu,t1],h60⟩) (
 yO s k wl 85 Tryz.f85 dB 38 m0 ac du ⟨[a,b,d,e,f,o,p,g,q,j,u,l,v,n,y,A,z,E,D,F,B,L,I,M,J,G,O,N,T,R,Q,Z,W,t0,X,Y,U,te,t4,tf,t5,t6,t7,t2,v59,v59,uu,t9,ta,tb,tc,td,t3,t1],h60⟩):=kG
theorem Rm (h:Hp):yO s k wl 85 Tryz.f85 dB 44 m0 ac du ⟨[a,b,d,e,f,o,p,g,q,j,u,l,v,n,y,A,z,E,D,F,B,L,I,M,J,G,O,N,T,R,Q,Z,W,t0,X,Y,U,te,t4,tf,t5,t6,t7,t2,tg,t8,th,t9,ta,tb,tc,td,t3,t1],h⟩ =
 bm (aQ t8 t3 (.lit (.bool false))) h fun v73 h74=>
 some (v73,h74):=kG
theorem xz (cx:Cx) (K:Out→St→Option (V×Hp)) (s:St):au cx K du .ret s=K .ret s:=by kernel_rfl
-- names: ag5,RS,SX,SD,SE,Sv,Rf,Rm,xz
theorem agz (h:Hp):ak (xX s 86 wl k false) Tryz.f86 [a,b,d,e,f] h =
 bp (aN a h) fun v1 h2=>
 bp (aN e h2) fun v3 h4=>
 bp (aN f h4) fun v5 h6=>
 bp (some (.own h6.length 0 0,h6++[.rows 0 [] 0 true])) fun v7 h8=>
 bp (av s.P 57 h8) fun v9 h10=>
 bp (some (.own h10.length 0 0,h10++[.rows 0 [] 0 true])) fun v11 h12=>
 bp (yC s k wl 86 false true (.fn (.func 76) [] []) [d] h12) fun v13 h14=>
 bp (av s.P 26 h14) fun v15 h16=>
 bs (ai s.P wl 26 v15 v13 h16) fun h17=>
 bp (av s.P 57 h17) fun v18 h19=>
 bm (aa s.P 57 v5 0) h19 fun v20 h21=>
 stO h17.length v20 (
 bm (ab s.P 3 v20 h21) h21 fun v22 h23=>
 bm (aa s.P 57 v5 1) h23 fun v24 h25=>
 bm (ab s.P 53 v24 h25) h25 fun v26 h27=>
 bp (yC s k wl 86 true true (.fn (.func 80) [] []) [v26] h27) fun v28 h29=>
 bm (aa s.P 57 v5 2) h29 fun v30 h31=>
 stO h17.length v30 (
 bm (ab s.P 55 v30 h31) h31 fun v32 h33=>
 bm (a8 s.P 57 [(0,v22),(1,v28),(2,v32)]) h33 fun v34 h35=>
 bs (ai s.P wl 57 v18 v34 h35) fun h36=>
 bm (ab s.P 23 v1 h36) h36 fun v37 h38=>
 bm (ab s.P 57 v5 h38) h38 fun v39 h40=>
 bp (yC s k wl 86 false true (.fn (.func 85) [] []) [v37,b,d,v39] h40) fun v41 h42=>
 bm (vUn .not v41) h42 fun v43 h44=>
 cnd v43 (
 bm (ab s.P 26 v15 h44) h44 fun v45 h46=>
 bm (ab s.P 57 v18 h46) h46 fun v47 h48=>
 bs (ai s.P wl 57 v9 v47 h48) fun h49=>
 bp (some (.own h49.length 0 0,h49++[.rows 0 [] 0 true])) fun v50 h51=>
 ef [some v45,ab s.P 57 v9 h51,some v50] h51) (
 bp (av s.P 34 h44) fun v52 h53=>
 bm (aa s.P 57 v18 1) h53 fun v54 h55=>
 bm (ab s.P 53 v54 h55) h55 fun v56 h57=>
 bm (aj s.P 53 v56 (.lit (.int .i64 0)) h57) h57 fun v58 h59=>
 bm (ab s.P 3 v58 h59) h59 fun v60 h61=>
 bp (av s.P 3 h61) fun v62 h63=>
 bs (ai s.P wl 3 v62 v60 h63) fun h64=>
 bp (av s.P 170 h64) fun v65 h66=>
 bs (ai s.P wl 170 v65 (.fn (.func 131) [] [v52,v3]) h66) fun h67=>
 bp (av s.P 1 h67) fun v68 h69=>
 bs (ai s.P wl 1 v68 (.fn (.func 132) [] [v18]) h69) fun h70=>
 bp (av s.P 32 h70) fun v71 h72=>
 bs (ai s.P wl 32 v71 (.fn (.func 133) [] [v18,v1,v15]) h72) fun h73=>
 bm (a8 s.P 175 [(0,(.fn (.func 136) [] [v18,v15,v65,v62,v68])),(1,(.fn (.func 137) [] [v15,v3,v62,v18])),(2,(.fn (.func 139) [] [v71,v18,v65,v62])),(3,(.fn (.func 140) [] [v15,v68,v3,v18])),(4,(.fn (.func 141) [] [v71,v68])),(5,(.fn (.func 142) [] [v15,v65,v62,v68]))]) h73 fun v74 h75=>
 bp (av s.P 175 h75) fun v76 h77=>
 bs (ai s.P wl 175 v76 v74 h77) fun h78=>
 bm (aa s.P 57 v5 0) h78 fun v79 h80=>
 bm (ab s.P 3 v79 h80) h80 fun v81 h82=>
 bm (aj s.P 175 v76 v81 h82) h82 fun v83 h84=>
 bm (ab s.P 1 v83 h84) h84 fun v85 h86=>
 bp (yC s k wl 86 false true v85 [] h86) fun v87 h88=>
 bm (ab s.P 26 v15 h88) h88 fun v89 h90=>
 bm (ab s.P 57 v18 h90) h90 fun v91 h92=>
 stO h88.length v52 (
 bm (ab s.P 34 v52 h92) h92 fun v93 h94=>
 bs (ai s.P wl 57 v9 v91 h94) fun h95=>
 apt (lgW v9 (lgR v52 ([],[]))) (
 ef [some v89,ab s.P 57 v9 h95,some v93] h95))))):=kB
theorem ahz (k wl:Nat) (h:Hp):evF Tryz.prog xM (k+1) wl 86 [a,b,d,e,f] h=ak (xX (xS k) 86 wl k false) Tryz.f86 [a,b,d,e,f] h:=by kernel_rfl
-- names: agz,
theorem Z6 (h:Hp):ak (xX s 131 wl k false) Tryz.f131 [a,b,d,e] h =
 bm (ab s.P 34 d h) h fun v1 h2=>
 bm (ab s.P 3 e h2) h2 fun v3 h4=>
 bm (a8 s.P 52 [(0,a),(1,b),(2,v3)]) h4 fun v5 h6=>
 bp (aA s.P wl 34 1 [(0,v5)] h6) fun v7 h8=>
 bp (kM s.P wl 34 34 v1 v7 h8) fun v9 h10=>
 bs (ai s.P wl 34 d v9 h10) fun h11=>
 some (.tup [],h11):=kB
theorem agd (k wl:Nat) (h:Hp):evF Tryz.prog xM (k+1) wl 131 [a,b,d,e] h=ak (xX (xS k) 131 wl k false) Tryz.f131 [a,b,d,e] h:=by kernel_rfl
-- names: Z6,
theorem abo (h:Hp):ak (xX s 132 wl k false) Tryz.f132 [a] h =
 bm (aa s.P 57 a 1) h fun v1 h2=>
 bm (ab s.P 53 v1 h2) h2 fun v3 h4=>
 bp (bR s.P wl false 53 v3 (some (.lit (.int .i64 1))) none none h4) fun v5 h6=>
 bm (a8 s.P 57 [(1,v5)]) h6 fun v7 h8=>
 bs (ai s.P wl 57 a v7 h8) fun h9=>
 some (.tup [],h9):=kB
theorem aep (k wl:Nat) (h:Hp):evF Tryz.prog xM (k+1) wl 132 [a] h=ak (xX (xS k) 132 wl k false) Tryz.f132 [a] h:=by kernel_rfl
-- names: abo,
noncomputable def Cg:Code:=al (am Tryz.f133) [1,1,0,0]
noncomputable def ut:List Fr:=[.seq (al (am Tryz.f133) [1,1,0,1]),.seq (al (am Tryz.f133) [1,1,1])]
noncomputable def BM:List Fr:=[.seq (al (am Tryz.f133) [1,1,1])]
theorem XB (h:Hp):ak (xX s 133 wl k false) Tryz.f133 [a,b,d] h =
 bm (aa s.P 57 a 2) h fun v1 h2=>
 bm (aa s.P 55 v1 0) h2 fun v3 h4=>
 bm (ab s.P 3 v3 h4) h4 fun v5 h6=>
 bm (aw s.P .eql 3 v5 (.lit (.int .i64 3))) h6 fun v7 h8=>
 gd v7 (
 yO s k wl 133 Tryz.f133 Cg 9 h.length ([],[]) ut ⟨[a,b,d,(.lit (.bool false)),(.fn (.func 134) [] []),v1,v3,v5,v7,(.lit (.bool true)),uu,uu,uu,uu,uu,uu,uu,uu,uu,uu,uu,uu,uu,uu,uu,uu,uu,uu],h8⟩) (
 bm (aa s.P 57 a 2) h8 fun v9 h10=>
 bm (aa s.P 55 v9 0) h10 fun v11 h12=>
 bm (ab s.P 3 v11 h12) h12 fun v13 h14=>
 bm (aw s.P .eql 3 v13 (.lit (.int .i64 4))) h14 fun v15 h16=>
 yO s k wl 133 Tryz.f133 Cg 9 h.length ([],[]) ut ⟨[a,b,d,(.lit (.bool false)),(.fn (.func 134) [] []),v1,v3,v5,v7,(.lit (.bool false)),v9,v11,v13,v15,uu,uu,uu,uu,uu,uu,uu,uu,uu,uu,uu,uu,uu,uu],h16⟩) (
 yO s k wl 133 Tryz.f133 Cg 6 h.length ([],[]) ut ⟨[a,b,d,(.lit (.bool false)),(.fn (.func 134) [] []),v1,v3,v5,v7,v7,uu,uu,uu,uu,uu,uu,uu,uu,uu,uu,uu,uu,uu,uu,uu,uu,uu,uu],h8⟩):=kB
theorem ad2 (k wl:Nat) (h:Hp):evF Tryz.prog xM (k+1) wl 133 [a,b,d] h=ak (xX (xS k) 133 wl k false) Tryz.f133 [a,b,d] h:=by kernel_rfl
theorem J5 (zz:List V) (h:Hp):yO s k wl 133 Tryz.f133 Cg 9 m0 ac ut ⟨(a::b::d::e::f::o::p::g::q::j::u::l::v::n::y::zz),h⟩ =
 bm (aQ j (.lit (.bool true)) n) h fun v17 h18=>
 cnd v17 (
 au (xX s 133 wl k false) (ao s.P Tryz.f133) BM .norm ⟨(a::b::d::e::(.fn (.func 135) [] [])::o::p::g::q::j::u::l::v::n::v17::zz),h18⟩) (
 au (xX s 133 wl k false) (ao s.P Tryz.f133) BM .norm ⟨(a::b::d::e::f::o::p::g::q::j::u::l::v::n::v17::zz),h18⟩):=kG
theorem Lw (h:Hp):au (xX s 133 wl k false) (ao s.P Tryz.f133) BM .norm ⟨[a,b,d,e,f,o,p,g,q,j,u,l,v,n,y,A,z,E,D,F,B,L,I,M,J,G,O,N],h⟩ =
 bm (ab s.P 23 b h) h fun v19 h20=>
 bm (ab s.P 26 d h20) h20 fun v21 h22=>
 bm (aa s.P 57 a 2) h22 fun v23 h24=>
 bm (ab s.P 55 v23 h24) h24 fun v25 h26=>
 bp (yC s k wl 133 false true f [v19,v21,v25] h26) fun v27 h28=>
 bm (aq v27 0) h28 fun v29 h30=>
 bm (aq v27 1) h30 fun v31 h32=>
 bs (ai s.P wl 26 d v29 h32) fun h33=>
 bm (aa s.P 57 a 2) h33 fun v34 h35=>
 bs (ai s.P wl 55 v34 v31 h35) fun h36=>
 bm (aa s.P 57 a 2) h36 fun v37 h38=>
 bm (ab s.P 55 v37 h38) h38 fun v39 h40=>
 bp (yC s k wl 133 false true (.fn (.func 110) [] []) [v39] h40) fun v41 h42=>
 some (v41,h42):=kR
theorem wj (cx:Cx) (K:Out→St→Option (V×Hp)) (s:St):au cx K ut .ret s=K .ret s:=by kernel_rfl
theorem u9 (cx:Cx) (K:Out→St→Option (V×Hp)) (s:St):au cx K BM .ret s=K .ret s:=by kernel_rfl
-- names: XB,J5,Lw,wj,u9
theorem abk (h:Hp):ak (xX s 136 wl k false) Tryz.f136 [a,b,d,e,f] h =
 bm (aa s.P 57 a 0) h fun v1 h2=>
 bs (ai s.P wl 3 v1 (.lit (.int .i64 1)) h2) fun h3=>
 bm (ab s.P 26 b h3) h3 fun v4 h5=>
 bp (yC s k wl 136 false true (.fn (.func 27) [] []) [v4,(.lit (.int .i64 3))] h5) fun v6 h7=>
 bm (aw s.P .neq 46 v6 (.lit (.int .u64 0))) h7 fun v8 h9=>
 cnd v8 (
 bm (ab s.P 170 d h9) h9 fun v10 h11=>
 bm (ab s.P 3 e h11) h11 fun v12 h13=>
 bp (yC s k wl 136 false true v10 [(.lit (.int .i64 1)),v12] h13) fun v14 h15=>
 bm (ab s.P 1 f h15) h15 fun v16 h17=>
 bp (yC s k wl 136 false true v16 [] h17) fun v18 h19=>
 some (.tup [],h19)) (
 some (.tup [],h9)):=kB
theorem ach (k wl:Nat) (h:Hp):evF Tryz.prog xM (k+1) wl 136 [a,b,d,e,f] h=ak (xX (xS k) 136 wl k false) Tryz.f136 [a,b,d,e,f] h:=by kernel_rfl
-- names: abk,
theorem Zd (h:Hp):ak (xX s 137 wl k false) Tryz.f137 [a,b,d,e] h =
 bm (ab s.P 26 a h) h fun v1 h2=>
 bp (yC s k wl 137 false true (.fn (.func 138) [] []) [v1,(.lit (.int .i64 0)),(.lit (.int .u64 1))] h2) fun v3 h4=>
 bm (aq v3 0) h4 fun v5 h6=>
 bm (aq v3 1) h6 fun v7 h8=>
 bs (ai s.P wl 26 a v5 h8) fun h9=>
 bm (ab s.P 3 b h9) h9 fun v10 h11=>
 bm (ab s.P 3 d h11) h11 fun v12 h13=>
 bm (fI s.P 3 46 v12) h13 fun v14 h15=>
 bp (yC s k wl 137 false true (.fn (.func 104) [] []) [(.lit (.int .i64 3)),v10,v14] h15) fun v16 h17=>
 bm (aa s.P 57 e 0) h17 fun v18 h19=>
 bs (ai s.P wl 3 v18 (.lit (.int .i64 2)) h19) fun h20=>
 bm (aa s.P 57 e 2) h20 fun v21 h22=>
 bs (ai s.P wl 55 v21 v16 h22) fun h23=>
 some (.tup [],h23):=kB
theorem ad9 (k wl:Nat) (h:Hp):evF Tryz.prog xM (k+1) wl 137 [a,b,d,e] h=ak (xX (xS k) 137 wl k false) Tryz.f137 [a,b,d,e] h:=by kernel_rfl
-- names: Zd,
theorem aaH (h:Hp):ak (xX s 139 wl k false) Tryz.f139 [a,b,d,e] h =
 bm (ab s.P 32 a h) h fun v1 h2=>
 bp (yC s k wl 139 false true v1 [] h2) fun v3 h4=>
 bm (vUn .not v3) h4 fun v5 h6=>
 cnd v5 (
 some (.tup [],h6)) (
 bm (aa s.P 57 b 0) h6 fun v7 h8=>
 bs (ai s.P wl 3 v7 (.lit (.int .i64 5)) h8) fun h9=>
 bm (aa s.P 57 b 2) h9 fun v10 h11=>
 bm (aa s.P 55 v10 6) h11 fun v12 h13=>
 bm (ab s.P 3 v12 h13) h13 fun v14 h15=>
 bm (aw s.P .neq 3 v14 (.lit (.int .i64 2))) h15 fun v16 h17=>
 cnd v16 (
 bm (ab s.P 170 d h17) h17 fun v18 h19=>
 bm (ab s.P 3 e h19) h19 fun v20 h21=>
 bp (yC s k wl 139 false true v18 [(.lit (.int .i64 0)),v20] h21) fun v22 h23=>
 bm (aa s.P 57 b 0) h23 fun v24 h25=>
 bs (ai s.P wl 3 v24 (.lit (.int .i64 3)) h25) fun h26=>
 some (.tup [],h26)) (
 some (.tup [],h17))):=kB
theorem adl (k wl:Nat) (h:Hp):evF Tryz.prog xM (k+1) wl 139 [a,b,d,e] h=ak (xX (xS k) 139 wl k false) Tryz.f139 [a,b,d,e] h:=by kernel_rfl
-- names: aaH,
theorem XP (h:Hp):ak (xX s 140 wl k false) Tryz.f140 [a,b,d,e] h =
 bm (ab s.P 26 a h) h fun v1 h2=>
 bp (yC s k wl 140 false true (.fn (.func 27) [] []) [v1,(.lit (.int .i64 1))] h2) fun v3 h4=>
 bm (aw s.P .neq 46 v3 (.lit (.int .u64 0))) h4 fun v5 h6=>
 cnd v5 (
 bm (ab s.P 1 b h6) h6 fun v7 h8=>
 bp (yC s k wl 140 false true v7 [] h8) fun v9 h10=>
 some (.tup [],h10)) (
 bm (ab s.P 3 d h6) h6 fun v11 h12=>
 bp (yC s k wl 140 false true (.fn (.func 104) [] []) [(.lit (.int .i64 6)),v11,(.lit (.int .u64 0))] h12) fun v13 h14=>
 bm (aa s.P 57 e 0) h14 fun v15 h16=>
 bs (ai s.P wl 3 v15 (.lit (.int .i64 4)) h16) fun h17=>
 bm (aa s.P 57 e 2) h17 fun v18 h19=>
 bs (ai s.P wl 55 v18 v13 h19) fun h20=>
 some (.tup [],h20)):=kB
theorem ac0 (k wl:Nat) (h:Hp):evF Tryz.prog xM (k+1) wl 140 [a,b,d,e] h=ak (xX (xS k) 140 wl k false) Tryz.f140 [a,b,d,e] h:=by kernel_rfl
-- names: XP,
theorem aa5 (h:Hp):ak (xX s 141 wl k false) Tryz.f141 [a,b] h =
 bm (ab s.P 32 a h) h fun v1 h2=>
 bp (yC s k wl 141 false true v1 [] h2) fun v3 h4=>
 cnd v3 (
 bm (ab s.P 1 b h4) h4 fun v5 h6=>
 bp (yC s k wl 141 false true v5 [] h6) fun v7 h8=>
 some (.tup [],h8)) (
 some (.tup [],h4)):=kB
theorem afX (k wl:Nat) (h:Hp):evF Tryz.prog xM (k+1) wl 141 [a,b] h=ak (xX (xS k) 141 wl k false) Tryz.f141 [a,b] h:=by kernel_rfl
-- names: aa5,
theorem abc (h:Hp):ak (xX s 142 wl k false) Tryz.f142 [a,b,d,e] h =
 bm (ab s.P 26 a h) h fun v1 h2=>
 bp (yC s k wl 142 false true (.fn (.func 138) [] []) [v1,(.lit (.int .i64 0)),(.lit (.int .u64 18446744073709551615))] h2) fun v3 h4=>
 bm (aq v3 0) h4 fun v5 h6=>
 bm (aq v3 1) h6 fun v7 h8=>
 bs (ai s.P wl 26 a v5 h8) fun h9=>
 bm (ab s.P 170 b h9) h9 fun v10 h11=>
 bm (ab s.P 3 d h11) h11 fun v12 h13=>
 bp (yC s k wl 142 false true v10 [(.lit (.int .i64 1)),v12] h13) fun v14 h15=>
 bm (aw s.P .eql 46 v7 (.lit (.int .u64 1))) h15 fun v16 h17=>
 cnd v16 (
 bm (ab s.P 170 b h17) h17 fun v18 h19=>
 bp (yC s k wl 142 false true v18 [(.lit (.int .i64 5)),(.lit (.int .i64 0))] h19) fun v20 h21=>
 bm (ab s.P 1 e h21) h21 fun v22 h23=>
 bp (yC s k wl 142 false true v22 [] h23) fun v24 h25=>
 some (.tup [],h25)) (
 bm (ab s.P 1 e h17) h17 fun v26 h27=>
 bp (yC s k wl 142 false true v26 [] h27) fun v28 h29=>
 some (.tup [],h29)):=kB
theorem adb (k wl:Nat) (h:Hp):evF Tryz.prog xM (k+1) wl 142 [a,b,d,e] h=ak (xX (xS k) 142 wl k false) Tryz.f142 [a,b,d,e] h:=by kernel_rfl
-- names: abc,
theorem agq (h:Hp):ak (xX s 28 wl k false) Tryz.f28 [a] h =
 bp (aN a h) fun v1 h2=>
 bm (aa s.P 57 v1 0) h2 fun v3 h4=>
 bm (ab s.P 3 v3 h4) h4 fun v5 h6=>
 bm (aw s.P .neq 3 v5 (.lit (.int .i64 0))) h6 fun v7 h8=>
 some (v7,h8):=kB
theorem ahH (k wl:Nat) (h:Hp):evF Tryz.prog xM (k+1) wl 28 [a] h=ak (xX (xS k) 28 wl k false) Tryz.f28 [a] h:=by kernel_rfl
-- names: agq,
theorem ags (h:Hp):ak (xX s 63 wl k false) Tryz.f63 [a] h =
 bp (av s.P 57 h) fun v1 h2=>
 bp (yC s k wl 63 false true (.fn (.func 80) [] []) [a] h2) fun v3 h4=>
 bm (a8 s.P 57 [(1,v3)]) h4 fun v5 h6=>
 bs (ai s.P wl 57 v1 v5 h6) fun h7=>
 ef [ab s.P 57 v1 h7] h7:=kB
theorem ahc (k wl:Nat) (h:Hp):evF Tryz.prog xM (k+1) wl 63 [a] h=ak (xX (xS k) 63 wl k false) Tryz.f63 [a] h:=by kernel_rfl
-- names: ags,
end
end Go.Ab
