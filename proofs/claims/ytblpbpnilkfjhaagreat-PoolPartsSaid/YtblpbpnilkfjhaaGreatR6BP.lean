import Derived.Test.YtblpbpnilkfjhaaGreatR6Seat
import Derived.Test.YtblpbpnilkfjhaaGreatAbLibC
set_option linter.unusedVariables false
set_option linter.unusedSimpArgs false
set_option maxRecDepth 100000
set_option linter.unusedVariables false
namespace Go.Ab
open Go.Proofs
section
variable (s:Sys) (k wl:Nat) (m0:Nat) (ac:List Nat×List Nat) (c d e o q j g u f y A z B F D E v G I L J N M O R T U W X Q Y Z t2 t1 t0 t3 t4 t5 tb tc t9 ta t7 t6 td te tf tg th ti tj tk tl tm tn tp tq tr ts t8:V)
noncomputable def AO:Code:=al (am Tryz.f17) [1,1,1,1,0,1,0,0]
noncomputable def E3:List Fr:=[.block 0,.seq (al (am Tryz.f17) [1,1,1,1,1])]
theorem VY (h:Hp):ak (xX s 17 wl k false) Tryz.f17 [c,d] h =
 bp (aJ c h) fun v1 h2=>
 bp (ar s.P 30 h2) fun v3 h4=>
 bp (some (.own h4.length 0 0,h4++[.rows 0 [] 0 true])) fun v5 h6=>
 bm (ab s.P 30 v1 h6) h6 fun v7 h8=>
 bp (yC s k wl 17 false true (.fn (.func 41) [] []) [v7] h8) fun v9 h10=>
 bp (ar s.P 30 h10) fun v11 h12=>
 bs (aj s.P wl 30 v11 v9 h12) fun h13=>
 bm (ab s.P 30 v1 h13) h13 fun v14 h15=>
 bp (yC s k wl 17 false true (.fn (.func 20) [] []) [v14] h15) fun v16 h17=>
 bm (vUn .not v16) h17 fun v18 h19=>
 cnd v18 (
 bm (ab s.P 30 v11 h19) h19 fun v20 h21=>
 bs (aj s.P wl 30 v3 v20 h21) fun h22=>
 bp (some (.own h22.length 0 0,h22++[.rows 0 [] 0 true])) fun v23 h24=>
 er [ab s.P 30 v3 h24,some v23] h24) (
 bp (some (.own h19.length 0 0,h19++[.rows 0 [] 0 true])) fun v25 h26=>
 bp (aX s.P 31 d h26) fun v27 h28=>
 yI s k wl 17 Tryz.f17 AO h28.length E3 k ⟨[(V.kill h28.length c),(V.kill h28.length d),(V.kill h28.length v1),(V.kill h28.length uu),(V.kill h28.length v3),(V.kill h28.length v5),(V.kill h28.length v11),(V.kill h28.length v25),(V.kill h28.length uu),(V.kill h28.length uu),(V.kill h28.length v7),(V.kill h28.length v9),(V.kill h28.length v14),(V.kill h28.length v16),(V.kill h28.length v18),(V.kill h28.length uu),(V.kill h28.length d),(V.kill h28.length v27),(.lit (.int .i64 0)),.junk,.junk,.junk,.junk,.junk,.junk,.junk,.junk,.junk,.junk,.junk,.junk,.junk,.junk,.junk,.junk,(V.kill h28.length uu),(V.kill h28.length uu)],bY h28.length h28⟩):=kB
theorem Zl (k wl:Nat) (h:Hp):evF Tryz.prog xM (k+1) wl 17 [c,d] h=ak (xX (xS k) 17 wl k false) Tryz.f17 [c,d] h:=by kernel_rfl
theorem YT (P:Program) (h:Hp):av P Tryz.f17 .ret ⟨[c,d,e,o,q,j,g,u,f,y,A,z,B,F,D,E,v,G,I,L,J,N,M,O,R,T,U,W,X,Q,Y,Z,t2,t1,t0,t3,t4],h⟩=er [ab P 30 q h,some j] h:=by kernel_rfl
theorem Oe (s:Sys) (K:Out→St→Option (V×Hp)) (k wl:Nat) (rd:Bool) (n n0:Nat) (h:Hp):itX (xX s 17 wl k rd) AO n0 K (n+1) ⟨[c,d,e,o,q,j,g,u,f,y,A,z,B,F,D,E,v,G,I,L,J,N,M,O,R,T,U,W,X,Q,Y,Z,t2,t1,t0,t3,t4],h⟩ =
 bm (aq s.P .lss 3 I G) h fun v29 h30=>
 cnd v29 (
 bm (ai s.P 31 v I h30) h30 fun v31 h32=>
 bm (ab s.P 48 v31 h32) h32 fun v33 h34=>
 bp (ar s.P 48 h34) fun v35 h36=>
 bs (aj s.P wl 48 v35 v33 h36) fun h37=>
 bm (ab s.P 48 v35 h37) h37 fun v38 h39=>
 bm (aa s.P 30 e 0) h39 fun v40 h41=>
 bm (aa s.P 23 v40 0) h41 fun v42 h43=>
 bm (ab s.P 3 v42 h43) h43 fun v44 h45=>
 bm (aa s.P 30 e 4) h45 fun v46 h47=>
 bm (ab s.P 28 v46 h47) h47 fun v48 h49=>
 bp (aX s.P 28 v48 h49) fun v50 h51=>
 bp (cw (xX s 17 wl k rd) false true (.fn (.func 42) [] []) [v38,v44,v50] h51) fun v52 h53=>
 cnd v52 (
 bm (ab s.P 48 v35 h53) h53 fun v54 h55=>
 bp (cw (xX s 17 wl k rd) false true (.fn (.func 43) [] []) [g,v54] h55) fun v56 h57=>
 bp (kf s.P wl 34 34 u v56 h57) fun v58 h59=>
 bm (aq s.P .add 3 I (.lit (.int .i64 1))) h59 fun v60 h61=>
 itX (xX s 17 wl k rd) AO n0 K n ⟨[(V.kill n0 c),(V.kill n0 d),(V.kill n0 e),(V.kill n0 o),(V.kill n0 q),(V.kill n0 j),(V.kill n0 g),(V.kill n0 v58),(V.kill n0 f),(V.kill n0 v35),(V.kill n0 A),(V.kill n0 z),(V.kill n0 B),(V.kill n0 F),(V.kill n0 D),(V.kill n0 E),(V.kill n0 v),(V.kill n0 G),(V.kill n0 v60),.junk,.junk,.junk,.junk,.junk,.junk,.junk,.junk,.junk,.junk,.junk,.junk,.junk,.junk,.junk,.junk,(V.kill n0 t3),(V.kill n0 t4)],bY n0 h61⟩) (
 bm (aq s.P .add 3 I (.lit (.int .i64 1))) h53 fun v62 h63=>
 itX (xX s 17 wl k rd) AO n0 K n ⟨[(V.kill n0 c),(V.kill n0 d),(V.kill n0 e),(V.kill n0 o),(V.kill n0 q),(V.kill n0 j),(V.kill n0 g),(V.kill n0 u),(V.kill n0 f),(V.kill n0 v35),(V.kill n0 A),(V.kill n0 z),(V.kill n0 B),(V.kill n0 F),(V.kill n0 D),(V.kill n0 E),(V.kill n0 v),(V.kill n0 G),(V.kill n0 v62),.junk,.junk,.junk,.junk,.junk,.junk,.junk,.junk,.junk,.junk,.junk,.junk,.junk,.junk,.junk,.junk,(V.kill n0 t3),(V.kill n0 t4)],bY n0 h63⟩)) (
 K (.exit 0) ⟨[(V.kill n0 c),(V.kill n0 d),(V.kill n0 e),(V.kill n0 o),(V.kill n0 q),(V.kill n0 j),(V.kill n0 g),(V.kill n0 u),(V.kill n0 f),(V.kill n0 y),(V.kill n0 A),(V.kill n0 z),(V.kill n0 B),(V.kill n0 F),(V.kill n0 D),(V.kill n0 E),(V.kill n0 v),(V.kill n0 G),.junk,.junk,.junk,.junk,.junk,.junk,.junk,.junk,.junk,.junk,.junk,.junk,.junk,.junk,.junk,.junk,.junk,(V.kill n0 t3),(V.kill n0 t4)],bY n0 h30⟩):=kI
theorem BJ (h:Hp):au (xX s 17 wl k false) (av s.P Tryz.f17) E3 (.exit 0) ⟨[c,d,e,o,q,j,g,u,f,y,A,z,B,F,D,E,v,G,I,L,J,N,M,O,R,T,U,W,X,Q,Y,Z,t2,t1,t0,t3,t4],h⟩ =
 bm (ab s.P 30 g h) h fun v64 h65=>
 bs (aj s.P wl 30 q v64 h65) fun h66=>
 er [ab s.P 30 q h66,some u] h66:=kR
theorem iO (cx:Cx) (K:Out→St→Option (V×Hp)) (s:St):au cx K E3 .ret s=K .ret s:=by kernel_rfl
-- names: VY,YT,Oe,BJ,iO
noncomputable def fW:Code:=al (am Tryz.f19) [1,0]
noncomputable def fF:List Fr:=[.seq (al (am Tryz.f19) [1,1])]
theorem aen (h:Hp):ak (xX s 19 wl k false) Tryz.f19 [c,d] h =
 bp (aJ c h) fun v1 h2=>
 bp (aJ d h2) fun v3 h4=>
 bm (aa s.P 30 v1 0) h4 fun v5 h6=>
 bm (ab s.P 23 v5 h6) h6 fun v7 h8=>
 bm (aa s.P 30 v3 0) h8 fun v9 h10=>
 bm (ab s.P 23 v9 h10) h10 fun v11 h12=>
 bm (aq s.P .eql 23 v7 v11) h12 fun v13 h14=>
 gd v13 (
 bm (aa s.P 30 v1 1) h14 fun v15 h16=>
 bm (ab s.P 24 v15 h16) h16 fun v17 h18=>
 bm (aa s.P 30 v3 1) h18 fun v19 h20=>
 bm (ab s.P 24 v19 h20) h20 fun v21 h22=>
 bp (yC s k wl 19 false true (.fn (.func 44) [] []) [v17,v21] h22) fun v23 h24=>
 yO s k wl 19 Tryz.f19 fW 11 h4.length ([],[]) fF ⟨[c,d,v1,v3,(.lit (.bool false)),v5,v7,v9,v11,v13,(.lit (.bool true)),v15,v17,v19,v21,v23,uu,uu,uu,uu,uu,uu,uu,uu,uu,uu,uu,uu,uu,uu,uu,uu,uu,uu,uu,uu,uu,uu],h24⟩) (
 yO s k wl 19 Tryz.f19 fW 11 h4.length ([],[]) fF ⟨[c,d,v1,v3,(.lit (.bool false)),v5,v7,v9,v11,v13,(.lit (.bool false)),uu,uu,uu,uu,uu,uu,uu,uu,uu,uu,uu,uu,uu,uu,uu,uu,uu,uu,uu,uu,uu,uu,uu,uu,uu,uu,uu],h14⟩) (
 yO s k wl 19 Tryz.f19 fW 7 h4.length ([],[]) fF ⟨[c,d,v1,v3,(.lit (.bool false)),v5,v7,v9,v11,v13,v13,uu,uu,uu,uu,uu,uu,uu,uu,uu,uu,uu,uu,uu,uu,uu,uu,uu,uu,uu,uu,uu,uu,uu,uu,uu,uu,uu],h14⟩):=kB
theorem aeZ (k wl:Nat) (h:Hp):evF Tryz.prog xM (k+1) wl 19 [c,d] h=ak (xX (xS k) 19 wl k false) Tryz.f19 [c,d] h:=by kernel_rfl
theorem PO (zz:List V) (h:Hp):yO s k wl 19 Tryz.f19 fW 11 m0 ac fF ⟨(c::d::e::o::q::j::g::u::f::y::A::z::B::F::D::E::v::G::I::L::J::N::M::zz),h⟩ =
 bm (aO A E (.lit (.bool false))) h fun v25 h26=>
 gd v25 (
 bm (aa s.P 30 e 2) h26 fun v27 h28=>
 bm (ab s.P 26 v27 h28) h28 fun v29 h30=>
 bm (aa s.P 30 o 2) h30 fun v31 h32=>
 bm (ab s.P 26 v31 h32) h32 fun v33 h34=>
 bp (yC s k wl 19 false true (.fn (.func 45) [] []) [v29,v33] h34) fun v35 h36=>
 yO s k wl 19 Tryz.f19 fW 18 m0 ac fF ⟨(c::d::e::o::q::j::g::u::f::y::A::z::B::F::D::E::v25::(.lit (.bool true))::v27::v29::v31::v33::v35::zz),h36⟩) (
 yO s k wl 19 Tryz.f19 fW 18 m0 ac fF ⟨(c::d::e::o::q::j::g::u::f::y::A::z::B::F::D::E::v25::(.lit (.bool false))::uu::uu::uu::uu::uu::zz),h26⟩) (
 yO s k wl 19 Tryz.f19 fW 14 m0 ac fF ⟨(c::d::e::o::q::j::g::u::f::y::A::z::B::F::D::E::v25::v25::uu::L::J::N::M::zz),h26⟩):=kG
theorem OC (h:Hp):yO s k wl 19 Tryz.f19 fW 18 m0 ac fF ⟨[c,d,e,o,q,j,g,u,f,y,A,z,B,F,D,E,v,G,I,L,J,N,M,O,R,T,U,W,X,Q,Y,Z,t2,t1,t0,t3,t4,t5],h⟩ =
 bm (aO G M (.lit (.bool false))) h fun v37 h38=>
 gd v37 (
 bm (aa s.P 30 e 3) h38 fun v39 h40=>
 bm (ab s.P 27 v39 h40) h40 fun v41 h42=>
 bm (aa s.P 30 o 3) h42 fun v43 h44=>
 bm (ab s.P 27 v43 h44) h44 fun v45 h46=>
 bp (yC s k wl 19 false true (.fn (.func 46) [] []) [v41,v45,(.fn (.func 47) [] [])] h46) fun v47 h48=>
 yO s k wl 19 Tryz.f19 fW 25 m0 ac fF ⟨[c,d,e,o,q,j,g,u,f,y,A,z,B,F,D,E,v,G,I,L,J,N,M,v37,(.lit (.bool true)),v39,v41,v43,v45,v47,Y,Z,t2,t1,t0,t3,t4,t5],h48⟩) (
 yO s k wl 19 Tryz.f19 fW 25 m0 ac fF ⟨[c,d,e,o,q,j,g,u,f,y,A,z,B,F,D,E,v,G,I,L,J,N,M,v37,(.lit (.bool false)),uu,uu,uu,uu,uu,Y,Z,t2,t1,t0,t3,t4,t5],h38⟩) (
 yO s k wl 19 Tryz.f19 fW 21 m0 ac fF ⟨[c,d,e,o,q,j,g,u,f,y,A,z,B,F,D,E,v,G,I,L,J,N,M,v37,v37,uu,U,W,X,Q,Y,Z,t2,t1,t0,t3,t4,t5],h38⟩):=kG
theorem Pj (h:Hp):yO s k wl 19 Tryz.f19 fW 25 m0 ac fF ⟨[c,d,e,o,q,j,g,u,f,y,A,z,B,F,D,E,v,G,I,L,J,N,M,O,R,T,U,W,X,Q,Y,Z,t2,t1,t0,t3,t4,t5],h⟩ =
 bm (aO R Q (.lit (.bool false))) h fun v49 h50=>
 gd v49 (
 bm (aa s.P 30 e 4) h50 fun v51 h52=>
 bm (ab s.P 28 v51 h52) h52 fun v53 h54=>
 bm (aa s.P 30 o 4) h54 fun v55 h56=>
 bm (ab s.P 28 v55 h56) h56 fun v57 h58=>
 bp (yC s k wl 19 false true (.fn (.func 48) [] []) [v53,v57,(.fn (.func 49) [] [])] h58) fun v59 h60=>
 yO s k wl 19 Tryz.f19 fW 32 m0 ac fF ⟨[c,d,e,o,q,j,g,u,f,y,A,z,B,F,D,E,v,G,I,L,J,N,M,O,R,T,U,W,X,Q,v49,(.lit (.bool true)),v51,v53,v55,v57,v59,t5],h60⟩) (
 yO s k wl 19 Tryz.f19 fW 32 m0 ac fF ⟨[c,d,e,o,q,j,g,u,f,y,A,z,B,F,D,E,v,G,I,L,J,N,M,O,R,T,U,W,X,Q,v49,(.lit (.bool false)),uu,uu,uu,uu,uu,t5],h50⟩) (
 yO s k wl 19 Tryz.f19 fW 28 m0 ac fF ⟨[c,d,e,o,q,j,g,u,f,y,A,z,B,F,D,E,v,G,I,L,J,N,M,O,R,T,U,W,X,Q,v49,v49,uu,t1,t0,t3,t4,t5],h50⟩):=kG
theorem Pw (h:Hp):yO s k wl 19 Tryz.f19 fW 32 m0 ac fF ⟨[c,d,e,o,q,j,g,u,f,y,A,z,B,F,D,E,v,G,I,L,J,N,M,O,R,T,U,W,X,Q,Y,Z,t2,t1,t0,t3,t4,t5],h⟩ =
 bm (aO Z t4 (.lit (.bool false))) h fun v61 h62=>
 some (v61,h62):=kG
theorem uz (cx:Cx) (K:Out→St→Option (V×Hp)) (s:St):au cx K fF .ret s=K .ret s:=by kernel_rfl
-- names: aen,PO,OC,Pj,Pw,uz
noncomputable def nS:Code:=al (am Tryz.f20) [1,0,0]
noncomputable def m8:List Fr:=[.seq (al (am Tryz.f20) [1,0,1]),.seq (al (am Tryz.f20) [1,1])]
noncomputable def PQ:Code:=al (am Tryz.f20) [1,1,0,1,0]
noncomputable def HQ:Code:=al (am Tryz.f20) [1,1,0,1,0,0]
noncomputable def JF:Code:=al (am Tryz.f20) [1,1,0,1,0,1]
noncomputable def EB:List Fr:=[.block 0,.seq (al (am Tryz.f20) [1,1,1])]
theorem mF:PQ = .rangeFunc (.tmp 23) #[24] HQ JF:=by kernel_rfl
theorem U2 (h:Hp):ak (xX s 20 wl k false) Tryz.f20 [c] h =
 bp (aJ c h) fun v1 h2=>
 bp (ar s.P 4 h2) fun v3 h4=>
 bm (aa s.P 30 v1 0) h4 fun v5 h6=>
 bm (ab s.P 23 v5 h6) h6 fun v7 h8=>
 bp (yC s k wl 20 false true (.fn (.func 50) [] []) [v7] h8) fun v9 h10=>
 bm (vUn .not v9) h10 fun v11 h12=>
 gd v11 (
 yO s k wl 20 Tryz.f20 nS 12 h4.length ([],[]) m8 ⟨[c,v1,v3,v5,v7,v9,v11,(.lit (.bool true)),uu,uu,uu,uu,uu,uu,uu,uu,uu,uu,uu,uu,uu,uu,uu,uu,uu,uu,uu,uu,uu,uu],h12⟩) (
 bm (aa s.P 30 v1 3) h12 fun v13 h14=>
 bm (ab s.P 27 v13 h14) h14 fun v15 h16=>
 bp (aX s.P 27 v15 h16) fun v17 h18=>
 bm (aa s.P 30 v1 0) h18 fun v19 h20=>
 bm (aa s.P 23 v19 0) h20 fun v21 h22=>
 bm (ab s.P 3 v21 h22) h22 fun v23 h24=>
 bm (aq s.P .neq 3 v17 v23) h24 fun v25 h26=>
 yO s k wl 20 Tryz.f20 nS 12 h4.length ([],[]) m8 ⟨[c,v1,v3,v5,v7,v9,v11,(.lit (.bool false)),v13,v15,v17,v19,v21,v23,v25,uu,uu,uu,uu,uu,uu,uu,uu,uu,uu,uu,uu,uu,uu,uu],h26⟩) (
 yO s k wl 20 Tryz.f20 nS 6 h4.length ([],[]) m8 ⟨[c,v1,v3,v5,v7,v9,v11,v11,uu,uu,uu,uu,uu,uu,uu,uu,uu,uu,uu,uu,uu,uu,uu,uu,uu,uu,uu,uu,uu,uu],h12⟩):=kB
theorem ZN (k wl:Nat) (h:Hp):evF Tryz.prog xM (k+1) wl 20 [c] h=ak (xX (xS k) 20 wl k false) Tryz.f20 [c] h:=by kernel_rfl
theorem Y1 (P:Program) (h:Hp):av P Tryz.f20 .ret ⟨[c,d,e,o,q,j,g,u,f,y,A,z,B,F,D,E,v,G,I,L,J,N,M,O,R,T,U,W,X,Q],h⟩=er [ab P 4 e h] h:=by kernel_rfl
theorem AH (zz:List V) (h:Hp):yO s k wl 20 Tryz.f20 nS 12 m0 ac m8 ⟨(c::d::e::o::q::j::g::u::f::y::A::z::B::F::D::E::v::G::I::L::J::zz),h⟩ =
 bm (aO u (.lit (.bool true)) D) h fun v27 h28=>
 gd v27 (
 yO s k wl 20 Tryz.f20 nS 18 m0 ac m8 ⟨(c::d::e::o::q::j::g::u::f::y::A::z::B::F::D::v27::(.lit (.bool true))::uu::uu::uu::uu::zz),h28⟩) (
 bm (aa s.P 30 d 4) h28 fun v29 h30=>
 bm (ab s.P 28 v29 h30) h30 fun v31 h32=>
 bp (aX s.P 28 v31 h32) fun v33 h34=>
 bm (aq s.P .gtr 3 v33 (.lit (.int .i64 3))) h34 fun v35 h36=>
 yO s k wl 20 Tryz.f20 nS 18 m0 ac m8 ⟨(c::d::e::o::q::j::g::u::f::y::A::z::B::F::D::v27::(.lit (.bool false))::v29::v31::v33::v35::zz),h36⟩) (
 yO s k wl 20 Tryz.f20 nS 15 m0 ac m8 ⟨(c::d::e::o::q::j::g::u::f::y::A::z::B::F::D::v27::v27::uu::I::L::J::zz),h28⟩):=kG
theorem Bv (h:Hp):yO s k wl 20 Tryz.f20 nS 18 m0 ac m8 ⟨[c,d,e,o,q,j,g,u,f,y,A,z,B,F,D,E,v,G,I,L,J,N,M,O,R,T,U,W,X,Q],h⟩ =
 bm (aO v (.lit (.bool true)) J) h fun v37 h38=>
 cnd v37 (
 bs (aj s.P wl 4 e (.lit (.bool false)) h38) fun h39=>
 er [ab s.P 4 e h39] h39) (
 bm (ab s.P 30 d h38) h38 fun v40 h41=>
 bp (yC s k wl 20 false true (.fn (.func 51) [] []) [v40] h41) fun v42 h43=>
 bc (xX s 20 wl k false) PQ none (au (xX s 20 wl k false) (av s.P Tryz.f20) EB) ⟨[c,d,e,o,q,j,g,u,f,y,A,z,B,F,D,E,v,G,I,L,J,v37,v40,v42,R,T,U,W,X,Q],h43⟩):=kG
theorem BW (h:Hp):au (xX s 20 wl k false) (av s.P Tryz.f20) EB .norm ⟨[c,d,e,o,q,j,g,u,f,y,A,z,B,F,D,E,v,G,I,L,J,N,M,O,R,T,U,W,X,Q],h⟩ =
 bm (aa s.P 30 d 4) h fun v44 h45=>
 bm (ab s.P 28 v44 h45) h45 fun v46 h47=>
 bp (yC s k wl 20 false true (.fn (.func 52) [] []) [v46,(.fn (.func 53) [] [d])] h47) fun v48 h49=>
 bm (vUn .not v48) h49 fun v50 h51=>
 bs (aj s.P wl 4 e v50 h51) fun h52=>
 er [ab s.P 4 e h52] h52:=kR
theorem dx (s:Sys) (K:Out→St→Option (V×Hp)) (k wl:Nat) (rd:Bool) (zz:List V) (h:Hp):au (xX s 20 wl k rd) K [.seq JF] .norm ⟨(c::d::e::zz),h⟩ =
 bs (aj s.P wl 4 e (.lit (.bool false)) h) fun h53=>
 K .ret ⟨(c::d::e::zz),h53⟩:=kR
theorem dA (s:Sys) (K:Out→St→Option (V×Hp)) (k wl:Nat) (rd:Bool) (zz:List V) (h:Hp):au (xX s 20 wl k rd) K [.seq HQ] .norm ⟨(c::zz),h⟩ =
 K .norm ⟨(c::zz),h⟩:=kR
theorem iy (cx:Cx) (K:Out→St→Option (V×Hp)) (s:St):au cx K m8 .ret s=K .ret s:=by kernel_rfl
theorem iJ (cx:Cx) (K:Out→St→Option (V×Hp)) (s:St):au cx K EB .ret s=K .ret s:=by kernel_rfl
-- names: U2,Y1,AH,Bv,BW,dx,dA,iy,iJ
-- range over a function at [1,1,0,1,0]
theorem aev (h:Hp):ak (xX s 24 wl k false) Tryz.f24 [c,d] h =
 bp (aJ c h) fun v1 h2=>
 bp (aJ d h2) fun v3 h4=>
 bp (ar s.P 30 h4) fun v5 h6=>
 bp (some (.own h6.length 0 0,h6++[.rows 0 [] 0 true])) fun v7 h8=>
 bm (ab s.P 30 v1 h8) h8 fun v9 h10=>
 bm (ab s.P 48 v3 h10) h10 fun v11 h12=>
 bp (aB s.P wl 31 1 [(0,v11)] h12) fun v13 h14=>
 bp (yC s k wl 24 false true (.fn (.func 17) [] []) [v9,v13] h14) fun v15 h16=>
 bm (ao v15 0) h16 fun v17 h18=>
 bm (ao v15 1) h18 fun v19 h20=>
 bs (aj s.P wl 30 v5 v17 h20) fun h21=>
 er [ab s.P 30 v5 h21,some v19] h21:=kB
theorem ae3 (k wl:Nat) (h:Hp):evF Tryz.prog xM (k+1) wl 24 [c,d] h=ak (xX (xS k) 24 wl k false) Tryz.f24 [c,d] h:=by kernel_rfl
-- names: aev,
noncomputable def Ex:Code:=al (am Tryz.f41) [1,1,1,0,1,0,0]
noncomputable def Eu:List Fr:=[.block 0,.seq (al (am Tryz.f41) [1,1,1,1])]
noncomputable def E2:Code:=al (am Tryz.f41) [1,1,1,1,0,1,0,0]
noncomputable def E5:List Fr:=[.block 2,.seq (al (am Tryz.f41) [1,1,1,1,1])]
theorem Xa (h:Hp):ak (xX s 41 wl k false) Tryz.f41 [c] h =
 bp (aJ c h) fun v1 h2=>
 bp (ar s.P 30 h2) fun v3 h4=>
 bm (aa s.P 30 v1 1) h4 fun v5 h6=>
 bm (ab s.P 24 v5 h6) h6 fun v7 h8=>
 bp (yC s k wl 41 true true (.fn (.func 58) [] []) [v7] h8) fun v9 h10=>
 bm (aa s.P 30 v1 2) h10 fun v11 h12=>
 stO h4.length v11 (
 bm (ab s.P 26 v11 h12) h12 fun v13 h14=>
 bp (yC s k wl 41 false true (.fn (.func 76) [] []) [v13] h14) fun v15 h16=>
 bm (aa s.P 30 v1 1) h16 fun v17 h18=>
 bs (aj s.P wl 24 v17 v9 h18) fun h19=>
 bm (aa s.P 30 v1 2) h19 fun v20 h21=>
 bs (aj s.P wl 26 v20 v15 h21) fun h22=>
 bm (aa s.P 30 v1 3) h22 fun v23 h24=>
 bm (ab s.P 27 v23 h24) h24 fun v25 h26=>
 bp (yC s k wl 41 true true (.fn (.func 77) [] []) [v25] h26) fun v27 h28=>
 bm (aa s.P 30 v1 4) h28 fun v29 h30=>
 stO h22.length v29 (
 bm (ab s.P 28 v29 h30) h30 fun v31 h32=>
 bp (yC s k wl 41 false true (.fn (.func 78) [] []) [v31] h32) fun v33 h34=>
 bm (aa s.P 30 v1 3) h34 fun v35 h36=>
 bs (aj s.P wl 27 v35 v27 h36) fun h37=>
 bm (aa s.P 30 v1 4) h37 fun v38 h39=>
 bs (aj s.P wl 28 v38 v33 h39) fun h40=>
 bm (aa s.P 30 v1 3) h40 fun v41 h42=>
 bm (ab s.P 27 v41 h42) h42 fun v43 h44=>
 bp (aX s.P 27 v43 h44) fun v45 h46=>
 yI s k wl 41 Tryz.f41 Ex h46.length Eu k ⟨[(V.kill h46.length c),(V.kill h46.length v1),(V.kill h46.length v3),(V.kill h46.length uu),(V.kill h46.length uu),(V.kill h46.length v5),(V.kill h46.length v7),(V.kill h46.length v9),(V.kill h46.length v11),(V.kill h46.length v13),(V.kill h46.length v15),(V.kill h46.length v17),(V.kill h46.length v20),(V.kill h46.length v23),(V.kill h46.length v25),(V.kill h46.length v27),(V.kill h46.length v29),(V.kill h46.length v31),(V.kill h46.length v33),(V.kill h46.length v35),(V.kill h46.length v38),(V.kill h46.length v41),(V.kill h46.length v43),(V.kill h46.length v45),(.lit (.int .i64 0)),.junk,.junk,.junk,.junk,.junk,.junk,.junk,.junk,.junk,.junk,.junk,.junk,.junk,.junk,.junk,(V.kill h46.length uu),(V.kill h46.length uu),(V.kill h46.length uu),(V.kill h46.length uu),(V.kill h46.length uu),(V.kill h46.length uu),(V.kill h46.length uu),(V.kill h46.length uu),(V.kill h46.length uu),(V.kill h46.length uu),(V.kill h46.length uu),(V.kill h46.length uu),(V.kill h46.length uu),(V.kill h46.length uu),(V.kill h46.length uu),(V.kill h46.length uu),(V.kill h46.length uu),(V.kill h46.length uu),(V.kill h46.length uu),(V.kill h46.length uu)],bY h46.length h46⟩)):=kB
theorem ZS (k wl:Nat) (h:Hp):evF Tryz.prog xM (k+1) wl 41 [c] h=ak (xX (xS k) 41 wl k false) Tryz.f41 [c] h:=by kernel_rfl
theorem VG (P:Program) (h:Hp):av P Tryz.f41 .ret ⟨[c,d,e,o,q,j,g,u,f,y,A,z,B,F,D,E,v,G,I,L,J,N,M,O,R,T,U,W,X,Q,Y,Z,t2,t1,t0,t3,t4,t5,tb,tc,t9,ta,t7,t6,td,te,tf,tg,th,ti,tj,tk,tl,tm,tn,tp,tq,tr,ts,t8],h⟩=er [ab P 30 e h] h:=by kernel_rfl
theorem Oi (s:Sys) (K:Out→St→Option (V×Hp)) (k wl:Nat) (rd:Bool) (n n0:Nat) (h:Hp):itX (xX s 41 wl k rd) Ex n0 K (n+1) ⟨[c,d,e,o,q,j,g,u,f,y,A,z,B,F,D,E,v,G,I,L,J,N,M,O,R,T,U,W,X,Q,Y,Z,t2,t1,t0,t3,t4,t5,tb,tc,t9,ta,t7,t6,td,te,tf,tg,th,ti,tj,tk,tl,tm,tn,tp,tq,tr,ts,t8],h⟩ =
 bm (aq s.P .lss 3 R O) h fun v47 h48=>
 cnd v47 (
 bm (aa s.P 30 d 3) h48 fun v49 h50=>
 stO h48.length v49 (
 bm (ab s.P 27 v49 h50) h50 fun v51 h52=>
 bm (aa s.P 30 d 3) h52 fun v53 h54=>
 bm (ab s.P 27 v53 h54) h54 fun v55 h56=>
 bm (ai s.P 27 v55 R h56) h56 fun v57 h58=>
 bm (aa s.P 65 v57 1) h58 fun v59 h60=>
 bm (ab s.P 63 v59 h60) h60 fun v61 h62=>
 bp (cw (xX s 41 wl k rd) true true (.fn (.func 79) [] []) [v61] h62) fun v63 h64=>
 bm (ai s.P 27 v51 R h64) h64 fun v65 h66=>
 bm (aa s.P 65 v65 1) h66 fun v67 h68=>
 bs (aj s.P wl 63 v67 v63 h68) fun h69=>
 bm (aq s.P .add 3 R (.lit (.int .i64 1))) h69 fun v70 h71=>
 itX (xX s 41 wl k rd) Ex n0 K n ⟨[(V.kill n0 c),(V.kill n0 d),(V.kill n0 e),(V.kill n0 R),(V.kill n0 q),(V.kill n0 j),(V.kill n0 g),(V.kill n0 u),(V.kill n0 f),(V.kill n0 y),(V.kill n0 A),(V.kill n0 z),(V.kill n0 B),(V.kill n0 F),(V.kill n0 D),(V.kill n0 E),(V.kill n0 v),(V.kill n0 G),(V.kill n0 I),(V.kill n0 L),(V.kill n0 J),(V.kill n0 N),(V.kill n0 M),(V.kill n0 O),(V.kill n0 v70),.junk,.junk,.junk,.junk,.junk,.junk,.junk,.junk,.junk,.junk,.junk,.junk,.junk,.junk,.junk,(V.kill n0 t9),(V.kill n0 ta),(V.kill n0 t7),(V.kill n0 t6),(V.kill n0 td),(V.kill n0 te),(V.kill n0 tf),(V.kill n0 tg),(V.kill n0 th),(V.kill n0 ti),(V.kill n0 tj),(V.kill n0 tk),(V.kill n0 tl),(V.kill n0 tm),(V.kill n0 tn),(V.kill n0 tp),(V.kill n0 tq),(V.kill n0 tr),(V.kill n0 ts),(V.kill n0 t8)],bY n0 h71⟩)) (
 K (.exit 0) ⟨[(V.kill n0 c),(V.kill n0 d),(V.kill n0 e),(V.kill n0 o),(V.kill n0 q),(V.kill n0 j),(V.kill n0 g),(V.kill n0 u),(V.kill n0 f),(V.kill n0 y),(V.kill n0 A),(V.kill n0 z),(V.kill n0 B),(V.kill n0 F),(V.kill n0 D),(V.kill n0 E),(V.kill n0 v),(V.kill n0 G),(V.kill n0 I),(V.kill n0 L),(V.kill n0 J),(V.kill n0 N),(V.kill n0 M),(V.kill n0 O),.junk,.junk,.junk,.junk,.junk,.junk,.junk,.junk,.junk,.junk,.junk,.junk,.junk,.junk,.junk,.junk,(V.kill n0 t9),(V.kill n0 ta),(V.kill n0 t7),(V.kill n0 t6),(V.kill n0 td),(V.kill n0 te),(V.kill n0 tf),(V.kill n0 tg),(V.kill n0 th),(V.kill n0 ti),(V.kill n0 tj),(V.kill n0 tk),(V.kill n0 tl),(V.kill n0 tm),(V.kill n0 tn),(V.kill n0 tp),(V.kill n0 tq),(V.kill n0 tr),(V.kill n0 ts),(V.kill n0 t8)],bY n0 h48⟩):=kI
theorem AN (h:Hp):au (xX s 41 wl k false) (av s.P Tryz.f41) Eu (.exit 0) ⟨[c,d,e,o,q,j,g,u,f,y,A,z,B,F,D,E,v,G,I,L,J,N,M,O,R,T,U,W,X,Q,Y,Z,t2,t1,t0,t3,t4,t5,tb,tc,t9,ta,t7,t6,td,te,tf,tg,th,ti,tj,tk,tl,tm,tn,tp,tq,tr,ts,t8],h⟩ =
 bm (aa s.P 30 d 4) h fun v72 h73=>
 bm (ab s.P 28 v72 h73) h73 fun v74 h75=>
 bp (aX s.P 28 v74 h75) fun v76 h77=>
 yI s k wl 41 Tryz.f41 E2 h77.length E5 k ⟨[(V.kill h77.length c),(V.kill h77.length d),(V.kill h77.length e),(V.kill h77.length o),(V.kill h77.length q),(V.kill h77.length j),(V.kill h77.length g),(V.kill h77.length u),(V.kill h77.length f),(V.kill h77.length y),(V.kill h77.length A),(V.kill h77.length z),(V.kill h77.length B),(V.kill h77.length F),(V.kill h77.length D),(V.kill h77.length E),(V.kill h77.length v),(V.kill h77.length G),(V.kill h77.length I),(V.kill h77.length L),(V.kill h77.length J),(V.kill h77.length N),(V.kill h77.length M),(V.kill h77.length O),(V.kill h77.length R),(V.kill h77.length T),(V.kill h77.length U),(V.kill h77.length W),(V.kill h77.length X),(V.kill h77.length Q),(V.kill h77.length Y),(V.kill h77.length Z),(V.kill h77.length t2),(V.kill h77.length t1),(V.kill h77.length t0),(V.kill h77.length t3),(V.kill h77.length t4),(V.kill h77.length t5),(V.kill h77.length tb),(V.kill h77.length tc),(V.kill h77.length v72),(V.kill h77.length v74),(V.kill h77.length v76),(.lit (.int .i64 0)),.junk,.junk,.junk,.junk,.junk,.junk,.junk,.junk,.junk,.junk,.junk,.junk,.junk,.junk,.junk,(V.kill h77.length t8)],bY h77.length h77⟩:=kR
theorem OT (s:Sys) (K:Out→St→Option (V×Hp)) (k wl:Nat) (rd:Bool) (n n0:Nat) (h:Hp):itX (xX s 41 wl k rd) E2 n0 K (n+1) ⟨[c,d,e,o,q,j,g,u,f,y,A,z,B,F,D,E,v,G,I,L,J,N,M,O,R,T,U,W,X,Q,Y,Z,t2,t1,t0,t3,t4,t5,tb,tc,t9,ta,t7,t6,td,te,tf,tg,th,ti,tj,tk,tl,tm,tn,tp,tq,tr,ts,t8],h⟩ =
 bm (aq s.P .lss 3 t6 t7) h fun v78 h79=>
 cnd v78 (
 bm (aa s.P 30 d 4) h79 fun v80 h81=>
 stO h79.length v80 (
 bm (ab s.P 28 v80 h81) h81 fun v82 h83=>
 bm (aa s.P 30 d 4) h83 fun v84 h85=>
 bm (ab s.P 28 v84 h85) h85 fun v86 h87=>
 bm (ai s.P 28 v86 t6 h87) h87 fun v88 h89=>
 bm (aa s.P 57 v88 1) h89 fun v90 h91=>
 bm (ab s.P 53 v90 h91) h91 fun v92 h93=>
 bp (cw (xX s 41 wl k rd) true true (.fn (.func 80) [] []) [v92] h93) fun v94 h95=>
 bm (ai s.P 28 v82 t6 h95) h95 fun v96 h97=>
 bm (aa s.P 57 v96 1) h97 fun v98 h99=>
 bs (aj s.P wl 53 v98 v94 h99) fun h100=>
 bm (aq s.P .add 3 t6 (.lit (.int .i64 1))) h100 fun v101 h102=>
 itX (xX s 41 wl k rd) E2 n0 K n ⟨[(V.kill n0 c),(V.kill n0 d),(V.kill n0 e),(V.kill n0 o),(V.kill n0 t6),(V.kill n0 j),(V.kill n0 g),(V.kill n0 u),(V.kill n0 f),(V.kill n0 y),(V.kill n0 A),(V.kill n0 z),(V.kill n0 B),(V.kill n0 F),(V.kill n0 D),(V.kill n0 E),(V.kill n0 v),(V.kill n0 G),(V.kill n0 I),(V.kill n0 L),(V.kill n0 J),(V.kill n0 N),(V.kill n0 M),(V.kill n0 O),(V.kill n0 R),(V.kill n0 T),(V.kill n0 U),(V.kill n0 W),(V.kill n0 X),(V.kill n0 Q),(V.kill n0 Y),(V.kill n0 Z),(V.kill n0 t2),(V.kill n0 t1),(V.kill n0 t0),(V.kill n0 t3),(V.kill n0 t4),(V.kill n0 t5),(V.kill n0 tb),(V.kill n0 tc),(V.kill n0 t9),(V.kill n0 ta),(V.kill n0 t7),(V.kill n0 v101),.junk,.junk,.junk,.junk,.junk,.junk,.junk,.junk,.junk,.junk,.junk,.junk,.junk,.junk,.junk,(V.kill n0 t8)],bY n0 h102⟩)) (
 K (.exit 2) ⟨[(V.kill n0 c),(V.kill n0 d),(V.kill n0 e),(V.kill n0 o),(V.kill n0 q),(V.kill n0 j),(V.kill n0 g),(V.kill n0 u),(V.kill n0 f),(V.kill n0 y),(V.kill n0 A),(V.kill n0 z),(V.kill n0 B),(V.kill n0 F),(V.kill n0 D),(V.kill n0 E),(V.kill n0 v),(V.kill n0 G),(V.kill n0 I),(V.kill n0 L),(V.kill n0 J),(V.kill n0 N),(V.kill n0 M),(V.kill n0 O),(V.kill n0 R),(V.kill n0 T),(V.kill n0 U),(V.kill n0 W),(V.kill n0 X),(V.kill n0 Q),(V.kill n0 Y),(V.kill n0 Z),(V.kill n0 t2),(V.kill n0 t1),(V.kill n0 t0),(V.kill n0 t3),(V.kill n0 t4),(V.kill n0 t5),(V.kill n0 tb),(V.kill n0 tc),(V.kill n0 t9),(V.kill n0 ta),(V.kill n0 t7),.junk,.junk,.junk,.junk,.junk,.junk,.junk,.junk,.junk,.junk,.junk,.junk,.junk,.junk,.junk,.junk,(V.kill n0 t8)],bY n0 h79⟩):=kI
theorem A0 (h:Hp):au (xX s 41 wl k false) (av s.P Tryz.f41) E5 (.exit 2) ⟨[c,d,e,o,q,j,g,u,f,y,A,z,B,F,D,E,v,G,I,L,J,N,M,O,R,T,U,W,X,Q,Y,Z,t2,t1,t0,t3,t4,t5,tb,tc,t9,ta,t7,t6,td,te,tf,tg,th,ti,tj,tk,tl,tm,tn,tp,tq,tr,ts,t8],h⟩ =
 bm (ab s.P 30 d h) h fun v103 h104=>
 bs (aj s.P wl 30 e v103 h104) fun h105=>
 er [ab s.P 30 e h105] h105:=kR
theorem iY (cx:Cx) (K:Out→St→Option (V×Hp)) (s:St):au cx K Eu .ret s=K .ret s:=by kernel_rfl
theorem iZ (cx:Cx) (K:Out→St→Option (V×Hp)) (s:St):au cx K E5 .ret s=K .ret s:=by kernel_rfl
-- names: Xa,VG,Oi,AN,OT,A0,iY,iZ
noncomputable def Eh:List Fr:=[.seq (al (am Tryz.f43) [1,1,1])]
theorem XV (h:Hp):ak (xX s 43 wl k false) Tryz.f43 [c,d] h =
 bp (aJ c h) fun v1 h2=>
 bp (aJ d h2) fun v3 h4=>
 bp (ar s.P 34 h4) fun v5 h6=>
 bp (some (.map h6.length,h6++[.map []])) fun v7 h8=>
 bs (dX s.P wl 138 v7 (.lit (.int .i64 0)) (.fn (.func 82) [] [v1,v3,v5]) h8) fun h9=>
 bs (dX s.P wl 138 v7 (.lit (.int .i64 1)) (.fn (.func 84) [] [v1,v3,v5]) h9) fun h10=>
 bs (dX s.P wl 138 v7 (.lit (.int .i64 2)) (.fn (.func 87) [] [v1]) h10) fun h11=>
 bm (aa s.P 48 v3 0) h11 fun v12 h13=>
 bm (ab s.P 3 v12 h13) h13 fun v14 h15=>
 bm (fc s.P 138 v7 v14 true h15) h15 fun v16 h17=>
 bm (ao v16 0) h17 fun v18 h19=>
 bm (ao v16 1) h19 fun v20 h21=>
 cnd v20 (
 bp (yC s k wl 43 false true v18 [] h21) fun v22 h23=>
 au (xX s 43 wl k false) (av s.P Tryz.f43) Eh .norm ⟨[c,d,v1,v3,v5,v7,v18,v20,v7,(.fn (.func 82) [] [v1,v3,v5]),(.fn (.func 84) [] [v1,v3,v5]),(.fn (.func 87) [] [v1]),v7,v16,v7,v12,v14,v16,v18,v20,v20,v18,v22,uu],h23⟩) (
 au (xX s 43 wl k false) (av s.P Tryz.f43) Eh .norm ⟨[c,d,v1,v3,v5,v7,v18,v20,v7,(.fn (.func 82) [] [v1,v3,v5]),(.fn (.func 84) [] [v1,v3,v5]),(.fn (.func 87) [] [v1]),v7,v16,v7,v12,v14,v16,v18,v20,v20,uu,uu,uu],h21⟩):=kB
theorem ZQ (k wl:Nat) (h:Hp):evF Tryz.prog xM (k+1) wl 43 [c,d] h=ak (xX (xS k) 43 wl k false) Tryz.f43 [c,d] h:=by kernel_rfl
theorem AC (h:Hp):au (xX s 43 wl k false) (av s.P Tryz.f43) Eh .norm ⟨[c,d,e,o,q,j,g,u,f,y,A,z,B,F,D,E,v,G,I,L,J,N,M,O],h⟩ =
 bm (ab s.P 34 q h) h fun v24 h25=>
 bs (aj s.P wl 34 q v24 h25) fun h26=>
 er [ab s.P 34 q h26] h26:=kR
theorem iV (cx:Cx) (K:Out→St→Option (V×Hp)) (s:St):au cx K Eh .ret s=K .ret s:=by kernel_rfl
-- names: XV,AC,iV
noncomputable def Fa:Code:=al (am Tryz.f46) [1,1,0,1,0,0]
noncomputable def Ep:List Fr:=[.block 0,.seq (al (am Tryz.f46) [1,1,1])]
theorem Zv (h:Hp):ak (xX s 46 wl k false) Tryz.f46 [c,d,e] h =
 bp (aX s.P 27 c h) fun v1 h2=>
 bp (aX s.P 27 d h2) fun v3 h4=>
 bm (aq s.P .neq 3 v1 v3) h4 fun v5 h6=>
 cnd v5 (
 some ((.lit (.bool false)),h6)) (
 bp (aX s.P 27 c h6) fun v7 h8=>
 yI s k wl 46 Tryz.f46 Fa h8.length Ep k ⟨[(V.kill h8.length c),(V.kill h8.length d),(V.kill h8.length e),(V.kill h8.length uu),(V.kill h8.length uu),(V.kill h8.length uu),(.lit (.bool false)),(V.kill h8.length uu),(V.kill h8.length uu),(V.kill h8.length uu),(V.kill h8.length c),(V.kill h8.length v1),(V.kill h8.length d),(V.kill h8.length v3),(V.kill h8.length v5),(V.kill h8.length c),(V.kill h8.length v7),(.lit (.int .i64 0)),.junk,.junk,.junk,.junk,.junk,.junk,.junk,.junk,.junk,.junk,.junk,.junk,.junk,.junk],bY h8.length h8⟩):=kB
theorem aby (k wl:Nat) (h:Hp):evF Tryz.prog xM (k+1) wl 46 [c,d,e] h=ak (xX (xS k) 46 wl k false) Tryz.f46 [c,d,e] h:=by kernel_rfl
theorem Zr (P:Program) (h:Hp):av P Tryz.f46 .ret ⟨[c,d,e,o,q,j,g,u,f,y,A,z,B,F,D,E,v,G,I,L,J,N,M,O,R,T,U,W,X,Q,Y,Z],h⟩=some (g,h):=by kernel_rfl
theorem O7 (s:Sys) (K:Out→St→Option (V×Hp)) (k wl:Nat) (rd:Bool) (n n0:Nat) (h:Hp):itX (xX s 46 wl k rd) Fa n0 K (n+1) ⟨[c,d,e,o,q,j,g,u,f,y,A,z,B,F,D,E,v,G,I,L,J,N,M,O,R,T,U,W,X,Q,Y,Z],h⟩ =
 bm (aq s.P .lss 3 G v) h fun v9 h10=>
 cnd v9 (
 bm (ai s.P 27 E G h10) h10 fun v11 h12=>
 bm (ab s.P 65 v11 h12) h12 fun v13 h14=>
 bp (ar s.P 65 h14) fun v15 h16=>
 bs (aj s.P wl 65 v15 v13 h16) fun h17=>
 bm (ai s.P 27 d G h17) h17 fun v18 h19=>
 bm (ab s.P 65 v18 h19) h19 fun v20 h21=>
 bp (ar s.P 65 h21) fun v22 h23=>
 bs (aj s.P wl 65 v22 v20 h23) fun h24=>
 bm (ab s.P 65 v15 h24) h24 fun v25 h26=>
 bm (ab s.P 65 v22 h26) h26 fun v27 h28=>
 bp (cw (xX s 46 wl k rd) false true e [v25,v27] h28) fun v29 h30=>
 bm (vUn .not v29) h30 fun v31 h32=>
 cnd v31 (
 K .ret ⟨[c,d,e,o,q,j,(.lit (.bool false)),G,v15,v22,A,z,B,F,D,E,v,G,v9,G,v11,v13,d,G,v18,v20,e,v25,v27,v29,v31,Z],h32⟩) (
 bm (aq s.P .add 3 G (.lit (.int .i64 1))) h32 fun v33 h34=>
 itX (xX s 46 wl k rd) Fa n0 K n ⟨[(V.kill n0 c),(V.kill n0 d),(V.kill n0 e),(V.kill n0 o),(V.kill n0 q),(V.kill n0 j),(V.kill n0 g),(V.kill n0 G),(V.kill n0 v15),(V.kill n0 v22),(V.kill n0 A),(V.kill n0 z),(V.kill n0 B),(V.kill n0 F),(V.kill n0 D),(V.kill n0 E),(V.kill n0 v),(V.kill n0 v33),.junk,.junk,.junk,.junk,.junk,.junk,.junk,.junk,.junk,.junk,.junk,.junk,.junk,.junk],bY n0 h34⟩)) (
 K (.exit 0) ⟨[(V.kill n0 c),(V.kill n0 d),(V.kill n0 e),(V.kill n0 o),(V.kill n0 q),(V.kill n0 j),(V.kill n0 g),(V.kill n0 u),(V.kill n0 f),(V.kill n0 y),(V.kill n0 A),(V.kill n0 z),(V.kill n0 B),(V.kill n0 F),(V.kill n0 D),(V.kill n0 E),(V.kill n0 v),.junk,.junk,.junk,.junk,.junk,.junk,.junk,.junk,.junk,.junk,.junk,.junk,.junk,.junk,.junk],bY n0 h10⟩):=kI
theorem EC (h:Hp):au (xX s 46 wl k false) (av s.P Tryz.f46) Ep (.exit 0) ⟨[c,d,e,o,q,j,g,u,f,y,A,z,B,F,D,E,v,G,I,L,J,N,M,O,R,T,U,W,X,Q,Y,Z],h⟩ =
 some ((.lit (.bool true)),h):=kR
theorem lh (cx:Cx) (K:Out→St→Option (V×Hp)) (s:St):au cx K Ep .ret s=K .ret s:=by kernel_rfl
-- names: Zv,Zr,O7,EC,lh
noncomputable def D9:Code:=al (am Tryz.f48) [1,1,0,1,0,0]
noncomputable def E1:List Fr:=[.block 0,.seq (al (am Tryz.f48) [1,1,1])]
theorem ZM (h:Hp):ak (xX s 48 wl k false) Tryz.f48 [c,d,e] h =
 bp (aX s.P 28 c h) fun v1 h2=>
 bp (aX s.P 28 d h2) fun v3 h4=>
 bm (aq s.P .neq 3 v1 v3) h4 fun v5 h6=>
 cnd v5 (
 some ((.lit (.bool false)),h6)) (
 bp (aX s.P 28 c h6) fun v7 h8=>
 yI s k wl 48 Tryz.f48 D9 h8.length E1 k ⟨[(V.kill h8.length c),(V.kill h8.length d),(V.kill h8.length e),(V.kill h8.length uu),(V.kill h8.length uu),(V.kill h8.length uu),(.lit (.bool false)),(V.kill h8.length uu),(V.kill h8.length uu),(V.kill h8.length uu),(V.kill h8.length c),(V.kill h8.length v1),(V.kill h8.length d),(V.kill h8.length v3),(V.kill h8.length v5),(V.kill h8.length c),(V.kill h8.length v7),(.lit (.int .i64 0)),.junk,.junk,.junk,.junk,.junk,.junk,.junk,.junk,.junk,.junk,.junk,.junk,.junk,.junk],bY h8.length h8⟩):=kB
theorem aco (k wl:Nat) (h:Hp):evF Tryz.prog xM (k+1) wl 48 [c,d,e] h=ak (xX (xS k) 48 wl k false) Tryz.f48 [c,d,e] h:=by kernel_rfl
theorem ZC (P:Program) (h:Hp):av P Tryz.f48 .ret ⟨[c,d,e,o,q,j,g,u,f,y,A,z,B,F,D,E,v,G,I,L,J,N,M,O,R,T,U,W,X,Q,Y,Z],h⟩=some (g,h):=by kernel_rfl
theorem O4 (s:Sys) (K:Out→St→Option (V×Hp)) (k wl:Nat) (rd:Bool) (n n0:Nat) (h:Hp):itX (xX s 48 wl k rd) D9 n0 K (n+1) ⟨[c,d,e,o,q,j,g,u,f,y,A,z,B,F,D,E,v,G,I,L,J,N,M,O,R,T,U,W,X,Q,Y,Z],h⟩ =
 bm (aq s.P .lss 3 G v) h fun v9 h10=>
 cnd v9 (
 bm (ai s.P 28 E G h10) h10 fun v11 h12=>
 bm (ab s.P 57 v11 h12) h12 fun v13 h14=>
 bp (ar s.P 57 h14) fun v15 h16=>
 bs (aj s.P wl 57 v15 v13 h16) fun h17=>
 bm (ai s.P 28 d G h17) h17 fun v18 h19=>
 bm (ab s.P 57 v18 h19) h19 fun v20 h21=>
 bp (ar s.P 57 h21) fun v22 h23=>
 bs (aj s.P wl 57 v22 v20 h23) fun h24=>
 bm (ab s.P 57 v15 h24) h24 fun v25 h26=>
 bm (ab s.P 57 v22 h26) h26 fun v27 h28=>
 bp (cw (xX s 48 wl k rd) false true e [v25,v27] h28) fun v29 h30=>
 bm (vUn .not v29) h30 fun v31 h32=>
 cnd v31 (
 K .ret ⟨[c,d,e,o,q,j,(.lit (.bool false)),G,v15,v22,A,z,B,F,D,E,v,G,v9,G,v11,v13,d,G,v18,v20,e,v25,v27,v29,v31,Z],h32⟩) (
 bm (aq s.P .add 3 G (.lit (.int .i64 1))) h32 fun v33 h34=>
 itX (xX s 48 wl k rd) D9 n0 K n ⟨[(V.kill n0 c),(V.kill n0 d),(V.kill n0 e),(V.kill n0 o),(V.kill n0 q),(V.kill n0 j),(V.kill n0 g),(V.kill n0 G),(V.kill n0 v15),(V.kill n0 v22),(V.kill n0 A),(V.kill n0 z),(V.kill n0 B),(V.kill n0 F),(V.kill n0 D),(V.kill n0 E),(V.kill n0 v),(V.kill n0 v33),.junk,.junk,.junk,.junk,.junk,.junk,.junk,.junk,.junk,.junk,.junk,.junk,.junk,.junk],bY n0 h34⟩)) (
 K (.exit 0) ⟨[(V.kill n0 c),(V.kill n0 d),(V.kill n0 e),(V.kill n0 o),(V.kill n0 q),(V.kill n0 j),(V.kill n0 g),(V.kill n0 u),(V.kill n0 f),(V.kill n0 y),(V.kill n0 A),(V.kill n0 z),(V.kill n0 B),(V.kill n0 F),(V.kill n0 D),(V.kill n0 E),(V.kill n0 v),.junk,.junk,.junk,.junk,.junk,.junk,.junk,.junk,.junk,.junk,.junk,.junk,.junk,.junk,.junk],bY n0 h10⟩):=kI
theorem EZ (h:Hp):au (xX s 48 wl k false) (av s.P Tryz.f48) E1 (.exit 0) ⟨[c,d,e,o,q,j,g,u,f,y,A,z,B,F,D,E,v,G,I,L,J,N,M,O,R,T,U,W,X,Q,Y,Z],h⟩ =
 some ((.lit (.bool true)),h):=kR
theorem lB (cx:Cx) (K:Out→St→Option (V×Hp)) (s:St):au cx K E1 .ret s=K .ret s:=by kernel_rfl
-- names: ZM,ZC,O4,EZ,lB
theorem Xh (h:Hp):ak (xX s 51 wl k false) Tryz.f51 [c] h =
 bp (aJ c h) fun v1 h2=>
 some ((.fn (.func 94) [] [v1]),h2):=kB
theorem Zt (k wl:Nat) (h:Hp):evF Tryz.prog xM (k+1) wl 51 [c] h=ak (xX (xS k) 51 wl k false) Tryz.f51 [c] h:=by kernel_rfl
-- names: Xh,
noncomputable def cr:Code:=al (am Tryz.f53) [1,1,0]
noncomputable def cp:List Fr:=[.seq (al (am Tryz.f53) [1,1,1])]
theorem Vf (h:Hp):ak (xX s 53 wl k false) Tryz.f53 [c,d] h =
 bp (aJ c h) fun v1 h2=>
 bm (aa s.P 57 v1 0) h2 fun v3 h4=>
 bm (ab s.P 3 v3 h4) h4 fun v5 h6=>
 bm (aq s.P .lss 3 v5 (.lit (.int .i64 0))) h6 fun v7 h8=>
 gd v7 (
 yO s k wl 53 Tryz.f53 cr 7 h2.length ([],[]) cp ⟨[c,d,v1,(.lit (.bool false)),(.fn (.func 54) [] [d]),(.fn (.func 54) [] [d]),v3,v5,v7,(.lit (.bool true)),uu,uu,uu,uu,uu,uu,uu,uu,uu,uu,uu,uu,uu,uu,uu,uu,uu,uu,uu,uu,uu],h8⟩) (
 bm (aa s.P 57 v1 0) h8 fun v9 h10=>
 bm (ab s.P 3 v9 h10) h10 fun v11 h12=>
 bm (aq s.P .geq 3 v11 (.lit (.int .i64 6))) h12 fun v13 h14=>
 yO s k wl 53 Tryz.f53 cr 7 h2.length ([],[]) cp ⟨[c,d,v1,(.lit (.bool false)),(.fn (.func 54) [] [d]),(.fn (.func 54) [] [d]),v3,v5,v7,(.lit (.bool false)),v9,v11,v13,uu,uu,uu,uu,uu,uu,uu,uu,uu,uu,uu,uu,uu,uu,uu,uu,uu,uu],h14⟩) (
 yO s k wl 53 Tryz.f53 cr 5 h2.length ([],[]) cp ⟨[c,d,v1,(.lit (.bool false)),(.fn (.func 54) [] [d]),(.fn (.func 54) [] [d]),v3,v5,v7,v7,uu,uu,uu,uu,uu,uu,uu,uu,uu,uu,uu,uu,uu,uu,uu,uu,uu,uu,uu,uu,uu],h8⟩):=kB
theorem ZD (k wl:Nat) (h:Hp):evF Tryz.prog xM (k+1) wl 53 [c,d] h=ak (xX (xS k) 53 wl k false) Tryz.f53 [c,d] h:=by kernel_rfl
theorem BQ (zz:List V) (h:Hp):yO s k wl 53 Tryz.f53 cr 7 m0 ac cp ⟨(c::d::e::o::q::j::g::u::f::y::A::z::B::F::D::E::v::G::I::zz),h⟩ =
 bm (aO y (.lit (.bool true)) B) h fun v15 h16=>
 gd v15 (
 yO s k wl 53 Tryz.f53 cr 13 m0 ac cp ⟨(c::d::e::o::q::j::g::u::f::y::A::z::B::v15::(.lit (.bool true))::uu::uu::uu::uu::zz),h16⟩) (
 bm (aa s.P 57 e 1) h16 fun v17 h18=>
 bm (ab s.P 53 v17 h18) h18 fun v19 h20=>
 bp (yC s k wl 53 false true (.fn (.func 55) [] []) [v19,q] h20) fun v21 h22=>
 yO s k wl 53 Tryz.f53 cr 13 m0 ac cp ⟨(c::d::e::o::q::j::g::u::f::y::A::z::B::v15::(.lit (.bool false))::v17::v19::q::v21::zz),h22⟩) (
 yO s k wl 53 Tryz.f53 cr 10 m0 ac cp ⟨(c::d::e::o::q::j::g::u::f::y::A::z::B::v15::v15::uu::v::G::I::zz),h16⟩):=kG
theorem Bi (h:Hp):yO s k wl 53 Tryz.f53 cr 13 m0 ac cp ⟨[c,d,e,o,q,j,g,u,f,y,A,z,B,F,D,E,v,G,I,L,J,N,M,O,R,T,U,W,X,Q,Y],h⟩ =
 bm (aO D (.lit (.bool true)) I) h fun v23 h24=>
 gd v23 (
 yO s k wl 53 Tryz.f53 cr 24 m0 ac cp ⟨[c,d,e,o,q,j,g,u,f,y,A,z,B,F,D,E,v,G,I,v23,(.lit (.bool true)),uu,uu,uu,uu,uu,uu,uu,uu,uu,Y],h24⟩) (
 bm (aa s.P 57 e 0) h24 fun v25 h26=>
 bm (ab s.P 3 v25 h26) h26 fun v27 h28=>
 bm (aq s.P .neq 3 v27 (.lit (.int .i64 0))) h28 fun v29 h30=>
 yO s k wl 53 Tryz.f53 cr 19 m0 ac cp ⟨[c,d,e,o,q,j,g,u,f,y,A,z,B,F,D,E,v,G,I,v23,(.lit (.bool false)),v25,v27,v29,v29,T,U,W,X,Q,Y],h30⟩) (
 yO s k wl 53 Tryz.f53 cr 16 m0 ac cp ⟨[c,d,e,o,q,j,g,u,f,y,A,z,B,F,D,E,v,G,I,v23,v23,uu,M,O,R,T,U,W,X,Q,Y],h24⟩):=kG
theorem AK (h:Hp):yO s k wl 53 Tryz.f53 cr 24 m0 ac cp ⟨[c,d,e,o,q,j,g,u,f,y,A,z,B,F,D,E,v,G,I,L,J,N,M,O,R,T,U,W,X,Q,Y],h⟩ =
 bm (aO J (.lit (.bool true)) Q) h fun v31 h32=>
 some (v31,h32):=kG
theorem AJ (h:Hp):yO s k wl 53 Tryz.f53 cr 19 m0 ac cp ⟨[c,d,e,o,q,j,g,u,f,y,A,z,B,F,D,E,v,G,I,L,J,N,M,O,R,T,U,W,X,Q,Y],h⟩ =
 gd R (
 bm (aa s.P 57 e 1) h fun v33 h34=>
 bm (ab s.P 53 v33 h34) h34 fun v35 h36=>
 bp (aX s.P 53 v35 h36) fun v37 h38=>
 bm (aq s.P .eql 3 v37 (.lit (.int .i64 0))) h38 fun v39 h40=>
 yO s k wl 53 Tryz.f53 cr 23 m0 ac cp ⟨[c,d,e,o,q,j,g,u,f,y,A,z,B,F,D,E,v,G,I,L,J,N,M,O,(.lit (.bool true)),v33,v35,v37,v39,Q,Y],h40⟩) (
 yO s k wl 53 Tryz.f53 cr 23 m0 ac cp ⟨[c,d,e,o,q,j,g,u,f,y,A,z,B,F,D,E,v,G,I,L,J,N,M,O,(.lit (.bool false)),uu,uu,uu,uu,Q,Y],h⟩) (
 yO s k wl 53 Tryz.f53 cr 20 m0 ac cp ⟨[c,d,e,o,q,j,g,u,f,y,A,z,B,F,D,E,v,G,I,L,J,N,M,O,R,uu,U,W,X,Q,Y],h⟩):=kG
theorem xH (h:Hp):yO s k wl 53 Tryz.f53 cr 23 m0 ac cp ⟨[c,d,e,o,q,j,g,u,f,y,A,z,B,F,D,E,v,G,I,L,J,N,M,O,R,T,U,W,X,Q,Y],h⟩ =
 gd J (
 yO s k wl 53 Tryz.f53 cr 24 m0 ac cp ⟨[c,d,e,o,q,j,g,u,f,y,A,z,B,F,D,E,v,G,I,L,(.lit (.bool true)),N,M,O,R,T,U,W,X,uu,Y],h⟩) (
 bm (aO R X (.lit (.bool false))) h fun v41 h42=>
 yO s k wl 53 Tryz.f53 cr 24 m0 ac cp ⟨[c,d,e,o,q,j,g,u,f,y,A,z,B,F,D,E,v,G,I,L,(.lit (.bool false)),N,M,O,R,T,U,W,X,v41,Y],h42⟩) (
 yO s k wl 53 Tryz.f53 cr 24 m0 ac cp ⟨[c,d,e,o,q,j,g,u,f,y,A,z,B,F,D,E,v,G,I,L,J,N,M,O,R,T,U,W,X,uu,Y],h⟩):=kG
theorem BD (h:Hp):yO s k wl 53 Tryz.f53 cr 20 m0 ac cp ⟨[c,d,e,o,q,j,g,u,f,y,A,z,B,F,D,E,v,G,I,L,J,N,M,O,R,T,U,W,X,Q,Y],h⟩ =
 gd R (
 bm (ab s.P 53 T h) h fun v43 h44=>
 bp (aX s.P 53 v43 h44) fun v45 h46=>
 bm (aq s.P .eql 3 v45 (.lit (.int .i64 0))) h46 fun v47 h48=>
 yO s k wl 53 Tryz.f53 cr 23 m0 ac cp ⟨[c,d,e,o,q,j,g,u,f,y,A,z,B,F,D,E,v,G,I,L,J,N,M,O,(.lit (.bool true)),T,v43,v45,v47,Q,Y],h48⟩) (
 yO s k wl 53 Tryz.f53 cr 23 m0 ac cp ⟨[c,d,e,o,q,j,g,u,f,y,A,z,B,F,D,E,v,G,I,L,J,N,M,O,(.lit (.bool false)),T,uu,uu,uu,Q,Y],h⟩) (
 yO s k wl 53 Tryz.f53 cr 21 m0 ac cp ⟨[c,d,e,o,q,j,g,u,f,y,A,z,B,F,D,E,v,G,I,L,J,N,M,O,R,T,uu,W,X,Q,Y],h⟩):=kG
theorem AP (h:Hp):yO s k wl 53 Tryz.f53 cr 21 m0 ac cp ⟨[c,d,e,o,q,j,g,u,f,y,A,z,B,F,D,E,v,G,I,L,J,N,M,O,R,T,U,W,X,Q,Y],h⟩ =
 gd R (
 bp (aX s.P 53 U h) fun v49 h50=>
 bm (aq s.P .eql 3 v49 (.lit (.int .i64 0))) h50 fun v51 h52=>
 yO s k wl 53 Tryz.f53 cr 23 m0 ac cp ⟨[c,d,e,o,q,j,g,u,f,y,A,z,B,F,D,E,v,G,I,L,J,N,M,O,(.lit (.bool true)),T,U,v49,v51,Q,Y],h52⟩) (
 yO s k wl 53 Tryz.f53 cr 23 m0 ac cp ⟨[c,d,e,o,q,j,g,u,f,y,A,z,B,F,D,E,v,G,I,L,J,N,M,O,(.lit (.bool false)),T,U,uu,uu,Q,Y],h⟩) (
 yO s k wl 53 Tryz.f53 cr 22 m0 ac cp ⟨[c,d,e,o,q,j,g,u,f,y,A,z,B,F,D,E,v,G,I,L,J,N,M,O,R,T,U,uu,X,Q,Y],h⟩):=kG
theorem xU (h:Hp):yO s k wl 53 Tryz.f53 cr 22 m0 ac cp ⟨[c,d,e,o,q,j,g,u,f,y,A,z,B,F,D,E,v,G,I,L,J,N,M,O,R,T,U,W,X,Q,Y],h⟩ =
 gd R (
 bm (aq s.P .eql 3 W (.lit (.int .i64 0))) h fun v53 h54=>
 yO s k wl 53 Tryz.f53 cr 23 m0 ac cp ⟨[c,d,e,o,q,j,g,u,f,y,A,z,B,F,D,E,v,G,I,L,J,N,M,O,(.lit (.bool true)),T,U,W,v53,Q,Y],h54⟩) (
 yO s k wl 53 Tryz.f53 cr 23 m0 ac cp ⟨[c,d,e,o,q,j,g,u,f,y,A,z,B,F,D,E,v,G,I,L,J,N,M,O,(.lit (.bool false)),T,U,W,uu,Q,Y],h⟩) (
 yO s k wl 53 Tryz.f53 cr 23 m0 ac cp ⟨[c,d,e,o,q,j,g,u,f,y,A,z,B,F,D,E,v,G,I,L,J,N,M,O,R,T,U,W,uu,Q,Y],h⟩):=kG
theorem iD (cx:Cx) (K:Out→St→Option (V×Hp)) (s:St):au cx K cp .ret s=K .ret s:=by kernel_rfl
-- names: Vf,BQ,Bi,AK,AJ,xH,BD,AP,xU,iD
noncomputable def EY:Code:=al (am Tryz.f54) [1,0]
noncomputable def Bd:List Fr:=[.seq (al (am Tryz.f54) [1,1])]
theorem VF (h:Hp):ak (xX s 54 wl k false) Tryz.f54 [c,d] h =
 bm (aq s.P .lss 3 c (.lit (.int .i64 0))) h fun v1 h2=>
 gd v1 (
 yO s k wl 54 Tryz.f54 EY 8 h.length ([],[]) Bd ⟨[c,d,uu,(.lit (.bool false)),c,v1,(.lit (.bool true)),uu,uu,uu,uu,uu,uu],h2⟩) (
 bm (aa s.P 30 d 1) h2 fun v3 h4=>
 bm (ab s.P 24 v3 h4) h4 fun v5 h6=>
 bp (aX s.P 24 v5 h6) fun v7 h8=>
 bm (aq s.P .geq 3 c v7) h8 fun v9 h10=>
 yO s k wl 54 Tryz.f54 EY 8 h.length ([],[]) Bd ⟨[c,d,uu,(.lit (.bool false)),c,v1,(.lit (.bool false)),c,v3,v5,v7,v9,uu],h10⟩) (
 yO s k wl 54 Tryz.f54 EY 4 h.length ([],[]) Bd ⟨[c,d,uu,(.lit (.bool false)),c,v1,v1,uu,uu,uu,uu,uu,uu],h2⟩):=kB
theorem ZP (k wl:Nat) (h:Hp):evF Tryz.prog xM (k+1) wl 54 [c,d] h=ak (xX (xS k) 54 wl k false) Tryz.f54 [c,d] h:=by kernel_rfl
theorem BL (h:Hp):yO s k wl 54 Tryz.f54 EY 8 m0 ac Bd ⟨[c,d,e,o,q,j,g,u,f,y,A,z,B],h⟩ =
 bm (aO g (.lit (.bool true)) z) h fun v11 h12=>
 some (v11,h12):=kG
theorem ix (cx:Cx) (K:Out→St→Option (V×Hp)) (s:St):au cx K Bd .ret s=K .ret s:=by kernel_rfl
-- names: VF,BL,ix
noncomputable def DR:Code:=al (am Tryz.f58) [1,1,0,1,0,0]
noncomputable def DL:List Fr:=[.block 0,.seq (al (am Tryz.f58) [1,1,1])]
theorem ab9 (h:Hp):ak (xX s 58 wl k false) Tryz.f58 [c] h =
 bp (some (.own h.length 0 0,h++[.rows 0 [] 0 true])) fun v1 h2=>
 bp (yC s k wl 58 false true (.fn (.func 102) [] []) [c] h2) fun v3 h4=>
 bp (aX s.P 24 v3 h4) fun v5 h6=>
 yI s k wl 58 Tryz.f58 DR h6.length DL k ⟨[(V.kill h6.length c),(V.kill h6.length uu),(V.kill h6.length v1),(V.kill h6.length v3),(V.kill h6.length uu),(V.kill h6.length c),(V.kill h6.length v3),(V.kill h6.length v3),(V.kill h6.length v5),(.lit (.int .i64 0)),.junk,.junk,.junk,.junk,.junk,.junk,.junk,.junk,.junk,.junk,.junk,.junk,.junk,(V.kill h6.length uu)],bY h6.length h6⟩:=kB
theorem aeq (k wl:Nat) (h:Hp):evF Tryz.prog xM (k+1) wl 58 [c] h=ak (xX (xS k) 58 wl k false) Tryz.f58 [c] h:=by kernel_rfl
theorem acm (P:Program) (h:Hp):av P Tryz.f58 .ret ⟨[c,d,e,o,q,j,g,u,f,y,A,z,B,F,D,E,v,G,I,L,J,N,M,O],h⟩=some (e,h):=by kernel_rfl
theorem OO (s:Sys) (K:Out→St→Option (V×Hp)) (k wl:Nat) (rd:Bool) (n n0:Nat) (h:Hp):itX (xX s 58 wl k rd) DR n0 K (n+1) ⟨[c,d,e,o,q,j,g,u,f,y,A,z,B,F,D,E,v,G,I,L,J,N,M,O],h⟩ =
 bm (aq s.P .lss 3 y f) h fun v7 h8=>
 cnd v7 (
 bm (ai s.P 24 o y h8) h8 fun v9 h10=>
 bm (aa s.P 101 v9 1) h10 fun v11 h12=>
 bm (ab s.P 53 v11 h12) h12 fun v13 h14=>
 bp (cw (xX s 58 wl k rd) false true (.fn (.func 80) [] []) [v13] h14) fun v15 h16=>
 bm (ai s.P 24 o y h16) h16 fun v17 h18=>
 bm (aa s.P 101 v17 1) h18 fun v19 h20=>
 bs (aj s.P wl 53 v19 v15 h20) fun h21=>
 bm (aq s.P .add 3 y (.lit (.int .i64 1))) h21 fun v22 h23=>
 itX (xX s 58 wl k rd) DR n0 K n ⟨[(V.kill n0 c),(V.kill n0 d),(V.kill n0 e),(V.kill n0 o),(V.kill n0 y),(V.kill n0 j),(V.kill n0 g),(V.kill n0 u),(V.kill n0 f),(V.kill n0 v22),.junk,.junk,.junk,.junk,.junk,.junk,.junk,.junk,.junk,.junk,.junk,.junk,.junk,(V.kill n0 O)],bY n0 h23⟩) (
 K (.exit 0) ⟨[(V.kill n0 c),(V.kill n0 d),(V.kill n0 e),(V.kill n0 o),(V.kill n0 q),(V.kill n0 j),(V.kill n0 g),(V.kill n0 u),(V.kill n0 f),.junk,.junk,.junk,.junk,.junk,.junk,.junk,.junk,.junk,.junk,.junk,.junk,.junk,.junk,(V.kill n0 O)],bY n0 h8⟩):=kI
theorem H0 (h:Hp):au (xX s 58 wl k false) (av s.P Tryz.f58) DL (.exit 0) ⟨[c,d,e,o,q,j,g,u,f,y,A,z,B,F,D,E,v,G,I,L,J,N,M,O],h⟩ =
 some (o,h):=kR
theorem ni (cx:Cx) (K:Out→St→Option (V×Hp)) (s:St):au cx K DL .ret s=K .ret s:=by kernel_rfl
-- names: ab9,acm,OO,H0,ni
theorem YG (h:Hp):ak (xX s 82 wl k false) Tryz.f82 [c,d,e] h =
 stO h.length c (
 bm (ab s.P 86 c h) h fun v1 h2=>
 stO h.length c (
 bm (ab s.P 86 c h2) h2 fun v3 h4=>
 stO h.length v3 (
 bm (aL v3 h4) h4 fun v5 h6=>
 bm (aa s.P 30 v5 3) h6 fun v7 h8=>
 stO h.length v7 (
 bm (ab s.P 27 v7 h8) h8 fun v9 h10=>
 bm (aa s.P 48 d 1) h10 fun v11 h12=>
 stO h.length v11 (
 bm (ab s.P 3 v11 h12) h12 fun v13 h14=>
 bm (ab s.P 86 c h14) h14 fun v15 h16=>
 bm (aL v15 h16) h16 fun v17 h18=>
 bm (aa s.P 30 v17 0) h18 fun v19 h20=>
 bm (ab s.P 23 v19 h20) h20 fun v21 h22=>
 bm (ab s.P 86 c h22) h22 fun v23 h24=>
 bm (aL v23 h24) h24 fun v25 h26=>
 bm (aa s.P 30 v25 1) h26 fun v27 h28=>
 bm (ab s.P 24 v27 h28) h28 fun v29 h30=>
 bm (ab s.P 86 c h30) h30 fun v31 h32=>
 bm (aL v31 h32) h32 fun v33 h34=>
 bm (aa s.P 30 v33 2) h34 fun v35 h36=>
 bm (ab s.P 26 v35 h36) h36 fun v37 h38=>
 bm (aa s.P 48 d 1) h38 fun v39 h40=>
 bm (ab s.P 3 v39 h40) h40 fun v41 h42=>
 bm (ab s.P 86 c h42) h42 fun v43 h44=>
 bm (aL v43 h44) h44 fun v45 h46=>
 bm (aa s.P 30 v45 3) h46 fun v47 h48=>
 bm (ab s.P 27 v47 h48) h48 fun v49 h50=>
 bm (aa s.P 48 d 1) h50 fun v51 h52=>
 bm (ab s.P 3 v51 h52) h52 fun v53 h54=>
 bm (ai s.P 27 v49 v53 h54) h54 fun v55 h56=>
 bm (ab s.P 65 v55 h56) h56 fun v57 h58=>
 bm (aa s.P 48 d 2) h58 fun v59 h60=>
 bm (ab s.P 46 v59 h60) h60 fun v61 h62=>
 bp (yC s k wl 82 true true (.fn (.func 83) [] []) [v21,v29,v37,v41,v57,v61] h62) fun v63 h64=>
 bm (ao v63 0) h64 fun v65 h66=>
 bm (ao v63 1) h66 fun v67 h68=>
 bm (ao v63 2) h68 fun v69 h70=>
 bm (aL v1 h70) h70 fun v71 h72=>
 bm (aa s.P 30 v71 2) h72 fun v73 h74=>
 bs (aj s.P wl 26 v73 v65 h74) fun h75=>
 bm (ai s.P 27 v9 v13 h75) h75 fun v76 h77=>
 bs (aj s.P wl 65 v76 v67 h77) fun h78=>
 bs (aj s.P wl 34 e v69 h78) fun h79=>
 apt (lgW e (lgW v76 (lgW v73 (lgR v11 ([],[]))))) (
 some (.tup [],h79))))))):=kB
theorem ZI (k wl:Nat) (h:Hp):evF Tryz.prog xM (k+1) wl 82 [c,d,e] h=ak (xX (xS k) 82 wl k false) Tryz.f82 [c,d,e] h:=by kernel_rfl
-- names: YG,
theorem V3 (h:Hp):ak (xX s 84 wl k false) Tryz.f84 [c,d,e] h =
 bm (ab s.P 86 c h) h fun v1 h2=>
 bm (aL v1 h2) h2 fun v3 h4=>
 bm (aa s.P 30 v3 0) h4 fun v5 h6=>
 bm (ab s.P 23 v5 h6) h6 fun v7 h8=>
 bm (ab s.P 86 c h8) h8 fun v9 h10=>
 bm (aL v9 h10) h10 fun v11 h12=>
 bm (aa s.P 30 v11 1) h12 fun v13 h14=>
 bm (ab s.P 24 v13 h14) h14 fun v15 h16=>
 bm (ab s.P 86 c h16) h16 fun v17 h18=>
 bm (aL v17 h18) h18 fun v19 h20=>
 bm (aa s.P 30 v19 2) h20 fun v21 h22=>
 bm (ab s.P 26 v21 h22) h22 fun v23 h24=>
 bm (ab s.P 86 c h24) h24 fun v25 h26=>
 bm (aL v25 h26) h26 fun v27 h28=>
 bm (aa s.P 30 v27 4) h28 fun v29 h30=>
 bm (ab s.P 28 v29 h30) h30 fun v31 h32=>
 bm (aa s.P 48 d 1) h32 fun v33 h34=>
 bm (ab s.P 3 v33 h34) h34 fun v35 h36=>
 bm (ai s.P 28 v31 v35 h36) h36 fun v37 h38=>
 bm (ab s.P 57 v37 h38) h38 fun v39 h40=>
 bp (yC s k wl 84 false true (.fn (.func 85) [] []) [v7,v15,v23,v39] h40) fun v41 h42=>
 cnd v41 (
 stO h42.length c (
 bm (ab s.P 86 c h42) h42 fun v43 h44=>
 stO h42.length c (
 bm (ab s.P 86 c h44) h44 fun v45 h46=>
 stO h42.length v45 (
 bm (aL v45 h46) h46 fun v47 h48=>
 bm (aa s.P 30 v47 4) h48 fun v49 h50=>
 stO h42.length v49 (
 bm (ab s.P 28 v49 h50) h50 fun v51 h52=>
 bm (aa s.P 48 d 1) h52 fun v53 h54=>
 stO h42.length v53 (
 bm (ab s.P 3 v53 h54) h54 fun v55 h56=>
 bm (ab s.P 86 c h56) h56 fun v57 h58=>
 bm (aL v57 h58) h58 fun v59 h60=>
 bm (aa s.P 30 v59 0) h60 fun v61 h62=>
 bm (ab s.P 23 v61 h62) h62 fun v63 h64=>
 bm (ab s.P 86 c h64) h64 fun v65 h66=>
 bm (aL v65 h66) h66 fun v67 h68=>
 bm (aa s.P 30 v67 1) h68 fun v69 h70=>
 bm (ab s.P 24 v69 h70) h70 fun v71 h72=>
 bm (ab s.P 86 c h72) h72 fun v73 h74=>
 bm (aL v73 h74) h74 fun v75 h76=>
 bm (aa s.P 30 v75 2) h76 fun v77 h78=>
 bm (ab s.P 26 v77 h78) h78 fun v79 h80=>
 bm (aa s.P 48 d 1) h80 fun v81 h82=>
 bm (ab s.P 3 v81 h82) h82 fun v83 h84=>
 bm (ab s.P 86 c h84) h84 fun v85 h86=>
 bm (aL v85 h86) h86 fun v87 h88=>
 bm (aa s.P 30 v87 4) h88 fun v89 h90=>
 bm (ab s.P 28 v89 h90) h90 fun v91 h92=>
 bm (aa s.P 48 d 1) h92 fun v93 h94=>
 bm (ab s.P 3 v93 h94) h94 fun v95 h96=>
 bm (ai s.P 28 v91 v95 h96) h96 fun v97 h98=>
 bm (ab s.P 57 v97 h98) h98 fun v99 h100=>
 bp (yC s k wl 84 true true (.fn (.func 86) [] []) [v63,v71,v79,v83,v99] h100) fun v101 h102=>
 bm (ao v101 0) h102 fun v103 h104=>
 bm (ao v101 1) h104 fun v105 h106=>
 bm (ao v101 2) h106 fun v107 h108=>
 bm (aL v43 h108) h108 fun v109 h110=>
 bm (aa s.P 30 v109 2) h110 fun v111 h112=>
 bs (aj s.P wl 26 v111 v103 h112) fun h113=>
 bm (ai s.P 28 v51 v55 h113) h113 fun v114 h115=>
 bs (aj s.P wl 57 v114 v105 h115) fun h116=>
 bs (aj s.P wl 34 e v107 h116) fun h117=>
 apt (lgW e (lgW v114 (lgW v111 (lgR v53 ([],[]))))) (
 some (.tup [],h117)))))))) (
 some (.tup [],h42)):=kB
theorem ZE (k wl:Nat) (h:Hp):evF Tryz.prog xM (k+1) wl 84 [c,d,e] h=ak (xX (xS k) 84 wl k false) Tryz.f84 [c,d,e] h:=by kernel_rfl
-- names: V3,
theorem Vi (h:Hp):ak (xX s 87 wl k false) Tryz.f87 [c] h =
 stO h.length c (
 bm (ab s.P 86 c h) h fun v1 h2=>
 bm (ab s.P 86 c h2) h2 fun v3 h4=>
 bm (aL v3 h4) h4 fun v5 h6=>
 bm (aa s.P 30 v5 2) h6 fun v7 h8=>
 bm (ab s.P 26 v7 h8) h8 fun v9 h10=>
 bp (yC s k wl 87 true true (.fn (.func 88) [] []) [v9,(.lit (.int .i64 3)),(.lit (.int .u64 1))] h10) fun v11 h12=>
 bm (aL v1 h12) h12 fun v13 h14=>
 bm (aa s.P 30 v13 2) h14 fun v15 h16=>
 bs (aj s.P wl 26 v15 v11 h16) fun h17=>
 some (.tup [],h17)):=kB
theorem ZL (k wl:Nat) (h:Hp):evF Tryz.prog xM (k+1) wl 87 [c] h=ak (xX (xS k) 87 wl k false) Tryz.f87 [c] h:=by kernel_rfl
-- names: Vi,
noncomputable def nX:Code:=al (am Tryz.f94) [1,0,0]
noncomputable def D7:List Fr:=[.block 0]
noncomputable def Er:Code:=al (am Tryz.f94) [1,0,0,1,1,0,0,1,0]
noncomputable def A6:List Fr:=[.seq (al (am Tryz.f94) [1,0,0,1,1,0,0,1,1]),.block 1,.seq (al (am Tryz.f94) [1,0,0,1,1,1])]
theorem Vo (h:Hp):ak (xX s 94 wl k false) Tryz.f94 [c,d] h =
 bm (aa s.P 30 d 3) h fun v1 h2=>
 bm (ab s.P 27 v1 h2) h2 fun v3 h4=>
 bp (aX s.P 27 v3 h4) fun v5 h6=>
 yI s k wl 94 Tryz.f94 nX h6.length D7 k ⟨[(V.kill h6.length c),(V.kill h6.length d),(V.kill h6.length uu),(V.kill h6.length uu),(V.kill h6.length uu),(V.kill h6.length v1),(V.kill h6.length v3),(V.kill h6.length v5),(.lit (.int .i64 0)),.junk,.junk,.junk,.junk,.junk,.junk,.junk,.junk,.junk,.junk,.junk,.junk,.junk,.junk,.junk,.junk,.junk,.junk,.junk,.junk,.junk],bY h6.length h6⟩:=kB
theorem Zu (k wl:Nat) (h:Hp):evF Tryz.prog xM (k+1) wl 94 [c,d] h=ak (xX (xS k) 94 wl k false) Tryz.f94 [c,d] h:=by kernel_rfl
theorem WM (P:Program) (h:Hp):av P Tryz.f94 .ret ⟨[c,d,e,o,q,j,g,u,f,y,A,z,B,F,D,E,v,G,I,L,J,N,M,O,R,T,U,W,X,Q],h⟩=some (.tup [],h):=by kernel_rfl
theorem PC (s:Sys) (K:Out→St→Option (V×Hp)) (k wl:Nat) (rd:Bool) (n n0:Nat) (h:Hp):itX (xX s 94 wl k rd) nX n0 K (n+1) ⟨[c,d,e,o,q,j,g,u,f,y,A,z,B,F,D,E,v,G,I,L,J,N,M,O,R,T,U,W,X,Q],h⟩ =
 bm (aq s.P .lss 3 f u) h fun v7 h8=>
 cnd v7 (
 bm (ai s.P 27 g f h8) h8 fun v9 h10=>
 bm (ab s.P 65 v9 h10) h10 fun v11 h12=>
 bp (ar s.P 65 h12) fun v13 h14=>
 bs (aj s.P wl 65 v13 v11 h14) fun h15=>
 bm (aa s.P 30 d 0) h15 fun v16 h17=>
 bm (ab s.P 23 v16 h17) h17 fun v18 h19=>
 bm (aa s.P 30 d 1) h19 fun v20 h21=>
 bm (ab s.P 24 v20 h21) h21 fun v22 h23=>
 bm (aa s.P 30 d 2) h23 fun v24 h25=>
 bm (ab s.P 26 v24 h25) h25 fun v26 h27=>
 bm (ab s.P 65 v13 h27) h27 fun v28 h29=>
 bp (cw (xX s 94 wl k rd) false true (.fn (.func 95) [] []) [v18,v22,v26,f,v28] h29) fun v30 h31=>
 bm (vUn .not v30) h31 fun v32 h33=>
 gd v32 (
 bp (cw (xX s 94 wl k rd) false true c [f] h33) fun v34 h35=>
 bm (vUn .not v34) h35 fun v36 h37=>
 dv (xX s 94 wl k rd) Er 15 h15.length ([],[]) (au (xX s 94 wl k rd) (eD (xX s 94 wl k rd) nX n0 K n) A6) ⟨[c,d,e,f,v13,j,g,u,f,v7,f,v9,v11,v16,v18,v20,v22,v24,v26,f,v28,v30,v32,(.lit (.bool true)),c,f,v34,v36,X,Q],h37⟩) (
 dv (xX s 94 wl k rd) Er 15 h15.length ([],[]) (au (xX s 94 wl k rd) (eD (xX s 94 wl k rd) nX n0 K n) A6) ⟨[c,d,e,f,v13,j,g,u,f,v7,f,v9,v11,v16,v18,v20,v22,v24,v26,f,v28,v30,v32,(.lit (.bool false)),uu,uu,uu,uu,X,Q],h33⟩) (
 dv (xX s 94 wl k rd) Er 12 h15.length ([],[]) (au (xX s 94 wl k rd) (eD (xX s 94 wl k rd) nX n0 K n) A6) ⟨[c,d,e,f,v13,j,g,u,f,v7,f,v9,v11,v16,v18,v20,v22,v24,v26,f,v28,v30,v32,v32,uu,T,U,W,X,Q],h33⟩)) (
 K (.exit 0) ⟨[(V.kill n0 c),(V.kill n0 d),(V.kill n0 e),(V.kill n0 o),(V.kill n0 q),(V.kill n0 j),(V.kill n0 g),(V.kill n0 u),.junk,.junk,.junk,.junk,.junk,.junk,.junk,.junk,.junk,.junk,.junk,.junk,.junk,.junk,.junk,.junk,.junk,.junk,.junk,.junk,.junk,.junk],bY n0 h8⟩):=kI
theorem Bx (s:Sys) (k wl:Nat) (zz:List V) (h:Hp):au (xX s 94 wl k false) (av s.P Tryz.f94) D7 (.exit 0) ⟨(c::zz),h⟩ =
 some (.tup [],h):=kR
theorem A9 (s:Sys) (K:Out→St→Option (V×Hp)) (k wl:Nat) (rd:Bool) (n n0:Nat) (m0:Nat) (ac:List Nat×List Nat) (h:Hp):dv (xX s 94 wl k rd) Er 15 m0 ac (au (xX s 94 wl k rd) (eD (xX s 94 wl k rd) nX n0 K n) A6) ⟨[c,d,e,o,q,j,g,u,f,y,A,z,B,F,D,E,v,G,I,L,J,N,M,O,R,T,U,W,X,Q],h⟩ =
 bm (aO O W (.lit (.bool false))) h fun v38 h39=>
 cnd v38 (
 K .ret ⟨[c,d,e,o,q,j,g,u,f,y,A,z,B,F,D,E,v,G,I,L,J,N,M,O,R,T,U,W,v38,Q],h39⟩) (
 bm (aq s.P .add 3 f (.lit (.int .i64 1))) h39 fun v40 h41=>
 itX (xX s 94 wl k rd) nX n0 K n ⟨[(V.kill n0 c),(V.kill n0 d),(V.kill n0 e),(V.kill n0 o),(V.kill n0 q),(V.kill n0 j),(V.kill n0 g),(V.kill n0 u),(V.kill n0 v40),.junk,.junk,.junk,.junk,.junk,.junk,.junk,.junk,.junk,.junk,.junk,.junk,.junk,.junk,.junk,.junk,.junk,.junk,.junk,.junk,.junk],bY n0 h41⟩):=kG
theorem iR (cx:Cx) (K:Out→St→Option (V×Hp)) (s:St):au cx K D7 .ret s=K .ret s:=by kernel_rfl
theorem io (cx:Cx) (K:Out→St→Option (V×Hp)) (s:St):au cx K A6 .ret s=K .ret s:=by kernel_rfl
-- names: Vo,WM,PC,Bx,A9,iR,io
end
end Go.Ab
