import Derived.Test.YtblpbpnilkfjhaaGreatR6Seat
import Derived.Test.YtblpbpnilkfjhaaGreatAbLibC
set_option linter.unusedVariables false
set_option linter.unusedSimpArgs false
set_option maxRecDepth 100000
set_option linter.unusedVariables false
namespace Go.Ab
open Go.Proofs
section
variable (s:Sys) (k wl:Nat) (m0:Nat) (ac:List Nat×List Nat) (c d e o q j g u f y A z B F D E v G I L J N M O R T U W X Q Y Z t2 t1 t0 t3 t4 t5 tb tc t9 ta t7 t6 td te tf tg th ti tj tk tl tm tn tp tq tr ts t8:V)
noncomputable def uM:Code:=al (am Tryz.f17) [1,1,1,1,0,1,0,0]
noncomputable def Aa:List Fr:=[.block 0,.seq (al (am Tryz.f17) [1,1,1,1,1])]
theorem Or (h:Hp):ak (xX s 17 wl k false) Tryz.f17 [c,d] h =
 bp (aN c h) fun v1 h2=>
 bp (av s.P 30 h2) fun v3 h4=>
 bp (some (.own h4.length 0 0,h4++[.rows 0 [] 0 true])) fun v5 h6=>
 bm (ab s.P 30 v1 h6) h6 fun v7 h8=>
 bp (yC s k wl 17 false true (.fn (.func 41) [] []) [v7] h8) fun v9 h10=>
 bp (av s.P 30 h10) fun v11 h12=>
 bs (ai s.P wl 30 v11 v9 h12) fun h13=>
 bm (ab s.P 30 v1 h13) h13 fun v14 h15=>
 bp (yC s k wl 17 false true (.fn (.func 20) [] []) [v14] h15) fun v16 h17=>
 bm (vUn .not v16) h17 fun v18 h19=>
 cnd v18 (
 bm (ab s.P 30 v11 h19) h19 fun v20 h21=>
 bs (ai s.P wl 30 v3 v20 h21) fun h22=>
 bp (some (.own h22.length 0 0,h22++[.rows 0 [] 0 true])) fun v23 h24=>
 ef [ab s.P 30 v3 h24,some v23] h24) (
 bp (some (.own h19.length 0 0,h19++[.rows 0 [] 0 true])) fun v25 h26=>
 bp (bc s.P 31 d h26) fun v27 h28=>
 yI s k wl 17 Tryz.f17 uM h28.length Aa k ⟨[(V.kill h28.length c),(V.kill h28.length d),(V.kill h28.length v1),(V.kill h28.length uu),(V.kill h28.length v3),(V.kill h28.length v5),(V.kill h28.length v11),(V.kill h28.length v25),(V.kill h28.length uu),(V.kill h28.length uu),(V.kill h28.length v7),(V.kill h28.length v9),(V.kill h28.length v14),(V.kill h28.length v16),(V.kill h28.length v18),(V.kill h28.length uu),(V.kill h28.length d),(V.kill h28.length v27),(.lit (.int .i64 0)),.junk,.junk,.junk,.junk,.junk,.junk,.junk,.junk,.junk,.junk,.junk,.junk,.junk,.junk,.junk,.junk,(V.kill h28.length uu),(V.kill h28.length uu)],bW h28.length h28⟩):=kB
theorem RF (k wl:Nat) (h:Hp):evF Tryz.prog xM (k+1) wl 17 [c,d] h=ak (xX (xS k) 17 wl k false) Tryz.f17 [c,d] h:=by kernel_rfl
theorem Q0 (P:Program) (h:Hp):ao P Tryz.f17 .ret ⟨[c,d,e,o,q,j,g,u,f,y,A,z,B,F,D,E,v,G,I,L,J,N,M,O,R,T,U,W,X,Q,Y,Z,t2,t1,t0,t3,t4],h⟩=ef [ab P 30 q h,some j] h:=by kernel_rfl
theorem Hq (s:Sys) (K:Out→St→Option (V×Hp)) (k wl:Nat) (rd:Bool) (n n0:Nat) (h:Hp):itX (xX s 17 wl k rd) uM n0 K (n+1) ⟨[c,d,e,o,q,j,g,u,f,y,A,z,B,F,D,E,v,G,I,L,J,N,M,O,R,T,U,W,X,Q,Y,Z,t2,t1,t0,t3,t4],h⟩ =
 bm (aw s.P .lss 3 I G) h fun v29 h30=>
 cnd v29 (
 bm (aj s.P 31 v I h30) h30 fun v31 h32=>
 bm (ab s.P 48 v31 h32) h32 fun v33 h34=>
 bp (av s.P 48 h34) fun v35 h36=>
 bs (ai s.P wl 48 v35 v33 h36) fun h37=>
 bm (ab s.P 48 v35 h37) h37 fun v38 h39=>
 bm (aa s.P 30 e 0) h39 fun v40 h41=>
 bm (aa s.P 23 v40 0) h41 fun v42 h43=>
 bm (ab s.P 3 v42 h43) h43 fun v44 h45=>
 bm (aa s.P 30 e 4) h45 fun v46 h47=>
 bm (ab s.P 28 v46 h47) h47 fun v48 h49=>
 bp (bc s.P 28 v48 h49) fun v50 h51=>
 bp (bL (xX s 17 wl k rd) false true (.fn (.func 42) [] []) [v38,v44,v50] h51) fun v52 h53=>
 cnd v52 (
 bm (ab s.P 48 v35 h53) h53 fun v54 h55=>
 bp (bL (xX s 17 wl k rd) false true (.fn (.func 43) [] []) [g,v54] h55) fun v56 h57=>
 bp (kM s.P wl 34 34 u v56 h57) fun v58 h59=>
 bm (aw s.P .add 3 I (.lit (.int .i64 1))) h59 fun v60 h61=>
 itX (xX s 17 wl k rd) uM n0 K n ⟨[(V.kill n0 c),(V.kill n0 d),(V.kill n0 e),(V.kill n0 o),(V.kill n0 q),(V.kill n0 j),(V.kill n0 g),(V.kill n0 v58),(V.kill n0 f),(V.kill n0 v35),(V.kill n0 A),(V.kill n0 z),(V.kill n0 B),(V.kill n0 F),(V.kill n0 D),(V.kill n0 E),(V.kill n0 v),(V.kill n0 G),(V.kill n0 v60),.junk,.junk,.junk,.junk,.junk,.junk,.junk,.junk,.junk,.junk,.junk,.junk,.junk,.junk,.junk,.junk,(V.kill n0 t3),(V.kill n0 t4)],bW n0 h61⟩) (
 bm (aw s.P .add 3 I (.lit (.int .i64 1))) h53 fun v62 h63=>
 itX (xX s 17 wl k rd) uM n0 K n ⟨[(V.kill n0 c),(V.kill n0 d),(V.kill n0 e),(V.kill n0 o),(V.kill n0 q),(V.kill n0 j),(V.kill n0 g),(V.kill n0 u),(V.kill n0 f),(V.kill n0 v35),(V.kill n0 A),(V.kill n0 z),(V.kill n0 B),(V.kill n0 F),(V.kill n0 D),(V.kill n0 E),(V.kill n0 v),(V.kill n0 G),(V.kill n0 v62),.junk,.junk,.junk,.junk,.junk,.junk,.junk,.junk,.junk,.junk,.junk,.junk,.junk,.junk,.junk,.junk,(V.kill n0 t3),(V.kill n0 t4)],bW n0 h63⟩)) (
 K (.exit 0) ⟨[(V.kill n0 c),(V.kill n0 d),(V.kill n0 e),(V.kill n0 o),(V.kill n0 q),(V.kill n0 j),(V.kill n0 g),(V.kill n0 u),(V.kill n0 f),(V.kill n0 y),(V.kill n0 A),(V.kill n0 z),(V.kill n0 B),(V.kill n0 F),(V.kill n0 D),(V.kill n0 E),(V.kill n0 v),(V.kill n0 G),.junk,.junk,.junk,.junk,.junk,.junk,.junk,.junk,.junk,.junk,.junk,.junk,.junk,.junk,.junk,.junk,.junk,(V.kill n0 t3),(V.kill n0 t4)],bW n0 h30⟩):=kI
theorem oO (h:Hp):au (xX s 17 wl k false) (ao s.P Tryz.f17) Aa (.exit 0) ⟨[c,d,e,o,q,j,g,u,f,y,A,z,B,F,D,E,v,G,I,L,J,N,M,O,R,T,U,W,X,Q,Y,Z,t2,t1,t0,t3,t4],h⟩ =
 bm (ab s.P 30 g h) h fun v64 h65=>
 bs (ai s.P wl 30 q v64 h65) fun h66=>
 ef [ab s.P 30 q h66,some u] h66:=kR
theorem fd (cx:Cx) (K:Out→St→Option (V×Hp)) (s:St):au cx K Aa .ret s=K .ret s:=by kernel_rfl
-- names: Or,Q0,Hq,oO,fd
noncomputable def rE:Code:=al (am Tryz.f20) [1,0,0]
noncomputable def o6:List Fr:=[.seq (al (am Tryz.f20) [1,0,1]),.seq (al (am Tryz.f20) [1,1])]
noncomputable def Sr:Code:=al (am Tryz.f20) [1,1,0,1,0]
noncomputable def Mi:Code:=al (am Tryz.f20) [1,1,0,1,0,0]
noncomputable def K9:Code:=al (am Tryz.f20) [1,1,0,1,0,1]
noncomputable def GJ:List Fr:=[.block 0,.seq (al (am Tryz.f20) [1,1,1])]
theorem oj:Sr = .rangeFunc (.tmp 23) #[24] Mi K9:=by kernel_rfl
theorem Ye (h:Hp):ak (xX s 20 wl k false) Tryz.f20 [c] h =
 bp (aN c h) fun v1 h2=>
 bp (av s.P 4 h2) fun v3 h4=>
 bm (aa s.P 30 v1 0) h4 fun v5 h6=>
 bm (ab s.P 23 v5 h6) h6 fun v7 h8=>
 bp (yC s k wl 20 false true (.fn (.func 50) [] []) [v7] h8) fun v9 h10=>
 bm (vUn .not v9) h10 fun v11 h12=>
 gd v11 (
 yO s k wl 20 Tryz.f20 rE 12 h4.length ([],[]) o6 ⟨[c,v1,v3,v5,v7,v9,v11,(.lit (.bool true)),uu,uu,uu,uu,uu,uu,uu,uu,uu,uu,uu,uu,uu,uu,uu,uu,uu,uu,uu,uu,uu,uu],h12⟩) (
 bm (aa s.P 30 v1 3) h12 fun v13 h14=>
 bm (ab s.P 27 v13 h14) h14 fun v15 h16=>
 bp (bc s.P 27 v15 h16) fun v17 h18=>
 bm (aa s.P 30 v1 0) h18 fun v19 h20=>
 bm (aa s.P 23 v19 0) h20 fun v21 h22=>
 bm (ab s.P 3 v21 h22) h22 fun v23 h24=>
 bm (aw s.P .neq 3 v17 v23) h24 fun v25 h26=>
 yO s k wl 20 Tryz.f20 rE 12 h4.length ([],[]) o6 ⟨[c,v1,v3,v5,v7,v9,v11,(.lit (.bool false)),v13,v15,v17,v19,v21,v23,v25,uu,uu,uu,uu,uu,uu,uu,uu,uu,uu,uu,uu,uu,uu,uu],h26⟩) (
 yO s k wl 20 Tryz.f20 rE 6 h4.length ([],[]) o6 ⟨[c,v1,v3,v5,v7,v9,v11,v11,uu,uu,uu,uu,uu,uu,uu,uu,uu,uu,uu,uu,uu,uu,uu,uu,uu,uu,uu,uu,uu,uu],h12⟩):=kB
theorem ab4 (k wl:Nat) (h:Hp):evF Tryz.prog xM (k+1) wl 20 [c] h=ak (xX (xS k) 20 wl k false) Tryz.f20 [c] h:=by kernel_rfl
theorem abB (P:Program) (h:Hp):ao P Tryz.f20 .ret ⟨[c,d,e,o,q,j,g,u,f,y,A,z,B,F,D,E,v,G,I,L,J,N,M,O,R,T,U,W,X,Q],h⟩=ef [ab P 4 e h] h:=by kernel_rfl
theorem CW (zz:List V) (h:Hp):yO s k wl 20 Tryz.f20 rE 12 m0 ac o6 ⟨(c::d::e::o::q::j::g::u::f::y::A::z::B::F::D::E::v::G::I::L::J::zz),h⟩ =
 bm (aQ u (.lit (.bool true)) D) h fun v27 h28=>
 gd v27 (
 yO s k wl 20 Tryz.f20 rE 18 m0 ac o6 ⟨(c::d::e::o::q::j::g::u::f::y::A::z::B::F::D::v27::(.lit (.bool true))::uu::uu::uu::uu::zz),h28⟩) (
 bm (aa s.P 30 d 4) h28 fun v29 h30=>
 bm (ab s.P 28 v29 h30) h30 fun v31 h32=>
 bp (bc s.P 28 v31 h32) fun v33 h34=>
 bm (aw s.P .gtr 3 v33 (.lit (.int .i64 3))) h34 fun v35 h36=>
 yO s k wl 20 Tryz.f20 rE 18 m0 ac o6 ⟨(c::d::e::o::q::j::g::u::f::y::A::z::B::F::D::v27::(.lit (.bool false))::v29::v31::v33::v35::zz),h36⟩) (
 yO s k wl 20 Tryz.f20 rE 15 m0 ac o6 ⟨(c::d::e::o::q::j::g::u::f::y::A::z::B::F::D::v27::v27::uu::I::L::J::zz),h28⟩):=kG
theorem CX (h:Hp):yO s k wl 20 Tryz.f20 rE 18 m0 ac o6 ⟨[c,d,e,o,q,j,g,u,f,y,A,z,B,F,D,E,v,G,I,L,J,N,M,O,R,T,U,W,X,Q],h⟩ =
 bm (aQ v (.lit (.bool true)) J) h fun v37 h38=>
 cnd v37 (
 bs (ai s.P wl 4 e (.lit (.bool false)) h38) fun h39=>
 ef [ab s.P 4 e h39] h39) (
 bm (ab s.P 30 d h38) h38 fun v40 h41=>
 bp (yC s k wl 20 false true (.fn (.func 51) [] []) [v40] h41) fun v42 h43=>
 ba (xX s 20 wl k false) Sr none (au (xX s 20 wl k false) (ao s.P Tryz.f20) GJ) ⟨[c,d,e,o,q,j,g,u,f,y,A,z,B,F,D,E,v,G,I,L,J,v37,v40,v42,R,T,U,W,X,Q],h43⟩):=kG
theorem D5 (h:Hp):au (xX s 20 wl k false) (ao s.P Tryz.f20) GJ .norm ⟨[c,d,e,o,q,j,g,u,f,y,A,z,B,F,D,E,v,G,I,L,J,N,M,O,R,T,U,W,X,Q],h⟩ =
 bm (aa s.P 30 d 4) h fun v44 h45=>
 bm (ab s.P 28 v44 h45) h45 fun v46 h47=>
 bp (yC s k wl 20 false true (.fn (.func 52) [] []) [v46,(.fn (.func 53) [] [d])] h47) fun v48 h49=>
 bm (vUn .not v48) h49 fun v50 h51=>
 bs (ai s.P wl 4 e v50 h51) fun h52=>
 ef [ab s.P 4 e h52] h52:=kR
theorem eh (s:Sys) (K:Out→St→Option (V×Hp)) (k wl:Nat) (rd:Bool) (zz:List V) (h:Hp):au (xX s 20 wl k rd) K [.seq K9] .norm ⟨(c::d::e::zz),h⟩ =
 bs (ai s.P wl 4 e (.lit (.bool false)) h) fun h53=>
 K .ret ⟨(c::d::e::zz),h53⟩:=kR
theorem eo (s:Sys) (K:Out→St→Option (V×Hp)) (k wl:Nat) (rd:Bool) (zz:List V) (h:Hp):au (xX s 20 wl k rd) K [.seq Mi] .norm ⟨(c::zz),h⟩ =
 K .norm ⟨(c::zz),h⟩:=kR
theorem lk (cx:Cx) (K:Out→St→Option (V×Hp)) (s:St):au cx K o6 .ret s=K .ret s:=by kernel_rfl
theorem lF (cx:Cx) (K:Out→St→Option (V×Hp)) (s:St):au cx K GJ .ret s=K .ret s:=by kernel_rfl
-- names: Ye,abB,CW,CX,D5,eh,eo,lk,lF
-- range over a function at [1,1,0,1,0]
noncomputable def Gu:Code:=al (am Tryz.f25) [1,0,0]
noncomputable def Ck:List Fr:=[.seq (al (am Tryz.f25) [1,0,1]),.seq (al (am Tryz.f25) [1,1])]
noncomputable def rK:Code:=al (am Tryz.f25) [1,1,0,1,0,0]
noncomputable def G2:List Fr:=[.block 0,.seq (al (am Tryz.f25) [1,1,1])]
noncomputable def Hx:Code:=al (am Tryz.f25) [1,1,0,1,0,0,1,1,0,0,1,0]
noncomputable def Ei:List Fr:=[.seq (al (am Tryz.f25) [1,1,0,1,0,0,1,1,0,0,1,1]),.block 1,.seq (al (am Tryz.f25) [1,1,0,1,0,0,1,1,1])]
theorem aft (h:Hp):ak (xX s 25 wl k false) Tryz.f25 [c] h =
 bp (aN c h) fun v1 h2=>
 bm (ab s.P 30 v1 h2) h2 fun v3 h4=>
 bp (yC s k wl 25 false true (.fn (.func 20) [] []) [v3] h4) fun v5 h6=>
 bm (vUn .not v5) h6 fun v7 h8=>
 gd v7 (
 yO s k wl 25 Tryz.f25 Gu 7 h2.length ([],[]) Ck ⟨[c,v1,(.lit (.bool false)),uu,uu,v3,v5,v7,(.lit (.bool true)),uu,uu,uu,uu,uu,uu,uu,uu,uu,uu,uu,uu,uu,uu,uu,uu,uu,uu,uu,uu,uu,uu,uu,uu,uu,uu],h8⟩) (
 bm (aa s.P 30 v1 4) h8 fun v9 h10=>
 bm (ab s.P 28 v9 h10) h10 fun v11 h12=>
 bp (yC s k wl 25 false true (.fn (.func 52) [] []) [v11,(.fn (.func 28) [] [])] h12) fun v13 h14=>
 yO s k wl 25 Tryz.f25 Gu 7 h2.length ([],[]) Ck ⟨[c,v1,(.lit (.bool false)),uu,uu,v3,v5,v7,(.lit (.bool false)),v9,v11,v13,uu,uu,uu,uu,uu,uu,uu,uu,uu,uu,uu,uu,uu,uu,uu,uu,uu,uu,uu,uu,uu,uu,uu],h14⟩) (
 yO s k wl 25 Tryz.f25 Gu 5 h2.length ([],[]) Ck ⟨[c,v1,(.lit (.bool false)),uu,uu,v3,v5,v7,v7,uu,uu,uu,uu,uu,uu,uu,uu,uu,uu,uu,uu,uu,uu,uu,uu,uu,uu,uu,uu,uu,uu,uu,uu,uu,uu],h8⟩):=kB
theorem agS (k wl:Nat) (h:Hp):evF Tryz.prog xM (k+1) wl 25 [c] h=ak (xX (xS k) 25 wl k false) Tryz.f25 [c] h:=by kernel_rfl
theorem afM (P:Program) (h:Hp):ao P Tryz.f25 .ret ⟨[c,d,e,o,q,j,g,u,f,y,A,z,B,F,D,E,v,G,I,L,J,N,M,O,R,T,U,W,X,Q,Y,Z,t2,t1,t0],h⟩=some (e,h):=by kernel_rfl
theorem JO (h:Hp):yO s k wl 25 Tryz.f25 Gu 7 m0 ac Ck ⟨[c,d,e,o,q,j,g,u,f,y,A,z,B,F,D,E,v,G,I,L,J,N,M,O,R,T,U,W,X,Q,Y,Z,t2,t1,t0],h⟩ =
 bm (aQ f (.lit (.bool true)) z) h fun v15 h16=>
 cnd v15 (
 some ((.lit (.bool false)),h16)) (
 bm (aa s.P 30 d 3) h16 fun v17 h18=>
 bm (ab s.P 27 v17 h18) h18 fun v19 h20=>
 bp (bc s.P 27 v19 h20) fun v21 h22=>
 yI s k wl 25 Tryz.f25 rK h22.length G2 k ⟨[(V.kill h22.length c),(V.kill h22.length d),(V.kill h22.length e),(V.kill h22.length o),(V.kill h22.length q),(V.kill h22.length j),(V.kill h22.length g),(V.kill h22.length u),(V.kill h22.length f),(V.kill h22.length y),(V.kill h22.length A),(V.kill h22.length z),(V.kill h22.length v15),(V.kill h22.length v17),(V.kill h22.length v19),(V.kill h22.length v21),(.lit (.int .i64 0)),.junk,.junk,.junk,.junk,.junk,.junk,.junk,.junk,.junk,.junk,.junk,.junk,.junk,.junk,.junk,.junk,.junk,.junk],bW h22.length h22⟩):=kG
theorem RE (s:Sys) (K:Out→St→Option (V×Hp)) (k wl:Nat) (rd:Bool) (n n0:Nat) (h:Hp):itX (xX s 25 wl k rd) rK n0 K (n+1) ⟨[c,d,e,o,q,j,g,u,f,y,A,z,B,F,D,E,v,G,I,L,J,N,M,O,R,T,U,W,X,Q,Y,Z,t2,t1,t0],h⟩ =
 bm (aw s.P .lss 3 v E) h fun v23 h24=>
 cnd v23 (
 bm (aj s.P 27 D v h24) h24 fun v25 h26=>
 bm (ab s.P 65 v25 h26) h26 fun v27 h28=>
 bp (av s.P 65 h28) fun v29 h30=>
 bs (ai s.P wl 65 v29 v27 h30) fun h31=>
 bm (ab s.P 65 v29 h31) h31 fun v32 h33=>
 bp (bL (xX s 25 wl k rd) false true (.fn (.func 31) [] []) [v32] h33) fun v34 h35=>
 bm (vUn .not v34) h35 fun v36 h37=>
 gd v36 (
 bV (xX s 25 wl k rd) Hx 12 h31.length ([],[]) (au (xX s 25 wl k rd) (eO (xX s 25 wl k rd) rK n0 K n) Ei) ⟨[c,d,e,v,v29,j,g,u,f,y,A,z,B,F,D,E,v,v23,v,v25,v27,v32,v34,v36,(.lit (.bool true)),uu,uu,uu,uu,uu,uu,uu,uu,t1,t0],h37⟩) (
 bm (aa s.P 30 d 2) h37 fun v38 h39=>
 stO h31.length v38 (
 bm (ab s.P 26 v38 h39) h39 fun v40 h41=>
 bm (aa s.P 30 d 0) h41 fun v42 h43=>
 bm (ab s.P 23 v42 h43) h43 fun v44 h45=>
 bp (bL (xX s 25 wl k rd) true true (.fn (.func 32) [] []) [v44,v] h45) fun v46 h47=>
 bp (bL (xX s 25 wl k rd) false true (.fn (.func 27) [] []) [v40,v46] h47) fun v48 h49=>
 bm (aw s.P .neq 46 v48 (.lit (.int .u64 0))) h49 fun v50 h51=>
 bV (xX s 25 wl k rd) Hx 12 h31.length ([],[]) (au (xX s 25 wl k rd) (eO (xX s 25 wl k rd) rK n0 K n) Ei) ⟨[c,d,e,v,v29,j,g,u,f,y,A,z,B,F,D,E,v,v23,v,v25,v27,v32,v34,v36,(.lit (.bool false)),v38,v40,v42,v44,v,v46,v48,v50,t1,t0],h51⟩)) (
 bV (xX s 25 wl k rd) Hx 5 h31.length ([],[]) (au (xX s 25 wl k rd) (eO (xX s 25 wl k rd) rK n0 K n) Ei) ⟨[c,d,e,v,v29,j,g,u,f,y,A,z,B,F,D,E,v,v23,v,v25,v27,v32,v34,v36,v36,uu,U,W,X,Q,Y,Z,t2,t1,t0],h37⟩)) (
 K (.exit 0) ⟨[(V.kill n0 c),(V.kill n0 d),(V.kill n0 e),(V.kill n0 o),(V.kill n0 q),(V.kill n0 j),(V.kill n0 g),(V.kill n0 u),(V.kill n0 f),(V.kill n0 y),(V.kill n0 A),(V.kill n0 z),(V.kill n0 B),(V.kill n0 F),(V.kill n0 D),(V.kill n0 E),.junk,.junk,.junk,.junk,.junk,.junk,.junk,.junk,.junk,.junk,.junk,.junk,.junk,.junk,.junk,.junk,.junk,.junk,.junk],bW n0 h24⟩):=kI
theorem LL (h:Hp):au (xX s 25 wl k false) (ao s.P Tryz.f25) G2 (.exit 0) ⟨[c,d,e,o,q,j,g,u,f,y,A,z,B,F,D,E,v,G,I,L,J,N,M,O,R,T,U,W,X,Q,Y,Z,t2,t1,t0],h⟩ =
 some ((.lit (.bool true)),h):=kR
theorem KY (s:Sys) (K:Out→St→Option (V×Hp)) (k wl:Nat) (rd:Bool) (n n0:Nat) (m0:Nat) (ac:List Nat×List Nat) (h:Hp):bV (xX s 25 wl k rd) Hx 12 m0 ac (au (xX s 25 wl k rd) (eO (xX s 25 wl k rd) rK n0 K n) Ei) ⟨[c,d,e,o,q,j,g,u,f,y,A,z,B,F,D,E,v,G,I,L,J,N,M,O,R,T,U,W,X,Q,Y,Z,t2,t1,t0],h⟩ =
 bm (aQ R (.lit (.bool true)) t2) h fun v52 h53=>
 cnd v52 (
 K .ret ⟨[c,d,(.lit (.bool false)),o,q,j,g,u,f,y,A,z,B,F,D,E,v,G,I,L,J,N,M,O,R,T,U,W,X,Q,Y,Z,t2,v52,t0],h53⟩) (
 bm (aw s.P .add 3 v (.lit (.int .i64 1))) h53 fun v54 h55=>
 itX (xX s 25 wl k rd) rK n0 K n ⟨[(V.kill n0 c),(V.kill n0 d),(V.kill n0 e),(V.kill n0 o),(V.kill n0 q),(V.kill n0 j),(V.kill n0 g),(V.kill n0 u),(V.kill n0 f),(V.kill n0 y),(V.kill n0 A),(V.kill n0 z),(V.kill n0 B),(V.kill n0 F),(V.kill n0 D),(V.kill n0 E),(V.kill n0 v54),.junk,.junk,.junk,.junk,.junk,.junk,.junk,.junk,.junk,.junk,.junk,.junk,.junk,.junk,.junk,.junk,.junk,.junk],bW n0 h55⟩):=kG
theorem re (cx:Cx) (K:Out→St→Option (V×Hp)) (s:St):au cx K Ck .ret s=K .ret s:=by kernel_rfl
theorem pR (cx:Cx) (K:Out→St→Option (V×Hp)) (s:St):au cx K G2 .ret s=K .ret s:=by kernel_rfl
theorem pS (cx:Cx) (K:Out→St→Option (V×Hp)) (s:St):au cx K Ei .ret s=K .ret s:=by kernel_rfl
-- names: aft,afM,JO,RE,LL,KY,re,pR,pS
noncomputable def rI:Code:=al (am Tryz.f29) [1,0]
noncomputable def oC:List Fr:=[.seq (al (am Tryz.f29) [1,1])]
theorem agA (h:Hp):ak (xX s 29 wl k false) Tryz.f29 [c] h =
 bp (aN c h) fun v1 h2=>
 bm (ab s.P 30 v1 h2) h2 fun v3 h4=>
 bp (yC s k wl 29 false true (.fn (.func 25) [] []) [v3] h4) fun v5 h6=>
 gd v5 (
 bm (aa s.P 30 v1 2) h6 fun v7 h8=>
 bm (ab s.P 26 v7 h8) h8 fun v9 h10=>
 bp (yC s k wl 29 false true (.fn (.func 27) [] []) [v9,(.lit (.int .i64 0))] h10) fun v11 h12=>
 bm (aw s.P .eql 46 v11 (.lit (.int .u64 0))) h12 fun v13 h14=>
 yO s k wl 29 Tryz.f29 rI 7 h2.length ([],[]) oC ⟨[c,v1,(.lit (.bool false)),v3,v5,(.lit (.bool true)),v7,v9,v11,v13,uu,uu,uu,uu,uu,uu,uu],h14⟩) (
 yO s k wl 29 Tryz.f29 rI 7 h2.length ([],[]) oC ⟨[c,v1,(.lit (.bool false)),v3,v5,(.lit (.bool false)),uu,uu,uu,uu,uu,uu,uu,uu,uu,uu,uu],h6⟩) (
 yO s k wl 29 Tryz.f29 rI 4 h2.length ([],[]) oC ⟨[c,v1,(.lit (.bool false)),v3,v5,v5,uu,uu,uu,uu,uu,uu,uu,uu,uu,uu,uu],h6⟩):=kB
theorem ahm (k wl:Nat) (h:Hp):evF Tryz.prog xM (k+1) wl 29 [c] h=ak (xX (xS k) 29 wl k false) Tryz.f29 [c] h:=by kernel_rfl
theorem Sh (h:Hp):yO s k wl 29 Tryz.f29 rI 7 m0 ac oC ⟨[c,d,e,o,q,j,g,u,f,y,A,z,B,F,D,E,v],h⟩ =
 bm (aQ j y (.lit (.bool false))) h fun v15 h16=>
 gd v15 (
 bm (aa s.P 30 d 4) h16 fun v17 h18=>
 bm (ab s.P 28 v17 h18) h18 fun v19 h20=>
 bp (yC s k wl 29 false true (.fn (.func 52) [] []) [v19,(.fn (.func 67) [] [])] h20) fun v21 h22=>
 bm (vUn .not v21) h22 fun v23 h24=>
 yO s k wl 29 Tryz.f29 rI 13 m0 ac oC ⟨[c,d,e,o,q,j,g,u,f,y,v15,(.lit (.bool true)),v17,v19,v21,v23,v],h24⟩) (
 yO s k wl 29 Tryz.f29 rI 13 m0 ac oC ⟨[c,d,e,o,q,j,g,u,f,y,v15,(.lit (.bool false)),uu,uu,uu,uu,v],h16⟩) (
 yO s k wl 29 Tryz.f29 rI 10 m0 ac oC ⟨[c,d,e,o,q,j,g,u,f,y,v15,v15,uu,F,D,E,v],h16⟩):=kG
theorem Rz (h:Hp):yO s k wl 29 Tryz.f29 rI 13 m0 ac oC ⟨[c,d,e,o,q,j,g,u,f,y,A,z,B,F,D,E,v],h⟩ =
 bm (aQ z E (.lit (.bool false))) h fun v25 h26=>
 some (v25,h26):=kG
theorem Ak (cx:Cx) (K:Out→St→Option (V×Hp)) (s:St):au cx K oC .ret s=K .ret s:=by kernel_rfl
-- names: agA,Sh,Rz,Ak
noncomputable def HE:Code:=al (am Tryz.f41) [1,1,1,0,1,0,0]
noncomputable def GW:List Fr:=[.block 0,.seq (al (am Tryz.f41) [1,1,1,1])]
noncomputable def GB:Code:=al (am Tryz.f41) [1,1,1,1,0,1,0,0]
noncomputable def HO:List Fr:=[.block 2,.seq (al (am Tryz.f41) [1,1,1,1,1])]
theorem NY (h:Hp):ak (xX s 41 wl k false) Tryz.f41 [c] h =
 bp (aN c h) fun v1 h2=>
 bp (av s.P 30 h2) fun v3 h4=>
 bm (aa s.P 30 v1 1) h4 fun v5 h6=>
 bm (ab s.P 24 v5 h6) h6 fun v7 h8=>
 bp (yC s k wl 41 true true (.fn (.func 58) [] []) [v7] h8) fun v9 h10=>
 bm (aa s.P 30 v1 2) h10 fun v11 h12=>
 stO h4.length v11 (
 bm (ab s.P 26 v11 h12) h12 fun v13 h14=>
 bp (yC s k wl 41 false true (.fn (.func 76) [] []) [v13] h14) fun v15 h16=>
 bm (aa s.P 30 v1 1) h16 fun v17 h18=>
 bs (ai s.P wl 24 v17 v9 h18) fun h19=>
 bm (aa s.P 30 v1 2) h19 fun v20 h21=>
 bs (ai s.P wl 26 v20 v15 h21) fun h22=>
 bm (aa s.P 30 v1 3) h22 fun v23 h24=>
 bm (ab s.P 27 v23 h24) h24 fun v25 h26=>
 bp (yC s k wl 41 true true (.fn (.func 77) [] []) [v25] h26) fun v27 h28=>
 bm (aa s.P 30 v1 4) h28 fun v29 h30=>
 stO h22.length v29 (
 bm (ab s.P 28 v29 h30) h30 fun v31 h32=>
 bp (yC s k wl 41 false true (.fn (.func 78) [] []) [v31] h32) fun v33 h34=>
 bm (aa s.P 30 v1 3) h34 fun v35 h36=>
 bs (ai s.P wl 27 v35 v27 h36) fun h37=>
 bm (aa s.P 30 v1 4) h37 fun v38 h39=>
 bs (ai s.P wl 28 v38 v33 h39) fun h40=>
 bm (aa s.P 30 v1 3) h40 fun v41 h42=>
 bm (ab s.P 27 v41 h42) h42 fun v43 h44=>
 bp (bc s.P 27 v43 h44) fun v45 h46=>
 yI s k wl 41 Tryz.f41 HE h46.length GW k ⟨[(V.kill h46.length c),(V.kill h46.length v1),(V.kill h46.length v3),(V.kill h46.length uu),(V.kill h46.length uu),(V.kill h46.length v5),(V.kill h46.length v7),(V.kill h46.length v9),(V.kill h46.length v11),(V.kill h46.length v13),(V.kill h46.length v15),(V.kill h46.length v17),(V.kill h46.length v20),(V.kill h46.length v23),(V.kill h46.length v25),(V.kill h46.length v27),(V.kill h46.length v29),(V.kill h46.length v31),(V.kill h46.length v33),(V.kill h46.length v35),(V.kill h46.length v38),(V.kill h46.length v41),(V.kill h46.length v43),(V.kill h46.length v45),(.lit (.int .i64 0)),.junk,.junk,.junk,.junk,.junk,.junk,.junk,.junk,.junk,.junk,.junk,.junk,.junk,.junk,.junk,(V.kill h46.length uu),(V.kill h46.length uu),(V.kill h46.length uu),(V.kill h46.length uu),(V.kill h46.length uu),(V.kill h46.length uu),(V.kill h46.length uu),(V.kill h46.length uu),(V.kill h46.length uu),(V.kill h46.length uu),(V.kill h46.length uu),(V.kill h46.length uu),(V.kill h46.length uu),(V.kill h46.length uu),(V.kill h46.length uu),(V.kill h46.length uu),(V.kill h46.length uu),(V.kill h46.length uu),(V.kill h46.length uu),(V.kill h46.length uu)],bW h46.length h46⟩)):=kB
theorem RM (k wl:Nat) (h:Hp):evF Tryz.prog xM (k+1) wl 41 [c] h=ak (xX (xS k) 41 wl k false) Tryz.f41 [c] h:=by kernel_rfl
theorem QQ (P:Program) (h:Hp):ao P Tryz.f41 .ret ⟨[c,d,e,o,q,j,g,u,f,y,A,z,B,F,D,E,v,G,I,L,J,N,M,O,R,T,U,W,X,Q,Y,Z,t2,t1,t0,t3,t4,t5,tb,tc,t9,ta,t7,t6,td,te,tf,tg,th,ti,tj,tk,tl,tm,tn,tp,tq,tr,ts,t8],h⟩=ef [ab P 30 e h] h:=by kernel_rfl
theorem Rt (s:Sys) (K:Out→St→Option (V×Hp)) (k wl:Nat) (rd:Bool) (n n0:Nat) (h:Hp):itX (xX s 41 wl k rd) HE n0 K (n+1) ⟨[c,d,e,o,q,j,g,u,f,y,A,z,B,F,D,E,v,G,I,L,J,N,M,O,R,T,U,W,X,Q,Y,Z,t2,t1,t0,t3,t4,t5,tb,tc,t9,ta,t7,t6,td,te,tf,tg,th,ti,tj,tk,tl,tm,tn,tp,tq,tr,ts,t8],h⟩ =
 bm (aw s.P .lss 3 R O) h fun v47 h48=>
 cnd v47 (
 bm (aa s.P 30 d 3) h48 fun v49 h50=>
 stO h48.length v49 (
 bm (ab s.P 27 v49 h50) h50 fun v51 h52=>
 bm (aa s.P 30 d 3) h52 fun v53 h54=>
 bm (ab s.P 27 v53 h54) h54 fun v55 h56=>
 bm (aj s.P 27 v55 R h56) h56 fun v57 h58=>
 bm (aa s.P 65 v57 1) h58 fun v59 h60=>
 bm (ab s.P 63 v59 h60) h60 fun v61 h62=>
 bp (bL (xX s 41 wl k rd) true true (.fn (.func 79) [] []) [v61] h62) fun v63 h64=>
 bm (aj s.P 27 v51 R h64) h64 fun v65 h66=>
 bm (aa s.P 65 v65 1) h66 fun v67 h68=>
 bs (ai s.P wl 63 v67 v63 h68) fun h69=>
 bm (aw s.P .add 3 R (.lit (.int .i64 1))) h69 fun v70 h71=>
 itX (xX s 41 wl k rd) HE n0 K n ⟨[(V.kill n0 c),(V.kill n0 d),(V.kill n0 e),(V.kill n0 R),(V.kill n0 q),(V.kill n0 j),(V.kill n0 g),(V.kill n0 u),(V.kill n0 f),(V.kill n0 y),(V.kill n0 A),(V.kill n0 z),(V.kill n0 B),(V.kill n0 F),(V.kill n0 D),(V.kill n0 E),(V.kill n0 v),(V.kill n0 G),(V.kill n0 I),(V.kill n0 L),(V.kill n0 J),(V.kill n0 N),(V.kill n0 M),(V.kill n0 O),(V.kill n0 v70),.junk,.junk,.junk,.junk,.junk,.junk,.junk,.junk,.junk,.junk,.junk,.junk,.junk,.junk,.junk,(V.kill n0 t9),(V.kill n0 ta),(V.kill n0 t7),(V.kill n0 t6),(V.kill n0 td),(V.kill n0 te),(V.kill n0 tf),(V.kill n0 tg),(V.kill n0 th),(V.kill n0 ti),(V.kill n0 tj),(V.kill n0 tk),(V.kill n0 tl),(V.kill n0 tm),(V.kill n0 tn),(V.kill n0 tp),(V.kill n0 tq),(V.kill n0 tr),(V.kill n0 ts),(V.kill n0 t8)],bW n0 h71⟩)) (
 K (.exit 0) ⟨[(V.kill n0 c),(V.kill n0 d),(V.kill n0 e),(V.kill n0 o),(V.kill n0 q),(V.kill n0 j),(V.kill n0 g),(V.kill n0 u),(V.kill n0 f),(V.kill n0 y),(V.kill n0 A),(V.kill n0 z),(V.kill n0 B),(V.kill n0 F),(V.kill n0 D),(V.kill n0 E),(V.kill n0 v),(V.kill n0 G),(V.kill n0 I),(V.kill n0 L),(V.kill n0 J),(V.kill n0 N),(V.kill n0 M),(V.kill n0 O),.junk,.junk,.junk,.junk,.junk,.junk,.junk,.junk,.junk,.junk,.junk,.junk,.junk,.junk,.junk,.junk,(V.kill n0 t9),(V.kill n0 ta),(V.kill n0 t7),(V.kill n0 t6),(V.kill n0 td),(V.kill n0 te),(V.kill n0 tf),(V.kill n0 tg),(V.kill n0 th),(V.kill n0 ti),(V.kill n0 tj),(V.kill n0 tk),(V.kill n0 tl),(V.kill n0 tm),(V.kill n0 tn),(V.kill n0 tp),(V.kill n0 tq),(V.kill n0 tr),(V.kill n0 ts),(V.kill n0 t8)],bW n0 h48⟩):=kI
theorem pd (h:Hp):au (xX s 41 wl k false) (ao s.P Tryz.f41) GW (.exit 0) ⟨[c,d,e,o,q,j,g,u,f,y,A,z,B,F,D,E,v,G,I,L,J,N,M,O,R,T,U,W,X,Q,Y,Z,t2,t1,t0,t3,t4,t5,tb,tc,t9,ta,t7,t6,td,te,tf,tg,th,ti,tj,tk,tl,tm,tn,tp,tq,tr,ts,t8],h⟩ =
 bm (aa s.P 30 d 4) h fun v72 h73=>
 bm (ab s.P 28 v72 h73) h73 fun v74 h75=>
 bp (bc s.P 28 v74 h75) fun v76 h77=>
 yI s k wl 41 Tryz.f41 GB h77.length HO k ⟨[(V.kill h77.length c),(V.kill h77.length d),(V.kill h77.length e),(V.kill h77.length o),(V.kill h77.length q),(V.kill h77.length j),(V.kill h77.length g),(V.kill h77.length u),(V.kill h77.length f),(V.kill h77.length y),(V.kill h77.length A),(V.kill h77.length z),(V.kill h77.length B),(V.kill h77.length F),(V.kill h77.length D),(V.kill h77.length E),(V.kill h77.length v),(V.kill h77.length G),(V.kill h77.length I),(V.kill h77.length L),(V.kill h77.length J),(V.kill h77.length N),(V.kill h77.length M),(V.kill h77.length O),(V.kill h77.length R),(V.kill h77.length T),(V.kill h77.length U),(V.kill h77.length W),(V.kill h77.length X),(V.kill h77.length Q),(V.kill h77.length Y),(V.kill h77.length Z),(V.kill h77.length t2),(V.kill h77.length t1),(V.kill h77.length t0),(V.kill h77.length t3),(V.kill h77.length t4),(V.kill h77.length t5),(V.kill h77.length tb),(V.kill h77.length tc),(V.kill h77.length v72),(V.kill h77.length v74),(V.kill h77.length v76),(.lit (.int .i64 0)),.junk,.junk,.junk,.junk,.junk,.junk,.junk,.junk,.junk,.junk,.junk,.junk,.junk,.junk,.junk,(V.kill h77.length t8)],bW h77.length h77⟩:=kR
theorem Rk (s:Sys) (K:Out→St→Option (V×Hp)) (k wl:Nat) (rd:Bool) (n n0:Nat) (h:Hp):itX (xX s 41 wl k rd) GB n0 K (n+1) ⟨[c,d,e,o,q,j,g,u,f,y,A,z,B,F,D,E,v,G,I,L,J,N,M,O,R,T,U,W,X,Q,Y,Z,t2,t1,t0,t3,t4,t5,tb,tc,t9,ta,t7,t6,td,te,tf,tg,th,ti,tj,tk,tl,tm,tn,tp,tq,tr,ts,t8],h⟩ =
 bm (aw s.P .lss 3 t6 t7) h fun v78 h79=>
 cnd v78 (
 bm (aa s.P 30 d 4) h79 fun v80 h81=>
 stO h79.length v80 (
 bm (ab s.P 28 v80 h81) h81 fun v82 h83=>
 bm (aa s.P 30 d 4) h83 fun v84 h85=>
 bm (ab s.P 28 v84 h85) h85 fun v86 h87=>
 bm (aj s.P 28 v86 t6 h87) h87 fun v88 h89=>
 bm (aa s.P 57 v88 1) h89 fun v90 h91=>
 bm (ab s.P 53 v90 h91) h91 fun v92 h93=>
 bp (bL (xX s 41 wl k rd) true true (.fn (.func 80) [] []) [v92] h93) fun v94 h95=>
 bm (aj s.P 28 v82 t6 h95) h95 fun v96 h97=>
 bm (aa s.P 57 v96 1) h97 fun v98 h99=>
 bs (ai s.P wl 53 v98 v94 h99) fun h100=>
 bm (aw s.P .add 3 t6 (.lit (.int .i64 1))) h100 fun v101 h102=>
 itX (xX s 41 wl k rd) GB n0 K n ⟨[(V.kill n0 c),(V.kill n0 d),(V.kill n0 e),(V.kill n0 o),(V.kill n0 t6),(V.kill n0 j),(V.kill n0 g),(V.kill n0 u),(V.kill n0 f),(V.kill n0 y),(V.kill n0 A),(V.kill n0 z),(V.kill n0 B),(V.kill n0 F),(V.kill n0 D),(V.kill n0 E),(V.kill n0 v),(V.kill n0 G),(V.kill n0 I),(V.kill n0 L),(V.kill n0 J),(V.kill n0 N),(V.kill n0 M),(V.kill n0 O),(V.kill n0 R),(V.kill n0 T),(V.kill n0 U),(V.kill n0 W),(V.kill n0 X),(V.kill n0 Q),(V.kill n0 Y),(V.kill n0 Z),(V.kill n0 t2),(V.kill n0 t1),(V.kill n0 t0),(V.kill n0 t3),(V.kill n0 t4),(V.kill n0 t5),(V.kill n0 tb),(V.kill n0 tc),(V.kill n0 t9),(V.kill n0 ta),(V.kill n0 t7),(V.kill n0 v101),.junk,.junk,.junk,.junk,.junk,.junk,.junk,.junk,.junk,.junk,.junk,.junk,.junk,.junk,.junk,(V.kill n0 t8)],bW n0 h102⟩)) (
 K (.exit 2) ⟨[(V.kill n0 c),(V.kill n0 d),(V.kill n0 e),(V.kill n0 o),(V.kill n0 q),(V.kill n0 j),(V.kill n0 g),(V.kill n0 u),(V.kill n0 f),(V.kill n0 y),(V.kill n0 A),(V.kill n0 z),(V.kill n0 B),(V.kill n0 F),(V.kill n0 D),(V.kill n0 E),(V.kill n0 v),(V.kill n0 G),(V.kill n0 I),(V.kill n0 L),(V.kill n0 J),(V.kill n0 N),(V.kill n0 M),(V.kill n0 O),(V.kill n0 R),(V.kill n0 T),(V.kill n0 U),(V.kill n0 W),(V.kill n0 X),(V.kill n0 Q),(V.kill n0 Y),(V.kill n0 Z),(V.kill n0 t2),(V.kill n0 t1),(V.kill n0 t0),(V.kill n0 t3),(V.kill n0 t4),(V.kill n0 t5),(V.kill n0 tb),(V.kill n0 tc),(V.kill n0 t9),(V.kill n0 ta),(V.kill n0 t7),.junk,.junk,.junk,.junk,.junk,.junk,.junk,.junk,.junk,.junk,.junk,.junk,.junk,.junk,.junk,.junk,(V.kill n0 t8)],bW n0 h79⟩):=kI
theorem pi (h:Hp):au (xX s 41 wl k false) (ao s.P Tryz.f41) HO (.exit 2) ⟨[c,d,e,o,q,j,g,u,f,y,A,z,B,F,D,E,v,G,I,L,J,N,M,O,R,T,U,W,X,Q,Y,Z,t2,t1,t0,t3,t4,t5,tb,tc,t9,ta,t7,t6,td,te,tf,tg,th,ti,tj,tk,tl,tm,tn,tp,tq,tr,ts,t8],h⟩ =
 bm (ab s.P 30 d h) h fun v103 h104=>
 bs (ai s.P wl 30 e v103 h104) fun h105=>
 ef [ab s.P 30 e h105] h105:=kR
theorem eZ (cx:Cx) (K:Out→St→Option (V×Hp)) (s:St):au cx K GW .ret s=K .ret s:=by kernel_rfl
theorem eY (cx:Cx) (K:Out→St→Option (V×Hp)) (s:St):au cx K HO .ret s=K .ret s:=by kernel_rfl
-- names: NY,QQ,Rt,pd,Rk,pi,eZ,eY
noncomputable def GN:List Fr:=[.seq (al (am Tryz.f43) [1,1,1])]
theorem PZ (h:Hp):ak (xX s 43 wl k false) Tryz.f43 [c,d] h =
 bp (aN c h) fun v1 h2=>
 bp (aN d h2) fun v3 h4=>
 bp (av s.P 34 h4) fun v5 h6=>
 bp (some (.map h6.length,h6++[.map []])) fun v7 h8=>
 bs (eP s.P wl 138 v7 (.lit (.int .i64 0)) (.fn (.func 82) [] [v1,v3,v5]) h8) fun h9=>
 bs (eP s.P wl 138 v7 (.lit (.int .i64 1)) (.fn (.func 84) [] [v1,v3,v5]) h9) fun h10=>
 bs (eP s.P wl 138 v7 (.lit (.int .i64 2)) (.fn (.func 87) [] [v1]) h10) fun h11=>
 bm (aa s.P 48 v3 0) h11 fun v12 h13=>
 bm (ab s.P 3 v12 h13) h13 fun v14 h15=>
 bm (gk s.P 138 v7 v14 true h15) h15 fun v16 h17=>
 bm (aq v16 0) h17 fun v18 h19=>
 bm (aq v16 1) h19 fun v20 h21=>
 cnd v20 (
 bp (yC s k wl 43 false true v18 [] h21) fun v22 h23=>
 au (xX s 43 wl k false) (ao s.P Tryz.f43) GN .norm ⟨[c,d,v1,v3,v5,v7,v18,v20,v7,(.fn (.func 82) [] [v1,v3,v5]),(.fn (.func 84) [] [v1,v3,v5]),(.fn (.func 87) [] [v1]),v7,v16,v7,v12,v14,v16,v18,v20,v20,v18,v22,uu],h23⟩) (
 au (xX s 43 wl k false) (ao s.P Tryz.f43) GN .norm ⟨[c,d,v1,v3,v5,v7,v18,v20,v7,(.fn (.func 82) [] [v1,v3,v5]),(.fn (.func 84) [] [v1,v3,v5]),(.fn (.func 87) [] [v1]),v7,v16,v7,v12,v14,v16,v18,v20,v20,uu,uu,uu],h21⟩):=kB
theorem Rb (k wl:Nat) (h:Hp):evF Tryz.prog xM (k+1) wl 43 [c,d] h=ak (xX (xS k) 43 wl k false) Tryz.f43 [c,d] h:=by kernel_rfl
theorem oV (h:Hp):au (xX s 43 wl k false) (ao s.P Tryz.f43) GN .norm ⟨[c,d,e,o,q,j,g,u,f,y,A,z,B,F,D,E,v,G,I,L,J,N,M,O],h⟩ =
 bm (ab s.P 34 q h) h fun v24 h25=>
 bs (ai s.P wl 34 q v24 h25) fun h26=>
 ef [ab s.P 34 q h26] h26:=kR
theorem fi (cx:Cx) (K:Out→St→Option (V×Hp)) (s:St):au cx K GN .ret s=K .ret s:=by kernel_rfl
-- names: PZ,oV,fi
theorem aaW (h:Hp):ak (xX s 51 wl k false) Tryz.f51 [c] h =
 bp (aN c h) fun v1 h2=>
 some ((.fn (.func 94) [] [v1]),h2):=kB
theorem ab2 (k wl:Nat) (h:Hp):evF Tryz.prog xM (k+1) wl 51 [c] h=ak (xX (xS k) 51 wl k false) Tryz.f51 [c] h:=by kernel_rfl
-- names: aaW,
noncomputable def cR:Code:=al (am Tryz.f53) [1,1,0]
noncomputable def cL:List Fr:=[.seq (al (am Tryz.f53) [1,1,1])]
theorem Z7 (h:Hp):ak (xX s 53 wl k false) Tryz.f53 [c,d] h =
 bp (aN c h) fun v1 h2=>
 bm (aa s.P 57 v1 0) h2 fun v3 h4=>
 bm (ab s.P 3 v3 h4) h4 fun v5 h6=>
 bm (aw s.P .lss 3 v5 (.lit (.int .i64 0))) h6 fun v7 h8=>
 gd v7 (
 yO s k wl 53 Tryz.f53 cR 7 h2.length ([],[]) cL ⟨[c,d,v1,(.lit (.bool false)),(.fn (.func 54) [] [d]),(.fn (.func 54) [] [d]),v3,v5,v7,(.lit (.bool true)),uu,uu,uu,uu,uu,uu,uu,uu,uu,uu,uu,uu,uu,uu,uu,uu,uu,uu,uu,uu,uu],h8⟩) (
 bm (aa s.P 57 v1 0) h8 fun v9 h10=>
 bm (ab s.P 3 v9 h10) h10 fun v11 h12=>
 bm (aw s.P .geq 3 v11 (.lit (.int .i64 6))) h12 fun v13 h14=>
 yO s k wl 53 Tryz.f53 cR 7 h2.length ([],[]) cL ⟨[c,d,v1,(.lit (.bool false)),(.fn (.func 54) [] [d]),(.fn (.func 54) [] [d]),v3,v5,v7,(.lit (.bool false)),v9,v11,v13,uu,uu,uu,uu,uu,uu,uu,uu,uu,uu,uu,uu,uu,uu,uu,uu,uu,uu],h14⟩) (
 yO s k wl 53 Tryz.f53 cR 5 h2.length ([],[]) cL ⟨[c,d,v1,(.lit (.bool false)),(.fn (.func 54) [] [d]),(.fn (.func 54) [] [d]),v3,v5,v7,v7,uu,uu,uu,uu,uu,uu,uu,uu,uu,uu,uu,uu,uu,uu,uu,uu,uu,uu,uu,uu,uu],h8⟩):=kB
theorem ab7 (k wl:Nat) (h:Hp):evF Tryz.prog xM (k+1) wl 53 [c,d] h=ak (xX (xS k) 53 wl k false) Tryz.f53 [c,d] h:=by kernel_rfl
theorem Du (zz:List V) (h:Hp):yO s k wl 53 Tryz.f53 cR 7 m0 ac cL ⟨(c::d::e::o::q::j::g::u::f::y::A::z::B::F::D::E::v::G::I::zz),h⟩ =
 bm (aQ y (.lit (.bool true)) B) h fun v15 h16=>
 gd v15 (
 yO s k wl 53 Tryz.f53 cR 13 m0 ac cL ⟨(c::d::e::o::q::j::g::u::f::y::A::z::B::v15::(.lit (.bool true))::uu::uu::uu::uu::zz),h16⟩) (
 bm (aa s.P 57 e 1) h16 fun v17 h18=>
 bm (ab s.P 53 v17 h18) h18 fun v19 h20=>
 bp (yC s k wl 53 false true (.fn (.func 55) [] []) [v19,q] h20) fun v21 h22=>
 yO s k wl 53 Tryz.f53 cR 13 m0 ac cL ⟨(c::d::e::o::q::j::g::u::f::y::A::z::B::v15::(.lit (.bool false))::v17::v19::q::v21::zz),h22⟩) (
 yO s k wl 53 Tryz.f53 cR 10 m0 ac cL ⟨(c::d::e::o::q::j::g::u::f::y::A::z::B::v15::v15::uu::v::G::I::zz),h16⟩):=kG
theorem Ds (h:Hp):yO s k wl 53 Tryz.f53 cR 13 m0 ac cL ⟨[c,d,e,o,q,j,g,u,f,y,A,z,B,F,D,E,v,G,I,L,J,N,M,O,R,T,U,W,X,Q,Y],h⟩ =
 bm (aQ D (.lit (.bool true)) I) h fun v23 h24=>
 gd v23 (
 yO s k wl 53 Tryz.f53 cR 24 m0 ac cL ⟨[c,d,e,o,q,j,g,u,f,y,A,z,B,F,D,E,v,G,I,v23,(.lit (.bool true)),uu,uu,uu,uu,uu,uu,uu,uu,uu,Y],h24⟩) (
 bm (aa s.P 57 e 0) h24 fun v25 h26=>
 bm (ab s.P 3 v25 h26) h26 fun v27 h28=>
 bm (aw s.P .neq 3 v27 (.lit (.int .i64 0))) h28 fun v29 h30=>
 yO s k wl 53 Tryz.f53 cR 19 m0 ac cL ⟨[c,d,e,o,q,j,g,u,f,y,A,z,B,F,D,E,v,G,I,v23,(.lit (.bool false)),v25,v27,v29,v29,T,U,W,X,Q,Y],h30⟩) (
 yO s k wl 53 Tryz.f53 cR 16 m0 ac cL ⟨[c,d,e,o,q,j,g,u,f,y,A,z,B,F,D,E,v,G,I,v23,v23,uu,M,O,R,T,U,W,X,Q,Y],h24⟩):=kG
theorem DK (h:Hp):yO s k wl 53 Tryz.f53 cR 24 m0 ac cL ⟨[c,d,e,o,q,j,g,u,f,y,A,z,B,F,D,E,v,G,I,L,J,N,M,O,R,T,U,W,X,Q,Y],h⟩ =
 bm (aQ J (.lit (.bool true)) Q) h fun v31 h32=>
 some (v31,h32):=kG
theorem CH (h:Hp):yO s k wl 53 Tryz.f53 cR 19 m0 ac cL ⟨[c,d,e,o,q,j,g,u,f,y,A,z,B,F,D,E,v,G,I,L,J,N,M,O,R,T,U,W,X,Q,Y],h⟩ =
 gd R (
 bm (aa s.P 57 e 1) h fun v33 h34=>
 bm (ab s.P 53 v33 h34) h34 fun v35 h36=>
 bp (bc s.P 53 v35 h36) fun v37 h38=>
 bm (aw s.P .eql 3 v37 (.lit (.int .i64 0))) h38 fun v39 h40=>
 yO s k wl 53 Tryz.f53 cR 23 m0 ac cL ⟨[c,d,e,o,q,j,g,u,f,y,A,z,B,F,D,E,v,G,I,L,J,N,M,O,(.lit (.bool true)),v33,v35,v37,v39,Q,Y],h40⟩) (
 yO s k wl 53 Tryz.f53 cR 23 m0 ac cL ⟨[c,d,e,o,q,j,g,u,f,y,A,z,B,F,D,E,v,G,I,L,J,N,M,O,(.lit (.bool false)),uu,uu,uu,uu,Q,Y],h⟩) (
 yO s k wl 53 Tryz.f53 cR 20 m0 ac cL ⟨[c,d,e,o,q,j,g,u,f,y,A,z,B,F,D,E,v,G,I,L,J,N,M,O,R,uu,U,W,X,Q,Y],h⟩):=kG
theorem Dz (h:Hp):yO s k wl 53 Tryz.f53 cR 23 m0 ac cL ⟨[c,d,e,o,q,j,g,u,f,y,A,z,B,F,D,E,v,G,I,L,J,N,M,O,R,T,U,W,X,Q,Y],h⟩ =
 gd J (
 yO s k wl 53 Tryz.f53 cR 24 m0 ac cL ⟨[c,d,e,o,q,j,g,u,f,y,A,z,B,F,D,E,v,G,I,L,(.lit (.bool true)),N,M,O,R,T,U,W,X,uu,Y],h⟩) (
 bm (aQ R X (.lit (.bool false))) h fun v41 h42=>
 yO s k wl 53 Tryz.f53 cR 24 m0 ac cL ⟨[c,d,e,o,q,j,g,u,f,y,A,z,B,F,D,E,v,G,I,L,(.lit (.bool false)),N,M,O,R,T,U,W,X,v41,Y],h42⟩) (
 yO s k wl 53 Tryz.f53 cR 24 m0 ac cL ⟨[c,d,e,o,q,j,g,u,f,y,A,z,B,F,D,E,v,G,I,L,J,N,M,O,R,T,U,W,X,uu,Y],h⟩):=kG
theorem Cv (h:Hp):yO s k wl 53 Tryz.f53 cR 20 m0 ac cL ⟨[c,d,e,o,q,j,g,u,f,y,A,z,B,F,D,E,v,G,I,L,J,N,M,O,R,T,U,W,X,Q,Y],h⟩ =
 gd R (
 bm (ab s.P 53 T h) h fun v43 h44=>
 bp (bc s.P 53 v43 h44) fun v45 h46=>
 bm (aw s.P .eql 3 v45 (.lit (.int .i64 0))) h46 fun v47 h48=>
 yO s k wl 53 Tryz.f53 cR 23 m0 ac cL ⟨[c,d,e,o,q,j,g,u,f,y,A,z,B,F,D,E,v,G,I,L,J,N,M,O,(.lit (.bool true)),T,v43,v45,v47,Q,Y],h48⟩) (
 yO s k wl 53 Tryz.f53 cR 23 m0 ac cL ⟨[c,d,e,o,q,j,g,u,f,y,A,z,B,F,D,E,v,G,I,L,J,N,M,O,(.lit (.bool false)),T,uu,uu,uu,Q,Y],h⟩) (
 yO s k wl 53 Tryz.f53 cR 21 m0 ac cL ⟨[c,d,e,o,q,j,g,u,f,y,A,z,B,F,D,E,v,G,I,L,J,N,M,O,R,T,uu,W,X,Q,Y],h⟩):=kG
theorem CZ (h:Hp):yO s k wl 53 Tryz.f53 cR 21 m0 ac cL ⟨[c,d,e,o,q,j,g,u,f,y,A,z,B,F,D,E,v,G,I,L,J,N,M,O,R,T,U,W,X,Q,Y],h⟩ =
 gd R (
 bp (bc s.P 53 U h) fun v49 h50=>
 bm (aw s.P .eql 3 v49 (.lit (.int .i64 0))) h50 fun v51 h52=>
 yO s k wl 53 Tryz.f53 cR 23 m0 ac cL ⟨[c,d,e,o,q,j,g,u,f,y,A,z,B,F,D,E,v,G,I,L,J,N,M,O,(.lit (.bool true)),T,U,v49,v51,Q,Y],h52⟩) (
 yO s k wl 53 Tryz.f53 cR 23 m0 ac cL ⟨[c,d,e,o,q,j,g,u,f,y,A,z,B,F,D,E,v,G,I,L,J,N,M,O,(.lit (.bool false)),T,U,uu,uu,Q,Y],h⟩) (
 yO s k wl 53 Tryz.f53 cR 22 m0 ac cL ⟨[c,d,e,o,q,j,g,u,f,y,A,z,B,F,D,E,v,G,I,L,J,N,M,O,R,T,U,uu,X,Q,Y],h⟩):=kG
theorem DW (h:Hp):yO s k wl 53 Tryz.f53 cR 22 m0 ac cL ⟨[c,d,e,o,q,j,g,u,f,y,A,z,B,F,D,E,v,G,I,L,J,N,M,O,R,T,U,W,X,Q,Y],h⟩ =
 gd R (
 bm (aw s.P .eql 3 W (.lit (.int .i64 0))) h fun v53 h54=>
 yO s k wl 53 Tryz.f53 cR 23 m0 ac cL ⟨[c,d,e,o,q,j,g,u,f,y,A,z,B,F,D,E,v,G,I,L,J,N,M,O,(.lit (.bool true)),T,U,W,v53,Q,Y],h54⟩) (
 yO s k wl 53 Tryz.f53 cR 23 m0 ac cL ⟨[c,d,e,o,q,j,g,u,f,y,A,z,B,F,D,E,v,G,I,L,J,N,M,O,(.lit (.bool false)),T,U,W,uu,Q,Y],h⟩) (
 yO s k wl 53 Tryz.f53 cR 23 m0 ac cL ⟨[c,d,e,o,q,j,g,u,f,y,A,z,B,F,D,E,v,G,I,L,J,N,M,O,R,T,U,W,uu,Q,Y],h⟩):=kG
theorem lO (cx:Cx) (K:Out→St→Option (V×Hp)) (s:St):au cx K cL .ret s=K .ret s:=by kernel_rfl
-- names: Z7,Du,Ds,DK,CH,Dz,Cv,CZ,DW,lO
noncomputable def GG:Code:=al (am Tryz.f54) [1,0]
noncomputable def DX:List Fr:=[.seq (al (am Tryz.f54) [1,1])]
theorem Zy (h:Hp):ak (xX s 54 wl k false) Tryz.f54 [c,d] h =
 bm (aw s.P .lss 3 c (.lit (.int .i64 0))) h fun v1 h2=>
 gd v1 (
 yO s k wl 54 Tryz.f54 GG 8 h.length ([],[]) DX ⟨[c,d,uu,(.lit (.bool false)),c,v1,(.lit (.bool true)),uu,uu,uu,uu,uu,uu],h2⟩) (
 bm (aa s.P 30 d 1) h2 fun v3 h4=>
 bm (ab s.P 24 v3 h4) h4 fun v5 h6=>
 bp (bc s.P 24 v5 h6) fun v7 h8=>
 bm (aw s.P .geq 3 c v7) h8 fun v9 h10=>
 yO s k wl 54 Tryz.f54 GG 8 h.length ([],[]) DX ⟨[c,d,uu,(.lit (.bool false)),c,v1,(.lit (.bool false)),c,v3,v5,v7,v9,uu],h10⟩) (
 yO s k wl 54 Tryz.f54 GG 4 h.length ([],[]) DX ⟨[c,d,uu,(.lit (.bool false)),c,v1,v1,uu,uu,uu,uu,uu,uu],h2⟩):=kB
theorem abZ (k wl:Nat) (h:Hp):evF Tryz.prog xM (k+1) wl 54 [c,d] h=ak (xX (xS k) 54 wl k false) Tryz.f54 [c,d] h:=by kernel_rfl
theorem Cn (h:Hp):yO s k wl 54 Tryz.f54 GG 8 m0 ac DX ⟨[c,d,e,o,q,j,g,u,f,y,A,z,B],h⟩ =
 bm (aQ g (.lit (.bool true)) z) h fun v11 h12=>
 some (v11,h12):=kG
theorem lC (cx:Cx) (K:Out→St→Option (V×Hp)) (s:St):au cx K DX .ret s=K .ret s:=by kernel_rfl
-- names: Zy,Cn,lC
noncomputable def GQ:Code:=al (am Tryz.f58) [1,1,0,1,0,0]
noncomputable def Hk:List Fr:=[.block 0,.seq (al (am Tryz.f58) [1,1,1])]
theorem acT (h:Hp):ak (xX s 58 wl k false) Tryz.f58 [c] h =
 bp (some (.own h.length 0 0,h++[.rows 0 [] 0 true])) fun v1 h2=>
 bp (yC s k wl 58 false true (.fn (.func 102) [] []) [c] h2) fun v3 h4=>
 bp (bc s.P 24 v3 h4) fun v5 h6=>
 yI s k wl 58 Tryz.f58 GQ h6.length Hk k ⟨[(V.kill h6.length c),(V.kill h6.length uu),(V.kill h6.length v1),(V.kill h6.length v3),(V.kill h6.length uu),(V.kill h6.length c),(V.kill h6.length v3),(V.kill h6.length v3),(V.kill h6.length v5),(.lit (.int .i64 0)),.junk,.junk,.junk,.junk,.junk,.junk,.junk,.junk,.junk,.junk,.junk,.junk,.junk,(V.kill h6.length uu)],bW h6.length h6⟩:=kB
theorem agK (k wl:Nat) (h:Hp):evF Tryz.prog xM (k+1) wl 58 [c] h=ak (xX (xS k) 58 wl k false) Tryz.f58 [c] h:=by kernel_rfl
theorem acL (P:Program) (h:Hp):ao P Tryz.f58 .ret ⟨[c,d,e,o,q,j,g,u,f,y,A,z,B,F,D,E,v,G,I,L,J,N,M,O],h⟩=some (e,h):=by kernel_rfl
theorem Rl (s:Sys) (K:Out→St→Option (V×Hp)) (k wl:Nat) (rd:Bool) (n n0:Nat) (h:Hp):itX (xX s 58 wl k rd) GQ n0 K (n+1) ⟨[c,d,e,o,q,j,g,u,f,y,A,z,B,F,D,E,v,G,I,L,J,N,M,O],h⟩ =
 bm (aw s.P .lss 3 y f) h fun v7 h8=>
 cnd v7 (
 bm (aj s.P 24 o y h8) h8 fun v9 h10=>
 bm (aa s.P 101 v9 1) h10 fun v11 h12=>
 bm (ab s.P 53 v11 h12) h12 fun v13 h14=>
 bp (bL (xX s 58 wl k rd) false true (.fn (.func 80) [] []) [v13] h14) fun v15 h16=>
 bm (aj s.P 24 o y h16) h16 fun v17 h18=>
 bm (aa s.P 101 v17 1) h18 fun v19 h20=>
 bs (ai s.P wl 53 v19 v15 h20) fun h21=>
 bm (aw s.P .add 3 y (.lit (.int .i64 1))) h21 fun v22 h23=>
 itX (xX s 58 wl k rd) GQ n0 K n ⟨[(V.kill n0 c),(V.kill n0 d),(V.kill n0 e),(V.kill n0 o),(V.kill n0 y),(V.kill n0 j),(V.kill n0 g),(V.kill n0 u),(V.kill n0 f),(V.kill n0 v22),.junk,.junk,.junk,.junk,.junk,.junk,.junk,.junk,.junk,.junk,.junk,.junk,.junk,(V.kill n0 O)],bW n0 h23⟩) (
 K (.exit 0) ⟨[(V.kill n0 c),(V.kill n0 d),(V.kill n0 e),(V.kill n0 o),(V.kill n0 q),(V.kill n0 j),(V.kill n0 g),(V.kill n0 u),(V.kill n0 f),.junk,.junk,.junk,.junk,.junk,.junk,.junk,.junk,.junk,.junk,.junk,.junk,.junk,.junk,(V.kill n0 O)],bW n0 h8⟩):=kI
theorem JR (h:Hp):au (xX s 58 wl k false) (ao s.P Tryz.f58) Hk (.exit 0) ⟨[c,d,e,o,q,j,g,u,f,y,A,z,B,F,D,E,v,G,I,L,J,N,M,O],h⟩ =
 some (o,h):=kR
theorem pY (cx:Cx) (K:Out→St→Option (V×Hp)) (s:St):au cx K Hk .ret s=K .ret s:=by kernel_rfl
-- names: acT,acL,Rl,JR,pY
theorem acR (h:Hp):ak (xX s 67 wl k false) Tryz.f67 [c] h =
 bp (aN c h) fun v1 h2=>
 bm (aa s.P 57 v1 1) h2 fun v3 h4=>
 bm (ab s.P 53 v3 h4) h4 fun v5 h6=>
 bp (bc s.P 53 v5 h6) fun v7 h8=>
 bm (aw s.P .gtr 3 v7 (.lit (.int .i64 0))) h8 fun v9 h10=>
 some (v9,h10):=kB
theorem agZ (k wl:Nat) (h:Hp):evF Tryz.prog xM (k+1) wl 67 [c] h=ak (xX (xS k) 67 wl k false) Tryz.f67 [c] h:=by kernel_rfl
-- names: acR,
theorem Nh (h:Hp):ak (xX s 82 wl k false) Tryz.f82 [c,d,e] h =
 stO h.length c (
 bm (ab s.P 86 c h) h fun v1 h2=>
 stO h.length c (
 bm (ab s.P 86 c h2) h2 fun v3 h4=>
 stO h.length v3 (
 bm (aT v3 h4) h4 fun v5 h6=>
 bm (aa s.P 30 v5 3) h6 fun v7 h8=>
 stO h.length v7 (
 bm (ab s.P 27 v7 h8) h8 fun v9 h10=>
 bm (aa s.P 48 d 1) h10 fun v11 h12=>
 stO h.length v11 (
 bm (ab s.P 3 v11 h12) h12 fun v13 h14=>
 bm (ab s.P 86 c h14) h14 fun v15 h16=>
 bm (aT v15 h16) h16 fun v17 h18=>
 bm (aa s.P 30 v17 0) h18 fun v19 h20=>
 bm (ab s.P 23 v19 h20) h20 fun v21 h22=>
 bm (ab s.P 86 c h22) h22 fun v23 h24=>
 bm (aT v23 h24) h24 fun v25 h26=>
 bm (aa s.P 30 v25 1) h26 fun v27 h28=>
 bm (ab s.P 24 v27 h28) h28 fun v29 h30=>
 bm (ab s.P 86 c h30) h30 fun v31 h32=>
 bm (aT v31 h32) h32 fun v33 h34=>
 bm (aa s.P 30 v33 2) h34 fun v35 h36=>
 bm (ab s.P 26 v35 h36) h36 fun v37 h38=>
 bm (aa s.P 48 d 1) h38 fun v39 h40=>
 bm (ab s.P 3 v39 h40) h40 fun v41 h42=>
 bm (ab s.P 86 c h42) h42 fun v43 h44=>
 bm (aT v43 h44) h44 fun v45 h46=>
 bm (aa s.P 30 v45 3) h46 fun v47 h48=>
 bm (ab s.P 27 v47 h48) h48 fun v49 h50=>
 bm (aa s.P 48 d 1) h50 fun v51 h52=>
 bm (ab s.P 3 v51 h52) h52 fun v53 h54=>
 bm (aj s.P 27 v49 v53 h54) h54 fun v55 h56=>
 bm (ab s.P 65 v55 h56) h56 fun v57 h58=>
 bm (aa s.P 48 d 2) h58 fun v59 h60=>
 bm (ab s.P 46 v59 h60) h60 fun v61 h62=>
 bp (yC s k wl 82 true true (.fn (.func 83) [] []) [v21,v29,v37,v41,v57,v61] h62) fun v63 h64=>
 bm (aq v63 0) h64 fun v65 h66=>
 bm (aq v63 1) h66 fun v67 h68=>
 bm (aq v63 2) h68 fun v69 h70=>
 bm (aT v1 h70) h70 fun v71 h72=>
 bm (aa s.P 30 v71 2) h72 fun v73 h74=>
 bs (ai s.P wl 26 v73 v65 h74) fun h75=>
 bm (aj s.P 27 v9 v13 h75) h75 fun v76 h77=>
 bs (ai s.P wl 65 v76 v67 h77) fun h78=>
 bs (ai s.P wl 34 e v69 h78) fun h79=>
 apt (lgW e (lgW v76 (lgW v73 (lgR v11 ([],[]))))) (
 some (.tup [],h79))))))):=kB
theorem RZ (k wl:Nat) (h:Hp):evF Tryz.prog xM (k+1) wl 82 [c,d,e] h=ak (xX (xS k) 82 wl k false) Tryz.f82 [c,d,e] h:=by kernel_rfl
-- names: Nh,
theorem Ng (h:Hp):ak (xX s 84 wl k false) Tryz.f84 [c,d,e] h =
 bm (ab s.P 86 c h) h fun v1 h2=>
 bm (aT v1 h2) h2 fun v3 h4=>
 bm (aa s.P 30 v3 0) h4 fun v5 h6=>
 bm (ab s.P 23 v5 h6) h6 fun v7 h8=>
 bm (ab s.P 86 c h8) h8 fun v9 h10=>
 bm (aT v9 h10) h10 fun v11 h12=>
 bm (aa s.P 30 v11 1) h12 fun v13 h14=>
 bm (ab s.P 24 v13 h14) h14 fun v15 h16=>
 bm (ab s.P 86 c h16) h16 fun v17 h18=>
 bm (aT v17 h18) h18 fun v19 h20=>
 bm (aa s.P 30 v19 2) h20 fun v21 h22=>
 bm (ab s.P 26 v21 h22) h22 fun v23 h24=>
 bm (ab s.P 86 c h24) h24 fun v25 h26=>
 bm (aT v25 h26) h26 fun v27 h28=>
 bm (aa s.P 30 v27 4) h28 fun v29 h30=>
 bm (ab s.P 28 v29 h30) h30 fun v31 h32=>
 bm (aa s.P 48 d 1) h32 fun v33 h34=>
 bm (ab s.P 3 v33 h34) h34 fun v35 h36=>
 bm (aj s.P 28 v31 v35 h36) h36 fun v37 h38=>
 bm (ab s.P 57 v37 h38) h38 fun v39 h40=>
 bp (yC s k wl 84 false true (.fn (.func 85) [] []) [v7,v15,v23,v39] h40) fun v41 h42=>
 cnd v41 (
 stO h42.length c (
 bm (ab s.P 86 c h42) h42 fun v43 h44=>
 stO h42.length c (
 bm (ab s.P 86 c h44) h44 fun v45 h46=>
 stO h42.length v45 (
 bm (aT v45 h46) h46 fun v47 h48=>
 bm (aa s.P 30 v47 4) h48 fun v49 h50=>
 stO h42.length v49 (
 bm (ab s.P 28 v49 h50) h50 fun v51 h52=>
 bm (aa s.P 48 d 1) h52 fun v53 h54=>
 stO h42.length v53 (
 bm (ab s.P 3 v53 h54) h54 fun v55 h56=>
 bm (ab s.P 86 c h56) h56 fun v57 h58=>
 bm (aT v57 h58) h58 fun v59 h60=>
 bm (aa s.P 30 v59 0) h60 fun v61 h62=>
 bm (ab s.P 23 v61 h62) h62 fun v63 h64=>
 bm (ab s.P 86 c h64) h64 fun v65 h66=>
 bm (aT v65 h66) h66 fun v67 h68=>
 bm (aa s.P 30 v67 1) h68 fun v69 h70=>
 bm (ab s.P 24 v69 h70) h70 fun v71 h72=>
 bm (ab s.P 86 c h72) h72 fun v73 h74=>
 bm (aT v73 h74) h74 fun v75 h76=>
 bm (aa s.P 30 v75 2) h76 fun v77 h78=>
 bm (ab s.P 26 v77 h78) h78 fun v79 h80=>
 bm (aa s.P 48 d 1) h80 fun v81 h82=>
 bm (ab s.P 3 v81 h82) h82 fun v83 h84=>
 bm (ab s.P 86 c h84) h84 fun v85 h86=>
 bm (aT v85 h86) h86 fun v87 h88=>
 bm (aa s.P 30 v87 4) h88 fun v89 h90=>
 bm (ab s.P 28 v89 h90) h90 fun v91 h92=>
 bm (aa s.P 48 d 1) h92 fun v93 h94=>
 bm (ab s.P 3 v93 h94) h94 fun v95 h96=>
 bm (aj s.P 28 v91 v95 h96) h96 fun v97 h98=>
 bm (ab s.P 57 v97 h98) h98 fun v99 h100=>
 bp (yC s k wl 84 true true (.fn (.func 86) [] []) [v63,v71,v79,v83,v99] h100) fun v101 h102=>
 bm (aq v101 0) h102 fun v103 h104=>
 bm (aq v101 1) h104 fun v105 h106=>
 bm (aq v101 2) h106 fun v107 h108=>
 bm (aT v43 h108) h108 fun v109 h110=>
 bm (aa s.P 30 v109 2) h110 fun v111 h112=>
 bs (ai s.P wl 26 v111 v103 h112) fun h113=>
 bm (aj s.P 28 v51 v55 h113) h113 fun v114 h115=>
 bs (ai s.P wl 57 v114 v105 h115) fun h116=>
 bs (ai s.P wl 34 e v107 h116) fun h117=>
 apt (lgW e (lgW v114 (lgW v111 (lgR v53 ([],[]))))) (
 some (.tup [],h117)))))))) (
 some (.tup [],h42)):=kB
theorem RH (k wl:Nat) (h:Hp):evF Tryz.prog xM (k+1) wl 84 [c,d,e] h=ak (xX (xS k) 84 wl k false) Tryz.f84 [c,d,e] h:=by kernel_rfl
-- names: Ng,
theorem OQ (h:Hp):ak (xX s 87 wl k false) Tryz.f87 [c] h =
 stO h.length c (
 bm (ab s.P 86 c h) h fun v1 h2=>
 bm (ab s.P 86 c h2) h2 fun v3 h4=>
 bm (aT v3 h4) h4 fun v5 h6=>
 bm (aa s.P 30 v5 2) h6 fun v7 h8=>
 bm (ab s.P 26 v7 h8) h8 fun v9 h10=>
 bp (yC s k wl 87 true true (.fn (.func 88) [] []) [v9,(.lit (.int .i64 3)),(.lit (.int .u64 1))] h10) fun v11 h12=>
 bm (aT v1 h12) h12 fun v13 h14=>
 bm (aa s.P 30 v13 2) h14 fun v15 h16=>
 bs (ai s.P wl 26 v15 v11 h16) fun h17=>
 some (.tup [],h17)):=kB
theorem RB (k wl:Nat) (h:Hp):evF Tryz.prog xM (k+1) wl 87 [c] h=ak (xX (xS k) 87 wl k false) Tryz.f87 [c] h:=by kernel_rfl
-- names: OQ,
noncomputable def rB:Code:=al (am Tryz.f94) [1,0,0]
noncomputable def G7:List Fr:=[.block 0]
noncomputable def HF:Code:=al (am Tryz.f94) [1,0,0,1,1,0,0,1,0]
noncomputable def D2:List Fr:=[.seq (al (am Tryz.f94) [1,0,0,1,1,0,0,1,1]),.block 1,.seq (al (am Tryz.f94) [1,0,0,1,1,1])]
theorem abC (h:Hp):ak (xX s 94 wl k false) Tryz.f94 [c,d] h =
 bm (aa s.P 30 d 3) h fun v1 h2=>
 bm (ab s.P 27 v1 h2) h2 fun v3 h4=>
 bp (bc s.P 27 v3 h4) fun v5 h6=>
 yI s k wl 94 Tryz.f94 rB h6.length G7 k ⟨[(V.kill h6.length c),(V.kill h6.length d),(V.kill h6.length uu),(V.kill h6.length uu),(V.kill h6.length uu),(V.kill h6.length v1),(V.kill h6.length v3),(V.kill h6.length v5),(.lit (.int .i64 0)),.junk,.junk,.junk,.junk,.junk,.junk,.junk,.junk,.junk,.junk,.junk,.junk,.junk,.junk,.junk,.junk,.junk,.junk,.junk,.junk,.junk],bW h6.length h6⟩:=kB
theorem acb (k wl:Nat) (h:Hp):evF Tryz.prog xM (k+1) wl 94 [c,d] h=ak (xX (xS k) 94 wl k false) Tryz.f94 [c,d] h:=by kernel_rfl
theorem aa9 (P:Program) (h:Hp):ao P Tryz.f94 .ret ⟨[c,d,e,o,q,j,g,u,f,y,A,z,B,F,D,E,v,G,I,L,J,N,M,O,R,T,U,W,X,Q],h⟩=some (.tup [],h):=by kernel_rfl
theorem RV (s:Sys) (K:Out→St→Option (V×Hp)) (k wl:Nat) (rd:Bool) (n n0:Nat) (h:Hp):itX (xX s 94 wl k rd) rB n0 K (n+1) ⟨[c,d,e,o,q,j,g,u,f,y,A,z,B,F,D,E,v,G,I,L,J,N,M,O,R,T,U,W,X,Q],h⟩ =
 bm (aw s.P .lss 3 f u) h fun v7 h8=>
 cnd v7 (
 bm (aj s.P 27 g f h8) h8 fun v9 h10=>
 bm (ab s.P 65 v9 h10) h10 fun v11 h12=>
 bp (av s.P 65 h12) fun v13 h14=>
 bs (ai s.P wl 65 v13 v11 h14) fun h15=>
 bm (aa s.P 30 d 0) h15 fun v16 h17=>
 bm (ab s.P 23 v16 h17) h17 fun v18 h19=>
 bm (aa s.P 30 d 1) h19 fun v20 h21=>
 bm (ab s.P 24 v20 h21) h21 fun v22 h23=>
 bm (aa s.P 30 d 2) h23 fun v24 h25=>
 bm (ab s.P 26 v24 h25) h25 fun v26 h27=>
 bm (ab s.P 65 v13 h27) h27 fun v28 h29=>
 bp (bL (xX s 94 wl k rd) false true (.fn (.func 95) [] []) [v18,v22,v26,f,v28] h29) fun v30 h31=>
 bm (vUn .not v30) h31 fun v32 h33=>
 gd v32 (
 bp (bL (xX s 94 wl k rd) false true c [f] h33) fun v34 h35=>
 bm (vUn .not v34) h35 fun v36 h37=>
 bV (xX s 94 wl k rd) HF 15 h15.length ([],[]) (au (xX s 94 wl k rd) (eO (xX s 94 wl k rd) rB n0 K n) D2) ⟨[c,d,e,f,v13,j,g,u,f,v7,f,v9,v11,v16,v18,v20,v22,v24,v26,f,v28,v30,v32,(.lit (.bool true)),c,f,v34,v36,X,Q],h37⟩) (
 bV (xX s 94 wl k rd) HF 15 h15.length ([],[]) (au (xX s 94 wl k rd) (eO (xX s 94 wl k rd) rB n0 K n) D2) ⟨[c,d,e,f,v13,j,g,u,f,v7,f,v9,v11,v16,v18,v20,v22,v24,v26,f,v28,v30,v32,(.lit (.bool false)),uu,uu,uu,uu,X,Q],h33⟩) (
 bV (xX s 94 wl k rd) HF 12 h15.length ([],[]) (au (xX s 94 wl k rd) (eO (xX s 94 wl k rd) rB n0 K n) D2) ⟨[c,d,e,f,v13,j,g,u,f,v7,f,v9,v11,v16,v18,v20,v22,v24,v26,f,v28,v30,v32,v32,uu,T,U,W,X,Q],h33⟩)) (
 K (.exit 0) ⟨[(V.kill n0 c),(V.kill n0 d),(V.kill n0 e),(V.kill n0 o),(V.kill n0 q),(V.kill n0 j),(V.kill n0 g),(V.kill n0 u),.junk,.junk,.junk,.junk,.junk,.junk,.junk,.junk,.junk,.junk,.junk,.junk,.junk,.junk,.junk,.junk,.junk,.junk,.junk,.junk,.junk,.junk],bW n0 h8⟩):=kI
theorem Cr (s:Sys) (k wl:Nat) (zz:List V) (h:Hp):au (xX s 94 wl k false) (ao s.P Tryz.f94) G7 (.exit 0) ⟨(c::zz),h⟩ =
 some (.tup [],h):=kR
theorem Ej (s:Sys) (K:Out→St→Option (V×Hp)) (k wl:Nat) (rd:Bool) (n n0:Nat) (m0:Nat) (ac:List Nat×List Nat) (h:Hp):bV (xX s 94 wl k rd) HF 15 m0 ac (au (xX s 94 wl k rd) (eO (xX s 94 wl k rd) rB n0 K n) D2) ⟨[c,d,e,o,q,j,g,u,f,y,A,z,B,F,D,E,v,G,I,L,J,N,M,O,R,T,U,W,X,Q],h⟩ =
 bm (aQ O W (.lit (.bool false))) h fun v38 h39=>
 cnd v38 (
 K .ret ⟨[c,d,e,o,q,j,g,u,f,y,A,z,B,F,D,E,v,G,I,L,J,N,M,O,R,T,U,W,v38,Q],h39⟩) (
 bm (aw s.P .add 3 f (.lit (.int .i64 1))) h39 fun v40 h41=>
 itX (xX s 94 wl k rd) rB n0 K n ⟨[(V.kill n0 c),(V.kill n0 d),(V.kill n0 e),(V.kill n0 o),(V.kill n0 q),(V.kill n0 j),(V.kill n0 g),(V.kill n0 u),(V.kill n0 v40),.junk,.junk,.junk,.junk,.junk,.junk,.junk,.junk,.junk,.junk,.junk,.junk,.junk,.junk,.junk,.junk,.junk,.junk,.junk,.junk,.junk],bW n0 h41⟩):=kG
theorem lJ (cx:Cx) (K:Out→St→Option (V×Hp)) (s:St):au cx K G7 .ret s=K .ret s:=by kernel_rfl
theorem ln (cx:Cx) (K:Out→St→Option (V×Hp)) (s:St):au cx K D2 .ret s=K .ret s:=by kernel_rfl
-- names: abC,aa9,RV,Cr,Ej,lJ,ln
end
end Go.Ab
