import Derived.Test.YtblpbpnilkfjhaaGreatR6Seat
import Derived.Test.YtblpbpnilkfjhaaGreatAbLibC
set_option linter.unusedVariables false
set_option linter.unusedSimpArgs false
set_option maxRecDepth 100000
set_option linter.unusedVariables false
namespace Go.Ab
open Go.Proofs
section
variable (s:Sys) (k wl:Nat) (m0:Nat) (ac:List Nat×List Nat) (a b d e n o g i j p q r l u y v E A F B D z Q L R M I T N U O J G W X Y Z t0:V)
noncomputable def wD:List Fr:=[.seq (al (am Tryz.f165) [1,1,1,1])]
theorem UJ (h:Hp):ak (xX s 165 wl k false) Tryz.f165 [a,b,d] h =
 bp (aJ a h) fun v1 h2=>
 bp (aJ d h2) fun v3 h4=>
 bp (some (.own h4.length 0 0,h4++[.rows 0 [] 0 true])) fun v5 h6=>
 bp (ar s.P 55 h6) fun v7 h8=>
 stO h8.length v3 (
 bm (ab s.P 55 v3 h8) h8 fun v9 h10=>
 stO h8.length v1 (
 bm (ab s.P 23 v1 h10) h10 fun v11 h12=>
 bp (yC s k wl 165 true true (.fn (.func 76) [] []) [b] h12) fun v13 h14=>
 bm (bh s.P 205 [(0,v9),(1,v11),(2,v13)]) h14 fun v15 h16=>
 bp (aJ v15 h16) fun v17 h18=>
 bp (aB s.P wl 207 5 [(0,(.fn (.func 183) [] [])),(1,(.fn (.func 184) [] [])),(2,(.fn (.func 185) [] [])),(3,(.fn (.func 186) [] [])),(4,(.fn (.func 187) [] []))] h18) fun v19 h20=>
 bm (ab s.P 23 v1 h20) h20 fun v21 h22=>
 bm (ab s.P 55 v3 h22) h22 fun v23 h24=>
 bp (aX s.P 207 v19 h24) fun v25 h26=>
 bp (yC s k wl 165 false true (.fn (.func 188) [] []) [v21,b,v23,(.lit (.int .i64 5)),v25] h26) fun v27 h28=>
 cnd v27 (
 bm (aa s.P 55 v3 1) h28 fun v29 h30=>
 bm (ab s.P 3 v29 h30) h30 fun v31 h32=>
 bm (ai s.P 207 v19 v31 h32) h32 fun v33 h34=>
 bm (ab s.P 206 v33 h34) h34 fun v35 h36=>
 bp (yC s k wl 165 false true v35 [v17] h36) fun v37 h38=>
 au (xX s 165 wl k false) (av s.P Tryz.f165) wD .norm ⟨[a,b,d,v1,uu,v3,v5,v7,v17,v19,v9,v11,b,v13,v15,v17,v19,v21,b,v23,v19,v25,v27,v19,v29,v31,v33,v35,v17,v37,uu,uu,uu,uu,uu,uu,uu,uu],h38⟩) (
 au (xX s 165 wl k false) (av s.P Tryz.f165) wD .norm ⟨[a,b,d,v1,uu,v3,v5,v7,v17,v19,v9,v11,b,v13,v15,v17,v19,v21,b,v23,v19,v25,v27,uu,uu,uu,uu,uu,uu,uu,uu,uu,uu,uu,uu,uu,uu,uu],h28⟩))):=kB
theorem aaA (k wl:Nat) (h:Hp):evF Tryz.prog xM (k+1) wl 165 [a,b,d] h=ak (xX (xS k) 165 wl k false) Tryz.f165 [a,b,d] h:=by kernel_rfl
theorem Jn (h:Hp):au (xX s 165 wl k false) (av s.P Tryz.f165) wD .norm ⟨[a,b,d,e,n,o,g,i,j,p,q,r,l,u,y,v,E,A,F,B,D,z,Q,L,R,M,I,T,N,U,O,J,G,W,X,Y,Z,t0],h⟩ =
 bm (aL j h) h fun v39 h40=>
 bm (aa s.P 205 v39 2) h40 fun v41 h42=>
 bm (ab s.P 26 v41 h42) h42 fun v43 h44=>
 bm (aL j h44) h44 fun v45 h46=>
 bm (aa s.P 205 v45 0) h46 fun v47 h48=>
 bm (ab s.P 55 v47 h48) h48 fun v49 h50=>
 bs (aj s.P wl 55 i v49 h50) fun h51=>
 er [some v43,ab s.P 55 i h51] h51:=kR
theorem ru (cx:Cx) (K:Out→St→Option (V×Hp)) (s:St):au cx K wD .ret s=K .ret s:=by kernel_rfl
-- names: UJ,Jn,ru
theorem Vl (h:Hp):ak (xX s 183 wl k false) Tryz.f183 [a] h =
 bm (aL a h) h fun v1 h2=>
 bm (aa s.P 205 v1 2) h2 fun v3 h4=>
 bm (ab s.P 26 v3 h4) h4 fun v5 h6=>
 bp (yC s k wl 183 false true (.fn (.func 27) [] []) [v5,(.lit (.int .i64 2))] h6) fun v7 h8=>
 bm (aL a h8) h8 fun v9 h10=>
 bm (aa s.P 205 v9 0) h10 fun v11 h12=>
 bm (aa s.P 55 v11 4) h12 fun v13 h14=>
 bs (aj s.P wl 46 v13 v7 h14) fun h15=>
 bm (aL a h15) h15 fun v16 h17=>
 bm (aa s.P 205 v16 0) h17 fun v18 h19=>
 bm (aa s.P 55 v18 1) h19 fun v20 h21=>
 bs (aj s.P wl 3 v20 (.lit (.int .i64 1)) h21) fun h22=>
 some (.tup [],h22):=kB
theorem abf (k wl:Nat) (h:Hp):evF Tryz.prog xM (k+1) wl 183 [a] h=ak (xX (xS k) 183 wl k false) Tryz.f183 [a] h:=by kernel_rfl
-- names: Vl,
theorem UV (h:Hp):ak (xX s 184 wl k false) Tryz.f184 [a] h =
 bm (aL a h) h fun v1 h2=>
 bm (aa s.P 205 v1 2) h2 fun v3 h4=>
 bm (ab s.P 26 v3 h4) h4 fun v5 h6=>
 bp (yC s k wl 184 false true (.fn (.func 27) [] []) [v5,(.lit (.int .i64 2))] h6) fun v7 h8=>
 bm (aL a h8) h8 fun v9 h10=>
 bm (aa s.P 205 v9 0) h10 fun v11 h12=>
 bm (aa s.P 55 v11 5) h12 fun v13 h14=>
 bs (aj s.P wl 46 v13 v7 h14) fun h15=>
 bm (aL a h15) h15 fun v16 h17=>
 bm (aa s.P 205 v16 0) h17 fun v18 h19=>
 bm (aa s.P 55 v18 1) h19 fun v20 h21=>
 bs (aj s.P wl 3 v20 (.lit (.int .i64 2)) h21) fun h22=>
 bm (aL a h22) h22 fun v23 h24=>
 bm (aa s.P 205 v23 0) h24 fun v25 h26=>
 bm (aa s.P 55 v25 5) h26 fun v27 h28=>
 bm (ab s.P 46 v27 h28) h28 fun v29 h30=>
 bp (yC s k wl 184 true true (.fn (.func 213) [] []) [v29] h30) fun v31 h32=>
 stO h22.length a (
 bm (aL a h32) h32 fun v33 h34=>
 bm (aa s.P 205 v33 0) h34 fun v35 h36=>
 bm (aa s.P 55 v35 4) h36 fun v37 h38=>
 stO h22.length v37 (
 bm (ab s.P 46 v37 h38) h38 fun v39 h40=>
 bp (yC s k wl 184 false true (.fn (.func 213) [] []) [v39] h40) fun v41 h42=>
 bm (aq s.P .neq 46 v31 v41) h42 fun v43 h44=>
 cnd v43 (
 bm (aL a h44) h44 fun v45 h46=>
 bm (aa s.P 205 v45 0) h46 fun v47 h48=>
 bm (ab s.P 55 v47 h48) h48 fun v49 h50=>
 bp (yC s k wl 184 false true (.fn (.func 193) [] []) [v49,(.lit (.int .i64 4)),(.lit (.int .u64 0))] h50) fun v51 h52=>
 bm (aL a h52) h52 fun v53 h54=>
 bm (aa s.P 205 v53 0) h54 fun v55 h56=>
 bs (aj s.P wl 55 v55 v51 h56) fun h57=>
 some (.tup [],h57)) (
 some (.tup [],h44)))):=kB
theorem abr (k wl:Nat) (h:Hp):evF Tryz.prog xM (k+1) wl 184 [a] h=ak (xX (xS k) 184 wl k false) Tryz.f184 [a] h:=by kernel_rfl
-- names: UV,
theorem UZ (h:Hp):ak (xX s 185 wl k false) Tryz.f185 [a] h =
 bm (aL a h) h fun v1 h2=>
 bm (aa s.P 205 v1 0) h2 fun v3 h4=>
 bm (aa s.P 55 v3 1) h4 fun v5 h6=>
 bs (aj s.P wl 3 v5 (.lit (.int .i64 1)) h6) fun h7=>
 stO h7.length a (
 bm (aL a h7) h7 fun v8 h9=>
 bm (aa s.P 205 v8 2) h9 fun v10 h11=>
 stO h7.length v10 (
 bm (ab s.P 26 v10 h11) h11 fun v12 h13=>
 stO h7.length a (
 bm (aL a h13) h13 fun v14 h15=>
 bm (aa s.P 205 v14 0) h15 fun v16 h17=>
 bm (aa s.P 55 v16 5) h17 fun v18 h19=>
 stO h7.length v18 (
 bm (ab s.P 46 v18 h19) h19 fun v20 h21=>
 bm (aL a h21) h21 fun v22 h23=>
 bm (aa s.P 205 v22 0) h23 fun v24 h25=>
 bm (aa s.P 55 v24 5) h25 fun v26 h27=>
 bm (ab s.P 46 v26 h27) h27 fun v28 h29=>
 bm (aL a h29) h29 fun v30 h31=>
 bm (aa s.P 205 v30 0) h31 fun v32 h33=>
 bm (aa s.P 55 v32 2) h33 fun v34 h35=>
 bm (ab s.P 3 v34 h35) h35 fun v36 h37=>
 bp (yC s k wl 185 true true (.fn (.func 214) [] []) [v28,v36] h37) fun v38 h39=>
 bp (yC s k wl 185 false true (.fn (.func 191) [] []) [v12,(.lit (.int .i64 2)),v20,v38] h39) fun v40 h41=>
 bm (ao v40 0) h41 fun v42 h43=>
 bm (ao v40 1) h43 fun v44 h45=>
 bm (aL a h45) h45 fun v46 h47=>
 bm (aa s.P 205 v46 2) h47 fun v48 h49=>
 bs (aj s.P wl 26 v48 v42 h49) fun h50=>
 cnd v44 (
 bm (aL a h50) h50 fun v51 h52=>
 bm (aa s.P 205 v51 0) h52 fun v53 h54=>
 bm (aa s.P 55 v53 1) h54 fun v55 h56=>
 bs (aj s.P wl 3 v55 (.lit (.int .i64 3)) h56) fun h57=>
 some (.tup [],h57)) (
 some (.tup [],h50)))))):=kB
theorem acp (k wl:Nat) (h:Hp):evF Tryz.prog xM (k+1) wl 185 [a] h=ak (xX (xS k) 185 wl k false) Tryz.f185 [a] h:=by kernel_rfl
-- names: UZ,
theorem YI (h:Hp):ak (xX s 186 wl k false) Tryz.f186 [a] h =
 stO h.length a (
 bm (aL a h) h fun v1 h2=>
 bm (aa s.P 205 v1 2) h2 fun v3 h4=>
 stO h.length v3 (
 bm (ab s.P 26 v3 h4) h4 fun v5 h6=>
 bm (aL a h6) h6 fun v7 h8=>
 bm (aa s.P 205 v7 1) h8 fun v9 h10=>
 bm (ab s.P 23 v9 h10) h10 fun v11 h12=>
 bm (aL a h12) h12 fun v13 h14=>
 bm (aa s.P 205 v13 0) h14 fun v15 h16=>
 bm (aa s.P 55 v15 2) h16 fun v17 h18=>
 bm (ab s.P 3 v17 h18) h18 fun v19 h20=>
 bp (yC s k wl 186 true true (.fn (.func 32) [] []) [v11,v19] h20) fun v21 h22=>
 bp (yC s k wl 186 false true (.fn (.func 27) [] []) [v5,v21] h22) fun v23 h24=>
 bm (aL a h24) h24 fun v25 h26=>
 bm (aa s.P 205 v25 0) h26 fun v27 h28=>
 bm (aa s.P 55 v27 5) h28 fun v29 h30=>
 bs (aj s.P wl 46 v29 v23 h30) fun h31=>
 bm (aL a h31) h31 fun v32 h33=>
 bm (aa s.P 205 v32 0) h33 fun v34 h35=>
 bm (aa s.P 55 v34 5) h35 fun v36 h37=>
 bm (ab s.P 46 v36 h37) h37 fun v38 h39=>
 bm (aq s.P .neq 46 v38 (.lit (.int .u64 0))) h39 fun v40 h41=>
 cnd v40 (
 bm (aL a h41) h41 fun v42 h43=>
 bm (aa s.P 205 v42 0) h43 fun v44 h45=>
 bm (aa s.P 55 v44 1) h45 fun v46 h47=>
 bs (aj s.P wl 3 v46 (.lit (.int .i64 4)) h47) fun h48=>
 some (.tup [],h48)) (
 some (.tup [],h41)))):=kB
theorem acB (k wl:Nat) (h:Hp):evF Tryz.prog xM (k+1) wl 186 [a] h=ak (xX (xS k) 186 wl k false) Tryz.f186 [a] h:=by kernel_rfl
-- names: YI,
theorem UX (h:Hp):ak (xX s 187 wl k false) Tryz.f187 [a] h =
 stO h.length a (
 bm (aL a h) h fun v1 h2=>
 bm (aa s.P 205 v1 2) h2 fun v3 h4=>
 stO h.length v3 (
 bm (ab s.P 26 v3 h4) h4 fun v5 h6=>
 bm (aL a h6) h6 fun v7 h8=>
 bm (aa s.P 205 v7 1) h8 fun v9 h10=>
 bm (ab s.P 23 v9 h10) h10 fun v11 h12=>
 bm (aL a h12) h12 fun v13 h14=>
 bm (aa s.P 205 v13 0) h14 fun v15 h16=>
 bm (aa s.P 55 v15 2) h16 fun v17 h18=>
 bm (ab s.P 3 v17 h18) h18 fun v19 h20=>
 bp (yC s k wl 187 true true (.fn (.func 32) [] []) [v11,v19] h20) fun v21 h22=>
 bp (yC s k wl 187 false true (.fn (.func 88) [] []) [v5,v21,(.lit (.int .u64 0))] h22) fun v23 h24=>
 bm (aL a h24) h24 fun v25 h26=>
 bm (aa s.P 205 v25 2) h26 fun v27 h28=>
 bs (aj s.P wl 26 v27 v23 h28) fun h29=>
 bm (aL a h29) h29 fun v30 h31=>
 bm (aa s.P 205 v30 0) h31 fun v32 h33=>
 bm (ab s.P 55 v32 h33) h33 fun v34 h35=>
 bp (yC s k wl 187 false true (.fn (.func 193) [] []) [v34,(.lit (.int .i64 1)),(.lit (.int .u64 0))] h35) fun v36 h37=>
 bm (aL a h37) h37 fun v38 h39=>
 bm (aa s.P 205 v38 0) h39 fun v40 h41=>
 bs (aj s.P wl 55 v40 v36 h41) fun h42=>
 some (.tup [],h42))):=kB
theorem adz (k wl:Nat) (h:Hp):evF Tryz.prog xM (k+1) wl 187 [a] h=ak (xX (xS k) 187 wl k false) Tryz.f187 [a] h:=by kernel_rfl
-- names: UX,
noncomputable def en:Code:=al (am Tryz.f196) [1,0]
noncomputable def dS:List Fr:=[.seq (al (am Tryz.f196) [1,1])]
theorem Uv (h:Hp):ak (xX s 196 wl k false) Tryz.f196 [a,b,d,e] h =
 bp (aJ a h) fun v1 h2=>
 bp (aJ d h2) fun v3 h4=>
 bm (ab s.P 23 v1 h4) h4 fun v5 h6=>
 bp (yC s k wl 196 false true (.fn (.func 105) [] []) [v5,b] h6) fun v7 h8=>
 gd v7 (
 bm (ab s.P 55 v3 h8) h8 fun v9 h10=>
 bp (yC s k wl 196 false true (.fn (.func 110) [] []) [v9] h10) fun v11 h12=>
 bm (vUn .not v11) h12 fun v13 h14=>
 yO s k wl 196 Tryz.f196 en 7 h4.length ([],[]) dS ⟨[a,b,d,e,v1,uu,v3,uu,(.lit (.bool false)),v5,b,v7,(.lit (.bool true)),v9,v11,v13,uu,uu,uu,uu,uu,uu,uu,uu,uu,uu,uu,uu,uu,uu,uu,uu,uu],h14⟩) (
 yO s k wl 196 Tryz.f196 en 7 h4.length ([],[]) dS ⟨[a,b,d,e,v1,uu,v3,uu,(.lit (.bool false)),v5,b,v7,(.lit (.bool false)),uu,uu,uu,uu,uu,uu,uu,uu,uu,uu,uu,uu,uu,uu,uu,uu,uu,uu,uu,uu],h8⟩) (
 yO s k wl 196 Tryz.f196 en 5 h4.length ([],[]) dS ⟨[a,b,d,e,v1,uu,v3,uu,(.lit (.bool false)),v5,b,v7,v7,uu,uu,uu,uu,uu,uu,uu,uu,uu,uu,uu,uu,uu,uu,uu,uu,uu,uu,uu,uu],h8⟩):=kB
theorem abo (k wl:Nat) (h:Hp):evF Tryz.prog xM (k+1) wl 196 [a,b,d,e] h=ak (xX (xS k) 196 wl k false) Tryz.f196 [a,b,d,e] h:=by kernel_rfl
theorem Iy (zz:List V) (h:Hp):yO s k wl 196 Tryz.f196 en 7 m0 ac dS ⟨(a::b::d::e::n::o::g::i::j::p::q::r::l::u::y::v::E::A::F::B::D::z::zz),h⟩ =
 bm (aO l v (.lit (.bool false))) h fun v15 h16=>
 gd v15 (
 bm (aa s.P 55 g 0) h16 fun v17 h18=>
 bm (ab s.P 3 v17 h18) h18 fun v19 h20=>
 bm (aq s.P .eql 3 v19 e) h20 fun v21 h22=>
 yO s k wl 196 Tryz.f196 en 13 m0 ac dS ⟨(a::b::d::e::n::o::g::i::j::p::q::r::l::u::y::v::v15::(.lit (.bool true))::v17::v19::e::v21::zz),h22⟩) (
 yO s k wl 196 Tryz.f196 en 13 m0 ac dS ⟨(a::b::d::e::n::o::g::i::j::p::q::r::l::u::y::v::v15::(.lit (.bool false))::uu::uu::uu::uu::zz),h16⟩) (
 yO s k wl 196 Tryz.f196 en 10 m0 ac dS ⟨(a::b::d::e::n::o::g::i::j::p::q::r::l::u::y::v::v15::v15::uu::B::D::z::zz),h16⟩):=kG
theorem HF (h:Hp):yO s k wl 196 Tryz.f196 en 13 m0 ac dS ⟨[a,b,d,e,n,o,g,i,j,p,q,r,l,u,y,v,E,A,F,B,D,z,Q,L,R,M,I,T,N,U,O,J,G],h⟩ =
 bm (aO A z (.lit (.bool false))) h fun v23 h24=>
 gd v23 (
 bm (aa s.P 55 g 1) h24 fun v25 h26=>
 bm (ab s.P 3 v25 h26) h26 fun v27 h28=>
 bm (aq s.P .geq 3 v27 (.lit (.int .i64 0))) h28 fun v29 h30=>
 yO s k wl 196 Tryz.f196 en 18 m0 ac dS ⟨[a,b,d,e,n,o,g,i,j,p,q,r,l,u,y,v,E,A,F,B,D,z,v23,(.lit (.bool true)),v25,v27,v29,T,N,U,O,J,G],h30⟩) (
 yO s k wl 196 Tryz.f196 en 18 m0 ac dS ⟨[a,b,d,e,n,o,g,i,j,p,q,r,l,u,y,v,E,A,F,B,D,z,v23,(.lit (.bool false)),uu,uu,uu,T,N,U,O,J,G],h24⟩) (
 yO s k wl 196 Tryz.f196 en 16 m0 ac dS ⟨[a,b,d,e,n,o,g,i,j,p,q,r,l,u,y,v,E,A,F,B,D,z,v23,v23,uu,M,I,T,N,U,O,J,G],h24⟩):=kG
theorem JZ (h:Hp):yO s k wl 196 Tryz.f196 en 18 m0 ac dS ⟨[a,b,d,e,n,o,g,i,j,p,q,r,l,u,y,v,E,A,F,B,D,z,Q,L,R,M,I,T,N,U,O,J,G],h⟩ =
 bm (aO L I (.lit (.bool false))) h fun v31 h32=>
 gd v31 (
 bm (aa s.P 55 g 1) h32 fun v33 h34=>
 bm (ab s.P 3 v33 h34) h34 fun v35 h36=>
 bm (aq s.P .lss 3 v35 (.lit (.int .i64 5))) h36 fun v37 h38=>
 yO s k wl 196 Tryz.f196 en 23 m0 ac dS ⟨[a,b,d,e,n,o,g,i,j,p,q,r,l,u,y,v,E,A,F,B,D,z,Q,L,R,M,I,v31,(.lit (.bool true)),v33,v35,v37,G],h38⟩) (
 yO s k wl 196 Tryz.f196 en 23 m0 ac dS ⟨[a,b,d,e,n,o,g,i,j,p,q,r,l,u,y,v,E,A,F,B,D,z,Q,L,R,M,I,v31,(.lit (.bool false)),uu,uu,uu,G],h32⟩) (
 yO s k wl 196 Tryz.f196 en 21 m0 ac dS ⟨[a,b,d,e,n,o,g,i,j,p,q,r,l,u,y,v,E,A,F,B,D,z,Q,L,R,M,I,v31,v31,uu,O,J,G],h32⟩):=kG
theorem JW (h:Hp):yO s k wl 196 Tryz.f196 en 23 m0 ac dS ⟨[a,b,d,e,n,o,g,i,j,p,q,r,l,u,y,v,E,A,F,B,D,z,Q,L,R,M,I,T,N,U,O,J,G],h⟩ =
 bm (aO N J (.lit (.bool false))) h fun v39 h40=>
 some (v39,h40):=kG
theorem pq (cx:Cx) (K:Out→St→Option (V×Hp)) (s:St):au cx K dS .ret s=K .ret s:=by kernel_rfl
-- names: Uv,Iy,HF,JZ,JW,pq
theorem YF (h:Hp):ak (xX s 197 wl k false) Tryz.f197 [a] h =
 bm (aL a h) h fun v1 h2=>
 bm (aa s.P 221 v1 2) h2 fun v3 h4=>
 bm (ab s.P 26 v3 h4) h4 fun v5 h6=>
 bp (yC s k wl 197 false true (.fn (.func 27) [] []) [v5,(.lit (.int .i64 5))] h6) fun v7 h8=>
 bm (aL a h8) h8 fun v9 h10=>
 bm (aa s.P 221 v9 0) h10 fun v11 h12=>
 bm (aa s.P 55 v11 4) h12 fun v13 h14=>
 bs (aj s.P wl 46 v13 v7 h14) fun h15=>
 some ((.lit (.int .i64 1)),h15):=kB
theorem adU (k wl:Nat) (h:Hp):evF Tryz.prog xM (k+1) wl 197 [a] h=ak (xX (xS k) 197 wl k false) Tryz.f197 [a] h:=by kernel_rfl
-- names: YF,
theorem VN (h:Hp):ak (xX s 198 wl k false) Tryz.f198 [a] h =
 stO h.length a (
 bm (aL a h) h fun v1 h2=>
 bm (aa s.P 221 v1 2) h2 fun v3 h4=>
 stO h.length v3 (
 bm (ab s.P 26 v3 h4) h4 fun v5 h6=>
 bm (aL a h6) h6 fun v7 h8=>
 bm (aa s.P 221 v7 1) h8 fun v9 h10=>
 bm (ab s.P 23 v9 h10) h10 fun v11 h12=>
 bm (aL a h12) h12 fun v13 h14=>
 bm (aa s.P 221 v13 0) h14 fun v15 h16=>
 bm (aa s.P 55 v15 4) h16 fun v17 h18=>
 bm (ab s.P 46 v17 h18) h18 fun v19 h20=>
 bp (yC s k wl 198 true true (.fn (.func 203) [] []) [v11,v19] h20) fun v21 h22=>
 bp (yC s k wl 198 false true (.fn (.func 27) [] []) [v5,v21] h22) fun v23 h24=>
 bm (aL a h24) h24 fun v25 h26=>
 bm (aa s.P 221 v25 0) h26 fun v27 h28=>
 bm (aa s.P 55 v27 5) h28 fun v29 h30=>
 bs (aj s.P wl 46 v29 v23 h30) fun h31=>
 stO h31.length a (
 bm (aL a h31) h31 fun v32 h33=>
 bm (aa s.P 221 v32 0) h33 fun v34 h35=>
 bm (aa s.P 55 v34 5) h35 fun v36 h37=>
 stO h31.length v36 (
 bm (ab s.P 46 v36 h37) h37 fun v38 h39=>
 bp (yC s k wl 198 true true (.fn (.func 221) [] []) [a] h39) fun v40 h41=>
 bm (aq s.P .eql 46 v38 v40) h41 fun v42 h43=>
 cnd v42 (
 some ((.lit (.int .i64 2)),h43)) (
 stO h43.length a (
 bm (aL a h43) h43 fun v44 h45=>
 bm (aa s.P 221 v44 0) h45 fun v46 h47=>
 bm (aa s.P 55 v46 5) h47 fun v48 h49=>
 stO h43.length v48 (
 bm (ab s.P 46 v48 h49) h49 fun v50 h51=>
 bp (yC s k wl 198 true true (.fn (.func 221) [] []) [a] h51) fun v52 h53=>
 bp (yC s k wl 198 false true (.fn (.func 106) [] []) [v50,v52] h53) fun v54 h55=>
 bm (aq s.P .lss 3 v54 (.lit (.int .i64 0))) h55 fun v56 h57=>
 cnd v56 (
 bm (aL a h57) h57 fun v58 h59=>
 bm (aa s.P 221 v58 0) h59 fun v60 h61=>
 bm (ab s.P 55 v60 h61) h61 fun v62 h63=>
 bm (aL a h63) h63 fun v64 h65=>
 bm (aa s.P 221 v64 0) h65 fun v66 h67=>
 bm (aa s.P 55 v66 3) h67 fun v68 h69=>
 bm (ab s.P 46 v68 h69) h69 fun v70 h71=>
 bp (yC s k wl 198 false true (.fn (.func 193) [] []) [v62,(.lit (.int .i64 2)),v70] h71) fun v72 h73=>
 bm (aL a h73) h73 fun v74 h75=>
 bm (aa s.P 221 v74 0) h75 fun v76 h77=>
 bs (aj s.P wl 55 v76 v72 h77) fun h78=>
 some ((.lit (.int .i64 0)),h78)) (
 some ((.lit (.int .i64 0)),h57))))))))):=kB
theorem aaE (k wl:Nat) (h:Hp):evF Tryz.prog xM (k+1) wl 198 [a] h=ak (xX (xS k) 198 wl k false) Tryz.f198 [a] h:=by kernel_rfl
-- names: VN,
theorem Yq (h:Hp):ak (xX s 199 wl k false) Tryz.f199 [a] h =
 bm (aL a h) h fun v1 h2=>
 bm (aa s.P 221 v1 2) h2 fun v3 h4=>
 bm (ab s.P 26 v3 h4) h4 fun v5 h6=>
 bm (aL a h6) h6 fun v7 h8=>
 bm (aa s.P 221 v7 0) h8 fun v9 h10=>
 bm (aa s.P 55 v9 4) h10 fun v11 h12=>
 bm (ab s.P 46 v11 h12) h12 fun v13 h14=>
 bm (aL a h14) h14 fun v15 h16=>
 bm (aa s.P 221 v15 0) h16 fun v17 h18=>
 bm (aa s.P 55 v17 4) h18 fun v19 h20=>
 bm (ab s.P 46 v19 h20) h20 fun v21 h22=>
 bm (aq s.P .add 46 v21 (.lit (.int .u64 1))) h22 fun v23 h24=>
 bp (yC s k wl 199 false true (.fn (.func 191) [] []) [v5,(.lit (.int .i64 5)),v13,v23] h24) fun v25 h26=>
 bm (ao v25 0) h26 fun v27 h28=>
 bm (ao v25 1) h28 fun v29 h30=>
 bm (aL a h30) h30 fun v31 h32=>
 bm (aa s.P 221 v31 2) h32 fun v33 h34=>
 bs (aj s.P wl 26 v33 v27 h34) fun h35=>
 cnd v29 (
 some ((.lit (.int .i64 3)),h35)) (
 some ((.lit (.int .i64 0)),h35)):=kB
theorem acO (k wl:Nat) (h:Hp):evF Tryz.prog xM (k+1) wl 199 [a] h=ak (xX (xS k) 199 wl k false) Tryz.f199 [a] h:=by kernel_rfl
-- names: Yq,
theorem Xp (h:Hp):ak (xX s 200 wl k false) Tryz.f200 [a] h =
 stO h.length a (
 bm (aL a h) h fun v1 h2=>
 bm (aa s.P 221 v1 2) h2 fun v3 h4=>
 stO h.length v3 (
 bm (ab s.P 26 v3 h4) h4 fun v5 h6=>
 bm (aL a h6) h6 fun v7 h8=>
 bm (aa s.P 221 v7 1) h8 fun v9 h10=>
 bm (ab s.P 23 v9 h10) h10 fun v11 h12=>
 bm (aL a h12) h12 fun v13 h14=>
 bm (aa s.P 221 v13 0) h14 fun v15 h16=>
 bm (aa s.P 55 v15 4) h16 fun v17 h18=>
 bm (ab s.P 46 v17 h18) h18 fun v19 h20=>
 bp (yC s k wl 200 true true (.fn (.func 205) [] []) [v11,v19] h20) fun v21 h22=>
 stO h.length a (
 bm (aL a h22) h22 fun v23 h24=>
 bm (aa s.P 221 v23 0) h24 fun v25 h26=>
 bm (aa s.P 55 v25 3) h26 fun v27 h28=>
 stO h.length v27 (
 bm (ab s.P 46 v27 h28) h28 fun v29 h30=>
 bp (yC s k wl 200 false true (.fn (.func 88) [] []) [v5,v21,v29] h30) fun v31 h32=>
 bm (aL a h32) h32 fun v33 h34=>
 bm (aa s.P 221 v33 2) h34 fun v35 h36=>
 bs (aj s.P wl 26 v35 v31 h36) fun h37=>
 some ((.lit (.int .i64 4)),h37))))):=kB
theorem ab4 (k wl:Nat) (h:Hp):evF Tryz.prog xM (k+1) wl 200 [a] h=ak (xX (xS k) 200 wl k false) Tryz.f200 [a] h:=by kernel_rfl
-- names: Xp,
theorem UC (h:Hp):ak (xX s 201 wl k false) Tryz.f201 [a] h =
 stO h.length a (
 bm (aL a h) h fun v1 h2=>
 bm (aa s.P 221 v1 2) h2 fun v3 h4=>
 stO h.length v3 (
 bm (ab s.P 26 v3 h4) h4 fun v5 h6=>
 bm (aL a h6) h6 fun v7 h8=>
 bm (aa s.P 221 v7 1) h8 fun v9 h10=>
 bm (ab s.P 23 v9 h10) h10 fun v11 h12=>
 bm (aL a h12) h12 fun v13 h14=>
 bm (aa s.P 221 v13 0) h14 fun v15 h16=>
 bm (aa s.P 55 v15 4) h16 fun v17 h18=>
 bm (ab s.P 46 v17 h18) h18 fun v19 h20=>
 bp (yC s k wl 201 true true (.fn (.func 203) [] []) [v11,v19] h20) fun v21 h22=>
 bp (yC s k wl 201 true true (.fn (.func 221) [] []) [a] h22) fun v23 h24=>
 bm (aq s.P .add 46 v23 (.lit (.int .u64 1))) h24 fun v25 h26=>
 bp (yC s k wl 201 false true (.fn (.func 88) [] []) [v5,v21,v25] h26) fun v27 h28=>
 bm (aL a h28) h28 fun v29 h30=>
 bm (aa s.P 221 v29 2) h30 fun v31 h32=>
 bs (aj s.P wl 26 v31 v27 h32) fun h33=>
 bm (aL a h33) h33 fun v34 h35=>
 bm (aa s.P 221 v34 0) h35 fun v36 h37=>
 bm (ab s.P 55 v36 h37) h37 fun v38 h39=>
 bm (aL a h39) h39 fun v40 h41=>
 bm (aa s.P 221 v40 0) h41 fun v42 h43=>
 bm (aa s.P 55 v42 3) h43 fun v44 h45=>
 bm (ab s.P 46 v44 h45) h45 fun v46 h47=>
 bp (yC s k wl 201 false true (.fn (.func 193) [] []) [v38,(.lit (.int .i64 1)),v46] h47) fun v48 h49=>
 bm (aL a h49) h49 fun v50 h51=>
 bm (aa s.P 221 v50 0) h51 fun v52 h53=>
 bs (aj s.P wl 55 v52 v48 h53) fun h54=>
 some ((.lit (.int .i64 0)),h54))):=kB
theorem aaY (k wl:Nat) (h:Hp):evF Tryz.prog xM (k+1) wl 201 [a] h=ak (xX (xS k) 201 wl k false) Tryz.f201 [a] h:=by kernel_rfl
-- names: UC,
theorem XB (h:Hp):ak (xX s 202 wl k false) Tryz.f202 [a,b] h =
 bm (ab s.P 223 a h) h fun v1 h2=>
 bm (aa s.P 55 b 1) h2 fun v3 h4=>
 bm (ab s.P 3 v3 h4) h4 fun v5 h6=>
 bm (ai s.P 223 v1 v5 h6) h6 fun v7 h8=>
 bm (ab s.P 116 v7 h8) h8 fun v9 h10=>
 bp (yC s k wl 202 false true v9 [] h10) fun v11 h12=>
 some (v11,h12):=kB
theorem ZX (k wl:Nat) (h:Hp):evF Tryz.prog xM (k+1) wl 202 [a,b] h=ak (xX (xS k) 202 wl k false) Tryz.f202 [a,b] h:=by kernel_rfl
-- names: XB,
theorem Yd (h:Hp):ak (xX s 204 wl k false) Tryz.f204 [a,b] h =
 bp (aJ a h) fun v1 h2=>
 bm (aa s.P 23 v1 2) h2 fun v3 h4=>
 bm (ab s.P 3 v3 h4) h4 fun v5 h6=>
 bm (fj s.P 3 46 v5) h6 fun v7 h8=>
 bm (aq s.P .quo 46 b v7) h8 fun v9 h10=>
 bm (aq s.P .mul 46 v9 (.lit (.int .u64 2))) h10 fun v11 h12=>
 bm (aq s.P .add 46 v11 (.lit (.int .u64 1))) h12 fun v13 h14=>
 some (v13,h14):=kB
theorem aag (k wl:Nat) (h:Hp):evF Tryz.prog xM (k+1) wl 204 [a,b] h=ak (xX (xS k) 204 wl k false) Tryz.f204 [a,b] h:=by kernel_rfl
-- names: Yd,
theorem WO (h:Hp):ak (xX s 221 wl k false) Tryz.f221 [a] h =
 bm (aL a h) h fun v1 h2=>
 bm (aa s.P 221 v1 0) h2 fun v3 h4=>
 bm (aa s.P 55 v3 4) h4 fun v5 h6=>
 bm (ab s.P 46 v5 h6) h6 fun v7 h8=>
 bm (aL a h8) h8 fun v9 h10=>
 bm (aa s.P 221 v9 1) h10 fun v11 h12=>
 bm (aa s.P 23 v11 2) h12 fun v13 h14=>
 bm (ab s.P 3 v13 h14) h14 fun v15 h16=>
 bm (fj s.P 3 46 v15) h16 fun v17 h18=>
 bm (aq s.P .quo 46 v7 v17) h18 fun v19 h20=>
 bm (aq s.P .mul 46 v19 (.lit (.int .u64 2))) h20 fun v21 h22=>
 some (v21,h22):=kB
theorem aaz (k wl:Nat) (h:Hp):evF Tryz.prog xM (k+1) wl 221 [a] h=ak (xX (xS k) 221 wl k false) Tryz.f221 [a] h:=by kernel_rfl
-- names: WO,
noncomputable def wg:Code:=al (am Tryz.f105) [1,0]
noncomputable def rA:List Fr:=[.seq (al (am Tryz.f105) [1,1])]
theorem Ve (h:Hp):ak (xX s 105 wl k false) Tryz.f105 [a,b] h =
 bp (aJ a h) fun v1 h2=>
 bm (ab s.P 23 v1 h2) h2 fun v3 h4=>
 bp (yC s k wl 105 false true (.fn (.func 50) [] []) [v3] h4) fun v5 h6=>
 gd v5 (
 bp (aX s.P 26 b h6) fun v7 h8=>
 bm (ab s.P 23 v1 h8) h8 fun v9 h10=>
 bp (yC s k wl 105 false true (.fn (.func 103) [] []) [v9] h10) fun v11 h12=>
 bm (aq s.P .eql 3 v7 v11) h12 fun v13 h14=>
 yO s k wl 105 Tryz.f105 wg 8 h2.length ([],[]) rA ⟨[a,b,v1,uu,(.lit (.bool false)),v3,v5,(.lit (.bool true)),b,v7,v9,v11,v13,uu],h14⟩) (
 yO s k wl 105 Tryz.f105 wg 8 h2.length ([],[]) rA ⟨[a,b,v1,uu,(.lit (.bool false)),v3,v5,(.lit (.bool false)),uu,uu,uu,uu,uu,uu],h6⟩) (
 yO s k wl 105 Tryz.f105 wg 4 h2.length ([],[]) rA ⟨[a,b,v1,uu,(.lit (.bool false)),v3,v5,v5,uu,uu,uu,uu,uu,uu],h6⟩):=kB
theorem aa9 (k wl:Nat) (h:Hp):evF Tryz.prog xM (k+1) wl 105 [a,b] h=ak (xX (xS k) 105 wl k false) Tryz.f105 [a,b] h:=by kernel_rfl
theorem Jp (h:Hp):yO s k wl 105 Tryz.f105 wg 8 m0 ac rA ⟨[a,b,d,e,n,o,g,i,j,p,q,r,l,u],h⟩ =
 bm (aO i l (.lit (.bool false))) h fun v15 h16=>
 some (v15,h16):=kG
theorem rF (cx:Cx) (K:Out→St→Option (V×Hp)) (s:St):au cx K rA .ret s=K .ret s:=by kernel_rfl
-- names: Ve,Jp,rF
end
end Go.Ab
