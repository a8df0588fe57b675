import Derived.Test.YtblpbpnilkfjhaaGreatR6Seat
import Derived.Test.YtblpbpnilkfjhaaGreatAbLibC
set_option linter.unusedVariables false
set_option linter.unusedSimpArgs false
set_option maxRecDepth 100000
set_option linter.unusedVariables false
namespace Go.Ab
open Go.Proofs
section
variable (s:Sys) (k wl:Nat) (m0:Nat) (ac:List Nat×List Nat) (a b d e o p g l q j u r A y z B D F E I M R N J T O U Q L G:V)
theorem ad1 (h:Hp):ak (xX s 27 wl k false) Tryz.f27 [a,b] h =
 bp (yC s k wl 27 false true (.fn (.func 66) [] []) [a,b] h) fun v1 h2=>
 bm (vUn .not v1) h2 fun v3 h4=>
 cnd v3 (
 some ((.lit (.int .u64 0)),h4)) (
 bm (ai s.P 26 a b h4) h4 fun v5 h6=>
 bm (ab s.P 46 v5 h6) h6 fun v7 h8=>
 some (v7,h8)):=kB
theorem aeI (k wl:Nat) (h:Hp):evF Tryz.prog xM (k+1) wl 27 [a,b] h=ak (xX (xS k) 27 wl k false) Tryz.f27 [a,b] h:=by kernel_rfl
-- names: ad1,
theorem aer (h:Hp):ak (xX s 32 wl k false) Tryz.f32 [a,b] h =
 bp (aJ a h) fun v1 h2=>
 bp (aJ b h2) fun v3 h4=>
 bm (ab s.P 23 v1 h4) h4 fun v5 h6=>
 bm (ab s.P 3 v3 h6) h6 fun v7 h8=>
 bp (yC s k wl 32 false true (.fn (.func 70) [] []) [v5,v7,(.fn (.func 71) [] [v1,v3])] h8) fun v9 h10=>
 some (v9,h10):=kB
theorem ae8 (k wl:Nat) (h:Hp):evF Tryz.prog xM (k+1) wl 32 [a,b] h=ak (xX (xS k) 32 wl k false) Tryz.f32 [a,b] h:=by kernel_rfl
-- names: aer,
noncomputable def fS:Code:=al (am Tryz.f50) [1,0]
noncomputable def fB:List Fr:=[.seq (al (am Tryz.f50) [1,1])]
theorem aea (h:Hp):ak (xX s 50 wl k false) Tryz.f50 [a] h =
 bp (aJ a h) fun v1 h2=>
 bm (aa s.P 23 v1 0) h2 fun v3 h4=>
 bm (ab s.P 3 v3 h4) h4 fun v5 h6=>
 bp (yC s k wl 50 false true (.fn (.func 93) [] []) [v5,(.lit (.int .i64 1)),(.lit (.int .i64 8))] h6) fun v7 h8=>
 gd v7 (
 bm (aa s.P 23 v1 1) h8 fun v9 h10=>
 bm (ab s.P 3 v9 h10) h10 fun v11 h12=>
 bp (yC s k wl 50 false true (.fn (.func 93) [] []) [v11,(.lit (.int .i64 1)),(.lit (.int .i64 16))] h12) fun v13 h14=>
 yO s k wl 50 Tryz.f50 fS 7 h2.length ([],[]) fB ⟨[a,v1,(.lit (.bool false)),v3,v5,v7,(.lit (.bool true)),v9,v11,v13,uu,uu,uu,uu,uu,uu,uu,uu,uu,uu,uu,uu,uu,uu,uu,uu,uu,uu,uu,uu],h14⟩) (
 yO s k wl 50 Tryz.f50 fS 7 h2.length ([],[]) fB ⟨[a,v1,(.lit (.bool false)),v3,v5,v7,(.lit (.bool false)),uu,uu,uu,uu,uu,uu,uu,uu,uu,uu,uu,uu,uu,uu,uu,uu,uu,uu,uu,uu,uu,uu,uu],h8⟩) (
 yO s k wl 50 Tryz.f50 fS 5 h2.length ([],[]) fB ⟨[a,v1,(.lit (.bool false)),v3,v5,v7,v7,uu,uu,uu,uu,uu,uu,uu,uu,uu,uu,uu,uu,uu,uu,uu,uu,uu,uu,uu,uu,uu,uu,uu],h8⟩):=kB
theorem ae1 (k wl:Nat) (h:Hp):evF Tryz.prog xM (k+1) wl 50 [a] h=ak (xX (xS k) 50 wl k false) Tryz.f50 [a] h:=by kernel_rfl
theorem Pd (zz:List V) (h:Hp):yO s k wl 50 Tryz.f50 fS 7 m0 ac fB ⟨(a::b::d::e::o::p::g::l::q::j::u::r::A::y::z::B::D::F::E::zz),h⟩ =
 bm (aO g j (.lit (.bool false))) h fun v15 h16=>
 gd v15 (
 bm (aa s.P 23 b 1) h16 fun v17 h18=>
 bm (ab s.P 3 v17 h18) h18 fun v19 h20=>
 bm (aa s.P 23 b 1) h20 fun v21 h22=>
 bm (ab s.P 3 v21 h22) h22 fun v23 h24=>
 bm (aq s.P .sub 3 v23 (.lit (.int .i64 1))) h24 fun v25 h26=>
 bm (aq s.P .and 3 v19 v25) h26 fun v27 h28=>
 bm (aq s.P .eql 3 v27 (.lit (.int .i64 0))) h28 fun v29 h30=>
 yO s k wl 50 Tryz.f50 fS 16 m0 ac fB ⟨(a::b::d::e::o::p::g::l::q::j::v15::(.lit (.bool true))::v17::v19::v21::v23::v25::v27::v29::zz),h30⟩) (
 yO s k wl 50 Tryz.f50 fS 16 m0 ac fB ⟨(a::b::d::e::o::p::g::l::q::j::v15::(.lit (.bool false))::uu::uu::uu::uu::uu::uu::uu::zz),h16⟩) (
 yO s k wl 50 Tryz.f50 fS 10 m0 ac fB ⟨(a::b::d::e::o::p::g::l::q::j::v15::v15::uu::y::z::B::D::F::E::zz),h16⟩):=kG
theorem O1 (h:Hp):yO s k wl 50 Tryz.f50 fS 16 m0 ac fB ⟨[a,b,d,e,o,p,g,l,q,j,u,r,A,y,z,B,D,F,E,I,M,R,N,J,T,O,U,Q,L,G],h⟩ =
 bm (aO r E (.lit (.bool false))) h fun v31 h32=>
 gd v31 (
 bm (aa s.P 23 b 2) h32 fun v33 h34=>
 bm (ab s.P 3 v33 h34) h34 fun v35 h36=>
 bp (yC s k wl 50 false true (.fn (.func 93) [] []) [v35,(.lit (.int .i64 1)),(.lit (.int .i64 16))] h36) fun v37 h38=>
 yO s k wl 50 Tryz.f50 fS 21 m0 ac fB ⟨[a,b,d,e,o,p,g,l,q,j,u,r,A,y,z,B,D,F,E,v31,(.lit (.bool true)),v33,v35,v37,T,O,U,Q,L,G],h38⟩) (
 yO s k wl 50 Tryz.f50 fS 21 m0 ac fB ⟨[a,b,d,e,o,p,g,l,q,j,u,r,A,y,z,B,D,F,E,v31,(.lit (.bool false)),uu,uu,uu,T,O,U,Q,L,G],h32⟩) (
 yO s k wl 50 Tryz.f50 fS 19 m0 ac fB ⟨[a,b,d,e,o,p,g,l,q,j,u,r,A,y,z,B,D,F,E,v31,v31,uu,N,J,T,O,U,Q,L,G],h32⟩):=kG
theorem Pu (h:Hp):yO s k wl 50 Tryz.f50 fS 21 m0 ac fB ⟨[a,b,d,e,o,p,g,l,q,j,u,r,A,y,z,B,D,F,E,I,M,R,N,J,T,O,U,Q,L,G],h⟩ =
 bm (aO M J (.lit (.bool false))) h fun v39 h40=>
 gd v39 (
 bm (aa s.P 23 b 3) h40 fun v41 h42=>
 bm (ab s.P 3 v41 h42) h42 fun v43 h44=>
 bp (yC s k wl 50 false true (.fn (.func 93) [] []) [v43,(.lit (.int .i64 0)),(.lit (.int .i64 4))] h44) fun v45 h46=>
 yO s k wl 50 Tryz.f50 fS 26 m0 ac fB ⟨[a,b,d,e,o,p,g,l,q,j,u,r,A,y,z,B,D,F,E,I,M,R,N,J,v39,(.lit (.bool true)),v41,v43,v45,G],h46⟩) (
 yO s k wl 50 Tryz.f50 fS 26 m0 ac fB ⟨[a,b,d,e,o,p,g,l,q,j,u,r,A,y,z,B,D,F,E,I,M,R,N,J,v39,(.lit (.bool false)),uu,uu,uu,G],h40⟩) (
 yO s k wl 50 Tryz.f50 fS 24 m0 ac fB ⟨[a,b,d,e,o,p,g,l,q,j,u,r,A,y,z,B,D,F,E,I,M,R,N,J,v39,v39,uu,Q,L,G],h40⟩):=kG
theorem Po (h:Hp):yO s k wl 50 Tryz.f50 fS 26 m0 ac fB ⟨[a,b,d,e,o,p,g,l,q,j,u,r,A,y,z,B,D,F,E,I,M,R,N,J,T,O,U,Q,L,G],h⟩ =
 bm (aO O L (.lit (.bool false))) h fun v47 h48=>
 some (v47,h48):=kG
theorem uq (cx:Cx) (K:Out→St→Option (V×Hp)) (s:St):au cx K fB .ret s=K .ret s:=by kernel_rfl
-- names: aea,Pd,O1,Pu,Po,uq
noncomputable def Em:Code:=al (am Tryz.f66) [1,0]
noncomputable def As:List Fr:=[.seq (al (am Tryz.f66) [1,1])]
theorem ad0 (h:Hp):ak (xX s 66 wl k false) Tryz.f66 [a,b] h =
 bm (aq s.P .geq 3 b (.lit (.int .i64 0))) h fun v1 h2=>
 gd v1 (
 bp (aX s.P 26 a h2) fun v3 h4=>
 bm (aq s.P .lss 3 b v3) h4 fun v5 h6=>
 yO s k wl 66 Tryz.f66 Em 7 h.length ([],[]) As ⟨[a,b,uu,uu,(.lit (.bool false)),b,v1,(.lit (.bool true)),b,a,v3,v5,uu],h6⟩) (
 yO s k wl 66 Tryz.f66 Em 7 h.length ([],[]) As ⟨[a,b,uu,uu,(.lit (.bool false)),b,v1,(.lit (.bool false)),uu,uu,uu,uu,uu],h2⟩) (
 yO s k wl 66 Tryz.f66 Em 4 h.length ([],[]) As ⟨[a,b,uu,uu,(.lit (.bool false)),b,v1,v1,uu,uu,uu,uu,uu],h2⟩):=kB
theorem afe (k wl:Nat) (h:Hp):evF Tryz.prog xM (k+1) wl 66 [a,b] h=ak (xX (xS k) 66 wl k false) Tryz.f66 [a,b] h:=by kernel_rfl
theorem PN (h:Hp):yO s k wl 66 Tryz.f66 Em 7 m0 ac As ⟨[a,b,d,e,o,p,g,l,q,j,u,r,A],h⟩ =
 bm (aO l r (.lit (.bool false))) h fun v7 h8=>
 some (v7,h8):=kG
theorem ux (cx:Cx) (K:Out→St→Option (V×Hp)) (s:St):au cx K As .ret s=K .ret s:=by kernel_rfl
-- names: ad0,PN,ux
noncomputable def E9:Code:=al (am Tryz.f70) [1,0,0]
noncomputable def Ak:List Fr:=[.seq (al (am Tryz.f70) [1,0,1]),.seq (al (am Tryz.f70) [1,1])]
theorem TJ (h:Hp):ak (xX s 70 wl k false) Tryz.f70 [a,b,d] h =
 bp (aJ a h) fun v1 h2=>
 bm (ab s.P 23 v1 h2) h2 fun v3 h4=>
 bp (yC s k wl 70 false true (.fn (.func 50) [] []) [v3] h4) fun v5 h6=>
 bm (vUn .not v5) h6 fun v7 h8=>
 gd v7 (
 yO s k wl 70 Tryz.f70 E9 10 h2.length ([],[]) Ak ⟨[a,b,d,v1,uu,uu,(.lit (.int .i64 0)),v3,v5,v7,(.lit (.bool true)),uu,uu,uu,uu,uu,uu,uu,uu,uu],h8⟩) (
 bm (aa s.P 23 v1 0) h8 fun v9 h10=>
 bm (ab s.P 3 v9 h10) h10 fun v11 h12=>
 bm (aq s.P .sub 3 v11 (.lit (.int .i64 1))) h12 fun v13 h14=>
 bp (yC s k wl 70 false true (.fn (.func 93) [] []) [b,(.lit (.int .i64 0)),v13] h14) fun v15 h16=>
 bm (vUn .not v15) h16 fun v17 h18=>
 yO s k wl 70 Tryz.f70 E9 10 h2.length ([],[]) Ak ⟨[a,b,d,v1,uu,uu,(.lit (.int .i64 0)),v3,v5,v7,(.lit (.bool false)),b,v9,v11,v13,v15,v17,uu,uu,uu],h18⟩) (
 yO s k wl 70 Tryz.f70 E9 5 h2.length ([],[]) Ak ⟨[a,b,d,v1,uu,uu,(.lit (.int .i64 0)),v3,v5,v7,v7,uu,uu,uu,uu,uu,uu,uu,uu,uu],h8⟩):=kB
theorem Um (k wl:Nat) (h:Hp):evF Tryz.prog xM (k+1) wl 70 [a,b,d] h=ak (xX (xS k) 70 wl k false) Tryz.f70 [a,b,d] h:=by kernel_rfl
theorem o9 (h:Hp):yO s k wl 70 Tryz.f70 E9 10 m0 ac Ak ⟨[a,b,d,e,o,p,g,l,q,j,u,r,A,y,z,B,D,F,E,I],h⟩ =
 bm (aO u (.lit (.bool true)) D) h fun v19 h20=>
 cnd v19 (
 some ((.lit (.int .i64 (-1))),h20)) (
 bp (yC s k wl 70 false true d [] h20) fun v21 h22=>
 some (v21,h22)):=kG
theorem fy (cx:Cx) (K:Out→St→Option (V×Hp)) (s:St):au cx K Ak .ret s=K .ret s:=by kernel_rfl
-- names: TJ,o9,fy
theorem aep (h:Hp):ak (xX s 71 wl k false) Tryz.f71 [a,b] h =
 bm (ab s.P 23 a h) h fun v1 h2=>
 bm (ab s.P 3 b h2) h2 fun v3 h4=>
 bp (yC s k wl 71 false true (.fn (.func 72) [] []) [v1,v3] h4) fun v5 h6=>
 bm (aq s.P .add 3 v5 (.lit (.int .i64 2))) h6 fun v7 h8=>
 some (v7,h8):=kB
theorem ae0 (k wl:Nat) (h:Hp):evF Tryz.prog xM (k+1) wl 71 [a,b] h=ak (xX (xS k) 71 wl k false) Tryz.f71 [a,b] h:=by kernel_rfl
-- names: aep,
theorem aek (h:Hp):ak (xX s 72 wl k false) Tryz.f72 [a,b] h =
 bp (aJ a h) fun v1 h2=>
 bm (aa s.P 23 v1 2) h2 fun v3 h4=>
 bm (ab s.P 3 v3 h4) h4 fun v5 h6=>
 bm (aq s.P .mul 3 (.lit (.int .i64 2)) v5) h6 fun v7 h8=>
 bm (aq s.P .add 3 (.lit (.int .i64 6)) v7) h8 fun v9 h10=>
 bm (aa s.P 23 v1 1) h10 fun v11 h12=>
 bm (ab s.P 3 v11 h12) h12 fun v13 h14=>
 bm (aq s.P .add 3 (.lit (.int .i64 3)) v13) h14 fun v15 h16=>
 bm (aq s.P .mul 3 b v15) h16 fun v17 h18=>
 bm (aq s.P .add 3 v9 v17) h18 fun v19 h20=>
 some (v19,h20):=kB
theorem aeD (k wl:Nat) (h:Hp):evF Tryz.prog xM (k+1) wl 72 [a,b] h=ak (xX (xS k) 72 wl k false) Tryz.f72 [a,b] h:=by kernel_rfl
-- names: aek,
theorem aeu (h:Hp):ak (xX s 88 wl k false) Tryz.f88 [a,b,d] h =
 bp (aJ d h) fun v1 h2=>
 bp (some (.own h2.length 0 0,h2++[.rows 0 [] 0 true])) fun v3 h4=>
 bp (yC s k wl 88 false true (.fn (.func 143) [] []) [a,b,(.fn (.func 144) [] [v1])] h4) fun v5 h6=>
 bm (ao v5 0) h6 fun v7 h8=>
 bm (ao v5 1) h8 fun v9 h10=>
 some (v7,h10):=kB
theorem ae7 (k wl:Nat) (h:Hp):evF Tryz.prog xM (k+1) wl 88 [a,b,d] h=ak (xX (xS k) 88 wl k false) Tryz.f88 [a,b,d] h:=by kernel_rfl
-- names: aeu,
noncomputable def EJ:Code:=al (am Tryz.f93) [1,0]
noncomputable def AG:List Fr:=[.seq (al (am Tryz.f93) [1,1])]
theorem ad9 (h:Hp):ak (xX s 93 wl k false) Tryz.f93 [a,b,d] h =
 bm (aq s.P .geq 3 a b) h fun v1 h2=>
 gd v1 (
 bm (aq s.P .leq 3 a d) h2 fun v3 h4=>
 yO s k wl 93 Tryz.f93 EJ 7 h.length ([],[]) AG ⟨[a,b,d,uu,uu,uu,(.lit (.bool false)),a,b,v1,(.lit (.bool true)),a,d,v3,uu],h4⟩) (
 yO s k wl 93 Tryz.f93 EJ 7 h.length ([],[]) AG ⟨[a,b,d,uu,uu,uu,(.lit (.bool false)),a,b,v1,(.lit (.bool false)),uu,uu,uu,uu],h2⟩) (
 yO s k wl 93 Tryz.f93 EJ 5 h.length ([],[]) AG ⟨[a,b,d,uu,uu,uu,(.lit (.bool false)),a,b,v1,v1,uu,uu,uu,uu],h2⟩):=kB
theorem aeP (k wl:Nat) (h:Hp):evF Tryz.prog xM (k+1) wl 93 [a,b,d] h=ak (xX (xS k) 93 wl k false) Tryz.f93 [a,b,d] h:=by kernel_rfl
theorem O2 (h:Hp):yO s k wl 93 Tryz.f93 EJ 7 m0 ac AG ⟨[a,b,d,e,o,p,g,l,q,j,u,r,A,y,z],h⟩ =
 bm (aO u y (.lit (.bool false))) h fun v5 h6=>
 some (v5,h6):=kG
theorem ud (cx:Cx) (K:Out→St→Option (V×Hp)) (s:St):au cx K AG .ret s=K .ret s:=by kernel_rfl
-- names: ad9,O2,ud
theorem Wd (h:Hp):ak (xX s 103 wl k false) Tryz.f103 [a] h =
 bp (aJ a h) fun v1 h2=>
 bm (ab s.P 23 v1 h2) h2 fun v3 h4=>
 bp (yC s k wl 103 false true (.fn (.func 50) [] []) [v3] h4) fun v5 h6=>
 bm (vUn .not v5) h6 fun v7 h8=>
 cnd v7 (
 some ((.lit (.int .i64 0)),h8)) (
 bm (ab s.P 23 v1 h8) h8 fun v9 h10=>
 bm (aa s.P 23 v1 0) h10 fun v11 h12=>
 bm (ab s.P 3 v11 h12) h12 fun v13 h14=>
 bp (yC s k wl 103 false true (.fn (.func 72) [] []) [v9,v13] h14) fun v15 h16=>
 some (v15,h16)):=kB
theorem abp (k wl:Nat) (h:Hp):evF Tryz.prog xM (k+1) wl 103 [a] h=ak (xX (xS k) 103 wl k false) Tryz.f103 [a] h:=by kernel_rfl
-- names: Wd,
theorem WS (h:Hp):ak (xX s 104 wl k false) Tryz.f104 [a,b,d] h =
 bp (ar s.P 55 h) fun v1 h2=>
 bm (bh s.P 55 [(0,a),(2,b),(3,d)]) h2 fun v3 h4=>
 bs (aj s.P wl 55 v1 v3 h4) fun h5=>
 er [ab s.P 55 v1 h5] h5:=kB
theorem abR (k wl:Nat) (h:Hp):evF Tryz.prog xM (k+1) wl 104 [a,b,d] h=ak (xX (xS k) 104 wl k false) Tryz.f104 [a,b,d] h:=by kernel_rfl
-- names: WS,
theorem V6 (h:Hp):ak (xX s 107 wl k false) Tryz.f107 [a,b] h =
 bp (aJ a h) fun v1 h2=>
 bp (aJ b h2) fun v3 h4=>
 bm (ab s.P 23 v1 h4) h4 fun v5 h6=>
 bm (ab s.P 3 v3 h6) h6 fun v7 h8=>
 bp (yC s k wl 107 false true (.fn (.func 70) [] []) [v5,v7,(.fn (.func 149) [] [v1,v3])] h8) fun v9 h10=>
 some (v9,h10):=kB
theorem ach (k wl:Nat) (h:Hp):evF Tryz.prog xM (k+1) wl 107 [a,b] h=ak (xX (xS k) 107 wl k false) Tryz.f107 [a,b] h:=by kernel_rfl
-- names: V6,
theorem VB (h:Hp):ak (xX s 108 wl k false) Tryz.f108 [a,b] h =
 bp (aJ a h) fun v1 h2=>
 bp (aJ b h2) fun v3 h4=>
 bm (ab s.P 23 v1 h4) h4 fun v5 h6=>
 bm (ab s.P 3 v3 h6) h6 fun v7 h8=>
 bp (yC s k wl 108 false true (.fn (.func 70) [] []) [v5,v7,(.fn (.func 150) [] [v1,v3])] h8) fun v9 h10=>
 some (v9,h10):=kB
theorem acg (k wl:Nat) (h:Hp):evF Tryz.prog xM (k+1) wl 108 [a,b] h=ak (xX (xS k) 108 wl k false) Tryz.f108 [a,b] h:=by kernel_rfl
-- names: VB,
theorem Xk (h:Hp):ak (xX s 109 wl k false) Tryz.f109 [a,b,d] h =
 bp (aJ a h) fun v1 h2=>
 bp (aJ b h2) fun v3 h4=>
 bp (aJ d h4) fun v5 h6=>
 bm (ab s.P 23 v1 h6) h6 fun v7 h8=>
 bm (ab s.P 3 v3 h8) h8 fun v9 h10=>
 bp (yC s k wl 109 false true (.fn (.func 70) [] []) [v7,v9,(.fn (.func 151) [] [v1,v3,v5])] h10) fun v11 h12=>
 some (v11,h12):=kB
theorem acu (k wl:Nat) (h:Hp):evF Tryz.prog xM (k+1) wl 109 [a,b,d] h=ak (xX (xS k) 109 wl k false) Tryz.f109 [a,b,d] h:=by kernel_rfl
-- names: Xk,
theorem YW (h:Hp):ak (xX s 110 wl k false) Tryz.f110 [a] h =
 bp (aJ a h) fun v1 h2=>
 bm (aa s.P 55 v1 6) h2 fun v3 h4=>
 bm (ab s.P 3 v3 h4) h4 fun v5 h6=>
 bm (aq s.P .neq 3 v5 (.lit (.int .i64 0))) h6 fun v7 h8=>
 some (v7,h8):=kB
theorem acF (k wl:Nat) (h:Hp):evF Tryz.prog xM (k+1) wl 110 [a] h=ak (xX (xS k) 110 wl k false) Tryz.f110 [a] h:=by kernel_rfl
-- names: YW,
theorem WE (h:Hp):ak (xX s 138 wl k false) Tryz.f138 [a,b,d] h =
 bp (aJ d h) fun v1 h2=>
 bp (some (.own h2.length 0 0,h2++[.rows 0 [] 0 true])) fun v3 h4=>
 bp (yC s k wl 138 false true (.fn (.func 143) [] []) [a,b,(.fn (.func 169) [] [v1])] h4) fun v5 h6=>
 bm (ao v5 0) h6 fun v7 h8=>
 bm (ao v5 1) h8 fun v9 h10=>
 some (.tup [v7,v9],h10):=kB
theorem acH (k wl:Nat) (h:Hp):evF Tryz.prog xM (k+1) wl 138 [a,b,d] h=ak (xX (xS k) 138 wl k false) Tryz.f138 [a,b,d] h:=by kernel_rfl
-- names: WE,
theorem K0 (h:Hp):ak (xX s 143 wl k false) Tryz.f143 [a,b,d] h =
 bp (some (.own h.length 0 0,h++[.rows 0 [] 0 true])) fun v1 h2=>
 bp (yC s k wl 143 false true (.fn (.func 76) [] []) [a] h2) fun v3 h4=>
 bp (yC s k wl 143 false true (.fn (.func 66) [] []) [a,b] h4) fun v5 h6=>
 bm (vUn .not v5) h6 fun v7 h8=>
 cnd v7 (
 some (.tup [v3,(.lit (.int .u64 0))],h8)) (
 bm (ai s.P 26 a b h8) h8 fun v9 h10=>
 bm (ab s.P 46 v9 h10) h10 fun v11 h12=>
 bp (yC s k wl 143 false true d [v11] h12) fun v13 h14=>
 bm (ai s.P 26 v3 b h14) h14 fun v15 h16=>
 bs (aj s.P wl 46 v15 v13 h16) fun h17=>
 bm (ai s.P 26 a b h17) h17 fun v18 h19=>
 bm (ab s.P 46 v18 h19) h19 fun v20 h21=>
 some (.tup [v3,v20],h21)):=kB
theorem Tn (k wl:Nat) (h:Hp):evF Tryz.prog xM (k+1) wl 143 [a,b,d] h=ak (xX (xS k) 143 wl k false) Tryz.f143 [a,b,d] h:=by kernel_rfl
-- names: K0,
theorem Zd (h:Hp):ak (xX s 144 wl k false) Tryz.f144 [a,b] h =
 bm (ab s.P 46 b h) h fun v1 h2=>
 some (v1,h2):=kB
theorem abk (k wl:Nat) (h:Hp):evF Tryz.prog xM (k+1) wl 144 [a,b] h=ak (xX (xS k) 144 wl k false) Tryz.f144 [a,b] h:=by kernel_rfl
-- names: Zd,
theorem Yw (h:Hp):ak (xX s 149 wl k false) Tryz.f149 [a,b] h =
 bm (ab s.P 23 a h) h fun v1 h2=>
 bm (ab s.P 3 b h2) h2 fun v3 h4=>
 bp (yC s k wl 149 false true (.fn (.func 72) [] []) [v1,v3] h4) fun v5 h6=>
 some (v5,h6):=kB
theorem abj (k wl:Nat) (h:Hp):evF Tryz.prog xM (k+1) wl 149 [a,b] h=ak (xX (xS k) 149 wl k false) Tryz.f149 [a,b] h:=by kernel_rfl
-- names: Yw,
theorem U5 (h:Hp):ak (xX s 150 wl k false) Tryz.f150 [a,b] h =
 bm (ab s.P 23 a h) h fun v1 h2=>
 bm (ab s.P 3 b h2) h2 fun v3 h4=>
 bp (yC s k wl 150 false true (.fn (.func 72) [] []) [v1,v3] h4) fun v5 h6=>
 bm (aq s.P .add 3 v5 (.lit (.int .i64 1))) h6 fun v7 h8=>
 some (v7,h8):=kB
theorem aaC (k wl:Nat) (h:Hp):evF Tryz.prog xM (k+1) wl 150 [a,b] h=ak (xX (xS k) 150 wl k false) Tryz.f150 [a,b] h:=by kernel_rfl
-- names: U5,
theorem Yy (h:Hp):ak (xX s 151 wl k false) Tryz.f151 [a,b,d] h =
 bm (ab s.P 23 a h) h fun v1 h2=>
 bm (ab s.P 3 b h2) h2 fun v3 h4=>
 bp (yC s k wl 151 true true (.fn (.func 72) [] []) [v1,v3] h4) fun v5 h6=>
 bm (aq s.P .add 3 v5 (.lit (.int .i64 3))) h6 fun v7 h8=>
 stO h.length d (
 bm (ab s.P 46 d h8) h8 fun v9 h10=>
 bm (aa s.P 23 a 1) h10 fun v11 h12=>
 stO h.length v11 (
 bm (ab s.P 3 v11 h12) h12 fun v13 h14=>
 bm (aq s.P .sub 3 v13 (.lit (.int .i64 1))) h14 fun v15 h16=>
 bm (fj s.P 3 46 v15) h16 fun v17 h18=>
 bm (aq s.P .and 46 v9 v17) h18 fun v19 h20=>
 bm (fj s.P 46 3 v19) h20 fun v21 h22=>
 bm (aq s.P .add 3 v7 v21) h22 fun v23 h24=>
 some (v23,h24))):=kB
theorem aam (k wl:Nat) (h:Hp):evF Tryz.prog xM (k+1) wl 151 [a,b,d] h=ak (xX (xS k) 151 wl k false) Tryz.f151 [a,b,d] h:=by kernel_rfl
-- names: Yy,
theorem Wa (h:Hp):ak (xX s 169 wl k false) Tryz.f169 [a,b] h =
 bm (ab s.P 46 b h) h fun v1 h2=>
 bm (aq s.P .add 46 a v1) h2 fun v3 h4=>
 some (v3,h4):=kB
theorem acM (k wl:Nat) (h:Hp):evF Tryz.prog xM (k+1) wl 169 [a,b] h=ak (xX (xS k) 169 wl k false) Tryz.f169 [a,b] h:=by kernel_rfl
-- names: Wa,
theorem Yb (h:Hp):ak (xX s 191 wl k false) Tryz.f191 [a,b,d,e] h =
 bp (aJ d h) fun v1 h2=>
 bp (aJ e h2) fun v3 h4=>
 bp (some (.own h4.length 0 0,h4++[.rows 0 [] 0 true])) fun v5 h6=>
 bp (ar s.P 4 h6) fun v7 h8=>
 bs (aj s.P wl 4 v7 (.lit (.bool false)) h8) fun h9=>
 bp (yC s k wl 191 false true (.fn (.func 143) [] []) [a,b,(.fn (.func 219) [] [v1,v7,v3])] h9) fun v10 h11=>
 bm (ao v10 0) h11 fun v12 h13=>
 bm (ao v10 1) h13 fun v14 h15=>
 bm (ab s.P 4 v7 h15) h15 fun v16 h17=>
 some (.tup [v12,v16],h17):=kB
theorem adx (k wl:Nat) (h:Hp):evF Tryz.prog xM (k+1) wl 191 [a,b,d,e] h=ak (xX (xS k) 191 wl k false) Tryz.f191 [a,b,d,e] h:=by kernel_rfl
-- names: Yb,
theorem YK (h:Hp):ak (xX s 219 wl k false) Tryz.f219 [a,b,d,e] h =
 bm (ab s.P 46 b h) h fun v1 h2=>
 bm (aq s.P .neq 46 a v1) h2 fun v3 h4=>
 cnd v3 (
 some (a,h4)) (
 bs (aj s.P wl 4 d (.lit (.bool true)) h4) fun h5=>
 bm (ab s.P 46 e h5) h5 fun v6 h7=>
 some (v6,h7)):=kB
theorem ade (k wl:Nat) (h:Hp):evF Tryz.prog xM (k+1) wl 219 [a,b,d,e] h=ak (xX (xS k) 219 wl k false) Tryz.f219 [a,b,d,e] h:=by kernel_rfl
-- names: YK,
theorem X0 (h:Hp):ak (xX s 222 wl k false) Tryz.f222 [a,b] h =
 bm (ab s.P 46 a h) h fun v1 h2=>
 bm (aa s.P 23 b 2) h2 fun v3 h4=>
 bm (ab s.P 3 v3 h4) h4 fun v5 h6=>
 bm (fj s.P 3 46 v5) h6 fun v7 h8=>
 bm (aq s.P .rem 46 v1 v7) h8 fun v9 h10=>
 bm (fj s.P 46 3 v9) h10 fun v11 h12=>
 bm (aq s.P .add 3 (.lit (.int .i64 6)) v11) h12 fun v13 h14=>
 some (v13,h14):=kB
theorem aaZ (k wl:Nat) (h:Hp):evF Tryz.prog xM (k+1) wl 222 [a,b] h=ak (xX (xS k) 222 wl k false) Tryz.f222 [a,b] h:=by kernel_rfl
-- names: X0,
theorem Vv (h:Hp):ak (xX s 223 wl k false) Tryz.f223 [a,b] h =
 bm (aa s.P 23 a 2) h fun v1 h2=>
 bm (ab s.P 3 v1 h2) h2 fun v3 h4=>
 bm (aq s.P .add 3 (.lit (.int .i64 6)) v3) h4 fun v5 h6=>
 bm (ab s.P 46 b h6) h6 fun v7 h8=>
 bm (aa s.P 23 a 2) h8 fun v9 h10=>
 bm (ab s.P 3 v9 h10) h10 fun v11 h12=>
 bm (fj s.P 3 46 v11) h12 fun v13 h14=>
 bm (aq s.P .rem 46 v7 v13) h14 fun v15 h16=>
 bm (fj s.P 46 3 v15) h16 fun v17 h18=>
 bm (aq s.P .add 3 v5 v17) h18 fun v19 h20=>
 some (v19,h20):=kB
theorem adG (k wl:Nat) (h:Hp):evF Tryz.prog xM (k+1) wl 223 [a,b] h=ak (xX (xS k) 223 wl k false) Tryz.f223 [a,b] h:=by kernel_rfl
-- names: Vv,
theorem Xg (h:Hp):ak (xX s 203 wl k false) Tryz.f203 [a,b] h =
 bp (aJ a h) fun v1 h2=>
 bp (aJ b h2) fun v3 h4=>
 bm (ab s.P 23 v1 h4) h4 fun v5 h6=>
 bp (yC s k wl 203 false true (.fn (.func 70) [] []) [v5,(.lit (.int .i64 0)),(.fn (.func 222) [] [v3,v1])] h6) fun v7 h8=>
 some (v7,h8):=kB
theorem abB (k wl:Nat) (h:Hp):evF Tryz.prog xM (k+1) wl 203 [a,b] h=ak (xX (xS k) 203 wl k false) Tryz.f203 [a,b] h:=by kernel_rfl
-- names: Xg,
theorem U8 (h:Hp):ak (xX s 205 wl k false) Tryz.f205 [a,b] h =
 bp (aJ a h) fun v1 h2=>
 bp (aJ b h2) fun v3 h4=>
 bm (ab s.P 23 v1 h4) h4 fun v5 h6=>
 bp (yC s k wl 205 false true (.fn (.func 70) [] []) [v5,(.lit (.int .i64 0)),(.fn (.func 223) [] [v1,v3])] h6) fun v7 h8=>
 some (v7,h8):=kB
theorem abS (k wl:Nat) (h:Hp):evF Tryz.prog xM (k+1) wl 205 [a,b] h=ak (xX (xS k) 205 wl k false) Tryz.f205 [a,b] h:=by kernel_rfl
-- names: U8,
end
end Go.Ab
set_option maxRecDepth 100000
set_option linter.unusedVariables false
namespace Go.Ab
open Go.Proofs
section
variable (s:Sys) (k wl:Nat) (m0:Nat) (ac:List Nat×List Nat) (c d g l j o r q y v u B z A p D G E F J M L I N T X U W Q R Y O t4 t1 t2 t3 t0 Z:V)
noncomputable def nR:Code:=al (am Tryz.f45) [1,0,1,1,0,1,0,0]
noncomputable def Fe:List Fr:=[.block 0,.seq (al (am Tryz.f45) [1,0,1,1,1]),.scope (al (am Tryz.f45) [1,0])]
noncomputable def ER:Code:=al (am Tryz.f45) [1,0,1,1,0,1,0,0,1,1,0,0,1,0]
noncomputable def xI:List Fr:=[.seq (al (am Tryz.f45) [1,0,1,1,0,1,0,0,1,1,0,0,1,1]),.block 1,.seq (al (am Tryz.f45) [1,0,1,1,0,1,0,0,1,1,1])]
theorem abG (h:Hp):ak (xX s 45 wl k false) Tryz.f45 [c,d] h =
 bp (aX s.P 26 c h) fun v1 h2=>
 bp (aX s.P 26 d h2) fun v3 h4=>
 bm (aq s.P .eql 3 v1 v3) h4 fun v5 h6=>
 bp (aX s.P 26 c h6) fun v7 h8=>
 yI s k wl 45 Tryz.f45 nR h8.length Fe k ⟨[(V.kill h8.length c),(V.kill h8.length d),(V.kill h8.length uu),(V.kill h8.length uu),(.lit (.bool false)),(V.kill h8.length v5),(V.kill h8.length uu),(V.kill h8.length c),(V.kill h8.length v1),(V.kill h8.length d),(V.kill h8.length v3),(V.kill h8.length v5),(V.kill h8.length c),(V.kill h8.length v7),(.lit (.int .i64 0)),.junk,.junk,.junk,.junk,.junk,.junk,.junk,.junk,.junk,.junk,.junk,.junk,.junk,.junk,.junk,.junk,(V.kill h8.length uu)],bY h8.length h8⟩:=kB
theorem ad6 (k wl:Nat) (h:Hp):evF Tryz.prog xM (k+1) wl 45 [c,d] h=ak (xX (xS k) 45 wl k false) Tryz.f45 [c,d] h:=by kernel_rfl
theorem abv (P:Program) (h:Hp):av P Tryz.f45 .ret ⟨[c,d,g,l,j,o,r,q,y,v,u,B,z,A,p,D,G,E,F,J,M,L,I,N,T,X,U,W,Q,R,Y,O],h⟩=some (j,h):=by kernel_rfl
theorem Of (s:Sys) (K:Out→St→Option (V×Hp)) (k wl:Nat) (rd:Bool) (n n0:Nat) (h:Hp):itX (xX s 45 wl k rd) nR n0 K (n+1) ⟨[c,d,g,l,j,o,r,q,y,v,u,B,z,A,p,D,G,E,F,J,M,L,I,N,T,X,U,W,Q,R,Y,O],h⟩ =
 bm (aq s.P .lss 3 p A) h fun v9 h10=>
 cnd v9 (
 bm (vUn .not o) h10 fun v11 h12=>
 gd v11 (
 dv (xX s 45 wl k rd) ER 12 h10.length ([],[]) (au (xX s 45 wl k rd) (eD (xX s 45 wl k rd) nR n0 K n) xI) ⟨[c,d,g,l,j,o,p,q,y,v,u,B,z,A,p,v9,p,o,v11,(.lit (.bool true)),uu,uu,uu,uu,uu,uu,uu,uu,uu,R,Y,O],h12⟩) (
 bm (ai s.P 26 c p h12) h12 fun v13 h14=>
 bm (ab s.P 46 v13 h14) h14 fun v15 h16=>
 bm (ai s.P 26 d p h16) h16 fun v17 h18=>
 bm (ab s.P 46 v17 h18) h18 fun v19 h20=>
 bm (aq s.P .neq 46 v15 v19) h20 fun v21 h22=>
 dv (xX s 45 wl k rd) ER 12 h10.length ([],[]) (au (xX s 45 wl k rd) (eD (xX s 45 wl k rd) nR n0 K n) xI) ⟨[c,d,g,l,j,o,p,q,y,v,u,B,z,A,p,v9,p,o,v11,(.lit (.bool false)),c,p,v13,v15,d,p,v17,v19,v21,R,Y,O],h22⟩) (
 dv (xX s 45 wl k rd) ER 4 h10.length ([],[]) (au (xX s 45 wl k rd) (eD (xX s 45 wl k rd) nR n0 K n) xI) ⟨[c,d,g,l,j,o,p,q,y,v,u,B,z,A,p,v9,p,o,v11,v11,uu,L,I,N,T,X,U,W,Q,R,Y,O],h12⟩)) (
 K (.exit 0) ⟨[(V.kill n0 c),(V.kill n0 d),(V.kill n0 g),(V.kill n0 l),(V.kill n0 j),(V.kill n0 o),(V.kill n0 r),(V.kill n0 q),(V.kill n0 y),(V.kill n0 v),(V.kill n0 u),(V.kill n0 B),(V.kill n0 z),(V.kill n0 A),.junk,.junk,.junk,.junk,.junk,.junk,.junk,.junk,.junk,.junk,.junk,.junk,.junk,.junk,.junk,.junk,.junk,(V.kill n0 O)],bY n0 h10⟩):=kI
theorem Jg (h:Hp):au (xX s 45 wl k false) (av s.P Tryz.f45) Fe (.exit 0) ⟨[c,d,g,l,j,o,r,q,y,v,u,B,z,A,p,D,G,E,F,J,M,L,I,N,T,X,U,W,Q,R,Y,O],h⟩ =
 some (o,h):=kR
theorem JS (s:Sys) (K:Out→St→Option (V×Hp)) (k wl:Nat) (rd:Bool) (n n0:Nat) (m0:Nat) (ac:List Nat×List Nat) (h:Hp):dv (xX s 45 wl k rd) ER 12 m0 ac (au (xX s 45 wl k rd) (eD (xX s 45 wl k rd) nR n0 K n) xI) ⟨[c,d,g,l,j,o,r,q,y,v,u,B,z,A,p,D,G,E,F,J,M,L,I,N,T,X,U,W,Q,R,Y,O],h⟩ =
 bm (aO J (.lit (.bool true)) Q) h fun v23 h24=>
 cnd v23 (
 K (.exit 0) ⟨[(V.kill n0 c),(V.kill n0 d),(V.kill n0 g),(V.kill n0 l),(V.kill n0 j),(.lit (.bool false)),(V.kill n0 r),(V.kill n0 q),(V.kill n0 y),(V.kill n0 v),(V.kill n0 u),(V.kill n0 B),(V.kill n0 z),(V.kill n0 A),.junk,.junk,.junk,.junk,.junk,.junk,.junk,.junk,.junk,.junk,.junk,.junk,.junk,.junk,.junk,.junk,.junk,(V.kill n0 O)],bY n0 h24⟩) (
 bm (aq s.P .add 3 p (.lit (.int .i64 1))) h24 fun v25 h26=>
 itX (xX s 45 wl k rd) nR n0 K n ⟨[(V.kill n0 c),(V.kill n0 d),(V.kill n0 g),(V.kill n0 l),(V.kill n0 j),(V.kill n0 o),(V.kill n0 r),(V.kill n0 q),(V.kill n0 y),(V.kill n0 v),(V.kill n0 u),(V.kill n0 B),(V.kill n0 z),(V.kill n0 A),(V.kill n0 v25),.junk,.junk,.junk,.junk,.junk,.junk,.junk,.junk,.junk,.junk,.junk,.junk,.junk,.junk,.junk,.junk,(V.kill n0 O)],bY n0 h26⟩):=kG
theorem nA (cx:Cx) (K:Out→St→Option (V×Hp)) (s:St):au cx K Fe .ret s=K .ret s:=by kernel_rfl
theorem nr (cx:Cx) (K:Out→St→Option (V×Hp)) (s:St):au cx K xI .ret s=K .ret s:=by kernel_rfl
-- names: abG,abv,Of,Jg,JS,nA,nr
noncomputable def fT:Code:=al (am Tryz.f47) [1,0]
noncomputable def fK:List Fr:=[.seq (al (am Tryz.f47) [1,1])]
theorem adX (h:Hp):ak (xX s 47 wl k false) Tryz.f47 [c,d] h =
 bp (aJ c h) fun v1 h2=>
 bp (aJ d h2) fun v3 h4=>
 bm (aa s.P 65 v1 0) h4 fun v5 h6=>
 bm (ab s.P 3 v5 h6) h6 fun v7 h8=>
 bm (aa s.P 65 v3 0) h8 fun v9 h10=>
 bm (ab s.P 3 v9 h10) h10 fun v11 h12=>
 bm (aq s.P .eql 3 v7 v11) h12 fun v13 h14=>
 gd v13 (
 bm (aa s.P 65 v1 2) h14 fun v15 h16=>
 bm (ab s.P 55 v15 h16) h16 fun v17 h18=>
 bm (aa s.P 65 v3 2) h18 fun v19 h20=>
 bm (ab s.P 55 v19 h20) h20 fun v21 h22=>
 bm (aq s.P .eql 55 v17 v21) h22 fun v23 h24=>
 yO s k wl 47 Tryz.f47 fT 11 h4.length ([],[]) fK ⟨[c,d,v1,v3,(.lit (.bool false)),v5,v7,v9,v11,v13,(.lit (.bool true)),v15,v17,v19,v21,v23,uu,uu,uu,uu,uu,uu,uu,uu,uu,uu,uu,uu,uu,uu,uu,uu,uu,uu,uu,uu,uu,uu],h24⟩) (
 yO s k wl 47 Tryz.f47 fT 11 h4.length ([],[]) fK ⟨[c,d,v1,v3,(.lit (.bool false)),v5,v7,v9,v11,v13,(.lit (.bool false)),uu,uu,uu,uu,uu,uu,uu,uu,uu,uu,uu,uu,uu,uu,uu,uu,uu,uu,uu,uu,uu,uu,uu,uu,uu,uu,uu],h14⟩) (
 yO s k wl 47 Tryz.f47 fT 7 h4.length ([],[]) fK ⟨[c,d,v1,v3,(.lit (.bool false)),v5,v7,v9,v11,v13,v13,uu,uu,uu,uu,uu,uu,uu,uu,uu,uu,uu,uu,uu,uu,uu,uu,uu,uu,uu,uu,uu,uu,uu,uu,uu,uu,uu],h14⟩):=kB
theorem aeF (k wl:Nat) (h:Hp):evF Tryz.prog xM (k+1) wl 47 [c,d] h=ak (xX (xS k) 47 wl k false) Tryz.f47 [c,d] h:=by kernel_rfl
theorem Oa (zz:List V) (h:Hp):yO s k wl 47 Tryz.f47 fT 11 m0 ac fK ⟨(c::d::g::l::j::o::r::q::y::v::u::B::z::A::p::D::G::E::F::J::M::L::I::zz),h⟩ =
 bm (aO u D (.lit (.bool false))) h fun v25 h26=>
 gd v25 (
 bm (aa s.P 65 g 3) h26 fun v27 h28=>
 bm (ab s.P 3 v27 h28) h28 fun v29 h30=>
 bm (aa s.P 65 l 3) h30 fun v31 h32=>
 bm (ab s.P 3 v31 h32) h32 fun v33 h34=>
 bm (aq s.P .eql 3 v29 v33) h34 fun v35 h36=>
 yO s k wl 47 Tryz.f47 fT 18 m0 ac fK ⟨(c::d::g::l::j::o::r::q::y::v::u::B::z::A::p::D::v25::(.lit (.bool true))::v27::v29::v31::v33::v35::zz),h36⟩) (
 yO s k wl 47 Tryz.f47 fT 18 m0 ac fK ⟨(c::d::g::l::j::o::r::q::y::v::u::B::z::A::p::D::v25::(.lit (.bool false))::uu::uu::uu::uu::uu::zz),h26⟩) (
 yO s k wl 47 Tryz.f47 fT 14 m0 ac fK ⟨(c::d::g::l::j::o::r::q::y::v::u::B::z::A::p::D::v25::v25::uu::J::M::L::I::zz),h26⟩):=kG
theorem OZ (h:Hp):yO s k wl 47 Tryz.f47 fT 18 m0 ac fK ⟨[c,d,g,l,j,o,r,q,y,v,u,B,z,A,p,D,G,E,F,J,M,L,I,N,T,X,U,W,Q,R,Y,O,t4,t1,t2,t3,t0,Z],h⟩ =
 bm (aO E I (.lit (.bool false))) h fun v37 h38=>
 gd v37 (
 bm (aa s.P 65 g 4) h38 fun v39 h40=>
 bm (ab s.P 3 v39 h40) h40 fun v41 h42=>
 bm (aa s.P 65 l 4) h42 fun v43 h44=>
 bm (ab s.P 3 v43 h44) h44 fun v45 h46=>
 bm (aq s.P .eql 3 v41 v45) h46 fun v47 h48=>
 yO s k wl 47 Tryz.f47 fT 25 m0 ac fK ⟨[c,d,g,l,j,o,r,q,y,v,u,B,z,A,p,D,G,E,F,J,M,L,I,v37,(.lit (.bool true)),v39,v41,v43,v45,v47,Y,O,t4,t1,t2,t3,t0,Z],h48⟩) (
 yO s k wl 47 Tryz.f47 fT 25 m0 ac fK ⟨[c,d,g,l,j,o,r,q,y,v,u,B,z,A,p,D,G,E,F,J,M,L,I,v37,(.lit (.bool false)),uu,uu,uu,uu,uu,Y,O,t4,t1,t2,t3,t0,Z],h38⟩) (
 yO s k wl 47 Tryz.f47 fT 21 m0 ac fK ⟨[c,d,g,l,j,o,r,q,y,v,u,B,z,A,p,D,G,E,F,J,M,L,I,v37,v37,uu,U,W,Q,R,Y,O,t4,t1,t2,t3,t0,Z],h38⟩):=kG
theorem PU (h:Hp):yO s k wl 47 Tryz.f47 fT 25 m0 ac fK ⟨[c,d,g,l,j,o,r,q,y,v,u,B,z,A,p,D,G,E,F,J,M,L,I,N,T,X,U,W,Q,R,Y,O,t4,t1,t2,t3,t0,Z],h⟩ =
 bm (aO T R (.lit (.bool false))) h fun v49 h50=>
 gd v49 (
 bm (aa s.P 65 g 1) h50 fun v51 h52=>
 bm (ab s.P 63 v51 h52) h52 fun v53 h54=>
 bm (aa s.P 65 l 1) h54 fun v55 h56=>
 bm (ab s.P 63 v55 h56) h56 fun v57 h58=>
 bp (yC s k wl 47 false true (.fn (.func 92) [] []) [v53,v57] h58) fun v59 h60=>
 yO s k wl 47 Tryz.f47 fT 32 m0 ac fK ⟨[c,d,g,l,j,o,r,q,y,v,u,B,z,A,p,D,G,E,F,J,M,L,I,N,T,X,U,W,Q,R,v49,(.lit (.bool true)),v51,v53,v55,v57,v59,Z],h60⟩) (
 yO s k wl 47 Tryz.f47 fT 32 m0 ac fK ⟨[c,d,g,l,j,o,r,q,y,v,u,B,z,A,p,D,G,E,F,J,M,L,I,N,T,X,U,W,Q,R,v49,(.lit (.bool false)),uu,uu,uu,uu,uu,Z],h50⟩) (
 yO s k wl 47 Tryz.f47 fT 28 m0 ac fK ⟨[c,d,g,l,j,o,r,q,y,v,u,B,z,A,p,D,G,E,F,J,M,L,I,N,T,X,U,W,Q,R,v49,v49,uu,t1,t2,t3,t0,Z],h50⟩):=kG
theorem OK (h:Hp):yO s k wl 47 Tryz.f47 fT 32 m0 ac fK ⟨[c,d,g,l,j,o,r,q,y,v,u,B,z,A,p,D,G,E,F,J,M,L,I,N,T,X,U,W,Q,R,Y,O,t4,t1,t2,t3,t0,Z],h⟩ =
 bm (aO O t0 (.lit (.bool false))) h fun v61 h62=>
 some (v61,h62):=kG
theorem uD (cx:Cx) (K:Out→St→Option (V×Hp)) (s:St):au cx K fK .ret s=K .ret s:=by kernel_rfl
-- names: adX,Oa,OZ,PU,OK,uD
noncomputable def nV:Code:=al (am Tryz.f49) [1,0]
noncomputable def mw:List Fr:=[.seq (al (am Tryz.f49) [1,1])]
theorem aed (h:Hp):ak (xX s 49 wl k false) Tryz.f49 [c,d] h =
 bp (aJ c h) fun v1 h2=>
 bp (aJ d h2) fun v3 h4=>
 bm (aa s.P 57 v1 0) h4 fun v5 h6=>
 bm (ab s.P 3 v5 h6) h6 fun v7 h8=>
 bm (aa s.P 57 v3 0) h8 fun v9 h10=>
 bm (ab s.P 3 v9 h10) h10 fun v11 h12=>
 bm (aq s.P .eql 3 v7 v11) h12 fun v13 h14=>
 gd v13 (
 bm (aa s.P 57 v1 2) h14 fun v15 h16=>
 bm (ab s.P 55 v15 h16) h16 fun v17 h18=>
 bm (aa s.P 57 v3 2) h18 fun v19 h20=>
 bm (ab s.P 55 v19 h20) h20 fun v21 h22=>
 bm (aq s.P .eql 55 v17 v21) h22 fun v23 h24=>
 yO s k wl 49 Tryz.f49 nV 11 h4.length ([],[]) mw ⟨[c,d,v1,v3,(.lit (.bool false)),v5,v7,v9,v11,v13,(.lit (.bool true)),v15,v17,v19,v21,v23,uu,uu,uu,uu,uu,uu,uu,uu],h24⟩) (
 yO s k wl 49 Tryz.f49 nV 11 h4.length ([],[]) mw ⟨[c,d,v1,v3,(.lit (.bool false)),v5,v7,v9,v11,v13,(.lit (.bool false)),uu,uu,uu,uu,uu,uu,uu,uu,uu,uu,uu,uu,uu],h14⟩) (
 yO s k wl 49 Tryz.f49 nV 7 h4.length ([],[]) mw ⟨[c,d,v1,v3,(.lit (.bool false)),v5,v7,v9,v11,v13,v13,uu,uu,uu,uu,uu,uu,uu,uu,uu,uu,uu,uu,uu],h14⟩):=kB
theorem aeK (k wl:Nat) (h:Hp):evF Tryz.prog xM (k+1) wl 49 [c,d] h=ak (xX (xS k) 49 wl k false) Tryz.f49 [c,d] h:=by kernel_rfl
theorem Pg (h:Hp):yO s k wl 49 Tryz.f49 nV 11 m0 ac mw ⟨[c,d,g,l,j,o,r,q,y,v,u,B,z,A,p,D,G,E,F,J,M,L,I,N],h⟩ =
 bm (aO u D (.lit (.bool false))) h fun v25 h26=>
 gd v25 (
 bm (aa s.P 57 g 1) h26 fun v27 h28=>
 bm (ab s.P 53 v27 h28) h28 fun v29 h30=>
 bm (aa s.P 57 l 1) h30 fun v31 h32=>
 bm (ab s.P 53 v31 h32) h32 fun v33 h34=>
 bp (yC s k wl 49 false true (.fn (.func 91) [] []) [v29,v33] h34) fun v35 h36=>
 yO s k wl 49 Tryz.f49 nV 18 m0 ac mw ⟨[c,d,g,l,j,o,r,q,y,v,u,B,z,A,p,D,v25,(.lit (.bool true)),v27,v29,v31,v33,v35,N],h36⟩) (
 yO s k wl 49 Tryz.f49 nV 18 m0 ac mw ⟨[c,d,g,l,j,o,r,q,y,v,u,B,z,A,p,D,v25,(.lit (.bool false)),uu,uu,uu,uu,uu,N],h26⟩) (
 yO s k wl 49 Tryz.f49 nV 14 m0 ac mw ⟨[c,d,g,l,j,o,r,q,y,v,u,B,z,A,p,D,v25,v25,uu,J,M,L,I,N],h26⟩):=kG
theorem OV (h:Hp):yO s k wl 49 Tryz.f49 nV 18 m0 ac mw ⟨[c,d,g,l,j,o,r,q,y,v,u,B,z,A,p,D,G,E,F,J,M,L,I,N],h⟩ =
 bm (aO E I (.lit (.bool false))) h fun v37 h38=>
 some (v37,h38):=kG
theorem ui (cx:Cx) (K:Out→St→Option (V×Hp)) (s:St):au cx K mw .ret s=K .ret s:=by kernel_rfl
-- names: aed,Pg,OV,ui
theorem Y0 (h:Hp):ak (xX s 106 wl k false) Tryz.f106 [c,d] h =
 bm (aq s.P .sub 46 c d) h fun v1 h2=>
 bm (fj s.P 46 3 v1) h2 fun v3 h4=>
 some (v3,h4):=kB
theorem adt (k wl:Nat) (h:Hp):evF Tryz.prog xM (k+1) wl 106 [c,d] h=ak (xX (xS k) 106 wl k false) Tryz.f106 [c,d] h:=by kernel_rfl
-- names: Y0,
noncomputable def xh:Code:=al (am Tryz.f161) [1,0,0]
noncomputable def rr:List Fr:=[.seq (al (am Tryz.f161) [1,0,1]),.seq (al (am Tryz.f161) [1,1])]
theorem UH (h:Hp):ak (xX s 161 wl k false) Tryz.f161 [c,d,g] h =
 bm (aq s.P .lss 3 g (.lit (.int .i64 2))) h fun v1 h2=>
 gd v1 (
 yO s k wl 161 Tryz.f161 xh 7 h.length ([],[]) rr ⟨[c,d,g,uu,uu,uu,(.lit (.int .i64 0)),uu,g,v1,(.lit (.bool true)),uu,uu,uu,uu,uu,uu,uu,uu,uu,uu,uu,uu,uu,uu,uu,uu,uu,uu],h2⟩) (
 bp (yC s k wl 161 false true (.fn (.func 81) [] []) [d,g] h2) fun v3 h4=>
 bm (vUn .not v3) h4 fun v5 h6=>
 yO s k wl 161 Tryz.f161 xh 7 h.length ([],[]) rr ⟨[c,d,g,uu,uu,uu,(.lit (.int .i64 0)),uu,g,v1,(.lit (.bool false)),d,g,v3,v5,uu,uu,uu,uu,uu,uu,uu,uu,uu,uu,uu,uu,uu,uu],h6⟩) (
 yO s k wl 161 Tryz.f161 xh 4 h.length ([],[]) rr ⟨[c,d,g,uu,uu,uu,(.lit (.int .i64 0)),uu,g,v1,v1,uu,uu,uu,uu,uu,uu,uu,uu,uu,uu,uu,uu,uu,uu,uu,uu,uu,uu],h2⟩):=kB
theorem abC (k wl:Nat) (h:Hp):evF Tryz.prog xM (k+1) wl 161 [c,d,g] h=ak (xX (xS k) 161 wl k false) Tryz.f161 [c,d,g] h:=by kernel_rfl
theorem JK (h:Hp):yO s k wl 161 Tryz.f161 xh 7 m0 ac rr ⟨[c,d,g,l,j,o,r,q,y,v,u,B,z,A,p,D,G,E,F,J,M,L,I,N,T,X,U,W,Q],h⟩ =
 bm (aO u (.lit (.bool true)) p) h fun v7 h8=>
 cnd v7 (
 some ((.lit (.int .i64 (-1))),h8)) (
 bm (fj s.P 3 46 g) h8 fun v9 h10=>
 bm (fj s.P 3 46 d) h10 fun v11 h12=>
 bm (aq s.P .add 46 v11 (.lit (.int .u64 1))) h12 fun v13 h14=>
 bm (aq s.P .sub 46 v9 (.lit (.int .u64 1))) h14 fun v15 h16=>
 bm (aq s.P .rem 46 c v15) h16 fun v17 h18=>
 bm (aq s.P .add 46 v13 v17) h18 fun v19 h20=>
 bm (aq s.P .rem 46 v19 v9) h20 fun v21 h22=>
 bm (fj s.P 46 3 v21) h22 fun v23 h24=>
 some (v23,h24)):=kG
theorem pm (cx:Cx) (K:Out→St→Option (V×Hp)) (s:St):au cx K rr .ret s=K .ret s:=by kernel_rfl
-- names: UH,JK,pm
theorem VT (h:Hp):ak (xX s 192 wl k false) Tryz.f192 [c] h =
 bm (aq s.P .and 46 c (.lit (.int .u64 65535))) h fun v1 h2=>
 some (v1,h2):=kB
theorem adD (k wl:Nat) (h:Hp):evF Tryz.prog xM (k+1) wl 192 [c] h=ak (xX (xS k) 192 wl k false) Tryz.f192 [c] h:=by kernel_rfl
-- names: VT,
noncomputable def J7:Code:=al (am Tryz.f195) [1,0,1,0]
noncomputable def Dj:Code:=al (am Tryz.f195) [1,0,1,0,0]
noncomputable def Ce:Code:=al (am Tryz.f195) [1,0,1,0,1]
noncomputable def wP:List Fr:=[.block 0,.seq (al (am Tryz.f195) [1,1])]
theorem uf:J7 = .rangeFunc (.tmp 5) #[6] Dj Ce:=by kernel_rfl
theorem Qp (h:Hp):ak (xX s 195 wl k false) Tryz.f195 [c] h =
 bp (ar s.P 3 h) fun v1 h2=>
 bp (yC s k wl 195 false true (.fn (.func 220) [] []) [c] h2) fun v3 h4=>
 bc (xX s 195 wl k false) J7 none (au (xX s 195 wl k false) (av s.P Tryz.f195) wP) ⟨[c,uu,v1,uu,c,v3,uu,uu],h4⟩:=kB
theorem X2 (k wl:Nat) (h:Hp):evF Tryz.prog xM (k+1) wl 195 [c] h=ak (xX (xS k) 195 wl k false) Tryz.f195 [c] h:=by kernel_rfl
theorem Qj (P:Program) (h:Hp):av P Tryz.f195 .ret ⟨[c,d,g,l,j,o,r,q],h⟩=er [ab P 3 g h] h:=by kernel_rfl
theorem Cz (s:Sys) (k wl:Nat) (zz:List V) (h:Hp):au (xX s 195 wl k false) (av s.P Tryz.f195) wP .norm ⟨(c::d::g::zz),h⟩ =
 bs (aj s.P wl 3 g (.lit (.int .i64 (-1))) h) fun h5=>
 er [ab s.P 3 g h5] h5:=kR
theorem gK (s:Sys) (K:Out→St→Option (V×Hp)) (k wl:Nat) (rd:Bool) (h:Hp):au (xX s 195 wl k rd) K [.seq Ce] .norm ⟨[c,d,g,l,j,o,r,q],h⟩ =
 bs (aj s.P wl 3 g l h) fun h6=>
 K .ret ⟨[c,d,g,l,j,o,r,l],h6⟩:=kR
theorem gS (s:Sys) (K:Out→St→Option (V×Hp)) (k wl:Nat) (rd:Bool) (h:Hp):au (xX s 195 wl k rd) K [.seq Dj] .norm ⟨[c,d,g,l,j,o,r,q],h⟩ =
 K .norm ⟨[c,d,g,r,j,o,r,q],h⟩:=kR
theorem mg (cx:Cx) (K:Out→St→Option (V×Hp)) (s:St):au cx K wP .ret s=K .ret s:=by kernel_rfl
-- names: Qp,Qj,Cz,gK,gS,mg
-- range over a function at [1,0,1,0]
theorem Vy (h:Hp):ak (xX s 213 wl k false) Tryz.f213 [c] h =
 bm (aq s.P .shr 46 c (.lit (.int .u64 16))) h fun v1 h2=>
 some (v1,h2):=kB
theorem aat (k wl:Nat) (h:Hp):evF Tryz.prog xM (k+1) wl 213 [c] h=ak (xX (xS k) 213 wl k false) Tryz.f213 [c] h:=by kernel_rfl
-- names: Vy,
noncomputable def uZ:Code:=al (am Tryz.f214) [1,0,0]
noncomputable def pQ:List Fr:=[.seq (al (am Tryz.f214) [1,0,1]),.seq (al (am Tryz.f214) [1,1])]
theorem UG (h:Hp):ak (xX s 214 wl k false) Tryz.f214 [c,d] h =
 bm (aq s.P .lss 3 d (.lit (.int .i64 0))) h fun v1 h2=>
 gd v1 (
 yO s k wl 214 Tryz.f214 uZ 5 h.length ([],[]) pQ ⟨[c,d,uu,uu,(.lit (.int .u64 0)),d,v1,(.lit (.bool true)),uu,uu,uu,uu,uu,uu,uu,uu],h2⟩) (
 bm (aq s.P .geq 3 d (.lit (.int .i64 16))) h2 fun v3 h4=>
 yO s k wl 214 Tryz.f214 uZ 5 h.length ([],[]) pQ ⟨[c,d,uu,uu,(.lit (.int .u64 0)),d,v1,(.lit (.bool false)),d,v3,uu,uu,uu,uu,uu,uu],h4⟩) (
 yO s k wl 214 Tryz.f214 uZ 4 h.length ([],[]) pQ ⟨[c,d,uu,uu,(.lit (.int .u64 0)),d,v1,v1,uu,uu,uu,uu,uu,uu,uu,uu],h2⟩):=kB
theorem acN (k wl:Nat) (h:Hp):evF Tryz.prog xM (k+1) wl 214 [c,d] h=ak (xX (xS k) 214 wl k false) Tryz.f214 [c,d] h:=by kernel_rfl
theorem Ke (h:Hp):yO s k wl 214 Tryz.f214 uZ 5 m0 ac pQ ⟨[c,d,g,l,j,o,r,q,y,v,u,B,z,A,p,D],h⟩ =
 bm (aO q (.lit (.bool true)) v) h fun v5 h6=>
 cnd v5 (
 some (c,h6)) (
 bm (aq s.P .shl 46 (.lit (.int .u64 1)) d) h6 fun v7 h8=>
 bm (aq s.P .or 46 c v7) h8 fun v9 h10=>
 some (v9,h10)):=kG
theorem pY (cx:Cx) (K:Out→St→Option (V×Hp)) (s:St):au cx K pQ .ret s=K .ret s:=by kernel_rfl
-- names: UG,Ke,pY
theorem VZ (h:Hp):ak (xX s 216 wl k false) Tryz.f216 [c] h =
 bp (yC s k wl 216 false true (.fn (.func 192) [] []) [c] h) fun v1 h2=>
 bp (yC s k wl 216 false true (.fn (.func 213) [] []) [c] h2) fun v3 h4=>
 bm (aq s.P .add 46 v3 (.lit (.int .u64 1))) h4 fun v5 h6=>
 bm (aq s.P .sub 46 v1 (.lit (.int .u64 1))) h6 fun v7 h8=>
 bm (aq s.P .and 46 v1 v7) h8 fun v9 h10=>
 bp (yC s k wl 216 false true (.fn (.func 233) [] []) [v5,v9] h10) fun v11 h12=>
 bp (yC s k wl 216 false true (.fn (.func 195) [] []) [v1] h12) fun v13 h14=>
 some (.tup [v11,v13],h14):=kB
theorem acP (k wl:Nat) (h:Hp):evF Tryz.prog xM (k+1) wl 216 [c] h=ak (xX (xS k) 216 wl k false) Tryz.f216 [c] h:=by kernel_rfl
-- names: VZ,
theorem Wg (h:Hp):ak (xX s 218 wl k false) Tryz.f218 [c] h =
 bp (yC s k wl 218 false true (.fn (.func 213) [] []) [c] h) fun v1 h2=>
 bm (aq s.P .add 46 v1 (.lit (.int .u64 1))) h2 fun v3 h4=>
 bp (yC s k wl 218 false true (.fn (.func 233) [] []) [v3,(.lit (.int .u64 0))] h4) fun v5 h6=>
 some (v5,h6):=kB
theorem aaI (k wl:Nat) (h:Hp):evF Tryz.prog xM (k+1) wl 218 [c] h=ak (xX (xS k) 218 wl k false) Tryz.f218 [c] h:=by kernel_rfl
-- names: Wg,
theorem QV (h:Hp):ak (xX s 220 wl k false) Tryz.f220 [c] h =
 bp (aJ c h) fun v1 h2=>
 some ((.fn (.func 234) [] [v1]),h2):=kB
theorem Xr (k wl:Nat) (h:Hp):evF Tryz.prog xM (k+1) wl 220 [c] h=ak (xX (xS k) 220 wl k false) Tryz.f220 [c] h:=by kernel_rfl
-- names: QV,
theorem VV (h:Hp):ak (xX s 233 wl k false) Tryz.f233 [c,d] h =
 bm (aq s.P .shl 46 c (.lit (.int .u64 16))) h fun v1 h2=>
 bm (aq s.P .and 46 d (.lit (.int .u64 65535))) h2 fun v3 h4=>
 bm (aq s.P .or 46 v1 v3) h4 fun v5 h6=>
 some (v5,h6):=kB
theorem acn (k wl:Nat) (h:Hp):evF Tryz.prog xM (k+1) wl 233 [c,d] h=ak (xX (xS k) 233 wl k false) Tryz.f233 [c,d] h:=by kernel_rfl
-- names: VV,
noncomputable def kZ:Code:=al (am Tryz.f234) [1,0,0]
noncomputable def wd:List Fr:=[.block 0]
noncomputable def w9:Code:=al (am Tryz.f234) [1,0,0,1,1,0,0,1,0]
noncomputable def pB:List Fr:=[.seq (al (am Tryz.f234) [1,0,0,1,1,0,0,1,1]),.block 1,.seq (al (am Tryz.f234) [1,0,0,1,1,1])]
theorem QL (h:Hp):ak (xX s 234 wl k false) Tryz.f234 [c,d] h =
 yI s k wl 234 Tryz.f234 kZ h.length wd k ⟨[(V.kill h.length c),(V.kill h.length d),(V.kill h.length uu),(V.kill h.length uu),(.lit (.int .i64 0)),.junk,.junk,.junk,.junk,.junk,.junk,.junk,.junk,.junk,.junk,.junk,.junk,.junk,.junk],bY h.length h⟩:=kB
theorem Xv (k wl:Nat) (h:Hp):evF Tryz.prog xM (k+1) wl 234 [c,d] h=ak (xX (xS k) 234 wl k false) Tryz.f234 [c,d] h:=by kernel_rfl
theorem Rh (P:Program) (h:Hp):av P Tryz.f234 .ret ⟨[c,d,g,l,j,o,r,q,y,v,u,B,z,A,p,D,G,E,F],h⟩=some (.tup [],h):=by kernel_rfl
theorem Ii (s:Sys) (K:Out→St→Option (V×Hp)) (k wl:Nat) (rd:Bool) (n n0:Nat) (h:Hp):itX (xX s 234 wl k rd) kZ n0 K (n+1) ⟨[c,d,g,l,j,o,r,q,y,v,u,B,z,A,p,D,G,E,F],h⟩ =
 bm (aq s.P .lss 3 j (.lit (.int .i64 16))) h fun v1 h2=>
 cnd v1 (
 bm (ab s.P 46 d h2) h2 fun v3 h4=>
 bm (aq s.P .shr 46 v3 j) h4 fun v5 h6=>
 bm (aq s.P .and 46 v5 (.lit (.int .u64 1))) h6 fun v7 h8=>
 bm (aq s.P .eql 46 v7 (.lit (.int .u64 1))) h8 fun v9 h10=>
 gd v9 (
 bp (cw (xX s 234 wl k rd) false true c [j] h10) fun v11 h12=>
 bm (vUn .not v11) h12 fun v13 h14=>
 dv (xX s 234 wl k rd) w9 10 h2.length ([],[]) (au (xX s 234 wl k rd) (eD (xX s 234 wl k rd) kZ n0 K n) pB) ⟨[c,d,g,j,j,v1,j,v3,j,v5,v7,v9,(.lit (.bool true)),c,j,v11,v13,E,F],h14⟩) (
 dv (xX s 234 wl k rd) w9 10 h2.length ([],[]) (au (xX s 234 wl k rd) (eD (xX s 234 wl k rd) kZ n0 K n) pB) ⟨[c,d,g,j,j,v1,j,v3,j,v5,v7,v9,(.lit (.bool false)),uu,uu,uu,uu,E,F],h10⟩) (
 dv (xX s 234 wl k rd) w9 7 h2.length ([],[]) (au (xX s 234 wl k rd) (eD (xX s 234 wl k rd) kZ n0 K n) pB) ⟨[c,d,g,j,j,v1,j,v3,j,v5,v7,v9,v9,uu,p,D,G,E,F],h10⟩)) (
 K (.exit 0) ⟨[(V.kill n0 c),(V.kill n0 d),(V.kill n0 g),(V.kill n0 l),.junk,.junk,.junk,.junk,.junk,.junk,.junk,.junk,.junk,.junk,.junk,.junk,.junk,.junk,.junk],bY n0 h2⟩):=kI
theorem Dk (s:Sys) (k wl:Nat) (zz:List V) (h:Hp):au (xX s 234 wl k false) (av s.P Tryz.f234) wd (.exit 0) ⟨(c::zz),h⟩ =
 some (.tup [],h):=kR
theorem Dv (s:Sys) (K:Out→St→Option (V×Hp)) (k wl:Nat) (rd:Bool) (n n0:Nat) (m0:Nat) (ac:List Nat×List Nat) (h:Hp):dv (xX s 234 wl k rd) w9 10 m0 ac (au (xX s 234 wl k rd) (eD (xX s 234 wl k rd) kZ n0 K n) pB) ⟨[c,d,g,l,j,o,r,q,y,v,u,B,z,A,p,D,G,E,F],h⟩ =
 bm (aO z G (.lit (.bool false))) h fun v15 h16=>
 cnd v15 (
 K .ret ⟨[c,d,g,l,j,o,r,q,y,v,u,B,z,A,p,D,G,v15,F],h16⟩) (
 bm (aq s.P .add 3 j (.lit (.int .i64 1))) h16 fun v17 h18=>
 itX (xX s 234 wl k rd) kZ n0 K n ⟨[(V.kill n0 c),(V.kill n0 d),(V.kill n0 g),(V.kill n0 l),(V.kill n0 v17),.junk,.junk,.junk,.junk,.junk,.junk,.junk,.junk,.junk,.junk,.junk,.junk,.junk,.junk],bY n0 h18⟩):=kG
theorem mc (cx:Cx) (K:Out→St→Option (V×Hp)) (s:St):au cx K wd .ret s=K .ret s:=by kernel_rfl
theorem mh (cx:Cx) (K:Out→St→Option (V×Hp)) (s:St):au cx K pB .ret s=K .ret s:=by kernel_rfl
-- names: QL,Rh,Ii,Dk,Dv,mc,mh
theorem XU (h:Hp):ak (xX s 193 wl k false) Tryz.f193 [c,d,g] h =
 bp (aJ c h) fun v1 h2=>
 bp (ar s.P 55 h2) fun v3 h4=>
 bm (aa s.P 55 v1 0) h4 fun v5 h6=>
 bm (ab s.P 3 v5 h6) h6 fun v7 h8=>
 bm (aa s.P 55 v1 2) h8 fun v9 h10=>
 bm (ab s.P 3 v9 h10) h10 fun v11 h12=>
 bm (bh s.P 55 [(0,v7),(2,v11),(3,g),(6,d)]) h12 fun v13 h14=>
 bs (aj s.P wl 55 v3 v13 h14) fun h15=>
 er [ab s.P 55 v3 h15] h15:=kB
theorem abE (k wl:Nat) (h:Hp):evF Tryz.prog xM (k+1) wl 193 [c,d,g] h=ak (xX (xS k) 193 wl k false) Tryz.f193 [c,d,g] h:=by kernel_rfl
-- names: XU,
end
end Go.Ab
set_option maxRecDepth 100000
set_option linter.unusedVariables false
namespace Go.Ab
open Go.Proofs
section
variable (s:Sys) (k wl:Nat) (m0:Nat) (ac:List Nat×List Nat) (a b d e j f g l u v o q r y x E z F A B G D I J L M T O U Q N R Y t0 Z X W t5 t6 t7 t8 t9 ta tb tc td te tf t2 tg t3 t4 t1 tk ti th tl tm tn tp tq tr ts tt tu tv tw tx ty tz tA tj:V)
noncomputable def bW:Code:=al (am Tryz.f42) [1,0]
noncomputable def bV:List Fr:=[.seq (al (am Tryz.f42) [1,1])]
theorem aeh (h:Hp):ak (xX s 42 wl k false) Tryz.f42 [a,b,d] h =
 bp (aJ a h) fun v1 h2=>
 bm (aa s.P 48 v1 0) h2 fun v3 h4=>
 bm (ab s.P 3 v3 h4) h4 fun v5 h6=>
 bm (aq s.P .eql 3 v5 (.lit (.int .i64 0))) h6 fun v7 h8=>
 gd v7 (
 bm (aa s.P 48 v1 1) h8 fun v9 h10=>
 bm (ab s.P 3 v9 h10) h10 fun v11 h12=>
 bp (yC s k wl 42 false true (.fn (.func 81) [] []) [v11,b] h12) fun v13 h14=>
 yO s k wl 42 Tryz.f42 bW 8 h2.length ([],[]) bV ⟨[a,b,d,v1,uu,uu,(.lit (.bool false)),v3,v5,v7,(.lit (.bool true)),v9,v11,b,v13,uu,uu,uu,uu,uu,uu,uu,uu,uu,uu,uu,uu,uu,uu,uu,uu,uu,uu,uu,uu,uu,uu],h14⟩) (
 yO s k wl 42 Tryz.f42 bW 8 h2.length ([],[]) bV ⟨[a,b,d,v1,uu,uu,(.lit (.bool false)),v3,v5,v7,(.lit (.bool false)),uu,uu,uu,uu,uu,uu,uu,uu,uu,uu,uu,uu,uu,uu,uu,uu,uu,uu,uu,uu,uu,uu,uu,uu,uu,uu],h8⟩) (
 yO s k wl 42 Tryz.f42 bW 5 h2.length ([],[]) bV ⟨[a,b,d,v1,uu,uu,(.lit (.bool false)),v3,v5,v7,v7,uu,uu,uu,uu,uu,uu,uu,uu,uu,uu,uu,uu,uu,uu,uu,uu,uu,uu,uu,uu,uu,uu,uu,uu,uu,uu],h8⟩):=kB
theorem aex (k wl:Nat) (h:Hp):evF Tryz.prog xM (k+1) wl 42 [a,b,d] h=ak (xX (xS k) 42 wl k false) Tryz.f42 [a,b,d] h:=by kernel_rfl
theorem OF (zz:List V) (h:Hp):yO s k wl 42 Tryz.f42 bW 8 m0 ac bV ⟨(a::b::d::e::j::f::g::l::u::v::o::q::r::y::x::E::z::F::A::B::G::D::I::J::L::M::zz),h⟩ =
 bm (aO o x (.lit (.bool false))) h fun v15 h16=>
 gd v15 (
 yO s k wl 42 Tryz.f42 bW 19 m0 ac bV ⟨(a::b::d::e::j::f::g::l::u::v::o::q::r::y::x::v15::(.lit (.bool true))::uu::uu::uu::uu::uu::uu::uu::uu::uu::zz),h16⟩) (
 bm (aa s.P 48 e 0) h16 fun v17 h18=>
 bm (ab s.P 3 v17 h18) h18 fun v19 h20=>
 bm (aq s.P .eql 3 v19 (.lit (.int .i64 1))) h20 fun v21 h22=>
 yO s k wl 42 Tryz.f42 bW 14 m0 ac bV ⟨(a::b::d::e::j::f::g::l::u::v::o::q::r::y::x::v15::(.lit (.bool false))::v17::v19::v21::v21::D::I::J::L::M::zz),h22⟩) (
 yO s k wl 42 Tryz.f42 bW 11 m0 ac bV ⟨(a::b::d::e::j::f::g::l::u::v::o::q::r::y::x::v15::v15::uu::A::B::G::D::I::J::L::M::zz),h16⟩):=kG
theorem Od (h:Hp):yO s k wl 42 Tryz.f42 bW 19 m0 ac bV ⟨[a,b,d,e,j,f,g,l,u,v,o,q,r,y,x,E,z,F,A,B,G,D,I,J,L,M,T,O,U,Q,N,R,Y,t0,Z,X,W],h⟩ =
 bm (aO z (.lit (.bool true)) M) h fun v23 h24=>
 gd v23 (
 yO s k wl 42 Tryz.f42 bW 24 m0 ac bV ⟨[a,b,d,e,j,f,g,l,u,v,o,q,r,y,x,E,z,F,A,B,G,D,I,J,L,M,v23,(.lit (.bool true)),uu,uu,uu,R,Y,t0,Z,X,W],h24⟩) (
 bm (aa s.P 48 e 0) h24 fun v25 h26=>
 bm (ab s.P 3 v25 h26) h26 fun v27 h28=>
 bm (aq s.P .eql 3 v27 (.lit (.int .i64 2))) h28 fun v29 h30=>
 yO s k wl 42 Tryz.f42 bW 24 m0 ac bV ⟨[a,b,d,e,j,f,g,l,u,v,o,q,r,y,x,E,z,F,A,B,G,D,I,J,L,M,v23,(.lit (.bool false)),v25,v27,v29,R,Y,t0,Z,X,W],h30⟩) (
 yO s k wl 42 Tryz.f42 bW 22 m0 ac bV ⟨[a,b,d,e,j,f,g,l,u,v,o,q,r,y,x,E,z,F,A,B,G,D,I,J,L,M,v23,v23,uu,Q,N,R,Y,t0,Z,X,W],h24⟩):=kG
theorem Oq (zz:List V) (h:Hp):yO s k wl 42 Tryz.f42 bW 14 m0 ac bV ⟨(a::b::d::e::j::f::g::l::u::v::o::q::r::y::x::E::z::F::A::B::G::D::I::J::L::zz),h⟩ =
 gd G (
 bm (aa s.P 48 e 1) h fun v31 h32=>
 bm (ab s.P 3 v31 h32) h32 fun v33 h34=>
 bp (yC s k wl 42 false true (.fn (.func 81) [] []) [v33,d] h34) fun v35 h36=>
 yO s k wl 42 Tryz.f42 bW 18 m0 ac bV ⟨(a::b::d::e::j::f::g::l::u::v::o::q::r::y::x::E::z::F::A::B::(.lit (.bool true))::v31::v33::d::v35::zz),h36⟩) (
 yO s k wl 42 Tryz.f42 bW 18 m0 ac bV ⟨(a::b::d::e::j::f::g::l::u::v::o::q::r::y::x::E::z::F::A::B::(.lit (.bool false))::uu::uu::uu::uu::zz),h⟩) (
 yO s k wl 42 Tryz.f42 bW 15 m0 ac bV ⟨(a::b::d::e::j::f::g::l::u::v::o::q::r::y::x::E::z::F::A::B::G::uu::I::J::L::zz),h⟩):=kG
theorem Ok (h:Hp):yO s k wl 42 Tryz.f42 bW 24 m0 ac bV ⟨[a,b,d,e,j,f,g,l,u,v,o,q,r,y,x,E,z,F,A,B,G,D,I,J,L,M,T,O,U,Q,N,R,Y,t0,Z,X,W],h⟩ =
 bm (aO O (.lit (.bool true)) N) h fun v37 h38=>
 gd v37 (
 yO s k wl 42 Tryz.f42 bW 29 m0 ac bV ⟨[a,b,d,e,j,f,g,l,u,v,o,q,r,y,x,E,z,F,A,B,G,D,I,J,L,M,T,O,U,Q,N,v37,(.lit (.bool true)),uu,uu,uu,W],h38⟩) (
 bm (aa s.P 48 e 0) h38 fun v39 h40=>
 bm (ab s.P 3 v39 h40) h40 fun v41 h42=>
 bm (aq s.P .eql 3 v41 (.lit (.int .i64 3))) h42 fun v43 h44=>
 yO s k wl 42 Tryz.f42 bW 29 m0 ac bV ⟨[a,b,d,e,j,f,g,l,u,v,o,q,r,y,x,E,z,F,A,B,G,D,I,J,L,M,T,O,U,Q,N,v37,(.lit (.bool false)),v39,v41,v43,W],h44⟩) (
 yO s k wl 42 Tryz.f42 bW 27 m0 ac bV ⟨[a,b,d,e,j,f,g,l,u,v,o,q,r,y,x,E,z,F,A,B,G,D,I,J,L,M,T,O,U,Q,N,v37,v37,uu,Z,X,W],h38⟩):=kG
theorem PD (zz:List V) (h:Hp):yO s k wl 42 Tryz.f42 bW 18 m0 ac bV ⟨(a::b::d::e::j::f::g::l::u::v::o::q::r::y::x::E::z::F::A::B::G::D::I::J::L::M::zz),h⟩ =
 gd z (
 yO s k wl 42 Tryz.f42 bW 19 m0 ac bV ⟨(a::b::d::e::j::f::g::l::u::v::o::q::r::y::x::E::(.lit (.bool true))::F::A::B::G::D::I::J::L::uu::zz),h⟩) (
 bm (aO G L (.lit (.bool false))) h fun v45 h46=>
 yO s k wl 42 Tryz.f42 bW 19 m0 ac bV ⟨(a::b::d::e::j::f::g::l::u::v::o::q::r::y::x::E::(.lit (.bool false))::F::A::B::G::D::I::J::L::v45::zz),h46⟩) (
 yO s k wl 42 Tryz.f42 bW 19 m0 ac bV ⟨(a::b::d::e::j::f::g::l::u::v::o::q::r::y::x::E::z::F::A::B::G::D::I::J::L::uu::zz),h⟩):=kG
theorem Py (zz:List V) (h:Hp):yO s k wl 42 Tryz.f42 bW 15 m0 ac bV ⟨(a::b::d::e::j::f::g::l::u::v::o::q::r::y::x::E::z::F::A::B::G::D::I::J::L::zz),h⟩ =
 gd G (
 bm (ab s.P 3 D h) h fun v47 h48=>
 bp (yC s k wl 42 false true (.fn (.func 81) [] []) [v47,d] h48) fun v49 h50=>
 yO s k wl 42 Tryz.f42 bW 18 m0 ac bV ⟨(a::b::d::e::j::f::g::l::u::v::o::q::r::y::x::E::z::F::A::B::(.lit (.bool true))::D::v47::d::v49::zz),h50⟩) (
 yO s k wl 42 Tryz.f42 bW 18 m0 ac bV ⟨(a::b::d::e::j::f::g::l::u::v::o::q::r::y::x::E::z::F::A::B::(.lit (.bool false))::D::uu::uu::uu::zz),h⟩) (
 yO s k wl 42 Tryz.f42 bW 16 m0 ac bV ⟨(a::b::d::e::j::f::g::l::u::v::o::q::r::y::x::E::z::F::A::B::G::D::uu::J::L::zz),h⟩):=kG
theorem Pi (h:Hp):yO s k wl 42 Tryz.f42 bW 29 m0 ac bV ⟨[a,b,d,e,j,f,g,l,u,v,o,q,r,y,x,E,z,F,A,B,G,D,I,J,L,M,T,O,U,Q,N,R,Y,t0,Z,X,W],h⟩ =
 bm (aO Y (.lit (.bool true)) X) h fun v51 h52=>
 some (v51,h52):=kG
theorem O6 (zz:List V) (h:Hp):yO s k wl 42 Tryz.f42 bW 16 m0 ac bV ⟨(a::b::d::e::j::f::g::l::u::v::o::q::r::y::x::E::z::F::A::B::G::D::I::J::L::zz),h⟩ =
 gd G (
 bp (yC s k wl 42 false true (.fn (.func 81) [] []) [I,d] h) fun v53 h54=>
 yO s k wl 42 Tryz.f42 bW 18 m0 ac bV ⟨(a::b::d::e::j::f::g::l::u::v::o::q::r::y::x::E::z::F::A::B::(.lit (.bool true))::D::I::d::v53::zz),h54⟩) (
 yO s k wl 42 Tryz.f42 bW 18 m0 ac bV ⟨(a::b::d::e::j::f::g::l::u::v::o::q::r::y::x::E::z::F::A::B::(.lit (.bool false))::D::I::uu::uu::zz),h⟩) (
 yO s k wl 42 Tryz.f42 bW 17 m0 ac bV ⟨(a::b::d::e::j::f::g::l::u::v::o::q::r::y::x::E::z::F::A::B::G::D::I::uu::L::zz),h⟩):=kG
theorem OM (zz:List V) (h:Hp):yO s k wl 42 Tryz.f42 bW 17 m0 ac bV ⟨(a::b::d::e::j::f::g::l::u::v::o::q::r::y::x::E::z::F::A::B::G::D::I::J::L::zz),h⟩ =
 gd G (
 bp (yC s k wl 42 false true (.fn (.func 81) [] []) [I,J] h) fun v55 h56=>
 yO s k wl 42 Tryz.f42 bW 18 m0 ac bV ⟨(a::b::d::e::j::f::g::l::u::v::o::q::r::y::x::E::z::F::A::B::(.lit (.bool true))::D::I::J::v55::zz),h56⟩) (
 yO s k wl 42 Tryz.f42 bW 18 m0 ac bV ⟨(a::b::d::e::j::f::g::l::u::v::o::q::r::y::x::E::z::F::A::B::(.lit (.bool false))::D::I::J::uu::zz),h⟩) (
 yO s k wl 42 Tryz.f42 bW 18 m0 ac bV ⟨(a::b::d::e::j::f::g::l::u::v::o::q::r::y::x::E::z::F::A::B::G::D::I::J::uu::zz),h⟩):=kG
theorem ub (cx:Cx) (K:Out→St→Option (V×Hp)) (s:St):au cx K bV .ret s=K .ret s:=by kernel_rfl
-- names: aeh,OF,Od,Oq,Ok,PD,Py,Pi,O6,OM,ub
noncomputable def DU:Code:=al (am Tryz.f81) [1,0]
noncomputable def xW:List Fr:=[.seq (al (am Tryz.f81) [1,1])]
theorem aes (h:Hp):ak (xX s 81 wl k false) Tryz.f81 [a,b] h =
 bm (aq s.P .geq 3 a (.lit (.int .i64 0))) h fun v1 h2=>
 gd v1 (
 bm (aq s.P .lss 3 a b) h2 fun v3 h4=>
 yO s k wl 81 Tryz.f81 DU 6 h.length ([],[]) xW ⟨[a,b,uu,uu,(.lit (.bool false)),a,v1,(.lit (.bool true)),a,b,v3,uu],h4⟩) (
 yO s k wl 81 Tryz.f81 DU 6 h.length ([],[]) xW ⟨[a,b,uu,uu,(.lit (.bool false)),a,v1,(.lit (.bool false)),uu,uu,uu,uu],h2⟩) (
 yO s k wl 81 Tryz.f81 DU 4 h.length ([],[]) xW ⟨[a,b,uu,uu,(.lit (.bool false)),a,v1,v1,uu,uu,uu,uu],h2⟩):=kB
theorem aeS (k wl:Nat) (h:Hp):evF Tryz.prog xM (k+1) wl 81 [a,b] h=ak (xX (xS k) 81 wl k false) Tryz.f81 [a,b] h:=by kernel_rfl
theorem Pn (h:Hp):yO s k wl 81 Tryz.f81 DU 6 m0 ac xW ⟨[a,b,d,e,j,f,g,l,u,v,o,q],h⟩ =
 bm (aO l o (.lit (.bool false))) h fun v5 h6=>
 some (v5,h6):=kG
theorem r7 (cx:Cx) (K:Out→St→Option (V×Hp)) (s:St):au cx K xW .ret s=K .ret s:=by kernel_rfl
-- names: aes,Pn,r7
end
end Go.Ab
set_option maxRecDepth 100000
set_option linter.unusedVariables false
namespace Go.Ab
open Go.Proofs
section
variable (s:Sys) (k wl:Nat) (m0:Nat) (ac:List Nat×List Nat) (d a b f u v e x j g I y z A L M B D E o F G q Q N R O J t1 U t2 t3 t4 t5 t6 t7 t8 t9 ta W T tb tc td te tf tg th ti tj tk X Y Z tx ty tz tl tm tn tG tH tI tJ tK tL tM tN tO tA tB tC tD tE tF tp tq tr ts tt tu tv tw t0:V)
end
end Go.Ab
