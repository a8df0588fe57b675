import Derived.Test.YtblpbpnilkfjhaaGreatR6Seat
import Derived.Test.YtblpbpnilkfjhaaGreatAbLibC
set_option linter.unusedVariables false
set_option linter.unusedSimpArgs false
set_option maxRecDepth 100000
set_option linter.unusedVariables false
namespace Go.Ab
open Go.Proofs
section
variable (s:Sys) (k wl:Nat) (m0:Nat) (ac:List Nat×List Nat) (a b d e o p g l q j u r A y z B D F E I M R N J T O U Q L G:V)
theorem afl (h:Hp):aj (xX s 27 wl k false) Tryz.f27 [a,b] h =
 bp (yC s k wl 27 false true (.fn (.func 66) [] []) [a,b] h) fun v1 h2=>
 bm (vUn .not v1) h2 fun v3 h4=>
 cnd v3 (
 some ((.lit (.int .u64 0)),h4)) (
 bm (ak s.P 26 a b h4) h4 fun v5 h6=>
 bm (ab s.P 46 v5 h6) h6 fun v7 h8=>
 some (v7,h8)):=kB
theorem afE (k wl:Nat) (h:Hp):evF Tryz.prog xM (k+1) wl 27 [a,b] h=aj (xX (xS k) 27 wl k false) Tryz.f27 [a,b] h:=by kernel_rfl
-- names: afl,
theorem aeX (h:Hp):aj (xX s 32 wl k false) Tryz.f32 [a,b] h =
 bp (aO a h) fun v1 h2=>
 bp (aO b h2) fun v3 h4=>
 bm (ab s.P 23 v1 h4) h4 fun v5 h6=>
 bm (ab s.P 3 v3 h6) h6 fun v7 h8=>
 bp (yC s k wl 32 false true (.fn (.func 70) [] []) [v5,v7,(.fn (.func 71) [] [v1,v3])] h8) fun v9 h10=>
 some (v9,h10):=kB
theorem afD (k wl:Nat) (h:Hp):evF Tryz.prog xM (k+1) wl 32 [a,b] h=aj (xX (xS k) 32 wl k false) Tryz.f32 [a,b] h:=by kernel_rfl
-- names: aeX,
noncomputable def gp:Code:=al (am Tryz.f50) [1,0]
noncomputable def f5:List Fr:=[.seq (al (am Tryz.f50) [1,1])]
theorem aff (h:Hp):aj (xX s 50 wl k false) Tryz.f50 [a] h =
 bp (aO a h) fun v1 h2=>
 bm (aa s.P 23 v1 0) h2 fun v3 h4=>
 bm (ab s.P 3 v3 h4) h4 fun v5 h6=>
 bp (yC s k wl 50 false true (.fn (.func 93) [] []) [v5,(.lit (.int .i64 1)),(.lit (.int .i64 8))] h6) fun v7 h8=>
 gd v7 (
 bm (aa s.P 23 v1 1) h8 fun v9 h10=>
 bm (ab s.P 3 v9 h10) h10 fun v11 h12=>
 bp (yC s k wl 50 false true (.fn (.func 93) [] []) [v11,(.lit (.int .i64 1)),(.lit (.int .i64 16))] h12) fun v13 h14=>
 yO s k wl 50 Tryz.f50 gp 7 h2.length ([],[]) f5 ⟨[a,v1,(.lit (.bool false)),v3,v5,v7,(.lit (.bool true)),v9,v11,v13,uu,uu,uu,uu,uu,uu,uu,uu,uu,uu,uu,uu,uu,uu,uu,uu,uu,uu,uu,uu],h14⟩) (
 yO s k wl 50 Tryz.f50 gp 7 h2.length ([],[]) f5 ⟨[a,v1,(.lit (.bool false)),v3,v5,v7,(.lit (.bool false)),uu,uu,uu,uu,uu,uu,uu,uu,uu,uu,uu,uu,uu,uu,uu,uu,uu,uu,uu,uu,uu,uu,uu],h8⟩) (
 yO s k wl 50 Tryz.f50 gp 5 h2.length ([],[]) f5 ⟨[a,v1,(.lit (.bool false)),v3,v5,v7,v7,uu,uu,uu,uu,uu,uu,uu,uu,uu,uu,uu,uu,uu,uu,uu,uu,uu,uu,uu,uu,uu,uu,uu],h8⟩):=kB
theorem af2 (k wl:Nat) (h:Hp):evF Tryz.prog xM (k+1) wl 50 [a] h=aj (xX (xS k) 50 wl k false) Tryz.f50 [a] h:=by kernel_rfl
theorem QH (zz:List V) (h:Hp):yO s k wl 50 Tryz.f50 gp 7 m0 ac f5 ⟨(a::b::d::e::o::p::g::l::q::j::u::r::A::y::z::B::D::F::E::zz),h⟩ =
 bm (aQ g j (.lit (.bool false))) h fun v15 h16=>
 gd v15 (
 bm (aa s.P 23 b 1) h16 fun v17 h18=>
 bm (ab s.P 3 v17 h18) h18 fun v19 h20=>
 bm (aa s.P 23 b 1) h20 fun v21 h22=>
 bm (ab s.P 3 v21 h22) h22 fun v23 h24=>
 bm (av s.P .sub 3 v23 (.lit (.int .i64 1))) h24 fun v25 h26=>
 bm (av s.P .and 3 v19 v25) h26 fun v27 h28=>
 bm (av s.P .eql 3 v27 (.lit (.int .i64 0))) h28 fun v29 h30=>
 yO s k wl 50 Tryz.f50 gp 16 m0 ac f5 ⟨(a::b::d::e::o::p::g::l::q::j::v15::(.lit (.bool true))::v17::v19::v21::v23::v25::v27::v29::zz),h30⟩) (
 yO s k wl 50 Tryz.f50 gp 16 m0 ac f5 ⟨(a::b::d::e::o::p::g::l::q::j::v15::(.lit (.bool false))::uu::uu::uu::uu::uu::uu::uu::zz),h16⟩) (
 yO s k wl 50 Tryz.f50 gp 10 m0 ac f5 ⟨(a::b::d::e::o::p::g::l::q::j::v15::v15::uu::y::z::B::D::F::E::zz),h16⟩):=kG
theorem PW (h:Hp):yO s k wl 50 Tryz.f50 gp 16 m0 ac f5 ⟨[a,b,d,e,o,p,g,l,q,j,u,r,A,y,z,B,D,F,E,I,M,R,N,J,T,O,U,Q,L,G],h⟩ =
 bm (aQ r E (.lit (.bool false))) h fun v31 h32=>
 gd v31 (
 bm (aa s.P 23 b 2) h32 fun v33 h34=>
 bm (ab s.P 3 v33 h34) h34 fun v35 h36=>
 bp (yC s k wl 50 false true (.fn (.func 93) [] []) [v35,(.lit (.int .i64 1)),(.lit (.int .i64 16))] h36) fun v37 h38=>
 yO s k wl 50 Tryz.f50 gp 21 m0 ac f5 ⟨[a,b,d,e,o,p,g,l,q,j,u,r,A,y,z,B,D,F,E,v31,(.lit (.bool true)),v33,v35,v37,T,O,U,Q,L,G],h38⟩) (
 yO s k wl 50 Tryz.f50 gp 21 m0 ac f5 ⟨[a,b,d,e,o,p,g,l,q,j,u,r,A,y,z,B,D,F,E,v31,(.lit (.bool false)),uu,uu,uu,T,O,U,Q,L,G],h32⟩) (
 yO s k wl 50 Tryz.f50 gp 19 m0 ac f5 ⟨[a,b,d,e,o,p,g,l,q,j,u,r,A,y,z,B,D,F,E,v31,v31,uu,N,J,T,O,U,Q,L,G],h32⟩):=kG
theorem Qm (h:Hp):yO s k wl 50 Tryz.f50 gp 21 m0 ac f5 ⟨[a,b,d,e,o,p,g,l,q,j,u,r,A,y,z,B,D,F,E,I,M,R,N,J,T,O,U,Q,L,G],h⟩ =
 bm (aQ M J (.lit (.bool false))) h fun v39 h40=>
 gd v39 (
 bm (aa s.P 23 b 3) h40 fun v41 h42=>
 bm (ab s.P 3 v41 h42) h42 fun v43 h44=>
 bp (yC s k wl 50 false true (.fn (.func 93) [] []) [v43,(.lit (.int .i64 0)),(.lit (.int .i64 4))] h44) fun v45 h46=>
 yO s k wl 50 Tryz.f50 gp 26 m0 ac f5 ⟨[a,b,d,e,o,p,g,l,q,j,u,r,A,y,z,B,D,F,E,I,M,R,N,J,v39,(.lit (.bool true)),v41,v43,v45,G],h46⟩) (
 yO s k wl 50 Tryz.f50 gp 26 m0 ac f5 ⟨[a,b,d,e,o,p,g,l,q,j,u,r,A,y,z,B,D,F,E,I,M,R,N,J,v39,(.lit (.bool false)),uu,uu,uu,G],h40⟩) (
 yO s k wl 50 Tryz.f50 gp 24 m0 ac f5 ⟨[a,b,d,e,o,p,g,l,q,j,u,r,A,y,z,B,D,F,E,I,M,R,N,J,v39,v39,uu,Q,L,G],h40⟩):=kG
theorem QR (h:Hp):yO s k wl 50 Tryz.f50 gp 26 m0 ac f5 ⟨[a,b,d,e,o,p,g,l,q,j,u,r,A,y,z,B,D,F,E,I,M,R,N,J,T,O,U,Q,L,G],h⟩ =
 bm (aQ O L (.lit (.bool false))) h fun v47 h48=>
 some (v47,h48):=kG
theorem wO (cx:Cx) (K:Out→St→Option (V×Hp)) (s:St):au cx K f5 .ret s=K .ret s:=by kernel_rfl
-- names: aff,QH,PW,Qm,QR,wO
noncomputable def FY:Code:=al (am Tryz.f66) [1,0]
noncomputable def A1:List Fr:=[.seq (al (am Tryz.f66) [1,1])]
theorem aft (h:Hp):aj (xX s 66 wl k false) Tryz.f66 [a,b] h =
 bm (av s.P .geq 3 b (.lit (.int .i64 0))) h fun v1 h2=>
 gd v1 (
 bp (bh s.P 26 a h2) fun v3 h4=>
 bm (av s.P .lss 3 b v3) h4 fun v5 h6=>
 yO s k wl 66 Tryz.f66 FY 7 h.length ([],[]) A1 ⟨[a,b,uu,uu,(.lit (.bool false)),b,v1,(.lit (.bool true)),b,a,v3,v5,uu],h6⟩) (
 yO s k wl 66 Tryz.f66 FY 7 h.length ([],[]) A1 ⟨[a,b,uu,uu,(.lit (.bool false)),b,v1,(.lit (.bool false)),uu,uu,uu,uu,uu],h2⟩) (
 yO s k wl 66 Tryz.f66 FY 4 h.length ([],[]) A1 ⟨[a,b,uu,uu,(.lit (.bool false)),b,v1,v1,uu,uu,uu,uu,uu],h2⟩):=kB
theorem age (k wl:Nat) (h:Hp):evF Tryz.prog xM (k+1) wl 66 [a,b] h=aj (xX (xS k) 66 wl k false) Tryz.f66 [a,b] h:=by kernel_rfl
theorem Q5 (h:Hp):yO s k wl 66 Tryz.f66 FY 7 m0 ac A1 ⟨[a,b,d,e,o,p,g,l,q,j,u,r,A],h⟩ =
 bm (aQ l r (.lit (.bool false))) h fun v7 h8=>
 some (v7,h8):=kG
theorem wI (cx:Cx) (K:Out→St→Option (V×Hp)) (s:St):au cx K A1 .ret s=K .ret s:=by kernel_rfl
-- names: aft,Q5,wI
noncomputable def pk:Code:=al (am Tryz.f69) [1,0]
noncomputable def nC:List Fr:=[.seq (al (am Tryz.f69) [1,1])]
theorem afq (h:Hp):aj (xX s 69 wl k false) Tryz.f69 [a] h =
 bp (aO a h) fun v1 h2=>
 bm (aa s.P 55 v1 0) h2 fun v3 h4=>
 bm (ab s.P 3 v3 h4) h4 fun v5 h6=>
 bm (av s.P .eql 3 v5 (.lit (.int .i64 5))) h6 fun v7 h8=>
 gd v7 (
 bm (ab s.P 55 v1 h8) h8 fun v9 h10=>
 bp (yC s k wl 69 false true (.fn (.func 110) [] []) [v9] h10) fun v11 h12=>
 bm (vUn .not v11) h12 fun v13 h14=>
 yO s k wl 69 Tryz.f69 pk 7 h2.length ([],[]) nC ⟨[a,v1,(.lit (.bool false)),v3,v5,v7,(.lit (.bool true)),v9,v11,v13,uu,uu,uu,uu,uu,uu],h14⟩) (
 yO s k wl 69 Tryz.f69 pk 7 h2.length ([],[]) nC ⟨[a,v1,(.lit (.bool false)),v3,v5,v7,(.lit (.bool false)),uu,uu,uu,uu,uu,uu,uu,uu,uu],h8⟩) (
 yO s k wl 69 Tryz.f69 pk 5 h2.length ([],[]) nC ⟨[a,v1,(.lit (.bool false)),v3,v5,v7,v7,uu,uu,uu,uu,uu,uu,uu,uu,uu],h8⟩):=kB
theorem aga (k wl:Nat) (h:Hp):evF Tryz.prog xM (k+1) wl 69 [a] h=aj (xX (xS k) 69 wl k false) Tryz.f69 [a] h:=by kernel_rfl
theorem Qd (h:Hp):yO s k wl 69 Tryz.f69 pk 7 m0 ac nC ⟨[a,b,d,e,o,p,g,l,q,j,u,r,A,y,z,B],h⟩ =
 bm (aQ g j (.lit (.bool false))) h fun v15 h16=>
 gd v15 (
 bm (aa s.P 55 b 1) h16 fun v17 h18=>
 bm (ab s.P 3 v17 h18) h18 fun v19 h20=>
 bm (av s.P .eql 3 v19 (.lit (.int .i64 3))) h20 fun v21 h22=>
 yO s k wl 69 Tryz.f69 pk 12 m0 ac nC ⟨[a,b,d,e,o,p,g,l,q,j,v15,(.lit (.bool true)),v17,v19,v21,B],h22⟩) (
 yO s k wl 69 Tryz.f69 pk 12 m0 ac nC ⟨[a,b,d,e,o,p,g,l,q,j,v15,(.lit (.bool false)),uu,uu,uu,B],h16⟩) (
 yO s k wl 69 Tryz.f69 pk 10 m0 ac nC ⟨[a,b,d,e,o,p,g,l,q,j,v15,v15,uu,y,z,B],h16⟩):=kG
theorem QB (h:Hp):yO s k wl 69 Tryz.f69 pk 12 m0 ac nC ⟨[a,b,d,e,o,p,g,l,q,j,u,r,A,y,z,B],h⟩ =
 bm (aQ r z (.lit (.bool false))) h fun v23 h24=>
 some (v23,h24):=kG
theorem xd (cx:Cx) (K:Out→St→Option (V×Hp)) (s:St):au cx K nC .ret s=K .ret s:=by kernel_rfl
-- names: afq,Qd,QB,xd
noncomputable def Fy:Code:=al (am Tryz.f70) [1,0,0]
noncomputable def Bi:List Fr:=[.seq (al (am Tryz.f70) [1,0,1]),.seq (al (am Tryz.f70) [1,1])]
theorem Vw (h:Hp):aj (xX s 70 wl k false) Tryz.f70 [a,b,d] h =
 bp (aO a h) fun v1 h2=>
 bm (ab s.P 23 v1 h2) h2 fun v3 h4=>
 bp (yC s k wl 70 false true (.fn (.func 50) [] []) [v3] h4) fun v5 h6=>
 bm (vUn .not v5) h6 fun v7 h8=>
 gd v7 (
 yO s k wl 70 Tryz.f70 Fy 10 h2.length ([],[]) Bi ⟨[a,b,d,v1,uu,uu,(.lit (.int .i64 0)),v3,v5,v7,(.lit (.bool true)),uu,uu,uu,uu,uu,uu,uu,uu,uu],h8⟩) (
 bm (aa s.P 23 v1 0) h8 fun v9 h10=>
 bm (ab s.P 3 v9 h10) h10 fun v11 h12=>
 bm (av s.P .sub 3 v11 (.lit (.int .i64 1))) h12 fun v13 h14=>
 bp (yC s k wl 70 false true (.fn (.func 93) [] []) [b,(.lit (.int .i64 0)),v13] h14) fun v15 h16=>
 bm (vUn .not v15) h16 fun v17 h18=>
 yO s k wl 70 Tryz.f70 Fy 10 h2.length ([],[]) Bi ⟨[a,b,d,v1,uu,uu,(.lit (.int .i64 0)),v3,v5,v7,(.lit (.bool false)),b,v9,v11,v13,v15,v17,uu,uu,uu],h18⟩) (
 yO s k wl 70 Tryz.f70 Fy 5 h2.length ([],[]) Bi ⟨[a,b,d,v1,uu,uu,(.lit (.int .i64 0)),v3,v5,v7,v7,uu,uu,uu,uu,uu,uu,uu,uu,uu],h8⟩):=kB
theorem VD (k wl:Nat) (h:Hp):evF Tryz.prog xM (k+1) wl 70 [a,b,d] h=aj (xX (xS k) 70 wl k false) Tryz.f70 [a,b,d] h:=by kernel_rfl
theorem rX (h:Hp):yO s k wl 70 Tryz.f70 Fy 10 m0 ac Bi ⟨[a,b,d,e,o,p,g,l,q,j,u,r,A,y,z,B,D,F,E,I],h⟩ =
 bm (aQ u (.lit (.bool true)) D) h fun v19 h20=>
 cnd v19 (
 some ((.lit (.int .i64 (-1))),h20)) (
 bp (yC s k wl 70 false true d [] h20) fun v21 h22=>
 some (v21,h22)):=kG
theorem fE (cx:Cx) (K:Out→St→Option (V×Hp)) (s:St):au cx K Bi .ret s=K .ret s:=by kernel_rfl
-- names: Vw,rX,fE
theorem afw (h:Hp):aj (xX s 71 wl k false) Tryz.f71 [a,b] h =
 bm (ab s.P 23 a h) h fun v1 h2=>
 bm (ab s.P 3 b h2) h2 fun v3 h4=>
 bp (yC s k wl 71 false true (.fn (.func 72) [] []) [v1,v3] h4) fun v5 h6=>
 bm (av s.P .add 3 v5 (.lit (.int .i64 2))) h6 fun v7 h8=>
 some (v7,h8):=kB
theorem afJ (k wl:Nat) (h:Hp):evF Tryz.prog xM (k+1) wl 71 [a,b] h=aj (xX (xS k) 71 wl k false) Tryz.f71 [a,b] h:=by kernel_rfl
-- names: afw,
theorem aeY (h:Hp):aj (xX s 72 wl k false) Tryz.f72 [a,b] h =
 bp (aO a h) fun v1 h2=>
 bm (aa s.P 23 v1 2) h2 fun v3 h4=>
 bm (ab s.P 3 v3 h4) h4 fun v5 h6=>
 bm (av s.P .mul 3 (.lit (.int .i64 2)) v5) h6 fun v7 h8=>
 bm (av s.P .add 3 (.lit (.int .i64 6)) v7) h8 fun v9 h10=>
 bm (aa s.P 23 v1 1) h10 fun v11 h12=>
 bm (ab s.P 3 v11 h12) h12 fun v13 h14=>
 bm (av s.P .add 3 (.lit (.int .i64 3)) v13) h14 fun v15 h16=>
 bm (av s.P .mul 3 b v15) h16 fun v17 h18=>
 bm (av s.P .add 3 v9 v17) h18 fun v19 h20=>
 some (v19,h20):=kB
theorem af8 (k wl:Nat) (h:Hp):evF Tryz.prog xM (k+1) wl 72 [a,b] h=aj (xX (xS k) 72 wl k false) Tryz.f72 [a,b] h:=by kernel_rfl
-- names: aeY,
theorem afr (h:Hp):aj (xX s 88 wl k false) Tryz.f88 [a,b,d] h =
 bp (aO d h) fun v1 h2=>
 bp (some (.own h2.length 0 0,h2++[.rows 0 [] 0 true])) fun v3 h4=>
 bp (yC s k wl 88 false true (.fn (.func 143) [] []) [a,b,(.fn (.func 144) [] [v1])] h4) fun v5 h6=>
 bm (ar v5 0) h6 fun v7 h8=>
 bm (ar v5 1) h8 fun v9 h10=>
 some (v7,h10):=kB
theorem agc (k wl:Nat) (h:Hp):evF Tryz.prog xM (k+1) wl 88 [a,b,d] h=aj (xX (xS k) 88 wl k false) Tryz.f88 [a,b,d] h:=by kernel_rfl
-- names: afr,
noncomputable def Fm:Code:=al (am Tryz.f93) [1,0]
noncomputable def Bw:List Fr:=[.seq (al (am Tryz.f93) [1,1])]
theorem ae5 (h:Hp):aj (xX s 93 wl k false) Tryz.f93 [a,b,d] h =
 bm (av s.P .geq 3 a b) h fun v1 h2=>
 gd v1 (
 bm (av s.P .leq 3 a d) h2 fun v3 h4=>
 yO s k wl 93 Tryz.f93 Fm 7 h.length ([],[]) Bw ⟨[a,b,d,uu,uu,uu,(.lit (.bool false)),a,b,v1,(.lit (.bool true)),a,d,v3,uu],h4⟩) (
 yO s k wl 93 Tryz.f93 Fm 7 h.length ([],[]) Bw ⟨[a,b,d,uu,uu,uu,(.lit (.bool false)),a,b,v1,(.lit (.bool false)),uu,uu,uu,uu],h2⟩) (
 yO s k wl 93 Tryz.f93 Fm 5 h.length ([],[]) Bw ⟨[a,b,d,uu,uu,uu,(.lit (.bool false)),a,b,v1,v1,uu,uu,uu,uu],h2⟩):=kB
theorem afA (k wl:Nat) (h:Hp):evF Tryz.prog xM (k+1) wl 93 [a,b,d] h=aj (xX (xS k) 93 wl k false) Tryz.f93 [a,b,d] h:=by kernel_rfl
theorem PQ (h:Hp):yO s k wl 93 Tryz.f93 Fm 7 m0 ac Bw ⟨[a,b,d,e,o,p,g,l,q,j,u,r,A,y,z],h⟩ =
 bm (aQ u y (.lit (.bool false))) h fun v5 h6=>
 some (v5,h6):=kG
theorem wM (cx:Cx) (K:Out→St→Option (V×Hp)) (s:St):au cx K Bw .ret s=K .ret s:=by kernel_rfl
-- names: ae5,PQ,wM
theorem X1 (h:Hp):aj (xX s 103 wl k false) Tryz.f103 [a] h =
 bp (aO a h) fun v1 h2=>
 bm (ab s.P 23 v1 h2) h2 fun v3 h4=>
 bp (yC s k wl 103 false true (.fn (.func 50) [] []) [v3] h4) fun v5 h6=>
 bm (vUn .not v5) h6 fun v7 h8=>
 cnd v7 (
 some ((.lit (.int .i64 0)),h8)) (
 bm (ab s.P 23 v1 h8) h8 fun v9 h10=>
 bm (aa s.P 23 v1 0) h10 fun v11 h12=>
 bm (ab s.P 3 v11 h12) h12 fun v13 h14=>
 bp (yC s k wl 103 false true (.fn (.func 72) [] []) [v9,v13] h14) fun v15 h16=>
 some (v15,h16)):=kB
theorem abr (k wl:Nat) (h:Hp):evF Tryz.prog xM (k+1) wl 103 [a] h=aj (xX (xS k) 103 wl k false) Tryz.f103 [a] h:=by kernel_rfl
-- names: X1,
theorem Z2 (h:Hp):aj (xX s 104 wl k false) Tryz.f104 [a,b,d] h =
 bp (aw s.P 55 h) fun v1 h2=>
 bm (a9 s.P 55 [(0,a),(2,b),(3,d)]) h2 fun v3 h4=>
 bs (ai s.P wl 55 v1 v3 h4) fun h5=>
 dW [ab s.P 55 v1 h5] h5:=kB
theorem abi (k wl:Nat) (h:Hp):evF Tryz.prog xM (k+1) wl 104 [a,b,d] h=aj (xX (xS k) 104 wl k false) Tryz.f104 [a,b,d] h:=by kernel_rfl
-- names: Z2,
theorem Y1 (h:Hp):aj (xX s 107 wl k false) Tryz.f107 [a,b] h =
 bp (aO a h) fun v1 h2=>
 bp (aO b h2) fun v3 h4=>
 bm (ab s.P 23 v1 h4) h4 fun v5 h6=>
 bm (ab s.P 3 v3 h6) h6 fun v7 h8=>
 bp (yC s k wl 107 false true (.fn (.func 70) [] []) [v5,v7,(.fn (.func 149) [] [v1,v3])] h8) fun v9 h10=>
 some (v9,h10):=kB
theorem adO (k wl:Nat) (h:Hp):evF Tryz.prog xM (k+1) wl 107 [a,b] h=aj (xX (xS k) 107 wl k false) Tryz.f107 [a,b] h:=by kernel_rfl
-- names: Y1,
theorem aaf (h:Hp):aj (xX s 108 wl k false) Tryz.f108 [a,b] h =
 bp (aO a h) fun v1 h2=>
 bp (aO b h2) fun v3 h4=>
 bm (ab s.P 23 v1 h4) h4 fun v5 h6=>
 bm (ab s.P 3 v3 h6) h6 fun v7 h8=>
 bp (yC s k wl 108 false true (.fn (.func 70) [] []) [v5,v7,(.fn (.func 150) [] [v1,v3])] h8) fun v9 h10=>
 some (v9,h10):=kB
theorem aef (k wl:Nat) (h:Hp):evF Tryz.prog xM (k+1) wl 108 [a,b] h=aj (xX (xS k) 108 wl k false) Tryz.f108 [a,b] h:=by kernel_rfl
-- names: aaf,
theorem XA (h:Hp):aj (xX s 109 wl k false) Tryz.f109 [a,b,d] h =
 bp (aO a h) fun v1 h2=>
 bp (aO b h2) fun v3 h4=>
 bp (aO d h4) fun v5 h6=>
 bm (ab s.P 23 v1 h6) h6 fun v7 h8=>
 bm (ab s.P 3 v3 h8) h8 fun v9 h10=>
 bp (yC s k wl 109 false true (.fn (.func 70) [] []) [v7,v9,(.fn (.func 151) [] [v1,v3,v5])] h10) fun v11 h12=>
 some (v11,h12):=kB
theorem aca (k wl:Nat) (h:Hp):evF Tryz.prog xM (k+1) wl 109 [a,b,d] h=aj (xX (xS k) 109 wl k false) Tryz.f109 [a,b,d] h:=by kernel_rfl
-- names: XA,
theorem Y9 (h:Hp):aj (xX s 110 wl k false) Tryz.f110 [a] h =
 bp (aO a h) fun v1 h2=>
 bm (aa s.P 55 v1 6) h2 fun v3 h4=>
 bm (ab s.P 3 v3 h4) h4 fun v5 h6=>
 bm (av s.P .neq 3 v5 (.lit (.int .i64 0))) h6 fun v7 h8=>
 some (v7,h8):=kB
theorem aeK (k wl:Nat) (h:Hp):evF Tryz.prog xM (k+1) wl 110 [a] h=aj (xX (xS k) 110 wl k false) Tryz.f110 [a] h:=by kernel_rfl
-- names: Y9,
theorem V0 (h:Hp):aj (xX s 138 wl k false) Tryz.f138 [a,b,d] h =
 bp (aO d h) fun v1 h2=>
 bp (some (.own h2.length 0 0,h2++[.rows 0 [] 0 true])) fun v3 h4=>
 bp (yC s k wl 138 false true (.fn (.func 143) [] []) [a,b,(.fn (.func 169) [] [v1])] h4) fun v5 h6=>
 bm (ar v5 0) h6 fun v7 h8=>
 bm (ar v5 1) h8 fun v9 h10=>
 some (.tup [v7,v9],h10):=kB
theorem aeG (k wl:Nat) (h:Hp):evF Tryz.prog xM (k+1) wl 138 [a,b,d] h=aj (xX (xS k) 138 wl k false) Tryz.f138 [a,b,d] h:=by kernel_rfl
-- names: V0,
theorem Oo (h:Hp):aj (xX s 143 wl k false) Tryz.f143 [a,b,d] h =
 bp (some (.own h.length 0 0,h++[.rows 0 [] 0 true])) fun v1 h2=>
 bp (yC s k wl 143 false true (.fn (.func 76) [] []) [a] h2) fun v3 h4=>
 bp (yC s k wl 143 false true (.fn (.func 66) [] []) [a,b] h4) fun v5 h6=>
 bm (vUn .not v5) h6 fun v7 h8=>
 cnd v7 (
 some (.tup [v3,(.lit (.int .u64 0))],h8)) (
 bm (ak s.P 26 a b h8) h8 fun v9 h10=>
 bm (ab s.P 46 v9 h10) h10 fun v11 h12=>
 bp (yC s k wl 143 false true d [v11] h12) fun v13 h14=>
 bm (ak s.P 26 v3 b h14) h14 fun v15 h16=>
 bs (ai s.P wl 46 v15 v13 h16) fun h17=>
 bm (ak s.P 26 a b h17) h17 fun v18 h19=>
 bm (ab s.P 46 v18 h19) h19 fun v20 h21=>
 some (.tup [v3,v20],h21)):=kB
theorem Sq (k wl:Nat) (h:Hp):evF Tryz.prog xM (k+1) wl 143 [a,b,d] h=aj (xX (xS k) 143 wl k false) Tryz.f143 [a,b,d] h:=by kernel_rfl
-- names: Oo,
theorem Xj (h:Hp):aj (xX s 144 wl k false) Tryz.f144 [a,b] h =
 bm (ab s.P 46 b h) h fun v1 h2=>
 some (v1,h2):=kB
theorem acw (k wl:Nat) (h:Hp):evF Tryz.prog xM (k+1) wl 144 [a,b] h=aj (xX (xS k) 144 wl k false) Tryz.f144 [a,b] h:=by kernel_rfl
-- names: Xj,
theorem We (h:Hp):aj (xX s 149 wl k false) Tryz.f149 [a,b] h =
 bm (ab s.P 23 a h) h fun v1 h2=>
 bm (ab s.P 3 b h2) h2 fun v3 h4=>
 bp (yC s k wl 149 false true (.fn (.func 72) [] []) [v1,v3] h4) fun v5 h6=>
 some (v5,h6):=kB
theorem abF (k wl:Nat) (h:Hp):evF Tryz.prog xM (k+1) wl 149 [a,b] h=aj (xX (xS k) 149 wl k false) Tryz.f149 [a,b] h:=by kernel_rfl
-- names: We,
theorem VX (h:Hp):aj (xX s 150 wl k false) Tryz.f150 [a,b] h =
 bm (ab s.P 23 a h) h fun v1 h2=>
 bm (ab s.P 3 b h2) h2 fun v3 h4=>
 bp (yC s k wl 150 false true (.fn (.func 72) [] []) [v1,v3] h4) fun v5 h6=>
 bm (av s.P .add 3 v5 (.lit (.int .i64 1))) h6 fun v7 h8=>
 some (v7,h8):=kB
theorem adf (k wl:Nat) (h:Hp):evF Tryz.prog xM (k+1) wl 150 [a,b] h=aj (xX (xS k) 150 wl k false) Tryz.f150 [a,b] h:=by kernel_rfl
-- names: VX,
theorem Xb (h:Hp):aj (xX s 151 wl k false) Tryz.f151 [a,b,d] h =
 bm (ab s.P 23 a h) h fun v1 h2=>
 bm (ab s.P 3 b h2) h2 fun v3 h4=>
 bp (yC s k wl 151 true true (.fn (.func 72) [] []) [v1,v3] h4) fun v5 h6=>
 bm (av s.P .add 3 v5 (.lit (.int .i64 3))) h6 fun v7 h8=>
 stO h.length d (
 bm (ab s.P 46 d h8) h8 fun v9 h10=>
 bm (aa s.P 23 a 1) h10 fun v11 h12=>
 stO h.length v11 (
 bm (ab s.P 3 v11 h12) h12 fun v13 h14=>
 bm (av s.P .sub 3 v13 (.lit (.int .i64 1))) h14 fun v15 h16=>
 bm (fZ s.P 3 46 v15) h16 fun v17 h18=>
 bm (av s.P .and 46 v9 v17) h18 fun v19 h20=>
 bm (fZ s.P 46 3 v19) h20 fun v21 h22=>
 bm (av s.P .add 3 v7 v21) h22 fun v23 h24=>
 some (v23,h24))):=kB
theorem acm (k wl:Nat) (h:Hp):evF Tryz.prog xM (k+1) wl 151 [a,b,d] h=aj (xX (xS k) 151 wl k false) Tryz.f151 [a,b,d] h:=by kernel_rfl
-- names: Xb,
theorem X9 (h:Hp):aj (xX s 169 wl k false) Tryz.f169 [a,b] h =
 bm (ab s.P 46 b h) h fun v1 h2=>
 bm (av s.P .add 46 a v1) h2 fun v3 h4=>
 some (v3,h4):=kB
theorem acQ (k wl:Nat) (h:Hp):evF Tryz.prog xM (k+1) wl 169 [a,b] h=aj (xX (xS k) 169 wl k false) Tryz.f169 [a,b] h:=by kernel_rfl
-- names: X9,
theorem aaC (h:Hp):aj (xX s 191 wl k false) Tryz.f191 [a,b,d,e] h =
 bp (aO d h) fun v1 h2=>
 bp (aO e h2) fun v3 h4=>
 bp (some (.own h4.length 0 0,h4++[.rows 0 [] 0 true])) fun v5 h6=>
 bp (aw s.P 4 h6) fun v7 h8=>
 bs (ai s.P wl 4 v7 (.lit (.bool false)) h8) fun h9=>
 bp (yC s k wl 191 false true (.fn (.func 143) [] []) [a,b,(.fn (.func 219) [] [v1,v7,v3])] h9) fun v10 h11=>
 bm (ar v10 0) h11 fun v12 h13=>
 bm (ar v10 1) h13 fun v14 h15=>
 bm (ab s.P 4 v7 h15) h15 fun v16 h17=>
 some (.tup [v12,v16],h17):=kB
theorem ac7 (k wl:Nat) (h:Hp):evF Tryz.prog xM (k+1) wl 191 [a,b,d,e] h=aj (xX (xS k) 191 wl k false) Tryz.f191 [a,b,d,e] h:=by kernel_rfl
-- names: aaC,
theorem XP (h:Hp):aj (xX s 219 wl k false) Tryz.f219 [a,b,d,e] h =
 bm (ab s.P 46 b h) h fun v1 h2=>
 bm (av s.P .neq 46 a v1) h2 fun v3 h4=>
 cnd v3 (
 some (a,h4)) (
 bs (ai s.P wl 4 d (.lit (.bool true)) h4) fun h5=>
 bm (ab s.P 46 e h5) h5 fun v6 h7=>
 some (v6,h7)):=kB
theorem ab7 (k wl:Nat) (h:Hp):evF Tryz.prog xM (k+1) wl 219 [a,b,d,e] h=aj (xX (xS k) 219 wl k false) Tryz.f219 [a,b,d,e] h:=by kernel_rfl
-- names: XP,
theorem VS (h:Hp):aj (xX s 222 wl k false) Tryz.f222 [a,b] h =
 bm (ab s.P 46 a h) h fun v1 h2=>
 bm (aa s.P 23 b 2) h2 fun v3 h4=>
 bm (ab s.P 3 v3 h4) h4 fun v5 h6=>
 bm (fZ s.P 3 46 v5) h6 fun v7 h8=>
 bm (av s.P .rem 46 v1 v7) h8 fun v9 h10=>
 bm (fZ s.P 46 3 v9) h10 fun v11 h12=>
 bm (av s.P .add 3 (.lit (.int .i64 6)) v11) h12 fun v13 h14=>
 some (v13,h14):=kB
theorem acL (k wl:Nat) (h:Hp):evF Tryz.prog xM (k+1) wl 222 [a,b] h=aj (xX (xS k) 222 wl k false) Tryz.f222 [a,b] h:=by kernel_rfl
-- names: VS,
theorem Wh (h:Hp):aj (xX s 223 wl k false) Tryz.f223 [a,b] h =
 bm (aa s.P 23 a 2) h fun v1 h2=>
 bm (ab s.P 3 v1 h2) h2 fun v3 h4=>
 bm (av s.P .add 3 (.lit (.int .i64 6)) v3) h4 fun v5 h6=>
 bm (ab s.P 46 b h6) h6 fun v7 h8=>
 bm (aa s.P 23 a 2) h8 fun v9 h10=>
 bm (ab s.P 3 v9 h10) h10 fun v11 h12=>
 bm (fZ s.P 3 46 v11) h12 fun v13 h14=>
 bm (av s.P .rem 46 v7 v13) h14 fun v15 h16=>
 bm (fZ s.P 46 3 v15) h16 fun v17 h18=>
 bm (av s.P .add 3 v5 v17) h18 fun v19 h20=>
 some (v19,h20):=kB
theorem acd (k wl:Nat) (h:Hp):evF Tryz.prog xM (k+1) wl 223 [a,b] h=aj (xX (xS k) 223 wl k false) Tryz.f223 [a,b] h:=by kernel_rfl
-- names: Wh,
theorem VW (h:Hp):aj (xX s 203 wl k false) Tryz.f203 [a,b] h =
 bp (aO a h) fun v1 h2=>
 bp (aO b h2) fun v3 h4=>
 bm (ab s.P 23 v1 h4) h4 fun v5 h6=>
 bp (yC s k wl 203 false true (.fn (.func 70) [] []) [v5,(.lit (.int .i64 0)),(.fn (.func 222) [] [v3,v1])] h6) fun v7 h8=>
 some (v7,h8):=kB
theorem ac5 (k wl:Nat) (h:Hp):evF Tryz.prog xM (k+1) wl 203 [a,b] h=aj (xX (xS k) 203 wl k false) Tryz.f203 [a,b] h:=by kernel_rfl
-- names: VW,
theorem Xq (h:Hp):aj (xX s 205 wl k false) Tryz.f205 [a,b] h =
 bp (aO a h) fun v1 h2=>
 bp (aO b h2) fun v3 h4=>
 bm (ab s.P 23 v1 h4) h4 fun v5 h6=>
 bp (yC s k wl 205 false true (.fn (.func 70) [] []) [v5,(.lit (.int .i64 0)),(.fn (.func 223) [] [v1,v3])] h6) fun v7 h8=>
 some (v7,h8):=kB
theorem ab5 (k wl:Nat) (h:Hp):evF Tryz.prog xM (k+1) wl 205 [a,b] h=aj (xX (xS k) 205 wl k false) Tryz.f205 [a,b] h:=by kernel_rfl
-- names: Xq,
end
end Go.Ab
set_option maxRecDepth 100000
set_option linter.unusedVariables false
namespace Go.Ab
open Go.Proofs
section
variable (s:Sys) (k wl:Nat) (m0:Nat) (ac:List Nat×List Nat) (c d g l j o r q y v u B z A p D G E F J M L I N T X U W Q R Y O t4 t1 t2 t3 t0 Z:V)
noncomputable def Ge:Code:=al (am Tryz.f31) [1,0]
noncomputable def C6:List Fr:=[.seq (al (am Tryz.f31) [1,1])]
theorem ae1 (h:Hp):aj (xX s 31 wl k false) Tryz.f31 [c] h =
 bp (aO c h) fun v1 h2=>
 bm (aa s.P 65 v1 0) h2 fun v3 h4=>
 bm (ab s.P 3 v3 h4) h4 fun v5 h6=>
 bm (av s.P .eql 3 v5 (.lit (.int .i64 8))) h6 fun v7 h8=>
 gd v7 (
 bm (aa s.P 65 v1 2) h8 fun v9 h10=>
 bm (ab s.P 55 v9 h10) h10 fun v11 h12=>
 bp (yC s k wl 31 false true (.fn (.func 69) [] []) [v11] h12) fun v13 h14=>
 yO s k wl 31 Tryz.f31 Ge 7 h2.length ([],[]) C6 ⟨[c,v1,(.lit (.bool false)),v3,v5,v7,(.lit (.bool true)),v9,v11,v13,uu],h14⟩) (
 yO s k wl 31 Tryz.f31 Ge 7 h2.length ([],[]) C6 ⟨[c,v1,(.lit (.bool false)),v3,v5,v7,(.lit (.bool false)),uu,uu,uu,uu],h8⟩) (
 yO s k wl 31 Tryz.f31 Ge 5 h2.length ([],[]) C6 ⟨[c,v1,(.lit (.bool false)),v3,v5,v7,v7,uu,uu,uu,uu],h8⟩):=kB
theorem afy (k wl:Nat) (h:Hp):evF Tryz.prog xM (k+1) wl 31 [c] h=aj (xX (xS k) 31 wl k false) Tryz.f31 [c] h:=by kernel_rfl
theorem P7 (h:Hp):yO s k wl 31 Tryz.f31 Ge 7 m0 ac C6 ⟨[c,d,g,l,j,o,r,q,y,v,u],h⟩ =
 bm (aQ r v (.lit (.bool false))) h fun v15 h16=>
 some (v15,h16):=kG
theorem u9 (cx:Cx) (K:Out→St→Option (V×Hp)) (s:St):au cx K C6 .ret s=K .ret s:=by kernel_rfl
-- names: ae1,P7,u9
theorem ae8 (h:Hp):aj (xX s 30 wl k false) Tryz.f30 [c] h =
 bp (aO c h) fun v1 h2=>
 bp (az s.P wl 53 5 [(0,(.lit (.int .i64 2))),(1,(.lit (.int .i64 3))),(2,(.lit (.int .i64 4))),(3,(.lit (.int .i64 5))),(4,(.lit (.int .i64 6)))] h2) fun v3 h4=>
 bm (aa s.P 65 v1 0) h4 fun v5 h6=>
 bm (ab s.P 3 v5 h6) h6 fun v7 h8=>
 bp (yC s k wl 30 false true (.fn (.func 68) [] []) [v3,v7] h8) fun v9 h10=>
 some (v9,h10):=kB
theorem af1 (k wl:Nat) (h:Hp):evF Tryz.prog xM (k+1) wl 30 [c] h=aj (xX (xS k) 30 wl k false) Tryz.f30 [c] h:=by kernel_rfl
-- names: ae8,
theorem Wk (h:Hp):aj (xX s 106 wl k false) Tryz.f106 [c,d] h =
 bm (av s.P .sub 46 c d) h fun v1 h2=>
 bm (fZ s.P 46 3 v1) h2 fun v3 h4=>
 some (v3,h4):=kB
theorem abn (k wl:Nat) (h:Hp):evF Tryz.prog xM (k+1) wl 106 [c,d] h=aj (xX (xS k) 106 wl k false) Tryz.f106 [c,d] h:=by kernel_rfl
-- names: Wk,
noncomputable def xI:Code:=al (am Tryz.f161) [1,0,0]
noncomputable def us:List Fr:=[.seq (al (am Tryz.f161) [1,0,1]),.seq (al (am Tryz.f161) [1,1])]
theorem YX (h:Hp):aj (xX s 161 wl k false) Tryz.f161 [c,d,g] h =
 bm (av s.P .lss 3 g (.lit (.int .i64 2))) h fun v1 h2=>
 gd v1 (
 yO s k wl 161 Tryz.f161 xI 7 h.length ([],[]) us ⟨[c,d,g,uu,uu,uu,(.lit (.int .i64 0)),uu,g,v1,(.lit (.bool true)),uu,uu,uu,uu,uu,uu,uu,uu,uu,uu,uu,uu,uu,uu,uu,uu,uu,uu],h2⟩) (
 bp (yC s k wl 161 false true (.fn (.func 81) [] []) [d,g] h2) fun v3 h4=>
 bm (vUn .not v3) h4 fun v5 h6=>
 yO s k wl 161 Tryz.f161 xI 7 h.length ([],[]) us ⟨[c,d,g,uu,uu,uu,(.lit (.int .i64 0)),uu,g,v1,(.lit (.bool false)),d,g,v3,v5,uu,uu,uu,uu,uu,uu,uu,uu,uu,uu,uu,uu,uu,uu],h6⟩) (
 yO s k wl 161 Tryz.f161 xI 4 h.length ([],[]) us ⟨[c,d,g,uu,uu,uu,(.lit (.int .i64 0)),uu,g,v1,v1,uu,uu,uu,uu,uu,uu,uu,uu,uu,uu,uu,uu,uu,uu,uu,uu,uu,uu],h2⟩):=kB
theorem abR (k wl:Nat) (h:Hp):evF Tryz.prog xM (k+1) wl 161 [c,d,g] h=aj (xX (xS k) 161 wl k false) Tryz.f161 [c,d,g] h:=by kernel_rfl
theorem Lm (h:Hp):yO s k wl 161 Tryz.f161 xI 7 m0 ac us ⟨[c,d,g,l,j,o,r,q,y,v,u,B,z,A,p,D,G,E,F,J,M,L,I,N,T,X,U,W,Q],h⟩ =
 bm (aQ u (.lit (.bool true)) p) h fun v7 h8=>
 cnd v7 (
 some ((.lit (.int .i64 (-1))),h8)) (
 bm (fZ s.P 3 46 g) h8 fun v9 h10=>
 bm (fZ s.P 3 46 d) h10 fun v11 h12=>
 bm (av s.P .add 46 v11 (.lit (.int .u64 1))) h12 fun v13 h14=>
 bm (av s.P .sub 46 v9 (.lit (.int .u64 1))) h14 fun v15 h16=>
 bm (av s.P .rem 46 c v15) h16 fun v17 h18=>
 bm (av s.P .add 46 v13 v17) h18 fun v19 h20=>
 bm (av s.P .rem 46 v19 v9) h20 fun v21 h22=>
 bm (fZ s.P 46 3 v21) h22 fun v23 h24=>
 some (v23,h24)):=kG
theorem ri (cx:Cx) (K:Out→St→Option (V×Hp)) (s:St):au cx K us .ret s=K .ret s:=by kernel_rfl
-- names: YX,Lm,ri
theorem Wu (h:Hp):aj (xX s 192 wl k false) Tryz.f192 [c] h =
 bm (av s.P .and 46 c (.lit (.int .u64 65535))) h fun v1 h2=>
 some (v1,h2):=kB
theorem adX (k wl:Nat) (h:Hp):evF Tryz.prog xM (k+1) wl 192 [c] h=aj (xX (xS k) 192 wl k false) Tryz.f192 [c] h:=by kernel_rfl
-- names: Wu,
noncomputable def I9:Code:=al (am Tryz.f195) [1,0,1,0]
noncomputable def ED:Code:=al (am Tryz.f195) [1,0,1,0,0]
noncomputable def Es:Code:=al (am Tryz.f195) [1,0,1,0,1]
noncomputable def AR:List Fr:=[.block 0,.seq (al (am Tryz.f195) [1,1])]
theorem wY:I9 = .rangeFunc (.tmp 5) #[6] ED Es:=by kernel_rfl
theorem Rx (h:Hp):aj (xX s 195 wl k false) Tryz.f195 [c] h =
 bp (aw s.P 3 h) fun v1 h2=>
 bp (yC s k wl 195 false true (.fn (.func 220) [] []) [c] h2) fun v3 h4=>
 a7 (xX s 195 wl k false) I9 none (au (xX s 195 wl k false) (aC s.P Tryz.f195) AR) ⟨[c,uu,v1,uu,c,v3,uu,uu],h4⟩:=kB
theorem WG (k wl:Nat) (h:Hp):evF Tryz.prog xM (k+1) wl 195 [c] h=aj (xX (xS k) 195 wl k false) Tryz.f195 [c] h:=by kernel_rfl
theorem Tc (P:Program) (h:Hp):aC P Tryz.f195 .ret ⟨[c,d,g,l,j,o,r,q],h⟩=dW [ab P 3 g h] h:=by kernel_rfl
theorem EN (s:Sys) (k wl:Nat) (zz:List V) (h:Hp):au (xX s 195 wl k false) (aC s.P Tryz.f195) AR .norm ⟨(c::d::g::zz),h⟩ =
 bs (ai s.P wl 3 g (.lit (.int .i64 (-1))) h) fun h5=>
 dW [ab s.P 3 g h5] h5:=kR
theorem ii (s:Sys) (K:Out→St→Option (V×Hp)) (k wl:Nat) (rd:Bool) (h:Hp):au (xX s 195 wl k rd) K [.seq Es] .norm ⟨[c,d,g,l,j,o,r,q],h⟩ =
 bs (ai s.P wl 3 g l h) fun h6=>
 K .ret ⟨[c,d,g,l,j,o,r,l],h6⟩:=kR
theorem gV (s:Sys) (K:Out→St→Option (V×Hp)) (k wl:Nat) (rd:Bool) (h:Hp):au (xX s 195 wl k rd) K [.seq ED] .norm ⟨[c,d,g,l,j,o,r,q],h⟩ =
 K .norm ⟨[c,d,g,r,j,o,r,q],h⟩:=kR
theorem na (cx:Cx) (K:Out→St→Option (V×Hp)) (s:St):au cx K AR .ret s=K .ret s:=by kernel_rfl
-- names: Rx,Tc,EN,ii,gV,na
-- range over a function at [1,0,1,0]
theorem WM (h:Hp):aj (xX s 213 wl k false) Tryz.f213 [c] h =
 bm (av s.P .shr 46 c (.lit (.int .u64 16))) h fun v1 h2=>
 some (v1,h2):=kB
theorem abS (k wl:Nat) (h:Hp):evF Tryz.prog xM (k+1) wl 213 [c] h=aj (xX (xS k) 213 wl k false) Tryz.f213 [c] h:=by kernel_rfl
-- names: WM,
noncomputable def AC:Code:=al (am Tryz.f214) [1,0,0]
noncomputable def ug:List Fr:=[.seq (al (am Tryz.f214) [1,0,1]),.seq (al (am Tryz.f214) [1,1])]
theorem ZE (h:Hp):aj (xX s 214 wl k false) Tryz.f214 [c,d] h =
 bm (av s.P .lss 3 d (.lit (.int .i64 0))) h fun v1 h2=>
 gd v1 (
 yO s k wl 214 Tryz.f214 AC 5 h.length ([],[]) ug ⟨[c,d,uu,uu,(.lit (.int .u64 0)),d,v1,(.lit (.bool true)),uu,uu,uu,uu,uu,uu,uu,uu],h2⟩) (
 bm (av s.P .geq 3 d (.lit (.int .i64 16))) h2 fun v3 h4=>
 yO s k wl 214 Tryz.f214 AC 5 h.length ([],[]) ug ⟨[c,d,uu,uu,(.lit (.int .u64 0)),d,v1,(.lit (.bool false)),d,v3,uu,uu,uu,uu,uu,uu],h4⟩) (
 yO s k wl 214 Tryz.f214 AC 4 h.length ([],[]) ug ⟨[c,d,uu,uu,(.lit (.int .u64 0)),d,v1,v1,uu,uu,uu,uu,uu,uu,uu,uu],h2⟩):=kB
theorem acR (k wl:Nat) (h:Hp):evF Tryz.prog xM (k+1) wl 214 [c,d] h=aj (xX (xS k) 214 wl k false) Tryz.f214 [c,d] h:=by kernel_rfl
theorem KB (h:Hp):yO s k wl 214 Tryz.f214 AC 5 m0 ac ug ⟨[c,d,g,l,j,o,r,q,y,v,u,B,z,A,p,D],h⟩ =
 bm (aQ q (.lit (.bool true)) v) h fun v5 h6=>
 cnd v5 (
 some (c,h6)) (
 bm (av s.P .shl 46 (.lit (.int .u64 1)) d) h6 fun v7 h8=>
 bm (av s.P .or 46 c v7) h8 fun v9 h10=>
 some (v9,h10)):=kG
theorem uD (cx:Cx) (K:Out→St→Option (V×Hp)) (s:St):au cx K ug .ret s=K .ret s:=by kernel_rfl
-- names: ZE,KB,uD
theorem YN (h:Hp):aj (xX s 216 wl k false) Tryz.f216 [c] h =
 bp (yC s k wl 216 false true (.fn (.func 192) [] []) [c] h) fun v1 h2=>
 bp (yC s k wl 216 false true (.fn (.func 213) [] []) [c] h2) fun v3 h4=>
 bm (av s.P .add 46 v3 (.lit (.int .u64 1))) h4 fun v5 h6=>
 bm (av s.P .sub 46 v1 (.lit (.int .u64 1))) h6 fun v7 h8=>
 bm (av s.P .and 46 v1 v7) h8 fun v9 h10=>
 bp (yC s k wl 216 false true (.fn (.func 233) [] []) [v5,v9] h10) fun v11 h12=>
 bp (yC s k wl 216 false true (.fn (.func 195) [] []) [v1] h12) fun v13 h14=>
 some (.tup [v11,v13],h14):=kB
theorem ac8 (k wl:Nat) (h:Hp):evF Tryz.prog xM (k+1) wl 216 [c] h=aj (xX (xS k) 216 wl k false) Tryz.f216 [c] h:=by kernel_rfl
-- names: YN,
theorem aap (h:Hp):aj (xX s 218 wl k false) Tryz.f218 [c] h =
 bp (yC s k wl 218 false true (.fn (.func 213) [] []) [c] h) fun v1 h2=>
 bm (av s.P .add 46 v1 (.lit (.int .u64 1))) h2 fun v3 h4=>
 bp (yC s k wl 218 false true (.fn (.func 233) [] []) [v3,(.lit (.int .u64 0))] h4) fun v5 h6=>
 some (v5,h6):=kB
theorem ac9 (k wl:Nat) (h:Hp):evF Tryz.prog xM (k+1) wl 218 [c] h=aj (xX (xS k) 218 wl k false) Tryz.f218 [c] h:=by kernel_rfl
-- names: aap,
theorem SH (h:Hp):aj (xX s 220 wl k false) Tryz.f220 [c] h =
 bp (aO c h) fun v1 h2=>
 some ((.fn (.func 234) [] [v1]),h2):=kB
theorem ZI (k wl:Nat) (h:Hp):evF Tryz.prog xM (k+1) wl 220 [c] h=aj (xX (xS k) 220 wl k false) Tryz.f220 [c] h:=by kernel_rfl
-- names: SH,
theorem ZY (h:Hp):aj (xX s 233 wl k false) Tryz.f233 [c,d] h =
 bm (av s.P .shl 46 c (.lit (.int .u64 16))) h fun v1 h2=>
 bm (av s.P .and 46 d (.lit (.int .u64 65535))) h2 fun v3 h4=>
 bm (av s.P .or 46 v1 v3) h4 fun v5 h6=>
 some (v5,h6):=kB
theorem ab4 (k wl:Nat) (h:Hp):evF Tryz.prog xM (k+1) wl 233 [c,d] h=aj (xX (xS k) 233 wl k false) Tryz.f233 [c,d] h:=by kernel_rfl
-- names: ZY,
noncomputable def lS:Code:=al (am Tryz.f234) [1,0,0]
noncomputable def Ax:List Fr:=[.block 0]
noncomputable def xE:Code:=al (am Tryz.f234) [1,0,0,1,1,0,0,1,0]
noncomputable def rK:List Fr:=[.seq (al (am Tryz.f234) [1,0,0,1,1,0,0,1,1]),.block 1,.seq (al (am Tryz.f234) [1,0,0,1,1,1])]
theorem TE (h:Hp):aj (xX s 234 wl k false) Tryz.f234 [c,d] h =
 yI s k wl 234 Tryz.f234 lS h.length Ax k ⟨[(V.kill h.length c),(V.kill h.length d),(V.kill h.length uu),(V.kill h.length uu),(.lit (.int .i64 0)),.junk,.junk,.junk,.junk,.junk,.junk,.junk,.junk,.junk,.junk,.junk,.junk,.junk,.junk],bZ h.length h⟩:=kB
theorem Wo (k wl:Nat) (h:Hp):evF Tryz.prog xM (k+1) wl 234 [c,d] h=aj (xX (xS k) 234 wl k false) Tryz.f234 [c,d] h:=by kernel_rfl
theorem Vf (P:Program) (h:Hp):aC P Tryz.f234 .ret ⟨[c,d,g,l,j,o,r,q,y,v,u,B,z,A,p,D,G,E,F],h⟩=some (.tup [],h):=by kernel_rfl
theorem K4 (s:Sys) (K:Out→St→Option (V×Hp)) (k wl:Nat) (rd:Bool) (n n0:Nat) (h:Hp):itX (xX s 234 wl k rd) lS n0 K (n+1) ⟨[c,d,g,l,j,o,r,q,y,v,u,B,z,A,p,D,G,E,F],h⟩ =
 bm (av s.P .lss 3 j (.lit (.int .i64 16))) h fun v1 h2=>
 cnd v1 (
 bm (ab s.P 46 d h2) h2 fun v3 h4=>
 bm (av s.P .shr 46 v3 j) h4 fun v5 h6=>
 bm (av s.P .and 46 v5 (.lit (.int .u64 1))) h6 fun v7 h8=>
 bm (av s.P .eql 46 v7 (.lit (.int .u64 1))) h8 fun v9 h10=>
 gd v9 (
 bp (cN (xX s 234 wl k rd) false true c [j] h10) fun v11 h12=>
 bm (vUn .not v11) h12 fun v13 h14=>
 dM (xX s 234 wl k rd) xE 10 h2.length ([],[]) (au (xX s 234 wl k rd) (bK (xX s 234 wl k rd) lS n0 K n) rK) ⟨[c,d,g,j,j,v1,j,v3,j,v5,v7,v9,(.lit (.bool true)),c,j,v11,v13,E,F],h14⟩) (
 dM (xX s 234 wl k rd) xE 10 h2.length ([],[]) (au (xX s 234 wl k rd) (bK (xX s 234 wl k rd) lS n0 K n) rK) ⟨[c,d,g,j,j,v1,j,v3,j,v5,v7,v9,(.lit (.bool false)),uu,uu,uu,uu,E,F],h10⟩) (
 dM (xX s 234 wl k rd) xE 7 h2.length ([],[]) (au (xX s 234 wl k rd) (bK (xX s 234 wl k rd) lS n0 K n) rK) ⟨[c,d,g,j,j,v1,j,v3,j,v5,v7,v9,v9,uu,p,D,G,E,F],h10⟩)) (
 K (.exit 0) ⟨[(V.kill n0 c),(V.kill n0 d),(V.kill n0 g),(V.kill n0 l),.junk,.junk,.junk,.junk,.junk,.junk,.junk,.junk,.junk,.junk,.junk,.junk,.junk,.junk,.junk],bZ n0 h2⟩):=kI
theorem D0 (s:Sys) (k wl:Nat) (zz:List V) (h:Hp):au (xX s 234 wl k false) (aC s.P Tryz.f234) Ax (.exit 0) ⟨(c::zz),h⟩ =
 some (.tup [],h):=kR
theorem DV (s:Sys) (K:Out→St→Option (V×Hp)) (k wl:Nat) (rd:Bool) (n n0:Nat) (m0:Nat) (ac:List Nat×List Nat) (h:Hp):dM (xX s 234 wl k rd) xE 10 m0 ac (au (xX s 234 wl k rd) (bK (xX s 234 wl k rd) lS n0 K n) rK) ⟨[c,d,g,l,j,o,r,q,y,v,u,B,z,A,p,D,G,E,F],h⟩ =
 bm (aQ z G (.lit (.bool false))) h fun v15 h16=>
 cnd v15 (
 K .ret ⟨[c,d,g,l,j,o,r,q,y,v,u,B,z,A,p,D,G,v15,F],h16⟩) (
 bm (av s.P .add 3 j (.lit (.int .i64 1))) h16 fun v17 h18=>
 itX (xX s 234 wl k rd) lS n0 K n ⟨[(V.kill n0 c),(V.kill n0 d),(V.kill n0 g),(V.kill n0 l),(V.kill n0 v17),.junk,.junk,.junk,.junk,.junk,.junk,.junk,.junk,.junk,.junk,.junk,.junk,.junk,.junk],bZ n0 h18⟩):=kG
theorem mZ (cx:Cx) (K:Out→St→Option (V×Hp)) (s:St):au cx K Ax .ret s=K .ret s:=by kernel_rfl
theorem mN (cx:Cx) (K:Out→St→Option (V×Hp)) (s:St):au cx K rK .ret s=K .ret s:=by kernel_rfl
-- names: TE,Vf,K4,D0,DV,mZ,mN
theorem YG (h:Hp):aj (xX s 193 wl k false) Tryz.f193 [c,d,g] h =
 bp (aO c h) fun v1 h2=>
 bp (aw s.P 55 h2) fun v3 h4=>
 bm (aa s.P 55 v1 0) h4 fun v5 h6=>
 bm (ab s.P 3 v5 h6) h6 fun v7 h8=>
 bm (aa s.P 55 v1 2) h8 fun v9 h10=>
 bm (ab s.P 3 v9 h10) h10 fun v11 h12=>
 bm (a9 s.P 55 [(0,v7),(2,v11),(3,g),(6,d)]) h12 fun v13 h14=>
 bs (ai s.P wl 55 v3 v13 h14) fun h15=>
 dW [ab s.P 55 v3 h15] h15:=kB
theorem ab0 (k wl:Nat) (h:Hp):evF Tryz.prog xM (k+1) wl 193 [c,d,g] h=aj (xX (xS k) 193 wl k false) Tryz.f193 [c,d,g] h:=by kernel_rfl
-- names: YG,
end
end Go.Ab
set_option maxRecDepth 100000
set_option linter.unusedVariables false
namespace Go.Ab
open Go.Proofs
section
variable (s:Sys) (k wl:Nat) (m0:Nat) (ac:List Nat×List Nat) (a b d e j f g l u v o q r y x E z F A B G D I J L M T O U Q N R Y t0 Z X W t5 t6 t7 t8 t9 ta tb tc td te tf t2 tg t3 t4 t1 tk ti th tl tm tn tp tq tr ts tt tu tv tw tx ty tz tA tj:V)
noncomputable def bW:Code:=al (am Tryz.f42) [1,0]
noncomputable def bV:List Fr:=[.seq (al (am Tryz.f42) [1,1])]
theorem afi (h:Hp):aj (xX s 42 wl k false) Tryz.f42 [a,b,d] h =
 bp (aO a h) fun v1 h2=>
 bm (aa s.P 48 v1 0) h2 fun v3 h4=>
 bm (ab s.P 3 v3 h4) h4 fun v5 h6=>
 bm (av s.P .eql 3 v5 (.lit (.int .i64 0))) h6 fun v7 h8=>
 gd v7 (
 bm (aa s.P 48 v1 1) h8 fun v9 h10=>
 bm (ab s.P 3 v9 h10) h10 fun v11 h12=>
 bp (yC s k wl 42 false true (.fn (.func 81) [] []) [v11,b] h12) fun v13 h14=>
 yO s k wl 42 Tryz.f42 bW 8 h2.length ([],[]) bV ⟨[a,b,d,v1,uu,uu,(.lit (.bool false)),v3,v5,v7,(.lit (.bool true)),v9,v11,b,v13,uu,uu,uu,uu,uu,uu,uu,uu,uu,uu,uu,uu,uu,uu,uu,uu,uu,uu,uu,uu,uu,uu],h14⟩) (
 yO s k wl 42 Tryz.f42 bW 8 h2.length ([],[]) bV ⟨[a,b,d,v1,uu,uu,(.lit (.bool false)),v3,v5,v7,(.lit (.bool false)),uu,uu,uu,uu,uu,uu,uu,uu,uu,uu,uu,uu,uu,uu,uu,uu,uu,uu,uu,uu,uu,uu,uu,uu,uu,uu],h8⟩) (
 yO s k wl 42 Tryz.f42 bW 5 h2.length ([],[]) bV ⟨[a,b,d,v1,uu,uu,(.lit (.bool false)),v3,v5,v7,v7,uu,uu,uu,uu,uu,uu,uu,uu,uu,uu,uu,uu,uu,uu,uu,uu,uu,uu,uu,uu,uu,uu,uu,uu,uu,uu],h8⟩):=kB
theorem agd (k wl:Nat) (h:Hp):evF Tryz.prog xM (k+1) wl 42 [a,b,d] h=aj (xX (xS k) 42 wl k false) Tryz.f42 [a,b,d] h:=by kernel_rfl
theorem QF (zz:List V) (h:Hp):yO s k wl 42 Tryz.f42 bW 8 m0 ac bV ⟨(a::b::d::e::j::f::g::l::u::v::o::q::r::y::x::E::z::F::A::B::G::D::I::J::L::M::zz),h⟩ =
 bm (aQ o x (.lit (.bool false))) h fun v15 h16=>
 gd v15 (
 yO s k wl 42 Tryz.f42 bW 19 m0 ac bV ⟨(a::b::d::e::j::f::g::l::u::v::o::q::r::y::x::v15::(.lit (.bool true))::uu::uu::uu::uu::uu::uu::uu::uu::uu::zz),h16⟩) (
 bm (aa s.P 48 e 0) h16 fun v17 h18=>
 bm (ab s.P 3 v17 h18) h18 fun v19 h20=>
 bm (av s.P .eql 3 v19 (.lit (.int .i64 1))) h20 fun v21 h22=>
 yO s k wl 42 Tryz.f42 bW 14 m0 ac bV ⟨(a::b::d::e::j::f::g::l::u::v::o::q::r::y::x::v15::(.lit (.bool false))::v17::v19::v21::v21::D::I::J::L::M::zz),h22⟩) (
 yO s k wl 42 Tryz.f42 bW 11 m0 ac bV ⟨(a::b::d::e::j::f::g::l::u::v::o::q::r::y::x::v15::v15::uu::A::B::G::D::I::J::L::M::zz),h16⟩):=kG
theorem QS (h:Hp):yO s k wl 42 Tryz.f42 bW 19 m0 ac bV ⟨[a,b,d,e,j,f,g,l,u,v,o,q,r,y,x,E,z,F,A,B,G,D,I,J,L,M,T,O,U,Q,N,R,Y,t0,Z,X,W],h⟩ =
 bm (aQ z (.lit (.bool true)) M) h fun v23 h24=>
 gd v23 (
 yO s k wl 42 Tryz.f42 bW 24 m0 ac bV ⟨[a,b,d,e,j,f,g,l,u,v,o,q,r,y,x,E,z,F,A,B,G,D,I,J,L,M,v23,(.lit (.bool true)),uu,uu,uu,R,Y,t0,Z,X,W],h24⟩) (
 bm (aa s.P 48 e 0) h24 fun v25 h26=>
 bm (ab s.P 3 v25 h26) h26 fun v27 h28=>
 bm (av s.P .eql 3 v27 (.lit (.int .i64 2))) h28 fun v29 h30=>
 yO s k wl 42 Tryz.f42 bW 24 m0 ac bV ⟨[a,b,d,e,j,f,g,l,u,v,o,q,r,y,x,E,z,F,A,B,G,D,I,J,L,M,v23,(.lit (.bool false)),v25,v27,v29,R,Y,t0,Z,X,W],h30⟩) (
 yO s k wl 42 Tryz.f42 bW 22 m0 ac bV ⟨[a,b,d,e,j,f,g,l,u,v,o,q,r,y,x,E,z,F,A,B,G,D,I,J,L,M,v23,v23,uu,Q,N,R,Y,t0,Z,X,W],h24⟩):=kG
theorem PH (zz:List V) (h:Hp):yO s k wl 42 Tryz.f42 bW 14 m0 ac bV ⟨(a::b::d::e::j::f::g::l::u::v::o::q::r::y::x::E::z::F::A::B::G::D::I::J::L::zz),h⟩ =
 gd G (
 bm (aa s.P 48 e 1) h fun v31 h32=>
 bm (ab s.P 3 v31 h32) h32 fun v33 h34=>
 bp (yC s k wl 42 false true (.fn (.func 81) [] []) [v33,d] h34) fun v35 h36=>
 yO s k wl 42 Tryz.f42 bW 18 m0 ac bV ⟨(a::b::d::e::j::f::g::l::u::v::o::q::r::y::x::E::z::F::A::B::(.lit (.bool true))::v31::v33::d::v35::zz),h36⟩) (
 yO s k wl 42 Tryz.f42 bW 18 m0 ac bV ⟨(a::b::d::e::j::f::g::l::u::v::o::q::r::y::x::E::z::F::A::B::(.lit (.bool false))::uu::uu::uu::uu::zz),h⟩) (
 yO s k wl 42 Tryz.f42 bW 15 m0 ac bV ⟨(a::b::d::e::j::f::g::l::u::v::o::q::r::y::x::E::z::F::A::B::G::uu::I::J::L::zz),h⟩):=kG
theorem Q1 (h:Hp):yO s k wl 42 Tryz.f42 bW 24 m0 ac bV ⟨[a,b,d,e,j,f,g,l,u,v,o,q,r,y,x,E,z,F,A,B,G,D,I,J,L,M,T,O,U,Q,N,R,Y,t0,Z,X,W],h⟩ =
 bm (aQ O (.lit (.bool true)) N) h fun v37 h38=>
 gd v37 (
 yO s k wl 42 Tryz.f42 bW 29 m0 ac bV ⟨[a,b,d,e,j,f,g,l,u,v,o,q,r,y,x,E,z,F,A,B,G,D,I,J,L,M,T,O,U,Q,N,v37,(.lit (.bool true)),uu,uu,uu,W],h38⟩) (
 bm (aa s.P 48 e 0) h38 fun v39 h40=>
 bm (ab s.P 3 v39 h40) h40 fun v41 h42=>
 bm (av s.P .eql 3 v41 (.lit (.int .i64 3))) h42 fun v43 h44=>
 yO s k wl 42 Tryz.f42 bW 29 m0 ac bV ⟨[a,b,d,e,j,f,g,l,u,v,o,q,r,y,x,E,z,F,A,B,G,D,I,J,L,M,T,O,U,Q,N,v37,(.lit (.bool false)),v39,v41,v43,W],h44⟩) (
 yO s k wl 42 Tryz.f42 bW 27 m0 ac bV ⟨[a,b,d,e,j,f,g,l,u,v,o,q,r,y,x,E,z,F,A,B,G,D,I,J,L,M,T,O,U,Q,N,v37,v37,uu,Z,X,W],h38⟩):=kG
theorem Qn (zz:List V) (h:Hp):yO s k wl 42 Tryz.f42 bW 18 m0 ac bV ⟨(a::b::d::e::j::f::g::l::u::v::o::q::r::y::x::E::z::F::A::B::G::D::I::J::L::M::zz),h⟩ =
 gd z (
 yO s k wl 42 Tryz.f42 bW 19 m0 ac bV ⟨(a::b::d::e::j::f::g::l::u::v::o::q::r::y::x::E::(.lit (.bool true))::F::A::B::G::D::I::J::L::uu::zz),h⟩) (
 bm (aQ G L (.lit (.bool false))) h fun v45 h46=>
 yO s k wl 42 Tryz.f42 bW 19 m0 ac bV ⟨(a::b::d::e::j::f::g::l::u::v::o::q::r::y::x::E::(.lit (.bool false))::F::A::B::G::D::I::J::L::v45::zz),h46⟩) (
 yO s k wl 42 Tryz.f42 bW 19 m0 ac bV ⟨(a::b::d::e::j::f::g::l::u::v::o::q::r::y::x::E::z::F::A::B::G::D::I::J::L::uu::zz),h⟩):=kG
theorem QT (zz:List V) (h:Hp):yO s k wl 42 Tryz.f42 bW 15 m0 ac bV ⟨(a::b::d::e::j::f::g::l::u::v::o::q::r::y::x::E::z::F::A::B::G::D::I::J::L::zz),h⟩ =
 gd G (
 bm (ab s.P 3 D h) h fun v47 h48=>
 bp (yC s k wl 42 false true (.fn (.func 81) [] []) [v47,d] h48) fun v49 h50=>
 yO s k wl 42 Tryz.f42 bW 18 m0 ac bV ⟨(a::b::d::e::j::f::g::l::u::v::o::q::r::y::x::E::z::F::A::B::(.lit (.bool true))::D::v47::d::v49::zz),h50⟩) (
 yO s k wl 42 Tryz.f42 bW 18 m0 ac bV ⟨(a::b::d::e::j::f::g::l::u::v::o::q::r::y::x::E::z::F::A::B::(.lit (.bool false))::D::uu::uu::uu::zz),h⟩) (
 yO s k wl 42 Tryz.f42 bW 16 m0 ac bV ⟨(a::b::d::e::j::f::g::l::u::v::o::q::r::y::x::E::z::F::A::B::G::D::uu::J::L::zz),h⟩):=kG
theorem Ql (h:Hp):yO s k wl 42 Tryz.f42 bW 29 m0 ac bV ⟨[a,b,d,e,j,f,g,l,u,v,o,q,r,y,x,E,z,F,A,B,G,D,I,J,L,M,T,O,U,Q,N,R,Y,t0,Z,X,W],h⟩ =
 bm (aQ Y (.lit (.bool true)) X) h fun v51 h52=>
 some (v51,h52):=kG
theorem Qj (zz:List V) (h:Hp):yO s k wl 42 Tryz.f42 bW 16 m0 ac bV ⟨(a::b::d::e::j::f::g::l::u::v::o::q::r::y::x::E::z::F::A::B::G::D::I::J::L::zz),h⟩ =
 gd G (
 bp (yC s k wl 42 false true (.fn (.func 81) [] []) [I,d] h) fun v53 h54=>
 yO s k wl 42 Tryz.f42 bW 18 m0 ac bV ⟨(a::b::d::e::j::f::g::l::u::v::o::q::r::y::x::E::z::F::A::B::(.lit (.bool true))::D::I::d::v53::zz),h54⟩) (
 yO s k wl 42 Tryz.f42 bW 18 m0 ac bV ⟨(a::b::d::e::j::f::g::l::u::v::o::q::r::y::x::E::z::F::A::B::(.lit (.bool false))::D::I::uu::uu::zz),h⟩) (
 yO s k wl 42 Tryz.f42 bW 17 m0 ac bV ⟨(a::b::d::e::j::f::g::l::u::v::o::q::r::y::x::E::z::F::A::B::G::D::I::uu::L::zz),h⟩):=kG
theorem QJ (zz:List V) (h:Hp):yO s k wl 42 Tryz.f42 bW 17 m0 ac bV ⟨(a::b::d::e::j::f::g::l::u::v::o::q::r::y::x::E::z::F::A::B::G::D::I::J::L::zz),h⟩ =
 gd G (
 bp (yC s k wl 42 false true (.fn (.func 81) [] []) [I,J] h) fun v55 h56=>
 yO s k wl 42 Tryz.f42 bW 18 m0 ac bV ⟨(a::b::d::e::j::f::g::l::u::v::o::q::r::y::x::E::z::F::A::B::(.lit (.bool true))::D::I::J::v55::zz),h56⟩) (
 yO s k wl 42 Tryz.f42 bW 18 m0 ac bV ⟨(a::b::d::e::j::f::g::l::u::v::o::q::r::y::x::E::z::F::A::B::(.lit (.bool false))::D::I::J::uu::zz),h⟩) (
 yO s k wl 42 Tryz.f42 bW 18 m0 ac bV ⟨(a::b::d::e::j::f::g::l::u::v::o::q::r::y::x::E::z::F::A::B::G::D::I::J::uu::zz),h⟩):=kG
theorem wU (cx:Cx) (K:Out→St→Option (V×Hp)) (s:St):au cx K bV .ret s=K .ret s:=by kernel_rfl
-- names: afi,QF,QS,PH,Q1,Qn,QT,Ql,Qj,QJ,wU
noncomputable def E0:Code:=al (am Tryz.f59) [1,1,0,1,0,0]
noncomputable def Gf:List Fr:=[.block 0,.seq (al (am Tryz.f59) [1,1,1])]
theorem aci (h:Hp):aj (xX s 59 wl k false) Tryz.f59 [a] h =
 bp (aO a h) fun v1 h2=>
 bp (some (.own h2.length 0 0,h2++[.rows 0 [] 0 true])) fun v3 h4=>
 bp (some (.own h4.length 0 0,h4++[.rows 0 [] 0 true])) fun v5 h6=>
 bm (ab s.P 23 v1 h6) h6 fun v7 h8=>
 bp (yC s k wl 59 false true (.fn (.func 103) [] []) [v7] h8) fun v9 h10=>
 yI s k wl 59 Tryz.f59 E0 h10.length Gf k ⟨[(V.kill h10.length a),(V.kill h10.length v1),(V.kill h10.length v3),(V.kill h10.length v5),(V.kill h10.length v7),(V.kill h10.length v9),(.lit (.int .i64 0)),.junk,.junk,.junk,.junk,.junk,(V.kill h10.length uu)],bZ h10.length h10⟩:=kB
theorem afg (k wl:Nat) (h:Hp):evF Tryz.prog xM (k+1) wl 59 [a] h=aj (xX (xS k) 59 wl k false) Tryz.f59 [a] h:=by kernel_rfl
theorem acv (P:Program) (h:Hp):aC P Tryz.f59 .ret ⟨[a,b,d,e,j,f,g,l,u,v,o,q,r],h⟩=some (d,h):=by kernel_rfl
theorem PZ (s:Sys) (K:Out→St→Option (V×Hp)) (k wl:Nat) (rd:Bool) (n n0:Nat) (h:Hp):itX (xX s 59 wl k rd) E0 n0 K (n+1) ⟨[a,b,d,e,j,f,g,l,u,v,o,q,r],h⟩ =
 bm (av s.P .lss 3 g f) h fun v11 h12=>
 cnd v11 (
 bp (az s.P wl 26 1 [(0,(.lit (.int .u64 0)))] h12) fun v13 h14=>
 bp (lF s.P wl 26 26 e v13 h14) fun v15 h16=>
 bm (av s.P .add 3 g (.lit (.int .i64 1))) h16 fun v17 h18=>
 itX (xX s 59 wl k rd) E0 n0 K n ⟨[(V.kill n0 a),(V.kill n0 b),(V.kill n0 d),(V.kill n0 v15),(V.kill n0 j),(V.kill n0 f),(V.kill n0 v17),.junk,.junk,.junk,.junk,.junk,(V.kill n0 r)],bZ n0 h18⟩) (
 K (.exit 0) ⟨[(V.kill n0 a),(V.kill n0 b),(V.kill n0 d),(V.kill n0 e),(V.kill n0 j),(V.kill n0 f),.junk,.junk,.junk,.junk,.junk,.junk,(V.kill n0 r)],bZ n0 h12⟩):=kI
theorem JT (h:Hp):au (xX s 59 wl k false) (aC s.P Tryz.f59) Gf (.exit 0) ⟨[a,b,d,e,j,f,g,l,u,v,o,q,r],h⟩ =
 some (e,h):=kR
theorem oT (cx:Cx) (K:Out→St→Option (V×Hp)) (s:St):au cx K Gf .ret s=K .ret s:=by kernel_rfl
-- names: aci,acv,PZ,JT,oT
theorem afo (h:Hp):aj (xX s 60 wl k false) Tryz.f60 [a] h =
 bp (aw s.P 65 h) fun v1 h2=>
 bp (yC s k wl 60 false true (.fn (.func 104) [] []) [(.lit (.int .i64 1)),a,(.lit (.int .u64 0))] h2) fun v3 h4=>
 bm (a9 s.P 65 [(2,v3)]) h4 fun v5 h6=>
 bs (ai s.P wl 65 v1 v5 h6) fun h7=>
 dW [ab s.P 65 v1 h7] h7:=kB
theorem agh (k wl:Nat) (h:Hp):evF Tryz.prog xM (k+1) wl 60 [a] h=aj (xX (xS k) 60 wl k false) Tryz.f60 [a] h:=by kernel_rfl
-- names: afo,
noncomputable def Fe:Code:=al (am Tryz.f81) [1,0]
noncomputable def Bj:List Fr:=[.seq (al (am Tryz.f81) [1,1])]
theorem afh (h:Hp):aj (xX s 81 wl k false) Tryz.f81 [a,b] h =
 bm (av s.P .geq 3 a (.lit (.int .i64 0))) h fun v1 h2=>
 gd v1 (
 bm (av s.P .lss 3 a b) h2 fun v3 h4=>
 yO s k wl 81 Tryz.f81 Fe 6 h.length ([],[]) Bj ⟨[a,b,uu,uu,(.lit (.bool false)),a,v1,(.lit (.bool true)),a,b,v3,uu],h4⟩) (
 yO s k wl 81 Tryz.f81 Fe 6 h.length ([],[]) Bj ⟨[a,b,uu,uu,(.lit (.bool false)),a,v1,(.lit (.bool false)),uu,uu,uu,uu],h2⟩) (
 yO s k wl 81 Tryz.f81 Fe 4 h.length ([],[]) Bj ⟨[a,b,uu,uu,(.lit (.bool false)),a,v1,v1,uu,uu,uu,uu],h2⟩):=kB
theorem afT (k wl:Nat) (h:Hp):evF Tryz.prog xM (k+1) wl 81 [a,b] h=aj (xX (xS k) 81 wl k false) Tryz.f81 [a,b] h:=by kernel_rfl
theorem PV (h:Hp):yO s k wl 81 Tryz.f81 Fe 6 m0 ac Bj ⟨[a,b,d,e,j,f,g,l,u,v,o,q],h⟩ =
 bm (aQ l o (.lit (.bool false))) h fun v5 h6=>
 some (v5,h6):=kG
theorem u7 (cx:Cx) (K:Out→St→Option (V×Hp)) (s:St):au cx K Bj .ret s=K .ret s:=by kernel_rfl
-- names: afh,PV,u7
end
end Go.Ab
set_option maxRecDepth 100000
set_option linter.unusedVariables false
namespace Go.Ab
open Go.Proofs
section
variable (s:Sys) (k wl:Nat) (m0:Nat) (ac:List Nat×List Nat) (d a b f u v e x j g I y z A L M B D E o F G q Q N R O J t1 U t2 t3 t4 t5 t6 t7 t8 t9 ta W T tb tc td te tf tg th ti tj tk X Y Z tx ty tz tl tm tn tG tH tI tJ tK tL tM tN tO tA tB tC tD tE tF tp tq tr ts tt tu tv tw t0:V)
noncomputable def ph:Code:=al (am Tryz.f23) [1,0,0]
noncomputable def nN:List Fr:=[.seq (al (am Tryz.f23) [1,0,1]),.seq (al (am Tryz.f23) [1,1])]
noncomputable def EY:Code:=al (am Tryz.f23) [1,1,1,1,0,1,0,0]
noncomputable def Fv:List Fr:=[.block 0,.seq (al (am Tryz.f23) [1,1,1,1,1])]
noncomputable def pi:Code:=al (am Tryz.f23) [1,1,1,1,1,0,1,0,0]
noncomputable def wb:List Fr:=[.block 2,.seq (al (am Tryz.f23) [1,1,1,1,1,1])]
noncomputable def FF:Code:=al (am Tryz.f23) [1,1,1,1,1,0,1,0,0,1,1,0,0,1,0,1,0,0]
noncomputable def Fq:List Fr:=[.block 4,.seq (al (am Tryz.f23) [1,1,1,1,1,0,1,0,0,1,1,0,0,1,1]),.block 3,.seq (al (am Tryz.f23) [1,1,1,1,1,0,1,0,0,1,1,1])]
theorem VC (h:Hp):aj (xX s 23 wl k false) Tryz.f23 [d,a,b] h =
 bp (aO d h) fun v1 h2=>
 bp (aw s.P 30 h2) fun v3 h4=>
 bm (ab s.P 23 v1 h4) h4 fun v5 h6=>
 bp (yC s k wl 23 false true (.fn (.func 50) [] []) [v5] h6) fun v7 h8=>
 bm (vUn .not v7) h8 fun v9 h10=>
 gd v9 (
 yO s k wl 23 Tryz.f23 ph 7 h4.length ([],[]) nN ⟨(d::a::b::v1::uu::uu::v3::(.lit (.bool false))::uu::uu::uu::uu::uu::uu::uu::uu::v5::v7::v9::(.lit (.bool true))::uu::uu::uu::uu::uu::uu::uu::uu::uu::uu::uu::uu::uu::uu::uu::uu::uu::uu::uu::uu::uu::uu::uu::uu::uu::uu::uu::uu::uu::uu::uu::uu::uu::uu::uu::uu::uu::uu::uu::uu::uu::uu::uu::uu::uu::uu::uu::uu::uu::uu::uu::uu::uu::uu::uu::uu::uu::uu::uu::uu::uu::uu::uu::uu::[]),h10⟩) (
 bp (yC s k wl 23 false true (.fn (.func 56) [] []) [a] h10) fun v11 h12=>
 bm (vUn .not v11) h12 fun v13 h14=>
 yO s k wl 23 Tryz.f23 ph 7 h4.length ([],[]) nN ⟨(d::a::b::v1::uu::uu::v3::(.lit (.bool false))::uu::uu::uu::uu::uu::uu::uu::uu::v5::v7::v9::(.lit (.bool false))::a::v11::v13::uu::uu::uu::uu::uu::uu::uu::uu::uu::uu::uu::uu::uu::uu::uu::uu::uu::uu::uu::uu::uu::uu::uu::uu::uu::uu::uu::uu::uu::uu::uu::uu::uu::uu::uu::uu::uu::uu::uu::uu::uu::uu::uu::uu::uu::uu::uu::uu::uu::uu::uu::uu::uu::uu::uu::uu::uu::uu::uu::uu::uu::[]),h14⟩) (
 yO s k wl 23 Tryz.f23 ph 5 h4.length ([],[]) nN ⟨(d::a::b::v1::uu::uu::v3::(.lit (.bool false))::uu::uu::uu::uu::uu::uu::uu::uu::v5::v7::v9::v9::uu::uu::uu::uu::uu::uu::uu::uu::uu::uu::uu::uu::uu::uu::uu::uu::uu::uu::uu::uu::uu::uu::uu::uu::uu::uu::uu::uu::uu::uu::uu::uu::uu::uu::uu::uu::uu::uu::uu::uu::uu::uu::uu::uu::uu::uu::uu::uu::uu::uu::uu::uu::uu::uu::uu::uu::uu::uu::uu::uu::uu::uu::uu::uu::[]),h10⟩):=kB
theorem aag (k wl:Nat) (h:Hp):evF Tryz.prog xM (k+1) wl 23 [d,a,b] h=aj (xX (xS k) 23 wl k false) Tryz.f23 [d,a,b] h:=by kernel_rfl
theorem VA (P:Program) (h:Hp):aC P Tryz.f23 .ret ⟨(d::a::b::f::u::v::e::x::j::g::I::y::z::A::L::M::B::D::E::o::F::G::q::Q::N::R::O::J::t1::U::t2::t3::t4::t5::t6::t7::t8::t9::ta::W::T::tb::tc::td::te::tf::tg::th::ti::tj::tk::X::Y::Z::tx::ty::tz::tl::tm::tn::tG::tH::tI::tJ::tK::tL::tM::tN::tO::tA::tB::tC::tD::tE::tF::tp::tq::tr::ts::tt::tu::tv::tw::t0::[]),h⟩=dW [ab P 30 e h,some x] h:=by kernel_rfl
theorem w6 (zz:List V) (h:Hp):yO s k wl 23 Tryz.f23 ph 7 m0 ac nN ⟨(d::a::b::f::u::v::e::x::j::g::I::y::z::A::L::M::B::D::E::o::F::G::q::Q::N::R::O::J::zz),h⟩ =
 bm (aQ o (.lit (.bool true)) q) h fun v15 h16=>
 gd v15 (
 yO s k wl 23 Tryz.f23 ph 12 m0 ac nN ⟨(d::a::b::f::u::v::e::x::j::g::I::y::z::A::L::M::B::D::E::o::F::G::q::v15::(.lit (.bool true))::uu::uu::uu::zz),h16⟩) (
 bp (bh s.P 40 b h16) fun v17 h18=>
 bm (av s.P .gtr 3 v17 (.lit (.int .i64 3))) h18 fun v19 h20=>
 yO s k wl 23 Tryz.f23 ph 12 m0 ac nN ⟨(d::a::b::f::u::v::e::x::j::g::I::y::z::A::L::M::B::D::E::o::F::G::q::v15::(.lit (.bool false))::b::v17::v19::zz),h20⟩) (
 yO s k wl 23 Tryz.f23 ph 10 m0 ac nN ⟨(d::a::b::f::u::v::e::x::j::g::I::y::z::A::L::M::B::D::E::o::F::G::q::v15::v15::uu::O::J::zz),h16⟩):=kG
theorem w8 (h:Hp):yO s k wl 23 Tryz.f23 ph 12 m0 ac nN ⟨(d::a::b::f::u::v::e::x::j::g::I::y::z::A::L::M::B::D::E::o::F::G::q::Q::N::R::O::J::t1::U::t2::t3::t4::t5::t6::t7::t8::t9::ta::W::T::tb::tc::td::te::tf::tg::th::ti::tj::tk::X::Y::Z::tx::ty::tz::tl::tm::tn::tG::tH::tI::tJ::tK::tL::tM::tN::tO::tA::tB::tC::tD::tE::tF::tp::tq::tr::ts::tt::tu::tv::tw::t0::[]),h⟩ =
 bm (aQ N (.lit (.bool true)) J) h fun v21 h22=>
 cnd v21 (
 bm (a9 s.P 30 []) h22 fun v23 h24=>
 bs (ai s.P wl 30 e v23 h24) fun h25=>
 dW [ab s.P 30 e h25,some (.lit (.bool false))] h25) (
 bp (yC s k wl 23 false true (.fn (.func 57) [] []) [a] h22) fun v26 h27=>
 bp (aw s.P 30 h27) fun v28 h29=>
 stO h27.length f (
 bm (ab s.P 23 f h29) h29 fun v30 h31=>
 bp (yC s k wl 23 true true (.fn (.func 58) [] []) [a] h31) fun v32 h33=>
 stO h27.length f (
 bm (ab s.P 23 f h33) h33 fun v34 h35=>
 bp (yC s k wl 23 true true (.fn (.func 59) [] []) [v34] h35) fun v36 h37=>
 bm (a9 s.P 30 [(0,v30),(1,v32),(2,v36)]) h37 fun v38 h39=>
 bs (ai s.P wl 30 v28 v38 h39) fun h40=>
 bm (aa s.P 23 f 0) h40 fun v41 h42=>
 bm (ab s.P 3 v41 h42) h42 fun v43 h44=>
 yI s k wl 23 Tryz.f23 EY h44.length Fv k ⟨((V.kill h44.length d)::(V.kill h44.length a)::(V.kill h44.length b)::(V.kill h44.length f)::(V.kill h44.length u)::(V.kill h44.length v)::(V.kill h44.length e)::(V.kill h44.length x)::(V.kill h44.length v26)::(V.kill h44.length v28)::(V.kill h44.length I)::(V.kill h44.length y)::(V.kill h44.length z)::(V.kill h44.length A)::(V.kill h44.length L)::(V.kill h44.length M)::(V.kill h44.length B)::(V.kill h44.length D)::(V.kill h44.length E)::(V.kill h44.length o)::(V.kill h44.length F)::(V.kill h44.length G)::(V.kill h44.length q)::(V.kill h44.length Q)::(V.kill h44.length N)::(V.kill h44.length R)::(V.kill h44.length O)::(V.kill h44.length J)::(V.kill h44.length v21)::(V.kill h44.length U)::(V.kill h44.length a)::(V.kill h44.length v26)::(V.kill h44.length v30)::(V.kill h44.length a)::(V.kill h44.length v32)::(V.kill h44.length v34)::(V.kill h44.length v36)::(V.kill h44.length v38)::(V.kill h44.length v41)::(V.kill h44.length v43)::(.lit (.int .i64 0))::.junk::.junk::.junk::.junk::.junk::.junk::.junk::.junk::.junk::.junk::(V.kill h44.length X)::(V.kill h44.length Y)::(V.kill h44.length Z)::(V.kill h44.length tx)::(V.kill h44.length ty)::(V.kill h44.length tz)::(V.kill h44.length tl)::(V.kill h44.length tm)::(V.kill h44.length tn)::(V.kill h44.length tG)::(V.kill h44.length tH)::(V.kill h44.length tI)::(V.kill h44.length tJ)::(V.kill h44.length tK)::(V.kill h44.length tL)::(V.kill h44.length tM)::(V.kill h44.length tN)::(V.kill h44.length tO)::(V.kill h44.length tA)::(V.kill h44.length tB)::(V.kill h44.length tC)::(V.kill h44.length tD)::(V.kill h44.length tE)::(V.kill h44.length tF)::(V.kill h44.length tp)::(V.kill h44.length tq)::(V.kill h44.length tr)::(V.kill h44.length ts)::(V.kill h44.length tt)::(V.kill h44.length tu)::(V.kill h44.length tv)::(V.kill h44.length tw)::(V.kill h44.length t0)::[]),bZ h44.length h44⟩))):=kG
theorem Qo (s:Sys) (K:Out→St→Option (V×Hp)) (k wl:Nat) (rd:Bool) (n n0:Nat) (h:Hp):itX (xX s 23 wl k rd) EY n0 K (n+1) ⟨(d::a::b::f::u::v::e::x::j::g::I::y::z::A::L::M::B::D::E::o::F::G::q::Q::N::R::O::J::t1::U::t2::t3::t4::t5::t6::t7::t8::t9::ta::W::T::tb::tc::td::te::tf::tg::th::ti::tj::tk::X::Y::Z::tx::ty::tz::tl::tm::tn::tG::tH::tI::tJ::tK::tL::tM::tN::tO::tA::tB::tC::tD::tE::tF::tp::tq::tr::ts::tt::tu::tv::tw::t0::[]),h⟩ =
 bm (av s.P .lss 3 T W) h fun v45 h46=>
 cnd v45 (
 bm (aa s.P 30 g 3) h46 fun v47 h48=>
 stO h46.length v47 (
 bm (ab s.P 27 v47 h48) h48 fun v49 h50=>
 bp (cN (xX s 23 wl k rd) true true (.fn (.func 60) [] []) [T] h50) fun v51 h52=>
 bp (cU s.P wl 27 1 [(0,v51)] h52) fun v53 h54=>
 bp (lF s.P wl 27 27 v49 v53 h54) fun v55 h56=>
 bm (aa s.P 30 g 3) h56 fun v57 h58=>
 bs (ai s.P wl 27 v57 v55 h58) fun h59=>
 bm (av s.P .add 3 T (.lit (.int .i64 1))) h59 fun v60 h61=>
 itX (xX s 23 wl k rd) EY n0 K n ⟨((V.kill n0 d)::(V.kill n0 a)::(V.kill n0 b)::(V.kill n0 f)::(V.kill n0 u)::(V.kill n0 v)::(V.kill n0 e)::(V.kill n0 x)::(V.kill n0 j)::(V.kill n0 g)::(V.kill n0 T)::(V.kill n0 y)::(V.kill n0 z)::(V.kill n0 A)::(V.kill n0 L)::(V.kill n0 M)::(V.kill n0 B)::(V.kill n0 D)::(V.kill n0 E)::(V.kill n0 o)::(V.kill n0 F)::(V.kill n0 G)::(V.kill n0 q)::(V.kill n0 Q)::(V.kill n0 N)::(V.kill n0 R)::(V.kill n0 O)::(V.kill n0 J)::(V.kill n0 t1)::(V.kill n0 U)::(V.kill n0 t2)::(V.kill n0 t3)::(V.kill n0 t4)::(V.kill n0 t5)::(V.kill n0 t6)::(V.kill n0 t7)::(V.kill n0 t8)::(V.kill n0 t9)::(V.kill n0 ta)::(V.kill n0 W)::(V.kill n0 v60)::.junk::.junk::.junk::.junk::.junk::.junk::.junk::.junk::.junk::.junk::(V.kill n0 X)::(V.kill n0 Y)::(V.kill n0 Z)::(V.kill n0 tx)::(V.kill n0 ty)::(V.kill n0 tz)::(V.kill n0 tl)::(V.kill n0 tm)::(V.kill n0 tn)::(V.kill n0 tG)::(V.kill n0 tH)::(V.kill n0 tI)::(V.kill n0 tJ)::(V.kill n0 tK)::(V.kill n0 tL)::(V.kill n0 tM)::(V.kill n0 tN)::(V.kill n0 tO)::(V.kill n0 tA)::(V.kill n0 tB)::(V.kill n0 tC)::(V.kill n0 tD)::(V.kill n0 tE)::(V.kill n0 tF)::(V.kill n0 tp)::(V.kill n0 tq)::(V.kill n0 tr)::(V.kill n0 ts)::(V.kill n0 tt)::(V.kill n0 tu)::(V.kill n0 tv)::(V.kill n0 tw)::(V.kill n0 t0)::[]),bZ n0 h61⟩)) (
 K (.exit 0) ⟨((V.kill n0 d)::(V.kill n0 a)::(V.kill n0 b)::(V.kill n0 f)::(V.kill n0 u)::(V.kill n0 v)::(V.kill n0 e)::(V.kill n0 x)::(V.kill n0 j)::(V.kill n0 g)::(V.kill n0 I)::(V.kill n0 y)::(V.kill n0 z)::(V.kill n0 A)::(V.kill n0 L)::(V.kill n0 M)::(V.kill n0 B)::(V.kill n0 D)::(V.kill n0 E)::(V.kill n0 o)::(V.kill n0 F)::(V.kill n0 G)::(V.kill n0 q)::(V.kill n0 Q)::(V.kill n0 N)::(V.kill n0 R)::(V.kill n0 O)::(V.kill n0 J)::(V.kill n0 t1)::(V.kill n0 U)::(V.kill n0 t2)::(V.kill n0 t3)::(V.kill n0 t4)::(V.kill n0 t5)::(V.kill n0 t6)::(V.kill n0 t7)::(V.kill n0 t8)::(V.kill n0 t9)::(V.kill n0 ta)::(V.kill n0 W)::.junk::.junk::.junk::.junk::.junk::.junk::.junk::.junk::.junk::.junk::.junk::(V.kill n0 X)::(V.kill n0 Y)::(V.kill n0 Z)::(V.kill n0 tx)::(V.kill n0 ty)::(V.kill n0 tz)::(V.kill n0 tl)::(V.kill n0 tm)::(V.kill n0 tn)::(V.kill n0 tG)::(V.kill n0 tH)::(V.kill n0 tI)::(V.kill n0 tJ)::(V.kill n0 tK)::(V.kill n0 tL)::(V.kill n0 tM)::(V.kill n0 tN)::(V.kill n0 tO)::(V.kill n0 tA)::(V.kill n0 tB)::(V.kill n0 tC)::(V.kill n0 tD)::(V.kill n0 tE)::(V.kill n0 tF)::(V.kill n0 tp)::(V.kill n0 tq)::(V.kill n0 tr)::(V.kill n0 ts)::(V.kill n0 tt)::(V.kill n0 tu)::(V.kill n0 tv)::(V.kill n0 tw)::(V.kill n0 t0)::[]),bZ n0 h46⟩):=kI
theorem wV (h:Hp):au (xX s 23 wl k false) (aC s.P Tryz.f23) Fv (.exit 0) ⟨(d::a::b::f::u::v::e::x::j::g::I::y::z::A::L::M::B::D::E::o::F::G::q::Q::N::R::O::J::t1::U::t2::t3::t4::t5::t6::t7::t8::t9::ta::W::T::tb::tc::td::te::tf::tg::th::ti::tj::tk::X::Y::Z::tx::ty::tz::tl::tm::tn::tG::tH::tI::tJ::tK::tL::tM::tN::tO::tA::tB::tC::tD::tE::tF::tp::tq::tr::ts::tt::tu::tv::tw::t0::[]),h⟩ =
 bp (bh s.P 40 b h) fun v62 h63=>
 yI s k wl 23 Tryz.f23 pi h63.length wb k ⟨((V.kill h63.length d)::(V.kill h63.length a)::(V.kill h63.length b)::(V.kill h63.length f)::(V.kill h63.length u)::(V.kill h63.length v)::(V.kill h63.length e)::(V.kill h63.length x)::(V.kill h63.length j)::(V.kill h63.length g)::(V.kill h63.length I)::(V.kill h63.length y)::(V.kill h63.length z)::(V.kill h63.length A)::(V.kill h63.length L)::(V.kill h63.length M)::(V.kill h63.length B)::(V.kill h63.length D)::(V.kill h63.length E)::(V.kill h63.length o)::(V.kill h63.length F)::(V.kill h63.length G)::(V.kill h63.length q)::(V.kill h63.length Q)::(V.kill h63.length N)::(V.kill h63.length R)::(V.kill h63.length O)::(V.kill h63.length J)::(V.kill h63.length t1)::(V.kill h63.length U)::(V.kill h63.length t2)::(V.kill h63.length t3)::(V.kill h63.length t4)::(V.kill h63.length t5)::(V.kill h63.length t6)::(V.kill h63.length t7)::(V.kill h63.length t8)::(V.kill h63.length t9)::(V.kill h63.length ta)::(V.kill h63.length W)::(V.kill h63.length T)::(V.kill h63.length tb)::(V.kill h63.length tc)::(V.kill h63.length td)::(V.kill h63.length te)::(V.kill h63.length tf)::(V.kill h63.length tg)::(V.kill h63.length th)::(V.kill h63.length ti)::(V.kill h63.length tj)::(V.kill h63.length tk)::(V.kill h63.length b)::(V.kill h63.length v62)::(.lit (.int .i64 0))::.junk::.junk::.junk::.junk::.junk::.junk::.junk::.junk::.junk::.junk::.junk::.junk::.junk::.junk::.junk::.junk::.junk::.junk::.junk::.junk::.junk::.junk::.junk::.junk::.junk::.junk::.junk::.junk::.junk::(V.kill h63.length t0)::[]),bZ h63.length h63⟩:=kR
theorem Qa (s:Sys) (K:Out→St→Option (V×Hp)) (k wl:Nat) (rd:Bool) (n n0:Nat) (h:Hp):itX (xX s 23 wl k rd) pi n0 K (n+1) ⟨(d::a::b::f::u::v::e::x::j::g::I::y::z::A::L::M::B::D::E::o::F::G::q::Q::N::R::O::J::t1::U::t2::t3::t4::t5::t6::t7::t8::t9::ta::W::T::tb::tc::td::te::tf::tg::th::ti::tj::tk::X::Y::Z::tx::ty::tz::tl::tm::tn::tG::tH::tI::tJ::tK::tL::tM::tN::tO::tA::tB::tC::tD::tE::tF::tp::tq::tr::ts::tt::tu::tv::tw::t0::[]),h⟩ =
 bm (av s.P .lss 3 Z Y) h fun v64 h65=>
 cnd v64 (
 bm (ak s.P 40 X Z h65) h65 fun v66 h67=>
 bm (ab s.P 53 v66 h67) h67 fun v68 h69=>
 bp (bh s.P 53 v68 h69) fun v70 h71=>
 itX (xX s 23 wl k rd) FF h71.length (au (xX s 23 wl k rd) (bK (xX s 23 wl k rd) pi n0 K n) Fq) k ⟨((V.kill h71.length d)::(V.kill h71.length a)::(V.kill h71.length b)::(V.kill h71.length f)::(V.kill h71.length u)::(V.kill h71.length v)::(V.kill h71.length e)::(V.kill h71.length x)::(V.kill h71.length j)::(V.kill h71.length g)::(V.kill h71.length I)::(V.kill h71.length y)::(V.kill h71.length v68)::(V.kill h71.length A)::(V.kill h71.length L)::(V.kill h71.length M)::(V.kill h71.length B)::(V.kill h71.length D)::(V.kill h71.length E)::(V.kill h71.length o)::(V.kill h71.length F)::(V.kill h71.length G)::(V.kill h71.length q)::(V.kill h71.length Q)::(V.kill h71.length N)::(V.kill h71.length R)::(V.kill h71.length O)::(V.kill h71.length J)::(V.kill h71.length t1)::(V.kill h71.length U)::(V.kill h71.length t2)::(V.kill h71.length t3)::(V.kill h71.length t4)::(V.kill h71.length t5)::(V.kill h71.length t6)::(V.kill h71.length t7)::(V.kill h71.length t8)::(V.kill h71.length t9)::(V.kill h71.length ta)::(V.kill h71.length W)::(V.kill h71.length T)::(V.kill h71.length tb)::(V.kill h71.length tc)::(V.kill h71.length td)::(V.kill h71.length te)::(V.kill h71.length tf)::(V.kill h71.length tg)::(V.kill h71.length th)::(V.kill h71.length ti)::(V.kill h71.length tj)::(V.kill h71.length tk)::(V.kill h71.length X)::(V.kill h71.length Y)::(V.kill h71.length Z)::(V.kill h71.length v64)::(V.kill h71.length v66)::(V.kill h71.length v68)::(V.kill h71.length v68)::(V.kill h71.length v70)::(.lit (.int .i64 0))::.junk::.junk::.junk::.junk::.junk::.junk::.junk::.junk::.junk::.junk::.junk::.junk::.junk::.junk::.junk::(V.kill h71.length tp)::(V.kill h71.length tq)::(V.kill h71.length tr)::(V.kill h71.length ts)::(V.kill h71.length tt)::(V.kill h71.length tu)::(V.kill h71.length tv)::(V.kill h71.length tw)::(V.kill h71.length t0)::[]),bZ h71.length h71⟩) (
 K (.exit 2) ⟨((V.kill n0 d)::(V.kill n0 a)::(V.kill n0 b)::(V.kill n0 f)::(V.kill n0 u)::(V.kill n0 v)::(V.kill n0 e)::(V.kill n0 x)::(V.kill n0 j)::(V.kill n0 g)::(V.kill n0 I)::(V.kill n0 y)::(V.kill n0 z)::(V.kill n0 A)::(V.kill n0 L)::(V.kill n0 M)::(V.kill n0 B)::(V.kill n0 D)::(V.kill n0 E)::(V.kill n0 o)::(V.kill n0 F)::(V.kill n0 G)::(V.kill n0 q)::(V.kill n0 Q)::(V.kill n0 N)::(V.kill n0 R)::(V.kill n0 O)::(V.kill n0 J)::(V.kill n0 t1)::(V.kill n0 U)::(V.kill n0 t2)::(V.kill n0 t3)::(V.kill n0 t4)::(V.kill n0 t5)::(V.kill n0 t6)::(V.kill n0 t7)::(V.kill n0 t8)::(V.kill n0 t9)::(V.kill n0 ta)::(V.kill n0 W)::(V.kill n0 T)::(V.kill n0 tb)::(V.kill n0 tc)::(V.kill n0 td)::(V.kill n0 te)::(V.kill n0 tf)::(V.kill n0 tg)::(V.kill n0 th)::(V.kill n0 ti)::(V.kill n0 tj)::(V.kill n0 tk)::(V.kill n0 X)::(V.kill n0 Y)::.junk::.junk::.junk::.junk::.junk::.junk::.junk::.junk::.junk::.junk::.junk::.junk::.junk::.junk::.junk::.junk::.junk::.junk::.junk::.junk::.junk::.junk::.junk::.junk::.junk::.junk::.junk::.junk::.junk::.junk::(V.kill n0 t0)::[]),bZ n0 h65⟩):=kI
theorem wT (h:Hp):au (xX s 23 wl k false) (aC s.P Tryz.f23) wb (.exit 2) ⟨(d::a::b::f::u::v::e::x::j::g::I::y::z::A::L::M::B::D::E::o::F::G::q::Q::N::R::O::J::t1::U::t2::t3::t4::t5::t6::t7::t8::t9::ta::W::T::tb::tc::td::te::tf::tg::th::ti::tj::tk::X::Y::Z::tx::ty::tz::tl::tm::tn::tG::tH::tI::tJ::tK::tL::tM::tN::tO::tA::tB::tC::tD::tE::tF::tp::tq::tr::ts::tt::tu::tv::tw::t0::[]),h⟩ =
 bm (ab s.P 30 g h) h fun v72 h73=>
 bs (ai s.P wl 30 e v72 h73) fun h74=>
 dW [ab s.P 30 e h74,some (.lit (.bool true))] h74:=kR
theorem Qr (s:Sys) (K:Out→St→Option (V×Hp)) (k wl:Nat) (rd:Bool) (n n0:Nat) (h:Hp):itX (xX s 23 wl k rd) FF n0 K (n+1) ⟨(d::a::b::f::u::v::e::x::j::g::I::y::z::A::L::M::B::D::E::o::F::G::q::Q::N::R::O::J::t1::U::t2::t3::t4::t5::t6::t7::t8::t9::ta::W::T::tb::tc::td::te::tf::tg::th::ti::tj::tk::X::Y::Z::tx::ty::tz::tl::tm::tn::tG::tH::tI::tJ::tK::tL::tM::tN::tO::tA::tB::tC::tD::tE::tF::tp::tq::tr::ts::tt::tu::tv::tw::t0::[]),h⟩ =
 bm (av s.P .lss 3 tn tm) h fun v75 h76=>
 cnd v75 (
 bm (ak s.P 53 tl tn h76) h76 fun v77 h78=>
 bm (ab s.P 3 v77 h78) h78 fun v79 h80=>
 bp (cN (xX s 23 wl k rd) false true (.fn (.func 61) [] []) [j,v79] h80) fun v81 h82=>
 bm (av s.P .lss 3 v81 (.lit (.int .i64 0))) h82 fun v83 h84=>
 cnd v83 (
 bm (a9 s.P 30 []) h84 fun v85 h86=>
 bs (ai s.P wl 30 e v85 h86) fun h87=>
 K .ret ⟨(d::a::b::f::u::v::e::(.lit (.bool false))::j::g::I::y::z::A::v79::v81::B::D::E::o::F::G::q::Q::N::R::O::J::t1::U::t2::t3::t4::t5::t6::t7::t8::t9::ta::W::T::tb::tc::td::te::tf::tg::th::ti::tj::tk::X::Y::Z::tx::ty::tz::tl::tm::tn::v75::v77::v79::j::v79::v81::v81::v83::v85::tA::tB::tC::tD::tE::tF::tp::tq::tr::ts::tt::tu::tv::tw::t0::[]),h87⟩) (
 bm (av s.P .add 3 v81 (.lit (.int .i64 1))) h84 fun v88 h89=>
 bp (cN (xX s 23 wl k rd) false true (.fn (.func 62) [] []) [j,v81,v88] h89) fun v90 h91=>
 bm (av s.P .add 3 tn (.lit (.int .i64 1))) h91 fun v92 h93=>
 itX (xX s 23 wl k rd) FF n0 K n ⟨((V.kill n0 d)::(V.kill n0 a)::(V.kill n0 b)::(V.kill n0 f)::(V.kill n0 u)::(V.kill n0 v)::(V.kill n0 e)::(V.kill n0 x)::(V.kill n0 v90)::(V.kill n0 g)::(V.kill n0 I)::(V.kill n0 y)::(V.kill n0 z)::(V.kill n0 A)::(V.kill n0 v79)::(V.kill n0 v81)::(V.kill n0 B)::(V.kill n0 D)::(V.kill n0 E)::(V.kill n0 o)::(V.kill n0 F)::(V.kill n0 G)::(V.kill n0 q)::(V.kill n0 Q)::(V.kill n0 N)::(V.kill n0 R)::(V.kill n0 O)::(V.kill n0 J)::(V.kill n0 t1)::(V.kill n0 U)::(V.kill n0 t2)::(V.kill n0 t3)::(V.kill n0 t4)::(V.kill n0 t5)::(V.kill n0 t6)::(V.kill n0 t7)::(V.kill n0 t8)::(V.kill n0 t9)::(V.kill n0 ta)::(V.kill n0 W)::(V.kill n0 T)::(V.kill n0 tb)::(V.kill n0 tc)::(V.kill n0 td)::(V.kill n0 te)::(V.kill n0 tf)::(V.kill n0 tg)::(V.kill n0 th)::(V.kill n0 ti)::(V.kill n0 tj)::(V.kill n0 tk)::(V.kill n0 X)::(V.kill n0 Y)::(V.kill n0 Z)::(V.kill n0 tx)::(V.kill n0 ty)::(V.kill n0 tz)::(V.kill n0 tl)::(V.kill n0 tm)::(V.kill n0 v92)::.junk::.junk::.junk::.junk::.junk::.junk::.junk::.junk::.junk::.junk::.junk::.junk::.junk::.junk::.junk::(V.kill n0 tp)::(V.kill n0 tq)::(V.kill n0 tr)::(V.kill n0 ts)::(V.kill n0 tt)::(V.kill n0 tu)::(V.kill n0 tv)::(V.kill n0 tw)::(V.kill n0 t0)::[]),bZ n0 h93⟩)) (
 K (.exit 4) ⟨((V.kill n0 d)::(V.kill n0 a)::(V.kill n0 b)::(V.kill n0 f)::(V.kill n0 u)::(V.kill n0 v)::(V.kill n0 e)::(V.kill n0 x)::(V.kill n0 j)::(V.kill n0 g)::(V.kill n0 I)::(V.kill n0 y)::(V.kill n0 z)::(V.kill n0 A)::(V.kill n0 L)::(V.kill n0 M)::(V.kill n0 B)::(V.kill n0 D)::(V.kill n0 E)::(V.kill n0 o)::(V.kill n0 F)::(V.kill n0 G)::(V.kill n0 q)::(V.kill n0 Q)::(V.kill n0 N)::(V.kill n0 R)::(V.kill n0 O)::(V.kill n0 J)::(V.kill n0 t1)::(V.kill n0 U)::(V.kill n0 t2)::(V.kill n0 t3)::(V.kill n0 t4)::(V.kill n0 t5)::(V.kill n0 t6)::(V.kill n0 t7)::(V.kill n0 t8)::(V.kill n0 t9)::(V.kill n0 ta)::(V.kill n0 W)::(V.kill n0 T)::(V.kill n0 tb)::(V.kill n0 tc)::(V.kill n0 td)::(V.kill n0 te)::(V.kill n0 tf)::(V.kill n0 tg)::(V.kill n0 th)::(V.kill n0 ti)::(V.kill n0 tj)::(V.kill n0 tk)::(V.kill n0 X)::(V.kill n0 Y)::(V.kill n0 Z)::(V.kill n0 tx)::(V.kill n0 ty)::(V.kill n0 tz)::(V.kill n0 tl)::(V.kill n0 tm)::.junk::.junk::.junk::.junk::.junk::.junk::.junk::.junk::.junk::.junk::.junk::.junk::.junk::.junk::.junk::.junk::(V.kill n0 tp)::(V.kill n0 tq)::(V.kill n0 tr)::(V.kill n0 ts)::(V.kill n0 tt)::(V.kill n0 tu)::(V.kill n0 tv)::(V.kill n0 tw)::(V.kill n0 t0)::[]),bZ n0 h76⟩):=kI
theorem wZ (s:Sys) (K:Out→St→Option (V×Hp)) (k wl:Nat) (rd:Bool) (n n0:Nat) (h:Hp):au (xX s 23 wl k rd) (bK (xX s 23 wl k rd) pi n0 K n) Fq (.exit 4) ⟨(d::a::b::f::u::v::e::x::j::g::I::y::z::A::L::M::B::D::E::o::F::G::q::Q::N::R::O::J::t1::U::t2::t3::t4::t5::t6::t7::t8::t9::ta::W::T::tb::tc::td::te::tf::tg::th::ti::tj::tk::X::Y::Z::tx::ty::tz::tl::tm::tn::tG::tH::tI::tJ::tK::tL::tM::tN::tO::tA::tB::tC::tD::tE::tF::tp::tq::tr::ts::tt::tu::tv::tw::t0::[]),h⟩ =
 bm (aa s.P 30 g 4) h fun v94 h95=>
 stO h.length v94 (
 bm (ab s.P 28 v94 h95) h95 fun v96 h97=>
 bp (cN (xX s 23 wl k rd) true true (.fn (.func 63) [] []) [z] h97) fun v98 h99=>
 bp (cU s.P wl 28 1 [(0,v98)] h99) fun v100 h101=>
 bp (lF s.P wl 28 28 v96 v100 h101) fun v102 h103=>
 bm (aa s.P 30 g 4) h103 fun v104 h105=>
 bs (ai s.P wl 28 v104 v102 h105) fun h106=>
 bm (av s.P .add 3 Z (.lit (.int .i64 1))) h106 fun v107 h108=>
 itX (xX s 23 wl k rd) pi n0 K n ⟨((V.kill n0 d)::(V.kill n0 a)::(V.kill n0 b)::(V.kill n0 f)::(V.kill n0 u)::(V.kill n0 v)::(V.kill n0 e)::(V.kill n0 x)::(V.kill n0 j)::(V.kill n0 g)::(V.kill n0 I)::(V.kill n0 y)::(V.kill n0 z)::(V.kill n0 A)::(V.kill n0 L)::(V.kill n0 M)::(V.kill n0 B)::(V.kill n0 D)::(V.kill n0 E)::(V.kill n0 o)::(V.kill n0 F)::(V.kill n0 G)::(V.kill n0 q)::(V.kill n0 Q)::(V.kill n0 N)::(V.kill n0 R)::(V.kill n0 O)::(V.kill n0 J)::(V.kill n0 t1)::(V.kill n0 U)::(V.kill n0 t2)::(V.kill n0 t3)::(V.kill n0 t4)::(V.kill n0 t5)::(V.kill n0 t6)::(V.kill n0 t7)::(V.kill n0 t8)::(V.kill n0 t9)::(V.kill n0 ta)::(V.kill n0 W)::(V.kill n0 T)::(V.kill n0 tb)::(V.kill n0 tc)::(V.kill n0 td)::(V.kill n0 te)::(V.kill n0 tf)::(V.kill n0 tg)::(V.kill n0 th)::(V.kill n0 ti)::(V.kill n0 tj)::(V.kill n0 tk)::(V.kill n0 X)::(V.kill n0 Y)::(V.kill n0 v107)::.junk::.junk::.junk::.junk::.junk::.junk::.junk::.junk::.junk::.junk::.junk::.junk::.junk::.junk::.junk::.junk::.junk::.junk::.junk::.junk::.junk::.junk::.junk::.junk::.junk::.junk::.junk::.junk::.junk::(V.kill n0 t0)::[]),bZ n0 h108⟩):=kR
theorem gQ (cx:Cx) (K:Out→St→Option (V×Hp)) (s:St):au cx K nN .ret s=K .ret s:=by kernel_rfl
theorem gL (cx:Cx) (K:Out→St→Option (V×Hp)) (s:St):au cx K Fv .ret s=K .ret s:=by kernel_rfl
theorem gJ (cx:Cx) (K:Out→St→Option (V×Hp)) (s:St):au cx K wb .ret s=K .ret s:=by kernel_rfl
theorem gM (cx:Cx) (K:Out→St→Option (V×Hp)) (s:St):au cx K Fq .ret s=K .ret s:=by kernel_rfl
-- names: VC,VA,w6,w8,Qo,wV,Qa,wT,Qr,wZ,gQ,gL,gJ,gM
end
end Go.Ab
