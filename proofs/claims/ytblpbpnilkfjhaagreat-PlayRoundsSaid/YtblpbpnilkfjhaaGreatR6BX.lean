import Derived.Test.YtblpbpnilkfjhaaGreatR6Seat
import Derived.Test.YtblpbpnilkfjhaaGreatAbLibC
set_option linter.unusedVariables false
set_option linter.unusedSimpArgs false
set_option maxRecDepth 100000
set_option linter.unusedVariables false
namespace Go.Ab
open Go.Proofs
section
variable (s:Sys) (k wl:Nat) (m0:Nat) (ac:List Nat×List Nat) (a b d e o p g l q j u r A y z B D F E I M R N J T O U Q L G:V)
theorem agY (h:Hp):ak (xX s 27 wl k false) Tryz.f27 [a,b] h =
 bp (yC s k wl 27 false true (.fn (.func 66) [] []) [a,b] h) fun v1 h2=>
 bm (vUn .not v1) h2 fun v3 h4=>
 cnd v3 (
 some ((.lit (.int .u64 0)),h4)) (
 bm (aj s.P 26 a b h4) h4 fun v5 h6=>
 bm (ab s.P 46 v5 h6) h6 fun v7 h8=>
 some (v7,h8)):=kB
theorem ahM (k wl:Nat) (h:Hp):evF Tryz.prog xM (k+1) wl 27 [a,b] h=ak (xX (xS k) 27 wl k false) Tryz.f27 [a,b] h:=by kernel_rfl
-- names: agY,
theorem agu (h:Hp):ak (xX s 32 wl k false) Tryz.f32 [a,b] h =
 bp (aN a h) fun v1 h2=>
 bp (aN b h2) fun v3 h4=>
 bm (ab s.P 23 v1 h4) h4 fun v5 h6=>
 bm (ab s.P 3 v3 h6) h6 fun v7 h8=>
 bp (yC s k wl 32 false true (.fn (.func 70) [] []) [v5,v7,(.fn (.func 71) [] [v1,v3])] h8) fun v9 h10=>
 some (v9,h10):=kB
theorem ahb (k wl:Nat) (h:Hp):evF Tryz.prog xM (k+1) wl 32 [a,b] h=ak (xX (xS k) 32 wl k false) Tryz.f32 [a,b] h:=by kernel_rfl
-- names: agu,
noncomputable def iI:Code:=al (am Tryz.f50) [1,0]
noncomputable def gT:List Fr:=[.seq (al (am Tryz.f50) [1,1])]
theorem agD (h:Hp):ak (xX s 50 wl k false) Tryz.f50 [a] h =
 bp (aN a h) fun v1 h2=>
 bm (aa s.P 23 v1 0) h2 fun v3 h4=>
 bm (ab s.P 3 v3 h4) h4 fun v5 h6=>
 bp (yC s k wl 50 false true (.fn (.func 93) [] []) [v5,(.lit (.int .i64 1)),(.lit (.int .i64 8))] h6) fun v7 h8=>
 gd v7 (
 bm (aa s.P 23 v1 1) h8 fun v9 h10=>
 bm (ab s.P 3 v9 h10) h10 fun v11 h12=>
 bp (yC s k wl 50 false true (.fn (.func 93) [] []) [v11,(.lit (.int .i64 1)),(.lit (.int .i64 16))] h12) fun v13 h14=>
 yO s k wl 50 Tryz.f50 iI 7 h2.length ([],[]) gT ⟨[a,v1,(.lit (.bool false)),v3,v5,v7,(.lit (.bool true)),v9,v11,v13,uu,uu,uu,uu,uu,uu,uu,uu,uu,uu,uu,uu,uu,uu,uu,uu,uu,uu,uu,uu],h14⟩) (
 yO s k wl 50 Tryz.f50 iI 7 h2.length ([],[]) gT ⟨[a,v1,(.lit (.bool false)),v3,v5,v7,(.lit (.bool false)),uu,uu,uu,uu,uu,uu,uu,uu,uu,uu,uu,uu,uu,uu,uu,uu,uu,uu,uu,uu,uu,uu,uu],h8⟩) (
 yO s k wl 50 Tryz.f50 iI 5 h2.length ([],[]) gT ⟨[a,v1,(.lit (.bool false)),v3,v5,v7,v7,uu,uu,uu,uu,uu,uu,uu,uu,uu,uu,uu,uu,uu,uu,uu,uu,uu,uu,uu,uu,uu,uu,uu],h8⟩):=kB
theorem ahL (k wl:Nat) (h:Hp):evF Tryz.prog xM (k+1) wl 50 [a] h=ak (xX (xS k) 50 wl k false) Tryz.f50 [a] h:=by kernel_rfl
theorem Si (zz:List V) (h:Hp):yO s k wl 50 Tryz.f50 iI 7 m0 ac gT ⟨(a::b::d::e::o::p::g::l::q::j::u::r::A::y::z::B::D::F::E::zz),h⟩ =
 bm (aQ g j (.lit (.bool false))) h fun v15 h16=>
 gd v15 (
 bm (aa s.P 23 b 1) h16 fun v17 h18=>
 bm (ab s.P 3 v17 h18) h18 fun v19 h20=>
 bm (aa s.P 23 b 1) h20 fun v21 h22=>
 bm (ab s.P 3 v21 h22) h22 fun v23 h24=>
 bm (aw s.P .sub 3 v23 (.lit (.int .i64 1))) h24 fun v25 h26=>
 bm (aw s.P .and 3 v19 v25) h26 fun v27 h28=>
 bm (aw s.P .eql 3 v27 (.lit (.int .i64 0))) h28 fun v29 h30=>
 yO s k wl 50 Tryz.f50 iI 16 m0 ac gT ⟨(a::b::d::e::o::p::g::l::q::j::v15::(.lit (.bool true))::v17::v19::v21::v23::v25::v27::v29::zz),h30⟩) (
 yO s k wl 50 Tryz.f50 iI 16 m0 ac gT ⟨(a::b::d::e::o::p::g::l::q::j::v15::(.lit (.bool false))::uu::uu::uu::uu::uu::uu::uu::zz),h16⟩) (
 yO s k wl 50 Tryz.f50 iI 10 m0 ac gT ⟨(a::b::d::e::o::p::g::l::q::j::v15::v15::uu::y::z::B::D::F::E::zz),h16⟩):=kG
theorem RY (h:Hp):yO s k wl 50 Tryz.f50 iI 16 m0 ac gT ⟨[a,b,d,e,o,p,g,l,q,j,u,r,A,y,z,B,D,F,E,I,M,R,N,J,T,O,U,Q,L,G],h⟩ =
 bm (aQ r E (.lit (.bool false))) h fun v31 h32=>
 gd v31 (
 bm (aa s.P 23 b 2) h32 fun v33 h34=>
 bm (ab s.P 3 v33 h34) h34 fun v35 h36=>
 bp (yC s k wl 50 false true (.fn (.func 93) [] []) [v35,(.lit (.int .i64 1)),(.lit (.int .i64 16))] h36) fun v37 h38=>
 yO s k wl 50 Tryz.f50 iI 21 m0 ac gT ⟨[a,b,d,e,o,p,g,l,q,j,u,r,A,y,z,B,D,F,E,v31,(.lit (.bool true)),v33,v35,v37,T,O,U,Q,L,G],h38⟩) (
 yO s k wl 50 Tryz.f50 iI 21 m0 ac gT ⟨[a,b,d,e,o,p,g,l,q,j,u,r,A,y,z,B,D,F,E,v31,(.lit (.bool false)),uu,uu,uu,T,O,U,Q,L,G],h32⟩) (
 yO s k wl 50 Tryz.f50 iI 19 m0 ac gT ⟨[a,b,d,e,o,p,g,l,q,j,u,r,A,y,z,B,D,F,E,v31,v31,uu,N,J,T,O,U,Q,L,G],h32⟩):=kG
theorem Sp (h:Hp):yO s k wl 50 Tryz.f50 iI 21 m0 ac gT ⟨[a,b,d,e,o,p,g,l,q,j,u,r,A,y,z,B,D,F,E,I,M,R,N,J,T,O,U,Q,L,G],h⟩ =
 bm (aQ M J (.lit (.bool false))) h fun v39 h40=>
 gd v39 (
 bm (aa s.P 23 b 3) h40 fun v41 h42=>
 bm (ab s.P 3 v41 h42) h42 fun v43 h44=>
 bp (yC s k wl 50 false true (.fn (.func 93) [] []) [v43,(.lit (.int .i64 0)),(.lit (.int .i64 4))] h44) fun v45 h46=>
 yO s k wl 50 Tryz.f50 iI 26 m0 ac gT ⟨[a,b,d,e,o,p,g,l,q,j,u,r,A,y,z,B,D,F,E,I,M,R,N,J,v39,(.lit (.bool true)),v41,v43,v45,G],h46⟩) (
 yO s k wl 50 Tryz.f50 iI 26 m0 ac gT ⟨[a,b,d,e,o,p,g,l,q,j,u,r,A,y,z,B,D,F,E,I,M,R,N,J,v39,(.lit (.bool false)),uu,uu,uu,G],h40⟩) (
 yO s k wl 50 Tryz.f50 iI 24 m0 ac gT ⟨[a,b,d,e,o,p,g,l,q,j,u,r,A,y,z,B,D,F,E,I,M,R,N,J,v39,v39,uu,Q,L,G],h40⟩):=kG
theorem SK (h:Hp):yO s k wl 50 Tryz.f50 iI 26 m0 ac gT ⟨[a,b,d,e,o,p,g,l,q,j,u,r,A,y,z,B,D,F,E,I,M,R,N,J,T,O,U,Q,L,G],h⟩ =
 bm (aQ O L (.lit (.bool false))) h fun v47 h48=>
 some (v47,h48):=kG
theorem xL (cx:Cx) (K:Out→St→Option (V×Hp)) (s:St):au cx K gT .ret s=K .ret s:=by kernel_rfl
-- names: agD,Si,RY,Sp,SK,xL
noncomputable def Gm:Code:=al (am Tryz.f66) [1,0]
noncomputable def D6:List Fr:=[.seq (al (am Tryz.f66) [1,1])]
theorem agJ (h:Hp):ak (xX s 66 wl k false) Tryz.f66 [a,b] h =
 bm (aw s.P .geq 3 b (.lit (.int .i64 0))) h fun v1 h2=>
 gd v1 (
 bp (bc s.P 26 a h2) fun v3 h4=>
 bm (aw s.P .lss 3 b v3) h4 fun v5 h6=>
 yO s k wl 66 Tryz.f66 Gm 7 h.length ([],[]) D6 ⟨[a,b,uu,uu,(.lit (.bool false)),b,v1,(.lit (.bool true)),b,a,v3,v5,uu],h6⟩) (
 yO s k wl 66 Tryz.f66 Gm 7 h.length ([],[]) D6 ⟨[a,b,uu,uu,(.lit (.bool false)),b,v1,(.lit (.bool false)),uu,uu,uu,uu,uu],h2⟩) (
 yO s k wl 66 Tryz.f66 Gm 4 h.length ([],[]) D6 ⟨[a,b,uu,uu,(.lit (.bool false)),b,v1,v1,uu,uu,uu,uu,uu],h2⟩):=kB
theorem ahT (k wl:Nat) (h:Hp):evF Tryz.prog xM (k+1) wl 66 [a,b] h=ak (xX (xS k) 66 wl k false) Tryz.f66 [a,b] h:=by kernel_rfl
theorem RW (h:Hp):yO s k wl 66 Tryz.f66 Gm 7 m0 ac D6 ⟨[a,b,d,e,o,p,g,l,q,j,u,r,A],h⟩ =
 bm (aQ l r (.lit (.bool false))) h fun v7 h8=>
 some (v7,h8):=kG
theorem xW (cx:Cx) (K:Out→St→Option (V×Hp)) (s:St):au cx K D6 .ret s=K .ret s:=by kernel_rfl
-- names: agJ,RW,xW
noncomputable def rC:Code:=al (am Tryz.f69) [1,0]
noncomputable def oG:List Fr:=[.seq (al (am Tryz.f69) [1,1])]
theorem ag6 (h:Hp):ak (xX s 69 wl k false) Tryz.f69 [a] h =
 bp (aN a h) fun v1 h2=>
 bm (aa s.P 55 v1 0) h2 fun v3 h4=>
 bm (ab s.P 3 v3 h4) h4 fun v5 h6=>
 bm (aw s.P .eql 3 v5 (.lit (.int .i64 5))) h6 fun v7 h8=>
 gd v7 (
 bm (ab s.P 55 v1 h8) h8 fun v9 h10=>
 bp (yC s k wl 69 false true (.fn (.func 110) [] []) [v9] h10) fun v11 h12=>
 bm (vUn .not v11) h12 fun v13 h14=>
 yO s k wl 69 Tryz.f69 rC 7 h2.length ([],[]) oG ⟨[a,v1,(.lit (.bool false)),v3,v5,v7,(.lit (.bool true)),v9,v11,v13,uu,uu,uu,uu,uu,uu],h14⟩) (
 yO s k wl 69 Tryz.f69 rC 7 h2.length ([],[]) oG ⟨[a,v1,(.lit (.bool false)),v3,v5,v7,(.lit (.bool false)),uu,uu,uu,uu,uu,uu,uu,uu,uu],h8⟩) (
 yO s k wl 69 Tryz.f69 rC 5 h2.length ([],[]) oG ⟨[a,v1,(.lit (.bool false)),v3,v5,v7,v7,uu,uu,uu,uu,uu,uu,uu,uu,uu],h8⟩):=kB
theorem ahP (k wl:Nat) (h:Hp):evF Tryz.prog xM (k+1) wl 69 [a] h=ak (xX (xS k) 69 wl k false) Tryz.f69 [a] h:=by kernel_rfl
theorem RT (h:Hp):yO s k wl 69 Tryz.f69 rC 7 m0 ac oG ⟨[a,b,d,e,o,p,g,l,q,j,u,r,A,y,z,B],h⟩ =
 bm (aQ g j (.lit (.bool false))) h fun v15 h16=>
 gd v15 (
 bm (aa s.P 55 b 1) h16 fun v17 h18=>
 bm (ab s.P 3 v17 h18) h18 fun v19 h20=>
 bm (aw s.P .eql 3 v19 (.lit (.int .i64 3))) h20 fun v21 h22=>
 yO s k wl 69 Tryz.f69 rC 12 m0 ac oG ⟨[a,b,d,e,o,p,g,l,q,j,v15,(.lit (.bool true)),v17,v19,v21,B],h22⟩) (
 yO s k wl 69 Tryz.f69 rC 12 m0 ac oG ⟨[a,b,d,e,o,p,g,l,q,j,v15,(.lit (.bool false)),uu,uu,uu,B],h16⟩) (
 yO s k wl 69 Tryz.f69 rC 10 m0 ac oG ⟨[a,b,d,e,o,p,g,l,q,j,v15,v15,uu,y,z,B],h16⟩):=kG
theorem Ry (h:Hp):yO s k wl 69 Tryz.f69 rC 12 m0 ac oG ⟨[a,b,d,e,o,p,g,l,q,j,u,r,A,y,z,B],h⟩ =
 bm (aQ r z (.lit (.bool false))) h fun v23 h24=>
 some (v23,h24):=kG
theorem Aq (cx:Cx) (K:Out→St→Option (V×Hp)) (s:St):au cx K oG .ret s=K .ret s:=by kernel_rfl
-- names: ag6,RT,Ry,Aq
noncomputable def HG:Code:=al (am Tryz.f70) [1,0,0]
noncomputable def DV:List Fr:=[.seq (al (am Tryz.f70) [1,0,1]),.seq (al (am Tryz.f70) [1,1])]
theorem Vo (h:Hp):ak (xX s 70 wl k false) Tryz.f70 [a,b,d] h =
 bp (aN a h) fun v1 h2=>
 bm (ab s.P 23 v1 h2) h2 fun v3 h4=>
 bp (yC s k wl 70 false true (.fn (.func 50) [] []) [v3] h4) fun v5 h6=>
 bm (vUn .not v5) h6 fun v7 h8=>
 gd v7 (
 yO s k wl 70 Tryz.f70 HG 10 h2.length ([],[]) DV ⟨[a,b,d,v1,uu,uu,(.lit (.int .i64 0)),v3,v5,v7,(.lit (.bool true)),uu,uu,uu,uu,uu,uu,uu,uu,uu],h8⟩) (
 bm (aa s.P 23 v1 0) h8 fun v9 h10=>
 bm (ab s.P 3 v9 h10) h10 fun v11 h12=>
 bm (aw s.P .sub 3 v11 (.lit (.int .i64 1))) h12 fun v13 h14=>
 bp (yC s k wl 70 false true (.fn (.func 93) [] []) [b,(.lit (.int .i64 0)),v13] h14) fun v15 h16=>
 bm (vUn .not v15) h16 fun v17 h18=>
 yO s k wl 70 Tryz.f70 HG 10 h2.length ([],[]) DV ⟨[a,b,d,v1,uu,uu,(.lit (.int .i64 0)),v3,v5,v7,(.lit (.bool false)),b,v9,v11,v13,v15,v17,uu,uu,uu],h18⟩) (
 yO s k wl 70 Tryz.f70 HG 5 h2.length ([],[]) DV ⟨[a,b,d,v1,uu,uu,(.lit (.int .i64 0)),v3,v5,v7,v7,uu,uu,uu,uu,uu,uu,uu,uu,uu],h8⟩):=kB
theorem Xt (k wl:Nat) (h:Hp):evF Tryz.prog xM (k+1) wl 70 [a,b,d] h=ak (xX (xS k) 70 wl k false) Tryz.f70 [a,b,d] h:=by kernel_rfl
theorem wG (h:Hp):yO s k wl 70 Tryz.f70 HG 10 m0 ac DV ⟨[a,b,d,e,o,p,g,l,q,j,u,r,A,y,z,B,D,F,E,I],h⟩ =
 bm (aQ u (.lit (.bool true)) D) h fun v19 h20=>
 cnd v19 (
 some ((.lit (.int .i64 (-1))),h20)) (
 bp (yC s k wl 70 false true d [] h20) fun v21 h22=>
 some (v21,h22)):=kG
theorem gD (cx:Cx) (K:Out→St→Option (V×Hp)) (s:St):au cx K DV .ret s=K .ret s:=by kernel_rfl
-- names: Vo,wG,gD
theorem agG (h:Hp):ak (xX s 71 wl k false) Tryz.f71 [a,b] h =
 bm (ab s.P 23 a h) h fun v1 h2=>
 bm (ab s.P 3 b h2) h2 fun v3 h4=>
 bp (yC s k wl 71 false true (.fn (.func 72) [] []) [v1,v3] h4) fun v5 h6=>
 bm (aw s.P .add 3 v5 (.lit (.int .i64 2))) h6 fun v7 h8=>
 some (v7,h8):=kB
theorem aho (k wl:Nat) (h:Hp):evF Tryz.prog xM (k+1) wl 71 [a,b] h=ak (xX (xS k) 71 wl k false) Tryz.f71 [a,b] h:=by kernel_rfl
-- names: agG,
theorem agR (h:Hp):ak (xX s 72 wl k false) Tryz.f72 [a,b] h =
 bp (aN a h) fun v1 h2=>
 bm (aa s.P 23 v1 2) h2 fun v3 h4=>
 bm (ab s.P 3 v3 h4) h4 fun v5 h6=>
 bm (aw s.P .mul 3 (.lit (.int .i64 2)) v5) h6 fun v7 h8=>
 bm (aw s.P .add 3 (.lit (.int .i64 6)) v7) h8 fun v9 h10=>
 bm (aa s.P 23 v1 1) h10 fun v11 h12=>
 bm (ab s.P 3 v11 h12) h12 fun v13 h14=>
 bm (aw s.P .add 3 (.lit (.int .i64 3)) v13) h14 fun v15 h16=>
 bm (aw s.P .mul 3 b v15) h16 fun v17 h18=>
 bm (aw s.P .add 3 v9 v17) h18 fun v19 h20=>
 some (v19,h20):=kB
theorem ahk (k wl:Nat) (h:Hp):evF Tryz.prog xM (k+1) wl 72 [a,b] h=ak (xX (xS k) 72 wl k false) Tryz.f72 [a,b] h:=by kernel_rfl
-- names: agR,
theorem ag2 (h:Hp):ak (xX s 88 wl k false) Tryz.f88 [a,b,d] h =
 bp (aN d h) fun v1 h2=>
 bp (some (.own h2.length 0 0,h2++[.rows 0 [] 0 true])) fun v3 h4=>
 bp (yC s k wl 88 false true (.fn (.func 143) [] []) [a,b,(.fn (.func 144) [] [v1])] h4) fun v5 h6=>
 bm (aq v5 0) h6 fun v7 h8=>
 bm (aq v5 1) h8 fun v9 h10=>
 some (v7,h10):=kB
theorem ahv (k wl:Nat) (h:Hp):evF Tryz.prog xM (k+1) wl 88 [a,b,d] h=ak (xX (xS k) 88 wl k false) Tryz.f88 [a,b,d] h:=by kernel_rfl
-- names: ag2,
noncomputable def GS:Code:=al (am Tryz.f93) [1,0]
noncomputable def Dr:List Fr:=[.seq (al (am Tryz.f93) [1,1])]
theorem agx (h:Hp):ak (xX s 93 wl k false) Tryz.f93 [a,b,d] h =
 bm (aw s.P .geq 3 a b) h fun v1 h2=>
 gd v1 (
 bm (aw s.P .leq 3 a d) h2 fun v3 h4=>
 yO s k wl 93 Tryz.f93 GS 7 h.length ([],[]) Dr ⟨[a,b,d,uu,uu,uu,(.lit (.bool false)),a,b,v1,(.lit (.bool true)),a,d,v3,uu],h4⟩) (
 yO s k wl 93 Tryz.f93 GS 7 h.length ([],[]) Dr ⟨[a,b,d,uu,uu,uu,(.lit (.bool false)),a,b,v1,(.lit (.bool false)),uu,uu,uu,uu],h2⟩) (
 yO s k wl 93 Tryz.f93 GS 5 h.length ([],[]) Dr ⟨[a,b,d,uu,uu,uu,(.lit (.bool false)),a,b,v1,v1,uu,uu,uu,uu],h2⟩):=kB
theorem ahN (k wl:Nat) (h:Hp):evF Tryz.prog xM (k+1) wl 93 [a,b,d] h=ak (xX (xS k) 93 wl k false) Tryz.f93 [a,b,d] h:=by kernel_rfl
theorem Sm (h:Hp):yO s k wl 93 Tryz.f93 GS 7 m0 ac Dr ⟨[a,b,d,e,o,p,g,l,q,j,u,r,A,y,z],h⟩ =
 bm (aQ u y (.lit (.bool false))) h fun v5 h6=>
 some (v5,h6):=kG
theorem Am (cx:Cx) (K:Out→St→Option (V×Hp)) (s:St):au cx K Dr .ret s=K .ret s:=by kernel_rfl
-- names: agx,Sm,Am
theorem YT (h:Hp):ak (xX s 103 wl k false) Tryz.f103 [a] h =
 bp (aN a h) fun v1 h2=>
 bm (ab s.P 23 v1 h2) h2 fun v3 h4=>
 bp (yC s k wl 103 false true (.fn (.func 50) [] []) [v3] h4) fun v5 h6=>
 bm (vUn .not v5) h6 fun v7 h8=>
 cnd v7 (
 some ((.lit (.int .i64 0)),h8)) (
 bm (ab s.P 23 v1 h8) h8 fun v9 h10=>
 bm (aa s.P 23 v1 0) h10 fun v11 h12=>
 bm (ab s.P 3 v11 h12) h12 fun v13 h14=>
 bp (yC s k wl 103 false true (.fn (.func 72) [] []) [v9,v13] h14) fun v15 h16=>
 some (v15,h16)):=kB
theorem acq (k wl:Nat) (h:Hp):evF Tryz.prog xM (k+1) wl 103 [a] h=ak (xX (xS k) 103 wl k false) Tryz.f103 [a] h:=by kernel_rfl
-- names: YT,
theorem abu (h:Hp):ak (xX s 104 wl k false) Tryz.f104 [a,b,d] h =
 bp (av s.P 55 h) fun v1 h2=>
 bm (a8 s.P 55 [(0,a),(2,b),(3,d)]) h2 fun v3 h4=>
 bs (ai s.P wl 55 v1 v3 h4) fun h5=>
 ef [ab s.P 55 v1 h5] h5:=kB
theorem afg (k wl:Nat) (h:Hp):evF Tryz.prog xM (k+1) wl 104 [a,b,d] h=ak (xX (xS k) 104 wl k false) Tryz.f104 [a,b,d] h:=by kernel_rfl
-- names: abu,
theorem abm (h:Hp):ak (xX s 107 wl k false) Tryz.f107 [a,b] h =
 bp (aN a h) fun v1 h2=>
 bp (aN b h2) fun v3 h4=>
 bm (ab s.P 23 v1 h4) h4 fun v5 h6=>
 bm (ab s.P 3 v3 h6) h6 fun v7 h8=>
 bp (yC s k wl 107 false true (.fn (.func 70) [] []) [v5,v7,(.fn (.func 149) [] [v1,v3])] h8) fun v9 h10=>
 some (v9,h10):=kB
theorem adi (k wl:Nat) (h:Hp):evF Tryz.prog xM (k+1) wl 107 [a,b] h=ak (xX (xS k) 107 wl k false) Tryz.f107 [a,b] h:=by kernel_rfl
-- names: abm,
theorem ZQ (h:Hp):ak (xX s 108 wl k false) Tryz.f108 [a,b] h =
 bp (aN a h) fun v1 h2=>
 bp (aN b h2) fun v3 h4=>
 bm (ab s.P 23 v1 h4) h4 fun v5 h6=>
 bm (ab s.P 3 v3 h6) h6 fun v7 h8=>
 bp (yC s k wl 108 false true (.fn (.func 70) [] []) [v5,v7,(.fn (.func 150) [] [v1,v3])] h8) fun v9 h10=>
 some (v9,h10):=kB
theorem adg (k wl:Nat) (h:Hp):evF Tryz.prog xM (k+1) wl 108 [a,b] h=ak (xX (xS k) 108 wl k false) Tryz.f108 [a,b] h:=by kernel_rfl
-- names: ZQ,
theorem Z8 (h:Hp):ak (xX s 109 wl k false) Tryz.f109 [a,b,d] h =
 bp (aN a h) fun v1 h2=>
 bp (aN b h2) fun v3 h4=>
 bp (aN d h4) fun v5 h6=>
 bm (ab s.P 23 v1 h6) h6 fun v7 h8=>
 bm (ab s.P 3 v3 h8) h8 fun v9 h10=>
 bp (yC s k wl 109 false true (.fn (.func 70) [] []) [v7,v9,(.fn (.func 151) [] [v1,v3,v5])] h10) fun v11 h12=>
 some (v11,h12):=kB
theorem aea (k wl:Nat) (h:Hp):evF Tryz.prog xM (k+1) wl 109 [a,b,d] h=ak (xX (xS k) 109 wl k false) Tryz.f109 [a,b,d] h:=by kernel_rfl
-- names: Z8,
theorem Zi (h:Hp):ak (xX s 110 wl k false) Tryz.f110 [a] h =
 bp (aN a h) fun v1 h2=>
 bm (aa s.P 55 v1 6) h2 fun v3 h4=>
 bm (ab s.P 3 v3 h4) h4 fun v5 h6=>
 bm (aw s.P .neq 3 v5 (.lit (.int .i64 0))) h6 fun v7 h8=>
 some (v7,h8):=kB
theorem afD (k wl:Nat) (h:Hp):evF Tryz.prog xM (k+1) wl 110 [a] h=ak (xX (xS k) 110 wl k false) Tryz.f110 [a] h:=by kernel_rfl
-- names: Zi,
theorem ZT (h:Hp):ak (xX s 138 wl k false) Tryz.f138 [a,b,d] h =
 bp (aN d h) fun v1 h2=>
 bp (some (.own h2.length 0 0,h2++[.rows 0 [] 0 true])) fun v3 h4=>
 bp (yC s k wl 138 false true (.fn (.func 143) [] []) [a,b,(.fn (.func 169) [] [v1])] h4) fun v5 h6=>
 bm (aq v5 0) h6 fun v7 h8=>
 bm (aq v5 1) h8 fun v9 h10=>
 some (.tup [v7,v9],h10):=kB
theorem ads (k wl:Nat) (h:Hp):evF Tryz.prog xM (k+1) wl 138 [a,b,d] h=ak (xX (xS k) 138 wl k false) Tryz.f138 [a,b,d] h:=by kernel_rfl
-- names: ZT,
theorem O5 (h:Hp):ak (xX s 143 wl k false) Tryz.f143 [a,b,d] h =
 bp (some (.own h.length 0 0,h++[.rows 0 [] 0 true])) fun v1 h2=>
 bp (yC s k wl 143 false true (.fn (.func 76) [] []) [a] h2) fun v3 h4=>
 bp (yC s k wl 143 false true (.fn (.func 66) [] []) [a,b] h4) fun v5 h6=>
 bm (vUn .not v5) h6 fun v7 h8=>
 cnd v7 (
 some (.tup [v3,(.lit (.int .u64 0))],h8)) (
 bm (aj s.P 26 a b h8) h8 fun v9 h10=>
 bm (ab s.P 46 v9 h10) h10 fun v11 h12=>
 bp (yC s k wl 143 false true d [v11] h12) fun v13 h14=>
 bm (aj s.P 26 v3 b h14) h14 fun v15 h16=>
 bs (ai s.P wl 46 v15 v13 h16) fun h17=>
 bm (aj s.P 26 a b h17) h17 fun v18 h19=>
 bm (ab s.P 46 v18 h19) h19 fun v20 h21=>
 some (.tup [v3,v20],h21)):=kB
theorem Ug (k wl:Nat) (h:Hp):evF Tryz.prog xM (k+1) wl 143 [a,b,d] h=ak (xX (xS k) 143 wl k false) Tryz.f143 [a,b,d] h:=by kernel_rfl
-- names: O5,
theorem Yn (h:Hp):ak (xX s 144 wl k false) Tryz.f144 [a,b] h =
 bm (ab s.P 46 b h) h fun v1 h2=>
 some (v1,h2):=kB
theorem afC (k wl:Nat) (h:Hp):evF Tryz.prog xM (k+1) wl 144 [a,b] h=ak (xX (xS k) 144 wl k false) Tryz.f144 [a,b] h:=by kernel_rfl
-- names: Yn,
theorem Yu (h:Hp):ak (xX s 149 wl k false) Tryz.f149 [a,b] h =
 bm (ab s.P 23 a h) h fun v1 h2=>
 bm (ab s.P 3 b h2) h2 fun v3 h4=>
 bp (yC s k wl 149 false true (.fn (.func 72) [] []) [v1,v3] h4) fun v5 h6=>
 some (v5,h6):=kB
theorem aeS (k wl:Nat) (h:Hp):evF Tryz.prog xM (k+1) wl 149 [a,b] h=ak (xX (xS k) 149 wl k false) Tryz.f149 [a,b] h:=by kernel_rfl
-- names: Yu,
theorem YS (h:Hp):ak (xX s 150 wl k false) Tryz.f150 [a,b] h =
 bm (ab s.P 23 a h) h fun v1 h2=>
 bm (ab s.P 3 b h2) h2 fun v3 h4=>
 bp (yC s k wl 150 false true (.fn (.func 72) [] []) [v1,v3] h4) fun v5 h6=>
 bm (aw s.P .add 3 v5 (.lit (.int .i64 1))) h6 fun v7 h8=>
 some (v7,h8):=kB
theorem aeL (k wl:Nat) (h:Hp):evF Tryz.prog xM (k+1) wl 150 [a,b] h=ak (xX (xS k) 150 wl k false) Tryz.f150 [a,b] h:=by kernel_rfl
-- names: YS,
theorem abe (h:Hp):ak (xX s 151 wl k false) Tryz.f151 [a,b,d] h =
 bm (ab s.P 23 a h) h fun v1 h2=>
 bm (ab s.P 3 b h2) h2 fun v3 h4=>
 bp (yC s k wl 151 true true (.fn (.func 72) [] []) [v1,v3] h4) fun v5 h6=>
 bm (aw s.P .add 3 v5 (.lit (.int .i64 3))) h6 fun v7 h8=>
 stO h.length d (
 bm (ab s.P 46 d h8) h8 fun v9 h10=>
 bm (aa s.P 23 a 1) h10 fun v11 h12=>
 stO h.length v11 (
 bm (ab s.P 3 v11 h12) h12 fun v13 h14=>
 bm (aw s.P .sub 3 v13 (.lit (.int .i64 1))) h14 fun v15 h16=>
 bm (fI s.P 3 46 v15) h16 fun v17 h18=>
 bm (aw s.P .and 46 v9 v17) h18 fun v19 h20=>
 bm (fI s.P 46 3 v19) h20 fun v21 h22=>
 bm (aw s.P .add 3 v7 v21) h22 fun v23 h24=>
 some (v23,h24))):=kB
theorem acM (k wl:Nat) (h:Hp):evF Tryz.prog xM (k+1) wl 151 [a,b,d] h=ak (xX (xS k) 151 wl k false) Tryz.f151 [a,b,d] h:=by kernel_rfl
-- names: abe,
theorem aaP (h:Hp):ak (xX s 169 wl k false) Tryz.f169 [a,b] h =
 bm (ab s.P 46 b h) h fun v1 h2=>
 bm (aw s.P .add 46 a v1) h2 fun v3 h4=>
 some (v3,h4):=kB
theorem aeQ (k wl:Nat) (h:Hp):evF Tryz.prog xM (k+1) wl 169 [a,b] h=ak (xX (xS k) 169 wl k false) Tryz.f169 [a,b] h:=by kernel_rfl
-- names: aaP,
theorem abG (h:Hp):ak (xX s 191 wl k false) Tryz.f191 [a,b,d,e] h =
 bp (aN d h) fun v1 h2=>
 bp (aN e h2) fun v3 h4=>
 bp (some (.own h4.length 0 0,h4++[.rows 0 [] 0 true])) fun v5 h6=>
 bp (av s.P 4 h6) fun v7 h8=>
 bs (ai s.P wl 4 v7 (.lit (.bool false)) h8) fun h9=>
 bp (yC s k wl 191 false true (.fn (.func 143) [] []) [a,b,(.fn (.func 219) [] [v1,v7,v3])] h9) fun v10 h11=>
 bm (aq v10 0) h11 fun v12 h13=>
 bm (aq v10 1) h13 fun v14 h15=>
 bm (ab s.P 4 v7 h15) h15 fun v16 h17=>
 some (.tup [v12,v16],h17):=kB
theorem adv (k wl:Nat) (h:Hp):evF Tryz.prog xM (k+1) wl 191 [a,b,d,e] h=ak (xX (xS k) 191 wl k false) Tryz.f191 [a,b,d,e] h:=by kernel_rfl
-- names: abG,
theorem YQ (h:Hp):ak (xX s 219 wl k false) Tryz.f219 [a,b,d,e] h =
 bm (ab s.P 46 b h) h fun v1 h2=>
 bm (aw s.P .neq 46 a v1) h2 fun v3 h4=>
 cnd v3 (
 some (a,h4)) (
 bs (ai s.P wl 4 d (.lit (.bool true)) h4) fun h5=>
 bm (ab s.P 46 e h5) h5 fun v6 h7=>
 some (v6,h7)):=kB
theorem ae2 (k wl:Nat) (h:Hp):evF Tryz.prog xM (k+1) wl 219 [a,b,d,e] h=ak (xX (xS k) 219 wl k false) Tryz.f219 [a,b,d,e] h:=by kernel_rfl
-- names: YQ,
theorem aac (h:Hp):ak (xX s 222 wl k false) Tryz.f222 [a,b] h =
 bm (ab s.P 46 a h) h fun v1 h2=>
 bm (aa s.P 23 b 2) h2 fun v3 h4=>
 bm (ab s.P 3 v3 h4) h4 fun v5 h6=>
 bm (fI s.P 3 46 v5) h6 fun v7 h8=>
 bm (aw s.P .rem 46 v1 v7) h8 fun v9 h10=>
 bm (fI s.P 46 3 v9) h10 fun v11 h12=>
 bm (aw s.P .add 3 (.lit (.int .i64 6)) v11) h12 fun v13 h14=>
 some (v13,h14):=kB
theorem ad6 (k wl:Nat) (h:Hp):evF Tryz.prog xM (k+1) wl 222 [a,b] h=ak (xX (xS k) 222 wl k false) Tryz.f222 [a,b] h:=by kernel_rfl
-- names: aac,
theorem aa3 (h:Hp):ak (xX s 223 wl k false) Tryz.f223 [a,b] h =
 bm (aa s.P 23 a 2) h fun v1 h2=>
 bm (ab s.P 3 v1 h2) h2 fun v3 h4=>
 bm (aw s.P .add 3 (.lit (.int .i64 6)) v3) h4 fun v5 h6=>
 bm (ab s.P 46 b h6) h6 fun v7 h8=>
 bm (aa s.P 23 a 2) h8 fun v9 h10=>
 bm (ab s.P 3 v9 h10) h10 fun v11 h12=>
 bm (fI s.P 3 46 v11) h12 fun v13 h14=>
 bm (aw s.P .rem 46 v7 v13) h14 fun v15 h16=>
 bm (fI s.P 46 3 v15) h16 fun v17 h18=>
 bm (aw s.P .add 3 v5 v17) h18 fun v19 h20=>
 some (v19,h20):=kB
theorem ae5 (k wl:Nat) (h:Hp):evF Tryz.prog xM (k+1) wl 223 [a,b] h=ak (xX (xS k) 223 wl k false) Tryz.f223 [a,b] h:=by kernel_rfl
-- names: aa3,
theorem aaO (h:Hp):ak (xX s 203 wl k false) Tryz.f203 [a,b] h =
 bp (aN a h) fun v1 h2=>
 bp (aN b h2) fun v3 h4=>
 bm (ab s.P 23 v1 h4) h4 fun v5 h6=>
 bp (yC s k wl 203 false true (.fn (.func 70) [] []) [v5,(.lit (.int .i64 0)),(.fn (.func 222) [] [v3,v1])] h6) fun v7 h8=>
 some (v7,h8):=kB
theorem adQ (k wl:Nat) (h:Hp):evF Tryz.prog xM (k+1) wl 203 [a,b] h=ak (xX (xS k) 203 wl k false) Tryz.f203 [a,b] h:=by kernel_rfl
-- names: aaO,
theorem ZY (h:Hp):ak (xX s 205 wl k false) Tryz.f205 [a,b] h =
 bp (aN a h) fun v1 h2=>
 bp (aN b h2) fun v3 h4=>
 bm (ab s.P 23 v1 h4) h4 fun v5 h6=>
 bp (yC s k wl 205 false true (.fn (.func 70) [] []) [v5,(.lit (.int .i64 0)),(.fn (.func 223) [] [v1,v3])] h6) fun v7 h8=>
 some (v7,h8):=kB
theorem adK (k wl:Nat) (h:Hp):evF Tryz.prog xM (k+1) wl 205 [a,b] h=ak (xX (xS k) 205 wl k false) Tryz.f205 [a,b] h:=by kernel_rfl
-- names: ZY,
end
end Go.Ab
set_option maxRecDepth 100000
set_option linter.unusedVariables false
namespace Go.Ab
open Go.Proofs
section
variable (s:Sys) (k wl:Nat) (m0:Nat) (ac:List Nat×List Nat) (c d g l j o r q y v u B z A p D G E F J M L I N T X U W Q R Y O t4 t1 t2 t3 t0 Z:V)
noncomputable def HB:Code:=al (am Tryz.f31) [1,0]
noncomputable def CS:List Fr:=[.seq (al (am Tryz.f31) [1,1])]
theorem agp (h:Hp):ak (xX s 31 wl k false) Tryz.f31 [c] h =
 bp (aN c h) fun v1 h2=>
 bm (aa s.P 65 v1 0) h2 fun v3 h4=>
 bm (ab s.P 3 v3 h4) h4 fun v5 h6=>
 bm (aw s.P .eql 3 v5 (.lit (.int .i64 8))) h6 fun v7 h8=>
 gd v7 (
 bm (aa s.P 65 v1 2) h8 fun v9 h10=>
 bm (ab s.P 55 v9 h10) h10 fun v11 h12=>
 bp (yC s k wl 31 false true (.fn (.func 69) [] []) [v11] h12) fun v13 h14=>
 yO s k wl 31 Tryz.f31 HB 7 h2.length ([],[]) CS ⟨[c,v1,(.lit (.bool false)),v3,v5,v7,(.lit (.bool true)),v9,v11,v13,uu],h14⟩) (
 yO s k wl 31 Tryz.f31 HB 7 h2.length ([],[]) CS ⟨[c,v1,(.lit (.bool false)),v3,v5,v7,(.lit (.bool false)),uu,uu,uu,uu],h8⟩) (
 yO s k wl 31 Tryz.f31 HB 5 h2.length ([],[]) CS ⟨[c,v1,(.lit (.bool false)),v3,v5,v7,v7,uu,uu,uu,uu],h8⟩):=kB
theorem ahR (k wl:Nat) (h:Hp):evF Tryz.prog xM (k+1) wl 31 [c] h=ak (xX (xS k) 31 wl k false) Tryz.f31 [c] h:=by kernel_rfl
theorem Rj (h:Hp):yO s k wl 31 Tryz.f31 HB 7 m0 ac CS ⟨[c,d,g,l,j,o,r,q,y,v,u],h⟩ =
 bm (aQ r v (.lit (.bool false))) h fun v15 h16=>
 some (v15,h16):=kG
theorem Ac (cx:Cx) (K:Out→St→Option (V×Hp)) (s:St):au cx K CS .ret s=K .ret s:=by kernel_rfl
-- names: agp,Rj,Ac
theorem Yw (h:Hp):ak (xX s 106 wl k false) Tryz.f106 [c,d] h =
 bm (aw s.P .sub 46 c d) h fun v1 h2=>
 bm (fI s.P 46 3 v1) h2 fun v3 h4=>
 some (v3,h4):=kB
theorem af0 (k wl:Nat) (h:Hp):evF Tryz.prog xM (k+1) wl 106 [c,d] h=ak (xX (xS k) 106 wl k false) Tryz.f106 [c,d] h:=by kernel_rfl
-- names: Yw,
noncomputable def BI:Code:=al (am Tryz.f161) [1,0,0]
noncomputable def we:List Fr:=[.seq (al (am Tryz.f161) [1,0,1]),.seq (al (am Tryz.f161) [1,1])]
theorem aa2 (h:Hp):ak (xX s 161 wl k false) Tryz.f161 [c,d,g] h =
 bm (aw s.P .lss 3 g (.lit (.int .i64 2))) h fun v1 h2=>
 gd v1 (
 yO s k wl 161 Tryz.f161 BI 7 h.length ([],[]) we ⟨[c,d,g,uu,uu,uu,(.lit (.int .i64 0)),uu,g,v1,(.lit (.bool true)),uu,uu,uu,uu,uu,uu,uu,uu,uu,uu,uu,uu,uu,uu,uu,uu,uu,uu],h2⟩) (
 bp (yC s k wl 161 false true (.fn (.func 81) [] []) [d,g] h2) fun v3 h4=>
 bm (vUn .not v3) h4 fun v5 h6=>
 yO s k wl 161 Tryz.f161 BI 7 h.length ([],[]) we ⟨[c,d,g,uu,uu,uu,(.lit (.int .i64 0)),uu,g,v1,(.lit (.bool false)),d,g,v3,v5,uu,uu,uu,uu,uu,uu,uu,uu,uu,uu,uu,uu,uu,uu],h6⟩) (
 yO s k wl 161 Tryz.f161 BI 4 h.length ([],[]) we ⟨[c,d,g,uu,uu,uu,(.lit (.int .i64 0)),uu,g,v1,v1,uu,uu,uu,uu,uu,uu,uu,uu,uu,uu,uu,uu,uu,uu,uu,uu,uu,uu],h2⟩):=kB
theorem aeJ (k wl:Nat) (h:Hp):evF Tryz.prog xM (k+1) wl 161 [c,d,g] h=ak (xX (xS k) 161 wl k false) Tryz.f161 [c,d,g] h:=by kernel_rfl
theorem LW (h:Hp):yO s k wl 161 Tryz.f161 BI 7 m0 ac we ⟨[c,d,g,l,j,o,r,q,y,v,u,B,z,A,p,D,G,E,F,J,M,L,I,N,T,X,U,W,Q],h⟩ =
 bm (aQ u (.lit (.bool true)) p) h fun v7 h8=>
 cnd v7 (
 some ((.lit (.int .i64 (-1))),h8)) (
 bm (fI s.P 3 46 g) h8 fun v9 h10=>
 bm (fI s.P 3 46 d) h10 fun v11 h12=>
 bm (aw s.P .add 46 v11 (.lit (.int .u64 1))) h12 fun v13 h14=>
 bm (aw s.P .sub 46 v9 (.lit (.int .u64 1))) h14 fun v15 h16=>
 bm (aw s.P .rem 46 c v15) h16 fun v17 h18=>
 bm (aw s.P .add 46 v13 v17) h18 fun v19 h20=>
 bm (aw s.P .rem 46 v19 v9) h20 fun v21 h22=>
 bm (fI s.P 46 3 v21) h22 fun v23 h24=>
 some (v23,h24)):=kG
theorem uj (cx:Cx) (K:Out→St→Option (V×Hp)) (s:St):au cx K we .ret s=K .ret s:=by kernel_rfl
-- names: aa2,LW,uj
theorem aaK (h:Hp):ak (xX s 192 wl k false) Tryz.f192 [c] h =
 bm (aw s.P .and 46 c (.lit (.int .u64 65535))) h fun v1 h2=>
 some (v1,h2):=kB
theorem ae4 (k wl:Nat) (h:Hp):evF Tryz.prog xM (k+1) wl 192 [c] h=ak (xX (xS k) 192 wl k false) Tryz.f192 [c] h:=by kernel_rfl
-- names: aaK,
noncomputable def Kr:Code:=al (am Tryz.f195) [1,0,1,0]
noncomputable def F9:Code:=al (am Tryz.f195) [1,0,1,0,0]
noncomputable def EO:Code:=al (am Tryz.f195) [1,0,1,0,1]
noncomputable def Cb:List Fr:=[.block 0,.seq (al (am Tryz.f195) [1,1])]
theorem xO:Kr = .rangeFunc (.tmp 5) #[6] F9 EO:=by kernel_rfl
theorem UL (h:Hp):ak (xX s 195 wl k false) Tryz.f195 [c] h =
 bp (av s.P 3 h) fun v1 h2=>
 bp (yC s k wl 195 false true (.fn (.func 220) [] []) [c] h2) fun v3 h4=>
 ba (xX s 195 wl k false) Kr none (au (xX s 195 wl k false) (ao s.P Tryz.f195) Cb) ⟨[c,uu,v1,uu,c,v3,uu,uu],h4⟩:=kB
theorem Yz (k wl:Nat) (h:Hp):evF Tryz.prog xM (k+1) wl 195 [c] h=ak (xX (xS k) 195 wl k false) Tryz.f195 [c] h:=by kernel_rfl
theorem Xo (P:Program) (h:Hp):ao P Tryz.f195 .ret ⟨[c,d,g,l,j,o,r,q],h⟩=ef [ab P 3 g h] h:=by kernel_rfl
theorem Fj (s:Sys) (k wl:Nat) (zz:List V) (h:Hp):au (xX s 195 wl k false) (ao s.P Tryz.f195) Cb .norm ⟨(c::d::g::zz),h⟩ =
 bs (ai s.P wl 3 g (.lit (.int .i64 (-1))) h) fun h5=>
 ef [ab s.P 3 g h5] h5:=kR
theorem ks (s:Sys) (K:Out→St→Option (V×Hp)) (k wl:Nat) (rd:Bool) (h:Hp):au (xX s 195 wl k rd) K [.seq EO] .norm ⟨[c,d,g,l,j,o,r,q],h⟩ =
 bs (ai s.P wl 3 g l h) fun h6=>
 K .ret ⟨[c,d,g,l,j,o,r,l],h6⟩:=kR
theorem ki (s:Sys) (K:Out→St→Option (V×Hp)) (k wl:Nat) (rd:Bool) (h:Hp):au (xX s 195 wl k rd) K [.seq F9] .norm ⟨[c,d,g,l,j,o,r,q],h⟩ =
 K .norm ⟨[c,d,g,r,j,o,r,q],h⟩:=kR
theorem oa (cx:Cx) (K:Out→St→Option (V×Hp)) (s:St):au cx K Cb .ret s=K .ret s:=by kernel_rfl
-- names: UL,Xo,Fj,ks,ki,oa
-- range over a function at [1,0,1,0]
theorem Z5 (h:Hp):ak (xX s 213 wl k false) Tryz.f213 [c] h =
 bm (aw s.P .shr 46 c (.lit (.int .u64 16))) h fun v1 h2=>
 some (v1,h2):=kB
theorem adZ (k wl:Nat) (h:Hp):evF Tryz.prog xM (k+1) wl 213 [c] h=ak (xX (xS k) 213 wl k false) Tryz.f213 [c] h:=by kernel_rfl
-- names: Z5,
noncomputable def B2:Code:=al (am Tryz.f214) [1,0,0]
noncomputable def uT:List Fr:=[.seq (al (am Tryz.f214) [1,0,1]),.seq (al (am Tryz.f214) [1,1])]
theorem Yq (h:Hp):ak (xX s 214 wl k false) Tryz.f214 [c,d] h =
 bm (aw s.P .lss 3 d (.lit (.int .i64 0))) h fun v1 h2=>
 gd v1 (
 yO s k wl 214 Tryz.f214 B2 5 h.length ([],[]) uT ⟨[c,d,uu,uu,(.lit (.int .u64 0)),d,v1,(.lit (.bool true)),uu,uu,uu,uu,uu,uu,uu,uu],h2⟩) (
 bm (aw s.P .geq 3 d (.lit (.int .i64 16))) h2 fun v3 h4=>
 yO s k wl 214 Tryz.f214 B2 5 h.length ([],[]) uT ⟨[c,d,uu,uu,(.lit (.int .u64 0)),d,v1,(.lit (.bool false)),d,v3,uu,uu,uu,uu,uu,uu],h4⟩) (
 yO s k wl 214 Tryz.f214 B2 4 h.length ([],[]) uT ⟨[c,d,uu,uu,(.lit (.int .u64 0)),d,v1,v1,uu,uu,uu,uu,uu,uu,uu,uu],h2⟩):=kB
theorem aek (k wl:Nat) (h:Hp):evF Tryz.prog xM (k+1) wl 214 [c,d] h=ak (xX (xS k) 214 wl k false) Tryz.f214 [c,d] h:=by kernel_rfl
theorem MH (h:Hp):yO s k wl 214 Tryz.f214 B2 5 m0 ac uT ⟨[c,d,g,l,j,o,r,q,y,v,u,B,z,A,p,D],h⟩ =
 bm (aQ q (.lit (.bool true)) v) h fun v5 h6=>
 cnd v5 (
 some (c,h6)) (
 bm (aw s.P .shl 46 (.lit (.int .u64 1)) d) h6 fun v7 h8=>
 bm (aw s.P .or 46 c v7) h8 fun v9 h10=>
 some (v9,h10)):=kG
theorem wU (cx:Cx) (K:Out→St→Option (V×Hp)) (s:St):au cx K uT .ret s=K .ret s:=by kernel_rfl
-- names: Yq,MH,wU
theorem Yx (h:Hp):ak (xX s 216 wl k false) Tryz.f216 [c] h =
 bp (yC s k wl 216 false true (.fn (.func 192) [] []) [c] h) fun v1 h2=>
 bp (yC s k wl 216 false true (.fn (.func 213) [] []) [c] h2) fun v3 h4=>
 bm (aw s.P .add 46 v3 (.lit (.int .u64 1))) h4 fun v5 h6=>
 bm (aw s.P .sub 46 v1 (.lit (.int .u64 1))) h6 fun v7 h8=>
 bm (aw s.P .and 46 v1 v7) h8 fun v9 h10=>
 bp (yC s k wl 216 false true (.fn (.func 233) [] []) [v5,v9] h10) fun v11 h12=>
 bp (yC s k wl 216 false true (.fn (.func 195) [] []) [v1] h12) fun v13 h14=>
 some (.tup [v11,v13],h14):=kB
theorem afY (k wl:Nat) (h:Hp):evF Tryz.prog xM (k+1) wl 216 [c] h=ak (xX (xS k) 216 wl k false) Tryz.f216 [c] h:=by kernel_rfl
-- names: Yx,
theorem X4 (h:Hp):ak (xX s 218 wl k false) Tryz.f218 [c] h =
 bp (yC s k wl 218 false true (.fn (.func 213) [] []) [c] h) fun v1 h2=>
 bm (aw s.P .add 46 v1 (.lit (.int .u64 1))) h2 fun v3 h4=>
 bp (yC s k wl 218 false true (.fn (.func 233) [] []) [v3,(.lit (.int .u64 0))] h4) fun v5 h6=>
 some (v5,h6):=kB
theorem adp (k wl:Nat) (h:Hp):evF Tryz.prog xM (k+1) wl 218 [c] h=ak (xX (xS k) 218 wl k false) Tryz.f218 [c] h:=by kernel_rfl
-- names: X4,
theorem Ut (h:Hp):ak (xX s 220 wl k false) Tryz.f220 [c] h =
 bp (aN c h) fun v1 h2=>
 some ((.fn (.func 234) [] [v1]),h2):=kB
theorem YE (k wl:Nat) (h:Hp):evF Tryz.prog xM (k+1) wl 220 [c] h=ak (xX (xS k) 220 wl k false) Tryz.f220 [c] h:=by kernel_rfl
-- names: Ut,
theorem XK (h:Hp):ak (xX s 233 wl k false) Tryz.f233 [c,d] h =
 bm (aw s.P .shl 46 c (.lit (.int .u64 16))) h fun v1 h2=>
 bm (aw s.P .and 46 d (.lit (.int .u64 65535))) h2 fun v3 h4=>
 bm (aw s.P .or 46 v1 v3) h4 fun v5 h6=>
 some (v5,h6):=kB
theorem afT (k wl:Nat) (h:Hp):evF Tryz.prog xM (k+1) wl 233 [c,d] h=ak (xX (xS k) 233 wl k false) Tryz.f233 [c,d] h:=by kernel_rfl
-- names: XK,
noncomputable def mK:Code:=al (am Tryz.f234) [1,0,0]
noncomputable def Be:List Fr:=[.block 0]
noncomputable def Bt:Code:=al (am Tryz.f234) [1,0,0,1,1,0,0,1,0]
noncomputable def wJ:List Fr:=[.seq (al (am Tryz.f234) [1,0,0,1,1,0,0,1,1]),.block 1,.seq (al (am Tryz.f234) [1,0,0,1,1,1])]
theorem S5 (h:Hp):ak (xX s 234 wl k false) Tryz.f234 [c,d] h =
 yI s k wl 234 Tryz.f234 mK h.length Be k ⟨[(V.kill h.length c),(V.kill h.length d),(V.kill h.length uu),(V.kill h.length uu),(.lit (.int .i64 0)),.junk,.junk,.junk,.junk,.junk,.junk,.junk,.junk,.junk,.junk,.junk,.junk,.junk,.junk],bW h.length h⟩:=kB
theorem aaU (k wl:Nat) (h:Hp):evF Tryz.prog xM (k+1) wl 234 [c,d] h=ak (xX (xS k) 234 wl k false) Tryz.f234 [c,d] h:=by kernel_rfl
theorem Xa (P:Program) (h:Hp):ao P Tryz.f234 .ret ⟨[c,d,g,l,j,o,r,q,y,v,u,B,z,A,p,D,G,E,F],h⟩=some (.tup [],h):=by kernel_rfl
theorem Mp (s:Sys) (K:Out→St→Option (V×Hp)) (k wl:Nat) (rd:Bool) (n n0:Nat) (h:Hp):itX (xX s 234 wl k rd) mK n0 K (n+1) ⟨[c,d,g,l,j,o,r,q,y,v,u,B,z,A,p,D,G,E,F],h⟩ =
 bm (aw s.P .lss 3 j (.lit (.int .i64 16))) h fun v1 h2=>
 cnd v1 (
 bm (ab s.P 46 d h2) h2 fun v3 h4=>
 bm (aw s.P .shr 46 v3 j) h4 fun v5 h6=>
 bm (aw s.P .and 46 v5 (.lit (.int .u64 1))) h6 fun v7 h8=>
 bm (aw s.P .eql 46 v7 (.lit (.int .u64 1))) h8 fun v9 h10=>
 gd v9 (
 bp (bL (xX s 234 wl k rd) false true c [j] h10) fun v11 h12=>
 bm (vUn .not v11) h12 fun v13 h14=>
 bV (xX s 234 wl k rd) Bt 10 h2.length ([],[]) (au (xX s 234 wl k rd) (eO (xX s 234 wl k rd) mK n0 K n) wJ) ⟨[c,d,g,j,j,v1,j,v3,j,v5,v7,v9,(.lit (.bool true)),c,j,v11,v13,E,F],h14⟩) (
 bV (xX s 234 wl k rd) Bt 10 h2.length ([],[]) (au (xX s 234 wl k rd) (eO (xX s 234 wl k rd) mK n0 K n) wJ) ⟨[c,d,g,j,j,v1,j,v3,j,v5,v7,v9,(.lit (.bool false)),uu,uu,uu,uu,E,F],h10⟩) (
 bV (xX s 234 wl k rd) Bt 7 h2.length ([],[]) (au (xX s 234 wl k rd) (eO (xX s 234 wl k rd) mK n0 K n) wJ) ⟨[c,d,g,j,j,v1,j,v3,j,v5,v7,v9,v9,uu,p,D,G,E,F],h10⟩)) (
 K (.exit 0) ⟨[(V.kill n0 c),(V.kill n0 d),(V.kill n0 g),(V.kill n0 l),.junk,.junk,.junk,.junk,.junk,.junk,.junk,.junk,.junk,.junk,.junk,.junk,.junk,.junk,.junk],bW n0 h2⟩):=kI
theorem Ew (s:Sys) (k wl:Nat) (zz:List V) (h:Hp):au (xX s 234 wl k false) (ao s.P Tryz.f234) Be (.exit 0) ⟨(c::zz),h⟩ =
 some (.tup [],h):=kR
theorem Fy (s:Sys) (K:Out→St→Option (V×Hp)) (k wl:Nat) (rd:Bool) (n n0:Nat) (m0:Nat) (ac:List Nat×List Nat) (h:Hp):bV (xX s 234 wl k rd) Bt 10 m0 ac (au (xX s 234 wl k rd) (eO (xX s 234 wl k rd) mK n0 K n) wJ) ⟨[c,d,g,l,j,o,r,q,y,v,u,B,z,A,p,D,G,E,F],h⟩ =
 bm (aQ z G (.lit (.bool false))) h fun v15 h16=>
 cnd v15 (
 K .ret ⟨[c,d,g,l,j,o,r,q,y,v,u,B,z,A,p,D,G,v15,F],h16⟩) (
 bm (aw s.P .add 3 j (.lit (.int .i64 1))) h16 fun v17 h18=>
 itX (xX s 234 wl k rd) mK n0 K n ⟨[(V.kill n0 c),(V.kill n0 d),(V.kill n0 g),(V.kill n0 l),(V.kill n0 v17),.junk,.junk,.junk,.junk,.junk,.junk,.junk,.junk,.junk,.junk,.junk,.junk,.junk,.junk],bW n0 h18⟩):=kG
theorem nG (cx:Cx) (K:Out→St→Option (V×Hp)) (s:St):au cx K Be .ret s=K .ret s:=by kernel_rfl
theorem nz (cx:Cx) (K:Out→St→Option (V×Hp)) (s:St):au cx K wJ .ret s=K .ret s:=by kernel_rfl
-- names: S5,Xa,Mp,Ew,Fy,nG,nz
theorem Ya (h:Hp):ak (xX s 193 wl k false) Tryz.f193 [c,d,g] h =
 bp (aN c h) fun v1 h2=>
 bp (av s.P 55 h2) fun v3 h4=>
 bm (aa s.P 55 v1 0) h4 fun v5 h6=>
 bm (ab s.P 3 v5 h6) h6 fun v7 h8=>
 bm (aa s.P 55 v1 2) h8 fun v9 h10=>
 bm (ab s.P 3 v9 h10) h10 fun v11 h12=>
 bm (a8 s.P 55 [(0,v7),(2,v11),(3,g),(6,d)]) h12 fun v13 h14=>
 bs (ai s.P wl 55 v3 v13 h14) fun h15=>
 ef [ab s.P 55 v3 h15] h15:=kB
theorem afo (k wl:Nat) (h:Hp):evF Tryz.prog xM (k+1) wl 193 [c,d,g] h=ak (xX (xS k) 193 wl k false) Tryz.f193 [c,d,g] h:=by kernel_rfl
-- names: Ya,
end
end Go.Ab
set_option maxRecDepth 100000
set_option linter.unusedVariables false
namespace Go.Ab
open Go.Proofs
section
variable (s:Sys) (k wl:Nat) (m0:Nat) (ac:List Nat×List Nat) (a b d e j f g l u v o q r y x E z F A B G D I J L M T O U Q N R Y t0 Z X W t5 t6 t7 t8 t9 ta tb tc td te tf t2 tg t3 t4 t1 tk ti th tl tm tn tp tq tr ts tt tu tv tw tx ty tz tA tj:V)
noncomputable def cw:Code:=al (am Tryz.f42) [1,0]
noncomputable def cr:List Fr:=[.seq (al (am Tryz.f42) [1,1])]
theorem ag1 (h:Hp):ak (xX s 42 wl k false) Tryz.f42 [a,b,d] h =
 bp (aN a h) fun v1 h2=>
 bm (aa s.P 48 v1 0) h2 fun v3 h4=>
 bm (ab s.P 3 v3 h4) h4 fun v5 h6=>
 bm (aw s.P .eql 3 v5 (.lit (.int .i64 0))) h6 fun v7 h8=>
 gd v7 (
 bm (aa s.P 48 v1 1) h8 fun v9 h10=>
 bm (ab s.P 3 v9 h10) h10 fun v11 h12=>
 bp (yC s k wl 42 false true (.fn (.func 81) [] []) [v11,b] h12) fun v13 h14=>
 yO s k wl 42 Tryz.f42 cw 8 h2.length ([],[]) cr ⟨[a,b,d,v1,uu,uu,(.lit (.bool false)),v3,v5,v7,(.lit (.bool true)),v9,v11,b,v13,uu,uu,uu,uu,uu,uu,uu,uu,uu,uu,uu,uu,uu,uu,uu,uu,uu,uu,uu,uu,uu,uu],h14⟩) (
 yO s k wl 42 Tryz.f42 cw 8 h2.length ([],[]) cr ⟨[a,b,d,v1,uu,uu,(.lit (.bool false)),v3,v5,v7,(.lit (.bool false)),uu,uu,uu,uu,uu,uu,uu,uu,uu,uu,uu,uu,uu,uu,uu,uu,uu,uu,uu,uu,uu,uu,uu,uu,uu,uu],h8⟩) (
 yO s k wl 42 Tryz.f42 cw 5 h2.length ([],[]) cr ⟨[a,b,d,v1,uu,uu,(.lit (.bool false)),v3,v5,v7,v7,uu,uu,uu,uu,uu,uu,uu,uu,uu,uu,uu,uu,uu,uu,uu,uu,uu,uu,uu,uu,uu,uu,uu,uu,uu,uu],h8⟩):=kB
theorem ahV (k wl:Nat) (h:Hp):evF Tryz.prog xM (k+1) wl 42 [a,b,d] h=ak (xX (xS k) 42 wl k false) Tryz.f42 [a,b,d] h:=by kernel_rfl
theorem Sl (zz:List V) (h:Hp):yO s k wl 42 Tryz.f42 cw 8 m0 ac cr ⟨(a::b::d::e::j::f::g::l::u::v::o::q::r::y::x::E::z::F::A::B::G::D::I::J::L::M::zz),h⟩ =
 bm (aQ o x (.lit (.bool false))) h fun v15 h16=>
 gd v15 (
 yO s k wl 42 Tryz.f42 cw 19 m0 ac cr ⟨(a::b::d::e::j::f::g::l::u::v::o::q::r::y::x::v15::(.lit (.bool true))::uu::uu::uu::uu::uu::uu::uu::uu::uu::zz),h16⟩) (
 bm (aa s.P 48 e 0) h16 fun v17 h18=>
 bm (ab s.P 3 v17 h18) h18 fun v19 h20=>
 bm (aw s.P .eql 3 v19 (.lit (.int .i64 1))) h20 fun v21 h22=>
 yO s k wl 42 Tryz.f42 cw 14 m0 ac cr ⟨(a::b::d::e::j::f::g::l::u::v::o::q::r::y::x::v15::(.lit (.bool false))::v17::v19::v21::v21::D::I::J::L::M::zz),h22⟩) (
 yO s k wl 42 Tryz.f42 cw 11 m0 ac cr ⟨(a::b::d::e::j::f::g::l::u::v::o::q::r::y::x::v15::v15::uu::A::B::G::D::I::J::L::M::zz),h16⟩):=kG
theorem Rp (h:Hp):yO s k wl 42 Tryz.f42 cw 19 m0 ac cr ⟨[a,b,d,e,j,f,g,l,u,v,o,q,r,y,x,E,z,F,A,B,G,D,I,J,L,M,T,O,U,Q,N,R,Y,t0,Z,X,W],h⟩ =
 bm (aQ z (.lit (.bool true)) M) h fun v23 h24=>
 gd v23 (
 yO s k wl 42 Tryz.f42 cw 24 m0 ac cr ⟨[a,b,d,e,j,f,g,l,u,v,o,q,r,y,x,E,z,F,A,B,G,D,I,J,L,M,v23,(.lit (.bool true)),uu,uu,uu,R,Y,t0,Z,X,W],h24⟩) (
 bm (aa s.P 48 e 0) h24 fun v25 h26=>
 bm (ab s.P 3 v25 h26) h26 fun v27 h28=>
 bm (aw s.P .eql 3 v27 (.lit (.int .i64 2))) h28 fun v29 h30=>
 yO s k wl 42 Tryz.f42 cw 24 m0 ac cr ⟨[a,b,d,e,j,f,g,l,u,v,o,q,r,y,x,E,z,F,A,B,G,D,I,J,L,M,v23,(.lit (.bool false)),v25,v27,v29,R,Y,t0,Z,X,W],h30⟩) (
 yO s k wl 42 Tryz.f42 cw 22 m0 ac cr ⟨[a,b,d,e,j,f,g,l,u,v,o,q,r,y,x,E,z,F,A,B,G,D,I,J,L,M,v23,v23,uu,Q,N,R,Y,t0,Z,X,W],h24⟩):=kG
theorem SI (zz:List V) (h:Hp):yO s k wl 42 Tryz.f42 cw 14 m0 ac cr ⟨(a::b::d::e::j::f::g::l::u::v::o::q::r::y::x::E::z::F::A::B::G::D::I::J::L::zz),h⟩ =
 gd G (
 bm (aa s.P 48 e 1) h fun v31 h32=>
 bm (ab s.P 3 v31 h32) h32 fun v33 h34=>
 bp (yC s k wl 42 false true (.fn (.func 81) [] []) [v33,d] h34) fun v35 h36=>
 yO s k wl 42 Tryz.f42 cw 18 m0 ac cr ⟨(a::b::d::e::j::f::g::l::u::v::o::q::r::y::x::E::z::F::A::B::(.lit (.bool true))::v31::v33::d::v35::zz),h36⟩) (
 yO s k wl 42 Tryz.f42 cw 18 m0 ac cr ⟨(a::b::d::e::j::f::g::l::u::v::o::q::r::y::x::E::z::F::A::B::(.lit (.bool false))::uu::uu::uu::uu::zz),h⟩) (
 yO s k wl 42 Tryz.f42 cw 15 m0 ac cr ⟨(a::b::d::e::j::f::g::l::u::v::o::q::r::y::x::E::z::F::A::B::G::uu::I::J::L::zz),h⟩):=kG
theorem ST (h:Hp):yO s k wl 42 Tryz.f42 cw 24 m0 ac cr ⟨[a,b,d,e,j,f,g,l,u,v,o,q,r,y,x,E,z,F,A,B,G,D,I,J,L,M,T,O,U,Q,N,R,Y,t0,Z,X,W],h⟩ =
 bm (aQ O (.lit (.bool true)) N) h fun v37 h38=>
 gd v37 (
 yO s k wl 42 Tryz.f42 cw 29 m0 ac cr ⟨[a,b,d,e,j,f,g,l,u,v,o,q,r,y,x,E,z,F,A,B,G,D,I,J,L,M,T,O,U,Q,N,v37,(.lit (.bool true)),uu,uu,uu,W],h38⟩) (
 bm (aa s.P 48 e 0) h38 fun v39 h40=>
 bm (ab s.P 3 v39 h40) h40 fun v41 h42=>
 bm (aw s.P .eql 3 v41 (.lit (.int .i64 3))) h42 fun v43 h44=>
 yO s k wl 42 Tryz.f42 cw 29 m0 ac cr ⟨[a,b,d,e,j,f,g,l,u,v,o,q,r,y,x,E,z,F,A,B,G,D,I,J,L,M,T,O,U,Q,N,v37,(.lit (.bool false)),v39,v41,v43,W],h44⟩) (
 yO s k wl 42 Tryz.f42 cw 27 m0 ac cr ⟨[a,b,d,e,j,f,g,l,u,v,o,q,r,y,x,E,z,F,A,B,G,D,I,J,L,M,T,O,U,Q,N,v37,v37,uu,Z,X,W],h38⟩):=kG
theorem Rn (zz:List V) (h:Hp):yO s k wl 42 Tryz.f42 cw 18 m0 ac cr ⟨(a::b::d::e::j::f::g::l::u::v::o::q::r::y::x::E::z::F::A::B::G::D::I::J::L::M::zz),h⟩ =
 gd z (
 yO s k wl 42 Tryz.f42 cw 19 m0 ac cr ⟨(a::b::d::e::j::f::g::l::u::v::o::q::r::y::x::E::(.lit (.bool true))::F::A::B::G::D::I::J::L::uu::zz),h⟩) (
 bm (aQ G L (.lit (.bool false))) h fun v45 h46=>
 yO s k wl 42 Tryz.f42 cw 19 m0 ac cr ⟨(a::b::d::e::j::f::g::l::u::v::o::q::r::y::x::E::(.lit (.bool false))::F::A::B::G::D::I::J::L::v45::zz),h46⟩) (
 yO s k wl 42 Tryz.f42 cw 19 m0 ac cr ⟨(a::b::d::e::j::f::g::l::u::v::o::q::r::y::x::E::z::F::A::B::G::D::I::J::L::uu::zz),h⟩):=kG
theorem Rx (zz:List V) (h:Hp):yO s k wl 42 Tryz.f42 cw 15 m0 ac cr ⟨(a::b::d::e::j::f::g::l::u::v::o::q::r::y::x::E::z::F::A::B::G::D::I::J::L::zz),h⟩ =
 gd G (
 bm (ab s.P 3 D h) h fun v47 h48=>
 bp (yC s k wl 42 false true (.fn (.func 81) [] []) [v47,d] h48) fun v49 h50=>
 yO s k wl 42 Tryz.f42 cw 18 m0 ac cr ⟨(a::b::d::e::j::f::g::l::u::v::o::q::r::y::x::E::z::F::A::B::(.lit (.bool true))::D::v47::d::v49::zz),h50⟩) (
 yO s k wl 42 Tryz.f42 cw 18 m0 ac cr ⟨(a::b::d::e::j::f::g::l::u::v::o::q::r::y::x::E::z::F::A::B::(.lit (.bool false))::D::uu::uu::uu::zz),h⟩) (
 yO s k wl 42 Tryz.f42 cw 16 m0 ac cr ⟨(a::b::d::e::j::f::g::l::u::v::o::q::r::y::x::E::z::F::A::B::G::D::uu::J::L::zz),h⟩):=kG
theorem Sd (h:Hp):yO s k wl 42 Tryz.f42 cw 29 m0 ac cr ⟨[a,b,d,e,j,f,g,l,u,v,o,q,r,y,x,E,z,F,A,B,G,D,I,J,L,M,T,O,U,Q,N,R,Y,t0,Z,X,W],h⟩ =
 bm (aQ Y (.lit (.bool true)) X) h fun v51 h52=>
 some (v51,h52):=kG
theorem Ss (zz:List V) (h:Hp):yO s k wl 42 Tryz.f42 cw 16 m0 ac cr ⟨(a::b::d::e::j::f::g::l::u::v::o::q::r::y::x::E::z::F::A::B::G::D::I::J::L::zz),h⟩ =
 gd G (
 bp (yC s k wl 42 false true (.fn (.func 81) [] []) [I,d] h) fun v53 h54=>
 yO s k wl 42 Tryz.f42 cw 18 m0 ac cr ⟨(a::b::d::e::j::f::g::l::u::v::o::q::r::y::x::E::z::F::A::B::(.lit (.bool true))::D::I::d::v53::zz),h54⟩) (
 yO s k wl 42 Tryz.f42 cw 18 m0 ac cr ⟨(a::b::d::e::j::f::g::l::u::v::o::q::r::y::x::E::z::F::A::B::(.lit (.bool false))::D::I::uu::uu::zz),h⟩) (
 yO s k wl 42 Tryz.f42 cw 17 m0 ac cr ⟨(a::b::d::e::j::f::g::l::u::v::o::q::r::y::x::E::z::F::A::B::G::D::I::uu::L::zz),h⟩):=kG
theorem RD (zz:List V) (h:Hp):yO s k wl 42 Tryz.f42 cw 17 m0 ac cr ⟨(a::b::d::e::j::f::g::l::u::v::o::q::r::y::x::E::z::F::A::B::G::D::I::J::L::zz),h⟩ =
 gd G (
 bp (yC s k wl 42 false true (.fn (.func 81) [] []) [I,J] h) fun v55 h56=>
 yO s k wl 42 Tryz.f42 cw 18 m0 ac cr ⟨(a::b::d::e::j::f::g::l::u::v::o::q::r::y::x::E::z::F::A::B::(.lit (.bool true))::D::I::J::v55::zz),h56⟩) (
 yO s k wl 42 Tryz.f42 cw 18 m0 ac cr ⟨(a::b::d::e::j::f::g::l::u::v::o::q::r::y::x::E::z::F::A::B::(.lit (.bool false))::D::I::J::uu::zz),h⟩) (
 yO s k wl 42 Tryz.f42 cw 18 m0 ac cr ⟨(a::b::d::e::j::f::g::l::u::v::o::q::r::y::x::E::z::F::A::B::G::D::I::J::uu::zz),h⟩):=kG
theorem xx (cx:Cx) (K:Out→St→Option (V×Hp)) (s:St):au cx K cr .ret s=K .ret s:=by kernel_rfl
-- names: ag1,Sl,Rp,SI,ST,Rn,Rx,Sd,Ss,RD,xx
noncomputable def GE:Code:=al (am Tryz.f59) [1,1,0,1,0,0]
noncomputable def HH:List Fr:=[.block 0,.seq (al (am Tryz.f59) [1,1,1])]
theorem acV (h:Hp):ak (xX s 59 wl k false) Tryz.f59 [a] h =
 bp (aN a h) fun v1 h2=>
 bp (some (.own h2.length 0 0,h2++[.rows 0 [] 0 true])) fun v3 h4=>
 bp (some (.own h4.length 0 0,h4++[.rows 0 [] 0 true])) fun v5 h6=>
 bm (ab s.P 23 v1 h6) h6 fun v7 h8=>
 bp (yC s k wl 59 false true (.fn (.func 103) [] []) [v7] h8) fun v9 h10=>
 yI s k wl 59 Tryz.f59 GE h10.length HH k ⟨[(V.kill h10.length a),(V.kill h10.length v1),(V.kill h10.length v3),(V.kill h10.length v5),(V.kill h10.length v7),(V.kill h10.length v9),(.lit (.int .i64 0)),.junk,.junk,.junk,.junk,.junk,(V.kill h10.length uu)],bW h10.length h10⟩:=kB
theorem agn (k wl:Nat) (h:Hp):evF Tryz.prog xM (k+1) wl 59 [a] h=ak (xX (xS k) 59 wl k false) Tryz.f59 [a] h:=by kernel_rfl
theorem adt (P:Program) (h:Hp):ao P Tryz.f59 .ret ⟨[a,b,d,e,j,f,g,l,u,v,o,q,r],h⟩=some (d,h):=by kernel_rfl
theorem SJ (s:Sys) (K:Out→St→Option (V×Hp)) (k wl:Nat) (rd:Bool) (n n0:Nat) (h:Hp):itX (xX s 59 wl k rd) GE n0 K (n+1) ⟨[a,b,d,e,j,f,g,l,u,v,o,q,r],h⟩ =
 bm (aw s.P .lss 3 g f) h fun v11 h12=>
 cnd v11 (
 bp (aA s.P wl 26 1 [(0,(.lit (.int .u64 0)))] h12) fun v13 h14=>
 bp (kM s.P wl 26 26 e v13 h14) fun v15 h16=>
 bm (aw s.P .add 3 g (.lit (.int .i64 1))) h16 fun v17 h18=>
 itX (xX s 59 wl k rd) GE n0 K n ⟨[(V.kill n0 a),(V.kill n0 b),(V.kill n0 d),(V.kill n0 v15),(V.kill n0 j),(V.kill n0 f),(V.kill n0 v17),.junk,.junk,.junk,.junk,.junk,(V.kill n0 r)],bW n0 h18⟩) (
 K (.exit 0) ⟨[(V.kill n0 a),(V.kill n0 b),(V.kill n0 d),(V.kill n0 e),(V.kill n0 j),(V.kill n0 f),.junk,.junk,.junk,.junk,.junk,.junk,(V.kill n0 r)],bW n0 h12⟩):=kI
theorem Lx (h:Hp):au (xX s 59 wl k false) (ao s.P Tryz.f59) HH (.exit 0) ⟨[a,b,d,e,j,f,g,l,u,v,o,q,r],h⟩ =
 some (e,h):=kR
theorem po (cx:Cx) (K:Out→St→Option (V×Hp)) (s:St):au cx K HH .ret s=K .ret s:=by kernel_rfl
-- names: acV,adt,SJ,Lx,po
theorem agF (h:Hp):ak (xX s 60 wl k false) Tryz.f60 [a] h =
 bp (av s.P 65 h) fun v1 h2=>
 bp (yC s k wl 60 false true (.fn (.func 104) [] []) [(.lit (.int .i64 1)),a,(.lit (.int .u64 0))] h2) fun v3 h4=>
 bm (a8 s.P 65 [(2,v3)]) h4 fun v5 h6=>
 bs (ai s.P wl 65 v1 v5 h6) fun h7=>
 ef [ab s.P 65 v1 h7] h7:=kB
theorem ahS (k wl:Nat) (h:Hp):evF Tryz.prog xM (k+1) wl 60 [a] h=ak (xX (xS k) 60 wl k false) Tryz.f60 [a] h:=by kernel_rfl
-- names: agF,
noncomputable def HC:Code:=al (am Tryz.f81) [1,0]
noncomputable def DU:List Fr:=[.seq (al (am Tryz.f81) [1,1])]
theorem agy (h:Hp):ak (xX s 81 wl k false) Tryz.f81 [a,b] h =
 bm (aw s.P .geq 3 a (.lit (.int .i64 0))) h fun v1 h2=>
 gd v1 (
 bm (aw s.P .lss 3 a b) h2 fun v3 h4=>
 yO s k wl 81 Tryz.f81 HC 6 h.length ([],[]) DU ⟨[a,b,uu,uu,(.lit (.bool false)),a,v1,(.lit (.bool true)),a,b,v3,uu],h4⟩) (
 yO s k wl 81 Tryz.f81 HC 6 h.length ([],[]) DU ⟨[a,b,uu,uu,(.lit (.bool false)),a,v1,(.lit (.bool false)),uu,uu,uu,uu],h2⟩) (
 yO s k wl 81 Tryz.f81 HC 4 h.length ([],[]) DU ⟨[a,b,uu,uu,(.lit (.bool false)),a,v1,v1,uu,uu,uu,uu],h2⟩):=kB
theorem ahp (k wl:Nat) (h:Hp):evF Tryz.prog xM (k+1) wl 81 [a,b] h=ak (xX (xS k) 81 wl k false) Tryz.f81 [a,b] h:=by kernel_rfl
theorem SS (h:Hp):yO s k wl 81 Tryz.f81 HC 6 m0 ac DU ⟨[a,b,d,e,j,f,g,l,u,v,o,q],h⟩ =
 bm (aQ l o (.lit (.bool false))) h fun v5 h6=>
 some (v5,h6):=kG
theorem AD (cx:Cx) (K:Out→St→Option (V×Hp)) (s:St):au cx K DU .ret s=K .ret s:=by kernel_rfl
-- names: agy,SS,AD
end
end Go.Ab
set_option maxRecDepth 100000
set_option linter.unusedVariables false
namespace Go.Ab
open Go.Proofs
section
variable (s:Sys) (k wl:Nat) (m0:Nat) (ac:List Nat×List Nat) (d a b f u v e x j g I y z A L M B D E o F G q Q N R O J t1 U t2 t3 t4 t5 t6 t7 t8 t9 ta W T tb tc td te tf tg th ti tj tk X Y Z tx ty tz tl tm tn tG tH tI tJ tK tL tM tN tO tA tB tC tD tE tF tp tq tr ts tt tu tv tw t0:V)
noncomputable def rH:Code:=al (am Tryz.f23) [1,0,0]
noncomputable def o7:List Fr:=[.seq (al (am Tryz.f23) [1,0,1]),.seq (al (am Tryz.f23) [1,1])]
noncomputable def HN:Code:=al (am Tryz.f23) [1,1,1,1,0,1,0,0]
noncomputable def GA:List Fr:=[.block 0,.seq (al (am Tryz.f23) [1,1,1,1,1])]
noncomputable def rJ:Code:=al (am Tryz.f23) [1,1,1,1,1,0,1,0,0]
noncomputable def xT:List Fr:=[.block 2,.seq (al (am Tryz.f23) [1,1,1,1,1,1])]
noncomputable def GT:Code:=al (am Tryz.f23) [1,1,1,1,1,0,1,0,0,1,1,0,0,1,0,1,0,0]
noncomputable def GP:List Fr:=[.block 4,.seq (al (am Tryz.f23) [1,1,1,1,1,0,1,0,0,1,1,0,0,1,1]),.block 3,.seq (al (am Tryz.f23) [1,1,1,1,1,0,1,0,0,1,1,1])]
theorem Xv (h:Hp):ak (xX s 23 wl k false) Tryz.f23 [d,a,b] h =
 bp (aN d h) fun v1 h2=>
 bp (av s.P 30 h2) fun v3 h4=>
 bm (ab s.P 23 v1 h4) h4 fun v5 h6=>
 bp (yC s k wl 23 false true (.fn (.func 50) [] []) [v5] h6) fun v7 h8=>
 bm (vUn .not v7) h8 fun v9 h10=>
 gd v9 (
 yO s k wl 23 Tryz.f23 rH 7 h4.length ([],[]) o7 ⟨(d::a::b::v1::uu::uu::v3::(.lit (.bool false))::uu::uu::uu::uu::uu::uu::uu::uu::v5::v7::v9::(.lit (.bool true))::uu::uu::uu::uu::uu::uu::uu::uu::uu::uu::uu::uu::uu::uu::uu::uu::uu::uu::uu::uu::uu::uu::uu::uu::uu::uu::uu::uu::uu::uu::uu::uu::uu::uu::uu::uu::uu::uu::uu::uu::uu::uu::uu::uu::uu::uu::uu::uu::uu::uu::uu::uu::uu::uu::uu::uu::uu::uu::uu::uu::uu::uu::uu::uu::[]),h10⟩) (
 bp (yC s k wl 23 false true (.fn (.func 56) [] []) [a] h10) fun v11 h12=>
 bm (vUn .not v11) h12 fun v13 h14=>
 yO s k wl 23 Tryz.f23 rH 7 h4.length ([],[]) o7 ⟨(d::a::b::v1::uu::uu::v3::(.lit (.bool false))::uu::uu::uu::uu::uu::uu::uu::uu::v5::v7::v9::(.lit (.bool false))::a::v11::v13::uu::uu::uu::uu::uu::uu::uu::uu::uu::uu::uu::uu::uu::uu::uu::uu::uu::uu::uu::uu::uu::uu::uu::uu::uu::uu::uu::uu::uu::uu::uu::uu::uu::uu::uu::uu::uu::uu::uu::uu::uu::uu::uu::uu::uu::uu::uu::uu::uu::uu::uu::uu::uu::uu::uu::uu::uu::uu::uu::uu::uu::[]),h14⟩) (
 yO s k wl 23 Tryz.f23 rH 5 h4.length ([],[]) o7 ⟨(d::a::b::v1::uu::uu::v3::(.lit (.bool false))::uu::uu::uu::uu::uu::uu::uu::uu::v5::v7::v9::v9::uu::uu::uu::uu::uu::uu::uu::uu::uu::uu::uu::uu::uu::uu::uu::uu::uu::uu::uu::uu::uu::uu::uu::uu::uu::uu::uu::uu::uu::uu::uu::uu::uu::uu::uu::uu::uu::uu::uu::uu::uu::uu::uu::uu::uu::uu::uu::uu::uu::uu::uu::uu::uu::uu::uu::uu::uu::uu::uu::uu::uu::uu::uu::uu::[]),h10⟩):=kB
theorem aba (k wl:Nat) (h:Hp):evF Tryz.prog xM (k+1) wl 23 [d,a,b] h=ak (xX (xS k) 23 wl k false) Tryz.f23 [d,a,b] h:=by kernel_rfl
theorem Xu (P:Program) (h:Hp):ao P Tryz.f23 .ret ⟨(d::a::b::f::u::v::e::x::j::g::I::y::z::A::L::M::B::D::E::o::F::G::q::Q::N::R::O::J::t1::U::t2::t3::t4::t5::t6::t7::t8::t9::ta::W::T::tb::tc::td::te::tf::tg::th::ti::tj::tk::X::Y::Z::tx::ty::tz::tl::tm::tn::tG::tH::tI::tJ::tK::tL::tM::tN::tO::tA::tB::tC::tD::tE::tF::tp::tq::tr::ts::tt::tu::tv::tw::t0::[]),h⟩=ef [ab P 30 e h,some x] h:=by kernel_rfl
theorem xH (zz:List V) (h:Hp):yO s k wl 23 Tryz.f23 rH 7 m0 ac o7 ⟨(d::a::b::f::u::v::e::x::j::g::I::y::z::A::L::M::B::D::E::o::F::G::q::Q::N::R::O::J::zz),h⟩ =
 bm (aQ o (.lit (.bool true)) q) h fun v15 h16=>
 gd v15 (
 yO s k wl 23 Tryz.f23 rH 12 m0 ac o7 ⟨(d::a::b::f::u::v::e::x::j::g::I::y::z::A::L::M::B::D::E::o::F::G::q::v15::(.lit (.bool true))::uu::uu::uu::zz),h16⟩) (
 bp (bc s.P 40 b h16) fun v17 h18=>
 bm (aw s.P .gtr 3 v17 (.lit (.int .i64 3))) h18 fun v19 h20=>
 yO s k wl 23 Tryz.f23 rH 12 m0 ac o7 ⟨(d::a::b::f::u::v::e::x::j::g::I::y::z::A::L::M::B::D::E::o::F::G::q::v15::(.lit (.bool false))::b::v17::v19::zz),h20⟩) (
 yO s k wl 23 Tryz.f23 rH 10 m0 ac o7 ⟨(d::a::b::f::u::v::e::x::j::g::I::y::z::A::L::M::B::D::E::o::F::G::q::v15::v15::uu::O::J::zz),h16⟩):=kG
theorem Ao (h:Hp):yO s k wl 23 Tryz.f23 rH 12 m0 ac o7 ⟨(d::a::b::f::u::v::e::x::j::g::I::y::z::A::L::M::B::D::E::o::F::G::q::Q::N::R::O::J::t1::U::t2::t3::t4::t5::t6::t7::t8::t9::ta::W::T::tb::tc::td::te::tf::tg::th::ti::tj::tk::X::Y::Z::tx::ty::tz::tl::tm::tn::tG::tH::tI::tJ::tK::tL::tM::tN::tO::tA::tB::tC::tD::tE::tF::tp::tq::tr::ts::tt::tu::tv::tw::t0::[]),h⟩ =
 bm (aQ N (.lit (.bool true)) J) h fun v21 h22=>
 cnd v21 (
 bm (a8 s.P 30 []) h22 fun v23 h24=>
 bs (ai s.P wl 30 e v23 h24) fun h25=>
 ef [ab s.P 30 e h25,some (.lit (.bool false))] h25) (
 bp (yC s k wl 23 false true (.fn (.func 57) [] []) [a] h22) fun v26 h27=>
 bp (av s.P 30 h27) fun v28 h29=>
 stO h27.length f (
 bm (ab s.P 23 f h29) h29 fun v30 h31=>
 bp (yC s k wl 23 true true (.fn (.func 58) [] []) [a] h31) fun v32 h33=>
 stO h27.length f (
 bm (ab s.P 23 f h33) h33 fun v34 h35=>
 bp (yC s k wl 23 true true (.fn (.func 59) [] []) [v34] h35) fun v36 h37=>
 bm (a8 s.P 30 [(0,v30),(1,v32),(2,v36)]) h37 fun v38 h39=>
 bs (ai s.P wl 30 v28 v38 h39) fun h40=>
 bm (aa s.P 23 f 0) h40 fun v41 h42=>
 bm (ab s.P 3 v41 h42) h42 fun v43 h44=>
 yI s k wl 23 Tryz.f23 HN h44.length GA k ⟨((V.kill h44.length d)::(V.kill h44.length a)::(V.kill h44.length b)::(V.kill h44.length f)::(V.kill h44.length u)::(V.kill h44.length v)::(V.kill h44.length e)::(V.kill h44.length x)::(V.kill h44.length v26)::(V.kill h44.length v28)::(V.kill h44.length I)::(V.kill h44.length y)::(V.kill h44.length z)::(V.kill h44.length A)::(V.kill h44.length L)::(V.kill h44.length M)::(V.kill h44.length B)::(V.kill h44.length D)::(V.kill h44.length E)::(V.kill h44.length o)::(V.kill h44.length F)::(V.kill h44.length G)::(V.kill h44.length q)::(V.kill h44.length Q)::(V.kill h44.length N)::(V.kill h44.length R)::(V.kill h44.length O)::(V.kill h44.length J)::(V.kill h44.length v21)::(V.kill h44.length U)::(V.kill h44.length a)::(V.kill h44.length v26)::(V.kill h44.length v30)::(V.kill h44.length a)::(V.kill h44.length v32)::(V.kill h44.length v34)::(V.kill h44.length v36)::(V.kill h44.length v38)::(V.kill h44.length v41)::(V.kill h44.length v43)::(.lit (.int .i64 0))::.junk::.junk::.junk::.junk::.junk::.junk::.junk::.junk::.junk::.junk::(V.kill h44.length X)::(V.kill h44.length Y)::(V.kill h44.length Z)::(V.kill h44.length tx)::(V.kill h44.length ty)::(V.kill h44.length tz)::(V.kill h44.length tl)::(V.kill h44.length tm)::(V.kill h44.length tn)::(V.kill h44.length tG)::(V.kill h44.length tH)::(V.kill h44.length tI)::(V.kill h44.length tJ)::(V.kill h44.length tK)::(V.kill h44.length tL)::(V.kill h44.length tM)::(V.kill h44.length tN)::(V.kill h44.length tO)::(V.kill h44.length tA)::(V.kill h44.length tB)::(V.kill h44.length tC)::(V.kill h44.length tD)::(V.kill h44.length tE)::(V.kill h44.length tF)::(V.kill h44.length tp)::(V.kill h44.length tq)::(V.kill h44.length tr)::(V.kill h44.length ts)::(V.kill h44.length tt)::(V.kill h44.length tu)::(V.kill h44.length tv)::(V.kill h44.length tw)::(V.kill h44.length t0)::[]),bW h44.length h44⟩))):=kG
theorem RA (s:Sys) (K:Out→St→Option (V×Hp)) (k wl:Nat) (rd:Bool) (n n0:Nat) (h:Hp):itX (xX s 23 wl k rd) HN n0 K (n+1) ⟨(d::a::b::f::u::v::e::x::j::g::I::y::z::A::L::M::B::D::E::o::F::G::q::Q::N::R::O::J::t1::U::t2::t3::t4::t5::t6::t7::t8::t9::ta::W::T::tb::tc::td::te::tf::tg::th::ti::tj::tk::X::Y::Z::tx::ty::tz::tl::tm::tn::tG::tH::tI::tJ::tK::tL::tM::tN::tO::tA::tB::tC::tD::tE::tF::tp::tq::tr::ts::tt::tu::tv::tw::t0::[]),h⟩ =
 bm (aw s.P .lss 3 T W) h fun v45 h46=>
 cnd v45 (
 bm (aa s.P 30 g 3) h46 fun v47 h48=>
 stO h46.length v47 (
 bm (ab s.P 27 v47 h48) h48 fun v49 h50=>
 bp (bL (xX s 23 wl k rd) true true (.fn (.func 60) [] []) [T] h50) fun v51 h52=>
 bp (cN s.P wl 27 1 [(0,v51)] h52) fun v53 h54=>
 bp (kM s.P wl 27 27 v49 v53 h54) fun v55 h56=>
 bm (aa s.P 30 g 3) h56 fun v57 h58=>
 bs (ai s.P wl 27 v57 v55 h58) fun h59=>
 bm (aw s.P .add 3 T (.lit (.int .i64 1))) h59 fun v60 h61=>
 itX (xX s 23 wl k rd) HN n0 K n ⟨((V.kill n0 d)::(V.kill n0 a)::(V.kill n0 b)::(V.kill n0 f)::(V.kill n0 u)::(V.kill n0 v)::(V.kill n0 e)::(V.kill n0 x)::(V.kill n0 j)::(V.kill n0 g)::(V.kill n0 T)::(V.kill n0 y)::(V.kill n0 z)::(V.kill n0 A)::(V.kill n0 L)::(V.kill n0 M)::(V.kill n0 B)::(V.kill n0 D)::(V.kill n0 E)::(V.kill n0 o)::(V.kill n0 F)::(V.kill n0 G)::(V.kill n0 q)::(V.kill n0 Q)::(V.kill n0 N)::(V.kill n0 R)::(V.kill n0 O)::(V.kill n0 J)::(V.kill n0 t1)::(V.kill n0 U)::(V.kill n0 t2)::(V.kill n0 t3)::(V.kill n0 t4)::(V.kill n0 t5)::(V.kill n0 t6)::(V.kill n0 t7)::(V.kill n0 t8)::(V.kill n0 t9)::(V.kill n0 ta)::(V.kill n0 W)::(V.kill n0 v60)::.junk::.junk::.junk::.junk::.junk::.junk::.junk::.junk::.junk::.junk::(V.kill n0 X)::(V.kill n0 Y)::(V.kill n0 Z)::(V.kill n0 tx)::(V.kill n0 ty)::(V.kill n0 tz)::(V.kill n0 tl)::(V.kill n0 tm)::(V.kill n0 tn)::(V.kill n0 tG)::(V.kill n0 tH)::(V.kill n0 tI)::(V.kill n0 tJ)::(V.kill n0 tK)::(V.kill n0 tL)::(V.kill n0 tM)::(V.kill n0 tN)::(V.kill n0 tO)::(V.kill n0 tA)::(V.kill n0 tB)::(V.kill n0 tC)::(V.kill n0 tD)::(V.kill n0 tE)::(V.kill n0 tF)::(V.kill n0 tp)::(V.kill n0 tq)::(V.kill n0 tr)::(V.kill n0 ts)::(V.kill n0 tt)::(V.kill n0 tu)::(V.kill n0 tv)::(V.kill n0 tw)::(V.kill n0 t0)::[]),bW n0 h61⟩)) (
 K (.exit 0) ⟨((V.kill n0 d)::(V.kill n0 a)::(V.kill n0 b)::(V.kill n0 f)::(V.kill n0 u)::(V.kill n0 v)::(V.kill n0 e)::(V.kill n0 x)::(V.kill n0 j)::(V.kill n0 g)::(V.kill n0 I)::(V.kill n0 y)::(V.kill n0 z)::(V.kill n0 A)::(V.kill n0 L)::(V.kill n0 M)::(V.kill n0 B)::(V.kill n0 D)::(V.kill n0 E)::(V.kill n0 o)::(V.kill n0 F)::(V.kill n0 G)::(V.kill n0 q)::(V.kill n0 Q)::(V.kill n0 N)::(V.kill n0 R)::(V.kill n0 O)::(V.kill n0 J)::(V.kill n0 t1)::(V.kill n0 U)::(V.kill n0 t2)::(V.kill n0 t3)::(V.kill n0 t4)::(V.kill n0 t5)::(V.kill n0 t6)::(V.kill n0 t7)::(V.kill n0 t8)::(V.kill n0 t9)::(V.kill n0 ta)::(V.kill n0 W)::.junk::.junk::.junk::.junk::.junk::.junk::.junk::.junk::.junk::.junk::.junk::(V.kill n0 X)::(V.kill n0 Y)::(V.kill n0 Z)::(V.kill n0 tx)::(V.kill n0 ty)::(V.kill n0 tz)::(V.kill n0 tl)::(V.kill n0 tm)::(V.kill n0 tn)::(V.kill n0 tG)::(V.kill n0 tH)::(V.kill n0 tI)::(V.kill n0 tJ)::(V.kill n0 tK)::(V.kill n0 tL)::(V.kill n0 tM)::(V.kill n0 tN)::(V.kill n0 tO)::(V.kill n0 tA)::(V.kill n0 tB)::(V.kill n0 tC)::(V.kill n0 tD)::(V.kill n0 tE)::(V.kill n0 tF)::(V.kill n0 tp)::(V.kill n0 tq)::(V.kill n0 tr)::(V.kill n0 ts)::(V.kill n0 tt)::(V.kill n0 tu)::(V.kill n0 tv)::(V.kill n0 tw)::(V.kill n0 t0)::[]),bW n0 h46⟩):=kI
theorem AB (h:Hp):au (xX s 23 wl k false) (ao s.P Tryz.f23) GA (.exit 0) ⟨(d::a::b::f::u::v::e::x::j::g::I::y::z::A::L::M::B::D::E::o::F::G::q::Q::N::R::O::J::t1::U::t2::t3::t4::t5::t6::t7::t8::t9::ta::W::T::tb::tc::td::te::tf::tg::th::ti::tj::tk::X::Y::Z::tx::ty::tz::tl::tm::tn::tG::tH::tI::tJ::tK::tL::tM::tN::tO::tA::tB::tC::tD::tE::tF::tp::tq::tr::ts::tt::tu::tv::tw::t0::[]),h⟩ =
 bp (bc s.P 40 b h) fun v62 h63=>
 yI s k wl 23 Tryz.f23 rJ h63.length xT k ⟨((V.kill h63.length d)::(V.kill h63.length a)::(V.kill h63.length b)::(V.kill h63.length f)::(V.kill h63.length u)::(V.kill h63.length v)::(V.kill h63.length e)::(V.kill h63.length x)::(V.kill h63.length j)::(V.kill h63.length g)::(V.kill h63.length I)::(V.kill h63.length y)::(V.kill h63.length z)::(V.kill h63.length A)::(V.kill h63.length L)::(V.kill h63.length M)::(V.kill h63.length B)::(V.kill h63.length D)::(V.kill h63.length E)::(V.kill h63.length o)::(V.kill h63.length F)::(V.kill h63.length G)::(V.kill h63.length q)::(V.kill h63.length Q)::(V.kill h63.length N)::(V.kill h63.length R)::(V.kill h63.length O)::(V.kill h63.length J)::(V.kill h63.length t1)::(V.kill h63.length U)::(V.kill h63.length t2)::(V.kill h63.length t3)::(V.kill h63.length t4)::(V.kill h63.length t5)::(V.kill h63.length t6)::(V.kill h63.length t7)::(V.kill h63.length t8)::(V.kill h63.length t9)::(V.kill h63.length ta)::(V.kill h63.length W)::(V.kill h63.length T)::(V.kill h63.length tb)::(V.kill h63.length tc)::(V.kill h63.length td)::(V.kill h63.length te)::(V.kill h63.length tf)::(V.kill h63.length tg)::(V.kill h63.length th)::(V.kill h63.length ti)::(V.kill h63.length tj)::(V.kill h63.length tk)::(V.kill h63.length b)::(V.kill h63.length v62)::(.lit (.int .i64 0))::.junk::.junk::.junk::.junk::.junk::.junk::.junk::.junk::.junk::.junk::.junk::.junk::.junk::.junk::.junk::.junk::.junk::.junk::.junk::.junk::.junk::.junk::.junk::.junk::.junk::.junk::.junk::.junk::.junk::(V.kill h63.length t0)::[]),bW h63.length h63⟩:=kR
theorem SZ (s:Sys) (K:Out→St→Option (V×Hp)) (k wl:Nat) (rd:Bool) (n n0:Nat) (h:Hp):itX (xX s 23 wl k rd) rJ n0 K (n+1) ⟨(d::a::b::f::u::v::e::x::j::g::I::y::z::A::L::M::B::D::E::o::F::G::q::Q::N::R::O::J::t1::U::t2::t3::t4::t5::t6::t7::t8::t9::ta::W::T::tb::tc::td::te::tf::tg::th::ti::tj::tk::X::Y::Z::tx::ty::tz::tl::tm::tn::tG::tH::tI::tJ::tK::tL::tM::tN::tO::tA::tB::tC::tD::tE::tF::tp::tq::tr::ts::tt::tu::tv::tw::t0::[]),h⟩ =
 bm (aw s.P .lss 3 Z Y) h fun v64 h65=>
 cnd v64 (
 bm (aj s.P 40 X Z h65) h65 fun v66 h67=>
 bm (ab s.P 53 v66 h67) h67 fun v68 h69=>
 bp (bc s.P 53 v68 h69) fun v70 h71=>
 itX (xX s 23 wl k rd) GT h71.length (au (xX s 23 wl k rd) (eO (xX s 23 wl k rd) rJ n0 K n) GP) k ⟨((V.kill h71.length d)::(V.kill h71.length a)::(V.kill h71.length b)::(V.kill h71.length f)::(V.kill h71.length u)::(V.kill h71.length v)::(V.kill h71.length e)::(V.kill h71.length x)::(V.kill h71.length j)::(V.kill h71.length g)::(V.kill h71.length I)::(V.kill h71.length y)::(V.kill h71.length v68)::(V.kill h71.length A)::(V.kill h71.length L)::(V.kill h71.length M)::(V.kill h71.length B)::(V.kill h71.length D)::(V.kill h71.length E)::(V.kill h71.length o)::(V.kill h71.length F)::(V.kill h71.length G)::(V.kill h71.length q)::(V.kill h71.length Q)::(V.kill h71.length N)::(V.kill h71.length R)::(V.kill h71.length O)::(V.kill h71.length J)::(V.kill h71.length t1)::(V.kill h71.length U)::(V.kill h71.length t2)::(V.kill h71.length t3)::(V.kill h71.length t4)::(V.kill h71.length t5)::(V.kill h71.length t6)::(V.kill h71.length t7)::(V.kill h71.length t8)::(V.kill h71.length t9)::(V.kill h71.length ta)::(V.kill h71.length W)::(V.kill h71.length T)::(V.kill h71.length tb)::(V.kill h71.length tc)::(V.kill h71.length td)::(V.kill h71.length te)::(V.kill h71.length tf)::(V.kill h71.length tg)::(V.kill h71.length th)::(V.kill h71.length ti)::(V.kill h71.length tj)::(V.kill h71.length tk)::(V.kill h71.length X)::(V.kill h71.length Y)::(V.kill h71.length Z)::(V.kill h71.length v64)::(V.kill h71.length v66)::(V.kill h71.length v68)::(V.kill h71.length v68)::(V.kill h71.length v70)::(.lit (.int .i64 0))::.junk::.junk::.junk::.junk::.junk::.junk::.junk::.junk::.junk::.junk::.junk::.junk::.junk::.junk::.junk::(V.kill h71.length tp)::(V.kill h71.length tq)::(V.kill h71.length tr)::(V.kill h71.length ts)::(V.kill h71.length tt)::(V.kill h71.length tu)::(V.kill h71.length tv)::(V.kill h71.length tw)::(V.kill h71.length t0)::[]),bW h71.length h71⟩) (
 K (.exit 2) ⟨((V.kill n0 d)::(V.kill n0 a)::(V.kill n0 b)::(V.kill n0 f)::(V.kill n0 u)::(V.kill n0 v)::(V.kill n0 e)::(V.kill n0 x)::(V.kill n0 j)::(V.kill n0 g)::(V.kill n0 I)::(V.kill n0 y)::(V.kill n0 z)::(V.kill n0 A)::(V.kill n0 L)::(V.kill n0 M)::(V.kill n0 B)::(V.kill n0 D)::(V.kill n0 E)::(V.kill n0 o)::(V.kill n0 F)::(V.kill n0 G)::(V.kill n0 q)::(V.kill n0 Q)::(V.kill n0 N)::(V.kill n0 R)::(V.kill n0 O)::(V.kill n0 J)::(V.kill n0 t1)::(V.kill n0 U)::(V.kill n0 t2)::(V.kill n0 t3)::(V.kill n0 t4)::(V.kill n0 t5)::(V.kill n0 t6)::(V.kill n0 t7)::(V.kill n0 t8)::(V.kill n0 t9)::(V.kill n0 ta)::(V.kill n0 W)::(V.kill n0 T)::(V.kill n0 tb)::(V.kill n0 tc)::(V.kill n0 td)::(V.kill n0 te)::(V.kill n0 tf)::(V.kill n0 tg)::(V.kill n0 th)::(V.kill n0 ti)::(V.kill n0 tj)::(V.kill n0 tk)::(V.kill n0 X)::(V.kill n0 Y)::.junk::.junk::.junk::.junk::.junk::.junk::.junk::.junk::.junk::.junk::.junk::.junk::.junk::.junk::.junk::.junk::.junk::.junk::.junk::.junk::.junk::.junk::.junk::.junk::.junk::.junk::.junk::.junk::.junk::.junk::(V.kill n0 t0)::[]),bW n0 h65⟩):=kI
theorem Ag (h:Hp):au (xX s 23 wl k false) (ao s.P Tryz.f23) xT (.exit 2) ⟨(d::a::b::f::u::v::e::x::j::g::I::y::z::A::L::M::B::D::E::o::F::G::q::Q::N::R::O::J::t1::U::t2::t3::t4::t5::t6::t7::t8::t9::ta::W::T::tb::tc::td::te::tf::tg::th::ti::tj::tk::X::Y::Z::tx::ty::tz::tl::tm::tn::tG::tH::tI::tJ::tK::tL::tM::tN::tO::tA::tB::tC::tD::tE::tF::tp::tq::tr::ts::tt::tu::tv::tw::t0::[]),h⟩ =
 bm (ab s.P 30 g h) h fun v72 h73=>
 bs (ai s.P wl 30 e v72 h73) fun h74=>
 ef [ab s.P 30 e h74,some (.lit (.bool true))] h74:=kR
theorem R9 (s:Sys) (K:Out→St→Option (V×Hp)) (k wl:Nat) (rd:Bool) (n n0:Nat) (h:Hp):itX (xX s 23 wl k rd) GT n0 K (n+1) ⟨(d::a::b::f::u::v::e::x::j::g::I::y::z::A::L::M::B::D::E::o::F::G::q::Q::N::R::O::J::t1::U::t2::t3::t4::t5::t6::t7::t8::t9::ta::W::T::tb::tc::td::te::tf::tg::th::ti::tj::tk::X::Y::Z::tx::ty::tz::tl::tm::tn::tG::tH::tI::tJ::tK::tL::tM::tN::tO::tA::tB::tC::tD::tE::tF::tp::tq::tr::ts::tt::tu::tv::tw::t0::[]),h⟩ =
 bm (aw s.P .lss 3 tn tm) h fun v75 h76=>
 cnd v75 (
 bm (aj s.P 53 tl tn h76) h76 fun v77 h78=>
 bm (ab s.P 3 v77 h78) h78 fun v79 h80=>
 bp (bL (xX s 23 wl k rd) false true (.fn (.func 61) [] []) [j,v79] h80) fun v81 h82=>
 bm (aw s.P .lss 3 v81 (.lit (.int .i64 0))) h82 fun v83 h84=>
 cnd v83 (
 bm (a8 s.P 30 []) h84 fun v85 h86=>
 bs (ai s.P wl 30 e v85 h86) fun h87=>
 K .ret ⟨(d::a::b::f::u::v::e::(.lit (.bool false))::j::g::I::y::z::A::v79::v81::B::D::E::o::F::G::q::Q::N::R::O::J::t1::U::t2::t3::t4::t5::t6::t7::t8::t9::ta::W::T::tb::tc::td::te::tf::tg::th::ti::tj::tk::X::Y::Z::tx::ty::tz::tl::tm::tn::v75::v77::v79::j::v79::v81::v81::v83::v85::tA::tB::tC::tD::tE::tF::tp::tq::tr::ts::tt::tu::tv::tw::t0::[]),h87⟩) (
 bm (aw s.P .add 3 v81 (.lit (.int .i64 1))) h84 fun v88 h89=>
 bp (bL (xX s 23 wl k rd) false true (.fn (.func 62) [] []) [j,v81,v88] h89) fun v90 h91=>
 bm (aw s.P .add 3 tn (.lit (.int .i64 1))) h91 fun v92 h93=>
 itX (xX s 23 wl k rd) GT n0 K n ⟨((V.kill n0 d)::(V.kill n0 a)::(V.kill n0 b)::(V.kill n0 f)::(V.kill n0 u)::(V.kill n0 v)::(V.kill n0 e)::(V.kill n0 x)::(V.kill n0 v90)::(V.kill n0 g)::(V.kill n0 I)::(V.kill n0 y)::(V.kill n0 z)::(V.kill n0 A)::(V.kill n0 v79)::(V.kill n0 v81)::(V.kill n0 B)::(V.kill n0 D)::(V.kill n0 E)::(V.kill n0 o)::(V.kill n0 F)::(V.kill n0 G)::(V.kill n0 q)::(V.kill n0 Q)::(V.kill n0 N)::(V.kill n0 R)::(V.kill n0 O)::(V.kill n0 J)::(V.kill n0 t1)::(V.kill n0 U)::(V.kill n0 t2)::(V.kill n0 t3)::(V.kill n0 t4)::(V.kill n0 t5)::(V.kill n0 t6)::(V.kill n0 t7)::(V.kill n0 t8)::(V.kill n0 t9)::(V.kill n0 ta)::(V.kill n0 W)::(V.kill n0 T)::(V.kill n0 tb)::(V.kill n0 tc)::(V.kill n0 td)::(V.kill n0 te)::(V.kill n0 tf)::(V.kill n0 tg)::(V.kill n0 th)::(V.kill n0 ti)::(V.kill n0 tj)::(V.kill n0 tk)::(V.kill n0 X)::(V.kill n0 Y)::(V.kill n0 Z)::(V.kill n0 tx)::(V.kill n0 ty)::(V.kill n0 tz)::(V.kill n0 tl)::(V.kill n0 tm)::(V.kill n0 v92)::.junk::.junk::.junk::.junk::.junk::.junk::.junk::.junk::.junk::.junk::.junk::.junk::.junk::.junk::.junk::(V.kill n0 tp)::(V.kill n0 tq)::(V.kill n0 tr)::(V.kill n0 ts)::(V.kill n0 tt)::(V.kill n0 tu)::(V.kill n0 tv)::(V.kill n0 tw)::(V.kill n0 t0)::[]),bW n0 h93⟩)) (
 K (.exit 4) ⟨((V.kill n0 d)::(V.kill n0 a)::(V.kill n0 b)::(V.kill n0 f)::(V.kill n0 u)::(V.kill n0 v)::(V.kill n0 e)::(V.kill n0 x)::(V.kill n0 j)::(V.kill n0 g)::(V.kill n0 I)::(V.kill n0 y)::(V.kill n0 z)::(V.kill n0 A)::(V.kill n0 L)::(V.kill n0 M)::(V.kill n0 B)::(V.kill n0 D)::(V.kill n0 E)::(V.kill n0 o)::(V.kill n0 F)::(V.kill n0 G)::(V.kill n0 q)::(V.kill n0 Q)::(V.kill n0 N)::(V.kill n0 R)::(V.kill n0 O)::(V.kill n0 J)::(V.kill n0 t1)::(V.kill n0 U)::(V.kill n0 t2)::(V.kill n0 t3)::(V.kill n0 t4)::(V.kill n0 t5)::(V.kill n0 t6)::(V.kill n0 t7)::(V.kill n0 t8)::(V.kill n0 t9)::(V.kill n0 ta)::(V.kill n0 W)::(V.kill n0 T)::(V.kill n0 tb)::(V.kill n0 tc)::(V.kill n0 td)::(V.kill n0 te)::(V.kill n0 tf)::(V.kill n0 tg)::(V.kill n0 th)::(V.kill n0 ti)::(V.kill n0 tj)::(V.kill n0 tk)::(V.kill n0 X)::(V.kill n0 Y)::(V.kill n0 Z)::(V.kill n0 tx)::(V.kill n0 ty)::(V.kill n0 tz)::(V.kill n0 tl)::(V.kill n0 tm)::.junk::.junk::.junk::.junk::.junk::.junk::.junk::.junk::.junk::.junk::.junk::.junk::.junk::.junk::.junk::.junk::(V.kill n0 tp)::(V.kill n0 tq)::(V.kill n0 tr)::(V.kill n0 ts)::(V.kill n0 tt)::(V.kill n0 tu)::(V.kill n0 tv)::(V.kill n0 tw)::(V.kill n0 t0)::[]),bW n0 h76⟩):=kI
theorem Ai (s:Sys) (K:Out→St→Option (V×Hp)) (k wl:Nat) (rd:Bool) (n n0:Nat) (h:Hp):au (xX s 23 wl k rd) (eO (xX s 23 wl k rd) rJ n0 K n) GP (.exit 4) ⟨(d::a::b::f::u::v::e::x::j::g::I::y::z::A::L::M::B::D::E::o::F::G::q::Q::N::R::O::J::t1::U::t2::t3::t4::t5::t6::t7::t8::t9::ta::W::T::tb::tc::td::te::tf::tg::th::ti::tj::tk::X::Y::Z::tx::ty::tz::tl::tm::tn::tG::tH::tI::tJ::tK::tL::tM::tN::tO::tA::tB::tC::tD::tE::tF::tp::tq::tr::ts::tt::tu::tv::tw::t0::[]),h⟩ =
 bm (aa s.P 30 g 4) h fun v94 h95=>
 stO h.length v94 (
 bm (ab s.P 28 v94 h95) h95 fun v96 h97=>
 bp (bL (xX s 23 wl k rd) true true (.fn (.func 63) [] []) [z] h97) fun v98 h99=>
 bp (cN s.P wl 28 1 [(0,v98)] h99) fun v100 h101=>
 bp (kM s.P wl 28 28 v96 v100 h101) fun v102 h103=>
 bm (aa s.P 30 g 4) h103 fun v104 h105=>
 bs (ai s.P wl 28 v104 v102 h105) fun h106=>
 bm (aw s.P .add 3 Z (.lit (.int .i64 1))) h106 fun v107 h108=>
 itX (xX s 23 wl k rd) rJ n0 K n ⟨((V.kill n0 d)::(V.kill n0 a)::(V.kill n0 b)::(V.kill n0 f)::(V.kill n0 u)::(V.kill n0 v)::(V.kill n0 e)::(V.kill n0 x)::(V.kill n0 j)::(V.kill n0 g)::(V.kill n0 I)::(V.kill n0 y)::(V.kill n0 z)::(V.kill n0 A)::(V.kill n0 L)::(V.kill n0 M)::(V.kill n0 B)::(V.kill n0 D)::(V.kill n0 E)::(V.kill n0 o)::(V.kill n0 F)::(V.kill n0 G)::(V.kill n0 q)::(V.kill n0 Q)::(V.kill n0 N)::(V.kill n0 R)::(V.kill n0 O)::(V.kill n0 J)::(V.kill n0 t1)::(V.kill n0 U)::(V.kill n0 t2)::(V.kill n0 t3)::(V.kill n0 t4)::(V.kill n0 t5)::(V.kill n0 t6)::(V.kill n0 t7)::(V.kill n0 t8)::(V.kill n0 t9)::(V.kill n0 ta)::(V.kill n0 W)::(V.kill n0 T)::(V.kill n0 tb)::(V.kill n0 tc)::(V.kill n0 td)::(V.kill n0 te)::(V.kill n0 tf)::(V.kill n0 tg)::(V.kill n0 th)::(V.kill n0 ti)::(V.kill n0 tj)::(V.kill n0 tk)::(V.kill n0 X)::(V.kill n0 Y)::(V.kill n0 v107)::.junk::.junk::.junk::.junk::.junk::.junk::.junk::.junk::.junk::.junk::.junk::.junk::.junk::.junk::.junk::.junk::.junk::.junk::.junk::.junk::.junk::.junk::.junk::.junk::.junk::.junk::.junk::.junk::.junk::(V.kill n0 t0)::[]),bW n0 h108⟩):=kR
theorem iV (cx:Cx) (K:Out→St→Option (V×Hp)) (s:St):au cx K o7 .ret s=K .ret s:=by kernel_rfl
theorem iS (cx:Cx) (K:Out→St→Option (V×Hp)) (s:St):au cx K GA .ret s=K .ret s:=by kernel_rfl
theorem iT (cx:Cx) (K:Out→St→Option (V×Hp)) (s:St):au cx K xT .ret s=K .ret s:=by kernel_rfl
theorem iZ (cx:Cx) (K:Out→St→Option (V×Hp)) (s:St):au cx K GP .ret s=K .ret s:=by kernel_rfl
-- names: Xv,Xu,xH,Ao,RA,AB,SZ,Ag,R9,Ai,iV,iS,iT,iZ
end
end Go.Ab
