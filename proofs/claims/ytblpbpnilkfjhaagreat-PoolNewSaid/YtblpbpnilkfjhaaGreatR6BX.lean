import Derived.Test.YtblpbpnilkfjhaaGreatR6Seat
import Derived.Test.YtblpbpnilkfjhaaGreatAbLibC
set_option linter.unusedVariables false
set_option linter.unusedSimpArgs false
set_option maxRecDepth 100000
set_option linter.unusedVariables false
namespace Go.Ab
open Go.Proofs
section
variable (s:Sys) (k wl:Nat) (m0:Nat) (ac:List Nat×List Nat) (a b d e o p g l q j u r A y z B D F E I M R N J T O U Q L G:V) (h:Hp) (K:Out→St→Option (V×Hp)) (rd:Bool) (n n0:Nat) (zz:List V)
theorem ac2:ai (xX s 27 wl k false) Tryz.f27 [a,b] h =
 bp (yC s k wl 27 false true (.fn (.func 66) [] []) [a,b] h) fun v1 h2=>
 bm (vUn .not v1) h2 fun v3 h4=>
 cnd v3 (
 some ((.lit (.int .u64 0)),h4)) (
 bm (aj s.P 26 a b h4) h4 fun v5 h6=>
 bm (ab s.P 46 v5 h6) h6 fun v7 h8=>
 some (v7,h8)):=kB
theorem aeh:evF Tryz.prog xM (k+1) wl 27 [a,b] h=ai (xX (xS k) 27 wl k false) Tryz.f27 [a,b] h:=by kernel_rfl
-- names: ac2,
theorem adf:ai (xX s 32 wl k false) Tryz.f32 [a,b] h =
 bp (aL a h) fun v1 h2=>
 bp (aL b h2) fun v3 h4=>
 bm (ab s.P 23 v1 h4) h4 fun v5 h6=>
 bm (ab s.P 3 v3 h6) h6 fun v7 h8=>
 bp (yC s k wl 32 false true (.fn (.func 70) [] []) [v5,v7,(.fn (.func 71) [] [v1,v3])] h8) fun v9 hB=>
 some (v9,hB):=kB
theorem aeD:evF Tryz.prog xM (k+1) wl 32 [a,b] h=ai (xX (xS k) 32 wl k false) Tryz.f32 [a,b] h:=by kernel_rfl
-- names: adf,
noncomputable def fO:Code:=ak (al Tryz.f50) [1,0]
noncomputable def fF:List Fr:=[.seq (ak (al Tryz.f50) [1,1])]
theorem adB:ai (xX s 50 wl k false) Tryz.f50 [a] h =
 bp (aL a h) fun v1 h2=>
 bm (aa s.P 23 v1 0) h2 fun v3 h4=>
 bm (ab s.P 3 v3 h4) h4 fun v5 h6=>
 bp (yC s k wl 50 false true (.fn (.func 93) [] []) [v5,(.lit (.int .i64 1)),(.lit (.int .i64 8))] h6) fun v7 h8=>
 gd v7 (
 bm (aa s.P 23 v1 1) h8 fun v9 hB=>
 bm (ab s.P 3 v9 hB) hB fun vA hF=>
 bp (yC s k wl 50 false true (.fn (.func 93) [] []) [vA,(.lit (.int .i64 1)),(.lit (.int .i64 16))] hF) fun vC hG=>
 yO s k wl 50 Tryz.f50 fO 7 h2.length ([],[]) fF ⟨[a,v1,(.lit (.bool false)),v3,v5,v7,(.lit (.bool true)),v9,vA,vC,uu,uu,uu,uu,uu,uu,uu,uu,uu,uu,uu,uu,uu,uu,uu,uu,uu,uu,uu,uu],hG⟩) (
 yO s k wl 50 Tryz.f50 fO 7 h2.length ([],[]) fF ⟨[a,v1,(.lit (.bool false)),v3,v5,v7,(.lit (.bool false)),uu,uu,uu,uu,uu,uu,uu,uu,uu,uu,uu,uu,uu,uu,uu,uu,uu,uu,uu,uu,uu,uu,uu],h8⟩) (
 yO s k wl 50 Tryz.f50 fO 5 h2.length ([],[]) fF ⟨[a,v1,(.lit (.bool false)),v3,v5,v7,v7,uu,uu,uu,uu,uu,uu,uu,uu,uu,uu,uu,uu,uu,uu,uu,uu,uu,uu,uu,uu,uu,uu,uu],h8⟩):=kB
theorem adQ:evF Tryz.prog xM (k+1) wl 50 [a] h=ai (xX (xS k) 50 wl k false) Tryz.f50 [a] h:=by kernel_rfl
theorem OO:yO s k wl 50 Tryz.f50 fO 7 m0 ac fF ⟨(a::b::d::e::o::p::g::l::q::j::u::r::A::y::z::B::D::F::E::zz),h⟩ =
 bm (aM g j (.lit (.bool false))) h fun vB hH=>
 gd vB (
 bm (aa s.P 23 b 1) hH fun vD hI=>
 bm (ab s.P 3 vD hI) hI fun vE hJ=>
 bm (aa s.P 23 b 1) hJ fun vI hK=>
 bm (ab s.P 3 vI hK) hK fun vF hL=>
 bm (au s.P .sub 3 vF (.lit (.int .i64 1))) hL fun vQ hR=>
 bm (au s.P .and 3 vE vQ) hR fun vR hX=>
 bm (au s.P .eql 3 vR (.lit (.int .i64 0))) hX fun vX hY=>
 yO s k wl 50 Tryz.f50 fO 16 m0 ac fF ⟨(a::b::d::e::o::p::g::l::q::j::vB::(.lit (.bool true))::vD::vE::vI::vF::vQ::vR::vX::zz),hY⟩) (
 yO s k wl 50 Tryz.f50 fO 16 m0 ac fF ⟨(a::b::d::e::o::p::g::l::q::j::vB::(.lit (.bool false))::uu::uu::uu::uu::uu::uu::uu::zz),hH⟩) (
 yO s k wl 50 Tryz.f50 fO 10 m0 ac fF ⟨(a::b::d::e::o::p::g::l::q::j::vB::vB::uu::y::z::B::D::F::E::zz),hH⟩):=kG
theorem OS:yO s k wl 50 Tryz.f50 fO 16 m0 ac fF ⟨[a,b,d,e,o,p,g,l,q,j,u,r,A,y,z,B,D,F,E,I,M,R,N,J,T,O,U,Q,L,G],h⟩ =
 bm (aM r E (.lit (.bool false))) h fun vK hM=>
 gd vK (
 bm (aa s.P 23 b 2) hM fun vS hU=>
 bm (ab s.P 3 vS hU) hU fun vO hZ=>
 bp (yC s k wl 50 false true (.fn (.func 93) [] []) [vO,(.lit (.int .i64 1)),(.lit (.int .i64 16))] hZ) fun vM hS=>
 yO s k wl 50 Tryz.f50 fO 21 m0 ac fF ⟨[a,b,d,e,o,p,g,l,q,j,u,r,A,y,z,B,D,F,E,vK,(.lit (.bool true)),vS,vO,vM,T,O,U,Q,L,G],hS⟩) (
 yO s k wl 50 Tryz.f50 fO 21 m0 ac fF ⟨[a,b,d,e,o,p,g,l,q,j,u,r,A,y,z,B,D,F,E,vK,(.lit (.bool false)),uu,uu,uu,T,O,U,Q,L,G],hM⟩) (
 yO s k wl 50 Tryz.f50 fO 19 m0 ac fF ⟨[a,b,d,e,o,p,g,l,q,j,u,r,A,y,z,B,D,F,E,vK,vK,uu,N,J,T,O,U,Q,L,G],hM⟩):=kG
theorem O6:yO s k wl 50 Tryz.f50 fO 21 m0 ac fF ⟨[a,b,d,e,o,p,g,l,q,j,u,r,A,y,z,B,D,F,E,I,M,R,N,J,T,O,U,Q,L,G],h⟩ =
 bm (aM M J (.lit (.bool false))) h fun vH hN=>
 gd vH (
 bm (aa s.P 23 b 3) hN fun vL hP=>
 bm (ab s.P 3 vL hP) hP fun vN hA=>
 bp (yC s k wl 50 false true (.fn (.func 93) [] []) [vN,(.lit (.int .i64 0)),(.lit (.int .i64 4))] hA) fun vJ hQ=>
 yO s k wl 50 Tryz.f50 fO 26 m0 ac fF ⟨[a,b,d,e,o,p,g,l,q,j,u,r,A,y,z,B,D,F,E,I,M,R,N,J,vH,(.lit (.bool true)),vL,vN,vJ,G],hQ⟩) (
 yO s k wl 50 Tryz.f50 fO 26 m0 ac fF ⟨[a,b,d,e,o,p,g,l,q,j,u,r,A,y,z,B,D,F,E,I,M,R,N,J,vH,(.lit (.bool false)),uu,uu,uu,G],hN⟩) (
 yO s k wl 50 Tryz.f50 fO 24 m0 ac fF ⟨[a,b,d,e,o,p,g,l,q,j,u,r,A,y,z,B,D,F,E,I,M,R,N,J,vH,vH,uu,Q,L,G],hN⟩):=kG
theorem Or:yO s k wl 50 Tryz.f50 fO 26 m0 ac fF ⟨[a,b,d,e,o,p,g,l,q,j,u,r,A,y,z,B,D,F,E,I,M,R,N,J,T,O,U,Q,L,G],h⟩ =
 bm (aM O L (.lit (.bool false))) h fun vG hO=>
 some (vG,hO):=kG
theorem uD (cx:Cx) (s:St):ap cx K fF .ret s=K .ret s:=by kernel_rfl
-- names: adB,OO,OS,O6,Or,uD
noncomputable def E1:Code:=ak (al Tryz.f66) [1,0]
noncomputable def Cb:List Fr:=[.seq (ak (al Tryz.f66) [1,1])]
theorem adj:ai (xX s 66 wl k false) Tryz.f66 [a,b] h =
 bm (au s.P .geq 3 b (.lit (.int .i64 0))) h fun v1 h2=>
 gd v1 (
 bp (a9 s.P 26 a h2) fun v3 h4=>
 bm (au s.P .lss 3 b v3) h4 fun v5 h6=>
 yO s k wl 66 Tryz.f66 E1 7 h.length ([],[]) Cb ⟨[a,b,uu,uu,(.lit (.bool false)),b,v1,(.lit (.bool true)),b,a,v3,v5,uu],h6⟩) (
 yO s k wl 66 Tryz.f66 E1 7 h.length ([],[]) Cb ⟨[a,b,uu,uu,(.lit (.bool false)),b,v1,(.lit (.bool false)),uu,uu,uu,uu,uu],h2⟩) (
 yO s k wl 66 Tryz.f66 E1 4 h.length ([],[]) Cb ⟨[a,b,uu,uu,(.lit (.bool false)),b,v1,v1,uu,uu,uu,uu,uu],h2⟩):=kB
theorem aex:evF Tryz.prog xM (k+1) wl 66 [a,b] h=ai (xX (xS k) 66 wl k false) Tryz.f66 [a,b] h:=by kernel_rfl
theorem N1:yO s k wl 66 Tryz.f66 E1 7 m0 ac Cb ⟨[a,b,d,e,o,p,g,l,q,j,u,r,A],h⟩ =
 bm (aM l r (.lit (.bool false))) h fun v7 h8=>
 some (v7,h8):=kG
theorem r6 (cx:Cx) (s:St):ap cx K Cb .ret s=K .ret s:=by kernel_rfl
-- names: adj,N1,r6
noncomputable def oh:Code:=ak (al Tryz.f69) [1,0]
noncomputable def mR:List Fr:=[.seq (ak (al Tryz.f69) [1,1])]
theorem adk:ai (xX s 69 wl k false) Tryz.f69 [a] h =
 bp (aL a h) fun v1 h2=>
 bm (aa s.P 55 v1 0) h2 fun v3 h4=>
 bm (ab s.P 3 v3 h4) h4 fun v5 h6=>
 bm (au s.P .eql 3 v5 (.lit (.int .i64 5))) h6 fun v7 h8=>
 gd v7 (
 bm (ab s.P 55 v1 h8) h8 fun v9 hB=>
 bp (yC s k wl 69 false true (.fn (.func 110) [] []) [v9] hB) fun vA hF=>
 bm (vUn .not vA) hF fun vC hG=>
 yO s k wl 69 Tryz.f69 oh 7 h2.length ([],[]) mR ⟨[a,v1,(.lit (.bool false)),v3,v5,v7,(.lit (.bool true)),v9,vA,vC,uu,uu,uu,uu,uu,uu],hG⟩) (
 yO s k wl 69 Tryz.f69 oh 7 h2.length ([],[]) mR ⟨[a,v1,(.lit (.bool false)),v3,v5,v7,(.lit (.bool false)),uu,uu,uu,uu,uu,uu,uu,uu,uu],h8⟩) (
 yO s k wl 69 Tryz.f69 oh 5 h2.length ([],[]) mR ⟨[a,v1,(.lit (.bool false)),v3,v5,v7,v7,uu,uu,uu,uu,uu,uu,uu,uu,uu],h8⟩):=kB
theorem ael:evF Tryz.prog xM (k+1) wl 69 [a] h=ai (xX (xS k) 69 wl k false) Tryz.f69 [a] h:=by kernel_rfl
theorem N6:yO s k wl 69 Tryz.f69 oh 7 m0 ac mR ⟨[a,b,d,e,o,p,g,l,q,j,u,r,A,y,z,B],h⟩ =
 bm (aM g j (.lit (.bool false))) h fun vB hH=>
 gd vB (
 bm (aa s.P 55 b 1) hH fun vD hI=>
 bm (ab s.P 3 vD hI) hI fun vE hJ=>
 bm (au s.P .eql 3 vE (.lit (.int .i64 3))) hJ fun vI hK=>
 yO s k wl 69 Tryz.f69 oh 12 m0 ac mR ⟨[a,b,d,e,o,p,g,l,q,j,vB,(.lit (.bool true)),vD,vE,vI,B],hK⟩) (
 yO s k wl 69 Tryz.f69 oh 12 m0 ac mR ⟨[a,b,d,e,o,p,g,l,q,j,vB,(.lit (.bool false)),uu,uu,uu,B],hH⟩) (
 yO s k wl 69 Tryz.f69 oh 10 m0 ac mR ⟨[a,b,d,e,o,p,g,l,q,j,vB,vB,uu,y,z,B],hH⟩):=kG
theorem Oj:yO s k wl 69 Tryz.f69 oh 12 m0 ac mR ⟨[a,b,d,e,o,p,g,l,q,j,u,r,A,y,z,B],h⟩ =
 bm (aM r z (.lit (.bool false))) h fun vF hL=>
 some (vF,hL):=kG
theorem uy (cx:Cx) (s:St):ap cx K mR .ret s=K .ret s:=by kernel_rfl
-- names: adk,N6,Oj,uy
noncomputable def EB:Code:=ak (al Tryz.f70) [1,0,0]
noncomputable def Bq:List Fr:=[.seq (ak (al Tryz.f70) [1,0,1]),.seq (ak (al Tryz.f70) [1,1])]
theorem P9:ai (xX s 70 wl k false) Tryz.f70 [a,b,d] h =
 bp (aL a h) fun v1 h2=>
 bm (ab s.P 23 v1 h2) h2 fun v3 h4=>
 bp (yC s k wl 70 false true (.fn (.func 50) [] []) [v3] h4) fun v5 h6=>
 bm (vUn .not v5) h6 fun v7 h8=>
 gd v7 (
 yO s k wl 70 Tryz.f70 EB 10 h2.length ([],[]) Bq ⟨[a,b,d,v1,uu,uu,(.lit (.int .i64 0)),v3,v5,v7,(.lit (.bool true)),uu,uu,uu,uu,uu,uu,uu,uu,uu],h8⟩) (
 bm (aa s.P 23 v1 0) h8 fun v9 hB=>
 bm (ab s.P 3 v9 hB) hB fun vA hF=>
 bm (au s.P .sub 3 vA (.lit (.int .i64 1))) hF fun vC hG=>
 bp (yC s k wl 70 false true (.fn (.func 93) [] []) [b,(.lit (.int .i64 0)),vC] hG) fun vB hH=>
 bm (vUn .not vB) hH fun vD hI=>
 yO s k wl 70 Tryz.f70 EB 10 h2.length ([],[]) Bq ⟨[a,b,d,v1,uu,uu,(.lit (.int .i64 0)),v3,v5,v7,(.lit (.bool false)),b,v9,vA,vC,vB,vD,uu,uu,uu],hI⟩) (
 yO s k wl 70 Tryz.f70 EB 5 h2.length ([],[]) Bq ⟨[a,b,d,v1,uu,uu,(.lit (.int .i64 0)),v3,v5,v7,v7,uu,uu,uu,uu,uu,uu,uu,uu,uu],h8⟩):=kB
theorem TS:evF Tryz.prog xM (k+1) wl 70 [a,b,d] h=ai (xX (xS k) 70 wl k false) Tryz.f70 [a,b,d] h:=by kernel_rfl
theorem pb:yO s k wl 70 Tryz.f70 EB 10 m0 ac Bq ⟨[a,b,d,e,o,p,g,l,q,j,u,r,A,y,z,B,D,F,E,I],h⟩ =
 bm (aM u (.lit (.bool true)) D) h fun vE hJ=>
 cnd vE (
 some ((.lit (.int .i64 (-1))),hJ)) (
 bp (yC s k wl 70 false true d [] hJ) fun vI hK=>
 some (vI,hK)):=kG
theorem fp (cx:Cx) (s:St):ap cx K Bq .ret s=K .ret s:=by kernel_rfl
-- names: P9,pb,fp
theorem ac3:ai (xX s 71 wl k false) Tryz.f71 [a,b] h =
 bm (ab s.P 23 a h) h fun v1 h2=>
 bm (ab s.P 3 b h2) h2 fun v3 h4=>
 bp (yC s k wl 71 false true (.fn (.func 72) [] []) [v1,v3] h4) fun v5 h6=>
 bm (au s.P .add 3 v5 (.lit (.int .i64 2))) h6 fun v7 h8=>
 some (v7,h8):=kB
theorem adP:evF Tryz.prog xM (k+1) wl 71 [a,b] h=ai (xX (xS k) 71 wl k false) Tryz.f71 [a,b] h:=by kernel_rfl
-- names: ac3,
theorem adi:ai (xX s 72 wl k false) Tryz.f72 [a,b] h =
 bp (aL a h) fun v1 h2=>
 bm (aa s.P 23 v1 2) h2 fun v3 h4=>
 bm (ab s.P 3 v3 h4) h4 fun v5 h6=>
 bm (au s.P .mul 3 (.lit (.int .i64 2)) v5) h6 fun v7 h8=>
 bm (au s.P .add 3 (.lit (.int .i64 6)) v7) h8 fun v9 hB=>
 bm (aa s.P 23 v1 1) hB fun vA hF=>
 bm (ab s.P 3 vA hF) hF fun vC hG=>
 bm (au s.P .add 3 (.lit (.int .i64 3)) vC) hG fun vB hH=>
 bm (au s.P .mul 3 b vB) hH fun vD hI=>
 bm (au s.P .add 3 v9 vD) hI fun vE hJ=>
 some (vE,hJ):=kB
theorem adL:evF Tryz.prog xM (k+1) wl 72 [a,b] h=ai (xX (xS k) 72 wl k false) Tryz.f72 [a,b] h:=by kernel_rfl
-- names: adi,
theorem ady:ai (xX s 88 wl k false) Tryz.f88 [a,b,d] h =
 bp (aL d h) fun v1 h2=>
 bp (some (.own h2.length 0 0,h2++[.rows 0 [] 0 true])) fun v3 h4=>
 bp (yC s k wl 88 false true (.fn (.func 143) [] []) [a,b,(.fn (.func 144) [] [v1])] h4) fun v5 h6=>
 bm (ao v5 0) h6 fun v7 h8=>
 bm (ao v5 1) h8 fun v9 hB=>
 some (v7,hB):=kB
theorem adM:evF Tryz.prog xM (k+1) wl 88 [a,b,d] h=ai (xX (xS k) 88 wl k false) Tryz.f88 [a,b,d] h:=by kernel_rfl
-- names: ady,
noncomputable def Em:Code:=ak (al Tryz.f93) [1,0]
noncomputable def BK:List Fr:=[.seq (ak (al Tryz.f93) [1,1])]
theorem adl:ai (xX s 93 wl k false) Tryz.f93 [a,b,d] h =
 bm (au s.P .geq 3 a b) h fun v1 h2=>
 gd v1 (
 bm (au s.P .leq 3 a d) h2 fun v3 h4=>
 yO s k wl 93 Tryz.f93 Em 7 h.length ([],[]) BK ⟨[a,b,d,uu,uu,uu,(.lit (.bool false)),a,b,v1,(.lit (.bool true)),a,d,v3,uu],h4⟩) (
 yO s k wl 93 Tryz.f93 Em 7 h.length ([],[]) BK ⟨[a,b,d,uu,uu,uu,(.lit (.bool false)),a,b,v1,(.lit (.bool false)),uu,uu,uu,uu],h2⟩) (
 yO s k wl 93 Tryz.f93 Em 5 h.length ([],[]) BK ⟨[a,b,d,uu,uu,uu,(.lit (.bool false)),a,b,v1,v1,uu,uu,uu,uu],h2⟩):=kB
theorem aet:evF Tryz.prog xM (k+1) wl 93 [a,b,d] h=ai (xX (xS k) 93 wl k false) Tryz.f93 [a,b,d] h:=by kernel_rfl
theorem ON:yO s k wl 93 Tryz.f93 Em 7 m0 ac BK ⟨[a,b,d,e,o,p,g,l,q,j,u,r,A,y,z],h⟩ =
 bm (aM u y (.lit (.bool false))) h fun v5 h6=>
 some (v5,h6):=kG
theorem uH (cx:Cx) (s:St):ap cx K BK .ret s=K .ret s:=by kernel_rfl
-- names: adl,ON,uH
theorem Uc:ai (xX s 103 wl k false) Tryz.f103 [a] h =
 bp (aL a h) fun v1 h2=>
 bm (ab s.P 23 v1 h2) h2 fun v3 h4=>
 bp (yC s k wl 103 false true (.fn (.func 50) [] []) [v3] h4) fun v5 h6=>
 bm (vUn .not v5) h6 fun v7 h8=>
 cnd v7 (
 some ((.lit (.int .i64 0)),h8)) (
 bm (ab s.P 23 v1 h8) h8 fun v9 hB=>
 bm (aa s.P 23 v1 0) hB fun vA hF=>
 bm (ab s.P 3 vA hF) hF fun vC hG=>
 bp (yC s k wl 103 false true (.fn (.func 72) [] []) [v9,vC] hG) fun vB hH=>
 some (vB,hH)):=kB
theorem aax:evF Tryz.prog xM (k+1) wl 103 [a] h=ai (xX (xS k) 103 wl k false) Tryz.f103 [a] h:=by kernel_rfl
-- names: Uc,
theorem Wr:ai (xX s 104 wl k false) Tryz.f104 [a,b,d] h =
 bp (aw s.P 55 h) fun v1 h2=>
 bm (a8 s.P 55 [(0,a),(2,b),(3,d)]) h2 fun v3 h4=>
 bs (ah s.P wl 55 v1 v3 h4) fun h5=>
 dK [ab s.P 55 v1 h5] h5:=kB
theorem ZA:evF Tryz.prog xM (k+1) wl 104 [a,b,d] h=ai (xX (xS k) 104 wl k false) Tryz.f104 [a,b,d] h:=by kernel_rfl
-- names: Wr,
theorem W5:ai (xX s 107 wl k false) Tryz.f107 [a,b] h =
 bp (aL a h) fun v1 h2=>
 bp (aL b h2) fun v3 h4=>
 bm (ab s.P 23 v1 h4) h4 fun v5 h6=>
 bm (ab s.P 3 v3 h6) h6 fun v7 h8=>
 bp (yC s k wl 107 false true (.fn (.func 70) [] []) [v5,v7,(.fn (.func 149) [] [v1,v3])] h8) fun v9 hB=>
 some (v9,hB):=kB
theorem aaM:evF Tryz.prog xM (k+1) wl 107 [a,b] h=ai (xX (xS k) 107 wl k false) Tryz.f107 [a,b] h:=by kernel_rfl
-- names: W5,
theorem US:ai (xX s 108 wl k false) Tryz.f108 [a,b] h =
 bp (aL a h) fun v1 h2=>
 bp (aL b h2) fun v3 h4=>
 bm (ab s.P 23 v1 h4) h4 fun v5 h6=>
 bm (ab s.P 3 v3 h6) h6 fun v7 h8=>
 bp (yC s k wl 108 false true (.fn (.func 70) [] []) [v5,v7,(.fn (.func 150) [] [v1,v3])] h8) fun v9 hB=>
 some (v9,hB):=kB
theorem acL:evF Tryz.prog xM (k+1) wl 108 [a,b] h=ai (xX (xS k) 108 wl k false) Tryz.f108 [a,b] h:=by kernel_rfl
-- names: US,
theorem U4:ai (xX s 109 wl k false) Tryz.f109 [a,b,d] h =
 bp (aL a h) fun v1 h2=>
 bp (aL b h2) fun v3 h4=>
 bp (aL d h4) fun v5 h6=>
 bm (ab s.P 23 v1 h6) h6 fun v7 h8=>
 bm (ab s.P 3 v3 h8) h8 fun v9 hB=>
 bp (yC s k wl 109 false true (.fn (.func 70) [] []) [v7,v9,(.fn (.func 151) [] [v1,v3,v5])] hB) fun vA hF=>
 some (vA,hF):=kB
theorem aay:evF Tryz.prog xM (k+1) wl 109 [a,b,d] h=ai (xX (xS k) 109 wl k false) Tryz.f109 [a,b,d] h:=by kernel_rfl
-- names: U4,
theorem Uv:ai (xX s 110 wl k false) Tryz.f110 [a] h =
 bp (aL a h) fun v1 h2=>
 bm (aa s.P 55 v1 6) h2 fun v3 h4=>
 bm (ab s.P 3 v3 h4) h4 fun v5 h6=>
 bm (au s.P .neq 3 v5 (.lit (.int .i64 0))) h6 fun v7 h8=>
 some (v7,h8):=kB
theorem abk:evF Tryz.prog xM (k+1) wl 110 [a] h=ai (xX (xS k) 110 wl k false) Tryz.f110 [a] h:=by kernel_rfl
-- names: Uv,
theorem X6:ai (xX s 138 wl k false) Tryz.f138 [a,b,d] h =
 bp (aL d h) fun v1 h2=>
 bp (some (.own h2.length 0 0,h2++[.rows 0 [] 0 true])) fun v3 h4=>
 bp (yC s k wl 138 false true (.fn (.func 143) [] []) [a,b,(.fn (.func 169) [] [v1])] h4) fun v5 h6=>
 bm (ao v5 0) h6 fun v7 h8=>
 bm (ao v5 1) h8 fun v9 hB=>
 some (.tup [v7,v9],hB):=kB
theorem aaV:evF Tryz.prog xM (k+1) wl 138 [a,b,d] h=ai (xX (xS k) 138 wl k false) Tryz.f138 [a,b,d] h:=by kernel_rfl
-- names: X6,
theorem K2:ai (xX s 143 wl k false) Tryz.f143 [a,b,d] h =
 bp (some (.own h.length 0 0,h++[.rows 0 [] 0 true])) fun v1 h2=>
 bp (yC s k wl 143 false true (.fn (.func 76) [] []) [a] h2) fun v3 h4=>
 bp (yC s k wl 143 false true (.fn (.func 66) [] []) [a,b] h4) fun v5 h6=>
 bm (vUn .not v5) h6 fun v7 h8=>
 cnd v7 (
 some (.tup [v3,(.lit (.int .u64 0))],h8)) (
 bm (aj s.P 26 a b h8) h8 fun v9 hB=>
 bm (ab s.P 46 v9 hB) hB fun vA hF=>
 bp (yC s k wl 143 false true d [vA] hF) fun vC hG=>
 bm (aj s.P 26 v3 b hG) hG fun vB hH=>
 bs (ah s.P wl 46 vB vC hH) fun he=>
 bm (aj s.P 26 a b he) he fun vu hl=>
 bm (ab s.P 46 vu hl) hl fun vv hx=>
 some (.tup [v3,vv],hx)):=kB
theorem QU:evF Tryz.prog xM (k+1) wl 143 [a,b,d] h=ai (xX (xS k) 143 wl k false) Tryz.f143 [a,b,d] h:=by kernel_rfl
-- names: K2,
theorem U1:ai (xX s 144 wl k false) Tryz.f144 [a,b] h =
 bm (ab s.P 46 b h) h fun v1 h2=>
 some (v1,h2):=kB
theorem ab4:evF Tryz.prog xM (k+1) wl 144 [a,b] h=ai (xX (xS k) 144 wl k false) Tryz.f144 [a,b] h:=by kernel_rfl
-- names: U1,
theorem Ww:ai (xX s 149 wl k false) Tryz.f149 [a,b] h =
 bm (ab s.P 23 a h) h fun v1 h2=>
 bm (ab s.P 3 b h2) h2 fun v3 h4=>
 bp (yC s k wl 149 false true (.fn (.func 72) [] []) [v1,v3] h4) fun v5 h6=>
 some (v5,h6):=kB
theorem Zw:evF Tryz.prog xM (k+1) wl 149 [a,b] h=ai (xX (xS k) 149 wl k false) Tryz.f149 [a,b] h:=by kernel_rfl
-- names: Ww,
theorem T9:ai (xX s 150 wl k false) Tryz.f150 [a,b] h =
 bm (ab s.P 23 a h) h fun v1 h2=>
 bm (ab s.P 3 b h2) h2 fun v3 h4=>
 bp (yC s k wl 150 false true (.fn (.func 72) [] []) [v1,v3] h4) fun v5 h6=>
 bm (au s.P .add 3 v5 (.lit (.int .i64 1))) h6 fun v7 h8=>
 some (v7,h8):=kB
theorem abW:evF Tryz.prog xM (k+1) wl 150 [a,b] h=ai (xX (xS k) 150 wl k false) Tryz.f150 [a,b] h:=by kernel_rfl
-- names: T9,
theorem Vv:ai (xX s 151 wl k false) Tryz.f151 [a,b,d] h =
 bm (ab s.P 23 a h) h fun v1 h2=>
 bm (ab s.P 3 b h2) h2 fun v3 h4=>
 bp (yC s k wl 151 true true (.fn (.func 72) [] []) [v1,v3] h4) fun v5 h6=>
 bm (au s.P .add 3 v5 (.lit (.int .i64 3))) h6 fun v7 h8=>
 stO h.length d (
 bm (ab s.P 46 d h8) h8 fun v9 hB=>
 bm (aa s.P 23 a 1) hB fun vA hF=>
 stO h.length vA (
 bm (ab s.P 3 vA hF) hF fun vC hG=>
 bm (au s.P .sub 3 vC (.lit (.int .i64 1))) hG fun vB hH=>
 bm (fi s.P 3 46 vB) hH fun vD hI=>
 bm (au s.P .and 46 v9 vD) hI fun vE hJ=>
 bm (fi s.P 46 3 vE) hJ fun vI hK=>
 bm (au s.P .add 3 v7 vI) hK fun vF hL=>
 some (vF,hL))):=kB
theorem abh:evF Tryz.prog xM (k+1) wl 151 [a,b,d] h=ai (xX (xS k) 151 wl k false) Tryz.f151 [a,b,d] h:=by kernel_rfl
-- names: Vv,
theorem XH:ai (xX s 169 wl k false) Tryz.f169 [a,b] h =
 bm (ab s.P 46 b h) h fun v1 h2=>
 bm (au s.P .add 46 a v1) h2 fun v3 h4=>
 some (v3,h4):=kB
theorem aab:evF Tryz.prog xM (k+1) wl 169 [a,b] h=ai (xX (xS k) 169 wl k false) Tryz.f169 [a,b] h:=by kernel_rfl
-- names: XH,
theorem Yo:ai (xX s 191 wl k false) Tryz.f191 [a,b,d,e] h =
 bp (aL d h) fun v1 h2=>
 bp (aL e h2) fun v3 h4=>
 bp (some (.own h4.length 0 0,h4++[.rows 0 [] 0 true])) fun v5 h6=>
 bp (aw s.P 4 h6) fun v7 h8=>
 bs (ah s.P wl 4 v7 (.lit (.bool false)) h8) fun h9=>
 bp (yC s k wl 191 false true (.fn (.func 143) [] []) [a,b,(.fn (.func 219) [] [v1,v7,v3])] h9) fun vd hy=>
 bm (ao vd 0) hy fun vw hz=>
 bm (ao vd 1) hz fun v14 ha=>
 bm (ab s.P 4 v7 ha) ha fun vx he=>
 some (.tup [vw,vx],he):=kB
theorem aag:evF Tryz.prog xM (k+1) wl 191 [a,b,d,e] h=ai (xX (xS k) 191 wl k false) Tryz.f191 [a,b,d,e] h:=by kernel_rfl
-- names: Yo,
theorem Uo:ai (xX s 219 wl k false) Tryz.f219 [a,b,d,e] h =
 bm (ab s.P 46 b h) h fun v1 h2=>
 bm (au s.P .neq 46 a v1) h2 fun v3 h4=>
 cnd v3 (
 some (a,h4)) (
 bs (ah s.P wl 4 d (.lit (.bool true)) h4) fun h5=>
 bm (ab s.P 46 e h5) h5 fun v6 h7=>
 some (v6,h7)):=kB
theorem aco:evF Tryz.prog xM (k+1) wl 219 [a,b,d,e] h=ai (xX (xS k) 219 wl k false) Tryz.f219 [a,b,d,e] h:=by kernel_rfl
-- names: Uo,
theorem T0:ai (xX s 222 wl k false) Tryz.f222 [a,b] h =
 bm (ab s.P 46 a h) h fun v1 h2=>
 bm (aa s.P 23 b 2) h2 fun v3 h4=>
 bm (ab s.P 3 v3 h4) h4 fun v5 h6=>
 bm (fi s.P 3 46 v5) h6 fun v7 h8=>
 bm (au s.P .rem 46 v1 v7) h8 fun v9 hB=>
 bm (fi s.P 46 3 v9) hB fun vA hF=>
 bm (au s.P .add 3 (.lit (.int .i64 6)) vA) hF fun vC hG=>
 some (vC,hG):=kB
theorem abt:evF Tryz.prog xM (k+1) wl 222 [a,b] h=ai (xX (xS k) 222 wl k false) Tryz.f222 [a,b] h:=by kernel_rfl
-- names: T0,
theorem Vz:ai (xX s 223 wl k false) Tryz.f223 [a,b] h =
 bm (aa s.P 23 a 2) h fun v1 h2=>
 bm (ab s.P 3 v1 h2) h2 fun v3 h4=>
 bm (au s.P .add 3 (.lit (.int .i64 6)) v3) h4 fun v5 h6=>
 bm (ab s.P 46 b h6) h6 fun v7 h8=>
 bm (aa s.P 23 a 2) h8 fun v9 hB=>
 bm (ab s.P 3 v9 hB) hB fun vA hF=>
 bm (fi s.P 3 46 vA) hF fun vC hG=>
 bm (au s.P .rem 46 v7 vC) hG fun vB hH=>
 bm (fi s.P 46 3 vB) hH fun vD hI=>
 bm (au s.P .add 3 v5 vD) hI fun vE hJ=>
 some (vE,hJ):=kB
theorem acg:evF Tryz.prog xM (k+1) wl 223 [a,b] h=ai (xX (xS k) 223 wl k false) Tryz.f223 [a,b] h:=by kernel_rfl
-- names: Vz,
theorem X7:ai (xX s 203 wl k false) Tryz.f203 [a,b] h =
 bp (aL a h) fun v1 h2=>
 bp (aL b h2) fun v3 h4=>
 bm (ab s.P 23 v1 h4) h4 fun v5 h6=>
 bp (yC s k wl 203 false true (.fn (.func 70) [] []) [v5,(.lit (.int .i64 0)),(.fn (.func 222) [] [v3,v1])] h6) fun v7 h8=>
 some (v7,h8):=kB
theorem aa4:evF Tryz.prog xM (k+1) wl 203 [a,b] h=ai (xX (xS k) 203 wl k false) Tryz.f203 [a,b] h:=by kernel_rfl
-- names: X7,
theorem VW:ai (xX s 205 wl k false) Tryz.f205 [a,b] h =
 bp (aL a h) fun v1 h2=>
 bp (aL b h2) fun v3 h4=>
 bm (ab s.P 23 v1 h4) h4 fun v5 h6=>
 bp (yC s k wl 205 false true (.fn (.func 70) [] []) [v5,(.lit (.int .i64 0)),(.fn (.func 223) [] [v1,v3])] h6) fun v7 h8=>
 some (v7,h8):=kB
theorem aaU:evF Tryz.prog xM (k+1) wl 205 [a,b] h=ai (xX (xS k) 205 wl k false) Tryz.f205 [a,b] h:=by kernel_rfl
-- names: VW,
end
end Go.Ab
set_option maxRecDepth 100000
set_option linter.unusedVariables false
namespace Go.Ab
open Go.Proofs
section
variable (s:Sys) (k wl:Nat) (m0:Nat) (ac:List Nat×List Nat) (c d g l j o r q y v u B z A p D G E F J M L I N T X U W Q R Y O t4 t1 t2 t3 t0 Z:V) (h:Hp) (K:Out→St→Option (V×Hp)) (rd:Bool) (n n0:Nat) (zz:List V)
noncomputable def Fc:Code:=ak (al Tryz.f31) [1,0]
noncomputable def Bb:List Fr:=[.seq (ak (al Tryz.f31) [1,1])]
theorem adb:ai (xX s 31 wl k false) Tryz.f31 [c] h =
 bp (aL c h) fun v1 h2=>
 bm (aa s.P 65 v1 0) h2 fun v3 h4=>
 bm (ab s.P 3 v3 h4) h4 fun v5 h6=>
 bm (au s.P .eql 3 v5 (.lit (.int .i64 8))) h6 fun v7 h8=>
 gd v7 (
 bm (aa s.P 65 v1 2) h8 fun v9 hB=>
 bm (ab s.P 55 v9 hB) hB fun vA hF=>
 bp (yC s k wl 31 false true (.fn (.func 69) [] []) [vA] hF) fun vC hG=>
 yO s k wl 31 Tryz.f31 Fc 7 h2.length ([],[]) Bb ⟨[c,v1,(.lit (.bool false)),v3,v5,v7,(.lit (.bool true)),v9,vA,vC,uu],hG⟩) (
 yO s k wl 31 Tryz.f31 Fc 7 h2.length ([],[]) Bb ⟨[c,v1,(.lit (.bool false)),v3,v5,v7,(.lit (.bool false)),uu,uu,uu,uu],h8⟩) (
 yO s k wl 31 Tryz.f31 Fc 5 h2.length ([],[]) Bb ⟨[c,v1,(.lit (.bool false)),v3,v5,v7,v7,uu,uu,uu,uu],h8⟩):=kB
theorem adO:evF Tryz.prog xM (k+1) wl 31 [c] h=ai (xX (xS k) 31 wl k false) Tryz.f31 [c] h:=by kernel_rfl
theorem OE:yO s k wl 31 Tryz.f31 Fc 7 m0 ac Bb ⟨[c,d,g,l,j,o,r,q,y,v,u],h⟩ =
 bm (aM r v (.lit (.bool false))) h fun vB hH=>
 some (vB,hH):=kG
theorem uF (cx:Cx) (s:St):ap cx K Bb .ret s=K .ret s:=by kernel_rfl
-- names: adb,OE,uF
theorem V0:ai (xX s 106 wl k false) Tryz.f106 [c,d] h =
 bm (au s.P .sub 46 c d) h fun v1 h2=>
 bm (fi s.P 46 3 v1) h2 fun v3 h4=>
 some (v3,h4):=kB
theorem ab7:evF Tryz.prog xM (k+1) wl 106 [c,d] h=ai (xX (xS k) 106 wl k false) Tryz.f106 [c,d] h:=by kernel_rfl
-- names: V0,
noncomputable def ww:Code:=ak (al Tryz.f161) [1,0,0]
noncomputable def pG:List Fr:=[.seq (ak (al Tryz.f161) [1,0,1]),.seq (ak (al Tryz.f161) [1,1])]
theorem V9:ai (xX s 161 wl k false) Tryz.f161 [c,d,g] h =
 bm (au s.P .lss 3 g (.lit (.int .i64 2))) h fun v1 h2=>
 gd v1 (
 yO s k wl 161 Tryz.f161 ww 7 h.length ([],[]) pG ⟨[c,d,g,uu,uu,uu,(.lit (.int .i64 0)),uu,g,v1,(.lit (.bool true)),uu,uu,uu,uu,uu,uu,uu,uu,uu,uu,uu,uu,uu,uu,uu,uu,uu,uu],h2⟩) (
 bp (yC s k wl 161 false true (.fn (.func 81) [] []) [d,g] h2) fun v3 h4=>
 bm (vUn .not v3) h4 fun v5 h6=>
 yO s k wl 161 Tryz.f161 ww 7 h.length ([],[]) pG ⟨[c,d,g,uu,uu,uu,(.lit (.int .i64 0)),uu,g,v1,(.lit (.bool false)),d,g,v3,v5,uu,uu,uu,uu,uu,uu,uu,uu,uu,uu,uu,uu,uu,uu],h6⟩) (
 yO s k wl 161 Tryz.f161 ww 4 h.length ([],[]) pG ⟨[c,d,g,uu,uu,uu,(.lit (.int .i64 0)),uu,g,v1,v1,uu,uu,uu,uu,uu,uu,uu,uu,uu,uu,uu,uu,uu,uu,uu,uu,uu,uu],h2⟩):=kB
theorem abw:evF Tryz.prog xM (k+1) wl 161 [c,d,g] h=ai (xX (xS k) 161 wl k false) Tryz.f161 [c,d,g] h:=by kernel_rfl
theorem II:yO s k wl 161 Tryz.f161 ww 7 m0 ac pG ⟨[c,d,g,l,j,o,r,q,y,v,u,B,z,A,p,D,G,E,F,J,M,L,I,N,T,X,U,W,Q],h⟩ =
 bm (aM u (.lit (.bool true)) p) h fun v7 h8=>
 cnd v7 (
 some ((.lit (.int .i64 (-1))),h8)) (
 bm (fi s.P 3 46 g) h8 fun v9 hB=>
 bm (fi s.P 3 46 d) hB fun vA hF=>
 bm (au s.P .add 46 vA (.lit (.int .u64 1))) hF fun vC hG=>
 bm (au s.P .sub 46 v9 (.lit (.int .u64 1))) hG fun vB hH=>
 bm (au s.P .rem 46 c vB) hH fun vD hI=>
 bm (au s.P .add 46 vC vD) hI fun vE hJ=>
 bm (au s.P .rem 46 vE v9) hJ fun vI hK=>
 bm (fi s.P 46 3 vI) hK fun vF hL=>
 some (vF,hL)):=kG
theorem rD (cx:Cx) (s:St):ap cx K pG .ret s=K .ret s:=by kernel_rfl
-- names: V9,II,rD
theorem Xn:ai (xX s 192 wl k false) Tryz.f192 [c] h =
 bm (au s.P .and 46 c (.lit (.int .u64 65535))) h fun v1 h2=>
 some (v1,h2):=kB
theorem aaK:evF Tryz.prog xM (k+1) wl 192 [c] h=ai (xX (xS k) 192 wl k false) Tryz.f192 [c] h:=by kernel_rfl
-- names: Xn,
noncomputable def Ix:Code:=ak (al Tryz.f195) [1,0,1,0]
noncomputable def CN:Code:=ak (al Tryz.f195) [1,0,1,0,0]
noncomputable def Dj:Code:=ak (al Tryz.f195) [1,0,1,0,1]
noncomputable def wa:List Fr:=[.block 0,.seq (ak (al Tryz.f195) [1,1])]
theorem r9:Ix= .rangeFunc (.tmp 5) #[6] CN Dj:=by kernel_rfl
theorem Qv:ai (xX s 195 wl k false) Tryz.f195 [c] h =
 bp (aw s.P 3 h) fun v1 h2=>
 bp (yC s k wl 195 false true (.fn (.func 220) [] []) [c] h2) fun v3 h4=>
 be (xX s 195 wl k false) Ix none (ap (xX s 195 wl k false) (am s.P Tryz.f195) wa) ⟨[c,uu,v1,uu,c,v3,uu,uu],h4⟩:=kB
theorem Ym:evF Tryz.prog xM (k+1) wl 195 [c] h=ai (xX (xS k) 195 wl k false) Tryz.f195 [c] h:=by kernel_rfl
theorem PQ (P:Program):am P Tryz.f195 .ret ⟨[c,d,g,l,j,o,r,q],h⟩=dK [ab P 3 g h] h:=by kernel_rfl
theorem Cy:ap (xX s 195 wl k false) (am s.P Tryz.f195) wa .norm ⟨(c::d::g::zz),h⟩ =
 bs (ah s.P wl 3 g (.lit (.int .i64 (-1))) h) fun h5=>
 dK [ab s.P 3 g h5] h5:=kR
theorem gq:ap (xX s 195 wl k rd) K [.seq Dj] .norm ⟨[c,d,g,l,j,o,r,q],h⟩ =
 bs (ah s.P wl 3 g l h) fun h6=>
 K .ret ⟨[c,d,g,l,j,o,r,l],h6⟩:=kR
theorem gF:ap (xX s 195 wl k rd) K [.seq CN] .norm ⟨[c,d,g,l,j,o,r,q],h⟩ =
 K .norm ⟨[c,d,g,r,j,o,r,q],h⟩:=kR
theorem lI (cx:Cx) (s:St):ap cx K wa .ret s=K .ret s:=by kernel_rfl
-- names: Qv,PQ,Cy,gq,gF,lI
-- range over a function at [1,0,1,0]
theorem Ul:ai (xX s 213 wl k false) Tryz.f213 [c] h =
 bm (au s.P .shr 46 c (.lit (.int .u64 16))) h fun v1 h2=>
 some (v1,h2):=kB
theorem aaS:evF Tryz.prog xM (k+1) wl 213 [c] h=ai (xX (xS k) 213 wl k false) Tryz.f213 [c] h:=by kernel_rfl
-- names: Ul,
noncomputable def wC:Code:=ak (al Tryz.f214) [1,0,0]
noncomputable def rj:List Fr:=[.seq (ak (al Tryz.f214) [1,0,1]),.seq (ak (al Tryz.f214) [1,1])]
theorem XI:ai (xX s 214 wl k false) Tryz.f214 [c,d] h =
 bm (au s.P .lss 3 d (.lit (.int .i64 0))) h fun v1 h2=>
 gd v1 (
 yO s k wl 214 Tryz.f214 wC 5 h.length ([],[]) rj ⟨[c,d,uu,uu,(.lit (.int .u64 0)),d,v1,(.lit (.bool true)),uu,uu,uu,uu,uu,uu,uu,uu],h2⟩) (
 bm (au s.P .geq 3 d (.lit (.int .i64 16))) h2 fun v3 h4=>
 yO s k wl 214 Tryz.f214 wC 5 h.length ([],[]) rj ⟨[c,d,uu,uu,(.lit (.int .u64 0)),d,v1,(.lit (.bool false)),d,v3,uu,uu,uu,uu,uu,uu],h4⟩) (
 yO s k wl 214 Tryz.f214 wC 4 h.length ([],[]) rj ⟨[c,d,uu,uu,(.lit (.int .u64 0)),d,v1,v1,uu,uu,uu,uu,uu,uu,uu,uu],h2⟩):=kB
theorem ZT:evF Tryz.prog xM (k+1) wl 214 [c,d] h=ai (xX (xS k) 214 wl k false) Tryz.f214 [c,d] h:=by kernel_rfl
theorem Iz:yO s k wl 214 Tryz.f214 wC 5 m0 ac rj ⟨[c,d,g,l,j,o,r,q,y,v,u,B,z,A,p,D],h⟩ =
 bm (aM q (.lit (.bool true)) v) h fun v5 h6=>
 cnd v5 (
 some (c,h6)) (
 bm (au s.P .shl 46 (.lit (.int .u64 1)) d) h6 fun v7 h8=>
 bm (au s.P .or 46 c v7) h8 fun v9 hB=>
 some (v9,hB)):=kG
theorem p9 (cx:Cx) (s:St):ap cx K rj .ret s=K .ret s:=by kernel_rfl
-- names: XI,Iz,p9
theorem Yn:ai (xX s 216 wl k false) Tryz.f216 [c] h =
 bp (yC s k wl 216 false true (.fn (.func 192) [] []) [c] h) fun v1 h2=>
 bp (yC s k wl 216 false true (.fn (.func 213) [] []) [c] h2) fun v3 h4=>
 bm (au s.P .add 46 v3 (.lit (.int .u64 1))) h4 fun v5 h6=>
 bm (au s.P .sub 46 v1 (.lit (.int .u64 1))) h6 fun v7 h8=>
 bm (au s.P .and 46 v1 v7) h8 fun v9 hB=>
 bp (yC s k wl 216 false true (.fn (.func 233) [] []) [v5,v9] hB) fun vA hF=>
 bp (yC s k wl 216 false true (.fn (.func 195) [] []) [v1] hF) fun vC hG=>
 some (.tup [vA,vC],hG):=kB
theorem abd:evF Tryz.prog xM (k+1) wl 216 [c] h=ai (xX (xS k) 216 wl k false) Tryz.f216 [c] h:=by kernel_rfl
-- names: Yn,
theorem WK:ai (xX s 218 wl k false) Tryz.f218 [c] h =
 bp (yC s k wl 218 false true (.fn (.func 213) [] []) [c] h) fun v1 h2=>
 bm (au s.P .add 46 v1 (.lit (.int .u64 1))) h2 fun v3 h4=>
 bp (yC s k wl 218 false true (.fn (.func 233) [] []) [v3,(.lit (.int .u64 0))] h4) fun v5 h6=>
 some (v5,h6):=kB
theorem aa3:evF Tryz.prog xM (k+1) wl 218 [c] h=ai (xX (xS k) 218 wl k false) Tryz.f218 [c] h:=by kernel_rfl
-- names: WK,
theorem S7:ai (xX s 220 wl k false) Tryz.f220 [c] h =
 bp (aL c h) fun v1 h2=>
 some ((.fn (.func 234) [] [v1]),h2):=kB
theorem Uh:evF Tryz.prog xM (k+1) wl 220 [c] h=ai (xX (xS k) 220 wl k false) Tryz.f220 [c] h:=by kernel_rfl
-- names: S7,
theorem WO:ai (xX s 233 wl k false) Tryz.f233 [c,d] h =
 bm (au s.P .shl 46 c (.lit (.int .u64 16))) h fun v1 h2=>
 bm (au s.P .and 46 d (.lit (.int .u64 65535))) h2 fun v3 h4=>
 bm (au s.P .or 46 v1 v3) h4 fun v5 h6=>
 some (v5,h6):=kB
theorem aci:evF Tryz.prog xM (k+1) wl 233 [c,d] h=ai (xX (xS k) 233 wl k false) Tryz.f233 [c,d] h:=by kernel_rfl
-- names: WO,
noncomputable def kU:Code:=ak (al Tryz.f234) [1,0,0]
noncomputable def u9:List Fr:=[.block 0]
noncomputable def Aa:Code:=ak (al Tryz.f234) [1,0,0,1,1,0,0,1,0]
noncomputable def rh:List Fr:=[.seq (ak (al Tryz.f234) [1,0,0,1,1,0,0,1,1]),.block 1,.seq (ak (al Tryz.f234) [1,0,0,1,1,1])]
theorem Q9:ai (xX s 234 wl k false) Tryz.f234 [c,d] h =
 yI s k wl 234 Tryz.f234 kU h.length u9 k ⟨[(V.kill h.length c),(V.kill h.length d),(V.kill h.length uu),(V.kill h.length uu),(.lit (.int .i64 0)),.junk,.junk,.junk,.junk,.junk,.junk,.junk,.junk,.junk,.junk,.junk,.junk,.junk,.junk],b7 h.length h⟩:=kB
theorem V7:evF Tryz.prog xM (k+1) wl 234 [c,d] h=ai (xX (xS k) 234 wl k false) Tryz.f234 [c,d] h:=by kernel_rfl
theorem RA (P:Program):am P Tryz.f234 .ret ⟨[c,d,g,l,j,o,r,q,y,v,u,B,z,A,p,D,G,E,F],h⟩=some (.tup [],h):=by kernel_rfl
theorem HM:itX (xX s 234 wl k rd) kU n0 K (n+1) ⟨[c,d,g,l,j,o,r,q,y,v,u,B,z,A,p,D,G,E,F],h⟩ =
 bm (au s.P .lss 3 j (.lit (.int .i64 16))) h fun v1 h2=>
 cnd v1 (
 bm (ab s.P 46 d h2) h2 fun v3 h4=>
 bm (au s.P .shr 46 v3 j) h4 fun v5 h6=>
 bm (au s.P .and 46 v5 (.lit (.int .u64 1))) h6 fun v7 h8=>
 bm (au s.P .eql 46 v7 (.lit (.int .u64 1))) h8 fun v9 hB=>
 gd v9 (
 bp (bZ (xX s 234 wl k rd) false true c [j] hB) fun vA hF=>
 bm (vUn .not vA) hF fun vC hG=>
 bz (xX s 234 wl k rd) Aa 10 h2.length ([],[]) (ap (xX s 234 wl k rd) (eJ (xX s 234 wl k rd) kU n0 K n) rh) ⟨[c,d,g,j,j,v1,j,v3,j,v5,v7,v9,(.lit (.bool true)),c,j,vA,vC,E,F],hG⟩) (
 bz (xX s 234 wl k rd) Aa 10 h2.length ([],[]) (ap (xX s 234 wl k rd) (eJ (xX s 234 wl k rd) kU n0 K n) rh) ⟨[c,d,g,j,j,v1,j,v3,j,v5,v7,v9,(.lit (.bool false)),uu,uu,uu,uu,E,F],hB⟩) (
 bz (xX s 234 wl k rd) Aa 7 h2.length ([],[]) (ap (xX s 234 wl k rd) (eJ (xX s 234 wl k rd) kU n0 K n) rh) ⟨[c,d,g,j,j,v1,j,v3,j,v5,v7,v9,v9,uu,p,D,G,E,F],hB⟩)) (
 K (.exit 0) ⟨[(V.kill n0 c),(V.kill n0 d),(V.kill n0 g),(V.kill n0 l),.junk,.junk,.junk,.junk,.junk,.junk,.junk,.junk,.junk,.junk,.junk,.junk,.junk,.junk,.junk],b7 n0 h2⟩):=kI
theorem CG:ap (xX s 234 wl k false) (am s.P Tryz.f234) u9 (.exit 0) ⟨(c::zz),h⟩ =
 some (.tup [],h):=kR
theorem Cd:bz (xX s 234 wl k rd) Aa 10 m0 ac (ap (xX s 234 wl k rd) (eJ (xX s 234 wl k rd) kU n0 K n) rh) ⟨[c,d,g,l,j,o,r,q,y,v,u,B,z,A,p,D,G,E,F],h⟩ =
 bm (aM z G (.lit (.bool false))) h fun vB hH=>
 cnd vB (
 K .ret ⟨[c,d,g,l,j,o,r,q,y,v,u,B,z,A,p,D,G,vB,F],hH⟩) (
 bm (au s.P .add 3 j (.lit (.int .i64 1))) hH fun vD hI=>
 itX (xX s 234 wl k rd) kU n0 K n ⟨[(V.kill n0 c),(V.kill n0 d),(V.kill n0 g),(V.kill n0 l),(V.kill n0 vD),.junk,.junk,.junk,.junk,.junk,.junk,.junk,.junk,.junk,.junk,.junk,.junk,.junk,.junk],b7 n0 hI⟩):=kG
theorem ml (cx:Cx) (s:St):ap cx K u9 .ret s=K .ret s:=by kernel_rfl
theorem md (cx:Cx) (s:St):ap cx K rh .ret s=K .ret s:=by kernel_rfl
-- names: Q9,RA,HM,CG,Cd,ml,md
theorem XZ:ai (xX s 193 wl k false) Tryz.f193 [c,d,g] h =
 bp (aL c h) fun v1 h2=>
 bp (aw s.P 55 h2) fun v3 h4=>
 bm (aa s.P 55 v1 0) h4 fun v5 h6=>
 bm (ab s.P 3 v5 h6) h6 fun v7 h8=>
 bm (aa s.P 55 v1 2) h8 fun v9 hB=>
 bm (ab s.P 3 v9 hB) hB fun vA hF=>
 bm (a8 s.P 55 [(0,v7),(2,vA),(3,g),(6,d)]) hF fun vC hG=>
 bs (ah s.P wl 55 v3 vC hG) fun ha=>
 dK [ab s.P 55 v3 ha] ha:=kB
theorem abH:evF Tryz.prog xM (k+1) wl 193 [c,d,g] h=ai (xX (xS k) 193 wl k false) Tryz.f193 [c,d,g] h:=by kernel_rfl
-- names: XZ,
end
end Go.Ab
set_option maxRecDepth 100000
set_option linter.unusedVariables false
namespace Go.Ab
open Go.Proofs
section
variable (s:Sys) (k wl:Nat) (m0:Nat) (ac:List Nat×List Nat) (a b d e j f g l u v o q r y x E z F A B G D I J L M T O U Q N R Y t0 Z X W t5 t6 t7 t8 t9 ta tb tc td te tf t2 tg t3 t4 t1 tk ti th tl tm tn tp tq tr ts tt tu tv tw tx ty tz tA tj:V) (h:Hp) (K:Out→St→Option (V×Hp)) (rd:Bool) (n n0:Nat) (zz:List V)
noncomputable def b8:Code:=ak (al Tryz.f42) [1,0]
noncomputable def bY:List Fr:=[.seq (ak (al Tryz.f42) [1,1])]
theorem ada:ai (xX s 42 wl k false) Tryz.f42 [a,b,d] h =
 bp (aL a h) fun v1 h2=>
 bm (aa s.P 48 v1 0) h2 fun v3 h4=>
 bm (ab s.P 3 v3 h4) h4 fun v5 h6=>
 bm (au s.P .eql 3 v5 (.lit (.int .i64 0))) h6 fun v7 h8=>
 gd v7 (
 bm (aa s.P 48 v1 1) h8 fun v9 hB=>
 bm (ab s.P 3 v9 hB) hB fun vA hF=>
 bp (yC s k wl 42 false true (.fn (.func 81) [] []) [vA,b] hF) fun vC hG=>
 yO s k wl 42 Tryz.f42 b8 8 h2.length ([],[]) bY ⟨[a,b,d,v1,uu,uu,(.lit (.bool false)),v3,v5,v7,(.lit (.bool true)),v9,vA,b,vC,uu,uu,uu,uu,uu,uu,uu,uu,uu,uu,uu,uu,uu,uu,uu,uu,uu,uu,uu,uu,uu,uu],hG⟩) (
 yO s k wl 42 Tryz.f42 b8 8 h2.length ([],[]) bY ⟨[a,b,d,v1,uu,uu,(.lit (.bool false)),v3,v5,v7,(.lit (.bool false)),uu,uu,uu,uu,uu,uu,uu,uu,uu,uu,uu,uu,uu,uu,uu,uu,uu,uu,uu,uu,uu,uu,uu,uu,uu,uu],h8⟩) (
 yO s k wl 42 Tryz.f42 b8 5 h2.length ([],[]) bY ⟨[a,b,d,v1,uu,uu,(.lit (.bool false)),v3,v5,v7,v7,uu,uu,uu,uu,uu,uu,uu,uu,uu,uu,uu,uu,uu,uu,uu,uu,uu,uu,uu,uu,uu,uu,uu,uu,uu,uu],h8⟩):=kB
theorem ad5:evF Tryz.prog xM (k+1) wl 42 [a,b,d] h=ai (xX (xS k) 42 wl k false) Tryz.f42 [a,b,d] h:=by kernel_rfl
theorem Ot:yO s k wl 42 Tryz.f42 b8 8 m0 ac bY ⟨(a::b::d::e::j::f::g::l::u::v::o::q::r::y::x::E::z::F::A::B::G::D::I::J::L::M::zz),h⟩ =
 bm (aM o x (.lit (.bool false))) h fun vB hH=>
 gd vB (
 yO s k wl 42 Tryz.f42 b8 19 m0 ac bY ⟨(a::b::d::e::j::f::g::l::u::v::o::q::r::y::x::vB::(.lit (.bool true))::uu::uu::uu::uu::uu::uu::uu::uu::uu::zz),hH⟩) (
 bm (aa s.P 48 e 0) hH fun vD hI=>
 bm (ab s.P 3 vD hI) hI fun vE hJ=>
 bm (au s.P .eql 3 vE (.lit (.int .i64 1))) hJ fun vI hK=>
 yO s k wl 42 Tryz.f42 b8 14 m0 ac bY ⟨(a::b::d::e::j::f::g::l::u::v::o::q::r::y::x::vB::(.lit (.bool false))::vD::vE::vI::vI::D::I::J::L::M::zz),hK⟩) (
 yO s k wl 42 Tryz.f42 b8 11 m0 ac bY ⟨(a::b::d::e::j::f::g::l::u::v::o::q::r::y::x::vB::vB::uu::A::B::G::D::I::J::L::M::zz),hH⟩):=kG
theorem Oq:yO s k wl 42 Tryz.f42 b8 19 m0 ac bY ⟨[a,b,d,e,j,f,g,l,u,v,o,q,r,y,x,E,z,F,A,B,G,D,I,J,L,M,T,O,U,Q,N,R,Y,t0,Z,X,W],h⟩ =
 bm (aM z (.lit (.bool true)) M) h fun vF hL=>
 gd vF (
 yO s k wl 42 Tryz.f42 b8 24 m0 ac bY ⟨[a,b,d,e,j,f,g,l,u,v,o,q,r,y,x,E,z,F,A,B,G,D,I,J,L,M,vF,(.lit (.bool true)),uu,uu,uu,R,Y,t0,Z,X,W],hL⟩) (
 bm (aa s.P 48 e 0) hL fun vQ hR=>
 bm (ab s.P 3 vQ hR) hR fun vR hX=>
 bm (au s.P .eql 3 vR (.lit (.int .i64 2))) hX fun vX hY=>
 yO s k wl 42 Tryz.f42 b8 24 m0 ac bY ⟨[a,b,d,e,j,f,g,l,u,v,o,q,r,y,x,E,z,F,A,B,G,D,I,J,L,M,vF,(.lit (.bool false)),vQ,vR,vX,R,Y,t0,Z,X,W],hY⟩) (
 yO s k wl 42 Tryz.f42 b8 22 m0 ac bY ⟨[a,b,d,e,j,f,g,l,u,v,o,q,r,y,x,E,z,F,A,B,G,D,I,J,L,M,vF,vF,uu,Q,N,R,Y,t0,Z,X,W],hL⟩):=kG
theorem Ou:yO s k wl 42 Tryz.f42 b8 14 m0 ac bY ⟨(a::b::d::e::j::f::g::l::u::v::o::q::r::y::x::E::z::F::A::B::G::D::I::J::L::zz),h⟩ =
 gd G (
 bm (aa s.P 48 e 1) h fun vK hM=>
 bm (ab s.P 3 vK hM) hM fun vS hU=>
 bp (yC s k wl 42 false true (.fn (.func 81) [] []) [vS,d] hU) fun vO hZ=>
 yO s k wl 42 Tryz.f42 b8 18 m0 ac bY ⟨(a::b::d::e::j::f::g::l::u::v::o::q::r::y::x::E::z::F::A::B::(.lit (.bool true))::vK::vS::d::vO::zz),hZ⟩) (
 yO s k wl 42 Tryz.f42 b8 18 m0 ac bY ⟨(a::b::d::e::j::f::g::l::u::v::o::q::r::y::x::E::z::F::A::B::(.lit (.bool false))::uu::uu::uu::uu::zz),h⟩) (
 yO s k wl 42 Tryz.f42 b8 15 m0 ac bY ⟨(a::b::d::e::j::f::g::l::u::v::o::q::r::y::x::E::z::F::A::B::G::uu::I::J::L::zz),h⟩):=kG
theorem OQ:yO s k wl 42 Tryz.f42 b8 24 m0 ac bY ⟨[a,b,d,e,j,f,g,l,u,v,o,q,r,y,x,E,z,F,A,B,G,D,I,J,L,M,T,O,U,Q,N,R,Y,t0,Z,X,W],h⟩ =
 bm (aM O (.lit (.bool true)) N) h fun vM hS=>
 gd vM (
 yO s k wl 42 Tryz.f42 b8 29 m0 ac bY ⟨[a,b,d,e,j,f,g,l,u,v,o,q,r,y,x,E,z,F,A,B,G,D,I,J,L,M,T,O,U,Q,N,vM,(.lit (.bool true)),uu,uu,uu,W],hS⟩) (
 bm (aa s.P 48 e 0) hS fun vH hN=>
 bm (ab s.P 3 vH hN) hN fun vL hP=>
 bm (au s.P .eql 3 vL (.lit (.int .i64 3))) hP fun vN hA=>
 yO s k wl 42 Tryz.f42 b8 29 m0 ac bY ⟨[a,b,d,e,j,f,g,l,u,v,o,q,r,y,x,E,z,F,A,B,G,D,I,J,L,M,T,O,U,Q,N,vM,(.lit (.bool false)),vH,vL,vN,W],hA⟩) (
 yO s k wl 42 Tryz.f42 b8 27 m0 ac bY ⟨[a,b,d,e,j,f,g,l,u,v,o,q,r,y,x,E,z,F,A,B,G,D,I,J,L,M,T,O,U,Q,N,vM,vM,uu,Z,X,W],hS⟩):=kG
theorem Pk:yO s k wl 42 Tryz.f42 b8 18 m0 ac bY ⟨(a::b::d::e::j::f::g::l::u::v::o::q::r::y::x::E::z::F::A::B::G::D::I::J::L::M::zz),h⟩ =
 gd z (
 yO s k wl 42 Tryz.f42 b8 19 m0 ac bY ⟨(a::b::d::e::j::f::g::l::u::v::o::q::r::y::x::E::(.lit (.bool true))::F::A::B::G::D::I::J::L::uu::zz),h⟩) (
 bm (aM G L (.lit (.bool false))) h fun vJ hQ=>
 yO s k wl 42 Tryz.f42 b8 19 m0 ac bY ⟨(a::b::d::e::j::f::g::l::u::v::o::q::r::y::x::E::(.lit (.bool false))::F::A::B::G::D::I::J::L::vJ::zz),hQ⟩) (
 yO s k wl 42 Tryz.f42 b8 19 m0 ac bY ⟨(a::b::d::e::j::f::g::l::u::v::o::q::r::y::x::E::z::F::A::B::G::D::I::J::L::uu::zz),h⟩):=kG
theorem OB:yO s k wl 42 Tryz.f42 b8 15 m0 ac bY ⟨(a::b::d::e::j::f::g::l::u::v::o::q::r::y::x::E::z::F::A::B::G::D::I::J::L::zz),h⟩ =
 gd G (
 bm (ab s.P 3 D h) h fun vG hO=>
 bp (yC s k wl 42 false true (.fn (.func 81) [] []) [vG,d] hO) fun vP hT=>
 yO s k wl 42 Tryz.f42 b8 18 m0 ac bY ⟨(a::b::d::e::j::f::g::l::u::v::o::q::r::y::x::E::z::F::A::B::(.lit (.bool true))::D::vG::d::vP::zz),hT⟩) (
 yO s k wl 42 Tryz.f42 b8 18 m0 ac bY ⟨(a::b::d::e::j::f::g::l::u::v::o::q::r::y::x::E::z::F::A::B::(.lit (.bool false))::D::uu::uu::uu::zz),h⟩) (
 yO s k wl 42 Tryz.f42 b8 16 m0 ac bY ⟨(a::b::d::e::j::f::g::l::u::v::o::q::r::y::x::E::z::F::A::B::G::D::uu::J::L::zz),h⟩):=kG
theorem Pb:yO s k wl 42 Tryz.f42 b8 29 m0 ac bY ⟨[a,b,d,e,j,f,g,l,u,v,o,q,r,y,x,E,z,F,A,B,G,D,I,J,L,M,T,O,U,Q,N,R,Y,t0,Z,X,W],h⟩ =
 bm (aM Y (.lit (.bool true)) X) h fun vV hV=>
 some (vV,hV):=kG
theorem OZ:yO s k wl 42 Tryz.f42 b8 16 m0 ac bY ⟨(a::b::d::e::j::f::g::l::u::v::o::q::r::y::x::E::z::F::A::B::G::D::I::J::L::zz),h⟩ =
 gd G (
 bp (yC s k wl 42 false true (.fn (.func 81) [] []) [I,d] h) fun vW hb=>
 yO s k wl 42 Tryz.f42 b8 18 m0 ac bY ⟨(a::b::d::e::j::f::g::l::u::v::o::q::r::y::x::E::z::F::A::B::(.lit (.bool true))::D::I::d::vW::zz),hb⟩) (
 yO s k wl 42 Tryz.f42 b8 18 m0 ac bY ⟨(a::b::d::e::j::f::g::l::u::v::o::q::r::y::x::E::z::F::A::B::(.lit (.bool false))::D::I::uu::uu::zz),h⟩) (
 yO s k wl 42 Tryz.f42 b8 17 m0 ac bY ⟨(a::b::d::e::j::f::g::l::u::v::o::q::r::y::x::E::z::F::A::B::G::D::I::uu::L::zz),h⟩):=kG
theorem O1:yO s k wl 42 Tryz.f42 b8 17 m0 ac bY ⟨(a::b::d::e::j::f::g::l::u::v::o::q::r::y::x::E::z::F::A::B::G::D::I::J::L::zz),h⟩ =
 gd G (
 bp (yC s k wl 42 false true (.fn (.func 81) [] []) [I,J] h) fun vY hc=>
 yO s k wl 42 Tryz.f42 b8 18 m0 ac bY ⟨(a::b::d::e::j::f::g::l::u::v::o::q::r::y::x::E::z::F::A::B::(.lit (.bool true))::D::I::J::vY::zz),hc⟩) (
 yO s k wl 42 Tryz.f42 b8 18 m0 ac bY ⟨(a::b::d::e::j::f::g::l::u::v::o::q::r::y::x::E::z::F::A::B::(.lit (.bool false))::D::I::J::uu::zz),h⟩) (
 yO s k wl 42 Tryz.f42 b8 18 m0 ac bY ⟨(a::b::d::e::j::f::g::l::u::v::o::q::r::y::x::E::z::F::A::B::G::D::I::J::uu::zz),h⟩):=kG
theorem rT (cx:Cx) (s:St):ap cx K bY .ret s=K .ret s:=by kernel_rfl
-- names: ada,Ot,Oq,Ou,OQ,Pk,OB,Pb,OZ,O1,rT
noncomputable def Fo:Code:=ak (al Tryz.f59) [1,1,0,1,0,0]
noncomputable def EX:List Fr:=[.block 0,.seq (ak (al Tryz.f59) [1,1,1])]
theorem Z3:ai (xX s 59 wl k false) Tryz.f59 [a] h =
 bp (aL a h) fun v1 h2=>
 bp (some (.own h2.length 0 0,h2++[.rows 0 [] 0 true])) fun v3 h4=>
 bp (some (.own h4.length 0 0,h4++[.rows 0 [] 0 true])) fun v5 h6=>
 bm (ab s.P 23 v1 h6) h6 fun v7 h8=>
 bp (yC s k wl 59 false true (.fn (.func 103) [] []) [v7] h8) fun v9 hB=>
 yI s k wl 59 Tryz.f59 Fo hB.length EX k ⟨[(V.kill hB.length a),(V.kill hB.length v1),(V.kill hB.length v3),(V.kill hB.length v5),(V.kill hB.length v7),(V.kill hB.length v9),(.lit (.int .i64 0)),.junk,.junk,.junk,.junk,.junk,(V.kill hB.length uu)],b7 hB.length hB⟩:=kB
theorem adc:evF Tryz.prog xM (k+1) wl 59 [a] h=ai (xX (xS k) 59 wl k false) Tryz.f59 [a] h:=by kernel_rfl
theorem abp (P:Program):am P Tryz.f59 .ret ⟨[a,b,d,e,j,f,g,l,u,v,o,q,r],h⟩=some (d,h):=by kernel_rfl
theorem OH:itX (xX s 59 wl k rd) Fo n0 K (n+1) ⟨[a,b,d,e,j,f,g,l,u,v,o,q,r],h⟩ =
 bm (au s.P .lss 3 g f) h fun vA hF=>
 cnd vA (
 bp (aA s.P wl 26 1 [(0,(.lit (.int .u64 0)))] hF) fun vC hG=>
 bp (gL s.P wl 26 26 e vC hG) fun vB hH=>
 bm (au s.P .add 3 g (.lit (.int .i64 1))) hH fun vD hI=>
 itX (xX s 59 wl k rd) Fo n0 K n ⟨[(V.kill n0 a),(V.kill n0 b),(V.kill n0 d),(V.kill n0 vB),(V.kill n0 j),(V.kill n0 f),(V.kill n0 vD),.junk,.junk,.junk,.junk,.junk,(V.kill n0 r)],b7 n0 hI⟩) (
 K (.exit 0) ⟨[(V.kill n0 a),(V.kill n0 b),(V.kill n0 d),(V.kill n0 e),(V.kill n0 j),(V.kill n0 f),.junk,.junk,.junk,.junk,.junk,.junk,(V.kill n0 r)],b7 n0 hF⟩):=kI
theorem Js:ap (xX s 59 wl k false) (am s.P Tryz.f59) EX (.exit 0) ⟨[a,b,d,e,j,f,g,l,u,v,o,q,r],h⟩ =
 some (e,h):=kR
theorem nk (cx:Cx) (s:St):ap cx K EX .ret s=K .ret s:=by kernel_rfl
-- names: Z3,abp,OH,Js,nk
theorem adG:ai (xX s 60 wl k false) Tryz.f60 [a] h =
 bp (aw s.P 65 h) fun v1 h2=>
 bp (yC s k wl 60 false true (.fn (.func 104) [] []) [(.lit (.int .i64 1)),a,(.lit (.int .u64 0))] h2) fun v3 h4=>
 bm (a8 s.P 65 [(2,v3)]) h4 fun v5 h6=>
 bs (ah s.P wl 65 v1 v5 h6) fun h7=>
 dK [ab s.P 65 v1 h7] h7:=kB
theorem aey:evF Tryz.prog xM (k+1) wl 60 [a] h=ai (xX (xS k) 60 wl k false) Tryz.f60 [a] h:=by kernel_rfl
-- names: adG,
theorem adg:ai (xX s 64 wl k false) Tryz.f64 [a,b] h =
 bp (aL a h) fun v1 h2=>
 bm (ab s.P 23 v1 h2) h2 fun v3 h4=>
 bp (yC s k wl 64 false true (.fn (.func 105) [] []) [v3,b] h4) fun v5 h6=>
 bm (vUn .not v5) h6 fun v7 h8=>
 cnd v7 (
 some ((.lit (.int .i64 (-1))),h8)) (
 bp (yC s k wl 64 false true (.fn (.func 27) [] []) [b,(.lit (.int .i64 5))] h8) fun v9 hB=>
 bp (yC s k wl 64 false true (.fn (.func 27) [] []) [b,(.lit (.int .i64 4))] hB) fun vA hF=>
 bp (yC s k wl 64 false true (.fn (.func 106) [] []) [v9,vA] hF) fun vC hG=>
 some (vC,hG)):=kB
theorem adU:evF Tryz.prog xM (k+1) wl 64 [a,b] h=ai (xX (xS k) 64 wl k false) Tryz.f64 [a,b] h:=by kernel_rfl
-- names: adg,
noncomputable def kj:Code:=ak (al Tryz.f65) [1,0,0]
noncomputable def ie:List Fr:=[.seq (ak (al Tryz.f65) [1,0,1]),.seq (ak (al Tryz.f65) [1,1])]
noncomputable def Ez:Code:=ak (al Tryz.f65) [1,1,1,1,0,0]
noncomputable def Ar:List Fr:=[.seq (ak (al Tryz.f65) [1,1,1,1,0,1]),.seq (ak (al Tryz.f65) [1,1,1,1,1])]
noncomputable def Fa:Code:=ak (al Tryz.f65) [1,1,1,1,1,1,0,1,0,0]
noncomputable def ER:List Fr:=[.block 0,.seq (ak (al Tryz.f65) [1,1,1,1,1,1,1])]
theorem abm:ai (xX s 65 wl k false) Tryz.f65 [a,b,d] h =
 bp (aL a h) fun v1 h2=>
 bp (some (.own h2.length 0 0,h2++[.rows 0 [] 0 true])) fun v3 h4=>
 bm (ab s.P 23 v1 h4) h4 fun v5 h6=>
 bp (yC s k wl 65 false true (.fn (.func 50) [] []) [v5] h6) fun v7 h8=>
 bm (vUn .not v7) h8 fun v9 hB=>
 gd v9 (
 yO s k wl 65 Tryz.f65 kj 9 h4.length ([],[]) ie ⟨(a::b::d::v1::uu::uu::v3::(.lit (.bool false))::uu::uu::uu::uu::uu::v5::v7::v9::(.lit (.bool true))::uu::uu::uu::uu::uu::uu::uu::uu::uu::uu::uu::uu::uu::uu::uu::uu::uu::uu::uu::uu::uu::uu::uu::uu::uu::uu::uu::uu::uu::uu::uu::uu::uu::uu::uu::uu::uu::uu::uu::uu::uu::uu::uu::uu::uu::uu::uu::uu::uu::uu::uu::uu::uu::uu::uu::[]),hB⟩) (
 bp (a9 s.P 26 b hB) fun vA hF=>
 bm (ab s.P 23 v1 hF) hF fun vC hG=>
 bp (yC s k wl 65 false true (.fn (.func 103) [] []) [vC] hG) fun vB hH=>
 bm (au s.P .neq 3 vA vB) hH fun vD hI=>
 yO s k wl 65 Tryz.f65 kj 9 h4.length ([],[]) ie ⟨(a::b::d::v1::uu::uu::v3::(.lit (.bool false))::uu::uu::uu::uu::uu::v5::v7::v9::(.lit (.bool false))::b::vA::vC::vB::vD::uu::uu::uu::uu::uu::uu::uu::uu::uu::uu::uu::uu::uu::uu::uu::uu::uu::uu::uu::uu::uu::uu::uu::uu::uu::uu::uu::uu::uu::uu::uu::uu::uu::uu::uu::uu::uu::uu::uu::uu::uu::uu::uu::uu::uu::uu::uu::uu::uu::uu::[]),hI⟩) (
 yO s k wl 65 Tryz.f65 kj 5 h4.length ([],[]) ie ⟨(a::b::d::v1::uu::uu::v3::(.lit (.bool false))::uu::uu::uu::uu::uu::v5::v7::v9::v9::uu::uu::uu::uu::uu::uu::uu::uu::uu::uu::uu::uu::uu::uu::uu::uu::uu::uu::uu::uu::uu::uu::uu::uu::uu::uu::uu::uu::uu::uu::uu::uu::uu::uu::uu::uu::uu::uu::uu::uu::uu::uu::uu::uu::uu::uu::uu::uu::uu::uu::uu::uu::uu::uu::uu::[]),hB⟩):=kB
theorem adq:evF Tryz.prog xM (k+1) wl 65 [a,b,d] h=ai (xX (xS k) 65 wl k false) Tryz.f65 [a,b,d] h:=by kernel_rfl
theorem Zb (P:Program):am P Tryz.f65 .ret ⟨(a::b::d::e::j::f::g::l::u::v::o::q::r::y::x::E::z::F::A::B::G::D::I::J::L::M::T::O::U::Q::N::R::Y::t0::Z::X::W::t5::t6::t7::t8::t9::ta::tb::tc::td::te::tf::t2::tg::t3::t4::t1::tk::ti::th::tl::tm::tn::tp::tq::tr::ts::tt::tu::tv::tw::tx::ty::tz::tA::tj::[]),h⟩=some (.tup [g,l],h):=by kernel_rfl
theorem HX:yO s k wl 65 Tryz.f65 kj 9 m0 ac ie ⟨(a::b::d::e::j::f::g::l::u::v::o::q::r::y::x::E::z::F::A::B::G::D::I::J::L::M::zz),h⟩ =
 bm (aM z (.lit (.bool true)) D) h fun vE hJ=>
 gd vE (
 yO s k wl 65 Tryz.f65 kj 13 m0 ac ie ⟨(a::b::d::e::j::f::g::l::u::v::o::q::r::y::x::E::z::F::A::B::G::D::vE::(.lit (.bool true))::uu::uu::zz),hJ⟩) (
 bm (au s.P .lss 3 d (.lit (.int .i64 0))) hJ fun vI hK=>
 yO s k wl 65 Tryz.f65 kj 13 m0 ac ie ⟨(a::b::d::e::j::f::g::l::u::v::o::q::r::y::x::E::z::F::A::B::G::D::vE::(.lit (.bool false))::d::vI::zz),hK⟩) (
 yO s k wl 65 Tryz.f65 kj 12 m0 ac ie ⟨(a::b::d::e::j::f::g::l::u::v::o::q::r::y::x::E::z::F::A::B::G::D::vE::vE::uu::M::zz),hJ⟩):=kG
theorem Jc:yO s k wl 65 Tryz.f65 kj 13 m0 ac ie ⟨(a::b::d::e::j::f::g::l::u::v::o::q::r::y::x::E::z::F::A::B::G::D::I::J::L::M::T::O::U::Q::N::R::zz),h⟩ =
 bm (aM J (.lit (.bool true)) M) h fun vF hL=>
 gd vF (
 yO s k wl 65 Tryz.f65 kj 19 m0 ac ie ⟨(a::b::d::e::j::f::g::l::u::v::o::q::r::y::x::E::z::F::A::B::G::D::I::J::L::M::vF::(.lit (.bool true))::uu::uu::uu::uu::zz),hL⟩) (
 bm (aa s.P 23 e 0) hL fun vQ hR=>
 bm (ab s.P 3 vQ hR) hR fun vR hX=>
 bm (au s.P .geq 3 d vR) hX fun vX hY=>
 yO s k wl 65 Tryz.f65 kj 19 m0 ac ie ⟨(a::b::d::e::j::f::g::l::u::v::o::q::r::y::x::E::z::F::A::B::G::D::I::J::L::M::vF::(.lit (.bool false))::d::vQ::vR::vX::zz),hY⟩) (
 yO s k wl 65 Tryz.f65 kj 16 m0 ac ie ⟨(a::b::d::e::j::f::g::l::u::v::o::q::r::y::x::E::z::F::A::B::G::D::I::J::L::M::vF::vF::uu::Q::N::R::zz),hL⟩):=kG
theorem ID:yO s k wl 65 Tryz.f65 kj 19 m0 ac ie ⟨(a::b::d::e::j::f::g::l::u::v::o::q::r::y::x::E::z::F::A::B::G::D::I::J::L::M::T::O::U::Q::N::R::Y::t0::Z::X::W::t5::t6::t7::t8::t9::ta::tb::tc::td::te::tf::t2::tg::t3::t4::t1::zz),h⟩ =
 bm (aM O (.lit (.bool true)) R) h fun vK hM=>
 cnd vK (
 bp (some (.own hM.length 0 0,hM++[.rows 0 [] 0 true])) fun vS hU=>
 some (.tup [vS,(.lit (.bool false))],hU)) (
 bm (ab s.P 23 e hM) hM fun vO hZ=>
 bp (yC s k wl 65 true true (.fn (.func 107) [] []) [vO,d] hZ) fun vM hS=>
 bp (yC s k wl 65 true true (.fn (.func 27) [] []) [b,vM] hS) fun vH hN=>
 stO hM.length e (
 bm (ab s.P 23 e hN) hN fun vL hP=>
 bp (yC s k wl 65 false true (.fn (.func 108) [] []) [vL,d] hP) fun vN hA=>
 bp (yC s k wl 65 false true (.fn (.func 27) [] []) [b,vN] hA) fun vJ hQ=>
 bp (yC s k wl 65 false true (.fn (.func 106) [] []) [vJ,vH] hQ) fun vG hO=>
 bm (au s.P .lss 3 vG (.lit (.int .i64 0))) hO fun vP hT=>
 gd vP (
 yO s k wl 65 Tryz.f65 Ez 7 hO.length ([],[]) Ar ⟨(a::b::d::e::j::f::g::l::vH::vJ::vG::q::r::y::x::E::z::F::A::B::G::D::I::J::L::M::T::O::U::Q::N::R::vK::b::vO::d::vM::vH::b::vL::d::vN::vJ::vJ::vH::vG::vG::vP::(.lit (.bool true))::uu::uu::uu::uu::zz),hT⟩) (
 bm (aa s.P 23 e 1) hT fun vV hV=>
 bm (ab s.P 3 vV hV) hV fun vW hb=>
 bm (au s.P .gtr 3 vG vW) hb fun vY hc=>
 yO s k wl 65 Tryz.f65 Ez 7 hO.length ([],[]) Ar ⟨(a::b::d::e::j::f::g::l::vH::vJ::vG::q::r::y::x::E::z::F::A::B::G::D::I::J::L::M::T::O::U::Q::N::R::vK::b::vO::d::vM::vH::b::vL::d::vN::vJ::vJ::vH::vG::vG::vP::(.lit (.bool false))::vG::vV::vW::vY::zz),hc⟩) (
 yO s k wl 65 Tryz.f65 Ez 4 hO.length ([],[]) Ar ⟨(a::b::d::e::j::f::g::l::vH::vJ::vG::q::r::y::x::E::z::F::A::B::G::D::I::J::L::M::T::O::U::Q::N::R::vK::b::vO::d::vM::vH::b::vL::d::vN::vJ::vJ::vH::vG::vG::vP::vP::uu::t3::t4::t1::zz),hT⟩))):=kG
theorem HB:yO s k wl 65 Tryz.f65 Ez 7 m0 ac Ar ⟨(a::b::d::e::j::f::g::l::u::v::o::q::r::y::x::E::z::F::A::B::G::D::I::J::L::M::T::O::U::Q::N::R::Y::t0::Z::X::W::t5::t6::t7::t8::t9::ta::tb::tc::td::te::tf::t2::tg::t3::t4::t1::tk::ti::th::tl::tm::tn::tp::tq::tr::ts::tt::tu::tv::tw::tx::ty::tz::tA::tj::[]),h⟩ =
 bm (aM t2 (.lit (.bool true)) t1) h fun vZ hW=>
 cnd vZ (
 bp (some (.own hW.length 0 0,hW++[.rows 0 [] 0 true])) fun vy h60=>
 some (.tup [vy,(.lit (.bool false))],h60)) (
 bp (some (.own hW.length 0 0,hW++[.rows 0 [] 0 true])) fun vz hD=>
 yI s k wl 65 Tryz.f65 Fa hD.length ER k ⟨((V.kill hD.length a)::(V.kill hD.length b)::(V.kill hD.length d)::(V.kill hD.length e)::(V.kill hD.length j)::(V.kill hD.length f)::(V.kill hD.length g)::(V.kill hD.length l)::(V.kill hD.length u)::(V.kill hD.length v)::(V.kill hD.length o)::(V.kill hD.length vz)::(V.kill hD.length r)::(V.kill hD.length y)::(V.kill hD.length x)::(V.kill hD.length E)::(V.kill hD.length z)::(V.kill hD.length F)::(V.kill hD.length A)::(V.kill hD.length B)::(V.kill hD.length G)::(V.kill hD.length D)::(V.kill hD.length I)::(V.kill hD.length J)::(V.kill hD.length L)::(V.kill hD.length M)::(V.kill hD.length T)::(V.kill hD.length O)::(V.kill hD.length U)::(V.kill hD.length Q)::(V.kill hD.length N)::(V.kill hD.length R)::(V.kill hD.length Y)::(V.kill hD.length t0)::(V.kill hD.length Z)::(V.kill hD.length X)::(V.kill hD.length W)::(V.kill hD.length t5)::(V.kill hD.length t6)::(V.kill hD.length t7)::(V.kill hD.length t8)::(V.kill hD.length t9)::(V.kill hD.length ta)::(V.kill hD.length tb)::(V.kill hD.length tc)::(V.kill hD.length td)::(V.kill hD.length te)::(V.kill hD.length tf)::(V.kill hD.length t2)::(V.kill hD.length tg)::(V.kill hD.length t3)::(V.kill hD.length t4)::(V.kill hD.length t1)::(V.kill hD.length vZ)::(V.kill hD.length o)::(.lit (.int .i64 0))::.junk::.junk::.junk::.junk::.junk::.junk::.junk::.junk::.junk::.junk::.junk::.junk::.junk::.junk::.junk::(V.kill hD.length tj)::[]),b7 hD.length hD⟩):=kG
theorem Og:itX (xX s 65 wl k rd) Fa n0 K (n+1) ⟨(a::b::d::e::j::f::g::l::u::v::o::q::r::y::x::E::z::F::A::B::G::D::I::J::L::M::T::O::U::Q::N::R::Y::t0::Z::X::W::t5::t6::t7::t8::t9::ta::tb::tc::td::te::tf::t2::tg::t3::t4::t1::tk::ti::th::tl::tm::tn::tp::tq::tr::ts::tt::tu::tv::tw::tx::ty::tz::tA::tj::[]),h⟩ =
 bm (au s.P .lss 3 th ti) h fun v63 hh=>
 cnd v63 (
 bm (ab s.P 23 e hh) hh fun v65 h66=>
 bm (fi s.P 3 46 th) h66 fun v67 h68=>
 bm (au s.P .add 46 u v67) h68 fun v69 h70=>
 bp (bZ (xX s 65 wl k rd) false true (.fn (.func 109) [] []) [v65,d,v69] h70) fun v71 h72=>
 bp (bZ (xX s 65 wl k rd) false true (.fn (.func 27) [] []) [b,v71] h72) fun v73 hf=>
 bp (aA s.P wl 25 1 [(0,v73)] hf) fun va hd=>
 bp (gL s.P wl 25 25 q va hd) fun vb hg=>
 bm (au s.P .add 3 th (.lit (.int .i64 1))) hg fun vT hi=>
 itX (xX s 65 wl k rd) Fa n0 K n ⟨((V.kill n0 a)::(V.kill n0 b)::(V.kill n0 d)::(V.kill n0 e)::(V.kill n0 j)::(V.kill n0 f)::(V.kill n0 g)::(V.kill n0 l)::(V.kill n0 u)::(V.kill n0 v)::(V.kill n0 o)::(V.kill n0 vb)::(V.kill n0 th)::(V.kill n0 y)::(V.kill n0 x)::(V.kill n0 E)::(V.kill n0 z)::(V.kill n0 F)::(V.kill n0 A)::(V.kill n0 B)::(V.kill n0 G)::(V.kill n0 D)::(V.kill n0 I)::(V.kill n0 J)::(V.kill n0 L)::(V.kill n0 M)::(V.kill n0 T)::(V.kill n0 O)::(V.kill n0 U)::(V.kill n0 Q)::(V.kill n0 N)::(V.kill n0 R)::(V.kill n0 Y)::(V.kill n0 t0)::(V.kill n0 Z)::(V.kill n0 X)::(V.kill n0 W)::(V.kill n0 t5)::(V.kill n0 t6)::(V.kill n0 t7)::(V.kill n0 t8)::(V.kill n0 t9)::(V.kill n0 ta)::(V.kill n0 tb)::(V.kill n0 tc)::(V.kill n0 td)::(V.kill n0 te)::(V.kill n0 tf)::(V.kill n0 t2)::(V.kill n0 tg)::(V.kill n0 t3)::(V.kill n0 t4)::(V.kill n0 t1)::(V.kill n0 tk)::(V.kill n0 ti)::(V.kill n0 vT)::.junk::.junk::.junk::.junk::.junk::.junk::.junk::.junk::.junk::.junk::.junk::.junk::.junk::.junk::.junk::(V.kill n0 tj)::[]),b7 n0 hi⟩) (
 K (.exit 0) ⟨((V.kill n0 a)::(V.kill n0 b)::(V.kill n0 d)::(V.kill n0 e)::(V.kill n0 j)::(V.kill n0 f)::(V.kill n0 g)::(V.kill n0 l)::(V.kill n0 u)::(V.kill n0 v)::(V.kill n0 o)::(V.kill n0 q)::(V.kill n0 r)::(V.kill n0 y)::(V.kill n0 x)::(V.kill n0 E)::(V.kill n0 z)::(V.kill n0 F)::(V.kill n0 A)::(V.kill n0 B)::(V.kill n0 G)::(V.kill n0 D)::(V.kill n0 I)::(V.kill n0 J)::(V.kill n0 L)::(V.kill n0 M)::(V.kill n0 T)::(V.kill n0 O)::(V.kill n0 U)::(V.kill n0 Q)::(V.kill n0 N)::(V.kill n0 R)::(V.kill n0 Y)::(V.kill n0 t0)::(V.kill n0 Z)::(V.kill n0 X)::(V.kill n0 W)::(V.kill n0 t5)::(V.kill n0 t6)::(V.kill n0 t7)::(V.kill n0 t8)::(V.kill n0 t9)::(V.kill n0 ta)::(V.kill n0 tb)::(V.kill n0 tc)::(V.kill n0 td)::(V.kill n0 te)::(V.kill n0 tf)::(V.kill n0 t2)::(V.kill n0 tg)::(V.kill n0 t3)::(V.kill n0 t4)::(V.kill n0 t1)::(V.kill n0 tk)::(V.kill n0 ti)::.junk::.junk::.junk::.junk::.junk::.junk::.junk::.junk::.junk::.junk::.junk::.junk::.junk::.junk::.junk::.junk::(V.kill n0 tj)::[]),b7 n0 hh⟩):=kI
theorem Ir:ap (xX s 65 wl k false) (am s.P Tryz.f65) ER (.exit 0) ⟨(a::b::d::e::j::f::g::l::u::v::o::q::r::y::x::E::z::F::A::B::G::D::I::J::L::M::T::O::U::Q::N::R::Y::t0::Z::X::W::t5::t6::t7::t8::t9::ta::tb::tc::td::te::tf::t2::tg::t3::t4::t1::tk::ti::th::tl::tm::tn::tp::tq::tr::ts::tt::tu::tv::tw::tx::ty::tz::tA::tj::[]),h⟩ =
 some (.tup [q,(.lit (.bool true))],h):=kR
theorem nm (cx:Cx) (s:St):ap cx K ie .ret s=K .ret s:=by kernel_rfl
theorem ny (cx:Cx) (s:St):ap cx K Ar .ret s=K .ret s:=by kernel_rfl
theorem nH (cx:Cx) (s:St):ap cx K ER .ret s=K .ret s:=by kernel_rfl
-- names: abm,Zb,HX,Jc,ID,HB,Og,Ir,nm,ny,nH
noncomputable def E9:Code:=ak (al Tryz.f81) [1,0]
noncomputable def A7:List Fr:=[.seq (ak (al Tryz.f81) [1,1])]
theorem adu:ai (xX s 81 wl k false) Tryz.f81 [a,b] h =
 bm (au s.P .geq 3 a (.lit (.int .i64 0))) h fun v1 h2=>
 gd v1 (
 bm (au s.P .lss 3 a b) h2 fun v3 h4=>
 yO s k wl 81 Tryz.f81 E9 6 h.length ([],[]) A7 ⟨[a,b,uu,uu,(.lit (.bool false)),a,v1,(.lit (.bool true)),a,b,v3,uu],h4⟩) (
 yO s k wl 81 Tryz.f81 E9 6 h.length ([],[]) A7 ⟨[a,b,uu,uu,(.lit (.bool false)),a,v1,(.lit (.bool false)),uu,uu,uu,uu],h2⟩) (
 yO s k wl 81 Tryz.f81 E9 4 h.length ([],[]) A7 ⟨[a,b,uu,uu,(.lit (.bool false)),a,v1,v1,uu,uu,uu,uu],h2⟩):=kB
theorem ad1:evF Tryz.prog xM (k+1) wl 81 [a,b] h=ai (xX (xS k) 81 wl k false) Tryz.f81 [a,b] h:=by kernel_rfl
theorem Ob:yO s k wl 81 Tryz.f81 E9 6 m0 ac A7 ⟨[a,b,d,e,j,f,g,l,u,v,o,q],h⟩ =
 bm (aM l o (.lit (.bool false))) h fun v5 h6=>
 some (v5,h6):=kG
theorem ut (cx:Cx) (s:St):ap cx K A7 .ret s=K .ret s:=by kernel_rfl
-- names: adu,Ob,ut
end
end Go.Ab
set_option maxRecDepth 100000
set_option linter.unusedVariables false
namespace Go.Ab
open Go.Proofs
section
variable (s:Sys) (k wl:Nat) (m0:Nat) (ac:List Nat×List Nat) (d a b f u v e x j g I y z A L M B D E o F G q Q N R O J t1 U t2 t3 t4 t5 t6 t7 t8 t9 ta W T tb tc td te tf tg th ti tj tk X Y Z tx ty tz tl tm tn tG tH tI tJ tK tL tM tN tO tA tB tC tD tE tF tp tq tr ts tt tu tv tw t0:V) (h:Hp) (K:Out→St→Option (V×Hp)) (rd:Bool) (n n0:Nat) (zz:List V)
noncomputable def nV:Code:=ak (al Tryz.f23) [1,0,0]
noncomputable def mB:List Fr:=[.seq (ak (al Tryz.f23) [1,0,1]),.seq (ak (al Tryz.f23) [1,1])]
noncomputable def EC:Code:=ak (al Tryz.f23) [1,1,1,1,0,1,0,0]
noncomputable def E7:List Fr:=[.block 0,.seq (ak (al Tryz.f23) [1,1,1,1,1])]
noncomputable def oe:Code:=ak (al Tryz.f23) [1,1,1,1,1,0,1,0,0]
noncomputable def uA:List Fr:=[.block 2,.seq (ak (al Tryz.f23) [1,1,1,1,1,1])]
noncomputable def Eo:Code:=ak (al Tryz.f23) [1,1,1,1,1,0,1,0,0,1,1,0,0,1,0,1,0,0]
noncomputable def Ff:List Fr:=[.block 4,.seq (ak (al Tryz.f23) [1,1,1,1,1,0,1,0,0,1,1,0,0,1,1]),.block 3,.seq (ak (al Tryz.f23) [1,1,1,1,1,0,1,0,0,1,1,1])]
theorem TW:ai (xX s 23 wl k false) Tryz.f23 [d,a,b] h =
 bp (aL d h) fun v1 h2=>
 bp (aw s.P 30 h2) fun v3 h4=>
 bm (ab s.P 23 v1 h4) h4 fun v5 h6=>
 bp (yC s k wl 23 false true (.fn (.func 50) [] []) [v5] h6) fun v7 h8=>
 bm (vUn .not v7) h8 fun v9 hB=>
 gd v9 (
 yO s k wl 23 Tryz.f23 nV 7 h4.length ([],[]) mB ⟨(d::a::b::v1::uu::uu::v3::(.lit (.bool false))::uu::uu::uu::uu::uu::uu::uu::uu::v5::v7::v9::(.lit (.bool true))::uu::uu::uu::uu::uu::uu::uu::uu::uu::uu::uu::uu::uu::uu::uu::uu::uu::uu::uu::uu::uu::uu::uu::uu::uu::uu::uu::uu::uu::uu::uu::uu::uu::uu::uu::uu::uu::uu::uu::uu::uu::uu::uu::uu::uu::uu::uu::uu::uu::uu::uu::uu::uu::uu::uu::uu::uu::uu::uu::uu::uu::uu::uu::uu::[]),hB⟩) (
 bp (yC s k wl 23 false true (.fn (.func 56) [] []) [a] hB) fun vA hF=>
 bm (vUn .not vA) hF fun vC hG=>
 yO s k wl 23 Tryz.f23 nV 7 h4.length ([],[]) mB ⟨(d::a::b::v1::uu::uu::v3::(.lit (.bool false))::uu::uu::uu::uu::uu::uu::uu::uu::v5::v7::v9::(.lit (.bool false))::a::vA::vC::uu::uu::uu::uu::uu::uu::uu::uu::uu::uu::uu::uu::uu::uu::uu::uu::uu::uu::uu::uu::uu::uu::uu::uu::uu::uu::uu::uu::uu::uu::uu::uu::uu::uu::uu::uu::uu::uu::uu::uu::uu::uu::uu::uu::uu::uu::uu::uu::uu::uu::uu::uu::uu::uu::uu::uu::uu::uu::uu::uu::uu::[]),hG⟩) (
 yO s k wl 23 Tryz.f23 nV 5 h4.length ([],[]) mB ⟨(d::a::b::v1::uu::uu::v3::(.lit (.bool false))::uu::uu::uu::uu::uu::uu::uu::uu::v5::v7::v9::v9::uu::uu::uu::uu::uu::uu::uu::uu::uu::uu::uu::uu::uu::uu::uu::uu::uu::uu::uu::uu::uu::uu::uu::uu::uu::uu::uu::uu::uu::uu::uu::uu::uu::uu::uu::uu::uu::uu::uu::uu::uu::uu::uu::uu::uu::uu::uu::uu::uu::uu::uu::uu::uu::uu::uu::uu::uu::uu::uu::uu::uu::uu::uu::uu::[]),hB⟩):=kB
theorem U3:evF Tryz.prog xM (k+1) wl 23 [d,a,b] h=ai (xX (xS k) 23 wl k false) Tryz.f23 [d,a,b] h:=by kernel_rfl
theorem TU (P:Program):am P Tryz.f23 .ret ⟨(d::a::b::f::u::v::e::x::j::g::I::y::z::A::L::M::B::D::E::o::F::G::q::Q::N::R::O::J::t1::U::t2::t3::t4::t5::t6::t7::t8::t9::ta::W::T::tb::tc::td::te::tf::tg::th::ti::tj::tk::X::Y::Z::tx::ty::tz::tl::tm::tn::tG::tH::tI::tJ::tK::tL::tM::tN::tO::tA::tB::tC::tD::tE::tF::tp::tq::tr::ts::tt::tu::tv::tw::t0::[]),h⟩=dK [ab P 30 e h,some x] h:=by kernel_rfl
theorem ua:yO s k wl 23 Tryz.f23 nV 7 m0 ac mB ⟨(d::a::b::f::u::v::e::x::j::g::I::y::z::A::L::M::B::D::E::o::F::G::q::Q::N::R::O::J::zz),h⟩ =
 bm (aM o (.lit (.bool true)) q) h fun vB hH=>
 gd vB (
 yO s k wl 23 Tryz.f23 nV 12 m0 ac mB ⟨(d::a::b::f::u::v::e::x::j::g::I::y::z::A::L::M::B::D::E::o::F::G::q::vB::(.lit (.bool true))::uu::uu::uu::zz),hH⟩) (
 bp (a9 s.P 40 b hH) fun vD hI=>
 bm (au s.P .gtr 3 vD (.lit (.int .i64 3))) hI fun vE hJ=>
 yO s k wl 23 Tryz.f23 nV 12 m0 ac mB ⟨(d::a::b::f::u::v::e::x::j::g::I::y::z::A::L::M::B::D::E::o::F::G::q::vB::(.lit (.bool false))::b::vD::vE::zz),hJ⟩) (
 yO s k wl 23 Tryz.f23 nV 10 m0 ac mB ⟨(d::a::b::f::u::v::e::x::j::g::I::y::z::A::L::M::B::D::E::o::F::G::q::vB::vB::uu::O::J::zz),hH⟩):=kG
theorem ui:yO s k wl 23 Tryz.f23 nV 12 m0 ac mB ⟨(d::a::b::f::u::v::e::x::j::g::I::y::z::A::L::M::B::D::E::o::F::G::q::Q::N::R::O::J::t1::U::t2::t3::t4::t5::t6::t7::t8::t9::ta::W::T::tb::tc::td::te::tf::tg::th::ti::tj::tk::X::Y::Z::tx::ty::tz::tl::tm::tn::tG::tH::tI::tJ::tK::tL::tM::tN::tO::tA::tB::tC::tD::tE::tF::tp::tq::tr::ts::tt::tu::tv::tw::t0::[]),h⟩ =
 bm (aM N (.lit (.bool true)) J) h fun vI hK=>
 cnd vI (
 bm (a8 s.P 30 []) hK fun vF hL=>
 bs (ah s.P wl 30 e vF hL) fun hm=>
 dK [ab s.P 30 e hm,some (.lit (.bool false))] hm) (
 bp (yC s k wl 23 false true (.fn (.func 57) [] []) [a] hK) fun ve hj=>
 bp (aw s.P 30 hj) fun vf hn=>
 stO hj.length f (
 bm (ab s.P 23 f hn) hn fun vg h31=>
 bp (yC s k wl 23 true true (.fn (.func 58) [] []) [a] h31) fun vh ho=>
 stO hj.length f (
 bm (ab s.P 23 f ho) ho fun vi h35=>
 bp (yC s k wl 23 true true (.fn (.func 59) [] []) [vi] h35) fun vj h37=>
 bm (a8 s.P 30 [(0,vg),(1,vh),(2,vj)]) h37 fun vk h39=>
 bs (ah s.P wl 30 vf vk h39) fun hN=>
 bm (aa s.P 23 f 0) hN fun vL hP=>
 bm (ab s.P 3 vL hP) hP fun vN hA=>
 yI s k wl 23 Tryz.f23 EC hA.length E7 k ⟨((V.kill hA.length d)::(V.kill hA.length a)::(V.kill hA.length b)::(V.kill hA.length f)::(V.kill hA.length u)::(V.kill hA.length v)::(V.kill hA.length e)::(V.kill hA.length x)::(V.kill hA.length ve)::(V.kill hA.length vf)::(V.kill hA.length I)::(V.kill hA.length y)::(V.kill hA.length z)::(V.kill hA.length A)::(V.kill hA.length L)::(V.kill hA.length M)::(V.kill hA.length B)::(V.kill hA.length D)::(V.kill hA.length E)::(V.kill hA.length o)::(V.kill hA.length F)::(V.kill hA.length G)::(V.kill hA.length q)::(V.kill hA.length Q)::(V.kill hA.length N)::(V.kill hA.length R)::(V.kill hA.length O)::(V.kill hA.length J)::(V.kill hA.length vI)::(V.kill hA.length U)::(V.kill hA.length a)::(V.kill hA.length ve)::(V.kill hA.length vg)::(V.kill hA.length a)::(V.kill hA.length vh)::(V.kill hA.length vi)::(V.kill hA.length vj)::(V.kill hA.length vk)::(V.kill hA.length vL)::(V.kill hA.length vN)::(.lit (.int .i64 0))::.junk::.junk::.junk::.junk::.junk::.junk::.junk::.junk::.junk::.junk::(V.kill hA.length X)::(V.kill hA.length Y)::(V.kill hA.length Z)::(V.kill hA.length tx)::(V.kill hA.length ty)::(V.kill hA.length tz)::(V.kill hA.length tl)::(V.kill hA.length tm)::(V.kill hA.length tn)::(V.kill hA.length tG)::(V.kill hA.length tH)::(V.kill hA.length tI)::(V.kill hA.length tJ)::(V.kill hA.length tK)::(V.kill hA.length tL)::(V.kill hA.length tM)::(V.kill hA.length tN)::(V.kill hA.length tO)::(V.kill hA.length tA)::(V.kill hA.length tB)::(V.kill hA.length tC)::(V.kill hA.length tD)::(V.kill hA.length tE)::(V.kill hA.length tF)::(V.kill hA.length tp)::(V.kill hA.length tq)::(V.kill hA.length tr)::(V.kill hA.length ts)::(V.kill hA.length tt)::(V.kill hA.length tu)::(V.kill hA.length tv)::(V.kill hA.length tw)::(V.kill hA.length t0)::[]),b7 hA.length hA⟩))):=kG
theorem OI:itX (xX s 23 wl k rd) EC n0 K (n+1) ⟨(d::a::b::f::u::v::e::x::j::g::I::y::z::A::L::M::B::D::E::o::F::G::q::Q::N::R::O::J::t1::U::t2::t3::t4::t5::t6::t7::t8::t9::ta::W::T::tb::tc::td::te::tf::tg::th::ti::tj::tk::X::Y::Z::tx::ty::tz::tl::tm::tn::tG::tH::tI::tJ::tK::tL::tM::tN::tO::tA::tB::tC::tD::tE::tF::tp::tq::tr::ts::tt::tu::tv::tw::t0::[]),h⟩ =
 bm (au s.P .lss 3 T W) h fun vJ hQ=>
 cnd vJ (
 bm (aa s.P 30 g 3) hQ fun vG hO=>
 stO hQ.length vG (
 bm (ab s.P 27 vG hO) hO fun vP hT=>
 bp (bZ (xX s 23 wl k rd) true true (.fn (.func 60) [] []) [T] hT) fun vV hV=>
 bp (cQ s.P wl 27 1 [(0,vV)] hV) fun vW hb=>
 bp (gL s.P wl 27 27 vP vW hb) fun vY hc=>
 bm (aa s.P 30 g 3) hc fun vZ hW=>
 bs (ah s.P wl 27 vZ vY hW) fun h59=>
 bm (au s.P .add 3 T (.lit (.int .i64 1))) h59 fun v60 h61=>
 itX (xX s 23 wl k rd) EC n0 K n ⟨((V.kill n0 d)::(V.kill n0 a)::(V.kill n0 b)::(V.kill n0 f)::(V.kill n0 u)::(V.kill n0 v)::(V.kill n0 e)::(V.kill n0 x)::(V.kill n0 j)::(V.kill n0 g)::(V.kill n0 T)::(V.kill n0 y)::(V.kill n0 z)::(V.kill n0 A)::(V.kill n0 L)::(V.kill n0 M)::(V.kill n0 B)::(V.kill n0 D)::(V.kill n0 E)::(V.kill n0 o)::(V.kill n0 F)::(V.kill n0 G)::(V.kill n0 q)::(V.kill n0 Q)::(V.kill n0 N)::(V.kill n0 R)::(V.kill n0 O)::(V.kill n0 J)::(V.kill n0 t1)::(V.kill n0 U)::(V.kill n0 t2)::(V.kill n0 t3)::(V.kill n0 t4)::(V.kill n0 t5)::(V.kill n0 t6)::(V.kill n0 t7)::(V.kill n0 t8)::(V.kill n0 t9)::(V.kill n0 ta)::(V.kill n0 W)::(V.kill n0 v60)::.junk::.junk::.junk::.junk::.junk::.junk::.junk::.junk::.junk::.junk::(V.kill n0 X)::(V.kill n0 Y)::(V.kill n0 Z)::(V.kill n0 tx)::(V.kill n0 ty)::(V.kill n0 tz)::(V.kill n0 tl)::(V.kill n0 tm)::(V.kill n0 tn)::(V.kill n0 tG)::(V.kill n0 tH)::(V.kill n0 tI)::(V.kill n0 tJ)::(V.kill n0 tK)::(V.kill n0 tL)::(V.kill n0 tM)::(V.kill n0 tN)::(V.kill n0 tO)::(V.kill n0 tA)::(V.kill n0 tB)::(V.kill n0 tC)::(V.kill n0 tD)::(V.kill n0 tE)::(V.kill n0 tF)::(V.kill n0 tp)::(V.kill n0 tq)::(V.kill n0 tr)::(V.kill n0 ts)::(V.kill n0 tt)::(V.kill n0 tu)::(V.kill n0 tv)::(V.kill n0 tw)::(V.kill n0 t0)::[]),b7 n0 h61⟩)) (
 K (.exit 0) ⟨((V.kill n0 d)::(V.kill n0 a)::(V.kill n0 b)::(V.kill n0 f)::(V.kill n0 u)::(V.kill n0 v)::(V.kill n0 e)::(V.kill n0 x)::(V.kill n0 j)::(V.kill n0 g)::(V.kill n0 I)::(V.kill n0 y)::(V.kill n0 z)::(V.kill n0 A)::(V.kill n0 L)::(V.kill n0 M)::(V.kill n0 B)::(V.kill n0 D)::(V.kill n0 E)::(V.kill n0 o)::(V.kill n0 F)::(V.kill n0 G)::(V.kill n0 q)::(V.kill n0 Q)::(V.kill n0 N)::(V.kill n0 R)::(V.kill n0 O)::(V.kill n0 J)::(V.kill n0 t1)::(V.kill n0 U)::(V.kill n0 t2)::(V.kill n0 t3)::(V.kill n0 t4)::(V.kill n0 t5)::(V.kill n0 t6)::(V.kill n0 t7)::(V.kill n0 t8)::(V.kill n0 t9)::(V.kill n0 ta)::(V.kill n0 W)::.junk::.junk::.junk::.junk::.junk::.junk::.junk::.junk::.junk::.junk::.junk::(V.kill n0 X)::(V.kill n0 Y)::(V.kill n0 Z)::(V.kill n0 tx)::(V.kill n0 ty)::(V.kill n0 tz)::(V.kill n0 tl)::(V.kill n0 tm)::(V.kill n0 tn)::(V.kill n0 tG)::(V.kill n0 tH)::(V.kill n0 tI)::(V.kill n0 tJ)::(V.kill n0 tK)::(V.kill n0 tL)::(V.kill n0 tM)::(V.kill n0 tN)::(V.kill n0 tO)::(V.kill n0 tA)::(V.kill n0 tB)::(V.kill n0 tC)::(V.kill n0 tD)::(V.kill n0 tE)::(V.kill n0 tF)::(V.kill n0 tp)::(V.kill n0 tq)::(V.kill n0 tr)::(V.kill n0 ts)::(V.kill n0 tt)::(V.kill n0 tu)::(V.kill n0 tv)::(V.kill n0 tw)::(V.kill n0 t0)::[]),b7 n0 hQ⟩):=kI
theorem uK:ap (xX s 23 wl k false) (am s.P Tryz.f23) E7 (.exit 0) ⟨(d::a::b::f::u::v::e::x::j::g::I::y::z::A::L::M::B::D::E::o::F::G::q::Q::N::R::O::J::t1::U::t2::t3::t4::t5::t6::t7::t8::t9::ta::W::T::tb::tc::td::te::tf::tg::th::ti::tj::tk::X::Y::Z::tx::ty::tz::tl::tm::tn::tG::tH::tI::tJ::tK::tL::tM::tN::tO::tA::tB::tC::tD::tE::tF::tp::tq::tr::ts::tt::tu::tv::tw::t0::[]),h⟩ =
 bp (a9 s.P 40 b h) fun v62 hE=>
 yI s k wl 23 Tryz.f23 oe hE.length uA k ⟨((V.kill hE.length d)::(V.kill hE.length a)::(V.kill hE.length b)::(V.kill hE.length f)::(V.kill hE.length u)::(V.kill hE.length v)::(V.kill hE.length e)::(V.kill hE.length x)::(V.kill hE.length j)::(V.kill hE.length g)::(V.kill hE.length I)::(V.kill hE.length y)::(V.kill hE.length z)::(V.kill hE.length A)::(V.kill hE.length L)::(V.kill hE.length M)::(V.kill hE.length B)::(V.kill hE.length D)::(V.kill hE.length E)::(V.kill hE.length o)::(V.kill hE.length F)::(V.kill hE.length G)::(V.kill hE.length q)::(V.kill hE.length Q)::(V.kill hE.length N)::(V.kill hE.length R)::(V.kill hE.length O)::(V.kill hE.length J)::(V.kill hE.length t1)::(V.kill hE.length U)::(V.kill hE.length t2)::(V.kill hE.length t3)::(V.kill hE.length t4)::(V.kill hE.length t5)::(V.kill hE.length t6)::(V.kill hE.length t7)::(V.kill hE.length t8)::(V.kill hE.length t9)::(V.kill hE.length ta)::(V.kill hE.length W)::(V.kill hE.length T)::(V.kill hE.length tb)::(V.kill hE.length tc)::(V.kill hE.length td)::(V.kill hE.length te)::(V.kill hE.length tf)::(V.kill hE.length tg)::(V.kill hE.length th)::(V.kill hE.length ti)::(V.kill hE.length tj)::(V.kill hE.length tk)::(V.kill hE.length b)::(V.kill hE.length v62)::(.lit (.int .i64 0))::.junk::.junk::.junk::.junk::.junk::.junk::.junk::.junk::.junk::.junk::.junk::.junk::.junk::.junk::.junk::.junk::.junk::.junk::.junk::.junk::.junk::.junk::.junk::.junk::.junk::.junk::.junk::.junk::.junk::(V.kill hE.length t0)::[]),b7 hE.length hE⟩:=kR
theorem O3:itX (xX s 23 wl k rd) oe n0 K (n+1) ⟨(d::a::b::f::u::v::e::x::j::g::I::y::z::A::L::M::B::D::E::o::F::G::q::Q::N::R::O::J::t1::U::t2::t3::t4::t5::t6::t7::t8::t9::ta::W::T::tb::tc::td::te::tf::tg::th::ti::tj::tk::X::Y::Z::tx::ty::tz::tl::tm::tn::tG::tH::tI::tJ::tK::tL::tM::tN::tO::tA::tB::tC::tD::tE::tF::tp::tq::tr::ts::tt::tu::tv::tw::t0::[]),h⟩ =
 bm (au s.P .lss 3 Z Y) h fun vl hk=>
 cnd vl (
 bm (aj s.P 40 X Z hk) hk fun vm hp=>
 bm (ab s.P 53 vm hp) hp fun vc h69=>
 bp (a9 s.P 53 vc h69) fun v70 hC=>
 itX (xX s 23 wl k rd) Eo hC.length (ap (xX s 23 wl k rd) (eJ (xX s 23 wl k rd) oe n0 K n) Ff) k ⟨((V.kill hC.length d)::(V.kill hC.length a)::(V.kill hC.length b)::(V.kill hC.length f)::(V.kill hC.length u)::(V.kill hC.length v)::(V.kill hC.length e)::(V.kill hC.length x)::(V.kill hC.length j)::(V.kill hC.length g)::(V.kill hC.length I)::(V.kill hC.length y)::(V.kill hC.length vc)::(V.kill hC.length A)::(V.kill hC.length L)::(V.kill hC.length M)::(V.kill hC.length B)::(V.kill hC.length D)::(V.kill hC.length E)::(V.kill hC.length o)::(V.kill hC.length F)::(V.kill hC.length G)::(V.kill hC.length q)::(V.kill hC.length Q)::(V.kill hC.length N)::(V.kill hC.length R)::(V.kill hC.length O)::(V.kill hC.length J)::(V.kill hC.length t1)::(V.kill hC.length U)::(V.kill hC.length t2)::(V.kill hC.length t3)::(V.kill hC.length t4)::(V.kill hC.length t5)::(V.kill hC.length t6)::(V.kill hC.length t7)::(V.kill hC.length t8)::(V.kill hC.length t9)::(V.kill hC.length ta)::(V.kill hC.length W)::(V.kill hC.length T)::(V.kill hC.length tb)::(V.kill hC.length tc)::(V.kill hC.length td)::(V.kill hC.length te)::(V.kill hC.length tf)::(V.kill hC.length tg)::(V.kill hC.length th)::(V.kill hC.length ti)::(V.kill hC.length tj)::(V.kill hC.length tk)::(V.kill hC.length X)::(V.kill hC.length Y)::(V.kill hC.length Z)::(V.kill hC.length vl)::(V.kill hC.length vm)::(V.kill hC.length vc)::(V.kill hC.length vc)::(V.kill hC.length v70)::(.lit (.int .i64 0))::.junk::.junk::.junk::.junk::.junk::.junk::.junk::.junk::.junk::.junk::.junk::.junk::.junk::.junk::.junk::(V.kill hC.length tp)::(V.kill hC.length tq)::(V.kill hC.length tr)::(V.kill hC.length ts)::(V.kill hC.length tt)::(V.kill hC.length tu)::(V.kill hC.length tv)::(V.kill hC.length tw)::(V.kill hC.length t0)::[]),b7 hC.length hC⟩) (
 K (.exit 2) ⟨((V.kill n0 d)::(V.kill n0 a)::(V.kill n0 b)::(V.kill n0 f)::(V.kill n0 u)::(V.kill n0 v)::(V.kill n0 e)::(V.kill n0 x)::(V.kill n0 j)::(V.kill n0 g)::(V.kill n0 I)::(V.kill n0 y)::(V.kill n0 z)::(V.kill n0 A)::(V.kill n0 L)::(V.kill n0 M)::(V.kill n0 B)::(V.kill n0 D)::(V.kill n0 E)::(V.kill n0 o)::(V.kill n0 F)::(V.kill n0 G)::(V.kill n0 q)::(V.kill n0 Q)::(V.kill n0 N)::(V.kill n0 R)::(V.kill n0 O)::(V.kill n0 J)::(V.kill n0 t1)::(V.kill n0 U)::(V.kill n0 t2)::(V.kill n0 t3)::(V.kill n0 t4)::(V.kill n0 t5)::(V.kill n0 t6)::(V.kill n0 t7)::(V.kill n0 t8)::(V.kill n0 t9)::(V.kill n0 ta)::(V.kill n0 W)::(V.kill n0 T)::(V.kill n0 tb)::(V.kill n0 tc)::(V.kill n0 td)::(V.kill n0 te)::(V.kill n0 tf)::(V.kill n0 tg)::(V.kill n0 th)::(V.kill n0 ti)::(V.kill n0 tj)::(V.kill n0 tk)::(V.kill n0 X)::(V.kill n0 Y)::.junk::.junk::.junk::.junk::.junk::.junk::.junk::.junk::.junk::.junk::.junk::.junk::.junk::.junk::.junk::.junk::.junk::.junk::.junk::.junk::.junk::.junk::.junk::.junk::.junk::.junk::.junk::.junk::.junk::.junk::(V.kill n0 t0)::[]),b7 n0 hk⟩):=kI
theorem uE:ap (xX s 23 wl k false) (am s.P Tryz.f23) uA (.exit 2) ⟨(d::a::b::f::u::v::e::x::j::g::I::y::z::A::L::M::B::D::E::o::F::G::q::Q::N::R::O::J::t1::U::t2::t3::t4::t5::t6::t7::t8::t9::ta::W::T::tb::tc::td::te::tf::tg::th::ti::tj::tk::X::Y::Z::tx::ty::tz::tl::tm::tn::tG::tH::tI::tJ::tK::tL::tM::tN::tO::tA::tB::tC::tD::tE::tF::tp::tq::tr::ts::tt::tu::tv::tw::t0::[]),h⟩ =
 bm (ab s.P 30 g h) h fun v72 h73=>
 bs (ah s.P wl 30 e v72 h73) fun hf=>
 dK [ab s.P 30 e hf,some (.lit (.bool true))] hf:=kR
theorem NZ:itX (xX s 23 wl k rd) Eo n0 K (n+1) ⟨(d::a::b::f::u::v::e::x::j::g::I::y::z::A::L::M::B::D::E::o::F::G::q::Q::N::R::O::J::t1::U::t2::t3::t4::t5::t6::t7::t8::t9::ta::W::T::tb::tc::td::te::tf::tg::th::ti::tj::tk::X::Y::Z::tx::ty::tz::tl::tm::tn::tG::tH::tI::tJ::tK::tL::tM::tN::tO::tA::tB::tC::tD::tE::tF::tp::tq::tr::ts::tt::tu::tv::tw::t0::[]),h⟩ =
 bm (au s.P .lss 3 tn tm) h fun va hd=>
 cnd va (
 bm (aj s.P 53 tl tn hd) hd fun vb hg=>
 bm (ab s.P 3 vb hg) hg fun vT hi=>
 bp (bZ (xX s 23 wl k rd) false true (.fn (.func 61) [] []) [j,vT] hi) fun vU h82=>
 bm (au s.P .lss 3 vU (.lit (.int .i64 0))) h82 fun vn hq=>
 cnd vn (
 bm (a8 s.P 30 []) hq fun vo h86=>
 bs (ah s.P wl 30 e vo h86) fun h87=>
 K .ret ⟨(d::a::b::f::u::v::e::(.lit (.bool false))::j::g::I::y::z::A::vT::vU::B::D::E::o::F::G::q::Q::N::R::O::J::t1::U::t2::t3::t4::t5::t6::t7::t8::t9::ta::W::T::tb::tc::td::te::tf::tg::th::ti::tj::tk::X::Y::Z::tx::ty::tz::tl::tm::tn::va::vb::vT::j::vT::vU::vU::vn::vo::tA::tB::tC::tD::tE::tF::tp::tq::tr::ts::tt::tu::tv::tw::t0::[]),h87⟩) (
 bm (au s.P .add 3 vU (.lit (.int .i64 1))) hq fun v88 h89=>
 bp (bZ (xX s 23 wl k rd) false true (.fn (.func 62) [] []) [j,vU,v88] h89) fun v90 h91=>
 bm (au s.P .add 3 tn (.lit (.int .i64 1))) h91 fun v92 h93=>
 itX (xX s 23 wl k rd) Eo n0 K n ⟨((V.kill n0 d)::(V.kill n0 a)::(V.kill n0 b)::(V.kill n0 f)::(V.kill n0 u)::(V.kill n0 v)::(V.kill n0 e)::(V.kill n0 x)::(V.kill n0 v90)::(V.kill n0 g)::(V.kill n0 I)::(V.kill n0 y)::(V.kill n0 z)::(V.kill n0 A)::(V.kill n0 vT)::(V.kill n0 vU)::(V.kill n0 B)::(V.kill n0 D)::(V.kill n0 E)::(V.kill n0 o)::(V.kill n0 F)::(V.kill n0 G)::(V.kill n0 q)::(V.kill n0 Q)::(V.kill n0 N)::(V.kill n0 R)::(V.kill n0 O)::(V.kill n0 J)::(V.kill n0 t1)::(V.kill n0 U)::(V.kill n0 t2)::(V.kill n0 t3)::(V.kill n0 t4)::(V.kill n0 t5)::(V.kill n0 t6)::(V.kill n0 t7)::(V.kill n0 t8)::(V.kill n0 t9)::(V.kill n0 ta)::(V.kill n0 W)::(V.kill n0 T)::(V.kill n0 tb)::(V.kill n0 tc)::(V.kill n0 td)::(V.kill n0 te)::(V.kill n0 tf)::(V.kill n0 tg)::(V.kill n0 th)::(V.kill n0 ti)::(V.kill n0 tj)::(V.kill n0 tk)::(V.kill n0 X)::(V.kill n0 Y)::(V.kill n0 Z)::(V.kill n0 tx)::(V.kill n0 ty)::(V.kill n0 tz)::(V.kill n0 tl)::(V.kill n0 tm)::(V.kill n0 v92)::.junk::.junk::.junk::.junk::.junk::.junk::.junk::.junk::.junk::.junk::.junk::.junk::.junk::.junk::.junk::(V.kill n0 tp)::(V.kill n0 tq)::(V.kill n0 tr)::(V.kill n0 ts)::(V.kill n0 tt)::(V.kill n0 tu)::(V.kill n0 tv)::(V.kill n0 tw)::(V.kill n0 t0)::[]),b7 n0 h93⟩)) (
 K (.exit 4) ⟨((V.kill n0 d)::(V.kill n0 a)::(V.kill n0 b)::(V.kill n0 f)::(V.kill n0 u)::(V.kill n0 v)::(V.kill n0 e)::(V.kill n0 x)::(V.kill n0 j)::(V.kill n0 g)::(V.kill n0 I)::(V.kill n0 y)::(V.kill n0 z)::(V.kill n0 A)::(V.kill n0 L)::(V.kill n0 M)::(V.kill n0 B)::(V.kill n0 D)::(V.kill n0 E)::(V.kill n0 o)::(V.kill n0 F)::(V.kill n0 G)::(V.kill n0 q)::(V.kill n0 Q)::(V.kill n0 N)::(V.kill n0 R)::(V.kill n0 O)::(V.kill n0 J)::(V.kill n0 t1)::(V.kill n0 U)::(V.kill n0 t2)::(V.kill n0 t3)::(V.kill n0 t4)::(V.kill n0 t5)::(V.kill n0 t6)::(V.kill n0 t7)::(V.kill n0 t8)::(V.kill n0 t9)::(V.kill n0 ta)::(V.kill n0 W)::(V.kill n0 T)::(V.kill n0 tb)::(V.kill n0 tc)::(V.kill n0 td)::(V.kill n0 te)::(V.kill n0 tf)::(V.kill n0 tg)::(V.kill n0 th)::(V.kill n0 ti)::(V.kill n0 tj)::(V.kill n0 tk)::(V.kill n0 X)::(V.kill n0 Y)::(V.kill n0 Z)::(V.kill n0 tx)::(V.kill n0 ty)::(V.kill n0 tz)::(V.kill n0 tl)::(V.kill n0 tm)::.junk::.junk::.junk::.junk::.junk::.junk::.junk::.junk::.junk::.junk::.junk::.junk::.junk::.junk::.junk::.junk::(V.kill n0 tp)::(V.kill n0 tq)::(V.kill n0 tr)::(V.kill n0 ts)::(V.kill n0 tt)::(V.kill n0 tu)::(V.kill n0 tv)::(V.kill n0 tw)::(V.kill n0 t0)::[]),b7 n0 hd⟩):=kI
theorem uI:ap (xX s 23 wl k rd) (eJ (xX s 23 wl k rd) oe n0 K n) Ff (.exit 4) ⟨(d::a::b::f::u::v::e::x::j::g::I::y::z::A::L::M::B::D::E::o::F::G::q::Q::N::R::O::J::t1::U::t2::t3::t4::t5::t6::t7::t8::t9::ta::W::T::tb::tc::td::te::tf::tg::th::ti::tj::tk::X::Y::Z::tx::ty::tz::tl::tm::tn::tG::tH::tI::tJ::tK::tL::tM::tN::tO::tA::tB::tC::tD::tE::tF::tp::tq::tr::ts::tt::tu::tv::tw::t0::[]),h⟩ =
 bm (aa s.P 30 g 4) h fun vp hr=>
 stO h.length vp (
 bm (ab s.P 28 vp hr) hr fun v96 h97=>
 bp (bZ (xX s 23 wl k rd) true true (.fn (.func 63) [] []) [z] h97) fun v98 h99=>
 bp (cQ s.P wl 28 1 [(0,v98)] h99) fun vq hs=>
 bp (gL s.P wl 28 28 v96 vq hs) fun vr ht=>
 bm (aa s.P 30 g 4) ht fun vs hu=>
 bs (ah s.P wl 28 vs vr hu) fun hv=>
 bm (au s.P .add 3 Z (.lit (.int .i64 1))) hv fun vt hw=>
 itX (xX s 23 wl k rd) oe n0 K n ⟨((V.kill n0 d)::(V.kill n0 a)::(V.kill n0 b)::(V.kill n0 f)::(V.kill n0 u)::(V.kill n0 v)::(V.kill n0 e)::(V.kill n0 x)::(V.kill n0 j)::(V.kill n0 g)::(V.kill n0 I)::(V.kill n0 y)::(V.kill n0 z)::(V.kill n0 A)::(V.kill n0 L)::(V.kill n0 M)::(V.kill n0 B)::(V.kill n0 D)::(V.kill n0 E)::(V.kill n0 o)::(V.kill n0 F)::(V.kill n0 G)::(V.kill n0 q)::(V.kill n0 Q)::(V.kill n0 N)::(V.kill n0 R)::(V.kill n0 O)::(V.kill n0 J)::(V.kill n0 t1)::(V.kill n0 U)::(V.kill n0 t2)::(V.kill n0 t3)::(V.kill n0 t4)::(V.kill n0 t5)::(V.kill n0 t6)::(V.kill n0 t7)::(V.kill n0 t8)::(V.kill n0 t9)::(V.kill n0 ta)::(V.kill n0 W)::(V.kill n0 T)::(V.kill n0 tb)::(V.kill n0 tc)::(V.kill n0 td)::(V.kill n0 te)::(V.kill n0 tf)::(V.kill n0 tg)::(V.kill n0 th)::(V.kill n0 ti)::(V.kill n0 tj)::(V.kill n0 tk)::(V.kill n0 X)::(V.kill n0 Y)::(V.kill n0 vt)::.junk::.junk::.junk::.junk::.junk::.junk::.junk::.junk::.junk::.junk::.junk::.junk::.junk::.junk::.junk::.junk::.junk::.junk::.junk::.junk::.junk::.junk::.junk::.junk::.junk::.junk::.junk::.junk::.junk::(V.kill n0 t0)::[]),b7 n0 hw⟩):=kR
theorem gb (cx:Cx) (s:St):ap cx K mB .ret s=K .ret s:=by kernel_rfl
theorem f8 (cx:Cx) (s:St):ap cx K E7 .ret s=K .ret s:=by kernel_rfl
theorem gg (cx:Cx) (s:St):ap cx K uA .ret s=K .ret s:=by kernel_rfl
theorem gh (cx:Cx) (s:St):ap cx K Ff .ret s=K .ret s:=by kernel_rfl
-- names: TW,TU,ua,ui,OI,uK,O3,uE,NZ,uI,gb,f8,gg,gh
end
end Go.Ab
