import Derived.Test.YtblpbpnilkfjhaaGreatR6Seat
import Derived.Test.YtblpbpnilkfjhaaGreatAbLibC
set_option linter.unusedVariables false
set_option linter.unusedSimpArgs false
set_option maxRecDepth 100000
set_option linter.unusedVariables false
namespace Go.Ab
open Go.Proofs
section
variable (s:Sys) (k wl:Nat) (m0:Nat) (ac:List Nat×List Nat) (a b d e o p g l q j u r A y z B D F E I M R N J T O U Q L G:V) (h:Hp) (K:Out→St→Option (V×Hp)) (rd:Bool) (n n0:Nat) (zz:List V)
theorem aiZ:ak (xX s 27 wl k false) Tryz.f27 [a,b] h =
 bp (yC s k wl 27 false true (.fn (.func 66) [] []) [a,b] h) fun v1 h2=>
 bm (vUn .not v1) h2 fun v3 h4=>
 cnd v3 (
 some ((.lit (.int .u64 0)),h4)) (
 bm (ai s.P 26 a b h4) h4 fun v5 h6=>
 bm (ab s.P 46 v5 h6) h6 fun v7 h8=>
 some (v7,h8)):=kB
theorem akI:evF Tryz.prog xM (k+1) wl 27 [a,b] h=ak (xX (xS k) 27 wl k false) Tryz.f27 [a,b] h:=by kernel_rfl
-- names: aiZ,
theorem ajI:ak (xX s 32 wl k false) Tryz.f32 [a,b] h =
 bp (aP a h) fun v1 h2=>
 bp (aP b h2) fun v3 h4=>
 bm (ab s.P 23 v1 h4) h4 fun v5 h6=>
 bm (ab s.P 3 v3 h6) h6 fun v7 h8=>
 bp (yC s k wl 32 false true (.fn (.func 70) [] []) [v5,v7,(.fn (.func 71) [] [v1,v3])] h8) fun v9 hB=>
 some (v9,hB):=kB
theorem akF:evF Tryz.prog xM (k+1) wl 32 [a,b] h=ak (xX (xS k) 32 wl k false) Tryz.f32 [a,b] h:=by kernel_rfl
-- names: ajI,
noncomputable def iG:Code:=al (am Tryz.f50) [1,0]
noncomputable def ie:List Fr:=[.seq (al (am Tryz.f50) [1,1])]
theorem ajv:ak (xX s 50 wl k false) Tryz.f50 [a] h =
 bp (aP a h) fun v1 h2=>
 bm (aa s.P 23 v1 0) h2 fun v3 h4=>
 bm (ab s.P 3 v3 h4) h4 fun v5 h6=>
 bp (yC s k wl 50 false true (.fn (.func 93) [] []) [v5,(.lit (.int .i64 1)),(.lit (.int .i64 8))] h6) fun v7 h8=>
 gd v7 (
 bm (aa s.P 23 v1 1) h8 fun v9 hB=>
 bm (ab s.P 3 v9 hB) hB fun vA hE=>
 bp (yC s k wl 50 false true (.fn (.func 93) [] []) [vA,(.lit (.int .i64 1)),(.lit (.int .i64 16))] hE) fun vC hF=>
 yO s k wl 50 Tryz.f50 iG 7 h2.length ([],[]) ie ⟨[a,v1,(.lit (.bool false)),v3,v5,v7,(.lit (.bool true)),v9,vA,vC,uu,uu,uu,uu,uu,uu,uu,uu,uu,uu,uu,uu,uu,uu,uu,uu,uu,uu,uu,uu],hF⟩) (
 yO s k wl 50 Tryz.f50 iG 7 h2.length ([],[]) ie ⟨[a,v1,(.lit (.bool false)),v3,v5,v7,(.lit (.bool false)),uu,uu,uu,uu,uu,uu,uu,uu,uu,uu,uu,uu,uu,uu,uu,uu,uu,uu,uu,uu,uu,uu,uu],h8⟩) (
 yO s k wl 50 Tryz.f50 iG 5 h2.length ([],[]) ie ⟨[a,v1,(.lit (.bool false)),v3,v5,v7,v7,uu,uu,uu,uu,uu,uu,uu,uu,uu,uu,uu,uu,uu,uu,uu,uu,uu,uu,uu,uu,uu,uu,uu],h8⟩):=kB
theorem ajZ:evF Tryz.prog xM (k+1) wl 50 [a] h=ak (xX (xS k) 50 wl k false) Tryz.f50 [a] h:=by kernel_rfl
theorem Tm:yO s k wl 50 Tryz.f50 iG 7 m0 ac ie ⟨(a::b::d::e::o::p::g::l::q::j::u::r::A::y::z::B::D::F::E::zz),h⟩ =
 bm (aR g j (.lit (.bool false))) h fun vB hG=>
 gd vB (
 bm (aa s.P 23 b 1) hG fun vD hH=>
 bm (ab s.P 3 vD hH) hH fun vE hI=>
 bm (aa s.P 23 b 1) hI fun vF hJ=>
 bm (ab s.P 3 vF hJ) hJ fun vG hK=>
 bm (aw s.P .sub 3 vG (.lit (.int .i64 1))) hK fun vH hL=>
 bm (aw s.P .and 3 vE vH) hL fun vK hP=>
 bm (aw s.P .eql 3 vK (.lit (.int .i64 0))) hP fun vO hU=>
 yO s k wl 50 Tryz.f50 iG 16 m0 ac ie ⟨(a::b::d::e::o::p::g::l::q::j::vB::(.lit (.bool true))::vD::vE::vF::vG::vH::vK::vO::zz),hU⟩) (
 yO s k wl 50 Tryz.f50 iG 16 m0 ac ie ⟨(a::b::d::e::o::p::g::l::q::j::vB::(.lit (.bool false))::uu::uu::uu::uu::uu::uu::uu::zz),hG⟩) (
 yO s k wl 50 Tryz.f50 iG 10 m0 ac ie ⟨(a::b::d::e::o::p::g::l::q::j::vB::vB::uu::y::z::B::D::F::E::zz),hG⟩):=kG
theorem TF:yO s k wl 50 Tryz.f50 iG 16 m0 ac ie ⟨[a,b,d,e,o,p,g,l,q,j,u,r,A,y,z,B,D,F,E,I,M,R,N,J,T,O,U,Q,L,G],h⟩ =
 bm (aR r E (.lit (.bool false))) h fun vJ hM=>
 gd vJ (
 bm (aa s.P 23 b 2) hM fun vL hS=>
 bm (ab s.P 3 vL hS) hS fun vS hV=>
 bp (yC s k wl 50 false true (.fn (.func 93) [] []) [vS,(.lit (.int .i64 1)),(.lit (.int .i64 16))] hV) fun vI hN=>
 yO s k wl 50 Tryz.f50 iG 21 m0 ac ie ⟨[a,b,d,e,o,p,g,l,q,j,u,r,A,y,z,B,D,F,E,vJ,(.lit (.bool true)),vL,vS,vI,T,O,U,Q,L,G],hN⟩) (
 yO s k wl 50 Tryz.f50 iG 21 m0 ac ie ⟨[a,b,d,e,o,p,g,l,q,j,u,r,A,y,z,B,D,F,E,vJ,(.lit (.bool false)),uu,uu,uu,T,O,U,Q,L,G],hM⟩) (
 yO s k wl 50 Tryz.f50 iG 19 m0 ac ie ⟨[a,b,d,e,o,p,g,l,q,j,u,r,A,y,z,B,D,F,E,vJ,vJ,uu,N,J,T,O,U,Q,L,G],hM⟩):=kG
theorem SV:yO s k wl 50 Tryz.f50 iG 21 m0 ac ie ⟨[a,b,d,e,o,p,g,l,q,j,u,r,A,y,z,B,D,F,E,I,M,R,N,J,T,O,U,Q,L,G],h⟩ =
 bm (aR M J (.lit (.bool false))) h fun vM hO=>
 gd vM (
 bm (aa s.P 23 b 3) hO fun vN hQ=>
 bm (ab s.P 3 vN hQ) hQ fun vP hA=>
 bp (yC s k wl 50 false true (.fn (.func 93) [] []) [vP,(.lit (.int .i64 0)),(.lit (.int .i64 4))] hA) fun vT hR=>
 yO s k wl 50 Tryz.f50 iG 26 m0 ac ie ⟨[a,b,d,e,o,p,g,l,q,j,u,r,A,y,z,B,D,F,E,I,M,R,N,J,vM,(.lit (.bool true)),vN,vP,vT,G],hR⟩) (
 yO s k wl 50 Tryz.f50 iG 26 m0 ac ie ⟨[a,b,d,e,o,p,g,l,q,j,u,r,A,y,z,B,D,F,E,I,M,R,N,J,vM,(.lit (.bool false)),uu,uu,uu,G],hO⟩) (
 yO s k wl 50 Tryz.f50 iG 24 m0 ac ie ⟨[a,b,d,e,o,p,g,l,q,j,u,r,A,y,z,B,D,F,E,I,M,R,N,J,vM,vM,uu,Q,L,G],hO⟩):=kG
theorem S4:yO s k wl 50 Tryz.f50 iG 26 m0 ac ie ⟨[a,b,d,e,o,p,g,l,q,j,u,r,A,y,z,B,D,F,E,I,M,R,N,J,T,O,U,Q,L,G],h⟩ =
 bm (aR O L (.lit (.bool false))) h fun vQ hT=>
 some (vQ,hT):=kG
theorem Bv (cx:Cx) (s:St):au cx K ie .ret s=K .ret s:=by kernel_rfl
-- names: ajv,Tm,TF,SV,S4,Bv
noncomputable def H9:Code:=al (am Tryz.f66) [1,0]
noncomputable def E1:List Fr:=[.seq (al (am Tryz.f66) [1,1])]
theorem ajd:ak (xX s 66 wl k false) Tryz.f66 [a,b] h =
 bm (aw s.P .geq 3 b (.lit (.int .i64 0))) h fun v1 h2=>
 gd v1 (
 bp (a7 s.P 26 a h2) fun v3 h4=>
 bm (aw s.P .lss 3 b v3) h4 fun v5 h6=>
 yO s k wl 66 Tryz.f66 H9 7 h.length ([],[]) E1 ⟨[a,b,uu,uu,(.lit (.bool false)),b,v1,(.lit (.bool true)),b,a,v3,v5,uu],h6⟩) (
 yO s k wl 66 Tryz.f66 H9 7 h.length ([],[]) E1 ⟨[a,b,uu,uu,(.lit (.bool false)),b,v1,(.lit (.bool false)),uu,uu,uu,uu,uu],h2⟩) (
 yO s k wl 66 Tryz.f66 H9 4 h.length ([],[]) E1 ⟨[a,b,uu,uu,(.lit (.bool false)),b,v1,v1,uu,uu,uu,uu,uu],h2⟩):=kB
theorem akc:evF Tryz.prog xM (k+1) wl 66 [a,b] h=ak (xX (xS k) 66 wl k false) Tryz.f66 [a,b] h:=by kernel_rfl
theorem Ud:yO s k wl 66 Tryz.f66 H9 7 m0 ac E1 ⟨[a,b,d,e,o,p,g,l,q,j,u,r,A],h⟩ =
 bm (aR l r (.lit (.bool false))) h fun v7 h8=>
 some (v7,h8):=kG
theorem AJ (cx:Cx) (s:St):au cx K E1 .ret s=K .ret s:=by kernel_rfl
-- names: ajd,Ud,AJ
noncomputable def rS:Code:=al (am Tryz.f69) [1,0]
noncomputable def oM:List Fr:=[.seq (al (am Tryz.f69) [1,1])]
theorem ajK:ak (xX s 69 wl k false) Tryz.f69 [a] h =
 bp (aP a h) fun v1 h2=>
 bm (aa s.P 55 v1 0) h2 fun v3 h4=>
 bm (ab s.P 3 v3 h4) h4 fun v5 h6=>
 bm (aw s.P .eql 3 v5 (.lit (.int .i64 5))) h6 fun v7 h8=>
 gd v7 (
 bm (ab s.P 55 v1 h8) h8 fun v9 hB=>
 bp (yC s k wl 69 false true (.fn (.func 110) [] []) [v9] hB) fun vA hE=>
 bm (vUn .not vA) hE fun vC hF=>
 yO s k wl 69 Tryz.f69 rS 7 h2.length ([],[]) oM ⟨[a,v1,(.lit (.bool false)),v3,v5,v7,(.lit (.bool true)),v9,vA,vC,uu,uu,uu,uu,uu,uu],hF⟩) (
 yO s k wl 69 Tryz.f69 rS 7 h2.length ([],[]) oM ⟨[a,v1,(.lit (.bool false)),v3,v5,v7,(.lit (.bool false)),uu,uu,uu,uu,uu,uu,uu,uu,uu],h8⟩) (
 yO s k wl 69 Tryz.f69 rS 5 h2.length ([],[]) oM ⟨[a,v1,(.lit (.bool false)),v3,v5,v7,v7,uu,uu,uu,uu,uu,uu,uu,uu,uu],h8⟩):=kB
theorem ajU:evF Tryz.prog xM (k+1) wl 69 [a] h=ak (xX (xS k) 69 wl k false) Tryz.f69 [a] h:=by kernel_rfl
theorem UE:yO s k wl 69 Tryz.f69 rS 7 m0 ac oM ⟨[a,b,d,e,o,p,g,l,q,j,u,r,A,y,z,B],h⟩ =
 bm (aR g j (.lit (.bool false))) h fun vB hG=>
 gd vB (
 bm (aa s.P 55 b 1) hG fun vD hH=>
 bm (ab s.P 3 vD hH) hH fun vE hI=>
 bm (aw s.P .eql 3 vE (.lit (.int .i64 3))) hI fun vF hJ=>
 yO s k wl 69 Tryz.f69 rS 12 m0 ac oM ⟨[a,b,d,e,o,p,g,l,q,j,vB,(.lit (.bool true)),vD,vE,vF,B],hJ⟩) (
 yO s k wl 69 Tryz.f69 rS 12 m0 ac oM ⟨[a,b,d,e,o,p,g,l,q,j,vB,(.lit (.bool false)),uu,uu,uu,B],hG⟩) (
 yO s k wl 69 Tryz.f69 rS 10 m0 ac oM ⟨[a,b,d,e,o,p,g,l,q,j,vB,vB,uu,y,z,B],hG⟩):=kG
theorem Th:yO s k wl 69 Tryz.f69 rS 12 m0 ac oM ⟨[a,b,d,e,o,p,g,l,q,j,u,r,A,y,z,B],h⟩ =
 bm (aR r z (.lit (.bool false))) h fun vG hK=>
 some (vG,hK):=kG
theorem AH (cx:Cx) (s:St):au cx K oM .ret s=K .ret s:=by kernel_rfl
-- names: ajK,UE,Th,AH
noncomputable def Id:Code:=al (am Tryz.f70) [1,0,0]
noncomputable def DJ:List Fr:=[.seq (al (am Tryz.f70) [1,0,1]),.seq (al (am Tryz.f70) [1,1])]
theorem Vq:ak (xX s 70 wl k false) Tryz.f70 [a,b,d] h =
 bp (aP a h) fun v1 h2=>
 bm (ab s.P 23 v1 h2) h2 fun v3 h4=>
 bp (yC s k wl 70 false true (.fn (.func 50) [] []) [v3] h4) fun v5 h6=>
 bm (vUn .not v5) h6 fun v7 h8=>
 gd v7 (
 yO s k wl 70 Tryz.f70 Id 10 h2.length ([],[]) DJ ⟨[a,b,d,v1,uu,uu,(.lit (.int .i64 0)),v3,v5,v7,(.lit (.bool true)),uu,uu,uu,uu,uu,uu,uu,uu,uu],h8⟩) (
 bm (aa s.P 23 v1 0) h8 fun v9 hB=>
 bm (ab s.P 3 v9 hB) hB fun vA hE=>
 bm (aw s.P .sub 3 vA (.lit (.int .i64 1))) hE fun vC hF=>
 bp (yC s k wl 70 false true (.fn (.func 93) [] []) [b,(.lit (.int .i64 0)),vC] hF) fun vB hG=>
 bm (vUn .not vB) hG fun vD hH=>
 yO s k wl 70 Tryz.f70 Id 10 h2.length ([],[]) DJ ⟨[a,b,d,v1,uu,uu,(.lit (.int .i64 0)),v3,v5,v7,(.lit (.bool false)),b,v9,vA,vC,vB,vD,uu,uu,uu],hH⟩) (
 yO s k wl 70 Tryz.f70 Id 5 h2.length ([],[]) DJ ⟨[a,b,d,v1,uu,uu,(.lit (.int .i64 0)),v3,v5,v7,v7,uu,uu,uu,uu,uu,uu,uu,uu,uu],h8⟩):=kB
theorem Ze:evF Tryz.prog xM (k+1) wl 70 [a,b,d] h=ak (xX (xS k) 70 wl k false) Tryz.f70 [a,b,d] h:=by kernel_rfl
theorem uz:yO s k wl 70 Tryz.f70 Id 10 m0 ac DJ ⟨[a,b,d,e,o,p,g,l,q,j,u,r,A,y,z,B,D,F,E,I],h⟩ =
 bm (aR u (.lit (.bool true)) D) h fun vE hI=>
 cnd vE (
 some ((.lit (.int .i64 (-1))),hI)) (
 bp (yC s k wl 70 false true d [] hI) fun vF hJ=>
 some (vF,hJ)):=kG
theorem gJ (cx:Cx) (s:St):au cx K DJ .ret s=K .ret s:=by kernel_rfl
-- names: Vq,uz,gJ
theorem aje:ak (xX s 71 wl k false) Tryz.f71 [a,b] h =
 bm (ab s.P 23 a h) h fun v1 h2=>
 bm (ab s.P 3 b h2) h2 fun v3 h4=>
 bp (yC s k wl 71 false true (.fn (.func 72) [] []) [v1,v3] h4) fun v5 h6=>
 bm (aw s.P .add 3 v5 (.lit (.int .i64 2))) h6 fun v7 h8=>
 some (v7,h8):=kB
theorem akd:evF Tryz.prog xM (k+1) wl 71 [a,b] h=ak (xX (xS k) 71 wl k false) Tryz.f71 [a,b] h:=by kernel_rfl
-- names: aje,
theorem ai5:ak (xX s 72 wl k false) Tryz.f72 [a,b] h =
 bp (aP a h) fun v1 h2=>
 bm (aa s.P 23 v1 2) h2 fun v3 h4=>
 bm (ab s.P 3 v3 h4) h4 fun v5 h6=>
 bm (aw s.P .mul 3 (.lit (.int .i64 2)) v5) h6 fun v7 h8=>
 bm (aw s.P .add 3 (.lit (.int .i64 6)) v7) h8 fun v9 hB=>
 bm (aa s.P 23 v1 1) hB fun vA hE=>
 bm (ab s.P 3 vA hE) hE fun vC hF=>
 bm (aw s.P .add 3 (.lit (.int .i64 3)) vC) hF fun vB hG=>
 bm (aw s.P .mul 3 b vB) hG fun vD hH=>
 bm (aw s.P .add 3 v9 vD) hH fun vE hI=>
 some (vE,hI):=kB
theorem aki:evF Tryz.prog xM (k+1) wl 72 [a,b] h=ak (xX (xS k) 72 wl k false) Tryz.f72 [a,b] h:=by kernel_rfl
-- names: ai5,
theorem aja:ak (xX s 88 wl k false) Tryz.f88 [a,b,d] h =
 bp (aP d h) fun v1 h2=>
 bp (some (.own h2.length 0 0,h2++[.rows 0 [] 0 true])) fun v3 h4=>
 bp (yC s k wl 88 false true (.fn (.func 143) [] []) [a,b,(.fn (.func 144) [] [v1])] h4) fun v5 h6=>
 bm (aq v5 0) h6 fun v7 h8=>
 bm (aq v5 1) h8 fun v9 hB=>
 some (v7,hB):=kB
theorem akK:evF Tryz.prog xM (k+1) wl 88 [a,b,d] h=ak (xX (xS k) 88 wl k false) Tryz.f88 [a,b,d] h:=by kernel_rfl
-- names: aja,
noncomputable def IH:Code:=al (am Tryz.f93) [1,0]
noncomputable def Di:List Fr:=[.seq (al (am Tryz.f93) [1,1])]
theorem ajA:ak (xX s 93 wl k false) Tryz.f93 [a,b,d] h =
 bm (aw s.P .geq 3 a b) h fun v1 h2=>
 gd v1 (
 bm (aw s.P .leq 3 a d) h2 fun v3 h4=>
 yO s k wl 93 Tryz.f93 IH 7 h.length ([],[]) Di ⟨[a,b,d,uu,uu,uu,(.lit (.bool false)),a,b,v1,(.lit (.bool true)),a,d,v3,uu],h4⟩) (
 yO s k wl 93 Tryz.f93 IH 7 h.length ([],[]) Di ⟨[a,b,d,uu,uu,uu,(.lit (.bool false)),a,b,v1,(.lit (.bool false)),uu,uu,uu,uu],h2⟩) (
 yO s k wl 93 Tryz.f93 IH 5 h.length ([],[]) Di ⟨[a,b,d,uu,uu,uu,(.lit (.bool false)),a,b,v1,v1,uu,uu,uu,uu],h2⟩):=kB
theorem akH:evF Tryz.prog xM (k+1) wl 93 [a,b,d] h=ak (xX (xS k) 93 wl k false) Tryz.f93 [a,b,d] h:=by kernel_rfl
theorem Td:yO s k wl 93 Tryz.f93 IH 7 m0 ac Di ⟨[a,b,d,e,o,p,g,l,q,j,u,r,A,y,z],h⟩ =
 bm (aR u y (.lit (.bool false))) h fun v5 h6=>
 some (v5,h6):=kG
theorem AO (cx:Cx) (s:St):au cx K Di .ret s=K .ret s:=by kernel_rfl
-- names: ajA,Td,AO
theorem ads:ak (xX s 103 wl k false) Tryz.f103 [a] h =
 bp (aP a h) fun v1 h2=>
 bm (ab s.P 23 v1 h2) h2 fun v3 h4=>
 bp (yC s k wl 103 false true (.fn (.func 50) [] []) [v3] h4) fun v5 h6=>
 bm (vUn .not v5) h6 fun v7 h8=>
 cnd v7 (
 some ((.lit (.int .i64 0)),h8)) (
 bm (ab s.P 23 v1 h8) h8 fun v9 hB=>
 bm (aa s.P 23 v1 0) hB fun vA hE=>
 bm (ab s.P 3 vA hE) hE fun vC hF=>
 bp (yC s k wl 103 false true (.fn (.func 72) [] []) [v9,vC] hF) fun vB hG=>
 some (vB,hG)):=kB
theorem ags:evF Tryz.prog xM (k+1) wl 103 [a] h=ak (xX (xS k) 103 wl k false) Tryz.f103 [a] h:=by kernel_rfl
-- names: ads,
theorem adQ:ak (xX s 104 wl k false) Tryz.f104 [a,b,d] h =
 bp (av s.P 55 h) fun v1 h2=>
 bm (bf s.P 55 [(0,a),(2,b),(3,d)]) h2 fun v3 h4=>
 bs (aj s.P wl 55 v1 v3 h4) fun h5=>
 ew [ab s.P 55 v1 h5] h5:=kB
theorem afz:evF Tryz.prog xM (k+1) wl 104 [a,b,d] h=ak (xX (xS k) 104 wl k false) Tryz.f104 [a,b,d] h:=by kernel_rfl
-- names: adQ,
theorem acO:ak (xX s 107 wl k false) Tryz.f107 [a,b] h =
 bp (aP a h) fun v1 h2=>
 bp (aP b h2) fun v3 h4=>
 bm (ab s.P 23 v1 h4) h4 fun v5 h6=>
 bm (ab s.P 3 v3 h6) h6 fun v7 h8=>
 bp (yC s k wl 107 false true (.fn (.func 70) [] []) [v5,v7,(.fn (.func 149) [] [v1,v3])] h8) fun v9 hB=>
 some (v9,hB):=kB
theorem aiM:evF Tryz.prog xM (k+1) wl 107 [a,b] h=ak (xX (xS k) 107 wl k false) Tryz.f107 [a,b] h:=by kernel_rfl
-- names: acO,
theorem aaR:ak (xX s 108 wl k false) Tryz.f108 [a,b] h =
 bp (aP a h) fun v1 h2=>
 bp (aP b h2) fun v3 h4=>
 bm (ab s.P 23 v1 h4) h4 fun v5 h6=>
 bm (ab s.P 3 v3 h6) h6 fun v7 h8=>
 bp (yC s k wl 108 false true (.fn (.func 70) [] []) [v5,v7,(.fn (.func 150) [] [v1,v3])] h8) fun v9 hB=>
 some (v9,hB):=kB
theorem aeR:evF Tryz.prog xM (k+1) wl 108 [a,b] h=ak (xX (xS k) 108 wl k false) Tryz.f108 [a,b] h:=by kernel_rfl
-- names: aaR,
theorem acD:ak (xX s 109 wl k false) Tryz.f109 [a,b,d] h =
 bp (aP a h) fun v1 h2=>
 bp (aP b h2) fun v3 h4=>
 bp (aP d h4) fun v5 h6=>
 bm (ab s.P 23 v1 h6) h6 fun v7 h8=>
 bm (ab s.P 3 v3 h8) h8 fun v9 hB=>
 bp (yC s k wl 109 false true (.fn (.func 70) [] []) [v7,v9,(.fn (.func 151) [] [v1,v3,v5])] hB) fun vA hE=>
 some (vA,hE):=kB
theorem ahl:evF Tryz.prog xM (k+1) wl 109 [a,b,d] h=ak (xX (xS k) 109 wl k false) Tryz.f109 [a,b,d] h:=by kernel_rfl
-- names: acD,
theorem abx:ak (xX s 110 wl k false) Tryz.f110 [a] h =
 bp (aP a h) fun v1 h2=>
 bm (aa s.P 55 v1 6) h2 fun v3 h4=>
 bm (ab s.P 3 v3 h4) h4 fun v5 h6=>
 bm (aw s.P .neq 3 v5 (.lit (.int .i64 0))) h6 fun v7 h8=>
 some (v7,h8):=kB
theorem afu:evF Tryz.prog xM (k+1) wl 110 [a] h=ak (xX (xS k) 110 wl k false) Tryz.f110 [a] h:=by kernel_rfl
-- names: abx,
theorem adU:ak (xX s 138 wl k false) Tryz.f138 [a,b,d] h =
 bp (aP d h) fun v1 h2=>
 bp (some (.own h2.length 0 0,h2++[.rows 0 [] 0 true])) fun v3 h4=>
 bp (yC s k wl 138 false true (.fn (.func 143) [] []) [a,b,(.fn (.func 169) [] [v1])] h4) fun v5 h6=>
 bm (aq v5 0) h6 fun v7 h8=>
 bm (aq v5 1) h8 fun v9 hB=>
 some (.tup [v7,v9],hB):=kB
theorem aia:evF Tryz.prog xM (k+1) wl 138 [a,b,d] h=ak (xX (xS k) 138 wl k false) Tryz.f138 [a,b,d] h:=by kernel_rfl
-- names: adU,
theorem Rd:ak (xX s 143 wl k false) Tryz.f143 [a,b,d] h =
 bp (some (.own h.length 0 0,h++[.rows 0 [] 0 true])) fun v1 h2=>
 bp (yC s k wl 143 false true (.fn (.func 76) [] []) [a] h2) fun v3 h4=>
 bp (yC s k wl 143 false true (.fn (.func 66) [] []) [a,b] h4) fun v5 h6=>
 bm (vUn .not v5) h6 fun v7 h8=>
 cnd v7 (
 some (.tup [v3,(.lit (.int .u64 0))],h8)) (
 bm (ai s.P 26 a b h8) h8 fun v9 hB=>
 bm (ab s.P 46 v9 hB) hB fun vA hE=>
 bp (yC s k wl 143 false true d [vA] hE) fun vC hF=>
 bm (ai s.P 26 v3 b hF) hF fun vB hG=>
 bs (aj s.P wl 46 vB vC hG) fun hb=>
 bm (ai s.P 26 a b hb) hb fun vu hg=>
 bm (ab s.P 46 vu hg) hg fun vv hu=>
 some (.tup [v3,vv],hu)):=kB
theorem Vb:evF Tryz.prog xM (k+1) wl 143 [a,b,d] h=ak (xX (xS k) 143 wl k false) Tryz.f143 [a,b,d] h:=by kernel_rfl
-- names: Rd,
theorem acQ:ak (xX s 144 wl k false) Tryz.f144 [a,b] h =
 bm (ab s.P 46 b h) h fun v1 h2=>
 some (v1,h2):=kB
theorem ag2:evF Tryz.prog xM (k+1) wl 144 [a,b] h=ak (xX (xS k) 144 wl k false) Tryz.f144 [a,b] h:=by kernel_rfl
-- names: acQ,
theorem ZH:ak (xX s 149 wl k false) Tryz.f149 [a,b] h =
 bm (ab s.P 23 a h) h fun v1 h2=>
 bm (ab s.P 3 b h2) h2 fun v3 h4=>
 bp (yC s k wl 149 false true (.fn (.func 72) [] []) [v1,v3] h4) fun v5 h6=>
 some (v5,h6):=kB
theorem agP:evF Tryz.prog xM (k+1) wl 149 [a,b] h=ak (xX (xS k) 149 wl k false) Tryz.f149 [a,b] h:=by kernel_rfl
-- names: ZH,
theorem abo:ak (xX s 150 wl k false) Tryz.f150 [a,b] h =
 bm (ab s.P 23 a h) h fun v1 h2=>
 bm (ab s.P 3 b h2) h2 fun v3 h4=>
 bp (yC s k wl 150 false true (.fn (.func 72) [] []) [v1,v3] h4) fun v5 h6=>
 bm (aw s.P .add 3 v5 (.lit (.int .i64 1))) h6 fun v7 h8=>
 some (v7,h8):=kB
theorem air:evF Tryz.prog xM (k+1) wl 150 [a,b] h=ak (xX (xS k) 150 wl k false) Tryz.f150 [a,b] h:=by kernel_rfl
-- names: abo,
theorem aal:ak (xX s 151 wl k false) Tryz.f151 [a,b,d] h =
 bm (ab s.P 23 a h) h fun v1 h2=>
 bm (ab s.P 3 b h2) h2 fun v3 h4=>
 bp (yC s k wl 151 true true (.fn (.func 72) [] []) [v1,v3] h4) fun v5 h6=>
 bm (aw s.P .add 3 v5 (.lit (.int .i64 3))) h6 fun v7 h8=>
 stO h.length d (
 bm (ab s.P 46 d h8) h8 fun v9 hB=>
 bm (aa s.P 23 a 1) hB fun vA hE=>
 stO h.length vA (
 bm (ab s.P 3 vA hE) hE fun vC hF=>
 bm (aw s.P .sub 3 vC (.lit (.int .i64 1))) hF fun vB hG=>
 bm (fY s.P 3 46 vB) hG fun vD hH=>
 bm (aw s.P .and 46 v9 vD) hH fun vE hI=>
 bm (fY s.P 46 3 vE) hI fun vF hJ=>
 bm (aw s.P .add 3 v7 vF) hJ fun vG hK=>
 some (vG,hK))):=kB
theorem afD:evF Tryz.prog xM (k+1) wl 151 [a,b,d] h=ak (xX (xS k) 151 wl k false) Tryz.f151 [a,b,d] h:=by kernel_rfl
-- names: aal,
theorem aaT:ak (xX s 169 wl k false) Tryz.f169 [a,b] h =
 bm (ab s.P 46 b h) h fun v1 h2=>
 bm (aw s.P .add 46 a v1) h2 fun v3 h4=>
 some (v3,h4):=kB
theorem ahb:evF Tryz.prog xM (k+1) wl 169 [a,b] h=ak (xX (xS k) 169 wl k false) Tryz.f169 [a,b] h:=by kernel_rfl
-- names: aaT,
theorem adA:ak (xX s 191 wl k false) Tryz.f191 [a,b,d,e] h =
 bp (aP d h) fun v1 h2=>
 bp (aP e h2) fun v3 h4=>
 bp (some (.own h4.length 0 0,h4++[.rows 0 [] 0 true])) fun v5 h6=>
 bp (av s.P 4 h6) fun v7 h8=>
 bs (aj s.P wl 4 v7 (.lit (.bool false)) h8) fun h9=>
 bp (yC s k wl 191 false true (.fn (.func 143) [] []) [a,b,(.fn (.func 219) [] [v1,v7,v3])] h9) fun vb hv=>
 bm (aq vb 0) hv fun vw hw=>
 bm (aq vb 1) hw fun v14 hZ=>
 bm (ab s.P 4 v7 hZ) hZ fun vx hb=>
 some (.tup [vw,vx],hb):=kB
theorem aiz:evF Tryz.prog xM (k+1) wl 191 [a,b,d,e] h=ak (xX (xS k) 191 wl k false) Tryz.f191 [a,b,d,e] h:=by kernel_rfl
-- names: adA,
theorem abQ:ak (xX s 219 wl k false) Tryz.f219 [a,b,d,e] h =
 bm (ab s.P 46 b h) h fun v1 h2=>
 bm (aw s.P .neq 46 a v1) h2 fun v3 h4=>
 cnd v3 (
 some (a,h4)) (
 bs (aj s.P wl 4 d (.lit (.bool true)) h4) fun h5=>
 bm (ab s.P 46 e h5) h5 fun v6 h7=>
 some (v6,h7)):=kB
theorem ahh:evF Tryz.prog xM (k+1) wl 219 [a,b,d,e] h=ak (xX (xS k) 219 wl k false) Tryz.f219 [a,b,d,e] h:=by kernel_rfl
-- names: abQ,
theorem aav:ak (xX s 222 wl k false) Tryz.f222 [a,b] h =
 bm (ab s.P 46 a h) h fun v1 h2=>
 bm (aa s.P 23 b 2) h2 fun v3 h4=>
 bm (ab s.P 3 v3 h4) h4 fun v5 h6=>
 bm (fY s.P 3 46 v5) h6 fun v7 h8=>
 bm (aw s.P .rem 46 v1 v7) h8 fun v9 hB=>
 bm (fY s.P 46 3 v9) hB fun vA hE=>
 bm (aw s.P .add 3 (.lit (.int .i64 6)) vA) hE fun vC hF=>
 some (vC,hF):=kB
theorem afP:evF Tryz.prog xM (k+1) wl 222 [a,b] h=ak (xX (xS k) 222 wl k false) Tryz.f222 [a,b] h:=by kernel_rfl
-- names: aav,
theorem ZD:ak (xX s 223 wl k false) Tryz.f223 [a,b] h =
 bm (aa s.P 23 a 2) h fun v1 h2=>
 bm (ab s.P 3 v1 h2) h2 fun v3 h4=>
 bm (aw s.P .add 3 (.lit (.int .i64 6)) v3) h4 fun v5 h6=>
 bm (ab s.P 46 b h6) h6 fun v7 h8=>
 bm (aa s.P 23 a 2) h8 fun v9 hB=>
 bm (ab s.P 3 v9 hB) hB fun vA hE=>
 bm (fY s.P 3 46 vA) hE fun vC hF=>
 bm (aw s.P .rem 46 v7 vC) hF fun vB hG=>
 bm (fY s.P 46 3 vB) hG fun vD hH=>
 bm (aw s.P .add 3 v5 vD) hH fun vE hI=>
 some (vE,hI):=kB
theorem aga:evF Tryz.prog xM (k+1) wl 223 [a,b] h=ak (xX (xS k) 223 wl k false) Tryz.f223 [a,b] h:=by kernel_rfl
-- names: ZD,
theorem acz:ak (xX s 203 wl k false) Tryz.f203 [a,b] h =
 bp (aP a h) fun v1 h2=>
 bp (aP b h2) fun v3 h4=>
 bm (ab s.P 23 v1 h4) h4 fun v5 h6=>
 bp (yC s k wl 203 false true (.fn (.func 70) [] []) [v5,(.lit (.int .i64 0)),(.fn (.func 222) [] [v3,v1])] h6) fun v7 h8=>
 some (v7,h8):=kB
theorem afo:evF Tryz.prog xM (k+1) wl 203 [a,b] h=ak (xX (xS k) 203 wl k false) Tryz.f203 [a,b] h:=by kernel_rfl
-- names: acz,
theorem ZW:ak (xX s 205 wl k false) Tryz.f205 [a,b] h =
 bp (aP a h) fun v1 h2=>
 bp (aP b h2) fun v3 h4=>
 bm (ab s.P 23 v1 h4) h4 fun v5 h6=>
 bp (yC s k wl 205 false true (.fn (.func 70) [] []) [v5,(.lit (.int .i64 0)),(.fn (.func 223) [] [v1,v3])] h6) fun v7 h8=>
 some (v7,h8):=kB
theorem ae3:evF Tryz.prog xM (k+1) wl 205 [a,b] h=ak (xX (xS k) 205 wl k false) Tryz.f205 [a,b] h:=by kernel_rfl
-- names: ZW,
end
end Go.Ab
set_option maxRecDepth 100000
set_option linter.unusedVariables false
namespace Go.Ab
open Go.Proofs
section
variable (s:Sys) (k wl:Nat) (m0:Nat) (ac:List Nat×List Nat) (c d g l j o r q y v u B z A p D G E F J M L I N T X U W Q R Y O t4 t1 t2 t3 t0 Z:V) (h:Hp) (K:Out→St→Option (V×Hp)) (rd:Bool) (n n0:Nat) (zz:List V)
noncomputable def Hs:Code:=al (am Tryz.f31) [1,0]
noncomputable def D6:List Fr:=[.seq (al (am Tryz.f31) [1,1])]
theorem ajg:ak (xX s 31 wl k false) Tryz.f31 [c] h =
 bp (aP c h) fun v1 h2=>
 bm (aa s.P 65 v1 0) h2 fun v3 h4=>
 bm (ab s.P 3 v3 h4) h4 fun v5 h6=>
 bm (aw s.P .eql 3 v5 (.lit (.int .i64 8))) h6 fun v7 h8=>
 gd v7 (
 bm (aa s.P 65 v1 2) h8 fun v9 hB=>
 bm (ab s.P 55 v9 hB) hB fun vA hE=>
 bp (yC s k wl 31 false true (.fn (.func 69) [] []) [vA] hE) fun vC hF=>
 yO s k wl 31 Tryz.f31 Hs 7 h2.length ([],[]) D6 ⟨[c,v1,(.lit (.bool false)),v3,v5,v7,(.lit (.bool true)),v9,vA,vC,uu],hF⟩) (
 yO s k wl 31 Tryz.f31 Hs 7 h2.length ([],[]) D6 ⟨[c,v1,(.lit (.bool false)),v3,v5,v7,(.lit (.bool false)),uu,uu,uu,uu],h8⟩) (
 yO s k wl 31 Tryz.f31 Hs 5 h2.length ([],[]) D6 ⟨[c,v1,(.lit (.bool false)),v3,v5,v7,v7,uu,uu,uu,uu],h8⟩):=kB
theorem ajX:evF Tryz.prog xM (k+1) wl 31 [c] h=ak (xX (xS k) 31 wl k false) Tryz.f31 [c] h:=by kernel_rfl
theorem UJ:yO s k wl 31 Tryz.f31 Hs 7 m0 ac D6 ⟨[c,d,g,l,j,o,r,q,y,v,u],h⟩ =
 bm (aR r v (.lit (.bool false))) h fun vB hG=>
 some (vB,hG):=kG
theorem Bf (cx:Cx) (s:St):au cx K D6 .ret s=K .ret s:=by kernel_rfl
-- names: ajg,UJ,Bf
noncomputable def rL:Code:=al (am Tryz.f45) [1,0,1,1,0,1,0,0]
noncomputable def Hv:List Fr:=[.block 0,.seq (al (am Tryz.f45) [1,0,1,1,1]),.scope (al (am Tryz.f45) [1,0])]
noncomputable def IC:Code:=al (am Tryz.f45) [1,0,1,1,0,1,0,0,1,1,0,0,1,0]
noncomputable def Dh:List Fr:=[.seq (al (am Tryz.f45) [1,0,1,1,0,1,0,0,1,1,0,0,1,1]),.block 1,.seq (al (am Tryz.f45) [1,0,1,1,0,1,0,0,1,1,1])]
theorem agt:ak (xX s 45 wl k false) Tryz.f45 [c,d] h =
 bp (a7 s.P 26 c h) fun v1 h2=>
 bp (a7 s.P 26 d h2) fun v3 h4=>
 bm (aw s.P .eql 3 v1 v3) h4 fun v5 h6=>
 bp (a7 s.P 26 c h6) fun v7 h8=>
 yI s k wl 45 Tryz.f45 rL h8.length Hv k ⟨[(V.kill h8.length c),(V.kill h8.length d),(V.kill h8.length uu),(V.kill h8.length uu),(.lit (.bool false)),(V.kill h8.length v5),(V.kill h8.length uu),(V.kill h8.length c),(V.kill h8.length v1),(V.kill h8.length d),(V.kill h8.length v3),(V.kill h8.length v5),(V.kill h8.length c),(V.kill h8.length v7),(.lit (.int .i64 0)),.junk,.junk,.junk,.junk,.junk,.junk,.junk,.junk,.junk,.junk,.junk,.junk,.junk,.junk,.junk,.junk,(V.kill h8.length uu)],bN h8.length h8⟩:=kB
theorem ajr:evF Tryz.prog xM (k+1) wl 45 [c,d] h=ak (xX (xS k) 45 wl k false) Tryz.f45 [c,d] h:=by kernel_rfl
theorem ahX (P:Program):ap P Tryz.f45 .ret ⟨[c,d,g,l,j,o,r,q,y,v,u,B,z,A,p,D,G,E,F,J,M,L,I,N,T,X,U,W,Q,R,Y,O],h⟩=some (j,h):=by kernel_rfl
theorem UB:itX (xX s 45 wl k rd) rL n0 K (n+1) ⟨[c,d,g,l,j,o,r,q,y,v,u,B,z,A,p,D,G,E,F,J,M,L,I,N,T,X,U,W,Q,R,Y,O],h⟩ =
 bm (aw s.P .lss 3 p A) h fun v9 hB=>
 cnd v9 (
 bm (vUn .not o) hB fun vA hE=>
 gd vA (
 cK (xX s 45 wl k rd) IC 12 hB.length ([],[]) (au (xX s 45 wl k rd) (eq (xX s 45 wl k rd) rL n0 K n) Dh) ⟨[c,d,g,l,j,o,p,q,y,v,u,B,z,A,p,v9,p,o,vA,(.lit (.bool true)),uu,uu,uu,uu,uu,uu,uu,uu,uu,R,Y,O],hE⟩) (
 bm (ai s.P 26 c p hE) hE fun vC hF=>
 bm (ab s.P 46 vC hF) hF fun vB hG=>
 bm (ai s.P 26 d p hG) hG fun vD hH=>
 bm (ab s.P 46 vD hH) hH fun vE hI=>
 bm (aw s.P .neq 46 vB vE) hI fun vF hJ=>
 cK (xX s 45 wl k rd) IC 12 hB.length ([],[]) (au (xX s 45 wl k rd) (eq (xX s 45 wl k rd) rL n0 K n) Dh) ⟨[c,d,g,l,j,o,p,q,y,v,u,B,z,A,p,v9,p,o,vA,(.lit (.bool false)),c,p,vC,vB,d,p,vD,vE,vF,R,Y,O],hJ⟩) (
 cK (xX s 45 wl k rd) IC 4 hB.length ([],[]) (au (xX s 45 wl k rd) (eq (xX s 45 wl k rd) rL n0 K n) Dh) ⟨[c,d,g,l,j,o,p,q,y,v,u,B,z,A,p,v9,p,o,vA,vA,uu,L,I,N,T,X,U,W,Q,R,Y,O],hE⟩)) (
 K (.exit 0) ⟨[(V.kill n0 c),(V.kill n0 d),(V.kill n0 g),(V.kill n0 l),(V.kill n0 j),(V.kill n0 o),(V.kill n0 r),(V.kill n0 q),(V.kill n0 y),(V.kill n0 v),(V.kill n0 u),(V.kill n0 B),(V.kill n0 z),(V.kill n0 A),.junk,.junk,.junk,.junk,.junk,.junk,.junk,.junk,.junk,.junk,.junk,.junk,.junk,.junk,.junk,.junk,.junk,(V.kill n0 O)],bN n0 hB⟩):=kI
theorem NP:au (xX s 45 wl k false) (ap s.P Tryz.f45) Hv (.exit 0) ⟨[c,d,g,l,j,o,r,q,y,v,u,B,z,A,p,D,G,E,F,J,M,L,I,N,T,X,U,W,Q,R,Y,O],h⟩ =
 some (o,h):=kR
theorem My:cK (xX s 45 wl k rd) IC 12 m0 ac (au (xX s 45 wl k rd) (eq (xX s 45 wl k rd) rL n0 K n) Dh) ⟨[c,d,g,l,j,o,r,q,y,v,u,B,z,A,p,D,G,E,F,J,M,L,I,N,T,X,U,W,Q,R,Y,O],h⟩ =
 bm (aR J (.lit (.bool true)) Q) h fun vG hK=>
 cnd vG (
 K (.exit 0) ⟨[(V.kill n0 c),(V.kill n0 d),(V.kill n0 g),(V.kill n0 l),(V.kill n0 j),(.lit (.bool false)),(V.kill n0 r),(V.kill n0 q),(V.kill n0 y),(V.kill n0 v),(V.kill n0 u),(V.kill n0 B),(V.kill n0 z),(V.kill n0 A),.junk,.junk,.junk,.junk,.junk,.junk,.junk,.junk,.junk,.junk,.junk,.junk,.junk,.junk,.junk,.junk,.junk,(V.kill n0 O)],bN n0 hK⟩) (
 bm (aw s.P .add 3 p (.lit (.int .i64 1))) hK fun vH hL=>
 itX (xX s 45 wl k rd) rL n0 K n ⟨[(V.kill n0 c),(V.kill n0 d),(V.kill n0 g),(V.kill n0 l),(V.kill n0 j),(V.kill n0 o),(V.kill n0 r),(V.kill n0 q),(V.kill n0 y),(V.kill n0 v),(V.kill n0 u),(V.kill n0 B),(V.kill n0 z),(V.kill n0 A),(V.kill n0 vH),.junk,.junk,.junk,.junk,.junk,.junk,.junk,.junk,.junk,.junk,.junk,.junk,.junk,.junk,.junk,.junk,(V.kill n0 O)],bN n0 hL⟩):=kG
theorem ru (cx:Cx) (s:St):au cx K Hv .ret s=K .ret s:=by kernel_rfl
theorem rb (cx:Cx) (s:St):au cx K Dh .ret s=K .ret s:=by kernel_rfl
-- names: agt,ahX,UB,NP,My,ru,rb
noncomputable def iF:Code:=al (am Tryz.f47) [1,0]
noncomputable def ia:List Fr:=[.seq (al (am Tryz.f47) [1,1])]
theorem ajF:ak (xX s 47 wl k false) Tryz.f47 [c,d] h =
 bp (aP c h) fun v1 h2=>
 bp (aP d h2) fun v3 h4=>
 bm (aa s.P 65 v1 0) h4 fun v5 h6=>
 bm (ab s.P 3 v5 h6) h6 fun v7 h8=>
 bm (aa s.P 65 v3 0) h8 fun v9 hB=>
 bm (ab s.P 3 v9 hB) hB fun vA hE=>
 bm (aw s.P .eql 3 v7 vA) hE fun vC hF=>
 gd vC (
 bm (aa s.P 65 v1 2) hF fun vB hG=>
 bm (ab s.P 55 vB hG) hG fun vD hH=>
 bm (aa s.P 65 v3 2) hH fun vE hI=>
 bm (ab s.P 55 vE hI) hI fun vF hJ=>
 bm (aw s.P .eql 55 vD vF) hJ fun vG hK=>
 yO s k wl 47 Tryz.f47 iF 11 h4.length ([],[]) ia ⟨[c,d,v1,v3,(.lit (.bool false)),v5,v7,v9,vA,vC,(.lit (.bool true)),vB,vD,vE,vF,vG,uu,uu,uu,uu,uu,uu,uu,uu,uu,uu,uu,uu,uu,uu,uu,uu,uu,uu,uu,uu,uu,uu],hK⟩) (
 yO s k wl 47 Tryz.f47 iF 11 h4.length ([],[]) ia ⟨[c,d,v1,v3,(.lit (.bool false)),v5,v7,v9,vA,vC,(.lit (.bool false)),uu,uu,uu,uu,uu,uu,uu,uu,uu,uu,uu,uu,uu,uu,uu,uu,uu,uu,uu,uu,uu,uu,uu,uu,uu,uu,uu],hF⟩) (
 yO s k wl 47 Tryz.f47 iF 7 h4.length ([],[]) ia ⟨[c,d,v1,v3,(.lit (.bool false)),v5,v7,v9,vA,vC,vC,uu,uu,uu,uu,uu,uu,uu,uu,uu,uu,uu,uu,uu,uu,uu,uu,uu,uu,uu,uu,uu,uu,uu,uu,uu,uu,uu],hF⟩):=kB
theorem akg:evF Tryz.prog xM (k+1) wl 47 [c,d] h=ak (xX (xS k) 47 wl k false) Tryz.f47 [c,d] h:=by kernel_rfl
theorem Uc:yO s k wl 47 Tryz.f47 iF 11 m0 ac ia ⟨(c::d::g::l::j::o::r::q::y::v::u::B::z::A::p::D::G::E::F::J::M::L::I::zz),h⟩ =
 bm (aR u D (.lit (.bool false))) h fun vH hL=>
 gd vH (
 bm (aa s.P 65 g 3) hL fun vK hP=>
 bm (ab s.P 3 vK hP) hP fun vO hU=>
 bm (aa s.P 65 l 3) hU fun vJ hM=>
 bm (ab s.P 3 vJ hM) hM fun vL hS=>
 bm (aw s.P .eql 3 vO vL) hS fun vS hV=>
 yO s k wl 47 Tryz.f47 iF 18 m0 ac ia ⟨(c::d::g::l::j::o::r::q::y::v::u::B::z::A::p::D::vH::(.lit (.bool true))::vK::vO::vJ::vL::vS::zz),hV⟩) (
 yO s k wl 47 Tryz.f47 iF 18 m0 ac ia ⟨(c::d::g::l::j::o::r::q::y::v::u::B::z::A::p::D::vH::(.lit (.bool false))::uu::uu::uu::uu::uu::zz),hL⟩) (
 yO s k wl 47 Tryz.f47 iF 14 m0 ac ia ⟨(c::d::g::l::j::o::r::q::y::v::u::B::z::A::p::D::vH::vH::uu::J::M::L::I::zz),hL⟩):=kG
theorem Tj:yO s k wl 47 Tryz.f47 iF 18 m0 ac ia ⟨[c,d,g,l,j,o,r,q,y,v,u,B,z,A,p,D,G,E,F,J,M,L,I,N,T,X,U,W,Q,R,Y,O,t4,t1,t2,t3,t0,Z],h⟩ =
 bm (aR E I (.lit (.bool false))) h fun vI hN=>
 gd vI (
 bm (aa s.P 65 g 4) hN fun vM hO=>
 bm (ab s.P 3 vM hO) hO fun vN hQ=>
 bm (aa s.P 65 l 4) hQ fun vP hA=>
 bm (ab s.P 3 vP hA) hA fun vT hR=>
 bm (aw s.P .eql 3 vN vT) hR fun vQ hT=>
 yO s k wl 47 Tryz.f47 iF 25 m0 ac ia ⟨[c,d,g,l,j,o,r,q,y,v,u,B,z,A,p,D,G,E,F,J,M,L,I,vI,(.lit (.bool true)),vM,vN,vP,vT,vQ,Y,O,t4,t1,t2,t3,t0,Z],hT⟩) (
 yO s k wl 47 Tryz.f47 iF 25 m0 ac ia ⟨[c,d,g,l,j,o,r,q,y,v,u,B,z,A,p,D,G,E,F,J,M,L,I,vI,(.lit (.bool false)),uu,uu,uu,uu,uu,Y,O,t4,t1,t2,t3,t0,Z],hN⟩) (
 yO s k wl 47 Tryz.f47 iF 21 m0 ac ia ⟨[c,d,g,l,j,o,r,q,y,v,u,B,z,A,p,D,G,E,F,J,M,L,I,vI,vI,uu,U,W,Q,R,Y,O,t4,t1,t2,t3,t0,Z],hN⟩):=kG
theorem Uy:yO s k wl 47 Tryz.f47 iF 25 m0 ac ia ⟨[c,d,g,l,j,o,r,q,y,v,u,B,z,A,p,D,G,E,F,J,M,L,I,N,T,X,U,W,Q,R,Y,O,t4,t1,t2,t3,t0,Z],h⟩ =
 bm (aR T R (.lit (.bool false))) h fun vR hW=>
 gd vR (
 bm (aa s.P 65 g 1) hW fun vV hX=>
 bm (ab s.P 63 vV hX) hX fun vW ha=>
 bm (aa s.P 65 l 1) ha fun vX hY=>
 bm (ab s.P 63 vX hY) hY fun vZ hc=>
 bp (yC s k wl 47 false true (.fn (.func 92) [] []) [vW,vZ] hc) fun vy hx=>
 yO s k wl 47 Tryz.f47 iF 32 m0 ac ia ⟨[c,d,g,l,j,o,r,q,y,v,u,B,z,A,p,D,G,E,F,J,M,L,I,N,T,X,U,W,Q,R,vR,(.lit (.bool true)),vV,vW,vX,vZ,vy,Z],hx⟩) (
 yO s k wl 47 Tryz.f47 iF 32 m0 ac ia ⟨[c,d,g,l,j,o,r,q,y,v,u,B,z,A,p,D,G,E,F,J,M,L,I,N,T,X,U,W,Q,R,vR,(.lit (.bool false)),uu,uu,uu,uu,uu,Z],hW⟩) (
 yO s k wl 47 Tryz.f47 iF 28 m0 ac ia ⟨[c,d,g,l,j,o,r,q,y,v,u,B,z,A,p,D,G,E,F,J,M,L,I,N,T,X,U,W,Q,R,vR,vR,uu,t1,t2,t3,t0,Z],hW⟩):=kG
theorem Tf:yO s k wl 47 Tryz.f47 iF 32 m0 ac ia ⟨[c,d,g,l,j,o,r,q,y,v,u,B,z,A,p,D,G,E,F,J,M,L,I,N,T,X,U,W,Q,R,Y,O,t4,t1,t2,t3,t0,Z],h⟩ =
 bm (aR O t0 (.lit (.bool false))) h fun vz hy=>
 some (vz,hy):=kG
theorem AM (cx:Cx) (s:St):au cx K ia .ret s=K .ret s:=by kernel_rfl
-- names: ajF,Uc,Tj,Uy,Tf,AM
noncomputable def rQ:Code:=al (am Tryz.f49) [1,0]
noncomputable def oQ:List Fr:=[.seq (al (am Tryz.f49) [1,1])]
theorem ai0:ak (xX s 49 wl k false) Tryz.f49 [c,d] h =
 bp (aP c h) fun v1 h2=>
 bp (aP d h2) fun v3 h4=>
 bm (aa s.P 57 v1 0) h4 fun v5 h6=>
 bm (ab s.P 3 v5 h6) h6 fun v7 h8=>
 bm (aa s.P 57 v3 0) h8 fun v9 hB=>
 bm (ab s.P 3 v9 hB) hB fun vA hE=>
 bm (aw s.P .eql 3 v7 vA) hE fun vC hF=>
 gd vC (
 bm (aa s.P 57 v1 2) hF fun vB hG=>
 bm (ab s.P 55 vB hG) hG fun vD hH=>
 bm (aa s.P 57 v3 2) hH fun vE hI=>
 bm (ab s.P 55 vE hI) hI fun vF hJ=>
 bm (aw s.P .eql 55 vD vF) hJ fun vG hK=>
 yO s k wl 49 Tryz.f49 rQ 11 h4.length ([],[]) oQ ⟨[c,d,v1,v3,(.lit (.bool false)),v5,v7,v9,vA,vC,(.lit (.bool true)),vB,vD,vE,vF,vG,uu,uu,uu,uu,uu,uu,uu,uu],hK⟩) (
 yO s k wl 49 Tryz.f49 rQ 11 h4.length ([],[]) oQ ⟨[c,d,v1,v3,(.lit (.bool false)),v5,v7,v9,vA,vC,(.lit (.bool false)),uu,uu,uu,uu,uu,uu,uu,uu,uu,uu,uu,uu,uu],hF⟩) (
 yO s k wl 49 Tryz.f49 rQ 7 h4.length ([],[]) oQ ⟨[c,d,v1,v3,(.lit (.bool false)),v5,v7,v9,vA,vC,vC,uu,uu,uu,uu,uu,uu,uu,uu,uu,uu,uu,uu,uu],hF⟩):=kB
theorem aj3:evF Tryz.prog xM (k+1) wl 49 [c,d] h=ak (xX (xS k) 49 wl k false) Tryz.f49 [c,d] h:=by kernel_rfl
theorem T1:yO s k wl 49 Tryz.f49 rQ 11 m0 ac oQ ⟨[c,d,g,l,j,o,r,q,y,v,u,B,z,A,p,D,G,E,F,J,M,L,I,N],h⟩ =
 bm (aR u D (.lit (.bool false))) h fun vH hL=>
 gd vH (
 bm (aa s.P 57 g 1) hL fun vK hP=>
 bm (ab s.P 53 vK hP) hP fun vO hU=>
 bm (aa s.P 57 l 1) hU fun vJ hM=>
 bm (ab s.P 53 vJ hM) hM fun vL hS=>
 bp (yC s k wl 49 false true (.fn (.func 91) [] []) [vO,vL] hS) fun vS hV=>
 yO s k wl 49 Tryz.f49 rQ 18 m0 ac oQ ⟨[c,d,g,l,j,o,r,q,y,v,u,B,z,A,p,D,vH,(.lit (.bool true)),vK,vO,vJ,vL,vS,N],hV⟩) (
 yO s k wl 49 Tryz.f49 rQ 18 m0 ac oQ ⟨[c,d,g,l,j,o,r,q,y,v,u,B,z,A,p,D,vH,(.lit (.bool false)),uu,uu,uu,uu,uu,N],hL⟩) (
 yO s k wl 49 Tryz.f49 rQ 14 m0 ac oQ ⟨[c,d,g,l,j,o,r,q,y,v,u,B,z,A,p,D,vH,vH,uu,J,M,L,I,N],hL⟩):=kG
theorem SH:yO s k wl 49 Tryz.f49 rQ 18 m0 ac oQ ⟨[c,d,g,l,j,o,r,q,y,v,u,B,z,A,p,D,G,E,F,J,M,L,I,N],h⟩ =
 bm (aR E I (.lit (.bool false))) h fun vI hN=>
 some (vI,hN):=kG
theorem A5 (cx:Cx) (s:St):au cx K oQ .ret s=K .ret s:=by kernel_rfl
-- names: ai0,T1,SH,A5
theorem aaW:ak (xX s 106 wl k false) Tryz.f106 [c,d] h =
 bm (aw s.P .sub 46 c d) h fun v1 h2=>
 bm (fY s.P 46 3 v1) h2 fun v3 h4=>
 some (v3,h4):=kB
theorem agr:evF Tryz.prog xM (k+1) wl 106 [c,d] h=ak (xX (xS k) 106 wl k false) Tryz.f106 [c,d] h:=by kernel_rfl
-- names: aaW,
noncomputable def C3:Code:=al (am Tryz.f161) [1,0,0]
noncomputable def wN:List Fr:=[.seq (al (am Tryz.f161) [1,0,1]),.seq (al (am Tryz.f161) [1,1])]
theorem aci:ak (xX s 161 wl k false) Tryz.f161 [c,d,g] h =
 bm (aw s.P .lss 3 g (.lit (.int .i64 2))) h fun v1 h2=>
 gd v1 (
 yO s k wl 161 Tryz.f161 C3 7 h.length ([],[]) wN ⟨[c,d,g,uu,uu,uu,(.lit (.int .i64 0)),uu,g,v1,(.lit (.bool true)),uu,uu,uu,uu,uu,uu,uu,uu,uu,uu,uu,uu,uu,uu,uu,uu,uu,uu],h2⟩) (
 bp (yC s k wl 161 false true (.fn (.func 81) [] []) [d,g] h2) fun v3 h4=>
 bm (vUn .not v3) h4 fun v5 h6=>
 yO s k wl 161 Tryz.f161 C3 7 h.length ([],[]) wN ⟨[c,d,g,uu,uu,uu,(.lit (.int .i64 0)),uu,g,v1,(.lit (.bool false)),d,g,v3,v5,uu,uu,uu,uu,uu,uu,uu,uu,uu,uu,uu,uu,uu,uu],h6⟩) (
 yO s k wl 161 Tryz.f161 C3 4 h.length ([],[]) wN ⟨[c,d,g,uu,uu,uu,(.lit (.int .i64 0)),uu,g,v1,v1,uu,uu,uu,uu,uu,uu,uu,uu,uu,uu,uu,uu,uu,uu,uu,uu,uu,uu],h2⟩):=kB
theorem aib:evF Tryz.prog xM (k+1) wl 161 [c,d,g] h=ak (xX (xS k) 161 wl k false) Tryz.f161 [c,d,g] h:=by kernel_rfl
theorem Ng:yO s k wl 161 Tryz.f161 C3 7 m0 ac wN ⟨[c,d,g,l,j,o,r,q,y,v,u,B,z,A,p,D,G,E,F,J,M,L,I,N,T,X,U,W,Q],h⟩ =
 bm (aR u (.lit (.bool true)) p) h fun v7 h8=>
 cnd v7 (
 some ((.lit (.int .i64 (-1))),h8)) (
 bm (fY s.P 3 46 g) h8 fun v9 hB=>
 bm (fY s.P 3 46 d) hB fun vA hE=>
 bm (aw s.P .add 46 vA (.lit (.int .u64 1))) hE fun vC hF=>
 bm (aw s.P .sub 46 v9 (.lit (.int .u64 1))) hF fun vB hG=>
 bm (aw s.P .rem 46 c vB) hG fun vD hH=>
 bm (aw s.P .add 46 vC vD) hH fun vE hI=>
 bm (aw s.P .rem 46 vE v9) hI fun vF hJ=>
 bm (fY s.P 46 3 vF) hJ fun vG hK=>
 some (vG,hK)):=kG
theorem Ai (cx:Cx) (s:St):au cx K wN .ret s=K .ret s:=by kernel_rfl
-- names: aci,Ng,Ai
theorem aaa:ak (xX s 192 wl k false) Tryz.f192 [c] h =
 bm (aw s.P .and 46 c (.lit (.int .u64 65535))) h fun v1 h2=>
 some (v1,h2):=kB
theorem agQ:evF Tryz.prog xM (k+1) wl 192 [c] h=ak (xX (xS k) 192 wl k false) Tryz.f192 [c] h:=by kernel_rfl
-- names: aaa,
noncomputable def NF:Code:=al (am Tryz.f195) [1,0,1,0]
noncomputable def G7:Code:=al (am Tryz.f195) [1,0,1,0,0]
noncomputable def GV:Code:=al (am Tryz.f195) [1,0,1,0,1]
noncomputable def CJ:List Fr:=[.block 0,.seq (al (am Tryz.f195) [1,1])]
theorem A1:NF= .rangeFunc (.tmp 5) #[6] G7 GV:=by kernel_rfl
theorem Yx:ak (xX s 195 wl k false) Tryz.f195 [c] h =
 bp (av s.P 3 h) fun v1 h2=>
 bp (yC s k wl 195 false true (.fn (.func 220) [] []) [c] h2) fun v3 h4=>
 bk (xX s 195 wl k false) NF none (au (xX s 195 wl k false) (ap s.P Tryz.f195) CJ) ⟨[c,uu,v1,uu,c,v3,uu,uu],h4⟩:=kB
theorem aaE:evF Tryz.prog xM (k+1) wl 195 [c] h=ak (xX (xS k) 195 wl k false) Tryz.f195 [c] h:=by kernel_rfl
theorem YR (P:Program):ap P Tryz.f195 .ret ⟨[c,d,g,l,j,o,r,q],h⟩=ew [ab P 3 g h] h:=by kernel_rfl
theorem GX:au (xX s 195 wl k false) (ap s.P Tryz.f195) CJ .norm ⟨(c::d::g::zz),h⟩ =
 bs (aj s.P wl 3 g (.lit (.int .i64 (-1))) h) fun h5=>
 ew [ab s.P 3 g h5] h5:=kR
theorem kv:au (xX s 195 wl k rd) K [.seq GV] .norm ⟨[c,d,g,l,j,o,r,q],h⟩ =
 bs (aj s.P wl 3 g l h) fun h6=>
 K .ret ⟨[c,d,g,l,j,o,r,l],h6⟩:=kR
theorem kD:au (xX s 195 wl k rd) K [.seq G7] .norm ⟨[c,d,g,l,j,o,r,q],h⟩ =
 K .norm ⟨[c,d,g,r,j,o,r,q],h⟩:=kR
theorem nD (cx:Cx) (s:St):au cx K CJ .ret s=K .ret s:=by kernel_rfl
-- names: Yx,YR,GX,kv,kD,nD
-- range over a function at [1,0,1,0]
theorem adj:ak (xX s 213 wl k false) Tryz.f213 [c] h =
 bm (aw s.P .shr 46 c (.lit (.int .u64 16))) h fun v1 h2=>
 some (v1,h2):=kB
theorem agl:evF Tryz.prog xM (k+1) wl 213 [c] h=ak (xX (xS k) 213 wl k false) Tryz.f213 [c] h:=by kernel_rfl
-- names: adj,
noncomputable def CN:Code:=al (am Tryz.f214) [1,0,0]
noncomputable def Ac:List Fr:=[.seq (al (am Tryz.f214) [1,0,1]),.seq (al (am Tryz.f214) [1,1])]
theorem adx:ak (xX s 214 wl k false) Tryz.f214 [c,d] h =
 bm (aw s.P .lss 3 d (.lit (.int .i64 0))) h fun v1 h2=>
 gd v1 (
 yO s k wl 214 Tryz.f214 CN 5 h.length ([],[]) Ac ⟨[c,d,uu,uu,(.lit (.int .u64 0)),d,v1,(.lit (.bool true)),uu,uu,uu,uu,uu,uu,uu,uu],h2⟩) (
 bm (aw s.P .geq 3 d (.lit (.int .i64 16))) h2 fun v3 h4=>
 yO s k wl 214 Tryz.f214 CN 5 h.length ([],[]) Ac ⟨[c,d,uu,uu,(.lit (.int .u64 0)),d,v1,(.lit (.bool false)),d,v3,uu,uu,uu,uu,uu,uu],h4⟩) (
 yO s k wl 214 Tryz.f214 CN 4 h.length ([],[]) Ac ⟨[c,d,uu,uu,(.lit (.int .u64 0)),d,v1,v1,uu,uu,uu,uu,uu,uu,uu,uu],h2⟩):=kB
theorem afe:evF Tryz.prog xM (k+1) wl 214 [c,d] h=ak (xX (xS k) 214 wl k false) Tryz.f214 [c,d] h:=by kernel_rfl
theorem MH:yO s k wl 214 Tryz.f214 CN 5 m0 ac Ac ⟨[c,d,g,l,j,o,r,q,y,v,u,B,z,A,p,D],h⟩ =
 bm (aR q (.lit (.bool true)) v) h fun v5 h6=>
 cnd v5 (
 some (c,h6)) (
 bm (aw s.P .shl 46 (.lit (.int .u64 1)) d) h6 fun v7 h8=>
 bm (aw s.P .or 46 c v7) h8 fun v9 hB=>
 some (v9,hB)):=kG
theorem wP (cx:Cx) (s:St):au cx K Ac .ret s=K .ret s:=by kernel_rfl
-- names: adx,MH,wP
theorem Z9:ak (xX s 216 wl k false) Tryz.f216 [c] h =
 bp (yC s k wl 216 false true (.fn (.func 192) [] []) [c] h) fun v1 h2=>
 bp (yC s k wl 216 false true (.fn (.func 213) [] []) [c] h2) fun v3 h4=>
 bm (aw s.P .add 46 v3 (.lit (.int .u64 1))) h4 fun v5 h6=>
 bm (aw s.P .sub 46 v1 (.lit (.int .u64 1))) h6 fun v7 h8=>
 bm (aw s.P .and 46 v1 v7) h8 fun v9 hB=>
 bp (yC s k wl 216 false true (.fn (.func 233) [] []) [v5,v9] hB) fun vA hE=>
 bp (yC s k wl 216 false true (.fn (.func 195) [] []) [v1] hE) fun vC hF=>
 some (.tup [vA,vC],hF):=kB
theorem aeO:evF Tryz.prog xM (k+1) wl 216 [c] h=ak (xX (xS k) 216 wl k false) Tryz.f216 [c] h:=by kernel_rfl
-- names: Z9,
theorem acd:ak (xX s 218 wl k false) Tryz.f218 [c] h =
 bp (yC s k wl 218 false true (.fn (.func 213) [] []) [c] h) fun v1 h2=>
 bm (aw s.P .add 46 v1 (.lit (.int .u64 1))) h2 fun v3 h4=>
 bp (yC s k wl 218 false true (.fn (.func 233) [] []) [v3,(.lit (.int .u64 0))] h4) fun v5 h6=>
 some (v5,h6):=kB
theorem afa:evF Tryz.prog xM (k+1) wl 218 [c] h=ak (xX (xS k) 218 wl k false) Tryz.f218 [c] h:=by kernel_rfl
-- names: acd,
theorem X0:ak (xX s 220 wl k false) Tryz.f220 [c] h =
 bp (aP c h) fun v1 h2=>
 some ((.fn (.func 234) [] [v1]),h2):=kB
theorem abi:evF Tryz.prog xM (k+1) wl 220 [c] h=ak (xX (xS k) 220 wl k false) Tryz.f220 [c] h:=by kernel_rfl
-- names: X0,
theorem aaQ:ak (xX s 233 wl k false) Tryz.f233 [c,d] h =
 bm (aw s.P .shl 46 c (.lit (.int .u64 16))) h fun v1 h2=>
 bm (aw s.P .and 46 d (.lit (.int .u64 65535))) h2 fun v3 h4=>
 bm (aw s.P .or 46 v1 v3) h4 fun v5 h6=>
 some (v5,h6):=kB
theorem agw:evF Tryz.prog xM (k+1) wl 233 [c,d] h=ak (xX (xS k) 233 wl k false) Tryz.f233 [c,d] h:=by kernel_rfl
-- names: aaQ,
noncomputable def mW:Code:=al (am Tryz.f234) [1,0,0]
noncomputable def BL:List Fr:=[.block 0]
noncomputable def B7:Code:=al (am Tryz.f234) [1,0,0,1,1,0,0,1,0]
noncomputable def uT:List Fr:=[.seq (al (am Tryz.f234) [1,0,0,1,1,0,0,1,1]),.block 1,.seq (al (am Tryz.f234) [1,0,0,1,1,1])]
theorem Vc:ak (xX s 234 wl k false) Tryz.f234 [c,d] h =
 yI s k wl 234 Tryz.f234 mW h.length BL k ⟨[(V.kill h.length c),(V.kill h.length d),(V.kill h.length uu),(V.kill h.length uu),(.lit (.int .i64 0)),.junk,.junk,.junk,.junk,.junk,.junk,.junk,.junk,.junk,.junk,.junk,.junk,.junk,.junk],bN h.length h⟩:=kB
theorem ac8:evF Tryz.prog xM (k+1) wl 234 [c,d] h=ak (xX (xS k) 234 wl k false) Tryz.f234 [c,d] h:=by kernel_rfl
theorem VP (P:Program):ap P Tryz.f234 .ret ⟨[c,d,g,l,j,o,r,q,y,v,u,B,z,A,p,D,G,E,F],h⟩=some (.tup [],h):=by kernel_rfl
theorem M5:itX (xX s 234 wl k rd) mW n0 K (n+1) ⟨[c,d,g,l,j,o,r,q,y,v,u,B,z,A,p,D,G,E,F],h⟩ =
 bm (aw s.P .lss 3 j (.lit (.int .i64 16))) h fun v1 h2=>
 cnd v1 (
 bm (ab s.P 46 d h2) h2 fun v3 h4=>
 bm (aw s.P .shr 46 v3 j) h4 fun v5 h6=>
 bm (aw s.P .and 46 v5 (.lit (.int .u64 1))) h6 fun v7 h8=>
 bm (aw s.P .eql 46 v7 (.lit (.int .u64 1))) h8 fun v9 hB=>
 gd v9 (
 bp (bE (xX s 234 wl k rd) false true c [j] hB) fun vA hE=>
 bm (vUn .not vA) hE fun vC hF=>
 cK (xX s 234 wl k rd) B7 10 h2.length ([],[]) (au (xX s 234 wl k rd) (eq (xX s 234 wl k rd) mW n0 K n) uT) ⟨[c,d,g,j,j,v1,j,v3,j,v5,v7,v9,(.lit (.bool true)),c,j,vA,vC,E,F],hF⟩) (
 cK (xX s 234 wl k rd) B7 10 h2.length ([],[]) (au (xX s 234 wl k rd) (eq (xX s 234 wl k rd) mW n0 K n) uT) ⟨[c,d,g,j,j,v1,j,v3,j,v5,v7,v9,(.lit (.bool false)),uu,uu,uu,uu,E,F],hB⟩) (
 cK (xX s 234 wl k rd) B7 7 h2.length ([],[]) (au (xX s 234 wl k rd) (eq (xX s 234 wl k rd) mW n0 K n) uT) ⟨[c,d,g,j,j,v1,j,v3,j,v5,v7,v9,v9,uu,p,D,G,E,F],hB⟩)) (
 K (.exit 0) ⟨[(V.kill n0 c),(V.kill n0 d),(V.kill n0 g),(V.kill n0 l),.junk,.junk,.junk,.junk,.junk,.junk,.junk,.junk,.junk,.junk,.junk,.junk,.junk,.junk,.junk],bN n0 h2⟩):=kI
theorem FU:au (xX s 234 wl k false) (ap s.P Tryz.f234) BL (.exit 0) ⟨(c::zz),h⟩ =
 some (.tup [],h):=kR
theorem Gl:cK (xX s 234 wl k rd) B7 10 m0 ac (au (xX s 234 wl k rd) (eq (xX s 234 wl k rd) mW n0 K n) uT) ⟨[c,d,g,l,j,o,r,q,y,v,u,B,z,A,p,D,G,E,F],h⟩ =
 bm (aR z G (.lit (.bool false))) h fun vB hG=>
 cnd vB (
 K .ret ⟨[c,d,g,l,j,o,r,q,y,v,u,B,z,A,p,D,G,vB,F],hG⟩) (
 bm (aw s.P .add 3 j (.lit (.int .i64 1))) hG fun vD hH=>
 itX (xX s 234 wl k rd) mW n0 K n ⟨[(V.kill n0 c),(V.kill n0 d),(V.kill n0 g),(V.kill n0 l),(V.kill n0 vD),.junk,.junk,.junk,.junk,.junk,.junk,.junk,.junk,.junk,.junk,.junk,.junk,.junk,.junk],bN n0 hH⟩):=kG
theorem od (cx:Cx) (s:St):au cx K BL .ret s=K .ret s:=by kernel_rfl
theorem nY (cx:Cx) (s:St):au cx K uT .ret s=K .ret s:=by kernel_rfl
-- names: Vc,VP,M5,FU,Gl,od,nY
theorem ab0:ak (xX s 193 wl k false) Tryz.f193 [c,d,g] h =
 bp (aP c h) fun v1 h2=>
 bp (av s.P 55 h2) fun v3 h4=>
 bm (aa s.P 55 v1 0) h4 fun v5 h6=>
 bm (ab s.P 3 v5 h6) h6 fun v7 h8=>
 bm (aa s.P 55 v1 2) h8 fun v9 hB=>
 bm (ab s.P 3 v9 hB) hB fun vA hE=>
 bm (bf s.P 55 [(0,v7),(2,vA),(3,g),(6,d)]) hE fun vC hF=>
 bs (aj s.P wl 55 v3 vC hF) fun hZ=>
 ew [ab s.P 55 v3 hZ] hZ:=kB
theorem afM:evF Tryz.prog xM (k+1) wl 193 [c,d,g] h=ak (xX (xS k) 193 wl k false) Tryz.f193 [c,d,g] h:=by kernel_rfl
-- names: ab0,
end
end Go.Ab
set_option maxRecDepth 100000
set_option linter.unusedVariables false
namespace Go.Ab
open Go.Proofs
section
variable (s:Sys) (k wl:Nat) (m0:Nat) (ac:List Nat×List Nat) (a b d e j f g l u v o q r y x E z F A B G D I J L M T O U Q N R Y t0 Z X W t5 t6 t7 t8 t9 ta tb tc td te tf t2 tg t3 t4 t1 tk ti th tl tm tn tp tq tr ts tt tu tv tw tx ty tz tA tj:V) (h:Hp) (K:Out→St→Option (V×Hp)) (rd:Bool) (n n0:Nat) (zz:List V)
noncomputable def cG:Code:=al (am Tryz.f42) [1,0]
noncomputable def cE:List Fr:=[.seq (al (am Tryz.f42) [1,1])]
theorem ajf:ak (xX s 42 wl k false) Tryz.f42 [a,b,d] h =
 bp (aP a h) fun v1 h2=>
 bm (aa s.P 48 v1 0) h2 fun v3 h4=>
 bm (ab s.P 3 v3 h4) h4 fun v5 h6=>
 bm (aw s.P .eql 3 v5 (.lit (.int .i64 0))) h6 fun v7 h8=>
 gd v7 (
 bm (aa s.P 48 v1 1) h8 fun v9 hB=>
 bm (ab s.P 3 v9 hB) hB fun vA hE=>
 bp (yC s k wl 42 false true (.fn (.func 81) [] []) [vA,b] hE) fun vC hF=>
 yO s k wl 42 Tryz.f42 cG 8 h2.length ([],[]) cE ⟨[a,b,d,v1,uu,uu,(.lit (.bool false)),v3,v5,v7,(.lit (.bool true)),v9,vA,b,vC,uu,uu,uu,uu,uu,uu,uu,uu,uu,uu,uu,uu,uu,uu,uu,uu,uu,uu,uu,uu,uu,uu],hF⟩) (
 yO s k wl 42 Tryz.f42 cG 8 h2.length ([],[]) cE ⟨[a,b,d,v1,uu,uu,(.lit (.bool false)),v3,v5,v7,(.lit (.bool false)),uu,uu,uu,uu,uu,uu,uu,uu,uu,uu,uu,uu,uu,uu,uu,uu,uu,uu,uu,uu,uu,uu,uu,uu,uu,uu],h8⟩) (
 yO s k wl 42 Tryz.f42 cG 5 h2.length ([],[]) cE ⟨[a,b,d,v1,uu,uu,(.lit (.bool false)),v3,v5,v7,v7,uu,uu,uu,uu,uu,uu,uu,uu,uu,uu,uu,uu,uu,uu,uu,uu,uu,uu,uu,uu,uu,uu,uu,uu,uu,uu],h8⟩):=kB
theorem ajT:evF Tryz.prog xM (k+1) wl 42 [a,b,d] h=ak (xX (xS k) 42 wl k false) Tryz.f42 [a,b,d] h:=by kernel_rfl
theorem S7:yO s k wl 42 Tryz.f42 cG 8 m0 ac cE ⟨(a::b::d::e::j::f::g::l::u::v::o::q::r::y::x::E::z::F::A::B::G::D::I::J::L::M::zz),h⟩ =
 bm (aR o x (.lit (.bool false))) h fun vB hG=>
 gd vB (
 yO s k wl 42 Tryz.f42 cG 19 m0 ac cE ⟨(a::b::d::e::j::f::g::l::u::v::o::q::r::y::x::vB::(.lit (.bool true))::uu::uu::uu::uu::uu::uu::uu::uu::uu::zz),hG⟩) (
 bm (aa s.P 48 e 0) hG fun vD hH=>
 bm (ab s.P 3 vD hH) hH fun vE hI=>
 bm (aw s.P .eql 3 vE (.lit (.int .i64 1))) hI fun vF hJ=>
 yO s k wl 42 Tryz.f42 cG 14 m0 ac cE ⟨(a::b::d::e::j::f::g::l::u::v::o::q::r::y::x::vB::(.lit (.bool false))::vD::vE::vF::vF::D::I::J::L::M::zz),hJ⟩) (
 yO s k wl 42 Tryz.f42 cG 11 m0 ac cE ⟨(a::b::d::e::j::f::g::l::u::v::o::q::r::y::x::vB::vB::uu::A::B::G::D::I::J::L::M::zz),hG⟩):=kG
theorem Uj:yO s k wl 42 Tryz.f42 cG 19 m0 ac cE ⟨[a,b,d,e,j,f,g,l,u,v,o,q,r,y,x,E,z,F,A,B,G,D,I,J,L,M,T,O,U,Q,N,R,Y,t0,Z,X,W],h⟩ =
 bm (aR z (.lit (.bool true)) M) h fun vG hK=>
 gd vG (
 yO s k wl 42 Tryz.f42 cG 24 m0 ac cE ⟨[a,b,d,e,j,f,g,l,u,v,o,q,r,y,x,E,z,F,A,B,G,D,I,J,L,M,vG,(.lit (.bool true)),uu,uu,uu,R,Y,t0,Z,X,W],hK⟩) (
 bm (aa s.P 48 e 0) hK fun vH hL=>
 bm (ab s.P 3 vH hL) hL fun vK hP=>
 bm (aw s.P .eql 3 vK (.lit (.int .i64 2))) hP fun vO hU=>
 yO s k wl 42 Tryz.f42 cG 24 m0 ac cE ⟨[a,b,d,e,j,f,g,l,u,v,o,q,r,y,x,E,z,F,A,B,G,D,I,J,L,M,vG,(.lit (.bool false)),vH,vK,vO,R,Y,t0,Z,X,W],hU⟩) (
 yO s k wl 42 Tryz.f42 cG 22 m0 ac cE ⟨[a,b,d,e,j,f,g,l,u,v,o,q,r,y,x,E,z,F,A,B,G,D,I,J,L,M,vG,vG,uu,Q,N,R,Y,t0,Z,X,W],hK⟩):=kG
theorem TK:yO s k wl 42 Tryz.f42 cG 14 m0 ac cE ⟨(a::b::d::e::j::f::g::l::u::v::o::q::r::y::x::E::z::F::A::B::G::D::I::J::L::zz),h⟩ =
 gd G (
 bm (aa s.P 48 e 1) h fun vJ hM=>
 bm (ab s.P 3 vJ hM) hM fun vL hS=>
 bp (yC s k wl 42 false true (.fn (.func 81) [] []) [vL,d] hS) fun vS hV=>
 yO s k wl 42 Tryz.f42 cG 18 m0 ac cE ⟨(a::b::d::e::j::f::g::l::u::v::o::q::r::y::x::E::z::F::A::B::(.lit (.bool true))::vJ::vL::d::vS::zz),hV⟩) (
 yO s k wl 42 Tryz.f42 cG 18 m0 ac cE ⟨(a::b::d::e::j::f::g::l::u::v::o::q::r::y::x::E::z::F::A::B::(.lit (.bool false))::uu::uu::uu::uu::zz),h⟩) (
 yO s k wl 42 Tryz.f42 cG 15 m0 ac cE ⟨(a::b::d::e::j::f::g::l::u::v::o::q::r::y::x::E::z::F::A::B::G::uu::I::J::L::zz),h⟩):=kG
theorem Uk:yO s k wl 42 Tryz.f42 cG 24 m0 ac cE ⟨[a,b,d,e,j,f,g,l,u,v,o,q,r,y,x,E,z,F,A,B,G,D,I,J,L,M,T,O,U,Q,N,R,Y,t0,Z,X,W],h⟩ =
 bm (aR O (.lit (.bool true)) N) h fun vI hN=>
 gd vI (
 yO s k wl 42 Tryz.f42 cG 29 m0 ac cE ⟨[a,b,d,e,j,f,g,l,u,v,o,q,r,y,x,E,z,F,A,B,G,D,I,J,L,M,T,O,U,Q,N,vI,(.lit (.bool true)),uu,uu,uu,W],hN⟩) (
 bm (aa s.P 48 e 0) hN fun vM hO=>
 bm (ab s.P 3 vM hO) hO fun vN hQ=>
 bm (aw s.P .eql 3 vN (.lit (.int .i64 3))) hQ fun vP hA=>
 yO s k wl 42 Tryz.f42 cG 29 m0 ac cE ⟨[a,b,d,e,j,f,g,l,u,v,o,q,r,y,x,E,z,F,A,B,G,D,I,J,L,M,T,O,U,Q,N,vI,(.lit (.bool false)),vM,vN,vP,W],hA⟩) (
 yO s k wl 42 Tryz.f42 cG 27 m0 ac cE ⟨[a,b,d,e,j,f,g,l,u,v,o,q,r,y,x,E,z,F,A,B,G,D,I,J,L,M,T,O,U,Q,N,vI,vI,uu,Z,X,W],hN⟩):=kG
theorem TS:yO s k wl 42 Tryz.f42 cG 18 m0 ac cE ⟨(a::b::d::e::j::f::g::l::u::v::o::q::r::y::x::E::z::F::A::B::G::D::I::J::L::M::zz),h⟩ =
 gd z (
 yO s k wl 42 Tryz.f42 cG 19 m0 ac cE ⟨(a::b::d::e::j::f::g::l::u::v::o::q::r::y::x::E::(.lit (.bool true))::F::A::B::G::D::I::J::L::uu::zz),h⟩) (
 bm (aR G L (.lit (.bool false))) h fun vT hR=>
 yO s k wl 42 Tryz.f42 cG 19 m0 ac cE ⟨(a::b::d::e::j::f::g::l::u::v::o::q::r::y::x::E::(.lit (.bool false))::F::A::B::G::D::I::J::L::vT::zz),hR⟩) (
 yO s k wl 42 Tryz.f42 cG 19 m0 ac cE ⟨(a::b::d::e::j::f::g::l::u::v::o::q::r::y::x::E::z::F::A::B::G::D::I::J::L::uu::zz),h⟩):=kG
theorem Te:yO s k wl 42 Tryz.f42 cG 15 m0 ac cE ⟨(a::b::d::e::j::f::g::l::u::v::o::q::r::y::x::E::z::F::A::B::G::D::I::J::L::zz),h⟩ =
 gd G (
 bm (ab s.P 3 D h) h fun vQ hT=>
 bp (yC s k wl 42 false true (.fn (.func 81) [] []) [vQ,d] hT) fun vR hW=>
 yO s k wl 42 Tryz.f42 cG 18 m0 ac cE ⟨(a::b::d::e::j::f::g::l::u::v::o::q::r::y::x::E::z::F::A::B::(.lit (.bool true))::D::vQ::d::vR::zz),hW⟩) (
 yO s k wl 42 Tryz.f42 cG 18 m0 ac cE ⟨(a::b::d::e::j::f::g::l::u::v::o::q::r::y::x::E::z::F::A::B::(.lit (.bool false))::D::uu::uu::uu::zz),h⟩) (
 yO s k wl 42 Tryz.f42 cG 16 m0 ac cE ⟨(a::b::d::e::j::f::g::l::u::v::o::q::r::y::x::E::z::F::A::B::G::D::uu::J::L::zz),h⟩):=kG
theorem Tb:yO s k wl 42 Tryz.f42 cG 29 m0 ac cE ⟨[a,b,d,e,j,f,g,l,u,v,o,q,r,y,x,E,z,F,A,B,G,D,I,J,L,M,T,O,U,Q,N,R,Y,t0,Z,X,W],h⟩ =
 bm (aR Y (.lit (.bool true)) X) h fun vV hX=>
 some (vV,hX):=kG
theorem SP:yO s k wl 42 Tryz.f42 cG 16 m0 ac cE ⟨(a::b::d::e::j::f::g::l::u::v::o::q::r::y::x::E::z::F::A::B::G::D::I::J::L::zz),h⟩ =
 gd G (
 bp (yC s k wl 42 false true (.fn (.func 81) [] []) [I,d] h) fun vW ha=>
 yO s k wl 42 Tryz.f42 cG 18 m0 ac cE ⟨(a::b::d::e::j::f::g::l::u::v::o::q::r::y::x::E::z::F::A::B::(.lit (.bool true))::D::I::d::vW::zz),ha⟩) (
 yO s k wl 42 Tryz.f42 cG 18 m0 ac cE ⟨(a::b::d::e::j::f::g::l::u::v::o::q::r::y::x::E::z::F::A::B::(.lit (.bool false))::D::I::uu::uu::zz),h⟩) (
 yO s k wl 42 Tryz.f42 cG 17 m0 ac cE ⟨(a::b::d::e::j::f::g::l::u::v::o::q::r::y::x::E::z::F::A::B::G::D::I::uu::L::zz),h⟩):=kG
theorem SZ:yO s k wl 42 Tryz.f42 cG 17 m0 ac cE ⟨(a::b::d::e::j::f::g::l::u::v::o::q::r::y::x::E::z::F::A::B::G::D::I::J::L::zz),h⟩ =
 gd G (
 bp (yC s k wl 42 false true (.fn (.func 81) [] []) [I,J] h) fun vX hY=>
 yO s k wl 42 Tryz.f42 cG 18 m0 ac cE ⟨(a::b::d::e::j::f::g::l::u::v::o::q::r::y::x::E::z::F::A::B::(.lit (.bool true))::D::I::J::vX::zz),hY⟩) (
 yO s k wl 42 Tryz.f42 cG 18 m0 ac cE ⟨(a::b::d::e::j::f::g::l::u::v::o::q::r::y::x::E::z::F::A::B::(.lit (.bool false))::D::I::J::uu::zz),h⟩) (
 yO s k wl 42 Tryz.f42 cG 18 m0 ac cE ⟨(a::b::d::e::j::f::g::l::u::v::o::q::r::y::x::E::z::F::A::B::G::D::I::J::uu::zz),h⟩):=kG
theorem A4 (cx:Cx) (s:St):au cx K cE .ret s=K .ret s:=by kernel_rfl
-- names: ajf,S7,Uj,TK,Uk,TS,Te,Tb,SP,SZ,A4
noncomputable def H6:Code:=al (am Tryz.f59) [1,1,0,1,0,0]
noncomputable def H5:List Fr:=[.block 0,.seq (al (am Tryz.f59) [1,1,1])]
theorem afW:ak (xX s 59 wl k false) Tryz.f59 [a] h =
 bp (aP a h) fun v1 h2=>
 bp (some (.own h2.length 0 0,h2++[.rows 0 [] 0 true])) fun v3 h4=>
 bp (some (.own h4.length 0 0,h4++[.rows 0 [] 0 true])) fun v5 h6=>
 bm (ab s.P 23 v1 h6) h6 fun v7 h8=>
 bp (yC s k wl 59 false true (.fn (.func 103) [] []) [v7] h8) fun v9 hB=>
 yI s k wl 59 Tryz.f59 H6 hB.length H5 k ⟨[(V.kill hB.length a),(V.kill hB.length v1),(V.kill hB.length v3),(V.kill hB.length v5),(V.kill hB.length v7),(V.kill hB.length v9),(.lit (.int .i64 0)),.junk,.junk,.junk,.junk,.junk,(V.kill hB.length uu)],bN hB.length hB⟩:=kB
theorem ajO:evF Tryz.prog xM (k+1) wl 59 [a] h=ak (xX (xS k) 59 wl k false) Tryz.f59 [a] h:=by kernel_rfl
theorem aie (P:Program):ap P Tryz.f59 .ret ⟨[a,b,d,e,j,f,g,l,u,v,o,q,r],h⟩=some (d,h):=by kernel_rfl
theorem Tv:itX (xX s 59 wl k rd) H6 n0 K (n+1) ⟨[a,b,d,e,j,f,g,l,u,v,o,q,r],h⟩ =
 bm (aw s.P .lss 3 g f) h fun vA hE=>
 cnd vA (
 bp (aB s.P wl 26 1 [(0,(.lit (.int .u64 0)))] hE) fun vC hF=>
 bp (kQ s.P wl 26 26 e vC hF) fun vB hG=>
 bm (aw s.P .add 3 g (.lit (.int .i64 1))) hG fun vD hH=>
 itX (xX s 59 wl k rd) H6 n0 K n ⟨[(V.kill n0 a),(V.kill n0 b),(V.kill n0 d),(V.kill n0 vB),(V.kill n0 j),(V.kill n0 f),(V.kill n0 vD),.junk,.junk,.junk,.junk,.junk,(V.kill n0 r)],bN n0 hH⟩) (
 K (.exit 0) ⟨[(V.kill n0 a),(V.kill n0 b),(V.kill n0 d),(V.kill n0 e),(V.kill n0 j),(V.kill n0 f),.junk,.junk,.junk,.junk,.junk,.junk,(V.kill n0 r)],bN n0 hE⟩):=kI
theorem MP:au (xX s 59 wl k false) (ap s.P Tryz.f59) H5 (.exit 0) ⟨[a,b,d,e,j,f,g,l,u,v,o,q,r],h⟩ =
 some (e,h):=kR
theorem pr (cx:Cx) (s:St):au cx K H5 .ret s=K .ret s:=by kernel_rfl
-- names: afW,aie,Tv,MP,pr
theorem ajj:ak (xX s 60 wl k false) Tryz.f60 [a] h =
 bp (av s.P 65 h) fun v1 h2=>
 bp (yC s k wl 60 false true (.fn (.func 104) [] []) [(.lit (.int .i64 1)),a,(.lit (.int .u64 0))] h2) fun v3 h4=>
 bm (bf s.P 65 [(2,v3)]) h4 fun v5 h6=>
 bs (aj s.P wl 65 v1 v5 h6) fun h7=>
 ew [ab s.P 65 v1 h7] h7:=kB
theorem aka:evF Tryz.prog xM (k+1) wl 60 [a] h=ak (xX (xS k) 60 wl k false) Tryz.f60 [a] h:=by kernel_rfl
-- names: ajj,
noncomputable def HY:Code:=al (am Tryz.f81) [1,0]
noncomputable def DC:List Fr:=[.seq (al (am Tryz.f81) [1,1])]
theorem ai9:ak (xX s 81 wl k false) Tryz.f81 [a,b] h =
 bm (aw s.P .geq 3 a (.lit (.int .i64 0))) h fun v1 h2=>
 gd v1 (
 bm (aw s.P .lss 3 a b) h2 fun v3 h4=>
 yO s k wl 81 Tryz.f81 HY 6 h.length ([],[]) DC ⟨[a,b,uu,uu,(.lit (.bool false)),a,v1,(.lit (.bool true)),a,b,v3,uu],h4⟩) (
 yO s k wl 81 Tryz.f81 HY 6 h.length ([],[]) DC ⟨[a,b,uu,uu,(.lit (.bool false)),a,v1,(.lit (.bool false)),uu,uu,uu,uu],h2⟩) (
 yO s k wl 81 Tryz.f81 HY 4 h.length ([],[]) DC ⟨[a,b,uu,uu,(.lit (.bool false)),a,v1,v1,uu,uu,uu,uu],h2⟩):=kB
theorem akB:evF Tryz.prog xM (k+1) wl 81 [a,b] h=ak (xX (xS k) 81 wl k false) Tryz.f81 [a,b] h:=by kernel_rfl
theorem Ts:yO s k wl 81 Tryz.f81 HY 6 m0 ac DC ⟨[a,b,d,e,j,f,g,l,u,v,o,q],h⟩ =
 bm (aR l o (.lit (.bool false))) h fun v5 h6=>
 some (v5,h6):=kG
theorem BD (cx:Cx) (s:St):au cx K DC .ret s=K .ret s:=by kernel_rfl
-- names: ai9,Ts,BD
end
end Go.Ab
set_option maxRecDepth 100000
set_option linter.unusedVariables false
namespace Go.Ab
open Go.Proofs
section
variable (s:Sys) (k wl:Nat) (m0:Nat) (ac:List Nat×List Nat) (d a b f u v e x j g I y z A L M B D E o F G q Q N R O J t1 U t2 t3 t4 t5 t6 t7 t8 t9 ta W T tb tc td te tf tg th ti tj tk X Y Z tx ty tz tl tm tn tG tH tI tJ tK tL tM tN tO tA tB tC tD tE tF tp tq tr ts tt tu tv tw t0:V) (h:Hp) (K:Out→St→Option (V×Hp)) (rd:Bool) (n n0:Nat) (zz:List V)
noncomputable def rE:Code:=al (am Tryz.f23) [1,0,0]
noncomputable def oD:List Fr:=[.seq (al (am Tryz.f23) [1,0,1]),.seq (al (am Tryz.f23) [1,1])]
noncomputable def HA:Code:=al (am Tryz.f23) [1,1,1,1,0,1,0,0]
noncomputable def II:List Fr:=[.block 0,.seq (al (am Tryz.f23) [1,1,1,1,1])]
noncomputable def rT:Code:=al (am Tryz.f23) [1,1,1,1,1,0,1,0,0]
noncomputable def AT:List Fr:=[.block 2,.seq (al (am Tryz.f23) [1,1,1,1,1,1])]
noncomputable def HT:Code:=al (am Tryz.f23) [1,1,1,1,1,0,1,0,0,1,1,0,0,1,0,1,0,0]
noncomputable def Jb:List Fr:=[.block 4,.seq (al (am Tryz.f23) [1,1,1,1,1,0,1,0,0,1,1,0,0,1,1]),.block 3,.seq (al (am Tryz.f23) [1,1,1,1,1,0,1,0,0,1,1,1])]
theorem Zi:ak (xX s 23 wl k false) Tryz.f23 [d,a,b] h =
 bp (aP d h) fun v1 h2=>
 bp (av s.P 30 h2) fun v3 h4=>
 bm (ab s.P 23 v1 h4) h4 fun v5 h6=>
 bp (yC s k wl 23 false true (.fn (.func 50) [] []) [v5] h6) fun v7 h8=>
 bm (vUn .not v7) h8 fun v9 hB=>
 gd v9 (
 yO s k wl 23 Tryz.f23 rE 7 h4.length ([],[]) oD ⟨(d::a::b::v1::uu::uu::v3::(.lit (.bool false))::uu::uu::uu::uu::uu::uu::uu::uu::v5::v7::v9::(.lit (.bool true))::uu::uu::uu::uu::uu::uu::uu::uu::uu::uu::uu::uu::uu::uu::uu::uu::uu::uu::uu::uu::uu::uu::uu::uu::uu::uu::uu::uu::uu::uu::uu::uu::uu::uu::uu::uu::uu::uu::uu::uu::uu::uu::uu::uu::uu::uu::uu::uu::uu::uu::uu::uu::uu::uu::uu::uu::uu::uu::uu::uu::uu::uu::uu::uu::[]),hB⟩) (
 bp (yC s k wl 23 false true (.fn (.func 56) [] []) [a] hB) fun vA hE=>
 bm (vUn .not vA) hE fun vC hF=>
 yO s k wl 23 Tryz.f23 rE 7 h4.length ([],[]) oD ⟨(d::a::b::v1::uu::uu::v3::(.lit (.bool false))::uu::uu::uu::uu::uu::uu::uu::uu::v5::v7::v9::(.lit (.bool false))::a::vA::vC::uu::uu::uu::uu::uu::uu::uu::uu::uu::uu::uu::uu::uu::uu::uu::uu::uu::uu::uu::uu::uu::uu::uu::uu::uu::uu::uu::uu::uu::uu::uu::uu::uu::uu::uu::uu::uu::uu::uu::uu::uu::uu::uu::uu::uu::uu::uu::uu::uu::uu::uu::uu::uu::uu::uu::uu::uu::uu::uu::uu::uu::[]),hF⟩) (
 yO s k wl 23 Tryz.f23 rE 5 h4.length ([],[]) oD ⟨(d::a::b::v1::uu::uu::v3::(.lit (.bool false))::uu::uu::uu::uu::uu::uu::uu::uu::v5::v7::v9::v9::uu::uu::uu::uu::uu::uu::uu::uu::uu::uu::uu::uu::uu::uu::uu::uu::uu::uu::uu::uu::uu::uu::uu::uu::uu::uu::uu::uu::uu::uu::uu::uu::uu::uu::uu::uu::uu::uu::uu::uu::uu::uu::uu::uu::uu::uu::uu::uu::uu::uu::uu::uu::uu::uu::uu::uu::uu::uu::uu::uu::uu::uu::uu::uu::[]),hB⟩):=kB
theorem abB:evF Tryz.prog xM (k+1) wl 23 [d,a,b] h=ak (xX (xS k) 23 wl k false) Tryz.f23 [d,a,b] h:=by kernel_rfl
theorem Zh (P:Program):ap P Tryz.f23 .ret ⟨(d::a::b::f::u::v::e::x::j::g::I::y::z::A::L::M::B::D::E::o::F::G::q::Q::N::R::O::J::t1::U::t2::t3::t4::t5::t6::t7::t8::t9::ta::W::T::tb::tc::td::te::tf::tg::th::ti::tj::tk::X::Y::Z::tx::ty::tz::tl::tm::tn::tG::tH::tI::tJ::tK::tL::tM::tN::tO::tA::tB::tC::tD::tE::tF::tp::tq::tr::ts::tt::tu::tv::tw::t0::[]),h⟩=ew [ab P 30 e h,some x] h:=by kernel_rfl
theorem Bn:yO s k wl 23 Tryz.f23 rE 7 m0 ac oD ⟨(d::a::b::f::u::v::e::x::j::g::I::y::z::A::L::M::B::D::E::o::F::G::q::Q::N::R::O::J::zz),h⟩ =
 bm (aR o (.lit (.bool true)) q) h fun vB hG=>
 gd vB (
 yO s k wl 23 Tryz.f23 rE 12 m0 ac oD ⟨(d::a::b::f::u::v::e::x::j::g::I::y::z::A::L::M::B::D::E::o::F::G::q::vB::(.lit (.bool true))::uu::uu::uu::zz),hG⟩) (
 bp (a7 s.P 40 b hG) fun vD hH=>
 bm (aw s.P .gtr 3 vD (.lit (.int .i64 3))) hH fun vE hI=>
 yO s k wl 23 Tryz.f23 rE 12 m0 ac oD ⟨(d::a::b::f::u::v::e::x::j::g::I::y::z::A::L::M::B::D::E::o::F::G::q::vB::(.lit (.bool false))::b::vD::vE::zz),hI⟩) (
 yO s k wl 23 Tryz.f23 rE 10 m0 ac oD ⟨(d::a::b::f::u::v::e::x::j::g::I::y::z::A::L::M::B::D::E::o::F::G::q::vB::vB::uu::O::J::zz),hG⟩):=kG
theorem AW:yO s k wl 23 Tryz.f23 rE 12 m0 ac oD ⟨(d::a::b::f::u::v::e::x::j::g::I::y::z::A::L::M::B::D::E::o::F::G::q::Q::N::R::O::J::t1::U::t2::t3::t4::t5::t6::t7::t8::t9::ta::W::T::tb::tc::td::te::tf::tg::th::ti::tj::tk::X::Y::Z::tx::ty::tz::tl::tm::tn::tG::tH::tI::tJ::tK::tL::tM::tN::tO::tA::tB::tC::tD::tE::tF::tp::tq::tr::ts::tt::tu::tv::tw::t0::[]),h⟩ =
 bm (aR N (.lit (.bool true)) J) h fun vF hJ=>
 cnd vF (
 bm (bf s.P 30 []) hJ fun vG hK=>
 bs (aj s.P wl 30 e vG hK) fun hh=>
 ew [ab s.P 30 e hh,some (.lit (.bool false))] hh) (
 bp (yC s k wl 23 false true (.fn (.func 57) [] []) [a] hJ) fun vc hd=>
 bp (av s.P 30 hd) fun vd hi=>
 stO hd.length f (
 bm (ab s.P 23 f hi) hi fun ve hz=>
 bp (yC s k wl 23 true true (.fn (.func 58) [] []) [a] hz) fun vf hj=>
 stO hd.length f (
 bm (ab s.P 23 f hj) hj fun vg h35=>
 bp (yC s k wl 23 true true (.fn (.func 59) [] []) [vg] h35) fun vh h37=>
 bm (bf s.P 30 [(0,ve),(1,vf),(2,vh)]) h37 fun vi h39=>
 bs (aj s.P wl 30 vd vi h39) fun hO=>
 bm (aa s.P 23 f 0) hO fun vN hQ=>
 bm (ab s.P 3 vN hQ) hQ fun vP hA=>
 yI s k wl 23 Tryz.f23 HA hA.length II k ⟨((V.kill hA.length d)::(V.kill hA.length a)::(V.kill hA.length b)::(V.kill hA.length f)::(V.kill hA.length u)::(V.kill hA.length v)::(V.kill hA.length e)::(V.kill hA.length x)::(V.kill hA.length vc)::(V.kill hA.length vd)::(V.kill hA.length I)::(V.kill hA.length y)::(V.kill hA.length z)::(V.kill hA.length A)::(V.kill hA.length L)::(V.kill hA.length M)::(V.kill hA.length B)::(V.kill hA.length D)::(V.kill hA.length E)::(V.kill hA.length o)::(V.kill hA.length F)::(V.kill hA.length G)::(V.kill hA.length q)::(V.kill hA.length Q)::(V.kill hA.length N)::(V.kill hA.length R)::(V.kill hA.length O)::(V.kill hA.length J)::(V.kill hA.length vF)::(V.kill hA.length U)::(V.kill hA.length a)::(V.kill hA.length vc)::(V.kill hA.length ve)::(V.kill hA.length a)::(V.kill hA.length vf)::(V.kill hA.length vg)::(V.kill hA.length vh)::(V.kill hA.length vi)::(V.kill hA.length vN)::(V.kill hA.length vP)::(.lit (.int .i64 0))::.junk::.junk::.junk::.junk::.junk::.junk::.junk::.junk::.junk::.junk::(V.kill hA.length X)::(V.kill hA.length Y)::(V.kill hA.length Z)::(V.kill hA.length tx)::(V.kill hA.length ty)::(V.kill hA.length tz)::(V.kill hA.length tl)::(V.kill hA.length tm)::(V.kill hA.length tn)::(V.kill hA.length tG)::(V.kill hA.length tH)::(V.kill hA.length tI)::(V.kill hA.length tJ)::(V.kill hA.length tK)::(V.kill hA.length tL)::(V.kill hA.length tM)::(V.kill hA.length tN)::(V.kill hA.length tO)::(V.kill hA.length tA)::(V.kill hA.length tB)::(V.kill hA.length tC)::(V.kill hA.length tD)::(V.kill hA.length tE)::(V.kill hA.length tF)::(V.kill hA.length tp)::(V.kill hA.length tq)::(V.kill hA.length tr)::(V.kill hA.length ts)::(V.kill hA.length tt)::(V.kill hA.length tu)::(V.kill hA.length tv)::(V.kill hA.length tw)::(V.kill hA.length t0)::[]),bN hA.length hA⟩))):=kG
theorem Ui:itX (xX s 23 wl k rd) HA n0 K (n+1) ⟨(d::a::b::f::u::v::e::x::j::g::I::y::z::A::L::M::B::D::E::o::F::G::q::Q::N::R::O::J::t1::U::t2::t3::t4::t5::t6::t7::t8::t9::ta::W::T::tb::tc::td::te::tf::tg::th::ti::tj::tk::X::Y::Z::tx::ty::tz::tl::tm::tn::tG::tH::tI::tJ::tK::tL::tM::tN::tO::tA::tB::tC::tD::tE::tF::tp::tq::tr::ts::tt::tu::tv::tw::t0::[]),h⟩ =
 bm (aw s.P .lss 3 T W) h fun vT hR=>
 cnd vT (
 bm (aa s.P 30 g 3) hR fun vQ hT=>
 stO hR.length vQ (
 bm (ab s.P 27 vQ hT) hT fun vR hW=>
 bp (bE (xX s 23 wl k rd) true true (.fn (.func 60) [] []) [T] hW) fun vV hX=>
 bp (cX s.P wl 27 1 [(0,vV)] hX) fun vW ha=>
 bp (kQ s.P wl 27 27 vR vW ha) fun vX hY=>
 bm (aa s.P 30 g 3) hY fun vZ hc=>
 bs (aj s.P wl 27 vZ vX hc) fun h59=>
 bm (aw s.P .add 3 T (.lit (.int .i64 1))) h59 fun v60 h61=>
 itX (xX s 23 wl k rd) HA n0 K n ⟨((V.kill n0 d)::(V.kill n0 a)::(V.kill n0 b)::(V.kill n0 f)::(V.kill n0 u)::(V.kill n0 v)::(V.kill n0 e)::(V.kill n0 x)::(V.kill n0 j)::(V.kill n0 g)::(V.kill n0 T)::(V.kill n0 y)::(V.kill n0 z)::(V.kill n0 A)::(V.kill n0 L)::(V.kill n0 M)::(V.kill n0 B)::(V.kill n0 D)::(V.kill n0 E)::(V.kill n0 o)::(V.kill n0 F)::(V.kill n0 G)::(V.kill n0 q)::(V.kill n0 Q)::(V.kill n0 N)::(V.kill n0 R)::(V.kill n0 O)::(V.kill n0 J)::(V.kill n0 t1)::(V.kill n0 U)::(V.kill n0 t2)::(V.kill n0 t3)::(V.kill n0 t4)::(V.kill n0 t5)::(V.kill n0 t6)::(V.kill n0 t7)::(V.kill n0 t8)::(V.kill n0 t9)::(V.kill n0 ta)::(V.kill n0 W)::(V.kill n0 v60)::.junk::.junk::.junk::.junk::.junk::.junk::.junk::.junk::.junk::.junk::(V.kill n0 X)::(V.kill n0 Y)::(V.kill n0 Z)::(V.kill n0 tx)::(V.kill n0 ty)::(V.kill n0 tz)::(V.kill n0 tl)::(V.kill n0 tm)::(V.kill n0 tn)::(V.kill n0 tG)::(V.kill n0 tH)::(V.kill n0 tI)::(V.kill n0 tJ)::(V.kill n0 tK)::(V.kill n0 tL)::(V.kill n0 tM)::(V.kill n0 tN)::(V.kill n0 tO)::(V.kill n0 tA)::(V.kill n0 tB)::(V.kill n0 tC)::(V.kill n0 tD)::(V.kill n0 tE)::(V.kill n0 tF)::(V.kill n0 tp)::(V.kill n0 tq)::(V.kill n0 tr)::(V.kill n0 ts)::(V.kill n0 tt)::(V.kill n0 tu)::(V.kill n0 tv)::(V.kill n0 tw)::(V.kill n0 t0)::[]),bN n0 h61⟩)) (
 K (.exit 0) ⟨((V.kill n0 d)::(V.kill n0 a)::(V.kill n0 b)::(V.kill n0 f)::(V.kill n0 u)::(V.kill n0 v)::(V.kill n0 e)::(V.kill n0 x)::(V.kill n0 j)::(V.kill n0 g)::(V.kill n0 I)::(V.kill n0 y)::(V.kill n0 z)::(V.kill n0 A)::(V.kill n0 L)::(V.kill n0 M)::(V.kill n0 B)::(V.kill n0 D)::(V.kill n0 E)::(V.kill n0 o)::(V.kill n0 F)::(V.kill n0 G)::(V.kill n0 q)::(V.kill n0 Q)::(V.kill n0 N)::(V.kill n0 R)::(V.kill n0 O)::(V.kill n0 J)::(V.kill n0 t1)::(V.kill n0 U)::(V.kill n0 t2)::(V.kill n0 t3)::(V.kill n0 t4)::(V.kill n0 t5)::(V.kill n0 t6)::(V.kill n0 t7)::(V.kill n0 t8)::(V.kill n0 t9)::(V.kill n0 ta)::(V.kill n0 W)::.junk::.junk::.junk::.junk::.junk::.junk::.junk::.junk::.junk::.junk::.junk::(V.kill n0 X)::(V.kill n0 Y)::(V.kill n0 Z)::(V.kill n0 tx)::(V.kill n0 ty)::(V.kill n0 tz)::(V.kill n0 tl)::(V.kill n0 tm)::(V.kill n0 tn)::(V.kill n0 tG)::(V.kill n0 tH)::(V.kill n0 tI)::(V.kill n0 tJ)::(V.kill n0 tK)::(V.kill n0 tL)::(V.kill n0 tM)::(V.kill n0 tN)::(V.kill n0 tO)::(V.kill n0 tA)::(V.kill n0 tB)::(V.kill n0 tC)::(V.kill n0 tD)::(V.kill n0 tE)::(V.kill n0 tF)::(V.kill n0 tp)::(V.kill n0 tq)::(V.kill n0 tr)::(V.kill n0 ts)::(V.kill n0 tt)::(V.kill n0 tu)::(V.kill n0 tv)::(V.kill n0 tw)::(V.kill n0 t0)::[]),bN n0 hR⟩):=kI
theorem Bb:au (xX s 23 wl k false) (ap s.P Tryz.f23) II (.exit 0) ⟨(d::a::b::f::u::v::e::x::j::g::I::y::z::A::L::M::B::D::E::o::F::G::q::Q::N::R::O::J::t1::U::t2::t3::t4::t5::t6::t7::t8::t9::ta::W::T::tb::tc::td::te::tf::tg::th::ti::tj::tk::X::Y::Z::tx::ty::tz::tl::tm::tn::tG::tH::tI::tJ::tK::tL::tM::tN::tO::tA::tB::tC::tD::tE::tF::tp::tq::tr::ts::tt::tu::tv::tw::t0::[]),h⟩ =
 bp (a7 s.P 40 b h) fun v62 hD=>
 yI s k wl 23 Tryz.f23 rT hD.length AT k ⟨((V.kill hD.length d)::(V.kill hD.length a)::(V.kill hD.length b)::(V.kill hD.length f)::(V.kill hD.length u)::(V.kill hD.length v)::(V.kill hD.length e)::(V.kill hD.length x)::(V.kill hD.length j)::(V.kill hD.length g)::(V.kill hD.length I)::(V.kill hD.length y)::(V.kill hD.length z)::(V.kill hD.length A)::(V.kill hD.length L)::(V.kill hD.length M)::(V.kill hD.length B)::(V.kill hD.length D)::(V.kill hD.length E)::(V.kill hD.length o)::(V.kill hD.length F)::(V.kill hD.length G)::(V.kill hD.length q)::(V.kill hD.length Q)::(V.kill hD.length N)::(V.kill hD.length R)::(V.kill hD.length O)::(V.kill hD.length J)::(V.kill hD.length t1)::(V.kill hD.length U)::(V.kill hD.length t2)::(V.kill hD.length t3)::(V.kill hD.length t4)::(V.kill hD.length t5)::(V.kill hD.length t6)::(V.kill hD.length t7)::(V.kill hD.length t8)::(V.kill hD.length t9)::(V.kill hD.length ta)::(V.kill hD.length W)::(V.kill hD.length T)::(V.kill hD.length tb)::(V.kill hD.length tc)::(V.kill hD.length td)::(V.kill hD.length te)::(V.kill hD.length tf)::(V.kill hD.length tg)::(V.kill hD.length th)::(V.kill hD.length ti)::(V.kill hD.length tj)::(V.kill hD.length tk)::(V.kill hD.length b)::(V.kill hD.length v62)::(.lit (.int .i64 0))::.junk::.junk::.junk::.junk::.junk::.junk::.junk::.junk::.junk::.junk::.junk::.junk::.junk::.junk::.junk::.junk::.junk::.junk::.junk::.junk::.junk::.junk::.junk::.junk::.junk::.junk::.junk::.junk::.junk::(V.kill hD.length t0)::[]),bN hD.length hD⟩:=kR
theorem T3:itX (xX s 23 wl k rd) rT n0 K (n+1) ⟨(d::a::b::f::u::v::e::x::j::g::I::y::z::A::L::M::B::D::E::o::F::G::q::Q::N::R::O::J::t1::U::t2::t3::t4::t5::t6::t7::t8::t9::ta::W::T::tb::tc::td::te::tf::tg::th::ti::tj::tk::X::Y::Z::tx::ty::tz::tl::tm::tn::tG::tH::tI::tJ::tK::tL::tM::tN::tO::tA::tB::tC::tD::tE::tF::tp::tq::tr::ts::tt::tu::tv::tw::t0::[]),h⟩ =
 bm (aw s.P .lss 3 Z Y) h fun vj he=>
 cnd vj (
 bm (ai s.P 40 X Z he) he fun vk hk=>
 bm (ab s.P 53 vk hk) hk fun va h69=>
 bp (a7 s.P 53 va h69) fun v70 hC=>
 itX (xX s 23 wl k rd) HT hC.length (au (xX s 23 wl k rd) (eq (xX s 23 wl k rd) rT n0 K n) Jb) k ⟨((V.kill hC.length d)::(V.kill hC.length a)::(V.kill hC.length b)::(V.kill hC.length f)::(V.kill hC.length u)::(V.kill hC.length v)::(V.kill hC.length e)::(V.kill hC.length x)::(V.kill hC.length j)::(V.kill hC.length g)::(V.kill hC.length I)::(V.kill hC.length y)::(V.kill hC.length va)::(V.kill hC.length A)::(V.kill hC.length L)::(V.kill hC.length M)::(V.kill hC.length B)::(V.kill hC.length D)::(V.kill hC.length E)::(V.kill hC.length o)::(V.kill hC.length F)::(V.kill hC.length G)::(V.kill hC.length q)::(V.kill hC.length Q)::(V.kill hC.length N)::(V.kill hC.length R)::(V.kill hC.length O)::(V.kill hC.length J)::(V.kill hC.length t1)::(V.kill hC.length U)::(V.kill hC.length t2)::(V.kill hC.length t3)::(V.kill hC.length t4)::(V.kill hC.length t5)::(V.kill hC.length t6)::(V.kill hC.length t7)::(V.kill hC.length t8)::(V.kill hC.length t9)::(V.kill hC.length ta)::(V.kill hC.length W)::(V.kill hC.length T)::(V.kill hC.length tb)::(V.kill hC.length tc)::(V.kill hC.length td)::(V.kill hC.length te)::(V.kill hC.length tf)::(V.kill hC.length tg)::(V.kill hC.length th)::(V.kill hC.length ti)::(V.kill hC.length tj)::(V.kill hC.length tk)::(V.kill hC.length X)::(V.kill hC.length Y)::(V.kill hC.length Z)::(V.kill hC.length vj)::(V.kill hC.length vk)::(V.kill hC.length va)::(V.kill hC.length va)::(V.kill hC.length v70)::(.lit (.int .i64 0))::.junk::.junk::.junk::.junk::.junk::.junk::.junk::.junk::.junk::.junk::.junk::.junk::.junk::.junk::.junk::(V.kill hC.length tp)::(V.kill hC.length tq)::(V.kill hC.length tr)::(V.kill hC.length ts)::(V.kill hC.length tt)::(V.kill hC.length tu)::(V.kill hC.length tv)::(V.kill hC.length tw)::(V.kill hC.length t0)::[]),bN hC.length hC⟩) (
 K (.exit 2) ⟨((V.kill n0 d)::(V.kill n0 a)::(V.kill n0 b)::(V.kill n0 f)::(V.kill n0 u)::(V.kill n0 v)::(V.kill n0 e)::(V.kill n0 x)::(V.kill n0 j)::(V.kill n0 g)::(V.kill n0 I)::(V.kill n0 y)::(V.kill n0 z)::(V.kill n0 A)::(V.kill n0 L)::(V.kill n0 M)::(V.kill n0 B)::(V.kill n0 D)::(V.kill n0 E)::(V.kill n0 o)::(V.kill n0 F)::(V.kill n0 G)::(V.kill n0 q)::(V.kill n0 Q)::(V.kill n0 N)::(V.kill n0 R)::(V.kill n0 O)::(V.kill n0 J)::(V.kill n0 t1)::(V.kill n0 U)::(V.kill n0 t2)::(V.kill n0 t3)::(V.kill n0 t4)::(V.kill n0 t5)::(V.kill n0 t6)::(V.kill n0 t7)::(V.kill n0 t8)::(V.kill n0 t9)::(V.kill n0 ta)::(V.kill n0 W)::(V.kill n0 T)::(V.kill n0 tb)::(V.kill n0 tc)::(V.kill n0 td)::(V.kill n0 te)::(V.kill n0 tf)::(V.kill n0 tg)::(V.kill n0 th)::(V.kill n0 ti)::(V.kill n0 tj)::(V.kill n0 tk)::(V.kill n0 X)::(V.kill n0 Y)::.junk::.junk::.junk::.junk::.junk::.junk::.junk::.junk::.junk::.junk::.junk::.junk::.junk::.junk::.junk::.junk::.junk::.junk::.junk::.junk::.junk::.junk::.junk::.junk::.junk::.junk::.junk::.junk::.junk::.junk::(V.kill n0 t0)::[]),bN n0 he⟩):=kI
theorem Bl:au (xX s 23 wl k false) (ap s.P Tryz.f23) AT (.exit 2) ⟨(d::a::b::f::u::v::e::x::j::g::I::y::z::A::L::M::B::D::E::o::F::G::q::Q::N::R::O::J::t1::U::t2::t3::t4::t5::t6::t7::t8::t9::ta::W::T::tb::tc::td::te::tf::tg::th::ti::tj::tk::X::Y::Z::tx::ty::tz::tl::tm::tn::tG::tH::tI::tJ::tK::tL::tM::tN::tO::tA::tB::tC::tD::tE::tF::tp::tq::tr::ts::tt::tu::tv::tw::t0::[]),h⟩ =
 bm (ab s.P 30 g h) h fun v72 h73=>
 bs (aj s.P wl 30 e v72 h73) fun hl=>
 ew [ab s.P 30 e hl,some (.lit (.bool true))] hl:=kR
theorem TA:itX (xX s 23 wl k rd) HT n0 K (n+1) ⟨(d::a::b::f::u::v::e::x::j::g::I::y::z::A::L::M::B::D::E::o::F::G::q::Q::N::R::O::J::t1::U::t2::t3::t4::t5::t6::t7::t8::t9::ta::W::T::tb::tc::td::te::tf::tg::th::ti::tj::tk::X::Y::Z::tx::ty::tz::tl::tm::tn::tG::tH::tI::tJ::tK::tL::tM::tN::tO::tA::tB::tC::tD::tE::tF::tp::tq::tr::ts::tt::tu::tv::tw::t0::[]),h⟩ =
 bm (aw s.P .lss 3 tn tm) h fun vl hf=>
 cnd vl (
 bm (ai s.P 53 tl tn hf) hf fun vm hm=>
 bm (ab s.P 3 vm hm) hm fun vY h80=>
 bp (bE (xX s 23 wl k rd) false true (.fn (.func 61) [] []) [j,vY] h80) fun vU h82=>
 bm (aw s.P .lss 3 vU (.lit (.int .i64 0))) h82 fun vn hn=>
 cnd vn (
 bm (bf s.P 30 []) hn fun vo h86=>
 bs (aj s.P wl 30 e vo h86) fun h87=>
 K .ret ⟨(d::a::b::f::u::v::e::(.lit (.bool false))::j::g::I::y::z::A::vY::vU::B::D::E::o::F::G::q::Q::N::R::O::J::t1::U::t2::t3::t4::t5::t6::t7::t8::t9::ta::W::T::tb::tc::td::te::tf::tg::th::ti::tj::tk::X::Y::Z::tx::ty::tz::tl::tm::tn::vl::vm::vY::j::vY::vU::vU::vn::vo::tA::tB::tC::tD::tE::tF::tp::tq::tr::ts::tt::tu::tv::tw::t0::[]),h87⟩) (
 bm (aw s.P .add 3 vU (.lit (.int .i64 1))) hn fun v88 h89=>
 bp (bE (xX s 23 wl k rd) false true (.fn (.func 62) [] []) [j,vU,v88] h89) fun v90 h91=>
 bm (aw s.P .add 3 tn (.lit (.int .i64 1))) h91 fun v92 h93=>
 itX (xX s 23 wl k rd) HT n0 K n ⟨((V.kill n0 d)::(V.kill n0 a)::(V.kill n0 b)::(V.kill n0 f)::(V.kill n0 u)::(V.kill n0 v)::(V.kill n0 e)::(V.kill n0 x)::(V.kill n0 v90)::(V.kill n0 g)::(V.kill n0 I)::(V.kill n0 y)::(V.kill n0 z)::(V.kill n0 A)::(V.kill n0 vY)::(V.kill n0 vU)::(V.kill n0 B)::(V.kill n0 D)::(V.kill n0 E)::(V.kill n0 o)::(V.kill n0 F)::(V.kill n0 G)::(V.kill n0 q)::(V.kill n0 Q)::(V.kill n0 N)::(V.kill n0 R)::(V.kill n0 O)::(V.kill n0 J)::(V.kill n0 t1)::(V.kill n0 U)::(V.kill n0 t2)::(V.kill n0 t3)::(V.kill n0 t4)::(V.kill n0 t5)::(V.kill n0 t6)::(V.kill n0 t7)::(V.kill n0 t8)::(V.kill n0 t9)::(V.kill n0 ta)::(V.kill n0 W)::(V.kill n0 T)::(V.kill n0 tb)::(V.kill n0 tc)::(V.kill n0 td)::(V.kill n0 te)::(V.kill n0 tf)::(V.kill n0 tg)::(V.kill n0 th)::(V.kill n0 ti)::(V.kill n0 tj)::(V.kill n0 tk)::(V.kill n0 X)::(V.kill n0 Y)::(V.kill n0 Z)::(V.kill n0 tx)::(V.kill n0 ty)::(V.kill n0 tz)::(V.kill n0 tl)::(V.kill n0 tm)::(V.kill n0 v92)::.junk::.junk::.junk::.junk::.junk::.junk::.junk::.junk::.junk::.junk::.junk::.junk::.junk::.junk::.junk::(V.kill n0 tp)::(V.kill n0 tq)::(V.kill n0 tr)::(V.kill n0 ts)::(V.kill n0 tt)::(V.kill n0 tu)::(V.kill n0 tv)::(V.kill n0 tw)::(V.kill n0 t0)::[]),bN n0 h93⟩)) (
 K (.exit 4) ⟨((V.kill n0 d)::(V.kill n0 a)::(V.kill n0 b)::(V.kill n0 f)::(V.kill n0 u)::(V.kill n0 v)::(V.kill n0 e)::(V.kill n0 x)::(V.kill n0 j)::(V.kill n0 g)::(V.kill n0 I)::(V.kill n0 y)::(V.kill n0 z)::(V.kill n0 A)::(V.kill n0 L)::(V.kill n0 M)::(V.kill n0 B)::(V.kill n0 D)::(V.kill n0 E)::(V.kill n0 o)::(V.kill n0 F)::(V.kill n0 G)::(V.kill n0 q)::(V.kill n0 Q)::(V.kill n0 N)::(V.kill n0 R)::(V.kill n0 O)::(V.kill n0 J)::(V.kill n0 t1)::(V.kill n0 U)::(V.kill n0 t2)::(V.kill n0 t3)::(V.kill n0 t4)::(V.kill n0 t5)::(V.kill n0 t6)::(V.kill n0 t7)::(V.kill n0 t8)::(V.kill n0 t9)::(V.kill n0 ta)::(V.kill n0 W)::(V.kill n0 T)::(V.kill n0 tb)::(V.kill n0 tc)::(V.kill n0 td)::(V.kill n0 te)::(V.kill n0 tf)::(V.kill n0 tg)::(V.kill n0 th)::(V.kill n0 ti)::(V.kill n0 tj)::(V.kill n0 tk)::(V.kill n0 X)::(V.kill n0 Y)::(V.kill n0 Z)::(V.kill n0 tx)::(V.kill n0 ty)::(V.kill n0 tz)::(V.kill n0 tl)::(V.kill n0 tm)::.junk::.junk::.junk::.junk::.junk::.junk::.junk::.junk::.junk::.junk::.junk::.junk::.junk::.junk::.junk::.junk::(V.kill n0 tp)::(V.kill n0 tq)::(V.kill n0 tr)::(V.kill n0 ts)::(V.kill n0 tt)::(V.kill n0 tu)::(V.kill n0 tv)::(V.kill n0 tw)::(V.kill n0 t0)::[]),bN n0 hf⟩):=kI
theorem By:au (xX s 23 wl k rd) (eq (xX s 23 wl k rd) rT n0 K n) Jb (.exit 4) ⟨(d::a::b::f::u::v::e::x::j::g::I::y::z::A::L::M::B::D::E::o::F::G::q::Q::N::R::O::J::t1::U::t2::t3::t4::t5::t6::t7::t8::t9::ta::W::T::tb::tc::td::te::tf::tg::th::ti::tj::tk::X::Y::Z::tx::ty::tz::tl::tm::tn::tG::tH::tI::tJ::tK::tL::tM::tN::tO::tA::tB::tC::tD::tE::tF::tp::tq::tr::ts::tt::tu::tv::tw::t0::[]),h⟩ =
 bm (aa s.P 30 g 4) h fun vp ho=>
 stO h.length vp (
 bm (ab s.P 28 vp ho) ho fun v96 h97=>
 bp (bE (xX s 23 wl k rd) true true (.fn (.func 63) [] []) [z] h97) fun v98 h99=>
 bp (cX s.P wl 28 1 [(0,v98)] h99) fun vq hp=>
 bp (kQ s.P wl 28 28 v96 vq hp) fun vr hq=>
 bm (aa s.P 30 g 4) hq fun vs hr=>
 bs (aj s.P wl 28 vs vr hr) fun hs=>
 bm (aw s.P .add 3 Z (.lit (.int .i64 1))) hs fun vt ht=>
 itX (xX s 23 wl k rd) rT n0 K n ⟨((V.kill n0 d)::(V.kill n0 a)::(V.kill n0 b)::(V.kill n0 f)::(V.kill n0 u)::(V.kill n0 v)::(V.kill n0 e)::(V.kill n0 x)::(V.kill n0 j)::(V.kill n0 g)::(V.kill n0 I)::(V.kill n0 y)::(V.kill n0 z)::(V.kill n0 A)::(V.kill n0 L)::(V.kill n0 M)::(V.kill n0 B)::(V.kill n0 D)::(V.kill n0 E)::(V.kill n0 o)::(V.kill n0 F)::(V.kill n0 G)::(V.kill n0 q)::(V.kill n0 Q)::(V.kill n0 N)::(V.kill n0 R)::(V.kill n0 O)::(V.kill n0 J)::(V.kill n0 t1)::(V.kill n0 U)::(V.kill n0 t2)::(V.kill n0 t3)::(V.kill n0 t4)::(V.kill n0 t5)::(V.kill n0 t6)::(V.kill n0 t7)::(V.kill n0 t8)::(V.kill n0 t9)::(V.kill n0 ta)::(V.kill n0 W)::(V.kill n0 T)::(V.kill n0 tb)::(V.kill n0 tc)::(V.kill n0 td)::(V.kill n0 te)::(V.kill n0 tf)::(V.kill n0 tg)::(V.kill n0 th)::(V.kill n0 ti)::(V.kill n0 tj)::(V.kill n0 tk)::(V.kill n0 X)::(V.kill n0 Y)::(V.kill n0 vt)::.junk::.junk::.junk::.junk::.junk::.junk::.junk::.junk::.junk::.junk::.junk::.junk::.junk::.junk::.junk::.junk::.junk::.junk::.junk::.junk::.junk::.junk::.junk::.junk::.junk::.junk::.junk::.junk::.junk::(V.kill n0 t0)::[]),bN n0 ht⟩):=kR
theorem iV (cx:Cx) (s:St):au cx K oD .ret s=K .ret s:=by kernel_rfl
theorem i5 (cx:Cx) (s:St):au cx K II .ret s=K .ret s:=by kernel_rfl
theorem iU (cx:Cx) (s:St):au cx K AT .ret s=K .ret s:=by kernel_rfl
theorem kc (cx:Cx) (s:St):au cx K Jb .ret s=K .ret s:=by kernel_rfl
-- names: Zi,Zh,Bn,AW,Ui,Bb,T3,Bl,TA,By,iV,i5,iU,kc
end
end Go.Ab
