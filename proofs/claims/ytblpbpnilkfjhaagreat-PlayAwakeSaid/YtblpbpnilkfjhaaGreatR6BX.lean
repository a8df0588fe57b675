import Derived.Test.YtblpbpnilkfjhaaGreatR6Seat
import Derived.Test.YtblpbpnilkfjhaaGreatAbLibC
set_option linter.unusedVariables false
set_option linter.unusedSimpArgs false
set_option maxRecDepth 100000
set_option linter.unusedVariables false
namespace Go.Ab
open Go.Proofs
section
variable (s:Sys) (k wl:Nat) (m0:Nat) (ac:List Nat×List Nat) (a b d e o p g l q j u r A y z B D F E I M R N J T O U Q L G:V) (h:Hp) (K:Out→St→Option (V×Hp)) (rd:Bool) (n n0:Nat) (zz:List V)
theorem aht:ak (xX s 27 wl k false) Tryz.f27 [a,b] h =
 bp (yC s k wl 27 false true (.fn (.func 66) [] []) [a,b] h) fun v1 h2=>
 bm (vUn .not v1) h2 fun v3 h4=>
 cnd v3 (
 some ((.lit (.int .u64 0)),h4)) (
 bm (am s.P 26 a b h4) h4 fun v5 h6=>
 bm (ab s.P 46 v5 h6) h6 fun v7 h8=>
 some (v7,h8)):=kB
theorem ah1:evF Tryz.prog xM (k+1) wl 27 [a,b] h=ak (xX (xS k) 27 wl k false) Tryz.f27 [a,b] h:=by kernel_rfl
-- names: aht,
theorem ahe:ak (xX s 32 wl k false) Tryz.f32 [a,b] h =
 bp (aQ a h) fun v1 h2=>
 bp (aQ b h2) fun v3 h4=>
 bm (ab s.P 23 v1 h4) h4 fun v5 h6=>
 bm (ab s.P 3 v3 h6) h6 fun v7 h8=>
 bp (yC s k wl 32 false true (.fn (.func 70) [] []) [v5,v7,(.fn (.func 71) [] [v1,v3])] h8) fun v9 hB=>
 some (v9,hB):=kB
theorem aiC:evF Tryz.prog xM (k+1) wl 32 [a,b] h=ak (xX (xS k) 32 wl k false) Tryz.f32 [a,b] h:=by kernel_rfl
-- names: ahe,
noncomputable def iF:Code:=al (an Tryz.f50) [1,0]
noncomputable def iv:List Fr:=[.seq (al (an Tryz.f50) [1,1])]
theorem ahI:ak (xX s 50 wl k false) Tryz.f50 [a] h =
 bp (aQ a h) fun v1 h2=>
 bm (aa s.P 23 v1 0) h2 fun v3 h4=>
 bm (ab s.P 3 v3 h4) h4 fun v5 h6=>
 bp (yC s k wl 50 false true (.fn (.func 93) [] []) [v5,(.lit (.int .i64 1)),(.lit (.int .i64 8))] h6) fun v7 h8=>
 gd v7 (
 bm (aa s.P 23 v1 1) h8 fun v9 hB=>
 bm (ab s.P 3 v9 hB) hB fun vA hF=>
 bp (yC s k wl 50 false true (.fn (.func 93) [] []) [vA,(.lit (.int .i64 1)),(.lit (.int .i64 16))] hF) fun vC hG=>
 yO s k wl 50 Tryz.f50 iF 7 h2.length ([],[]) iv ⟨[a,v1,(.lit (.bool false)),v3,v5,v7,(.lit (.bool true)),v9,vA,vC,uu,uu,uu,uu,uu,uu,uu,uu,uu,uu,uu,uu,uu,uu,uu,uu,uu,uu,uu,uu],hG⟩) (
 yO s k wl 50 Tryz.f50 iF 7 h2.length ([],[]) iv ⟨[a,v1,(.lit (.bool false)),v3,v5,v7,(.lit (.bool false)),uu,uu,uu,uu,uu,uu,uu,uu,uu,uu,uu,uu,uu,uu,uu,uu,uu,uu,uu,uu,uu,uu,uu],h8⟩) (
 yO s k wl 50 Tryz.f50 iF 5 h2.length ([],[]) iv ⟨[a,v1,(.lit (.bool false)),v3,v5,v7,v7,uu,uu,uu,uu,uu,uu,uu,uu,uu,uu,uu,uu,uu,uu,uu,uu,uu,uu,uu,uu,uu,uu,uu],h8⟩):=kB
theorem ah2:evF Tryz.prog xM (k+1) wl 50 [a] h=ak (xX (xS k) 50 wl k false) Tryz.f50 [a] h:=by kernel_rfl
theorem Tl:yO s k wl 50 Tryz.f50 iF 7 m0 ac iv ⟨(a::b::d::e::o::p::g::l::q::j::u::r::A::y::z::B::D::F::E::zz),h⟩ =
 bm (aS g j (.lit (.bool false))) h fun vB hH=>
 gd vB (
 bm (aa s.P 23 b 1) hH fun vD hI=>
 bm (ab s.P 3 vD hI) hI fun vE hJ=>
 bm (aa s.P 23 b 1) hJ fun vI hK=>
 bm (ab s.P 3 vI hK) hK fun vF hL=>
 bm (aA s.P .sub 3 vF (.lit (.int .i64 1))) hL fun vQ hR=>
 bm (aA s.P .and 3 vE vQ) hR fun vR hX=>
 bm (aA s.P .eql 3 vR (.lit (.int .i64 0))) hX fun vX hY=>
 yO s k wl 50 Tryz.f50 iF 16 m0 ac iv ⟨(a::b::d::e::o::p::g::l::q::j::vB::(.lit (.bool true))::vD::vE::vI::vF::vQ::vR::vX::zz),hY⟩) (
 yO s k wl 50 Tryz.f50 iF 16 m0 ac iv ⟨(a::b::d::e::o::p::g::l::q::j::vB::(.lit (.bool false))::uu::uu::uu::uu::uu::uu::uu::zz),hH⟩) (
 yO s k wl 50 Tryz.f50 iF 10 m0 ac iv ⟨(a::b::d::e::o::p::g::l::q::j::vB::vB::uu::y::z::B::D::F::E::zz),hH⟩):=kG
theorem Tq:yO s k wl 50 Tryz.f50 iF 16 m0 ac iv ⟨[a,b,d,e,o,p,g,l,q,j,u,r,A,y,z,B,D,F,E,I,M,R,N,J,T,O,U,Q,L,G],h⟩ =
 bm (aS r E (.lit (.bool false))) h fun vK hM=>
 gd vK (
 bm (aa s.P 23 b 2) hM fun vS hU=>
 bm (ab s.P 3 vS hU) hU fun vO hZ=>
 bp (yC s k wl 50 false true (.fn (.func 93) [] []) [vO,(.lit (.int .i64 1)),(.lit (.int .i64 16))] hZ) fun vM hS=>
 yO s k wl 50 Tryz.f50 iF 21 m0 ac iv ⟨[a,b,d,e,o,p,g,l,q,j,u,r,A,y,z,B,D,F,E,vK,(.lit (.bool true)),vS,vO,vM,T,O,U,Q,L,G],hS⟩) (
 yO s k wl 50 Tryz.f50 iF 21 m0 ac iv ⟨[a,b,d,e,o,p,g,l,q,j,u,r,A,y,z,B,D,F,E,vK,(.lit (.bool false)),uu,uu,uu,T,O,U,Q,L,G],hM⟩) (
 yO s k wl 50 Tryz.f50 iF 19 m0 ac iv ⟨[a,b,d,e,o,p,g,l,q,j,u,r,A,y,z,B,D,F,E,vK,vK,uu,N,J,T,O,U,Q,L,G],hM⟩):=kG
theorem Ua:yO s k wl 50 Tryz.f50 iF 21 m0 ac iv ⟨[a,b,d,e,o,p,g,l,q,j,u,r,A,y,z,B,D,F,E,I,M,R,N,J,T,O,U,Q,L,G],h⟩ =
 bm (aS M J (.lit (.bool false))) h fun vH hN=>
 gd vH (
 bm (aa s.P 23 b 3) hN fun vL hP=>
 bm (ab s.P 3 vL hP) hP fun vN hA=>
 bp (yC s k wl 50 false true (.fn (.func 93) [] []) [vN,(.lit (.int .i64 0)),(.lit (.int .i64 4))] hA) fun vJ hQ=>
 yO s k wl 50 Tryz.f50 iF 26 m0 ac iv ⟨[a,b,d,e,o,p,g,l,q,j,u,r,A,y,z,B,D,F,E,I,M,R,N,J,vH,(.lit (.bool true)),vL,vN,vJ,G],hQ⟩) (
 yO s k wl 50 Tryz.f50 iF 26 m0 ac iv ⟨[a,b,d,e,o,p,g,l,q,j,u,r,A,y,z,B,D,F,E,I,M,R,N,J,vH,(.lit (.bool false)),uu,uu,uu,G],hN⟩) (
 yO s k wl 50 Tryz.f50 iF 24 m0 ac iv ⟨[a,b,d,e,o,p,g,l,q,j,u,r,A,y,z,B,D,F,E,I,M,R,N,J,vH,vH,uu,Q,L,G],hN⟩):=kG
theorem T6:yO s k wl 50 Tryz.f50 iF 26 m0 ac iv ⟨[a,b,d,e,o,p,g,l,q,j,u,r,A,y,z,B,D,F,E,I,M,R,N,J,T,O,U,Q,L,G],h⟩ =
 bm (aS O L (.lit (.bool false))) h fun vG hO=>
 some (vG,hO):=kG
theorem Bs (cx:Cx) (s:St):aw cx K iv .ret s=K .ret s:=by kernel_rfl
-- names: ahI,Tl,Tq,Ua,T6,Bs
noncomputable def IC:Code:=al (an Tryz.f66) [1,0]
noncomputable def Ft:List Fr:=[.seq (al (an Tryz.f66) [1,1])]
theorem ahP:ak (xX s 66 wl k false) Tryz.f66 [a,b] h =
 bm (aA s.P .geq 3 b (.lit (.int .i64 0))) h fun v1 h2=>
 gd v1 (
 bp (bh s.P 26 a h2) fun v3 h4=>
 bm (aA s.P .lss 3 b v3) h4 fun v5 h6=>
 yO s k wl 66 Tryz.f66 IC 7 h.length ([],[]) Ft ⟨[a,b,uu,uu,(.lit (.bool false)),b,v1,(.lit (.bool true)),b,a,v3,v5,uu],h6⟩) (
 yO s k wl 66 Tryz.f66 IC 7 h.length ([],[]) Ft ⟨[a,b,uu,uu,(.lit (.bool false)),b,v1,(.lit (.bool false)),uu,uu,uu,uu,uu],h2⟩) (
 yO s k wl 66 Tryz.f66 IC 4 h.length ([],[]) Ft ⟨[a,b,uu,uu,(.lit (.bool false)),b,v1,v1,uu,uu,uu,uu,uu],h2⟩):=kB
theorem aiI:evF Tryz.prog xM (k+1) wl 66 [a,b] h=ak (xX (xS k) 66 wl k false) Tryz.f66 [a,b] h:=by kernel_rfl
theorem SC:yO s k wl 66 Tryz.f66 IC 7 m0 ac Ft ⟨[a,b,d,e,o,p,g,l,q,j,u,r,A],h⟩ =
 bm (aS l r (.lit (.bool false))) h fun v7 h8=>
 some (v7,h8):=kG
theorem BF (cx:Cx) (s:St):aw cx K Ft .ret s=K .ret s:=by kernel_rfl
-- names: ahP,SC,BF
noncomputable def uv:Code:=al (an Tryz.f69) [1,0]
noncomputable def pC:List Fr:=[.seq (al (an Tryz.f69) [1,1])]
theorem ahf:ak (xX s 69 wl k false) Tryz.f69 [a] h =
 bp (aQ a h) fun v1 h2=>
 bm (aa s.P 55 v1 0) h2 fun v3 h4=>
 bm (ab s.P 3 v3 h4) h4 fun v5 h6=>
 bm (aA s.P .eql 3 v5 (.lit (.int .i64 5))) h6 fun v7 h8=>
 gd v7 (
 bm (ab s.P 55 v1 h8) h8 fun v9 hB=>
 bp (yC s k wl 69 false true (.fn (.func 110) [] []) [v9] hB) fun vA hF=>
 bm (vUn .not vA) hF fun vC hG=>
 yO s k wl 69 Tryz.f69 uv 7 h2.length ([],[]) pC ⟨[a,v1,(.lit (.bool false)),v3,v5,v7,(.lit (.bool true)),v9,vA,vC,uu,uu,uu,uu,uu,uu],hG⟩) (
 yO s k wl 69 Tryz.f69 uv 7 h2.length ([],[]) pC ⟨[a,v1,(.lit (.bool false)),v3,v5,v7,(.lit (.bool false)),uu,uu,uu,uu,uu,uu,uu,uu,uu],h8⟩) (
 yO s k wl 69 Tryz.f69 uv 5 h2.length ([],[]) pC ⟨[a,v1,(.lit (.bool false)),v3,v5,v7,v7,uu,uu,uu,uu,uu,uu,uu,uu,uu],h8⟩):=kB
theorem aiH:evF Tryz.prog xM (k+1) wl 69 [a] h=ak (xX (xS k) 69 wl k false) Tryz.f69 [a] h:=by kernel_rfl
theorem Tm:yO s k wl 69 Tryz.f69 uv 7 m0 ac pC ⟨[a,b,d,e,o,p,g,l,q,j,u,r,A,y,z,B],h⟩ =
 bm (aS g j (.lit (.bool false))) h fun vB hH=>
 gd vB (
 bm (aa s.P 55 b 1) hH fun vD hI=>
 bm (ab s.P 3 vD hI) hI fun vE hJ=>
 bm (aA s.P .eql 3 vE (.lit (.int .i64 3))) hJ fun vI hK=>
 yO s k wl 69 Tryz.f69 uv 12 m0 ac pC ⟨[a,b,d,e,o,p,g,l,q,j,vB,(.lit (.bool true)),vD,vE,vI,B],hK⟩) (
 yO s k wl 69 Tryz.f69 uv 12 m0 ac pC ⟨[a,b,d,e,o,p,g,l,q,j,vB,(.lit (.bool false)),uu,uu,uu,B],hH⟩) (
 yO s k wl 69 Tryz.f69 uv 10 m0 ac pC ⟨[a,b,d,e,o,p,g,l,q,j,vB,vB,uu,y,z,B],hH⟩):=kG
theorem SJ:yO s k wl 69 Tryz.f69 uv 12 m0 ac pC ⟨[a,b,d,e,o,p,g,l,q,j,u,r,A,y,z,B],h⟩ =
 bm (aS r z (.lit (.bool false))) h fun vF hL=>
 some (vF,hL):=kG
theorem B7 (cx:Cx) (s:St):aw cx K pC .ret s=K .ret s:=by kernel_rfl
-- names: ahf,Tm,SJ,B7
noncomputable def Jt:Code:=al (an Tryz.f70) [1,0,0]
noncomputable def Fs:List Fr:=[.seq (al (an Tryz.f70) [1,0,1]),.seq (al (an Tryz.f70) [1,1])]
theorem XM:ak (xX s 70 wl k false) Tryz.f70 [a,b,d] h =
 bp (aQ a h) fun v1 h2=>
 bm (ab s.P 23 v1 h2) h2 fun v3 h4=>
 bp (yC s k wl 70 false true (.fn (.func 50) [] []) [v3] h4) fun v5 h6=>
 bm (vUn .not v5) h6 fun v7 h8=>
 gd v7 (
 yO s k wl 70 Tryz.f70 Jt 10 h2.length ([],[]) Fs ⟨[a,b,d,v1,uu,uu,(.lit (.int .i64 0)),v3,v5,v7,(.lit (.bool true)),uu,uu,uu,uu,uu,uu,uu,uu,uu],h8⟩) (
 bm (aa s.P 23 v1 0) h8 fun v9 hB=>
 bm (ab s.P 3 v9 hB) hB fun vA hF=>
 bm (aA s.P .sub 3 vA (.lit (.int .i64 1))) hF fun vC hG=>
 bp (yC s k wl 70 false true (.fn (.func 93) [] []) [b,(.lit (.int .i64 0)),vC] hG) fun vB hH=>
 bm (vUn .not vB) hH fun vD hI=>
 yO s k wl 70 Tryz.f70 Jt 10 h2.length ([],[]) Fs ⟨[a,b,d,v1,uu,uu,(.lit (.int .i64 0)),v3,v5,v7,(.lit (.bool false)),b,v9,vA,vC,vB,vD,uu,uu,uu],hI⟩) (
 yO s k wl 70 Tryz.f70 Jt 5 h2.length ([],[]) Fs ⟨[a,b,d,v1,uu,uu,(.lit (.int .i64 0)),v3,v5,v7,v7,uu,uu,uu,uu,uu,uu,uu,uu,uu],h8⟩):=kB
theorem Yg:evF Tryz.prog xM (k+1) wl 70 [a,b,d] h=ak (xX (xS k) 70 wl k false) Tryz.f70 [a,b,d] h:=by kernel_rfl
theorem Ae:yO s k wl 70 Tryz.f70 Jt 10 m0 ac Fs ⟨[a,b,d,e,o,p,g,l,q,j,u,r,A,y,z,B,D,F,E,I],h⟩ =
 bm (aS u (.lit (.bool true)) D) h fun vE hJ=>
 cnd vE (
 some ((.lit (.int .i64 (-1))),hJ)) (
 bp (yC s k wl 70 false true d [] hJ) fun vI hK=>
 some (vI,hK)):=kG
theorem gM (cx:Cx) (s:St):aw cx K Fs .ret s=K .ret s:=by kernel_rfl
-- names: XM,Ae,gM
theorem ahH:ak (xX s 71 wl k false) Tryz.f71 [a,b] h =
 bm (ab s.P 23 a h) h fun v1 h2=>
 bm (ab s.P 3 b h2) h2 fun v3 h4=>
 bp (yC s k wl 71 false true (.fn (.func 72) [] []) [v1,v3] h4) fun v5 h6=>
 bm (aA s.P .add 3 v5 (.lit (.int .i64 2))) h6 fun v7 h8=>
 some (v7,h8):=kB
theorem aiD:evF Tryz.prog xM (k+1) wl 71 [a,b] h=ak (xX (xS k) 71 wl k false) Tryz.f71 [a,b] h:=by kernel_rfl
-- names: ahH,
theorem ahw:ak (xX s 72 wl k false) Tryz.f72 [a,b] h =
 bp (aQ a h) fun v1 h2=>
 bm (aa s.P 23 v1 2) h2 fun v3 h4=>
 bm (ab s.P 3 v3 h4) h4 fun v5 h6=>
 bm (aA s.P .mul 3 (.lit (.int .i64 2)) v5) h6 fun v7 h8=>
 bm (aA s.P .add 3 (.lit (.int .i64 6)) v7) h8 fun v9 hB=>
 bm (aa s.P 23 v1 1) hB fun vA hF=>
 bm (ab s.P 3 vA hF) hF fun vC hG=>
 bm (aA s.P .add 3 (.lit (.int .i64 3)) vC) hG fun vB hH=>
 bm (aA s.P .mul 3 b vB) hH fun vD hI=>
 bm (aA s.P .add 3 v9 vD) hI fun vE hJ=>
 some (vE,hJ):=kB
theorem aij:evF Tryz.prog xM (k+1) wl 72 [a,b] h=ak (xX (xS k) 72 wl k false) Tryz.f72 [a,b] h:=by kernel_rfl
-- names: ahw,
theorem ahZ:ak (xX s 88 wl k false) Tryz.f88 [a,b,d] h =
 bp (aQ d h) fun v1 h2=>
 bp (some (.own h2.length 0 0,h2++[.rows 0 [] 0 true])) fun v3 h4=>
 bp (yC s k wl 88 false true (.fn (.func 143) [] []) [a,b,(.fn (.func 144) [] [v1])] h4) fun v5 h6=>
 bm (ar v5 0) h6 fun v7 h8=>
 bm (ar v5 1) h8 fun v9 hB=>
 some (v7,hB):=kB
theorem ain:evF Tryz.prog xM (k+1) wl 88 [a,b,d] h=ak (xX (xS k) 88 wl k false) Tryz.f88 [a,b,d] h:=by kernel_rfl
-- names: ahZ,
noncomputable def HV:Code:=al (an Tryz.f93) [1,0]
noncomputable def Ga:List Fr:=[.seq (al (an Tryz.f93) [1,1])]
theorem ahl:ak (xX s 93 wl k false) Tryz.f93 [a,b,d] h =
 bm (aA s.P .geq 3 a b) h fun v1 h2=>
 gd v1 (
 bm (aA s.P .leq 3 a d) h2 fun v3 h4=>
 yO s k wl 93 Tryz.f93 HV 7 h.length ([],[]) Ga ⟨[a,b,d,uu,uu,uu,(.lit (.bool false)),a,b,v1,(.lit (.bool true)),a,d,v3,uu],h4⟩) (
 yO s k wl 93 Tryz.f93 HV 7 h.length ([],[]) Ga ⟨[a,b,d,uu,uu,uu,(.lit (.bool false)),a,b,v1,(.lit (.bool false)),uu,uu,uu,uu],h2⟩) (
 yO s k wl 93 Tryz.f93 HV 5 h.length ([],[]) Ga ⟨[a,b,d,uu,uu,uu,(.lit (.bool false)),a,b,v1,v1,uu,uu,uu,uu],h2⟩):=kB
theorem aio:evF Tryz.prog xM (k+1) wl 93 [a,b,d] h=ak (xX (xS k) 93 wl k false) Tryz.f93 [a,b,d] h:=by kernel_rfl
theorem TU:yO s k wl 93 Tryz.f93 HV 7 m0 ac Ga ⟨[a,b,d,e,o,p,g,l,q,j,u,r,A,y,z],h⟩ =
 bm (aS u y (.lit (.bool false))) h fun v5 h6=>
 some (v5,h6):=kG
theorem B4 (cx:Cx) (s:St):aw cx K Ga .ret s=K .ret s:=by kernel_rfl
-- names: ahl,TU,B4
theorem Zr:ak (xX s 103 wl k false) Tryz.f103 [a] h =
 bp (aQ a h) fun v1 h2=>
 bm (ab s.P 23 v1 h2) h2 fun v3 h4=>
 bp (yC s k wl 103 false true (.fn (.func 50) [] []) [v3] h4) fun v5 h6=>
 bm (vUn .not v5) h6 fun v7 h8=>
 cnd v7 (
 some ((.lit (.int .i64 0)),h8)) (
 bm (ab s.P 23 v1 h8) h8 fun v9 hB=>
 bm (aa s.P 23 v1 0) hB fun vA hF=>
 bm (ab s.P 3 vA hF) hF fun vC hG=>
 bp (yC s k wl 103 false true (.fn (.func 72) [] []) [v9,vC] hG) fun vB hH=>
 some (vB,hH)):=kB
theorem aeK:evF Tryz.prog xM (k+1) wl 103 [a] h=ak (xX (xS k) 103 wl k false) Tryz.f103 [a] h:=by kernel_rfl
-- names: Zr,
theorem Za:ak (xX s 104 wl k false) Tryz.f104 [a,b,d] h =
 bp (az s.P 55 h) fun v1 h2=>
 bm (be s.P 55 [(0,a),(2,b),(3,d)]) h2 fun v3 h4=>
 bs (ai s.P wl 55 v1 v3 h4) fun h5=>
 ew [ab s.P 55 v1 h5] h5:=kB
theorem aef:evF Tryz.prog xM (k+1) wl 104 [a,b,d] h=ak (xX (xS k) 104 wl k false) Tryz.f104 [a,b,d] h:=by kernel_rfl
-- names: Za,
theorem acy:ak (xX s 107 wl k false) Tryz.f107 [a,b] h =
 bp (aQ a h) fun v1 h2=>
 bp (aQ b h2) fun v3 h4=>
 bm (ab s.P 23 v1 h4) h4 fun v5 h6=>
 bm (ab s.P 3 v3 h6) h6 fun v7 h8=>
 bp (yC s k wl 107 false true (.fn (.func 70) [] []) [v5,v7,(.fn (.func 149) [] [v1,v3])] h8) fun v9 hB=>
 some (v9,hB):=kB
theorem ael:evF Tryz.prog xM (k+1) wl 107 [a,b] h=ak (xX (xS k) 107 wl k false) Tryz.f107 [a,b] h:=by kernel_rfl
-- names: acy,
theorem YZ:ak (xX s 108 wl k false) Tryz.f108 [a,b] h =
 bp (aQ a h) fun v1 h2=>
 bp (aQ b h2) fun v3 h4=>
 bm (ab s.P 23 v1 h4) h4 fun v5 h6=>
 bm (ab s.P 3 v3 h6) h6 fun v7 h8=>
 bp (yC s k wl 108 false true (.fn (.func 70) [] []) [v5,v7,(.fn (.func 150) [] [v1,v3])] h8) fun v9 hB=>
 some (v9,hB):=kB
theorem afU:evF Tryz.prog xM (k+1) wl 108 [a,b] h=ak (xX (xS k) 108 wl k false) Tryz.f108 [a,b] h:=by kernel_rfl
-- names: YZ,
theorem Zn:ak (xX s 109 wl k false) Tryz.f109 [a,b,d] h =
 bp (aQ a h) fun v1 h2=>
 bp (aQ b h2) fun v3 h4=>
 bp (aQ d h4) fun v5 h6=>
 bm (ab s.P 23 v1 h6) h6 fun v7 h8=>
 bm (ab s.P 3 v3 h8) h8 fun v9 hB=>
 bp (yC s k wl 109 false true (.fn (.func 70) [] []) [v7,v9,(.fn (.func 151) [] [v1,v3,v5])] hB) fun vA hF=>
 some (vA,hF):=kB
theorem agp:evF Tryz.prog xM (k+1) wl 109 [a,b,d] h=ak (xX (xS k) 109 wl k false) Tryz.f109 [a,b,d] h:=by kernel_rfl
-- names: Zn,
theorem aaY:ak (xX s 110 wl k false) Tryz.f110 [a] h =
 bp (aQ a h) fun v1 h2=>
 bm (aa s.P 55 v1 6) h2 fun v3 h4=>
 bm (ab s.P 3 v3 h4) h4 fun v5 h6=>
 bm (aA s.P .neq 3 v5 (.lit (.int .i64 0))) h6 fun v7 h8=>
 some (v7,h8):=kB
theorem afe:evF Tryz.prog xM (k+1) wl 110 [a] h=ak (xX (xS k) 110 wl k false) Tryz.f110 [a] h:=by kernel_rfl
-- names: aaY,
theorem Yz:ak (xX s 138 wl k false) Tryz.f138 [a,b,d] h =
 bp (aQ d h) fun v1 h2=>
 bp (some (.own h2.length 0 0,h2++[.rows 0 [] 0 true])) fun v3 h4=>
 bp (yC s k wl 138 false true (.fn (.func 143) [] []) [a,b,(.fn (.func 169) [] [v1])] h4) fun v5 h6=>
 bm (ar v5 0) h6 fun v7 h8=>
 bm (ar v5 1) h8 fun v9 hB=>
 some (.tup [v7,v9],hB):=kB
theorem adG:evF Tryz.prog xM (k+1) wl 138 [a,b,d] h=ak (xX (xS k) 138 wl k false) Tryz.f138 [a,b,d] h:=by kernel_rfl
-- names: Yz,
theorem Q2:ak (xX s 143 wl k false) Tryz.f143 [a,b,d] h =
 bp (some (.own h.length 0 0,h++[.rows 0 [] 0 true])) fun v1 h2=>
 bp (yC s k wl 143 false true (.fn (.func 76) [] []) [a] h2) fun v3 h4=>
 bp (yC s k wl 143 false true (.fn (.func 66) [] []) [a,b] h4) fun v5 h6=>
 bm (vUn .not v5) h6 fun v7 h8=>
 cnd v7 (
 some (.tup [v3,(.lit (.int .u64 0))],h8)) (
 bm (am s.P 26 a b h8) h8 fun v9 hB=>
 bm (ab s.P 46 v9 hB) hB fun vA hF=>
 bp (yC s k wl 143 false true d [vA] hF) fun vC hG=>
 bm (am s.P 26 v3 b hG) hG fun vB hH=>
 bs (ai s.P wl 46 vB vC hH) fun he=>
 bm (am s.P 26 a b he) he fun vu hl=>
 bm (ab s.P 46 vu hl) hl fun vv hx=>
 some (.tup [v3,vv],hx)):=kB
theorem WK:evF Tryz.prog xM (k+1) wl 143 [a,b,d] h=ak (xX (xS k) 143 wl k false) Tryz.f143 [a,b,d] h:=by kernel_rfl
-- names: Q2,
theorem acA:ak (xX s 144 wl k false) Tryz.f144 [a,b] h =
 bm (ab s.P 46 b h) h fun v1 h2=>
 some (v1,h2):=kB
theorem agL:evF Tryz.prog xM (k+1) wl 144 [a,b] h=ak (xX (xS k) 144 wl k false) Tryz.f144 [a,b] h:=by kernel_rfl
-- names: acA,
theorem Z7:ak (xX s 149 wl k false) Tryz.f149 [a,b] h =
 bm (ab s.P 23 a h) h fun v1 h2=>
 bm (ab s.P 3 b h2) h2 fun v3 h4=>
 bp (yC s k wl 149 false true (.fn (.func 72) [] []) [v1,v3] h4) fun v5 h6=>
 some (v5,h6):=kB
theorem aeI:evF Tryz.prog xM (k+1) wl 149 [a,b] h=ak (xX (xS k) 149 wl k false) Tryz.f149 [a,b] h:=by kernel_rfl
-- names: Z7,
theorem acM:ak (xX s 150 wl k false) Tryz.f150 [a,b] h =
 bm (ab s.P 23 a h) h fun v1 h2=>
 bm (ab s.P 3 b h2) h2 fun v3 h4=>
 bp (yC s k wl 150 false true (.fn (.func 72) [] []) [v1,v3] h4) fun v5 h6=>
 bm (aA s.P .add 3 v5 (.lit (.int .i64 1))) h6 fun v7 h8=>
 some (v7,h8):=kB
theorem aed:evF Tryz.prog xM (k+1) wl 150 [a,b] h=ak (xX (xS k) 150 wl k false) Tryz.f150 [a,b] h:=by kernel_rfl
-- names: acM,
theorem abg:ak (xX s 151 wl k false) Tryz.f151 [a,b,d] h =
 bm (ab s.P 23 a h) h fun v1 h2=>
 bm (ab s.P 3 b h2) h2 fun v3 h4=>
 bp (yC s k wl 151 true true (.fn (.func 72) [] []) [v1,v3] h4) fun v5 h6=>
 bm (aA s.P .add 3 v5 (.lit (.int .i64 3))) h6 fun v7 h8=>
 stO h.length d (
 bm (ab s.P 46 d h8) h8 fun v9 hB=>
 bm (aa s.P 23 a 1) hB fun vA hF=>
 stO h.length vA (
 bm (ab s.P 3 vA hF) hF fun vC hG=>
 bm (aA s.P .sub 3 vC (.lit (.int .i64 1))) hG fun vB hH=>
 bm (fL s.P 3 46 vB) hH fun vD hI=>
 bm (aA s.P .and 46 v9 vD) hI fun vE hJ=>
 bm (fL s.P 46 3 vE) hJ fun vI hK=>
 bm (aA s.P .add 3 v7 vI) hK fun vF hL=>
 some (vF,hL))):=kB
theorem aeX:evF Tryz.prog xM (k+1) wl 151 [a,b,d] h=ak (xX (xS k) 151 wl k false) Tryz.f151 [a,b,d] h:=by kernel_rfl
-- names: abg,
theorem Z9:ak (xX s 169 wl k false) Tryz.f169 [a,b] h =
 bm (ab s.P 46 b h) h fun v1 h2=>
 bm (aA s.P .add 46 a v1) h2 fun v3 h4=>
 some (v3,h4):=kB
theorem agR:evF Tryz.prog xM (k+1) wl 169 [a,b] h=ak (xX (xS k) 169 wl k false) Tryz.f169 [a,b] h:=by kernel_rfl
-- names: Z9,
theorem Yr:ak (xX s 191 wl k false) Tryz.f191 [a,b,d,e] h =
 bp (aQ d h) fun v1 h2=>
 bp (aQ e h2) fun v3 h4=>
 bp (some (.own h4.length 0 0,h4++[.rows 0 [] 0 true])) fun v5 h6=>
 bp (az s.P 4 h6) fun v7 h8=>
 bs (ai s.P wl 4 v7 (.lit (.bool false)) h8) fun h9=>
 bp (yC s k wl 191 false true (.fn (.func 143) [] []) [a,b,(.fn (.func 219) [] [v1,v7,v3])] h9) fun vd hy=>
 bm (ar vd 0) hy fun vw hz=>
 bm (ar vd 1) hz fun v14 ha=>
 bm (ab s.P 4 v7 ha) ha fun vx he=>
 some (.tup [vw,vx],he):=kB
theorem ado:evF Tryz.prog xM (k+1) wl 191 [a,b,d,e] h=ak (xX (xS k) 191 wl k false) Tryz.f191 [a,b,d,e] h:=by kernel_rfl
-- names: Yr,
theorem Yu:ak (xX s 219 wl k false) Tryz.f219 [a,b,d,e] h =
 bm (ab s.P 46 b h) h fun v1 h2=>
 bm (aA s.P .neq 46 a v1) h2 fun v3 h4=>
 cnd v3 (
 some (a,h4)) (
 bs (ai s.P wl 4 d (.lit (.bool true)) h4) fun h5=>
 bm (ab s.P 46 e h5) h5 fun v6 h7=>
 some (v6,h7)):=kB
theorem agD:evF Tryz.prog xM (k+1) wl 219 [a,b,d,e] h=ak (xX (xS k) 219 wl k false) Tryz.f219 [a,b,d,e] h:=by kernel_rfl
-- names: Yu,
theorem YO:ak (xX s 222 wl k false) Tryz.f222 [a,b] h =
 bm (ab s.P 46 a h) h fun v1 h2=>
 bm (aa s.P 23 b 2) h2 fun v3 h4=>
 bm (ab s.P 3 v3 h4) h4 fun v5 h6=>
 bm (fL s.P 3 46 v5) h6 fun v7 h8=>
 bm (aA s.P .rem 46 v1 v7) h8 fun v9 hB=>
 bm (fL s.P 46 3 v9) hB fun vA hF=>
 bm (aA s.P .add 3 (.lit (.int .i64 6)) vA) hF fun vC hG=>
 some (vC,hG):=kB
theorem aeC:evF Tryz.prog xM (k+1) wl 222 [a,b] h=ak (xX (xS k) 222 wl k false) Tryz.f222 [a,b] h:=by kernel_rfl
-- names: YO,
theorem aaQ:ak (xX s 223 wl k false) Tryz.f223 [a,b] h =
 bm (aa s.P 23 a 2) h fun v1 h2=>
 bm (ab s.P 3 v1 h2) h2 fun v3 h4=>
 bm (aA s.P .add 3 (.lit (.int .i64 6)) v3) h4 fun v5 h6=>
 bm (ab s.P 46 b h6) h6 fun v7 h8=>
 bm (aa s.P 23 a 2) h8 fun v9 hB=>
 bm (ab s.P 3 v9 hB) hB fun vA hF=>
 bm (fL s.P 3 46 vA) hF fun vC hG=>
 bm (aA s.P .rem 46 v7 vC) hG fun vB hH=>
 bm (fL s.P 46 3 vB) hH fun vD hI=>
 bm (aA s.P .add 3 v5 vD) hI fun vE hJ=>
 some (vE,hJ):=kB
theorem agI:evF Tryz.prog xM (k+1) wl 223 [a,b] h=ak (xX (xS k) 223 wl k false) Tryz.f223 [a,b] h:=by kernel_rfl
-- names: aaQ,
theorem Y8:ak (xX s 203 wl k false) Tryz.f203 [a,b] h =
 bp (aQ a h) fun v1 h2=>
 bp (aQ b h2) fun v3 h4=>
 bm (ab s.P 23 v1 h4) h4 fun v5 h6=>
 bp (yC s k wl 203 false true (.fn (.func 70) [] []) [v5,(.lit (.int .i64 0)),(.fn (.func 222) [] [v3,v1])] h6) fun v7 h8=>
 some (v7,h8):=kB
theorem adt:evF Tryz.prog xM (k+1) wl 203 [a,b] h=ak (xX (xS k) 203 wl k false) Tryz.f203 [a,b] h:=by kernel_rfl
-- names: Y8,
theorem acn:ak (xX s 205 wl k false) Tryz.f205 [a,b] h =
 bp (aQ a h) fun v1 h2=>
 bp (aQ b h2) fun v3 h4=>
 bm (ab s.P 23 v1 h4) h4 fun v5 h6=>
 bp (yC s k wl 205 false true (.fn (.func 70) [] []) [v5,(.lit (.int .i64 0)),(.fn (.func 223) [] [v1,v3])] h6) fun v7 h8=>
 some (v7,h8):=kB
theorem aeJ:evF Tryz.prog xM (k+1) wl 205 [a,b] h=ak (xX (xS k) 205 wl k false) Tryz.f205 [a,b] h:=by kernel_rfl
-- names: acn,
end
end Go.Ab
set_option maxRecDepth 100000
set_option linter.unusedVariables false
namespace Go.Ab
open Go.Proofs
section
variable (s:Sys) (k wl:Nat) (m0:Nat) (ac:List Nat×List Nat) (c d g l j o r q y v u B z A p D G E F J M L I N T X U W Q R Y O t4 t1 t2 t3 t0 Z:V) (h:Hp) (K:Out→St→Option (V×Hp)) (rd:Bool) (n n0:Nat) (zz:List V)
noncomputable def Is:Code:=al (an Tryz.f31) [1,0]
noncomputable def Fg:List Fr:=[.seq (al (an Tryz.f31) [1,1])]
theorem ahG:ak (xX s 31 wl k false) Tryz.f31 [c] h =
 bp (aQ c h) fun v1 h2=>
 bm (aa s.P 65 v1 0) h2 fun v3 h4=>
 bm (ab s.P 3 v3 h4) h4 fun v5 h6=>
 bm (aA s.P .eql 3 v5 (.lit (.int .i64 8))) h6 fun v7 h8=>
 gd v7 (
 bm (aa s.P 65 v1 2) h8 fun v9 hB=>
 bm (ab s.P 55 v9 hB) hB fun vA hF=>
 bp (yC s k wl 31 false true (.fn (.func 69) [] []) [vA] hF) fun vC hG=>
 yO s k wl 31 Tryz.f31 Is 7 h2.length ([],[]) Fg ⟨[c,v1,(.lit (.bool false)),v3,v5,v7,(.lit (.bool true)),v9,vA,vC,uu],hG⟩) (
 yO s k wl 31 Tryz.f31 Is 7 h2.length ([],[]) Fg ⟨[c,v1,(.lit (.bool false)),v3,v5,v7,(.lit (.bool false)),uu,uu,uu,uu],h8⟩) (
 yO s k wl 31 Tryz.f31 Is 5 h2.length ([],[]) Fg ⟨[c,v1,(.lit (.bool false)),v3,v5,v7,v7,uu,uu,uu,uu],h8⟩):=kB
theorem aiz:evF Tryz.prog xM (k+1) wl 31 [c] h=ak (xX (xS k) 31 wl k false) Tryz.f31 [c] h:=by kernel_rfl
theorem SY:yO s k wl 31 Tryz.f31 Is 7 m0 ac Fg ⟨[c,d,g,l,j,o,r,q,y,v,u],h⟩ =
 bm (aS r v (.lit (.bool false))) h fun vB hH=>
 some (vB,hH):=kG
theorem BE (cx:Cx) (s:St):aw cx K Fg .ret s=K .ret s:=by kernel_rfl
-- names: ahG,SY,BE
theorem YE:ak (xX s 106 wl k false) Tryz.f106 [c,d] h =
 bm (aA s.P .sub 46 c d) h fun v1 h2=>
 bm (fL s.P 46 3 v1) h2 fun v3 h4=>
 some (v3,h4):=kB
theorem aha:evF Tryz.prog xM (k+1) wl 106 [c,d] h=ak (xX (xS k) 106 wl k false) Tryz.f106 [c,d] h:=by kernel_rfl
-- names: YE,
noncomputable def DR:Code:=al (an Tryz.f161) [1,0,0]
noncomputable def wi:List Fr:=[.seq (al (an Tryz.f161) [1,0,1]),.seq (al (an Tryz.f161) [1,1])]
theorem aa0:ak (xX s 161 wl k false) Tryz.f161 [c,d,g] h =
 bm (aA s.P .lss 3 g (.lit (.int .i64 2))) h fun v1 h2=>
 gd v1 (
 yO s k wl 161 Tryz.f161 DR 7 h.length ([],[]) wi ⟨[c,d,g,uu,uu,uu,(.lit (.int .i64 0)),uu,g,v1,(.lit (.bool true)),uu,uu,uu,uu,uu,uu,uu,uu,uu,uu,uu,uu,uu,uu,uu,uu,uu,uu],h2⟩) (
 bp (yC s k wl 161 false true (.fn (.func 81) [] []) [d,g] h2) fun v3 h4=>
 bm (vUn .not v3) h4 fun v5 h6=>
 yO s k wl 161 Tryz.f161 DR 7 h.length ([],[]) wi ⟨[c,d,g,uu,uu,uu,(.lit (.int .i64 0)),uu,g,v1,(.lit (.bool false)),d,g,v3,v5,uu,uu,uu,uu,uu,uu,uu,uu,uu,uu,uu,uu,uu,uu],h6⟩) (
 yO s k wl 161 Tryz.f161 DR 4 h.length ([],[]) wi ⟨[c,d,g,uu,uu,uu,(.lit (.int .i64 0)),uu,g,v1,v1,uu,uu,uu,uu,uu,uu,uu,uu,uu,uu,uu,uu,uu,uu,uu,uu,uu,uu],h2⟩):=kB
theorem aey:evF Tryz.prog xM (k+1) wl 161 [c,d,g] h=ak (xX (xS k) 161 wl k false) Tryz.f161 [c,d,g] h:=by kernel_rfl
theorem Of:yO s k wl 161 Tryz.f161 DR 7 m0 ac wi ⟨[c,d,g,l,j,o,r,q,y,v,u,B,z,A,p,D,G,E,F,J,M,L,I,N,T,X,U,W,Q],h⟩ =
 bm (aS u (.lit (.bool true)) p) h fun v7 h8=>
 cnd v7 (
 some ((.lit (.int .i64 (-1))),h8)) (
 bm (fL s.P 3 46 g) h8 fun v9 hB=>
 bm (fL s.P 3 46 d) hB fun vA hF=>
 bm (aA s.P .add 46 vA (.lit (.int .u64 1))) hF fun vC hG=>
 bm (aA s.P .sub 46 v9 (.lit (.int .u64 1))) hG fun vB hH=>
 bm (aA s.P .rem 46 c vB) hH fun vD hI=>
 bm (aA s.P .add 46 vC vD) hI fun vE hJ=>
 bm (aA s.P .rem 46 vE v9) hJ fun vI hK=>
 bm (fL s.P 46 3 vI) hK fun vF hL=>
 some (vF,hL)):=kG
theorem AB (cx:Cx) (s:St):aw cx K wi .ret s=K .ret s:=by kernel_rfl
-- names: aa0,Of,AB
theorem Z6:ak (xX s 192 wl k false) Tryz.f192 [c] h =
 bm (aA s.P .and 46 c (.lit (.int .u64 65535))) h fun v1 h2=>
 some (v1,h2):=kB
theorem ag0:evF Tryz.prog xM (k+1) wl 192 [c] h=ak (xX (xS k) 192 wl k false) Tryz.f192 [c] h:=by kernel_rfl
-- names: Z6,
noncomputable def LQ:Code:=al (an Tryz.f195) [1,0,1,0]
noncomputable def HE:Code:=al (an Tryz.f195) [1,0,1,0,0]
noncomputable def Gn:Code:=al (an Tryz.f195) [1,0,1,0,1]
noncomputable def Db:List Fr:=[.block 0,.seq (al (an Tryz.f195) [1,1])]
theorem BN:LQ= .rangeFunc (.tmp 5) #[6] HE Gn:=by kernel_rfl
theorem VI:ak (xX s 195 wl k false) Tryz.f195 [c] h =
 bp (az s.P 3 h) fun v1 h2=>
 bp (yC s k wl 195 false true (.fn (.func 220) [] []) [c] h2) fun v3 h4=>
 bd (xX s 195 wl k false) LQ none (aw (xX s 195 wl k false) (av s.P Tryz.f195) Db) ⟨[c,uu,v1,uu,c,v3,uu,uu],h4⟩:=kB
theorem acf:evF Tryz.prog xM (k+1) wl 195 [c] h=ak (xX (xS k) 195 wl k false) Tryz.f195 [c] h:=by kernel_rfl
theorem Ux (P:Program):av P Tryz.f195 .ret ⟨[c,d,g,l,j,o,r,q],h⟩=ew [ab P 3 g h] h:=by kernel_rfl
theorem Hj:aw (xX s 195 wl k false) (av s.P Tryz.f195) Db .norm ⟨(c::d::g::zz),h⟩ =
 bs (ai s.P wl 3 g (.lit (.int .i64 (-1))) h) fun h5=>
 ew [ab s.P 3 g h5] h5:=kR
theorem ky:aw (xX s 195 wl k rd) K [.seq Gn] .norm ⟨[c,d,g,l,j,o,r,q],h⟩ =
 bs (ai s.P wl 3 g l h) fun h6=>
 K .ret ⟨[c,d,g,l,j,o,r,l],h6⟩:=kR
theorem kA:aw (xX s 195 wl k rd) K [.seq HE] .norm ⟨[c,d,g,l,j,o,r,q],h⟩ =
 K .norm ⟨[c,d,g,r,j,o,r,q],h⟩:=kR
theorem oF (cx:Cx) (s:St):aw cx K Db .ret s=K .ret s:=by kernel_rfl
-- names: VI,Ux,Hj,ky,kA,oF
-- range over a function at [1,0,1,0]
theorem aa3:ak (xX s 213 wl k false) Tryz.f213 [c] h =
 bm (aA s.P .shr 46 c (.lit (.int .u64 16))) h fun v1 h2=>
 some (v1,h2):=kB
theorem agl:evF Tryz.prog xM (k+1) wl 213 [c] h=ak (xX (xS k) 213 wl k false) Tryz.f213 [c] h:=by kernel_rfl
-- names: aa3,
noncomputable def DJ:Code:=al (an Tryz.f214) [1,0,0]
noncomputable def AA:List Fr:=[.seq (al (an Tryz.f214) [1,0,1]),.seq (al (an Tryz.f214) [1,1])]
theorem Yt:ak (xX s 214 wl k false) Tryz.f214 [c,d] h =
 bm (aA s.P .lss 3 d (.lit (.int .i64 0))) h fun v1 h2=>
 gd v1 (
 yO s k wl 214 Tryz.f214 DJ 5 h.length ([],[]) AA ⟨[c,d,uu,uu,(.lit (.int .u64 0)),d,v1,(.lit (.bool true)),uu,uu,uu,uu,uu,uu,uu,uu],h2⟩) (
 bm (aA s.P .geq 3 d (.lit (.int .i64 16))) h2 fun v3 h4=>
 yO s k wl 214 Tryz.f214 DJ 5 h.length ([],[]) AA ⟨[c,d,uu,uu,(.lit (.int .u64 0)),d,v1,(.lit (.bool false)),d,v3,uu,uu,uu,uu,uu,uu],h4⟩) (
 yO s k wl 214 Tryz.f214 DJ 4 h.length ([],[]) AA ⟨[c,d,uu,uu,(.lit (.int .u64 0)),d,v1,v1,uu,uu,uu,uu,uu,uu,uu,uu],h2⟩):=kB
theorem agS:evF Tryz.prog xM (k+1) wl 214 [c,d] h=ak (xX (xS k) 214 wl k false) Tryz.f214 [c,d] h:=by kernel_rfl
theorem N7:yO s k wl 214 Tryz.f214 DJ 5 m0 ac AA ⟨[c,d,g,l,j,o,r,q,y,v,u,B,z,A,p,D],h⟩ =
 bm (aS q (.lit (.bool true)) v) h fun v5 h6=>
 cnd v5 (
 some (c,h6)) (
 bm (aA s.P .shl 46 (.lit (.int .u64 1)) d) h6 fun v7 h8=>
 bm (aA s.P .or 46 c v7) h8 fun v9 hB=>
 some (v9,hB)):=kG
theorem wx (cx:Cx) (s:St):aw cx K AA .ret s=K .ret s:=by kernel_rfl
-- names: Yt,N7,wx
theorem abc:ak (xX s 216 wl k false) Tryz.f216 [c] h =
 bp (yC s k wl 216 false true (.fn (.func 192) [] []) [c] h) fun v1 h2=>
 bp (yC s k wl 216 false true (.fn (.func 213) [] []) [c] h2) fun v3 h4=>
 bm (aA s.P .add 46 v3 (.lit (.int .u64 1))) h4 fun v5 h6=>
 bm (aA s.P .sub 46 v1 (.lit (.int .u64 1))) h6 fun v7 h8=>
 bm (aA s.P .and 46 v1 v7) h8 fun v9 hB=>
 bp (yC s k wl 216 false true (.fn (.func 233) [] []) [v5,v9] hB) fun vA hF=>
 bp (yC s k wl 216 false true (.fn (.func 195) [] []) [v1] hF) fun vC hG=>
 some (.tup [vA,vC],hG):=kB
theorem afB:evF Tryz.prog xM (k+1) wl 216 [c] h=ak (xX (xS k) 216 wl k false) Tryz.f216 [c] h:=by kernel_rfl
-- names: abc,
theorem aav:ak (xX s 218 wl k false) Tryz.f218 [c] h =
 bp (yC s k wl 218 false true (.fn (.func 213) [] []) [c] h) fun v1 h2=>
 bm (aA s.P .add 46 v1 (.lit (.int .u64 1))) h2 fun v3 h4=>
 bp (yC s k wl 218 false true (.fn (.func 233) [] []) [v3,(.lit (.int .u64 0))] h4) fun v5 h6=>
 some (v5,h6):=kB
theorem afu:evF Tryz.prog xM (k+1) wl 218 [c] h=ak (xX (xS k) 218 wl k false) Tryz.f218 [c] h:=by kernel_rfl
-- names: aav,
theorem Vd:ak (xX s 220 wl k false) Tryz.f220 [c] h =
 bp (aQ c h) fun v1 h2=>
 some ((.fn (.func 234) [] [v1]),h2):=kB
theorem aaV:evF Tryz.prog xM (k+1) wl 220 [c] h=ak (xX (xS k) 220 wl k false) Tryz.f220 [c] h:=by kernel_rfl
-- names: Vd,
theorem Y9:ak (xX s 233 wl k false) Tryz.f233 [c,d] h =
 bm (aA s.P .shl 46 c (.lit (.int .u64 16))) h fun v1 h2=>
 bm (aA s.P .and 46 d (.lit (.int .u64 65535))) h2 fun v3 h4=>
 bm (aA s.P .or 46 v1 v3) h4 fun v5 h6=>
 some (v5,h6):=kB
theorem adK:evF Tryz.prog xM (k+1) wl 233 [c,d] h=ak (xX (xS k) 233 wl k false) Tryz.f233 [c,d] h:=by kernel_rfl
-- names: Y9,
noncomputable def nq:Code:=al (an Tryz.f234) [1,0,0]
noncomputable def CS:List Fr:=[.block 0]
noncomputable def C0:Code:=al (an Tryz.f234) [1,0,0,1,1,0,0,1,0]
noncomputable def AC:List Fr:=[.seq (al (an Tryz.f234) [1,0,0,1,1,0,0,1,1]),.block 1,.seq (al (an Tryz.f234) [1,0,0,1,1,1])]
theorem XA:ak (xX s 234 wl k false) Tryz.f234 [c,d] h =
 yI s k wl 234 Tryz.f234 nq h.length CS k ⟨[(V.kill h.length c),(V.kill h.length d),(V.kill h.length uu),(V.kill h.length uu),(.lit (.int .i64 0)),.junk,.junk,.junk,.junk,.junk,.junk,.junk,.junk,.junk,.junk,.junk,.junk,.junk,.junk],bR h.length h⟩:=kB
theorem ab4:evF Tryz.prog xM (k+1) wl 234 [c,d] h=ak (xX (xS k) 234 wl k false) Tryz.f234 [c,d] h:=by kernel_rfl
theorem Xd (P:Program):av P Tryz.f234 .ret ⟨[c,d,g,l,j,o,r,q,y,v,u,B,z,A,p,D,G,E,F],h⟩=some (.tup [],h):=by kernel_rfl
theorem LN:itX (xX s 234 wl k rd) nq n0 K (n+1) ⟨[c,d,g,l,j,o,r,q,y,v,u,B,z,A,p,D,G,E,F],h⟩ =
 bm (aA s.P .lss 3 j (.lit (.int .i64 16))) h fun v1 h2=>
 cnd v1 (
 bm (ab s.P 46 d h2) h2 fun v3 h4=>
 bm (aA s.P .shr 46 v3 j) h4 fun v5 h6=>
 bm (aA s.P .and 46 v5 (.lit (.int .u64 1))) h6 fun v7 h8=>
 bm (aA s.P .eql 46 v7 (.lit (.int .u64 1))) h8 fun v9 hB=>
 gd v9 (
 bp (bG (xX s 234 wl k rd) false true c [j] hB) fun vA hF=>
 bm (vUn .not vA) hF fun vC hG=>
 dK (xX s 234 wl k rd) C0 10 h2.length ([],[]) (aw (xX s 234 wl k rd) (eg (xX s 234 wl k rd) nq n0 K n) AC) ⟨[c,d,g,j,j,v1,j,v3,j,v5,v7,v9,(.lit (.bool true)),c,j,vA,vC,E,F],hG⟩) (
 dK (xX s 234 wl k rd) C0 10 h2.length ([],[]) (aw (xX s 234 wl k rd) (eg (xX s 234 wl k rd) nq n0 K n) AC) ⟨[c,d,g,j,j,v1,j,v3,j,v5,v7,v9,(.lit (.bool false)),uu,uu,uu,uu,E,F],hB⟩) (
 dK (xX s 234 wl k rd) C0 7 h2.length ([],[]) (aw (xX s 234 wl k rd) (eg (xX s 234 wl k rd) nq n0 K n) AC) ⟨[c,d,g,j,j,v1,j,v3,j,v5,v7,v9,v9,uu,p,D,G,E,F],hB⟩)) (
 K (.exit 0) ⟨[(V.kill n0 c),(V.kill n0 d),(V.kill n0 g),(V.kill n0 l),.junk,.junk,.junk,.junk,.junk,.junk,.junk,.junk,.junk,.junk,.junk,.junk,.junk,.junk,.junk],bR n0 h2⟩):=kI
theorem Gm:aw (xX s 234 wl k false) (av s.P Tryz.f234) CS (.exit 0) ⟨(c::zz),h⟩ =
 some (.tup [],h):=kR
theorem Gg:dK (xX s 234 wl k rd) C0 10 m0 ac (aw (xX s 234 wl k rd) (eg (xX s 234 wl k rd) nq n0 K n) AC) ⟨[c,d,g,l,j,o,r,q,y,v,u,B,z,A,p,D,G,E,F],h⟩ =
 bm (aS z G (.lit (.bool false))) h fun vB hH=>
 cnd vB (
 K .ret ⟨[c,d,g,l,j,o,r,q,y,v,u,B,z,A,p,D,G,vB,F],hH⟩) (
 bm (aA s.P .add 3 j (.lit (.int .i64 1))) hH fun vD hI=>
 itX (xX s 234 wl k rd) nq n0 K n ⟨[(V.kill n0 c),(V.kill n0 d),(V.kill n0 g),(V.kill n0 l),(V.kill n0 vD),.junk,.junk,.junk,.junk,.junk,.junk,.junk,.junk,.junk,.junk,.junk,.junk,.junk,.junk],bR n0 hI⟩):=kG
theorem oC (cx:Cx) (s:St):aw cx K CS .ret s=K .ret s:=by kernel_rfl
theorem oJ (cx:Cx) (s:St):aw cx K AC .ret s=K .ret s:=by kernel_rfl
-- names: XA,Xd,LN,Gm,Gg,oC,oJ
theorem acj:ak (xX s 193 wl k false) Tryz.f193 [c,d,g] h =
 bp (aQ c h) fun v1 h2=>
 bp (az s.P 55 h2) fun v3 h4=>
 bm (aa s.P 55 v1 0) h4 fun v5 h6=>
 bm (ab s.P 3 v5 h6) h6 fun v7 h8=>
 bm (aa s.P 55 v1 2) h8 fun v9 hB=>
 bm (ab s.P 3 v9 hB) hB fun vA hF=>
 bm (be s.P 55 [(0,v7),(2,vA),(3,g),(6,d)]) hF fun vC hG=>
 bs (ai s.P wl 55 v3 vC hG) fun ha=>
 ew [ab s.P 55 v3 ha] ha:=kB
theorem aew:evF Tryz.prog xM (k+1) wl 193 [c,d,g] h=ak (xX (xS k) 193 wl k false) Tryz.f193 [c,d,g] h:=by kernel_rfl
-- names: acj,
end
end Go.Ab
set_option maxRecDepth 100000
set_option linter.unusedVariables false
namespace Go.Ab
open Go.Proofs
section
variable (s:Sys) (k wl:Nat) (m0:Nat) (ac:List Nat×List Nat) (a b d e j f g l u v o q r y x E z F A B G D I J L M T O U Q N R Y t0 Z X W t5 t6 t7 t8 t9 ta tb tc td te tf t2 tg t3 t4 t1 tk ti th tl tm tn tp tq tr ts tt tu tv tw tx ty tz tA tj:V) (h:Hp) (K:Out→St→Option (V×Hp)) (rd:Bool) (n n0:Nat) (zz:List V)
noncomputable def cz:Code:=al (an Tryz.f42) [1,0]
noncomputable def ct:List Fr:=[.seq (al (an Tryz.f42) [1,1])]
theorem ah0:ak (xX s 42 wl k false) Tryz.f42 [a,b,d] h =
 bp (aQ a h) fun v1 h2=>
 bm (aa s.P 48 v1 0) h2 fun v3 h4=>
 bm (ab s.P 3 v3 h4) h4 fun v5 h6=>
 bm (aA s.P .eql 3 v5 (.lit (.int .i64 0))) h6 fun v7 h8=>
 gd v7 (
 bm (aa s.P 48 v1 1) h8 fun v9 hB=>
 bm (ab s.P 3 v9 hB) hB fun vA hF=>
 bp (yC s k wl 42 false true (.fn (.func 81) [] []) [vA,b] hF) fun vC hG=>
 yO s k wl 42 Tryz.f42 cz 8 h2.length ([],[]) ct ⟨[a,b,d,v1,uu,uu,(.lit (.bool false)),v3,v5,v7,(.lit (.bool true)),v9,vA,b,vC,uu,uu,uu,uu,uu,uu,uu,uu,uu,uu,uu,uu,uu,uu,uu,uu,uu,uu,uu,uu,uu,uu],hG⟩) (
 yO s k wl 42 Tryz.f42 cz 8 h2.length ([],[]) ct ⟨[a,b,d,v1,uu,uu,(.lit (.bool false)),v3,v5,v7,(.lit (.bool false)),uu,uu,uu,uu,uu,uu,uu,uu,uu,uu,uu,uu,uu,uu,uu,uu,uu,uu,uu,uu,uu,uu,uu,uu,uu,uu],h8⟩) (
 yO s k wl 42 Tryz.f42 cz 5 h2.length ([],[]) ct ⟨[a,b,d,v1,uu,uu,(.lit (.bool false)),v3,v5,v7,v7,uu,uu,uu,uu,uu,uu,uu,uu,uu,uu,uu,uu,uu,uu,uu,uu,uu,uu,uu,uu,uu,uu,uu,uu,uu,uu],h8⟩):=kB
theorem ah7:evF Tryz.prog xM (k+1) wl 42 [a,b,d] h=ak (xX (xS k) 42 wl k false) Tryz.f42 [a,b,d] h:=by kernel_rfl
theorem SF:yO s k wl 42 Tryz.f42 cz 8 m0 ac ct ⟨(a::b::d::e::j::f::g::l::u::v::o::q::r::y::x::E::z::F::A::B::G::D::I::J::L::M::zz),h⟩ =
 bm (aS o x (.lit (.bool false))) h fun vB hH=>
 gd vB (
 yO s k wl 42 Tryz.f42 cz 19 m0 ac ct ⟨(a::b::d::e::j::f::g::l::u::v::o::q::r::y::x::vB::(.lit (.bool true))::uu::uu::uu::uu::uu::uu::uu::uu::uu::zz),hH⟩) (
 bm (aa s.P 48 e 0) hH fun vD hI=>
 bm (ab s.P 3 vD hI) hI fun vE hJ=>
 bm (aA s.P .eql 3 vE (.lit (.int .i64 1))) hJ fun vI hK=>
 yO s k wl 42 Tryz.f42 cz 14 m0 ac ct ⟨(a::b::d::e::j::f::g::l::u::v::o::q::r::y::x::vB::(.lit (.bool false))::vD::vE::vI::vI::D::I::J::L::M::zz),hK⟩) (
 yO s k wl 42 Tryz.f42 cz 11 m0 ac ct ⟨(a::b::d::e::j::f::g::l::u::v::o::q::r::y::x::vB::vB::uu::A::B::G::D::I::J::L::M::zz),hH⟩):=kG
theorem TF:yO s k wl 42 Tryz.f42 cz 19 m0 ac ct ⟨[a,b,d,e,j,f,g,l,u,v,o,q,r,y,x,E,z,F,A,B,G,D,I,J,L,M,T,O,U,Q,N,R,Y,t0,Z,X,W],h⟩ =
 bm (aS z (.lit (.bool true)) M) h fun vF hL=>
 gd vF (
 yO s k wl 42 Tryz.f42 cz 24 m0 ac ct ⟨[a,b,d,e,j,f,g,l,u,v,o,q,r,y,x,E,z,F,A,B,G,D,I,J,L,M,vF,(.lit (.bool true)),uu,uu,uu,R,Y,t0,Z,X,W],hL⟩) (
 bm (aa s.P 48 e 0) hL fun vQ hR=>
 bm (ab s.P 3 vQ hR) hR fun vR hX=>
 bm (aA s.P .eql 3 vR (.lit (.int .i64 2))) hX fun vX hY=>
 yO s k wl 42 Tryz.f42 cz 24 m0 ac ct ⟨[a,b,d,e,j,f,g,l,u,v,o,q,r,y,x,E,z,F,A,B,G,D,I,J,L,M,vF,(.lit (.bool false)),vQ,vR,vX,R,Y,t0,Z,X,W],hY⟩) (
 yO s k wl 42 Tryz.f42 cz 22 m0 ac ct ⟨[a,b,d,e,j,f,g,l,u,v,o,q,r,y,x,E,z,F,A,B,G,D,I,J,L,M,vF,vF,uu,Q,N,R,Y,t0,Z,X,W],hL⟩):=kG
theorem TT:yO s k wl 42 Tryz.f42 cz 14 m0 ac ct ⟨(a::b::d::e::j::f::g::l::u::v::o::q::r::y::x::E::z::F::A::B::G::D::I::J::L::zz),h⟩ =
 gd G (
 bm (aa s.P 48 e 1) h fun vK hM=>
 bm (ab s.P 3 vK hM) hM fun vS hU=>
 bp (yC s k wl 42 false true (.fn (.func 81) [] []) [vS,d] hU) fun vO hZ=>
 yO s k wl 42 Tryz.f42 cz 18 m0 ac ct ⟨(a::b::d::e::j::f::g::l::u::v::o::q::r::y::x::E::z::F::A::B::(.lit (.bool true))::vK::vS::d::vO::zz),hZ⟩) (
 yO s k wl 42 Tryz.f42 cz 18 m0 ac ct ⟨(a::b::d::e::j::f::g::l::u::v::o::q::r::y::x::E::z::F::A::B::(.lit (.bool false))::uu::uu::uu::uu::zz),h⟩) (
 yO s k wl 42 Tryz.f42 cz 15 m0 ac ct ⟨(a::b::d::e::j::f::g::l::u::v::o::q::r::y::x::E::z::F::A::B::G::uu::I::J::L::zz),h⟩):=kG
theorem Tb:yO s k wl 42 Tryz.f42 cz 24 m0 ac ct ⟨[a,b,d,e,j,f,g,l,u,v,o,q,r,y,x,E,z,F,A,B,G,D,I,J,L,M,T,O,U,Q,N,R,Y,t0,Z,X,W],h⟩ =
 bm (aS O (.lit (.bool true)) N) h fun vM hS=>
 gd vM (
 yO s k wl 42 Tryz.f42 cz 29 m0 ac ct ⟨[a,b,d,e,j,f,g,l,u,v,o,q,r,y,x,E,z,F,A,B,G,D,I,J,L,M,T,O,U,Q,N,vM,(.lit (.bool true)),uu,uu,uu,W],hS⟩) (
 bm (aa s.P 48 e 0) hS fun vH hN=>
 bm (ab s.P 3 vH hN) hN fun vL hP=>
 bm (aA s.P .eql 3 vL (.lit (.int .i64 3))) hP fun vN hA=>
 yO s k wl 42 Tryz.f42 cz 29 m0 ac ct ⟨[a,b,d,e,j,f,g,l,u,v,o,q,r,y,x,E,z,F,A,B,G,D,I,J,L,M,T,O,U,Q,N,vM,(.lit (.bool false)),vH,vL,vN,W],hA⟩) (
 yO s k wl 42 Tryz.f42 cz 27 m0 ac ct ⟨[a,b,d,e,j,f,g,l,u,v,o,q,r,y,x,E,z,F,A,B,G,D,I,J,L,M,T,O,U,Q,N,vM,vM,uu,Z,X,W],hS⟩):=kG
theorem Ul:yO s k wl 42 Tryz.f42 cz 18 m0 ac ct ⟨(a::b::d::e::j::f::g::l::u::v::o::q::r::y::x::E::z::F::A::B::G::D::I::J::L::M::zz),h⟩ =
 gd z (
 yO s k wl 42 Tryz.f42 cz 19 m0 ac ct ⟨(a::b::d::e::j::f::g::l::u::v::o::q::r::y::x::E::(.lit (.bool true))::F::A::B::G::D::I::J::L::uu::zz),h⟩) (
 bm (aS G L (.lit (.bool false))) h fun vJ hQ=>
 yO s k wl 42 Tryz.f42 cz 19 m0 ac ct ⟨(a::b::d::e::j::f::g::l::u::v::o::q::r::y::x::E::(.lit (.bool false))::F::A::B::G::D::I::J::L::vJ::zz),hQ⟩) (
 yO s k wl 42 Tryz.f42 cz 19 m0 ac ct ⟨(a::b::d::e::j::f::g::l::u::v::o::q::r::y::x::E::z::F::A::B::G::D::I::J::L::uu::zz),h⟩):=kG
theorem TY:yO s k wl 42 Tryz.f42 cz 15 m0 ac ct ⟨(a::b::d::e::j::f::g::l::u::v::o::q::r::y::x::E::z::F::A::B::G::D::I::J::L::zz),h⟩ =
 gd G (
 bm (ab s.P 3 D h) h fun vG hO=>
 bp (yC s k wl 42 false true (.fn (.func 81) [] []) [vG,d] hO) fun vP hT=>
 yO s k wl 42 Tryz.f42 cz 18 m0 ac ct ⟨(a::b::d::e::j::f::g::l::u::v::o::q::r::y::x::E::z::F::A::B::(.lit (.bool true))::D::vG::d::vP::zz),hT⟩) (
 yO s k wl 42 Tryz.f42 cz 18 m0 ac ct ⟨(a::b::d::e::j::f::g::l::u::v::o::q::r::y::x::E::z::F::A::B::(.lit (.bool false))::D::uu::uu::uu::zz),h⟩) (
 yO s k wl 42 Tryz.f42 cz 16 m0 ac ct ⟨(a::b::d::e::j::f::g::l::u::v::o::q::r::y::x::E::z::F::A::B::G::D::uu::J::L::zz),h⟩):=kG
theorem To:yO s k wl 42 Tryz.f42 cz 29 m0 ac ct ⟨[a,b,d,e,j,f,g,l,u,v,o,q,r,y,x,E,z,F,A,B,G,D,I,J,L,M,T,O,U,Q,N,R,Y,t0,Z,X,W],h⟩ =
 bm (aS Y (.lit (.bool true)) X) h fun vV hV=>
 some (vV,hV):=kG
theorem T5:yO s k wl 42 Tryz.f42 cz 16 m0 ac ct ⟨(a::b::d::e::j::f::g::l::u::v::o::q::r::y::x::E::z::F::A::B::G::D::I::J::L::zz),h⟩ =
 gd G (
 bp (yC s k wl 42 false true (.fn (.func 81) [] []) [I,d] h) fun vW hb=>
 yO s k wl 42 Tryz.f42 cz 18 m0 ac ct ⟨(a::b::d::e::j::f::g::l::u::v::o::q::r::y::x::E::z::F::A::B::(.lit (.bool true))::D::I::d::vW::zz),hb⟩) (
 yO s k wl 42 Tryz.f42 cz 18 m0 ac ct ⟨(a::b::d::e::j::f::g::l::u::v::o::q::r::y::x::E::z::F::A::B::(.lit (.bool false))::D::I::uu::uu::zz),h⟩) (
 yO s k wl 42 Tryz.f42 cz 17 m0 ac ct ⟨(a::b::d::e::j::f::g::l::u::v::o::q::r::y::x::E::z::F::A::B::G::D::I::uu::L::zz),h⟩):=kG
theorem Tc:yO s k wl 42 Tryz.f42 cz 17 m0 ac ct ⟨(a::b::d::e::j::f::g::l::u::v::o::q::r::y::x::E::z::F::A::B::G::D::I::J::L::zz),h⟩ =
 gd G (
 bp (yC s k wl 42 false true (.fn (.func 81) [] []) [I,J] h) fun vY hc=>
 yO s k wl 42 Tryz.f42 cz 18 m0 ac ct ⟨(a::b::d::e::j::f::g::l::u::v::o::q::r::y::x::E::z::F::A::B::(.lit (.bool true))::D::I::J::vY::zz),hc⟩) (
 yO s k wl 42 Tryz.f42 cz 18 m0 ac ct ⟨(a::b::d::e::j::f::g::l::u::v::o::q::r::y::x::E::z::F::A::B::(.lit (.bool false))::D::I::J::uu::zz),h⟩) (
 yO s k wl 42 Tryz.f42 cz 18 m0 ac ct ⟨(a::b::d::e::j::f::g::l::u::v::o::q::r::y::x::E::z::F::A::B::G::D::I::J::uu::zz),h⟩):=kG
theorem Bo (cx:Cx) (s:St):aw cx K ct .ret s=K .ret s:=by kernel_rfl
-- names: ah0,SF,TF,TT,Tb,Ul,TY,To,T5,Tc,Bo
noncomputable def Jg:Code:=al (an Tryz.f59) [1,1,0,1,0,0]
noncomputable def IA:List Fr:=[.block 0,.seq (al (an Tryz.f59) [1,1,1])]
theorem afZ:ak (xX s 59 wl k false) Tryz.f59 [a] h =
 bp (aQ a h) fun v1 h2=>
 bp (some (.own h2.length 0 0,h2++[.rows 0 [] 0 true])) fun v3 h4=>
 bp (some (.own h4.length 0 0,h4++[.rows 0 [] 0 true])) fun v5 h6=>
 bm (ab s.P 23 v1 h6) h6 fun v7 h8=>
 bp (yC s k wl 59 false true (.fn (.func 103) [] []) [v7] h8) fun v9 hB=>
 yI s k wl 59 Tryz.f59 Jg hB.length IA k ⟨[(V.kill hB.length a),(V.kill hB.length v1),(V.kill hB.length v3),(V.kill hB.length v5),(V.kill hB.length v7),(V.kill hB.length v9),(.lit (.int .i64 0)),.junk,.junk,.junk,.junk,.junk,(V.kill hB.length uu)],bR hB.length hB⟩:=kB
theorem ahm:evF Tryz.prog xM (k+1) wl 59 [a] h=ak (xX (xS k) 59 wl k false) Tryz.f59 [a] h:=by kernel_rfl
theorem aex (P:Program):av P Tryz.f59 .ret ⟨[a,b,d,e,j,f,g,l,u,v,o,q,r],h⟩=some (d,h):=by kernel_rfl
theorem Tz:itX (xX s 59 wl k rd) Jg n0 K (n+1) ⟨[a,b,d,e,j,f,g,l,u,v,o,q,r],h⟩ =
 bm (aA s.P .lss 3 g f) h fun vA hF=>
 cnd vA (
 bp (aF s.P wl 26 1 [(0,(.lit (.int .u64 0)))] hF) fun vC hG=>
 bp (kS s.P wl 26 26 e vC hG) fun vB hH=>
 bm (aA s.P .add 3 g (.lit (.int .i64 1))) hH fun vD hI=>
 itX (xX s 59 wl k rd) Jg n0 K n ⟨[(V.kill n0 a),(V.kill n0 b),(V.kill n0 d),(V.kill n0 vB),(V.kill n0 j),(V.kill n0 f),(V.kill n0 vD),.junk,.junk,.junk,.junk,.junk,(V.kill n0 r)],bR n0 hI⟩) (
 K (.exit 0) ⟨[(V.kill n0 a),(V.kill n0 b),(V.kill n0 d),(V.kill n0 e),(V.kill n0 j),(V.kill n0 f),.junk,.junk,.junk,.junk,.junk,.junk,(V.kill n0 r)],bR n0 hF⟩):=kI
theorem Nn:aw (xX s 59 wl k false) (av s.P Tryz.f59) IA (.exit 0) ⟨[a,b,d,e,j,f,g,l,u,v,o,q,r],h⟩ =
 some (e,h):=kR
theorem rY (cx:Cx) (s:St):aw cx K IA .ret s=K .ret s:=by kernel_rfl
-- names: afZ,aex,Tz,Nn,rY
theorem ahR:ak (xX s 60 wl k false) Tryz.f60 [a] h =
 bp (az s.P 65 h) fun v1 h2=>
 bp (yC s k wl 60 false true (.fn (.func 104) [] []) [(.lit (.int .i64 1)),a,(.lit (.int .u64 0))] h2) fun v3 h4=>
 bm (be s.P 65 [(2,v3)]) h4 fun v5 h6=>
 bs (ai s.P wl 65 v1 v5 h6) fun h7=>
 ew [ab s.P 65 v1 h7] h7:=kB
theorem ah3:evF Tryz.prog xM (k+1) wl 60 [a] h=ak (xX (xS k) 60 wl k false) Tryz.f60 [a] h:=by kernel_rfl
-- names: ahR,
theorem aho:ak (xX s 64 wl k false) Tryz.f64 [a,b] h =
 bp (aQ a h) fun v1 h2=>
 bm (ab s.P 23 v1 h2) h2 fun v3 h4=>
 bp (yC s k wl 64 false true (.fn (.func 105) [] []) [v3,b] h4) fun v5 h6=>
 bm (vUn .not v5) h6 fun v7 h8=>
 cnd v7 (
 some ((.lit (.int .i64 (-1))),h8)) (
 bp (yC s k wl 64 false true (.fn (.func 27) [] []) [b,(.lit (.int .i64 5))] h8) fun v9 hB=>
 bp (yC s k wl 64 false true (.fn (.func 27) [] []) [b,(.lit (.int .i64 4))] hB) fun vA hF=>
 bp (yC s k wl 64 false true (.fn (.func 106) [] []) [v9,vA] hF) fun vC hG=>
 some (vC,hG)):=kB
theorem aih:evF Tryz.prog xM (k+1) wl 64 [a,b] h=ak (xX (xS k) 64 wl k false) Tryz.f64 [a,b] h:=by kernel_rfl
-- names: aho,
noncomputable def mK:Code:=al (an Tryz.f65) [1,0,0]
noncomputable def lV:List Fr:=[.seq (al (an Tryz.f65) [1,0,1]),.seq (al (an Tryz.f65) [1,1])]
noncomputable def H3:Code:=al (an Tryz.f65) [1,1,1,1,0,0]
noncomputable def Et:List Fr:=[.seq (al (an Tryz.f65) [1,1,1,1,0,1]),.seq (al (an Tryz.f65) [1,1,1,1,1])]
noncomputable def Jh:Code:=al (an Tryz.f65) [1,1,1,1,1,1,0,1,0,0]
noncomputable def JC:List Fr:=[.block 0,.seq (al (an Tryz.f65) [1,1,1,1,1,1,1])]
theorem af8:ak (xX s 65 wl k false) Tryz.f65 [a,b,d] h =
 bp (aQ a h) fun v1 h2=>
 bp (some (.own h2.length 0 0,h2++[.rows 0 [] 0 true])) fun v3 h4=>
 bm (ab s.P 23 v1 h4) h4 fun v5 h6=>
 bp (yC s k wl 65 false true (.fn (.func 50) [] []) [v5] h6) fun v7 h8=>
 bm (vUn .not v7) h8 fun v9 hB=>
 gd v9 (
 yO s k wl 65 Tryz.f65 mK 9 h4.length ([],[]) lV ⟨(a::b::d::v1::uu::uu::v3::(.lit (.bool false))::uu::uu::uu::uu::uu::v5::v7::v9::(.lit (.bool true))::uu::uu::uu::uu::uu::uu::uu::uu::uu::uu::uu::uu::uu::uu::uu::uu::uu::uu::uu::uu::uu::uu::uu::uu::uu::uu::uu::uu::uu::uu::uu::uu::uu::uu::uu::uu::uu::uu::uu::uu::uu::uu::uu::uu::uu::uu::uu::uu::uu::uu::uu::uu::uu::uu::uu::[]),hB⟩) (
 bp (bh s.P 26 b hB) fun vA hF=>
 bm (ab s.P 23 v1 hF) hF fun vC hG=>
 bp (yC s k wl 65 false true (.fn (.func 103) [] []) [vC] hG) fun vB hH=>
 bm (aA s.P .neq 3 vA vB) hH fun vD hI=>
 yO s k wl 65 Tryz.f65 mK 9 h4.length ([],[]) lV ⟨(a::b::d::v1::uu::uu::v3::(.lit (.bool false))::uu::uu::uu::uu::uu::v5::v7::v9::(.lit (.bool false))::b::vA::vC::vB::vD::uu::uu::uu::uu::uu::uu::uu::uu::uu::uu::uu::uu::uu::uu::uu::uu::uu::uu::uu::uu::uu::uu::uu::uu::uu::uu::uu::uu::uu::uu::uu::uu::uu::uu::uu::uu::uu::uu::uu::uu::uu::uu::uu::uu::uu::uu::uu::uu::uu::uu::[]),hI⟩) (
 yO s k wl 65 Tryz.f65 mK 5 h4.length ([],[]) lV ⟨(a::b::d::v1::uu::uu::v3::(.lit (.bool false))::uu::uu::uu::uu::uu::v5::v7::v9::v9::uu::uu::uu::uu::uu::uu::uu::uu::uu::uu::uu::uu::uu::uu::uu::uu::uu::uu::uu::uu::uu::uu::uu::uu::uu::uu::uu::uu::uu::uu::uu::uu::uu::uu::uu::uu::uu::uu::uu::uu::uu::uu::uu::uu::uu::uu::uu::uu::uu::uu::uu::uu::uu::uu::uu::[]),hB⟩):=kB
theorem ahO:evF Tryz.prog xM (k+1) wl 65 [a,b,d] h=ak (xX (xS k) 65 wl k false) Tryz.f65 [a,b,d] h:=by kernel_rfl
theorem afK (P:Program):av P Tryz.f65 .ret ⟨(a::b::d::e::j::f::g::l::u::v::o::q::r::y::x::E::z::F::A::B::G::D::I::J::L::M::T::O::U::Q::N::R::Y::t0::Z::X::W::t5::t6::t7::t8::t9::ta::tb::tc::td::te::tf::t2::tg::t3::t4::t1::tk::ti::th::tl::tm::tn::tp::tq::tr::ts::tt::tu::tv::tw::tx::ty::tz::tA::tj::[]),h⟩=some (.tup [g,l],h):=by kernel_rfl
theorem Lf:yO s k wl 65 Tryz.f65 mK 9 m0 ac lV ⟨(a::b::d::e::j::f::g::l::u::v::o::q::r::y::x::E::z::F::A::B::G::D::I::J::L::M::zz),h⟩ =
 bm (aS z (.lit (.bool true)) D) h fun vE hJ=>
 gd vE (
 yO s k wl 65 Tryz.f65 mK 13 m0 ac lV ⟨(a::b::d::e::j::f::g::l::u::v::o::q::r::y::x::E::z::F::A::B::G::D::vE::(.lit (.bool true))::uu::uu::zz),hJ⟩) (
 bm (aA s.P .lss 3 d (.lit (.int .i64 0))) hJ fun vI hK=>
 yO s k wl 65 Tryz.f65 mK 13 m0 ac lV ⟨(a::b::d::e::j::f::g::l::u::v::o::q::r::y::x::E::z::F::A::B::G::D::vE::(.lit (.bool false))::d::vI::zz),hK⟩) (
 yO s k wl 65 Tryz.f65 mK 12 m0 ac lV ⟨(a::b::d::e::j::f::g::l::u::v::o::q::r::y::x::E::z::F::A::B::G::D::vE::vE::uu::M::zz),hJ⟩):=kG
theorem K7:yO s k wl 65 Tryz.f65 mK 13 m0 ac lV ⟨(a::b::d::e::j::f::g::l::u::v::o::q::r::y::x::E::z::F::A::B::G::D::I::J::L::M::T::O::U::Q::N::R::zz),h⟩ =
 bm (aS J (.lit (.bool true)) M) h fun vF hL=>
 gd vF (
 yO s k wl 65 Tryz.f65 mK 19 m0 ac lV ⟨(a::b::d::e::j::f::g::l::u::v::o::q::r::y::x::E::z::F::A::B::G::D::I::J::L::M::vF::(.lit (.bool true))::uu::uu::uu::uu::zz),hL⟩) (
 bm (aa s.P 23 e 0) hL fun vQ hR=>
 bm (ab s.P 3 vQ hR) hR fun vR hX=>
 bm (aA s.P .geq 3 d vR) hX fun vX hY=>
 yO s k wl 65 Tryz.f65 mK 19 m0 ac lV ⟨(a::b::d::e::j::f::g::l::u::v::o::q::r::y::x::E::z::F::A::B::G::D::I::J::L::M::vF::(.lit (.bool false))::d::vQ::vR::vX::zz),hY⟩) (
 yO s k wl 65 Tryz.f65 mK 16 m0 ac lV ⟨(a::b::d::e::j::f::g::l::u::v::o::q::r::y::x::E::z::F::A::B::G::D::I::J::L::M::vF::vF::uu::Q::N::R::zz),hL⟩):=kG
theorem LA:yO s k wl 65 Tryz.f65 mK 19 m0 ac lV ⟨(a::b::d::e::j::f::g::l::u::v::o::q::r::y::x::E::z::F::A::B::G::D::I::J::L::M::T::O::U::Q::N::R::Y::t0::Z::X::W::t5::t6::t7::t8::t9::ta::tb::tc::td::te::tf::t2::tg::t3::t4::t1::zz),h⟩ =
 bm (aS O (.lit (.bool true)) R) h fun vK hM=>
 cnd vK (
 bp (some (.own hM.length 0 0,hM++[.rows 0 [] 0 true])) fun vS hU=>
 some (.tup [vS,(.lit (.bool false))],hU)) (
 bm (ab s.P 23 e hM) hM fun vO hZ=>
 bp (yC s k wl 65 true true (.fn (.func 107) [] []) [vO,d] hZ) fun vM hS=>
 bp (yC s k wl 65 true true (.fn (.func 27) [] []) [b,vM] hS) fun vH hN=>
 stO hM.length e (
 bm (ab s.P 23 e hN) hN fun vL hP=>
 bp (yC s k wl 65 false true (.fn (.func 108) [] []) [vL,d] hP) fun vN hA=>
 bp (yC s k wl 65 false true (.fn (.func 27) [] []) [b,vN] hA) fun vJ hQ=>
 bp (yC s k wl 65 false true (.fn (.func 106) [] []) [vJ,vH] hQ) fun vG hO=>
 bm (aA s.P .lss 3 vG (.lit (.int .i64 0))) hO fun vP hT=>
 gd vP (
 yO s k wl 65 Tryz.f65 H3 7 hO.length ([],[]) Et ⟨(a::b::d::e::j::f::g::l::vH::vJ::vG::q::r::y::x::E::z::F::A::B::G::D::I::J::L::M::T::O::U::Q::N::R::vK::b::vO::d::vM::vH::b::vL::d::vN::vJ::vJ::vH::vG::vG::vP::(.lit (.bool true))::uu::uu::uu::uu::zz),hT⟩) (
 bm (aa s.P 23 e 1) hT fun vV hV=>
 bm (ab s.P 3 vV hV) hV fun vW hb=>
 bm (aA s.P .gtr 3 vG vW) hb fun vY hc=>
 yO s k wl 65 Tryz.f65 H3 7 hO.length ([],[]) Et ⟨(a::b::d::e::j::f::g::l::vH::vJ::vG::q::r::y::x::E::z::F::A::B::G::D::I::J::L::M::T::O::U::Q::N::R::vK::b::vO::d::vM::vH::b::vL::d::vN::vJ::vJ::vH::vG::vG::vP::(.lit (.bool false))::vG::vV::vW::vY::zz),hc⟩) (
 yO s k wl 65 Tryz.f65 H3 4 hO.length ([],[]) Et ⟨(a::b::d::e::j::f::g::l::vH::vJ::vG::q::r::y::x::E::z::F::A::B::G::D::I::J::L::M::T::O::U::Q::N::R::vK::b::vO::d::vM::vH::b::vL::d::vN::vJ::vJ::vH::vG::vG::vP::vP::uu::t3::t4::t1::zz),hT⟩))):=kG
theorem MP:yO s k wl 65 Tryz.f65 H3 7 m0 ac Et ⟨(a::b::d::e::j::f::g::l::u::v::o::q::r::y::x::E::z::F::A::B::G::D::I::J::L::M::T::O::U::Q::N::R::Y::t0::Z::X::W::t5::t6::t7::t8::t9::ta::tb::tc::td::te::tf::t2::tg::t3::t4::t1::tk::ti::th::tl::tm::tn::tp::tq::tr::ts::tt::tu::tv::tw::tx::ty::tz::tA::tj::[]),h⟩ =
 bm (aS t2 (.lit (.bool true)) t1) h fun vZ hW=>
 cnd vZ (
 bp (some (.own hW.length 0 0,hW++[.rows 0 [] 0 true])) fun vy h60=>
 some (.tup [vy,(.lit (.bool false))],h60)) (
 bp (some (.own hW.length 0 0,hW++[.rows 0 [] 0 true])) fun vz hD=>
 yI s k wl 65 Tryz.f65 Jh hD.length JC k ⟨((V.kill hD.length a)::(V.kill hD.length b)::(V.kill hD.length d)::(V.kill hD.length e)::(V.kill hD.length j)::(V.kill hD.length f)::(V.kill hD.length g)::(V.kill hD.length l)::(V.kill hD.length u)::(V.kill hD.length v)::(V.kill hD.length o)::(V.kill hD.length vz)::(V.kill hD.length r)::(V.kill hD.length y)::(V.kill hD.length x)::(V.kill hD.length E)::(V.kill hD.length z)::(V.kill hD.length F)::(V.kill hD.length A)::(V.kill hD.length B)::(V.kill hD.length G)::(V.kill hD.length D)::(V.kill hD.length I)::(V.kill hD.length J)::(V.kill hD.length L)::(V.kill hD.length M)::(V.kill hD.length T)::(V.kill hD.length O)::(V.kill hD.length U)::(V.kill hD.length Q)::(V.kill hD.length N)::(V.kill hD.length R)::(V.kill hD.length Y)::(V.kill hD.length t0)::(V.kill hD.length Z)::(V.kill hD.length X)::(V.kill hD.length W)::(V.kill hD.length t5)::(V.kill hD.length t6)::(V.kill hD.length t7)::(V.kill hD.length t8)::(V.kill hD.length t9)::(V.kill hD.length ta)::(V.kill hD.length tb)::(V.kill hD.length tc)::(V.kill hD.length td)::(V.kill hD.length te)::(V.kill hD.length tf)::(V.kill hD.length t2)::(V.kill hD.length tg)::(V.kill hD.length t3)::(V.kill hD.length t4)::(V.kill hD.length t1)::(V.kill hD.length vZ)::(V.kill hD.length o)::(.lit (.int .i64 0))::.junk::.junk::.junk::.junk::.junk::.junk::.junk::.junk::.junk::.junk::.junk::.junk::.junk::.junk::.junk::(V.kill hD.length tj)::[]),bR hD.length hD⟩):=kG
theorem TX:itX (xX s 65 wl k rd) Jh n0 K (n+1) ⟨(a::b::d::e::j::f::g::l::u::v::o::q::r::y::x::E::z::F::A::B::G::D::I::J::L::M::T::O::U::Q::N::R::Y::t0::Z::X::W::t5::t6::t7::t8::t9::ta::tb::tc::td::te::tf::t2::tg::t3::t4::t1::tk::ti::th::tl::tm::tn::tp::tq::tr::ts::tt::tu::tv::tw::tx::ty::tz::tA::tj::[]),h⟩ =
 bm (aA s.P .lss 3 th ti) h fun v63 hh=>
 cnd v63 (
 bm (ab s.P 23 e hh) hh fun v65 h66=>
 bm (fL s.P 3 46 th) h66 fun v67 h68=>
 bm (aA s.P .add 46 u v67) h68 fun v69 h70=>
 bp (bG (xX s 65 wl k rd) false true (.fn (.func 109) [] []) [v65,d,v69] h70) fun v71 h72=>
 bp (bG (xX s 65 wl k rd) false true (.fn (.func 27) [] []) [b,v71] h72) fun v73 hf=>
 bp (aF s.P wl 25 1 [(0,v73)] hf) fun va hd=>
 bp (kS s.P wl 25 25 q va hd) fun vb hg=>
 bm (aA s.P .add 3 th (.lit (.int .i64 1))) hg fun vT hi=>
 itX (xX s 65 wl k rd) Jh n0 K n ⟨((V.kill n0 a)::(V.kill n0 b)::(V.kill n0 d)::(V.kill n0 e)::(V.kill n0 j)::(V.kill n0 f)::(V.kill n0 g)::(V.kill n0 l)::(V.kill n0 u)::(V.kill n0 v)::(V.kill n0 o)::(V.kill n0 vb)::(V.kill n0 th)::(V.kill n0 y)::(V.kill n0 x)::(V.kill n0 E)::(V.kill n0 z)::(V.kill n0 F)::(V.kill n0 A)::(V.kill n0 B)::(V.kill n0 G)::(V.kill n0 D)::(V.kill n0 I)::(V.kill n0 J)::(V.kill n0 L)::(V.kill n0 M)::(V.kill n0 T)::(V.kill n0 O)::(V.kill n0 U)::(V.kill n0 Q)::(V.kill n0 N)::(V.kill n0 R)::(V.kill n0 Y)::(V.kill n0 t0)::(V.kill n0 Z)::(V.kill n0 X)::(V.kill n0 W)::(V.kill n0 t5)::(V.kill n0 t6)::(V.kill n0 t7)::(V.kill n0 t8)::(V.kill n0 t9)::(V.kill n0 ta)::(V.kill n0 tb)::(V.kill n0 tc)::(V.kill n0 td)::(V.kill n0 te)::(V.kill n0 tf)::(V.kill n0 t2)::(V.kill n0 tg)::(V.kill n0 t3)::(V.kill n0 t4)::(V.kill n0 t1)::(V.kill n0 tk)::(V.kill n0 ti)::(V.kill n0 vT)::.junk::.junk::.junk::.junk::.junk::.junk::.junk::.junk::.junk::.junk::.junk::.junk::.junk::.junk::.junk::(V.kill n0 tj)::[]),bR n0 hi⟩) (
 K (.exit 0) ⟨((V.kill n0 a)::(V.kill n0 b)::(V.kill n0 d)::(V.kill n0 e)::(V.kill n0 j)::(V.kill n0 f)::(V.kill n0 g)::(V.kill n0 l)::(V.kill n0 u)::(V.kill n0 v)::(V.kill n0 o)::(V.kill n0 q)::(V.kill n0 r)::(V.kill n0 y)::(V.kill n0 x)::(V.kill n0 E)::(V.kill n0 z)::(V.kill n0 F)::(V.kill n0 A)::(V.kill n0 B)::(V.kill n0 G)::(V.kill n0 D)::(V.kill n0 I)::(V.kill n0 J)::(V.kill n0 L)::(V.kill n0 M)::(V.kill n0 T)::(V.kill n0 O)::(V.kill n0 U)::(V.kill n0 Q)::(V.kill n0 N)::(V.kill n0 R)::(V.kill n0 Y)::(V.kill n0 t0)::(V.kill n0 Z)::(V.kill n0 X)::(V.kill n0 W)::(V.kill n0 t5)::(V.kill n0 t6)::(V.kill n0 t7)::(V.kill n0 t8)::(V.kill n0 t9)::(V.kill n0 ta)::(V.kill n0 tb)::(V.kill n0 tc)::(V.kill n0 td)::(V.kill n0 te)::(V.kill n0 tf)::(V.kill n0 t2)::(V.kill n0 tg)::(V.kill n0 t3)::(V.kill n0 t4)::(V.kill n0 t1)::(V.kill n0 tk)::(V.kill n0 ti)::.junk::.junk::.junk::.junk::.junk::.junk::.junk::.junk::.junk::.junk::.junk::.junk::.junk::.junk::.junk::.junk::(V.kill n0 tj)::[]),bR n0 hh⟩):=kI
theorem LW:aw (xX s 65 wl k false) (av s.P Tryz.f65) JC (.exit 0) ⟨(a::b::d::e::j::f::g::l::u::v::o::q::r::y::x::E::z::F::A::B::G::D::I::J::L::M::T::O::U::Q::N::R::Y::t0::Z::X::W::t5::t6::t7::t8::t9::ta::tb::tc::td::te::tf::t2::tg::t3::t4::t1::tk::ti::th::tl::tm::tn::tp::tq::tr::ts::tt::tu::tv::tw::tx::ty::tz::tA::tj::[]),h⟩ =
 some (.tup [q,(.lit (.bool true))],h):=kR
theorem rv (cx:Cx) (s:St):aw cx K lV .ret s=K .ret s:=by kernel_rfl
theorem rB (cx:Cx) (s:St):aw cx K Et .ret s=K .ret s:=by kernel_rfl
theorem rO (cx:Cx) (s:St):aw cx K JC .ret s=K .ret s:=by kernel_rfl
-- names: af8,afK,Lf,K7,LA,MP,TX,LW,rv,rB,rO
noncomputable def I7:Code:=al (an Tryz.f81) [1,0]
noncomputable def Ff:List Fr:=[.seq (al (an Tryz.f81) [1,1])]
theorem ahb:ak (xX s 81 wl k false) Tryz.f81 [a,b] h =
 bm (aA s.P .geq 3 a (.lit (.int .i64 0))) h fun v1 h2=>
 gd v1 (
 bm (aA s.P .lss 3 a b) h2 fun v3 h4=>
 yO s k wl 81 Tryz.f81 I7 6 h.length ([],[]) Ff ⟨[a,b,uu,uu,(.lit (.bool false)),a,v1,(.lit (.bool true)),a,b,v3,uu],h4⟩) (
 yO s k wl 81 Tryz.f81 I7 6 h.length ([],[]) Ff ⟨[a,b,uu,uu,(.lit (.bool false)),a,v1,(.lit (.bool false)),uu,uu,uu,uu],h2⟩) (
 yO s k wl 81 Tryz.f81 I7 4 h.length ([],[]) Ff ⟨[a,b,uu,uu,(.lit (.bool false)),a,v1,v1,uu,uu,uu,uu],h2⟩):=kB
theorem aiu:evF Tryz.prog xM (k+1) wl 81 [a,b] h=ak (xX (xS k) 81 wl k false) Tryz.f81 [a,b] h:=by kernel_rfl
theorem Ti:yO s k wl 81 Tryz.f81 I7 6 m0 ac Ff ⟨[a,b,d,e,j,f,g,l,u,v,o,q],h⟩ =
 bm (aS l o (.lit (.bool false))) h fun v5 h6=>
 some (v5,h6):=kG
theorem BZ (cx:Cx) (s:St):aw cx K Ff .ret s=K .ret s:=by kernel_rfl
-- names: ahb,Ti,BZ
end
end Go.Ab
set_option maxRecDepth 100000
set_option linter.unusedVariables false
namespace Go.Ab
open Go.Proofs
section
variable (s:Sys) (k wl:Nat) (m0:Nat) (ac:List Nat×List Nat) (d a b f u v e x j g I y z A L M B D E o F G q Q N R O J t1 U t2 t3 t4 t5 t6 t7 t8 t9 ta W T tb tc td te tf tg th ti tj tk X Y Z tx ty tz tl tm tn tG tH tI tJ tK tL tM tN tO tA tB tC tD tE tF tp tq tr ts tt tu tv tw t0:V) (h:Hp) (K:Out→St→Option (V×Hp)) (rd:Bool) (n n0:Nat) (zz:List V)
noncomputable def uz:Code:=al (an Tryz.f23) [1,0,0]
noncomputable def pR:List Fr:=[.seq (al (an Tryz.f23) [1,0,1]),.seq (al (an Tryz.f23) [1,1])]
noncomputable def Ja:Code:=al (an Tryz.f23) [1,1,1,1,0,1,0,0]
noncomputable def H9:List Fr:=[.block 0,.seq (al (an Tryz.f23) [1,1,1,1,1])]
noncomputable def ug:Code:=al (an Tryz.f23) [1,1,1,1,1,0,1,0,0]
noncomputable def Bw:List Fr:=[.block 2,.seq (al (an Tryz.f23) [1,1,1,1,1,1])]
noncomputable def IM:Code:=al (an Tryz.f23) [1,1,1,1,1,0,1,0,0,1,1,0,0,1,0,1,0,0]
noncomputable def HU:List Fr:=[.block 4,.seq (al (an Tryz.f23) [1,1,1,1,1,0,1,0,0,1,1,0,0,1,1]),.block 3,.seq (al (an Tryz.f23) [1,1,1,1,1,0,1,0,0,1,1,1])]
theorem Yi:ak (xX s 23 wl k false) Tryz.f23 [d,a,b] h =
 bp (aQ d h) fun v1 h2=>
 bp (az s.P 30 h2) fun v3 h4=>
 bm (ab s.P 23 v1 h4) h4 fun v5 h6=>
 bp (yC s k wl 23 false true (.fn (.func 50) [] []) [v5] h6) fun v7 h8=>
 bm (vUn .not v7) h8 fun v9 hB=>
 gd v9 (
 yO s k wl 23 Tryz.f23 uz 7 h4.length ([],[]) pR ⟨(d::a::b::v1::uu::uu::v3::(.lit (.bool false))::uu::uu::uu::uu::uu::uu::uu::uu::v5::v7::v9::(.lit (.bool true))::uu::uu::uu::uu::uu::uu::uu::uu::uu::uu::uu::uu::uu::uu::uu::uu::uu::uu::uu::uu::uu::uu::uu::uu::uu::uu::uu::uu::uu::uu::uu::uu::uu::uu::uu::uu::uu::uu::uu::uu::uu::uu::uu::uu::uu::uu::uu::uu::uu::uu::uu::uu::uu::uu::uu::uu::uu::uu::uu::uu::uu::uu::uu::uu::[]),hB⟩) (
 bp (yC s k wl 23 false true (.fn (.func 56) [] []) [a] hB) fun vA hF=>
 bm (vUn .not vA) hF fun vC hG=>
 yO s k wl 23 Tryz.f23 uz 7 h4.length ([],[]) pR ⟨(d::a::b::v1::uu::uu::v3::(.lit (.bool false))::uu::uu::uu::uu::uu::uu::uu::uu::v5::v7::v9::(.lit (.bool false))::a::vA::vC::uu::uu::uu::uu::uu::uu::uu::uu::uu::uu::uu::uu::uu::uu::uu::uu::uu::uu::uu::uu::uu::uu::uu::uu::uu::uu::uu::uu::uu::uu::uu::uu::uu::uu::uu::uu::uu::uu::uu::uu::uu::uu::uu::uu::uu::uu::uu::uu::uu::uu::uu::uu::uu::uu::uu::uu::uu::uu::uu::uu::uu::[]),hG⟩) (
 yO s k wl 23 Tryz.f23 uz 5 h4.length ([],[]) pR ⟨(d::a::b::v1::uu::uu::v3::(.lit (.bool false))::uu::uu::uu::uu::uu::uu::uu::uu::v5::v7::v9::v9::uu::uu::uu::uu::uu::uu::uu::uu::uu::uu::uu::uu::uu::uu::uu::uu::uu::uu::uu::uu::uu::uu::uu::uu::uu::uu::uu::uu::uu::uu::uu::uu::uu::uu::uu::uu::uu::uu::uu::uu::uu::uu::uu::uu::uu::uu::uu::uu::uu::uu::uu::uu::uu::uu::uu::uu::uu::uu::uu::uu::uu::uu::uu::uu::[]),hB⟩):=kB
theorem ab7:evF Tryz.prog xM (k+1) wl 23 [d,a,b] h=ak (xX (xS k) 23 wl k false) Tryz.f23 [d,a,b] h:=by kernel_rfl
theorem Yl (P:Program):av P Tryz.f23 .ret ⟨(d::a::b::f::u::v::e::x::j::g::I::y::z::A::L::M::B::D::E::o::F::G::q::Q::N::R::O::J::t1::U::t2::t3::t4::t5::t6::t7::t8::t9::ta::W::T::tb::tc::td::te::tf::tg::th::ti::tj::tk::X::Y::Z::tx::ty::tz::tl::tm::tn::tG::tH::tI::tJ::tK::tL::tM::tN::tO::tA::tB::tC::tD::tE::tF::tp::tq::tr::ts::tt::tu::tv::tw::t0::[]),h⟩=ew [ab P 30 e h,some x] h:=by kernel_rfl
theorem Bq:yO s k wl 23 Tryz.f23 uz 7 m0 ac pR ⟨(d::a::b::f::u::v::e::x::j::g::I::y::z::A::L::M::B::D::E::o::F::G::q::Q::N::R::O::J::zz),h⟩ =
 bm (aS o (.lit (.bool true)) q) h fun vB hH=>
 gd vB (
 yO s k wl 23 Tryz.f23 uz 12 m0 ac pR ⟨(d::a::b::f::u::v::e::x::j::g::I::y::z::A::L::M::B::D::E::o::F::G::q::vB::(.lit (.bool true))::uu::uu::uu::zz),hH⟩) (
 bp (bh s.P 40 b hH) fun vD hI=>
 bm (aA s.P .gtr 3 vD (.lit (.int .i64 3))) hI fun vE hJ=>
 yO s k wl 23 Tryz.f23 uz 12 m0 ac pR ⟨(d::a::b::f::u::v::e::x::j::g::I::y::z::A::L::M::B::D::E::o::F::G::q::vB::(.lit (.bool false))::b::vD::vE::zz),hJ⟩) (
 yO s k wl 23 Tryz.f23 uz 10 m0 ac pR ⟨(d::a::b::f::u::v::e::x::j::g::I::y::z::A::L::M::B::D::E::o::F::G::q::vB::vB::uu::O::J::zz),hH⟩):=kG
theorem Ca:yO s k wl 23 Tryz.f23 uz 12 m0 ac pR ⟨(d::a::b::f::u::v::e::x::j::g::I::y::z::A::L::M::B::D::E::o::F::G::q::Q::N::R::O::J::t1::U::t2::t3::t4::t5::t6::t7::t8::t9::ta::W::T::tb::tc::td::te::tf::tg::th::ti::tj::tk::X::Y::Z::tx::ty::tz::tl::tm::tn::tG::tH::tI::tJ::tK::tL::tM::tN::tO::tA::tB::tC::tD::tE::tF::tp::tq::tr::ts::tt::tu::tv::tw::t0::[]),h⟩ =
 bm (aS N (.lit (.bool true)) J) h fun vI hK=>
 cnd vI (
 bm (be s.P 30 []) hK fun vF hL=>
 bs (ai s.P wl 30 e vF hL) fun hm=>
 ew [ab s.P 30 e hm,some (.lit (.bool false))] hm) (
 bp (yC s k wl 23 false true (.fn (.func 57) [] []) [a] hK) fun ve hj=>
 bp (az s.P 30 hj) fun vf hn=>
 stO hj.length f (
 bm (ab s.P 23 f hn) hn fun vg h31=>
 bp (yC s k wl 23 true true (.fn (.func 58) [] []) [a] h31) fun vh ho=>
 stO hj.length f (
 bm (ab s.P 23 f ho) ho fun vi h35=>
 bp (yC s k wl 23 true true (.fn (.func 59) [] []) [vi] h35) fun vj h37=>
 bm (be s.P 30 [(0,vg),(1,vh),(2,vj)]) h37 fun vk h39=>
 bs (ai s.P wl 30 vf vk h39) fun hN=>
 bm (aa s.P 23 f 0) hN fun vL hP=>
 bm (ab s.P 3 vL hP) hP fun vN hA=>
 yI s k wl 23 Tryz.f23 Ja hA.length H9 k ⟨((V.kill hA.length d)::(V.kill hA.length a)::(V.kill hA.length b)::(V.kill hA.length f)::(V.kill hA.length u)::(V.kill hA.length v)::(V.kill hA.length e)::(V.kill hA.length x)::(V.kill hA.length ve)::(V.kill hA.length vf)::(V.kill hA.length I)::(V.kill hA.length y)::(V.kill hA.length z)::(V.kill hA.length A)::(V.kill hA.length L)::(V.kill hA.length M)::(V.kill hA.length B)::(V.kill hA.length D)::(V.kill hA.length E)::(V.kill hA.length o)::(V.kill hA.length F)::(V.kill hA.length G)::(V.kill hA.length q)::(V.kill hA.length Q)::(V.kill hA.length N)::(V.kill hA.length R)::(V.kill hA.length O)::(V.kill hA.length J)::(V.kill hA.length vI)::(V.kill hA.length U)::(V.kill hA.length a)::(V.kill hA.length ve)::(V.kill hA.length vg)::(V.kill hA.length a)::(V.kill hA.length vh)::(V.kill hA.length vi)::(V.kill hA.length vj)::(V.kill hA.length vk)::(V.kill hA.length vL)::(V.kill hA.length vN)::(.lit (.int .i64 0))::.junk::.junk::.junk::.junk::.junk::.junk::.junk::.junk::.junk::.junk::(V.kill hA.length X)::(V.kill hA.length Y)::(V.kill hA.length Z)::(V.kill hA.length tx)::(V.kill hA.length ty)::(V.kill hA.length tz)::(V.kill hA.length tl)::(V.kill hA.length tm)::(V.kill hA.length tn)::(V.kill hA.length tG)::(V.kill hA.length tH)::(V.kill hA.length tI)::(V.kill hA.length tJ)::(V.kill hA.length tK)::(V.kill hA.length tL)::(V.kill hA.length tM)::(V.kill hA.length tN)::(V.kill hA.length tO)::(V.kill hA.length tA)::(V.kill hA.length tB)::(V.kill hA.length tC)::(V.kill hA.length tD)::(V.kill hA.length tE)::(V.kill hA.length tF)::(V.kill hA.length tp)::(V.kill hA.length tq)::(V.kill hA.length tr)::(V.kill hA.length ts)::(V.kill hA.length tt)::(V.kill hA.length tu)::(V.kill hA.length tv)::(V.kill hA.length tw)::(V.kill hA.length t0)::[]),bR hA.length hA⟩))):=kG
theorem Uc:itX (xX s 23 wl k rd) Ja n0 K (n+1) ⟨(d::a::b::f::u::v::e::x::j::g::I::y::z::A::L::M::B::D::E::o::F::G::q::Q::N::R::O::J::t1::U::t2::t3::t4::t5::t6::t7::t8::t9::ta::W::T::tb::tc::td::te::tf::tg::th::ti::tj::tk::X::Y::Z::tx::ty::tz::tl::tm::tn::tG::tH::tI::tJ::tK::tL::tM::tN::tO::tA::tB::tC::tD::tE::tF::tp::tq::tr::ts::tt::tu::tv::tw::t0::[]),h⟩ =
 bm (aA s.P .lss 3 T W) h fun vJ hQ=>
 cnd vJ (
 bm (aa s.P 30 g 3) hQ fun vG hO=>
 stO hQ.length vG (
 bm (ab s.P 27 vG hO) hO fun vP hT=>
 bp (bG (xX s 23 wl k rd) true true (.fn (.func 60) [] []) [T] hT) fun vV hV=>
 bp (cZ s.P wl 27 1 [(0,vV)] hV) fun vW hb=>
 bp (kS s.P wl 27 27 vP vW hb) fun vY hc=>
 bm (aa s.P 30 g 3) hc fun vZ hW=>
 bs (ai s.P wl 27 vZ vY hW) fun h59=>
 bm (aA s.P .add 3 T (.lit (.int .i64 1))) h59 fun v60 h61=>
 itX (xX s 23 wl k rd) Ja n0 K n ⟨((V.kill n0 d)::(V.kill n0 a)::(V.kill n0 b)::(V.kill n0 f)::(V.kill n0 u)::(V.kill n0 v)::(V.kill n0 e)::(V.kill n0 x)::(V.kill n0 j)::(V.kill n0 g)::(V.kill n0 T)::(V.kill n0 y)::(V.kill n0 z)::(V.kill n0 A)::(V.kill n0 L)::(V.kill n0 M)::(V.kill n0 B)::(V.kill n0 D)::(V.kill n0 E)::(V.kill n0 o)::(V.kill n0 F)::(V.kill n0 G)::(V.kill n0 q)::(V.kill n0 Q)::(V.kill n0 N)::(V.kill n0 R)::(V.kill n0 O)::(V.kill n0 J)::(V.kill n0 t1)::(V.kill n0 U)::(V.kill n0 t2)::(V.kill n0 t3)::(V.kill n0 t4)::(V.kill n0 t5)::(V.kill n0 t6)::(V.kill n0 t7)::(V.kill n0 t8)::(V.kill n0 t9)::(V.kill n0 ta)::(V.kill n0 W)::(V.kill n0 v60)::.junk::.junk::.junk::.junk::.junk::.junk::.junk::.junk::.junk::.junk::(V.kill n0 X)::(V.kill n0 Y)::(V.kill n0 Z)::(V.kill n0 tx)::(V.kill n0 ty)::(V.kill n0 tz)::(V.kill n0 tl)::(V.kill n0 tm)::(V.kill n0 tn)::(V.kill n0 tG)::(V.kill n0 tH)::(V.kill n0 tI)::(V.kill n0 tJ)::(V.kill n0 tK)::(V.kill n0 tL)::(V.kill n0 tM)::(V.kill n0 tN)::(V.kill n0 tO)::(V.kill n0 tA)::(V.kill n0 tB)::(V.kill n0 tC)::(V.kill n0 tD)::(V.kill n0 tE)::(V.kill n0 tF)::(V.kill n0 tp)::(V.kill n0 tq)::(V.kill n0 tr)::(V.kill n0 ts)::(V.kill n0 tt)::(V.kill n0 tu)::(V.kill n0 tv)::(V.kill n0 tw)::(V.kill n0 t0)::[]),bR n0 h61⟩)) (
 K (.exit 0) ⟨((V.kill n0 d)::(V.kill n0 a)::(V.kill n0 b)::(V.kill n0 f)::(V.kill n0 u)::(V.kill n0 v)::(V.kill n0 e)::(V.kill n0 x)::(V.kill n0 j)::(V.kill n0 g)::(V.kill n0 I)::(V.kill n0 y)::(V.kill n0 z)::(V.kill n0 A)::(V.kill n0 L)::(V.kill n0 M)::(V.kill n0 B)::(V.kill n0 D)::(V.kill n0 E)::(V.kill n0 o)::(V.kill n0 F)::(V.kill n0 G)::(V.kill n0 q)::(V.kill n0 Q)::(V.kill n0 N)::(V.kill n0 R)::(V.kill n0 O)::(V.kill n0 J)::(V.kill n0 t1)::(V.kill n0 U)::(V.kill n0 t2)::(V.kill n0 t3)::(V.kill n0 t4)::(V.kill n0 t5)::(V.kill n0 t6)::(V.kill n0 t7)::(V.kill n0 t8)::(V.kill n0 t9)::(V.kill n0 ta)::(V.kill n0 W)::.junk::.junk::.junk::.junk::.junk::.junk::.junk::.junk::.junk::.junk::.junk::(V.kill n0 X)::(V.kill n0 Y)::(V.kill n0 Z)::(V.kill n0 tx)::(V.kill n0 ty)::(V.kill n0 tz)::(V.kill n0 tl)::(V.kill n0 tm)::(V.kill n0 tn)::(V.kill n0 tG)::(V.kill n0 tH)::(V.kill n0 tI)::(V.kill n0 tJ)::(V.kill n0 tK)::(V.kill n0 tL)::(V.kill n0 tM)::(V.kill n0 tN)::(V.kill n0 tO)::(V.kill n0 tA)::(V.kill n0 tB)::(V.kill n0 tC)::(V.kill n0 tD)::(V.kill n0 tE)::(V.kill n0 tF)::(V.kill n0 tp)::(V.kill n0 tq)::(V.kill n0 tr)::(V.kill n0 ts)::(V.kill n0 tt)::(V.kill n0 tu)::(V.kill n0 tv)::(V.kill n0 tw)::(V.kill n0 t0)::[]),bR n0 hQ⟩):=kI
theorem BH:aw (xX s 23 wl k false) (av s.P Tryz.f23) H9 (.exit 0) ⟨(d::a::b::f::u::v::e::x::j::g::I::y::z::A::L::M::B::D::E::o::F::G::q::Q::N::R::O::J::t1::U::t2::t3::t4::t5::t6::t7::t8::t9::ta::W::T::tb::tc::td::te::tf::tg::th::ti::tj::tk::X::Y::Z::tx::ty::tz::tl::tm::tn::tG::tH::tI::tJ::tK::tL::tM::tN::tO::tA::tB::tC::tD::tE::tF::tp::tq::tr::ts::tt::tu::tv::tw::t0::[]),h⟩ =
 bp (bh s.P 40 b h) fun v62 hE=>
 yI s k wl 23 Tryz.f23 ug hE.length Bw k ⟨((V.kill hE.length d)::(V.kill hE.length a)::(V.kill hE.length b)::(V.kill hE.length f)::(V.kill hE.length u)::(V.kill hE.length v)::(V.kill hE.length e)::(V.kill hE.length x)::(V.kill hE.length j)::(V.kill hE.length g)::(V.kill hE.length I)::(V.kill hE.length y)::(V.kill hE.length z)::(V.kill hE.length A)::(V.kill hE.length L)::(V.kill hE.length M)::(V.kill hE.length B)::(V.kill hE.length D)::(V.kill hE.length E)::(V.kill hE.length o)::(V.kill hE.length F)::(V.kill hE.length G)::(V.kill hE.length q)::(V.kill hE.length Q)::(V.kill hE.length N)::(V.kill hE.length R)::(V.kill hE.length O)::(V.kill hE.length J)::(V.kill hE.length t1)::(V.kill hE.length U)::(V.kill hE.length t2)::(V.kill hE.length t3)::(V.kill hE.length t4)::(V.kill hE.length t5)::(V.kill hE.length t6)::(V.kill hE.length t7)::(V.kill hE.length t8)::(V.kill hE.length t9)::(V.kill hE.length ta)::(V.kill hE.length W)::(V.kill hE.length T)::(V.kill hE.length tb)::(V.kill hE.length tc)::(V.kill hE.length td)::(V.kill hE.length te)::(V.kill hE.length tf)::(V.kill hE.length tg)::(V.kill hE.length th)::(V.kill hE.length ti)::(V.kill hE.length tj)::(V.kill hE.length tk)::(V.kill hE.length b)::(V.kill hE.length v62)::(.lit (.int .i64 0))::.junk::.junk::.junk::.junk::.junk::.junk::.junk::.junk::.junk::.junk::.junk::.junk::.junk::.junk::.junk::.junk::.junk::.junk::.junk::.junk::.junk::.junk::.junk::.junk::.junk::.junk::.junk::.junk::.junk::(V.kill hE.length t0)::[]),bR hE.length hE⟩:=kR
theorem T9:itX (xX s 23 wl k rd) ug n0 K (n+1) ⟨(d::a::b::f::u::v::e::x::j::g::I::y::z::A::L::M::B::D::E::o::F::G::q::Q::N::R::O::J::t1::U::t2::t3::t4::t5::t6::t7::t8::t9::ta::W::T::tb::tc::td::te::tf::tg::th::ti::tj::tk::X::Y::Z::tx::ty::tz::tl::tm::tn::tG::tH::tI::tJ::tK::tL::tM::tN::tO::tA::tB::tC::tD::tE::tF::tp::tq::tr::ts::tt::tu::tv::tw::t0::[]),h⟩ =
 bm (aA s.P .lss 3 Z Y) h fun vl hk=>
 cnd vl (
 bm (am s.P 40 X Z hk) hk fun vm hp=>
 bm (ab s.P 53 vm hp) hp fun vc h69=>
 bp (bh s.P 53 vc h69) fun v70 hC=>
 itX (xX s 23 wl k rd) IM hC.length (aw (xX s 23 wl k rd) (eg (xX s 23 wl k rd) ug n0 K n) HU) k ⟨((V.kill hC.length d)::(V.kill hC.length a)::(V.kill hC.length b)::(V.kill hC.length f)::(V.kill hC.length u)::(V.kill hC.length v)::(V.kill hC.length e)::(V.kill hC.length x)::(V.kill hC.length j)::(V.kill hC.length g)::(V.kill hC.length I)::(V.kill hC.length y)::(V.kill hC.length vc)::(V.kill hC.length A)::(V.kill hC.length L)::(V.kill hC.length M)::(V.kill hC.length B)::(V.kill hC.length D)::(V.kill hC.length E)::(V.kill hC.length o)::(V.kill hC.length F)::(V.kill hC.length G)::(V.kill hC.length q)::(V.kill hC.length Q)::(V.kill hC.length N)::(V.kill hC.length R)::(V.kill hC.length O)::(V.kill hC.length J)::(V.kill hC.length t1)::(V.kill hC.length U)::(V.kill hC.length t2)::(V.kill hC.length t3)::(V.kill hC.length t4)::(V.kill hC.length t5)::(V.kill hC.length t6)::(V.kill hC.length t7)::(V.kill hC.length t8)::(V.kill hC.length t9)::(V.kill hC.length ta)::(V.kill hC.length W)::(V.kill hC.length T)::(V.kill hC.length tb)::(V.kill hC.length tc)::(V.kill hC.length td)::(V.kill hC.length te)::(V.kill hC.length tf)::(V.kill hC.length tg)::(V.kill hC.length th)::(V.kill hC.length ti)::(V.kill hC.length tj)::(V.kill hC.length tk)::(V.kill hC.length X)::(V.kill hC.length Y)::(V.kill hC.length Z)::(V.kill hC.length vl)::(V.kill hC.length vm)::(V.kill hC.length vc)::(V.kill hC.length vc)::(V.kill hC.length v70)::(.lit (.int .i64 0))::.junk::.junk::.junk::.junk::.junk::.junk::.junk::.junk::.junk::.junk::.junk::.junk::.junk::.junk::.junk::(V.kill hC.length tp)::(V.kill hC.length tq)::(V.kill hC.length tr)::(V.kill hC.length ts)::(V.kill hC.length tt)::(V.kill hC.length tu)::(V.kill hC.length tv)::(V.kill hC.length tw)::(V.kill hC.length t0)::[]),bR hC.length hC⟩) (
 K (.exit 2) ⟨((V.kill n0 d)::(V.kill n0 a)::(V.kill n0 b)::(V.kill n0 f)::(V.kill n0 u)::(V.kill n0 v)::(V.kill n0 e)::(V.kill n0 x)::(V.kill n0 j)::(V.kill n0 g)::(V.kill n0 I)::(V.kill n0 y)::(V.kill n0 z)::(V.kill n0 A)::(V.kill n0 L)::(V.kill n0 M)::(V.kill n0 B)::(V.kill n0 D)::(V.kill n0 E)::(V.kill n0 o)::(V.kill n0 F)::(V.kill n0 G)::(V.kill n0 q)::(V.kill n0 Q)::(V.kill n0 N)::(V.kill n0 R)::(V.kill n0 O)::(V.kill n0 J)::(V.kill n0 t1)::(V.kill n0 U)::(V.kill n0 t2)::(V.kill n0 t3)::(V.kill n0 t4)::(V.kill n0 t5)::(V.kill n0 t6)::(V.kill n0 t7)::(V.kill n0 t8)::(V.kill n0 t9)::(V.kill n0 ta)::(V.kill n0 W)::(V.kill n0 T)::(V.kill n0 tb)::(V.kill n0 tc)::(V.kill n0 td)::(V.kill n0 te)::(V.kill n0 tf)::(V.kill n0 tg)::(V.kill n0 th)::(V.kill n0 ti)::(V.kill n0 tj)::(V.kill n0 tk)::(V.kill n0 X)::(V.kill n0 Y)::.junk::.junk::.junk::.junk::.junk::.junk::.junk::.junk::.junk::.junk::.junk::.junk::.junk::.junk::.junk::.junk::.junk::.junk::.junk::.junk::.junk::.junk::.junk::.junk::.junk::.junk::.junk::.junk::.junk::.junk::(V.kill n0 t0)::[]),bR n0 hk⟩):=kI
theorem Cf:aw (xX s 23 wl k false) (av s.P Tryz.f23) Bw (.exit 2) ⟨(d::a::b::f::u::v::e::x::j::g::I::y::z::A::L::M::B::D::E::o::F::G::q::Q::N::R::O::J::t1::U::t2::t3::t4::t5::t6::t7::t8::t9::ta::W::T::tb::tc::td::te::tf::tg::th::ti::tj::tk::X::Y::Z::tx::ty::tz::tl::tm::tn::tG::tH::tI::tJ::tK::tL::tM::tN::tO::tA::tB::tC::tD::tE::tF::tp::tq::tr::ts::tt::tu::tv::tw::t0::[]),h⟩ =
 bm (ab s.P 30 g h) h fun v72 h73=>
 bs (ai s.P wl 30 e v72 h73) fun hf=>
 ew [ab s.P 30 e hf,some (.lit (.bool true))] hf:=kR
theorem SS:itX (xX s 23 wl k rd) IM n0 K (n+1) ⟨(d::a::b::f::u::v::e::x::j::g::I::y::z::A::L::M::B::D::E::o::F::G::q::Q::N::R::O::J::t1::U::t2::t3::t4::t5::t6::t7::t8::t9::ta::W::T::tb::tc::td::te::tf::tg::th::ti::tj::tk::X::Y::Z::tx::ty::tz::tl::tm::tn::tG::tH::tI::tJ::tK::tL::tM::tN::tO::tA::tB::tC::tD::tE::tF::tp::tq::tr::ts::tt::tu::tv::tw::t0::[]),h⟩ =
 bm (aA s.P .lss 3 tn tm) h fun va hd=>
 cnd va (
 bm (am s.P 53 tl tn hd) hd fun vb hg=>
 bm (ab s.P 3 vb hg) hg fun vT hi=>
 bp (bG (xX s 23 wl k rd) false true (.fn (.func 61) [] []) [j,vT] hi) fun vU h82=>
 bm (aA s.P .lss 3 vU (.lit (.int .i64 0))) h82 fun vn hq=>
 cnd vn (
 bm (be s.P 30 []) hq fun vo h86=>
 bs (ai s.P wl 30 e vo h86) fun h87=>
 K .ret ⟨(d::a::b::f::u::v::e::(.lit (.bool false))::j::g::I::y::z::A::vT::vU::B::D::E::o::F::G::q::Q::N::R::O::J::t1::U::t2::t3::t4::t5::t6::t7::t8::t9::ta::W::T::tb::tc::td::te::tf::tg::th::ti::tj::tk::X::Y::Z::tx::ty::tz::tl::tm::tn::va::vb::vT::j::vT::vU::vU::vn::vo::tA::tB::tC::tD::tE::tF::tp::tq::tr::ts::tt::tu::tv::tw::t0::[]),h87⟩) (
 bm (aA s.P .add 3 vU (.lit (.int .i64 1))) hq fun v88 h89=>
 bp (bG (xX s 23 wl k rd) false true (.fn (.func 62) [] []) [j,vU,v88] h89) fun v90 h91=>
 bm (aA s.P .add 3 tn (.lit (.int .i64 1))) h91 fun v92 h93=>
 itX (xX s 23 wl k rd) IM n0 K n ⟨((V.kill n0 d)::(V.kill n0 a)::(V.kill n0 b)::(V.kill n0 f)::(V.kill n0 u)::(V.kill n0 v)::(V.kill n0 e)::(V.kill n0 x)::(V.kill n0 v90)::(V.kill n0 g)::(V.kill n0 I)::(V.kill n0 y)::(V.kill n0 z)::(V.kill n0 A)::(V.kill n0 vT)::(V.kill n0 vU)::(V.kill n0 B)::(V.kill n0 D)::(V.kill n0 E)::(V.kill n0 o)::(V.kill n0 F)::(V.kill n0 G)::(V.kill n0 q)::(V.kill n0 Q)::(V.kill n0 N)::(V.kill n0 R)::(V.kill n0 O)::(V.kill n0 J)::(V.kill n0 t1)::(V.kill n0 U)::(V.kill n0 t2)::(V.kill n0 t3)::(V.kill n0 t4)::(V.kill n0 t5)::(V.kill n0 t6)::(V.kill n0 t7)::(V.kill n0 t8)::(V.kill n0 t9)::(V.kill n0 ta)::(V.kill n0 W)::(V.kill n0 T)::(V.kill n0 tb)::(V.kill n0 tc)::(V.kill n0 td)::(V.kill n0 te)::(V.kill n0 tf)::(V.kill n0 tg)::(V.kill n0 th)::(V.kill n0 ti)::(V.kill n0 tj)::(V.kill n0 tk)::(V.kill n0 X)::(V.kill n0 Y)::(V.kill n0 Z)::(V.kill n0 tx)::(V.kill n0 ty)::(V.kill n0 tz)::(V.kill n0 tl)::(V.kill n0 tm)::(V.kill n0 v92)::.junk::.junk::.junk::.junk::.junk::.junk::.junk::.junk::.junk::.junk::.junk::.junk::.junk::.junk::.junk::(V.kill n0 tp)::(V.kill n0 tq)::(V.kill n0 tr)::(V.kill n0 ts)::(V.kill n0 tt)::(V.kill n0 tu)::(V.kill n0 tv)::(V.kill n0 tw)::(V.kill n0 t0)::[]),bR n0 h93⟩)) (
 K (.exit 4) ⟨((V.kill n0 d)::(V.kill n0 a)::(V.kill n0 b)::(V.kill n0 f)::(V.kill n0 u)::(V.kill n0 v)::(V.kill n0 e)::(V.kill n0 x)::(V.kill n0 j)::(V.kill n0 g)::(V.kill n0 I)::(V.kill n0 y)::(V.kill n0 z)::(V.kill n0 A)::(V.kill n0 L)::(V.kill n0 M)::(V.kill n0 B)::(V.kill n0 D)::(V.kill n0 E)::(V.kill n0 o)::(V.kill n0 F)::(V.kill n0 G)::(V.kill n0 q)::(V.kill n0 Q)::(V.kill n0 N)::(V.kill n0 R)::(V.kill n0 O)::(V.kill n0 J)::(V.kill n0 t1)::(V.kill n0 U)::(V.kill n0 t2)::(V.kill n0 t3)::(V.kill n0 t4)::(V.kill n0 t5)::(V.kill n0 t6)::(V.kill n0 t7)::(V.kill n0 t8)::(V.kill n0 t9)::(V.kill n0 ta)::(V.kill n0 W)::(V.kill n0 T)::(V.kill n0 tb)::(V.kill n0 tc)::(V.kill n0 td)::(V.kill n0 te)::(V.kill n0 tf)::(V.kill n0 tg)::(V.kill n0 th)::(V.kill n0 ti)::(V.kill n0 tj)::(V.kill n0 tk)::(V.kill n0 X)::(V.kill n0 Y)::(V.kill n0 Z)::(V.kill n0 tx)::(V.kill n0 ty)::(V.kill n0 tz)::(V.kill n0 tl)::(V.kill n0 tm)::.junk::.junk::.junk::.junk::.junk::.junk::.junk::.junk::.junk::.junk::.junk::.junk::.junk::.junk::.junk::.junk::(V.kill n0 tp)::(V.kill n0 tq)::(V.kill n0 tr)::(V.kill n0 ts)::(V.kill n0 tt)::(V.kill n0 tu)::(V.kill n0 tv)::(V.kill n0 tw)::(V.kill n0 t0)::[]),bR n0 hd⟩):=kI
theorem By:aw (xX s 23 wl k rd) (eg (xX s 23 wl k rd) ug n0 K n) HU (.exit 4) ⟨(d::a::b::f::u::v::e::x::j::g::I::y::z::A::L::M::B::D::E::o::F::G::q::Q::N::R::O::J::t1::U::t2::t3::t4::t5::t6::t7::t8::t9::ta::W::T::tb::tc::td::te::tf::tg::th::ti::tj::tk::X::Y::Z::tx::ty::tz::tl::tm::tn::tG::tH::tI::tJ::tK::tL::tM::tN::tO::tA::tB::tC::tD::tE::tF::tp::tq::tr::ts::tt::tu::tv::tw::t0::[]),h⟩ =
 bm (aa s.P 30 g 4) h fun vp hr=>
 stO h.length vp (
 bm (ab s.P 28 vp hr) hr fun v96 h97=>
 bp (bG (xX s 23 wl k rd) true true (.fn (.func 63) [] []) [z] h97) fun v98 h99=>
 bp (cZ s.P wl 28 1 [(0,v98)] h99) fun vq hs=>
 bp (kS s.P wl 28 28 v96 vq hs) fun vr ht=>
 bm (aa s.P 30 g 4) ht fun vs hu=>
 bs (ai s.P wl 28 vs vr hu) fun hv=>
 bm (aA s.P .add 3 Z (.lit (.int .i64 1))) hv fun vt hw=>
 itX (xX s 23 wl k rd) ug n0 K n ⟨((V.kill n0 d)::(V.kill n0 a)::(V.kill n0 b)::(V.kill n0 f)::(V.kill n0 u)::(V.kill n0 v)::(V.kill n0 e)::(V.kill n0 x)::(V.kill n0 j)::(V.kill n0 g)::(V.kill n0 I)::(V.kill n0 y)::(V.kill n0 z)::(V.kill n0 A)::(V.kill n0 L)::(V.kill n0 M)::(V.kill n0 B)::(V.kill n0 D)::(V.kill n0 E)::(V.kill n0 o)::(V.kill n0 F)::(V.kill n0 G)::(V.kill n0 q)::(V.kill n0 Q)::(V.kill n0 N)::(V.kill n0 R)::(V.kill n0 O)::(V.kill n0 J)::(V.kill n0 t1)::(V.kill n0 U)::(V.kill n0 t2)::(V.kill n0 t3)::(V.kill n0 t4)::(V.kill n0 t5)::(V.kill n0 t6)::(V.kill n0 t7)::(V.kill n0 t8)::(V.kill n0 t9)::(V.kill n0 ta)::(V.kill n0 W)::(V.kill n0 T)::(V.kill n0 tb)::(V.kill n0 tc)::(V.kill n0 td)::(V.kill n0 te)::(V.kill n0 tf)::(V.kill n0 tg)::(V.kill n0 th)::(V.kill n0 ti)::(V.kill n0 tj)::(V.kill n0 tk)::(V.kill n0 X)::(V.kill n0 Y)::(V.kill n0 vt)::.junk::.junk::.junk::.junk::.junk::.junk::.junk::.junk::.junk::.junk::.junk::.junk::.junk::.junk::.junk::.junk::.junk::.junk::.junk::.junk::.junk::.junk::.junk::.junk::.junk::.junk::.junk::.junk::.junk::(V.kill n0 t0)::[]),bR n0 hw⟩):=kR
theorem iZ (cx:Cx) (s:St):aw cx K pR .ret s=K .ret s:=by kernel_rfl
theorem iS (cx:Cx) (s:St):aw cx K H9 .ret s=K .ret s:=by kernel_rfl
theorem iW (cx:Cx) (s:St):aw cx K Bw .ret s=K .ret s:=by kernel_rfl
theorem iV (cx:Cx) (s:St):aw cx K HU .ret s=K .ret s:=by kernel_rfl
-- names: Yi,Yl,Bq,Ca,Uc,BH,T9,Cf,SS,By,iZ,iS,iW,iV
end
end Go.Ab
