import Derived.Test.YtblpbpnilkfjhaaGreatR6Seat
import Derived.Test.YtblpbpnilkfjhaaGreatAbLibC
set_option linter.unusedVariables false
set_option linter.unusedSimpArgs false
set_option maxRecDepth 100000
set_option linter.unusedVariables false
namespace Go.Ab
open Go.Proofs
section
variable (s:Sys) (k wl:Nat) (m0:Nat) (ac:List Nat×List Nat) (a b d e o p g l q j u r A y z B D F E I M R N J T O U Q L G:V) (h:Hp) (K:Out→St→Option (V×Hp)) (rd:Bool) (n n0:Nat) (zz:List V)
theorem afl:ak (xX s 27 wl k false) Tryz.f27 [a,b] h =
 bp (yC s k wl 27 false true (.fn (.func 66) [] []) [a,b] h) fun v1 h2=>
 bm (vUn .not v1) h2 fun v3 h4=>
 cnd v3 (
 some ((.lit (.int .u64 0)),h4)) (
 bm (al s.P 26 a b h4) h4 fun v5 h6=>
 bm (ab s.P 46 v5 h6) h6 fun v7 h8=>
 some (v7,h8)):=kB
theorem agq:evF Tryz.prog xM (k+1) wl 27 [a,b] h=ak (xX (xS k) 27 wl k false) Tryz.f27 [a,b] h:=by kernel_rfl
-- names: afl,
theorem afN:ak (xX s 32 wl k false) Tryz.f32 [a,b] h =
 bp (aU a h) fun v1 h2=>
 bp (aU b h2) fun v3 h4=>
 bm (ab s.P 23 v1 h4) h4 fun v5 h6=>
 bm (ab s.P 3 v3 h6) h6 fun v7 h8=>
 bp (yC s k wl 32 false true (.fn (.func 70) [] []) [v5,v7,(.fn (.func 71) [] [v1,v3])] h8) fun v9 hC=>
 some (v9,hC):=kB
theorem agc:evF Tryz.prog xM (k+1) wl 32 [a,b] h=ak (xX (xS k) 32 wl k false) Tryz.f32 [a,b] h:=by kernel_rfl
-- names: afN,
noncomputable def gV:Code:=am (an Tryz.f50) [1,0]
noncomputable def gz:List Fr:=[.seq (am (an Tryz.f50) [1,1])]
theorem afM:ak (xX s 50 wl k false) Tryz.f50 [a] h =
 bp (aU a h) fun v1 h2=>
 bm (aa s.P 23 v1 0) h2 fun v3 h4=>
 bm (ab s.P 3 v3 h4) h4 fun v5 h6=>
 bp (yC s k wl 50 false true (.fn (.func 93) [] []) [v5,(.lit (.int .i64 1)),(.lit (.int .i64 8))] h6) fun v7 h8=>
 gd v7 (
 bm (aa s.P 23 v1 1) h8 fun v9 hC=>
 bm (ab s.P 3 v9 hC) hC fun vA hE=>
 bp (yC s k wl 50 false true (.fn (.func 93) [] []) [vA,(.lit (.int .i64 1)),(.lit (.int .i64 16))] hE) fun vC hF=>
 yO s k wl 50 Tryz.f50 gV 7 h2.length ([],[]) gz ⟨[a,v1,(.lit (.bool false)),v3,v5,v7,(.lit (.bool true)),v9,vA,vC,uu,uu,uu,uu,uu,uu,uu,uu,uu,uu,uu,uu,uu,uu,uu,uu,uu,uu,uu,uu],hF⟩) (
 yO s k wl 50 Tryz.f50 gV 7 h2.length ([],[]) gz ⟨[a,v1,(.lit (.bool false)),v3,v5,v7,(.lit (.bool false)),uu,uu,uu,uu,uu,uu,uu,uu,uu,uu,uu,uu,uu,uu,uu,uu,uu,uu,uu,uu,uu,uu,uu],h8⟩) (
 yO s k wl 50 Tryz.f50 gV 5 h2.length ([],[]) gz ⟨[a,v1,(.lit (.bool false)),v3,v5,v7,v7,uu,uu,uu,uu,uu,uu,uu,uu,uu,uu,uu,uu,uu,uu,uu,uu,uu,uu,uu,uu,uu,uu,uu],h8⟩):=kB
theorem agh:evF Tryz.prog xM (k+1) wl 50 [a] h=ak (xX (xS k) 50 wl k false) Tryz.f50 [a] h:=by kernel_rfl
theorem RP:yO s k wl 50 Tryz.f50 gV 7 m0 ac gz ⟨(a::b::d::e::o::p::g::l::q::j::u::r::A::y::z::B::D::F::E::zz),h⟩ =
 bm (aT g j (.lit (.bool false))) h fun vB hG=>
 gd vB (
 bm (aa s.P 23 b 1) hG fun vD hH=>
 bm (ab s.P 3 vD hH) hH fun vE hI=>
 bm (aa s.P 23 b 1) hI fun vF hJ=>
 bm (ab s.P 3 vF hJ) hJ fun vG hK=>
 bm (az s.P .sub 3 vG (.lit (.int .i64 1))) hK fun vO hS=>
 bm (az s.P .and 3 vE vO) hS fun vP hV=>
 bm (az s.P .eql 3 vP (.lit (.int .i64 0))) hV fun vV hW=>
 yO s k wl 50 Tryz.f50 gV 16 m0 ac gz ⟨(a::b::d::e::o::p::g::l::q::j::vB::(.lit (.bool true))::vD::vE::vF::vG::vO::vP::vV::zz),hW⟩) (
 yO s k wl 50 Tryz.f50 gV 16 m0 ac gz ⟨(a::b::d::e::o::p::g::l::q::j::vB::(.lit (.bool false))::uu::uu::uu::uu::uu::uu::uu::zz),hG⟩) (
 yO s k wl 50 Tryz.f50 gV 10 m0 ac gz ⟨(a::b::d::e::o::p::g::l::q::j::vB::vB::uu::y::z::B::D::F::E::zz),hG⟩):=kG
theorem Sb:yO s k wl 50 Tryz.f50 gV 16 m0 ac gz ⟨[a,b,d,e,o,p,g,l,q,j,u,r,A,y,z,B,D,F,E,I,M,R,N,J,T,O,U,Q,L,G],h⟩ =
 bm (aT r E (.lit (.bool false))) h fun vH hO=>
 gd vH (
 bm (aa s.P 23 b 2) hO fun vQ hT=>
 bm (ab s.P 3 vQ hT) hT fun vT hX=>
 bp (yC s k wl 50 false true (.fn (.func 93) [] []) [vT,(.lit (.int .i64 1)),(.lit (.int .i64 16))] hX) fun vK hQ=>
 yO s k wl 50 Tryz.f50 gV 21 m0 ac gz ⟨[a,b,d,e,o,p,g,l,q,j,u,r,A,y,z,B,D,F,E,vH,(.lit (.bool true)),vQ,vT,vK,T,O,U,Q,L,G],hQ⟩) (
 yO s k wl 50 Tryz.f50 gV 21 m0 ac gz ⟨[a,b,d,e,o,p,g,l,q,j,u,r,A,y,z,B,D,F,E,vH,(.lit (.bool false)),uu,uu,uu,T,O,U,Q,L,G],hO⟩) (
 yO s k wl 50 Tryz.f50 gV 19 m0 ac gz ⟨[a,b,d,e,o,p,g,l,q,j,u,r,A,y,z,B,D,F,E,vH,vH,uu,N,J,T,O,U,Q,L,G],hO⟩):=kG
theorem Sp:yO s k wl 50 Tryz.f50 gV 21 m0 ac gz ⟨[a,b,d,e,o,p,g,l,q,j,u,r,A,y,z,B,D,F,E,I,M,R,N,J,T,O,U,Q,L,G],h⟩ =
 bm (aT M J (.lit (.bool false))) h fun vI hL=>
 gd vI (
 bm (aa s.P 23 b 3) hL fun vJ hM=>
 bm (ab s.P 3 vJ hM) hM fun vN hA=>
 bp (yC s k wl 50 false true (.fn (.func 93) [] []) [vN,(.lit (.int .i64 0)),(.lit (.int .i64 4))] hA) fun vR hN=>
 yO s k wl 50 Tryz.f50 gV 26 m0 ac gz ⟨[a,b,d,e,o,p,g,l,q,j,u,r,A,y,z,B,D,F,E,I,M,R,N,J,vI,(.lit (.bool true)),vJ,vN,vR,G],hN⟩) (
 yO s k wl 50 Tryz.f50 gV 26 m0 ac gz ⟨[a,b,d,e,o,p,g,l,q,j,u,r,A,y,z,B,D,F,E,I,M,R,N,J,vI,(.lit (.bool false)),uu,uu,uu,G],hL⟩) (
 yO s k wl 50 Tryz.f50 gV 24 m0 ac gz ⟨[a,b,d,e,o,p,g,l,q,j,u,r,A,y,z,B,D,F,E,I,M,R,N,J,vI,vI,uu,Q,L,G],hL⟩):=kG
theorem RH:yO s k wl 50 Tryz.f50 gV 26 m0 ac gz ⟨[a,b,d,e,o,p,g,l,q,j,u,r,A,y,z,B,D,F,E,I,M,R,N,J,T,O,U,Q,L,G],h⟩ =
 bm (aT O L (.lit (.bool false))) h fun vL hP=>
 some (vL,hP):=kG
theorem AL (cx:Cx) (s:St):av cx K gz .ret s=K .ret s:=by kernel_rfl
-- names: afM,RP,Sb,Sp,RH,AL
noncomputable def HL:Code:=am (an Tryz.f66) [1,0]
noncomputable def En:List Fr:=[.seq (am (an Tryz.f66) [1,1])]
theorem afJ:ak (xX s 66 wl k false) Tryz.f66 [a,b] h =
 bm (az s.P .geq 3 b (.lit (.int .i64 0))) h fun v1 h2=>
 gd v1 (
 bp (bw s.P 26 a h2) fun v3 h4=>
 bm (az s.P .lss 3 b v3) h4 fun v5 h6=>
 yO s k wl 66 Tryz.f66 HL 7 h.length ([],[]) En ⟨[a,b,uu,uu,(.lit (.bool false)),b,v1,(.lit (.bool true)),b,a,v3,v5,uu],h6⟩) (
 yO s k wl 66 Tryz.f66 HL 7 h.length ([],[]) En ⟨[a,b,uu,uu,(.lit (.bool false)),b,v1,(.lit (.bool false)),uu,uu,uu,uu,uu],h2⟩) (
 yO s k wl 66 Tryz.f66 HL 4 h.length ([],[]) En ⟨[a,b,uu,uu,(.lit (.bool false)),b,v1,v1,uu,uu,uu,uu,uu],h2⟩):=kB
theorem agp:evF Tryz.prog xM (k+1) wl 66 [a,b] h=ak (xX (xS k) 66 wl k false) Tryz.f66 [a,b] h:=by kernel_rfl
theorem Se:yO s k wl 66 Tryz.f66 HL 7 m0 ac En ⟨[a,b,d,e,o,p,g,l,q,j,u,r,A],h⟩ =
 bm (aT l r (.lit (.bool false))) h fun v7 h8=>
 some (v7,h8):=kG
theorem A4 (cx:Cx) (s:St):av cx K En .ret s=K .ret s:=by kernel_rfl
-- names: afJ,Se,A4
noncomputable def HR:Code:=am (an Tryz.f70) [1,0,0]
noncomputable def EZ:List Fr:=[.seq (am (an Tryz.f70) [1,0,1]),.seq (am (an Tryz.f70) [1,1])]
theorem S8:ak (xX s 70 wl k false) Tryz.f70 [a,b,d] h =
 bp (aU a h) fun v1 h2=>
 bm (ab s.P 23 v1 h2) h2 fun v3 h4=>
 bp (yC s k wl 70 false true (.fn (.func 50) [] []) [v3] h4) fun v5 h6=>
 bm (vUn .not v5) h6 fun v7 h8=>
 gd v7 (
 yO s k wl 70 Tryz.f70 HR 10 h2.length ([],[]) EZ ⟨[a,b,d,v1,uu,uu,(.lit (.int .i64 0)),v3,v5,v7,(.lit (.bool true)),uu,uu,uu,uu,uu,uu,uu,uu,uu],h8⟩) (
 bm (aa s.P 23 v1 0) h8 fun v9 hC=>
 bm (ab s.P 3 v9 hC) hC fun vA hE=>
 bm (az s.P .sub 3 vA (.lit (.int .i64 1))) hE fun vC hF=>
 bp (yC s k wl 70 false true (.fn (.func 93) [] []) [b,(.lit (.int .i64 0)),vC] hF) fun vB hG=>
 bm (vUn .not vB) hG fun vD hH=>
 yO s k wl 70 Tryz.f70 HR 10 h2.length ([],[]) EZ ⟨[a,b,d,v1,uu,uu,(.lit (.int .i64 0)),v3,v5,v7,(.lit (.bool false)),b,v9,vA,vC,vB,vD,uu,uu,uu],hH⟩) (
 yO s k wl 70 Tryz.f70 HR 5 h2.length ([],[]) EZ ⟨[a,b,d,v1,uu,uu,(.lit (.int .i64 0)),v3,v5,v7,v7,uu,uu,uu,uu,uu,uu,uu,uu,uu],h8⟩):=kB
theorem WC:evF Tryz.prog xM (k+1) wl 70 [a,b,d] h=ak (xX (xS k) 70 wl k false) Tryz.f70 [a,b,d] h:=by kernel_rfl
theorem u5:yO s k wl 70 Tryz.f70 HR 10 m0 ac EZ ⟨[a,b,d,e,o,p,g,l,q,j,u,r,A,y,z,B,D,F,E,I],h⟩ =
 bm (aT u (.lit (.bool true)) D) h fun vE hI=>
 cnd vE (
 some ((.lit (.int .i64 (-1))),hI)) (
 bp (yC s k wl 70 false true d [] hI) fun vF hJ=>
 some (vF,hJ)):=kG
theorem gh (cx:Cx) (s:St):av cx K EZ .ret s=K .ret s:=by kernel_rfl
-- names: S8,u5,gh
theorem afi:ak (xX s 71 wl k false) Tryz.f71 [a,b] h =
 bm (ab s.P 23 a h) h fun v1 h2=>
 bm (ab s.P 3 b h2) h2 fun v3 h4=>
 bp (yC s k wl 71 false true (.fn (.func 72) [] []) [v1,v3] h4) fun v5 h6=>
 bm (az s.P .add 3 v5 (.lit (.int .i64 2))) h6 fun v7 h8=>
 some (v7,h8):=kB
theorem afW:evF Tryz.prog xM (k+1) wl 71 [a,b] h=ak (xX (xS k) 71 wl k false) Tryz.f71 [a,b] h:=by kernel_rfl
-- names: afi,
theorem aft:ak (xX s 72 wl k false) Tryz.f72 [a,b] h =
 bp (aU a h) fun v1 h2=>
 bm (aa s.P 23 v1 2) h2 fun v3 h4=>
 bm (ab s.P 3 v3 h4) h4 fun v5 h6=>
 bm (az s.P .mul 3 (.lit (.int .i64 2)) v5) h6 fun v7 h8=>
 bm (az s.P .add 3 (.lit (.int .i64 6)) v7) h8 fun v9 hC=>
 bm (aa s.P 23 v1 1) hC fun vA hE=>
 bm (ab s.P 3 vA hE) hE fun vC hF=>
 bm (az s.P .add 3 (.lit (.int .i64 3)) vC) hF fun vB hG=>
 bm (az s.P .mul 3 b vB) hG fun vD hH=>
 bm (az s.P .add 3 v9 vD) hH fun vE hI=>
 some (vE,hI):=kB
theorem af4:evF Tryz.prog xM (k+1) wl 72 [a,b] h=ak (xX (xS k) 72 wl k false) Tryz.f72 [a,b] h:=by kernel_rfl
-- names: aft,
theorem afn:ak (xX s 88 wl k false) Tryz.f88 [a,b,d] h =
 bp (aU d h) fun v1 h2=>
 bp (some (.own h2.length 0 0,h2++[.rows 0 [] 0 true])) fun v3 h4=>
 bp (yC s k wl 88 false true (.fn (.func 143) [] []) [a,b,(.fn (.func 144) [] [v1])] h4) fun v5 h6=>
 bm (ar v5 0) h6 fun v7 h8=>
 bm (ar v5 1) h8 fun v9 hC=>
 some (v7,hC):=kB
theorem af7:evF Tryz.prog xM (k+1) wl 88 [a,b,d] h=ak (xX (xS k) 88 wl k false) Tryz.f88 [a,b,d] h:=by kernel_rfl
-- names: afn,
noncomputable def Hd:Code:=am (an Tryz.f93) [1,0]
noncomputable def Di:List Fr:=[.seq (am (an Tryz.f93) [1,1])]
theorem afj:ak (xX s 93 wl k false) Tryz.f93 [a,b,d] h =
 bm (az s.P .geq 3 a b) h fun v1 h2=>
 gd v1 (
 bm (az s.P .leq 3 a d) h2 fun v3 h4=>
 yO s k wl 93 Tryz.f93 Hd 7 h.length ([],[]) Di ⟨[a,b,d,uu,uu,uu,(.lit (.bool false)),a,b,v1,(.lit (.bool true)),a,d,v3,uu],h4⟩) (
 yO s k wl 93 Tryz.f93 Hd 7 h.length ([],[]) Di ⟨[a,b,d,uu,uu,uu,(.lit (.bool false)),a,b,v1,(.lit (.bool false)),uu,uu,uu,uu],h2⟩) (
 yO s k wl 93 Tryz.f93 Hd 5 h.length ([],[]) Di ⟨[a,b,d,uu,uu,uu,(.lit (.bool false)),a,b,v1,v1,uu,uu,uu,uu],h2⟩):=kB
theorem af3:evF Tryz.prog xM (k+1) wl 93 [a,b,d] h=ak (xX (xS k) 93 wl k false) Tryz.f93 [a,b,d] h:=by kernel_rfl
theorem RI:yO s k wl 93 Tryz.f93 Hd 7 m0 ac Di ⟨[a,b,d,e,o,p,g,l,q,j,u,r,A,y,z],h⟩ =
 bm (aT u y (.lit (.bool false))) h fun v5 h6=>
 some (v5,h6):=kG
theorem Bh (cx:Cx) (s:St):av cx K Di .ret s=K .ret s:=by kernel_rfl
-- names: afj,RI,Bh
theorem aa3:ak (xX s 103 wl k false) Tryz.f103 [a] h =
 bp (aU a h) fun v1 h2=>
 bm (ab s.P 23 v1 h2) h2 fun v3 h4=>
 bp (yC s k wl 103 false true (.fn (.func 50) [] []) [v3] h4) fun v5 h6=>
 bm (vUn .not v5) h6 fun v7 h8=>
 cnd v7 (
 some ((.lit (.int .i64 0)),h8)) (
 bm (ab s.P 23 v1 h8) h8 fun v9 hC=>
 bm (aa s.P 23 v1 0) hC fun vA hE=>
 bm (ab s.P 3 vA hE) hE fun vC hF=>
 bp (yC s k wl 103 false true (.fn (.func 72) [] []) [v9,vC] hF) fun vB hG=>
 some (vB,hG)):=kB
theorem aeT:evF Tryz.prog xM (k+1) wl 103 [a] h=ak (xX (xS k) 103 wl k false) Tryz.f103 [a] h:=by kernel_rfl
-- names: aa3,
theorem Y6:ak (xX s 104 wl k false) Tryz.f104 [a,b,d] h =
 bp (aA s.P 55 h) fun v1 h2=>
 bm (bc s.P 55 [(0,a),(2,b),(3,d)]) h2 fun v3 h4=>
 bs (ai s.P wl 55 v1 v3 h4) fun h5=>
 eg [ab s.P 55 v1 h5] h5:=kB
theorem afb:evF Tryz.prog xM (k+1) wl 104 [a,b,d] h=ak (xX (xS k) 104 wl k false) Tryz.f104 [a,b,d] h:=by kernel_rfl
-- names: Y6,
theorem ZM:ak (xX s 107 wl k false) Tryz.f107 [a,b] h =
 bp (aU a h) fun v1 h2=>
 bp (aU b h2) fun v3 h4=>
 bm (ab s.P 23 v1 h4) h4 fun v5 h6=>
 bm (ab s.P 3 v3 h6) h6 fun v7 h8=>
 bp (yC s k wl 107 false true (.fn (.func 70) [] []) [v5,v7,(.fn (.func 149) [] [v1,v3])] h8) fun v9 hC=>
 some (v9,hC):=kB
theorem acy:evF Tryz.prog xM (k+1) wl 107 [a,b] h=ak (xX (xS k) 107 wl k false) Tryz.f107 [a,b] h:=by kernel_rfl
-- names: ZM,
theorem Yk:ak (xX s 108 wl k false) Tryz.f108 [a,b] h =
 bp (aU a h) fun v1 h2=>
 bp (aU b h2) fun v3 h4=>
 bm (ab s.P 23 v1 h4) h4 fun v5 h6=>
 bm (ab s.P 3 v3 h6) h6 fun v7 h8=>
 bp (yC s k wl 108 false true (.fn (.func 70) [] []) [v5,v7,(.fn (.func 150) [] [v1,v3])] h8) fun v9 hC=>
 some (v9,hC):=kB
theorem ads:evF Tryz.prog xM (k+1) wl 108 [a,b] h=ak (xX (xS k) 108 wl k false) Tryz.f108 [a,b] h:=by kernel_rfl
-- names: Yk,
theorem Zp:ak (xX s 109 wl k false) Tryz.f109 [a,b,d] h =
 bp (aU a h) fun v1 h2=>
 bp (aU b h2) fun v3 h4=>
 bp (aU d h4) fun v5 h6=>
 bm (ab s.P 23 v1 h6) h6 fun v7 h8=>
 bm (ab s.P 3 v3 h8) h8 fun v9 hC=>
 bp (yC s k wl 109 false true (.fn (.func 70) [] []) [v7,v9,(.fn (.func 151) [] [v1,v3,v5])] hC) fun vA hE=>
 some (vA,hE):=kB
theorem aeZ:evF Tryz.prog xM (k+1) wl 109 [a,b,d] h=ak (xX (xS k) 109 wl k false) Tryz.f109 [a,b,d] h:=by kernel_rfl
-- names: Zp,
theorem YP:ak (xX s 110 wl k false) Tryz.f110 [a] h =
 bp (aU a h) fun v1 h2=>
 bm (aa s.P 55 v1 6) h2 fun v3 h4=>
 bm (ab s.P 3 v3 h4) h4 fun v5 h6=>
 bm (az s.P .neq 3 v5 (.lit (.int .i64 0))) h6 fun v7 h8=>
 some (v7,h8):=kB
theorem aeO:evF Tryz.prog xM (k+1) wl 110 [a] h=ak (xX (xS k) 110 wl k false) Tryz.f110 [a] h:=by kernel_rfl
-- names: YP,
theorem aa7:ak (xX s 138 wl k false) Tryz.f138 [a,b,d] h =
 bp (aU d h) fun v1 h2=>
 bp (some (.own h2.length 0 0,h2++[.rows 0 [] 0 true])) fun v3 h4=>
 bp (yC s k wl 138 false true (.fn (.func 143) [] []) [a,b,(.fn (.func 169) [] [v1])] h4) fun v5 h6=>
 bm (ar v5 0) h6 fun v7 h8=>
 bm (ar v5 1) h8 fun v9 hC=>
 some (.tup [v7,v9],hC):=kB
theorem aeM:evF Tryz.prog xM (k+1) wl 138 [a,b,d] h=ak (xX (xS k) 138 wl k false) Tryz.f138 [a,b,d] h:=by kernel_rfl
-- names: aa7,
theorem NV:ak (xX s 143 wl k false) Tryz.f143 [a,b,d] h =
 bp (some (.own h.length 0 0,h++[.rows 0 [] 0 true])) fun v1 h2=>
 bp (yC s k wl 143 false true (.fn (.func 76) [] []) [a] h2) fun v3 h4=>
 bp (yC s k wl 143 false true (.fn (.func 66) [] []) [a,b] h4) fun v5 h6=>
 bm (vUn .not v5) h6 fun v7 h8=>
 cnd v7 (
 some (.tup [v3,(.lit (.int .u64 0))],h8)) (
 bm (al s.P 26 a b h8) h8 fun v9 hC=>
 bm (ab s.P 46 v9 hC) hC fun vA hE=>
 bp (yC s k wl 143 false true d [vA] hE) fun vC hF=>
 bm (al s.P 26 v3 b hF) hF fun vB hG=>
 bs (ai s.P wl 46 vB vC hG) fun hU=>
 bm (al s.P 26 a b hU) hU fun vt hf=>
 bm (ab s.P 46 vt hf) hf fun vu ht=>
 some (.tup [v3,vu],ht)):=kB
theorem SV:evF Tryz.prog xM (k+1) wl 143 [a,b,d] h=ak (xX (xS k) 143 wl k false) Tryz.f143 [a,b,d] h:=by kernel_rfl
-- names: NV,
theorem X7:ak (xX s 144 wl k false) Tryz.f144 [a,b] h =
 bm (ab s.P 46 b h) h fun v1 h2=>
 some (v1,h2):=kB
theorem ab4:evF Tryz.prog xM (k+1) wl 144 [a,b] h=ak (xX (xS k) 144 wl k false) Tryz.f144 [a,b] h:=by kernel_rfl
-- names: X7,
theorem aaa:ak (xX s 149 wl k false) Tryz.f149 [a,b] h =
 bm (ab s.P 23 a h) h fun v1 h2=>
 bm (ab s.P 3 b h2) h2 fun v3 h4=>
 bp (yC s k wl 149 false true (.fn (.func 72) [] []) [v1,v3] h4) fun v5 h6=>
 some (v5,h6):=kB
theorem abP:evF Tryz.prog xM (k+1) wl 149 [a,b] h=ak (xX (xS k) 149 wl k false) Tryz.f149 [a,b] h:=by kernel_rfl
-- names: aaa,
theorem aa8:ak (xX s 150 wl k false) Tryz.f150 [a,b] h =
 bm (ab s.P 23 a h) h fun v1 h2=>
 bm (ab s.P 3 b h2) h2 fun v3 h4=>
 bp (yC s k wl 150 false true (.fn (.func 72) [] []) [v1,v3] h4) fun v5 h6=>
 bm (az s.P .add 3 v5 (.lit (.int .i64 1))) h6 fun v7 h8=>
 some (v7,h8):=kB
theorem adA:evF Tryz.prog xM (k+1) wl 150 [a,b] h=ak (xX (xS k) 150 wl k false) Tryz.f150 [a,b] h:=by kernel_rfl
-- names: aa8,
theorem aaM:ak (xX s 151 wl k false) Tryz.f151 [a,b,d] h =
 bm (ab s.P 23 a h) h fun v1 h2=>
 bm (ab s.P 3 b h2) h2 fun v3 h4=>
 bp (yC s k wl 151 true true (.fn (.func 72) [] []) [v1,v3] h4) fun v5 h6=>
 bm (az s.P .add 3 v5 (.lit (.int .i64 3))) h6 fun v7 h8=>
 stO h.length d (
 bm (ab s.P 46 d h8) h8 fun v9 hC=>
 bm (aa s.P 23 a 1) hC fun vA hE=>
 stO h.length vA (
 bm (ab s.P 3 vA hE) hE fun vC hF=>
 bm (az s.P .sub 3 vC (.lit (.int .i64 1))) hF fun vB hG=>
 bm (gB s.P 3 46 vB) hG fun vD hH=>
 bm (az s.P .and 46 v9 vD) hH fun vE hI=>
 bm (gB s.P 46 3 vE) hI fun vF hJ=>
 bm (az s.P .add 3 v7 vF) hJ fun vG hK=>
 some (vG,hK))):=kB
theorem acY:evF Tryz.prog xM (k+1) wl 151 [a,b,d] h=ak (xX (xS k) 151 wl k false) Tryz.f151 [a,b,d] h:=by kernel_rfl
-- names: aaM,
theorem Yq:ak (xX s 169 wl k false) Tryz.f169 [a,b] h =
 bm (ab s.P 46 b h) h fun v1 h2=>
 bm (az s.P .add 46 a v1) h2 fun v3 h4=>
 some (v3,h4):=kB
theorem acf:evF Tryz.prog xM (k+1) wl 169 [a,b] h=ak (xX (xS k) 169 wl k false) Tryz.f169 [a,b] h:=by kernel_rfl
-- names: Yq,
theorem Zm:ak (xX s 191 wl k false) Tryz.f191 [a,b,d,e] h =
 bp (aU d h) fun v1 h2=>
 bp (aU e h2) fun v3 h4=>
 bp (some (.own h4.length 0 0,h4++[.rows 0 [] 0 true])) fun v5 h6=>
 bp (aA s.P 4 h6) fun v7 h8=>
 bs (ai s.P wl 4 v7 (.lit (.bool false)) h8) fun h9=>
 bp (yC s k wl 191 false true (.fn (.func 143) [] []) [a,b,(.fn (.func 219) [] [v1,v7,v3])] h9) fun va hu=>
 bm (ar va 0) hu fun vv hv=>
 bm (ar va 1) hv fun v14 hR=>
 bm (ab s.P 4 v7 hR) hR fun vw hU=>
 some (.tup [vv,vw],hU):=kB
theorem aeY:evF Tryz.prog xM (k+1) wl 191 [a,b,d,e] h=ak (xX (xS k) 191 wl k false) Tryz.f191 [a,b,d,e] h:=by kernel_rfl
-- names: Zm,
theorem Z2:ak (xX s 219 wl k false) Tryz.f219 [a,b,d,e] h =
 bm (ab s.P 46 b h) h fun v1 h2=>
 bm (az s.P .neq 46 a v1) h2 fun v3 h4=>
 cnd v3 (
 some (a,h4)) (
 bs (ai s.P wl 4 d (.lit (.bool true)) h4) fun h5=>
 bm (ab s.P 46 e h5) h5 fun v6 h7=>
 some (v6,h7)):=kB
theorem aep:evF Tryz.prog xM (k+1) wl 219 [a,b,d,e] h=ak (xX (xS k) 219 wl k false) Tryz.f219 [a,b,d,e] h:=by kernel_rfl
-- names: Z2,
theorem Y4:ak (xX s 222 wl k false) Tryz.f222 [a,b] h =
 bm (ab s.P 46 a h) h fun v1 h2=>
 bm (aa s.P 23 b 2) h2 fun v3 h4=>
 bm (ab s.P 3 v3 h4) h4 fun v5 h6=>
 bm (gB s.P 3 46 v5) h6 fun v7 h8=>
 bm (az s.P .rem 46 v1 v7) h8 fun v9 hC=>
 bm (gB s.P 46 3 v9) hC fun vA hE=>
 bm (az s.P .add 3 (.lit (.int .i64 6)) vA) hE fun vC hF=>
 some (vC,hF):=kB
theorem aeX:evF Tryz.prog xM (k+1) wl 222 [a,b] h=ak (xX (xS k) 222 wl k false) Tryz.f222 [a,b] h:=by kernel_rfl
-- names: Y4,
theorem XX:ak (xX s 223 wl k false) Tryz.f223 [a,b] h =
 bm (aa s.P 23 a 2) h fun v1 h2=>
 bm (ab s.P 3 v1 h2) h2 fun v3 h4=>
 bm (az s.P .add 3 (.lit (.int .i64 6)) v3) h4 fun v5 h6=>
 bm (ab s.P 46 b h6) h6 fun v7 h8=>
 bm (aa s.P 23 a 2) h8 fun v9 hC=>
 bm (ab s.P 3 v9 hC) hC fun vA hE=>
 bm (gB s.P 3 46 vA) hE fun vC hF=>
 bm (az s.P .rem 46 v7 vC) hF fun vB hG=>
 bm (gB s.P 46 3 vB) hG fun vD hH=>
 bm (az s.P .add 3 v5 vD) hH fun vE hI=>
 some (vE,hI):=kB
theorem acT:evF Tryz.prog xM (k+1) wl 223 [a,b] h=ak (xX (xS k) 223 wl k false) Tryz.f223 [a,b] h:=by kernel_rfl
-- names: XX,
theorem Y7:ak (xX s 203 wl k false) Tryz.f203 [a,b] h =
 bp (aU a h) fun v1 h2=>
 bp (aU b h2) fun v3 h4=>
 bm (ab s.P 23 v1 h4) h4 fun v5 h6=>
 bp (yC s k wl 203 false true (.fn (.func 70) [] []) [v5,(.lit (.int .i64 0)),(.fn (.func 222) [] [v3,v1])] h6) fun v7 h8=>
 some (v7,h8):=kB
theorem acx:evF Tryz.prog xM (k+1) wl 203 [a,b] h=ak (xX (xS k) 203 wl k false) Tryz.f203 [a,b] h:=by kernel_rfl
-- names: Y7,
theorem Yt:ak (xX s 205 wl k false) Tryz.f205 [a,b] h =
 bp (aU a h) fun v1 h2=>
 bp (aU b h2) fun v3 h4=>
 bm (ab s.P 23 v1 h4) h4 fun v5 h6=>
 bp (yC s k wl 205 false true (.fn (.func 70) [] []) [v5,(.lit (.int .i64 0)),(.fn (.func 223) [] [v1,v3])] h6) fun v7 h8=>
 some (v7,h8):=kB
theorem aeS:evF Tryz.prog xM (k+1) wl 205 [a,b] h=ak (xX (xS k) 205 wl k false) Tryz.f205 [a,b] h:=by kernel_rfl
-- names: Yt,
end
end Go.Ab
set_option maxRecDepth 100000
set_option linter.unusedVariables false
namespace Go.Ab
open Go.Proofs
section
variable (s:Sys) (k wl:Nat) (m0:Nat) (ac:List Nat×List Nat) (c d g l j o r q y v u B z A p D G E F J M L I N T X U W Q R Y O t4 t1 t2 t3 t0 Z:V) (h:Hp) (K:Out→St→Option (V×Hp)) (rd:Bool) (n n0:Nat) (zz:List V)
theorem X2:ak (xX s 106 wl k false) Tryz.f106 [c,d] h =
 bm (az s.P .sub 46 c d) h fun v1 h2=>
 bm (gB s.P 46 3 v1) h2 fun v3 h4=>
 some (v3,h4):=kB
theorem acn:evF Tryz.prog xM (k+1) wl 106 [c,d] h=ak (xX (xS k) 106 wl k false) Tryz.f106 [c,d] h:=by kernel_rfl
-- names: X2,
noncomputable def Cb:Code:=am (an Tryz.f161) [1,0,0]
noncomputable def wU:List Fr:=[.seq (am (an Tryz.f161) [1,0,1]),.seq (am (an Tryz.f161) [1,1])]
theorem YJ:ak (xX s 161 wl k false) Tryz.f161 [c,d,g] h =
 bm (az s.P .lss 3 g (.lit (.int .i64 2))) h fun v1 h2=>
 gd v1 (
 yO s k wl 161 Tryz.f161 Cb 7 h.length ([],[]) wU ⟨[c,d,g,uu,uu,uu,(.lit (.int .i64 0)),uu,g,v1,(.lit (.bool true)),uu,uu,uu,uu,uu,uu,uu,uu,uu,uu,uu,uu,uu,uu,uu,uu,uu,uu],h2⟩) (
 bp (yC s k wl 161 false true (.fn (.func 81) [] []) [d,g] h2) fun v3 h4=>
 bm (vUn .not v3) h4 fun v5 h6=>
 yO s k wl 161 Tryz.f161 Cb 7 h.length ([],[]) wU ⟨[c,d,g,uu,uu,uu,(.lit (.int .i64 0)),uu,g,v1,(.lit (.bool false)),d,g,v3,v5,uu,uu,uu,uu,uu,uu,uu,uu,uu,uu,uu,uu,uu,uu],h6⟩) (
 yO s k wl 161 Tryz.f161 Cb 4 h.length ([],[]) wU ⟨[c,d,g,uu,uu,uu,(.lit (.int .i64 0)),uu,g,v1,v1,uu,uu,uu,uu,uu,uu,uu,uu,uu,uu,uu,uu,uu,uu,uu,uu,uu,uu],h2⟩):=kB
theorem acE:evF Tryz.prog xM (k+1) wl 161 [c,d,g] h=ak (xX (xS k) 161 wl k false) Tryz.f161 [c,d,g] h:=by kernel_rfl
theorem MQ:yO s k wl 161 Tryz.f161 Cb 7 m0 ac wU ⟨[c,d,g,l,j,o,r,q,y,v,u,B,z,A,p,D,G,E,F,J,M,L,I,N,T,X,U,W,Q],h⟩ =
 bm (aT u (.lit (.bool true)) p) h fun v7 h8=>
 cnd v7 (
 some ((.lit (.int .i64 (-1))),h8)) (
 bm (gB s.P 3 46 g) h8 fun v9 hC=>
 bm (gB s.P 3 46 d) hC fun vA hE=>
 bm (az s.P .add 46 vA (.lit (.int .u64 1))) hE fun vC hF=>
 bm (az s.P .sub 46 v9 (.lit (.int .u64 1))) hF fun vB hG=>
 bm (az s.P .rem 46 c vB) hG fun vD hH=>
 bm (az s.P .add 46 vC vD) hH fun vE hI=>
 bm (az s.P .rem 46 vE v9) hI fun vF hJ=>
 bm (gB s.P 46 3 vF) hJ fun vG hK=>
 some (vG,hK)):=kG
theorem uW (cx:Cx) (s:St):av cx K wU .ret s=K .ret s:=by kernel_rfl
-- names: YJ,MQ,uW
theorem aax:ak (xX s 192 wl k false) Tryz.f192 [c] h =
 bm (az s.P .and 46 c (.lit (.int .u64 65535))) h fun v1 h2=>
 some (v1,h2):=kB
theorem adQ:evF Tryz.prog xM (k+1) wl 192 [c] h=ak (xX (xS k) 192 wl k false) Tryz.f192 [c] h:=by kernel_rfl
-- names: aax,
noncomputable def LW:Code:=am (an Tryz.f195) [1,0,1,0]
noncomputable def GO:Code:=am (an Tryz.f195) [1,0,1,0,0]
noncomputable def FN:Code:=am (an Tryz.f195) [1,0,1,0,1]
noncomputable def Bw:List Fr:=[.block 0,.seq (am (an Tryz.f195) [1,1])]
theorem AD:LW= .rangeFunc (.tmp 5) #[6] GO FN:=by kernel_rfl
theorem Vf:ak (xX s 195 wl k false) Tryz.f195 [c] h =
 bp (aA s.P 3 h) fun v1 h2=>
 bp (yC s k wl 195 false true (.fn (.func 220) [] []) [c] h2) fun v3 h4=>
 a9 (xX s 195 wl k false) LW none (av (xX s 195 wl k false) (aD s.P Tryz.f195) Bw) ⟨[c,uu,v1,uu,c,v3,uu,uu],h4⟩:=kB
theorem YL:evF Tryz.prog xM (k+1) wl 195 [c] h=ak (xX (xS k) 195 wl k false) Tryz.f195 [c] h:=by kernel_rfl
theorem VA (P:Program):aD P Tryz.f195 .ret ⟨[c,d,g,l,j,o,r,q],h⟩=eg [ab P 3 g h] h:=by kernel_rfl
theorem Gd:av (xX s 195 wl k false) (aD s.P Tryz.f195) Bw .norm ⟨(c::d::g::zz),h⟩ =
 bs (ai s.P wl 3 g (.lit (.int .i64 (-1))) h) fun h5=>
 eg [ab s.P 3 g h5] h5:=kR
theorem i6:av (xX s 195 wl k rd) K [.seq FN] .norm ⟨[c,d,g,l,j,o,r,q],h⟩ =
 bs (ai s.P wl 3 g l h) fun h6=>
 K .ret ⟨[c,d,g,l,j,o,r,l],h6⟩:=kR
theorem iJ:av (xX s 195 wl k rd) K [.seq GO] .norm ⟨[c,d,g,l,j,o,r,q],h⟩ =
 K .norm ⟨[c,d,g,r,j,o,r,q],h⟩:=kR
theorem nN (cx:Cx) (s:St):av cx K Bw .ret s=K .ret s:=by kernel_rfl
-- names: Vf,VA,Gd,i6,iJ,nN
-- range over a function at [1,0,1,0]
theorem YT:ak (xX s 213 wl k false) Tryz.f213 [c] h =
 bm (az s.P .shr 46 c (.lit (.int .u64 16))) h fun v1 h2=>
 some (v1,h2):=kB
theorem aeq:evF Tryz.prog xM (k+1) wl 213 [c] h=ak (xX (xS k) 213 wl k false) Tryz.f213 [c] h:=by kernel_rfl
-- names: YT,
noncomputable def BV:Code:=am (an Tryz.f214) [1,0,0]
noncomputable def uw:List Fr:=[.seq (am (an Tryz.f214) [1,0,1]),.seq (am (an Tryz.f214) [1,1])]
theorem aak:ak (xX s 214 wl k false) Tryz.f214 [c,d] h =
 bm (az s.P .lss 3 d (.lit (.int .i64 0))) h fun v1 h2=>
 gd v1 (
 yO s k wl 214 Tryz.f214 BV 5 h.length ([],[]) uw ⟨[c,d,uu,uu,(.lit (.int .u64 0)),d,v1,(.lit (.bool true)),uu,uu,uu,uu,uu,uu,uu,uu],h2⟩) (
 bm (az s.P .geq 3 d (.lit (.int .i64 16))) h2 fun v3 h4=>
 yO s k wl 214 Tryz.f214 BV 5 h.length ([],[]) uw ⟨[c,d,uu,uu,(.lit (.int .u64 0)),d,v1,(.lit (.bool false)),d,v3,uu,uu,uu,uu,uu,uu],h4⟩) (
 yO s k wl 214 Tryz.f214 BV 4 h.length ([],[]) uw ⟨[c,d,uu,uu,(.lit (.int .u64 0)),d,v1,v1,uu,uu,uu,uu,uu,uu,uu,uu],h2⟩):=kB
theorem aeK:evF Tryz.prog xM (k+1) wl 214 [c,d] h=ak (xX (xS k) 214 wl k false) Tryz.f214 [c,d] h:=by kernel_rfl
theorem M7:yO s k wl 214 Tryz.f214 BV 5 m0 ac uw ⟨[c,d,g,l,j,o,r,q,y,v,u,B,z,A,p,D],h⟩ =
 bm (aT q (.lit (.bool true)) v) h fun v5 h6=>
 cnd v5 (
 some (c,h6)) (
 bm (az s.P .shl 46 (.lit (.int .u64 1)) d) h6 fun v7 h8=>
 bm (az s.P .or 46 c v7) h8 fun v9 hC=>
 some (v9,hC)):=kG
theorem um (cx:Cx) (s:St):av cx K uw .ret s=K .ret s:=by kernel_rfl
-- names: aak,M7,um
theorem YA:ak (xX s 216 wl k false) Tryz.f216 [c] h =
 bp (yC s k wl 216 false true (.fn (.func 192) [] []) [c] h) fun v1 h2=>
 bp (yC s k wl 216 false true (.fn (.func 213) [] []) [c] h2) fun v3 h4=>
 bm (az s.P .add 46 v3 (.lit (.int .u64 1))) h4 fun v5 h6=>
 bm (az s.P .sub 46 v1 (.lit (.int .u64 1))) h6 fun v7 h8=>
 bm (az s.P .and 46 v1 v7) h8 fun v9 hC=>
 bp (yC s k wl 216 false true (.fn (.func 233) [] []) [v5,v9] hC) fun vA hE=>
 bp (yC s k wl 216 false true (.fn (.func 195) [] []) [v1] hE) fun vC hF=>
 some (.tup [vA,vC],hF):=kB
theorem ad1:evF Tryz.prog xM (k+1) wl 216 [c] h=ak (xX (xS k) 216 wl k false) Tryz.f216 [c] h:=by kernel_rfl
-- names: YA,
theorem Zo:ak (xX s 218 wl k false) Tryz.f218 [c] h =
 bp (yC s k wl 218 false true (.fn (.func 213) [] []) [c] h) fun v1 h2=>
 bm (az s.P .add 46 v1 (.lit (.int .u64 1))) h2 fun v3 h4=>
 bp (yC s k wl 218 false true (.fn (.func 233) [] []) [v3,(.lit (.int .u64 0))] h4) fun v5 h6=>
 some (v5,h6):=kB
theorem ad2:evF Tryz.prog xM (k+1) wl 218 [c] h=ak (xX (xS k) 218 wl k false) Tryz.f218 [c] h:=by kernel_rfl
-- names: Zo,
theorem TA:ak (xX s 220 wl k false) Tryz.f220 [c] h =
 bp (aU c h) fun v1 h2=>
 some ((.fn (.func 234) [] [v1]),h2):=kB
theorem ZX:evF Tryz.prog xM (k+1) wl 220 [c] h=ak (xX (xS k) 220 wl k false) Tryz.f220 [c] h:=by kernel_rfl
-- names: TA,
theorem aaT:ak (xX s 233 wl k false) Tryz.f233 [c,d] h =
 bm (az s.P .shl 46 c (.lit (.int .u64 16))) h fun v1 h2=>
 bm (az s.P .and 46 d (.lit (.int .u64 65535))) h2 fun v3 h4=>
 bm (az s.P .or 46 v1 v3) h4 fun v5 h6=>
 some (v5,h6):=kB
theorem abJ:evF Tryz.prog xM (k+1) wl 233 [c,d] h=ak (xX (xS k) 233 wl k false) Tryz.f233 [c,d] h:=by kernel_rfl
-- names: aaT,
noncomputable def mI:Code:=am (an Tryz.f234) [1,0,0]
noncomputable def Ck:List Fr:=[.block 0]
noncomputable def CP:Code:=am (an Tryz.f234) [1,0,0,1,1,0,0,1,0]
noncomputable def wx:List Fr:=[.seq (am (an Tryz.f234) [1,0,0,1,1,0,0,1,1]),.block 1,.seq (am (an Tryz.f234) [1,0,0,1,1,1])]
theorem TZ:ak (xX s 234 wl k false) Tryz.f234 [c,d] h =
 yI s k wl 234 Tryz.f234 mI h.length Ck k ⟨[(V.kill h.length c),(V.kill h.length d),(V.kill h.length uu),(V.kill h.length uu),(.lit (.int .i64 0)),.junk,.junk,.junk,.junk,.junk,.junk,.junk,.junk,.junk,.junk,.junk,.junk,.junk,.junk],co h.length h⟩:=kB
theorem aa2:evF Tryz.prog xM (k+1) wl 234 [c,d] h=ak (xX (xS k) 234 wl k false) Tryz.f234 [c,d] h:=by kernel_rfl
theorem Wo (P:Program):aD P Tryz.f234 .ret ⟨[c,d,g,l,j,o,r,q,y,v,u,B,z,A,p,D,G,E,F],h⟩=some (.tup [],h):=by kernel_rfl
theorem Lx:itX (xX s 234 wl k rd) mI n0 K (n+1) ⟨[c,d,g,l,j,o,r,q,y,v,u,B,z,A,p,D,G,E,F],h⟩ =
 bm (az s.P .lss 3 j (.lit (.int .i64 16))) h fun v1 h2=>
 cnd v1 (
 bm (ab s.P 46 d h2) h2 fun v3 h4=>
 bm (az s.P .shr 46 v3 j) h4 fun v5 h6=>
 bm (az s.P .and 46 v5 (.lit (.int .u64 1))) h6 fun v7 h8=>
 bm (az s.P .eql 46 v7 (.lit (.int .u64 1))) h8 fun v9 hC=>
 gd v9 (
 bp (dW (xX s 234 wl k rd) false true c [j] hC) fun vA hE=>
 bm (vUn .not vA) hE fun vC hF=>
 fV (xX s 234 wl k rd) CP 10 h2.length ([],[]) (av (xX s 234 wl k rd) (dc (xX s 234 wl k rd) mI n0 K n) wx) ⟨[c,d,g,j,j,v1,j,v3,j,v5,v7,v9,(.lit (.bool true)),c,j,vA,vC,E,F],hF⟩) (
 fV (xX s 234 wl k rd) CP 10 h2.length ([],[]) (av (xX s 234 wl k rd) (dc (xX s 234 wl k rd) mI n0 K n) wx) ⟨[c,d,g,j,j,v1,j,v3,j,v5,v7,v9,(.lit (.bool false)),uu,uu,uu,uu,E,F],hC⟩) (
 fV (xX s 234 wl k rd) CP 7 h2.length ([],[]) (av (xX s 234 wl k rd) (dc (xX s 234 wl k rd) mI n0 K n) wx) ⟨[c,d,g,j,j,v1,j,v3,j,v5,v7,v9,v9,uu,p,D,G,E,F],hC⟩)) (
 K (.exit 0) ⟨[(V.kill n0 c),(V.kill n0 d),(V.kill n0 g),(V.kill n0 l),.junk,.junk,.junk,.junk,.junk,.junk,.junk,.junk,.junk,.junk,.junk,.junk,.junk,.junk,.junk],co n0 h2⟩):=kI
theorem FM:av (xX s 234 wl k false) (aD s.P Tryz.f234) Ck (.exit 0) ⟨(c::zz),h⟩ =
 some (.tup [],h):=kR
theorem Fb:fV (xX s 234 wl k rd) CP 10 m0 ac (av (xX s 234 wl k rd) (dc (xX s 234 wl k rd) mI n0 K n) wx) ⟨[c,d,g,l,j,o,r,q,y,v,u,B,z,A,p,D,G,E,F],h⟩ =
 bm (aT z G (.lit (.bool false))) h fun vB hG=>
 cnd vB (
 K .ret ⟨[c,d,g,l,j,o,r,q,y,v,u,B,z,A,p,D,G,vB,F],hG⟩) (
 bm (az s.P .add 3 j (.lit (.int .i64 1))) hG fun vD hH=>
 itX (xX s 234 wl k rd) mI n0 K n ⟨[(V.kill n0 c),(V.kill n0 d),(V.kill n0 g),(V.kill n0 l),(V.kill n0 vD),.junk,.junk,.junk,.junk,.junk,.junk,.junk,.junk,.junk,.junk,.junk,.junk,.junk,.junk],co n0 hH⟩):=kG
theorem oa (cx:Cx) (s:St):av cx K Ck .ret s=K .ret s:=by kernel_rfl
theorem nu (cx:Cx) (s:St):av cx K wx .ret s=K .ret s:=by kernel_rfl
-- names: TZ,Wo,Lx,FM,Fb,oa,nu
theorem aaX:ak (xX s 193 wl k false) Tryz.f193 [c,d,g] h =
 bp (aU c h) fun v1 h2=>
 bp (aA s.P 55 h2) fun v3 h4=>
 bm (aa s.P 55 v1 0) h4 fun v5 h6=>
 bm (ab s.P 3 v5 h6) h6 fun v7 h8=>
 bm (aa s.P 55 v1 2) h8 fun v9 hC=>
 bm (ab s.P 3 v9 hC) hC fun vA hE=>
 bm (bc s.P 55 [(0,v7),(2,vA),(3,g),(6,d)]) hE fun vC hF=>
 bs (ai s.P wl 55 v3 vC hF) fun hR=>
 eg [ab s.P 55 v3 hR] hR:=kB
theorem ae8:evF Tryz.prog xM (k+1) wl 193 [c,d,g] h=ak (xX (xS k) 193 wl k false) Tryz.f193 [c,d,g] h:=by kernel_rfl
-- names: aaX,
end
end Go.Ab
set_option maxRecDepth 100000
set_option linter.unusedVariables false
namespace Go.Ab
open Go.Proofs
section
variable (s:Sys) (k wl:Nat) (m0:Nat) (ac:List Nat×List Nat) (a b d e j f g l u v o q r y x E z F A B G D I J L M T O U Q N R Y t0 Z X W t5 t6 t7 t8 t9 ta tb tc td te tf t2 tg t3 t4 t1 tk ti th tl tm tn tp tq tr ts tt tu tv tw tx ty tz tA tj:V) (h:Hp) (K:Out→St→Option (V×Hp)) (rd:Bool) (n n0:Nat) (zz:List V)
noncomputable def bZ:Code:=am (an Tryz.f42) [1,0]
noncomputable def bW:List Fr:=[.seq (am (an Tryz.f42) [1,1])]
theorem afq:ak (xX s 42 wl k false) Tryz.f42 [a,b,d] h =
 bp (aU a h) fun v1 h2=>
 bm (aa s.P 48 v1 0) h2 fun v3 h4=>
 bm (ab s.P 3 v3 h4) h4 fun v5 h6=>
 bm (az s.P .eql 3 v5 (.lit (.int .i64 0))) h6 fun v7 h8=>
 gd v7 (
 bm (aa s.P 48 v1 1) h8 fun v9 hC=>
 bm (ab s.P 3 v9 hC) hC fun vA hE=>
 bp (yC s k wl 42 false true (.fn (.func 81) [] []) [vA,b] hE) fun vC hF=>
 yO s k wl 42 Tryz.f42 bZ 8 h2.length ([],[]) bW ⟨[a,b,d,v1,uu,uu,(.lit (.bool false)),v3,v5,v7,(.lit (.bool true)),v9,vA,b,vC,uu,uu,uu,uu,uu,uu,uu,uu,uu,uu,uu,uu,uu,uu,uu,uu,uu,uu,uu,uu,uu,uu],hF⟩) (
 yO s k wl 42 Tryz.f42 bZ 8 h2.length ([],[]) bW ⟨[a,b,d,v1,uu,uu,(.lit (.bool false)),v3,v5,v7,(.lit (.bool false)),uu,uu,uu,uu,uu,uu,uu,uu,uu,uu,uu,uu,uu,uu,uu,uu,uu,uu,uu,uu,uu,uu,uu,uu,uu,uu],h8⟩) (
 yO s k wl 42 Tryz.f42 bZ 5 h2.length ([],[]) bW ⟨[a,b,d,v1,uu,uu,(.lit (.bool false)),v3,v5,v7,v7,uu,uu,uu,uu,uu,uu,uu,uu,uu,uu,uu,uu,uu,uu,uu,uu,uu,uu,uu,uu,uu,uu,uu,uu,uu,uu],h8⟩):=kB
theorem afU:evF Tryz.prog xM (k+1) wl 42 [a,b,d] h=ak (xX (xS k) 42 wl k false) Tryz.f42 [a,b,d] h:=by kernel_rfl
theorem Sq:yO s k wl 42 Tryz.f42 bZ 8 m0 ac bW ⟨(a::b::d::e::j::f::g::l::u::v::o::q::r::y::x::E::z::F::A::B::G::D::I::J::L::M::zz),h⟩ =
 bm (aT o x (.lit (.bool false))) h fun vB hG=>
 gd vB (
 yO s k wl 42 Tryz.f42 bZ 19 m0 ac bW ⟨(a::b::d::e::j::f::g::l::u::v::o::q::r::y::x::vB::(.lit (.bool true))::uu::uu::uu::uu::uu::uu::uu::uu::uu::zz),hG⟩) (
 bm (aa s.P 48 e 0) hG fun vD hH=>
 bm (ab s.P 3 vD hH) hH fun vE hI=>
 bm (az s.P .eql 3 vE (.lit (.int .i64 1))) hI fun vF hJ=>
 yO s k wl 42 Tryz.f42 bZ 14 m0 ac bW ⟨(a::b::d::e::j::f::g::l::u::v::o::q::r::y::x::vB::(.lit (.bool false))::vD::vE::vF::vF::D::I::J::L::M::zz),hJ⟩) (
 yO s k wl 42 Tryz.f42 bZ 11 m0 ac bW ⟨(a::b::d::e::j::f::g::l::u::v::o::q::r::y::x::vB::vB::uu::A::B::G::D::I::J::L::M::zz),hG⟩):=kG
theorem Sv:yO s k wl 42 Tryz.f42 bZ 19 m0 ac bW ⟨[a,b,d,e,j,f,g,l,u,v,o,q,r,y,x,E,z,F,A,B,G,D,I,J,L,M,T,O,U,Q,N,R,Y,t0,Z,X,W],h⟩ =
 bm (aT z (.lit (.bool true)) M) h fun vG hK=>
 gd vG (
 yO s k wl 42 Tryz.f42 bZ 24 m0 ac bW ⟨[a,b,d,e,j,f,g,l,u,v,o,q,r,y,x,E,z,F,A,B,G,D,I,J,L,M,vG,(.lit (.bool true)),uu,uu,uu,R,Y,t0,Z,X,W],hK⟩) (
 bm (aa s.P 48 e 0) hK fun vO hS=>
 bm (ab s.P 3 vO hS) hS fun vP hV=>
 bm (az s.P .eql 3 vP (.lit (.int .i64 2))) hV fun vV hW=>
 yO s k wl 42 Tryz.f42 bZ 24 m0 ac bW ⟨[a,b,d,e,j,f,g,l,u,v,o,q,r,y,x,E,z,F,A,B,G,D,I,J,L,M,vG,(.lit (.bool false)),vO,vP,vV,R,Y,t0,Z,X,W],hW⟩) (
 yO s k wl 42 Tryz.f42 bZ 22 m0 ac bW ⟨[a,b,d,e,j,f,g,l,u,v,o,q,r,y,x,E,z,F,A,B,G,D,I,J,L,M,vG,vG,uu,Q,N,R,Y,t0,Z,X,W],hK⟩):=kG
theorem SA:yO s k wl 42 Tryz.f42 bZ 14 m0 ac bW ⟨(a::b::d::e::j::f::g::l::u::v::o::q::r::y::x::E::z::F::A::B::G::D::I::J::L::zz),h⟩ =
 gd G (
 bm (aa s.P 48 e 1) h fun vH hO=>
 bm (ab s.P 3 vH hO) hO fun vQ hT=>
 bp (yC s k wl 42 false true (.fn (.func 81) [] []) [vQ,d] hT) fun vT hX=>
 yO s k wl 42 Tryz.f42 bZ 18 m0 ac bW ⟨(a::b::d::e::j::f::g::l::u::v::o::q::r::y::x::E::z::F::A::B::(.lit (.bool true))::vH::vQ::d::vT::zz),hX⟩) (
 yO s k wl 42 Tryz.f42 bZ 18 m0 ac bW ⟨(a::b::d::e::j::f::g::l::u::v::o::q::r::y::x::E::z::F::A::B::(.lit (.bool false))::uu::uu::uu::uu::zz),h⟩) (
 yO s k wl 42 Tryz.f42 bZ 15 m0 ac bW ⟨(a::b::d::e::j::f::g::l::u::v::o::q::r::y::x::E::z::F::A::B::G::uu::I::J::L::zz),h⟩):=kG
theorem Sl:yO s k wl 42 Tryz.f42 bZ 24 m0 ac bW ⟨[a,b,d,e,j,f,g,l,u,v,o,q,r,y,x,E,z,F,A,B,G,D,I,J,L,M,T,O,U,Q,N,R,Y,t0,Z,X,W],h⟩ =
 bm (aT O (.lit (.bool true)) N) h fun vK hQ=>
 gd vK (
 yO s k wl 42 Tryz.f42 bZ 29 m0 ac bW ⟨[a,b,d,e,j,f,g,l,u,v,o,q,r,y,x,E,z,F,A,B,G,D,I,J,L,M,T,O,U,Q,N,vK,(.lit (.bool true)),uu,uu,uu,W],hQ⟩) (
 bm (aa s.P 48 e 0) hQ fun vI hL=>
 bm (ab s.P 3 vI hL) hL fun vJ hM=>
 bm (az s.P .eql 3 vJ (.lit (.int .i64 3))) hM fun vN hA=>
 yO s k wl 42 Tryz.f42 bZ 29 m0 ac bW ⟨[a,b,d,e,j,f,g,l,u,v,o,q,r,y,x,E,z,F,A,B,G,D,I,J,L,M,T,O,U,Q,N,vK,(.lit (.bool false)),vI,vJ,vN,W],hA⟩) (
 yO s k wl 42 Tryz.f42 bZ 27 m0 ac bW ⟨[a,b,d,e,j,f,g,l,u,v,o,q,r,y,x,E,z,F,A,B,G,D,I,J,L,M,T,O,U,Q,N,vK,vK,uu,Z,X,W],hQ⟩):=kG
theorem Sk:yO s k wl 42 Tryz.f42 bZ 18 m0 ac bW ⟨(a::b::d::e::j::f::g::l::u::v::o::q::r::y::x::E::z::F::A::B::G::D::I::J::L::M::zz),h⟩ =
 gd z (
 yO s k wl 42 Tryz.f42 bZ 19 m0 ac bW ⟨(a::b::d::e::j::f::g::l::u::v::o::q::r::y::x::E::(.lit (.bool true))::F::A::B::G::D::I::J::L::uu::zz),h⟩) (
 bm (aT G L (.lit (.bool false))) h fun vR hN=>
 yO s k wl 42 Tryz.f42 bZ 19 m0 ac bW ⟨(a::b::d::e::j::f::g::l::u::v::o::q::r::y::x::E::(.lit (.bool false))::F::A::B::G::D::I::J::L::vR::zz),hN⟩) (
 yO s k wl 42 Tryz.f42 bZ 19 m0 ac bW ⟨(a::b::d::e::j::f::g::l::u::v::o::q::r::y::x::E::z::F::A::B::G::D::I::J::L::uu::zz),h⟩):=kG
theorem RN:yO s k wl 42 Tryz.f42 bZ 15 m0 ac bW ⟨(a::b::d::e::j::f::g::l::u::v::o::q::r::y::x::E::z::F::A::B::G::D::I::J::L::zz),h⟩ =
 gd G (
 bm (ab s.P 3 D h) h fun vL hP=>
 bp (yC s k wl 42 false true (.fn (.func 81) [] []) [vL,d] hP) fun vW hY=>
 yO s k wl 42 Tryz.f42 bZ 18 m0 ac bW ⟨(a::b::d::e::j::f::g::l::u::v::o::q::r::y::x::E::z::F::A::B::(.lit (.bool true))::D::vL::d::vW::zz),hY⟩) (
 yO s k wl 42 Tryz.f42 bZ 18 m0 ac bW ⟨(a::b::d::e::j::f::g::l::u::v::o::q::r::y::x::E::z::F::A::B::(.lit (.bool false))::D::uu::uu::uu::zz),h⟩) (
 yO s k wl 42 Tryz.f42 bZ 16 m0 ac bW ⟨(a::b::d::e::j::f::g::l::u::v::o::q::r::y::x::E::z::F::A::B::G::D::uu::J::L::zz),h⟩):=kG
theorem Ri:yO s k wl 42 Tryz.f42 bZ 29 m0 ac bW ⟨[a,b,d,e,j,f,g,l,u,v,o,q,r,y,x,E,z,F,A,B,G,D,I,J,L,M,T,O,U,Q,N,R,Y,t0,Z,X,W],h⟩ =
 bm (aT Y (.lit (.bool true)) X) h fun vX hZ=>
 some (vX,hZ):=kG
theorem Rm:yO s k wl 42 Tryz.f42 bZ 16 m0 ac bW ⟨(a::b::d::e::j::f::g::l::u::v::o::q::r::y::x::E::z::F::A::B::G::D::I::J::L::zz),h⟩ =
 gd G (
 bp (yC s k wl 42 false true (.fn (.func 81) [] []) [I,d] h) fun vY ha=>
 yO s k wl 42 Tryz.f42 bZ 18 m0 ac bW ⟨(a::b::d::e::j::f::g::l::u::v::o::q::r::y::x::E::z::F::A::B::(.lit (.bool true))::D::I::d::vY::zz),ha⟩) (
 yO s k wl 42 Tryz.f42 bZ 18 m0 ac bW ⟨(a::b::d::e::j::f::g::l::u::v::o::q::r::y::x::E::z::F::A::B::(.lit (.bool false))::D::I::uu::uu::zz),h⟩) (
 yO s k wl 42 Tryz.f42 bZ 17 m0 ac bW ⟨(a::b::d::e::j::f::g::l::u::v::o::q::r::y::x::E::z::F::A::B::G::D::I::uu::L::zz),h⟩):=kG
theorem SG:yO s k wl 42 Tryz.f42 bZ 17 m0 ac bW ⟨(a::b::d::e::j::f::g::l::u::v::o::q::r::y::x::E::z::F::A::B::G::D::I::J::L::zz),h⟩ =
 gd G (
 bp (yC s k wl 42 false true (.fn (.func 81) [] []) [I,J] h) fun vZ hb=>
 yO s k wl 42 Tryz.f42 bZ 18 m0 ac bW ⟨(a::b::d::e::j::f::g::l::u::v::o::q::r::y::x::E::z::F::A::B::(.lit (.bool true))::D::I::J::vZ::zz),hb⟩) (
 yO s k wl 42 Tryz.f42 bZ 18 m0 ac bW ⟨(a::b::d::e::j::f::g::l::u::v::o::q::r::y::x::E::z::F::A::B::(.lit (.bool false))::D::I::J::uu::zz),h⟩) (
 yO s k wl 42 Tryz.f42 bZ 18 m0 ac bW ⟨(a::b::d::e::j::f::g::l::u::v::o::q::r::y::x::E::z::F::A::B::G::D::I::J::uu::zz),h⟩):=kG
theorem Bs (cx:Cx) (s:St):av cx K bW .ret s=K .ret s:=by kernel_rfl
-- names: afq,Sq,Sv,SA,Sl,Sk,RN,Ri,Rm,SG,Bs
noncomputable def Ig:Code:=am (an Tryz.f59) [1,1,0,1,0,0]
noncomputable def Is:List Fr:=[.block 0,.seq (am (an Tryz.f59) [1,1,1])]
theorem ack:ak (xX s 59 wl k false) Tryz.f59 [a] h =
 bp (aU a h) fun v1 h2=>
 bp (some (.own h2.length 0 0,h2++[.rows 0 [] 0 true])) fun v3 h4=>
 bp (some (.own h4.length 0 0,h4++[.rows 0 [] 0 true])) fun v5 h6=>
 bm (ab s.P 23 v1 h6) h6 fun v7 h8=>
 bp (yC s k wl 59 false true (.fn (.func 103) [] []) [v7] h8) fun v9 hC=>
 yI s k wl 59 Tryz.f59 Ig hC.length Is k ⟨[(V.kill hC.length a),(V.kill hC.length v1),(V.kill hC.length v3),(V.kill hC.length v5),(V.kill hC.length v7),(V.kill hC.length v9),(.lit (.int .i64 0)),.junk,.junk,.junk,.junk,.junk,(V.kill hC.length uu)],co hC.length hC⟩:=kB
theorem afH:evF Tryz.prog xM (k+1) wl 59 [a] h=ak (xX (xS k) 59 wl k false) Tryz.f59 [a] h:=by kernel_rfl
theorem abW (P:Program):aD P Tryz.f59 .ret ⟨[a,b,d,e,j,f,g,l,u,v,o,q,r],h⟩=some (d,h):=by kernel_rfl
theorem Sa:itX (xX s 59 wl k rd) Ig n0 K (n+1) ⟨[a,b,d,e,j,f,g,l,u,v,o,q,r],h⟩ =
 bm (az s.P .lss 3 g f) h fun vA hE=>
 cnd vA (
 bp (aK s.P wl 26 1 [(0,(.lit (.int .u64 0)))] hE) fun vC hF=>
 bp (ng s.P wl 26 26 e vC hF) fun vB hG=>
 bm (az s.P .add 3 g (.lit (.int .i64 1))) hG fun vD hH=>
 itX (xX s 59 wl k rd) Ig n0 K n ⟨[(V.kill n0 a),(V.kill n0 b),(V.kill n0 d),(V.kill n0 vB),(V.kill n0 j),(V.kill n0 f),(V.kill n0 vD),.junk,.junk,.junk,.junk,.junk,(V.kill n0 r)],co n0 hH⟩) (
 K (.exit 0) ⟨[(V.kill n0 a),(V.kill n0 b),(V.kill n0 d),(V.kill n0 e),(V.kill n0 j),(V.kill n0 f),.junk,.junk,.junk,.junk,.junk,.junk,(V.kill n0 r)],co n0 hE⟩):=kI
theorem MP:av (xX s 59 wl k false) (aD s.P Tryz.f59) Is (.exit 0) ⟨[a,b,d,e,j,f,g,l,u,v,o,q,r],h⟩ =
 some (e,h):=kR
theorem pM (cx:Cx) (s:St):av cx K Is .ret s=K .ret s:=by kernel_rfl
-- names: ack,abW,Sa,MP,pM
theorem afg:ak (xX s 60 wl k false) Tryz.f60 [a] h =
 bp (aA s.P 65 h) fun v1 h2=>
 bp (yC s k wl 60 false true (.fn (.func 104) [] []) [(.lit (.int .i64 1)),a,(.lit (.int .u64 0))] h2) fun v3 h4=>
 bm (bc s.P 65 [(2,v3)]) h4 fun v5 h6=>
 bs (ai s.P wl 65 v1 v5 h6) fun h7=>
 eg [ab s.P 65 v1 h7] h7:=kB
theorem agn:evF Tryz.prog xM (k+1) wl 60 [a] h=ak (xX (xS k) 60 wl k false) Tryz.f60 [a] h:=by kernel_rfl
-- names: afg,
noncomputable def HB:Code:=am (an Tryz.f81) [1,0]
noncomputable def D2:List Fr:=[.seq (am (an Tryz.f81) [1,1])]
theorem afF:ak (xX s 81 wl k false) Tryz.f81 [a,b] h =
 bm (az s.P .geq 3 a (.lit (.int .i64 0))) h fun v1 h2=>
 gd v1 (
 bm (az s.P .lss 3 a b) h2 fun v3 h4=>
 yO s k wl 81 Tryz.f81 HB 6 h.length ([],[]) D2 ⟨[a,b,uu,uu,(.lit (.bool false)),a,v1,(.lit (.bool true)),a,b,v3,uu],h4⟩) (
 yO s k wl 81 Tryz.f81 HB 6 h.length ([],[]) D2 ⟨[a,b,uu,uu,(.lit (.bool false)),a,v1,(.lit (.bool false)),uu,uu,uu,uu],h2⟩) (
 yO s k wl 81 Tryz.f81 HB 4 h.length ([],[]) D2 ⟨[a,b,uu,uu,(.lit (.bool false)),a,v1,v1,uu,uu,uu,uu],h2⟩):=kB
theorem agu:evF Tryz.prog xM (k+1) wl 81 [a,b] h=ak (xX (xS k) 81 wl k false) Tryz.f81 [a,b] h:=by kernel_rfl
theorem RR:yO s k wl 81 Tryz.f81 HB 6 m0 ac D2 ⟨[a,b,d,e,j,f,g,l,u,v,o,q],h⟩ =
 bm (aT l o (.lit (.bool false))) h fun v5 h6=>
 some (v5,h6):=kG
theorem Bi (cx:Cx) (s:St):av cx K D2 .ret s=K .ret s:=by kernel_rfl
-- names: afF,RR,Bi
end
end Go.Ab
set_option maxRecDepth 100000
set_option linter.unusedVariables false
namespace Go.Ab
open Go.Proofs
section
variable (s:Sys) (k wl:Nat) (m0:Nat) (ac:List Nat×List Nat) (d a b f u v e x j g I y z A L M B D E o F G q Q N R O J t1 U t2 t3 t4 t5 t6 t7 t8 t9 ta W T tb tc td te tf tg th ti tj tk X Y Z tx ty tz tl tm tn tG tH tI tJ tK tL tM tN tO tA tB tC tD tE tF tp tq tr ts tt tu tv tw t0:V) (h:Hp) (K:Out→St→Option (V×Hp)) (rd:Bool) (n n0:Nat) (zz:List V)
noncomputable def rD:Code:=am (an Tryz.f23) [1,0,0]
noncomputable def oV:List Fr:=[.seq (am (an Tryz.f23) [1,0,1]),.seq (am (an Tryz.f23) [1,1])]
noncomputable def HQ:Code:=am (an Tryz.f23) [1,1,1,1,0,1,0,0]
noncomputable def Ix:List Fr:=[.block 0,.seq (am (an Tryz.f23) [1,1,1,1,1])]
noncomputable def rA:Code:=am (an Tryz.f23) [1,1,1,1,1,0,1,0,0]
noncomputable def Bl:List Fr:=[.block 2,.seq (am (an Tryz.f23) [1,1,1,1,1,1])]
noncomputable def HP:Code:=am (an Tryz.f23) [1,1,1,1,1,0,1,0,0,1,1,0,0,1,0,1,0,0]
noncomputable def If:List Fr:=[.block 4,.seq (am (an Tryz.f23) [1,1,1,1,1,0,1,0,0,1,1,0,0,1,1]),.block 3,.seq (am (an Tryz.f23) [1,1,1,1,1,0,1,0,0,1,1,1])]
theorem WG:ak (xX s 23 wl k false) Tryz.f23 [d,a,b] h =
 bp (aU d h) fun v1 h2=>
 bp (aA s.P 30 h2) fun v3 h4=>
 bm (ab s.P 23 v1 h4) h4 fun v5 h6=>
 bp (yC s k wl 23 false true (.fn (.func 50) [] []) [v5] h6) fun v7 h8=>
 bm (vUn .not v7) h8 fun v9 hC=>
 gd v9 (
 yO s k wl 23 Tryz.f23 rD 7 h4.length ([],[]) oV ⟨(d::a::b::v1::uu::uu::v3::(.lit (.bool false))::uu::uu::uu::uu::uu::uu::uu::uu::v5::v7::v9::(.lit (.bool true))::uu::uu::uu::uu::uu::uu::uu::uu::uu::uu::uu::uu::uu::uu::uu::uu::uu::uu::uu::uu::uu::uu::uu::uu::uu::uu::uu::uu::uu::uu::uu::uu::uu::uu::uu::uu::uu::uu::uu::uu::uu::uu::uu::uu::uu::uu::uu::uu::uu::uu::uu::uu::uu::uu::uu::uu::uu::uu::uu::uu::uu::uu::uu::uu::[]),hC⟩) (
 bp (yC s k wl 23 false true (.fn (.func 56) [] []) [a] hC) fun vA hE=>
 bm (vUn .not vA) hE fun vC hF=>
 yO s k wl 23 Tryz.f23 rD 7 h4.length ([],[]) oV ⟨(d::a::b::v1::uu::uu::v3::(.lit (.bool false))::uu::uu::uu::uu::uu::uu::uu::uu::v5::v7::v9::(.lit (.bool false))::a::vA::vC::uu::uu::uu::uu::uu::uu::uu::uu::uu::uu::uu::uu::uu::uu::uu::uu::uu::uu::uu::uu::uu::uu::uu::uu::uu::uu::uu::uu::uu::uu::uu::uu::uu::uu::uu::uu::uu::uu::uu::uu::uu::uu::uu::uu::uu::uu::uu::uu::uu::uu::uu::uu::uu::uu::uu::uu::uu::uu::uu::uu::uu::[]),hF⟩) (
 yO s k wl 23 Tryz.f23 rD 5 h4.length ([],[]) oV ⟨(d::a::b::v1::uu::uu::v3::(.lit (.bool false))::uu::uu::uu::uu::uu::uu::uu::uu::v5::v7::v9::v9::uu::uu::uu::uu::uu::uu::uu::uu::uu::uu::uu::uu::uu::uu::uu::uu::uu::uu::uu::uu::uu::uu::uu::uu::uu::uu::uu::uu::uu::uu::uu::uu::uu::uu::uu::uu::uu::uu::uu::uu::uu::uu::uu::uu::uu::uu::uu::uu::uu::uu::uu::uu::uu::uu::uu::uu::uu::uu::uu::uu::uu::uu::uu::uu::[]),hC⟩):=kB
theorem aah:evF Tryz.prog xM (k+1) wl 23 [d,a,b] h=ak (xX (xS k) 23 wl k false) Tryz.f23 [d,a,b] h:=by kernel_rfl
theorem WA (P:Program):aD P Tryz.f23 .ret ⟨(d::a::b::f::u::v::e::x::j::g::I::y::z::A::L::M::B::D::E::o::F::G::q::Q::N::R::O::J::t1::U::t2::t3::t4::t5::t6::t7::t8::t9::ta::W::T::tb::tc::td::te::tf::tg::th::ti::tj::tk::X::Y::Z::tx::ty::tz::tl::tm::tn::tG::tH::tI::tJ::tK::tL::tM::tN::tO::tA::tB::tC::tD::tE::tF::tp::tq::tr::ts::tt::tu::tv::tw::t0::[]),h⟩=eg [ab P 30 e h,some x] h:=by kernel_rfl
theorem Ba:yO s k wl 23 Tryz.f23 rD 7 m0 ac oV ⟨(d::a::b::f::u::v::e::x::j::g::I::y::z::A::L::M::B::D::E::o::F::G::q::Q::N::R::O::J::zz),h⟩ =
 bm (aT o (.lit (.bool true)) q) h fun vB hG=>
 gd vB (
 yO s k wl 23 Tryz.f23 rD 12 m0 ac oV ⟨(d::a::b::f::u::v::e::x::j::g::I::y::z::A::L::M::B::D::E::o::F::G::q::vB::(.lit (.bool true))::uu::uu::uu::zz),hG⟩) (
 bp (bw s.P 40 b hG) fun vD hH=>
 bm (az s.P .gtr 3 vD (.lit (.int .i64 3))) hH fun vE hI=>
 yO s k wl 23 Tryz.f23 rD 12 m0 ac oV ⟨(d::a::b::f::u::v::e::x::j::g::I::y::z::A::L::M::B::D::E::o::F::G::q::vB::(.lit (.bool false))::b::vD::vE::zz),hI⟩) (
 yO s k wl 23 Tryz.f23 rD 10 m0 ac oV ⟨(d::a::b::f::u::v::e::x::j::g::I::y::z::A::L::M::B::D::E::o::F::G::q::vB::vB::uu::O::J::zz),hG⟩):=kG
theorem Bc:yO s k wl 23 Tryz.f23 rD 12 m0 ac oV ⟨(d::a::b::f::u::v::e::x::j::g::I::y::z::A::L::M::B::D::E::o::F::G::q::Q::N::R::O::J::t1::U::t2::t3::t4::t5::t6::t7::t8::t9::ta::W::T::tb::tc::td::te::tf::tg::th::ti::tj::tk::X::Y::Z::tx::ty::tz::tl::tm::tn::tG::tH::tI::tJ::tK::tL::tM::tN::tO::tA::tB::tC::tD::tE::tF::tp::tq::tr::ts::tt::tu::tv::tw::t0::[]),h⟩ =
 bm (aT N (.lit (.bool true)) J) h fun vF hJ=>
 cnd vF (
 bm (bc s.P 30 []) hJ fun vG hK=>
 bs (ai s.P wl 30 e vG hK) fun hg=>
 eg [ab s.P 30 e hg,some (.lit (.bool false))] hg) (
 bp (yC s k wl 23 false true (.fn (.func 57) [] []) [a] hJ) fun vb hc=>
 bp (aA s.P 30 hc) fun vc hh=>
 stO hc.length f (
 bm (ab s.P 23 f hh) hh fun vd hw=>
 bp (yC s k wl 23 true true (.fn (.func 58) [] []) [a] hw) fun ve hi=>
 stO hc.length f (
 bm (ab s.P 23 f hi) hi fun vf hx=>
 bp (yC s k wl 23 true true (.fn (.func 59) [] []) [vf] hx) fun vg hy=>
 bm (bc s.P 30 [(0,vd),(1,ve),(2,vg)]) hy fun vh hz=>
 bs (ai s.P wl 30 vc vh hz) fun hL=>
 bm (aa s.P 23 f 0) hL fun vJ hM=>
 bm (ab s.P 3 vJ hM) hM fun vN hA=>
 yI s k wl 23 Tryz.f23 HQ hA.length Ix k ⟨((V.kill hA.length d)::(V.kill hA.length a)::(V.kill hA.length b)::(V.kill hA.length f)::(V.kill hA.length u)::(V.kill hA.length v)::(V.kill hA.length e)::(V.kill hA.length x)::(V.kill hA.length vb)::(V.kill hA.length vc)::(V.kill hA.length I)::(V.kill hA.length y)::(V.kill hA.length z)::(V.kill hA.length A)::(V.kill hA.length L)::(V.kill hA.length M)::(V.kill hA.length B)::(V.kill hA.length D)::(V.kill hA.length E)::(V.kill hA.length o)::(V.kill hA.length F)::(V.kill hA.length G)::(V.kill hA.length q)::(V.kill hA.length Q)::(V.kill hA.length N)::(V.kill hA.length R)::(V.kill hA.length O)::(V.kill hA.length J)::(V.kill hA.length vF)::(V.kill hA.length U)::(V.kill hA.length a)::(V.kill hA.length vb)::(V.kill hA.length vd)::(V.kill hA.length a)::(V.kill hA.length ve)::(V.kill hA.length vf)::(V.kill hA.length vg)::(V.kill hA.length vh)::(V.kill hA.length vJ)::(V.kill hA.length vN)::(.lit (.int .i64 0))::.junk::.junk::.junk::.junk::.junk::.junk::.junk::.junk::.junk::.junk::(V.kill hA.length X)::(V.kill hA.length Y)::(V.kill hA.length Z)::(V.kill hA.length tx)::(V.kill hA.length ty)::(V.kill hA.length tz)::(V.kill hA.length tl)::(V.kill hA.length tm)::(V.kill hA.length tn)::(V.kill hA.length tG)::(V.kill hA.length tH)::(V.kill hA.length tI)::(V.kill hA.length tJ)::(V.kill hA.length tK)::(V.kill hA.length tL)::(V.kill hA.length tM)::(V.kill hA.length tN)::(V.kill hA.length tO)::(V.kill hA.length tA)::(V.kill hA.length tB)::(V.kill hA.length tC)::(V.kill hA.length tD)::(V.kill hA.length tE)::(V.kill hA.length tF)::(V.kill hA.length tp)::(V.kill hA.length tq)::(V.kill hA.length tr)::(V.kill hA.length ts)::(V.kill hA.length tt)::(V.kill hA.length tu)::(V.kill hA.length tv)::(V.kill hA.length tw)::(V.kill hA.length t0)::[]),co hA.length hA⟩))):=kG
theorem Rp:itX (xX s 23 wl k rd) HQ n0 K (n+1) ⟨(d::a::b::f::u::v::e::x::j::g::I::y::z::A::L::M::B::D::E::o::F::G::q::Q::N::R::O::J::t1::U::t2::t3::t4::t5::t6::t7::t8::t9::ta::W::T::tb::tc::td::te::tf::tg::th::ti::tj::tk::X::Y::Z::tx::ty::tz::tl::tm::tn::tG::tH::tI::tJ::tK::tL::tM::tN::tO::tA::tB::tC::tD::tE::tF::tp::tq::tr::ts::tt::tu::tv::tw::t0::[]),h⟩ =
 bm (az s.P .lss 3 T W) h fun vR hN=>
 cnd vR (
 bm (aa s.P 30 g 3) hN fun vL hP=>
 stO hN.length vL (
 bm (ab s.P 27 vL hP) hP fun vW hY=>
 bp (dW (xX s 23 wl k rd) true true (.fn (.func 60) [] []) [T] hY) fun vX hZ=>
 bp (cW s.P wl 27 1 [(0,vX)] hZ) fun vY ha=>
 bp (ng s.P wl 27 27 vW vY ha) fun vZ hb=>
 bm (aa s.P 30 g 3) hb fun vx h58=>
 bs (ai s.P wl 27 vx vZ h58) fun h59=>
 bm (az s.P .add 3 T (.lit (.int .i64 1))) h59 fun vy h61=>
 itX (xX s 23 wl k rd) HQ n0 K n ⟨((V.kill n0 d)::(V.kill n0 a)::(V.kill n0 b)::(V.kill n0 f)::(V.kill n0 u)::(V.kill n0 v)::(V.kill n0 e)::(V.kill n0 x)::(V.kill n0 j)::(V.kill n0 g)::(V.kill n0 T)::(V.kill n0 y)::(V.kill n0 z)::(V.kill n0 A)::(V.kill n0 L)::(V.kill n0 M)::(V.kill n0 B)::(V.kill n0 D)::(V.kill n0 E)::(V.kill n0 o)::(V.kill n0 F)::(V.kill n0 G)::(V.kill n0 q)::(V.kill n0 Q)::(V.kill n0 N)::(V.kill n0 R)::(V.kill n0 O)::(V.kill n0 J)::(V.kill n0 t1)::(V.kill n0 U)::(V.kill n0 t2)::(V.kill n0 t3)::(V.kill n0 t4)::(V.kill n0 t5)::(V.kill n0 t6)::(V.kill n0 t7)::(V.kill n0 t8)::(V.kill n0 t9)::(V.kill n0 ta)::(V.kill n0 W)::(V.kill n0 vy)::.junk::.junk::.junk::.junk::.junk::.junk::.junk::.junk::.junk::.junk::(V.kill n0 X)::(V.kill n0 Y)::(V.kill n0 Z)::(V.kill n0 tx)::(V.kill n0 ty)::(V.kill n0 tz)::(V.kill n0 tl)::(V.kill n0 tm)::(V.kill n0 tn)::(V.kill n0 tG)::(V.kill n0 tH)::(V.kill n0 tI)::(V.kill n0 tJ)::(V.kill n0 tK)::(V.kill n0 tL)::(V.kill n0 tM)::(V.kill n0 tN)::(V.kill n0 tO)::(V.kill n0 tA)::(V.kill n0 tB)::(V.kill n0 tC)::(V.kill n0 tD)::(V.kill n0 tE)::(V.kill n0 tF)::(V.kill n0 tp)::(V.kill n0 tq)::(V.kill n0 tr)::(V.kill n0 ts)::(V.kill n0 tt)::(V.kill n0 tu)::(V.kill n0 tv)::(V.kill n0 tw)::(V.kill n0 t0)::[]),co n0 h61⟩)) (
 K (.exit 0) ⟨((V.kill n0 d)::(V.kill n0 a)::(V.kill n0 b)::(V.kill n0 f)::(V.kill n0 u)::(V.kill n0 v)::(V.kill n0 e)::(V.kill n0 x)::(V.kill n0 j)::(V.kill n0 g)::(V.kill n0 I)::(V.kill n0 y)::(V.kill n0 z)::(V.kill n0 A)::(V.kill n0 L)::(V.kill n0 M)::(V.kill n0 B)::(V.kill n0 D)::(V.kill n0 E)::(V.kill n0 o)::(V.kill n0 F)::(V.kill n0 G)::(V.kill n0 q)::(V.kill n0 Q)::(V.kill n0 N)::(V.kill n0 R)::(V.kill n0 O)::(V.kill n0 J)::(V.kill n0 t1)::(V.kill n0 U)::(V.kill n0 t2)::(V.kill n0 t3)::(V.kill n0 t4)::(V.kill n0 t5)::(V.kill n0 t6)::(V.kill n0 t7)::(V.kill n0 t8)::(V.kill n0 t9)::(V.kill n0 ta)::(V.kill n0 W)::.junk::.junk::.junk::.junk::.junk::.junk::.junk::.junk::.junk::.junk::.junk::(V.kill n0 X)::(V.kill n0 Y)::(V.kill n0 Z)::(V.kill n0 tx)::(V.kill n0 ty)::(V.kill n0 tz)::(V.kill n0 tl)::(V.kill n0 tm)::(V.kill n0 tn)::(V.kill n0 tG)::(V.kill n0 tH)::(V.kill n0 tI)::(V.kill n0 tJ)::(V.kill n0 tK)::(V.kill n0 tL)::(V.kill n0 tM)::(V.kill n0 tN)::(V.kill n0 tO)::(V.kill n0 tA)::(V.kill n0 tB)::(V.kill n0 tC)::(V.kill n0 tD)::(V.kill n0 tE)::(V.kill n0 tF)::(V.kill n0 tp)::(V.kill n0 tq)::(V.kill n0 tr)::(V.kill n0 ts)::(V.kill n0 tt)::(V.kill n0 tu)::(V.kill n0 tv)::(V.kill n0 tw)::(V.kill n0 t0)::[]),co n0 hN⟩):=kI
theorem AY:av (xX s 23 wl k false) (aD s.P Tryz.f23) Ix (.exit 0) ⟨(d::a::b::f::u::v::e::x::j::g::I::y::z::A::L::M::B::D::E::o::F::G::q::Q::N::R::O::J::t1::U::t2::t3::t4::t5::t6::t7::t8::t9::ta::W::T::tb::tc::td::te::tf::tg::th::ti::tj::tk::X::Y::Z::tx::ty::tz::tl::tm::tn::tG::tH::tI::tJ::tK::tL::tM::tN::tO::tA::tB::tC::tD::tE::tF::tp::tq::tr::ts::tt::tu::tv::tw::t0::[]),h⟩ =
 bp (bw s.P 40 b h) fun vz hD=>
 yI s k wl 23 Tryz.f23 rA hD.length Bl k ⟨((V.kill hD.length d)::(V.kill hD.length a)::(V.kill hD.length b)::(V.kill hD.length f)::(V.kill hD.length u)::(V.kill hD.length v)::(V.kill hD.length e)::(V.kill hD.length x)::(V.kill hD.length j)::(V.kill hD.length g)::(V.kill hD.length I)::(V.kill hD.length y)::(V.kill hD.length z)::(V.kill hD.length A)::(V.kill hD.length L)::(V.kill hD.length M)::(V.kill hD.length B)::(V.kill hD.length D)::(V.kill hD.length E)::(V.kill hD.length o)::(V.kill hD.length F)::(V.kill hD.length G)::(V.kill hD.length q)::(V.kill hD.length Q)::(V.kill hD.length N)::(V.kill hD.length R)::(V.kill hD.length O)::(V.kill hD.length J)::(V.kill hD.length t1)::(V.kill hD.length U)::(V.kill hD.length t2)::(V.kill hD.length t3)::(V.kill hD.length t4)::(V.kill hD.length t5)::(V.kill hD.length t6)::(V.kill hD.length t7)::(V.kill hD.length t8)::(V.kill hD.length t9)::(V.kill hD.length ta)::(V.kill hD.length W)::(V.kill hD.length T)::(V.kill hD.length tb)::(V.kill hD.length tc)::(V.kill hD.length td)::(V.kill hD.length te)::(V.kill hD.length tf)::(V.kill hD.length tg)::(V.kill hD.length th)::(V.kill hD.length ti)::(V.kill hD.length tj)::(V.kill hD.length tk)::(V.kill hD.length b)::(V.kill hD.length vz)::(.lit (.int .i64 0))::.junk::.junk::.junk::.junk::.junk::.junk::.junk::.junk::.junk::.junk::.junk::.junk::.junk::.junk::.junk::.junk::.junk::.junk::.junk::.junk::.junk::.junk::.junk::.junk::.junk::.junk::.junk::.junk::.junk::(V.kill hD.length t0)::[]),co hD.length hD⟩:=kR
theorem Sn:itX (xX s 23 wl k rd) rA n0 K (n+1) ⟨(d::a::b::f::u::v::e::x::j::g::I::y::z::A::L::M::B::D::E::o::F::G::q::Q::N::R::O::J::t1::U::t2::t3::t4::t5::t6::t7::t8::t9::ta::W::T::tb::tc::td::te::tf::tg::th::ti::tj::tk::X::Y::Z::tx::ty::tz::tl::tm::tn::tG::tH::tI::tJ::tK::tL::tM::tN::tO::tA::tB::tC::tD::tE::tF::tp::tq::tr::ts::tt::tu::tv::tw::t0::[]),h⟩ =
 bm (az s.P .lss 3 Z Y) h fun vi hd=>
 cnd vi (
 bm (al s.P 40 X Z hd) hd fun vj hj=>
 bm (ab s.P 53 vj hj) hj fun vU h69=>
 bp (bw s.P 53 vU h69) fun v70 hB=>
 itX (xX s 23 wl k rd) HP hB.length (av (xX s 23 wl k rd) (dc (xX s 23 wl k rd) rA n0 K n) If) k ⟨((V.kill hB.length d)::(V.kill hB.length a)::(V.kill hB.length b)::(V.kill hB.length f)::(V.kill hB.length u)::(V.kill hB.length v)::(V.kill hB.length e)::(V.kill hB.length x)::(V.kill hB.length j)::(V.kill hB.length g)::(V.kill hB.length I)::(V.kill hB.length y)::(V.kill hB.length vU)::(V.kill hB.length A)::(V.kill hB.length L)::(V.kill hB.length M)::(V.kill hB.length B)::(V.kill hB.length D)::(V.kill hB.length E)::(V.kill hB.length o)::(V.kill hB.length F)::(V.kill hB.length G)::(V.kill hB.length q)::(V.kill hB.length Q)::(V.kill hB.length N)::(V.kill hB.length R)::(V.kill hB.length O)::(V.kill hB.length J)::(V.kill hB.length t1)::(V.kill hB.length U)::(V.kill hB.length t2)::(V.kill hB.length t3)::(V.kill hB.length t4)::(V.kill hB.length t5)::(V.kill hB.length t6)::(V.kill hB.length t7)::(V.kill hB.length t8)::(V.kill hB.length t9)::(V.kill hB.length ta)::(V.kill hB.length W)::(V.kill hB.length T)::(V.kill hB.length tb)::(V.kill hB.length tc)::(V.kill hB.length td)::(V.kill hB.length te)::(V.kill hB.length tf)::(V.kill hB.length tg)::(V.kill hB.length th)::(V.kill hB.length ti)::(V.kill hB.length tj)::(V.kill hB.length tk)::(V.kill hB.length X)::(V.kill hB.length Y)::(V.kill hB.length Z)::(V.kill hB.length vi)::(V.kill hB.length vj)::(V.kill hB.length vU)::(V.kill hB.length vU)::(V.kill hB.length v70)::(.lit (.int .i64 0))::.junk::.junk::.junk::.junk::.junk::.junk::.junk::.junk::.junk::.junk::.junk::.junk::.junk::.junk::.junk::(V.kill hB.length tp)::(V.kill hB.length tq)::(V.kill hB.length tr)::(V.kill hB.length ts)::(V.kill hB.length tt)::(V.kill hB.length tu)::(V.kill hB.length tv)::(V.kill hB.length tw)::(V.kill hB.length t0)::[]),co hB.length hB⟩) (
 K (.exit 2) ⟨((V.kill n0 d)::(V.kill n0 a)::(V.kill n0 b)::(V.kill n0 f)::(V.kill n0 u)::(V.kill n0 v)::(V.kill n0 e)::(V.kill n0 x)::(V.kill n0 j)::(V.kill n0 g)::(V.kill n0 I)::(V.kill n0 y)::(V.kill n0 z)::(V.kill n0 A)::(V.kill n0 L)::(V.kill n0 M)::(V.kill n0 B)::(V.kill n0 D)::(V.kill n0 E)::(V.kill n0 o)::(V.kill n0 F)::(V.kill n0 G)::(V.kill n0 q)::(V.kill n0 Q)::(V.kill n0 N)::(V.kill n0 R)::(V.kill n0 O)::(V.kill n0 J)::(V.kill n0 t1)::(V.kill n0 U)::(V.kill n0 t2)::(V.kill n0 t3)::(V.kill n0 t4)::(V.kill n0 t5)::(V.kill n0 t6)::(V.kill n0 t7)::(V.kill n0 t8)::(V.kill n0 t9)::(V.kill n0 ta)::(V.kill n0 W)::(V.kill n0 T)::(V.kill n0 tb)::(V.kill n0 tc)::(V.kill n0 td)::(V.kill n0 te)::(V.kill n0 tf)::(V.kill n0 tg)::(V.kill n0 th)::(V.kill n0 ti)::(V.kill n0 tj)::(V.kill n0 tk)::(V.kill n0 X)::(V.kill n0 Y)::.junk::.junk::.junk::.junk::.junk::.junk::.junk::.junk::.junk::.junk::.junk::.junk::.junk::.junk::.junk::.junk::.junk::.junk::.junk::.junk::.junk::.junk::.junk::.junk::.junk::.junk::.junk::.junk::.junk::.junk::(V.kill n0 t0)::[]),co n0 hd⟩):=kI
theorem A9:av (xX s 23 wl k false) (aD s.P Tryz.f23) Bl (.exit 2) ⟨(d::a::b::f::u::v::e::x::j::g::I::y::z::A::L::M::B::D::E::o::F::G::q::Q::N::R::O::J::t1::U::t2::t3::t4::t5::t6::t7::t8::t9::ta::W::T::tb::tc::td::te::tf::tg::th::ti::tj::tk::X::Y::Z::tx::ty::tz::tl::tm::tn::tG::tH::tI::tJ::tK::tL::tM::tN::tO::tA::tB::tC::tD::tE::tF::tp::tq::tr::ts::tt::tu::tv::tw::t0::[]),h⟩ =
 bm (ab s.P 30 g h) h fun v72 h73=>
 bs (ai s.P wl 30 e v72 h73) fun hk=>
 eg [ab s.P 30 e hk,some (.lit (.bool true))] hk:=kR
theorem R9:itX (xX s 23 wl k rd) HP n0 K (n+1) ⟨(d::a::b::f::u::v::e::x::j::g::I::y::z::A::L::M::B::D::E::o::F::G::q::Q::N::R::O::J::t1::U::t2::t3::t4::t5::t6::t7::t8::t9::ta::W::T::tb::tc::td::te::tf::tg::th::ti::tj::tk::X::Y::Z::tx::ty::tz::tl::tm::tn::tG::tH::tI::tJ::tK::tL::tM::tN::tO::tA::tB::tC::tD::tE::tF::tp::tq::tr::ts::tt::tu::tv::tw::t0::[]),h⟩ =
 bm (az s.P .lss 3 tn tm) h fun vk he=>
 cnd vk (
 bm (al s.P 53 tl tn he) he fun vl hl=>
 bm (ab s.P 3 vl hl) hl fun vS h80=>
 bp (dW (xX s 23 wl k rd) false true (.fn (.func 61) [] []) [j,vS] h80) fun vM h82=>
 bm (az s.P .lss 3 vM (.lit (.int .i64 0))) h82 fun vm hm=>
 cnd vm (
 bm (bc s.P 30 []) hm fun vn h86=>
 bs (ai s.P wl 30 e vn h86) fun h87=>
 K .ret ⟨(d::a::b::f::u::v::e::(.lit (.bool false))::j::g::I::y::z::A::vS::vM::B::D::E::o::F::G::q::Q::N::R::O::J::t1::U::t2::t3::t4::t5::t6::t7::t8::t9::ta::W::T::tb::tc::td::te::tf::tg::th::ti::tj::tk::X::Y::Z::tx::ty::tz::tl::tm::tn::vk::vl::vS::j::vS::vM::vM::vm::vn::tA::tB::tC::tD::tE::tF::tp::tq::tr::ts::tt::tu::tv::tw::t0::[]),h87⟩) (
 bm (az s.P .add 3 vM (.lit (.int .i64 1))) hm fun v88 h89=>
 bp (dW (xX s 23 wl k rd) false true (.fn (.func 62) [] []) [j,vM,v88] h89) fun v90 h91=>
 bm (az s.P .add 3 tn (.lit (.int .i64 1))) h91 fun v92 h93=>
 itX (xX s 23 wl k rd) HP n0 K n ⟨((V.kill n0 d)::(V.kill n0 a)::(V.kill n0 b)::(V.kill n0 f)::(V.kill n0 u)::(V.kill n0 v)::(V.kill n0 e)::(V.kill n0 x)::(V.kill n0 v90)::(V.kill n0 g)::(V.kill n0 I)::(V.kill n0 y)::(V.kill n0 z)::(V.kill n0 A)::(V.kill n0 vS)::(V.kill n0 vM)::(V.kill n0 B)::(V.kill n0 D)::(V.kill n0 E)::(V.kill n0 o)::(V.kill n0 F)::(V.kill n0 G)::(V.kill n0 q)::(V.kill n0 Q)::(V.kill n0 N)::(V.kill n0 R)::(V.kill n0 O)::(V.kill n0 J)::(V.kill n0 t1)::(V.kill n0 U)::(V.kill n0 t2)::(V.kill n0 t3)::(V.kill n0 t4)::(V.kill n0 t5)::(V.kill n0 t6)::(V.kill n0 t7)::(V.kill n0 t8)::(V.kill n0 t9)::(V.kill n0 ta)::(V.kill n0 W)::(V.kill n0 T)::(V.kill n0 tb)::(V.kill n0 tc)::(V.kill n0 td)::(V.kill n0 te)::(V.kill n0 tf)::(V.kill n0 tg)::(V.kill n0 th)::(V.kill n0 ti)::(V.kill n0 tj)::(V.kill n0 tk)::(V.kill n0 X)::(V.kill n0 Y)::(V.kill n0 Z)::(V.kill n0 tx)::(V.kill n0 ty)::(V.kill n0 tz)::(V.kill n0 tl)::(V.kill n0 tm)::(V.kill n0 v92)::.junk::.junk::.junk::.junk::.junk::.junk::.junk::.junk::.junk::.junk::.junk::.junk::.junk::.junk::.junk::(V.kill n0 tp)::(V.kill n0 tq)::(V.kill n0 tr)::(V.kill n0 ts)::(V.kill n0 tt)::(V.kill n0 tu)::(V.kill n0 tv)::(V.kill n0 tw)::(V.kill n0 t0)::[]),co n0 h93⟩)) (
 K (.exit 4) ⟨((V.kill n0 d)::(V.kill n0 a)::(V.kill n0 b)::(V.kill n0 f)::(V.kill n0 u)::(V.kill n0 v)::(V.kill n0 e)::(V.kill n0 x)::(V.kill n0 j)::(V.kill n0 g)::(V.kill n0 I)::(V.kill n0 y)::(V.kill n0 z)::(V.kill n0 A)::(V.kill n0 L)::(V.kill n0 M)::(V.kill n0 B)::(V.kill n0 D)::(V.kill n0 E)::(V.kill n0 o)::(V.kill n0 F)::(V.kill n0 G)::(V.kill n0 q)::(V.kill n0 Q)::(V.kill n0 N)::(V.kill n0 R)::(V.kill n0 O)::(V.kill n0 J)::(V.kill n0 t1)::(V.kill n0 U)::(V.kill n0 t2)::(V.kill n0 t3)::(V.kill n0 t4)::(V.kill n0 t5)::(V.kill n0 t6)::(V.kill n0 t7)::(V.kill n0 t8)::(V.kill n0 t9)::(V.kill n0 ta)::(V.kill n0 W)::(V.kill n0 T)::(V.kill n0 tb)::(V.kill n0 tc)::(V.kill n0 td)::(V.kill n0 te)::(V.kill n0 tf)::(V.kill n0 tg)::(V.kill n0 th)::(V.kill n0 ti)::(V.kill n0 tj)::(V.kill n0 tk)::(V.kill n0 X)::(V.kill n0 Y)::(V.kill n0 Z)::(V.kill n0 tx)::(V.kill n0 ty)::(V.kill n0 tz)::(V.kill n0 tl)::(V.kill n0 tm)::.junk::.junk::.junk::.junk::.junk::.junk::.junk::.junk::.junk::.junk::.junk::.junk::.junk::.junk::.junk::.junk::(V.kill n0 tp)::(V.kill n0 tq)::(V.kill n0 tr)::(V.kill n0 ts)::(V.kill n0 tt)::(V.kill n0 tu)::(V.kill n0 tv)::(V.kill n0 tw)::(V.kill n0 t0)::[]),co n0 he⟩):=kI
theorem Bm:av (xX s 23 wl k rd) (dc (xX s 23 wl k rd) rA n0 K n) If (.exit 4) ⟨(d::a::b::f::u::v::e::x::j::g::I::y::z::A::L::M::B::D::E::o::F::G::q::Q::N::R::O::J::t1::U::t2::t3::t4::t5::t6::t7::t8::t9::ta::W::T::tb::tc::td::te::tf::tg::th::ti::tj::tk::X::Y::Z::tx::ty::tz::tl::tm::tn::tG::tH::tI::tJ::tK::tL::tM::tN::tO::tA::tB::tC::tD::tE::tF::tp::tq::tr::ts::tt::tu::tv::tw::t0::[]),h⟩ =
 bm (aa s.P 30 g 4) h fun vo hn=>
 stO h.length vo (
 bm (ab s.P 28 vo hn) hn fun v96 h97=>
 bp (dW (xX s 23 wl k rd) true true (.fn (.func 63) [] []) [z] h97) fun v98 h99=>
 bp (cW s.P wl 28 1 [(0,v98)] h99) fun vp ho=>
 bp (ng s.P wl 28 28 v96 vp ho) fun vq hp=>
 bm (aa s.P 30 g 4) hp fun vr hq=>
 bs (ai s.P wl 28 vr vq hq) fun hr=>
 bm (az s.P .add 3 Z (.lit (.int .i64 1))) hr fun vs hs=>
 itX (xX s 23 wl k rd) rA n0 K n ⟨((V.kill n0 d)::(V.kill n0 a)::(V.kill n0 b)::(V.kill n0 f)::(V.kill n0 u)::(V.kill n0 v)::(V.kill n0 e)::(V.kill n0 x)::(V.kill n0 j)::(V.kill n0 g)::(V.kill n0 I)::(V.kill n0 y)::(V.kill n0 z)::(V.kill n0 A)::(V.kill n0 L)::(V.kill n0 M)::(V.kill n0 B)::(V.kill n0 D)::(V.kill n0 E)::(V.kill n0 o)::(V.kill n0 F)::(V.kill n0 G)::(V.kill n0 q)::(V.kill n0 Q)::(V.kill n0 N)::(V.kill n0 R)::(V.kill n0 O)::(V.kill n0 J)::(V.kill n0 t1)::(V.kill n0 U)::(V.kill n0 t2)::(V.kill n0 t3)::(V.kill n0 t4)::(V.kill n0 t5)::(V.kill n0 t6)::(V.kill n0 t7)::(V.kill n0 t8)::(V.kill n0 t9)::(V.kill n0 ta)::(V.kill n0 W)::(V.kill n0 T)::(V.kill n0 tb)::(V.kill n0 tc)::(V.kill n0 td)::(V.kill n0 te)::(V.kill n0 tf)::(V.kill n0 tg)::(V.kill n0 th)::(V.kill n0 ti)::(V.kill n0 tj)::(V.kill n0 tk)::(V.kill n0 X)::(V.kill n0 Y)::(V.kill n0 vs)::.junk::.junk::.junk::.junk::.junk::.junk::.junk::.junk::.junk::.junk::.junk::.junk::.junk::.junk::.junk::.junk::.junk::.junk::.junk::.junk::.junk::.junk::.junk::.junk::.junk::.junk::.junk::.junk::.junk::(V.kill n0 t0)::[]),co n0 hs⟩):=kR
theorem iy (cx:Cx) (s:St):av cx K oV .ret s=K .ret s:=by kernel_rfl
theorem iz (cx:Cx) (s:St):av cx K Ix .ret s=K .ret s:=by kernel_rfl
theorem iw (cx:Cx) (s:St):av cx K Bl .ret s=K .ret s:=by kernel_rfl
theorem iq (cx:Cx) (s:St):av cx K If .ret s=K .ret s:=by kernel_rfl
-- names: WG,WA,Ba,Bc,Rp,AY,Sn,A9,R9,Bm,iy,iz,iw,iq
end
end Go.Ab
