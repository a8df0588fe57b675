import Derived.Test.YtblpbpnilkfjhaaGreatR6Seat
import Derived.Test.YtblpbpnilkfjhaaGreatAbLibC
set_option linter.unusedVariables false
set_option linter.unusedSimpArgs false
set_option maxRecDepth 100000
set_option linter.unusedVariables false
namespace Go.Ab
open Go.Proofs
section
variable (s:Sys) (k wl:Nat) (m0:Nat) (ac:List Nat×List Nat) (a b d e n o g i j p q r l u y v E A F B D z Q L R M I T N U O J G W X Y Z t0:V) (h:Hp) (K:Out→St→Option (V×Hp)) (rd:Bool) (zz:List V)
noncomputable def BW:List Fr:=[.seq (al (am Tryz.f165) [1,1,1,1])]
theorem ab6:ak (xX s 165 wl k false) Tryz.f165 [a,b,d] h =
 bp (aP a h) fun v1 h2=>
 bp (aP d h2) fun v3 h4=>
 bp (some (.own h4.length 0 0,h4++[.rows 0 [] 0 true])) fun v5 h6=>
 bp (av s.P 55 h6) fun v7 h8=>
 stO h8.length v3 (
 bm (ab s.P 55 v3 h8) h8 fun v9 hA=>
 stO h8.length v1 (
 bm (ab s.P 23 v1 hA) hA fun vA hB=>
 bp (yC s k wl 165 true true (.fn (.func 76) [] []) [b] hB) fun vB hC=>
 bm (bf s.P 205 [(0,v9),(1,vA),(2,vB)]) hC fun vD hG=>
 bp (aP vD hG) fun vE hE=>
 bp (aB s.P wl 207 5 [(0,(.fn (.func 183) [] [])),(1,(.fn (.func 184) [] [])),(2,(.fn (.func 185) [] [])),(3,(.fn (.func 186) [] [])),(4,(.fn (.func 187) [] []))] hE) fun vC hI=>
 bm (ab s.P 23 v1 hI) hI fun vI hD=>
 bm (ab s.P 55 v3 hD) hD fun vF hF=>
 bp (a7 s.P 207 vC hF) fun vG hJ=>
 bp (yC s k wl 165 false true (.fn (.func 188) [] []) [vI,b,vF,(.lit (.int .i64 5)),vG] hJ) fun vH hH=>
 cnd vH (
 bm (aa s.P 55 v3 1) hH fun vJ hK=>
 bm (ab s.P 3 vJ hK) hK fun vK hL=>
 bm (ai s.P 207 vC vK hL) hL fun vL hO=>
 bm (ab s.P 206 vL hO) hO fun vO hW=>
 bp (yC s k wl 165 false true vO [vE] hW) fun vV hc=>
 au (xX s 165 wl k false) (ap s.P Tryz.f165) BW .norm ⟨[a,b,d,v1,uu,v3,v5,v7,vE,vC,v9,vA,b,vB,vD,vE,vC,vI,b,vF,vC,vG,vH,vC,vJ,vK,vL,vO,vE,vV,uu,uu,uu,uu,uu,uu,uu,uu],hc⟩) (
 au (xX s 165 wl k false) (ap s.P Tryz.f165) BW .norm ⟨[a,b,d,v1,uu,v3,v5,v7,vE,vC,v9,vA,b,vB,vD,vE,vC,vI,b,vF,vC,vG,vH,uu,uu,uu,uu,uu,uu,uu,uu,uu,uu,uu,uu,uu,uu,uu],hH⟩))):=kB
theorem ahZ:evF Tryz.prog xM (k+1) wl 165 [a,b,d] h=ak (xX (xS k) 165 wl k false) Tryz.f165 [a,b,d] h:=by kernel_rfl
theorem On:au (xX s 165 wl k false) (ap s.P Tryz.f165) BW .norm ⟨[a,b,d,e,n,o,g,i,j,p,q,r,l,u,y,v,E,A,F,B,D,z,Q,L,R,M,I,T,N,U,O,J,G,W,X,Y,Z,t0],h⟩ =
 bm (aV j h) h fun vY hi=>
 bm (aa s.P 205 vY 2) hi fun vb hd=>
 bm (ab s.P 26 vb hd) hd fun vc he=>
 bm (aV j he) he fun vd hn=>
 bm (aa s.P 205 vd 0) hn fun ve hX=>
 bm (ab s.P 55 ve hX) hX fun vf hY=>
 bs (aj s.P wl 55 i vf hY) fun hf=>
 ew [some vc,ab s.P 55 i hf] hf:=kR
theorem Am (cx:Cx) (s:St):au cx K BW .ret s=K .ret s:=by kernel_rfl
-- names: ab6,On,Am
theorem acn:ak (xX s 183 wl k false) Tryz.f183 [a] h =
 bm (aV a h) h fun v1 h2=>
 bm (aa s.P 205 v1 2) h2 fun v3 h4=>
 bm (ab s.P 26 v3 h4) h4 fun v5 h6=>
 bp (yC s k wl 183 false true (.fn (.func 27) [] []) [v5,(.lit (.int .i64 2))] h6) fun v7 h8=>
 bm (aV a h8) h8 fun v9 hA=>
 bm (aa s.P 205 v9 0) hA fun vA hB=>
 bm (aa s.P 55 vA 4) hB fun vB hC=>
 bs (aj s.P wl 46 vB v7 hC) fun hU=>
 bm (aV a hU) hU fun vZ hj=>
 bm (aa s.P 205 vZ 0) hj fun vW hg=>
 bm (aa s.P 55 vW 1) hg fun va hh=>
 bs (aj s.P wl 3 va (.lit (.int .i64 1)) hh) fun hD=>
 some (.tup [],hD):=kB
theorem aip:evF Tryz.prog xM (k+1) wl 183 [a] h=ak (xX (xS k) 183 wl k false) Tryz.f183 [a] h:=by kernel_rfl
-- names: acn,
theorem adM:ak (xX s 184 wl k false) Tryz.f184 [a] h =
 bm (aV a h) h fun v1 h2=>
 bm (aa s.P 205 v1 2) h2 fun v3 h4=>
 bm (ab s.P 26 v3 h4) h4 fun v5 h6=>
 bp (yC s k wl 184 false true (.fn (.func 27) [] []) [v5,(.lit (.int .i64 2))] h6) fun v7 h8=>
 bm (aV a h8) h8 fun v9 hA=>
 bm (aa s.P 205 v9 0) hA fun vA hB=>
 bm (aa s.P 55 vA 5) hB fun vB hC=>
 bs (aj s.P wl 46 vB v7 hC) fun hU=>
 bm (aV a hU) hU fun vZ hj=>
 bm (aa s.P 205 vZ 0) hj fun vW hg=>
 bm (aa s.P 55 vW 1) hg fun va hh=>
 bs (aj s.P wl 3 va (.lit (.int .i64 2)) hh) fun hD=>
 bm (aV a hD) hD fun vF hF=>
 bm (aa s.P 205 vF 0) hF fun vG hJ=>
 bm (aa s.P 55 vG 5) hJ fun vH hH=>
 bm (ab s.P 46 vH hH) hH fun vJ hK=>
 bp (yC s k wl 184 true true (.fn (.func 213) [] []) [vJ] hK) fun vK hL=>
 stO hD.length a (
 bm (aV a hL) hL fun vL hO=>
 bm (aa s.P 205 vL 0) hO fun vO hW=>
 bm (aa s.P 55 vO 4) hW fun vV hc=>
 stO hD.length vV (
 bm (ab s.P 46 vV hc) hc fun vY hi=>
 bp (yC s k wl 184 false true (.fn (.func 213) [] []) [vY] hi) fun vb hd=>
 bm (aw s.P .neq 46 vK vb) hd fun vc he=>
 cnd vc (
 bm (aV a he) he fun vd hn=>
 bm (aa s.P 205 vd 0) hn fun ve hX=>
 bm (ab s.P 55 ve hX) hX fun vf hY=>
 bp (yC s k wl 184 false true (.fn (.func 193) [] []) [vf,(.lit (.int .i64 4)),(.lit (.int .u64 0))] hY) fun vg hm=>
 bm (aV a hm) hm fun vh hk=>
 bm (aa s.P 205 vh 0) hk fun vi ho=>
 bs (aj s.P wl 55 vi vg ho) fun hZ=>
 some (.tup [],hZ)) (
 some (.tup [],he)))):=kB
theorem ae1:evF Tryz.prog xM (k+1) wl 184 [a] h=ak (xX (xS k) 184 wl k false) Tryz.f184 [a] h:=by kernel_rfl
-- names: adM,
theorem acu:ak (xX s 185 wl k false) Tryz.f185 [a] h =
 bm (aV a h) h fun v1 h2=>
 bm (aa s.P 205 v1 0) h2 fun v3 h4=>
 bm (aa s.P 55 v3 1) h4 fun v5 h6=>
 bs (aj s.P wl 3 v5 (.lit (.int .i64 1)) h6) fun h7=>
 stO h7.length a (
 bm (aV a h7) h7 fun v8 h9=>
 bm (aa s.P 205 v8 2) h9 fun vm hq=>
 stO h7.length vm (
 bm (ab s.P 26 vm hq) hq fun vn hr=>
 stO h7.length a (
 bm (aV a hr) hr fun vo hU=>
 bm (aa s.P 205 vo 0) hU fun vZ hj=>
 bm (aa s.P 55 vZ 5) hj fun vW hg=>
 stO h7.length vW (
 bm (ab s.P 46 vW hg) hg fun va hh=>
 bm (aV a hh) hh fun vp hx=>
 bm (aa s.P 205 vp 0) hx fun vq hy=>
 bm (aa s.P 55 vq 5) hy fun vr hs=>
 bm (ab s.P 46 vr hs) hs fun vs hl=>
 bm (aV a hl) hl fun vj hP=>
 bm (aa s.P 205 vj 0) hP fun vR hQ=>
 bm (aa s.P 55 vR 2) hQ fun vP hN=>
 bm (ab s.P 3 vP hN) hN fun vM hM=>
 bp (yC s k wl 185 true true (.fn (.func 214) [] []) [vs,vM] hM) fun vQ hT=>
 bp (yC s k wl 185 false true (.fn (.func 191) [] []) [vn,(.lit (.int .i64 2)),va,vQ] hT) fun vN hR=>
 bm (aq vN 0) hR fun vS hS=>
 bm (aq vN 1) hS fun vT hV=>
 bm (aV a hV) hV fun vU ha=>
 bm (aa s.P 205 vU 2) ha fun vX hb=>
 bs (aj s.P wl 26 vX vS hb) fun hY=>
 cnd vT (
 bm (aV a hY) hY fun vg hm=>
 bm (aa s.P 205 vg 0) hm fun vh hk=>
 bm (aa s.P 55 vh 1) hk fun vi ho=>
 bs (aj s.P wl 3 vi (.lit (.int .i64 3)) ho) fun hZ=>
 some (.tup [],hZ)) (
 some (.tup [],hY)))))):=kB
theorem ahp:evF Tryz.prog xM (k+1) wl 185 [a] h=ak (xX (xS k) 185 wl k false) Tryz.f185 [a] h:=by kernel_rfl
-- names: acu,
theorem aap:ak (xX s 186 wl k false) Tryz.f186 [a] h =
 stO h.length a (
 bm (aV a h) h fun v1 h2=>
 bm (aa s.P 205 v1 2) h2 fun v3 h4=>
 stO h.length v3 (
 bm (ab s.P 26 v3 h4) h4 fun v5 h6=>
 bm (aV a h6) h6 fun v7 h8=>
 bm (aa s.P 205 v7 1) h8 fun v9 hA=>
 bm (ab s.P 23 v9 hA) hA fun vA hB=>
 bm (aV a hB) hB fun vB hC=>
 bm (aa s.P 205 vB 0) hC fun vD hG=>
 bm (aa s.P 55 vD 2) hG fun vE hE=>
 bm (ab s.P 3 vE hE) hE fun vC hI=>
 bp (yC s k wl 186 true true (.fn (.func 32) [] []) [vA,vC] hI) fun vI hD=>
 bp (yC s k wl 186 false true (.fn (.func 27) [] []) [v5,vI] hD) fun vF hF=>
 bm (aV a hF) hF fun vG hJ=>
 bm (aa s.P 205 vG 0) hJ fun vH hH=>
 bm (aa s.P 55 vH 5) hH fun vJ hK=>
 bs (aj s.P wl 46 vJ vF hK) fun hP=>
 bm (aV a hP) hP fun vR hQ=>
 bm (aa s.P 205 vR 0) hQ fun vP hN=>
 bm (aa s.P 55 vP 5) hN fun vM hM=>
 bm (ab s.P 46 vM hM) hM fun vQ hT=>
 bm (aw s.P .neq 46 vQ (.lit (.int .u64 0))) hT fun vN hR=>
 cnd vN (
 bm (aV a hR) hR fun vS hS=>
 bm (aa s.P 205 vS 0) hS fun vT hV=>
 bm (aa s.P 55 vT 1) hV fun vU ha=>
 bs (aj s.P wl 3 vU (.lit (.int .i64 4)) ha) fun hX=>
 some (.tup [],hX)) (
 some (.tup [],hR)))):=kB
theorem afX:evF Tryz.prog xM (k+1) wl 186 [a] h=ak (xX (xS k) 186 wl k false) Tryz.f186 [a] h:=by kernel_rfl
-- names: aap,
theorem acq:ak (xX s 187 wl k false) Tryz.f187 [a] h =
 stO h.length a (
 bm (aV a h) h fun v1 h2=>
 bm (aa s.P 205 v1 2) h2 fun v3 h4=>
 stO h.length v3 (
 bm (ab s.P 26 v3 h4) h4 fun v5 h6=>
 bm (aV a h6) h6 fun v7 h8=>
 bm (aa s.P 205 v7 1) h8 fun v9 hA=>
 bm (ab s.P 23 v9 hA) hA fun vA hB=>
 bm (aV a hB) hB fun vB hC=>
 bm (aa s.P 205 vB 0) hC fun vD hG=>
 bm (aa s.P 55 vD 2) hG fun vE hE=>
 bm (ab s.P 3 vE hE) hE fun vC hI=>
 bp (yC s k wl 187 true true (.fn (.func 32) [] []) [vA,vC] hI) fun vI hD=>
 bp (yC s k wl 187 false true (.fn (.func 88) [] []) [v5,vI,(.lit (.int .u64 0))] hD) fun vF hF=>
 bm (aV a hF) hF fun vG hJ=>
 bm (aa s.P 205 vG 2) hJ fun vH hH=>
 bs (aj s.P wl 26 vH vF hH) fun hl=>
 bm (aV a hl) hl fun vj hP=>
 bm (aa s.P 205 vj 0) hP fun vR hQ=>
 bm (ab s.P 55 vR hQ) hQ fun vP hN=>
 bp (yC s k wl 187 false true (.fn (.func 193) [] []) [vP,(.lit (.int .i64 1)),(.lit (.int .u64 0))] hN) fun vM hM=>
 bm (aV a hM) hM fun vQ hT=>
 bm (aa s.P 205 vQ 0) hT fun vN hR=>
 bs (aj s.P wl 55 vN vM hR) fun hd=>
 some (.tup [],hd))):=kB
theorem ae8:evF Tryz.prog xM (k+1) wl 187 [a] h=ak (xX (xS k) 187 wl k false) Tryz.f187 [a] h:=by kernel_rfl
-- names: acq,
noncomputable def fH:Code:=al (am Tryz.f196) [1,0]
noncomputable def eW:List Fr:=[.seq (al (am Tryz.f196) [1,1])]
theorem ac6:ak (xX s 196 wl k false) Tryz.f196 [a,b,d,e] h =
 bp (aP a h) fun v1 h2=>
 bp (aP d h2) fun v3 h4=>
 bm (ab s.P 23 v1 h4) h4 fun v5 h6=>
 bp (yC s k wl 196 false true (.fn (.func 105) [] []) [v5,b] h6) fun v7 h8=>
 gd v7 (
 bm (ab s.P 55 v3 h8) h8 fun v9 hA=>
 bp (yC s k wl 196 false true (.fn (.func 110) [] []) [v9] hA) fun vA hB=>
 bm (vUn .not vA) hB fun vB hC=>
 yO s k wl 196 Tryz.f196 fH 7 h4.length ([],[]) eW ⟨[a,b,d,e,v1,uu,v3,uu,(.lit (.bool false)),v5,b,v7,(.lit (.bool true)),v9,vA,vB,uu,uu,uu,uu,uu,uu,uu,uu,uu,uu,uu,uu,uu,uu,uu,uu,uu],hC⟩) (
 yO s k wl 196 Tryz.f196 fH 7 h4.length ([],[]) eW ⟨[a,b,d,e,v1,uu,v3,uu,(.lit (.bool false)),v5,b,v7,(.lit (.bool false)),uu,uu,uu,uu,uu,uu,uu,uu,uu,uu,uu,uu,uu,uu,uu,uu,uu,uu,uu,uu],h8⟩) (
 yO s k wl 196 Tryz.f196 fH 5 h4.length ([],[]) eW ⟨[a,b,d,e,v1,uu,v3,uu,(.lit (.bool false)),v5,b,v7,v7,uu,uu,uu,uu,uu,uu,uu,uu,uu,uu,uu,uu,uu,uu,uu,uu,uu,uu,uu,uu],h8⟩):=kB
theorem aeZ:evF Tryz.prog xM (k+1) wl 196 [a,b,d,e] h=ak (xX (xS k) 196 wl k false) Tryz.f196 [a,b,d,e] h:=by kernel_rfl
theorem M1:yO s k wl 196 Tryz.f196 fH 7 m0 ac eW ⟨(a::b::d::e::n::o::g::i::j::p::q::r::l::u::y::v::E::A::F::B::D::z::zz),h⟩ =
 bm (aR l v (.lit (.bool false))) h fun vD hG=>
 gd vD (
 bm (aa s.P 55 g 0) hG fun vE hE=>
 bm (ab s.P 3 vE hE) hE fun vC hI=>
 bm (aw s.P .eql 3 vC e) hI fun vI hD=>
 yO s k wl 196 Tryz.f196 fH 13 m0 ac eW ⟨(a::b::d::e::n::o::g::i::j::p::q::r::l::u::y::v::vD::(.lit (.bool true))::vE::vC::e::vI::zz),hD⟩) (
 yO s k wl 196 Tryz.f196 fH 13 m0 ac eW ⟨(a::b::d::e::n::o::g::i::j::p::q::r::l::u::y::v::vD::(.lit (.bool false))::uu::uu::uu::uu::zz),hG⟩) (
 yO s k wl 196 Tryz.f196 fH 10 m0 ac eW ⟨(a::b::d::e::n::o::g::i::j::p::q::r::l::u::y::v::vD::vD::uu::B::D::z::zz),hG⟩):=kG
theorem MY:yO s k wl 196 Tryz.f196 fH 13 m0 ac eW ⟨[a,b,d,e,n,o,g,i,j,p,q,r,l,u,y,v,E,A,F,B,D,z,Q,L,R,M,I,T,N,U,O,J,G],h⟩ =
 bm (aR A z (.lit (.bool false))) h fun vF hF=>
 gd vF (
 bm (aa s.P 55 g 1) hF fun vG hJ=>
 bm (ab s.P 3 vG hJ) hJ fun vH hH=>
 bm (aw s.P .geq 3 vH (.lit (.int .i64 0))) hH fun vJ hK=>
 yO s k wl 196 Tryz.f196 fH 18 m0 ac eW ⟨[a,b,d,e,n,o,g,i,j,p,q,r,l,u,y,v,E,A,F,B,D,z,vF,(.lit (.bool true)),vG,vH,vJ,T,N,U,O,J,G],hK⟩) (
 yO s k wl 196 Tryz.f196 fH 18 m0 ac eW ⟨[a,b,d,e,n,o,g,i,j,p,q,r,l,u,y,v,E,A,F,B,D,z,vF,(.lit (.bool false)),uu,uu,uu,T,N,U,O,J,G],hF⟩) (
 yO s k wl 196 Tryz.f196 fH 16 m0 ac eW ⟨[a,b,d,e,n,o,g,i,j,p,q,r,l,u,y,v,E,A,F,B,D,z,vF,vF,uu,M,I,T,N,U,O,J,G],hF⟩):=kG
theorem Mt:yO s k wl 196 Tryz.f196 fH 18 m0 ac eW ⟨[a,b,d,e,n,o,g,i,j,p,q,r,l,u,y,v,E,A,F,B,D,z,Q,L,R,M,I,T,N,U,O,J,G],h⟩ =
 bm (aR L I (.lit (.bool false))) h fun vK hL=>
 gd vK (
 bm (aa s.P 55 g 1) hL fun vL hO=>
 bm (ab s.P 3 vL hO) hO fun vO hW=>
 bm (aw s.P .lss 3 vO (.lit (.int .i64 5))) hW fun vV hc=>
 yO s k wl 196 Tryz.f196 fH 23 m0 ac eW ⟨[a,b,d,e,n,o,g,i,j,p,q,r,l,u,y,v,E,A,F,B,D,z,Q,L,R,M,I,vK,(.lit (.bool true)),vL,vO,vV,G],hc⟩) (
 yO s k wl 196 Tryz.f196 fH 23 m0 ac eW ⟨[a,b,d,e,n,o,g,i,j,p,q,r,l,u,y,v,E,A,F,B,D,z,Q,L,R,M,I,vK,(.lit (.bool false)),uu,uu,uu,G],hL⟩) (
 yO s k wl 196 Tryz.f196 fH 21 m0 ac eW ⟨[a,b,d,e,n,o,g,i,j,p,q,r,l,u,y,v,E,A,F,B,D,z,Q,L,R,M,I,vK,vK,uu,O,J,G],hL⟩):=kG
theorem KV:yO s k wl 196 Tryz.f196 fH 23 m0 ac eW ⟨[a,b,d,e,n,o,g,i,j,p,q,r,l,u,y,v,E,A,F,B,D,z,Q,L,R,M,I,T,N,U,O,J,G],h⟩ =
 bm (aR N J (.lit (.bool false))) h fun vY hi=>
 some (vY,hi):=kG
theorem wJ (cx:Cx) (s:St):au cx K eW .ret s=K .ret s:=by kernel_rfl
-- names: ac6,M1,MY,Mt,KV,wJ
theorem abF:ak (xX s 197 wl k false) Tryz.f197 [a] h =
 bm (aV a h) h fun v1 h2=>
 bm (aa s.P 221 v1 2) h2 fun v3 h4=>
 bm (ab s.P 26 v3 h4) h4 fun v5 h6=>
 bp (yC s k wl 197 false true (.fn (.func 27) [] []) [v5,(.lit (.int .i64 5))] h6) fun v7 h8=>
 bm (aV a h8) h8 fun v9 hA=>
 bm (aa s.P 221 v9 0) hA fun vA hB=>
 bm (aa s.P 55 vA 4) hB fun vB hC=>
 bs (aj s.P wl 46 vB v7 hC) fun hU=>
 some ((.lit (.int .i64 1)),hU):=kB
theorem ait:evF Tryz.prog xM (k+1) wl 197 [a] h=ak (xX (xS k) 197 wl k false) Tryz.f197 [a] h:=by kernel_rfl
-- names: abF,
theorem Zz:ak (xX s 198 wl k false) Tryz.f198 [a] h =
 stO h.length a (
 bm (aV a h) h fun v1 h2=>
 bm (aa s.P 221 v1 2) h2 fun v3 h4=>
 stO h.length v3 (
 bm (ab s.P 26 v3 h4) h4 fun v5 h6=>
 bm (aV a h6) h6 fun v7 h8=>
 bm (aa s.P 221 v7 1) h8 fun v9 hA=>
 bm (ab s.P 23 v9 hA) hA fun vA hB=>
 bm (aV a hB) hB fun vB hC=>
 bm (aa s.P 221 vB 0) hC fun vD hG=>
 bm (aa s.P 55 vD 4) hG fun vE hE=>
 bm (ab s.P 46 vE hE) hE fun vC hI=>
 bp (yC s k wl 198 true true (.fn (.func 203) [] []) [vA,vC] hI) fun vI hD=>
 bp (yC s k wl 198 false true (.fn (.func 27) [] []) [v5,vI] hD) fun vF hF=>
 bm (aV a hF) hF fun vG hJ=>
 bm (aa s.P 221 vG 0) hJ fun vH hH=>
 bm (aa s.P 55 vH 5) hH fun vJ hK=>
 bs (aj s.P wl 46 vJ vF hK) fun hP=>
 stO hP.length a (
 bm (aV a hP) hP fun vR hQ=>
 bm (aa s.P 221 vR 0) hQ fun vP hN=>
 bm (aa s.P 55 vP 5) hN fun vM hM=>
 stO hP.length vM (
 bm (ab s.P 46 vM hM) hM fun vQ hT=>
 bp (yC s k wl 198 true true (.fn (.func 221) [] []) [a] hT) fun vN hR=>
 bm (aw s.P .eql 46 vQ vN) hR fun vS hS=>
 cnd vS (
 some ((.lit (.int .i64 2)),hS)) (
 stO hS.length a (
 bm (aV a hS) hS fun vT hV=>
 bm (aa s.P 221 vT 0) hV fun vU ha=>
 bm (aa s.P 55 vU 5) ha fun vX hb=>
 stO hS.length vX (
 bm (ab s.P 46 vX hb) hb fun vk hf=>
 bp (yC s k wl 198 true true (.fn (.func 221) [] []) [a] hf) fun vl hp=>
 bp (yC s k wl 198 false true (.fn (.func 106) [] []) [vk,vl] hp) fun vt hz=>
 bm (aw s.P .lss 3 vt (.lit (.int .i64 0))) hz fun vu hZ=>
 cnd vu (
 bm (aV a hZ) hZ fun vv h59=>
 bm (aa s.P 221 vv 0) h59 fun vw ht=>
 bm (ab s.P 55 vw ht) ht fun vx hu=>
 bm (aV a hu) hu fun vy h65=>
 bm (aa s.P 221 vy 0) h65 fun vz h67=>
 bm (aa s.P 55 vz 3) h67 fun v68 hv=>
 bm (ab s.P 46 v68 hv) hv fun v70 h71=>
 bp (yC s k wl 198 false true (.fn (.func 193) [] []) [vx,(.lit (.int .i64 2)),v70] h71) fun v72 hw=>
 bm (aV a hw) hw fun v74 h75=>
 bm (aa s.P 221 v74 0) h75 fun v76 h77=>
 bs (aj s.P wl 55 v76 v72 h77) fun h78=>
 some ((.lit (.int .i64 0)),h78)) (
 some ((.lit (.int .i64 0)),hZ))))))))):=kB
theorem agY:evF Tryz.prog xM (k+1) wl 198 [a] h=ak (xX (xS k) 198 wl k false) Tryz.f198 [a] h:=by kernel_rfl
-- names: Zz,
theorem acJ:ak (xX s 199 wl k false) Tryz.f199 [a] h =
 bm (aV a h) h fun v1 h2=>
 bm (aa s.P 221 v1 2) h2 fun v3 h4=>
 bm (ab s.P 26 v3 h4) h4 fun v5 h6=>
 bm (aV a h6) h6 fun v7 h8=>
 bm (aa s.P 221 v7 0) h8 fun v9 hA=>
 bm (aa s.P 55 v9 4) hA fun vA hB=>
 bm (ab s.P 46 vA hB) hB fun vB hC=>
 bm (aV a hC) hC fun vD hG=>
 bm (aa s.P 221 vD 0) hG fun vE hE=>
 bm (aa s.P 55 vE 4) hE fun vC hI=>
 bm (ab s.P 46 vC hI) hI fun vI hD=>
 bm (aw s.P .add 46 vI (.lit (.int .u64 1))) hD fun vF hF=>
 bp (yC s k wl 199 false true (.fn (.func 191) [] []) [v5,(.lit (.int .i64 5)),vB,vF] hF) fun vG hJ=>
 bm (aq vG 0) hJ fun vH hH=>
 bm (aq vG 1) hH fun vJ hK=>
 bm (aV a hK) hK fun vK hL=>
 bm (aa s.P 221 vK 2) hL fun vL hO=>
 bs (aj s.P wl 26 vL vH hO) fun hN=>
 cnd vJ (
 some ((.lit (.int .i64 3)),hN)) (
 some ((.lit (.int .i64 0)),hN)):=kB
theorem aeB:evF Tryz.prog xM (k+1) wl 199 [a] h=ak (xX (xS k) 199 wl k false) Tryz.f199 [a] h:=by kernel_rfl
-- names: acJ,
theorem Z3:ak (xX s 200 wl k false) Tryz.f200 [a] h =
 stO h.length a (
 bm (aV a h) h fun v1 h2=>
 bm (aa s.P 221 v1 2) h2 fun v3 h4=>
 stO h.length v3 (
 bm (ab s.P 26 v3 h4) h4 fun v5 h6=>
 bm (aV a h6) h6 fun v7 h8=>
 bm (aa s.P 221 v7 1) h8 fun v9 hA=>
 bm (ab s.P 23 v9 hA) hA fun vA hB=>
 bm (aV a hB) hB fun vB hC=>
 bm (aa s.P 221 vB 0) hC fun vD hG=>
 bm (aa s.P 55 vD 4) hG fun vE hE=>
 bm (ab s.P 46 vE hE) hE fun vC hI=>
 bp (yC s k wl 200 true true (.fn (.func 205) [] []) [vA,vC] hI) fun vI hD=>
 stO h.length a (
 bm (aV a hD) hD fun vF hF=>
 bm (aa s.P 221 vF 0) hF fun vG hJ=>
 bm (aa s.P 55 vG 3) hJ fun vH hH=>
 stO h.length vH (
 bm (ab s.P 46 vH hH) hH fun vJ hK=>
 bp (yC s k wl 200 false true (.fn (.func 88) [] []) [v5,vI,vJ] hK) fun vK hL=>
 bm (aV a hL) hL fun vL hO=>
 bm (aa s.P 221 vL 2) hO fun vO hW=>
 bs (aj s.P wl 26 vO vK hW) fun hM=>
 some ((.lit (.int .i64 4)),hM))))):=kB
theorem afI:evF Tryz.prog xM (k+1) wl 200 [a] h=ak (xX (xS k) 200 wl k false) Tryz.f200 [a] h:=by kernel_rfl
-- names: Z3,
theorem Zm:ak (xX s 201 wl k false) Tryz.f201 [a] h =
 stO h.length a (
 bm (aV a h) h fun v1 h2=>
 bm (aa s.P 221 v1 2) h2 fun v3 h4=>
 stO h.length v3 (
 bm (ab s.P 26 v3 h4) h4 fun v5 h6=>
 bm (aV a h6) h6 fun v7 h8=>
 bm (aa s.P 221 v7 1) h8 fun v9 hA=>
 bm (ab s.P 23 v9 hA) hA fun vA hB=>
 bm (aV a hB) hB fun vB hC=>
 bm (aa s.P 221 vB 0) hC fun vD hG=>
 bm (aa s.P 55 vD 4) hG fun vE hE=>
 bm (ab s.P 46 vE hE) hE fun vC hI=>
 bp (yC s k wl 201 true true (.fn (.func 203) [] []) [vA,vC] hI) fun vI hD=>
 bp (yC s k wl 201 true true (.fn (.func 221) [] []) [a] hD) fun vF hF=>
 bm (aw s.P .add 46 vF (.lit (.int .u64 1))) hF fun vG hJ=>
 bp (yC s k wl 201 false true (.fn (.func 88) [] []) [v5,vI,vG] hJ) fun vH hH=>
 bm (aV a hH) hH fun vJ hK=>
 bm (aa s.P 221 vJ 2) hK fun vK hL=>
 bs (aj s.P wl 26 vK vH hL) fun hQ=>
 bm (aV a hQ) hQ fun vP hN=>
 bm (aa s.P 221 vP 0) hN fun vM hM=>
 bm (ab s.P 55 vM hM) hM fun vQ hT=>
 bm (aV a hT) hT fun vN hR=>
 bm (aa s.P 221 vN 0) hR fun vS hS=>
 bm (aa s.P 55 vS 3) hS fun vT hV=>
 bm (ab s.P 46 vT hV) hV fun vU ha=>
 bp (yC s k wl 201 false true (.fn (.func 193) [] []) [vQ,(.lit (.int .i64 1)),vU] ha) fun vX hb=>
 bm (aV a hb) hb fun vk hf=>
 bm (aa s.P 221 vk 0) hf fun vl hp=>
 bs (aj s.P wl 55 vl vX hp) fun hk=>
 some ((.lit (.int .i64 0)),hk))):=kB
theorem ahj:evF Tryz.prog xM (k+1) wl 201 [a] h=ak (xX (xS k) 201 wl k false) Tryz.f201 [a] h:=by kernel_rfl
-- names: Zm,
theorem abj:ak (xX s 202 wl k false) Tryz.f202 [a,b] h =
 bm (ab s.P 223 a h) h fun v1 h2=>
 bm (aa s.P 55 b 1) h2 fun v3 h4=>
 bm (ab s.P 3 v3 h4) h4 fun v5 h6=>
 bm (ai s.P 223 v1 v5 h6) h6 fun v7 h8=>
 bm (ab s.P 116 v7 h8) h8 fun v9 hA=>
 bp (yC s k wl 202 false true v9 [] hA) fun vA hB=>
 some (vA,hB):=kB
theorem agA:evF Tryz.prog xM (k+1) wl 202 [a,b] h=ak (xX (xS k) 202 wl k false) Tryz.f202 [a,b] h:=by kernel_rfl
-- names: abj,
theorem ad1:ak (xX s 204 wl k false) Tryz.f204 [a,b] h =
 bp (aP a h) fun v1 h2=>
 bm (aa s.P 23 v1 2) h2 fun v3 h4=>
 bm (ab s.P 3 v3 h4) h4 fun v5 h6=>
 bm (fY s.P 3 46 v5) h6 fun v7 h8=>
 bm (aw s.P .quo 46 b v7) h8 fun v9 hA=>
 bm (aw s.P .mul 46 v9 (.lit (.int .u64 2))) hA fun vA hB=>
 bm (aw s.P .add 46 vA (.lit (.int .u64 1))) hB fun vB hC=>
 some (vB,hC):=kB
theorem agF:evF Tryz.prog xM (k+1) wl 204 [a,b] h=ak (xX (xS k) 204 wl k false) Tryz.f204 [a,b] h:=by kernel_rfl
-- names: ad1,
theorem aa3:ak (xX s 221 wl k false) Tryz.f221 [a] h =
 bm (aV a h) h fun v1 h2=>
 bm (aa s.P 221 v1 0) h2 fun v3 h4=>
 bm (aa s.P 55 v3 4) h4 fun v5 h6=>
 bm (ab s.P 46 v5 h6) h6 fun v7 h8=>
 bm (aV a h8) h8 fun v9 hA=>
 bm (aa s.P 221 v9 1) hA fun vA hB=>
 bm (aa s.P 23 vA 2) hB fun vB hC=>
 bm (ab s.P 3 vB hC) hC fun vD hG=>
 bm (fY s.P 3 46 vD) hG fun vE hE=>
 bm (aw s.P .quo 46 v7 vE) hE fun vC hI=>
 bm (aw s.P .mul 46 vC (.lit (.int .u64 2))) hI fun vI hD=>
 some (vI,hD):=kB
theorem ago:evF Tryz.prog xM (k+1) wl 221 [a] h=ak (xX (xS k) 221 wl k false) Tryz.f221 [a] h:=by kernel_rfl
-- names: aa3,
noncomputable def Dd:Code:=al (am Tryz.f105) [1,0]
noncomputable def u3:List Fr:=[.seq (al (am Tryz.f105) [1,1])]
theorem ace:ak (xX s 105 wl k false) Tryz.f105 [a,b] h =
 bp (aP a h) fun v1 h2=>
 bm (ab s.P 23 v1 h2) h2 fun v3 h4=>
 bp (yC s k wl 105 false true (.fn (.func 50) [] []) [v3] h4) fun v5 h6=>
 gd v5 (
 bp (a7 s.P 26 b h6) fun v7 h8=>
 bm (ab s.P 23 v1 h8) h8 fun v9 hA=>
 bp (yC s k wl 105 false true (.fn (.func 103) [] []) [v9] hA) fun vA hB=>
 bm (aw s.P .eql 3 v7 vA) hB fun vB hC=>
 yO s k wl 105 Tryz.f105 Dd 8 h2.length ([],[]) u3 ⟨[a,b,v1,uu,(.lit (.bool false)),v3,v5,(.lit (.bool true)),b,v7,v9,vA,vB,uu],hC⟩) (
 yO s k wl 105 Tryz.f105 Dd 8 h2.length ([],[]) u3 ⟨[a,b,v1,uu,(.lit (.bool false)),v3,v5,(.lit (.bool false)),uu,uu,uu,uu,uu,uu],h6⟩) (
 yO s k wl 105 Tryz.f105 Dd 4 h2.length ([],[]) u3 ⟨[a,b,v1,uu,(.lit (.bool false)),v3,v5,v5,uu,uu,uu,uu,uu,uu],h6⟩):=kB
theorem ahD:evF Tryz.prog xM (k+1) wl 105 [a,b] h=ak (xX (xS k) 105 wl k false) Tryz.f105 [a,b] h:=by kernel_rfl
theorem Lm:yO s k wl 105 Tryz.f105 Dd 8 m0 ac u3 ⟨[a,b,d,e,n,o,g,i,j,p,q,r,l,u],h⟩ =
 bm (aR i l (.lit (.bool false))) h fun vD hG=>
 some (vD,hG):=kG
theorem uF (cx:Cx) (s:St):au cx K u3 .ret s=K .ret s:=by kernel_rfl
-- names: ace,Lm,uF
end
end Go.Ab
