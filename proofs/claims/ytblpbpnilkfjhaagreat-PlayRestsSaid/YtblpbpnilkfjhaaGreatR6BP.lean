import Derived.Test.YtblpbpnilkfjhaaGreatR6Seat
import Derived.Test.YtblpbpnilkfjhaaGreatAbLibC
set_option linter.unusedVariables false
set_option linter.unusedSimpArgs false
set_option maxRecDepth 100000
set_option linter.unusedVariables false
namespace Go.Ab
open Go.Proofs
section
variable (s:Sys) (k wl:Nat) (m0:Nat) (ac:List Nat×List Nat) (c d e o q j g u f y A z B F D E v G I L J N M O R T U W X Q Y Z t2 t1 t0 t3 t4 t5 tb tc t9 ta t7 t6 td te tf tg th ti tj tk tl tm tn tp tq tr ts t8:V) (h:Hp) (K:Out→St→Option (V×Hp)) (rd:Bool) (n n0:Nat) (zz:List V)
noncomputable def wB:Code:=al (am Tryz.f17) [1,1,1,1,0,1,0,0]
noncomputable def AU:List Fr:=[.block 0,.seq (al (am Tryz.f17) [1,1,1,1,1])]
theorem Qg:ak (xX s 17 wl k false) Tryz.f17 [c,d] h =
 bp (aP c h) fun v1 h2=>
 bp (av s.P 30 h2) fun v3 h4=>
 bp (some (.own h4.length 0 0,h4++[.rows 0 [] 0 true])) fun v5 h6=>
 bm (ab s.P 30 v1 h6) h6 fun v7 h8=>
 bp (yC s k wl 17 false true (.fn (.func 41) [] []) [v7] h8) fun v9 hD=>
 bp (av s.P 30 hD) fun vA hF=>
 bs (aj s.P wl 30 vA v9 hF) fun hr=>
 bm (ab s.P 30 v1 hr) hr fun vl he=>
 bp (yC s k wl 17 false true (.fn (.func 20) [] []) [vl] he) fun vS hT=>
 bm (vUn .not vS) hT fun vL hQ=>
 cnd vL (
 bm (ab s.P 30 vA hQ) hQ fun vH hR=>
 bs (aj s.P wl 30 v3 vH hR) fun hE=>
 bp (some (.own hE.length 0 0,hE++[.rows 0 [] 0 true])) fun vG hH=>
 ew [ab s.P 30 v3 hH,some vG] hH) (
 bp (some (.own hQ.length 0 0,hQ++[.rows 0 [] 0 true])) fun vD hI=>
 bp (a7 s.P 31 d hI) fun vE hC=>
 yI s k wl 17 Tryz.f17 wB hC.length AU k ⟨[(V.kill hC.length c),(V.kill hC.length d),(V.kill hC.length v1),(V.kill hC.length uu),(V.kill hC.length v3),(V.kill hC.length v5),(V.kill hC.length vA),(V.kill hC.length vD),(V.kill hC.length uu),(V.kill hC.length uu),(V.kill hC.length v7),(V.kill hC.length v9),(V.kill hC.length vl),(V.kill hC.length vS),(V.kill hC.length vL),(V.kill hC.length uu),(V.kill hC.length d),(V.kill hC.length vE),(.lit (.int .i64 0)),.junk,.junk,.junk,.junk,.junk,.junk,.junk,.junk,.junk,.junk,.junk,.junk,.junk,.junk,.junk,.junk,(V.kill hC.length uu),(V.kill hC.length uu)],bN hC.length hC⟩):=kB
theorem Uw:evF Tryz.prog xM (k+1) wl 17 [c,d] h=ak (xX (xS k) 17 wl k false) Tryz.f17 [c,d] h:=by kernel_rfl
theorem P1 (P:Program):ap P Tryz.f17 .ret ⟨[c,d,e,o,q,j,g,u,f,y,A,z,B,F,D,E,v,G,I,L,J,N,M,O,R,T,U,W,X,Q,Y,Z,t2,t1,t0,t3,t4],h⟩=ew [ab P 30 q h,some j] h:=by kernel_rfl
theorem IS:itX (xX s 17 wl k rd) wB n0 K (n+1) ⟨[c,d,e,o,q,j,g,u,f,y,A,z,B,F,D,E,v,G,I,L,J,N,M,O,R,T,U,W,X,Q,Y,Z,t2,t1,t0,t3,t4],h⟩ =
 bm (aw s.P .lss 3 I G) h fun vF hK=>
 cnd vF (
 bm (ai s.P 31 v I hK) hK fun vJ hL=>
 bm (ab s.P 48 vJ hL) hL fun vK hN=>
 bp (av s.P 48 hN) fun vN hS=>
 bs (aj s.P wl 48 vN vK hS) fun hd=>
 bm (ab s.P 48 vN hd) hd fun vW hX=>
 bm (aa s.P 30 e 0) hX fun va hm=>
 bm (aa s.P 23 va 0) hm fun vm hn=>
 bm (ab s.P 3 vm hn) hn fun vn hp=>
 bm (aa s.P 30 e 4) hp fun vo hq=>
 bm (ab s.P 28 vo hq) hq fun vp hs=>
 bp (a7 s.P 28 vp hs) fun vr ht=>
 bp (bE (xX s 17 wl k rd) false true (.fn (.func 42) [] []) [vW,vn,vr] ht) fun vv hi=>
 cnd vv (
 bm (ab s.P 48 vN hi) hi fun v54 h55=>
 bp (bE (xX s 17 wl k rd) false true (.fn (.func 43) [] []) [g,v54] h55) fun v56 h57=>
 bp (kQ s.P wl 34 34 u v56 h57) fun v58 h59=>
 bm (aw s.P .add 3 I (.lit (.int .i64 1))) h59 fun v60 h61=>
 itX (xX s 17 wl k rd) wB n0 K n ⟨[(V.kill n0 c),(V.kill n0 d),(V.kill n0 e),(V.kill n0 o),(V.kill n0 q),(V.kill n0 j),(V.kill n0 g),(V.kill n0 v58),(V.kill n0 f),(V.kill n0 vN),(V.kill n0 A),(V.kill n0 z),(V.kill n0 B),(V.kill n0 F),(V.kill n0 D),(V.kill n0 E),(V.kill n0 v),(V.kill n0 G),(V.kill n0 v60),.junk,.junk,.junk,.junk,.junk,.junk,.junk,.junk,.junk,.junk,.junk,.junk,.junk,.junk,.junk,.junk,(V.kill n0 t3),(V.kill n0 t4)],bN n0 h61⟩) (
 bm (aw s.P .add 3 I (.lit (.int .i64 1))) hi fun v62 h63=>
 itX (xX s 17 wl k rd) wB n0 K n ⟨[(V.kill n0 c),(V.kill n0 d),(V.kill n0 e),(V.kill n0 o),(V.kill n0 q),(V.kill n0 j),(V.kill n0 g),(V.kill n0 u),(V.kill n0 f),(V.kill n0 vN),(V.kill n0 A),(V.kill n0 z),(V.kill n0 B),(V.kill n0 F),(V.kill n0 D),(V.kill n0 E),(V.kill n0 v),(V.kill n0 G),(V.kill n0 v62),.junk,.junk,.junk,.junk,.junk,.junk,.junk,.junk,.junk,.junk,.junk,.junk,.junk,.junk,.junk,.junk,(V.kill n0 t3),(V.kill n0 t4)],bN n0 h63⟩)) (
 K (.exit 0) ⟨[(V.kill n0 c),(V.kill n0 d),(V.kill n0 e),(V.kill n0 o),(V.kill n0 q),(V.kill n0 j),(V.kill n0 g),(V.kill n0 u),(V.kill n0 f),(V.kill n0 y),(V.kill n0 A),(V.kill n0 z),(V.kill n0 B),(V.kill n0 F),(V.kill n0 D),(V.kill n0 E),(V.kill n0 v),(V.kill n0 G),.junk,.junk,.junk,.junk,.junk,.junk,.junk,.junk,.junk,.junk,.junk,.junk,.junk,.junk,.junk,.junk,.junk,(V.kill n0 t3),(V.kill n0 t4)],bN n0 hK⟩):=kI
theorem pm:au (xX s 17 wl k false) (ap s.P Tryz.f17) AU (.exit 0) ⟨[c,d,e,o,q,j,g,u,f,y,A,z,B,F,D,E,v,G,I,L,J,N,M,O,R,T,U,W,X,Q,Y,Z,t2,t1,t0,t3,t4],h⟩ =
 bm (ab s.P 30 g h) h fun v64 h65=>
 bs (aj s.P wl 30 q v64 h65) fun hf=>
 ew [ab s.P 30 q hf,some u] hf:=kR
theorem fk (cx:Cx) (s:St):au cx K AU .ret s=K .ret s:=by kernel_rfl
-- names: Qg,P1,IS,pm,fk
noncomputable def iI:Code:=al (am Tryz.f19) [1,0]
noncomputable def iw:List Fr:=[.seq (al (am Tryz.f19) [1,1])]
theorem ajo:ak (xX s 19 wl k false) Tryz.f19 [c,d] h =
 bp (aP c h) fun v1 h2=>
 bp (aP d h2) fun v3 h4=>
 bm (aa s.P 30 v1 0) h4 fun v5 h6=>
 bm (ab s.P 23 v5 h6) h6 fun v7 h8=>
 bm (aa s.P 30 v3 0) h8 fun v9 hD=>
 bm (ab s.P 23 v9 hD) hD fun vA hF=>
 bm (aw s.P .eql 23 v7 vA) hF fun vC hJ=>
 gd vC (
 bm (aa s.P 30 v1 1) hJ fun vB hG=>
 bm (ab s.P 24 vB hG) hG fun vI hM=>
 bm (aa s.P 30 v3 1) hM fun vM hP=>
 bm (ab s.P 24 vM hP) hP fun vP hE=>
 bp (yC s k wl 19 false true (.fn (.func 44) [] []) [vI,vP] hE) fun vG hH=>
 yO s k wl 19 Tryz.f19 iI 11 h4.length ([],[]) iw ⟨[c,d,v1,v3,(.lit (.bool false)),v5,v7,v9,vA,vC,(.lit (.bool true)),vB,vI,vM,vP,vG,uu,uu,uu,uu,uu,uu,uu,uu,uu,uu,uu,uu,uu,uu,uu,uu,uu,uu,uu,uu,uu,uu],hH⟩) (
 yO s k wl 19 Tryz.f19 iI 11 h4.length ([],[]) iw ⟨[c,d,v1,v3,(.lit (.bool false)),v5,v7,v9,vA,vC,(.lit (.bool false)),uu,uu,uu,uu,uu,uu,uu,uu,uu,uu,uu,uu,uu,uu,uu,uu,uu,uu,uu,uu,uu,uu,uu,uu,uu,uu,uu],hJ⟩) (
 yO s k wl 19 Tryz.f19 iI 7 h4.length ([],[]) iw ⟨[c,d,v1,v3,(.lit (.bool false)),v5,v7,v9,vA,vC,vC,uu,uu,uu,uu,uu,uu,uu,uu,uu,uu,uu,uu,uu,uu,uu,uu,uu,uu,uu,uu,uu,uu,uu,uu,uu,uu,uu],hJ⟩):=kB
theorem ajV:evF Tryz.prog xM (k+1) wl 19 [c,d] h=ak (xX (xS k) 19 wl k false) Tryz.f19 [c,d] h:=by kernel_rfl
theorem Us:yO s k wl 19 Tryz.f19 iI 11 m0 ac iw ⟨(c::d::e::o::q::j::g::u::f::y::A::z::B::F::D::E::v::G::I::L::J::N::M::zz),h⟩ =
 bm (aR A E (.lit (.bool false))) h fun vD hI=>
 gd vD (
 bm (aa s.P 30 e 2) hI fun vE hC=>
 bm (ab s.P 26 vE hC) hC fun vF hK=>
 bm (aa s.P 30 o 2) hK fun vJ hL=>
 bm (ab s.P 26 vJ hL) hL fun vK hN=>
 bp (yC s k wl 19 false true (.fn (.func 45) [] []) [vF,vK] hN) fun vN hS=>
 yO s k wl 19 Tryz.f19 iI 18 m0 ac iw ⟨(c::d::e::o::q::j::g::u::f::y::A::z::B::F::D::E::vD::(.lit (.bool true))::vE::vF::vJ::vK::vN::zz),hS⟩) (
 yO s k wl 19 Tryz.f19 iI 18 m0 ac iw ⟨(c::d::e::o::q::j::g::u::f::y::A::z::B::F::D::E::vD::(.lit (.bool false))::uu::uu::uu::uu::uu::zz),hI⟩) (
 yO s k wl 19 Tryz.f19 iI 14 m0 ac iw ⟨(c::d::e::o::q::j::g::u::f::y::A::z::B::F::D::E::vD::vD::uu::L::J::N::M::zz),hI⟩):=kG
theorem SN:yO s k wl 19 Tryz.f19 iI 18 m0 ac iw ⟨[c,d,e,o,q,j,g,u,f,y,A,z,B,F,D,E,v,G,I,L,J,N,M,O,R,T,U,W,X,Q,Y,Z,t2,t1,t0,t3,t4,t5],h⟩ =
 bm (aR G M (.lit (.bool false))) h fun vR hU=>
 gd vR (
 bm (aa s.P 30 e 3) hU fun vc hb=>
 bm (ab s.P 27 vc hb) hb fun vX hO=>
 bm (aa s.P 30 o 3) hO fun vT hY=>
 bm (ab s.P 27 vT hY) hY fun vU hA=>
 bp (yC s k wl 19 false true (.fn (.func 46) [] []) [vX,vU,(.fn (.func 47) [] [])] hA) fun vb hZ=>
 yO s k wl 19 Tryz.f19 iI 25 m0 ac iw ⟨[c,d,e,o,q,j,g,u,f,y,A,z,B,F,D,E,v,G,I,L,J,N,M,vR,(.lit (.bool true)),vc,vX,vT,vU,vb,Y,Z,t2,t1,t0,t3,t4,t5],hZ⟩) (
 yO s k wl 19 Tryz.f19 iI 25 m0 ac iw ⟨[c,d,e,o,q,j,g,u,f,y,A,z,B,F,D,E,v,G,I,L,J,N,M,vR,(.lit (.bool false)),uu,uu,uu,uu,uu,Y,Z,t2,t1,t0,t3,t4,t5],hU⟩) (
 yO s k wl 19 Tryz.f19 iI 21 m0 ac iw ⟨[c,d,e,o,q,j,g,u,f,y,A,z,B,F,D,E,v,G,I,L,J,N,M,vR,vR,uu,U,W,X,Q,Y,Z,t2,t1,t0,t3,t4,t5],hU⟩):=kG
theorem UD:yO s k wl 19 Tryz.f19 iI 25 m0 ac iw ⟨[c,d,e,o,q,j,g,u,f,y,A,z,B,F,D,E,v,G,I,L,J,N,M,O,R,T,U,W,X,Q,Y,Z,t2,t1,t0,t3,t4,t5],h⟩ =
 bm (aR R Q (.lit (.bool false))) h fun vQ hW=>
 gd vQ (
 bm (aa s.P 30 e 4) hW fun vY hV=>
 bm (ab s.P 28 vY hV) hV fun vV ha=>
 bm (aa s.P 30 o 4) ha fun vd hc=>
 bm (ab s.P 28 vd hc) hc fun ve hj=>
 bp (yC s k wl 19 false true (.fn (.func 48) [] []) [vV,ve,(.fn (.func 49) [] [])] hj) fun vf hg=>
 yO s k wl 19 Tryz.f19 iI 32 m0 ac iw ⟨[c,d,e,o,q,j,g,u,f,y,A,z,B,F,D,E,v,G,I,L,J,N,M,O,R,T,U,W,X,Q,vQ,(.lit (.bool true)),vY,vV,vd,ve,vf,t5],hg⟩) (
 yO s k wl 19 Tryz.f19 iI 32 m0 ac iw ⟨[c,d,e,o,q,j,g,u,f,y,A,z,B,F,D,E,v,G,I,L,J,N,M,O,R,T,U,W,X,Q,vQ,(.lit (.bool false)),uu,uu,uu,uu,uu,t5],hW⟩) (
 yO s k wl 19 Tryz.f19 iI 28 m0 ac iw ⟨[c,d,e,o,q,j,g,u,f,y,A,z,B,F,D,E,v,G,I,L,J,N,M,O,R,T,U,W,X,Q,vQ,vQ,uu,t1,t0,t3,t4,t5],hW⟩):=kG
theorem SW:yO s k wl 19 Tryz.f19 iI 32 m0 ac iw ⟨[c,d,e,o,q,j,g,u,f,y,A,z,B,F,D,E,v,G,I,L,J,N,M,O,R,T,U,W,X,Q,Y,Z,t2,t1,t0,t3,t4,t5],h⟩ =
 bm (aR Z t4 (.lit (.bool false))) h fun vg hk=>
 some (vg,hk):=kG
theorem AX (cx:Cx) (s:St):au cx K iw .ret s=K .ret s:=by kernel_rfl
-- names: ajo,Us,SN,UD,SW,AX
noncomputable def rC:Code:=al (am Tryz.f20) [1,0,0]
noncomputable def oX:List Fr:=[.seq (al (am Tryz.f20) [1,0,1]),.seq (al (am Tryz.f20) [1,1])]
noncomputable def S9:Code:=al (am Tryz.f20) [1,1,0,1,0]
noncomputable def LQ:Code:=al (am Tryz.f20) [1,1,0,1,0,0]
noncomputable def Nh:Code:=al (am Tryz.f20) [1,1,0,1,0,1]
noncomputable def IN:List Fr:=[.block 0,.seq (al (am Tryz.f20) [1,1,1])]
theorem ov:S9= .rangeFunc (.tmp 23) #[24] LQ Nh:=by kernel_rfl
theorem abS:ak (xX s 20 wl k false) Tryz.f20 [c] h =
 bp (aP c h) fun v1 h2=>
 bp (av s.P 4 h2) fun v3 h4=>
 bm (aa s.P 30 v1 0) h4 fun v5 h6=>
 bm (ab s.P 23 v5 h6) h6 fun v7 h8=>
 bp (yC s k wl 20 false true (.fn (.func 50) [] []) [v7] h8) fun v9 hD=>
 bm (vUn .not v9) hD fun vA hF=>
 gd vA (
 yO s k wl 20 Tryz.f20 rC 12 h4.length ([],[]) oX ⟨[c,v1,v3,v5,v7,v9,vA,(.lit (.bool true)),uu,uu,uu,uu,uu,uu,uu,uu,uu,uu,uu,uu,uu,uu,uu,uu,uu,uu,uu,uu,uu,uu],hF⟩) (
 bm (aa s.P 30 v1 3) hF fun vC hJ=>
 bm (ab s.P 27 vC hJ) hJ fun vB hG=>
 bp (a7 s.P 27 vB hG) fun vI hM=>
 bm (aa s.P 30 v1 0) hM fun vM hP=>
 bm (aa s.P 23 vM 0) hP fun vP hE=>
 bm (ab s.P 3 vP hE) hE fun vG hH=>
 bm (aw s.P .neq 3 vI vG) hH fun vD hI=>
 yO s k wl 20 Tryz.f20 rC 12 h4.length ([],[]) oX ⟨[c,v1,v3,v5,v7,v9,vA,(.lit (.bool false)),vC,vB,vI,vM,vP,vG,vD,uu,uu,uu,uu,uu,uu,uu,uu,uu,uu,uu,uu,uu,uu,uu],hI⟩) (
 yO s k wl 20 Tryz.f20 rC 6 h4.length ([],[]) oX ⟨[c,v1,v3,v5,v7,v9,vA,vA,uu,uu,uu,uu,uu,uu,uu,uu,uu,uu,uu,uu,uu,uu,uu,uu,uu,uu,uu,uu,uu,uu],hF⟩):=kB
theorem aei:evF Tryz.prog xM (k+1) wl 20 [c] h=ak (xX (xS k) 20 wl k false) Tryz.f20 [c] h:=by kernel_rfl
theorem aao (P:Program):ap P Tryz.f20 .ret ⟨[c,d,e,o,q,j,g,u,f,y,A,z,B,F,D,E,v,G,I,L,J,N,M,O,R,T,U,W,X,Q],h⟩=ew [ab P 4 e h] h:=by kernel_rfl
theorem EW:yO s k wl 20 Tryz.f20 rC 12 m0 ac oX ⟨(c::d::e::o::q::j::g::u::f::y::A::z::B::F::D::E::v::G::I::L::J::zz),h⟩ =
 bm (aR u (.lit (.bool true)) D) h fun vE hC=>
 gd vE (
 yO s k wl 20 Tryz.f20 rC 18 m0 ac oX ⟨(c::d::e::o::q::j::g::u::f::y::A::z::B::F::D::vE::(.lit (.bool true))::uu::uu::uu::uu::zz),hC⟩) (
 bm (aa s.P 30 d 4) hC fun vF hK=>
 bm (ab s.P 28 vF hK) hK fun vJ hL=>
 bp (a7 s.P 28 vJ hL) fun vK hN=>
 bm (aw s.P .gtr 3 vK (.lit (.int .i64 3))) hN fun vN hS=>
 yO s k wl 20 Tryz.f20 rC 18 m0 ac oX ⟨(c::d::e::o::q::j::g::u::f::y::A::z::B::F::D::vE::(.lit (.bool false))::vF::vJ::vK::vN::zz),hS⟩) (
 yO s k wl 20 Tryz.f20 rC 15 m0 ac oX ⟨(c::d::e::o::q::j::g::u::f::y::A::z::B::F::D::vE::vE::uu::I::L::J::zz),hC⟩):=kG
theorem D3:yO s k wl 20 Tryz.f20 rC 18 m0 ac oX ⟨[c,d,e,o,q,j,g,u,f,y,A,z,B,F,D,E,v,G,I,L,J,N,M,O,R,T,U,W,X,Q],h⟩ =
 bm (aR v (.lit (.bool true)) J) h fun vR hU=>
 cnd vR (
 bs (aj s.P wl 4 e (.lit (.bool false)) hU) fun hX=>
 ew [ab s.P 4 e hX] hX) (
 bm (ab s.P 30 d hU) hU fun va hm=>
 bp (yC s k wl 20 false true (.fn (.func 51) [] []) [va] hm) fun vm hn=>
 bk (xX s 20 wl k false) S9 none (au (xX s 20 wl k false) (ap s.P Tryz.f20) IN) ⟨[c,d,e,o,q,j,g,u,f,y,A,z,B,F,D,E,v,G,I,L,J,vR,va,vm,R,T,U,W,X,Q],hn⟩):=kG
theorem Ej:au (xX s 20 wl k false) (ap s.P Tryz.f20) IN .norm ⟨[c,d,e,o,q,j,g,u,f,y,A,z,B,F,D,E,v,G,I,L,J,N,M,O,R,T,U,W,X,Q],h⟩ =
 bm (aa s.P 30 d 4) h fun vn hp=>
 bm (ab s.P 28 vn hp) hp fun vo hq=>
 bp (yC s k wl 20 false true (.fn (.func 52) [] []) [vo,(.fn (.func 53) [] [d])] hq) fun vp hs=>
 bm (vUn .not vp) hs fun vr ht=>
 bs (aj s.P wl 4 e vr ht) fun hV=>
 ew [ab s.P 4 e hV] hV:=kR
theorem eD:au (xX s 20 wl k rd) K [.seq Nh] .norm ⟨(c::d::e::zz),h⟩ =
 bs (aj s.P wl 4 e (.lit (.bool false)) h) fun hi=>
 K .ret ⟨(c::d::e::zz),hi⟩:=kR
theorem eC:au (xX s 20 wl k rd) K [.seq LQ] .norm ⟨(c::zz),h⟩ =
 K .norm ⟨(c::zz),h⟩:=kR
theorem lU (cx:Cx) (s:St):au cx K oX .ret s=K .ret s:=by kernel_rfl
theorem lE (cx:Cx) (s:St):au cx K IN .ret s=K .ret s:=by kernel_rfl
-- names: abS,aao,EW,D3,Ej,eD,eC,lU,lE
-- range over a function at [1,1,0,1,0]
noncomputable def I8:Code:=al (am Tryz.f25) [1,0,0]
noncomputable def Fk:List Fr:=[.seq (al (am Tryz.f25) [1,0,1]),.seq (al (am Tryz.f25) [1,1])]
noncomputable def rD:Code:=al (am Tryz.f25) [1,1,0,1,0,0]
noncomputable def IG:List Fr:=[.block 0,.seq (al (am Tryz.f25) [1,1,1])]
noncomputable def Io:Code:=al (am Tryz.f25) [1,1,0,1,0,0,1,1,0,0,1,0]
noncomputable def E5:List Fr:=[.seq (al (am Tryz.f25) [1,1,0,1,0,0,1,1,0,0,1,1]),.block 1,.seq (al (am Tryz.f25) [1,1,0,1,0,0,1,1,1])]
theorem ahP:ak (xX s 25 wl k false) Tryz.f25 [c] h =
 bp (aP c h) fun v1 h2=>
 bm (ab s.P 30 v1 h2) h2 fun v3 h4=>
 bp (yC s k wl 25 false true (.fn (.func 20) [] []) [v3] h4) fun v5 h6=>
 bm (vUn .not v5) h6 fun v7 h8=>
 gd v7 (
 yO s k wl 25 Tryz.f25 I8 7 h2.length ([],[]) Fk ⟨[c,v1,(.lit (.bool false)),uu,uu,v3,v5,v7,(.lit (.bool true)),uu,uu,uu,uu,uu,uu,uu,uu,uu,uu,uu,uu,uu,uu,uu,uu,uu,uu,uu,uu,uu,uu,uu,uu,uu,uu],h8⟩) (
 bm (aa s.P 30 v1 4) h8 fun v9 hD=>
 bm (ab s.P 28 v9 hD) hD fun vA hF=>
 bp (yC s k wl 25 false true (.fn (.func 52) [] []) [vA,(.fn (.func 28) [] [])] hF) fun vC hJ=>
 yO s k wl 25 Tryz.f25 I8 7 h2.length ([],[]) Fk ⟨[c,v1,(.lit (.bool false)),uu,uu,v3,v5,v7,(.lit (.bool false)),v9,vA,vC,uu,uu,uu,uu,uu,uu,uu,uu,uu,uu,uu,uu,uu,uu,uu,uu,uu,uu,uu,uu,uu,uu,uu],hJ⟩) (
 yO s k wl 25 Tryz.f25 I8 5 h2.length ([],[]) Fk ⟨[c,v1,(.lit (.bool false)),uu,uu,v3,v5,v7,v7,uu,uu,uu,uu,uu,uu,uu,uu,uu,uu,uu,uu,uu,uu,uu,uu,uu,uu,uu,uu,uu,uu,uu,uu,uu,uu],h8⟩):=kB
theorem ajP:evF Tryz.prog xM (k+1) wl 25 [c] h=ak (xX (xS k) 25 wl k false) Tryz.f25 [c] h:=by kernel_rfl
theorem ahy (P:Program):ap P Tryz.f25 .ret ⟨[c,d,e,o,q,j,g,u,f,y,A,z,B,F,D,E,v,G,I,L,J,N,M,O,R,T,U,W,X,Q,Y,Z,t2,t1,t0],h⟩=some (e,h):=by kernel_rfl
theorem Lr:yO s k wl 25 Tryz.f25 I8 7 m0 ac Fk ⟨[c,d,e,o,q,j,g,u,f,y,A,z,B,F,D,E,v,G,I,L,J,N,M,O,R,T,U,W,X,Q,Y,Z,t2,t1,t0],h⟩ =
 bm (aR f (.lit (.bool true)) z) h fun vB hG=>
 cnd vB (
 some ((.lit (.bool false)),hG)) (
 bm (aa s.P 30 d 3) hG fun vI hM=>
 bm (ab s.P 27 vI hM) hM fun vM hP=>
 bp (a7 s.P 27 vM hP) fun vP hE=>
 yI s k wl 25 Tryz.f25 rD hE.length IG k ⟨[(V.kill hE.length c),(V.kill hE.length d),(V.kill hE.length e),(V.kill hE.length o),(V.kill hE.length q),(V.kill hE.length j),(V.kill hE.length g),(V.kill hE.length u),(V.kill hE.length f),(V.kill hE.length y),(V.kill hE.length A),(V.kill hE.length z),(V.kill hE.length vB),(V.kill hE.length vI),(V.kill hE.length vM),(V.kill hE.length vP),(.lit (.int .i64 0)),.junk,.junk,.junk,.junk,.junk,.junk,.junk,.junk,.junk,.junk,.junk,.junk,.junk,.junk,.junk,.junk,.junk,.junk],bN hE.length hE⟩):=kG
theorem SM:itX (xX s 25 wl k rd) rD n0 K (n+1) ⟨[c,d,e,o,q,j,g,u,f,y,A,z,B,F,D,E,v,G,I,L,J,N,M,O,R,T,U,W,X,Q,Y,Z,t2,t1,t0],h⟩ =
 bm (aw s.P .lss 3 v E) h fun vG hH=>
 cnd vG (
 bm (ai s.P 27 D v hH) hH fun vD hI=>
 bm (ab s.P 65 vD hI) hI fun vE hC=>
 bp (av s.P 65 hC) fun vF hK=>
 bs (aj s.P wl 65 vF vE hK) fun hl=>
 bm (ab s.P 65 vF hl) hl fun vZ hu=>
 bp (bE (xX s 25 wl k rd) false true (.fn (.func 31) [] []) [vZ] hu) fun vh h35=>
 bm (vUn .not vh) h35 fun vi hd=>
 gd vi (
 cK (xX s 25 wl k rd) Io 12 hl.length ([],[]) (au (xX s 25 wl k rd) (eq (xX s 25 wl k rd) rD n0 K n) E5) ⟨[c,d,e,v,vF,j,g,u,f,y,A,z,B,F,D,E,v,vG,v,vD,vE,vZ,vh,vi,(.lit (.bool true)),uu,uu,uu,uu,uu,uu,uu,uu,t1,t0],hd⟩) (
 bm (aa s.P 30 d 2) hd fun vW hX=>
 stO hl.length vW (
 bm (ab s.P 26 vW hX) hX fun va hm=>
 bm (aa s.P 30 d 0) hm fun vm hn=>
 bm (ab s.P 23 vm hn) hn fun vn hp=>
 bp (bE (xX s 25 wl k rd) true true (.fn (.func 32) [] []) [vn,v] hp) fun vo hq=>
 bp (bE (xX s 25 wl k rd) false true (.fn (.func 27) [] []) [va,vo] hq) fun vp hs=>
 bm (aw s.P .neq 46 vp (.lit (.int .u64 0))) hs fun vr ht=>
 cK (xX s 25 wl k rd) Io 12 hl.length ([],[]) (au (xX s 25 wl k rd) (eq (xX s 25 wl k rd) rD n0 K n) E5) ⟨[c,d,e,v,vF,j,g,u,f,y,A,z,B,F,D,E,v,vG,v,vD,vE,vZ,vh,vi,(.lit (.bool false)),vW,va,vm,vn,v,vo,vp,vr,t1,t0],ht⟩)) (
 cK (xX s 25 wl k rd) Io 5 hl.length ([],[]) (au (xX s 25 wl k rd) (eq (xX s 25 wl k rd) rD n0 K n) E5) ⟨[c,d,e,v,vF,j,g,u,f,y,A,z,B,F,D,E,v,vG,v,vD,vE,vZ,vh,vi,vi,uu,U,W,X,Q,Y,Z,t2,t1,t0],hd⟩)) (
 K (.exit 0) ⟨[(V.kill n0 c),(V.kill n0 d),(V.kill n0 e),(V.kill n0 o),(V.kill n0 q),(V.kill n0 j),(V.kill n0 g),(V.kill n0 u),(V.kill n0 f),(V.kill n0 y),(V.kill n0 A),(V.kill n0 z),(V.kill n0 B),(V.kill n0 F),(V.kill n0 D),(V.kill n0 E),.junk,.junk,.junk,.junk,.junk,.junk,.junk,.junk,.junk,.junk,.junk,.junk,.junk,.junk,.junk,.junk,.junk,.junk,.junk],bN n0 hH⟩):=kI
theorem Mk:au (xX s 25 wl k false) (ap s.P Tryz.f25) IG (.exit 0) ⟨[c,d,e,o,q,j,g,u,f,y,A,z,B,F,D,E,v,G,I,L,J,N,M,O,R,T,U,W,X,Q,Y,Z,t2,t1,t0],h⟩ =
 some ((.lit (.bool true)),h):=kR
theorem LX:cK (xX s 25 wl k rd) Io 12 m0 ac (au (xX s 25 wl k rd) (eq (xX s 25 wl k rd) rD n0 K n) E5) ⟨[c,d,e,o,q,j,g,u,f,y,A,z,B,F,D,E,v,G,I,L,J,N,M,O,R,T,U,W,X,Q,Y,Z,t2,t1,t0],h⟩ =
 bm (aR R (.lit (.bool true)) t2) h fun vv hi=>
 cnd vv (
 K .ret ⟨[c,d,(.lit (.bool false)),o,q,j,g,u,f,y,A,z,B,F,D,E,v,G,I,L,J,N,M,O,R,T,U,W,X,Q,Y,Z,t2,vv,t0],hi⟩) (
 bm (aw s.P .add 3 v (.lit (.int .i64 1))) hi fun v54 h55=>
 itX (xX s 25 wl k rd) rD n0 K n ⟨[(V.kill n0 c),(V.kill n0 d),(V.kill n0 e),(V.kill n0 o),(V.kill n0 q),(V.kill n0 j),(V.kill n0 g),(V.kill n0 u),(V.kill n0 f),(V.kill n0 y),(V.kill n0 A),(V.kill n0 z),(V.kill n0 B),(V.kill n0 F),(V.kill n0 D),(V.kill n0 E),(V.kill n0 v54),.junk,.junk,.junk,.junk,.junk,.junk,.junk,.junk,.junk,.junk,.junk,.junk,.junk,.junk,.junk,.junk,.junk,.junk],bN n0 h55⟩):=kG
theorem pX (cx:Cx) (s:St):au cx K Fk .ret s=K .ret s:=by kernel_rfl
theorem ra (cx:Cx) (s:St):au cx K IG .ret s=K .ret s:=by kernel_rfl
theorem pT (cx:Cx) (s:St):au cx K E5 .ret s=K .ret s:=by kernel_rfl
-- names: ahP,ahy,Lr,SM,Mk,LX,pX,ra,pT
noncomputable def rN:Code:=al (am Tryz.f29) [1,0]
noncomputable def o7:List Fr:=[.seq (al (am Tryz.f29) [1,1])]
theorem ajG:ak (xX s 29 wl k false) Tryz.f29 [c] h =
 bp (aP c h) fun v1 h2=>
 bm (ab s.P 30 v1 h2) h2 fun v3 h4=>
 bp (yC s k wl 29 false true (.fn (.func 25) [] []) [v3] h4) fun v5 h6=>
 gd v5 (
 bm (aa s.P 30 v1 2) h6 fun v7 h8=>
 bm (ab s.P 26 v7 h8) h8 fun v9 hD=>
 bp (yC s k wl 29 false true (.fn (.func 27) [] []) [v9,(.lit (.int .i64 0))] hD) fun vA hF=>
 bm (aw s.P .eql 46 vA (.lit (.int .u64 0))) hF fun vC hJ=>
 yO s k wl 29 Tryz.f29 rN 7 h2.length ([],[]) o7 ⟨[c,v1,(.lit (.bool false)),v3,v5,(.lit (.bool true)),v7,v9,vA,vC,uu,uu,uu,uu,uu,uu,uu],hJ⟩) (
 yO s k wl 29 Tryz.f29 rN 7 h2.length ([],[]) o7 ⟨[c,v1,(.lit (.bool false)),v3,v5,(.lit (.bool false)),uu,uu,uu,uu,uu,uu,uu,uu,uu,uu,uu],h6⟩) (
 yO s k wl 29 Tryz.f29 rN 4 h2.length ([],[]) o7 ⟨[c,v1,(.lit (.bool false)),v3,v5,v5,uu,uu,uu,uu,uu,uu,uu,uu,uu,uu,uu],h6⟩):=kB
theorem akL:evF Tryz.prog xM (k+1) wl 29 [c] h=ak (xX (xS k) 29 wl k false) Tryz.f29 [c] h:=by kernel_rfl
theorem Tu:yO s k wl 29 Tryz.f29 rN 7 m0 ac o7 ⟨[c,d,e,o,q,j,g,u,f,y,A,z,B,F,D,E,v],h⟩ =
 bm (aR j y (.lit (.bool false))) h fun vB hG=>
 gd vB (
 bm (aa s.P 30 d 4) hG fun vI hM=>
 bm (ab s.P 28 vI hM) hM fun vM hP=>
 bp (yC s k wl 29 false true (.fn (.func 52) [] []) [vM,(.fn (.func 67) [] [])] hP) fun vP hE=>
 bm (vUn .not vP) hE fun vG hH=>
 yO s k wl 29 Tryz.f29 rN 13 m0 ac o7 ⟨[c,d,e,o,q,j,g,u,f,y,vB,(.lit (.bool true)),vI,vM,vP,vG,v],hH⟩) (
 yO s k wl 29 Tryz.f29 rN 13 m0 ac o7 ⟨[c,d,e,o,q,j,g,u,f,y,vB,(.lit (.bool false)),uu,uu,uu,uu,v],hG⟩) (
 yO s k wl 29 Tryz.f29 rN 10 m0 ac o7 ⟨[c,d,e,o,q,j,g,u,f,y,vB,vB,uu,F,D,E,v],hG⟩):=kG
theorem TJ:yO s k wl 29 Tryz.f29 rN 13 m0 ac o7 ⟨[c,d,e,o,q,j,g,u,f,y,A,z,B,F,D,E,v],h⟩ =
 bm (aR z E (.lit (.bool false))) h fun vD hI=>
 some (vD,hI):=kG
theorem Bk (cx:Cx) (s:St):au cx K o7 .ret s=K .ret s:=by kernel_rfl
-- names: ajG,Tu,TJ,Bk
noncomputable def Jd:Code:=al (am Tryz.f41) [1,1,1,0,1,0,0]
noncomputable def Ij:List Fr:=[.block 0,.seq (al (am Tryz.f41) [1,1,1,1])]
noncomputable def HQ:Code:=al (am Tryz.f41) [1,1,1,1,0,1,0,0]
noncomputable def Ir:List Fr:=[.block 2,.seq (al (am Tryz.f41) [1,1,1,1,1])]
theorem OC:ak (xX s 41 wl k false) Tryz.f41 [c] h =
 bp (aP c h) fun v1 h2=>
 bp (av s.P 30 h2) fun v3 h4=>
 bm (aa s.P 30 v1 1) h4 fun v5 h6=>
 bm (ab s.P 24 v5 h6) h6 fun v7 h8=>
 bp (yC s k wl 41 true true (.fn (.func 58) [] []) [v7] h8) fun v9 hD=>
 bm (aa s.P 30 v1 2) hD fun vA hF=>
 stO h4.length vA (
 bm (ab s.P 26 vA hF) hF fun vC hJ=>
 bp (yC s k wl 41 false true (.fn (.func 76) [] []) [vC] hJ) fun vB hG=>
 bm (aa s.P 30 v1 1) hG fun vI hM=>
 bs (aj s.P wl 24 vI v9 hM) fun hQ=>
 bm (aa s.P 30 v1 2) hQ fun vH hR=>
 bs (aj s.P wl 26 vH vB hR) fun hE=>
 bm (aa s.P 30 v1 3) hE fun vG hH=>
 bm (ab s.P 27 vG hH) hH fun vD hI=>
 bp (yC s k wl 41 true true (.fn (.func 77) [] []) [vD] hI) fun vE hC=>
 bm (aa s.P 30 v1 4) hC fun vF hK=>
 stO hE.length vF (
 bm (ab s.P 28 vF hK) hK fun vJ hL=>
 bp (yC s k wl 41 false true (.fn (.func 78) [] []) [vJ] hL) fun vK hN=>
 bm (aa s.P 30 v1 3) hN fun vN hS=>
 bs (aj s.P wl 27 vN vE hS) fun hd=>
 bm (aa s.P 30 v1 4) hd fun vW hX=>
 bs (aj s.P wl 28 vW vK hX) fun hb=>
 bm (aa s.P 30 v1 3) hb fun vX hO=>
 bm (ab s.P 27 vX hO) hO fun vT hY=>
 bp (a7 s.P 27 vT hY) fun vU hA=>
 yI s k wl 41 Tryz.f41 Jd hA.length Ij k ⟨[(V.kill hA.length c),(V.kill hA.length v1),(V.kill hA.length v3),(V.kill hA.length uu),(V.kill hA.length uu),(V.kill hA.length v5),(V.kill hA.length v7),(V.kill hA.length v9),(V.kill hA.length vA),(V.kill hA.length vC),(V.kill hA.length vB),(V.kill hA.length vI),(V.kill hA.length vH),(V.kill hA.length vG),(V.kill hA.length vD),(V.kill hA.length vE),(V.kill hA.length vF),(V.kill hA.length vJ),(V.kill hA.length vK),(V.kill hA.length vN),(V.kill hA.length vW),(V.kill hA.length vX),(V.kill hA.length vT),(V.kill hA.length vU),(.lit (.int .i64 0)),.junk,.junk,.junk,.junk,.junk,.junk,.junk,.junk,.junk,.junk,.junk,.junk,.junk,.junk,.junk,(V.kill hA.length uu),(V.kill hA.length uu),(V.kill hA.length uu),(V.kill hA.length uu),(V.kill hA.length uu),(V.kill hA.length uu),(V.kill hA.length uu),(V.kill hA.length uu),(V.kill hA.length uu),(V.kill hA.length uu),(V.kill hA.length uu),(V.kill hA.length uu),(V.kill hA.length uu),(V.kill hA.length uu),(V.kill hA.length uu),(V.kill hA.length uu),(V.kill hA.length uu),(V.kill hA.length uu),(V.kill hA.length uu),(V.kill hA.length uu)],bN hA.length hA⟩)):=kB
theorem UC:evF Tryz.prog xM (k+1) wl 41 [c] h=ak (xX (xS k) 41 wl k false) Tryz.f41 [c] h:=by kernel_rfl
theorem QD (P:Program):ap P Tryz.f41 .ret ⟨[c,d,e,o,q,j,g,u,f,y,A,z,B,F,D,E,v,G,I,L,J,N,M,O,R,T,U,W,X,Q,Y,Z,t2,t1,t0,t3,t4,t5,tb,tc,t9,ta,t7,t6,td,te,tf,tg,th,ti,tj,tk,tl,tm,tn,tp,tq,tr,ts,t8],h⟩=ew [ab P 30 e h] h:=by kernel_rfl
theorem TC:itX (xX s 41 wl k rd) Jd n0 K (n+1) ⟨[c,d,e,o,q,j,g,u,f,y,A,z,B,F,D,E,v,G,I,L,J,N,M,O,R,T,U,W,X,Q,Y,Z,t2,t1,t0,t3,t4,t5,tb,tc,t9,ta,t7,t6,td,te,tf,tg,th,ti,tj,tk,tl,tm,tn,tp,tq,tr,ts,t8],h⟩ =
 bm (aw s.P .lss 3 R O) h fun vb hZ=>
 cnd vb (
 bm (aa s.P 30 d 3) hZ fun vQ hW=>
 stO hZ.length vQ (
 bm (ab s.P 27 vQ hW) hW fun vY hV=>
 bm (aa s.P 30 d 3) hV fun vV ha=>
 bm (ab s.P 27 vV ha) ha fun vd hc=>
 bm (ai s.P 27 vd R hc) hc fun ve hj=>
 bm (aa s.P 65 ve 1) hj fun vf hg=>
 bm (ab s.P 63 vf hg) hg fun vg hk=>
 bp (bE (xX s 41 wl k rd) true true (.fn (.func 79) [] []) [vg] hk) fun vj ho=>
 bm (ai s.P 27 vY R ho) ho fun vs hf=>
 bm (aa s.P 65 vs 1) hf fun vt hv=>
 bs (aj s.P wl 63 vt vj hv) fun h69=>
 bm (aw s.P .add 3 R (.lit (.int .i64 1))) h69 fun v70 h71=>
 itX (xX s 41 wl k rd) Jd n0 K n ⟨[(V.kill n0 c),(V.kill n0 d),(V.kill n0 e),(V.kill n0 R),(V.kill n0 q),(V.kill n0 j),(V.kill n0 g),(V.kill n0 u),(V.kill n0 f),(V.kill n0 y),(V.kill n0 A),(V.kill n0 z),(V.kill n0 B),(V.kill n0 F),(V.kill n0 D),(V.kill n0 E),(V.kill n0 v),(V.kill n0 G),(V.kill n0 I),(V.kill n0 L),(V.kill n0 J),(V.kill n0 N),(V.kill n0 M),(V.kill n0 O),(V.kill n0 v70),.junk,.junk,.junk,.junk,.junk,.junk,.junk,.junk,.junk,.junk,.junk,.junk,.junk,.junk,.junk,(V.kill n0 t9),(V.kill n0 ta),(V.kill n0 t7),(V.kill n0 t6),(V.kill n0 td),(V.kill n0 te),(V.kill n0 tf),(V.kill n0 tg),(V.kill n0 th),(V.kill n0 ti),(V.kill n0 tj),(V.kill n0 tk),(V.kill n0 tl),(V.kill n0 tm),(V.kill n0 tn),(V.kill n0 tp),(V.kill n0 tq),(V.kill n0 tr),(V.kill n0 ts),(V.kill n0 t8)],bN n0 h71⟩)) (
 K (.exit 0) ⟨[(V.kill n0 c),(V.kill n0 d),(V.kill n0 e),(V.kill n0 o),(V.kill n0 q),(V.kill n0 j),(V.kill n0 g),(V.kill n0 u),(V.kill n0 f),(V.kill n0 y),(V.kill n0 A),(V.kill n0 z),(V.kill n0 B),(V.kill n0 F),(V.kill n0 D),(V.kill n0 E),(V.kill n0 v),(V.kill n0 G),(V.kill n0 I),(V.kill n0 L),(V.kill n0 J),(V.kill n0 N),(V.kill n0 M),(V.kill n0 O),.junk,.junk,.junk,.junk,.junk,.junk,.junk,.junk,.junk,.junk,.junk,.junk,.junk,.junk,.junk,.junk,(V.kill n0 t9),(V.kill n0 ta),(V.kill n0 t7),(V.kill n0 t6),(V.kill n0 td),(V.kill n0 te),(V.kill n0 tf),(V.kill n0 tg),(V.kill n0 th),(V.kill n0 ti),(V.kill n0 tj),(V.kill n0 tk),(V.kill n0 tl),(V.kill n0 tm),(V.kill n0 tn),(V.kill n0 tp),(V.kill n0 tq),(V.kill n0 tr),(V.kill n0 ts),(V.kill n0 t8)],bN n0 hZ⟩):=kI
theorem oZ:au (xX s 41 wl k false) (ap s.P Tryz.f41) Ij (.exit 0) ⟨[c,d,e,o,q,j,g,u,f,y,A,z,B,F,D,E,v,G,I,L,J,N,M,O,R,T,U,W,X,Q,Y,Z,t2,t1,t0,t3,t4,t5,tb,tc,t9,ta,t7,t6,td,te,tf,tg,th,ti,tj,tk,tl,tm,tn,tp,tq,tr,ts,t8],h⟩ =
 bm (aa s.P 30 d 4) h fun v72 h73=>
 bm (ab s.P 28 v72 h73) h73 fun v74 h75=>
 bp (a7 s.P 28 v74 h75) fun vw hB=>
 yI s k wl 41 Tryz.f41 HQ hB.length Ir k ⟨[(V.kill hB.length c),(V.kill hB.length d),(V.kill hB.length e),(V.kill hB.length o),(V.kill hB.length q),(V.kill hB.length j),(V.kill hB.length g),(V.kill hB.length u),(V.kill hB.length f),(V.kill hB.length y),(V.kill hB.length A),(V.kill hB.length z),(V.kill hB.length B),(V.kill hB.length F),(V.kill hB.length D),(V.kill hB.length E),(V.kill hB.length v),(V.kill hB.length G),(V.kill hB.length I),(V.kill hB.length L),(V.kill hB.length J),(V.kill hB.length N),(V.kill hB.length M),(V.kill hB.length O),(V.kill hB.length R),(V.kill hB.length T),(V.kill hB.length U),(V.kill hB.length W),(V.kill hB.length X),(V.kill hB.length Q),(V.kill hB.length Y),(V.kill hB.length Z),(V.kill hB.length t2),(V.kill hB.length t1),(V.kill hB.length t0),(V.kill hB.length t3),(V.kill hB.length t4),(V.kill hB.length t5),(V.kill hB.length tb),(V.kill hB.length tc),(V.kill hB.length v72),(V.kill hB.length v74),(V.kill hB.length vw),(.lit (.int .i64 0)),.junk,.junk,.junk,.junk,.junk,.junk,.junk,.junk,.junk,.junk,.junk,.junk,.junk,.junk,.junk,(V.kill hB.length t8)],bN hB.length hB⟩:=kR
theorem TO:itX (xX s 41 wl k rd) HQ n0 K (n+1) ⟨[c,d,e,o,q,j,g,u,f,y,A,z,B,F,D,E,v,G,I,L,J,N,M,O,R,T,U,W,X,Q,Y,Z,t2,t1,t0,t3,t4,t5,tb,tc,t9,ta,t7,t6,td,te,tf,tg,th,ti,tj,tk,tl,tm,tn,tp,tq,tr,ts,t8],h⟩ =
 bm (aw s.P .lss 3 t6 t7) h fun v78 hw=>
 cnd v78 (
 bm (aa s.P 30 d 4) hw fun v80 h81=>
 stO hw.length v80 (
 bm (ab s.P 28 v80 h81) h81 fun v82 h83=>
 bm (aa s.P 30 d 4) h83 fun v84 h85=>
 bm (ab s.P 28 v84 h85) h85 fun v86 h87=>
 bm (ai s.P 28 v86 t6 h87) h87 fun v88 h89=>
 bm (aa s.P 57 v88 1) h89 fun v90 h91=>
 bm (ab s.P 53 v90 h91) h91 fun v92 h93=>
 bp (bE (xX s 41 wl k rd) true true (.fn (.func 80) [] []) [v92] h93) fun v94 h95=>
 bm (ai s.P 28 v82 t6 h95) h95 fun v96 h97=>
 bm (aa s.P 57 v96 1) h97 fun v98 h99=>
 bs (aj s.P wl 53 v98 v94 h99) fun hy=>
 bm (aw s.P .add 3 t6 (.lit (.int .i64 1))) hy fun vk hz=>
 itX (xX s 41 wl k rd) HQ n0 K n ⟨[(V.kill n0 c),(V.kill n0 d),(V.kill n0 e),(V.kill n0 o),(V.kill n0 t6),(V.kill n0 j),(V.kill n0 g),(V.kill n0 u),(V.kill n0 f),(V.kill n0 y),(V.kill n0 A),(V.kill n0 z),(V.kill n0 B),(V.kill n0 F),(V.kill n0 D),(V.kill n0 E),(V.kill n0 v),(V.kill n0 G),(V.kill n0 I),(V.kill n0 L),(V.kill n0 J),(V.kill n0 N),(V.kill n0 M),(V.kill n0 O),(V.kill n0 R),(V.kill n0 T),(V.kill n0 U),(V.kill n0 W),(V.kill n0 X),(V.kill n0 Q),(V.kill n0 Y),(V.kill n0 Z),(V.kill n0 t2),(V.kill n0 t1),(V.kill n0 t0),(V.kill n0 t3),(V.kill n0 t4),(V.kill n0 t5),(V.kill n0 tb),(V.kill n0 tc),(V.kill n0 t9),(V.kill n0 ta),(V.kill n0 t7),(V.kill n0 vk),.junk,.junk,.junk,.junk,.junk,.junk,.junk,.junk,.junk,.junk,.junk,.junk,.junk,.junk,.junk,(V.kill n0 t8)],bN n0 hz⟩)) (
 K (.exit 2) ⟨[(V.kill n0 c),(V.kill n0 d),(V.kill n0 e),(V.kill n0 o),(V.kill n0 q),(V.kill n0 j),(V.kill n0 g),(V.kill n0 u),(V.kill n0 f),(V.kill n0 y),(V.kill n0 A),(V.kill n0 z),(V.kill n0 B),(V.kill n0 F),(V.kill n0 D),(V.kill n0 E),(V.kill n0 v),(V.kill n0 G),(V.kill n0 I),(V.kill n0 L),(V.kill n0 J),(V.kill n0 N),(V.kill n0 M),(V.kill n0 O),(V.kill n0 R),(V.kill n0 T),(V.kill n0 U),(V.kill n0 W),(V.kill n0 X),(V.kill n0 Q),(V.kill n0 Y),(V.kill n0 Z),(V.kill n0 t2),(V.kill n0 t1),(V.kill n0 t0),(V.kill n0 t3),(V.kill n0 t4),(V.kill n0 t5),(V.kill n0 tb),(V.kill n0 tc),(V.kill n0 t9),(V.kill n0 ta),(V.kill n0 t7),.junk,.junk,.junk,.junk,.junk,.junk,.junk,.junk,.junk,.junk,.junk,.junk,.junk,.junk,.junk,.junk,(V.kill n0 t8)],bN n0 hw⟩):=kI
theorem o9:au (xX s 41 wl k false) (ap s.P Tryz.f41) Ir (.exit 2) ⟨[c,d,e,o,q,j,g,u,f,y,A,z,B,F,D,E,v,G,I,L,J,N,M,O,R,T,U,W,X,Q,Y,Z,t2,t1,t0,t3,t4,t5,tb,tc,t9,ta,t7,t6,td,te,tf,tg,th,ti,tj,tk,tl,tm,tn,tp,tq,tr,ts,t8],h⟩ =
 bm (ab s.P 30 d h) h fun vu h104=>
 bs (aj s.P wl 30 e vu h104) fun h105=>
 ew [ab s.P 30 e h105] h105:=kR
theorem fx (cx:Cx) (s:St):au cx K Ij .ret s=K .ret s:=by kernel_rfl
theorem fy (cx:Cx) (s:St):au cx K Ir .ret s=K .ret s:=by kernel_rfl
-- names: OC,QD,TC,oZ,TO,o9,fx,fy
noncomputable def I5:List Fr:=[.seq (al (am Tryz.f43) [1,1,1])]
theorem Oz:ak (xX s 43 wl k false) Tryz.f43 [c,d] h =
 bp (aP c h) fun v1 h2=>
 bp (aP d h2) fun v3 h4=>
 bp (av s.P 34 h4) fun v5 h6=>
 bp (some (.map h6.length,h6++[.map []])) fun v7 h8=>
 bs (fe s.P wl 138 v7 (.lit (.int .i64 0)) (.fn (.func 82) [] [v1,v3,v5]) h8) fun h9=>
 bs (fe s.P wl 138 v7 (.lit (.int .i64 1)) (.fn (.func 84) [] [v1,v3,v5]) h9) fun hD=>
 bs (fe s.P wl 138 v7 (.lit (.int .i64 2)) (.fn (.func 87) [] [v1]) hD) fun h11=>
 bm (aa s.P 48 v3 0) h11 fun v12 hr=>
 bm (ab s.P 3 v12 hr) hr fun vl he=>
 bm (gD s.P 138 v7 vl true he) he fun vS hT=>
 bm (aq vS 0) hT fun vL hQ=>
 bm (aq vS 1) hQ fun vH hR=>
 cnd vH (
 bp (yC s k wl 43 false true vL [] hR) fun vO hh=>
 au (xX s 43 wl k false) (ap s.P Tryz.f43) I5 .norm ⟨[c,d,v1,v3,v5,v7,vL,vH,v7,(.fn (.func 82) [] [v1,v3,v5]),(.fn (.func 84) [] [v1,v3,v5]),(.fn (.func 87) [] [v1]),v7,vS,v7,v12,vl,vS,vL,vH,vH,vL,vO,uu],hh⟩) (
 au (xX s 43 wl k false) (ap s.P Tryz.f43) I5 .norm ⟨[c,d,v1,v3,v5,v7,vL,vH,v7,(.fn (.func 82) [] [v1,v3,v5]),(.fn (.func 84) [] [v1,v3,v5]),(.fn (.func 87) [] [v1]),v7,vS,v7,v12,vl,vS,vL,vH,vH,uu,uu,uu],hR⟩):=kB
theorem SK:evF Tryz.prog xM (k+1) wl 43 [c,d] h=ak (xX (xS k) 43 wl k false) Tryz.f43 [c,d] h:=by kernel_rfl
theorem pa:au (xX s 43 wl k false) (ap s.P Tryz.f43) I5 .norm ⟨[c,d,e,o,q,j,g,u,f,y,A,z,B,F,D,E,v,G,I,L,J,N,M,O],h⟩ =
 bm (ab s.P 34 q h) h fun vq h25=>
 bs (aj s.P wl 34 q vq h25) fun hI=>
 ew [ab s.P 34 q hI] hI:=kR
theorem fj (cx:Cx) (s:St):au cx K I5 .ret s=K .ret s:=by kernel_rfl
-- names: Oz,pa,fj
noncomputable def HE:Code:=al (am Tryz.f46) [1,1,0,1,0,0]
noncomputable def Ic:List Fr:=[.block 0,.seq (al (am Tryz.f46) [1,1,1])]
theorem aeq:ak (xX s 46 wl k false) Tryz.f46 [c,d,e] h =
 bp (a7 s.P 27 c h) fun v1 h2=>
 bp (a7 s.P 27 d h2) fun v3 h4=>
 bm (aw s.P .neq 3 v1 v3) h4 fun v5 h6=>
 cnd v5 (
 some ((.lit (.bool false)),h6)) (
 bp (a7 s.P 27 c h6) fun v7 h8=>
 yI s k wl 46 Tryz.f46 HE h8.length Ic k ⟨[(V.kill h8.length c),(V.kill h8.length d),(V.kill h8.length e),(V.kill h8.length uu),(V.kill h8.length uu),(V.kill h8.length uu),(.lit (.bool false)),(V.kill h8.length uu),(V.kill h8.length uu),(V.kill h8.length uu),(V.kill h8.length c),(V.kill h8.length v1),(V.kill h8.length d),(V.kill h8.length v3),(V.kill h8.length v5),(V.kill h8.length c),(V.kill h8.length v7),(.lit (.int .i64 0)),.junk,.junk,.junk,.junk,.junk,.junk,.junk,.junk,.junk,.junk,.junk,.junk,.junk,.junk],bN h8.length h8⟩):=kB
theorem aiL:evF Tryz.prog xM (k+1) wl 46 [c,d,e] h=ak (xX (xS k) 46 wl k false) Tryz.f46 [c,d,e] h:=by kernel_rfl
theorem aeb (P:Program):ap P Tryz.f46 .ret ⟨[c,d,e,o,q,j,g,u,f,y,A,z,B,F,D,E,v,G,I,L,J,N,M,O,R,T,U,W,X,Q,Y,Z],h⟩=some (g,h):=by kernel_rfl
theorem TI:itX (xX s 46 wl k rd) HE n0 K (n+1) ⟨[c,d,e,o,q,j,g,u,f,y,A,z,B,F,D,E,v,G,I,L,J,N,M,O,R,T,U,W,X,Q,Y,Z],h⟩ =
 bm (aw s.P .lss 3 G v) h fun v9 hD=>
 cnd v9 (
 bm (ai s.P 27 E G hD) hD fun vA hF=>
 bm (ab s.P 65 vA hF) hF fun vC hJ=>
 bp (av s.P 65 hJ) fun vB hG=>
 bs (aj s.P wl 65 vB vC hG) fun hT=>
 bm (ai s.P 27 d G hT) hT fun vL hQ=>
 bm (ab s.P 65 vL hQ) hQ fun vH hR=>
 bp (av s.P 65 hR) fun vO hh=>
 bs (aj s.P wl 65 vO vH hh) fun hH=>
 bm (ab s.P 65 vB hH) hH fun vD hI=>
 bm (ab s.P 65 vO hI) hI fun vE hC=>
 bp (bE (xX s 46 wl k rd) false true e [vD,vE] hC) fun vF hK=>
 bm (vUn .not vF) hK fun vJ hL=>
 cnd vJ (
 K .ret ⟨[c,d,e,o,q,j,(.lit (.bool false)),G,vB,vO,A,z,B,F,D,E,v,G,v9,G,vA,vC,d,G,vL,vH,e,vD,vE,vF,vJ,Z],hL⟩) (
 bm (aw s.P .add 3 G (.lit (.int .i64 1))) hL fun vK hN=>
 itX (xX s 46 wl k rd) HE n0 K n ⟨[(V.kill n0 c),(V.kill n0 d),(V.kill n0 e),(V.kill n0 o),(V.kill n0 q),(V.kill n0 j),(V.kill n0 g),(V.kill n0 G),(V.kill n0 vB),(V.kill n0 vO),(V.kill n0 A),(V.kill n0 z),(V.kill n0 B),(V.kill n0 F),(V.kill n0 D),(V.kill n0 E),(V.kill n0 v),(V.kill n0 vK),.junk,.junk,.junk,.junk,.junk,.junk,.junk,.junk,.junk,.junk,.junk,.junk,.junk,.junk],bN n0 hN⟩)) (
 K (.exit 0) ⟨[(V.kill n0 c),(V.kill n0 d),(V.kill n0 e),(V.kill n0 o),(V.kill n0 q),(V.kill n0 j),(V.kill n0 g),(V.kill n0 u),(V.kill n0 f),(V.kill n0 y),(V.kill n0 A),(V.kill n0 z),(V.kill n0 B),(V.kill n0 F),(V.kill n0 D),(V.kill n0 E),(V.kill n0 v),.junk,.junk,.junk,.junk,.junk,.junk,.junk,.junk,.junk,.junk,.junk,.junk,.junk,.junk,.junk],bN n0 hD⟩):=kI
theorem HG:au (xX s 46 wl k false) (ap s.P Tryz.f46) Ic (.exit 0) ⟨[c,d,e,o,q,j,g,u,f,y,A,z,B,F,D,E,v,G,I,L,J,N,M,O,R,T,U,W,X,Q,Y,Z],h⟩ =
 some ((.lit (.bool true)),h):=kR
theorem na (cx:Cx) (s:St):au cx K Ic .ret s=K .ret s:=by kernel_rfl
-- names: aeq,aeb,TI,HG,na
noncomputable def Ih:Code:=al (am Tryz.f48) [1,1,0,1,0,0]
noncomputable def HW:List Fr:=[.block 0,.seq (al (am Tryz.f48) [1,1,1])]
theorem aeh:ak (xX s 48 wl k false) Tryz.f48 [c,d,e] h =
 bp (a7 s.P 28 c h) fun v1 h2=>
 bp (a7 s.P 28 d h2) fun v3 h4=>
 bm (aw s.P .neq 3 v1 v3) h4 fun v5 h6=>
 cnd v5 (
 some ((.lit (.bool false)),h6)) (
 bp (a7 s.P 28 c h6) fun v7 h8=>
 yI s k wl 48 Tryz.f48 Ih h8.length HW k ⟨[(V.kill h8.length c),(V.kill h8.length d),(V.kill h8.length e),(V.kill h8.length uu),(V.kill h8.length uu),(V.kill h8.length uu),(.lit (.bool false)),(V.kill h8.length uu),(V.kill h8.length uu),(V.kill h8.length uu),(V.kill h8.length c),(V.kill h8.length v1),(V.kill h8.length d),(V.kill h8.length v3),(V.kill h8.length v5),(V.kill h8.length c),(V.kill h8.length v7),(.lit (.int .i64 0)),.junk,.junk,.junk,.junk,.junk,.junk,.junk,.junk,.junk,.junk,.junk,.junk,.junk,.junk],bN h8.length h8⟩):=kB
theorem afm:evF Tryz.prog xM (k+1) wl 48 [c,d,e] h=ak (xX (xS k) 48 wl k false) Tryz.f48 [c,d,e] h:=by kernel_rfl
theorem aen (P:Program):ap P Tryz.f48 .ret ⟨[c,d,e,o,q,j,g,u,f,y,A,z,B,F,D,E,v,G,I,L,J,N,M,O,R,T,U,W,X,Q,Y,Z],h⟩=some (g,h):=by kernel_rfl
theorem S6:itX (xX s 48 wl k rd) Ih n0 K (n+1) ⟨[c,d,e,o,q,j,g,u,f,y,A,z,B,F,D,E,v,G,I,L,J,N,M,O,R,T,U,W,X,Q,Y,Z],h⟩ =
 bm (aw s.P .lss 3 G v) h fun v9 hD=>
 cnd v9 (
 bm (ai s.P 28 E G hD) hD fun vA hF=>
 bm (ab s.P 57 vA hF) hF fun vC hJ=>
 bp (av s.P 57 hJ) fun vB hG=>
 bs (aj s.P wl 57 vB vC hG) fun hT=>
 bm (ai s.P 28 d G hT) hT fun vL hQ=>
 bm (ab s.P 57 vL hQ) hQ fun vH hR=>
 bp (av s.P 57 hR) fun vO hh=>
 bs (aj s.P wl 57 vO vH hh) fun hH=>
 bm (ab s.P 57 vB hH) hH fun vD hI=>
 bm (ab s.P 57 vO hI) hI fun vE hC=>
 bp (bE (xX s 48 wl k rd) false true e [vD,vE] hC) fun vF hK=>
 bm (vUn .not vF) hK fun vJ hL=>
 cnd vJ (
 K .ret ⟨[c,d,e,o,q,j,(.lit (.bool false)),G,vB,vO,A,z,B,F,D,E,v,G,v9,G,vA,vC,d,G,vL,vH,e,vD,vE,vF,vJ,Z],hL⟩) (
 bm (aw s.P .add 3 G (.lit (.int .i64 1))) hL fun vK hN=>
 itX (xX s 48 wl k rd) Ih n0 K n ⟨[(V.kill n0 c),(V.kill n0 d),(V.kill n0 e),(V.kill n0 o),(V.kill n0 q),(V.kill n0 j),(V.kill n0 g),(V.kill n0 G),(V.kill n0 vB),(V.kill n0 vO),(V.kill n0 A),(V.kill n0 z),(V.kill n0 B),(V.kill n0 F),(V.kill n0 D),(V.kill n0 E),(V.kill n0 v),(V.kill n0 vK),.junk,.junk,.junk,.junk,.junk,.junk,.junk,.junk,.junk,.junk,.junk,.junk,.junk,.junk],bN n0 hN⟩)) (
 K (.exit 0) ⟨[(V.kill n0 c),(V.kill n0 d),(V.kill n0 e),(V.kill n0 o),(V.kill n0 q),(V.kill n0 j),(V.kill n0 g),(V.kill n0 u),(V.kill n0 f),(V.kill n0 y),(V.kill n0 A),(V.kill n0 z),(V.kill n0 B),(V.kill n0 F),(V.kill n0 D),(V.kill n0 E),(V.kill n0 v),.junk,.junk,.junk,.junk,.junk,.junk,.junk,.junk,.junk,.junk,.junk,.junk,.junk,.junk,.junk],bN n0 hD⟩):=kI
theorem Ik:au (xX s 48 wl k false) (ap s.P Tryz.f48) HW (.exit 0) ⟨[c,d,e,o,q,j,g,u,f,y,A,z,B,F,D,E,v,G,I,L,J,N,M,O,R,T,U,W,X,Q,Y,Z],h⟩ =
 some ((.lit (.bool true)),h):=kR
theorem m7 (cx:Cx) (s:St):au cx K HW .ret s=K .ret s:=by kernel_rfl
-- names: aeh,aen,S6,Ik,m7
theorem acl:ak (xX s 51 wl k false) Tryz.f51 [c] h =
 bp (aP c h) fun v1 h2=>
 some ((.fn (.func 94) [] [v1]),h2):=kB
theorem aey:evF Tryz.prog xM (k+1) wl 51 [c] h=ak (xX (xS k) 51 wl k false) Tryz.f51 [c] h:=by kernel_rfl
-- names: acl,
noncomputable def dd:Code:=al (am Tryz.f53) [1,1,0]
noncomputable def cV:List Fr:=[.seq (al (am Tryz.f53) [1,1,1])]
theorem ZZ:ak (xX s 53 wl k false) Tryz.f53 [c,d] h =
 bp (aP c h) fun v1 h2=>
 bm (aa s.P 57 v1 0) h2 fun v3 h4=>
 bm (ab s.P 3 v3 h4) h4 fun v5 h6=>
 bm (aw s.P .lss 3 v5 (.lit (.int .i64 0))) h6 fun v7 h8=>
 gd v7 (
 yO s k wl 53 Tryz.f53 dd 7 h2.length ([],[]) cV ⟨[c,d,v1,(.lit (.bool false)),(.fn (.func 54) [] [d]),(.fn (.func 54) [] [d]),v3,v5,v7,(.lit (.bool true)),uu,uu,uu,uu,uu,uu,uu,uu,uu,uu,uu,uu,uu,uu,uu,uu,uu,uu,uu,uu,uu],h8⟩) (
 bm (aa s.P 57 v1 0) h8 fun v9 hD=>
 bm (ab s.P 3 v9 hD) hD fun vA hF=>
 bm (aw s.P .geq 3 vA (.lit (.int .i64 6))) hF fun vC hJ=>
 yO s k wl 53 Tryz.f53 dd 7 h2.length ([],[]) cV ⟨[c,d,v1,(.lit (.bool false)),(.fn (.func 54) [] [d]),(.fn (.func 54) [] [d]),v3,v5,v7,(.lit (.bool false)),v9,vA,vC,uu,uu,uu,uu,uu,uu,uu,uu,uu,uu,uu,uu,uu,uu,uu,uu,uu,uu],hJ⟩) (
 yO s k wl 53 Tryz.f53 dd 5 h2.length ([],[]) cV ⟨[c,d,v1,(.lit (.bool false)),(.fn (.func 54) [] [d]),(.fn (.func 54) [] [d]),v3,v5,v7,v7,uu,uu,uu,uu,uu,uu,uu,uu,uu,uu,uu,uu,uu,uu,uu,uu,uu,uu,uu,uu,uu],h8⟩):=kB
theorem aer:evF Tryz.prog xM (k+1) wl 53 [c,d] h=ak (xX (xS k) 53 wl k false) Tryz.f53 [c,d] h:=by kernel_rfl
theorem ES:yO s k wl 53 Tryz.f53 dd 7 m0 ac cV ⟨(c::d::e::o::q::j::g::u::f::y::A::z::B::F::D::E::v::G::I::zz),h⟩ =
 bm (aR y (.lit (.bool true)) B) h fun vB hG=>
 gd vB (
 yO s k wl 53 Tryz.f53 dd 13 m0 ac cV ⟨(c::d::e::o::q::j::g::u::f::y::A::z::B::vB::(.lit (.bool true))::uu::uu::uu::uu::zz),hG⟩) (
 bm (aa s.P 57 e 1) hG fun vI hM=>
 bm (ab s.P 53 vI hM) hM fun vM hP=>
 bp (yC s k wl 53 false true (.fn (.func 55) [] []) [vM,q] hP) fun vP hE=>
 yO s k wl 53 Tryz.f53 dd 13 m0 ac cV ⟨(c::d::e::o::q::j::g::u::f::y::A::z::B::vB::(.lit (.bool false))::vI::vM::q::vP::zz),hE⟩) (
 yO s k wl 53 Tryz.f53 dd 10 m0 ac cV ⟨(c::d::e::o::q::j::g::u::f::y::A::z::B::vB::vB::uu::v::G::I::zz),hG⟩):=kG
theorem Ff:yO s k wl 53 Tryz.f53 dd 13 m0 ac cV ⟨[c,d,e,o,q,j,g,u,f,y,A,z,B,F,D,E,v,G,I,L,J,N,M,O,R,T,U,W,X,Q,Y],h⟩ =
 bm (aR D (.lit (.bool true)) I) h fun vG hH=>
 gd vG (
 yO s k wl 53 Tryz.f53 dd 24 m0 ac cV ⟨[c,d,e,o,q,j,g,u,f,y,A,z,B,F,D,E,v,G,I,vG,(.lit (.bool true)),uu,uu,uu,uu,uu,uu,uu,uu,uu,Y],hH⟩) (
 bm (aa s.P 57 e 0) hH fun vD hI=>
 bm (ab s.P 3 vD hI) hI fun vE hC=>
 bm (aw s.P .neq 3 vE (.lit (.int .i64 0))) hC fun vF hK=>
 yO s k wl 53 Tryz.f53 dd 19 m0 ac cV ⟨[c,d,e,o,q,j,g,u,f,y,A,z,B,F,D,E,v,G,I,vG,(.lit (.bool false)),vD,vE,vF,vF,T,U,W,X,Q,Y],hK⟩) (
 yO s k wl 53 Tryz.f53 dd 16 m0 ac cV ⟨[c,d,e,o,q,j,g,u,f,y,A,z,B,F,D,E,v,G,I,vG,vG,uu,M,O,R,T,U,W,X,Q,Y],hH⟩):=kG
theorem EQ:yO s k wl 53 Tryz.f53 dd 24 m0 ac cV ⟨[c,d,e,o,q,j,g,u,f,y,A,z,B,F,D,E,v,G,I,L,J,N,M,O,R,T,U,W,X,Q,Y],h⟩ =
 bm (aR J (.lit (.bool true)) Q) h fun vJ hL=>
 some (vJ,hL):=kG
theorem Dn:yO s k wl 53 Tryz.f53 dd 19 m0 ac cV ⟨[c,d,e,o,q,j,g,u,f,y,A,z,B,F,D,E,v,G,I,L,J,N,M,O,R,T,U,W,X,Q,Y],h⟩ =
 gd R (
 bm (aa s.P 57 e 1) h fun vK hN=>
 bm (ab s.P 53 vK hN) hN fun vN hS=>
 bp (a7 s.P 53 vN hS) fun vR hU=>
 bm (aw s.P .eql 3 vR (.lit (.int .i64 0))) hU fun vc hb=>
 yO s k wl 53 Tryz.f53 dd 23 m0 ac cV ⟨[c,d,e,o,q,j,g,u,f,y,A,z,B,F,D,E,v,G,I,L,J,N,M,O,(.lit (.bool true)),vK,vN,vR,vc,Q,Y],hb⟩) (
 yO s k wl 53 Tryz.f53 dd 23 m0 ac cV ⟨[c,d,e,o,q,j,g,u,f,y,A,z,B,F,D,E,v,G,I,L,J,N,M,O,(.lit (.bool false)),uu,uu,uu,uu,Q,Y],h⟩) (
 yO s k wl 53 Tryz.f53 dd 20 m0 ac cV ⟨[c,d,e,o,q,j,g,u,f,y,A,z,B,F,D,E,v,G,I,L,J,N,M,O,R,uu,U,W,X,Q,Y],h⟩):=kG
theorem E6:yO s k wl 53 Tryz.f53 dd 23 m0 ac cV ⟨[c,d,e,o,q,j,g,u,f,y,A,z,B,F,D,E,v,G,I,L,J,N,M,O,R,T,U,W,X,Q,Y],h⟩ =
 gd J (
 yO s k wl 53 Tryz.f53 dd 24 m0 ac cV ⟨[c,d,e,o,q,j,g,u,f,y,A,z,B,F,D,E,v,G,I,L,(.lit (.bool true)),N,M,O,R,T,U,W,X,uu,Y],h⟩) (
 bm (aR R X (.lit (.bool false))) h fun vX hO=>
 yO s k wl 53 Tryz.f53 dd 24 m0 ac cV ⟨[c,d,e,o,q,j,g,u,f,y,A,z,B,F,D,E,v,G,I,L,(.lit (.bool false)),N,M,O,R,T,U,W,X,vX,Y],hO⟩) (
 yO s k wl 53 Tryz.f53 dd 24 m0 ac cV ⟨[c,d,e,o,q,j,g,u,f,y,A,z,B,F,D,E,v,G,I,L,J,N,M,O,R,T,U,W,X,uu,Y],h⟩):=kG
theorem Es:yO s k wl 53 Tryz.f53 dd 20 m0 ac cV ⟨[c,d,e,o,q,j,g,u,f,y,A,z,B,F,D,E,v,G,I,L,J,N,M,O,R,T,U,W,X,Q,Y],h⟩ =
 gd R (
 bm (ab s.P 53 T h) h fun vT hY=>
 bp (a7 s.P 53 vT hY) fun vU hA=>
 bm (aw s.P .eql 3 vU (.lit (.int .i64 0))) hA fun vb hZ=>
 yO s k wl 53 Tryz.f53 dd 23 m0 ac cV ⟨[c,d,e,o,q,j,g,u,f,y,A,z,B,F,D,E,v,G,I,L,J,N,M,O,(.lit (.bool true)),T,vT,vU,vb,Q,Y],hZ⟩) (
 yO s k wl 53 Tryz.f53 dd 23 m0 ac cV ⟨[c,d,e,o,q,j,g,u,f,y,A,z,B,F,D,E,v,G,I,L,J,N,M,O,(.lit (.bool false)),T,uu,uu,uu,Q,Y],h⟩) (
 yO s k wl 53 Tryz.f53 dd 21 m0 ac cV ⟨[c,d,e,o,q,j,g,u,f,y,A,z,B,F,D,E,v,G,I,L,J,N,M,O,R,T,uu,W,X,Q,Y],h⟩):=kG
theorem E2:yO s k wl 53 Tryz.f53 dd 21 m0 ac cV ⟨[c,d,e,o,q,j,g,u,f,y,A,z,B,F,D,E,v,G,I,L,J,N,M,O,R,T,U,W,X,Q,Y],h⟩ =
 gd R (
 bp (a7 s.P 53 U h) fun vQ hW=>
 bm (aw s.P .eql 3 vQ (.lit (.int .i64 0))) hW fun vY hV=>
 yO s k wl 53 Tryz.f53 dd 23 m0 ac cV ⟨[c,d,e,o,q,j,g,u,f,y,A,z,B,F,D,E,v,G,I,L,J,N,M,O,(.lit (.bool true)),T,U,vQ,vY,Q,Y],hV⟩) (
 yO s k wl 53 Tryz.f53 dd 23 m0 ac cV ⟨[c,d,e,o,q,j,g,u,f,y,A,z,B,F,D,E,v,G,I,L,J,N,M,O,(.lit (.bool false)),T,U,uu,uu,Q,Y],h⟩) (
 yO s k wl 53 Tryz.f53 dd 22 m0 ac cV ⟨[c,d,e,o,q,j,g,u,f,y,A,z,B,F,D,E,v,G,I,L,J,N,M,O,R,T,U,uu,X,Q,Y],h⟩):=kG
theorem EX:yO s k wl 53 Tryz.f53 dd 22 m0 ac cV ⟨[c,d,e,o,q,j,g,u,f,y,A,z,B,F,D,E,v,G,I,L,J,N,M,O,R,T,U,W,X,Q,Y],h⟩ =
 gd R (
 bm (aw s.P .eql 3 W (.lit (.int .i64 0))) h fun vV ha=>
 yO s k wl 53 Tryz.f53 dd 23 m0 ac cV ⟨[c,d,e,o,q,j,g,u,f,y,A,z,B,F,D,E,v,G,I,L,J,N,M,O,(.lit (.bool true)),T,U,W,vV,Q,Y],ha⟩) (
 yO s k wl 53 Tryz.f53 dd 23 m0 ac cV ⟨[c,d,e,o,q,j,g,u,f,y,A,z,B,F,D,E,v,G,I,L,J,N,M,O,(.lit (.bool false)),T,U,W,uu,Q,Y],h⟩) (
 yO s k wl 53 Tryz.f53 dd 23 m0 ac cV ⟨[c,d,e,o,q,j,g,u,f,y,A,z,B,F,D,E,v,G,I,L,J,N,M,O,R,T,U,W,uu,Q,Y],h⟩):=kG
theorem lS (cx:Cx) (s:St):au cx K cV .ret s=K .ret s:=by kernel_rfl
-- names: ZZ,ES,Ff,EQ,Dn,E6,Es,E2,EX,lS
noncomputable def IV:Code:=al (am Tryz.f54) [1,0]
noncomputable def DM:List Fr:=[.seq (al (am Tryz.f54) [1,1])]
theorem abM:ak (xX s 54 wl k false) Tryz.f54 [c,d] h =
 bm (aw s.P .lss 3 c (.lit (.int .i64 0))) h fun v1 h2=>
 gd v1 (
 yO s k wl 54 Tryz.f54 IV 8 h.length ([],[]) DM ⟨[c,d,uu,(.lit (.bool false)),c,v1,(.lit (.bool true)),uu,uu,uu,uu,uu,uu],h2⟩) (
 bm (aa s.P 30 d 1) h2 fun v3 h4=>
 bm (ab s.P 24 v3 h4) h4 fun v5 h6=>
 bp (a7 s.P 24 v5 h6) fun v7 h8=>
 bm (aw s.P .geq 3 c v7) h8 fun v9 hD=>
 yO s k wl 54 Tryz.f54 IV 8 h.length ([],[]) DM ⟨[c,d,uu,(.lit (.bool false)),c,v1,(.lit (.bool false)),c,v3,v5,v7,v9,uu],hD⟩) (
 yO s k wl 54 Tryz.f54 IV 4 h.length ([],[]) DM ⟨[c,d,uu,(.lit (.bool false)),c,v1,v1,uu,uu,uu,uu,uu,uu],h2⟩):=kB
theorem aeo:evF Tryz.prog xM (k+1) wl 54 [c,d] h=ak (xX (xS k) 54 wl k false) Tryz.f54 [c,d] h:=by kernel_rfl
theorem EU:yO s k wl 54 Tryz.f54 IV 8 m0 ac DM ⟨[c,d,e,o,q,j,g,u,f,y,A,z,B],h⟩ =
 bm (aR g (.lit (.bool true)) z) h fun vA hF=>
 some (vA,hF):=kG
theorem lA (cx:Cx) (s:St):au cx K DM .ret s=K .ret s:=by kernel_rfl
-- names: abM,EU,lA
noncomputable def Hz:Code:=al (am Tryz.f58) [1,1,0,1,0,0]
noncomputable def Iv:List Fr:=[.block 0,.seq (al (am Tryz.f58) [1,1,1])]
theorem aiO:ak (xX s 58 wl k false) Tryz.f58 [c] h =
 bp (some (.own h.length 0 0,h++[.rows 0 [] 0 true])) fun v1 h2=>
 bp (yC s k wl 58 false true (.fn (.func 102) [] []) [c] h2) fun v3 h4=>
 bp (a7 s.P 24 v3 h4) fun v5 h6=>
 yI s k wl 58 Tryz.f58 Hz h6.length Iv k ⟨[(V.kill h6.length c),(V.kill h6.length uu),(V.kill h6.length v1),(V.kill h6.length v3),(V.kill h6.length uu),(V.kill h6.length c),(V.kill h6.length v3),(V.kill h6.length v3),(V.kill h6.length v5),(.lit (.int .i64 0)),.junk,.junk,.junk,.junk,.junk,.junk,.junk,.junk,.junk,.junk,.junk,.junk,.junk,(V.kill h6.length uu)],bN h6.length h6⟩:=kB
theorem ajl:evF Tryz.prog xM (k+1) wl 58 [c] h=ak (xX (xS k) 58 wl k false) Tryz.f58 [c] h:=by kernel_rfl
theorem agG (P:Program):ap P Tryz.f58 .ret ⟨[c,d,e,o,q,j,g,u,f,y,A,z,B,F,D,E,v,G,I,L,J,N,M,O],h⟩=some (e,h):=by kernel_rfl
theorem Ta:itX (xX s 58 wl k rd) Hz n0 K (n+1) ⟨[c,d,e,o,q,j,g,u,f,y,A,z,B,F,D,E,v,G,I,L,J,N,M,O],h⟩ =
 bm (aw s.P .lss 3 y f) h fun v7 h8=>
 cnd v7 (
 bm (ai s.P 24 o y h8) h8 fun v9 hD=>
 bm (aa s.P 101 v9 1) hD fun vA hF=>
 bm (ab s.P 53 vA hF) hF fun vC hJ=>
 bp (bE (xX s 58 wl k rd) false true (.fn (.func 80) [] []) [vC] hJ) fun vB hG=>
 bm (ai s.P 24 o y hG) hG fun vI hM=>
 bm (aa s.P 101 vI 1) hM fun vM hP=>
 bs (aj s.P wl 53 vM vB hP) fun hR=>
 bm (aw s.P .add 3 y (.lit (.int .i64 1))) hR fun vO hh=>
 itX (xX s 58 wl k rd) Hz n0 K n ⟨[(V.kill n0 c),(V.kill n0 d),(V.kill n0 e),(V.kill n0 o),(V.kill n0 y),(V.kill n0 j),(V.kill n0 g),(V.kill n0 u),(V.kill n0 f),(V.kill n0 vO),.junk,.junk,.junk,.junk,.junk,.junk,.junk,.junk,.junk,.junk,.junk,.junk,.junk,(V.kill n0 O)],bN n0 hh⟩) (
 K (.exit 0) ⟨[(V.kill n0 c),(V.kill n0 d),(V.kill n0 e),(V.kill n0 o),(V.kill n0 q),(V.kill n0 j),(V.kill n0 g),(V.kill n0 u),(V.kill n0 f),.junk,.junk,.junk,.junk,.junk,.junk,.junk,.junk,.junk,.junk,.junk,.junk,.junk,.junk,(V.kill n0 O)],bN n0 h8⟩):=kI
theorem NS:au (xX s 58 wl k false) (ap s.P Tryz.f58) Iv (.exit 0) ⟨[c,d,e,o,q,j,g,u,f,y,A,z,B,F,D,E,v,G,I,L,J,N,M,O],h⟩ =
 some (o,h):=kR
theorem pG (cx:Cx) (s:St):au cx K Iv .ret s=K .ret s:=by kernel_rfl
-- names: aiO,agG,Ta,NS,pG
theorem af8:ak (xX s 67 wl k false) Tryz.f67 [c] h =
 bp (aP c h) fun v1 h2=>
 bm (aa s.P 57 v1 1) h2 fun v3 h4=>
 bm (ab s.P 53 v3 h4) h4 fun v5 h6=>
 bp (a7 s.P 53 v5 h6) fun v7 h8=>
 bm (aw s.P .gtr 3 v7 (.lit (.int .i64 0))) h8 fun v9 hD=>
 some (v9,hD):=kB
theorem aji:evF Tryz.prog xM (k+1) wl 67 [c] h=ak (xX (xS k) 67 wl k false) Tryz.f67 [c] h:=by kernel_rfl
-- names: af8,
theorem Rr:ak (xX s 82 wl k false) Tryz.f82 [c,d,e] h =
 stO h.length c (
 bm (ab s.P 86 c h) h fun v1 h2=>
 stO h.length c (
 bm (ab s.P 86 c h2) h2 fun v3 h4=>
 stO h.length v3 (
 bm (aV v3 h4) h4 fun v5 h6=>
 bm (aa s.P 30 v5 3) h6 fun v7 h8=>
 stO h.length v7 (
 bm (ab s.P 27 v7 h8) h8 fun v9 hD=>
 bm (aa s.P 48 d 1) hD fun vA hF=>
 stO h.length vA (
 bm (ab s.P 3 vA hF) hF fun vC hJ=>
 bm (ab s.P 86 c hJ) hJ fun vB hG=>
 bm (aV vB hG) hG fun vI hM=>
 bm (aa s.P 30 vI 0) hM fun vM hP=>
 bm (ab s.P 23 vM hP) hP fun vP hE=>
 bm (ab s.P 86 c hE) hE fun vG hH=>
 bm (aV vG hH) hH fun vD hI=>
 bm (aa s.P 30 vD 1) hI fun vE hC=>
 bm (ab s.P 24 vE hC) hC fun vF hK=>
 bm (ab s.P 86 c hK) hK fun vJ hL=>
 bm (aV vJ hL) hL fun vK hN=>
 bm (aa s.P 30 vK 2) hN fun vN hS=>
 bm (ab s.P 26 vN hS) hS fun vR hU=>
 bm (aa s.P 48 d 1) hU fun vc hb=>
 bm (ab s.P 3 vc hb) hb fun vX hO=>
 bm (ab s.P 86 c hO) hO fun vT hY=>
 bm (aV vT hY) hY fun vU hA=>
 bm (aa s.P 30 vU 3) hA fun vb hZ=>
 bm (ab s.P 27 vb hZ) hZ fun vQ hW=>
 bm (aa s.P 48 d 1) hW fun vY hV=>
 bm (ab s.P 3 vY hV) hV fun vV ha=>
 bm (ai s.P 27 vQ vV ha) ha fun vd hc=>
 bm (ab s.P 65 vd hc) hc fun ve hj=>
 bm (aa s.P 48 d 2) hj fun vf hg=>
 bm (ab s.P 46 vf hg) hg fun vg hk=>
 bp (yC s k wl 82 true true (.fn (.func 83) [] []) [vP,vF,vR,vX,ve,vg] hk) fun vj ho=>
 bm (aq vj 0) ho fun vs hf=>
 bm (aq vj 1) hf fun vt hv=>
 bm (aq vj 2) hv fun v69 hx=>
 bm (aV v1 hx) hx fun v71 h72=>
 bm (aa s.P 30 v71 2) h72 fun vx h74=>
 bs (aj s.P wl 26 vx vs h74) fun h75=>
 bm (ai s.P 27 v9 vC h75) h75 fun vw hB=>
 bs (aj s.P wl 65 vw vt hB) fun h78=>
 bs (aj s.P wl 34 e v69 h78) fun hw=>
 apt (lgW e (lgW vw (lgW vx (lgR vA ([],[]))))) (
 some (.tup [],hw))))))):=kB
theorem TH:evF Tryz.prog xM (k+1) wl 82 [c,d,e] h=ak (xX (xS k) 82 wl k false) Tryz.f82 [c,d,e] h:=by kernel_rfl
-- names: Rr,
theorem OG:ak (xX s 84 wl k false) Tryz.f84 [c,d,e] h =
 bm (ab s.P 86 c h) h fun v1 h2=>
 bm (aV v1 h2) h2 fun v3 h4=>
 bm (aa s.P 30 v3 0) h4 fun v5 h6=>
 bm (ab s.P 23 v5 h6) h6 fun v7 h8=>
 bm (ab s.P 86 c h8) h8 fun v9 hD=>
 bm (aV v9 hD) hD fun vA hF=>
 bm (aa s.P 30 vA 1) hF fun vC hJ=>
 bm (ab s.P 24 vC hJ) hJ fun vB hG=>
 bm (ab s.P 86 c hG) hG fun vI hM=>
 bm (aV vI hM) hM fun vM hP=>
 bm (aa s.P 30 vM 2) hP fun vP hE=>
 bm (ab s.P 26 vP hE) hE fun vG hH=>
 bm (ab s.P 86 c hH) hH fun vD hI=>
 bm (aV vD hI) hI fun vE hC=>
 bm (aa s.P 30 vE 4) hC fun vF hK=>
 bm (ab s.P 28 vF hK) hK fun vJ hL=>
 bm (aa s.P 48 d 1) hL fun vK hN=>
 bm (ab s.P 3 vK hN) hN fun vN hS=>
 bm (ai s.P 28 vJ vN hS) hS fun vR hU=>
 bm (ab s.P 57 vR hU) hU fun vc hb=>
 bp (yC s k wl 84 false true (.fn (.func 85) [] []) [v7,vB,vG,vc] hb) fun vX hO=>
 cnd vX (
 stO hO.length c (
 bm (ab s.P 86 c hO) hO fun vT hY=>
 stO hO.length c (
 bm (ab s.P 86 c hY) hY fun vU hA=>
 stO hO.length vU (
 bm (aV vU hA) hA fun vb hZ=>
 bm (aa s.P 30 vb 4) hZ fun vQ hW=>
 stO hO.length vQ (
 bm (ab s.P 28 vQ hW) hW fun vY hV=>
 bm (aa s.P 48 d 1) hV fun vV ha=>
 stO hO.length vV (
 bm (ab s.P 3 vV ha) ha fun vd hc=>
 bm (ab s.P 86 c hc) hc fun ve hj=>
 bm (aV ve hj) hj fun vf hg=>
 bm (aa s.P 30 vf 0) hg fun vg hk=>
 bm (ab s.P 23 vg hk) hk fun vj ho=>
 bm (ab s.P 86 c ho) ho fun vs hf=>
 bm (aV vs hf) hf fun vt hv=>
 bm (aa s.P 30 vt 1) hv fun v69 hx=>
 bm (ab s.P 24 v69 hx) hx fun v71 h72=>
 bm (ab s.P 86 c h72) h72 fun vx h74=>
 bm (aV vx h74) h74 fun v75 h76=>
 bm (aa s.P 30 v75 2) h76 fun v77 h78=>
 bm (ab s.P 26 v77 h78) h78 fun v79 h80=>
 bm (aa s.P 48 d 1) h80 fun v81 h82=>
 bm (ab s.P 3 v81 h82) h82 fun v83 h84=>
 bm (ab s.P 86 c h84) h84 fun v85 h86=>
 bm (aV v85 h86) h86 fun v87 h88=>
 bm (aa s.P 30 v87 4) h88 fun v89 h90=>
 bm (ab s.P 28 v89 h90) h90 fun v91 h92=>
 bm (aa s.P 48 d 1) h92 fun v93 h94=>
 bm (ab s.P 3 v93 h94) h94 fun v95 h96=>
 bm (ai s.P 28 v91 v95 h96) h96 fun v97 h98=>
 bm (ab s.P 57 v97 h98) h98 fun v99 hy=>
 bp (yC s k wl 84 true true (.fn (.func 86) [] []) [vj,v71,v79,v83,v99] hy) fun vk hz=>
 bm (aq vk 0) hz fun vu h104=>
 bm (aq vk 1) h104 fun v105 h106=>
 bm (aq vk 2) h106 fun v107 h108=>
 bm (aV vT h108) h108 fun v109 h110=>
 bm (aa s.P 30 v109 2) h110 fun v111 h112=>
 bs (aj s.P wl 26 v111 vu h112) fun h113=>
 bm (ai s.P 28 vY vd h113) h113 fun v114 h115=>
 bs (aj s.P wl 57 v114 v105 h115) fun h116=>
 bs (aj s.P wl 34 e v107 h116) fun h117=>
 apt (lgW e (lgW v114 (lgW v111 (lgR vV ([],[]))))) (
 some (.tup [],h117)))))))) (
 some (.tup [],hO)):=kB
theorem Tl:evF Tryz.prog xM (k+1) wl 84 [c,d,e] h=ak (xX (xS k) 84 wl k false) Tryz.f84 [c,d,e] h:=by kernel_rfl
-- names: OG,
theorem PY:ak (xX s 87 wl k false) Tryz.f87 [c] h =
 stO h.length c (
 bm (ab s.P 86 c h) h fun v1 h2=>
 bm (ab s.P 86 c h2) h2 fun v3 h4=>
 bm (aV v3 h4) h4 fun v5 h6=>
 bm (aa s.P 30 v5 2) h6 fun v7 h8=>
 bm (ab s.P 26 v7 h8) h8 fun v9 hD=>
 bp (yC s k wl 87 true true (.fn (.func 88) [] []) [v9,(.lit (.int .i64 3)),(.lit (.int .u64 1))] hD) fun vA hF=>
 bm (aV v1 hF) hF fun vC hJ=>
 bm (aa s.P 30 vC 2) hJ fun vB hG=>
 bs (aj s.P wl 26 vB vA hG) fun hT=>
 some (.tup [],hT)):=kB
theorem Tq:evF Tryz.prog xM (k+1) wl 87 [c] h=ak (xX (xS k) 87 wl k false) Tryz.f87 [c] h:=by kernel_rfl
-- names: PY,
noncomputable def rH:Code:=al (am Tryz.f94) [1,0,0]
noncomputable def IZ:List Fr:=[.block 0]
noncomputable def IP:Code:=al (am Tryz.f94) [1,0,0,1,1,0,0,1,0]
noncomputable def Dw:List Fr:=[.seq (al (am Tryz.f94) [1,0,0,1,1,0,0,1,1]),.block 1,.seq (al (am Tryz.f94) [1,0,0,1,1,1])]
theorem abw:ak (xX s 94 wl k false) Tryz.f94 [c,d] h =
 bm (aa s.P 30 d 3) h fun v1 h2=>
 bm (ab s.P 27 v1 h2) h2 fun v3 h4=>
 bp (a7 s.P 27 v3 h4) fun v5 h6=>
 yI s k wl 94 Tryz.f94 rH h6.length IZ k ⟨[(V.kill h6.length c),(V.kill h6.length d),(V.kill h6.length uu),(V.kill h6.length uu),(V.kill h6.length uu),(V.kill h6.length v1),(V.kill h6.length v3),(V.kill h6.length v5),(.lit (.int .i64 0)),.junk,.junk,.junk,.junk,.junk,.junk,.junk,.junk,.junk,.junk,.junk,.junk,.junk,.junk,.junk,.junk,.junk,.junk,.junk,.junk,.junk],bN h6.length h6⟩:=kB
theorem aet:evF Tryz.prog xM (k+1) wl 94 [c,d] h=ak (xX (xS k) 94 wl k false) Tryz.f94 [c,d] h:=by kernel_rfl
theorem adZ (P:Program):ap P Tryz.f94 .ret ⟨[c,d,e,o,q,j,g,u,f,y,A,z,B,F,D,E,v,G,I,L,J,N,M,O,R,T,U,W,X,Q],h⟩=some (.tup [],h):=by kernel_rfl
theorem UF:itX (xX s 94 wl k rd) rH n0 K (n+1) ⟨[c,d,e,o,q,j,g,u,f,y,A,z,B,F,D,E,v,G,I,L,J,N,M,O,R,T,U,W,X,Q],h⟩ =
 bm (aw s.P .lss 3 f u) h fun v7 h8=>
 cnd v7 (
 bm (ai s.P 27 g f h8) h8 fun v9 hD=>
 bm (ab s.P 65 v9 hD) hD fun vA hF=>
 bp (av s.P 65 hF) fun vC hJ=>
 bs (aj s.P wl 65 vC vA hJ) fun he=>
 bm (aa s.P 30 d 0) he fun vS hT=>
 bm (ab s.P 23 vS hT) hT fun vL hQ=>
 bm (aa s.P 30 d 1) hQ fun vH hR=>
 bm (ab s.P 24 vH hR) hR fun vO hh=>
 bm (aa s.P 30 d 2) hh fun vq h25=>
 bm (ab s.P 26 vq h25) h25 fun vy h27=>
 bm (ab s.P 65 vC h27) h27 fun vz h29=>
 bp (bE (xX s 94 wl k rd) false true (.fn (.func 95) [] []) [vL,vO,vy,f,vz] h29) fun v30 hl=>
 bm (vUn .not v30) hl fun vZ hu=>
 gd vZ (
 bp (bE (xX s 94 wl k rd) false true c [f] hu) fun vh h35=>
 bm (vUn .not vh) h35 fun vi hd=>
 cK (xX s 94 wl k rd) IP 15 he.length ([],[]) (au (xX s 94 wl k rd) (eq (xX s 94 wl k rd) rH n0 K n) Dw) ⟨[c,d,e,f,vC,j,g,u,f,v7,f,v9,vA,vS,vL,vH,vO,vq,vy,f,vz,v30,vZ,(.lit (.bool true)),c,f,vh,vi,X,Q],hd⟩) (
 cK (xX s 94 wl k rd) IP 15 he.length ([],[]) (au (xX s 94 wl k rd) (eq (xX s 94 wl k rd) rH n0 K n) Dw) ⟨[c,d,e,f,vC,j,g,u,f,v7,f,v9,vA,vS,vL,vH,vO,vq,vy,f,vz,v30,vZ,(.lit (.bool false)),uu,uu,uu,uu,X,Q],hu⟩) (
 cK (xX s 94 wl k rd) IP 12 he.length ([],[]) (au (xX s 94 wl k rd) (eq (xX s 94 wl k rd) rH n0 K n) Dw) ⟨[c,d,e,f,vC,j,g,u,f,v7,f,v9,vA,vS,vL,vH,vO,vq,vy,f,vz,v30,vZ,vZ,uu,T,U,W,X,Q],hu⟩)) (
 K (.exit 0) ⟨[(V.kill n0 c),(V.kill n0 d),(V.kill n0 e),(V.kill n0 o),(V.kill n0 q),(V.kill n0 j),(V.kill n0 g),(V.kill n0 u),.junk,.junk,.junk,.junk,.junk,.junk,.junk,.junk,.junk,.junk,.junk,.junk,.junk,.junk,.junk,.junk,.junk,.junk,.junk,.junk,.junk,.junk],bN n0 h8⟩):=kI
theorem Fg:au (xX s 94 wl k false) (ap s.P Tryz.f94) IZ (.exit 0) ⟨(c::zz),h⟩ =
 some (.tup [],h):=kR
theorem E0:cK (xX s 94 wl k rd) IP 15 m0 ac (au (xX s 94 wl k rd) (eq (xX s 94 wl k rd) rH n0 K n) Dw) ⟨[c,d,e,o,q,j,g,u,f,y,A,z,B,F,D,E,v,G,I,L,J,N,M,O,R,T,U,W,X,Q],h⟩ =
 bm (aR O W (.lit (.bool false))) h fun vW hX=>
 cnd vW (
 K .ret ⟨[c,d,e,o,q,j,g,u,f,y,A,z,B,F,D,E,v,G,I,L,J,N,M,O,R,T,U,W,vW,Q],hX⟩) (
 bm (aw s.P .add 3 f (.lit (.int .i64 1))) hX fun va hm=>
 itX (xX s 94 wl k rd) rH n0 K n ⟨[(V.kill n0 c),(V.kill n0 d),(V.kill n0 e),(V.kill n0 o),(V.kill n0 q),(V.kill n0 j),(V.kill n0 g),(V.kill n0 u),(V.kill n0 va),.junk,.junk,.junk,.junk,.junk,.junk,.junk,.junk,.junk,.junk,.junk,.junk,.junk,.junk,.junk,.junk,.junk,.junk,.junk,.junk,.junk],bN n0 hm⟩):=kG
theorem ld (cx:Cx) (s:St):au cx K IZ .ret s=K .ret s:=by kernel_rfl
theorem lF (cx:Cx) (s:St):au cx K Dw .ret s=K .ret s:=by kernel_rfl
-- names: abw,adZ,UF,Fg,E0,ld,lF
end
end Go.Ab
