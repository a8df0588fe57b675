import Derived.Test.YtblpbpnilkfjhaaGreatR6Seat
import Derived.Test.YtblpbpnilkfjhaaGreatAbLibC
set_option linter.unusedVariables false
set_option linter.unusedSimpArgs false
set_option maxRecDepth 100000
set_option linter.unusedVariables false
namespace Go.Ab
open Go.Proofs
section
variable (s:Sys) (k wl:Nat) (m0:Nat) (ac:List Nat×List Nat) (b g e j l o r u y n p z A q D E B G F L I M J O R Q N Y U Z W X T t1 t2 t3 t4 t0 tf te tg t6 t5 tb t7 tc t8 t9 td ta th ti tj tk tl tm tn tp tq tr q4 q5 q6 ts tt tu tv tw tx ty tz tA tB qb qc qd tC tD tE tF tG tH tI tJ tK tL tM tN q7 q8 q9 qa tO tP tQ tR tS tT tU tV tW tX tY tZ q0 q1 q2 q3 qe qf qg qh qi qj qk ql qm qn qo qp qq qr qs qt qu qv qw qx qy qz qA qB qC qD qE qF qG qH qI qJ:V) (h:Hp) (K:Out→St→Option (V×Hp)) (rd:Bool) (zz:List V)
theorem ajx:ak (xX s 83 wl k false) Tryz.f83 [b,g,e,j,l,o] h =
 bp (aP b h) fun v1 h2=>
 bp (aP l h2) fun v3 h4=>
 bp (some (.own h4.length 0 0,h4++[.rows 0 [] 0 true])) fun v5 h6=>
 bp (av s.P 65 h6) fun v7 h8=>
 bp (some (.own h8.length 0 0,h8++[.rows 0 [] 0 true])) fun v9 hA=>
 stO hA.length v3 (
 bm (ab s.P 65 v3 hA) hA fun vC hB=>
 stO hA.length v1 (
 bm (ab s.P 23 v1 hB) hB fun vB hD=>
 bp (yC s k wl 83 true true (.fn (.func 76) [] []) [e] hD) fun vE hC=>
 bm (bf s.P 168 [(0,vC),(1,vB),(2,g),(3,vE),(4,j),(5,o)]) hC fun vD hE=>
 bp (aP vD hE) fun vA hF=>
 bm (aa s.P 65 v3 1) hF fun vF hG=>
 bm (ab s.P 63 vF hG) hG fun vI hI=>
 bp (yC s k wl 83 false true (.fn (.func 79) [] []) [vI] hI) fun vG hH=>
 bm (aV vA hH) hH fun vK hM=>
 bm (aa s.P 168 vK 0) hM fun vL hK=>
 bm (aa s.P 65 vL 1) hK fun vN hL=>
 bs (aj s.P wl 63 vN vG hL) fun hc=>
 bm (ab s.P 23 v1 hc) hc fun vf hd=>
 bm (ab s.P 65 v3 hd) hd fun vW hm=>
 bp (yC s k wl 83 false true (.fn (.func 95) [] []) [vf,g,e,j,vW] hm) fun vg hn=>
 bm (vUn .not vg) hn fun vh hb=>
 cnd vh (
 bm (aV vA hb) hb fun vs ho=>
 bm (aa s.P 168 vs 3) ho fun vi hP=>
 bm (ab s.P 26 vi hP) hP fun vP hT=>
 bm (aV vA hT) hT fun vQ hU=>
 bm (aa s.P 168 vQ 0) hU fun vM hJ=>
 bm (ab s.P 65 vM hJ) hJ fun vH hV=>
 bs (aj s.P wl 65 v7 vH hV) fun he=>
 bp (some (.own he.length 0 0,he++[.rows 0 [] 0 true])) fun vt h56=>
 ew [some vP,ab s.P 65 v7 h56,some vt] h56) (
 bm (bf s.P 169 [(0,(.fn (.func 116) [vA] [])),(1,(.fn (.func 117) [vA] [])),(2,(.fn (.func 118) [vA] [])),(3,(.fn (.func 118) [vA] [])),(4,(.fn (.func 119) [vA] [])),(5,(.fn (.func 120) [vA] [])),(6,(.fn (.func 121) [vA] [])),(7,(.fn (.func 122) [vA] [])),(8,(.fn (.func 123) [vA] [])),(9,(.fn (.func 124) [vA] [])),(10,(.fn (.func 125) [vA] [])),(11,(.fn (.func 126) [vA] [])),(12,(.fn (.func 127) [vA] [])),(13,(.fn (.func 128) [vA] [])),(14,(.fn (.func 129) [vA] [])),(15,(.fn (.func 130) [vA] []))]) hb fun vu hW=>
 bp (av s.P 169 hW) fun vZ hs=>
 bs (aj s.P wl 169 vZ vu hs) fun hf=>
 bm (aa s.P 65 v3 0) hf fun va hg=>
 bm (ab s.P 3 va hg) hg fun vb hh=>
 bm (ai s.P 169 vZ vb hh) hh fun vc hi=>
 bm (ab s.P 1 vc hi) hi fun vj ht=>
 bp (yC s k wl 83 false true vj [] ht) fun vv hX=>
 bm (aV vA hX) hX fun v72 h73=>
 bm (aa s.P 168 v72 3) h73 fun v74 h75=>
 bm (ab s.P 26 v74 h75) h75 fun v76 h77=>
 bm (aV vA h77) h77 fun v78 h79=>
 bm (aa s.P 168 v78 0) h79 fun v80 h81=>
 bm (ab s.P 65 v80 h81) h81 fun v82 h83=>
 stO hX.length vA (
 bm (aV vA h83) h83 fun v84 h85=>
 bm (aa s.P 168 v84 6) h85 fun vw h87=>
 stO hX.length vw (
 bm (ab s.P 34 vw h87) h87 fun v88 h89=>
 bs (aj s.P wl 65 v7 v82 h89) fun h90=>
 apt (lgW v7 (lgR vw (lgR vA ([],[])))) (
 ew [some v76,ab s.P 65 v7 h90,some v88] h90)))))):=kB
theorem aj4:evF Tryz.prog xM (k+1) wl 83 [b,g,e,j,l,o] h=ak (xX (xS k) 83 wl k false) Tryz.f83 [b,g,e,j,l,o] h:=by kernel_rfl
-- names: ajx,
theorem acY:ak (xX s 116 wl k false) Tryz.f116 [b] h =
 bp (yC s k wl 116 false true (.fn (.func 156) [] []) [b] h) fun v1 h2=>
 bm (vUn .not v1) h2 fun v3 h4=>
 cnd v3 (
 some (.tup [],h4)) (
 bm (aV b h4) h4 fun v5 h6=>
 bm (aa s.P 168 v5 0) h6 fun v7 h8=>
 bm (aa s.P 65 v7 2) h8 fun v9 hA=>
 bm (ab s.P 55 v9 hA) hA fun vC hB=>
 bp (av s.P 55 hB) fun vB hD=>
 bs (aj s.P wl 55 vB vC hD) fun hu=>
 bm (aa s.P 55 vB 6) hu fun v16 hv=>
 bm (ab s.P 3 v16 hv) hv fun v18 hw=>
 bm (aw s.P .neq 3 v18 (.lit (.int .i64 1))) hw fun vX hY=>
 cnd vX (
 bp (yC s k wl 116 false true (.fn (.func 157) [] []) [b,(.lit (.int .i64 1))] hY) fun vd hj=>
 some (.tup [],hj)) (
 bp (yC s k wl 116 false true (.fn (.func 157) [] []) [b,(.lit (.int .i64 9))] hY) fun vk hZ=>
 bm (aa s.P 55 vB 3) hZ fun vx hp=>
 bm (ab s.P 46 vx hp) hp fun vT hx=>
 bp (yC s k wl 116 false true (.fn (.func 158) [] []) [b,vT] hx) fun vp hy=>
 some (.tup [],hy))):=kB
theorem ag9:evF Tryz.prog xM (k+1) wl 116 [b] h=ak (xX (xS k) 116 wl k false) Tryz.f116 [b] h:=by kernel_rfl
-- names: acY,
theorem acH:ak (xX s 117 wl k false) Tryz.f117 [b] h =
 bp (yC s k wl 117 false true (.fn (.func 159) [] []) [b,(.lit (.int .i64 1)),(.lit (.int .u64 1))] h) fun v1 h2=>
 bm (aV b h2) h2 fun v3 h4=>
 bm (aa s.P 168 v3 1) h4 fun v5 h6=>
 bm (aa s.P 23 v5 3) h6 fun v7 h8=>
 bm (ab s.P 3 v7 h8) h8 fun v9 hA=>
 bm (aV b hA) hA fun vC hB=>
 bm (aa s.P 168 vC 0) hB fun vB hD=>
 bm (aa s.P 65 vB 3) hD fun vE hC=>
 bs (aj s.P wl 3 vE v9 hC) fun hv=>
 bm (aV b hv) hv fun v18 hw=>
 bm (aa s.P 168 v18 4) hw fun vX hY=>
 bm (ab s.P 3 vX hY) hY fun vd hj=>
 bp (yC s k wl 117 false true (.fn (.func 160) [] []) [b,(.lit (.int .i64 2)),(.lit (.int .i64 4)),vd,(.lit (.int .u64 0))] hj) fun vk hZ=>
 some (.tup [],hZ):=kB
theorem afA:evF Tryz.prog xM (k+1) wl 117 [b] h=ak (xX (xS k) 117 wl k false) Tryz.f117 [b] h:=by kernel_rfl
-- names: acH,
noncomputable def Cg:Code:=al (am Tryz.f118) [0,1,1,1,0,0]
noncomputable def wS:List Fr:=[.seq (al (am Tryz.f118) [0,1,1,1,0,1]),.seq (al (am Tryz.f118) [0,1,1,1,1]),.scope (al (am Tryz.f118) [0])]
theorem adq:ak (xX s 118 wl k false) Tryz.f118 [b] h =
 bm (aV b h) h fun v1 h2=>
 bm (aa s.P 168 v1 5) h2 fun v3 h4=>
 bm (ab s.P 46 v3 h4) h4 fun v5 h6=>
 bm (aV b h6) h6 fun v7 h8=>
 bm (aa s.P 168 v7 4) h8 fun v9 hA=>
 bm (ab s.P 3 v9 hA) hA fun vC hB=>
 bm (aV b hB) hB fun vB hD=>
 bm (aa s.P 168 vB 1) hD fun vE hC=>
 bm (aa s.P 23 vE 0) hC fun vD hE=>
 bm (ab s.P 3 vD hE) hE fun vA hF=>
 bp (yC s k wl 118 false true (.fn (.func 161) [] []) [v5,vC,vA] hF) fun vF hG=>
 bp (yC s k wl 118 false true (.fn (.func 156) [] []) [b] hG) fun vI hI=>
 bm (vUn .not vI) hI fun vG hH=>
 cnd vG (
 some (.tup [],hH)) (
 bm (aV b hH) hH fun vK hM=>
 bm (aa s.P 168 vK 0) hM fun vL hK=>
 bm (aa s.P 65 vL 2) hK fun vN hL=>
 bm (aa s.P 55 vN 6) hL fun vO hQ=>
 bm (ab s.P 3 vO hQ) hQ fun vR ha=>
 bm (aw s.P .eql 3 vR (.lit (.int .i64 1))) ha fun vU hN=>
 cnd vU (
 bm (aV b hN) hN fun vl hz=>
 bm (aa s.P 168 vl 0) hz fun vS hR=>
 bm (aa s.P 65 vS 0) hR fun ve hq=>
 bs (aj s.P wl 3 ve (.lit (.int .i64 4)) hq) fun hP=>
 some (.tup [],hP)) (
 bm (aV b hN) hN fun vP hT=>
 bm (aa s.P 168 vP 0) hT fun vQ hU=>
 bm (aa s.P 65 vQ 0) hU fun vM hJ=>
 bm (ab s.P 3 vM hJ) hJ fun vH hV=>
 bm (aw s.P .eql 3 vH (.lit (.int .i64 2))) hV fun vJ hO=>
 gd vJ (
 bm (aw s.P .geq 3 vF (.lit (.int .i64 0))) hO fun vV hk=>
 yO s k wl 118 Tryz.f118 Cg 9 hN.length ([],[]) wS ⟨(b::uu::vF::b::v1::v3::v5::b::v7::v9::vC::b::vB::vE::vD::vA::vF::b::vI::vG::b::vK::vL::vN::vO::vR::vU::b::vP::vQ::vM::vH::vJ::(.lit (.bool true))::vF::vV::uu::uu::uu::uu::uu::uu::uu::uu::uu::uu::uu::uu::uu::uu::uu::uu::uu::uu::uu::uu::uu::uu::uu::uu::uu::uu::uu::uu::uu::uu::uu::uu::uu::uu::uu::[]),hk⟩) (
 yO s k wl 118 Tryz.f118 Cg 9 hN.length ([],[]) wS ⟨(b::uu::vF::b::v1::v3::v5::b::v7::v9::vC::b::vB::vE::vD::vA::vF::b::vI::vG::b::vK::vL::vN::vO::vR::vU::b::vP::vQ::vM::vH::vJ::(.lit (.bool false))::uu::uu::uu::uu::uu::uu::uu::uu::uu::uu::uu::uu::uu::uu::uu::uu::uu::uu::uu::uu::uu::uu::uu::uu::uu::uu::uu::uu::uu::uu::uu::uu::uu::uu::uu::uu::uu::[]),hO⟩) (
 yO s k wl 118 Tryz.f118 Cg 8 hN.length ([],[]) wS ⟨(b::uu::vF::b::v1::v3::v5::b::v7::v9::vC::b::vB::vE::vD::vA::vF::b::vI::vG::b::vK::vL::vN::vO::vR::vU::b::vP::vQ::vM::vH::vJ::vJ::uu::uu::uu::uu::uu::uu::uu::uu::uu::uu::uu::uu::uu::uu::uu::uu::uu::uu::uu::uu::uu::uu::uu::uu::uu::uu::uu::uu::uu::uu::uu::uu::uu::uu::uu::uu::uu::[]),hO⟩))):=kB
theorem aiX:evF Tryz.prog xM (k+1) wl 118 [b] h=ak (xX (xS k) 118 wl k false) Tryz.f118 [b] h:=by kernel_rfl
theorem Nk:yO s k wl 118 Tryz.f118 Cg 9 m0 ac wS ⟨(b::g::e::j::l::o::r::u::y::n::p::z::A::q::D::E::B::G::F::L::I::M::J::O::R::Q::N::Y::U::Z::W::X::T::t1::t2::t3::t4::t0::tf::te::tg::t6::t5::tb::t7::tc::t8::t9::td::ta::th::ti::tj::tk::tl::tm::tn::tp::tq::tr::q4::q5::q6::ts::tt::tu::tv::tw::tx::ty::tz::[]),h⟩ =
 bm (aR t1 t3 (.lit (.bool false))) h fun vq hr=>
 cnd vq (
 bp (yC s k wl 118 false true (.fn (.func 160) [] []) [b,(.lit (.int .i64 3)),(.lit (.int .i64 2)),e,(.lit (.int .u64 0))] hr) fun vy hf=>
 some (.tup [],hf)) (
 bm (aV b hr) hr fun va hg=>
 bm (aa s.P 168 va 0) hg fun vb hh=>
 bm (aa s.P 65 vb 3) hh fun vc hi=>
 bm (ab s.P 3 vc hi) hi fun vj ht=>
 bm (aw s.P .leq 3 vj (.lit (.int .i64 0))) ht fun vv hX=>
 cnd vv (
 bm (aV b hX) hX fun v72 h73=>
 bm (aa s.P 168 v72 4) h73 fun v74 h75=>
 bm (ab s.P 3 v74 h75) h75 fun v76 h77=>
 bp (yC s k wl 118 false true (.fn (.func 160) [] []) [b,(.lit (.int .i64 5)),(.lit (.int .i64 5)),v76,(.lit (.int .u64 0))] h77) fun v78 h79=>
 some (.tup [],h79)) (
 bm (aV b hX) hX fun v80 h81=>
 bm (aa s.P 168 v80 0) h81 fun v82 h83=>
 bm (aa s.P 65 v82 3) h83 fun v84 h85=>
 bm (ab s.P 3 v84 h85) h85 fun vw h87=>
 bm (aw s.P .sub 3 vw (.lit (.int .i64 1))) h87 fun v88 h89=>
 bm (aV b h89) h89 fun v90 h91=>
 bm (aa s.P 168 v90 0) h91 fun v92 h93=>
 bm (aa s.P 65 v92 3) h93 fun v94 h95=>
 bs (aj s.P wl 3 v94 v88 h95) fun h96=>
 bm (aV b h96) h96 fun vm hS=>
 bm (aa s.P 168 vm 4) hS fun v99 h100=>
 bm (ab s.P 3 v99 h100) h100 fun vn h102=>
 bp (yC s k wl 118 false true (.fn (.func 160) [] []) [b,(.lit (.int .i64 2)),(.lit (.int .i64 4)),vn,(.lit (.int .u64 0))] h102) fun v103 h104=>
 some (.tup [],h104))):=kG
theorem wO (cx:Cx) (s:St):au cx K wS .ret s=K .ret s:=by kernel_rfl
-- names: adq,Nk,wO
noncomputable def CX:List Fr:=[.seq (al (am Tryz.f119) [1,1])]
theorem aaf:ak (xX s 119 wl k false) Tryz.f119 [b] h =
 bm (aV b h) h fun v1 h2=>
 bm (aa s.P 168 v1 0) h2 fun v3 h4=>
 bm (aa s.P 65 v3 2) h4 fun v5 h6=>
 bm (aa s.P 55 v5 3) h6 fun v7 h8=>
 bm (ab s.P 46 v7 h8) h8 fun v9 hA=>
 bp (yC s k wl 119 false true (.fn (.func 159) [] []) [b,(.lit (.int .i64 1)),(.lit (.int .u64 18446744073709551615))] hA) fun vC hB=>
 bm (aw s.P .eql 46 vC (.lit (.int .u64 1))) hB fun vB hD=>
 cnd vB (
 bm (aV b hD) hD fun vE hC=>
 bm (aa s.P 168 vE 4) hC fun vD hE=>
 bm (ab s.P 3 vD hE) hE fun vA hF=>
 bp (yC s k wl 119 false true (.fn (.func 160) [] []) [b,(.lit (.int .i64 14)),(.lit (.int .i64 6)),vA,(.lit (.int .u64 0))] hF) fun vF hG=>
 au (xX s 119 wl k false) (ap s.P Tryz.f119) CX .norm ⟨[b,uu,v9,b,v1,v3,v5,v7,v9,b,vC,vB,b,b,vE,vD,vA,vF,uu,uu,uu,uu,uu],hG⟩) (
 bp (yC s k wl 119 false true (.fn (.func 157) [] []) [b,(.lit (.int .i64 9))] hD) fun vI hI=>
 au (xX s 119 wl k false) (ap s.P Tryz.f119) CX .norm ⟨[b,uu,v9,b,v1,v3,v5,v7,v9,b,vC,vB,uu,uu,uu,uu,uu,uu,b,vI,uu,uu,uu],hI⟩):=kB
theorem ag8:evF Tryz.prog xM (k+1) wl 119 [b] h=ak (xX (xS k) 119 wl k false) Tryz.f119 [b] h:=by kernel_rfl
theorem ND:au (xX s 119 wl k false) (ap s.P Tryz.f119) CX .norm ⟨[b,g,e,j,l,o,r,u,y,n,p,z,A,q,D,E,B,G,F,L,I,M,J],h⟩ =
 bp (yC s k wl 119 false true (.fn (.func 158) [] []) [b,e] h) fun vG hH=>
 some (.tup [],hH):=kR
theorem wR (cx:Cx) (s:St):au cx K CX .ret s=K .ret s:=by kernel_rfl
-- names: aaf,ND,wR
theorem adz:ak (xX s 120 wl k false) Tryz.f120 [b] h =
 bp (yC s k wl 120 false true (.fn (.func 156) [] []) [b] h) fun v1 h2=>
 bm (aV b h2) h2 fun v3 h4=>
 bm (aa s.P 168 v3 0) h4 fun v5 h6=>
 bm (aa s.P 65 v5 0) h6 fun v7 h8=>
 bs (aj s.P wl 3 v7 (.lit (.int .i64 6)) h8) fun h9=>
 some (.tup [],h9):=kB
theorem ahw:evF Tryz.prog xM (k+1) wl 120 [b] h=ak (xX (xS k) 120 wl k false) Tryz.f120 [b] h:=by kernel_rfl
-- names: adz,
theorem Z8:ak (xX s 121 wl k false) Tryz.f121 [b] h =
 bp (yC s k wl 121 false true (.fn (.func 159) [] []) [b,(.lit (.int .i64 1)),(.lit (.int .u64 18446744073709551615))] h) fun v1 h2=>
 bm (aV b h2) h2 fun v3 h4=>
 bm (aa s.P 168 v3 0) h4 fun v5 h6=>
 bm (aa s.P 65 v5 0) h6 fun v7 h8=>
 bs (aj s.P wl 3 v7 (.lit (.int .i64 7)) h8) fun h9=>
 bm (aV b h9) h9 fun vz h11=>
 bm (aa s.P 168 vz 0) h11 fun v12 h13=>
 bm (aa s.P 65 v12 4) h13 fun v14 hu=>
 bs (aj s.P wl 3 v14 (.lit (.int .i64 0)) hu) fun hC=>
 some (.tup [],hC):=kB
theorem afO:evF Tryz.prog xM (k+1) wl 121 [b] h=ak (xX (xS k) 121 wl k false) Tryz.f121 [b] h:=by kernel_rfl
-- names: Z8,
noncomputable def CW:Code:=al (am Tryz.f122) [1,1,0,0]
noncomputable def wb:List Fr:=[.seq (al (am Tryz.f122) [1,1,0,1]),.seq (al (am Tryz.f122) [1,1,1])]
noncomputable def rz:List Fr:=[.block 0,.seq (al (am Tryz.f122) [1,1,1,1,1,1])]
theorem acf:ak (xX s 122 wl k false) Tryz.f122 [b] h =
 bm (aV b h) h fun v1 h2=>
 bm (aa s.P 168 v1 0) h2 fun v3 h4=>
 bm (aa s.P 65 v3 4) h4 fun v5 h6=>
 bm (ab s.P 3 v5 h6) h6 fun v7 h8=>
 bm (aV b h8) h8 fun v9 hA=>
 bm (aa s.P 168 v9 1) hA fun vC hB=>
 bm (aa s.P 23 vC 0) hB fun vB hD=>
 bm (ab s.P 3 vB hD) hD fun vE hC=>
 bm (aw s.P .mul 3 (.lit (.int .i64 2)) vE) hC fun vD hE=>
 bm (aw s.P .add 3 (.lit (.int .i64 2)) vD) hE fun vA hF=>
 bm (aw s.P .lss 3 v7 (.lit (.int .i64 0))) hF fun vF hG=>
 gd vF (
 yO s k wl 122 Tryz.f122 CW 6 hF.length ([],[]) wb ⟨(b::uu::v7::vA::uu::uu::b::v1::v3::v5::v7::b::v9::vC::vB::vE::vD::vA::v7::vF::(.lit (.bool true))::uu::uu::uu::uu::uu::uu::uu::uu::uu::uu::uu::uu::uu::uu::uu::uu::uu::uu::uu::uu::uu::uu::uu::uu::uu::uu::uu::uu::uu::uu::uu::uu::uu::uu::uu::uu::uu::uu::uu::uu::uu::uu::uu::uu::uu::uu::uu::uu::uu::uu::uu::uu::uu::uu::uu::uu::uu::uu::uu::uu::uu::uu::uu::uu::uu::uu::uu::uu::uu::uu::uu::uu::uu::uu::uu::uu::uu::uu::uu::uu::uu::uu::uu::uu::uu::uu::uu::uu::uu::uu::uu::uu::uu::uu::uu::uu::uu::uu::uu::uu::uu::uu::uu::uu::uu::uu::uu::uu::uu::uu::uu::uu::uu::uu::uu::uu::uu::uu::uu::[]),hG⟩) (
 bm (aw s.P .geq 3 v7 vA) hG fun vI hI=>
 yO s k wl 122 Tryz.f122 CW 6 hF.length ([],[]) wb ⟨(b::uu::v7::vA::uu::uu::b::v1::v3::v5::v7::b::v9::vC::vB::vE::vD::vA::v7::vF::(.lit (.bool false))::v7::vA::vI::uu::uu::uu::uu::uu::uu::uu::uu::uu::uu::uu::uu::uu::uu::uu::uu::uu::uu::uu::uu::uu::uu::uu::uu::uu::uu::uu::uu::uu::uu::uu::uu::uu::uu::uu::uu::uu::uu::uu::uu::uu::uu::uu::uu::uu::uu::uu::uu::uu::uu::uu::uu::uu::uu::uu::uu::uu::uu::uu::uu::uu::uu::uu::uu::uu::uu::uu::uu::uu::uu::uu::uu::uu::uu::uu::uu::uu::uu::uu::uu::uu::uu::uu::uu::uu::uu::uu::uu::uu::uu::uu::uu::uu::uu::uu::uu::uu::uu::uu::uu::uu::uu::uu::uu::uu::uu::uu::uu::uu::uu::uu::uu::uu::uu::uu::uu::[]),hI⟩) (
 yO s k wl 122 Tryz.f122 CW 4 hF.length ([],[]) wb ⟨(b::uu::v7::vA::uu::uu::b::v1::v3::v5::v7::b::v9::vC::vB::vE::vD::vA::v7::vF::vF::uu::uu::uu::uu::uu::uu::uu::uu::uu::uu::uu::uu::uu::uu::uu::uu::uu::uu::uu::uu::uu::uu::uu::uu::uu::uu::uu::uu::uu::uu::uu::uu::uu::uu::uu::uu::uu::uu::uu::uu::uu::uu::uu::uu::uu::uu::uu::uu::uu::uu::uu::uu::uu::uu::uu::uu::uu::uu::uu::uu::uu::uu::uu::uu::uu::uu::uu::uu::uu::uu::uu::uu::uu::uu::uu::uu::uu::uu::uu::uu::uu::uu::uu::uu::uu::uu::uu::uu::uu::uu::uu::uu::uu::uu::uu::uu::uu::uu::uu::uu::uu::uu::uu::uu::uu::uu::uu::uu::uu::uu::uu::uu::uu::uu::uu::uu::uu::uu::uu::[]),hG⟩):=kB
theorem afH:evF Tryz.prog xM (k+1) wl 122 [b] h=ak (xX (xS k) 122 wl k false) Tryz.f122 [b] h:=by kernel_rfl
theorem NX:yO s k wl 122 Tryz.f122 CW 6 m0 ac wb ⟨(b::g::e::j::l::o::r::u::y::n::p::z::A::q::D::E::B::G::F::L::I::M::J::O::R::Q::N::Y::U::Z::W::X::T::t1::t2::t3::t4::t0::tf::te::tg::t6::t5::tb::t7::tc::t8::t9::td::ta::th::ti::tj::tk::tl::tm::tn::tp::tq::tr::q4::q5::q6::ts::tt::tu::tv::tw::tx::ty::tz::tA::tB::qb::qc::qd::tC::tD::tE::tF::tG::tH::tI::tJ::tK::tL::tM::tN::q7::q8::q9::qa::tO::tP::tQ::tR::tS::tT::tU::tV::tW::tX::tY::tZ::q0::q1::q2::q3::zz),h⟩ =
 bm (aR I (.lit (.bool true)) O) h fun vG hH=>
 cnd vG (
 bm (aV b hH) hH fun vK hM=>
 bm (aa s.P 168 vK 0) hM fun vL hK=>
 bm (aa s.P 65 vL 0) hK fun vN hL=>
 bs (aj s.P wl 3 vN (.lit (.int .i64 8)) hL) fun hc=>
 bm (aV b hc) hc fun vf hd=>
 bm (aa s.P 168 vf 0) hd fun vW hm=>
 bm (aa s.P 65 vW 2) hm fun vg hn=>
 bm (aa s.P 55 vg 3) hn fun vh hb=>
 bs (aj s.P wl 46 vh (.lit (.int .u64 0)) hb) fun hR=>
 bm (aV b hR) hR fun ve hq=>
 bm (aa s.P 168 ve 0) hq fun vr h46=>
 bm (aa s.P 65 vr 4) h46 fun v47 h48=>
 bs (aj s.P wl 3 v47 (.lit (.int .i64 0)) h48) fun hU=>
 some (.tup [],hU)) (
 bm (aw s.P .sub 3 e (.lit (.int .i64 2))) hH fun vM hJ=>
 bm (aw s.P .quo 3 vM (.lit (.int .i64 2))) hJ fun vH hV=>
 bm (aw s.P .eql 3 e (.lit (.int .i64 0))) hV fun vJ hO=>
 cnd vJ (
 bm (aV b hO) hO fun vV hk=>
 bm (aa s.P 168 vV 3) hk fun vq hr=>
 bm (ab s.P 26 vq hr) hr fun vy hf=>
 bp (yC s k wl 122 false true (.fn (.func 27) [] []) [vy,(.lit (.int .i64 4))] hf) fun va hg=>
 bm (aV b hg) hg fun vb hh=>
 bm (aa s.P 168 vb 0) hh fun vc hi=>
 bm (aa s.P 65 vc 2) hi fun vj ht=>
 bm (aa s.P 55 vj 3) ht fun vv hX=>
 bs (aj s.P wl 46 vv va hX) fun h72=>
 au (xX s 122 wl k false) (ap s.P Tryz.f122) rz .norm ⟨(b::g::e::j::(.lit (.bool false))::vH::r::u::y::n::p::z::A::q::D::E::B::G::F::L::I::M::J::O::vG::Q::N::Y::U::Z::W::X::T::t1::t2::t3::t4::t0::e::vM::vH::t6::t5::tb::t7::tc::t8::t9::td::ta::th::ti::tj::tk::tl::tm::tn::tp::tq::tr::vJ::e::vJ::b::b::vV::vq::vy::va::vb::vc::vj::vv::qb::qc::qd::tC::tD::tE::tF::tG::tH::tI::tJ::tK::tL::tM::tN::q7::q8::q9::qa::tO::tP::tQ::tR::tS::tT::tU::tV::tW::tX::tY::tZ::q0::q1::q2::q3::zz),h72⟩) (
 bm (aw s.P .eql 3 e (.lit (.int .i64 1))) hO fun vY hl=>
 cnd vY (
 bm (aV b hl) hl fun v75 h76=>
 bm (aa s.P 168 v75 3) h76 fun v77 h78=>
 bm (ab s.P 26 v77 h78) h78 fun v79 h80=>
 bp (yC s k wl 122 true true (.fn (.func 27) [] []) [v79,(.lit (.int .i64 5))] h80) fun v81 h82=>
 stO hl.length b (
 bm (aV b h82) h82 fun v83 h84=>
 bm (aa s.P 168 v83 0) h84 fun v85 h86=>
 bm (aa s.P 65 v85 2) h86 fun v87 h88=>
 bm (aa s.P 55 v87 3) h88 fun v89 h90=>
 stO hl.length v89 (
 bm (ab s.P 46 v89 h90) h90 fun v91 h92=>
 bm (aw s.P .neq 46 v81 v91) h92 fun v93 h94=>
 au (xX s 122 wl k false) (ap s.P Tryz.f122) rz .norm ⟨(b::g::e::j::v93::vH::r::u::y::n::p::z::A::q::D::E::B::G::F::L::I::M::J::O::vG::Q::N::Y::U::Z::W::X::T::t1::t2::t3::t4::t0::e::vM::vH::t6::t5::tb::t7::tc::t8::t9::td::ta::th::ti::tj::tk::tl::tm::tn::tp::tq::tr::vJ::e::vJ::ts::tt::tu::tv::tw::tx::ty::tz::tA::tB::vY::e::vY::b::v75::v77::v79::v81::b::v83::v85::v87::v89::v91::v93::q7::q8::q9::qa::tO::tP::tQ::tR::tS::tT::tU::tV::tW::tX::tY::tZ::q0::q1::q2::q3::zz),h94⟩))) (
 bm (aw s.P .rem 3 e (.lit (.int .i64 2))) hl fun v95 h96=>
 bm (aw s.P .eql 3 v95 (.lit (.int .i64 0))) h96 fun vm hS=>
 cnd vm (
 stO hS.length b (
 bm (aV b hS) hS fun v99 h100=>
 bm (aa s.P 168 v99 3) h100 fun vn h102=>
 stO hS.length vn (
 bm (ab s.P 26 vn h102) h102 fun v103 h104=>
 bm (aV b h104) h104 fun v105 h106=>
 bm (aa s.P 168 v105 1) h106 fun v107 h108=>
 bm (ab s.P 23 v107 h108) h108 fun v109 h110=>
 bp (yC s k wl 122 true true (.fn (.func 107) [] []) [v109,vH] h110) fun v111 h112=>
 bp (yC s k wl 122 false true (.fn (.func 27) [] []) [v103,v111] h112) fun v113 h114=>
 bm (aV b h114) h114 fun v115 h116=>
 bm (aa s.P 168 v115 0) h116 fun v117 h118=>
 bm (aa s.P 65 v117 2) h118 fun v119 h120=>
 bm (aa s.P 55 v119 3) h120 fun v121 h122=>
 bs (aj s.P wl 46 v121 v113 h122) fun h123=>
 au (xX s 122 wl k false) (ap s.P Tryz.f122) rz .norm ⟨(b::g::e::j::(.lit (.bool false))::vH::r::u::y::n::p::z::A::q::D::E::B::G::F::L::I::M::J::O::vG::Q::N::Y::U::Z::W::X::T::t1::t2::t3::t4::t0::e::vM::vH::t6::t5::tb::t7::tc::t8::t9::td::ta::th::ti::tj::tk::tl::tm::tn::tp::tq::tr::vJ::e::vJ::ts::tt::tu::tv::tw::tx::ty::tz::tA::tB::vY::e::vY::tC::tD::tE::tF::tG::tH::tI::tJ::tK::tL::tM::tN::vm::e::v95::vm::b::b::v99::vn::v103::b::v105::v107::v109::vH::v111::v113::v115::v117::v119::v121::zz),h123⟩))) (
 stO hS.length b (
 bm (aV b hS) hS fun v124 h125=>
 bm (aa s.P 168 v124 3) h125 fun v126 h127=>
 stO hS.length v126 (
 bm (ab s.P 26 v126 h127) h127 fun v128 h129=>
 bm (aV b h129) h129 fun v130 h131=>
 bm (aa s.P 168 v130 1) h131 fun v132 h133=>
 bm (ab s.P 23 v132 h133) h133 fun v134 h135=>
 bp (yC s k wl 122 true true (.fn (.func 108) [] []) [v134,vH] h135) fun v136 h137=>
 bp (yC s k wl 122 true true (.fn (.func 27) [] []) [v128,v136] h137) fun v138 h139=>
 stO hS.length b (
 bm (aV b h139) h139 fun v140 h141=>
 bm (aa s.P 168 v140 0) h141 fun v142 h143=>
 bm (aa s.P 65 v142 2) h143 fun v144 h145=>
 bm (aa s.P 55 v144 3) h145 fun v146 h147=>
 stO hS.length v146 (
 bm (ab s.P 46 v146 h147) h147 fun v148 h149=>
 bp (yC s k wl 122 false true (.fn (.func 106) [] []) [v138,v148] h149) fun v150 h151=>
 bm (aw s.P .gtr 3 v150 (.lit (.int .i64 0))) h151 fun v152 h153=>
 au (xX s 122 wl k false) (ap s.P Tryz.f122) rz .norm ⟨(b::g::e::j::v152::vH::r::u::y::n::p::z::A::q::D::E::B::G::F::L::I::M::J::O::vG::Q::N::Y::U::Z::W::X::T::t1::t2::t3::t4::t0::e::vM::vH::b::v124::v126::v128::b::v130::v132::v134::vH::v136::v138::b::v140::v142::v144::v146::v148::v150::v152::vJ::e::vJ::ts::tt::tu::tv::tw::tx::ty::tz::tA::tB::vY::e::vY::tC::tD::tE::tF::tG::tH::tI::tJ::tK::tL::tM::tN::vm::e::v95::vm::tO::tP::tQ::tR::tS::tT::tU::tV::tW::tX::tY::tZ::q0::q1::q2::q3::zz),h153⟩)))))))):=kG
theorem Ns:au (xX s 122 wl k false) (ap s.P Tryz.f122) rz .norm ⟨(b::g::e::j::l::o::r::u::y::n::p::z::A::q::D::E::B::G::F::L::I::M::J::O::R::Q::N::Y::U::Z::W::X::T::t1::t2::t3::t4::t0::tf::te::tg::t6::t5::tb::t7::tc::t8::t9::td::ta::th::ti::tj::tk::tl::tm::tn::tp::tq::tr::q4::q5::q6::ts::tt::tu::tv::tw::tx::ty::tz::tA::tB::qb::qc::qd::tC::tD::tE::tF::tG::tH::tI::tJ::tK::tL::tM::tN::q7::q8::q9::qa::tO::tP::tQ::tR::tS::tT::tU::tV::tW::tX::tY::tZ::q0::q1::q2::q3::qe::qf::qg::qh::qi::qj::qk::ql::qm::qn::qo::qp::qq::qr::qs::qt::qu::qv::qw::qx::qy::qz::qA::qB::qC::qD::qE::qF::qG::qH::qI::qJ::[]),h⟩ =
 cnd l (
 bp (yC s k wl 122 false true (.fn (.func 157) [] []) [b,(.lit (.int .i64 1))] h) fun v154 h155=>
 some (.tup [],h155)) (
 bm (aV b h) h fun v156 h157=>
 bm (aa s.P 168 v156 0) h157 fun v158 h159=>
 bm (aa s.P 65 v158 4) h159 fun v160 h161=>
 bm (ab s.P 3 v160 h161) h161 fun v162 h163=>
 bm (aw s.P .add 3 v162 (.lit (.int .i64 1))) h163 fun v164 h165=>
 bm (aV b h165) h165 fun v166 h167=>
 bm (aa s.P 168 v166 0) h167 fun v168 h169=>
 bm (aa s.P 65 v168 4) h169 fun v170 h171=>
 bs (aj s.P wl 3 v170 v164 h171) fun h172=>
 bm (aV b h172) h172 fun v173 h174=>
 bm (aa s.P 168 v173 0) h174 fun v175 h176=>
 bm (aa s.P 65 v175 4) h176 fun v177 h178=>
 bm (ab s.P 3 v177 h178) h178 fun v179 h180=>
 bm (aw s.P .eql 3 v179 j) h180 fun v181 h182=>
 cnd v181 (
 bm (aV b h182) h182 fun v183 h184=>
 bm (aa s.P 168 v183 0) h184 fun v185 h186=>
 bm (aa s.P 65 v185 0) h186 fun v187 h188=>
 bs (aj s.P wl 3 v187 (.lit (.int .i64 8)) h188) fun h189=>
 bm (aV b h189) h189 fun v190 h191=>
 bm (aa s.P 168 v190 0) h191 fun v192 h193=>
 bm (aa s.P 65 v192 2) h193 fun v194 h195=>
 bm (aa s.P 55 v194 3) h195 fun v196 h197=>
 bs (aj s.P wl 46 v196 (.lit (.int .u64 0)) h197) fun h198=>
 bm (aV b h198) h198 fun v199 h200=>
 bm (aa s.P 168 v199 0) h200 fun v201 h202=>
 bm (aa s.P 65 v201 4) h202 fun v203 h204=>
 bs (aj s.P wl 3 v203 (.lit (.int .i64 0)) h204) fun h205=>
 some (.tup [],h205)) (
 some (.tup [],h182))):=kR
theorem wY (cx:Cx) (s:St):au cx K wb .ret s=K .ret s:=by kernel_rfl
theorem ux (cx:Cx) (s:St):au cx K rz .ret s=K .ret s:=by kernel_rfl
-- names: acf,NX,Ns,wY,ux
theorem aco:ak (xX s 123 wl k false) Tryz.f123 [b] h =
 bp (yC s k wl 123 false true (.fn (.func 156) [] []) [b] h) fun v1 h2=>
 cnd v1 (
 bp (yC s k wl 123 false true (.fn (.func 157) [] []) [b,(.lit (.int .i64 1))] h2) fun v3 h4=>
 some (.tup [],h4)) (
 some (.tup [],h2)):=kB
theorem afk:evF Tryz.prog xM (k+1) wl 123 [b] h=ak (xX (xS k) 123 wl k false) Tryz.f123 [b] h:=by kernel_rfl
-- names: aco,
theorem Zw:ak (xX s 124 wl k false) Tryz.f124 [b] h =
 bm (aV b h) h fun v1 h2=>
 bm (aa s.P 168 v1 2) h2 fun v3 h4=>
 bm (ab s.P 24 v3 h4) h4 fun v5 h6=>
 bm (aV b h6) h6 fun v7 h8=>
 bm (aa s.P 168 v7 0) h8 fun v9 hA=>
 bm (aa s.P 65 v9 1) hA fun vC hB=>
 bm (ab s.P 63 vC hB) hB fun vB hD=>
 bp (yC s k wl 124 false true (.fn (.func 162) [] []) [v5,vB] hD) fun vE hC=>
 bm (wx s.P 194 vE 0) hC fun vD hE=>
 bm (aw s.P .eql 3 vD (.lit (.int .i64 1))) hE fun vA hF=>
 cnd vA (
 bm (aV b hF) hF fun vF hG=>
 bm (aa s.P 168 vF 2) hG fun vI hI=>
 bm (ab s.P 24 vI hI) hI fun vG hH=>
 bm (aV b hH) hH fun vK hM=>
 bm (aa s.P 168 vK 0) hM fun vL hK=>
 bm (aa s.P 65 vL 1) hK fun vN hL=>
 bm (ab s.P 63 vN hL) hL fun vO hQ=>
 bp (yC s k wl 124 false true (.fn (.func 163) [] []) [vG,vO] hQ) fun vR ha=>
 bm (aV b ha) ha fun vU hN=>
 bm (aa s.P 168 vU 0) hN fun vl hz=>
 bm (aa s.P 65 vl 1) hz fun vS hR=>
 bs (aj s.P wl 63 vS vR hR) fun ho=>
 some (.tup [],ho)) (
 bm (aw s.P .eql 3 vD (.lit (.int .i64 2))) hF fun vi hP=>
 cnd vi (
 bm (aV b hP) hP fun vP hT=>
 bm (aa s.P 168 vP 0) hT fun vQ hU=>
 bm (aa s.P 65 vQ 0) hU fun vM hJ=>
 bs (aj s.P wl 3 vM (.lit (.int .i64 10)) hJ) fun h52=>
 some (.tup [],h52)) (
 bm (aw s.P .eql 3 vD (.lit (.int .i64 3))) hP fun v53 he=>
 cnd v53 (
 bm (aV b he) he fun vt h56=>
 bm (aa s.P 168 vt 0) h56 fun vu hW=>
 bm (aa s.P 65 vu 0) hW fun vZ hs=>
 bs (aj s.P wl 3 vZ (.lit (.int .i64 15)) hs) fun hf=>
 some (.tup [],hf)) (
 bm (aV b he) he fun va hg=>
 bm (aa s.P 168 va 4) hg fun vb hh=>
 bm (ab s.P 3 vb hh) hh fun vc hi=>
 bp (yC s k wl 124 false true (.fn (.func 160) [] []) [b,(.lit (.int .i64 0)),(.lit (.int .i64 1)),vc,(.lit (.int .u64 0))] hi) fun vj ht=>
 some (.tup [],ht)))):=kB
theorem ahm:evF Tryz.prog xM (k+1) wl 124 [b] h=ak (xX (xS k) 124 wl k false) Tryz.f124 [b] h:=by kernel_rfl
-- names: Zw,
theorem abp:ak (xX s 125 wl k false) Tryz.f125 [b] h =
 bp (av s.P 194 h) fun v1 h2=>
 bm (aV b h2) h2 fun v3 h4=>
 bm (aa s.P 168 v3 2) h4 fun v5 h6=>
 bm (ab s.P 24 v5 h6) h6 fun v7 h8=>
 bm (aV b h8) h8 fun v9 hA=>
 bm (aa s.P 168 v9 0) hA fun vC hB=>
 bm (aa s.P 65 vC 1) hB fun vB hD=>
 bm (ab s.P 63 vB hD) hD fun vE hC=>
 bp (yC s k wl 125 true true (.fn (.func 162) [] []) [v7,vE] hC) fun vD hE=>
 bs (aj s.P wl 194 v1 vD hE) fun hw=>
 bm (aa s.P 194 v1 0) hw fun vX hY=>
 bm (ab s.P 3 vX hY) hY fun vd hj=>
 bm (aw s.P .neq 3 vd (.lit (.int .i64 2))) hj fun vk hZ=>
 cnd vk (
 bp (yC s k wl 125 false true (.fn (.func 157) [] []) [b,(.lit (.int .i64 9))] hZ) fun vx hp=>
 some (.tup [],hp)) (
 bp (yC s k wl 125 false true (.fn (.func 159) [] []) [b,(.lit (.int .i64 0)),(.lit (.int .u64 1))] hZ) fun vT hx=>
 bm (aa s.P 194 v1 1) hx fun vp hy=>
 bm (ab s.P 3 vp hy) hy fun v32 hc=>
 bp (yC s k wl 125 false true (.fn (.func 164) [] []) [b,(.lit (.int .i64 3)),v32] hc) fun vf hd=>
 bm (aV b hd) hd fun vW hm=>
 bm (aa s.P 168 vW 2) hm fun vg hn=>
 bm (ab s.P 24 vg hn) hn fun vh hb=>
 bm (aV b hb) hb fun vs ho=>
 bm (aa s.P 168 vs 0) ho fun vi hP=>
 bm (aa s.P 65 vi 1) hP fun vP hT=>
 bm (ab s.P 63 vP hT) hT fun vQ hU=>
 bp (yC s k wl 125 false true (.fn (.func 163) [] []) [vh,vQ] hU) fun vM hJ=>
 bm (aV b hJ) hJ fun vH hV=>
 bm (aa s.P 168 vH 0) hV fun vJ hO=>
 bm (aa s.P 65 vJ 1) hO fun vV hk=>
 bs (aj s.P wl 63 vV vM hk) fun hW=>
 bm (aV b hW) hW fun vZ hs=>
 bm (aa s.P 168 vZ 4) hs fun v61 h62=>
 bm (ab s.P 3 v61 h62) h62 fun v63 h64=>
 bm (aa s.P 194 v1 1) h64 fun v65 h66=>
 bm (ab s.P 3 v65 h66) h66 fun v67 h68=>
 bm (fY s.P 3 46 v67) h68 fun v69 h70=>
 bp (yC s k wl 125 false true (.fn (.func 160) [] []) [b,(.lit (.int .i64 11)),(.lit (.int .i64 0)),v63,v69] h70) fun v71 h72=>
 some (.tup [],h72)):=kB
theorem agk:evF Tryz.prog xM (k+1) wl 125 [b] h=ak (xX (xS k) 125 wl k false) Tryz.f125 [b] h:=by kernel_rfl
-- names: abp,
theorem ac3:ak (xX s 126 wl k false) Tryz.f126 [b] h =
 bp (yC s k wl 126 false true (.fn (.func 156) [] []) [b] h) fun v1 h2=>
 bm (vUn .not v1) h2 fun v3 h4=>
 cnd v3 (
 some (.tup [],h4)) (
 bm (aV b h4) h4 fun v5 h6=>
 bm (aa s.P 168 v5 0) h6 fun v7 h8=>
 bm (aa s.P 65 v7 2) h8 fun v9 hA=>
 bm (aa s.P 55 v9 6) hA fun vC hB=>
 bm (ab s.P 3 vC hB) hB fun vB hD=>
 bm (aw s.P .eql 3 vB (.lit (.int .i64 2))) hD fun vE hC=>
 cnd vE (
 bm (aV b hC) hC fun vD hE=>
 bm (aa s.P 168 vD 4) hE fun vA hF=>
 bm (ab s.P 3 vA hF) hF fun vF hG=>
 bm (aV b hG) hG fun vI hI=>
 bm (aa s.P 168 vI 0) hI fun vG hH=>
 bm (aa s.P 65 vG 2) hH fun vK hM=>
 bm (aa s.P 55 vK 3) hM fun vL hK=>
 bm (ab s.P 46 vL hK) hK fun vN hL=>
 bp (yC s k wl 126 false true (.fn (.func 160) [] []) [b,(.lit (.int .i64 12)),(.lit (.int .i64 3)),vF,vN] hL) fun vO hQ=>
 some (.tup [],hQ)) (
 bp (yC s k wl 126 false true (.fn (.func 157) [] []) [b,(.lit (.int .i64 13))] hC) fun vR ha=>
 some (.tup [],ha))):=kB
theorem afr:evF Tryz.prog xM (k+1) wl 126 [b] h=ak (xX (xS k) 126 wl k false) Tryz.f126 [b] h:=by kernel_rfl
-- names: ac3,
theorem Zy:ak (xX s 127 wl k false) Tryz.f127 [b] h =
 bp (yC s k wl 127 false true (.fn (.func 156) [] []) [b] h) fun v1 h2=>
 bm (vUn .not v1) h2 fun v3 h4=>
 cnd v3 (
 some (.tup [],h4)) (
 bm (aV b h4) h4 fun v5 h6=>
 bm (aa s.P 168 v5 0) h6 fun v7 h8=>
 bm (aa s.P 65 v7 2) h8 fun v9 hA=>
 bm (aa s.P 55 v9 6) hA fun vC hB=>
 bm (ab s.P 3 vC hB) hB fun vB hD=>
 bm (aw s.P .eql 3 vB (.lit (.int .i64 2))) hD fun vE hC=>
 cnd vE (
 bm (aV b hC) hC fun vD hE=>
 bm (aa s.P 168 vD 0) hE fun vA hF=>
 bm (aa s.P 65 vA 2) hF fun vF hG=>
 bm (aa s.P 55 vF 3) hG fun vI hI=>
 bm (ab s.P 46 vI hI) hI fun vG hH=>
 bp (yC s k wl 127 false true (.fn (.func 157) [] []) [b,(.lit (.int .i64 9))] hH) fun vK hM=>
 bp (yC s k wl 127 false true (.fn (.func 158) [] []) [b,vG] hM) fun vL hK=>
 some (.tup [],hK)) (
 bp (yC s k wl 127 false true (.fn (.func 157) [] []) [b,(.lit (.int .i64 13))] hC) fun vN hL=>
 some (.tup [],hL))):=kB
theorem agi:evF Tryz.prog xM (k+1) wl 127 [b] h=ak (xX (xS k) 127 wl k false) Tryz.f127 [b] h:=by kernel_rfl
-- names: Zy,
theorem ac4:ak (xX s 128 wl k false) Tryz.f128 [b] h =
 bm (aV b h) h fun v1 h2=>
 bm (aa s.P 168 v1 3) h2 fun v3 h4=>
 bm (ab s.P 26 v3 h4) h4 fun v5 h6=>
 bp (yC s k wl 128 false true (.fn (.func 27) [] []) [v5,(.lit (.int .i64 1))] h6) fun v7 h8=>
 bm (aw s.P .eql 46 v7 (.lit (.int .u64 0))) h8 fun v9 hA=>
 cnd v9 (
 bm (aV b hA) hA fun vC hB=>
 bm (aa s.P 168 vC 4) hB fun vB hD=>
 bm (ab s.P 3 vB hD) hD fun vE hC=>
 bp (yC s k wl 128 false true (.fn (.func 160) [] []) [b,(.lit (.int .i64 14)),(.lit (.int .i64 6)),vE,(.lit (.int .u64 0))] hC) fun vD hE=>
 some (.tup [],hE)) (
 bp (yC s k wl 128 false true (.fn (.func 157) [] []) [b,(.lit (.int .i64 9))] hA) fun vA hF=>
 some (.tup [],hF)):=kB
theorem aiA:evF Tryz.prog xM (k+1) wl 128 [b] h=ak (xX (xS k) 128 wl k false) Tryz.f128 [b] h:=by kernel_rfl
-- names: ac4,
theorem adW:ak (xX s 129 wl k false) Tryz.f129 [b] h =
 bp (yC s k wl 129 false true (.fn (.func 156) [] []) [b] h) fun v1 h2=>
 cnd v1 (
 bp (yC s k wl 129 false true (.fn (.func 157) [] []) [b,(.lit (.int .i64 9))] h2) fun v3 h4=>
 some (.tup [],h4)) (
 some (.tup [],h2)):=kB
theorem ail:evF Tryz.prog xM (k+1) wl 129 [b] h=ak (xX (xS k) 129 wl k false) Tryz.f129 [b] h:=by kernel_rfl
-- names: adW,
noncomputable def CT:List Fr:=[.seq (al (am Tryz.f130) [1,1,1,1,1])]
theorem abm:ak (xX s 130 wl k false) Tryz.f130 [b] h =
 bp (av s.P 194 h) fun v1 h2=>
 bm (aV b h2) h2 fun v3 h4=>
 bm (aa s.P 168 v3 2) h4 fun v5 h6=>
 bm (ab s.P 24 v5 h6) h6 fun v7 h8=>
 bm (aV b h8) h8 fun v9 hA=>
 bm (aa s.P 168 v9 0) hA fun vC hB=>
 bm (aa s.P 65 vC 1) hB fun vB hD=>
 bm (ab s.P 63 vB hD) hD fun vE hC=>
 bp (yC s k wl 130 true true (.fn (.func 162) [] []) [v7,vE] hC) fun vD hE=>
 bs (aj s.P wl 194 v1 vD hE) fun hw=>
 bm (aa s.P 194 v1 0) hw fun vX hY=>
 bm (ab s.P 3 vX hY) hY fun vd hj=>
 bm (aw s.P .neq 3 vd (.lit (.int .i64 3))) hj fun vk hZ=>
 cnd vk (
 bp (yC s k wl 130 false true (.fn (.func 157) [] []) [b,(.lit (.int .i64 9))] hZ) fun vx hp=>
 some (.tup [],hp)) (
 bp (yC s k wl 130 false true (.fn (.func 159) [] []) [b,(.lit (.int .i64 0)),(.lit (.int .u64 18446744073709551615))] hZ) fun vT hx=>
 bm (aa s.P 194 v1 1) hx fun vp hy=>
 bm (ab s.P 3 vp hy) hy fun v32 hc=>
 bp (yC s k wl 130 false true (.fn (.func 164) [] []) [b,(.lit (.int .i64 4)),v32] hc) fun vf hd=>
 bm (aw s.P .eql 46 vT (.lit (.int .u64 1))) hd fun vW hm=>
 cnd vW (
 bp (yC s k wl 130 false true (.fn (.func 164) [] []) [b,(.lit (.int .i64 5)),(.lit (.int .i64 0))] hm) fun vg hn=>
 au (xX s 130 wl k false) (ap s.P Tryz.f130) CT .norm ⟨[b,uu,v1,vT,b,v3,v5,v7,b,v9,vC,vB,vE,vD,vX,vd,vk,uu,uu,b,vT,b,vp,v32,vf,vT,vW,b,vg,uu,uu,uu,uu,uu,uu,uu,uu,uu,uu,uu,uu,uu,uu,uu,uu,uu,uu,uu,uu,uu,uu,uu,uu,uu,uu,uu,uu,uu],hn⟩) (
 au (xX s 130 wl k false) (ap s.P Tryz.f130) CT .norm ⟨[b,uu,v1,vT,b,v3,v5,v7,b,v9,vC,vB,vE,vD,vX,vd,vk,uu,uu,b,vT,b,vp,v32,vf,vT,vW,uu,uu,uu,uu,uu,uu,uu,uu,uu,uu,uu,uu,uu,uu,uu,uu,uu,uu,uu,uu,uu,uu,uu,uu,uu,uu,uu,uu,uu,uu,uu],hm⟩)):=kB
theorem ahJ:evF Tryz.prog xM (k+1) wl 130 [b] h=ak (xX (xS k) 130 wl k false) Tryz.f130 [b] h:=by kernel_rfl
theorem Nr:au (xX s 130 wl k false) (ap s.P Tryz.f130) CT .norm ⟨[b,g,e,j,l,o,r,u,y,n,p,z,A,q,D,E,B,G,F,L,I,M,J,O,R,Q,N,Y,U,Z,W,X,T,t1,t2,t3,t4,t0,tf,te,tg,t6,t5,tb,t7,tc,t8,t9,td,ta,th,ti,tj,tk,tl,tm,tn,tp],h⟩ =
 bm (aV b h) h fun vh hb=>
 bm (aa s.P 168 vh 2) hb fun vs ho=>
 bm (ab s.P 24 vs ho) ho fun vi hP=>
 bm (aV b hP) hP fun vP hT=>
 bm (aa s.P 168 vP 0) hT fun vQ hU=>
 bm (aa s.P 65 vQ 1) hU fun vM hJ=>
 bm (ab s.P 63 vM hJ) hJ fun vH hV=>
 bp (yC s k wl 130 false true (.fn (.func 163) [] []) [vi,vH] hV) fun vJ hO=>
 bm (aV b hO) hO fun vV hk=>
 bm (aa s.P 168 vV 0) hk fun vq hr=>
 bm (aa s.P 65 vq 1) hr fun vy hf=>
 bs (aj s.P wl 63 vy vJ hf) fun h62=>
 bm (aV b h62) h62 fun v63 h64=>
 bm (aa s.P 168 v63 0) h64 fun v65 h66=>
 bm (aa s.P 65 v65 1) h66 fun v67 h68=>
 bm (ab s.P 63 v67 h68) h68 fun v69 h70=>
 bp (a7 s.P 63 v69 h70) fun v71 h72=>
 bm (aw s.P .eql 3 v71 (.lit (.int .i64 0))) h72 fun vY hl=>
 cnd vY (
 bm (aV b hl) hl fun v75 h76=>
 bm (aa s.P 168 v75 4) h76 fun v77 h78=>
 bm (ab s.P 3 v77 h78) h78 fun v79 h80=>
 bp (yC s k wl 130 false true (.fn (.func 160) [] []) [b,(.lit (.int .i64 0)),(.lit (.int .i64 1)),v79,(.lit (.int .u64 0))] h80) fun v81 h82=>
 some (.tup [],h82)) (
 bp (yC s k wl 130 false true (.fn (.func 157) [] []) [b,(.lit (.int .i64 9))] hl) fun v83 h84=>
 some (.tup [],h84)):=kR
theorem wi (cx:Cx) (s:St):au cx K CT .ret s=K .ret s:=by kernel_rfl
-- names: abm,Nr,wi
noncomputable def uE:List Fr:=[.seq (al (am Tryz.f156) [1,1,0,1,0,1]),.block 0,.seq (al (am Tryz.f156) [1,1,1])]
noncomputable def nS:List Fr:=[.block 0,.seq (al (am Tryz.f156) [1,1,1])]
theorem aby:ak (xX s 156 wl k false) Tryz.f156 [b] h =
 bm (aV b h) h fun v1 h2=>
 bm (aa s.P 168 v1 0) h2 fun v3 h4=>
 bm (aa s.P 65 v3 2) h4 fun v5 h6=>
 bm (aa s.P 55 v5 0) h6 fun v7 h8=>
 bm (ab s.P 3 v7 h8) h8 fun v9 hA=>
 bm (aw s.P .eql 3 v9 (.lit (.int .i64 0))) hA fun vC hB=>
 cnd vC (
 au (xX s 156 wl k false) (ap s.P Tryz.f156) uE .norm ⟨[b,uu,(.lit (.bool false)),(.fn (.func 134) [] []),b,v1,v3,v5,v7,v9,vC,vC,uu,uu,uu,uu,uu,uu,uu,uu,uu,uu,uu,uu,uu,uu,uu,uu,uu,uu,uu,uu,uu,uu,uu,uu,uu,uu,uu,uu,uu,uu,uu,uu,uu,uu,uu,uu],hB⟩) (
 bm (aw s.P .eql 3 v9 (.lit (.int .i64 1))) hB fun vB hD=>
 cnd vB (
 au (xX s 156 wl k false) (ap s.P Tryz.f156) uE .norm ⟨[b,uu,(.lit (.bool false)),(.fn (.func 134) [] []),b,v1,v3,v5,v7,v9,vB,vC,vB,uu,uu,uu,uu,uu,uu,uu,uu,uu,uu,uu,uu,uu,uu,uu,uu,uu,uu,uu,uu,uu,uu,uu,uu,uu,uu,uu,uu,uu,uu,uu,uu,uu,uu,uu],hD⟩) (
 bm (aw s.P .eql 3 v9 (.lit (.int .i64 2))) hD fun vE hC=>
 au (xX s 156 wl k false) (ap s.P Tryz.f156) uE .norm ⟨[b,uu,(.lit (.bool false)),(.fn (.func 134) [] []),b,v1,v3,v5,v7,v9,vE,vC,vB,vE,uu,uu,uu,uu,uu,uu,uu,uu,uu,uu,uu,uu,uu,uu,uu,uu,uu,uu,uu,uu,uu,uu,uu,uu,uu,uu,uu,uu,uu,uu,uu,uu,uu,uu],hC⟩)):=kB
theorem afq:evF Tryz.prog xM (k+1) wl 156 [b] h=ak (xX (xS k) 156 wl k false) Tryz.f156 [b] h:=by kernel_rfl
theorem Mo:au (xX s 156 wl k false) (ap s.P Tryz.f156) uE .norm ⟨(b::g::e::j::l::o::r::u::y::n::p::z::A::q::D::E::B::zz),h⟩ =
 cnd p (
 au (xX s 156 wl k false) (ap s.P Tryz.f156) nS .norm ⟨(b::g::e::(.fn (.func 180) [] [])::l::o::r::u::y::n::p::z::A::q::D::E::B::zz),h⟩) (
 bm (aw s.P .eql 3 n (.lit (.int .i64 3))) h fun vD hE=>
 cnd vD (
 cnd vD (
 au (xX s 156 wl k false) (ap s.P Tryz.f156) nS .norm ⟨(b::g::e::(.fn (.func 135) [] [])::l::o::r::u::y::n::p::z::A::q::vD::vD::B::zz),hE⟩) (
 au (xX s 156 wl k false) (ap s.P Tryz.f156) nS .norm ⟨(b::g::e::j::l::o::r::u::y::n::p::z::A::q::vD::vD::B::zz),hE⟩)) (
 bm (aw s.P .eql 3 n (.lit (.int .i64 4))) hE fun vA hF=>
 cnd vA (
 au (xX s 156 wl k false) (ap s.P Tryz.f156) nS .norm ⟨(b::g::e::(.fn (.func 135) [] [])::l::o::r::u::y::n::p::z::A::q::vA::vD::vA::zz),hF⟩) (
 au (xX s 156 wl k false) (ap s.P Tryz.f156) nS .norm ⟨(b::g::e::j::l::o::r::u::y::n::p::z::A::q::vA::vD::vA::zz),hF⟩))):=kR
theorem Oe:au (xX s 156 wl k false) (ap s.P Tryz.f156) nS .norm ⟨[b,g,e,j,l,o,r,u,y,n,p,z,A,q,D,E,B,G,F,L,I,M,J,O,R,Q,N,Y,U,Z,W,X,T,t1,t2,t3,t4,t0,tf,te,tg,t6,t5,tb,t7,tc,t8,t9],h⟩ =
 bm (aV b h) h fun vF hG=>
 bm (aa s.P 168 vF 1) hG fun vI hI=>
 bm (ab s.P 23 vI hI) hI fun vG hH=>
 bm (aV b hH) hH fun vK hM=>
 bm (aa s.P 168 vK 3) hM fun vL hK=>
 bm (ab s.P 26 vL hK) hK fun vN hL=>
 bm (aV b hL) hL fun vO hQ=>
 bm (aa s.P 168 vO 0) hQ fun vR ha=>
 bm (aa s.P 65 vR 2) ha fun vU hN=>
 bm (ab s.P 55 vU hN) hN fun vl hz=>
 bp (yC s k wl 156 false true j [vG,vN,vl] hz) fun vS hR=>
 bm (aq vS 0) hR fun ve hq=>
 bm (aq vS 1) hq fun vr h46=>
 bm (aV b h46) h46 fun v47 h48=>
 bm (aa s.P 168 v47 3) h48 fun vo h50=>
 bs (aj s.P wl 26 vo ve h50) fun hJ=>
 bm (aV b hJ) hJ fun vH hV=>
 bm (aa s.P 168 vH 0) hV fun vJ hO=>
 bm (aa s.P 65 vJ 2) hO fun vV hk=>
 bs (aj s.P wl 55 vV vr hk) fun hW=>
 bm (aV b hW) hW fun vZ hs=>
 bm (aa s.P 168 vZ 0) hs fun v61 h62=>
 bm (aa s.P 65 v61 2) h62 fun v63 h64=>
 bm (ab s.P 55 v63 h64) h64 fun v65 h66=>
 bp (yC s k wl 156 false true (.fn (.func 110) [] []) [v65] h66) fun v67 h68=>
 some (v67,h68):=kR
theorem uY (cx:Cx) (s:St):au cx K uE .ret s=K .ret s:=by kernel_rfl
theorem wd (cx:Cx) (s:St):au cx K nS .ret s=K .ret s:=by kernel_rfl
-- names: aby,Mo,Oe,uY,wd
theorem aa2:ak (xX s 157 wl k false) Tryz.f157 [b,g] h =
 bm (bf s.P 55 []) h fun v1 h2=>
 bm (aV b h2) h2 fun v3 h4=>
 bm (aa s.P 168 v3 0) h4 fun v5 h6=>
 bm (aa s.P 65 v5 0) h6 fun v7 h8=>
 bs (aj s.P wl 3 v7 g h8) fun h9=>
 bm (aV b h9) h9 fun vz h11=>
 bm (aa s.P 168 vz 0) h11 fun v12 h13=>
 bm (aa s.P 65 v12 2) h13 fun v14 hu=>
 bs (aj s.P wl 55 v14 v1 hu) fun hC=>
 some (.tup [],hC):=kB
theorem ahg:evF Tryz.prog xM (k+1) wl 157 [b,g] h=ak (xX (xS k) 157 wl k false) Tryz.f157 [b,g] h:=by kernel_rfl
-- names: aa2,
theorem ad7:ak (xX s 158 wl k false) Tryz.f158 [b,g] h =
 bm (aV b h) h fun v1 h2=>
 bm (aa s.P 168 v1 2) h2 fun v3 h4=>
 bm (ab s.P 24 v3 h4) h4 fun v5 h6=>
 bm (aV b h6) h6 fun v7 h8=>
 bm (aa s.P 168 v7 0) h8 fun v9 hA=>
 bm (aa s.P 65 v9 1) hA fun vC hB=>
 bm (ab s.P 63 vC hB) hB fun vB hD=>
 bm (fY s.P 46 3 g) hD fun vE hC=>
 bp (yC s k wl 158 false true (.fn (.func 181) [] []) [v5,vB,vE] hC) fun vD hE=>
 bm (aV b hE) hE fun vA hF=>
 bm (aa s.P 168 vA 0) hF fun vF hG=>
 bm (aa s.P 65 vF 1) hG fun vI hI=>
 bs (aj s.P wl 63 vI vD hI) fun hZ=>
 bm (fY s.P 46 3 g) hZ fun vx hp=>
 bp (yC s k wl 158 false true (.fn (.func 164) [] []) [b,(.lit (.int .i64 2)),vx] hp) fun vT hx=>
 some (.tup [],hx):=kB
theorem afU:evF Tryz.prog xM (k+1) wl 158 [b,g] h=ak (xX (xS k) 158 wl k false) Tryz.f158 [b,g] h:=by kernel_rfl
-- names: ad7,
theorem aaS:ak (xX s 159 wl k false) Tryz.f159 [b,g,e] h =
 bm (aV b h) h fun v1 h2=>
 bm (aa s.P 168 v1 3) h2 fun v3 h4=>
 bm (ab s.P 26 v3 h4) h4 fun v5 h6=>
 bp (yC s k wl 159 false true (.fn (.func 138) [] []) [v5,g,e] h6) fun v7 h8=>
 bm (aq v7 0) h8 fun v9 hA=>
 bm (aq v7 1) hA fun vC hB=>
 bm (aV b hB) hB fun vB hD=>
 bm (aa s.P 168 vB 3) hD fun vE hC=>
 bs (aj s.P wl 26 vE v9 hC) fun hv=>
 some (vC,hv):=kB
theorem ahN:evF Tryz.prog xM (k+1) wl 159 [b,g,e] h=ak (xX (xS k) 159 wl k false) Tryz.f159 [b,g,e] h:=by kernel_rfl
-- names: aaS,
theorem ac0:ak (xX s 160 wl k false) Tryz.f160 [b,g,e,j,l] h =
 bp (yC s k wl 160 false true (.fn (.func 104) [] []) [e,j,l] h) fun v1 h2=>
 bm (aV b h2) h2 fun v3 h4=>
 bm (aa s.P 168 v3 0) h4 fun v5 h6=>
 bm (aa s.P 65 v5 0) h6 fun v7 h8=>
 bs (aj s.P wl 3 v7 g h8) fun h9=>
 bm (aV b h9) h9 fun vz h11=>
 bm (aa s.P 168 vz 0) h11 fun v12 h13=>
 bm (aa s.P 65 v12 2) h13 fun v14 hu=>
 bs (aj s.P wl 55 v14 v1 hu) fun hC=>
 some (.tup [],hC):=kB
theorem agb:evF Tryz.prog xM (k+1) wl 160 [b,g,e,j,l] h=ak (xX (xS k) 160 wl k false) Tryz.f160 [b,g,e,j,l] h:=by kernel_rfl
-- names: ac0,
theorem adh:ak (xX s 164 wl k false) Tryz.f164 [b,g,e] h =
 stO h.length b (
 bm (aV b h) h fun v1 h2=>
 bm (aa s.P 168 v1 6) h2 fun v3 h4=>
 stO h.length v3 (
 bm (ab s.P 34 v3 h4) h4 fun v5 h6=>
 bm (aV b h6) h6 fun v7 h8=>
 bm (aa s.P 168 v7 4) h8 fun v9 hA=>
 bm (ab s.P 3 v9 hA) hA fun vC hB=>
 bm (bf s.P 52 [(0,g),(1,e),(2,vC)]) hB fun vB hD=>
 bp (cX s.P wl 34 1 [(0,vB)] hD) fun vE hC=>
 bp (kQ s.P wl 34 34 v5 vE hC) fun vD hE=>
 bm (aV b hE) hE fun vA hF=>
 bm (aa s.P 168 vA 6) hF fun vF hG=>
 bs (aj s.P wl 34 vF vD hG) fun hj=>
 some (.tup [],hj))):=kB
theorem ahq:evF Tryz.prog xM (k+1) wl 164 [b,g,e] h=ak (xX (xS k) 164 wl k false) Tryz.f164 [b,g,e] h:=by kernel_rfl
-- names: adh,
noncomputable def dI:Code:=al (am Tryz.f95) [1,0]
noncomputable def dB:List Fr:=[.seq (al (am Tryz.f95) [1,1])]
theorem ajC:ak (xX s 95 wl k false) Tryz.f95 [b,g,e,j,l] h =
 bp (aP b h) fun v1 h2=>
 bp (aP l h2) fun v3 h4=>
 bm (ab s.P 23 v1 h4) h4 fun v5 h6=>
 bp (yC s k wl 95 false true (.fn (.func 50) [] []) [v5] h6) fun v7 h8=>
 gd v7 (
 bp (a7 s.P 26 e h8) fun v9 hA=>
 bm (ab s.P 23 v1 hA) hA fun vC hB=>
 bp (yC s k wl 95 false true (.fn (.func 103) [] []) [vC] hB) fun vB hD=>
 bm (aw s.P .eql 3 v9 vB) hD fun vE hC=>
 yO s k wl 95 Tryz.f95 dI 8 h4.length ([],[]) dB ⟨[b,g,e,j,l,v1,uu,uu,uu,v3,(.lit (.bool false)),v5,v7,(.lit (.bool true)),e,v9,vC,vB,vE,uu,uu,uu,uu,uu,uu,uu,uu,uu,uu,uu,uu,uu,uu,uu,uu,uu,uu,uu,uu,uu,uu,uu,uu,uu,uu,uu,uu,uu,uu,uu],hC⟩) (
 yO s k wl 95 Tryz.f95 dI 8 h4.length ([],[]) dB ⟨[b,g,e,j,l,v1,uu,uu,uu,v3,(.lit (.bool false)),v5,v7,(.lit (.bool false)),uu,uu,uu,uu,uu,uu,uu,uu,uu,uu,uu,uu,uu,uu,uu,uu,uu,uu,uu,uu,uu,uu,uu,uu,uu,uu,uu,uu,uu,uu,uu,uu,uu,uu,uu,uu],h8⟩) (
 yO s k wl 95 Tryz.f95 dI 4 h4.length ([],[]) dB ⟨[b,g,e,j,l,v1,uu,uu,uu,v3,(.lit (.bool false)),v5,v7,v7,uu,uu,uu,uu,uu,uu,uu,uu,uu,uu,uu,uu,uu,uu,uu,uu,uu,uu,uu,uu,uu,uu,uu,uu,uu,uu,uu,uu,uu,uu,uu,uu,uu,uu,uu,uu],h8⟩):=kB
theorem akz:evF Tryz.prog xM (k+1) wl 95 [b,g,e,j,l] h=ak (xX (xS k) 95 wl k false) Tryz.f95 [b,g,e,j,l] h:=by kernel_rfl
theorem Ur:yO s k wl 95 Tryz.f95 dI 8 m0 ac dB ⟨(b::g::e::j::l::o::r::u::y::n::p::z::A::q::D::E::B::G::F::L::I::M::J::zz),h⟩ =
 bm (aR q F (.lit (.bool false))) h fun vD hE=>
 gd vD (
 bp (yC s k wl 95 false true (.fn (.func 56) [] []) [g] hE) fun vA hF=>
 yO s k wl 95 Tryz.f95 dI 12 m0 ac dB ⟨(b::g::e::j::l::o::r::u::y::n::p::z::A::q::D::E::B::G::F::vD::(.lit (.bool true))::g::vA::zz),hF⟩) (
 yO s k wl 95 Tryz.f95 dI 12 m0 ac dB ⟨(b::g::e::j::l::o::r::u::y::n::p::z::A::q::D::E::B::G::F::vD::(.lit (.bool false))::uu::uu::zz),hE⟩) (
 yO s k wl 95 Tryz.f95 dI 11 m0 ac dB ⟨(b::g::e::j::l::o::r::u::y::n::p::z::A::q::D::E::B::G::F::vD::vD::uu::J::zz),hE⟩):=kG
theorem SR:yO s k wl 95 Tryz.f95 dI 12 m0 ac dB ⟨(b::g::e::j::l::o::r::u::y::n::p::z::A::q::D::E::B::G::F::L::I::M::J::O::R::Q::N::zz),h⟩ =
 bm (aR I J (.lit (.bool false))) h fun vF hG=>
 gd vF (
 bm (aw s.P .geq 3 j (.lit (.int .i64 0))) hG fun vI hI=>
 yO s k wl 95 Tryz.f95 dI 16 m0 ac dB ⟨(b::g::e::j::l::o::r::u::y::n::p::z::A::q::D::E::B::G::F::L::I::M::J::vF::(.lit (.bool true))::j::vI::zz),hI⟩) (
 yO s k wl 95 Tryz.f95 dI 16 m0 ac dB ⟨(b::g::e::j::l::o::r::u::y::n::p::z::A::q::D::E::B::G::F::L::I::M::J::vF::(.lit (.bool false))::uu::uu::zz),hG⟩) (
 yO s k wl 95 Tryz.f95 dI 15 m0 ac dB ⟨(b::g::e::j::l::o::r::u::y::n::p::z::A::q::D::E::B::G::F::L::I::M::J::vF::vF::uu::N::zz),hG⟩):=kG
theorem TL:yO s k wl 95 Tryz.f95 dI 16 m0 ac dB ⟨(b::g::e::j::l::o::r::u::y::n::p::z::A::q::D::E::B::G::F::L::I::M::J::O::R::Q::N::Y::U::Z::W::X::T::zz),h⟩ =
 bm (aR R N (.lit (.bool false))) h fun vG hH=>
 gd vG (
 bm (aa s.P 23 o 0) hH fun vK hM=>
 bm (ab s.P 3 vK hM) hM fun vL hK=>
 bm (aw s.P .lss 3 j vL) hK fun vN hL=>
 yO s k wl 95 Tryz.f95 dI 22 m0 ac dB ⟨(b::g::e::j::l::o::r::u::y::n::p::z::A::q::D::E::B::G::F::L::I::M::J::O::R::Q::N::vG::(.lit (.bool true))::j::vK::vL::vN::zz),hL⟩) (
 yO s k wl 95 Tryz.f95 dI 22 m0 ac dB ⟨(b::g::e::j::l::o::r::u::y::n::p::z::A::q::D::E::B::G::F::L::I::M::J::O::R::Q::N::vG::(.lit (.bool false))::uu::uu::uu::uu::zz),hH⟩) (
 yO s k wl 95 Tryz.f95 dI 19 m0 ac dB ⟨(b::g::e::j::l::o::r::u::y::n::p::z::A::q::D::E::B::G::F::L::I::M::J::O::R::Q::N::vG::vG::uu::W::X::T::zz),hH⟩):=kG
theorem TD:yO s k wl 95 Tryz.f95 dI 22 m0 ac dB ⟨[b,g,e,j,l,o,r,u,y,n,p,z,A,q,D,E,B,G,F,L,I,M,J,O,R,Q,N,Y,U,Z,W,X,T,t1,t2,t3,t4,t0,tf,te,tg,t6,t5,tb,t7,tc,t8,t9,td,ta],h⟩ =
 bm (aR U T (.lit (.bool false))) h fun vO hQ=>
 gd vO (
 bm (aa s.P 65 n 0) hQ fun vR ha=>
 bm (ab s.P 3 vR ha) ha fun vU hN=>
 bm (aw s.P .geq 3 vU (.lit (.int .i64 0))) hN fun vl hz=>
 yO s k wl 95 Tryz.f95 dI 27 m0 ac dB ⟨[b,g,e,j,l,o,r,u,y,n,p,z,A,q,D,E,B,G,F,L,I,M,J,O,R,Q,N,Y,U,Z,W,X,T,vO,(.lit (.bool true)),vR,vU,vl,tf,te,tg,t6,t5,tb,t7,tc,t8,t9,td,ta],hz⟩) (
 yO s k wl 95 Tryz.f95 dI 27 m0 ac dB ⟨[b,g,e,j,l,o,r,u,y,n,p,z,A,q,D,E,B,G,F,L,I,M,J,O,R,Q,N,Y,U,Z,W,X,T,vO,(.lit (.bool false)),uu,uu,uu,tf,te,tg,t6,t5,tb,t7,tc,t8,t9,td,ta],hQ⟩) (
 yO s k wl 95 Tryz.f95 dI 25 m0 ac dB ⟨[b,g,e,j,l,o,r,u,y,n,p,z,A,q,D,E,B,G,F,L,I,M,J,O,R,Q,N,Y,U,Z,W,X,T,vO,vO,uu,t4,t0,tf,te,tg,t6,t5,tb,t7,tc,t8,t9,td,ta],hQ⟩):=kG
theorem TE:yO s k wl 95 Tryz.f95 dI 27 m0 ac dB ⟨[b,g,e,j,l,o,r,u,y,n,p,z,A,q,D,E,B,G,F,L,I,M,J,O,R,Q,N,Y,U,Z,W,X,T,t1,t2,t3,t4,t0,tf,te,tg,t6,t5,tb,t7,tc,t8,t9,td,ta],h⟩ =
 bm (aR t2 t0 (.lit (.bool false))) h fun vS hR=>
 gd vS (
 bm (aa s.P 65 n 0) hR fun ve hq=>
 bm (ab s.P 3 ve hq) hq fun vr h46=>
 bm (aw s.P .lss 3 vr (.lit (.int .i64 16))) h46 fun v47 h48=>
 yO s k wl 95 Tryz.f95 dI 32 m0 ac dB ⟨[b,g,e,j,l,o,r,u,y,n,p,z,A,q,D,E,B,G,F,L,I,M,J,O,R,Q,N,Y,U,Z,W,X,T,t1,t2,t3,t4,t0,vS,(.lit (.bool true)),ve,vr,v47,tb,t7,tc,t8,t9,td,ta],h48⟩) (
 yO s k wl 95 Tryz.f95 dI 32 m0 ac dB ⟨[b,g,e,j,l,o,r,u,y,n,p,z,A,q,D,E,B,G,F,L,I,M,J,O,R,Q,N,Y,U,Z,W,X,T,t1,t2,t3,t4,t0,vS,(.lit (.bool false)),uu,uu,uu,tb,t7,tc,t8,t9,td,ta],hR⟩) (
 yO s k wl 95 Tryz.f95 dI 30 m0 ac dB ⟨[b,g,e,j,l,o,r,u,y,n,p,z,A,q,D,E,B,G,F,L,I,M,J,O,R,Q,N,Y,U,Z,W,X,T,t1,t2,t3,t4,t0,vS,vS,uu,t6,t5,tb,t7,tc,t8,t9,td,ta],hR⟩):=kG
theorem T7:yO s k wl 95 Tryz.f95 dI 32 m0 ac dB ⟨[b,g,e,j,l,o,r,u,y,n,p,z,A,q,D,E,B,G,F,L,I,M,J,O,R,Q,N,Y,U,Z,W,X,T,t1,t2,t3,t4,t0,tf,te,tg,t6,t5,tb,t7,tc,t8,t9,td,ta],h⟩ =
 bm (aR te t5 (.lit (.bool false))) h fun vo h50=>
 gd vo (
 bm (aa s.P 65 n 1) h50 fun v51 h52=>
 bm (ab s.P 63 v51 h52) h52 fun v53 he=>
 bp (yC s k wl 95 false true (.fn (.func 146) [] []) [g,v53] he) fun vt h56=>
 yO s k wl 95 Tryz.f95 dI 38 m0 ac dB ⟨[b,g,e,j,l,o,r,u,y,n,p,z,A,q,D,E,B,G,F,L,I,M,J,O,R,Q,N,Y,U,Z,W,X,T,t1,t2,t3,t4,t0,tf,te,tg,t6,t5,vo,(.lit (.bool true)),g,v51,v53,vt,ta],h56⟩) (
 yO s k wl 95 Tryz.f95 dI 38 m0 ac dB ⟨[b,g,e,j,l,o,r,u,y,n,p,z,A,q,D,E,B,G,F,L,I,M,J,O,R,Q,N,Y,U,Z,W,X,T,t1,t2,t3,t4,t0,tf,te,tg,t6,t5,vo,(.lit (.bool false)),uu,uu,uu,uu,ta],h50⟩) (
 yO s k wl 95 Tryz.f95 dI 35 m0 ac dB ⟨[b,g,e,j,l,o,r,u,y,n,p,z,A,q,D,E,B,G,F,L,I,M,J,O,R,Q,N,Y,U,Z,W,X,T,t1,t2,t3,t4,t0,tf,te,tg,t6,t5,vo,vo,uu,t8,t9,td,ta],h50⟩):=kG
theorem Tx:yO s k wl 95 Tryz.f95 dI 38 m0 ac dB ⟨[b,g,e,j,l,o,r,u,y,n,p,z,A,q,D,E,B,G,F,L,I,M,J,O,R,Q,N,Y,U,Z,W,X,T,t1,t2,t3,t4,t0,tf,te,tg,t6,t5,tb,t7,tc,t8,t9,td,ta],h⟩ =
 bm (aR t7 td (.lit (.bool false))) h fun vu hW=>
 some (vu,hW):=kG
theorem A6 (cx:Cx) (s:St):au cx K dB .ret s=K .ret s:=by kernel_rfl
-- names: ajC,Ur,SR,TL,TD,TE,T7,Tx,A6
end
end Go.Ab
