import Derived.Test.YtblpbpnilkfjhaaGreatR6Seat
import Derived.Test.YtblpbpnilkfjhaaGreatAbLibC
set_option linter.unusedVariables false
set_option linter.unusedSimpArgs false
set_option maxRecDepth 100000
set_option linter.unusedVariables false
namespace Go.Ab
open Go.Proofs
section
variable (s:Sys) (k wl:Nat) (m0:Nat) (ac:List Nat×List Nat) (b a d l q g r i j u v z A o B D E F p G I J L M N O Q R T U Y Z t0 t1 t2 t3 t4 t5 t6 t7 t8 W t9 ta X th tb tc td te tf tg ti tj tk tl tm tn tp tq tr ts tt tu tv tw tx ty tz tA tB tC tD tE tF tG tH tI tJ tK tL tM tN tO tP tQ tR tS tT tU tV tW tX tY tZ q0 q1 q2 q3 q4 q5 q6 q7 q8 q9 qa qb qc qd qe qf qg qh qi qj qk ql qm qn qo qp qq qr qs qt qu:V) (h:Hp) (K:Out→St→Option (V×Hp)) (rd:Bool) (n n0:Nat) (zz:List V)
noncomputable def CL:List Fr:=[.seq (al (am Tryz.f134) [1,0,1,0,1,1,1]),.block 0,.seq (al (am Tryz.f134) [1,1])]
theorem ZE:ak (xX s 134 wl k false) Tryz.f134 [b,a,d] h =
 bp (aP b h) fun v1 h2=>
 bp (aP d h2) fun v3 h4=>
 bp (some (.own h4.length 0 0,h4++[.rows 0 [] 0 true])) fun v5 h6=>
 bp (av s.P 55 h6) fun v7 h8=>
 bm (aa s.P 55 v3 0) h8 fun v9 hA=>
 bm (ab s.P 3 v9 hA) hA fun vC hG=>
 bm (aw s.P .eql 3 vC (.lit (.int .i64 5))) hG fun vE hB=>
 cnd vE (
 bm (ab s.P 23 v1 hB) hB fun vF hE=>
 bm (ab s.P 55 v3 hE) hE fun vB hD=>
 bp (yC s k wl 134 false true (.fn (.func 165) [] []) [vF,a,vB] hD) fun vM hH=>
 bm (aq vM 0) hH fun vi hT=>
 bm (aq vM 1) hT fun vj hU=>
 bs (aj s.P wl 55 v7 vj hU) fun hI=>
 ew [some vi,ab s.P 55 v7 hI] hI) (
 bm (aw s.P .eql 3 vC (.lit (.int .i64 6))) hB fun vA hC=>
 cnd vA (
 au (xX s 134 wl k false) (ap s.P Tryz.f134) CL .norm ⟨[b,a,d,v1,uu,v3,v5,v7,v9,vC,vE,vE,uu,uu,uu,uu,uu,uu,vA,vA,uu,uu,uu,uu,uu,uu,uu,uu,uu,uu],hC⟩) (
 bm (aw s.P .eql 3 vC (.lit (.int .i64 7))) hC fun vP hL=>
 au (xX s 134 wl k false) (ap s.P Tryz.f134) CL .norm ⟨[b,a,d,v1,uu,v3,v5,v7,v9,vC,vE,vE,uu,uu,uu,uu,uu,uu,vP,vA,vP,uu,uu,uu,uu,uu,uu,uu,uu,uu],hL⟩)):=kB
theorem ahB:evF Tryz.prog xM (k+1) wl 134 [b,a,d] h=ak (xX (xS k) 134 wl k false) Tryz.f134 [b,a,d] h:=by kernel_rfl
theorem Lg:au (xX s 134 wl k false) (ap s.P Tryz.f134) CL .norm ⟨[b,a,d,l,q,g,r,i,j,u,v,z,A,o,B,D,E,F,p,G,I,J,L,M,N,O,Q,R,T,U],h⟩ =
 cnd p (
 bm (ab s.P 23 l h) h fun vR hM=>
 bm (ab s.P 55 g hM) hM fun vk ho=>
 bp (yC s k wl 134 false true (.fn (.func 166) [] []) [vR,a,vk] ho) fun vs hJ=>
 bm (aq vs 0) hJ fun vD hF=>
 bm (aq vs 1) hF fun vL hV=>
 bs (aj s.P wl 55 i vL hV) fun hK=>
 ew [some vD,ab s.P 55 i hK] hK) (
 bp (yC s k wl 134 true true (.fn (.func 76) [] []) [a] h) fun vl hN=>
 stO h.length g (
 bm (ab s.P 55 g hN) hN fun v43 hp=>
 bs (aj s.P wl 55 i v43 hp) fun hW=>
 ew [some vl,ab s.P 55 i hW] hW)):=kR
theorem wz (cx:Cx) (s:St):au cx K CL .ret s=K .ret s:=by kernel_rfl
-- names: ZE,Lg,wz
theorem abg:ak (xX s 135 wl k false) Tryz.f135 [b,a,d] h =
 bp (aP b h) fun v1 h2=>
 bp (aP d h2) fun v3 h4=>
 bp (some (.own h4.length 0 0,h4++[.rows 0 [] 0 true])) fun v5 h6=>
 bp (av s.P 55 h6) fun v7 h8=>
 bm (aa s.P 55 v3 0) h8 fun v9 hA=>
 bm (ab s.P 3 v9 hA) hA fun vC hG=>
 bm (aw s.P .eql 3 vC (.lit (.int .i64 3))) hG fun vE hB=>
 cnd vE (
 bm (ab s.P 23 v1 hB) hB fun vF hE=>
 bm (ab s.P 55 v3 hE) hE fun vB hD=>
 bp (yC s k wl 135 false true (.fn (.func 167) [] []) [vF,a,vB] hD) fun vM hH=>
 bm (aq vM 0) hH fun vi hT=>
 bm (aq vM 1) hT fun vj hU=>
 bs (aj s.P wl 55 v7 vj hU) fun hI=>
 ew [some vi,ab s.P 55 v7 hI] hI) (
 bm (aw s.P .eql 3 vC (.lit (.int .i64 4))) hB fun vA hC=>
 cnd vA (
 bm (ab s.P 23 v1 hC) hC fun vP hL=>
 bm (ab s.P 55 v3 hL) hL fun vR hM=>
 bp (yC s k wl 135 false true (.fn (.func 168) [] []) [vP,a,vR] hM) fun vk ho=>
 bm (aq vk 0) ho fun vs hJ=>
 bm (aq vk 1) hJ fun vD hF=>
 bs (aj s.P wl 55 v7 vD hF) fun hq=>
 ew [some vs,ab s.P 55 v7 hq] hq) (
 bp (yC s k wl 135 true true (.fn (.func 76) [] []) [a] hC) fun v39 hK=>
 stO hC.length v3 (
 bm (ab s.P 55 v3 hK) hK fun vl hN=>
 bs (aj s.P wl 55 v7 vl hN) fun hd=>
 ew [some v39,ab s.P 55 v7 hd] hd))):=kB
theorem aiv:evF Tryz.prog xM (k+1) wl 135 [b,a,d] h=ak (xX (xS k) 135 wl k false) Tryz.f135 [b,a,d] h:=by kernel_rfl
-- names: abg,
noncomputable def wZ:List Fr:=[.block 0,.seq (al (am Tryz.f166) [1,1,1,1])]
noncomputable def C9:List Fr:=[.seq (al (am Tryz.f166) [1,1,1,0,0,1,1,1,1,1,0,1,1]),.block 0,.seq (al (am Tryz.f166) [1,1,1,1])]
noncomputable def BK:Code:=al (am Tryz.f166) [1,1,1,0,0,1,1,1,1,1,1,1,0,1,0]
noncomputable def u2:List Fr:=[.seq (al (am Tryz.f166) [1,1,1,0,0,1,1,1,1,1,1,1,0,1,1]),.seq (al (am Tryz.f166) [1,1,1,0,0,1,1,1,1,1,1,1,1]),.block 0,.seq (al (am Tryz.f166) [1,1,1,1])]
theorem acK:ak (xX s 166 wl k false) Tryz.f166 [b,a,d] h =
 bp (aP b h) fun v1 h2=>
 bp (aP d h2) fun v3 h4=>
 bp (some (.own h4.length 0 0,h4++[.rows 0 [] 0 true])) fun v5 h6=>
 bp (av s.P 55 h6) fun v7 h8=>
 bp (yC s k wl 166 false true (.fn (.func 76) [] []) [a] h8) fun v9 hA=>
 bm (ab s.P 23 v1 hA) hA fun vC hG=>
 bm (ab s.P 55 v3 hG) hG fun vE hB=>
 bp (yC s k wl 166 false true (.fn (.func 189) [] []) [vC,a,vE] hB) fun vF hE=>
 bm (vUn .not vF) hE fun vB hD=>
 cnd vB (
 bm (ab s.P 55 v3 hD) hD fun vM hH=>
 bs (aj s.P wl 55 v7 vM hH) fun hr=>
 ew [some v9,ab s.P 55 v7 hr] hr) (
 bm (aa s.P 55 v3 1) hD fun vJ hs=>
 bm (ab s.P 3 vJ hs) hs fun vG hI=>
 bm (aw s.P .eql 3 vG (.lit (.int .i64 0))) hI fun vA hC=>
 cnd vA (
 bp (yC s k wl 166 false true (.fn (.func 27) [] []) [v9,(.lit (.int .i64 2))] hC) fun vP hL=>
 bm (aa s.P 55 v3 4) hL fun vR hM=>
 bs (aj s.P wl 46 vR vP hM) fun he=>
 bm (aa s.P 55 v3 1) he fun vm ht=>
 bs (aj s.P wl 3 vm (.lit (.int .i64 1)) ht) fun hJ=>
 au (xX s 166 wl k false) (ap s.P Tryz.f166) wZ .norm ⟨(b::a::d::v1::uu::v3::v5::v7::v9::uu::uu::uu::uu::uu::a::v9::vC::a::vE::vF::vB::uu::uu::uu::uu::uu::uu::uu::uu::uu::uu::uu::uu::uu::uu::uu::uu::uu::uu::uu::uu::uu::uu::uu::uu::uu::uu::uu::uu::uu::uu::uu::uu::uu::uu::uu::uu::uu::uu::vA::vJ::vG::vA::v9::vP::vR::vm::uu::uu::uu::uu::uu::uu::uu::uu::uu::uu::uu::uu::uu::uu::uu::uu::uu::uu::uu::uu::uu::uu::uu::uu::uu::uu::uu::uu::uu::uu::uu::uu::uu::uu::uu::uu::uu::uu::uu::uu::uu::uu::uu::uu::uu::uu::uu::uu::uu::uu::uu::uu::uu::uu::uu::uu::uu::uu::uu::[]),hJ⟩) (
 bm (aa s.P 55 v3 1) hC fun vD hF=>
 bm (ab s.P 3 vD hF) hF fun vL hV=>
 bm (aw s.P .eql 3 vL (.lit (.int .i64 1))) hV fun vK hX=>
 cnd vK (
 bp (yC s k wl 166 true true (.fn (.func 190) [] []) [] hX) fun vn hd=>
 bm (aa s.P 55 v3 0) hd fun vh hW=>
 stO hX.length vh (
 bm (ab s.P 3 vh hW) hW fun vo hz=>
 bm (gD s.P 212 vn vo false hz) hz fun vp hf=>
 bm (aa s.P 55 v3 4) hf fun v50 hY=>
 stO hX.length v50 (
 bm (ab s.P 46 v50 hY) hY fun vt hO=>
 bp (yC s k wl 166 false true vp [vt] hO) fun vN hP=>
 bm (aq vN 0) hP fun vS hg=>
 bm (aq vN 1) hg fun vT hh=>
 bm (aa s.P 55 v3 4) hh fun vd hZ=>
 bm (ab s.P 46 vd hZ) hZ fun vq h63=>
 bp (yC s k wl 166 false true (.fn (.func 191) [] []) [v9,(.lit (.int .i64 2)),vq,vS] h63) fun ve h65=>
 bm (aq ve 0) h65 fun vH h67=>
 bm (aq ve 1) h67 fun vf h69=>
 bm (aa s.P 55 v3 1) h69 fun v70 h71=>
 bs (aj s.P wl 3 v70 (.lit (.int .i64 0)) h71) fun h72=>
 bm (vUn .not vf) h72 fun vu ha=>
 cnd vu (
 bm (ab s.P 55 v3 ha) ha fun v75 h76=>
 bs (aj s.P wl 55 v7 v75 h76) fun h77=>
 ew [some vH,ab s.P 55 v7 h77] h77) (
 bm (aa s.P 55 v3 4) ha fun v78 h79=>
 bm (ab s.P 46 v78 h79) h79 fun vQ h81=>
 bp (yC s k wl 166 false true (.fn (.func 192) [] []) [vQ] h81) fun vv h83=>
 bm (aw s.P .eql 46 vv (.lit (.int .u64 0))) h83 fun v84 h85=>
 cnd v84 (
 bm (ab s.P 55 v3 h85) h85 fun v86 h87=>
 bp (yC s k wl 166 false true (.fn (.func 193) [] []) [v86,(.lit (.int .i64 3)),(.lit (.int .u64 0))] h87) fun v88 h89=>
 bs (aj s.P wl 55 v7 v88 h89) fun hu=>
 ew [some vH,ab s.P 55 v7 hu] hu) (
 bm (aa s.P 55 v3 5) h85 fun vw h92=>
 bs (aj s.P wl 46 vw vT h92) fun h93=>
 bm (aa s.P 55 v3 1) h93 fun v94 h95=>
 bs (aj s.P wl 3 v94 (.lit (.int .i64 2)) h95) fun h96=>
 au (xX s 166 wl k false) (ap s.P Tryz.f166) wZ .norm ⟨(b::a::d::v1::uu::v3::v5::v7::vH::vS::vT::vH::vf::uu::a::v9::vC::a::vE::vF::vB::uu::uu::uu::uu::uu::uu::uu::uu::uu::uu::uu::uu::uu::uu::uu::uu::uu::uu::uu::uu::uu::uu::uu::uu::uu::uu::uu::uu::uu::uu::uu::uu::uu::uu::uu::uu::uu::uu::vA::vJ::vG::vA::uu::uu::uu::uu::vK::vD::vL::vK::vN::vn::vh::vo::vp::v50::vt::vN::vS::vT::ve::v9::vd::vq::vS::ve::vH::vf::vH::v70::vf::vu::uu::uu::v78::vQ::vv::v84::uu::uu::uu::vT::vw::v94::uu::uu::uu::uu::uu::uu::uu::uu::uu::uu::uu::uu::uu::uu::uu::uu::uu::uu::uu::uu::uu::[]),h96⟩))))) (
 bm (aa s.P 55 v3 0) hX fun vU h98=>
 bm (ab s.P 3 vU h98) h98 fun vO hi=>
 bm (aw s.P .eql 3 vO (.lit (.int .i64 6))) hi fun vI hQ=>
 cnd vI (
 bm (aa s.P 55 v3 5) hQ fun v103 h104=>
 bm (ab s.P 46 v103 h104) h104 fun v105 h106=>
 bm (aw s.P .lss 46 v105 (.lit (.int .u64 8))) h106 fun v107 h108=>
 cnd v107 (
 bm (aa s.P 55 v3 5) h108 fun v109 h110=>
 bm (ab s.P 46 v109 h110) h110 fun v111 h112=>
 bm (fY s.P 46 3 v111) h112 fun v113 h114=>
 au (xX s 166 wl k false) (ap s.P Tryz.f166) C9 .norm ⟨(b::a::d::v1::uu::v3::v5::v7::v9::uu::uu::uu::uu::v113::a::v9::vC::a::vE::vF::vB::uu::uu::uu::uu::uu::uu::uu::uu::uu::uu::uu::uu::uu::uu::uu::uu::uu::uu::uu::uu::uu::uu::uu::uu::uu::uu::uu::uu::uu::uu::uu::uu::uu::uu::uu::uu::uu::uu::vA::vJ::vG::vA::uu::uu::uu::uu::vK::vD::vL::vK::uu::uu::uu::uu::uu::uu::uu::uu::uu::uu::uu::uu::uu::uu::uu::uu::uu::uu::uu::uu::uu::uu::uu::uu::uu::uu::uu::uu::uu::uu::uu::uu::uu::uu::vI::vU::vO::vI::v103::v105::v107::v109::v111::v113::uu::uu::uu::uu::uu::uu::uu::uu::uu::uu::uu::[]),h114⟩) (
 au (xX s 166 wl k false) (ap s.P Tryz.f166) C9 .norm ⟨(b::a::d::v1::uu::v3::v5::v7::v9::uu::uu::uu::uu::(.lit (.int .i64 (-1)))::a::v9::vC::a::vE::vF::vB::uu::uu::uu::uu::uu::uu::uu::uu::uu::uu::uu::uu::uu::uu::uu::uu::uu::uu::uu::uu::uu::uu::uu::uu::uu::uu::uu::uu::uu::uu::uu::uu::uu::uu::uu::uu::uu::uu::vA::vJ::vG::vA::uu::uu::uu::uu::vK::vD::vL::vK::uu::uu::uu::uu::uu::uu::uu::uu::uu::uu::uu::uu::uu::uu::uu::uu::uu::uu::uu::uu::uu::uu::uu::uu::uu::uu::uu::uu::uu::uu::uu::uu::uu::uu::vI::vU::vO::vI::v103::v105::v107::uu::uu::uu::uu::uu::uu::uu::uu::uu::uu::uu::uu::uu::uu::[]),h108⟩)) (
 stO hQ.length v1 (
 bm (ab s.P 23 v1 hQ) hQ fun vy h116=>
 bm (aa s.P 55 v3 5) h116 fun vz hj=>
 bm (ab s.P 46 vz hj) hj fun vW hv=>
 bp (yC s k wl 166 true true (.fn (.func 195) [] []) [vW] hv) fun v121 h122=>
 bp (cX s.P wl 53 1 [(0,v121)] h122) fun v123 h124=>
 bp (yC s k wl 166 false true (.fn (.func 194) [] []) [vy,v9,v123] h124) fun vg h126=>
 bm (aa s.P 55 v3 5) h126 fun v127 h128=>
 bm (ab s.P 46 v127 h128) h128 fun v129 h130=>
 bp (yC s k wl 166 false true (.fn (.func 192) [] []) [v129] h130) fun v131 h132=>
 bm (aa s.P 55 v3 5) h132 fun v133 h134=>
 bs (aj s.P wl 46 v133 v131 h134) fun hR=>
 bm (aa s.P 55 v3 5) hR fun vX hk=>
 bm (ab s.P 46 vX hk) hk fun vY hw=>
 bm (aa s.P 55 v3 5) hw fun vZ hb=>
 bm (ab s.P 46 vZ hb) hb fun va hx=>
 bm (aw s.P .sub 46 va (.lit (.int .u64 1))) hx fun vb hl=>
 bm (aw s.P .and 46 vY vb) hl fun vc hy=>
 bm (aw s.P .eql 46 vc (.lit (.int .u64 0))) hy fun vV hc=>
 gd vV (
 yO s k wl 166 Tryz.f166 BK 11 hR.length ([],[]) u2 ⟨(b::a::d::v1::uu::v3::v5::v7::vg::uu::uu::uu::uu::uu::a::v9::vC::a::vE::vF::vB::uu::uu::vy::v9::vz::vW::v121::v123::vg::v127::v129::v131::v133::vX::vY::vZ::va::vb::vc::vV::(.lit (.bool true))::uu::uu::uu::uu::uu::uu::uu::uu::uu::uu::uu::uu::uu::uu::uu::uu::uu::vA::vJ::vG::vA::uu::uu::uu::uu::vK::vD::vL::vK::uu::uu::uu::uu::uu::uu::uu::uu::uu::uu::uu::uu::uu::uu::uu::uu::uu::uu::uu::uu::uu::uu::uu::uu::uu::uu::uu::uu::uu::uu::uu::uu::uu::uu::vI::vU::vO::vI::uu::uu::uu::uu::uu::uu::uu::uu::uu::uu::uu::uu::uu::uu::uu::uu::uu::[]),hc⟩) (
 bm (aa s.P 55 v3 5) hc fun v150 h151=>
 bm (ab s.P 46 v150 h151) h151 fun v152 hm=>
 bm (aw s.P .eql 46 v152 (.lit (.int .u64 0))) hm fun v154 h155=>
 yO s k wl 166 Tryz.f166 BK 11 hR.length ([],[]) u2 ⟨(b::a::d::v1::uu::v3::v5::v7::vg::uu::uu::uu::uu::uu::a::v9::vC::a::vE::vF::vB::uu::uu::vy::v9::vz::vW::v121::v123::vg::v127::v129::v131::v133::vX::vY::vZ::va::vb::vc::vV::(.lit (.bool false))::v150::v152::v154::uu::uu::uu::uu::uu::uu::uu::uu::uu::uu::uu::uu::uu::uu::vA::vJ::vG::vA::uu::uu::uu::uu::vK::vD::vL::vK::uu::uu::uu::uu::uu::uu::uu::uu::uu::uu::uu::uu::uu::uu::uu::uu::uu::uu::uu::uu::uu::uu::uu::uu::uu::uu::uu::uu::uu::uu::uu::uu::uu::uu::vI::vU::vO::vI::uu::uu::uu::uu::uu::uu::uu::uu::uu::uu::uu::uu::uu::uu::uu::uu::uu::[]),h155⟩) (
 yO s k wl 166 Tryz.f166 BK 9 hR.length ([],[]) u2 ⟨(b::a::d::v1::uu::v3::v5::v7::vg::uu::uu::uu::uu::uu::a::v9::vC::a::vE::vF::vB::uu::uu::vy::v9::vz::vW::v121::v123::vg::v127::v129::v131::v133::vX::vY::vZ::va::vb::vc::vV::vV::uu::uu::uu::uu::uu::uu::uu::uu::uu::uu::uu::uu::uu::uu::uu::uu::uu::vA::vJ::vG::vA::uu::uu::uu::uu::vK::vD::vL::vK::uu::uu::uu::uu::uu::uu::uu::uu::uu::uu::uu::uu::uu::uu::uu::uu::uu::uu::uu::uu::uu::uu::uu::uu::uu::uu::uu::uu::uu::uu::uu::uu::uu::uu::vI::vU::vO::vI::uu::uu::uu::uu::uu::uu::uu::uu::uu::uu::uu::uu::uu::uu::uu::uu::uu::[]),hc⟩)))))):=kB
theorem ah0:evF Tryz.prog xM (k+1) wl 166 [b,a,d] h=ak (xX (xS k) 166 wl k false) Tryz.f166 [b,a,d] h:=by kernel_rfl
theorem LV:au (xX s 166 wl k false) (ap s.P Tryz.f166) wZ .norm ⟨(b::a::d::l::q::g::r::i::j::u::v::z::A::o::B::D::E::F::p::G::I::J::L::M::N::O::Q::R::T::U::Y::Z::t0::t1::t2::t3::t4::t5::t6::t7::t8::W::t9::ta::X::th::tb::tc::td::te::tf::tg::ti::tj::tk::tl::tm::tn::tp::tq::tr::ts::tt::tu::tv::tw::tx::ty::tz::tA::tB::tC::tD::tE::tF::tG::tH::tI::tJ::tK::tL::tM::tN::tO::tP::tQ::tR::tS::tT::tU::tV::tW::tX::tY::tZ::q0::q1::q2::q3::q4::q5::q6::q7::q8::q9::qa::qb::qc::qd::qe::qf::qg::qh::qi::qj::qk::ql::qm::qn::qo::qp::qq::qr::qs::qt::qu::[]),h⟩ =
 bm (ab s.P 55 g h) h fun v156 h157=>
 bs (aj s.P wl 55 i v156 h157) fun h158=>
 ew [some j,ab s.P 55 i h158] h158:=kR
theorem M8:au (xX s 166 wl k false) (ap s.P Tryz.f166) C9 .norm ⟨(b::a::d::l::q::g::r::i::j::u::v::z::A::o::B::D::E::F::p::G::I::J::L::M::N::O::Q::R::T::U::Y::Z::t0::t1::t2::t3::t4::t5::t6::t7::t8::W::t9::ta::X::th::tb::tc::td::te::tf::tg::ti::tj::tk::tl::tm::tn::tp::tq::tr::ts::tt::tu::tv::tw::tx::ty::tz::tA::tB::tC::tD::tE::tF::tG::tH::tI::tJ::tK::tL::tM::tN::tO::tP::tQ::tR::tS::tT::tU::tV::tW::tX::tY::tZ::q0::q1::q2::q3::q4::q5::q6::q7::q8::q9::qa::qb::qc::qd::qe::qf::qg::qh::qi::qj::qk::ql::qm::qn::qo::qp::qq::qr::qs::qt::qu::[]),h⟩ =
 stO h.length l (
 bm (ab s.P 23 l h) h fun v159 h160=>
 bp (cX s.P wl 53 1 [(0,o)] h160) fun v161 h162=>
 bp (yC s k wl 166 true true (.fn (.func 194) [] []) [v159,j,v161] h162) fun v163 h164=>
 stO h.length g (
 bm (ab s.P 55 g h164) h164 fun v165 h166=>
 bm (aa s.P 55 g 5) h166 fun v167 h168=>
 stO h.length v167 (
 bm (ab s.P 46 v167 h168) h168 fun v169 h170=>
 bp (yC s k wl 166 false true (.fn (.func 193) [] []) [v165,(.lit (.int .i64 1)),v169] h170) fun v171 h172=>
 bs (aj s.P wl 55 i v171 h172) fun h173=>
 ew [some v163,ab s.P 55 i h173] h173))):=kR
theorem K3:yO s k wl 166 Tryz.f166 BK 11 m0 ac u2 ⟨(b::a::d::l::q::g::r::i::j::u::v::z::A::o::B::D::E::F::p::G::I::J::L::M::N::O::Q::R::T::U::Y::Z::t0::t1::t2::t3::t4::t5::t6::t7::t8::W::t9::ta::X::th::tb::tc::td::te::tf::tg::ti::tj::tk::tl::tm::tn::tp::zz),h⟩ =
 bm (aR W (.lit (.bool true)) X) h fun v174 hn=>
 cnd v174 (
 stO hn.length g (
 bm (ab s.P 55 g hn) hn fun v176 h177=>
 bm (aa s.P 55 g 4) h177 fun v178 h179=>
 bm (ab s.P 46 v178 h179) h179 fun v180 h181=>
 bp (yC s k wl 166 true true (.fn (.func 192) [] []) [v180] h181) fun v182 h183=>
 bp (yC s k wl 166 false true (.fn (.func 193) [] []) [v176,(.lit (.int .i64 1)),v182] h183) fun v184 h185=>
 bs (aj s.P wl 55 i v184 h185) fun h186=>
 ew [some j,ab s.P 55 i h186] h186)) (
 bm (aa s.P 55 g 5) hn fun v187 h188=>
 bm (ab s.P 46 v187 h188) h188 fun v189 h190=>
 bm (aa s.P 55 g 5) h190 fun v191 h192=>
 bm (ab s.P 46 v191 h192) h192 fun v193 h194=>
 bm (aw s.P .sub 46 v193 (.lit (.int .u64 1))) h194 fun v195 h196=>
 bm (aw s.P .and 46 v189 v195) h196 fun v197 h198=>
 bm (aa s.P 55 g 5) h198 fun v199 h200=>
 bs (aj s.P wl 46 v199 v197 h200) fun h201=>
 au (xX s 166 wl k false) (ap s.P Tryz.f166) wZ .norm ⟨(b::a::d::l::q::g::r::i::j::u::v::z::A::o::B::D::E::F::p::G::I::J::L::M::N::O::Q::R::T::U::Y::Z::t0::t1::t2::t3::t4::t5::t6::t7::t8::W::t9::ta::X::v174::tb::tc::td::te::tf::tg::v187::v189::v191::v193::v195::v197::v199::zz),h201⟩):=kJ [2]
theorem wF (cx:Cx) (s:St):au cx K wZ .ret s=K .ret s:=by kernel_rfl
theorem wp (cx:Cx) (s:St):au cx K C9 .ret s=K .ret s:=by kernel_rfl
theorem ww (cx:Cx) (s:St):au cx K u2 .ret s=K .ret s:=by kernel_rfl
-- names: acK,LV,M8,K3,wF,wp,ww
theorem ack:ak (xX s 167 wl k false) Tryz.f167 [b,a,d] h =
 bp (aP b h) fun v1 h2=>
 bp (aP d h2) fun v3 h4=>
 bp (some (.own h4.length 0 0,h4++[.rows 0 [] 0 true])) fun v5 h6=>
 bp (av s.P 55 h6) fun v7 h8=>
 stO h8.length v3 (
 bm (ab s.P 55 v3 h8) h8 fun v9 hA=>
 stO h8.length v1 (
 bm (ab s.P 23 v1 hA) hA fun vC hG=>
 bp (yC s k wl 167 true true (.fn (.func 76) [] []) [a] hG) fun vE hB=>
 bm (bf s.P 221 [(0,v9),(1,vC),(2,vE)]) hB fun vF hE=>
 bp (aP vF hE) fun vB hD=>
 bm (ab s.P 23 v1 hD) hD fun vM hH=>
 bm (ab s.P 55 v3 hH) hH fun vi hT=>
 bp (yC s k wl 167 false true (.fn (.func 196) [] []) [vM,a,vi,(.lit (.int .i64 3))] hT) fun vj hU=>
 bm (vUn .not vj) hU fun v25 h26=>
 cnd v25 (
 bm (aV vB h26) h26 fun v27 h28=>
 bm (aa s.P 221 v27 2) h28 fun v29 h30=>
 bm (ab s.P 26 v29 h30) h30 fun v31 he=>
 bm (ab s.P 55 v3 he) he fun vm ht=>
 bs (aj s.P wl 55 v7 vm ht) fun hJ=>
 ew [some v31,ab s.P 55 v7 hJ] hJ) (
 bp (aB s.P wl 223 5 [(0,(.fn (.func 197) [vB] [])),(1,(.fn (.func 198) [vB] [])),(2,(.fn (.func 199) [vB] [])),(3,(.fn (.func 200) [vB] [])),(4,(.fn (.func 201) [vB] []))] h26) fun vD hF=>
 bp (av s.P 223 hF) fun vL hV=>
 bs (aj s.P wl 223 vL vD hV) fun hK=>
 bp (yC s k wl 167 false true (.fn (.func 202) [] [vL,v3]) [] hK) fun vl hN=>
 bm (aV vB hN) hN fun v43 hp=>
 bm (aa s.P 221 v43 0) hp fun v45 h46=>
 bm (aa s.P 55 v45 1) h46 fun v47 h48=>
 bs (aj s.P wl 3 v47 vl h48) fun hf=>
 bm (aV vB hf) hf fun v50 hY=>
 bm (aa s.P 221 v50 2) hY fun vt hO=>
 bm (ab s.P 26 vt hO) hO fun vN hP=>
 bm (aV vB hP) hP fun vS hg=>
 bm (aa s.P 221 vS 0) hg fun vT hh=>
 bm (ab s.P 55 vT hh) hh fun vd hZ=>
 bs (aj s.P wl 55 v7 vd hZ) fun h62=>
 ew [some vN,ab s.P 55 v7 h62] h62))):=kB
theorem aeH:evF Tryz.prog xM (k+1) wl 167 [b,a,d] h=ak (xX (xS k) 167 wl k false) Tryz.f167 [b,a,d] h:=by kernel_rfl
-- names: ack,
noncomputable def la:List Fr:=[.block 0,.seq (al (am Tryz.f168) [1,1,1,1])]
theorem adn:ak (xX s 168 wl k false) Tryz.f168 [b,a,d] h =
 bp (aP b h) fun v1 h2=>
 bp (aP d h2) fun v3 h4=>
 bp (some (.own h4.length 0 0,h4++[.rows 0 [] 0 true])) fun v5 h6=>
 bp (av s.P 55 h6) fun v7 h8=>
 bp (yC s k wl 168 false true (.fn (.func 76) [] []) [a] h8) fun v9 hA=>
 bm (ab s.P 23 v1 hA) hA fun vC hG=>
 bm (ab s.P 55 v3 hG) hG fun vE hB=>
 bp (yC s k wl 168 false true (.fn (.func 196) [] []) [vC,a,vE,(.lit (.int .i64 4))] hB) fun vF hE=>
 bm (vUn .not vF) hE fun vB hD=>
 cnd vB (
 bm (ab s.P 55 v3 hD) hD fun vM hH=>
 bs (aj s.P wl 55 v7 vM hH) fun hr=>
 ew [some v9,ab s.P 55 v7 hr] hr) (
 bm (aa s.P 55 v3 1) hD fun vJ hs=>
 bm (ab s.P 3 vJ hs) hs fun vG hI=>
 bm (aw s.P .eql 3 vG (.lit (.int .i64 0))) hI fun vA hC=>
 cnd vA (
 bp (yC s k wl 168 false true (.fn (.func 27) [] []) [v9,(.lit (.int .i64 4))] hC) fun vP hL=>
 bm (aa s.P 55 v3 4) hL fun vR hM=>
 bs (aj s.P wl 46 vR vP hM) fun he=>
 bm (aa s.P 55 v3 1) he fun vm ht=>
 bs (aj s.P wl 3 vm (.lit (.int .i64 1)) ht) fun hJ=>
 au (xX s 168 wl k false) (ap s.P Tryz.f168) la .norm ⟨(b::a::d::v1::uu::v3::v5::v7::v9::uu::uu::a::v9::vC::a::vE::vF::vB::uu::uu::vJ::vG::uu::uu::uu::uu::uu::uu::uu::uu::uu::uu::uu::uu::uu::uu::uu::vA::vA::v9::vP::vR::vm::uu::uu::uu::uu::uu::uu::uu::uu::uu::uu::uu::uu::uu::uu::uu::uu::uu::uu::uu::uu::uu::uu::uu::uu::uu::uu::uu::uu::uu::uu::uu::uu::uu::uu::uu::uu::uu::uu::uu::uu::uu::uu::uu::uu::uu::uu::uu::uu::uu::uu::uu::[]),hJ⟩) (
 bm (aw s.P .eql 3 vG (.lit (.int .i64 1))) hC fun vD hF=>
 cnd vD (
 bm (ab s.P 23 v1 hF) hF fun vL hV=>
 bm (aa s.P 55 v3 4) hV fun vK hX=>
 bm (ab s.P 46 vK hX) hX fun vn hd=>
 bp (yC s k wl 168 false true (.fn (.func 203) [] []) [vL,vn] hd) fun vh hW=>
 bp (yC s k wl 168 false true (.fn (.func 27) [] []) [v9,vh] hW) fun vo hz=>
 bm (aa s.P 55 v3 5) hz fun vp hf=>
 bs (aj s.P wl 46 vp vo hf) fun h50=>
 bm (aa s.P 55 v3 1) h50 fun v51 h52=>
 bs (aj s.P wl 3 v51 (.lit (.int .i64 0)) h52) fun hO=>
 bm (aa s.P 55 v3 5) hO fun vN hP=>
 stO hO.length vN (
 bm (ab s.P 46 vN hP) hP fun vS hg=>
 bm (ab s.P 23 v1 hg) hg fun vT hh=>
 bm (aa s.P 55 v3 4) hh fun vd hZ=>
 bm (ab s.P 46 vd hZ) hZ fun vq h63=>
 bp (yC s k wl 168 true true (.fn (.func 204) [] []) [vT,vq] h63) fun ve h65=>
 bp (yC s k wl 168 false true (.fn (.func 106) [] []) [vS,ve] h65) fun vH h67=>
 bm (aw s.P .eql 3 vH (.lit (.int .i64 0))) h67 fun vf h69=>
 cnd vf (
 bm (aa s.P 55 v3 1) h69 fun v70 h71=>
 bs (aj s.P wl 3 v70 (.lit (.int .i64 2)) h71) fun h72=>
 au (xX s 168 wl k false) (ap s.P Tryz.f168) la .norm ⟨(b::a::d::v1::uu::v3::v5::v7::v9::vH::uu::a::v9::vC::a::vE::vF::vB::uu::uu::vJ::vG::uu::uu::uu::uu::uu::uu::uu::uu::uu::uu::uu::uu::uu::uu::uu::vA::vA::uu::uu::uu::uu::vD::vD::v9::vL::vK::vn::vh::vo::vp::v51::vN::vS::vT::vd::vq::ve::vH::vH::vf::v70::uu::uu::uu::uu::uu::uu::uu::uu::uu::uu::uu::uu::uu::uu::uu::uu::uu::uu::uu::uu::uu::uu::uu::uu::uu::uu::uu::uu::uu::uu::uu::[]),h72⟩) (
 bm (aw s.P .lss 3 vH (.lit (.int .i64 0))) h69 fun vu ha=>
 cnd vu (
 bm (ab s.P 55 v3 ha) ha fun v75 h76=>
 bp (yC s k wl 168 false true (.fn (.func 193) [] []) [v75,(.lit (.int .i64 3)),(.lit (.int .u64 0))] h76) fun v77 h78=>
 bs (aj s.P wl 55 v3 v77 h78) fun h79=>
 au (xX s 168 wl k false) (ap s.P Tryz.f168) la .norm ⟨(b::a::d::v1::uu::v3::v5::v7::v9::vH::uu::a::v9::vC::a::vE::vF::vB::uu::uu::vJ::vG::uu::uu::uu::uu::uu::uu::uu::uu::uu::uu::uu::uu::uu::uu::uu::vA::vA::uu::uu::uu::uu::vD::vD::v9::vL::vK::vn::vh::vo::vp::v51::vN::vS::vT::vd::vq::ve::vH::vH::vf::uu::vH::vu::v75::v77::uu::uu::uu::uu::uu::uu::uu::uu::uu::uu::uu::uu::uu::uu::uu::uu::uu::uu::uu::uu::uu::uu::uu::uu::uu::uu::uu::[]),h79⟩) (
 au (xX s 168 wl k false) (ap s.P Tryz.f168) la .norm ⟨(b::a::d::v1::uu::v3::v5::v7::v9::vH::uu::a::v9::vC::a::vE::vF::vB::uu::uu::vJ::vG::uu::uu::uu::uu::uu::uu::uu::uu::uu::uu::uu::uu::uu::uu::uu::vA::vA::uu::uu::uu::uu::vD::vD::v9::vL::vK::vn::vh::vo::vp::v51::vN::vS::vT::vd::vq::ve::vH::vH::vf::uu::vH::vu::uu::uu::uu::uu::uu::uu::uu::uu::uu::uu::uu::uu::uu::uu::uu::uu::uu::uu::uu::uu::uu::uu::uu::uu::uu::uu::uu::uu::uu::[]),ha⟩)))) (
 bm (aw s.P .eql 3 vG (.lit (.int .i64 2))) hF fun vQ h81=>
 cnd vQ (
 bm (aa s.P 55 v3 1) h81 fun vv h83=>
 bs (aj s.P wl 3 vv (.lit (.int .i64 0)) h83) fun h84=>
 bm (aa s.P 55 v3 4) h84 fun v85 h86=>
 bm (ab s.P 46 v85 h86) h86 fun v87 h88=>
 bm (aa s.P 55 v3 4) h88 fun v89 hu=>
 bm (ab s.P 46 v89 hu) hu fun vw h92=>
 bm (aw s.P .add 46 vw (.lit (.int .u64 1))) h92 fun v93 h94=>
 bp (yC s k wl 168 false true (.fn (.func 191) [] []) [v9,(.lit (.int .i64 4)),v87,v93] h94) fun vx h96=>
 bm (aq vx 0) h96 fun vU h98=>
 bm (aq vx 1) h98 fun vO hi=>
 cnd vO (
 bm (aa s.P 55 v3 1) hi fun vI hQ=>
 bs (aj s.P wl 3 vI (.lit (.int .i64 3)) hQ) fun h103=>
 au (xX s 168 wl k false) (ap s.P Tryz.f168) la .norm ⟨(b::a::d::v1::uu::v3::v5::v7::vU::uu::vO::a::v9::vC::a::vE::vF::vB::uu::uu::vJ::vG::uu::uu::uu::uu::uu::uu::uu::uu::uu::uu::uu::uu::uu::uu::uu::vA::vA::uu::uu::uu::uu::vD::vD::uu::uu::uu::uu::uu::uu::uu::uu::uu::uu::uu::uu::uu::uu::uu::uu::uu::uu::uu::uu::uu::uu::vQ::vQ::vv::vx::v9::v85::v87::v89::vw::v93::vx::vU::vO::vO::vI::uu::uu::uu::uu::uu::uu::uu::uu::uu::uu::uu::uu::[]),h103⟩) (
 au (xX s 168 wl k false) (ap s.P Tryz.f168) la .norm ⟨(b::a::d::v1::uu::v3::v5::v7::vU::uu::vO::a::v9::vC::a::vE::vF::vB::uu::uu::vJ::vG::uu::uu::uu::uu::uu::uu::uu::uu::uu::uu::uu::uu::uu::uu::uu::vA::vA::uu::uu::uu::uu::vD::vD::uu::uu::uu::uu::uu::uu::uu::uu::uu::uu::uu::uu::uu::uu::uu::uu::uu::uu::uu::uu::uu::uu::vQ::vQ::vv::vx::v9::v85::v87::v89::vw::v93::vx::vU::vO::vO::uu::uu::uu::uu::uu::uu::uu::uu::uu::uu::uu::uu::uu::[]),hi⟩)) (
 bm (aw s.P .eql 3 vG (.lit (.int .i64 3))) h81 fun vr hS=>
 cnd vr (
 bm (ab s.P 23 v1 hS) hS fun v106 h107=>
 bm (aa s.P 55 v3 4) h107 fun v108 h109=>
 bm (ab s.P 46 v108 h109) h109 fun v110 h111=>
 bp (yC s k wl 168 false true (.fn (.func 205) [] []) [v106,v110] h111) fun v112 h113=>
 bp (yC s k wl 168 false true (.fn (.func 27) [] []) [v9,v112] h113) fun v114 h115=>
 bm (aa s.P 55 v3 3) h115 fun v116 h117=>
 bs (aj s.P wl 46 v116 v114 h117) fun hj=>
 bm (aa s.P 55 v3 1) hj fun vW hv=>
 bs (aj s.P wl 3 vW (.lit (.int .i64 4)) hv) fun h121=>
 au (xX s 168 wl k false) (ap s.P Tryz.f168) la .norm ⟨(b::a::d::v1::uu::v3::v5::v7::v9::uu::uu::a::v9::vC::a::vE::vF::vB::uu::uu::vJ::vG::uu::uu::uu::uu::uu::uu::uu::uu::uu::uu::uu::uu::uu::uu::uu::vA::vA::uu::uu::uu::uu::vD::vD::uu::uu::uu::uu::uu::uu::uu::uu::uu::uu::uu::uu::uu::uu::uu::uu::uu::uu::uu::uu::uu::uu::vQ::vQ::uu::uu::uu::uu::uu::uu::uu::uu::uu::uu::uu::uu::uu::vr::vr::v9::v106::v108::v110::v112::v114::v116::vW::uu::uu::[]),h121⟩) (
 bm (ab s.P 23 v1 hS) hS fun v122 h123=>
 bm (aa s.P 55 v3 4) h123 fun v124 h125=>
 bm (ab s.P 46 v124 h125) h125 fun v126 h127=>
 bp (yC s k wl 168 true true (.fn (.func 203) [] []) [v122,v126] h127) fun v128 h129=>
 stO hS.length v1 (
 bm (ab s.P 23 v1 h129) h129 fun v130 h131=>
 bm (aa s.P 55 v3 4) h131 fun v132 h133=>
 stO hS.length v132 (
 bm (ab s.P 46 v132 h133) h133 fun v134 hR=>
 bp (yC s k wl 168 false true (.fn (.func 204) [] []) [v130,v134] hR) fun vX hk=>
 bm (aw s.P .add 46 vX (.lit (.int .u64 1))) hk fun vY hw=>
 bp (yC s k wl 168 false true (.fn (.func 88) [] []) [v9,v128,vY] hw) fun vZ hb=>
 bm (ab s.P 55 v3 hb) hb fun va hx=>
 bm (aa s.P 55 v3 3) hx fun vb hl=>
 bm (ab s.P 46 vb hl) hl fun vc hy=>
 bp (yC s k wl 168 false true (.fn (.func 193) [] []) [va,(.lit (.int .i64 1)),vc] hy) fun vV hc=>
 bs (aj s.P wl 55 v3 vV hc) fun h150=>
 au (xX s 168 wl k false) (ap s.P Tryz.f168) la .norm ⟨(b::a::d::v1::uu::v3::v5::v7::vZ::uu::uu::a::v9::vC::a::vE::vF::vB::uu::uu::vJ::vG::v9::v122::v124::v126::v128::v130::v132::v134::vX::vY::vZ::va::vb::vc::vV::vA::vA::uu::uu::uu::uu::vD::vD::uu::uu::uu::uu::uu::uu::uu::uu::uu::uu::uu::uu::uu::uu::uu::uu::uu::uu::uu::uu::uu::uu::vQ::vQ::uu::uu::uu::uu::uu::uu::uu::uu::uu::uu::uu::uu::uu::vr::vr::uu::uu::uu::uu::uu::uu::uu::uu::uu::uu::[]),h150⟩))))))):=kB
theorem aeS:evF Tryz.prog xM (k+1) wl 168 [b,a,d] h=ak (xX (xS k) 168 wl k false) Tryz.f168 [b,a,d] h:=by kernel_rfl
theorem Ln:au (xX s 168 wl k false) (ap s.P Tryz.f168) la .norm ⟨(b::a::d::l::q::g::r::i::j::u::v::z::A::o::B::D::E::F::p::G::I::J::L::M::N::O::Q::R::T::U::Y::Z::t0::t1::t2::t3::t4::t5::t6::t7::t8::W::t9::ta::X::th::tb::tc::td::te::tf::tg::ti::tj::tk::tl::tm::tn::tp::tq::tr::ts::tt::tu::tv::tw::tx::ty::tz::tA::tB::tC::tD::tE::tF::tG::tH::tI::tJ::tK::tL::tM::tN::tO::tP::tQ::tR::tS::tT::tU::tV::tW::tX::tY::[]),h⟩ =
 bm (ab s.P 55 g h) h fun v151 h152=>
 bs (aj s.P wl 55 i v151 h152) fun hm=>
 ew [some j,ab s.P 55 i hm] hm:=kR
theorem wD (cx:Cx) (s:St):au cx K la .ret s=K .ret s:=by kernel_rfl
-- names: adn,Ln,wD
theorem acs:ak (xX s 180 wl k false) Tryz.f180 [b,a,d] h =
 bp (aP b h) fun v1 h2=>
 bp (aP d h2) fun v3 h4=>
 bp (some (.own h4.length 0 0,h4++[.rows 0 [] 0 true])) fun v5 h6=>
 bp (av s.P 55 h6) fun v7 h8=>
 bm (aa s.P 55 v3 0) h8 fun v9 hA=>
 bm (ab s.P 3 v9 hA) hA fun vC hG=>
 bm (aw s.P .eql 3 vC (.lit (.int .i64 0))) hG fun vE hB=>
 cnd vE (
 bm (ab s.P 23 v1 hB) hB fun vF hE=>
 bm (ab s.P 55 v3 hE) hE fun vB hD=>
 bp (yC s k wl 180 false true (.fn (.func 207) [] []) [vF,a,vB] hD) fun vM hH=>
 bm (aq vM 0) hH fun vi hT=>
 bm (aq vM 1) hT fun vj hU=>
 bs (aj s.P wl 55 v7 vj hU) fun hI=>
 ew [some vi,ab s.P 55 v7 hI] hI) (
 bm (aw s.P .eql 3 vC (.lit (.int .i64 1))) hB fun vA hC=>
 cnd vA (
 bm (ab s.P 23 v1 hC) hC fun vP hL=>
 bm (ab s.P 55 v3 hL) hL fun vR hM=>
 bp (yC s k wl 180 false true (.fn (.func 208) [] []) [vP,a,vR] hM) fun vk ho=>
 bm (aq vk 0) ho fun vs hJ=>
 bm (aq vk 1) hJ fun vD hF=>
 bs (aj s.P wl 55 v7 vD hF) fun hq=>
 ew [some vs,ab s.P 55 v7 hq] hq) (
 bm (aw s.P .eql 3 vC (.lit (.int .i64 2))) hC fun v39 hK=>
 cnd v39 (
 bm (ab s.P 23 v1 hK) hK fun vl hN=>
 bm (ab s.P 55 v3 hN) hN fun v43 hp=>
 bp (yC s k wl 180 false true (.fn (.func 209) [] []) [vl,a,v43] hp) fun v45 h46=>
 bm (aq v45 0) h46 fun v47 h48=>
 bm (aq v45 1) h48 fun v49 h50=>
 bs (aj s.P wl 55 v7 v49 h50) fun hY=>
 ew [some v47,ab s.P 55 v7 hY] hY) (
 bp (yC s k wl 180 true true (.fn (.func 76) [] []) [a] hK) fun vt hO=>
 stO hK.length v3 (
 bm (ab s.P 55 v3 hO) hO fun vN hP=>
 bs (aj s.P wl 55 v7 vN hP) fun h56=>
 ew [some vt,ab s.P 55 v7 h56] h56)))):=kB
theorem ahU:evF Tryz.prog xM (k+1) wl 180 [b,a,d] h=ak (xX (xS k) 180 wl k false) Tryz.f180 [b,a,d] h:=by kernel_rfl
-- names: acs,
end
end Go.Ab
