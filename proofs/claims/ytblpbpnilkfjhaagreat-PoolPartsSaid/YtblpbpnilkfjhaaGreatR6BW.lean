import Derived.Test.YtblpbpnilkfjhaaGreatR6Seat
import Derived.Test.YtblpbpnilkfjhaaGreatAbLibC
set_option linter.unusedVariables false
set_option linter.unusedSimpArgs false
set_option maxRecDepth 100000
set_option linter.unusedVariables false
namespace Go.Ab
open Go.Proofs
section
variable (s:Sys) (k wl:Nat) (m0:Nat) (ac:List Nat×List Nat) (b g e j l o r u y n p z A q D E B G F L I M J O R Q N Y U Z W X T t1 t2 t3 t4 t0 tf te tg t6 t5 tb t7 tc t8 t9 td ta th ti tj tk tl tm tn tp tq tr q4 q5 q6 ts tt tu tv tw tx ty tz tA tB qb qc qd tC tD tE tF tG tH tI tJ tK tL tM tN q7 q8 q9 qa tO tP tQ tR tS tT tU tV tW tX tY tZ q0 q1 q2 q3 qe qf qg qh qi qj qk ql qm qn qo qp qq qr qs qt qu qv qw qx qy qz qA qB qC qD qE qF qG qH qI qJ:V)
theorem ad7 (h:Hp):ak (xX s 83 wl k false) Tryz.f83 [b,g,e,j,l,o] h =
 bp (aJ b h) fun v1 h2=>
 bp (aJ l h2) fun v3 h4=>
 bp (some (.own h4.length 0 0,h4++[.rows 0 [] 0 true])) fun v5 h6=>
 bp (ar s.P 65 h6) fun v7 h8=>
 bp (some (.own h8.length 0 0,h8++[.rows 0 [] 0 true])) fun v9 h10=>
 stO h10.length v3 (
 bm (ab s.P 65 v3 h10) h10 fun v11 h12=>
 stO h10.length v1 (
 bm (ab s.P 23 v1 h12) h12 fun v13 h14=>
 bp (yC s k wl 83 true true (.fn (.func 76) [] []) [e] h14) fun v15 h16=>
 bm (bh s.P 168 [(0,v11),(1,v13),(2,g),(3,v15),(4,j),(5,o)]) h16 fun v17 h18=>
 bp (aJ v17 h18) fun v19 h20=>
 bm (aa s.P 65 v3 1) h20 fun v21 h22=>
 bm (ab s.P 63 v21 h22) h22 fun v23 h24=>
 bp (yC s k wl 83 false true (.fn (.func 79) [] []) [v23] h24) fun v25 h26=>
 bm (aL v19 h26) h26 fun v27 h28=>
 bm (aa s.P 168 v27 0) h28 fun v29 h30=>
 bm (aa s.P 65 v29 1) h30 fun v31 h32=>
 bs (aj s.P wl 63 v31 v25 h32) fun h33=>
 bm (ab s.P 23 v1 h33) h33 fun v34 h35=>
 bm (ab s.P 65 v3 h35) h35 fun v36 h37=>
 bp (yC s k wl 83 false true (.fn (.func 95) [] []) [v34,g,e,j,v36] h37) fun v38 h39=>
 bm (vUn .not v38) h39 fun v40 h41=>
 cnd v40 (
 bm (aL v19 h41) h41 fun v42 h43=>
 bm (aa s.P 168 v42 3) h43 fun v44 h45=>
 bm (ab s.P 26 v44 h45) h45 fun v46 h47=>
 bm (aL v19 h47) h47 fun v48 h49=>
 bm (aa s.P 168 v48 0) h49 fun v50 h51=>
 bm (ab s.P 65 v50 h51) h51 fun v52 h53=>
 bs (aj s.P wl 65 v7 v52 h53) fun h54=>
 bp (some (.own h54.length 0 0,h54++[.rows 0 [] 0 true])) fun v55 h56=>
 er [some v46,ab s.P 65 v7 h56,some v55] h56) (
 bm (bh s.P 169 [(0,(.fn (.func 116) [v19] [])),(1,(.fn (.func 117) [v19] [])),(2,(.fn (.func 118) [v19] [])),(3,(.fn (.func 118) [v19] [])),(4,(.fn (.func 119) [v19] [])),(5,(.fn (.func 120) [v19] [])),(6,(.fn (.func 121) [v19] [])),(7,(.fn (.func 122) [v19] [])),(8,(.fn (.func 123) [v19] [])),(9,(.fn (.func 124) [v19] [])),(10,(.fn (.func 125) [v19] [])),(11,(.fn (.func 126) [v19] [])),(12,(.fn (.func 127) [v19] [])),(13,(.fn (.func 128) [v19] [])),(14,(.fn (.func 129) [v19] [])),(15,(.fn (.func 130) [v19] []))]) h41 fun v57 h58=>
 bp (ar s.P 169 h58) fun v59 h60=>
 bs (aj s.P wl 169 v59 v57 h60) fun h61=>
 bm (aa s.P 65 v3 0) h61 fun v62 h63=>
 bm (ab s.P 3 v62 h63) h63 fun v64 h65=>
 bm (ai s.P 169 v59 v64 h65) h65 fun v66 h67=>
 bm (ab s.P 1 v66 h67) h67 fun v68 h69=>
 bp (yC s k wl 83 false true v68 [] h69) fun v70 h71=>
 bm (aL v19 h71) h71 fun v72 h73=>
 bm (aa s.P 168 v72 3) h73 fun v74 h75=>
 bm (ab s.P 26 v74 h75) h75 fun v76 h77=>
 bm (aL v19 h77) h77 fun v78 h79=>
 bm (aa s.P 168 v78 0) h79 fun v80 h81=>
 bm (ab s.P 65 v80 h81) h81 fun v82 h83=>
 stO h71.length v19 (
 bm (aL v19 h83) h83 fun v84 h85=>
 bm (aa s.P 168 v84 6) h85 fun v86 h87=>
 stO h71.length v86 (
 bm (ab s.P 34 v86 h87) h87 fun v88 h89=>
 bs (aj s.P wl 65 v7 v82 h89) fun h90=>
 apt (lgW v7 (lgR v86 (lgR v19 ([],[])))) (
 er [some v76,ab s.P 65 v7 h90,some v88] h90)))))):=kB
theorem aff (k wl:Nat) (h:Hp):evF Tryz.prog xM (k+1) wl 83 [b,g,e,j,l,o] h=ak (xX (xS k) 83 wl k false) Tryz.f83 [b,g,e,j,l,o] h:=by kernel_rfl
-- names: ad7,
theorem Xu (h:Hp):ak (xX s 116 wl k false) Tryz.f116 [b] h =
 bp (yC s k wl 116 false true (.fn (.func 156) [] []) [b] h) fun v1 h2=>
 bm (vUn .not v1) h2 fun v3 h4=>
 cnd v3 (
 some (.tup [],h4)) (
 bm (aL b h4) h4 fun v5 h6=>
 bm (aa s.P 168 v5 0) h6 fun v7 h8=>
 bm (aa s.P 65 v7 2) h8 fun v9 h10=>
 bm (ab s.P 55 v9 h10) h10 fun v11 h12=>
 bp (ar s.P 55 h12) fun v13 h14=>
 bs (aj s.P wl 55 v13 v11 h14) fun h15=>
 bm (aa s.P 55 v13 6) h15 fun v16 h17=>
 bm (ab s.P 3 v16 h17) h17 fun v18 h19=>
 bm (aq s.P .neq 3 v18 (.lit (.int .i64 1))) h19 fun v20 h21=>
 cnd v20 (
 bp (yC s k wl 116 false true (.fn (.func 157) [] []) [b,(.lit (.int .i64 1))] h21) fun v22 h23=>
 some (.tup [],h23)) (
 bp (yC s k wl 116 false true (.fn (.func 157) [] []) [b,(.lit (.int .i64 9))] h21) fun v24 h25=>
 bm (aa s.P 55 v13 3) h25 fun v26 h27=>
 bm (ab s.P 46 v26 h27) h27 fun v28 h29=>
 bp (yC s k wl 116 false true (.fn (.func 158) [] []) [b,v28] h29) fun v30 h31=>
 some (.tup [],h31))):=kB
theorem ac7 (k wl:Nat) (h:Hp):evF Tryz.prog xM (k+1) wl 116 [b] h=ak (xX (xS k) 116 wl k false) Tryz.f116 [b] h:=by kernel_rfl
-- names: Xu,
theorem W4 (h:Hp):ak (xX s 117 wl k false) Tryz.f117 [b] h =
 bp (yC s k wl 117 false true (.fn (.func 159) [] []) [b,(.lit (.int .i64 1)),(.lit (.int .u64 1))] h) fun v1 h2=>
 bm (aL b h2) h2 fun v3 h4=>
 bm (aa s.P 168 v3 1) h4 fun v5 h6=>
 bm (aa s.P 23 v5 3) h6 fun v7 h8=>
 bm (ab s.P 3 v7 h8) h8 fun v9 h10=>
 bm (aL b h10) h10 fun v11 h12=>
 bm (aa s.P 168 v11 0) h12 fun v13 h14=>
 bm (aa s.P 65 v13 3) h14 fun v15 h16=>
 bs (aj s.P wl 3 v15 v9 h16) fun h17=>
 bm (aL b h17) h17 fun v18 h19=>
 bm (aa s.P 168 v18 4) h19 fun v20 h21=>
 bm (ab s.P 3 v20 h21) h21 fun v22 h23=>
 bp (yC s k wl 117 false true (.fn (.func 160) [] []) [b,(.lit (.int .i64 2)),(.lit (.int .i64 4)),v22,(.lit (.int .u64 0))] h23) fun v24 h25=>
 some (.tup [],h25):=kB
theorem aa3 (k wl:Nat) (h:Hp):evF Tryz.prog xM (k+1) wl 117 [b] h=ak (xX (xS k) 117 wl k false) Tryz.f117 [b] h:=by kernel_rfl
-- names: W4,
noncomputable def wj:Code:=al (am Tryz.f118) [0,1,1,1,0,0]
noncomputable def ri:List Fr:=[.seq (al (am Tryz.f118) [0,1,1,1,0,1]),.seq (al (am Tryz.f118) [0,1,1,1,1]),.scope (al (am Tryz.f118) [0])]
theorem UO (h:Hp):ak (xX s 118 wl k false) Tryz.f118 [b] h =
 bm (aL b h) h fun v1 h2=>
 bm (aa s.P 168 v1 5) h2 fun v3 h4=>
 bm (ab s.P 46 v3 h4) h4 fun v5 h6=>
 bm (aL b h6) h6 fun v7 h8=>
 bm (aa s.P 168 v7 4) h8 fun v9 h10=>
 bm (ab s.P 3 v9 h10) h10 fun v11 h12=>
 bm (aL b h12) h12 fun v13 h14=>
 bm (aa s.P 168 v13 1) h14 fun v15 h16=>
 bm (aa s.P 23 v15 0) h16 fun v17 h18=>
 bm (ab s.P 3 v17 h18) h18 fun v19 h20=>
 bp (yC s k wl 118 false true (.fn (.func 161) [] []) [v5,v11,v19] h20) fun v21 h22=>
 bp (yC s k wl 118 false true (.fn (.func 156) [] []) [b] h22) fun v23 h24=>
 bm (vUn .not v23) h24 fun v25 h26=>
 cnd v25 (
 some (.tup [],h26)) (
 bm (aL b h26) h26 fun v27 h28=>
 bm (aa s.P 168 v27 0) h28 fun v29 h30=>
 bm (aa s.P 65 v29 2) h30 fun v31 h32=>
 bm (aa s.P 55 v31 6) h32 fun v33 h34=>
 bm (ab s.P 3 v33 h34) h34 fun v35 h36=>
 bm (aq s.P .eql 3 v35 (.lit (.int .i64 1))) h36 fun v37 h38=>
 cnd v37 (
 bm (aL b h38) h38 fun v39 h40=>
 bm (aa s.P 168 v39 0) h40 fun v41 h42=>
 bm (aa s.P 65 v41 0) h42 fun v43 h44=>
 bs (aj s.P wl 3 v43 (.lit (.int .i64 4)) h44) fun h45=>
 some (.tup [],h45)) (
 bm (aL b h38) h38 fun v46 h47=>
 bm (aa s.P 168 v46 0) h47 fun v48 h49=>
 bm (aa s.P 65 v48 0) h49 fun v50 h51=>
 bm (ab s.P 3 v50 h51) h51 fun v52 h53=>
 bm (aq s.P .eql 3 v52 (.lit (.int .i64 2))) h53 fun v54 h55=>
 gd v54 (
 bm (aq s.P .geq 3 v21 (.lit (.int .i64 0))) h55 fun v56 h57=>
 yO s k wl 118 Tryz.f118 wj 9 h38.length ([],[]) ri ⟨(b::uu::v21::b::v1::v3::v5::b::v7::v9::v11::b::v13::v15::v17::v19::v21::b::v23::v25::b::v27::v29::v31::v33::v35::v37::b::v46::v48::v50::v52::v54::(.lit (.bool true))::v21::v56::uu::uu::uu::uu::uu::uu::uu::uu::uu::uu::uu::uu::uu::uu::uu::uu::uu::uu::uu::uu::uu::uu::uu::uu::uu::uu::uu::uu::uu::uu::uu::uu::uu::uu::uu::[]),h57⟩) (
 yO s k wl 118 Tryz.f118 wj 9 h38.length ([],[]) ri ⟨(b::uu::v21::b::v1::v3::v5::b::v7::v9::v11::b::v13::v15::v17::v19::v21::b::v23::v25::b::v27::v29::v31::v33::v35::v37::b::v46::v48::v50::v52::v54::(.lit (.bool false))::uu::uu::uu::uu::uu::uu::uu::uu::uu::uu::uu::uu::uu::uu::uu::uu::uu::uu::uu::uu::uu::uu::uu::uu::uu::uu::uu::uu::uu::uu::uu::uu::uu::uu::uu::uu::uu::[]),h55⟩) (
 yO s k wl 118 Tryz.f118 wj 8 h38.length ([],[]) ri ⟨(b::uu::v21::b::v1::v3::v5::b::v7::v9::v11::b::v13::v15::v17::v19::v21::b::v23::v25::b::v27::v29::v31::v33::v35::v37::b::v46::v48::v50::v52::v54::v54::uu::uu::uu::uu::uu::uu::uu::uu::uu::uu::uu::uu::uu::uu::uu::uu::uu::uu::uu::uu::uu::uu::uu::uu::uu::uu::uu::uu::uu::uu::uu::uu::uu::uu::uu::uu::uu::[]),h55⟩))):=kB
theorem abZ (k wl:Nat) (h:Hp):evF Tryz.prog xM (k+1) wl 118 [b] h=ak (xX (xS k) 118 wl k false) Tryz.f118 [b] h:=by kernel_rfl
theorem HR (h:Hp):yO s k wl 118 Tryz.f118 wj 9 m0 ac ri ⟨(b::g::e::j::l::o::r::u::y::n::p::z::A::q::D::E::B::G::F::L::I::M::J::O::R::Q::N::Y::U::Z::W::X::T::t1::t2::t3::t4::t0::tf::te::tg::t6::t5::tb::t7::tc::t8::t9::td::ta::th::ti::tj::tk::tl::tm::tn::tp::tq::tr::q4::q5::q6::ts::tt::tu::tv::tw::tx::ty::tz::[]),h⟩ =
 bm (aO t1 t3 (.lit (.bool false))) h fun v58 h59=>
 cnd v58 (
 bp (yC s k wl 118 false true (.fn (.func 160) [] []) [b,(.lit (.int .i64 3)),(.lit (.int .i64 2)),e,(.lit (.int .u64 0))] h59) fun v60 h61=>
 some (.tup [],h61)) (
 bm (aL b h59) h59 fun v62 h63=>
 bm (aa s.P 168 v62 0) h63 fun v64 h65=>
 bm (aa s.P 65 v64 3) h65 fun v66 h67=>
 bm (ab s.P 3 v66 h67) h67 fun v68 h69=>
 bm (aq s.P .leq 3 v68 (.lit (.int .i64 0))) h69 fun v70 h71=>
 cnd v70 (
 bm (aL b h71) h71 fun v72 h73=>
 bm (aa s.P 168 v72 4) h73 fun v74 h75=>
 bm (ab s.P 3 v74 h75) h75 fun v76 h77=>
 bp (yC s k wl 118 false true (.fn (.func 160) [] []) [b,(.lit (.int .i64 5)),(.lit (.int .i64 5)),v76,(.lit (.int .u64 0))] h77) fun v78 h79=>
 some (.tup [],h79)) (
 bm (aL b h71) h71 fun v80 h81=>
 bm (aa s.P 168 v80 0) h81 fun v82 h83=>
 bm (aa s.P 65 v82 3) h83 fun v84 h85=>
 bm (ab s.P 3 v84 h85) h85 fun v86 h87=>
 bm (aq s.P .sub 3 v86 (.lit (.int .i64 1))) h87 fun v88 h89=>
 bm (aL b h89) h89 fun v90 h91=>
 bm (aa s.P 168 v90 0) h91 fun v92 h93=>
 bm (aa s.P 65 v92 3) h93 fun v94 h95=>
 bs (aj s.P wl 3 v94 v88 h95) fun h96=>
 bm (aL b h96) h96 fun v97 h98=>
 bm (aa s.P 168 v97 4) h98 fun v99 h100=>
 bm (ab s.P 3 v99 h100) h100 fun v101 h102=>
 bp (yC s k wl 118 false true (.fn (.func 160) [] []) [b,(.lit (.int .i64 2)),(.lit (.int .i64 4)),v101,(.lit (.int .u64 0))] h102) fun v103 h104=>
 some (.tup [],h104))):=kG
theorem oU (cx:Cx) (K:Out→St→Option (V×Hp)) (s:St):au cx K ri .ret s=K .ret s:=by kernel_rfl
-- names: UO,HR,oU
noncomputable def xm:List Fr:=[.seq (al (am Tryz.f119) [1,1])]
theorem VA (h:Hp):ak (xX s 119 wl k false) Tryz.f119 [b] h =
 bm (aL b h) h fun v1 h2=>
 bm (aa s.P 168 v1 0) h2 fun v3 h4=>
 bm (aa s.P 65 v3 2) h4 fun v5 h6=>
 bm (aa s.P 55 v5 3) h6 fun v7 h8=>
 bm (ab s.P 46 v7 h8) h8 fun v9 h10=>
 bp (yC s k wl 119 false true (.fn (.func 159) [] []) [b,(.lit (.int .i64 1)),(.lit (.int .u64 18446744073709551615))] h10) fun v11 h12=>
 bm (aq s.P .eql 46 v11 (.lit (.int .u64 1))) h12 fun v13 h14=>
 cnd v13 (
 bm (aL b h14) h14 fun v15 h16=>
 bm (aa s.P 168 v15 4) h16 fun v17 h18=>
 bm (ab s.P 3 v17 h18) h18 fun v19 h20=>
 bp (yC s k wl 119 false true (.fn (.func 160) [] []) [b,(.lit (.int .i64 14)),(.lit (.int .i64 6)),v19,(.lit (.int .u64 0))] h20) fun v21 h22=>
 au (xX s 119 wl k false) (av s.P Tryz.f119) xm .norm ⟨[b,uu,v9,b,v1,v3,v5,v7,v9,b,v11,v13,b,b,v15,v17,v19,v21,uu,uu,uu,uu,uu],h22⟩) (
 bp (yC s k wl 119 false true (.fn (.func 157) [] []) [b,(.lit (.int .i64 9))] h14) fun v23 h24=>
 au (xX s 119 wl k false) (av s.P Tryz.f119) xm .norm ⟨[b,uu,v9,b,v1,v3,v5,v7,v9,b,v11,v13,uu,uu,uu,uu,uu,uu,b,v23,uu,uu,uu],h24⟩):=kB
theorem abW (k wl:Nat) (h:Hp):evF Tryz.prog xM (k+1) wl 119 [b] h=ak (xX (xS k) 119 wl k false) Tryz.f119 [b] h:=by kernel_rfl
theorem IO (h:Hp):au (xX s 119 wl k false) (av s.P Tryz.f119) xm .norm ⟨[b,g,e,j,l,o,r,u,y,n,p,z,A,q,D,E,B,G,F,L,I,M,J],h⟩ =
 bp (yC s k wl 119 false true (.fn (.func 158) [] []) [b,e] h) fun v25 h26=>
 some (.tup [],h26):=kR
theorem pT (cx:Cx) (K:Out→St→Option (V×Hp)) (s:St):au cx K xm .ret s=K .ret s:=by kernel_rfl
-- names: VA,IO,pT
theorem XX (h:Hp):ak (xX s 120 wl k false) Tryz.f120 [b] h =
 bp (yC s k wl 120 false true (.fn (.func 156) [] []) [b] h) fun v1 h2=>
 bm (aL b h2) h2 fun v3 h4=>
 bm (aa s.P 168 v3 0) h4 fun v5 h6=>
 bm (aa s.P 65 v5 0) h6 fun v7 h8=>
 bs (aj s.P wl 3 v7 (.lit (.int .i64 6)) h8) fun h9=>
 some (.tup [],h9):=kB
theorem aaN (k wl:Nat) (h:Hp):evF Tryz.prog xM (k+1) wl 120 [b] h=ak (xX (xS k) 120 wl k false) Tryz.f120 [b] h:=by kernel_rfl
-- names: XX,
theorem VX (h:Hp):ak (xX s 121 wl k false) Tryz.f121 [b] h =
 bp (yC s k wl 121 false true (.fn (.func 159) [] []) [b,(.lit (.int .i64 1)),(.lit (.int .u64 18446744073709551615))] h) fun v1 h2=>
 bm (aL b h2) h2 fun v3 h4=>
 bm (aa s.P 168 v3 0) h4 fun v5 h6=>
 bm (aa s.P 65 v5 0) h6 fun v7 h8=>
 bs (aj s.P wl 3 v7 (.lit (.int .i64 7)) h8) fun h9=>
 bm (aL b h9) h9 fun v10 h11=>
 bm (aa s.P 168 v10 0) h11 fun v12 h13=>
 bm (aa s.P 65 v12 4) h13 fun v14 h15=>
 bs (aj s.P wl 3 v14 (.lit (.int .i64 0)) h15) fun h16=>
 some (.tup [],h16):=kB
theorem aaj (k wl:Nat) (h:Hp):evF Tryz.prog xM (k+1) wl 121 [b] h=ak (xX (xS k) 121 wl k false) Tryz.f121 [b] h:=by kernel_rfl
-- names: VX,
noncomputable def ww:Code:=al (am Tryz.f122) [1,1,0,0]
noncomputable def rq:List Fr:=[.seq (al (am Tryz.f122) [1,1,0,1]),.seq (al (am Tryz.f122) [1,1,1])]
noncomputable def nt:List Fr:=[.block 0,.seq (al (am Tryz.f122) [1,1,1,1,1,1])]
theorem U1 (h:Hp):ak (xX s 122 wl k false) Tryz.f122 [b] h =
 bm (aL b h) h fun v1 h2=>
 bm (aa s.P 168 v1 0) h2 fun v3 h4=>
 bm (aa s.P 65 v3 4) h4 fun v5 h6=>
 bm (ab s.P 3 v5 h6) h6 fun v7 h8=>
 bm (aL b h8) h8 fun v9 h10=>
 bm (aa s.P 168 v9 1) h10 fun v11 h12=>
 bm (aa s.P 23 v11 0) h12 fun v13 h14=>
 bm (ab s.P 3 v13 h14) h14 fun v15 h16=>
 bm (aq s.P .mul 3 (.lit (.int .i64 2)) v15) h16 fun v17 h18=>
 bm (aq s.P .add 3 (.lit (.int .i64 2)) v17) h18 fun v19 h20=>
 bm (aq s.P .lss 3 v7 (.lit (.int .i64 0))) h20 fun v21 h22=>
 gd v21 (
 yO s k wl 122 Tryz.f122 ww 6 h20.length ([],[]) rq ⟨(b::uu::v7::v19::uu::uu::b::v1::v3::v5::v7::b::v9::v11::v13::v15::v17::v19::v7::v21::(.lit (.bool true))::uu::uu::uu::uu::uu::uu::uu::uu::uu::uu::uu::uu::uu::uu::uu::uu::uu::uu::uu::uu::uu::uu::uu::uu::uu::uu::uu::uu::uu::uu::uu::uu::uu::uu::uu::uu::uu::uu::uu::uu::uu::uu::uu::uu::uu::uu::uu::uu::uu::uu::uu::uu::uu::uu::uu::uu::uu::uu::uu::uu::uu::uu::uu::uu::uu::uu::uu::uu::uu::uu::uu::uu::uu::uu::uu::uu::uu::uu::uu::uu::uu::uu::uu::uu::uu::uu::uu::uu::uu::uu::uu::uu::uu::uu::uu::uu::uu::uu::uu::uu::uu::uu::uu::uu::uu::uu::uu::uu::uu::uu::uu::uu::uu::uu::uu::uu::uu::uu::uu::[]),h22⟩) (
 bm (aq s.P .geq 3 v7 v19) h22 fun v23 h24=>
 yO s k wl 122 Tryz.f122 ww 6 h20.length ([],[]) rq ⟨(b::uu::v7::v19::uu::uu::b::v1::v3::v5::v7::b::v9::v11::v13::v15::v17::v19::v7::v21::(.lit (.bool false))::v7::v19::v23::uu::uu::uu::uu::uu::uu::uu::uu::uu::uu::uu::uu::uu::uu::uu::uu::uu::uu::uu::uu::uu::uu::uu::uu::uu::uu::uu::uu::uu::uu::uu::uu::uu::uu::uu::uu::uu::uu::uu::uu::uu::uu::uu::uu::uu::uu::uu::uu::uu::uu::uu::uu::uu::uu::uu::uu::uu::uu::uu::uu::uu::uu::uu::uu::uu::uu::uu::uu::uu::uu::uu::uu::uu::uu::uu::uu::uu::uu::uu::uu::uu::uu::uu::uu::uu::uu::uu::uu::uu::uu::uu::uu::uu::uu::uu::uu::uu::uu::uu::uu::uu::uu::uu::uu::uu::uu::uu::uu::uu::uu::uu::uu::uu::uu::uu::uu::[]),h24⟩) (
 yO s k wl 122 Tryz.f122 ww 4 h20.length ([],[]) rq ⟨(b::uu::v7::v19::uu::uu::b::v1::v3::v5::v7::b::v9::v11::v13::v15::v17::v19::v7::v21::v21::uu::uu::uu::uu::uu::uu::uu::uu::uu::uu::uu::uu::uu::uu::uu::uu::uu::uu::uu::uu::uu::uu::uu::uu::uu::uu::uu::uu::uu::uu::uu::uu::uu::uu::uu::uu::uu::uu::uu::uu::uu::uu::uu::uu::uu::uu::uu::uu::uu::uu::uu::uu::uu::uu::uu::uu::uu::uu::uu::uu::uu::uu::uu::uu::uu::uu::uu::uu::uu::uu::uu::uu::uu::uu::uu::uu::uu::uu::uu::uu::uu::uu::uu::uu::uu::uu::uu::uu::uu::uu::uu::uu::uu::uu::uu::uu::uu::uu::uu::uu::uu::uu::uu::uu::uu::uu::uu::uu::uu::uu::uu::uu::uu::uu::uu::uu::uu::uu::uu::[]),h22⟩):=kB
theorem aah (k wl:Nat) (h:Hp):evF Tryz.prog xM (k+1) wl 122 [b] h=ak (xX (xS k) 122 wl k false) Tryz.f122 [b] h:=by kernel_rfl
theorem HD (zz:List V) (h:Hp):yO s k wl 122 Tryz.f122 ww 6 m0 ac rq ⟨(b::g::e::j::l::o::r::u::y::n::p::z::A::q::D::E::B::G::F::L::I::M::J::O::R::Q::N::Y::U::Z::W::X::T::t1::t2::t3::t4::t0::tf::te::tg::t6::t5::tb::t7::tc::t8::t9::td::ta::th::ti::tj::tk::tl::tm::tn::tp::tq::tr::q4::q5::q6::ts::tt::tu::tv::tw::tx::ty::tz::tA::tB::qb::qc::qd::tC::tD::tE::tF::tG::tH::tI::tJ::tK::tL::tM::tN::q7::q8::q9::qa::tO::tP::tQ::tR::tS::tT::tU::tV::tW::tX::tY::tZ::q0::q1::q2::q3::zz),h⟩ =
 bm (aO I (.lit (.bool true)) O) h fun v25 h26=>
 cnd v25 (
 bm (aL b h26) h26 fun v27 h28=>
 bm (aa s.P 168 v27 0) h28 fun v29 h30=>
 bm (aa s.P 65 v29 0) h30 fun v31 h32=>
 bs (aj s.P wl 3 v31 (.lit (.int .i64 8)) h32) fun h33=>
 bm (aL b h33) h33 fun v34 h35=>
 bm (aa s.P 168 v34 0) h35 fun v36 h37=>
 bm (aa s.P 65 v36 2) h37 fun v38 h39=>
 bm (aa s.P 55 v38 3) h39 fun v40 h41=>
 bs (aj s.P wl 46 v40 (.lit (.int .u64 0)) h41) fun h42=>
 bm (aL b h42) h42 fun v43 h44=>
 bm (aa s.P 168 v43 0) h44 fun v45 h46=>
 bm (aa s.P 65 v45 4) h46 fun v47 h48=>
 bs (aj s.P wl 3 v47 (.lit (.int .i64 0)) h48) fun h49=>
 some (.tup [],h49)) (
 bm (aq s.P .sub 3 e (.lit (.int .i64 2))) h26 fun v50 h51=>
 bm (aq s.P .quo 3 v50 (.lit (.int .i64 2))) h51 fun v52 h53=>
 bm (aq s.P .eql 3 e (.lit (.int .i64 0))) h53 fun v54 h55=>
 cnd v54 (
 bm (aL b h55) h55 fun v56 h57=>
 bm (aa s.P 168 v56 3) h57 fun v58 h59=>
 bm (ab s.P 26 v58 h59) h59 fun v60 h61=>
 bp (yC s k wl 122 false true (.fn (.func 27) [] []) [v60,(.lit (.int .i64 4))] h61) fun v62 h63=>
 bm (aL b h63) h63 fun v64 h65=>
 bm (aa s.P 168 v64 0) h65 fun v66 h67=>
 bm (aa s.P 65 v66 2) h67 fun v68 h69=>
 bm (aa s.P 55 v68 3) h69 fun v70 h71=>
 bs (aj s.P wl 46 v70 v62 h71) fun h72=>
 au (xX s 122 wl k false) (av s.P Tryz.f122) nt .norm ⟨(b::g::e::j::(.lit (.bool false))::v52::r::u::y::n::p::z::A::q::D::E::B::G::F::L::I::M::J::O::v25::Q::N::Y::U::Z::W::X::T::t1::t2::t3::t4::t0::e::v50::v52::t6::t5::tb::t7::tc::t8::t9::td::ta::th::ti::tj::tk::tl::tm::tn::tp::tq::tr::v54::e::v54::b::b::v56::v58::v60::v62::v64::v66::v68::v70::qb::qc::qd::tC::tD::tE::tF::tG::tH::tI::tJ::tK::tL::tM::tN::q7::q8::q9::qa::tO::tP::tQ::tR::tS::tT::tU::tV::tW::tX::tY::tZ::q0::q1::q2::q3::zz),h72⟩) (
 bm (aq s.P .eql 3 e (.lit (.int .i64 1))) h55 fun v73 h74=>
 cnd v73 (
 bm (aL b h74) h74 fun v75 h76=>
 bm (aa s.P 168 v75 3) h76 fun v77 h78=>
 bm (ab s.P 26 v77 h78) h78 fun v79 h80=>
 bp (yC s k wl 122 true true (.fn (.func 27) [] []) [v79,(.lit (.int .i64 5))] h80) fun v81 h82=>
 stO h74.length b (
 bm (aL b h82) h82 fun v83 h84=>
 bm (aa s.P 168 v83 0) h84 fun v85 h86=>
 bm (aa s.P 65 v85 2) h86 fun v87 h88=>
 bm (aa s.P 55 v87 3) h88 fun v89 h90=>
 stO h74.length v89 (
 bm (ab s.P 46 v89 h90) h90 fun v91 h92=>
 bm (aq s.P .neq 46 v81 v91) h92 fun v93 h94=>
 au (xX s 122 wl k false) (av s.P Tryz.f122) nt .norm ⟨(b::g::e::j::v93::v52::r::u::y::n::p::z::A::q::D::E::B::G::F::L::I::M::J::O::v25::Q::N::Y::U::Z::W::X::T::t1::t2::t3::t4::t0::e::v50::v52::t6::t5::tb::t7::tc::t8::t9::td::ta::th::ti::tj::tk::tl::tm::tn::tp::tq::tr::v54::e::v54::ts::tt::tu::tv::tw::tx::ty::tz::tA::tB::v73::e::v73::b::v75::v77::v79::v81::b::v83::v85::v87::v89::v91::v93::q7::q8::q9::qa::tO::tP::tQ::tR::tS::tT::tU::tV::tW::tX::tY::tZ::q0::q1::q2::q3::zz),h94⟩))) (
 bm (aq s.P .rem 3 e (.lit (.int .i64 2))) h74 fun v95 h96=>
 bm (aq s.P .eql 3 v95 (.lit (.int .i64 0))) h96 fun v97 h98=>
 cnd v97 (
 stO h98.length b (
 bm (aL b h98) h98 fun v99 h100=>
 bm (aa s.P 168 v99 3) h100 fun v101 h102=>
 stO h98.length v101 (
 bm (ab s.P 26 v101 h102) h102 fun v103 h104=>
 bm (aL b h104) h104 fun v105 h106=>
 bm (aa s.P 168 v105 1) h106 fun v107 h108=>
 bm (ab s.P 23 v107 h108) h108 fun v109 h110=>
 bp (yC s k wl 122 true true (.fn (.func 107) [] []) [v109,v52] h110) fun v111 h112=>
 bp (yC s k wl 122 false true (.fn (.func 27) [] []) [v103,v111] h112) fun v113 h114=>
 bm (aL b h114) h114 fun v115 h116=>
 bm (aa s.P 168 v115 0) h116 fun v117 h118=>
 bm (aa s.P 65 v117 2) h118 fun v119 h120=>
 bm (aa s.P 55 v119 3) h120 fun v121 h122=>
 bs (aj s.P wl 46 v121 v113 h122) fun h123=>
 au (xX s 122 wl k false) (av s.P Tryz.f122) nt .norm ⟨(b::g::e::j::(.lit (.bool false))::v52::r::u::y::n::p::z::A::q::D::E::B::G::F::L::I::M::J::O::v25::Q::N::Y::U::Z::W::X::T::t1::t2::t3::t4::t0::e::v50::v52::t6::t5::tb::t7::tc::t8::t9::td::ta::th::ti::tj::tk::tl::tm::tn::tp::tq::tr::v54::e::v54::ts::tt::tu::tv::tw::tx::ty::tz::tA::tB::v73::e::v73::tC::tD::tE::tF::tG::tH::tI::tJ::tK::tL::tM::tN::v97::e::v95::v97::b::b::v99::v101::v103::b::v105::v107::v109::v52::v111::v113::v115::v117::v119::v121::zz),h123⟩))) (
 stO h98.length b (
 bm (aL b h98) h98 fun v124 h125=>
 bm (aa s.P 168 v124 3) h125 fun v126 h127=>
 stO h98.length v126 (
 bm (ab s.P 26 v126 h127) h127 fun v128 h129=>
 bm (aL b h129) h129 fun v130 h131=>
 bm (aa s.P 168 v130 1) h131 fun v132 h133=>
 bm (ab s.P 23 v132 h133) h133 fun v134 h135=>
 bp (yC s k wl 122 true true (.fn (.func 108) [] []) [v134,v52] h135) fun v136 h137=>
 bp (yC s k wl 122 true true (.fn (.func 27) [] []) [v128,v136] h137) fun v138 h139=>
 stO h98.length b (
 bm (aL b h139) h139 fun v140 h141=>
 bm (aa s.P 168 v140 0) h141 fun v142 h143=>
 bm (aa s.P 65 v142 2) h143 fun v144 h145=>
 bm (aa s.P 55 v144 3) h145 fun v146 h147=>
 stO h98.length v146 (
 bm (ab s.P 46 v146 h147) h147 fun v148 h149=>
 bp (yC s k wl 122 false true (.fn (.func 106) [] []) [v138,v148] h149) fun v150 h151=>
 bm (aq s.P .gtr 3 v150 (.lit (.int .i64 0))) h151 fun v152 h153=>
 au (xX s 122 wl k false) (av s.P Tryz.f122) nt .norm ⟨(b::g::e::j::v152::v52::r::u::y::n::p::z::A::q::D::E::B::G::F::L::I::M::J::O::v25::Q::N::Y::U::Z::W::X::T::t1::t2::t3::t4::t0::e::v50::v52::b::v124::v126::v128::b::v130::v132::v134::v52::v136::v138::b::v140::v142::v144::v146::v148::v150::v152::v54::e::v54::ts::tt::tu::tv::tw::tx::ty::tz::tA::tB::v73::e::v73::tC::tD::tE::tF::tG::tH::tI::tJ::tK::tL::tM::tN::v97::e::v95::v97::tO::tP::tQ::tR::tS::tT::tU::tV::tW::tX::tY::tZ::q0::q1::q2::q3::zz),h153⟩)))))))):=kG
theorem Jx (h:Hp):au (xX s 122 wl k false) (av s.P Tryz.f122) nt .norm ⟨(b::g::e::j::l::o::r::u::y::n::p::z::A::q::D::E::B::G::F::L::I::M::J::O::R::Q::N::Y::U::Z::W::X::T::t1::t2::t3::t4::t0::tf::te::tg::t6::t5::tb::t7::tc::t8::t9::td::ta::th::ti::tj::tk::tl::tm::tn::tp::tq::tr::q4::q5::q6::ts::tt::tu::tv::tw::tx::ty::tz::tA::tB::qb::qc::qd::tC::tD::tE::tF::tG::tH::tI::tJ::tK::tL::tM::tN::q7::q8::q9::qa::tO::tP::tQ::tR::tS::tT::tU::tV::tW::tX::tY::tZ::q0::q1::q2::q3::qe::qf::qg::qh::qi::qj::qk::ql::qm::qn::qo::qp::qq::qr::qs::qt::qu::qv::qw::qx::qy::qz::qA::qB::qC::qD::qE::qF::qG::qH::qI::qJ::[]),h⟩ =
 cnd l (
 bp (yC s k wl 122 false true (.fn (.func 157) [] []) [b,(.lit (.int .i64 1))] h) fun v154 h155=>
 some (.tup [],h155)) (
 bm (aL b h) h fun v156 h157=>
 bm (aa s.P 168 v156 0) h157 fun v158 h159=>
 bm (aa s.P 65 v158 4) h159 fun v160 h161=>
 bm (ab s.P 3 v160 h161) h161 fun v162 h163=>
 bm (aq s.P .add 3 v162 (.lit (.int .i64 1))) h163 fun v164 h165=>
 bm (aL b h165) h165 fun v166 h167=>
 bm (aa s.P 168 v166 0) h167 fun v168 h169=>
 bm (aa s.P 65 v168 4) h169 fun v170 h171=>
 bs (aj s.P wl 3 v170 v164 h171) fun h172=>
 bm (aL b h172) h172 fun v173 h174=>
 bm (aa s.P 168 v173 0) h174 fun v175 h176=>
 bm (aa s.P 65 v175 4) h176 fun v177 h178=>
 bm (ab s.P 3 v177 h178) h178 fun v179 h180=>
 bm (aq s.P .eql 3 v179 j) h180 fun v181 h182=>
 cnd v181 (
 bm (aL b h182) h182 fun v183 h184=>
 bm (aa s.P 168 v183 0) h184 fun v185 h186=>
 bm (aa s.P 65 v185 0) h186 fun v187 h188=>
 bs (aj s.P wl 3 v187 (.lit (.int .i64 8)) h188) fun h189=>
 bm (aL b h189) h189 fun v190 h191=>
 bm (aa s.P 168 v190 0) h191 fun v192 h193=>
 bm (aa s.P 65 v192 2) h193 fun v194 h195=>
 bm (aa s.P 55 v194 3) h195 fun v196 h197=>
 bs (aj s.P wl 46 v196 (.lit (.int .u64 0)) h197) fun h198=>
 bm (aL b h198) h198 fun v199 h200=>
 bm (aa s.P 168 v199 0) h200 fun v201 h202=>
 bm (aa s.P 65 v201 4) h202 fun v203 h204=>
 bs (aj s.P wl 3 v203 (.lit (.int .i64 0)) h204) fun h205=>
 some (.tup [],h205)) (
 some (.tup [],h182))):=kR
theorem oQ (cx:Cx) (K:Out→St→Option (V×Hp)) (s:St):au cx K rq .ret s=K .ret s:=by kernel_rfl
theorem rz (cx:Cx) (K:Out→St→Option (V×Hp)) (s:St):au cx K nt .ret s=K .ret s:=by kernel_rfl
-- names: U1,HD,Jx,oQ,rz
theorem Wy (h:Hp):ak (xX s 123 wl k false) Tryz.f123 [b] h =
 bp (yC s k wl 123 false true (.fn (.func 156) [] []) [b] h) fun v1 h2=>
 cnd v1 (
 bp (yC s k wl 123 false true (.fn (.func 157) [] []) [b,(.lit (.int .i64 1))] h2) fun v3 h4=>
 some (.tup [],h4)) (
 some (.tup [],h2)):=kB
theorem ab6 (k wl:Nat) (h:Hp):evF Tryz.prog xM (k+1) wl 123 [b] h=ak (xX (xS k) 123 wl k false) Tryz.f123 [b] h:=by kernel_rfl
-- names: Wy,
theorem U9 (h:Hp):ak (xX s 124 wl k false) Tryz.f124 [b] h =
 bm (aL b h) h fun v1 h2=>
 bm (aa s.P 168 v1 2) h2 fun v3 h4=>
 bm (ab s.P 24 v3 h4) h4 fun v5 h6=>
 bm (aL b h6) h6 fun v7 h8=>
 bm (aa s.P 168 v7 0) h8 fun v9 h10=>
 bm (aa s.P 65 v9 1) h10 fun v11 h12=>
 bm (ab s.P 63 v11 h12) h12 fun v13 h14=>
 bp (yC s k wl 124 false true (.fn (.func 162) [] []) [v5,v13] h14) fun v15 h16=>
 bm (pW s.P 194 v15 0) h16 fun v17 h18=>
 bm (aq s.P .eql 3 v17 (.lit (.int .i64 1))) h18 fun v19 h20=>
 cnd v19 (
 bm (aL b h20) h20 fun v21 h22=>
 bm (aa s.P 168 v21 2) h22 fun v23 h24=>
 bm (ab s.P 24 v23 h24) h24 fun v25 h26=>
 bm (aL b h26) h26 fun v27 h28=>
 bm (aa s.P 168 v27 0) h28 fun v29 h30=>
 bm (aa s.P 65 v29 1) h30 fun v31 h32=>
 bm (ab s.P 63 v31 h32) h32 fun v33 h34=>
 bp (yC s k wl 124 false true (.fn (.func 163) [] []) [v25,v33] h34) fun v35 h36=>
 bm (aL b h36) h36 fun v37 h38=>
 bm (aa s.P 168 v37 0) h38 fun v39 h40=>
 bm (aa s.P 65 v39 1) h40 fun v41 h42=>
 bs (aj s.P wl 63 v41 v35 h42) fun h43=>
 some (.tup [],h43)) (
 bm (aq s.P .eql 3 v17 (.lit (.int .i64 2))) h20 fun v44 h45=>
 cnd v44 (
 bm (aL b h45) h45 fun v46 h47=>
 bm (aa s.P 168 v46 0) h47 fun v48 h49=>
 bm (aa s.P 65 v48 0) h49 fun v50 h51=>
 bs (aj s.P wl 3 v50 (.lit (.int .i64 10)) h51) fun h52=>
 some (.tup [],h52)) (
 bm (aq s.P .eql 3 v17 (.lit (.int .i64 3))) h45 fun v53 h54=>
 cnd v53 (
 bm (aL b h54) h54 fun v55 h56=>
 bm (aa s.P 168 v55 0) h56 fun v57 h58=>
 bm (aa s.P 65 v57 0) h58 fun v59 h60=>
 bs (aj s.P wl 3 v59 (.lit (.int .i64 15)) h60) fun h61=>
 some (.tup [],h61)) (
 bm (aL b h54) h54 fun v62 h63=>
 bm (aa s.P 168 v62 4) h63 fun v64 h65=>
 bm (ab s.P 3 v64 h65) h65 fun v66 h67=>
 bp (yC s k wl 124 false true (.fn (.func 160) [] []) [b,(.lit (.int .i64 0)),(.lit (.int .i64 1)),v66,(.lit (.int .u64 0))] h67) fun v68 h69=>
 some (.tup [],h69)))):=kB
theorem acW (k wl:Nat) (h:Hp):evF Tryz.prog xM (k+1) wl 124 [b] h=ak (xX (xS k) 124 wl k false) Tryz.f124 [b] h:=by kernel_rfl
-- names: U9,
theorem UR (h:Hp):ak (xX s 125 wl k false) Tryz.f125 [b] h =
 bp (ar s.P 194 h) fun v1 h2=>
 bm (aL b h2) h2 fun v3 h4=>
 bm (aa s.P 168 v3 2) h4 fun v5 h6=>
 bm (ab s.P 24 v5 h6) h6 fun v7 h8=>
 bm (aL b h8) h8 fun v9 h10=>
 bm (aa s.P 168 v9 0) h10 fun v11 h12=>
 bm (aa s.P 65 v11 1) h12 fun v13 h14=>
 bm (ab s.P 63 v13 h14) h14 fun v15 h16=>
 bp (yC s k wl 125 true true (.fn (.func 162) [] []) [v7,v15] h16) fun v17 h18=>
 bs (aj s.P wl 194 v1 v17 h18) fun h19=>
 bm (aa s.P 194 v1 0) h19 fun v20 h21=>
 bm (ab s.P 3 v20 h21) h21 fun v22 h23=>
 bm (aq s.P .neq 3 v22 (.lit (.int .i64 2))) h23 fun v24 h25=>
 cnd v24 (
 bp (yC s k wl 125 false true (.fn (.func 157) [] []) [b,(.lit (.int .i64 9))] h25) fun v26 h27=>
 some (.tup [],h27)) (
 bp (yC s k wl 125 false true (.fn (.func 159) [] []) [b,(.lit (.int .i64 0)),(.lit (.int .u64 1))] h25) fun v28 h29=>
 bm (aa s.P 194 v1 1) h29 fun v30 h31=>
 bm (ab s.P 3 v30 h31) h31 fun v32 h33=>
 bp (yC s k wl 125 false true (.fn (.func 164) [] []) [b,(.lit (.int .i64 3)),v32] h33) fun v34 h35=>
 bm (aL b h35) h35 fun v36 h37=>
 bm (aa s.P 168 v36 2) h37 fun v38 h39=>
 bm (ab s.P 24 v38 h39) h39 fun v40 h41=>
 bm (aL b h41) h41 fun v42 h43=>
 bm (aa s.P 168 v42 0) h43 fun v44 h45=>
 bm (aa s.P 65 v44 1) h45 fun v46 h47=>
 bm (ab s.P 63 v46 h47) h47 fun v48 h49=>
 bp (yC s k wl 125 false true (.fn (.func 163) [] []) [v40,v48] h49) fun v50 h51=>
 bm (aL b h51) h51 fun v52 h53=>
 bm (aa s.P 168 v52 0) h53 fun v54 h55=>
 bm (aa s.P 65 v54 1) h55 fun v56 h57=>
 bs (aj s.P wl 63 v56 v50 h57) fun h58=>
 bm (aL b h58) h58 fun v59 h60=>
 bm (aa s.P 168 v59 4) h60 fun v61 h62=>
 bm (ab s.P 3 v61 h62) h62 fun v63 h64=>
 bm (aa s.P 194 v1 1) h64 fun v65 h66=>
 bm (ab s.P 3 v65 h66) h66 fun v67 h68=>
 bm (fj s.P 3 46 v67) h68 fun v69 h70=>
 bp (yC s k wl 125 false true (.fn (.func 160) [] []) [b,(.lit (.int .i64 11)),(.lit (.int .i64 0)),v63,v69] h70) fun v71 h72=>
 some (.tup [],h72)):=kB
theorem aay (k wl:Nat) (h:Hp):evF Tryz.prog xM (k+1) wl 125 [b] h=ak (xX (xS k) 125 wl k false) Tryz.f125 [b] h:=by kernel_rfl
-- names: UR,
theorem YQ (h:Hp):ak (xX s 126 wl k false) Tryz.f126 [b] h =
 bp (yC s k wl 126 false true (.fn (.func 156) [] []) [b] h) fun v1 h2=>
 bm (vUn .not v1) h2 fun v3 h4=>
 cnd v3 (
 some (.tup [],h4)) (
 bm (aL b h4) h4 fun v5 h6=>
 bm (aa s.P 168 v5 0) h6 fun v7 h8=>
 bm (aa s.P 65 v7 2) h8 fun v9 h10=>
 bm (aa s.P 55 v9 6) h10 fun v11 h12=>
 bm (ab s.P 3 v11 h12) h12 fun v13 h14=>
 bm (aq s.P .eql 3 v13 (.lit (.int .i64 2))) h14 fun v15 h16=>
 cnd v15 (
 bm (aL b h16) h16 fun v17 h18=>
 bm (aa s.P 168 v17 4) h18 fun v19 h20=>
 bm (ab s.P 3 v19 h20) h20 fun v21 h22=>
 bm (aL b h22) h22 fun v23 h24=>
 bm (aa s.P 168 v23 0) h24 fun v25 h26=>
 bm (aa s.P 65 v25 2) h26 fun v27 h28=>
 bm (aa s.P 55 v27 3) h28 fun v29 h30=>
 bm (ab s.P 46 v29 h30) h30 fun v31 h32=>
 bp (yC s k wl 126 false true (.fn (.func 160) [] []) [b,(.lit (.int .i64 12)),(.lit (.int .i64 3)),v21,v31] h32) fun v33 h34=>
 some (.tup [],h34)) (
 bp (yC s k wl 126 false true (.fn (.func 157) [] []) [b,(.lit (.int .i64 13))] h16) fun v35 h36=>
 some (.tup [],h36))):=kB
theorem adb (k wl:Nat) (h:Hp):evF Tryz.prog xM (k+1) wl 126 [b] h=ak (xX (xS k) 126 wl k false) Tryz.f126 [b] h:=by kernel_rfl
-- names: YQ,
theorem XY (h:Hp):ak (xX s 127 wl k false) Tryz.f127 [b] h =
 bp (yC s k wl 127 false true (.fn (.func 156) [] []) [b] h) fun v1 h2=>
 bm (vUn .not v1) h2 fun v3 h4=>
 cnd v3 (
 some (.tup [],h4)) (
 bm (aL b h4) h4 fun v5 h6=>
 bm (aa s.P 168 v5 0) h6 fun v7 h8=>
 bm (aa s.P 65 v7 2) h8 fun v9 h10=>
 bm (aa s.P 55 v9 6) h10 fun v11 h12=>
 bm (ab s.P 3 v11 h12) h12 fun v13 h14=>
 bm (aq s.P .eql 3 v13 (.lit (.int .i64 2))) h14 fun v15 h16=>
 cnd v15 (
 bm (aL b h16) h16 fun v17 h18=>
 bm (aa s.P 168 v17 0) h18 fun v19 h20=>
 bm (aa s.P 65 v19 2) h20 fun v21 h22=>
 bm (aa s.P 55 v21 3) h22 fun v23 h24=>
 bm (ab s.P 46 v23 h24) h24 fun v25 h26=>
 bp (yC s k wl 127 false true (.fn (.func 157) [] []) [b,(.lit (.int .i64 9))] h26) fun v27 h28=>
 bp (yC s k wl 127 false true (.fn (.func 158) [] []) [b,v25] h28) fun v29 h30=>
 some (.tup [],h30)) (
 bp (yC s k wl 127 false true (.fn (.func 157) [] []) [b,(.lit (.int .i64 13))] h16) fun v31 h32=>
 some (.tup [],h32))):=kB
theorem ab1 (k wl:Nat) (h:Hp):evF Tryz.prog xM (k+1) wl 127 [b] h=ak (xX (xS k) 127 wl k false) Tryz.f127 [b] h:=by kernel_rfl
-- names: XY,
theorem Za (h:Hp):ak (xX s 128 wl k false) Tryz.f128 [b] h =
 bm (aL b h) h fun v1 h2=>
 bm (aa s.P 168 v1 3) h2 fun v3 h4=>
 bm (ab s.P 26 v3 h4) h4 fun v5 h6=>
 bp (yC s k wl 128 false true (.fn (.func 27) [] []) [v5,(.lit (.int .i64 1))] h6) fun v7 h8=>
 bm (aq s.P .eql 46 v7 (.lit (.int .u64 0))) h8 fun v9 h10=>
 cnd v9 (
 bm (aL b h10) h10 fun v11 h12=>
 bm (aa s.P 168 v11 4) h12 fun v13 h14=>
 bm (ab s.P 3 v13 h14) h14 fun v15 h16=>
 bp (yC s k wl 128 false true (.fn (.func 160) [] []) [b,(.lit (.int .i64 14)),(.lit (.int .i64 6)),v15,(.lit (.int .u64 0))] h16) fun v17 h18=>
 some (.tup [],h18)) (
 bp (yC s k wl 128 false true (.fn (.func 157) [] []) [b,(.lit (.int .i64 9))] h10) fun v19 h20=>
 some (.tup [],h20)):=kB
theorem aal (k wl:Nat) (h:Hp):evF Tryz.prog xM (k+1) wl 128 [b] h=ak (xX (xS k) 128 wl k false) Tryz.f128 [b] h:=by kernel_rfl
-- names: Za,
theorem Zf (h:Hp):ak (xX s 129 wl k false) Tryz.f129 [b] h =
 bp (yC s k wl 129 false true (.fn (.func 156) [] []) [b] h) fun v1 h2=>
 cnd v1 (
 bp (yC s k wl 129 false true (.fn (.func 157) [] []) [b,(.lit (.int .i64 9))] h2) fun v3 h4=>
 some (.tup [],h4)) (
 some (.tup [],h2)):=kB
theorem aa5 (k wl:Nat) (h:Hp):evF Tryz.prog xM (k+1) wl 129 [b] h=ak (xX (xS k) 129 wl k false) Tryz.f129 [b] h:=by kernel_rfl
-- names: Zf,
noncomputable def wZ:List Fr:=[.seq (al (am Tryz.f130) [1,1,1,1,1])]
theorem VK (h:Hp):ak (xX s 130 wl k false) Tryz.f130 [b] h =
 bp (ar s.P 194 h) fun v1 h2=>
 bm (aL b h2) h2 fun v3 h4=>
 bm (aa s.P 168 v3 2) h4 fun v5 h6=>
 bm (ab s.P 24 v5 h6) h6 fun v7 h8=>
 bm (aL b h8) h8 fun v9 h10=>
 bm (aa s.P 168 v9 0) h10 fun v11 h12=>
 bm (aa s.P 65 v11 1) h12 fun v13 h14=>
 bm (ab s.P 63 v13 h14) h14 fun v15 h16=>
 bp (yC s k wl 130 true true (.fn (.func 162) [] []) [v7,v15] h16) fun v17 h18=>
 bs (aj s.P wl 194 v1 v17 h18) fun h19=>
 bm (aa s.P 194 v1 0) h19 fun v20 h21=>
 bm (ab s.P 3 v20 h21) h21 fun v22 h23=>
 bm (aq s.P .neq 3 v22 (.lit (.int .i64 3))) h23 fun v24 h25=>
 cnd v24 (
 bp (yC s k wl 130 false true (.fn (.func 157) [] []) [b,(.lit (.int .i64 9))] h25) fun v26 h27=>
 some (.tup [],h27)) (
 bp (yC s k wl 130 false true (.fn (.func 159) [] []) [b,(.lit (.int .i64 0)),(.lit (.int .u64 18446744073709551615))] h25) fun v28 h29=>
 bm (aa s.P 194 v1 1) h29 fun v30 h31=>
 bm (ab s.P 3 v30 h31) h31 fun v32 h33=>
 bp (yC s k wl 130 false true (.fn (.func 164) [] []) [b,(.lit (.int .i64 4)),v32] h33) fun v34 h35=>
 bm (aq s.P .eql 46 v28 (.lit (.int .u64 1))) h35 fun v36 h37=>
 cnd v36 (
 bp (yC s k wl 130 false true (.fn (.func 164) [] []) [b,(.lit (.int .i64 5)),(.lit (.int .i64 0))] h37) fun v38 h39=>
 au (xX s 130 wl k false) (av s.P Tryz.f130) wZ .norm ⟨[b,uu,v1,v28,b,v3,v5,v7,b,v9,v11,v13,v15,v17,v20,v22,v24,uu,uu,b,v28,b,v30,v32,v34,v28,v36,b,v38,uu,uu,uu,uu,uu,uu,uu,uu,uu,uu,uu,uu,uu,uu,uu,uu,uu,uu,uu,uu,uu,uu,uu,uu,uu,uu,uu,uu,uu],h39⟩) (
 au (xX s 130 wl k false) (av s.P Tryz.f130) wZ .norm ⟨[b,uu,v1,v28,b,v3,v5,v7,b,v9,v11,v13,v15,v17,v20,v22,v24,uu,uu,b,v28,b,v30,v32,v34,v28,v36,uu,uu,uu,uu,uu,uu,uu,uu,uu,uu,uu,uu,uu,uu,uu,uu,uu,uu,uu,uu,uu,uu,uu,uu,uu,uu,uu,uu,uu,uu,uu],h37⟩)):=kB
theorem ac5 (k wl:Nat) (h:Hp):evF Tryz.prog xM (k+1) wl 130 [b] h=ak (xX (xS k) 130 wl k false) Tryz.f130 [b] h:=by kernel_rfl
theorem G7 (h:Hp):au (xX s 130 wl k false) (av s.P Tryz.f130) wZ .norm ⟨[b,g,e,j,l,o,r,u,y,n,p,z,A,q,D,E,B,G,F,L,I,M,J,O,R,Q,N,Y,U,Z,W,X,T,t1,t2,t3,t4,t0,tf,te,tg,t6,t5,tb,t7,tc,t8,t9,td,ta,th,ti,tj,tk,tl,tm,tn,tp],h⟩ =
 bm (aL b h) h fun v40 h41=>
 bm (aa s.P 168 v40 2) h41 fun v42 h43=>
 bm (ab s.P 24 v42 h43) h43 fun v44 h45=>
 bm (aL b h45) h45 fun v46 h47=>
 bm (aa s.P 168 v46 0) h47 fun v48 h49=>
 bm (aa s.P 65 v48 1) h49 fun v50 h51=>
 bm (ab s.P 63 v50 h51) h51 fun v52 h53=>
 bp (yC s k wl 130 false true (.fn (.func 163) [] []) [v44,v52] h53) fun v54 h55=>
 bm (aL b h55) h55 fun v56 h57=>
 bm (aa s.P 168 v56 0) h57 fun v58 h59=>
 bm (aa s.P 65 v58 1) h59 fun v60 h61=>
 bs (aj s.P wl 63 v60 v54 h61) fun h62=>
 bm (aL b h62) h62 fun v63 h64=>
 bm (aa s.P 168 v63 0) h64 fun v65 h66=>
 bm (aa s.P 65 v65 1) h66 fun v67 h68=>
 bm (ab s.P 63 v67 h68) h68 fun v69 h70=>
 bp (aX s.P 63 v69 h70) fun v71 h72=>
 bm (aq s.P .eql 3 v71 (.lit (.int .i64 0))) h72 fun v73 h74=>
 cnd v73 (
 bm (aL b h74) h74 fun v75 h76=>
 bm (aa s.P 168 v75 4) h76 fun v77 h78=>
 bm (ab s.P 3 v77 h78) h78 fun v79 h80=>
 bp (yC s k wl 130 false true (.fn (.func 160) [] []) [b,(.lit (.int .i64 0)),(.lit (.int .i64 1)),v79,(.lit (.int .u64 0))] h80) fun v81 h82=>
 some (.tup [],h82)) (
 bp (yC s k wl 130 false true (.fn (.func 157) [] []) [b,(.lit (.int .i64 9))] h74) fun v83 h84=>
 some (.tup [],h84)):=kR
theorem rE (cx:Cx) (K:Out→St→Option (V×Hp)) (s:St):au cx K wZ .ret s=K .ret s:=by kernel_rfl
-- names: VK,G7,rE
noncomputable def ry:List Fr:=[.seq (al (am Tryz.f156) [1,1,0,1,0,1]),.block 0,.seq (al (am Tryz.f156) [1,1,1])]
noncomputable def me:List Fr:=[.block 0,.seq (al (am Tryz.f156) [1,1,1])]
theorem Zc (h:Hp):ak (xX s 156 wl k false) Tryz.f156 [b] h =
 bm (aL b h) h fun v1 h2=>
 bm (aa s.P 168 v1 0) h2 fun v3 h4=>
 bm (aa s.P 65 v3 2) h4 fun v5 h6=>
 bm (aa s.P 55 v5 0) h6 fun v7 h8=>
 bm (ab s.P 3 v7 h8) h8 fun v9 h10=>
 bm (aq s.P .eql 3 v9 (.lit (.int .i64 0))) h10 fun v11 h12=>
 cnd v11 (
 au (xX s 156 wl k false) (av s.P Tryz.f156) ry .norm ⟨[b,uu,(.lit (.bool false)),(.fn (.func 134) [] []),b,v1,v3,v5,v7,v9,v11,v11,uu,uu,uu,uu,uu,uu,uu,uu,uu,uu,uu,uu,uu,uu,uu,uu,uu,uu,uu,uu,uu,uu,uu,uu,uu,uu,uu,uu,uu,uu,uu,uu,uu,uu,uu,uu],h12⟩) (
 bm (aq s.P .eql 3 v9 (.lit (.int .i64 1))) h12 fun v13 h14=>
 cnd v13 (
 au (xX s 156 wl k false) (av s.P Tryz.f156) ry .norm ⟨[b,uu,(.lit (.bool false)),(.fn (.func 134) [] []),b,v1,v3,v5,v7,v9,v13,v11,v13,uu,uu,uu,uu,uu,uu,uu,uu,uu,uu,uu,uu,uu,uu,uu,uu,uu,uu,uu,uu,uu,uu,uu,uu,uu,uu,uu,uu,uu,uu,uu,uu,uu,uu,uu],h14⟩) (
 bm (aq s.P .eql 3 v9 (.lit (.int .i64 2))) h14 fun v15 h16=>
 au (xX s 156 wl k false) (av s.P Tryz.f156) ry .norm ⟨[b,uu,(.lit (.bool false)),(.fn (.func 134) [] []),b,v1,v3,v5,v7,v9,v15,v11,v13,v15,uu,uu,uu,uu,uu,uu,uu,uu,uu,uu,uu,uu,uu,uu,uu,uu,uu,uu,uu,uu,uu,uu,uu,uu,uu,uu,uu,uu,uu,uu,uu,uu,uu,uu],h16⟩)):=kB
theorem aaP (k wl:Nat) (h:Hp):evF Tryz.prog xM (k+1) wl 156 [b] h=ak (xX (xS k) 156 wl k false) Tryz.f156 [b] h:=by kernel_rfl
theorem JR (s:Sys) (k wl:Nat) (zz:List V) (h:Hp):au (xX s 156 wl k false) (av s.P Tryz.f156) ry .norm ⟨(b::g::e::j::l::o::r::u::y::n::p::z::A::q::D::E::B::zz),h⟩ =
 cnd p (
 au (xX s 156 wl k false) (av s.P Tryz.f156) me .norm ⟨(b::g::e::(.fn (.func 180) [] [])::l::o::r::u::y::n::p::z::A::q::D::E::B::zz),h⟩) (
 bm (aq s.P .eql 3 n (.lit (.int .i64 3))) h fun v17 h18=>
 cnd v17 (
 cnd v17 (
 au (xX s 156 wl k false) (av s.P Tryz.f156) me .norm ⟨(b::g::e::(.fn (.func 135) [] [])::l::o::r::u::y::n::p::z::A::q::v17::v17::B::zz),h18⟩) (
 au (xX s 156 wl k false) (av s.P Tryz.f156) me .norm ⟨(b::g::e::j::l::o::r::u::y::n::p::z::A::q::v17::v17::B::zz),h18⟩)) (
 bm (aq s.P .eql 3 n (.lit (.int .i64 4))) h18 fun v19 h20=>
 cnd v19 (
 au (xX s 156 wl k false) (av s.P Tryz.f156) me .norm ⟨(b::g::e::(.fn (.func 135) [] [])::l::o::r::u::y::n::p::z::A::q::v19::v17::v19::zz),h20⟩) (
 au (xX s 156 wl k false) (av s.P Tryz.f156) me .norm ⟨(b::g::e::j::l::o::r::u::y::n::p::z::A::q::v19::v17::v19::zz),h20⟩))):=kR
theorem JC (h:Hp):au (xX s 156 wl k false) (av s.P Tryz.f156) me .norm ⟨[b,g,e,j,l,o,r,u,y,n,p,z,A,q,D,E,B,G,F,L,I,M,J,O,R,Q,N,Y,U,Z,W,X,T,t1,t2,t3,t4,t0,tf,te,tg,t6,t5,tb,t7,tc,t8,t9],h⟩ =
 bm (aL b h) h fun v21 h22=>
 bm (aa s.P 168 v21 1) h22 fun v23 h24=>
 bm (ab s.P 23 v23 h24) h24 fun v25 h26=>
 bm (aL b h26) h26 fun v27 h28=>
 bm (aa s.P 168 v27 3) h28 fun v29 h30=>
 bm (ab s.P 26 v29 h30) h30 fun v31 h32=>
 bm (aL b h32) h32 fun v33 h34=>
 bm (aa s.P 168 v33 0) h34 fun v35 h36=>
 bm (aa s.P 65 v35 2) h36 fun v37 h38=>
 bm (ab s.P 55 v37 h38) h38 fun v39 h40=>
 bp (yC s k wl 156 false true j [v25,v31,v39] h40) fun v41 h42=>
 bm (ao v41 0) h42 fun v43 h44=>
 bm (ao v41 1) h44 fun v45 h46=>
 bm (aL b h46) h46 fun v47 h48=>
 bm (aa s.P 168 v47 3) h48 fun v49 h50=>
 bs (aj s.P wl 26 v49 v43 h50) fun h51=>
 bm (aL b h51) h51 fun v52 h53=>
 bm (aa s.P 168 v52 0) h53 fun v54 h55=>
 bm (aa s.P 65 v54 2) h55 fun v56 h57=>
 bs (aj s.P wl 55 v56 v45 h57) fun h58=>
 bm (aL b h58) h58 fun v59 h60=>
 bm (aa s.P 168 v59 0) h60 fun v61 h62=>
 bm (aa s.P 65 v61 2) h62 fun v63 h64=>
 bm (ab s.P 55 v63 h64) h64 fun v65 h66=>
 bp (yC s k wl 156 false true (.fn (.func 110) [] []) [v65] h66) fun v67 h68=>
 some (v67,h68):=kR
theorem rm (cx:Cx) (K:Out→St→Option (V×Hp)) (s:St):au cx K ry .ret s=K .ret s:=by kernel_rfl
theorem pV (cx:Cx) (K:Out→St→Option (V×Hp)) (s:St):au cx K me .ret s=K .ret s:=by kernel_rfl
-- names: Zc,JR,JC,rm,pV
theorem XZ (h:Hp):ak (xX s 157 wl k false) Tryz.f157 [b,g] h =
 bm (bh s.P 55 []) h fun v1 h2=>
 bm (aL b h2) h2 fun v3 h4=>
 bm (aa s.P 168 v3 0) h4 fun v5 h6=>
 bm (aa s.P 65 v5 0) h6 fun v7 h8=>
 bs (aj s.P wl 3 v7 g h8) fun h9=>
 bm (aL b h9) h9 fun v10 h11=>
 bm (aa s.P 168 v10 0) h11 fun v12 h13=>
 bm (aa s.P 65 v12 2) h13 fun v14 h15=>
 bs (aj s.P wl 55 v14 v1 h15) fun h16=>
 some (.tup [],h16):=kB
theorem adK (k wl:Nat) (h:Hp):evF Tryz.prog xM (k+1) wl 157 [b,g] h=ak (xX (xS k) 157 wl k false) Tryz.f157 [b,g] h:=by kernel_rfl
-- names: XZ,
theorem UW (h:Hp):ak (xX s 158 wl k false) Tryz.f158 [b,g] h =
 bm (aL b h) h fun v1 h2=>
 bm (aa s.P 168 v1 2) h2 fun v3 h4=>
 bm (ab s.P 24 v3 h4) h4 fun v5 h6=>
 bm (aL b h6) h6 fun v7 h8=>
 bm (aa s.P 168 v7 0) h8 fun v9 h10=>
 bm (aa s.P 65 v9 1) h10 fun v11 h12=>
 bm (ab s.P 63 v11 h12) h12 fun v13 h14=>
 bm (fj s.P 46 3 g) h14 fun v15 h16=>
 bp (yC s k wl 158 false true (.fn (.func 181) [] []) [v5,v13,v15] h16) fun v17 h18=>
 bm (aL b h18) h18 fun v19 h20=>
 bm (aa s.P 168 v19 0) h20 fun v21 h22=>
 bm (aa s.P 65 v21 1) h22 fun v23 h24=>
 bs (aj s.P wl 63 v23 v17 h24) fun h25=>
 bm (fj s.P 46 3 g) h25 fun v26 h27=>
 bp (yC s k wl 158 false true (.fn (.func 164) [] []) [b,(.lit (.int .i64 2)),v26] h27) fun v28 h29=>
 some (.tup [],h29):=kB
theorem ado (k wl:Nat) (h:Hp):evF Tryz.prog xM (k+1) wl 158 [b,g] h=ak (xX (xS k) 158 wl k false) Tryz.f158 [b,g] h:=by kernel_rfl
-- names: UW,
theorem Wq (h:Hp):ak (xX s 159 wl k false) Tryz.f159 [b,g,e] h =
 bm (aL b h) h fun v1 h2=>
 bm (aa s.P 168 v1 3) h2 fun v3 h4=>
 bm (ab s.P 26 v3 h4) h4 fun v5 h6=>
 bp (yC s k wl 159 false true (.fn (.func 138) [] []) [v5,g,e] h6) fun v7 h8=>
 bm (ao v7 0) h8 fun v9 h10=>
 bm (ao v7 1) h10 fun v11 h12=>
 bm (aL b h12) h12 fun v13 h14=>
 bm (aa s.P 168 v13 3) h14 fun v15 h16=>
 bs (aj s.P wl 26 v15 v9 h16) fun h17=>
 some (v11,h17):=kB
theorem adl (k wl:Nat) (h:Hp):evF Tryz.prog xM (k+1) wl 159 [b,g,e] h=ak (xX (xS k) 159 wl k false) Tryz.f159 [b,g,e] h:=by kernel_rfl
-- names: Wq,
theorem U0 (h:Hp):ak (xX s 160 wl k false) Tryz.f160 [b,g,e,j,l] h =
 bp (yC s k wl 160 false true (.fn (.func 104) [] []) [e,j,l] h) fun v1 h2=>
 bm (aL b h2) h2 fun v3 h4=>
 bm (aa s.P 168 v3 0) h4 fun v5 h6=>
 bm (aa s.P 65 v5 0) h6 fun v7 h8=>
 bs (aj s.P wl 3 v7 g h8) fun h9=>
 bm (aL b h9) h9 fun v10 h11=>
 bm (aa s.P 168 v10 0) h11 fun v12 h13=>
 bm (aa s.P 65 v12 2) h13 fun v14 h15=>
 bs (aj s.P wl 55 v14 v1 h15) fun h16=>
 some (.tup [],h16):=kB
theorem adH (k wl:Nat) (h:Hp):evF Tryz.prog xM (k+1) wl 160 [b,g,e,j,l] h=ak (xX (xS k) 160 wl k false) Tryz.f160 [b,g,e,j,l] h:=by kernel_rfl
-- names: U0,
theorem VO (h:Hp):ak (xX s 164 wl k false) Tryz.f164 [b,g,e] h =
 stO h.length b (
 bm (aL b h) h fun v1 h2=>
 bm (aa s.P 168 v1 6) h2 fun v3 h4=>
 stO h.length v3 (
 bm (ab s.P 34 v3 h4) h4 fun v5 h6=>
 bm (aL b h6) h6 fun v7 h8=>
 bm (aa s.P 168 v7 4) h8 fun v9 h10=>
 bm (ab s.P 3 v9 h10) h10 fun v11 h12=>
 bm (bh s.P 52 [(0,g),(1,e),(2,v11)]) h12 fun v13 h14=>
 bp (ee s.P wl 34 1 [(0,v13)] h14) fun v15 h16=>
 bp (kf s.P wl 34 34 v5 v15 h16) fun v17 h18=>
 bm (aL b h18) h18 fun v19 h20=>
 bm (aa s.P 168 v19 6) h20 fun v21 h22=>
 bs (aj s.P wl 34 v21 v17 h22) fun h23=>
 some (.tup [],h23))):=kB
theorem aax (k wl:Nat) (h:Hp):evF Tryz.prog xM (k+1) wl 164 [b,g,e] h=ak (xX (xS k) 164 wl k false) Tryz.f164 [b,g,e] h:=by kernel_rfl
-- names: VO,
noncomputable def cY:Code:=al (am Tryz.f95) [1,0]
noncomputable def cL:List Fr:=[.seq (al (am Tryz.f95) [1,1])]
theorem ad2 (h:Hp):ak (xX s 95 wl k false) Tryz.f95 [b,g,e,j,l] h =
 bp (aJ b h) fun v1 h2=>
 bp (aJ l h2) fun v3 h4=>
 bm (ab s.P 23 v1 h4) h4 fun v5 h6=>
 bp (yC s k wl 95 false true (.fn (.func 50) [] []) [v5] h6) fun v7 h8=>
 gd v7 (
 bp (aX s.P 26 e h8) fun v9 h10=>
 bm (ab s.P 23 v1 h10) h10 fun v11 h12=>
 bp (yC s k wl 95 false true (.fn (.func 103) [] []) [v11] h12) fun v13 h14=>
 bm (aq s.P .eql 3 v9 v13) h14 fun v15 h16=>
 yO s k wl 95 Tryz.f95 cY 8 h4.length ([],[]) cL ⟨[b,g,e,j,l,v1,uu,uu,uu,v3,(.lit (.bool false)),v5,v7,(.lit (.bool true)),e,v9,v11,v13,v15,uu,uu,uu,uu,uu,uu,uu,uu,uu,uu,uu,uu,uu,uu,uu,uu,uu,uu,uu,uu,uu,uu,uu,uu,uu,uu,uu,uu,uu,uu,uu],h16⟩) (
 yO s k wl 95 Tryz.f95 cY 8 h4.length ([],[]) cL ⟨[b,g,e,j,l,v1,uu,uu,uu,v3,(.lit (.bool false)),v5,v7,(.lit (.bool false)),uu,uu,uu,uu,uu,uu,uu,uu,uu,uu,uu,uu,uu,uu,uu,uu,uu,uu,uu,uu,uu,uu,uu,uu,uu,uu,uu,uu,uu,uu,uu,uu,uu,uu,uu,uu],h8⟩) (
 yO s k wl 95 Tryz.f95 cY 4 h4.length ([],[]) cL ⟨[b,g,e,j,l,v1,uu,uu,uu,v3,(.lit (.bool false)),v5,v7,v7,uu,uu,uu,uu,uu,uu,uu,uu,uu,uu,uu,uu,uu,uu,uu,uu,uu,uu,uu,uu,uu,uu,uu,uu,uu,uu,uu,uu,uu,uu,uu,uu,uu,uu,uu,uu],h8⟩):=kB
theorem afa (k wl:Nat) (h:Hp):evF Tryz.prog xM (k+1) wl 95 [b,g,e,j,l] h=ak (xX (xS k) 95 wl k false) Tryz.f95 [b,g,e,j,l] h:=by kernel_rfl
theorem OW (zz:List V) (h:Hp):yO s k wl 95 Tryz.f95 cY 8 m0 ac cL ⟨(b::g::e::j::l::o::r::u::y::n::p::z::A::q::D::E::B::G::F::L::I::M::J::zz),h⟩ =
 bm (aO q F (.lit (.bool false))) h fun v17 h18=>
 gd v17 (
 bp (yC s k wl 95 false true (.fn (.func 56) [] []) [g] h18) fun v19 h20=>
 yO s k wl 95 Tryz.f95 cY 12 m0 ac cL ⟨(b::g::e::j::l::o::r::u::y::n::p::z::A::q::D::E::B::G::F::v17::(.lit (.bool true))::g::v19::zz),h20⟩) (
 yO s k wl 95 Tryz.f95 cY 12 m0 ac cL ⟨(b::g::e::j::l::o::r::u::y::n::p::z::A::q::D::E::B::G::F::v17::(.lit (.bool false))::uu::uu::zz),h18⟩) (
 yO s k wl 95 Tryz.f95 cY 11 m0 ac cL ⟨(b::g::e::j::l::o::r::u::y::n::p::z::A::q::D::E::B::G::F::v17::v17::uu::J::zz),h18⟩):=kG
theorem OX (zz:List V) (h:Hp):yO s k wl 95 Tryz.f95 cY 12 m0 ac cL ⟨(b::g::e::j::l::o::r::u::y::n::p::z::A::q::D::E::B::G::F::L::I::M::J::O::R::Q::N::zz),h⟩ =
 bm (aO I J (.lit (.bool false))) h fun v21 h22=>
 gd v21 (
 bm (aq s.P .geq 3 j (.lit (.int .i64 0))) h22 fun v23 h24=>
 yO s k wl 95 Tryz.f95 cY 16 m0 ac cL ⟨(b::g::e::j::l::o::r::u::y::n::p::z::A::q::D::E::B::G::F::L::I::M::J::v21::(.lit (.bool true))::j::v23::zz),h24⟩) (
 yO s k wl 95 Tryz.f95 cY 16 m0 ac cL ⟨(b::g::e::j::l::o::r::u::y::n::p::z::A::q::D::E::B::G::F::L::I::M::J::v21::(.lit (.bool false))::uu::uu::zz),h22⟩) (
 yO s k wl 95 Tryz.f95 cY 15 m0 ac cL ⟨(b::g::e::j::l::o::r::u::y::n::p::z::A::q::D::E::B::G::F::L::I::M::J::v21::v21::uu::N::zz),h22⟩):=kG
theorem PI (zz:List V) (h:Hp):yO s k wl 95 Tryz.f95 cY 16 m0 ac cL ⟨(b::g::e::j::l::o::r::u::y::n::p::z::A::q::D::E::B::G::F::L::I::M::J::O::R::Q::N::Y::U::Z::W::X::T::zz),h⟩ =
 bm (aO R N (.lit (.bool false))) h fun v25 h26=>
 gd v25 (
 bm (aa s.P 23 o 0) h26 fun v27 h28=>
 bm (ab s.P 3 v27 h28) h28 fun v29 h30=>
 bm (aq s.P .lss 3 j v29) h30 fun v31 h32=>
 yO s k wl 95 Tryz.f95 cY 22 m0 ac cL ⟨(b::g::e::j::l::o::r::u::y::n::p::z::A::q::D::E::B::G::F::L::I::M::J::O::R::Q::N::v25::(.lit (.bool true))::j::v27::v29::v31::zz),h32⟩) (
 yO s k wl 95 Tryz.f95 cY 22 m0 ac cL ⟨(b::g::e::j::l::o::r::u::y::n::p::z::A::q::D::E::B::G::F::L::I::M::J::O::R::Q::N::v25::(.lit (.bool false))::uu::uu::uu::uu::zz),h26⟩) (
 yO s k wl 95 Tryz.f95 cY 19 m0 ac cL ⟨(b::g::e::j::l::o::r::u::y::n::p::z::A::q::D::E::B::G::F::L::I::M::J::O::R::Q::N::v25::v25::uu::W::X::T::zz),h26⟩):=kG
theorem OB (h:Hp):yO s k wl 95 Tryz.f95 cY 22 m0 ac cL ⟨[b,g,e,j,l,o,r,u,y,n,p,z,A,q,D,E,B,G,F,L,I,M,J,O,R,Q,N,Y,U,Z,W,X,T,t1,t2,t3,t4,t0,tf,te,tg,t6,t5,tb,t7,tc,t8,t9,td,ta],h⟩ =
 bm (aO U T (.lit (.bool false))) h fun v33 h34=>
 gd v33 (
 bm (aa s.P 65 n 0) h34 fun v35 h36=>
 bm (ab s.P 3 v35 h36) h36 fun v37 h38=>
 bm (aq s.P .geq 3 v37 (.lit (.int .i64 0))) h38 fun v39 h40=>
 yO s k wl 95 Tryz.f95 cY 27 m0 ac cL ⟨[b,g,e,j,l,o,r,u,y,n,p,z,A,q,D,E,B,G,F,L,I,M,J,O,R,Q,N,Y,U,Z,W,X,T,v33,(.lit (.bool true)),v35,v37,v39,tf,te,tg,t6,t5,tb,t7,tc,t8,t9,td,ta],h40⟩) (
 yO s k wl 95 Tryz.f95 cY 27 m0 ac cL ⟨[b,g,e,j,l,o,r,u,y,n,p,z,A,q,D,E,B,G,F,L,I,M,J,O,R,Q,N,Y,U,Z,W,X,T,v33,(.lit (.bool false)),uu,uu,uu,tf,te,tg,t6,t5,tb,t7,tc,t8,t9,td,ta],h34⟩) (
 yO s k wl 95 Tryz.f95 cY 25 m0 ac cL ⟨[b,g,e,j,l,o,r,u,y,n,p,z,A,q,D,E,B,G,F,L,I,M,J,O,R,Q,N,Y,U,Z,W,X,T,v33,v33,uu,t4,t0,tf,te,tg,t6,t5,tb,t7,tc,t8,t9,td,ta],h34⟩):=kG
theorem O3 (h:Hp):yO s k wl 95 Tryz.f95 cY 27 m0 ac cL ⟨[b,g,e,j,l,o,r,u,y,n,p,z,A,q,D,E,B,G,F,L,I,M,J,O,R,Q,N,Y,U,Z,W,X,T,t1,t2,t3,t4,t0,tf,te,tg,t6,t5,tb,t7,tc,t8,t9,td,ta],h⟩ =
 bm (aO t2 t0 (.lit (.bool false))) h fun v41 h42=>
 gd v41 (
 bm (aa s.P 65 n 0) h42 fun v43 h44=>
 bm (ab s.P 3 v43 h44) h44 fun v45 h46=>
 bm (aq s.P .lss 3 v45 (.lit (.int .i64 16))) h46 fun v47 h48=>
 yO s k wl 95 Tryz.f95 cY 32 m0 ac cL ⟨[b,g,e,j,l,o,r,u,y,n,p,z,A,q,D,E,B,G,F,L,I,M,J,O,R,Q,N,Y,U,Z,W,X,T,t1,t2,t3,t4,t0,v41,(.lit (.bool true)),v43,v45,v47,tb,t7,tc,t8,t9,td,ta],h48⟩) (
 yO s k wl 95 Tryz.f95 cY 32 m0 ac cL ⟨[b,g,e,j,l,o,r,u,y,n,p,z,A,q,D,E,B,G,F,L,I,M,J,O,R,Q,N,Y,U,Z,W,X,T,t1,t2,t3,t4,t0,v41,(.lit (.bool false)),uu,uu,uu,tb,t7,tc,t8,t9,td,ta],h42⟩) (
 yO s k wl 95 Tryz.f95 cY 30 m0 ac cL ⟨[b,g,e,j,l,o,r,u,y,n,p,z,A,q,D,E,B,G,F,L,I,M,J,O,R,Q,N,Y,U,Z,W,X,T,t1,t2,t3,t4,t0,v41,v41,uu,t6,t5,tb,t7,tc,t8,t9,td,ta],h42⟩):=kG
theorem Pv (h:Hp):yO s k wl 95 Tryz.f95 cY 32 m0 ac cL ⟨[b,g,e,j,l,o,r,u,y,n,p,z,A,q,D,E,B,G,F,L,I,M,J,O,R,Q,N,Y,U,Z,W,X,T,t1,t2,t3,t4,t0,tf,te,tg,t6,t5,tb,t7,tc,t8,t9,td,ta],h⟩ =
 bm (aO te t5 (.lit (.bool false))) h fun v49 h50=>
 gd v49 (
 bm (aa s.P 65 n 1) h50 fun v51 h52=>
 bm (ab s.P 63 v51 h52) h52 fun v53 h54=>
 bp (yC s k wl 95 false true (.fn (.func 146) [] []) [g,v53] h54) fun v55 h56=>
 yO s k wl 95 Tryz.f95 cY 38 m0 ac cL ⟨[b,g,e,j,l,o,r,u,y,n,p,z,A,q,D,E,B,G,F,L,I,M,J,O,R,Q,N,Y,U,Z,W,X,T,t1,t2,t3,t4,t0,tf,te,tg,t6,t5,v49,(.lit (.bool true)),g,v51,v53,v55,ta],h56⟩) (
 yO s k wl 95 Tryz.f95 cY 38 m0 ac cL ⟨[b,g,e,j,l,o,r,u,y,n,p,z,A,q,D,E,B,G,F,L,I,M,J,O,R,Q,N,Y,U,Z,W,X,T,t1,t2,t3,t4,t0,tf,te,tg,t6,t5,v49,(.lit (.bool false)),uu,uu,uu,uu,ta],h50⟩) (
 yO s k wl 95 Tryz.f95 cY 35 m0 ac cL ⟨[b,g,e,j,l,o,r,u,y,n,p,z,A,q,D,E,B,G,F,L,I,M,J,O,R,Q,N,Y,U,Z,W,X,T,t1,t2,t3,t4,t0,tf,te,tg,t6,t5,v49,v49,uu,t8,t9,td,ta],h50⟩):=kG
theorem PT (h:Hp):yO s k wl 95 Tryz.f95 cY 38 m0 ac cL ⟨[b,g,e,j,l,o,r,u,y,n,p,z,A,q,D,E,B,G,F,L,I,M,J,O,R,Q,N,Y,U,Z,W,X,T,t1,t2,t3,t4,t0,tf,te,tg,t6,t5,tb,t7,tc,t8,t9,td,ta],h⟩ =
 bm (aO t7 td (.lit (.bool false))) h fun v57 h58=>
 some (v57,h58):=kG
theorem uL (cx:Cx) (K:Out→St→Option (V×Hp)) (s:St):au cx K cL .ret s=K .ret s:=by kernel_rfl
-- names: ad2,OW,OX,PI,OB,O3,Pv,PT,uL
end
end Go.Ab
