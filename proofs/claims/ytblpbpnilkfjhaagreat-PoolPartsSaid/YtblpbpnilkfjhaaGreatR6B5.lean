import Derived.Test.YtblpbpnilkfjhaaGreatR6Seat
import Derived.Test.YtblpbpnilkfjhaaGreatAbLibC
set_option linter.unusedVariables false
set_option linter.unusedSimpArgs false
set_option maxRecDepth 100000
set_option linter.unusedVariables false
namespace Go.Ab
open Go.Proofs
section
variable (s:Sys) (k wl:Nat) (m0:Nat) (ac:List Nat×List Nat) (b a d l q g r i j u v z A o B D E F p G I J L M N O Q R T U Y Z t0 t1 t2 t3 t4 t5 t6 t7 t8 W t9 ta X th tb tc td te tf tg ti tj tk tl tm tn tp tq tr ts tt tu tv tw tx ty tz tA tB tC tD tE tF tG tH tI tJ tK tL tM tN tO tP tQ tR tS tT tU tV tW tX tY tZ q0 q1 q2 q3 q4 q5 q6 q7 q8 q9 qa qb qc qd qe qf qg qh qi qj qk ql qm qn qo qp qq qr qs qt qu:V)
noncomputable def wh:List Fr:=[.seq (al (am Tryz.f134) [1,0,1,0,1,1,1]),.block 0,.seq (al (am Tryz.f134) [1,1])]
theorem Y2 (h:Hp):ak (xX s 134 wl k false) Tryz.f134 [b,a,d] h =
 bp (aJ b h) fun v1 h2=>
 bp (aJ d h2) fun v3 h4=>
 bp (some (.own h4.length 0 0,h4++[.rows 0 [] 0 true])) fun v5 h6=>
 bp (ar s.P 55 h6) fun v7 h8=>
 bm (aa s.P 55 v3 0) h8 fun v9 h10=>
 bm (ab s.P 3 v9 h10) h10 fun v11 h12=>
 bm (aq s.P .eql 3 v11 (.lit (.int .i64 5))) h12 fun v13 h14=>
 cnd v13 (
 bm (ab s.P 23 v1 h14) h14 fun v15 h16=>
 bm (ab s.P 55 v3 h16) h16 fun v17 h18=>
 bp (yC s k wl 134 false true (.fn (.func 165) [] []) [v15,a,v17] h18) fun v19 h20=>
 bm (ao v19 0) h20 fun v21 h22=>
 bm (ao v19 1) h22 fun v23 h24=>
 bs (aj s.P wl 55 v7 v23 h24) fun h25=>
 er [some v21,ab s.P 55 v7 h25] h25) (
 bm (aq s.P .eql 3 v11 (.lit (.int .i64 6))) h14 fun v26 h27=>
 cnd v26 (
 au (xX s 134 wl k false) (av s.P Tryz.f134) wh .norm ⟨[b,a,d,v1,uu,v3,v5,v7,v9,v11,v13,v13,uu,uu,uu,uu,uu,uu,v26,v26,uu,uu,uu,uu,uu,uu,uu,uu,uu,uu],h27⟩) (
 bm (aq s.P .eql 3 v11 (.lit (.int .i64 7))) h27 fun v28 h29=>
 au (xX s 134 wl k false) (av s.P Tryz.f134) wh .norm ⟨[b,a,d,v1,uu,v3,v5,v7,v9,v11,v13,v13,uu,uu,uu,uu,uu,uu,v28,v26,v28,uu,uu,uu,uu,uu,uu,uu,uu,uu],h29⟩)):=kB
theorem adQ (k wl:Nat) (h:Hp):evF Tryz.prog xM (k+1) wl 134 [b,a,d] h=ak (xX (xS k) 134 wl k false) Tryz.f134 [b,a,d] h:=by kernel_rfl
theorem Ho (h:Hp):au (xX s 134 wl k false) (av s.P Tryz.f134) wh .norm ⟨[b,a,d,l,q,g,r,i,j,u,v,z,A,o,B,D,E,F,p,G,I,J,L,M,N,O,Q,R,T,U],h⟩ =
 cnd p (
 bm (ab s.P 23 l h) h fun v30 h31=>
 bm (ab s.P 55 g h31) h31 fun v32 h33=>
 bp (yC s k wl 134 false true (.fn (.func 166) [] []) [v30,a,v32] h33) fun v34 h35=>
 bm (ao v34 0) h35 fun v36 h37=>
 bm (ao v34 1) h37 fun v38 h39=>
 bs (aj s.P wl 55 i v38 h39) fun h40=>
 er [some v36,ab s.P 55 i h40] h40) (
 bp (yC s k wl 134 true true (.fn (.func 76) [] []) [a] h) fun v41 h42=>
 stO h.length g (
 bm (ab s.P 55 g h42) h42 fun v43 h44=>
 bs (aj s.P wl 55 i v43 h44) fun h45=>
 er [some v41,ab s.P 55 i h45] h45)):=kR
theorem pp (cx:Cx) (K:Out→St→Option (V×Hp)) (s:St):au cx K wh .ret s=K .ret s:=by kernel_rfl
-- names: Y2,Ho,pp
theorem XW (h:Hp):ak (xX s 135 wl k false) Tryz.f135 [b,a,d] h =
 bp (aJ b h) fun v1 h2=>
 bp (aJ d h2) fun v3 h4=>
 bp (some (.own h4.length 0 0,h4++[.rows 0 [] 0 true])) fun v5 h6=>
 bp (ar s.P 55 h6) fun v7 h8=>
 bm (aa s.P 55 v3 0) h8 fun v9 h10=>
 bm (ab s.P 3 v9 h10) h10 fun v11 h12=>
 bm (aq s.P .eql 3 v11 (.lit (.int .i64 3))) h12 fun v13 h14=>
 cnd v13 (
 bm (ab s.P 23 v1 h14) h14 fun v15 h16=>
 bm (ab s.P 55 v3 h16) h16 fun v17 h18=>
 bp (yC s k wl 135 false true (.fn (.func 167) [] []) [v15,a,v17] h18) fun v19 h20=>
 bm (ao v19 0) h20 fun v21 h22=>
 bm (ao v19 1) h22 fun v23 h24=>
 bs (aj s.P wl 55 v7 v23 h24) fun h25=>
 er [some v21,ab s.P 55 v7 h25] h25) (
 bm (aq s.P .eql 3 v11 (.lit (.int .i64 4))) h14 fun v26 h27=>
 cnd v26 (
 bm (ab s.P 23 v1 h27) h27 fun v28 h29=>
 bm (ab s.P 55 v3 h29) h29 fun v30 h31=>
 bp (yC s k wl 135 false true (.fn (.func 168) [] []) [v28,a,v30] h31) fun v32 h33=>
 bm (ao v32 0) h33 fun v34 h35=>
 bm (ao v32 1) h35 fun v36 h37=>
 bs (aj s.P wl 55 v7 v36 h37) fun h38=>
 er [some v34,ab s.P 55 v7 h38] h38) (
 bp (yC s k wl 135 true true (.fn (.func 76) [] []) [a] h27) fun v39 h40=>
 stO h27.length v3 (
 bm (ab s.P 55 v3 h40) h40 fun v41 h42=>
 bs (aj s.P wl 55 v7 v41 h42) fun h43=>
 er [some v39,ab s.P 55 v7 h43] h43))):=kB
theorem acb (k wl:Nat) (h:Hp):evF Tryz.prog xM (k+1) wl 135 [b,a,d] h=ak (xX (xS k) 135 wl k false) Tryz.f135 [b,a,d] h:=by kernel_rfl
-- names: XW,
noncomputable def ra:List Fr:=[.block 0,.seq (al (am Tryz.f166) [1,1,1,1])]
noncomputable def wG:List Fr:=[.seq (al (am Tryz.f166) [1,1,1,0,0,1,1,1,1,1,0,1,1]),.block 0,.seq (al (am Tryz.f166) [1,1,1,1])]
noncomputable def uW:Code:=al (am Tryz.f166) [1,1,1,0,0,1,1,1,1,1,1,1,0,1,0]
noncomputable def pP:List Fr:=[.seq (al (am Tryz.f166) [1,1,1,0,0,1,1,1,1,1,1,1,0,1,1]),.seq (al (am Tryz.f166) [1,1,1,0,0,1,1,1,1,1,1,1,1]),.block 0,.seq (al (am Tryz.f166) [1,1,1,1])]
theorem Y7 (h:Hp):ak (xX s 166 wl k false) Tryz.f166 [b,a,d] h =
 bp (aJ b h) fun v1 h2=>
 bp (aJ d h2) fun v3 h4=>
 bp (some (.own h4.length 0 0,h4++[.rows 0 [] 0 true])) fun v5 h6=>
 bp (ar s.P 55 h6) fun v7 h8=>
 bp (yC s k wl 166 false true (.fn (.func 76) [] []) [a] h8) fun v9 h10=>
 bm (ab s.P 23 v1 h10) h10 fun v11 h12=>
 bm (ab s.P 55 v3 h12) h12 fun v13 h14=>
 bp (yC s k wl 166 false true (.fn (.func 189) [] []) [v11,a,v13] h14) fun v15 h16=>
 bm (vUn .not v15) h16 fun v17 h18=>
 cnd v17 (
 bm (ab s.P 55 v3 h18) h18 fun v19 h20=>
 bs (aj s.P wl 55 v7 v19 h20) fun h21=>
 er [some v9,ab s.P 55 v7 h21] h21) (
 bm (aa s.P 55 v3 1) h18 fun v22 h23=>
 bm (ab s.P 3 v22 h23) h23 fun v24 h25=>
 bm (aq s.P .eql 3 v24 (.lit (.int .i64 0))) h25 fun v26 h27=>
 cnd v26 (
 bp (yC s k wl 166 false true (.fn (.func 27) [] []) [v9,(.lit (.int .i64 2))] h27) fun v28 h29=>
 bm (aa s.P 55 v3 4) h29 fun v30 h31=>
 bs (aj s.P wl 46 v30 v28 h31) fun h32=>
 bm (aa s.P 55 v3 1) h32 fun v33 h34=>
 bs (aj s.P wl 3 v33 (.lit (.int .i64 1)) h34) fun h35=>
 au (xX s 166 wl k false) (av s.P Tryz.f166) ra .norm ⟨(b::a::d::v1::uu::v3::v5::v7::v9::uu::uu::uu::uu::uu::a::v9::v11::a::v13::v15::v17::uu::uu::uu::uu::uu::uu::uu::uu::uu::uu::uu::uu::uu::uu::uu::uu::uu::uu::uu::uu::uu::uu::uu::uu::uu::uu::uu::uu::uu::uu::uu::uu::uu::uu::uu::uu::uu::uu::v26::v22::v24::v26::v9::v28::v30::v33::uu::uu::uu::uu::uu::uu::uu::uu::uu::uu::uu::uu::uu::uu::uu::uu::uu::uu::uu::uu::uu::uu::uu::uu::uu::uu::uu::uu::uu::uu::uu::uu::uu::uu::uu::uu::uu::uu::uu::uu::uu::uu::uu::uu::uu::uu::uu::uu::uu::uu::uu::uu::uu::uu::uu::uu::uu::uu::uu::[]),h35⟩) (
 bm (aa s.P 55 v3 1) h27 fun v36 h37=>
 bm (ab s.P 3 v36 h37) h37 fun v38 h39=>
 bm (aq s.P .eql 3 v38 (.lit (.int .i64 1))) h39 fun v40 h41=>
 cnd v40 (
 bp (yC s k wl 166 true true (.fn (.func 190) [] []) [] h41) fun v42 h43=>
 bm (aa s.P 55 v3 0) h43 fun v44 h45=>
 stO h41.length v44 (
 bm (ab s.P 3 v44 h45) h45 fun v46 h47=>
 bm (fc s.P 212 v42 v46 false h47) h47 fun v48 h49=>
 bm (aa s.P 55 v3 4) h49 fun v50 h51=>
 stO h41.length v50 (
 bm (ab s.P 46 v50 h51) h51 fun v52 h53=>
 bp (yC s k wl 166 false true v48 [v52] h53) fun v54 h55=>
 bm (ao v54 0) h55 fun v56 h57=>
 bm (ao v54 1) h57 fun v58 h59=>
 bm (aa s.P 55 v3 4) h59 fun v60 h61=>
 bm (ab s.P 46 v60 h61) h61 fun v62 h63=>
 bp (yC s k wl 166 false true (.fn (.func 191) [] []) [v9,(.lit (.int .i64 2)),v62,v56] h63) fun v64 h65=>
 bm (ao v64 0) h65 fun v66 h67=>
 bm (ao v64 1) h67 fun v68 h69=>
 bm (aa s.P 55 v3 1) h69 fun v70 h71=>
 bs (aj s.P wl 3 v70 (.lit (.int .i64 0)) h71) fun h72=>
 bm (vUn .not v68) h72 fun v73 h74=>
 cnd v73 (
 bm (ab s.P 55 v3 h74) h74 fun v75 h76=>
 bs (aj s.P wl 55 v7 v75 h76) fun h77=>
 er [some v66,ab s.P 55 v7 h77] h77) (
 bm (aa s.P 55 v3 4) h74 fun v78 h79=>
 bm (ab s.P 46 v78 h79) h79 fun v80 h81=>
 bp (yC s k wl 166 false true (.fn (.func 192) [] []) [v80] h81) fun v82 h83=>
 bm (aq s.P .eql 46 v82 (.lit (.int .u64 0))) h83 fun v84 h85=>
 cnd v84 (
 bm (ab s.P 55 v3 h85) h85 fun v86 h87=>
 bp (yC s k wl 166 false true (.fn (.func 193) [] []) [v86,(.lit (.int .i64 3)),(.lit (.int .u64 0))] h87) fun v88 h89=>
 bs (aj s.P wl 55 v7 v88 h89) fun h90=>
 er [some v66,ab s.P 55 v7 h90] h90) (
 bm (aa s.P 55 v3 5) h85 fun v91 h92=>
 bs (aj s.P wl 46 v91 v58 h92) fun h93=>
 bm (aa s.P 55 v3 1) h93 fun v94 h95=>
 bs (aj s.P wl 3 v94 (.lit (.int .i64 2)) h95) fun h96=>
 au (xX s 166 wl k false) (av s.P Tryz.f166) ra .norm ⟨(b::a::d::v1::uu::v3::v5::v7::v66::v56::v58::v66::v68::uu::a::v9::v11::a::v13::v15::v17::uu::uu::uu::uu::uu::uu::uu::uu::uu::uu::uu::uu::uu::uu::uu::uu::uu::uu::uu::uu::uu::uu::uu::uu::uu::uu::uu::uu::uu::uu::uu::uu::uu::uu::uu::uu::uu::uu::v26::v22::v24::v26::uu::uu::uu::uu::v40::v36::v38::v40::v54::v42::v44::v46::v48::v50::v52::v54::v56::v58::v64::v9::v60::v62::v56::v64::v66::v68::v66::v70::v68::v73::uu::uu::v78::v80::v82::v84::uu::uu::uu::v58::v91::v94::uu::uu::uu::uu::uu::uu::uu::uu::uu::uu::uu::uu::uu::uu::uu::uu::uu::uu::uu::uu::uu::[]),h96⟩))))) (
 bm (aa s.P 55 v3 0) h41 fun v97 h98=>
 bm (ab s.P 3 v97 h98) h98 fun v99 h100=>
 bm (aq s.P .eql 3 v99 (.lit (.int .i64 6))) h100 fun v101 h102=>
 cnd v101 (
 bm (aa s.P 55 v3 5) h102 fun v103 h104=>
 bm (ab s.P 46 v103 h104) h104 fun v105 h106=>
 bm (aq s.P .lss 46 v105 (.lit (.int .u64 8))) h106 fun v107 h108=>
 cnd v107 (
 bm (aa s.P 55 v3 5) h108 fun v109 h110=>
 bm (ab s.P 46 v109 h110) h110 fun v111 h112=>
 bm (fj s.P 46 3 v111) h112 fun v113 h114=>
 au (xX s 166 wl k false) (av s.P Tryz.f166) wG .norm ⟨(b::a::d::v1::uu::v3::v5::v7::v9::uu::uu::uu::uu::v113::a::v9::v11::a::v13::v15::v17::uu::uu::uu::uu::uu::uu::uu::uu::uu::uu::uu::uu::uu::uu::uu::uu::uu::uu::uu::uu::uu::uu::uu::uu::uu::uu::uu::uu::uu::uu::uu::uu::uu::uu::uu::uu::uu::uu::v26::v22::v24::v26::uu::uu::uu::uu::v40::v36::v38::v40::uu::uu::uu::uu::uu::uu::uu::uu::uu::uu::uu::uu::uu::uu::uu::uu::uu::uu::uu::uu::uu::uu::uu::uu::uu::uu::uu::uu::uu::uu::uu::uu::uu::uu::v101::v97::v99::v101::v103::v105::v107::v109::v111::v113::uu::uu::uu::uu::uu::uu::uu::uu::uu::uu::uu::[]),h114⟩) (
 au (xX s 166 wl k false) (av s.P Tryz.f166) wG .norm ⟨(b::a::d::v1::uu::v3::v5::v7::v9::uu::uu::uu::uu::(.lit (.int .i64 (-1)))::a::v9::v11::a::v13::v15::v17::uu::uu::uu::uu::uu::uu::uu::uu::uu::uu::uu::uu::uu::uu::uu::uu::uu::uu::uu::uu::uu::uu::uu::uu::uu::uu::uu::uu::uu::uu::uu::uu::uu::uu::uu::uu::uu::uu::v26::v22::v24::v26::uu::uu::uu::uu::v40::v36::v38::v40::uu::uu::uu::uu::uu::uu::uu::uu::uu::uu::uu::uu::uu::uu::uu::uu::uu::uu::uu::uu::uu::uu::uu::uu::uu::uu::uu::uu::uu::uu::uu::uu::uu::uu::v101::v97::v99::v101::v103::v105::v107::uu::uu::uu::uu::uu::uu::uu::uu::uu::uu::uu::uu::uu::uu::[]),h108⟩)) (
 stO h102.length v1 (
 bm (ab s.P 23 v1 h102) h102 fun v115 h116=>
 bm (aa s.P 55 v3 5) h116 fun v117 h118=>
 bm (ab s.P 46 v117 h118) h118 fun v119 h120=>
 bp (yC s k wl 166 true true (.fn (.func 195) [] []) [v119] h120) fun v121 h122=>
 bp (ee s.P wl 53 1 [(0,v121)] h122) fun v123 h124=>
 bp (yC s k wl 166 false true (.fn (.func 194) [] []) [v115,v9,v123] h124) fun v125 h126=>
 bm (aa s.P 55 v3 5) h126 fun v127 h128=>
 bm (ab s.P 46 v127 h128) h128 fun v129 h130=>
 bp (yC s k wl 166 false true (.fn (.func 192) [] []) [v129] h130) fun v131 h132=>
 bm (aa s.P 55 v3 5) h132 fun v133 h134=>
 bs (aj s.P wl 46 v133 v131 h134) fun h135=>
 bm (aa s.P 55 v3 5) h135 fun v136 h137=>
 bm (ab s.P 46 v136 h137) h137 fun v138 h139=>
 bm (aa s.P 55 v3 5) h139 fun v140 h141=>
 bm (ab s.P 46 v140 h141) h141 fun v142 h143=>
 bm (aq s.P .sub 46 v142 (.lit (.int .u64 1))) h143 fun v144 h145=>
 bm (aq s.P .and 46 v138 v144) h145 fun v146 h147=>
 bm (aq s.P .eql 46 v146 (.lit (.int .u64 0))) h147 fun v148 h149=>
 gd v148 (
 yO s k wl 166 Tryz.f166 uW 11 h135.length ([],[]) pP ⟨(b::a::d::v1::uu::v3::v5::v7::v125::uu::uu::uu::uu::uu::a::v9::v11::a::v13::v15::v17::uu::uu::v115::v9::v117::v119::v121::v123::v125::v127::v129::v131::v133::v136::v138::v140::v142::v144::v146::v148::(.lit (.bool true))::uu::uu::uu::uu::uu::uu::uu::uu::uu::uu::uu::uu::uu::uu::uu::uu::uu::v26::v22::v24::v26::uu::uu::uu::uu::v40::v36::v38::v40::uu::uu::uu::uu::uu::uu::uu::uu::uu::uu::uu::uu::uu::uu::uu::uu::uu::uu::uu::uu::uu::uu::uu::uu::uu::uu::uu::uu::uu::uu::uu::uu::uu::uu::v101::v97::v99::v101::uu::uu::uu::uu::uu::uu::uu::uu::uu::uu::uu::uu::uu::uu::uu::uu::uu::[]),h149⟩) (
 bm (aa s.P 55 v3 5) h149 fun v150 h151=>
 bm (ab s.P 46 v150 h151) h151 fun v152 h153=>
 bm (aq s.P .eql 46 v152 (.lit (.int .u64 0))) h153 fun v154 h155=>
 yO s k wl 166 Tryz.f166 uW 11 h135.length ([],[]) pP ⟨(b::a::d::v1::uu::v3::v5::v7::v125::uu::uu::uu::uu::uu::a::v9::v11::a::v13::v15::v17::uu::uu::v115::v9::v117::v119::v121::v123::v125::v127::v129::v131::v133::v136::v138::v140::v142::v144::v146::v148::(.lit (.bool false))::v150::v152::v154::uu::uu::uu::uu::uu::uu::uu::uu::uu::uu::uu::uu::uu::uu::v26::v22::v24::v26::uu::uu::uu::uu::v40::v36::v38::v40::uu::uu::uu::uu::uu::uu::uu::uu::uu::uu::uu::uu::uu::uu::uu::uu::uu::uu::uu::uu::uu::uu::uu::uu::uu::uu::uu::uu::uu::uu::uu::uu::uu::uu::v101::v97::v99::v101::uu::uu::uu::uu::uu::uu::uu::uu::uu::uu::uu::uu::uu::uu::uu::uu::uu::[]),h155⟩) (
 yO s k wl 166 Tryz.f166 uW 9 h135.length ([],[]) pP ⟨(b::a::d::v1::uu::v3::v5::v7::v125::uu::uu::uu::uu::uu::a::v9::v11::a::v13::v15::v17::uu::uu::v115::v9::v117::v119::v121::v123::v125::v127::v129::v131::v133::v136::v138::v140::v142::v144::v146::v148::v148::uu::uu::uu::uu::uu::uu::uu::uu::uu::uu::uu::uu::uu::uu::uu::uu::uu::v26::v22::v24::v26::uu::uu::uu::uu::v40::v36::v38::v40::uu::uu::uu::uu::uu::uu::uu::uu::uu::uu::uu::uu::uu::uu::uu::uu::uu::uu::uu::uu::uu::uu::uu::uu::uu::uu::uu::uu::uu::uu::uu::uu::uu::uu::v101::v97::v99::v101::uu::uu::uu::uu::uu::uu::uu::uu::uu::uu::uu::uu::uu::uu::uu::uu::uu::[]),h149⟩)))))):=kB
theorem ack (k wl:Nat) (h:Hp):evF Tryz.prog xM (k+1) wl 166 [b,a,d] h=ak (xX (xS k) 166 wl k false) Tryz.f166 [b,a,d] h:=by kernel_rfl
theorem HJ (h:Hp):au (xX s 166 wl k false) (av s.P Tryz.f166) ra .norm ⟨(b::a::d::l::q::g::r::i::j::u::v::z::A::o::B::D::E::F::p::G::I::J::L::M::N::O::Q::R::T::U::Y::Z::t0::t1::t2::t3::t4::t5::t6::t7::t8::W::t9::ta::X::th::tb::tc::td::te::tf::tg::ti::tj::tk::tl::tm::tn::tp::tq::tr::ts::tt::tu::tv::tw::tx::ty::tz::tA::tB::tC::tD::tE::tF::tG::tH::tI::tJ::tK::tL::tM::tN::tO::tP::tQ::tR::tS::tT::tU::tV::tW::tX::tY::tZ::q0::q1::q2::q3::q4::q5::q6::q7::q8::q9::qa::qb::qc::qd::qe::qf::qg::qh::qi::qj::qk::ql::qm::qn::qo::qp::qq::qr::qs::qt::qu::[]),h⟩ =
 bm (ab s.P 55 g h) h fun v156 h157=>
 bs (aj s.P wl 55 i v156 h157) fun h158=>
 er [some j,ab s.P 55 i h158] h158:=kR
theorem HP (h:Hp):au (xX s 166 wl k false) (av s.P Tryz.f166) wG .norm ⟨(b::a::d::l::q::g::r::i::j::u::v::z::A::o::B::D::E::F::p::G::I::J::L::M::N::O::Q::R::T::U::Y::Z::t0::t1::t2::t3::t4::t5::t6::t7::t8::W::t9::ta::X::th::tb::tc::td::te::tf::tg::ti::tj::tk::tl::tm::tn::tp::tq::tr::ts::tt::tu::tv::tw::tx::ty::tz::tA::tB::tC::tD::tE::tF::tG::tH::tI::tJ::tK::tL::tM::tN::tO::tP::tQ::tR::tS::tT::tU::tV::tW::tX::tY::tZ::q0::q1::q2::q3::q4::q5::q6::q7::q8::q9::qa::qb::qc::qd::qe::qf::qg::qh::qi::qj::qk::ql::qm::qn::qo::qp::qq::qr::qs::qt::qu::[]),h⟩ =
 stO h.length l (
 bm (ab s.P 23 l h) h fun v159 h160=>
 bp (ee s.P wl 53 1 [(0,o)] h160) fun v161 h162=>
 bp (yC s k wl 166 true true (.fn (.func 194) [] []) [v159,j,v161] h162) fun v163 h164=>
 stO h.length g (
 bm (ab s.P 55 g h164) h164 fun v165 h166=>
 bm (aa s.P 55 g 5) h166 fun v167 h168=>
 stO h.length v167 (
 bm (ab s.P 46 v167 h168) h168 fun v169 h170=>
 bp (yC s k wl 166 false true (.fn (.func 193) [] []) [v165,(.lit (.int .i64 1)),v169] h170) fun v171 h172=>
 bs (aj s.P wl 55 i v171 h172) fun h173=>
 er [some v163,ab s.P 55 i h173] h173))):=kR
theorem H8 (zz:List V) (h:Hp):yO s k wl 166 Tryz.f166 uW 11 m0 ac pP ⟨(b::a::d::l::q::g::r::i::j::u::v::z::A::o::B::D::E::F::p::G::I::J::L::M::N::O::Q::R::T::U::Y::Z::t0::t1::t2::t3::t4::t5::t6::t7::t8::W::t9::ta::X::th::tb::tc::td::te::tf::tg::ti::tj::tk::tl::tm::tn::tp::zz),h⟩ =
 bm (aO W (.lit (.bool true)) X) h fun v174 h175=>
 cnd v174 (
 stO h175.length g (
 bm (ab s.P 55 g h175) h175 fun v176 h177=>
 bm (aa s.P 55 g 4) h177 fun v178 h179=>
 bm (ab s.P 46 v178 h179) h179 fun v180 h181=>
 bp (yC s k wl 166 true true (.fn (.func 192) [] []) [v180] h181) fun v182 h183=>
 bp (yC s k wl 166 false true (.fn (.func 193) [] []) [v176,(.lit (.int .i64 1)),v182] h183) fun v184 h185=>
 bs (aj s.P wl 55 i v184 h185) fun h186=>
 er [some j,ab s.P 55 i h186] h186)) (
 bm (aa s.P 55 g 5) h175 fun v187 h188=>
 bm (ab s.P 46 v187 h188) h188 fun v189 h190=>
 bm (aa s.P 55 g 5) h190 fun v191 h192=>
 bm (ab s.P 46 v191 h192) h192 fun v193 h194=>
 bm (aq s.P .sub 46 v193 (.lit (.int .u64 1))) h194 fun v195 h196=>
 bm (aq s.P .and 46 v189 v195) h196 fun v197 h198=>
 bm (aa s.P 55 g 5) h198 fun v199 h200=>
 bs (aj s.P wl 46 v199 v197 h200) fun h201=>
 au (xX s 166 wl k false) (av s.P Tryz.f166) ra .norm ⟨(b::a::d::l::q::g::r::i::j::u::v::z::A::o::B::D::E::F::p::G::I::J::L::M::N::O::Q::R::T::U::Y::Z::t0::t1::t2::t3::t4::t5::t6::t7::t8::W::t9::ta::X::v174::tb::tc::td::te::tf::tg::v187::v189::v191::v193::v195::v197::v199::zz),h201⟩):=kJ [2]
theorem pz (cx:Cx) (K:Out→St→Option (V×Hp)) (s:St):au cx K ra .ret s=K .ret s:=by kernel_rfl
theorem o7 (cx:Cx) (K:Out→St→Option (V×Hp)) (s:St):au cx K wG .ret s=K .ret s:=by kernel_rfl
theorem rb (cx:Cx) (K:Out→St→Option (V×Hp)) (s:St):au cx K pP .ret s=K .ret s:=by kernel_rfl
-- names: Y7,HJ,HP,H8,pz,o7,rb
theorem X5 (h:Hp):ak (xX s 167 wl k false) Tryz.f167 [b,a,d] h =
 bp (aJ b h) fun v1 h2=>
 bp (aJ d h2) fun v3 h4=>
 bp (some (.own h4.length 0 0,h4++[.rows 0 [] 0 true])) fun v5 h6=>
 bp (ar s.P 55 h6) fun v7 h8=>
 stO h8.length v3 (
 bm (ab s.P 55 v3 h8) h8 fun v9 h10=>
 stO h8.length v1 (
 bm (ab s.P 23 v1 h10) h10 fun v11 h12=>
 bp (yC s k wl 167 true true (.fn (.func 76) [] []) [a] h12) fun v13 h14=>
 bm (bh s.P 221 [(0,v9),(1,v11),(2,v13)]) h14 fun v15 h16=>
 bp (aJ v15 h16) fun v17 h18=>
 bm (ab s.P 23 v1 h18) h18 fun v19 h20=>
 bm (ab s.P 55 v3 h20) h20 fun v21 h22=>
 bp (yC s k wl 167 false true (.fn (.func 196) [] []) [v19,a,v21,(.lit (.int .i64 3))] h22) fun v23 h24=>
 bm (vUn .not v23) h24 fun v25 h26=>
 cnd v25 (
 bm (aL v17 h26) h26 fun v27 h28=>
 bm (aa s.P 221 v27 2) h28 fun v29 h30=>
 bm (ab s.P 26 v29 h30) h30 fun v31 h32=>
 bm (ab s.P 55 v3 h32) h32 fun v33 h34=>
 bs (aj s.P wl 55 v7 v33 h34) fun h35=>
 er [some v31,ab s.P 55 v7 h35] h35) (
 bp (aB s.P wl 223 5 [(0,(.fn (.func 197) [v17] [])),(1,(.fn (.func 198) [v17] [])),(2,(.fn (.func 199) [v17] [])),(3,(.fn (.func 200) [v17] [])),(4,(.fn (.func 201) [v17] []))] h26) fun v36 h37=>
 bp (ar s.P 223 h37) fun v38 h39=>
 bs (aj s.P wl 223 v38 v36 h39) fun h40=>
 bp (yC s k wl 167 false true (.fn (.func 202) [] [v38,v3]) [] h40) fun v41 h42=>
 bm (aL v17 h42) h42 fun v43 h44=>
 bm (aa s.P 221 v43 0) h44 fun v45 h46=>
 bm (aa s.P 55 v45 1) h46 fun v47 h48=>
 bs (aj s.P wl 3 v47 v41 h48) fun h49=>
 bm (aL v17 h49) h49 fun v50 h51=>
 bm (aa s.P 221 v50 2) h51 fun v52 h53=>
 bm (ab s.P 26 v52 h53) h53 fun v54 h55=>
 bm (aL v17 h55) h55 fun v56 h57=>
 bm (aa s.P 221 v56 0) h57 fun v58 h59=>
 bm (ab s.P 55 v58 h59) h59 fun v60 h61=>
 bs (aj s.P wl 55 v7 v60 h61) fun h62=>
 er [some v54,ab s.P 55 v7 h62] h62))):=kB
theorem Z1 (k wl:Nat) (h:Hp):evF Tryz.prog xM (k+1) wl 167 [b,a,d] h=ak (xX (xS k) 167 wl k false) Tryz.f167 [b,a,d] h:=by kernel_rfl
-- names: X5,
noncomputable def ii:List Fr:=[.block 0,.seq (al (am Tryz.f168) [1,1,1,1])]
theorem Ut (h:Hp):ak (xX s 168 wl k false) Tryz.f168 [b,a,d] h =
 bp (aJ b h) fun v1 h2=>
 bp (aJ d h2) fun v3 h4=>
 bp (some (.own h4.length 0 0,h4++[.rows 0 [] 0 true])) fun v5 h6=>
 bp (ar s.P 55 h6) fun v7 h8=>
 bp (yC s k wl 168 false true (.fn (.func 76) [] []) [a] h8) fun v9 h10=>
 bm (ab s.P 23 v1 h10) h10 fun v11 h12=>
 bm (ab s.P 55 v3 h12) h12 fun v13 h14=>
 bp (yC s k wl 168 false true (.fn (.func 196) [] []) [v11,a,v13,(.lit (.int .i64 4))] h14) fun v15 h16=>
 bm (vUn .not v15) h16 fun v17 h18=>
 cnd v17 (
 bm (ab s.P 55 v3 h18) h18 fun v19 h20=>
 bs (aj s.P wl 55 v7 v19 h20) fun h21=>
 er [some v9,ab s.P 55 v7 h21] h21) (
 bm (aa s.P 55 v3 1) h18 fun v22 h23=>
 bm (ab s.P 3 v22 h23) h23 fun v24 h25=>
 bm (aq s.P .eql 3 v24 (.lit (.int .i64 0))) h25 fun v26 h27=>
 cnd v26 (
 bp (yC s k wl 168 false true (.fn (.func 27) [] []) [v9,(.lit (.int .i64 4))] h27) fun v28 h29=>
 bm (aa s.P 55 v3 4) h29 fun v30 h31=>
 bs (aj s.P wl 46 v30 v28 h31) fun h32=>
 bm (aa s.P 55 v3 1) h32 fun v33 h34=>
 bs (aj s.P wl 3 v33 (.lit (.int .i64 1)) h34) fun h35=>
 au (xX s 168 wl k false) (av s.P Tryz.f168) ii .norm ⟨(b::a::d::v1::uu::v3::v5::v7::v9::uu::uu::a::v9::v11::a::v13::v15::v17::uu::uu::v22::v24::uu::uu::uu::uu::uu::uu::uu::uu::uu::uu::uu::uu::uu::uu::uu::v26::v26::v9::v28::v30::v33::uu::uu::uu::uu::uu::uu::uu::uu::uu::uu::uu::uu::uu::uu::uu::uu::uu::uu::uu::uu::uu::uu::uu::uu::uu::uu::uu::uu::uu::uu::uu::uu::uu::uu::uu::uu::uu::uu::uu::uu::uu::uu::uu::uu::uu::uu::uu::uu::uu::uu::uu::[]),h35⟩) (
 bm (aq s.P .eql 3 v24 (.lit (.int .i64 1))) h27 fun v36 h37=>
 cnd v36 (
 bm (ab s.P 23 v1 h37) h37 fun v38 h39=>
 bm (aa s.P 55 v3 4) h39 fun v40 h41=>
 bm (ab s.P 46 v40 h41) h41 fun v42 h43=>
 bp (yC s k wl 168 false true (.fn (.func 203) [] []) [v38,v42] h43) fun v44 h45=>
 bp (yC s k wl 168 false true (.fn (.func 27) [] []) [v9,v44] h45) fun v46 h47=>
 bm (aa s.P 55 v3 5) h47 fun v48 h49=>
 bs (aj s.P wl 46 v48 v46 h49) fun h50=>
 bm (aa s.P 55 v3 1) h50 fun v51 h52=>
 bs (aj s.P wl 3 v51 (.lit (.int .i64 0)) h52) fun h53=>
 bm (aa s.P 55 v3 5) h53 fun v54 h55=>
 stO h53.length v54 (
 bm (ab s.P 46 v54 h55) h55 fun v56 h57=>
 bm (ab s.P 23 v1 h57) h57 fun v58 h59=>
 bm (aa s.P 55 v3 4) h59 fun v60 h61=>
 bm (ab s.P 46 v60 h61) h61 fun v62 h63=>
 bp (yC s k wl 168 true true (.fn (.func 204) [] []) [v58,v62] h63) fun v64 h65=>
 bp (yC s k wl 168 false true (.fn (.func 106) [] []) [v56,v64] h65) fun v66 h67=>
 bm (aq s.P .eql 3 v66 (.lit (.int .i64 0))) h67 fun v68 h69=>
 cnd v68 (
 bm (aa s.P 55 v3 1) h69 fun v70 h71=>
 bs (aj s.P wl 3 v70 (.lit (.int .i64 2)) h71) fun h72=>
 au (xX s 168 wl k false) (av s.P Tryz.f168) ii .norm ⟨(b::a::d::v1::uu::v3::v5::v7::v9::v66::uu::a::v9::v11::a::v13::v15::v17::uu::uu::v22::v24::uu::uu::uu::uu::uu::uu::uu::uu::uu::uu::uu::uu::uu::uu::uu::v26::v26::uu::uu::uu::uu::v36::v36::v9::v38::v40::v42::v44::v46::v48::v51::v54::v56::v58::v60::v62::v64::v66::v66::v68::v70::uu::uu::uu::uu::uu::uu::uu::uu::uu::uu::uu::uu::uu::uu::uu::uu::uu::uu::uu::uu::uu::uu::uu::uu::uu::uu::uu::uu::uu::uu::uu::[]),h72⟩) (
 bm (aq s.P .lss 3 v66 (.lit (.int .i64 0))) h69 fun v73 h74=>
 cnd v73 (
 bm (ab s.P 55 v3 h74) h74 fun v75 h76=>
 bp (yC s k wl 168 false true (.fn (.func 193) [] []) [v75,(.lit (.int .i64 3)),(.lit (.int .u64 0))] h76) fun v77 h78=>
 bs (aj s.P wl 55 v3 v77 h78) fun h79=>
 au (xX s 168 wl k false) (av s.P Tryz.f168) ii .norm ⟨(b::a::d::v1::uu::v3::v5::v7::v9::v66::uu::a::v9::v11::a::v13::v15::v17::uu::uu::v22::v24::uu::uu::uu::uu::uu::uu::uu::uu::uu::uu::uu::uu::uu::uu::uu::v26::v26::uu::uu::uu::uu::v36::v36::v9::v38::v40::v42::v44::v46::v48::v51::v54::v56::v58::v60::v62::v64::v66::v66::v68::uu::v66::v73::v75::v77::uu::uu::uu::uu::uu::uu::uu::uu::uu::uu::uu::uu::uu::uu::uu::uu::uu::uu::uu::uu::uu::uu::uu::uu::uu::uu::uu::[]),h79⟩) (
 au (xX s 168 wl k false) (av s.P Tryz.f168) ii .norm ⟨(b::a::d::v1::uu::v3::v5::v7::v9::v66::uu::a::v9::v11::a::v13::v15::v17::uu::uu::v22::v24::uu::uu::uu::uu::uu::uu::uu::uu::uu::uu::uu::uu::uu::uu::uu::v26::v26::uu::uu::uu::uu::v36::v36::v9::v38::v40::v42::v44::v46::v48::v51::v54::v56::v58::v60::v62::v64::v66::v66::v68::uu::v66::v73::uu::uu::uu::uu::uu::uu::uu::uu::uu::uu::uu::uu::uu::uu::uu::uu::uu::uu::uu::uu::uu::uu::uu::uu::uu::uu::uu::uu::uu::[]),h74⟩)))) (
 bm (aq s.P .eql 3 v24 (.lit (.int .i64 2))) h37 fun v80 h81=>
 cnd v80 (
 bm (aa s.P 55 v3 1) h81 fun v82 h83=>
 bs (aj s.P wl 3 v82 (.lit (.int .i64 0)) h83) fun h84=>
 bm (aa s.P 55 v3 4) h84 fun v85 h86=>
 bm (ab s.P 46 v85 h86) h86 fun v87 h88=>
 bm (aa s.P 55 v3 4) h88 fun v89 h90=>
 bm (ab s.P 46 v89 h90) h90 fun v91 h92=>
 bm (aq s.P .add 46 v91 (.lit (.int .u64 1))) h92 fun v93 h94=>
 bp (yC s k wl 168 false true (.fn (.func 191) [] []) [v9,(.lit (.int .i64 4)),v87,v93] h94) fun v95 h96=>
 bm (ao v95 0) h96 fun v97 h98=>
 bm (ao v95 1) h98 fun v99 h100=>
 cnd v99 (
 bm (aa s.P 55 v3 1) h100 fun v101 h102=>
 bs (aj s.P wl 3 v101 (.lit (.int .i64 3)) h102) fun h103=>
 au (xX s 168 wl k false) (av s.P Tryz.f168) ii .norm ⟨(b::a::d::v1::uu::v3::v5::v7::v97::uu::v99::a::v9::v11::a::v13::v15::v17::uu::uu::v22::v24::uu::uu::uu::uu::uu::uu::uu::uu::uu::uu::uu::uu::uu::uu::uu::v26::v26::uu::uu::uu::uu::v36::v36::uu::uu::uu::uu::uu::uu::uu::uu::uu::uu::uu::uu::uu::uu::uu::uu::uu::uu::uu::uu::uu::uu::v80::v80::v82::v95::v9::v85::v87::v89::v91::v93::v95::v97::v99::v99::v101::uu::uu::uu::uu::uu::uu::uu::uu::uu::uu::uu::uu::[]),h103⟩) (
 au (xX s 168 wl k false) (av s.P Tryz.f168) ii .norm ⟨(b::a::d::v1::uu::v3::v5::v7::v97::uu::v99::a::v9::v11::a::v13::v15::v17::uu::uu::v22::v24::uu::uu::uu::uu::uu::uu::uu::uu::uu::uu::uu::uu::uu::uu::uu::v26::v26::uu::uu::uu::uu::v36::v36::uu::uu::uu::uu::uu::uu::uu::uu::uu::uu::uu::uu::uu::uu::uu::uu::uu::uu::uu::uu::uu::uu::v80::v80::v82::v95::v9::v85::v87::v89::v91::v93::v95::v97::v99::v99::uu::uu::uu::uu::uu::uu::uu::uu::uu::uu::uu::uu::uu::[]),h100⟩)) (
 bm (aq s.P .eql 3 v24 (.lit (.int .i64 3))) h81 fun v104 h105=>
 cnd v104 (
 bm (ab s.P 23 v1 h105) h105 fun v106 h107=>
 bm (aa s.P 55 v3 4) h107 fun v108 h109=>
 bm (ab s.P 46 v108 h109) h109 fun v110 h111=>
 bp (yC s k wl 168 false true (.fn (.func 205) [] []) [v106,v110] h111) fun v112 h113=>
 bp (yC s k wl 168 false true (.fn (.func 27) [] []) [v9,v112] h113) fun v114 h115=>
 bm (aa s.P 55 v3 3) h115 fun v116 h117=>
 bs (aj s.P wl 46 v116 v114 h117) fun h118=>
 bm (aa s.P 55 v3 1) h118 fun v119 h120=>
 bs (aj s.P wl 3 v119 (.lit (.int .i64 4)) h120) fun h121=>
 au (xX s 168 wl k false) (av s.P Tryz.f168) ii .norm ⟨(b::a::d::v1::uu::v3::v5::v7::v9::uu::uu::a::v9::v11::a::v13::v15::v17::uu::uu::v22::v24::uu::uu::uu::uu::uu::uu::uu::uu::uu::uu::uu::uu::uu::uu::uu::v26::v26::uu::uu::uu::uu::v36::v36::uu::uu::uu::uu::uu::uu::uu::uu::uu::uu::uu::uu::uu::uu::uu::uu::uu::uu::uu::uu::uu::uu::v80::v80::uu::uu::uu::uu::uu::uu::uu::uu::uu::uu::uu::uu::uu::v104::v104::v9::v106::v108::v110::v112::v114::v116::v119::uu::uu::[]),h121⟩) (
 bm (ab s.P 23 v1 h105) h105 fun v122 h123=>
 bm (aa s.P 55 v3 4) h123 fun v124 h125=>
 bm (ab s.P 46 v124 h125) h125 fun v126 h127=>
 bp (yC s k wl 168 true true (.fn (.func 203) [] []) [v122,v126] h127) fun v128 h129=>
 stO h105.length v1 (
 bm (ab s.P 23 v1 h129) h129 fun v130 h131=>
 bm (aa s.P 55 v3 4) h131 fun v132 h133=>
 stO h105.length v132 (
 bm (ab s.P 46 v132 h133) h133 fun v134 h135=>
 bp (yC s k wl 168 false true (.fn (.func 204) [] []) [v130,v134] h135) fun v136 h137=>
 bm (aq s.P .add 46 v136 (.lit (.int .u64 1))) h137 fun v138 h139=>
 bp (yC s k wl 168 false true (.fn (.func 88) [] []) [v9,v128,v138] h139) fun v140 h141=>
 bm (ab s.P 55 v3 h141) h141 fun v142 h143=>
 bm (aa s.P 55 v3 3) h143 fun v144 h145=>
 bm (ab s.P 46 v144 h145) h145 fun v146 h147=>
 bp (yC s k wl 168 false true (.fn (.func 193) [] []) [v142,(.lit (.int .i64 1)),v146] h147) fun v148 h149=>
 bs (aj s.P wl 55 v3 v148 h149) fun h150=>
 au (xX s 168 wl k false) (av s.P Tryz.f168) ii .norm ⟨(b::a::d::v1::uu::v3::v5::v7::v140::uu::uu::a::v9::v11::a::v13::v15::v17::uu::uu::v22::v24::v9::v122::v124::v126::v128::v130::v132::v134::v136::v138::v140::v142::v144::v146::v148::v26::v26::uu::uu::uu::uu::v36::v36::uu::uu::uu::uu::uu::uu::uu::uu::uu::uu::uu::uu::uu::uu::uu::uu::uu::uu::uu::uu::uu::uu::v80::v80::uu::uu::uu::uu::uu::uu::uu::uu::uu::uu::uu::uu::uu::v104::v104::uu::uu::uu::uu::uu::uu::uu::uu::uu::uu::[]),h150⟩))))))):=kB
theorem adR (k wl:Nat) (h:Hp):evF Tryz.prog xM (k+1) wl 168 [b,a,d] h=ak (xX (xS k) 168 wl k false) Tryz.f168 [b,a,d] h:=by kernel_rfl
theorem J8 (h:Hp):au (xX s 168 wl k false) (av s.P Tryz.f168) ii .norm ⟨(b::a::d::l::q::g::r::i::j::u::v::z::A::o::B::D::E::F::p::G::I::J::L::M::N::O::Q::R::T::U::Y::Z::t0::t1::t2::t3::t4::t5::t6::t7::t8::W::t9::ta::X::th::tb::tc::td::te::tf::tg::ti::tj::tk::tl::tm::tn::tp::tq::tr::ts::tt::tu::tv::tw::tx::ty::tz::tA::tB::tC::tD::tE::tF::tG::tH::tI::tJ::tK::tL::tM::tN::tO::tP::tQ::tR::tS::tT::tU::tV::tW::tX::tY::[]),h⟩ =
 bm (ab s.P 55 g h) h fun v151 h152=>
 bs (aj s.P wl 55 i v151 h152) fun h153=>
 er [some j,ab s.P 55 i h153] h153:=kR
theorem pF (cx:Cx) (K:Out→St→Option (V×Hp)) (s:St):au cx K ii .ret s=K .ret s:=by kernel_rfl
-- names: Ut,J8,pF
theorem Vn (h:Hp):ak (xX s 180 wl k false) Tryz.f180 [b,a,d] h =
 bp (aJ b h) fun v1 h2=>
 bp (aJ d h2) fun v3 h4=>
 bp (some (.own h4.length 0 0,h4++[.rows 0 [] 0 true])) fun v5 h6=>
 bp (ar s.P 55 h6) fun v7 h8=>
 bm (aa s.P 55 v3 0) h8 fun v9 h10=>
 bm (ab s.P 3 v9 h10) h10 fun v11 h12=>
 bm (aq s.P .eql 3 v11 (.lit (.int .i64 0))) h12 fun v13 h14=>
 cnd v13 (
 bm (ab s.P 23 v1 h14) h14 fun v15 h16=>
 bm (ab s.P 55 v3 h16) h16 fun v17 h18=>
 bp (yC s k wl 180 false true (.fn (.func 207) [] []) [v15,a,v17] h18) fun v19 h20=>
 bm (ao v19 0) h20 fun v21 h22=>
 bm (ao v19 1) h22 fun v23 h24=>
 bs (aj s.P wl 55 v7 v23 h24) fun h25=>
 er [some v21,ab s.P 55 v7 h25] h25) (
 bm (aq s.P .eql 3 v11 (.lit (.int .i64 1))) h14 fun v26 h27=>
 cnd v26 (
 bm (ab s.P 23 v1 h27) h27 fun v28 h29=>
 bm (ab s.P 55 v3 h29) h29 fun v30 h31=>
 bp (yC s k wl 180 false true (.fn (.func 208) [] []) [v28,a,v30] h31) fun v32 h33=>
 bm (ao v32 0) h33 fun v34 h35=>
 bm (ao v32 1) h35 fun v36 h37=>
 bs (aj s.P wl 55 v7 v36 h37) fun h38=>
 er [some v34,ab s.P 55 v7 h38] h38) (
 bm (aq s.P .eql 3 v11 (.lit (.int .i64 2))) h27 fun v39 h40=>
 cnd v39 (
 bm (ab s.P 23 v1 h40) h40 fun v41 h42=>
 bm (ab s.P 55 v3 h42) h42 fun v43 h44=>
 bp (yC s k wl 180 false true (.fn (.func 209) [] []) [v41,a,v43] h44) fun v45 h46=>
 bm (ao v45 0) h46 fun v47 h48=>
 bm (ao v45 1) h48 fun v49 h50=>
 bs (aj s.P wl 55 v7 v49 h50) fun h51=>
 er [some v47,ab s.P 55 v7 h51] h51) (
 bp (yC s k wl 180 true true (.fn (.func 76) [] []) [a] h40) fun v52 h53=>
 stO h40.length v3 (
 bm (ab s.P 55 v3 h53) h53 fun v54 h55=>
 bs (aj s.P wl 55 v7 v54 h55) fun h56=>
 er [some v52,ab s.P 55 v7 h56] h56)))):=kB
theorem abD (k wl:Nat) (h:Hp):evF Tryz.prog xM (k+1) wl 180 [b,a,d] h=ak (xX (xS k) 180 wl k false) Tryz.f180 [b,a,d] h:=by kernel_rfl
-- names: Vn,
end
end Go.Ab
