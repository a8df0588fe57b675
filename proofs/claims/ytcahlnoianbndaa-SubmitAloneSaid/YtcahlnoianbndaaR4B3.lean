/- The program's code,point by point: printed by gen.py. -/
import Derived.Test.YtcahlnoianbndaaR4Seat
set_option linter.unusedVariables false
set_option linter.unusedSimpArgs false
set_option maxRecDepth 100000
set_option linter.unusedVariables false
namespace Go.Ab
open Go.Proofs
variable (t0 t1 t2 t3 t4 t5 t6 t7 t8 t9 ta tb tc td te tf tg th ti tj tk tl tm tn tp tq tr ts tt tu tv tw tx ty tz tA tB tC tD tE tF tG tH tI tJ tK tL tM tN tO tP tQ tR tS tT tU tV tW tX tY tZ q0 q1 q2 q3 q4 q5 q6 q7 q8 q9 qa qb qc qd qe qf qg qh qi qj qk ql qm qn qo qp qq qr qs qt qu qv qw qx qy qz qA qB qC qD qE qF qG qH qI qJ qK qL qM qN qO qP qQ qR qS qT qU qV qW qX qY qZ z0 z1 z2 : V)
noncomputable def xg45_0 : Code := codeAt (bodyOf Try.f45) [1,1,0,1,0,0]
noncomputable def xk45_0 : List Fr := [.block 0,.seq (codeAt (bodyOf Try.f45) [1,1,1,1])]
noncomputable def xg45_1 : Code := codeAt (bodyOf Try.f45) [1,1,1,0,0,1,1,1,0,0]
noncomputable def xg45_2 : Code := codeAt (bodyOf Try.f45) [1,1,1,0,0,1,1,1,0,1,1,0,1,1,0,0]
noncomputable def xk45_1 : List Fr := [.seq (codeAt (bodyOf Try.f45) [1,1,1,0,0,1,1,1,1,1,0,1,1]),.block 0,.seq (codeAt (bodyOf Try.f45) [1,1,1,1])]
noncomputable def xg45_3 : Code := codeAt (bodyOf Try.f45) [1,1,1,0,0,1,1,1,1,1,1,0]
noncomputable def xg45_4 : Code := codeAt (bodyOf Try.f45) [1,1,1,0,0,1,1,1,1,1,1,1,0,1,0]
noncomputable def xk45_2 : List Fr := [.seq (codeAt (bodyOf Try.f45) [1,1,1,0,0,1,1,1,1,1,1,1,0,1,1]),.seq (codeAt (bodyOf Try.f45) [1,1,1,0,0,1,1,1,1,1,1,1,1]),.block 0,.seq (codeAt (bodyOf Try.f45) [1,1,1,1])]
noncomputable def xg45_5 : Code := codeAt (bodyOf Try.f45) [1,1,1,1,0]
noncomputable def xg45_6 : Code := codeAt (bodyOf Try.f45) [1,1,1,0,0,1,1,1,1,1,0,1,1,0]
noncomputable def xg45_7 : Code := codeAt (bodyOf Try.f45) [1,1,1,0,0,1,1,1,1,1,1,1,0,1,1,0,0]
theorem xo45_3 : orderIx (opsOf xg45_0) = [0,1,2,3] := by kernel_rfl
theorem xo45_3a : (rgOf (opsOf xg45_0)).any = false := by kernel_rfl
theorem xo45_3r : regOk (opsOf xg45_0) = true := by kernel_rfl
theorem xo45_12 : orderIx (opsOf xg45_1) = [0,1,2,3,4,5,6,7,8,9,10,11] := by kernel_rfl
theorem xo45_12a : (rgOf (opsOf xg45_1)).any = false := by kernel_rfl
theorem xo45_12r : regOk (opsOf xg45_1) = true := by kernel_rfl
theorem xo45_16 : orderIx (opsOf xg45_2) = [0,1,2,3] := by kernel_rfl
theorem xo45_16a : (rgOf (opsOf xg45_2)).any = false := by kernel_rfl
theorem xo45_16r : regOk (opsOf xg45_2) = true := by kernel_rfl
theorem xo45_4 : orderIx (opsOf xg45_3) = [0,1,2,3,4,5,6,7] := by kernel_rfl
theorem xo45_4a : (rgOf (opsOf xg45_3)).any = false := by kernel_rfl
theorem xo45_4r : regOk (opsOf xg45_3) = true := by kernel_rfl
theorem xo45_25 : orderIx (opsOf xg45_5) = [0,1,2,3] := by kernel_rfl
theorem xo45_25a : (rgOf (opsOf xg45_5)).any = false := by kernel_rfl
theorem xo45_25r : regOk (opsOf xg45_5) = true := by kernel_rfl
theorem xo45_24 : orderIx (opsOf xg45_6) = [0,1,2,3,4,5,6,7,8,9,10] := by kernel_rfl
theorem xo45_24a : (rgOf (opsOf xg45_6)).any = false := by kernel_rfl
theorem xo45_24r : regOk (opsOf xg45_6) = true := by kernel_rfl
theorem xo45_7 : orderIx (opsOf xg45_7) = [0,1,2,3,4,5,6,7] := by kernel_rfl
theorem xo45_7a : (rgOf (opsOf xg45_7)).any = false := by kernel_rfl
theorem xo45_7r : regOk (opsOf xg45_7) = true := by kernel_rfl
theorem xb45 (s : Sys) (k wl : Nat) (h : Hp) : bodyV (xX s 45 wl k false) Try.f45 [t0,t1,t2] h =
  bp (opBox t0 h) fun v1 h2 =>
  bp (opBox t2 h2) fun v3 h4 =>
  bp (some (.own h4.length 0 0,h4 ++ [.rows 0 [] 0 true])) fun v5 h6 =>
  bp (opAlloc s.P 30 h6) fun v7 h8 =>
  bp (callV (xX s 45 wl k false) false true (.fn (.func 21) [] []) [t1] h8) fun v9 h10 =>
  bm (vLoad s.P 23 v1 h10) h10 fun v11 h12 =>
  bm (vLoad s.P 30 v3 h12) h12 fun v13 h14 =>
  bp (callV (xX s 45 wl k false) false true (.fn (.func 59) [] []) [v11,t1,v13] h14) fun v15 h16 =>
  bm (vUn .not v15) h16 fun v17 h18 =>
  cnd v17 (
  bm (vLoad s.P 30 v3 h18) h18 fun v19 h20 =>
  bs (vStore s.P wl 30 v7 v19 h20) fun h21 =>
  resO [some v9,vLoad s.P 30 v7 h21] h21) (
  bm (vFieldAddr s.P 30 v3 1) h18 fun v22 h23 =>
  bm (vLoad s.P 3 v22 h23) h23 fun v24 h25 =>
  bm (vBin s.P .eql 3 v24 (V.lit (Value.int .i64 0))) h25 fun v26 h27 =>
  cnd v26 (
  bp (callV (xX s 45 wl k false) false true (.fn (.func 17) [] []) [v9,(V.lit (Value.int .i64 2))] h27) fun v28 h29 =>
  bm (vFieldAddr s.P 30 v3 4) h29 fun v30 h31 =>
  bs (vStore s.P wl 28 v30 v28 h31) fun h32 =>
  bm (vFieldAddr s.P 30 v3 1) h32 fun v33 h34 =>
  bs (vStore s.P wl 3 v33 (V.lit (Value.int .i64 1)) h34) fun h35 =>
  runK (xX s 45 wl k false) (bodyK s.P Try.f45) xk45_0 .norm ⟨(t0::t1::t2::v1::uu::v3::v5::v7::v9::uu::uu::uu::uu::uu::t1::v9::v11::t1::v13::v15::v17::uu::uu::uu::uu::uu::uu::uu::uu::uu::uu::uu::uu::uu::uu::uu::uu::uu::uu::uu::uu::uu::uu::uu::uu::uu::uu::uu::uu::uu::uu::uu::uu::uu::uu::uu::uu::uu::uu::v26::v22::v24::v26::v9::v28::v30::v33::uu::uu::uu::uu::uu::uu::uu::uu::uu::uu::uu::uu::uu::uu::uu::uu::uu::uu::uu::uu::uu::uu::uu::uu::uu::uu::uu::uu::uu::uu::uu::uu::uu::uu::uu::uu::uu::uu::uu::uu::uu::uu::uu::uu::uu::uu::uu::uu::uu::uu::uu::uu::uu::uu::uu::uu::uu::uu::uu::[]),h35⟩) (
  bm (vFieldAddr s.P 30 v3 1) h27 fun v36 h37 =>
  bm (vLoad s.P 3 v36 h37) h37 fun v38 h39 =>
  bm (vBin s.P .eql 3 v38 (V.lit (Value.int .i64 1))) h39 fun v40 h41 =>
  cnd v40 (
  bp (callV (xX s 45 wl k false) true true (.fn (.func 60) [] []) [] h41) fun v42 h43 =>
  bm (vFieldAddr s.P 30 v3 0) h43 fun v44 h45 =>
  stO h41.length v44 (
  bm (vLoad s.P 3 v44 h45) h45 fun v46 h47 =>
  bm (vLookup s.P 87 v42 v46 false h47) h47 fun v48 h49 =>
  bm (vFieldAddr s.P 30 v3 4) h49 fun v50 h51 =>
  stO h41.length v50 (
  bm (vLoad s.P 28 v50 h51) h51 fun v52 h53 =>
  bp (callV (xX s 45 wl k false) false true v48 [v52] h53) fun v54 h55 =>
  bm (vExtract v54 0) h55 fun v56 h57 =>
  bm (vExtract v54 1) h57 fun v58 h59 =>
  bm (vFieldAddr s.P 30 v3 4) h59 fun v60 h61 =>
  bm (vLoad s.P 28 v60 h61) h61 fun v62 h63 =>
  bp (callV (xX s 45 wl k false) false true (.fn (.func 61) [] []) [v9,(V.lit (Value.int .i64 2)),v62,v56] h63) fun v64 h65 =>
  bm (vExtract v64 0) h65 fun v66 h67 =>
  bm (vExtract v64 1) h67 fun v68 h69 =>
  bm (vFieldAddr s.P 30 v3 1) h69 fun v70 h71 =>
  bs (vStore s.P wl 3 v70 (V.lit (Value.int .i64 0)) h71) fun h72 =>
  bm (vUn .not v68) h72 fun v73 h74 =>
  cnd v73 (
  bm (vLoad s.P 30 v3 h74) h74 fun v75 h76 =>
  bs (vStore s.P wl 30 v7 v75 h76) fun h77 =>
  resO [some v66,vLoad s.P 30 v7 h77] h77) (
  bm (vFieldAddr s.P 30 v3 4) h74 fun v78 h79 =>
  bm (vLoad s.P 28 v78 h79) h79 fun v80 h81 =>
  bp (callV (xX s 45 wl k false) false true (.fn (.func 62) [] []) [v80] h81) fun v82 h83 =>
  bm (vBin s.P .eql 28 v82 (V.lit (Value.int .u64 0))) h83 fun v84 h85 =>
  cnd v84 (
  bm (vLoad s.P 30 v3 h85) h85 fun v86 h87 =>
  bp (callV (xX s 45 wl k false) false true (.fn (.func 63) [] []) [v86,(V.lit (Value.int .i64 3)),(V.lit (Value.int .u64 0))] h87) fun v88 h89 =>
  bs (vStore s.P wl 30 v7 v88 h89) fun h90 =>
  resO [some v66,vLoad s.P 30 v7 h90] h90) (
  bm (vFieldAddr s.P 30 v3 5) h85 fun v91 h92 =>
  bs (vStore s.P wl 28 v91 v58 h92) fun h93 =>
  bm (vFieldAddr s.P 30 v3 1) h93 fun v94 h95 =>
  bs (vStore s.P wl 3 v94 (V.lit (Value.int .i64 2)) h95) fun h96 =>
  runK (xX s 45 wl k false) (bodyK s.P Try.f45) xk45_0 .norm ⟨(t0::t1::t2::v1::uu::v3::v5::v7::v66::v56::v58::v66::v68::uu::t1::v9::v11::t1::v13::v15::v17::uu::uu::uu::uu::uu::uu::uu::uu::uu::uu::uu::uu::uu::uu::uu::uu::uu::uu::uu::uu::uu::uu::uu::uu::uu::uu::uu::uu::uu::uu::uu::uu::uu::uu::uu::uu::uu::uu::v26::v22::v24::v26::uu::uu::uu::uu::v40::v36::v38::v40::v54::v42::v44::v46::v48::v50::v52::v54::v56::v58::v64::v9::v60::v62::v56::v64::v66::v68::v66::v70::v68::v73::uu::uu::v78::v80::v82::v84::uu::uu::uu::v58::v91::v94::uu::uu::uu::uu::uu::uu::uu::uu::uu::uu::uu::uu::uu::uu::uu::uu::uu::uu::uu::uu::uu::[]),h96⟩))))) (
  bm (vFieldAddr s.P 30 v3 0) h41 fun v97 h98 =>
  bm (vLoad s.P 3 v97 h98) h98 fun v99 h100 =>
  bm (vBin s.P .eql 3 v99 (V.lit (Value.int .i64 6))) h100 fun v101 h102 =>
  cnd v101 (
  bm (vFieldAddr s.P 30 v3 5) h102 fun v103 h104 =>
  bm (vLoad s.P 28 v103 h104) h104 fun v105 h106 =>
  bm (vBin s.P .lss 28 v105 (V.lit (Value.int .u64 8))) h106 fun v107 h108 =>
  cnd v107 (
  bm (vFieldAddr s.P 30 v3 5) h108 fun v109 h110 =>
  bm (vLoad s.P 28 v109 h110) h110 fun v111 h112 =>
  bm (vConv s.P 28 3 v111) h112 fun v113 h114 =>
  runK (xX s 45 wl k false) (bodyK s.P Try.f45) xk45_1 .norm ⟨(t0::t1::t2::v1::uu::v3::v5::v7::v9::uu::uu::uu::uu::v113::t1::v9::v11::t1::v13::v15::v17::uu::uu::uu::uu::uu::uu::uu::uu::uu::uu::uu::uu::uu::uu::uu::uu::uu::uu::uu::uu::uu::uu::uu::uu::uu::uu::uu::uu::uu::uu::uu::uu::uu::uu::uu::uu::uu::uu::v26::v22::v24::v26::uu::uu::uu::uu::v40::v36::v38::v40::uu::uu::uu::uu::uu::uu::uu::uu::uu::uu::uu::uu::uu::uu::uu::uu::uu::uu::uu::uu::uu::uu::uu::uu::uu::uu::uu::uu::uu::uu::uu::uu::uu::uu::v101::v97::v99::v101::v103::v105::v107::v109::v111::v113::uu::uu::uu::uu::uu::uu::uu::uu::uu::uu::uu::[]),h114⟩) (
  runK (xX s 45 wl k false) (bodyK s.P Try.f45) xk45_1 .norm ⟨(t0::t1::t2::v1::uu::v3::v5::v7::v9::uu::uu::uu::uu::(V.lit (Value.int .i64 (-1)))::t1::v9::v11::t1::v13::v15::v17::uu::uu::uu::uu::uu::uu::uu::uu::uu::uu::uu::uu::uu::uu::uu::uu::uu::uu::uu::uu::uu::uu::uu::uu::uu::uu::uu::uu::uu::uu::uu::uu::uu::uu::uu::uu::uu::uu::v26::v22::v24::v26::uu::uu::uu::uu::v40::v36::v38::v40::uu::uu::uu::uu::uu::uu::uu::uu::uu::uu::uu::uu::uu::uu::uu::uu::uu::uu::uu::uu::uu::uu::uu::uu::uu::uu::uu::uu::uu::uu::uu::uu::uu::uu::v101::v97::v99::v101::v103::v105::v107::uu::uu::uu::uu::uu::uu::uu::uu::uu::uu::uu::uu::uu::uu::[]),h108⟩)) (
  stO h102.length v1 (
  bm (vLoad s.P 23 v1 h102) h102 fun v115 h116 =>
  bm (vFieldAddr s.P 30 v3 5) h116 fun v117 h118 =>
  bm (vLoad s.P 28 v117 h118) h118 fun v119 h120 =>
  bp (callV (xX s 45 wl k false) true true (.fn (.func 65) [] []) [v119] h120) fun v121 h122 =>
  bp (opBuildSliceC s.P wl 27 1 [(0,v121)] h122) fun v123 h124 =>
  bp (callV (xX s 45 wl k false) false true (.fn (.func 64) [] []) [v115,v9,v123] h124) fun v125 h126 =>
  bm (vFieldAddr s.P 30 v3 5) h126 fun v127 h128 =>
  bm (vLoad s.P 28 v127 h128) h128 fun v129 h130 =>
  bp (callV (xX s 45 wl k false) false true (.fn (.func 62) [] []) [v129] h130) fun v131 h132 =>
  bm (vFieldAddr s.P 30 v3 5) h132 fun v133 h134 =>
  bs (vStore s.P wl 28 v133 v131 h134) fun h135 =>
  bm (vFieldAddr s.P 30 v3 5) h135 fun v136 h137 =>
  bm (vLoad s.P 28 v136 h137) h137 fun v138 h139 =>
  bm (vFieldAddr s.P 30 v3 5) h139 fun v140 h141 =>
  bm (vLoad s.P 28 v140 h141) h141 fun v142 h143 =>
  bm (vBin s.P .sub 28 v142 (V.lit (Value.int .u64 1))) h143 fun v144 h145 =>
  bm (vBin s.P .and 28 v138 v144) h145 fun v146 h147 =>
  bm (vBin s.P .eql 28 v146 (V.lit (Value.int .u64 0))) h147 fun v148 h149 =>
  gd v148 (
  opsP (xX s 45 wl k false) xg45_4 11 h135.length ([],[]) (runK (xX s 45 wl k false) (bodyK s.P Try.f45) xk45_2) ⟨(t0::t1::t2::v1::uu::v3::v5::v7::v125::uu::uu::uu::uu::uu::t1::v9::v11::t1::v13::v15::v17::uu::uu::v115::v9::v117::v119::v121::v123::v125::v127::v129::v131::v133::v136::v138::v140::v142::v144::v146::v148::(V.lit (Value.bool true))::uu::uu::uu::uu::uu::uu::uu::uu::uu::uu::uu::uu::uu::uu::uu::uu::uu::v26::v22::v24::v26::uu::uu::uu::uu::v40::v36::v38::v40::uu::uu::uu::uu::uu::uu::uu::uu::uu::uu::uu::uu::uu::uu::uu::uu::uu::uu::uu::uu::uu::uu::uu::uu::uu::uu::uu::uu::uu::uu::uu::uu::uu::uu::v101::v97::v99::v101::uu::uu::uu::uu::uu::uu::uu::uu::uu::uu::uu::uu::uu::uu::uu::uu::uu::[]),h149⟩) (
  bm (vFieldAddr s.P 30 v3 5) h149 fun v150 h151 =>
  bm (vLoad s.P 28 v150 h151) h151 fun v152 h153 =>
  bm (vBin s.P .eql 28 v152 (V.lit (Value.int .u64 0))) h153 fun v154 h155 =>
  opsP (xX s 45 wl k false) xg45_4 11 h135.length ([],[]) (runK (xX s 45 wl k false) (bodyK s.P Try.f45) xk45_2) ⟨(t0::t1::t2::v1::uu::v3::v5::v7::v125::uu::uu::uu::uu::uu::t1::v9::v11::t1::v13::v15::v17::uu::uu::v115::v9::v117::v119::v121::v123::v125::v127::v129::v131::v133::v136::v138::v140::v142::v144::v146::v148::(V.lit (Value.bool false))::v150::v152::v154::uu::uu::uu::uu::uu::uu::uu::uu::uu::uu::uu::uu::uu::uu::v26::v22::v24::v26::uu::uu::uu::uu::v40::v36::v38::v40::uu::uu::uu::uu::uu::uu::uu::uu::uu::uu::uu::uu::uu::uu::uu::uu::uu::uu::uu::uu::uu::uu::uu::uu::uu::uu::uu::uu::uu::uu::uu::uu::uu::uu::v101::v97::v99::v101::uu::uu::uu::uu::uu::uu::uu::uu::uu::uu::uu::uu::uu::uu::uu::uu::uu::[]),h155⟩) (
  opsP (xX s 45 wl k false) xg45_4 9 h135.length ([],[]) (runK (xX s 45 wl k false) (bodyK s.P Try.f45) xk45_2) ⟨(t0::t1::t2::v1::uu::v3::v5::v7::v125::uu::uu::uu::uu::uu::t1::v9::v11::t1::v13::v15::v17::uu::uu::v115::v9::v117::v119::v121::v123::v125::v127::v129::v131::v133::v136::v138::v140::v142::v144::v146::v148::v148::uu::uu::uu::uu::uu::uu::uu::uu::uu::uu::uu::uu::uu::uu::uu::uu::uu::v26::v22::v24::v26::uu::uu::uu::uu::v40::v36::v38::v40::uu::uu::uu::uu::uu::uu::uu::uu::uu::uu::uu::uu::uu::uu::uu::uu::uu::uu::uu::uu::uu::uu::uu::uu::uu::uu::uu::uu::uu::uu::uu::uu::uu::uu::v101::v97::v99::v101::uu::uu::uu::uu::uu::uu::uu::uu::uu::uu::uu::uu::uu::uu::uu::uu::uu::[]),h149⟩)))))) :=
  bodyV_run rfl (go_seq (go_reg0
  (go_op0 rfl rfl (st_bp (by kernel_rfl) fun v1 h2 =>
  (go_op0 rfl rfl (st_bp (by kernel_rfl) fun v3 h4 =>
  (go_op0 rfl rfl (st_bp (by kernel_rfl) fun v5 h6 =>
  (go_op0 rfl rfl (st_bp (by kernel_rfl) fun v7 h8 =>
  (go_end0 (by kernel_rfl)
  (go_seq (go_reg0
  (go_op0 rfl rfl (st_id (v := t1) (H := h8) (by kernel_rfl)
  (go_op0 rfl rfl (st_bp (by kernel_rfl) fun v9 h10 =>
  (go_op0 rfl rfl (st_id (v := v9) (H := h10) (by kernel_rfl)
  (go_end0 (by kernel_rfl)
  (go_seq (go_seq (go_reg0
  (go_op0 rfl rfl (st_bm (by kernel_rfl) fun v11 h12 =>
  (go_op0 rfl rfl (st_id (v := t1) (H := h12) (by kernel_rfl)
  (go_op0 rfl rfl (st_bm (by kernel_rfl) fun v13 h14 =>
  (go_op0 rfl rfl (st_bp (by kernel_rfl) fun v15 h16 =>
  (go_op0 rfl rfl (st_bm (by kernel_rfl) fun v17 h18 =>
  (go_end0 (by kernel_rfl)
  (go_cond (by kernel_rfl)
  (go_seq (go_reg1 xo45_3r
  (go_op1 xo45_3 xo45_3a rfl rfl rfl (st_no (by kernel_rfl) (st_id (v := v9) (H := h18) (by kernel_rfl)
  (go_op1 xo45_3 xo45_3a rfl rfl rfl (st_no (by kernel_rfl) (st_bm (by kernel_rfl) fun v19 h20 =>
  (go_op1 xo45_3 xo45_3a rfl rfl rfl (st_no (by kernel_rfl) (st_id (v := v9) (H := h20) (by kernel_rfl)
  (go_op1 xo45_3 xo45_3a rfl rfl rfl (st_no (by kernel_rfl) (st_bs (by kernel_rfl) fun h21 =>
  (go_end1 xo45_3 (by kernel_rfl) xo45_3a
  (go_ret (rt_seq_ret (by kernel_rfl))))))))))))))))))
  (go_skip (go_seq (go_block (go_seq (go_reg0
  (go_op0 rfl rfl (st_bm (by kernel_rfl) fun v22 h23 =>
  (go_op0 rfl rfl (st_bm (by kernel_rfl) fun v24 h25 =>
  (go_op0 rfl rfl (st_bm (by kernel_rfl) fun v26 h27 =>
  (go_op0 rfl rfl (st_id (v := v26) (H := h27) (by kernel_rfl)
  (go_end0 (by kernel_rfl)
  (go_cond (by kernel_rfl)
  (go_reg0
  (go_op0 rfl rfl (st_id (v := v9) (H := h27) (by kernel_rfl)
  (go_op0 rfl rfl (st_bp (by kernel_rfl) fun v28 h29 =>
  (go_op0 rfl rfl (st_bm (by kernel_rfl) fun v30 h31 =>
  (go_op0 rfl rfl (st_bs (by kernel_rfl) fun h32 =>
  (go_op0 rfl rfl (st_bm (by kernel_rfl) fun v33 h34 =>
  (go_op0 rfl rfl (st_bs (by kernel_rfl) fun h35 =>
  (go_end0 (by kernel_rfl)
  (by kernel_rfl)))))))))))))))
  (go_seq (go_reg0
  (go_op0 rfl rfl (st_bm (by kernel_rfl) fun v36 h37 =>
  (go_op0 rfl rfl (st_bm (by kernel_rfl) fun v38 h39 =>
  (go_op0 rfl rfl (st_bm (by kernel_rfl) fun v40 h41 =>
  (go_op0 rfl rfl (st_id (v := v40) (H := h41) (by kernel_rfl)
  (go_end0 (by kernel_rfl)
  (go_cond (by kernel_rfl)
  (go_seq (go_reg1 xo45_12r
  (go_op1 xo45_12 xo45_12a rfl rfl rfl (st_no (by kernel_rfl) (st_bp (by kernel_rfl) fun v42 h43 =>
  (go_op1 xo45_12 xo45_12a rfl rfl rfl (st_no (by kernel_rfl) (st_bm (by kernel_rfl) fun v44 h45 =>
  (go_op1 xo45_12 xo45_12a rfl rfl rfl (st_yes (by kernel_rfl) (st_bm (by kernel_rfl) fun v46 h47 =>
  (go_op1 xo45_12 xo45_12a rfl rfl rfl (st_no (by kernel_rfl) (st_bm (by kernel_rfl) fun v48 h49 =>
  (go_op1 xo45_12 xo45_12a rfl rfl rfl (st_no (by kernel_rfl) (st_bm (by kernel_rfl) fun v50 h51 =>
  (go_op1 xo45_12 xo45_12a rfl rfl rfl (st_yes (by kernel_rfl) (st_bm (by kernel_rfl) fun v52 h53 =>
  (go_op1 xo45_12 xo45_12a rfl rfl rfl (st_no (by kernel_rfl) (st_bp (by kernel_rfl) fun v54 h55 =>
  (go_op1 xo45_12 xo45_12a rfl rfl rfl (st_no (by kernel_rfl) (st_id (v := v54) (H := h55) (by kernel_rfl)
  (go_op1 xo45_12 xo45_12a rfl rfl rfl (st_no (by kernel_rfl) (st_bm (by kernel_rfl) fun v56 h57 =>
  (go_op1 xo45_12 xo45_12a rfl rfl rfl (st_no (by kernel_rfl) (st_bm (by kernel_rfl) fun v58 h59 =>
  (go_op1 xo45_12 xo45_12a rfl rfl rfl (st_no (by kernel_rfl) (st_id (v := v56) (H := h59) (by kernel_rfl)
  (go_op1 xo45_12 xo45_12a rfl rfl rfl (st_no (by kernel_rfl) (st_id (v := v58) (H := h59) (by kernel_rfl)
  (go_end1 xo45_12 (by kernel_rfl) xo45_12a
  (go_seq (go_reg0
  (go_op0 rfl rfl (st_id (v := v9) (H := h59) (by kernel_rfl)
  (go_op0 rfl rfl (st_bm (by kernel_rfl) fun v60 h61 =>
  (go_op0 rfl rfl (st_bm (by kernel_rfl) fun v62 h63 =>
  (go_op0 rfl rfl (st_id (v := v56) (H := h63) (by kernel_rfl)
  (go_op0 rfl rfl (st_bp (by kernel_rfl) fun v64 h65 =>
  (go_op0 rfl rfl (st_id (v := v64) (H := h65) (by kernel_rfl)
  (go_op0 rfl rfl (st_bm (by kernel_rfl) fun v66 h67 =>
  (go_op0 rfl rfl (st_bm (by kernel_rfl) fun v68 h69 =>
  (go_op0 rfl rfl (st_id (v := v66) (H := h69) (by kernel_rfl)
  (go_op0 rfl rfl (st_id (v := v68) (H := h69) (by kernel_rfl)
  (go_end0 (by kernel_rfl)
  (go_seq (go_seq (go_reg0
  (go_op0 rfl rfl (st_id (v := v66) (H := h69) (by kernel_rfl)
  (go_op0 rfl rfl (st_id (v := v66) (H := h69) (by kernel_rfl)
  (go_op0 rfl rfl (st_bm (by kernel_rfl) fun v70 h71 =>
  (go_op0 rfl rfl (st_bs (by kernel_rfl) fun h72 =>
  (go_end0 (by kernel_rfl)
  (go_seq (go_reg0
  (go_op0 rfl rfl (st_id (v := v68) (H := h72) (by kernel_rfl)
  (go_op0 rfl rfl (st_bm (by kernel_rfl) fun v73 h74 =>
  (go_end0 (by kernel_rfl)
  (go_cond (by kernel_rfl)
  (go_seq (go_reg1 xo45_16r
  (go_op1 xo45_16 xo45_16a rfl rfl rfl (st_no (by kernel_rfl) (st_id (v := v66) (H := h74) (by kernel_rfl)
  (go_op1 xo45_16 xo45_16a rfl rfl rfl (st_no (by kernel_rfl) (st_bm (by kernel_rfl) fun v75 h76 =>
  (go_op1 xo45_16 xo45_16a rfl rfl rfl (st_no (by kernel_rfl) (st_id (v := v66) (H := h76) (by kernel_rfl)
  (go_op1 xo45_16 xo45_16a rfl rfl rfl (st_no (by kernel_rfl) (st_bs (by kernel_rfl) fun h77 =>
  (go_end1 xo45_16 (by kernel_rfl) xo45_16a
  (go_ret (rt_seq_ret (rt_block_ret (rt_seq_ret (by kernel_rfl))))))))))))))))))))
  (go_skip (go_seq (go_seq (go_reg0
  (go_op0 rfl rfl (st_bm (by kernel_rfl) fun v78 h79 =>
  (go_op0 rfl rfl (st_bm (by kernel_rfl) fun v80 h81 =>
  (go_op0 rfl rfl (st_bp (by kernel_rfl) fun v82 h83 =>
  (go_op0 rfl rfl (st_bm (by kernel_rfl) fun v84 h85 =>
  (go_end0 (by kernel_rfl)
  (go_cond (by kernel_rfl)
  (go_seq (go_reg0
  (go_op0 rfl rfl (st_id (v := v66) (H := h85) (by kernel_rfl)
  (go_op0 rfl rfl (st_bm (by kernel_rfl) fun v86 h87 =>
  (go_op0 rfl rfl (st_bp (by kernel_rfl) fun v88 h89 =>
  (go_op0 rfl rfl (st_id (v := v66) (H := h89) (by kernel_rfl)
  (go_op0 rfl rfl (st_bs (by kernel_rfl) fun h90 =>
  (go_end0 (by kernel_rfl)
  (go_ret (rt_seq_ret (rt_block_ret (rt_seq_ret (by kernel_rfl))))))))))))))))))
  (go_skip (go_reg0
  (go_op0 rfl rfl (st_id (v := v58) (H := h85) (by kernel_rfl)
  (go_op0 rfl rfl (st_bm (by kernel_rfl) fun v91 h92 =>
  (go_op0 rfl rfl (st_bs (by kernel_rfl) fun h93 =>
  (go_op0 rfl rfl (st_bm (by kernel_rfl) fun v94 h95 =>
  (go_op0 rfl rfl (st_bs (by kernel_rfl) fun h96 =>
  (go_end0 (by kernel_rfl)
  (by kernel_rfl))))))))))))))))))))))))))))))))))))))))))))))))))))))))))))))))))))))))))))))))))))))))))))))))))))))))))))))
  (go_seq (go_reg0
  (go_op0 rfl rfl (st_bm (by kernel_rfl) fun v97 h98 =>
  (go_op0 rfl rfl (st_bm (by kernel_rfl) fun v99 h100 =>
  (go_op0 rfl rfl (st_bm (by kernel_rfl) fun v101 h102 =>
  (go_op0 rfl rfl (st_id (v := v101) (H := h102) (by kernel_rfl)
  (go_end0 (by kernel_rfl)
  (go_cond (by kernel_rfl)
  (go_seq (go_reg0
  (go_op0 rfl rfl (st_id (v := (V.lit (Value.int .i64 (-1)))) (H := h102) (by kernel_rfl)
  (go_end0 (by kernel_rfl)
  (go_seq (go_seq (go_reg0
  (go_op0 rfl rfl (st_bm (by kernel_rfl) fun v103 h104 =>
  (go_op0 rfl rfl (st_bm (by kernel_rfl) fun v105 h106 =>
  (go_op0 rfl rfl (st_bm (by kernel_rfl) fun v107 h108 =>
  (go_end0 (by kernel_rfl)
  (go_cond (by kernel_rfl)
  (go_reg0
  (go_op0 rfl rfl (st_bm (by kernel_rfl) fun v109 h110 =>
  (go_op0 rfl rfl (st_bm (by kernel_rfl) fun v111 h112 =>
  (go_op0 rfl rfl (st_bm (by kernel_rfl) fun v113 h114 =>
  (go_op0 rfl rfl (st_id (v := v113) (H := h114) (by kernel_rfl)
  (go_end0 (by kernel_rfl)
  (by kernel_rfl)))))))))))
  (go_skip (by kernel_rfl))))))))))))))))))
  (go_seq (go_reg1 xo45_4r
  (go_op1 xo45_4 xo45_4a rfl rfl rfl (st_yes (by kernel_rfl) (st_bm (by kernel_rfl) fun v115 h116 =>
  (go_op1 xo45_4 xo45_4a rfl rfl rfl (st_no (by kernel_rfl) (st_id (v := v9) (H := h116) (by kernel_rfl)
  (go_op1 xo45_4 xo45_4a rfl rfl rfl (st_no (by kernel_rfl) (st_bm (by kernel_rfl) fun v117 h118 =>
  (go_op1 xo45_4 xo45_4a rfl rfl rfl (st_no (by kernel_rfl) (st_bm (by kernel_rfl) fun v119 h120 =>
  (go_op1 xo45_4 xo45_4a rfl rfl rfl (st_no (by kernel_rfl) (st_bp (by kernel_rfl) fun v121 h122 =>
  (go_op1 xo45_4 xo45_4a rfl rfl rfl (st_no (by kernel_rfl) (st_bp (by kernel_rfl) fun v123 h124 =>
  (go_op1 xo45_4 xo45_4a rfl rfl rfl (st_no (by kernel_rfl) (st_bp (by kernel_rfl) fun v125 h126 =>
  (go_op1 xo45_4 xo45_4a rfl rfl rfl (st_no (by kernel_rfl) (st_id (v := v125) (H := h126) (by kernel_rfl)
  (go_end1 xo45_4 (by kernel_rfl) xo45_4a
  (go_seq (go_seq (go_reg0
  (go_op0 rfl rfl (st_bm (by kernel_rfl) fun v127 h128 =>
  (go_op0 rfl rfl (st_bm (by kernel_rfl) fun v129 h130 =>
  (go_op0 rfl rfl (st_bp (by kernel_rfl) fun v131 h132 =>
  (go_op0 rfl rfl (st_bm (by kernel_rfl) fun v133 h134 =>
  (go_op0 rfl rfl (st_bs (by kernel_rfl) fun h135 =>
  (go_end0 (by kernel_rfl)
  (go_seq (go_reg0
  (go_op0 rfl rfl (st_bm (by kernel_rfl) fun v136 h137 =>
  (go_op0 rfl rfl (st_bm (by kernel_rfl) fun v138 h139 =>
  (go_op0 rfl rfl (st_bm (by kernel_rfl) fun v140 h141 =>
  (go_op0 rfl rfl (st_bm (by kernel_rfl) fun v142 h143 =>
  (go_op0 rfl rfl (st_bm (by kernel_rfl) fun v144 h145 =>
  (go_op0 rfl rfl (st_bm (by kernel_rfl) fun v146 h147 =>
  (go_op0 rfl rfl (st_bm (by kernel_rfl) fun v148 h149 =>
  (go_op0 rfl rfl (st_id (v := v148) (H := h149) (by kernel_rfl)
  (go_gdF0 rfl rfl rfl (by kernel_rfl)
  (go_skip0 rfl rfl rfl (by kernel_rfl)
  (go_skip0 rfl rfl rfl (by kernel_rfl)
  (by kernel_rfl)))
  (st_bm (by kernel_rfl) fun v150 h151 =>
  (go_run0 rfl rfl rfl (by kernel_rfl) (st_bm (by kernel_rfl) fun v152 h153 =>
  (go_run0 rfl rfl rfl (by kernel_rfl) (st_bm (by kernel_rfl) fun v154 h155 =>
  (by kernel_rfl))))))
  (by kernel_rfl)))))))))))))))))))))))))))))))))))))))))))))))))))))))))))))))))))))))))))))))))))))))))))))))))))))))))))))))))))))))))))))))))))))))
theorem xe45 (k wl : Nat) (h : Hp) : evF Try.prog xM (k + 1) wl 45 [t0,t1,t2] h = bodyV (xX (xS k) 45 wl k false) Try.f45 [t0,t1,t2] h := by kernel_rfl
theorem xj45_0 (s : Sys) (k wl : Nat) (h : Hp) : runK (xX s 45 wl k false) (bodyK s.P Try.f45) xk45_0 .norm ⟨(t0::t1::t2::t3::t4::t5::t6::t7::t8::t9::ta::tb::tc::td::te::tf::tg::th::ti::tj::tk::tl::tm::tn::tp::tq::tr::ts::tt::tu::tv::tw::tx::ty::tz::tA::tB::tC::tD::tE::tF::tG::tH::tI::tJ::tK::tL::tM::tN::tO::tP::tQ::tR::tS::tT::tU::tV::tW::tX::tY::tZ::q0::q1::q2::q3::q4::q5::q6::q7::q8::q9::qa::qb::qc::qd::qe::qf::qg::qh::qi::qj::qk::ql::qm::qn::qo::qp::qq::qr::qs::qt::qu::qv::qw::qx::qy::qz::qA::qB::qC::qD::qE::qF::qG::qH::qI::qJ::qK::qL::qM::qN::qO::qP::qQ::qR::qS::qT::qU::qV::qW::qX::qY::qZ::z0::z1::z2::[]),h⟩ =
  bm (vLoad s.P 30 t5 h) h fun v156 h157 =>
  bs (vStore s.P wl 30 t7 v156 h157) fun h158 =>
  resO [some t8,vLoad s.P 30 t7 h158] h158 :=
  (rt_block_norm (go_seq (go_reg1 xo45_25r
  (go_op1 xo45_25 xo45_25a rfl rfl rfl (st_no (by kernel_rfl) (st_id (v := t8) (H := h) (by kernel_rfl)
  (go_op1 xo45_25 xo45_25a rfl rfl rfl (st_no (by kernel_rfl) (st_bm (by kernel_rfl) fun v156 h157 =>
  (go_op1 xo45_25 xo45_25a rfl rfl rfl (st_no (by kernel_rfl) (st_id (v := t8) (H := h157) (by kernel_rfl)
  (go_op1 xo45_25 xo45_25a rfl rfl rfl (st_no (by kernel_rfl) (st_bs (by kernel_rfl) fun h158 =>
  (go_end1 xo45_25 (by kernel_rfl) xo45_25a
  (go_ret (by kernel_rfl))))))))))))))))))
theorem xj45_1 (s : Sys) (k wl : Nat) (h : Hp) : runK (xX s 45 wl k false) (bodyK s.P Try.f45) xk45_1 .norm ⟨(t0::t1::t2::t3::t4::t5::t6::t7::t8::t9::ta::tb::tc::td::te::tf::tg::th::ti::tj::tk::tl::tm::tn::tp::tq::tr::ts::tt::tu::tv::tw::tx::ty::tz::tA::tB::tC::tD::tE::tF::tG::tH::tI::tJ::tK::tL::tM::tN::tO::tP::tQ::tR::tS::tT::tU::tV::tW::tX::tY::tZ::q0::q1::q2::q3::q4::q5::q6::q7::q8::q9::qa::qb::qc::qd::qe::qf::qg::qh::qi::qj::qk::ql::qm::qn::qo::qp::qq::qr::qs::qt::qu::qv::qw::qx::qy::qz::qA::qB::qC::qD::qE::qF::qG::qH::qI::qJ::qK::qL::qM::qN::qO::qP::qQ::qR::qS::qT::qU::qV::qW::qX::qY::qZ::z0::z1::z2::[]),h⟩ =
  stO h.length t3 (
  bm (vLoad s.P 23 t3 h) h fun v159 h160 =>
  bp (opBuildSliceC s.P wl 27 1 [(0,td)] h160) fun v161 h162 =>
  bp (callV (xX s 45 wl k false) true true (.fn (.func 64) [] []) [v159,t8,v161] h162) fun v163 h164 =>
  stO h.length t5 (
  bm (vLoad s.P 30 t5 h164) h164 fun v165 h166 =>
  bm (vFieldAddr s.P 30 t5 5) h166 fun v167 h168 =>
  stO h.length v167 (
  bm (vLoad s.P 28 v167 h168) h168 fun v169 h170 =>
  bp (callV (xX s 45 wl k false) false true (.fn (.func 63) [] []) [v165,(V.lit (Value.int .i64 1)),v169] h170) fun v171 h172 =>
  bs (vStore s.P wl 30 t7 v171 h172) fun h173 =>
  resO [some v163,vLoad s.P 30 t7 h173] h173))) :=
  (go_seq (go_reg1 xo45_24r
  (go_op1 xo45_24 xo45_24a rfl rfl rfl (st_yes (by kernel_rfl) (st_bm (by kernel_rfl) fun v159 h160 =>
  (go_op1 xo45_24 xo45_24a rfl rfl rfl (st_no (by kernel_rfl) (st_id (v := t8) (H := h160) (by kernel_rfl)
  (go_op1 xo45_24 xo45_24a rfl rfl rfl (st_no (by kernel_rfl) (st_id (v := td) (H := h160) (by kernel_rfl)
  (go_op1 xo45_24 xo45_24a rfl rfl rfl (st_no (by kernel_rfl) (st_bp (by kernel_rfl) fun v161 h162 =>
  (go_op1 xo45_24 xo45_24a rfl rfl rfl (st_no (by kernel_rfl) (st_bp (by kernel_rfl) fun v163 h164 =>
  (go_op1 xo45_24 xo45_24a rfl rfl rfl (st_yes (by kernel_rfl) (st_bm (by kernel_rfl) fun v165 h166 =>
  (go_op1 xo45_24 xo45_24a rfl rfl rfl (st_no (by kernel_rfl) (st_bm (by kernel_rfl) fun v167 h168 =>
  (go_op1 xo45_24 xo45_24a rfl rfl rfl (st_yes (by kernel_rfl) (st_bm (by kernel_rfl) fun v169 h170 =>
  (go_op1 xo45_24 xo45_24a rfl rfl rfl (st_no (by kernel_rfl) (st_bp (by kernel_rfl) fun v171 h172 =>
  (go_op1 xo45_24 xo45_24a rfl rfl rfl (st_no (by kernel_rfl) (st_id (v := v163) (H := h172) (by kernel_rfl)
  (go_op1 xo45_24 xo45_24a rfl rfl rfl (st_no (by kernel_rfl) (st_bs (by kernel_rfl) fun h173 =>
  (go_end1 xo45_24 (by kernel_rfl) xo45_24a
  (go_ret (rt_block_ret (rt_seq_ret (by kernel_rfl))))))))))))))))))))))))))))))))))))))))
theorem xm45_2 (s : Sys) (k wl : Nat) (m0 : Nat) (ac : List Nat × List Nat) (h : Hp) : opsP (xX s 45 wl k false) xg45_4 11 m0 ac (runK (xX s 45 wl k false) (bodyK s.P Try.f45) xk45_2) ⟨(t0::t1::t2::t3::t4::t5::t6::t7::t8::t9::ta::tb::tc::td::te::tf::tg::th::ti::tj::tk::tl::tm::tn::tp::tq::tr::ts::tt::tu::tv::tw::tx::ty::tz::tA::tB::tC::tD::tE::tF::tG::tH::tI::tJ::tK::tL::tM::tN::tO::tP::tQ::tR::tS::tT::tU::tV::tW::tX::tY::tZ::q0::q1::q2::q3::q4::q5::q6::q7::q8::q9::qa::qb::qc::qd::qe::qf::qg::qh::qi::qj::qk::ql::qm::qn::qo::qp::qq::qr::qs::qt::qu::qv::qw::qx::qy::qz::qA::qB::qC::qD::qE::qF::qG::qH::qI::qJ::qK::qL::qM::qN::qO::qP::qQ::qR::qS::qT::qU::qV::qW::qX::qY::qZ::z0::z1::z2::[]),h⟩ =
  bm (vPick tG (V.lit (Value.bool true)) tJ) h fun v174 h175 =>
  cnd v174 (
  stO h175.length t5 (
  bm (vLoad s.P 30 t5 h175) h175 fun v176 h177 =>
  bm (vFieldAddr s.P 30 t5 4) h177 fun v178 h179 =>
  bm (vLoad s.P 28 v178 h179) h179 fun v180 h181 =>
  bp (callV (xX s 45 wl k false) true true (.fn (.func 62) [] []) [v180] h181) fun v182 h183 =>
  bp (callV (xX s 45 wl k false) false true (.fn (.func 63) [] []) [v176,(V.lit (Value.int .i64 1)),v182] h183) fun v184 h185 =>
  bs (vStore s.P wl 30 t7 v184 h185) fun h186 =>
  resO [some t8,vLoad s.P 30 t7 h186] h186)) (
  bm (vFieldAddr s.P 30 t5 5) h175 fun v187 h188 =>
  bm (vLoad s.P 28 v187 h188) h188 fun v189 h190 =>
  bm (vFieldAddr s.P 30 t5 5) h190 fun v191 h192 =>
  bm (vLoad s.P 28 v191 h192) h192 fun v193 h194 =>
  bm (vBin s.P .sub 28 v193 (V.lit (Value.int .u64 1))) h194 fun v195 h196 =>
  bm (vBin s.P .and 28 v189 v195) h196 fun v197 h198 =>
  bm (vFieldAddr s.P 30 t5 5) h198 fun v199 h200 =>
  bs (vStore s.P wl 28 v199 v197 h200) fun h201 =>
  runK (xX s 45 wl k false) (bodyK s.P Try.f45) xk45_0 .norm ⟨(t0::t1::t2::t3::t4::t5::t6::t7::t8::t9::ta::tb::tc::td::te::tf::tg::th::ti::tj::tk::tl::tm::tn::tp::tq::tr::ts::tt::tu::tv::tw::tx::ty::tz::tA::tB::tC::tD::tE::tF::tG::tH::tI::tJ::v174::tL::tM::tN::tO::tP::tQ::v187::v189::v191::v193::v195::v197::v199::tY::tZ::q0::q1::q2::q3::q4::q5::q6::q7::q8::q9::qa::qb::qc::qd::qe::qf::qg::qh::qi::qj::qk::ql::qm::qn::qo::qp::qq::qr::qs::qt::qu::qv::qw::qx::qy::qz::qA::qB::qC::qD::qE::qF::qG::qH::qI::qJ::qK::qL::qM::qN::qO::qP::qQ::qR::qS::qT::qU::qV::qW::qX::qY::qZ::z0::z1::z2::[]),h201⟩) :=
  (go_op0 rfl rfl (st_bm (by kernel_rfl) fun v174 h175 =>
  (go_end0 (by kernel_rfl)
  (go_cond (by kernel_rfl)
  (go_seq (go_reg1 xo45_7r
  (go_op1 xo45_7 xo45_7a rfl rfl rfl (st_no (by kernel_rfl) (st_id (v := t8) (H := h175) (by kernel_rfl)
  (go_op1 xo45_7 xo45_7a rfl rfl rfl (st_yes (by kernel_rfl) (st_bm (by kernel_rfl) fun v176 h177 =>
  (go_op1 xo45_7 xo45_7a rfl rfl rfl (st_no (by kernel_rfl) (st_bm (by kernel_rfl) fun v178 h179 =>
  (go_op1 xo45_7 xo45_7a rfl rfl rfl (st_no (by kernel_rfl) (st_bm (by kernel_rfl) fun v180 h181 =>
  (go_op1 xo45_7 xo45_7a rfl rfl rfl (st_no (by kernel_rfl) (st_bp (by kernel_rfl) fun v182 h183 =>
  (go_op1 xo45_7 xo45_7a rfl rfl rfl (st_no (by kernel_rfl) (st_bp (by kernel_rfl) fun v184 h185 =>
  (go_op1 xo45_7 xo45_7a rfl rfl rfl (st_no (by kernel_rfl) (st_id (v := t8) (H := h185) (by kernel_rfl)
  (go_op1 xo45_7 xo45_7a rfl rfl rfl (st_no (by kernel_rfl) (st_bs (by kernel_rfl) fun h186 =>
  (go_end1 xo45_7 (by kernel_rfl) xo45_7a
  (go_ret (rt_seq_ret (rt_block_ret (rt_seq_ret (by kernel_rfl))))))))))))))))))))))))))))))))
  (go_skip (go_reg0
  (go_op0 rfl rfl (st_bm (by kernel_rfl) fun v187 h188 =>
  (go_op0 rfl rfl (st_bm (by kernel_rfl) fun v189 h190 =>
  (go_op0 rfl rfl (st_bm (by kernel_rfl) fun v191 h192 =>
  (go_op0 rfl rfl (st_bm (by kernel_rfl) fun v193 h194 =>
  (go_op0 rfl rfl (st_bm (by kernel_rfl) fun v195 h196 =>
  (go_op0 rfl rfl (st_bm (by kernel_rfl) fun v197 h198 =>
  (go_op0 rfl rfl (st_bm (by kernel_rfl) fun v199 h200 =>
  (go_op0 rfl rfl (st_bs (by kernel_rfl) fun h201 =>
  (go_end0 (by kernel_rfl)
  (by kernel_rfl))))))))))))))))))))))))
theorem xk45_0_ret (cx : Cx) (K : Out → St → Option (V × Hp)) (s : St) : runK cx K xk45_0 .ret s = K .ret s := by kernel_rfl
theorem xk45_1_ret (cx : Cx) (K : Out → St → Option (V × Hp)) (s : St) : runK cx K xk45_1 .ret s = K .ret s := by kernel_rfl
theorem xk45_2_ret (cx : Cx) (K : Out → St → Option (V × Hp)) (s : St) : runK cx K xk45_2 .ret s = K .ret s := by kernel_rfl
-- names: xb45,xj45_0,xj45_1,xm45_2,xk45_0_ret,xk45_1_ret,xk45_2_ret
noncomputable def xg59_0 : Code := codeAt (bodyOf Try.f59) [1,0]
noncomputable def xg59_1 : Code := codeAt (bodyOf Try.f59) [1,1,0]
noncomputable def xk59_0 : List Fr := [.seq (codeAt (bodyOf Try.f59) [1,1,1])]
theorem xo59_1 : orderIx (opsOf xg59_0) = [0,1,2,3,4,5,6,7,8] := by kernel_rfl
theorem xo59_1a : (rgOf (opsOf xg59_0)).any = false := by kernel_rfl
theorem xo59_1r : regOk (opsOf xg59_0) = true := by kernel_rfl
theorem xb59 (s : Sys) (k wl : Nat) (h : Hp) : bodyV (xX s 59 wl k false) Try.f59 [t0,t1,t2] h =
  bp (opBox t0 h) fun v1 h2 =>
  bp (opBox t2 h2) fun v3 h4 =>
  bp (callV (xX s 59 wl k false) true true (.fn (.func 60) [] []) [] h4) fun v5 h6 =>
  bm (vFieldAddr s.P 30 v3 0) h6 fun v7 h8 =>
  stO h4.length v7 (
  bm (vLoad s.P 3 v7 h8) h8 fun v9 h10 =>
  bm (vLookup s.P 87 v5 v9 true h10) h10 fun v11 h12 =>
  bm (vExtract v11 0) h12 fun v13 h14 =>
  bm (vExtract v11 1) h14 fun v15 h16 =>
  gd v15 (
  bm (vLoad s.P 23 v1 h16) h16 fun v17 h18 =>
  bp (callV (xX s 59 wl k false) false true (.fn (.func 14) [] []) [v17] h18) fun v19 h20 =>
  opsP (xX s 59 wl k false) xg59_1 4 h16.length ([],[]) (runK (xX s 59 wl k false) (bodyK s.P Try.f59) xk59_0) ⟨[t0,t1,t2,v1,uu,v3,(V.lit (Value.bool false)),v13,v15,v11,v5,v7,v9,v11,v13,v15,v15,(V.lit (Value.bool true)),v17,v19,uu,uu,uu,uu,uu,uu,uu,uu,uu,uu,uu,uu,uu,uu,uu,uu,uu,uu,uu,uu,uu,uu,uu],h20⟩) (
  opsP (xX s 59 wl k false) xg59_1 4 h16.length ([],[]) (runK (xX s 59 wl k false) (bodyK s.P Try.f59) xk59_0) ⟨[t0,t1,t2,v1,uu,v3,(V.lit (Value.bool false)),v13,v15,v11,v5,v7,v9,v11,v13,v15,v15,(V.lit (Value.bool false)),uu,uu,uu,uu,uu,uu,uu,uu,uu,uu,uu,uu,uu,uu,uu,uu,uu,uu,uu,uu,uu,uu,uu,uu,uu],h16⟩) (
  opsP (xX s 59 wl k false) xg59_1 3 h16.length ([],[]) (runK (xX s 59 wl k false) (bodyK s.P Try.f59) xk59_0) ⟨[t0,t1,t2,v1,uu,v3,(V.lit (Value.bool false)),v13,v15,v11,v5,v7,v9,v11,v13,v15,v15,v15,uu,uu,uu,uu,uu,uu,uu,uu,uu,uu,uu,uu,uu,uu,uu,uu,uu,uu,uu,uu,uu,uu,uu,uu,uu],h16⟩)) :=
  bodyV_run rfl (go_seq (go_reg0
  (go_op0 rfl rfl (st_bp (by kernel_rfl) fun v1 h2 =>
  (go_op0 rfl rfl (st_bp (by kernel_rfl) fun v3 h4 =>
  (go_op0 rfl rfl (st_id (v := (V.lit (Value.bool false))) (H := h4) (by kernel_rfl)
  (go_end0 (by kernel_rfl)
  (go_seq (go_reg1 xo59_1r
  (go_op1 xo59_1 xo59_1a rfl rfl rfl (st_no (by kernel_rfl) (st_bp (by kernel_rfl) fun v5 h6 =>
  (go_op1 xo59_1 xo59_1a rfl rfl rfl (st_no (by kernel_rfl) (st_bm (by kernel_rfl) fun v7 h8 =>
  (go_op1 xo59_1 xo59_1a rfl rfl rfl (st_yes (by kernel_rfl) (st_bm (by kernel_rfl) fun v9 h10 =>
  (go_op1 xo59_1 xo59_1a rfl rfl rfl (st_no (by kernel_rfl) (st_bm (by kernel_rfl) fun v11 h12 =>
  (go_op1 xo59_1 xo59_1a rfl rfl rfl (st_no (by kernel_rfl) (st_id (v := v11) (H := h12) (by kernel_rfl)
  (go_op1 xo59_1 xo59_1a rfl rfl rfl (st_no (by kernel_rfl) (st_bm (by kernel_rfl) fun v13 h14 =>
  (go_op1 xo59_1 xo59_1a rfl rfl rfl (st_no (by kernel_rfl) (st_bm (by kernel_rfl) fun v15 h16 =>
  (go_op1 xo59_1 xo59_1a rfl rfl rfl (st_no (by kernel_rfl) (st_id (v := v13) (H := h16) (by kernel_rfl)
  (go_op1 xo59_1 xo59_1a rfl rfl rfl (st_no (by kernel_rfl) (st_id (v := v15) (H := h16) (by kernel_rfl)
  (go_end1 xo59_1 (by kernel_rfl) xo59_1a
  (go_seq (go_reg0
  (go_op0 rfl rfl (st_id (v := v15) (H := h16) (by kernel_rfl)
  (go_op0 rfl rfl (st_id (v := v15) (H := h16) (by kernel_rfl)
  (go_gdT0 rfl rfl rfl (by kernel_rfl)
  (st_bm (by kernel_rfl) fun v17 h18 =>
  (go_run0 rfl rfl rfl (by kernel_rfl) (st_bp (by kernel_rfl) fun v19 h20 =>
  (by kernel_rfl))))
  (go_skip0 rfl rfl rfl (by kernel_rfl)
  (by kernel_rfl))
  (by kernel_rfl)))))))))))))))))))))))))))))))))))))))))))))))
theorem xe59 (k wl : Nat) (h : Hp) : evF Try.prog xM (k + 1) wl 59 [t0,t1,t2] h = bodyV (xX (xS k) 59 wl k false) Try.f59 [t0,t1,t2] h := by kernel_rfl
theorem xm59_0 (s : Sys) (k wl : Nat) (m0 : Nat) (ac : List Nat × List Nat) (h : Hp) : opsP (xX s 59 wl k false) xg59_1 4 m0 ac (runK (xX s 59 wl k false) (bodyK s.P Try.f59) xk59_0) ⟨[t0,t1,t2,t3,t4,t5,t6,t7,t8,t9,ta,tb,tc,td,te,tf,tg,th,ti,tj,tk,tl,tm,tn,tp,tq,tr,ts,tt,tu,tv,tw,tx,ty,tz,tA,tB,tC,tD,tE,tF,tG,tH],h⟩ =
  bm (vPick th tj (V.lit (Value.bool false))) h fun v21 h22 =>
  gd v21 (
  bp (opLen s.P 26 t1 h22) fun v23 h24 =>
  bm (vLoad s.P 23 t3 h24) h24 fun v25 h26 =>
  bp (callV (xX s 59 wl k false) false true (.fn (.func 37) [] []) [v25] h26) fun v27 h28 =>
  bm (vBin s.P .eql 3 v23 v27) h28 fun v29 h30 =>
  opsP (xX s 59 wl k false) xg59_1 11 m0 ac (runK (xX s 59 wl k false) (bodyK s.P Try.f59) xk59_0) ⟨[t0,t1,t2,t3,t4,t5,t6,t7,t8,t9,ta,tb,tc,td,te,tf,tg,th,ti,tj,v21,(V.lit (Value.bool true)),t1,v23,v25,v27,v29,ts,tt,tu,tv,tw,tx,ty,tz,tA,tB,tC,tD,tE,tF,tG,tH],h30⟩) (
  opsP (xX s 59 wl k false) xg59_1 11 m0 ac (runK (xX s 59 wl k false) (bodyK s.P Try.f59) xk59_0) ⟨[t0,t1,t2,t3,t4,t5,t6,t7,t8,t9,ta,tb,tc,td,te,tf,tg,th,ti,tj,v21,(V.lit (Value.bool false)),uu,uu,uu,uu,uu,ts,tt,tu,tv,tw,tx,ty,tz,tA,tB,tC,tD,tE,tF,tG,tH],h22⟩) (
  opsP (xX s 59 wl k false) xg59_1 7 m0 ac (runK (xX s 59 wl k false) (bodyK s.P Try.f59) xk59_0) ⟨[t0,t1,t2,t3,t4,t5,t6,t7,t8,t9,ta,tb,tc,td,te,tf,tg,th,ti,tj,v21,v21,uu,tn,tp,tq,tr,ts,tt,tu,tv,tw,tx,ty,tz,tA,tB,tC,tD,tE,tF,tG,tH],h22⟩) :=
  (go_op0 rfl rfl (st_bm (by kernel_rfl) fun v21 h22 =>
  (go_op0 rfl rfl (st_id (v := v21) (H := h22) (by kernel_rfl)
  (go_gdT0 rfl rfl rfl (by kernel_rfl)
  (st_id (v := t1) (H := h22) (by kernel_rfl)
  (go_run0 rfl rfl rfl (by kernel_rfl) (st_bp (by kernel_rfl) fun v23 h24 =>
  (go_run0 rfl rfl rfl (by kernel_rfl) (st_bm (by kernel_rfl) fun v25 h26 =>
  (go_run0 rfl rfl rfl (by kernel_rfl) (st_bp (by kernel_rfl) fun v27 h28 =>
  (go_run0 rfl rfl rfl (by kernel_rfl) (st_bm (by kernel_rfl) fun v29 h30 =>
  (by kernel_rfl))))))))))
  (go_skip0 rfl rfl rfl (by kernel_rfl)
  (go_skip0 rfl rfl rfl (by kernel_rfl)
  (go_skip0 rfl rfl rfl (by kernel_rfl)
  (go_skip0 rfl rfl rfl (by kernel_rfl)
  (by kernel_rfl)))))
  (by kernel_rfl))))))
theorem xm59_1 (s : Sys) (k wl : Nat) (m0 : Nat) (ac : List Nat × List Nat) (h : Hp) : opsP (xX s 59 wl k false) xg59_1 11 m0 ac (runK (xX s 59 wl k false) (bodyK s.P Try.f59) xk59_0) ⟨[t0,t1,t2,t3,t4,t5,t6,t7,t8,t9,ta,tb,tc,td,te,tf,tg,th,ti,tj,tk,tl,tm,tn,tp,tq,tr,ts,tt,tu,tv,tw,tx,ty,tz,tA,tB,tC,tD,tE,tF,tG,tH],h⟩ =
  bm (vPick tl tr (V.lit (Value.bool false))) h fun v31 h32 =>
  gd v31 (
  bm (vLoad s.P 30 t5 h32) h32 fun v33 h34 =>
  bp (callV (xX s 59 wl k false) false true (.fn (.func 28) [] []) [v33] h34) fun v35 h36 =>
  bm (vUn .not v35) h36 fun v37 h38 =>
  opsP (xX s 59 wl k false) xg59_1 16 m0 ac (runK (xX s 59 wl k false) (bodyK s.P Try.f59) xk59_0) ⟨[t0,t1,t2,t3,t4,t5,t6,t7,t8,t9,ta,tb,tc,td,te,tf,tg,th,ti,tj,tk,tl,tm,tn,tp,tq,tr,v31,(V.lit (Value.bool true)),v33,v35,v37,tx,ty,tz,tA,tB,tC,tD,tE,tF,tG,tH],h38⟩) (
  opsP (xX s 59 wl k false) xg59_1 16 m0 ac (runK (xX s 59 wl k false) (bodyK s.P Try.f59) xk59_0) ⟨[t0,t1,t2,t3,t4,t5,t6,t7,t8,t9,ta,tb,tc,td,te,tf,tg,th,ti,tj,tk,tl,tm,tn,tp,tq,tr,v31,(V.lit (Value.bool false)),uu,uu,uu,tx,ty,tz,tA,tB,tC,tD,tE,tF,tG,tH],h32⟩) (
  opsP (xX s 59 wl k false) xg59_1 14 m0 ac (runK (xX s 59 wl k false) (bodyK s.P Try.f59) xk59_0) ⟨[t0,t1,t2,t3,t4,t5,t6,t7,t8,t9,ta,tb,tc,td,te,tf,tg,th,ti,tj,tk,tl,tm,tn,tp,tq,tr,v31,v31,uu,tv,tw,tx,ty,tz,tA,tB,tC,tD,tE,tF,tG,tH],h32⟩) :=
  (go_op0 rfl rfl (st_bm (by kernel_rfl) fun v31 h32 =>
  (go_op0 rfl rfl (st_id (v := v31) (H := h32) (by kernel_rfl)
  (go_gdT0 rfl rfl rfl (by kernel_rfl)
  (st_bm (by kernel_rfl) fun v33 h34 =>
  (go_run0 rfl rfl rfl (by kernel_rfl) (st_bp (by kernel_rfl) fun v35 h36 =>
  (go_run0 rfl rfl rfl (by kernel_rfl) (st_bm (by kernel_rfl) fun v37 h38 =>
  (by kernel_rfl))))))
  (go_skip0 rfl rfl rfl (by kernel_rfl)
  (go_skip0 rfl rfl rfl (by kernel_rfl)
  (by kernel_rfl)))
  (by kernel_rfl))))))
theorem xm59_2 (s : Sys) (k wl : Nat) (m0 : Nat) (ac : List Nat × List Nat) (h : Hp) : opsP (xX s 59 wl k false) xg59_1 16 m0 ac (runK (xX s 59 wl k false) (bodyK s.P Try.f59) xk59_0) ⟨[t0,t1,t2,t3,t4,t5,t6,t7,t8,t9,ta,tb,tc,td,te,tf,tg,th,ti,tj,tk,tl,tm,tn,tp,tq,tr,ts,tt,tu,tv,tw,tx,ty,tz,tA,tB,tC,tD,tE,tF,tG,tH],h⟩ =
  bm (vPick tt tw (V.lit (Value.bool false))) h fun v39 h40 =>
  gd v39 (
  bm (vFieldAddr s.P 30 t5 1) h40 fun v41 h42 =>
  bm (vLoad s.P 3 v41 h42) h42 fun v43 h44 =>
  bm (vBin s.P .geq 3 v43 (V.lit (Value.int .i64 0))) h44 fun v45 h46 =>
  opsP (xX s 59 wl k false) xg59_1 21 m0 ac (runK (xX s 59 wl k false) (bodyK s.P Try.f59) xk59_0) ⟨[t0,t1,t2,t3,t4,t5,t6,t7,t8,t9,ta,tb,tc,td,te,tf,tg,th,ti,tj,tk,tl,tm,tn,tp,tq,tr,ts,tt,tu,tv,tw,v39,(V.lit (Value.bool true)),v41,v43,v45,tC,tD,tE,tF,tG,tH],h46⟩) (
  opsP (xX s 59 wl k false) xg59_1 21 m0 ac (runK (xX s 59 wl k false) (bodyK s.P Try.f59) xk59_0) ⟨[t0,t1,t2,t3,t4,t5,t6,t7,t8,t9,ta,tb,tc,td,te,tf,tg,th,ti,tj,tk,tl,tm,tn,tp,tq,tr,ts,tt,tu,tv,tw,v39,(V.lit (Value.bool false)),uu,uu,uu,tC,tD,tE,tF,tG,tH],h40⟩) (
  opsP (xX s 59 wl k false) xg59_1 19 m0 ac (runK (xX s 59 wl k false) (bodyK s.P Try.f59) xk59_0) ⟨[t0,t1,t2,t3,t4,t5,t6,t7,t8,t9,ta,tb,tc,td,te,tf,tg,th,ti,tj,tk,tl,tm,tn,tp,tq,tr,ts,tt,tu,tv,tw,v39,v39,uu,tA,tB,tC,tD,tE,tF,tG,tH],h40⟩) :=
  (go_op0 rfl rfl (st_bm (by kernel_rfl) fun v39 h40 =>
  (go_op0 rfl rfl (st_id (v := v39) (H := h40) (by kernel_rfl)
  (go_gdT0 rfl rfl rfl (by kernel_rfl)
  (st_bm (by kernel_rfl) fun v41 h42 =>
  (go_run0 rfl rfl rfl (by kernel_rfl) (st_bm (by kernel_rfl) fun v43 h44 =>
  (go_run0 rfl rfl rfl (by kernel_rfl) (st_bm (by kernel_rfl) fun v45 h46 =>
  (by kernel_rfl))))))
  (go_skip0 rfl rfl rfl (by kernel_rfl)
  (go_skip0 rfl rfl rfl (by kernel_rfl)
  (by kernel_rfl)))
  (by kernel_rfl))))))
theorem xm59_3 (s : Sys) (k wl : Nat) (m0 : Nat) (ac : List Nat × List Nat) (h : Hp) : opsP (xX s 59 wl k false) xg59_1 21 m0 ac (runK (xX s 59 wl k false) (bodyK s.P Try.f59) xk59_0) ⟨[t0,t1,t2,t3,t4,t5,t6,t7,t8,t9,ta,tb,tc,td,te,tf,tg,th,ti,tj,tk,tl,tm,tn,tp,tq,tr,ts,tt,tu,tv,tw,tx,ty,tz,tA,tB,tC,tD,tE,tF,tG,tH],h⟩ =
  bm (vPick ty tB (V.lit (Value.bool false))) h fun v47 h48 =>
  gd v47 (
  bm (vFieldAddr s.P 30 t5 1) h48 fun v49 h50 =>
  bm (vLoad s.P 3 v49 h50) h50 fun v51 h52 =>
  bm (vBin s.P .leq 3 v51 (V.lit (Value.int .i64 2))) h52 fun v53 h54 =>
  opsP (xX s 59 wl k false) xg59_1 26 m0 ac (runK (xX s 59 wl k false) (bodyK s.P Try.f59) xk59_0) ⟨[t0,t1,t2,t3,t4,t5,t6,t7,t8,t9,ta,tb,tc,td,te,tf,tg,th,ti,tj,tk,tl,tm,tn,tp,tq,tr,ts,tt,tu,tv,tw,tx,ty,tz,tA,tB,v47,(V.lit (Value.bool true)),v49,v51,v53,tH],h54⟩) (
  opsP (xX s 59 wl k false) xg59_1 26 m0 ac (runK (xX s 59 wl k false) (bodyK s.P Try.f59) xk59_0) ⟨[t0,t1,t2,t3,t4,t5,t6,t7,t8,t9,ta,tb,tc,td,te,tf,tg,th,ti,tj,tk,tl,tm,tn,tp,tq,tr,ts,tt,tu,tv,tw,tx,ty,tz,tA,tB,v47,(V.lit (Value.bool false)),uu,uu,uu,tH],h48⟩) (
  opsP (xX s 59 wl k false) xg59_1 24 m0 ac (runK (xX s 59 wl k false) (bodyK s.P Try.f59) xk59_0) ⟨[t0,t1,t2,t3,t4,t5,t6,t7,t8,t9,ta,tb,tc,td,te,tf,tg,th,ti,tj,tk,tl,tm,tn,tp,tq,tr,ts,tt,tu,tv,tw,tx,ty,tz,tA,tB,v47,v47,uu,tF,tG,tH],h48⟩) :=
  (go_op0 rfl rfl (st_bm (by kernel_rfl) fun v47 h48 =>
  (go_op0 rfl rfl (st_id (v := v47) (H := h48) (by kernel_rfl)
  (go_gdT0 rfl rfl rfl (by kernel_rfl)
  (st_bm (by kernel_rfl) fun v49 h50 =>
  (go_run0 rfl rfl rfl (by kernel_rfl) (st_bm (by kernel_rfl) fun v51 h52 =>
  (go_run0 rfl rfl rfl (by kernel_rfl) (st_bm (by kernel_rfl) fun v53 h54 =>
  (by kernel_rfl))))))
  (go_skip0 rfl rfl rfl (by kernel_rfl)
  (go_skip0 rfl rfl rfl (by kernel_rfl)
  (by kernel_rfl)))
  (by kernel_rfl))))))
theorem xm59_4 (s : Sys) (k wl : Nat) (m0 : Nat) (ac : List Nat × List Nat) (h : Hp) : opsP (xX s 59 wl k false) xg59_1 26 m0 ac (runK (xX s 59 wl k false) (bodyK s.P Try.f59) xk59_0) ⟨[t0,t1,t2,t3,t4,t5,t6,t7,t8,t9,ta,tb,tc,td,te,tf,tg,th,ti,tj,tk,tl,tm,tn,tp,tq,tr,ts,tt,tu,tv,tw,tx,ty,tz,tA,tB,tC,tD,tE,tF,tG,tH],h⟩ =
  bm (vPick tD tG (V.lit (Value.bool false))) h fun v55 h56 =>
  some (v55,h56) :=
  (go_op0 rfl rfl (st_bm (by kernel_rfl) fun v55 h56 =>
  (go_op0 rfl rfl (st_id (v := v55) (H := h56) (by kernel_rfl)
  (go_end0 (by kernel_rfl)
  (go_ret (by kernel_rfl)))))))
theorem xk59_0_ret (cx : Cx) (K : Out → St → Option (V × Hp)) (s : St) : runK cx K xk59_0 .ret s = K .ret s := by kernel_rfl
-- names: xb59,xm59_0,xm59_1,xm59_2,xm59_3,xm59_4,xk59_0_ret

theorem xb60 (s : Sys) (k wl : Nat) (h : Hp) : bodyV (xX s 60 wl k false) Try.f60 [] h =
  bp (some (.map h.length,h ++ [.map []])) fun v1 h2 =>
  bs (vInsert s.P wl 87 v1 (V.lit (Value.int .i64 6)) (.fn (.func 82) [] []) h2) fun h3 =>
  bs (vInsert s.P wl 87 v1 (V.lit (Value.int .i64 7)) (.fn (.func 84) [] []) h3) fun h4 =>
  some (v1,h4) :=
  bodyV_run rfl (go_seq (go_reg0
  (go_op0 rfl rfl (st_id (v := (constV (Value.map none))) (H := h) (by kernel_rfl)
  (go_end0 (by kernel_rfl)
  (go_seq (go_reg0
  (go_op0 rfl rfl (st_bp (by kernel_rfl) fun v1 h2 =>
  (go_op0 rfl rfl (st_bs (by kernel_rfl) fun h3 =>
  (go_op0 rfl rfl (st_bs (by kernel_rfl) fun h4 =>
  (go_op0 rfl rfl (st_id (v := v1) (H := h4) (by kernel_rfl)
  (go_op0 rfl rfl (st_id (v := v1) (H := h4) (by kernel_rfl)
  (go_end0 (by kernel_rfl)
  (go_ret (by kernel_rfl))))))))))))))))))))
theorem xe60 (k wl : Nat) (h : Hp) : evF Try.prog xM (k + 1) wl 60 [] h = bodyV (xX (xS k) 60 wl k false) Try.f60 [] h := by kernel_rfl
-- names: xb60,
noncomputable def xl64_0 : Code := codeAt (bodyOf Try.f64) [1,0,1,0,0]
noncomputable def xk64_0 : List Fr := [.block 0,.seq (codeAt (bodyOf Try.f64) [1,1])]
theorem xb64 (s : Sys) (k wl : Nat) (h : Hp) : bodyV (xX s 64 wl k false) Try.f64 [t0,t1,t2] h =
  bp (opBox t0 h) fun v1 h2 =>
  bp (some (.own h2.length 0 0,h2 ++ [.rows 0 [] 0 true])) fun v3 h4 =>
  bp (opLen s.P 27 t2 h4) fun v5 h6 =>
  itX (xX s 64 wl k false) xl64_0 h6.length (runK (xX s 64 wl k false) (bodyK s.P Try.f64) xk64_0) k ⟨[(V.kill h6.length t0),(V.kill h6.length t1),(V.kill h6.length t2),(V.kill h6.length v1),(V.kill h6.length uu),(V.kill h6.length uu),(V.kill h6.length v3),(V.kill h6.length uu),(V.kill h6.length uu),(V.kill h6.length t2),(V.kill h6.length v5),(V.lit (Value.int .i64 0)),.junk,.junk,.junk,.junk,.junk,.junk,.junk,.junk,.junk,(V.kill h6.length uu)],cutH h6.length h6⟩ :=
  bodyV_run rfl (go_seq (go_reg0
  (go_op0 rfl rfl (st_bp (by kernel_rfl) fun v1 h2 =>
  (go_op0 rfl rfl (st_bp (by kernel_rfl) fun v3 h4 =>
  (go_end0 (by kernel_rfl)
  (go_seq (go_seq (go_reg0
  (go_op0 rfl rfl (st_id (v := t2) (H := h4) (by kernel_rfl)
  (go_op0 rfl rfl (st_bp (by kernel_rfl) fun v5 h6 =>
  (go_op0 rfl rfl (st_id (v := (V.lit (Value.int .i64 0))) (H := h6) (by kernel_rfl)
  (go_end0 (by kernel_rfl)
  (go_block (by kernel_rfl)))))))))))))))))))
theorem xe64 (k wl : Nat) (h : Hp) : evF Try.prog xM (k + 1) wl 64 [t0,t1,t2] h = bodyV (xX (xS k) 64 wl k false) Try.f64 [t0,t1,t2] h := by kernel_rfl
theorem xz64 (P : Program) (h : Hp) : bodyK P Try.f64 .ret ⟨[t0,t1,t2,t3,t4,t5,t6,t7,t8,t9,ta,tb,tc,td,te,tf,tg,th,ti,tj,tk,tl],h⟩ = some (t6,h) := by kernel_rfl
theorem xr64_0 (s : Sys) (K : Out → St → Option (V × Hp)) (k wl : Nat) (rd : Bool) (n n0 : Nat) (h : Hp) : itX (xX s 64 wl k rd) xl64_0 n0 K (n + 1) ⟨[t0,t1,t2,t3,t4,t5,t6,t7,t8,t9,ta,tb,tc,td,te,tf,tg,th,ti,tj,tk,tl],h⟩ =
  bm (vBin s.P .lss 3 tb ta) h fun v7 h8 =>
  cnd v7 (
  bm (vIndexAddr s.P 27 t9 tb h8) h8 fun v9 h10 =>
  bm (vLoad s.P 3 v9 h10) h10 fun v11 h12 =>
  bm (vLoad s.P 23 t3 h12) h12 fun v13 h14 =>
  bp (callV (xX s 64 wl k rd) false true (.fn (.func 81) [] []) [v13,v11] h14) fun v15 h16 =>
  bp (callV (xX s 64 wl k rd) false true (.fn (.func 18) [] []) [t1,v15,(V.lit (Value.int .u64 1))] h16) fun v17 h18 =>
  bm (vBin s.P .add 3 tb (V.lit (Value.int .i64 1))) h18 fun v19 h20 =>
  itX (xX s 64 wl k rd) xl64_0 n0 K n ⟨[(V.kill n0 t0),(V.kill n0 v17),(V.kill n0 t2),(V.kill n0 t3),(V.kill n0 t4),(V.kill n0 t5),(V.kill n0 t6),(V.kill n0 t7),(V.kill n0 v11),(V.kill n0 t9),(V.kill n0 ta),(V.kill n0 v19),.junk,.junk,.junk,.junk,.junk,.junk,.junk,.junk,.junk,(V.kill n0 tl)],cutH n0 h20⟩) (
  K (.exit 0) ⟨[(V.kill n0 t0),(V.kill n0 t1),(V.kill n0 t2),(V.kill n0 t3),(V.kill n0 t4),(V.kill n0 t5),(V.kill n0 t6),(V.kill n0 t7),(V.kill n0 t8),(V.kill n0 t9),(V.kill n0 ta),.junk,.junk,.junk,.junk,.junk,.junk,.junk,.junk,.junk,.junk,(V.kill n0 tl)],cutH n0 h8⟩) :=
  itX_step (go_seq (go_reg0
  (go_op0 rfl rfl (st_bm (by kernel_rfl) fun v7 h8 =>
  (go_end0 (by kernel_rfl)
  (go_seq (go_cond (by kernel_rfl)
  (go_skip (go_seq (go_block (go_seq (go_reg0
  (go_op0 rfl rfl (st_bm (by kernel_rfl) fun v9 h10 =>
  (go_op0 rfl rfl (st_bm (by kernel_rfl) fun v11 h12 =>
  (go_op0 rfl rfl (st_id (v := v11) (H := h12) (by kernel_rfl)
  (go_end0 (by kernel_rfl)
  (go_reg0
  (go_op0 rfl rfl (st_id (v := t1) (H := h12) (by kernel_rfl)
  (go_op0 rfl rfl (st_bm (by kernel_rfl) fun v13 h14 =>
  (go_op0 rfl rfl (st_id (v := v11) (H := h14) (by kernel_rfl)
  (go_op0 rfl rfl (st_bp (by kernel_rfl) fun v15 h16 =>
  (go_op0 rfl rfl (st_bp (by kernel_rfl) fun v17 h18 =>
  (go_op0 rfl rfl (st_id (v := v17) (H := h18) (by kernel_rfl)
  (go_end0 (by kernel_rfl)
  (rt_block_norm (go_reg0
  (go_op0 rfl rfl (st_bm (by kernel_rfl) fun v19 h20 =>
  (go_op0 rfl rfl (st_id (v := v19) (H := h20) (by kernel_rfl)
  (go_end0 (by kernel_rfl)
  (by kernel_rfl))))))))))))))))))))))))))))))))))
  (go_exit (rt_seq_exit (by kernel_rfl))))))))))
theorem xj64_0 (s : Sys) (k wl : Nat) (h : Hp) : runK (xX s 64 wl k false) (bodyK s.P Try.f64) xk64_0 (.exit 0) ⟨[t0,t1,t2,t3,t4,t5,t6,t7,t8,t9,ta,tb,tc,td,te,tf,tg,th,ti,tj,tk,tl],h⟩ =
  some (t1,h) :=
  (rt_block_eq (go_seq (go_reg0
  (go_op0 rfl rfl (st_id (v := t1) (H := h) (by kernel_rfl)
  (go_op0 rfl rfl (st_id (v := t1) (H := h) (by kernel_rfl)
  (go_end0 (by kernel_rfl)
  (go_ret (by kernel_rfl))))))))))
theorem xk64_0_ret (cx : Cx) (K : Out → St → Option (V × Hp)) (s : St) : runK cx K xk64_0 .ret s = K .ret s := by kernel_rfl
-- names: xb64,xz64,xr64_0,xj64_0,xk64_0_ret
noncomputable def xq65_0 : Code := codeAt (bodyOf Try.f65) [1,0,1,0]
noncomputable def xl65_0 : Code := codeAt (bodyOf Try.f65) [1,0,1,0,0]
noncomputable def xl65_1 : Code := codeAt (bodyOf Try.f65) [1,0,1,0,1]
noncomputable def xk65_0 : List Fr := [.block 0,.seq (codeAt (bodyOf Try.f65) [1,1])]
theorem xq65_0_eq : xq65_0 = .rangeFunc (.tmp 5) #[6] xl65_0 xl65_1 := by kernel_rfl
theorem xb65 (s : Sys) (k wl : Nat) (h : Hp) : bodyV (xX s 65 wl k false) Try.f65 [t0] h =
  bp (opAlloc s.P 3 h) fun v1 h2 =>
  bp (callV (xX s 65 wl k false) false true (.fn (.func 87) [] []) [t0] h2) fun v3 h4 =>
  execK (xX s 65 wl k false) xq65_0 none (runK (xX s 65 wl k false) (bodyK s.P Try.f65) xk65_0) ⟨[t0,uu,v1,uu,t0,v3,uu,uu],h4⟩ :=
  bodyV_run rfl (go_seq (go_reg0
  (go_op0 rfl rfl (st_bp (by kernel_rfl) fun v1 h2 =>
  (go_end0 (by kernel_rfl)
  (go_seq (go_seq (go_reg0
  (go_op0 rfl rfl (st_id (v := t0) (H := h2) (by kernel_rfl)
  (go_op0 rfl rfl (st_bp (by kernel_rfl) fun v3 h4 =>
  (go_end0 (by kernel_rfl)
  (go_block (by kernel_rfl)))))))))))))))
theorem xe65 (k wl : Nat) (h : Hp) : evF Try.prog xM (k + 1) wl 65 [t0] h = bodyV (xX (xS k) 65 wl k false) Try.f65 [t0] h := by kernel_rfl
theorem xz65 (P : Program) (h : Hp) : bodyK P Try.f65 .ret ⟨[t0,t1,t2,t3,t4,t5,t6,t7],h⟩ = resO [vLoad P 3 t2 h] h := by kernel_rfl
theorem xj65_0 (s : Sys) (k wl : Nat) (h : Hp) : runK (xX s 65 wl k false) (bodyK s.P Try.f65) xk65_0 .norm ⟨[t0,t1,t2,t3,t4,t5,t6,t7],h⟩ =
  bs (vStore s.P wl 3 t2 (V.lit (Value.int .i64 (-1))) h) fun h5 =>
  resO [vLoad s.P 3 t2 h5] h5 :=
  (rt_block_norm (go_seq (go_reg0
  (go_op0 rfl rfl (st_bs (by kernel_rfl) fun h5 =>
  (go_end0 (by kernel_rfl)
  (go_ret (by kernel_rfl))))))))
theorem xq65_1_0_1_0_1 (s : Sys) (K : Out → St → Option (V × Hp)) (k wl : Nat) (rd : Bool) (h : Hp) : runK (xX s 65 wl k rd) K [.seq xl65_1] .norm ⟨[t0,t1,t2,t3,t4,t5,t6,t7],h⟩ =
  bs (vStore s.P wl 3 t2 t3 h) fun h6 =>
  K .ret ⟨[t0,t1,t2,t3,t4,t5,t6,t3],h6⟩ :=
  (go_block (go_seq (go_reg0
  (go_op0 rfl rfl (st_id (v := t3) (H := h) (by kernel_rfl)
  (go_op0 rfl rfl (st_bs (by kernel_rfl) fun h6 =>
  (go_end0 (by kernel_rfl)
  (go_ret (rt_block_ret (by kernel_rfl)))))))))))
theorem xq65_1_0_1_0_0 (s : Sys) (K : Out → St → Option (V × Hp)) (k wl : Nat) (rd : Bool) (h : Hp) : runK (xX s 65 wl k rd) K [.seq xl65_0] .norm ⟨[t0,t1,t2,t3,t4,t5,t6,t7],h⟩ =
  K .norm ⟨[t0,t1,t2,t6,t4,t5,t6,t7],h⟩ :=
  (go_reg0
  (go_op0 rfl rfl (st_id (v := t6) (H := h) (by kernel_rfl)
  (go_end0 (by kernel_rfl)
  (by kernel_rfl)))))
theorem xk65_0_ret (cx : Cx) (K : Out → St → Option (V × Hp)) (s : St) : runK cx K xk65_0 .ret s = K .ret s := by kernel_rfl
-- names: xb65,xz65,xj65_0,xq65_1_0_1_0_1,xq65_1_0_1_0_0,xk65_0_ret
-- range over a function at [1,0,1,0]

theorem xb82 (s : Sys) (k wl : Nat) (h : Hp) : bodyV (xX s 82 wl k false) Try.f82 [t0] h =
  bp (callV (xX s 82 wl k false) false true (.fn (.func 83) [] []) [t0] h) fun v1 h2 =>
  bm (vExtract v1 0) h2 fun v3 h4 =>
  bm (vExtract v1 1) h4 fun v5 h6 =>
  bm (vMinMax true [v5,(V.lit (Value.int .i64 0))]) h6 fun v7 h8 =>
  bm (vConv s.P 3 28 v7) h8 fun v9 h10 =>
  some (.tup [v3,v9],h10) :=
  bodyV_run rfl (go_seq (go_reg0
  (go_op0 rfl rfl (st_id (v := (V.lit (Value.int .u64 0))) (H := h) (by kernel_rfl)
  (go_op0 rfl rfl (st_id (v := (V.lit (Value.int .u64 0))) (H := h) (by kernel_rfl)
  (go_end0 (by kernel_rfl)
  (go_seq (go_reg0
  (go_op0 rfl rfl (st_id (v := t0) (H := h) (by kernel_rfl)
  (go_op0 rfl rfl (st_bp (by kernel_rfl) fun v1 h2 =>
  (go_op0 rfl rfl (st_id (v := v1) (H := h2) (by kernel_rfl)
  (go_op0 rfl rfl (st_bm (by kernel_rfl) fun v3 h4 =>
  (go_op0 rfl rfl (st_bm (by kernel_rfl) fun v5 h6 =>
  (go_op0 rfl rfl (st_id (v := v3) (H := h6) (by kernel_rfl)
  (go_op0 rfl rfl (st_id (v := v5) (H := h6) (by kernel_rfl)
  (go_end0 (by kernel_rfl)
  (go_seq (go_reg0
  (go_op0 rfl rfl (st_id (v := v3) (H := h6) (by kernel_rfl)
  (go_op0 rfl rfl (st_id (v := v5) (H := h6) (by kernel_rfl)
  (go_op0 rfl rfl (st_bm (by kernel_rfl) fun v7 h8 =>
  (go_op0 rfl rfl (st_bm (by kernel_rfl) fun v9 h10 =>
  (go_op0 rfl rfl (st_id (v := v3) (H := h10) (by kernel_rfl)
  (go_op0 rfl rfl (st_id (v := v9) (H := h10) (by kernel_rfl)
  (go_end0 (by kernel_rfl)
  (go_ret (by kernel_rfl)))))))))))))))))))))))))))))))))))))))))
theorem xe82 (k wl : Nat) (h : Hp) : evF Try.prog xM (k + 1) wl 82 [t0] h = bodyV (xX (xS k) 82 wl k false) Try.f82 [t0] h := by kernel_rfl
-- names: xb82,

theorem xb83 (s : Sys) (k wl : Nat) (h : Hp) : bodyV (xX s 83 wl k false) Try.f83 [t0] h =
  bp (callV (xX s 83 wl k false) false true (.fn (.func 62) [] []) [t0] h) fun v1 h2 =>
  bp (callV (xX s 83 wl k false) false true (.fn (.func 79) [] []) [t0] h2) fun v3 h4 =>
  bm (vBin s.P .add 28 v3 (V.lit (Value.int .u64 1))) h4 fun v5 h6 =>
  bm (vBin s.P .sub 28 v1 (V.lit (Value.int .u64 1))) h6 fun v7 h8 =>
  bm (vBin s.P .and 28 v1 v7) h8 fun v9 h10 =>
  bp (callV (xX s 83 wl k false) false true (.fn (.func 94) [] []) [v5,v9] h10) fun v11 h12 =>
  bp (callV (xX s 83 wl k false) false true (.fn (.func 65) [] []) [v1] h12) fun v13 h14 =>
  some (.tup [v11,v13],h14) :=
  bodyV_run rfl (go_seq (go_reg0
  (go_op0 rfl rfl (st_id (v := (V.lit (Value.int .u64 0))) (H := h) (by kernel_rfl)
  (go_op0 rfl rfl (st_id (v := (V.lit (Value.int .i64 0))) (H := h) (by kernel_rfl)
  (go_end0 (by kernel_rfl)
  (go_seq (go_reg0
  (go_op0 rfl rfl (st_id (v := t0) (H := h) (by kernel_rfl)
  (go_op0 rfl rfl (st_bp (by kernel_rfl) fun v1 h2 =>
  (go_op0 rfl rfl (st_id (v := v1) (H := h2) (by kernel_rfl)
  (go_end0 (by kernel_rfl)
  (go_seq (go_reg0
  (go_op0 rfl rfl (st_id (v := t0) (H := h2) (by kernel_rfl)
  (go_op0 rfl rfl (st_bp (by kernel_rfl) fun v3 h4 =>
  (go_op0 rfl rfl (st_bm (by kernel_rfl) fun v5 h6 =>
  (go_op0 rfl rfl (st_id (v := v1) (H := h6) (by kernel_rfl)
  (go_op0 rfl rfl (st_id (v := v1) (H := h6) (by kernel_rfl)
  (go_op0 rfl rfl (st_bm (by kernel_rfl) fun v7 h8 =>
  (go_op0 rfl rfl (st_bm (by kernel_rfl) fun v9 h10 =>
  (go_op0 rfl rfl (st_bp (by kernel_rfl) fun v11 h12 =>
  (go_op0 rfl rfl (st_id (v := v1) (H := h12) (by kernel_rfl)
  (go_op0 rfl rfl (st_bp (by kernel_rfl) fun v13 h14 =>
  (go_op0 rfl rfl (st_id (v := v11) (H := h14) (by kernel_rfl)
  (go_op0 rfl rfl (st_id (v := v13) (H := h14) (by kernel_rfl)
  (go_end0 (by kernel_rfl)
  (go_ret (by kernel_rfl)))))))))))))))))))))))))))))))))))))))))))))
theorem xe83 (k wl : Nat) (h : Hp) : evF Try.prog xM (k + 1) wl 83 [t0] h = bodyV (xX (xS k) 83 wl k false) Try.f83 [t0] h := by kernel_rfl
-- names: xb83,

theorem xb84 (s : Sys) (k wl : Nat) (h : Hp) : bodyV (xX s 84 wl k false) Try.f84 [t0] h =
  bp (callV (xX s 84 wl k false) false true (.fn (.func 85) [] []) [t0] h) fun v1 h2 =>
  bp (callV (xX s 84 wl k false) false true (.fn (.func 62) [] []) [t0] h2) fun v3 h4 =>
  some (.tup [v1,v3],h4) :=
  bodyV_run rfl (go_seq (go_reg0
  (go_op0 rfl rfl (st_id (v := (V.lit (Value.int .u64 0))) (H := h) (by kernel_rfl)
  (go_op0 rfl rfl (st_id (v := (V.lit (Value.int .u64 0))) (H := h) (by kernel_rfl)
  (go_end0 (by kernel_rfl)
  (go_seq (go_reg0
  (go_op0 rfl rfl (st_id (v := t0) (H := h) (by kernel_rfl)
  (go_op0 rfl rfl (st_bp (by kernel_rfl) fun v1 h2 =>
  (go_op0 rfl rfl (st_id (v := t0) (H := h2) (by kernel_rfl)
  (go_op0 rfl rfl (st_bp (by kernel_rfl) fun v3 h4 =>
  (go_op0 rfl rfl (st_id (v := v1) (H := h4) (by kernel_rfl)
  (go_op0 rfl rfl (st_id (v := v3) (H := h4) (by kernel_rfl)
  (go_end0 (by kernel_rfl)
  (go_ret (by kernel_rfl))))))))))))))))))))))))
theorem xe84 (k wl : Nat) (h : Hp) : evF Try.prog xM (k + 1) wl 84 [t0] h = bodyV (xX (xS k) 84 wl k false) Try.f84 [t0] h := by kernel_rfl
-- names: xb84,

theorem xb85 (s : Sys) (k wl : Nat) (h : Hp) : bodyV (xX s 85 wl k false) Try.f85 [t0] h =
  bp (callV (xX s 85 wl k false) false true (.fn (.func 79) [] []) [t0] h) fun v1 h2 =>
  bm (vBin s.P .add 28 v1 (V.lit (Value.int .u64 1))) h2 fun v3 h4 =>
  bp (callV (xX s 85 wl k false) false true (.fn (.func 94) [] []) [v3,(V.lit (Value.int .u64 0))] h4) fun v5 h6 =>
  some (v5,h6) :=
  bodyV_run rfl (go_seq (go_reg0
  (go_op0 rfl rfl (st_id (v := (V.lit (Value.int .u64 0))) (H := h) (by kernel_rfl)
  (go_end0 (by kernel_rfl)
  (go_seq (go_reg0
  (go_op0 rfl rfl (st_id (v := t0) (H := h) (by kernel_rfl)
  (go_op0 rfl rfl (st_bp (by kernel_rfl) fun v1 h2 =>
  (go_op0 rfl rfl (st_bm (by kernel_rfl) fun v3 h4 =>
  (go_op0 rfl rfl (st_bp (by kernel_rfl) fun v5 h6 =>
  (go_op0 rfl rfl (st_id (v := v5) (H := h6) (by kernel_rfl)
  (go_end0 (by kernel_rfl)
  (go_ret (by kernel_rfl))))))))))))))))))))
theorem xe85 (k wl : Nat) (h : Hp) : evF Try.prog xM (k + 1) wl 85 [t0] h = bodyV (xX (xS k) 85 wl k false) Try.f85 [t0] h := by kernel_rfl
-- names: xb85,

theorem xb87 (s : Sys) (k wl : Nat) (h : Hp) : bodyV (xX s 87 wl k false) Try.f87 [t0] h =
  bp (opBox t0 h) fun v1 h2 =>
  some ((.fn (.func 95) [] [v1]),h2) :=
  bodyV_run rfl (go_seq (go_reg0
  (go_op0 rfl rfl (st_bp (by kernel_rfl) fun v1 h2 =>
  (go_op0 rfl rfl (st_id (v := (constV Value.nilFunc)) (H := h2) (by kernel_rfl)
  (go_end0 (by kernel_rfl)
  (go_seq (go_reg0
  (go_op0 rfl rfl (st_id (v := (.fn (.func 95) [] [v1])) (H := h2) (by kernel_rfl)
  (go_op0 rfl rfl (st_id (v := (.fn (.func 95) [] [v1])) (H := h2) (by kernel_rfl)
  (go_end0 (by kernel_rfl)
  (go_ret (by kernel_rfl))))))))))))))))
theorem xe87 (k wl : Nat) (h : Hp) : evF Try.prog xM (k + 1) wl 87 [t0] h = bodyV (xX (xS k) 87 wl k false) Try.f87 [t0] h := by kernel_rfl
-- names: xb87,

theorem xb94 (s : Sys) (k wl : Nat) (h : Hp) : bodyV (xX s 94 wl k false) Try.f94 [t0,t1] h =
  bm (vBin s.P .shl 28 t0 (V.lit (Value.int .u64 16))) h fun v1 h2 =>
  bm (vBin s.P .and 28 t1 (V.lit (Value.int .u64 65535))) h2 fun v3 h4 =>
  bm (vBin s.P .or 28 v1 v3) h4 fun v5 h6 =>
  some (v5,h6) :=
  bodyV_run rfl (go_seq (go_reg0
  (go_op0 rfl rfl (st_id (v := (V.lit (Value.int .u64 0))) (H := h) (by kernel_rfl)
  (go_end0 (by kernel_rfl)
  (go_seq (go_reg0
  (go_op0 rfl rfl (st_id (v := t0) (H := h) (by kernel_rfl)
  (go_op0 rfl rfl (st_bm (by kernel_rfl) fun v1 h2 =>
  (go_op0 rfl rfl (st_id (v := t1) (H := h2) (by kernel_rfl)
  (go_op0 rfl rfl (st_bm (by kernel_rfl) fun v3 h4 =>
  (go_op0 rfl rfl (st_bm (by kernel_rfl) fun v5 h6 =>
  (go_op0 rfl rfl (st_id (v := v5) (H := h6) (by kernel_rfl)
  (go_end0 (by kernel_rfl)
  (go_ret (by kernel_rfl))))))))))))))))))))))
theorem xe94 (k wl : Nat) (h : Hp) : evF Try.prog xM (k + 1) wl 94 [t0,t1] h = bodyV (xX (xS k) 94 wl k false) Try.f94 [t0,t1] h := by kernel_rfl
-- names: xb94,
noncomputable def xl95_0 : Code := codeAt (bodyOf Try.f95) [1,0,0]
noncomputable def xk95_0 : List Fr := [.block 0]
noncomputable def xg95_0 : Code := codeAt (bodyOf Try.f95) [1,0,0,1,1,0,0,1,0]
noncomputable def xk95_1 : List Fr := [.seq (codeAt (bodyOf Try.f95) [1,0,0,1,1,0,0,1,1]),.block 1,.seq (codeAt (bodyOf Try.f95) [1,0,0,1,1,1])]
theorem xb95 (s : Sys) (k wl : Nat) (h : Hp) : bodyV (xX s 95 wl k false) Try.f95 [t0,t1] h =
  itX (xX s 95 wl k false) xl95_0 h.length (runK (xX s 95 wl k false) (bodyK s.P Try.f95) xk95_0) k ⟨[(V.kill h.length t0),(V.kill h.length t1),(V.kill h.length uu),(V.kill h.length uu),(V.lit (Value.int .i64 0)),.junk,.junk,.junk,.junk,.junk,.junk,.junk,.junk,.junk,.junk,.junk,.junk,.junk,.junk],cutH h.length h⟩ :=
  bodyV_run rfl (go_seq (go_reg0
  (go_op0 rfl rfl (st_id (v := (V.lit (Value.int .i64 0))) (H := h) (by kernel_rfl)
  (go_end0 (by kernel_rfl)
  (go_block (by kernel_rfl)))))))
theorem xe95 (k wl : Nat) (h : Hp) : evF Try.prog xM (k + 1) wl 95 [t0,t1] h = bodyV (xX (xS k) 95 wl k false) Try.f95 [t0,t1] h := by kernel_rfl
theorem xz95 (P : Program) (h : Hp) : bodyK P Try.f95 .ret ⟨[t0,t1,t2,t3,t4,t5,t6,t7,t8,t9,ta,tb,tc,td,te,tf,tg,th,ti],h⟩ = some (.tup [],h) := by kernel_rfl
theorem xr95_0 (s : Sys) (K : Out → St → Option (V × Hp)) (k wl : Nat) (rd : Bool) (n n0 : Nat) (h : Hp) : itX (xX s 95 wl k rd) xl95_0 n0 K (n + 1) ⟨[t0,t1,t2,t3,t4,t5,t6,t7,t8,t9,ta,tb,tc,td,te,tf,tg,th,ti],h⟩ =
  bm (vBin s.P .lss 3 t4 (V.lit (Value.int .i64 16))) h fun v1 h2 =>
  cnd v1 (
  bm (vLoad s.P 28 t1 h2) h2 fun v3 h4 =>
  bm (vBin s.P .shr 28 v3 t4) h4 fun v5 h6 =>
  bm (vBin s.P .and 28 v5 (V.lit (Value.int .u64 1))) h6 fun v7 h8 =>
  bm (vBin s.P .eql 28 v7 (V.lit (Value.int .u64 1))) h8 fun v9 h10 =>
  gd v9 (
  bp (callV (xX s 95 wl k rd) false true t0 [t4] h10) fun v11 h12 =>
  bm (vUn .not v11) h12 fun v13 h14 =>
  opsP (xX s 95 wl k rd) xg95_0 10 h2.length ([],[]) (runK (xX s 95 wl k rd) (nextK (xX s 95 wl k rd) xl95_0 n0 K n) xk95_1) ⟨[t0,t1,t2,t4,t4,v1,t4,v3,t4,v5,v7,v9,(V.lit (Value.bool true)),t0,t4,v11,v13,th,ti],h14⟩) (
  opsP (xX s 95 wl k rd) xg95_0 10 h2.length ([],[]) (runK (xX s 95 wl k rd) (nextK (xX s 95 wl k rd) xl95_0 n0 K n) xk95_1) ⟨[t0,t1,t2,t4,t4,v1,t4,v3,t4,v5,v7,v9,(V.lit (Value.bool false)),uu,uu,uu,uu,th,ti],h10⟩) (
  opsP (xX s 95 wl k rd) xg95_0 7 h2.length ([],[]) (runK (xX s 95 wl k rd) (nextK (xX s 95 wl k rd) xl95_0 n0 K n) xk95_1) ⟨[t0,t1,t2,t4,t4,v1,t4,v3,t4,v5,v7,v9,v9,uu,te,tf,tg,th,ti],h10⟩)) (
  K (.exit 0) ⟨[(V.kill n0 t0),(V.kill n0 t1),(V.kill n0 t2),(V.kill n0 t3),.junk,.junk,.junk,.junk,.junk,.junk,.junk,.junk,.junk,.junk,.junk,.junk,.junk,.junk,.junk],cutH n0 h2⟩) :=
  itX_step (go_seq (go_reg0
  (go_op0 rfl rfl (st_bm (by kernel_rfl) fun v1 h2 =>
  (go_end0 (by kernel_rfl)
  (go_seq (go_cond (by kernel_rfl)
  (go_skip (go_seq (go_block (go_seq (go_reg0
  (go_op0 rfl rfl (st_id (v := t4) (H := h2) (by kernel_rfl)
  (go_op0 rfl rfl (st_id (v := t4) (H := h2) (by kernel_rfl)
  (go_end0 (by kernel_rfl)
  (go_seq (go_reg0
  (go_op0 rfl rfl (st_bm (by kernel_rfl) fun v3 h4 =>
  (go_op0 rfl rfl (st_id (v := t4) (H := h4) (by kernel_rfl)
  (go_op0 rfl rfl (st_bm (by kernel_rfl) fun v5 h6 =>
  (go_op0 rfl rfl (st_bm (by kernel_rfl) fun v7 h8 =>
  (go_op0 rfl rfl (st_bm (by kernel_rfl) fun v9 h10 =>
  (go_op0 rfl rfl (st_id (v := v9) (H := h10) (by kernel_rfl)
  (go_gdT0 rfl rfl rfl (by kernel_rfl)
  (st_id (v := t0) (H := h10) (by kernel_rfl)
  (go_run0 rfl rfl rfl (by kernel_rfl) (st_id (v := t4) (H := h10) (by kernel_rfl)
  (go_run0 rfl rfl rfl (by kernel_rfl) (st_bp (by kernel_rfl) fun v11 h12 =>
  (go_run0 rfl rfl rfl (by kernel_rfl) (st_bm (by kernel_rfl) fun v13 h14 =>
  (by kernel_rfl))))))))
  (go_skip0 rfl rfl rfl (by kernel_rfl)
  (go_skip0 rfl rfl rfl (by kernel_rfl)
  (go_skip0 rfl rfl rfl (by kernel_rfl)
  (by kernel_rfl))))
  (by kernel_rfl))))))))))))))))))))))))))
  (go_exit (rt_seq_exit (by kernel_rfl))))))))))
theorem xj95_0 (s : Sys) (k wl : Nat) (h : Hp) : runK (xX s 95 wl k false) (bodyK s.P Try.f95) xk95_0 (.exit 0) ⟨[t0,t1,t2,t3,t4,t5,t6,t7,t8,t9,ta,tb,tc,td,te,tf,tg,th,ti],h⟩ =
  some (.tup [],h) :=
  (rt_block_eq (by kernel_rfl))
theorem xm95_1 (s : Sys) (K : Out → St → Option (V × Hp)) (k wl : Nat) (rd : Bool) (n n0 : Nat) (m0 : Nat) (ac : List Nat × List Nat) (h : Hp) : opsP (xX s 95 wl k rd) xg95_0 10 m0 ac (runK (xX s 95 wl k rd) (nextK (xX s 95 wl k rd) xl95_0 n0 K n) xk95_1) ⟨[t0,t1,t2,t3,t4,t5,t6,t7,t8,t9,ta,tb,tc,td,te,tf,tg,th,ti],h⟩ =
  bm (vPick tc tg (V.lit (Value.bool false))) h fun v15 h16 =>
  cnd v15 (
  K .ret ⟨[t0,t1,t2,t3,t4,t5,t6,t7,t8,t9,ta,tb,tc,td,te,tf,tg,v15,ti],h16⟩) (
  bm (vBin s.P .add 3 t4 (V.lit (Value.int .i64 1))) h16 fun v17 h18 =>
  itX (xX s 95 wl k rd) xl95_0 n0 K n ⟨[(V.kill n0 t0),(V.kill n0 t1),(V.kill n0 t2),(V.kill n0 t3),(V.kill n0 v17),.junk,.junk,.junk,.junk,.junk,.junk,.junk,.junk,.junk,.junk,.junk,.junk,.junk,.junk],cutH n0 h18⟩) :=
  (go_op0 rfl rfl (st_bm (by kernel_rfl) fun v15 h16 =>
  (go_end0 (by kernel_rfl)
  (go_cond (by kernel_rfl)
  (go_ret (rt_block_ret (rt_seq_ret (by kernel_rfl))))
  (go_skip (rt_block_norm (go_reg0
  (go_op0 rfl rfl (st_bm (by kernel_rfl) fun v17 h18 =>
  (go_op0 rfl rfl (st_id (v := v17) (H := h18) (by kernel_rfl)
  (go_end0 (by kernel_rfl)
  (by kernel_rfl)))))))))))))
theorem xk95_0_ret (cx : Cx) (K : Out → St → Option (V × Hp)) (s : St) : runK cx K xk95_0 .ret s = K .ret s := by kernel_rfl
theorem xk95_1_ret (cx : Cx) (K : Out → St → Option (V × Hp)) (s : St) : runK cx K xk95_1 .ret s = K .ret s := by kernel_rfl
-- names: xb95,xz95,xr95_0,xj95_0,xm95_1,xk95_0_ret,xk95_1_ret
noncomputable def xk26_0 : List Fr := [.seq (codeAt (bodyOf Try.f26) [1,0,1,0,1,1,1]),.block 0,.seq (codeAt (bodyOf Try.f26) [1,1])]
noncomputable def xg26_0 : Code := codeAt (bodyOf Try.f26) [1,1,0]
theorem xo26_7 : orderIx (opsOf xg26_0) = [0,1,2,3,4] := by kernel_rfl
theorem xo26_7a : (rgOf (opsOf xg26_0)).any = false := by kernel_rfl
theorem xo26_7r : regOk (opsOf xg26_0) = true := by kernel_rfl
theorem xb26 (s : Sys) (k wl : Nat) (h : Hp) : bodyV (xX s 26 wl k false) Try.f26 [t0,t1,t2] h =
  bp (opBox t0 h) fun v1 h2 =>
  bp (opBox t2 h2) fun v3 h4 =>
  bp (some (.own h4.length 0 0,h4 ++ [.rows 0 [] 0 true])) fun v5 h6 =>
  bp (opAlloc s.P 30 h6) fun v7 h8 =>
  bm (vFieldAddr s.P 30 v3 0) h8 fun v9 h10 =>
  bm (vLoad s.P 3 v9 h10) h10 fun v11 h12 =>
  bm (vBin s.P .eql 3 v11 (V.lit (Value.int .i64 5))) h12 fun v13 h14 =>
  cnd v13 (
  bm (vLoad s.P 23 v1 h14) h14 fun v15 h16 =>
  bm (vLoad s.P 30 v3 h16) h16 fun v17 h18 =>
  bp (callV (xX s 26 wl k false) false true (.fn (.func 44) [] []) [v15,t1,v17] h18) fun v19 h20 =>
  bm (vExtract v19 0) h20 fun v21 h22 =>
  bm (vExtract v19 1) h22 fun v23 h24 =>
  bs (vStore s.P wl 30 v7 v23 h24) fun h25 =>
  resO [some v21,vLoad s.P 30 v7 h25] h25) (
  bm (vBin s.P .eql 3 v11 (V.lit (Value.int .i64 6))) h14 fun v26 h27 =>
  cnd v26 (
  runK (xX s 26 wl k false) (bodyK s.P Try.f26) xk26_0 .norm ⟨[t0,t1,t2,v1,uu,v3,v5,v7,v9,v11,v13,v13,uu,uu,uu,uu,uu,uu,v26,v26,uu,uu,uu,uu,uu,uu,uu,uu,uu,uu],h27⟩) (
  bm (vBin s.P .eql 3 v11 (V.lit (Value.int .i64 7))) h27 fun v28 h29 =>
  runK (xX s 26 wl k false) (bodyK s.P Try.f26) xk26_0 .norm ⟨[t0,t1,t2,v1,uu,v3,v5,v7,v9,v11,v13,v13,uu,uu,uu,uu,uu,uu,v28,v26,v28,uu,uu,uu,uu,uu,uu,uu,uu,uu],h29⟩)) :=
  bodyV_run rfl (go_seq (go_reg0
  (go_op0 rfl rfl (st_bp (by kernel_rfl) fun v1 h2 =>
  (go_op0 rfl rfl (st_bp (by kernel_rfl) fun v3 h4 =>
  (go_op0 rfl rfl (st_bp (by kernel_rfl) fun v5 h6 =>
  (go_op0 rfl rfl (st_bp (by kernel_rfl) fun v7 h8 =>
  (go_end0 (by kernel_rfl)
  (go_seq (go_seq (go_reg0
  (go_op0 rfl rfl (st_bm (by kernel_rfl) fun v9 h10 =>
  (go_op0 rfl rfl (st_bm (by kernel_rfl) fun v11 h12 =>
  (go_end0 (by kernel_rfl)
  (go_block (go_seq (go_reg0
  (go_op0 rfl rfl (st_bm (by kernel_rfl) fun v13 h14 =>
  (go_op0 rfl rfl (st_id (v := v13) (H := h14) (by kernel_rfl)
  (go_end0 (by kernel_rfl)
  (go_cond (by kernel_rfl)
  (go_seq (go_reg0
  (go_op0 rfl rfl (st_bm (by kernel_rfl) fun v15 h16 =>
  (go_op0 rfl rfl (st_id (v := t1) (H := h16) (by kernel_rfl)
  (go_op0 rfl rfl (st_bm (by kernel_rfl) fun v17 h18 =>
  (go_op0 rfl rfl (st_bp (by kernel_rfl) fun v19 h20 =>
  (go_op0 rfl rfl (st_bm (by kernel_rfl) fun v21 h22 =>
  (go_op0 rfl rfl (st_bm (by kernel_rfl) fun v23 h24 =>
  (go_op0 rfl rfl (st_id (v := v21) (H := h24) (by kernel_rfl)
  (go_op0 rfl rfl (st_bs (by kernel_rfl) fun h25 =>
  (go_end0 (by kernel_rfl)
  (go_ret (rt_block_ret (rt_seq_ret (by kernel_rfl)))))))))))))))))))))))
  (go_seq (go_seq (go_reg0
  (go_op0 rfl rfl (st_bm (by kernel_rfl) fun v26 h27 =>
  (go_op0 rfl rfl (st_id (v := v26) (H := h27) (by kernel_rfl)
  (go_end0 (by kernel_rfl)
  (go_cond (by kernel_rfl)
  (go_skip (by kernel_rfl))
  (go_reg0
  (go_op0 rfl rfl (st_bm (by kernel_rfl) fun v28 h29 =>
  (go_op0 rfl rfl (st_id (v := v28) (H := h29) (by kernel_rfl)
  (go_end0 (by kernel_rfl)
  (by kernel_rfl))))))))))))))))))))))))))))))))))))))))))))
theorem xe26 (k wl : Nat) (h : Hp) : evF Try.prog xM (k + 1) wl 26 [t0,t1,t2] h = bodyV (xX (xS k) 26 wl k false) Try.f26 [t0,t1,t2] h := by kernel_rfl
theorem xj26_0 (s : Sys) (k wl : Nat) (h : Hp) : runK (xX s 26 wl k false) (bodyK s.P Try.f26) xk26_0 .norm ⟨[t0,t1,t2,t3,t4,t5,t6,t7,t8,t9,ta,tb,tc,td,te,tf,tg,th,ti,tj,tk,tl,tm,tn,tp,tq,tr,ts,tt,tu],h⟩ =
  cnd ti (
  bm (vLoad s.P 23 t3 h) h fun v30 h31 =>
  bm (vLoad s.P 30 t5 h31) h31 fun v32 h33 =>
  bp (callV (xX s 26 wl k false) false true (.fn (.func 45) [] []) [v30,t1,v32] h33) fun v34 h35 =>
  bm (vExtract v34 0) h35 fun v36 h37 =>
  bm (vExtract v34 1) h37 fun v38 h39 =>
  bs (vStore s.P wl 30 t7 v38 h39) fun h40 =>
  resO [some v36,vLoad s.P 30 t7 h40] h40) (
  bp (callV (xX s 26 wl k false) true true (.fn (.func 21) [] []) [t1] h) fun v41 h42 =>
  stO h.length t5 (
  bm (vLoad s.P 30 t5 h42) h42 fun v43 h44 =>
  bs (vStore s.P wl 30 t7 v43 h44) fun h45 =>
  resO [some v41,vLoad s.P 30 t7 h45] h45)) :=
  (go_cond (by kernel_rfl)
  (go_seq (go_reg0
  (go_op0 rfl rfl (st_bm (by kernel_rfl) fun v30 h31 =>
  (go_op0 rfl rfl (st_id (v := t1) (H := h31) (by kernel_rfl)
  (go_op0 rfl rfl (st_bm (by kernel_rfl) fun v32 h33 =>
  (go_op0 rfl rfl (st_bp (by kernel_rfl) fun v34 h35 =>
  (go_op0 rfl rfl (st_bm (by kernel_rfl) fun v36 h37 =>
  (go_op0 rfl rfl (st_bm (by kernel_rfl) fun v38 h39 =>
  (go_op0 rfl rfl (st_id (v := v36) (H := h39) (by kernel_rfl)
  (go_op0 rfl rfl (st_bs (by kernel_rfl) fun h40 =>
  (go_end0 (by kernel_rfl)
  (go_ret (rt_block_ret (rt_seq_ret (by kernel_rfl)))))))))))))))))))))))
  (go_skip (rt_block_norm (go_seq (go_reg1 xo26_7r
  (go_op1 xo26_7 xo26_7a rfl rfl rfl (st_no (by kernel_rfl) (st_id (v := t1) (H := h) (by kernel_rfl)
  (go_op1 xo26_7 xo26_7a rfl rfl rfl (st_no (by kernel_rfl) (st_bp (by kernel_rfl) fun v41 h42 =>
  (go_op1 xo26_7 xo26_7a rfl rfl rfl (st_yes (by kernel_rfl) (st_bm (by kernel_rfl) fun v43 h44 =>
  (go_op1 xo26_7 xo26_7a rfl rfl rfl (st_no (by kernel_rfl) (st_id (v := v41) (H := h44) (by kernel_rfl)
  (go_op1 xo26_7 xo26_7a rfl rfl rfl (st_no (by kernel_rfl) (st_bs (by kernel_rfl) fun h45 =>
  (go_end1 xo26_7 (by kernel_rfl) xo26_7a
  (go_ret (by kernel_rfl)))))))))))))))))))))))
theorem xk26_0_ret (cx : Cx) (K : Out → St → Option (V × Hp)) (s : St) : runK cx K xk26_0 .ret s = K .ret s := by kernel_rfl
-- names: xb26,xj26_0,xk26_0_ret
end Go.Ab
