/- The program's code,point by point: printed by gen.py. -/
import Derived.Test.YthnifkacfonhgaaR2Seat
import Derived.Test.YthnifkacfonhgaaAbLibC
set_option linter.unusedVariables false
set_option linter.unusedSimpArgs false
set_option maxRecDepth 100000
set_option linter.unusedVariables false
namespace Go.Ab
open Go.Proofs
noncomputable def xq46_0 : Code := codeAt (bodyOf Try.f46) [1,1,1,1,1,1,1,0,1,0]
noncomputable def xl46_0 : Code := codeAt (bodyOf Try.f46) [1,1,1,1,1,1,1,0,1,0,0]
noncomputable def xl46_1 : Code := codeAt (bodyOf Try.f46) [1,1,1,1,1,1,1,0,1,0,1]
noncomputable def xk46_0 : List Fr := [.block 0,.seq (codeAt (bodyOf Try.f46) [1,1,1,1,1,1,1,1])]
noncomputable def xg46_0 : Code := codeAt (bodyOf Try.f46) [1,1,1,1,1,1,1,1,0]
noncomputable def xg46_1 : Code := codeAt (bodyOf Try.f46) [1,1,1,1,1,1,1,0,1,0,1,0,0,0]
noncomputable def xg46_2 : Code := codeAt (bodyOf Try.f46) [1,1,1,1,1,1,1,0,1,0,1,0,0,1,0]
noncomputable def xk46_1 : List Fr := [.seq (codeAt (bodyOf Try.f46) [1,1,1,1,1,1,1,0,1,0,1,0,0,1,1]),.seq (codeAt (bodyOf Try.f46) [1,1,1,1,1,1,1,0,1,0,1,0,1]),.block 1]
noncomputable def xg46_3 : Code := codeAt (bodyOf Try.f46) [1,1,1,1,1,1,1,0,1,0,1,0,0,1,1,0]
noncomputable def xk46_2 : List Fr := [.seq (codeAt (bodyOf Try.f46) [1,1,1,1,1,1,1,0,1,0,1,0,1]),.block 1]
noncomputable def xg46_4 : Code := codeAt (bodyOf Try.f46) [1,1,1,1,1,1,1,0,1,0,1,0,1,0]
noncomputable def xg46_5 : Code := codeAt (bodyOf Try.f46) [1,1,1,1,1,1,1,0,1,0,1,0,1,1,0]
noncomputable def xg46_6 : Code := codeAt (bodyOf Try.f46) [1,1,1,1,1,1,1,0,1,0,1,0,1,1,1,1,0]
theorem xq46_0_eq : xq46_0 = .rangeFunc (.tmp 35) #[36] xl46_0 xl46_1 := by kernel_rfl
theorem xo46_17 : orderIx (opsOf xg46_0) = [0,1,2,3,4,5] := by kernel_rfl
theorem xo46_17a : (rgOf (opsOf xg46_0)).any = false := by kernel_rfl
theorem xo46_17r : regOk (opsOf xg46_0) = true := by kernel_rfl
theorem xo46_10 : orderIx (opsOf xg46_1) = [0,1,2,3,4,5,6] := by kernel_rfl
theorem xo46_10a : (rgOf (opsOf xg46_1)).any = false := by kernel_rfl
theorem xo46_10r : regOk (opsOf xg46_1) = true := by kernel_rfl
theorem xo46_12 : orderIx (opsOf xg46_3) = [0,1,2,3,4,5,6,7,8,9,10,11,12,13,14,15,16,17,18,19,20,21,22,23] := by kernel_rfl
theorem xo46_12a : (rgOf (opsOf xg46_3)).any = true := by kernel_rfl
theorem xo46_12r : regOk (opsOf xg46_3) = true := by kernel_rfl
theorem xo46_13 : orderIx (opsOf xg46_4) = [10,0,1,2,3,4,5,6,7,8,9,11,12] := by kernel_rfl
theorem xo46_13a : (rgOf (opsOf xg46_4)).any = false := by kernel_rfl
theorem xo46_13r : regOk (opsOf xg46_4) = true := by kernel_rfl
theorem xo46_14 : orderIx (opsOf xg46_5) = [0,1,2,3,4,5,6] := by kernel_rfl
theorem xo46_14a : (rgOf (opsOf xg46_5)).any = true := by kernel_rfl
theorem xo46_14r : regOk (opsOf xg46_5) = true := by kernel_rfl
theorem xo46_16 : orderIx (opsOf xg46_6) = [0,1,2,3,4,5,6,7,8,9] := by kernel_rfl
theorem xo46_16a : (rgOf (opsOf xg46_6)).any = true := by kernel_rfl
theorem xo46_16r : regOk (opsOf xg46_6) = true := by kernel_rfl
theorem xb46 (s : Sys) (k wl : Nat) (t0 t1 : V) (h : Hp) : bodyV (xX s 46 wl k false) Try.f46 [t0,t1] h =
  bp (some (.own h.length 0 0,h ++ [.rows 0 [] 0 true])) fun v1 h2 =>
  bp (some (.own h2.length 0 0,h2 ++ [.rows 0 [] 0 true])) fun v3 h4 =>
  bp (some (.own h4.length 0 0,h4 ++ [.rows 0 [] 0 true])) fun v5 h6 =>
  bp (opLen s.P 50 t0 h6) fun v7 h8 =>
  bp (callV (xX s 46 wl k false) false true (.fn (.func 82) [] []) [v7] h8) fun v9 h10 =>
  bp (opAlloc s.P 23 h10) fun v11 h12 =>
  bs (vStore s.P wl 23 v11 v9 h12) fun h13 =>
  bm (vLoad s.P 23 v11 h13) h13 fun v14 h15 =>
  bp (callV (xX s 46 wl k false) false true (.fn (.func 68) [] []) [v14] h15) fun v16 h17 =>
  bm (vUn .not v16) h17 fun v18 h19 =>
  cnd v18 (
  bp (some (.own h19.length 0 0,h19 ++ [.rows 0 [] 0 true])) fun v20 h21 =>
  bp (some (.own h21.length 0 0,h21 ++ [.rows 0 [] 0 true])) fun v22 h23 =>
  bp (some (.own h23.length 0 0,h23 ++ [.rows 0 [] 0 true])) fun v24 h25 =>
  some (.tup [v20,v22,v24],h25)) (
  bm (vLoad s.P 23 v11 h19) h19 fun v26 h27 =>
  bp (callV (xX s 46 wl k false) false true (.fn (.func 49) [] []) [v26] h27) fun v28 h29 =>
  bp (callV (xX s 46 wl k false) false true (.fn (.func 83) [] []) [t0] h29) fun v30 h31 =>
  bp (opAlloc s.P 25 h31) fun v32 h33 =>
  bp (opAlloc s.P 50 h33) fun v34 h35 =>
  bs (vStore s.P wl 25 v32 v28 h35) fun h36 =>
  bs (vStore s.P wl 50 v34 v30 h36) fun h37 =>
  bm (vBuild s.P 28 [(0,(V.lit (Value.int .i64 (-1))))]) h37 fun v38 h39 =>
  bp (vBuildSlice s.P wl 53 1 [(0,v38)] h39) fun v40 h41 =>
  bm (vFieldAddr s.P 23 v11 0) h41 fun v42 h43 =>
  bm (vLoad s.P 3 v42 h43) h43 fun v44 h45 =>
  bp (callV (xX s 46 wl k false) false true (.fn (.func 84) [] []) [v40,v44] h45) fun v46 h47 =>
  bp (opAlloc s.P 53 h47) fun v48 h49 =>
  bs (vStore s.P wl 53 v48 v46 h49) fun h50 =>
  bp (opAlloc s.P 53 h50) fun v51 h52 =>
  bp (opAlloc s.P 93 h52) fun v53 h54 =>
  bs (vStore s.P wl 93 v53 (.fn (.func 85) [] []) h54) fun h55 =>
  bm (vFieldAddr s.P 23 v11 0) h55 fun v56 h57 =>
  bm (vLoad s.P 3 v56 h57) h57 fun v58 h59 =>
  bp (callV (xX s 46 wl k false) false true (.fn (.func 86) [] []) [t1,v58] h59) fun v60 h61 =>
  execK (xX s 46 wl k false) xq46_0 none (runK (xX s 46 wl k false) (bodyK s.P Try.f46) xk46_0) ⟨(t0::t1::uu::uu::v1::v3::v5::v11::v32::v34::v48::v51::v53::uu::uu::uu::uu::t0::v7::v9::v14::v16::v18::v26::v28::t0::v30::v38::v40::v42::v44::v46::t1::v56::v58::v60::uu::uu::uu::uu::uu::uu::uu::uu::uu::uu::uu::uu::uu::uu::uu::uu::uu::uu::uu::uu::uu::uu::uu::uu::uu::uu::uu::uu::uu::uu::uu::uu::uu::uu::uu::uu::uu::uu::uu::uu::uu::uu::uu::uu::uu::uu::uu::uu::uu::uu::uu::uu::uu::uu::uu::uu::uu::uu::uu::uu::uu::uu::uu::uu::uu::uu::uu::[]),h61⟩) :=
  bodyV_run rfl (go_seq (go_reg0
  (go_op0 rfl rfl (st_bp (by kernel_rfl) fun v1 h2 =>
  (go_op0 rfl rfl (st_bp (by kernel_rfl) fun v3 h4 =>
  (go_op0 rfl rfl (st_bp (by kernel_rfl) fun v5 h6 =>
  (go_end0 (by kernel_rfl)
  (go_seq (go_reg0
  (go_op0 rfl rfl (st_id (v := t0) (H := h6) (by kernel_rfl)
  (go_op0 rfl rfl (st_bp (by kernel_rfl) fun v7 h8 =>
  (go_op0 rfl rfl (st_bp (by kernel_rfl) fun v9 h10 =>
  (go_op0 rfl rfl (st_bp (by kernel_rfl) fun v11 h12 =>
  (go_op0 rfl rfl (st_bs (by kernel_rfl) fun h13 =>
  (go_end0 (by kernel_rfl)
  (go_seq (go_seq (go_reg0
  (go_op0 rfl rfl (st_bm (by kernel_rfl) fun v14 h15 =>
  (go_op0 rfl rfl (st_bp (by kernel_rfl) fun v16 h17 =>
  (go_op0 rfl rfl (st_bm (by kernel_rfl) fun v18 h19 =>
  (go_end0 (by kernel_rfl)
  (go_cond (by kernel_rfl)
  (go_seq (go_reg0
  (go_op0 rfl rfl (st_bp (by kernel_rfl) fun v20 h21 =>
  (go_op0 rfl rfl (st_bp (by kernel_rfl) fun v22 h23 =>
  (go_op0 rfl rfl (st_bp (by kernel_rfl) fun v24 h25 =>
  (go_end0 (by kernel_rfl)
  (go_ret (rt_seq_ret (by kernel_rfl))))))))))))
  (go_skip (go_seq (go_reg0
  (go_op0 rfl rfl (st_bm (by kernel_rfl) fun v26 h27 =>
  (go_op0 rfl rfl (st_bp (by kernel_rfl) fun v28 h29 =>
  (go_op0 rfl rfl (st_id (v := t0) (H := h29) (by kernel_rfl)
  (go_op0 rfl rfl (st_bp (by kernel_rfl) fun v30 h31 =>
  (go_op0 rfl rfl (st_bp (by kernel_rfl) fun v32 h33 =>
  (go_op0 rfl rfl (st_bp (by kernel_rfl) fun v34 h35 =>
  (go_op0 rfl rfl (st_bs (by kernel_rfl) fun h36 =>
  (go_op0 rfl rfl (st_bs (by kernel_rfl) fun h37 =>
  (go_end0 (by kernel_rfl)
  (go_seq (go_reg0
  (go_op0 rfl rfl (st_bm (by kernel_rfl) fun v38 h39 =>
  (go_op0 rfl rfl (st_bp (by kernel_rfl) fun v40 h41 =>
  (go_op0 rfl rfl (st_bm (by kernel_rfl) fun v42 h43 =>
  (go_op0 rfl rfl (st_bm (by kernel_rfl) fun v44 h45 =>
  (go_op0 rfl rfl (st_bp (by kernel_rfl) fun v46 h47 =>
  (go_op0 rfl rfl (st_bp (by kernel_rfl) fun v48 h49 =>
  (go_op0 rfl rfl (st_bs (by kernel_rfl) fun h50 =>
  (go_end0 (by kernel_rfl)
  (go_seq (go_reg0
  (go_op0 rfl rfl (st_bp (by kernel_rfl) fun v51 h52 =>
  (go_end0 (by kernel_rfl)
  (go_seq (go_reg0
  (go_op0 rfl rfl (st_bp (by kernel_rfl) fun v53 h54 =>
  (go_op0 rfl rfl (st_bs (by kernel_rfl) fun h55 =>
  (go_end0 (by kernel_rfl)
  (go_seq (go_seq (go_reg0
  (go_op0 rfl rfl (st_id (v := t1) (H := h55) (by kernel_rfl)
  (go_op0 rfl rfl (st_bm (by kernel_rfl) fun v56 h57 =>
  (go_op0 rfl rfl (st_bm (by kernel_rfl) fun v58 h59 =>
  (go_op0 rfl rfl (st_bp (by kernel_rfl) fun v60 h61 =>
  (go_end0 (by kernel_rfl)
  (go_block (by kernel_rfl))))))))))))))))))))))))))))))))))))))))))))))))))))))))))))))))))))))))))))))))))))))))))))))))
theorem xe46 (k wl : Nat) (t0 t1 : V) (h : Hp) : evF Try.prog xM (k + 1) wl 46 [t0,t1] h = bodyV (xX (xS k) 46 wl k false) Try.f46 [t0,t1] h := by kernel_rfl
theorem xz46 (P : Program) (t0 t1 t2 t3 t4 t5 t6 t7 t8 t9 t10 t11 t12 t13 t14 t15 t16 t17 t18 t19 t20 t21 t22 t23 t24 t25 t26 t27 t28 t29 t30 t31 t32 t33 t34 t35 t36 t37 t38 t39 t40 t41 t42 t43 t44 t45 t46 t47 t48 t49 t50 t51 t52 t53 t54 t55 t56 t57 t58 t59 t60 t61 t62 t63 t64 t65 t66 t67 t68 t69 t70 t71 t72 t73 t74 t75 t76 t77 t78 t79 t80 t81 t82 t83 t84 t85 t86 t87 t88 t89 t90 t91 t92 t93 t94 t95 t96 t97 t98 t99 t100 t101 t102 : V) (h : Hp) : bodyK P Try.f46 .ret ⟨(t0::t1::t2::t3::t4::t5::t6::t7::t8::t9::t10::t11::t12::t13::t14::t15::t16::t17::t18::t19::t20::t21::t22::t23::t24::t25::t26::t27::t28::t29::t30::t31::t32::t33::t34::t35::t36::t37::t38::t39::t40::t41::t42::t43::t44::t45::t46::t47::t48::t49::t50::t51::t52::t53::t54::t55::t56::t57::t58::t59::t60::t61::t62::t63::t64::t65::t66::t67::t68::t69::t70::t71::t72::t73::t74::t75::t76::t77::t78::t79::t80::t81::t82::t83::t84::t85::t86::t87::t88::t89::t90::t91::t92::t93::t94::t95::t96::t97::t98::t99::t100::t101::t102::[]),h⟩ = some (.tup [t4,t5,t6],h) := by kernel_rfl
theorem xj46_0 (s : Sys) (k wl : Nat) (t0 t1 t2 t3 t4 t5 t6 t7 t8 t9 t10 t11 t12 t13 t14 t15 t16 t17 t18 t19 t20 t21 t22 t23 t24 t25 t26 t27 t28 t29 t30 t31 t32 t33 t34 t35 t36 t37 t38 t39 t40 t41 t42 t43 t44 t45 t46 t47 t48 t49 t50 t51 t52 t53 t54 t55 t56 t57 t58 t59 t60 t61 t62 t63 t64 t65 t66 t67 t68 t69 t70 t71 t72 t73 t74 t75 t76 t77 t78 t79 t80 t81 t82 t83 t84 t85 t86 t87 t88 t89 t90 t91 t92 t93 t94 t95 t96 t97 t98 t99 t100 t101 t102 : V) (h : Hp) : runK (xX s 46 wl k false) (bodyK s.P Try.f46) xk46_0 .norm ⟨(t0::t1::t2::t3::t4::t5::t6::t7::t8::t9::t10::t11::t12::t13::t14::t15::t16::t17::t18::t19::t20::t21::t22::t23::t24::t25::t26::t27::t28::t29::t30::t31::t32::t33::t34::t35::t36::t37::t38::t39::t40::t41::t42::t43::t44::t45::t46::t47::t48::t49::t50::t51::t52::t53::t54::t55::t56::t57::t58::t59::t60::t61::t62::t63::t64::t65::t66::t67::t68::t69::t70::t71::t72::t73::t74::t75::t76::t77::t78::t79::t80::t81::t82::t83::t84::t85::t86::t87::t88::t89::t90::t91::t92::t93::t94::t95::t96::t97::t98::t99::t100::t101::t102::[]),h⟩ =
  bm (vLoad s.P 25 t8 h) h fun v62 h63 =>
  bm (vLoad s.P 53 t11 h63) h63 fun v64 h65 =>
  bm (vLoad s.P 53 t10 h65) h65 fun v66 h67 =>
  some (.tup [v62,v64,v66],h67) :=
  (rt_block_norm (go_seq (go_reg1 xo46_17r
  (go_op1 xo46_17 xo46_17a rfl rfl rfl (st_no (by kernel_rfl) (st_bm (by kernel_rfl) fun v62 h63 =>
  (go_op1 xo46_17 xo46_17a rfl rfl rfl (st_no (by kernel_rfl) (st_bm (by kernel_rfl) fun v64 h65 =>
  (go_op1 xo46_17 xo46_17a rfl rfl rfl (st_no (by kernel_rfl) (st_bm (by kernel_rfl) fun v66 h67 =>
  (go_op1 xo46_17 xo46_17a rfl rfl rfl (st_no (by kernel_rfl) (st_id (v := v62) (H := h67) (by kernel_rfl)
  (go_op1 xo46_17 xo46_17a rfl rfl rfl (st_no (by kernel_rfl) (st_id (v := v64) (H := h67) (by kernel_rfl)
  (go_op1 xo46_17 xo46_17a rfl rfl rfl (st_no (by kernel_rfl) (st_id (v := v66) (H := h67) (by kernel_rfl)
  (go_end1 xo46_17 (by kernel_rfl) xo46_17a
  (go_ret (by kernel_rfl))))))))))))))))))))))))
theorem xq46_1_1_1_1_1_1_1_0_1_0_1 (s : Sys) (K : Out → St → Option (V × Hp)) (k wl : Nat) (rd : Bool) (t0 t1 t2 t3 t4 t5 t6 t7 t8 t9 t10 t11 t12 t13 t14 t15 t16 t17 t18 t19 t20 t21 t22 t23 t24 t25 t26 t27 t28 t29 t30 t31 t32 t33 t34 t35 t36 t37 t38 t39 t40 t41 t42 t43 t44 t45 t46 t47 t48 t49 t50 t51 t52 t53 t54 t55 t56 t57 t58 t59 t60 t61 t62 t63 t64 t65 t66 t67 t68 t69 t70 t71 t72 t73 t74 t75 t76 t77 t78 t79 t80 t81 t82 t83 t84 t85 t86 t87 t88 t89 t90 t91 t92 t93 t94 t95 t96 t97 t98 t99 t100 t101 t102 : V) (h : Hp) : runK (xX s 46 wl k rd) K [.seq xl46_1] .norm ⟨(t0::t1::t2::t3::t4::t5::t6::t7::t8::t9::t10::t11::t12::t13::t14::t15::t16::t17::t18::t19::t20::t21::t22::t23::t24::t25::t26::t27::t28::t29::t30::t31::t32::t33::t34::t35::t36::t37::t38::t39::t40::t41::t42::t43::t44::t45::t46::t47::t48::t49::t50::t51::t52::t53::t54::t55::t56::t57::t58::t59::t60::t61::t62::t63::t64::t65::t66::t67::t68::t69::t70::t71::t72::t73::t74::t75::t76::t77::t78::t79::t80::t81::t82::t83::t84::t85::t86::t87::t88::t89::t90::t91::t92::t93::t94::t95::t96::t97::t98::t99::t100::t101::t102::[]),h⟩ =
  bm (vLoad s.P 50 t9 h) h fun v68 h69 =>
  bm (vIndexAddr s.P 50 v68 t13 h69) h69 fun v70 h71 =>
  bm (vLoad s.P 51 v70 h71) h71 fun v72 h73 =>
  bm (vLoad s.P 93 t12 h73) h73 fun v74 h75 =>
  bp (callV (xX s 46 wl k rd) false true (.fn (.func 87) [] []) [v72,v74] h75) fun v76 h77 =>
  bm (vLoad s.P 53 t10 h77) h77 fun v78 h79 =>
  bm (vIndexAddr s.P 53 v78 t13 h79) h79 fun v80 h81 =>
  bm (vFieldAddr s.P 28 v80 0) h81 fun v82 h83 =>
  bm (vLoad s.P 3 v82 h83) h83 fun v84 h85 =>
  bm (vBin s.P .eql 3 v84 (V.lit (Value.int .i64 (-1)))) h85 fun v86 h87 =>
  gd v86 (
  bm (vBin s.P .geq 3 v76 (V.lit (Value.int .i64 0))) h87 fun v88 h89 =>
  opsP (xX s 46 wl k rd) xg46_2 9 h77.length ([],[]) (runK (xX s 46 wl k rd) K xk46_1) ⟨(t0::t1::t2::t3::t4::t5::t6::t7::t8::t9::t10::t11::t12::t13::v76::t15::t16::t17::t18::t19::t20::t21::t22::t23::t24::t25::t26::t27::t28::t29::t30::t31::t32::t33::t34::t35::t36::v68::t13::v70::v72::v74::v76::v78::t13::v80::v82::v84::v86::(V.lit (Value.bool true))::v76::v88::t52::t53::t54::t55::t56::t57::t58::t59::t60::t61::t62::t63::t64::t65::t66::t67::t68::t69::t70::t71::t72::t73::t74::t75::t76::t77::t78::t79::t80::t81::t82::t83::t84::t85::t86::t87::t88::t89::t90::t91::t92::t93::t94::t95::t96::t97::t98::t99::t100::t101::t102::[]),h89⟩) (
  opsP (xX s 46 wl k rd) xg46_2 9 h77.length ([],[]) (runK (xX s 46 wl k rd) K xk46_1) ⟨(t0::t1::t2::t3::t4::t5::t6::t7::t8::t9::t10::t11::t12::t13::v76::t15::t16::t17::t18::t19::t20::t21::t22::t23::t24::t25::t26::t27::t28::t29::t30::t31::t32::t33::t34::t35::t36::v68::t13::v70::v72::v74::v76::v78::t13::v80::v82::v84::v86::(V.lit (Value.bool false))::uu::uu::t52::t53::t54::t55::t56::t57::t58::t59::t60::t61::t62::t63::t64::t65::t66::t67::t68::t69::t70::t71::t72::t73::t74::t75::t76::t77::t78::t79::t80::t81::t82::t83::t84::t85::t86::t87::t88::t89::t90::t91::t92::t93::t94::t95::t96::t97::t98::t99::t100::t101::t102::[]),h87⟩) (
  opsP (xX s 46 wl k rd) xg46_2 8 h77.length ([],[]) (runK (xX s 46 wl k rd) K xk46_1) ⟨(t0::t1::t2::t3::t4::t5::t6::t7::t8::t9::t10::t11::t12::t13::v76::t15::t16::t17::t18::t19::t20::t21::t22::t23::t24::t25::t26::t27::t28::t29::t30::t31::t32::t33::t34::t35::t36::v68::t13::v70::v72::v74::v76::v78::t13::v80::v82::v84::v86::v86::uu::t51::t52::t53::t54::t55::t56::t57::t58::t59::t60::t61::t62::t63::t64::t65::t66::t67::t68::t69::t70::t71::t72::t73::t74::t75::t76::t77::t78::t79::t80::t81::t82::t83::t84::t85::t86::t87::t88::t89::t90::t91::t92::t93::t94::t95::t96::t97::t98::t99::t100::t101::t102::[]),h87⟩) :=
  (go_block (go_seq (go_seq (go_reg1 xo46_10r
  (go_op1 xo46_10 xo46_10a rfl rfl rfl (st_no (by kernel_rfl) (st_bm (by kernel_rfl) fun v68 h69 =>
  (go_op1 xo46_10 xo46_10a rfl rfl rfl (st_no (by kernel_rfl) (st_id (v := t13) (H := h69) (by kernel_rfl)
  (go_op1 xo46_10 xo46_10a rfl rfl rfl (st_no (by kernel_rfl) (st_bm (by kernel_rfl) fun v70 h71 =>
  (go_op1 xo46_10 xo46_10a rfl rfl rfl (st_no (by kernel_rfl) (st_bm (by kernel_rfl) fun v72 h73 =>
  (go_op1 xo46_10 xo46_10a rfl rfl rfl (st_no (by kernel_rfl) (st_bm (by kernel_rfl) fun v74 h75 =>
  (go_op1 xo46_10 xo46_10a rfl rfl rfl (st_no (by kernel_rfl) (st_bp (by kernel_rfl) fun v76 h77 =>
  (go_op1 xo46_10 xo46_10a rfl rfl rfl (st_no (by kernel_rfl) (st_id (v := v76) (H := h77) (by kernel_rfl)
  (go_end1 xo46_10 (by kernel_rfl) xo46_10a
  (go_seq (go_reg0
  (go_op0 rfl rfl (st_bm (by kernel_rfl) fun v78 h79 =>
  (go_op0 rfl rfl (st_id (v := t13) (H := h79) (by kernel_rfl)
  (go_op0 rfl rfl (st_bm (by kernel_rfl) fun v80 h81 =>
  (go_op0 rfl rfl (st_bm (by kernel_rfl) fun v82 h83 =>
  (go_op0 rfl rfl (st_bm (by kernel_rfl) fun v84 h85 =>
  (go_op0 rfl rfl (st_bm (by kernel_rfl) fun v86 h87 =>
  (go_op0 rfl rfl (st_id (v := v86) (H := h87) (by kernel_rfl)
  (go_gdT0 rfl rfl rfl (by kernel_rfl)
  (st_id (v := v76) (H := h87) (by kernel_rfl)
  (go_run0 rfl rfl rfl (by kernel_rfl) (st_bm (by kernel_rfl) fun v88 h89 =>
  (by kernel_rfl))))
  (go_skip0 rfl rfl rfl (by kernel_rfl)
  (by kernel_rfl))
  (by kernel_rfl))))))))))))))))))))))))))))))))))))))))))))
theorem xq46_1_1_1_1_1_1_1_0_1_0_0 (s : Sys) (K : Out → St → Option (V × Hp)) (k wl : Nat) (rd : Bool) (t0 t1 t2 t3 t4 t5 t6 t7 t8 t9 t10 t11 t12 t13 t14 t15 t16 t17 t18 t19 t20 t21 t22 t23 t24 t25 t26 t27 t28 t29 t30 t31 t32 t33 t34 t35 t36 t37 t38 t39 t40 t41 t42 t43 t44 t45 t46 t47 t48 t49 t50 t51 t52 t53 t54 t55 t56 t57 t58 t59 t60 t61 t62 t63 t64 t65 t66 t67 t68 t69 t70 t71 t72 t73 t74 t75 t76 t77 t78 t79 t80 t81 t82 t83 t84 t85 t86 t87 t88 t89 t90 t91 t92 t93 t94 t95 t96 t97 t98 t99 t100 t101 t102 : V) (h : Hp) : runK (xX s 46 wl k rd) K [.seq xl46_0] .norm ⟨(t0::t1::t2::t3::t4::t5::t6::t7::t8::t9::t10::t11::t12::t13::t14::t15::t16::t17::t18::t19::t20::t21::t22::t23::t24::t25::t26::t27::t28::t29::t30::t31::t32::t33::t34::t35::t36::t37::t38::t39::t40::t41::t42::t43::t44::t45::t46::t47::t48::t49::t50::t51::t52::t53::t54::t55::t56::t57::t58::t59::t60::t61::t62::t63::t64::t65::t66::t67::t68::t69::t70::t71::t72::t73::t74::t75::t76::t77::t78::t79::t80::t81::t82::t83::t84::t85::t86::t87::t88::t89::t90::t91::t92::t93::t94::t95::t96::t97::t98::t99::t100::t101::t102::[]),h⟩ =
  K .norm ⟨(t0::t1::t2::t3::t4::t5::t6::t7::t8::t9::t10::t11::t12::t36::t14::t15::t16::t17::t18::t19::t20::t21::t22::t23::t24::t25::t26::t27::t28::t29::t30::t31::t32::t33::t34::t35::t36::t37::t38::t39::t40::t41::t42::t43::t44::t45::t46::t47::t48::t49::t50::t51::t52::t53::t54::t55::t56::t57::t58::t59::t60::t61::t62::t63::t64::t65::t66::t67::t68::t69::t70::t71::t72::t73::t74::t75::t76::t77::t78::t79::t80::t81::t82::t83::t84::t85::t86::t87::t88::t89::t90::t91::t92::t93::t94::t95::t96::t97::t98::t99::t100::t101::t102::[]),h⟩ :=
  (go_reg0
  (go_op0 rfl rfl (st_id (v := t36) (H := h) (by kernel_rfl)
  (go_end0 (by kernel_rfl)
  (by kernel_rfl)))))
theorem xm46_1 (s : Sys) (K : Out → St → Option (V × Hp)) (k wl : Nat) (rd : Bool) (m0 : Nat) (ac : List Nat × List Nat) (t0 t1 t2 t3 t4 t5 t6 t7 t8 t9 t10 t11 t12 t13 t14 t15 t16 t17 t18 t19 t20 t21 t22 t23 t24 t25 t26 t27 t28 t29 t30 t31 t32 t33 t34 t35 t36 t37 t38 t39 t40 t41 t42 t43 t44 t45 t46 t47 t48 t49 t50 t51 t52 t53 t54 t55 t56 t57 t58 t59 t60 t61 t62 t63 t64 t65 t66 t67 t68 t69 t70 t71 t72 t73 t74 t75 t76 t77 t78 t79 t80 t81 t82 t83 t84 t85 t86 t87 t88 t89 t90 t91 t92 t93 t94 t95 t96 t97 t98 t99 t100 t101 t102 : V) (h : Hp) : opsP (xX s 46 wl k rd) xg46_2 9 m0 ac (runK (xX s 46 wl k rd) K xk46_1) ⟨(t0::t1::t2::t3::t4::t5::t6::t7::t8::t9::t10::t11::t12::t13::t14::t15::t16::t17::t18::t19::t20::t21::t22::t23::t24::t25::t26::t27::t28::t29::t30::t31::t32::t33::t34::t35::t36::t37::t38::t39::t40::t41::t42::t43::t44::t45::t46::t47::t48::t49::t50::t51::t52::t53::t54::t55::t56::t57::t58::t59::t60::t61::t62::t63::t64::t65::t66::t67::t68::t69::t70::t71::t72::t73::t74::t75::t76::t77::t78::t79::t80::t81::t82::t83::t84::t85::t86::t87::t88::t89::t90::t91::t92::t93::t94::t95::t96::t97::t98::t99::t100::t101::t102::[]),h⟩ =
  bm (vPick t49 t51 (V.lit (Value.bool false))) h fun v90 h91 =>
  cnd v90 (
  stO h91.length t10 (
  bm (vLoad s.P 53 t10 h91) h91 fun v92 h93 =>
  stO h91.length t9 (
  bm (vLoad s.P 50 t9 h93) h93 fun v94 h95 =>
  bm (vLoad s.P 50 t9 h95) h95 fun v96 h97 =>
  bm (vIndexAddr s.P 50 v96 t13 h97) h97 fun v98 h99 =>
  bm (vLoad s.P 51 v98 h99) h99 fun v100 h101 =>
  bm (vIndexAddr s.P 51 v100 t14 h101) h101 fun v102 h103 =>
  bm (vLoad s.P 3 v102 h103) h103 fun v104 h105 =>
  bp (callV (xX s 46 wl k rd) true true (.fn (.func 31) [] []) [v104,t13,(V.lit (Value.int .u64 0))] h105) fun v106 h107 =>
  stO h91.length t9 (
  bm (vLoad s.P 50 t9 h107) h107 fun v108 h109 =>
  stO h91.length v108 (
  bm (vIndexAddr s.P 50 v108 t13 h109) h109 fun v110 h111 =>
  stO h91.length v110 (
  bm (vLoad s.P 51 v110 h111) h111 fun v112 h113 =>
  bm (vBin s.P .add 3 t14 (V.lit (Value.int .i64 1))) h113 fun v114 h115 =>
  stO h91.length v112 (
  bp (vSlice s.P wl true 51 v112 (some v114) none none h115) fun v116 h117 =>
  bm (vIndexAddr s.P 53 v92 t13 h117) h117 fun v118 h119 =>
  bs (vStore s.P wl 28 v118 v106 h119) fun h120 =>
  bm (vIndexAddr s.P 50 v94 t13 h120) h120 fun v121 h122 =>
  bs (vStore s.P wl 51 v121 v116 h122) fun h123 =>
  apt (lgW v121 (lgW v118 (lgR v112 (lgR t9 ([],[]))))) (
  runK (xX s 46 wl k rd) K xk46_2 .norm ⟨(t0::t1::t2::t3::t4::t5::t6::t7::t8::t9::t10::t11::t12::t13::t14::t15::t16::t17::t18::t19::t20::t21::t22::t23::t24::t25::t26::t27::t28::t29::t30::t31::t32::t33::t34::t35::t36::t37::t38::t39::t40::t41::t42::t43::t44::t45::t46::t47::t48::t49::t50::t51::v90::v92::t13::v94::t13::v96::t13::v98::v100::t14::v102::v104::t13::v106::v108::t13::v110::v112::t14::v114::v116::v118::v121::t75::t76::t77::t78::t79::t80::t81::t82::t83::t84::t85::t86::t87::t88::t89::t90::t91::t92::t93::t94::t95::t96::t97::t98::t99::t100::t101::t102::[]),h123⟩)))))))) (
  runK (xX s 46 wl k rd) K xk46_2 .norm ⟨(t0::t1::t2::t3::t4::t5::t6::t7::t8::t9::t10::t11::t12::t13::t14::t15::t16::t17::t18::t19::t20::t21::t22::t23::t24::t25::t26::t27::t28::t29::t30::t31::t32::t33::t34::t35::t36::t37::t38::t39::t40::t41::t42::t43::t44::t45::t46::t47::t48::t49::t50::t51::v90::t53::t54::t55::t56::t57::t58::t59::t60::t61::t62::t63::t64::t65::t66::t67::t68::t69::t70::t71::t72::t73::t74::t75::t76::t77::t78::t79::t80::t81::t82::t83::t84::t85::t86::t87::t88::t89::t90::t91::t92::t93::t94::t95::t96::t97::t98::t99::t100::t101::t102::[]),h91⟩) :=
  (go_op0 rfl rfl (st_bm (by kernel_rfl) fun v90 h91 =>
  (go_end0 (by kernel_rfl)
  (go_cond (by kernel_rfl)
  (go_reg1 xo46_12r
  (go_op2 (a' := ([],[])) xo46_12 rfl rfl rfl (by kernel_rfl) (st_yes (by kernel_rfl) (st_bm (by kernel_rfl) fun v92 h93 =>
  (go_op2 (a' := ([],[])) xo46_12 rfl rfl rfl (by kernel_rfl) (st_no (by kernel_rfl) (st_id (v := t13) (H := h93) (by kernel_rfl)
  (go_op2 (a' := (lgR t9 ([],[]))) xo46_12 rfl rfl rfl (by kernel_rfl) (st_yes (by kernel_rfl) (st_bm (by kernel_rfl) fun v94 h95 =>
  (go_op2 (a' := (lgR t9 ([],[]))) xo46_12 rfl rfl rfl (by kernel_rfl) (st_no (by kernel_rfl) (st_id (v := t13) (H := h95) (by kernel_rfl)
  (go_op2 (a' := (lgR t9 ([],[]))) xo46_12 rfl rfl rfl (by kernel_rfl) (st_no (by kernel_rfl) (st_bm (by kernel_rfl) fun v96 h97 =>
  (go_op2 (a' := (lgR t9 ([],[]))) xo46_12 rfl rfl rfl (by kernel_rfl) (st_no (by kernel_rfl) (st_id (v := t13) (H := h97) (by kernel_rfl)
  (go_op2 (a' := (lgR t9 ([],[]))) xo46_12 rfl rfl rfl (by kernel_rfl) (st_no (by kernel_rfl) (st_bm (by kernel_rfl) fun v98 h99 =>
  (go_op2 (a' := (lgR t9 ([],[]))) xo46_12 rfl rfl rfl (by kernel_rfl) (st_no (by kernel_rfl) (st_bm (by kernel_rfl) fun v100 h101 =>
  (go_op2 (a' := (lgR t9 ([],[]))) xo46_12 rfl rfl rfl (by kernel_rfl) (st_no (by kernel_rfl) (st_id (v := t14) (H := h101) (by kernel_rfl)
  (go_op2 (a' := (lgR t9 ([],[]))) xo46_12 rfl rfl rfl (by kernel_rfl) (st_no (by kernel_rfl) (st_bm (by kernel_rfl) fun v102 h103 =>
  (go_op2 (a' := (lgR t9 ([],[]))) xo46_12 rfl rfl rfl (by kernel_rfl) (st_no (by kernel_rfl) (st_bm (by kernel_rfl) fun v104 h105 =>
  (go_op2 (a' := (lgR t9 ([],[]))) xo46_12 rfl rfl rfl (by kernel_rfl) (st_no (by kernel_rfl) (st_id (v := t13) (H := h105) (by kernel_rfl)
  (go_op2 (a' := (lgR t9 ([],[]))) xo46_12 rfl rfl rfl (by kernel_rfl) (st_no (by kernel_rfl) (st_bp (by kernel_rfl) fun v106 h107 =>
  (go_op2 (a' := (lgR t9 ([],[]))) xo46_12 rfl rfl rfl (by kernel_rfl) (st_yes (by kernel_rfl) (st_bm (by kernel_rfl) fun v108 h109 =>
  (go_op2 (a' := (lgR t9 ([],[]))) xo46_12 rfl rfl rfl (by kernel_rfl) (st_no (by kernel_rfl) (st_id (v := t13) (H := h109) (by kernel_rfl)
  (go_op2 (a' := (lgR t9 ([],[]))) xo46_12 rfl rfl rfl (by kernel_rfl) (st_yes (by kernel_rfl) (st_bm (by kernel_rfl) fun v110 h111 =>
  (go_op2 (a' := (lgR t9 ([],[]))) xo46_12 rfl rfl rfl (by kernel_rfl) (st_yes (by kernel_rfl) (st_bm (by kernel_rfl) fun v112 h113 =>
  (go_op2 (a' := (lgR t9 ([],[]))) xo46_12 rfl rfl rfl (by kernel_rfl) (st_no (by kernel_rfl) (st_id (v := t14) (H := h113) (by kernel_rfl)
  (go_op2 (a' := (lgR t9 ([],[]))) xo46_12 rfl rfl rfl (by kernel_rfl) (st_no (by kernel_rfl) (st_bm (by kernel_rfl) fun v114 h115 =>
  (go_op2 (a' := (lgR v112 (lgR t9 ([],[])))) xo46_12 rfl rfl rfl (by kernel_rfl) (st_yes (by kernel_rfl) (st_bp (by kernel_rfl) fun v116 h117 =>
  (go_op2 (a' := (lgR v112 (lgR t9 ([],[])))) xo46_12 rfl rfl rfl (by kernel_rfl) (st_no (by kernel_rfl) (st_bm (by kernel_rfl) fun v118 h119 =>
  (go_op2 (a' := (lgW v118 (lgR v112 (lgR t9 ([],[]))))) xo46_12 rfl rfl rfl (by kernel_rfl) (st_no (by kernel_rfl) (st_bs (by kernel_rfl) fun h120 =>
  (go_op2 (a' := (lgW v118 (lgR v112 (lgR t9 ([],[]))))) xo46_12 rfl rfl rfl (by kernel_rfl) (st_no (by kernel_rfl) (st_bm (by kernel_rfl) fun v121 h122 =>
  (go_op2 (a' := (lgW v121 (lgW v118 (lgR v112 (lgR t9 ([],[])))))) xo46_12 rfl rfl rfl (by kernel_rfl) (st_no (by kernel_rfl) (st_bs (by kernel_rfl) fun h123 =>
  (go_end2 xo46_12 (by kernel_rfl) xo46_12a
  (by kernel_rfl)))))))))))))))))))))))))))))))))))))))))))))))))))))))))))))))))))))))))))
  (go_skip (by kernel_rfl))))))
theorem xj46_2 (s : Sys) (K : Out → St → Option (V × Hp)) (k wl : Nat) (rd : Bool) (t0 t1 t2 t3 t4 t5 t6 t7 t8 t9 t10 t11 t12 t13 t14 t15 t16 t17 t18 t19 t20 t21 t22 t23 t24 t25 t26 t27 t28 t29 t30 t31 t32 t33 t34 t35 t36 t37 t38 t39 t40 t41 t42 t43 t44 t45 t46 t47 t48 t49 t50 t51 t52 t53 t54 t55 t56 t57 t58 t59 t60 t61 t62 t63 t64 t65 t66 t67 t68 t69 t70 t71 t72 t73 t74 t75 t76 t77 t78 t79 t80 t81 t82 t83 t84 t85 t86 t87 t88 t89 t90 t91 t92 t93 t94 t95 t96 t97 t98 t99 t100 t101 t102 : V) (h : Hp) : runK (xX s 46 wl k rd) K xk46_2 .norm ⟨(t0::t1::t2::t3::t4::t5::t6::t7::t8::t9::t10::t11::t12::t13::t14::t15::t16::t17::t18::t19::t20::t21::t22::t23::t24::t25::t26::t27::t28::t29::t30::t31::t32::t33::t34::t35::t36::t37::t38::t39::t40::t41::t42::t43::t44::t45::t46::t47::t48::t49::t50::t51::t52::t53::t54::t55::t56::t57::t58::t59::t60::t61::t62::t63::t64::t65::t66::t67::t68::t69::t70::t71::t72::t73::t74::t75::t76::t77::t78::t79::t80::t81::t82::t83::t84::t85::t86::t87::t88::t89::t90::t91::t92::t93::t94::t95::t96::t97::t98::t99::t100::t101::t102::[]),h⟩ =
  bp (opAlloc s.P 28 h) fun v124 h125 =>
  bm (vLoad s.P 23 t7 h125) h125 fun v126 h127 =>
  bm (vLoad s.P 25 t8 h127) h127 fun v128 h129 =>
  bm (vLoad s.P 53 t10 h129) h129 fun v130 h131 =>
  bm (vIndexAddr s.P 53 v130 t13 h131) h131 fun v132 h133 =>
  bm (vLoad s.P 28 v132 h133) h133 fun v134 h135 =>
  bp (callV (xX s 46 wl k rd) true true (.fn (.func 88) [] []) [v126,v128,v134] h135) fun v136 h137 =>
  bm (vExtract v136 0) h137 fun v138 h139 =>
  bm (vExtract v136 1) h139 fun v140 h141 =>
  bs (vStore s.P wl 28 v124 v140 h141) fun h142 =>
  stO h142.length t10 (
  bm (vLoad s.P 53 t10 h142) h142 fun v143 h144 =>
  stO h142.length v124 (
  bm (vLoad s.P 28 v124 h144) h144 fun v145 h146 =>
  bs (vStore s.P wl 25 t8 v138 h146) fun h147 =>
  bm (vIndexAddr s.P 53 v143 t13 h147) h147 fun v148 h149 =>
  bs (vStore s.P wl 28 v148 v145 h149) fun h150 =>
  apt (lgW v148 (lgW t8 (lgR v124 (lgR t10 ([],[]))))) (
  bm (vLoad s.P 28 v124 h150) h150 fun v151 h152 =>
  bp (callV (xX s 46 wl k rd) false true (.fn (.func 43) [] []) [v151] h152) fun v153 h154 =>
  cnd v153 (
  stO h154.length t10 (
  bm (vLoad s.P 53 t10 h154) h154 fun v155 h156 =>
  stO h154.length t11 (
  bm (vLoad s.P 53 t11 h156) h156 fun v157 h158 =>
  bm (vLoad s.P 28 v124 h158) h158 fun v159 h160 =>
  bp (opBuildSliceC s.P wl 53 1 [(0,v159)] h160) fun v161 h162 =>
  bp (opApp s.P wl 53 53 v157 v161 h162) fun v163 h164 =>
  bm (vBuild s.P 28 [(0,(V.lit (Value.int .i64 (-1))))]) h164 fun v165 h166 =>
  bs (vStore s.P wl 53 t11 v163 h166) fun h167 =>
  bm (vIndexAddr s.P 53 v155 t13 h167) h167 fun v168 h169 =>
  bs (vStore s.P wl 28 v168 v165 h169) fun h170 =>
  apt (lgW v168 (lgW t11 (lgW v157 (lgR t10 ([],[]))))) (
  K .norm ⟨(t0::t1::t2::t3::t4::t5::t6::t7::t8::t9::t10::t11::t12::t13::t14::v138::v124::t17::t18::t19::t20::t21::t22::t23::t24::t25::t26::t27::t28::t29::t30::t31::t32::t33::t34::t35::t36::t37::t38::t39::t40::t41::t42::t43::t44::t45::t46::t47::t48::t49::t50::t51::t52::t53::t54::t55::t56::t57::t58::t59::t60::t61::t62::t63::t64::t65::t66::t67::t68::t69::t70::t71::t72::t73::t74::v136::v126::v128::v130::t13::v132::v134::v136::v138::v140::v143::t13::v138::v145::v148::v151::v153::v155::t13::v157::v159::v161::v163::v165::v168::t100::t101::t102::[]),h170⟩)))) (
  K .norm ⟨(t0::t1::t2::t3::t4::t5::t6::t7::t8::t9::t10::t11::t12::t13::t14::v138::v124::t17::t18::t19::t20::t21::t22::t23::t24::t25::t26::t27::t28::t29::t30::t31::t32::t33::t34::t35::t36::t37::t38::t39::t40::t41::t42::t43::t44::t45::t46::t47::t48::t49::t50::t51::t52::t53::t54::t55::t56::t57::t58::t59::t60::t61::t62::t63::t64::t65::t66::t67::t68::t69::t70::t71::t72::t73::t74::v136::v126::v128::v130::t13::v132::v134::v136::v138::v140::v143::t13::v138::v145::v148::v151::v153::t92::t93::t94::t95::t96::t97::t98::t99::t100::t101::t102::[]),h154⟩)))) :=
  (go_seq (go_reg1 xo46_13r
  (go_op1 xo46_13 xo46_13a rfl rfl rfl (st_no (by kernel_rfl) (st_bp (by kernel_rfl) fun v124 h125 =>
  (go_op1 xo46_13 xo46_13a rfl rfl rfl (st_no (by kernel_rfl) (st_bm (by kernel_rfl) fun v126 h127 =>
  (go_op1 xo46_13 xo46_13a rfl rfl rfl (st_no (by kernel_rfl) (st_bm (by kernel_rfl) fun v128 h129 =>
  (go_op1 xo46_13 xo46_13a rfl rfl rfl (st_no (by kernel_rfl) (st_bm (by kernel_rfl) fun v130 h131 =>
  (go_op1 xo46_13 xo46_13a rfl rfl rfl (st_no (by kernel_rfl) (st_id (v := t13) (H := h131) (by kernel_rfl)
  (go_op1 xo46_13 xo46_13a rfl rfl rfl (st_no (by kernel_rfl) (st_bm (by kernel_rfl) fun v132 h133 =>
  (go_op1 xo46_13 xo46_13a rfl rfl rfl (st_no (by kernel_rfl) (st_bm (by kernel_rfl) fun v134 h135 =>
  (go_op1 xo46_13 xo46_13a rfl rfl rfl (st_no (by kernel_rfl) (st_bp (by kernel_rfl) fun v136 h137 =>
  (go_op1 xo46_13 xo46_13a rfl rfl rfl (st_no (by kernel_rfl) (st_id (v := v136) (H := h137) (by kernel_rfl)
  (go_op1 xo46_13 xo46_13a rfl rfl rfl (st_no (by kernel_rfl) (st_bm (by kernel_rfl) fun v138 h139 =>
  (go_op1 xo46_13 xo46_13a rfl rfl rfl (st_no (by kernel_rfl) (st_bm (by kernel_rfl) fun v140 h141 =>
  (go_op1 xo46_13 xo46_13a rfl rfl rfl (st_no (by kernel_rfl) (st_id (v := v138) (H := h141) (by kernel_rfl)
  (go_op1 xo46_13 xo46_13a rfl rfl rfl (st_no (by kernel_rfl) (st_bs (by kernel_rfl) fun h142 =>
  (go_end1 xo46_13 (by kernel_rfl) xo46_13a
  (go_seq (go_reg1 xo46_14r
  (go_op2 (a' := (lgR t10 ([],[]))) xo46_14 rfl rfl rfl (by kernel_rfl) (st_yes (by kernel_rfl) (st_bm (by kernel_rfl) fun v143 h144 =>
  (go_op2 (a' := (lgR t10 ([],[]))) xo46_14 rfl rfl rfl (by kernel_rfl) (st_no (by kernel_rfl) (st_id (v := t13) (H := h144) (by kernel_rfl)
  (go_op2 (a' := (lgR t10 ([],[]))) xo46_14 rfl rfl rfl (by kernel_rfl) (st_no (by kernel_rfl) (st_id (v := v138) (H := h144) (by kernel_rfl)
  (go_op2 (a' := (lgR v124 (lgR t10 ([],[])))) xo46_14 rfl rfl rfl (by kernel_rfl) (st_yes (by kernel_rfl) (st_bm (by kernel_rfl) fun v145 h146 =>
  (go_op2 (a' := (lgW t8 (lgR v124 (lgR t10 ([],[]))))) xo46_14 rfl rfl rfl (by kernel_rfl) (st_no (by kernel_rfl) (st_bs (by kernel_rfl) fun h147 =>
  (go_op2 (a' := (lgW t8 (lgR v124 (lgR t10 ([],[]))))) xo46_14 rfl rfl rfl (by kernel_rfl) (st_no (by kernel_rfl) (st_bm (by kernel_rfl) fun v148 h149 =>
  (go_op2 (a' := (lgW v148 (lgW t8 (lgR v124 (lgR t10 ([],[])))))) xo46_14 rfl rfl rfl (by kernel_rfl) (st_no (by kernel_rfl) (st_bs (by kernel_rfl) fun h150 =>
  (go_end2 xo46_14 (by kernel_rfl) xo46_14a
  (go_seq (go_reg0
  (go_op0 rfl rfl (st_bm (by kernel_rfl) fun v151 h152 =>
  (go_op0 rfl rfl (st_bp (by kernel_rfl) fun v153 h154 =>
  (go_end0 (by kernel_rfl)
  (go_cond (by kernel_rfl)
  (go_reg1 xo46_16r
  (go_op2 (a' := (lgR t10 ([],[]))) xo46_16 rfl rfl rfl (by kernel_rfl) (st_yes (by kernel_rfl) (st_bm (by kernel_rfl) fun v155 h156 =>
  (go_op2 (a' := (lgR t10 ([],[]))) xo46_16 rfl rfl rfl (by kernel_rfl) (st_no (by kernel_rfl) (st_id (v := t13) (H := h156) (by kernel_rfl)
  (go_op2 (a' := (lgR t10 ([],[]))) xo46_16 rfl rfl rfl (by kernel_rfl) (st_yes (by kernel_rfl) (st_bm (by kernel_rfl) fun v157 h158 =>
  (go_op2 (a' := (lgR t10 ([],[]))) xo46_16 rfl rfl rfl (by kernel_rfl) (st_no (by kernel_rfl) (st_bm (by kernel_rfl) fun v159 h160 =>
  (go_op2 (a' := (lgR t10 ([],[]))) xo46_16 rfl rfl rfl (by kernel_rfl) (st_no (by kernel_rfl) (st_bp (by kernel_rfl) fun v161 h162 =>
  (go_op2 (a' := (lgW v157 (lgR t10 ([],[])))) xo46_16 rfl rfl rfl (by kernel_rfl) (st_no (by kernel_rfl) (st_bp (by kernel_rfl) fun v163 h164 =>
  (go_op2 (a' := (lgW v157 (lgR t10 ([],[])))) xo46_16 rfl rfl rfl (by kernel_rfl) (st_no (by kernel_rfl) (st_bm (by kernel_rfl) fun v165 h166 =>
  (go_op2 (a' := (lgW t11 (lgW v157 (lgR t10 ([],[]))))) xo46_16 rfl rfl rfl (by kernel_rfl) (st_no (by kernel_rfl) (st_bs (by kernel_rfl) fun h167 =>
  (go_op2 (a' := (lgW t11 (lgW v157 (lgR t10 ([],[]))))) xo46_16 rfl rfl rfl (by kernel_rfl) (st_no (by kernel_rfl) (st_bm (by kernel_rfl) fun v168 h169 =>
  (go_op2 (a' := (lgW v168 (lgW t11 (lgW v157 (lgR t10 ([],[])))))) xo46_16 rfl rfl rfl (by kernel_rfl) (st_no (by kernel_rfl) (st_bs (by kernel_rfl) fun h170 =>
  (go_end2 xo46_16 (by kernel_rfl) xo46_16a
  (rt_block_norm (by kernel_rfl))))))))))))))))))))))))))))))))))
  (go_skip (rt_block_norm (by kernel_rfl)))))))))))))))))))))))))))))))))))))))))))))))))))))))))))))))))))))))))))))
theorem xk46_0_ret (cx : Cx) (K : Out → St → Option (V × Hp)) (s : St) : runK cx K xk46_0 .ret s = K .ret s := by kernel_rfl
theorem xk46_1_ret (cx : Cx) (K : Out → St → Option (V × Hp)) (s : St) : runK cx K xk46_1 .ret s = K .ret s := by kernel_rfl
theorem xk46_2_ret (cx : Cx) (K : Out → St → Option (V × Hp)) (s : St) : runK cx K xk46_2 .ret s = K .ret s := by kernel_rfl
-- names: xb46,xz46,xj46_0,xq46_1_1_1_1_1_1_1_0_1_0_1,xq46_1_1_1_1_1_1_1_0_1_0_0,xm46_1,xj46_2,xk46_0_ret,xk46_1_ret,xk46_2_ret
-- range over a function at [1,1,1,1,1,1,1,0,1,0]
noncomputable def xg47_0 : Code := codeAt (bodyOf Try.f47) [1,1,1,0,0]
noncomputable def xk47_0 : List Fr := [.seq (codeAt (bodyOf Try.f47) [1,1,1,0,1]),.seq (codeAt (bodyOf Try.f47) [1,1,1,1])]
noncomputable def xk47_1 : List Fr := [.seq (codeAt (bodyOf Try.f47) [1,1,1,1,1,1])]
noncomputable def xl47_0 : Code := codeAt (bodyOf Try.f47) [1,1,1,1,1,1,0,1,0,0]
noncomputable def xk47_2 : List Fr := [.block 0,.seq (codeAt (bodyOf Try.f47) [1,1,1,1,1,1,1])]
noncomputable def xk47_3 : List Fr := [.seq (codeAt (bodyOf Try.f47) [1,1,1,1,1,1,1,1])]
theorem xb47 (s : Sys) (k wl : Nat) (t0 t1 t2 : V) (h : Hp) : bodyV (xX s 47 wl k false) Try.f47 [t0,t1,t2] h =
  bp (callV (xX s 47 wl k false) false true (.fn (.func 46) [] []) [t0,t1] h) fun v1 h2 =>
  bm (vExtract v1 0) h2 fun v3 h4 =>
  bm (vExtract v1 1) h4 fun v5 h6 =>
  bm (vExtract v1 2) h6 fun v7 h8 =>
  bp (opLen s.P 50 t0 h8) fun v9 h10 =>
  bp (callV (xX s 47 wl k false) false true (.fn (.func 82) [] []) [v9] h10) fun v11 h12 =>
  bp (opAlloc s.P 23 h12) fun v13 h14 =>
  bs (vStore s.P wl 23 v13 v11 h14) fun h15 =>
  bm (vBin s.P .lss 3 t2 (V.lit (Value.int .i64 0))) h15 fun v16 h17 =>
  gd v16 (
  opsP (xX s 47 wl k false) xg47_0 7 h15.length ([],[]) (runK (xX s 47 wl k false) (bodyK s.P Try.f47) xk47_0) ⟨[t0,t1,t2,uu,uu,uu,(V.lit (Value.int .i64 0)),v3,v5,v7,v13,uu,uu,uu,v1,t0,t1,v1,v3,v5,v7,t0,v9,v11,t2,v16,(V.lit (Value.bool true)),uu,uu,uu,uu,uu,uu,uu,uu,uu,uu,uu,uu,uu,uu,uu,uu,uu,uu,uu,uu,uu,uu,uu,uu,uu,uu,uu,uu,uu,uu,uu,uu],h17⟩) (
  bp (opLen s.P 53 v7 h17) fun v18 h19 =>
  bm (vBin s.P .geq 3 t2 v18) h19 fun v20 h21 =>
  opsP (xX s 47 wl k false) xg47_0 7 h15.length ([],[]) (runK (xX s 47 wl k false) (bodyK s.P Try.f47) xk47_0) ⟨[t0,t1,t2,uu,uu,uu,(V.lit (Value.int .i64 0)),v3,v5,v7,v13,uu,uu,uu,v1,t0,t1,v1,v3,v5,v7,t0,v9,v11,t2,v16,(V.lit (Value.bool false)),t2,v7,v18,v20,uu,uu,uu,uu,uu,uu,uu,uu,uu,uu,uu,uu,uu,uu,uu,uu,uu,uu,uu,uu,uu,uu,uu,uu,uu,uu,uu,uu],h21⟩) (
  opsP (xX s 47 wl k false) xg47_0 4 h15.length ([],[]) (runK (xX s 47 wl k false) (bodyK s.P Try.f47) xk47_0) ⟨[t0,t1,t2,uu,uu,uu,(V.lit (Value.int .i64 0)),v3,v5,v7,v13,uu,uu,uu,v1,t0,t1,v1,v3,v5,v7,t0,v9,v11,t2,v16,v16,uu,uu,uu,uu,uu,uu,uu,uu,uu,uu,uu,uu,uu,uu,uu,uu,uu,uu,uu,uu,uu,uu,uu,uu,uu,uu,uu,uu,uu,uu,uu,uu],h17⟩) :=
  bodyV_run rfl (go_seq (go_reg0
  (go_op0 rfl rfl (st_id (v := (V.lit (Value.int .i64 0))) (H := h) (by kernel_rfl)
  (go_end0 (by kernel_rfl)
  (go_seq (go_reg0
  (go_op0 rfl rfl (st_id (v := t0) (H := h) (by kernel_rfl)
  (go_op0 rfl rfl (st_id (v := t1) (H := h) (by kernel_rfl)
  (go_op0 rfl rfl (st_bp (by kernel_rfl) fun v1 h2 =>
  (go_op0 rfl rfl (st_id (v := v1) (H := h2) (by kernel_rfl)
  (go_op0 rfl rfl (st_bm (by kernel_rfl) fun v3 h4 =>
  (go_op0 rfl rfl (st_bm (by kernel_rfl) fun v5 h6 =>
  (go_op0 rfl rfl (st_bm (by kernel_rfl) fun v7 h8 =>
  (go_op0 rfl rfl (st_id (v := v3) (H := h8) (by kernel_rfl)
  (go_op0 rfl rfl (st_id (v := v5) (H := h8) (by kernel_rfl)
  (go_op0 rfl rfl (st_id (v := v7) (H := h8) (by kernel_rfl)
  (go_end0 (by kernel_rfl)
  (go_seq (go_reg0
  (go_op0 rfl rfl (st_id (v := t0) (H := h8) (by kernel_rfl)
  (go_op0 rfl rfl (st_bp (by kernel_rfl) fun v9 h10 =>
  (go_op0 rfl rfl (st_bp (by kernel_rfl) fun v11 h12 =>
  (go_op0 rfl rfl (st_bp (by kernel_rfl) fun v13 h14 =>
  (go_op0 rfl rfl (st_bs (by kernel_rfl) fun h15 =>
  (go_end0 (by kernel_rfl)
  (go_seq (go_seq (go_reg0
  (go_op0 rfl rfl (st_id (v := t2) (H := h15) (by kernel_rfl)
  (go_op0 rfl rfl (st_bm (by kernel_rfl) fun v16 h17 =>
  (go_op0 rfl rfl (st_id (v := v16) (H := h17) (by kernel_rfl)
  (go_gdF0 rfl rfl rfl (by kernel_rfl)
  (go_skip0 rfl rfl rfl (by kernel_rfl)
  (go_skip0 rfl rfl rfl (by kernel_rfl)
  (go_skip0 rfl rfl rfl (by kernel_rfl)
  (by kernel_rfl))))
  (st_id (v := t2) (H := h17) (by kernel_rfl)
  (go_run0 rfl rfl rfl (by kernel_rfl) (st_id (v := v7) (H := h17) (by kernel_rfl)
  (go_run0 rfl rfl rfl (by kernel_rfl) (st_bp (by kernel_rfl) fun v18 h19 =>
  (go_run0 rfl rfl rfl (by kernel_rfl) (st_bm (by kernel_rfl) fun v20 h21 =>
  (by kernel_rfl))))))))
  (by kernel_rfl))))))))))))))))))))))))))))))))))))))))))))))))))))
theorem xe47 (k wl : Nat) (t0 t1 t2 : V) (h : Hp) : evF Try.prog xM (k + 1) wl 47 [t0,t1,t2] h = bodyV (xX (xS k) 47 wl k false) Try.f47 [t0,t1,t2] h := by kernel_rfl
theorem xz47 (P : Program) (t0 t1 t2 t3 t4 t5 t6 t7 t8 t9 t10 t11 t12 t13 t14 t15 t16 t17 t18 t19 t20 t21 t22 t23 t24 t25 t26 t27 t28 t29 t30 t31 t32 t33 t34 t35 t36 t37 t38 t39 t40 t41 t42 t43 t44 t45 t46 t47 t48 t49 t50 t51 t52 t53 t54 t55 t56 t57 t58 : V) (h : Hp) : bodyK P Try.f47 .ret ⟨[t0,t1,t2,t3,t4,t5,t6,t7,t8,t9,t10,t11,t12,t13,t14,t15,t16,t17,t18,t19,t20,t21,t22,t23,t24,t25,t26,t27,t28,t29,t30,t31,t32,t33,t34,t35,t36,t37,t38,t39,t40,t41,t42,t43,t44,t45,t46,t47,t48,t49,t50,t51,t52,t53,t54,t55,t56,t57,t58],h⟩ = some (t6,h) := by kernel_rfl
theorem xm47_0 (s : Sys) (k wl : Nat) (m0 : Nat) (ac : List Nat × List Nat) (t0 t1 t2 t3 t4 t5 t6 t7 t8 t9 t10 t11 t12 t13 t14 t15 t16 t17 t18 t19 t20 t21 t22 t23 t24 t25 t26 t27 t28 t29 t30 t31 t32 t33 t34 t35 t36 t37 t38 t39 t40 t41 t42 t43 t44 t45 t46 t47 t48 t49 t50 t51 t52 t53 t54 t55 t56 t57 t58 : V) (h : Hp) : opsP (xX s 47 wl k false) xg47_0 7 m0 ac (runK (xX s 47 wl k false) (bodyK s.P Try.f47) xk47_0) ⟨[t0,t1,t2,t3,t4,t5,t6,t7,t8,t9,t10,t11,t12,t13,t14,t15,t16,t17,t18,t19,t20,t21,t22,t23,t24,t25,t26,t27,t28,t29,t30,t31,t32,t33,t34,t35,t36,t37,t38,t39,t40,t41,t42,t43,t44,t45,t46,t47,t48,t49,t50,t51,t52,t53,t54,t55,t56,t57,t58],h⟩ =
  bm (vPick t26 (V.lit (Value.bool true)) t30) h fun v22 h23 =>
  cnd v22 (
  some ((V.lit (Value.int .i64 (-1))),h23)) (
  bm (vLoad s.P 23 t10 h23) h23 fun v24 h25 =>
  bp (callV (xX s 47 wl k false) false true (.fn (.func 27) [] []) [v24,t7,t2] h25) fun v26 h27 =>
  cnd v26 (
  bm (vBin s.P .add 3 (V.lit (Value.int .i64 0)) (V.lit (Value.int .i64 1))) h27 fun v28 h29 =>
  runK (xX s 47 wl k false) (bodyK s.P Try.f47) xk47_1 .norm ⟨[t0,t1,t2,t3,t4,t5,t6,t7,t8,t9,t10,v28,t12,t13,t14,t15,t16,t17,t18,t19,t20,t21,t22,t23,t24,t25,t26,t27,t28,t29,t30,v22,v24,t7,t2,v26,(V.lit (Value.int .i64 0)),v28,t38,t39,t40,t41,t42,t43,t44,t45,t46,t47,t48,t49,t50,t51,t52,t53,t54,t55,t56,t57,t58],h29⟩) (
  runK (xX s 47 wl k false) (bodyK s.P Try.f47) xk47_1 .norm ⟨[t0,t1,t2,t3,t4,t5,t6,t7,t8,t9,t10,(V.lit (Value.int .i64 0)),t12,t13,t14,t15,t16,t17,t18,t19,t20,t21,t22,t23,t24,t25,t26,t27,t28,t29,t30,v22,v24,t7,t2,v26,t36,t37,t38,t39,t40,t41,t42,t43,t44,t45,t46,t47,t48,t49,t50,t51,t52,t53,t54,t55,t56,t57,t58],h27⟩)) :=
  (go_op0 rfl rfl (st_bm (by kernel_rfl) fun v22 h23 =>
  (go_end0 (by kernel_rfl)
  (go_cond (by kernel_rfl)
  (go_seq (go_reg0
  (go_op0 rfl rfl (st_id (v := (V.lit (Value.int .i64 (-1)))) (H := h23) (by kernel_rfl)
  (go_end0 (by kernel_rfl)
  (go_ret (rt_seq_ret (by kernel_rfl))))))))
  (go_skip (go_seq (go_reg0
  (go_op0 rfl rfl (st_id (v := (V.lit (Value.int .i64 0))) (H := h23) (by kernel_rfl)
  (go_end0 (by kernel_rfl)
  (go_seq (go_seq (go_reg0
  (go_op0 rfl rfl (st_bm (by kernel_rfl) fun v24 h25 =>
  (go_op0 rfl rfl (st_id (v := t7) (H := h25) (by kernel_rfl)
  (go_op0 rfl rfl (st_id (v := t2) (H := h25) (by kernel_rfl)
  (go_op0 rfl rfl (st_bp (by kernel_rfl) fun v26 h27 =>
  (go_end0 (by kernel_rfl)
  (go_cond (by kernel_rfl)
  (go_reg0
  (go_op0 rfl rfl (st_id (v := (V.lit (Value.int .i64 0))) (H := h27) (by kernel_rfl)
  (go_op0 rfl rfl (st_bm (by kernel_rfl) fun v28 h29 =>
  (go_op0 rfl rfl (st_id (v := v28) (H := h29) (by kernel_rfl)
  (go_end0 (by kernel_rfl)
  (by kernel_rfl)))))))))
  (go_skip (by kernel_rfl)))))))))))))))))))))))))
theorem xj47_1 (s : Sys) (k wl : Nat) (t0 t1 t2 t3 t4 t5 t6 t7 t8 t9 t10 t11 t12 t13 t14 t15 t16 t17 t18 t19 t20 t21 t22 t23 t24 t25 t26 t27 t28 t29 t30 t31 t32 t33 t34 t35 t36 t37 t38 t39 t40 t41 t42 t43 t44 t45 t46 t47 t48 t49 t50 t51 t52 t53 t54 t55 t56 t57 t58 : V) (h : Hp) : runK (xX s 47 wl k false) (bodyK s.P Try.f47) xk47_1 .norm ⟨[t0,t1,t2,t3,t4,t5,t6,t7,t8,t9,t10,t11,t12,t13,t14,t15,t16,t17,t18,t19,t20,t21,t22,t23,t24,t25,t26,t27,t28,t29,t30,t31,t32,t33,t34,t35,t36,t37,t38,t39,t40,t41,t42,t43,t44,t45,t46,t47,t48,t49,t50,t51,t52,t53,t54,t55,t56,t57,t58],h⟩ =
  bp (opLen s.P 53 t9 h) fun v30 h31 =>
  itX (xX s 47 wl k false) xl47_0 h31.length (runK (xX s 47 wl k false) (bodyK s.P Try.f47) xk47_2) k ⟨[(V.kill h31.length t0),(V.kill h31.length t1),(V.kill h31.length t2),(V.kill h31.length t3),(V.kill h31.length t4),(V.kill h31.length t5),(V.kill h31.length t6),(V.kill h31.length t7),(V.kill h31.length t8),(V.kill h31.length t9),(V.kill h31.length t10),(V.kill h31.length t11),(V.kill h31.length t12),(V.kill h31.length t13),(V.kill h31.length t14),(V.kill h31.length t15),(V.kill h31.length t16),(V.kill h31.length t17),(V.kill h31.length t18),(V.kill h31.length t19),(V.kill h31.length t20),(V.kill h31.length t21),(V.kill h31.length t22),(V.kill h31.length t23),(V.kill h31.length t24),(V.kill h31.length t25),(V.kill h31.length t26),(V.kill h31.length t27),(V.kill h31.length t28),(V.kill h31.length t29),(V.kill h31.length t30),(V.kill h31.length t31),(V.kill h31.length t32),(V.kill h31.length t33),(V.kill h31.length t34),(V.kill h31.length t35),(V.kill h31.length t36),(V.kill h31.length t37),(V.kill h31.length t9),(V.kill h31.length v30),(V.lit (Value.int .i64 0)),.junk,.junk,.junk,.junk,.junk,.junk,.junk,.junk,.junk,(V.kill h31.length t50),(V.kill h31.length t51),(V.kill h31.length t52),(V.kill h31.length t53),(V.kill h31.length t54),(V.kill h31.length t55),(V.kill h31.length t56),(V.kill h31.length t57),(V.kill h31.length t58)],cutH h31.length h31⟩ :=
  (go_seq (go_seq (go_reg0
  (go_op0 rfl rfl (st_id (v := t9) (H := h) (by kernel_rfl)
  (go_op0 rfl rfl (st_bp (by kernel_rfl) fun v30 h31 =>
  (go_op0 rfl rfl (st_id (v := (V.lit (Value.int .i64 0))) (H := h31) (by kernel_rfl)
  (go_end0 (by kernel_rfl)
  (go_block (by kernel_rfl))))))))))))
theorem xr47_0 (s : Sys) (K : Out → St → Option (V × Hp)) (k wl : Nat) (rd : Bool) (n n0 : Nat) (t0 t1 t2 t3 t4 t5 t6 t7 t8 t9 t10 t11 t12 t13 t14 t15 t16 t17 t18 t19 t20 t21 t22 t23 t24 t25 t26 t27 t28 t29 t30 t31 t32 t33 t34 t35 t36 t37 t38 t39 t40 t41 t42 t43 t44 t45 t46 t47 t48 t49 t50 t51 t52 t53 t54 t55 t56 t57 t58 : V) (h : Hp) : itX (xX s 47 wl k rd) xl47_0 n0 K (n + 1) ⟨[t0,t1,t2,t3,t4,t5,t6,t7,t8,t9,t10,t11,t12,t13,t14,t15,t16,t17,t18,t19,t20,t21,t22,t23,t24,t25,t26,t27,t28,t29,t30,t31,t32,t33,t34,t35,t36,t37,t38,t39,t40,t41,t42,t43,t44,t45,t46,t47,t48,t49,t50,t51,t52,t53,t54,t55,t56,t57,t58],h⟩ =
  bm (vBin s.P .lss 3 t40 t39) h fun v32 h33 =>
  cnd v32 (
  bm (vIndexAddr s.P 53 t38 t40 h33) h33 fun v34 h35 =>
  bm (vLoad s.P 28 v34 h35) h35 fun v36 h37 =>
  bp (opAlloc s.P 28 h37) fun v38 h39 =>
  bs (vStore s.P wl 28 v38 v36 h39) fun h40 =>
  bm (vLoad s.P 28 v38 h40) h40 fun v41 h42 =>
  bp (callV (xX s 47 wl k rd) false true (.fn (.func 39) [] []) [v41,t2] h42) fun v43 h44 =>
  cnd v43 (
  bm (vBin s.P .add 3 t11 (V.lit (Value.int .i64 1))) h44 fun v45 h46 =>
  bm (vBin s.P .add 3 t40 (V.lit (Value.int .i64 1))) h46 fun v47 h48 =>
  itX (xX s 47 wl k rd) xl47_0 n0 K n ⟨[(V.kill n0 t0),(V.kill n0 t1),(V.kill n0 t2),(V.kill n0 t3),(V.kill n0 t4),(V.kill n0 t5),(V.kill n0 t6),(V.kill n0 t7),(V.kill n0 t8),(V.kill n0 t9),(V.kill n0 t10),(V.kill n0 v45),(V.kill n0 t12),(V.kill n0 v38),(V.kill n0 t14),(V.kill n0 t15),(V.kill n0 t16),(V.kill n0 t17),(V.kill n0 t18),(V.kill n0 t19),(V.kill n0 t20),(V.kill n0 t21),(V.kill n0 t22),(V.kill n0 t23),(V.kill n0 t24),(V.kill n0 t25),(V.kill n0 t26),(V.kill n0 t27),(V.kill n0 t28),(V.kill n0 t29),(V.kill n0 t30),(V.kill n0 t31),(V.kill n0 t32),(V.kill n0 t33),(V.kill n0 t34),(V.kill n0 t35),(V.kill n0 t36),(V.kill n0 t37),(V.kill n0 t38),(V.kill n0 t39),(V.kill n0 v47),.junk,.junk,.junk,.junk,.junk,.junk,.junk,.junk,.junk,(V.kill n0 t50),(V.kill n0 t51),(V.kill n0 t52),(V.kill n0 t53),(V.kill n0 t54),(V.kill n0 t55),(V.kill n0 t56),(V.kill n0 t57),(V.kill n0 t58)],cutH n0 h48⟩) (
  bm (vBin s.P .add 3 t40 (V.lit (Value.int .i64 1))) h44 fun v49 h50 =>
  itX (xX s 47 wl k rd) xl47_0 n0 K n ⟨[(V.kill n0 t0),(V.kill n0 t1),(V.kill n0 t2),(V.kill n0 t3),(V.kill n0 t4),(V.kill n0 t5),(V.kill n0 t6),(V.kill n0 t7),(V.kill n0 t8),(V.kill n0 t9),(V.kill n0 t10),(V.kill n0 t11),(V.kill n0 t12),(V.kill n0 v38),(V.kill n0 t14),(V.kill n0 t15),(V.kill n0 t16),(V.kill n0 t17),(V.kill n0 t18),(V.kill n0 t19),(V.kill n0 t20),(V.kill n0 t21),(V.kill n0 t22),(V.kill n0 t23),(V.kill n0 t24),(V.kill n0 t25),(V.kill n0 t26),(V.kill n0 t27),(V.kill n0 t28),(V.kill n0 t29),(V.kill n0 t30),(V.kill n0 t31),(V.kill n0 t32),(V.kill n0 t33),(V.kill n0 t34),(V.kill n0 t35),(V.kill n0 t36),(V.kill n0 t37),(V.kill n0 t38),(V.kill n0 t39),(V.kill n0 v49),.junk,.junk,.junk,.junk,.junk,.junk,.junk,.junk,.junk,(V.kill n0 t50),(V.kill n0 t51),(V.kill n0 t52),(V.kill n0 t53),(V.kill n0 t54),(V.kill n0 t55),(V.kill n0 t56),(V.kill n0 t57),(V.kill n0 t58)],cutH n0 h50⟩)) (
  K (.exit 0) ⟨[(V.kill n0 t0),(V.kill n0 t1),(V.kill n0 t2),(V.kill n0 t3),(V.kill n0 t4),(V.kill n0 t5),(V.kill n0 t6),(V.kill n0 t7),(V.kill n0 t8),(V.kill n0 t9),(V.kill n0 t10),(V.kill n0 t11),(V.kill n0 t12),(V.kill n0 t13),(V.kill n0 t14),(V.kill n0 t15),(V.kill n0 t16),(V.kill n0 t17),(V.kill n0 t18),(V.kill n0 t19),(V.kill n0 t20),(V.kill n0 t21),(V.kill n0 t22),(V.kill n0 t23),(V.kill n0 t24),(V.kill n0 t25),(V.kill n0 t26),(V.kill n0 t27),(V.kill n0 t28),(V.kill n0 t29),(V.kill n0 t30),(V.kill n0 t31),(V.kill n0 t32),(V.kill n0 t33),(V.kill n0 t34),(V.kill n0 t35),(V.kill n0 t36),(V.kill n0 t37),(V.kill n0 t38),(V.kill n0 t39),.junk,.junk,.junk,.junk,.junk,.junk,.junk,.junk,.junk,.junk,(V.kill n0 t50),(V.kill n0 t51),(V.kill n0 t52),(V.kill n0 t53),(V.kill n0 t54),(V.kill n0 t55),(V.kill n0 t56),(V.kill n0 t57),(V.kill n0 t58)],cutH n0 h33⟩) :=
  itX_step (go_seq (go_reg0
  (go_op0 rfl rfl (st_bm (by kernel_rfl) fun v32 h33 =>
  (go_end0 (by kernel_rfl)
  (go_seq (go_cond (by kernel_rfl)
  (go_skip (go_seq (go_block (go_seq (go_reg0
  (go_op0 rfl rfl (st_bm (by kernel_rfl) fun v34 h35 =>
  (go_op0 rfl rfl (st_bm (by kernel_rfl) fun v36 h37 =>
  (go_op0 rfl rfl (st_bp (by kernel_rfl) fun v38 h39 =>
  (go_op0 rfl rfl (st_bs (by kernel_rfl) fun h40 =>
  (go_end0 (by kernel_rfl)
  (go_seq (go_reg0
  (go_op0 rfl rfl (st_bm (by kernel_rfl) fun v41 h42 =>
  (go_op0 rfl rfl (st_id (v := t2) (H := h42) (by kernel_rfl)
  (go_op0 rfl rfl (st_bp (by kernel_rfl) fun v43 h44 =>
  (go_end0 (by kernel_rfl)
  (go_cond (by kernel_rfl)
  (go_reg0
  (go_op0 rfl rfl (st_id (v := t11) (H := h44) (by kernel_rfl)
  (go_op0 rfl rfl (st_bm (by kernel_rfl) fun v45 h46 =>
  (go_op0 rfl rfl (st_id (v := v45) (H := h46) (by kernel_rfl)
  (go_end0 (by kernel_rfl)
  (rt_block_norm (go_reg0
  (go_op0 rfl rfl (st_bm (by kernel_rfl) fun v47 h48 =>
  (go_op0 rfl rfl (st_id (v := v47) (H := h48) (by kernel_rfl)
  (go_end0 (by kernel_rfl)
  (by kernel_rfl))))))))))))))))
  (go_skip (rt_block_norm (go_reg0
  (go_op0 rfl rfl (st_bm (by kernel_rfl) fun v49 h50 =>
  (go_op0 rfl rfl (st_id (v := v49) (H := h50) (by kernel_rfl)
  (go_end0 (by kernel_rfl)
  (by kernel_rfl)))))))))))))))))))))))))))))))))
  (go_exit (rt_seq_exit (by kernel_rfl))))))))))
theorem xj47_2 (s : Sys) (k wl : Nat) (t0 t1 t2 t3 t4 t5 t6 t7 t8 t9 t10 t11 t12 t13 t14 t15 t16 t17 t18 t19 t20 t21 t22 t23 t24 t25 t26 t27 t28 t29 t30 t31 t32 t33 t34 t35 t36 t37 t38 t39 t40 t41 t42 t43 t44 t45 t46 t47 t48 t49 t50 t51 t52 t53 t54 t55 t56 t57 t58 : V) (h : Hp) : runK (xX s 47 wl k false) (bodyK s.P Try.f47) xk47_2 (.exit 0) ⟨[t0,t1,t2,t3,t4,t5,t6,t7,t8,t9,t10,t11,t12,t13,t14,t15,t16,t17,t18,t19,t20,t21,t22,t23,t24,t25,t26,t27,t28,t29,t30,t31,t32,t33,t34,t35,t36,t37,t38,t39,t40,t41,t42,t43,t44,t45,t46,t47,t48,t49,t50,t51,t52,t53,t54,t55,t56,t57,t58],h⟩ =
  bm (vLoad s.P 23 t10 h) h fun v51 h52 =>
  bp (callV (xX s 47 wl k false) false true (.fn (.func 30) [] []) [v51,t2] h52) fun v53 h54 =>
  bp (callV (xX s 47 wl k false) false true (.fn (.func 34) [] []) [t7,v53] h54) fun v55 h56 =>
  bm (vBin s.P .neq 26 v55 (V.lit (Value.int .u64 0))) h56 fun v57 h58 =>
  cnd v57 (
  bm (vBin s.P .add 3 t11 (V.lit (Value.int .i64 1))) h58 fun v59 h60 =>
  runK (xX s 47 wl k false) (bodyK s.P Try.f47) xk47_3 .norm ⟨[t0,t1,t2,t3,t4,t5,t6,t7,t8,t9,t10,v59,t12,t13,t14,t15,t16,t17,t18,t19,t20,t21,t22,t23,t24,t25,t26,t27,t28,t29,t30,t31,t32,t33,t34,t35,t36,t37,t38,t39,t40,t41,t42,t43,t44,t45,t46,t47,t48,t49,t7,v51,t2,v53,v55,v57,t11,v59,t58],h60⟩) (
  runK (xX s 47 wl k false) (bodyK s.P Try.f47) xk47_3 .norm ⟨[t0,t1,t2,t3,t4,t5,t6,t7,t8,t9,t10,t11,t12,t13,t14,t15,t16,t17,t18,t19,t20,t21,t22,t23,t24,t25,t26,t27,t28,t29,t30,t31,t32,t33,t34,t35,t36,t37,t38,t39,t40,t41,t42,t43,t44,t45,t46,t47,t48,t49,t7,v51,t2,v53,v55,v57,t56,t57,t58],h58⟩) :=
  (rt_block_eq (go_seq (go_seq (go_reg0
  (go_op0 rfl rfl (st_id (v := t7) (H := h) (by kernel_rfl)
  (go_op0 rfl rfl (st_bm (by kernel_rfl) fun v51 h52 =>
  (go_op0 rfl rfl (st_id (v := t2) (H := h52) (by kernel_rfl)
  (go_op0 rfl rfl (st_bp (by kernel_rfl) fun v53 h54 =>
  (go_op0 rfl rfl (st_bp (by kernel_rfl) fun v55 h56 =>
  (go_op0 rfl rfl (st_bm (by kernel_rfl) fun v57 h58 =>
  (go_end0 (by kernel_rfl)
  (go_cond (by kernel_rfl)
  (go_reg0
  (go_op0 rfl rfl (st_id (v := t11) (H := h58) (by kernel_rfl)
  (go_op0 rfl rfl (st_bm (by kernel_rfl) fun v59 h60 =>
  (go_op0 rfl rfl (st_id (v := v59) (H := h60) (by kernel_rfl)
  (go_end0 (by kernel_rfl)
  (by kernel_rfl)))))))))
  (go_skip (by kernel_rfl))))))))))))))))))))
theorem xj47_3 (s : Sys) (k wl : Nat) (t0 t1 t2 t3 t4 t5 t6 t7 t8 t9 t10 t11 t12 t13 t14 t15 t16 t17 t18 t19 t20 t21 t22 t23 t24 t25 t26 t27 t28 t29 t30 t31 t32 t33 t34 t35 t36 t37 t38 t39 t40 t41 t42 t43 t44 t45 t46 t47 t48 t49 t50 t51 t52 t53 t54 t55 t56 t57 t58 : V) (h : Hp) : runK (xX s 47 wl k false) (bodyK s.P Try.f47) xk47_3 .norm ⟨[t0,t1,t2,t3,t4,t5,t6,t7,t8,t9,t10,t11,t12,t13,t14,t15,t16,t17,t18,t19,t20,t21,t22,t23,t24,t25,t26,t27,t28,t29,t30,t31,t32,t33,t34,t35,t36,t37,t38,t39,t40,t41,t42,t43,t44,t45,t46,t47,t48,t49,t50,t51,t52,t53,t54,t55,t56,t57,t58],h⟩ =
  some (t11,h) :=
  (go_seq (go_reg0
  (go_op0 rfl rfl (st_id (v := t11) (H := h) (by kernel_rfl)
  (go_op0 rfl rfl (st_id (v := t11) (H := h) (by kernel_rfl)
  (go_end0 (by kernel_rfl)
  (go_ret (by kernel_rfl)))))))))
theorem xk47_0_ret (cx : Cx) (K : Out → St → Option (V × Hp)) (s : St) : runK cx K xk47_0 .ret s = K .ret s := by kernel_rfl
theorem xk47_1_ret (cx : Cx) (K : Out → St → Option (V × Hp)) (s : St) : runK cx K xk47_1 .ret s = K .ret s := by kernel_rfl
theorem xk47_2_ret (cx : Cx) (K : Out → St → Option (V × Hp)) (s : St) : runK cx K xk47_2 .ret s = K .ret s := by kernel_rfl
theorem xk47_3_ret (cx : Cx) (K : Out → St → Option (V × Hp)) (s : St) : runK cx K xk47_3 .ret s = K .ret s := by kernel_rfl
-- names: xb47,xz47,xm47_0,xj47_1,xr47_0,xj47_2,xj47_3,xk47_0_ret,xk47_1_ret,xk47_2_ret,xk47_3_ret
noncomputable def xg85_0 : Code := codeAt (bodyOf Try.f85) [1,0]
noncomputable def xk85_0 : List Fr := [.seq (codeAt (bodyOf Try.f85) [1,1])]
theorem xb85 (s : Sys) (k wl : Nat) (t0 : V) (h : Hp) : bodyV (xX s 85 wl k false) Try.f85 [t0] h =
  bm (vBin s.P .eql 3 t0 (V.lit (Value.int .i64 5))) h fun v1 h2 =>
  gd v1 (
  opsP (xX s 85 wl k false) xg85_0 5 h.length ([],[]) (runK (xX s 85 wl k false) (bodyK s.P Try.f85) xk85_0) ⟨[t0,uu,(V.lit (Value.bool false)),t0,v1,(V.lit (Value.bool true)),uu,uu,uu,uu,uu,uu,uu],h2⟩) (
  bm (vBin s.P .eql 3 t0 (V.lit (Value.int .i64 6))) h2 fun v3 h4 =>
  opsP (xX s 85 wl k false) xg85_0 5 h.length ([],[]) (runK (xX s 85 wl k false) (bodyK s.P Try.f85) xk85_0) ⟨[t0,uu,(V.lit (Value.bool false)),t0,v1,(V.lit (Value.bool false)),t0,v3,uu,uu,uu,uu,uu],h4⟩) (
  opsP (xX s 85 wl k false) xg85_0 4 h.length ([],[]) (runK (xX s 85 wl k false) (bodyK s.P Try.f85) xk85_0) ⟨[t0,uu,(V.lit (Value.bool false)),t0,v1,v1,uu,uu,uu,uu,uu,uu,uu],h2⟩) :=
  bodyV_run rfl (go_seq (go_reg0
  (go_op0 rfl rfl (st_id (v := (V.lit (Value.bool false))) (H := h) (by kernel_rfl)
  (go_end0 (by kernel_rfl)
  (go_seq (go_reg0
  (go_op0 rfl rfl (st_id (v := t0) (H := h) (by kernel_rfl)
  (go_op0 rfl rfl (st_bm (by kernel_rfl) fun v1 h2 =>
  (go_op0 rfl rfl (st_id (v := v1) (H := h2) (by kernel_rfl)
  (go_gdF0 rfl rfl rfl (by kernel_rfl)
  (go_skip0 rfl rfl rfl (by kernel_rfl)
  (by kernel_rfl))
  (st_id (v := t0) (H := h2) (by kernel_rfl)
  (go_run0 rfl rfl rfl (by kernel_rfl) (st_bm (by kernel_rfl) fun v3 h4 =>
  (by kernel_rfl))))
  (by kernel_rfl)))))))))))))))
theorem xe85 (k wl : Nat) (t0 : V) (h : Hp) : evF Try.prog xM (k + 1) wl 85 [t0] h = bodyV (xX (xS k) 85 wl k false) Try.f85 [t0] h := by kernel_rfl
theorem xm85_0 (s : Sys) (k wl : Nat) (m0 : Nat) (ac : List Nat × List Nat) (t0 t1 t2 t3 t4 t5 t6 t7 t8 t9 t10 t11 t12 : V) (h : Hp) : opsP (xX s 85 wl k false) xg85_0 5 m0 ac (runK (xX s 85 wl k false) (bodyK s.P Try.f85) xk85_0) ⟨[t0,t1,t2,t3,t4,t5,t6,t7,t8,t9,t10,t11,t12],h⟩ =
  bm (vPick t5 (V.lit (Value.bool true)) t7) h fun v5 h6 =>
  gd v5 (
  opsP (xX s 85 wl k false) xg85_0 9 m0 ac (runK (xX s 85 wl k false) (bodyK s.P Try.f85) xk85_0) ⟨[t0,t1,t2,t3,t4,t5,t6,t7,v5,(V.lit (Value.bool true)),uu,uu,t12],h6⟩) (
  bm (vBin s.P .eql 3 t0 (V.lit (Value.int .i64 7))) h6 fun v7 h8 =>
  opsP (xX s 85 wl k false) xg85_0 9 m0 ac (runK (xX s 85 wl k false) (bodyK s.P Try.f85) xk85_0) ⟨[t0,t1,t2,t3,t4,t5,t6,t7,v5,(V.lit (Value.bool false)),t0,v7,t12],h8⟩) (
  opsP (xX s 85 wl k false) xg85_0 8 m0 ac (runK (xX s 85 wl k false) (bodyK s.P Try.f85) xk85_0) ⟨[t0,t1,t2,t3,t4,t5,t6,t7,v5,v5,uu,t11,t12],h6⟩) :=
  (go_op0 rfl rfl (st_bm (by kernel_rfl) fun v5 h6 =>
  (go_op0 rfl rfl (st_id (v := v5) (H := h6) (by kernel_rfl)
  (go_gdF0 rfl rfl rfl (by kernel_rfl)
  (go_skip0 rfl rfl rfl (by kernel_rfl)
  (by kernel_rfl))
  (st_id (v := t0) (H := h6) (by kernel_rfl)
  (go_run0 rfl rfl rfl (by kernel_rfl) (st_bm (by kernel_rfl) fun v7 h8 =>
  (by kernel_rfl))))
  (by kernel_rfl))))))
theorem xm85_1 (s : Sys) (k wl : Nat) (m0 : Nat) (ac : List Nat × List Nat) (t0 t1 t2 t3 t4 t5 t6 t7 t8 t9 t10 t11 t12 : V) (h : Hp) : opsP (xX s 85 wl k false) xg85_0 9 m0 ac (runK (xX s 85 wl k false) (bodyK s.P Try.f85) xk85_0) ⟨[t0,t1,t2,t3,t4,t5,t6,t7,t8,t9,t10,t11,t12],h⟩ =
  bm (vPick t9 (V.lit (Value.bool true)) t11) h fun v9 h10 =>
  some (v9,h10) :=
  (go_op0 rfl rfl (st_bm (by kernel_rfl) fun v9 h10 =>
  (go_op0 rfl rfl (st_id (v := v9) (H := h10) (by kernel_rfl)
  (go_end0 (by kernel_rfl)
  (go_ret (by kernel_rfl)))))))
theorem xk85_0_ret (cx : Cx) (K : Out → St → Option (V × Hp)) (s : St) : runK cx K xk85_0 .ret s = K .ret s := by kernel_rfl
-- names: xb85,xm85_0,xm85_1,xk85_0_ret
end Go.Ab
