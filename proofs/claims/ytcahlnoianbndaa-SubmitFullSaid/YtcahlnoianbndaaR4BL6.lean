/- The program's code,point by point: printed by gen.py. -/
import Derived.Test.YtcahlnoianbndaaR4Seat
set_option linter.unusedVariables false
set_option linter.unusedSimpArgs false
set_option maxRecDepth 100000
set_option linter.unusedVariables false
namespace Go.Ab
open Go.Proofs
noncomputable def xg6_0 : Code := codeAt (bodyOf Try.f6) [1,1,1,0,0]
noncomputable def xk6_0 : List Fr := [.seq (codeAt (bodyOf Try.f6) [1,1,1,0,1]),.seq (codeAt (bodyOf Try.f6) [1,1,1,1])]
noncomputable def xg6_1 : Code := codeAt (bodyOf Try.f6) [1,1,1,1,1,1,0]
noncomputable def xk6_1 : List Fr := [.seq (codeAt (bodyOf Try.f6) [1,1,1,1,1,1,1])]
noncomputable def xg6_2 : Code := codeAt (bodyOf Try.f6) [1,1,1,1,1,1,1,0]
noncomputable def xk6_2 : List Fr := [.seq (codeAt (bodyOf Try.f6) [1,1,1,1,1,1,1,1])]
theorem xo6_8 : orderIx (opsOf xg6_2) = [0,1,2,3,4,5,6,7,8,9,10,11,12,13,14,15,16,17,18,19,20,21,22,23,24,25,26,27,28,29,30,31,32,33,34,35,36,37,38,39,40,41,42,43,44,45,46] := by kernel_rfl
theorem xo6_8a : (rgOf (opsOf xg6_2)).any = false := by kernel_rfl
theorem xo6_8r : regOk (opsOf xg6_2) = true := by kernel_rfl
theorem xb6 (s : Sys) (k wl : Nat) (t0 t1 t2 t3 t4 : V) (h : Hp) : bodyV (xX s 6 wl k false) Try.f6 [t0,t1,t2,t3,t4] h =
  bp (opBox t0 h) fun v1 h2 =>
  bp (opBox t4 h2) fun v3 h4 =>
  bp (callV (xX s 6 wl k false) false true (.fn (.func 8) [] []) [] h4) fun v5 h6 =>
  bp (callV (xX s 6 wl k false) false true (.fn (.func 9) [] []) [t1] h6) fun v7 h8 =>
  bm (vUn .not v5) h8 fun v9 h10 =>
  gd v9 (
  opsP (xX s 6 wl k false) xg6_0 5 h8.length ([],[]) (runK (xX s 6 wl k false) (bodyK s.P Try.f6) xk6_0) ⟨(t0::t1::t2::t3::t4::v1::uu::uu::uu::v3::(V.lit (Value.bool false))::v5::v7::uu::uu::uu::uu::uu::v5::t1::v7::v5::v9::(V.lit (Value.bool true))::uu::uu::uu::uu::uu::uu::uu::uu::uu::uu::uu::uu::uu::uu::uu::uu::uu::uu::uu::uu::uu::uu::uu::uu::uu::uu::uu::uu::uu::uu::uu::uu::uu::uu::uu::uu::uu::uu::uu::uu::uu::uu::uu::uu::uu::uu::uu::uu::uu::uu::uu::uu::uu::uu::uu::uu::uu::uu::uu::uu::uu::uu::uu::uu::uu::uu::uu::uu::uu::uu::uu::uu::uu::uu::uu::uu::uu::uu::uu::uu::uu::uu::uu::uu::uu::uu::uu::uu::uu::uu::uu::uu::uu::uu::uu::uu::uu::uu::uu::uu::uu::uu::uu::uu::uu::uu::uu::uu::uu::uu::[]),h10⟩) (
  bm (vUn .not v7) h10 fun v11 h12 =>
  opsP (xX s 6 wl k false) xg6_0 5 h8.length ([],[]) (runK (xX s 6 wl k false) (bodyK s.P Try.f6) xk6_0) ⟨(t0::t1::t2::t3::t4::v1::uu::uu::uu::v3::(V.lit (Value.bool false))::v5::v7::uu::uu::uu::uu::uu::v5::t1::v7::v5::v9::(V.lit (Value.bool false))::v7::v11::uu::uu::uu::uu::uu::uu::uu::uu::uu::uu::uu::uu::uu::uu::uu::uu::uu::uu::uu::uu::uu::uu::uu::uu::uu::uu::uu::uu::uu::uu::uu::uu::uu::uu::uu::uu::uu::uu::uu::uu::uu::uu::uu::uu::uu::uu::uu::uu::uu::uu::uu::uu::uu::uu::uu::uu::uu::uu::uu::uu::uu::uu::uu::uu::uu::uu::uu::uu::uu::uu::uu::uu::uu::uu::uu::uu::uu::uu::uu::uu::uu::uu::uu::uu::uu::uu::uu::uu::uu::uu::uu::uu::uu::uu::uu::uu::uu::uu::uu::uu::uu::uu::uu::uu::uu::uu::uu::uu::[]),h12⟩) (
  opsP (xX s 6 wl k false) xg6_0 4 h8.length ([],[]) (runK (xX s 6 wl k false) (bodyK s.P Try.f6) xk6_0) ⟨(t0::t1::t2::t3::t4::v1::uu::uu::uu::v3::(V.lit (Value.bool false))::v5::v7::uu::uu::uu::uu::uu::v5::t1::v7::v5::v9::v9::uu::uu::uu::uu::uu::uu::uu::uu::uu::uu::uu::uu::uu::uu::uu::uu::uu::uu::uu::uu::uu::uu::uu::uu::uu::uu::uu::uu::uu::uu::uu::uu::uu::uu::uu::uu::uu::uu::uu::uu::uu::uu::uu::uu::uu::uu::uu::uu::uu::uu::uu::uu::uu::uu::uu::uu::uu::uu::uu::uu::uu::uu::uu::uu::uu::uu::uu::uu::uu::uu::uu::uu::uu::uu::uu::uu::uu::uu::uu::uu::uu::uu::uu::uu::uu::uu::uu::uu::uu::uu::uu::uu::uu::uu::uu::uu::uu::uu::uu::uu::uu::uu::uu::uu::uu::uu::uu::uu::uu::uu::[]),h10⟩) :=
  bodyV_run rfl (go_seq (go_reg0
  (go_op0 rfl rfl (st_bp (by kernel_rfl) fun v1 h2 =>
  (go_op0 rfl rfl (st_bp (by kernel_rfl) fun v3 h4 =>
  (go_op0 rfl rfl (st_id (v := (V.lit (Value.bool false))) (H := h4) (by kernel_rfl)
  (go_end0 (by kernel_rfl)
  (go_seq (go_reg0
  (go_op0 rfl rfl (st_bp (by kernel_rfl) fun v5 h6 =>
  (go_op0 rfl rfl (st_id (v := v5) (H := h6) (by kernel_rfl)
  (go_end0 (by kernel_rfl)
  (go_seq (go_reg0
  (go_op0 rfl rfl (st_id (v := t1) (H := h6) (by kernel_rfl)
  (go_op0 rfl rfl (st_bp (by kernel_rfl) fun v7 h8 =>
  (go_op0 rfl rfl (st_id (v := v7) (H := h8) (by kernel_rfl)
  (go_end0 (by kernel_rfl)
  (go_seq (go_seq (go_reg0
  (go_op0 rfl rfl (st_id (v := v5) (H := h8) (by kernel_rfl)
  (go_op0 rfl rfl (st_bm (by kernel_rfl) fun v9 h10 =>
  (go_op0 rfl rfl (st_id (v := v9) (H := h10) (by kernel_rfl)
  (go_gdF0 rfl rfl rfl (by kernel_rfl)
  (go_skip0 rfl rfl rfl (by kernel_rfl)
  (by kernel_rfl))
  (st_id (v := v7) (H := h10) (by kernel_rfl)
  (go_run0 rfl rfl rfl (by kernel_rfl) (st_bm (by kernel_rfl) fun v11 h12 =>
  (by kernel_rfl))))
  (by kernel_rfl))))))))))))))))))))))))))))))))))))
theorem xe6 (k wl : Nat) (t0 t1 t2 t3 t4 : V) (h : Hp) : evF Try.prog xM (k + 1) wl 6 [t0,t1,t2,t3,t4] h = bodyV (xX (xS k) 6 wl k false) Try.f6 [t0,t1,t2,t3,t4] h := by kernel_rfl
theorem xm6_0 (s : Sys) (k wl : Nat) (m0 : Nat) (ac : List Nat × List Nat) (t0 t1 t2 t3 t4 t5 t6 t7 t8 t9 t10 t11 t12 t13 t14 t15 t16 t17 t18 t19 t20 t21 t22 t23 t24 t25 t26 t27 t28 t29 t30 t31 t32 t33 t34 t35 t36 t37 t38 t39 t40 t41 t42 t43 t44 t45 t46 t47 t48 t49 t50 t51 t52 t53 t54 t55 t56 t57 t58 t59 t60 t61 t62 t63 t64 t65 t66 t67 t68 t69 t70 t71 t72 t73 t74 t75 t76 t77 t78 t79 t80 t81 t82 t83 t84 t85 t86 t87 t88 t89 t90 t91 t92 t93 t94 t95 t96 t97 t98 t99 t100 t101 t102 t103 t104 t105 t106 t107 t108 t109 t110 t111 t112 t113 t114 t115 t116 t117 t118 t119 t120 t121 t122 t123 t124 t125 t126 t127 t128 t129 t130 t131 t132 t133 : V) (h : Hp) : opsP (xX s 6 wl k false) xg6_0 5 m0 ac (runK (xX s 6 wl k false) (bodyK s.P Try.f6) xk6_0) ⟨(t0::t1::t2::t3::t4::t5::t6::t7::t8::t9::t10::t11::t12::t13::t14::t15::t16::t17::t18::t19::t20::t21::t22::t23::t24::t25::t26::t27::t28::t29::t30::t31::t32::t33::t34::t35::t36::t37::t38::t39::t40::t41::t42::t43::t44::t45::t46::t47::t48::t49::t50::t51::t52::t53::t54::t55::t56::t57::t58::t59::t60::t61::t62::t63::t64::t65::t66::t67::t68::t69::t70::t71::t72::t73::t74::t75::t76::t77::t78::t79::t80::t81::t82::t83::t84::t85::t86::t87::t88::t89::t90::t91::t92::t93::t94::t95::t96::t97::t98::t99::t100::t101::t102::t103::t104::t105::t106::t107::t108::t109::t110::t111::t112::t113::t114::t115::t116::t117::t118::t119::t120::t121::t122::t123::t124::t125::t126::t127::t128::t129::t130::t131::t132::t133::[]),h⟩ =
  bm (vPick t23 (V.lit (Value.bool true)) t25) h fun v13 h14 =>
  gd v13 (
  opsP (xX s 6 wl k false) xg6_0 10 m0 ac (runK (xX s 6 wl k false) (bodyK s.P Try.f6) xk6_0) ⟨(t0::t1::t2::t3::t4::t5::t6::t7::t8::t9::t10::t11::t12::t13::t14::t15::t16::t17::t18::t19::t20::t21::t22::t23::t24::t25::v13::(V.lit (Value.bool true))::uu::uu::uu::t31::t32::t33::t34::t35::t36::t37::t38::t39::t40::t41::t42::t43::t44::t45::t46::t47::t48::t49::t50::t51::t52::t53::t54::t55::t56::t57::t58::t59::t60::t61::t62::t63::t64::t65::t66::t67::t68::t69::t70::t71::t72::t73::t74::t75::t76::t77::t78::t79::t80::t81::t82::t83::t84::t85::t86::t87::t88::t89::t90::t91::t92::t93::t94::t95::t96::t97::t98::t99::t100::t101::t102::t103::t104::t105::t106::t107::t108::t109::t110::t111::t112::t113::t114::t115::t116::t117::t118::t119::t120::t121::t122::t123::t124::t125::t126::t127::t128::t129::t130::t131::t132::t133::[]),h14⟩) (
  bp (opLen s.P 26 t2 h14) fun v15 h16 =>
  bm (vBin s.P .gtr 3 v15 (V.lit (Value.int .i64 500))) h16 fun v17 h18 =>
  opsP (xX s 6 wl k false) xg6_0 10 m0 ac (runK (xX s 6 wl k false) (bodyK s.P Try.f6) xk6_0) ⟨(t0::t1::t2::t3::t4::t5::t6::t7::t8::t9::t10::t11::t12::t13::t14::t15::t16::t17::t18::t19::t20::t21::t22::t23::t24::t25::v13::(V.lit (Value.bool false))::t2::v15::v17::t31::t32::t33::t34::t35::t36::t37::t38::t39::t40::t41::t42::t43::t44::t45::t46::t47::t48::t49::t50::t51::t52::t53::t54::t55::t56::t57::t58::t59::t60::t61::t62::t63::t64::t65::t66::t67::t68::t69::t70::t71::t72::t73::t74::t75::t76::t77::t78::t79::t80::t81::t82::t83::t84::t85::t86::t87::t88::t89::t90::t91::t92::t93::t94::t95::t96::t97::t98::t99::t100::t101::t102::t103::t104::t105::t106::t107::t108::t109::t110::t111::t112::t113::t114::t115::t116::t117::t118::t119::t120::t121::t122::t123::t124::t125::t126::t127::t128::t129::t130::t131::t132::t133::[]),h18⟩) (
  opsP (xX s 6 wl k false) xg6_0 8 m0 ac (runK (xX s 6 wl k false) (bodyK s.P Try.f6) xk6_0) ⟨(t0::t1::t2::t3::t4::t5::t6::t7::t8::t9::t10::t11::t12::t13::t14::t15::t16::t17::t18::t19::t20::t21::t22::t23::t24::t25::v13::v13::uu::t29::t30::t31::t32::t33::t34::t35::t36::t37::t38::t39::t40::t41::t42::t43::t44::t45::t46::t47::t48::t49::t50::t51::t52::t53::t54::t55::t56::t57::t58::t59::t60::t61::t62::t63::t64::t65::t66::t67::t68::t69::t70::t71::t72::t73::t74::t75::t76::t77::t78::t79::t80::t81::t82::t83::t84::t85::t86::t87::t88::t89::t90::t91::t92::t93::t94::t95::t96::t97::t98::t99::t100::t101::t102::t103::t104::t105::t106::t107::t108::t109::t110::t111::t112::t113::t114::t115::t116::t117::t118::t119::t120::t121::t122::t123::t124::t125::t126::t127::t128::t129::t130::t131::t132::t133::[]),h14⟩) :=
  (go_op0 rfl rfl (st_bm (by kernel_rfl) fun v13 h14 =>
  (go_op0 rfl rfl (st_id (v := v13) (H := h14) (by kernel_rfl)
  (go_gdF0 rfl rfl rfl (by kernel_rfl)
  (go_skip0 rfl rfl rfl (by kernel_rfl)
  (go_skip0 rfl rfl rfl (by kernel_rfl)
  (by kernel_rfl)))
  (st_id (v := t2) (H := h14) (by kernel_rfl)
  (go_run0 rfl rfl rfl (by kernel_rfl) (st_bp (by kernel_rfl) fun v15 h16 =>
  (go_run0 rfl rfl rfl (by kernel_rfl) (st_bm (by kernel_rfl) fun v17 h18 =>
  (by kernel_rfl))))))
  (by kernel_rfl))))))
theorem xm6_1 (s : Sys) (k wl : Nat) (m0 : Nat) (ac : List Nat × List Nat) (t0 t1 t2 t3 t4 t5 t6 t7 t8 t9 t10 t11 t12 t13 t14 t15 t16 t17 t18 t19 t20 t21 t22 t23 t24 t25 t26 t27 t28 t29 t30 t31 t32 t33 t34 t35 t36 t37 t38 t39 t40 t41 t42 t43 t44 t45 t46 t47 t48 t49 t50 t51 t52 t53 t54 t55 t56 t57 t58 t59 t60 t61 t62 t63 t64 t65 t66 t67 t68 t69 t70 t71 t72 t73 t74 t75 t76 t77 t78 t79 t80 t81 t82 t83 t84 t85 t86 t87 t88 t89 t90 t91 t92 t93 t94 t95 t96 t97 t98 t99 t100 t101 t102 t103 t104 t105 t106 t107 t108 t109 t110 t111 t112 t113 t114 t115 t116 t117 t118 t119 t120 t121 t122 t123 t124 t125 t126 t127 t128 t129 t130 t131 t132 t133 : V) (h : Hp) : opsP (xX s 6 wl k false) xg6_0 10 m0 ac (runK (xX s 6 wl k false) (bodyK s.P Try.f6) xk6_0) ⟨(t0::t1::t2::t3::t4::t5::t6::t7::t8::t9::t10::t11::t12::t13::t14::t15::t16::t17::t18::t19::t20::t21::t22::t23::t24::t25::t26::t27::t28::t29::t30::t31::t32::t33::t34::t35::t36::t37::t38::t39::t40::t41::t42::t43::t44::t45::t46::t47::t48::t49::t50::t51::t52::t53::t54::t55::t56::t57::t58::t59::t60::t61::t62::t63::t64::t65::t66::t67::t68::t69::t70::t71::t72::t73::t74::t75::t76::t77::t78::t79::t80::t81::t82::t83::t84::t85::t86::t87::t88::t89::t90::t91::t92::t93::t94::t95::t96::t97::t98::t99::t100::t101::t102::t103::t104::t105::t106::t107::t108::t109::t110::t111::t112::t113::t114::t115::t116::t117::t118::t119::t120::t121::t122::t123::t124::t125::t126::t127::t128::t129::t130::t131::t132::t133::[]),h⟩ =
  bm (vPick t27 (V.lit (Value.bool true)) t30) h fun v19 h20 =>
  gd v19 (
  opsP (xX s 6 wl k false) xg6_0 16 m0 ac (runK (xX s 6 wl k false) (bodyK s.P Try.f6) xk6_0) ⟨(t0::t1::t2::t3::t4::t5::t6::t7::t8::t9::t10::t11::t12::t13::t14::t15::t16::t17::t18::t19::t20::t21::t22::t23::t24::t25::t26::t27::t28::t29::t30::v19::(V.lit (Value.bool true))::uu::uu::uu::uu::t37::t38::t39::t40::t41::t42::t43::t44::t45::t46::t47::t48::t49::t50::t51::t52::t53::t54::t55::t56::t57::t58::t59::t60::t61::t62::t63::t64::t65::t66::t67::t68::t69::t70::t71::t72::t73::t74::t75::t76::t77::t78::t79::t80::t81::t82::t83::t84::t85::t86::t87::t88::t89::t90::t91::t92::t93::t94::t95::t96::t97::t98::t99::t100::t101::t102::t103::t104::t105::t106::t107::t108::t109::t110::t111::t112::t113::t114::t115::t116::t117::t118::t119::t120::t121::t122::t123::t124::t125::t126::t127::t128::t129::t130::t131::t132::t133::[]),h20⟩) (
  bm (vFieldAddr s.P 32 t9 1) h20 fun v21 h22 =>
  bm (vLoad s.P 27 v21 h22) h22 fun v23 h24 =>
  bp (opLen s.P 27 v23 h24) fun v25 h26 =>
  bm (vBin s.P .eql 3 v25 (V.lit (Value.int .i64 0))) h26 fun v27 h28 =>
  opsP (xX s 6 wl k false) xg6_0 16 m0 ac (runK (xX s 6 wl k false) (bodyK s.P Try.f6) xk6_0) ⟨(t0::t1::t2::t3::t4::t5::t6::t7::t8::t9::t10::t11::t12::t13::t14::t15::t16::t17::t18::t19::t20::t21::t22::t23::t24::t25::t26::t27::t28::t29::t30::v19::(V.lit (Value.bool false))::v21::v23::v25::v27::t37::t38::t39::t40::t41::t42::t43::t44::t45::t46::t47::t48::t49::t50::t51::t52::t53::t54::t55::t56::t57::t58::t59::t60::t61::t62::t63::t64::t65::t66::t67::t68::t69::t70::t71::t72::t73::t74::t75::t76::t77::t78::t79::t80::t81::t82::t83::t84::t85::t86::t87::t88::t89::t90::t91::t92::t93::t94::t95::t96::t97::t98::t99::t100::t101::t102::t103::t104::t105::t106::t107::t108::t109::t110::t111::t112::t113::t114::t115::t116::t117::t118::t119::t120::t121::t122::t123::t124::t125::t126::t127::t128::t129::t130::t131::t132::t133::[]),h28⟩) (
  opsP (xX s 6 wl k false) xg6_0 13 m0 ac (runK (xX s 6 wl k false) (bodyK s.P Try.f6) xk6_0) ⟨(t0::t1::t2::t3::t4::t5::t6::t7::t8::t9::t10::t11::t12::t13::t14::t15::t16::t17::t18::t19::t20::t21::t22::t23::t24::t25::t26::t27::t28::t29::t30::v19::v19::uu::t34::t35::t36::t37::t38::t39::t40::t41::t42::t43::t44::t45::t46::t47::t48::t49::t50::t51::t52::t53::t54::t55::t56::t57::t58::t59::t60::t61::t62::t63::t64::t65::t66::t67::t68::t69::t70::t71::t72::t73::t74::t75::t76::t77::t78::t79::t80::t81::t82::t83::t84::t85::t86::t87::t88::t89::t90::t91::t92::t93::t94::t95::t96::t97::t98::t99::t100::t101::t102::t103::t104::t105::t106::t107::t108::t109::t110::t111::t112::t113::t114::t115::t116::t117::t118::t119::t120::t121::t122::t123::t124::t125::t126::t127::t128::t129::t130::t131::t132::t133::[]),h20⟩) :=
  (go_op0 rfl rfl (st_bm (by kernel_rfl) fun v19 h20 =>
  (go_op0 rfl rfl (st_id (v := v19) (H := h20) (by kernel_rfl)
  (go_gdF0 rfl rfl rfl (by kernel_rfl)
  (go_skip0 rfl rfl rfl (by kernel_rfl)
  (go_skip0 rfl rfl rfl (by kernel_rfl)
  (go_skip0 rfl rfl rfl (by kernel_rfl)
  (by kernel_rfl))))
  (st_bm (by kernel_rfl) fun v21 h22 =>
  (go_run0 rfl rfl rfl (by kernel_rfl) (st_bm (by kernel_rfl) fun v23 h24 =>
  (go_run0 rfl rfl rfl (by kernel_rfl) (st_bp (by kernel_rfl) fun v25 h26 =>
  (go_run0 rfl rfl rfl (by kernel_rfl) (st_bm (by kernel_rfl) fun v27 h28 =>
  (by kernel_rfl))))))))
  (by kernel_rfl))))))
theorem xm6_2 (s : Sys) (k wl : Nat) (m0 : Nat) (ac : List Nat × List Nat) (t0 t1 t2 t3 t4 t5 t6 t7 t8 t9 t10 t11 t12 t13 t14 t15 t16 t17 t18 t19 t20 t21 t22 t23 t24 t25 t26 t27 t28 t29 t30 t31 t32 t33 t34 t35 t36 t37 t38 t39 t40 t41 t42 t43 t44 t45 t46 t47 t48 t49 t50 t51 t52 t53 t54 t55 t56 t57 t58 t59 t60 t61 t62 t63 t64 t65 t66 t67 t68 t69 t70 t71 t72 t73 t74 t75 t76 t77 t78 t79 t80 t81 t82 t83 t84 t85 t86 t87 t88 t89 t90 t91 t92 t93 t94 t95 t96 t97 t98 t99 t100 t101 t102 t103 t104 t105 t106 t107 t108 t109 t110 t111 t112 t113 t114 t115 t116 t117 t118 t119 t120 t121 t122 t123 t124 t125 t126 t127 t128 t129 t130 t131 t132 t133 : V) (h : Hp) : opsP (xX s 6 wl k false) xg6_0 16 m0 ac (runK (xX s 6 wl k false) (bodyK s.P Try.f6) xk6_0) ⟨(t0::t1::t2::t3::t4::t5::t6::t7::t8::t9::t10::t11::t12::t13::t14::t15::t16::t17::t18::t19::t20::t21::t22::t23::t24::t25::t26::t27::t28::t29::t30::t31::t32::t33::t34::t35::t36::t37::t38::t39::t40::t41::t42::t43::t44::t45::t46::t47::t48::t49::t50::t51::t52::t53::t54::t55::t56::t57::t58::t59::t60::t61::t62::t63::t64::t65::t66::t67::t68::t69::t70::t71::t72::t73::t74::t75::t76::t77::t78::t79::t80::t81::t82::t83::t84::t85::t86::t87::t88::t89::t90::t91::t92::t93::t94::t95::t96::t97::t98::t99::t100::t101::t102::t103::t104::t105::t106::t107::t108::t109::t110::t111::t112::t113::t114::t115::t116::t117::t118::t119::t120::t121::t122::t123::t124::t125::t126::t127::t128::t129::t130::t131::t132::t133::[]),h⟩ =
  bm (vPick t32 (V.lit (Value.bool true)) t36) h fun v29 h30 =>
  gd v29 (
  opsP (xX s 6 wl k false) xg6_0 22 m0 ac (runK (xX s 6 wl k false) (bodyK s.P Try.f6) xk6_0) ⟨(t0::t1::t2::t3::t4::t5::t6::t7::t8::t9::t10::t11::t12::t13::t14::t15::t16::t17::t18::t19::t20::t21::t22::t23::t24::t25::t26::t27::t28::t29::t30::t31::t32::t33::t34::t35::t36::v29::(V.lit (Value.bool true))::uu::uu::uu::uu::t43::t44::t45::t46::t47::t48::t49::t50::t51::t52::t53::t54::t55::t56::t57::t58::t59::t60::t61::t62::t63::t64::t65::t66::t67::t68::t69::t70::t71::t72::t73::t74::t75::t76::t77::t78::t79::t80::t81::t82::t83::t84::t85::t86::t87::t88::t89::t90::t91::t92::t93::t94::t95::t96::t97::t98::t99::t100::t101::t102::t103::t104::t105::t106::t107::t108::t109::t110::t111::t112::t113::t114::t115::t116::t117::t118::t119::t120::t121::t122::t123::t124::t125::t126::t127::t128::t129::t130::t131::t132::t133::[]),h30⟩) (
  bm (vFieldAddr s.P 32 t9 1) h30 fun v31 h32 =>
  bm (vLoad s.P 27 v31 h32) h32 fun v33 h34 =>
  bp (opLen s.P 27 v33 h34) fun v35 h36 =>
  bm (vBin s.P .gtr 3 v35 (V.lit (Value.int .i64 60))) h36 fun v37 h38 =>
  opsP (xX s 6 wl k false) xg6_0 22 m0 ac (runK (xX s 6 wl k false) (bodyK s.P Try.f6) xk6_0) ⟨(t0::t1::t2::t3::t4::t5::t6::t7::t8::t9::t10::t11::t12::t13::t14::t15::t16::t17::t18::t19::t20::t21::t22::t23::t24::t25::t26::t27::t28::t29::t30::t31::t32::t33::t34::t35::t36::v29::(V.lit (Value.bool false))::v31::v33::v35::v37::t43::t44::t45::t46::t47::t48::t49::t50::t51::t52::t53::t54::t55::t56::t57::t58::t59::t60::t61::t62::t63::t64::t65::t66::t67::t68::t69::t70::t71::t72::t73::t74::t75::t76::t77::t78::t79::t80::t81::t82::t83::t84::t85::t86::t87::t88::t89::t90::t91::t92::t93::t94::t95::t96::t97::t98::t99::t100::t101::t102::t103::t104::t105::t106::t107::t108::t109::t110::t111::t112::t113::t114::t115::t116::t117::t118::t119::t120::t121::t122::t123::t124::t125::t126::t127::t128::t129::t130::t131::t132::t133::[]),h38⟩) (
  opsP (xX s 6 wl k false) xg6_0 19 m0 ac (runK (xX s 6 wl k false) (bodyK s.P Try.f6) xk6_0) ⟨(t0::t1::t2::t3::t4::t5::t6::t7::t8::t9::t10::t11::t12::t13::t14::t15::t16::t17::t18::t19::t20::t21::t22::t23::t24::t25::t26::t27::t28::t29::t30::t31::t32::t33::t34::t35::t36::v29::v29::uu::t40::t41::t42::t43::t44::t45::t46::t47::t48::t49::t50::t51::t52::t53::t54::t55::t56::t57::t58::t59::t60::t61::t62::t63::t64::t65::t66::t67::t68::t69::t70::t71::t72::t73::t74::t75::t76::t77::t78::t79::t80::t81::t82::t83::t84::t85::t86::t87::t88::t89::t90::t91::t92::t93::t94::t95::t96::t97::t98::t99::t100::t101::t102::t103::t104::t105::t106::t107::t108::t109::t110::t111::t112::t113::t114::t115::t116::t117::t118::t119::t120::t121::t122::t123::t124::t125::t126::t127::t128::t129::t130::t131::t132::t133::[]),h30⟩) :=
  (go_op0 rfl rfl (st_bm (by kernel_rfl) fun v29 h30 =>
  (go_op0 rfl rfl (st_id (v := v29) (H := h30) (by kernel_rfl)
  (go_gdF0 rfl rfl rfl (by kernel_rfl)
  (go_skip0 rfl rfl rfl (by kernel_rfl)
  (go_skip0 rfl rfl rfl (by kernel_rfl)
  (go_skip0 rfl rfl rfl (by kernel_rfl)
  (by kernel_rfl))))
  (st_bm (by kernel_rfl) fun v31 h32 =>
  (go_run0 rfl rfl rfl (by kernel_rfl) (st_bm (by kernel_rfl) fun v33 h34 =>
  (go_run0 rfl rfl rfl (by kernel_rfl) (st_bp (by kernel_rfl) fun v35 h36 =>
  (go_run0 rfl rfl rfl (by kernel_rfl) (st_bm (by kernel_rfl) fun v37 h38 =>
  (by kernel_rfl))))))))
  (by kernel_rfl))))))
theorem xm6_3 (s : Sys) (k wl : Nat) (m0 : Nat) (ac : List Nat × List Nat) (t0 t1 t2 t3 t4 t5 t6 t7 t8 t9 t10 t11 t12 t13 t14 t15 t16 t17 t18 t19 t20 t21 t22 t23 t24 t25 t26 t27 t28 t29 t30 t31 t32 t33 t34 t35 t36 t37 t38 t39 t40 t41 t42 t43 t44 t45 t46 t47 t48 t49 t50 t51 t52 t53 t54 t55 t56 t57 t58 t59 t60 t61 t62 t63 t64 t65 t66 t67 t68 t69 t70 t71 t72 t73 t74 t75 t76 t77 t78 t79 t80 t81 t82 t83 t84 t85 t86 t87 t88 t89 t90 t91 t92 t93 t94 t95 t96 t97 t98 t99 t100 t101 t102 t103 t104 t105 t106 t107 t108 t109 t110 t111 t112 t113 t114 t115 t116 t117 t118 t119 t120 t121 t122 t123 t124 t125 t126 t127 t128 t129 t130 t131 t132 t133 : V) (h : Hp) : opsP (xX s 6 wl k false) xg6_0 22 m0 ac (runK (xX s 6 wl k false) (bodyK s.P Try.f6) xk6_0) ⟨(t0::t1::t2::t3::t4::t5::t6::t7::t8::t9::t10::t11::t12::t13::t14::t15::t16::t17::t18::t19::t20::t21::t22::t23::t24::t25::t26::t27::t28::t29::t30::t31::t32::t33::t34::t35::t36::t37::t38::t39::t40::t41::t42::t43::t44::t45::t46::t47::t48::t49::t50::t51::t52::t53::t54::t55::t56::t57::t58::t59::t60::t61::t62::t63::t64::t65::t66::t67::t68::t69::t70::t71::t72::t73::t74::t75::t76::t77::t78::t79::t80::t81::t82::t83::t84::t85::t86::t87::t88::t89::t90::t91::t92::t93::t94::t95::t96::t97::t98::t99::t100::t101::t102::t103::t104::t105::t106::t107::t108::t109::t110::t111::t112::t113::t114::t115::t116::t117::t118::t119::t120::t121::t122::t123::t124::t125::t126::t127::t128::t129::t130::t131::t132::t133::[]),h⟩ =
  bm (vPick t38 (V.lit (Value.bool true)) t42) h fun v39 h40 =>
  gd v39 (
  opsP (xX s 6 wl k false) xg6_0 27 m0 ac (runK (xX s 6 wl k false) (bodyK s.P Try.f6) xk6_0) ⟨(t0::t1::t2::t3::t4::t5::t6::t7::t8::t9::t10::t11::t12::t13::t14::t15::t16::t17::t18::t19::t20::t21::t22::t23::t24::t25::t26::t27::t28::t29::t30::t31::t32::t33::t34::t35::t36::t37::t38::t39::t40::t41::t42::v39::(V.lit (Value.bool true))::uu::uu::uu::t48::t49::t50::t51::t52::t53::t54::t55::t56::t57::t58::t59::t60::t61::t62::t63::t64::t65::t66::t67::t68::t69::t70::t71::t72::t73::t74::t75::t76::t77::t78::t79::t80::t81::t82::t83::t84::t85::t86::t87::t88::t89::t90::t91::t92::t93::t94::t95::t96::t97::t98::t99::t100::t101::t102::t103::t104::t105::t106::t107::t108::t109::t110::t111::t112::t113::t114::t115::t116::t117::t118::t119::t120::t121::t122::t123::t124::t125::t126::t127::t128::t129::t130::t131::t132::t133::[]),h40⟩) (
  bm (vFieldAddr s.P 32 t9 0) h40 fun v41 h42 =>
  bm (vLoad s.P 3 v41 h42) h42 fun v43 h44 =>
  bm (vBin s.P .neq 3 v43 (V.lit (Value.int .i64 5))) h44 fun v45 h46 =>
  opsP (xX s 6 wl k false) xg6_0 27 m0 ac (runK (xX s 6 wl k false) (bodyK s.P Try.f6) xk6_0) ⟨(t0::t1::t2::t3::t4::t5::t6::t7::t8::t9::t10::t11::t12::t13::t14::t15::t16::t17::t18::t19::t20::t21::t22::t23::t24::t25::t26::t27::t28::t29::t30::t31::t32::t33::t34::t35::t36::t37::t38::t39::t40::t41::t42::v39::(V.lit (Value.bool false))::v41::v43::v45::t48::t49::t50::t51::t52::t53::t54::t55::t56::t57::t58::t59::t60::t61::t62::t63::t64::t65::t66::t67::t68::t69::t70::t71::t72::t73::t74::t75::t76::t77::t78::t79::t80::t81::t82::t83::t84::t85::t86::t87::t88::t89::t90::t91::t92::t93::t94::t95::t96::t97::t98::t99::t100::t101::t102::t103::t104::t105::t106::t107::t108::t109::t110::t111::t112::t113::t114::t115::t116::t117::t118::t119::t120::t121::t122::t123::t124::t125::t126::t127::t128::t129::t130::t131::t132::t133::[]),h46⟩) (
  opsP (xX s 6 wl k false) xg6_0 25 m0 ac (runK (xX s 6 wl k false) (bodyK s.P Try.f6) xk6_0) ⟨(t0::t1::t2::t3::t4::t5::t6::t7::t8::t9::t10::t11::t12::t13::t14::t15::t16::t17::t18::t19::t20::t21::t22::t23::t24::t25::t26::t27::t28::t29::t30::t31::t32::t33::t34::t35::t36::t37::t38::t39::t40::t41::t42::v39::v39::uu::t46::t47::t48::t49::t50::t51::t52::t53::t54::t55::t56::t57::t58::t59::t60::t61::t62::t63::t64::t65::t66::t67::t68::t69::t70::t71::t72::t73::t74::t75::t76::t77::t78::t79::t80::t81::t82::t83::t84::t85::t86::t87::t88::t89::t90::t91::t92::t93::t94::t95::t96::t97::t98::t99::t100::t101::t102::t103::t104::t105::t106::t107::t108::t109::t110::t111::t112::t113::t114::t115::t116::t117::t118::t119::t120::t121::t122::t123::t124::t125::t126::t127::t128::t129::t130::t131::t132::t133::[]),h40⟩) :=
  (go_op0 rfl rfl (st_bm (by kernel_rfl) fun v39 h40 =>
  (go_op0 rfl rfl (st_id (v := v39) (H := h40) (by kernel_rfl)
  (go_gdF0 rfl rfl rfl (by kernel_rfl)
  (go_skip0 rfl rfl rfl (by kernel_rfl)
  (go_skip0 rfl rfl rfl (by kernel_rfl)
  (by kernel_rfl)))
  (st_bm (by kernel_rfl) fun v41 h42 =>
  (go_run0 rfl rfl rfl (by kernel_rfl) (st_bm (by kernel_rfl) fun v43 h44 =>
  (go_run0 rfl rfl rfl (by kernel_rfl) (st_bm (by kernel_rfl) fun v45 h46 =>
  (by kernel_rfl))))))
  (by kernel_rfl))))))
theorem xm6_4 (s : Sys) (k wl : Nat) (m0 : Nat) (ac : List Nat × List Nat) (t0 t1 t2 t3 t4 t5 t6 t7 t8 t9 t10 t11 t12 t13 t14 t15 t16 t17 t18 t19 t20 t21 t22 t23 t24 t25 t26 t27 t28 t29 t30 t31 t32 t33 t34 t35 t36 t37 t38 t39 t40 t41 t42 t43 t44 t45 t46 t47 t48 t49 t50 t51 t52 t53 t54 t55 t56 t57 t58 t59 t60 t61 t62 t63 t64 t65 t66 t67 t68 t69 t70 t71 t72 t73 t74 t75 t76 t77 t78 t79 t80 t81 t82 t83 t84 t85 t86 t87 t88 t89 t90 t91 t92 t93 t94 t95 t96 t97 t98 t99 t100 t101 t102 t103 t104 t105 t106 t107 t108 t109 t110 t111 t112 t113 t114 t115 t116 t117 t118 t119 t120 t121 t122 t123 t124 t125 t126 t127 t128 t129 t130 t131 t132 t133 : V) (h : Hp) : opsP (xX s 6 wl k false) xg6_0 27 m0 ac (runK (xX s 6 wl k false) (bodyK s.P Try.f6) xk6_0) ⟨(t0::t1::t2::t3::t4::t5::t6::t7::t8::t9::t10::t11::t12::t13::t14::t15::t16::t17::t18::t19::t20::t21::t22::t23::t24::t25::t26::t27::t28::t29::t30::t31::t32::t33::t34::t35::t36::t37::t38::t39::t40::t41::t42::t43::t44::t45::t46::t47::t48::t49::t50::t51::t52::t53::t54::t55::t56::t57::t58::t59::t60::t61::t62::t63::t64::t65::t66::t67::t68::t69::t70::t71::t72::t73::t74::t75::t76::t77::t78::t79::t80::t81::t82::t83::t84::t85::t86::t87::t88::t89::t90::t91::t92::t93::t94::t95::t96::t97::t98::t99::t100::t101::t102::t103::t104::t105::t106::t107::t108::t109::t110::t111::t112::t113::t114::t115::t116::t117::t118::t119::t120::t121::t122::t123::t124::t125::t126::t127::t128::t129::t130::t131::t132::t133::[]),h⟩ =
  bm (vPick t44 (V.lit (Value.bool true)) t47) h fun v47 h48 =>
  gd v47 (
  opsP (xX s 6 wl k false) xg6_0 35 m0 ac (runK (xX s 6 wl k false) (bodyK s.P Try.f6) xk6_0) ⟨(t0::t1::t2::t3::t4::t5::t6::t7::t8::t9::t10::t11::t12::t13::t14::t15::t16::t17::t18::t19::t20::t21::t22::t23::t24::t25::t26::t27::t28::t29::t30::t31::t32::t33::t34::t35::t36::t37::t38::t39::t40::t41::t42::t43::t44::t45::t46::t47::v47::(V.lit (Value.bool true))::uu::uu::uu::uu::uu::uu::t56::t57::t58::t59::t60::t61::t62::t63::t64::t65::t66::t67::t68::t69::t70::t71::t72::t73::t74::t75::t76::t77::t78::t79::t80::t81::t82::t83::t84::t85::t86::t87::t88::t89::t90::t91::t92::t93::t94::t95::t96::t97::t98::t99::t100::t101::t102::t103::t104::t105::t106::t107::t108::t109::t110::t111::t112::t113::t114::t115::t116::t117::t118::t119::t120::t121::t122::t123::t124::t125::t126::t127::t128::t129::t130::t131::t132::t133::[]),h48⟩) (
  bm (vLoad s.P 23 t5 h48) h48 fun v49 h50 =>
  bm (vLoad s.P 32 t9 h50) h50 fun v51 h52 =>
  bp (callV (xX s 6 wl k false) false true (.fn (.func 11) [] []) [v49,t1,t2,v51] h52) fun v53 h54 =>
  bm (vUn .not v53) h54 fun v55 h56 =>
  opsP (xX s 6 wl k false) xg6_0 35 m0 ac (runK (xX s 6 wl k false) (bodyK s.P Try.f6) xk6_0) ⟨(t0::t1::t2::t3::t4::t5::t6::t7::t8::t9::t10::t11::t12::t13::t14::t15::t16::t17::t18::t19::t20::t21::t22::t23::t24::t25::t26::t27::t28::t29::t30::t31::t32::t33::t34::t35::t36::t37::t38::t39::t40::t41::t42::t43::t44::t45::t46::t47::v47::(V.lit (Value.bool false))::v49::t1::t2::v51::v53::v55::t56::t57::t58::t59::t60::t61::t62::t63::t64::t65::t66::t67::t68::t69::t70::t71::t72::t73::t74::t75::t76::t77::t78::t79::t80::t81::t82::t83::t84::t85::t86::t87::t88::t89::t90::t91::t92::t93::t94::t95::t96::t97::t98::t99::t100::t101::t102::t103::t104::t105::t106::t107::t108::t109::t110::t111::t112::t113::t114::t115::t116::t117::t118::t119::t120::t121::t122::t123::t124::t125::t126::t127::t128::t129::t130::t131::t132::t133::[]),h56⟩) (
  opsP (xX s 6 wl k false) xg6_0 30 m0 ac (runK (xX s 6 wl k false) (bodyK s.P Try.f6) xk6_0) ⟨(t0::t1::t2::t3::t4::t5::t6::t7::t8::t9::t10::t11::t12::t13::t14::t15::t16::t17::t18::t19::t20::t21::t22::t23::t24::t25::t26::t27::t28::t29::t30::t31::t32::t33::t34::t35::t36::t37::t38::t39::t40::t41::t42::t43::t44::t45::t46::t47::v47::v47::uu::t51::t52::t53::t54::t55::t56::t57::t58::t59::t60::t61::t62::t63::t64::t65::t66::t67::t68::t69::t70::t71::t72::t73::t74::t75::t76::t77::t78::t79::t80::t81::t82::t83::t84::t85::t86::t87::t88::t89::t90::t91::t92::t93::t94::t95::t96::t97::t98::t99::t100::t101::t102::t103::t104::t105::t106::t107::t108::t109::t110::t111::t112::t113::t114::t115::t116::t117::t118::t119::t120::t121::t122::t123::t124::t125::t126::t127::t128::t129::t130::t131::t132::t133::[]),h48⟩) :=
  (go_op0 rfl rfl (st_bm (by kernel_rfl) fun v47 h48 =>
  (go_op0 rfl rfl (st_id (v := v47) (H := h48) (by kernel_rfl)
  (go_gdF0 rfl rfl rfl (by kernel_rfl)
  (go_skip0 rfl rfl rfl (by kernel_rfl)
  (go_skip0 rfl rfl rfl (by kernel_rfl)
  (go_skip0 rfl rfl rfl (by kernel_rfl)
  (go_skip0 rfl rfl rfl (by kernel_rfl)
  (go_skip0 rfl rfl rfl (by kernel_rfl)
  (by kernel_rfl))))))
  (st_bm (by kernel_rfl) fun v49 h50 =>
  (go_run0 rfl rfl rfl (by kernel_rfl) (st_id (v := t1) (H := h50) (by kernel_rfl)
  (go_run0 rfl rfl rfl (by kernel_rfl) (st_id (v := t2) (H := h50) (by kernel_rfl)
  (go_run0 rfl rfl rfl (by kernel_rfl) (st_bm (by kernel_rfl) fun v51 h52 =>
  (go_run0 rfl rfl rfl (by kernel_rfl) (st_bp (by kernel_rfl) fun v53 h54 =>
  (go_run0 rfl rfl rfl (by kernel_rfl) (st_bm (by kernel_rfl) fun v55 h56 =>
  (by kernel_rfl))))))))))))
  (by kernel_rfl))))))
theorem xm6_5 (s : Sys) (k wl : Nat) (m0 : Nat) (ac : List Nat × List Nat) (t0 t1 t2 t3 t4 t5 t6 t7 t8 t9 t10 t11 t12 t13 t14 t15 t16 t17 t18 t19 t20 t21 t22 t23 t24 t25 t26 t27 t28 t29 t30 t31 t32 t33 t34 t35 t36 t37 t38 t39 t40 t41 t42 t43 t44 t45 t46 t47 t48 t49 t50 t51 t52 t53 t54 t55 t56 t57 t58 t59 t60 t61 t62 t63 t64 t65 t66 t67 t68 t69 t70 t71 t72 t73 t74 t75 t76 t77 t78 t79 t80 t81 t82 t83 t84 t85 t86 t87 t88 t89 t90 t91 t92 t93 t94 t95 t96 t97 t98 t99 t100 t101 t102 t103 t104 t105 t106 t107 t108 t109 t110 t111 t112 t113 t114 t115 t116 t117 t118 t119 t120 t121 t122 t123 t124 t125 t126 t127 t128 t129 t130 t131 t132 t133 : V) (h : Hp) : opsP (xX s 6 wl k false) xg6_0 35 m0 ac (runK (xX s 6 wl k false) (bodyK s.P Try.f6) xk6_0) ⟨(t0::t1::t2::t3::t4::t5::t6::t7::t8::t9::t10::t11::t12::t13::t14::t15::t16::t17::t18::t19::t20::t21::t22::t23::t24::t25::t26::t27::t28::t29::t30::t31::t32::t33::t34::t35::t36::t37::t38::t39::t40::t41::t42::t43::t44::t45::t46::t47::t48::t49::t50::t51::t52::t53::t54::t55::t56::t57::t58::t59::t60::t61::t62::t63::t64::t65::t66::t67::t68::t69::t70::t71::t72::t73::t74::t75::t76::t77::t78::t79::t80::t81::t82::t83::t84::t85::t86::t87::t88::t89::t90::t91::t92::t93::t94::t95::t96::t97::t98::t99::t100::t101::t102::t103::t104::t105::t106::t107::t108::t109::t110::t111::t112::t113::t114::t115::t116::t117::t118::t119::t120::t121::t122::t123::t124::t125::t126::t127::t128::t129::t130::t131::t132::t133::[]),h⟩ =
  bm (vPick t49 (V.lit (Value.bool true)) t55) h fun v57 h58 =>
  cnd v57 (
  some (t11,h58)) (
  bm (vLoad s.P 23 t5 h58) h58 fun v59 h60 =>
  bm (vLoad s.P 32 t9 h60) h60 fun v61 h62 =>
  bp (callV (xX s 6 wl k false) false true (.fn (.func 10) [] []) [v59,t1,t2,t3,v61] h62) fun v63 h64 =>
  bm (vExtract v63 0) h64 fun v65 h66 =>
  bm (vExtract v63 1) h66 fun v67 h68 =>
  bm (vExtract v63 2) h68 fun v69 h70 =>
  bp (opAlloc s.P 32 h70) fun v71 h72 =>
  bs (vStore s.P wl 32 v71 v67 h72) fun h73 =>
  bp (callV (xX s 6 wl k false) false true (.fn (.func 17) [] []) [t2,(V.lit (Value.int .i64 0))] h73) fun v74 h75 =>
  bp (opLen s.P 35 v69 h75) fun v76 h77 =>
  bm (vBin s.P .eql 3 v76 (V.lit (Value.int .i64 2))) h77 fun v78 h79 =>
  gd v78 (
  bm (vIndexAddr s.P 35 v69 (V.lit (Value.int .i64 1)) h79) h79 fun v80 h81 =>
  bm (vFieldAddr s.P 41 v80 0) h81 fun v82 h83 =>
  bm (vLoad s.P 3 v82 h83) h83 fun v84 h85 =>
  bm (vBin s.P .eql 3 v84 (V.lit (Value.int .i64 5))) h85 fun v86 h87 =>
  opsP (xX s 6 wl k false) xg6_1 9 h75.length ([],[]) (runK (xX s 6 wl k false) (bodyK s.P Try.f6) xk6_1) ⟨(t0::t1::t2::t3::t4::t5::t6::t7::t8::t9::t10::t11::t12::v65::v71::v69::v74::t17::t18::t19::t20::t21::t22::t23::t24::t25::t26::t27::t28::t29::t30::t31::t32::t33::t34::t35::t36::t37::t38::t39::t40::t41::t42::t43::t44::t45::t46::t47::t48::t49::t50::t51::t52::t53::t54::t55::v57::t57::v63::v59::t1::t2::t3::v61::v63::v65::v67::v69::t2::v74::v69::v76::v78::(V.lit (Value.bool true))::v69::v80::v82::v84::v86::t79::t80::t81::t82::t83::t84::t85::t86::t87::t88::t89::t90::t91::t92::t93::t94::t95::t96::t97::t98::t99::t100::t101::t102::t103::t104::t105::t106::t107::t108::t109::t110::t111::t112::t113::t114::t115::t116::t117::t118::t119::t120::t121::t122::t123::t124::t125::t126::t127::t128::t129::t130::t131::t132::t133::[]),h87⟩) (
  opsP (xX s 6 wl k false) xg6_1 9 h75.length ([],[]) (runK (xX s 6 wl k false) (bodyK s.P Try.f6) xk6_1) ⟨(t0::t1::t2::t3::t4::t5::t6::t7::t8::t9::t10::t11::t12::v65::v71::v69::v74::t17::t18::t19::t20::t21::t22::t23::t24::t25::t26::t27::t28::t29::t30::t31::t32::t33::t34::t35::t36::t37::t38::t39::t40::t41::t42::t43::t44::t45::t46::t47::t48::t49::t50::t51::t52::t53::t54::t55::v57::t57::v63::v59::t1::t2::t3::v61::v63::v65::v67::v69::t2::v74::v69::v76::v78::(V.lit (Value.bool false))::uu::uu::uu::uu::uu::t79::t80::t81::t82::t83::t84::t85::t86::t87::t88::t89::t90::t91::t92::t93::t94::t95::t96::t97::t98::t99::t100::t101::t102::t103::t104::t105::t106::t107::t108::t109::t110::t111::t112::t113::t114::t115::t116::t117::t118::t119::t120::t121::t122::t123::t124::t125::t126::t127::t128::t129::t130::t131::t132::t133::[]),h79⟩) (
  opsP (xX s 6 wl k false) xg6_1 5 h75.length ([],[]) (runK (xX s 6 wl k false) (bodyK s.P Try.f6) xk6_1) ⟨(t0::t1::t2::t3::t4::t5::t6::t7::t8::t9::t10::t11::t12::v65::v71::v69::v74::t17::t18::t19::t20::t21::t22::t23::t24::t25::t26::t27::t28::t29::t30::t31::t32::t33::t34::t35::t36::t37::t38::t39::t40::t41::t42::t43::t44::t45::t46::t47::t48::t49::t50::t51::t52::t53::t54::t55::v57::t57::v63::v59::t1::t2::t3::v61::v63::v65::v67::v69::t2::v74::v69::v76::v78::v78::uu::t75::t76::t77::t78::t79::t80::t81::t82::t83::t84::t85::t86::t87::t88::t89::t90::t91::t92::t93::t94::t95::t96::t97::t98::t99::t100::t101::t102::t103::t104::t105::t106::t107::t108::t109::t110::t111::t112::t113::t114::t115::t116::t117::t118::t119::t120::t121::t122::t123::t124::t125::t126::t127::t128::t129::t130::t131::t132::t133::[]),h79⟩)) :=
  (go_op0 rfl rfl (st_bm (by kernel_rfl) fun v57 h58 =>
  (go_end0 (by kernel_rfl)
  (go_cond (by kernel_rfl)
  (go_seq (go_reg0
  (go_op0 rfl rfl (st_id (v := t11) (H := h58) (by kernel_rfl)
  (go_op0 rfl rfl (st_id (v := t11) (H := h58) (by kernel_rfl)
  (go_end0 (by kernel_rfl)
  (go_ret (rt_seq_ret (by kernel_rfl))))))))))
  (go_skip (go_seq (go_reg0
  (go_op0 rfl rfl (st_bm (by kernel_rfl) fun v59 h60 =>
  (go_op0 rfl rfl (st_id (v := t1) (H := h60) (by kernel_rfl)
  (go_op0 rfl rfl (st_id (v := t2) (H := h60) (by kernel_rfl)
  (go_op0 rfl rfl (st_id (v := t3) (H := h60) (by kernel_rfl)
  (go_op0 rfl rfl (st_bm (by kernel_rfl) fun v61 h62 =>
  (go_op0 rfl rfl (st_bp (by kernel_rfl) fun v63 h64 =>
  (go_op0 rfl rfl (st_id (v := v63) (H := h64) (by kernel_rfl)
  (go_op0 rfl rfl (st_bm (by kernel_rfl) fun v65 h66 =>
  (go_op0 rfl rfl (st_bm (by kernel_rfl) fun v67 h68 =>
  (go_op0 rfl rfl (st_bm (by kernel_rfl) fun v69 h70 =>
  (go_op0 rfl rfl (st_bp (by kernel_rfl) fun v71 h72 =>
  (go_op0 rfl rfl (st_id (v := v65) (H := h72) (by kernel_rfl)
  (go_op0 rfl rfl (st_bs (by kernel_rfl) fun h73 =>
  (go_op0 rfl rfl (st_id (v := v69) (H := h73) (by kernel_rfl)
  (go_end0 (by kernel_rfl)
  (go_seq (go_reg0
  (go_op0 rfl rfl (st_id (v := t2) (H := h73) (by kernel_rfl)
  (go_op0 rfl rfl (st_bp (by kernel_rfl) fun v74 h75 =>
  (go_op0 rfl rfl (st_id (v := v74) (H := h75) (by kernel_rfl)
  (go_end0 (by kernel_rfl)
  (go_seq (go_reg0
  (go_op0 rfl rfl (st_id (v := v69) (H := h75) (by kernel_rfl)
  (go_op0 rfl rfl (st_bp (by kernel_rfl) fun v76 h77 =>
  (go_op0 rfl rfl (st_bm (by kernel_rfl) fun v78 h79 =>
  (go_op0 rfl rfl (st_id (v := v78) (H := h79) (by kernel_rfl)
  (go_gdT0 rfl rfl rfl (by kernel_rfl)
  (st_id (v := v69) (H := h79) (by kernel_rfl)
  (go_run0 rfl rfl rfl (by kernel_rfl) (st_bm (by kernel_rfl) fun v80 h81 =>
  (go_run0 rfl rfl rfl (by kernel_rfl) (st_bm (by kernel_rfl) fun v82 h83 =>
  (go_run0 rfl rfl rfl (by kernel_rfl) (st_bm (by kernel_rfl) fun v84 h85 =>
  (go_run0 rfl rfl rfl (by kernel_rfl) (st_bm (by kernel_rfl) fun v86 h87 =>
  (by kernel_rfl))))))))))
  (go_skip0 rfl rfl rfl (by kernel_rfl)
  (go_skip0 rfl rfl rfl (by kernel_rfl)
  (go_skip0 rfl rfl rfl (by kernel_rfl)
  (go_skip0 rfl rfl rfl (by kernel_rfl)
  (by kernel_rfl)))))
  (by kernel_rfl)))))))))))))))))))))))))))))))))))))))))))))))))))))))))
theorem xm6_6 (s : Sys) (k wl : Nat) (m0 : Nat) (ac : List Nat × List Nat) (t0 t1 t2 t3 t4 t5 t6 t7 t8 t9 t10 t11 t12 t13 t14 t15 t16 t17 t18 t19 t20 t21 t22 t23 t24 t25 t26 t27 t28 t29 t30 t31 t32 t33 t34 t35 t36 t37 t38 t39 t40 t41 t42 t43 t44 t45 t46 t47 t48 t49 t50 t51 t52 t53 t54 t55 t56 t57 t58 t59 t60 t61 t62 t63 t64 t65 t66 t67 t68 t69 t70 t71 t72 t73 t74 t75 t76 t77 t78 t79 t80 t81 t82 t83 t84 t85 t86 t87 t88 t89 t90 t91 t92 t93 t94 t95 t96 t97 t98 t99 t100 t101 t102 t103 t104 t105 t106 t107 t108 t109 t110 t111 t112 t113 t114 t115 t116 t117 t118 t119 t120 t121 t122 t123 t124 t125 t126 t127 t128 t129 t130 t131 t132 t133 : V) (h : Hp) : opsP (xX s 6 wl k false) xg6_1 9 m0 ac (runK (xX s 6 wl k false) (bodyK s.P Try.f6) xk6_1) ⟨(t0::t1::t2::t3::t4::t5::t6::t7::t8::t9::t10::t11::t12::t13::t14::t15::t16::t17::t18::t19::t20::t21::t22::t23::t24::t25::t26::t27::t28::t29::t30::t31::t32::t33::t34::t35::t36::t37::t38::t39::t40::t41::t42::t43::t44::t45::t46::t47::t48::t49::t50::t51::t52::t53::t54::t55::t56::t57::t58::t59::t60::t61::t62::t63::t64::t65::t66::t67::t68::t69::t70::t71::t72::t73::t74::t75::t76::t77::t78::t79::t80::t81::t82::t83::t84::t85::t86::t87::t88::t89::t90::t91::t92::t93::t94::t95::t96::t97::t98::t99::t100::t101::t102::t103::t104::t105::t106::t107::t108::t109::t110::t111::t112::t113::t114::t115::t116::t117::t118::t119::t120::t121::t122::t123::t124::t125::t126::t127::t128::t129::t130::t131::t132::t133::[]),h⟩ =
  bm (vPick t73 t78 (V.lit (Value.bool false))) h fun v88 h89 =>
  gd v88 (
  bm (vIndexAddr s.P 35 t15 (V.lit (Value.int .i64 1)) h89) h89 fun v90 h91 =>
  bm (vFieldAddr s.P 41 v90 2) h91 fun v92 h93 =>
  bm (vLoad s.P 3 v92 h93) h93 fun v94 h95 =>
  bm (vBin s.P .eql 3 v94 t3) h95 fun v96 h97 =>
  opsP (xX s 6 wl k false) xg6_1 17 m0 ac (runK (xX s 6 wl k false) (bodyK s.P Try.f6) xk6_1) ⟨(t0::t1::t2::t3::t4::t5::t6::t7::t8::t9::t10::t11::t12::t13::t14::t15::t16::t17::t18::t19::t20::t21::t22::t23::t24::t25::t26::t27::t28::t29::t30::t31::t32::t33::t34::t35::t36::t37::t38::t39::t40::t41::t42::t43::t44::t45::t46::t47::t48::t49::t50::t51::t52::t53::t54::t55::t56::t57::t58::t59::t60::t61::t62::t63::t64::t65::t66::t67::t68::t69::t70::t71::t72::t73::t74::t75::t76::t77::t78::v88::(V.lit (Value.bool true))::t15::v90::v92::v94::t3::v96::t87::t88::t89::t90::t91::t92::t93::t94::t95::t96::t97::t98::t99::t100::t101::t102::t103::t104::t105::t106::t107::t108::t109::t110::t111::t112::t113::t114::t115::t116::t117::t118::t119::t120::t121::t122::t123::t124::t125::t126::t127::t128::t129::t130::t131::t132::t133::[]),h97⟩) (
  opsP (xX s 6 wl k false) xg6_1 17 m0 ac (runK (xX s 6 wl k false) (bodyK s.P Try.f6) xk6_1) ⟨(t0::t1::t2::t3::t4::t5::t6::t7::t8::t9::t10::t11::t12::t13::t14::t15::t16::t17::t18::t19::t20::t21::t22::t23::t24::t25::t26::t27::t28::t29::t30::t31::t32::t33::t34::t35::t36::t37::t38::t39::t40::t41::t42::t43::t44::t45::t46::t47::t48::t49::t50::t51::t52::t53::t54::t55::t56::t57::t58::t59::t60::t61::t62::t63::t64::t65::t66::t67::t68::t69::t70::t71::t72::t73::t74::t75::t76::t77::t78::v88::(V.lit (Value.bool false))::uu::uu::uu::uu::uu::uu::t87::t88::t89::t90::t91::t92::t93::t94::t95::t96::t97::t98::t99::t100::t101::t102::t103::t104::t105::t106::t107::t108::t109::t110::t111::t112::t113::t114::t115::t116::t117::t118::t119::t120::t121::t122::t123::t124::t125::t126::t127::t128::t129::t130::t131::t132::t133::[]),h89⟩) (
  opsP (xX s 6 wl k false) xg6_1 12 m0 ac (runK (xX s 6 wl k false) (bodyK s.P Try.f6) xk6_1) ⟨(t0::t1::t2::t3::t4::t5::t6::t7::t8::t9::t10::t11::t12::t13::t14::t15::t16::t17::t18::t19::t20::t21::t22::t23::t24::t25::t26::t27::t28::t29::t30::t31::t32::t33::t34::t35::t36::t37::t38::t39::t40::t41::t42::t43::t44::t45::t46::t47::t48::t49::t50::t51::t52::t53::t54::t55::t56::t57::t58::t59::t60::t61::t62::t63::t64::t65::t66::t67::t68::t69::t70::t71::t72::t73::t74::t75::t76::t77::t78::v88::v88::uu::t82::t83::t84::t85::t86::t87::t88::t89::t90::t91::t92::t93::t94::t95::t96::t97::t98::t99::t100::t101::t102::t103::t104::t105::t106::t107::t108::t109::t110::t111::t112::t113::t114::t115::t116::t117::t118::t119::t120::t121::t122::t123::t124::t125::t126::t127::t128::t129::t130::t131::t132::t133::[]),h89⟩) :=
  (go_op0 rfl rfl (st_bm (by kernel_rfl) fun v88 h89 =>
  (go_op0 rfl rfl (st_id (v := v88) (H := h89) (by kernel_rfl)
  (go_gdT0 rfl rfl rfl (by kernel_rfl)
  (st_id (v := t15) (H := h89) (by kernel_rfl)
  (go_run0 rfl rfl rfl (by kernel_rfl) (st_bm (by kernel_rfl) fun v90 h91 =>
  (go_run0 rfl rfl rfl (by kernel_rfl) (st_bm (by kernel_rfl) fun v92 h93 =>
  (go_run0 rfl rfl rfl (by kernel_rfl) (st_bm (by kernel_rfl) fun v94 h95 =>
  (go_run0 rfl rfl rfl (by kernel_rfl) (st_id (v := t3) (H := h95) (by kernel_rfl)
  (go_run0 rfl rfl rfl (by kernel_rfl) (st_bm (by kernel_rfl) fun v96 h97 =>
  (by kernel_rfl))))))))))))
  (go_skip0 rfl rfl rfl (by kernel_rfl)
  (go_skip0 rfl rfl rfl (by kernel_rfl)
  (go_skip0 rfl rfl rfl (by kernel_rfl)
  (go_skip0 rfl rfl rfl (by kernel_rfl)
  (go_skip0 rfl rfl rfl (by kernel_rfl)
  (by kernel_rfl))))))
  (by kernel_rfl))))))
theorem xm6_7 (s : Sys) (k wl : Nat) (m0 : Nat) (ac : List Nat × List Nat) (t0 t1 t2 t3 t4 t5 t6 t7 t8 t9 t10 t11 t12 t13 t14 t15 t16 t17 t18 t19 t20 t21 t22 t23 t24 t25 t26 t27 t28 t29 t30 t31 t32 t33 t34 t35 t36 t37 t38 t39 t40 t41 t42 t43 t44 t45 t46 t47 t48 t49 t50 t51 t52 t53 t54 t55 t56 t57 t58 t59 t60 t61 t62 t63 t64 t65 t66 t67 t68 t69 t70 t71 t72 t73 t74 t75 t76 t77 t78 t79 t80 t81 t82 t83 t84 t85 t86 t87 t88 t89 t90 t91 t92 t93 t94 t95 t96 t97 t98 t99 t100 t101 t102 t103 t104 t105 t106 t107 t108 t109 t110 t111 t112 t113 t114 t115 t116 t117 t118 t119 t120 t121 t122 t123 t124 t125 t126 t127 t128 t129 t130 t131 t132 t133 : V) (h : Hp) : opsP (xX s 6 wl k false) xg6_1 17 m0 ac (runK (xX s 6 wl k false) (bodyK s.P Try.f6) xk6_1) ⟨(t0::t1::t2::t3::t4::t5::t6::t7::t8::t9::t10::t11::t12::t13::t14::t15::t16::t17::t18::t19::t20::t21::t22::t23::t24::t25::t26::t27::t28::t29::t30::t31::t32::t33::t34::t35::t36::t37::t38::t39::t40::t41::t42::t43::t44::t45::t46::t47::t48::t49::t50::t51::t52::t53::t54::t55::t56::t57::t58::t59::t60::t61::t62::t63::t64::t65::t66::t67::t68::t69::t70::t71::t72::t73::t74::t75::t76::t77::t78::t79::t80::t81::t82::t83::t84::t85::t86::t87::t88::t89::t90::t91::t92::t93::t94::t95::t96::t97::t98::t99::t100::t101::t102::t103::t104::t105::t106::t107::t108::t109::t110::t111::t112::t113::t114::t115::t116::t117::t118::t119::t120::t121::t122::t123::t124::t125::t126::t127::t128::t129::t130::t131::t132::t133::[]),h⟩ =
  bm (vPick t80 t86 (V.lit (Value.bool false))) h fun v98 h99 =>
  bp (callV (xX s 6 wl k false) false true (.fn (.func 17) [] []) [t13,(V.lit (Value.int .i64 0))] h99) fun v100 h101 =>
  bm (vBin s.P .sub 28 t16 (V.lit (Value.int .u64 1))) h101 fun v102 h103 =>
  bm (vBin s.P .eql 28 v100 v102) h103 fun v104 h105 =>
  gd v104 (
  bp (opLen s.P 35 t15 h105) fun v106 h107 =>
  bm (vBin s.P .geq 3 v106 (V.lit (Value.int .i64 1))) h107 fun v108 h109 =>
  opsP (xX s 6 wl k false) xg6_2 9 h99.length ([],[]) (runK (xX s 6 wl k false) (bodyK s.P Try.f6) xk6_2) ⟨(t0::t1::t2::t3::t4::t5::t6::t7::t8::t9::t10::t11::t12::t13::t14::t15::t16::v98::t18::t19::t20::t21::t22::t23::t24::t25::t26::t27::t28::t29::t30::t31::t32::t33::t34::t35::t36::t37::t38::t39::t40::t41::t42::t43::t44::t45::t46::t47::t48::t49::t50::t51::t52::t53::t54::t55::t56::t57::t58::t59::t60::t61::t62::t63::t64::t65::t66::t67::t68::t69::t70::t71::t72::t73::t74::t75::t76::t77::t78::t79::t80::t81::t82::t83::t84::t85::t86::v98::t13::v100::t16::v102::v104::(V.lit (Value.bool true))::t15::v106::v108::t97::t98::t99::t100::t101::t102::t103::t104::t105::t106::t107::t108::t109::t110::t111::t112::t113::t114::t115::t116::t117::t118::t119::t120::t121::t122::t123::t124::t125::t126::t127::t128::t129::t130::t131::t132::t133::[]),h109⟩) (
  opsP (xX s 6 wl k false) xg6_2 9 h99.length ([],[]) (runK (xX s 6 wl k false) (bodyK s.P Try.f6) xk6_2) ⟨(t0::t1::t2::t3::t4::t5::t6::t7::t8::t9::t10::t11::t12::t13::t14::t15::t16::v98::t18::t19::t20::t21::t22::t23::t24::t25::t26::t27::t28::t29::t30::t31::t32::t33::t34::t35::t36::t37::t38::t39::t40::t41::t42::t43::t44::t45::t46::t47::t48::t49::t50::t51::t52::t53::t54::t55::t56::t57::t58::t59::t60::t61::t62::t63::t64::t65::t66::t67::t68::t69::t70::t71::t72::t73::t74::t75::t76::t77::t78::t79::t80::t81::t82::t83::t84::t85::t86::v98::t13::v100::t16::v102::v104::(V.lit (Value.bool false))::uu::uu::uu::t97::t98::t99::t100::t101::t102::t103::t104::t105::t106::t107::t108::t109::t110::t111::t112::t113::t114::t115::t116::t117::t118::t119::t120::t121::t122::t123::t124::t125::t126::t127::t128::t129::t130::t131::t132::t133::[]),h105⟩) (
  opsP (xX s 6 wl k false) xg6_2 7 h99.length ([],[]) (runK (xX s 6 wl k false) (bodyK s.P Try.f6) xk6_2) ⟨(t0::t1::t2::t3::t4::t5::t6::t7::t8::t9::t10::t11::t12::t13::t14::t15::t16::v98::t18::t19::t20::t21::t22::t23::t24::t25::t26::t27::t28::t29::t30::t31::t32::t33::t34::t35::t36::t37::t38::t39::t40::t41::t42::t43::t44::t45::t46::t47::t48::t49::t50::t51::t52::t53::t54::t55::t56::t57::t58::t59::t60::t61::t62::t63::t64::t65::t66::t67::t68::t69::t70::t71::t72::t73::t74::t75::t76::t77::t78::t79::t80::t81::t82::t83::t84::t85::t86::v98::t13::v100::t16::v102::v104::v104::uu::t95::t96::t97::t98::t99::t100::t101::t102::t103::t104::t105::t106::t107::t108::t109::t110::t111::t112::t113::t114::t115::t116::t117::t118::t119::t120::t121::t122::t123::t124::t125::t126::t127::t128::t129::t130::t131::t132::t133::[]),h105⟩) :=
  (go_op0 rfl rfl (st_bm (by kernel_rfl) fun v98 h99 =>
  (go_op0 rfl rfl (st_id (v := v98) (H := h99) (by kernel_rfl)
  (go_end0 (by kernel_rfl)
  (go_seq (go_reg1 xo6_8r
  (go_op1 xo6_8 xo6_8a rfl rfl rfl (st_no (by kernel_rfl) (st_id (v := t13) (H := h99) (by kernel_rfl)
  (go_op1 xo6_8 xo6_8a rfl rfl rfl (st_no (by kernel_rfl) (st_bp (by kernel_rfl) fun v100 h101 =>
  (go_op1 xo6_8 xo6_8a rfl rfl rfl (st_no (by kernel_rfl) (st_id (v := t16) (H := h101) (by kernel_rfl)
  (go_op1 xo6_8 xo6_8a rfl rfl rfl (st_no (by kernel_rfl) (st_bm (by kernel_rfl) fun v102 h103 =>
  (go_op1 xo6_8 xo6_8a rfl rfl rfl (st_no (by kernel_rfl) (st_bm (by kernel_rfl) fun v104 h105 =>
  (go_op1 xo6_8 xo6_8a rfl rfl rfl (st_no (by kernel_rfl) (st_id (v := v104) (H := h105) (by kernel_rfl)
  (go_gdT1 xo6_8 xo6_8a rfl rfl rfl rfl (by kernel_rfl)
  (st_no (by kernel_rfl) (st_id (v := t15) (H := h105) (by kernel_rfl)
  (go_run1 xo6_8 xo6_8a rfl rfl rfl rfl (by kernel_rfl) (st_no (by kernel_rfl) (st_bp (by kernel_rfl) fun v106 h107 =>
  (go_run1 xo6_8 xo6_8a rfl rfl rfl rfl (by kernel_rfl) (st_no (by kernel_rfl) (st_bm (by kernel_rfl) fun v108 h109 =>
  (by kernel_rfl)))))))))
  (go_skip1 xo6_8 rfl rfl rfl rfl (by kernel_rfl)
  (go_skip1 xo6_8 rfl rfl rfl rfl (by kernel_rfl)
  (by kernel_rfl)))
  (by kernel_rfl)))))))))))))))))))))))))))
theorem xm6_8 (s : Sys) (k wl : Nat) (m0 : Nat) (ac : List Nat × List Nat) (t0 t1 t2 t3 t4 t5 t6 t7 t8 t9 t10 t11 t12 t13 t14 t15 t16 t17 t18 t19 t20 t21 t22 t23 t24 t25 t26 t27 t28 t29 t30 t31 t32 t33 t34 t35 t36 t37 t38 t39 t40 t41 t42 t43 t44 t45 t46 t47 t48 t49 t50 t51 t52 t53 t54 t55 t56 t57 t58 t59 t60 t61 t62 t63 t64 t65 t66 t67 t68 t69 t70 t71 t72 t73 t74 t75 t76 t77 t78 t79 t80 t81 t82 t83 t84 t85 t86 t87 t88 t89 t90 t91 t92 t93 t94 t95 t96 t97 t98 t99 t100 t101 t102 t103 t104 t105 t106 t107 t108 t109 t110 t111 t112 t113 t114 t115 t116 t117 t118 t119 t120 t121 t122 t123 t124 t125 t126 t127 t128 t129 t130 t131 t132 t133 : V) (h : Hp) : opsP (xX s 6 wl k false) xg6_2 9 m0 ac (runK (xX s 6 wl k false) (bodyK s.P Try.f6) xk6_2) ⟨(t0::t1::t2::t3::t4::t5::t6::t7::t8::t9::t10::t11::t12::t13::t14::t15::t16::t17::t18::t19::t20::t21::t22::t23::t24::t25::t26::t27::t28::t29::t30::t31::t32::t33::t34::t35::t36::t37::t38::t39::t40::t41::t42::t43::t44::t45::t46::t47::t48::t49::t50::t51::t52::t53::t54::t55::t56::t57::t58::t59::t60::t61::t62::t63::t64::t65::t66::t67::t68::t69::t70::t71::t72::t73::t74::t75::t76::t77::t78::t79::t80::t81::t82::t83::t84::t85::t86::t87::t88::t89::t90::t91::t92::t93::t94::t95::t96::t97::t98::t99::t100::t101::t102::t103::t104::t105::t106::t107::t108::t109::t110::t111::t112::t113::t114::t115::t116::t117::t118::t119::t120::t121::t122::t123::t124::t125::t126::t127::t128::t129::t130::t131::t132::t133::[]),h⟩ =
  bm (vPick t93 t96 (V.lit (Value.bool false))) h fun v110 h111 =>
  gd v110 (
  bm (vIndexAddr s.P 35 t15 (V.lit (Value.int .i64 0)) h111) h111 fun v112 h113 =>
  bm (vLoad s.P 41 v112 h113) h113 fun v114 h115 =>
  bm (vFieldAddr s.P 32 t9 1) h115 fun v116 h117 =>
  bm (vLoad s.P 27 v116 h117) h117 fun v118 h119 =>
  bm (vIndexAddr s.P 27 v118 (V.lit (Value.int .i64 0)) h119) h119 fun v120 h121 =>
  bm (vLoad s.P 3 v120 h121) h121 fun v122 h123 =>
  bm (vBuild s.P 41 [(0,(V.lit (Value.int .i64 1))),(1,v122),(2,t3)]) h123 fun v124 h125 =>
  bm (vBin s.P .eql 41 v114 v124) h125 fun v126 h127 =>
  opsP (xX s 6 wl k false) xg6_2 21 m0 ac (runK (xX s 6 wl k false) (bodyK s.P Try.f6) xk6_2) ⟨(t0::t1::t2::t3::t4::t5::t6::t7::t8::t9::t10::t11::t12::t13::t14::t15::t16::t17::t18::t19::t20::t21::t22::t23::t24::t25::t26::t27::t28::t29::t30::t31::t32::t33::t34::t35::t36::t37::t38::t39::t40::t41::t42::t43::t44::t45::t46::t47::t48::t49::t50::t51::t52::t53::t54::t55::t56::t57::t58::t59::t60::t61::t62::t63::t64::t65::t66::t67::t68::t69::t70::t71::t72::t73::t74::t75::t76::t77::t78::t79::t80::t81::t82::t83::t84::t85::t86::t87::t88::t89::t90::t91::t92::t93::t94::t95::t96::v110::(V.lit (Value.bool true))::t15::v112::v114::v116::v118::v120::v122::t3::v124::v126::t109::t110::t111::t112::t113::t114::t115::t116::t117::t118::t119::t120::t121::t122::t123::t124::t125::t126::t127::t128::t129::t130::t131::t132::t133::[]),h127⟩) (
  opsP (xX s 6 wl k false) xg6_2 21 m0 ac (runK (xX s 6 wl k false) (bodyK s.P Try.f6) xk6_2) ⟨(t0::t1::t2::t3::t4::t5::t6::t7::t8::t9::t10::t11::t12::t13::t14::t15::t16::t17::t18::t19::t20::t21::t22::t23::t24::t25::t26::t27::t28::t29::t30::t31::t32::t33::t34::t35::t36::t37::t38::t39::t40::t41::t42::t43::t44::t45::t46::t47::t48::t49::t50::t51::t52::t53::t54::t55::t56::t57::t58::t59::t60::t61::t62::t63::t64::t65::t66::t67::t68::t69::t70::t71::t72::t73::t74::t75::t76::t77::t78::t79::t80::t81::t82::t83::t84::t85::t86::t87::t88::t89::t90::t91::t92::t93::t94::t95::t96::v110::(V.lit (Value.bool false))::uu::uu::uu::uu::uu::uu::uu::uu::uu::uu::t109::t110::t111::t112::t113::t114::t115::t116::t117::t118::t119::t120::t121::t122::t123::t124::t125::t126::t127::t128::t129::t130::t131::t132::t133::[]),h111⟩) (
  opsP (xX s 6 wl k false) xg6_2 12 m0 ac (runK (xX s 6 wl k false) (bodyK s.P Try.f6) xk6_2) ⟨(t0::t1::t2::t3::t4::t5::t6::t7::t8::t9::t10::t11::t12::t13::t14::t15::t16::t17::t18::t19::t20::t21::t22::t23::t24::t25::t26::t27::t28::t29::t30::t31::t32::t33::t34::t35::t36::t37::t38::t39::t40::t41::t42::t43::t44::t45::t46::t47::t48::t49::t50::t51::t52::t53::t54::t55::t56::t57::t58::t59::t60::t61::t62::t63::t64::t65::t66::t67::t68::t69::t70::t71::t72::t73::t74::t75::t76::t77::t78::t79::t80::t81::t82::t83::t84::t85::t86::t87::t88::t89::t90::t91::t92::t93::t94::t95::t96::v110::v110::uu::t100::t101::t102::t103::t104::t105::t106::t107::t108::t109::t110::t111::t112::t113::t114::t115::t116::t117::t118::t119::t120::t121::t122::t123::t124::t125::t126::t127::t128::t129::t130::t131::t132::t133::[]),h111⟩) :=
  (go_op1 xo6_8 xo6_8a rfl rfl rfl (st_no (by kernel_rfl) (st_bm (by kernel_rfl) fun v110 h111 =>
  (go_op1 xo6_8 xo6_8a rfl rfl rfl (st_no (by kernel_rfl) (st_id (v := v110) (H := h111) (by kernel_rfl)
  (go_gdT1 xo6_8 xo6_8a rfl rfl rfl rfl (by kernel_rfl)
  (st_no (by kernel_rfl) (st_id (v := t15) (H := h111) (by kernel_rfl)
  (go_run1 xo6_8 xo6_8a rfl rfl rfl rfl (by kernel_rfl) (st_no (by kernel_rfl) (st_bm (by kernel_rfl) fun v112 h113 =>
  (go_run1 xo6_8 xo6_8a rfl rfl rfl rfl (by kernel_rfl) (st_no (by kernel_rfl) (st_bm (by kernel_rfl) fun v114 h115 =>
  (go_run1 xo6_8 xo6_8a rfl rfl rfl rfl (by kernel_rfl) (st_no (by kernel_rfl) (st_bm (by kernel_rfl) fun v116 h117 =>
  (go_run1 xo6_8 xo6_8a rfl rfl rfl rfl (by kernel_rfl) (st_no (by kernel_rfl) (st_bm (by kernel_rfl) fun v118 h119 =>
  (go_run1 xo6_8 xo6_8a rfl rfl rfl rfl (by kernel_rfl) (st_no (by kernel_rfl) (st_bm (by kernel_rfl) fun v120 h121 =>
  (go_run1 xo6_8 xo6_8a rfl rfl rfl rfl (by kernel_rfl) (st_no (by kernel_rfl) (st_bm (by kernel_rfl) fun v122 h123 =>
  (go_run1 xo6_8 xo6_8a rfl rfl rfl rfl (by kernel_rfl) (st_no (by kernel_rfl) (st_id (v := t3) (H := h123) (by kernel_rfl)
  (go_run1 xo6_8 xo6_8a rfl rfl rfl rfl (by kernel_rfl) (st_no (by kernel_rfl) (st_bm (by kernel_rfl) fun v124 h125 =>
  (go_run1 xo6_8 xo6_8a rfl rfl rfl rfl (by kernel_rfl) (st_no (by kernel_rfl) (st_bm (by kernel_rfl) fun v126 h127 =>
  (by kernel_rfl))))))))))))))))))))))))))))))
  (go_skip1 xo6_8 rfl rfl rfl rfl (by kernel_rfl)
  (go_skip1 xo6_8 rfl rfl rfl rfl (by kernel_rfl)
  (go_skip1 xo6_8 rfl rfl rfl rfl (by kernel_rfl)
  (go_skip1 xo6_8 rfl rfl rfl rfl (by kernel_rfl)
  (go_skip1 xo6_8 rfl rfl rfl rfl (by kernel_rfl)
  (go_skip1 xo6_8 rfl rfl rfl rfl (by kernel_rfl)
  (go_skip1 xo6_8 rfl rfl rfl rfl (by kernel_rfl)
  (go_skip1 xo6_8 rfl rfl rfl rfl (by kernel_rfl)
  (go_skip1 xo6_8 rfl rfl rfl rfl (by kernel_rfl)
  (by kernel_rfl))))))))))
  (by kernel_rfl))))))))
theorem xm6_9 (s : Sys) (k wl : Nat) (m0 : Nat) (ac : List Nat × List Nat) (t0 t1 t2 t3 t4 t5 t6 t7 t8 t9 t10 t11 t12 t13 t14 t15 t16 t17 t18 t19 t20 t21 t22 t23 t24 t25 t26 t27 t28 t29 t30 t31 t32 t33 t34 t35 t36 t37 t38 t39 t40 t41 t42 t43 t44 t45 t46 t47 t48 t49 t50 t51 t52 t53 t54 t55 t56 t57 t58 t59 t60 t61 t62 t63 t64 t65 t66 t67 t68 t69 t70 t71 t72 t73 t74 t75 t76 t77 t78 t79 t80 t81 t82 t83 t84 t85 t86 t87 t88 t89 t90 t91 t92 t93 t94 t95 t96 t97 t98 t99 t100 t101 t102 t103 t104 t105 t106 t107 t108 t109 t110 t111 t112 t113 t114 t115 t116 t117 t118 t119 t120 t121 t122 t123 t124 t125 t126 t127 t128 t129 t130 t131 t132 t133 : V) (h : Hp) : opsP (xX s 6 wl k false) xg6_2 21 m0 ac (runK (xX s 6 wl k false) (bodyK s.P Try.f6) xk6_2) ⟨(t0::t1::t2::t3::t4::t5::t6::t7::t8::t9::t10::t11::t12::t13::t14::t15::t16::t17::t18::t19::t20::t21::t22::t23::t24::t25::t26::t27::t28::t29::t30::t31::t32::t33::t34::t35::t36::t37::t38::t39::t40::t41::t42::t43::t44::t45::t46::t47::t48::t49::t50::t51::t52::t53::t54::t55::t56::t57::t58::t59::t60::t61::t62::t63::t64::t65::t66::t67::t68::t69::t70::t71::t72::t73::t74::t75::t76::t77::t78::t79::t80::t81::t82::t83::t84::t85::t86::t87::t88::t89::t90::t91::t92::t93::t94::t95::t96::t97::t98::t99::t100::t101::t102::t103::t104::t105::t106::t107::t108::t109::t110::t111::t112::t113::t114::t115::t116::t117::t118::t119::t120::t121::t122::t123::t124::t125::t126::t127::t128::t129::t130::t131::t132::t133::[]),h⟩ =
  bm (vPick t98 t108 (V.lit (Value.bool false))) h fun v128 h129 =>
  gd v128 (
  bm (vBin s.P .eql 28 t16 (V.lit (Value.int .u64 1))) h129 fun v130 h131 =>
  bm (vBin s.P .eql 4 t17 v130) h131 fun v132 h133 =>
  opsP (xX s 6 wl k false) xg6_2 27 m0 ac (runK (xX s 6 wl k false) (bodyK s.P Try.f6) xk6_2) ⟨(t0::t1::t2::t3::t4::t5::t6::t7::t8::t9::t10::t11::t12::t13::t14::t15::t16::t17::t18::t19::t20::t21::t22::t23::t24::t25::t26::t27::t28::t29::t30::t31::t32::t33::t34::t35::t36::t37::t38::t39::t40::t41::t42::t43::t44::t45::t46::t47::t48::t49::t50::t51::t52::t53::t54::t55::t56::t57::t58::t59::t60::t61::t62::t63::t64::t65::t66::t67::t68::t69::t70::t71::t72::t73::t74::t75::t76::t77::t78::t79::t80::t81::t82::t83::t84::t85::t86::t87::t88::t89::t90::t91::t92::t93::t94::t95::t96::t97::t98::t99::t100::t101::t102::t103::t104::t105::t106::t107::t108::v128::(V.lit (Value.bool true))::t17::t16::v130::v132::t115::t116::t117::t118::t119::t120::t121::t122::t123::t124::t125::t126::t127::t128::t129::t130::t131::t132::t133::[]),h133⟩) (
  opsP (xX s 6 wl k false) xg6_2 27 m0 ac (runK (xX s 6 wl k false) (bodyK s.P Try.f6) xk6_2) ⟨(t0::t1::t2::t3::t4::t5::t6::t7::t8::t9::t10::t11::t12::t13::t14::t15::t16::t17::t18::t19::t20::t21::t22::t23::t24::t25::t26::t27::t28::t29::t30::t31::t32::t33::t34::t35::t36::t37::t38::t39::t40::t41::t42::t43::t44::t45::t46::t47::t48::t49::t50::t51::t52::t53::t54::t55::t56::t57::t58::t59::t60::t61::t62::t63::t64::t65::t66::t67::t68::t69::t70::t71::t72::t73::t74::t75::t76::t77::t78::t79::t80::t81::t82::t83::t84::t85::t86::t87::t88::t89::t90::t91::t92::t93::t94::t95::t96::t97::t98::t99::t100::t101::t102::t103::t104::t105::t106::t107::t108::v128::(V.lit (Value.bool false))::uu::uu::uu::uu::t115::t116::t117::t118::t119::t120::t121::t122::t123::t124::t125::t126::t127::t128::t129::t130::t131::t132::t133::[]),h129⟩) (
  opsP (xX s 6 wl k false) xg6_2 24 m0 ac (runK (xX s 6 wl k false) (bodyK s.P Try.f6) xk6_2) ⟨(t0::t1::t2::t3::t4::t5::t6::t7::t8::t9::t10::t11::t12::t13::t14::t15::t16::t17::t18::t19::t20::t21::t22::t23::t24::t25::t26::t27::t28::t29::t30::t31::t32::t33::t34::t35::t36::t37::t38::t39::t40::t41::t42::t43::t44::t45::t46::t47::t48::t49::t50::t51::t52::t53::t54::t55::t56::t57::t58::t59::t60::t61::t62::t63::t64::t65::t66::t67::t68::t69::t70::t71::t72::t73::t74::t75::t76::t77::t78::t79::t80::t81::t82::t83::t84::t85::t86::t87::t88::t89::t90::t91::t92::t93::t94::t95::t96::t97::t98::t99::t100::t101::t102::t103::t104::t105::t106::t107::t108::v128::v128::uu::t112::t113::t114::t115::t116::t117::t118::t119::t120::t121::t122::t123::t124::t125::t126::t127::t128::t129::t130::t131::t132::t133::[]),h129⟩) :=
  (go_op1 xo6_8 xo6_8a rfl rfl rfl (st_no (by kernel_rfl) (st_bm (by kernel_rfl) fun v128 h129 =>
  (go_op1 xo6_8 xo6_8a rfl rfl rfl (st_no (by kernel_rfl) (st_id (v := v128) (H := h129) (by kernel_rfl)
  (go_gdT1 xo6_8 xo6_8a rfl rfl rfl rfl (by kernel_rfl)
  (st_no (by kernel_rfl) (st_id (v := t17) (H := h129) (by kernel_rfl)
  (go_run1 xo6_8 xo6_8a rfl rfl rfl rfl (by kernel_rfl) (st_no (by kernel_rfl) (st_id (v := t16) (H := h129) (by kernel_rfl)
  (go_run1 xo6_8 xo6_8a rfl rfl rfl rfl (by kernel_rfl) (st_no (by kernel_rfl) (st_bm (by kernel_rfl) fun v130 h131 =>
  (go_run1 xo6_8 xo6_8a rfl rfl rfl rfl (by kernel_rfl) (st_no (by kernel_rfl) (st_bm (by kernel_rfl) fun v132 h133 =>
  (by kernel_rfl))))))))))))
  (go_skip1 xo6_8 rfl rfl rfl rfl (by kernel_rfl)
  (go_skip1 xo6_8 rfl rfl rfl rfl (by kernel_rfl)
  (go_skip1 xo6_8 rfl rfl rfl rfl (by kernel_rfl)
  (by kernel_rfl))))
  (by kernel_rfl))))))))
theorem xm6_10 (s : Sys) (k wl : Nat) (m0 : Nat) (ac : List Nat × List Nat) (t0 t1 t2 t3 t4 t5 t6 t7 t8 t9 t10 t11 t12 t13 t14 t15 t16 t17 t18 t19 t20 t21 t22 t23 t24 t25 t26 t27 t28 t29 t30 t31 t32 t33 t34 t35 t36 t37 t38 t39 t40 t41 t42 t43 t44 t45 t46 t47 t48 t49 t50 t51 t52 t53 t54 t55 t56 t57 t58 t59 t60 t61 t62 t63 t64 t65 t66 t67 t68 t69 t70 t71 t72 t73 t74 t75 t76 t77 t78 t79 t80 t81 t82 t83 t84 t85 t86 t87 t88 t89 t90 t91 t92 t93 t94 t95 t96 t97 t98 t99 t100 t101 t102 t103 t104 t105 t106 t107 t108 t109 t110 t111 t112 t113 t114 t115 t116 t117 t118 t119 t120 t121 t122 t123 t124 t125 t126 t127 t128 t129 t130 t131 t132 t133 : V) (h : Hp) : opsP (xX s 6 wl k false) xg6_2 27 m0 ac (runK (xX s 6 wl k false) (bodyK s.P Try.f6) xk6_2) ⟨(t0::t1::t2::t3::t4::t5::t6::t7::t8::t9::t10::t11::t12::t13::t14::t15::t16::t17::t18::t19::t20::t21::t22::t23::t24::t25::t26::t27::t28::t29::t30::t31::t32::t33::t34::t35::t36::t37::t38::t39::t40::t41::t42::t43::t44::t45::t46::t47::t48::t49::t50::t51::t52::t53::t54::t55::t56::t57::t58::t59::t60::t61::t62::t63::t64::t65::t66::t67::t68::t69::t70::t71::t72::t73::t74::t75::t76::t77::t78::t79::t80::t81::t82::t83::t84::t85::t86::t87::t88::t89::t90::t91::t92::t93::t94::t95::t96::t97::t98::t99::t100::t101::t102::t103::t104::t105::t106::t107::t108::t109::t110::t111::t112::t113::t114::t115::t116::t117::t118::t119::t120::t121::t122::t123::t124::t125::t126::t127::t128::t129::t130::t131::t132::t133::[]),h⟩ =
  bm (vPick t110 t114 (V.lit (Value.bool false))) h fun v134 h135 =>
  gd v134 (
  opsP (xX s 6 wl k false) xg6_2 31 m0 ac (runK (xX s 6 wl k false) (bodyK s.P Try.f6) xk6_2) ⟨(t0::t1::t2::t3::t4::t5::t6::t7::t8::t9::t10::t11::t12::t13::t14::t15::t16::t17::t18::t19::t20::t21::t22::t23::t24::t25::t26::t27::t28::t29::t30::t31::t32::t33::t34::t35::t36::t37::t38::t39::t40::t41::t42::t43::t44::t45::t46::t47::t48::t49::t50::t51::t52::t53::t54::t55::t56::t57::t58::t59::t60::t61::t62::t63::t64::t65::t66::t67::t68::t69::t70::t71::t72::t73::t74::t75::t76::t77::t78::t79::t80::t81::t82::t83::t84::t85::t86::t87::t88::t89::t90::t91::t92::t93::t94::t95::t96::t97::t98::t99::t100::t101::t102::t103::t104::t105::t106::t107::t108::t109::t110::t111::t112::t113::t114::v134::(V.lit (Value.bool true))::t17::t17::t119::t120::t121::t122::t123::t124::t125::t126::t127::t128::t129::t130::t131::t132::t133::[]),h135⟩) (
  opsP (xX s 6 wl k false) xg6_2 35 m0 ac (runK (xX s 6 wl k false) (bodyK s.P Try.f6) xk6_2) ⟨(t0::t1::t2::t3::t4::t5::t6::t7::t8::t9::t10::t11::t12::t13::t14::t15::t16::t17::t18::t19::t20::t21::t22::t23::t24::t25::t26::t27::t28::t29::t30::t31::t32::t33::t34::t35::t36::t37::t38::t39::t40::t41::t42::t43::t44::t45::t46::t47::t48::t49::t50::t51::t52::t53::t54::t55::t56::t57::t58::t59::t60::t61::t62::t63::t64::t65::t66::t67::t68::t69::t70::t71::t72::t73::t74::t75::t76::t77::t78::t79::t80::t81::t82::t83::t84::t85::t86::t87::t88::t89::t90::t91::t92::t93::t94::t95::t96::t97::t98::t99::t100::t101::t102::t103::t104::t105::t106::t107::t108::t109::t110::t111::t112::t113::t114::v134::(V.lit (Value.bool false))::uu::uu::uu::uu::uu::uu::t123::t124::t125::t126::t127::t128::t129::t130::t131::t132::t133::[]),h135⟩) (
  opsP (xX s 6 wl k false) xg6_2 30 m0 ac (runK (xX s 6 wl k false) (bodyK s.P Try.f6) xk6_2) ⟨(t0::t1::t2::t3::t4::t5::t6::t7::t8::t9::t10::t11::t12::t13::t14::t15::t16::t17::t18::t19::t20::t21::t22::t23::t24::t25::t26::t27::t28::t29::t30::t31::t32::t33::t34::t35::t36::t37::t38::t39::t40::t41::t42::t43::t44::t45::t46::t47::t48::t49::t50::t51::t52::t53::t54::t55::t56::t57::t58::t59::t60::t61::t62::t63::t64::t65::t66::t67::t68::t69::t70::t71::t72::t73::t74::t75::t76::t77::t78::t79::t80::t81::t82::t83::t84::t85::t86::t87::t88::t89::t90::t91::t92::t93::t94::t95::t96::t97::t98::t99::t100::t101::t102::t103::t104::t105::t106::t107::t108::t109::t110::t111::t112::t113::t114::v134::v134::uu::t118::t119::t120::t121::t122::t123::t124::t125::t126::t127::t128::t129::t130::t131::t132::t133::[]),h135⟩) :=
  (go_op1 xo6_8 xo6_8a rfl rfl rfl (st_no (by kernel_rfl) (st_bm (by kernel_rfl) fun v134 h135 =>
  (go_op1 xo6_8 xo6_8a rfl rfl rfl (st_no (by kernel_rfl) (st_id (v := v134) (H := h135) (by kernel_rfl)
  (go_gdT1 xo6_8 xo6_8a rfl rfl rfl rfl (by kernel_rfl)
  (st_no (by kernel_rfl) (st_id (v := t17) (H := h135) (by kernel_rfl)
  (go_run1 xo6_8 xo6_8a rfl rfl rfl rfl (by kernel_rfl) (st_no (by kernel_rfl) (st_id (v := t17) (H := h135) (by kernel_rfl)
  (by kernel_rfl))))))
  (go_skip1 xo6_8 rfl rfl rfl rfl (by kernel_rfl)
  (go_none1 (x := #[]) xo6_8 rfl rfl rfl rfl (by kernel_rfl)
  (go_none1 (x := #[]) xo6_8 rfl rfl rfl rfl (by kernel_rfl)
  (go_none1 (x := #[]) xo6_8 rfl rfl rfl rfl (by kernel_rfl)
  (go_skip1 xo6_8 rfl rfl rfl rfl (by kernel_rfl)
  (by kernel_rfl))))))
  (by kernel_rfl))))))))
theorem xm6_11 (s : Sys) (k wl : Nat) (m0 : Nat) (ac : List Nat × List Nat) (t0 t1 t2 t3 t4 t5 t6 t7 t8 t9 t10 t11 t12 t13 t14 t15 t16 t17 t18 t19 t20 t21 t22 t23 t24 t25 t26 t27 t28 t29 t30 t31 t32 t33 t34 t35 t36 t37 t38 t39 t40 t41 t42 t43 t44 t45 t46 t47 t48 t49 t50 t51 t52 t53 t54 t55 t56 t57 t58 t59 t60 t61 t62 t63 t64 t65 t66 t67 t68 t69 t70 t71 t72 t73 t74 t75 t76 t77 t78 t79 t80 t81 t82 t83 t84 t85 t86 t87 t88 t89 t90 t91 t92 t93 t94 t95 t96 t97 t98 t99 t100 t101 t102 t103 t104 t105 t106 t107 t108 t109 t110 t111 t112 t113 t114 t115 t116 t117 t118 t119 t120 t121 t122 t123 t124 t125 t126 t127 t128 t129 t130 t131 t132 t133 : V) (h : Hp) : opsP (xX s 6 wl k false) xg6_2 31 m0 ac (runK (xX s 6 wl k false) (bodyK s.P Try.f6) xk6_2) ⟨(t0::t1::t2::t3::t4::t5::t6::t7::t8::t9::t10::t11::t12::t13::t14::t15::t16::t17::t18::t19::t20::t21::t22::t23::t24::t25::t26::t27::t28::t29::t30::t31::t32::t33::t34::t35::t36::t37::t38::t39::t40::t41::t42::t43::t44::t45::t46::t47::t48::t49::t50::t51::t52::t53::t54::t55::t56::t57::t58::t59::t60::t61::t62::t63::t64::t65::t66::t67::t68::t69::t70::t71::t72::t73::t74::t75::t76::t77::t78::t79::t80::t81::t82::t83::t84::t85::t86::t87::t88::t89::t90::t91::t92::t93::t94::t95::t96::t97::t98::t99::t100::t101::t102::t103::t104::t105::t106::t107::t108::t109::t110::t111::t112::t113::t114::t115::t116::t117::t118::t119::t120::t121::t122::t123::t124::t125::t126::t127::t128::t129::t130::t131::t132::t133::[]),h⟩ =
  gd t118 (
  opsP (xX s 6 wl k false) xg6_2 34 m0 ac (runK (xX s 6 wl k false) (bodyK s.P Try.f6) xk6_2) ⟨(t0::t1::t2::t3::t4::t5::t6::t7::t8::t9::t10::t11::t12::t13::t14::t15::t16::t17::t18::t19::t20::t21::t22::t23::t24::t25::t26::t27::t28::t29::t30::t31::t32::t33::t34::t35::t36::t37::t38::t39::t40::t41::t42::t43::t44::t45::t46::t47::t48::t49::t50::t51::t52::t53::t54::t55::t56::t57::t58::t59::t60::t61::t62::t63::t64::t65::t66::t67::t68::t69::t70::t71::t72::t73::t74::t75::t76::t77::t78::t79::t80::t81::t82::t83::t84::t85::t86::t87::t88::t89::t90::t91::t92::t93::t94::t95::t96::t97::t98::t99::t100::t101::t102::t103::t104::t105::t106::t107::t108::t109::t110::t111::t112::t113::t114::t115::t116::t117::(V.lit (Value.bool true))::uu::uu::uu::t122::t123::t124::t125::t126::t127::t128::t129::t130::t131::t132::t133::[]),h⟩) (
  bp (opLen s.P 35 t15 h) fun v136 h137 =>
  bm (vBin s.P .eql 3 v136 (V.lit (Value.int .i64 1))) h137 fun v138 h139 =>
  opsP (xX s 6 wl k false) xg6_2 34 m0 ac (runK (xX s 6 wl k false) (bodyK s.P Try.f6) xk6_2) ⟨(t0::t1::t2::t3::t4::t5::t6::t7::t8::t9::t10::t11::t12::t13::t14::t15::t16::t17::t18::t19::t20::t21::t22::t23::t24::t25::t26::t27::t28::t29::t30::t31::t32::t33::t34::t35::t36::t37::t38::t39::t40::t41::t42::t43::t44::t45::t46::t47::t48::t49::t50::t51::t52::t53::t54::t55::t56::t57::t58::t59::t60::t61::t62::t63::t64::t65::t66::t67::t68::t69::t70::t71::t72::t73::t74::t75::t76::t77::t78::t79::t80::t81::t82::t83::t84::t85::t86::t87::t88::t89::t90::t91::t92::t93::t94::t95::t96::t97::t98::t99::t100::t101::t102::t103::t104::t105::t106::t107::t108::t109::t110::t111::t112::t113::t114::t115::t116::t117::(V.lit (Value.bool false))::t15::v136::v138::t122::t123::t124::t125::t126::t127::t128::t129::t130::t131::t132::t133::[]),h139⟩) (
  opsP (xX s 6 wl k false) xg6_2 32 m0 ac (runK (xX s 6 wl k false) (bodyK s.P Try.f6) xk6_2) ⟨(t0::t1::t2::t3::t4::t5::t6::t7::t8::t9::t10::t11::t12::t13::t14::t15::t16::t17::t18::t19::t20::t21::t22::t23::t24::t25::t26::t27::t28::t29::t30::t31::t32::t33::t34::t35::t36::t37::t38::t39::t40::t41::t42::t43::t44::t45::t46::t47::t48::t49::t50::t51::t52::t53::t54::t55::t56::t57::t58::t59::t60::t61::t62::t63::t64::t65::t66::t67::t68::t69::t70::t71::t72::t73::t74::t75::t76::t77::t78::t79::t80::t81::t82::t83::t84::t85::t86::t87::t88::t89::t90::t91::t92::t93::t94::t95::t96::t97::t98::t99::t100::t101::t102::t103::t104::t105::t106::t107::t108::t109::t110::t111::t112::t113::t114::t115::t116::t117::t118::uu::t120::t121::t122::t123::t124::t125::t126::t127::t128::t129::t130::t131::t132::t133::[]),h⟩) :=
  (go_gdF1 xo6_8 xo6_8a rfl rfl rfl rfl (by kernel_rfl)
  (go_skip1 xo6_8 rfl rfl rfl rfl (by kernel_rfl)
  (go_skip1 xo6_8 rfl rfl rfl rfl (by kernel_rfl)
  (by kernel_rfl)))
  (st_no (by kernel_rfl) (st_id (v := t15) (H := h) (by kernel_rfl)
  (go_run1 xo6_8 xo6_8a rfl rfl rfl rfl (by kernel_rfl) (st_no (by kernel_rfl) (st_bp (by kernel_rfl) fun v136 h137 =>
  (go_run1 xo6_8 xo6_8a rfl rfl rfl rfl (by kernel_rfl) (st_no (by kernel_rfl) (st_bm (by kernel_rfl) fun v138 h139 =>
  (by kernel_rfl)))))))))
  (by kernel_rfl))
theorem xm6_12 (s : Sys) (k wl : Nat) (m0 : Nat) (ac : List Nat × List Nat) (t0 t1 t2 t3 t4 t5 t6 t7 t8 t9 t10 t11 t12 t13 t14 t15 t16 t17 t18 t19 t20 t21 t22 t23 t24 t25 t26 t27 t28 t29 t30 t31 t32 t33 t34 t35 t36 t37 t38 t39 t40 t41 t42 t43 t44 t45 t46 t47 t48 t49 t50 t51 t52 t53 t54 t55 t56 t57 t58 t59 t60 t61 t62 t63 t64 t65 t66 t67 t68 t69 t70 t71 t72 t73 t74 t75 t76 t77 t78 t79 t80 t81 t82 t83 t84 t85 t86 t87 t88 t89 t90 t91 t92 t93 t94 t95 t96 t97 t98 t99 t100 t101 t102 t103 t104 t105 t106 t107 t108 t109 t110 t111 t112 t113 t114 t115 t116 t117 t118 t119 t120 t121 t122 t123 t124 t125 t126 t127 t128 t129 t130 t131 t132 t133 : V) (h : Hp) : opsP (xX s 6 wl k false) xg6_2 35 m0 ac (runK (xX s 6 wl k false) (bodyK s.P Try.f6) xk6_2) ⟨(t0::t1::t2::t3::t4::t5::t6::t7::t8::t9::t10::t11::t12::t13::t14::t15::t16::t17::t18::t19::t20::t21::t22::t23::t24::t25::t26::t27::t28::t29::t30::t31::t32::t33::t34::t35::t36::t37::t38::t39::t40::t41::t42::t43::t44::t45::t46::t47::t48::t49::t50::t51::t52::t53::t54::t55::t56::t57::t58::t59::t60::t61::t62::t63::t64::t65::t66::t67::t68::t69::t70::t71::t72::t73::t74::t75::t76::t77::t78::t79::t80::t81::t82::t83::t84::t85::t86::t87::t88::t89::t90::t91::t92::t93::t94::t95::t96::t97::t98::t99::t100::t101::t102::t103::t104::t105::t106::t107::t108::t109::t110::t111::t112::t113::t114::t115::t116::t117::t118::t119::t120::t121::t122::t123::t124::t125::t126::t127::t128::t129::t130::t131::t132::t133::[]),h⟩ =
  bm (vPick t116 t122 (V.lit (Value.bool false))) h fun v140 h141 =>
  gd v140 (
  bm (vFieldAddr s.P 32 t14 1) h141 fun v142 h143 =>
  bm (vLoad s.P 27 v142 h143) h143 fun v144 h145 =>
  bp (opLen s.P 27 v144 h145) fun v146 h147 =>
  bm (vFieldAddr s.P 32 t9 1) h147 fun v148 h149 =>
  bm (vLoad s.P 27 v148 h149) h149 fun v150 h151 =>
  bp (opLen s.P 27 v150 h151) fun v152 h153 =>
  bm (vBin s.P .sub 3 v152 (V.lit (Value.int .i64 1))) h153 fun v154 h155 =>
  bm (vBin s.P .eql 3 v146 v154) h155 fun v156 h157 =>
  opsP (xX s 6 wl k false) xg6_2 45 m0 ac (runK (xX s 6 wl k false) (bodyK s.P Try.f6) xk6_2) ⟨(t0::t1::t2::t3::t4::t5::t6::t7::t8::t9::t10::t11::t12::t13::t14::t15::t16::t17::t18::t19::t20::t21::t22::t23::t24::t25::t26::t27::t28::t29::t30::t31::t32::t33::t34::t35::t36::t37::t38::t39::t40::t41::t42::t43::t44::t45::t46::t47::t48::t49::t50::t51::t52::t53::t54::t55::t56::t57::t58::t59::t60::t61::t62::t63::t64::t65::t66::t67::t68::t69::t70::t71::t72::t73::t74::t75::t76::t77::t78::t79::t80::t81::t82::t83::t84::t85::t86::t87::t88::t89::t90::t91::t92::t93::t94::t95::t96::t97::t98::t99::t100::t101::t102::t103::t104::t105::t106::t107::t108::t109::t110::t111::t112::t113::t114::t115::t116::t117::t118::t119::t120::t121::t122::v140::(V.lit (Value.bool true))::v142::v144::v146::v148::v150::v152::v154::v156::t133::[]),h157⟩) (
  opsP (xX s 6 wl k false) xg6_2 45 m0 ac (runK (xX s 6 wl k false) (bodyK s.P Try.f6) xk6_2) ⟨(t0::t1::t2::t3::t4::t5::t6::t7::t8::t9::t10::t11::t12::t13::t14::t15::t16::t17::t18::t19::t20::t21::t22::t23::t24::t25::t26::t27::t28::t29::t30::t31::t32::t33::t34::t35::t36::t37::t38::t39::t40::t41::t42::t43::t44::t45::t46::t47::t48::t49::t50::t51::t52::t53::t54::t55::t56::t57::t58::t59::t60::t61::t62::t63::t64::t65::t66::t67::t68::t69::t70::t71::t72::t73::t74::t75::t76::t77::t78::t79::t80::t81::t82::t83::t84::t85::t86::t87::t88::t89::t90::t91::t92::t93::t94::t95::t96::t97::t98::t99::t100::t101::t102::t103::t104::t105::t106::t107::t108::t109::t110::t111::t112::t113::t114::t115::t116::t117::t118::t119::t120::t121::t122::v140::(V.lit (Value.bool false))::uu::uu::uu::uu::uu::uu::uu::uu::t133::[]),h141⟩) (
  opsP (xX s 6 wl k false) xg6_2 38 m0 ac (runK (xX s 6 wl k false) (bodyK s.P Try.f6) xk6_2) ⟨(t0::t1::t2::t3::t4::t5::t6::t7::t8::t9::t10::t11::t12::t13::t14::t15::t16::t17::t18::t19::t20::t21::t22::t23::t24::t25::t26::t27::t28::t29::t30::t31::t32::t33::t34::t35::t36::t37::t38::t39::t40::t41::t42::t43::t44::t45::t46::t47::t48::t49::t50::t51::t52::t53::t54::t55::t56::t57::t58::t59::t60::t61::t62::t63::t64::t65::t66::t67::t68::t69::t70::t71::t72::t73::t74::t75::t76::t77::t78::t79::t80::t81::t82::t83::t84::t85::t86::t87::t88::t89::t90::t91::t92::t93::t94::t95::t96::t97::t98::t99::t100::t101::t102::t103::t104::t105::t106::t107::t108::t109::t110::t111::t112::t113::t114::t115::t116::t117::t118::t119::t120::t121::t122::v140::v140::uu::t126::t127::t128::t129::t130::t131::t132::t133::[]),h141⟩) :=
  (go_op1 xo6_8 xo6_8a rfl rfl rfl (st_no (by kernel_rfl) (st_bm (by kernel_rfl) fun v140 h141 =>
  (go_op1 xo6_8 xo6_8a rfl rfl rfl (st_no (by kernel_rfl) (st_id (v := v140) (H := h141) (by kernel_rfl)
  (go_gdT1 xo6_8 xo6_8a rfl rfl rfl rfl (by kernel_rfl)
  (st_no (by kernel_rfl) (st_bm (by kernel_rfl) fun v142 h143 =>
  (go_run1 xo6_8 xo6_8a rfl rfl rfl rfl (by kernel_rfl) (st_no (by kernel_rfl) (st_bm (by kernel_rfl) fun v144 h145 =>
  (go_run1 xo6_8 xo6_8a rfl rfl rfl rfl (by kernel_rfl) (st_no (by kernel_rfl) (st_bp (by kernel_rfl) fun v146 h147 =>
  (go_run1 xo6_8 xo6_8a rfl rfl rfl rfl (by kernel_rfl) (st_no (by kernel_rfl) (st_bm (by kernel_rfl) fun v148 h149 =>
  (go_run1 xo6_8 xo6_8a rfl rfl rfl rfl (by kernel_rfl) (st_no (by kernel_rfl) (st_bm (by kernel_rfl) fun v150 h151 =>
  (go_run1 xo6_8 xo6_8a rfl rfl rfl rfl (by kernel_rfl) (st_no (by kernel_rfl) (st_bp (by kernel_rfl) fun v152 h153 =>
  (go_run1 xo6_8 xo6_8a rfl rfl rfl rfl (by kernel_rfl) (st_no (by kernel_rfl) (st_bm (by kernel_rfl) fun v154 h155 =>
  (go_run1 xo6_8 xo6_8a rfl rfl rfl rfl (by kernel_rfl) (st_no (by kernel_rfl) (st_bm (by kernel_rfl) fun v156 h157 =>
  (by kernel_rfl))))))))))))))))))))))))
  (go_skip1 xo6_8 rfl rfl rfl rfl (by kernel_rfl)
  (go_skip1 xo6_8 rfl rfl rfl rfl (by kernel_rfl)
  (go_skip1 xo6_8 rfl rfl rfl rfl (by kernel_rfl)
  (go_skip1 xo6_8 rfl rfl rfl rfl (by kernel_rfl)
  (go_skip1 xo6_8 rfl rfl rfl rfl (by kernel_rfl)
  (go_skip1 xo6_8 rfl rfl rfl rfl (by kernel_rfl)
  (go_skip1 xo6_8 rfl rfl rfl rfl (by kernel_rfl)
  (by kernel_rfl))))))))
  (by kernel_rfl))))))))
theorem xm6_13 (s : Sys) (k wl : Nat) (m0 : Nat) (ac : List Nat × List Nat) (t0 t1 t2 t3 t4 t5 t6 t7 t8 t9 t10 t11 t12 t13 t14 t15 t16 t17 t18 t19 t20 t21 t22 t23 t24 t25 t26 t27 t28 t29 t30 t31 t32 t33 t34 t35 t36 t37 t38 t39 t40 t41 t42 t43 t44 t45 t46 t47 t48 t49 t50 t51 t52 t53 t54 t55 t56 t57 t58 t59 t60 t61 t62 t63 t64 t65 t66 t67 t68 t69 t70 t71 t72 t73 t74 t75 t76 t77 t78 t79 t80 t81 t82 t83 t84 t85 t86 t87 t88 t89 t90 t91 t92 t93 t94 t95 t96 t97 t98 t99 t100 t101 t102 t103 t104 t105 t106 t107 t108 t109 t110 t111 t112 t113 t114 t115 t116 t117 t118 t119 t120 t121 t122 t123 t124 t125 t126 t127 t128 t129 t130 t131 t132 t133 : V) (h : Hp) : opsP (xX s 6 wl k false) xg6_2 34 m0 ac (runK (xX s 6 wl k false) (bodyK s.P Try.f6) xk6_2) ⟨(t0::t1::t2::t3::t4::t5::t6::t7::t8::t9::t10::t11::t12::t13::t14::t15::t16::t17::t18::t19::t20::t21::t22::t23::t24::t25::t26::t27::t28::t29::t30::t31::t32::t33::t34::t35::t36::t37::t38::t39::t40::t41::t42::t43::t44::t45::t46::t47::t48::t49::t50::t51::t52::t53::t54::t55::t56::t57::t58::t59::t60::t61::t62::t63::t64::t65::t66::t67::t68::t69::t70::t71::t72::t73::t74::t75::t76::t77::t78::t79::t80::t81::t82::t83::t84::t85::t86::t87::t88::t89::t90::t91::t92::t93::t94::t95::t96::t97::t98::t99::t100::t101::t102::t103::t104::t105::t106::t107::t108::t109::t110::t111::t112::t113::t114::t115::t116::t117::t118::t119::t120::t121::t122::t123::t124::t125::t126::t127::t128::t129::t130::t131::t132::t133::[]),h⟩ =
  gd t116 (
  bm (vPick t118 (V.lit (Value.bool true)) t121) h fun v158 h159 =>
  opsP (xX s 6 wl k false) xg6_2 35 m0 ac (runK (xX s 6 wl k false) (bodyK s.P Try.f6) xk6_2) ⟨(t0::t1::t2::t3::t4::t5::t6::t7::t8::t9::t10::t11::t12::t13::t14::t15::t16::t17::t18::t19::t20::t21::t22::t23::t24::t25::t26::t27::t28::t29::t30::t31::t32::t33::t34::t35::t36::t37::t38::t39::t40::t41::t42::t43::t44::t45::t46::t47::t48::t49::t50::t51::t52::t53::t54::t55::t56::t57::t58::t59::t60::t61::t62::t63::t64::t65::t66::t67::t68::t69::t70::t71::t72::t73::t74::t75::t76::t77::t78::t79::t80::t81::t82::t83::t84::t85::t86::t87::t88::t89::t90::t91::t92::t93::t94::t95::t96::t97::t98::t99::t100::t101::t102::t103::t104::t105::t106::t107::t108::t109::t110::t111::t112::t113::t114::t115::(V.lit (Value.bool true))::t117::t118::t119::t120::t121::v158::t123::t124::t125::t126::t127::t128::t129::t130::t131::t132::t133::[]),h159⟩) (
  opsP (xX s 6 wl k false) xg6_2 35 m0 ac (runK (xX s 6 wl k false) (bodyK s.P Try.f6) xk6_2) ⟨(t0::t1::t2::t3::t4::t5::t6::t7::t8::t9::t10::t11::t12::t13::t14::t15::t16::t17::t18::t19::t20::t21::t22::t23::t24::t25::t26::t27::t28::t29::t30::t31::t32::t33::t34::t35::t36::t37::t38::t39::t40::t41::t42::t43::t44::t45::t46::t47::t48::t49::t50::t51::t52::t53::t54::t55::t56::t57::t58::t59::t60::t61::t62::t63::t64::t65::t66::t67::t68::t69::t70::t71::t72::t73::t74::t75::t76::t77::t78::t79::t80::t81::t82::t83::t84::t85::t86::t87::t88::t89::t90::t91::t92::t93::t94::t95::t96::t97::t98::t99::t100::t101::t102::t103::t104::t105::t106::t107::t108::t109::t110::t111::t112::t113::t114::t115::(V.lit (Value.bool false))::t117::t118::t119::t120::t121::uu::t123::t124::t125::t126::t127::t128::t129::t130::t131::t132::t133::[]),h⟩) (
  opsP (xX s 6 wl k false) xg6_2 35 m0 ac (runK (xX s 6 wl k false) (bodyK s.P Try.f6) xk6_2) ⟨(t0::t1::t2::t3::t4::t5::t6::t7::t8::t9::t10::t11::t12::t13::t14::t15::t16::t17::t18::t19::t20::t21::t22::t23::t24::t25::t26::t27::t28::t29::t30::t31::t32::t33::t34::t35::t36::t37::t38::t39::t40::t41::t42::t43::t44::t45::t46::t47::t48::t49::t50::t51::t52::t53::t54::t55::t56::t57::t58::t59::t60::t61::t62::t63::t64::t65::t66::t67::t68::t69::t70::t71::t72::t73::t74::t75::t76::t77::t78::t79::t80::t81::t82::t83::t84::t85::t86::t87::t88::t89::t90::t91::t92::t93::t94::t95::t96::t97::t98::t99::t100::t101::t102::t103::t104::t105::t106::t107::t108::t109::t110::t111::t112::t113::t114::t115::t116::t117::t118::t119::t120::t121::uu::t123::t124::t125::t126::t127::t128::t129::t130::t131::t132::t133::[]),h⟩) :=
  (go_gdT1 xo6_8 xo6_8a rfl rfl rfl rfl (by kernel_rfl)
  (st_no (by kernel_rfl) (st_bm (by kernel_rfl) fun v158 h159 =>
  (by kernel_rfl)))
  (by kernel_rfl)
  (by kernel_rfl))
theorem xm6_14 (s : Sys) (k wl : Nat) (m0 : Nat) (ac : List Nat × List Nat) (t0 t1 t2 t3 t4 t5 t6 t7 t8 t9 t10 t11 t12 t13 t14 t15 t16 t17 t18 t19 t20 t21 t22 t23 t24 t25 t26 t27 t28 t29 t30 t31 t32 t33 t34 t35 t36 t37 t38 t39 t40 t41 t42 t43 t44 t45 t46 t47 t48 t49 t50 t51 t52 t53 t54 t55 t56 t57 t58 t59 t60 t61 t62 t63 t64 t65 t66 t67 t68 t69 t70 t71 t72 t73 t74 t75 t76 t77 t78 t79 t80 t81 t82 t83 t84 t85 t86 t87 t88 t89 t90 t91 t92 t93 t94 t95 t96 t97 t98 t99 t100 t101 t102 t103 t104 t105 t106 t107 t108 t109 t110 t111 t112 t113 t114 t115 t116 t117 t118 t119 t120 t121 t122 t123 t124 t125 t126 t127 t128 t129 t130 t131 t132 t133 : V) (h : Hp) : opsP (xX s 6 wl k false) xg6_2 32 m0 ac (runK (xX s 6 wl k false) (bodyK s.P Try.f6) xk6_2) ⟨(t0::t1::t2::t3::t4::t5::t6::t7::t8::t9::t10::t11::t12::t13::t14::t15::t16::t17::t18::t19::t20::t21::t22::t23::t24::t25::t26::t27::t28::t29::t30::t31::t32::t33::t34::t35::t36::t37::t38::t39::t40::t41::t42::t43::t44::t45::t46::t47::t48::t49::t50::t51::t52::t53::t54::t55::t56::t57::t58::t59::t60::t61::t62::t63::t64::t65::t66::t67::t68::t69::t70::t71::t72::t73::t74::t75::t76::t77::t78::t79::t80::t81::t82::t83::t84::t85::t86::t87::t88::t89::t90::t91::t92::t93::t94::t95::t96::t97::t98::t99::t100::t101::t102::t103::t104::t105::t106::t107::t108::t109::t110::t111::t112::t113::t114::t115::t116::t117::t118::t119::t120::t121::t122::t123::t124::t125::t126::t127::t128::t129::t130::t131::t132::t133::[]),h⟩ =
  gd t118 (
  opsP (xX s 6 wl k false) xg6_2 34 m0 ac (runK (xX s 6 wl k false) (bodyK s.P Try.f6) xk6_2) ⟨(t0::t1::t2::t3::t4::t5::t6::t7::t8::t9::t10::t11::t12::t13::t14::t15::t16::t17::t18::t19::t20::t21::t22::t23::t24::t25::t26::t27::t28::t29::t30::t31::t32::t33::t34::t35::t36::t37::t38::t39::t40::t41::t42::t43::t44::t45::t46::t47::t48::t49::t50::t51::t52::t53::t54::t55::t56::t57::t58::t59::t60::t61::t62::t63::t64::t65::t66::t67::t68::t69::t70::t71::t72::t73::t74::t75::t76::t77::t78::t79::t80::t81::t82::t83::t84::t85::t86::t87::t88::t89::t90::t91::t92::t93::t94::t95::t96::t97::t98::t99::t100::t101::t102::t103::t104::t105::t106::t107::t108::t109::t110::t111::t112::t113::t114::t115::t116::t117::(V.lit (Value.bool true))::t119::uu::uu::t122::t123::t124::t125::t126::t127::t128::t129::t130::t131::t132::t133::[]),h⟩) (
  bp (opLen s.P 35 t119 h) fun v160 h161 =>
  bm (vBin s.P .eql 3 v160 (V.lit (Value.int .i64 1))) h161 fun v162 h163 =>
  opsP (xX s 6 wl k false) xg6_2 34 m0 ac (runK (xX s 6 wl k false) (bodyK s.P Try.f6) xk6_2) ⟨(t0::t1::t2::t3::t4::t5::t6::t7::t8::t9::t10::t11::t12::t13::t14::t15::t16::t17::t18::t19::t20::t21::t22::t23::t24::t25::t26::t27::t28::t29::t30::t31::t32::t33::t34::t35::t36::t37::t38::t39::t40::t41::t42::t43::t44::t45::t46::t47::t48::t49::t50::t51::t52::t53::t54::t55::t56::t57::t58::t59::t60::t61::t62::t63::t64::t65::t66::t67::t68::t69::t70::t71::t72::t73::t74::t75::t76::t77::t78::t79::t80::t81::t82::t83::t84::t85::t86::t87::t88::t89::t90::t91::t92::t93::t94::t95::t96::t97::t98::t99::t100::t101::t102::t103::t104::t105::t106::t107::t108::t109::t110::t111::t112::t113::t114::t115::t116::t117::(V.lit (Value.bool false))::t119::v160::v162::t122::t123::t124::t125::t126::t127::t128::t129::t130::t131::t132::t133::[]),h163⟩) (
  opsP (xX s 6 wl k false) xg6_2 33 m0 ac (runK (xX s 6 wl k false) (bodyK s.P Try.f6) xk6_2) ⟨(t0::t1::t2::t3::t4::t5::t6::t7::t8::t9::t10::t11::t12::t13::t14::t15::t16::t17::t18::t19::t20::t21::t22::t23::t24::t25::t26::t27::t28::t29::t30::t31::t32::t33::t34::t35::t36::t37::t38::t39::t40::t41::t42::t43::t44::t45::t46::t47::t48::t49::t50::t51::t52::t53::t54::t55::t56::t57::t58::t59::t60::t61::t62::t63::t64::t65::t66::t67::t68::t69::t70::t71::t72::t73::t74::t75::t76::t77::t78::t79::t80::t81::t82::t83::t84::t85::t86::t87::t88::t89::t90::t91::t92::t93::t94::t95::t96::t97::t98::t99::t100::t101::t102::t103::t104::t105::t106::t107::t108::t109::t110::t111::t112::t113::t114::t115::t116::t117::t118::t119::uu::t121::t122::t123::t124::t125::t126::t127::t128::t129::t130::t131::t132::t133::[]),h⟩) :=
  (go_gdF1 xo6_8 xo6_8a rfl rfl rfl rfl (by kernel_rfl)
  (go_skip1 xo6_8 rfl rfl rfl rfl (by kernel_rfl)
  (by kernel_rfl))
  (st_no (by kernel_rfl) (st_bp (by kernel_rfl) fun v160 h161 =>
  (go_run1 xo6_8 xo6_8a rfl rfl rfl rfl (by kernel_rfl) (st_no (by kernel_rfl) (st_bm (by kernel_rfl) fun v162 h163 =>
  (by kernel_rfl))))))
  (by kernel_rfl))
theorem xm6_15 (s : Sys) (k wl : Nat) (m0 : Nat) (ac : List Nat × List Nat) (t0 t1 t2 t3 t4 t5 t6 t7 t8 t9 t10 t11 t12 t13 t14 t15 t16 t17 t18 t19 t20 t21 t22 t23 t24 t25 t26 t27 t28 t29 t30 t31 t32 t33 t34 t35 t36 t37 t38 t39 t40 t41 t42 t43 t44 t45 t46 t47 t48 t49 t50 t51 t52 t53 t54 t55 t56 t57 t58 t59 t60 t61 t62 t63 t64 t65 t66 t67 t68 t69 t70 t71 t72 t73 t74 t75 t76 t77 t78 t79 t80 t81 t82 t83 t84 t85 t86 t87 t88 t89 t90 t91 t92 t93 t94 t95 t96 t97 t98 t99 t100 t101 t102 t103 t104 t105 t106 t107 t108 t109 t110 t111 t112 t113 t114 t115 t116 t117 t118 t119 t120 t121 t122 t123 t124 t125 t126 t127 t128 t129 t130 t131 t132 t133 : V) (h : Hp) : opsP (xX s 6 wl k false) xg6_2 45 m0 ac (runK (xX s 6 wl k false) (bodyK s.P Try.f6) xk6_2) ⟨(t0::t1::t2::t3::t4::t5::t6::t7::t8::t9::t10::t11::t12::t13::t14::t15::t16::t17::t18::t19::t20::t21::t22::t23::t24::t25::t26::t27::t28::t29::t30::t31::t32::t33::t34::t35::t36::t37::t38::t39::t40::t41::t42::t43::t44::t45::t46::t47::t48::t49::t50::t51::t52::t53::t54::t55::t56::t57::t58::t59::t60::t61::t62::t63::t64::t65::t66::t67::t68::t69::t70::t71::t72::t73::t74::t75::t76::t77::t78::t79::t80::t81::t82::t83::t84::t85::t86::t87::t88::t89::t90::t91::t92::t93::t94::t95::t96::t97::t98::t99::t100::t101::t102::t103::t104::t105::t106::t107::t108::t109::t110::t111::t112::t113::t114::t115::t116::t117::t118::t119::t120::t121::t122::t123::t124::t125::t126::t127::t128::t129::t130::t131::t132::t133::[]),h⟩ =
  bm (vPick t124 t132 (V.lit (Value.bool false))) h fun v164 h165 =>
  some (v164,h165) :=
  (go_op1 xo6_8 xo6_8a rfl rfl rfl (st_no (by kernel_rfl) (st_bm (by kernel_rfl) fun v164 h165 =>
  (go_op1 xo6_8 xo6_8a rfl rfl rfl (st_no (by kernel_rfl) (st_id (v := v164) (H := h165) (by kernel_rfl)
  (go_end1 xo6_8 (by kernel_rfl) xo6_8a
  (go_ret (by kernel_rfl)))))))))
theorem xm6_16 (s : Sys) (k wl : Nat) (m0 : Nat) (ac : List Nat × List Nat) (t0 t1 t2 t3 t4 t5 t6 t7 t8 t9 t10 t11 t12 t13 t14 t15 t16 t17 t18 t19 t20 t21 t22 t23 t24 t25 t26 t27 t28 t29 t30 t31 t32 t33 t34 t35 t36 t37 t38 t39 t40 t41 t42 t43 t44 t45 t46 t47 t48 t49 t50 t51 t52 t53 t54 t55 t56 t57 t58 t59 t60 t61 t62 t63 t64 t65 t66 t67 t68 t69 t70 t71 t72 t73 t74 t75 t76 t77 t78 t79 t80 t81 t82 t83 t84 t85 t86 t87 t88 t89 t90 t91 t92 t93 t94 t95 t96 t97 t98 t99 t100 t101 t102 t103 t104 t105 t106 t107 t108 t109 t110 t111 t112 t113 t114 t115 t116 t117 t118 t119 t120 t121 t122 t123 t124 t125 t126 t127 t128 t129 t130 t131 t132 t133 : V) (h : Hp) : opsP (xX s 6 wl k false) xg6_2 33 m0 ac (runK (xX s 6 wl k false) (bodyK s.P Try.f6) xk6_2) ⟨(t0::t1::t2::t3::t4::t5::t6::t7::t8::t9::t10::t11::t12::t13::t14::t15::t16::t17::t18::t19::t20::t21::t22::t23::t24::t25::t26::t27::t28::t29::t30::t31::t32::t33::t34::t35::t36::t37::t38::t39::t40::t41::t42::t43::t44::t45::t46::t47::t48::t49::t50::t51::t52::t53::t54::t55::t56::t57::t58::t59::t60::t61::t62::t63::t64::t65::t66::t67::t68::t69::t70::t71::t72::t73::t74::t75::t76::t77::t78::t79::t80::t81::t82::t83::t84::t85::t86::t87::t88::t89::t90::t91::t92::t93::t94::t95::t96::t97::t98::t99::t100::t101::t102::t103::t104::t105::t106::t107::t108::t109::t110::t111::t112::t113::t114::t115::t116::t117::t118::t119::t120::t121::t122::t123::t124::t125::t126::t127::t128::t129::t130::t131::t132::t133::[]),h⟩ =
  gd t118 (
  opsP (xX s 6 wl k false) xg6_2 34 m0 ac (runK (xX s 6 wl k false) (bodyK s.P Try.f6) xk6_2) ⟨(t0::t1::t2::t3::t4::t5::t6::t7::t8::t9::t10::t11::t12::t13::t14::t15::t16::t17::t18::t19::t20::t21::t22::t23::t24::t25::t26::t27::t28::t29::t30::t31::t32::t33::t34::t35::t36::t37::t38::t39::t40::t41::t42::t43::t44::t45::t46::t47::t48::t49::t50::t51::t52::t53::t54::t55::t56::t57::t58::t59::t60::t61::t62::t63::t64::t65::t66::t67::t68::t69::t70::t71::t72::t73::t74::t75::t76::t77::t78::t79::t80::t81::t82::t83::t84::t85::t86::t87::t88::t89::t90::t91::t92::t93::t94::t95::t96::t97::t98::t99::t100::t101::t102::t103::t104::t105::t106::t107::t108::t109::t110::t111::t112::t113::t114::t115::t116::t117::(V.lit (Value.bool true))::t119::t120::uu::t122::t123::t124::t125::t126::t127::t128::t129::t130::t131::t132::t133::[]),h⟩) (
  bm (vBin s.P .eql 3 t120 (V.lit (Value.int .i64 1))) h fun v166 h167 =>
  opsP (xX s 6 wl k false) xg6_2 34 m0 ac (runK (xX s 6 wl k false) (bodyK s.P Try.f6) xk6_2) ⟨(t0::t1::t2::t3::t4::t5::t6::t7::t8::t9::t10::t11::t12::t13::t14::t15::t16::t17::t18::t19::t20::t21::t22::t23::t24::t25::t26::t27::t28::t29::t30::t31::t32::t33::t34::t35::t36::t37::t38::t39::t40::t41::t42::t43::t44::t45::t46::t47::t48::t49::t50::t51::t52::t53::t54::t55::t56::t57::t58::t59::t60::t61::t62::t63::t64::t65::t66::t67::t68::t69::t70::t71::t72::t73::t74::t75::t76::t77::t78::t79::t80::t81::t82::t83::t84::t85::t86::t87::t88::t89::t90::t91::t92::t93::t94::t95::t96::t97::t98::t99::t100::t101::t102::t103::t104::t105::t106::t107::t108::t109::t110::t111::t112::t113::t114::t115::t116::t117::(V.lit (Value.bool false))::t119::t120::v166::t122::t123::t124::t125::t126::t127::t128::t129::t130::t131::t132::t133::[]),h167⟩) (
  opsP (xX s 6 wl k false) xg6_2 34 m0 ac (runK (xX s 6 wl k false) (bodyK s.P Try.f6) xk6_2) ⟨(t0::t1::t2::t3::t4::t5::t6::t7::t8::t9::t10::t11::t12::t13::t14::t15::t16::t17::t18::t19::t20::t21::t22::t23::t24::t25::t26::t27::t28::t29::t30::t31::t32::t33::t34::t35::t36::t37::t38::t39::t40::t41::t42::t43::t44::t45::t46::t47::t48::t49::t50::t51::t52::t53::t54::t55::t56::t57::t58::t59::t60::t61::t62::t63::t64::t65::t66::t67::t68::t69::t70::t71::t72::t73::t74::t75::t76::t77::t78::t79::t80::t81::t82::t83::t84::t85::t86::t87::t88::t89::t90::t91::t92::t93::t94::t95::t96::t97::t98::t99::t100::t101::t102::t103::t104::t105::t106::t107::t108::t109::t110::t111::t112::t113::t114::t115::t116::t117::t118::t119::t120::uu::t122::t123::t124::t125::t126::t127::t128::t129::t130::t131::t132::t133::[]),h⟩) :=
  (go_gdF1 xo6_8 xo6_8a rfl rfl rfl rfl (by kernel_rfl)
  (by kernel_rfl)
  (st_no (by kernel_rfl) (st_bm (by kernel_rfl) fun v166 h167 =>
  (by kernel_rfl)))
  (by kernel_rfl))
theorem xk6_0_ret (cx : Cx) (K : Out → St → Option (V × Hp)) (s : St) : runK cx K xk6_0 .ret s = K .ret s := by kernel_rfl
theorem xk6_1_ret (cx : Cx) (K : Out → St → Option (V × Hp)) (s : St) : runK cx K xk6_1 .ret s = K .ret s := by kernel_rfl
theorem xk6_2_ret (cx : Cx) (K : Out → St → Option (V × Hp)) (s : St) : runK cx K xk6_2 .ret s = K .ret s := by kernel_rfl
-- names: xb6,xm6_0,xm6_1,xm6_2,xm6_3,xm6_4,xm6_5,xm6_6,xm6_7,xm6_8,xm6_9,xm6_10,xm6_11,xm6_12,xm6_13,xm6_14,xm6_15,xm6_16,xk6_0_ret,xk6_1_ret,xk6_2_ret
end Go.Ab
