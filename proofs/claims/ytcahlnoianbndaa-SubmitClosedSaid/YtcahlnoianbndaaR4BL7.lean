/- The program's code,point by point: printed by gen.py. -/
import Derived.Test.YtcahlnoianbndaaR4Seat
set_option linter.unusedVariables false
set_option linter.unusedSimpArgs false
set_option maxRecDepth 100000
set_option linter.unusedVariables false
namespace Go.Ab
open Go.Proofs
noncomputable def xg7_0 : Code := codeAt (bodyOf Try.f7) [1,1,1,0,0]
noncomputable def xk7_0 : List Fr := [.seq (codeAt (bodyOf Try.f7) [1,1,1,0,1]),.seq (codeAt (bodyOf Try.f7) [1,1,1,1])]
noncomputable def xg7_1 : Code := codeAt (bodyOf Try.f7) [1,1,1,1,1,1,0,1,0,0]
noncomputable def xg7_2 : Code := codeAt (bodyOf Try.f7) [1,1,1,1,1,1,0,1,0,1,1,0]
noncomputable def xk7_1 : List Fr := [.seq (codeAt (bodyOf Try.f7) [1,1,1,1,1,1,0,1,0,1,1,1]),.seq (codeAt (bodyOf Try.f7) [1,1,1,1,1,1,1])]
noncomputable def xg7_3 : Code := codeAt (bodyOf Try.f7) [1,1,1,1,1,1,1,0]
noncomputable def xk7_2 : List Fr := [.seq (codeAt (bodyOf Try.f7) [1,1,1,1,1,1,1,1])]
theorem xo7_8 : orderIx (opsOf xg7_1) = [11,0,1,2,3,4,5,6,7,8,9,10,12,13,14] := by kernel_rfl
theorem xo7_8a : (rgOf (opsOf xg7_1)).any = false := by kernel_rfl
theorem xo7_8r : regOk (opsOf xg7_1) = true := by kernel_rfl
theorem xo7_11 : orderIx (opsOf xg7_3) = [0,1,2,3,4,5,6,7,8,9,10,11,12,13,14,15,16,17,18,19,20,21,22,23,24,25,26,27,28,29,30,31,32,33,34,35] := by kernel_rfl
theorem xo7_11a : (rgOf (opsOf xg7_3)).any = false := by kernel_rfl
theorem xo7_11r : regOk (opsOf xg7_3) = true := by kernel_rfl
theorem xb7 (s : Sys) (k wl : Nat) (t0 t1 t2 t3 t4 : V) (h : Hp) : bodyV (xX s 7 wl k false) Try.f7 [t0,t1,t2,t3,t4] h =
  bp (opBox t0 h) fun v1 h2 =>
  bp (opBox t4 h2) fun v3 h4 =>
  bp (callV (xX s 7 wl k false) false true (.fn (.func 8) [] []) [] h4) fun v5 h6 =>
  bp (callV (xX s 7 wl k false) false true (.fn (.func 9) [] []) [t1] h6) fun v7 h8 =>
  bm (vUn .not v5) h8 fun v9 h10 =>
  gd v9 (
  opsP (xX s 7 wl k false) xg7_0 5 h8.length ([],[]) (runK (xX s 7 wl k false) (bodyK s.P Try.f7) xk7_0) ⟨(t0::t1::t2::t3::t4::v1::uu::uu::uu::v3::(V.lit (Value.bool false))::v5::v7::uu::uu::uu::uu::uu::uu::uu::uu::v5::t1::v7::v5::v9::(V.lit (Value.bool true))::uu::uu::uu::uu::uu::uu::uu::uu::uu::uu::uu::uu::uu::uu::uu::uu::uu::uu::uu::uu::uu::uu::uu::uu::uu::uu::uu::uu::uu::uu::uu::uu::uu::uu::uu::uu::uu::uu::uu::uu::uu::uu::uu::uu::uu::uu::uu::uu::uu::uu::uu::uu::uu::uu::uu::uu::uu::uu::uu::uu::uu::uu::uu::uu::uu::uu::uu::uu::uu::uu::uu::uu::uu::uu::uu::uu::uu::uu::uu::uu::uu::uu::uu::uu::uu::uu::uu::uu::uu::uu::uu::uu::uu::uu::uu::uu::uu::uu::uu::uu::uu::uu::uu::uu::[]),h10⟩) (
  bm (vUn .not v7) h10 fun v11 h12 =>
  opsP (xX s 7 wl k false) xg7_0 5 h8.length ([],[]) (runK (xX s 7 wl k false) (bodyK s.P Try.f7) xk7_0) ⟨(t0::t1::t2::t3::t4::v1::uu::uu::uu::v3::(V.lit (Value.bool false))::v5::v7::uu::uu::uu::uu::uu::uu::uu::uu::v5::t1::v7::v5::v9::(V.lit (Value.bool false))::v7::v11::uu::uu::uu::uu::uu::uu::uu::uu::uu::uu::uu::uu::uu::uu::uu::uu::uu::uu::uu::uu::uu::uu::uu::uu::uu::uu::uu::uu::uu::uu::uu::uu::uu::uu::uu::uu::uu::uu::uu::uu::uu::uu::uu::uu::uu::uu::uu::uu::uu::uu::uu::uu::uu::uu::uu::uu::uu::uu::uu::uu::uu::uu::uu::uu::uu::uu::uu::uu::uu::uu::uu::uu::uu::uu::uu::uu::uu::uu::uu::uu::uu::uu::uu::uu::uu::uu::uu::uu::uu::uu::uu::uu::uu::uu::uu::uu::uu::uu::uu::uu::uu::uu::[]),h12⟩) (
  opsP (xX s 7 wl k false) xg7_0 4 h8.length ([],[]) (runK (xX s 7 wl k false) (bodyK s.P Try.f7) xk7_0) ⟨(t0::t1::t2::t3::t4::v1::uu::uu::uu::v3::(V.lit (Value.bool false))::v5::v7::uu::uu::uu::uu::uu::uu::uu::uu::v5::t1::v7::v5::v9::v9::uu::uu::uu::uu::uu::uu::uu::uu::uu::uu::uu::uu::uu::uu::uu::uu::uu::uu::uu::uu::uu::uu::uu::uu::uu::uu::uu::uu::uu::uu::uu::uu::uu::uu::uu::uu::uu::uu::uu::uu::uu::uu::uu::uu::uu::uu::uu::uu::uu::uu::uu::uu::uu::uu::uu::uu::uu::uu::uu::uu::uu::uu::uu::uu::uu::uu::uu::uu::uu::uu::uu::uu::uu::uu::uu::uu::uu::uu::uu::uu::uu::uu::uu::uu::uu::uu::uu::uu::uu::uu::uu::uu::uu::uu::uu::uu::uu::uu::uu::uu::uu::uu::uu::uu::[]),h10⟩) :=
  bodyV_run rfl (go_seq (go_reg0
  (go_op0 rfl rfl (st_bp (by kernel_rfl) fun v1 h2 =>
  (go_op0 rfl rfl (st_bp (by kernel_rfl) fun v3 h4 =>
  (go_op0 rfl rfl (st_id (v := (V.lit (Value.bool false))) (H := h4) (by kernel_rfl)
  (go_end0 (by kernel_rfl)
  (go_seq (go_reg0
  (go_op0 rfl rfl (st_bp (by kernel_rfl) fun v5 h6 =>
  (go_op0 rfl rfl (st_id (v := v5) (H := h6) (by kernel_rfl)
  (go_end0 (by kernel_rfl)
  (go_seq (go_reg0
  (go_op0 rfl rfl (st_id (v := t1) (H := h6) (by kernel_rfl)
  (go_op0 rfl rfl (st_bp (by kernel_rfl) fun v7 h8 =>
  (go_op0 rfl rfl (st_id (v := v7) (H := h8) (by kernel_rfl)
  (go_end0 (by kernel_rfl)
  (go_seq (go_seq (go_reg0
  (go_op0 rfl rfl (st_id (v := v5) (H := h8) (by kernel_rfl)
  (go_op0 rfl rfl (st_bm (by kernel_rfl) fun v9 h10 =>
  (go_op0 rfl rfl (st_id (v := v9) (H := h10) (by kernel_rfl)
  (go_gdF0 rfl rfl rfl (by kernel_rfl)
  (go_skip0 rfl rfl rfl (by kernel_rfl)
  (by kernel_rfl))
  (st_id (v := v7) (H := h10) (by kernel_rfl)
  (go_run0 rfl rfl rfl (by kernel_rfl) (st_bm (by kernel_rfl) fun v11 h12 =>
  (by kernel_rfl))))
  (by kernel_rfl))))))))))))))))))))))))))))))))))))
theorem xe7 (k wl : Nat) (t0 t1 t2 t3 t4 : V) (h : Hp) : evF Try.prog xM (k + 1) wl 7 [t0,t1,t2,t3,t4] h = bodyV (xX (xS k) 7 wl k false) Try.f7 [t0,t1,t2,t3,t4] h := by kernel_rfl
theorem xm7_0 (s : Sys) (k wl : Nat) (m0 : Nat) (ac : List Nat × List Nat) (t0 t1 t2 t3 t4 t5 t6 t7 t8 t9 t10 t11 t12 t13 t14 t15 t16 t17 t18 t19 t20 t21 t22 t23 t24 t25 t26 t27 t28 t29 t30 t31 t32 t33 t34 t35 t36 t37 t38 t39 t40 t41 t42 t43 t44 t45 t46 t47 t48 t49 t50 t51 t52 t53 t54 t55 t56 t57 t58 t59 t60 t61 t62 t63 t64 t65 t66 t67 t68 t69 t70 t71 t72 t73 t74 t75 t76 t77 t78 t79 t80 t81 t82 t83 t84 t85 t86 t87 t88 t89 t90 t91 t92 t93 t94 t95 t96 t97 t98 t99 t100 t101 t102 t103 t104 t105 t106 t107 t108 t109 t110 t111 t112 t113 t114 t115 t116 t117 t118 t119 t120 t121 t122 t123 t124 t125 t126 t127 t128 t129 t130 : V) (h : Hp) : opsP (xX s 7 wl k false) xg7_0 5 m0 ac (runK (xX s 7 wl k false) (bodyK s.P Try.f7) xk7_0) ⟨(t0::t1::t2::t3::t4::t5::t6::t7::t8::t9::t10::t11::t12::t13::t14::t15::t16::t17::t18::t19::t20::t21::t22::t23::t24::t25::t26::t27::t28::t29::t30::t31::t32::t33::t34::t35::t36::t37::t38::t39::t40::t41::t42::t43::t44::t45::t46::t47::t48::t49::t50::t51::t52::t53::t54::t55::t56::t57::t58::t59::t60::t61::t62::t63::t64::t65::t66::t67::t68::t69::t70::t71::t72::t73::t74::t75::t76::t77::t78::t79::t80::t81::t82::t83::t84::t85::t86::t87::t88::t89::t90::t91::t92::t93::t94::t95::t96::t97::t98::t99::t100::t101::t102::t103::t104::t105::t106::t107::t108::t109::t110::t111::t112::t113::t114::t115::t116::t117::t118::t119::t120::t121::t122::t123::t124::t125::t126::t127::t128::t129::t130::[]),h⟩ =
  bm (vPick t26 (V.lit (Value.bool true)) t28) h fun v13 h14 =>
  gd v13 (
  opsP (xX s 7 wl k false) xg7_0 10 m0 ac (runK (xX s 7 wl k false) (bodyK s.P Try.f7) xk7_0) ⟨(t0::t1::t2::t3::t4::t5::t6::t7::t8::t9::t10::t11::t12::t13::t14::t15::t16::t17::t18::t19::t20::t21::t22::t23::t24::t25::t26::t27::t28::v13::(V.lit (Value.bool true))::uu::uu::uu::t34::t35::t36::t37::t38::t39::t40::t41::t42::t43::t44::t45::t46::t47::t48::t49::t50::t51::t52::t53::t54::t55::t56::t57::t58::t59::t60::t61::t62::t63::t64::t65::t66::t67::t68::t69::t70::t71::t72::t73::t74::t75::t76::t77::t78::t79::t80::t81::t82::t83::t84::t85::t86::t87::t88::t89::t90::t91::t92::t93::t94::t95::t96::t97::t98::t99::t100::t101::t102::t103::t104::t105::t106::t107::t108::t109::t110::t111::t112::t113::t114::t115::t116::t117::t118::t119::t120::t121::t122::t123::t124::t125::t126::t127::t128::t129::t130::[]),h14⟩) (
  bp (opLen s.P 26 t2 h14) fun v15 h16 =>
  bm (vBin s.P .gtr 3 v15 (V.lit (Value.int .i64 500))) h16 fun v17 h18 =>
  opsP (xX s 7 wl k false) xg7_0 10 m0 ac (runK (xX s 7 wl k false) (bodyK s.P Try.f7) xk7_0) ⟨(t0::t1::t2::t3::t4::t5::t6::t7::t8::t9::t10::t11::t12::t13::t14::t15::t16::t17::t18::t19::t20::t21::t22::t23::t24::t25::t26::t27::t28::v13::(V.lit (Value.bool false))::t2::v15::v17::t34::t35::t36::t37::t38::t39::t40::t41::t42::t43::t44::t45::t46::t47::t48::t49::t50::t51::t52::t53::t54::t55::t56::t57::t58::t59::t60::t61::t62::t63::t64::t65::t66::t67::t68::t69::t70::t71::t72::t73::t74::t75::t76::t77::t78::t79::t80::t81::t82::t83::t84::t85::t86::t87::t88::t89::t90::t91::t92::t93::t94::t95::t96::t97::t98::t99::t100::t101::t102::t103::t104::t105::t106::t107::t108::t109::t110::t111::t112::t113::t114::t115::t116::t117::t118::t119::t120::t121::t122::t123::t124::t125::t126::t127::t128::t129::t130::[]),h18⟩) (
  opsP (xX s 7 wl k false) xg7_0 8 m0 ac (runK (xX s 7 wl k false) (bodyK s.P Try.f7) xk7_0) ⟨(t0::t1::t2::t3::t4::t5::t6::t7::t8::t9::t10::t11::t12::t13::t14::t15::t16::t17::t18::t19::t20::t21::t22::t23::t24::t25::t26::t27::t28::v13::v13::uu::t32::t33::t34::t35::t36::t37::t38::t39::t40::t41::t42::t43::t44::t45::t46::t47::t48::t49::t50::t51::t52::t53::t54::t55::t56::t57::t58::t59::t60::t61::t62::t63::t64::t65::t66::t67::t68::t69::t70::t71::t72::t73::t74::t75::t76::t77::t78::t79::t80::t81::t82::t83::t84::t85::t86::t87::t88::t89::t90::t91::t92::t93::t94::t95::t96::t97::t98::t99::t100::t101::t102::t103::t104::t105::t106::t107::t108::t109::t110::t111::t112::t113::t114::t115::t116::t117::t118::t119::t120::t121::t122::t123::t124::t125::t126::t127::t128::t129::t130::[]),h14⟩) :=
  (go_op0 rfl rfl (st_bm (by kernel_rfl) fun v13 h14 =>
  (go_op0 rfl rfl (st_id (v := v13) (H := h14) (by kernel_rfl)
  (go_gdF0 rfl rfl rfl (by kernel_rfl)
  (go_skip0 rfl rfl rfl (by kernel_rfl)
  (go_skip0 rfl rfl rfl (by kernel_rfl)
  (by kernel_rfl)))
  (st_id (v := t2) (H := h14) (by kernel_rfl)
  (go_run0 rfl rfl rfl (by kernel_rfl) (st_bp (by kernel_rfl) fun v15 h16 =>
  (go_run0 rfl rfl rfl (by kernel_rfl) (st_bm (by kernel_rfl) fun v17 h18 =>
  (by kernel_rfl))))))
  (by kernel_rfl))))))
theorem xm7_1 (s : Sys) (k wl : Nat) (m0 : Nat) (ac : List Nat × List Nat) (t0 t1 t2 t3 t4 t5 t6 t7 t8 t9 t10 t11 t12 t13 t14 t15 t16 t17 t18 t19 t20 t21 t22 t23 t24 t25 t26 t27 t28 t29 t30 t31 t32 t33 t34 t35 t36 t37 t38 t39 t40 t41 t42 t43 t44 t45 t46 t47 t48 t49 t50 t51 t52 t53 t54 t55 t56 t57 t58 t59 t60 t61 t62 t63 t64 t65 t66 t67 t68 t69 t70 t71 t72 t73 t74 t75 t76 t77 t78 t79 t80 t81 t82 t83 t84 t85 t86 t87 t88 t89 t90 t91 t92 t93 t94 t95 t96 t97 t98 t99 t100 t101 t102 t103 t104 t105 t106 t107 t108 t109 t110 t111 t112 t113 t114 t115 t116 t117 t118 t119 t120 t121 t122 t123 t124 t125 t126 t127 t128 t129 t130 : V) (h : Hp) : opsP (xX s 7 wl k false) xg7_0 10 m0 ac (runK (xX s 7 wl k false) (bodyK s.P Try.f7) xk7_0) ⟨(t0::t1::t2::t3::t4::t5::t6::t7::t8::t9::t10::t11::t12::t13::t14::t15::t16::t17::t18::t19::t20::t21::t22::t23::t24::t25::t26::t27::t28::t29::t30::t31::t32::t33::t34::t35::t36::t37::t38::t39::t40::t41::t42::t43::t44::t45::t46::t47::t48::t49::t50::t51::t52::t53::t54::t55::t56::t57::t58::t59::t60::t61::t62::t63::t64::t65::t66::t67::t68::t69::t70::t71::t72::t73::t74::t75::t76::t77::t78::t79::t80::t81::t82::t83::t84::t85::t86::t87::t88::t89::t90::t91::t92::t93::t94::t95::t96::t97::t98::t99::t100::t101::t102::t103::t104::t105::t106::t107::t108::t109::t110::t111::t112::t113::t114::t115::t116::t117::t118::t119::t120::t121::t122::t123::t124::t125::t126::t127::t128::t129::t130::[]),h⟩ =
  bm (vPick t30 (V.lit (Value.bool true)) t33) h fun v19 h20 =>
  gd v19 (
  opsP (xX s 7 wl k false) xg7_0 16 m0 ac (runK (xX s 7 wl k false) (bodyK s.P Try.f7) xk7_0) ⟨(t0::t1::t2::t3::t4::t5::t6::t7::t8::t9::t10::t11::t12::t13::t14::t15::t16::t17::t18::t19::t20::t21::t22::t23::t24::t25::t26::t27::t28::t29::t30::t31::t32::t33::v19::(V.lit (Value.bool true))::uu::uu::uu::uu::t40::t41::t42::t43::t44::t45::t46::t47::t48::t49::t50::t51::t52::t53::t54::t55::t56::t57::t58::t59::t60::t61::t62::t63::t64::t65::t66::t67::t68::t69::t70::t71::t72::t73::t74::t75::t76::t77::t78::t79::t80::t81::t82::t83::t84::t85::t86::t87::t88::t89::t90::t91::t92::t93::t94::t95::t96::t97::t98::t99::t100::t101::t102::t103::t104::t105::t106::t107::t108::t109::t110::t111::t112::t113::t114::t115::t116::t117::t118::t119::t120::t121::t122::t123::t124::t125::t126::t127::t128::t129::t130::[]),h20⟩) (
  bm (vFieldAddr s.P 32 t9 1) h20 fun v21 h22 =>
  bm (vLoad s.P 27 v21 h22) h22 fun v23 h24 =>
  bp (opLen s.P 27 v23 h24) fun v25 h26 =>
  bm (vBin s.P .gtr 3 v25 (V.lit (Value.int .i64 60))) h26 fun v27 h28 =>
  opsP (xX s 7 wl k false) xg7_0 16 m0 ac (runK (xX s 7 wl k false) (bodyK s.P Try.f7) xk7_0) ⟨(t0::t1::t2::t3::t4::t5::t6::t7::t8::t9::t10::t11::t12::t13::t14::t15::t16::t17::t18::t19::t20::t21::t22::t23::t24::t25::t26::t27::t28::t29::t30::t31::t32::t33::v19::(V.lit (Value.bool false))::v21::v23::v25::v27::t40::t41::t42::t43::t44::t45::t46::t47::t48::t49::t50::t51::t52::t53::t54::t55::t56::t57::t58::t59::t60::t61::t62::t63::t64::t65::t66::t67::t68::t69::t70::t71::t72::t73::t74::t75::t76::t77::t78::t79::t80::t81::t82::t83::t84::t85::t86::t87::t88::t89::t90::t91::t92::t93::t94::t95::t96::t97::t98::t99::t100::t101::t102::t103::t104::t105::t106::t107::t108::t109::t110::t111::t112::t113::t114::t115::t116::t117::t118::t119::t120::t121::t122::t123::t124::t125::t126::t127::t128::t129::t130::[]),h28⟩) (
  opsP (xX s 7 wl k false) xg7_0 13 m0 ac (runK (xX s 7 wl k false) (bodyK s.P Try.f7) xk7_0) ⟨(t0::t1::t2::t3::t4::t5::t6::t7::t8::t9::t10::t11::t12::t13::t14::t15::t16::t17::t18::t19::t20::t21::t22::t23::t24::t25::t26::t27::t28::t29::t30::t31::t32::t33::v19::v19::uu::t37::t38::t39::t40::t41::t42::t43::t44::t45::t46::t47::t48::t49::t50::t51::t52::t53::t54::t55::t56::t57::t58::t59::t60::t61::t62::t63::t64::t65::t66::t67::t68::t69::t70::t71::t72::t73::t74::t75::t76::t77::t78::t79::t80::t81::t82::t83::t84::t85::t86::t87::t88::t89::t90::t91::t92::t93::t94::t95::t96::t97::t98::t99::t100::t101::t102::t103::t104::t105::t106::t107::t108::t109::t110::t111::t112::t113::t114::t115::t116::t117::t118::t119::t120::t121::t122::t123::t124::t125::t126::t127::t128::t129::t130::[]),h20⟩) :=
  (go_op0 rfl rfl (st_bm (by kernel_rfl) fun v19 h20 =>
  (go_op0 rfl rfl (st_id (v := v19) (H := h20) (by kernel_rfl)
  (go_gdF0 rfl rfl rfl (by kernel_rfl)
  (go_skip0 rfl rfl rfl (by kernel_rfl)
  (go_skip0 rfl rfl rfl (by kernel_rfl)
  (go_skip0 rfl rfl rfl (by kernel_rfl)
  (by kernel_rfl))))
  (st_bm (by kernel_rfl) fun v21 h22 =>
  (go_run0 rfl rfl rfl (by kernel_rfl) (st_bm (by kernel_rfl) fun v23 h24 =>
  (go_run0 rfl rfl rfl (by kernel_rfl) (st_bp (by kernel_rfl) fun v25 h26 =>
  (go_run0 rfl rfl rfl (by kernel_rfl) (st_bm (by kernel_rfl) fun v27 h28 =>
  (by kernel_rfl))))))))
  (by kernel_rfl))))))
theorem xm7_2 (s : Sys) (k wl : Nat) (m0 : Nat) (ac : List Nat × List Nat) (t0 t1 t2 t3 t4 t5 t6 t7 t8 t9 t10 t11 t12 t13 t14 t15 t16 t17 t18 t19 t20 t21 t22 t23 t24 t25 t26 t27 t28 t29 t30 t31 t32 t33 t34 t35 t36 t37 t38 t39 t40 t41 t42 t43 t44 t45 t46 t47 t48 t49 t50 t51 t52 t53 t54 t55 t56 t57 t58 t59 t60 t61 t62 t63 t64 t65 t66 t67 t68 t69 t70 t71 t72 t73 t74 t75 t76 t77 t78 t79 t80 t81 t82 t83 t84 t85 t86 t87 t88 t89 t90 t91 t92 t93 t94 t95 t96 t97 t98 t99 t100 t101 t102 t103 t104 t105 t106 t107 t108 t109 t110 t111 t112 t113 t114 t115 t116 t117 t118 t119 t120 t121 t122 t123 t124 t125 t126 t127 t128 t129 t130 : V) (h : Hp) : opsP (xX s 7 wl k false) xg7_0 16 m0 ac (runK (xX s 7 wl k false) (bodyK s.P Try.f7) xk7_0) ⟨(t0::t1::t2::t3::t4::t5::t6::t7::t8::t9::t10::t11::t12::t13::t14::t15::t16::t17::t18::t19::t20::t21::t22::t23::t24::t25::t26::t27::t28::t29::t30::t31::t32::t33::t34::t35::t36::t37::t38::t39::t40::t41::t42::t43::t44::t45::t46::t47::t48::t49::t50::t51::t52::t53::t54::t55::t56::t57::t58::t59::t60::t61::t62::t63::t64::t65::t66::t67::t68::t69::t70::t71::t72::t73::t74::t75::t76::t77::t78::t79::t80::t81::t82::t83::t84::t85::t86::t87::t88::t89::t90::t91::t92::t93::t94::t95::t96::t97::t98::t99::t100::t101::t102::t103::t104::t105::t106::t107::t108::t109::t110::t111::t112::t113::t114::t115::t116::t117::t118::t119::t120::t121::t122::t123::t124::t125::t126::t127::t128::t129::t130::[]),h⟩ =
  bm (vPick t35 (V.lit (Value.bool true)) t39) h fun v29 h30 =>
  gd v29 (
  opsP (xX s 7 wl k false) xg7_0 22 m0 ac (runK (xX s 7 wl k false) (bodyK s.P Try.f7) xk7_0) ⟨(t0::t1::t2::t3::t4::t5::t6::t7::t8::t9::t10::t11::t12::t13::t14::t15::t16::t17::t18::t19::t20::t21::t22::t23::t24::t25::t26::t27::t28::t29::t30::t31::t32::t33::t34::t35::t36::t37::t38::t39::v29::(V.lit (Value.bool true))::uu::uu::uu::uu::t46::t47::t48::t49::t50::t51::t52::t53::t54::t55::t56::t57::t58::t59::t60::t61::t62::t63::t64::t65::t66::t67::t68::t69::t70::t71::t72::t73::t74::t75::t76::t77::t78::t79::t80::t81::t82::t83::t84::t85::t86::t87::t88::t89::t90::t91::t92::t93::t94::t95::t96::t97::t98::t99::t100::t101::t102::t103::t104::t105::t106::t107::t108::t109::t110::t111::t112::t113::t114::t115::t116::t117::t118::t119::t120::t121::t122::t123::t124::t125::t126::t127::t128::t129::t130::[]),h30⟩) (
  bm (vFieldAddr s.P 32 t9 1) h30 fun v31 h32 =>
  bm (vLoad s.P 27 v31 h32) h32 fun v33 h34 =>
  bp (opLen s.P 27 v33 h34) fun v35 h36 =>
  bm (vBin s.P .eql 3 v35 (V.lit (Value.int .i64 0))) h36 fun v37 h38 =>
  opsP (xX s 7 wl k false) xg7_0 22 m0 ac (runK (xX s 7 wl k false) (bodyK s.P Try.f7) xk7_0) ⟨(t0::t1::t2::t3::t4::t5::t6::t7::t8::t9::t10::t11::t12::t13::t14::t15::t16::t17::t18::t19::t20::t21::t22::t23::t24::t25::t26::t27::t28::t29::t30::t31::t32::t33::t34::t35::t36::t37::t38::t39::v29::(V.lit (Value.bool false))::v31::v33::v35::v37::t46::t47::t48::t49::t50::t51::t52::t53::t54::t55::t56::t57::t58::t59::t60::t61::t62::t63::t64::t65::t66::t67::t68::t69::t70::t71::t72::t73::t74::t75::t76::t77::t78::t79::t80::t81::t82::t83::t84::t85::t86::t87::t88::t89::t90::t91::t92::t93::t94::t95::t96::t97::t98::t99::t100::t101::t102::t103::t104::t105::t106::t107::t108::t109::t110::t111::t112::t113::t114::t115::t116::t117::t118::t119::t120::t121::t122::t123::t124::t125::t126::t127::t128::t129::t130::[]),h38⟩) (
  opsP (xX s 7 wl k false) xg7_0 19 m0 ac (runK (xX s 7 wl k false) (bodyK s.P Try.f7) xk7_0) ⟨(t0::t1::t2::t3::t4::t5::t6::t7::t8::t9::t10::t11::t12::t13::t14::t15::t16::t17::t18::t19::t20::t21::t22::t23::t24::t25::t26::t27::t28::t29::t30::t31::t32::t33::t34::t35::t36::t37::t38::t39::v29::v29::uu::t43::t44::t45::t46::t47::t48::t49::t50::t51::t52::t53::t54::t55::t56::t57::t58::t59::t60::t61::t62::t63::t64::t65::t66::t67::t68::t69::t70::t71::t72::t73::t74::t75::t76::t77::t78::t79::t80::t81::t82::t83::t84::t85::t86::t87::t88::t89::t90::t91::t92::t93::t94::t95::t96::t97::t98::t99::t100::t101::t102::t103::t104::t105::t106::t107::t108::t109::t110::t111::t112::t113::t114::t115::t116::t117::t118::t119::t120::t121::t122::t123::t124::t125::t126::t127::t128::t129::t130::[]),h30⟩) :=
  (go_op0 rfl rfl (st_bm (by kernel_rfl) fun v29 h30 =>
  (go_op0 rfl rfl (st_id (v := v29) (H := h30) (by kernel_rfl)
  (go_gdF0 rfl rfl rfl (by kernel_rfl)
  (go_skip0 rfl rfl rfl (by kernel_rfl)
  (go_skip0 rfl rfl rfl (by kernel_rfl)
  (go_skip0 rfl rfl rfl (by kernel_rfl)
  (by kernel_rfl))))
  (st_bm (by kernel_rfl) fun v31 h32 =>
  (go_run0 rfl rfl rfl (by kernel_rfl) (st_bm (by kernel_rfl) fun v33 h34 =>
  (go_run0 rfl rfl rfl (by kernel_rfl) (st_bp (by kernel_rfl) fun v35 h36 =>
  (go_run0 rfl rfl rfl (by kernel_rfl) (st_bm (by kernel_rfl) fun v37 h38 =>
  (by kernel_rfl))))))))
  (by kernel_rfl))))))
theorem xm7_3 (s : Sys) (k wl : Nat) (m0 : Nat) (ac : List Nat × List Nat) (t0 t1 t2 t3 t4 t5 t6 t7 t8 t9 t10 t11 t12 t13 t14 t15 t16 t17 t18 t19 t20 t21 t22 t23 t24 t25 t26 t27 t28 t29 t30 t31 t32 t33 t34 t35 t36 t37 t38 t39 t40 t41 t42 t43 t44 t45 t46 t47 t48 t49 t50 t51 t52 t53 t54 t55 t56 t57 t58 t59 t60 t61 t62 t63 t64 t65 t66 t67 t68 t69 t70 t71 t72 t73 t74 t75 t76 t77 t78 t79 t80 t81 t82 t83 t84 t85 t86 t87 t88 t89 t90 t91 t92 t93 t94 t95 t96 t97 t98 t99 t100 t101 t102 t103 t104 t105 t106 t107 t108 t109 t110 t111 t112 t113 t114 t115 t116 t117 t118 t119 t120 t121 t122 t123 t124 t125 t126 t127 t128 t129 t130 : V) (h : Hp) : opsP (xX s 7 wl k false) xg7_0 22 m0 ac (runK (xX s 7 wl k false) (bodyK s.P Try.f7) xk7_0) ⟨(t0::t1::t2::t3::t4::t5::t6::t7::t8::t9::t10::t11::t12::t13::t14::t15::t16::t17::t18::t19::t20::t21::t22::t23::t24::t25::t26::t27::t28::t29::t30::t31::t32::t33::t34::t35::t36::t37::t38::t39::t40::t41::t42::t43::t44::t45::t46::t47::t48::t49::t50::t51::t52::t53::t54::t55::t56::t57::t58::t59::t60::t61::t62::t63::t64::t65::t66::t67::t68::t69::t70::t71::t72::t73::t74::t75::t76::t77::t78::t79::t80::t81::t82::t83::t84::t85::t86::t87::t88::t89::t90::t91::t92::t93::t94::t95::t96::t97::t98::t99::t100::t101::t102::t103::t104::t105::t106::t107::t108::t109::t110::t111::t112::t113::t114::t115::t116::t117::t118::t119::t120::t121::t122::t123::t124::t125::t126::t127::t128::t129::t130::[]),h⟩ =
  bm (vPick t41 (V.lit (Value.bool true)) t45) h fun v39 h40 =>
  gd v39 (
  opsP (xX s 7 wl k false) xg7_0 30 m0 ac (runK (xX s 7 wl k false) (bodyK s.P Try.f7) xk7_0) ⟨(t0::t1::t2::t3::t4::t5::t6::t7::t8::t9::t10::t11::t12::t13::t14::t15::t16::t17::t18::t19::t20::t21::t22::t23::t24::t25::t26::t27::t28::t29::t30::t31::t32::t33::t34::t35::t36::t37::t38::t39::t40::t41::t42::t43::t44::t45::v39::(V.lit (Value.bool true))::uu::uu::uu::uu::uu::uu::t54::t55::t56::t57::t58::t59::t60::t61::t62::t63::t64::t65::t66::t67::t68::t69::t70::t71::t72::t73::t74::t75::t76::t77::t78::t79::t80::t81::t82::t83::t84::t85::t86::t87::t88::t89::t90::t91::t92::t93::t94::t95::t96::t97::t98::t99::t100::t101::t102::t103::t104::t105::t106::t107::t108::t109::t110::t111::t112::t113::t114::t115::t116::t117::t118::t119::t120::t121::t122::t123::t124::t125::t126::t127::t128::t129::t130::[]),h40⟩) (
  bm (vLoad s.P 23 t5 h40) h40 fun v41 h42 =>
  bm (vLoad s.P 32 t9 h42) h42 fun v43 h44 =>
  bp (callV (xX s 7 wl k false) false true (.fn (.func 11) [] []) [v41,t1,t2,v43] h44) fun v45 h46 =>
  bm (vUn .not v45) h46 fun v47 h48 =>
  opsP (xX s 7 wl k false) xg7_0 30 m0 ac (runK (xX s 7 wl k false) (bodyK s.P Try.f7) xk7_0) ⟨(t0::t1::t2::t3::t4::t5::t6::t7::t8::t9::t10::t11::t12::t13::t14::t15::t16::t17::t18::t19::t20::t21::t22::t23::t24::t25::t26::t27::t28::t29::t30::t31::t32::t33::t34::t35::t36::t37::t38::t39::t40::t41::t42::t43::t44::t45::v39::(V.lit (Value.bool false))::v41::t1::t2::v43::v45::v47::t54::t55::t56::t57::t58::t59::t60::t61::t62::t63::t64::t65::t66::t67::t68::t69::t70::t71::t72::t73::t74::t75::t76::t77::t78::t79::t80::t81::t82::t83::t84::t85::t86::t87::t88::t89::t90::t91::t92::t93::t94::t95::t96::t97::t98::t99::t100::t101::t102::t103::t104::t105::t106::t107::t108::t109::t110::t111::t112::t113::t114::t115::t116::t117::t118::t119::t120::t121::t122::t123::t124::t125::t126::t127::t128::t129::t130::[]),h48⟩) (
  opsP (xX s 7 wl k false) xg7_0 25 m0 ac (runK (xX s 7 wl k false) (bodyK s.P Try.f7) xk7_0) ⟨(t0::t1::t2::t3::t4::t5::t6::t7::t8::t9::t10::t11::t12::t13::t14::t15::t16::t17::t18::t19::t20::t21::t22::t23::t24::t25::t26::t27::t28::t29::t30::t31::t32::t33::t34::t35::t36::t37::t38::t39::t40::t41::t42::t43::t44::t45::v39::v39::uu::t49::t50::t51::t52::t53::t54::t55::t56::t57::t58::t59::t60::t61::t62::t63::t64::t65::t66::t67::t68::t69::t70::t71::t72::t73::t74::t75::t76::t77::t78::t79::t80::t81::t82::t83::t84::t85::t86::t87::t88::t89::t90::t91::t92::t93::t94::t95::t96::t97::t98::t99::t100::t101::t102::t103::t104::t105::t106::t107::t108::t109::t110::t111::t112::t113::t114::t115::t116::t117::t118::t119::t120::t121::t122::t123::t124::t125::t126::t127::t128::t129::t130::[]),h40⟩) :=
  (go_op0 rfl rfl (st_bm (by kernel_rfl) fun v39 h40 =>
  (go_op0 rfl rfl (st_id (v := v39) (H := h40) (by kernel_rfl)
  (go_gdF0 rfl rfl rfl (by kernel_rfl)
  (go_skip0 rfl rfl rfl (by kernel_rfl)
  (go_skip0 rfl rfl rfl (by kernel_rfl)
  (go_skip0 rfl rfl rfl (by kernel_rfl)
  (go_skip0 rfl rfl rfl (by kernel_rfl)
  (go_skip0 rfl rfl rfl (by kernel_rfl)
  (by kernel_rfl))))))
  (st_bm (by kernel_rfl) fun v41 h42 =>
  (go_run0 rfl rfl rfl (by kernel_rfl) (st_id (v := t1) (H := h42) (by kernel_rfl)
  (go_run0 rfl rfl rfl (by kernel_rfl) (st_id (v := t2) (H := h42) (by kernel_rfl)
  (go_run0 rfl rfl rfl (by kernel_rfl) (st_bm (by kernel_rfl) fun v43 h44 =>
  (go_run0 rfl rfl rfl (by kernel_rfl) (st_bp (by kernel_rfl) fun v45 h46 =>
  (go_run0 rfl rfl rfl (by kernel_rfl) (st_bm (by kernel_rfl) fun v47 h48 =>
  (by kernel_rfl))))))))))))
  (by kernel_rfl))))))
theorem xm7_4 (s : Sys) (k wl : Nat) (m0 : Nat) (ac : List Nat × List Nat) (t0 t1 t2 t3 t4 t5 t6 t7 t8 t9 t10 t11 t12 t13 t14 t15 t16 t17 t18 t19 t20 t21 t22 t23 t24 t25 t26 t27 t28 t29 t30 t31 t32 t33 t34 t35 t36 t37 t38 t39 t40 t41 t42 t43 t44 t45 t46 t47 t48 t49 t50 t51 t52 t53 t54 t55 t56 t57 t58 t59 t60 t61 t62 t63 t64 t65 t66 t67 t68 t69 t70 t71 t72 t73 t74 t75 t76 t77 t78 t79 t80 t81 t82 t83 t84 t85 t86 t87 t88 t89 t90 t91 t92 t93 t94 t95 t96 t97 t98 t99 t100 t101 t102 t103 t104 t105 t106 t107 t108 t109 t110 t111 t112 t113 t114 t115 t116 t117 t118 t119 t120 t121 t122 t123 t124 t125 t126 t127 t128 t129 t130 : V) (h : Hp) : opsP (xX s 7 wl k false) xg7_0 30 m0 ac (runK (xX s 7 wl k false) (bodyK s.P Try.f7) xk7_0) ⟨(t0::t1::t2::t3::t4::t5::t6::t7::t8::t9::t10::t11::t12::t13::t14::t15::t16::t17::t18::t19::t20::t21::t22::t23::t24::t25::t26::t27::t28::t29::t30::t31::t32::t33::t34::t35::t36::t37::t38::t39::t40::t41::t42::t43::t44::t45::t46::t47::t48::t49::t50::t51::t52::t53::t54::t55::t56::t57::t58::t59::t60::t61::t62::t63::t64::t65::t66::t67::t68::t69::t70::t71::t72::t73::t74::t75::t76::t77::t78::t79::t80::t81::t82::t83::t84::t85::t86::t87::t88::t89::t90::t91::t92::t93::t94::t95::t96::t97::t98::t99::t100::t101::t102::t103::t104::t105::t106::t107::t108::t109::t110::t111::t112::t113::t114::t115::t116::t117::t118::t119::t120::t121::t122::t123::t124::t125::t126::t127::t128::t129::t130::[]),h⟩ =
  bm (vPick t47 (V.lit (Value.bool true)) t53) h fun v49 h50 =>
  cnd v49 (
  some (t11,h50)) (
  bp (callV (xX s 7 wl k false) false true (.fn (.func 18) [] []) [t2,(V.lit (Value.int .i64 3)),(V.lit (Value.int .u64 1))] h50) fun v51 h52 =>
  bm (vLoad s.P 23 t5 h52) h52 fun v53 h54 =>
  bm (vLoad s.P 32 t9 h54) h54 fun v55 h56 =>
  bp (callV (xX s 7 wl k false) false true (.fn (.func 10) [] []) [v53,t1,v51,t3,v55] h56) fun v57 h58 =>
  bm (vExtract v57 0) h58 fun v59 h60 =>
  bm (vExtract v57 1) h60 fun v61 h62 =>
  bm (vExtract v57 2) h62 fun v63 h64 =>
  bp (opAlloc s.P 32 h64) fun v65 h66 =>
  bs (vStore s.P wl 32 v65 v61 h66) fun h67 =>
  bm (vLoad s.P 32 t9 h67) h67 fun v68 h69 =>
  bp (callV (xX s 7 wl k false) false true (.fn (.func 13) [] []) [v68] h69) fun v70 h71 =>
  cnd v70 (
  bp (opAlloc s.P 32 h71) fun v72 h73 =>
  stO h71.length t5 (
  bm (vLoad s.P 23 t5 h73) h73 fun v74 h75 =>
  bp (callV (xX s 7 wl k false) true true (.fn (.func 18) [] []) [t2,(V.lit (Value.int .i64 3)),(V.lit (Value.int .u64 0))] h75) fun v76 h77 =>
  stO h71.length t9 (
  bm (vLoad s.P 32 t9 h77) h77 fun v78 h79 =>
  bp (callV (xX s 7 wl k false) true true (.fn (.func 10) [] []) [v74,t1,v76,t3,v78] h79) fun v80 h81 =>
  bm (vExtract v80 0) h81 fun v82 h83 =>
  bm (vExtract v80 1) h83 fun v84 h85 =>
  bm (vExtract v80 2) h85 fun v86 h87 =>
  bs (vStore s.P wl 32 v72 v84 h87) fun h88 =>
  bp (callV (xX s 7 wl k false) false true (.fn (.func 19) [] []) [v63,v86] h88) fun v89 h90 =>
  bm (vLoad s.P 32 v65 h90) h90 fun v91 h92 =>
  bm (vLoad s.P 32 v72 h92) h92 fun v93 h94 =>
  bp (callV (xX s 7 wl k false) false true (.fn (.func 12) [] []) [v91,v93] h94) fun v95 h96 =>
  gd v95 (
  opsP (xX s 7 wl k false) xg7_2 5 h90.length ([],[]) (runK (xX s 7 wl k false) (bodyK s.P Try.f7) xk7_1) ⟨(t0::t1::t2::t3::t4::t5::t6::t7::t8::t9::t10::t11::t12::v51::v59::v65::v63::v82::v72::v86::v89::t21::t22::t23::t24::t25::t26::t27::t28::t29::t30::t31::t32::t33::t34::t35::t36::t37::t38::t39::t40::t41::t42::t43::t44::t45::t46::t47::t48::t49::t50::t51::t52::t53::v49::t55::t2::v51::v57::v53::t1::v51::t3::v55::v57::v59::v61::v63::v68::v70::v80::v74::t1::t2::v76::t3::v78::v80::v82::v84::v86::v63::v86::v89::v91::v93::v95::(V.lit (Value.bool true))::v89::t89::t90::t91::t92::t93::t94::t95::t96::t97::t98::t99::t100::t101::t102::t103::t104::t105::t106::t107::t108::t109::t110::t111::t112::t113::t114::t115::t116::t117::t118::t119::t120::t121::t122::t123::t124::t125::t126::t127::t128::t129::t130::[]),h96⟩) (
  opsP (xX s 7 wl k false) xg7_2 5 h90.length ([],[]) (runK (xX s 7 wl k false) (bodyK s.P Try.f7) xk7_1) ⟨(t0::t1::t2::t3::t4::t5::t6::t7::t8::t9::t10::t11::t12::v51::v59::v65::v63::v82::v72::v86::v89::t21::t22::t23::t24::t25::t26::t27::t28::t29::t30::t31::t32::t33::t34::t35::t36::t37::t38::t39::t40::t41::t42::t43::t44::t45::t46::t47::t48::t49::t50::t51::t52::t53::v49::t55::t2::v51::v57::v53::t1::v51::t3::v55::v57::v59::v61::v63::v68::v70::v80::v74::t1::t2::v76::t3::v78::v80::v82::v84::v86::v63::v86::v89::v91::v93::v95::(V.lit (Value.bool false))::uu::t89::t90::t91::t92::t93::t94::t95::t96::t97::t98::t99::t100::t101::t102::t103::t104::t105::t106::t107::t108::t109::t110::t111::t112::t113::t114::t115::t116::t117::t118::t119::t120::t121::t122::t123::t124::t125::t126::t127::t128::t129::t130::[]),h96⟩) (
  opsP (xX s 7 wl k false) xg7_2 5 h90.length ([],[]) (runK (xX s 7 wl k false) (bodyK s.P Try.f7) xk7_1) ⟨(t0::t1::t2::t3::t4::t5::t6::t7::t8::t9::t10::t11::t12::v51::v59::v65::v63::v82::v72::v86::v89::t21::t22::t23::t24::t25::t26::t27::t28::t29::t30::t31::t32::t33::t34::t35::t36::t37::t38::t39::t40::t41::t42::t43::t44::t45::t46::t47::t48::t49::t50::t51::t52::t53::v49::t55::t2::v51::v57::v53::t1::v51::t3::v55::v57::v59::v61::v63::v68::v70::v80::v74::t1::t2::v76::t3::v78::v80::v82::v84::v86::v63::v86::v89::v91::v93::v95::v95::uu::t89::t90::t91::t92::t93::t94::t95::t96::t97::t98::t99::t100::t101::t102::t103::t104::t105::t106::t107::t108::t109::t110::t111::t112::t113::t114::t115::t116::t117::t118::t119::t120::t121::t122::t123::t124::t125::t126::t127::t128::t129::t130::[]),h96⟩)))) (
  bp (callV (xX s 7 wl k false) false true (.fn (.func 20) [] []) [v59,v51] h71) fun v97 h98 =>
  gd v97 (
  bp (opLen s.P 35 v63 h98) fun v99 h100 =>
  bm (vBin s.P .eql 3 v99 (V.lit (Value.int .i64 1))) h100 fun v101 h102 =>
  opsP (xX s 7 wl k false) xg7_3 7 h71.length ([],[]) (runK (xX s 7 wl k false) (bodyK s.P Try.f7) xk7_2) ⟨(t0::t1::t2::t3::t4::t5::t6::t7::t8::t9::t10::t11::t12::v51::v59::v65::v63::t17::t18::t19::t20::t21::t22::t23::t24::t25::t26::t27::t28::t29::t30::t31::t32::t33::t34::t35::t36::t37::t38::t39::t40::t41::t42::t43::t44::t45::t46::t47::t48::t49::t50::t51::t52::t53::v49::t55::t2::v51::v57::v53::t1::v51::t3::v55::v57::v59::v61::v63::v68::v70::t70::t71::t72::t73::t74::t75::t76::t77::t78::t79::t80::t81::t82::t83::t84::t85::t86::t87::t88::t89::t90::t91::t92::t93::t94::t95::v59::v51::v97::(V.lit (Value.bool true))::v63::v99::v101::t103::t104::t105::t106::t107::t108::t109::t110::t111::t112::t113::t114::t115::t116::t117::t118::t119::t120::t121::t122::t123::t124::t125::t126::t127::t128::t129::t130::[]),h102⟩) (
  opsP (xX s 7 wl k false) xg7_3 7 h71.length ([],[]) (runK (xX s 7 wl k false) (bodyK s.P Try.f7) xk7_2) ⟨(t0::t1::t2::t3::t4::t5::t6::t7::t8::t9::t10::t11::t12::v51::v59::v65::v63::t17::t18::t19::t20::t21::t22::t23::t24::t25::t26::t27::t28::t29::t30::t31::t32::t33::t34::t35::t36::t37::t38::t39::t40::t41::t42::t43::t44::t45::t46::t47::t48::t49::t50::t51::t52::t53::v49::t55::t2::v51::v57::v53::t1::v51::t3::v55::v57::v59::v61::v63::v68::v70::t70::t71::t72::t73::t74::t75::t76::t77::t78::t79::t80::t81::t82::t83::t84::t85::t86::t87::t88::t89::t90::t91::t92::t93::t94::t95::v59::v51::v97::(V.lit (Value.bool false))::uu::uu::uu::t103::t104::t105::t106::t107::t108::t109::t110::t111::t112::t113::t114::t115::t116::t117::t118::t119::t120::t121::t122::t123::t124::t125::t126::t127::t128::t129::t130::[]),h98⟩) (
  opsP (xX s 7 wl k false) xg7_3 5 h71.length ([],[]) (runK (xX s 7 wl k false) (bodyK s.P Try.f7) xk7_2) ⟨(t0::t1::t2::t3::t4::t5::t6::t7::t8::t9::t10::t11::t12::v51::v59::v65::v63::t17::t18::t19::t20::t21::t22::t23::t24::t25::t26::t27::t28::t29::t30::t31::t32::t33::t34::t35::t36::t37::t38::t39::t40::t41::t42::t43::t44::t45::t46::t47::t48::t49::t50::t51::t52::t53::v49::t55::t2::v51::v57::v53::t1::v51::t3::v55::v57::v59::v61::v63::v68::v70::t70::t71::t72::t73::t74::t75::t76::t77::t78::t79::t80::t81::t82::t83::t84::t85::t86::t87::t88::t89::t90::t91::t92::t93::t94::t95::v59::v51::v97::v97::uu::t101::t102::t103::t104::t105::t106::t107::t108::t109::t110::t111::t112::t113::t114::t115::t116::t117::t118::t119::t120::t121::t122::t123::t124::t125::t126::t127::t128::t129::t130::[]),h98⟩))) :=
  (go_op0 rfl rfl (st_bm (by kernel_rfl) fun v49 h50 =>
  (go_end0 (by kernel_rfl)
  (go_cond (by kernel_rfl)
  (go_seq (go_reg0
  (go_op0 rfl rfl (st_id (v := t11) (H := h50) (by kernel_rfl)
  (go_op0 rfl rfl (st_id (v := t11) (H := h50) (by kernel_rfl)
  (go_end0 (by kernel_rfl)
  (go_ret (rt_seq_ret (by kernel_rfl))))))))))
  (go_skip (go_seq (go_reg0
  (go_op0 rfl rfl (st_id (v := t2) (H := h50) (by kernel_rfl)
  (go_op0 rfl rfl (st_bp (by kernel_rfl) fun v51 h52 =>
  (go_op0 rfl rfl (st_id (v := v51) (H := h52) (by kernel_rfl)
  (go_end0 (by kernel_rfl)
  (go_seq (go_reg0
  (go_op0 rfl rfl (st_bm (by kernel_rfl) fun v53 h54 =>
  (go_op0 rfl rfl (st_id (v := t1) (H := h54) (by kernel_rfl)
  (go_op0 rfl rfl (st_id (v := v51) (H := h54) (by kernel_rfl)
  (go_op0 rfl rfl (st_id (v := t3) (H := h54) (by kernel_rfl)
  (go_op0 rfl rfl (st_bm (by kernel_rfl) fun v55 h56 =>
  (go_op0 rfl rfl (st_bp (by kernel_rfl) fun v57 h58 =>
  (go_op0 rfl rfl (st_id (v := v57) (H := h58) (by kernel_rfl)
  (go_op0 rfl rfl (st_bm (by kernel_rfl) fun v59 h60 =>
  (go_op0 rfl rfl (st_bm (by kernel_rfl) fun v61 h62 =>
  (go_op0 rfl rfl (st_bm (by kernel_rfl) fun v63 h64 =>
  (go_op0 rfl rfl (st_bp (by kernel_rfl) fun v65 h66 =>
  (go_op0 rfl rfl (st_id (v := v59) (H := h66) (by kernel_rfl)
  (go_op0 rfl rfl (st_bs (by kernel_rfl) fun h67 =>
  (go_op0 rfl rfl (st_id (v := v63) (H := h67) (by kernel_rfl)
  (go_end0 (by kernel_rfl)
  (go_seq (go_seq (go_reg0
  (go_op0 rfl rfl (st_bm (by kernel_rfl) fun v68 h69 =>
  (go_op0 rfl rfl (st_bp (by kernel_rfl) fun v70 h71 =>
  (go_end0 (by kernel_rfl)
  (go_cond (by kernel_rfl)
  (go_seq (go_reg1 xo7_8r
  (go_op1 xo7_8 xo7_8a rfl rfl rfl (st_no (by kernel_rfl) (st_bp (by kernel_rfl) fun v72 h73 =>
  (go_op1 xo7_8 xo7_8a rfl rfl rfl (st_yes (by kernel_rfl) (st_bm (by kernel_rfl) fun v74 h75 =>
  (go_op1 xo7_8 xo7_8a rfl rfl rfl (st_no (by kernel_rfl) (st_id (v := t1) (H := h75) (by kernel_rfl)
  (go_op1 xo7_8 xo7_8a rfl rfl rfl (st_no (by kernel_rfl) (st_id (v := t2) (H := h75) (by kernel_rfl)
  (go_op1 xo7_8 xo7_8a rfl rfl rfl (st_no (by kernel_rfl) (st_bp (by kernel_rfl) fun v76 h77 =>
  (go_op1 xo7_8 xo7_8a rfl rfl rfl (st_no (by kernel_rfl) (st_id (v := t3) (H := h77) (by kernel_rfl)
  (go_op1 xo7_8 xo7_8a rfl rfl rfl (st_yes (by kernel_rfl) (st_bm (by kernel_rfl) fun v78 h79 =>
  (go_op1 xo7_8 xo7_8a rfl rfl rfl (st_no (by kernel_rfl) (st_bp (by kernel_rfl) fun v80 h81 =>
  (go_op1 xo7_8 xo7_8a rfl rfl rfl (st_no (by kernel_rfl) (st_id (v := v80) (H := h81) (by kernel_rfl)
  (go_op1 xo7_8 xo7_8a rfl rfl rfl (st_no (by kernel_rfl) (st_bm (by kernel_rfl) fun v82 h83 =>
  (go_op1 xo7_8 xo7_8a rfl rfl rfl (st_no (by kernel_rfl) (st_bm (by kernel_rfl) fun v84 h85 =>
  (go_op1 xo7_8 xo7_8a rfl rfl rfl (st_no (by kernel_rfl) (st_bm (by kernel_rfl) fun v86 h87 =>
  (go_op1 xo7_8 xo7_8a rfl rfl rfl (st_no (by kernel_rfl) (st_id (v := v82) (H := h87) (by kernel_rfl)
  (go_op1 xo7_8 xo7_8a rfl rfl rfl (st_no (by kernel_rfl) (st_bs (by kernel_rfl) fun h88 =>
  (go_op1 xo7_8 xo7_8a rfl rfl rfl (st_no (by kernel_rfl) (st_id (v := v86) (H := h88) (by kernel_rfl)
  (go_end1 xo7_8 (by kernel_rfl) xo7_8a
  (go_seq (go_reg0
  (go_op0 rfl rfl (st_id (v := v63) (H := h88) (by kernel_rfl)
  (go_op0 rfl rfl (st_id (v := v86) (H := h88) (by kernel_rfl)
  (go_op0 rfl rfl (st_bp (by kernel_rfl) fun v89 h90 =>
  (go_op0 rfl rfl (st_id (v := v89) (H := h90) (by kernel_rfl)
  (go_end0 (by kernel_rfl)
  (go_seq (go_reg0
  (go_op0 rfl rfl (st_bm (by kernel_rfl) fun v91 h92 =>
  (go_op0 rfl rfl (st_bm (by kernel_rfl) fun v93 h94 =>
  (go_op0 rfl rfl (st_bp (by kernel_rfl) fun v95 h96 =>
  (go_op0 rfl rfl (st_id (v := v95) (H := h96) (by kernel_rfl)
  (go_gdT0 rfl rfl rfl (by kernel_rfl)
  (st_id (v := v89) (H := h96) (by kernel_rfl)
  (by kernel_rfl))
  (by kernel_rfl)
  (by kernel_rfl)))))))))))))))))))))))))))))))))))))))))))))))))))))))))))))))))))))))
  (go_skip (go_seq (go_reg1 xo7_11r
  (go_op1 xo7_11 xo7_11a rfl rfl rfl (st_no (by kernel_rfl) (st_id (v := v59) (H := h71) (by kernel_rfl)
  (go_op1 xo7_11 xo7_11a rfl rfl rfl (st_no (by kernel_rfl) (st_id (v := v51) (H := h71) (by kernel_rfl)
  (go_op1 xo7_11 xo7_11a rfl rfl rfl (st_no (by kernel_rfl) (st_bp (by kernel_rfl) fun v97 h98 =>
  (go_op1 xo7_11 xo7_11a rfl rfl rfl (st_no (by kernel_rfl) (st_id (v := v97) (H := h98) (by kernel_rfl)
  (go_gdT1 xo7_11 xo7_11a rfl rfl rfl rfl (by kernel_rfl)
  (st_no (by kernel_rfl) (st_id (v := v63) (H := h98) (by kernel_rfl)
  (go_run1 xo7_11 xo7_11a rfl rfl rfl rfl (by kernel_rfl) (st_no (by kernel_rfl) (st_bp (by kernel_rfl) fun v99 h100 =>
  (go_run1 xo7_11 xo7_11a rfl rfl rfl rfl (by kernel_rfl) (st_no (by kernel_rfl) (st_bm (by kernel_rfl) fun v101 h102 =>
  (by kernel_rfl)))))))))
  (go_skip1 xo7_11 rfl rfl rfl rfl (by kernel_rfl)
  (go_skip1 xo7_11 rfl rfl rfl rfl (by kernel_rfl)
  (by kernel_rfl)))
  (by kernel_rfl)))))))))))))))))))))))))))))))))))))))))))))))))))))))))))))))))))))))
theorem xm7_5 (s : Sys) (k wl : Nat) (m0 : Nat) (ac : List Nat × List Nat) (t0 t1 t2 t3 t4 t5 t6 t7 t8 t9 t10 t11 t12 t13 t14 t15 t16 t17 t18 t19 t20 t21 t22 t23 t24 t25 t26 t27 t28 t29 t30 t31 t32 t33 t34 t35 t36 t37 t38 t39 t40 t41 t42 t43 t44 t45 t46 t47 t48 t49 t50 t51 t52 t53 t54 t55 t56 t57 t58 t59 t60 t61 t62 t63 t64 t65 t66 t67 t68 t69 t70 t71 t72 t73 t74 t75 t76 t77 t78 t79 t80 t81 t82 t83 t84 t85 t86 t87 t88 t89 t90 t91 t92 t93 t94 t95 t96 t97 t98 t99 t100 t101 t102 t103 t104 t105 t106 t107 t108 t109 t110 t111 t112 t113 t114 t115 t116 t117 t118 t119 t120 t121 t122 t123 t124 t125 t126 t127 t128 t129 t130 : V) (h : Hp) : opsP (xX s 7 wl k false) xg7_2 5 m0 ac (runK (xX s 7 wl k false) (bodyK s.P Try.f7) xk7_1) ⟨(t0::t1::t2::t3::t4::t5::t6::t7::t8::t9::t10::t11::t12::t13::t14::t15::t16::t17::t18::t19::t20::t21::t22::t23::t24::t25::t26::t27::t28::t29::t30::t31::t32::t33::t34::t35::t36::t37::t38::t39::t40::t41::t42::t43::t44::t45::t46::t47::t48::t49::t50::t51::t52::t53::t54::t55::t56::t57::t58::t59::t60::t61::t62::t63::t64::t65::t66::t67::t68::t69::t70::t71::t72::t73::t74::t75::t76::t77::t78::t79::t80::t81::t82::t83::t84::t85::t86::t87::t88::t89::t90::t91::t92::t93::t94::t95::t96::t97::t98::t99::t100::t101::t102::t103::t104::t105::t106::t107::t108::t109::t110::t111::t112::t113::t114::t115::t116::t117::t118::t119::t120::t121::t122::t123::t124::t125::t126::t127::t128::t129::t130::[]),h⟩ =
  bm (vPick t87 t88 (V.lit (Value.bool false))) h fun v103 h104 =>
  gd v103 (
  bp (callV (xX s 7 wl k false) false true (.fn (.func 18) [] []) [t17,(V.lit (Value.int .i64 3)),(V.lit (Value.int .u64 1))] h104) fun v105 h106 =>
  bp (callV (xX s 7 wl k false) false true (.fn (.func 20) [] []) [v105,t14] h106) fun v107 h108 =>
  opsP (xX s 7 wl k false) xg7_2 11 m0 ac (runK (xX s 7 wl k false) (bodyK s.P Try.f7) xk7_1) ⟨(t0::t1::t2::t3::t4::t5::t6::t7::t8::t9::t10::t11::t12::t13::t14::t15::t16::t17::t18::t19::t20::t21::t22::t23::t24::t25::t26::t27::t28::t29::t30::t31::t32::t33::t34::t35::t36::t37::t38::t39::t40::t41::t42::t43::t44::t45::t46::t47::t48::t49::t50::t51::t52::t53::t54::t55::t56::t57::t58::t59::t60::t61::t62::t63::t64::t65::t66::t67::t68::t69::t70::t71::t72::t73::t74::t75::t76::t77::t78::t79::t80::t81::t82::t83::t84::t85::t86::t87::t88::v103::(V.lit (Value.bool true))::t17::v105::t14::v107::t95::t96::t97::t98::t99::t100::t101::t102::t103::t104::t105::t106::t107::t108::t109::t110::t111::t112::t113::t114::t115::t116::t117::t118::t119::t120::t121::t122::t123::t124::t125::t126::t127::t128::t129::t130::[]),h108⟩) (
  opsP (xX s 7 wl k false) xg7_2 11 m0 ac (runK (xX s 7 wl k false) (bodyK s.P Try.f7) xk7_1) ⟨(t0::t1::t2::t3::t4::t5::t6::t7::t8::t9::t10::t11::t12::t13::t14::t15::t16::t17::t18::t19::t20::t21::t22::t23::t24::t25::t26::t27::t28::t29::t30::t31::t32::t33::t34::t35::t36::t37::t38::t39::t40::t41::t42::t43::t44::t45::t46::t47::t48::t49::t50::t51::t52::t53::t54::t55::t56::t57::t58::t59::t60::t61::t62::t63::t64::t65::t66::t67::t68::t69::t70::t71::t72::t73::t74::t75::t76::t77::t78::t79::t80::t81::t82::t83::t84::t85::t86::t87::t88::v103::(V.lit (Value.bool false))::uu::uu::uu::uu::t95::t96::t97::t98::t99::t100::t101::t102::t103::t104::t105::t106::t107::t108::t109::t110::t111::t112::t113::t114::t115::t116::t117::t118::t119::t120::t121::t122::t123::t124::t125::t126::t127::t128::t129::t130::[]),h104⟩) (
  opsP (xX s 7 wl k false) xg7_2 8 m0 ac (runK (xX s 7 wl k false) (bodyK s.P Try.f7) xk7_1) ⟨(t0::t1::t2::t3::t4::t5::t6::t7::t8::t9::t10::t11::t12::t13::t14::t15::t16::t17::t18::t19::t20::t21::t22::t23::t24::t25::t26::t27::t28::t29::t30::t31::t32::t33::t34::t35::t36::t37::t38::t39::t40::t41::t42::t43::t44::t45::t46::t47::t48::t49::t50::t51::t52::t53::t54::t55::t56::t57::t58::t59::t60::t61::t62::t63::t64::t65::t66::t67::t68::t69::t70::t71::t72::t73::t74::t75::t76::t77::t78::t79::t80::t81::t82::t83::t84::t85::t86::t87::t88::v103::v103::uu::t92::t93::t94::t95::t96::t97::t98::t99::t100::t101::t102::t103::t104::t105::t106::t107::t108::t109::t110::t111::t112::t113::t114::t115::t116::t117::t118::t119::t120::t121::t122::t123::t124::t125::t126::t127::t128::t129::t130::[]),h104⟩) :=
  (go_op0 rfl rfl (st_bm (by kernel_rfl) fun v103 h104 =>
  (go_op0 rfl rfl (st_id (v := v103) (H := h104) (by kernel_rfl)
  (go_gdT0 rfl rfl rfl (by kernel_rfl)
  (st_id (v := t17) (H := h104) (by kernel_rfl)
  (go_run0 rfl rfl rfl (by kernel_rfl) (st_bp (by kernel_rfl) fun v105 h106 =>
  (go_run0 rfl rfl rfl (by kernel_rfl) (st_id (v := t14) (H := h106) (by kernel_rfl)
  (go_run0 rfl rfl rfl (by kernel_rfl) (st_bp (by kernel_rfl) fun v107 h108 =>
  (by kernel_rfl))))))))
  (go_skip0 rfl rfl rfl (by kernel_rfl)
  (go_skip0 rfl rfl rfl (by kernel_rfl)
  (go_skip0 rfl rfl rfl (by kernel_rfl)
  (by kernel_rfl))))
  (by kernel_rfl))))))
theorem xm7_6 (s : Sys) (k wl : Nat) (m0 : Nat) (ac : List Nat × List Nat) (t0 t1 t2 t3 t4 t5 t6 t7 t8 t9 t10 t11 t12 t13 t14 t15 t16 t17 t18 t19 t20 t21 t22 t23 t24 t25 t26 t27 t28 t29 t30 t31 t32 t33 t34 t35 t36 t37 t38 t39 t40 t41 t42 t43 t44 t45 t46 t47 t48 t49 t50 t51 t52 t53 t54 t55 t56 t57 t58 t59 t60 t61 t62 t63 t64 t65 t66 t67 t68 t69 t70 t71 t72 t73 t74 t75 t76 t77 t78 t79 t80 t81 t82 t83 t84 t85 t86 t87 t88 t89 t90 t91 t92 t93 t94 t95 t96 t97 t98 t99 t100 t101 t102 t103 t104 t105 t106 t107 t108 t109 t110 t111 t112 t113 t114 t115 t116 t117 t118 t119 t120 t121 t122 t123 t124 t125 t126 t127 t128 t129 t130 : V) (h : Hp) : opsP (xX s 7 wl k false) xg7_3 7 m0 ac (runK (xX s 7 wl k false) (bodyK s.P Try.f7) xk7_2) ⟨(t0::t1::t2::t3::t4::t5::t6::t7::t8::t9::t10::t11::t12::t13::t14::t15::t16::t17::t18::t19::t20::t21::t22::t23::t24::t25::t26::t27::t28::t29::t30::t31::t32::t33::t34::t35::t36::t37::t38::t39::t40::t41::t42::t43::t44::t45::t46::t47::t48::t49::t50::t51::t52::t53::t54::t55::t56::t57::t58::t59::t60::t61::t62::t63::t64::t65::t66::t67::t68::t69::t70::t71::t72::t73::t74::t75::t76::t77::t78::t79::t80::t81::t82::t83::t84::t85::t86::t87::t88::t89::t90::t91::t92::t93::t94::t95::t96::t97::t98::t99::t100::t101::t102::t103::t104::t105::t106::t107::t108::t109::t110::t111::t112::t113::t114::t115::t116::t117::t118::t119::t120::t121::t122::t123::t124::t125::t126::t127::t128::t129::t130::[]),h⟩ =
  bm (vPick t99 t102 (V.lit (Value.bool false))) h fun v109 h110 =>
  gd v109 (
  bm (vIndexAddr s.P 35 t16 (V.lit (Value.int .i64 0)) h110) h110 fun v111 h112 =>
  bm (vLoad s.P 41 v111 h112) h112 fun v113 h114 =>
  bm (vFieldAddr s.P 32 t9 1) h114 fun v115 h116 =>
  bm (vLoad s.P 27 v115 h116) h116 fun v117 h118 =>
  bm (vIndexAddr s.P 27 v117 (V.lit (Value.int .i64 0)) h118) h118 fun v119 h120 =>
  bm (vLoad s.P 3 v119 h120) h120 fun v121 h122 =>
  bm (vBuild s.P 41 [(0,(V.lit (Value.int .i64 1))),(1,v121),(2,t3)]) h122 fun v123 h124 =>
  bm (vBin s.P .eql 41 v113 v123) h124 fun v125 h126 =>
  opsP (xX s 7 wl k false) xg7_3 19 m0 ac (runK (xX s 7 wl k false) (bodyK s.P Try.f7) xk7_2) ⟨(t0::t1::t2::t3::t4::t5::t6::t7::t8::t9::t10::t11::t12::t13::t14::t15::t16::t17::t18::t19::t20::t21::t22::t23::t24::t25::t26::t27::t28::t29::t30::t31::t32::t33::t34::t35::t36::t37::t38::t39::t40::t41::t42::t43::t44::t45::t46::t47::t48::t49::t50::t51::t52::t53::t54::t55::t56::t57::t58::t59::t60::t61::t62::t63::t64::t65::t66::t67::t68::t69::t70::t71::t72::t73::t74::t75::t76::t77::t78::t79::t80::t81::t82::t83::t84::t85::t86::t87::t88::t89::t90::t91::t92::t93::t94::t95::t96::t97::t98::t99::t100::t101::t102::v109::(V.lit (Value.bool true))::t16::v111::v113::v115::v117::v119::v121::t3::v123::v125::t115::t116::t117::t118::t119::t120::t121::t122::t123::t124::t125::t126::t127::t128::t129::t130::[]),h126⟩) (
  opsP (xX s 7 wl k false) xg7_3 19 m0 ac (runK (xX s 7 wl k false) (bodyK s.P Try.f7) xk7_2) ⟨(t0::t1::t2::t3::t4::t5::t6::t7::t8::t9::t10::t11::t12::t13::t14::t15::t16::t17::t18::t19::t20::t21::t22::t23::t24::t25::t26::t27::t28::t29::t30::t31::t32::t33::t34::t35::t36::t37::t38::t39::t40::t41::t42::t43::t44::t45::t46::t47::t48::t49::t50::t51::t52::t53::t54::t55::t56::t57::t58::t59::t60::t61::t62::t63::t64::t65::t66::t67::t68::t69::t70::t71::t72::t73::t74::t75::t76::t77::t78::t79::t80::t81::t82::t83::t84::t85::t86::t87::t88::t89::t90::t91::t92::t93::t94::t95::t96::t97::t98::t99::t100::t101::t102::v109::(V.lit (Value.bool false))::uu::uu::uu::uu::uu::uu::uu::uu::uu::uu::t115::t116::t117::t118::t119::t120::t121::t122::t123::t124::t125::t126::t127::t128::t129::t130::[]),h110⟩) (
  opsP (xX s 7 wl k false) xg7_3 10 m0 ac (runK (xX s 7 wl k false) (bodyK s.P Try.f7) xk7_2) ⟨(t0::t1::t2::t3::t4::t5::t6::t7::t8::t9::t10::t11::t12::t13::t14::t15::t16::t17::t18::t19::t20::t21::t22::t23::t24::t25::t26::t27::t28::t29::t30::t31::t32::t33::t34::t35::t36::t37::t38::t39::t40::t41::t42::t43::t44::t45::t46::t47::t48::t49::t50::t51::t52::t53::t54::t55::t56::t57::t58::t59::t60::t61::t62::t63::t64::t65::t66::t67::t68::t69::t70::t71::t72::t73::t74::t75::t76::t77::t78::t79::t80::t81::t82::t83::t84::t85::t86::t87::t88::t89::t90::t91::t92::t93::t94::t95::t96::t97::t98::t99::t100::t101::t102::v109::v109::uu::t106::t107::t108::t109::t110::t111::t112::t113::t114::t115::t116::t117::t118::t119::t120::t121::t122::t123::t124::t125::t126::t127::t128::t129::t130::[]),h110⟩) :=
  (go_op1 xo7_11 xo7_11a rfl rfl rfl (st_no (by kernel_rfl) (st_bm (by kernel_rfl) fun v109 h110 =>
  (go_op1 xo7_11 xo7_11a rfl rfl rfl (st_no (by kernel_rfl) (st_id (v := v109) (H := h110) (by kernel_rfl)
  (go_gdT1 xo7_11 xo7_11a rfl rfl rfl rfl (by kernel_rfl)
  (st_no (by kernel_rfl) (st_id (v := t16) (H := h110) (by kernel_rfl)
  (go_run1 xo7_11 xo7_11a rfl rfl rfl rfl (by kernel_rfl) (st_no (by kernel_rfl) (st_bm (by kernel_rfl) fun v111 h112 =>
  (go_run1 xo7_11 xo7_11a rfl rfl rfl rfl (by kernel_rfl) (st_no (by kernel_rfl) (st_bm (by kernel_rfl) fun v113 h114 =>
  (go_run1 xo7_11 xo7_11a rfl rfl rfl rfl (by kernel_rfl) (st_no (by kernel_rfl) (st_bm (by kernel_rfl) fun v115 h116 =>
  (go_run1 xo7_11 xo7_11a rfl rfl rfl rfl (by kernel_rfl) (st_no (by kernel_rfl) (st_bm (by kernel_rfl) fun v117 h118 =>
  (go_run1 xo7_11 xo7_11a rfl rfl rfl rfl (by kernel_rfl) (st_no (by kernel_rfl) (st_bm (by kernel_rfl) fun v119 h120 =>
  (go_run1 xo7_11 xo7_11a rfl rfl rfl rfl (by kernel_rfl) (st_no (by kernel_rfl) (st_bm (by kernel_rfl) fun v121 h122 =>
  (go_run1 xo7_11 xo7_11a rfl rfl rfl rfl (by kernel_rfl) (st_no (by kernel_rfl) (st_id (v := t3) (H := h122) (by kernel_rfl)
  (go_run1 xo7_11 xo7_11a rfl rfl rfl rfl (by kernel_rfl) (st_no (by kernel_rfl) (st_bm (by kernel_rfl) fun v123 h124 =>
  (go_run1 xo7_11 xo7_11a rfl rfl rfl rfl (by kernel_rfl) (st_no (by kernel_rfl) (st_bm (by kernel_rfl) fun v125 h126 =>
  (by kernel_rfl))))))))))))))))))))))))))))))
  (go_skip1 xo7_11 rfl rfl rfl rfl (by kernel_rfl)
  (go_skip1 xo7_11 rfl rfl rfl rfl (by kernel_rfl)
  (go_skip1 xo7_11 rfl rfl rfl rfl (by kernel_rfl)
  (go_skip1 xo7_11 rfl rfl rfl rfl (by kernel_rfl)
  (go_skip1 xo7_11 rfl rfl rfl rfl (by kernel_rfl)
  (go_skip1 xo7_11 rfl rfl rfl rfl (by kernel_rfl)
  (go_skip1 xo7_11 rfl rfl rfl rfl (by kernel_rfl)
  (go_skip1 xo7_11 rfl rfl rfl rfl (by kernel_rfl)
  (go_skip1 xo7_11 rfl rfl rfl rfl (by kernel_rfl)
  (by kernel_rfl))))))))))
  (by kernel_rfl))))))))
theorem xm7_7 (s : Sys) (k wl : Nat) (m0 : Nat) (ac : List Nat × List Nat) (t0 t1 t2 t3 t4 t5 t6 t7 t8 t9 t10 t11 t12 t13 t14 t15 t16 t17 t18 t19 t20 t21 t22 t23 t24 t25 t26 t27 t28 t29 t30 t31 t32 t33 t34 t35 t36 t37 t38 t39 t40 t41 t42 t43 t44 t45 t46 t47 t48 t49 t50 t51 t52 t53 t54 t55 t56 t57 t58 t59 t60 t61 t62 t63 t64 t65 t66 t67 t68 t69 t70 t71 t72 t73 t74 t75 t76 t77 t78 t79 t80 t81 t82 t83 t84 t85 t86 t87 t88 t89 t90 t91 t92 t93 t94 t95 t96 t97 t98 t99 t100 t101 t102 t103 t104 t105 t106 t107 t108 t109 t110 t111 t112 t113 t114 t115 t116 t117 t118 t119 t120 t121 t122 t123 t124 t125 t126 t127 t128 t129 t130 : V) (h : Hp) : opsP (xX s 7 wl k false) xg7_2 11 m0 ac (runK (xX s 7 wl k false) (bodyK s.P Try.f7) xk7_1) ⟨(t0::t1::t2::t3::t4::t5::t6::t7::t8::t9::t10::t11::t12::t13::t14::t15::t16::t17::t18::t19::t20::t21::t22::t23::t24::t25::t26::t27::t28::t29::t30::t31::t32::t33::t34::t35::t36::t37::t38::t39::t40::t41::t42::t43::t44::t45::t46::t47::t48::t49::t50::t51::t52::t53::t54::t55::t56::t57::t58::t59::t60::t61::t62::t63::t64::t65::t66::t67::t68::t69::t70::t71::t72::t73::t74::t75::t76::t77::t78::t79::t80::t81::t82::t83::t84::t85::t86::t87::t88::t89::t90::t91::t92::t93::t94::t95::t96::t97::t98::t99::t100::t101::t102::t103::t104::t105::t106::t107::t108::t109::t110::t111::t112::t113::t114::t115::t116::t117::t118::t119::t120::t121::t122::t123::t124::t125::t126::t127::t128::t129::t130::[]),h⟩ =
  bm (vPick t90 t94 (V.lit (Value.bool false))) h fun v127 h128 =>
  some (v127,h128) :=
  (go_op0 rfl rfl (st_bm (by kernel_rfl) fun v127 h128 =>
  (go_op0 rfl rfl (st_id (v := v127) (H := h128) (by kernel_rfl)
  (go_end0 (by kernel_rfl)
  (go_ret (rt_seq_ret (by kernel_rfl))))))))
theorem xm7_8 (s : Sys) (k wl : Nat) (m0 : Nat) (ac : List Nat × List Nat) (t0 t1 t2 t3 t4 t5 t6 t7 t8 t9 t10 t11 t12 t13 t14 t15 t16 t17 t18 t19 t20 t21 t22 t23 t24 t25 t26 t27 t28 t29 t30 t31 t32 t33 t34 t35 t36 t37 t38 t39 t40 t41 t42 t43 t44 t45 t46 t47 t48 t49 t50 t51 t52 t53 t54 t55 t56 t57 t58 t59 t60 t61 t62 t63 t64 t65 t66 t67 t68 t69 t70 t71 t72 t73 t74 t75 t76 t77 t78 t79 t80 t81 t82 t83 t84 t85 t86 t87 t88 t89 t90 t91 t92 t93 t94 t95 t96 t97 t98 t99 t100 t101 t102 t103 t104 t105 t106 t107 t108 t109 t110 t111 t112 t113 t114 t115 t116 t117 t118 t119 t120 t121 t122 t123 t124 t125 t126 t127 t128 t129 t130 : V) (h : Hp) : opsP (xX s 7 wl k false) xg7_3 19 m0 ac (runK (xX s 7 wl k false) (bodyK s.P Try.f7) xk7_2) ⟨(t0::t1::t2::t3::t4::t5::t6::t7::t8::t9::t10::t11::t12::t13::t14::t15::t16::t17::t18::t19::t20::t21::t22::t23::t24::t25::t26::t27::t28::t29::t30::t31::t32::t33::t34::t35::t36::t37::t38::t39::t40::t41::t42::t43::t44::t45::t46::t47::t48::t49::t50::t51::t52::t53::t54::t55::t56::t57::t58::t59::t60::t61::t62::t63::t64::t65::t66::t67::t68::t69::t70::t71::t72::t73::t74::t75::t76::t77::t78::t79::t80::t81::t82::t83::t84::t85::t86::t87::t88::t89::t90::t91::t92::t93::t94::t95::t96::t97::t98::t99::t100::t101::t102::t103::t104::t105::t106::t107::t108::t109::t110::t111::t112::t113::t114::t115::t116::t117::t118::t119::t120::t121::t122::t123::t124::t125::t126::t127::t128::t129::t130::[]),h⟩ =
  bm (vPick t104 t114 (V.lit (Value.bool false))) h fun v129 h130 =>
  gd v129 (
  bm (vFieldAddr s.P 32 t15 1) h130 fun v131 h132 =>
  bm (vLoad s.P 27 v131 h132) h132 fun v133 h134 =>
  bp (opLen s.P 27 v133 h134) fun v135 h136 =>
  bm (vFieldAddr s.P 32 t9 1) h136 fun v137 h138 =>
  bm (vLoad s.P 27 v137 h138) h138 fun v139 h140 =>
  bp (opLen s.P 27 v139 h140) fun v141 h142 =>
  bm (vBin s.P .sub 3 v141 (V.lit (Value.int .i64 1))) h142 fun v143 h144 =>
  bm (vBin s.P .eql 3 v135 v143) h144 fun v145 h146 =>
  opsP (xX s 7 wl k false) xg7_3 29 m0 ac (runK (xX s 7 wl k false) (bodyK s.P Try.f7) xk7_2) ⟨(t0::t1::t2::t3::t4::t5::t6::t7::t8::t9::t10::t11::t12::t13::t14::t15::t16::t17::t18::t19::t20::t21::t22::t23::t24::t25::t26::t27::t28::t29::t30::t31::t32::t33::t34::t35::t36::t37::t38::t39::t40::t41::t42::t43::t44::t45::t46::t47::t48::t49::t50::t51::t52::t53::t54::t55::t56::t57::t58::t59::t60::t61::t62::t63::t64::t65::t66::t67::t68::t69::t70::t71::t72::t73::t74::t75::t76::t77::t78::t79::t80::t81::t82::t83::t84::t85::t86::t87::t88::t89::t90::t91::t92::t93::t94::t95::t96::t97::t98::t99::t100::t101::t102::t103::t104::t105::t106::t107::t108::t109::t110::t111::t112::t113::t114::v129::(V.lit (Value.bool true))::v131::v133::v135::v137::v139::v141::v143::v145::t125::t126::t127::t128::t129::t130::[]),h146⟩) (
  opsP (xX s 7 wl k false) xg7_3 29 m0 ac (runK (xX s 7 wl k false) (bodyK s.P Try.f7) xk7_2) ⟨(t0::t1::t2::t3::t4::t5::t6::t7::t8::t9::t10::t11::t12::t13::t14::t15::t16::t17::t18::t19::t20::t21::t22::t23::t24::t25::t26::t27::t28::t29::t30::t31::t32::t33::t34::t35::t36::t37::t38::t39::t40::t41::t42::t43::t44::t45::t46::t47::t48::t49::t50::t51::t52::t53::t54::t55::t56::t57::t58::t59::t60::t61::t62::t63::t64::t65::t66::t67::t68::t69::t70::t71::t72::t73::t74::t75::t76::t77::t78::t79::t80::t81::t82::t83::t84::t85::t86::t87::t88::t89::t90::t91::t92::t93::t94::t95::t96::t97::t98::t99::t100::t101::t102::t103::t104::t105::t106::t107::t108::t109::t110::t111::t112::t113::t114::v129::(V.lit (Value.bool false))::uu::uu::uu::uu::uu::uu::uu::uu::t125::t126::t127::t128::t129::t130::[]),h130⟩) (
  opsP (xX s 7 wl k false) xg7_3 22 m0 ac (runK (xX s 7 wl k false) (bodyK s.P Try.f7) xk7_2) ⟨(t0::t1::t2::t3::t4::t5::t6::t7::t8::t9::t10::t11::t12::t13::t14::t15::t16::t17::t18::t19::t20::t21::t22::t23::t24::t25::t26::t27::t28::t29::t30::t31::t32::t33::t34::t35::t36::t37::t38::t39::t40::t41::t42::t43::t44::t45::t46::t47::t48::t49::t50::t51::t52::t53::t54::t55::t56::t57::t58::t59::t60::t61::t62::t63::t64::t65::t66::t67::t68::t69::t70::t71::t72::t73::t74::t75::t76::t77::t78::t79::t80::t81::t82::t83::t84::t85::t86::t87::t88::t89::t90::t91::t92::t93::t94::t95::t96::t97::t98::t99::t100::t101::t102::t103::t104::t105::t106::t107::t108::t109::t110::t111::t112::t113::t114::v129::v129::uu::t118::t119::t120::t121::t122::t123::t124::t125::t126::t127::t128::t129::t130::[]),h130⟩) :=
  (go_op1 xo7_11 xo7_11a rfl rfl rfl (st_no (by kernel_rfl) (st_bm (by kernel_rfl) fun v129 h130 =>
  (go_op1 xo7_11 xo7_11a rfl rfl rfl (st_no (by kernel_rfl) (st_id (v := v129) (H := h130) (by kernel_rfl)
  (go_gdT1 xo7_11 xo7_11a rfl rfl rfl rfl (by kernel_rfl)
  (st_no (by kernel_rfl) (st_bm (by kernel_rfl) fun v131 h132 =>
  (go_run1 xo7_11 xo7_11a rfl rfl rfl rfl (by kernel_rfl) (st_no (by kernel_rfl) (st_bm (by kernel_rfl) fun v133 h134 =>
  (go_run1 xo7_11 xo7_11a rfl rfl rfl rfl (by kernel_rfl) (st_no (by kernel_rfl) (st_bp (by kernel_rfl) fun v135 h136 =>
  (go_run1 xo7_11 xo7_11a rfl rfl rfl rfl (by kernel_rfl) (st_no (by kernel_rfl) (st_bm (by kernel_rfl) fun v137 h138 =>
  (go_run1 xo7_11 xo7_11a rfl rfl rfl rfl (by kernel_rfl) (st_no (by kernel_rfl) (st_bm (by kernel_rfl) fun v139 h140 =>
  (go_run1 xo7_11 xo7_11a rfl rfl rfl rfl (by kernel_rfl) (st_no (by kernel_rfl) (st_bp (by kernel_rfl) fun v141 h142 =>
  (go_run1 xo7_11 xo7_11a rfl rfl rfl rfl (by kernel_rfl) (st_no (by kernel_rfl) (st_bm (by kernel_rfl) fun v143 h144 =>
  (go_run1 xo7_11 xo7_11a rfl rfl rfl rfl (by kernel_rfl) (st_no (by kernel_rfl) (st_bm (by kernel_rfl) fun v145 h146 =>
  (by kernel_rfl))))))))))))))))))))))))
  (go_skip1 xo7_11 rfl rfl rfl rfl (by kernel_rfl)
  (go_skip1 xo7_11 rfl rfl rfl rfl (by kernel_rfl)
  (go_skip1 xo7_11 rfl rfl rfl rfl (by kernel_rfl)
  (go_skip1 xo7_11 rfl rfl rfl rfl (by kernel_rfl)
  (go_skip1 xo7_11 rfl rfl rfl rfl (by kernel_rfl)
  (go_skip1 xo7_11 rfl rfl rfl rfl (by kernel_rfl)
  (go_skip1 xo7_11 rfl rfl rfl rfl (by kernel_rfl)
  (by kernel_rfl))))))))
  (by kernel_rfl))))))))
theorem xm7_9 (s : Sys) (k wl : Nat) (m0 : Nat) (ac : List Nat × List Nat) (t0 t1 t2 t3 t4 t5 t6 t7 t8 t9 t10 t11 t12 t13 t14 t15 t16 t17 t18 t19 t20 t21 t22 t23 t24 t25 t26 t27 t28 t29 t30 t31 t32 t33 t34 t35 t36 t37 t38 t39 t40 t41 t42 t43 t44 t45 t46 t47 t48 t49 t50 t51 t52 t53 t54 t55 t56 t57 t58 t59 t60 t61 t62 t63 t64 t65 t66 t67 t68 t69 t70 t71 t72 t73 t74 t75 t76 t77 t78 t79 t80 t81 t82 t83 t84 t85 t86 t87 t88 t89 t90 t91 t92 t93 t94 t95 t96 t97 t98 t99 t100 t101 t102 t103 t104 t105 t106 t107 t108 t109 t110 t111 t112 t113 t114 t115 t116 t117 t118 t119 t120 t121 t122 t123 t124 t125 t126 t127 t128 t129 t130 : V) (h : Hp) : opsP (xX s 7 wl k false) xg7_3 29 m0 ac (runK (xX s 7 wl k false) (bodyK s.P Try.f7) xk7_2) ⟨(t0::t1::t2::t3::t4::t5::t6::t7::t8::t9::t10::t11::t12::t13::t14::t15::t16::t17::t18::t19::t20::t21::t22::t23::t24::t25::t26::t27::t28::t29::t30::t31::t32::t33::t34::t35::t36::t37::t38::t39::t40::t41::t42::t43::t44::t45::t46::t47::t48::t49::t50::t51::t52::t53::t54::t55::t56::t57::t58::t59::t60::t61::t62::t63::t64::t65::t66::t67::t68::t69::t70::t71::t72::t73::t74::t75::t76::t77::t78::t79::t80::t81::t82::t83::t84::t85::t86::t87::t88::t89::t90::t91::t92::t93::t94::t95::t96::t97::t98::t99::t100::t101::t102::t103::t104::t105::t106::t107::t108::t109::t110::t111::t112::t113::t114::t115::t116::t117::t118::t119::t120::t121::t122::t123::t124::t125::t126::t127::t128::t129::t130::[]),h⟩ =
  bm (vPick t116 t124 (V.lit (Value.bool false))) h fun v147 h148 =>
  gd v147 (
  bm (vLoad s.P 32 t15 h148) h148 fun v149 h150 =>
  bp (callV (xX s 7 wl k false) false true (.fn (.func 13) [] []) [v149] h150) fun v151 h152 =>
  bm (vUn .not v151) h152 fun v153 h154 =>
  opsP (xX s 7 wl k false) xg7_3 34 m0 ac (runK (xX s 7 wl k false) (bodyK s.P Try.f7) xk7_2) ⟨(t0::t1::t2::t3::t4::t5::t6::t7::t8::t9::t10::t11::t12::t13::t14::t15::t16::t17::t18::t19::t20::t21::t22::t23::t24::t25::t26::t27::t28::t29::t30::t31::t32::t33::t34::t35::t36::t37::t38::t39::t40::t41::t42::t43::t44::t45::t46::t47::t48::t49::t50::t51::t52::t53::t54::t55::t56::t57::t58::t59::t60::t61::t62::t63::t64::t65::t66::t67::t68::t69::t70::t71::t72::t73::t74::t75::t76::t77::t78::t79::t80::t81::t82::t83::t84::t85::t86::t87::t88::t89::t90::t91::t92::t93::t94::t95::t96::t97::t98::t99::t100::t101::t102::t103::t104::t105::t106::t107::t108::t109::t110::t111::t112::t113::t114::t115::t116::t117::t118::t119::t120::t121::t122::t123::t124::v147::(V.lit (Value.bool true))::v149::v151::v153::t130::[]),h154⟩) (
  opsP (xX s 7 wl k false) xg7_3 34 m0 ac (runK (xX s 7 wl k false) (bodyK s.P Try.f7) xk7_2) ⟨(t0::t1::t2::t3::t4::t5::t6::t7::t8::t9::t10::t11::t12::t13::t14::t15::t16::t17::t18::t19::t20::t21::t22::t23::t24::t25::t26::t27::t28::t29::t30::t31::t32::t33::t34::t35::t36::t37::t38::t39::t40::t41::t42::t43::t44::t45::t46::t47::t48::t49::t50::t51::t52::t53::t54::t55::t56::t57::t58::t59::t60::t61::t62::t63::t64::t65::t66::t67::t68::t69::t70::t71::t72::t73::t74::t75::t76::t77::t78::t79::t80::t81::t82::t83::t84::t85::t86::t87::t88::t89::t90::t91::t92::t93::t94::t95::t96::t97::t98::t99::t100::t101::t102::t103::t104::t105::t106::t107::t108::t109::t110::t111::t112::t113::t114::t115::t116::t117::t118::t119::t120::t121::t122::t123::t124::v147::(V.lit (Value.bool false))::uu::uu::uu::t130::[]),h148⟩) (
  opsP (xX s 7 wl k false) xg7_3 32 m0 ac (runK (xX s 7 wl k false) (bodyK s.P Try.f7) xk7_2) ⟨(t0::t1::t2::t3::t4::t5::t6::t7::t8::t9::t10::t11::t12::t13::t14::t15::t16::t17::t18::t19::t20::t21::t22::t23::t24::t25::t26::t27::t28::t29::t30::t31::t32::t33::t34::t35::t36::t37::t38::t39::t40::t41::t42::t43::t44::t45::t46::t47::t48::t49::t50::t51::t52::t53::t54::t55::t56::t57::t58::t59::t60::t61::t62::t63::t64::t65::t66::t67::t68::t69::t70::t71::t72::t73::t74::t75::t76::t77::t78::t79::t80::t81::t82::t83::t84::t85::t86::t87::t88::t89::t90::t91::t92::t93::t94::t95::t96::t97::t98::t99::t100::t101::t102::t103::t104::t105::t106::t107::t108::t109::t110::t111::t112::t113::t114::t115::t116::t117::t118::t119::t120::t121::t122::t123::t124::v147::v147::uu::t128::t129::t130::[]),h148⟩) :=
  (go_op1 xo7_11 xo7_11a rfl rfl rfl (st_no (by kernel_rfl) (st_bm (by kernel_rfl) fun v147 h148 =>
  (go_op1 xo7_11 xo7_11a rfl rfl rfl (st_no (by kernel_rfl) (st_id (v := v147) (H := h148) (by kernel_rfl)
  (go_gdT1 xo7_11 xo7_11a rfl rfl rfl rfl (by kernel_rfl)
  (st_no (by kernel_rfl) (st_bm (by kernel_rfl) fun v149 h150 =>
  (go_run1 xo7_11 xo7_11a rfl rfl rfl rfl (by kernel_rfl) (st_no (by kernel_rfl) (st_bp (by kernel_rfl) fun v151 h152 =>
  (go_run1 xo7_11 xo7_11a rfl rfl rfl rfl (by kernel_rfl) (st_no (by kernel_rfl) (st_bm (by kernel_rfl) fun v153 h154 =>
  (by kernel_rfl)))))))))
  (go_skip1 xo7_11 rfl rfl rfl rfl (by kernel_rfl)
  (go_skip1 xo7_11 rfl rfl rfl rfl (by kernel_rfl)
  (by kernel_rfl)))
  (by kernel_rfl))))))))
theorem xm7_10 (s : Sys) (k wl : Nat) (m0 : Nat) (ac : List Nat × List Nat) (t0 t1 t2 t3 t4 t5 t6 t7 t8 t9 t10 t11 t12 t13 t14 t15 t16 t17 t18 t19 t20 t21 t22 t23 t24 t25 t26 t27 t28 t29 t30 t31 t32 t33 t34 t35 t36 t37 t38 t39 t40 t41 t42 t43 t44 t45 t46 t47 t48 t49 t50 t51 t52 t53 t54 t55 t56 t57 t58 t59 t60 t61 t62 t63 t64 t65 t66 t67 t68 t69 t70 t71 t72 t73 t74 t75 t76 t77 t78 t79 t80 t81 t82 t83 t84 t85 t86 t87 t88 t89 t90 t91 t92 t93 t94 t95 t96 t97 t98 t99 t100 t101 t102 t103 t104 t105 t106 t107 t108 t109 t110 t111 t112 t113 t114 t115 t116 t117 t118 t119 t120 t121 t122 t123 t124 t125 t126 t127 t128 t129 t130 : V) (h : Hp) : opsP (xX s 7 wl k false) xg7_3 34 m0 ac (runK (xX s 7 wl k false) (bodyK s.P Try.f7) xk7_2) ⟨(t0::t1::t2::t3::t4::t5::t6::t7::t8::t9::t10::t11::t12::t13::t14::t15::t16::t17::t18::t19::t20::t21::t22::t23::t24::t25::t26::t27::t28::t29::t30::t31::t32::t33::t34::t35::t36::t37::t38::t39::t40::t41::t42::t43::t44::t45::t46::t47::t48::t49::t50::t51::t52::t53::t54::t55::t56::t57::t58::t59::t60::t61::t62::t63::t64::t65::t66::t67::t68::t69::t70::t71::t72::t73::t74::t75::t76::t77::t78::t79::t80::t81::t82::t83::t84::t85::t86::t87::t88::t89::t90::t91::t92::t93::t94::t95::t96::t97::t98::t99::t100::t101::t102::t103::t104::t105::t106::t107::t108::t109::t110::t111::t112::t113::t114::t115::t116::t117::t118::t119::t120::t121::t122::t123::t124::t125::t126::t127::t128::t129::t130::[]),h⟩ =
  bm (vPick t126 t129 (V.lit (Value.bool false))) h fun v155 h156 =>
  some (v155,h156) :=
  (go_op1 xo7_11 xo7_11a rfl rfl rfl (st_no (by kernel_rfl) (st_bm (by kernel_rfl) fun v155 h156 =>
  (go_op1 xo7_11 xo7_11a rfl rfl rfl (st_no (by kernel_rfl) (st_id (v := v155) (H := h156) (by kernel_rfl)
  (go_end1 xo7_11 (by kernel_rfl) xo7_11a
  (go_ret (by kernel_rfl)))))))))
theorem xk7_0_ret (cx : Cx) (K : Out → St → Option (V × Hp)) (s : St) : runK cx K xk7_0 .ret s = K .ret s := by kernel_rfl
theorem xk7_1_ret (cx : Cx) (K : Out → St → Option (V × Hp)) (s : St) : runK cx K xk7_1 .ret s = K .ret s := by kernel_rfl
theorem xk7_2_ret (cx : Cx) (K : Out → St → Option (V × Hp)) (s : St) : runK cx K xk7_2 .ret s = K .ret s := by kernel_rfl
-- names: xb7,xm7_0,xm7_1,xm7_2,xm7_3,xm7_4,xm7_5,xm7_6,xm7_7,xm7_8,xm7_9,xm7_10,xk7_0_ret,xk7_1_ret,xk7_2_ret
end Go.Ab
