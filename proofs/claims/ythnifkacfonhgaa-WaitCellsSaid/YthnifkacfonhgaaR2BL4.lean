/- The program's code,point by point: printed by gen.py. -/
import Derived.Test.YthnifkacfonhgaaR2Seat
set_option linter.unusedVariables false
set_option linter.unusedSimpArgs false
set_option maxRecDepth 100000
set_option linter.unusedVariables false
namespace Go.Ab
open Go.Proofs
/-! 4 poacher/poacherlaw14.WaitCells: 0 c,1 m,2 f,3 c,4 m,5 f,7 up,8 a,9 g,10 n,11 at,12 i -/
noncomputable def xg4_0 : Code := codeAt (bodyOf Try.f4) [1,1,0,0]
noncomputable def xk4_0 : List Fr := [.seq (codeAt (bodyOf Try.f4) [1,1,0,1]),.seq (codeAt (bodyOf Try.f4) [1,1,1])]
noncomputable def xl4_0 : Code := codeAt (bodyOf Try.f4) [1,1,1,1,1,1,1,0,1,0,0]
noncomputable def xk4_1 : List Fr := [.block 0,.seq (codeAt (bodyOf Try.f4) [1,1,1,1,1,1,1,1])]
noncomputable def xg4_1 : Code := codeAt (bodyOf Try.f4) [1,1,1,1,1,1,1,0,1,0,0,1,0,0,0]
noncomputable def xk4_2 : List Fr := [.block 1,.seq (codeAt (bodyOf Try.f4) [1,1,1,1,1,1,1,0,1,0,0,1,1])]
noncomputable def xg4_2 : Code := codeAt (bodyOf Try.f4) [1,1,1,1,1,1,1,1,0,1,0,0]
noncomputable def xk4_3 : List Fr := [.seq (codeAt (bodyOf Try.f4) [1,1,1,1,1,1,1,1,0,1,0,1]),.seq (codeAt (bodyOf Try.f4) [1,1,1,1,1,1,1,1,1])]
noncomputable def xg4_3 : Code := codeAt (bodyOf Try.f4) [1,1,1,1,1,1,1,1,1,0]
noncomputable def xk4_4 : List Fr := [.seq (codeAt (bodyOf Try.f4) [1,1,1,1,1,1,1,1,1,1])]
theorem xo4_12 : orderIx (opsOf xg4_1) = [0,1,2,3,4,5,6,7,8] := by kernel_rfl
theorem xo4_12a : (rgOf (opsOf xg4_1)).any = false := by kernel_rfl
theorem xo4_12r : regOk (opsOf xg4_1) = true := by kernel_rfl
theorem xo4_17 : orderIx (opsOf xg4_3) = [0,1,2,3,4,5,6,7,8,9,10,11,12,13,14,15,16,17,18,19,20,21,22,23,24,25,26,27,28,29,30,31,32,33,34,35,36,37,38,39,40,41,42,43,44,45,46,47,48,49,50,51,52,53,54] := by kernel_rfl
theorem xo4_17a : (rgOf (opsOf xg4_3)).any = false := by kernel_rfl
theorem xo4_17r : regOk (opsOf xg4_3) = true := by kernel_rfl
theorem xb4 (s : Sys) (k wl : Nat) (t0 t1 t2 : V) (h : Hp) : bodyV (xX s 4 wl k false) Try.f4 [t0,t1,t2] h =
  bp (opBox t0 h) fun v1 h2 =>
  bp (opBox t2 h2) fun v3 h4 =>
  bp (callV (xX s 4 wl k false) false true (.fn (.func 20) [] []) [] h4) fun v5 h6 =>
  bm (vUn .not v5) h6 fun v7 h8 =>
  gd v7 (
  opsP (xX s 4 wl k false) xg4_0 6 h6.length ([],[]) (runK (xX s 4 wl k false) (bodyK s.P Try.f4) xk4_0) ⟨(t0::t1::t2::v1::uu::v3::(V.lit (Value.bool false))::v5::uu::uu::uu::uu::uu::v5::v5::v7::(V.lit (Value.bool true))::uu::uu::uu::uu::uu::uu::uu::uu::uu::uu::uu::uu::uu::uu::uu::uu::uu::uu::uu::uu::uu::uu::uu::uu::uu::uu::uu::uu::uu::uu::uu::uu::uu::uu::uu::uu::uu::uu::uu::uu::uu::uu::uu::uu::uu::uu::uu::uu::uu::uu::uu::uu::uu::uu::uu::uu::uu::uu::uu::uu::uu::uu::uu::uu::uu::uu::uu::uu::uu::uu::uu::uu::uu::uu::uu::uu::uu::uu::uu::uu::uu::uu::uu::uu::uu::uu::uu::uu::uu::uu::uu::uu::uu::uu::uu::uu::uu::uu::uu::uu::uu::[]),h8⟩) (
  bp (opLen s.P 25 t1 h8) fun v9 h10 =>
  bm (vBin s.P .gtr 3 v9 (V.lit (Value.int .i64 500))) h10 fun v11 h12 =>
  opsP (xX s 4 wl k false) xg4_0 6 h6.length ([],[]) (runK (xX s 4 wl k false) (bodyK s.P Try.f4) xk4_0) ⟨(t0::t1::t2::v1::uu::v3::(V.lit (Value.bool false))::v5::uu::uu::uu::uu::uu::v5::v5::v7::(V.lit (Value.bool false))::t1::v9::v11::uu::uu::uu::uu::uu::uu::uu::uu::uu::uu::uu::uu::uu::uu::uu::uu::uu::uu::uu::uu::uu::uu::uu::uu::uu::uu::uu::uu::uu::uu::uu::uu::uu::uu::uu::uu::uu::uu::uu::uu::uu::uu::uu::uu::uu::uu::uu::uu::uu::uu::uu::uu::uu::uu::uu::uu::uu::uu::uu::uu::uu::uu::uu::uu::uu::uu::uu::uu::uu::uu::uu::uu::uu::uu::uu::uu::uu::uu::uu::uu::uu::uu::uu::uu::uu::uu::uu::uu::uu::uu::uu::uu::uu::uu::uu::uu::uu::uu::[]),h12⟩) (
  opsP (xX s 4 wl k false) xg4_0 4 h6.length ([],[]) (runK (xX s 4 wl k false) (bodyK s.P Try.f4) xk4_0) ⟨(t0::t1::t2::v1::uu::v3::(V.lit (Value.bool false))::v5::uu::uu::uu::uu::uu::v5::v5::v7::v7::uu::uu::uu::uu::uu::uu::uu::uu::uu::uu::uu::uu::uu::uu::uu::uu::uu::uu::uu::uu::uu::uu::uu::uu::uu::uu::uu::uu::uu::uu::uu::uu::uu::uu::uu::uu::uu::uu::uu::uu::uu::uu::uu::uu::uu::uu::uu::uu::uu::uu::uu::uu::uu::uu::uu::uu::uu::uu::uu::uu::uu::uu::uu::uu::uu::uu::uu::uu::uu::uu::uu::uu::uu::uu::uu::uu::uu::uu::uu::uu::uu::uu::uu::uu::uu::uu::uu::uu::uu::uu::uu::uu::uu::uu::uu::uu::uu::uu::uu::uu::uu::[]),h8⟩) :=
  bodyV_run rfl (go_seq (go_reg0
  (go_op0 rfl rfl (st_bp (by kernel_rfl) fun v1 h2 =>
  (go_op0 rfl rfl (st_bp (by kernel_rfl) fun v3 h4 =>
  (go_op0 rfl rfl (st_id (v := (V.lit (Value.bool false))) (H := h4) (by kernel_rfl)
  (go_end0 (by kernel_rfl)
  (go_seq (go_reg0
  (go_op0 rfl rfl (st_bp (by kernel_rfl) fun v5 h6 =>
  (go_op0 rfl rfl (st_id (v := v5) (H := h6) (by kernel_rfl)
  (go_end0 (by kernel_rfl)
  (go_seq (go_seq (go_reg0
  (go_op0 rfl rfl (st_id (v := v5) (H := h6) (by kernel_rfl)
  (go_op0 rfl rfl (st_bm (by kernel_rfl) fun v7 h8 =>
  (go_op0 rfl rfl (st_id (v := v7) (H := h8) (by kernel_rfl)
  (go_gdF0 rfl rfl rfl (by kernel_rfl)
  (go_skip0 rfl rfl rfl (by kernel_rfl)
  (go_skip0 rfl rfl rfl (by kernel_rfl)
  (by kernel_rfl)))
  (st_id (v := t1) (H := h8) (by kernel_rfl)
  (go_run0 rfl rfl rfl (by kernel_rfl) (st_bp (by kernel_rfl) fun v9 h10 =>
  (go_run0 rfl rfl rfl (by kernel_rfl) (st_bm (by kernel_rfl) fun v11 h12 =>
  (by kernel_rfl))))))
  (by kernel_rfl)))))))))))))))))))))))))))
theorem xe4 (k wl : Nat) (t0 t1 t2 : V) (h : Hp) : evF Try.prog xM (k + 1) wl 4 [t0,t1,t2] h = bodyV (xX (xS k) 4 wl k false) Try.f4 [t0,t1,t2] h := by kernel_rfl
theorem xz4 (P : Program) (t0 t1 t2 t3 t4 t5 t6 t7 t8 t9 t10 t11 t12 t13 t14 t15 t16 t17 t18 t19 t20 t21 t22 t23 t24 t25 t26 t27 t28 t29 t30 t31 t32 t33 t34 t35 t36 t37 t38 t39 t40 t41 t42 t43 t44 t45 t46 t47 t48 t49 t50 t51 t52 t53 t54 t55 t56 t57 t58 t59 t60 t61 t62 t63 t64 t65 t66 t67 t68 t69 t70 t71 t72 t73 t74 t75 t76 t77 t78 t79 t80 t81 t82 t83 t84 t85 t86 t87 t88 t89 t90 t91 t92 t93 t94 t95 t96 t97 t98 t99 t100 t101 t102 t103 t104 t105 t106 t107 t108 t109 t110 t111 t112 t113 t114 t115 t116 t117 : V) (h : Hp) : bodyK P Try.f4 .ret ⟨(t0::t1::t2::t3::t4::t5::t6::t7::t8::t9::t10::t11::t12::t13::t14::t15::t16::t17::t18::t19::t20::t21::t22::t23::t24::t25::t26::t27::t28::t29::t30::t31::t32::t33::t34::t35::t36::t37::t38::t39::t40::t41::t42::t43::t44::t45::t46::t47::t48::t49::t50::t51::t52::t53::t54::t55::t56::t57::t58::t59::t60::t61::t62::t63::t64::t65::t66::t67::t68::t69::t70::t71::t72::t73::t74::t75::t76::t77::t78::t79::t80::t81::t82::t83::t84::t85::t86::t87::t88::t89::t90::t91::t92::t93::t94::t95::t96::t97::t98::t99::t100::t101::t102::t103::t104::t105::t106::t107::t108::t109::t110::t111::t112::t113::t114::t115::t116::t117::[]),h⟩ = some (t6,h) := by kernel_rfl
theorem xm4_0 (s : Sys) (k wl : Nat) (m0 : Nat) (ac : List Nat × List Nat) (t0 t1 t2 t3 t4 t5 t6 t7 t8 t9 t10 t11 t12 t13 t14 t15 t16 t17 t18 t19 t20 t21 t22 t23 t24 t25 t26 t27 t28 t29 t30 t31 t32 t33 t34 t35 t36 t37 t38 t39 t40 t41 t42 t43 t44 t45 t46 t47 t48 t49 t50 t51 t52 t53 t54 t55 t56 t57 t58 t59 t60 t61 t62 t63 t64 t65 t66 t67 t68 t69 t70 t71 t72 t73 t74 t75 t76 t77 t78 t79 t80 t81 t82 t83 t84 t85 t86 t87 t88 t89 t90 t91 t92 t93 t94 t95 t96 t97 t98 t99 t100 t101 t102 t103 t104 t105 t106 t107 t108 t109 t110 t111 t112 t113 t114 t115 t116 t117 : V) (h : Hp) : opsP (xX s 4 wl k false) xg4_0 6 m0 ac (runK (xX s 4 wl k false) (bodyK s.P Try.f4) xk4_0) ⟨(t0::t1::t2::t3::t4::t5::t6::t7::t8::t9::t10::t11::t12::t13::t14::t15::t16::t17::t18::t19::t20::t21::t22::t23::t24::t25::t26::t27::t28::t29::t30::t31::t32::t33::t34::t35::t36::t37::t38::t39::t40::t41::t42::t43::t44::t45::t46::t47::t48::t49::t50::t51::t52::t53::t54::t55::t56::t57::t58::t59::t60::t61::t62::t63::t64::t65::t66::t67::t68::t69::t70::t71::t72::t73::t74::t75::t76::t77::t78::t79::t80::t81::t82::t83::t84::t85::t86::t87::t88::t89::t90::t91::t92::t93::t94::t95::t96::t97::t98::t99::t100::t101::t102::t103::t104::t105::t106::t107::t108::t109::t110::t111::t112::t113::t114::t115::t116::t117::[]),h⟩ =
  bm (vPick t16 (V.lit (Value.bool true)) t19) h fun v13 h14 =>
  cnd v13 (
  some (t7,h14)) (
  bm (vLoad s.P 23 t3 h14) h14 fun v15 h16 =>
  bm (vLoad s.P 28 t5 h16) h16 fun v17 h18 =>
  bp (callV (xX s 4 wl k false) false true (.fn (.func 21) [] []) [v15,t1,v17] h18) fun v19 h20 =>
  bm (vExtract v19 0) h20 fun v21 h22 =>
  bm (vExtract v19 1) h22 fun v23 h24 =>
  bp (opAlloc s.P 28 h24) fun v25 h26 =>
  bs (vStore s.P wl 28 v25 v23 h26) fun h27 =>
  bp (opLen s.P 25 v21 h27) fun v28 h29 =>
  bp (opLen s.P 25 t1 h29) fun v30 h31 =>
  bm (vBin s.P .neq 3 v28 v30) h31 fun v32 h33 =>
  cnd v32 (
  some ((V.lit (Value.bool false)),h33)) (
  itX (xX s 4 wl k false) xl4_0 h33.length (runK (xX s 4 wl k false) (bodyK s.P Try.f4) xk4_1) k ⟨((V.kill h33.length t0)::(V.kill h33.length t1)::(V.kill h33.length t2)::(V.kill h33.length t3)::(V.kill h33.length t4)::(V.kill h33.length t5)::(V.kill h33.length t6)::(V.kill h33.length t7)::(V.kill h33.length v21)::(V.kill h33.length v25)::(V.lit (Value.int .i64 0))::(V.lit (Value.int .i64 (-1)))::(V.lit (Value.int .i64 0))::(V.kill h33.length t13)::(V.kill h33.length t14)::(V.kill h33.length t15)::(V.kill h33.length t16)::(V.kill h33.length t17)::(V.kill h33.length t18)::(V.kill h33.length t19)::(V.kill h33.length v13)::(V.kill h33.length t21)::(V.kill h33.length v19)::(V.kill h33.length v15)::(V.kill h33.length t1)::(V.kill h33.length v17)::(V.kill h33.length v19)::(V.kill h33.length v21)::(V.kill h33.length v23)::(V.kill h33.length v21)::(V.kill h33.length v28)::(V.kill h33.length t1)::(V.kill h33.length v30)::(V.kill h33.length v32)::.junk::.junk::.junk::.junk::.junk::.junk::.junk::.junk::.junk::.junk::.junk::.junk::.junk::.junk::.junk::.junk::.junk::.junk::(V.kill h33.length t52)::(V.kill h33.length t53)::(V.kill h33.length t54)::(V.kill h33.length t55)::(V.kill h33.length t56)::(V.kill h33.length t57)::(V.kill h33.length t58)::(V.kill h33.length t59)::(V.kill h33.length t60)::(V.kill h33.length t61)::(V.kill h33.length t62)::(V.kill h33.length t63)::(V.kill h33.length t64)::(V.kill h33.length t65)::(V.kill h33.length t66)::(V.kill h33.length t67)::(V.kill h33.length t68)::(V.kill h33.length t69)::(V.kill h33.length t70)::(V.kill h33.length t71)::(V.kill h33.length t72)::(V.kill h33.length t73)::(V.kill h33.length t74)::(V.kill h33.length t75)::(V.kill h33.length t76)::(V.kill h33.length t77)::(V.kill h33.length t78)::(V.kill h33.length t79)::(V.kill h33.length t80)::(V.kill h33.length t81)::(V.kill h33.length t82)::(V.kill h33.length t83)::(V.kill h33.length t84)::(V.kill h33.length t85)::(V.kill h33.length t86)::(V.kill h33.length t87)::(V.kill h33.length t88)::(V.kill h33.length t89)::(V.kill h33.length t90)::(V.kill h33.length t91)::(V.kill h33.length t92)::(V.kill h33.length t93)::(V.kill h33.length t94)::(V.kill h33.length t95)::(V.kill h33.length t96)::(V.kill h33.length t97)::(V.kill h33.length t98)::(V.kill h33.length t99)::(V.kill h33.length t100)::(V.kill h33.length t101)::(V.kill h33.length t102)::(V.kill h33.length t103)::(V.kill h33.length t104)::(V.kill h33.length t105)::(V.kill h33.length t106)::(V.kill h33.length t107)::(V.kill h33.length t108)::(V.kill h33.length t109)::(V.kill h33.length t110)::(V.kill h33.length t111)::(V.kill h33.length t112)::(V.kill h33.length t113)::(V.kill h33.length t114)::(V.kill h33.length t115)::(V.kill h33.length t116)::(V.kill h33.length t117)::[]),cutH h33.length h33⟩)) :=
  (go_op0 rfl rfl (st_bm (by kernel_rfl) fun v13 h14 =>
  (go_end0 (by kernel_rfl)
  (go_cond (by kernel_rfl)
  (go_seq (go_reg0
  (go_op0 rfl rfl (st_id (v := t7) (H := h14) (by kernel_rfl)
  (go_op0 rfl rfl (st_id (v := t7) (H := h14) (by kernel_rfl)
  (go_end0 (by kernel_rfl)
  (go_ret (rt_seq_ret (by kernel_rfl))))))))))
  (go_skip (go_seq (go_reg0
  (go_op0 rfl rfl (st_bm (by kernel_rfl) fun v15 h16 =>
  (go_op0 rfl rfl (st_id (v := t1) (H := h16) (by kernel_rfl)
  (go_op0 rfl rfl (st_bm (by kernel_rfl) fun v17 h18 =>
  (go_op0 rfl rfl (st_bp (by kernel_rfl) fun v19 h20 =>
  (go_op0 rfl rfl (st_id (v := v19) (H := h20) (by kernel_rfl)
  (go_op0 rfl rfl (st_bm (by kernel_rfl) fun v21 h22 =>
  (go_op0 rfl rfl (st_bm (by kernel_rfl) fun v23 h24 =>
  (go_op0 rfl rfl (st_bp (by kernel_rfl) fun v25 h26 =>
  (go_op0 rfl rfl (st_id (v := v21) (H := h26) (by kernel_rfl)
  (go_op0 rfl rfl (st_bs (by kernel_rfl) fun h27 =>
  (go_end0 (by kernel_rfl)
  (go_seq (go_seq (go_reg0
  (go_op0 rfl rfl (st_id (v := v21) (H := h27) (by kernel_rfl)
  (go_op0 rfl rfl (st_bp (by kernel_rfl) fun v28 h29 =>
  (go_op0 rfl rfl (st_id (v := t1) (H := h29) (by kernel_rfl)
  (go_op0 rfl rfl (st_bp (by kernel_rfl) fun v30 h31 =>
  (go_op0 rfl rfl (st_bm (by kernel_rfl) fun v32 h33 =>
  (go_end0 (by kernel_rfl)
  (go_cond (by kernel_rfl)
  (go_seq (go_reg0
  (go_op0 rfl rfl (st_id (v := (V.lit (Value.bool false))) (H := h33) (by kernel_rfl)
  (go_end0 (by kernel_rfl)
  (go_ret (rt_seq_ret (by kernel_rfl))))))))
  (go_skip (go_seq (go_reg0
  (go_op0 rfl rfl (st_id (v := (V.lit (Value.int .i64 0))) (H := h33) (by kernel_rfl)
  (go_end0 (by kernel_rfl)
  (go_seq (go_reg0
  (go_op0 rfl rfl (st_id (v := (V.lit (Value.int .i64 (-1)))) (H := h33) (by kernel_rfl)
  (go_end0 (by kernel_rfl)
  (go_seq (go_seq (go_reg0
  (go_op0 rfl rfl (st_id (v := (V.lit (Value.int .i64 0))) (H := h33) (by kernel_rfl)
  (go_end0 (by kernel_rfl)
  (go_block (by kernel_rfl))))))))))))))))))))))))))))))))))))))))))))))))))))))))))))))
theorem xr4_0 (s : Sys) (K : Out → St → Option (V × Hp)) (k wl : Nat) (rd : Bool) (n n0 : Nat) (t0 t1 t2 t3 t4 t5 t6 t7 t8 t9 t10 t11 t12 t13 t14 t15 t16 t17 t18 t19 t20 t21 t22 t23 t24 t25 t26 t27 t28 t29 t30 t31 t32 t33 t34 t35 t36 t37 t38 t39 t40 t41 t42 t43 t44 t45 t46 t47 t48 t49 t50 t51 t52 t53 t54 t55 t56 t57 t58 t59 t60 t61 t62 t63 t64 t65 t66 t67 t68 t69 t70 t71 t72 t73 t74 t75 t76 t77 t78 t79 t80 t81 t82 t83 t84 t85 t86 t87 t88 t89 t90 t91 t92 t93 t94 t95 t96 t97 t98 t99 t100 t101 t102 t103 t104 t105 t106 t107 t108 t109 t110 t111 t112 t113 t114 t115 t116 t117 : V) (h : Hp) : itX (xX s 4 wl k rd) xl4_0 n0 K (n + 1) ⟨(t0::t1::t2::t3::t4::t5::t6::t7::t8::t9::t10::t11::t12::t13::t14::t15::t16::t17::t18::t19::t20::t21::t22::t23::t24::t25::t26::t27::t28::t29::t30::t31::t32::t33::t34::t35::t36::t37::t38::t39::t40::t41::t42::t43::t44::t45::t46::t47::t48::t49::t50::t51::t52::t53::t54::t55::t56::t57::t58::t59::t60::t61::t62::t63::t64::t65::t66::t67::t68::t69::t70::t71::t72::t73::t74::t75::t76::t77::t78::t79::t80::t81::t82::t83::t84::t85::t86::t87::t88::t89::t90::t91::t92::t93::t94::t95::t96::t97::t98::t99::t100::t101::t102::t103::t104::t105::t106::t107::t108::t109::t110::t111::t112::t113::t114::t115::t116::t117::[]),h⟩ =
  bp (opLen s.P 25 t1 h) fun v34 h35 =>
  bm (vBin s.P .lss 3 t12 v34) h35 fun v36 h37 =>
  cnd v36 (
  bm (vIndexAddr s.P 25 t8 t12 h37) h37 fun v38 h39 =>
  bm (vLoad s.P 26 v38 h39) h39 fun v40 h41 =>
  bm (vIndexAddr s.P 25 t1 t12 h41) h41 fun v42 h43 =>
  bm (vLoad s.P 26 v42 h43) h43 fun v44 h45 =>
  bm (vBin s.P .neq 26 v40 v44) h45 fun v46 h47 =>
  cnd v46 (
  bm (vBin s.P .add 3 t10 (V.lit (Value.int .i64 1))) h47 fun v48 h49 =>
  runK (xX s 4 wl k rd) (nextK (xX s 4 wl k rd) xl4_0 n0 K n) xk4_2 .norm ⟨(t0::t1::t2::t3::t4::t5::t6::t7::t8::t9::v48::t12::t12::t13::t14::t15::t16::t17::t18::t19::t20::t21::t22::t23::t24::t25::t26::t27::t28::t29::t30::t31::t32::t33::t12::t1::v34::v36::t38::t39::t8::t12::v38::v40::t1::t12::v42::v44::v46::t10::v48::t12::t52::t53::t54::t55::t56::t57::t58::t59::t60::t61::t62::t63::t64::t65::t66::t67::t68::t69::t70::t71::t72::t73::t74::t75::t76::t77::t78::t79::t80::t81::t82::t83::t84::t85::t86::t87::t88::t89::t90::t91::t92::t93::t94::t95::t96::t97::t98::t99::t100::t101::t102::t103::t104::t105::t106::t107::t108::t109::t110::t111::t112::t113::t114::t115::t116::t117::[]),h49⟩) (
  runK (xX s 4 wl k rd) (nextK (xX s 4 wl k rd) xl4_0 n0 K n) xk4_2 .norm ⟨(t0::t1::t2::t3::t4::t5::t6::t7::t8::t9::t10::t11::t12::t13::t14::t15::t16::t17::t18::t19::t20::t21::t22::t23::t24::t25::t26::t27::t28::t29::t30::t31::t32::t33::t12::t1::v34::v36::t38::t39::t8::t12::v38::v40::t1::t12::v42::v44::v46::t49::t50::t51::t52::t53::t54::t55::t56::t57::t58::t59::t60::t61::t62::t63::t64::t65::t66::t67::t68::t69::t70::t71::t72::t73::t74::t75::t76::t77::t78::t79::t80::t81::t82::t83::t84::t85::t86::t87::t88::t89::t90::t91::t92::t93::t94::t95::t96::t97::t98::t99::t100::t101::t102::t103::t104::t105::t106::t107::t108::t109::t110::t111::t112::t113::t114::t115::t116::t117::[]),h47⟩)) (
  K (.exit 0) ⟨((V.kill n0 t0)::(V.kill n0 t1)::(V.kill n0 t2)::(V.kill n0 t3)::(V.kill n0 t4)::(V.kill n0 t5)::(V.kill n0 t6)::(V.kill n0 t7)::(V.kill n0 t8)::(V.kill n0 t9)::(V.kill n0 t10)::(V.kill n0 t11)::(V.kill n0 t12)::(V.kill n0 t13)::(V.kill n0 t14)::(V.kill n0 t15)::(V.kill n0 t16)::(V.kill n0 t17)::(V.kill n0 t18)::(V.kill n0 t19)::(V.kill n0 t20)::(V.kill n0 t21)::(V.kill n0 t22)::(V.kill n0 t23)::(V.kill n0 t24)::(V.kill n0 t25)::(V.kill n0 t26)::(V.kill n0 t27)::(V.kill n0 t28)::(V.kill n0 t29)::(V.kill n0 t30)::(V.kill n0 t31)::(V.kill n0 t32)::(V.kill n0 t33)::.junk::.junk::.junk::.junk::.junk::.junk::.junk::.junk::.junk::.junk::.junk::.junk::.junk::.junk::.junk::.junk::.junk::.junk::(V.kill n0 t52)::(V.kill n0 t53)::(V.kill n0 t54)::(V.kill n0 t55)::(V.kill n0 t56)::(V.kill n0 t57)::(V.kill n0 t58)::(V.kill n0 t59)::(V.kill n0 t60)::(V.kill n0 t61)::(V.kill n0 t62)::(V.kill n0 t63)::(V.kill n0 t64)::(V.kill n0 t65)::(V.kill n0 t66)::(V.kill n0 t67)::(V.kill n0 t68)::(V.kill n0 t69)::(V.kill n0 t70)::(V.kill n0 t71)::(V.kill n0 t72)::(V.kill n0 t73)::(V.kill n0 t74)::(V.kill n0 t75)::(V.kill n0 t76)::(V.kill n0 t77)::(V.kill n0 t78)::(V.kill n0 t79)::(V.kill n0 t80)::(V.kill n0 t81)::(V.kill n0 t82)::(V.kill n0 t83)::(V.kill n0 t84)::(V.kill n0 t85)::(V.kill n0 t86)::(V.kill n0 t87)::(V.kill n0 t88)::(V.kill n0 t89)::(V.kill n0 t90)::(V.kill n0 t91)::(V.kill n0 t92)::(V.kill n0 t93)::(V.kill n0 t94)::(V.kill n0 t95)::(V.kill n0 t96)::(V.kill n0 t97)::(V.kill n0 t98)::(V.kill n0 t99)::(V.kill n0 t100)::(V.kill n0 t101)::(V.kill n0 t102)::(V.kill n0 t103)::(V.kill n0 t104)::(V.kill n0 t105)::(V.kill n0 t106)::(V.kill n0 t107)::(V.kill n0 t108)::(V.kill n0 t109)::(V.kill n0 t110)::(V.kill n0 t111)::(V.kill n0 t112)::(V.kill n0 t113)::(V.kill n0 t114)::(V.kill n0 t115)::(V.kill n0 t116)::(V.kill n0 t117)::[]),cutH n0 h37⟩) :=
  itX_step (go_seq (go_seq (go_reg0
  (go_op0 rfl rfl (st_id (v := t12) (H := h) (by kernel_rfl)
  (go_op0 rfl rfl (st_id (v := t1) (H := h) (by kernel_rfl)
  (go_op0 rfl rfl (st_bp (by kernel_rfl) fun v34 h35 =>
  (go_op0 rfl rfl (st_bm (by kernel_rfl) fun v36 h37 =>
  (go_end0 (by kernel_rfl)
  (go_cond (by kernel_rfl)
  (go_skip (go_seq (go_block (go_seq (go_reg1 xo4_12r
  (go_op1 xo4_12 xo4_12a rfl rfl rfl (st_no (by kernel_rfl) (st_id (v := t8) (H := h37) (by kernel_rfl)
  (go_op1 xo4_12 xo4_12a rfl rfl rfl (st_no (by kernel_rfl) (st_id (v := t12) (H := h37) (by kernel_rfl)
  (go_op1 xo4_12 xo4_12a rfl rfl rfl (st_no (by kernel_rfl) (st_bm (by kernel_rfl) fun v38 h39 =>
  (go_op1 xo4_12 xo4_12a rfl rfl rfl (st_no (by kernel_rfl) (st_bm (by kernel_rfl) fun v40 h41 =>
  (go_op1 xo4_12 xo4_12a rfl rfl rfl (st_no (by kernel_rfl) (st_id (v := t1) (H := h41) (by kernel_rfl)
  (go_op1 xo4_12 xo4_12a rfl rfl rfl (st_no (by kernel_rfl) (st_id (v := t12) (H := h41) (by kernel_rfl)
  (go_op1 xo4_12 xo4_12a rfl rfl rfl (st_no (by kernel_rfl) (st_bm (by kernel_rfl) fun v42 h43 =>
  (go_op1 xo4_12 xo4_12a rfl rfl rfl (st_no (by kernel_rfl) (st_bm (by kernel_rfl) fun v44 h45 =>
  (go_op1 xo4_12 xo4_12a rfl rfl rfl (st_no (by kernel_rfl) (st_bm (by kernel_rfl) fun v46 h47 =>
  (go_end1 xo4_12 (by kernel_rfl) xo4_12a
  (go_cond (by kernel_rfl)
  (go_seq (go_reg0
  (go_op0 rfl rfl (st_id (v := t10) (H := h47) (by kernel_rfl)
  (go_op0 rfl rfl (st_bm (by kernel_rfl) fun v48 h49 =>
  (go_op0 rfl rfl (st_id (v := v48) (H := h49) (by kernel_rfl)
  (go_end0 (by kernel_rfl)
  (go_reg0
  (go_op0 rfl rfl (st_id (v := t12) (H := h49) (by kernel_rfl)
  (go_op0 rfl rfl (st_id (v := t12) (H := h49) (by kernel_rfl)
  (go_end0 (by kernel_rfl)
  (by kernel_rfl))))))))))))))))
  (go_skip (by kernel_rfl))))))))))))))))))))))))))))))))))))
  (go_exit (rt_seq_exit (by kernel_rfl))))))))))))))))
theorem xj4_1 (s : Sys) (k wl : Nat) (t0 t1 t2 t3 t4 t5 t6 t7 t8 t9 t10 t11 t12 t13 t14 t15 t16 t17 t18 t19 t20 t21 t22 t23 t24 t25 t26 t27 t28 t29 t30 t31 t32 t33 t34 t35 t36 t37 t38 t39 t40 t41 t42 t43 t44 t45 t46 t47 t48 t49 t50 t51 t52 t53 t54 t55 t56 t57 t58 t59 t60 t61 t62 t63 t64 t65 t66 t67 t68 t69 t70 t71 t72 t73 t74 t75 t76 t77 t78 t79 t80 t81 t82 t83 t84 t85 t86 t87 t88 t89 t90 t91 t92 t93 t94 t95 t96 t97 t98 t99 t100 t101 t102 t103 t104 t105 t106 t107 t108 t109 t110 t111 t112 t113 t114 t115 t116 t117 : V) (h : Hp) : runK (xX s 4 wl k false) (bodyK s.P Try.f4) xk4_1 (.exit 0) ⟨(t0::t1::t2::t3::t4::t5::t6::t7::t8::t9::t10::t11::t12::t13::t14::t15::t16::t17::t18::t19::t20::t21::t22::t23::t24::t25::t26::t27::t28::t29::t30::t31::t32::t33::t34::t35::t36::t37::t38::t39::t40::t41::t42::t43::t44::t45::t46::t47::t48::t49::t50::t51::t52::t53::t54::t55::t56::t57::t58::t59::t60::t61::t62::t63::t64::t65::t66::t67::t68::t69::t70::t71::t72::t73::t74::t75::t76::t77::t78::t79::t80::t81::t82::t83::t84::t85::t86::t87::t88::t89::t90::t91::t92::t93::t94::t95::t96::t97::t98::t99::t100::t101::t102::t103::t104::t105::t106::t107::t108::t109::t110::t111::t112::t113::t114::t115::t116::t117::[]),h⟩ =
  bm (vLoad s.P 23 t3 h) h fun v50 h51 =>
  bm (vLoad s.P 28 t5 h51) h51 fun v52 h53 =>
  bp (callV (xX s 4 wl k false) false true (.fn (.func 28) [] []) [v50,t1,v52,(V.lit (Value.int .i64 5)),(V.lit (Value.int .i64 5))] h53) fun v54 h55 =>
  bm (vUn .not v54) h55 fun v56 h57 =>
  cnd v56 (
  bm (vBin s.P .eql 3 t10 (V.lit (Value.int .i64 0))) h57 fun v58 h59 =>
  gd v58 (
  bm (vLoad s.P 28 t9 h59) h59 fun v60 h61 =>
  bm (vLoad s.P 28 t5 h61) h61 fun v62 h63 =>
  bm (vBin s.P .eql 28 v60 v62) h63 fun v64 h65 =>
  opsP (xX s 4 wl k false) xg4_2 6 h57.length ([],[]) (runK (xX s 4 wl k false) (bodyK s.P Try.f4) xk4_3) ⟨(t0::t1::t2::t3::t4::t5::t6::t7::t8::t9::t10::t11::t12::t13::t14::t15::t16::t17::t18::t19::t20::t21::t22::t23::t24::t25::t26::t27::t28::t29::t30::t31::t32::t33::t34::t35::t36::t37::t38::t39::t40::t41::t42::t43::t44::t45::t46::t47::t48::t49::t50::t51::v50::t1::v52::v54::v56::t10::v58::(V.lit (Value.bool true))::v60::v62::v64::t63::t64::t65::t66::t67::t68::t69::t70::t71::t72::t73::t74::t75::t76::t77::t78::t79::t80::t81::t82::t83::t84::t85::t86::t87::t88::t89::t90::t91::t92::t93::t94::t95::t96::t97::t98::t99::t100::t101::t102::t103::t104::t105::t106::t107::t108::t109::t110::t111::t112::t113::t114::t115::t116::t117::[]),h65⟩) (
  opsP (xX s 4 wl k false) xg4_2 6 h57.length ([],[]) (runK (xX s 4 wl k false) (bodyK s.P Try.f4) xk4_3) ⟨(t0::t1::t2::t3::t4::t5::t6::t7::t8::t9::t10::t11::t12::t13::t14::t15::t16::t17::t18::t19::t20::t21::t22::t23::t24::t25::t26::t27::t28::t29::t30::t31::t32::t33::t34::t35::t36::t37::t38::t39::t40::t41::t42::t43::t44::t45::t46::t47::t48::t49::t50::t51::v50::t1::v52::v54::v56::t10::v58::(V.lit (Value.bool false))::uu::uu::uu::t63::t64::t65::t66::t67::t68::t69::t70::t71::t72::t73::t74::t75::t76::t77::t78::t79::t80::t81::t82::t83::t84::t85::t86::t87::t88::t89::t90::t91::t92::t93::t94::t95::t96::t97::t98::t99::t100::t101::t102::t103::t104::t105::t106::t107::t108::t109::t110::t111::t112::t113::t114::t115::t116::t117::[]),h59⟩) (
  opsP (xX s 4 wl k false) xg4_2 4 h57.length ([],[]) (runK (xX s 4 wl k false) (bodyK s.P Try.f4) xk4_3) ⟨(t0::t1::t2::t3::t4::t5::t6::t7::t8::t9::t10::t11::t12::t13::t14::t15::t16::t17::t18::t19::t20::t21::t22::t23::t24::t25::t26::t27::t28::t29::t30::t31::t32::t33::t34::t35::t36::t37::t38::t39::t40::t41::t42::t43::t44::t45::t46::t47::t48::t49::t50::t51::v50::t1::v52::v54::v56::t10::v58::v58::uu::t61::t62::t63::t64::t65::t66::t67::t68::t69::t70::t71::t72::t73::t74::t75::t76::t77::t78::t79::t80::t81::t82::t83::t84::t85::t86::t87::t88::t89::t90::t91::t92::t93::t94::t95::t96::t97::t98::t99::t100::t101::t102::t103::t104::t105::t106::t107::t108::t109::t110::t111::t112::t113::t114::t115::t116::t117::[]),h59⟩)) (
  bm (vBin s.P .eql 3 t10 (V.lit (Value.int .i64 0))) h57 fun v66 h67 =>
  gd v66 (
  opsP (xX s 4 wl k false) xg4_3 53 h57.length ([],[]) (runK (xX s 4 wl k false) (bodyK s.P Try.f4) xk4_4) ⟨(t0::t1::t2::t3::t4::t5::t6::t7::t8::t9::t10::t11::t12::t13::t14::t15::t16::t17::t18::t19::t20::t21::t22::t23::t24::t25::t26::t27::t28::t29::t30::t31::t32::t33::t34::t35::t36::t37::t38::t39::t40::t41::t42::t43::t44::t45::t46::t47::t48::t49::t50::t51::v50::t1::v52::v54::v56::t57::t58::t59::t60::t61::t62::t63::t10::v66::(V.lit (Value.bool true))::uu::uu::uu::uu::uu::uu::uu::uu::uu::uu::uu::uu::uu::uu::uu::uu::uu::uu::uu::uu::uu::uu::uu::uu::uu::uu::uu::uu::uu::uu::uu::uu::uu::uu::uu::uu::uu::uu::uu::uu::uu::uu::uu::uu::uu::uu::uu::uu::uu::uu::t117::[]),h67⟩) (
  bm (vBin s.P .eql 3 t10 (V.lit (Value.int .i64 1))) h67 fun v68 h69 =>
  opsP (xX s 4 wl k false) xg4_3 6 h57.length ([],[]) (runK (xX s 4 wl k false) (bodyK s.P Try.f4) xk4_4) ⟨(t0::t1::t2::t3::t4::t5::t6::t7::t8::t9::t10::t11::t12::t13::t14::t15::t16::t17::t18::t19::t20::t21::t22::t23::t24::t25::t26::t27::t28::t29::t30::t31::t32::t33::t34::t35::t36::t37::t38::t39::t40::t41::t42::t43::t44::t45::t46::t47::t48::t49::t50::t51::v50::t1::v52::v54::v56::t57::t58::t59::t60::t61::t62::t63::t10::v66::(V.lit (Value.bool false))::t10::v68::v68::t70::t71::t72::t73::t74::t75::t76::t77::t78::t79::t80::t81::t82::t83::t84::t85::t86::t87::t88::t89::t90::t91::t92::t93::t94::t95::t96::t97::t98::t99::t100::t101::t102::t103::t104::t105::t106::t107::t108::t109::t110::t111::t112::t113::t114::t115::t116::t117::[]),h69⟩) (
  opsP (xX s 4 wl k false) xg4_3 4 h57.length ([],[]) (runK (xX s 4 wl k false) (bodyK s.P Try.f4) xk4_4) ⟨(t0::t1::t2::t3::t4::t5::t6::t7::t8::t9::t10::t11::t12::t13::t14::t15::t16::t17::t18::t19::t20::t21::t22::t23::t24::t25::t26::t27::t28::t29::t30::t31::t32::t33::t34::t35::t36::t37::t38::t39::t40::t41::t42::t43::t44::t45::t46::t47::t48::t49::t50::t51::v50::t1::v52::v54::v56::t57::t58::t59::t60::t61::t62::t63::t10::v66::v66::uu::t68::t69::t70::t71::t72::t73::t74::t75::t76::t77::t78::t79::t80::t81::t82::t83::t84::t85::t86::t87::t88::t89::t90::t91::t92::t93::t94::t95::t96::t97::t98::t99::t100::t101::t102::t103::t104::t105::t106::t107::t108::t109::t110::t111::t112::t113::t114::t115::t116::t117::[]),h67⟩)) :=
  (rt_block_eq (go_seq (go_seq (go_reg0
  (go_op0 rfl rfl (st_bm (by kernel_rfl) fun v50 h51 =>
  (go_op0 rfl rfl (st_id (v := t1) (H := h51) (by kernel_rfl)
  (go_op0 rfl rfl (st_bm (by kernel_rfl) fun v52 h53 =>
  (go_op0 rfl rfl (st_bp (by kernel_rfl) fun v54 h55 =>
  (go_op0 rfl rfl (st_bm (by kernel_rfl) fun v56 h57 =>
  (go_end0 (by kernel_rfl)
  (go_cond (by kernel_rfl)
  (go_seq (go_reg0
  (go_op0 rfl rfl (st_id (v := t10) (H := h57) (by kernel_rfl)
  (go_op0 rfl rfl (st_bm (by kernel_rfl) fun v58 h59 =>
  (go_op0 rfl rfl (st_id (v := v58) (H := h59) (by kernel_rfl)
  (go_gdT0 rfl rfl rfl (by kernel_rfl)
  (st_bm (by kernel_rfl) fun v60 h61 =>
  (go_run0 rfl rfl rfl (by kernel_rfl) (st_bm (by kernel_rfl) fun v62 h63 =>
  (go_run0 rfl rfl rfl (by kernel_rfl) (st_bm (by kernel_rfl) fun v64 h65 =>
  (by kernel_rfl))))))
  (go_skip0 rfl rfl rfl (by kernel_rfl)
  (go_skip0 rfl rfl rfl (by kernel_rfl)
  (by kernel_rfl)))
  (by kernel_rfl))))))))))
  (go_skip (go_seq (go_reg1 xo4_17r
  (go_op1 xo4_17 xo4_17a rfl rfl rfl (st_no (by kernel_rfl) (st_id (v := t10) (H := h57) (by kernel_rfl)
  (go_op1 xo4_17 xo4_17a rfl rfl rfl (st_no (by kernel_rfl) (st_bm (by kernel_rfl) fun v66 h67 =>
  (go_op1 xo4_17 xo4_17a rfl rfl rfl (st_no (by kernel_rfl) (st_id (v := v66) (H := h67) (by kernel_rfl)
  (go_gdF1 xo4_17 xo4_17a rfl rfl rfl rfl (by kernel_rfl)
  (go_skip1 xo4_17 rfl rfl rfl rfl (by kernel_rfl)
  (go_skip1 xo4_17 rfl rfl rfl rfl (by kernel_rfl)
  (go_none1 (x := #[]) xo4_17 rfl rfl rfl rfl (by kernel_rfl)
  (go_none1 (x := #[]) xo4_17 rfl rfl rfl rfl (by kernel_rfl)
  (go_none1 (x := #[]) xo4_17 rfl rfl rfl rfl (by kernel_rfl)
  (go_none1 (x := #[]) xo4_17 rfl rfl rfl rfl (by kernel_rfl)
  (go_none1 (x := #[]) xo4_17 rfl rfl rfl rfl (by kernel_rfl)
  (go_none1 (x := #[]) xo4_17 rfl rfl rfl rfl (by kernel_rfl)
  (go_none1 (x := #[]) xo4_17 rfl rfl rfl rfl (by kernel_rfl)
  (go_none1 (x := #[]) xo4_17 rfl rfl rfl rfl (by kernel_rfl)
  (go_none1 (x := #[]) xo4_17 rfl rfl rfl rfl (by kernel_rfl)
  (go_none1 (x := #[]) xo4_17 rfl rfl rfl rfl (by kernel_rfl)
  (go_none1 (x := #[]) xo4_17 rfl rfl rfl rfl (by kernel_rfl)
  (go_none1 (x := #[]) xo4_17 rfl rfl rfl rfl (by kernel_rfl)
  (go_none1 (x := #[]) xo4_17 rfl rfl rfl rfl (by kernel_rfl)
  (go_none1 (x := #[]) xo4_17 rfl rfl rfl rfl (by kernel_rfl)
  (go_none1 (x := #[]) xo4_17 rfl rfl rfl rfl (by kernel_rfl)
  (go_none1 (x := #[]) xo4_17 rfl rfl rfl rfl (by kernel_rfl)
  (go_none1 (x := #[]) xo4_17 rfl rfl rfl rfl (by kernel_rfl)
  (go_none1 (x := #[]) xo4_17 rfl rfl rfl rfl (by kernel_rfl)
  (go_none1 (x := #[]) xo4_17 rfl rfl rfl rfl (by kernel_rfl)
  (go_none1 (x := #[]) xo4_17 rfl rfl rfl rfl (by kernel_rfl)
  (go_none1 (x := #[]) xo4_17 rfl rfl rfl rfl (by kernel_rfl)
  (go_none1 (x := #[]) xo4_17 rfl rfl rfl rfl (by kernel_rfl)
  (go_none1 (x := #[]) xo4_17 rfl rfl rfl rfl (by kernel_rfl)
  (go_none1 (x := #[]) xo4_17 rfl rfl rfl rfl (by kernel_rfl)
  (go_none1 (x := #[]) xo4_17 rfl rfl rfl rfl (by kernel_rfl)
  (go_none1 (x := #[]) xo4_17 rfl rfl rfl rfl (by kernel_rfl)
  (go_none1 (x := #[]) xo4_17 rfl rfl rfl rfl (by kernel_rfl)
  (go_none1 (x := #[]) xo4_17 rfl rfl rfl rfl (by kernel_rfl)
  (go_none1 (x := #[]) xo4_17 rfl rfl rfl rfl (by kernel_rfl)
  (go_none1 (x := #[]) xo4_17 rfl rfl rfl rfl (by kernel_rfl)
  (go_none1 (x := #[]) xo4_17 rfl rfl rfl rfl (by kernel_rfl)
  (go_none1 (x := #[]) xo4_17 rfl rfl rfl rfl (by kernel_rfl)
  (go_none1 (x := #[]) xo4_17 rfl rfl rfl rfl (by kernel_rfl)
  (go_none1 (x := #[]) xo4_17 rfl rfl rfl rfl (by kernel_rfl)
  (go_none1 (x := #[]) xo4_17 rfl rfl rfl rfl (by kernel_rfl)
  (go_none1 (x := #[]) xo4_17 rfl rfl rfl rfl (by kernel_rfl)
  (go_none1 (x := #[]) xo4_17 rfl rfl rfl rfl (by kernel_rfl)
  (go_none1 (x := #[]) xo4_17 rfl rfl rfl rfl (by kernel_rfl)
  (go_none1 (x := #[]) xo4_17 rfl rfl rfl rfl (by kernel_rfl)
  (go_none1 (x := #[]) xo4_17 rfl rfl rfl rfl (by kernel_rfl)
  (go_none1 (x := #[]) xo4_17 rfl rfl rfl rfl (by kernel_rfl)
  (go_none1 (x := #[]) xo4_17 rfl rfl rfl rfl (by kernel_rfl)
  (go_none1 (x := #[]) xo4_17 rfl rfl rfl rfl (by kernel_rfl)
  (go_none1 (x := #[]) xo4_17 rfl rfl rfl rfl (by kernel_rfl)
  (go_none1 (x := #[]) xo4_17 rfl rfl rfl rfl (by kernel_rfl)
  (go_none1 (x := #[]) xo4_17 rfl rfl rfl rfl (by kernel_rfl)
  (go_skip1 xo4_17 rfl rfl rfl rfl (by kernel_rfl)
  (by kernel_rfl))))))))))))))))))))))))))))))))))))))))))))))))))
  (st_no (by kernel_rfl) (st_id (v := t10) (H := h67) (by kernel_rfl)
  (go_run1 xo4_17 xo4_17a rfl rfl rfl rfl (by kernel_rfl) (st_no (by kernel_rfl) (st_bm (by kernel_rfl) fun v68 h69 =>
  (go_run1 xo4_17 xo4_17a rfl rfl rfl rfl (by kernel_rfl) (st_no (by kernel_rfl) (st_id (v := v68) (H := h69) (by kernel_rfl)
  (by kernel_rfl)))))))))
  (by kernel_rfl))))))))))))))))))))))))))))))
theorem xj4_2 (s : Sys) (K : Out → St → Option (V × Hp)) (k wl : Nat) (rd : Bool) (n n0 : Nat) (t0 t1 t2 t3 t4 t5 t6 t7 t8 t9 t10 t11 t12 t13 t14 t15 t16 t17 t18 t19 t20 t21 t22 t23 t24 t25 t26 t27 t28 t29 t30 t31 t32 t33 t34 t35 t36 t37 t38 t39 t40 t41 t42 t43 t44 t45 t46 t47 t48 t49 t50 t51 t52 t53 t54 t55 t56 t57 t58 t59 t60 t61 t62 t63 t64 t65 t66 t67 t68 t69 t70 t71 t72 t73 t74 t75 t76 t77 t78 t79 t80 t81 t82 t83 t84 t85 t86 t87 t88 t89 t90 t91 t92 t93 t94 t95 t96 t97 t98 t99 t100 t101 t102 t103 t104 t105 t106 t107 t108 t109 t110 t111 t112 t113 t114 t115 t116 t117 : V) (h : Hp) : runK (xX s 4 wl k rd) (nextK (xX s 4 wl k rd) xl4_0 n0 K n) xk4_2 .norm ⟨(t0::t1::t2::t3::t4::t5::t6::t7::t8::t9::t10::t11::t12::t13::t14::t15::t16::t17::t18::t19::t20::t21::t22::t23::t24::t25::t26::t27::t28::t29::t30::t31::t32::t33::t34::t35::t36::t37::t38::t39::t40::t41::t42::t43::t44::t45::t46::t47::t48::t49::t50::t51::t52::t53::t54::t55::t56::t57::t58::t59::t60::t61::t62::t63::t64::t65::t66::t67::t68::t69::t70::t71::t72::t73::t74::t75::t76::t77::t78::t79::t80::t81::t82::t83::t84::t85::t86::t87::t88::t89::t90::t91::t92::t93::t94::t95::t96::t97::t98::t99::t100::t101::t102::t103::t104::t105::t106::t107::t108::t109::t110::t111::t112::t113::t114::t115::t116::t117::[]),h⟩ =
  bm (vBin s.P .add 3 t12 (V.lit (Value.int .i64 1))) h fun v70 h71 =>
  itX (xX s 4 wl k rd) xl4_0 n0 K n ⟨((V.kill n0 t0)::(V.kill n0 t1)::(V.kill n0 t2)::(V.kill n0 t3)::(V.kill n0 t4)::(V.kill n0 t5)::(V.kill n0 t6)::(V.kill n0 t7)::(V.kill n0 t8)::(V.kill n0 t9)::(V.kill n0 t10)::(V.kill n0 t11)::(V.kill n0 v70)::(V.kill n0 t13)::(V.kill n0 t14)::(V.kill n0 t15)::(V.kill n0 t16)::(V.kill n0 t17)::(V.kill n0 t18)::(V.kill n0 t19)::(V.kill n0 t20)::(V.kill n0 t21)::(V.kill n0 t22)::(V.kill n0 t23)::(V.kill n0 t24)::(V.kill n0 t25)::(V.kill n0 t26)::(V.kill n0 t27)::(V.kill n0 t28)::(V.kill n0 t29)::(V.kill n0 t30)::(V.kill n0 t31)::(V.kill n0 t32)::(V.kill n0 t33)::.junk::.junk::.junk::.junk::.junk::.junk::.junk::.junk::.junk::.junk::.junk::.junk::.junk::.junk::.junk::.junk::.junk::.junk::(V.kill n0 t52)::(V.kill n0 t53)::(V.kill n0 t54)::(V.kill n0 t55)::(V.kill n0 t56)::(V.kill n0 t57)::(V.kill n0 t58)::(V.kill n0 t59)::(V.kill n0 t60)::(V.kill n0 t61)::(V.kill n0 t62)::(V.kill n0 t63)::(V.kill n0 t64)::(V.kill n0 t65)::(V.kill n0 t66)::(V.kill n0 t67)::(V.kill n0 t68)::(V.kill n0 t69)::(V.kill n0 t70)::(V.kill n0 t71)::(V.kill n0 t72)::(V.kill n0 t73)::(V.kill n0 t74)::(V.kill n0 t75)::(V.kill n0 t76)::(V.kill n0 t77)::(V.kill n0 t78)::(V.kill n0 t79)::(V.kill n0 t80)::(V.kill n0 t81)::(V.kill n0 t82)::(V.kill n0 t83)::(V.kill n0 t84)::(V.kill n0 t85)::(V.kill n0 t86)::(V.kill n0 t87)::(V.kill n0 t88)::(V.kill n0 t89)::(V.kill n0 t90)::(V.kill n0 t91)::(V.kill n0 t92)::(V.kill n0 t93)::(V.kill n0 t94)::(V.kill n0 t95)::(V.kill n0 t96)::(V.kill n0 t97)::(V.kill n0 t98)::(V.kill n0 t99)::(V.kill n0 t100)::(V.kill n0 t101)::(V.kill n0 t102)::(V.kill n0 t103)::(V.kill n0 t104)::(V.kill n0 t105)::(V.kill n0 t106)::(V.kill n0 t107)::(V.kill n0 t108)::(V.kill n0 t109)::(V.kill n0 t110)::(V.kill n0 t111)::(V.kill n0 t112)::(V.kill n0 t113)::(V.kill n0 t114)::(V.kill n0 t115)::(V.kill n0 t116)::(V.kill n0 t117)::[]),cutH n0 h71⟩ :=
  (rt_block_norm (go_reg0
  (go_op0 rfl rfl (st_id (v := t12) (H := h) (by kernel_rfl)
  (go_op0 rfl rfl (st_bm (by kernel_rfl) fun v70 h71 =>
  (go_op0 rfl rfl (st_id (v := v70) (H := h71) (by kernel_rfl)
  (go_end0 (by kernel_rfl)
  (by kernel_rfl))))))))))
theorem xm4_3 (s : Sys) (k wl : Nat) (m0 : Nat) (ac : List Nat × List Nat) (t0 t1 t2 t3 t4 t5 t6 t7 t8 t9 t10 t11 t12 t13 t14 t15 t16 t17 t18 t19 t20 t21 t22 t23 t24 t25 t26 t27 t28 t29 t30 t31 t32 t33 t34 t35 t36 t37 t38 t39 t40 t41 t42 t43 t44 t45 t46 t47 t48 t49 t50 t51 t52 t53 t54 t55 t56 t57 t58 t59 t60 t61 t62 t63 t64 t65 t66 t67 t68 t69 t70 t71 t72 t73 t74 t75 t76 t77 t78 t79 t80 t81 t82 t83 t84 t85 t86 t87 t88 t89 t90 t91 t92 t93 t94 t95 t96 t97 t98 t99 t100 t101 t102 t103 t104 t105 t106 t107 t108 t109 t110 t111 t112 t113 t114 t115 t116 t117 : V) (h : Hp) : opsP (xX s 4 wl k false) xg4_2 6 m0 ac (runK (xX s 4 wl k false) (bodyK s.P Try.f4) xk4_3) ⟨(t0::t1::t2::t3::t4::t5::t6::t7::t8::t9::t10::t11::t12::t13::t14::t15::t16::t17::t18::t19::t20::t21::t22::t23::t24::t25::t26::t27::t28::t29::t30::t31::t32::t33::t34::t35::t36::t37::t38::t39::t40::t41::t42::t43::t44::t45::t46::t47::t48::t49::t50::t51::t52::t53::t54::t55::t56::t57::t58::t59::t60::t61::t62::t63::t64::t65::t66::t67::t68::t69::t70::t71::t72::t73::t74::t75::t76::t77::t78::t79::t80::t81::t82::t83::t84::t85::t86::t87::t88::t89::t90::t91::t92::t93::t94::t95::t96::t97::t98::t99::t100::t101::t102::t103::t104::t105::t106::t107::t108::t109::t110::t111::t112::t113::t114::t115::t116::t117::[]),h⟩ =
  bm (vPick t59 t62 (V.lit (Value.bool false))) h fun v72 h73 =>
  some (v72,h73) :=
  (go_op0 rfl rfl (st_bm (by kernel_rfl) fun v72 h73 =>
  (go_op0 rfl rfl (st_id (v := v72) (H := h73) (by kernel_rfl)
  (go_end0 (by kernel_rfl)
  (go_ret (rt_seq_ret (by kernel_rfl))))))))
theorem xm4_4 (s : Sys) (k wl : Nat) (m0 : Nat) (ac : List Nat × List Nat) (t0 t1 t2 t3 t4 t5 t6 t7 t8 t9 t10 t11 t12 t13 t14 t15 t16 t17 t18 t19 t20 t21 t22 t23 t24 t25 t26 t27 t28 t29 t30 t31 t32 t33 t34 t35 t36 t37 t38 t39 t40 t41 t42 t43 t44 t45 t46 t47 t48 t49 t50 t51 t52 t53 t54 t55 t56 t57 t58 t59 t60 t61 t62 t63 t64 t65 t66 t67 t68 t69 t70 t71 t72 t73 t74 t75 t76 t77 t78 t79 t80 t81 t82 t83 t84 t85 t86 t87 t88 t89 t90 t91 t92 t93 t94 t95 t96 t97 t98 t99 t100 t101 t102 t103 t104 t105 t106 t107 t108 t109 t110 t111 t112 t113 t114 t115 t116 t117 : V) (h : Hp) : opsP (xX s 4 wl k false) xg4_3 53 m0 ac (runK (xX s 4 wl k false) (bodyK s.P Try.f4) xk4_4) ⟨(t0::t1::t2::t3::t4::t5::t6::t7::t8::t9::t10::t11::t12::t13::t14::t15::t16::t17::t18::t19::t20::t21::t22::t23::t24::t25::t26::t27::t28::t29::t30::t31::t32::t33::t34::t35::t36::t37::t38::t39::t40::t41::t42::t43::t44::t45::t46::t47::t48::t49::t50::t51::t52::t53::t54::t55::t56::t57::t58::t59::t60::t61::t62::t63::t64::t65::t66::t67::t68::t69::t70::t71::t72::t73::t74::t75::t76::t77::t78::t79::t80::t81::t82::t83::t84::t85::t86::t87::t88::t89::t90::t91::t92::t93::t94::t95::t96::t97::t98::t99::t100::t101::t102::t103::t104::t105::t106::t107::t108::t109::t110::t111::t112::t113::t114::t115::t116::t117::[]),h⟩ =
  bm (vPick t66 (V.lit (Value.bool true)) t116) h fun v74 h75 =>
  some (v74,h75) :=
  (go_op1 xo4_17 xo4_17a rfl rfl rfl (st_no (by kernel_rfl) (st_bm (by kernel_rfl) fun v74 h75 =>
  (go_op1 xo4_17 xo4_17a rfl rfl rfl (st_no (by kernel_rfl) (st_id (v := v74) (H := h75) (by kernel_rfl)
  (go_end1 xo4_17 (by kernel_rfl) xo4_17a
  (go_ret (by kernel_rfl)))))))))
theorem xm4_5 (s : Sys) (k wl : Nat) (m0 : Nat) (ac : List Nat × List Nat) (t0 t1 t2 t3 t4 t5 t6 t7 t8 t9 t10 t11 t12 t13 t14 t15 t16 t17 t18 t19 t20 t21 t22 t23 t24 t25 t26 t27 t28 t29 t30 t31 t32 t33 t34 t35 t36 t37 t38 t39 t40 t41 t42 t43 t44 t45 t46 t47 t48 t49 t50 t51 t52 t53 t54 t55 t56 t57 t58 t59 t60 t61 t62 t63 t64 t65 t66 t67 t68 t69 t70 t71 t72 t73 t74 t75 t76 t77 t78 t79 t80 t81 t82 t83 t84 t85 t86 t87 t88 t89 t90 t91 t92 t93 t94 t95 t96 t97 t98 t99 t100 t101 t102 t103 t104 t105 t106 t107 t108 t109 t110 t111 t112 t113 t114 t115 t116 t117 : V) (h : Hp) : opsP (xX s 4 wl k false) xg4_3 6 m0 ac (runK (xX s 4 wl k false) (bodyK s.P Try.f4) xk4_4) ⟨(t0::t1::t2::t3::t4::t5::t6::t7::t8::t9::t10::t11::t12::t13::t14::t15::t16::t17::t18::t19::t20::t21::t22::t23::t24::t25::t26::t27::t28::t29::t30::t31::t32::t33::t34::t35::t36::t37::t38::t39::t40::t41::t42::t43::t44::t45::t46::t47::t48::t49::t50::t51::t52::t53::t54::t55::t56::t57::t58::t59::t60::t61::t62::t63::t64::t65::t66::t67::t68::t69::t70::t71::t72::t73::t74::t75::t76::t77::t78::t79::t80::t81::t82::t83::t84::t85::t86::t87::t88::t89::t90::t91::t92::t93::t94::t95::t96::t97::t98::t99::t100::t101::t102::t103::t104::t105::t106::t107::t108::t109::t110::t111::t112::t113::t114::t115::t116::t117::[]),h⟩ =
  gd t69 (
  bm (vFieldAddr s.P 28 t5 1) h fun v76 h77 =>
  bm (vLoad s.P 3 v76 h77) h77 fun v78 h79 =>
  bm (vBin s.P .eql 3 v78 (V.lit (Value.int .i64 2))) h79 fun v80 h81 =>
  opsP (xX s 4 wl k false) xg4_3 10 m0 ac (runK (xX s 4 wl k false) (bodyK s.P Try.f4) xk4_4) ⟨(t0::t1::t2::t3::t4::t5::t6::t7::t8::t9::t10::t11::t12::t13::t14::t15::t16::t17::t18::t19::t20::t21::t22::t23::t24::t25::t26::t27::t28::t29::t30::t31::t32::t33::t34::t35::t36::t37::t38::t39::t40::t41::t42::t43::t44::t45::t46::t47::t48::t49::t50::t51::t52::t53::t54::t55::t56::t57::t58::t59::t60::t61::t62::t63::t64::t65::t66::t67::t68::(V.lit (Value.bool true))::v76::v78::v80::v80::t74::t75::t76::t77::t78::t79::t80::t81::t82::t83::t84::t85::t86::t87::t88::t89::t90::t91::t92::t93::t94::t95::t96::t97::t98::t99::t100::t101::t102::t103::t104::t105::t106::t107::t108::t109::t110::t111::t112::t113::t114::t115::t116::t117::[]),h81⟩) (
  opsP (xX s 4 wl k false) xg4_3 52 m0 ac (runK (xX s 4 wl k false) (bodyK s.P Try.f4) xk4_4) ⟨(t0::t1::t2::t3::t4::t5::t6::t7::t8::t9::t10::t11::t12::t13::t14::t15::t16::t17::t18::t19::t20::t21::t22::t23::t24::t25::t26::t27::t28::t29::t30::t31::t32::t33::t34::t35::t36::t37::t38::t39::t40::t41::t42::t43::t44::t45::t46::t47::t48::t49::t50::t51::t52::t53::t54::t55::t56::t57::t58::t59::t60::t61::t62::t63::t64::t65::t66::t67::t68::(V.lit (Value.bool false))::uu::uu::uu::uu::uu::uu::uu::uu::uu::uu::uu::uu::uu::uu::uu::uu::uu::uu::uu::uu::uu::uu::uu::uu::uu::uu::uu::uu::uu::uu::uu::uu::uu::uu::uu::uu::uu::uu::uu::uu::uu::uu::uu::uu::uu::uu::t116::t117::[]),h⟩) (
  opsP (xX s 4 wl k false) xg4_3 7 m0 ac (runK (xX s 4 wl k false) (bodyK s.P Try.f4) xk4_4) ⟨(t0::t1::t2::t3::t4::t5::t6::t7::t8::t9::t10::t11::t12::t13::t14::t15::t16::t17::t18::t19::t20::t21::t22::t23::t24::t25::t26::t27::t28::t29::t30::t31::t32::t33::t34::t35::t36::t37::t38::t39::t40::t41::t42::t43::t44::t45::t46::t47::t48::t49::t50::t51::t52::t53::t54::t55::t56::t57::t58::t59::t60::t61::t62::t63::t64::t65::t66::t67::t68::t69::uu::t71::t72::t73::t74::t75::t76::t77::t78::t79::t80::t81::t82::t83::t84::t85::t86::t87::t88::t89::t90::t91::t92::t93::t94::t95::t96::t97::t98::t99::t100::t101::t102::t103::t104::t105::t106::t107::t108::t109::t110::t111::t112::t113::t114::t115::t116::t117::[]),h⟩) :=
  (go_gdT1 xo4_17 xo4_17a rfl rfl rfl rfl (by kernel_rfl)
  (st_no (by kernel_rfl) (st_bm (by kernel_rfl) fun v76 h77 =>
  (go_run1 xo4_17 xo4_17a rfl rfl rfl rfl (by kernel_rfl) (st_no (by kernel_rfl) (st_bm (by kernel_rfl) fun v78 h79 =>
  (go_run1 xo4_17 xo4_17a rfl rfl rfl rfl (by kernel_rfl) (st_no (by kernel_rfl) (st_bm (by kernel_rfl) fun v80 h81 =>
  (go_run1 xo4_17 xo4_17a rfl rfl rfl rfl (by kernel_rfl) (st_no (by kernel_rfl) (st_id (v := v80) (H := h81) (by kernel_rfl)
  (by kernel_rfl))))))))))))
  (go_skip1 xo4_17 rfl rfl rfl rfl (by kernel_rfl)
  (go_skip1 xo4_17 rfl rfl rfl rfl (by kernel_rfl)
  (go_skip1 xo4_17 rfl rfl rfl rfl (by kernel_rfl)
  (go_none1 (x := #[]) xo4_17 rfl rfl rfl rfl (by kernel_rfl)
  (go_none1 (x := #[]) xo4_17 rfl rfl rfl rfl (by kernel_rfl)
  (go_skip1 xo4_17 rfl rfl rfl rfl (by kernel_rfl)
  (go_skip1 xo4_17 rfl rfl rfl rfl (by kernel_rfl)
  (go_none1 (x := #[]) xo4_17 rfl rfl rfl rfl (by kernel_rfl)
  (go_none1 (x := #[]) xo4_17 rfl rfl rfl rfl (by kernel_rfl)
  (go_none1 (x := #[]) xo4_17 rfl rfl rfl rfl (by kernel_rfl)
  (go_none1 (x := #[]) xo4_17 rfl rfl rfl rfl (by kernel_rfl)
  (go_none1 (x := #[]) xo4_17 rfl rfl rfl rfl (by kernel_rfl)
  (go_none1 (x := #[]) xo4_17 rfl rfl rfl rfl (by kernel_rfl)
  (go_none1 (x := #[]) xo4_17 rfl rfl rfl rfl (by kernel_rfl)
  (go_none1 (x := #[]) xo4_17 rfl rfl rfl rfl (by kernel_rfl)
  (go_none1 (x := #[]) xo4_17 rfl rfl rfl rfl (by kernel_rfl)
  (go_none1 (x := #[]) xo4_17 rfl rfl rfl rfl (by kernel_rfl)
  (go_none1 (x := #[]) xo4_17 rfl rfl rfl rfl (by kernel_rfl)
  (go_none1 (x := #[]) xo4_17 rfl rfl rfl rfl (by kernel_rfl)
  (go_skip1 xo4_17 rfl rfl rfl rfl (by kernel_rfl)
  (go_skip1 xo4_17 rfl rfl rfl rfl (by kernel_rfl)
  (go_none1 (x := #[]) xo4_17 rfl rfl rfl rfl (by kernel_rfl)
  (go_none1 (x := #[]) xo4_17 rfl rfl rfl rfl (by kernel_rfl)
  (go_none1 (x := #[]) xo4_17 rfl rfl rfl rfl (by kernel_rfl)
  (go_skip1 xo4_17 rfl rfl rfl rfl (by kernel_rfl)
  (go_skip1 xo4_17 rfl rfl rfl rfl (by kernel_rfl)
  (go_none1 (x := #[]) xo4_17 rfl rfl rfl rfl (by kernel_rfl)
  (go_none1 (x := #[]) xo4_17 rfl rfl rfl rfl (by kernel_rfl)
  (go_none1 (x := #[]) xo4_17 rfl rfl rfl rfl (by kernel_rfl)
  (go_none1 (x := #[]) xo4_17 rfl rfl rfl rfl (by kernel_rfl)
  (go_none1 (x := #[]) xo4_17 rfl rfl rfl rfl (by kernel_rfl)
  (go_none1 (x := #[]) xo4_17 rfl rfl rfl rfl (by kernel_rfl)
  (go_none1 (x := #[]) xo4_17 rfl rfl rfl rfl (by kernel_rfl)
  (go_none1 (x := #[]) xo4_17 rfl rfl rfl rfl (by kernel_rfl)
  (go_none1 (x := #[]) xo4_17 rfl rfl rfl rfl (by kernel_rfl)
  (go_none1 (x := #[]) xo4_17 rfl rfl rfl rfl (by kernel_rfl)
  (go_none1 (x := #[]) xo4_17 rfl rfl rfl rfl (by kernel_rfl)
  (go_none1 (x := #[]) xo4_17 rfl rfl rfl rfl (by kernel_rfl)
  (go_none1 (x := #[]) xo4_17 rfl rfl rfl rfl (by kernel_rfl)
  (go_none1 (x := #[]) xo4_17 rfl rfl rfl rfl (by kernel_rfl)
  (go_none1 (x := #[]) xo4_17 rfl rfl rfl rfl (by kernel_rfl)
  (go_none1 (x := #[]) xo4_17 rfl rfl rfl rfl (by kernel_rfl)
  (go_none1 (x := #[]) xo4_17 rfl rfl rfl rfl (by kernel_rfl)
  (go_none1 (x := #[]) xo4_17 rfl rfl rfl rfl (by kernel_rfl)
  (go_skip1 xo4_17 rfl rfl rfl rfl (by kernel_rfl)
  (by kernel_rfl))))))))))))))))))))))))))))))))))))))))))))))
  (by kernel_rfl))
theorem xm4_6 (s : Sys) (k wl : Nat) (m0 : Nat) (ac : List Nat × List Nat) (t0 t1 t2 t3 t4 t5 t6 t7 t8 t9 t10 t11 t12 t13 t14 t15 t16 t17 t18 t19 t20 t21 t22 t23 t24 t25 t26 t27 t28 t29 t30 t31 t32 t33 t34 t35 t36 t37 t38 t39 t40 t41 t42 t43 t44 t45 t46 t47 t48 t49 t50 t51 t52 t53 t54 t55 t56 t57 t58 t59 t60 t61 t62 t63 t64 t65 t66 t67 t68 t69 t70 t71 t72 t73 t74 t75 t76 t77 t78 t79 t80 t81 t82 t83 t84 t85 t86 t87 t88 t89 t90 t91 t92 t93 t94 t95 t96 t97 t98 t99 t100 t101 t102 t103 t104 t105 t106 t107 t108 t109 t110 t111 t112 t113 t114 t115 t116 t117 : V) (h : Hp) : opsP (xX s 4 wl k false) xg4_3 10 m0 ac (runK (xX s 4 wl k false) (bodyK s.P Try.f4) xk4_4) ⟨(t0::t1::t2::t3::t4::t5::t6::t7::t8::t9::t10::t11::t12::t13::t14::t15::t16::t17::t18::t19::t20::t21::t22::t23::t24::t25::t26::t27::t28::t29::t30::t31::t32::t33::t34::t35::t36::t37::t38::t39::t40::t41::t42::t43::t44::t45::t46::t47::t48::t49::t50::t51::t52::t53::t54::t55::t56::t57::t58::t59::t60::t61::t62::t63::t64::t65::t66::t67::t68::t69::t70::t71::t72::t73::t74::t75::t76::t77::t78::t79::t80::t81::t82::t83::t84::t85::t86::t87::t88::t89::t90::t91::t92::t93::t94::t95::t96::t97::t98::t99::t100::t101::t102::t103::t104::t105::t106::t107::t108::t109::t110::t111::t112::t113::t114::t115::t116::t117::[]),h⟩ =
  gd t73 (
  bm (vBin s.P .eql 3 t11 (V.lit (Value.int .i64 2))) h fun v82 h83 =>
  opsP (xX s 4 wl k false) xg4_3 12 m0 ac (runK (xX s 4 wl k false) (bodyK s.P Try.f4) xk4_4) ⟨(t0::t1::t2::t3::t4::t5::t6::t7::t8::t9::t10::t11::t12::t13::t14::t15::t16::t17::t18::t19::t20::t21::t22::t23::t24::t25::t26::t27::t28::t29::t30::t31::t32::t33::t34::t35::t36::t37::t38::t39::t40::t41::t42::t43::t44::t45::t46::t47::t48::t49::t50::t51::t52::t53::t54::t55::t56::t57::t58::t59::t60::t61::t62::t63::t64::t65::t66::t67::t68::t69::t70::t71::t72::(V.lit (Value.bool true))::t11::v82::t76::t77::t78::t79::t80::t81::t82::t83::t84::t85::t86::t87::t88::t89::t90::t91::t92::t93::t94::t95::t96::t97::t98::t99::t100::t101::t102::t103::t104::t105::t106::t107::t108::t109::t110::t111::t112::t113::t114::t115::t116::t117::[]),h83⟩) (
  opsP (xX s 4 wl k false) xg4_3 12 m0 ac (runK (xX s 4 wl k false) (bodyK s.P Try.f4) xk4_4) ⟨(t0::t1::t2::t3::t4::t5::t6::t7::t8::t9::t10::t11::t12::t13::t14::t15::t16::t17::t18::t19::t20::t21::t22::t23::t24::t25::t26::t27::t28::t29::t30::t31::t32::t33::t34::t35::t36::t37::t38::t39::t40::t41::t42::t43::t44::t45::t46::t47::t48::t49::t50::t51::t52::t53::t54::t55::t56::t57::t58::t59::t60::t61::t62::t63::t64::t65::t66::t67::t68::t69::t70::t71::t72::(V.lit (Value.bool false))::uu::uu::t76::t77::t78::t79::t80::t81::t82::t83::t84::t85::t86::t87::t88::t89::t90::t91::t92::t93::t94::t95::t96::t97::t98::t99::t100::t101::t102::t103::t104::t105::t106::t107::t108::t109::t110::t111::t112::t113::t114::t115::t116::t117::[]),h⟩) (
  opsP (xX s 4 wl k false) xg4_3 11 m0 ac (runK (xX s 4 wl k false) (bodyK s.P Try.f4) xk4_4) ⟨(t0::t1::t2::t3::t4::t5::t6::t7::t8::t9::t10::t11::t12::t13::t14::t15::t16::t17::t18::t19::t20::t21::t22::t23::t24::t25::t26::t27::t28::t29::t30::t31::t32::t33::t34::t35::t36::t37::t38::t39::t40::t41::t42::t43::t44::t45::t46::t47::t48::t49::t50::t51::t52::t53::t54::t55::t56::t57::t58::t59::t60::t61::t62::t63::t64::t65::t66::t67::t68::t69::t70::t71::t72::t73::uu::t75::t76::t77::t78::t79::t80::t81::t82::t83::t84::t85::t86::t87::t88::t89::t90::t91::t92::t93::t94::t95::t96::t97::t98::t99::t100::t101::t102::t103::t104::t105::t106::t107::t108::t109::t110::t111::t112::t113::t114::t115::t116::t117::[]),h⟩) :=
  (go_gdT1 xo4_17 xo4_17a rfl rfl rfl rfl (by kernel_rfl)
  (st_no (by kernel_rfl) (st_id (v := t11) (H := h) (by kernel_rfl)
  (go_run1 xo4_17 xo4_17a rfl rfl rfl rfl (by kernel_rfl) (st_no (by kernel_rfl) (st_bm (by kernel_rfl) fun v82 h83 =>
  (by kernel_rfl))))))
  (go_skip1 xo4_17 rfl rfl rfl rfl (by kernel_rfl)
  (by kernel_rfl))
  (by kernel_rfl))
theorem xm4_7 (s : Sys) (k wl : Nat) (m0 : Nat) (ac : List Nat × List Nat) (t0 t1 t2 t3 t4 t5 t6 t7 t8 t9 t10 t11 t12 t13 t14 t15 t16 t17 t18 t19 t20 t21 t22 t23 t24 t25 t26 t27 t28 t29 t30 t31 t32 t33 t34 t35 t36 t37 t38 t39 t40 t41 t42 t43 t44 t45 t46 t47 t48 t49 t50 t51 t52 t53 t54 t55 t56 t57 t58 t59 t60 t61 t62 t63 t64 t65 t66 t67 t68 t69 t70 t71 t72 t73 t74 t75 t76 t77 t78 t79 t80 t81 t82 t83 t84 t85 t86 t87 t88 t89 t90 t91 t92 t93 t94 t95 t96 t97 t98 t99 t100 t101 t102 t103 t104 t105 t106 t107 t108 t109 t110 t111 t112 t113 t114 t115 t116 t117 : V) (h : Hp) : opsP (xX s 4 wl k false) xg4_3 52 m0 ac (runK (xX s 4 wl k false) (bodyK s.P Try.f4) xk4_4) ⟨(t0::t1::t2::t3::t4::t5::t6::t7::t8::t9::t10::t11::t12::t13::t14::t15::t16::t17::t18::t19::t20::t21::t22::t23::t24::t25::t26::t27::t28::t29::t30::t31::t32::t33::t34::t35::t36::t37::t38::t39::t40::t41::t42::t43::t44::t45::t46::t47::t48::t49::t50::t51::t52::t53::t54::t55::t56::t57::t58::t59::t60::t61::t62::t63::t64::t65::t66::t67::t68::t69::t70::t71::t72::t73::t74::t75::t76::t77::t78::t79::t80::t81::t82::t83::t84::t85::t86::t87::t88::t89::t90::t91::t92::t93::t94::t95::t96::t97::t98::t99::t100::t101::t102::t103::t104::t105::t106::t107::t108::t109::t110::t111::t112::t113::t114::t115::t116::t117::[]),h⟩ =
  gd t66 (
  opsP (xX s 4 wl k false) xg4_3 53 m0 ac (runK (xX s 4 wl k false) (bodyK s.P Try.f4) xk4_4) ⟨(t0::t1::t2::t3::t4::t5::t6::t7::t8::t9::t10::t11::t12::t13::t14::t15::t16::t17::t18::t19::t20::t21::t22::t23::t24::t25::t26::t27::t28::t29::t30::t31::t32::t33::t34::t35::t36::t37::t38::t39::t40::t41::t42::t43::t44::t45::t46::t47::t48::t49::t50::t51::t52::t53::t54::t55::t56::t57::t58::t59::t60::t61::t62::t63::t64::t65::(V.lit (Value.bool true))::t67::t68::t69::t70::t71::t72::t73::t74::t75::t76::t77::t78::t79::t80::t81::t82::t83::t84::t85::t86::t87::t88::t89::t90::t91::t92::t93::t94::t95::t96::t97::t98::t99::t100::t101::t102::t103::t104::t105::t106::t107::t108::t109::t110::t111::t112::t113::t114::t115::uu::t117::[]),h⟩) (
  bm (vPick t69 t115 (V.lit (Value.bool false))) h fun v84 h85 =>
  opsP (xX s 4 wl k false) xg4_3 53 m0 ac (runK (xX s 4 wl k false) (bodyK s.P Try.f4) xk4_4) ⟨(t0::t1::t2::t3::t4::t5::t6::t7::t8::t9::t10::t11::t12::t13::t14::t15::t16::t17::t18::t19::t20::t21::t22::t23::t24::t25::t26::t27::t28::t29::t30::t31::t32::t33::t34::t35::t36::t37::t38::t39::t40::t41::t42::t43::t44::t45::t46::t47::t48::t49::t50::t51::t52::t53::t54::t55::t56::t57::t58::t59::t60::t61::t62::t63::t64::t65::(V.lit (Value.bool false))::t67::t68::t69::t70::t71::t72::t73::t74::t75::t76::t77::t78::t79::t80::t81::t82::t83::t84::t85::t86::t87::t88::t89::t90::t91::t92::t93::t94::t95::t96::t97::t98::t99::t100::t101::t102::t103::t104::t105::t106::t107::t108::t109::t110::t111::t112::t113::t114::t115::v84::t117::[]),h85⟩) (
  opsP (xX s 4 wl k false) xg4_3 53 m0 ac (runK (xX s 4 wl k false) (bodyK s.P Try.f4) xk4_4) ⟨(t0::t1::t2::t3::t4::t5::t6::t7::t8::t9::t10::t11::t12::t13::t14::t15::t16::t17::t18::t19::t20::t21::t22::t23::t24::t25::t26::t27::t28::t29::t30::t31::t32::t33::t34::t35::t36::t37::t38::t39::t40::t41::t42::t43::t44::t45::t46::t47::t48::t49::t50::t51::t52::t53::t54::t55::t56::t57::t58::t59::t60::t61::t62::t63::t64::t65::t66::t67::t68::t69::t70::t71::t72::t73::t74::t75::t76::t77::t78::t79::t80::t81::t82::t83::t84::t85::t86::t87::t88::t89::t90::t91::t92::t93::t94::t95::t96::t97::t98::t99::t100::t101::t102::t103::t104::t105::t106::t107::t108::t109::t110::t111::t112::t113::t114::t115::uu::t117::[]),h⟩) :=
  (go_gdF1 xo4_17 xo4_17a rfl rfl rfl rfl (by kernel_rfl)
  (by kernel_rfl)
  (st_no (by kernel_rfl) (st_bm (by kernel_rfl) fun v84 h85 =>
  (by kernel_rfl)))
  (by kernel_rfl))
theorem xm4_8 (s : Sys) (k wl : Nat) (m0 : Nat) (ac : List Nat × List Nat) (t0 t1 t2 t3 t4 t5 t6 t7 t8 t9 t10 t11 t12 t13 t14 t15 t16 t17 t18 t19 t20 t21 t22 t23 t24 t25 t26 t27 t28 t29 t30 t31 t32 t33 t34 t35 t36 t37 t38 t39 t40 t41 t42 t43 t44 t45 t46 t47 t48 t49 t50 t51 t52 t53 t54 t55 t56 t57 t58 t59 t60 t61 t62 t63 t64 t65 t66 t67 t68 t69 t70 t71 t72 t73 t74 t75 t76 t77 t78 t79 t80 t81 t82 t83 t84 t85 t86 t87 t88 t89 t90 t91 t92 t93 t94 t95 t96 t97 t98 t99 t100 t101 t102 t103 t104 t105 t106 t107 t108 t109 t110 t111 t112 t113 t114 t115 t116 t117 : V) (h : Hp) : opsP (xX s 4 wl k false) xg4_3 7 m0 ac (runK (xX s 4 wl k false) (bodyK s.P Try.f4) xk4_4) ⟨(t0::t1::t2::t3::t4::t5::t6::t7::t8::t9::t10::t11::t12::t13::t14::t15::t16::t17::t18::t19::t20::t21::t22::t23::t24::t25::t26::t27::t28::t29::t30::t31::t32::t33::t34::t35::t36::t37::t38::t39::t40::t41::t42::t43::t44::t45::t46::t47::t48::t49::t50::t51::t52::t53::t54::t55::t56::t57::t58::t59::t60::t61::t62::t63::t64::t65::t66::t67::t68::t69::t70::t71::t72::t73::t74::t75::t76::t77::t78::t79::t80::t81::t82::t83::t84::t85::t86::t87::t88::t89::t90::t91::t92::t93::t94::t95::t96::t97::t98::t99::t100::t101::t102::t103::t104::t105::t106::t107::t108::t109::t110::t111::t112::t113::t114::t115::t116::t117::[]),h⟩ =
  gd t69 (
  bm (vLoad s.P 3 t70 h) h fun v86 h87 =>
  bm (vBin s.P .eql 3 v86 (V.lit (Value.int .i64 2))) h87 fun v88 h89 =>
  opsP (xX s 4 wl k false) xg4_3 10 m0 ac (runK (xX s 4 wl k false) (bodyK s.P Try.f4) xk4_4) ⟨(t0::t1::t2::t3::t4::t5::t6::t7::t8::t9::t10::t11::t12::t13::t14::t15::t16::t17::t18::t19::t20::t21::t22::t23::t24::t25::t26::t27::t28::t29::t30::t31::t32::t33::t34::t35::t36::t37::t38::t39::t40::t41::t42::t43::t44::t45::t46::t47::t48::t49::t50::t51::t52::t53::t54::t55::t56::t57::t58::t59::t60::t61::t62::t63::t64::t65::t66::t67::t68::(V.lit (Value.bool true))::t70::v86::v88::v88::t74::t75::t76::t77::t78::t79::t80::t81::t82::t83::t84::t85::t86::t87::t88::t89::t90::t91::t92::t93::t94::t95::t96::t97::t98::t99::t100::t101::t102::t103::t104::t105::t106::t107::t108::t109::t110::t111::t112::t113::t114::t115::t116::t117::[]),h89⟩) (
  opsP (xX s 4 wl k false) xg4_3 52 m0 ac (runK (xX s 4 wl k false) (bodyK s.P Try.f4) xk4_4) ⟨(t0::t1::t2::t3::t4::t5::t6::t7::t8::t9::t10::t11::t12::t13::t14::t15::t16::t17::t18::t19::t20::t21::t22::t23::t24::t25::t26::t27::t28::t29::t30::t31::t32::t33::t34::t35::t36::t37::t38::t39::t40::t41::t42::t43::t44::t45::t46::t47::t48::t49::t50::t51::t52::t53::t54::t55::t56::t57::t58::t59::t60::t61::t62::t63::t64::t65::t66::t67::t68::(V.lit (Value.bool false))::t70::uu::uu::uu::uu::uu::uu::uu::uu::uu::uu::uu::uu::uu::uu::uu::uu::uu::uu::uu::uu::uu::uu::uu::uu::uu::uu::uu::uu::uu::uu::uu::uu::uu::uu::uu::uu::uu::uu::uu::uu::uu::uu::uu::uu::uu::t116::t117::[]),h⟩) (
  opsP (xX s 4 wl k false) xg4_3 8 m0 ac (runK (xX s 4 wl k false) (bodyK s.P Try.f4) xk4_4) ⟨(t0::t1::t2::t3::t4::t5::t6::t7::t8::t9::t10::t11::t12::t13::t14::t15::t16::t17::t18::t19::t20::t21::t22::t23::t24::t25::t26::t27::t28::t29::t30::t31::t32::t33::t34::t35::t36::t37::t38::t39::t40::t41::t42::t43::t44::t45::t46::t47::t48::t49::t50::t51::t52::t53::t54::t55::t56::t57::t58::t59::t60::t61::t62::t63::t64::t65::t66::t67::t68::t69::t70::uu::t72::t73::t74::t75::t76::t77::t78::t79::t80::t81::t82::t83::t84::t85::t86::t87::t88::t89::t90::t91::t92::t93::t94::t95::t96::t97::t98::t99::t100::t101::t102::t103::t104::t105::t106::t107::t108::t109::t110::t111::t112::t113::t114::t115::t116::t117::[]),h⟩) :=
  (go_gdT1 xo4_17 xo4_17a rfl rfl rfl rfl (by kernel_rfl)
  (st_no (by kernel_rfl) (st_bm (by kernel_rfl) fun v86 h87 =>
  (go_run1 xo4_17 xo4_17a rfl rfl rfl rfl (by kernel_rfl) (st_no (by kernel_rfl) (st_bm (by kernel_rfl) fun v88 h89 =>
  (go_run1 xo4_17 xo4_17a rfl rfl rfl rfl (by kernel_rfl) (st_no (by kernel_rfl) (st_id (v := v88) (H := h89) (by kernel_rfl)
  (by kernel_rfl)))))))))
  (go_skip1 xo4_17 rfl rfl rfl rfl (by kernel_rfl)
  (go_skip1 xo4_17 rfl rfl rfl rfl (by kernel_rfl)
  (go_none1 (x := #[]) xo4_17 rfl rfl rfl rfl (by kernel_rfl)
  (go_none1 (x := #[]) xo4_17 rfl rfl rfl rfl (by kernel_rfl)
  (go_skip1 xo4_17 rfl rfl rfl rfl (by kernel_rfl)
  (go_skip1 xo4_17 rfl rfl rfl rfl (by kernel_rfl)
  (go_none1 (x := #[]) xo4_17 rfl rfl rfl rfl (by kernel_rfl)
  (go_none1 (x := #[]) xo4_17 rfl rfl rfl rfl (by kernel_rfl)
  (go_none1 (x := #[]) xo4_17 rfl rfl rfl rfl (by kernel_rfl)
  (go_none1 (x := #[]) xo4_17 rfl rfl rfl rfl (by kernel_rfl)
  (go_none1 (x := #[]) xo4_17 rfl rfl rfl rfl (by kernel_rfl)
  (go_none1 (x := #[]) xo4_17 rfl rfl rfl rfl (by kernel_rfl)
  (go_none1 (x := #[]) xo4_17 rfl rfl rfl rfl (by kernel_rfl)
  (go_none1 (x := #[]) xo4_17 rfl rfl rfl rfl (by kernel_rfl)
  (go_none1 (x := #[]) xo4_17 rfl rfl rfl rfl (by kernel_rfl)
  (go_none1 (x := #[]) xo4_17 rfl rfl rfl rfl (by kernel_rfl)
  (go_none1 (x := #[]) xo4_17 rfl rfl rfl rfl (by kernel_rfl)
  (go_none1 (x := #[]) xo4_17 rfl rfl rfl rfl (by kernel_rfl)
  (go_skip1 xo4_17 rfl rfl rfl rfl (by kernel_rfl)
  (go_skip1 xo4_17 rfl rfl rfl rfl (by kernel_rfl)
  (go_none1 (x := #[]) xo4_17 rfl rfl rfl rfl (by kernel_rfl)
  (go_none1 (x := #[]) xo4_17 rfl rfl rfl rfl (by kernel_rfl)
  (go_none1 (x := #[]) xo4_17 rfl rfl rfl rfl (by kernel_rfl)
  (go_skip1 xo4_17 rfl rfl rfl rfl (by kernel_rfl)
  (go_skip1 xo4_17 rfl rfl rfl rfl (by kernel_rfl)
  (go_none1 (x := #[]) xo4_17 rfl rfl rfl rfl (by kernel_rfl)
  (go_none1 (x := #[]) xo4_17 rfl rfl rfl rfl (by kernel_rfl)
  (go_none1 (x := #[]) xo4_17 rfl rfl rfl rfl (by kernel_rfl)
  (go_none1 (x := #[]) xo4_17 rfl rfl rfl rfl (by kernel_rfl)
  (go_none1 (x := #[]) xo4_17 rfl rfl rfl rfl (by kernel_rfl)
  (go_none1 (x := #[]) xo4_17 rfl rfl rfl rfl (by kernel_rfl)
  (go_none1 (x := #[]) xo4_17 rfl rfl rfl rfl (by kernel_rfl)
  (go_none1 (x := #[]) xo4_17 rfl rfl rfl rfl (by kernel_rfl)
  (go_none1 (x := #[]) xo4_17 rfl rfl rfl rfl (by kernel_rfl)
  (go_none1 (x := #[]) xo4_17 rfl rfl rfl rfl (by kernel_rfl)
  (go_none1 (x := #[]) xo4_17 rfl rfl rfl rfl (by kernel_rfl)
  (go_none1 (x := #[]) xo4_17 rfl rfl rfl rfl (by kernel_rfl)
  (go_none1 (x := #[]) xo4_17 rfl rfl rfl rfl (by kernel_rfl)
  (go_none1 (x := #[]) xo4_17 rfl rfl rfl rfl (by kernel_rfl)
  (go_none1 (x := #[]) xo4_17 rfl rfl rfl rfl (by kernel_rfl)
  (go_none1 (x := #[]) xo4_17 rfl rfl rfl rfl (by kernel_rfl)
  (go_none1 (x := #[]) xo4_17 rfl rfl rfl rfl (by kernel_rfl)
  (go_none1 (x := #[]) xo4_17 rfl rfl rfl rfl (by kernel_rfl)
  (go_skip1 xo4_17 rfl rfl rfl rfl (by kernel_rfl)
  (by kernel_rfl)))))))))))))))))))))))))))))))))))))))))))))
  (by kernel_rfl))
theorem xm4_9 (s : Sys) (k wl : Nat) (m0 : Nat) (ac : List Nat × List Nat) (t0 t1 t2 t3 t4 t5 t6 t7 t8 t9 t10 t11 t12 t13 t14 t15 t16 t17 t18 t19 t20 t21 t22 t23 t24 t25 t26 t27 t28 t29 t30 t31 t32 t33 t34 t35 t36 t37 t38 t39 t40 t41 t42 t43 t44 t45 t46 t47 t48 t49 t50 t51 t52 t53 t54 t55 t56 t57 t58 t59 t60 t61 t62 t63 t64 t65 t66 t67 t68 t69 t70 t71 t72 t73 t74 t75 t76 t77 t78 t79 t80 t81 t82 t83 t84 t85 t86 t87 t88 t89 t90 t91 t92 t93 t94 t95 t96 t97 t98 t99 t100 t101 t102 t103 t104 t105 t106 t107 t108 t109 t110 t111 t112 t113 t114 t115 t116 t117 : V) (h : Hp) : opsP (xX s 4 wl k false) xg4_3 12 m0 ac (runK (xX s 4 wl k false) (bodyK s.P Try.f4) xk4_4) ⟨(t0::t1::t2::t3::t4::t5::t6::t7::t8::t9::t10::t11::t12::t13::t14::t15::t16::t17::t18::t19::t20::t21::t22::t23::t24::t25::t26::t27::t28::t29::t30::t31::t32::t33::t34::t35::t36::t37::t38::t39::t40::t41::t42::t43::t44::t45::t46::t47::t48::t49::t50::t51::t52::t53::t54::t55::t56::t57::t58::t59::t60::t61::t62::t63::t64::t65::t66::t67::t68::t69::t70::t71::t72::t73::t74::t75::t76::t77::t78::t79::t80::t81::t82::t83::t84::t85::t86::t87::t88::t89::t90::t91::t92::t93::t94::t95::t96::t97::t98::t99::t100::t101::t102::t103::t104::t105::t106::t107::t108::t109::t110::t111::t112::t113::t114::t115::t116::t117::[]),h⟩ =
  gd t69 (
  bm (vPick t73 t75 (V.lit (Value.bool false))) h fun v90 h91 =>
  opsP (xX s 4 wl k false) xg4_3 14 m0 ac (runK (xX s 4 wl k false) (bodyK s.P Try.f4) xk4_4) ⟨(t0::t1::t2::t3::t4::t5::t6::t7::t8::t9::t10::t11::t12::t13::t14::t15::t16::t17::t18::t19::t20::t21::t22::t23::t24::t25::t26::t27::t28::t29::t30::t31::t32::t33::t34::t35::t36::t37::t38::t39::t40::t41::t42::t43::t44::t45::t46::t47::t48::t49::t50::t51::t52::t53::t54::t55::t56::t57::t58::t59::t60::t61::t62::t63::t64::t65::t66::t67::t68::(V.lit (Value.bool true))::t70::t71::t72::t73::t74::t75::v90::v90::t78::t79::t80::t81::t82::t83::t84::t85::t86::t87::t88::t89::t90::t91::t92::t93::t94::t95::t96::t97::t98::t99::t100::t101::t102::t103::t104::t105::t106::t107::t108::t109::t110::t111::t112::t113::t114::t115::t116::t117::[]),h91⟩) (
  opsP (xX s 4 wl k false) xg4_3 52 m0 ac (runK (xX s 4 wl k false) (bodyK s.P Try.f4) xk4_4) ⟨(t0::t1::t2::t3::t4::t5::t6::t7::t8::t9::t10::t11::t12::t13::t14::t15::t16::t17::t18::t19::t20::t21::t22::t23::t24::t25::t26::t27::t28::t29::t30::t31::t32::t33::t34::t35::t36::t37::t38::t39::t40::t41::t42::t43::t44::t45::t46::t47::t48::t49::t50::t51::t52::t53::t54::t55::t56::t57::t58::t59::t60::t61::t62::t63::t64::t65::t66::t67::t68::(V.lit (Value.bool false))::t70::t71::t72::t73::t74::t75::uu::uu::uu::uu::uu::uu::uu::uu::uu::uu::uu::uu::uu::uu::uu::uu::uu::uu::uu::uu::uu::uu::uu::uu::uu::uu::uu::uu::uu::uu::uu::uu::uu::uu::uu::uu::uu::uu::uu::uu::t116::t117::[]),h⟩) (
  opsP (xX s 4 wl k false) xg4_3 13 m0 ac (runK (xX s 4 wl k false) (bodyK s.P Try.f4) xk4_4) ⟨(t0::t1::t2::t3::t4::t5::t6::t7::t8::t9::t10::t11::t12::t13::t14::t15::t16::t17::t18::t19::t20::t21::t22::t23::t24::t25::t26::t27::t28::t29::t30::t31::t32::t33::t34::t35::t36::t37::t38::t39::t40::t41::t42::t43::t44::t45::t46::t47::t48::t49::t50::t51::t52::t53::t54::t55::t56::t57::t58::t59::t60::t61::t62::t63::t64::t65::t66::t67::t68::t69::t70::t71::t72::t73::t74::t75::uu::t77::t78::t79::t80::t81::t82::t83::t84::t85::t86::t87::t88::t89::t90::t91::t92::t93::t94::t95::t96::t97::t98::t99::t100::t101::t102::t103::t104::t105::t106::t107::t108::t109::t110::t111::t112::t113::t114::t115::t116::t117::[]),h⟩) :=
  (go_gdT1 xo4_17 xo4_17a rfl rfl rfl rfl (by kernel_rfl)
  (st_no (by kernel_rfl) (st_bm (by kernel_rfl) fun v90 h91 =>
  (go_run1 xo4_17 xo4_17a rfl rfl rfl rfl (by kernel_rfl) (st_no (by kernel_rfl) (st_id (v := v90) (H := h91) (by kernel_rfl)
  (by kernel_rfl))))))
  (go_skip1 xo4_17 rfl rfl rfl rfl (by kernel_rfl)
  (go_none1 (x := #[]) xo4_17 rfl rfl rfl rfl (by kernel_rfl)
  (go_none1 (x := #[]) xo4_17 rfl rfl rfl rfl (by kernel_rfl)
  (go_none1 (x := #[]) xo4_17 rfl rfl rfl rfl (by kernel_rfl)
  (go_none1 (x := #[]) xo4_17 rfl rfl rfl rfl (by kernel_rfl)
  (go_none1 (x := #[]) xo4_17 rfl rfl rfl rfl (by kernel_rfl)
  (go_none1 (x := #[]) xo4_17 rfl rfl rfl rfl (by kernel_rfl)
  (go_none1 (x := #[]) xo4_17 rfl rfl rfl rfl (by kernel_rfl)
  (go_none1 (x := #[]) xo4_17 rfl rfl rfl rfl (by kernel_rfl)
  (go_none1 (x := #[]) xo4_17 rfl rfl rfl rfl (by kernel_rfl)
  (go_none1 (x := #[]) xo4_17 rfl rfl rfl rfl (by kernel_rfl)
  (go_none1 (x := #[]) xo4_17 rfl rfl rfl rfl (by kernel_rfl)
  (go_none1 (x := #[]) xo4_17 rfl rfl rfl rfl (by kernel_rfl)
  (go_skip1 xo4_17 rfl rfl rfl rfl (by kernel_rfl)
  (go_skip1 xo4_17 rfl rfl rfl rfl (by kernel_rfl)
  (go_none1 (x := #[]) xo4_17 rfl rfl rfl rfl (by kernel_rfl)
  (go_none1 (x := #[]) xo4_17 rfl rfl rfl rfl (by kernel_rfl)
  (go_none1 (x := #[]) xo4_17 rfl rfl rfl rfl (by kernel_rfl)
  (go_skip1 xo4_17 rfl rfl rfl rfl (by kernel_rfl)
  (go_skip1 xo4_17 rfl rfl rfl rfl (by kernel_rfl)
  (go_none1 (x := #[]) xo4_17 rfl rfl rfl rfl (by kernel_rfl)
  (go_none1 (x := #[]) xo4_17 rfl rfl rfl rfl (by kernel_rfl)
  (go_none1 (x := #[]) xo4_17 rfl rfl rfl rfl (by kernel_rfl)
  (go_none1 (x := #[]) xo4_17 rfl rfl rfl rfl (by kernel_rfl)
  (go_none1 (x := #[]) xo4_17 rfl rfl rfl rfl (by kernel_rfl)
  (go_none1 (x := #[]) xo4_17 rfl rfl rfl rfl (by kernel_rfl)
  (go_none1 (x := #[]) xo4_17 rfl rfl rfl rfl (by kernel_rfl)
  (go_none1 (x := #[]) xo4_17 rfl rfl rfl rfl (by kernel_rfl)
  (go_none1 (x := #[]) xo4_17 rfl rfl rfl rfl (by kernel_rfl)
  (go_none1 (x := #[]) xo4_17 rfl rfl rfl rfl (by kernel_rfl)
  (go_none1 (x := #[]) xo4_17 rfl rfl rfl rfl (by kernel_rfl)
  (go_none1 (x := #[]) xo4_17 rfl rfl rfl rfl (by kernel_rfl)
  (go_none1 (x := #[]) xo4_17 rfl rfl rfl rfl (by kernel_rfl)
  (go_none1 (x := #[]) xo4_17 rfl rfl rfl rfl (by kernel_rfl)
  (go_none1 (x := #[]) xo4_17 rfl rfl rfl rfl (by kernel_rfl)
  (go_none1 (x := #[]) xo4_17 rfl rfl rfl rfl (by kernel_rfl)
  (go_none1 (x := #[]) xo4_17 rfl rfl rfl rfl (by kernel_rfl)
  (go_none1 (x := #[]) xo4_17 rfl rfl rfl rfl (by kernel_rfl)
  (go_skip1 xo4_17 rfl rfl rfl rfl (by kernel_rfl)
  (by kernel_rfl))))))))))))))))))))))))))))))))))))))))
  (by kernel_rfl))
theorem xm4_10 (s : Sys) (k wl : Nat) (m0 : Nat) (ac : List Nat × List Nat) (t0 t1 t2 t3 t4 t5 t6 t7 t8 t9 t10 t11 t12 t13 t14 t15 t16 t17 t18 t19 t20 t21 t22 t23 t24 t25 t26 t27 t28 t29 t30 t31 t32 t33 t34 t35 t36 t37 t38 t39 t40 t41 t42 t43 t44 t45 t46 t47 t48 t49 t50 t51 t52 t53 t54 t55 t56 t57 t58 t59 t60 t61 t62 t63 t64 t65 t66 t67 t68 t69 t70 t71 t72 t73 t74 t75 t76 t77 t78 t79 t80 t81 t82 t83 t84 t85 t86 t87 t88 t89 t90 t91 t92 t93 t94 t95 t96 t97 t98 t99 t100 t101 t102 t103 t104 t105 t106 t107 t108 t109 t110 t111 t112 t113 t114 t115 t116 t117 : V) (h : Hp) : opsP (xX s 4 wl k false) xg4_3 11 m0 ac (runK (xX s 4 wl k false) (bodyK s.P Try.f4) xk4_4) ⟨(t0::t1::t2::t3::t4::t5::t6::t7::t8::t9::t10::t11::t12::t13::t14::t15::t16::t17::t18::t19::t20::t21::t22::t23::t24::t25::t26::t27::t28::t29::t30::t31::t32::t33::t34::t35::t36::t37::t38::t39::t40::t41::t42::t43::t44::t45::t46::t47::t48::t49::t50::t51::t52::t53::t54::t55::t56::t57::t58::t59::t60::t61::t62::t63::t64::t65::t66::t67::t68::t69::t70::t71::t72::t73::t74::t75::t76::t77::t78::t79::t80::t81::t82::t83::t84::t85::t86::t87::t88::t89::t90::t91::t92::t93::t94::t95::t96::t97::t98::t99::t100::t101::t102::t103::t104::t105::t106::t107::t108::t109::t110::t111::t112::t113::t114::t115::t116::t117::[]),h⟩ =
  gd t73 (
  bm (vBin s.P .eql 3 t74 (V.lit (Value.int .i64 2))) h fun v92 h93 =>
  opsP (xX s 4 wl k false) xg4_3 12 m0 ac (runK (xX s 4 wl k false) (bodyK s.P Try.f4) xk4_4) ⟨(t0::t1::t2::t3::t4::t5::t6::t7::t8::t9::t10::t11::t12::t13::t14::t15::t16::t17::t18::t19::t20::t21::t22::t23::t24::t25::t26::t27::t28::t29::t30::t31::t32::t33::t34::t35::t36::t37::t38::t39::t40::t41::t42::t43::t44::t45::t46::t47::t48::t49::t50::t51::t52::t53::t54::t55::t56::t57::t58::t59::t60::t61::t62::t63::t64::t65::t66::t67::t68::t69::t70::t71::t72::(V.lit (Value.bool true))::t74::v92::t76::t77::t78::t79::t80::t81::t82::t83::t84::t85::t86::t87::t88::t89::t90::t91::t92::t93::t94::t95::t96::t97::t98::t99::t100::t101::t102::t103::t104::t105::t106::t107::t108::t109::t110::t111::t112::t113::t114::t115::t116::t117::[]),h93⟩) (
  opsP (xX s 4 wl k false) xg4_3 12 m0 ac (runK (xX s 4 wl k false) (bodyK s.P Try.f4) xk4_4) ⟨(t0::t1::t2::t3::t4::t5::t6::t7::t8::t9::t10::t11::t12::t13::t14::t15::t16::t17::t18::t19::t20::t21::t22::t23::t24::t25::t26::t27::t28::t29::t30::t31::t32::t33::t34::t35::t36::t37::t38::t39::t40::t41::t42::t43::t44::t45::t46::t47::t48::t49::t50::t51::t52::t53::t54::t55::t56::t57::t58::t59::t60::t61::t62::t63::t64::t65::t66::t67::t68::t69::t70::t71::t72::(V.lit (Value.bool false))::t74::uu::t76::t77::t78::t79::t80::t81::t82::t83::t84::t85::t86::t87::t88::t89::t90::t91::t92::t93::t94::t95::t96::t97::t98::t99::t100::t101::t102::t103::t104::t105::t106::t107::t108::t109::t110::t111::t112::t113::t114::t115::t116::t117::[]),h⟩) (
  opsP (xX s 4 wl k false) xg4_3 12 m0 ac (runK (xX s 4 wl k false) (bodyK s.P Try.f4) xk4_4) ⟨(t0::t1::t2::t3::t4::t5::t6::t7::t8::t9::t10::t11::t12::t13::t14::t15::t16::t17::t18::t19::t20::t21::t22::t23::t24::t25::t26::t27::t28::t29::t30::t31::t32::t33::t34::t35::t36::t37::t38::t39::t40::t41::t42::t43::t44::t45::t46::t47::t48::t49::t50::t51::t52::t53::t54::t55::t56::t57::t58::t59::t60::t61::t62::t63::t64::t65::t66::t67::t68::t69::t70::t71::t72::t73::t74::uu::t76::t77::t78::t79::t80::t81::t82::t83::t84::t85::t86::t87::t88::t89::t90::t91::t92::t93::t94::t95::t96::t97::t98::t99::t100::t101::t102::t103::t104::t105::t106::t107::t108::t109::t110::t111::t112::t113::t114::t115::t116::t117::[]),h⟩) :=
  (go_gdT1 xo4_17 xo4_17a rfl rfl rfl rfl (by kernel_rfl)
  (st_no (by kernel_rfl) (st_bm (by kernel_rfl) fun v92 h93 =>
  (by kernel_rfl)))
  (by kernel_rfl)
  (by kernel_rfl))
theorem xm4_11 (s : Sys) (k wl : Nat) (m0 : Nat) (ac : List Nat × List Nat) (t0 t1 t2 t3 t4 t5 t6 t7 t8 t9 t10 t11 t12 t13 t14 t15 t16 t17 t18 t19 t20 t21 t22 t23 t24 t25 t26 t27 t28 t29 t30 t31 t32 t33 t34 t35 t36 t37 t38 t39 t40 t41 t42 t43 t44 t45 t46 t47 t48 t49 t50 t51 t52 t53 t54 t55 t56 t57 t58 t59 t60 t61 t62 t63 t64 t65 t66 t67 t68 t69 t70 t71 t72 t73 t74 t75 t76 t77 t78 t79 t80 t81 t82 t83 t84 t85 t86 t87 t88 t89 t90 t91 t92 t93 t94 t95 t96 t97 t98 t99 t100 t101 t102 t103 t104 t105 t106 t107 t108 t109 t110 t111 t112 t113 t114 t115 t116 t117 : V) (h : Hp) : opsP (xX s 4 wl k false) xg4_3 8 m0 ac (runK (xX s 4 wl k false) (bodyK s.P Try.f4) xk4_4) ⟨(t0::t1::t2::t3::t4::t5::t6::t7::t8::t9::t10::t11::t12::t13::t14::t15::t16::t17::t18::t19::t20::t21::t22::t23::t24::t25::t26::t27::t28::t29::t30::t31::t32::t33::t34::t35::t36::t37::t38::t39::t40::t41::t42::t43::t44::t45::t46::t47::t48::t49::t50::t51::t52::t53::t54::t55::t56::t57::t58::t59::t60::t61::t62::t63::t64::t65::t66::t67::t68::t69::t70::t71::t72::t73::t74::t75::t76::t77::t78::t79::t80::t81::t82::t83::t84::t85::t86::t87::t88::t89::t90::t91::t92::t93::t94::t95::t96::t97::t98::t99::t100::t101::t102::t103::t104::t105::t106::t107::t108::t109::t110::t111::t112::t113::t114::t115::t116::t117::[]),h⟩ =
  gd t69 (
  bm (vBin s.P .eql 3 t71 (V.lit (Value.int .i64 2))) h fun v94 h95 =>
  opsP (xX s 4 wl k false) xg4_3 10 m0 ac (runK (xX s 4 wl k false) (bodyK s.P Try.f4) xk4_4) ⟨(t0::t1::t2::t3::t4::t5::t6::t7::t8::t9::t10::t11::t12::t13::t14::t15::t16::t17::t18::t19::t20::t21::t22::t23::t24::t25::t26::t27::t28::t29::t30::t31::t32::t33::t34::t35::t36::t37::t38::t39::t40::t41::t42::t43::t44::t45::t46::t47::t48::t49::t50::t51::t52::t53::t54::t55::t56::t57::t58::t59::t60::t61::t62::t63::t64::t65::t66::t67::t68::(V.lit (Value.bool true))::t70::t71::v94::v94::t74::t75::t76::t77::t78::t79::t80::t81::t82::t83::t84::t85::t86::t87::t88::t89::t90::t91::t92::t93::t94::t95::t96::t97::t98::t99::t100::t101::t102::t103::t104::t105::t106::t107::t108::t109::t110::t111::t112::t113::t114::t115::t116::t117::[]),h95⟩) (
  opsP (xX s 4 wl k false) xg4_3 52 m0 ac (runK (xX s 4 wl k false) (bodyK s.P Try.f4) xk4_4) ⟨(t0::t1::t2::t3::t4::t5::t6::t7::t8::t9::t10::t11::t12::t13::t14::t15::t16::t17::t18::t19::t20::t21::t22::t23::t24::t25::t26::t27::t28::t29::t30::t31::t32::t33::t34::t35::t36::t37::t38::t39::t40::t41::t42::t43::t44::t45::t46::t47::t48::t49::t50::t51::t52::t53::t54::t55::t56::t57::t58::t59::t60::t61::t62::t63::t64::t65::t66::t67::t68::(V.lit (Value.bool false))::t70::t71::uu::uu::uu::uu::uu::uu::uu::uu::uu::uu::uu::uu::uu::uu::uu::uu::uu::uu::uu::uu::uu::uu::uu::uu::uu::uu::uu::uu::uu::uu::uu::uu::uu::uu::uu::uu::uu::uu::uu::uu::uu::uu::uu::uu::t116::t117::[]),h⟩) (
  opsP (xX s 4 wl k false) xg4_3 9 m0 ac (runK (xX s 4 wl k false) (bodyK s.P Try.f4) xk4_4) ⟨(t0::t1::t2::t3::t4::t5::t6::t7::t8::t9::t10::t11::t12::t13::t14::t15::t16::t17::t18::t19::t20::t21::t22::t23::t24::t25::t26::t27::t28::t29::t30::t31::t32::t33::t34::t35::t36::t37::t38::t39::t40::t41::t42::t43::t44::t45::t46::t47::t48::t49::t50::t51::t52::t53::t54::t55::t56::t57::t58::t59::t60::t61::t62::t63::t64::t65::t66::t67::t68::t69::t70::t71::uu::t73::t74::t75::t76::t77::t78::t79::t80::t81::t82::t83::t84::t85::t86::t87::t88::t89::t90::t91::t92::t93::t94::t95::t96::t97::t98::t99::t100::t101::t102::t103::t104::t105::t106::t107::t108::t109::t110::t111::t112::t113::t114::t115::t116::t117::[]),h⟩) :=
  (go_gdT1 xo4_17 xo4_17a rfl rfl rfl rfl (by kernel_rfl)
  (st_no (by kernel_rfl) (st_bm (by kernel_rfl) fun v94 h95 =>
  (go_run1 xo4_17 xo4_17a rfl rfl rfl rfl (by kernel_rfl) (st_no (by kernel_rfl) (st_id (v := v94) (H := h95) (by kernel_rfl)
  (by kernel_rfl))))))
  (go_skip1 xo4_17 rfl rfl rfl rfl (by kernel_rfl)
  (go_none1 (x := #[]) xo4_17 rfl rfl rfl rfl (by kernel_rfl)
  (go_none1 (x := #[]) xo4_17 rfl rfl rfl rfl (by kernel_rfl)
  (go_skip1 xo4_17 rfl rfl rfl rfl (by kernel_rfl)
  (go_skip1 xo4_17 rfl rfl rfl rfl (by kernel_rfl)
  (go_none1 (x := #[]) xo4_17 rfl rfl rfl rfl (by kernel_rfl)
  (go_none1 (x := #[]) xo4_17 rfl rfl rfl rfl (by kernel_rfl)
  (go_none1 (x := #[]) xo4_17 rfl rfl rfl rfl (by kernel_rfl)
  (go_none1 (x := #[]) xo4_17 rfl rfl rfl rfl (by kernel_rfl)
  (go_none1 (x := #[]) xo4_17 rfl rfl rfl rfl (by kernel_rfl)
  (go_none1 (x := #[]) xo4_17 rfl rfl rfl rfl (by kernel_rfl)
  (go_none1 (x := #[]) xo4_17 rfl rfl rfl rfl (by kernel_rfl)
  (go_none1 (x := #[]) xo4_17 rfl rfl rfl rfl (by kernel_rfl)
  (go_none1 (x := #[]) xo4_17 rfl rfl rfl rfl (by kernel_rfl)
  (go_none1 (x := #[]) xo4_17 rfl rfl rfl rfl (by kernel_rfl)
  (go_none1 (x := #[]) xo4_17 rfl rfl rfl rfl (by kernel_rfl)
  (go_none1 (x := #[]) xo4_17 rfl rfl rfl rfl (by kernel_rfl)
  (go_skip1 xo4_17 rfl rfl rfl rfl (by kernel_rfl)
  (go_skip1 xo4_17 rfl rfl rfl rfl (by kernel_rfl)
  (go_none1 (x := #[]) xo4_17 rfl rfl rfl rfl (by kernel_rfl)
  (go_none1 (x := #[]) xo4_17 rfl rfl rfl rfl (by kernel_rfl)
  (go_none1 (x := #[]) xo4_17 rfl rfl rfl rfl (by kernel_rfl)
  (go_skip1 xo4_17 rfl rfl rfl rfl (by kernel_rfl)
  (go_skip1 xo4_17 rfl rfl rfl rfl (by kernel_rfl)
  (go_none1 (x := #[]) xo4_17 rfl rfl rfl rfl (by kernel_rfl)
  (go_none1 (x := #[]) xo4_17 rfl rfl rfl rfl (by kernel_rfl)
  (go_none1 (x := #[]) xo4_17 rfl rfl rfl rfl (by kernel_rfl)
  (go_none1 (x := #[]) xo4_17 rfl rfl rfl rfl (by kernel_rfl)
  (go_none1 (x := #[]) xo4_17 rfl rfl rfl rfl (by kernel_rfl)
  (go_none1 (x := #[]) xo4_17 rfl rfl rfl rfl (by kernel_rfl)
  (go_none1 (x := #[]) xo4_17 rfl rfl rfl rfl (by kernel_rfl)
  (go_none1 (x := #[]) xo4_17 rfl rfl rfl rfl (by kernel_rfl)
  (go_none1 (x := #[]) xo4_17 rfl rfl rfl rfl (by kernel_rfl)
  (go_none1 (x := #[]) xo4_17 rfl rfl rfl rfl (by kernel_rfl)
  (go_none1 (x := #[]) xo4_17 rfl rfl rfl rfl (by kernel_rfl)
  (go_none1 (x := #[]) xo4_17 rfl rfl rfl rfl (by kernel_rfl)
  (go_none1 (x := #[]) xo4_17 rfl rfl rfl rfl (by kernel_rfl)
  (go_none1 (x := #[]) xo4_17 rfl rfl rfl rfl (by kernel_rfl)
  (go_none1 (x := #[]) xo4_17 rfl rfl rfl rfl (by kernel_rfl)
  (go_none1 (x := #[]) xo4_17 rfl rfl rfl rfl (by kernel_rfl)
  (go_none1 (x := #[]) xo4_17 rfl rfl rfl rfl (by kernel_rfl)
  (go_none1 (x := #[]) xo4_17 rfl rfl rfl rfl (by kernel_rfl)
  (go_skip1 xo4_17 rfl rfl rfl rfl (by kernel_rfl)
  (by kernel_rfl))))))))))))))))))))))))))))))))))))))))))))
  (by kernel_rfl))
theorem xm4_12 (s : Sys) (k wl : Nat) (m0 : Nat) (ac : List Nat × List Nat) (t0 t1 t2 t3 t4 t5 t6 t7 t8 t9 t10 t11 t12 t13 t14 t15 t16 t17 t18 t19 t20 t21 t22 t23 t24 t25 t26 t27 t28 t29 t30 t31 t32 t33 t34 t35 t36 t37 t38 t39 t40 t41 t42 t43 t44 t45 t46 t47 t48 t49 t50 t51 t52 t53 t54 t55 t56 t57 t58 t59 t60 t61 t62 t63 t64 t65 t66 t67 t68 t69 t70 t71 t72 t73 t74 t75 t76 t77 t78 t79 t80 t81 t82 t83 t84 t85 t86 t87 t88 t89 t90 t91 t92 t93 t94 t95 t96 t97 t98 t99 t100 t101 t102 t103 t104 t105 t106 t107 t108 t109 t110 t111 t112 t113 t114 t115 t116 t117 : V) (h : Hp) : opsP (xX s 4 wl k false) xg4_3 14 m0 ac (runK (xX s 4 wl k false) (bodyK s.P Try.f4) xk4_4) ⟨(t0::t1::t2::t3::t4::t5::t6::t7::t8::t9::t10::t11::t12::t13::t14::t15::t16::t17::t18::t19::t20::t21::t22::t23::t24::t25::t26::t27::t28::t29::t30::t31::t32::t33::t34::t35::t36::t37::t38::t39::t40::t41::t42::t43::t44::t45::t46::t47::t48::t49::t50::t51::t52::t53::t54::t55::t56::t57::t58::t59::t60::t61::t62::t63::t64::t65::t66::t67::t68::t69::t70::t71::t72::t73::t74::t75::t76::t77::t78::t79::t80::t81::t82::t83::t84::t85::t86::t87::t88::t89::t90::t91::t92::t93::t94::t95::t96::t97::t98::t99::t100::t101::t102::t103::t104::t105::t106::t107::t108::t109::t110::t111::t112::t113::t114::t115::t116::t117::[]),h⟩ =
  gd t77 (
  stO m0 t8 (
  bm (vIndexAddr s.P 25 t8 t11 h) h fun v96 h97 =>
  stO m0 v96 (
  bm (vLoad s.P 26 v96 h97) h97 fun v98 h99 =>
  bm (vIndexAddr s.P 25 t1 t11 h99) h99 fun v100 h101 =>
  bm (vLoad s.P 26 v100 h101) h101 fun v102 h103 =>
  bm (vFieldAddr s.P 28 t5 2) h103 fun v104 h105 =>
  bm (vLoad s.P 3 v104 h105) h105 fun v106 h107 =>
  bp (callV (xX s 4 wl k false) true true (.fn (.func 29) [] []) [v102,v106] h107) fun v108 h109 =>
  bm (vBin s.P .eql 26 v98 v108) h109 fun v110 h111 =>
  opsP (xX s 4 wl k false) xg4_3 26 m0 ac (runK (xX s 4 wl k false) (bodyK s.P Try.f4) xk4_4) ⟨(t0::t1::t2::t3::t4::t5::t6::t7::t8::t9::t10::t11::t12::t13::t14::t15::t16::t17::t18::t19::t20::t21::t22::t23::t24::t25::t26::t27::t28::t29::t30::t31::t32::t33::t34::t35::t36::t37::t38::t39::t40::t41::t42::t43::t44::t45::t46::t47::t48::t49::t50::t51::t52::t53::t54::t55::t56::t57::t58::t59::t60::t61::t62::t63::t64::t65::t66::t67::t68::t69::t70::t71::t72::t73::t74::t75::t76::(V.lit (Value.bool true))::t8::t11::v96::v98::t1::t11::v100::v102::v104::v106::v108::v110::t90::t91::t92::t93::t94::t95::t96::t97::t98::t99::t100::t101::t102::t103::t104::t105::t106::t107::t108::t109::t110::t111::t112::t113::t114::t115::t116::t117::[]),h111⟩))) (
  opsP (xX s 4 wl k false) xg4_3 26 m0 ac (runK (xX s 4 wl k false) (bodyK s.P Try.f4) xk4_4) ⟨(t0::t1::t2::t3::t4::t5::t6::t7::t8::t9::t10::t11::t12::t13::t14::t15::t16::t17::t18::t19::t20::t21::t22::t23::t24::t25::t26::t27::t28::t29::t30::t31::t32::t33::t34::t35::t36::t37::t38::t39::t40::t41::t42::t43::t44::t45::t46::t47::t48::t49::t50::t51::t52::t53::t54::t55::t56::t57::t58::t59::t60::t61::t62::t63::t64::t65::t66::t67::t68::t69::t70::t71::t72::t73::t74::t75::t76::(V.lit (Value.bool false))::uu::uu::uu::uu::uu::uu::uu::uu::uu::uu::uu::uu::t90::t91::t92::t93::t94::t95::t96::t97::t98::t99::t100::t101::t102::t103::t104::t105::t106::t107::t108::t109::t110::t111::t112::t113::t114::t115::t116::t117::[]),h⟩) (
  opsP (xX s 4 wl k false) xg4_3 15 m0 ac (runK (xX s 4 wl k false) (bodyK s.P Try.f4) xk4_4) ⟨(t0::t1::t2::t3::t4::t5::t6::t7::t8::t9::t10::t11::t12::t13::t14::t15::t16::t17::t18::t19::t20::t21::t22::t23::t24::t25::t26::t27::t28::t29::t30::t31::t32::t33::t34::t35::t36::t37::t38::t39::t40::t41::t42::t43::t44::t45::t46::t47::t48::t49::t50::t51::t52::t53::t54::t55::t56::t57::t58::t59::t60::t61::t62::t63::t64::t65::t66::t67::t68::t69::t70::t71::t72::t73::t74::t75::t76::t77::uu::t79::t80::t81::t82::t83::t84::t85::t86::t87::t88::t89::t90::t91::t92::t93::t94::t95::t96::t97::t98::t99::t100::t101::t102::t103::t104::t105::t106::t107::t108::t109::t110::t111::t112::t113::t114::t115::t116::t117::[]),h⟩) :=
  (go_gdT1 xo4_17 xo4_17a rfl rfl rfl rfl (by kernel_rfl)
  (st_no (by kernel_rfl) (st_id (v := t8) (H := h) (by kernel_rfl)
  (go_run1 xo4_17 xo4_17a rfl rfl rfl rfl (by kernel_rfl) (st_no (by kernel_rfl) (st_id (v := t11) (H := h) (by kernel_rfl)
  (go_run1 xo4_17 xo4_17a rfl rfl rfl rfl (by kernel_rfl) (st_yes (by kernel_rfl) (st_bm (by kernel_rfl) fun v96 h97 =>
  (go_run1 xo4_17 xo4_17a rfl rfl rfl rfl (by kernel_rfl) (st_yes (by kernel_rfl) (st_bm (by kernel_rfl) fun v98 h99 =>
  (go_run1 xo4_17 xo4_17a rfl rfl rfl rfl (by kernel_rfl) (st_no (by kernel_rfl) (st_id (v := t1) (H := h99) (by kernel_rfl)
  (go_run1 xo4_17 xo4_17a rfl rfl rfl rfl (by kernel_rfl) (st_no (by kernel_rfl) (st_id (v := t11) (H := h99) (by kernel_rfl)
  (go_run1 xo4_17 xo4_17a rfl rfl rfl rfl (by kernel_rfl) (st_no (by kernel_rfl) (st_bm (by kernel_rfl) fun v100 h101 =>
  (go_run1 xo4_17 xo4_17a rfl rfl rfl rfl (by kernel_rfl) (st_no (by kernel_rfl) (st_bm (by kernel_rfl) fun v102 h103 =>
  (go_run1 xo4_17 xo4_17a rfl rfl rfl rfl (by kernel_rfl) (st_no (by kernel_rfl) (st_bm (by kernel_rfl) fun v104 h105 =>
  (go_run1 xo4_17 xo4_17a rfl rfl rfl rfl (by kernel_rfl) (st_no (by kernel_rfl) (st_bm (by kernel_rfl) fun v106 h107 =>
  (go_run1 xo4_17 xo4_17a rfl rfl rfl rfl (by kernel_rfl) (st_no (by kernel_rfl) (st_bp (by kernel_rfl) fun v108 h109 =>
  (go_run1 xo4_17 xo4_17a rfl rfl rfl rfl (by kernel_rfl) (st_no (by kernel_rfl) (st_bm (by kernel_rfl) fun v110 h111 =>
  (by kernel_rfl))))))))))))))))))))))))))))))))))))
  (go_skip1 xo4_17 rfl rfl rfl rfl (by kernel_rfl)
  (go_skip1 xo4_17 rfl rfl rfl rfl (by kernel_rfl)
  (go_skip1 xo4_17 rfl rfl rfl rfl (by kernel_rfl)
  (go_skip1 xo4_17 rfl rfl rfl rfl (by kernel_rfl)
  (go_skip1 xo4_17 rfl rfl rfl rfl (by kernel_rfl)
  (go_skip1 xo4_17 rfl rfl rfl rfl (by kernel_rfl)
  (go_skip1 xo4_17 rfl rfl rfl rfl (by kernel_rfl)
  (go_skip1 xo4_17 rfl rfl rfl rfl (by kernel_rfl)
  (go_skip1 xo4_17 rfl rfl rfl rfl (by kernel_rfl)
  (go_skip1 xo4_17 rfl rfl rfl rfl (by kernel_rfl)
  (go_skip1 xo4_17 rfl rfl rfl rfl (by kernel_rfl)
  (by kernel_rfl))))))))))))
  (by kernel_rfl))
theorem xm4_13 (s : Sys) (k wl : Nat) (m0 : Nat) (ac : List Nat × List Nat) (t0 t1 t2 t3 t4 t5 t6 t7 t8 t9 t10 t11 t12 t13 t14 t15 t16 t17 t18 t19 t20 t21 t22 t23 t24 t25 t26 t27 t28 t29 t30 t31 t32 t33 t34 t35 t36 t37 t38 t39 t40 t41 t42 t43 t44 t45 t46 t47 t48 t49 t50 t51 t52 t53 t54 t55 t56 t57 t58 t59 t60 t61 t62 t63 t64 t65 t66 t67 t68 t69 t70 t71 t72 t73 t74 t75 t76 t77 t78 t79 t80 t81 t82 t83 t84 t85 t86 t87 t88 t89 t90 t91 t92 t93 t94 t95 t96 t97 t98 t99 t100 t101 t102 t103 t104 t105 t106 t107 t108 t109 t110 t111 t112 t113 t114 t115 t116 t117 : V) (h : Hp) : opsP (xX s 4 wl k false) xg4_3 13 m0 ac (runK (xX s 4 wl k false) (bodyK s.P Try.f4) xk4_4) ⟨(t0::t1::t2::t3::t4::t5::t6::t7::t8::t9::t10::t11::t12::t13::t14::t15::t16::t17::t18::t19::t20::t21::t22::t23::t24::t25::t26::t27::t28::t29::t30::t31::t32::t33::t34::t35::t36::t37::t38::t39::t40::t41::t42::t43::t44::t45::t46::t47::t48::t49::t50::t51::t52::t53::t54::t55::t56::t57::t58::t59::t60::t61::t62::t63::t64::t65::t66::t67::t68::t69::t70::t71::t72::t73::t74::t75::t76::t77::t78::t79::t80::t81::t82::t83::t84::t85::t86::t87::t88::t89::t90::t91::t92::t93::t94::t95::t96::t97::t98::t99::t100::t101::t102::t103::t104::t105::t106::t107::t108::t109::t110::t111::t112::t113::t114::t115::t116::t117::[]),h⟩ =
  gd t69 (
  opsP (xX s 4 wl k false) xg4_3 14 m0 ac (runK (xX s 4 wl k false) (bodyK s.P Try.f4) xk4_4) ⟨(t0::t1::t2::t3::t4::t5::t6::t7::t8::t9::t10::t11::t12::t13::t14::t15::t16::t17::t18::t19::t20::t21::t22::t23::t24::t25::t26::t27::t28::t29::t30::t31::t32::t33::t34::t35::t36::t37::t38::t39::t40::t41::t42::t43::t44::t45::t46::t47::t48::t49::t50::t51::t52::t53::t54::t55::t56::t57::t58::t59::t60::t61::t62::t63::t64::t65::t66::t67::t68::(V.lit (Value.bool true))::t70::t71::t72::t73::t74::t75::t76::t76::t78::t79::t80::t81::t82::t83::t84::t85::t86::t87::t88::t89::t90::t91::t92::t93::t94::t95::t96::t97::t98::t99::t100::t101::t102::t103::t104::t105::t106::t107::t108::t109::t110::t111::t112::t113::t114::t115::t116::t117::[]),h⟩) (
  opsP (xX s 4 wl k false) xg4_3 52 m0 ac (runK (xX s 4 wl k false) (bodyK s.P Try.f4) xk4_4) ⟨(t0::t1::t2::t3::t4::t5::t6::t7::t8::t9::t10::t11::t12::t13::t14::t15::t16::t17::t18::t19::t20::t21::t22::t23::t24::t25::t26::t27::t28::t29::t30::t31::t32::t33::t34::t35::t36::t37::t38::t39::t40::t41::t42::t43::t44::t45::t46::t47::t48::t49::t50::t51::t52::t53::t54::t55::t56::t57::t58::t59::t60::t61::t62::t63::t64::t65::t66::t67::t68::(V.lit (Value.bool false))::t70::t71::t72::t73::t74::t75::t76::uu::uu::uu::uu::uu::uu::uu::uu::uu::uu::uu::uu::uu::uu::uu::uu::uu::uu::uu::uu::uu::uu::uu::uu::uu::uu::uu::uu::uu::uu::uu::uu::uu::uu::uu::uu::uu::uu::uu::t116::t117::[]),h⟩) (
  opsP (xX s 4 wl k false) xg4_3 14 m0 ac (runK (xX s 4 wl k false) (bodyK s.P Try.f4) xk4_4) ⟨(t0::t1::t2::t3::t4::t5::t6::t7::t8::t9::t10::t11::t12::t13::t14::t15::t16::t17::t18::t19::t20::t21::t22::t23::t24::t25::t26::t27::t28::t29::t30::t31::t32::t33::t34::t35::t36::t37::t38::t39::t40::t41::t42::t43::t44::t45::t46::t47::t48::t49::t50::t51::t52::t53::t54::t55::t56::t57::t58::t59::t60::t61::t62::t63::t64::t65::t66::t67::t68::t69::t70::t71::t72::t73::t74::t75::t76::uu::t78::t79::t80::t81::t82::t83::t84::t85::t86::t87::t88::t89::t90::t91::t92::t93::t94::t95::t96::t97::t98::t99::t100::t101::t102::t103::t104::t105::t106::t107::t108::t109::t110::t111::t112::t113::t114::t115::t116::t117::[]),h⟩) :=
  (go_gdT1 xo4_17 xo4_17a rfl rfl rfl rfl (by kernel_rfl)
  (st_no (by kernel_rfl) (st_id (v := t76) (H := h) (by kernel_rfl)
  (by kernel_rfl)))
  (go_none1 (x := #[]) xo4_17 rfl rfl rfl rfl (by kernel_rfl)
  (go_none1 (x := #[]) xo4_17 rfl rfl rfl rfl (by kernel_rfl)
  (go_none1 (x := #[]) xo4_17 rfl rfl rfl rfl (by kernel_rfl)
  (go_none1 (x := #[]) xo4_17 rfl rfl rfl rfl (by kernel_rfl)
  (go_none1 (x := #[]) xo4_17 rfl rfl rfl rfl (by kernel_rfl)
  (go_none1 (x := #[]) xo4_17 rfl rfl rfl rfl (by kernel_rfl)
  (go_none1 (x := #[]) xo4_17 rfl rfl rfl rfl (by kernel_rfl)
  (go_none1 (x := #[]) xo4_17 rfl rfl rfl rfl (by kernel_rfl)
  (go_none1 (x := #[]) xo4_17 rfl rfl rfl rfl (by kernel_rfl)
  (go_none1 (x := #[]) xo4_17 rfl rfl rfl rfl (by kernel_rfl)
  (go_none1 (x := #[]) xo4_17 rfl rfl rfl rfl (by kernel_rfl)
  (go_none1 (x := #[]) xo4_17 rfl rfl rfl rfl (by kernel_rfl)
  (go_skip1 xo4_17 rfl rfl rfl rfl (by kernel_rfl)
  (go_skip1 xo4_17 rfl rfl rfl rfl (by kernel_rfl)
  (go_none1 (x := #[]) xo4_17 rfl rfl rfl rfl (by kernel_rfl)
  (go_none1 (x := #[]) xo4_17 rfl rfl rfl rfl (by kernel_rfl)
  (go_none1 (x := #[]) xo4_17 rfl rfl rfl rfl (by kernel_rfl)
  (go_skip1 xo4_17 rfl rfl rfl rfl (by kernel_rfl)
  (go_skip1 xo4_17 rfl rfl rfl rfl (by kernel_rfl)
  (go_none1 (x := #[]) xo4_17 rfl rfl rfl rfl (by kernel_rfl)
  (go_none1 (x := #[]) xo4_17 rfl rfl rfl rfl (by kernel_rfl)
  (go_none1 (x := #[]) xo4_17 rfl rfl rfl rfl (by kernel_rfl)
  (go_none1 (x := #[]) xo4_17 rfl rfl rfl rfl (by kernel_rfl)
  (go_none1 (x := #[]) xo4_17 rfl rfl rfl rfl (by kernel_rfl)
  (go_none1 (x := #[]) xo4_17 rfl rfl rfl rfl (by kernel_rfl)
  (go_none1 (x := #[]) xo4_17 rfl rfl rfl rfl (by kernel_rfl)
  (go_none1 (x := #[]) xo4_17 rfl rfl rfl rfl (by kernel_rfl)
  (go_none1 (x := #[]) xo4_17 rfl rfl rfl rfl (by kernel_rfl)
  (go_none1 (x := #[]) xo4_17 rfl rfl rfl rfl (by kernel_rfl)
  (go_none1 (x := #[]) xo4_17 rfl rfl rfl rfl (by kernel_rfl)
  (go_none1 (x := #[]) xo4_17 rfl rfl rfl rfl (by kernel_rfl)
  (go_none1 (x := #[]) xo4_17 rfl rfl rfl rfl (by kernel_rfl)
  (go_none1 (x := #[]) xo4_17 rfl rfl rfl rfl (by kernel_rfl)
  (go_none1 (x := #[]) xo4_17 rfl rfl rfl rfl (by kernel_rfl)
  (go_none1 (x := #[]) xo4_17 rfl rfl rfl rfl (by kernel_rfl)
  (go_none1 (x := #[]) xo4_17 rfl rfl rfl rfl (by kernel_rfl)
  (go_none1 (x := #[]) xo4_17 rfl rfl rfl rfl (by kernel_rfl)
  (go_skip1 xo4_17 rfl rfl rfl rfl (by kernel_rfl)
  (by kernel_rfl)))))))))))))))))))))))))))))))))))))))
  (by kernel_rfl))
theorem xm4_14 (s : Sys) (k wl : Nat) (m0 : Nat) (ac : List Nat × List Nat) (t0 t1 t2 t3 t4 t5 t6 t7 t8 t9 t10 t11 t12 t13 t14 t15 t16 t17 t18 t19 t20 t21 t22 t23 t24 t25 t26 t27 t28 t29 t30 t31 t32 t33 t34 t35 t36 t37 t38 t39 t40 t41 t42 t43 t44 t45 t46 t47 t48 t49 t50 t51 t52 t53 t54 t55 t56 t57 t58 t59 t60 t61 t62 t63 t64 t65 t66 t67 t68 t69 t70 t71 t72 t73 t74 t75 t76 t77 t78 t79 t80 t81 t82 t83 t84 t85 t86 t87 t88 t89 t90 t91 t92 t93 t94 t95 t96 t97 t98 t99 t100 t101 t102 t103 t104 t105 t106 t107 t108 t109 t110 t111 t112 t113 t114 t115 t116 t117 : V) (h : Hp) : opsP (xX s 4 wl k false) xg4_3 9 m0 ac (runK (xX s 4 wl k false) (bodyK s.P Try.f4) xk4_4) ⟨(t0::t1::t2::t3::t4::t5::t6::t7::t8::t9::t10::t11::t12::t13::t14::t15::t16::t17::t18::t19::t20::t21::t22::t23::t24::t25::t26::t27::t28::t29::t30::t31::t32::t33::t34::t35::t36::t37::t38::t39::t40::t41::t42::t43::t44::t45::t46::t47::t48::t49::t50::t51::t52::t53::t54::t55::t56::t57::t58::t59::t60::t61::t62::t63::t64::t65::t66::t67::t68::t69::t70::t71::t72::t73::t74::t75::t76::t77::t78::t79::t80::t81::t82::t83::t84::t85::t86::t87::t88::t89::t90::t91::t92::t93::t94::t95::t96::t97::t98::t99::t100::t101::t102::t103::t104::t105::t106::t107::t108::t109::t110::t111::t112::t113::t114::t115::t116::t117::[]),h⟩ =
  gd t69 (
  opsP (xX s 4 wl k false) xg4_3 10 m0 ac (runK (xX s 4 wl k false) (bodyK s.P Try.f4) xk4_4) ⟨(t0::t1::t2::t3::t4::t5::t6::t7::t8::t9::t10::t11::t12::t13::t14::t15::t16::t17::t18::t19::t20::t21::t22::t23::t24::t25::t26::t27::t28::t29::t30::t31::t32::t33::t34::t35::t36::t37::t38::t39::t40::t41::t42::t43::t44::t45::t46::t47::t48::t49::t50::t51::t52::t53::t54::t55::t56::t57::t58::t59::t60::t61::t62::t63::t64::t65::t66::t67::t68::(V.lit (Value.bool true))::t70::t71::t72::t72::t74::t75::t76::t77::t78::t79::t80::t81::t82::t83::t84::t85::t86::t87::t88::t89::t90::t91::t92::t93::t94::t95::t96::t97::t98::t99::t100::t101::t102::t103::t104::t105::t106::t107::t108::t109::t110::t111::t112::t113::t114::t115::t116::t117::[]),h⟩) (
  opsP (xX s 4 wl k false) xg4_3 52 m0 ac (runK (xX s 4 wl k false) (bodyK s.P Try.f4) xk4_4) ⟨(t0::t1::t2::t3::t4::t5::t6::t7::t8::t9::t10::t11::t12::t13::t14::t15::t16::t17::t18::t19::t20::t21::t22::t23::t24::t25::t26::t27::t28::t29::t30::t31::t32::t33::t34::t35::t36::t37::t38::t39::t40::t41::t42::t43::t44::t45::t46::t47::t48::t49::t50::t51::t52::t53::t54::t55::t56::t57::t58::t59::t60::t61::t62::t63::t64::t65::t66::t67::t68::(V.lit (Value.bool false))::t70::t71::t72::uu::uu::uu::uu::uu::uu::uu::uu::uu::uu::uu::uu::uu::uu::uu::uu::uu::uu::uu::uu::uu::uu::uu::uu::uu::uu::uu::uu::uu::uu::uu::uu::uu::uu::uu::uu::uu::uu::uu::uu::uu::uu::uu::t116::t117::[]),h⟩) (
  opsP (xX s 4 wl k false) xg4_3 10 m0 ac (runK (xX s 4 wl k false) (bodyK s.P Try.f4) xk4_4) ⟨(t0::t1::t2::t3::t4::t5::t6::t7::t8::t9::t10::t11::t12::t13::t14::t15::t16::t17::t18::t19::t20::t21::t22::t23::t24::t25::t26::t27::t28::t29::t30::t31::t32::t33::t34::t35::t36::t37::t38::t39::t40::t41::t42::t43::t44::t45::t46::t47::t48::t49::t50::t51::t52::t53::t54::t55::t56::t57::t58::t59::t60::t61::t62::t63::t64::t65::t66::t67::t68::t69::t70::t71::t72::uu::t74::t75::t76::t77::t78::t79::t80::t81::t82::t83::t84::t85::t86::t87::t88::t89::t90::t91::t92::t93::t94::t95::t96::t97::t98::t99::t100::t101::t102::t103::t104::t105::t106::t107::t108::t109::t110::t111::t112::t113::t114::t115::t116::t117::[]),h⟩) :=
  (go_gdT1 xo4_17 xo4_17a rfl rfl rfl rfl (by kernel_rfl)
  (st_no (by kernel_rfl) (st_id (v := t72) (H := h) (by kernel_rfl)
  (by kernel_rfl)))
  (go_none1 (x := #[]) xo4_17 rfl rfl rfl rfl (by kernel_rfl)
  (go_none1 (x := #[]) xo4_17 rfl rfl rfl rfl (by kernel_rfl)
  (go_skip1 xo4_17 rfl rfl rfl rfl (by kernel_rfl)
  (go_skip1 xo4_17 rfl rfl rfl rfl (by kernel_rfl)
  (go_none1 (x := #[]) xo4_17 rfl rfl rfl rfl (by kernel_rfl)
  (go_none1 (x := #[]) xo4_17 rfl rfl rfl rfl (by kernel_rfl)
  (go_none1 (x := #[]) xo4_17 rfl rfl rfl rfl (by kernel_rfl)
  (go_none1 (x := #[]) xo4_17 rfl rfl rfl rfl (by kernel_rfl)
  (go_none1 (x := #[]) xo4_17 rfl rfl rfl rfl (by kernel_rfl)
  (go_none1 (x := #[]) xo4_17 rfl rfl rfl rfl (by kernel_rfl)
  (go_none1 (x := #[]) xo4_17 rfl rfl rfl rfl (by kernel_rfl)
  (go_none1 (x := #[]) xo4_17 rfl rfl rfl rfl (by kernel_rfl)
  (go_none1 (x := #[]) xo4_17 rfl rfl rfl rfl (by kernel_rfl)
  (go_none1 (x := #[]) xo4_17 rfl rfl rfl rfl (by kernel_rfl)
  (go_none1 (x := #[]) xo4_17 rfl rfl rfl rfl (by kernel_rfl)
  (go_none1 (x := #[]) xo4_17 rfl rfl rfl rfl (by kernel_rfl)
  (go_skip1 xo4_17 rfl rfl rfl rfl (by kernel_rfl)
  (go_skip1 xo4_17 rfl rfl rfl rfl (by kernel_rfl)
  (go_none1 (x := #[]) xo4_17 rfl rfl rfl rfl (by kernel_rfl)
  (go_none1 (x := #[]) xo4_17 rfl rfl rfl rfl (by kernel_rfl)
  (go_none1 (x := #[]) xo4_17 rfl rfl rfl rfl (by kernel_rfl)
  (go_skip1 xo4_17 rfl rfl rfl rfl (by kernel_rfl)
  (go_skip1 xo4_17 rfl rfl rfl rfl (by kernel_rfl)
  (go_none1 (x := #[]) xo4_17 rfl rfl rfl rfl (by kernel_rfl)
  (go_none1 (x := #[]) xo4_17 rfl rfl rfl rfl (by kernel_rfl)
  (go_none1 (x := #[]) xo4_17 rfl rfl rfl rfl (by kernel_rfl)
  (go_none1 (x := #[]) xo4_17 rfl rfl rfl rfl (by kernel_rfl)
  (go_none1 (x := #[]) xo4_17 rfl rfl rfl rfl (by kernel_rfl)
  (go_none1 (x := #[]) xo4_17 rfl rfl rfl rfl (by kernel_rfl)
  (go_none1 (x := #[]) xo4_17 rfl rfl rfl rfl (by kernel_rfl)
  (go_none1 (x := #[]) xo4_17 rfl rfl rfl rfl (by kernel_rfl)
  (go_none1 (x := #[]) xo4_17 rfl rfl rfl rfl (by kernel_rfl)
  (go_none1 (x := #[]) xo4_17 rfl rfl rfl rfl (by kernel_rfl)
  (go_none1 (x := #[]) xo4_17 rfl rfl rfl rfl (by kernel_rfl)
  (go_none1 (x := #[]) xo4_17 rfl rfl rfl rfl (by kernel_rfl)
  (go_none1 (x := #[]) xo4_17 rfl rfl rfl rfl (by kernel_rfl)
  (go_none1 (x := #[]) xo4_17 rfl rfl rfl rfl (by kernel_rfl)
  (go_none1 (x := #[]) xo4_17 rfl rfl rfl rfl (by kernel_rfl)
  (go_none1 (x := #[]) xo4_17 rfl rfl rfl rfl (by kernel_rfl)
  (go_none1 (x := #[]) xo4_17 rfl rfl rfl rfl (by kernel_rfl)
  (go_none1 (x := #[]) xo4_17 rfl rfl rfl rfl (by kernel_rfl)
  (go_skip1 xo4_17 rfl rfl rfl rfl (by kernel_rfl)
  (by kernel_rfl)))))))))))))))))))))))))))))))))))))))))))
  (by kernel_rfl))
theorem xm4_15 (s : Sys) (k wl : Nat) (m0 : Nat) (ac : List Nat × List Nat) (t0 t1 t2 t3 t4 t5 t6 t7 t8 t9 t10 t11 t12 t13 t14 t15 t16 t17 t18 t19 t20 t21 t22 t23 t24 t25 t26 t27 t28 t29 t30 t31 t32 t33 t34 t35 t36 t37 t38 t39 t40 t41 t42 t43 t44 t45 t46 t47 t48 t49 t50 t51 t52 t53 t54 t55 t56 t57 t58 t59 t60 t61 t62 t63 t64 t65 t66 t67 t68 t69 t70 t71 t72 t73 t74 t75 t76 t77 t78 t79 t80 t81 t82 t83 t84 t85 t86 t87 t88 t89 t90 t91 t92 t93 t94 t95 t96 t97 t98 t99 t100 t101 t102 t103 t104 t105 t106 t107 t108 t109 t110 t111 t112 t113 t114 t115 t116 t117 : V) (h : Hp) : opsP (xX s 4 wl k false) xg4_3 26 m0 ac (runK (xX s 4 wl k false) (bodyK s.P Try.f4) xk4_4) ⟨(t0::t1::t2::t3::t4::t5::t6::t7::t8::t9::t10::t11::t12::t13::t14::t15::t16::t17::t18::t19::t20::t21::t22::t23::t24::t25::t26::t27::t28::t29::t30::t31::t32::t33::t34::t35::t36::t37::t38::t39::t40::t41::t42::t43::t44::t45::t46::t47::t48::t49::t50::t51::t52::t53::t54::t55::t56::t57::t58::t59::t60::t61::t62::t63::t64::t65::t66::t67::t68::t69::t70::t71::t72::t73::t74::t75::t76::t77::t78::t79::t80::t81::t82::t83::t84::t85::t86::t87::t88::t89::t90::t91::t92::t93::t94::t95::t96::t97::t98::t99::t100::t101::t102::t103::t104::t105::t106::t107::t108::t109::t110::t111::t112::t113::t114::t115::t116::t117::[]),h⟩ =
  gd t69 (
  bm (vPick t77 t89 (V.lit (Value.bool false))) h fun v112 h113 =>
  opsP (xX s 4 wl k false) xg4_3 28 m0 ac (runK (xX s 4 wl k false) (bodyK s.P Try.f4) xk4_4) ⟨(t0::t1::t2::t3::t4::t5::t6::t7::t8::t9::t10::t11::t12::t13::t14::t15::t16::t17::t18::t19::t20::t21::t22::t23::t24::t25::t26::t27::t28::t29::t30::t31::t32::t33::t34::t35::t36::t37::t38::t39::t40::t41::t42::t43::t44::t45::t46::t47::t48::t49::t50::t51::t52::t53::t54::t55::t56::t57::t58::t59::t60::t61::t62::t63::t64::t65::t66::t67::t68::(V.lit (Value.bool true))::t70::t71::t72::t73::t74::t75::t76::t77::t78::t79::t80::t81::t82::t83::t84::t85::t86::t87::t88::t89::v112::v112::t92::t93::t94::t95::t96::t97::t98::t99::t100::t101::t102::t103::t104::t105::t106::t107::t108::t109::t110::t111::t112::t113::t114::t115::t116::t117::[]),h113⟩) (
  opsP (xX s 4 wl k false) xg4_3 52 m0 ac (runK (xX s 4 wl k false) (bodyK s.P Try.f4) xk4_4) ⟨(t0::t1::t2::t3::t4::t5::t6::t7::t8::t9::t10::t11::t12::t13::t14::t15::t16::t17::t18::t19::t20::t21::t22::t23::t24::t25::t26::t27::t28::t29::t30::t31::t32::t33::t34::t35::t36::t37::t38::t39::t40::t41::t42::t43::t44::t45::t46::t47::t48::t49::t50::t51::t52::t53::t54::t55::t56::t57::t58::t59::t60::t61::t62::t63::t64::t65::t66::t67::t68::(V.lit (Value.bool false))::t70::t71::t72::t73::t74::t75::t76::t77::t78::t79::t80::t81::t82::t83::t84::t85::t86::t87::t88::t89::uu::uu::uu::uu::uu::uu::uu::uu::uu::uu::uu::uu::uu::uu::uu::uu::uu::uu::uu::uu::uu::uu::uu::uu::uu::uu::t116::t117::[]),h⟩) (
  opsP (xX s 4 wl k false) xg4_3 27 m0 ac (runK (xX s 4 wl k false) (bodyK s.P Try.f4) xk4_4) ⟨(t0::t1::t2::t3::t4::t5::t6::t7::t8::t9::t10::t11::t12::t13::t14::t15::t16::t17::t18::t19::t20::t21::t22::t23::t24::t25::t26::t27::t28::t29::t30::t31::t32::t33::t34::t35::t36::t37::t38::t39::t40::t41::t42::t43::t44::t45::t46::t47::t48::t49::t50::t51::t52::t53::t54::t55::t56::t57::t58::t59::t60::t61::t62::t63::t64::t65::t66::t67::t68::t69::t70::t71::t72::t73::t74::t75::t76::t77::t78::t79::t80::t81::t82::t83::t84::t85::t86::t87::t88::t89::uu::t91::t92::t93::t94::t95::t96::t97::t98::t99::t100::t101::t102::t103::t104::t105::t106::t107::t108::t109::t110::t111::t112::t113::t114::t115::t116::t117::[]),h⟩) :=
  (go_gdT1 xo4_17 xo4_17a rfl rfl rfl rfl (by kernel_rfl)
  (st_no (by kernel_rfl) (st_bm (by kernel_rfl) fun v112 h113 =>
  (go_run1 xo4_17 xo4_17a rfl rfl rfl rfl (by kernel_rfl) (st_no (by kernel_rfl) (st_id (v := v112) (H := h113) (by kernel_rfl)
  (by kernel_rfl))))))
  (go_skip1 xo4_17 rfl rfl rfl rfl (by kernel_rfl)
  (go_none1 (x := #[]) xo4_17 rfl rfl rfl rfl (by kernel_rfl)
  (go_none1 (x := #[]) xo4_17 rfl rfl rfl rfl (by kernel_rfl)
  (go_none1 (x := #[]) xo4_17 rfl rfl rfl rfl (by kernel_rfl)
  (go_skip1 xo4_17 rfl rfl rfl rfl (by kernel_rfl)
  (go_skip1 xo4_17 rfl rfl rfl rfl (by kernel_rfl)
  (go_none1 (x := #[]) xo4_17 rfl rfl rfl rfl (by kernel_rfl)
  (go_none1 (x := #[]) xo4_17 rfl rfl rfl rfl (by kernel_rfl)
  (go_none1 (x := #[]) xo4_17 rfl rfl rfl rfl (by kernel_rfl)
  (go_none1 (x := #[]) xo4_17 rfl rfl rfl rfl (by kernel_rfl)
  (go_none1 (x := #[]) xo4_17 rfl rfl rfl rfl (by kernel_rfl)
  (go_none1 (x := #[]) xo4_17 rfl rfl rfl rfl (by kernel_rfl)
  (go_none1 (x := #[]) xo4_17 rfl rfl rfl rfl (by kernel_rfl)
  (go_none1 (x := #[]) xo4_17 rfl rfl rfl rfl (by kernel_rfl)
  (go_none1 (x := #[]) xo4_17 rfl rfl rfl rfl (by kernel_rfl)
  (go_none1 (x := #[]) xo4_17 rfl rfl rfl rfl (by kernel_rfl)
  (go_none1 (x := #[]) xo4_17 rfl rfl rfl rfl (by kernel_rfl)
  (go_none1 (x := #[]) xo4_17 rfl rfl rfl rfl (by kernel_rfl)
  (go_none1 (x := #[]) xo4_17 rfl rfl rfl rfl (by kernel_rfl)
  (go_none1 (x := #[]) xo4_17 rfl rfl rfl rfl (by kernel_rfl)
  (go_none1 (x := #[]) xo4_17 rfl rfl rfl rfl (by kernel_rfl)
  (go_none1 (x := #[]) xo4_17 rfl rfl rfl rfl (by kernel_rfl)
  (go_none1 (x := #[]) xo4_17 rfl rfl rfl rfl (by kernel_rfl)
  (go_none1 (x := #[]) xo4_17 rfl rfl rfl rfl (by kernel_rfl)
  (go_skip1 xo4_17 rfl rfl rfl rfl (by kernel_rfl)
  (by kernel_rfl))))))))))))))))))))))))))
  (by kernel_rfl))
theorem xm4_16 (s : Sys) (k wl : Nat) (m0 : Nat) (ac : List Nat × List Nat) (t0 t1 t2 t3 t4 t5 t6 t7 t8 t9 t10 t11 t12 t13 t14 t15 t16 t17 t18 t19 t20 t21 t22 t23 t24 t25 t26 t27 t28 t29 t30 t31 t32 t33 t34 t35 t36 t37 t38 t39 t40 t41 t42 t43 t44 t45 t46 t47 t48 t49 t50 t51 t52 t53 t54 t55 t56 t57 t58 t59 t60 t61 t62 t63 t64 t65 t66 t67 t68 t69 t70 t71 t72 t73 t74 t75 t76 t77 t78 t79 t80 t81 t82 t83 t84 t85 t86 t87 t88 t89 t90 t91 t92 t93 t94 t95 t96 t97 t98 t99 t100 t101 t102 t103 t104 t105 t106 t107 t108 t109 t110 t111 t112 t113 t114 t115 t116 t117 : V) (h : Hp) : opsP (xX s 4 wl k false) xg4_3 15 m0 ac (runK (xX s 4 wl k false) (bodyK s.P Try.f4) xk4_4) ⟨(t0::t1::t2::t3::t4::t5::t6::t7::t8::t9::t10::t11::t12::t13::t14::t15::t16::t17::t18::t19::t20::t21::t22::t23::t24::t25::t26::t27::t28::t29::t30::t31::t32::t33::t34::t35::t36::t37::t38::t39::t40::t41::t42::t43::t44::t45::t46::t47::t48::t49::t50::t51::t52::t53::t54::t55::t56::t57::t58::t59::t60::t61::t62::t63::t64::t65::t66::t67::t68::t69::t70::t71::t72::t73::t74::t75::t76::t77::t78::t79::t80::t81::t82::t83::t84::t85::t86::t87::t88::t89::t90::t91::t92::t93::t94::t95::t96::t97::t98::t99::t100::t101::t102::t103::t104::t105::t106::t107::t108::t109::t110::t111::t112::t113::t114::t115::t116::t117::[]),h⟩ =
  gd t77 (
  stO m0 t78 (
  bm (vIndexAddr s.P 25 t78 t11 h) h fun v114 h115 =>
  stO m0 v114 (
  bm (vLoad s.P 26 v114 h115) h115 fun v116 h117 =>
  bm (vIndexAddr s.P 25 t1 t11 h117) h117 fun v118 h119 =>
  bm (vLoad s.P 26 v118 h119) h119 fun v120 h121 =>
  bm (vFieldAddr s.P 28 t5 2) h121 fun v122 h123 =>
  bm (vLoad s.P 3 v122 h123) h123 fun v124 h125 =>
  bp (callV (xX s 4 wl k false) true true (.fn (.func 29) [] []) [v120,v124] h125) fun v126 h127 =>
  bm (vBin s.P .eql 26 v116 v126) h127 fun v128 h129 =>
  opsP (xX s 4 wl k false) xg4_3 26 m0 ac (runK (xX s 4 wl k false) (bodyK s.P Try.f4) xk4_4) ⟨(t0::t1::t2::t3::t4::t5::t6::t7::t8::t9::t10::t11::t12::t13::t14::t15::t16::t17::t18::t19::t20::t21::t22::t23::t24::t25::t26::t27::t28::t29::t30::t31::t32::t33::t34::t35::t36::t37::t38::t39::t40::t41::t42::t43::t44::t45::t46::t47::t48::t49::t50::t51::t52::t53::t54::t55::t56::t57::t58::t59::t60::t61::t62::t63::t64::t65::t66::t67::t68::t69::t70::t71::t72::t73::t74::t75::t76::(V.lit (Value.bool true))::t78::t11::v114::v116::t1::t11::v118::v120::v122::v124::v126::v128::t90::t91::t92::t93::t94::t95::t96::t97::t98::t99::t100::t101::t102::t103::t104::t105::t106::t107::t108::t109::t110::t111::t112::t113::t114::t115::t116::t117::[]),h129⟩))) (
  opsP (xX s 4 wl k false) xg4_3 26 m0 ac (runK (xX s 4 wl k false) (bodyK s.P Try.f4) xk4_4) ⟨(t0::t1::t2::t3::t4::t5::t6::t7::t8::t9::t10::t11::t12::t13::t14::t15::t16::t17::t18::t19::t20::t21::t22::t23::t24::t25::t26::t27::t28::t29::t30::t31::t32::t33::t34::t35::t36::t37::t38::t39::t40::t41::t42::t43::t44::t45::t46::t47::t48::t49::t50::t51::t52::t53::t54::t55::t56::t57::t58::t59::t60::t61::t62::t63::t64::t65::t66::t67::t68::t69::t70::t71::t72::t73::t74::t75::t76::(V.lit (Value.bool false))::t78::uu::uu::uu::uu::uu::uu::uu::uu::uu::uu::uu::t90::t91::t92::t93::t94::t95::t96::t97::t98::t99::t100::t101::t102::t103::t104::t105::t106::t107::t108::t109::t110::t111::t112::t113::t114::t115::t116::t117::[]),h⟩) (
  opsP (xX s 4 wl k false) xg4_3 16 m0 ac (runK (xX s 4 wl k false) (bodyK s.P Try.f4) xk4_4) ⟨(t0::t1::t2::t3::t4::t5::t6::t7::t8::t9::t10::t11::t12::t13::t14::t15::t16::t17::t18::t19::t20::t21::t22::t23::t24::t25::t26::t27::t28::t29::t30::t31::t32::t33::t34::t35::t36::t37::t38::t39::t40::t41::t42::t43::t44::t45::t46::t47::t48::t49::t50::t51::t52::t53::t54::t55::t56::t57::t58::t59::t60::t61::t62::t63::t64::t65::t66::t67::t68::t69::t70::t71::t72::t73::t74::t75::t76::t77::t78::uu::t80::t81::t82::t83::t84::t85::t86::t87::t88::t89::t90::t91::t92::t93::t94::t95::t96::t97::t98::t99::t100::t101::t102::t103::t104::t105::t106::t107::t108::t109::t110::t111::t112::t113::t114::t115::t116::t117::[]),h⟩) :=
  (go_gdT1 xo4_17 xo4_17a rfl rfl rfl rfl (by kernel_rfl)
  (st_no (by kernel_rfl) (st_id (v := t11) (H := h) (by kernel_rfl)
  (go_run1 xo4_17 xo4_17a rfl rfl rfl rfl (by kernel_rfl) (st_yes (by kernel_rfl) (st_bm (by kernel_rfl) fun v114 h115 =>
  (go_run1 xo4_17 xo4_17a rfl rfl rfl rfl (by kernel_rfl) (st_yes (by kernel_rfl) (st_bm (by kernel_rfl) fun v116 h117 =>
  (go_run1 xo4_17 xo4_17a rfl rfl rfl rfl (by kernel_rfl) (st_no (by kernel_rfl) (st_id (v := t1) (H := h117) (by kernel_rfl)
  (go_run1 xo4_17 xo4_17a rfl rfl rfl rfl (by kernel_rfl) (st_no (by kernel_rfl) (st_id (v := t11) (H := h117) (by kernel_rfl)
  (go_run1 xo4_17 xo4_17a rfl rfl rfl rfl (by kernel_rfl) (st_no (by kernel_rfl) (st_bm (by kernel_rfl) fun v118 h119 =>
  (go_run1 xo4_17 xo4_17a rfl rfl rfl rfl (by kernel_rfl) (st_no (by kernel_rfl) (st_bm (by kernel_rfl) fun v120 h121 =>
  (go_run1 xo4_17 xo4_17a rfl rfl rfl rfl (by kernel_rfl) (st_no (by kernel_rfl) (st_bm (by kernel_rfl) fun v122 h123 =>
  (go_run1 xo4_17 xo4_17a rfl rfl rfl rfl (by kernel_rfl) (st_no (by kernel_rfl) (st_bm (by kernel_rfl) fun v124 h125 =>
  (go_run1 xo4_17 xo4_17a rfl rfl rfl rfl (by kernel_rfl) (st_no (by kernel_rfl) (st_bp (by kernel_rfl) fun v126 h127 =>
  (go_run1 xo4_17 xo4_17a rfl rfl rfl rfl (by kernel_rfl) (st_no (by kernel_rfl) (st_bm (by kernel_rfl) fun v128 h129 =>
  (by kernel_rfl)))))))))))))))))))))))))))))))))
  (go_skip1 xo4_17 rfl rfl rfl rfl (by kernel_rfl)
  (go_skip1 xo4_17 rfl rfl rfl rfl (by kernel_rfl)
  (go_skip1 xo4_17 rfl rfl rfl rfl (by kernel_rfl)
  (go_skip1 xo4_17 rfl rfl rfl rfl (by kernel_rfl)
  (go_skip1 xo4_17 rfl rfl rfl rfl (by kernel_rfl)
  (go_skip1 xo4_17 rfl rfl rfl rfl (by kernel_rfl)
  (go_skip1 xo4_17 rfl rfl rfl rfl (by kernel_rfl)
  (go_skip1 xo4_17 rfl rfl rfl rfl (by kernel_rfl)
  (go_skip1 xo4_17 rfl rfl rfl rfl (by kernel_rfl)
  (go_skip1 xo4_17 rfl rfl rfl rfl (by kernel_rfl)
  (by kernel_rfl)))))))))))
  (by kernel_rfl))
theorem xm4_17 (s : Sys) (k wl : Nat) (m0 : Nat) (ac : List Nat × List Nat) (t0 t1 t2 t3 t4 t5 t6 t7 t8 t9 t10 t11 t12 t13 t14 t15 t16 t17 t18 t19 t20 t21 t22 t23 t24 t25 t26 t27 t28 t29 t30 t31 t32 t33 t34 t35 t36 t37 t38 t39 t40 t41 t42 t43 t44 t45 t46 t47 t48 t49 t50 t51 t52 t53 t54 t55 t56 t57 t58 t59 t60 t61 t62 t63 t64 t65 t66 t67 t68 t69 t70 t71 t72 t73 t74 t75 t76 t77 t78 t79 t80 t81 t82 t83 t84 t85 t86 t87 t88 t89 t90 t91 t92 t93 t94 t95 t96 t97 t98 t99 t100 t101 t102 t103 t104 t105 t106 t107 t108 t109 t110 t111 t112 t113 t114 t115 t116 t117 : V) (h : Hp) : opsP (xX s 4 wl k false) xg4_3 28 m0 ac (runK (xX s 4 wl k false) (bodyK s.P Try.f4) xk4_4) ⟨(t0::t1::t2::t3::t4::t5::t6::t7::t8::t9::t10::t11::t12::t13::t14::t15::t16::t17::t18::t19::t20::t21::t22::t23::t24::t25::t26::t27::t28::t29::t30::t31::t32::t33::t34::t35::t36::t37::t38::t39::t40::t41::t42::t43::t44::t45::t46::t47::t48::t49::t50::t51::t52::t53::t54::t55::t56::t57::t58::t59::t60::t61::t62::t63::t64::t65::t66::t67::t68::t69::t70::t71::t72::t73::t74::t75::t76::t77::t78::t79::t80::t81::t82::t83::t84::t85::t86::t87::t88::t89::t90::t91::t92::t93::t94::t95::t96::t97::t98::t99::t100::t101::t102::t103::t104::t105::t106::t107::t108::t109::t110::t111::t112::t113::t114::t115::t116::t117::[]),h⟩ =
  gd t91 (
  bm (vFieldAddr s.P 28 t9 1) h fun v130 h131 =>
  bm (vLoad s.P 3 v130 h131) h131 fun v132 h133 =>
  bm (vBin s.P .eql 3 v132 (V.lit (Value.int .i64 3))) h133 fun v134 h135 =>
  opsP (xX s 4 wl k false) xg4_3 31 m0 ac (runK (xX s 4 wl k false) (bodyK s.P Try.f4) xk4_4) ⟨(t0::t1::t2::t3::t4::t5::t6::t7::t8::t9::t10::t11::t12::t13::t14::t15::t16::t17::t18::t19::t20::t21::t22::t23::t24::t25::t26::t27::t28::t29::t30::t31::t32::t33::t34::t35::t36::t37::t38::t39::t40::t41::t42::t43::t44::t45::t46::t47::t48::t49::t50::t51::t52::t53::t54::t55::t56::t57::t58::t59::t60::t61::t62::t63::t64::t65::t66::t67::t68::t69::t70::t71::t72::t73::t74::t75::t76::t77::t78::t79::t80::t81::t82::t83::t84::t85::t86::t87::t88::t89::t90::(V.lit (Value.bool true))::v130::v132::v134::t95::t96::t97::t98::t99::t100::t101::t102::t103::t104::t105::t106::t107::t108::t109::t110::t111::t112::t113::t114::t115::t116::t117::[]),h135⟩) (
  opsP (xX s 4 wl k false) xg4_3 31 m0 ac (runK (xX s 4 wl k false) (bodyK s.P Try.f4) xk4_4) ⟨(t0::t1::t2::t3::t4::t5::t6::t7::t8::t9::t10::t11::t12::t13::t14::t15::t16::t17::t18::t19::t20::t21::t22::t23::t24::t25::t26::t27::t28::t29::t30::t31::t32::t33::t34::t35::t36::t37::t38::t39::t40::t41::t42::t43::t44::t45::t46::t47::t48::t49::t50::t51::t52::t53::t54::t55::t56::t57::t58::t59::t60::t61::t62::t63::t64::t65::t66::t67::t68::t69::t70::t71::t72::t73::t74::t75::t76::t77::t78::t79::t80::t81::t82::t83::t84::t85::t86::t87::t88::t89::t90::(V.lit (Value.bool false))::uu::uu::uu::t95::t96::t97::t98::t99::t100::t101::t102::t103::t104::t105::t106::t107::t108::t109::t110::t111::t112::t113::t114::t115::t116::t117::[]),h⟩) (
  opsP (xX s 4 wl k false) xg4_3 29 m0 ac (runK (xX s 4 wl k false) (bodyK s.P Try.f4) xk4_4) ⟨(t0::t1::t2::t3::t4::t5::t6::t7::t8::t9::t10::t11::t12::t13::t14::t15::t16::t17::t18::t19::t20::t21::t22::t23::t24::t25::t26::t27::t28::t29::t30::t31::t32::t33::t34::t35::t36::t37::t38::t39::t40::t41::t42::t43::t44::t45::t46::t47::t48::t49::t50::t51::t52::t53::t54::t55::t56::t57::t58::t59::t60::t61::t62::t63::t64::t65::t66::t67::t68::t69::t70::t71::t72::t73::t74::t75::t76::t77::t78::t79::t80::t81::t82::t83::t84::t85::t86::t87::t88::t89::t90::t91::uu::t93::t94::t95::t96::t97::t98::t99::t100::t101::t102::t103::t104::t105::t106::t107::t108::t109::t110::t111::t112::t113::t114::t115::t116::t117::[]),h⟩) :=
  (go_gdT1 xo4_17 xo4_17a rfl rfl rfl rfl (by kernel_rfl)
  (st_no (by kernel_rfl) (st_bm (by kernel_rfl) fun v130 h131 =>
  (go_run1 xo4_17 xo4_17a rfl rfl rfl rfl (by kernel_rfl) (st_no (by kernel_rfl) (st_bm (by kernel_rfl) fun v132 h133 =>
  (go_run1 xo4_17 xo4_17a rfl rfl rfl rfl (by kernel_rfl) (st_no (by kernel_rfl) (st_bm (by kernel_rfl) fun v134 h135 =>
  (by kernel_rfl)))))))))
  (go_skip1 xo4_17 rfl rfl rfl rfl (by kernel_rfl)
  (go_skip1 xo4_17 rfl rfl rfl rfl (by kernel_rfl)
  (by kernel_rfl)))
  (by kernel_rfl))
theorem xm4_18 (s : Sys) (k wl : Nat) (m0 : Nat) (ac : List Nat × List Nat) (t0 t1 t2 t3 t4 t5 t6 t7 t8 t9 t10 t11 t12 t13 t14 t15 t16 t17 t18 t19 t20 t21 t22 t23 t24 t25 t26 t27 t28 t29 t30 t31 t32 t33 t34 t35 t36 t37 t38 t39 t40 t41 t42 t43 t44 t45 t46 t47 t48 t49 t50 t51 t52 t53 t54 t55 t56 t57 t58 t59 t60 t61 t62 t63 t64 t65 t66 t67 t68 t69 t70 t71 t72 t73 t74 t75 t76 t77 t78 t79 t80 t81 t82 t83 t84 t85 t86 t87 t88 t89 t90 t91 t92 t93 t94 t95 t96 t97 t98 t99 t100 t101 t102 t103 t104 t105 t106 t107 t108 t109 t110 t111 t112 t113 t114 t115 t116 t117 : V) (h : Hp) : opsP (xX s 4 wl k false) xg4_3 27 m0 ac (runK (xX s 4 wl k false) (bodyK s.P Try.f4) xk4_4) ⟨(t0::t1::t2::t3::t4::t5::t6::t7::t8::t9::t10::t11::t12::t13::t14::t15::t16::t17::t18::t19::t20::t21::t22::t23::t24::t25::t26::t27::t28::t29::t30::t31::t32::t33::t34::t35::t36::t37::t38::t39::t40::t41::t42::t43::t44::t45::t46::t47::t48::t49::t50::t51::t52::t53::t54::t55::t56::t57::t58::t59::t60::t61::t62::t63::t64::t65::t66::t67::t68::t69::t70::t71::t72::t73::t74::t75::t76::t77::t78::t79::t80::t81::t82::t83::t84::t85::t86::t87::t88::t89::t90::t91::t92::t93::t94::t95::t96::t97::t98::t99::t100::t101::t102::t103::t104::t105::t106::t107::t108::t109::t110::t111::t112::t113::t114::t115::t116::t117::[]),h⟩ =
  gd t69 (
  opsP (xX s 4 wl k false) xg4_3 28 m0 ac (runK (xX s 4 wl k false) (bodyK s.P Try.f4) xk4_4) ⟨(t0::t1::t2::t3::t4::t5::t6::t7::t8::t9::t10::t11::t12::t13::t14::t15::t16::t17::t18::t19::t20::t21::t22::t23::t24::t25::t26::t27::t28::t29::t30::t31::t32::t33::t34::t35::t36::t37::t38::t39::t40::t41::t42::t43::t44::t45::t46::t47::t48::t49::t50::t51::t52::t53::t54::t55::t56::t57::t58::t59::t60::t61::t62::t63::t64::t65::t66::t67::t68::(V.lit (Value.bool true))::t70::t71::t72::t73::t74::t75::t76::t77::t78::t79::t80::t81::t82::t83::t84::t85::t86::t87::t88::t89::t90::t90::t92::t93::t94::t95::t96::t97::t98::t99::t100::t101::t102::t103::t104::t105::t106::t107::t108::t109::t110::t111::t112::t113::t114::t115::t116::t117::[]),h⟩) (
  opsP (xX s 4 wl k false) xg4_3 52 m0 ac (runK (xX s 4 wl k false) (bodyK s.P Try.f4) xk4_4) ⟨(t0::t1::t2::t3::t4::t5::t6::t7::t8::t9::t10::t11::t12::t13::t14::t15::t16::t17::t18::t19::t20::t21::t22::t23::t24::t25::t26::t27::t28::t29::t30::t31::t32::t33::t34::t35::t36::t37::t38::t39::t40::t41::t42::t43::t44::t45::t46::t47::t48::t49::t50::t51::t52::t53::t54::t55::t56::t57::t58::t59::t60::t61::t62::t63::t64::t65::t66::t67::t68::(V.lit (Value.bool false))::t70::t71::t72::t73::t74::t75::t76::t77::t78::t79::t80::t81::t82::t83::t84::t85::t86::t87::t88::t89::t90::uu::uu::uu::uu::uu::uu::uu::uu::uu::uu::uu::uu::uu::uu::uu::uu::uu::uu::uu::uu::uu::uu::uu::uu::uu::t116::t117::[]),h⟩) (
  opsP (xX s 4 wl k false) xg4_3 28 m0 ac (runK (xX s 4 wl k false) (bodyK s.P Try.f4) xk4_4) ⟨(t0::t1::t2::t3::t4::t5::t6::t7::t8::t9::t10::t11::t12::t13::t14::t15::t16::t17::t18::t19::t20::t21::t22::t23::t24::t25::t26::t27::t28::t29::t30::t31::t32::t33::t34::t35::t36::t37::t38::t39::t40::t41::t42::t43::t44::t45::t46::t47::t48::t49::t50::t51::t52::t53::t54::t55::t56::t57::t58::t59::t60::t61::t62::t63::t64::t65::t66::t67::t68::t69::t70::t71::t72::t73::t74::t75::t76::t77::t78::t79::t80::t81::t82::t83::t84::t85::t86::t87::t88::t89::t90::uu::t92::t93::t94::t95::t96::t97::t98::t99::t100::t101::t102::t103::t104::t105::t106::t107::t108::t109::t110::t111::t112::t113::t114::t115::t116::t117::[]),h⟩) :=
  (go_gdT1 xo4_17 xo4_17a rfl rfl rfl rfl (by kernel_rfl)
  (st_no (by kernel_rfl) (st_id (v := t90) (H := h) (by kernel_rfl)
  (by kernel_rfl)))
  (go_none1 (x := #[]) xo4_17 rfl rfl rfl rfl (by kernel_rfl)
  (go_none1 (x := #[]) xo4_17 rfl rfl rfl rfl (by kernel_rfl)
  (go_none1 (x := #[]) xo4_17 rfl rfl rfl rfl (by kernel_rfl)
  (go_skip1 xo4_17 rfl rfl rfl rfl (by kernel_rfl)
  (go_skip1 xo4_17 rfl rfl rfl rfl (by kernel_rfl)
  (go_none1 (x := #[]) xo4_17 rfl rfl rfl rfl (by kernel_rfl)
  (go_none1 (x := #[]) xo4_17 rfl rfl rfl rfl (by kernel_rfl)
  (go_none1 (x := #[]) xo4_17 rfl rfl rfl rfl (by kernel_rfl)
  (go_none1 (x := #[]) xo4_17 rfl rfl rfl rfl (by kernel_rfl)
  (go_none1 (x := #[]) xo4_17 rfl rfl rfl rfl (by kernel_rfl)
  (go_none1 (x := #[]) xo4_17 rfl rfl rfl rfl (by kernel_rfl)
  (go_none1 (x := #[]) xo4_17 rfl rfl rfl rfl (by kernel_rfl)
  (go_none1 (x := #[]) xo4_17 rfl rfl rfl rfl (by kernel_rfl)
  (go_none1 (x := #[]) xo4_17 rfl rfl rfl rfl (by kernel_rfl)
  (go_none1 (x := #[]) xo4_17 rfl rfl rfl rfl (by kernel_rfl)
  (go_none1 (x := #[]) xo4_17 rfl rfl rfl rfl (by kernel_rfl)
  (go_none1 (x := #[]) xo4_17 rfl rfl rfl rfl (by kernel_rfl)
  (go_none1 (x := #[]) xo4_17 rfl rfl rfl rfl (by kernel_rfl)
  (go_none1 (x := #[]) xo4_17 rfl rfl rfl rfl (by kernel_rfl)
  (go_none1 (x := #[]) xo4_17 rfl rfl rfl rfl (by kernel_rfl)
  (go_none1 (x := #[]) xo4_17 rfl rfl rfl rfl (by kernel_rfl)
  (go_none1 (x := #[]) xo4_17 rfl rfl rfl rfl (by kernel_rfl)
  (go_none1 (x := #[]) xo4_17 rfl rfl rfl rfl (by kernel_rfl)
  (go_skip1 xo4_17 rfl rfl rfl rfl (by kernel_rfl)
  (by kernel_rfl)))))))))))))))))))))))))
  (by kernel_rfl))
theorem xm4_19 (s : Sys) (k wl : Nat) (m0 : Nat) (ac : List Nat × List Nat) (t0 t1 t2 t3 t4 t5 t6 t7 t8 t9 t10 t11 t12 t13 t14 t15 t16 t17 t18 t19 t20 t21 t22 t23 t24 t25 t26 t27 t28 t29 t30 t31 t32 t33 t34 t35 t36 t37 t38 t39 t40 t41 t42 t43 t44 t45 t46 t47 t48 t49 t50 t51 t52 t53 t54 t55 t56 t57 t58 t59 t60 t61 t62 t63 t64 t65 t66 t67 t68 t69 t70 t71 t72 t73 t74 t75 t76 t77 t78 t79 t80 t81 t82 t83 t84 t85 t86 t87 t88 t89 t90 t91 t92 t93 t94 t95 t96 t97 t98 t99 t100 t101 t102 t103 t104 t105 t106 t107 t108 t109 t110 t111 t112 t113 t114 t115 t116 t117 : V) (h : Hp) : opsP (xX s 4 wl k false) xg4_3 16 m0 ac (runK (xX s 4 wl k false) (bodyK s.P Try.f4) xk4_4) ⟨(t0::t1::t2::t3::t4::t5::t6::t7::t8::t9::t10::t11::t12::t13::t14::t15::t16::t17::t18::t19::t20::t21::t22::t23::t24::t25::t26::t27::t28::t29::t30::t31::t32::t33::t34::t35::t36::t37::t38::t39::t40::t41::t42::t43::t44::t45::t46::t47::t48::t49::t50::t51::t52::t53::t54::t55::t56::t57::t58::t59::t60::t61::t62::t63::t64::t65::t66::t67::t68::t69::t70::t71::t72::t73::t74::t75::t76::t77::t78::t79::t80::t81::t82::t83::t84::t85::t86::t87::t88::t89::t90::t91::t92::t93::t94::t95::t96::t97::t98::t99::t100::t101::t102::t103::t104::t105::t106::t107::t108::t109::t110::t111::t112::t113::t114::t115::t116::t117::[]),h⟩ =
  gd t77 (
  stO m0 t78 (
  bm (vIndexAddr s.P 25 t78 t79 h) h fun v136 h137 =>
  stO m0 v136 (
  bm (vLoad s.P 26 v136 h137) h137 fun v138 h139 =>
  bm (vIndexAddr s.P 25 t1 t11 h139) h139 fun v140 h141 =>
  bm (vLoad s.P 26 v140 h141) h141 fun v142 h143 =>
  bm (vFieldAddr s.P 28 t5 2) h143 fun v144 h145 =>
  bm (vLoad s.P 3 v144 h145) h145 fun v146 h147 =>
  bp (callV (xX s 4 wl k false) true true (.fn (.func 29) [] []) [v142,v146] h147) fun v148 h149 =>
  bm (vBin s.P .eql 26 v138 v148) h149 fun v150 h151 =>
  opsP (xX s 4 wl k false) xg4_3 26 m0 ac (runK (xX s 4 wl k false) (bodyK s.P Try.f4) xk4_4) ⟨(t0::t1::t2::t3::t4::t5::t6::t7::t8::t9::t10::t11::t12::t13::t14::t15::t16::t17::t18::t19::t20::t21::t22::t23::t24::t25::t26::t27::t28::t29::t30::t31::t32::t33::t34::t35::t36::t37::t38::t39::t40::t41::t42::t43::t44::t45::t46::t47::t48::t49::t50::t51::t52::t53::t54::t55::t56::t57::t58::t59::t60::t61::t62::t63::t64::t65::t66::t67::t68::t69::t70::t71::t72::t73::t74::t75::t76::(V.lit (Value.bool true))::t78::t79::v136::v138::t1::t11::v140::v142::v144::v146::v148::v150::t90::t91::t92::t93::t94::t95::t96::t97::t98::t99::t100::t101::t102::t103::t104::t105::t106::t107::t108::t109::t110::t111::t112::t113::t114::t115::t116::t117::[]),h151⟩))) (
  opsP (xX s 4 wl k false) xg4_3 26 m0 ac (runK (xX s 4 wl k false) (bodyK s.P Try.f4) xk4_4) ⟨(t0::t1::t2::t3::t4::t5::t6::t7::t8::t9::t10::t11::t12::t13::t14::t15::t16::t17::t18::t19::t20::t21::t22::t23::t24::t25::t26::t27::t28::t29::t30::t31::t32::t33::t34::t35::t36::t37::t38::t39::t40::t41::t42::t43::t44::t45::t46::t47::t48::t49::t50::t51::t52::t53::t54::t55::t56::t57::t58::t59::t60::t61::t62::t63::t64::t65::t66::t67::t68::t69::t70::t71::t72::t73::t74::t75::t76::(V.lit (Value.bool false))::t78::t79::uu::uu::uu::uu::uu::uu::uu::uu::uu::uu::t90::t91::t92::t93::t94::t95::t96::t97::t98::t99::t100::t101::t102::t103::t104::t105::t106::t107::t108::t109::t110::t111::t112::t113::t114::t115::t116::t117::[]),h⟩) (
  opsP (xX s 4 wl k false) xg4_3 17 m0 ac (runK (xX s 4 wl k false) (bodyK s.P Try.f4) xk4_4) ⟨(t0::t1::t2::t3::t4::t5::t6::t7::t8::t9::t10::t11::t12::t13::t14::t15::t16::t17::t18::t19::t20::t21::t22::t23::t24::t25::t26::t27::t28::t29::t30::t31::t32::t33::t34::t35::t36::t37::t38::t39::t40::t41::t42::t43::t44::t45::t46::t47::t48::t49::t50::t51::t52::t53::t54::t55::t56::t57::t58::t59::t60::t61::t62::t63::t64::t65::t66::t67::t68::t69::t70::t71::t72::t73::t74::t75::t76::t77::t78::t79::uu::t81::t82::t83::t84::t85::t86::t87::t88::t89::t90::t91::t92::t93::t94::t95::t96::t97::t98::t99::t100::t101::t102::t103::t104::t105::t106::t107::t108::t109::t110::t111::t112::t113::t114::t115::t116::t117::[]),h⟩) :=
  (go_gdT1 xo4_17 xo4_17a rfl rfl rfl rfl (by kernel_rfl)
  (st_yes (by kernel_rfl) (st_bm (by kernel_rfl) fun v136 h137 =>
  (go_run1 xo4_17 xo4_17a rfl rfl rfl rfl (by kernel_rfl) (st_yes (by kernel_rfl) (st_bm (by kernel_rfl) fun v138 h139 =>
  (go_run1 xo4_17 xo4_17a rfl rfl rfl rfl (by kernel_rfl) (st_no (by kernel_rfl) (st_id (v := t1) (H := h139) (by kernel_rfl)
  (go_run1 xo4_17 xo4_17a rfl rfl rfl rfl (by kernel_rfl) (st_no (by kernel_rfl) (st_id (v := t11) (H := h139) (by kernel_rfl)
  (go_run1 xo4_17 xo4_17a rfl rfl rfl rfl (by kernel_rfl) (st_no (by kernel_rfl) (st_bm (by kernel_rfl) fun v140 h141 =>
  (go_run1 xo4_17 xo4_17a rfl rfl rfl rfl (by kernel_rfl) (st_no (by kernel_rfl) (st_bm (by kernel_rfl) fun v142 h143 =>
  (go_run1 xo4_17 xo4_17a rfl rfl rfl rfl (by kernel_rfl) (st_no (by kernel_rfl) (st_bm (by kernel_rfl) fun v144 h145 =>
  (go_run1 xo4_17 xo4_17a rfl rfl rfl rfl (by kernel_rfl) (st_no (by kernel_rfl) (st_bm (by kernel_rfl) fun v146 h147 =>
  (go_run1 xo4_17 xo4_17a rfl rfl rfl rfl (by kernel_rfl) (st_no (by kernel_rfl) (st_bp (by kernel_rfl) fun v148 h149 =>
  (go_run1 xo4_17 xo4_17a rfl rfl rfl rfl (by kernel_rfl) (st_no (by kernel_rfl) (st_bm (by kernel_rfl) fun v150 h151 =>
  (by kernel_rfl))))))))))))))))))))))))))))))
  (go_skip1 xo4_17 rfl rfl rfl rfl (by kernel_rfl)
  (go_skip1 xo4_17 rfl rfl rfl rfl (by kernel_rfl)
  (go_skip1 xo4_17 rfl rfl rfl rfl (by kernel_rfl)
  (go_skip1 xo4_17 rfl rfl rfl rfl (by kernel_rfl)
  (go_skip1 xo4_17 rfl rfl rfl rfl (by kernel_rfl)
  (go_skip1 xo4_17 rfl rfl rfl rfl (by kernel_rfl)
  (go_skip1 xo4_17 rfl rfl rfl rfl (by kernel_rfl)
  (go_skip1 xo4_17 rfl rfl rfl rfl (by kernel_rfl)
  (go_skip1 xo4_17 rfl rfl rfl rfl (by kernel_rfl)
  (by kernel_rfl))))))))))
  (by kernel_rfl))
theorem xm4_20 (s : Sys) (k wl : Nat) (m0 : Nat) (ac : List Nat × List Nat) (t0 t1 t2 t3 t4 t5 t6 t7 t8 t9 t10 t11 t12 t13 t14 t15 t16 t17 t18 t19 t20 t21 t22 t23 t24 t25 t26 t27 t28 t29 t30 t31 t32 t33 t34 t35 t36 t37 t38 t39 t40 t41 t42 t43 t44 t45 t46 t47 t48 t49 t50 t51 t52 t53 t54 t55 t56 t57 t58 t59 t60 t61 t62 t63 t64 t65 t66 t67 t68 t69 t70 t71 t72 t73 t74 t75 t76 t77 t78 t79 t80 t81 t82 t83 t84 t85 t86 t87 t88 t89 t90 t91 t92 t93 t94 t95 t96 t97 t98 t99 t100 t101 t102 t103 t104 t105 t106 t107 t108 t109 t110 t111 t112 t113 t114 t115 t116 t117 : V) (h : Hp) : opsP (xX s 4 wl k false) xg4_3 31 m0 ac (runK (xX s 4 wl k false) (bodyK s.P Try.f4) xk4_4) ⟨(t0::t1::t2::t3::t4::t5::t6::t7::t8::t9::t10::t11::t12::t13::t14::t15::t16::t17::t18::t19::t20::t21::t22::t23::t24::t25::t26::t27::t28::t29::t30::t31::t32::t33::t34::t35::t36::t37::t38::t39::t40::t41::t42::t43::t44::t45::t46::t47::t48::t49::t50::t51::t52::t53::t54::t55::t56::t57::t58::t59::t60::t61::t62::t63::t64::t65::t66::t67::t68::t69::t70::t71::t72::t73::t74::t75::t76::t77::t78::t79::t80::t81::t82::t83::t84::t85::t86::t87::t88::t89::t90::t91::t92::t93::t94::t95::t96::t97::t98::t99::t100::t101::t102::t103::t104::t105::t106::t107::t108::t109::t110::t111::t112::t113::t114::t115::t116::t117::[]),h⟩ =
  gd t69 (
  bm (vPick t91 t94 (V.lit (Value.bool false))) h fun v152 h153 =>
  opsP (xX s 4 wl k false) xg4_3 33 m0 ac (runK (xX s 4 wl k false) (bodyK s.P Try.f4) xk4_4) ⟨(t0::t1::t2::t3::t4::t5::t6::t7::t8::t9::t10::t11::t12::t13::t14::t15::t16::t17::t18::t19::t20::t21::t22::t23::t24::t25::t26::t27::t28::t29::t30::t31::t32::t33::t34::t35::t36::t37::t38::t39::t40::t41::t42::t43::t44::t45::t46::t47::t48::t49::t50::t51::t52::t53::t54::t55::t56::t57::t58::t59::t60::t61::t62::t63::t64::t65::t66::t67::t68::(V.lit (Value.bool true))::t70::t71::t72::t73::t74::t75::t76::t77::t78::t79::t80::t81::t82::t83::t84::t85::t86::t87::t88::t89::t90::t91::t92::t93::t94::v152::v152::t97::t98::t99::t100::t101::t102::t103::t104::t105::t106::t107::t108::t109::t110::t111::t112::t113::t114::t115::t116::t117::[]),h153⟩) (
  opsP (xX s 4 wl k false) xg4_3 52 m0 ac (runK (xX s 4 wl k false) (bodyK s.P Try.f4) xk4_4) ⟨(t0::t1::t2::t3::t4::t5::t6::t7::t8::t9::t10::t11::t12::t13::t14::t15::t16::t17::t18::t19::t20::t21::t22::t23::t24::t25::t26::t27::t28::t29::t30::t31::t32::t33::t34::t35::t36::t37::t38::t39::t40::t41::t42::t43::t44::t45::t46::t47::t48::t49::t50::t51::t52::t53::t54::t55::t56::t57::t58::t59::t60::t61::t62::t63::t64::t65::t66::t67::t68::(V.lit (Value.bool false))::t70::t71::t72::t73::t74::t75::t76::t77::t78::t79::t80::t81::t82::t83::t84::t85::t86::t87::t88::t89::t90::t91::t92::t93::t94::uu::uu::uu::uu::uu::uu::uu::uu::uu::uu::uu::uu::uu::uu::uu::uu::uu::uu::uu::uu::uu::t116::t117::[]),h⟩) (
  opsP (xX s 4 wl k false) xg4_3 32 m0 ac (runK (xX s 4 wl k false) (bodyK s.P Try.f4) xk4_4) ⟨(t0::t1::t2::t3::t4::t5::t6::t7::t8::t9::t10::t11::t12::t13::t14::t15::t16::t17::t18::t19::t20::t21::t22::t23::t24::t25::t26::t27::t28::t29::t30::t31::t32::t33::t34::t35::t36::t37::t38::t39::t40::t41::t42::t43::t44::t45::t46::t47::t48::t49::t50::t51::t52::t53::t54::t55::t56::t57::t58::t59::t60::t61::t62::t63::t64::t65::t66::t67::t68::t69::t70::t71::t72::t73::t74::t75::t76::t77::t78::t79::t80::t81::t82::t83::t84::t85::t86::t87::t88::t89::t90::t91::t92::t93::t94::uu::t96::t97::t98::t99::t100::t101::t102::t103::t104::t105::t106::t107::t108::t109::t110::t111::t112::t113::t114::t115::t116::t117::[]),h⟩) :=
  (go_gdT1 xo4_17 xo4_17a rfl rfl rfl rfl (by kernel_rfl)
  (st_no (by kernel_rfl) (st_bm (by kernel_rfl) fun v152 h153 =>
  (go_run1 xo4_17 xo4_17a rfl rfl rfl rfl (by kernel_rfl) (st_no (by kernel_rfl) (st_id (v := v152) (H := h153) (by kernel_rfl)
  (by kernel_rfl))))))
  (go_skip1 xo4_17 rfl rfl rfl rfl (by kernel_rfl)
  (go_none1 (x := #[]) xo4_17 rfl rfl rfl rfl (by kernel_rfl)
  (go_none1 (x := #[]) xo4_17 rfl rfl rfl rfl (by kernel_rfl)
  (go_none1 (x := #[]) xo4_17 rfl rfl rfl rfl (by kernel_rfl)
  (go_none1 (x := #[]) xo4_17 rfl rfl rfl rfl (by kernel_rfl)
  (go_none1 (x := #[]) xo4_17 rfl rfl rfl rfl (by kernel_rfl)
  (go_none1 (x := #[]) xo4_17 rfl rfl rfl rfl (by kernel_rfl)
  (go_none1 (x := #[]) xo4_17 rfl rfl rfl rfl (by kernel_rfl)
  (go_none1 (x := #[]) xo4_17 rfl rfl rfl rfl (by kernel_rfl)
  (go_none1 (x := #[]) xo4_17 rfl rfl rfl rfl (by kernel_rfl)
  (go_none1 (x := #[]) xo4_17 rfl rfl rfl rfl (by kernel_rfl)
  (go_none1 (x := #[]) xo4_17 rfl rfl rfl rfl (by kernel_rfl)
  (go_none1 (x := #[]) xo4_17 rfl rfl rfl rfl (by kernel_rfl)
  (go_none1 (x := #[]) xo4_17 rfl rfl rfl rfl (by kernel_rfl)
  (go_none1 (x := #[]) xo4_17 rfl rfl rfl rfl (by kernel_rfl)
  (go_none1 (x := #[]) xo4_17 rfl rfl rfl rfl (by kernel_rfl)
  (go_none1 (x := #[]) xo4_17 rfl rfl rfl rfl (by kernel_rfl)
  (go_none1 (x := #[]) xo4_17 rfl rfl rfl rfl (by kernel_rfl)
  (go_none1 (x := #[]) xo4_17 rfl rfl rfl rfl (by kernel_rfl)
  (go_skip1 xo4_17 rfl rfl rfl rfl (by kernel_rfl)
  (by kernel_rfl)))))))))))))))))))))
  (by kernel_rfl))
theorem xm4_21 (s : Sys) (k wl : Nat) (m0 : Nat) (ac : List Nat × List Nat) (t0 t1 t2 t3 t4 t5 t6 t7 t8 t9 t10 t11 t12 t13 t14 t15 t16 t17 t18 t19 t20 t21 t22 t23 t24 t25 t26 t27 t28 t29 t30 t31 t32 t33 t34 t35 t36 t37 t38 t39 t40 t41 t42 t43 t44 t45 t46 t47 t48 t49 t50 t51 t52 t53 t54 t55 t56 t57 t58 t59 t60 t61 t62 t63 t64 t65 t66 t67 t68 t69 t70 t71 t72 t73 t74 t75 t76 t77 t78 t79 t80 t81 t82 t83 t84 t85 t86 t87 t88 t89 t90 t91 t92 t93 t94 t95 t96 t97 t98 t99 t100 t101 t102 t103 t104 t105 t106 t107 t108 t109 t110 t111 t112 t113 t114 t115 t116 t117 : V) (h : Hp) : opsP (xX s 4 wl k false) xg4_3 29 m0 ac (runK (xX s 4 wl k false) (bodyK s.P Try.f4) xk4_4) ⟨(t0::t1::t2::t3::t4::t5::t6::t7::t8::t9::t10::t11::t12::t13::t14::t15::t16::t17::t18::t19::t20::t21::t22::t23::t24::t25::t26::t27::t28::t29::t30::t31::t32::t33::t34::t35::t36::t37::t38::t39::t40::t41::t42::t43::t44::t45::t46::t47::t48::t49::t50::t51::t52::t53::t54::t55::t56::t57::t58::t59::t60::t61::t62::t63::t64::t65::t66::t67::t68::t69::t70::t71::t72::t73::t74::t75::t76::t77::t78::t79::t80::t81::t82::t83::t84::t85::t86::t87::t88::t89::t90::t91::t92::t93::t94::t95::t96::t97::t98::t99::t100::t101::t102::t103::t104::t105::t106::t107::t108::t109::t110::t111::t112::t113::t114::t115::t116::t117::[]),h⟩ =
  gd t91 (
  bm (vLoad s.P 3 t92 h) h fun v154 h155 =>
  bm (vBin s.P .eql 3 v154 (V.lit (Value.int .i64 3))) h155 fun v156 h157 =>
  opsP (xX s 4 wl k false) xg4_3 31 m0 ac (runK (xX s 4 wl k false) (bodyK s.P Try.f4) xk4_4) ⟨(t0::t1::t2::t3::t4::t5::t6::t7::t8::t9::t10::t11::t12::t13::t14::t15::t16::t17::t18::t19::t20::t21::t22::t23::t24::t25::t26::t27::t28::t29::t30::t31::t32::t33::t34::t35::t36::t37::t38::t39::t40::t41::t42::t43::t44::t45::t46::t47::t48::t49::t50::t51::t52::t53::t54::t55::t56::t57::t58::t59::t60::t61::t62::t63::t64::t65::t66::t67::t68::t69::t70::t71::t72::t73::t74::t75::t76::t77::t78::t79::t80::t81::t82::t83::t84::t85::t86::t87::t88::t89::t90::(V.lit (Value.bool true))::t92::v154::v156::t95::t96::t97::t98::t99::t100::t101::t102::t103::t104::t105::t106::t107::t108::t109::t110::t111::t112::t113::t114::t115::t116::t117::[]),h157⟩) (
  opsP (xX s 4 wl k false) xg4_3 31 m0 ac (runK (xX s 4 wl k false) (bodyK s.P Try.f4) xk4_4) ⟨(t0::t1::t2::t3::t4::t5::t6::t7::t8::t9::t10::t11::t12::t13::t14::t15::t16::t17::t18::t19::t20::t21::t22::t23::t24::t25::t26::t27::t28::t29::t30::t31::t32::t33::t34::t35::t36::t37::t38::t39::t40::t41::t42::t43::t44::t45::t46::t47::t48::t49::t50::t51::t52::t53::t54::t55::t56::t57::t58::t59::t60::t61::t62::t63::t64::t65::t66::t67::t68::t69::t70::t71::t72::t73::t74::t75::t76::t77::t78::t79::t80::t81::t82::t83::t84::t85::t86::t87::t88::t89::t90::(V.lit (Value.bool false))::t92::uu::uu::t95::t96::t97::t98::t99::t100::t101::t102::t103::t104::t105::t106::t107::t108::t109::t110::t111::t112::t113::t114::t115::t116::t117::[]),h⟩) (
  opsP (xX s 4 wl k false) xg4_3 30 m0 ac (runK (xX s 4 wl k false) (bodyK s.P Try.f4) xk4_4) ⟨(t0::t1::t2::t3::t4::t5::t6::t7::t8::t9::t10::t11::t12::t13::t14::t15::t16::t17::t18::t19::t20::t21::t22::t23::t24::t25::t26::t27::t28::t29::t30::t31::t32::t33::t34::t35::t36::t37::t38::t39::t40::t41::t42::t43::t44::t45::t46::t47::t48::t49::t50::t51::t52::t53::t54::t55::t56::t57::t58::t59::t60::t61::t62::t63::t64::t65::t66::t67::t68::t69::t70::t71::t72::t73::t74::t75::t76::t77::t78::t79::t80::t81::t82::t83::t84::t85::t86::t87::t88::t89::t90::t91::t92::uu::t94::t95::t96::t97::t98::t99::t100::t101::t102::t103::t104::t105::t106::t107::t108::t109::t110::t111::t112::t113::t114::t115::t116::t117::[]),h⟩) :=
  (go_gdT1 xo4_17 xo4_17a rfl rfl rfl rfl (by kernel_rfl)
  (st_no (by kernel_rfl) (st_bm (by kernel_rfl) fun v154 h155 =>
  (go_run1 xo4_17 xo4_17a rfl rfl rfl rfl (by kernel_rfl) (st_no (by kernel_rfl) (st_bm (by kernel_rfl) fun v156 h157 =>
  (by kernel_rfl))))))
  (go_skip1 xo4_17 rfl rfl rfl rfl (by kernel_rfl)
  (by kernel_rfl))
  (by kernel_rfl))
theorem xm4_22 (s : Sys) (k wl : Nat) (m0 : Nat) (ac : List Nat × List Nat) (t0 t1 t2 t3 t4 t5 t6 t7 t8 t9 t10 t11 t12 t13 t14 t15 t16 t17 t18 t19 t20 t21 t22 t23 t24 t25 t26 t27 t28 t29 t30 t31 t32 t33 t34 t35 t36 t37 t38 t39 t40 t41 t42 t43 t44 t45 t46 t47 t48 t49 t50 t51 t52 t53 t54 t55 t56 t57 t58 t59 t60 t61 t62 t63 t64 t65 t66 t67 t68 t69 t70 t71 t72 t73 t74 t75 t76 t77 t78 t79 t80 t81 t82 t83 t84 t85 t86 t87 t88 t89 t90 t91 t92 t93 t94 t95 t96 t97 t98 t99 t100 t101 t102 t103 t104 t105 t106 t107 t108 t109 t110 t111 t112 t113 t114 t115 t116 t117 : V) (h : Hp) : opsP (xX s 4 wl k false) xg4_3 17 m0 ac (runK (xX s 4 wl k false) (bodyK s.P Try.f4) xk4_4) ⟨(t0::t1::t2::t3::t4::t5::t6::t7::t8::t9::t10::t11::t12::t13::t14::t15::t16::t17::t18::t19::t20::t21::t22::t23::t24::t25::t26::t27::t28::t29::t30::t31::t32::t33::t34::t35::t36::t37::t38::t39::t40::t41::t42::t43::t44::t45::t46::t47::t48::t49::t50::t51::t52::t53::t54::t55::t56::t57::t58::t59::t60::t61::t62::t63::t64::t65::t66::t67::t68::t69::t70::t71::t72::t73::t74::t75::t76::t77::t78::t79::t80::t81::t82::t83::t84::t85::t86::t87::t88::t89::t90::t91::t92::t93::t94::t95::t96::t97::t98::t99::t100::t101::t102::t103::t104::t105::t106::t107::t108::t109::t110::t111::t112::t113::t114::t115::t116::t117::[]),h⟩ =
  gd t77 (
  stO m0 t80 (
  bm (vLoad s.P 26 t80 h) h fun v158 h159 =>
  bm (vIndexAddr s.P 25 t1 t11 h159) h159 fun v160 h161 =>
  bm (vLoad s.P 26 v160 h161) h161 fun v162 h163 =>
  bm (vFieldAddr s.P 28 t5 2) h163 fun v164 h165 =>
  bm (vLoad s.P 3 v164 h165) h165 fun v166 h167 =>
  bp (callV (xX s 4 wl k false) true true (.fn (.func 29) [] []) [v162,v166] h167) fun v168 h169 =>
  bm (vBin s.P .eql 26 v158 v168) h169 fun v170 h171 =>
  opsP (xX s 4 wl k false) xg4_3 26 m0 ac (runK (xX s 4 wl k false) (bodyK s.P Try.f4) xk4_4) ⟨(t0::t1::t2::t3::t4::t5::t6::t7::t8::t9::t10::t11::t12::t13::t14::t15::t16::t17::t18::t19::t20::t21::t22::t23::t24::t25::t26::t27::t28::t29::t30::t31::t32::t33::t34::t35::t36::t37::t38::t39::t40::t41::t42::t43::t44::t45::t46::t47::t48::t49::t50::t51::t52::t53::t54::t55::t56::t57::t58::t59::t60::t61::t62::t63::t64::t65::t66::t67::t68::t69::t70::t71::t72::t73::t74::t75::t76::(V.lit (Value.bool true))::t78::t79::t80::v158::t1::t11::v160::v162::v164::v166::v168::v170::t90::t91::t92::t93::t94::t95::t96::t97::t98::t99::t100::t101::t102::t103::t104::t105::t106::t107::t108::t109::t110::t111::t112::t113::t114::t115::t116::t117::[]),h171⟩)) (
  opsP (xX s 4 wl k false) xg4_3 26 m0 ac (runK (xX s 4 wl k false) (bodyK s.P Try.f4) xk4_4) ⟨(t0::t1::t2::t3::t4::t5::t6::t7::t8::t9::t10::t11::t12::t13::t14::t15::t16::t17::t18::t19::t20::t21::t22::t23::t24::t25::t26::t27::t28::t29::t30::t31::t32::t33::t34::t35::t36::t37::t38::t39::t40::t41::t42::t43::t44::t45::t46::t47::t48::t49::t50::t51::t52::t53::t54::t55::t56::t57::t58::t59::t60::t61::t62::t63::t64::t65::t66::t67::t68::t69::t70::t71::t72::t73::t74::t75::t76::(V.lit (Value.bool false))::t78::t79::t80::uu::uu::uu::uu::uu::uu::uu::uu::uu::t90::t91::t92::t93::t94::t95::t96::t97::t98::t99::t100::t101::t102::t103::t104::t105::t106::t107::t108::t109::t110::t111::t112::t113::t114::t115::t116::t117::[]),h⟩) (
  opsP (xX s 4 wl k false) xg4_3 18 m0 ac (runK (xX s 4 wl k false) (bodyK s.P Try.f4) xk4_4) ⟨(t0::t1::t2::t3::t4::t5::t6::t7::t8::t9::t10::t11::t12::t13::t14::t15::t16::t17::t18::t19::t20::t21::t22::t23::t24::t25::t26::t27::t28::t29::t30::t31::t32::t33::t34::t35::t36::t37::t38::t39::t40::t41::t42::t43::t44::t45::t46::t47::t48::t49::t50::t51::t52::t53::t54::t55::t56::t57::t58::t59::t60::t61::t62::t63::t64::t65::t66::t67::t68::t69::t70::t71::t72::t73::t74::t75::t76::t77::t78::t79::t80::uu::t82::t83::t84::t85::t86::t87::t88::t89::t90::t91::t92::t93::t94::t95::t96::t97::t98::t99::t100::t101::t102::t103::t104::t105::t106::t107::t108::t109::t110::t111::t112::t113::t114::t115::t116::t117::[]),h⟩) :=
  (go_gdT1 xo4_17 xo4_17a rfl rfl rfl rfl (by kernel_rfl)
  (st_yes (by kernel_rfl) (st_bm (by kernel_rfl) fun v158 h159 =>
  (go_run1 xo4_17 xo4_17a rfl rfl rfl rfl (by kernel_rfl) (st_no (by kernel_rfl) (st_id (v := t1) (H := h159) (by kernel_rfl)
  (go_run1 xo4_17 xo4_17a rfl rfl rfl rfl (by kernel_rfl) (st_no (by kernel_rfl) (st_id (v := t11) (H := h159) (by kernel_rfl)
  (go_run1 xo4_17 xo4_17a rfl rfl rfl rfl (by kernel_rfl) (st_no (by kernel_rfl) (st_bm (by kernel_rfl) fun v160 h161 =>
  (go_run1 xo4_17 xo4_17a rfl rfl rfl rfl (by kernel_rfl) (st_no (by kernel_rfl) (st_bm (by kernel_rfl) fun v162 h163 =>
  (go_run1 xo4_17 xo4_17a rfl rfl rfl rfl (by kernel_rfl) (st_no (by kernel_rfl) (st_bm (by kernel_rfl) fun v164 h165 =>
  (go_run1 xo4_17 xo4_17a rfl rfl rfl rfl (by kernel_rfl) (st_no (by kernel_rfl) (st_bm (by kernel_rfl) fun v166 h167 =>
  (go_run1 xo4_17 xo4_17a rfl rfl rfl rfl (by kernel_rfl) (st_no (by kernel_rfl) (st_bp (by kernel_rfl) fun v168 h169 =>
  (go_run1 xo4_17 xo4_17a rfl rfl rfl rfl (by kernel_rfl) (st_no (by kernel_rfl) (st_bm (by kernel_rfl) fun v170 h171 =>
  (by kernel_rfl)))))))))))))))))))))))))))
  (go_skip1 xo4_17 rfl rfl rfl rfl (by kernel_rfl)
  (go_skip1 xo4_17 rfl rfl rfl rfl (by kernel_rfl)
  (go_skip1 xo4_17 rfl rfl rfl rfl (by kernel_rfl)
  (go_skip1 xo4_17 rfl rfl rfl rfl (by kernel_rfl)
  (go_skip1 xo4_17 rfl rfl rfl rfl (by kernel_rfl)
  (go_skip1 xo4_17 rfl rfl rfl rfl (by kernel_rfl)
  (go_skip1 xo4_17 rfl rfl rfl rfl (by kernel_rfl)
  (go_skip1 xo4_17 rfl rfl rfl rfl (by kernel_rfl)
  (by kernel_rfl)))))))))
  (by kernel_rfl))
theorem xm4_23 (s : Sys) (k wl : Nat) (m0 : Nat) (ac : List Nat × List Nat) (t0 t1 t2 t3 t4 t5 t6 t7 t8 t9 t10 t11 t12 t13 t14 t15 t16 t17 t18 t19 t20 t21 t22 t23 t24 t25 t26 t27 t28 t29 t30 t31 t32 t33 t34 t35 t36 t37 t38 t39 t40 t41 t42 t43 t44 t45 t46 t47 t48 t49 t50 t51 t52 t53 t54 t55 t56 t57 t58 t59 t60 t61 t62 t63 t64 t65 t66 t67 t68 t69 t70 t71 t72 t73 t74 t75 t76 t77 t78 t79 t80 t81 t82 t83 t84 t85 t86 t87 t88 t89 t90 t91 t92 t93 t94 t95 t96 t97 t98 t99 t100 t101 t102 t103 t104 t105 t106 t107 t108 t109 t110 t111 t112 t113 t114 t115 t116 t117 : V) (h : Hp) : opsP (xX s 4 wl k false) xg4_3 33 m0 ac (runK (xX s 4 wl k false) (bodyK s.P Try.f4) xk4_4) ⟨(t0::t1::t2::t3::t4::t5::t6::t7::t8::t9::t10::t11::t12::t13::t14::t15::t16::t17::t18::t19::t20::t21::t22::t23::t24::t25::t26::t27::t28::t29::t30::t31::t32::t33::t34::t35::t36::t37::t38::t39::t40::t41::t42::t43::t44::t45::t46::t47::t48::t49::t50::t51::t52::t53::t54::t55::t56::t57::t58::t59::t60::t61::t62::t63::t64::t65::t66::t67::t68::t69::t70::t71::t72::t73::t74::t75::t76::t77::t78::t79::t80::t81::t82::t83::t84::t85::t86::t87::t88::t89::t90::t91::t92::t93::t94::t95::t96::t97::t98::t99::t100::t101::t102::t103::t104::t105::t106::t107::t108::t109::t110::t111::t112::t113::t114::t115::t116::t117::[]),h⟩ =
  gd t96 (
  opsP (xX s 4 wl k false) xg4_3 51 m0 ac (runK (xX s 4 wl k false) (bodyK s.P Try.f4) xk4_4) ⟨(t0::t1::t2::t3::t4::t5::t6::t7::t8::t9::t10::t11::t12::t13::t14::t15::t16::t17::t18::t19::t20::t21::t22::t23::t24::t25::t26::t27::t28::t29::t30::t31::t32::t33::t34::t35::t36::t37::t38::t39::t40::t41::t42::t43::t44::t45::t46::t47::t48::t49::t50::t51::t52::t53::t54::t55::t56::t57::t58::t59::t60::t61::t62::t63::t64::t65::t66::t67::t68::t69::t70::t71::t72::t73::t74::t75::t76::t77::t78::t79::t80::t81::t82::t83::t84::t85::t86::t87::t88::t89::t90::t91::t92::t93::t94::t95::(V.lit (Value.bool true))::uu::uu::uu::uu::uu::uu::uu::uu::uu::uu::uu::uu::uu::uu::uu::uu::uu::uu::t115::t116::t117::[]),h⟩) (
  bm (vFieldAddr s.P 28 t5 1) h fun v172 h173 =>
  bm (vLoad s.P 3 v172 h173) h173 fun v174 h175 =>
  bm (vBin s.P .eql 3 v174 (V.lit (Value.int .i64 4))) h175 fun v176 h177 =>
  opsP (xX s 4 wl k false) xg4_3 37 m0 ac (runK (xX s 4 wl k false) (bodyK s.P Try.f4) xk4_4) ⟨(t0::t1::t2::t3::t4::t5::t6::t7::t8::t9::t10::t11::t12::t13::t14::t15::t16::t17::t18::t19::t20::t21::t22::t23::t24::t25::t26::t27::t28::t29::t30::t31::t32::t33::t34::t35::t36::t37::t38::t39::t40::t41::t42::t43::t44::t45::t46::t47::t48::t49::t50::t51::t52::t53::t54::t55::t56::t57::t58::t59::t60::t61::t62::t63::t64::t65::t66::t67::t68::t69::t70::t71::t72::t73::t74::t75::t76::t77::t78::t79::t80::t81::t82::t83::t84::t85::t86::t87::t88::t89::t90::t91::t92::t93::t94::t95::(V.lit (Value.bool false))::v172::v174::v176::v176::t101::t102::t103::t104::t105::t106::t107::t108::t109::t110::t111::t112::t113::t114::t115::t116::t117::[]),h177⟩) (
  opsP (xX s 4 wl k false) xg4_3 34 m0 ac (runK (xX s 4 wl k false) (bodyK s.P Try.f4) xk4_4) ⟨(t0::t1::t2::t3::t4::t5::t6::t7::t8::t9::t10::t11::t12::t13::t14::t15::t16::t17::t18::t19::t20::t21::t22::t23::t24::t25::t26::t27::t28::t29::t30::t31::t32::t33::t34::t35::t36::t37::t38::t39::t40::t41::t42::t43::t44::t45::t46::t47::t48::t49::t50::t51::t52::t53::t54::t55::t56::t57::t58::t59::t60::t61::t62::t63::t64::t65::t66::t67::t68::t69::t70::t71::t72::t73::t74::t75::t76::t77::t78::t79::t80::t81::t82::t83::t84::t85::t86::t87::t88::t89::t90::t91::t92::t93::t94::t95::t96::uu::t98::t99::t100::t101::t102::t103::t104::t105::t106::t107::t108::t109::t110::t111::t112::t113::t114::t115::t116::t117::[]),h⟩) :=
  (go_gdF1 xo4_17 xo4_17a rfl rfl rfl rfl (by kernel_rfl)
  (go_skip1 xo4_17 rfl rfl rfl rfl (by kernel_rfl)
  (go_skip1 xo4_17 rfl rfl rfl rfl (by kernel_rfl)
  (go_skip1 xo4_17 rfl rfl rfl rfl (by kernel_rfl)
  (go_none1 (x := #[]) xo4_17 rfl rfl rfl rfl (by kernel_rfl)
  (go_none1 (x := #[]) xo4_17 rfl rfl rfl rfl (by kernel_rfl)
  (go_none1 (x := #[]) xo4_17 rfl rfl rfl rfl (by kernel_rfl)
  (go_none1 (x := #[]) xo4_17 rfl rfl rfl rfl (by kernel_rfl)
  (go_none1 (x := #[]) xo4_17 rfl rfl rfl rfl (by kernel_rfl)
  (go_none1 (x := #[]) xo4_17 rfl rfl rfl rfl (by kernel_rfl)
  (go_skip1 xo4_17 rfl rfl rfl rfl (by kernel_rfl)
  (go_skip1 xo4_17 rfl rfl rfl rfl (by kernel_rfl)
  (go_none1 (x := #[]) xo4_17 rfl rfl rfl rfl (by kernel_rfl)
  (go_none1 (x := #[]) xo4_17 rfl rfl rfl rfl (by kernel_rfl)
  (go_none1 (x := #[]) xo4_17 rfl rfl rfl rfl (by kernel_rfl)
  (go_none1 (x := #[]) xo4_17 rfl rfl rfl rfl (by kernel_rfl)
  (go_none1 (x := #[]) xo4_17 rfl rfl rfl rfl (by kernel_rfl)
  (go_skip1 xo4_17 rfl rfl rfl rfl (by kernel_rfl)
  (by kernel_rfl))))))))))))))))))
  (st_no (by kernel_rfl) (st_bm (by kernel_rfl) fun v172 h173 =>
  (go_run1 xo4_17 xo4_17a rfl rfl rfl rfl (by kernel_rfl) (st_no (by kernel_rfl) (st_bm (by kernel_rfl) fun v174 h175 =>
  (go_run1 xo4_17 xo4_17a rfl rfl rfl rfl (by kernel_rfl) (st_no (by kernel_rfl) (st_bm (by kernel_rfl) fun v176 h177 =>
  (go_run1 xo4_17 xo4_17a rfl rfl rfl rfl (by kernel_rfl) (st_no (by kernel_rfl) (st_id (v := v176) (H := h177) (by kernel_rfl)
  (by kernel_rfl))))))))))))
  (by kernel_rfl))
theorem xm4_24 (s : Sys) (k wl : Nat) (m0 : Nat) (ac : List Nat × List Nat) (t0 t1 t2 t3 t4 t5 t6 t7 t8 t9 t10 t11 t12 t13 t14 t15 t16 t17 t18 t19 t20 t21 t22 t23 t24 t25 t26 t27 t28 t29 t30 t31 t32 t33 t34 t35 t36 t37 t38 t39 t40 t41 t42 t43 t44 t45 t46 t47 t48 t49 t50 t51 t52 t53 t54 t55 t56 t57 t58 t59 t60 t61 t62 t63 t64 t65 t66 t67 t68 t69 t70 t71 t72 t73 t74 t75 t76 t77 t78 t79 t80 t81 t82 t83 t84 t85 t86 t87 t88 t89 t90 t91 t92 t93 t94 t95 t96 t97 t98 t99 t100 t101 t102 t103 t104 t105 t106 t107 t108 t109 t110 t111 t112 t113 t114 t115 t116 t117 : V) (h : Hp) : opsP (xX s 4 wl k false) xg4_3 32 m0 ac (runK (xX s 4 wl k false) (bodyK s.P Try.f4) xk4_4) ⟨(t0::t1::t2::t3::t4::t5::t6::t7::t8::t9::t10::t11::t12::t13::t14::t15::t16::t17::t18::t19::t20::t21::t22::t23::t24::t25::t26::t27::t28::t29::t30::t31::t32::t33::t34::t35::t36::t37::t38::t39::t40::t41::t42::t43::t44::t45::t46::t47::t48::t49::t50::t51::t52::t53::t54::t55::t56::t57::t58::t59::t60::t61::t62::t63::t64::t65::t66::t67::t68::t69::t70::t71::t72::t73::t74::t75::t76::t77::t78::t79::t80::t81::t82::t83::t84::t85::t86::t87::t88::t89::t90::t91::t92::t93::t94::t95::t96::t97::t98::t99::t100::t101::t102::t103::t104::t105::t106::t107::t108::t109::t110::t111::t112::t113::t114::t115::t116::t117::[]),h⟩ =
  gd t69 (
  opsP (xX s 4 wl k false) xg4_3 33 m0 ac (runK (xX s 4 wl k false) (bodyK s.P Try.f4) xk4_4) ⟨(t0::t1::t2::t3::t4::t5::t6::t7::t8::t9::t10::t11::t12::t13::t14::t15::t16::t17::t18::t19::t20::t21::t22::t23::t24::t25::t26::t27::t28::t29::t30::t31::t32::t33::t34::t35::t36::t37::t38::t39::t40::t41::t42::t43::t44::t45::t46::t47::t48::t49::t50::t51::t52::t53::t54::t55::t56::t57::t58::t59::t60::t61::t62::t63::t64::t65::t66::t67::t68::(V.lit (Value.bool true))::t70::t71::t72::t73::t74::t75::t76::t77::t78::t79::t80::t81::t82::t83::t84::t85::t86::t87::t88::t89::t90::t91::t92::t93::t94::t95::t95::t97::t98::t99::t100::t101::t102::t103::t104::t105::t106::t107::t108::t109::t110::t111::t112::t113::t114::t115::t116::t117::[]),h⟩) (
  opsP (xX s 4 wl k false) xg4_3 52 m0 ac (runK (xX s 4 wl k false) (bodyK s.P Try.f4) xk4_4) ⟨(t0::t1::t2::t3::t4::t5::t6::t7::t8::t9::t10::t11::t12::t13::t14::t15::t16::t17::t18::t19::t20::t21::t22::t23::t24::t25::t26::t27::t28::t29::t30::t31::t32::t33::t34::t35::t36::t37::t38::t39::t40::t41::t42::t43::t44::t45::t46::t47::t48::t49::t50::t51::t52::t53::t54::t55::t56::t57::t58::t59::t60::t61::t62::t63::t64::t65::t66::t67::t68::(V.lit (Value.bool false))::t70::t71::t72::t73::t74::t75::t76::t77::t78::t79::t80::t81::t82::t83::t84::t85::t86::t87::t88::t89::t90::t91::t92::t93::t94::t95::uu::uu::uu::uu::uu::uu::uu::uu::uu::uu::uu::uu::uu::uu::uu::uu::uu::uu::uu::uu::t116::t117::[]),h⟩) (
  opsP (xX s 4 wl k false) xg4_3 33 m0 ac (runK (xX s 4 wl k false) (bodyK s.P Try.f4) xk4_4) ⟨(t0::t1::t2::t3::t4::t5::t6::t7::t8::t9::t10::t11::t12::t13::t14::t15::t16::t17::t18::t19::t20::t21::t22::t23::t24::t25::t26::t27::t28::t29::t30::t31::t32::t33::t34::t35::t36::t37::t38::t39::t40::t41::t42::t43::t44::t45::t46::t47::t48::t49::t50::t51::t52::t53::t54::t55::t56::t57::t58::t59::t60::t61::t62::t63::t64::t65::t66::t67::t68::t69::t70::t71::t72::t73::t74::t75::t76::t77::t78::t79::t80::t81::t82::t83::t84::t85::t86::t87::t88::t89::t90::t91::t92::t93::t94::t95::uu::t97::t98::t99::t100::t101::t102::t103::t104::t105::t106::t107::t108::t109::t110::t111::t112::t113::t114::t115::t116::t117::[]),h⟩) :=
  (go_gdT1 xo4_17 xo4_17a rfl rfl rfl rfl (by kernel_rfl)
  (st_no (by kernel_rfl) (st_id (v := t95) (H := h) (by kernel_rfl)
  (by kernel_rfl)))
  (go_none1 (x := #[]) xo4_17 rfl rfl rfl rfl (by kernel_rfl)
  (go_none1 (x := #[]) xo4_17 rfl rfl rfl rfl (by kernel_rfl)
  (go_none1 (x := #[]) xo4_17 rfl rfl rfl rfl (by kernel_rfl)
  (go_none1 (x := #[]) xo4_17 rfl rfl rfl rfl (by kernel_rfl)
  (go_none1 (x := #[]) xo4_17 rfl rfl rfl rfl (by kernel_rfl)
  (go_none1 (x := #[]) xo4_17 rfl rfl rfl rfl (by kernel_rfl)
  (go_none1 (x := #[]) xo4_17 rfl rfl rfl rfl (by kernel_rfl)
  (go_none1 (x := #[]) xo4_17 rfl rfl rfl rfl (by kernel_rfl)
  (go_none1 (x := #[]) xo4_17 rfl rfl rfl rfl (by kernel_rfl)
  (go_none1 (x := #[]) xo4_17 rfl rfl rfl rfl (by kernel_rfl)
  (go_none1 (x := #[]) xo4_17 rfl rfl rfl rfl (by kernel_rfl)
  (go_none1 (x := #[]) xo4_17 rfl rfl rfl rfl (by kernel_rfl)
  (go_none1 (x := #[]) xo4_17 rfl rfl rfl rfl (by kernel_rfl)
  (go_none1 (x := #[]) xo4_17 rfl rfl rfl rfl (by kernel_rfl)
  (go_none1 (x := #[]) xo4_17 rfl rfl rfl rfl (by kernel_rfl)
  (go_none1 (x := #[]) xo4_17 rfl rfl rfl rfl (by kernel_rfl)
  (go_none1 (x := #[]) xo4_17 rfl rfl rfl rfl (by kernel_rfl)
  (go_none1 (x := #[]) xo4_17 rfl rfl rfl rfl (by kernel_rfl)
  (go_skip1 xo4_17 rfl rfl rfl rfl (by kernel_rfl)
  (by kernel_rfl))))))))))))))))))))
  (by kernel_rfl))
theorem xm4_25 (s : Sys) (k wl : Nat) (m0 : Nat) (ac : List Nat × List Nat) (t0 t1 t2 t3 t4 t5 t6 t7 t8 t9 t10 t11 t12 t13 t14 t15 t16 t17 t18 t19 t20 t21 t22 t23 t24 t25 t26 t27 t28 t29 t30 t31 t32 t33 t34 t35 t36 t37 t38 t39 t40 t41 t42 t43 t44 t45 t46 t47 t48 t49 t50 t51 t52 t53 t54 t55 t56 t57 t58 t59 t60 t61 t62 t63 t64 t65 t66 t67 t68 t69 t70 t71 t72 t73 t74 t75 t76 t77 t78 t79 t80 t81 t82 t83 t84 t85 t86 t87 t88 t89 t90 t91 t92 t93 t94 t95 t96 t97 t98 t99 t100 t101 t102 t103 t104 t105 t106 t107 t108 t109 t110 t111 t112 t113 t114 t115 t116 t117 : V) (h : Hp) : opsP (xX s 4 wl k false) xg4_3 30 m0 ac (runK (xX s 4 wl k false) (bodyK s.P Try.f4) xk4_4) ⟨(t0::t1::t2::t3::t4::t5::t6::t7::t8::t9::t10::t11::t12::t13::t14::t15::t16::t17::t18::t19::t20::t21::t22::t23::t24::t25::t26::t27::t28::t29::t30::t31::t32::t33::t34::t35::t36::t37::t38::t39::t40::t41::t42::t43::t44::t45::t46::t47::t48::t49::t50::t51::t52::t53::t54::t55::t56::t57::t58::t59::t60::t61::t62::t63::t64::t65::t66::t67::t68::t69::t70::t71::t72::t73::t74::t75::t76::t77::t78::t79::t80::t81::t82::t83::t84::t85::t86::t87::t88::t89::t90::t91::t92::t93::t94::t95::t96::t97::t98::t99::t100::t101::t102::t103::t104::t105::t106::t107::t108::t109::t110::t111::t112::t113::t114::t115::t116::t117::[]),h⟩ =
  gd t91 (
  bm (vBin s.P .eql 3 t93 (V.lit (Value.int .i64 3))) h fun v178 h179 =>
  opsP (xX s 4 wl k false) xg4_3 31 m0 ac (runK (xX s 4 wl k false) (bodyK s.P Try.f4) xk4_4) ⟨(t0::t1::t2::t3::t4::t5::t6::t7::t8::t9::t10::t11::t12::t13::t14::t15::t16::t17::t18::t19::t20::t21::t22::t23::t24::t25::t26::t27::t28::t29::t30::t31::t32::t33::t34::t35::t36::t37::t38::t39::t40::t41::t42::t43::t44::t45::t46::t47::t48::t49::t50::t51::t52::t53::t54::t55::t56::t57::t58::t59::t60::t61::t62::t63::t64::t65::t66::t67::t68::t69::t70::t71::t72::t73::t74::t75::t76::t77::t78::t79::t80::t81::t82::t83::t84::t85::t86::t87::t88::t89::t90::(V.lit (Value.bool true))::t92::t93::v178::t95::t96::t97::t98::t99::t100::t101::t102::t103::t104::t105::t106::t107::t108::t109::t110::t111::t112::t113::t114::t115::t116::t117::[]),h179⟩) (
  opsP (xX s 4 wl k false) xg4_3 31 m0 ac (runK (xX s 4 wl k false) (bodyK s.P Try.f4) xk4_4) ⟨(t0::t1::t2::t3::t4::t5::t6::t7::t8::t9::t10::t11::t12::t13::t14::t15::t16::t17::t18::t19::t20::t21::t22::t23::t24::t25::t26::t27::t28::t29::t30::t31::t32::t33::t34::t35::t36::t37::t38::t39::t40::t41::t42::t43::t44::t45::t46::t47::t48::t49::t50::t51::t52::t53::t54::t55::t56::t57::t58::t59::t60::t61::t62::t63::t64::t65::t66::t67::t68::t69::t70::t71::t72::t73::t74::t75::t76::t77::t78::t79::t80::t81::t82::t83::t84::t85::t86::t87::t88::t89::t90::(V.lit (Value.bool false))::t92::t93::uu::t95::t96::t97::t98::t99::t100::t101::t102::t103::t104::t105::t106::t107::t108::t109::t110::t111::t112::t113::t114::t115::t116::t117::[]),h⟩) (
  opsP (xX s 4 wl k false) xg4_3 31 m0 ac (runK (xX s 4 wl k false) (bodyK s.P Try.f4) xk4_4) ⟨(t0::t1::t2::t3::t4::t5::t6::t7::t8::t9::t10::t11::t12::t13::t14::t15::t16::t17::t18::t19::t20::t21::t22::t23::t24::t25::t26::t27::t28::t29::t30::t31::t32::t33::t34::t35::t36::t37::t38::t39::t40::t41::t42::t43::t44::t45::t46::t47::t48::t49::t50::t51::t52::t53::t54::t55::t56::t57::t58::t59::t60::t61::t62::t63::t64::t65::t66::t67::t68::t69::t70::t71::t72::t73::t74::t75::t76::t77::t78::t79::t80::t81::t82::t83::t84::t85::t86::t87::t88::t89::t90::t91::t92::t93::uu::t95::t96::t97::t98::t99::t100::t101::t102::t103::t104::t105::t106::t107::t108::t109::t110::t111::t112::t113::t114::t115::t116::t117::[]),h⟩) :=
  (go_gdT1 xo4_17 xo4_17a rfl rfl rfl rfl (by kernel_rfl)
  (st_no (by kernel_rfl) (st_bm (by kernel_rfl) fun v178 h179 =>
  (by kernel_rfl)))
  (by kernel_rfl)
  (by kernel_rfl))
theorem xm4_26 (s : Sys) (k wl : Nat) (m0 : Nat) (ac : List Nat × List Nat) (t0 t1 t2 t3 t4 t5 t6 t7 t8 t9 t10 t11 t12 t13 t14 t15 t16 t17 t18 t19 t20 t21 t22 t23 t24 t25 t26 t27 t28 t29 t30 t31 t32 t33 t34 t35 t36 t37 t38 t39 t40 t41 t42 t43 t44 t45 t46 t47 t48 t49 t50 t51 t52 t53 t54 t55 t56 t57 t58 t59 t60 t61 t62 t63 t64 t65 t66 t67 t68 t69 t70 t71 t72 t73 t74 t75 t76 t77 t78 t79 t80 t81 t82 t83 t84 t85 t86 t87 t88 t89 t90 t91 t92 t93 t94 t95 t96 t97 t98 t99 t100 t101 t102 t103 t104 t105 t106 t107 t108 t109 t110 t111 t112 t113 t114 t115 t116 t117 : V) (h : Hp) : opsP (xX s 4 wl k false) xg4_3 18 m0 ac (runK (xX s 4 wl k false) (bodyK s.P Try.f4) xk4_4) ⟨(t0::t1::t2::t3::t4::t5::t6::t7::t8::t9::t10::t11::t12::t13::t14::t15::t16::t17::t18::t19::t20::t21::t22::t23::t24::t25::t26::t27::t28::t29::t30::t31::t32::t33::t34::t35::t36::t37::t38::t39::t40::t41::t42::t43::t44::t45::t46::t47::t48::t49::t50::t51::t52::t53::t54::t55::t56::t57::t58::t59::t60::t61::t62::t63::t64::t65::t66::t67::t68::t69::t70::t71::t72::t73::t74::t75::t76::t77::t78::t79::t80::t81::t82::t83::t84::t85::t86::t87::t88::t89::t90::t91::t92::t93::t94::t95::t96::t97::t98::t99::t100::t101::t102::t103::t104::t105::t106::t107::t108::t109::t110::t111::t112::t113::t114::t115::t116::t117::[]),h⟩ =
  gd t77 (
  bm (vIndexAddr s.P 25 t1 t11 h) h fun v180 h181 =>
  bm (vLoad s.P 26 v180 h181) h181 fun v182 h183 =>
  bm (vFieldAddr s.P 28 t5 2) h183 fun v184 h185 =>
  bm (vLoad s.P 3 v184 h185) h185 fun v186 h187 =>
  bp (callV (xX s 4 wl k false) true true (.fn (.func 29) [] []) [v182,v186] h187) fun v188 h189 =>
  bm (vBin s.P .eql 26 t81 v188) h189 fun v190 h191 =>
  opsP (xX s 4 wl k false) xg4_3 26 m0 ac (runK (xX s 4 wl k false) (bodyK s.P Try.f4) xk4_4) ⟨(t0::t1::t2::t3::t4::t5::t6::t7::t8::t9::t10::t11::t12::t13::t14::t15::t16::t17::t18::t19::t20::t21::t22::t23::t24::t25::t26::t27::t28::t29::t30::t31::t32::t33::t34::t35::t36::t37::t38::t39::t40::t41::t42::t43::t44::t45::t46::t47::t48::t49::t50::t51::t52::t53::t54::t55::t56::t57::t58::t59::t60::t61::t62::t63::t64::t65::t66::t67::t68::t69::t70::t71::t72::t73::t74::t75::t76::(V.lit (Value.bool true))::t78::t79::t80::t81::t1::t11::v180::v182::v184::v186::v188::v190::t90::t91::t92::t93::t94::t95::t96::t97::t98::t99::t100::t101::t102::t103::t104::t105::t106::t107::t108::t109::t110::t111::t112::t113::t114::t115::t116::t117::[]),h191⟩) (
  opsP (xX s 4 wl k false) xg4_3 26 m0 ac (runK (xX s 4 wl k false) (bodyK s.P Try.f4) xk4_4) ⟨(t0::t1::t2::t3::t4::t5::t6::t7::t8::t9::t10::t11::t12::t13::t14::t15::t16::t17::t18::t19::t20::t21::t22::t23::t24::t25::t26::t27::t28::t29::t30::t31::t32::t33::t34::t35::t36::t37::t38::t39::t40::t41::t42::t43::t44::t45::t46::t47::t48::t49::t50::t51::t52::t53::t54::t55::t56::t57::t58::t59::t60::t61::t62::t63::t64::t65::t66::t67::t68::t69::t70::t71::t72::t73::t74::t75::t76::(V.lit (Value.bool false))::t78::t79::t80::t81::uu::uu::uu::uu::uu::uu::uu::uu::t90::t91::t92::t93::t94::t95::t96::t97::t98::t99::t100::t101::t102::t103::t104::t105::t106::t107::t108::t109::t110::t111::t112::t113::t114::t115::t116::t117::[]),h⟩) (
  opsP (xX s 4 wl k false) xg4_3 19 m0 ac (runK (xX s 4 wl k false) (bodyK s.P Try.f4) xk4_4) ⟨(t0::t1::t2::t3::t4::t5::t6::t7::t8::t9::t10::t11::t12::t13::t14::t15::t16::t17::t18::t19::t20::t21::t22::t23::t24::t25::t26::t27::t28::t29::t30::t31::t32::t33::t34::t35::t36::t37::t38::t39::t40::t41::t42::t43::t44::t45::t46::t47::t48::t49::t50::t51::t52::t53::t54::t55::t56::t57::t58::t59::t60::t61::t62::t63::t64::t65::t66::t67::t68::t69::t70::t71::t72::t73::t74::t75::t76::t77::t78::t79::t80::t81::uu::t83::t84::t85::t86::t87::t88::t89::t90::t91::t92::t93::t94::t95::t96::t97::t98::t99::t100::t101::t102::t103::t104::t105::t106::t107::t108::t109::t110::t111::t112::t113::t114::t115::t116::t117::[]),h⟩) :=
  (go_gdT1 xo4_17 xo4_17a rfl rfl rfl rfl (by kernel_rfl)
  (st_no (by kernel_rfl) (st_id (v := t1) (H := h) (by kernel_rfl)
  (go_run1 xo4_17 xo4_17a rfl rfl rfl rfl (by kernel_rfl) (st_no (by kernel_rfl) (st_id (v := t11) (H := h) (by kernel_rfl)
  (go_run1 xo4_17 xo4_17a rfl rfl rfl rfl (by kernel_rfl) (st_no (by kernel_rfl) (st_bm (by kernel_rfl) fun v180 h181 =>
  (go_run1 xo4_17 xo4_17a rfl rfl rfl rfl (by kernel_rfl) (st_no (by kernel_rfl) (st_bm (by kernel_rfl) fun v182 h183 =>
  (go_run1 xo4_17 xo4_17a rfl rfl rfl rfl (by kernel_rfl) (st_no (by kernel_rfl) (st_bm (by kernel_rfl) fun v184 h185 =>
  (go_run1 xo4_17 xo4_17a rfl rfl rfl rfl (by kernel_rfl) (st_no (by kernel_rfl) (st_bm (by kernel_rfl) fun v186 h187 =>
  (go_run1 xo4_17 xo4_17a rfl rfl rfl rfl (by kernel_rfl) (st_no (by kernel_rfl) (st_bp (by kernel_rfl) fun v188 h189 =>
  (go_run1 xo4_17 xo4_17a rfl rfl rfl rfl (by kernel_rfl) (st_no (by kernel_rfl) (st_bm (by kernel_rfl) fun v190 h191 =>
  (by kernel_rfl))))))))))))))))))))))))
  (go_skip1 xo4_17 rfl rfl rfl rfl (by kernel_rfl)
  (go_skip1 xo4_17 rfl rfl rfl rfl (by kernel_rfl)
  (go_skip1 xo4_17 rfl rfl rfl rfl (by kernel_rfl)
  (go_skip1 xo4_17 rfl rfl rfl rfl (by kernel_rfl)
  (go_skip1 xo4_17 rfl rfl rfl rfl (by kernel_rfl)
  (go_skip1 xo4_17 rfl rfl rfl rfl (by kernel_rfl)
  (go_skip1 xo4_17 rfl rfl rfl rfl (by kernel_rfl)
  (by kernel_rfl))))))))
  (by kernel_rfl))
theorem xm4_27 (s : Sys) (k wl : Nat) (m0 : Nat) (ac : List Nat × List Nat) (t0 t1 t2 t3 t4 t5 t6 t7 t8 t9 t10 t11 t12 t13 t14 t15 t16 t17 t18 t19 t20 t21 t22 t23 t24 t25 t26 t27 t28 t29 t30 t31 t32 t33 t34 t35 t36 t37 t38 t39 t40 t41 t42 t43 t44 t45 t46 t47 t48 t49 t50 t51 t52 t53 t54 t55 t56 t57 t58 t59 t60 t61 t62 t63 t64 t65 t66 t67 t68 t69 t70 t71 t72 t73 t74 t75 t76 t77 t78 t79 t80 t81 t82 t83 t84 t85 t86 t87 t88 t89 t90 t91 t92 t93 t94 t95 t96 t97 t98 t99 t100 t101 t102 t103 t104 t105 t106 t107 t108 t109 t110 t111 t112 t113 t114 t115 t116 t117 : V) (h : Hp) : opsP (xX s 4 wl k false) xg4_3 51 m0 ac (runK (xX s 4 wl k false) (bodyK s.P Try.f4) xk4_4) ⟨(t0::t1::t2::t3::t4::t5::t6::t7::t8::t9::t10::t11::t12::t13::t14::t15::t16::t17::t18::t19::t20::t21::t22::t23::t24::t25::t26::t27::t28::t29::t30::t31::t32::t33::t34::t35::t36::t37::t38::t39::t40::t41::t42::t43::t44::t45::t46::t47::t48::t49::t50::t51::t52::t53::t54::t55::t56::t57::t58::t59::t60::t61::t62::t63::t64::t65::t66::t67::t68::t69::t70::t71::t72::t73::t74::t75::t76::t77::t78::t79::t80::t81::t82::t83::t84::t85::t86::t87::t88::t89::t90::t91::t92::t93::t94::t95::t96::t97::t98::t99::t100::t101::t102::t103::t104::t105::t106::t107::t108::t109::t110::t111::t112::t113::t114::t115::t116::t117::[]),h⟩ =
  gd t69 (
  bm (vPick t96 (V.lit (Value.bool true)) t114) h fun v192 h193 =>
  opsP (xX s 4 wl k false) xg4_3 52 m0 ac (runK (xX s 4 wl k false) (bodyK s.P Try.f4) xk4_4) ⟨(t0::t1::t2::t3::t4::t5::t6::t7::t8::t9::t10::t11::t12::t13::t14::t15::t16::t17::t18::t19::t20::t21::t22::t23::t24::t25::t26::t27::t28::t29::t30::t31::t32::t33::t34::t35::t36::t37::t38::t39::t40::t41::t42::t43::t44::t45::t46::t47::t48::t49::t50::t51::t52::t53::t54::t55::t56::t57::t58::t59::t60::t61::t62::t63::t64::t65::t66::t67::t68::(V.lit (Value.bool true))::t70::t71::t72::t73::t74::t75::t76::t77::t78::t79::t80::t81::t82::t83::t84::t85::t86::t87::t88::t89::t90::t91::t92::t93::t94::t95::t96::t97::t98::t99::t100::t101::t102::t103::t104::t105::t106::t107::t108::t109::t110::t111::t112::t113::t114::v192::t116::t117::[]),h193⟩) (
  opsP (xX s 4 wl k false) xg4_3 52 m0 ac (runK (xX s 4 wl k false) (bodyK s.P Try.f4) xk4_4) ⟨(t0::t1::t2::t3::t4::t5::t6::t7::t8::t9::t10::t11::t12::t13::t14::t15::t16::t17::t18::t19::t20::t21::t22::t23::t24::t25::t26::t27::t28::t29::t30::t31::t32::t33::t34::t35::t36::t37::t38::t39::t40::t41::t42::t43::t44::t45::t46::t47::t48::t49::t50::t51::t52::t53::t54::t55::t56::t57::t58::t59::t60::t61::t62::t63::t64::t65::t66::t67::t68::(V.lit (Value.bool false))::t70::t71::t72::t73::t74::t75::t76::t77::t78::t79::t80::t81::t82::t83::t84::t85::t86::t87::t88::t89::t90::t91::t92::t93::t94::t95::t96::t97::t98::t99::t100::t101::t102::t103::t104::t105::t106::t107::t108::t109::t110::t111::t112::t113::t114::uu::t116::t117::[]),h⟩) (
  opsP (xX s 4 wl k false) xg4_3 52 m0 ac (runK (xX s 4 wl k false) (bodyK s.P Try.f4) xk4_4) ⟨(t0::t1::t2::t3::t4::t5::t6::t7::t8::t9::t10::t11::t12::t13::t14::t15::t16::t17::t18::t19::t20::t21::t22::t23::t24::t25::t26::t27::t28::t29::t30::t31::t32::t33::t34::t35::t36::t37::t38::t39::t40::t41::t42::t43::t44::t45::t46::t47::t48::t49::t50::t51::t52::t53::t54::t55::t56::t57::t58::t59::t60::t61::t62::t63::t64::t65::t66::t67::t68::t69::t70::t71::t72::t73::t74::t75::t76::t77::t78::t79::t80::t81::t82::t83::t84::t85::t86::t87::t88::t89::t90::t91::t92::t93::t94::t95::t96::t97::t98::t99::t100::t101::t102::t103::t104::t105::t106::t107::t108::t109::t110::t111::t112::t113::t114::uu::t116::t117::[]),h⟩) :=
  (go_gdT1 xo4_17 xo4_17a rfl rfl rfl rfl (by kernel_rfl)
  (st_no (by kernel_rfl) (st_bm (by kernel_rfl) fun v192 h193 =>
  (by kernel_rfl)))
  (by kernel_rfl)
  (by kernel_rfl))
theorem xm4_28 (s : Sys) (k wl : Nat) (m0 : Nat) (ac : List Nat × List Nat) (t0 t1 t2 t3 t4 t5 t6 t7 t8 t9 t10 t11 t12 t13 t14 t15 t16 t17 t18 t19 t20 t21 t22 t23 t24 t25 t26 t27 t28 t29 t30 t31 t32 t33 t34 t35 t36 t37 t38 t39 t40 t41 t42 t43 t44 t45 t46 t47 t48 t49 t50 t51 t52 t53 t54 t55 t56 t57 t58 t59 t60 t61 t62 t63 t64 t65 t66 t67 t68 t69 t70 t71 t72 t73 t74 t75 t76 t77 t78 t79 t80 t81 t82 t83 t84 t85 t86 t87 t88 t89 t90 t91 t92 t93 t94 t95 t96 t97 t98 t99 t100 t101 t102 t103 t104 t105 t106 t107 t108 t109 t110 t111 t112 t113 t114 t115 t116 t117 : V) (h : Hp) : opsP (xX s 4 wl k false) xg4_3 37 m0 ac (runK (xX s 4 wl k false) (bodyK s.P Try.f4) xk4_4) ⟨(t0::t1::t2::t3::t4::t5::t6::t7::t8::t9::t10::t11::t12::t13::t14::t15::t16::t17::t18::t19::t20::t21::t22::t23::t24::t25::t26::t27::t28::t29::t30::t31::t32::t33::t34::t35::t36::t37::t38::t39::t40::t41::t42::t43::t44::t45::t46::t47::t48::t49::t50::t51::t52::t53::t54::t55::t56::t57::t58::t59::t60::t61::t62::t63::t64::t65::t66::t67::t68::t69::t70::t71::t72::t73::t74::t75::t76::t77::t78::t79::t80::t81::t82::t83::t84::t85::t86::t87::t88::t89::t90::t91::t92::t93::t94::t95::t96::t97::t98::t99::t100::t101::t102::t103::t104::t105::t106::t107::t108::t109::t110::t111::t112::t113::t114::t115::t116::t117::[]),h⟩ =
  gd t100 (
  bm (vLoad s.P 23 t3 h) h fun v194 h195 =>
  bm (vFieldAddr s.P 28 t5 2) h195 fun v196 h197 =>
  bm (vLoad s.P 3 v196 h197) h197 fun v198 h199 =>
  bp (callV (xX s 4 wl k false) false true (.fn (.func 30) [] []) [v194,v198] h199) fun v200 h201 =>
  bm (vBin s.P .eql 3 t11 v200) h201 fun v202 h203 =>
  opsP (xX s 4 wl k false) xg4_3 43 m0 ac (runK (xX s 4 wl k false) (bodyK s.P Try.f4) xk4_4) ⟨(t0::t1::t2::t3::t4::t5::t6::t7::t8::t9::t10::t11::t12::t13::t14::t15::t16::t17::t18::t19::t20::t21::t22::t23::t24::t25::t26::t27::t28::t29::t30::t31::t32::t33::t34::t35::t36::t37::t38::t39::t40::t41::t42::t43::t44::t45::t46::t47::t48::t49::t50::t51::t52::t53::t54::t55::t56::t57::t58::t59::t60::t61::t62::t63::t64::t65::t66::t67::t68::t69::t70::t71::t72::t73::t74::t75::t76::t77::t78::t79::t80::t81::t82::t83::t84::t85::t86::t87::t88::t89::t90::t91::t92::t93::t94::t95::t96::t97::t98::t99::(V.lit (Value.bool true))::t11::v194::v196::v198::v200::v202::t107::t108::t109::t110::t111::t112::t113::t114::t115::t116::t117::[]),h203⟩) (
  opsP (xX s 4 wl k false) xg4_3 43 m0 ac (runK (xX s 4 wl k false) (bodyK s.P Try.f4) xk4_4) ⟨(t0::t1::t2::t3::t4::t5::t6::t7::t8::t9::t10::t11::t12::t13::t14::t15::t16::t17::t18::t19::t20::t21::t22::t23::t24::t25::t26::t27::t28::t29::t30::t31::t32::t33::t34::t35::t36::t37::t38::t39::t40::t41::t42::t43::t44::t45::t46::t47::t48::t49::t50::t51::t52::t53::t54::t55::t56::t57::t58::t59::t60::t61::t62::t63::t64::t65::t66::t67::t68::t69::t70::t71::t72::t73::t74::t75::t76::t77::t78::t79::t80::t81::t82::t83::t84::t85::t86::t87::t88::t89::t90::t91::t92::t93::t94::t95::t96::t97::t98::t99::(V.lit (Value.bool false))::uu::uu::uu::uu::uu::uu::t107::t108::t109::t110::t111::t112::t113::t114::t115::t116::t117::[]),h⟩) (
  opsP (xX s 4 wl k false) xg4_3 38 m0 ac (runK (xX s 4 wl k false) (bodyK s.P Try.f4) xk4_4) ⟨(t0::t1::t2::t3::t4::t5::t6::t7::t8::t9::t10::t11::t12::t13::t14::t15::t16::t17::t18::t19::t20::t21::t22::t23::t24::t25::t26::t27::t28::t29::t30::t31::t32::t33::t34::t35::t36::t37::t38::t39::t40::t41::t42::t43::t44::t45::t46::t47::t48::t49::t50::t51::t52::t53::t54::t55::t56::t57::t58::t59::t60::t61::t62::t63::t64::t65::t66::t67::t68::t69::t70::t71::t72::t73::t74::t75::t76::t77::t78::t79::t80::t81::t82::t83::t84::t85::t86::t87::t88::t89::t90::t91::t92::t93::t94::t95::t96::t97::t98::t99::t100::uu::t102::t103::t104::t105::t106::t107::t108::t109::t110::t111::t112::t113::t114::t115::t116::t117::[]),h⟩) :=
  (go_gdT1 xo4_17 xo4_17a rfl rfl rfl rfl (by kernel_rfl)
  (st_no (by kernel_rfl) (st_id (v := t11) (H := h) (by kernel_rfl)
  (go_run1 xo4_17 xo4_17a rfl rfl rfl rfl (by kernel_rfl) (st_no (by kernel_rfl) (st_bm (by kernel_rfl) fun v194 h195 =>
  (go_run1 xo4_17 xo4_17a rfl rfl rfl rfl (by kernel_rfl) (st_no (by kernel_rfl) (st_bm (by kernel_rfl) fun v196 h197 =>
  (go_run1 xo4_17 xo4_17a rfl rfl rfl rfl (by kernel_rfl) (st_no (by kernel_rfl) (st_bm (by kernel_rfl) fun v198 h199 =>
  (go_run1 xo4_17 xo4_17a rfl rfl rfl rfl (by kernel_rfl) (st_no (by kernel_rfl) (st_bp (by kernel_rfl) fun v200 h201 =>
  (go_run1 xo4_17 xo4_17a rfl rfl rfl rfl (by kernel_rfl) (st_no (by kernel_rfl) (st_bm (by kernel_rfl) fun v202 h203 =>
  (by kernel_rfl))))))))))))))))))
  (go_skip1 xo4_17 rfl rfl rfl rfl (by kernel_rfl)
  (go_skip1 xo4_17 rfl rfl rfl rfl (by kernel_rfl)
  (go_skip1 xo4_17 rfl rfl rfl rfl (by kernel_rfl)
  (go_skip1 xo4_17 rfl rfl rfl rfl (by kernel_rfl)
  (go_skip1 xo4_17 rfl rfl rfl rfl (by kernel_rfl)
  (by kernel_rfl))))))
  (by kernel_rfl))
theorem xm4_29 (s : Sys) (k wl : Nat) (m0 : Nat) (ac : List Nat × List Nat) (t0 t1 t2 t3 t4 t5 t6 t7 t8 t9 t10 t11 t12 t13 t14 t15 t16 t17 t18 t19 t20 t21 t22 t23 t24 t25 t26 t27 t28 t29 t30 t31 t32 t33 t34 t35 t36 t37 t38 t39 t40 t41 t42 t43 t44 t45 t46 t47 t48 t49 t50 t51 t52 t53 t54 t55 t56 t57 t58 t59 t60 t61 t62 t63 t64 t65 t66 t67 t68 t69 t70 t71 t72 t73 t74 t75 t76 t77 t78 t79 t80 t81 t82 t83 t84 t85 t86 t87 t88 t89 t90 t91 t92 t93 t94 t95 t96 t97 t98 t99 t100 t101 t102 t103 t104 t105 t106 t107 t108 t109 t110 t111 t112 t113 t114 t115 t116 t117 : V) (h : Hp) : opsP (xX s 4 wl k false) xg4_3 34 m0 ac (runK (xX s 4 wl k false) (bodyK s.P Try.f4) xk4_4) ⟨(t0::t1::t2::t3::t4::t5::t6::t7::t8::t9::t10::t11::t12::t13::t14::t15::t16::t17::t18::t19::t20::t21::t22::t23::t24::t25::t26::t27::t28::t29::t30::t31::t32::t33::t34::t35::t36::t37::t38::t39::t40::t41::t42::t43::t44::t45::t46::t47::t48::t49::t50::t51::t52::t53::t54::t55::t56::t57::t58::t59::t60::t61::t62::t63::t64::t65::t66::t67::t68::t69::t70::t71::t72::t73::t74::t75::t76::t77::t78::t79::t80::t81::t82::t83::t84::t85::t86::t87::t88::t89::t90::t91::t92::t93::t94::t95::t96::t97::t98::t99::t100::t101::t102::t103::t104::t105::t106::t107::t108::t109::t110::t111::t112::t113::t114::t115::t116::t117::[]),h⟩ =
  gd t96 (
  opsP (xX s 4 wl k false) xg4_3 51 m0 ac (runK (xX s 4 wl k false) (bodyK s.P Try.f4) xk4_4) ⟨(t0::t1::t2::t3::t4::t5::t6::t7::t8::t9::t10::t11::t12::t13::t14::t15::t16::t17::t18::t19::t20::t21::t22::t23::t24::t25::t26::t27::t28::t29::t30::t31::t32::t33::t34::t35::t36::t37::t38::t39::t40::t41::t42::t43::t44::t45::t46::t47::t48::t49::t50::t51::t52::t53::t54::t55::t56::t57::t58::t59::t60::t61::t62::t63::t64::t65::t66::t67::t68::t69::t70::t71::t72::t73::t74::t75::t76::t77::t78::t79::t80::t81::t82::t83::t84::t85::t86::t87::t88::t89::t90::t91::t92::t93::t94::t95::(V.lit (Value.bool true))::t97::uu::uu::uu::uu::uu::uu::uu::uu::uu::uu::uu::uu::uu::uu::uu::uu::uu::t115::t116::t117::[]),h⟩) (
  bm (vLoad s.P 3 t97 h) h fun v204 h205 =>
  bm (vBin s.P .eql 3 v204 (V.lit (Value.int .i64 4))) h205 fun v206 h207 =>
  opsP (xX s 4 wl k false) xg4_3 37 m0 ac (runK (xX s 4 wl k false) (bodyK s.P Try.f4) xk4_4) ⟨(t0::t1::t2::t3::t4::t5::t6::t7::t8::t9::t10::t11::t12::t13::t14::t15::t16::t17::t18::t19::t20::t21::t22::t23::t24::t25::t26::t27::t28::t29::t30::t31::t32::t33::t34::t35::t36::t37::t38::t39::t40::t41::t42::t43::t44::t45::t46::t47::t48::t49::t50::t51::t52::t53::t54::t55::t56::t57::t58::t59::t60::t61::t62::t63::t64::t65::t66::t67::t68::t69::t70::t71::t72::t73::t74::t75::t76::t77::t78::t79::t80::t81::t82::t83::t84::t85::t86::t87::t88::t89::t90::t91::t92::t93::t94::t95::(V.lit (Value.bool false))::t97::v204::v206::v206::t101::t102::t103::t104::t105::t106::t107::t108::t109::t110::t111::t112::t113::t114::t115::t116::t117::[]),h207⟩) (
  opsP (xX s 4 wl k false) xg4_3 35 m0 ac (runK (xX s 4 wl k false) (bodyK s.P Try.f4) xk4_4) ⟨(t0::t1::t2::t3::t4::t5::t6::t7::t8::t9::t10::t11::t12::t13::t14::t15::t16::t17::t18::t19::t20::t21::t22::t23::t24::t25::t26::t27::t28::t29::t30::t31::t32::t33::t34::t35::t36::t37::t38::t39::t40::t41::t42::t43::t44::t45::t46::t47::t48::t49::t50::t51::t52::t53::t54::t55::t56::t57::t58::t59::t60::t61::t62::t63::t64::t65::t66::t67::t68::t69::t70::t71::t72::t73::t74::t75::t76::t77::t78::t79::t80::t81::t82::t83::t84::t85::t86::t87::t88::t89::t90::t91::t92::t93::t94::t95::t96::t97::uu::t99::t100::t101::t102::t103::t104::t105::t106::t107::t108::t109::t110::t111::t112::t113::t114::t115::t116::t117::[]),h⟩) :=
  (go_gdF1 xo4_17 xo4_17a rfl rfl rfl rfl (by kernel_rfl)
  (go_skip1 xo4_17 rfl rfl rfl rfl (by kernel_rfl)
  (go_skip1 xo4_17 rfl rfl rfl rfl (by kernel_rfl)
  (go_none1 (x := #[]) xo4_17 rfl rfl rfl rfl (by kernel_rfl)
  (go_none1 (x := #[]) xo4_17 rfl rfl rfl rfl (by kernel_rfl)
  (go_none1 (x := #[]) xo4_17 rfl rfl rfl rfl (by kernel_rfl)
  (go_none1 (x := #[]) xo4_17 rfl rfl rfl rfl (by kernel_rfl)
  (go_none1 (x := #[]) xo4_17 rfl rfl rfl rfl (by kernel_rfl)
  (go_none1 (x := #[]) xo4_17 rfl rfl rfl rfl (by kernel_rfl)
  (go_skip1 xo4_17 rfl rfl rfl rfl (by kernel_rfl)
  (go_skip1 xo4_17 rfl rfl rfl rfl (by kernel_rfl)
  (go_none1 (x := #[]) xo4_17 rfl rfl rfl rfl (by kernel_rfl)
  (go_none1 (x := #[]) xo4_17 rfl rfl rfl rfl (by kernel_rfl)
  (go_none1 (x := #[]) xo4_17 rfl rfl rfl rfl (by kernel_rfl)
  (go_none1 (x := #[]) xo4_17 rfl rfl rfl rfl (by kernel_rfl)
  (go_none1 (x := #[]) xo4_17 rfl rfl rfl rfl (by kernel_rfl)
  (go_skip1 xo4_17 rfl rfl rfl rfl (by kernel_rfl)
  (by kernel_rfl)))))))))))))))))
  (st_no (by kernel_rfl) (st_bm (by kernel_rfl) fun v204 h205 =>
  (go_run1 xo4_17 xo4_17a rfl rfl rfl rfl (by kernel_rfl) (st_no (by kernel_rfl) (st_bm (by kernel_rfl) fun v206 h207 =>
  (go_run1 xo4_17 xo4_17a rfl rfl rfl rfl (by kernel_rfl) (st_no (by kernel_rfl) (st_id (v := v206) (H := h207) (by kernel_rfl)
  (by kernel_rfl)))))))))
  (by kernel_rfl))
theorem xm4_30 (s : Sys) (k wl : Nat) (m0 : Nat) (ac : List Nat × List Nat) (t0 t1 t2 t3 t4 t5 t6 t7 t8 t9 t10 t11 t12 t13 t14 t15 t16 t17 t18 t19 t20 t21 t22 t23 t24 t25 t26 t27 t28 t29 t30 t31 t32 t33 t34 t35 t36 t37 t38 t39 t40 t41 t42 t43 t44 t45 t46 t47 t48 t49 t50 t51 t52 t53 t54 t55 t56 t57 t58 t59 t60 t61 t62 t63 t64 t65 t66 t67 t68 t69 t70 t71 t72 t73 t74 t75 t76 t77 t78 t79 t80 t81 t82 t83 t84 t85 t86 t87 t88 t89 t90 t91 t92 t93 t94 t95 t96 t97 t98 t99 t100 t101 t102 t103 t104 t105 t106 t107 t108 t109 t110 t111 t112 t113 t114 t115 t116 t117 : V) (h : Hp) : opsP (xX s 4 wl k false) xg4_3 19 m0 ac (runK (xX s 4 wl k false) (bodyK s.P Try.f4) xk4_4) ⟨(t0::t1::t2::t3::t4::t5::t6::t7::t8::t9::t10::t11::t12::t13::t14::t15::t16::t17::t18::t19::t20::t21::t22::t23::t24::t25::t26::t27::t28::t29::t30::t31::t32::t33::t34::t35::t36::t37::t38::t39::t40::t41::t42::t43::t44::t45::t46::t47::t48::t49::t50::t51::t52::t53::t54::t55::t56::t57::t58::t59::t60::t61::t62::t63::t64::t65::t66::t67::t68::t69::t70::t71::t72::t73::t74::t75::t76::t77::t78::t79::t80::t81::t82::t83::t84::t85::t86::t87::t88::t89::t90::t91::t92::t93::t94::t95::t96::t97::t98::t99::t100::t101::t102::t103::t104::t105::t106::t107::t108::t109::t110::t111::t112::t113::t114::t115::t116::t117::[]),h⟩ =
  gd t77 (
  bm (vIndexAddr s.P 25 t82 t11 h) h fun v208 h209 =>
  bm (vLoad s.P 26 v208 h209) h209 fun v210 h211 =>
  bm (vFieldAddr s.P 28 t5 2) h211 fun v212 h213 =>
  bm (vLoad s.P 3 v212 h213) h213 fun v214 h215 =>
  bp (callV (xX s 4 wl k false) true true (.fn (.func 29) [] []) [v210,v214] h215) fun v216 h217 =>
  bm (vBin s.P .eql 26 t81 v216) h217 fun v218 h219 =>
  opsP (xX s 4 wl k false) xg4_3 26 m0 ac (runK (xX s 4 wl k false) (bodyK s.P Try.f4) xk4_4) ⟨(t0::t1::t2::t3::t4::t5::t6::t7::t8::t9::t10::t11::t12::t13::t14::t15::t16::t17::t18::t19::t20::t21::t22::t23::t24::t25::t26::t27::t28::t29::t30::t31::t32::t33::t34::t35::t36::t37::t38::t39::t40::t41::t42::t43::t44::t45::t46::t47::t48::t49::t50::t51::t52::t53::t54::t55::t56::t57::t58::t59::t60::t61::t62::t63::t64::t65::t66::t67::t68::t69::t70::t71::t72::t73::t74::t75::t76::(V.lit (Value.bool true))::t78::t79::t80::t81::t82::t11::v208::v210::v212::v214::v216::v218::t90::t91::t92::t93::t94::t95::t96::t97::t98::t99::t100::t101::t102::t103::t104::t105::t106::t107::t108::t109::t110::t111::t112::t113::t114::t115::t116::t117::[]),h219⟩) (
  opsP (xX s 4 wl k false) xg4_3 26 m0 ac (runK (xX s 4 wl k false) (bodyK s.P Try.f4) xk4_4) ⟨(t0::t1::t2::t3::t4::t5::t6::t7::t8::t9::t10::t11::t12::t13::t14::t15::t16::t17::t18::t19::t20::t21::t22::t23::t24::t25::t26::t27::t28::t29::t30::t31::t32::t33::t34::t35::t36::t37::t38::t39::t40::t41::t42::t43::t44::t45::t46::t47::t48::t49::t50::t51::t52::t53::t54::t55::t56::t57::t58::t59::t60::t61::t62::t63::t64::t65::t66::t67::t68::t69::t70::t71::t72::t73::t74::t75::t76::(V.lit (Value.bool false))::t78::t79::t80::t81::t82::uu::uu::uu::uu::uu::uu::uu::t90::t91::t92::t93::t94::t95::t96::t97::t98::t99::t100::t101::t102::t103::t104::t105::t106::t107::t108::t109::t110::t111::t112::t113::t114::t115::t116::t117::[]),h⟩) (
  opsP (xX s 4 wl k false) xg4_3 20 m0 ac (runK (xX s 4 wl k false) (bodyK s.P Try.f4) xk4_4) ⟨(t0::t1::t2::t3::t4::t5::t6::t7::t8::t9::t10::t11::t12::t13::t14::t15::t16::t17::t18::t19::t20::t21::t22::t23::t24::t25::t26::t27::t28::t29::t30::t31::t32::t33::t34::t35::t36::t37::t38::t39::t40::t41::t42::t43::t44::t45::t46::t47::t48::t49::t50::t51::t52::t53::t54::t55::t56::t57::t58::t59::t60::t61::t62::t63::t64::t65::t66::t67::t68::t69::t70::t71::t72::t73::t74::t75::t76::t77::t78::t79::t80::t81::t82::uu::t84::t85::t86::t87::t88::t89::t90::t91::t92::t93::t94::t95::t96::t97::t98::t99::t100::t101::t102::t103::t104::t105::t106::t107::t108::t109::t110::t111::t112::t113::t114::t115::t116::t117::[]),h⟩) :=
  (go_gdT1 xo4_17 xo4_17a rfl rfl rfl rfl (by kernel_rfl)
  (st_no (by kernel_rfl) (st_id (v := t11) (H := h) (by kernel_rfl)
  (go_run1 xo4_17 xo4_17a rfl rfl rfl rfl (by kernel_rfl) (st_no (by kernel_rfl) (st_bm (by kernel_rfl) fun v208 h209 =>
  (go_run1 xo4_17 xo4_17a rfl rfl rfl rfl (by kernel_rfl) (st_no (by kernel_rfl) (st_bm (by kernel_rfl) fun v210 h211 =>
  (go_run1 xo4_17 xo4_17a rfl rfl rfl rfl (by kernel_rfl) (st_no (by kernel_rfl) (st_bm (by kernel_rfl) fun v212 h213 =>
  (go_run1 xo4_17 xo4_17a rfl rfl rfl rfl (by kernel_rfl) (st_no (by kernel_rfl) (st_bm (by kernel_rfl) fun v214 h215 =>
  (go_run1 xo4_17 xo4_17a rfl rfl rfl rfl (by kernel_rfl) (st_no (by kernel_rfl) (st_bp (by kernel_rfl) fun v216 h217 =>
  (go_run1 xo4_17 xo4_17a rfl rfl rfl rfl (by kernel_rfl) (st_no (by kernel_rfl) (st_bm (by kernel_rfl) fun v218 h219 =>
  (by kernel_rfl)))))))))))))))))))))
  (go_skip1 xo4_17 rfl rfl rfl rfl (by kernel_rfl)
  (go_skip1 xo4_17 rfl rfl rfl rfl (by kernel_rfl)
  (go_skip1 xo4_17 rfl rfl rfl rfl (by kernel_rfl)
  (go_skip1 xo4_17 rfl rfl rfl rfl (by kernel_rfl)
  (go_skip1 xo4_17 rfl rfl rfl rfl (by kernel_rfl)
  (go_skip1 xo4_17 rfl rfl rfl rfl (by kernel_rfl)
  (by kernel_rfl)))))))
  (by kernel_rfl))
theorem xm4_31 (s : Sys) (k wl : Nat) (m0 : Nat) (ac : List Nat × List Nat) (t0 t1 t2 t3 t4 t5 t6 t7 t8 t9 t10 t11 t12 t13 t14 t15 t16 t17 t18 t19 t20 t21 t22 t23 t24 t25 t26 t27 t28 t29 t30 t31 t32 t33 t34 t35 t36 t37 t38 t39 t40 t41 t42 t43 t44 t45 t46 t47 t48 t49 t50 t51 t52 t53 t54 t55 t56 t57 t58 t59 t60 t61 t62 t63 t64 t65 t66 t67 t68 t69 t70 t71 t72 t73 t74 t75 t76 t77 t78 t79 t80 t81 t82 t83 t84 t85 t86 t87 t88 t89 t90 t91 t92 t93 t94 t95 t96 t97 t98 t99 t100 t101 t102 t103 t104 t105 t106 t107 t108 t109 t110 t111 t112 t113 t114 t115 t116 t117 : V) (h : Hp) : opsP (xX s 4 wl k false) xg4_3 43 m0 ac (runK (xX s 4 wl k false) (bodyK s.P Try.f4) xk4_4) ⟨(t0::t1::t2::t3::t4::t5::t6::t7::t8::t9::t10::t11::t12::t13::t14::t15::t16::t17::t18::t19::t20::t21::t22::t23::t24::t25::t26::t27::t28::t29::t30::t31::t32::t33::t34::t35::t36::t37::t38::t39::t40::t41::t42::t43::t44::t45::t46::t47::t48::t49::t50::t51::t52::t53::t54::t55::t56::t57::t58::t59::t60::t61::t62::t63::t64::t65::t66::t67::t68::t69::t70::t71::t72::t73::t74::t75::t76::t77::t78::t79::t80::t81::t82::t83::t84::t85::t86::t87::t88::t89::t90::t91::t92::t93::t94::t95::t96::t97::t98::t99::t100::t101::t102::t103::t104::t105::t106::t107::t108::t109::t110::t111::t112::t113::t114::t115::t116::t117::[]),h⟩ =
  gd t96 (
  opsP (xX s 4 wl k false) xg4_3 51 m0 ac (runK (xX s 4 wl k false) (bodyK s.P Try.f4) xk4_4) ⟨(t0::t1::t2::t3::t4::t5::t6::t7::t8::t9::t10::t11::t12::t13::t14::t15::t16::t17::t18::t19::t20::t21::t22::t23::t24::t25::t26::t27::t28::t29::t30::t31::t32::t33::t34::t35::t36::t37::t38::t39::t40::t41::t42::t43::t44::t45::t46::t47::t48::t49::t50::t51::t52::t53::t54::t55::t56::t57::t58::t59::t60::t61::t62::t63::t64::t65::t66::t67::t68::t69::t70::t71::t72::t73::t74::t75::t76::t77::t78::t79::t80::t81::t82::t83::t84::t85::t86::t87::t88::t89::t90::t91::t92::t93::t94::t95::(V.lit (Value.bool true))::t97::t98::t99::t100::t101::t102::t103::t104::t105::t106::uu::uu::uu::uu::uu::uu::uu::uu::t115::t116::t117::[]),h⟩) (
  bm (vPick t100 t106 (V.lit (Value.bool false))) h fun v220 h221 =>
  opsP (xX s 4 wl k false) xg4_3 45 m0 ac (runK (xX s 4 wl k false) (bodyK s.P Try.f4) xk4_4) ⟨(t0::t1::t2::t3::t4::t5::t6::t7::t8::t9::t10::t11::t12::t13::t14::t15::t16::t17::t18::t19::t20::t21::t22::t23::t24::t25::t26::t27::t28::t29::t30::t31::t32::t33::t34::t35::t36::t37::t38::t39::t40::t41::t42::t43::t44::t45::t46::t47::t48::t49::t50::t51::t52::t53::t54::t55::t56::t57::t58::t59::t60::t61::t62::t63::t64::t65::t66::t67::t68::t69::t70::t71::t72::t73::t74::t75::t76::t77::t78::t79::t80::t81::t82::t83::t84::t85::t86::t87::t88::t89::t90::t91::t92::t93::t94::t95::(V.lit (Value.bool false))::t97::t98::t99::t100::t101::t102::t103::t104::t105::t106::v220::v220::t109::t110::t111::t112::t113::t114::t115::t116::t117::[]),h221⟩) (
  opsP (xX s 4 wl k false) xg4_3 44 m0 ac (runK (xX s 4 wl k false) (bodyK s.P Try.f4) xk4_4) ⟨(t0::t1::t2::t3::t4::t5::t6::t7::t8::t9::t10::t11::t12::t13::t14::t15::t16::t17::t18::t19::t20::t21::t22::t23::t24::t25::t26::t27::t28::t29::t30::t31::t32::t33::t34::t35::t36::t37::t38::t39::t40::t41::t42::t43::t44::t45::t46::t47::t48::t49::t50::t51::t52::t53::t54::t55::t56::t57::t58::t59::t60::t61::t62::t63::t64::t65::t66::t67::t68::t69::t70::t71::t72::t73::t74::t75::t76::t77::t78::t79::t80::t81::t82::t83::t84::t85::t86::t87::t88::t89::t90::t91::t92::t93::t94::t95::t96::t97::t98::t99::t100::t101::t102::t103::t104::t105::t106::uu::t108::t109::t110::t111::t112::t113::t114::t115::t116::t117::[]),h⟩) :=
  (go_gdF1 xo4_17 xo4_17a rfl rfl rfl rfl (by kernel_rfl)
  (go_skip1 xo4_17 rfl rfl rfl rfl (by kernel_rfl)
  (go_none1 (x := #[]) xo4_17 rfl rfl rfl rfl (by kernel_rfl)
  (go_none1 (x := #[]) xo4_17 rfl rfl rfl rfl (by kernel_rfl)
  (go_none1 (x := #[]) xo4_17 rfl rfl rfl rfl (by kernel_rfl)
  (go_none1 (x := #[]) xo4_17 rfl rfl rfl rfl (by kernel_rfl)
  (go_none1 (x := #[]) xo4_17 rfl rfl rfl rfl (by kernel_rfl)
  (go_skip1 xo4_17 rfl rfl rfl rfl (by kernel_rfl)
  (by kernel_rfl))))))))
  (st_no (by kernel_rfl) (st_bm (by kernel_rfl) fun v220 h221 =>
  (go_run1 xo4_17 xo4_17a rfl rfl rfl rfl (by kernel_rfl) (st_no (by kernel_rfl) (st_id (v := v220) (H := h221) (by kernel_rfl)
  (by kernel_rfl))))))
  (by kernel_rfl))
theorem xm4_32 (s : Sys) (k wl : Nat) (m0 : Nat) (ac : List Nat × List Nat) (t0 t1 t2 t3 t4 t5 t6 t7 t8 t9 t10 t11 t12 t13 t14 t15 t16 t17 t18 t19 t20 t21 t22 t23 t24 t25 t26 t27 t28 t29 t30 t31 t32 t33 t34 t35 t36 t37 t38 t39 t40 t41 t42 t43 t44 t45 t46 t47 t48 t49 t50 t51 t52 t53 t54 t55 t56 t57 t58 t59 t60 t61 t62 t63 t64 t65 t66 t67 t68 t69 t70 t71 t72 t73 t74 t75 t76 t77 t78 t79 t80 t81 t82 t83 t84 t85 t86 t87 t88 t89 t90 t91 t92 t93 t94 t95 t96 t97 t98 t99 t100 t101 t102 t103 t104 t105 t106 t107 t108 t109 t110 t111 t112 t113 t114 t115 t116 t117 : V) (h : Hp) : opsP (xX s 4 wl k false) xg4_3 38 m0 ac (runK (xX s 4 wl k false) (bodyK s.P Try.f4) xk4_4) ⟨(t0::t1::t2::t3::t4::t5::t6::t7::t8::t9::t10::t11::t12::t13::t14::t15::t16::t17::t18::t19::t20::t21::t22::t23::t24::t25::t26::t27::t28::t29::t30::t31::t32::t33::t34::t35::t36::t37::t38::t39::t40::t41::t42::t43::t44::t45::t46::t47::t48::t49::t50::t51::t52::t53::t54::t55::t56::t57::t58::t59::t60::t61::t62::t63::t64::t65::t66::t67::t68::t69::t70::t71::t72::t73::t74::t75::t76::t77::t78::t79::t80::t81::t82::t83::t84::t85::t86::t87::t88::t89::t90::t91::t92::t93::t94::t95::t96::t97::t98::t99::t100::t101::t102::t103::t104::t105::t106::t107::t108::t109::t110::t111::t112::t113::t114::t115::t116::t117::[]),h⟩ =
  gd t100 (
  bm (vLoad s.P 23 t3 h) h fun v222 h223 =>
  bm (vFieldAddr s.P 28 t5 2) h223 fun v224 h225 =>
  bm (vLoad s.P 3 v224 h225) h225 fun v226 h227 =>
  bp (callV (xX s 4 wl k false) false true (.fn (.func 30) [] []) [v222,v226] h227) fun v228 h229 =>
  bm (vBin s.P .eql 3 t101 v228) h229 fun v230 h231 =>
  opsP (xX s 4 wl k false) xg4_3 43 m0 ac (runK (xX s 4 wl k false) (bodyK s.P Try.f4) xk4_4) ⟨(t0::t1::t2::t3::t4::t5::t6::t7::t8::t9::t10::t11::t12::t13::t14::t15::t16::t17::t18::t19::t20::t21::t22::t23::t24::t25::t26::t27::t28::t29::t30::t31::t32::t33::t34::t35::t36::t37::t38::t39::t40::t41::t42::t43::t44::t45::t46::t47::t48::t49::t50::t51::t52::t53::t54::t55::t56::t57::t58::t59::t60::t61::t62::t63::t64::t65::t66::t67::t68::t69::t70::t71::t72::t73::t74::t75::t76::t77::t78::t79::t80::t81::t82::t83::t84::t85::t86::t87::t88::t89::t90::t91::t92::t93::t94::t95::t96::t97::t98::t99::(V.lit (Value.bool true))::t101::v222::v224::v226::v228::v230::t107::t108::t109::t110::t111::t112::t113::t114::t115::t116::t117::[]),h231⟩) (
  opsP (xX s 4 wl k false) xg4_3 43 m0 ac (runK (xX s 4 wl k false) (bodyK s.P Try.f4) xk4_4) ⟨(t0::t1::t2::t3::t4::t5::t6::t7::t8::t9::t10::t11::t12::t13::t14::t15::t16::t17::t18::t19::t20::t21::t22::t23::t24::t25::t26::t27::t28::t29::t30::t31::t32::t33::t34::t35::t36::t37::t38::t39::t40::t41::t42::t43::t44::t45::t46::t47::t48::t49::t50::t51::t52::t53::t54::t55::t56::t57::t58::t59::t60::t61::t62::t63::t64::t65::t66::t67::t68::t69::t70::t71::t72::t73::t74::t75::t76::t77::t78::t79::t80::t81::t82::t83::t84::t85::t86::t87::t88::t89::t90::t91::t92::t93::t94::t95::t96::t97::t98::t99::(V.lit (Value.bool false))::t101::uu::uu::uu::uu::uu::t107::t108::t109::t110::t111::t112::t113::t114::t115::t116::t117::[]),h⟩) (
  opsP (xX s 4 wl k false) xg4_3 39 m0 ac (runK (xX s 4 wl k false) (bodyK s.P Try.f4) xk4_4) ⟨(t0::t1::t2::t3::t4::t5::t6::t7::t8::t9::t10::t11::t12::t13::t14::t15::t16::t17::t18::t19::t20::t21::t22::t23::t24::t25::t26::t27::t28::t29::t30::t31::t32::t33::t34::t35::t36::t37::t38::t39::t40::t41::t42::t43::t44::t45::t46::t47::t48::t49::t50::t51::t52::t53::t54::t55::t56::t57::t58::t59::t60::t61::t62::t63::t64::t65::t66::t67::t68::t69::t70::t71::t72::t73::t74::t75::t76::t77::t78::t79::t80::t81::t82::t83::t84::t85::t86::t87::t88::t89::t90::t91::t92::t93::t94::t95::t96::t97::t98::t99::t100::t101::uu::t103::t104::t105::t106::t107::t108::t109::t110::t111::t112::t113::t114::t115::t116::t117::[]),h⟩) :=
  (go_gdT1 xo4_17 xo4_17a rfl rfl rfl rfl (by kernel_rfl)
  (st_no (by kernel_rfl) (st_bm (by kernel_rfl) fun v222 h223 =>
  (go_run1 xo4_17 xo4_17a rfl rfl rfl rfl (by kernel_rfl) (st_no (by kernel_rfl) (st_bm (by kernel_rfl) fun v224 h225 =>
  (go_run1 xo4_17 xo4_17a rfl rfl rfl rfl (by kernel_rfl) (st_no (by kernel_rfl) (st_bm (by kernel_rfl) fun v226 h227 =>
  (go_run1 xo4_17 xo4_17a rfl rfl rfl rfl (by kernel_rfl) (st_no (by kernel_rfl) (st_bp (by kernel_rfl) fun v228 h229 =>
  (go_run1 xo4_17 xo4_17a rfl rfl rfl rfl (by kernel_rfl) (st_no (by kernel_rfl) (st_bm (by kernel_rfl) fun v230 h231 =>
  (by kernel_rfl)))))))))))))))
  (go_skip1 xo4_17 rfl rfl rfl rfl (by kernel_rfl)
  (go_skip1 xo4_17 rfl rfl rfl rfl (by kernel_rfl)
  (go_skip1 xo4_17 rfl rfl rfl rfl (by kernel_rfl)
  (go_skip1 xo4_17 rfl rfl rfl rfl (by kernel_rfl)
  (by kernel_rfl)))))
  (by kernel_rfl))
theorem xm4_33 (s : Sys) (k wl : Nat) (m0 : Nat) (ac : List Nat × List Nat) (t0 t1 t2 t3 t4 t5 t6 t7 t8 t9 t10 t11 t12 t13 t14 t15 t16 t17 t18 t19 t20 t21 t22 t23 t24 t25 t26 t27 t28 t29 t30 t31 t32 t33 t34 t35 t36 t37 t38 t39 t40 t41 t42 t43 t44 t45 t46 t47 t48 t49 t50 t51 t52 t53 t54 t55 t56 t57 t58 t59 t60 t61 t62 t63 t64 t65 t66 t67 t68 t69 t70 t71 t72 t73 t74 t75 t76 t77 t78 t79 t80 t81 t82 t83 t84 t85 t86 t87 t88 t89 t90 t91 t92 t93 t94 t95 t96 t97 t98 t99 t100 t101 t102 t103 t104 t105 t106 t107 t108 t109 t110 t111 t112 t113 t114 t115 t116 t117 : V) (h : Hp) : opsP (xX s 4 wl k false) xg4_3 35 m0 ac (runK (xX s 4 wl k false) (bodyK s.P Try.f4) xk4_4) ⟨(t0::t1::t2::t3::t4::t5::t6::t7::t8::t9::t10::t11::t12::t13::t14::t15::t16::t17::t18::t19::t20::t21::t22::t23::t24::t25::t26::t27::t28::t29::t30::t31::t32::t33::t34::t35::t36::t37::t38::t39::t40::t41::t42::t43::t44::t45::t46::t47::t48::t49::t50::t51::t52::t53::t54::t55::t56::t57::t58::t59::t60::t61::t62::t63::t64::t65::t66::t67::t68::t69::t70::t71::t72::t73::t74::t75::t76::t77::t78::t79::t80::t81::t82::t83::t84::t85::t86::t87::t88::t89::t90::t91::t92::t93::t94::t95::t96::t97::t98::t99::t100::t101::t102::t103::t104::t105::t106::t107::t108::t109::t110::t111::t112::t113::t114::t115::t116::t117::[]),h⟩ =
  gd t96 (
  opsP (xX s 4 wl k false) xg4_3 51 m0 ac (runK (xX s 4 wl k false) (bodyK s.P Try.f4) xk4_4) ⟨(t0::t1::t2::t3::t4::t5::t6::t7::t8::t9::t10::t11::t12::t13::t14::t15::t16::t17::t18::t19::t20::t21::t22::t23::t24::t25::t26::t27::t28::t29::t30::t31::t32::t33::t34::t35::t36::t37::t38::t39::t40::t41::t42::t43::t44::t45::t46::t47::t48::t49::t50::t51::t52::t53::t54::t55::t56::t57::t58::t59::t60::t61::t62::t63::t64::t65::t66::t67::t68::t69::t70::t71::t72::t73::t74::t75::t76::t77::t78::t79::t80::t81::t82::t83::t84::t85::t86::t87::t88::t89::t90::t91::t92::t93::t94::t95::(V.lit (Value.bool true))::t97::t98::uu::uu::uu::uu::uu::uu::uu::uu::uu::uu::uu::uu::uu::uu::uu::uu::t115::t116::t117::[]),h⟩) (
  bm (vBin s.P .eql 3 t98 (V.lit (Value.int .i64 4))) h fun v232 h233 =>
  opsP (xX s 4 wl k false) xg4_3 37 m0 ac (runK (xX s 4 wl k false) (bodyK s.P Try.f4) xk4_4) ⟨(t0::t1::t2::t3::t4::t5::t6::t7::t8::t9::t10::t11::t12::t13::t14::t15::t16::t17::t18::t19::t20::t21::t22::t23::t24::t25::t26::t27::t28::t29::t30::t31::t32::t33::t34::t35::t36::t37::t38::t39::t40::t41::t42::t43::t44::t45::t46::t47::t48::t49::t50::t51::t52::t53::t54::t55::t56::t57::t58::t59::t60::t61::t62::t63::t64::t65::t66::t67::t68::t69::t70::t71::t72::t73::t74::t75::t76::t77::t78::t79::t80::t81::t82::t83::t84::t85::t86::t87::t88::t89::t90::t91::t92::t93::t94::t95::(V.lit (Value.bool false))::t97::t98::v232::v232::t101::t102::t103::t104::t105::t106::t107::t108::t109::t110::t111::t112::t113::t114::t115::t116::t117::[]),h233⟩) (
  opsP (xX s 4 wl k false) xg4_3 36 m0 ac (runK (xX s 4 wl k false) (bodyK s.P Try.f4) xk4_4) ⟨(t0::t1::t2::t3::t4::t5::t6::t7::t8::t9::t10::t11::t12::t13::t14::t15::t16::t17::t18::t19::t20::t21::t22::t23::t24::t25::t26::t27::t28::t29::t30::t31::t32::t33::t34::t35::t36::t37::t38::t39::t40::t41::t42::t43::t44::t45::t46::t47::t48::t49::t50::t51::t52::t53::t54::t55::t56::t57::t58::t59::t60::t61::t62::t63::t64::t65::t66::t67::t68::t69::t70::t71::t72::t73::t74::t75::t76::t77::t78::t79::t80::t81::t82::t83::t84::t85::t86::t87::t88::t89::t90::t91::t92::t93::t94::t95::t96::t97::t98::uu::t100::t101::t102::t103::t104::t105::t106::t107::t108::t109::t110::t111::t112::t113::t114::t115::t116::t117::[]),h⟩) :=
  (go_gdF1 xo4_17 xo4_17a rfl rfl rfl rfl (by kernel_rfl)
  (go_skip1 xo4_17 rfl rfl rfl rfl (by kernel_rfl)
  (go_none1 (x := #[]) xo4_17 rfl rfl rfl rfl (by kernel_rfl)
  (go_none1 (x := #[]) xo4_17 rfl rfl rfl rfl (by kernel_rfl)
  (go_none1 (x := #[]) xo4_17 rfl rfl rfl rfl (by kernel_rfl)
  (go_none1 (x := #[]) xo4_17 rfl rfl rfl rfl (by kernel_rfl)
  (go_none1 (x := #[]) xo4_17 rfl rfl rfl rfl (by kernel_rfl)
  (go_none1 (x := #[]) xo4_17 rfl rfl rfl rfl (by kernel_rfl)
  (go_skip1 xo4_17 rfl rfl rfl rfl (by kernel_rfl)
  (go_skip1 xo4_17 rfl rfl rfl rfl (by kernel_rfl)
  (go_none1 (x := #[]) xo4_17 rfl rfl rfl rfl (by kernel_rfl)
  (go_none1 (x := #[]) xo4_17 rfl rfl rfl rfl (by kernel_rfl)
  (go_none1 (x := #[]) xo4_17 rfl rfl rfl rfl (by kernel_rfl)
  (go_none1 (x := #[]) xo4_17 rfl rfl rfl rfl (by kernel_rfl)
  (go_none1 (x := #[]) xo4_17 rfl rfl rfl rfl (by kernel_rfl)
  (go_skip1 xo4_17 rfl rfl rfl rfl (by kernel_rfl)
  (by kernel_rfl))))))))))))))))
  (st_no (by kernel_rfl) (st_bm (by kernel_rfl) fun v232 h233 =>
  (go_run1 xo4_17 xo4_17a rfl rfl rfl rfl (by kernel_rfl) (st_no (by kernel_rfl) (st_id (v := v232) (H := h233) (by kernel_rfl)
  (by kernel_rfl))))))
  (by kernel_rfl))
theorem xm4_34 (s : Sys) (k wl : Nat) (m0 : Nat) (ac : List Nat × List Nat) (t0 t1 t2 t3 t4 t5 t6 t7 t8 t9 t10 t11 t12 t13 t14 t15 t16 t17 t18 t19 t20 t21 t22 t23 t24 t25 t26 t27 t28 t29 t30 t31 t32 t33 t34 t35 t36 t37 t38 t39 t40 t41 t42 t43 t44 t45 t46 t47 t48 t49 t50 t51 t52 t53 t54 t55 t56 t57 t58 t59 t60 t61 t62 t63 t64 t65 t66 t67 t68 t69 t70 t71 t72 t73 t74 t75 t76 t77 t78 t79 t80 t81 t82 t83 t84 t85 t86 t87 t88 t89 t90 t91 t92 t93 t94 t95 t96 t97 t98 t99 t100 t101 t102 t103 t104 t105 t106 t107 t108 t109 t110 t111 t112 t113 t114 t115 t116 t117 : V) (h : Hp) : opsP (xX s 4 wl k false) xg4_3 20 m0 ac (runK (xX s 4 wl k false) (bodyK s.P Try.f4) xk4_4) ⟨(t0::t1::t2::t3::t4::t5::t6::t7::t8::t9::t10::t11::t12::t13::t14::t15::t16::t17::t18::t19::t20::t21::t22::t23::t24::t25::t26::t27::t28::t29::t30::t31::t32::t33::t34::t35::t36::t37::t38::t39::t40::t41::t42::t43::t44::t45::t46::t47::t48::t49::t50::t51::t52::t53::t54::t55::t56::t57::t58::t59::t60::t61::t62::t63::t64::t65::t66::t67::t68::t69::t70::t71::t72::t73::t74::t75::t76::t77::t78::t79::t80::t81::t82::t83::t84::t85::t86::t87::t88::t89::t90::t91::t92::t93::t94::t95::t96::t97::t98::t99::t100::t101::t102::t103::t104::t105::t106::t107::t108::t109::t110::t111::t112::t113::t114::t115::t116::t117::[]),h⟩ =
  gd t77 (
  bm (vIndexAddr s.P 25 t82 t83 h) h fun v234 h235 =>
  bm (vLoad s.P 26 v234 h235) h235 fun v236 h237 =>
  bm (vFieldAddr s.P 28 t5 2) h237 fun v238 h239 =>
  bm (vLoad s.P 3 v238 h239) h239 fun v240 h241 =>
  bp (callV (xX s 4 wl k false) true true (.fn (.func 29) [] []) [v236,v240] h241) fun v242 h243 =>
  bm (vBin s.P .eql 26 t81 v242) h243 fun v244 h245 =>
  opsP (xX s 4 wl k false) xg4_3 26 m0 ac (runK (xX s 4 wl k false) (bodyK s.P Try.f4) xk4_4) ⟨(t0::t1::t2::t3::t4::t5::t6::t7::t8::t9::t10::t11::t12::t13::t14::t15::t16::t17::t18::t19::t20::t21::t22::t23::t24::t25::t26::t27::t28::t29::t30::t31::t32::t33::t34::t35::t36::t37::t38::t39::t40::t41::t42::t43::t44::t45::t46::t47::t48::t49::t50::t51::t52::t53::t54::t55::t56::t57::t58::t59::t60::t61::t62::t63::t64::t65::t66::t67::t68::t69::t70::t71::t72::t73::t74::t75::t76::(V.lit (Value.bool true))::t78::t79::t80::t81::t82::t83::v234::v236::v238::v240::v242::v244::t90::t91::t92::t93::t94::t95::t96::t97::t98::t99::t100::t101::t102::t103::t104::t105::t106::t107::t108::t109::t110::t111::t112::t113::t114::t115::t116::t117::[]),h245⟩) (
  opsP (xX s 4 wl k false) xg4_3 26 m0 ac (runK (xX s 4 wl k false) (bodyK s.P Try.f4) xk4_4) ⟨(t0::t1::t2::t3::t4::t5::t6::t7::t8::t9::t10::t11::t12::t13::t14::t15::t16::t17::t18::t19::t20::t21::t22::t23::t24::t25::t26::t27::t28::t29::t30::t31::t32::t33::t34::t35::t36::t37::t38::t39::t40::t41::t42::t43::t44::t45::t46::t47::t48::t49::t50::t51::t52::t53::t54::t55::t56::t57::t58::t59::t60::t61::t62::t63::t64::t65::t66::t67::t68::t69::t70::t71::t72::t73::t74::t75::t76::(V.lit (Value.bool false))::t78::t79::t80::t81::t82::t83::uu::uu::uu::uu::uu::uu::t90::t91::t92::t93::t94::t95::t96::t97::t98::t99::t100::t101::t102::t103::t104::t105::t106::t107::t108::t109::t110::t111::t112::t113::t114::t115::t116::t117::[]),h⟩) (
  opsP (xX s 4 wl k false) xg4_3 21 m0 ac (runK (xX s 4 wl k false) (bodyK s.P Try.f4) xk4_4) ⟨(t0::t1::t2::t3::t4::t5::t6::t7::t8::t9::t10::t11::t12::t13::t14::t15::t16::t17::t18::t19::t20::t21::t22::t23::t24::t25::t26::t27::t28::t29::t30::t31::t32::t33::t34::t35::t36::t37::t38::t39::t40::t41::t42::t43::t44::t45::t46::t47::t48::t49::t50::t51::t52::t53::t54::t55::t56::t57::t58::t59::t60::t61::t62::t63::t64::t65::t66::t67::t68::t69::t70::t71::t72::t73::t74::t75::t76::t77::t78::t79::t80::t81::t82::t83::uu::t85::t86::t87::t88::t89::t90::t91::t92::t93::t94::t95::t96::t97::t98::t99::t100::t101::t102::t103::t104::t105::t106::t107::t108::t109::t110::t111::t112::t113::t114::t115::t116::t117::[]),h⟩) :=
  (go_gdT1 xo4_17 xo4_17a rfl rfl rfl rfl (by kernel_rfl)
  (st_no (by kernel_rfl) (st_bm (by kernel_rfl) fun v234 h235 =>
  (go_run1 xo4_17 xo4_17a rfl rfl rfl rfl (by kernel_rfl) (st_no (by kernel_rfl) (st_bm (by kernel_rfl) fun v236 h237 =>
  (go_run1 xo4_17 xo4_17a rfl rfl rfl rfl (by kernel_rfl) (st_no (by kernel_rfl) (st_bm (by kernel_rfl) fun v238 h239 =>
  (go_run1 xo4_17 xo4_17a rfl rfl rfl rfl (by kernel_rfl) (st_no (by kernel_rfl) (st_bm (by kernel_rfl) fun v240 h241 =>
  (go_run1 xo4_17 xo4_17a rfl rfl rfl rfl (by kernel_rfl) (st_no (by kernel_rfl) (st_bp (by kernel_rfl) fun v242 h243 =>
  (go_run1 xo4_17 xo4_17a rfl rfl rfl rfl (by kernel_rfl) (st_no (by kernel_rfl) (st_bm (by kernel_rfl) fun v244 h245 =>
  (by kernel_rfl))))))))))))))))))
  (go_skip1 xo4_17 rfl rfl rfl rfl (by kernel_rfl)
  (go_skip1 xo4_17 rfl rfl rfl rfl (by kernel_rfl)
  (go_skip1 xo4_17 rfl rfl rfl rfl (by kernel_rfl)
  (go_skip1 xo4_17 rfl rfl rfl rfl (by kernel_rfl)
  (go_skip1 xo4_17 rfl rfl rfl rfl (by kernel_rfl)
  (by kernel_rfl))))))
  (by kernel_rfl))
theorem xm4_35 (s : Sys) (k wl : Nat) (m0 : Nat) (ac : List Nat × List Nat) (t0 t1 t2 t3 t4 t5 t6 t7 t8 t9 t10 t11 t12 t13 t14 t15 t16 t17 t18 t19 t20 t21 t22 t23 t24 t25 t26 t27 t28 t29 t30 t31 t32 t33 t34 t35 t36 t37 t38 t39 t40 t41 t42 t43 t44 t45 t46 t47 t48 t49 t50 t51 t52 t53 t54 t55 t56 t57 t58 t59 t60 t61 t62 t63 t64 t65 t66 t67 t68 t69 t70 t71 t72 t73 t74 t75 t76 t77 t78 t79 t80 t81 t82 t83 t84 t85 t86 t87 t88 t89 t90 t91 t92 t93 t94 t95 t96 t97 t98 t99 t100 t101 t102 t103 t104 t105 t106 t107 t108 t109 t110 t111 t112 t113 t114 t115 t116 t117 : V) (h : Hp) : opsP (xX s 4 wl k false) xg4_3 45 m0 ac (runK (xX s 4 wl k false) (bodyK s.P Try.f4) xk4_4) ⟨(t0::t1::t2::t3::t4::t5::t6::t7::t8::t9::t10::t11::t12::t13::t14::t15::t16::t17::t18::t19::t20::t21::t22::t23::t24::t25::t26::t27::t28::t29::t30::t31::t32::t33::t34::t35::t36::t37::t38::t39::t40::t41::t42::t43::t44::t45::t46::t47::t48::t49::t50::t51::t52::t53::t54::t55::t56::t57::t58::t59::t60::t61::t62::t63::t64::t65::t66::t67::t68::t69::t70::t71::t72::t73::t74::t75::t76::t77::t78::t79::t80::t81::t82::t83::t84::t85::t86::t87::t88::t89::t90::t91::t92::t93::t94::t95::t96::t97::t98::t99::t100::t101::t102::t103::t104::t105::t106::t107::t108::t109::t110::t111::t112::t113::t114::t115::t116::t117::[]),h⟩ =
  gd t108 (
  bm (vIndexAddr s.P 25 t8 t11 h) h fun v246 h247 =>
  bm (vLoad s.P 26 v246 h247) h247 fun v248 h249 =>
  bm (vBin s.P .eql 26 v248 (V.lit (Value.int .u64 0))) h249 fun v250 h251 =>
  opsP (xX s 4 wl k false) xg4_3 50 m0 ac (runK (xX s 4 wl k false) (bodyK s.P Try.f4) xk4_4) ⟨(t0::t1::t2::t3::t4::t5::t6::t7::t8::t9::t10::t11::t12::t13::t14::t15::t16::t17::t18::t19::t20::t21::t22::t23::t24::t25::t26::t27::t28::t29::t30::t31::t32::t33::t34::t35::t36::t37::t38::t39::t40::t41::t42::t43::t44::t45::t46::t47::t48::t49::t50::t51::t52::t53::t54::t55::t56::t57::t58::t59::t60::t61::t62::t63::t64::t65::t66::t67::t68::t69::t70::t71::t72::t73::t74::t75::t76::t77::t78::t79::t80::t81::t82::t83::t84::t85::t86::t87::t88::t89::t90::t91::t92::t93::t94::t95::t96::t97::t98::t99::t100::t101::t102::t103::t104::t105::t106::t107::(V.lit (Value.bool true))::t8::t11::v246::v248::v250::t114::t115::t116::t117::[]),h251⟩) (
  opsP (xX s 4 wl k false) xg4_3 50 m0 ac (runK (xX s 4 wl k false) (bodyK s.P Try.f4) xk4_4) ⟨(t0::t1::t2::t3::t4::t5::t6::t7::t8::t9::t10::t11::t12::t13::t14::t15::t16::t17::t18::t19::t20::t21::t22::t23::t24::t25::t26::t27::t28::t29::t30::t31::t32::t33::t34::t35::t36::t37::t38::t39::t40::t41::t42::t43::t44::t45::t46::t47::t48::t49::t50::t51::t52::t53::t54::t55::t56::t57::t58::t59::t60::t61::t62::t63::t64::t65::t66::t67::t68::t69::t70::t71::t72::t73::t74::t75::t76::t77::t78::t79::t80::t81::t82::t83::t84::t85::t86::t87::t88::t89::t90::t91::t92::t93::t94::t95::t96::t97::t98::t99::t100::t101::t102::t103::t104::t105::t106::t107::(V.lit (Value.bool false))::uu::uu::uu::uu::uu::t114::t115::t116::t117::[]),h⟩) (
  opsP (xX s 4 wl k false) xg4_3 46 m0 ac (runK (xX s 4 wl k false) (bodyK s.P Try.f4) xk4_4) ⟨(t0::t1::t2::t3::t4::t5::t6::t7::t8::t9::t10::t11::t12::t13::t14::t15::t16::t17::t18::t19::t20::t21::t22::t23::t24::t25::t26::t27::t28::t29::t30::t31::t32::t33::t34::t35::t36::t37::t38::t39::t40::t41::t42::t43::t44::t45::t46::t47::t48::t49::t50::t51::t52::t53::t54::t55::t56::t57::t58::t59::t60::t61::t62::t63::t64::t65::t66::t67::t68::t69::t70::t71::t72::t73::t74::t75::t76::t77::t78::t79::t80::t81::t82::t83::t84::t85::t86::t87::t88::t89::t90::t91::t92::t93::t94::t95::t96::t97::t98::t99::t100::t101::t102::t103::t104::t105::t106::t107::t108::uu::t110::t111::t112::t113::t114::t115::t116::t117::[]),h⟩) :=
  (go_gdT1 xo4_17 xo4_17a rfl rfl rfl rfl (by kernel_rfl)
  (st_no (by kernel_rfl) (st_id (v := t8) (H := h) (by kernel_rfl)
  (go_run1 xo4_17 xo4_17a rfl rfl rfl rfl (by kernel_rfl) (st_no (by kernel_rfl) (st_id (v := t11) (H := h) (by kernel_rfl)
  (go_run1 xo4_17 xo4_17a rfl rfl rfl rfl (by kernel_rfl) (st_no (by kernel_rfl) (st_bm (by kernel_rfl) fun v246 h247 =>
  (go_run1 xo4_17 xo4_17a rfl rfl rfl rfl (by kernel_rfl) (st_no (by kernel_rfl) (st_bm (by kernel_rfl) fun v248 h249 =>
  (go_run1 xo4_17 xo4_17a rfl rfl rfl rfl (by kernel_rfl) (st_no (by kernel_rfl) (st_bm (by kernel_rfl) fun v250 h251 =>
  (by kernel_rfl)))))))))))))))
  (go_skip1 xo4_17 rfl rfl rfl rfl (by kernel_rfl)
  (go_skip1 xo4_17 rfl rfl rfl rfl (by kernel_rfl)
  (go_skip1 xo4_17 rfl rfl rfl rfl (by kernel_rfl)
  (go_skip1 xo4_17 rfl rfl rfl rfl (by kernel_rfl)
  (by kernel_rfl)))))
  (by kernel_rfl))
theorem xm4_36 (s : Sys) (k wl : Nat) (m0 : Nat) (ac : List Nat × List Nat) (t0 t1 t2 t3 t4 t5 t6 t7 t8 t9 t10 t11 t12 t13 t14 t15 t16 t17 t18 t19 t20 t21 t22 t23 t24 t25 t26 t27 t28 t29 t30 t31 t32 t33 t34 t35 t36 t37 t38 t39 t40 t41 t42 t43 t44 t45 t46 t47 t48 t49 t50 t51 t52 t53 t54 t55 t56 t57 t58 t59 t60 t61 t62 t63 t64 t65 t66 t67 t68 t69 t70 t71 t72 t73 t74 t75 t76 t77 t78 t79 t80 t81 t82 t83 t84 t85 t86 t87 t88 t89 t90 t91 t92 t93 t94 t95 t96 t97 t98 t99 t100 t101 t102 t103 t104 t105 t106 t107 t108 t109 t110 t111 t112 t113 t114 t115 t116 t117 : V) (h : Hp) : opsP (xX s 4 wl k false) xg4_3 44 m0 ac (runK (xX s 4 wl k false) (bodyK s.P Try.f4) xk4_4) ⟨(t0::t1::t2::t3::t4::t5::t6::t7::t8::t9::t10::t11::t12::t13::t14::t15::t16::t17::t18::t19::t20::t21::t22::t23::t24::t25::t26::t27::t28::t29::t30::t31::t32::t33::t34::t35::t36::t37::t38::t39::t40::t41::t42::t43::t44::t45::t46::t47::t48::t49::t50::t51::t52::t53::t54::t55::t56::t57::t58::t59::t60::t61::t62::t63::t64::t65::t66::t67::t68::t69::t70::t71::t72::t73::t74::t75::t76::t77::t78::t79::t80::t81::t82::t83::t84::t85::t86::t87::t88::t89::t90::t91::t92::t93::t94::t95::t96::t97::t98::t99::t100::t101::t102::t103::t104::t105::t106::t107::t108::t109::t110::t111::t112::t113::t114::t115::t116::t117::[]),h⟩ =
  gd t96 (
  opsP (xX s 4 wl k false) xg4_3 51 m0 ac (runK (xX s 4 wl k false) (bodyK s.P Try.f4) xk4_4) ⟨(t0::t1::t2::t3::t4::t5::t6::t7::t8::t9::t10::t11::t12::t13::t14::t15::t16::t17::t18::t19::t20::t21::t22::t23::t24::t25::t26::t27::t28::t29::t30::t31::t32::t33::t34::t35::t36::t37::t38::t39::t40::t41::t42::t43::t44::t45::t46::t47::t48::t49::t50::t51::t52::t53::t54::t55::t56::t57::t58::t59::t60::t61::t62::t63::t64::t65::t66::t67::t68::t69::t70::t71::t72::t73::t74::t75::t76::t77::t78::t79::t80::t81::t82::t83::t84::t85::t86::t87::t88::t89::t90::t91::t92::t93::t94::t95::(V.lit (Value.bool true))::t97::t98::t99::t100::t101::t102::t103::t104::t105::t106::t107::uu::uu::uu::uu::uu::uu::uu::t115::t116::t117::[]),h⟩) (
  opsP (xX s 4 wl k false) xg4_3 45 m0 ac (runK (xX s 4 wl k false) (bodyK s.P Try.f4) xk4_4) ⟨(t0::t1::t2::t3::t4::t5::t6::t7::t8::t9::t10::t11::t12::t13::t14::t15::t16::t17::t18::t19::t20::t21::t22::t23::t24::t25::t26::t27::t28::t29::t30::t31::t32::t33::t34::t35::t36::t37::t38::t39::t40::t41::t42::t43::t44::t45::t46::t47::t48::t49::t50::t51::t52::t53::t54::t55::t56::t57::t58::t59::t60::t61::t62::t63::t64::t65::t66::t67::t68::t69::t70::t71::t72::t73::t74::t75::t76::t77::t78::t79::t80::t81::t82::t83::t84::t85::t86::t87::t88::t89::t90::t91::t92::t93::t94::t95::(V.lit (Value.bool false))::t97::t98::t99::t100::t101::t102::t103::t104::t105::t106::t107::t107::t109::t110::t111::t112::t113::t114::t115::t116::t117::[]),h⟩) (
  opsP (xX s 4 wl k false) xg4_3 45 m0 ac (runK (xX s 4 wl k false) (bodyK s.P Try.f4) xk4_4) ⟨(t0::t1::t2::t3::t4::t5::t6::t7::t8::t9::t10::t11::t12::t13::t14::t15::t16::t17::t18::t19::t20::t21::t22::t23::t24::t25::t26::t27::t28::t29::t30::t31::t32::t33::t34::t35::t36::t37::t38::t39::t40::t41::t42::t43::t44::t45::t46::t47::t48::t49::t50::t51::t52::t53::t54::t55::t56::t57::t58::t59::t60::t61::t62::t63::t64::t65::t66::t67::t68::t69::t70::t71::t72::t73::t74::t75::t76::t77::t78::t79::t80::t81::t82::t83::t84::t85::t86::t87::t88::t89::t90::t91::t92::t93::t94::t95::t96::t97::t98::t99::t100::t101::t102::t103::t104::t105::t106::t107::uu::t109::t110::t111::t112::t113::t114::t115::t116::t117::[]),h⟩) :=
  (go_gdF1 xo4_17 xo4_17a rfl rfl rfl rfl (by kernel_rfl)
  (go_none1 (x := #[]) xo4_17 rfl rfl rfl rfl (by kernel_rfl)
  (go_none1 (x := #[]) xo4_17 rfl rfl rfl rfl (by kernel_rfl)
  (go_none1 (x := #[]) xo4_17 rfl rfl rfl rfl (by kernel_rfl)
  (go_none1 (x := #[]) xo4_17 rfl rfl rfl rfl (by kernel_rfl)
  (go_none1 (x := #[]) xo4_17 rfl rfl rfl rfl (by kernel_rfl)
  (go_skip1 xo4_17 rfl rfl rfl rfl (by kernel_rfl)
  (by kernel_rfl)))))))
  (st_no (by kernel_rfl) (st_id (v := t107) (H := h) (by kernel_rfl)
  (by kernel_rfl)))
  (by kernel_rfl))
theorem xm4_37 (s : Sys) (k wl : Nat) (m0 : Nat) (ac : List Nat × List Nat) (t0 t1 t2 t3 t4 t5 t6 t7 t8 t9 t10 t11 t12 t13 t14 t15 t16 t17 t18 t19 t20 t21 t22 t23 t24 t25 t26 t27 t28 t29 t30 t31 t32 t33 t34 t35 t36 t37 t38 t39 t40 t41 t42 t43 t44 t45 t46 t47 t48 t49 t50 t51 t52 t53 t54 t55 t56 t57 t58 t59 t60 t61 t62 t63 t64 t65 t66 t67 t68 t69 t70 t71 t72 t73 t74 t75 t76 t77 t78 t79 t80 t81 t82 t83 t84 t85 t86 t87 t88 t89 t90 t91 t92 t93 t94 t95 t96 t97 t98 t99 t100 t101 t102 t103 t104 t105 t106 t107 t108 t109 t110 t111 t112 t113 t114 t115 t116 t117 : V) (h : Hp) : opsP (xX s 4 wl k false) xg4_3 39 m0 ac (runK (xX s 4 wl k false) (bodyK s.P Try.f4) xk4_4) ⟨(t0::t1::t2::t3::t4::t5::t6::t7::t8::t9::t10::t11::t12::t13::t14::t15::t16::t17::t18::t19::t20::t21::t22::t23::t24::t25::t26::t27::t28::t29::t30::t31::t32::t33::t34::t35::t36::t37::t38::t39::t40::t41::t42::t43::t44::t45::t46::t47::t48::t49::t50::t51::t52::t53::t54::t55::t56::t57::t58::t59::t60::t61::t62::t63::t64::t65::t66::t67::t68::t69::t70::t71::t72::t73::t74::t75::t76::t77::t78::t79::t80::t81::t82::t83::t84::t85::t86::t87::t88::t89::t90::t91::t92::t93::t94::t95::t96::t97::t98::t99::t100::t101::t102::t103::t104::t105::t106::t107::t108::t109::t110::t111::t112::t113::t114::t115::t116::t117::[]),h⟩ =
  gd t100 (
  bm (vFieldAddr s.P 28 t5 2) h fun v252 h253 =>
  bm (vLoad s.P 3 v252 h253) h253 fun v254 h255 =>
  bp (callV (xX s 4 wl k false) false true (.fn (.func 30) [] []) [t102,v254] h255) fun v256 h257 =>
  bm (vBin s.P .eql 3 t101 v256) h257 fun v258 h259 =>
  opsP (xX s 4 wl k false) xg4_3 43 m0 ac (runK (xX s 4 wl k false) (bodyK s.P Try.f4) xk4_4) ⟨(t0::t1::t2::t3::t4::t5::t6::t7::t8::t9::t10::t11::t12::t13::t14::t15::t16::t17::t18::t19::t20::t21::t22::t23::t24::t25::t26::t27::t28::t29::t30::t31::t32::t33::t34::t35::t36::t37::t38::t39::t40::t41::t42::t43::t44::t45::t46::t47::t48::t49::t50::t51::t52::t53::t54::t55::t56::t57::t58::t59::t60::t61::t62::t63::t64::t65::t66::t67::t68::t69::t70::t71::t72::t73::t74::t75::t76::t77::t78::t79::t80::t81::t82::t83::t84::t85::t86::t87::t88::t89::t90::t91::t92::t93::t94::t95::t96::t97::t98::t99::(V.lit (Value.bool true))::t101::t102::v252::v254::v256::v258::t107::t108::t109::t110::t111::t112::t113::t114::t115::t116::t117::[]),h259⟩) (
  opsP (xX s 4 wl k false) xg4_3 43 m0 ac (runK (xX s 4 wl k false) (bodyK s.P Try.f4) xk4_4) ⟨(t0::t1::t2::t3::t4::t5::t6::t7::t8::t9::t10::t11::t12::t13::t14::t15::t16::t17::t18::t19::t20::t21::t22::t23::t24::t25::t26::t27::t28::t29::t30::t31::t32::t33::t34::t35::t36::t37::t38::t39::t40::t41::t42::t43::t44::t45::t46::t47::t48::t49::t50::t51::t52::t53::t54::t55::t56::t57::t58::t59::t60::t61::t62::t63::t64::t65::t66::t67::t68::t69::t70::t71::t72::t73::t74::t75::t76::t77::t78::t79::t80::t81::t82::t83::t84::t85::t86::t87::t88::t89::t90::t91::t92::t93::t94::t95::t96::t97::t98::t99::(V.lit (Value.bool false))::t101::t102::uu::uu::uu::uu::t107::t108::t109::t110::t111::t112::t113::t114::t115::t116::t117::[]),h⟩) (
  opsP (xX s 4 wl k false) xg4_3 40 m0 ac (runK (xX s 4 wl k false) (bodyK s.P Try.f4) xk4_4) ⟨(t0::t1::t2::t3::t4::t5::t6::t7::t8::t9::t10::t11::t12::t13::t14::t15::t16::t17::t18::t19::t20::t21::t22::t23::t24::t25::t26::t27::t28::t29::t30::t31::t32::t33::t34::t35::t36::t37::t38::t39::t40::t41::t42::t43::t44::t45::t46::t47::t48::t49::t50::t51::t52::t53::t54::t55::t56::t57::t58::t59::t60::t61::t62::t63::t64::t65::t66::t67::t68::t69::t70::t71::t72::t73::t74::t75::t76::t77::t78::t79::t80::t81::t82::t83::t84::t85::t86::t87::t88::t89::t90::t91::t92::t93::t94::t95::t96::t97::t98::t99::t100::t101::t102::uu::t104::t105::t106::t107::t108::t109::t110::t111::t112::t113::t114::t115::t116::t117::[]),h⟩) :=
  (go_gdT1 xo4_17 xo4_17a rfl rfl rfl rfl (by kernel_rfl)
  (st_no (by kernel_rfl) (st_bm (by kernel_rfl) fun v252 h253 =>
  (go_run1 xo4_17 xo4_17a rfl rfl rfl rfl (by kernel_rfl) (st_no (by kernel_rfl) (st_bm (by kernel_rfl) fun v254 h255 =>
  (go_run1 xo4_17 xo4_17a rfl rfl rfl rfl (by kernel_rfl) (st_no (by kernel_rfl) (st_bp (by kernel_rfl) fun v256 h257 =>
  (go_run1 xo4_17 xo4_17a rfl rfl rfl rfl (by kernel_rfl) (st_no (by kernel_rfl) (st_bm (by kernel_rfl) fun v258 h259 =>
  (by kernel_rfl))))))))))))
  (go_skip1 xo4_17 rfl rfl rfl rfl (by kernel_rfl)
  (go_skip1 xo4_17 rfl rfl rfl rfl (by kernel_rfl)
  (go_skip1 xo4_17 rfl rfl rfl rfl (by kernel_rfl)
  (by kernel_rfl))))
  (by kernel_rfl))
theorem xm4_38 (s : Sys) (k wl : Nat) (m0 : Nat) (ac : List Nat × List Nat) (t0 t1 t2 t3 t4 t5 t6 t7 t8 t9 t10 t11 t12 t13 t14 t15 t16 t17 t18 t19 t20 t21 t22 t23 t24 t25 t26 t27 t28 t29 t30 t31 t32 t33 t34 t35 t36 t37 t38 t39 t40 t41 t42 t43 t44 t45 t46 t47 t48 t49 t50 t51 t52 t53 t54 t55 t56 t57 t58 t59 t60 t61 t62 t63 t64 t65 t66 t67 t68 t69 t70 t71 t72 t73 t74 t75 t76 t77 t78 t79 t80 t81 t82 t83 t84 t85 t86 t87 t88 t89 t90 t91 t92 t93 t94 t95 t96 t97 t98 t99 t100 t101 t102 t103 t104 t105 t106 t107 t108 t109 t110 t111 t112 t113 t114 t115 t116 t117 : V) (h : Hp) : opsP (xX s 4 wl k false) xg4_3 36 m0 ac (runK (xX s 4 wl k false) (bodyK s.P Try.f4) xk4_4) ⟨(t0::t1::t2::t3::t4::t5::t6::t7::t8::t9::t10::t11::t12::t13::t14::t15::t16::t17::t18::t19::t20::t21::t22::t23::t24::t25::t26::t27::t28::t29::t30::t31::t32::t33::t34::t35::t36::t37::t38::t39::t40::t41::t42::t43::t44::t45::t46::t47::t48::t49::t50::t51::t52::t53::t54::t55::t56::t57::t58::t59::t60::t61::t62::t63::t64::t65::t66::t67::t68::t69::t70::t71::t72::t73::t74::t75::t76::t77::t78::t79::t80::t81::t82::t83::t84::t85::t86::t87::t88::t89::t90::t91::t92::t93::t94::t95::t96::t97::t98::t99::t100::t101::t102::t103::t104::t105::t106::t107::t108::t109::t110::t111::t112::t113::t114::t115::t116::t117::[]),h⟩ =
  gd t96 (
  opsP (xX s 4 wl k false) xg4_3 51 m0 ac (runK (xX s 4 wl k false) (bodyK s.P Try.f4) xk4_4) ⟨(t0::t1::t2::t3::t4::t5::t6::t7::t8::t9::t10::t11::t12::t13::t14::t15::t16::t17::t18::t19::t20::t21::t22::t23::t24::t25::t26::t27::t28::t29::t30::t31::t32::t33::t34::t35::t36::t37::t38::t39::t40::t41::t42::t43::t44::t45::t46::t47::t48::t49::t50::t51::t52::t53::t54::t55::t56::t57::t58::t59::t60::t61::t62::t63::t64::t65::t66::t67::t68::t69::t70::t71::t72::t73::t74::t75::t76::t77::t78::t79::t80::t81::t82::t83::t84::t85::t86::t87::t88::t89::t90::t91::t92::t93::t94::t95::(V.lit (Value.bool true))::t97::t98::t99::uu::uu::uu::uu::uu::uu::uu::uu::uu::uu::uu::uu::uu::uu::uu::t115::t116::t117::[]),h⟩) (
  opsP (xX s 4 wl k false) xg4_3 37 m0 ac (runK (xX s 4 wl k false) (bodyK s.P Try.f4) xk4_4) ⟨(t0::t1::t2::t3::t4::t5::t6::t7::t8::t9::t10::t11::t12::t13::t14::t15::t16::t17::t18::t19::t20::t21::t22::t23::t24::t25::t26::t27::t28::t29::t30::t31::t32::t33::t34::t35::t36::t37::t38::t39::t40::t41::t42::t43::t44::t45::t46::t47::t48::t49::t50::t51::t52::t53::t54::t55::t56::t57::t58::t59::t60::t61::t62::t63::t64::t65::t66::t67::t68::t69::t70::t71::t72::t73::t74::t75::t76::t77::t78::t79::t80::t81::t82::t83::t84::t85::t86::t87::t88::t89::t90::t91::t92::t93::t94::t95::(V.lit (Value.bool false))::t97::t98::t99::t99::t101::t102::t103::t104::t105::t106::t107::t108::t109::t110::t111::t112::t113::t114::t115::t116::t117::[]),h⟩) (
  opsP (xX s 4 wl k false) xg4_3 37 m0 ac (runK (xX s 4 wl k false) (bodyK s.P Try.f4) xk4_4) ⟨(t0::t1::t2::t3::t4::t5::t6::t7::t8::t9::t10::t11::t12::t13::t14::t15::t16::t17::t18::t19::t20::t21::t22::t23::t24::t25::t26::t27::t28::t29::t30::t31::t32::t33::t34::t35::t36::t37::t38::t39::t40::t41::t42::t43::t44::t45::t46::t47::t48::t49::t50::t51::t52::t53::t54::t55::t56::t57::t58::t59::t60::t61::t62::t63::t64::t65::t66::t67::t68::t69::t70::t71::t72::t73::t74::t75::t76::t77::t78::t79::t80::t81::t82::t83::t84::t85::t86::t87::t88::t89::t90::t91::t92::t93::t94::t95::t96::t97::t98::t99::uu::t101::t102::t103::t104::t105::t106::t107::t108::t109::t110::t111::t112::t113::t114::t115::t116::t117::[]),h⟩) :=
  (go_gdF1 xo4_17 xo4_17a rfl rfl rfl rfl (by kernel_rfl)
  (go_none1 (x := #[]) xo4_17 rfl rfl rfl rfl (by kernel_rfl)
  (go_none1 (x := #[]) xo4_17 rfl rfl rfl rfl (by kernel_rfl)
  (go_none1 (x := #[]) xo4_17 rfl rfl rfl rfl (by kernel_rfl)
  (go_none1 (x := #[]) xo4_17 rfl rfl rfl rfl (by kernel_rfl)
  (go_none1 (x := #[]) xo4_17 rfl rfl rfl rfl (by kernel_rfl)
  (go_none1 (x := #[]) xo4_17 rfl rfl rfl rfl (by kernel_rfl)
  (go_skip1 xo4_17 rfl rfl rfl rfl (by kernel_rfl)
  (go_skip1 xo4_17 rfl rfl rfl rfl (by kernel_rfl)
  (go_none1 (x := #[]) xo4_17 rfl rfl rfl rfl (by kernel_rfl)
  (go_none1 (x := #[]) xo4_17 rfl rfl rfl rfl (by kernel_rfl)
  (go_none1 (x := #[]) xo4_17 rfl rfl rfl rfl (by kernel_rfl)
  (go_none1 (x := #[]) xo4_17 rfl rfl rfl rfl (by kernel_rfl)
  (go_none1 (x := #[]) xo4_17 rfl rfl rfl rfl (by kernel_rfl)
  (go_skip1 xo4_17 rfl rfl rfl rfl (by kernel_rfl)
  (by kernel_rfl)))))))))))))))
  (st_no (by kernel_rfl) (st_id (v := t99) (H := h) (by kernel_rfl)
  (by kernel_rfl)))
  (by kernel_rfl))
theorem xm4_39 (s : Sys) (k wl : Nat) (m0 : Nat) (ac : List Nat × List Nat) (t0 t1 t2 t3 t4 t5 t6 t7 t8 t9 t10 t11 t12 t13 t14 t15 t16 t17 t18 t19 t20 t21 t22 t23 t24 t25 t26 t27 t28 t29 t30 t31 t32 t33 t34 t35 t36 t37 t38 t39 t40 t41 t42 t43 t44 t45 t46 t47 t48 t49 t50 t51 t52 t53 t54 t55 t56 t57 t58 t59 t60 t61 t62 t63 t64 t65 t66 t67 t68 t69 t70 t71 t72 t73 t74 t75 t76 t77 t78 t79 t80 t81 t82 t83 t84 t85 t86 t87 t88 t89 t90 t91 t92 t93 t94 t95 t96 t97 t98 t99 t100 t101 t102 t103 t104 t105 t106 t107 t108 t109 t110 t111 t112 t113 t114 t115 t116 t117 : V) (h : Hp) : opsP (xX s 4 wl k false) xg4_3 21 m0 ac (runK (xX s 4 wl k false) (bodyK s.P Try.f4) xk4_4) ⟨(t0::t1::t2::t3::t4::t5::t6::t7::t8::t9::t10::t11::t12::t13::t14::t15::t16::t17::t18::t19::t20::t21::t22::t23::t24::t25::t26::t27::t28::t29::t30::t31::t32::t33::t34::t35::t36::t37::t38::t39::t40::t41::t42::t43::t44::t45::t46::t47::t48::t49::t50::t51::t52::t53::t54::t55::t56::t57::t58::t59::t60::t61::t62::t63::t64::t65::t66::t67::t68::t69::t70::t71::t72::t73::t74::t75::t76::t77::t78::t79::t80::t81::t82::t83::t84::t85::t86::t87::t88::t89::t90::t91::t92::t93::t94::t95::t96::t97::t98::t99::t100::t101::t102::t103::t104::t105::t106::t107::t108::t109::t110::t111::t112::t113::t114::t115::t116::t117::[]),h⟩ =
  gd t77 (
  bm (vLoad s.P 26 t84 h) h fun v260 h261 =>
  bm (vFieldAddr s.P 28 t5 2) h261 fun v262 h263 =>
  bm (vLoad s.P 3 v262 h263) h263 fun v264 h265 =>
  bp (callV (xX s 4 wl k false) true true (.fn (.func 29) [] []) [v260,v264] h265) fun v266 h267 =>
  bm (vBin s.P .eql 26 t81 v266) h267 fun v268 h269 =>
  opsP (xX s 4 wl k false) xg4_3 26 m0 ac (runK (xX s 4 wl k false) (bodyK s.P Try.f4) xk4_4) ⟨(t0::t1::t2::t3::t4::t5::t6::t7::t8::t9::t10::t11::t12::t13::t14::t15::t16::t17::t18::t19::t20::t21::t22::t23::t24::t25::t26::t27::t28::t29::t30::t31::t32::t33::t34::t35::t36::t37::t38::t39::t40::t41::t42::t43::t44::t45::t46::t47::t48::t49::t50::t51::t52::t53::t54::t55::t56::t57::t58::t59::t60::t61::t62::t63::t64::t65::t66::t67::t68::t69::t70::t71::t72::t73::t74::t75::t76::(V.lit (Value.bool true))::t78::t79::t80::t81::t82::t83::t84::v260::v262::v264::v266::v268::t90::t91::t92::t93::t94::t95::t96::t97::t98::t99::t100::t101::t102::t103::t104::t105::t106::t107::t108::t109::t110::t111::t112::t113::t114::t115::t116::t117::[]),h269⟩) (
  opsP (xX s 4 wl k false) xg4_3 26 m0 ac (runK (xX s 4 wl k false) (bodyK s.P Try.f4) xk4_4) ⟨(t0::t1::t2::t3::t4::t5::t6::t7::t8::t9::t10::t11::t12::t13::t14::t15::t16::t17::t18::t19::t20::t21::t22::t23::t24::t25::t26::t27::t28::t29::t30::t31::t32::t33::t34::t35::t36::t37::t38::t39::t40::t41::t42::t43::t44::t45::t46::t47::t48::t49::t50::t51::t52::t53::t54::t55::t56::t57::t58::t59::t60::t61::t62::t63::t64::t65::t66::t67::t68::t69::t70::t71::t72::t73::t74::t75::t76::(V.lit (Value.bool false))::t78::t79::t80::t81::t82::t83::t84::uu::uu::uu::uu::uu::t90::t91::t92::t93::t94::t95::t96::t97::t98::t99::t100::t101::t102::t103::t104::t105::t106::t107::t108::t109::t110::t111::t112::t113::t114::t115::t116::t117::[]),h⟩) (
  opsP (xX s 4 wl k false) xg4_3 22 m0 ac (runK (xX s 4 wl k false) (bodyK s.P Try.f4) xk4_4) ⟨(t0::t1::t2::t3::t4::t5::t6::t7::t8::t9::t10::t11::t12::t13::t14::t15::t16::t17::t18::t19::t20::t21::t22::t23::t24::t25::t26::t27::t28::t29::t30::t31::t32::t33::t34::t35::t36::t37::t38::t39::t40::t41::t42::t43::t44::t45::t46::t47::t48::t49::t50::t51::t52::t53::t54::t55::t56::t57::t58::t59::t60::t61::t62::t63::t64::t65::t66::t67::t68::t69::t70::t71::t72::t73::t74::t75::t76::t77::t78::t79::t80::t81::t82::t83::t84::uu::t86::t87::t88::t89::t90::t91::t92::t93::t94::t95::t96::t97::t98::t99::t100::t101::t102::t103::t104::t105::t106::t107::t108::t109::t110::t111::t112::t113::t114::t115::t116::t117::[]),h⟩) :=
  (go_gdT1 xo4_17 xo4_17a rfl rfl rfl rfl (by kernel_rfl)
  (st_no (by kernel_rfl) (st_bm (by kernel_rfl) fun v260 h261 =>
  (go_run1 xo4_17 xo4_17a rfl rfl rfl rfl (by kernel_rfl) (st_no (by kernel_rfl) (st_bm (by kernel_rfl) fun v262 h263 =>
  (go_run1 xo4_17 xo4_17a rfl rfl rfl rfl (by kernel_rfl) (st_no (by kernel_rfl) (st_bm (by kernel_rfl) fun v264 h265 =>
  (go_run1 xo4_17 xo4_17a rfl rfl rfl rfl (by kernel_rfl) (st_no (by kernel_rfl) (st_bp (by kernel_rfl) fun v266 h267 =>
  (go_run1 xo4_17 xo4_17a rfl rfl rfl rfl (by kernel_rfl) (st_no (by kernel_rfl) (st_bm (by kernel_rfl) fun v268 h269 =>
  (by kernel_rfl)))))))))))))))
  (go_skip1 xo4_17 rfl rfl rfl rfl (by kernel_rfl)
  (go_skip1 xo4_17 rfl rfl rfl rfl (by kernel_rfl)
  (go_skip1 xo4_17 rfl rfl rfl rfl (by kernel_rfl)
  (go_skip1 xo4_17 rfl rfl rfl rfl (by kernel_rfl)
  (by kernel_rfl)))))
  (by kernel_rfl))
theorem xm4_40 (s : Sys) (k wl : Nat) (m0 : Nat) (ac : List Nat × List Nat) (t0 t1 t2 t3 t4 t5 t6 t7 t8 t9 t10 t11 t12 t13 t14 t15 t16 t17 t18 t19 t20 t21 t22 t23 t24 t25 t26 t27 t28 t29 t30 t31 t32 t33 t34 t35 t36 t37 t38 t39 t40 t41 t42 t43 t44 t45 t46 t47 t48 t49 t50 t51 t52 t53 t54 t55 t56 t57 t58 t59 t60 t61 t62 t63 t64 t65 t66 t67 t68 t69 t70 t71 t72 t73 t74 t75 t76 t77 t78 t79 t80 t81 t82 t83 t84 t85 t86 t87 t88 t89 t90 t91 t92 t93 t94 t95 t96 t97 t98 t99 t100 t101 t102 t103 t104 t105 t106 t107 t108 t109 t110 t111 t112 t113 t114 t115 t116 t117 : V) (h : Hp) : opsP (xX s 4 wl k false) xg4_3 50 m0 ac (runK (xX s 4 wl k false) (bodyK s.P Try.f4) xk4_4) ⟨(t0::t1::t2::t3::t4::t5::t6::t7::t8::t9::t10::t11::t12::t13::t14::t15::t16::t17::t18::t19::t20::t21::t22::t23::t24::t25::t26::t27::t28::t29::t30::t31::t32::t33::t34::t35::t36::t37::t38::t39::t40::t41::t42::t43::t44::t45::t46::t47::t48::t49::t50::t51::t52::t53::t54::t55::t56::t57::t58::t59::t60::t61::t62::t63::t64::t65::t66::t67::t68::t69::t70::t71::t72::t73::t74::t75::t76::t77::t78::t79::t80::t81::t82::t83::t84::t85::t86::t87::t88::t89::t90::t91::t92::t93::t94::t95::t96::t97::t98::t99::t100::t101::t102::t103::t104::t105::t106::t107::t108::t109::t110::t111::t112::t113::t114::t115::t116::t117::[]),h⟩ =
  gd t96 (
  opsP (xX s 4 wl k false) xg4_3 51 m0 ac (runK (xX s 4 wl k false) (bodyK s.P Try.f4) xk4_4) ⟨(t0::t1::t2::t3::t4::t5::t6::t7::t8::t9::t10::t11::t12::t13::t14::t15::t16::t17::t18::t19::t20::t21::t22::t23::t24::t25::t26::t27::t28::t29::t30::t31::t32::t33::t34::t35::t36::t37::t38::t39::t40::t41::t42::t43::t44::t45::t46::t47::t48::t49::t50::t51::t52::t53::t54::t55::t56::t57::t58::t59::t60::t61::t62::t63::t64::t65::t66::t67::t68::t69::t70::t71::t72::t73::t74::t75::t76::t77::t78::t79::t80::t81::t82::t83::t84::t85::t86::t87::t88::t89::t90::t91::t92::t93::t94::t95::(V.lit (Value.bool true))::t97::t98::t99::t100::t101::t102::t103::t104::t105::t106::t107::t108::t109::t110::t111::t112::t113::uu::t115::t116::t117::[]),h⟩) (
  bm (vPick t108 t113 (V.lit (Value.bool false))) h fun v270 h271 =>
  opsP (xX s 4 wl k false) xg4_3 51 m0 ac (runK (xX s 4 wl k false) (bodyK s.P Try.f4) xk4_4) ⟨(t0::t1::t2::t3::t4::t5::t6::t7::t8::t9::t10::t11::t12::t13::t14::t15::t16::t17::t18::t19::t20::t21::t22::t23::t24::t25::t26::t27::t28::t29::t30::t31::t32::t33::t34::t35::t36::t37::t38::t39::t40::t41::t42::t43::t44::t45::t46::t47::t48::t49::t50::t51::t52::t53::t54::t55::t56::t57::t58::t59::t60::t61::t62::t63::t64::t65::t66::t67::t68::t69::t70::t71::t72::t73::t74::t75::t76::t77::t78::t79::t80::t81::t82::t83::t84::t85::t86::t87::t88::t89::t90::t91::t92::t93::t94::t95::(V.lit (Value.bool false))::t97::t98::t99::t100::t101::t102::t103::t104::t105::t106::t107::t108::t109::t110::t111::t112::t113::v270::t115::t116::t117::[]),h271⟩) (
  opsP (xX s 4 wl k false) xg4_3 51 m0 ac (runK (xX s 4 wl k false) (bodyK s.P Try.f4) xk4_4) ⟨(t0::t1::t2::t3::t4::t5::t6::t7::t8::t9::t10::t11::t12::t13::t14::t15::t16::t17::t18::t19::t20::t21::t22::t23::t24::t25::t26::t27::t28::t29::t30::t31::t32::t33::t34::t35::t36::t37::t38::t39::t40::t41::t42::t43::t44::t45::t46::t47::t48::t49::t50::t51::t52::t53::t54::t55::t56::t57::t58::t59::t60::t61::t62::t63::t64::t65::t66::t67::t68::t69::t70::t71::t72::t73::t74::t75::t76::t77::t78::t79::t80::t81::t82::t83::t84::t85::t86::t87::t88::t89::t90::t91::t92::t93::t94::t95::t96::t97::t98::t99::t100::t101::t102::t103::t104::t105::t106::t107::t108::t109::t110::t111::t112::t113::uu::t115::t116::t117::[]),h⟩) :=
  (go_gdF1 xo4_17 xo4_17a rfl rfl rfl rfl (by kernel_rfl)
  (by kernel_rfl)
  (st_no (by kernel_rfl) (st_bm (by kernel_rfl) fun v270 h271 =>
  (by kernel_rfl)))
  (by kernel_rfl))
theorem xm4_41 (s : Sys) (k wl : Nat) (m0 : Nat) (ac : List Nat × List Nat) (t0 t1 t2 t3 t4 t5 t6 t7 t8 t9 t10 t11 t12 t13 t14 t15 t16 t17 t18 t19 t20 t21 t22 t23 t24 t25 t26 t27 t28 t29 t30 t31 t32 t33 t34 t35 t36 t37 t38 t39 t40 t41 t42 t43 t44 t45 t46 t47 t48 t49 t50 t51 t52 t53 t54 t55 t56 t57 t58 t59 t60 t61 t62 t63 t64 t65 t66 t67 t68 t69 t70 t71 t72 t73 t74 t75 t76 t77 t78 t79 t80 t81 t82 t83 t84 t85 t86 t87 t88 t89 t90 t91 t92 t93 t94 t95 t96 t97 t98 t99 t100 t101 t102 t103 t104 t105 t106 t107 t108 t109 t110 t111 t112 t113 t114 t115 t116 t117 : V) (h : Hp) : opsP (xX s 4 wl k false) xg4_3 46 m0 ac (runK (xX s 4 wl k false) (bodyK s.P Try.f4) xk4_4) ⟨(t0::t1::t2::t3::t4::t5::t6::t7::t8::t9::t10::t11::t12::t13::t14::t15::t16::t17::t18::t19::t20::t21::t22::t23::t24::t25::t26::t27::t28::t29::t30::t31::t32::t33::t34::t35::t36::t37::t38::t39::t40::t41::t42::t43::t44::t45::t46::t47::t48::t49::t50::t51::t52::t53::t54::t55::t56::t57::t58::t59::t60::t61::t62::t63::t64::t65::t66::t67::t68::t69::t70::t71::t72::t73::t74::t75::t76::t77::t78::t79::t80::t81::t82::t83::t84::t85::t86::t87::t88::t89::t90::t91::t92::t93::t94::t95::t96::t97::t98::t99::t100::t101::t102::t103::t104::t105::t106::t107::t108::t109::t110::t111::t112::t113::t114::t115::t116::t117::[]),h⟩ =
  gd t108 (
  bm (vIndexAddr s.P 25 t109 t11 h) h fun v272 h273 =>
  bm (vLoad s.P 26 v272 h273) h273 fun v274 h275 =>
  bm (vBin s.P .eql 26 v274 (V.lit (Value.int .u64 0))) h275 fun v276 h277 =>
  opsP (xX s 4 wl k false) xg4_3 50 m0 ac (runK (xX s 4 wl k false) (bodyK s.P Try.f4) xk4_4) ⟨(t0::t1::t2::t3::t4::t5::t6::t7::t8::t9::t10::t11::t12::t13::t14::t15::t16::t17::t18::t19::t20::t21::t22::t23::t24::t25::t26::t27::t28::t29::t30::t31::t32::t33::t34::t35::t36::t37::t38::t39::t40::t41::t42::t43::t44::t45::t46::t47::t48::t49::t50::t51::t52::t53::t54::t55::t56::t57::t58::t59::t60::t61::t62::t63::t64::t65::t66::t67::t68::t69::t70::t71::t72::t73::t74::t75::t76::t77::t78::t79::t80::t81::t82::t83::t84::t85::t86::t87::t88::t89::t90::t91::t92::t93::t94::t95::t96::t97::t98::t99::t100::t101::t102::t103::t104::t105::t106::t107::(V.lit (Value.bool true))::t109::t11::v272::v274::v276::t114::t115::t116::t117::[]),h277⟩) (
  opsP (xX s 4 wl k false) xg4_3 50 m0 ac (runK (xX s 4 wl k false) (bodyK s.P Try.f4) xk4_4) ⟨(t0::t1::t2::t3::t4::t5::t6::t7::t8::t9::t10::t11::t12::t13::t14::t15::t16::t17::t18::t19::t20::t21::t22::t23::t24::t25::t26::t27::t28::t29::t30::t31::t32::t33::t34::t35::t36::t37::t38::t39::t40::t41::t42::t43::t44::t45::t46::t47::t48::t49::t50::t51::t52::t53::t54::t55::t56::t57::t58::t59::t60::t61::t62::t63::t64::t65::t66::t67::t68::t69::t70::t71::t72::t73::t74::t75::t76::t77::t78::t79::t80::t81::t82::t83::t84::t85::t86::t87::t88::t89::t90::t91::t92::t93::t94::t95::t96::t97::t98::t99::t100::t101::t102::t103::t104::t105::t106::t107::(V.lit (Value.bool false))::t109::uu::uu::uu::uu::t114::t115::t116::t117::[]),h⟩) (
  opsP (xX s 4 wl k false) xg4_3 47 m0 ac (runK (xX s 4 wl k false) (bodyK s.P Try.f4) xk4_4) ⟨(t0::t1::t2::t3::t4::t5::t6::t7::t8::t9::t10::t11::t12::t13::t14::t15::t16::t17::t18::t19::t20::t21::t22::t23::t24::t25::t26::t27::t28::t29::t30::t31::t32::t33::t34::t35::t36::t37::t38::t39::t40::t41::t42::t43::t44::t45::t46::t47::t48::t49::t50::t51::t52::t53::t54::t55::t56::t57::t58::t59::t60::t61::t62::t63::t64::t65::t66::t67::t68::t69::t70::t71::t72::t73::t74::t75::t76::t77::t78::t79::t80::t81::t82::t83::t84::t85::t86::t87::t88::t89::t90::t91::t92::t93::t94::t95::t96::t97::t98::t99::t100::t101::t102::t103::t104::t105::t106::t107::t108::t109::uu::t111::t112::t113::t114::t115::t116::t117::[]),h⟩) :=
  (go_gdT1 xo4_17 xo4_17a rfl rfl rfl rfl (by kernel_rfl)
  (st_no (by kernel_rfl) (st_id (v := t11) (H := h) (by kernel_rfl)
  (go_run1 xo4_17 xo4_17a rfl rfl rfl rfl (by kernel_rfl) (st_no (by kernel_rfl) (st_bm (by kernel_rfl) fun v272 h273 =>
  (go_run1 xo4_17 xo4_17a rfl rfl rfl rfl (by kernel_rfl) (st_no (by kernel_rfl) (st_bm (by kernel_rfl) fun v274 h275 =>
  (go_run1 xo4_17 xo4_17a rfl rfl rfl rfl (by kernel_rfl) (st_no (by kernel_rfl) (st_bm (by kernel_rfl) fun v276 h277 =>
  (by kernel_rfl))))))))))))
  (go_skip1 xo4_17 rfl rfl rfl rfl (by kernel_rfl)
  (go_skip1 xo4_17 rfl rfl rfl rfl (by kernel_rfl)
  (go_skip1 xo4_17 rfl rfl rfl rfl (by kernel_rfl)
  (by kernel_rfl))))
  (by kernel_rfl))
theorem xm4_42 (s : Sys) (k wl : Nat) (m0 : Nat) (ac : List Nat × List Nat) (t0 t1 t2 t3 t4 t5 t6 t7 t8 t9 t10 t11 t12 t13 t14 t15 t16 t17 t18 t19 t20 t21 t22 t23 t24 t25 t26 t27 t28 t29 t30 t31 t32 t33 t34 t35 t36 t37 t38 t39 t40 t41 t42 t43 t44 t45 t46 t47 t48 t49 t50 t51 t52 t53 t54 t55 t56 t57 t58 t59 t60 t61 t62 t63 t64 t65 t66 t67 t68 t69 t70 t71 t72 t73 t74 t75 t76 t77 t78 t79 t80 t81 t82 t83 t84 t85 t86 t87 t88 t89 t90 t91 t92 t93 t94 t95 t96 t97 t98 t99 t100 t101 t102 t103 t104 t105 t106 t107 t108 t109 t110 t111 t112 t113 t114 t115 t116 t117 : V) (h : Hp) : opsP (xX s 4 wl k false) xg4_3 40 m0 ac (runK (xX s 4 wl k false) (bodyK s.P Try.f4) xk4_4) ⟨(t0::t1::t2::t3::t4::t5::t6::t7::t8::t9::t10::t11::t12::t13::t14::t15::t16::t17::t18::t19::t20::t21::t22::t23::t24::t25::t26::t27::t28::t29::t30::t31::t32::t33::t34::t35::t36::t37::t38::t39::t40::t41::t42::t43::t44::t45::t46::t47::t48::t49::t50::t51::t52::t53::t54::t55::t56::t57::t58::t59::t60::t61::t62::t63::t64::t65::t66::t67::t68::t69::t70::t71::t72::t73::t74::t75::t76::t77::t78::t79::t80::t81::t82::t83::t84::t85::t86::t87::t88::t89::t90::t91::t92::t93::t94::t95::t96::t97::t98::t99::t100::t101::t102::t103::t104::t105::t106::t107::t108::t109::t110::t111::t112::t113::t114::t115::t116::t117::[]),h⟩ =
  gd t100 (
  bm (vLoad s.P 3 t103 h) h fun v278 h279 =>
  bp (callV (xX s 4 wl k false) false true (.fn (.func 30) [] []) [t102,v278] h279) fun v280 h281 =>
  bm (vBin s.P .eql 3 t101 v280) h281 fun v282 h283 =>
  opsP (xX s 4 wl k false) xg4_3 43 m0 ac (runK (xX s 4 wl k false) (bodyK s.P Try.f4) xk4_4) ⟨(t0::t1::t2::t3::t4::t5::t6::t7::t8::t9::t10::t11::t12::t13::t14::t15::t16::t17::t18::t19::t20::t21::t22::t23::t24::t25::t26::t27::t28::t29::t30::t31::t32::t33::t34::t35::t36::t37::t38::t39::t40::t41::t42::t43::t44::t45::t46::t47::t48::t49::t50::t51::t52::t53::t54::t55::t56::t57::t58::t59::t60::t61::t62::t63::t64::t65::t66::t67::t68::t69::t70::t71::t72::t73::t74::t75::t76::t77::t78::t79::t80::t81::t82::t83::t84::t85::t86::t87::t88::t89::t90::t91::t92::t93::t94::t95::t96::t97::t98::t99::(V.lit (Value.bool true))::t101::t102::t103::v278::v280::v282::t107::t108::t109::t110::t111::t112::t113::t114::t115::t116::t117::[]),h283⟩) (
  opsP (xX s 4 wl k false) xg4_3 43 m0 ac (runK (xX s 4 wl k false) (bodyK s.P Try.f4) xk4_4) ⟨(t0::t1::t2::t3::t4::t5::t6::t7::t8::t9::t10::t11::t12::t13::t14::t15::t16::t17::t18::t19::t20::t21::t22::t23::t24::t25::t26::t27::t28::t29::t30::t31::t32::t33::t34::t35::t36::t37::t38::t39::t40::t41::t42::t43::t44::t45::t46::t47::t48::t49::t50::t51::t52::t53::t54::t55::t56::t57::t58::t59::t60::t61::t62::t63::t64::t65::t66::t67::t68::t69::t70::t71::t72::t73::t74::t75::t76::t77::t78::t79::t80::t81::t82::t83::t84::t85::t86::t87::t88::t89::t90::t91::t92::t93::t94::t95::t96::t97::t98::t99::(V.lit (Value.bool false))::t101::t102::t103::uu::uu::uu::t107::t108::t109::t110::t111::t112::t113::t114::t115::t116::t117::[]),h⟩) (
  opsP (xX s 4 wl k false) xg4_3 41 m0 ac (runK (xX s 4 wl k false) (bodyK s.P Try.f4) xk4_4) ⟨(t0::t1::t2::t3::t4::t5::t6::t7::t8::t9::t10::t11::t12::t13::t14::t15::t16::t17::t18::t19::t20::t21::t22::t23::t24::t25::t26::t27::t28::t29::t30::t31::t32::t33::t34::t35::t36::t37::t38::t39::t40::t41::t42::t43::t44::t45::t46::t47::t48::t49::t50::t51::t52::t53::t54::t55::t56::t57::t58::t59::t60::t61::t62::t63::t64::t65::t66::t67::t68::t69::t70::t71::t72::t73::t74::t75::t76::t77::t78::t79::t80::t81::t82::t83::t84::t85::t86::t87::t88::t89::t90::t91::t92::t93::t94::t95::t96::t97::t98::t99::t100::t101::t102::t103::uu::t105::t106::t107::t108::t109::t110::t111::t112::t113::t114::t115::t116::t117::[]),h⟩) :=
  (go_gdT1 xo4_17 xo4_17a rfl rfl rfl rfl (by kernel_rfl)
  (st_no (by kernel_rfl) (st_bm (by kernel_rfl) fun v278 h279 =>
  (go_run1 xo4_17 xo4_17a rfl rfl rfl rfl (by kernel_rfl) (st_no (by kernel_rfl) (st_bp (by kernel_rfl) fun v280 h281 =>
  (go_run1 xo4_17 xo4_17a rfl rfl rfl rfl (by kernel_rfl) (st_no (by kernel_rfl) (st_bm (by kernel_rfl) fun v282 h283 =>
  (by kernel_rfl)))))))))
  (go_skip1 xo4_17 rfl rfl rfl rfl (by kernel_rfl)
  (go_skip1 xo4_17 rfl rfl rfl rfl (by kernel_rfl)
  (by kernel_rfl)))
  (by kernel_rfl))
theorem xm4_43 (s : Sys) (k wl : Nat) (m0 : Nat) (ac : List Nat × List Nat) (t0 t1 t2 t3 t4 t5 t6 t7 t8 t9 t10 t11 t12 t13 t14 t15 t16 t17 t18 t19 t20 t21 t22 t23 t24 t25 t26 t27 t28 t29 t30 t31 t32 t33 t34 t35 t36 t37 t38 t39 t40 t41 t42 t43 t44 t45 t46 t47 t48 t49 t50 t51 t52 t53 t54 t55 t56 t57 t58 t59 t60 t61 t62 t63 t64 t65 t66 t67 t68 t69 t70 t71 t72 t73 t74 t75 t76 t77 t78 t79 t80 t81 t82 t83 t84 t85 t86 t87 t88 t89 t90 t91 t92 t93 t94 t95 t96 t97 t98 t99 t100 t101 t102 t103 t104 t105 t106 t107 t108 t109 t110 t111 t112 t113 t114 t115 t116 t117 : V) (h : Hp) : opsP (xX s 4 wl k false) xg4_3 22 m0 ac (runK (xX s 4 wl k false) (bodyK s.P Try.f4) xk4_4) ⟨(t0::t1::t2::t3::t4::t5::t6::t7::t8::t9::t10::t11::t12::t13::t14::t15::t16::t17::t18::t19::t20::t21::t22::t23::t24::t25::t26::t27::t28::t29::t30::t31::t32::t33::t34::t35::t36::t37::t38::t39::t40::t41::t42::t43::t44::t45::t46::t47::t48::t49::t50::t51::t52::t53::t54::t55::t56::t57::t58::t59::t60::t61::t62::t63::t64::t65::t66::t67::t68::t69::t70::t71::t72::t73::t74::t75::t76::t77::t78::t79::t80::t81::t82::t83::t84::t85::t86::t87::t88::t89::t90::t91::t92::t93::t94::t95::t96::t97::t98::t99::t100::t101::t102::t103::t104::t105::t106::t107::t108::t109::t110::t111::t112::t113::t114::t115::t116::t117::[]),h⟩ =
  gd t77 (
  bm (vFieldAddr s.P 28 t5 2) h fun v284 h285 =>
  bm (vLoad s.P 3 v284 h285) h285 fun v286 h287 =>
  bp (callV (xX s 4 wl k false) true true (.fn (.func 29) [] []) [t85,v286] h287) fun v288 h289 =>
  bm (vBin s.P .eql 26 t81 v288) h289 fun v290 h291 =>
  opsP (xX s 4 wl k false) xg4_3 26 m0 ac (runK (xX s 4 wl k false) (bodyK s.P Try.f4) xk4_4) ⟨(t0::t1::t2::t3::t4::t5::t6::t7::t8::t9::t10::t11::t12::t13::t14::t15::t16::t17::t18::t19::t20::t21::t22::t23::t24::t25::t26::t27::t28::t29::t30::t31::t32::t33::t34::t35::t36::t37::t38::t39::t40::t41::t42::t43::t44::t45::t46::t47::t48::t49::t50::t51::t52::t53::t54::t55::t56::t57::t58::t59::t60::t61::t62::t63::t64::t65::t66::t67::t68::t69::t70::t71::t72::t73::t74::t75::t76::(V.lit (Value.bool true))::t78::t79::t80::t81::t82::t83::t84::t85::v284::v286::v288::v290::t90::t91::t92::t93::t94::t95::t96::t97::t98::t99::t100::t101::t102::t103::t104::t105::t106::t107::t108::t109::t110::t111::t112::t113::t114::t115::t116::t117::[]),h291⟩) (
  opsP (xX s 4 wl k false) xg4_3 26 m0 ac (runK (xX s 4 wl k false) (bodyK s.P Try.f4) xk4_4) ⟨(t0::t1::t2::t3::t4::t5::t6::t7::t8::t9::t10::t11::t12::t13::t14::t15::t16::t17::t18::t19::t20::t21::t22::t23::t24::t25::t26::t27::t28::t29::t30::t31::t32::t33::t34::t35::t36::t37::t38::t39::t40::t41::t42::t43::t44::t45::t46::t47::t48::t49::t50::t51::t52::t53::t54::t55::t56::t57::t58::t59::t60::t61::t62::t63::t64::t65::t66::t67::t68::t69::t70::t71::t72::t73::t74::t75::t76::(V.lit (Value.bool false))::t78::t79::t80::t81::t82::t83::t84::t85::uu::uu::uu::uu::t90::t91::t92::t93::t94::t95::t96::t97::t98::t99::t100::t101::t102::t103::t104::t105::t106::t107::t108::t109::t110::t111::t112::t113::t114::t115::t116::t117::[]),h⟩) (
  opsP (xX s 4 wl k false) xg4_3 23 m0 ac (runK (xX s 4 wl k false) (bodyK s.P Try.f4) xk4_4) ⟨(t0::t1::t2::t3::t4::t5::t6::t7::t8::t9::t10::t11::t12::t13::t14::t15::t16::t17::t18::t19::t20::t21::t22::t23::t24::t25::t26::t27::t28::t29::t30::t31::t32::t33::t34::t35::t36::t37::t38::t39::t40::t41::t42::t43::t44::t45::t46::t47::t48::t49::t50::t51::t52::t53::t54::t55::t56::t57::t58::t59::t60::t61::t62::t63::t64::t65::t66::t67::t68::t69::t70::t71::t72::t73::t74::t75::t76::t77::t78::t79::t80::t81::t82::t83::t84::t85::uu::t87::t88::t89::t90::t91::t92::t93::t94::t95::t96::t97::t98::t99::t100::t101::t102::t103::t104::t105::t106::t107::t108::t109::t110::t111::t112::t113::t114::t115::t116::t117::[]),h⟩) :=
  (go_gdT1 xo4_17 xo4_17a rfl rfl rfl rfl (by kernel_rfl)
  (st_no (by kernel_rfl) (st_bm (by kernel_rfl) fun v284 h285 =>
  (go_run1 xo4_17 xo4_17a rfl rfl rfl rfl (by kernel_rfl) (st_no (by kernel_rfl) (st_bm (by kernel_rfl) fun v286 h287 =>
  (go_run1 xo4_17 xo4_17a rfl rfl rfl rfl (by kernel_rfl) (st_no (by kernel_rfl) (st_bp (by kernel_rfl) fun v288 h289 =>
  (go_run1 xo4_17 xo4_17a rfl rfl rfl rfl (by kernel_rfl) (st_no (by kernel_rfl) (st_bm (by kernel_rfl) fun v290 h291 =>
  (by kernel_rfl))))))))))))
  (go_skip1 xo4_17 rfl rfl rfl rfl (by kernel_rfl)
  (go_skip1 xo4_17 rfl rfl rfl rfl (by kernel_rfl)
  (go_skip1 xo4_17 rfl rfl rfl rfl (by kernel_rfl)
  (by kernel_rfl))))
  (by kernel_rfl))
theorem xm4_44 (s : Sys) (k wl : Nat) (m0 : Nat) (ac : List Nat × List Nat) (t0 t1 t2 t3 t4 t5 t6 t7 t8 t9 t10 t11 t12 t13 t14 t15 t16 t17 t18 t19 t20 t21 t22 t23 t24 t25 t26 t27 t28 t29 t30 t31 t32 t33 t34 t35 t36 t37 t38 t39 t40 t41 t42 t43 t44 t45 t46 t47 t48 t49 t50 t51 t52 t53 t54 t55 t56 t57 t58 t59 t60 t61 t62 t63 t64 t65 t66 t67 t68 t69 t70 t71 t72 t73 t74 t75 t76 t77 t78 t79 t80 t81 t82 t83 t84 t85 t86 t87 t88 t89 t90 t91 t92 t93 t94 t95 t96 t97 t98 t99 t100 t101 t102 t103 t104 t105 t106 t107 t108 t109 t110 t111 t112 t113 t114 t115 t116 t117 : V) (h : Hp) : opsP (xX s 4 wl k false) xg4_3 47 m0 ac (runK (xX s 4 wl k false) (bodyK s.P Try.f4) xk4_4) ⟨(t0::t1::t2::t3::t4::t5::t6::t7::t8::t9::t10::t11::t12::t13::t14::t15::t16::t17::t18::t19::t20::t21::t22::t23::t24::t25::t26::t27::t28::t29::t30::t31::t32::t33::t34::t35::t36::t37::t38::t39::t40::t41::t42::t43::t44::t45::t46::t47::t48::t49::t50::t51::t52::t53::t54::t55::t56::t57::t58::t59::t60::t61::t62::t63::t64::t65::t66::t67::t68::t69::t70::t71::t72::t73::t74::t75::t76::t77::t78::t79::t80::t81::t82::t83::t84::t85::t86::t87::t88::t89::t90::t91::t92::t93::t94::t95::t96::t97::t98::t99::t100::t101::t102::t103::t104::t105::t106::t107::t108::t109::t110::t111::t112::t113::t114::t115::t116::t117::[]),h⟩ =
  gd t108 (
  bm (vIndexAddr s.P 25 t109 t110 h) h fun v292 h293 =>
  bm (vLoad s.P 26 v292 h293) h293 fun v294 h295 =>
  bm (vBin s.P .eql 26 v294 (V.lit (Value.int .u64 0))) h295 fun v296 h297 =>
  opsP (xX s 4 wl k false) xg4_3 50 m0 ac (runK (xX s 4 wl k false) (bodyK s.P Try.f4) xk4_4) ⟨(t0::t1::t2::t3::t4::t5::t6::t7::t8::t9::t10::t11::t12::t13::t14::t15::t16::t17::t18::t19::t20::t21::t22::t23::t24::t25::t26::t27::t28::t29::t30::t31::t32::t33::t34::t35::t36::t37::t38::t39::t40::t41::t42::t43::t44::t45::t46::t47::t48::t49::t50::t51::t52::t53::t54::t55::t56::t57::t58::t59::t60::t61::t62::t63::t64::t65::t66::t67::t68::t69::t70::t71::t72::t73::t74::t75::t76::t77::t78::t79::t80::t81::t82::t83::t84::t85::t86::t87::t88::t89::t90::t91::t92::t93::t94::t95::t96::t97::t98::t99::t100::t101::t102::t103::t104::t105::t106::t107::(V.lit (Value.bool true))::t109::t110::v292::v294::v296::t114::t115::t116::t117::[]),h297⟩) (
  opsP (xX s 4 wl k false) xg4_3 50 m0 ac (runK (xX s 4 wl k false) (bodyK s.P Try.f4) xk4_4) ⟨(t0::t1::t2::t3::t4::t5::t6::t7::t8::t9::t10::t11::t12::t13::t14::t15::t16::t17::t18::t19::t20::t21::t22::t23::t24::t25::t26::t27::t28::t29::t30::t31::t32::t33::t34::t35::t36::t37::t38::t39::t40::t41::t42::t43::t44::t45::t46::t47::t48::t49::t50::t51::t52::t53::t54::t55::t56::t57::t58::t59::t60::t61::t62::t63::t64::t65::t66::t67::t68::t69::t70::t71::t72::t73::t74::t75::t76::t77::t78::t79::t80::t81::t82::t83::t84::t85::t86::t87::t88::t89::t90::t91::t92::t93::t94::t95::t96::t97::t98::t99::t100::t101::t102::t103::t104::t105::t106::t107::(V.lit (Value.bool false))::t109::t110::uu::uu::uu::t114::t115::t116::t117::[]),h⟩) (
  opsP (xX s 4 wl k false) xg4_3 48 m0 ac (runK (xX s 4 wl k false) (bodyK s.P Try.f4) xk4_4) ⟨(t0::t1::t2::t3::t4::t5::t6::t7::t8::t9::t10::t11::t12::t13::t14::t15::t16::t17::t18::t19::t20::t21::t22::t23::t24::t25::t26::t27::t28::t29::t30::t31::t32::t33::t34::t35::t36::t37::t38::t39::t40::t41::t42::t43::t44::t45::t46::t47::t48::t49::t50::t51::t52::t53::t54::t55::t56::t57::t58::t59::t60::t61::t62::t63::t64::t65::t66::t67::t68::t69::t70::t71::t72::t73::t74::t75::t76::t77::t78::t79::t80::t81::t82::t83::t84::t85::t86::t87::t88::t89::t90::t91::t92::t93::t94::t95::t96::t97::t98::t99::t100::t101::t102::t103::t104::t105::t106::t107::t108::t109::t110::uu::t112::t113::t114::t115::t116::t117::[]),h⟩) :=
  (go_gdT1 xo4_17 xo4_17a rfl rfl rfl rfl (by kernel_rfl)
  (st_no (by kernel_rfl) (st_bm (by kernel_rfl) fun v292 h293 =>
  (go_run1 xo4_17 xo4_17a rfl rfl rfl rfl (by kernel_rfl) (st_no (by kernel_rfl) (st_bm (by kernel_rfl) fun v294 h295 =>
  (go_run1 xo4_17 xo4_17a rfl rfl rfl rfl (by kernel_rfl) (st_no (by kernel_rfl) (st_bm (by kernel_rfl) fun v296 h297 =>
  (by kernel_rfl)))))))))
  (go_skip1 xo4_17 rfl rfl rfl rfl (by kernel_rfl)
  (go_skip1 xo4_17 rfl rfl rfl rfl (by kernel_rfl)
  (by kernel_rfl)))
  (by kernel_rfl))
theorem xm4_45 (s : Sys) (k wl : Nat) (m0 : Nat) (ac : List Nat × List Nat) (t0 t1 t2 t3 t4 t5 t6 t7 t8 t9 t10 t11 t12 t13 t14 t15 t16 t17 t18 t19 t20 t21 t22 t23 t24 t25 t26 t27 t28 t29 t30 t31 t32 t33 t34 t35 t36 t37 t38 t39 t40 t41 t42 t43 t44 t45 t46 t47 t48 t49 t50 t51 t52 t53 t54 t55 t56 t57 t58 t59 t60 t61 t62 t63 t64 t65 t66 t67 t68 t69 t70 t71 t72 t73 t74 t75 t76 t77 t78 t79 t80 t81 t82 t83 t84 t85 t86 t87 t88 t89 t90 t91 t92 t93 t94 t95 t96 t97 t98 t99 t100 t101 t102 t103 t104 t105 t106 t107 t108 t109 t110 t111 t112 t113 t114 t115 t116 t117 : V) (h : Hp) : opsP (xX s 4 wl k false) xg4_3 41 m0 ac (runK (xX s 4 wl k false) (bodyK s.P Try.f4) xk4_4) ⟨(t0::t1::t2::t3::t4::t5::t6::t7::t8::t9::t10::t11::t12::t13::t14::t15::t16::t17::t18::t19::t20::t21::t22::t23::t24::t25::t26::t27::t28::t29::t30::t31::t32::t33::t34::t35::t36::t37::t38::t39::t40::t41::t42::t43::t44::t45::t46::t47::t48::t49::t50::t51::t52::t53::t54::t55::t56::t57::t58::t59::t60::t61::t62::t63::t64::t65::t66::t67::t68::t69::t70::t71::t72::t73::t74::t75::t76::t77::t78::t79::t80::t81::t82::t83::t84::t85::t86::t87::t88::t89::t90::t91::t92::t93::t94::t95::t96::t97::t98::t99::t100::t101::t102::t103::t104::t105::t106::t107::t108::t109::t110::t111::t112::t113::t114::t115::t116::t117::[]),h⟩ =
  gd t100 (
  bp (callV (xX s 4 wl k false) false true (.fn (.func 30) [] []) [t102,t104] h) fun v298 h299 =>
  bm (vBin s.P .eql 3 t101 v298) h299 fun v300 h301 =>
  opsP (xX s 4 wl k false) xg4_3 43 m0 ac (runK (xX s 4 wl k false) (bodyK s.P Try.f4) xk4_4) ⟨(t0::t1::t2::t3::t4::t5::t6::t7::t8::t9::t10::t11::t12::t13::t14::t15::t16::t17::t18::t19::t20::t21::t22::t23::t24::t25::t26::t27::t28::t29::t30::t31::t32::t33::t34::t35::t36::t37::t38::t39::t40::t41::t42::t43::t44::t45::t46::t47::t48::t49::t50::t51::t52::t53::t54::t55::t56::t57::t58::t59::t60::t61::t62::t63::t64::t65::t66::t67::t68::t69::t70::t71::t72::t73::t74::t75::t76::t77::t78::t79::t80::t81::t82::t83::t84::t85::t86::t87::t88::t89::t90::t91::t92::t93::t94::t95::t96::t97::t98::t99::(V.lit (Value.bool true))::t101::t102::t103::t104::v298::v300::t107::t108::t109::t110::t111::t112::t113::t114::t115::t116::t117::[]),h301⟩) (
  opsP (xX s 4 wl k false) xg4_3 43 m0 ac (runK (xX s 4 wl k false) (bodyK s.P Try.f4) xk4_4) ⟨(t0::t1::t2::t3::t4::t5::t6::t7::t8::t9::t10::t11::t12::t13::t14::t15::t16::t17::t18::t19::t20::t21::t22::t23::t24::t25::t26::t27::t28::t29::t30::t31::t32::t33::t34::t35::t36::t37::t38::t39::t40::t41::t42::t43::t44::t45::t46::t47::t48::t49::t50::t51::t52::t53::t54::t55::t56::t57::t58::t59::t60::t61::t62::t63::t64::t65::t66::t67::t68::t69::t70::t71::t72::t73::t74::t75::t76::t77::t78::t79::t80::t81::t82::t83::t84::t85::t86::t87::t88::t89::t90::t91::t92::t93::t94::t95::t96::t97::t98::t99::(V.lit (Value.bool false))::t101::t102::t103::t104::uu::uu::t107::t108::t109::t110::t111::t112::t113::t114::t115::t116::t117::[]),h⟩) (
  opsP (xX s 4 wl k false) xg4_3 42 m0 ac (runK (xX s 4 wl k false) (bodyK s.P Try.f4) xk4_4) ⟨(t0::t1::t2::t3::t4::t5::t6::t7::t8::t9::t10::t11::t12::t13::t14::t15::t16::t17::t18::t19::t20::t21::t22::t23::t24::t25::t26::t27::t28::t29::t30::t31::t32::t33::t34::t35::t36::t37::t38::t39::t40::t41::t42::t43::t44::t45::t46::t47::t48::t49::t50::t51::t52::t53::t54::t55::t56::t57::t58::t59::t60::t61::t62::t63::t64::t65::t66::t67::t68::t69::t70::t71::t72::t73::t74::t75::t76::t77::t78::t79::t80::t81::t82::t83::t84::t85::t86::t87::t88::t89::t90::t91::t92::t93::t94::t95::t96::t97::t98::t99::t100::t101::t102::t103::t104::uu::t106::t107::t108::t109::t110::t111::t112::t113::t114::t115::t116::t117::[]),h⟩) :=
  (go_gdT1 xo4_17 xo4_17a rfl rfl rfl rfl (by kernel_rfl)
  (st_no (by kernel_rfl) (st_bp (by kernel_rfl) fun v298 h299 =>
  (go_run1 xo4_17 xo4_17a rfl rfl rfl rfl (by kernel_rfl) (st_no (by kernel_rfl) (st_bm (by kernel_rfl) fun v300 h301 =>
  (by kernel_rfl))))))
  (go_skip1 xo4_17 rfl rfl rfl rfl (by kernel_rfl)
  (by kernel_rfl))
  (by kernel_rfl))
theorem xm4_46 (s : Sys) (k wl : Nat) (m0 : Nat) (ac : List Nat × List Nat) (t0 t1 t2 t3 t4 t5 t6 t7 t8 t9 t10 t11 t12 t13 t14 t15 t16 t17 t18 t19 t20 t21 t22 t23 t24 t25 t26 t27 t28 t29 t30 t31 t32 t33 t34 t35 t36 t37 t38 t39 t40 t41 t42 t43 t44 t45 t46 t47 t48 t49 t50 t51 t52 t53 t54 t55 t56 t57 t58 t59 t60 t61 t62 t63 t64 t65 t66 t67 t68 t69 t70 t71 t72 t73 t74 t75 t76 t77 t78 t79 t80 t81 t82 t83 t84 t85 t86 t87 t88 t89 t90 t91 t92 t93 t94 t95 t96 t97 t98 t99 t100 t101 t102 t103 t104 t105 t106 t107 t108 t109 t110 t111 t112 t113 t114 t115 t116 t117 : V) (h : Hp) : opsP (xX s 4 wl k false) xg4_3 23 m0 ac (runK (xX s 4 wl k false) (bodyK s.P Try.f4) xk4_4) ⟨(t0::t1::t2::t3::t4::t5::t6::t7::t8::t9::t10::t11::t12::t13::t14::t15::t16::t17::t18::t19::t20::t21::t22::t23::t24::t25::t26::t27::t28::t29::t30::t31::t32::t33::t34::t35::t36::t37::t38::t39::t40::t41::t42::t43::t44::t45::t46::t47::t48::t49::t50::t51::t52::t53::t54::t55::t56::t57::t58::t59::t60::t61::t62::t63::t64::t65::t66::t67::t68::t69::t70::t71::t72::t73::t74::t75::t76::t77::t78::t79::t80::t81::t82::t83::t84::t85::t86::t87::t88::t89::t90::t91::t92::t93::t94::t95::t96::t97::t98::t99::t100::t101::t102::t103::t104::t105::t106::t107::t108::t109::t110::t111::t112::t113::t114::t115::t116::t117::[]),h⟩ =
  gd t77 (
  bm (vLoad s.P 3 t86 h) h fun v302 h303 =>
  bp (callV (xX s 4 wl k false) true true (.fn (.func 29) [] []) [t85,v302] h303) fun v304 h305 =>
  bm (vBin s.P .eql 26 t81 v304) h305 fun v306 h307 =>
  opsP (xX s 4 wl k false) xg4_3 26 m0 ac (runK (xX s 4 wl k false) (bodyK s.P Try.f4) xk4_4) ⟨(t0::t1::t2::t3::t4::t5::t6::t7::t8::t9::t10::t11::t12::t13::t14::t15::t16::t17::t18::t19::t20::t21::t22::t23::t24::t25::t26::t27::t28::t29::t30::t31::t32::t33::t34::t35::t36::t37::t38::t39::t40::t41::t42::t43::t44::t45::t46::t47::t48::t49::t50::t51::t52::t53::t54::t55::t56::t57::t58::t59::t60::t61::t62::t63::t64::t65::t66::t67::t68::t69::t70::t71::t72::t73::t74::t75::t76::(V.lit (Value.bool true))::t78::t79::t80::t81::t82::t83::t84::t85::t86::v302::v304::v306::t90::t91::t92::t93::t94::t95::t96::t97::t98::t99::t100::t101::t102::t103::t104::t105::t106::t107::t108::t109::t110::t111::t112::t113::t114::t115::t116::t117::[]),h307⟩) (
  opsP (xX s 4 wl k false) xg4_3 26 m0 ac (runK (xX s 4 wl k false) (bodyK s.P Try.f4) xk4_4) ⟨(t0::t1::t2::t3::t4::t5::t6::t7::t8::t9::t10::t11::t12::t13::t14::t15::t16::t17::t18::t19::t20::t21::t22::t23::t24::t25::t26::t27::t28::t29::t30::t31::t32::t33::t34::t35::t36::t37::t38::t39::t40::t41::t42::t43::t44::t45::t46::t47::t48::t49::t50::t51::t52::t53::t54::t55::t56::t57::t58::t59::t60::t61::t62::t63::t64::t65::t66::t67::t68::t69::t70::t71::t72::t73::t74::t75::t76::(V.lit (Value.bool false))::t78::t79::t80::t81::t82::t83::t84::t85::t86::uu::uu::uu::t90::t91::t92::t93::t94::t95::t96::t97::t98::t99::t100::t101::t102::t103::t104::t105::t106::t107::t108::t109::t110::t111::t112::t113::t114::t115::t116::t117::[]),h⟩) (
  opsP (xX s 4 wl k false) xg4_3 24 m0 ac (runK (xX s 4 wl k false) (bodyK s.P Try.f4) xk4_4) ⟨(t0::t1::t2::t3::t4::t5::t6::t7::t8::t9::t10::t11::t12::t13::t14::t15::t16::t17::t18::t19::t20::t21::t22::t23::t24::t25::t26::t27::t28::t29::t30::t31::t32::t33::t34::t35::t36::t37::t38::t39::t40::t41::t42::t43::t44::t45::t46::t47::t48::t49::t50::t51::t52::t53::t54::t55::t56::t57::t58::t59::t60::t61::t62::t63::t64::t65::t66::t67::t68::t69::t70::t71::t72::t73::t74::t75::t76::t77::t78::t79::t80::t81::t82::t83::t84::t85::t86::uu::t88::t89::t90::t91::t92::t93::t94::t95::t96::t97::t98::t99::t100::t101::t102::t103::t104::t105::t106::t107::t108::t109::t110::t111::t112::t113::t114::t115::t116::t117::[]),h⟩) :=
  (go_gdT1 xo4_17 xo4_17a rfl rfl rfl rfl (by kernel_rfl)
  (st_no (by kernel_rfl) (st_bm (by kernel_rfl) fun v302 h303 =>
  (go_run1 xo4_17 xo4_17a rfl rfl rfl rfl (by kernel_rfl) (st_no (by kernel_rfl) (st_bp (by kernel_rfl) fun v304 h305 =>
  (go_run1 xo4_17 xo4_17a rfl rfl rfl rfl (by kernel_rfl) (st_no (by kernel_rfl) (st_bm (by kernel_rfl) fun v306 h307 =>
  (by kernel_rfl)))))))))
  (go_skip1 xo4_17 rfl rfl rfl rfl (by kernel_rfl)
  (go_skip1 xo4_17 rfl rfl rfl rfl (by kernel_rfl)
  (by kernel_rfl)))
  (by kernel_rfl))
theorem xm4_47 (s : Sys) (k wl : Nat) (m0 : Nat) (ac : List Nat × List Nat) (t0 t1 t2 t3 t4 t5 t6 t7 t8 t9 t10 t11 t12 t13 t14 t15 t16 t17 t18 t19 t20 t21 t22 t23 t24 t25 t26 t27 t28 t29 t30 t31 t32 t33 t34 t35 t36 t37 t38 t39 t40 t41 t42 t43 t44 t45 t46 t47 t48 t49 t50 t51 t52 t53 t54 t55 t56 t57 t58 t59 t60 t61 t62 t63 t64 t65 t66 t67 t68 t69 t70 t71 t72 t73 t74 t75 t76 t77 t78 t79 t80 t81 t82 t83 t84 t85 t86 t87 t88 t89 t90 t91 t92 t93 t94 t95 t96 t97 t98 t99 t100 t101 t102 t103 t104 t105 t106 t107 t108 t109 t110 t111 t112 t113 t114 t115 t116 t117 : V) (h : Hp) : opsP (xX s 4 wl k false) xg4_3 48 m0 ac (runK (xX s 4 wl k false) (bodyK s.P Try.f4) xk4_4) ⟨(t0::t1::t2::t3::t4::t5::t6::t7::t8::t9::t10::t11::t12::t13::t14::t15::t16::t17::t18::t19::t20::t21::t22::t23::t24::t25::t26::t27::t28::t29::t30::t31::t32::t33::t34::t35::t36::t37::t38::t39::t40::t41::t42::t43::t44::t45::t46::t47::t48::t49::t50::t51::t52::t53::t54::t55::t56::t57::t58::t59::t60::t61::t62::t63::t64::t65::t66::t67::t68::t69::t70::t71::t72::t73::t74::t75::t76::t77::t78::t79::t80::t81::t82::t83::t84::t85::t86::t87::t88::t89::t90::t91::t92::t93::t94::t95::t96::t97::t98::t99::t100::t101::t102::t103::t104::t105::t106::t107::t108::t109::t110::t111::t112::t113::t114::t115::t116::t117::[]),h⟩ =
  gd t108 (
  bm (vLoad s.P 26 t111 h) h fun v308 h309 =>
  bm (vBin s.P .eql 26 v308 (V.lit (Value.int .u64 0))) h309 fun v310 h311 =>
  opsP (xX s 4 wl k false) xg4_3 50 m0 ac (runK (xX s 4 wl k false) (bodyK s.P Try.f4) xk4_4) ⟨(t0::t1::t2::t3::t4::t5::t6::t7::t8::t9::t10::t11::t12::t13::t14::t15::t16::t17::t18::t19::t20::t21::t22::t23::t24::t25::t26::t27::t28::t29::t30::t31::t32::t33::t34::t35::t36::t37::t38::t39::t40::t41::t42::t43::t44::t45::t46::t47::t48::t49::t50::t51::t52::t53::t54::t55::t56::t57::t58::t59::t60::t61::t62::t63::t64::t65::t66::t67::t68::t69::t70::t71::t72::t73::t74::t75::t76::t77::t78::t79::t80::t81::t82::t83::t84::t85::t86::t87::t88::t89::t90::t91::t92::t93::t94::t95::t96::t97::t98::t99::t100::t101::t102::t103::t104::t105::t106::t107::(V.lit (Value.bool true))::t109::t110::t111::v308::v310::t114::t115::t116::t117::[]),h311⟩) (
  opsP (xX s 4 wl k false) xg4_3 50 m0 ac (runK (xX s 4 wl k false) (bodyK s.P Try.f4) xk4_4) ⟨(t0::t1::t2::t3::t4::t5::t6::t7::t8::t9::t10::t11::t12::t13::t14::t15::t16::t17::t18::t19::t20::t21::t22::t23::t24::t25::t26::t27::t28::t29::t30::t31::t32::t33::t34::t35::t36::t37::t38::t39::t40::t41::t42::t43::t44::t45::t46::t47::t48::t49::t50::t51::t52::t53::t54::t55::t56::t57::t58::t59::t60::t61::t62::t63::t64::t65::t66::t67::t68::t69::t70::t71::t72::t73::t74::t75::t76::t77::t78::t79::t80::t81::t82::t83::t84::t85::t86::t87::t88::t89::t90::t91::t92::t93::t94::t95::t96::t97::t98::t99::t100::t101::t102::t103::t104::t105::t106::t107::(V.lit (Value.bool false))::t109::t110::t111::uu::uu::t114::t115::t116::t117::[]),h⟩) (
  opsP (xX s 4 wl k false) xg4_3 49 m0 ac (runK (xX s 4 wl k false) (bodyK s.P Try.f4) xk4_4) ⟨(t0::t1::t2::t3::t4::t5::t6::t7::t8::t9::t10::t11::t12::t13::t14::t15::t16::t17::t18::t19::t20::t21::t22::t23::t24::t25::t26::t27::t28::t29::t30::t31::t32::t33::t34::t35::t36::t37::t38::t39::t40::t41::t42::t43::t44::t45::t46::t47::t48::t49::t50::t51::t52::t53::t54::t55::t56::t57::t58::t59::t60::t61::t62::t63::t64::t65::t66::t67::t68::t69::t70::t71::t72::t73::t74::t75::t76::t77::t78::t79::t80::t81::t82::t83::t84::t85::t86::t87::t88::t89::t90::t91::t92::t93::t94::t95::t96::t97::t98::t99::t100::t101::t102::t103::t104::t105::t106::t107::t108::t109::t110::t111::uu::t113::t114::t115::t116::t117::[]),h⟩) :=
  (go_gdT1 xo4_17 xo4_17a rfl rfl rfl rfl (by kernel_rfl)
  (st_no (by kernel_rfl) (st_bm (by kernel_rfl) fun v308 h309 =>
  (go_run1 xo4_17 xo4_17a rfl rfl rfl rfl (by kernel_rfl) (st_no (by kernel_rfl) (st_bm (by kernel_rfl) fun v310 h311 =>
  (by kernel_rfl))))))
  (go_skip1 xo4_17 rfl rfl rfl rfl (by kernel_rfl)
  (by kernel_rfl))
  (by kernel_rfl))
theorem xm4_48 (s : Sys) (k wl : Nat) (m0 : Nat) (ac : List Nat × List Nat) (t0 t1 t2 t3 t4 t5 t6 t7 t8 t9 t10 t11 t12 t13 t14 t15 t16 t17 t18 t19 t20 t21 t22 t23 t24 t25 t26 t27 t28 t29 t30 t31 t32 t33 t34 t35 t36 t37 t38 t39 t40 t41 t42 t43 t44 t45 t46 t47 t48 t49 t50 t51 t52 t53 t54 t55 t56 t57 t58 t59 t60 t61 t62 t63 t64 t65 t66 t67 t68 t69 t70 t71 t72 t73 t74 t75 t76 t77 t78 t79 t80 t81 t82 t83 t84 t85 t86 t87 t88 t89 t90 t91 t92 t93 t94 t95 t96 t97 t98 t99 t100 t101 t102 t103 t104 t105 t106 t107 t108 t109 t110 t111 t112 t113 t114 t115 t116 t117 : V) (h : Hp) : opsP (xX s 4 wl k false) xg4_3 42 m0 ac (runK (xX s 4 wl k false) (bodyK s.P Try.f4) xk4_4) ⟨(t0::t1::t2::t3::t4::t5::t6::t7::t8::t9::t10::t11::t12::t13::t14::t15::t16::t17::t18::t19::t20::t21::t22::t23::t24::t25::t26::t27::t28::t29::t30::t31::t32::t33::t34::t35::t36::t37::t38::t39::t40::t41::t42::t43::t44::t45::t46::t47::t48::t49::t50::t51::t52::t53::t54::t55::t56::t57::t58::t59::t60::t61::t62::t63::t64::t65::t66::t67::t68::t69::t70::t71::t72::t73::t74::t75::t76::t77::t78::t79::t80::t81::t82::t83::t84::t85::t86::t87::t88::t89::t90::t91::t92::t93::t94::t95::t96::t97::t98::t99::t100::t101::t102::t103::t104::t105::t106::t107::t108::t109::t110::t111::t112::t113::t114::t115::t116::t117::[]),h⟩ =
  gd t100 (
  bm (vBin s.P .eql 3 t101 t105) h fun v312 h313 =>
  opsP (xX s 4 wl k false) xg4_3 43 m0 ac (runK (xX s 4 wl k false) (bodyK s.P Try.f4) xk4_4) ⟨(t0::t1::t2::t3::t4::t5::t6::t7::t8::t9::t10::t11::t12::t13::t14::t15::t16::t17::t18::t19::t20::t21::t22::t23::t24::t25::t26::t27::t28::t29::t30::t31::t32::t33::t34::t35::t36::t37::t38::t39::t40::t41::t42::t43::t44::t45::t46::t47::t48::t49::t50::t51::t52::t53::t54::t55::t56::t57::t58::t59::t60::t61::t62::t63::t64::t65::t66::t67::t68::t69::t70::t71::t72::t73::t74::t75::t76::t77::t78::t79::t80::t81::t82::t83::t84::t85::t86::t87::t88::t89::t90::t91::t92::t93::t94::t95::t96::t97::t98::t99::(V.lit (Value.bool true))::t101::t102::t103::t104::t105::v312::t107::t108::t109::t110::t111::t112::t113::t114::t115::t116::t117::[]),h313⟩) (
  opsP (xX s 4 wl k false) xg4_3 43 m0 ac (runK (xX s 4 wl k false) (bodyK s.P Try.f4) xk4_4) ⟨(t0::t1::t2::t3::t4::t5::t6::t7::t8::t9::t10::t11::t12::t13::t14::t15::t16::t17::t18::t19::t20::t21::t22::t23::t24::t25::t26::t27::t28::t29::t30::t31::t32::t33::t34::t35::t36::t37::t38::t39::t40::t41::t42::t43::t44::t45::t46::t47::t48::t49::t50::t51::t52::t53::t54::t55::t56::t57::t58::t59::t60::t61::t62::t63::t64::t65::t66::t67::t68::t69::t70::t71::t72::t73::t74::t75::t76::t77::t78::t79::t80::t81::t82::t83::t84::t85::t86::t87::t88::t89::t90::t91::t92::t93::t94::t95::t96::t97::t98::t99::(V.lit (Value.bool false))::t101::t102::t103::t104::t105::uu::t107::t108::t109::t110::t111::t112::t113::t114::t115::t116::t117::[]),h⟩) (
  opsP (xX s 4 wl k false) xg4_3 43 m0 ac (runK (xX s 4 wl k false) (bodyK s.P Try.f4) xk4_4) ⟨(t0::t1::t2::t3::t4::t5::t6::t7::t8::t9::t10::t11::t12::t13::t14::t15::t16::t17::t18::t19::t20::t21::t22::t23::t24::t25::t26::t27::t28::t29::t30::t31::t32::t33::t34::t35::t36::t37::t38::t39::t40::t41::t42::t43::t44::t45::t46::t47::t48::t49::t50::t51::t52::t53::t54::t55::t56::t57::t58::t59::t60::t61::t62::t63::t64::t65::t66::t67::t68::t69::t70::t71::t72::t73::t74::t75::t76::t77::t78::t79::t80::t81::t82::t83::t84::t85::t86::t87::t88::t89::t90::t91::t92::t93::t94::t95::t96::t97::t98::t99::t100::t101::t102::t103::t104::t105::uu::t107::t108::t109::t110::t111::t112::t113::t114::t115::t116::t117::[]),h⟩) :=
  (go_gdT1 xo4_17 xo4_17a rfl rfl rfl rfl (by kernel_rfl)
  (st_no (by kernel_rfl) (st_bm (by kernel_rfl) fun v312 h313 =>
  (by kernel_rfl)))
  (by kernel_rfl)
  (by kernel_rfl))
theorem xm4_49 (s : Sys) (k wl : Nat) (m0 : Nat) (ac : List Nat × List Nat) (t0 t1 t2 t3 t4 t5 t6 t7 t8 t9 t10 t11 t12 t13 t14 t15 t16 t17 t18 t19 t20 t21 t22 t23 t24 t25 t26 t27 t28 t29 t30 t31 t32 t33 t34 t35 t36 t37 t38 t39 t40 t41 t42 t43 t44 t45 t46 t47 t48 t49 t50 t51 t52 t53 t54 t55 t56 t57 t58 t59 t60 t61 t62 t63 t64 t65 t66 t67 t68 t69 t70 t71 t72 t73 t74 t75 t76 t77 t78 t79 t80 t81 t82 t83 t84 t85 t86 t87 t88 t89 t90 t91 t92 t93 t94 t95 t96 t97 t98 t99 t100 t101 t102 t103 t104 t105 t106 t107 t108 t109 t110 t111 t112 t113 t114 t115 t116 t117 : V) (h : Hp) : opsP (xX s 4 wl k false) xg4_3 24 m0 ac (runK (xX s 4 wl k false) (bodyK s.P Try.f4) xk4_4) ⟨(t0::t1::t2::t3::t4::t5::t6::t7::t8::t9::t10::t11::t12::t13::t14::t15::t16::t17::t18::t19::t20::t21::t22::t23::t24::t25::t26::t27::t28::t29::t30::t31::t32::t33::t34::t35::t36::t37::t38::t39::t40::t41::t42::t43::t44::t45::t46::t47::t48::t49::t50::t51::t52::t53::t54::t55::t56::t57::t58::t59::t60::t61::t62::t63::t64::t65::t66::t67::t68::t69::t70::t71::t72::t73::t74::t75::t76::t77::t78::t79::t80::t81::t82::t83::t84::t85::t86::t87::t88::t89::t90::t91::t92::t93::t94::t95::t96::t97::t98::t99::t100::t101::t102::t103::t104::t105::t106::t107::t108::t109::t110::t111::t112::t113::t114::t115::t116::t117::[]),h⟩ =
  gd t77 (
  bp (callV (xX s 4 wl k false) true true (.fn (.func 29) [] []) [t85,t87] h) fun v314 h315 =>
  bm (vBin s.P .eql 26 t81 v314) h315 fun v316 h317 =>
  opsP (xX s 4 wl k false) xg4_3 26 m0 ac (runK (xX s 4 wl k false) (bodyK s.P Try.f4) xk4_4) ⟨(t0::t1::t2::t3::t4::t5::t6::t7::t8::t9::t10::t11::t12::t13::t14::t15::t16::t17::t18::t19::t20::t21::t22::t23::t24::t25::t26::t27::t28::t29::t30::t31::t32::t33::t34::t35::t36::t37::t38::t39::t40::t41::t42::t43::t44::t45::t46::t47::t48::t49::t50::t51::t52::t53::t54::t55::t56::t57::t58::t59::t60::t61::t62::t63::t64::t65::t66::t67::t68::t69::t70::t71::t72::t73::t74::t75::t76::(V.lit (Value.bool true))::t78::t79::t80::t81::t82::t83::t84::t85::t86::t87::v314::v316::t90::t91::t92::t93::t94::t95::t96::t97::t98::t99::t100::t101::t102::t103::t104::t105::t106::t107::t108::t109::t110::t111::t112::t113::t114::t115::t116::t117::[]),h317⟩) (
  opsP (xX s 4 wl k false) xg4_3 26 m0 ac (runK (xX s 4 wl k false) (bodyK s.P Try.f4) xk4_4) ⟨(t0::t1::t2::t3::t4::t5::t6::t7::t8::t9::t10::t11::t12::t13::t14::t15::t16::t17::t18::t19::t20::t21::t22::t23::t24::t25::t26::t27::t28::t29::t30::t31::t32::t33::t34::t35::t36::t37::t38::t39::t40::t41::t42::t43::t44::t45::t46::t47::t48::t49::t50::t51::t52::t53::t54::t55::t56::t57::t58::t59::t60::t61::t62::t63::t64::t65::t66::t67::t68::t69::t70::t71::t72::t73::t74::t75::t76::(V.lit (Value.bool false))::t78::t79::t80::t81::t82::t83::t84::t85::t86::t87::uu::uu::t90::t91::t92::t93::t94::t95::t96::t97::t98::t99::t100::t101::t102::t103::t104::t105::t106::t107::t108::t109::t110::t111::t112::t113::t114::t115::t116::t117::[]),h⟩) (
  opsP (xX s 4 wl k false) xg4_3 25 m0 ac (runK (xX s 4 wl k false) (bodyK s.P Try.f4) xk4_4) ⟨(t0::t1::t2::t3::t4::t5::t6::t7::t8::t9::t10::t11::t12::t13::t14::t15::t16::t17::t18::t19::t20::t21::t22::t23::t24::t25::t26::t27::t28::t29::t30::t31::t32::t33::t34::t35::t36::t37::t38::t39::t40::t41::t42::t43::t44::t45::t46::t47::t48::t49::t50::t51::t52::t53::t54::t55::t56::t57::t58::t59::t60::t61::t62::t63::t64::t65::t66::t67::t68::t69::t70::t71::t72::t73::t74::t75::t76::t77::t78::t79::t80::t81::t82::t83::t84::t85::t86::t87::uu::t89::t90::t91::t92::t93::t94::t95::t96::t97::t98::t99::t100::t101::t102::t103::t104::t105::t106::t107::t108::t109::t110::t111::t112::t113::t114::t115::t116::t117::[]),h⟩) :=
  (go_gdT1 xo4_17 xo4_17a rfl rfl rfl rfl (by kernel_rfl)
  (st_no (by kernel_rfl) (st_bp (by kernel_rfl) fun v314 h315 =>
  (go_run1 xo4_17 xo4_17a rfl rfl rfl rfl (by kernel_rfl) (st_no (by kernel_rfl) (st_bm (by kernel_rfl) fun v316 h317 =>
  (by kernel_rfl))))))
  (go_skip1 xo4_17 rfl rfl rfl rfl (by kernel_rfl)
  (by kernel_rfl))
  (by kernel_rfl))
theorem xm4_50 (s : Sys) (k wl : Nat) (m0 : Nat) (ac : List Nat × List Nat) (t0 t1 t2 t3 t4 t5 t6 t7 t8 t9 t10 t11 t12 t13 t14 t15 t16 t17 t18 t19 t20 t21 t22 t23 t24 t25 t26 t27 t28 t29 t30 t31 t32 t33 t34 t35 t36 t37 t38 t39 t40 t41 t42 t43 t44 t45 t46 t47 t48 t49 t50 t51 t52 t53 t54 t55 t56 t57 t58 t59 t60 t61 t62 t63 t64 t65 t66 t67 t68 t69 t70 t71 t72 t73 t74 t75 t76 t77 t78 t79 t80 t81 t82 t83 t84 t85 t86 t87 t88 t89 t90 t91 t92 t93 t94 t95 t96 t97 t98 t99 t100 t101 t102 t103 t104 t105 t106 t107 t108 t109 t110 t111 t112 t113 t114 t115 t116 t117 : V) (h : Hp) : opsP (xX s 4 wl k false) xg4_3 49 m0 ac (runK (xX s 4 wl k false) (bodyK s.P Try.f4) xk4_4) ⟨(t0::t1::t2::t3::t4::t5::t6::t7::t8::t9::t10::t11::t12::t13::t14::t15::t16::t17::t18::t19::t20::t21::t22::t23::t24::t25::t26::t27::t28::t29::t30::t31::t32::t33::t34::t35::t36::t37::t38::t39::t40::t41::t42::t43::t44::t45::t46::t47::t48::t49::t50::t51::t52::t53::t54::t55::t56::t57::t58::t59::t60::t61::t62::t63::t64::t65::t66::t67::t68::t69::t70::t71::t72::t73::t74::t75::t76::t77::t78::t79::t80::t81::t82::t83::t84::t85::t86::t87::t88::t89::t90::t91::t92::t93::t94::t95::t96::t97::t98::t99::t100::t101::t102::t103::t104::t105::t106::t107::t108::t109::t110::t111::t112::t113::t114::t115::t116::t117::[]),h⟩ =
  gd t108 (
  bm (vBin s.P .eql 26 t112 (V.lit (Value.int .u64 0))) h fun v318 h319 =>
  opsP (xX s 4 wl k false) xg4_3 50 m0 ac (runK (xX s 4 wl k false) (bodyK s.P Try.f4) xk4_4) ⟨(t0::t1::t2::t3::t4::t5::t6::t7::t8::t9::t10::t11::t12::t13::t14::t15::t16::t17::t18::t19::t20::t21::t22::t23::t24::t25::t26::t27::t28::t29::t30::t31::t32::t33::t34::t35::t36::t37::t38::t39::t40::t41::t42::t43::t44::t45::t46::t47::t48::t49::t50::t51::t52::t53::t54::t55::t56::t57::t58::t59::t60::t61::t62::t63::t64::t65::t66::t67::t68::t69::t70::t71::t72::t73::t74::t75::t76::t77::t78::t79::t80::t81::t82::t83::t84::t85::t86::t87::t88::t89::t90::t91::t92::t93::t94::t95::t96::t97::t98::t99::t100::t101::t102::t103::t104::t105::t106::t107::(V.lit (Value.bool true))::t109::t110::t111::t112::v318::t114::t115::t116::t117::[]),h319⟩) (
  opsP (xX s 4 wl k false) xg4_3 50 m0 ac (runK (xX s 4 wl k false) (bodyK s.P Try.f4) xk4_4) ⟨(t0::t1::t2::t3::t4::t5::t6::t7::t8::t9::t10::t11::t12::t13::t14::t15::t16::t17::t18::t19::t20::t21::t22::t23::t24::t25::t26::t27::t28::t29::t30::t31::t32::t33::t34::t35::t36::t37::t38::t39::t40::t41::t42::t43::t44::t45::t46::t47::t48::t49::t50::t51::t52::t53::t54::t55::t56::t57::t58::t59::t60::t61::t62::t63::t64::t65::t66::t67::t68::t69::t70::t71::t72::t73::t74::t75::t76::t77::t78::t79::t80::t81::t82::t83::t84::t85::t86::t87::t88::t89::t90::t91::t92::t93::t94::t95::t96::t97::t98::t99::t100::t101::t102::t103::t104::t105::t106::t107::(V.lit (Value.bool false))::t109::t110::t111::t112::uu::t114::t115::t116::t117::[]),h⟩) (
  opsP (xX s 4 wl k false) xg4_3 50 m0 ac (runK (xX s 4 wl k false) (bodyK s.P Try.f4) xk4_4) ⟨(t0::t1::t2::t3::t4::t5::t6::t7::t8::t9::t10::t11::t12::t13::t14::t15::t16::t17::t18::t19::t20::t21::t22::t23::t24::t25::t26::t27::t28::t29::t30::t31::t32::t33::t34::t35::t36::t37::t38::t39::t40::t41::t42::t43::t44::t45::t46::t47::t48::t49::t50::t51::t52::t53::t54::t55::t56::t57::t58::t59::t60::t61::t62::t63::t64::t65::t66::t67::t68::t69::t70::t71::t72::t73::t74::t75::t76::t77::t78::t79::t80::t81::t82::t83::t84::t85::t86::t87::t88::t89::t90::t91::t92::t93::t94::t95::t96::t97::t98::t99::t100::t101::t102::t103::t104::t105::t106::t107::t108::t109::t110::t111::t112::uu::t114::t115::t116::t117::[]),h⟩) :=
  (go_gdT1 xo4_17 xo4_17a rfl rfl rfl rfl (by kernel_rfl)
  (st_no (by kernel_rfl) (st_bm (by kernel_rfl) fun v318 h319 =>
  (by kernel_rfl)))
  (by kernel_rfl)
  (by kernel_rfl))
theorem xm4_51 (s : Sys) (k wl : Nat) (m0 : Nat) (ac : List Nat × List Nat) (t0 t1 t2 t3 t4 t5 t6 t7 t8 t9 t10 t11 t12 t13 t14 t15 t16 t17 t18 t19 t20 t21 t22 t23 t24 t25 t26 t27 t28 t29 t30 t31 t32 t33 t34 t35 t36 t37 t38 t39 t40 t41 t42 t43 t44 t45 t46 t47 t48 t49 t50 t51 t52 t53 t54 t55 t56 t57 t58 t59 t60 t61 t62 t63 t64 t65 t66 t67 t68 t69 t70 t71 t72 t73 t74 t75 t76 t77 t78 t79 t80 t81 t82 t83 t84 t85 t86 t87 t88 t89 t90 t91 t92 t93 t94 t95 t96 t97 t98 t99 t100 t101 t102 t103 t104 t105 t106 t107 t108 t109 t110 t111 t112 t113 t114 t115 t116 t117 : V) (h : Hp) : opsP (xX s 4 wl k false) xg4_3 25 m0 ac (runK (xX s 4 wl k false) (bodyK s.P Try.f4) xk4_4) ⟨(t0::t1::t2::t3::t4::t5::t6::t7::t8::t9::t10::t11::t12::t13::t14::t15::t16::t17::t18::t19::t20::t21::t22::t23::t24::t25::t26::t27::t28::t29::t30::t31::t32::t33::t34::t35::t36::t37::t38::t39::t40::t41::t42::t43::t44::t45::t46::t47::t48::t49::t50::t51::t52::t53::t54::t55::t56::t57::t58::t59::t60::t61::t62::t63::t64::t65::t66::t67::t68::t69::t70::t71::t72::t73::t74::t75::t76::t77::t78::t79::t80::t81::t82::t83::t84::t85::t86::t87::t88::t89::t90::t91::t92::t93::t94::t95::t96::t97::t98::t99::t100::t101::t102::t103::t104::t105::t106::t107::t108::t109::t110::t111::t112::t113::t114::t115::t116::t117::[]),h⟩ =
  gd t77 (
  bm (vBin s.P .eql 26 t81 t88) h fun v320 h321 =>
  opsP (xX s 4 wl k false) xg4_3 26 m0 ac (runK (xX s 4 wl k false) (bodyK s.P Try.f4) xk4_4) ⟨(t0::t1::t2::t3::t4::t5::t6::t7::t8::t9::t10::t11::t12::t13::t14::t15::t16::t17::t18::t19::t20::t21::t22::t23::t24::t25::t26::t27::t28::t29::t30::t31::t32::t33::t34::t35::t36::t37::t38::t39::t40::t41::t42::t43::t44::t45::t46::t47::t48::t49::t50::t51::t52::t53::t54::t55::t56::t57::t58::t59::t60::t61::t62::t63::t64::t65::t66::t67::t68::t69::t70::t71::t72::t73::t74::t75::t76::(V.lit (Value.bool true))::t78::t79::t80::t81::t82::t83::t84::t85::t86::t87::t88::v320::t90::t91::t92::t93::t94::t95::t96::t97::t98::t99::t100::t101::t102::t103::t104::t105::t106::t107::t108::t109::t110::t111::t112::t113::t114::t115::t116::t117::[]),h321⟩) (
  opsP (xX s 4 wl k false) xg4_3 26 m0 ac (runK (xX s 4 wl k false) (bodyK s.P Try.f4) xk4_4) ⟨(t0::t1::t2::t3::t4::t5::t6::t7::t8::t9::t10::t11::t12::t13::t14::t15::t16::t17::t18::t19::t20::t21::t22::t23::t24::t25::t26::t27::t28::t29::t30::t31::t32::t33::t34::t35::t36::t37::t38::t39::t40::t41::t42::t43::t44::t45::t46::t47::t48::t49::t50::t51::t52::t53::t54::t55::t56::t57::t58::t59::t60::t61::t62::t63::t64::t65::t66::t67::t68::t69::t70::t71::t72::t73::t74::t75::t76::(V.lit (Value.bool false))::t78::t79::t80::t81::t82::t83::t84::t85::t86::t87::t88::uu::t90::t91::t92::t93::t94::t95::t96::t97::t98::t99::t100::t101::t102::t103::t104::t105::t106::t107::t108::t109::t110::t111::t112::t113::t114::t115::t116::t117::[]),h⟩) (
  opsP (xX s 4 wl k false) xg4_3 26 m0 ac (runK (xX s 4 wl k false) (bodyK s.P Try.f4) xk4_4) ⟨(t0::t1::t2::t3::t4::t5::t6::t7::t8::t9::t10::t11::t12::t13::t14::t15::t16::t17::t18::t19::t20::t21::t22::t23::t24::t25::t26::t27::t28::t29::t30::t31::t32::t33::t34::t35::t36::t37::t38::t39::t40::t41::t42::t43::t44::t45::t46::t47::t48::t49::t50::t51::t52::t53::t54::t55::t56::t57::t58::t59::t60::t61::t62::t63::t64::t65::t66::t67::t68::t69::t70::t71::t72::t73::t74::t75::t76::t77::t78::t79::t80::t81::t82::t83::t84::t85::t86::t87::t88::uu::t90::t91::t92::t93::t94::t95::t96::t97::t98::t99::t100::t101::t102::t103::t104::t105::t106::t107::t108::t109::t110::t111::t112::t113::t114::t115::t116::t117::[]),h⟩) :=
  (go_gdT1 xo4_17 xo4_17a rfl rfl rfl rfl (by kernel_rfl)
  (st_no (by kernel_rfl) (st_bm (by kernel_rfl) fun v320 h321 =>
  (by kernel_rfl)))
  (by kernel_rfl)
  (by kernel_rfl))
theorem xk4_0_ret (cx : Cx) (K : Out → St → Option (V × Hp)) (s : St) : runK cx K xk4_0 .ret s = K .ret s := by kernel_rfl
theorem xk4_1_ret (cx : Cx) (K : Out → St → Option (V × Hp)) (s : St) : runK cx K xk4_1 .ret s = K .ret s := by kernel_rfl
theorem xk4_2_ret (cx : Cx) (K : Out → St → Option (V × Hp)) (s : St) : runK cx K xk4_2 .ret s = K .ret s := by kernel_rfl
theorem xk4_3_ret (cx : Cx) (K : Out → St → Option (V × Hp)) (s : St) : runK cx K xk4_3 .ret s = K .ret s := by kernel_rfl
theorem xk4_4_ret (cx : Cx) (K : Out → St → Option (V × Hp)) (s : St) : runK cx K xk4_4 .ret s = K .ret s := by kernel_rfl
-- names: xb4,xz4,xm4_0,xr4_0,xj4_1,xj4_2,xm4_3,xm4_4,xm4_5,xm4_6,xm4_7,xm4_8,xm4_9,xm4_10,xm4_11,xm4_12,xm4_13,xm4_14,xm4_15,xm4_16,xm4_17,xm4_18,xm4_19,xm4_20,xm4_21,xm4_22,xm4_23,xm4_24,xm4_25,xm4_26,xm4_27,xm4_28,xm4_29,xm4_30,xm4_31,xm4_32,xm4_33,xm4_34,xm4_35,xm4_36,xm4_37,xm4_38,xm4_39,xm4_40,xm4_41,xm4_42,xm4_43,xm4_44,xm4_45,xm4_46,xm4_47,xm4_48,xm4_49,xm4_50,xm4_51,xk4_0_ret,xk4_1_ret,xk4_2_ret,xk4_3_ret,xk4_4_ret
end Go.Ab
