import Derived.Test.YtblpbpnilkfjhaaGreatR6Seat
import Derived.Test.YtblpbpnilkfjhaaGreatR6FacP
import Derived.Test.YtblpbpnilkfjhaaGreatAbLibC
set_option linter.unusedVariables false
set_option linter.unusedSimpArgs false
set_option maxRecDepth 100000
set_option linter.unusedVariables false
namespace Go.Ab
open Go.Proofs
section
variable (s:Sys) (k wl:Nat) (m0:Nat) (ac:List Nat×List Nat) (d f g o j v y r u z D A B M N O I Q L E J G F R W X T U Y t0 Z t2 t3 t4 t1 t5 t6 t8 t9 ta t7 te tb tc td:V)
theorem agQ (h:Hp):ak (xX s 34 wl k false) Tryz.f34 [d,f,g,o] h =
 bp (aN d h) fun v1 h2=>
 bp (av s.P 30 h2) fun v3 h4=>
 bp (some (.own h4.length 0 0,h4++[.rows 0 [] 0 true])) fun v5 h6=>
 bm (ab s.P 23 v1 h6) h6 fun v7 h8=>
 bp (bL (xX s 34 wl k false) false true (.fn (.func 23) [] []) [v7,f,g] h8) fun v9 h10=>
 bm (aq v9 0) h10 fun v11 h12=>
 bm (aq v9 1) h12 fun v13 h14=>
 bp (av s.P 30 h14) fun v15 h16=>
 bs (ai s.P wl 30 v15 v11 h16) fun h17=>
 bm (vUn .not v13) h17 fun v18 h19=>
 cnd v18 (
 bm (a8 s.P 30 []) h19 fun v20 h21=>
 bs (ai s.P wl 30 v3 v20 h21) fun h22=>
 bp (some (.own h22.length 0 0,h22++[.rows 0 [] 0 true])) fun v23 h24=>
 ef [ab s.P 30 v3 h24,some v23,some (.lit (.bool false))] h24) (
 bp (av s.P 30 h19) fun v25 h26=>
 stO h19.length v15 (
 bm (ab s.P 30 v15 h26) h26 fun v27 h28=>
 bp (bL (xX s 34 wl k false) true true (.fn (.func 73) [] []) [o] h28) fun v29 h30=>
 bp (bL (xX s 34 wl k false) true true (.fn (.func 17) [] []) [v27,v29] h30) fun v31 h32=>
 bm (aq v31 0) h32 fun v33 h34=>
 bm (aq v31 1) h34 fun v35 h36=>
 bs (ai s.P wl 30 v25 v33 h36) fun h37=>
 bm (ab s.P 30 v25 h37) h37 fun v38 h39=>
 bs (ai s.P wl 30 v3 v38 h39) fun h40=>
 ef [ab s.P 30 v3 h40,some v35,some (.lit (.bool true))] h40)):=kB
theorem ahl (k wl:Nat) (h:Hp):evF Tryz.prog xM (k+1) wl 34 [d,f,g,o] h=ak (xX (xS k) 34 wl k false) Tryz.f34 [d,f,g,o] h:=by kernel_rfl
-- names: xFP,agQ,
noncomputable def SF:Code:=al (am Tryz.f36) [1,1,1,1,0,1,0]
noncomputable def LV:Code:=al (am Tryz.f36) [1,1,1,1,0,1,0,0]
noncomputable def Mt:Code:=al (am Tryz.f36) [1,1,1,1,0,1,0,1]
noncomputable def Dd:List Fr:=[.block 0,.seq (al (am Tryz.f36) [1,1,1,1,1])]
theorem CK:SF = .rangeFunc (.tmp 25) #[26,27] LV Mt:=by kernel_rfl
theorem ade (h:Hp):ak (xX s 36 wl k false) Tryz.f36 [d,f] h =
 bp (aN d h) fun v1 h2=>
 bp (av s.P 30 h2) fun v3 h4=>
 bp (some (.own h4.length 0 0,h4++[.rows 0 [] 0 true])) fun v5 h6=>
 bm (ab s.P 30 v1 h6) h6 fun v7 h8=>
 bp (bL (xX s 36 wl k false) false true (.fn (.func 17) [] []) [v7,.nil] h8) fun v9 h10=>
 bm (aq v9 0) h10 fun v11 h12=>
 bm (aq v9 1) h12 fun v13 h14=>
 bp (av s.P 30 h14) fun v15 h16=>
 bp (av s.P 34 h16) fun v17 h18=>
 bs (ai s.P wl 30 v15 v11 h18) fun h19=>
 bs (ai s.P wl 34 v17 v13 h19) fun h20=>
 bm (ab s.P 30 v1 h20) h20 fun v21 h22=>
 bp (bL (xX s 36 wl k false) false true (.fn (.func 20) [] []) [v21] h22) fun v23 h24=>
 bm (vUn .not v23) h24 fun v25 h26=>
 cnd v25 (
 bm (ab s.P 30 v15 h26) h26 fun v27 h28=>
 bs (ai s.P wl 30 v3 v27 h28) fun h29=>
 bp (some (.own h29.length 0 0,h29++[.rows 0 [] 0 true])) fun v30 h31=>
 ef [ab s.P 30 v3 h31,some v30,some (.lit (.int .i64 0))] h31) (
 bp (av s.P 3 h26) fun v32 h33=>
 bs (ai s.P wl 3 v32 (.lit (.int .i64 0)) h33) fun h34=>
 bm (ab s.P 30 v1 h34) h34 fun v35 h36=>
 bp (bL (xX s 36 wl k false) false true (.fn (.func 74) [] []) [v35,f] h36) fun v37 h38=>
 ba (xX s 36 wl k false) SF none (au (xX s 36 wl k false) (ao s.P Tryz.f36) Dd) ⟨[d,f,v1,uu,v3,v5,(.lit (.int .i64 0)),v15,v17,v32,uu,uu,uu,uu,v9,v7,v9,v11,v13,v21,v23,v25,uu,v35,f,v37,uu,uu,uu,uu,uu,uu,uu,uu,uu,uu,uu,uu,uu,uu,uu,uu,uu,uu,uu],h38⟩):=kB
theorem agU (k wl:Nat) (h:Hp):evF Tryz.prog xM (k+1) wl 36 [d,f] h=ak (xX (xS k) 36 wl k false) Tryz.f36 [d,f] h:=by kernel_rfl
theorem afw (P:Program) (h:Hp):ao P Tryz.f36 .ret ⟨[d,f,g,o,j,v,y,r,u,z,D,A,B,M,N,O,I,Q,L,E,J,G,F,R,W,X,T,U,Y,t0,Z,t2,t3,t4,t1,t5,t6,t8,t9,ta,t7,te,tb,tc,td],h⟩=ef [ab P 30 j h,some v,some y] h:=by kernel_rfl
theorem L5 (h:Hp):au (xX s 36 wl k false) (ao s.P Tryz.f36) Dd .norm ⟨[d,f,g,o,j,v,y,r,u,z,D,A,B,M,N,O,I,Q,L,E,J,G,F,R,W,X,T,U,Y,t0,Z,t2,t3,t4,t1,t5,t6,t8,t9,ta,t7,te,tb,tc,td],h⟩ =
 bm (ab s.P 30 r h) h fun v39 h40=>
 stO h.length u (
 bm (ab s.P 34 u h40) h40 fun v41 h42=>
 stO h.length z (
 bm (ab s.P 3 z h42) h42 fun v43 h44=>
 bs (ai s.P wl 30 j v39 h44) fun h45=>
 apt (lgW j (lgR z (lgR u ([],[])))) (
 ef [ab s.P 30 j h45,some v41,some v43] h45))):=kR
theorem Kv (h:Hp):au (xX s 36 wl k false) (ao s.P Tryz.f36) Dd (.exit 0) ⟨[d,f,g,o,j,v,y,r,u,z,D,A,B,M,N,O,I,Q,L,E,J,G,F,R,W,X,T,U,Y,t0,Z,t2,t3,t4,t1,t5,t6,t8,t9,ta,t7,te,tb,tc,td],h⟩ =
 bm (ab s.P 30 r h) h fun v46 h47=>
 stO h.length u (
 bm (ab s.P 34 u h47) h47 fun v48 h49=>
 stO h.length z (
 bm (ab s.P 3 z h49) h49 fun v50 h51=>
 bs (ai s.P wl 30 j v46 h51) fun h52=>
 apt (lgW j (lgR z (lgR u ([],[])))) (
 ef [ab s.P 30 j h52,some v48,some v50] h52))):=kR
theorem fl (s:Sys) (K:Out→St→Option (V×Hp)) (k wl:Nat) (rd:Bool) (h:Hp):au (xX s 36 wl k rd) K [.seq Mt] .norm ⟨[d,f,g,o,j,v,y,r,u,z,D,A,B,M,N,O,I,Q,L,E,J,G,F,R,W,X,T,U,Y,t0,Z,t2,t3,t4,t1,t5,t6,t8,t9,ta,t7,te,tb,tc,td],h⟩ =
 bm (ab s.P 30 r h) h fun v53 h54=>
 bp (bL (xX s 36 wl k rd) false true (.fn (.func 29) [] []) [v53] h54) fun v55 h56=>
 cnd v55 (
 K (.exit 0) ⟨[d,f,g,o,j,v,y,r,u,z,D,A,B,M,N,O,I,Q,L,E,J,G,F,R,W,X,T,U,v53,v55,Z,t2,t3,t4,t1,t5,t6,t8,t9,ta,t7,te,tb,tc,td],h56⟩) (
 bm (ab s.P 30 r h56) h56 fun v57 h58=>
 bp (bL (xX s 36 wl k rd) false true (.fn (.func 17) [] []) [v57,A] h58) fun v59 h60=>
 bm (aq v59 0) h60 fun v61 h62=>
 bm (aq v59 1) h62 fun v63 h64=>
 bp (av s.P 30 h64) fun v65 h66=>
 bs (ai s.P wl 30 v65 v61 h66) fun h67=>
 stO h67.length v65 (
 bm (ab s.P 30 v65 h67) h67 fun v68 h69=>
 bm (ab s.P 34 u h69) h69 fun v70 h71=>
 bp (kM s.P wl 34 34 v70 v63 h71) fun v72 h73=>
 bm (aw s.P .add 3 D (.lit (.int .i64 1))) h73 fun v74 h75=>
 bs (ai s.P wl 30 r v68 h75) fun h76=>
 bs (ai s.P wl 34 u v72 h76) fun h77=>
 bs (ai s.P wl 3 z v74 h77) fun h78=>
 apt (lgW z (lgW u (lgW r (lgW v70 (lgR v65 ([],[])))))) (
 K .norm ⟨[d,f,g,o,j,v,y,r,u,z,D,A,v65,v63,N,O,I,Q,L,E,J,G,F,R,W,X,T,U,v53,v55,v59,v57,A,v59,v61,v63,v68,v70,v63,v72,D,v74,tb,tc,td],h78⟩))):=kR
theorem fu (s:Sys) (K:Out→St→Option (V×Hp)) (k wl:Nat) (rd:Bool) (h:Hp):au (xX s 36 wl k rd) K [.seq LV] .norm ⟨[d,f,g,o,j,v,y,r,u,z,D,A,B,M,N,O,I,Q,L,E,J,G,F,R,W,X,T,U,Y,t0,Z,t2,t3,t4,t1,t5,t6,t8,t9,ta,t7,te,tb,tc,td],h⟩ =
 K .norm ⟨[d,f,g,o,j,v,y,r,u,z,T,U,B,M,N,O,I,Q,L,E,J,G,F,R,W,X,T,U,Y,t0,Z,t2,t3,t4,t1,t5,t6,t8,t9,ta,t7,te,tb,tc,td],h⟩:=kR
theorem pZ (cx:Cx) (K:Out→St→Option (V×Hp)) (s:St):au cx K Dd .ret s=K .ret s:=by kernel_rfl
-- names: xFP,ade,afw,L5,Kv,fl,fu,pZ
-- range over a function at [1,1,1,1,0,1,0]
noncomputable def oB:Code:=al (am Tryz.f37) [1,0,1,1,0,1,0,0]
noncomputable def HD:List Fr:=[.block 0,.seq (al (am Tryz.f37) [1,0,1,1,1]),.scope (al (am Tryz.f37) [1,0])]
noncomputable def G9:Code:=al (am Tryz.f37) [1,0,1,1,0,1,0,0,1,1,0,0,1,0,0]
noncomputable def DI:List Fr:=[.seq (al (am Tryz.f37) [1,0,1,1,0,1,0,0,1,1,0,0,1,0,1]),.seq (al (am Tryz.f37) [1,0,1,1,0,1,0,0,1,1,0,0,1,1]),.block 1,.seq (al (am Tryz.f37) [1,0,1,1,0,1,0,0,1,1,1])]
theorem aeh (h:Hp):ak (xX s 37 wl k false) Tryz.f37 [d,f] h =
 bp (av s.P 121 h) fun v1 h2=>
 bp (bc s.P 34 f h2) fun v3 h4=>
 itX (xX s 37 wl k false) oB h4.length (au (xX s 37 wl k false) (ao s.P Tryz.f37) HD) k ⟨[(V.kill h4.length d),(V.kill h4.length f),(V.kill h4.length uu),(V.kill h4.length uu),(.lit (.int .i64 0)),(.lit (.int .i64 0)),(.lit (.int .i64 0)),(V.kill h4.length v1),(V.kill h4.length uu),(V.kill h4.length uu),(V.kill h4.length f),(V.kill h4.length v3),(.lit (.int .i64 0)),.junk,.junk,.junk,.junk,.junk,.junk,.junk,.junk,.junk,.junk,.junk,.junk,.junk,.junk,.junk,.junk,.junk,.junk,(V.kill h4.length uu),(V.kill h4.length uu),(V.kill h4.length uu),(V.kill h4.length uu),(V.kill h4.length uu),(V.kill h4.length uu)],bW h4.length h4⟩:=kB
theorem agC (k wl:Nat) (h:Hp):evF Tryz.prog xM (k+1) wl 37 [d,f] h=ak (xX (xS k) 37 wl k false) Tryz.f37 [d,f] h:=by kernel_rfl
theorem aeT (P:Program) (h:Hp):ao P Tryz.f37 .ret ⟨[d,f,g,o,j,v,y,r,u,z,D,A,B,M,N,O,I,Q,L,E,J,G,F,R,W,X,T,U,Y,t0,Z,t2,t3,t4,t1,t5,t6],h⟩=some (.tup [j,v,y],h):=by kernel_rfl
theorem RI (s:Sys) (K:Out→St→Option (V×Hp)) (k wl:Nat) (rd:Bool) (n n0:Nat) (h:Hp):itX (xX s 37 wl k rd) oB n0 K (n+1) ⟨[d,f,g,o,j,v,y,r,u,z,D,A,B,M,N,O,I,Q,L,E,J,G,F,R,W,X,T,U,Y,t0,Z,t2,t3,t4,t1,t5,t6],h⟩ =
 bm (aw s.P .lss 3 B A) h fun v5 h6=>
 cnd v5 (
 bm (aj s.P 34 D B h6) h6 fun v7 h8=>
 bm (ab s.P 52 v7 h8) h8 fun v9 h10=>
 bp (av s.P 52 h10) fun v11 h12=>
 bs (ai s.P wl 52 v11 v9 h12) fun h13=>
 bm (aa s.P 52 v11 0) h13 fun v14 h15=>
 bm (ab s.P 3 v14 h15) h15 fun v16 h17=>
 bm (aw s.P .lss 3 v16 (.lit (.int .i64 0))) h17 fun v18 h19=>
 gd v18 (
 bV (xX s 37 wl k rd) G9 7 h13.length ([],[]) (au (xX s 37 wl k rd) (eO (xX s 37 wl k rd) oB n0 K n) DI) ⟨[d,f,g,o,j,v,y,r,u,v11,D,A,B,v5,v7,v9,v14,v16,v18,(.lit (.bool true)),uu,uu,uu,R,W,X,T,U,Y,t0,Z,t2,t3,t4,t1,t5,t6],h19⟩) (
 bm (aa s.P 52 v11 0) h19 fun v20 h21=>
 bm (ab s.P 3 v20 h21) h21 fun v22 h23=>
 bm (aw s.P .geq 3 v22 (.lit (.int .i64 6))) h23 fun v24 h25=>
 bV (xX s 37 wl k rd) G9 7 h13.length ([],[]) (au (xX s 37 wl k rd) (eO (xX s 37 wl k rd) oB n0 K n) DI) ⟨[d,f,g,o,j,v,y,r,u,v11,D,A,B,v5,v7,v9,v14,v16,v18,(.lit (.bool false)),v20,v22,v24,R,W,X,T,U,Y,t0,Z,t2,t3,t4,t1,t5,t6],h25⟩) (
 bV (xX s 37 wl k rd) G9 5 h13.length ([],[]) (au (xX s 37 wl k rd) (eO (xX s 37 wl k rd) oB n0 K n) DI) ⟨[d,f,g,o,j,v,y,r,u,v11,D,A,B,v5,v7,v9,v14,v16,v18,v18,uu,G,F,R,W,X,T,U,Y,t0,Z,t2,t3,t4,t1,t5,t6],h19⟩)) (
 K (.exit 0) ⟨[(V.kill n0 d),(V.kill n0 f),(V.kill n0 g),(V.kill n0 o),(V.kill n0 j),(V.kill n0 v),(V.kill n0 y),(V.kill n0 r),(V.kill n0 u),(V.kill n0 z),(V.kill n0 D),(V.kill n0 A),.junk,.junk,.junk,.junk,.junk,.junk,.junk,.junk,.junk,.junk,.junk,.junk,.junk,.junk,.junk,.junk,.junk,.junk,.junk,(V.kill n0 t2),(V.kill n0 t3),(V.kill n0 t4),(V.kill n0 t1),(V.kill n0 t5),(V.kill n0 t6)],bW n0 h6⟩):=kI
theorem Mg (h:Hp):au (xX s 37 wl k false) (ao s.P Tryz.f37) HD (.exit 0) ⟨[d,f,g,o,j,v,y,r,u,z,D,A,B,M,N,O,I,Q,L,E,J,G,F,R,W,X,T,U,Y,t0,Z,t2,t3,t4,t1,t5,t6],h⟩ =
 bm (aj s.P 121 r (.lit (.int .i64 0)) h) h fun v26 h27=>
 bm (ab s.P 3 v26 h27) h27 fun v28 h29=>
 bm (aj s.P 121 r (.lit (.int .i64 1)) h29) h29 fun v30 h31=>
 bm (ab s.P 3 v30 h31) h31 fun v32 h33=>
 bm (aj s.P 121 r (.lit (.int .i64 4)) h33) h33 fun v34 h35=>
 bm (ab s.P 3 v34 h35) h35 fun v36 h37=>
 some (.tup [v28,v32,v36],h37):=kR
theorem LP (s:Sys) (K:Out→St→Option (V×Hp)) (k wl:Nat) (rd:Bool) (n n0:Nat) (m0:Nat) (ac:List Nat×List Nat) (h:Hp):bV (xX s 37 wl k rd) G9 7 m0 ac (au (xX s 37 wl k rd) (eO (xX s 37 wl k rd) oB n0 K n) DI) ⟨[d,f,g,o,j,v,y,r,u,z,D,A,B,M,N,O,I,Q,L,E,J,G,F,R,W,X,T,U,Y,t0,Z,t2,t3,t4,t1,t5,t6],h⟩ =
 bm (aQ E (.lit (.bool true)) F) h fun v38 h39=>
 cnd v38 (
 bm (aw s.P .add 3 B (.lit (.int .i64 1))) h39 fun v40 h41=>
 itX (xX s 37 wl k rd) oB n0 K n ⟨[(V.kill n0 d),(V.kill n0 f),(V.kill n0 g),(V.kill n0 o),(V.kill n0 j),(V.kill n0 v),(V.kill n0 y),(V.kill n0 r),(V.kill n0 u),(V.kill n0 z),(V.kill n0 D),(V.kill n0 A),(V.kill n0 v40),.junk,.junk,.junk,.junk,.junk,.junk,.junk,.junk,.junk,.junk,.junk,.junk,.junk,.junk,.junk,.junk,.junk,.junk,(V.kill n0 t2),(V.kill n0 t3),(V.kill n0 t4),(V.kill n0 t1),(V.kill n0 t5),(V.kill n0 t6)],bW n0 h41⟩) (
 bm (aa s.P 52 z 0) h39 fun v42 h43=>
 bm (ab s.P 3 v42 h43) h43 fun v44 h45=>
 bm (aj s.P 121 r v44 h45) h45 fun v46 h47=>
 bm (ab s.P 3 v46 h47) h47 fun v48 h49=>
 bm (aw s.P .add 3 v48 (.lit (.int .i64 1))) h49 fun v50 h51=>
 bm (aj s.P 121 r v44 h51) h51 fun v52 h53=>
 bs (ai s.P wl 3 v52 v50 h53) fun h54=>
 bm (aw s.P .add 3 B (.lit (.int .i64 1))) h54 fun v55 h56=>
 itX (xX s 37 wl k rd) oB n0 K n ⟨[(V.kill n0 d),(V.kill n0 f),(V.kill n0 g),(V.kill n0 o),(V.kill n0 j),(V.kill n0 v),(V.kill n0 y),(V.kill n0 r),(V.kill n0 u),(V.kill n0 z),(V.kill n0 D),(V.kill n0 A),(V.kill n0 v55),.junk,.junk,.junk,.junk,.junk,.junk,.junk,.junk,.junk,.junk,.junk,.junk,.junk,.junk,.junk,.junk,.junk,.junk,(V.kill n0 t2),(V.kill n0 t3),(V.kill n0 t4),(V.kill n0 t1),(V.kill n0 t5),(V.kill n0 t6)],bW n0 h56⟩):=kG
theorem pw (cx:Cx) (K:Out→St→Option (V×Hp)) (s:St):au cx K HD .ret s=K .ret s:=by kernel_rfl
theorem pM (cx:Cx) (K:Out→St→Option (V×Hp)) (s:St):au cx K DI .ret s=K .ret s:=by kernel_rfl
-- names: xFP,aeh,aeT,RI,Mg,LP,pw,pM
noncomputable def Gz:Code:=al (am Tryz.f39) [1,1,0,1,0,0]
noncomputable def HQ:List Fr:=[.block 0,.seq (al (am Tryz.f39) [1,1,1])]
theorem agb (h:Hp):ak (xX s 39 wl k false) Tryz.f39 [d] h =
 bp (aN d h) fun v1 h2=>
 bm (aa s.P 30 v1 4) h2 fun v3 h4=>
 bm (ab s.P 28 v3 h4) h4 fun v5 h6=>
 bp (bc s.P 28 v5 h6) fun v7 h8=>
 itX (xX s 39 wl k false) Gz h8.length (au (xX s 39 wl k false) (ao s.P Tryz.f39) HQ) k ⟨[(V.kill h8.length d),(V.kill h8.length v1),(.lit (.int .i64 0)),(.lit (.int .i64 0)),(V.kill h8.length uu),(V.kill h8.length uu),(V.kill h8.length v3),(V.kill h8.length v5),(V.kill h8.length v7),(.lit (.int .i64 0)),.junk,.junk,.junk,.junk,.junk,.junk,.junk,.junk,.junk,(V.kill h8.length uu),(V.kill h8.length uu),(V.kill h8.length uu),(V.kill h8.length uu)],bW h8.length h8⟩:=kB
theorem agI (k wl:Nat) (h:Hp):evF Tryz.prog xM (k+1) wl 39 [d] h=ak (xX (xS k) 39 wl k false) Tryz.f39 [d] h:=by kernel_rfl
theorem ae0 (P:Program) (h:Hp):ao P Tryz.f39 .ret ⟨[d,f,g,o,j,v,y,r,u,z,D,A,B,M,N,O,I,Q,L,E,J,G,F],h⟩=some (g,h):=by kernel_rfl
theorem SG (s:Sys) (K:Out→St→Option (V×Hp)) (k wl:Nat) (rd:Bool) (n n0:Nat) (h:Hp):itX (xX s 39 wl k rd) Gz n0 K (n+1) ⟨[d,f,g,o,j,v,y,r,u,z,D,A,B,M,N,O,I,Q,L,E,J,G,F],h⟩ =
 bm (aw s.P .lss 3 z u) h fun v9 h10=>
 cnd v9 (
 bm (aj s.P 28 r z h10) h10 fun v11 h12=>
 bm (ab s.P 57 v11 h12) h12 fun v13 h14=>
 bp (av s.P 57 h14) fun v15 h16=>
 bs (ai s.P wl 57 v15 v13 h16) fun h17=>
 bm (aa s.P 57 v15 1) h17 fun v18 h19=>
 bm (ab s.P 53 v18 h19) h19 fun v20 h21=>
 bp (bc s.P 53 v20 h21) fun v22 h23=>
 bm (aw s.P .add 3 o v22) h23 fun v24 h25=>
 bm (aw s.P .add 3 z (.lit (.int .i64 1))) h25 fun v26 h27=>
 itX (xX s 39 wl k rd) Gz n0 K n ⟨[(V.kill n0 d),(V.kill n0 f),(V.kill n0 g),(V.kill n0 v24),(V.kill n0 j),(V.kill n0 v15),(V.kill n0 y),(V.kill n0 r),(V.kill n0 u),(V.kill n0 v26),.junk,.junk,.junk,.junk,.junk,.junk,.junk,.junk,.junk,(V.kill n0 E),(V.kill n0 J),(V.kill n0 G),(V.kill n0 F)],bW n0 h27⟩) (
 K (.exit 0) ⟨[(V.kill n0 d),(V.kill n0 f),(V.kill n0 g),(V.kill n0 o),(V.kill n0 j),(V.kill n0 v),(V.kill n0 y),(V.kill n0 r),(V.kill n0 u),.junk,.junk,.junk,.junk,.junk,.junk,.junk,.junk,.junk,.junk,(V.kill n0 E),(V.kill n0 J),(V.kill n0 G),(V.kill n0 F)],bW n0 h10⟩):=kI
theorem Lg (h:Hp):au (xX s 39 wl k false) (ao s.P Tryz.f39) HQ (.exit 0) ⟨[d,f,g,o,j,v,y,r,u,z,D,A,B,M,N,O,I,Q,L,E,J,G,F],h⟩ =
 bm (ab s.P 30 f h) h fun v28 h29=>
 bp (bL (xX s 39 wl k false) false true (.fn (.func 20) [] []) [v28] h29) fun v30 h31=>
 bm (vUn .not v30) h31 fun v32 h33=>
 cnd v32 (
 some ((.lit (.int .i64 0)),h33)) (
 some (o,h33)):=kR
theorem pW (cx:Cx) (K:Out→St→Option (V×Hp)) (s:St):au cx K HQ .ret s=K .ret s:=by kernel_rfl
-- names: xFP,agb,ae0,SG,Lg,pW
noncomputable def Su:Code:=al (am Tryz.f73) [1,1,0,1,0]
noncomputable def MO:Code:=al (am Tryz.f73) [1,1,0,1,0,0]
noncomputable def K3:Code:=al (am Tryz.f73) [1,1,0,1,0,1]
noncomputable def HI:List Fr:=[.block 0,.seq (al (am Tryz.f73) [1,1,1])]
theorem DE:Su = .rangeFunc (.tmp 6) #[7] MO K3:=by kernel_rfl
theorem afV (h:Hp):ak (xX s 73 wl k false) Tryz.f73 [d] h =
 bp (some (.own h.length 0 0,h++[.rows 0 [] 0 true])) fun v1 h2=>
 bp (av s.P 31 h2) fun v3 h4=>
 bp (bL (xX s 73 wl k false) false true (.fn (.func 111) [] []) [d,(.lit (.int .i64 3))] h4) fun v5 h6=>
 ba (xX s 73 wl k false) Su none (au (xX s 73 wl k false) (ao s.P Tryz.f73) HI) ⟨[d,uu,v1,v3,uu,d,v5,uu,uu,uu,uu,uu,uu,uu,uu,uu,uu,uu,uu,uu,uu,uu,uu,uu,uu,uu,uu,uu,uu],h6⟩:=kB
theorem agX (k wl:Nat) (h:Hp):evF Tryz.prog xM (k+1) wl 73 [d] h=ak (xX (xS k) 73 wl k false) Tryz.f73 [d] h:=by kernel_rfl
theorem aci (P:Program) (h:Hp):ao P Tryz.f73 .ret ⟨[d,f,g,o,j,v,y,r,u,z,D,A,B,M,N,O,I,Q,L,E,J,G,F,R,W,X,T,U,Y],h⟩=some (g,h):=by kernel_rfl
theorem ML (h:Hp):au (xX s 73 wl k false) (ao s.P Tryz.f73) HI .norm ⟨[d,f,g,o,j,v,y,r,u,z,D,A,B,M,N,O,I,Q,L,E,J,G,F,R,W,X,T,U,Y],h⟩ =
 bm (ab s.P 31 o h) h fun v7 h8=>
 some (v7,h8):=kR
theorem ii (s:Sys) (K:Out→St→Option (V×Hp)) (k wl:Nat) (rd:Bool) (h:Hp):au (xX s 73 wl k rd) K [.seq K3] .norm ⟨[d,f,g,o,j,v,y,r,u,z,D,A,B,M,N,O,I,Q,L,E,J,G,F,R,W,X,T,U,Y],h⟩ =
 bp (bc s.P 67 j h) fun v9 h10=>
 bm (aw s.P .eql 3 v9 (.lit (.int .i64 3))) h10 fun v11 h12=>
 cnd v11 (
 stO h12.length o (
 bm (ab s.P 31 o h12) h12 fun v13 h14=>
 bm (aj s.P 67 j (.lit (.int .i64 0)) h14) h14 fun v15 h16=>
 bm (ab s.P 5 v15 h16) h16 fun v17 h18=>
 bm (aw s.P .rem 5 v17 (.lit (.int .u8 4))) h18 fun v19 h20=>
 bm (fI s.P 5 3 v19) h20 fun v21 h22=>
 bm (aj s.P 67 j (.lit (.int .i64 1)) h22) h22 fun v23 h24=>
 bm (ab s.P 5 v23 h24) h24 fun v25 h26=>
 bm (fI s.P 5 3 v25) h26 fun v27 h28=>
 bm (aj s.P 67 j (.lit (.int .i64 2)) h28) h28 fun v29 h30=>
 bm (ab s.P 5 v29 h30) h30 fun v31 h32=>
 bm (fI s.P 5 46 v31) h32 fun v33 h34=>
 bm (a8 s.P 48 [(0,v21),(1,v27),(2,v33)]) h34 fun v35 h36=>
 bp (cN s.P wl 31 1 [(0,v35)] h36) fun v37 h38=>
 bp (kM s.P wl 31 31 v13 v37 h38) fun v39 h40=>
 bs (ai s.P wl 31 o v39 h40) fun h41=>
 K .norm ⟨[d,f,g,o,j,v,y,r,j,v9,v11,v13,j,v15,v17,v19,v21,j,v23,v25,v27,j,v29,v31,v33,v35,v37,v39,Y],h41⟩)) (
 K .norm ⟨[d,f,g,o,j,v,y,r,j,v9,v11,A,B,M,N,O,I,Q,L,E,J,G,F,R,W,X,T,U,Y],h12⟩):=kR
theorem ig (s:Sys) (K:Out→St→Option (V×Hp)) (k wl:Nat) (rd:Bool) (h:Hp):au (xX s 73 wl k rd) K [.seq MO] .norm ⟨[d,f,g,o,j,v,y,r,u,z,D,A,B,M,N,O,I,Q,L,E,J,G,F,R,W,X,T,U,Y],h⟩ =
 K .norm ⟨[d,f,g,o,r,v,y,r,u,z,D,A,B,M,N,O,I,Q,L,E,J,G,F,R,W,X,T,U,Y],h⟩:=kR
theorem pu (cx:Cx) (K:Out→St→Option (V×Hp)) (s:St):au cx K HI .ret s=K .ret s:=by kernel_rfl
-- names: xFP,afV,aci,ML,ii,ig,pu
-- range over a function at [1,1,0,1,0]
theorem afQ (h:Hp):ak (xX s 74 wl k false) Tryz.f74 [d,f] h =
 bp (aN d h) fun v1 h2=>
 bp (aN f h2) fun v3 h4=>
 some ((.fn (.func 112) [] [v3,v1]),h4):=kB
theorem ag7 (k wl:Nat) (h:Hp):evF Tryz.prog xM (k+1) wl 74 [d,f] h=ak (xX (xS k) 74 wl k false) Tryz.f74 [d,f] h:=by kernel_rfl
-- names: xFP,afQ,
noncomputable def E0:List Fr:=[.seq (al (am Tryz.f111) [1,1])]
theorem Ua (h:Hp):ak (xX s 111 wl k false) Tryz.f111 [d,f] h =
 bp (aN d h) fun v1 h2=>
 bp (aN f h2) fun v3 h4=>
 bm (ab s.P 3 v3 h4) h4 fun v5 h6=>
 bm (aw s.P .lss 3 v5 (.lit (.int .i64 1))) h6 fun v7 h8=>
 cnd v7 (
 none) (
 au (xX s 111 wl k false) (ao s.P Tryz.f111) E0 .norm ⟨[d,f,v1,v3,(kq Value.nilFunc),v5,v7,uu,uu],h8⟩):=kB
theorem XU (k wl:Nat) (h:Hp):evF Tryz.prog xM (k+1) wl 111 [d,f] h=ak (xX (xS k) 111 wl k false) Tryz.f111 [d,f] h:=by kernel_rfl
theorem E3 (h:Hp):au (xX s 111 wl k false) (ao s.P Tryz.f111) E0 .norm ⟨[d,f,g,o,j,v,y,r,u],h⟩ =
 some ((.fn (.func 152) [] [g,o]),h):=kR
theorem nW (cx:Cx) (K:Out→St→Option (V×Hp)) (s:St):au cx K E0 .ret s=K .ret s:=by kernel_rfl
-- names: xFP,Ua,E3,nW
noncomputable def AZ:Code:=al (am Tryz.f112) [1,0,0]
noncomputable def BB:List Fr:=[.block 0]
theorem Tm (h:Hp):ak (xX s 112 wl k false) Tryz.f112 [d,f,g] h =
 itX (xX s 112 wl k false) AZ h.length (au (xX s 112 wl k false) (ao s.P Tryz.f112) BB) k ⟨[(V.kill h.length d),(V.kill h.length f),(V.kill h.length g),(V.kill h.length uu),(.lit (.int .i64 0)),.junk,.junk,.junk,.junk,.junk,.junk,.junk,.junk,.junk,.junk,.junk,.junk,.junk,.junk,.junk,.junk,.junk,.junk,.junk],bW h.length h⟩:=kB
theorem Zq (k wl:Nat) (h:Hp):evF Tryz.prog xM (k+1) wl 112 [d,f,g] h=ak (xX (xS k) 112 wl k false) Tryz.f112 [d,f,g] h:=by kernel_rfl
theorem Vs (P:Program) (h:Hp):ao P Tryz.f112 .ret ⟨[d,f,g,o,j,v,y,r,u,z,D,A,B,M,N,O,I,Q,L,E,J,G,F,R],h⟩=some (.tup [],h):=by kernel_rfl
theorem LI (s:Sys) (K:Out→St→Option (V×Hp)) (k wl:Nat) (rd:Bool) (n n0:Nat) (h:Hp):itX (xX s 112 wl k rd) AZ n0 K (n+1) ⟨[d,f,g,o,j,v,y,r,u,z,D,A,B,M,N,O,I,Q,L,E,J,G,F,R],h⟩ =
 bm (ab s.P 3 f h) h fun v1 h2=>
 bm (gw false [v1,(.lit (.int .i64 5000))]) h2 fun v3 h4=>
 bm (aw s.P .lss 3 j v3) h4 fun v5 h6=>
 cnd v5 (
 bm (aa s.P 30 g 0) h6 fun v7 h8=>
 bm (aa s.P 23 v7 0) h8 fun v9 h10=>
 bm (ab s.P 3 v9 h10) h10 fun v11 h12=>
 bm (aa s.P 30 g 4) h12 fun v13 h14=>
 bm (ab s.P 28 v13 h14) h14 fun v15 h16=>
 bp (bc s.P 28 v15 h16) fun v17 h18=>
 bm (fI s.P 3 46 j) h18 fun v19 h20=>
 bp (bL (xX s 112 wl k rd) false true (.fn (.func 113) [] []) [v11,v17,v19] h20) fun v21 h22=>
 bp (bL (xX s 112 wl k rd) false true d [j,v21] h22) fun v23 h24=>
 bm (vUn .not v23) h24 fun v25 h26=>
 cnd v25 (
 K .ret ⟨[d,f,g,o,j,j,v1,v3,v5,z,D,d,j,v7,v9,v11,v13,v15,v17,j,v19,v21,v23,v25],h26⟩) (
 bm (aw s.P .add 3 j (.lit (.int .i64 1))) h26 fun v27 h28=>
 itX (xX s 112 wl k rd) AZ n0 K n ⟨[(V.kill n0 d),(V.kill n0 f),(V.kill n0 g),(V.kill n0 o),(V.kill n0 v27),.junk,.junk,.junk,.junk,.junk,.junk,.junk,.junk,.junk,.junk,.junk,.junk,.junk,.junk,.junk,.junk,.junk,.junk,.junk],bW n0 h28⟩)) (
 K (.exit 0) ⟨[(V.kill n0 d),(V.kill n0 f),(V.kill n0 g),(V.kill n0 o),(V.kill n0 j),.junk,.junk,.junk,.junk,.junk,.junk,.junk,.junk,.junk,.junk,.junk,.junk,.junk,.junk,.junk,.junk,.junk,.junk,.junk],bW n0 h6⟩):=kI
theorem Gh (h:Hp):au (xX s 112 wl k false) (ao s.P Tryz.f112) BB (.exit 0) ⟨[d,f,g,o,j,v,y,r,u,z,D,A,B,M,N,O,I,Q,L,E,J,G,F,R],h⟩ =
 some (.tup [],h):=kR
theorem nX (cx:Cx) (K:Out→St→Option (V×Hp)) (s:St):au cx K BB .ret s=K .ret s:=by kernel_rfl
-- names: xFP,Tm,Vs,LI,Gh,nX
noncomputable def A6:Code:=al (am Tryz.f113) [1,0,0]
noncomputable def wx:List Fr:=[.seq (al (am Tryz.f113) [1,0,1]),.seq (al (am Tryz.f113) [1,1])]
noncomputable def Bj:Code:=al (am Tryz.f113) [1,1,1,0,1,0,0]
noncomputable def AS:List Fr:=[.block 0,.seq (al (am Tryz.f113) [1,1,1,1])]
noncomputable def Ce:Code:=al (am Tryz.f113) [1,1,1,1,0,1,0,0]
noncomputable def B6:List Fr:=[.block 2,.seq (al (am Tryz.f113) [1,1,1,1,1])]
theorem Pq (h:Hp):ak (xX s 113 wl k false) Tryz.f113 [d,f,g] h =
 bp (some (.own h.length 0 0,h++[.rows 0 [] 0 true])) fun v1 h2=>
 bp (bL (xX s 113 wl k false) false true (.fn (.func 81) [] []) [d,(.lit (.int .i64 21))] h2) fun v3 h4=>
 bm (vUn .not v3) h4 fun v5 h6=>
 gd v5 (
 bV (xX s 113 wl k false) A6 7 h2.length ([],[]) (au (xX s 113 wl k false) (ao s.P Tryz.f113) wx) ⟨[d,f,g,uu,uu,uu,v1,uu,uu,uu,d,v3,v5,(.lit (.bool true)),uu,uu,uu,uu,uu,uu,uu,uu,uu,uu,uu,uu,uu,uu,uu,uu,uu,uu,uu,uu,uu,uu,uu,uu,uu,uu,uu],h6⟩) (
 bp (bL (xX s 113 wl k false) false true (.fn (.func 81) [] []) [f,(.lit (.int .i64 21))] h6) fun v7 h8=>
 bm (vUn .not v7) h8 fun v9 h10=>
 bV (xX s 113 wl k false) A6 7 h2.length ([],[]) (au (xX s 113 wl k false) (ao s.P Tryz.f113) wx) ⟨[d,f,g,uu,uu,uu,v1,uu,uu,uu,d,v3,v5,(.lit (.bool false)),f,v7,v9,uu,uu,uu,uu,uu,uu,uu,uu,uu,uu,uu,uu,uu,uu,uu,uu,uu,uu,uu,uu,uu,uu,uu,uu],h10⟩) (
 bV (xX s 113 wl k false) A6 5 h2.length ([],[]) (au (xX s 113 wl k false) (ao s.P Tryz.f113) wx) ⟨[d,f,g,uu,uu,uu,v1,uu,uu,uu,d,v3,v5,v5,uu,uu,uu,uu,uu,uu,uu,uu,uu,uu,uu,uu,uu,uu,uu,uu,uu,uu,uu,uu,uu,uu,uu,uu,uu,uu,uu],h6⟩):=kB
theorem Wh (k wl:Nat) (h:Hp):evF Tryz.prog xM (k+1) wl 113 [d,f,g] h=ak (xX (xS k) 113 wl k false) Tryz.f113 [d,f,g] h:=by kernel_rfl
theorem O0 (P:Program) (h:Hp):ao P Tryz.f113 .ret ⟨[d,f,g,o,j,v,y,r,u,z,D,A,B,M,N,O,I,Q,L,E,J,G,F,R,W,X,T,U,Y,t0,Z,t2,t3,t4,t1,t5,t6,t8,t9,ta,t7],h⟩=some (y,h):=by kernel_rfl
theorem Bv (h:Hp):bV (xX s 113 wl k false) A6 7 m0 ac (au (xX s 113 wl k false) (ao s.P Tryz.f113) wx) ⟨[d,f,g,o,j,v,y,r,u,z,D,A,B,M,N,O,I,Q,L,E,J,G,F,R,W,X,T,U,Y,t0,Z,t2,t3,t4,t1,t5,t6,t8,t9,ta,t7],h⟩ =
 bm (aQ M (.lit (.bool true)) I) h fun v11 h12=>
 cnd v11 (
 bp (some (.own h12.length 0 0,h12++[.rows 0 [] 0 true])) fun v13 h14=>
 some (v13,h14)) (
 bp (some (.own h12.length 0 0,h12++[.rows 0 [] 0 true])) fun v15 h16=>
 itX (xX s 113 wl k false) Bj h16.length (au (xX s 113 wl k false) (ao s.P Tryz.f113) AS) k ⟨[(V.kill h16.length d),(V.kill h16.length f),(V.kill h16.length g),(V.kill h16.length o),(V.kill h16.length j),(V.kill h16.length v),(V.kill h16.length y),(V.kill h16.length v15),(V.kill h16.length u),(V.kill h16.length z),(V.kill h16.length D),(V.kill h16.length A),(V.kill h16.length B),(V.kill h16.length M),(V.kill h16.length N),(V.kill h16.length O),(V.kill h16.length I),(V.kill h16.length v11),(V.kill h16.length d),(.lit (.int .i64 0)),.junk,.junk,.junk,.junk,.junk,.junk,.junk,.junk,.junk,(V.kill h16.length t0),(V.kill h16.length Z),(V.kill h16.length t2),(V.kill h16.length t3),(V.kill h16.length t4),(V.kill h16.length t1),(V.kill h16.length t5),(V.kill h16.length t6),(V.kill h16.length t8),(V.kill h16.length t9),(V.kill h16.length ta),(V.kill h16.length t7)],bW h16.length h16⟩):=kG
theorem L9 (s:Sys) (K:Out→St→Option (V×Hp)) (k wl:Nat) (rd:Bool) (n n0:Nat) (h:Hp):itX (xX s 113 wl k rd) Bj n0 K (n+1) ⟨[d,f,g,o,j,v,y,r,u,z,D,A,B,M,N,O,I,Q,L,E,J,G,F,R,W,X,T,U,Y,t0,Z,t2,t3,t4,t1,t5,t6,t8,t9,ta,t7],h⟩ =
 bm (aw s.P .lss 3 E L) h fun v17 h18=>
 cnd v17 (
 bm (a8 s.P 48 [(0,(.lit (.int .i64 0))),(1,E),(2,g)]) h18 fun v19 h20=>
 bp (aA s.P wl 31 1 [(0,v19)] h20) fun v21 h22=>
 bp (kM s.P wl 31 31 r v21 h22) fun v23 h24=>
 bm (aw s.P .add 3 E (.lit (.int .i64 1))) h24 fun v25 h26=>
 itX (xX s 113 wl k rd) Bj n0 K n ⟨[(V.kill n0 d),(V.kill n0 f),(V.kill n0 g),(V.kill n0 o),(V.kill n0 j),(V.kill n0 v),(V.kill n0 y),(V.kill n0 v23),(V.kill n0 E),(V.kill n0 z),(V.kill n0 D),(V.kill n0 A),(V.kill n0 B),(V.kill n0 M),(V.kill n0 N),(V.kill n0 O),(V.kill n0 I),(V.kill n0 Q),(V.kill n0 L),(V.kill n0 v25),.junk,.junk,.junk,.junk,.junk,.junk,.junk,.junk,.junk,(V.kill n0 t0),(V.kill n0 Z),(V.kill n0 t2),(V.kill n0 t3),(V.kill n0 t4),(V.kill n0 t1),(V.kill n0 t5),(V.kill n0 t6),(V.kill n0 t8),(V.kill n0 t9),(V.kill n0 ta),(V.kill n0 t7)],bW n0 h26⟩) (
 K (.exit 0) ⟨[(V.kill n0 d),(V.kill n0 f),(V.kill n0 g),(V.kill n0 o),(V.kill n0 j),(V.kill n0 v),(V.kill n0 y),(V.kill n0 r),(V.kill n0 u),(V.kill n0 z),(V.kill n0 D),(V.kill n0 A),(V.kill n0 B),(V.kill n0 M),(V.kill n0 N),(V.kill n0 O),(V.kill n0 I),(V.kill n0 Q),(V.kill n0 L),.junk,.junk,.junk,.junk,.junk,.junk,.junk,.junk,.junk,.junk,(V.kill n0 t0),(V.kill n0 Z),(V.kill n0 t2),(V.kill n0 t3),(V.kill n0 t4),(V.kill n0 t1),(V.kill n0 t5),(V.kill n0 t6),(V.kill n0 t8),(V.kill n0 t9),(V.kill n0 ta),(V.kill n0 t7)],bW n0 h18⟩):=kI
theorem BQ (h:Hp):au (xX s 113 wl k false) (ao s.P Tryz.f113) AS (.exit 0) ⟨[d,f,g,o,j,v,y,r,u,z,D,A,B,M,N,O,I,Q,L,E,J,G,F,R,W,X,T,U,Y,t0,Z,t2,t3,t4,t1,t5,t6,t8,t9,ta,t7],h⟩ =
 itX (xX s 113 wl k false) Ce h.length (au (xX s 113 wl k false) (ao s.P Tryz.f113) B6) k ⟨[(V.kill h.length d),(V.kill h.length f),(V.kill h.length g),(V.kill h.length o),(V.kill h.length j),(V.kill h.length v),(V.kill h.length y),(V.kill h.length r),(V.kill h.length u),(V.kill h.length z),(V.kill h.length D),(V.kill h.length A),(V.kill h.length B),(V.kill h.length M),(V.kill h.length N),(V.kill h.length O),(V.kill h.length I),(V.kill h.length Q),(V.kill h.length L),(V.kill h.length E),(V.kill h.length J),(V.kill h.length G),(V.kill h.length F),(V.kill h.length R),(V.kill h.length W),(V.kill h.length X),(V.kill h.length T),(V.kill h.length U),(V.kill h.length Y),(V.kill h.length f),(.lit (.int .i64 0)),.junk,.junk,.junk,.junk,.junk,.junk,.junk,.junk,.junk,(V.kill h.length t7)],bW h.length h⟩:=kR
theorem K2 (s:Sys) (K:Out→St→Option (V×Hp)) (k wl:Nat) (rd:Bool) (n n0:Nat) (h:Hp):itX (xX s 113 wl k rd) Ce n0 K (n+1) ⟨[d,f,g,o,j,v,y,r,u,z,D,A,B,M,N,O,I,Q,L,E,J,G,F,R,W,X,T,U,Y,t0,Z,t2,t3,t4,t1,t5,t6,t8,t9,ta,t7],h⟩ =
 bm (aw s.P .lss 3 Z t0) h fun v27 h28=>
 cnd v27 (
 bm (a8 s.P 48 [(0,(.lit (.int .i64 1))),(1,Z),(2,g)]) h28 fun v29 h30=>
 bp (aA s.P wl 31 1 [(0,v29)] h30) fun v31 h32=>
 bp (kM s.P wl 31 31 r v31 h32) fun v33 h34=>
 bm (aw s.P .add 3 Z (.lit (.int .i64 1))) h34 fun v35 h36=>
 itX (xX s 113 wl k rd) Ce n0 K n ⟨[(V.kill n0 d),(V.kill n0 f),(V.kill n0 g),(V.kill n0 o),(V.kill n0 j),(V.kill n0 v),(V.kill n0 y),(V.kill n0 v33),(V.kill n0 u),(V.kill n0 Z),(V.kill n0 D),(V.kill n0 A),(V.kill n0 B),(V.kill n0 M),(V.kill n0 N),(V.kill n0 O),(V.kill n0 I),(V.kill n0 Q),(V.kill n0 L),(V.kill n0 E),(V.kill n0 J),(V.kill n0 G),(V.kill n0 F),(V.kill n0 R),(V.kill n0 W),(V.kill n0 X),(V.kill n0 T),(V.kill n0 U),(V.kill n0 Y),(V.kill n0 t0),(V.kill n0 v35),.junk,.junk,.junk,.junk,.junk,.junk,.junk,.junk,.junk,(V.kill n0 t7)],bW n0 h36⟩) (
 K (.exit 2) ⟨[(V.kill n0 d),(V.kill n0 f),(V.kill n0 g),(V.kill n0 o),(V.kill n0 j),(V.kill n0 v),(V.kill n0 y),(V.kill n0 r),(V.kill n0 u),(V.kill n0 z),(V.kill n0 D),(V.kill n0 A),(V.kill n0 B),(V.kill n0 M),(V.kill n0 N),(V.kill n0 O),(V.kill n0 I),(V.kill n0 Q),(V.kill n0 L),(V.kill n0 E),(V.kill n0 J),(V.kill n0 G),(V.kill n0 F),(V.kill n0 R),(V.kill n0 W),(V.kill n0 X),(V.kill n0 T),(V.kill n0 U),(V.kill n0 Y),(V.kill n0 t0),.junk,.junk,.junk,.junk,.junk,.junk,.junk,.junk,.junk,.junk,(V.kill n0 t7)],bW n0 h28⟩):=kI
theorem A3 (h:Hp):au (xX s 113 wl k false) (ao s.P Tryz.f113) B6 (.exit 2) ⟨[d,f,g,o,j,v,y,r,u,z,D,A,B,M,N,O,I,Q,L,E,J,G,F,R,W,X,T,U,Y,t0,Z,t2,t3,t4,t1,t5,t6,t8,t9,ta,t7],h⟩ =
 some (r,h):=kR
theorem mf (cx:Cx) (K:Out→St→Option (V×Hp)) (s:St):au cx K wx .ret s=K .ret s:=by kernel_rfl
theorem lU (cx:Cx) (K:Out→St→Option (V×Hp)) (s:St):au cx K AS .ret s=K .ret s:=by kernel_rfl
theorem l9 (cx:Cx) (K:Out→St→Option (V×Hp)) (s:St):au cx K B6 .ret s=K .ret s:=by kernel_rfl
-- names: xFP,Pq,O0,Bv,L9,BQ,K2,A3,mf,lU,l9
theorem Ib {P:Program} {wl:Nat} {c:Bool} {t e:TypeId} {α:Type} {enc:α→List V} {l:List α} {k k' k2:IntKind} {lo n m:Int} {H:Hp} (he:kH P t=some e) (hz:(aS P e !=0)=true) (h:∀ x,(enc x).length=aS P e) :
  bR P wl c t (.ro (l.map enc)) (some (.lit (.int k lo))) (some (.lit (.int k' n))) (some (.lit (.int k2 m))) H=bif decide (0≤lo∧lo≤n∧n≤m∧m≤l.length) then some (.ro (((l.take n.toNat).drop lo.toNat).map enc),H) else none:=by
 have hz':aS P e≠0:=by simpa using hz
 unfold bR
 simp only [he,bnd]
 by_cases h0:0≤lo∧lo≤n∧n≤m∧m≤l.length
 ·have h1:0≤lo:=h0.1
  have h2:0≤n:=by omega
  have h3:0≤m:=by omega
  have h4:lo.toNat≤n.toNat:=by omega
  have h5:n.toNat≤m.toNat:=by omega
  have h6:m.toNat≤l.length:=by omega
  simp [h0,h1,h2,h3,h4,h5,h6,hz',BY h,List.map_take,List.map_drop]
  omega
 ·rw [decide_eq_false h0]
  by_cases h1:0≤lo
  ·by_cases h2:0≤n
   ·by_cases h3:0≤m
    ·have:¬ (lo.toNat≤n.toNat∧n.toNat≤m.toNat∧m.toNat≤l.length):=by omega
     simp only [h1,h2,h3,if_true,Option.bind_some,List.length_map,cond_false]
     rw [if_neg (fun hh=>this ⟨hh.2.1,hh.2.2.1,hh.2.2.2.1⟩)]
    ·simp [h1,h2,h3]
   ·simp [h1,h2]
  ·simp [h1]
theorem nc (kk:Nat) (wl:Nat) (c:Bool) (l:List Int) (k k2 k3:IntKind) (lo n m:Int) (H:Hp):bR (xS kk).P wl c 67 (.ro (l.map (aF .u8))) (some (.lit (.int k lo))) (some (.lit (.int k2 n))) (some (.lit (.int k3 m))) H=bif decide (0≤lo∧lo≤n∧n≤m∧m≤l.length) then some (.ro (((l.take n.toNat).drop lo.toNat).map (aF .u8)),H) else none:=Ib (e:=5) (by kernel_rfl) (by kernel_rfl) (fun _=>by kernel_rfl)
noncomputable def AP:Code:=al (am Tryz.f152) [1,0,0]
noncomputable def BX:List Fr:=[.block 0]
theorem Uw (h:Hp):ak (xX s 152 wl k false) Tryz.f152 [d,f,g] h =
 itX (xX s 152 wl k false) AP h.length (au (xX s 152 wl k false) (ao s.P Tryz.f152) BX) k ⟨[(V.kill h.length d),(V.kill h.length f),(V.kill h.length g),(V.kill h.length uu),(.lit (.int .i64 0)),(V.kill h.length uu),.junk,.junk,.junk,.junk,.junk,.junk,.junk,.junk,.junk,.junk,.junk,.junk,.junk,.junk,.junk,.junk,.junk,.junk,.junk,.junk,.junk,.junk,.junk,.junk,.junk],bW h.length h⟩:=kB
theorem XH (k wl:Nat) (h:Hp):evF Tryz.prog xM (k+1) wl 152 [d,f,g] h=ak (xX (xS k) 152 wl k false) Tryz.f152 [d,f,g] h:=by kernel_rfl
theorem Ul (P:Program) (h:Hp):ao P Tryz.f152 .ret ⟨[d,f,g,o,j,v,y,r,u,z,D,A,B,M,N,O,I,Q,L,E,J,G,F,R,W,X,T,U,Y,t0,Z],h⟩=some (.tup [],h):=by kernel_rfl
theorem LM (s:Sys) (K:Out→St→Option (V×Hp)) (k wl:Nat) (rd:Bool) (n n0:Nat) (h:Hp):itX (xX s 152 wl k rd) AP n0 K (n+1) ⟨[d,f,g,o,j,v,y,r,u,z,D,A,B,M,N,O,I,Q,L,E,J,G,F,R,W,X,T,U,Y,t0,Z],h⟩ =
 bm (ab s.P 67 f h) h fun v1 h2=>
 bp (bc s.P 67 v1 h2) fun v3 h4=>
 bm (aw s.P .lss 3 j v3) h4 fun v5 h6=>
 cnd v5 (
 bm (ab s.P 3 g h6) h6 fun v7 h8=>
 bm (ab s.P 67 f h8) h8 fun v9 h10=>
 bp (bR s.P wl true 67 v9 (some j) none none h10) fun v11 h12=>
 bp (bc s.P 67 v11 h12) fun v13 h14=>
 bm (gw false [v7,v13]) h14 fun v15 h16=>
 bm (ab s.P 67 f h16) h16 fun v17 h18=>
 bm (aw s.P .add 3 j v15) h18 fun v19 h20=>
 bm (aw s.P .add 3 j v15) h20 fun v21 h22=>
 bp (bR s.P wl false 67 v17 (some j) (some v19) (some v21) h22) fun v23 h24=>
 bp (bL (xX s 152 wl k rd) false true d [v23] h24) fun v25 h26=>
 bm (vUn .not v25) h26 fun v27 h28=>
 cnd v27 (
 K .ret ⟨[d,f,g,o,j,v15,j,v1,v3,v5,D,A,B,v7,v9,j,v11,v13,v15,d,v17,j,j,v15,v19,j,v15,v21,v23,v25,v27],h28⟩) (
 bm (ab s.P 3 g h28) h28 fun v29 h30=>
 bm (aw s.P .add 3 j v29) h30 fun v31 h32=>
 itX (xX s 152 wl k rd) AP n0 K n ⟨[(V.kill n0 d),(V.kill n0 f),(V.kill n0 g),(V.kill n0 o),(V.kill n0 v31),(V.kill n0 v15),.junk,.junk,.junk,.junk,.junk,.junk,.junk,.junk,.junk,.junk,.junk,.junk,.junk,.junk,.junk,.junk,.junk,.junk,.junk,.junk,.junk,.junk,.junk,.junk,.junk],bW n0 h32⟩)) (
 K (.exit 0) ⟨[(V.kill n0 d),(V.kill n0 f),(V.kill n0 g),(V.kill n0 o),(V.kill n0 j),(V.kill n0 v),.junk,.junk,.junk,.junk,.junk,.junk,.junk,.junk,.junk,.junk,.junk,.junk,.junk,.junk,.junk,.junk,.junk,.junk,.junk,.junk,.junk,.junk,.junk,.junk,.junk],bW n0 h6⟩):=kI
theorem FO (h:Hp):au (xX s 152 wl k false) (ao s.P Tryz.f152) BX (.exit 0) ⟨[d,f,g,o,j,v,y,r,u,z,D,A,B,M,N,O,I,Q,L,E,J,G,F,R,W,X,T,U,Y,t0,Z],h⟩ =
 some (.tup [],h):=kR
theorem nB (cx:Cx) (K:Out→St→Option (V×Hp)) (s:St):au cx K BX .ret s=K .ret s:=by kernel_rfl
-- names: xFP,nc,Uw,Ul,LM,FO,nB
end
end Go.Ab
