import Derived.Test.YtblpbpnilkfjhaaGreatR6Seat
import Derived.Test.YtblpbpnilkfjhaaGreatR6FacP
import Derived.Test.YtblpbpnilkfjhaaGreatAbLibC
set_option linter.unusedVariables false
set_option linter.unusedSimpArgs false
set_option maxRecDepth 100000
set_option linter.unusedVariables false
namespace Go.Ab
open Go.Proofs
section
variable (s:Sys) (k wl:Nat) (m0:Nat) (ac:List Nat×List Nat) (d f g o j v y r u z D A B M N O I Q L E J G F R W X T U Y t0 Z t2 t3 t4 t1 t5 t6 t8 t9 ta t7 te tb tc td:V) (h:Hp) (K:Out→St→Option (V×Hp)) (rd:Bool) (n n0:Nat) (zz:List V)
theorem ajR:ak (xX s 34 wl k false) Tryz.f34 [d,f,g,o] h =
 bp (aP d h) fun v1 h2=>
 bp (av s.P 30 h2) fun v3 h4=>
 bp (some (.own h4.length 0 0,h4++[.rows 0 [] 0 true])) fun v5 h6=>
 bm (ab s.P 23 v1 h6) h6 fun v7 h8=>
 bp (bE (xX s 34 wl k false) false true (.fn (.func 23) [] []) [v7,f,g] h8) fun v9 hC=>
 bm (aq v9 0) hC fun vB hB=>
 bm (aq v9 1) hB fun vC hD=>
 bp (av s.P 30 hD) fun vA hA=>
 bs (aj s.P wl 30 vA vB hA) fun hU=>
 bm (vUn .not vC) hU fun vJ hI=>
 cnd vJ (
 bm (bf s.P 30 []) hI fun vN hT=>
 bs (aj s.P wl 30 v3 vN hT) fun hG=>
 bp (some (.own hG.length 0 0,hG++[.rows 0 [] 0 true])) fun vE hH=>
 ew [ab s.P 30 v3 hH,some vE,some (.lit (.bool false))] hH) (
 bp (av s.P 30 hI) fun vD hE=>
 stO hI.length vA (
 bm (ab s.P 30 vA hE) hE fun vF hF=>
 bp (bE (xX s 34 wl k false) true true (.fn (.func 73) [] []) [o] hF) fun vM hL=>
 bp (bE (xX s 34 wl k false) true true (.fn (.func 17) [] []) [vF,vM] hL) fun vK hN=>
 bm (aq vK 0) hN fun vO hM=>
 bm (aq vK 1) hM fun vL hO=>
 bs (aj s.P wl 30 vD vO hO) fun hY=>
 bm (ab s.P 30 vD hY) hY fun va hZ=>
 bs (aj s.P wl 30 v3 va hZ) fun hP=>
 ew [ab s.P 30 v3 hP,some vL,some (.lit (.bool true))] hP)):=kB
theorem aj9:evF Tryz.prog xM (k+1) wl 34 [d,f,g,o] h=ak (xX (xS k) 34 wl k false) Tryz.f34 [d,f,g,o] h:=by kernel_rfl
-- names: xFP,ajR,
noncomputable def T4:Code:=al (am Tryz.f36) [1,1,1,1,0,1,0]
noncomputable def LL:Code:=al (am Tryz.f36) [1,1,1,1,0,1,0,0]
noncomputable def Lc:Code:=al (am Tryz.f36) [1,1,1,1,0,1,0,1]
noncomputable def ED:List Fr:=[.block 0,.seq (al (am Tryz.f36) [1,1,1,1,1])]
theorem Do:T4= .rangeFunc (.tmp 25) #[26,27] LL Lc:=by kernel_rfl
theorem ae7:ak (xX s 36 wl k false) Tryz.f36 [d,f] h =
 bp (aP d h) fun v1 h2=>
 bp (av s.P 30 h2) fun v3 h4=>
 bp (some (.own h4.length 0 0,h4++[.rows 0 [] 0 true])) fun v5 h6=>
 bm (ab s.P 30 v1 h6) h6 fun v7 h8=>
 bp (bE (xX s 36 wl k false) false true (.fn (.func 17) [] []) [v7,.nil] h8) fun v9 hC=>
 bm (aq v9 0) hC fun vB hB=>
 bm (aq v9 1) hB fun vC hD=>
 bp (av s.P 30 hD) fun vA hA=>
 bp (av s.P 34 hA) fun vG hJ=>
 bs (aj s.P wl 30 vA vB hJ) fun hI=>
 bs (aj s.P wl 34 vG vC hI) fun hK=>
 bm (ab s.P 30 v1 hK) hK fun vH hG=>
 bp (bE (xX s 36 wl k false) false true (.fn (.func 20) [] []) [vH] hG) fun vE hH=>
 bm (vUn .not vE) hH fun vD hE=>
 cnd vD (
 bm (ab s.P 30 vA hE) hE fun vF hF=>
 bs (aj s.P wl 30 v3 vF hF) fun hQ=>
 bp (some (.own hQ.length 0 0,hQ++[.rows 0 [] 0 true])) fun vQ hR=>
 ew [ab s.P 30 v3 hR,some vQ,some (.lit (.int .i64 0))] hR) (
 bp (av s.P 3 hE) fun vP hS=>
 bs (aj s.P wl 3 vP (.lit (.int .i64 0)) hS) fun hM=>
 bm (ab s.P 30 v1 hM) hM fun vL hO=>
 bp (bE (xX s 36 wl k false) false true (.fn (.func 74) [] []) [vL,f] hO) fun vT hf=>
 bk (xX s 36 wl k false) T4 none (au (xX s 36 wl k false) (ap s.P Tryz.f36) ED) ⟨[d,f,v1,uu,v3,v5,(.lit (.int .i64 0)),vA,vG,vP,uu,uu,uu,uu,v9,v7,v9,vB,vC,vH,vE,vD,uu,vL,f,vT,uu,uu,uu,uu,uu,uu,uu,uu,uu,uu,uu,uu,uu,uu,uu,uu,uu,uu,uu],hf⟩):=kB
theorem ajy:evF Tryz.prog xM (k+1) wl 36 [d,f] h=ak (xX (xS k) 36 wl k false) Tryz.f36 [d,f] h:=by kernel_rfl
theorem ahe (P:Program):ap P Tryz.f36 .ret ⟨[d,f,g,o,j,v,y,r,u,z,D,A,B,M,N,O,I,Q,L,E,J,G,F,R,W,X,T,U,Y,t0,Z,t2,t3,t4,t1,t5,t6,t8,t9,ta,t7,te,tb,tc,td],h⟩=ew [ab P 30 j h,some v,some y] h:=by kernel_rfl
theorem Lu:au (xX s 36 wl k false) (ap s.P Tryz.f36) ED .norm ⟨[d,f,g,o,j,v,y,r,u,z,D,A,B,M,N,O,I,Q,L,E,J,G,F,R,W,X,T,U,Y,t0,Z,t2,t3,t4,t1,t5,t6,t8,t9,ta,t7,te,tb,tc,td],h⟩ =
 bm (ab s.P 30 r h) h fun vU hP=>
 stO h.length u (
 bm (ab s.P 34 u hP) hP fun vp hm=>
 stO h.length z (
 bm (ab s.P 3 z hm) hm fun vq hs=>
 bs (aj s.P wl 30 j vU hs) fun hV=>
 apt (lgW j (lgR z (lgR u ([],[])))) (
 ew [ab s.P 30 j hV,some vp,some vq] hV))):=kR
theorem LU:au (xX s 36 wl k false) (ap s.P Tryz.f36) ED (.exit 0) ⟨[d,f,g,o,j,v,y,r,u,z,D,A,B,M,N,O,I,Q,L,E,J,G,F,R,W,X,T,U,Y,t0,Z,t2,t3,t4,t1,t5,t6,t8,t9,ta,t7,te,tb,tc,td],h⟩ =
 bm (ab s.P 30 r h) h fun vb hW=>
 stO h.length u (
 bm (ab s.P 34 u hW) hW fun vc ha=>
 stO h.length z (
 bm (ab s.P 3 z ha) ha fun vd hb=>
 bs (aj s.P wl 30 j vb hb) fun hn=>
 apt (lgW j (lgR z (lgR u ([],[])))) (
 ew [ab s.P 30 j hn,some vc,some vd] hn))):=kR
theorem fJ:au (xX s 36 wl k rd) K [.seq Lc] .norm ⟨[d,f,g,o,j,v,y,r,u,z,D,A,B,M,N,O,I,Q,L,E,J,G,F,R,W,X,T,U,Y,t0,Z,t2,t3,t4,t1,t5,t6,t8,t9,ta,t7,te,tb,tc,td],h⟩ =
 bm (ab s.P 30 r h) h fun ve hg=>
 bp (bE (xX s 36 wl k rd) false true (.fn (.func 29) [] []) [ve] hg) fun vR hX=>
 cnd vR (
 K (.exit 0) ⟨[d,f,g,o,j,v,y,r,u,z,D,A,B,M,N,O,I,Q,L,E,J,G,F,R,W,X,T,U,ve,vR,Z,t2,t3,t4,t1,t5,t6,t8,t9,ta,t7,te,tb,tc,td],hX⟩) (
 bm (ab s.P 30 r hX) hX fun vj ht=>
 bp (bE (xX s 36 wl k rd) false true (.fn (.func 17) [] []) [vj,A] ht) fun vV hu=>
 bm (aq vV 0) hu fun vk hv=>
 bm (aq vV 1) hv fun vW hw=>
 bp (av s.P 30 hw) fun vS hx=>
 bs (aj s.P wl 30 vS vk hx) fun hi=>
 stO hi.length vS (
 bm (ab s.P 30 vS hi) hi fun vl ho=>
 bm (ab s.P 34 u ho) ho fun vf hy=>
 bp (kQ s.P wl 34 34 vf vW hy) fun vm h73=>
 bm (aw s.P .add 3 D (.lit (.int .i64 1))) h73 fun vn h75=>
 bs (aj s.P wl 30 r vl h75) fun h76=>
 bs (aj s.P wl 34 u vm h76) fun h77=>
 bs (aj s.P wl 3 z vn h77) fun h78=>
 apt (lgW z (lgW u (lgW r (lgW vf (lgR vS ([],[])))))) (
 K .norm ⟨[d,f,g,o,j,v,y,r,u,z,D,A,vS,vW,N,O,I,Q,L,E,J,G,F,R,W,X,T,U,ve,vR,vV,vj,A,vV,vk,vW,vl,vf,vW,vm,D,vn,tb,tc,td],h78⟩))):=kR
theorem fE:au (xX s 36 wl k rd) K [.seq LL] .norm ⟨[d,f,g,o,j,v,y,r,u,z,D,A,B,M,N,O,I,Q,L,E,J,G,F,R,W,X,T,U,Y,t0,Z,t2,t3,t4,t1,t5,t6,t8,t9,ta,t7,te,tb,tc,td],h⟩ =
 K .norm ⟨[d,f,g,o,j,v,y,r,u,z,T,U,B,M,N,O,I,Q,L,E,J,G,F,R,W,X,T,U,Y,t0,Z,t2,t3,t4,t1,t5,t6,t8,t9,ta,t7,te,tb,tc,td],h⟩:=kR
theorem rx (cx:Cx) (s:St):au cx K ED .ret s=K .ret s:=by kernel_rfl
-- names: xFP,ae7,ahe,Lu,LU,fJ,fE,rx
-- range over a function at [1,1,1,1,0,1,0]
noncomputable def ot:Code:=al (am Tryz.f37) [1,0,1,1,0,1,0,0]
noncomputable def Ia:List Fr:=[.block 0,.seq (al (am Tryz.f37) [1,0,1,1,1]),.scope (al (am Tryz.f37) [1,0])]
noncomputable def HP:Code:=al (am Tryz.f37) [1,0,1,1,0,1,0,0,1,1,0,0,1,0,0]
noncomputable def Ey:List Fr:=[.seq (al (am Tryz.f37) [1,0,1,1,0,1,0,0,1,1,0,0,1,0,1]),.seq (al (am Tryz.f37) [1,0,1,1,0,1,0,0,1,1,0,0,1,1]),.block 1,.seq (al (am Tryz.f37) [1,0,1,1,0,1,0,0,1,1,1])]
theorem af2:ak (xX s 37 wl k false) Tryz.f37 [d,f] h =
 bp (av s.P 121 h) fun v1 h2=>
 bp (a7 s.P 34 f h2) fun v3 h4=>
 itX (xX s 37 wl k false) ot h4.length (au (xX s 37 wl k false) (ap s.P Tryz.f37) Ia) k ⟨[(V.kill h4.length d),(V.kill h4.length f),(V.kill h4.length uu),(V.kill h4.length uu),(.lit (.int .i64 0)),(.lit (.int .i64 0)),(.lit (.int .i64 0)),(V.kill h4.length v1),(V.kill h4.length uu),(V.kill h4.length uu),(V.kill h4.length f),(V.kill h4.length v3),(.lit (.int .i64 0)),.junk,.junk,.junk,.junk,.junk,.junk,.junk,.junk,.junk,.junk,.junk,.junk,.junk,.junk,.junk,.junk,.junk,.junk,(V.kill h4.length uu),(V.kill h4.length uu),(V.kill h4.length uu),(V.kill h4.length uu),(V.kill h4.length uu),(V.kill h4.length uu)],bN h4.length h4⟩:=kB
theorem aju:evF Tryz.prog xM (k+1) wl 37 [d,f] h=ak (xX (xS k) 37 wl k false) Tryz.f37 [d,f] h:=by kernel_rfl
theorem ahW (P:Program):ap P Tryz.f37 .ret ⟨[d,f,g,o,j,v,y,r,u,z,D,A,B,M,N,O,I,Q,L,E,J,G,F,R,W,X,T,U,Y,t0,Z,t2,t3,t4,t1,t5,t6],h⟩=some (.tup [j,v,y],h):=by kernel_rfl
theorem T9:itX (xX s 37 wl k rd) ot n0 K (n+1) ⟨[d,f,g,o,j,v,y,r,u,z,D,A,B,M,N,O,I,Q,L,E,J,G,F,R,W,X,T,U,Y,t0,Z,t2,t3,t4,t1,t5,t6],h⟩ =
 bm (aw s.P .lss 3 B A) h fun v5 h6=>
 cnd v5 (
 bm (ai s.P 34 D B h6) h6 fun v7 h8=>
 bm (ab s.P 52 v7 h8) h8 fun v9 hC=>
 bp (av s.P 52 hC) fun vB hB=>
 bs (aj s.P wl 52 vB v9 hB) fun hc=>
 bm (aa s.P 52 vB 0) hc fun vX hp=>
 bm (ab s.P 3 vX hp) hp fun vY hU=>
 bm (aw s.P .lss 3 vY (.lit (.int .i64 0))) hU fun vJ hI=>
 gd vJ (
 cK (xX s 37 wl k rd) HP 7 hc.length ([],[]) (au (xX s 37 wl k rd) (eq (xX s 37 wl k rd) ot n0 K n) Ey) ⟨[d,f,g,o,j,v,y,r,u,vB,D,A,B,v5,v7,v9,vX,vY,vJ,(.lit (.bool true)),uu,uu,uu,R,W,X,T,U,Y,t0,Z,t2,t3,t4,t1,t5,t6],hI⟩) (
 bm (aa s.P 52 vB 0) hI fun vN hT=>
 bm (ab s.P 3 vN hT) hT fun vZ hj=>
 bm (aw s.P .geq 3 vZ (.lit (.int .i64 6))) hj fun vg hk=>
 cK (xX s 37 wl k rd) HP 7 hc.length ([],[]) (au (xX s 37 wl k rd) (eq (xX s 37 wl k rd) ot n0 K n) Ey) ⟨[d,f,g,o,j,v,y,r,u,vB,D,A,B,v5,v7,v9,vX,vY,vJ,(.lit (.bool false)),vN,vZ,vg,R,W,X,T,U,Y,t0,Z,t2,t3,t4,t1,t5,t6],hk⟩) (
 cK (xX s 37 wl k rd) HP 5 hc.length ([],[]) (au (xX s 37 wl k rd) (eq (xX s 37 wl k rd) ot n0 K n) Ey) ⟨[d,f,g,o,j,v,y,r,u,vB,D,A,B,v5,v7,v9,vX,vY,vJ,vJ,uu,G,F,R,W,X,T,U,Y,t0,Z,t2,t3,t4,t1,t5,t6],hI⟩)) (
 K (.exit 0) ⟨[(V.kill n0 d),(V.kill n0 f),(V.kill n0 g),(V.kill n0 o),(V.kill n0 j),(V.kill n0 v),(V.kill n0 y),(V.kill n0 r),(V.kill n0 u),(V.kill n0 z),(V.kill n0 D),(V.kill n0 A),.junk,.junk,.junk,.junk,.junk,.junk,.junk,.junk,.junk,.junk,.junk,.junk,.junk,.junk,.junk,.junk,.junk,.junk,.junk,(V.kill n0 t2),(V.kill n0 t3),(V.kill n0 t4),(V.kill n0 t1),(V.kill n0 t5),(V.kill n0 t6)],bN n0 h6⟩):=kI
theorem Lf:au (xX s 37 wl k false) (ap s.P Tryz.f37) Ia (.exit 0) ⟨[d,f,g,o,j,v,y,r,u,z,D,A,B,M,N,O,I,Q,L,E,J,G,F,R,W,X,T,U,Y,t0,Z,t2,t3,t4,t1,t5,t6],h⟩ =
 bm (ai s.P 121 r (.lit (.int .i64 0)) h) h fun vh hd=>
 bm (ab s.P 3 vh hd) hd fun vi hQ=>
 bm (ai s.P 121 r (.lit (.int .i64 1)) hQ) hQ fun vQ hR=>
 bm (ab s.P 3 vQ hR) hR fun vP hS=>
 bm (ai s.P 121 r (.lit (.int .i64 4)) hS) hS fun vr hq=>
 bm (ab s.P 3 vr hq) hq fun vs hY=>
 some (.tup [vi,vP,vs],hY):=kR
theorem Mu:cK (xX s 37 wl k rd) HP 7 m0 ac (au (xX s 37 wl k rd) (eq (xX s 37 wl k rd) ot n0 K n) Ey) ⟨[d,f,g,o,j,v,y,r,u,z,D,A,B,M,N,O,I,Q,L,E,J,G,F,R,W,X,T,U,Y,t0,Z,t2,t3,t4,t1,t5,t6],h⟩ =
 bm (aR E (.lit (.bool true)) F) h fun va hZ=>
 cnd va (
 bm (aw s.P .add 3 B (.lit (.int .i64 1))) hZ fun vt hl=>
 itX (xX s 37 wl k rd) ot n0 K n ⟨[(V.kill n0 d),(V.kill n0 f),(V.kill n0 g),(V.kill n0 o),(V.kill n0 j),(V.kill n0 v),(V.kill n0 y),(V.kill n0 r),(V.kill n0 u),(V.kill n0 z),(V.kill n0 D),(V.kill n0 A),(V.kill n0 vt),.junk,.junk,.junk,.junk,.junk,.junk,.junk,.junk,.junk,.junk,.junk,.junk,.junk,.junk,.junk,.junk,.junk,.junk,(V.kill n0 t2),(V.kill n0 t3),(V.kill n0 t4),(V.kill n0 t1),(V.kill n0 t5),(V.kill n0 t6)],bN n0 hl⟩) (
 bm (aa s.P 52 z 0) hZ fun vu hr=>
 bm (ab s.P 3 vu hr) hr fun vo hV=>
 bm (ai s.P 121 r vo hV) hV fun vb hW=>
 bm (ab s.P 3 vb hW) hW fun vc ha=>
 bm (aw s.P .add 3 vc (.lit (.int .i64 1))) ha fun vd hb=>
 bm (ai s.P 121 r vo hb) hb fun vv h53=>
 bs (aj s.P wl 3 vv vd h53) fun hg=>
 bm (aw s.P .add 3 B (.lit (.int .i64 1))) hg fun vR hX=>
 itX (xX s 37 wl k rd) ot n0 K n ⟨[(V.kill n0 d),(V.kill n0 f),(V.kill n0 g),(V.kill n0 o),(V.kill n0 j),(V.kill n0 v),(V.kill n0 y),(V.kill n0 r),(V.kill n0 u),(V.kill n0 z),(V.kill n0 D),(V.kill n0 A),(V.kill n0 vR),.junk,.junk,.junk,.junk,.junk,.junk,.junk,.junk,.junk,.junk,.junk,.junk,.junk,.junk,.junk,.junk,.junk,.junk,(V.kill n0 t2),(V.kill n0 t3),(V.kill n0 t4),(V.kill n0 t1),(V.kill n0 t5),(V.kill n0 t6)],bN n0 hX⟩):=kG
theorem rk (cx:Cx) (s:St):au cx K Ia .ret s=K .ret s:=by kernel_rfl
theorem rj (cx:Cx) (s:St):au cx K Ey .ret s=K .ret s:=by kernel_rfl
-- names: xFP,af2,ahW,T9,Lf,Mu,rk,rj
noncomputable def IJ:Code:=al (am Tryz.f39) [1,1,0,1,0,0]
noncomputable def I9:List Fr:=[.block 0,.seq (al (am Tryz.f39) [1,1,1])]
theorem agI:ak (xX s 39 wl k false) Tryz.f39 [d] h =
 bp (aP d h) fun v1 h2=>
 bm (aa s.P 30 v1 4) h2 fun v3 h4=>
 bm (ab s.P 28 v3 h4) h4 fun v5 h6=>
 bp (a7 s.P 28 v5 h6) fun v7 h8=>
 itX (xX s 39 wl k false) IJ h8.length (au (xX s 39 wl k false) (ap s.P Tryz.f39) I9) k ⟨[(V.kill h8.length d),(V.kill h8.length v1),(.lit (.int .i64 0)),(.lit (.int .i64 0)),(V.kill h8.length uu),(V.kill h8.length uu),(V.kill h8.length v3),(V.kill h8.length v5),(V.kill h8.length v7),(.lit (.int .i64 0)),.junk,.junk,.junk,.junk,.junk,.junk,.junk,.junk,.junk,(V.kill h8.length uu),(V.kill h8.length uu),(V.kill h8.length uu),(V.kill h8.length uu)],bN h8.length h8⟩:=kB
theorem ai8:evF Tryz.prog xM (k+1) wl 39 [d] h=ak (xX (xS k) 39 wl k false) Tryz.f39 [d] h:=by kernel_rfl
theorem agN (P:Program):ap P Tryz.f39 .ret ⟨[d,f,g,o,j,v,y,r,u,z,D,A,B,M,N,O,I,Q,L,E,J,G,F],h⟩=some (g,h):=by kernel_rfl
theorem Ti:itX (xX s 39 wl k rd) IJ n0 K (n+1) ⟨[d,f,g,o,j,v,y,r,u,z,D,A,B,M,N,O,I,Q,L,E,J,G,F],h⟩ =
 bm (aw s.P .lss 3 z u) h fun v9 hC=>
 cnd v9 (
 bm (ai s.P 28 r z hC) hC fun vB hB=>
 bm (ab s.P 57 vB hB) hB fun vC hD=>
 bp (av s.P 57 hD) fun vA hA=>
 bs (aj s.P wl 57 vA vC hA) fun hU=>
 bm (aa s.P 57 vA 1) hU fun vJ hI=>
 bm (ab s.P 53 vJ hI) hI fun vN hT=>
 bp (a7 s.P 53 vN hT) fun vZ hj=>
 bm (aw s.P .add 3 o vZ) hj fun vg hk=>
 bm (aw s.P .add 3 z (.lit (.int .i64 1))) hk fun vh hd=>
 itX (xX s 39 wl k rd) IJ n0 K n ⟨[(V.kill n0 d),(V.kill n0 f),(V.kill n0 g),(V.kill n0 vg),(V.kill n0 j),(V.kill n0 vA),(V.kill n0 y),(V.kill n0 r),(V.kill n0 u),(V.kill n0 vh),.junk,.junk,.junk,.junk,.junk,.junk,.junk,.junk,.junk,(V.kill n0 E),(V.kill n0 J),(V.kill n0 G),(V.kill n0 F)],bN n0 hd⟩) (
 K (.exit 0) ⟨[(V.kill n0 d),(V.kill n0 f),(V.kill n0 g),(V.kill n0 o),(V.kill n0 j),(V.kill n0 v),(V.kill n0 y),(V.kill n0 r),(V.kill n0 u),.junk,.junk,.junk,.junk,.junk,.junk,.junk,.junk,.junk,.junk,(V.kill n0 E),(V.kill n0 J),(V.kill n0 G),(V.kill n0 F)],bN n0 hC⟩):=kI
theorem Lh:au (xX s 39 wl k false) (ap s.P Tryz.f39) I9 (.exit 0) ⟨[d,f,g,o,j,v,y,r,u,z,D,A,B,M,N,O,I,Q,L,E,J,G,F],h⟩ =
 bm (ab s.P 30 f h) h fun vi hQ=>
 bp (bE (xX s 39 wl k false) false true (.fn (.func 20) [] []) [vi] hQ) fun vQ hR=>
 bm (vUn .not vQ) hR fun vP hS=>
 cnd vP (
 some ((.lit (.int .i64 0)),hS)) (
 some (o,hS)):=kR
theorem pE (cx:Cx) (s:St):au cx K I9 .ret s=K .ret s:=by kernel_rfl
-- names: xFP,agI,agN,Ti,Lh,pE
noncomputable def Tw:Code:=al (am Tryz.f73) [1,1,0,1,0]
noncomputable def LB:Code:=al (am Tryz.f73) [1,1,0,1,0,0]
noncomputable def Ne:Code:=al (am Tryz.f73) [1,1,0,1,0,1]
noncomputable def H7:List Fr:=[.block 0,.seq (al (am Tryz.f73) [1,1,1])]
theorem En:Tw= .rangeFunc (.tmp 6) #[7] LB Ne:=by kernel_rfl
theorem aeY:ak (xX s 73 wl k false) Tryz.f73 [d] h =
 bp (some (.own h.length 0 0,h++[.rows 0 [] 0 true])) fun v1 h2=>
 bp (av s.P 31 h2) fun v3 h4=>
 bp (bE (xX s 73 wl k false) false true (.fn (.func 111) [] []) [d,(.lit (.int .i64 3))] h4) fun v5 h6=>
 bk (xX s 73 wl k false) Tw none (au (xX s 73 wl k false) (ap s.P Tryz.f73) H7) ⟨[d,uu,v1,v3,uu,d,v5,uu,uu,uu,uu,uu,uu,uu,uu,uu,uu,uu,uu,uu,uu,uu,uu,uu,uu,uu,uu,uu,uu],h6⟩:=kB
theorem ajM:evF Tryz.prog xM (k+1) wl 73 [d] h=ak (xX (xS k) 73 wl k false) Tryz.f73 [d] h:=by kernel_rfl
theorem agd (P:Program):ap P Tryz.f73 .ret ⟨[d,f,g,o,j,v,y,r,u,z,D,A,B,M,N,O,I,Q,L,E,J,G,F,R,W,X,T,U,Y],h⟩=some (g,h):=by kernel_rfl
theorem K4:au (xX s 73 wl k false) (ap s.P Tryz.f73) H7 .norm ⟨[d,f,g,o,j,v,y,r,u,z,D,A,B,M,N,O,I,Q,L,E,J,G,F,R,W,X,T,U,Y],h⟩ =
 bm (ab s.P 31 o h) h fun v7 h8=>
 some (v7,h8):=kR
theorem iz:au (xX s 73 wl k rd) K [.seq Ne] .norm ⟨[d,f,g,o,j,v,y,r,u,z,D,A,B,M,N,O,I,Q,L,E,J,G,F,R,W,X,T,U,Y],h⟩ =
 bp (a7 s.P 67 j h) fun v9 hC=>
 bm (aw s.P .eql 3 v9 (.lit (.int .i64 3))) hC fun vB hB=>
 cnd vB (
 stO hB.length o (
 bm (ab s.P 31 o hB) hB fun vC hD=>
 bm (ai s.P 67 j (.lit (.int .i64 0)) hD) hD fun vA hA=>
 bm (ab s.P 5 vA hA) hA fun vG hJ=>
 bm (aw s.P .rem 5 vG (.lit (.int .u8 4))) hJ fun vI hK=>
 bm (fY s.P 5 3 vI) hK fun vH hG=>
 bm (ai s.P 67 j (.lit (.int .i64 1)) hG) hG fun vE hH=>
 bm (ab s.P 5 vE hH) hH fun vD hE=>
 bm (fY s.P 5 3 vD) hE fun vF hF=>
 bm (ai s.P 67 j (.lit (.int .i64 2)) hF) hF fun vM hL=>
 bm (ab s.P 5 vM hL) hL fun vK hN=>
 bm (fY s.P 5 46 vK) hN fun vO hM=>
 bm (bf s.P 48 [(0,vH),(1,vF),(2,vO)]) hM fun vL hO=>
 bp (cX s.P wl 31 1 [(0,vL)] hO) fun vT hf=>
 bp (kQ s.P wl 31 31 vC vT hf) fun vU hP=>
 bs (aj s.P wl 31 o vU hP) fun hl=>
 K .norm ⟨[d,f,g,o,j,v,y,r,j,v9,vB,vC,j,vA,vG,vI,vH,j,vE,vD,vF,j,vM,vK,vO,vL,vT,vU,Y],hl⟩)) (
 K .norm ⟨[d,f,g,o,j,v,y,r,j,v9,vB,A,B,M,N,O,I,Q,L,E,J,G,F,R,W,X,T,U,Y],hB⟩):=kR
theorem iD:au (xX s 73 wl k rd) K [.seq LB] .norm ⟨[d,f,g,o,j,v,y,r,u,z,D,A,B,M,N,O,I,Q,L,E,J,G,F,R,W,X,T,U,Y],h⟩ =
 K .norm ⟨[d,f,g,o,r,v,y,r,u,z,D,A,B,M,N,O,I,Q,L,E,J,G,F,R,W,X,T,U,Y],h⟩:=kR
theorem pA (cx:Cx) (s:St):au cx K H7 .ret s=K .ret s:=by kernel_rfl
-- names: xFP,aeY,agd,K4,iz,iD,pA
-- range over a function at [1,1,0,1,0]
theorem agy:ak (xX s 74 wl k false) Tryz.f74 [d,f] h =
 bp (aP d h) fun v1 h2=>
 bp (aP f h2) fun v3 h4=>
 some ((.fn (.func 112) [] [v3,v1]),h4):=kB
theorem ajw:evF Tryz.prog xM (k+1) wl 74 [d,f] h=ak (xX (xS k) 74 wl k false) Tryz.f74 [d,f] h:=by kernel_rfl
-- names: xFP,agy,
noncomputable def FC:List Fr:=[.seq (al (am Tryz.f111) [1,1])]
theorem UN:ak (xX s 111 wl k false) Tryz.f111 [d,f] h =
 bp (aP d h) fun v1 h2=>
 bp (aP f h2) fun v3 h4=>
 bm (ab s.P 3 v3 h4) h4 fun v5 h6=>
 bm (aw s.P .lss 3 v5 (.lit (.int .i64 1))) h6 fun v7 h8=>
 cnd v7 (
 none) (
 au (xX s 111 wl k false) (ap s.P Tryz.f111) FC .norm ⟨[d,f,v1,v3,(kL Value.nilFunc),v5,v7,uu,uu],h8⟩):=kB
theorem aat:evF Tryz.prog xM (k+1) wl 111 [d,f] h=ak (xX (xS k) 111 wl k false) Tryz.f111 [d,f] h:=by kernel_rfl
theorem Hi:au (xX s 111 wl k false) (ap s.P Tryz.f111) FC .norm ⟨[d,f,g,o,j,v,y,r,u],h⟩ =
 some ((.fn (.func 152) [] [g,o]),h):=kR
theorem nO (cx:Cx) (s:St):au cx K FC .ret s=K .ret s:=by kernel_rfl
-- names: xFP,UN,Hi,nO
noncomputable def BQ:Code:=al (am Tryz.f112) [1,0,0]
noncomputable def CU:List Fr:=[.block 0]
theorem Y8:ak (xX s 112 wl k false) Tryz.f112 [d,f,g] h =
 itX (xX s 112 wl k false) BQ h.length (au (xX s 112 wl k false) (ap s.P Tryz.f112) CU) k ⟨[(V.kill h.length d),(V.kill h.length f),(V.kill h.length g),(V.kill h.length uu),(.lit (.int .i64 0)),.junk,.junk,.junk,.junk,.junk,.junk,.junk,.junk,.junk,.junk,.junk,.junk,.junk,.junk,.junk,.junk,.junk,.junk,.junk],bN h.length h⟩:=kB
theorem abT:evF Tryz.prog xM (k+1) wl 112 [d,f,g] h=ak (xX (xS k) 112 wl k false) Tryz.f112 [d,f,g] h:=by kernel_rfl
theorem Xb (P:Program):ap P Tryz.f112 .ret ⟨[d,f,g,o,j,v,y,r,u,z,D,A,B,M,N,O,I,Q,L,E,J,G,F,R],h⟩=some (.tup [],h):=by kernel_rfl
theorem MG:itX (xX s 112 wl k rd) BQ n0 K (n+1) ⟨[d,f,g,o,j,v,y,r,u,z,D,A,B,M,N,O,I,Q,L,E,J,G,F,R],h⟩ =
 bm (ab s.P 3 f h) h fun v1 h2=>
 bm (gS false [v1,(.lit (.int .i64 5000))]) h2 fun v3 h4=>
 bm (aw s.P .lss 3 j v3) h4 fun v5 h6=>
 cnd v5 (
 bm (aa s.P 30 g 0) h6 fun v7 h8=>
 bm (aa s.P 23 v7 0) h8 fun v9 hC=>
 bm (ab s.P 3 v9 hC) hC fun vB hB=>
 bm (aa s.P 30 g 4) hB fun vC hD=>
 bm (ab s.P 28 vC hD) hD fun vA hA=>
 bp (a7 s.P 28 vA hA) fun vG hJ=>
 bm (fY s.P 3 46 j) hJ fun vI hK=>
 bp (bE (xX s 112 wl k rd) false true (.fn (.func 113) [] []) [vB,vG,vI] hK) fun vH hG=>
 bp (bE (xX s 112 wl k rd) false true d [j,vH] hG) fun vE hH=>
 bm (vUn .not vE) hH fun vD hE=>
 cnd vD (
 K .ret ⟨[d,f,g,o,j,j,v1,v3,v5,z,D,d,j,v7,v9,vB,vC,vA,vG,j,vI,vH,vE,vD],hE⟩) (
 bm (aw s.P .add 3 j (.lit (.int .i64 1))) hE fun vF hF=>
 itX (xX s 112 wl k rd) BQ n0 K n ⟨[(V.kill n0 d),(V.kill n0 f),(V.kill n0 g),(V.kill n0 o),(V.kill n0 vF),.junk,.junk,.junk,.junk,.junk,.junk,.junk,.junk,.junk,.junk,.junk,.junk,.junk,.junk,.junk,.junk,.junk,.junk,.junk],bN n0 hF⟩)) (
 K (.exit 0) ⟨[(V.kill n0 d),(V.kill n0 f),(V.kill n0 g),(V.kill n0 o),(V.kill n0 j),.junk,.junk,.junk,.junk,.junk,.junk,.junk,.junk,.junk,.junk,.junk,.junk,.junk,.junk,.junk,.junk,.junk,.junk,.junk],bN n0 h6⟩):=kI
theorem Hg:au (xX s 112 wl k false) (ap s.P Tryz.f112) CU (.exit 0) ⟨[d,f,g,o,j,v,y,r,u,z,D,A,B,M,N,O,I,Q,L,E,J,G,F,R],h⟩ =
 some (.tup [],h):=kR
theorem oc (cx:Cx) (s:St):au cx K CU .ret s=K .ret s:=by kernel_rfl
-- names: xFP,Y8,Xb,MG,Hg,oc
noncomputable def CH:Code:=al (am Tryz.f113) [1,0,0]
noncomputable def wV:List Fr:=[.seq (al (am Tryz.f113) [1,0,1]),.seq (al (am Tryz.f113) [1,1])]
noncomputable def BM:Code:=al (am Tryz.f113) [1,1,1,0,1,0,0]
noncomputable def CE:List Fr:=[.block 0,.seq (al (am Tryz.f113) [1,1,1,1])]
noncomputable def Co:Code:=al (am Tryz.f113) [1,1,1,1,0,1,0,0]
noncomputable def CI:List Fr:=[.block 2,.seq (al (am Tryz.f113) [1,1,1,1,1])]
theorem Pr:ak (xX s 113 wl k false) Tryz.f113 [d,f,g] h =
 bp (some (.own h.length 0 0,h++[.rows 0 [] 0 true])) fun v1 h2=>
 bp (bE (xX s 113 wl k false) false true (.fn (.func 81) [] []) [d,(.lit (.int .i64 21))] h2) fun v3 h4=>
 bm (vUn .not v3) h4 fun v5 h6=>
 gd v5 (
 cK (xX s 113 wl k false) CH 7 h2.length ([],[]) (au (xX s 113 wl k false) (ap s.P Tryz.f113) wV) ⟨[d,f,g,uu,uu,uu,v1,uu,uu,uu,d,v3,v5,(.lit (.bool true)),uu,uu,uu,uu,uu,uu,uu,uu,uu,uu,uu,uu,uu,uu,uu,uu,uu,uu,uu,uu,uu,uu,uu,uu,uu,uu,uu],h6⟩) (
 bp (bE (xX s 113 wl k false) false true (.fn (.func 81) [] []) [f,(.lit (.int .i64 21))] h6) fun v7 h8=>
 bm (vUn .not v7) h8 fun v9 hC=>
 cK (xX s 113 wl k false) CH 7 h2.length ([],[]) (au (xX s 113 wl k false) (ap s.P Tryz.f113) wV) ⟨[d,f,g,uu,uu,uu,v1,uu,uu,uu,d,v3,v5,(.lit (.bool false)),f,v7,v9,uu,uu,uu,uu,uu,uu,uu,uu,uu,uu,uu,uu,uu,uu,uu,uu,uu,uu,uu,uu,uu,uu,uu,uu],hC⟩) (
 cK (xX s 113 wl k false) CH 5 h2.length ([],[]) (au (xX s 113 wl k false) (ap s.P Tryz.f113) wV) ⟨[d,f,g,uu,uu,uu,v1,uu,uu,uu,d,v3,v5,v5,uu,uu,uu,uu,uu,uu,uu,uu,uu,uu,uu,uu,uu,uu,uu,uu,uu,uu,uu,uu,uu,uu,uu,uu,uu,uu,uu],h6⟩):=kB
theorem Vp:evF Tryz.prog xM (k+1) wl 113 [d,f,g] h=ak (xX (xS k) 113 wl k false) Tryz.f113 [d,f,g] h:=by kernel_rfl
theorem RB (P:Program):ap P Tryz.f113 .ret ⟨[d,f,g,o,j,v,y,r,u,z,D,A,B,M,N,O,I,Q,L,E,J,G,F,R,W,X,T,U,Y,t0,Z,t2,t3,t4,t1,t5,t6,t8,t9,ta,t7],h⟩=some (y,h):=by kernel_rfl
theorem CK:cK (xX s 113 wl k false) CH 7 m0 ac (au (xX s 113 wl k false) (ap s.P Tryz.f113) wV) ⟨[d,f,g,o,j,v,y,r,u,z,D,A,B,M,N,O,I,Q,L,E,J,G,F,R,W,X,T,U,Y,t0,Z,t2,t3,t4,t1,t5,t6,t8,t9,ta,t7],h⟩ =
 bm (aR M (.lit (.bool true)) I) h fun vB hB=>
 cnd vB (
 bp (some (.own hB.length 0 0,hB++[.rows 0 [] 0 true])) fun vC hD=>
 some (vC,hD)) (
 bp (some (.own hB.length 0 0,hB++[.rows 0 [] 0 true])) fun vA hA=>
 itX (xX s 113 wl k false) BM hA.length (au (xX s 113 wl k false) (ap s.P Tryz.f113) CE) k ⟨[(V.kill hA.length d),(V.kill hA.length f),(V.kill hA.length g),(V.kill hA.length o),(V.kill hA.length j),(V.kill hA.length v),(V.kill hA.length y),(V.kill hA.length vA),(V.kill hA.length u),(V.kill hA.length z),(V.kill hA.length D),(V.kill hA.length A),(V.kill hA.length B),(V.kill hA.length M),(V.kill hA.length N),(V.kill hA.length O),(V.kill hA.length I),(V.kill hA.length vB),(V.kill hA.length d),(.lit (.int .i64 0)),.junk,.junk,.junk,.junk,.junk,.junk,.junk,.junk,.junk,(V.kill hA.length t0),(V.kill hA.length Z),(V.kill hA.length t2),(V.kill hA.length t3),(V.kill hA.length t4),(V.kill hA.length t1),(V.kill hA.length t5),(V.kill hA.length t6),(V.kill hA.length t8),(V.kill hA.length t9),(V.kill hA.length ta),(V.kill hA.length t7)],bN hA.length hA⟩):=kG
theorem LD:itX (xX s 113 wl k rd) BM n0 K (n+1) ⟨[d,f,g,o,j,v,y,r,u,z,D,A,B,M,N,O,I,Q,L,E,J,G,F,R,W,X,T,U,Y,t0,Z,t2,t3,t4,t1,t5,t6,t8,t9,ta,t7],h⟩ =
 bm (aw s.P .lss 3 E L) h fun vG hJ=>
 cnd vG (
 bm (bf s.P 48 [(0,(.lit (.int .i64 0))),(1,E),(2,g)]) hJ fun vI hK=>
 bp (aB s.P wl 31 1 [(0,vI)] hK) fun vH hG=>
 bp (kQ s.P wl 31 31 r vH hG) fun vE hH=>
 bm (aw s.P .add 3 E (.lit (.int .i64 1))) hH fun vD hE=>
 itX (xX s 113 wl k rd) BM n0 K n ⟨[(V.kill n0 d),(V.kill n0 f),(V.kill n0 g),(V.kill n0 o),(V.kill n0 j),(V.kill n0 v),(V.kill n0 y),(V.kill n0 vE),(V.kill n0 E),(V.kill n0 z),(V.kill n0 D),(V.kill n0 A),(V.kill n0 B),(V.kill n0 M),(V.kill n0 N),(V.kill n0 O),(V.kill n0 I),(V.kill n0 Q),(V.kill n0 L),(V.kill n0 vD),.junk,.junk,.junk,.junk,.junk,.junk,.junk,.junk,.junk,(V.kill n0 t0),(V.kill n0 Z),(V.kill n0 t2),(V.kill n0 t3),(V.kill n0 t4),(V.kill n0 t1),(V.kill n0 t5),(V.kill n0 t6),(V.kill n0 t8),(V.kill n0 t9),(V.kill n0 ta),(V.kill n0 t7)],bN n0 hE⟩) (
 K (.exit 0) ⟨[(V.kill n0 d),(V.kill n0 f),(V.kill n0 g),(V.kill n0 o),(V.kill n0 j),(V.kill n0 v),(V.kill n0 y),(V.kill n0 r),(V.kill n0 u),(V.kill n0 z),(V.kill n0 D),(V.kill n0 A),(V.kill n0 B),(V.kill n0 M),(V.kill n0 N),(V.kill n0 O),(V.kill n0 I),(V.kill n0 Q),(V.kill n0 L),.junk,.junk,.junk,.junk,.junk,.junk,.junk,.junk,.junk,.junk,(V.kill n0 t0),(V.kill n0 Z),(V.kill n0 t2),(V.kill n0 t3),(V.kill n0 t4),(V.kill n0 t1),(V.kill n0 t5),(V.kill n0 t6),(V.kill n0 t8),(V.kill n0 t9),(V.kill n0 ta),(V.kill n0 t7)],bN n0 hJ⟩):=kI
theorem CY:au (xX s 113 wl k false) (ap s.P Tryz.f113) CE (.exit 0) ⟨[d,f,g,o,j,v,y,r,u,z,D,A,B,M,N,O,I,Q,L,E,J,G,F,R,W,X,T,U,Y,t0,Z,t2,t3,t4,t1,t5,t6,t8,t9,ta,t7],h⟩ =
 itX (xX s 113 wl k false) Co h.length (au (xX s 113 wl k false) (ap s.P Tryz.f113) CI) k ⟨[(V.kill h.length d),(V.kill h.length f),(V.kill h.length g),(V.kill h.length o),(V.kill h.length j),(V.kill h.length v),(V.kill h.length y),(V.kill h.length r),(V.kill h.length u),(V.kill h.length z),(V.kill h.length D),(V.kill h.length A),(V.kill h.length B),(V.kill h.length M),(V.kill h.length N),(V.kill h.length O),(V.kill h.length I),(V.kill h.length Q),(V.kill h.length L),(V.kill h.length E),(V.kill h.length J),(V.kill h.length G),(V.kill h.length F),(V.kill h.length R),(V.kill h.length W),(V.kill h.length X),(V.kill h.length T),(V.kill h.length U),(V.kill h.length Y),(V.kill h.length f),(.lit (.int .i64 0)),.junk,.junk,.junk,.junk,.junk,.junk,.junk,.junk,.junk,(V.kill h.length t7)],bN h.length h⟩:=kR
theorem LP:itX (xX s 113 wl k rd) Co n0 K (n+1) ⟨[d,f,g,o,j,v,y,r,u,z,D,A,B,M,N,O,I,Q,L,E,J,G,F,R,W,X,T,U,Y,t0,Z,t2,t3,t4,t1,t5,t6,t8,t9,ta,t7],h⟩ =
 bm (aw s.P .lss 3 Z t0) h fun vF hF=>
 cnd vF (
 bm (bf s.P 48 [(0,(.lit (.int .i64 1))),(1,Z),(2,g)]) hF fun vM hL=>
 bp (aB s.P wl 31 1 [(0,vM)] hL) fun vK hN=>
 bp (kQ s.P wl 31 31 r vK hN) fun vO hM=>
 bm (aw s.P .add 3 Z (.lit (.int .i64 1))) hM fun vL hO=>
 itX (xX s 113 wl k rd) Co n0 K n ⟨[(V.kill n0 d),(V.kill n0 f),(V.kill n0 g),(V.kill n0 o),(V.kill n0 j),(V.kill n0 v),(V.kill n0 y),(V.kill n0 vO),(V.kill n0 u),(V.kill n0 Z),(V.kill n0 D),(V.kill n0 A),(V.kill n0 B),(V.kill n0 M),(V.kill n0 N),(V.kill n0 O),(V.kill n0 I),(V.kill n0 Q),(V.kill n0 L),(V.kill n0 E),(V.kill n0 J),(V.kill n0 G),(V.kill n0 F),(V.kill n0 R),(V.kill n0 W),(V.kill n0 X),(V.kill n0 T),(V.kill n0 U),(V.kill n0 Y),(V.kill n0 t0),(V.kill n0 vL),.junk,.junk,.junk,.junk,.junk,.junk,.junk,.junk,.junk,(V.kill n0 t7)],bN n0 hO⟩) (
 K (.exit 2) ⟨[(V.kill n0 d),(V.kill n0 f),(V.kill n0 g),(V.kill n0 o),(V.kill n0 j),(V.kill n0 v),(V.kill n0 y),(V.kill n0 r),(V.kill n0 u),(V.kill n0 z),(V.kill n0 D),(V.kill n0 A),(V.kill n0 B),(V.kill n0 M),(V.kill n0 N),(V.kill n0 O),(V.kill n0 I),(V.kill n0 Q),(V.kill n0 L),(V.kill n0 E),(V.kill n0 J),(V.kill n0 G),(V.kill n0 F),(V.kill n0 R),(V.kill n0 W),(V.kill n0 X),(V.kill n0 T),(V.kill n0 U),(V.kill n0 Y),(V.kill n0 t0),.junk,.junk,.junk,.junk,.junk,.junk,.junk,.junk,.junk,.junk,(V.kill n0 t7)],bN n0 hF⟩):=kI
theorem CB:au (xX s 113 wl k false) (ap s.P Tryz.f113) CI (.exit 2) ⟨[d,f,g,o,j,v,y,r,u,z,D,A,B,M,N,O,I,Q,L,E,J,G,F,R,W,X,T,U,Y,t0,Z,t2,t3,t4,t1,t5,t6,t8,t9,ta,t7],h⟩ =
 some (r,h):=kR
theorem l8 (cx:Cx) (s:St):au cx K wV .ret s=K .ret s:=by kernel_rfl
theorem mf (cx:Cx) (s:St):au cx K CE .ret s=K .ret s:=by kernel_rfl
theorem l9 (cx:Cx) (s:St):au cx K CI .ret s=K .ret s:=by kernel_rfl
-- names: xFP,Pr,RB,CK,LD,CY,LP,CB,l8,mf,l9
theorem Jg{P:Program} {wl:Nat} {c:Bool} {t e:TypeId} {α:Type} {enc:α→List V} {l:List α} {k k' k2:IntKind} {lo n m:Int} {H:Hp} (he:kP P t=some e) (hz:(aW P e !=0)=true) (h:∀ x,(enc x).length=aW P e) :
  b8 P wl c t (.ro (l.map enc)) (some (.lit (.int k lo))) (some (.lit (.int k' n))) (some (.lit (.int k2 m))) H=bif decide (0≤lo∧lo≤n∧n≤m∧m≤l.length) then some (.ro (((l.take n.toNat).drop lo.toNat).map enc),H) else none:=by
 have hz':aW P e≠0:=by simpa using hz
 unfold b8
 simp only [he,bnd]
 by_cases h0:0≤lo∧lo≤n∧n≤m∧m≤l.length
 ·have h1:0≤lo:=h0.1
  have h2:0≤n:=by omega
  have h3:0≤m:=by omega
  have h4:lo.toNat≤n.toNat:=by omega
  have h5:n.toNat≤m.toNat:=by omega
  have h6:m.toNat≤l.length:=by omega
  simp [h0,h1,h2,h3,h4,h5,h6,hz',Cj h,List.map_take,List.map_drop]
  omega
 ·rw [decide_eq_false h0]
  by_cases h1:0≤lo
  ·by_cases h2:0≤n
   ·by_cases h3:0≤m
    ·have:¬ (lo.toNat≤n.toNat∧n.toNat≤m.toNat∧m.toNat≤l.length):=by omega
     simp only [h1,h2,h3,if_true,Option.bind_some,List.length_map,cond_false]
     rw [if_neg (fun hh=>this ⟨hh.2.1,hh.2.2.1,hh.2.2.2.1⟩)]
    ·simp [h1,h2,h3]
   ·simp [h1,h2]
  ·simp [h1]
theorem nq (kk:Nat) (wl:Nat) (c:Bool) (l:List Int) (k k2 k3:IntKind) (lo n m:Int) (H:Hp):b8 (xS kk).P wl c 67 (.ro (l.map (aF .u8))) (some (.lit (.int k lo))) (some (.lit (.int k2 n))) (some (.lit (.int k3 m))) H=bif decide (0≤lo∧lo≤n∧n≤m∧m≤l.length) then some (.ro (((l.take n.toNat).drop lo.toNat).map (aF .u8)),H) else none:=Jg (e:=5) (by kernel_rfl) (by kernel_rfl) (fun _=>by kernel_rfl)
noncomputable def C4:Code:=al (am Tryz.f152) [1,0,0]
noncomputable def BH:List Fr:=[.block 0]
theorem Xd:ak (xX s 152 wl k false) Tryz.f152 [d,f,g] h =
 itX (xX s 152 wl k false) C4 h.length (au (xX s 152 wl k false) (ap s.P Tryz.f152) BH) k ⟨[(V.kill h.length d),(V.kill h.length f),(V.kill h.length g),(V.kill h.length uu),(.lit (.int .i64 0)),(V.kill h.length uu),.junk,.junk,.junk,.junk,.junk,.junk,.junk,.junk,.junk,.junk,.junk,.junk,.junk,.junk,.junk,.junk,.junk,.junk,.junk,.junk,.junk,.junk,.junk,.junk,.junk],bN h.length h⟩:=kB
theorem acL:evF Tryz.prog xM (k+1) wl 152 [d,f,g] h=ak (xX (xS k) 152 wl k false) Tryz.f152 [d,f,g] h:=by kernel_rfl
theorem UQ (P:Program):ap P Tryz.f152 .ret ⟨[d,f,g,o,j,v,y,r,u,z,D,A,B,M,N,O,I,Q,L,E,J,G,F,R,W,X,T,U,Y,t0,Z],h⟩=some (.tup [],h):=by kernel_rfl
theorem N2:itX (xX s 152 wl k rd) C4 n0 K (n+1) ⟨[d,f,g,o,j,v,y,r,u,z,D,A,B,M,N,O,I,Q,L,E,J,G,F,R,W,X,T,U,Y,t0,Z],h⟩ =
 bm (ab s.P 67 f h) h fun v1 h2=>
 bp (a7 s.P 67 v1 h2) fun v3 h4=>
 bm (aw s.P .lss 3 j v3) h4 fun v5 h6=>
 cnd v5 (
 bm (ab s.P 3 g h6) h6 fun v7 h8=>
 bm (ab s.P 67 f h8) h8 fun v9 hC=>
 bp (b8 s.P wl true 67 v9 (some j) none none hC) fun vB hB=>
 bp (a7 s.P 67 vB hB) fun vC hD=>
 bm (gS false [v7,vC]) hD fun vA hA=>
 bm (ab s.P 67 f hA) hA fun vG hJ=>
 bm (aw s.P .add 3 j vA) hJ fun vI hK=>
 bm (aw s.P .add 3 j vA) hK fun vH hG=>
 bp (b8 s.P wl false 67 vG (some j) (some vI) (some vH) hG) fun vE hH=>
 bp (bE (xX s 152 wl k rd) false true d [vE] hH) fun vD hE=>
 bm (vUn .not vD) hE fun vF hF=>
 cnd vF (
 K .ret ⟨[d,f,g,o,j,vA,j,v1,v3,v5,D,A,B,v7,v9,j,vB,vC,vA,d,vG,j,j,vA,vI,j,vA,vH,vE,vD,vF],hF⟩) (
 bm (ab s.P 3 g hF) hF fun vM hL=>
 bm (aw s.P .add 3 j vM) hL fun vK hN=>
 itX (xX s 152 wl k rd) C4 n0 K n ⟨[(V.kill n0 d),(V.kill n0 f),(V.kill n0 g),(V.kill n0 o),(V.kill n0 vK),(V.kill n0 vA),.junk,.junk,.junk,.junk,.junk,.junk,.junk,.junk,.junk,.junk,.junk,.junk,.junk,.junk,.junk,.junk,.junk,.junk,.junk,.junk,.junk,.junk,.junk,.junk,.junk],bN n0 hN⟩)) (
 K (.exit 0) ⟨[(V.kill n0 d),(V.kill n0 f),(V.kill n0 g),(V.kill n0 o),(V.kill n0 j),(V.kill n0 v),.junk,.junk,.junk,.junk,.junk,.junk,.junk,.junk,.junk,.junk,.junk,.junk,.junk,.junk,.junk,.junk,.junk,.junk,.junk,.junk,.junk,.junk,.junk,.junk,.junk],bN n0 h6⟩):=kI
theorem FM:au (xX s 152 wl k false) (ap s.P Tryz.f152) BH (.exit 0) ⟨[d,f,g,o,j,v,y,r,u,z,D,A,B,M,N,O,I,Q,L,E,J,G,F,R,W,X,T,U,Y,t0,Z],h⟩ =
 some (.tup [],h):=kR
theorem nP (cx:Cx) (s:St):au cx K BH .ret s=K .ret s:=by kernel_rfl
-- names: xFP,nq,Xd,UQ,N2,FM,nP
end
end Go.Ab
