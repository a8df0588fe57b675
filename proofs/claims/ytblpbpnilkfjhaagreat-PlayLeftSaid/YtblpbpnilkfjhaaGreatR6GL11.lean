import Derived.Test.YtblpbpnilkfjhaaGreatR6G0B
import Derived.Test.YtblpbpnilkfjhaaGreatR6G0A
import Derived.Test.YtblpbpnilkfjhaaGreatR6B0A
set_option linter.unusedVariables false
set_option linter.unusedSimpArgs false
set_option maxRecDepth 100000
set_option linter.unusedVariables false
set_option linter.unusedSimpArgs false
namespace Go.Ab
open Go.Proofs
def cO (k:Nat) (v0:Tyt)  : Nat→Int→Int→Option (Int×Int)
 | 0,_,_=>none
 | n+1,s7,s9=>
 bif decide (s9<(↑v0.length:Int)) then
 ob (idx v0 s9) fun xE=>
 cO k v0  n (IntKind.i64.wrap (s7+xE.1)) (IntKind.i64.wrap (s9+(1:Int)))
 else
 some (((↑v0.length:Int)),(s7))
theorem pB (k:Nat) (v0:Tyt):∀ (n:Nat) (s7 s9:Int) ⦃s3 s4:Bool⦄ ⦃j8:V⦄,rt none (itX (xX (xS (k+19)) 38 0 (k+19) false) Lf (0) (br (xX (xS (k+19)) 38 0 (k+19) false) (aX (xS (k+19)).P Tryz.f38) Le) n ⟨[.ro (List.map ak v0),uu,.lit (.int .i64 (0:Int)),.lit (.int .i64 (0:Int)),.lit (.int .i64 s7),uu,j8,.ro (List.map ak v0),.lit (.bool s3),.lit (.bool s4),.ro (List.map ak v0),.lit (.int .i64 (↑v0.length:Int)),.lit (.int .i64 s9),.junk,.junk,.junk,.junk,.junk,.junk,.junk,.junk,uu,uu,uu],[]⟩)=ob (cO k v0  n s7 s9) fun r=>some ((.tup [(.lit (.int .i64 r.1)),(.lit (.int .i64 r.2))]),[]):=by
 intro n
 induction n with
 | zero=>intros;rfl
 | succ n ih=>
  intro s7 s9 s3 s4 j8
  rw [cO]
  simp -implicitDefEqProofs only [anh,anm,anA,Wg,CO,↓syI,↓syP,syA,rtN,a8,V.pure,nsh,Ri,V.kill,iu,spl,V.shift,f9,V.scal,wy,aw,lx,aB,simprocAttr,syQ,BV,iH,cR,bh,aC,uT,ow,af,ae,aa,syW,xFP,mS,yI,xF,C6,Dk,Cw,Dr,abO,oi,CM,Nr,xR,xA,MG,CZ,LV,Da,Ng,Dd,MB,Ci,ML,CR,CH,uo,Cm,om,Mv,Dp,Nb,Cy,MS,Cq,Mt,CK,MD,Cf,Dc,uI,cA,bP,FE,co,aeC,ih]
def fy (k:Nat) (v0:Tyt):Option (Int×Int):=
 ob (cG k v0) fun xH=>
 bif !xH then
 some (((0:Int)),((0:Int)))
 else
 cO k v0 (k+19) ((0:Int)) ((0:Int))
theorem rc (k:Nat) (v0:Tyt):xC (k+20) none 38 [(.ro (List.map ak v0))]=ob (fy k v0) fun r=>some ((.tup [(.lit (.int .i64 r.1)),(.lit (.int .i64 r.2))]),[]):=by
 rw [aD]
 unfold fy
 simp -implicitDefEqProofs only [anh,anm,anA,Wg,CO,↓syI,↓syP,syA,rtN,a8,V.pure,nsh,Ri,V.kill,iu,spl,V.shift,f9,V.scal,wy,aw,lx,aB,simprocAttr,syQ,BV,iH,cR,bh,aC,uT,ow,af,ae,aa,syW,xFP,mS,yI,xF,C6,Dk,Cw,Dr,abO,oi,CM,Nr,xR,xA,MG,CZ,LV,Da,Ng,Dd,MB,Ci,ML,CR,CH,uo,Cm,om,Mv,Dp,Nb,Cy,MS,Cq,Mt,CK,MD,Cf,Dc,uI,cA,bP,FE,co,pB k v0]
def aJ (k:Nat) (v0:(Int×Int×Int×Int)) (v1:Tyt) (v2:(List (List Int))) (v3:(List Int))  : Nat→Tye→Int→Int→Int→Int→Tyt→List Int→List Tyw→List Tys→Int→Int→Int→Option Bool
 | 0,_,_,_,_,_,_,_,_,_,_,_,_=>none
 | n+1,sB,sC,sD,sE,sF,sG,sH,sI,sA,sT,sU,sJ=>
 bif decide (sJ<(↑sA.length:Int)) then
 ob (idx sA sJ) fun xI=>
 bif xI.1==(3:Int) then
 aJ k v0 v1 v2 v3  n (sB) (sC) (sD) (sE) (sF) (sG) (sH) (sI) (sA) (sT) (IntKind.i64.wrap (sU+(1:Int))) (IntKind.i64.wrap (sJ+(1:Int)))
 else
 ob (idx sA sJ) fun xJ=>
 bif xJ.1==(4:Int) then
 aJ k v0 v1 v2 v3  n (sB) (sC) (sD) (sE) (sF) (sG) (sH) (sI) (sA) (sT) (IntKind.i64.wrap (sU+(1:Int))) (IntKind.i64.wrap (sJ+(1:Int)))
 else
 aJ k v0 v1 v2 v3  n (sB) (sC) (sD) (sE) (sF) (sG) (sH) (sI) (sA) (sT) (sU) (IntKind.i64.wrap (sJ+(1:Int)))
 else
 ob (fj (k+91) v1 sB) fun xD=>
 ob (fy (k+72) v1) fun xK=>
 ob (gO (k+56) ((sC,sD,sE,sF),sG,sH,sI,sA)) fun xL=>
 bif IntKind.i64.wrap (IntKind.i64.wrap (IntKind.i64.wrap (xD.1+xD.2.1)+xL) - sU)==sT then
 bif decide (xD.2.2≤xK.1) then
 some (decide ((0:Int)≤xD.2.2))
 else
 some (false)
 else
 some (false)
theorem iN (k:Nat) (v0_0 v0_1 v0_2 v0_3:Int) (v1:Tyt) (v2:(List (List Int))) (v3:(List Int)):∀ (n:Nat) (sB:Tye) (sC sD sE sF:Int) (sG:Tyt) (sH:List Int) (sI:List Tyw) (sA:List Tys) (sT sU sJ:Int) ⦃sZ sa sW sd se sh:Bool⦄ ⦃si:Int⦄,rt none (itX (xX (xS (k+92)) 11 0 (k+92) false) Cl (6) (br (xX (xS (k+92)) 11 0 (k+92) false) (aX (xS (k+92)).P Tryz.f11) JY) n ⟨(.agg [.lit (.int .i64 v0_0),.lit (.int .i64 v0_1),.lit (.int .i64 v0_2),.lit (.int .i64 v0_3)]::.ro (List.map ak v1)::.ro (List.map cR v2)::.ro (List.map (aw IntKind.u8) v3)::.ptr 0 0 0 0::uu::uu::uu::.lit (.bool false)::.lit (.bool true)::.lit (.bool sZ)::.lit (.bool sa)::.ptr 5 0 0 0::.ro (List.map aB sB)::.lit (.bool sW)::.lit (.int .i64 sT)::.lit (.int .i64 si)::.lit (.int .i64 sU)::.lit (.int .i64 sJ)::uu::uu::uu::uu::uu::.lit (.bool true)::.ro (List.map ak v1)::.lit (.bool sZ)::.ro (List.map cR v2)::.lit (.bool sa)::.lit (.bool true)::.lit (.bool false)::.lit (.bool false)::.lit (.bool sZ)::.lit (.bool sd)::.lit (.bool sd)::.lit (.bool false)::.lit (.bool sa)::.lit (.bool se)::.lit (.bool se)::.lit (.bool false)::.ro (List.map (aw IntKind.u8) v3)::.lit (.int .i64 (↑v3.length:Int))::.lit (.bool (decide ((900:Int)<(↑v3.length:Int))))::.lit (.bool (decide ((900:Int)<(↑v3.length:Int))))::uu::.tup [.agg [.lit (.int .i64 sC),.lit (.int .i64 sD),.lit (.int .i64 sE),.lit (.int .i64 sF),.ro (List.map ak sG),.ro (List.map (aw IntKind.u64) sH),.ro (List.map aC sI),.ro (List.map bh sA)],.ro (List.map aB sB),.lit (.bool sW)]::.agg [.lit (.int .i64 v0_0),.lit (.int .i64 v0_1),.lit (.int .i64 v0_2),.lit (.int .i64 v0_3)]::.ro (List.map ak v1)::.ro (List.map cR v2)::.ro (List.map (aw IntKind.u8) v3)::.tup [.agg [.lit (.int .i64 sC),.lit (.int .i64 sD),.lit (.int .i64 sE),.lit (.int .i64 sF),.ro (List.map ak sG),.ro (List.map (aw IntKind.u64) sH),.ro (List.map aC sI),.ro (List.map bh sA)],.ro (List.map aB sB),.lit (.bool sW)]::.agg [.lit (.int .i64 sC),.lit (.int .i64 sD),.lit (.int .i64 sE),.lit (.int .i64 sF),.ro (List.map ak sG),.ro (List.map (aw IntKind.u64) sH),.ro (List.map aC sI),.ro (List.map bh sA)]::.ro (List.map aB sB)::.lit (.bool sW)::.lit (.bool sW)::.lit (.bool sh)::.junk::.junk::.junk::.junk::.junk::.junk::.junk::.junk::.junk::.junk::.junk::.junk::.junk::.junk::.junk::.junk::.junk::.junk::.junk::.junk::.junk::.junk::.junk::.junk::.junk::.junk::.junk::.junk::.junk::.junk::.junk::.junk::.junk::.junk::.junk::.junk::.junk::.junk::uu::uu::uu::uu::uu::uu::uu::uu::uu::uu::uu::uu::uu::uu::uu::uu::uu::uu::uu::uu::uu::uu::uu::uu::uu::uu::uu::uu::uu::uu::uu::[]),[.box [.lit (.int .i64 v0_0),.lit (.int .i64 v0_1),.lit (.int .i64 v0_2),.lit (.int .i64 v0_3)],.rows 0 [] 0 true,.rows 0 [] 0 true,.rows 0 [] 0 true,.rows 0 [] 0 true,.box [.lit (.int .i64 sC),.lit (.int .i64 sD),.lit (.int .i64 sE),.lit (.int .i64 sF),.ro (List.map ak sG),.ro (List.map (aw IntKind.u64) sH),.ro (List.map aC sI),.ro (List.map bh sA)]]⟩)=ob (aJ k (v0_0,v0_1,v0_2,v0_3) v1 v2 v3  n sB sC sD sE sF sG sH sI sA sT sU sJ) fun r=>some ((.lit (.bool r)),[]):=by
 intro n
 induction n with
 | zero=>intros;rfl
 | succ n ih=>
  intro sB sC sD sE sF sG sH sI sA sT sU sJ sZ sa sW sd se sh si
  rw [aJ]
  simp -implicitDefEqProofs only [aij,ahk,akI,Ob,N2,Qo,Oc,Qs,N8,Qb,Qm,P3,uJ,uW,uH,ue,uD,uw,↓syI,↓syP,syA,rtN,a8,V.pure,nsh,Ri,V.kill,iu,spl,V.shift,f9,V.scal,wy,aw,lx,aB,simprocAttr,syQ,BV,iH,cR,bh,aC,uT,ow,af,ae,aa,syW,xFP,mS,yI,xF,C6,Dk,Cw,Dr,abO,oi,CM,Nr,xR,xA,MG,CZ,LV,Da,Ng,Dd,MB,Ci,ML,CR,CH,uo,Cm,om,Mv,Dp,Nb,Cy,MS,Cq,Mt,CK,MD,Cf,Dc,uI,cA,bP,FE,gn,eo,pg,pE,nW,rc,adK,ih]
def aT (k:Nat) (v0:(Int×Int×Int×Int)) (v1:Tyt) (v2:(List (List Int))) (v3:(List Int))  : Nat→Tye→Int→Int→Int→Int→Tyt→List Int→List Tyw→List Tys→Int→Int→Option Bool
 | 0,_,_,_,_,_,_,_,_,_,_,_=>none
 | n+1,sK,sL,sM,sN,sO,sP,sQ,sR,sS,sX,sV=>
 bif decide (sV<(↑v2.length:Int)) then
 ob (idx v2 sV) fun xN=>
 aT k v0 v1 v2 v3  n (sK) (sL) (sM) (sN) (sO) (sP) (sQ) (sR) (sS) (IntKind.i64.wrap (sX+(↑xN.length:Int))) (IntKind.i64.wrap (sV+(1:Int)))
 else
 aJ k v0 v1 v2 v3 (k+92) (sK) (sL) (sM) (sN) (sO) (sP) (sQ) (sR) (sS) (sX) ((0:Int)) ((0:Int))
theorem iR (k:Nat) (v0_0 v0_1 v0_2 v0_3:Int) (v1:Tyt) (v2:(List (List Int))) (v3:(List Int)):∀ (n:Nat) (sK:Tye) (sL sM sN sO:Int) (sP:Tyt) (sQ:List Int) (sR:List Tyw) (sS:List Tys) (sX sV:Int) ⦃sb sc sY sf sg sj:Bool⦄,rt none (itX (xX (xS (k+92)) 11 0 (k+92) false) Ku (6) (br (xX (xS (k+92)) 11 0 (k+92) false) (aX (xS (k+92)).P Tryz.f11) JB) n ⟨(.agg [.lit (.int .i64 v0_0),.lit (.int .i64 v0_1),.lit (.int .i64 v0_2),.lit (.int .i64 v0_3)]::.ro (List.map ak v1)::.ro (List.map cR v2)::.ro (List.map (aw IntKind.u8) v3)::.ptr 0 0 0 0::uu::uu::uu::.lit (.bool false)::.lit (.bool true)::.lit (.bool sb)::.lit (.bool sc)::.ptr 5 0 0 0::.ro (List.map aB sK)::.lit (.bool sY)::.lit (.int .i64 sX)::.lit (.int .i64 sV)::uu::uu::uu::uu::uu::uu::uu::.lit (.bool true)::.ro (List.map ak v1)::.lit (.bool sb)::.ro (List.map cR v2)::.lit (.bool sc)::.lit (.bool true)::.lit (.bool false)::.lit (.bool false)::.lit (.bool sb)::.lit (.bool sf)::.lit (.bool sf)::.lit (.bool false)::.lit (.bool sc)::.lit (.bool sg)::.lit (.bool sg)::.lit (.bool false)::.ro (List.map (aw IntKind.u8) v3)::.lit (.int .i64 (↑v3.length:Int))::.lit (.bool (decide ((900:Int)<(↑v3.length:Int))))::.lit (.bool (decide ((900:Int)<(↑v3.length:Int))))::uu::.tup [.agg [.lit (.int .i64 sL),.lit (.int .i64 sM),.lit (.int .i64 sN),.lit (.int .i64 sO),.ro (List.map ak sP),.ro (List.map (aw IntKind.u64) sQ),.ro (List.map aC sR),.ro (List.map bh sS)],.ro (List.map aB sK),.lit (.bool sY)]::.agg [.lit (.int .i64 v0_0),.lit (.int .i64 v0_1),.lit (.int .i64 v0_2),.lit (.int .i64 v0_3)]::.ro (List.map ak v1)::.ro (List.map cR v2)::.ro (List.map (aw IntKind.u8) v3)::.tup [.agg [.lit (.int .i64 sL),.lit (.int .i64 sM),.lit (.int .i64 sN),.lit (.int .i64 sO),.ro (List.map ak sP),.ro (List.map (aw IntKind.u64) sQ),.ro (List.map aC sR),.ro (List.map bh sS)],.ro (List.map aB sK),.lit (.bool sY)]::.agg [.lit (.int .i64 sL),.lit (.int .i64 sM),.lit (.int .i64 sN),.lit (.int .i64 sO),.ro (List.map ak sP),.ro (List.map (aw IntKind.u64) sQ),.ro (List.map aC sR),.ro (List.map bh sS)]::.ro (List.map aB sK)::.lit (.bool sY)::.lit (.bool sY)::.lit (.bool sj)::.junk::.junk::.junk::.junk::.junk::.junk::.junk::.junk::.junk::.junk::.junk::.junk::.junk::uu::uu::uu::uu::uu::uu::uu::uu::uu::uu::uu::uu::uu::uu::uu::uu::uu::uu::uu::uu::uu::uu::uu::uu::uu::uu::uu::uu::uu::uu::uu::uu::uu::uu::uu::uu::uu::uu::uu::uu::uu::uu::uu::uu::uu::uu::uu::uu::uu::uu::uu::uu::uu::uu::uu::uu::[]),[.box [.lit (.int .i64 v0_0),.lit (.int .i64 v0_1),.lit (.int .i64 v0_2),.lit (.int .i64 v0_3)],.rows 0 [] 0 true,.rows 0 [] 0 true,.rows 0 [] 0 true,.rows 0 [] 0 true,.box [.lit (.int .i64 sL),.lit (.int .i64 sM),.lit (.int .i64 sN),.lit (.int .i64 sO),.ro (List.map ak sP),.ro (List.map (aw IntKind.u64) sQ),.ro (List.map aC sR),.ro (List.map bh sS)]]⟩)=ob (aT k (v0_0,v0_1,v0_2,v0_3) v1 v2 v3  n sK sL sM sN sO sP sQ sR sS sX sV) fun r=>some ((.lit (.bool r)),[]):=by
 intro n
 induction n with
 | zero=>intros;rfl
 | succ n ih=>
  intro sK sL sM sN sO sP sQ sR sS sX sV sb sc sY sf sg sj
  rw [aT]
  simp -implicitDefEqProofs only [aij,ahk,akI,Ob,N2,Qo,Oc,Qs,N8,Qb,Qm,P3,uJ,uW,uH,ue,uD,uw,↓syI,↓syP,syA,rtN,a8,V.pure,nsh,Ri,V.kill,iu,spl,V.shift,f9,V.scal,wy,aw,lx,aB,simprocAttr,syQ,BV,iH,cR,bh,aC,uT,ow,af,ae,aa,syW,xFP,mS,yI,xF,C6,Dk,Cw,Dr,abO,oi,CM,Nr,xR,xA,MG,CZ,LV,Da,Ng,Dd,MB,Ci,ML,CR,CH,uo,Cm,om,Mv,Dp,Nb,Cy,MS,Cq,Mt,CK,MD,Cf,Dc,uI,cA,bP,FE,gn,eo,pg,pE,nW,rc,afd,ih,iN k v0_0 v0_1 v0_2 v0_3 v1 v2 v3]
def cW (k:Nat) (v0:(Int×Int×Int×Int)) (v1:Tyt) (v2:(List (List Int))) (v3:(List Int)):Option Bool:=
 ob (dA (k+91) v1) fun xO=>
 ob (bY (k+91) v2) fun xP=>
 bif !xO then
 some (true)
 else
 bif !xP then
 some (true)
 else
 bif decide ((900:Int)<(↑v3.length:Int)) then
 some (true)
 else
 ob (gU (k+28) (v0.1,v0.2.1,v0.2.2.1,v0.2.2.2) v1 v2 v3) fun xB=>
 bif !xB.2.2 then
 some (true)
 else
 aT k v0 v1 v2 v3 (k+92) (xB.2.1) (xB.1.1.1) (xB.1.1.2.1) (xB.1.1.2.2.1) (xB.1.1.2.2.2) (xB.1.2.1) (xB.1.2.2.1) (xB.1.2.2.2.1) (xB.1.2.2.2.2) ((0:Int)) ((0:Int))
theorem mO (k:Nat) (v0_0 v0_1 v0_2 v0_3:Int) (v1:Tyt) (v2:(List (List Int))) (v3:(List Int)):xC (k+93) none 11 [(.agg [(.lit (.int .i64 v0_0)),(.lit (.int .i64 v0_1)),(.lit (.int .i64 v0_2)),(.lit (.int .i64 v0_3))]),(.ro (List.map ak v1)),(.ro (List.map cR v2)),(.ro (List.map (aw .u8) v3))]=ob (cW k (v0_0,v0_1,v0_2,v0_3) v1 v2 v3) fun r=>some ((.lit (.bool r)),[]):=by
 rw [aD]
 unfold cW
 simp -implicitDefEqProofs only [aij,ahk,akI,Ob,N2,Qo,Oc,Qs,N8,Qb,Qm,P3,uJ,uW,uH,ue,uD,uw,↓syI,↓syP,syA,rtN,a8,V.pure,nsh,Ri,V.kill,iu,spl,V.shift,f9,V.scal,wy,aw,lx,aB,simprocAttr,syQ,BV,iH,cR,bh,aC,uT,ow,af,ae,aa,syW,xFP,mS,yI,xF,C6,Dk,Cw,Dr,abO,oi,CM,Nr,xR,xA,MG,CZ,LV,Da,Ng,Dd,MB,Ci,ML,CR,CH,uo,Cm,om,Mv,Dp,Nb,Cy,MS,Cq,Mt,CK,MD,Cf,Dc,uI,cA,bP,FE,gn,eo,pE,iR k v0_0 v0_1 v0_2 v0_3 v1 v2 v3]
end Go.Ab
