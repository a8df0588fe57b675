import Derived.Test.YtblpbpnilkfjhaaGreatR6GY
import Derived.Test.YtblpbpnilkfjhaaGreatR6BPl
set_option linter.unusedVariables false
set_option linter.unusedSimpArgs false
set_option maxRecDepth 100000
set_option linter.unusedVariables false
set_option linter.unusedSimpArgs false
namespace Go.Ab
open Go.Proofs
def cj (k:Nat) (v0:(List Int))  : Nat→Int→Nat→Tye→Option Tye
 | 0,_,_,_=>none
 | n+1,s5,s7,s8=>
 bif decide (s5<(↑v0.length:Int)) then
 bif decide ((0:Int)≤s5∧s5≤(↑v0.length:Int)) then
 bif decide ((0:Int)≤s5∧s5≤IntKind.i64.wrap (s5+bif decide ((↑(List.drop s5.toNat v0).length:Int)<(3:Int)) then (↑(List.drop s5.toNat v0).length:Int) else (3:Int))∧IntKind.i64.wrap (s5+bif decide ((↑(List.drop s5.toNat v0).length:Int)<(3:Int)) then (↑(List.drop s5.toNat v0).length:Int) else (3:Int))≤IntKind.i64.wrap (s5+bif decide ((↑(List.drop s5.toNat v0).length:Int)<(3:Int)) then (↑(List.drop s5.toNat v0).length:Int) else (3:Int))∧IntKind.i64.wrap (s5+bif decide ((↑(List.drop s5.toNat v0).length:Int)<(3:Int)) then (↑(List.drop s5.toNat v0).length:Int) else (3:Int))≤(↑v0.length:Int)) then
 bif (↑(List.drop s5.toNat (List.take (IntKind.i64.wrap (s5+bif decide ((↑(List.drop s5.toNat v0).length:Int)<(3:Int)) then (↑(List.drop s5.toNat v0).length:Int) else (3:Int))).toNat v0)).length:Int)==(3:Int) then
 ob (idx (List.drop s5.toNat (List.take (IntKind.i64.wrap (s5+bif decide ((↑(List.drop s5.toNat v0).length:Int)<(3:Int)) then (↑(List.drop s5.toNat v0).length:Int) else (3:Int))).toNat v0)) (0:Int)) fun x16=>
 ob (idx (List.drop s5.toNat (List.take (IntKind.i64.wrap (s5+bif decide ((↑(List.drop s5.toNat v0).length:Int)<(3:Int)) then (↑(List.drop s5.toNat v0).length:Int) else (3:Int))).toNat v0)) (1:Int)) fun x17=>
 ob (idx (List.drop s5.toNat (List.take (IntKind.i64.wrap (s5+bif decide ((↑(List.drop s5.toNat v0).length:Int)<(3:Int)) then (↑(List.drop s5.toNat v0).length:Int) else (3:Int))).toNat v0)) (2:Int)) fun x18=>
 ck (s7==3||s7==0) (
 bif room (s8++[(IntKind.i64.wrap (x16.tmod (4:Int)),IntKind.i64.wrap x17,IntKind.u64.wrap x18)]).length 24 then
 cj k v0  n (IntKind.i64.wrap (s5+(3:Int))) (3) (s8++[(IntKind.i64.wrap (x16.tmod (4:Int)),IntKind.i64.wrap x17,IntKind.u64.wrap x18)])
 else
 none)
 else
 cj k v0  n (IntKind.i64.wrap (s5+(3:Int))) (s7) (s8)
 else
 none
 else
 none
 else
 some (s8)
theorem kA (k:Nat) (v0:(List Int)):∀ (n:Nat) (s5:Int) (s7:Nat) (s8:Tye) ⦃s9:Nat⦄ ⦃j6:V⦄,rt none (bq (itX (xX (xS (k+22)) 152 0 (k+22) false) AP (6) (au (xX (xS (k+22)) 152 0 (k+22) false) (ao (xS (k+22)).P Tryz.f152) BX) n ⟨[.yld 5,.ptr 3 0 0 0,.ptr 4 0 0 0,uu,.lit (.int .i64 s5),j6,.junk,.junk,.junk,.junk,.junk,.junk,.junk,.junk,.junk,.junk,.junk,.junk,.junk,.junk,.junk,.junk,.junk,.junk,.junk,.junk,.junk,.junk,.junk,.junk,.junk],[.rows 0 [] 0 true,.rows s7 (List.map fX s8) s9 true,.box [.own 1 s9 s8.length],.box [.ro (List.map (aF IntKind.u8) v0)],.box [.lit (.int .i64 (3:Int))],(.loop ⟨LoopState.ready,none,73,[.ro (List.map (aF IntKind.u8) v0),uu,.own 0 0 0,.ptr 2 0 0 0,uu,.ro (List.map (aF IntKind.u8) v0),.fn (Fn.func (152:FuncId)) [] [.ptr 3 0 0 0,.ptr 4 0 0 0],uu,uu,uu,uu,uu,uu,uu,uu,uu,uu,uu,uu,uu,uu,uu,uu,uu,uu,uu,uu,uu,uu],[(7:Tmp)],MO,K3⟩)]⟩) (rfK (au (xX (xS (k+23)) 73 0 (k+23) false) (ao (xS (k+23)).P Tryz.f73) HI) [.ro (List.map (aF IntKind.u8) v0),uu,.own 0 0 0,.ptr 2 0 0 0,uu,.ro (List.map (aF IntKind.u8) v0),.fn (Fn.func (152:FuncId)) [] [.ptr 3 0 0 0,.ptr 4 0 0 0],uu,uu,uu,uu,uu,uu,uu,uu,uu,uu,uu,uu,uu,uu,uu,uu,uu,uu,uu,uu,uu,uu] (5)))=ob (cj k v0  n s5 s7 s8) fun r=>some ((.ro (List.map fX r)),[]):=by
 intro n
 induction n with
 | zero=>intros;rfl
 | succ n ih=>
  intro s5 s7 s8 s9 j6
  rw [cj]
  simp (maxSteps:=2000000) -implicitDefEqProofs only [agX,afV,aci,ML,ii,ig,pu,DE,XU,Ua,E3,nW,aH (g:=111),XH,Uw,Ul,FO,nB,↓syP,syA,rtN,a7,V.pure,nsh,xy,V.kill,eE,spl,V.shift,di,V.scal,kF,aF,fA,aD,simprocAttr,syQ,lA,dK,cA,bn,aG,fm,dC,ah,ag,ae,syW,xFP,nc,xF,iA,iE,ip,iy,En,dD,iH,nn,xR,xA,m9,iG,m8,io,nk,iw,ni,iq,m7,ix,iu,fw,iB,dG,ng,iD,nh,iF,na,iJ,nj,ir,nf,iK,ij,ft,LM,ih]
  all_goals simp -implicitDefEqProofs only [List.map_nil]
def f4 (k:Nat) (v0:(List Int)):Option Tye:=
 cj k v0 (k+22) ((0:Int)) (0) ([])
theorem AV (k:Nat) (v0:(List Int)):xC (k+24) none 73 [(.ro (List.map (aF .u8) v0))]=ob (f4 k v0) fun r=>some ((.ro (List.map fX r)),[]):=by
 rw [aH]
 unfold f4
 have hl0:=kA k v0 (k+22) ((0:Int)) (0) ([])
 try simp -implicitDefEqProofs only [List.map_nil,List.length_nil] at hl0
 simp (maxSteps:=2000000) -implicitDefEqProofs only [agX,afV,aci,ML,ii,ig,pu,DE,XU,Ua,E3,nW,aH (g:=111),XH,Uw,Ul,FO,nB,↓syP,syA,rtN,a7,V.pure,nsh,xy,V.kill,eE,spl,V.shift,di,V.scal,kF,aF,fA,aD,simprocAttr,syQ,lA,dK,cA,bn,aG,fm,dC,ah,ag,ae,syW,xFP,nc,xF,iA,iE,ip,iy,En,dD,iH,nn,xR,xA,m9,iG,m8,io,nk,iw,ni,iq,m7,ix,iu,fw,iB,dG,ng,iD,nh,iF,na,iJ,nj,ir,nf,iK,ij,ft,kA k v0,hl0]
 all_goals simp -implicitDefEqProofs only [List.map_nil]
end Go.Ab
