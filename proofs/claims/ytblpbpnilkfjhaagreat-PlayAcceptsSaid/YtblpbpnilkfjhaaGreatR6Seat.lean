import Derived.Test.YtblpbpnilkfjhaaGreatAbLibC
import Derived.Test.YtblpbpnilkfjhaaGreatAbR6
set_option linter.unusedVariables false
set_option linter.unusedSimpArgs false
namespace Go.Ab
open Go.Proofs
def xN:List Nat:=[0,0,0,16,17,19,25,16,22,17,26,24,25,23,20,9,6,10,6,4,2,4,4,16,4,5,7,4,2,2,2,2,4,11,15,7,14,10,7,6,7,5,6,8,4,7,10,4,10,4,2,2,4,5,3,4,6,5,5,4,2,6,8,2,4,13,4,2,4,2,6,0,4,5,4,10,2,2,2,2,2,4,0,17,0,8,21,0,9,10,4,6,4,6,5,10,6,6,4,2,2,7,2,2,6,4,4,4,4,6,2,4,5,10,2,12,3,2,3,3,2,2,6,2,2,3,2,3,2,2,4,6,0,5,6,6,0,0,6,0,0,0,5,9,0,6,4,6,7,0,0,0,6,4,2,9,4,4,4,7,10,8,7,8,6,10,14,11,11,3,4,5,4,2,2,0,0,0,0,3,6,8,0,2,2,3,2,2,10,9,0,13,2,6,9,4,8,2,2,4,2,2,0,4,4,4,6,10,14,14,2,2,2,2,4,6,5,2,2,5,2,2,0,0,2,2,2,2,7,0,0,0,4,4,4,0,0,0,0,0,0,0,0,0,0,0,0,0,0,0,0]
noncomputable def xM:Mode:=KQ Tryz.prog (fun f=>xN.getD f 0)
noncomputable def xX (s:Sys) (fid wl k:Nat) (rd:Bool):Cx := { P:=s.P,M:=⟨s.orc,s.keepRes,s.keepArg,fun f=>xN.getD f 0⟩,fid,round:=rd,wl,call:=s.call,yld:=s.yld,n:=k }
noncomputable def xS (k:Nat):Sys:=⟨Tryz.prog,xM.orc,xM.keepRes,xM.keepArg,evF Tryz.prog xM k,evY Tryz.prog xM k⟩
noncomputable def xC (k:Nat) (keep:Option (Nat→Bool)) (g:FuncId) (args:List V):Option (V×Hp):=(evF Tryz.prog xM k 0 g args []).bind fun p=>nE keep p.1 p.2
noncomputable abbrev yI (s:Sys) (k wl f:Nat) (F:Func) (g:Code) (n:Nat) (K:List Fr) (m:Nat):St→Res:=itX (xX s f wl k false) g n (bF (xX s f wl k false) (a7 s.P F) K) m
end Go.Ab
