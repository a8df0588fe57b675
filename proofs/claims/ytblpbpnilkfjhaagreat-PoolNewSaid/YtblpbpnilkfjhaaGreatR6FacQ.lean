import Derived.Test.YtblpbpnilkfjhaaGreatR6FacP
import Derived.Test.YtblpbpnilkfjhaaGreatAbLibC
set_option linter.unusedVariables false
set_option linter.unusedSimpArgs false
set_option maxRecDepth 100000
namespace Go.Ab
open Go.Proofs
theorem En (kk:Nat) (wl:Nat) (s x:V) (H:Hp):gL (xS kk).P wl 40 40 s x H=bd (xS kk).P wl 40 s x H:=by kernel_rfl
theorem Fl (kk:Nat) (wl id g len:Nat) (x:V) (H:Hp):bd (xS kk).P wl 40 (.own id g len) x H=(bF x H).bind fun xs=>bif bI 1 xs then apB wl 53 1 24 id g len xs H (H[id]?) else none:=(cV (P:=(xS kk).P) (t:=40) (e:=53) (by kernel_rfl) (by kernel_rfl)).trans (by kernel_rfl)
theorem D8 (kk:Nat) (wl:Nat) (x:V) (H:Hp):bd (xS kk).P wl 40 .nil x H=(bF x H).bind fun xs=>bif bI 1 xs then bif decide (xs.length*24≤70368744177664) then some (.own H.length 0 xs.length,H++[.rows 1 xs 0 true]) else none else none:=(cZ (P:=(xS kk).P) (t:=40) (e:=53) (by kernel_rfl) (by kernel_rfl)).trans (by kernel_rfl)
theorem Hu {p:List Nat×List Nat}:lgW .nil p=p:=by
 obtain ⟨l,m⟩:=p
 rfl
end Go.Ab
