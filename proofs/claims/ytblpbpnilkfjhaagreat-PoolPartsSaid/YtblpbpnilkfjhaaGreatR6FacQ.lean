import Derived.Test.YtblpbpnilkfjhaaGreatR6FacP
import Derived.Test.YtblpbpnilkfjhaaGreatAbLibC
set_option linter.unusedVariables false
set_option linter.unusedSimpArgs false
set_option maxRecDepth 100000
namespace Go.Ab
open Go.Proofs
theorem LV (kk:Nat) (wl:Nat) (s x:V) (H:Hp):kf (xS kk).P wl 40 40 s x H=a9 (xS kk).P wl 40 s x H:=by kernel_rfl
theorem KW (kk:Nat) (wl id g len:Nat) (x:V) (H:Hp):a9 (xS kk).P wl 40 (.own id g len) x H=(bE x H).bind fun xs=>bif bG 1 xs then apB wl 53 1 24 id g len xs H (H[id]?) else none:=(cV (P:=(xS kk).P) (t:=40) (e:=53) (by kernel_rfl) (by kernel_rfl)).trans (by kernel_rfl)
theorem NT (kk:Nat) (wl:Nat) (x:V) (H:Hp):a9 (xS kk).P wl 40 .nil x H=(bE x H).bind fun xs=>bif bG 1 xs then bif decide (xs.length*24≤70368744177664) then some (.own H.length 0 xs.length,H++[.rows 1 xs 0 true]) else none else none:=(cW (P:=(xS kk).P) (t:=40) (e:=53) (by kernel_rfl) (by kernel_rfl)).trans (by kernel_rfl)
theorem aeW (kk:Nat) (a b:Bool):aq (xS kk).P .eql 4 (.lit (.bool a)) (.lit (.bool b))=some (.lit (.bool (a==b))):=by
 cases a <;> cases b <;> kernel_rfl
theorem Sh {p:List Nat×List Nat}:lgW .nil p=p:=by
 obtain ⟨l,m⟩:=p
 rfl
end Go.Ab
