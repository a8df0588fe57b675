import Derived.Test.YtblpbpnilkfjhaaGreatR6FacP
import Derived.Test.YtblpbpnilkfjhaaGreatAbLibC
set_option linter.unusedVariables false
set_option linter.unusedSimpArgs false
set_option maxRecDepth 100000
set_option linter.unusedVariables false
namespace Go.Ab
open Go.Proofs
theorem NX {P:Program} {wl:Nat} {c:Bool} {t e:TypeId} {α:Type} {enc:α→List V} {l:List α} {k k' k2:IntKind} {lo n m:Int} {H:Hp} (he:mF P t=some e) (hz:(aR P e !=0)=true) (h:∀ x,(enc x).length=aR P e) :
  cy P wl c t (.ro (l.map enc)) (some (.lit (.int k lo))) (some (.lit (.int k' n))) (some (.lit (.int k2 m))) H=bif decide (0≤lo∧lo≤n∧n≤m∧m≤l.length) then some (.ro (((l.take n.toNat).drop lo.toNat).map enc),H) else none:=by
 have hz':aR P e≠0:=by simpa using hz
 unfold cy
 simp only [he,bnd]
 by_cases h0:0≤lo∧lo≤n∧n≤m∧m≤l.length
 ·have h1:0≤lo:=h0.1
  have h2:0≤n:=by omega
  have h3:0≤m:=by omega
  have h4:lo.toNat≤n.toNat:=by omega
  have h5:n.toNat≤m.toNat:=by omega
  have h6:m.toNat≤l.length:=by omega
  simp [h0,h1,h2,h3,h4,h5,h6,hz',ER h,List.map_take,List.map_drop]
  omega
 ·rw [decide_eq_false h0]
  by_cases h1:0≤lo
  ·by_cases h2:0≤n
   ·by_cases h3:0≤m
    ·have:¬ (lo.toNat≤n.toNat∧n.toNat≤m.toNat∧m.toNat≤l.length):=by omega
     simp only [h1,h2,h3,if_true,Option.bind_some,List.length_map,cond_false]
     rw [if_neg (fun hh=>this ⟨hh.2.1,hh.2.2.1,hh.2.2.2.1⟩)]
    ·simp [h1,h2,h3]
   ·simp [h1,h2]
  ·simp [h1]
theorem r6 (kk:Nat) (wl:Nat) (c:Bool) (l:List Int) (k k2 k3:IntKind) (lo n m:Int) (H:Hp):cy (xS kk).P wl c 67 (.ro (l.map (av .u8))) (some (.lit (.int k lo))) (some (.lit (.int k2 n))) (some (.lit (.int k3 m))) H=bif decide (0≤lo∧lo≤n∧n≤m∧m≤l.length) then some (.ro (((l.take n.toNat).drop lo.toNat).map (av .u8)),H) else none:=NX (e:=5) (by kernel_rfl) (by kernel_rfl) (fun _=>by kernel_rfl)
end Go.Ab
