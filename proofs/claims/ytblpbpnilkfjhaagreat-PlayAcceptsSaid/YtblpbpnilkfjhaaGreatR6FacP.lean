import Derived.Test.YtblpbpnilkfjhaaGreatAbLibC
import Derived.Test.YtblpbpnilkfjhaaGreatAbLibB
import Derived.Test.YtblpbpnilkfjhaaGreatR6Facts
set_option linter.unusedVariables false
set_option linter.unusedSimpArgs false
set_option maxRecDepth 100000
set_option linter.unusedVariables false
namespace Go.Ab
open Go.Proofs
section
variable (kk:Nat) (c:V) (cs:List V) (H:Hp) (k:IntKind) (n:Int) (id:Nat) (g:Nat) (len:Nat) (x:V) (wl:Nat) (s:V)
theorem aq3:aS (xS kk).P 5 (c::cs)=some c:=by kernel_rfl
theorem apQ:aR (xS kk).P 5=1:=by kernel_rfl
theorem akB:aS (xS kk).P 31 (c::cs)=some c:=by kernel_rfl
theorem alE:aR (xS kk).P 31=1:=by kernel_rfl
theorem ajR:aS (xS kk).P 67 (c::cs)=some c:=by kernel_rfl
theorem aim:aR (xS kk).P 67=1:=by kernel_rfl
theorem am0:cI (xS kk).P 31 H=some (.ptr (bG [V.nil] H).2.length 0 0 0,(bG [V.nil] H).2++[.box (bG [V.nil] H).1]):=by kernel_rfl
theorem akv:cI (xS kk).P 52 H=some (.ptr (bG [(V.lit (Value.int .i64 (0))),(V.lit (Value.int .i64 (0))),(V.lit (Value.int .i64 (0)))] H).2.length 0 0 0,(bG [(V.lit (Value.int .i64 (0))),(V.lit (Value.int .i64 (0))),(V.lit (Value.int .i64 (0)))] H).2++[.box (bG [(V.lit (Value.int .i64 (0))),(V.lit (Value.int .i64 (0))),(V.lit (Value.int .i64 (0)))] H).1]):=by kernel_rfl
theorem ado:cI (xS kk).P 121 H=some (.ptr (bG [(V.lit (Value.int .i64 (0))),(V.lit (Value.int .i64 (0))),(V.lit (Value.int .i64 (0))),(V.lit (Value.int .i64 (0))),(V.lit (Value.int .i64 (0))),(V.lit (Value.int .i64 (0)))] H).2.length 0 0 0,(bG [(V.lit (Value.int .i64 (0))),(V.lit (Value.int .i64 (0))),(V.lit (Value.int .i64 (0))),(V.lit (Value.int .i64 (0))),(V.lit (Value.int .i64 (0))),(V.lit (Value.int .i64 (0)))] H).2++[.box (bG [(V.lit (Value.int .i64 (0))),(V.lit (Value.int .i64 (0))),(V.lit (Value.int .i64 (0))),(V.lit (Value.int .i64 (0))),(V.lit (Value.int .i64 (0))),(V.lit (Value.int .i64 (0)))] H).1]):=by kernel_rfl
theorem amf (l:List Int):aA (xS kk).P 67 (.ro (l.map (av .u8))) (.lit (.int k n)) H=(idx l n).map fun x => .rp ((av .u8) x):=cd (e:=5) (by kernel_rfl) (fun x=>(by kernel_rfl:((av .u8) x).length=aR (xS kk).P 5)) (by kernel_rfl)
theorem anC:aA (xS kk).P 67 (.own id g len) (.lit (.int k n)) H=ixB 1 g len id n (H[id]?):=bf (P:=(xS kk).P) (e:=5) (by kernel_rfl) (by kernel_rfl)
theorem afY:rc (xS kk).P 67 x H=(AM x H).map fun v=>(v,H):=by kernel_rfl
theorem V8:Ax (xS kk).P wl 31 31 s x H=bA (xS kk).P wl 31 s x H:=by kernel_rfl
theorem Ve:bA (xS kk).P wl 31 (.own id g len) x H=(bZ x H).bind fun xs=>bif cr 3 xs then apB wl 48 3 24 id g len xs H (H[id]?) else none:=(eM (P:=(xS kk).P) (t:=31) (e:=48) (by kernel_rfl) (by kernel_rfl)).trans (by kernel_rfl)
theorem Sp:bA (xS kk).P wl 31 .nil x H=(bZ x H).bind fun xs=>bif cr 3 xs then bif decide (xs.length*24≤70368744177664) then some (.own H.length 0 xs.length,H++[.rows 3 xs 0 true]) else none else none:=(eQ (P:=(xS kk).P) (t:=31) (e:=48) (by kernel_rfl) (by kernel_rfl)).trans (by kernel_rfl)
theorem akN (c:Bool):cy (xS kk).P wl c 34 (.own id g len) none (some (.lit (.int k n))) none H=slB g len id n H (H[id]?):=pA (P:=(xS kk).P) (e:=52) (by kernel_rfl) (by kernel_rfl)
theorem aop (c:Bool) (l:Tye):cy (xS kk).P wl c 34 (.ro (l.map az)) none (some (.lit (.int k n))) none H=bif decide (0≤n∧n≤l.length) then some (.ro ((l.take n.toNat).map az),H) else none:=uB (P:=(xS kk).P) (e:=52) (by kernel_rfl) (by kernel_rfl) (fun x=>(by kernel_rfl:(az x).length=aR (xS kk).P 52))
theorem ama (c:Bool) (l:Tye):cy (xS kk).P wl c 34 (.ro (l.map az)) (some (.lit (.int k n))) none none H=bif decide (0≤n∧n≤l.length) then some (.ro ((l.drop n.toNat).map az),H) else none:=uk (P:=(xS kk).P) (e:=52) (by kernel_rfl) (by kernel_rfl) (fun x=>(by kernel_rfl:(az x).length=aR (xS kk).P 52))
theorem al5 (c:Bool) (l:Tye) (k2:IntKind) (lo:Int):cy (xS kk).P wl c 34 (.ro (l.map az)) (some (.lit (.int k lo))) (some (.lit (.int k2 n))) none H=bif decide (0≤lo∧lo≤n∧n≤l.length) then some (.ro (((l.take n.toNat).drop lo.toNat).map az),H) else none:=oc (P:=(xS kk).P) (e:=52) (by kernel_rfl) (by kernel_rfl) (fun x=>(by kernel_rfl:(az x).length=aR (xS kk).P 52))
theorem ak5 (c:Bool):cy (xS kk).P wl c 67 (.own id g len) none (some (.lit (.int k n))) none H=slB g len id n H (H[id]?):=pA (P:=(xS kk).P) (e:=5) (by kernel_rfl) (by kernel_rfl)
theorem alh (c:Bool) (l:List Int):cy (xS kk).P wl c 67 (.ro (l.map (av .u8))) none (some (.lit (.int k n))) none H=bif decide (0≤n∧n≤l.length) then some (.ro ((l.take n.toNat).map (av .u8)),H) else none:=uB (P:=(xS kk).P) (e:=5) (by kernel_rfl) (by kernel_rfl) (fun x=>(by kernel_rfl:((av .u8) x).length=aR (xS kk).P 5))
theorem ali (c:Bool) (l:List Int):cy (xS kk).P wl c 67 (.ro (l.map (av .u8))) (some (.lit (.int k n))) none none H=bif decide (0≤n∧n≤l.length) then some (.ro ((l.drop n.toNat).map (av .u8)),H) else none:=uk (P:=(xS kk).P) (e:=5) (by kernel_rfl) (by kernel_rfl) (fun x=>(by kernel_rfl:((av .u8) x).length=aR (xS kk).P 5))
theorem ale (c:Bool) (l:List Int) (k2:IntKind) (lo:Int):cy (xS kk).P wl c 67 (.ro (l.map (av .u8))) (some (.lit (.int k lo))) (some (.lit (.int k2 n))) none H=bif decide (0≤lo∧lo≤n∧n≤l.length) then some (.ro (((l.take n.toNat).drop lo.toNat).map (av .u8)),H) else none:=oc (P:=(xS kk).P) (e:=5) (by kernel_rfl) (by kernel_rfl) (fun x=>(by kernel_rfl:((av .u8) x).length=aR (xS kk).P 5))
theorem aeV:C5 (xS kk).P 5 3 (.lit (.int k n))=some (.lit (.int .i64 (IntKind.wrap .i64 n))):=by kernel_rfl
theorem abq:C5 (xS kk).P 5 46 (.lit (.int k n))=some (.lit (.int .u64 (IntKind.wrap .u64 n))):=by kernel_rfl
theorem Jp (c0 c1 c2:V):dn (xS kk).P 48 [(0,c0),(1,c1),(2,c2)]=(uc [(V.lit (Value.int .i64 (0))),(V.lit (Value.int .i64 (0))),(V.lit (Value.int .u64 (0)))] [(0,1,c0),(1,1,c1),(2,1,c2)]).map .agg:=by kernel_rfl
theorem TU (c0:V):dn (xS kk).P 101 [(0,c0)]=(uc [(V.lit (Value.int .i64 (0))),V.nil] [(0,1,c0)]).map .agg:=by kernel_rfl
theorem acF (l:List (Nat×V)):aL (xS kk).P wl 24 1 l H=(gf wl 2 l [[(V.lit (Value.int .i64 (0))),V.ro []]] H).bind fun p=>some (.own p.2.length 0 1,p.2++[.rows 2 p.1 0 true]):=by kernel_rfl
theorem YF (l:List (Nat×V)):aL (xS kk).P wl 40 1 l H=(gf wl 1 l [[V.ro []]] H).bind fun p=>some (.own p.2.length 0 1,p.2++[.rows 1 p.1 0 true]):=by kernel_rfl
theorem adn (row off:Nat):aA (xS kk).P 121 (.ptr id g row off) (.lit (.int k n)) H=arC id g row [(0,off),(1,off+1),(2,off+2),(3,off+3),(4,off+4),(5,off+5)] n:=Ml (e:=3) (len:=6) (sz:=1) (by kernel_rfl) (by kernel_rfl) (by decide)
end
def apn:=PLift.up (aI (aI (aI (aI @aq3 (aI @apQ @akB)) (aI (aI @alE @ajR) (aI @aim @am0))) (aI (aI (aI @akv @ado) (aI @amf @anC)) (aI (aI @afY @V8) (aI @Ve @Sp)))) (aI (aI (aI @akN (aI @aop @ama)) (aI (aI @al5 @ak5) (aI @alh @ali))) (aI (aI (aI @ale @aeV) (aI @abq @Jp)) (aI (aI @TU @acF) (aI @YF @adn)))))
theorem xFP:type_of% apn.down:=apn.down
end Go.Ab
