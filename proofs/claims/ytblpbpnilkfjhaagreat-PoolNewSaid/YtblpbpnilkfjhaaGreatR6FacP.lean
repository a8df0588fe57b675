import Derived.Test.YtblpbpnilkfjhaaGreatAbLibC
import Derived.Test.YtblpbpnilkfjhaaGreatAbLibB
import Derived.Test.YtblpbpnilkfjhaaGreatR6Facts
set_option linter.unusedVariables false
set_option linter.unusedSimpArgs false
set_option maxRecDepth 100000
set_option linter.unusedVariables false
namespace Go.Ab
open Go.Proofs
section
variable (kk:Nat) (c:V) (cs:List V) (H:Hp) (k:IntKind) (n:Int) (id:Nat) (g:Nat) (len:Nat) (x:V) (wl:Nat) (s:V)
theorem ad6:aR (xS kk).P 5 (c::cs)=some c:=by kernel_rfl
theorem aed:aO (xS kk).P 5=1:=by kernel_rfl
theorem acb:aR (xS kk).P 31 (c::cs)=some c:=by kernel_rfl
theorem ab2:aO (xS kk).P 31=1:=by kernel_rfl
theorem aaY:aR (xS kk).P 67 (c::cs)=some c:=by kernel_rfl
theorem acG:aO (xS kk).P 67=1:=by kernel_rfl
theorem aaA:aw (xS kk).P 31 H=some (.ptr (bo [V.nil] H).2.length 0 0 0,(bo [V.nil] H).2++[.box (bo [V.nil] H).1]):=by kernel_rfl
theorem Y6:aw (xS kk).P 52 H=some (.ptr (bo [(V.lit (Value.int .i64 (0))),(V.lit (Value.int .i64 (0))),(V.lit (Value.int .i64 (0)))] H).2.length 0 0 0,(bo [(V.lit (Value.int .i64 (0))),(V.lit (Value.int .i64 (0))),(V.lit (Value.int .i64 (0)))] H).2++[.box (bo [(V.lit (Value.int .i64 (0))),(V.lit (Value.int .i64 (0))),(V.lit (Value.int .i64 (0)))] H).1]):=by kernel_rfl
theorem Yh:aw (xS kk).P 121 H=some (.ptr (bo [(V.lit (Value.int .i64 (0))),(V.lit (Value.int .i64 (0))),(V.lit (Value.int .i64 (0))),(V.lit (Value.int .i64 (0))),(V.lit (Value.int .i64 (0))),(V.lit (Value.int .i64 (0)))] H).2.length 0 0 0,(bo [(V.lit (Value.int .i64 (0))),(V.lit (Value.int .i64 (0))),(V.lit (Value.int .i64 (0))),(V.lit (Value.int .i64 (0))),(V.lit (Value.int .i64 (0))),(V.lit (Value.int .i64 (0)))] H).2++[.box (bo [(V.lit (Value.int .i64 (0))),(V.lit (Value.int .i64 (0))),(V.lit (Value.int .i64 (0))),(V.lit (Value.int .i64 (0))),(V.lit (Value.int .i64 (0))),(V.lit (Value.int .i64 (0)))] H).1]):=by kernel_rfl
theorem abj (l:List Int):aj (xS kk).P 67 (.ro (l.map (aF .u8))) (.lit (.int k n)) H=(idx l n).map fun x => .rp ((aF .u8) x):=bN (e:=5) (by kernel_rfl) (fun x=>(by kernel_rfl:((aF .u8) x).length=aO (xS kk).P 5)) (by kernel_rfl)
theorem Y2:aj (xS kk).P 67 (.own id g len) (.lit (.int k n)) H=ixB 1 g len id n (H[id]?):=bf (P:=(xS kk).P) (e:=5) (by kernel_rfl) (by kernel_rfl)
theorem UA:a9 (xS kk).P 67 x H=(oJ x H).map fun v=>(v,H):=by kernel_rfl
theorem LM:gL (xS kk).P wl 31 31 s x H=bd (xS kk).P wl 31 s x H:=by kernel_rfl
theorem MO:bd (xS kk).P wl 31 (.own id g len) x H=(bF x H).bind fun xs=>bif bI 3 xs then apB wl 48 3 24 id g len xs H (H[id]?) else none:=(cV (P:=(xS kk).P) (t:=31) (e:=48) (by kernel_rfl) (by kernel_rfl)).trans (by kernel_rfl)
theorem KJ:bd (xS kk).P wl 31 .nil x H=(bF x H).bind fun xs=>bif bI 3 xs then bif decide (xs.length*24≤70368744177664) then some (.own H.length 0 xs.length,H++[.rows 3 xs 0 true]) else none else none:=(cZ (P:=(xS kk).P) (t:=31) (e:=48) (by kernel_rfl) (by kernel_rfl)).trans (by kernel_rfl)
theorem Y0 (c:Bool):bV (xS kk).P wl c 34 (.own id g len) none (some (.lit (.int k n))) none H=slB g len id n H (H[id]?):=kW (P:=(xS kk).P) (e:=52) (by kernel_rfl) (by kernel_rfl)
theorem Z4 (c:Bool) (l:Tye):bV (xS kk).P wl c 34 (.ro (l.map aS)) none (some (.lit (.int k n))) none H=bif decide (0≤n∧n≤l.length) then some (.ro ((l.take n.toNat).map aS),H) else none:=mV (P:=(xS kk).P) (e:=52) (by kernel_rfl) (by kernel_rfl) (fun x=>(by kernel_rfl:(aS x).length=aO (xS kk).P 52))
theorem acH (c:Bool) (l:Tye):bV (xS kk).P wl c 34 (.ro (l.map aS)) (some (.lit (.int k n))) none none H=bif decide (0≤n∧n≤l.length) then some (.ro ((l.drop n.toNat).map aS),H) else none:=mt (P:=(xS kk).P) (e:=52) (by kernel_rfl) (by kernel_rfl) (fun x=>(by kernel_rfl:(aS x).length=aO (xS kk).P 52))
theorem aaW (c:Bool) (l:Tye) (k2:IntKind) (lo:Int):bV (xS kk).P wl c 34 (.ro (l.map aS)) (some (.lit (.int k lo))) (some (.lit (.int k2 n))) none H=bif decide (0≤lo∧lo≤n∧n≤l.length) then some (.ro (((l.take n.toNat).drop lo.toNat).map aS),H) else none:=iW (P:=(xS kk).P) (e:=52) (by kernel_rfl) (by kernel_rfl) (fun x=>(by kernel_rfl:(aS x).length=aO (xS kk).P 52))
theorem aae (c:Bool):bV (xS kk).P wl c 67 (.own id g len) none (some (.lit (.int k n))) none H=slB g len id n H (H[id]?):=kW (P:=(xS kk).P) (e:=5) (by kernel_rfl) (by kernel_rfl)
theorem abi (c:Bool) (l:List Int):bV (xS kk).P wl c 67 (.ro (l.map (aF .u8))) none (some (.lit (.int k n))) none H=bif decide (0≤n∧n≤l.length) then some (.ro ((l.take n.toNat).map (aF .u8)),H) else none:=mV (P:=(xS kk).P) (e:=5) (by kernel_rfl) (by kernel_rfl) (fun x=>(by kernel_rfl:((aF .u8) x).length=aO (xS kk).P 5))
theorem Zu (c:Bool) (l:List Int):bV (xS kk).P wl c 67 (.ro (l.map (aF .u8))) (some (.lit (.int k n))) none none H=bif decide (0≤n∧n≤l.length) then some (.ro ((l.drop n.toNat).map (aF .u8)),H) else none:=mt (P:=(xS kk).P) (e:=5) (by kernel_rfl) (by kernel_rfl) (fun x=>(by kernel_rfl:((aF .u8) x).length=aO (xS kk).P 5))
theorem Y3 (c:Bool) (l:List Int) (k2:IntKind) (lo:Int):bV (xS kk).P wl c 67 (.ro (l.map (aF .u8))) (some (.lit (.int k lo))) (some (.lit (.int k2 n))) none H=bif decide (0≤lo∧lo≤n∧n≤l.length) then some (.ro (((l.take n.toNat).drop lo.toNat).map (aF .u8)),H) else none:=iW (P:=(xS kk).P) (e:=5) (by kernel_rfl) (by kernel_rfl) (fun x=>(by kernel_rfl:((aF .u8) x).length=aO (xS kk).P 5))
theorem Xw:fi (xS kk).P 5 3 (.lit (.int k n))=some (.lit (.int .i64 (IntKind.wrap .i64 n))):=by kernel_rfl
theorem SF:fi (xS kk).P 5 46 (.lit (.int k n))=some (.lit (.int .u64 (IntKind.wrap .u64 n))):=by kernel_rfl
theorem Ch (c0 c1 c2:V):a8 (xS kk).P 48 [(0,c0),(1,c1),(2,c2)]=(mS [(V.lit (Value.int .i64 (0))),(V.lit (Value.int .i64 (0))),(V.lit (Value.int .u64 (0)))] [(0,1,c0),(1,1,c1),(2,1,c2)]).map .agg:=by kernel_rfl
theorem Mv (c0:V):a8 (xS kk).P 101 [(0,c0)]=(mS [(V.lit (Value.int .i64 (0))),V.nil] [(0,1,c0)]).map .agg:=by kernel_rfl
theorem QS (l:List (Nat×V)):aA (xS kk).P wl 24 1 l H=(ep wl 2 l [[(V.lit (Value.int .i64 (0))),V.ro []]] H).bind fun p=>some (.own p.2.length 0 1,p.2++[.rows 2 p.1 0 true]):=by kernel_rfl
theorem Tc (l:List (Nat×V)):aA (xS kk).P wl 40 1 l H=(ep wl 1 l [[V.ro []]] H).bind fun p=>some (.own p.2.length 0 1,p.2++[.rows 1 p.1 0 true]):=by kernel_rfl
theorem W9 (row off:Nat):aj (xS kk).P 121 (.ptr id g row off) (.lit (.int k n)) H=arC id g row [(0,off),(1,off+1),(2,off+2),(3,off+3),(4,off+4),(5,off+5)] n:=Ep (e:=3) (len:=6) (sz:=1) (by kernel_rfl) (by kernel_rfl) (by decide)
end
def adE:=PLift.up (aI (aI (aI (aI @ad6 (aI @aed @acb)) (aI (aI @ab2 @aaY) (aI @acG @aaA))) (aI (aI (aI @Y6 @Yh) (aI @abj @Y2)) (aI (aI @UA @LM) (aI @MO @KJ)))) (aI (aI (aI @Y0 (aI @Z4 @acH)) (aI (aI @aaW @aae) (aI @abi @Zu))) (aI (aI (aI @Y3 @Xw) (aI @SF @Ch)) (aI (aI @Mv @QS) (aI @Tc @W9)))))
theorem xFP:type_of% adE.down:=adE.down
end Go.Ab
