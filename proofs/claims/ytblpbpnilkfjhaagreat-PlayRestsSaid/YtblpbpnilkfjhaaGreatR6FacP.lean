import Derived.Test.YtblpbpnilkfjhaaGreatAbLibC
import Derived.Test.YtblpbpnilkfjhaaGreatAbLibB
import Derived.Test.YtblpbpnilkfjhaaGreatR6Facts
set_option linter.unusedVariables false
set_option linter.unusedSimpArgs false
set_option maxRecDepth 100000
set_option linter.unusedVariables false
namespace Go.Ab
open Go.Proofs
section
variable (kk:Nat) (c:V) (cs:List V) (H:Hp) (k:IntKind) (n:Int) (id:Nat) (g:Nat) (len:Nat) (x:V) (wl:Nat) (s:V)
theorem akh:aX (xS kk).P 5 (c::cs)=some c:=by kernel_rfl
theorem akM:aW (xS kk).P 5=1:=by kernel_rfl
theorem af1:aX (xS kk).P 31 (c::cs)=some c:=by kernel_rfl
theorem agu:aW (xS kk).P 31=1:=by kernel_rfl
theorem af4:aX (xS kk).P 67 (c::cs)=some c:=by kernel_rfl
theorem ahH:aW (xS kk).P 67=1:=by kernel_rfl
theorem afw:av (xS kk).P 31 H=some (.ptr (bH [V.nil] H).2.length 0 0 0,(bH [V.nil] H).2++[.box (bH [V.nil] H).1]):=by kernel_rfl
theorem ah7:av (xS kk).P 52 H=some (.ptr (bH [(V.lit (Value.int .i64 (0))),(V.lit (Value.int .i64 (0))),(V.lit (Value.int .i64 (0)))] H).2.length 0 0 0,(bH [(V.lit (Value.int .i64 (0))),(V.lit (Value.int .i64 (0))),(V.lit (Value.int .i64 (0)))] H).2++[.box (bH [(V.lit (Value.int .i64 (0))),(V.lit (Value.int .i64 (0))),(V.lit (Value.int .i64 (0)))] H).1]):=by kernel_rfl
theorem adI:av (xS kk).P 121 H=some (.ptr (bH [(V.lit (Value.int .i64 (0))),(V.lit (Value.int .i64 (0))),(V.lit (Value.int .i64 (0))),(V.lit (Value.int .i64 (0))),(V.lit (Value.int .i64 (0))),(V.lit (Value.int .i64 (0)))] H).2.length 0 0 0,(bH [(V.lit (Value.int .i64 (0))),(V.lit (Value.int .i64 (0))),(V.lit (Value.int .i64 (0))),(V.lit (Value.int .i64 (0))),(V.lit (Value.int .i64 (0))),(V.lit (Value.int .i64 (0)))] H).2++[.box (bH [(V.lit (Value.int .i64 (0))),(V.lit (Value.int .i64 (0))),(V.lit (Value.int .i64 (0))),(V.lit (Value.int .i64 (0))),(V.lit (Value.int .i64 (0))),(V.lit (Value.int .i64 (0)))] H).1]):=by kernel_rfl
theorem agc (l:List Int):ai (xS kk).P 67 (.ro (l.map (aF .u8))) (.lit (.int k n)) H=(idx l n).map fun x => .rp ((aF .u8) x):=co (e:=5) (by kernel_rfl) (fun x=>(by kernel_rfl:((aF .u8) x).length=aW (xS kk).P 5)) (by kernel_rfl)
theorem aiJ:ai (xS kk).P 67 (.own id g len) (.lit (.int k n)) H=ixB 1 g len id n (H[id]?):=bo (P:=(xS kk).P) (e:=5) (by kernel_rfl) (by kernel_rfl)
theorem ady:a7 (xS kk).P 67 x H=(uj x H).map fun v=>(v,H):=by kernel_rfl
theorem QE:kQ (xS kk).P wl 31 31 s x H=bv (xS kk).P wl 31 s x H:=by kernel_rfl
theorem QU:bv (xS kk).P wl 31 (.own id g len) x H=(b9 x H).bind fun xs=>bif cg 3 xs then apB wl 48 3 24 id g len xs H (H[id]?) else none:=(en (P:=(xS kk).P) (t:=31) (e:=48) (by kernel_rfl) (by kernel_rfl)).trans (by kernel_rfl)
theorem RC:bv (xS kk).P wl 31 .nil x H=(b9 x H).bind fun xs=>bif cg 3 xs then bif decide (xs.length*24≤70368744177664) then some (.own H.length 0 xs.length,H++[.rows 3 xs 0 true]) else none else none:=(er (P:=(xS kk).P) (t:=31) (e:=48) (by kernel_rfl) (by kernel_rfl)).trans (by kernel_rfl)
theorem aiw (c:Bool):b8 (xS kk).P wl c 34 (.own id g len) none (some (.lit (.int k n))) none H=slB g len id n H (H[id]?):=nc (P:=(xS kk).P) (e:=52) (by kernel_rfl) (by kernel_rfl)
theorem aiB (c:Bool) (l:Tye):b8 (xS kk).P wl c 34 (.ro (l.map aJ)) none (some (.lit (.int k n))) none H=bif decide (0≤n∧n≤l.length) then some (.ro ((l.take n.toNat).map aJ),H) else none:=oA (P:=(xS kk).P) (e:=52) (by kernel_rfl) (by kernel_rfl) (fun x=>(by kernel_rfl:(aJ x).length=aW (xS kk).P 52))
theorem aim (c:Bool) (l:Tye):b8 (xS kk).P wl c 34 (.ro (l.map aJ)) (some (.lit (.int k n))) none none H=bif decide (0≤n∧n≤l.length) then some (.ro ((l.drop n.toNat).map aJ),H) else none:=o8 (P:=(xS kk).P) (e:=52) (by kernel_rfl) (by kernel_rfl) (fun x=>(by kernel_rfl:(aJ x).length=aW (xS kk).P 52))
theorem afc (c:Bool) (l:Tye) (k2:IntKind) (lo:Int):b8 (xS kk).P wl c 34 (.ro (l.map aJ)) (some (.lit (.int k lo))) (some (.lit (.int k2 n))) none H=bif decide (0≤lo∧lo≤n∧n≤l.length) then some (.ro (((l.take n.toNat).drop lo.toNat).map aJ),H) else none:=lX (P:=(xS kk).P) (e:=52) (by kernel_rfl) (by kernel_rfl) (fun x=>(by kernel_rfl:(aJ x).length=aW (xS kk).P 52))
theorem aiP (c:Bool):b8 (xS kk).P wl c 67 (.own id g len) none (some (.lit (.int k n))) none H=slB g len id n H (H[id]?):=nc (P:=(xS kk).P) (e:=5) (by kernel_rfl) (by kernel_rfl)
theorem ag6 (c:Bool) (l:List Int):b8 (xS kk).P wl c 67 (.ro (l.map (aF .u8))) none (some (.lit (.int k n))) none H=bif decide (0≤n∧n≤l.length) then some (.ro ((l.take n.toNat).map (aF .u8)),H) else none:=oA (P:=(xS kk).P) (e:=5) (by kernel_rfl) (by kernel_rfl) (fun x=>(by kernel_rfl:((aF .u8) x).length=aW (xS kk).P 5))
theorem agH (c:Bool) (l:List Int):b8 (xS kk).P wl c 67 (.ro (l.map (aF .u8))) (some (.lit (.int k n))) none none H=bif decide (0≤n∧n≤l.length) then some (.ro ((l.drop n.toNat).map (aF .u8)),H) else none:=o8 (P:=(xS kk).P) (e:=5) (by kernel_rfl) (by kernel_rfl) (fun x=>(by kernel_rfl:((aF .u8) x).length=aW (xS kk).P 5))
theorem agE (c:Bool) (l:List Int) (k2:IntKind) (lo:Int):b8 (xS kk).P wl c 67 (.ro (l.map (aF .u8))) (some (.lit (.int k lo))) (some (.lit (.int k2 n))) none H=bif decide (0≤lo∧lo≤n∧n≤l.length) then some (.ro (((l.take n.toNat).drop lo.toNat).map (aF .u8)),H) else none:=lX (P:=(xS kk).P) (e:=5) (by kernel_rfl) (by kernel_rfl) (fun x=>(by kernel_rfl:((aF .u8) x).length=aW (xS kk).P 5))
theorem Z1:fY (xS kk).P 5 3 (.lit (.int k n))=some (.lit (.int .i64 (IntKind.wrap .i64 n))):=by kernel_rfl
theorem Xr:fY (xS kk).P 5 46 (.lit (.int k n))=some (.lit (.int .u64 (IntKind.wrap .u64 n))):=by kernel_rfl
theorem F4 (c0 c1 c2:V):bf (xS kk).P 48 [(0,c0),(1,c1),(2,c2)]=(oK [(V.lit (Value.int .i64 (0))),(V.lit (Value.int .i64 (0))),(V.lit (Value.int .u64 (0)))] [(0,1,c0),(1,1,c1),(2,1,c2)]).map .agg:=by kernel_rfl
theorem Sd (c0:V):bf (xS kk).P 101 [(0,c0)]=(oK [(V.lit (Value.int .i64 (0))),V.nil] [(0,1,c0)]).map .agg:=by kernel_rfl
theorem V3 (l:List (Nat×V)):aB (xS kk).P wl 24 1 l H=(fI wl 2 l [[(V.lit (Value.int .i64 (0))),V.ro []]] H).bind fun p=>some (.own p.2.length 0 1,p.2++[.rows 2 p.1 0 true]):=by kernel_rfl
theorem Xa (l:List (Nat×V)):aB (xS kk).P wl 40 1 l H=(fI wl 1 l [[V.ro []]] H).bind fun p=>some (.own p.2.length 0 1,p.2++[.rows 1 p.1 0 true]):=by kernel_rfl
theorem acA (row off:Nat):ai (xS kk).P 121 (.ptr id g row off) (.lit (.int k n)) H=arC id g row [(0,off),(1,off+1),(2,off+2),(3,off+3),(4,off+4),(5,off+5)] n:=H0 (e:=3) (len:=6) (sz:=1) (by kernel_rfl) (by kernel_rfl) (by decide)
end
def ajL:=PLift.up (And.intro (And.intro (And.intro (And.intro (@akh) (And.intro (@akM) (@af1))) (And.intro (And.intro (@agu) (@af4)) (And.intro (@ahH) (@afw)))) (And.intro (And.intro (And.intro (@ah7) (@adI)) (And.intro (@agc) (@aiJ))) (And.intro (And.intro (@ady) (@QE)) (And.intro (@QU) (@RC))))) (And.intro (And.intro (And.intro (@aiw) (And.intro (@aiB) (@aim))) (And.intro (And.intro (@afc) (@aiP)) (And.intro (@ag6) (@agH)))) (And.intro (And.intro (And.intro (@agE) (@Z1)) (And.intro (@Xr) (@F4))) (And.intro (And.intro (@Sd) (@V3)) (And.intro (@Xa) (@acA))))))
theorem xFP:type_of% ajL.down:=ajL.down
end Go.Ab
