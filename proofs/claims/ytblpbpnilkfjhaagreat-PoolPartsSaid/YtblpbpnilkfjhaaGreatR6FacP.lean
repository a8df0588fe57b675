import Derived.Test.YtblpbpnilkfjhaaGreatAbLibC
import Derived.Test.YtblpbpnilkfjhaaGreatAbLibB
import Derived.Test.YtblpbpnilkfjhaaGreatR6Facts
set_option linter.unusedVariables false
set_option linter.unusedSimpArgs false
set_option maxRecDepth 100000
set_option linter.unusedVariables false
namespace Go.Ab
open Go.Proofs
theorem aeU (kk:Nat) (c:V) (cs:List V):aP (xS kk).P 5 (c::cs)=some c:=by kernel_rfl
theorem aeT (kk:Nat):aM (xS kk).P 5=1:=by kernel_rfl
theorem acZ (kk:Nat) (c:V) (cs:List V):aP (xS kk).P 31 (c::cs)=some c:=by kernel_rfl
theorem ab2 (kk:Nat):aM (xS kk).P 31=1:=by kernel_rfl
theorem ab8 (kk:Nat) (c:V) (cs:List V):aP (xS kk).P 67 (c::cs)=some c:=by kernel_rfl
theorem aci (kk:Nat):aM (xS kk).P 67=1:=by kernel_rfl
theorem abQ (kk:Nat) (H:Hp):ar (xS kk).P 31 H=some (.ptr (bx [V.nil] H).2.length 0 0 0,(bx [V.nil] H).2++[.box (bx [V.nil] H).1]):=by kernel_rfl
theorem acz (kk:Nat) (H:Hp):ar (xS kk).P 52 H=some (.ptr (bx [(V.lit (Value.int .i64 (0))),(V.lit (Value.int .i64 (0))),(V.lit (Value.int .i64 (0)))] H).2.length 0 0 0,(bx [(V.lit (Value.int .i64 (0))),(V.lit (Value.int .i64 (0))),(V.lit (Value.int .i64 (0)))] H).2++[.box (bx [(V.lit (Value.int .i64 (0))),(V.lit (Value.int .i64 (0))),(V.lit (Value.int .i64 (0)))] H).1]):=by kernel_rfl
theorem Vt (kk:Nat) (H:Hp):ar (xS kk).P 121 H=some (.ptr (bx [(V.lit (Value.int .i64 (0))),(V.lit (Value.int .i64 (0))),(V.lit (Value.int .i64 (0))),(V.lit (Value.int .i64 (0))),(V.lit (Value.int .i64 (0))),(V.lit (Value.int .i64 (0)))] H).2.length 0 0 0,(bx [(V.lit (Value.int .i64 (0))),(V.lit (Value.int .i64 (0))),(V.lit (Value.int .i64 (0))),(V.lit (Value.int .i64 (0))),(V.lit (Value.int .i64 (0))),(V.lit (Value.int .i64 (0)))] H).2++[.box (bx [(V.lit (Value.int .i64 (0))),(V.lit (Value.int .i64 (0))),(V.lit (Value.int .i64 (0))),(V.lit (Value.int .i64 (0))),(V.lit (Value.int .i64 (0))),(V.lit (Value.int .i64 (0)))] H).1]):=by kernel_rfl
theorem adc (kk:Nat) (l:List Int) (k:IntKind) (n:Int) (H:Hp):ai (xS kk).P 67 (.ro (l.map (aQ .u8))) (.lit (.int k n)) H=(idx l n).map fun x => .rp ((aQ .u8) x):=bN (e:=5) (by kernel_rfl) (fun x=>(by kernel_rfl:((aQ .u8) x).length=aM (xS kk).P 5)) (by kernel_rfl)
theorem acL (kk:Nat) (id g len:Nat) (k:IntKind) (n:Int) (H:Hp):ai (xS kk).P 67 (.own id g len) (.lit (.int k n)) H=ixB 1 g len id n (H[id]?):=bd (P:=(xS kk).P) (e:=5) (by kernel_rfl) (by kernel_rfl)
theorem YZ (kk:Nat) (x:V) (H:Hp):aX (xS kk).P 67 x H=(oH x H).map fun v=>(v,H):=by kernel_rfl
theorem K2 (kk:Nat) (wl:Nat) (s x:V) (H:Hp):kf (xS kk).P wl 31 31 s x H=a9 (xS kk).P wl 31 s x H:=by kernel_rfl
theorem KE (kk:Nat) (wl id g len:Nat) (x:V) (H:Hp):a9 (xS kk).P wl 31 (.own id g len) x H=(bE x H).bind fun xs=>bif bG 3 xs then apB wl 48 3 24 id g len xs H (H[id]?) else none:=(cV (P:=(xS kk).P) (t:=31) (e:=48) (by kernel_rfl) (by kernel_rfl)).trans (by kernel_rfl)
theorem M9 (kk:Nat) (wl:Nat) (x:V) (H:Hp):a9 (xS kk).P wl 31 .nil x H=(bE x H).bind fun xs=>bif bG 3 xs then bif decide (xs.length*24≤70368744177664) then some (.own H.length 0 xs.length,H++[.rows 3 xs 0 true]) else none else none:=(cW (P:=(xS kk).P) (t:=31) (e:=48) (by kernel_rfl) (by kernel_rfl)).trans (by kernel_rfl)
theorem acj (kk:Nat) (wl:Nat) (c:Bool) (id g len:Nat) (k:IntKind) (n:Int) (H:Hp):bP (xS kk).P wl c 34 (.own id g len) none (some (.lit (.int k n))) none H=slB g len id n H (H[id]?):=ln (P:=(xS kk).P) (e:=52) (by kernel_rfl) (by kernel_rfl)
theorem abw (kk:Nat) (wl:Nat) (c:Bool) (l:Tye) (k:IntKind) (n:Int) (H:Hp):bP (xS kk).P wl c 34 (.ro (l.map aE)) none (some (.lit (.int k n))) none H=bif decide (0≤n∧n≤l.length) then some (.ro ((l.take n.toNat).map aE),H) else none:=mN (P:=(xS kk).P) (e:=52) (by kernel_rfl) (by kernel_rfl) (fun x=>(by kernel_rfl:(aE x).length=aM (xS kk).P 52))
theorem adg (kk:Nat) (wl:Nat) (c:Bool) (l:Tye) (k:IntKind) (n:Int) (H:Hp):bP (xS kk).P wl c 34 (.ro (l.map aE)) (some (.lit (.int k n))) none none H=bif decide (0≤n∧n≤l.length) then some (.ro ((l.drop n.toNat).map aE),H) else none:=mY (P:=(xS kk).P) (e:=52) (by kernel_rfl) (by kernel_rfl) (fun x=>(by kernel_rfl:(aE x).length=aM (xS kk).P 52))
theorem acI (kk:Nat) (wl:Nat) (c:Bool) (l:Tye) (k k2:IntKind) (lo n:Int) (H:Hp):bP (xS kk).P wl c 34 (.ro (l.map aE)) (some (.lit (.int k lo))) (some (.lit (.int k2 n))) none H=bif decide (0≤lo∧lo≤n∧n≤l.length) then some (.ro (((l.take n.toNat).drop lo.toNat).map aE),H) else none:=kr (P:=(xS kk).P) (e:=52) (by kernel_rfl) (by kernel_rfl) (fun x=>(by kernel_rfl:(aE x).length=aM (xS kk).P 52))
theorem ZW (kk:Nat) (wl:Nat) (c:Bool) (id g len:Nat) (k:IntKind) (n:Int) (H:Hp):bP (xS kk).P wl c 67 (.own id g len) none (some (.lit (.int k n))) none H=slB g len id n H (H[id]?):=ln (P:=(xS kk).P) (e:=5) (by kernel_rfl) (by kernel_rfl)
theorem abl (kk:Nat) (wl:Nat) (c:Bool) (l:List Int) (k:IntKind) (n:Int) (H:Hp):bP (xS kk).P wl c 67 (.ro (l.map (aQ .u8))) none (some (.lit (.int k n))) none H=bif decide (0≤n∧n≤l.length) then some (.ro ((l.take n.toNat).map (aQ .u8)),H) else none:=mN (P:=(xS kk).P) (e:=5) (by kernel_rfl) (by kernel_rfl) (fun x=>(by kernel_rfl:((aQ .u8) x).length=aM (xS kk).P 5))
theorem ab7 (kk:Nat) (wl:Nat) (c:Bool) (l:List Int) (k:IntKind) (n:Int) (H:Hp):bP (xS kk).P wl c 67 (.ro (l.map (aQ .u8))) (some (.lit (.int k n))) none none H=bif decide (0≤n∧n≤l.length) then some (.ro ((l.drop n.toNat).map (aQ .u8)),H) else none:=mY (P:=(xS kk).P) (e:=5) (by kernel_rfl) (by kernel_rfl) (fun x=>(by kernel_rfl:((aQ .u8) x).length=aM (xS kk).P 5))
theorem abO (kk:Nat) (wl:Nat) (c:Bool) (l:List Int) (k k2:IntKind) (lo n:Int) (H:Hp):bP (xS kk).P wl c 67 (.ro (l.map (aQ .u8))) (some (.lit (.int k lo))) (some (.lit (.int k2 n))) none H=bif decide (0≤lo∧lo≤n∧n≤l.length) then some (.ro (((l.take n.toNat).drop lo.toNat).map (aQ .u8)),H) else none:=kr (P:=(xS kk).P) (e:=5) (by kernel_rfl) (by kernel_rfl) (fun x=>(by kernel_rfl:((aQ .u8) x).length=aM (xS kk).P 5))
theorem XS (kk:Nat) (k:IntKind) (n:Int):fj (xS kk).P 5 3 (.lit (.int k n))=some (.lit (.int .i64 (IntKind.wrap .i64 n))):=by kernel_rfl
theorem Ud (kk:Nat) (k:IntKind) (n:Int):fj (xS kk).P 5 46 (.lit (.int k n))=some (.lit (.int .u64 (IntKind.wrap .u64 n))):=by kernel_rfl
theorem CQ (kk:Nat) (c0 c1 c2:V):bh (xS kk).P 48 [(0,c0),(1,c1),(2,c2)]=(mO [(V.lit (Value.int .i64 (0))),(V.lit (Value.int .i64 (0))),(V.lit (Value.int .u64 (0)))] [(0,1,c0),(1,1,c1),(2,1,c2)]).map .agg:=by kernel_rfl
theorem KP (kk:Nat) (c0:V):bh (xS kk).P 101 [(0,c0)]=(mO [(V.lit (Value.int .i64 (0))),V.nil] [(0,1,c0)]).map .agg:=by kernel_rfl
theorem TL (kk:Nat) (wl:Nat) (l:List (Nat×V)) (H:Hp):aB (xS kk).P wl 24 1 l H=(ej wl 2 l [[(V.lit (Value.int .i64 (0))),V.ro []]] H).bind fun p=>some (.own p.2.length 0 1,p.2++[.rows 2 p.1 0 true]):=by kernel_rfl
theorem Qs (kk:Nat) (wl:Nat) (l:List (Nat×V)) (H:Hp):aB (xS kk).P wl 40 1 l H=(ej wl 1 l [[V.ro []]] H).bind fun p=>some (.own p.2.length 0 1,p.2++[.rows 1 p.1 0 true]):=by kernel_rfl
theorem Zi (kk:Nat) (id g row off:Nat) (k:IntKind) (n:Int) (H:Hp):ai (xS kk).P 121 (.ptr id g row off) (.lit (.int k n)) H=arC id g row [(0,off),(1,off+1),(2,off+2),(3,off+3),(4,off+4),(5,off+5)] n:=E0 (e:=3) (len:=6) (sz:=1) (by kernel_rfl) (by kernel_rfl) (by decide)
def adY:=PLift.up (And.intro (And.intro (And.intro (And.intro (@aeU) (And.intro (@aeT) (@acZ))) (And.intro (And.intro (@ab2) (@ab8)) (And.intro (@aci) (@abQ)))) (And.intro (And.intro (And.intro (@acz) (@Vt)) (And.intro (@adc) (@acL))) (And.intro (And.intro (@YZ) (@K2)) (And.intro (@KE) (@M9))))) (And.intro (And.intro (And.intro (@acj) (And.intro (@abw) (@adg))) (And.intro (And.intro (@acI) (@ZW)) (And.intro (@abl) (@ab7)))) (And.intro (And.intro (And.intro (@abO) (@XS)) (And.intro (@Ud) (@CQ))) (And.intro (And.intro (@KP) (@TL)) (And.intro (@Qs) (@Zi))))))
theorem xFP:type_of% adY.down:=adY.down
end Go.Ab
