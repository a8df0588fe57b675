import Derived.Test.YtblpbpnilkfjhaaGreatAbLibC
import Derived.Test.YtblpbpnilkfjhaaGreatAbLibB
import Derived.Test.YtblpbpnilkfjhaaGreatR6Facts
set_option linter.unusedVariables false
set_option linter.unusedSimpArgs false
set_option maxRecDepth 100000
set_option linter.unusedVariables false
namespace Go.Ab
open Go.Proofs
theorem ahx (kk:Nat) (c:V) (cs:List V):aU (xS kk).P 5 (c::cs)=some c:=by kernel_rfl
theorem ag8 (kk:Nat):aS (xS kk).P 5=1:=by kernel_rfl
theorem adh (kk:Nat) (c:V) (cs:List V):aU (xS kk).P 31 (c::cs)=some c:=by kernel_rfl
theorem agj (kk:Nat):aS (xS kk).P 31=1:=by kernel_rfl
theorem afL (kk:Nat) (c:V) (cs:List V):aU (xS kk).P 67 (c::cs)=some c:=by kernel_rfl
theorem adc (kk:Nat):aS (xS kk).P 67=1:=by kernel_rfl
theorem aeE (kk:Nat) (H:Hp):av (xS kk).P 31 H=some (.ptr (bA [V.nil] H).2.length 0 0 0,(bA [V.nil] H).2++[.box (bA [V.nil] H).1]):=by kernel_rfl
theorem aew (kk:Nat) (H:Hp):av (xS kk).P 52 H=some (.ptr (bA [(V.lit (Value.int .i64 (0))),(V.lit (Value.int .i64 (0))),(V.lit (Value.int .i64 (0)))] H).2.length 0 0 0,(bA [(V.lit (Value.int .i64 (0))),(V.lit (Value.int .i64 (0))),(V.lit (Value.int .i64 (0)))] H).2++[.box (bA [(V.lit (Value.int .i64 (0))),(V.lit (Value.int .i64 (0))),(V.lit (Value.int .i64 (0)))] H).1]):=by kernel_rfl
theorem abA (kk:Nat) (H:Hp):av (xS kk).P 121 H=some (.ptr (bA [(V.lit (Value.int .i64 (0))),(V.lit (Value.int .i64 (0))),(V.lit (Value.int .i64 (0))),(V.lit (Value.int .i64 (0))),(V.lit (Value.int .i64 (0))),(V.lit (Value.int .i64 (0)))] H).2.length 0 0 0,(bA [(V.lit (Value.int .i64 (0))),(V.lit (Value.int .i64 (0))),(V.lit (Value.int .i64 (0))),(V.lit (Value.int .i64 (0))),(V.lit (Value.int .i64 (0))),(V.lit (Value.int .i64 (0)))] H).2++[.box (bA [(V.lit (Value.int .i64 (0))),(V.lit (Value.int .i64 (0))),(V.lit (Value.int .i64 (0))),(V.lit (Value.int .i64 (0))),(V.lit (Value.int .i64 (0))),(V.lit (Value.int .i64 (0)))] H).1]):=by kernel_rfl
theorem afI (kk:Nat) (l:List Int) (k:IntKind) (n:Int) (H:Hp):aj (xS kk).P 67 (.ro (l.map (aF .u8))) (.lit (.int k n)) H=(idx l n).map fun x => .rp ((aF .u8) x):=cd (e:=5) (by kernel_rfl) (fun x=>(by kernel_rfl:((aF .u8) x).length=aS (xS kk).P 5)) (by kernel_rfl)
theorem aen (kk:Nat) (id g len:Nat) (k:IntKind) (n:Int) (H:Hp):aj (xS kk).P 67 (.own id g len) (.lit (.int k n)) H=ixB 1 g len id n (H[id]?):=bf (P:=(xS kk).P) (e:=5) (by kernel_rfl) (by kernel_rfl)
theorem XE (kk:Nat) (x:V) (H:Hp):bc (xS kk).P 67 x H=(uf x H).map fun v=>(v,H):=by kernel_rfl
theorem N7 (kk:Nat) (wl:Nat) (s x:V) (H:Hp):kM (xS kk).P wl 31 31 s x H=bl (xS kk).P wl 31 s x H:=by kernel_rfl
theorem P7 (kk:Nat) (wl id g len:Nat) (x:V) (H:Hp):bl (xS kk).P wl 31 (.own id g len) x H=(bU x H).bind fun xs=>bif cf 3 xs then apB wl 48 3 24 id g len xs H (H[id]?) else none:=(dX (P:=(xS kk).P) (t:=31) (e:=48) (by kernel_rfl) (by kernel_rfl)).trans (by kernel_rfl)
theorem M9 (kk:Nat) (wl:Nat) (x:V) (H:Hp):bl (xS kk).P wl 31 .nil x H=(bU x H).bind fun xs=>bif cf 3 xs then bif decide (xs.length*24≤70368744177664) then some (.own H.length 0 xs.length,H++[.rows 3 xs 0 true]) else none else none:=(dW (P:=(xS kk).P) (t:=31) (e:=48) (by kernel_rfl) (by kernel_rfl)).trans (by kernel_rfl)
theorem aeM (kk:Nat) (wl:Nat) (c:Bool) (id g len:Nat) (k:IntKind) (n:Int) (H:Hp):bR (xS kk).P wl c 34 (.own id g len) none (some (.lit (.int k n))) none H=slB g len id n H (H[id]?):=mV (P:=(xS kk).P) (e:=52) (by kernel_rfl) (by kernel_rfl)
theorem ael (kk:Nat) (wl:Nat) (c:Bool) (l:Tye) (k:IntKind) (n:Int) (H:Hp):bR (xS kk).P wl c 34 (.ro (l.map aD)) none (some (.lit (.int k n))) none H=bif decide (0≤n∧n≤l.length) then some (.ro ((l.take n.toNat).map aD),H) else none:=oI (P:=(xS kk).P) (e:=52) (by kernel_rfl) (by kernel_rfl) (fun x=>(by kernel_rfl:(aD x).length=aS (xS kk).P 52))
theorem adL (kk:Nat) (wl:Nat) (c:Bool) (l:Tye) (k:IntKind) (n:Int) (H:Hp):bR (xS kk).P wl c 34 (.ro (l.map aD)) (some (.lit (.int k n))) none none H=bif decide (0≤n∧n≤l.length) then some (.ro ((l.drop n.toNat).map aD),H) else none:=oX (P:=(xS kk).P) (e:=52) (by kernel_rfl) (by kernel_rfl) (fun x=>(by kernel_rfl:(aD x).length=aS (xS kk).P 52))
theorem act (kk:Nat) (wl:Nat) (c:Bool) (l:Tye) (k k2:IntKind) (lo n:Int) (H:Hp):bR (xS kk).P wl c 34 (.ro (l.map aD)) (some (.lit (.int k lo))) (some (.lit (.int k2 n))) none H=bif decide (0≤lo∧lo≤n∧n≤l.length) then some (.ro (((l.take n.toNat).drop lo.toNat).map aD),H) else none:=md (P:=(xS kk).P) (e:=52) (by kernel_rfl) (by kernel_rfl) (fun x=>(by kernel_rfl:(aD x).length=aS (xS kk).P 52))
theorem adJ (kk:Nat) (wl:Nat) (c:Bool) (id g len:Nat) (k:IntKind) (n:Int) (H:Hp):bR (xS kk).P wl c 67 (.own id g len) none (some (.lit (.int k n))) none H=slB g len id n H (H[id]?):=mV (P:=(xS kk).P) (e:=5) (by kernel_rfl) (by kernel_rfl)
theorem afG (kk:Nat) (wl:Nat) (c:Bool) (l:List Int) (k:IntKind) (n:Int) (H:Hp):bR (xS kk).P wl c 67 (.ro (l.map (aF .u8))) none (some (.lit (.int k n))) none H=bif decide (0≤n∧n≤l.length) then some (.ro ((l.take n.toNat).map (aF .u8)),H) else none:=oI (P:=(xS kk).P) (e:=5) (by kernel_rfl) (by kernel_rfl) (fun x=>(by kernel_rfl:((aF .u8) x).length=aS (xS kk).P 5))
theorem acY (kk:Nat) (wl:Nat) (c:Bool) (l:List Int) (k:IntKind) (n:Int) (H:Hp):bR (xS kk).P wl c 67 (.ro (l.map (aF .u8))) (some (.lit (.int k n))) none none H=bif decide (0≤n∧n≤l.length) then some (.ro ((l.drop n.toNat).map (aF .u8)),H) else none:=oX (P:=(xS kk).P) (e:=5) (by kernel_rfl) (by kernel_rfl) (fun x=>(by kernel_rfl:((aF .u8) x).length=aS (xS kk).P 5))
theorem ad4 (kk:Nat) (wl:Nat) (c:Bool) (l:List Int) (k k2:IntKind) (lo n:Int) (H:Hp):bR (xS kk).P wl c 67 (.ro (l.map (aF .u8))) (some (.lit (.int k lo))) (some (.lit (.int k2 n))) none H=bif decide (0≤lo∧lo≤n∧n≤l.length) then some (.ro (((l.take n.toNat).drop lo.toNat).map (aF .u8)),H) else none:=md (P:=(xS kk).P) (e:=5) (by kernel_rfl) (by kernel_rfl) (fun x=>(by kernel_rfl:((aF .u8) x).length=aS (xS kk).P 5))
theorem X9 (kk:Nat) (k:IntKind) (n:Int):fI (xS kk).P 5 3 (.lit (.int k n))=some (.lit (.int .i64 (IntKind.wrap .i64 n))):=by kernel_rfl
theorem TM (kk:Nat) (k:IntKind) (n:Int):fI (xS kk).P 5 46 (.lit (.int k n))=some (.lit (.int .u64 (IntKind.wrap .u64 n))):=by kernel_rfl
theorem EJ (kk:Nat) (c0 c1 c2:V):a8 (xS kk).P 48 [(0,c0),(1,c1),(2,c2)]=(pa [(V.lit (Value.int .i64 (0))),(V.lit (Value.int .i64 (0))),(V.lit (Value.int .u64 (0)))] [(0,1,c0),(1,1,c1),(2,1,c2)]).map .agg:=by kernel_rfl
theorem Qu (kk:Nat) (c0:V):a8 (xS kk).P 101 [(0,c0)]=(pa [(V.lit (Value.int .i64 (0))),V.nil] [(0,1,c0)]).map .agg:=by kernel_rfl
theorem Va (kk:Nat) (wl:Nat) (l:List (Nat×V)) (H:Hp):aA (xS kk).P wl 24 1 l H=(fo wl 2 l [[(V.lit (Value.int .i64 (0))),V.ro []]] H).bind fun p=>some (.own p.2.length 0 1,p.2++[.rows 2 p.1 0 true]):=by kernel_rfl
theorem T6 (kk:Nat) (wl:Nat) (l:List (Nat×V)) (H:Hp):aA (xS kk).P wl 40 1 l H=(fo wl 1 l [[V.ro []]] H).bind fun p=>some (.own p.2.length 0 1,p.2++[.rows 1 p.1 0 true]):=by kernel_rfl
theorem aaM (kk:Nat) (id g row off:Nat) (k:IntKind) (n:Int) (H:Hp):aj (xS kk).P 121 (.ptr id g row off) (.lit (.int k n)) H=arC id g row [(0,off),(1,off+1),(2,off+2),(3,off+3),(4,off+4),(5,off+5)] n:=HP (e:=3) (len:=6) (sz:=1) (by kernel_rfl) (by kernel_rfl) (by decide)
def agV:=PLift.up (And.intro (And.intro (And.intro (And.intro (@ahx) (And.intro (@ag8) (@adh))) (And.intro (And.intro (@agj) (@afL)) (And.intro (@adc) (@aeE)))) (And.intro (And.intro (And.intro (@aew) (@abA)) (And.intro (@afI) (@aen))) (And.intro (And.intro (@XE) (@N7)) (And.intro (@P7) (@M9))))) (And.intro (And.intro (And.intro (@aeM) (And.intro (@ael) (@adL))) (And.intro (And.intro (@act) (@adJ)) (And.intro (@afG) (@acY)))) (And.intro (And.intro (And.intro (@ad4) (@X9)) (And.intro (@TM) (@EJ))) (And.intro (And.intro (@Qu) (@Va)) (And.intro (@T6) (@aaM))))))
theorem xFP:type_of% agV.down:=agV.down
end Go.Ab
