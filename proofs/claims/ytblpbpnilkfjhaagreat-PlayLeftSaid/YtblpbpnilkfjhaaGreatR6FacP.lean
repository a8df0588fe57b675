import Derived.Test.YtblpbpnilkfjhaaGreatAbLibC
import Derived.Test.YtblpbpnilkfjhaaGreatAbLibB
import Derived.Test.YtblpbpnilkfjhaaGreatR6Facts
set_option linter.unusedVariables false
set_option linter.unusedSimpArgs false
set_option maxRecDepth 100000
set_option linter.unusedVariables false
namespace Go.Ab
open Go.Proofs
section
variable (kk:Nat) (c:V) (cs:List V) (H:Hp) (k:IntKind) (n:Int) (id:Nat) (g:Nat) (len:Nat) (x:V) (wl:Nat) (s:V)
theorem aoS:aN (xS kk).P 5 (c::cs)=some c:=by kernel_rfl
theorem aoa:aM (xS kk).P 5=1:=by kernel_rfl
theorem alk:aN (xS kk).P 31 (c::cs)=some c:=by kernel_rfl
theorem amo:aM (xS kk).P 31=1:=by kernel_rfl
theorem ajf:aN (xS kk).P 67 (c::cs)=some c:=by kernel_rfl
theorem aib:aM (xS kk).P 67=1:=by kernel_rfl
theorem alb:cH (xS kk).P 31 H=some (.ptr (bw [V.nil] H).2.length 0 0 0,(bw [V.nil] H).2++[.box (bw [V.nil] H).1]):=by kernel_rfl
theorem ak8:cH (xS kk).P 52 H=some (.ptr (bw [(V.lit (Value.int .i64 (0))),(V.lit (Value.int .i64 (0))),(V.lit (Value.int .i64 (0)))] H).2.length 0 0 0,(bw [(V.lit (Value.int .i64 (0))),(V.lit (Value.int .i64 (0))),(V.lit (Value.int .i64 (0)))] H).2++[.box (bw [(V.lit (Value.int .i64 (0))),(V.lit (Value.int .i64 (0))),(V.lit (Value.int .i64 (0)))] H).1]):=by kernel_rfl
theorem adb:cH (xS kk).P 121 H=some (.ptr (bw [(V.lit (Value.int .i64 (0))),(V.lit (Value.int .i64 (0))),(V.lit (Value.int .i64 (0))),(V.lit (Value.int .i64 (0))),(V.lit (Value.int .i64 (0))),(V.lit (Value.int .i64 (0)))] H).2.length 0 0 0,(bw [(V.lit (Value.int .i64 (0))),(V.lit (Value.int .i64 (0))),(V.lit (Value.int .i64 (0))),(V.lit (Value.int .i64 (0))),(V.lit (Value.int .i64 (0))),(V.lit (Value.int .i64 (0)))] H).2++[.box (bw [(V.lit (Value.int .i64 (0))),(V.lit (Value.int .i64 (0))),(V.lit (Value.int .i64 (0))),(V.lit (Value.int .i64 (0))),(V.lit (Value.int .i64 (0))),(V.lit (Value.int .i64 (0)))] H).1]):=by kernel_rfl
theorem amE (l:List Int):au (xS kk).P 67 (.ro (l.map (aw .u8))) (.lit (.int k n)) H=(idx l n).map fun x => .rp ((aw .u8) x):=b8 (e:=5) (by kernel_rfl) (fun x=>(by kernel_rfl:((aw .u8) x).length=aM (xS kk).P 5)) (by kernel_rfl)
theorem amQ:au (xS kk).P 67 (.own id g len) (.lit (.int k n)) H=ixB 1 g len id n (H[id]?):=aZ (P:=(xS kk).P) (e:=5) (by kernel_rfl) (by kernel_rfl)
theorem ad8:oM (xS kk).P 67 x H=(Aa x H).map fun v=>(v,H):=by kernel_rfl
theorem Ua:wB (xS kk).P wl 31 31 s x H=be (xS kk).P wl 31 s x H:=by kernel_rfl
theorem So:be (xS kk).P wl 31 (.own id g len) x H=(bT x H).bind fun xs=>bif b7 3 xs then apB wl 48 3 24 id g len xs H (H[id]?) else none:=(eg (P:=(xS kk).P) (t:=31) (e:=48) (by kernel_rfl) (by kernel_rfl)).trans (by kernel_rfl)
theorem RU:be (xS kk).P wl 31 .nil x H=(bT x H).bind fun xs=>bif b7 3 xs then bif decide (xs.length*24≤70368744177664) then some (.own H.length 0 xs.length,H++[.rows 3 xs 0 true]) else none else none:=(eh (P:=(xS kk).P) (t:=31) (e:=48) (by kernel_rfl) (by kernel_rfl)).trans (by kernel_rfl)
theorem aiU (c:Bool):cg (xS kk).P wl c 34 (.own id g len) none (some (.lit (.int k n))) none H=slB g len id n H (H[id]?):=oC (P:=(xS kk).P) (e:=52) (by kernel_rfl) (by kernel_rfl)
theorem ahy (c:Bool) (l:Tye):cg (xS kk).P wl c 34 (.ro (l.map aB)) none (some (.lit (.int k n))) none H=bif decide (0≤n∧n≤l.length) then some (.ro ((l.take n.toNat).map aB),H) else none:=ra (P:=(xS kk).P) (e:=52) (by kernel_rfl) (by kernel_rfl) (fun x=>(by kernel_rfl:(aB x).length=aM (xS kk).P 52))
theorem ame (c:Bool) (l:Tye):cg (xS kk).P wl c 34 (.ro (l.map aB)) (some (.lit (.int k n))) none none H=bif decide (0≤n∧n≤l.length) then some (.ro ((l.drop n.toNat).map aB),H) else none:=ru (P:=(xS kk).P) (e:=52) (by kernel_rfl) (by kernel_rfl) (fun x=>(by kernel_rfl:(aB x).length=aM (xS kk).P 52))
theorem alc (c:Bool) (l:Tye) (k2:IntKind) (lo:Int):cg (xS kk).P wl c 34 (.ro (l.map aB)) (some (.lit (.int k lo))) (some (.lit (.int k2 n))) none H=bif decide (0≤lo∧lo≤n∧n≤l.length) then some (.ro (((l.take n.toNat).drop lo.toNat).map aB),H) else none:=m7 (P:=(xS kk).P) (e:=52) (by kernel_rfl) (by kernel_rfl) (fun x=>(by kernel_rfl:(aB x).length=aM (xS kk).P 52))
theorem ag4 (c:Bool):cg (xS kk).P wl c 67 (.own id g len) none (some (.lit (.int k n))) none H=slB g len id n H (H[id]?):=oC (P:=(xS kk).P) (e:=5) (by kernel_rfl) (by kernel_rfl)
theorem ah4 (c:Bool) (l:List Int):cg (xS kk).P wl c 67 (.ro (l.map (aw .u8))) none (some (.lit (.int k n))) none H=bif decide (0≤n∧n≤l.length) then some (.ro ((l.take n.toNat).map (aw .u8)),H) else none:=ra (P:=(xS kk).P) (e:=5) (by kernel_rfl) (by kernel_rfl) (fun x=>(by kernel_rfl:((aw .u8) x).length=aM (xS kk).P 5))
theorem ajx (c:Bool) (l:List Int):cg (xS kk).P wl c 67 (.ro (l.map (aw .u8))) (some (.lit (.int k n))) none none H=bif decide (0≤n∧n≤l.length) then some (.ro ((l.drop n.toNat).map (aw .u8)),H) else none:=ru (P:=(xS kk).P) (e:=5) (by kernel_rfl) (by kernel_rfl) (fun x=>(by kernel_rfl:((aw .u8) x).length=aM (xS kk).P 5))
theorem ajK (c:Bool) (l:List Int) (k2:IntKind) (lo:Int):cg (xS kk).P wl c 67 (.ro (l.map (aw .u8))) (some (.lit (.int k lo))) (some (.lit (.int k2 n))) none H=bif decide (0≤lo∧lo≤n∧n≤l.length) then some (.ro (((l.take n.toNat).drop lo.toNat).map (aw .u8)),H) else none:=m7 (P:=(xS kk).P) (e:=5) (by kernel_rfl) (by kernel_rfl) (fun x=>(by kernel_rfl:((aw .u8) x).length=aM (xS kk).P 5))
theorem acS:Cb (xS kk).P 5 3 (.lit (.int k n))=some (.lit (.int .i64 (IntKind.wrap .i64 n))):=by kernel_rfl
theorem XN:Cb (xS kk).P 5 46 (.lit (.int k n))=some (.lit (.int .u64 (IntKind.wrap .u64 n))):=by kernel_rfl
theorem H5 (c0 c1 c2:V):dv (xS kk).P 48 [(0,c0),(1,c1),(2,c2)]=(rC [(V.lit (Value.int .i64 (0))),(V.lit (Value.int .i64 (0))),(V.lit (Value.int .u64 (0)))] [(0,1,c0),(1,1,c1),(2,1,c2)]).map .agg:=by kernel_rfl
theorem Um (c0:V):dv (xS kk).P 101 [(0,c0)]=(rC [(V.lit (Value.int .i64 (0))),V.nil] [(0,1,c0)]).map .agg:=by kernel_rfl
theorem Yh (l:List (Nat×V)):aG (xS kk).P wl 24 1 l H=(fD wl 2 l [[(V.lit (Value.int .i64 (0))),V.ro []]] H).bind fun p=>some (.own p.2.length 0 1,p.2++[.rows 2 p.1 0 true]):=by kernel_rfl
theorem W6 (l:List (Nat×V)):aG (xS kk).P wl 40 1 l H=(fD wl 1 l [[V.ro []]] H).bind fun p=>some (.own p.2.length 0 1,p.2++[.rows 1 p.1 0 true]):=by kernel_rfl
theorem aeq (row off:Nat):au (xS kk).P 121 (.ptr id g row off) (.lit (.int k n)) H=arC id g row [(0,off),(1,off+1),(2,off+2),(3,off+3),(4,off+4),(5,off+5)] n:=Kz (e:=3) (len:=6) (sz:=1) (by kernel_rfl) (by kernel_rfl) (by decide)
end
def anv:=PLift.up (aI (aI (aI (aI @aoS (aI @aoa @alk)) (aI (aI @amo @ajf) (aI @aib @alb))) (aI (aI (aI @ak8 @adb) (aI @amE @amQ)) (aI (aI @ad8 @Ua) (aI @So @RU)))) (aI (aI (aI @aiU (aI @ahy @ame)) (aI (aI @alc @ag4) (aI @ah4 @ajx))) (aI (aI (aI @ajK @acS) (aI @XN @H5)) (aI (aI @Um @Yh) (aI @W6 @aeq)))))
theorem xFP:type_of% anv.down:=anv.down
end Go.Ab
