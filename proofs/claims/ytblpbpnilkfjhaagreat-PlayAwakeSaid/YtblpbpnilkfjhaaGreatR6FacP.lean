import Derived.Test.YtblpbpnilkfjhaaGreatAbLibC
import Derived.Test.YtblpbpnilkfjhaaGreatAbLibB
import Derived.Test.YtblpbpnilkfjhaaGreatR6Facts
set_option linter.unusedVariables false
set_option linter.unusedSimpArgs false
set_option maxRecDepth 100000
set_option linter.unusedVariables false
namespace Go.Ab
open Go.Proofs
section
variable (kk:Nat) (c:V) (cs:List V) (H:Hp) (k:IntKind) (n:Int) (id:Nat) (g:Nat) (len:Nat) (x:V) (wl:Nat) (s:V)
theorem aiE:aW (xS kk).P 5 (c::cs)=some c:=by kernel_rfl
theorem afP:aW (xS kk).P 31 (c::cs)=some c:=by kernel_rfl
theorem afj:aZ (xS kk).P 31=1:=by kernel_rfl
theorem afo:aW (xS kk).P 67 (c::cs)=some c:=by kernel_rfl
theorem aff:az (xS kk).P 31 H=some (.ptr (bN [V.nil] H).2.length 0 0 0,(bN [V.nil] H).2++[.box (bN [V.nil] H).1]):=by kernel_rfl
theorem afO:az (xS kk).P 52 H=some (.ptr (bN [(V.lit (Value.int .i64 (0))),(V.lit (Value.int .i64 (0))),(V.lit (Value.int .i64 (0)))] H).2.length 0 0 0,(bN [(V.lit (Value.int .i64 (0))),(V.lit (Value.int .i64 (0))),(V.lit (Value.int .i64 (0)))] H).2++[.box (bN [(V.lit (Value.int .i64 (0))),(V.lit (Value.int .i64 (0))),(V.lit (Value.int .i64 (0)))] H).1]):=by kernel_rfl
theorem ZR:az (xS kk).P 121 H=some (.ptr (bN [(V.lit (Value.int .i64 (0))),(V.lit (Value.int .i64 (0))),(V.lit (Value.int .i64 (0))),(V.lit (Value.int .i64 (0))),(V.lit (Value.int .i64 (0))),(V.lit (Value.int .i64 (0)))] H).2.length 0 0 0,(bN [(V.lit (Value.int .i64 (0))),(V.lit (Value.int .i64 (0))),(V.lit (Value.int .i64 (0))),(V.lit (Value.int .i64 (0))),(V.lit (Value.int .i64 (0))),(V.lit (Value.int .i64 (0)))] H).2++[.box (bN [(V.lit (Value.int .i64 (0))),(V.lit (Value.int .i64 (0))),(V.lit (Value.int .i64 (0))),(V.lit (Value.int .i64 (0))),(V.lit (Value.int .i64 (0))),(V.lit (Value.int .i64 (0)))] H).1]):=by kernel_rfl
theorem afa (l:List Int):am (xS kk).P 67 (.ro (l.map (aG .u8))) (.lit (.int k n)) H=(idx l n).map fun x => .rp ((aG .u8) x):=cE (e:=5) (by kernel_rfl) (fun x=>(by kernel_rfl:((aG .u8) x).length=aZ (xS kk).P 5)) (by kernel_rfl)
theorem Zg:bh (xS kk).P 67 x H=(uN x H).map fun v=>(v,H):=by kernel_rfl
theorem RA:kS (xS kk).P wl 31 31 s x H=cR (xS kk).P wl 31 s x H:=by kernel_rfl
theorem PW:cR (xS kk).P wl 31 (.own id g len) x H=(dR x H).bind fun xs=>bif eN 3 xs then apB wl 48 3 24 id g len xs H (H[id]?) else none:=(eP (P:=(xS kk).P) (t:=31) (e:=48) (by kernel_rfl) (by kernel_rfl)).trans (by kernel_rfl)
theorem adz (c:Bool) (l:List Int):eU (xS kk).P wl c 67 (.ro (l.map (aG .u8))) (some (.lit (.int k n))) none none H=bif decide (0≤n∧n≤l.length) then some (.ro ((l.drop n.toNat).map (aG .u8)),H) else none:=FO (P:=(xS kk).P) (e:=5) (by kernel_rfl) (by kernel_rfl) (fun x=>(by kernel_rfl:((aG .u8) x).length=aZ (xS kk).P 5))
theorem abj:fL (xS kk).P 5 3 (.lit (.int k n))=some (.lit (.int .i64 (IntKind.wrap .i64 n))):=by kernel_rfl
theorem UZ:fL (xS kk).P 5 46 (.lit (.int k n))=some (.lit (.int .u64 (IntKind.wrap .u64 n))):=by kernel_rfl
theorem GO (c0 c1 c2:V):be (xS kk).P 48 [(0,c0),(1,c1),(2,c2)]=(ub [(V.lit (Value.int .i64 (0))),(V.lit (Value.int .i64 (0))),(V.lit (Value.int .u64 (0)))] [(0,1,c0),(1,1,c1),(2,1,c2)]).map .agg:=by kernel_rfl
theorem Ry (c0:V):be (xS kk).P 101 [(0,c0)]=(ub [(V.lit (Value.int .i64 (0))),V.nil] [(0,1,c0)]).map .agg:=by kernel_rfl
theorem Uu (l:List (Nat×V)):aF (xS kk).P wl 24 1 l H=(ig wl 2 l [[(V.lit (Value.int .i64 (0))),V.ro []]] H).bind fun p=>some (.own p.2.length 0 1,p.2++[.rows 2 p.1 0 true]):=by kernel_rfl
theorem VU (l:List (Nat×V)):aF (xS kk).P wl 40 1 l H=(ig wl 1 l [[V.ro []]] H).bind fun p=>some (.own p.2.length 0 1,p.2++[.rows 1 p.1 0 true]):=by kernel_rfl
theorem Y5 (row off:Nat):am (xS kk).P 121 (.ptr id g row off) (.lit (.int k n)) H=arC id g row [(0,off),(1,off+1),(2,off+2),(3,off+3),(4,off+4),(5,off+5)] n:=JB (e:=3) (len:=6) (sz:=1) (by kernel_rfl) (by kernel_rfl) (by decide)
end
def ahF:=PLift.up (aI (aI (aI (aI @aiE @afP) (aI (aI @afj @afo) @aff)) (aI (aI (aI @afO @ZR) @afa) (aI (aI @Zg @RA) @PW))) (aI @adz (aI (aI @abj (aI @UZ @GO)) (aI (aI @Ry @Uu) (aI @VU @Y5)))))
theorem xFP:type_of% ahF.down:=ahF.down
end Go.Ab
