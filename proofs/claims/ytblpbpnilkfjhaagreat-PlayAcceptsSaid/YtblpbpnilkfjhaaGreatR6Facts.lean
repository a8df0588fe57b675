import Derived.Test.YtblpbpnilkfjhaaGreatAbLibC
import Derived.Test.YtblpbpnilkfjhaaGreatAbLibB
import Derived.Test.YtblpbpnilkfjhaaGreatR6Seat
set_option linter.unusedVariables false
set_option linter.unusedSimpArgs false
set_option maxRecDepth 100000
set_option linter.unusedVariables false
namespace Go.Ab
open Go.Proofs
section
variable (kk:Nat) (c:V) (cs:List V) (H:Hp) (id:Nat) (g:Nat) (k:IntKind) (n:Int) (len:Nat) (x:V) (wl:Nat) (s:V)
theorem aqA:aS (xS kk).P 1 (c::cs)=some c:=by kernel_rfl
theorem ap6:aR (xS kk).P 1=1:=by kernel_rfl
theorem aq4:aS (xS kk).P 3 (c::cs)=some c:=by kernel_rfl
theorem apS:aR (xS kk).P 3=1:=by kernel_rfl
theorem aqU:aS (xS kk).P 4 (c::cs)=some c:=by kernel_rfl
theorem aqL:aR (xS kk).P 4=1:=by kernel_rfl
theorem aix (c0 c1 c2 c3:V):aS (xS kk).P 23 (c0::c1::c2::c3::cs)=some (.agg [c0,c1,c2,c3]):=by kernel_rfl
theorem ajl:aR (xS kk).P 23=4:=by kernel_rfl
theorem aoj:aS (xS kk).P 24 (c::cs)=some c:=by kernel_rfl
theorem ajW:aR (xS kk).P 24=1:=by kernel_rfl
theorem akS:aS (xS kk).P 26 (c::cs)=some c:=by kernel_rfl
theorem ani:aR (xS kk).P 26=1:=by kernel_rfl
theorem ajK:aS (xS kk).P 27 (c::cs)=some c:=by kernel_rfl
theorem am8:aR (xS kk).P 27=1:=by kernel_rfl
theorem aom:aS (xS kk).P 28 (c::cs)=some c:=by kernel_rfl
theorem aox:aR (xS kk).P 28=1:=by kernel_rfl
theorem aod (c0 c1 c2 c3 c4 c5 c6 c7:V):aS (xS kk).P 30 (c0::c1::c2::c3::c4::c5::c6::c7::cs)=some (.agg [c0,c1,c2,c3,c4,c5,c6,c7]):=by kernel_rfl
theorem aiY:aR (xS kk).P 30=8:=by kernel_rfl
theorem anQ:aS (xS kk).P 32 (c::cs)=some c:=by kernel_rfl
theorem akL:aR (xS kk).P 32=1:=by kernel_rfl
theorem akz:aS (xS kk).P 34 (c::cs)=some c:=by kernel_rfl
theorem anP:aR (xS kk).P 34=1:=by kernel_rfl
theorem amQ:aS (xS kk).P 46 (c::cs)=some c:=by kernel_rfl
theorem ajM:aR (xS kk).P 46=1:=by kernel_rfl
theorem akl (c0 c1 c2:V):aS (xS kk).P 48 (c0::c1::c2::cs)=some (.agg [c0,c1,c2]):=by kernel_rfl
theorem ajj:aR (xS kk).P 48=3:=by kernel_rfl
theorem alp (c0 c1 c2:V):aS (xS kk).P 52 (c0::c1::c2::cs)=some (.agg [c0,c1,c2]):=by kernel_rfl
theorem ajV:aR (xS kk).P 52=3:=by kernel_rfl
theorem aig:aS (xS kk).P 53 (c::cs)=some c:=by kernel_rfl
theorem amw:aR (xS kk).P 53=1:=by kernel_rfl
theorem ak2 (c0 c1 c2 c3 c4 c5 c6:V):aS (xS kk).P 55 (c0::c1::c2::c3::c4::c5::c6::cs)=some (.agg [c0,c1,c2,c3,c4,c5,c6]):=by kernel_rfl
theorem alV:aR (xS kk).P 55=7:=by kernel_rfl
theorem akR (c0 c1 c2 c3 c4 c5 c6 c7 c8:V):aS (xS kk).P 57 (c0::c1::c2::c3::c4::c5::c6::c7::c8::cs)=some (.agg [c0,c1,c2,c3,c4,c5,c6,c7,c8]):=by kernel_rfl
theorem aoy:aR (xS kk).P 57=9:=by kernel_rfl
theorem ajP:aS (xS kk).P 63 (c::cs)=some c:=by kernel_rfl
theorem ajI:aR (xS kk).P 63=1:=by kernel_rfl
theorem alW (c0 c1 c2 c3 c4 c5 c6 c7 c8 c9 c10:V):aS (xS kk).P 65 (c0::c1::c2::c3::c4::c5::c6::c7::c8::c9::c10::cs)=some (.agg [c0,c1,c2,c3,c4,c5,c6,c7,c8,c9,c10]):=by kernel_rfl
theorem alq:aR (xS kk).P 65=11:=by kernel_rfl
theorem ajg:aS (xS kk).P 86 (c::cs)=some c:=by kernel_rfl
theorem aoI:aR (xS kk).P 86=1:=by kernel_rfl
theorem afY (c0 c1:V):aS (xS kk).P 101 (c0::c1::cs)=some (.agg [c0,c1]):=by kernel_rfl
theorem aeX:aR (xS kk).P 101=2:=by kernel_rfl
theorem af6:aS (xS kk).P 116 (c::cs)=some c:=by kernel_rfl
theorem ahg:aR (xS kk).P 116=1:=by kernel_rfl
theorem ad1 (c0 c1 c2:V):aS (xS kk).P 129 (c0::c1::c2::cs)=some (.agg [c0,c1,c2]):=by kernel_rfl
theorem ahI:aR (xS kk).P 129=3:=by kernel_rfl
theorem agv:aS (xS kk).P 150 (c::cs)=some c:=by kernel_rfl
theorem afG:aR (xS kk).P 150=1:=by kernel_rfl
theorem agB (c0 c1 c2 c3 c4 c5 c6 c7 c8 c9 c10 c11 c12 c13 c14 c15:V):aS (xS kk).P 169 (c0::c1::c2::c3::c4::c5::c6::c7::c8::c9::c10::c11::c12::c13::c14::c15::cs)=some (.agg [c0,c1,c2,c3,c4,c5,c6,c7,c8,c9,c10,c11,c12,c13,c14,c15]):=by kernel_rfl
theorem afs:aR (xS kk).P 169=16:=by kernel_rfl
theorem aea:aS (xS kk).P 170 (c::cs)=some c:=by kernel_rfl
theorem ae3:aR (xS kk).P 170=1:=by kernel_rfl
theorem ahf (c0 c1 c2 c3 c4 c5:V):aS (xS kk).P 175 (c0::c1::c2::c3::c4::c5::cs)=some (.agg [c0,c1,c2,c3,c4,c5]):=by kernel_rfl
theorem aem:aR (xS kk).P 175=6:=by kernel_rfl
theorem ael (c0 c1:V):aS (xS kk).P 194 (c0::c1::cs)=some (.agg [c0,c1]):=by kernel_rfl
theorem ahp:aR (xS kk).P 194=2:=by kernel_rfl
theorem agr:aS (xS kk).P 206 (c::cs)=some c:=by kernel_rfl
theorem aeZ:aR (xS kk).P 206=1:=by kernel_rfl
theorem adJ:aS (xS kk).P 223 (c::cs)=some c:=by kernel_rfl
theorem agD:aR (xS kk).P 223=1:=by kernel_rfl
theorem aey (c0 c1 c2 c3:V):aS (xS kk).P 236 (c0::c1::c2::c3::cs)=some (.agg [c0,c1,c2,c3]):=by kernel_rfl
theorem agd:aR (xS kk).P 236=4:=by kernel_rfl
theorem aqD:cI (xS kk).P 1 H=some (.ptr (bG [(V.lit Value.nilFunc)] H).2.length 0 0 0,(bG [(V.lit Value.nilFunc)] H).2++[.box (bG [(V.lit Value.nilFunc)] H).1]):=by kernel_rfl
theorem aqC:cI (xS kk).P 3 H=some (.ptr (bG [(V.lit (Value.int .i64 (0)))] H).2.length 0 0 0,(bG [(V.lit (Value.int .i64 (0)))] H).2++[.box (bG [(V.lit (Value.int .i64 (0)))] H).1]):=by kernel_rfl
theorem arj:cI (xS kk).P 4 H=some (.ptr (bG [(V.lit (Value.bool false))] H).2.length 0 0 0,(bG [(V.lit (Value.bool false))] H).2++[.box (bG [(V.lit (Value.bool false))] H).1]):=by kernel_rfl
theorem ajS:cI (xS kk).P 26 H=some (.ptr (bG [V.nil] H).2.length 0 0 0,(bG [V.nil] H).2++[.box (bG [V.nil] H).1]):=by kernel_rfl
theorem ajG:cI (xS kk).P 30 H=some (.ptr (bG [(V.lit (Value.int .i64 (0))),(V.lit (Value.int .i64 (0))),(V.lit (Value.int .i64 (0))),(V.lit (Value.int .i64 (0))),V.nil,V.nil,V.nil,V.nil] H).2.length 0 0 0,(bG [(V.lit (Value.int .i64 (0))),(V.lit (Value.int .i64 (0))),(V.lit (Value.int .i64 (0))),(V.lit (Value.int .i64 (0))),V.nil,V.nil,V.nil,V.nil] H).2++[.box (bG [(V.lit (Value.int .i64 (0))),(V.lit (Value.int .i64 (0))),(V.lit (Value.int .i64 (0))),(V.lit (Value.int .i64 (0))),V.nil,V.nil,V.nil,V.nil] H).1]):=by kernel_rfl
theorem aoA:cI (xS kk).P 32 H=some (.ptr (bG [(V.lit Value.nilFunc)] H).2.length 0 0 0,(bG [(V.lit Value.nilFunc)] H).2++[.box (bG [(V.lit Value.nilFunc)] H).1]):=by kernel_rfl
theorem ai3:cI (xS kk).P 34 H=some (.ptr (bG [V.nil] H).2.length 0 0 0,(bG [V.nil] H).2++[.box (bG [V.nil] H).1]):=by kernel_rfl
theorem akE:cI (xS kk).P 48 H=some (.ptr (bG [(V.lit (Value.int .i64 (0))),(V.lit (Value.int .i64 (0))),(V.lit (Value.int .u64 (0)))] H).2.length 0 0 0,(bG [(V.lit (Value.int .i64 (0))),(V.lit (Value.int .i64 (0))),(V.lit (Value.int .u64 (0)))] H).2++[.box (bG [(V.lit (Value.int .i64 (0))),(V.lit (Value.int .i64 (0))),(V.lit (Value.int .u64 (0)))] H).1]):=by kernel_rfl
theorem ajU:cI (xS kk).P 55 H=some (.ptr (bG [(V.lit (Value.int .i64 (0))),(V.lit (Value.int .i64 (0))),(V.lit (Value.int .i64 (0))),(V.lit (Value.int .u64 (0))),(V.lit (Value.int .u64 (0))),(V.lit (Value.int .u64 (0))),(V.lit (Value.int .i64 (0)))] H).2.length 0 0 0,(bG [(V.lit (Value.int .i64 (0))),(V.lit (Value.int .i64 (0))),(V.lit (Value.int .i64 (0))),(V.lit (Value.int .u64 (0))),(V.lit (Value.int .u64 (0))),(V.lit (Value.int .u64 (0))),(V.lit (Value.int .i64 (0)))] H).2++[.box (bG [(V.lit (Value.int .i64 (0))),(V.lit (Value.int .i64 (0))),(V.lit (Value.int .i64 (0))),(V.lit (Value.int .u64 (0))),(V.lit (Value.int .u64 (0))),(V.lit (Value.int .u64 (0))),(V.lit (Value.int .i64 (0)))] H).1]):=by kernel_rfl
theorem ai4:cI (xS kk).P 57 H=some (.ptr (bG [(V.lit (Value.int .i64 (0))),V.nil,(V.lit (Value.int .i64 (0))),(V.lit (Value.int .i64 (0))),(V.lit (Value.int .i64 (0))),(V.lit (Value.int .u64 (0))),(V.lit (Value.int .u64 (0))),(V.lit (Value.int .u64 (0))),(V.lit (Value.int .i64 (0)))] H).2.length 0 0 0,(bG [(V.lit (Value.int .i64 (0))),V.nil,(V.lit (Value.int .i64 (0))),(V.lit (Value.int .i64 (0))),(V.lit (Value.int .i64 (0))),(V.lit (Value.int .u64 (0))),(V.lit (Value.int .u64 (0))),(V.lit (Value.int .u64 (0))),(V.lit (Value.int .i64 (0)))] H).2++[.box (bG [(V.lit (Value.int .i64 (0))),V.nil,(V.lit (Value.int .i64 (0))),(V.lit (Value.int .i64 (0))),(V.lit (Value.int .i64 (0))),(V.lit (Value.int .u64 (0))),(V.lit (Value.int .u64 (0))),(V.lit (Value.int .u64 (0))),(V.lit (Value.int .i64 (0)))] H).1]):=by kernel_rfl
theorem akH:cI (xS kk).P 65 H=some (.ptr (bG [(V.lit (Value.int .i64 (0))),V.nil,(V.lit (Value.int .i64 (0))),(V.lit (Value.int .i64 (0))),(V.lit (Value.int .i64 (0))),(V.lit (Value.int .u64 (0))),(V.lit (Value.int .u64 (0))),(V.lit (Value.int .u64 (0))),(V.lit (Value.int .i64 (0))),(V.lit (Value.int .i64 (0))),(V.lit (Value.int .i64 (0)))] H).2.length 0 0 0,(bG [(V.lit (Value.int .i64 (0))),V.nil,(V.lit (Value.int .i64 (0))),(V.lit (Value.int .i64 (0))),(V.lit (Value.int .i64 (0))),(V.lit (Value.int .u64 (0))),(V.lit (Value.int .u64 (0))),(V.lit (Value.int .u64 (0))),(V.lit (Value.int .i64 (0))),(V.lit (Value.int .i64 (0))),(V.lit (Value.int .i64 (0)))] H).2++[.box (bG [(V.lit (Value.int .i64 (0))),V.nil,(V.lit (Value.int .i64 (0))),(V.lit (Value.int .i64 (0))),(V.lit (Value.int .i64 (0))),(V.lit (Value.int .u64 (0))),(V.lit (Value.int .u64 (0))),(V.lit (Value.int .u64 (0))),(V.lit (Value.int .i64 (0))),(V.lit (Value.int .i64 (0))),(V.lit (Value.int .i64 (0)))] H).1]):=by kernel_rfl
theorem aep:cI (xS kk).P 101 H=some (.ptr (bG [(V.lit (Value.int .i64 (0))),V.nil] H).2.length 0 0 0,(bG [(V.lit (Value.int .i64 (0))),V.nil] H).2++[.box (bG [(V.lit (Value.int .i64 (0))),V.nil] H).1]):=by kernel_rfl
theorem agK:cI (xS kk).P 129 H=some (.ptr (bG [(V.lit (Value.int .i64 (0))),(V.lit (Value.int .i64 (0))),(V.lit (Value.int .i64 (0)))] H).2.length 0 0 0,(bG [(V.lit (Value.int .i64 (0))),(V.lit (Value.int .i64 (0))),(V.lit (Value.int .i64 (0)))] H).2++[.box (bG [(V.lit (Value.int .i64 (0))),(V.lit (Value.int .i64 (0))),(V.lit (Value.int .i64 (0)))] H).1]):=by kernel_rfl
theorem agz:cI (xS kk).P 150 H=some (.ptr (bG [V.nil] H).2.length 0 0 0,(bG [V.nil] H).2++[.box (bG [V.nil] H).1]):=by kernel_rfl
theorem adz:cI (xS kk).P 169 H=some (.ptr (bG [(V.lit Value.nilFunc),(V.lit Value.nilFunc),(V.lit Value.nilFunc),(V.lit Value.nilFunc),(V.lit Value.nilFunc),(V.lit Value.nilFunc),(V.lit Value.nilFunc),(V.lit Value.nilFunc),(V.lit Value.nilFunc),(V.lit Value.nilFunc),(V.lit Value.nilFunc),(V.lit Value.nilFunc),(V.lit Value.nilFunc),(V.lit Value.nilFunc),(V.lit Value.nilFunc),(V.lit Value.nilFunc)] H).2.length 0 0 0,(bG [(V.lit Value.nilFunc),(V.lit Value.nilFunc),(V.lit Value.nilFunc),(V.lit Value.nilFunc),(V.lit Value.nilFunc),(V.lit Value.nilFunc),(V.lit Value.nilFunc),(V.lit Value.nilFunc),(V.lit Value.nilFunc),(V.lit Value.nilFunc),(V.lit Value.nilFunc),(V.lit Value.nilFunc),(V.lit Value.nilFunc),(V.lit Value.nilFunc),(V.lit Value.nilFunc),(V.lit Value.nilFunc)] H).2++[.box (bG [(V.lit Value.nilFunc),(V.lit Value.nilFunc),(V.lit Value.nilFunc),(V.lit Value.nilFunc),(V.lit Value.nilFunc),(V.lit Value.nilFunc),(V.lit Value.nilFunc),(V.lit Value.nilFunc),(V.lit Value.nilFunc),(V.lit Value.nilFunc),(V.lit Value.nilFunc),(V.lit Value.nilFunc),(V.lit Value.nilFunc),(V.lit Value.nilFunc),(V.lit Value.nilFunc),(V.lit Value.nilFunc)] H).1]):=by kernel_rfl
theorem ahH:cI (xS kk).P 170 H=some (.ptr (bG [(V.lit Value.nilFunc)] H).2.length 0 0 0,(bG [(V.lit Value.nilFunc)] H).2++[.box (bG [(V.lit Value.nilFunc)] H).1]):=by kernel_rfl
theorem adV:cI (xS kk).P 175 H=some (.ptr (bG [(V.lit Value.nilFunc),(V.lit Value.nilFunc),(V.lit Value.nilFunc),(V.lit Value.nilFunc),(V.lit Value.nilFunc),(V.lit Value.nilFunc)] H).2.length 0 0 0,(bG [(V.lit Value.nilFunc),(V.lit Value.nilFunc),(V.lit Value.nilFunc),(V.lit Value.nilFunc),(V.lit Value.nilFunc),(V.lit Value.nilFunc)] H).2++[.box (bG [(V.lit Value.nilFunc),(V.lit Value.nilFunc),(V.lit Value.nilFunc),(V.lit Value.nilFunc),(V.lit Value.nilFunc),(V.lit Value.nilFunc)] H).1]):=by kernel_rfl
theorem ahl:cI (xS kk).P 194 H=some (.ptr (bG [(V.lit (Value.int .i64 (0))),(V.lit (Value.int .i64 (0)))] H).2.length 0 0 0,(bG [(V.lit (Value.int .i64 (0))),(V.lit (Value.int .i64 (0)))] H).2++[.box (bG [(V.lit (Value.int .i64 (0))),(V.lit (Value.int .i64 (0)))] H).1]):=by kernel_rfl
theorem aeG:cI (xS kk).P 223 H=some (.ptr (bG [V.nil] H).2.length 0 0 0,(bG [V.nil] H).2++[.box (bG [V.nil] H).1]):=by kernel_rfl
theorem agY:cI (xS kk).P 236 H=some (.ptr (bG [(V.lit Value.nilFunc),(V.lit Value.nilFunc),(V.lit Value.nilFunc),(V.lit Value.nilFunc)] H).2.length 0 0 0,(bG [(V.lit Value.nilFunc),(V.lit Value.nilFunc),(V.lit Value.nilFunc),(V.lit Value.nilFunc)] H).2++[.box (bG [(V.lit Value.nilFunc),(V.lit Value.nilFunc),(V.lit Value.nilFunc),(V.lit Value.nilFunc)] H).1]):=by kernel_rfl
theorem abX:ag (xS kk).P 23 (.rp cs) 0=some (.rp (cs.drop 0)):=by kernel_rfl
theorem aac (row off:Nat):ag (xS kk).P 23 (.ptr id g row off) 0=some (.ptr id g row (off+0)):=by kernel_rfl
theorem acy:ag (xS kk).P 23 (.rp cs) 1=some (.rp (cs.drop 1)):=by kernel_rfl
theorem aaP (row off:Nat):ag (xS kk).P 23 (.ptr id g row off) 1=some (.ptr id g row (off+1)):=by kernel_rfl
theorem aav:ag (xS kk).P 23 (.rp cs) 2=some (.rp (cs.drop 2)):=by kernel_rfl
theorem aar (row off:Nat):ag (xS kk).P 23 (.ptr id g row off) 2=some (.ptr id g row (off+2)):=by kernel_rfl
theorem YT:ag (xS kk).P 23 (.rp cs) 3=some (.rp (cs.drop 3)):=by kernel_rfl
theorem ach (row off:Nat):ag (xS kk).P 23 (.ptr id g row off) 3=some (.ptr id g row (off+3)):=by kernel_rfl
theorem acf:ag (xS kk).P 30 (.rp cs) 0=some (.rp (cs.drop 0)):=by kernel_rfl
theorem abS (row off:Nat):ag (xS kk).P 30 (.ptr id g row off) 0=some (.ptr id g row (off+0)):=by kernel_rfl
theorem aah:ag (xS kk).P 30 (.rp cs) 1=some (.rp (cs.drop 4)):=by kernel_rfl
theorem ZL (row off:Nat):ag (xS kk).P 30 (.ptr id g row off) 1=some (.ptr id g row (off+4)):=by kernel_rfl
theorem aa9:ag (xS kk).P 30 (.rp cs) 2=some (.rp (cs.drop 5)):=by kernel_rfl
theorem Zx (row off:Nat):ag (xS kk).P 30 (.ptr id g row off) 2=some (.ptr id g row (off+5)):=by kernel_rfl
theorem X4:ag (xS kk).P 30 (.rp cs) 3=some (.rp (cs.drop 6)):=by kernel_rfl
theorem YA (row off:Nat):ag (xS kk).P 30 (.ptr id g row off) 3=some (.ptr id g row (off+6)):=by kernel_rfl
theorem Yk:ag (xS kk).P 30 (.rp cs) 4=some (.rp (cs.drop 7)):=by kernel_rfl
theorem aaB (row off:Nat):ag (xS kk).P 30 (.ptr id g row off) 4=some (.ptr id g row (off+7)):=by kernel_rfl
theorem Yt:ag (xS kk).P 48 (.rp cs) 0=some (.rp (cs.drop 0)):=by kernel_rfl
theorem abL (row off:Nat):ag (xS kk).P 48 (.ptr id g row off) 0=some (.ptr id g row (off+0)):=by kernel_rfl
theorem aci:ag (xS kk).P 48 (.rp cs) 1=some (.rp (cs.drop 1)):=by kernel_rfl
theorem aca (row off:Nat):ag (xS kk).P 48 (.ptr id g row off) 1=some (.ptr id g row (off+1)):=by kernel_rfl
theorem abp:ag (xS kk).P 48 (.rp cs) 2=some (.rp (cs.drop 2)):=by kernel_rfl
theorem acl (row off:Nat):ag (xS kk).P 48 (.ptr id g row off) 2=some (.ptr id g row (off+2)):=by kernel_rfl
theorem aaU:ag (xS kk).P 52 (.rp cs) 0=some (.rp (cs.drop 0)):=by kernel_rfl
theorem abW (row off:Nat):ag (xS kk).P 52 (.ptr id g row off) 0=some (.ptr id g row (off+0)):=by kernel_rfl
theorem acS:ag (xS kk).P 55 (.rp cs) 0=some (.rp (cs.drop 0)):=by kernel_rfl
theorem aaW (row off:Nat):ag (xS kk).P 55 (.ptr id g row off) 0=some (.ptr id g row (off+0)):=by kernel_rfl
theorem acR:ag (xS kk).P 55 (.rp cs) 1=some (.rp (cs.drop 1)):=by kernel_rfl
theorem abP (row off:Nat):ag (xS kk).P 55 (.ptr id g row off) 1=some (.ptr id g row (off+1)):=by kernel_rfl
theorem Yv:ag (xS kk).P 55 (.rp cs) 2=some (.rp (cs.drop 2)):=by kernel_rfl
theorem Yg (row off:Nat):ag (xS kk).P 55 (.ptr id g row off) 2=some (.ptr id g row (off+2)):=by kernel_rfl
theorem aaq:ag (xS kk).P 55 (.rp cs) 3=some (.rp (cs.drop 3)):=by kernel_rfl
theorem Yn (row off:Nat):ag (xS kk).P 55 (.ptr id g row off) 3=some (.ptr id g row (off+3)):=by kernel_rfl
theorem Yo:ag (xS kk).P 55 (.rp cs) 4=some (.rp (cs.drop 4)):=by kernel_rfl
theorem Ya (row off:Nat):ag (xS kk).P 55 (.ptr id g row off) 4=some (.ptr id g row (off+4)):=by kernel_rfl
theorem ZB:ag (xS kk).P 55 (.rp cs) 5=some (.rp (cs.drop 5)):=by kernel_rfl
theorem aap (row off:Nat):ag (xS kk).P 55 (.ptr id g row off) 5=some (.ptr id g row (off+5)):=by kernel_rfl
theorem XR:ag (xS kk).P 55 (.rp cs) 6=some (.rp (cs.drop 6)):=by kernel_rfl
theorem abA (row off:Nat):ag (xS kk).P 55 (.ptr id g row off) 6=some (.ptr id g row (off+6)):=by kernel_rfl
theorem XP:ag (xS kk).P 57 (.rp cs) 0=some (.rp (cs.drop 0)):=by kernel_rfl
theorem abY (row off:Nat):ag (xS kk).P 57 (.ptr id g row off) 0=some (.ptr id g row (off+0)):=by kernel_rfl
theorem Zv:ag (xS kk).P 57 (.rp cs) 1=some (.rp (cs.drop 1)):=by kernel_rfl
theorem aco (row off:Nat):ag (xS kk).P 57 (.ptr id g row off) 1=some (.ptr id g row (off+1)):=by kernel_rfl
theorem aa8:ag (xS kk).P 57 (.rp cs) 2=some (.rp (cs.drop 2)):=by kernel_rfl
theorem ab1 (row off:Nat):ag (xS kk).P 57 (.ptr id g row off) 2=some (.ptr id g row (off+2)):=by kernel_rfl
theorem acC:ag (xS kk).P 65 (.rp cs) 0=some (.rp (cs.drop 0)):=by kernel_rfl
theorem Y7 (row off:Nat):ag (xS kk).P 65 (.ptr id g row off) 0=some (.ptr id g row (off+0)):=by kernel_rfl
theorem aab:ag (xS kk).P 65 (.rp cs) 1=some (.rp (cs.drop 1)):=by kernel_rfl
theorem ab2 (row off:Nat):ag (xS kk).P 65 (.ptr id g row off) 1=some (.ptr id g row (off+1)):=by kernel_rfl
theorem aaA:ag (xS kk).P 65 (.rp cs) 2=some (.rp (cs.drop 2)):=by kernel_rfl
theorem X1 (row off:Nat):ag (xS kk).P 65 (.ptr id g row off) 2=some (.ptr id g row (off+2)):=by kernel_rfl
theorem abD:ag (xS kk).P 65 (.rp cs) 3=some (.rp (cs.drop 9)):=by kernel_rfl
theorem ZQ (row off:Nat):ag (xS kk).P 65 (.ptr id g row off) 3=some (.ptr id g row (off+9)):=by kernel_rfl
theorem aau:ag (xS kk).P 65 (.rp cs) 4=some (.rp (cs.drop 10)):=by kernel_rfl
theorem aaf (row off:Nat):ag (xS kk).P 65 (.ptr id g row off) 4=some (.ptr id g row (off+10)):=by kernel_rfl
theorem UA:ag (xS kk).P 101 (.rp cs) 0=some (.rp (cs.drop 0)):=by kernel_rfl
theorem SN (row off:Nat):ag (xS kk).P 101 (.ptr id g row off) 0=some (.ptr id g row (off+0)):=by kernel_rfl
theorem WC:ag (xS kk).P 101 (.rp cs) 1=some (.rp (cs.drop 1)):=by kernel_rfl
theorem VD (row off:Nat):ag (xS kk).P 101 (.ptr id g row off) 1=some (.ptr id g row (off+1)):=by kernel_rfl
theorem TJ:ag (xS kk).P 129 (.rp cs) 0=some (.rp (cs.drop 0)):=by kernel_rfl
theorem V4 (row off:Nat):ag (xS kk).P 129 (.ptr id g row off) 0=some (.ptr id g row (off+0)):=by kernel_rfl
theorem UI:ag (xS kk).P 129 (.rp cs) 1=some (.rp (cs.drop 1)):=by kernel_rfl
theorem U2 (row off:Nat):ag (xS kk).P 129 (.ptr id g row off) 1=some (.ptr id g row (off+1)):=by kernel_rfl
theorem US:ag (xS kk).P 129 (.rp cs) 2=some (.rp (cs.drop 2)):=by kernel_rfl
theorem VR (row off:Nat):ag (xS kk).P 129 (.ptr id g row off) 2=some (.ptr id g row (off+2)):=by kernel_rfl
theorem Te:ag (xS kk).P 168 (.rp cs) 0=some (.rp (cs.drop 0)):=by kernel_rfl
theorem VV (row off:Nat):ag (xS kk).P 168 (.ptr id g row off) 0=some (.ptr id g row (off+0)):=by kernel_rfl
theorem SX:ag (xS kk).P 168 (.rp cs) 1=some (.rp (cs.drop 11)):=by kernel_rfl
theorem Sx (row off:Nat):ag (xS kk).P 168 (.ptr id g row off) 1=some (.ptr id g row (off+11)):=by kernel_rfl
theorem Vi:ag (xS kk).P 168 (.rp cs) 2=some (.rp (cs.drop 15)):=by kernel_rfl
theorem Tc (row off:Nat):ag (xS kk).P 168 (.ptr id g row off) 2=some (.ptr id g row (off+15)):=by kernel_rfl
theorem VC:ag (xS kk).P 168 (.rp cs) 3=some (.rp (cs.drop 16)):=by kernel_rfl
theorem Wu (row off:Nat):ag (xS kk).P 168 (.ptr id g row off) 3=some (.ptr id g row (off+16)):=by kernel_rfl
theorem UH:ag (xS kk).P 168 (.rp cs) 4=some (.rp (cs.drop 17)):=by kernel_rfl
theorem V9 (row off:Nat):ag (xS kk).P 168 (.ptr id g row off) 4=some (.ptr id g row (off+17)):=by kernel_rfl
theorem VE:ag (xS kk).P 168 (.rp cs) 5=some (.rp (cs.drop 18)):=by kernel_rfl
theorem Ty (row off:Nat):ag (xS kk).P 168 (.ptr id g row off) 5=some (.ptr id g row (off+18)):=by kernel_rfl
theorem Ur:ag (xS kk).P 168 (.rp cs) 6=some (.rp (cs.drop 19)):=by kernel_rfl
theorem U8 (row off:Nat):ag (xS kk).P 168 (.ptr id g row off) 6=some (.ptr id g row (off+19)):=by kernel_rfl
theorem V2:ag (xS kk).P 194 (.rp cs) 0=some (.rp (cs.drop 0)):=by kernel_rfl
theorem Vd (row off:Nat):ag (xS kk).P 194 (.ptr id g row off) 0=some (.ptr id g row (off+0)):=by kernel_rfl
theorem SJ:ag (xS kk).P 194 (.rp cs) 1=some (.rp (cs.drop 1)):=by kernel_rfl
theorem Wj (row off:Nat):ag (xS kk).P 194 (.ptr id g row off) 1=some (.ptr id g row (off+1)):=by kernel_rfl
theorem TQ:ag (xS kk).P 205 (.rp cs) 0=some (.rp (cs.drop 0)):=by kernel_rfl
theorem SH (row off:Nat):ag (xS kk).P 205 (.ptr id g row off) 0=some (.ptr id g row (off+0)):=by kernel_rfl
theorem Wh:ag (xS kk).P 205 (.rp cs) 1=some (.rp (cs.drop 7)):=by kernel_rfl
theorem Vs (row off:Nat):ag (xS kk).P 205 (.ptr id g row off) 1=some (.ptr id g row (off+7)):=by kernel_rfl
theorem VH:ag (xS kk).P 205 (.rp cs) 2=some (.rp (cs.drop 11)):=by kernel_rfl
theorem Ui (row off:Nat):ag (xS kk).P 205 (.ptr id g row off) 2=some (.ptr id g row (off+11)):=by kernel_rfl
theorem Tb:ag (xS kk).P 221 (.rp cs) 0=some (.rp (cs.drop 0)):=by kernel_rfl
theorem Tp (row off:Nat):ag (xS kk).P 221 (.ptr id g row off) 0=some (.ptr id g row (off+0)):=by kernel_rfl
theorem U1:ag (xS kk).P 221 (.rp cs) 1=some (.rp (cs.drop 7)):=by kernel_rfl
theorem T3 (row off:Nat):ag (xS kk).P 221 (.ptr id g row off) 1=some (.ptr id g row (off+7)):=by kernel_rfl
theorem Uf:ag (xS kk).P 221 (.rp cs) 2=some (.rp (cs.drop 11)):=by kernel_rfl
theorem VU (row off:Nat):ag (xS kk).P 221 (.ptr id g row off) 2=some (.ptr id g row (off+11)):=by kernel_rfl
theorem Vf:ag (xS kk).P 235 (.rp cs) 0=some (.rp (cs.drop 0)):=by kernel_rfl
theorem Vh (row off:Nat):ag (xS kk).P 235 (.ptr id g row off) 0=some (.ptr id g row (off+0)):=by kernel_rfl
theorem Uh:ag (xS kk).P 235 (.rp cs) 1=some (.rp (cs.drop 7)):=by kernel_rfl
theorem TS (row off:Nat):ag (xS kk).P 235 (.ptr id g row off) 1=some (.ptr id g row (off+7)):=by kernel_rfl
theorem T2:ag (xS kk).P 235 (.rp cs) 2=some (.rp (cs.drop 11)):=by kernel_rfl
theorem T1 (row off:Nat):ag (xS kk).P 235 (.ptr id g row off) 2=some (.ptr id g row (off+11)):=by kernel_rfl
theorem UG:CJ (xS kk).P 194 (.agg cs) 0=aS (xS kk).P 3 (cs.drop 0):=by kernel_rfl
theorem alf (l:Tyt):aA (xS kk).P 24 (.ro (l.map ak)) (.lit (.int k n)) H=(idx l n).map fun x => .rp (ak x):=cd (e:=101) (by kernel_rfl) (fun x=>(by kernel_rfl:(ak x).length=aR (xS kk).P 101)) (by kernel_rfl)
theorem aoe:aA (xS kk).P 24 (.own id g len) (.lit (.int k n)) H=ixB 2 g len id n (H[id]?):=bf (P:=(xS kk).P) (e:=101) (by kernel_rfl) (by kernel_rfl)
theorem aiF (l:List Int):aA (xS kk).P 26 (.ro (l.map (av .u64))) (.lit (.int k n)) H=(idx l n).map fun x => .rp ((av .u64) x):=cd (e:=46) (by kernel_rfl) (fun x=>(by kernel_rfl:((av .u64) x).length=aR (xS kk).P 46)) (by kernel_rfl)
theorem amn:aA (xS kk).P 26 (.own id g len) (.lit (.int k n)) H=ixB 1 g len id n (H[id]?):=bf (P:=(xS kk).P) (e:=46) (by kernel_rfl) (by kernel_rfl)
theorem aoG (l:List Tyw):aA (xS kk).P 27 (.ro (l.map aF)) (.lit (.int k n)) H=(idx l n).map fun x => .rp (aF x):=cd (e:=65) (by kernel_rfl) (fun x=>(by kernel_rfl:(aF x).length=aR (xS kk).P 65)) (by kernel_rfl)
theorem anH:aA (xS kk).P 27 (.own id g len) (.lit (.int k n)) H=ixB 11 g len id n (H[id]?):=bf (P:=(xS kk).P) (e:=65) (by kernel_rfl) (by kernel_rfl)
theorem amD (l:List Tys):aA (xS kk).P 28 (.ro (l.map bn)) (.lit (.int k n)) H=(idx l n).map fun x => .rp (bn x):=cd (e:=57) (by kernel_rfl) (fun x=>(by kernel_rfl:(bn x).length=aR (xS kk).P 57)) (by kernel_rfl)
theorem ain:aA (xS kk).P 28 (.own id g len) (.lit (.int k n)) H=ixB 9 g len id n (H[id]?):=bf (P:=(xS kk).P) (e:=57) (by kernel_rfl) (by kernel_rfl)
theorem aiA (l:Tye):aA (xS kk).P 31 (.ro (l.map gT)) (.lit (.int k n)) H=(idx l n).map fun x => .rp (gT x):=cd (e:=48) (by kernel_rfl) (fun x=>(by kernel_rfl:(gT x).length=aR (xS kk).P 48)) (by kernel_rfl)
theorem alG:aA (xS kk).P 31 (.own id g len) (.lit (.int k n)) H=ixB 3 g len id n (H[id]?):=bf (P:=(xS kk).P) (e:=48) (by kernel_rfl) (by kernel_rfl)
theorem ami (l:Tye):aA (xS kk).P 34 (.ro (l.map az)) (.lit (.int k n)) H=(idx l n).map fun x => .rp (az x):=cd (e:=52) (by kernel_rfl) (fun x=>(by kernel_rfl:(az x).length=aR (xS kk).P 52)) (by kernel_rfl)
theorem anJ:aA (xS kk).P 34 (.own id g len) (.lit (.int k n)) H=ixB 3 g len id n (H[id]?):=bf (P:=(xS kk).P) (e:=52) (by kernel_rfl) (by kernel_rfl)
theorem ajq (l:List (List Int)):aA (xS kk).P 40 (.ro (l.map cz)) (.lit (.int k n)) H=(idx l n).map fun x => .rp (cz x):=cd (e:=53) (by kernel_rfl) (fun x=>(by kernel_rfl:(cz x).length=aR (xS kk).P 53)) (by kernel_rfl)
theorem ai7:aA (xS kk).P 40 (.own id g len) (.lit (.int k n)) H=ixB 1 g len id n (H[id]?):=bf (P:=(xS kk).P) (e:=53) (by kernel_rfl) (by kernel_rfl)
theorem alj (l:List Int):aA (xS kk).P 53 (.ro (l.map (av .i64))) (.lit (.int k n)) H=(idx l n).map fun x => .rp ((av .i64) x):=cd (e:=3) (by kernel_rfl) (fun x=>(by kernel_rfl:((av .i64) x).length=aR (xS kk).P 3)) (by kernel_rfl)
theorem an1:aA (xS kk).P 53 (.own id g len) (.lit (.int k n)) H=ixB 1 g len id n (H[id]?):=bf (P:=(xS kk).P) (e:=3) (by kernel_rfl) (by kernel_rfl)
theorem ajF (l:Tye):aA (xS kk).P 63 (.ro (l.map az)) (.lit (.int k n)) H=(idx l n).map fun x => .rp (az x):=cd (e:=129) (by kernel_rfl) (fun x=>(by kernel_rfl:(az x).length=aR (xS kk).P 129)) (by kernel_rfl)
theorem anI:aA (xS kk).P 63 (.own id g len) (.lit (.int k n)) H=ixB 3 g len id n (H[id]?):=bf (P:=(xS kk).P) (e:=129) (by kernel_rfl) (by kernel_rfl)
theorem agW (l:List Bool):aA (xS kk).P 150 (.ro (l.map fF)) (.lit (.int k n)) H=(idx l n).map fun x => .rp (fF x):=cd (e:=4) (by kernel_rfl) (fun x=>(by kernel_rfl:(fF x).length=aR (xS kk).P 4)) (by kernel_rfl)
theorem agu:aA (xS kk).P 150 (.own id g len) (.lit (.int k n)) H=ixB 1 g len id n (H[id]?):=bf (P:=(xS kk).P) (e:=4) (by kernel_rfl) (by kernel_rfl)
theorem aeD:aA (xS kk).P 207 (.own id g len) (.lit (.int k n)) H=ixB 1 g len id n (H[id]?):=bf (P:=(xS kk).P) (e:=206) (by kernel_rfl) (by kernel_rfl)
theorem afu:aA (xS kk).P 223 (.own id g len) (.lit (.int k n)) H=ixB 1 g len id n (H[id]?):=bf (P:=(xS kk).P) (e:=116) (by kernel_rfl) (by kernel_rfl)
theorem ahG:aA (xS kk).P 238 (.own id g len) (.lit (.int k n)) H=ixB 1 g len id n (H[id]?):=bf (P:=(xS kk).P) (e:=1) (by kernel_rfl) (by kernel_rfl)
theorem ag8:rc (xS kk).P 24 x H=(AE x H).map fun v=>(v,H):=by kernel_rfl
theorem ag3:rc (xS kk).P 25 x H=(AE x H).map fun v=>(v,H):=by kernel_rfl
theorem agS:rc (xS kk).P 26 x H=(AE x H).map fun v=>(v,H):=by kernel_rfl
theorem afw:rc (xS kk).P 27 x H=(AE x H).map fun v=>(v,H):=by kernel_rfl
theorem adc:rc (xS kk).P 28 x H=(AE x H).map fun v=>(v,H):=by kernel_rfl
theorem afZ:rc (xS kk).P 31 x H=(AE x H).map fun v=>(v,H):=by kernel_rfl
theorem aeL:rc (xS kk).P 34 x H=(AE x H).map fun v=>(v,H):=by kernel_rfl
theorem agl:rc (xS kk).P 40 x H=(AE x H).map fun v=>(v,H):=by kernel_rfl
theorem ahy:rc (xS kk).P 53 x H=(AE x H).map fun v=>(v,H):=by kernel_rfl
theorem adE:rc (xS kk).P 63 x H=(AE x H).map fun v=>(v,H):=by kernel_rfl
theorem acd:rc (xS kk).P 207 x H=(AE x H).map fun v=>(v,H):=by kernel_rfl
theorem ZR:rc (xS kk).P 238 x H=(AE x H).map fun v=>(v,H):=by kernel_rfl
theorem Vy:Ay (xS kk).P wl 24 24 s x H=bA (xS kk).P wl 24 s x H:=by kernel_rfl
theorem Tf:bA (xS kk).P wl 24 (.own id g len) x H=(b8 x H).bind fun xs=>bif cg 2 xs then apB wl 101 2 32 id g len xs H (H[id]?) else none:=(eW (P:=(xS kk).P) (t:=24) (e:=101) (by kernel_rfl) (by kernel_rfl)).trans (by kernel_rfl)
theorem TX:bA (xS kk).P wl 24 .nil x H=(b8 x H).bind fun xs=>bif cg 2 xs then bif decide (xs.length*32≤70368744177664) then some (.own H.length 0 xs.length,H++[.rows 2 xs 0 true]) else none else none:=(eJ (P:=(xS kk).P) (t:=24) (e:=101) (by kernel_rfl) (by kernel_rfl)).trans (by kernel_rfl)
theorem S7:Ay (xS kk).P wl 25 25 s x H=bA (xS kk).P wl 25 s x H:=by kernel_rfl
theorem Sq:bA (xS kk).P wl 25 (.own id g len) x H=(b8 x H).bind fun xs=>bif cg 1 xs then apB wl 46 1 8 id g len xs H (H[id]?) else none:=(eW (P:=(xS kk).P) (t:=25) (e:=46) (by kernel_rfl) (by kernel_rfl)).trans (by kernel_rfl)
theorem Wg:bA (xS kk).P wl 25 .nil x H=(b8 x H).bind fun xs=>bif cg 1 xs then bif decide (xs.length*8≤70368744177664) then some (.own H.length 0 xs.length,H++[.rows 1 xs 0 true]) else none else none:=(eJ (P:=(xS kk).P) (t:=25) (e:=46) (by kernel_rfl) (by kernel_rfl)).trans (by kernel_rfl)
theorem TH:Ay (xS kk).P wl 26 26 s x H=bA (xS kk).P wl 26 s x H:=by kernel_rfl
theorem SO:bA (xS kk).P wl 26 (.own id g len) x H=(b8 x H).bind fun xs=>bif cg 1 xs then apB wl 46 1 8 id g len xs H (H[id]?) else none:=(eW (P:=(xS kk).P) (t:=26) (e:=46) (by kernel_rfl) (by kernel_rfl)).trans (by kernel_rfl)
theorem V0:bA (xS kk).P wl 26 .nil x H=(b8 x H).bind fun xs=>bif cg 1 xs then bif decide (xs.length*8≤70368744177664) then some (.own H.length 0 xs.length,H++[.rows 1 xs 0 true]) else none else none:=(eJ (P:=(xS kk).P) (t:=26) (e:=46) (by kernel_rfl) (by kernel_rfl)).trans (by kernel_rfl)
theorem WA:Ay (xS kk).P wl 27 27 s x H=bA (xS kk).P wl 27 s x H:=by kernel_rfl
theorem Tw:bA (xS kk).P wl 27 (.own id g len) x H=(b8 x H).bind fun xs=>bif cg 11 xs then apB wl 65 11 104 id g len xs H (H[id]?) else none:=(eW (P:=(xS kk).P) (t:=27) (e:=65) (by kernel_rfl) (by kernel_rfl)).trans (by kernel_rfl)
theorem Wb:bA (xS kk).P wl 27 .nil x H=(b8 x H).bind fun xs=>bif cg 11 xs then bif decide (xs.length*104≤70368744177664) then some (.own H.length 0 xs.length,H++[.rows 11 xs 0 true]) else none else none:=(eJ (P:=(xS kk).P) (t:=27) (e:=65) (by kernel_rfl) (by kernel_rfl)).trans (by kernel_rfl)
theorem Ww:Ay (xS kk).P wl 28 28 s x H=bA (xS kk).P wl 28 s x H:=by kernel_rfl
theorem V8:bA (xS kk).P wl 28 (.own id g len) x H=(b8 x H).bind fun xs=>bif cg 9 xs then apB wl 57 9 88 id g len xs H (H[id]?) else none:=(eW (P:=(xS kk).P) (t:=28) (e:=57) (by kernel_rfl) (by kernel_rfl)).trans (by kernel_rfl)
theorem VS:bA (xS kk).P wl 28 .nil x H=(b8 x H).bind fun xs=>bif cg 9 xs then bif decide (xs.length*88≤70368744177664) then some (.own H.length 0 xs.length,H++[.rows 9 xs 0 true]) else none else none:=(eJ (P:=(xS kk).P) (t:=28) (e:=57) (by kernel_rfl) (by kernel_rfl)).trans (by kernel_rfl)
theorem Vz:Ay (xS kk).P wl 34 34 s x H=bA (xS kk).P wl 34 s x H:=by kernel_rfl
theorem Up:bA (xS kk).P wl 34 (.own id g len) x H=(b8 x H).bind fun xs=>bif cg 3 xs then apB wl 52 3 24 id g len xs H (H[id]?) else none:=(eW (P:=(xS kk).P) (t:=34) (e:=52) (by kernel_rfl) (by kernel_rfl)).trans (by kernel_rfl)
theorem Tx:bA (xS kk).P wl 34 .nil x H=(b8 x H).bind fun xs=>bif cg 3 xs then bif decide (xs.length*24≤70368744177664) then some (.own H.length 0 xs.length,H++[.rows 3 xs 0 true]) else none else none:=(eJ (P:=(xS kk).P) (t:=34) (e:=52) (by kernel_rfl) (by kernel_rfl)).trans (by kernel_rfl)
theorem Ua:Ay (xS kk).P wl 53 53 s x H=bA (xS kk).P wl 53 s x H:=by kernel_rfl
theorem SD:bA (xS kk).P wl 53 (.own id g len) x H=(b8 x H).bind fun xs=>bif cg 1 xs then apB wl 3 1 8 id g len xs H (H[id]?) else none:=(eW (P:=(xS kk).P) (t:=53) (e:=3) (by kernel_rfl) (by kernel_rfl)).trans (by kernel_rfl)
theorem TR:bA (xS kk).P wl 53 .nil x H=(b8 x H).bind fun xs=>bif cg 1 xs then bif decide (xs.length*8≤70368744177664) then some (.own H.length 0 xs.length,H++[.rows 1 xs 0 true]) else none else none:=(eJ (P:=(xS kk).P) (t:=53) (e:=3) (by kernel_rfl) (by kernel_rfl)).trans (by kernel_rfl)
theorem Uj:Ay (xS kk).P wl 63 63 s x H=bA (xS kk).P wl 63 s x H:=by kernel_rfl
theorem UF:bA (xS kk).P wl 63 (.own id g len) x H=(b8 x H).bind fun xs=>bif cg 3 xs then apB wl 129 3 24 id g len xs H (H[id]?) else none:=(eW (P:=(xS kk).P) (t:=63) (e:=129) (by kernel_rfl) (by kernel_rfl)).trans (by kernel_rfl)
theorem Wk:bA (xS kk).P wl 63 .nil x H=(b8 x H).bind fun xs=>bif cg 3 xs then bif decide (xs.length*24≤70368744177664) then some (.own H.length 0 xs.length,H++[.rows 3 xs 0 true]) else none else none:=(eJ (P:=(xS kk).P) (t:=63) (e:=129) (by kernel_rfl) (by kernel_rfl)).trans (by kernel_rfl)
theorem aol (c:Bool):cw (xS kk).P wl c 53 (.own id g len) none (some (.lit (.int k n))) none H=slB g len id n H (H[id]?):=pE (P:=(xS kk).P) (e:=3) (by kernel_rfl) (by kernel_rfl)
theorem aji (c:Bool) (l:List Int):cw (xS kk).P wl c 53 (.ro (l.map (av .i64))) none (some (.lit (.int k n))) none H=bif decide (0≤n∧n≤l.length) then some (.ro ((l.take n.toNat).map (av .i64)),H) else none:=u5 (P:=(xS kk).P) (e:=3) (by kernel_rfl) (by kernel_rfl) (fun x=>(by kernel_rfl:((av .i64) x).length=aR (xS kk).P 3))
theorem ak7 (c:Bool) (l:List Int):cw (xS kk).P wl c 53 (.ro (l.map (av .i64))) (some (.lit (.int k n))) none none H=bif decide (0≤n∧n≤l.length) then some (.ro ((l.drop n.toNat).map (av .i64)),H) else none:=uP (P:=(xS kk).P) (e:=3) (by kernel_rfl) (by kernel_rfl) (fun x=>(by kernel_rfl:((av .i64) x).length=aR (xS kk).P 3))
theorem ajw (c:Bool) (l:List Int) (k2:IntKind) (lo:Int):cw (xS kk).P wl c 53 (.ro (l.map (av .i64))) (some (.lit (.int k lo))) (some (.lit (.int k2 n))) none H=bif decide (0≤lo∧lo≤n∧n≤l.length) then some (.ro (((l.take n.toNat).drop lo.toNat).map (av .i64)),H) else none:=nV (P:=(xS kk).P) (e:=3) (by kernel_rfl) (by kernel_rfl) (fun x=>(by kernel_rfl:((av .i64) x).length=aR (xS kk).P 3))
theorem alm (c:Bool):cw (xS kk).P wl c 63 (.own id g len) none (some (.lit (.int k n))) none H=slB g len id n H (H[id]?):=pE (P:=(xS kk).P) (e:=129) (by kernel_rfl) (by kernel_rfl)
theorem ano (c:Bool) (l:Tye):cw (xS kk).P wl c 63 (.ro (l.map az)) none (some (.lit (.int k n))) none H=bif decide (0≤n∧n≤l.length) then some (.ro ((l.take n.toNat).map az),H) else none:=u5 (P:=(xS kk).P) (e:=129) (by kernel_rfl) (by kernel_rfl) (fun x=>(by kernel_rfl:(az x).length=aR (xS kk).P 129))
theorem aj4 (c:Bool) (l:Tye):cw (xS kk).P wl c 63 (.ro (l.map az)) (some (.lit (.int k n))) none none H=bif decide (0≤n∧n≤l.length) then some (.ro ((l.drop n.toNat).map az),H) else none:=uP (P:=(xS kk).P) (e:=129) (by kernel_rfl) (by kernel_rfl) (fun x=>(by kernel_rfl:(az x).length=aR (xS kk).P 129))
theorem amR (c:Bool) (l:Tye) (k2:IntKind) (lo:Int):cw (xS kk).P wl c 63 (.ro (l.map az)) (some (.lit (.int k lo))) (some (.lit (.int k2 n))) none H=bif decide (0≤lo∧lo≤n∧n≤l.length) then some (.ro (((l.take n.toNat).drop lo.toNat).map az),H) else none:=nV (P:=(xS kk).P) (e:=129) (by kernel_rfl) (by kernel_rfl) (fun x=>(by kernel_rfl:(az x).length=aR (xS kk).P 129))
theorem afg:aX (xS kk).P 150 (.lit (.int .i64 n)) (.lit (.int .i64 n)) H=bif decide (0≤n∧n≤9223372036854775807∧n*1≤70368744177664) then some (.own H.length 0 n.toNat,H++[.rows 1 (List.replicate n.toNat [(V.lit (Value.bool false))]) 0 true]) else none:=u2 (P:=(xS kk).P) (t:=150) (e:=4) (z:=((fN (xS kk).P 4).getD default)) (by kernel_rfl) (by kernel_rfl) (by kernel_rfl) (by kernel_rfl)
theorem XT:C5 (xS kk).P 3 46 (.lit (.int k n))=some (.lit (.int .u64 (IntKind.wrap .u64 n))):=by kernel_rfl
theorem ZN:C5 (xS kk).P 46 3 (.lit (.int k n))=some (.lit (.int .i64 (IntKind.wrap .i64 n))):=by kernel_rfl
theorem aj6 (a0 b0:Int) (a1 b1:Int) (a2 b2:Int) (a3 b3:Int):k7 (xS kk).P .eql 23 (.agg [.lit (.int .i64 a0),.lit (.int .i64 a1),.lit (.int .i64 a2),.lit (.int .i64 a3)]) (.agg [.lit (.int .i64 b0),.lit (.int .i64 b1),.lit (.int .i64 b2),.lit (.int .i64 b3)])=some (.lit (.bool ((a0==b0)&&((a1==b1)&&((a2==b2)&&((a3==b3)&&true)))))):=by kernel_rfl
theorem amZ (a0 b0:Int) (a1 b1:Int) (a2 b2:Int) (a3 b3:Int):k7 (xS kk).P .neq 23 (.agg [.lit (.int .i64 a0),.lit (.int .i64 a1),.lit (.int .i64 a2),.lit (.int .i64 a3)]) (.agg [.lit (.int .i64 b0),.lit (.int .i64 b1),.lit (.int .i64 b2),.lit (.int .i64 b3)])=some (.lit (.bool (!((a0==b0)&&((a1==b1)&&((a2==b2)&&((a3==b3)&&true))))))):=by kernel_rfl
theorem aml (a0 b0:Int) (a1 b1:Int) (a2 b2:Int):k7 (xS kk).P .eql 52 (.agg [.lit (.int .i64 a0),.lit (.int .i64 a1),.lit (.int .i64 a2)]) (.agg [.lit (.int .i64 b0),.lit (.int .i64 b1),.lit (.int .i64 b2)])=some (.lit (.bool ((a0==b0)&&((a1==b1)&&((a2==b2)&&true))))):=by kernel_rfl
theorem aog (a0 b0:Int) (a1 b1:Int) (a2 b2:Int):k7 (xS kk).P .neq 52 (.agg [.lit (.int .i64 a0),.lit (.int .i64 a1),.lit (.int .i64 a2)]) (.agg [.lit (.int .i64 b0),.lit (.int .i64 b1),.lit (.int .i64 b2)])=some (.lit (.bool (!((a0==b0)&&((a1==b1)&&((a2==b2)&&true)))))):=by kernel_rfl
theorem ajt (a0 b0:Int) (a1 b1:Int) (a2 b2:Int) (a3 b3:Int) (a4 b4:Int) (a5 b5:Int) (a6 b6:Int):k7 (xS kk).P .eql 55 (.agg [.lit (.int .i64 a0),.lit (.int .i64 a1),.lit (.int .i64 a2),.lit (.int .u64 a3),.lit (.int .u64 a4),.lit (.int .u64 a5),.lit (.int .i64 a6)]) (.agg [.lit (.int .i64 b0),.lit (.int .i64 b1),.lit (.int .i64 b2),.lit (.int .u64 b3),.lit (.int .u64 b4),.lit (.int .u64 b5),.lit (.int .i64 b6)])=some (.lit (.bool ((a0==b0)&&((a1==b1)&&((a2==b2)&&((a3==b3)&&((a4==b4)&&((a5==b5)&&((a6==b6)&&true))))))))):=by kernel_rfl
theorem anh (a0 b0:Int) (a1 b1:Int) (a2 b2:Int) (a3 b3:Int) (a4 b4:Int) (a5 b5:Int) (a6 b6:Int):k7 (xS kk).P .neq 55 (.agg [.lit (.int .i64 a0),.lit (.int .i64 a1),.lit (.int .i64 a2),.lit (.int .u64 a3),.lit (.int .u64 a4),.lit (.int .u64 a5),.lit (.int .i64 a6)]) (.agg [.lit (.int .i64 b0),.lit (.int .i64 b1),.lit (.int .i64 b2),.lit (.int .u64 b3),.lit (.int .u64 b4),.lit (.int .u64 b5),.lit (.int .i64 b6)])=some (.lit (.bool (!((a0==b0)&&((a1==b1)&&((a2==b2)&&((a3==b3)&&((a4==b4)&&((a5==b5)&&((a6==b6)&&true)))))))))):=by kernel_rfl
theorem ahd (a0 b0:Int) (a1 b1:Int) (a2 b2:Int):k7 (xS kk).P .eql 129 (.agg [.lit (.int .i64 a0),.lit (.int .i64 a1),.lit (.int .i64 a2)]) (.agg [.lit (.int .i64 b0),.lit (.int .i64 b1),.lit (.int .i64 b2)])=some (.lit (.bool ((a0==b0)&&((a1==b1)&&((a2==b2)&&true))))):=by kernel_rfl
theorem adn (a0 b0:Int) (a1 b1:Int) (a2 b2:Int):k7 (xS kk).P .neq 129 (.agg [.lit (.int .i64 a0),.lit (.int .i64 a1),.lit (.int .i64 a2)]) (.agg [.lit (.int .i64 b0),.lit (.int .i64 b1),.lit (.int .i64 b2)])=some (.lit (.bool (!((a0==b0)&&((a1==b1)&&((a2==b2)&&true)))))):=by kernel_rfl
theorem Is (c0 c1 c2:V):dy (xS kk).P 23 [(0,c0),(1,c1),(2,c2)]=(ub [(V.lit (Value.int .i64 (0))),(V.lit (Value.int .i64 (0))),(V.lit (Value.int .i64 (0))),(V.lit (Value.int .i64 (0)))] [(0,1,c0),(1,1,c1),(2,1,c2)]).map .agg:=by kernel_rfl
theorem adi:dy (xS kk).P 30 []=(ub [(V.lit (Value.int .i64 (0))),(V.lit (Value.int .i64 (0))),(V.lit (Value.int .i64 (0))),(V.lit (Value.int .i64 (0))),V.nil,V.nil,V.nil,V.nil] []).map .agg:=by kernel_rfl
theorem J6 (c0 c1 c2:V):dy (xS kk).P 30 [(0,c0),(1,c1),(2,c2)]=(ub [(V.lit (Value.int .i64 (0))),(V.lit (Value.int .i64 (0))),(V.lit (Value.int .i64 (0))),(V.lit (Value.int .i64 (0))),V.nil,V.nil,V.nil,V.nil] [(0,4,c0),(4,1,c1),(5,1,c2)]).map .agg:=by kernel_rfl
theorem afR:dy (xS kk).P 48 []=(ub [(V.lit (Value.int .i64 (0))),(V.lit (Value.int .i64 (0))),(V.lit (Value.int .u64 (0)))] []).map .agg:=by kernel_rfl
theorem ZF (c0:V):dy (xS kk).P 48 [(0,c0)]=(ub [(V.lit (Value.int .i64 (0))),(V.lit (Value.int .i64 (0))),(V.lit (Value.int .u64 (0)))] [(0,1,c0)]).map .agg:=by kernel_rfl
theorem IN (c0 c1 c2:V):dy (xS kk).P 52 [(0,c0),(1,c1),(2,c2)]=(ub [(V.lit (Value.int .i64 (0))),(V.lit (Value.int .i64 (0))),(V.lit (Value.int .i64 (0)))] [(0,1,c0),(1,1,c1),(2,1,c2)]).map .agg:=by kernel_rfl
theorem agy:dy (xS kk).P 55 []=(ub [(V.lit (Value.int .i64 (0))),(V.lit (Value.int .i64 (0))),(V.lit (Value.int .i64 (0))),(V.lit (Value.int .u64 (0))),(V.lit (Value.int .u64 (0))),(V.lit (Value.int .u64 (0))),(V.lit (Value.int .i64 (0)))] []).map .agg:=by kernel_rfl
theorem IF (c0 c1 c2:V):dy (xS kk).P 55 [(0,c0),(2,c1),(3,c2)]=(ub [(V.lit (Value.int .i64 (0))),(V.lit (Value.int .i64 (0))),(V.lit (Value.int .i64 (0))),(V.lit (Value.int .u64 (0))),(V.lit (Value.int .u64 (0))),(V.lit (Value.int .u64 (0))),(V.lit (Value.int .i64 (0)))] [(0,1,c0),(2,1,c1),(3,1,c2)]).map .agg:=by kernel_rfl
theorem F7 (c0 c1 c2 c3:V):dy (xS kk).P 55 [(0,c0),(2,c1),(3,c2),(6,c3)]=(ub [(V.lit (Value.int .i64 (0))),(V.lit (Value.int .i64 (0))),(V.lit (Value.int .i64 (0))),(V.lit (Value.int .u64 (0))),(V.lit (Value.int .u64 (0))),(V.lit (Value.int .u64 (0))),(V.lit (Value.int .i64 (0)))] [(0,1,c0),(2,1,c1),(3,1,c2),(6,1,c3)]).map .agg:=by kernel_rfl
theorem Kg (c0 c1 c2:V):dy (xS kk).P 57 [(0,c0),(1,c1),(2,c2)]=(ub [(V.lit (Value.int .i64 (0))),V.nil,(V.lit (Value.int .i64 (0))),(V.lit (Value.int .i64 (0))),(V.lit (Value.int .i64 (0))),(V.lit (Value.int .u64 (0))),(V.lit (Value.int .u64 (0))),(V.lit (Value.int .u64 (0))),(V.lit (Value.int .i64 (0)))] [(0,1,c0),(1,1,c1),(2,7,c2)]).map .agg:=by kernel_rfl
theorem YO (c0:V):dy (xS kk).P 57 [(1,c0)]=(ub [(V.lit (Value.int .i64 (0))),V.nil,(V.lit (Value.int .i64 (0))),(V.lit (Value.int .i64 (0))),(V.lit (Value.int .i64 (0))),(V.lit (Value.int .u64 (0))),(V.lit (Value.int .u64 (0))),(V.lit (Value.int .u64 (0))),(V.lit (Value.int .i64 (0)))] [(1,1,c0)]).map .agg:=by kernel_rfl
theorem Y9 (c0:V):dy (xS kk).P 65 [(2,c0)]=(ub [(V.lit (Value.int .i64 (0))),V.nil,(V.lit (Value.int .i64 (0))),(V.lit (Value.int .i64 (0))),(V.lit (Value.int .i64 (0))),(V.lit (Value.int .u64 (0))),(V.lit (Value.int .u64 (0))),(V.lit (Value.int .u64 (0))),(V.lit (Value.int .i64 (0))),(V.lit (Value.int .i64 (0))),(V.lit (Value.int .i64 (0)))] [(2,7,c0)]).map .agg:=by kernel_rfl
theorem S8 (c0:V):dy (xS kk).P 129 [(0,c0)]=(ub [(V.lit (Value.int .i64 (0))),(V.lit (Value.int .i64 (0))),(V.lit (Value.int .i64 (0)))] [(0,1,c0)]).map .agg:=by kernel_rfl
theorem uT (c0 c1 c2 c3 c4 c5:V):dy (xS kk).P 168 [(0,c0),(1,c1),(2,c2),(3,c3),(4,c4),(5,c5)]=(ub [(V.lit (Value.int .i64 (0))),V.nil,(V.lit (Value.int .i64 (0))),(V.lit (Value.int .i64 (0))),(V.lit (Value.int .i64 (0))),(V.lit (Value.int .u64 (0))),(V.lit (Value.int .u64 (0))),(V.lit (Value.int .u64 (0))),(V.lit (Value.int .i64 (0))),(V.lit (Value.int .i64 (0))),(V.lit (Value.int .i64 (0))),(V.lit (Value.int .i64 (0))),(V.lit (Value.int .i64 (0))),(V.lit (Value.int .i64 (0))),(V.lit (Value.int .i64 (0))),V.nil,V.nil,(V.lit (Value.int .i64 (0))),(V.lit (Value.int .u64 (0))),V.nil] [(0,11,c0),(11,4,c1),(15,1,c2),(16,1,c3),(17,1,c4),(18,1,c5)]).map .agg:=by kernel_rfl
theorem eC (c0 c1 c2 c3 c4 c5 c6 c7 c8 c9 c10 c11 c12 c13 c14 c15:V):dy (xS kk).P 169 [(0,c0),(1,c1),(2,c2),(3,c3),(4,c4),(5,c5),(6,c6),(7,c7),(8,c8),(9,c9),(10,c10),(11,c11),(12,c12),(13,c13),(14,c14),(15,c15)]=(ub [(V.lit Value.nilFunc),(V.lit Value.nilFunc),(V.lit Value.nilFunc),(V.lit Value.nilFunc),(V.lit Value.nilFunc),(V.lit Value.nilFunc),(V.lit Value.nilFunc),(V.lit Value.nilFunc),(V.lit Value.nilFunc),(V.lit Value.nilFunc),(V.lit Value.nilFunc),(V.lit Value.nilFunc),(V.lit Value.nilFunc),(V.lit Value.nilFunc),(V.lit Value.nilFunc),(V.lit Value.nilFunc)] [(0,1,c0),(1,1,c1),(2,1,c2),(3,1,c3),(4,1,c4),(5,1,c5),(6,1,c6),(7,1,c7),(8,1,c8),(9,1,c9),(10,1,c10),(11,1,c11),(12,1,c12),(13,1,c13),(14,1,c14),(15,1,c15)]).map .agg:=by kernel_rfl
theorem ud (c0 c1 c2 c3 c4 c5:V):dy (xS kk).P 175 [(0,c0),(1,c1),(2,c2),(3,c3),(4,c4),(5,c5)]=(ub [(V.lit Value.nilFunc),(V.lit Value.nilFunc),(V.lit Value.nilFunc),(V.lit Value.nilFunc),(V.lit Value.nilFunc),(V.lit Value.nilFunc)] [(0,1,c0),(1,1,c1),(2,1,c2),(3,1,c3),(4,1,c4),(5,1,c5)]).map .agg:=by kernel_rfl
theorem aag:dy (xS kk).P 194 []=(ub [(V.lit (Value.int .i64 (0))),(V.lit (Value.int .i64 (0)))] []).map .agg:=by kernel_rfl
theorem NB (c0 c1:V):dy (xS kk).P 194 [(0,c0),(1,c1)]=(ub [(V.lit (Value.int .i64 (0))),(V.lit (Value.int .i64 (0)))] [(0,1,c0),(1,1,c1)]).map .agg:=by kernel_rfl
theorem Gf (c0 c1 c2:V):dy (xS kk).P 205 [(0,c0),(1,c1),(2,c2)]=(ub [(V.lit (Value.int .i64 (0))),(V.lit (Value.int .i64 (0))),(V.lit (Value.int .i64 (0))),(V.lit (Value.int .u64 (0))),(V.lit (Value.int .u64 (0))),(V.lit (Value.int .u64 (0))),(V.lit (Value.int .i64 (0))),(V.lit (Value.int .i64 (0))),(V.lit (Value.int .i64 (0))),(V.lit (Value.int .i64 (0))),(V.lit (Value.int .i64 (0))),V.nil] [(0,7,c0),(7,4,c1),(11,1,c2)]).map .agg:=by kernel_rfl
theorem H0 (c0 c1 c2:V):dy (xS kk).P 221 [(0,c0),(1,c1),(2,c2)]=(ub [(V.lit (Value.int .i64 (0))),(V.lit (Value.int .i64 (0))),(V.lit (Value.int .i64 (0))),(V.lit (Value.int .u64 (0))),(V.lit (Value.int .u64 (0))),(V.lit (Value.int .u64 (0))),(V.lit (Value.int .i64 (0))),(V.lit (Value.int .i64 (0))),(V.lit (Value.int .i64 (0))),(V.lit (Value.int .i64 (0))),(V.lit (Value.int .i64 (0))),V.nil] [(0,7,c0),(7,4,c1),(11,1,c2)]).map .agg:=by kernel_rfl
theorem HI (c0 c1 c2:V):dy (xS kk).P 235 [(0,c0),(1,c1),(2,c2)]=(ub [(V.lit (Value.int .i64 (0))),(V.lit (Value.int .i64 (0))),(V.lit (Value.int .i64 (0))),(V.lit (Value.int .u64 (0))),(V.lit (Value.int .u64 (0))),(V.lit (Value.int .u64 (0))),(V.lit (Value.int .i64 (0))),(V.lit (Value.int .i64 (0))),(V.lit (Value.int .i64 (0))),(V.lit (Value.int .i64 (0))),(V.lit (Value.int .i64 (0))),V.nil] [(0,7,c0),(7,4,c1),(11,1,c2)]).map .agg:=by kernel_rfl
theorem C3 (c0 c1 c2 c3:V):dy (xS kk).P 236 [(0,c0),(1,c1),(2,c2),(3,c3)]=(ub [(V.lit Value.nilFunc),(V.lit Value.nilFunc),(V.lit Value.nilFunc),(V.lit Value.nilFunc)] [(0,1,c0),(1,1,c1),(2,1,c2),(3,1,c3)]).map .agg:=by kernel_rfl
theorem aad (l:List (Nat×V)):aL (xS kk).P wl 24 0 l H=(gb wl 2 l [] H).bind fun p=>some (.own p.2.length 0 0,p.2++[.rows 2 p.1 0 true]):=by kernel_rfl
theorem acr (l:List (Nat×V)):aL (xS kk).P wl 25 1 l H=(gb wl 1 l [[(V.lit (Value.int .u64 (0)))]] H).bind fun p=>some (.own p.2.length 0 1,p.2++[.rows 1 p.1 0 true]):=by kernel_rfl
theorem abI (l:List (Nat×V)):aL (xS kk).P wl 26 0 l H=(gb wl 1 l [] H).bind fun p=>some (.own p.2.length 0 0,p.2++[.rows 1 p.1 0 true]):=by kernel_rfl
theorem Zt (l:List (Nat×V)):aL (xS kk).P wl 26 1 l H=(gb wl 1 l [[(V.lit (Value.int .u64 (0)))]] H).bind fun p=>some (.own p.2.length 0 1,p.2++[.rows 1 p.1 0 true]):=by kernel_rfl
theorem XQ (l:List (Nat×V)):aL (xS kk).P wl 27 0 l H=(gb wl 11 l [] H).bind fun p=>some (.own p.2.length 0 0,p.2++[.rows 11 p.1 0 true]):=by kernel_rfl
theorem aaD (l:List (Nat×V)):aL (xS kk).P wl 27 1 l H=(gb wl 11 l [[(V.lit (Value.int .i64 (0))),V.ro [],(V.lit (Value.int .i64 (0))),(V.lit (Value.int .i64 (0))),(V.lit (Value.int .i64 (0))),(V.lit (Value.int .u64 (0))),(V.lit (Value.int .u64 (0))),(V.lit (Value.int .u64 (0))),(V.lit (Value.int .i64 (0))),(V.lit (Value.int .i64 (0))),(V.lit (Value.int .i64 (0)))]] H).bind fun p=>some (.own p.2.length 0 1,p.2++[.rows 11 p.1 0 true]):=by kernel_rfl
theorem acw (l:List (Nat×V)):aL (xS kk).P wl 28 0 l H=(gb wl 9 l [] H).bind fun p=>some (.own p.2.length 0 0,p.2++[.rows 9 p.1 0 true]):=by kernel_rfl
theorem abh (l:List (Nat×V)):aL (xS kk).P wl 28 1 l H=(gb wl 9 l [[(V.lit (Value.int .i64 (0))),V.ro [],(V.lit (Value.int .i64 (0))),(V.lit (Value.int .i64 (0))),(V.lit (Value.int .i64 (0))),(V.lit (Value.int .u64 (0))),(V.lit (Value.int .u64 (0))),(V.lit (Value.int .u64 (0))),(V.lit (Value.int .i64 (0)))]] H).bind fun p=>some (.own p.2.length 0 1,p.2++[.rows 9 p.1 0 true]):=by kernel_rfl
theorem YP (l:List (Nat×V)):aL (xS kk).P wl 31 1 l H=(gb wl 3 l [[(V.lit (Value.int .i64 (0))),(V.lit (Value.int .i64 (0))),(V.lit (Value.int .u64 (0)))]] H).bind fun p=>some (.own p.2.length 0 1,p.2++[.rows 3 p.1 0 true]):=by kernel_rfl
theorem Z4 (l:List (Nat×V)):aL (xS kk).P wl 31 2 l H=(gb wl 3 l [[(V.lit (Value.int .i64 (0))),(V.lit (Value.int .i64 (0))),(V.lit (Value.int .u64 (0)))],[(V.lit (Value.int .i64 (0))),(V.lit (Value.int .i64 (0))),(V.lit (Value.int .u64 (0)))]] H).bind fun p=>some (.own p.2.length 0 2,p.2++[.rows 3 p.1 0 true]):=by kernel_rfl
theorem Yh (l:List (Nat×V)):aL (xS kk).P wl 34 1 l H=(gb wl 3 l [[(V.lit (Value.int .i64 (0))),(V.lit (Value.int .i64 (0))),(V.lit (Value.int .i64 (0)))]] H).bind fun p=>some (.own p.2.length 0 1,p.2++[.rows 3 p.1 0 true]):=by kernel_rfl
theorem aaz (l:List (Nat×V)):aL (xS kk).P wl 53 0 l H=(gb wl 1 l [] H).bind fun p=>some (.own p.2.length 0 0,p.2++[.rows 1 p.1 0 true]):=by kernel_rfl
theorem X5 (l:List (Nat×V)):aL (xS kk).P wl 53 1 l H=(gb wl 1 l [[(V.lit (Value.int .i64 (0)))]] H).bind fun p=>some (.own p.2.length 0 1,p.2++[.rows 1 p.1 0 true]):=by kernel_rfl
theorem acJ (l:List (Nat×V)):aL (xS kk).P wl 53 5 l H=(gb wl 1 l [[(V.lit (Value.int .i64 (0)))],[(V.lit (Value.int .i64 (0)))],[(V.lit (Value.int .i64 (0)))],[(V.lit (Value.int .i64 (0)))],[(V.lit (Value.int .i64 (0)))]] H).bind fun p=>some (.own p.2.length 0 5,p.2++[.rows 1 p.1 0 true]):=by kernel_rfl
theorem abH (l:List (Nat×V)):aL (xS kk).P wl 63 0 l H=(gb wl 3 l [] H).bind fun p=>some (.own p.2.length 0 0,p.2++[.rows 3 p.1 0 true]):=by kernel_rfl
theorem acW (l:List (Nat×V)):aL (xS kk).P wl 63 1 l H=(gb wl 3 l [[(V.lit (Value.int .i64 (0))),(V.lit (Value.int .i64 (0))),(V.lit (Value.int .i64 (0)))]] H).bind fun p=>some (.own p.2.length 0 1,p.2++[.rows 3 p.1 0 true]):=by kernel_rfl
theorem V7 (l:List (Nat×V)):aL (xS kk).P wl 207 5 l H=(gb wl 1 l [[(V.lit Value.nilFunc)],[(V.lit Value.nilFunc)],[(V.lit Value.nilFunc)],[(V.lit Value.nilFunc)],[(V.lit Value.nilFunc)]] H).bind fun p=>some (.own p.2.length 0 5,p.2++[.rows 1 p.1 0 true]):=by kernel_rfl
theorem VK (l:List (Nat×V)):aL (xS kk).P wl 223 5 l H=(gb wl 1 l [[(V.lit Value.nilFunc)],[(V.lit Value.nilFunc)],[(V.lit Value.nilFunc)],[(V.lit Value.nilFunc)],[(V.lit Value.nilFunc)]] H).bind fun p=>some (.own p.2.length 0 5,p.2++[.rows 1 p.1 0 true]):=by kernel_rfl
theorem VO (l:List (Nat×V)):aL (xS kk).P wl 238 4 l H=(gb wl 1 l [[(V.lit Value.nilFunc)],[(V.lit Value.nilFunc)],[(V.lit Value.nilFunc)],[(V.lit Value.nilFunc)]] H).bind fun p=>some (.own p.2.length 0 4,p.2++[.rows 1 p.1 0 true]):=by kernel_rfl
theorem aei (v:V):ly (xS kk).P wl 138 (.map id) (.lit (.int .i64 n)) v H=inB wl .i64 id n v H (H[id]?):=by kernel_rfl
theorem ad7 (ok:Bool):ku (xS kk).P 138 (.map id) (.lit (.int .i64 n)) ok H=lkB .i64 (V.lit Value.nilFunc) ok n (H[id]?):=by kernel_rfl
theorem afX (v:V):ly (xS kk).P wl 201 (.map id) (.lit (.int .i64 n)) v H=inB wl .i64 id n v H (H[id]?):=by kernel_rfl
theorem adX (ok:Bool):ku (xS kk).P 201 (.map id) (.lit (.int .i64 n)) ok H=lkB .i64 (V.lit Value.nilFunc) ok n (H[id]?):=by kernel_rfl
theorem aeP (v:V):ly (xS kk).P wl 212 (.map id) (.lit (.int .i64 n)) v H=inB wl .i64 id n v H (H[id]?):=by kernel_rfl
theorem ad4 (ok:Bool):ku (xS kk).P 212 (.map id) (.lit (.int .i64 n)) ok H=lkB .i64 (V.lit Value.nilFunc) ok n (H[id]?):=by kernel_rfl
theorem agh (row off:Nat):aA (xS kk).P 169 (.ptr id g row off) (.lit (.int k n)) H=arC id g row [(0,off),(1,off+1),(2,off+2),(3,off+3),(4,off+4),(5,off+5),(6,off+6),(7,off+7),(8,off+8),(9,off+9),(10,off+10),(11,off+11),(12,off+12),(13,off+13),(14,off+14),(15,off+15)] n:=Mh (e:=1) (len:=16) (sz:=1) (by kernel_rfl) (by kernel_rfl) (by decide)
theorem agE (row off:Nat):aA (xS kk).P 175 (.ptr id g row off) (.lit (.int k n)) H=arC id g row [(0,off),(1,off+1),(2,off+2),(3,off+3),(4,off+4),(5,off+5)] n:=Mh (e:=1) (len:=6) (sz:=1) (by kernel_rfl) (by kernel_rfl) (by decide)
theorem aho (row off:Nat):aA (xS kk).P 236 (.ptr id g row off) (.lit (.int k n)) H=arC id g row [(0,off),(1,off+1),(2,off+2),(3,off+3)] n:=Mh (e:=1) (len:=4) (sz:=1) (by kernel_rfl) (by kernel_rfl) (by decide)
end
def xF0:=PLift.up (aI (aI (aI (aI (aI (aI (aI (aI @aqA @ap6) (aI @aq4 @apS)) (aI (aI @aqU @aqL) (aI @aix (aI @ajl @aoj)))) (aI (aI (aI @ajW @akS) (aI @ani (aI @ajK @am8))) (aI (aI @aom @aox) (aI @aod (aI @aiY @anQ))))) (aI (aI (aI (aI @akL @akz) (aI @anP (aI @amQ @ajM))) (aI (aI @akl @ajj) (aI @alp (aI @ajV @aig)))) (aI (aI (aI @amw @ak2) (aI @alV (aI @akR @aoy))) (aI (aI @ajP @ajI) (aI @alW (aI @alq @ajg)))))) (aI (aI (aI (aI (aI @aoI @afY) (aI @aeX @af6)) (aI (aI @ahg @ad1) (aI @ahI (aI @agv @afG)))) (aI (aI (aI @agB @afs) (aI @aea (aI @ae3 @ahf))) (aI (aI @aem @ael) (aI @ahp (aI @agr @aeZ))))) (aI (aI (aI (aI @adJ @agD) (aI @aey (aI @agd @aqD))) (aI (aI @aqC @arj) (aI @ajS (aI @ajG @aoA)))) (aI (aI (aI @ai3 @akE) (aI @ajU (aI @ai4 @akH))) (aI (aI @aep @agK) (aI @agz (aI @adz @ahH))))))) (aI (aI (aI (aI (aI (aI @adV @ahl) (aI @aeG @agY)) (aI (aI @abX @aac) (aI @acy (aI @aaP @aav)))) (aI (aI (aI @aar @YT) (aI @ach (aI @acf @abS))) (aI (aI @aah @ZL) (aI @aa9 (aI @Zx @X4))))) (aI (aI (aI (aI @YA @Yk) (aI @aaB (aI @Yt @abL))) (aI (aI @aci @aca) (aI @abp (aI @acl @aaU)))) (aI (aI (aI @abW @acS) (aI @aaW (aI @acR @abP))) (aI (aI @Yv @Yg) (aI @aaq (aI @Yn @Yo)))))) (aI (aI (aI (aI (aI @Ya @ZB) (aI @aap @XR)) (aI (aI @abA @XP) (aI @abY (aI @Zv @aco)))) (aI (aI (aI @aa8 @ab1) (aI @acC (aI @Y7 @aab))) (aI (aI @ab2 @aaA) (aI @X1 (aI @abD @ZQ))))) (aI (aI (aI (aI @aau @aaf) (aI @UA (aI @SN @WC))) (aI (aI @VD @TJ) (aI @V4 (aI @UI @U2)))) (aI (aI (aI @US @VR) (aI @Te (aI @VV @SX))) (aI (aI @Sx @Vi) (aI @Tc (aI @VC @Wu)))))))) (aI (aI (aI (aI (aI (aI (aI @UH @V9) (aI @VE @Ty)) (aI (aI @Ur @U8) (aI @V2 (aI @Vd @SJ)))) (aI (aI (aI @Wj @TQ) (aI @SH (aI @Wh @Vs))) (aI (aI @VH @Ui) (aI @Tb (aI @Tp @U1))))) (aI (aI (aI (aI @T3 @Uf) (aI @VU (aI @Vf @Vh))) (aI (aI @Uh @TS) (aI @T2 (aI @T1 @UG)))) (aI (aI (aI @alf @aoe) (aI @aiF (aI @amn @aoG))) (aI (aI @anH @amD) (aI @ain (aI @aiA @alG)))))) (aI (aI (aI (aI (aI @ami @anJ) (aI @ajq @ai7)) (aI (aI @alj @an1) (aI @ajF (aI @anI @agW)))) (aI (aI (aI @agu @aeD) (aI @afu (aI @ahG @ag8))) (aI (aI @ag3 @agS) (aI @afw (aI @adc @afZ))))) (aI (aI (aI (aI @aeL @agl) (aI @ahy (aI @adE @acd))) (aI (aI @ZR @Vy) (aI @Tf (aI @TX @S7)))) (aI (aI (aI @Sq @Wg) (aI @TH (aI @SO @V0))) (aI (aI @WA @Tw) (aI @Wb (aI @Ww @V8))))))) (aI (aI (aI (aI (aI (aI @VS @Vz) (aI @Up @Tx)) (aI (aI @Ua @SD) (aI @TR (aI @Uj @UF)))) (aI (aI (aI @Wk @aol) (aI @aji (aI @ak7 @ajw))) (aI (aI @alm @ano) (aI @aj4 (aI @amR @afg))))) (aI (aI (aI (aI @XT @ZN) (aI @aj6 (aI @amZ @aml))) (aI (aI @aog @ajt) (aI @anh (aI @ahd @adn)))) (aI (aI (aI @Is @adi) (aI @J6 (aI @afR @ZF))) (aI (aI @IN @agy) (aI @IF (aI @F7 @Kg)))))) (aI (aI (aI (aI (aI @YO @Y9) (aI @S8 (aI @uT @eC))) (aI (aI @ud @aag) (aI @NB (aI @Gf @H0)))) (aI (aI (aI @HI @C3) (aI @aad (aI @acr @abI))) (aI (aI @Zt @XQ) (aI @aaD (aI @acw @abh))))) (aI (aI (aI (aI @YP @Z4) (aI @Yh (aI @aaz @X5))) (aI (aI @acJ @abH) (aI @acW (aI @V7 @VK)))) (aI (aI (aI @VO @aei) (aI @ad7 (aI @afX @adX))) (aI (aI @aeP @ad4) (aI @agh (aI @agE @aho)))))))))
theorem xF:type_of% xF0.down:=xF0.down
end Go.Ab
