import Derived.Test.YtblpbpnilkfjhaaGreatAbLibC
import Derived.Test.YtblpbpnilkfjhaaGreatAbLibB
import Derived.Test.YtblpbpnilkfjhaaGreatR6Seat
set_option linter.unusedVariables false
set_option linter.unusedSimpArgs false
set_option maxRecDepth 100000
set_option linter.unusedVariables false
namespace Go.Ab
open Go.Proofs
section
variable (kk:Nat) (c:V) (cs:List V) (H:Hp) (id:Nat) (g:Nat) (k:IntKind) (n:Int) (len:Nat) (x:V) (wl:Nat) (s:V)
theorem ap9:aS (xS kk).P 1 (c::cs)=some c:=by kernel_rfl
theorem aqZ:aR (xS kk).P 1=1:=by kernel_rfl
theorem aqw:aS (xS kk).P 3 (c::cs)=some c:=by kernel_rfl
theorem aqp:aR (xS kk).P 3=1:=by kernel_rfl
theorem aqv:aS (xS kk).P 4 (c::cs)=some c:=by kernel_rfl
theorem ap1:aR (xS kk).P 4=1:=by kernel_rfl
theorem ano (c0 c1 c2 c3:V):aS (xS kk).P 23 (c0::c1::c2::c3::cs)=some (.agg [c0,c1,c2,c3]):=by kernel_rfl
theorem ai5:aR (xS kk).P 23=4:=by kernel_rfl
theorem ajK:aS (xS kk).P 24 (c::cs)=some c:=by kernel_rfl
theorem ais:aR (xS kk).P 24=1:=by kernel_rfl
theorem alZ:aS (xS kk).P 26 (c::cs)=some c:=by kernel_rfl
theorem akP:aR (xS kk).P 26=1:=by kernel_rfl
theorem aot:aS (xS kk).P 27 (c::cs)=some c:=by kernel_rfl
theorem ajO:aR (xS kk).P 27=1:=by kernel_rfl
theorem anV:aS (xS kk).P 28 (c::cs)=some c:=by kernel_rfl
theorem amX:aR (xS kk).P 28=1:=by kernel_rfl
theorem amw (c0 c1 c2 c3 c4 c5 c6 c7:V):aS (xS kk).P 30 (c0::c1::c2::c3::c4::c5::c6::c7::cs)=some (.agg [c0,c1,c2,c3,c4,c5,c6,c7]):=by kernel_rfl
theorem anE:aR (xS kk).P 30=8:=by kernel_rfl
theorem alV:aS (xS kk).P 32 (c::cs)=some c:=by kernel_rfl
theorem alp:aR (xS kk).P 32=1:=by kernel_rfl
theorem aoc:aS (xS kk).P 34 (c::cs)=some c:=by kernel_rfl
theorem aiR:aR (xS kk).P 34=1:=by kernel_rfl
theorem aiQ:aS (xS kk).P 46 (c::cs)=some c:=by kernel_rfl
theorem ajc:aR (xS kk).P 46=1:=by kernel_rfl
theorem amP (c0 c1 c2:V):aS (xS kk).P 48 (c0::c1::c2::cs)=some (.agg [c0,c1,c2]):=by kernel_rfl
theorem akh:aR (xS kk).P 48=3:=by kernel_rfl
theorem aja (c0 c1 c2:V):aS (xS kk).P 52 (c0::c1::c2::cs)=some (.agg [c0,c1,c2]):=by kernel_rfl
theorem aos:aR (xS kk).P 52=3:=by kernel_rfl
theorem amE:aS (xS kk).P 53 (c::cs)=some c:=by kernel_rfl
theorem aow:aR (xS kk).P 53=1:=by kernel_rfl
theorem amF (c0 c1 c2 c3 c4 c5 c6:V):aS (xS kk).P 55 (c0::c1::c2::c3::c4::c5::c6::cs)=some (.agg [c0,c1,c2,c3,c4,c5,c6]):=by kernel_rfl
theorem aoF:aR (xS kk).P 55=7:=by kernel_rfl
theorem ajq (c0 c1 c2 c3 c4 c5 c6 c7 c8:V):aS (xS kk).P 57 (c0::c1::c2::c3::c4::c5::c6::c7::c8::cs)=some (.agg [c0,c1,c2,c3,c4,c5,c6,c7,c8]):=by kernel_rfl
theorem aiJ:aR (xS kk).P 57=9:=by kernel_rfl
theorem aiv:aS (xS kk).P 63 (c::cs)=some c:=by kernel_rfl
theorem ajk:aR (xS kk).P 63=1:=by kernel_rfl
theorem ank (c0 c1 c2 c3 c4 c5 c6 c7 c8 c9 c10:V):aS (xS kk).P 65 (c0::c1::c2::c3::c4::c5::c6::c7::c8::c9::c10::cs)=some (.agg [c0,c1,c2,c3,c4,c5,c6,c7,c8,c9,c10]):=by kernel_rfl
theorem ajG:aR (xS kk).P 65=11:=by kernel_rfl
theorem ajw:aS (xS kk).P 86 (c::cs)=some c:=by kernel_rfl
theorem ai4:aR (xS kk).P 86=1:=by kernel_rfl
theorem aeh (c0 c1:V):aS (xS kk).P 101 (c0::c1::cs)=some (.agg [c0,c1]):=by kernel_rfl
theorem ahc:aR (xS kk).P 101=2:=by kernel_rfl
theorem ad0:aS (xS kk).P 116 (c::cs)=some c:=by kernel_rfl
theorem afH:aR (xS kk).P 116=1:=by kernel_rfl
theorem ad4 (c0 c1 c2:V):aS (xS kk).P 129 (c0::c1::c2::cs)=some (.agg [c0,c1,c2]):=by kernel_rfl
theorem ag4:aR (xS kk).P 129=3:=by kernel_rfl
theorem adA:aS (xS kk).P 150 (c::cs)=some c:=by kernel_rfl
theorem afF:aR (xS kk).P 150=1:=by kernel_rfl
theorem aew (c0 c1 c2 c3 c4 c5 c6 c7 c8 c9 c10 c11 c12 c13 c14 c15:V):aS (xS kk).P 169 (c0::c1::c2::c3::c4::c5::c6::c7::c8::c9::c10::c11::c12::c13::c14::c15::cs)=some (.agg [c0,c1,c2,c3,c4,c5,c6,c7,c8,c9,c10,c11,c12,c13,c14,c15]):=by kernel_rfl
theorem ahb:aR (xS kk).P 169=16:=by kernel_rfl
theorem aeM:aS (xS kk).P 170 (c::cs)=some c:=by kernel_rfl
theorem adf:aR (xS kk).P 170=1:=by kernel_rfl
theorem aei (c0 c1 c2 c3 c4 c5:V):aS (xS kk).P 175 (c0::c1::c2::c3::c4::c5::cs)=some (.agg [c0,c1,c2,c3,c4,c5]):=by kernel_rfl
theorem aeH:aR (xS kk).P 175=6:=by kernel_rfl
theorem ag0 (c0 c1:V):aS (xS kk).P 194 (c0::c1::cs)=some (.agg [c0,c1]):=by kernel_rfl
theorem agw:aR (xS kk).P 194=2:=by kernel_rfl
theorem ahA:aS (xS kk).P 206 (c::cs)=some c:=by kernel_rfl
theorem afo:aR (xS kk).P 206=1:=by kernel_rfl
theorem agd:aS (xS kk).P 223 (c::cs)=some c:=by kernel_rfl
theorem agN:aR (xS kk).P 223=1:=by kernel_rfl
theorem af5 (c0 c1 c2 c3:V):aS (xS kk).P 236 (c0::c1::c2::c3::cs)=some (.agg [c0,c1,c2,c3]):=by kernel_rfl
theorem agu:aR (xS kk).P 236=4:=by kernel_rfl
theorem aqk:cI (xS kk).P 1 H=some (.ptr (bG [(V.lit Value.nilFunc)] H).2.length 0 0 0,(bG [(V.lit Value.nilFunc)] H).2++[.box (bG [(V.lit Value.nilFunc)] H).1]):=by kernel_rfl
theorem aqU:cI (xS kk).P 3 H=some (.ptr (bG [(V.lit (Value.int .i64 (0)))] H).2.length 0 0 0,(bG [(V.lit (Value.int .i64 (0)))] H).2++[.box (bG [(V.lit (Value.int .i64 (0)))] H).1]):=by kernel_rfl
theorem aqN:cI (xS kk).P 4 H=some (.ptr (bG [(V.lit (Value.bool false))] H).2.length 0 0 0,(bG [(V.lit (Value.bool false))] H).2++[.box (bG [(V.lit (Value.bool false))] H).1]):=by kernel_rfl
theorem an3:cI (xS kk).P 26 H=some (.ptr (bG [V.nil] H).2.length 0 0 0,(bG [V.nil] H).2++[.box (bG [V.nil] H).1]):=by kernel_rfl
theorem amg:cI (xS kk).P 30 H=some (.ptr (bG [(V.lit (Value.int .i64 (0))),(V.lit (Value.int .i64 (0))),(V.lit (Value.int .i64 (0))),(V.lit (Value.int .i64 (0))),V.nil,V.nil,V.nil,V.nil] H).2.length 0 0 0,(bG [(V.lit (Value.int .i64 (0))),(V.lit (Value.int .i64 (0))),(V.lit (Value.int .i64 (0))),(V.lit (Value.int .i64 (0))),V.nil,V.nil,V.nil,V.nil] H).2++[.box (bG [(V.lit (Value.int .i64 (0))),(V.lit (Value.int .i64 (0))),(V.lit (Value.int .i64 (0))),(V.lit (Value.int .i64 (0))),V.nil,V.nil,V.nil,V.nil] H).1]):=by kernel_rfl
theorem air:cI (xS kk).P 32 H=some (.ptr (bG [(V.lit Value.nilFunc)] H).2.length 0 0 0,(bG [(V.lit Value.nilFunc)] H).2++[.box (bG [(V.lit Value.nilFunc)] H).1]):=by kernel_rfl
theorem akz:cI (xS kk).P 34 H=some (.ptr (bG [V.nil] H).2.length 0 0 0,(bG [V.nil] H).2++[.box (bG [V.nil] H).1]):=by kernel_rfl
theorem aii:cI (xS kk).P 48 H=some (.ptr (bG [(V.lit (Value.int .i64 (0))),(V.lit (Value.int .i64 (0))),(V.lit (Value.int .u64 (0)))] H).2.length 0 0 0,(bG [(V.lit (Value.int .i64 (0))),(V.lit (Value.int .i64 (0))),(V.lit (Value.int .u64 (0)))] H).2++[.box (bG [(V.lit (Value.int .i64 (0))),(V.lit (Value.int .i64 (0))),(V.lit (Value.int .u64 (0)))] H).1]):=by kernel_rfl
theorem alK:cI (xS kk).P 55 H=some (.ptr (bG [(V.lit (Value.int .i64 (0))),(V.lit (Value.int .i64 (0))),(V.lit (Value.int .i64 (0))),(V.lit (Value.int .u64 (0))),(V.lit (Value.int .u64 (0))),(V.lit (Value.int .u64 (0))),(V.lit (Value.int .i64 (0)))] H).2.length 0 0 0,(bG [(V.lit (Value.int .i64 (0))),(V.lit (Value.int .i64 (0))),(V.lit (Value.int .i64 (0))),(V.lit (Value.int .u64 (0))),(V.lit (Value.int .u64 (0))),(V.lit (Value.int .u64 (0))),(V.lit (Value.int .i64 (0)))] H).2++[.box (bG [(V.lit (Value.int .i64 (0))),(V.lit (Value.int .i64 (0))),(V.lit (Value.int .i64 (0))),(V.lit (Value.int .u64 (0))),(V.lit (Value.int .u64 (0))),(V.lit (Value.int .u64 (0))),(V.lit (Value.int .i64 (0)))] H).1]):=by kernel_rfl
theorem ai9:cI (xS kk).P 57 H=some (.ptr (bG [(V.lit (Value.int .i64 (0))),V.nil,(V.lit (Value.int .i64 (0))),(V.lit (Value.int .i64 (0))),(V.lit (Value.int .i64 (0))),(V.lit (Value.int .u64 (0))),(V.lit (Value.int .u64 (0))),(V.lit (Value.int .u64 (0))),(V.lit (Value.int .i64 (0)))] H).2.length 0 0 0,(bG [(V.lit (Value.int .i64 (0))),V.nil,(V.lit (Value.int .i64 (0))),(V.lit (Value.int .i64 (0))),(V.lit (Value.int .i64 (0))),(V.lit (Value.int .u64 (0))),(V.lit (Value.int .u64 (0))),(V.lit (Value.int .u64 (0))),(V.lit (Value.int .i64 (0)))] H).2++[.box (bG [(V.lit (Value.int .i64 (0))),V.nil,(V.lit (Value.int .i64 (0))),(V.lit (Value.int .i64 (0))),(V.lit (Value.int .i64 (0))),(V.lit (Value.int .u64 (0))),(V.lit (Value.int .u64 (0))),(V.lit (Value.int .u64 (0))),(V.lit (Value.int .i64 (0)))] H).1]):=by kernel_rfl
theorem anY:cI (xS kk).P 65 H=some (.ptr (bG [(V.lit (Value.int .i64 (0))),V.nil,(V.lit (Value.int .i64 (0))),(V.lit (Value.int .i64 (0))),(V.lit (Value.int .i64 (0))),(V.lit (Value.int .u64 (0))),(V.lit (Value.int .u64 (0))),(V.lit (Value.int .u64 (0))),(V.lit (Value.int .i64 (0))),(V.lit (Value.int .i64 (0))),(V.lit (Value.int .i64 (0)))] H).2.length 0 0 0,(bG [(V.lit (Value.int .i64 (0))),V.nil,(V.lit (Value.int .i64 (0))),(V.lit (Value.int .i64 (0))),(V.lit (Value.int .i64 (0))),(V.lit (Value.int .u64 (0))),(V.lit (Value.int .u64 (0))),(V.lit (Value.int .u64 (0))),(V.lit (Value.int .i64 (0))),(V.lit (Value.int .i64 (0))),(V.lit (Value.int .i64 (0)))] H).2++[.box (bG [(V.lit (Value.int .i64 (0))),V.nil,(V.lit (Value.int .i64 (0))),(V.lit (Value.int .i64 (0))),(V.lit (Value.int .i64 (0))),(V.lit (Value.int .u64 (0))),(V.lit (Value.int .u64 (0))),(V.lit (Value.int .u64 (0))),(V.lit (Value.int .i64 (0))),(V.lit (Value.int .i64 (0))),(V.lit (Value.int .i64 (0)))] H).1]):=by kernel_rfl
theorem afp:cI (xS kk).P 101 H=some (.ptr (bG [(V.lit (Value.int .i64 (0))),V.nil] H).2.length 0 0 0,(bG [(V.lit (Value.int .i64 (0))),V.nil] H).2++[.box (bG [(V.lit (Value.int .i64 (0))),V.nil] H).1]):=by kernel_rfl
theorem ahj:cI (xS kk).P 129 H=some (.ptr (bG [(V.lit (Value.int .i64 (0))),(V.lit (Value.int .i64 (0))),(V.lit (Value.int .i64 (0)))] H).2.length 0 0 0,(bG [(V.lit (Value.int .i64 (0))),(V.lit (Value.int .i64 (0))),(V.lit (Value.int .i64 (0)))] H).2++[.box (bG [(V.lit (Value.int .i64 (0))),(V.lit (Value.int .i64 (0))),(V.lit (Value.int .i64 (0)))] H).1]):=by kernel_rfl
theorem adY:cI (xS kk).P 150 H=some (.ptr (bG [V.nil] H).2.length 0 0 0,(bG [V.nil] H).2++[.box (bG [V.nil] H).1]):=by kernel_rfl
theorem agD:cI (xS kk).P 169 H=some (.ptr (bG [(V.lit Value.nilFunc),(V.lit Value.nilFunc),(V.lit Value.nilFunc),(V.lit Value.nilFunc),(V.lit Value.nilFunc),(V.lit Value.nilFunc),(V.lit Value.nilFunc),(V.lit Value.nilFunc),(V.lit Value.nilFunc),(V.lit Value.nilFunc),(V.lit Value.nilFunc),(V.lit Value.nilFunc),(V.lit Value.nilFunc),(V.lit Value.nilFunc),(V.lit Value.nilFunc),(V.lit Value.nilFunc)] H).2.length 0 0 0,(bG [(V.lit Value.nilFunc),(V.lit Value.nilFunc),(V.lit Value.nilFunc),(V.lit Value.nilFunc),(V.lit Value.nilFunc),(V.lit Value.nilFunc),(V.lit Value.nilFunc),(V.lit Value.nilFunc),(V.lit Value.nilFunc),(V.lit Value.nilFunc),(V.lit Value.nilFunc),(V.lit Value.nilFunc),(V.lit Value.nilFunc),(V.lit Value.nilFunc),(V.lit Value.nilFunc),(V.lit Value.nilFunc)] H).2++[.box (bG [(V.lit Value.nilFunc),(V.lit Value.nilFunc),(V.lit Value.nilFunc),(V.lit Value.nilFunc),(V.lit Value.nilFunc),(V.lit Value.nilFunc),(V.lit Value.nilFunc),(V.lit Value.nilFunc),(V.lit Value.nilFunc),(V.lit Value.nilFunc),(V.lit Value.nilFunc),(V.lit Value.nilFunc),(V.lit Value.nilFunc),(V.lit Value.nilFunc),(V.lit Value.nilFunc),(V.lit Value.nilFunc)] H).1]):=by kernel_rfl
theorem agh:cI (xS kk).P 170 H=some (.ptr (bG [(V.lit Value.nilFunc)] H).2.length 0 0 0,(bG [(V.lit Value.nilFunc)] H).2++[.box (bG [(V.lit Value.nilFunc)] H).1]):=by kernel_rfl
theorem ahw:cI (xS kk).P 175 H=some (.ptr (bG [(V.lit Value.nilFunc),(V.lit Value.nilFunc),(V.lit Value.nilFunc),(V.lit Value.nilFunc),(V.lit Value.nilFunc),(V.lit Value.nilFunc)] H).2.length 0 0 0,(bG [(V.lit Value.nilFunc),(V.lit Value.nilFunc),(V.lit Value.nilFunc),(V.lit Value.nilFunc),(V.lit Value.nilFunc),(V.lit Value.nilFunc)] H).2++[.box (bG [(V.lit Value.nilFunc),(V.lit Value.nilFunc),(V.lit Value.nilFunc),(V.lit Value.nilFunc),(V.lit Value.nilFunc),(V.lit Value.nilFunc)] H).1]):=by kernel_rfl
theorem ahF:cI (xS kk).P 194 H=some (.ptr (bG [(V.lit (Value.int .i64 (0))),(V.lit (Value.int .i64 (0)))] H).2.length 0 0 0,(bG [(V.lit (Value.int .i64 (0))),(V.lit (Value.int .i64 (0)))] H).2++[.box (bG [(V.lit (Value.int .i64 (0))),(V.lit (Value.int .i64 (0)))] H).1]):=by kernel_rfl
theorem ac5:cI (xS kk).P 223 H=some (.ptr (bG [V.nil] H).2.length 0 0 0,(bG [V.nil] H).2++[.box (bG [V.nil] H).1]):=by kernel_rfl
theorem afL:cI (xS kk).P 236 H=some (.ptr (bG [(V.lit Value.nilFunc),(V.lit Value.nilFunc),(V.lit Value.nilFunc),(V.lit Value.nilFunc)] H).2.length 0 0 0,(bG [(V.lit Value.nilFunc),(V.lit Value.nilFunc),(V.lit Value.nilFunc),(V.lit Value.nilFunc)] H).2++[.box (bG [(V.lit Value.nilFunc),(V.lit Value.nilFunc),(V.lit Value.nilFunc),(V.lit Value.nilFunc)] H).1]):=by kernel_rfl
theorem ZP:ag (xS kk).P 23 (.rp cs) 0=some (.rp (cs.drop 0)):=by kernel_rfl
theorem ZB (row off:Nat):ag (xS kk).P 23 (.ptr id g row off) 0=some (.ptr id g row (off+0)):=by kernel_rfl
theorem Yy:ag (xS kk).P 23 (.rp cs) 1=some (.rp (cs.drop 1)):=by kernel_rfl
theorem X1 (row off:Nat):ag (xS kk).P 23 (.ptr id g row off) 1=some (.ptr id g row (off+1)):=by kernel_rfl
theorem Yz:ag (xS kk).P 23 (.rp cs) 2=some (.rp (cs.drop 2)):=by kernel_rfl
theorem aak (row off:Nat):ag (xS kk).P 23 (.ptr id g row off) 2=some (.ptr id g row (off+2)):=by kernel_rfl
theorem acX:ag (xS kk).P 23 (.rp cs) 3=some (.rp (cs.drop 3)):=by kernel_rfl
theorem acp (row off:Nat):ag (xS kk).P 23 (.ptr id g row off) 3=some (.ptr id g row (off+3)):=by kernel_rfl
theorem aaW:ag (xS kk).P 30 (.rp cs) 0=some (.rp (cs.drop 0)):=by kernel_rfl
theorem abL (row off:Nat):ag (xS kk).P 30 (.ptr id g row off) 0=some (.ptr id g row (off+0)):=by kernel_rfl
theorem Zp:ag (xS kk).P 30 (.rp cs) 1=some (.rp (cs.drop 4)):=by kernel_rfl
theorem YC (row off:Nat):ag (xS kk).P 30 (.ptr id g row off) 1=some (.ptr id g row (off+4)):=by kernel_rfl
theorem Y1:ag (xS kk).P 30 (.rp cs) 2=some (.rp (cs.drop 5)):=by kernel_rfl
theorem aaX (row off:Nat):ag (xS kk).P 30 (.ptr id g row off) 2=some (.ptr id g row (off+5)):=by kernel_rfl
theorem YZ:ag (xS kk).P 30 (.rp cs) 3=some (.rp (cs.drop 6)):=by kernel_rfl
theorem acE (row off:Nat):ag (xS kk).P 30 (.ptr id g row off) 3=some (.ptr id g row (off+6)):=by kernel_rfl
theorem Z8:ag (xS kk).P 30 (.rp cs) 4=some (.rp (cs.drop 7)):=by kernel_rfl
theorem aas (row off:Nat):ag (xS kk).P 30 (.ptr id g row off) 4=some (.ptr id g row (off+7)):=by kernel_rfl
theorem Zr:ag (xS kk).P 48 (.rp cs) 0=some (.rp (cs.drop 0)):=by kernel_rfl
theorem YM (row off:Nat):ag (xS kk).P 48 (.ptr id g row off) 0=some (.ptr id g row (off+0)):=by kernel_rfl
theorem aaR:ag (xS kk).P 48 (.rp cs) 1=some (.rp (cs.drop 1)):=by kernel_rfl
theorem ZE (row off:Nat):ag (xS kk).P 48 (.ptr id g row off) 1=some (.ptr id g row (off+1)):=by kernel_rfl
theorem abB:ag (xS kk).P 48 (.rp cs) 2=some (.rp (cs.drop 2)):=by kernel_rfl
theorem Yt (row off:Nat):ag (xS kk).P 48 (.ptr id g row off) 2=some (.ptr id g row (off+2)):=by kernel_rfl
theorem Zv:ag (xS kk).P 52 (.rp cs) 0=some (.rp (cs.drop 0)):=by kernel_rfl
theorem abS (row off:Nat):ag (xS kk).P 52 (.ptr id g row off) 0=some (.ptr id g row (off+0)):=by kernel_rfl
theorem ZT:ag (xS kk).P 55 (.rp cs) 0=some (.rp (cs.drop 0)):=by kernel_rfl
theorem ab8 (row off:Nat):ag (xS kk).P 55 (.ptr id g row off) 0=some (.ptr id g row (off+0)):=by kernel_rfl
theorem abn:ag (xS kk).P 55 (.rp cs) 1=some (.rp (cs.drop 1)):=by kernel_rfl
theorem Yv (row off:Nat):ag (xS kk).P 55 (.ptr id g row off) 1=some (.ptr id g row (off+1)):=by kernel_rfl
theorem aa8:ag (xS kk).P 55 (.rp cs) 2=some (.rp (cs.drop 2)):=by kernel_rfl
theorem acr (row off:Nat):ag (xS kk).P 55 (.ptr id g row off) 2=some (.ptr id g row (off+2)):=by kernel_rfl
theorem YY:ag (xS kk).P 55 (.rp cs) 3=some (.rp (cs.drop 3)):=by kernel_rfl
theorem aaO (row off:Nat):ag (xS kk).P 55 (.ptr id g row off) 3=some (.ptr id g row (off+3)):=by kernel_rfl
theorem Zo:ag (xS kk).P 55 (.rp cs) 4=some (.rp (cs.drop 4)):=by kernel_rfl
theorem acw (row off:Nat):ag (xS kk).P 55 (.ptr id g row off) 4=some (.ptr id g row (off+4)):=by kernel_rfl
theorem Zt:ag (xS kk).P 55 (.rp cs) 5=some (.rp (cs.drop 5)):=by kernel_rfl
theorem Yl (row off:Nat):ag (xS kk).P 55 (.ptr id g row off) 5=some (.ptr id g row (off+5)):=by kernel_rfl
theorem YL:ag (xS kk).P 55 (.rp cs) 6=some (.rp (cs.drop 6)):=by kernel_rfl
theorem aa5 (row off:Nat):ag (xS kk).P 55 (.ptr id g row off) 6=some (.ptr id g row (off+6)):=by kernel_rfl
theorem ZD:ag (xS kk).P 57 (.rp cs) 0=some (.rp (cs.drop 0)):=by kernel_rfl
theorem aa2 (row off:Nat):ag (xS kk).P 57 (.ptr id g row off) 0=some (.ptr id g row (off+0)):=by kernel_rfl
theorem acf:ag (xS kk).P 57 (.rp cs) 1=some (.rp (cs.drop 1)):=by kernel_rfl
theorem acs (row off:Nat):ag (xS kk).P 57 (.ptr id g row off) 1=some (.ptr id g row (off+1)):=by kernel_rfl
theorem abT:ag (xS kk).P 57 (.rp cs) 2=some (.rp (cs.drop 2)):=by kernel_rfl
theorem Zl (row off:Nat):ag (xS kk).P 57 (.ptr id g row off) 2=some (.ptr id g row (off+2)):=by kernel_rfl
theorem Ya:ag (xS kk).P 65 (.rp cs) 0=some (.rp (cs.drop 0)):=by kernel_rfl
theorem aa7 (row off:Nat):ag (xS kk).P 65 (.ptr id g row off) 0=some (.ptr id g row (off+0)):=by kernel_rfl
theorem abd:ag (xS kk).P 65 (.rp cs) 1=some (.rp (cs.drop 1)):=by kernel_rfl
theorem Yd (row off:Nat):ag (xS kk).P 65 (.ptr id g row off) 1=some (.ptr id g row (off+1)):=by kernel_rfl
theorem ZQ:ag (xS kk).P 65 (.rp cs) 2=some (.rp (cs.drop 2)):=by kernel_rfl
theorem acT (row off:Nat):ag (xS kk).P 65 (.ptr id g row off) 2=some (.ptr id g row (off+2)):=by kernel_rfl
theorem aaE:ag (xS kk).P 65 (.rp cs) 3=some (.rp (cs.drop 9)):=by kernel_rfl
theorem XP (row off:Nat):ag (xS kk).P 65 (.ptr id g row off) 3=some (.ptr id g row (off+9)):=by kernel_rfl
theorem ZF:ag (xS kk).P 65 (.rp cs) 4=some (.rp (cs.drop 10)):=by kernel_rfl
theorem aby (row off:Nat):ag (xS kk).P 65 (.ptr id g row off) 4=some (.ptr id g row (off+10)):=by kernel_rfl
theorem Te:ag (xS kk).P 101 (.rp cs) 0=some (.rp (cs.drop 0)):=by kernel_rfl
theorem S3 (row off:Nat):ag (xS kk).P 101 (.ptr id g row off) 0=some (.ptr id g row (off+0)):=by kernel_rfl
theorem Uz:ag (xS kk).P 101 (.rp cs) 1=some (.rp (cs.drop 1)):=by kernel_rfl
theorem UR (row off:Nat):ag (xS kk).P 101 (.ptr id g row off) 1=some (.ptr id g row (off+1)):=by kernel_rfl
theorem Vu:ag (xS kk).P 129 (.rp cs) 0=some (.rp (cs.drop 0)):=by kernel_rfl
theorem SH (row off:Nat):ag (xS kk).P 129 (.ptr id g row off) 0=some (.ptr id g row (off+0)):=by kernel_rfl
theorem SP:ag (xS kk).P 129 (.rp cs) 1=some (.rp (cs.drop 1)):=by kernel_rfl
theorem US (row off:Nat):ag (xS kk).P 129 (.ptr id g row off) 1=some (.ptr id g row (off+1)):=by kernel_rfl
theorem UH:ag (xS kk).P 129 (.rp cs) 2=some (.rp (cs.drop 2)):=by kernel_rfl
theorem Vx (row off:Nat):ag (xS kk).P 129 (.ptr id g row off) 2=some (.ptr id g row (off+2)):=by kernel_rfl
theorem S6:ag (xS kk).P 168 (.rp cs) 0=some (.rp (cs.drop 0)):=by kernel_rfl
theorem Ta (row off:Nat):ag (xS kk).P 168 (.ptr id g row off) 0=some (.ptr id g row (off+0)):=by kernel_rfl
theorem VJ:ag (xS kk).P 168 (.rp cs) 1=some (.rp (cs.drop 11)):=by kernel_rfl
theorem TO (row off:Nat):ag (xS kk).P 168 (.ptr id g row off) 1=some (.ptr id g row (off+11)):=by kernel_rfl
theorem TN:ag (xS kk).P 168 (.rp cs) 2=some (.rp (cs.drop 15)):=by kernel_rfl
theorem Tq (row off:Nat):ag (xS kk).P 168 (.ptr id g row off) 2=some (.ptr id g row (off+15)):=by kernel_rfl
theorem TZ:ag (xS kk).P 168 (.rp cs) 3=some (.rp (cs.drop 16)):=by kernel_rfl
theorem SS (row off:Nat):ag (xS kk).P 168 (.ptr id g row off) 3=some (.ptr id g row (off+16)):=by kernel_rfl
theorem U9:ag (xS kk).P 168 (.rp cs) 4=some (.rp (cs.drop 17)):=by kernel_rfl
theorem T1 (row off:Nat):ag (xS kk).P 168 (.ptr id g row off) 4=some (.ptr id g row (off+17)):=by kernel_rfl
theorem UV:ag (xS kk).P 168 (.rp cs) 5=some (.rp (cs.drop 18)):=by kernel_rfl
theorem UG (row off:Nat):ag (xS kk).P 168 (.ptr id g row off) 5=some (.ptr id g row (off+18)):=by kernel_rfl
theorem Wh:ag (xS kk).P 168 (.rp cs) 6=some (.rp (cs.drop 19)):=by kernel_rfl
theorem TR (row off:Nat):ag (xS kk).P 168 (.ptr id g row off) 6=some (.ptr id g row (off+19)):=by kernel_rfl
theorem SQ:ag (xS kk).P 194 (.rp cs) 0=some (.rp (cs.drop 0)):=by kernel_rfl
theorem UM (row off:Nat):ag (xS kk).P 194 (.ptr id g row off) 0=some (.ptr id g row (off+0)):=by kernel_rfl
theorem Wg:ag (xS kk).P 194 (.rp cs) 1=some (.rp (cs.drop 1)):=by kernel_rfl
theorem VE (row off:Nat):ag (xS kk).P 194 (.ptr id g row off) 1=some (.ptr id g row (off+1)):=by kernel_rfl
theorem S9:ag (xS kk).P 205 (.rp cs) 0=some (.rp (cs.drop 0)):=by kernel_rfl
theorem Ur (row off:Nat):ag (xS kk).P 205 (.ptr id g row off) 0=some (.ptr id g row (off+0)):=by kernel_rfl
theorem V2:ag (xS kk).P 205 (.rp cs) 1=some (.rp (cs.drop 7)):=by kernel_rfl
theorem Tl (row off:Nat):ag (xS kk).P 205 (.ptr id g row off) 1=some (.ptr id g row (off+7)):=by kernel_rfl
theorem Wo:ag (xS kk).P 205 (.rp cs) 2=some (.rp (cs.drop 11)):=by kernel_rfl
theorem Uv (row off:Nat):ag (xS kk).P 205 (.ptr id g row off) 2=some (.ptr id g row (off+11)):=by kernel_rfl
theorem UN:ag (xS kk).P 221 (.rp cs) 0=some (.rp (cs.drop 0)):=by kernel_rfl
theorem TM (row off:Nat):ag (xS kk).P 221 (.ptr id g row off) 0=some (.ptr id g row (off+0)):=by kernel_rfl
theorem SC:ag (xS kk).P 221 (.rp cs) 1=some (.rp (cs.drop 7)):=by kernel_rfl
theorem Sn (row off:Nat):ag (xS kk).P 221 (.ptr id g row off) 1=some (.ptr id g row (off+7)):=by kernel_rfl
theorem Wk:ag (xS kk).P 221 (.rp cs) 2=some (.rp (cs.drop 11)):=by kernel_rfl
theorem UX (row off:Nat):ag (xS kk).P 221 (.ptr id g row off) 2=some (.ptr id g row (off+11)):=by kernel_rfl
theorem WA:ag (xS kk).P 235 (.rp cs) 0=some (.rp (cs.drop 0)):=by kernel_rfl
theorem Vz (row off:Nat):ag (xS kk).P 235 (.ptr id g row off) 0=some (.ptr id g row (off+0)):=by kernel_rfl
theorem Ws:ag (xS kk).P 235 (.rp cs) 1=some (.rp (cs.drop 7)):=by kernel_rfl
theorem Wb (row off:Nat):ag (xS kk).P 235 (.ptr id g row off) 1=some (.ptr id g row (off+7)):=by kernel_rfl
theorem Sx:ag (xS kk).P 235 (.rp cs) 2=some (.rp (cs.drop 11)):=by kernel_rfl
theorem Ww (row off:Nat):ag (xS kk).P 235 (.ptr id g row off) 2=some (.ptr id g row (off+11)):=by kernel_rfl
theorem Ub:Bc (xS kk).P 194 (.agg cs) 0=aS (xS kk).P 3 (cs.drop 0):=by kernel_rfl
theorem ajv (l:Tyt):aA (xS kk).P 24 (.ro (l.map ak)) (.lit (.int k n)) H=(idx l n).map fun x => .rp (ak x):=cd (e:=101) (by kernel_rfl) (fun x=>(by kernel_rfl:(ak x).length=aR (xS kk).P 101)) (by kernel_rfl)
theorem aje:aA (xS kk).P 24 (.own id g len) (.lit (.int k n)) H=ixB 2 g len id n (H[id]?):=bf (P:=(xS kk).P) (e:=101) (by kernel_rfl) (by kernel_rfl)
theorem amQ (l:List Int):aA (xS kk).P 26 (.ro (l.map (av .u64))) (.lit (.int k n)) H=(idx l n).map fun x => .rp ((av .u64) x):=cd (e:=46) (by kernel_rfl) (fun x=>(by kernel_rfl:((av .u64) x).length=aR (xS kk).P 46)) (by kernel_rfl)
theorem alx:aA (xS kk).P 26 (.own id g len) (.lit (.int k n)) H=ixB 1 g len id n (H[id]?):=bf (P:=(xS kk).P) (e:=46) (by kernel_rfl) (by kernel_rfl)
theorem aih (l:List Tyw):aA (xS kk).P 27 (.ro (l.map aF)) (.lit (.int k n)) H=(idx l n).map fun x => .rp (aF x):=cd (e:=65) (by kernel_rfl) (fun x=>(by kernel_rfl:(aF x).length=aR (xS kk).P 65)) (by kernel_rfl)
theorem alS:aA (xS kk).P 27 (.own id g len) (.lit (.int k n)) H=ixB 11 g len id n (H[id]?):=bf (P:=(xS kk).P) (e:=65) (by kernel_rfl) (by kernel_rfl)
theorem aou (l:List Tys):aA (xS kk).P 28 (.ro (l.map bn)) (.lit (.int k n)) H=(idx l n).map fun x => .rp (bn x):=cd (e:=57) (by kernel_rfl) (fun x=>(by kernel_rfl:(bn x).length=aR (xS kk).P 57)) (by kernel_rfl)
theorem aju:aA (xS kk).P 28 (.own id g len) (.lit (.int k n)) H=ixB 9 g len id n (H[id]?):=bf (P:=(xS kk).P) (e:=57) (by kernel_rfl) (by kernel_rfl)
theorem aiE (l:Tye):aA (xS kk).P 31 (.ro (l.map gT)) (.lit (.int k n)) H=(idx l n).map fun x => .rp (gT x):=cd (e:=48) (by kernel_rfl) (fun x=>(by kernel_rfl:(gT x).length=aR (xS kk).P 48)) (by kernel_rfl)
theorem akL:aA (xS kk).P 31 (.own id g len) (.lit (.int k n)) H=ixB 3 g len id n (H[id]?):=bf (P:=(xS kk).P) (e:=48) (by kernel_rfl) (by kernel_rfl)
theorem akg (l:Tye):aA (xS kk).P 34 (.ro (l.map az)) (.lit (.int k n)) H=(idx l n).map fun x => .rp (az x):=cd (e:=52) (by kernel_rfl) (fun x=>(by kernel_rfl:(az x).length=aR (xS kk).P 52)) (by kernel_rfl)
theorem ajM:aA (xS kk).P 34 (.own id g len) (.lit (.int k n)) H=ixB 3 g len id n (H[id]?):=bf (P:=(xS kk).P) (e:=52) (by kernel_rfl) (by kernel_rfl)
theorem alT (l:List (List Int)):aA (xS kk).P 40 (.ro (l.map cz)) (.lit (.int k n)) H=(idx l n).map fun x => .rp (cz x):=cd (e:=53) (by kernel_rfl) (fun x=>(by kernel_rfl:(cz x).length=aR (xS kk).P 53)) (by kernel_rfl)
theorem anW:aA (xS kk).P 40 (.own id g len) (.lit (.int k n)) H=ixB 1 g len id n (H[id]?):=bf (P:=(xS kk).P) (e:=53) (by kernel_rfl) (by kernel_rfl)
theorem akA (l:List Int):aA (xS kk).P 53 (.ro (l.map (av .i64))) (.lit (.int k n)) H=(idx l n).map fun x => .rp ((av .i64) x):=cd (e:=3) (by kernel_rfl) (fun x=>(by kernel_rfl:((av .i64) x).length=aR (xS kk).P 3)) (by kernel_rfl)
theorem ajs:aA (xS kk).P 53 (.own id g len) (.lit (.int k n)) H=ixB 1 g len id n (H[id]?):=bf (P:=(xS kk).P) (e:=3) (by kernel_rfl) (by kernel_rfl)
theorem am8 (l:Tye):aA (xS kk).P 63 (.ro (l.map az)) (.lit (.int k n)) H=(idx l n).map fun x => .rp (az x):=cd (e:=129) (by kernel_rfl) (fun x=>(by kernel_rfl:(az x).length=aR (xS kk).P 129)) (by kernel_rfl)
theorem aiS:aA (xS kk).P 63 (.own id g len) (.lit (.int k n)) H=ixB 3 g len id n (H[id]?):=bf (P:=(xS kk).P) (e:=129) (by kernel_rfl) (by kernel_rfl)
theorem adM (l:List Bool):aA (xS kk).P 150 (.ro (l.map fI)) (.lit (.int k n)) H=(idx l n).map fun x => .rp (fI x):=cd (e:=4) (by kernel_rfl) (fun x=>(by kernel_rfl:(fI x).length=aR (xS kk).P 4)) (by kernel_rfl)
theorem aeP:aA (xS kk).P 150 (.own id g len) (.lit (.int k n)) H=ixB 1 g len id n (H[id]?):=bf (P:=(xS kk).P) (e:=4) (by kernel_rfl) (by kernel_rfl)
theorem ago:aA (xS kk).P 207 (.own id g len) (.lit (.int k n)) H=ixB 1 g len id n (H[id]?):=bf (P:=(xS kk).P) (e:=206) (by kernel_rfl) (by kernel_rfl)
theorem ahq:aA (xS kk).P 223 (.own id g len) (.lit (.int k n)) H=ixB 1 g len id n (H[id]?):=bf (P:=(xS kk).P) (e:=116) (by kernel_rfl) (by kernel_rfl)
theorem ad6:aA (xS kk).P 238 (.own id g len) (.lit (.int k n)) H=ixB 1 g len id n (H[id]?):=bf (P:=(xS kk).P) (e:=1) (by kernel_rfl) (by kernel_rfl)
theorem agR:rc (xS kk).P 24 x H=(AM x H).map fun v=>(v,H):=by kernel_rfl
theorem adD:rc (xS kk).P 25 x H=(AM x H).map fun v=>(v,H):=by kernel_rfl
theorem agK:rc (xS kk).P 26 x H=(AM x H).map fun v=>(v,H):=by kernel_rfl
theorem agi:rc (xS kk).P 27 x H=(AM x H).map fun v=>(v,H):=by kernel_rfl
theorem adw:rc (xS kk).P 28 x H=(AM x H).map fun v=>(v,H):=by kernel_rfl
theorem afk:rc (xS kk).P 31 x H=(AM x H).map fun v=>(v,H):=by kernel_rfl
theorem afE:rc (xS kk).P 34 x H=(AM x H).map fun v=>(v,H):=by kernel_rfl
theorem adO:rc (xS kk).P 40 x H=(AM x H).map fun v=>(v,H):=by kernel_rfl
theorem afS:rc (xS kk).P 53 x H=(AM x H).map fun v=>(v,H):=by kernel_rfl
theorem age:rc (xS kk).P 63 x H=(AM x H).map fun v=>(v,H):=by kernel_rfl
theorem XZ:rc (xS kk).P 207 x H=(AM x H).map fun v=>(v,H):=by kernel_rfl
theorem YU:rc (xS kk).P 238 x H=(AM x H).map fun v=>(v,H):=by kernel_rfl
theorem Vn:Ax (xS kk).P wl 24 24 s x H=bA (xS kk).P wl 24 s x H:=by kernel_rfl
theorem Tt:bA (xS kk).P wl 24 (.own id g len) x H=(bZ x H).bind fun xs=>bif cr 2 xs then apB wl 101 2 32 id g len xs H (H[id]?) else none:=(eM (P:=(xS kk).P) (t:=24) (e:=101) (by kernel_rfl) (by kernel_rfl)).trans (by kernel_rfl)
theorem UQ:bA (xS kk).P wl 24 .nil x H=(bZ x H).bind fun xs=>bif cr 2 xs then bif decide (xs.length*32≤70368744177664) then some (.own H.length 0 xs.length,H++[.rows 2 xs 0 true]) else none else none:=(eQ (P:=(xS kk).P) (t:=24) (e:=101) (by kernel_rfl) (by kernel_rfl)).trans (by kernel_rfl)
theorem Tc:Ax (xS kk).P wl 25 25 s x H=bA (xS kk).P wl 25 s x H:=by kernel_rfl
theorem V3:bA (xS kk).P wl 25 (.own id g len) x H=(bZ x H).bind fun xs=>bif cr 1 xs then apB wl 46 1 8 id g len xs H (H[id]?) else none:=(eM (P:=(xS kk).P) (t:=25) (e:=46) (by kernel_rfl) (by kernel_rfl)).trans (by kernel_rfl)
theorem Ux:bA (xS kk).P wl 25 .nil x H=(bZ x H).bind fun xs=>bif cr 1 xs then bif decide (xs.length*8≤70368744177664) then some (.own H.length 0 xs.length,H++[.rows 1 xs 0 true]) else none else none:=(eQ (P:=(xS kk).P) (t:=25) (e:=46) (by kernel_rfl) (by kernel_rfl)).trans (by kernel_rfl)
theorem VW:Ax (xS kk).P wl 26 26 s x H=bA (xS kk).P wl 26 s x H:=by kernel_rfl
theorem Vr:bA (xS kk).P wl 26 (.own id g len) x H=(bZ x H).bind fun xs=>bif cr 1 xs then apB wl 46 1 8 id g len xs H (H[id]?) else none:=(eM (P:=(xS kk).P) (t:=26) (e:=46) (by kernel_rfl) (by kernel_rfl)).trans (by kernel_rfl)
theorem TJ:bA (xS kk).P wl 26 .nil x H=(bZ x H).bind fun xs=>bif cr 1 xs then bif decide (xs.length*8≤70368744177664) then some (.own H.length 0 xs.length,H++[.rows 1 xs 0 true]) else none else none:=(eQ (P:=(xS kk).P) (t:=26) (e:=46) (by kernel_rfl) (by kernel_rfl)).trans (by kernel_rfl)
theorem T0:Ax (xS kk).P wl 27 27 s x H=bA (xS kk).P wl 27 s x H:=by kernel_rfl
theorem SU:bA (xS kk).P wl 27 (.own id g len) x H=(bZ x H).bind fun xs=>bif cr 11 xs then apB wl 65 11 104 id g len xs H (H[id]?) else none:=(eM (P:=(xS kk).P) (t:=27) (e:=65) (by kernel_rfl) (by kernel_rfl)).trans (by kernel_rfl)
theorem SK:bA (xS kk).P wl 27 .nil x H=(bZ x H).bind fun xs=>bif cr 11 xs then bif decide (xs.length*104≤70368744177664) then some (.own H.length 0 xs.length,H++[.rows 11 xs 0 true]) else none else none:=(eQ (P:=(xS kk).P) (t:=27) (e:=65) (by kernel_rfl) (by kernel_rfl)).trans (by kernel_rfl)
theorem UF:Ax (xS kk).P wl 28 28 s x H=bA (xS kk).P wl 28 s x H:=by kernel_rfl
theorem Tg:bA (xS kk).P wl 28 (.own id g len) x H=(bZ x H).bind fun xs=>bif cr 9 xs then apB wl 57 9 88 id g len xs H (H[id]?) else none:=(eM (P:=(xS kk).P) (t:=28) (e:=57) (by kernel_rfl) (by kernel_rfl)).trans (by kernel_rfl)
theorem SR:bA (xS kk).P wl 28 .nil x H=(bZ x H).bind fun xs=>bif cr 9 xs then bif decide (xs.length*88≤70368744177664) then some (.own H.length 0 xs.length,H++[.rows 9 xs 0 true]) else none else none:=(eQ (P:=(xS kk).P) (t:=28) (e:=57) (by kernel_rfl) (by kernel_rfl)).trans (by kernel_rfl)
theorem Wu:Ax (xS kk).P wl 34 34 s x H=bA (xS kk).P wl 34 s x H:=by kernel_rfl
theorem SO:bA (xS kk).P wl 34 (.own id g len) x H=(bZ x H).bind fun xs=>bif cr 3 xs then apB wl 52 3 24 id g len xs H (H[id]?) else none:=(eM (P:=(xS kk).P) (t:=34) (e:=52) (by kernel_rfl) (by kernel_rfl)).trans (by kernel_rfl)
theorem S1:bA (xS kk).P wl 34 .nil x H=(bZ x H).bind fun xs=>bif cr 3 xs then bif decide (xs.length*24≤70368744177664) then some (.own H.length 0 xs.length,H++[.rows 3 xs 0 true]) else none else none:=(eQ (P:=(xS kk).P) (t:=34) (e:=52) (by kernel_rfl) (by kernel_rfl)).trans (by kernel_rfl)
theorem Sw:Ax (xS kk).P wl 53 53 s x H=bA (xS kk).P wl 53 s x H:=by kernel_rfl
theorem SN:bA (xS kk).P wl 53 (.own id g len) x H=(bZ x H).bind fun xs=>bif cr 1 xs then apB wl 3 1 8 id g len xs H (H[id]?) else none:=(eM (P:=(xS kk).P) (t:=53) (e:=3) (by kernel_rfl) (by kernel_rfl)).trans (by kernel_rfl)
theorem T2:bA (xS kk).P wl 53 .nil x H=(bZ x H).bind fun xs=>bif cr 1 xs then bif decide (xs.length*8≤70368744177664) then some (.own H.length 0 xs.length,H++[.rows 1 xs 0 true]) else none else none:=(eQ (P:=(xS kk).P) (t:=53) (e:=3) (by kernel_rfl) (by kernel_rfl)).trans (by kernel_rfl)
theorem TD:Ax (xS kk).P wl 63 63 s x H=bA (xS kk).P wl 63 s x H:=by kernel_rfl
theorem Sv:bA (xS kk).P wl 63 (.own id g len) x H=(bZ x H).bind fun xs=>bif cr 3 xs then apB wl 129 3 24 id g len xs H (H[id]?) else none:=(eM (P:=(xS kk).P) (t:=63) (e:=129) (by kernel_rfl) (by kernel_rfl)).trans (by kernel_rfl)
theorem UU:bA (xS kk).P wl 63 .nil x H=(bZ x H).bind fun xs=>bif cr 3 xs then bif decide (xs.length*24≤70368744177664) then some (.own H.length 0 xs.length,H++[.rows 3 xs 0 true]) else none else none:=(eQ (P:=(xS kk).P) (t:=63) (e:=129) (by kernel_rfl) (by kernel_rfl)).trans (by kernel_rfl)
theorem ai0 (c:Bool):cy (xS kk).P wl c 53 (.own id g len) none (some (.lit (.int k n))) none H=slB g len id n H (H[id]?):=pA (P:=(xS kk).P) (e:=3) (by kernel_rfl) (by kernel_rfl)
theorem amO (c:Bool) (l:List Int):cy (xS kk).P wl c 53 (.ro (l.map (av .i64))) none (some (.lit (.int k n))) none H=bif decide (0≤n∧n≤l.length) then some (.ro ((l.take n.toNat).map (av .i64)),H) else none:=uB (P:=(xS kk).P) (e:=3) (by kernel_rfl) (by kernel_rfl) (fun x=>(by kernel_rfl:((av .i64) x).length=aR (xS kk).P 3))
theorem ajB (c:Bool) (l:List Int):cy (xS kk).P wl c 53 (.ro (l.map (av .i64))) (some (.lit (.int k n))) none none H=bif decide (0≤n∧n≤l.length) then some (.ro ((l.drop n.toNat).map (av .i64)),H) else none:=uk (P:=(xS kk).P) (e:=3) (by kernel_rfl) (by kernel_rfl) (fun x=>(by kernel_rfl:((av .i64) x).length=aR (xS kk).P 3))
theorem akK (c:Bool) (l:List Int) (k2:IntKind) (lo:Int):cy (xS kk).P wl c 53 (.ro (l.map (av .i64))) (some (.lit (.int k lo))) (some (.lit (.int k2 n))) none H=bif decide (0≤lo∧lo≤n∧n≤l.length) then some (.ro (((l.take n.toNat).drop lo.toNat).map (av .i64)),H) else none:=oc (P:=(xS kk).P) (e:=3) (by kernel_rfl) (by kernel_rfl) (fun x=>(by kernel_rfl:((av .i64) x).length=aR (xS kk).P 3))
theorem ajE (c:Bool):cy (xS kk).P wl c 63 (.own id g len) none (some (.lit (.int k n))) none H=slB g len id n H (H[id]?):=pA (P:=(xS kk).P) (e:=129) (by kernel_rfl) (by kernel_rfl)
theorem al9 (c:Bool) (l:Tye):cy (xS kk).P wl c 63 (.ro (l.map az)) none (some (.lit (.int k n))) none H=bif decide (0≤n∧n≤l.length) then some (.ro ((l.take n.toNat).map az),H) else none:=uB (P:=(xS kk).P) (e:=129) (by kernel_rfl) (by kernel_rfl) (fun x=>(by kernel_rfl:(az x).length=aR (xS kk).P 129))
theorem alL (c:Bool) (l:Tye):cy (xS kk).P wl c 63 (.ro (l.map az)) (some (.lit (.int k n))) none none H=bif decide (0≤n∧n≤l.length) then some (.ro ((l.drop n.toNat).map az),H) else none:=uk (P:=(xS kk).P) (e:=129) (by kernel_rfl) (by kernel_rfl) (fun x=>(by kernel_rfl:(az x).length=aR (xS kk).P 129))
theorem aiV (c:Bool) (l:Tye) (k2:IntKind) (lo:Int):cy (xS kk).P wl c 63 (.ro (l.map az)) (some (.lit (.int k lo))) (some (.lit (.int k2 n))) none H=bif decide (0≤lo∧lo≤n∧n≤l.length) then some (.ro (((l.take n.toNat).drop lo.toNat).map az),H) else none:=oc (P:=(xS kk).P) (e:=129) (by kernel_rfl) (by kernel_rfl) (fun x=>(by kernel_rfl:(az x).length=aR (xS kk).P 129))
theorem ag2:aX (xS kk).P 150 (.lit (.int .i64 n)) (.lit (.int .i64 n)) H=bif decide (0≤n∧n≤9223372036854775807∧n*1≤70368744177664) then some (.own H.length 0 n.toNat,H++[.rows 1 (List.replicate n.toNat [(V.lit (Value.bool false))]) 0 true]) else none:=uU (P:=(xS kk).P) (t:=150) (e:=4) (z:=((fM (xS kk).P 4).getD default)) (by kernel_rfl) (by kernel_rfl) (by kernel_rfl) (by kernel_rfl)
theorem acK:C5 (xS kk).P 3 46 (.lit (.int k n))=some (.lit (.int .u64 (IntKind.wrap .u64 n))):=by kernel_rfl
theorem aa0:C5 (xS kk).P 46 3 (.lit (.int k n))=some (.lit (.int .i64 (IntKind.wrap .i64 n))):=by kernel_rfl
theorem ajT (a0 b0:Int) (a1 b1:Int) (a2 b2:Int) (a3 b3:Int):kZ (xS kk).P .eql 23 (.agg [.lit (.int .i64 a0),.lit (.int .i64 a1),.lit (.int .i64 a2),.lit (.int .i64 a3)]) (.agg [.lit (.int .i64 b0),.lit (.int .i64 b1),.lit (.int .i64 b2),.lit (.int .i64 b3)])=some (.lit (.bool ((a0==b0)&&((a1==b1)&&((a2==b2)&&((a3==b3)&&true)))))):=by kernel_rfl
theorem an9 (a0 b0:Int) (a1 b1:Int) (a2 b2:Int) (a3 b3:Int):kZ (xS kk).P .neq 23 (.agg [.lit (.int .i64 a0),.lit (.int .i64 a1),.lit (.int .i64 a2),.lit (.int .i64 a3)]) (.agg [.lit (.int .i64 b0),.lit (.int .i64 b1),.lit (.int .i64 b2),.lit (.int .i64 b3)])=some (.lit (.bool (!((a0==b0)&&((a1==b1)&&((a2==b2)&&((a3==b3)&&true))))))):=by kernel_rfl
theorem aj3 (a0 b0:Int) (a1 b1:Int) (a2 b2:Int):kZ (xS kk).P .eql 52 (.agg [.lit (.int .i64 a0),.lit (.int .i64 a1),.lit (.int .i64 a2)]) (.agg [.lit (.int .i64 b0),.lit (.int .i64 b1),.lit (.int .i64 b2)])=some (.lit (.bool ((a0==b0)&&((a1==b1)&&((a2==b2)&&true))))):=by kernel_rfl
theorem aoq (a0 b0:Int) (a1 b1:Int) (a2 b2:Int):kZ (xS kk).P .neq 52 (.agg [.lit (.int .i64 a0),.lit (.int .i64 a1),.lit (.int .i64 a2)]) (.agg [.lit (.int .i64 b0),.lit (.int .i64 b1),.lit (.int .i64 b2)])=some (.lit (.bool (!((a0==b0)&&((a1==b1)&&((a2==b2)&&true)))))):=by kernel_rfl
theorem ait (a0 b0:Int) (a1 b1:Int) (a2 b2:Int) (a3 b3:Int) (a4 b4:Int) (a5 b5:Int) (a6 b6:Int):kZ (xS kk).P .eql 55 (.agg [.lit (.int .i64 a0),.lit (.int .i64 a1),.lit (.int .i64 a2),.lit (.int .u64 a3),.lit (.int .u64 a4),.lit (.int .u64 a5),.lit (.int .i64 a6)]) (.agg [.lit (.int .i64 b0),.lit (.int .i64 b1),.lit (.int .i64 b2),.lit (.int .u64 b3),.lit (.int .u64 b4),.lit (.int .u64 b5),.lit (.int .i64 b6)])=some (.lit (.bool ((a0==b0)&&((a1==b1)&&((a2==b2)&&((a3==b3)&&((a4==b4)&&((a5==b5)&&((a6==b6)&&true))))))))):=by kernel_rfl
theorem alB (a0 b0:Int) (a1 b1:Int) (a2 b2:Int) (a3 b3:Int) (a4 b4:Int) (a5 b5:Int) (a6 b6:Int):kZ (xS kk).P .neq 55 (.agg [.lit (.int .i64 a0),.lit (.int .i64 a1),.lit (.int .i64 a2),.lit (.int .u64 a3),.lit (.int .u64 a4),.lit (.int .u64 a5),.lit (.int .i64 a6)]) (.agg [.lit (.int .i64 b0),.lit (.int .i64 b1),.lit (.int .i64 b2),.lit (.int .u64 b3),.lit (.int .u64 b4),.lit (.int .u64 b5),.lit (.int .i64 b6)])=some (.lit (.bool (!((a0==b0)&&((a1==b1)&&((a2==b2)&&((a3==b3)&&((a4==b4)&&((a5==b5)&&((a6==b6)&&true)))))))))):=by kernel_rfl
theorem ac2 (a0 b0:Int) (a1 b1:Int) (a2 b2:Int):kZ (xS kk).P .eql 129 (.agg [.lit (.int .i64 a0),.lit (.int .i64 a1),.lit (.int .i64 a2)]) (.agg [.lit (.int .i64 b0),.lit (.int .i64 b1),.lit (.int .i64 b2)])=some (.lit (.bool ((a0==b0)&&((a1==b1)&&((a2==b2)&&true))))):=by kernel_rfl
theorem ad3 (a0 b0:Int) (a1 b1:Int) (a2 b2:Int):kZ (xS kk).P .neq 129 (.agg [.lit (.int .i64 a0),.lit (.int .i64 a1),.lit (.int .i64 a2)]) (.agg [.lit (.int .i64 b0),.lit (.int .i64 b1),.lit (.int .i64 b2)])=some (.lit (.bool (!((a0==b0)&&((a1==b1)&&((a2==b2)&&true)))))):=by kernel_rfl
theorem Kd (c0 c1 c2:V):dn (xS kk).P 23 [(0,c0),(1,c1),(2,c2)]=(uc [(V.lit (Value.int .i64 (0))),(V.lit (Value.int .i64 (0))),(V.lit (Value.int .i64 (0))),(V.lit (Value.int .i64 (0)))] [(0,1,c0),(1,1,c1),(2,1,c2)]).map .agg:=by kernel_rfl
theorem aet:dn (xS kk).P 30 []=(uc [(V.lit (Value.int .i64 (0))),(V.lit (Value.int .i64 (0))),(V.lit (Value.int .i64 (0))),(V.lit (Value.int .i64 (0))),V.nil,V.nil,V.nil,V.nil] []).map .agg:=by kernel_rfl
theorem Kb (c0 c1 c2:V):dn (xS kk).P 30 [(0,c0),(1,c1),(2,c2)]=(uc [(V.lit (Value.int .i64 (0))),(V.lit (Value.int .i64 (0))),(V.lit (Value.int .i64 (0))),(V.lit (Value.int .i64 (0))),V.nil,V.nil,V.nil,V.nil] [(0,4,c0),(4,1,c1),(5,1,c2)]).map .agg:=by kernel_rfl
theorem agE:dn (xS kk).P 48 []=(uc [(V.lit (Value.int .i64 (0))),(V.lit (Value.int .i64 (0))),(V.lit (Value.int .u64 (0)))] []).map .agg:=by kernel_rfl
theorem Zq (c0:V):dn (xS kk).P 48 [(0,c0)]=(uc [(V.lit (Value.int .i64 (0))),(V.lit (Value.int .i64 (0))),(V.lit (Value.int .u64 (0)))] [(0,1,c0)]).map .agg:=by kernel_rfl
theorem Kr (c0 c1 c2:V):dn (xS kk).P 52 [(0,c0),(1,c1),(2,c2)]=(uc [(V.lit (Value.int .i64 (0))),(V.lit (Value.int .i64 (0))),(V.lit (Value.int .i64 (0)))] [(0,1,c0),(1,1,c1),(2,1,c2)]).map .agg:=by kernel_rfl
theorem afA:dn (xS kk).P 55 []=(uc [(V.lit (Value.int .i64 (0))),(V.lit (Value.int .i64 (0))),(V.lit (Value.int .i64 (0))),(V.lit (Value.int .u64 (0))),(V.lit (Value.int .u64 (0))),(V.lit (Value.int .u64 (0))),(V.lit (Value.int .i64 (0)))] []).map .agg:=by kernel_rfl
theorem Ja (c0 c1 c2:V):dn (xS kk).P 55 [(0,c0),(2,c1),(3,c2)]=(uc [(V.lit (Value.int .i64 (0))),(V.lit (Value.int .i64 (0))),(V.lit (Value.int .i64 (0))),(V.lit (Value.int .u64 (0))),(V.lit (Value.int .u64 (0))),(V.lit (Value.int .u64 (0))),(V.lit (Value.int .i64 (0)))] [(0,1,c0),(2,1,c1),(3,1,c2)]).map .agg:=by kernel_rfl
theorem EF (c0 c1 c2 c3:V):dn (xS kk).P 55 [(0,c0),(2,c1),(3,c2),(6,c3)]=(uc [(V.lit (Value.int .i64 (0))),(V.lit (Value.int .i64 (0))),(V.lit (Value.int .i64 (0))),(V.lit (Value.int .u64 (0))),(V.lit (Value.int .u64 (0))),(V.lit (Value.int .u64 (0))),(V.lit (Value.int .i64 (0)))] [(0,1,c0),(2,1,c1),(3,1,c2),(6,1,c3)]).map .agg:=by kernel_rfl
theorem IU (c0 c1 c2:V):dn (xS kk).P 57 [(0,c0),(1,c1),(2,c2)]=(uc [(V.lit (Value.int .i64 (0))),V.nil,(V.lit (Value.int .i64 (0))),(V.lit (Value.int .i64 (0))),(V.lit (Value.int .i64 (0))),(V.lit (Value.int .u64 (0))),(V.lit (Value.int .u64 (0))),(V.lit (Value.int .u64 (0))),(V.lit (Value.int .i64 (0)))] [(0,1,c0),(1,1,c1),(2,7,c2)]).map .agg:=by kernel_rfl
theorem aaq (c0:V):dn (xS kk).P 57 [(1,c0)]=(uc [(V.lit (Value.int .i64 (0))),V.nil,(V.lit (Value.int .i64 (0))),(V.lit (Value.int .i64 (0))),(V.lit (Value.int .i64 (0))),(V.lit (Value.int .u64 (0))),(V.lit (Value.int .u64 (0))),(V.lit (Value.int .u64 (0))),(V.lit (Value.int .i64 (0)))] [(1,1,c0)]).map .agg:=by kernel_rfl
theorem XR (c0:V):dn (xS kk).P 65 [(2,c0)]=(uc [(V.lit (Value.int .i64 (0))),V.nil,(V.lit (Value.int .i64 (0))),(V.lit (Value.int .i64 (0))),(V.lit (Value.int .i64 (0))),(V.lit (Value.int .u64 (0))),(V.lit (Value.int .u64 (0))),(V.lit (Value.int .u64 (0))),(V.lit (Value.int .i64 (0))),(V.lit (Value.int .i64 (0))),(V.lit (Value.int .i64 (0)))] [(2,7,c0)]).map .agg:=by kernel_rfl
theorem Ua (c0:V):dn (xS kk).P 129 [(0,c0)]=(uc [(V.lit (Value.int .i64 (0))),(V.lit (Value.int .i64 (0))),(V.lit (Value.int .i64 (0)))] [(0,1,c0)]).map .agg:=by kernel_rfl
theorem ud (c0 c1 c2 c3 c4 c5:V):dn (xS kk).P 168 [(0,c0),(1,c1),(2,c2),(3,c3),(4,c4),(5,c5)]=(uc [(V.lit (Value.int .i64 (0))),V.nil,(V.lit (Value.int .i64 (0))),(V.lit (Value.int .i64 (0))),(V.lit (Value.int .i64 (0))),(V.lit (Value.int .u64 (0))),(V.lit (Value.int .u64 (0))),(V.lit (Value.int .u64 (0))),(V.lit (Value.int .i64 (0))),(V.lit (Value.int .i64 (0))),(V.lit (Value.int .i64 (0))),(V.lit (Value.int .i64 (0))),(V.lit (Value.int .i64 (0))),(V.lit (Value.int .i64 (0))),(V.lit (Value.int .i64 (0))),V.nil,V.nil,(V.lit (Value.int .i64 (0))),(V.lit (Value.int .u64 (0))),V.nil] [(0,11,c0),(11,4,c1),(15,1,c2),(16,1,c3),(17,1,c4),(18,1,c5)]).map .agg:=by kernel_rfl
theorem eA (c0 c1 c2 c3 c4 c5 c6 c7 c8 c9 c10 c11 c12 c13 c14 c15:V):dn (xS kk).P 169 [(0,c0),(1,c1),(2,c2),(3,c3),(4,c4),(5,c5),(6,c6),(7,c7),(8,c8),(9,c9),(10,c10),(11,c11),(12,c12),(13,c13),(14,c14),(15,c15)]=(uc [(V.lit Value.nilFunc),(V.lit Value.nilFunc),(V.lit Value.nilFunc),(V.lit Value.nilFunc),(V.lit Value.nilFunc),(V.lit Value.nilFunc),(V.lit Value.nilFunc),(V.lit Value.nilFunc),(V.lit Value.nilFunc),(V.lit Value.nilFunc),(V.lit Value.nilFunc),(V.lit Value.nilFunc),(V.lit Value.nilFunc),(V.lit Value.nilFunc),(V.lit Value.nilFunc),(V.lit Value.nilFunc)] [(0,1,c0),(1,1,c1),(2,1,c2),(3,1,c3),(4,1,c4),(5,1,c5),(6,1,c6),(7,1,c7),(8,1,c8),(9,1,c9),(10,1,c10),(11,1,c11),(12,1,c12),(13,1,c13),(14,1,c14),(15,1,c15)]).map .agg:=by kernel_rfl
theorem uX (c0 c1 c2 c3 c4 c5:V):dn (xS kk).P 175 [(0,c0),(1,c1),(2,c2),(3,c3),(4,c4),(5,c5)]=(uc [(V.lit Value.nilFunc),(V.lit Value.nilFunc),(V.lit Value.nilFunc),(V.lit Value.nilFunc),(V.lit Value.nilFunc),(V.lit Value.nilFunc)] [(0,1,c0),(1,1,c1),(2,1,c2),(3,1,c3),(4,1,c4),(5,1,c5)]).map .agg:=by kernel_rfl
theorem ab3:dn (xS kk).P 194 []=(uc [(V.lit (Value.int .i64 (0))),(V.lit (Value.int .i64 (0)))] []).map .agg:=by kernel_rfl
theorem M9 (c0 c1:V):dn (xS kk).P 194 [(0,c0),(1,c1)]=(uc [(V.lit (Value.int .i64 (0))),(V.lit (Value.int .i64 (0)))] [(0,1,c0),(1,1,c1)]).map .agg:=by kernel_rfl
theorem Ii (c0 c1 c2:V):dn (xS kk).P 205 [(0,c0),(1,c1),(2,c2)]=(uc [(V.lit (Value.int .i64 (0))),(V.lit (Value.int .i64 (0))),(V.lit (Value.int .i64 (0))),(V.lit (Value.int .u64 (0))),(V.lit (Value.int .u64 (0))),(V.lit (Value.int .u64 (0))),(V.lit (Value.int .i64 (0))),(V.lit (Value.int .i64 (0))),(V.lit (Value.int .i64 (0))),(V.lit (Value.int .i64 (0))),(V.lit (Value.int .i64 (0))),V.nil] [(0,7,c0),(7,4,c1),(11,1,c2)]).map .agg:=by kernel_rfl
theorem Gq (c0 c1 c2:V):dn (xS kk).P 221 [(0,c0),(1,c1),(2,c2)]=(uc [(V.lit (Value.int .i64 (0))),(V.lit (Value.int .i64 (0))),(V.lit (Value.int .i64 (0))),(V.lit (Value.int .u64 (0))),(V.lit (Value.int .u64 (0))),(V.lit (Value.int .u64 (0))),(V.lit (Value.int .i64 (0))),(V.lit (Value.int .i64 (0))),(V.lit (Value.int .i64 (0))),(V.lit (Value.int .i64 (0))),(V.lit (Value.int .i64 (0))),V.nil] [(0,7,c0),(7,4,c1),(11,1,c2)]).map .agg:=by kernel_rfl
theorem Ho (c0 c1 c2:V):dn (xS kk).P 235 [(0,c0),(1,c1),(2,c2)]=(uc [(V.lit (Value.int .i64 (0))),(V.lit (Value.int .i64 (0))),(V.lit (Value.int .i64 (0))),(V.lit (Value.int .u64 (0))),(V.lit (Value.int .u64 (0))),(V.lit (Value.int .u64 (0))),(V.lit (Value.int .i64 (0))),(V.lit (Value.int .i64 (0))),(V.lit (Value.int .i64 (0))),(V.lit (Value.int .i64 (0))),(V.lit (Value.int .i64 (0))),V.nil] [(0,7,c0),(7,4,c1),(11,1,c2)]).map .agg:=by kernel_rfl
theorem C3 (c0 c1 c2 c3:V):dn (xS kk).P 236 [(0,c0),(1,c1),(2,c2),(3,c3)]=(uc [(V.lit Value.nilFunc),(V.lit Value.nilFunc),(V.lit Value.nilFunc),(V.lit Value.nilFunc)] [(0,1,c0),(1,1,c1),(2,1,c2),(3,1,c3)]).map .agg:=by kernel_rfl
theorem YE (l:List (Nat×V)):aL (xS kk).P wl 24 0 l H=(gf wl 2 l [] H).bind fun p=>some (.own p.2.length 0 0,p.2++[.rows 2 p.1 0 true]):=by kernel_rfl
theorem ZH (l:List (Nat×V)):aL (xS kk).P wl 25 1 l H=(gf wl 1 l [[(V.lit (Value.int .u64 (0)))]] H).bind fun p=>some (.own p.2.length 0 1,p.2++[.rows 1 p.1 0 true]):=by kernel_rfl
theorem YO (l:List (Nat×V)):aL (xS kk).P wl 26 0 l H=(gf wl 1 l [] H).bind fun p=>some (.own p.2.length 0 0,p.2++[.rows 1 p.1 0 true]):=by kernel_rfl
theorem Z9 (l:List (Nat×V)):aL (xS kk).P wl 26 1 l H=(gf wl 1 l [[(V.lit (Value.int .u64 (0)))]] H).bind fun p=>some (.own p.2.length 0 1,p.2++[.rows 1 p.1 0 true]):=by kernel_rfl
theorem Zi (l:List (Nat×V)):aL (xS kk).P wl 27 0 l H=(gf wl 11 l [] H).bind fun p=>some (.own p.2.length 0 0,p.2++[.rows 11 p.1 0 true]):=by kernel_rfl
theorem YG (l:List (Nat×V)):aL (xS kk).P wl 27 1 l H=(gf wl 11 l [[(V.lit (Value.int .i64 (0))),V.ro [],(V.lit (Value.int .i64 (0))),(V.lit (Value.int .i64 (0))),(V.lit (Value.int .i64 (0))),(V.lit (Value.int .u64 (0))),(V.lit (Value.int .u64 (0))),(V.lit (Value.int .u64 (0))),(V.lit (Value.int .i64 (0))),(V.lit (Value.int .i64 (0))),(V.lit (Value.int .i64 (0)))]] H).bind fun p=>some (.own p.2.length 0 1,p.2++[.rows 11 p.1 0 true]):=by kernel_rfl
theorem ab5 (l:List (Nat×V)):aL (xS kk).P wl 28 0 l H=(gf wl 9 l [] H).bind fun p=>some (.own p.2.length 0 0,p.2++[.rows 9 p.1 0 true]):=by kernel_rfl
theorem aaK (l:List (Nat×V)):aL (xS kk).P wl 28 1 l H=(gf wl 9 l [[(V.lit (Value.int .i64 (0))),V.ro [],(V.lit (Value.int .i64 (0))),(V.lit (Value.int .i64 (0))),(V.lit (Value.int .i64 (0))),(V.lit (Value.int .u64 (0))),(V.lit (Value.int .u64 (0))),(V.lit (Value.int .u64 (0))),(V.lit (Value.int .i64 (0)))]] H).bind fun p=>some (.own p.2.length 0 1,p.2++[.rows 9 p.1 0 true]):=by kernel_rfl
theorem acx (l:List (Nat×V)):aL (xS kk).P wl 31 1 l H=(gf wl 3 l [[(V.lit (Value.int .i64 (0))),(V.lit (Value.int .i64 (0))),(V.lit (Value.int .u64 (0)))]] H).bind fun p=>some (.own p.2.length 0 1,p.2++[.rows 3 p.1 0 true]):=by kernel_rfl
theorem ZC (l:List (Nat×V)):aL (xS kk).P wl 31 2 l H=(gf wl 3 l [[(V.lit (Value.int .i64 (0))),(V.lit (Value.int .i64 (0))),(V.lit (Value.int .u64 (0)))],[(V.lit (Value.int .i64 (0))),(V.lit (Value.int .i64 (0))),(V.lit (Value.int .u64 (0)))]] H).bind fun p=>some (.own p.2.length 0 2,p.2++[.rows 3 p.1 0 true]):=by kernel_rfl
theorem aav (l:List (Nat×V)):aL (xS kk).P wl 34 1 l H=(gf wl 3 l [[(V.lit (Value.int .i64 (0))),(V.lit (Value.int .i64 (0))),(V.lit (Value.int .i64 (0)))]] H).bind fun p=>some (.own p.2.length 0 1,p.2++[.rows 3 p.1 0 true]):=by kernel_rfl
theorem abG (l:List (Nat×V)):aL (xS kk).P wl 53 0 l H=(gf wl 1 l [] H).bind fun p=>some (.own p.2.length 0 0,p.2++[.rows 1 p.1 0 true]):=by kernel_rfl
theorem XM (l:List (Nat×V)):aL (xS kk).P wl 53 1 l H=(gf wl 1 l [[(V.lit (Value.int .i64 (0)))]] H).bind fun p=>some (.own p.2.length 0 1,p.2++[.rows 1 p.1 0 true]):=by kernel_rfl
theorem XV (l:List (Nat×V)):aL (xS kk).P wl 53 5 l H=(gf wl 1 l [[(V.lit (Value.int .i64 (0)))],[(V.lit (Value.int .i64 (0)))],[(V.lit (Value.int .i64 (0)))],[(V.lit (Value.int .i64 (0)))],[(V.lit (Value.int .i64 (0)))]] H).bind fun p=>some (.own p.2.length 0 5,p.2++[.rows 1 p.1 0 true]):=by kernel_rfl
theorem abM (l:List (Nat×V)):aL (xS kk).P wl 63 0 l H=(gf wl 3 l [] H).bind fun p=>some (.own p.2.length 0 0,p.2++[.rows 3 p.1 0 true]):=by kernel_rfl
theorem aac (l:List (Nat×V)):aL (xS kk).P wl 63 1 l H=(gf wl 3 l [[(V.lit (Value.int .i64 (0))),(V.lit (Value.int .i64 (0))),(V.lit (Value.int .i64 (0)))]] H).bind fun p=>some (.own p.2.length 0 1,p.2++[.rows 3 p.1 0 true]):=by kernel_rfl
theorem Tb (l:List (Nat×V)):aL (xS kk).P wl 207 5 l H=(gf wl 1 l [[(V.lit Value.nilFunc)],[(V.lit Value.nilFunc)],[(V.lit Value.nilFunc)],[(V.lit Value.nilFunc)],[(V.lit Value.nilFunc)]] H).bind fun p=>some (.own p.2.length 0 5,p.2++[.rows 1 p.1 0 true]):=by kernel_rfl
theorem Wi (l:List (Nat×V)):aL (xS kk).P wl 223 5 l H=(gf wl 1 l [[(V.lit Value.nilFunc)],[(V.lit Value.nilFunc)],[(V.lit Value.nilFunc)],[(V.lit Value.nilFunc)],[(V.lit Value.nilFunc)]] H).bind fun p=>some (.own p.2.length 0 5,p.2++[.rows 1 p.1 0 true]):=by kernel_rfl
theorem S4 (l:List (Nat×V)):aL (xS kk).P wl 238 4 l H=(gf wl 1 l [[(V.lit Value.nilFunc)],[(V.lit Value.nilFunc)],[(V.lit Value.nilFunc)],[(V.lit Value.nilFunc)]] H).bind fun p=>some (.own p.2.length 0 4,p.2++[.rows 1 p.1 0 true]):=by kernel_rfl
theorem ahI (v:V):lg (xS kk).P wl 138 (.map id) (.lit (.int .i64 n)) v H=inB wl .i64 id n v H (H[id]?):=by kernel_rfl
theorem agl (ok:Bool):kq (xS kk).P 138 (.map id) (.lit (.int .i64 n)) ok H=lkB .i64 (V.lit Value.nilFunc) ok n (H[id]?):=by kernel_rfl
theorem afx (v:V):lg (xS kk).P wl 201 (.map id) (.lit (.int .i64 n)) v H=inB wl .i64 id n v H (H[id]?):=by kernel_rfl
theorem ac6 (ok:Bool):kq (xS kk).P 201 (.map id) (.lit (.int .i64 n)) ok H=lkB .i64 (V.lit Value.nilFunc) ok n (H[id]?):=by kernel_rfl
theorem ahz (v:V):lg (xS kk).P wl 212 (.map id) (.lit (.int .i64 n)) v H=inB wl .i64 id n v H (H[id]?):=by kernel_rfl
theorem aha (ok:Bool):kq (xS kk).P 212 (.map id) (.lit (.int .i64 n)) ok H=lkB .i64 (V.lit Value.nilFunc) ok n (H[id]?):=by kernel_rfl
theorem aeQ (row off:Nat):aA (xS kk).P 169 (.ptr id g row off) (.lit (.int k n)) H=arC id g row [(0,off),(1,off+1),(2,off+2),(3,off+3),(4,off+4),(5,off+5),(6,off+6),(7,off+7),(8,off+8),(9,off+9),(10,off+10),(11,off+11),(12,off+12),(13,off+13),(14,off+14),(15,off+15)] n:=Ml (e:=1) (len:=16) (sz:=1) (by kernel_rfl) (by kernel_rfl) (by decide)
theorem adv (row off:Nat):aA (xS kk).P 175 (.ptr id g row off) (.lit (.int k n)) H=arC id g row [(0,off),(1,off+1),(2,off+2),(3,off+3),(4,off+4),(5,off+5)] n:=Ml (e:=1) (len:=6) (sz:=1) (by kernel_rfl) (by kernel_rfl) (by decide)
theorem agr (row off:Nat):aA (xS kk).P 236 (.ptr id g row off) (.lit (.int k n)) H=arC id g row [(0,off),(1,off+1),(2,off+2),(3,off+3)] n:=Ml (e:=1) (len:=4) (sz:=1) (by kernel_rfl) (by kernel_rfl) (by decide)
end
def xF0:=PLift.up (aI (aI (aI (aI (aI (aI (aI (aI @ap9 @aqZ) (aI @aqw @aqp)) (aI (aI @aqv @ap1) (aI @ano (aI @ai5 @ajK)))) (aI (aI (aI @ais @alZ) (aI @akP (aI @aot @ajO))) (aI (aI @anV @amX) (aI @amw (aI @anE @alV))))) (aI (aI (aI (aI @alp @aoc) (aI @aiR (aI @aiQ @ajc))) (aI (aI @amP @akh) (aI @aja (aI @aos @amE)))) (aI (aI (aI @aow @amF) (aI @aoF (aI @ajq @aiJ))) (aI (aI @aiv @ajk) (aI @ank (aI @ajG @ajw)))))) (aI (aI (aI (aI (aI @ai4 @aeh) (aI @ahc @ad0)) (aI (aI @afH @ad4) (aI @ag4 (aI @adA @afF)))) (aI (aI (aI @aew @ahb) (aI @aeM (aI @adf @aei))) (aI (aI @aeH @ag0) (aI @agw (aI @ahA @afo))))) (aI (aI (aI (aI @agd @agN) (aI @af5 (aI @agu @aqk))) (aI (aI @aqU @aqN) (aI @an3 (aI @amg @air)))) (aI (aI (aI @akz @aii) (aI @alK (aI @ai9 @anY))) (aI (aI @afp @ahj) (aI @adY (aI @agD @agh))))))) (aI (aI (aI (aI (aI (aI @ahw @ahF) (aI @ac5 @afL)) (aI (aI @ZP @ZB) (aI @Yy (aI @X1 @Yz)))) (aI (aI (aI @aak @acX) (aI @acp (aI @aaW @abL))) (aI (aI @Zp @YC) (aI @Y1 (aI @aaX @YZ))))) (aI (aI (aI (aI @acE @Z8) (aI @aas (aI @Zr @YM))) (aI (aI @aaR @ZE) (aI @abB (aI @Yt @Zv)))) (aI (aI (aI @abS @ZT) (aI @ab8 (aI @abn @Yv))) (aI (aI @aa8 @acr) (aI @YY (aI @aaO @Zo)))))) (aI (aI (aI (aI (aI @acw @Zt) (aI @Yl @YL)) (aI (aI @aa5 @ZD) (aI @aa2 (aI @acf @acs)))) (aI (aI (aI @abT @Zl) (aI @Ya (aI @aa7 @abd))) (aI (aI @Yd @ZQ) (aI @acT (aI @aaE @XP))))) (aI (aI (aI (aI @ZF @aby) (aI @Te (aI @S3 @Uz))) (aI (aI @UR @Vu) (aI @SH (aI @SP @US)))) (aI (aI (aI @UH @Vx) (aI @S6 (aI @Ta @VJ))) (aI (aI @TO @TN) (aI @Tq (aI @TZ @SS)))))))) (aI (aI (aI (aI (aI (aI (aI @U9 @T1) (aI @UV @UG)) (aI (aI @Wh @TR) (aI @SQ (aI @UM @Wg)))) (aI (aI (aI @VE @S9) (aI @Ur (aI @V2 @Tl))) (aI (aI @Wo @Uv) (aI @UN (aI @TM @SC))))) (aI (aI (aI (aI @Sn @Wk) (aI @UX (aI @WA @Vz))) (aI (aI @Ws @Wb) (aI @Sx (aI @Ww @Ub)))) (aI (aI (aI @ajv @aje) (aI @amQ (aI @alx @aih))) (aI (aI @alS @aou) (aI @aju (aI @aiE @akL)))))) (aI (aI (aI (aI (aI @akg @ajM) (aI @alT @anW)) (aI (aI @akA @ajs) (aI @am8 (aI @aiS @adM)))) (aI (aI (aI @aeP @ago) (aI @ahq (aI @ad6 @agR))) (aI (aI @adD @agK) (aI @agi (aI @adw @afk))))) (aI (aI (aI (aI @afE @adO) (aI @afS (aI @age @XZ))) (aI (aI @YU @Vn) (aI @Tt (aI @UQ @Tc)))) (aI (aI (aI @V3 @Ux) (aI @VW (aI @Vr @TJ))) (aI (aI @T0 @SU) (aI @SK (aI @UF @Tg))))))) (aI (aI (aI (aI (aI (aI @SR @Wu) (aI @SO @S1)) (aI (aI @Sw @SN) (aI @T2 (aI @TD @Sv)))) (aI (aI (aI @UU @ai0) (aI @amO (aI @ajB @akK))) (aI (aI @ajE @al9) (aI @alL (aI @aiV @ag2))))) (aI (aI (aI (aI @acK @aa0) (aI @ajT (aI @an9 @aj3))) (aI (aI @aoq @ait) (aI @alB (aI @ac2 @ad3)))) (aI (aI (aI @Kd @aet) (aI @Kb (aI @agE @Zq))) (aI (aI @Kr @afA) (aI @Ja (aI @EF @IU)))))) (aI (aI (aI (aI (aI @aaq @XR) (aI @Ua (aI @ud @eA))) (aI (aI @uX @ab3) (aI @M9 (aI @Ii @Gq)))) (aI (aI (aI @Ho @C3) (aI @YE (aI @ZH @YO))) (aI (aI @Z9 @Zi) (aI @YG (aI @ab5 @aaK))))) (aI (aI (aI (aI @acx @ZC) (aI @aav (aI @abG @XM))) (aI (aI @XV @abM) (aI @aac (aI @Tb @Wi)))) (aI (aI (aI @S4 @ahI) (aI @agl (aI @afx @ac6))) (aI (aI @ahz @aha) (aI @aeQ (aI @adv @agr)))))))))
theorem xF:type_of% xF0.down:=xF0.down
end Go.Ab
