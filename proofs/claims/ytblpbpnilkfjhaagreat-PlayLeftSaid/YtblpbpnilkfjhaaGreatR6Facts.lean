import Derived.Test.YtblpbpnilkfjhaaGreatAbLibC
import Derived.Test.YtblpbpnilkfjhaaGreatAbLibB
import Derived.Test.YtblpbpnilkfjhaaGreatR6Seat
set_option linter.unusedVariables false
set_option linter.unusedSimpArgs false
set_option maxRecDepth 100000
set_option linter.unusedVariables false
namespace Go.Ab
open Go.Proofs
section
variable (kk:Nat) (c:V) (cs:List V) (H:Hp) (id:Nat) (g:Nat) (k:IntKind) (n:Int) (len:Nat) (x:V) (wl:Nat) (s:V)
theorem aoH:aN (xS kk).P 1 (c::cs)=some c:=by kernel_rfl
theorem aoG:aM (xS kk).P 1=1:=by kernel_rfl
theorem aoU:aN (xS kk).P 3 (c::cs)=some c:=by kernel_rfl
theorem aol:aM (xS kk).P 3=1:=by kernel_rfl
theorem api:aN (xS kk).P 4 (c::cs)=some c:=by kernel_rfl
theorem aoJ:aM (xS kk).P 4=1:=by kernel_rfl
theorem akq (c0 c1 c2 c3:V):aN (xS kk).P 23 (c0::c1::c2::c3::cs)=some (.agg [c0,c1,c2,c3]):=by kernel_rfl
theorem amk:aM (xS kk).P 23=4:=by kernel_rfl
theorem aj5:aN (xS kk).P 24 (c::cs)=some c:=by kernel_rfl
theorem aji:aM (xS kk).P 24=1:=by kernel_rfl
theorem amb:aN (xS kk).P 26 (c::cs)=some c:=by kernel_rfl
theorem ake:aM (xS kk).P 26=1:=by kernel_rfl
theorem am0:aN (xS kk).P 27 (c::cs)=some c:=by kernel_rfl
theorem amr:aM (xS kk).P 27=1:=by kernel_rfl
theorem akL:aN (xS kk).P 28 (c::cs)=some c:=by kernel_rfl
theorem ah0:aM (xS kk).P 28=1:=by kernel_rfl
theorem akU (c0 c1 c2 c3 c4 c5 c6 c7:V):aN (xS kk).P 30 (c0::c1::c2::c3::c4::c5::c6::c7::cs)=some (.agg [c0,c1,c2,c3,c4,c5,c6,c7]):=by kernel_rfl
theorem aiV:aM (xS kk).P 30=8:=by kernel_rfl
theorem aki:aN (xS kk).P 32 (c::cs)=some c:=by kernel_rfl
theorem ajz:aM (xS kk).P 32=1:=by kernel_rfl
theorem aiI:aN (xS kk).P 34 (c::cs)=some c:=by kernel_rfl
theorem al8:aM (xS kk).P 34=1:=by kernel_rfl
theorem agS:aN (xS kk).P 46 (c::cs)=some c:=by kernel_rfl
theorem ahD:aM (xS kk).P 46=1:=by kernel_rfl
theorem aj6 (c0 c1 c2:V):aN (xS kk).P 48 (c0::c1::c2::cs)=some (.agg [c0,c1,c2]):=by kernel_rfl
theorem akb:aM (xS kk).P 48=3:=by kernel_rfl
theorem ah1 (c0 c1 c2:V):aN (xS kk).P 52 (c0::c1::c2::cs)=some (.agg [c0,c1,c2]):=by kernel_rfl
theorem ag6:aM (xS kk).P 52=3:=by kernel_rfl
theorem alE:aN (xS kk).P 53 (c::cs)=some c:=by kernel_rfl
theorem ak0:aM (xS kk).P 53=1:=by kernel_rfl
theorem aiK (c0 c1 c2 c3 c4 c5 c6:V):aN (xS kk).P 55 (c0::c1::c2::c3::c4::c5::c6::cs)=some (.agg [c0,c1,c2,c3,c4,c5,c6]):=by kernel_rfl
theorem ahV:aM (xS kk).P 55=7:=by kernel_rfl
theorem alG (c0 c1 c2 c3 c4 c5 c6 c7 c8:V):aN (xS kk).P 57 (c0::c1::c2::c3::c4::c5::c6::c7::c8::cs)=some (.agg [c0,c1,c2,c3,c4,c5,c6,c7,c8]):=by kernel_rfl
theorem ajE:aM (xS kk).P 57=9:=by kernel_rfl
theorem amW:aN (xS kk).P 63 (c::cs)=some c:=by kernel_rfl
theorem ahq:aM (xS kk).P 63=1:=by kernel_rfl
theorem ama (c0 c1 c2 c3 c4 c5 c6 c7 c8 c9 c10:V):aN (xS kk).P 65 (c0::c1::c2::c3::c4::c5::c6::c7::c8::c9::c10::cs)=some (.agg [c0,c1,c2,c3,c4,c5,c6,c7,c8,c9,c10]):=by kernel_rfl
theorem am9:aM (xS kk).P 65=11:=by kernel_rfl
theorem alB:aN (xS kk).P 86 (c::cs)=some c:=by kernel_rfl
theorem ajL:aM (xS kk).P 86=1:=by kernel_rfl
theorem ach (c0 c1:V):aN (xS kk).P 101 (c0::c1::cs)=some (.agg [c0,c1]):=by kernel_rfl
theorem ac2:aM (xS kk).P 101=2:=by kernel_rfl
theorem adu:aN (xS kk).P 116 (c::cs)=some c:=by kernel_rfl
theorem adA:aM (xS kk).P 116=1:=by kernel_rfl
theorem ad5 (c0 c1 c2:V):aN (xS kk).P 129 (c0::c1::c2::cs)=some (.agg [c0,c1,c2]):=by kernel_rfl
theorem acA:aM (xS kk).P 129=3:=by kernel_rfl
theorem ace:aN (xS kk).P 150 (c::cs)=some c:=by kernel_rfl
theorem afa:aM (xS kk).P 150=1:=by kernel_rfl
theorem afP (c0 c1 c2 c3 c4 c5 c6 c7 c8 c9 c10 c11 c12 c13 c14 c15:V):aN (xS kk).P 169 (c0::c1::c2::c3::c4::c5::c6::c7::c8::c9::c10::c11::c12::c13::c14::c15::cs)=some (.agg [c0,c1,c2,c3,c4,c5,c6,c7,c8,c9,c10,c11,c12,c13,c14,c15]):=by kernel_rfl
theorem afq:aM (xS kk).P 169=16:=by kernel_rfl
theorem afG:aN (xS kk).P 170 (c::cs)=some c:=by kernel_rfl
theorem adW:aM (xS kk).P 170=1:=by kernel_rfl
theorem ab9 (c0 c1 c2 c3 c4 c5:V):aN (xS kk).P 175 (c0::c1::c2::c3::c4::c5::cs)=some (.agg [c0,c1,c2,c3,c4,c5]):=by kernel_rfl
theorem acx:aM (xS kk).P 175=6:=by kernel_rfl
theorem afH (c0 c1:V):aN (xS kk).P 194 (c0::c1::cs)=some (.agg [c0,c1]):=by kernel_rfl
theorem acr:aM (xS kk).P 194=2:=by kernel_rfl
theorem aeB:aN (xS kk).P 206 (c::cs)=some c:=by kernel_rfl
theorem acO:aM (xS kk).P 206=1:=by kernel_rfl
theorem aet:aN (xS kk).P 223 (c::cs)=some c:=by kernel_rfl
theorem acE:aM (xS kk).P 223=1:=by kernel_rfl
theorem ad0 (c0 c1 c2 c3:V):aN (xS kk).P 236 (c0::c1::c2::c3::cs)=some (.agg [c0,c1,c2,c3]):=by kernel_rfl
theorem af1:aM (xS kk).P 236=4:=by kernel_rfl
theorem aoI:cH (xS kk).P 1 H=some (.ptr (bw [(V.lit Value.nilFunc)] H).2.length 0 0 0,(bw [(V.lit Value.nilFunc)] H).2++[.box (bw [(V.lit Value.nilFunc)] H).1]):=by kernel_rfl
theorem aoF:cH (xS kk).P 3 H=some (.ptr (bw [(V.lit (Value.int .i64 (0)))] H).2.length 0 0 0,(bw [(V.lit (Value.int .i64 (0)))] H).2++[.box (bw [(V.lit (Value.int .i64 (0)))] H).1]):=by kernel_rfl
theorem apm:cH (xS kk).P 4 H=some (.ptr (bw [(V.lit (Value.bool false))] H).2.length 0 0 0,(bw [(V.lit (Value.bool false))] H).2++[.box (bw [(V.lit (Value.bool false))] H).1]):=by kernel_rfl
theorem aiF:cH (xS kk).P 26 H=some (.ptr (bw [V.nil] H).2.length 0 0 0,(bw [V.nil] H).2++[.box (bw [V.nil] H).1]):=by kernel_rfl
theorem aiN:cH (xS kk).P 30 H=some (.ptr (bw [(V.lit (Value.int .i64 (0))),(V.lit (Value.int .i64 (0))),(V.lit (Value.int .i64 (0))),(V.lit (Value.int .i64 (0))),V.nil,V.nil,V.nil,V.nil] H).2.length 0 0 0,(bw [(V.lit (Value.int .i64 (0))),(V.lit (Value.int .i64 (0))),(V.lit (Value.int .i64 (0))),(V.lit (Value.int .i64 (0))),V.nil,V.nil,V.nil,V.nil] H).2++[.box (bw [(V.lit (Value.int .i64 (0))),(V.lit (Value.int .i64 (0))),(V.lit (Value.int .i64 (0))),(V.lit (Value.int .i64 (0))),V.nil,V.nil,V.nil,V.nil] H).1]):=by kernel_rfl
theorem alX:cH (xS kk).P 32 H=some (.ptr (bw [(V.lit Value.nilFunc)] H).2.length 0 0 0,(bw [(V.lit Value.nilFunc)] H).2++[.box (bw [(V.lit Value.nilFunc)] H).1]):=by kernel_rfl
theorem agF:cH (xS kk).P 34 H=some (.ptr (bw [V.nil] H).2.length 0 0 0,(bw [V.nil] H).2++[.box (bw [V.nil] H).1]):=by kernel_rfl
theorem aiX:cH (xS kk).P 48 H=some (.ptr (bw [(V.lit (Value.int .i64 (0))),(V.lit (Value.int .i64 (0))),(V.lit (Value.int .u64 (0)))] H).2.length 0 0 0,(bw [(V.lit (Value.int .i64 (0))),(V.lit (Value.int .i64 (0))),(V.lit (Value.int .u64 (0)))] H).2++[.box (bw [(V.lit (Value.int .i64 (0))),(V.lit (Value.int .i64 (0))),(V.lit (Value.int .u64 (0)))] H).1]):=by kernel_rfl
theorem ajR:cH (xS kk).P 55 H=some (.ptr (bw [(V.lit (Value.int .i64 (0))),(V.lit (Value.int .i64 (0))),(V.lit (Value.int .i64 (0))),(V.lit (Value.int .u64 (0))),(V.lit (Value.int .u64 (0))),(V.lit (Value.int .u64 (0))),(V.lit (Value.int .i64 (0)))] H).2.length 0 0 0,(bw [(V.lit (Value.int .i64 (0))),(V.lit (Value.int .i64 (0))),(V.lit (Value.int .i64 (0))),(V.lit (Value.int .u64 (0))),(V.lit (Value.int .u64 (0))),(V.lit (Value.int .u64 (0))),(V.lit (Value.int .i64 (0)))] H).2++[.box (bw [(V.lit (Value.int .i64 (0))),(V.lit (Value.int .i64 (0))),(V.lit (Value.int .i64 (0))),(V.lit (Value.int .u64 (0))),(V.lit (Value.int .u64 (0))),(V.lit (Value.int .u64 (0))),(V.lit (Value.int .i64 (0)))] H).1]):=by kernel_rfl
theorem ahL:cH (xS kk).P 57 H=some (.ptr (bw [(V.lit (Value.int .i64 (0))),V.nil,(V.lit (Value.int .i64 (0))),(V.lit (Value.int .i64 (0))),(V.lit (Value.int .i64 (0))),(V.lit (Value.int .u64 (0))),(V.lit (Value.int .u64 (0))),(V.lit (Value.int .u64 (0))),(V.lit (Value.int .i64 (0)))] H).2.length 0 0 0,(bw [(V.lit (Value.int .i64 (0))),V.nil,(V.lit (Value.int .i64 (0))),(V.lit (Value.int .i64 (0))),(V.lit (Value.int .i64 (0))),(V.lit (Value.int .u64 (0))),(V.lit (Value.int .u64 (0))),(V.lit (Value.int .u64 (0))),(V.lit (Value.int .i64 (0)))] H).2++[.box (bw [(V.lit (Value.int .i64 (0))),V.nil,(V.lit (Value.int .i64 (0))),(V.lit (Value.int .i64 (0))),(V.lit (Value.int .i64 (0))),(V.lit (Value.int .u64 (0))),(V.lit (Value.int .u64 (0))),(V.lit (Value.int .u64 (0))),(V.lit (Value.int .i64 (0)))] H).1]):=by kernel_rfl
theorem akv:cH (xS kk).P 65 H=some (.ptr (bw [(V.lit (Value.int .i64 (0))),V.nil,(V.lit (Value.int .i64 (0))),(V.lit (Value.int .i64 (0))),(V.lit (Value.int .i64 (0))),(V.lit (Value.int .u64 (0))),(V.lit (Value.int .u64 (0))),(V.lit (Value.int .u64 (0))),(V.lit (Value.int .i64 (0))),(V.lit (Value.int .i64 (0))),(V.lit (Value.int .i64 (0)))] H).2.length 0 0 0,(bw [(V.lit (Value.int .i64 (0))),V.nil,(V.lit (Value.int .i64 (0))),(V.lit (Value.int .i64 (0))),(V.lit (Value.int .i64 (0))),(V.lit (Value.int .u64 (0))),(V.lit (Value.int .u64 (0))),(V.lit (Value.int .u64 (0))),(V.lit (Value.int .i64 (0))),(V.lit (Value.int .i64 (0))),(V.lit (Value.int .i64 (0)))] H).2++[.box (bw [(V.lit (Value.int .i64 (0))),V.nil,(V.lit (Value.int .i64 (0))),(V.lit (Value.int .i64 (0))),(V.lit (Value.int .i64 (0))),(V.lit (Value.int .u64 (0))),(V.lit (Value.int .u64 (0))),(V.lit (Value.int .u64 (0))),(V.lit (Value.int .i64 (0))),(V.lit (Value.int .i64 (0))),(V.lit (Value.int .i64 (0)))] H).1]):=by kernel_rfl
theorem aeG:cH (xS kk).P 101 H=some (.ptr (bw [(V.lit (Value.int .i64 (0))),V.nil] H).2.length 0 0 0,(bw [(V.lit (Value.int .i64 (0))),V.nil] H).2++[.box (bw [(V.lit (Value.int .i64 (0))),V.nil] H).1]):=by kernel_rfl
theorem abX:cH (xS kk).P 129 H=some (.ptr (bw [(V.lit (Value.int .i64 (0))),(V.lit (Value.int .i64 (0))),(V.lit (Value.int .i64 (0)))] H).2.length 0 0 0,(bw [(V.lit (Value.int .i64 (0))),(V.lit (Value.int .i64 (0))),(V.lit (Value.int .i64 (0)))] H).2++[.box (bw [(V.lit (Value.int .i64 (0))),(V.lit (Value.int .i64 (0))),(V.lit (Value.int .i64 (0)))] H).1]):=by kernel_rfl
theorem ael:cH (xS kk).P 150 H=some (.ptr (bw [V.nil] H).2.length 0 0 0,(bw [V.nil] H).2++[.box (bw [V.nil] H).1]):=by kernel_rfl
theorem abY:cH (xS kk).P 169 H=some (.ptr (bw [(V.lit Value.nilFunc),(V.lit Value.nilFunc),(V.lit Value.nilFunc),(V.lit Value.nilFunc),(V.lit Value.nilFunc),(V.lit Value.nilFunc),(V.lit Value.nilFunc),(V.lit Value.nilFunc),(V.lit Value.nilFunc),(V.lit Value.nilFunc),(V.lit Value.nilFunc),(V.lit Value.nilFunc),(V.lit Value.nilFunc),(V.lit Value.nilFunc),(V.lit Value.nilFunc),(V.lit Value.nilFunc)] H).2.length 0 0 0,(bw [(V.lit Value.nilFunc),(V.lit Value.nilFunc),(V.lit Value.nilFunc),(V.lit Value.nilFunc),(V.lit Value.nilFunc),(V.lit Value.nilFunc),(V.lit Value.nilFunc),(V.lit Value.nilFunc),(V.lit Value.nilFunc),(V.lit Value.nilFunc),(V.lit Value.nilFunc),(V.lit Value.nilFunc),(V.lit Value.nilFunc),(V.lit Value.nilFunc),(V.lit Value.nilFunc),(V.lit Value.nilFunc)] H).2++[.box (bw [(V.lit Value.nilFunc),(V.lit Value.nilFunc),(V.lit Value.nilFunc),(V.lit Value.nilFunc),(V.lit Value.nilFunc),(V.lit Value.nilFunc),(V.lit Value.nilFunc),(V.lit Value.nilFunc),(V.lit Value.nilFunc),(V.lit Value.nilFunc),(V.lit Value.nilFunc),(V.lit Value.nilFunc),(V.lit Value.nilFunc),(V.lit Value.nilFunc),(V.lit Value.nilFunc),(V.lit Value.nilFunc)] H).1]):=by kernel_rfl
theorem afu:cH (xS kk).P 170 H=some (.ptr (bw [(V.lit Value.nilFunc)] H).2.length 0 0 0,(bw [(V.lit Value.nilFunc)] H).2++[.box (bw [(V.lit Value.nilFunc)] H).1]):=by kernel_rfl
theorem adO:cH (xS kk).P 175 H=some (.ptr (bw [(V.lit Value.nilFunc),(V.lit Value.nilFunc),(V.lit Value.nilFunc),(V.lit Value.nilFunc),(V.lit Value.nilFunc),(V.lit Value.nilFunc)] H).2.length 0 0 0,(bw [(V.lit Value.nilFunc),(V.lit Value.nilFunc),(V.lit Value.nilFunc),(V.lit Value.nilFunc),(V.lit Value.nilFunc),(V.lit Value.nilFunc)] H).2++[.box (bw [(V.lit Value.nilFunc),(V.lit Value.nilFunc),(V.lit Value.nilFunc),(V.lit Value.nilFunc),(V.lit Value.nilFunc),(V.lit Value.nilFunc)] H).1]):=by kernel_rfl
theorem adx:cH (xS kk).P 194 H=some (.ptr (bw [(V.lit (Value.int .i64 (0))),(V.lit (Value.int .i64 (0)))] H).2.length 0 0 0,(bw [(V.lit (Value.int .i64 (0))),(V.lit (Value.int .i64 (0)))] H).2++[.box (bw [(V.lit (Value.int .i64 (0))),(V.lit (Value.int .i64 (0)))] H).1]):=by kernel_rfl
theorem acP:cH (xS kk).P 223 H=some (.ptr (bw [V.nil] H).2.length 0 0 0,(bw [V.nil] H).2++[.box (bw [V.nil] H).1]):=by kernel_rfl
theorem afb:cH (xS kk).P 236 H=some (.ptr (bw [(V.lit Value.nilFunc),(V.lit Value.nilFunc),(V.lit Value.nilFunc),(V.lit Value.nilFunc)] H).2.length 0 0 0,(bw [(V.lit Value.nilFunc),(V.lit Value.nilFunc),(V.lit Value.nilFunc),(V.lit Value.nilFunc)] H).2++[.box (bw [(V.lit Value.nilFunc),(V.lit Value.nilFunc),(V.lit Value.nilFunc),(V.lit Value.nilFunc)] H).1]):=by kernel_rfl
theorem Ze:ag (xS kk).P 23 (.rp cs) 0=some (.rp (cs.drop 0)):=by kernel_rfl
theorem aba (row off:Nat):ag (xS kk).P 23 (.ptr id g row off) 0=some (.ptr id g row (off+0)):=by kernel_rfl
theorem Yo:ag (xS kk).P 23 (.rp cs) 1=some (.rp (cs.drop 1)):=by kernel_rfl
theorem YN (row off:Nat):ag (xS kk).P 23 (.ptr id g row off) 1=some (.ptr id g row (off+1)):=by kernel_rfl
theorem Zd:ag (xS kk).P 23 (.rp cs) 2=some (.rp (cs.drop 2)):=by kernel_rfl
theorem abw (row off:Nat):ag (xS kk).P 23 (.ptr id g row off) 2=some (.ptr id g row (off+2)):=by kernel_rfl
theorem abH:ag (xS kk).P 23 (.rp cs) 3=some (.rp (cs.drop 3)):=by kernel_rfl
theorem YD (row off:Nat):ag (xS kk).P 23 (.ptr id g row off) 3=some (.ptr id g row (off+3)):=by kernel_rfl
theorem Y2:ag (xS kk).P 30 (.rp cs) 0=some (.rp (cs.drop 0)):=by kernel_rfl
theorem XY (row off:Nat):ag (xS kk).P 30 (.ptr id g row off) 0=some (.ptr id g row (off+0)):=by kernel_rfl
theorem ZH:ag (xS kk).P 30 (.rp cs) 1=some (.rp (cs.drop 4)):=by kernel_rfl
theorem YG (row off:Nat):ag (xS kk).P 30 (.ptr id g row off) 1=some (.ptr id g row (off+4)):=by kernel_rfl
theorem abe:ag (xS kk).P 30 (.rp cs) 2=some (.rp (cs.drop 5)):=by kernel_rfl
theorem Xe (row off:Nat):ag (xS kk).P 30 (.ptr id g row off) 2=some (.ptr id g row (off+5)):=by kernel_rfl
theorem XA:ag (xS kk).P 30 (.rp cs) 3=some (.rp (cs.drop 6)):=by kernel_rfl
theorem XZ (row off:Nat):ag (xS kk).P 30 (.ptr id g row off) 3=some (.ptr id g row (off+6)):=by kernel_rfl
theorem aa8:ag (xS kk).P 30 (.rp cs) 4=some (.rp (cs.drop 7)):=by kernel_rfl
theorem X1 (row off:Nat):ag (xS kk).P 30 (.ptr id g row off) 4=some (.ptr id g row (off+7)):=by kernel_rfl
theorem aaT:ag (xS kk).P 48 (.rp cs) 0=some (.rp (cs.drop 0)):=by kernel_rfl
theorem Z3 (row off:Nat):ag (xS kk).P 48 (.ptr id g row off) 0=some (.ptr id g row (off+0)):=by kernel_rfl
theorem aby:ag (xS kk).P 48 (.rp cs) 1=some (.rp (cs.drop 1)):=by kernel_rfl
theorem abF (row off:Nat):ag (xS kk).P 48 (.ptr id g row off) 1=some (.ptr id g row (off+1)):=by kernel_rfl
theorem ZO:ag (xS kk).P 48 (.rp cs) 2=some (.rp (cs.drop 2)):=by kernel_rfl
theorem aab (row off:Nat):ag (xS kk).P 48 (.ptr id g row off) 2=some (.ptr id g row (off+2)):=by kernel_rfl
theorem Z4:ag (xS kk).P 52 (.rp cs) 0=some (.rp (cs.drop 0)):=by kernel_rfl
theorem Yw (row off:Nat):ag (xS kk).P 52 (.ptr id g row off) 0=some (.ptr id g row (off+0)):=by kernel_rfl
theorem YJ:ag (xS kk).P 55 (.rp cs) 0=some (.rp (cs.drop 0)):=by kernel_rfl
theorem abx (row off:Nat):ag (xS kk).P 55 (.ptr id g row off) 0=some (.ptr id g row (off+0)):=by kernel_rfl
theorem ZY:ag (xS kk).P 55 (.rp cs) 1=some (.rp (cs.drop 1)):=by kernel_rfl
theorem Xz (row off:Nat):ag (xS kk).P 55 (.ptr id g row off) 1=some (.ptr id g row (off+1)):=by kernel_rfl
theorem Yd:ag (xS kk).P 55 (.rp cs) 2=some (.rp (cs.drop 2)):=by kernel_rfl
theorem Zq (row off:Nat):ag (xS kk).P 55 (.ptr id g row off) 2=some (.ptr id g row (off+2)):=by kernel_rfl
theorem Zp:ag (xS kk).P 55 (.rp cs) 3=some (.rp (cs.drop 3)):=by kernel_rfl
theorem WL (row off:Nat):ag (xS kk).P 55 (.ptr id g row off) 3=some (.ptr id g row (off+3)):=by kernel_rfl
theorem aao:ag (xS kk).P 55 (.rp cs) 4=some (.rp (cs.drop 4)):=by kernel_rfl
theorem abI (row off:Nat):ag (xS kk).P 55 (.ptr id g row off) 4=some (.ptr id g row (off+4)):=by kernel_rfl
theorem aax:ag (xS kk).P 55 (.rp cs) 5=some (.rp (cs.drop 5)):=by kernel_rfl
theorem aan (row off:Nat):ag (xS kk).P 55 (.ptr id g row off) 5=some (.ptr id g row (off+5)):=by kernel_rfl
theorem Ye:ag (xS kk).P 55 (.rp cs) 6=some (.rp (cs.drop 6)):=by kernel_rfl
theorem Xm (row off:Nat):ag (xS kk).P 55 (.ptr id g row off) 6=some (.ptr id g row (off+6)):=by kernel_rfl
theorem WU:ag (xS kk).P 57 (.rp cs) 0=some (.rp (cs.drop 0)):=by kernel_rfl
theorem YS (row off:Nat):ag (xS kk).P 57 (.ptr id g row off) 0=some (.ptr id g row (off+0)):=by kernel_rfl
theorem Zx:ag (xS kk).P 57 (.rp cs) 1=some (.rp (cs.drop 1)):=by kernel_rfl
theorem ZB (row off:Nat):ag (xS kk).P 57 (.ptr id g row off) 1=some (.ptr id g row (off+1)):=by kernel_rfl
theorem X4:ag (xS kk).P 57 (.rp cs) 2=some (.rp (cs.drop 2)):=by kernel_rfl
theorem ZT (row off:Nat):ag (xS kk).P 57 (.ptr id g row off) 2=some (.ptr id g row (off+2)):=by kernel_rfl
theorem WJ:ag (xS kk).P 65 (.rp cs) 0=some (.rp (cs.drop 0)):=by kernel_rfl
theorem aaD (row off:Nat):ag (xS kk).P 65 (.ptr id g row off) 0=some (.ptr id g row (off+0)):=by kernel_rfl
theorem aaq:ag (xS kk).P 65 (.rp cs) 1=some (.rp (cs.drop 1)):=by kernel_rfl
theorem Y0 (row off:Nat):ag (xS kk).P 65 (.ptr id g row off) 1=some (.ptr id g row (off+1)):=by kernel_rfl
theorem aaG:ag (xS kk).P 65 (.rp cs) 2=some (.rp (cs.drop 2)):=by kernel_rfl
theorem YY (row off:Nat):ag (xS kk).P 65 (.ptr id g row off) 2=some (.ptr id g row (off+2)):=by kernel_rfl
theorem XJ:ag (xS kk).P 65 (.rp cs) 3=some (.rp (cs.drop 9)):=by kernel_rfl
theorem abt (row off:Nat):ag (xS kk).P 65 (.ptr id g row off) 3=some (.ptr id g row (off+9)):=by kernel_rfl
theorem Yb:ag (xS kk).P 65 (.rp cs) 4=some (.rp (cs.drop 10)):=by kernel_rfl
theorem aaZ (row off:Nat):ag (xS kk).P 65 (.ptr id g row off) 4=some (.ptr id g row (off+10)):=by kernel_rfl
theorem Vy:ag (xS kk).P 101 (.rp cs) 0=some (.rp (cs.drop 0)):=by kernel_rfl
theorem Vv (row off:Nat):ag (xS kk).P 101 (.ptr id g row off) 0=some (.ptr id g row (off+0)):=by kernel_rfl
theorem Tk:ag (xS kk).P 101 (.rp cs) 1=some (.rp (cs.drop 1)):=by kernel_rfl
theorem Sb (row off:Nat):ag (xS kk).P 101 (.ptr id g row off) 1=some (.ptr id g row (off+1)):=by kernel_rfl
theorem SA:ag (xS kk).P 129 (.rp cs) 0=some (.rp (cs.drop 0)):=by kernel_rfl
theorem Ta (row off:Nat):ag (xS kk).P 129 (.ptr id g row off) 0=some (.ptr id g row (off+0)):=by kernel_rfl
theorem U1:ag (xS kk).P 129 (.rp cs) 1=some (.rp (cs.drop 1)):=by kernel_rfl
theorem Vl (row off:Nat):ag (xS kk).P 129 (.ptr id g row off) 1=some (.ptr id g row (off+1)):=by kernel_rfl
theorem TJ:ag (xS kk).P 129 (.rp cs) 2=some (.rp (cs.drop 2)):=by kernel_rfl
theorem RB (row off:Nat):ag (xS kk).P 129 (.ptr id g row off) 2=some (.ptr id g row (off+2)):=by kernel_rfl
theorem U8:ag (xS kk).P 168 (.rp cs) 0=some (.rp (cs.drop 0)):=by kernel_rfl
theorem SO (row off:Nat):ag (xS kk).P 168 (.ptr id g row off) 0=some (.ptr id g row (off+0)):=by kernel_rfl
theorem UP:ag (xS kk).P 168 (.rp cs) 1=some (.rp (cs.drop 11)):=by kernel_rfl
theorem SX (row off:Nat):ag (xS kk).P 168 (.ptr id g row off) 1=some (.ptr id g row (off+11)):=by kernel_rfl
theorem TU:ag (xS kk).P 168 (.rp cs) 2=some (.rp (cs.drop 15)):=by kernel_rfl
theorem U9 (row off:Nat):ag (xS kk).P 168 (.ptr id g row off) 2=some (.ptr id g row (off+15)):=by kernel_rfl
theorem SI:ag (xS kk).P 168 (.rp cs) 3=some (.rp (cs.drop 16)):=by kernel_rfl
theorem Vx (row off:Nat):ag (xS kk).P 168 (.ptr id g row off) 3=some (.ptr id g row (off+16)):=by kernel_rfl
theorem RQ:ag (xS kk).P 168 (.rp cs) 4=some (.rp (cs.drop 17)):=by kernel_rfl
theorem S2 (row off:Nat):ag (xS kk).P 168 (.ptr id g row off) 4=some (.ptr id g row (off+17)):=by kernel_rfl
theorem TF:ag (xS kk).P 168 (.rp cs) 5=some (.rp (cs.drop 18)):=by kernel_rfl
theorem TA (row off:Nat):ag (xS kk).P 168 (.ptr id g row off) 5=some (.ptr id g row (off+18)):=by kernel_rfl
theorem T8:ag (xS kk).P 168 (.rp cs) 6=some (.rp (cs.drop 19)):=by kernel_rfl
theorem Sy (row off:Nat):ag (xS kk).P 168 (.ptr id g row off) 6=some (.ptr id g row (off+19)):=by kernel_rfl
theorem Uw:ag (xS kk).P 194 (.rp cs) 0=some (.rp (cs.drop 0)):=by kernel_rfl
theorem SR (row off:Nat):ag (xS kk).P 194 (.ptr id g row off) 0=some (.ptr id g row (off+0)):=by kernel_rfl
theorem SH:ag (xS kk).P 194 (.rp cs) 1=some (.rp (cs.drop 1)):=by kernel_rfl
theorem UW (row off:Nat):ag (xS kk).P 194 (.ptr id g row off) 1=some (.ptr id g row (off+1)):=by kernel_rfl
theorem Ux:ag (xS kk).P 205 (.rp cs) 0=some (.rp (cs.drop 0)):=by kernel_rfl
theorem Sw (row off:Nat):ag (xS kk).P 205 (.ptr id g row off) 0=some (.ptr id g row (off+0)):=by kernel_rfl
theorem Uz:ag (xS kk).P 205 (.rp cs) 1=some (.rp (cs.drop 7)):=by kernel_rfl
theorem SK (row off:Nat):ag (xS kk).P 205 (.ptr id g row off) 1=some (.ptr id g row (off+7)):=by kernel_rfl
theorem UG:ag (xS kk).P 205 (.rp cs) 2=some (.rp (cs.drop 11)):=by kernel_rfl
theorem Rl (row off:Nat):ag (xS kk).P 205 (.ptr id g row off) 2=some (.ptr id g row (off+11)):=by kernel_rfl
theorem Sd:ag (xS kk).P 221 (.rp cs) 0=some (.rp (cs.drop 0)):=by kernel_rfl
theorem RH (row off:Nat):ag (xS kk).P 221 (.ptr id g row off) 0=some (.ptr id g row (off+0)):=by kernel_rfl
theorem RX:ag (xS kk).P 221 (.rp cs) 1=some (.rp (cs.drop 7)):=by kernel_rfl
theorem Ru (row off:Nat):ag (xS kk).P 221 (.ptr id g row off) 1=some (.ptr id g row (off+7)):=by kernel_rfl
theorem TG:ag (xS kk).P 221 (.rp cs) 2=some (.rp (cs.drop 11)):=by kernel_rfl
theorem TC (row off:Nat):ag (xS kk).P 221 (.ptr id g row off) 2=some (.ptr id g row (off+11)):=by kernel_rfl
theorem Vo:ag (xS kk).P 235 (.rp cs) 0=some (.rp (cs.drop 0)):=by kernel_rfl
theorem Tw (row off:Nat):ag (xS kk).P 235 (.ptr id g row off) 0=some (.ptr id g row (off+0)):=by kernel_rfl
theorem UY:ag (xS kk).P 235 (.rp cs) 1=some (.rp (cs.drop 7)):=by kernel_rfl
theorem US (row off:Nat):ag (xS kk).P 235 (.ptr id g row off) 1=some (.ptr id g row (off+7)):=by kernel_rfl
theorem RA:ag (xS kk).P 235 (.rp cs) 2=some (.rp (cs.drop 11)):=by kernel_rfl
theorem TQ (row off:Nat):ag (xS kk).P 235 (.ptr id g row off) 2=some (.ptr id g row (off+11)):=by kernel_rfl
theorem UB:As (xS kk).P 194 (.agg cs) 0=aN (xS kk).P 3 (cs.drop 0):=by kernel_rfl
theorem al2 (l:Tyt):au (xS kk).P 24 (.ro (l.map ak)) (.lit (.int k n)) H=(idx l n).map fun x => .rp (ak x):=b8 (e:=101) (by kernel_rfl) (fun x=>(by kernel_rfl:(ak x).length=aM (xS kk).P 101)) (by kernel_rfl)
theorem ahe:au (xS kk).P 24 (.own id g len) (.lit (.int k n)) H=ixB 2 g len id n (H[id]?):=aZ (P:=(xS kk).P) (e:=101) (by kernel_rfl) (by kernel_rfl)
theorem al4 (l:List Int):au (xS kk).P 26 (.ro (l.map (aw .u64))) (.lit (.int k n)) H=(idx l n).map fun x => .rp ((aw .u64) x):=b8 (e:=46) (by kernel_rfl) (fun x=>(by kernel_rfl:((aw .u64) x).length=aM (xS kk).P 46)) (by kernel_rfl)
theorem akx:au (xS kk).P 26 (.own id g len) (.lit (.int k n)) H=ixB 1 g len id n (H[id]?):=aZ (P:=(xS kk).P) (e:=46) (by kernel_rfl) (by kernel_rfl)
theorem agR (l:List Tyw):au (xS kk).P 27 (.ro (l.map aC)) (.lit (.int k n)) H=(idx l n).map fun x => .rp (aC x):=b8 (e:=65) (by kernel_rfl) (fun x=>(by kernel_rfl:(aC x).length=aM (xS kk).P 65)) (by kernel_rfl)
theorem agJ:au (xS kk).P 27 (.own id g len) (.lit (.int k n)) H=ixB 11 g len id n (H[id]?):=aZ (P:=(xS kk).P) (e:=65) (by kernel_rfl) (by kernel_rfl)
theorem ajo (l:List Tys):au (xS kk).P 28 (.ro (l.map bh)) (.lit (.int k n)) H=(idx l n).map fun x => .rp (bh x):=b8 (e:=57) (by kernel_rfl) (fun x=>(by kernel_rfl:(bh x).length=aM (xS kk).P 57)) (by kernel_rfl)
theorem ahJ:au (xS kk).P 28 (.own id g len) (.lit (.int k n)) H=ixB 9 g len id n (H[id]?):=aZ (P:=(xS kk).P) (e:=57) (by kernel_rfl) (by kernel_rfl)
theorem ajq (l:Tye):au (xS kk).P 31 (.ro (l.map gh)) (.lit (.int k n)) H=(idx l n).map fun x => .rp (gh x):=b8 (e:=48) (by kernel_rfl) (fun x=>(by kernel_rfl:(gh x).length=aM (xS kk).P 48)) (by kernel_rfl)
theorem alo:au (xS kk).P 31 (.own id g len) (.lit (.int k n)) H=ixB 3 g len id n (H[id]?):=aZ (P:=(xS kk).P) (e:=48) (by kernel_rfl) (by kernel_rfl)
theorem alg (l:Tye):au (xS kk).P 34 (.ro (l.map aB)) (.lit (.int k n)) H=(idx l n).map fun x => .rp (aB x):=b8 (e:=52) (by kernel_rfl) (fun x=>(by kernel_rfl:(aB x).length=aM (xS kk).P 52)) (by kernel_rfl)
theorem agL:au (xS kk).P 34 (.own id g len) (.lit (.int k n)) H=ixB 3 g len id n (H[id]?):=aZ (P:=(xS kk).P) (e:=52) (by kernel_rfl) (by kernel_rfl)
theorem amm (l:List (List Int)):au (xS kk).P 40 (.ro (l.map cR)) (.lit (.int k n)) H=(idx l n).map fun x => .rp (cR x):=b8 (e:=53) (by kernel_rfl) (fun x=>(by kernel_rfl:(cR x).length=aM (xS kk).P 53)) (by kernel_rfl)
theorem akj:au (xS kk).P 40 (.own id g len) (.lit (.int k n)) H=ixB 1 g len id n (H[id]?):=aZ (P:=(xS kk).P) (e:=53) (by kernel_rfl) (by kernel_rfl)
theorem amD (l:List Int):au (xS kk).P 53 (.ro (l.map (aw .i64))) (.lit (.int k n)) H=(idx l n).map fun x => .rp ((aw .i64) x):=b8 (e:=3) (by kernel_rfl) (fun x=>(by kernel_rfl:((aw .i64) x).length=aM (xS kk).P 3)) (by kernel_rfl)
theorem aip:au (xS kk).P 53 (.own id g len) (.lit (.int k n)) H=ixB 1 g len id n (H[id]?):=aZ (P:=(xS kk).P) (e:=3) (by kernel_rfl) (by kernel_rfl)
theorem ajk (l:Tye):au (xS kk).P 63 (.ro (l.map aB)) (.lit (.int k n)) H=(idx l n).map fun x => .rp (aB x):=b8 (e:=129) (by kernel_rfl) (fun x=>(by kernel_rfl:(aB x).length=aM (xS kk).P 129)) (by kernel_rfl)
theorem ahv:au (xS kk).P 63 (.own id g len) (.lit (.int k n)) H=ixB 3 g len id n (H[id]?):=aZ (P:=(xS kk).P) (e:=129) (by kernel_rfl) (by kernel_rfl)
theorem adf (l:List Bool):au (xS kk).P 150 (.ro (l.map lx)) (.lit (.int k n)) H=(idx l n).map fun x => .rp (lx x):=b8 (e:=4) (by kernel_rfl) (fun x=>(by kernel_rfl:(lx x).length=aM (xS kk).P 4)) (by kernel_rfl)
theorem ab0:au (xS kk).P 150 (.own id g len) (.lit (.int k n)) H=ixB 1 g len id n (H[id]?):=aZ (P:=(xS kk).P) (e:=4) (by kernel_rfl) (by kernel_rfl)
theorem adq:au (xS kk).P 207 (.own id g len) (.lit (.int k n)) H=ixB 1 g len id n (H[id]?):=aZ (P:=(xS kk).P) (e:=206) (by kernel_rfl) (by kernel_rfl)
theorem ac9:au (xS kk).P 223 (.own id g len) (.lit (.int k n)) H=ixB 1 g len id n (H[id]?):=aZ (P:=(xS kk).P) (e:=116) (by kernel_rfl) (by kernel_rfl)
theorem ac1:au (xS kk).P 238 (.own id g len) (.lit (.int k n)) H=ixB 1 g len id n (H[id]?):=aZ (P:=(xS kk).P) (e:=1) (by kernel_rfl) (by kernel_rfl)
theorem afS:oM (xS kk).P 24 x H=(Aa x H).map fun v=>(v,H):=by kernel_rfl
theorem afT:oM (xS kk).P 25 x H=(Aa x H).map fun v=>(v,H):=by kernel_rfl
theorem acp:oM (xS kk).P 26 x H=(Aa x H).map fun v=>(v,H):=by kernel_rfl
theorem afA:oM (xS kk).P 27 x H=(Aa x H).map fun v=>(v,H):=by kernel_rfl
theorem adL:oM (xS kk).P 28 x H=(Aa x H).map fun v=>(v,H):=by kernel_rfl
theorem ae7:oM (xS kk).P 31 x H=(Aa x H).map fun v=>(v,H):=by kernel_rfl
theorem afE:oM (xS kk).P 34 x H=(Aa x H).map fun v=>(v,H):=by kernel_rfl
theorem ad2:oM (xS kk).P 40 x H=(Aa x H).map fun v=>(v,H):=by kernel_rfl
theorem afk:oM (xS kk).P 53 x H=(Aa x H).map fun v=>(v,H):=by kernel_rfl
theorem acX:oM (xS kk).P 63 x H=(Aa x H).map fun v=>(v,H):=by kernel_rfl
theorem XC:oM (xS kk).P 207 x H=(Aa x H).map fun v=>(v,H):=by kernel_rfl
theorem aaw:oM (xS kk).P 238 x H=(Aa x H).map fun v=>(v,H):=by kernel_rfl
theorem TI:wB (xS kk).P wl 24 24 s x H=be (xS kk).P wl 24 s x H:=by kernel_rfl
theorem Tn:be (xS kk).P wl 24 (.own id g len) x H=(bT x H).bind fun xs=>bif b7 2 xs then apB wl 101 2 32 id g len xs H (H[id]?) else none:=(eg (P:=(xS kk).P) (t:=24) (e:=101) (by kernel_rfl) (by kernel_rfl)).trans (by kernel_rfl)
theorem Us:be (xS kk).P wl 24 .nil x H=(bT x H).bind fun xs=>bif b7 2 xs then bif decide (xs.length*32≤70368744177664) then some (.own H.length 0 xs.length,H++[.rows 2 xs 0 true]) else none else none:=(eh (P:=(xS kk).P) (t:=24) (e:=101) (by kernel_rfl) (by kernel_rfl)).trans (by kernel_rfl)
theorem U5:wB (xS kk).P wl 25 25 s x H=be (xS kk).P wl 25 s x H:=by kernel_rfl
theorem SP:be (xS kk).P wl 25 (.own id g len) x H=(bT x H).bind fun xs=>bif b7 1 xs then apB wl 46 1 8 id g len xs H (H[id]?) else none:=(eg (P:=(xS kk).P) (t:=25) (e:=46) (by kernel_rfl) (by kernel_rfl)).trans (by kernel_rfl)
theorem Vn:be (xS kk).P wl 25 .nil x H=(bT x H).bind fun xs=>bif b7 1 xs then bif decide (xs.length*8≤70368744177664) then some (.own H.length 0 xs.length,H++[.rows 1 xs 0 true]) else none else none:=(eh (P:=(xS kk).P) (t:=25) (e:=46) (by kernel_rfl) (by kernel_rfl)).trans (by kernel_rfl)
theorem Si:wB (xS kk).P wl 26 26 s x H=be (xS kk).P wl 26 s x H:=by kernel_rfl
theorem Ul:be (xS kk).P wl 26 (.own id g len) x H=(bT x H).bind fun xs=>bif b7 1 xs then apB wl 46 1 8 id g len xs H (H[id]?) else none:=(eg (P:=(xS kk).P) (t:=26) (e:=46) (by kernel_rfl) (by kernel_rfl)).trans (by kernel_rfl)
theorem U4:be (xS kk).P wl 26 .nil x H=(bT x H).bind fun xs=>bif b7 1 xs then bif decide (xs.length*8≤70368744177664) then some (.own H.length 0 xs.length,H++[.rows 1 xs 0 true]) else none else none:=(eh (P:=(xS kk).P) (t:=26) (e:=46) (by kernel_rfl) (by kernel_rfl)).trans (by kernel_rfl)
theorem UT:wB (xS kk).P wl 27 27 s x H=be (xS kk).P wl 27 s x H:=by kernel_rfl
theorem Uy:be (xS kk).P wl 27 (.own id g len) x H=(bT x H).bind fun xs=>bif b7 11 xs then apB wl 65 11 104 id g len xs H (H[id]?) else none:=(eg (P:=(xS kk).P) (t:=27) (e:=65) (by kernel_rfl) (by kernel_rfl)).trans (by kernel_rfl)
theorem Un:be (xS kk).P wl 27 .nil x H=(bT x H).bind fun xs=>bif b7 11 xs then bif decide (xs.length*104≤70368744177664) then some (.own H.length 0 xs.length,H++[.rows 11 xs 0 true]) else none else none:=(eh (P:=(xS kk).P) (t:=27) (e:=65) (by kernel_rfl) (by kernel_rfl)).trans (by kernel_rfl)
theorem Ve:wB (xS kk).P wl 28 28 s x H=be (xS kk).P wl 28 s x H:=by kernel_rfl
theorem Rx:be (xS kk).P wl 28 (.own id g len) x H=(bT x H).bind fun xs=>bif b7 9 xs then apB wl 57 9 88 id g len xs H (H[id]?) else none:=(eg (P:=(xS kk).P) (t:=28) (e:=57) (by kernel_rfl) (by kernel_rfl)).trans (by kernel_rfl)
theorem R9:be (xS kk).P wl 28 .nil x H=(bT x H).bind fun xs=>bif b7 9 xs then bif decide (xs.length*88≤70368744177664) then some (.own H.length 0 xs.length,H++[.rows 9 xs 0 true]) else none else none:=(eh (P:=(xS kk).P) (t:=28) (e:=57) (by kernel_rfl) (by kernel_rfl)).trans (by kernel_rfl)
theorem RZ:wB (xS kk).P wl 34 34 s x H=be (xS kk).P wl 34 s x H:=by kernel_rfl
theorem TR:be (xS kk).P wl 34 (.own id g len) x H=(bT x H).bind fun xs=>bif b7 3 xs then apB wl 52 3 24 id g len xs H (H[id]?) else none:=(eg (P:=(xS kk).P) (t:=34) (e:=52) (by kernel_rfl) (by kernel_rfl)).trans (by kernel_rfl)
theorem UJ:be (xS kk).P wl 34 .nil x H=(bT x H).bind fun xs=>bif b7 3 xs then bif decide (xs.length*24≤70368744177664) then some (.own H.length 0 xs.length,H++[.rows 3 xs 0 true]) else none else none:=(eh (P:=(xS kk).P) (t:=34) (e:=52) (by kernel_rfl) (by kernel_rfl)).trans (by kernel_rfl)
theorem R4:wB (xS kk).P wl 53 53 s x H=be (xS kk).P wl 53 s x H:=by kernel_rfl
theorem RJ:be (xS kk).P wl 53 (.own id g len) x H=(bT x H).bind fun xs=>bif b7 1 xs then apB wl 3 1 8 id g len xs H (H[id]?) else none:=(eg (P:=(xS kk).P) (t:=53) (e:=3) (by kernel_rfl) (by kernel_rfl)).trans (by kernel_rfl)
theorem Uc:be (xS kk).P wl 53 .nil x H=(bT x H).bind fun xs=>bif b7 1 xs then bif decide (xs.length*8≤70368744177664) then some (.own H.length 0 xs.length,H++[.rows 1 xs 0 true]) else none else none:=(eh (P:=(xS kk).P) (t:=53) (e:=3) (by kernel_rfl) (by kernel_rfl)).trans (by kernel_rfl)
theorem UV:wB (xS kk).P wl 63 63 s x H=be (xS kk).P wl 63 s x H:=by kernel_rfl
theorem Sn:be (xS kk).P wl 63 (.own id g len) x H=(bT x H).bind fun xs=>bif b7 3 xs then apB wl 129 3 24 id g len xs H (H[id]?) else none:=(eg (P:=(xS kk).P) (t:=63) (e:=129) (by kernel_rfl) (by kernel_rfl)).trans (by kernel_rfl)
theorem RF:be (xS kk).P wl 63 .nil x H=(bT x H).bind fun xs=>bif b7 3 xs then bif decide (xs.length*24≤70368744177664) then some (.own H.length 0 xs.length,H++[.rows 3 xs 0 true]) else none else none:=(eh (P:=(xS kk).P) (t:=63) (e:=129) (by kernel_rfl) (by kernel_rfl)).trans (by kernel_rfl)
theorem aiQ (c:Bool):cg (xS kk).P wl c 53 (.own id g len) none (some (.lit (.int k n))) none H=slB g len id n H (H[id]?):=oC (P:=(xS kk).P) (e:=3) (by kernel_rfl) (by kernel_rfl)
theorem ajF (c:Bool) (l:List Int):cg (xS kk).P wl c 53 (.ro (l.map (aw .i64))) none (some (.lit (.int k n))) none H=bif decide (0≤n∧n≤l.length) then some (.ro ((l.take n.toNat).map (aw .i64)),H) else none:=ra (P:=(xS kk).P) (e:=3) (by kernel_rfl) (by kernel_rfl) (fun x=>(by kernel_rfl:((aw .i64) x).length=aM (xS kk).P 3))
theorem akK (c:Bool) (l:List Int):cg (xS kk).P wl c 53 (.ro (l.map (aw .i64))) (some (.lit (.int k n))) none none H=bif decide (0≤n∧n≤l.length) then some (.ro ((l.drop n.toNat).map (aw .i64)),H) else none:=ru (P:=(xS kk).P) (e:=3) (by kernel_rfl) (by kernel_rfl) (fun x=>(by kernel_rfl:((aw .i64) x).length=aM (xS kk).P 3))
theorem akP (c:Bool) (l:List Int) (k2:IntKind) (lo:Int):cg (xS kk).P wl c 53 (.ro (l.map (aw .i64))) (some (.lit (.int k lo))) (some (.lit (.int k2 n))) none H=bif decide (0≤lo∧lo≤n∧n≤l.length) then some (.ro (((l.take n.toNat).drop lo.toNat).map (aw .i64)),H) else none:=m7 (P:=(xS kk).P) (e:=3) (by kernel_rfl) (by kernel_rfl) (fun x=>(by kernel_rfl:((aw .i64) x).length=aM (xS kk).P 3))
theorem aiM (c:Bool):cg (xS kk).P wl c 63 (.own id g len) none (some (.lit (.int k n))) none H=slB g len id n H (H[id]?):=oC (P:=(xS kk).P) (e:=129) (by kernel_rfl) (by kernel_rfl)
theorem amN (c:Bool) (l:Tye):cg (xS kk).P wl c 63 (.ro (l.map aB)) none (some (.lit (.int k n))) none H=bif decide (0≤n∧n≤l.length) then some (.ro ((l.take n.toNat).map aB),H) else none:=ra (P:=(xS kk).P) (e:=129) (by kernel_rfl) (by kernel_rfl) (fun x=>(by kernel_rfl:(aB x).length=aM (xS kk).P 129))
theorem agU (c:Bool) (l:Tye):cg (xS kk).P wl c 63 (.ro (l.map aB)) (some (.lit (.int k n))) none none H=bif decide (0≤n∧n≤l.length) then some (.ro ((l.drop n.toNat).map aB),H) else none:=ru (P:=(xS kk).P) (e:=129) (by kernel_rfl) (by kernel_rfl) (fun x=>(by kernel_rfl:(aB x).length=aM (xS kk).P 129))
theorem amS (c:Bool) (l:Tye) (k2:IntKind) (lo:Int):cg (xS kk).P wl c 63 (.ro (l.map aB)) (some (.lit (.int k lo))) (some (.lit (.int k2 n))) none H=bif decide (0≤lo∧lo≤n∧n≤l.length) then some (.ro (((l.take n.toNat).drop lo.toNat).map aB),H) else none:=m7 (P:=(xS kk).P) (e:=129) (by kernel_rfl) (by kernel_rfl) (fun x=>(by kernel_rfl:(aB x).length=aM (xS kk).P 129))
theorem acg:aV (xS kk).P 150 (.lit (.int .i64 n)) (.lit (.int .i64 n)) H=bif decide (0≤n∧n≤9223372036854775807∧n*1≤70368744177664) then some (.own H.length 0 n.toNat,H++[.rows 1 (List.replicate n.toNat [(V.lit (Value.bool false))]) 0 true]) else none:=Ey (P:=(xS kk).P) (t:=150) (e:=4) (z:=((fB (xS kk).P 4).getD default)) (by kernel_rfl) (by kernel_rfl) (by kernel_rfl) (by kernel_rfl)
theorem Z1:Cb (xS kk).P 3 46 (.lit (.int k n))=some (.lit (.int .u64 (IntKind.wrap .u64 n))):=by kernel_rfl
theorem Xj:Cb (xS kk).P 46 3 (.lit (.int k n))=some (.lit (.int .i64 (IntKind.wrap .i64 n))):=by kernel_rfl
theorem akr (a0 b0:Int) (a1 b1:Int) (a2 b2:Int) (a3 b3:Int):iJ (xS kk).P .eql 23 (.agg [.lit (.int .i64 a0),.lit (.int .i64 a1),.lit (.int .i64 a2),.lit (.int .i64 a3)]) (.agg [.lit (.int .i64 b0),.lit (.int .i64 b1),.lit (.int .i64 b2),.lit (.int .i64 b3)])=some (.lit (.bool ((a0==b0)&&((a1==b1)&&((a2==b2)&&((a3==b3)&&true)))))):=by kernel_rfl
theorem akk (a0 b0:Int) (a1 b1:Int) (a2 b2:Int) (a3 b3:Int):iJ (xS kk).P .neq 23 (.agg [.lit (.int .i64 a0),.lit (.int .i64 a1),.lit (.int .i64 a2),.lit (.int .i64 a3)]) (.agg [.lit (.int .i64 b0),.lit (.int .i64 b1),.lit (.int .i64 b2),.lit (.int .i64 b3)])=some (.lit (.bool (!((a0==b0)&&((a1==b1)&&((a2==b2)&&((a3==b3)&&true))))))):=by kernel_rfl
theorem ajD (a0 b0:Int) (a1 b1:Int) (a2 b2:Int):iJ (xS kk).P .eql 52 (.agg [.lit (.int .i64 a0),.lit (.int .i64 a1),.lit (.int .i64 a2)]) (.agg [.lit (.int .i64 b0),.lit (.int .i64 b1),.lit (.int .i64 b2)])=some (.lit (.bool ((a0==b0)&&((a1==b1)&&((a2==b2)&&true))))):=by kernel_rfl
theorem aha (a0 b0:Int) (a1 b1:Int) (a2 b2:Int):iJ (xS kk).P .neq 52 (.agg [.lit (.int .i64 a0),.lit (.int .i64 a1),.lit (.int .i64 a2)]) (.agg [.lit (.int .i64 b0),.lit (.int .i64 b1),.lit (.int .i64 b2)])=some (.lit (.bool (!((a0==b0)&&((a1==b1)&&((a2==b2)&&true)))))):=by kernel_rfl
theorem akO (a0 b0:Int) (a1 b1:Int) (a2 b2:Int) (a3 b3:Int) (a4 b4:Int) (a5 b5:Int) (a6 b6:Int):iJ (xS kk).P .eql 55 (.agg [.lit (.int .i64 a0),.lit (.int .i64 a1),.lit (.int .i64 a2),.lit (.int .u64 a3),.lit (.int .u64 a4),.lit (.int .u64 a5),.lit (.int .i64 a6)]) (.agg [.lit (.int .i64 b0),.lit (.int .i64 b1),.lit (.int .i64 b2),.lit (.int .u64 b3),.lit (.int .u64 b4),.lit (.int .u64 b5),.lit (.int .i64 b6)])=some (.lit (.bool ((a0==b0)&&((a1==b1)&&((a2==b2)&&((a3==b3)&&((a4==b4)&&((a5==b5)&&((a6==b6)&&true))))))))):=by kernel_rfl
theorem ag1 (a0 b0:Int) (a1 b1:Int) (a2 b2:Int) (a3 b3:Int) (a4 b4:Int) (a5 b5:Int) (a6 b6:Int):iJ (xS kk).P .neq 55 (.agg [.lit (.int .i64 a0),.lit (.int .i64 a1),.lit (.int .i64 a2),.lit (.int .u64 a3),.lit (.int .u64 a4),.lit (.int .u64 a5),.lit (.int .i64 a6)]) (.agg [.lit (.int .i64 b0),.lit (.int .i64 b1),.lit (.int .i64 b2),.lit (.int .u64 b3),.lit (.int .u64 b4),.lit (.int .u64 b5),.lit (.int .i64 b6)])=some (.lit (.bool (!((a0==b0)&&((a1==b1)&&((a2==b2)&&((a3==b3)&&((a4==b4)&&((a5==b5)&&((a6==b6)&&true)))))))))):=by kernel_rfl
theorem acJ (a0 b0:Int) (a1 b1:Int) (a2 b2:Int):iJ (xS kk).P .eql 129 (.agg [.lit (.int .i64 a0),.lit (.int .i64 a1),.lit (.int .i64 a2)]) (.agg [.lit (.int .i64 b0),.lit (.int .i64 b1),.lit (.int .i64 b2)])=some (.lit (.bool ((a0==b0)&&((a1==b1)&&((a2==b2)&&true))))):=by kernel_rfl
theorem afz (a0 b0:Int) (a1 b1:Int) (a2 b2:Int):iJ (xS kk).P .neq 129 (.agg [.lit (.int .i64 a0),.lit (.int .i64 a1),.lit (.int .i64 a2)]) (.agg [.lit (.int .i64 b0),.lit (.int .i64 b1),.lit (.int .i64 b2)])=some (.lit (.bool (!((a0==b0)&&((a1==b1)&&((a2==b2)&&true)))))):=by kernel_rfl
theorem IA (c0 c1 c2:V):dv (xS kk).P 23 [(0,c0),(1,c1),(2,c2)]=(rC [(V.lit (Value.int .i64 (0))),(V.lit (Value.int .i64 (0))),(V.lit (Value.int .i64 (0))),(V.lit (Value.int .i64 (0)))] [(0,1,c0),(1,1,c1),(2,1,c2)]).map .agg:=by kernel_rfl
theorem aex:dv (xS kk).P 30 []=(rC [(V.lit (Value.int .i64 (0))),(V.lit (Value.int .i64 (0))),(V.lit (Value.int .i64 (0))),(V.lit (Value.int .i64 (0))),V.nil,V.nil,V.nil,V.nil] []).map .agg:=by kernel_rfl
theorem HK (c0 c1 c2:V):dv (xS kk).P 30 [(0,c0),(1,c1),(2,c2)]=(rC [(V.lit (Value.int .i64 (0))),(V.lit (Value.int .i64 (0))),(V.lit (Value.int .i64 (0))),(V.lit (Value.int .i64 (0))),V.nil,V.nil,V.nil,V.nil] [(0,4,c0),(4,1,c1),(5,1,c2)]).map .agg:=by kernel_rfl
theorem ads:dv (xS kk).P 48 []=(rC [(V.lit (Value.int .i64 (0))),(V.lit (Value.int .i64 (0))),(V.lit (Value.int .u64 (0)))] []).map .agg:=by kernel_rfl
theorem ZI (c0:V):dv (xS kk).P 48 [(0,c0)]=(rC [(V.lit (Value.int .i64 (0))),(V.lit (Value.int .i64 (0))),(V.lit (Value.int .u64 (0)))] [(0,1,c0)]).map .agg:=by kernel_rfl
theorem Jj (c0 c1 c2:V):dv (xS kk).P 52 [(0,c0),(1,c1),(2,c2)]=(rC [(V.lit (Value.int .i64 (0))),(V.lit (Value.int .i64 (0))),(V.lit (Value.int .i64 (0)))] [(0,1,c0),(1,1,c1),(2,1,c2)]).map .agg:=by kernel_rfl
theorem ada:dv (xS kk).P 55 []=(rC [(V.lit (Value.int .i64 (0))),(V.lit (Value.int .i64 (0))),(V.lit (Value.int .i64 (0))),(V.lit (Value.int .u64 (0))),(V.lit (Value.int .u64 (0))),(V.lit (Value.int .u64 (0))),(V.lit (Value.int .i64 (0)))] []).map .agg:=by kernel_rfl
theorem Hx (c0 c1 c2:V):dv (xS kk).P 55 [(0,c0),(2,c1),(3,c2)]=(rC [(V.lit (Value.int .i64 (0))),(V.lit (Value.int .i64 (0))),(V.lit (Value.int .i64 (0))),(V.lit (Value.int .u64 (0))),(V.lit (Value.int .u64 (0))),(V.lit (Value.int .u64 (0))),(V.lit (Value.int .i64 (0)))] [(0,1,c0),(2,1,c1),(3,1,c2)]).map .agg:=by kernel_rfl
theorem Fc (c0 c1 c2 c3:V):dv (xS kk).P 55 [(0,c0),(2,c1),(3,c2),(6,c3)]=(rC [(V.lit (Value.int .i64 (0))),(V.lit (Value.int .i64 (0))),(V.lit (Value.int .i64 (0))),(V.lit (Value.int .u64 (0))),(V.lit (Value.int .u64 (0))),(V.lit (Value.int .u64 (0))),(V.lit (Value.int .i64 (0)))] [(0,1,c0),(2,1,c1),(3,1,c2),(6,1,c3)]).map .agg:=by kernel_rfl
theorem HS (c0 c1 c2:V):dv (xS kk).P 57 [(0,c0),(1,c1),(2,c2)]=(rC [(V.lit (Value.int .i64 (0))),V.nil,(V.lit (Value.int .i64 (0))),(V.lit (Value.int .i64 (0))),(V.lit (Value.int .i64 (0))),(V.lit (Value.int .u64 (0))),(V.lit (Value.int .u64 (0))),(V.lit (Value.int .u64 (0))),(V.lit (Value.int .i64 (0)))] [(0,1,c0),(1,1,c1),(2,7,c2)]).map .agg:=by kernel_rfl
theorem YH (c0:V):dv (xS kk).P 57 [(1,c0)]=(rC [(V.lit (Value.int .i64 (0))),V.nil,(V.lit (Value.int .i64 (0))),(V.lit (Value.int .i64 (0))),(V.lit (Value.int .i64 (0))),(V.lit (Value.int .u64 (0))),(V.lit (Value.int .u64 (0))),(V.lit (Value.int .u64 (0))),(V.lit (Value.int .i64 (0)))] [(1,1,c0)]).map .agg:=by kernel_rfl
theorem ZP (c0:V):dv (xS kk).P 65 [(2,c0)]=(rC [(V.lit (Value.int .i64 (0))),V.nil,(V.lit (Value.int .i64 (0))),(V.lit (Value.int .i64 (0))),(V.lit (Value.int .i64 (0))),(V.lit (Value.int .u64 (0))),(V.lit (Value.int .u64 (0))),(V.lit (Value.int .u64 (0))),(V.lit (Value.int .i64 (0))),(V.lit (Value.int .i64 (0))),(V.lit (Value.int .i64 (0)))] [(2,7,c0)]).map .agg:=by kernel_rfl
theorem S4 (c0:V):dv (xS kk).P 129 [(0,c0)]=(rC [(V.lit (Value.int .i64 (0))),(V.lit (Value.int .i64 (0))),(V.lit (Value.int .i64 (0)))] [(0,1,c0)]).map .agg:=by kernel_rfl
theorem rA (c0 c1 c2 c3 c4 c5:V):dv (xS kk).P 168 [(0,c0),(1,c1),(2,c2),(3,c3),(4,c4),(5,c5)]=(rC [(V.lit (Value.int .i64 (0))),V.nil,(V.lit (Value.int .i64 (0))),(V.lit (Value.int .i64 (0))),(V.lit (Value.int .i64 (0))),(V.lit (Value.int .u64 (0))),(V.lit (Value.int .u64 (0))),(V.lit (Value.int .u64 (0))),(V.lit (Value.int .i64 (0))),(V.lit (Value.int .i64 (0))),(V.lit (Value.int .i64 (0))),(V.lit (Value.int .i64 (0))),(V.lit (Value.int .i64 (0))),(V.lit (Value.int .i64 (0))),(V.lit (Value.int .i64 (0))),V.nil,V.nil,(V.lit (Value.int .i64 (0))),(V.lit (Value.int .u64 (0))),V.nil] [(0,11,c0),(11,4,c1),(15,1,c2),(16,1,c3),(17,1,c4),(18,1,c5)]).map .agg:=by kernel_rfl
theorem ea (c0 c1 c2 c3 c4 c5 c6 c7 c8 c9 c10 c11 c12 c13 c14 c15:V):dv (xS kk).P 169 [(0,c0),(1,c1),(2,c2),(3,c3),(4,c4),(5,c5),(6,c6),(7,c7),(8,c8),(9,c9),(10,c10),(11,c11),(12,c12),(13,c13),(14,c14),(15,c15)]=(rC [(V.lit Value.nilFunc),(V.lit Value.nilFunc),(V.lit Value.nilFunc),(V.lit Value.nilFunc),(V.lit Value.nilFunc),(V.lit Value.nilFunc),(V.lit Value.nilFunc),(V.lit Value.nilFunc),(V.lit Value.nilFunc),(V.lit Value.nilFunc),(V.lit Value.nilFunc),(V.lit Value.nilFunc),(V.lit Value.nilFunc),(V.lit Value.nilFunc),(V.lit Value.nilFunc),(V.lit Value.nilFunc)] [(0,1,c0),(1,1,c1),(2,1,c2),(3,1,c3),(4,1,c4),(5,1,c5),(6,1,c6),(7,1,c7),(8,1,c8),(9,1,c9),(10,1,c10),(11,1,c11),(12,1,c12),(13,1,c13),(14,1,c14),(15,1,c15)]).map .agg:=by kernel_rfl
theorem r6 (c0 c1 c2 c3 c4 c5:V):dv (xS kk).P 175 [(0,c0),(1,c1),(2,c2),(3,c3),(4,c4),(5,c5)]=(rC [(V.lit Value.nilFunc),(V.lit Value.nilFunc),(V.lit Value.nilFunc),(V.lit Value.nilFunc),(V.lit Value.nilFunc),(V.lit Value.nilFunc)] [(0,1,c0),(1,1,c1),(2,1,c2),(3,1,c3),(4,1,c4),(5,1,c5)]).map .agg:=by kernel_rfl
theorem YR:dv (xS kk).P 194 []=(rC [(V.lit (Value.int .i64 (0))),(V.lit (Value.int .i64 (0)))] []).map .agg:=by kernel_rfl
theorem MA (c0 c1:V):dv (xS kk).P 194 [(0,c0),(1,c1)]=(rC [(V.lit (Value.int .i64 (0))),(V.lit (Value.int .i64 (0)))] [(0,1,c0),(1,1,c1)]).map .agg:=by kernel_rfl
theorem FP (c0 c1 c2:V):dv (xS kk).P 205 [(0,c0),(1,c1),(2,c2)]=(rC [(V.lit (Value.int .i64 (0))),(V.lit (Value.int .i64 (0))),(V.lit (Value.int .i64 (0))),(V.lit (Value.int .u64 (0))),(V.lit (Value.int .u64 (0))),(V.lit (Value.int .u64 (0))),(V.lit (Value.int .i64 (0))),(V.lit (Value.int .i64 (0))),(V.lit (Value.int .i64 (0))),(V.lit (Value.int .i64 (0))),(V.lit (Value.int .i64 (0))),V.nil] [(0,7,c0),(7,4,c1),(11,1,c2)]).map .agg:=by kernel_rfl
theorem Gv (c0 c1 c2:V):dv (xS kk).P 221 [(0,c0),(1,c1),(2,c2)]=(rC [(V.lit (Value.int .i64 (0))),(V.lit (Value.int .i64 (0))),(V.lit (Value.int .i64 (0))),(V.lit (Value.int .u64 (0))),(V.lit (Value.int .u64 (0))),(V.lit (Value.int .u64 (0))),(V.lit (Value.int .i64 (0))),(V.lit (Value.int .i64 (0))),(V.lit (Value.int .i64 (0))),(V.lit (Value.int .i64 (0))),(V.lit (Value.int .i64 (0))),V.nil] [(0,7,c0),(7,4,c1),(11,1,c2)]).map .agg:=by kernel_rfl
theorem GN (c0 c1 c2:V):dv (xS kk).P 235 [(0,c0),(1,c1),(2,c2)]=(rC [(V.lit (Value.int .i64 (0))),(V.lit (Value.int .i64 (0))),(V.lit (Value.int .i64 (0))),(V.lit (Value.int .u64 (0))),(V.lit (Value.int .u64 (0))),(V.lit (Value.int .u64 (0))),(V.lit (Value.int .i64 (0))),(V.lit (Value.int .i64 (0))),(V.lit (Value.int .i64 (0))),(V.lit (Value.int .i64 (0))),(V.lit (Value.int .i64 (0))),V.nil] [(0,7,c0),(7,4,c1),(11,1,c2)]).map .agg:=by kernel_rfl
theorem BZ (c0 c1 c2 c3:V):dv (xS kk).P 236 [(0,c0),(1,c1),(2,c2),(3,c3)]=(rC [(V.lit Value.nilFunc),(V.lit Value.nilFunc),(V.lit Value.nilFunc),(V.lit Value.nilFunc)] [(0,1,c0),(1,1,c1),(2,1,c2),(3,1,c3)]).map .agg:=by kernel_rfl
theorem aa3 (l:List (Nat×V)):aG (xS kk).P wl 24 0 l H=(fD wl 2 l [] H).bind fun p=>some (.own p.2.length 0 0,p.2++[.rows 2 p.1 0 true]):=by kernel_rfl
theorem Yl (l:List (Nat×V)):aG (xS kk).P wl 25 1 l H=(fD wl 1 l [[(V.lit (Value.int .u64 (0)))]] H).bind fun p=>some (.own p.2.length 0 1,p.2++[.rows 1 p.1 0 true]):=by kernel_rfl
theorem W7 (l:List (Nat×V)):aG (xS kk).P wl 26 0 l H=(fD wl 1 l [] H).bind fun p=>some (.own p.2.length 0 0,p.2++[.rows 1 p.1 0 true]):=by kernel_rfl
theorem aaO (l:List (Nat×V)):aG (xS kk).P wl 26 1 l H=(fD wl 1 l [[(V.lit (Value.int .u64 (0)))]] H).bind fun p=>some (.own p.2.length 0 1,p.2++[.rows 1 p.1 0 true]):=by kernel_rfl
theorem Zi (l:List (Nat×V)):aG (xS kk).P wl 27 0 l H=(fD wl 11 l [] H).bind fun p=>some (.own p.2.length 0 0,p.2++[.rows 11 p.1 0 true]):=by kernel_rfl
theorem abE (l:List (Nat×V)):aG (xS kk).P wl 27 1 l H=(fD wl 11 l [[(V.lit (Value.int .i64 (0))),V.ro [],(V.lit (Value.int .i64 (0))),(V.lit (Value.int .i64 (0))),(V.lit (Value.int .i64 (0))),(V.lit (Value.int .u64 (0))),(V.lit (Value.int .u64 (0))),(V.lit (Value.int .u64 (0))),(V.lit (Value.int .i64 (0))),(V.lit (Value.int .i64 (0))),(V.lit (Value.int .i64 (0)))]] H).bind fun p=>some (.own p.2.length 0 1,p.2++[.rows 11 p.1 0 true]):=by kernel_rfl
theorem aas (l:List (Nat×V)):aG (xS kk).P wl 28 0 l H=(fD wl 9 l [] H).bind fun p=>some (.own p.2.length 0 0,p.2++[.rows 9 p.1 0 true]):=by kernel_rfl
theorem WT (l:List (Nat×V)):aG (xS kk).P wl 28 1 l H=(fD wl 9 l [[(V.lit (Value.int .i64 (0))),V.ro [],(V.lit (Value.int .i64 (0))),(V.lit (Value.int .i64 (0))),(V.lit (Value.int .i64 (0))),(V.lit (Value.int .u64 (0))),(V.lit (Value.int .u64 (0))),(V.lit (Value.int .u64 (0))),(V.lit (Value.int .i64 (0)))]] H).bind fun p=>some (.own p.2.length 0 1,p.2++[.rows 9 p.1 0 true]):=by kernel_rfl
theorem Xi (l:List (Nat×V)):aG (xS kk).P wl 31 1 l H=(fD wl 3 l [[(V.lit (Value.int .i64 (0))),(V.lit (Value.int .i64 (0))),(V.lit (Value.int .u64 (0)))]] H).bind fun p=>some (.own p.2.length 0 1,p.2++[.rows 3 p.1 0 true]):=by kernel_rfl
theorem X3 (l:List (Nat×V)):aG (xS kk).P wl 31 2 l H=(fD wl 3 l [[(V.lit (Value.int .i64 (0))),(V.lit (Value.int .i64 (0))),(V.lit (Value.int .u64 (0)))],[(V.lit (Value.int .i64 (0))),(V.lit (Value.int .i64 (0))),(V.lit (Value.int .u64 (0)))]] H).bind fun p=>some (.own p.2.length 0 2,p.2++[.rows 3 p.1 0 true]):=by kernel_rfl
theorem YC (l:List (Nat×V)):aG (xS kk).P wl 34 1 l H=(fD wl 3 l [[(V.lit (Value.int .i64 (0))),(V.lit (Value.int .i64 (0))),(V.lit (Value.int .i64 (0)))]] H).bind fun p=>some (.own p.2.length 0 1,p.2++[.rows 3 p.1 0 true]):=by kernel_rfl
theorem XB (l:List (Nat×V)):aG (xS kk).P wl 53 0 l H=(fD wl 1 l [] H).bind fun p=>some (.own p.2.length 0 0,p.2++[.rows 1 p.1 0 true]):=by kernel_rfl
theorem XM (l:List (Nat×V)):aG (xS kk).P wl 53 1 l H=(fD wl 1 l [[(V.lit (Value.int .i64 (0)))]] H).bind fun p=>some (.own p.2.length 0 1,p.2++[.rows 1 p.1 0 true]):=by kernel_rfl
theorem Z2 (l:List (Nat×V)):aG (xS kk).P wl 53 5 l H=(fD wl 1 l [[(V.lit (Value.int .i64 (0)))],[(V.lit (Value.int .i64 (0)))],[(V.lit (Value.int .i64 (0)))],[(V.lit (Value.int .i64 (0)))],[(V.lit (Value.int .i64 (0)))]] H).bind fun p=>some (.own p.2.length 0 5,p.2++[.rows 1 p.1 0 true]):=by kernel_rfl
theorem XS (l:List (Nat×V)):aG (xS kk).P wl 63 0 l H=(fD wl 3 l [] H).bind fun p=>some (.own p.2.length 0 0,p.2++[.rows 3 p.1 0 true]):=by kernel_rfl
theorem aa7 (l:List (Nat×V)):aG (xS kk).P wl 63 1 l H=(fD wl 3 l [[(V.lit (Value.int .i64 (0))),(V.lit (Value.int .i64 (0))),(V.lit (Value.int .i64 (0)))]] H).bind fun p=>some (.own p.2.length 0 1,p.2++[.rows 3 p.1 0 true]):=by kernel_rfl
theorem RO (l:List (Nat×V)):aG (xS kk).P wl 207 5 l H=(fD wl 1 l [[(V.lit Value.nilFunc)],[(V.lit Value.nilFunc)],[(V.lit Value.nilFunc)],[(V.lit Value.nilFunc)],[(V.lit Value.nilFunc)]] H).bind fun p=>some (.own p.2.length 0 5,p.2++[.rows 1 p.1 0 true]):=by kernel_rfl
theorem SS (l:List (Nat×V)):aG (xS kk).P wl 223 5 l H=(fD wl 1 l [[(V.lit Value.nilFunc)],[(V.lit Value.nilFunc)],[(V.lit Value.nilFunc)],[(V.lit Value.nilFunc)],[(V.lit Value.nilFunc)]] H).bind fun p=>some (.own p.2.length 0 5,p.2++[.rows 1 p.1 0 true]):=by kernel_rfl
theorem UZ (l:List (Nat×V)):aG (xS kk).P wl 238 4 l H=(fD wl 1 l [[(V.lit Value.nilFunc)],[(V.lit Value.nilFunc)],[(V.lit Value.nilFunc)],[(V.lit Value.nilFunc)]] H).bind fun p=>some (.own p.2.length 0 4,p.2++[.rows 1 p.1 0 true]):=by kernel_rfl
theorem acv (v:V):kZ (xS kk).P wl 138 (.map id) (.lit (.int .i64 n)) v H=inB wl .i64 id n v H (H[id]?):=by kernel_rfl
theorem adC (ok:Bool):iT (xS kk).P 138 (.map id) (.lit (.int .i64 n)) ok H=lkB .i64 (V.lit Value.nilFunc) ok n (H[id]?):=by kernel_rfl
theorem acT (v:V):kZ (xS kk).P wl 201 (.map id) (.lit (.int .i64 n)) v H=inB wl .i64 id n v H (H[id]?):=by kernel_rfl
theorem abT (ok:Bool):iT (xS kk).P 201 (.map id) (.lit (.int .i64 n)) ok H=lkB .i64 (V.lit Value.nilFunc) ok n (H[id]?):=by kernel_rfl
theorem aeD (v:V):kZ (xS kk).P wl 212 (.map id) (.lit (.int .i64 n)) v H=inB wl .i64 id n v H (H[id]?):=by kernel_rfl
theorem afn (ok:Bool):iT (xS kk).P 212 (.map id) (.lit (.int .i64 n)) ok H=lkB .i64 (V.lit Value.nilFunc) ok n (H[id]?):=by kernel_rfl
theorem adF (row off:Nat):au (xS kk).P 169 (.ptr id g row off) (.lit (.int k n)) H=arC id g row [(0,off),(1,off+1),(2,off+2),(3,off+3),(4,off+4),(5,off+5),(6,off+6),(7,off+7),(8,off+8),(9,off+9),(10,off+10),(11,off+11),(12,off+12),(13,off+13),(14,off+14),(15,off+15)] n:=Kz (e:=1) (len:=16) (sz:=1) (by kernel_rfl) (by kernel_rfl) (by decide)
theorem aeL (row off:Nat):au (xS kk).P 175 (.ptr id g row off) (.lit (.int k n)) H=arC id g row [(0,off),(1,off+1),(2,off+2),(3,off+3),(4,off+4),(5,off+5)] n:=Kz (e:=1) (len:=6) (sz:=1) (by kernel_rfl) (by kernel_rfl) (by decide)
theorem afQ (row off:Nat):au (xS kk).P 236 (.ptr id g row off) (.lit (.int k n)) H=arC id g row [(0,off),(1,off+1),(2,off+2),(3,off+3)] n:=Kz (e:=1) (len:=4) (sz:=1) (by kernel_rfl) (by kernel_rfl) (by decide)
end
def xF0:=PLift.up (aI (aI (aI (aI (aI (aI (aI (aI @aoH @aoG) (aI @aoU @aol)) (aI (aI @api @aoJ) (aI @akq (aI @amk @aj5)))) (aI (aI (aI @aji @amb) (aI @ake (aI @am0 @amr))) (aI (aI @akL @ah0) (aI @akU (aI @aiV @aki))))) (aI (aI (aI (aI @ajz @aiI) (aI @al8 (aI @agS @ahD))) (aI (aI @aj6 @akb) (aI @ah1 (aI @ag6 @alE)))) (aI (aI (aI @ak0 @aiK) (aI @ahV (aI @alG @ajE))) (aI (aI @amW @ahq) (aI @ama (aI @am9 @alB)))))) (aI (aI (aI (aI (aI @ajL @ach) (aI @ac2 @adu)) (aI (aI @adA @ad5) (aI @acA (aI @ace @afa)))) (aI (aI (aI @afP @afq) (aI @afG (aI @adW @ab9))) (aI (aI @acx @afH) (aI @acr (aI @aeB @acO))))) (aI (aI (aI (aI @aet @acE) (aI @ad0 (aI @af1 @aoI))) (aI (aI @aoF @apm) (aI @aiF (aI @aiN @alX)))) (aI (aI (aI @agF @aiX) (aI @ajR (aI @ahL @akv))) (aI (aI @aeG @abX) (aI @ael (aI @abY @afu))))))) (aI (aI (aI (aI (aI (aI @adO @adx) (aI @acP @afb)) (aI (aI @Ze @aba) (aI @Yo (aI @YN @Zd)))) (aI (aI (aI @abw @abH) (aI @YD (aI @Y2 @XY))) (aI (aI @ZH @YG) (aI @abe (aI @Xe @XA))))) (aI (aI (aI (aI @XZ @aa8) (aI @X1 (aI @aaT @Z3))) (aI (aI @aby @abF) (aI @ZO (aI @aab @Z4)))) (aI (aI (aI @Yw @YJ) (aI @abx (aI @ZY @Xz))) (aI (aI @Yd @Zq) (aI @Zp (aI @WL @aao)))))) (aI (aI (aI (aI (aI @abI @aax) (aI @aan @Ye)) (aI (aI @Xm @WU) (aI @YS (aI @Zx @ZB)))) (aI (aI (aI @X4 @ZT) (aI @WJ (aI @aaD @aaq))) (aI (aI @Y0 @aaG) (aI @YY (aI @XJ @abt))))) (aI (aI (aI (aI @Yb @aaZ) (aI @Vy (aI @Vv @Tk))) (aI (aI @Sb @SA) (aI @Ta (aI @U1 @Vl)))) (aI (aI (aI @TJ @RB) (aI @U8 (aI @SO @UP))) (aI (aI @SX @TU) (aI @U9 (aI @SI @Vx)))))))) (aI (aI (aI (aI (aI (aI (aI @RQ @S2) (aI @TF @TA)) (aI (aI @T8 @Sy) (aI @Uw (aI @SR @SH)))) (aI (aI (aI @UW @Ux) (aI @Sw (aI @Uz @SK))) (aI (aI @UG @Rl) (aI @Sd (aI @RH @RX))))) (aI (aI (aI (aI @Ru @TG) (aI @TC (aI @Vo @Tw))) (aI (aI @UY @US) (aI @RA (aI @TQ @UB)))) (aI (aI (aI @al2 @ahe) (aI @al4 (aI @akx @agR))) (aI (aI @agJ @ajo) (aI @ahJ (aI @ajq @alo)))))) (aI (aI (aI (aI (aI @alg @agL) (aI @amm @akj)) (aI (aI @amD @aip) (aI @ajk (aI @ahv @adf)))) (aI (aI (aI @ab0 @adq) (aI @ac9 (aI @ac1 @afS))) (aI (aI @afT @acp) (aI @afA (aI @adL @ae7))))) (aI (aI (aI (aI @afE @ad2) (aI @afk (aI @acX @XC))) (aI (aI @aaw @TI) (aI @Tn (aI @Us @U5)))) (aI (aI (aI @SP @Vn) (aI @Si (aI @Ul @U4))) (aI (aI @UT @Uy) (aI @Un (aI @Ve @Rx))))))) (aI (aI (aI (aI (aI (aI @R9 @RZ) (aI @TR @UJ)) (aI (aI @R4 @RJ) (aI @Uc (aI @UV @Sn)))) (aI (aI (aI @RF @aiQ) (aI @ajF (aI @akK @akP))) (aI (aI @aiM @amN) (aI @agU (aI @amS @acg))))) (aI (aI (aI (aI @Z1 @Xj) (aI @akr (aI @akk @ajD))) (aI (aI @aha @akO) (aI @ag1 (aI @acJ @afz)))) (aI (aI (aI @IA @aex) (aI @HK (aI @ads @ZI))) (aI (aI @Jj @ada) (aI @Hx (aI @Fc @HS)))))) (aI (aI (aI (aI (aI @YH @ZP) (aI @S4 (aI @rA @ea))) (aI (aI @r6 @YR) (aI @MA (aI @FP @Gv)))) (aI (aI (aI @GN @BZ) (aI @aa3 (aI @Yl @W7))) (aI (aI @aaO @Zi) (aI @abE (aI @aas @WT))))) (aI (aI (aI (aI @Xi @X3) (aI @YC (aI @XB @XM))) (aI (aI @Z2 @XS) (aI @aa7 (aI @RO @SS)))) (aI (aI (aI @UZ @acv) (aI @adC (aI @acT @abT))) (aI (aI @aeD @afn) (aI @adF (aI @aeL @afQ)))))))))
theorem xF:type_of% xF0.down:=xF0.down
end Go.Ab
