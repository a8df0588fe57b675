import Derived.Test.YtblpbpnilkfjhaaGreatAbLibC
import Derived.Test.YtblpbpnilkfjhaaGreatAbLibB
import Derived.Test.YtblpbpnilkfjhaaGreatR6Seat
set_option linter.unusedVariables false
set_option linter.unusedSimpArgs false
set_option maxRecDepth 100000
set_option linter.unusedVariables false
namespace Go.Ab
open Go.Proofs
section
variable (kk:Nat) (c:V) (cs:List V) (H:Hp) (id:Nat) (g:Nat) (k:IntKind) (n:Int) (len:Nat) (x:V) (wl:Nat) (s:V)
theorem aiw:aW (xS kk).P 1 (c::cs)=some c:=by kernel_rfl
theorem aiG:aZ (xS kk).P 1=1:=by kernel_rfl
theorem aig:aW (xS kk).P 3 (c::cs)=some c:=by kernel_rfl
theorem ah6:aZ (xS kk).P 3=1:=by kernel_rfl
theorem aic:aW (xS kk).P 4 (c::cs)=some c:=by kernel_rfl
theorem aiF:aZ (xS kk).P 4=1:=by kernel_rfl
theorem agE (c0 c1 c2 c3:V):aW (xS kk).P 23 (c0::c1::c2::c3::cs)=some (.agg [c0,c1,c2,c3]):=by kernel_rfl
theorem agw:aW (xS kk).P 24 (c::cs)=some c:=by kernel_rfl
theorem afy:aZ (xS kk).P 24=1:=by kernel_rfl
theorem aec:aW (xS kk).P 26 (c::cs)=some c:=by kernel_rfl
theorem agB:aZ (xS kk).P 26=1:=by kernel_rfl
theorem adu:aW (xS kk).P 27 (c::cs)=some c:=by kernel_rfl
theorem adU:aZ (xS kk).P 27=1:=by kernel_rfl
theorem ag1:aW (xS kk).P 28 (c::cs)=some c:=by kernel_rfl
theorem aeR:aZ (xS kk).P 28=1:=by kernel_rfl
theorem ag9 (c0 c1 c2 c3 c4 c5 c6 c7:V):aW (xS kk).P 30 (c0::c1::c2::c3::c4::c5::c6::c7::cs)=some (.agg [c0,c1,c2,c3,c4,c5,c6,c7]):=by kernel_rfl
theorem agM:aZ (xS kk).P 30=8:=by kernel_rfl
theorem agJ:aW (xS kk).P 32 (c::cs)=some c:=by kernel_rfl
theorem adY:aZ (xS kk).P 32=1:=by kernel_rfl
theorem adL:aW (xS kk).P 34 (c::cs)=some c:=by kernel_rfl
theorem afm:aZ (xS kk).P 34=1:=by kernel_rfl
theorem aeG:aW (xS kk).P 46 (c::cs)=some c:=by kernel_rfl
theorem afi:aZ (xS kk).P 46=1:=by kernel_rfl
theorem agO (c0 c1 c2:V):aW (xS kk).P 48 (c0::c1::c2::cs)=some (.agg [c0,c1,c2]):=by kernel_rfl
theorem adO:aZ (xS kk).P 48=3:=by kernel_rfl
theorem ad7 (c0 c1 c2:V):aW (xS kk).P 52 (c0::c1::c2::cs)=some (.agg [c0,c1,c2]):=by kernel_rfl
theorem adV:aZ (xS kk).P 52=3:=by kernel_rfl
theorem ae1:aW (xS kk).P 53 (c::cs)=some c:=by kernel_rfl
theorem adp:aZ (xS kk).P 53=1:=by kernel_rfl
theorem aee (c0 c1 c2 c3 c4 c5 c6:V):aW (xS kk).P 55 (c0::c1::c2::c3::c4::c5::c6::cs)=some (.agg [c0,c1,c2,c3,c4,c5,c6]):=by kernel_rfl
theorem afN:aZ (xS kk).P 55=7:=by kernel_rfl
theorem afG (c0 c1 c2 c3 c4 c5 c6 c7 c8:V):aW (xS kk).P 57 (c0::c1::c2::c3::c4::c5::c6::c7::c8::cs)=some (.agg [c0,c1,c2,c3,c4,c5,c6,c7,c8]):=by kernel_rfl
theorem aeB:aZ (xS kk).P 57=9:=by kernel_rfl
theorem aeQ:aW (xS kk).P 63 (c::cs)=some c:=by kernel_rfl
theorem ae6:aZ (xS kk).P 63=1:=by kernel_rfl
theorem afV (c0 c1 c2 c3 c4 c5 c6 c7 c8 c9 c10:V):aW (xS kk).P 65 (c0::c1::c2::c3::c4::c5::c6::c7::c8::c9::c10::cs)=some (.agg [c0,c1,c2,c3,c4,c5,c6,c7,c8,c9,c10]):=by kernel_rfl
theorem adF:aZ (xS kk).P 65=11:=by kernel_rfl
theorem afs:aW (xS kk).P 86 (c::cs)=some c:=by kernel_rfl
theorem Yp (c0 c1:V):aW (xS kk).P 101 (c0::c1::cs)=some (.agg [c0,c1]):=by kernel_rfl
theorem Zd:aZ (xS kk).P 101=2:=by kernel_rfl
theorem abD:aW (xS kk).P 116 (c::cs)=some c:=by kernel_rfl
theorem aas (c0 c1 c2:V):aW (xS kk).P 129 (c0::c1::c2::cs)=some (.agg [c0,c1,c2]):=by kernel_rfl
theorem aag:aZ (xS kk).P 129=3:=by kernel_rfl
theorem aa8:aW (xS kk).P 150 (c::cs)=some c:=by kernel_rfl
theorem acH:aZ (xS kk).P 150=1:=by kernel_rfl
theorem ach:aZ (xS kk).P 169=16:=by kernel_rfl
theorem acP:aW (xS kk).P 170 (c::cs)=some c:=by kernel_rfl
theorem YN:aZ (xS kk).P 170=1:=by kernel_rfl
theorem aaN:aZ (xS kk).P 175=6:=by kernel_rfl
theorem YW (c0 c1:V):aW (xS kk).P 194 (c0::c1::cs)=some (.agg [c0,c1]):=by kernel_rfl
theorem abA:aZ (xS kk).P 194=2:=by kernel_rfl
theorem aaD:aW (xS kk).P 206 (c::cs)=some c:=by kernel_rfl
theorem abd:aW (xS kk).P 223 (c::cs)=some c:=by kernel_rfl
theorem abL:aZ (xS kk).P 223=1:=by kernel_rfl
theorem Zk:aZ (xS kk).P 236=4:=by kernel_rfl
theorem aiq:az (xS kk).P 1 H=some (.ptr (bN [(V.lit Value.nilFunc)] H).2.length 0 0 0,(bN [(V.lit Value.nilFunc)] H).2++[.box (bN [(V.lit Value.nilFunc)] H).1]):=by kernel_rfl
theorem ah8:az (xS kk).P 3 H=some (.ptr (bN [(V.lit (Value.int .i64 (0)))] H).2.length 0 0 0,(bN [(V.lit (Value.int .i64 (0)))] H).2++[.box (bN [(V.lit (Value.int .i64 (0)))] H).1]):=by kernel_rfl
theorem aib:az (xS kk).P 4 H=some (.ptr (bN [(V.lit (Value.bool false))] H).2.length 0 0 0,(bN [(V.lit (Value.bool false))] H).2++[.box (bN [(V.lit (Value.bool false))] H).1]):=by kernel_rfl
theorem ad0:az (xS kk).P 26 H=some (.ptr (bN [V.nil] H).2.length 0 0 0,(bN [V.nil] H).2++[.box (bN [V.nil] H).1]):=by kernel_rfl
theorem aeS:az (xS kk).P 30 H=some (.ptr (bN [(V.lit (Value.int .i64 (0))),(V.lit (Value.int .i64 (0))),(V.lit (Value.int .i64 (0))),(V.lit (Value.int .i64 (0))),V.nil,V.nil,V.nil,V.nil] H).2.length 0 0 0,(bN [(V.lit (Value.int .i64 (0))),(V.lit (Value.int .i64 (0))),(V.lit (Value.int .i64 (0))),(V.lit (Value.int .i64 (0))),V.nil,V.nil,V.nil,V.nil] H).2++[.box (bN [(V.lit (Value.int .i64 (0))),(V.lit (Value.int .i64 (0))),(V.lit (Value.int .i64 (0))),(V.lit (Value.int .i64 (0))),V.nil,V.nil,V.nil,V.nil] H).1]):=by kernel_rfl
theorem aeT:az (xS kk).P 32 H=some (.ptr (bN [(V.lit Value.nilFunc)] H).2.length 0 0 0,(bN [(V.lit Value.nilFunc)] H).2++[.box (bN [(V.lit Value.nilFunc)] H).1]):=by kernel_rfl
theorem adZ:az (xS kk).P 34 H=some (.ptr (bN [V.nil] H).2.length 0 0 0,(bN [V.nil] H).2++[.box (bN [V.nil] H).1]):=by kernel_rfl
theorem aeo:az (xS kk).P 48 H=some (.ptr (bN [(V.lit (Value.int .i64 (0))),(V.lit (Value.int .i64 (0))),(V.lit (Value.int .u64 (0)))] H).2.length 0 0 0,(bN [(V.lit (Value.int .i64 (0))),(V.lit (Value.int .i64 (0))),(V.lit (Value.int .u64 (0)))] H).2++[.box (bN [(V.lit (Value.int .i64 (0))),(V.lit (Value.int .i64 (0))),(V.lit (Value.int .u64 (0)))] H).1]):=by kernel_rfl
theorem agf:az (xS kk).P 55 H=some (.ptr (bN [(V.lit (Value.int .i64 (0))),(V.lit (Value.int .i64 (0))),(V.lit (Value.int .i64 (0))),(V.lit (Value.int .u64 (0))),(V.lit (Value.int .u64 (0))),(V.lit (Value.int .u64 (0))),(V.lit (Value.int .i64 (0)))] H).2.length 0 0 0,(bN [(V.lit (Value.int .i64 (0))),(V.lit (Value.int .i64 (0))),(V.lit (Value.int .i64 (0))),(V.lit (Value.int .u64 (0))),(V.lit (Value.int .u64 (0))),(V.lit (Value.int .u64 (0))),(V.lit (Value.int .i64 (0)))] H).2++[.box (bN [(V.lit (Value.int .i64 (0))),(V.lit (Value.int .i64 (0))),(V.lit (Value.int .i64 (0))),(V.lit (Value.int .u64 (0))),(V.lit (Value.int .u64 (0))),(V.lit (Value.int .u64 (0))),(V.lit (Value.int .i64 (0)))] H).1]):=by kernel_rfl
theorem aeA:az (xS kk).P 57 H=some (.ptr (bN [(V.lit (Value.int .i64 (0))),V.nil,(V.lit (Value.int .i64 (0))),(V.lit (Value.int .i64 (0))),(V.lit (Value.int .i64 (0))),(V.lit (Value.int .u64 (0))),(V.lit (Value.int .u64 (0))),(V.lit (Value.int .u64 (0))),(V.lit (Value.int .i64 (0)))] H).2.length 0 0 0,(bN [(V.lit (Value.int .i64 (0))),V.nil,(V.lit (Value.int .i64 (0))),(V.lit (Value.int .i64 (0))),(V.lit (Value.int .i64 (0))),(V.lit (Value.int .u64 (0))),(V.lit (Value.int .u64 (0))),(V.lit (Value.int .u64 (0))),(V.lit (Value.int .i64 (0)))] H).2++[.box (bN [(V.lit (Value.int .i64 (0))),V.nil,(V.lit (Value.int .i64 (0))),(V.lit (Value.int .i64 (0))),(V.lit (Value.int .i64 (0))),(V.lit (Value.int .u64 (0))),(V.lit (Value.int .u64 (0))),(V.lit (Value.int .u64 (0))),(V.lit (Value.int .i64 (0)))] H).1]):=by kernel_rfl
theorem aeb:az (xS kk).P 65 H=some (.ptr (bN [(V.lit (Value.int .i64 (0))),V.nil,(V.lit (Value.int .i64 (0))),(V.lit (Value.int .i64 (0))),(V.lit (Value.int .i64 (0))),(V.lit (Value.int .u64 (0))),(V.lit (Value.int .u64 (0))),(V.lit (Value.int .u64 (0))),(V.lit (Value.int .i64 (0))),(V.lit (Value.int .i64 (0))),(V.lit (Value.int .i64 (0)))] H).2.length 0 0 0,(bN [(V.lit (Value.int .i64 (0))),V.nil,(V.lit (Value.int .i64 (0))),(V.lit (Value.int .i64 (0))),(V.lit (Value.int .i64 (0))),(V.lit (Value.int .u64 (0))),(V.lit (Value.int .u64 (0))),(V.lit (Value.int .u64 (0))),(V.lit (Value.int .i64 (0))),(V.lit (Value.int .i64 (0))),(V.lit (Value.int .i64 (0)))] H).2++[.box (bN [(V.lit (Value.int .i64 (0))),V.nil,(V.lit (Value.int .i64 (0))),(V.lit (Value.int .i64 (0))),(V.lit (Value.int .i64 (0))),(V.lit (Value.int .u64 (0))),(V.lit (Value.int .u64 (0))),(V.lit (Value.int .u64 (0))),(V.lit (Value.int .i64 (0))),(V.lit (Value.int .i64 (0))),(V.lit (Value.int .i64 (0)))] H).1]):=by kernel_rfl
theorem YK:az (xS kk).P 101 H=some (.ptr (bN [(V.lit (Value.int .i64 (0))),V.nil] H).2.length 0 0 0,(bN [(V.lit (Value.int .i64 (0))),V.nil] H).2++[.box (bN [(V.lit (Value.int .i64 (0))),V.nil] H).1]):=by kernel_rfl
theorem ZH:az (xS kk).P 129 H=some (.ptr (bN [(V.lit (Value.int .i64 (0))),(V.lit (Value.int .i64 (0))),(V.lit (Value.int .i64 (0)))] H).2.length 0 0 0,(bN [(V.lit (Value.int .i64 (0))),(V.lit (Value.int .i64 (0))),(V.lit (Value.int .i64 (0)))] H).2++[.box (bN [(V.lit (Value.int .i64 (0))),(V.lit (Value.int .i64 (0))),(V.lit (Value.int .i64 (0)))] H).1]):=by kernel_rfl
theorem abS:az (xS kk).P 150 H=some (.ptr (bN [V.nil] H).2.length 0 0 0,(bN [V.nil] H).2++[.box (bN [V.nil] H).1]):=by kernel_rfl
theorem abR:az (xS kk).P 169 H=some (.ptr (bN [(V.lit Value.nilFunc),(V.lit Value.nilFunc),(V.lit Value.nilFunc),(V.lit Value.nilFunc),(V.lit Value.nilFunc),(V.lit Value.nilFunc),(V.lit Value.nilFunc),(V.lit Value.nilFunc),(V.lit Value.nilFunc),(V.lit Value.nilFunc),(V.lit Value.nilFunc),(V.lit Value.nilFunc),(V.lit Value.nilFunc),(V.lit Value.nilFunc),(V.lit Value.nilFunc),(V.lit Value.nilFunc)] H).2.length 0 0 0,(bN [(V.lit Value.nilFunc),(V.lit Value.nilFunc),(V.lit Value.nilFunc),(V.lit Value.nilFunc),(V.lit Value.nilFunc),(V.lit Value.nilFunc),(V.lit Value.nilFunc),(V.lit Value.nilFunc),(V.lit Value.nilFunc),(V.lit Value.nilFunc),(V.lit Value.nilFunc),(V.lit Value.nilFunc),(V.lit Value.nilFunc),(V.lit Value.nilFunc),(V.lit Value.nilFunc),(V.lit Value.nilFunc)] H).2++[.box (bN [(V.lit Value.nilFunc),(V.lit Value.nilFunc),(V.lit Value.nilFunc),(V.lit Value.nilFunc),(V.lit Value.nilFunc),(V.lit Value.nilFunc),(V.lit Value.nilFunc),(V.lit Value.nilFunc),(V.lit Value.nilFunc),(V.lit Value.nilFunc),(V.lit Value.nilFunc),(V.lit Value.nilFunc),(V.lit Value.nilFunc),(V.lit Value.nilFunc),(V.lit Value.nilFunc),(V.lit Value.nilFunc)] H).1]):=by kernel_rfl
theorem aa7:az (xS kk).P 170 H=some (.ptr (bN [(V.lit Value.nilFunc)] H).2.length 0 0 0,(bN [(V.lit Value.nilFunc)] H).2++[.box (bN [(V.lit Value.nilFunc)] H).1]):=by kernel_rfl
theorem acS:az (xS kk).P 175 H=some (.ptr (bN [(V.lit Value.nilFunc),(V.lit Value.nilFunc),(V.lit Value.nilFunc),(V.lit Value.nilFunc),(V.lit Value.nilFunc),(V.lit Value.nilFunc)] H).2.length 0 0 0,(bN [(V.lit Value.nilFunc),(V.lit Value.nilFunc),(V.lit Value.nilFunc),(V.lit Value.nilFunc),(V.lit Value.nilFunc),(V.lit Value.nilFunc)] H).2++[.box (bN [(V.lit Value.nilFunc),(V.lit Value.nilFunc),(V.lit Value.nilFunc),(V.lit Value.nilFunc),(V.lit Value.nilFunc),(V.lit Value.nilFunc)] H).1]):=by kernel_rfl
theorem ZT:az (xS kk).P 194 H=some (.ptr (bN [(V.lit (Value.int .i64 (0))),(V.lit (Value.int .i64 (0)))] H).2.length 0 0 0,(bN [(V.lit (Value.int .i64 (0))),(V.lit (Value.int .i64 (0)))] H).2++[.box (bN [(V.lit (Value.int .i64 (0))),(V.lit (Value.int .i64 (0)))] H).1]):=by kernel_rfl
theorem acC:az (xS kk).P 223 H=some (.ptr (bN [V.nil] H).2.length 0 0 0,(bN [V.nil] H).2++[.box (bN [V.nil] H).1]):=by kernel_rfl
theorem Zx:az (xS kk).P 236 H=some (.ptr (bN [(V.lit Value.nilFunc),(V.lit Value.nilFunc),(V.lit Value.nilFunc),(V.lit Value.nilFunc)] H).2.length 0 0 0,(bN [(V.lit Value.nilFunc),(V.lit Value.nilFunc),(V.lit Value.nilFunc),(V.lit Value.nilFunc)] H).2++[.box (bN [(V.lit Value.nilFunc),(V.lit Value.nilFunc),(V.lit Value.nilFunc),(V.lit Value.nilFunc)] H).1]):=by kernel_rfl
theorem XI (row off:Nat):aa (xS kk).P 23 (.ptr id g row off) 0=some (.ptr id g row (off+0)):=by kernel_rfl
theorem Xr (row off:Nat):aa (xS kk).P 23 (.ptr id g row off) 1=some (.ptr id g row (off+1)):=by kernel_rfl
theorem VJ (row off:Nat):aa (xS kk).P 23 (.ptr id g row off) 2=some (.ptr id g row (off+2)):=by kernel_rfl
theorem UP (row off:Nat):aa (xS kk).P 23 (.ptr id g row off) 3=some (.ptr id g row (off+3)):=by kernel_rfl
theorem Xq (row off:Nat):aa (xS kk).P 30 (.ptr id g row off) 0=some (.ptr id g row (off+0)):=by kernel_rfl
theorem UG (row off:Nat):aa (xS kk).P 30 (.ptr id g row off) 1=some (.ptr id g row (off+4)):=by kernel_rfl
theorem We (row off:Nat):aa (xS kk).P 30 (.ptr id g row off) 2=some (.ptr id g row (off+5)):=by kernel_rfl
theorem Xc (row off:Nat):aa (xS kk).P 30 (.ptr id g row off) 3=some (.ptr id g row (off+6)):=by kernel_rfl
theorem W3 (row off:Nat):aa (xS kk).P 30 (.ptr id g row off) 4=some (.ptr id g row (off+7)):=by kernel_rfl
theorem UF (row off:Nat):aa (xS kk).P 48 (.ptr id g row off) 0=some (.ptr id g row (off+0)):=by kernel_rfl
theorem Wq (row off:Nat):aa (xS kk).P 48 (.ptr id g row off) 1=some (.ptr id g row (off+1)):=by kernel_rfl
theorem V7 (row off:Nat):aa (xS kk).P 48 (.ptr id g row off) 2=some (.ptr id g row (off+2)):=by kernel_rfl
theorem Vw:aa (xS kk).P 52 (.rp cs) 0=some (.rp (cs.drop 0)):=by kernel_rfl
theorem VL (row off:Nat):aa (xS kk).P 52 (.ptr id g row off) 0=some (.ptr id g row (off+0)):=by kernel_rfl
theorem X7 (row off:Nat):aa (xS kk).P 55 (.ptr id g row off) 0=some (.ptr id g row (off+0)):=by kernel_rfl
theorem Ws (row off:Nat):aa (xS kk).P 55 (.ptr id g row off) 1=some (.ptr id g row (off+1)):=by kernel_rfl
theorem WO (row off:Nat):aa (xS kk).P 55 (.ptr id g row off) 2=some (.ptr id g row (off+2)):=by kernel_rfl
theorem Vp (row off:Nat):aa (xS kk).P 55 (.ptr id g row off) 3=some (.ptr id g row (off+3)):=by kernel_rfl
theorem Xh (row off:Nat):aa (xS kk).P 55 (.ptr id g row off) 4=some (.ptr id g row (off+4)):=by kernel_rfl
theorem WJ (row off:Nat):aa (xS kk).P 55 (.ptr id g row off) 5=some (.ptr id g row (off+5)):=by kernel_rfl
theorem Vy (row off:Nat):aa (xS kk).P 55 (.ptr id g row off) 6=some (.ptr id g row (off+6)):=by kernel_rfl
theorem XO (row off:Nat):aa (xS kk).P 57 (.ptr id g row off) 0=some (.ptr id g row (off+0)):=by kernel_rfl
theorem UV:aa (xS kk).P 57 (.rp cs) 1=some (.rp (cs.drop 1)):=by kernel_rfl
theorem Ur (row off:Nat):aa (xS kk).P 57 (.ptr id g row off) 1=some (.ptr id g row (off+1)):=by kernel_rfl
theorem Wk (row off:Nat):aa (xS kk).P 57 (.ptr id g row off) 2=some (.ptr id g row (off+2)):=by kernel_rfl
theorem XP (row off:Nat):aa (xS kk).P 65 (.ptr id g row off) 0=some (.ptr id g row (off+0)):=by kernel_rfl
theorem Wu:aa (xS kk).P 65 (.rp cs) 1=some (.rp (cs.drop 1)):=by kernel_rfl
theorem XQ (row off:Nat):aa (xS kk).P 65 (.ptr id g row off) 1=some (.ptr id g row (off+1)):=by kernel_rfl
theorem X8 (row off:Nat):aa (xS kk).P 65 (.ptr id g row off) 2=some (.ptr id g row (off+2)):=by kernel_rfl
theorem XK (row off:Nat):aa (xS kk).P 65 (.ptr id g row off) 3=some (.ptr id g row (off+9)):=by kernel_rfl
theorem X4 (row off:Nat):aa (xS kk).P 65 (.ptr id g row off) 4=some (.ptr id g row (off+10)):=by kernel_rfl
theorem O1 (row off:Nat):aa (xS kk).P 101 (.ptr id g row off) 0=some (.ptr id g row (off+0)):=by kernel_rfl
theorem O2:aa (xS kk).P 101 (.rp cs) 1=some (.rp (cs.drop 1)):=by kernel_rfl
theorem Sn (row off:Nat):aa (xS kk).P 101 (.ptr id g row off) 1=some (.ptr id g row (off+1)):=by kernel_rfl
theorem P9 (row off:Nat):aa (xS kk).P 129 (.ptr id g row off) 0=some (.ptr id g row (off+0)):=by kernel_rfl
theorem Qf (row off:Nat):aa (xS kk).P 129 (.ptr id g row off) 1=some (.ptr id g row (off+1)):=by kernel_rfl
theorem Pt (row off:Nat):aa (xS kk).P 129 (.ptr id g row off) 2=some (.ptr id g row (off+2)):=by kernel_rfl
theorem RQ (row off:Nat):aa (xS kk).P 168 (.ptr id g row off) 0=some (.ptr id g row (off+0)):=by kernel_rfl
theorem Po (row off:Nat):aa (xS kk).P 168 (.ptr id g row off) 1=some (.ptr id g row (off+11)):=by kernel_rfl
theorem Rl (row off:Nat):aa (xS kk).P 168 (.ptr id g row off) 2=some (.ptr id g row (off+15)):=by kernel_rfl
theorem PO (row off:Nat):aa (xS kk).P 168 (.ptr id g row off) 3=some (.ptr id g row (off+16)):=by kernel_rfl
theorem Q4 (row off:Nat):aa (xS kk).P 168 (.ptr id g row off) 4=some (.ptr id g row (off+17)):=by kernel_rfl
theorem PH (row off:Nat):aa (xS kk).P 168 (.ptr id g row off) 5=some (.ptr id g row (off+18)):=by kernel_rfl
theorem Pw (row off:Nat):aa (xS kk).P 168 (.ptr id g row off) 6=some (.ptr id g row (off+19)):=by kernel_rfl
theorem Qi (row off:Nat):aa (xS kk).P 194 (.ptr id g row off) 0=some (.ptr id g row (off+0)):=by kernel_rfl
theorem RP (row off:Nat):aa (xS kk).P 194 (.ptr id g row off) 1=some (.ptr id g row (off+1)):=by kernel_rfl
theorem Pu (row off:Nat):aa (xS kk).P 205 (.ptr id g row off) 0=some (.ptr id g row (off+0)):=by kernel_rfl
theorem Sz (row off:Nat):aa (xS kk).P 205 (.ptr id g row off) 1=some (.ptr id g row (off+7)):=by kernel_rfl
theorem RB (row off:Nat):aa (xS kk).P 205 (.ptr id g row off) 2=some (.ptr id g row (off+11)):=by kernel_rfl
theorem Rh (row off:Nat):aa (xS kk).P 221 (.ptr id g row off) 0=some (.ptr id g row (off+0)):=by kernel_rfl
theorem Pv (row off:Nat):aa (xS kk).P 221 (.ptr id g row off) 1=some (.ptr id g row (off+7)):=by kernel_rfl
theorem Sr (row off:Nat):aa (xS kk).P 221 (.ptr id g row off) 2=some (.ptr id g row (off+11)):=by kernel_rfl
theorem P7 (row off:Nat):aa (xS kk).P 235 (.ptr id g row off) 0=some (.ptr id g row (off+0)):=by kernel_rfl
theorem PQ (row off:Nat):aa (xS kk).P 235 (.ptr id g row off) 1=some (.ptr id g row (off+7)):=by kernel_rfl
theorem Sc (row off:Nat):aa (xS kk).P 235 (.ptr id g row off) 2=some (.ptr id g row (off+11)):=by kernel_rfl
theorem O6:AS (xS kk).P 194 (.agg cs) 0=aW (xS kk).P 3 (cs.drop 0):=by kernel_rfl
theorem aei (l:Tyt):am (xS kk).P 24 (.ro (l.map ao)) (.lit (.int k n)) H=(idx l n).map fun x => .rp (ao x):=cE (e:=101) (by kernel_rfl) (fun x=>(by kernel_rfl:(ao x).length=aZ (xS kk).P 101)) (by kernel_rfl)
theorem afr:am (xS kk).P 24 (.own id g len) (.lit (.int k n)) H=ixB 2 g len id n (H[id]?):=cB (P:=(xS kk).P) (e:=101) (by kernel_rfl) (by kernel_rfl)
theorem adP (l:List Int):am (xS kk).P 26 (.ro (l.map (aG .u64))) (.lit (.int k n)) H=(idx l n).map fun x => .rp ((aG .u64) x):=cE (e:=46) (by kernel_rfl) (fun x=>(by kernel_rfl:((aG .u64) x).length=aZ (xS kk).P 46)) (by kernel_rfl)
theorem afX:am (xS kk).P 26 (.own id g len) (.lit (.int k n)) H=ixB 1 g len id n (H[id]?):=cB (P:=(xS kk).P) (e:=46) (by kernel_rfl) (by kernel_rfl)
theorem ad9 (l:List Tyw):am (xS kk).P 27 (.ro (l.map aM)) (.lit (.int k n)) H=(idx l n).map fun x => .rp (aM x):=cE (e:=65) (by kernel_rfl) (fun x=>(by kernel_rfl:(aM x).length=aZ (xS kk).P 65)) (by kernel_rfl)
theorem adW:am (xS kk).P 27 (.own id g len) (.lit (.int k n)) H=ixB 11 g len id n (H[id]?):=cB (P:=(xS kk).P) (e:=65) (by kernel_rfl) (by kernel_rfl)
theorem agU (l:List Tys):am (xS kk).P 28 (.ro (l.map bD)) (.lit (.int k n)) H=(idx l n).map fun x => .rp (bD x):=cE (e:=57) (by kernel_rfl) (fun x=>(by kernel_rfl:(bD x).length=aZ (xS kk).P 57)) (by kernel_rfl)
theorem agA:am (xS kk).P 28 (.own id g len) (.lit (.int k n)) H=ixB 9 g len id n (H[id]?):=cB (P:=(xS kk).P) (e:=57) (by kernel_rfl) (by kernel_rfl)
theorem ads (l:Tye):am (xS kk).P 31 (.ro (l.map fi)) (.lit (.int k n)) H=(idx l n).map fun x => .rp (fi x):=cE (e:=48) (by kernel_rfl) (fun x=>(by kernel_rfl:(fi x).length=aZ (xS kk).P 48)) (by kernel_rfl)
theorem af1 (l:Tye):am (xS kk).P 34 (.ro (l.map aX)) (.lit (.int k n)) H=(idx l n).map fun x => .rp (aX x):=cE (e:=52) (by kernel_rfl) (fun x=>(by kernel_rfl:(aX x).length=aZ (xS kk).P 52)) (by kernel_rfl)
theorem ag7 (l:List (List Int)):am (xS kk).P 40 (.ro (l.map fT)) (.lit (.int k n)) H=(idx l n).map fun x => .rp (fT x):=cE (e:=53) (by kernel_rfl) (fun x=>(by kernel_rfl:(fT x).length=aZ (xS kk).P 53)) (by kernel_rfl)
theorem agb (l:List Int):am (xS kk).P 53 (.ro (l.map (aG .i64))) (.lit (.int k n)) H=(idx l n).map fun x => .rp ((aG .i64) x):=cE (e:=3) (by kernel_rfl) (fun x=>(by kernel_rfl:((aG .i64) x).length=aZ (xS kk).P 3)) (by kernel_rfl)
theorem aeD (l:Tye):am (xS kk).P 63 (.ro (l.map aX)) (.lit (.int k n)) H=(idx l n).map fun x => .rp (aX x):=cE (e:=129) (by kernel_rfl) (fun x=>(by kernel_rfl:(aX x).length=aZ (xS kk).P 129)) (by kernel_rfl)
theorem agh:am (xS kk).P 63 (.own id g len) (.lit (.int k n)) H=ixB 3 g len id n (H[id]?):=cB (P:=(xS kk).P) (e:=129) (by kernel_rfl) (by kernel_rfl)
theorem acV:am (xS kk).P 150 (.own id g len) (.lit (.int k n)) H=ixB 1 g len id n (H[id]?):=cB (P:=(xS kk).P) (e:=4) (by kernel_rfl) (by kernel_rfl)
theorem acz:am (xS kk).P 207 (.own id g len) (.lit (.int k n)) H=ixB 1 g len id n (H[id]?):=cB (P:=(xS kk).P) (e:=206) (by kernel_rfl) (by kernel_rfl)
theorem Yn:am (xS kk).P 223 (.own id g len) (.lit (.int k n)) H=ixB 1 g len id n (H[id]?):=cB (P:=(xS kk).P) (e:=116) (by kernel_rfl) (by kernel_rfl)
theorem Ys:am (xS kk).P 238 (.own id g len) (.lit (.int k n)) H=ixB 1 g len id n (H[id]?):=cB (P:=(xS kk).P) (e:=1) (by kernel_rfl) (by kernel_rfl)
theorem abM:bh (xS kk).P 24 x H=(uN x H).map fun v=>(v,H):=by kernel_rfl
theorem aca:bh (xS kk).P 25 x H=(uN x H).map fun v=>(v,H):=by kernel_rfl
theorem aaa:bh (xS kk).P 26 x H=(uN x H).map fun v=>(v,H):=by kernel_rfl
theorem aaz:bh (xS kk).P 27 x H=(uN x H).map fun v=>(v,H):=by kernel_rfl
theorem acG:bh (xS kk).P 28 x H=(uN x H).map fun v=>(v,H):=by kernel_rfl
theorem ZJ:bh (xS kk).P 31 x H=(uN x H).map fun v=>(v,H):=by kernel_rfl
theorem ZZ:bh (xS kk).P 34 x H=(uN x H).map fun v=>(v,H):=by kernel_rfl
theorem YF:bh (xS kk).P 40 x H=(uN x H).map fun v=>(v,H):=by kernel_rfl
theorem YL:bh (xS kk).P 53 x H=(uN x H).map fun v=>(v,H):=by kernel_rfl
theorem abt:bh (xS kk).P 63 x H=(uN x H).map fun v=>(v,H):=by kernel_rfl
theorem WF:bh (xS kk).P 207 x H=(uN x H).map fun v=>(v,H):=by kernel_rfl
theorem Ya:bh (xS kk).P 238 x H=(uN x H).map fun v=>(v,H):=by kernel_rfl
theorem Sb:kS (xS kk).P wl 25 25 s x H=cR (xS kk).P wl 25 s x H:=by kernel_rfl
theorem OY:cR (xS kk).P wl 25 (.own id g len) x H=(dR x H).bind fun xs=>bif eN 1 xs then apB wl 46 1 8 id g len xs H (H[id]?) else none:=(eP (P:=(xS kk).P) (t:=25) (e:=46) (by kernel_rfl) (by kernel_rfl)).trans (by kernel_rfl)
theorem PT:kS (xS kk).P wl 26 26 s x H=cR (xS kk).P wl 26 s x H:=by kernel_rfl
theorem Qj:cR (xS kk).P wl 26 (.own id g len) x H=(dR x H).bind fun xs=>bif eN 1 xs then apB wl 46 1 8 id g len xs H (H[id]?) else none:=(eP (P:=(xS kk).P) (t:=26) (e:=46) (by kernel_rfl) (by kernel_rfl)).trans (by kernel_rfl)
theorem QU:kS (xS kk).P wl 27 27 s x H=cR (xS kk).P wl 27 s x H:=by kernel_rfl
theorem Q1:cR (xS kk).P wl 27 (.own id g len) x H=(dR x H).bind fun xs=>bif eN 11 xs then apB wl 65 11 104 id g len xs H (H[id]?) else none:=(eP (P:=(xS kk).P) (t:=27) (e:=65) (by kernel_rfl) (by kernel_rfl)).trans (by kernel_rfl)
theorem Rr:kS (xS kk).P wl 28 28 s x H=cR (xS kk).P wl 28 s x H:=by kernel_rfl
theorem RG:cR (xS kk).P wl 28 (.own id g len) x H=(dR x H).bind fun xs=>bif eN 9 xs then apB wl 57 9 88 id g len xs H (H[id]?) else none:=(eP (P:=(xS kk).P) (t:=28) (e:=57) (by kernel_rfl) (by kernel_rfl)).trans (by kernel_rfl)
theorem RU:kS (xS kk).P wl 34 34 s x H=cR (xS kk).P wl 34 s x H:=by kernel_rfl
theorem O8:cR (xS kk).P wl 34 (.own id g len) x H=(dR x H).bind fun xs=>bif eN 3 xs then apB wl 52 3 24 id g len xs H (H[id]?) else none:=(eP (P:=(xS kk).P) (t:=34) (e:=52) (by kernel_rfl) (by kernel_rfl)).trans (by kernel_rfl)
theorem Q5:kS (xS kk).P wl 53 53 s x H=cR (xS kk).P wl 53 s x H:=by kernel_rfl
theorem Q7:cR (xS kk).P wl 53 (.own id g len) x H=(dR x H).bind fun xs=>bif eN 1 xs then apB wl 3 1 8 id g len xs H (H[id]?) else none:=(eP (P:=(xS kk).P) (t:=53) (e:=3) (by kernel_rfl) (by kernel_rfl)).trans (by kernel_rfl)
theorem Pf:kS (xS kk).P wl 63 63 s x H=cR (xS kk).P wl 63 s x H:=by kernel_rfl
theorem Rm:cR (xS kk).P wl 63 (.own id g len) x H=(dR x H).bind fun xs=>bif eN 3 xs then apB wl 129 3 24 id g len xs H (H[id]?) else none:=(eP (P:=(xS kk).P) (t:=63) (e:=129) (by kernel_rfl) (by kernel_rfl)).trans (by kernel_rfl)
theorem aeY (c:Bool) (l:List Int):eU (xS kk).P wl c 53 (.ro (l.map (aG .i64))) (some (.lit (.int k n))) none none H=bif decide (0≤n∧n≤l.length) then some (.ro ((l.drop n.toNat).map (aG .i64)),H) else none:=FO (P:=(xS kk).P) (e:=3) (by kernel_rfl) (by kernel_rfl) (fun x=>(by kernel_rfl:((aG .i64) x).length=aZ (xS kk).P 3))
theorem afL (c:Bool):eU (xS kk).P wl c 63 (.own id g len) none (some (.lit (.int k n))) none H=slB g len id n H (H[id]?):=J7 (P:=(xS kk).P) (e:=129) (by kernel_rfl) (by kernel_rfl)
theorem aap:bg (xS kk).P 150 (.lit (.int .i64 n)) (.lit (.int .i64 n)) H=bif decide (0≤n∧n≤9223372036854775807∧n*1≤70368744177664) then some (.own H.length 0 n.toNat,H++[.rows 1 (List.replicate n.toNat [(V.lit (Value.bool false))]) 0 true]) else none:=Dt (P:=(xS kk).P) (t:=150) (e:=4) (z:=((fD (xS kk).P 4).getD default)) (by kernel_rfl) (by kernel_rfl) (by kernel_rfl) (by kernel_rfl)
theorem VZ:fL (xS kk).P 3 46 (.lit (.int k n))=some (.lit (.int .u64 (IntKind.wrap .u64 n))):=by kernel_rfl
theorem VW:fL (xS kk).P 46 3 (.lit (.int k n))=some (.lit (.int .i64 (IntKind.wrap .i64 n))):=by kernel_rfl
theorem adr (a0 b0:Int) (a1 b1:Int) (a2 b2:Int) (a3 b3:Int):aA (xS kk).P .eql 23 (.agg [.lit (.int .i64 a0),.lit (.int .i64 a1),.lit (.int .i64 a2),.lit (.int .i64 a3)]) (.agg [.lit (.int .i64 b0),.lit (.int .i64 b1),.lit (.int .i64 b2),.lit (.int .i64 b3)])=some (.lit (.bool ((a0==b0)&&((a1==b1)&&((a2==b2)&&((a3==b3)&&true)))))):=by kernel_rfl
theorem afR (a0 b0:Int) (a1 b1:Int) (a2 b2:Int):aA (xS kk).P .neq 52 (.agg [.lit (.int .i64 a0),.lit (.int .i64 a1),.lit (.int .i64 a2)]) (.agg [.lit (.int .i64 b0),.lit (.int .i64 b1),.lit (.int .i64 b2)])=some (.lit (.bool (!((a0==b0)&&((a1==b1)&&((a2==b2)&&true)))))):=by kernel_rfl
theorem adJ (a0 b0:Int) (a1 b1:Int) (a2 b2:Int) (a3 b3:Int) (a4 b4:Int) (a5 b5:Int) (a6 b6:Int):aA (xS kk).P .eql 55 (.agg [.lit (.int .i64 a0),.lit (.int .i64 a1),.lit (.int .i64 a2),.lit (.int .u64 a3),.lit (.int .u64 a4),.lit (.int .u64 a5),.lit (.int .i64 a6)]) (.agg [.lit (.int .i64 b0),.lit (.int .i64 b1),.lit (.int .i64 b2),.lit (.int .u64 b3),.lit (.int .u64 b4),.lit (.int .u64 b5),.lit (.int .i64 b6)])=some (.lit (.bool ((a0==b0)&&((a1==b1)&&((a2==b2)&&((a3==b3)&&((a4==b4)&&((a5==b5)&&((a6==b6)&&true))))))))):=by kernel_rfl
theorem YT (a0 b0:Int) (a1 b1:Int) (a2 b2:Int):aA (xS kk).P .neq 129 (.agg [.lit (.int .i64 a0),.lit (.int .i64 a1),.lit (.int .i64 a2)]) (.agg [.lit (.int .i64 b0),.lit (.int .i64 b1),.lit (.int .i64 b2)])=some (.lit (.bool (!((a0==b0)&&((a1==b1)&&((a2==b2)&&true)))))):=by kernel_rfl
theorem HJ (c0 c1 c2:V):be (xS kk).P 23 [(0,c0),(1,c1),(2,c2)]=(ub [(V.lit (Value.int .i64 (0))),(V.lit (Value.int .i64 (0))),(V.lit (Value.int .i64 (0))),(V.lit (Value.int .i64 (0)))] [(0,1,c0),(1,1,c1),(2,1,c2)]).map .agg:=by kernel_rfl
theorem aao:be (xS kk).P 30 []=(ub [(V.lit (Value.int .i64 (0))),(V.lit (Value.int .i64 (0))),(V.lit (Value.int .i64 (0))),(V.lit (Value.int .i64 (0))),V.nil,V.nil,V.nil,V.nil] []).map .agg:=by kernel_rfl
theorem G2 (c0 c1 c2:V):be (xS kk).P 30 [(0,c0),(1,c1),(2,c2)]=(ub [(V.lit (Value.int .i64 (0))),(V.lit (Value.int .i64 (0))),(V.lit (Value.int .i64 (0))),(V.lit (Value.int .i64 (0))),V.nil,V.nil,V.nil,V.nil] [(0,4,c0),(4,1,c1),(5,1,c2)]).map .agg:=by kernel_rfl
theorem HA (c0 c1 c2:V):be (xS kk).P 52 [(0,c0),(1,c1),(2,c2)]=(ub [(V.lit (Value.int .i64 (0))),(V.lit (Value.int .i64 (0))),(V.lit (Value.int .i64 (0)))] [(0,1,c0),(1,1,c1),(2,1,c2)]).map .agg:=by kernel_rfl
theorem abx:be (xS kk).P 55 []=(ub [(V.lit (Value.int .i64 (0))),(V.lit (Value.int .i64 (0))),(V.lit (Value.int .i64 (0))),(V.lit (Value.int .u64 (0))),(V.lit (Value.int .u64 (0))),(V.lit (Value.int .u64 (0))),(V.lit (Value.int .i64 (0)))] []).map .agg:=by kernel_rfl
theorem GC (c0 c1 c2:V):be (xS kk).P 55 [(0,c0),(2,c1),(3,c2)]=(ub [(V.lit (Value.int .i64 (0))),(V.lit (Value.int .i64 (0))),(V.lit (Value.int .i64 (0))),(V.lit (Value.int .u64 (0))),(V.lit (Value.int .u64 (0))),(V.lit (Value.int .u64 (0))),(V.lit (Value.int .i64 (0)))] [(0,1,c0),(2,1,c1),(3,1,c2)]).map .agg:=by kernel_rfl
theorem Dn (c0 c1 c2 c3:V):be (xS kk).P 55 [(0,c0),(2,c1),(3,c2),(6,c3)]=(ub [(V.lit (Value.int .i64 (0))),(V.lit (Value.int .i64 (0))),(V.lit (Value.int .i64 (0))),(V.lit (Value.int .u64 (0))),(V.lit (Value.int .u64 (0))),(V.lit (Value.int .u64 (0))),(V.lit (Value.int .i64 (0)))] [(0,1,c0),(2,1,c1),(3,1,c2),(6,1,c3)]).map .agg:=by kernel_rfl
theorem Gx (c0 c1 c2:V):be (xS kk).P 57 [(0,c0),(1,c1),(2,c2)]=(ub [(V.lit (Value.int .i64 (0))),V.nil,(V.lit (Value.int .i64 (0))),(V.lit (Value.int .i64 (0))),(V.lit (Value.int .i64 (0))),(V.lit (Value.int .u64 (0))),(V.lit (Value.int .u64 (0))),(V.lit (Value.int .u64 (0))),(V.lit (Value.int .i64 (0)))] [(0,1,c0),(1,1,c1),(2,7,c2)]).map .agg:=by kernel_rfl
theorem VS (c0:V):be (xS kk).P 57 [(1,c0)]=(ub [(V.lit (Value.int .i64 (0))),V.nil,(V.lit (Value.int .i64 (0))),(V.lit (Value.int .i64 (0))),(V.lit (Value.int .i64 (0))),(V.lit (Value.int .u64 (0))),(V.lit (Value.int .u64 (0))),(V.lit (Value.int .u64 (0))),(V.lit (Value.int .i64 (0)))] [(1,1,c0)]).map .agg:=by kernel_rfl
theorem VY (c0:V):be (xS kk).P 65 [(2,c0)]=(ub [(V.lit (Value.int .i64 (0))),V.nil,(V.lit (Value.int .i64 (0))),(V.lit (Value.int .i64 (0))),(V.lit (Value.int .i64 (0))),(V.lit (Value.int .u64 (0))),(V.lit (Value.int .u64 (0))),(V.lit (Value.int .u64 (0))),(V.lit (Value.int .i64 (0))),(V.lit (Value.int .i64 (0))),(V.lit (Value.int .i64 (0)))] [(2,7,c0)]).map .agg:=by kernel_rfl
theorem Pg (c0:V):be (xS kk).P 129 [(0,c0)]=(ub [(V.lit (Value.int .i64 (0))),(V.lit (Value.int .i64 (0))),(V.lit (Value.int .i64 (0)))] [(0,1,c0)]).map .agg:=by kernel_rfl
theorem po (c0 c1 c2 c3 c4 c5:V):be (xS kk).P 168 [(0,c0),(1,c1),(2,c2),(3,c3),(4,c4),(5,c5)]=(ub [(V.lit (Value.int .i64 (0))),V.nil,(V.lit (Value.int .i64 (0))),(V.lit (Value.int .i64 (0))),(V.lit (Value.int .i64 (0))),(V.lit (Value.int .u64 (0))),(V.lit (Value.int .u64 (0))),(V.lit (Value.int .u64 (0))),(V.lit (Value.int .i64 (0))),(V.lit (Value.int .i64 (0))),(V.lit (Value.int .i64 (0))),(V.lit (Value.int .i64 (0))),(V.lit (Value.int .i64 (0))),(V.lit (Value.int .i64 (0))),(V.lit (Value.int .i64 (0))),V.nil,V.nil,(V.lit (Value.int .i64 (0))),(V.lit (Value.int .u64 (0))),V.nil] [(0,11,c0),(11,4,c1),(15,1,c2),(16,1,c3),(17,1,c4),(18,1,c5)]).map .agg:=by kernel_rfl
theorem dW (c0 c1 c2 c3 c4 c5 c6 c7 c8 c9 c10 c11 c12 c13 c14 c15:V):be (xS kk).P 169 [(0,c0),(1,c1),(2,c2),(3,c3),(4,c4),(5,c5),(6,c6),(7,c7),(8,c8),(9,c9),(10,c10),(11,c11),(12,c12),(13,c13),(14,c14),(15,c15)]=(ub [(V.lit Value.nilFunc),(V.lit Value.nilFunc),(V.lit Value.nilFunc),(V.lit Value.nilFunc),(V.lit Value.nilFunc),(V.lit Value.nilFunc),(V.lit Value.nilFunc),(V.lit Value.nilFunc),(V.lit Value.nilFunc),(V.lit Value.nilFunc),(V.lit Value.nilFunc),(V.lit Value.nilFunc),(V.lit Value.nilFunc),(V.lit Value.nilFunc),(V.lit Value.nilFunc),(V.lit Value.nilFunc)] [(0,1,c0),(1,1,c1),(2,1,c2),(3,1,c3),(4,1,c4),(5,1,c5),(6,1,c6),(7,1,c7),(8,1,c8),(9,1,c9),(10,1,c10),(11,1,c11),(12,1,c12),(13,1,c13),(14,1,c14),(15,1,c15)]).map .agg:=by kernel_rfl
theorem o8 (c0 c1 c2 c3 c4 c5:V):be (xS kk).P 175 [(0,c0),(1,c1),(2,c2),(3,c3),(4,c4),(5,c5)]=(ub [(V.lit Value.nilFunc),(V.lit Value.nilFunc),(V.lit Value.nilFunc),(V.lit Value.nilFunc),(V.lit Value.nilFunc),(V.lit Value.nilFunc)] [(0,1,c0),(1,1,c1),(2,1,c2),(3,1,c3),(4,1,c4),(5,1,c5)]).map .agg:=by kernel_rfl
theorem XU:be (xS kk).P 194 []=(ub [(V.lit (Value.int .i64 (0))),(V.lit (Value.int .i64 (0)))] []).map .agg:=by kernel_rfl
theorem Ke (c0 c1:V):be (xS kk).P 194 [(0,c0),(1,c1)]=(ub [(V.lit (Value.int .i64 (0))),(V.lit (Value.int .i64 (0)))] [(0,1,c0),(1,1,c1)]).map .agg:=by kernel_rfl
theorem EA (c0 c1 c2:V):be (xS kk).P 205 [(0,c0),(1,c1),(2,c2)]=(ub [(V.lit (Value.int .i64 (0))),(V.lit (Value.int .i64 (0))),(V.lit (Value.int .i64 (0))),(V.lit (Value.int .u64 (0))),(V.lit (Value.int .u64 (0))),(V.lit (Value.int .u64 (0))),(V.lit (Value.int .i64 (0))),(V.lit (Value.int .i64 (0))),(V.lit (Value.int .i64 (0))),(V.lit (Value.int .i64 (0))),(V.lit (Value.int .i64 (0))),V.nil] [(0,7,c0),(7,4,c1),(11,1,c2)]).map .agg:=by kernel_rfl
theorem FV (c0 c1 c2:V):be (xS kk).P 221 [(0,c0),(1,c1),(2,c2)]=(ub [(V.lit (Value.int .i64 (0))),(V.lit (Value.int .i64 (0))),(V.lit (Value.int .i64 (0))),(V.lit (Value.int .u64 (0))),(V.lit (Value.int .u64 (0))),(V.lit (Value.int .u64 (0))),(V.lit (Value.int .i64 (0))),(V.lit (Value.int .i64 (0))),(V.lit (Value.int .i64 (0))),(V.lit (Value.int .i64 (0))),(V.lit (Value.int .i64 (0))),V.nil] [(0,7,c0),(7,4,c1),(11,1,c2)]).map .agg:=by kernel_rfl
theorem EX (c0 c1 c2:V):be (xS kk).P 235 [(0,c0),(1,c1),(2,c2)]=(ub [(V.lit (Value.int .i64 (0))),(V.lit (Value.int .i64 (0))),(V.lit (Value.int .i64 (0))),(V.lit (Value.int .u64 (0))),(V.lit (Value.int .u64 (0))),(V.lit (Value.int .u64 (0))),(V.lit (Value.int .i64 (0))),(V.lit (Value.int .i64 (0))),(V.lit (Value.int .i64 (0))),(V.lit (Value.int .i64 (0))),(V.lit (Value.int .i64 (0))),V.nil] [(0,7,c0),(7,4,c1),(11,1,c2)]).map .agg:=by kernel_rfl
theorem Bh (c0 c1 c2 c3:V):be (xS kk).P 236 [(0,c0),(1,c1),(2,c2),(3,c3)]=(ub [(V.lit Value.nilFunc),(V.lit Value.nilFunc),(V.lit Value.nilFunc),(V.lit Value.nilFunc)] [(0,1,c0),(1,1,c1),(2,1,c2),(3,1,c3)]).map .agg:=by kernel_rfl
theorem U5 (l:List (Nat×V)):aF (xS kk).P wl 25 1 l H=(ig wl 1 l [[(V.lit (Value.int .u64 (0)))]] H).bind fun p=>some (.own p.2.length 0 1,p.2++[.rows 1 p.1 0 true]):=by kernel_rfl
theorem XX (l:List (Nat×V)):aF (xS kk).P wl 26 1 l H=(ig wl 1 l [[(V.lit (Value.int .u64 (0)))]] H).bind fun p=>some (.own p.2.length 0 1,p.2++[.rows 1 p.1 0 true]):=by kernel_rfl
theorem Wz (l:List (Nat×V)):aF (xS kk).P wl 27 1 l H=(ig wl 11 l [[(V.lit (Value.int .i64 (0))),V.ro [],(V.lit (Value.int .i64 (0))),(V.lit (Value.int .i64 (0))),(V.lit (Value.int .i64 (0))),(V.lit (Value.int .u64 (0))),(V.lit (Value.int .u64 (0))),(V.lit (Value.int .u64 (0))),(V.lit (Value.int .i64 (0))),(V.lit (Value.int .i64 (0))),(V.lit (Value.int .i64 (0)))]] H).bind fun p=>some (.own p.2.length 0 1,p.2++[.rows 11 p.1 0 true]):=by kernel_rfl
theorem Up (l:List (Nat×V)):aF (xS kk).P wl 28 1 l H=(ig wl 9 l [[(V.lit (Value.int .i64 (0))),V.ro [],(V.lit (Value.int .i64 (0))),(V.lit (Value.int .i64 (0))),(V.lit (Value.int .i64 (0))),(V.lit (Value.int .u64 (0))),(V.lit (Value.int .u64 (0))),(V.lit (Value.int .u64 (0))),(V.lit (Value.int .i64 (0)))]] H).bind fun p=>some (.own p.2.length 0 1,p.2++[.rows 9 p.1 0 true]):=by kernel_rfl
theorem VB (l:List (Nat×V)):aF (xS kk).P wl 31 1 l H=(ig wl 3 l [[(V.lit (Value.int .i64 (0))),(V.lit (Value.int .i64 (0))),(V.lit (Value.int .u64 (0)))]] H).bind fun p=>some (.own p.2.length 0 1,p.2++[.rows 3 p.1 0 true]):=by kernel_rfl
theorem XL (l:List (Nat×V)):aF (xS kk).P wl 34 1 l H=(ig wl 3 l [[(V.lit (Value.int .i64 (0))),(V.lit (Value.int .i64 (0))),(V.lit (Value.int .i64 (0)))]] H).bind fun p=>some (.own p.2.length 0 1,p.2++[.rows 3 p.1 0 true]):=by kernel_rfl
theorem Wb (l:List (Nat×V)):aF (xS kk).P wl 53 1 l H=(ig wl 1 l [[(V.lit (Value.int .i64 (0)))]] H).bind fun p=>some (.own p.2.length 0 1,p.2++[.rows 1 p.1 0 true]):=by kernel_rfl
theorem Yd (l:List (Nat×V)):aF (xS kk).P wl 53 5 l H=(ig wl 1 l [[(V.lit (Value.int .i64 (0)))],[(V.lit (Value.int .i64 (0)))],[(V.lit (Value.int .i64 (0)))],[(V.lit (Value.int .i64 (0)))],[(V.lit (Value.int .i64 (0)))]] H).bind fun p=>some (.own p.2.length 0 5,p.2++[.rows 1 p.1 0 true]):=by kernel_rfl
theorem XG (l:List (Nat×V)):aF (xS kk).P wl 63 1 l H=(ig wl 3 l [[(V.lit (Value.int .i64 (0))),(V.lit (Value.int .i64 (0))),(V.lit (Value.int .i64 (0)))]] H).bind fun p=>some (.own p.2.length 0 1,p.2++[.rows 3 p.1 0 true]):=by kernel_rfl
theorem PM (l:List (Nat×V)):aF (xS kk).P wl 207 5 l H=(ig wl 1 l [[(V.lit Value.nilFunc)],[(V.lit Value.nilFunc)],[(V.lit Value.nilFunc)],[(V.lit Value.nilFunc)],[(V.lit Value.nilFunc)]] H).bind fun p=>some (.own p.2.length 0 5,p.2++[.rows 1 p.1 0 true]):=by kernel_rfl
theorem QM (l:List (Nat×V)):aF (xS kk).P wl 223 5 l H=(ig wl 1 l [[(V.lit Value.nilFunc)],[(V.lit Value.nilFunc)],[(V.lit Value.nilFunc)],[(V.lit Value.nilFunc)],[(V.lit Value.nilFunc)]] H).bind fun p=>some (.own p.2.length 0 5,p.2++[.rows 1 p.1 0 true]):=by kernel_rfl
theorem Qy (l:List (Nat×V)):aF (xS kk).P wl 238 4 l H=(ig wl 1 l [[(V.lit Value.nilFunc)],[(V.lit Value.nilFunc)],[(V.lit Value.nilFunc)],[(V.lit Value.nilFunc)]] H).bind fun p=>some (.own p.2.length 0 4,p.2++[.rows 1 p.1 0 true]):=by kernel_rfl
theorem Zm (v:V):eX (xS kk).P wl 138 (.map id) (.lit (.int .i64 n)) v H=inB wl .i64 id n v H (H[id]?):=by kernel_rfl
theorem abk (ok:Bool):gG (xS kk).P 138 (.map id) (.lit (.int .i64 n)) ok H=lkB .i64 (V.lit Value.nilFunc) ok n (H[id]?):=by kernel_rfl
theorem aaq (v:V):eX (xS kk).P wl 201 (.map id) (.lit (.int .i64 n)) v H=inB wl .i64 id n v H (H[id]?):=by kernel_rfl
theorem YB (ok:Bool):gG (xS kk).P 201 (.map id) (.lit (.int .i64 n)) ok H=lkB .i64 (V.lit Value.nilFunc) ok n (H[id]?):=by kernel_rfl
theorem aae (v:V):eX (xS kk).P wl 212 (.map id) (.lit (.int .i64 n)) v H=inB wl .i64 id n v H (H[id]?):=by kernel_rfl
theorem abC (ok:Bool):gG (xS kk).P 212 (.map id) (.lit (.int .i64 n)) ok H=lkB .i64 (V.lit Value.nilFunc) ok n (H[id]?):=by kernel_rfl
theorem abw (row off:Nat):am (xS kk).P 169 (.ptr id g row off) (.lit (.int k n)) H=arC id g row [(0,off),(1,off+1),(2,off+2),(3,off+3),(4,off+4),(5,off+5),(6,off+6),(7,off+7),(8,off+8),(9,off+9),(10,off+10),(11,off+11),(12,off+12),(13,off+13),(14,off+14),(15,off+15)] n:=JB (e:=1) (len:=16) (sz:=1) (by kernel_rfl) (by kernel_rfl) (by decide)
theorem Yw (row off:Nat):am (xS kk).P 175 (.ptr id g row off) (.lit (.int k n)) H=arC id g row [(0,off),(1,off+1),(2,off+2),(3,off+3),(4,off+4),(5,off+5)] n:=JB (e:=1) (len:=6) (sz:=1) (by kernel_rfl) (by kernel_rfl) (by decide)
theorem acv (row off:Nat):am (xS kk).P 236 (.ptr id g row off) (.lit (.int k n)) H=arC id g row [(0,off),(1,off+1),(2,off+2),(3,off+3)] n:=JB (e:=1) (len:=4) (sz:=1) (by kernel_rfl) (by kernel_rfl) (by decide)
end
def xF0:=PLift.up (aI (aI (aI (aI (aI (aI (aI (aI @aiw @aiG) (aI @aig @ah6)) (aI (aI @aic @aiF) (aI @agE @agw))) (aI (aI (aI @afy @aec) (aI @agB (aI @adu @adU))) (aI (aI @ag1 @aeR) (aI @ag9 (aI @agM @agJ))))) (aI (aI (aI (aI @adY @adL) (aI @afm (aI @aeG @afi))) (aI (aI @agO @adO) (aI @ad7 (aI @adV @ae1)))) (aI (aI (aI @adp @aee) (aI @afN (aI @afG @aeB))) (aI (aI @aeQ @ae6) (aI @afV (aI @adF @afs)))))) (aI (aI (aI (aI @Yp (aI @Zd @abD)) (aI @aas (aI @aag (aI @aa8 @acH)))) (aI (aI @ach (aI @acP @YN)) (aI (aI @aaN @YW) (aI @abA @aaD)))) (aI (aI (aI (aI @abd @abL) (aI @Zk @aiq)) (aI (aI @ah8 @aib) (aI @ad0 (aI @aeS @aeT)))) (aI (aI (aI @adZ @aeo) (aI @agf (aI @aeA @aeb))) (aI (aI @YK @ZH) (aI @abS (aI @abR @aa7))))))) (aI (aI (aI (aI (aI (aI @acS @ZT) (aI @acC @Zx)) (aI @XI @Xr)) (aI (aI @VJ (aI @UP @Xq)) (aI @UG @We))) (aI (aI (aI @Xc (aI @W3 @UF)) (aI @Wq (aI @V7 @Vw))) (aI (aI @VL (aI @X7 @Ws)) (aI @WO @Vp)))) (aI (aI (aI (aI @Xh @WJ) (aI @Vy (aI @XO (aI @UV @Ur)))) (aI (aI @Wk (aI @XP @Wu)) (aI @XQ (aI @X8 @XK)))) (aI (aI (aI @X4 (aI @O1 @O2)) (aI @Sn (aI @P9 @Qf))) (aI (aI @Pt @RQ) (aI @Po (aI @Rl @PO))))))) (aI (aI (aI (aI (aI (aI @Q4 @PH) (aI @Pw @Qi)) (aI (aI @RP (aI @Pu @Sz)) (aI @RB @Rh))) (aI (aI (aI @Pv (aI @Sr @P7)) (aI @PQ (aI @Sc @O6))) (aI (aI (aI @aei @afr) (aI @adP (aI @afX @ad9))) (aI (aI @adW @agU) (aI @agA @ads))))) (aI (aI (aI (aI @af1 @ag7) (aI @agb (aI @aeD @agh))) (aI (aI (aI @acV @acz) (aI @Yn (aI @Ys @abM))) (aI (aI @aca @aaa) (aI @aaz (aI @acG @ZJ))))) (aI (aI (aI (aI @ZZ @YF) (aI @YL (aI @abt @WF))) (aI @Ya @Sb)) (aI (aI @OY (aI @PT @Qj)) (aI (aI @QU @Q1) (aI @Rr @RG)))))) (aI (aI (aI (aI (aI @RU @O8) (aI (aI @Q5 @Q7) (aI @Pf @Rm))) (aI @aeY (aI @afL @aap))) (aI (aI (aI (aI @VZ @VW) @adr) (aI (aI @afR @adJ) @YT)) (aI (aI (aI @HJ @aao) @G2) (aI (aI @HA @abx) (aI @GC (aI @Dn @Gx)))))) (aI (aI (aI (aI (aI @VS @VY) (aI @Pg (aI @po @dW))) (aI (aI @o8 @XU) (aI @Ke (aI @EA @FV)))) (aI (aI (aI @EX @Bh) @U5) (aI @XX (aI @Wz @Up)))) (aI (aI (aI @VB (aI @XL @Wb)) (aI @Yd (aI @XG (aI @PM @QM)))) (aI (aI (aI @Qy @Zm) (aI @abk (aI @aaq @YB))) (aI (aI @aae @abC) (aI @abw (aI @Yw @acv)))))))))
theorem xF:type_of% xF0.down:=xF0.down
end Go.Ab
