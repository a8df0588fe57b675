import Derived.Test.YtblpbpnilkfjhaaGreatAbLibC
import Derived.Test.YtblpbpnilkfjhaaGreatAbLibB
import Derived.Test.YtblpbpnilkfjhaaGreatR6Seat
set_option linter.unusedVariables false
set_option linter.unusedSimpArgs false
set_option maxRecDepth 100000
set_option linter.unusedVariables false
namespace Go.Ab
open Go.Proofs
section
variable (kk:Nat) (c:V) (cs:List V) (H:Hp) (id:Nat) (g:Nat) (k:IntKind) (n:Int) (len:Nat) (x:V) (wl:Nat) (s:V)
theorem agt:aS (xS kk).P 1 (c::cs)=some c:=by kernel_rfl
theorem afV:aW (xS kk).P 1=1:=by kernel_rfl
theorem agi:aS (xS kk).P 3 (c::cs)=some c:=by kernel_rfl
theorem agr:aW (xS kk).P 3=1:=by kernel_rfl
theorem agl:aS (xS kk).P 4 (c::cs)=some c:=by kernel_rfl
theorem af9:aW (xS kk).P 4=1:=by kernel_rfl
theorem aeQ (c0 c1 c2 c3:V):aS (xS kk).P 23 (c0::c1::c2::c3::cs)=some (.agg [c0,c1,c2,c3]):=by kernel_rfl
theorem acs:aS (xS kk).P 24 (c::cs)=some c:=by kernel_rfl
theorem acw:aW (xS kk).P 24=1:=by kernel_rfl
theorem adp:aS (xS kk).P 26 (c::cs)=some c:=by kernel_rfl
theorem acl:aW (xS kk).P 26=1:=by kernel_rfl
theorem adz:aS (xS kk).P 27 (c::cs)=some c:=by kernel_rfl
theorem acF:aW (xS kk).P 27=1:=by kernel_rfl
theorem ac1:aS (xS kk).P 28 (c::cs)=some c:=by kernel_rfl
theorem adR:aW (xS kk).P 28=1:=by kernel_rfl
theorem ad9 (c0 c1 c2 c3 c4 c5 c6 c7:V):aS (xS kk).P 30 (c0::c1::c2::c3::c4::c5::c6::c7::cs)=some (.agg [c0,c1,c2,c3,c4,c5,c6,c7]):=by kernel_rfl
theorem acu:aW (xS kk).P 30=8:=by kernel_rfl
theorem aeC:aS (xS kk).P 32 (c::cs)=some c:=by kernel_rfl
theorem adJ:aW (xS kk).P 32=1:=by kernel_rfl
theorem abM:aS (xS kk).P 34 (c::cs)=some c:=by kernel_rfl
theorem aeI:aW (xS kk).P 34=1:=by kernel_rfl
theorem abR:aS (xS kk).P 46 (c::cs)=some c:=by kernel_rfl
theorem adl:aW (xS kk).P 46=1:=by kernel_rfl
theorem abK (c0 c1 c2:V):aS (xS kk).P 48 (c0::c1::c2::cs)=some (.agg [c0,c1,c2]):=by kernel_rfl
theorem acL:aW (xS kk).P 48=3:=by kernel_rfl
theorem ab2 (c0 c1 c2:V):aS (xS kk).P 52 (c0::c1::c2::cs)=some (.agg [c0,c1,c2]):=by kernel_rfl
theorem acZ:aS (xS kk).P 53 (c::cs)=some c:=by kernel_rfl
theorem acW:aW (xS kk).P 53=1:=by kernel_rfl
theorem adW (c0 c1 c2 c3 c4 c5 c6:V):aS (xS kk).P 55 (c0::c1::c2::c3::c4::c5::c6::cs)=some (.agg [c0,c1,c2,c3,c4,c5,c6]):=by kernel_rfl
theorem ab6:aW (xS kk).P 55=7:=by kernel_rfl
theorem ac6 (c0 c1 c2 c3 c4 c5 c6 c7 c8:V):aS (xS kk).P 57 (c0::c1::c2::c3::c4::c5::c6::c7::c8::cs)=some (.agg [c0,c1,c2,c3,c4,c5,c6,c7,c8]):=by kernel_rfl
theorem aeJ:aW (xS kk).P 57=9:=by kernel_rfl
theorem aez:aS (xS kk).P 63 (c::cs)=some c:=by kernel_rfl
theorem abT:aW (xS kk).P 63=1:=by kernel_rfl
theorem adU (c0 c1 c2 c3 c4 c5 c6 c7 c8 c9 c10:V):aS (xS kk).P 65 (c0::c1::c2::c3::c4::c5::c6::c7::c8::c9::c10::cs)=some (.agg [c0,c1,c2,c3,c4,c5,c6,c7,c8,c9,c10]):=by kernel_rfl
theorem aeg:aW (xS kk).P 65=11:=by kernel_rfl
theorem adH:aS (xS kk).P 86 (c::cs)=some c:=by kernel_rfl
theorem W9 (c0 c1:V):aS (xS kk).P 101 (c0::c1::cs)=some (.agg [c0,c1]):=by kernel_rfl
theorem YM:aW (xS kk).P 101=2:=by kernel_rfl
theorem Z0:aS (xS kk).P 116 (c::cs)=some c:=by kernel_rfl
theorem Xx (c0 c1 c2:V):aS (xS kk).P 129 (c0::c1::c2::cs)=some (.agg [c0,c1,c2]):=by kernel_rfl
theorem Z3:aW (xS kk).P 129=3:=by kernel_rfl
theorem XU:aS (xS kk).P 150 (c::cs)=some c:=by kernel_rfl
theorem aaO:aW (xS kk).P 150=1:=by kernel_rfl
theorem Xm:aW (xS kk).P 169=16:=by kernel_rfl
theorem Z7:aS (xS kk).P 170 (c::cs)=some c:=by kernel_rfl
theorem aaZ:aW (xS kk).P 170=1:=by kernel_rfl
theorem X1:aW (xS kk).P 175=6:=by kernel_rfl
theorem aan (c0 c1:V):aS (xS kk).P 194 (c0::c1::cs)=some (.agg [c0,c1]):=by kernel_rfl
theorem Yn:aW (xS kk).P 194=2:=by kernel_rfl
theorem XG:aS (xS kk).P 206 (c::cs)=some c:=by kernel_rfl
theorem aat:aS (xS kk).P 223 (c::cs)=some c:=by kernel_rfl
theorem YY:aW (xS kk).P 223=1:=by kernel_rfl
theorem WS:aW (xS kk).P 236=4:=by kernel_rfl
theorem afQ:aA (xS kk).P 1 H=some (.ptr (bK [(V.lit Value.nilFunc)] H).2.length 0 0 0,(bK [(V.lit Value.nilFunc)] H).2++[.box (bK [(V.lit Value.nilFunc)] H).1]):=by kernel_rfl
theorem ags:aA (xS kk).P 3 H=some (.ptr (bK [(V.lit (Value.int .i64 (0)))] H).2.length 0 0 0,(bK [(V.lit (Value.int .i64 (0)))] H).2++[.box (bK [(V.lit (Value.int .i64 (0)))] H).1]):=by kernel_rfl
theorem agd:aA (xS kk).P 4 H=some (.ptr (bK [(V.lit (Value.bool false))] H).2.length 0 0 0,(bK [(V.lit (Value.bool false))] H).2++[.box (bK [(V.lit (Value.bool false))] H).1]):=by kernel_rfl
theorem aff:aA (xS kk).P 26 H=some (.ptr (bK [V.nil] H).2.length 0 0 0,(bK [V.nil] H).2++[.box (bK [V.nil] H).1]):=by kernel_rfl
theorem abV:aA (xS kk).P 30 H=some (.ptr (bK [(V.lit (Value.int .i64 (0))),(V.lit (Value.int .i64 (0))),(V.lit (Value.int .i64 (0))),(V.lit (Value.int .i64 (0))),V.nil,V.nil,V.nil,V.nil] H).2.length 0 0 0,(bK [(V.lit (Value.int .i64 (0))),(V.lit (Value.int .i64 (0))),(V.lit (Value.int .i64 (0))),(V.lit (Value.int .i64 (0))),V.nil,V.nil,V.nil,V.nil] H).2++[.box (bK [(V.lit (Value.int .i64 (0))),(V.lit (Value.int .i64 (0))),(V.lit (Value.int .i64 (0))),(V.lit (Value.int .i64 (0))),V.nil,V.nil,V.nil,V.nil] H).1]):=by kernel_rfl
theorem aef:aA (xS kk).P 32 H=some (.ptr (bK [(V.lit Value.nilFunc)] H).2.length 0 0 0,(bK [(V.lit Value.nilFunc)] H).2++[.box (bK [(V.lit Value.nilFunc)] H).1]):=by kernel_rfl
theorem aeL:aA (xS kk).P 34 H=some (.ptr (bK [V.nil] H).2.length 0 0 0,(bK [V.nil] H).2++[.box (bK [V.nil] H).1]):=by kernel_rfl
theorem adc:aA (xS kk).P 48 H=some (.ptr (bK [(V.lit (Value.int .i64 (0))),(V.lit (Value.int .i64 (0))),(V.lit (Value.int .u64 (0)))] H).2.length 0 0 0,(bK [(V.lit (Value.int .i64 (0))),(V.lit (Value.int .i64 (0))),(V.lit (Value.int .u64 (0)))] H).2++[.box (bK [(V.lit (Value.int .i64 (0))),(V.lit (Value.int .i64 (0))),(V.lit (Value.int .u64 (0)))] H).1]):=by kernel_rfl
theorem acG:aA (xS kk).P 55 H=some (.ptr (bK [(V.lit (Value.int .i64 (0))),(V.lit (Value.int .i64 (0))),(V.lit (Value.int .i64 (0))),(V.lit (Value.int .u64 (0))),(V.lit (Value.int .u64 (0))),(V.lit (Value.int .u64 (0))),(V.lit (Value.int .i64 (0)))] H).2.length 0 0 0,(bK [(V.lit (Value.int .i64 (0))),(V.lit (Value.int .i64 (0))),(V.lit (Value.int .i64 (0))),(V.lit (Value.int .u64 (0))),(V.lit (Value.int .u64 (0))),(V.lit (Value.int .u64 (0))),(V.lit (Value.int .i64 (0)))] H).2++[.box (bK [(V.lit (Value.int .i64 (0))),(V.lit (Value.int .i64 (0))),(V.lit (Value.int .i64 (0))),(V.lit (Value.int .u64 (0))),(V.lit (Value.int .u64 (0))),(V.lit (Value.int .u64 (0))),(V.lit (Value.int .i64 (0)))] H).1]):=by kernel_rfl
theorem ac3:aA (xS kk).P 57 H=some (.ptr (bK [(V.lit (Value.int .i64 (0))),V.nil,(V.lit (Value.int .i64 (0))),(V.lit (Value.int .i64 (0))),(V.lit (Value.int .i64 (0))),(V.lit (Value.int .u64 (0))),(V.lit (Value.int .u64 (0))),(V.lit (Value.int .u64 (0))),(V.lit (Value.int .i64 (0)))] H).2.length 0 0 0,(bK [(V.lit (Value.int .i64 (0))),V.nil,(V.lit (Value.int .i64 (0))),(V.lit (Value.int .i64 (0))),(V.lit (Value.int .i64 (0))),(V.lit (Value.int .u64 (0))),(V.lit (Value.int .u64 (0))),(V.lit (Value.int .u64 (0))),(V.lit (Value.int .i64 (0)))] H).2++[.box (bK [(V.lit (Value.int .i64 (0))),V.nil,(V.lit (Value.int .i64 (0))),(V.lit (Value.int .i64 (0))),(V.lit (Value.int .i64 (0))),(V.lit (Value.int .u64 (0))),(V.lit (Value.int .u64 (0))),(V.lit (Value.int .u64 (0))),(V.lit (Value.int .i64 (0)))] H).1]):=by kernel_rfl
theorem ab0:aA (xS kk).P 65 H=some (.ptr (bK [(V.lit (Value.int .i64 (0))),V.nil,(V.lit (Value.int .i64 (0))),(V.lit (Value.int .i64 (0))),(V.lit (Value.int .i64 (0))),(V.lit (Value.int .u64 (0))),(V.lit (Value.int .u64 (0))),(V.lit (Value.int .u64 (0))),(V.lit (Value.int .i64 (0))),(V.lit (Value.int .i64 (0))),(V.lit (Value.int .i64 (0)))] H).2.length 0 0 0,(bK [(V.lit (Value.int .i64 (0))),V.nil,(V.lit (Value.int .i64 (0))),(V.lit (Value.int .i64 (0))),(V.lit (Value.int .i64 (0))),(V.lit (Value.int .u64 (0))),(V.lit (Value.int .u64 (0))),(V.lit (Value.int .u64 (0))),(V.lit (Value.int .i64 (0))),(V.lit (Value.int .i64 (0))),(V.lit (Value.int .i64 (0)))] H).2++[.box (bK [(V.lit (Value.int .i64 (0))),V.nil,(V.lit (Value.int .i64 (0))),(V.lit (Value.int .i64 (0))),(V.lit (Value.int .i64 (0))),(V.lit (Value.int .u64 (0))),(V.lit (Value.int .u64 (0))),(V.lit (Value.int .u64 (0))),(V.lit (Value.int .i64 (0))),(V.lit (Value.int .i64 (0))),(V.lit (Value.int .i64 (0)))] H).1]):=by kernel_rfl
theorem Z8:aA (xS kk).P 101 H=some (.ptr (bK [(V.lit (Value.int .i64 (0))),V.nil] H).2.length 0 0 0,(bK [(V.lit (Value.int .i64 (0))),V.nil] H).2++[.box (bK [(V.lit (Value.int .i64 (0))),V.nil] H).1]):=by kernel_rfl
theorem Xv:aA (xS kk).P 129 H=some (.ptr (bK [(V.lit (Value.int .i64 (0))),(V.lit (Value.int .i64 (0))),(V.lit (Value.int .i64 (0)))] H).2.length 0 0 0,(bK [(V.lit (Value.int .i64 (0))),(V.lit (Value.int .i64 (0))),(V.lit (Value.int .i64 (0)))] H).2++[.box (bK [(V.lit (Value.int .i64 (0))),(V.lit (Value.int .i64 (0))),(V.lit (Value.int .i64 (0)))] H).1]):=by kernel_rfl
theorem YN:aA (xS kk).P 150 H=some (.ptr (bK [V.nil] H).2.length 0 0 0,(bK [V.nil] H).2++[.box (bK [V.nil] H).1]):=by kernel_rfl
theorem XS:aA (xS kk).P 169 H=some (.ptr (bK [(V.lit Value.nilFunc),(V.lit Value.nilFunc),(V.lit Value.nilFunc),(V.lit Value.nilFunc),(V.lit Value.nilFunc),(V.lit Value.nilFunc),(V.lit Value.nilFunc),(V.lit Value.nilFunc),(V.lit Value.nilFunc),(V.lit Value.nilFunc),(V.lit Value.nilFunc),(V.lit Value.nilFunc),(V.lit Value.nilFunc),(V.lit Value.nilFunc),(V.lit Value.nilFunc),(V.lit Value.nilFunc)] H).2.length 0 0 0,(bK [(V.lit Value.nilFunc),(V.lit Value.nilFunc),(V.lit Value.nilFunc),(V.lit Value.nilFunc),(V.lit Value.nilFunc),(V.lit Value.nilFunc),(V.lit Value.nilFunc),(V.lit Value.nilFunc),(V.lit Value.nilFunc),(V.lit Value.nilFunc),(V.lit Value.nilFunc),(V.lit Value.nilFunc),(V.lit Value.nilFunc),(V.lit Value.nilFunc),(V.lit Value.nilFunc),(V.lit Value.nilFunc)] H).2++[.box (bK [(V.lit Value.nilFunc),(V.lit Value.nilFunc),(V.lit Value.nilFunc),(V.lit Value.nilFunc),(V.lit Value.nilFunc),(V.lit Value.nilFunc),(V.lit Value.nilFunc),(V.lit Value.nilFunc),(V.lit Value.nilFunc),(V.lit Value.nilFunc),(V.lit Value.nilFunc),(V.lit Value.nilFunc),(V.lit Value.nilFunc),(V.lit Value.nilFunc),(V.lit Value.nilFunc),(V.lit Value.nilFunc)] H).1]):=by kernel_rfl
theorem Y0:aA (xS kk).P 170 H=some (.ptr (bK [(V.lit Value.nilFunc)] H).2.length 0 0 0,(bK [(V.lit Value.nilFunc)] H).2++[.box (bK [(V.lit Value.nilFunc)] H).1]):=by kernel_rfl
theorem WI:aA (xS kk).P 175 H=some (.ptr (bK [(V.lit Value.nilFunc),(V.lit Value.nilFunc),(V.lit Value.nilFunc),(V.lit Value.nilFunc),(V.lit Value.nilFunc),(V.lit Value.nilFunc)] H).2.length 0 0 0,(bK [(V.lit Value.nilFunc),(V.lit Value.nilFunc),(V.lit Value.nilFunc),(V.lit Value.nilFunc),(V.lit Value.nilFunc),(V.lit Value.nilFunc)] H).2++[.box (bK [(V.lit Value.nilFunc),(V.lit Value.nilFunc),(V.lit Value.nilFunc),(V.lit Value.nilFunc),(V.lit Value.nilFunc),(V.lit Value.nilFunc)] H).1]):=by kernel_rfl
theorem Zj:aA (xS kk).P 194 H=some (.ptr (bK [(V.lit (Value.int .i64 (0))),(V.lit (Value.int .i64 (0)))] H).2.length 0 0 0,(bK [(V.lit (Value.int .i64 (0))),(V.lit (Value.int .i64 (0)))] H).2++[.box (bK [(V.lit (Value.int .i64 (0))),(V.lit (Value.int .i64 (0)))] H).1]):=by kernel_rfl
theorem ZH:aA (xS kk).P 223 H=some (.ptr (bK [V.nil] H).2.length 0 0 0,(bK [V.nil] H).2++[.box (bK [V.nil] H).1]):=by kernel_rfl
theorem Y2:aA (xS kk).P 236 H=some (.ptr (bK [(V.lit Value.nilFunc),(V.lit Value.nilFunc),(V.lit Value.nilFunc),(V.lit Value.nilFunc)] H).2.length 0 0 0,(bK [(V.lit Value.nilFunc),(V.lit Value.nilFunc),(V.lit Value.nilFunc),(V.lit Value.nilFunc)] H).2++[.box (bK [(V.lit Value.nilFunc),(V.lit Value.nilFunc),(V.lit Value.nilFunc),(V.lit Value.nilFunc)] H).1]):=by kernel_rfl
theorem SS (row off:Nat):aa (xS kk).P 23 (.ptr id g row off) 0=some (.ptr id g row (off+0)):=by kernel_rfl
theorem T4 (row off:Nat):aa (xS kk).P 23 (.ptr id g row off) 1=some (.ptr id g row (off+1)):=by kernel_rfl
theorem Ui (row off:Nat):aa (xS kk).P 23 (.ptr id g row off) 2=some (.ptr id g row (off+2)):=by kernel_rfl
theorem S4 (row off:Nat):aa (xS kk).P 23 (.ptr id g row off) 3=some (.ptr id g row (off+3)):=by kernel_rfl
theorem VO (row off:Nat):aa (xS kk).P 30 (.ptr id g row off) 0=some (.ptr id g row (off+0)):=by kernel_rfl
theorem SO (row off:Nat):aa (xS kk).P 30 (.ptr id g row off) 1=some (.ptr id g row (off+4)):=by kernel_rfl
theorem SX (row off:Nat):aa (xS kk).P 30 (.ptr id g row off) 2=some (.ptr id g row (off+5)):=by kernel_rfl
theorem VL (row off:Nat):aa (xS kk).P 30 (.ptr id g row off) 3=some (.ptr id g row (off+6)):=by kernel_rfl
theorem Ve (row off:Nat):aa (xS kk).P 30 (.ptr id g row off) 4=some (.ptr id g row (off+7)):=by kernel_rfl
theorem Ue (row off:Nat):aa (xS kk).P 48 (.ptr id g row off) 0=some (.ptr id g row (off+0)):=by kernel_rfl
theorem Ul (row off:Nat):aa (xS kk).P 48 (.ptr id g row off) 1=some (.ptr id g row (off+1)):=by kernel_rfl
theorem VB (row off:Nat):aa (xS kk).P 48 (.ptr id g row off) 2=some (.ptr id g row (off+2)):=by kernel_rfl
theorem VU:aa (xS kk).P 52 (.rp cs) 0=some (.rp (cs.drop 0)):=by kernel_rfl
theorem Ut (row off:Nat):aa (xS kk).P 55 (.ptr id g row off) 0=some (.ptr id g row (off+0)):=by kernel_rfl
theorem VY (row off:Nat):aa (xS kk).P 55 (.ptr id g row off) 1=some (.ptr id g row (off+1)):=by kernel_rfl
theorem U5 (row off:Nat):aa (xS kk).P 55 (.ptr id g row off) 2=some (.ptr id g row (off+2)):=by kernel_rfl
theorem UI (row off:Nat):aa (xS kk).P 55 (.ptr id g row off) 3=some (.ptr id g row (off+3)):=by kernel_rfl
theorem Ta (row off:Nat):aa (xS kk).P 55 (.ptr id g row off) 4=some (.ptr id g row (off+4)):=by kernel_rfl
theorem UG (row off:Nat):aa (xS kk).P 55 (.ptr id g row off) 5=some (.ptr id g row (off+5)):=by kernel_rfl
theorem UM (row off:Nat):aa (xS kk).P 55 (.ptr id g row off) 6=some (.ptr id g row (off+6)):=by kernel_rfl
theorem VZ:aa (xS kk).P 57 (.rp cs) 0=some (.rp (cs.drop 0)):=by kernel_rfl
theorem Vd (row off:Nat):aa (xS kk).P 57 (.ptr id g row off) 0=some (.ptr id g row (off+0)):=by kernel_rfl
theorem Vk:aa (xS kk).P 57 (.rp cs) 1=some (.rp (cs.drop 1)):=by kernel_rfl
theorem Vi (row off:Nat):aa (xS kk).P 57 (.ptr id g row off) 1=some (.ptr id g row (off+1)):=by kernel_rfl
theorem US (row off:Nat):aa (xS kk).P 57 (.ptr id g row off) 2=some (.ptr id g row (off+2)):=by kernel_rfl
theorem VV (row off:Nat):aa (xS kk).P 65 (.ptr id g row off) 0=some (.ptr id g row (off+0)):=by kernel_rfl
theorem VH:aa (xS kk).P 65 (.rp cs) 1=some (.rp (cs.drop 1)):=by kernel_rfl
theorem Ts (row off:Nat):aa (xS kk).P 65 (.ptr id g row off) 1=some (.ptr id g row (off+1)):=by kernel_rfl
theorem Tn (row off:Nat):aa (xS kk).P 65 (.ptr id g row off) 2=some (.ptr id g row (off+2)):=by kernel_rfl
theorem UB (row off:Nat):aa (xS kk).P 65 (.ptr id g row off) 3=some (.ptr id g row (off+9)):=by kernel_rfl
theorem Va (row off:Nat):aa (xS kk).P 65 (.ptr id g row off) 4=some (.ptr id g row (off+10)):=by kernel_rfl
theorem N0 (row off:Nat):aa (xS kk).P 101 (.ptr id g row off) 0=some (.ptr id g row (off+0)):=by kernel_rfl
theorem Q0:aa (xS kk).P 101 (.rp cs) 1=some (.rp (cs.drop 1)):=by kernel_rfl
theorem Ou (row off:Nat):aa (xS kk).P 101 (.ptr id g row off) 1=some (.ptr id g row (off+1)):=by kernel_rfl
theorem O2 (row off:Nat):aa (xS kk).P 129 (.ptr id g row off) 0=some (.ptr id g row (off+0)):=by kernel_rfl
theorem Qe (row off:Nat):aa (xS kk).P 129 (.ptr id g row off) 1=some (.ptr id g row (off+1)):=by kernel_rfl
theorem PD (row off:Nat):aa (xS kk).P 129 (.ptr id g row off) 2=some (.ptr id g row (off+2)):=by kernel_rfl
theorem OB (row off:Nat):aa (xS kk).P 168 (.ptr id g row off) 0=some (.ptr id g row (off+0)):=by kernel_rfl
theorem Pq (row off:Nat):aa (xS kk).P 168 (.ptr id g row off) 1=some (.ptr id g row (off+11)):=by kernel_rfl
theorem Q5 (row off:Nat):aa (xS kk).P 168 (.ptr id g row off) 2=some (.ptr id g row (off+15)):=by kernel_rfl
theorem QS (row off:Nat):aa (xS kk).P 168 (.ptr id g row off) 3=some (.ptr id g row (off+16)):=by kernel_rfl
theorem Ot (row off:Nat):aa (xS kk).P 168 (.ptr id g row off) 4=some (.ptr id g row (off+17)):=by kernel_rfl
theorem QQ (row off:Nat):aa (xS kk).P 168 (.ptr id g row off) 5=some (.ptr id g row (off+18)):=by kernel_rfl
theorem Pz (row off:Nat):aa (xS kk).P 168 (.ptr id g row off) 6=some (.ptr id g row (off+19)):=by kernel_rfl
theorem NM (row off:Nat):aa (xS kk).P 194 (.ptr id g row off) 0=some (.ptr id g row (off+0)):=by kernel_rfl
theorem Qd (row off:Nat):aa (xS kk).P 194 (.ptr id g row off) 1=some (.ptr id g row (off+1)):=by kernel_rfl
theorem QR (row off:Nat):aa (xS kk).P 205 (.ptr id g row off) 0=some (.ptr id g row (off+0)):=by kernel_rfl
theorem OK (row off:Nat):aa (xS kk).P 205 (.ptr id g row off) 1=some (.ptr id g row (off+7)):=by kernel_rfl
theorem On (row off:Nat):aa (xS kk).P 205 (.ptr id g row off) 2=some (.ptr id g row (off+11)):=by kernel_rfl
theorem QJ (row off:Nat):aa (xS kk).P 221 (.ptr id g row off) 0=some (.ptr id g row (off+0)):=by kernel_rfl
theorem N7 (row off:Nat):aa (xS kk).P 221 (.ptr id g row off) 1=some (.ptr id g row (off+7)):=by kernel_rfl
theorem Oo (row off:Nat):aa (xS kk).P 221 (.ptr id g row off) 2=some (.ptr id g row (off+11)):=by kernel_rfl
theorem N1 (row off:Nat):aa (xS kk).P 235 (.ptr id g row off) 0=some (.ptr id g row (off+0)):=by kernel_rfl
theorem OD (row off:Nat):aa (xS kk).P 235 (.ptr id g row off) 1=some (.ptr id g row (off+7)):=by kernel_rfl
theorem PT (row off:Nat):aa (xS kk).P 235 (.ptr id g row off) 2=some (.ptr id g row (off+11)):=by kernel_rfl
theorem Pw:wj (xS kk).P 194 (.agg cs) 0=aS (xS kk).P 3 (cs.drop 0):=by kernel_rfl
theorem ac4 (l:Tyt):al (xS kk).P 24 (.ro (l.map ap)) (.lit (.int k n)) H=(idx l n).map fun x => .rp (ap x):=cy (e:=101) (by kernel_rfl) (fun x=>(by kernel_rfl:(ap x).length=aW (xS kk).P 101)) (by kernel_rfl)
theorem acJ:al (xS kk).P 24 (.own id g len) (.lit (.int k n)) H=ixB 2 g len id n (H[id]?):=b7 (P:=(xS kk).P) (e:=101) (by kernel_rfl) (by kernel_rfl)
theorem ado (l:List Int):al (xS kk).P 26 (.ro (l.map (aQ .u64))) (.lit (.int k n)) H=(idx l n).map fun x => .rp ((aQ .u64) x):=cy (e:=46) (by kernel_rfl) (fun x=>(by kernel_rfl:((aQ .u64) x).length=aW (xS kk).P 46)) (by kernel_rfl)
theorem ab1:al (xS kk).P 26 (.own id g len) (.lit (.int k n)) H=ixB 1 g len id n (H[id]?):=b7 (P:=(xS kk).P) (e:=46) (by kernel_rfl) (by kernel_rfl)
theorem aeH (l:List Tyw):al (xS kk).P 27 (.ro (l.map aZ)) (.lit (.int k n)) H=(idx l n).map fun x => .rp (aZ x):=cy (e:=65) (by kernel_rfl) (fun x=>(by kernel_rfl:(aZ x).length=aW (xS kk).P 65)) (by kernel_rfl)
theorem aet:al (xS kk).P 27 (.own id g len) (.lit (.int k n)) H=ixB 11 g len id n (H[id]?):=b7 (P:=(xS kk).P) (e:=65) (by kernel_rfl) (by kernel_rfl)
theorem acg (l:List Tys):al (xS kk).P 28 (.ro (l.map dh)) (.lit (.int k n)) H=(idx l n).map fun x => .rp (dh x):=cy (e:=57) (by kernel_rfl) (fun x=>(by kernel_rfl:(dh x).length=aW (xS kk).P 57)) (by kernel_rfl)
theorem acB:al (xS kk).P 28 (.own id g len) (.lit (.int k n)) H=ixB 9 g len id n (H[id]?):=b7 (P:=(xS kk).P) (e:=57) (by kernel_rfl) (by kernel_rfl)
theorem afa (l:Tye):al (xS kk).P 31 (.ro (l.map ga)) (.lit (.int k n)) H=(idx l n).map fun x => .rp (ga x):=cy (e:=48) (by kernel_rfl) (fun x=>(by kernel_rfl:(ga x).length=aW (xS kk).P 48)) (by kernel_rfl)
theorem aeh (l:Tye):al (xS kk).P 34 (.ro (l.map a8)) (.lit (.int k n)) H=(idx l n).map fun x => .rp (a8 x):=cy (e:=52) (by kernel_rfl) (fun x=>(by kernel_rfl:(a8 x).length=aW (xS kk).P 52)) (by kernel_rfl)
theorem abN (l:List (List Int)):al (xS kk).P 40 (.ro (l.map fQ)) (.lit (.int k n)) H=(idx l n).map fun x => .rp (fQ x):=cy (e:=53) (by kernel_rfl) (fun x=>(by kernel_rfl:(fQ x).length=aW (xS kk).P 53)) (by kernel_rfl)
theorem afc (l:List Int):al (xS kk).P 53 (.ro (l.map (aQ .i64))) (.lit (.int k n)) H=(idx l n).map fun x => .rp ((aQ .i64) x):=cy (e:=3) (by kernel_rfl) (fun x=>(by kernel_rfl:((aQ .i64) x).length=aW (xS kk).P 3)) (by kernel_rfl)
theorem aeB (l:Tye):al (xS kk).P 63 (.ro (l.map a8)) (.lit (.int k n)) H=(idx l n).map fun x => .rp (a8 x):=cy (e:=129) (by kernel_rfl) (fun x=>(by kernel_rfl:(a8 x).length=aW (xS kk).P 129)) (by kernel_rfl)
theorem ada:al (xS kk).P 63 (.own id g len) (.lit (.int k n)) H=ixB 3 g len id n (H[id]?):=b7 (P:=(xS kk).P) (e:=129) (by kernel_rfl) (by kernel_rfl)
theorem Yh:al (xS kk).P 150 (.own id g len) (.lit (.int k n)) H=ixB 1 g len id n (H[id]?):=b7 (P:=(xS kk).P) (e:=4) (by kernel_rfl) (by kernel_rfl)
theorem Xn:al (xS kk).P 207 (.own id g len) (.lit (.int k n)) H=ixB 1 g len id n (H[id]?):=b7 (P:=(xS kk).P) (e:=206) (by kernel_rfl) (by kernel_rfl)
theorem aa5:al (xS kk).P 223 (.own id g len) (.lit (.int k n)) H=ixB 1 g len id n (H[id]?):=b7 (P:=(xS kk).P) (e:=116) (by kernel_rfl) (by kernel_rfl)
theorem XO:al (xS kk).P 238 (.own id g len) (.lit (.int k n)) H=ixB 1 g len id n (H[id]?):=b7 (P:=(xS kk).P) (e:=1) (by kernel_rfl) (by kernel_rfl)
theorem Zt:bw (xS kk).P 24 x H=(Ac x H).map fun v=>(v,H):=by kernel_rfl
theorem Zf:bw (xS kk).P 25 x H=(Ac x H).map fun v=>(v,H):=by kernel_rfl
theorem aaU:bw (xS kk).P 26 x H=(Ac x H).map fun v=>(v,H):=by kernel_rfl
theorem Xl:bw (xS kk).P 27 x H=(Ac x H).map fun v=>(v,H):=by kernel_rfl
theorem Y1:bw (xS kk).P 28 x H=(Ac x H).map fun v=>(v,H):=by kernel_rfl
theorem Yr:bw (xS kk).P 31 x H=(Ac x H).map fun v=>(v,H):=by kernel_rfl
theorem YH:bw (xS kk).P 34 x H=(Ac x H).map fun v=>(v,H):=by kernel_rfl
theorem aaS:bw (xS kk).P 40 x H=(Ac x H).map fun v=>(v,H):=by kernel_rfl
theorem XJ:bw (xS kk).P 53 x H=(Ac x H).map fun v=>(v,H):=by kernel_rfl
theorem abc:bw (xS kk).P 63 x H=(Ac x H).map fun v=>(v,H):=by kernel_rfl
theorem TI:bw (xS kk).P 207 x H=(Ac x H).map fun v=>(v,H):=by kernel_rfl
theorem UT:bw (xS kk).P 238 x H=(Ac x H).map fun v=>(v,H):=by kernel_rfl
theorem QY:ng (xS kk).P wl 25 25 s x H=cN (xS kk).P wl 25 s x H:=by kernel_rfl
theorem Oh:cN (xS kk).P wl 25 (.own id g len) x H=(dG x H).bind fun xs=>bif fb 1 xs then apB wl 46 1 8 id g len xs H (H[id]?) else none:=(fu (P:=(xS kk).P) (t:=25) (e:=46) (by kernel_rfl) (by kernel_rfl)).trans (by kernel_rfl)
theorem Qa:ng (xS kk).P wl 26 26 s x H=cN (xS kk).P wl 26 s x H:=by kernel_rfl
theorem NP:cN (xS kk).P wl 26 (.own id g len) x H=(dG x H).bind fun xs=>bif fb 1 xs then apB wl 46 1 8 id g len xs H (H[id]?) else none:=(fu (P:=(xS kk).P) (t:=26) (e:=46) (by kernel_rfl) (by kernel_rfl)).trans (by kernel_rfl)
theorem NU:ng (xS kk).P wl 27 27 s x H=cN (xS kk).P wl 27 s x H:=by kernel_rfl
theorem Of:cN (xS kk).P wl 27 (.own id g len) x H=(dG x H).bind fun xs=>bif fb 11 xs then apB wl 65 11 104 id g len xs H (H[id]?) else none:=(fu (P:=(xS kk).P) (t:=27) (e:=65) (by kernel_rfl) (by kernel_rfl)).trans (by kernel_rfl)
theorem Ov:ng (xS kk).P wl 28 28 s x H=cN (xS kk).P wl 28 s x H:=by kernel_rfl
theorem Qi:cN (xS kk).P wl 28 (.own id g len) x H=(dG x H).bind fun xs=>bif fb 9 xs then apB wl 57 9 88 id g len xs H (H[id]?) else none:=(fu (P:=(xS kk).P) (t:=28) (e:=57) (by kernel_rfl) (by kernel_rfl)).trans (by kernel_rfl)
theorem Qo:ng (xS kk).P wl 34 34 s x H=cN (xS kk).P wl 34 s x H:=by kernel_rfl
theorem PP:cN (xS kk).P wl 34 (.own id g len) x H=(dG x H).bind fun xs=>bif fb 3 xs then apB wl 52 3 24 id g len xs H (H[id]?) else none:=(fu (P:=(xS kk).P) (t:=34) (e:=52) (by kernel_rfl) (by kernel_rfl)).trans (by kernel_rfl)
theorem PG:ng (xS kk).P wl 53 53 s x H=cN (xS kk).P wl 53 s x H:=by kernel_rfl
theorem Pu:cN (xS kk).P wl 53 (.own id g len) x H=(dG x H).bind fun xs=>bif fb 1 xs then apB wl 3 1 8 id g len xs H (H[id]?) else none:=(fu (P:=(xS kk).P) (t:=53) (e:=3) (by kernel_rfl) (by kernel_rfl)).trans (by kernel_rfl)
theorem Q3:ng (xS kk).P wl 63 63 s x H=cN (xS kk).P wl 63 s x H:=by kernel_rfl
theorem Oa:cN (xS kk).P wl 63 (.own id g len) x H=(dG x H).bind fun xs=>bif fb 3 xs then apB wl 129 3 24 id g len xs H (H[id]?) else none:=(fu (P:=(xS kk).P) (t:=63) (e:=129) (by kernel_rfl) (by kernel_rfl)).trans (by kernel_rfl)
theorem adG (c:Bool) (l:List Int):gC (xS kk).P wl c 53 (.ro (l.map (aQ .i64))) (some (.lit (.int k n))) none none H=bif decide (0≤n∧n≤l.length) then some (.ro ((l.drop n.toNat).map (aQ .i64)),H) else none:=LX (P:=(xS kk).P) (e:=3) (by kernel_rfl) (by kernel_rfl) (fun x=>(by kernel_rfl:((aQ .i64) x).length=aW (xS kk).P 3))
theorem acI (c:Bool):gC (xS kk).P wl c 63 (.own id g len) none (some (.lit (.int k n))) none H=slB g len id n H (H[id]?):=Jp (P:=(xS kk).P) (e:=129) (by kernel_rfl) (by kernel_rfl)
theorem Ya:ba (xS kk).P 150 (.lit (.int .i64 n)) (.lit (.int .i64 n)) H=bif decide (0≤n∧n≤9223372036854775807∧n*1≤70368744177664) then some (.own H.length 0 n.toNat,H++[.rows 1 (List.replicate n.toNat [(V.lit (Value.bool false))]) 0 true]) else none:=BM (P:=(xS kk).P) (t:=150) (e:=4) (z:=((eQ (xS kk).P 4).getD default)) (by kernel_rfl) (by kernel_rfl) (by kernel_rfl) (by kernel_rfl)
theorem UQ:gB (xS kk).P 3 46 (.lit (.int k n))=some (.lit (.int .u64 (IntKind.wrap .u64 n))):=by kernel_rfl
theorem TE:gB (xS kk).P 46 3 (.lit (.int k n))=some (.lit (.int .i64 (IntKind.wrap .i64 n))):=by kernel_rfl
theorem ade (a0 b0:Int) (a1 b1:Int) (a2 b2:Int) (a3 b3:Int):az (xS kk).P .eql 23 (.agg [.lit (.int .i64 a0),.lit (.int .i64 a1),.lit (.int .i64 a2),.lit (.int .i64 a3)]) (.agg [.lit (.int .i64 b0),.lit (.int .i64 b1),.lit (.int .i64 b2),.lit (.int .i64 b3)])=some (.lit (.bool ((a0==b0)&&((a1==b1)&&((a2==b2)&&((a3==b3)&&true)))))):=by kernel_rfl
theorem acS (a0 b0:Int) (a1 b1:Int) (a2 b2:Int):az (xS kk).P .neq 52 (.agg [.lit (.int .i64 a0),.lit (.int .i64 a1),.lit (.int .i64 a2)]) (.agg [.lit (.int .i64 b0),.lit (.int .i64 b1),.lit (.int .i64 b2)])=some (.lit (.bool (!((a0==b0)&&((a1==b1)&&((a2==b2)&&true)))))):=by kernel_rfl
theorem aeU (a0 b0:Int) (a1 b1:Int) (a2 b2:Int) (a3 b3:Int) (a4 b4:Int) (a5 b5:Int) (a6 b6:Int):az (xS kk).P .eql 55 (.agg [.lit (.int .i64 a0),.lit (.int .i64 a1),.lit (.int .i64 a2),.lit (.int .u64 a3),.lit (.int .u64 a4),.lit (.int .u64 a5),.lit (.int .i64 a6)]) (.agg [.lit (.int .i64 b0),.lit (.int .i64 b1),.lit (.int .i64 b2),.lit (.int .u64 b3),.lit (.int .u64 b4),.lit (.int .u64 b5),.lit (.int .i64 b6)])=some (.lit (.bool ((a0==b0)&&((a1==b1)&&((a2==b2)&&((a3==b3)&&((a4==b4)&&((a5==b5)&&((a6==b6)&&true))))))))):=by kernel_rfl
theorem YC (a0 b0:Int) (a1 b1:Int) (a2 b2:Int):az (xS kk).P .neq 129 (.agg [.lit (.int .i64 a0),.lit (.int .i64 a1),.lit (.int .i64 a2)]) (.agg [.lit (.int .i64 b0),.lit (.int .i64 b1),.lit (.int .i64 b2)])=some (.lit (.bool (!((a0==b0)&&((a1==b1)&&((a2==b2)&&true)))))):=by kernel_rfl
theorem FJ (c0 c1 c2:V):bc (xS kk).P 23 [(0,c0),(1,c1),(2,c2)]=(pW [(V.lit (Value.int .i64 (0))),(V.lit (Value.int .i64 (0))),(V.lit (Value.int .i64 (0))),(V.lit (Value.int .i64 (0)))] [(0,1,c0),(1,1,c1),(2,1,c2)]).map .agg:=by kernel_rfl
theorem Zw:bc (xS kk).P 30 []=(pW [(V.lit (Value.int .i64 (0))),(V.lit (Value.int .i64 (0))),(V.lit (Value.int .i64 (0))),(V.lit (Value.int .i64 (0))),V.nil,V.nil,V.nil,V.nil] []).map .agg:=by kernel_rfl
theorem Gb (c0 c1 c2:V):bc (xS kk).P 30 [(0,c0),(1,c1),(2,c2)]=(pW [(V.lit (Value.int .i64 (0))),(V.lit (Value.int .i64 (0))),(V.lit (Value.int .i64 (0))),(V.lit (Value.int .i64 (0))),V.nil,V.nil,V.nil,V.nil] [(0,4,c0),(4,1,c1),(5,1,c2)]).map .agg:=by kernel_rfl
theorem Yb:bc (xS kk).P 48 []=(pW [(V.lit (Value.int .i64 (0))),(V.lit (Value.int .i64 (0))),(V.lit (Value.int .u64 (0)))] []).map .agg:=by kernel_rfl
theorem Wv (c0:V):bc (xS kk).P 48 [(0,c0)]=(pW [(V.lit (Value.int .i64 (0))),(V.lit (Value.int .i64 (0))),(V.lit (Value.int .u64 (0)))] [(0,1,c0)]).map .agg:=by kernel_rfl
theorem F8 (c0 c1 c2:V):bc (xS kk).P 52 [(0,c0),(1,c1),(2,c2)]=(pW [(V.lit (Value.int .i64 (0))),(V.lit (Value.int .i64 (0))),(V.lit (Value.int .i64 (0)))] [(0,1,c0),(1,1,c1),(2,1,c2)]).map .agg:=by kernel_rfl
theorem Y8:bc (xS kk).P 55 []=(pW [(V.lit (Value.int .i64 (0))),(V.lit (Value.int .i64 (0))),(V.lit (Value.int .i64 (0))),(V.lit (Value.int .u64 (0))),(V.lit (Value.int .u64 (0))),(V.lit (Value.int .u64 (0))),(V.lit (Value.int .i64 (0)))] []).map .agg:=by kernel_rfl
theorem Fu (c0 c1 c2:V):bc (xS kk).P 55 [(0,c0),(2,c1),(3,c2)]=(pW [(V.lit (Value.int .i64 (0))),(V.lit (Value.int .i64 (0))),(V.lit (Value.int .i64 (0))),(V.lit (Value.int .u64 (0))),(V.lit (Value.int .u64 (0))),(V.lit (Value.int .u64 (0))),(V.lit (Value.int .i64 (0)))] [(0,1,c0),(2,1,c1),(3,1,c2)]).map .agg:=by kernel_rfl
theorem CH (c0 c1 c2 c3:V):bc (xS kk).P 55 [(0,c0),(2,c1),(3,c2),(6,c3)]=(pW [(V.lit (Value.int .i64 (0))),(V.lit (Value.int .i64 (0))),(V.lit (Value.int .i64 (0))),(V.lit (Value.int .u64 (0))),(V.lit (Value.int .u64 (0))),(V.lit (Value.int .u64 (0))),(V.lit (Value.int .i64 (0)))] [(0,1,c0),(2,1,c1),(3,1,c2),(6,1,c3)]).map .agg:=by kernel_rfl
theorem Gn (c0 c1 c2:V):bc (xS kk).P 57 [(0,c0),(1,c1),(2,c2)]=(pW [(V.lit (Value.int .i64 (0))),V.nil,(V.lit (Value.int .i64 (0))),(V.lit (Value.int .i64 (0))),(V.lit (Value.int .i64 (0))),(V.lit (Value.int .u64 (0))),(V.lit (Value.int .u64 (0))),(V.lit (Value.int .u64 (0))),(V.lit (Value.int .i64 (0)))] [(0,1,c0),(1,1,c1),(2,7,c2)]).map .agg:=by kernel_rfl
theorem Ww (c0:V):bc (xS kk).P 57 [(1,c0)]=(pW [(V.lit (Value.int .i64 (0))),V.nil,(V.lit (Value.int .i64 (0))),(V.lit (Value.int .i64 (0))),(V.lit (Value.int .i64 (0))),(V.lit (Value.int .u64 (0))),(V.lit (Value.int .u64 (0))),(V.lit (Value.int .u64 (0))),(V.lit (Value.int .i64 (0)))] [(1,1,c0)]).map .agg:=by kernel_rfl
theorem Uu (c0:V):bc (xS kk).P 65 [(2,c0)]=(pW [(V.lit (Value.int .i64 (0))),V.nil,(V.lit (Value.int .i64 (0))),(V.lit (Value.int .i64 (0))),(V.lit (Value.int .i64 (0))),(V.lit (Value.int .u64 (0))),(V.lit (Value.int .u64 (0))),(V.lit (Value.int .u64 (0))),(V.lit (Value.int .i64 (0))),(V.lit (Value.int .i64 (0))),(V.lit (Value.int .i64 (0)))] [(2,7,c0)]).map .agg:=by kernel_rfl
theorem Pi (c0:V):bc (xS kk).P 129 [(0,c0)]=(pW [(V.lit (Value.int .i64 (0))),(V.lit (Value.int .i64 (0))),(V.lit (Value.int .i64 (0)))] [(0,1,c0)]).map .agg:=by kernel_rfl
theorem oU (c0 c1 c2 c3 c4 c5:V):bc (xS kk).P 168 [(0,c0),(1,c1),(2,c2),(3,c3),(4,c4),(5,c5)]=(pW [(V.lit (Value.int .i64 (0))),V.nil,(V.lit (Value.int .i64 (0))),(V.lit (Value.int .i64 (0))),(V.lit (Value.int .i64 (0))),(V.lit (Value.int .u64 (0))),(V.lit (Value.int .u64 (0))),(V.lit (Value.int .u64 (0))),(V.lit (Value.int .i64 (0))),(V.lit (Value.int .i64 (0))),(V.lit (Value.int .i64 (0))),(V.lit (Value.int .i64 (0))),(V.lit (Value.int .i64 (0))),(V.lit (Value.int .i64 (0))),(V.lit (Value.int .i64 (0))),V.nil,V.nil,(V.lit (Value.int .i64 (0))),(V.lit (Value.int .u64 (0))),V.nil] [(0,11,c0),(11,4,c1),(15,1,c2),(16,1,c3),(17,1,c4),(18,1,c5)]).map .agg:=by kernel_rfl
theorem dC (c0 c1 c2 c3 c4 c5 c6 c7 c8 c9 c10 c11 c12 c13 c14 c15:V):bc (xS kk).P 169 [(0,c0),(1,c1),(2,c2),(3,c3),(4,c4),(5,c5),(6,c6),(7,c7),(8,c8),(9,c9),(10,c10),(11,c11),(12,c12),(13,c13),(14,c14),(15,c15)]=(pW [(V.lit Value.nilFunc),(V.lit Value.nilFunc),(V.lit Value.nilFunc),(V.lit Value.nilFunc),(V.lit Value.nilFunc),(V.lit Value.nilFunc),(V.lit Value.nilFunc),(V.lit Value.nilFunc),(V.lit Value.nilFunc),(V.lit Value.nilFunc),(V.lit Value.nilFunc),(V.lit Value.nilFunc),(V.lit Value.nilFunc),(V.lit Value.nilFunc),(V.lit Value.nilFunc),(V.lit Value.nilFunc)] [(0,1,c0),(1,1,c1),(2,1,c2),(3,1,c3),(4,1,c4),(5,1,c5),(6,1,c6),(7,1,c7),(8,1,c8),(9,1,c9),(10,1,c10),(11,1,c11),(12,1,c12),(13,1,c13),(14,1,c14),(15,1,c15)]).map .agg:=by kernel_rfl
theorem oC (c0 c1 c2 c3 c4 c5:V):bc (xS kk).P 175 [(0,c0),(1,c1),(2,c2),(3,c3),(4,c4),(5,c5)]=(pW [(V.lit Value.nilFunc),(V.lit Value.nilFunc),(V.lit Value.nilFunc),(V.lit Value.nilFunc),(V.lit Value.nilFunc),(V.lit Value.nilFunc)] [(0,1,c0),(1,1,c1),(2,1,c2),(3,1,c3),(4,1,c4),(5,1,c5)]).map .agg:=by kernel_rfl
theorem V7:bc (xS kk).P 194 []=(pW [(V.lit (Value.int .i64 (0))),(V.lit (Value.int .i64 (0)))] []).map .agg:=by kernel_rfl
theorem JV (c0 c1:V):bc (xS kk).P 194 [(0,c0),(1,c1)]=(pW [(V.lit (Value.int .i64 (0))),(V.lit (Value.int .i64 (0)))] [(0,1,c0),(1,1,c1)]).map .agg:=by kernel_rfl
theorem EH (c0 c1 c2:V):bc (xS kk).P 205 [(0,c0),(1,c1),(2,c2)]=(pW [(V.lit (Value.int .i64 (0))),(V.lit (Value.int .i64 (0))),(V.lit (Value.int .i64 (0))),(V.lit (Value.int .u64 (0))),(V.lit (Value.int .u64 (0))),(V.lit (Value.int .u64 (0))),(V.lit (Value.int .i64 (0))),(V.lit (Value.int .i64 (0))),(V.lit (Value.int .i64 (0))),(V.lit (Value.int .i64 (0))),(V.lit (Value.int .i64 (0))),V.nil] [(0,7,c0),(7,4,c1),(11,1,c2)]).map .agg:=by kernel_rfl
theorem Dj (c0 c1 c2:V):bc (xS kk).P 221 [(0,c0),(1,c1),(2,c2)]=(pW [(V.lit (Value.int .i64 (0))),(V.lit (Value.int .i64 (0))),(V.lit (Value.int .i64 (0))),(V.lit (Value.int .u64 (0))),(V.lit (Value.int .u64 (0))),(V.lit (Value.int .u64 (0))),(V.lit (Value.int .i64 (0))),(V.lit (Value.int .i64 (0))),(V.lit (Value.int .i64 (0))),(V.lit (Value.int .i64 (0))),(V.lit (Value.int .i64 (0))),V.nil] [(0,7,c0),(7,4,c1),(11,1,c2)]).map .agg:=by kernel_rfl
theorem Dd (c0 c1 c2:V):bc (xS kk).P 235 [(0,c0),(1,c1),(2,c2)]=(pW [(V.lit (Value.int .i64 (0))),(V.lit (Value.int .i64 (0))),(V.lit (Value.int .i64 (0))),(V.lit (Value.int .u64 (0))),(V.lit (Value.int .u64 (0))),(V.lit (Value.int .u64 (0))),(V.lit (Value.int .i64 (0))),(V.lit (Value.int .i64 (0))),(V.lit (Value.int .i64 (0))),(V.lit (Value.int .i64 (0))),(V.lit (Value.int .i64 (0))),V.nil] [(0,7,c0),(7,4,c1),(11,1,c2)]).map .agg:=by kernel_rfl
theorem Ah (c0 c1 c2 c3:V):bc (xS kk).P 236 [(0,c0),(1,c1),(2,c2),(3,c3)]=(pW [(V.lit Value.nilFunc),(V.lit Value.nilFunc),(V.lit Value.nilFunc),(V.lit Value.nilFunc)] [(0,1,c0),(1,1,c1),(2,1,c2),(3,1,c3)]).map .agg:=by kernel_rfl
theorem SN (l:List (Nat×V)):aK (xS kk).P wl 25 1 l H=(gL wl 1 l [[(V.lit (Value.int .u64 (0)))]] H).bind fun p=>some (.own p.2.length 0 1,p.2++[.rows 1 p.1 0 true]):=by kernel_rfl
theorem Uq (l:List (Nat×V)):aK (xS kk).P wl 26 1 l H=(gL wl 1 l [[(V.lit (Value.int .u64 (0)))]] H).bind fun p=>some (.own p.2.length 0 1,p.2++[.rows 1 p.1 0 true]):=by kernel_rfl
theorem Tg (l:List (Nat×V)):aK (xS kk).P wl 27 1 l H=(gL wl 11 l [[(V.lit (Value.int .i64 (0))),V.ro [],(V.lit (Value.int .i64 (0))),(V.lit (Value.int .i64 (0))),(V.lit (Value.int .i64 (0))),(V.lit (Value.int .u64 (0))),(V.lit (Value.int .u64 (0))),(V.lit (Value.int .u64 (0))),(V.lit (Value.int .i64 (0))),(V.lit (Value.int .i64 (0))),(V.lit (Value.int .i64 (0)))]] H).bind fun p=>some (.own p.2.length 0 1,p.2++[.rows 11 p.1 0 true]):=by kernel_rfl
theorem Tw (l:List (Nat×V)):aK (xS kk).P wl 28 1 l H=(gL wl 9 l [[(V.lit (Value.int .i64 (0))),V.ro [],(V.lit (Value.int .i64 (0))),(V.lit (Value.int .i64 (0))),(V.lit (Value.int .i64 (0))),(V.lit (Value.int .u64 (0))),(V.lit (Value.int .u64 (0))),(V.lit (Value.int .u64 (0))),(V.lit (Value.int .i64 (0)))]] H).bind fun p=>some (.own p.2.length 0 1,p.2++[.rows 9 p.1 0 true]):=by kernel_rfl
theorem Vr (l:List (Nat×V)):aK (xS kk).P wl 31 1 l H=(gL wl 3 l [[(V.lit (Value.int .i64 (0))),(V.lit (Value.int .i64 (0))),(V.lit (Value.int .u64 (0)))]] H).bind fun p=>some (.own p.2.length 0 1,p.2++[.rows 3 p.1 0 true]):=by kernel_rfl
theorem T8 (l:List (Nat×V)):aK (xS kk).P wl 31 2 l H=(gL wl 3 l [[(V.lit (Value.int .i64 (0))),(V.lit (Value.int .i64 (0))),(V.lit (Value.int .u64 (0)))],[(V.lit (Value.int .i64 (0))),(V.lit (Value.int .i64 (0))),(V.lit (Value.int .u64 (0)))]] H).bind fun p=>some (.own p.2.length 0 2,p.2++[.rows 3 p.1 0 true]):=by kernel_rfl
theorem Vu (l:List (Nat×V)):aK (xS kk).P wl 34 1 l H=(gL wl 3 l [[(V.lit (Value.int .i64 (0))),(V.lit (Value.int .i64 (0))),(V.lit (Value.int .i64 (0)))]] H).bind fun p=>some (.own p.2.length 0 1,p.2++[.rows 3 p.1 0 true]):=by kernel_rfl
theorem Ud (l:List (Nat×V)):aK (xS kk).P wl 53 1 l H=(gL wl 1 l [[(V.lit (Value.int .i64 (0)))]] H).bind fun p=>some (.own p.2.length 0 1,p.2++[.rows 1 p.1 0 true]):=by kernel_rfl
theorem Tj (l:List (Nat×V)):aK (xS kk).P wl 53 5 l H=(gL wl 1 l [[(V.lit (Value.int .i64 (0)))],[(V.lit (Value.int .i64 (0)))],[(V.lit (Value.int .i64 (0)))],[(V.lit (Value.int .i64 (0)))],[(V.lit (Value.int .i64 (0)))]] H).bind fun p=>some (.own p.2.length 0 5,p.2++[.rows 1 p.1 0 true]):=by kernel_rfl
theorem UH (l:List (Nat×V)):aK (xS kk).P wl 63 1 l H=(gL wl 3 l [[(V.lit (Value.int .i64 (0))),(V.lit (Value.int .i64 (0))),(V.lit (Value.int .i64 (0)))]] H).bind fun p=>some (.own p.2.length 0 1,p.2++[.rows 3 p.1 0 true]):=by kernel_rfl
theorem Qv (l:List (Nat×V)):aK (xS kk).P wl 207 5 l H=(gL wl 1 l [[(V.lit Value.nilFunc)],[(V.lit Value.nilFunc)],[(V.lit Value.nilFunc)],[(V.lit Value.nilFunc)],[(V.lit Value.nilFunc)]] H).bind fun p=>some (.own p.2.length 0 5,p.2++[.rows 1 p.1 0 true]):=by kernel_rfl
theorem Pd (l:List (Nat×V)):aK (xS kk).P wl 223 5 l H=(gL wl 1 l [[(V.lit Value.nilFunc)],[(V.lit Value.nilFunc)],[(V.lit Value.nilFunc)],[(V.lit Value.nilFunc)],[(V.lit Value.nilFunc)]] H).bind fun p=>some (.own p.2.length 0 5,p.2++[.rows 1 p.1 0 true]):=by kernel_rfl
theorem Pp (l:List (Nat×V)):aK (xS kk).P wl 238 4 l H=(gL wl 1 l [[(V.lit Value.nilFunc)],[(V.lit Value.nilFunc)],[(V.lit Value.nilFunc)],[(V.lit Value.nilFunc)]] H).bind fun p=>some (.own p.2.length 0 4,p.2++[.rows 1 p.1 0 true]):=by kernel_rfl
theorem Zs (v:V):ej (xS kk).P wl 138 (.map id) (.lit (.int .i64 n)) v H=inB wl .i64 id n v H (H[id]?):=by kernel_rfl
theorem XA (ok:Bool):fH (xS kk).P 138 (.map id) (.lit (.int .i64 n)) ok H=lkB .i64 (V.lit Value.nilFunc) ok n (H[id]?):=by kernel_rfl
theorem Yc (v:V):ej (xS kk).P wl 201 (.map id) (.lit (.int .i64 n)) v H=inB wl .i64 id n v H (H[id]?):=by kernel_rfl
theorem Xo (ok:Bool):fH (xS kk).P 201 (.map id) (.lit (.int .i64 n)) ok H=lkB .i64 (V.lit Value.nilFunc) ok n (H[id]?):=by kernel_rfl
theorem XP (v:V):ej (xS kk).P wl 212 (.map id) (.lit (.int .i64 n)) v H=inB wl .i64 id n v H (H[id]?):=by kernel_rfl
theorem ZZ (ok:Bool):fH (xS kk).P 212 (.map id) (.lit (.int .i64 n)) ok H=lkB .i64 (V.lit Value.nilFunc) ok n (H[id]?):=by kernel_rfl
theorem YS (row off:Nat):al (xS kk).P 169 (.ptr id g row off) (.lit (.int k n)) H=arC id g row [(0,off),(1,off+1),(2,off+2),(3,off+3),(4,off+4),(5,off+5),(6,off+6),(7,off+7),(8,off+8),(9,off+9),(10,off+10),(11,off+11),(12,off+12),(13,off+13),(14,off+14),(15,off+15)] n:=MA (e:=1) (len:=16) (sz:=1) (by kernel_rfl) (by kernel_rfl) (by decide)
theorem Yo (row off:Nat):al (xS kk).P 175 (.ptr id g row off) (.lit (.int k n)) H=arC id g row [(0,off),(1,off+1),(2,off+2),(3,off+3),(4,off+4),(5,off+5)] n:=MA (e:=1) (len:=6) (sz:=1) (by kernel_rfl) (by kernel_rfl) (by decide)
theorem YX (row off:Nat):al (xS kk).P 236 (.ptr id g row off) (.lit (.int k n)) H=arC id g row [(0,off),(1,off+1),(2,off+2),(3,off+3)] n:=MA (e:=1) (len:=4) (sz:=1) (by kernel_rfl) (by kernel_rfl) (by decide)
end
def xF0:=PLift.up (aI (aI (aI (aI (aI (aI (aI (aI @agt @afV) (aI @agi @agr)) (aI (aI @agl @af9) (aI @aeQ @acs))) (aI (aI (aI @acw @adp) (aI @acl (aI @adz @acF))) (aI (aI @ac1 @adR) (aI @ad9 (aI @acu @aeC))))) (aI (aI (aI (aI @adJ @abM) (aI @aeI (aI @abR @adl))) (aI (aI @abK @acL) (aI @ab2 @acZ))) (aI (aI (aI @acW @adW) (aI @ab6 (aI @ac6 @aeJ))) (aI (aI @aez @abT) (aI @adU (aI @aeg @adH)))))) (aI (aI (aI (aI @W9 (aI @YM @Z0)) (aI @Xx (aI @Z3 (aI @XU @aaO)))) (aI (aI @Xm (aI @Z7 @aaZ)) (aI (aI @X1 @aan) (aI @Yn @XG)))) (aI (aI (aI (aI @aat @YY) (aI @WS @afQ)) (aI (aI @ags @agd) (aI @aff (aI @abV @aef)))) (aI (aI (aI @aeL @adc) (aI @acG (aI @ac3 @ab0))) (aI (aI @Z8 @Xv) (aI @YN (aI @XS @Y0))))))) (aI (aI (aI (aI (aI (aI @WI @Zj) (aI @ZH @Y2)) (aI @SS @T4)) (aI (aI @Ui (aI @S4 @VO)) (aI @SO @SX))) (aI (aI (aI @VL (aI @Ve @Ue)) (aI @Ul (aI @VB @VU))) (aI (aI @Ut @VY) (aI @U5 @UI)))) (aI (aI (aI (aI @Ta @UG) (aI (aI @UM @VZ) (aI @Vd (aI @Vk @Vi)))) (aI (aI @US (aI @VV @VH)) (aI @Ts (aI @Tn @UB)))) (aI (aI (aI @Va (aI @N0 @Q0)) (aI @Ou (aI @O2 @Qe))) (aI (aI @PD @OB) (aI @Pq (aI @Q5 @QS))))))) (aI (aI (aI (aI (aI (aI @Ot @QQ) (aI @Pz @NM)) (aI (aI @Qd (aI @QR @OK)) (aI @On @QJ))) (aI (aI (aI @N7 (aI @Oo @N1)) (aI @OD (aI @PT @Pw))) (aI (aI (aI @ac4 @acJ) (aI @ado (aI @ab1 @aeH))) (aI (aI @aet @acg) (aI @acB @afa))))) (aI (aI (aI (aI @aeh @abN) (aI @afc (aI @aeB @ada))) (aI (aI (aI @Yh @Xn) (aI @aa5 (aI @XO @Zt))) (aI (aI @Zf @aaU) (aI @Xl (aI @Y1 @Yr))))) (aI (aI (aI (aI @YH @aaS) (aI @XJ (aI @abc @TI))) (aI @UT @QY)) (aI (aI @Oh (aI @Qa @NP)) (aI (aI @NU @Of) (aI @Ov @Qi)))))) (aI (aI (aI (aI (aI @Qo @PP) (aI (aI @PG @Pu) (aI @Q3 @Oa))) (aI @adG (aI @acI @Ya))) (aI (aI (aI (aI @UQ @TE) @ade) (aI (aI @acS @aeU) @YC)) (aI (aI (aI @FJ @Zw) (aI @Gb (aI @Yb @Wv))) (aI (aI @F8 @Y8) (aI @Fu (aI @CH @Gn)))))) (aI (aI (aI (aI (aI @Ww @Uu) (aI @Pi (aI @oU @dC))) (aI (aI @oC @V7) (aI @JV (aI @EH @Dj)))) (aI (aI (aI @Dd @Ah) @SN) (aI @Uq (aI @Tg @Tw)))) (aI (aI (aI (aI @Vr @T8) (aI @Vu @Ud)) (aI @Tj (aI @UH (aI @Qv @Pd)))) (aI (aI (aI @Pp @Zs) (aI @XA (aI @Yc @Xo))) (aI (aI @XP @ZZ) (aI @YS (aI @Yo @YX)))))))))
theorem xF:type_of% xF0.down:=xF0.down
end Go.Ab
