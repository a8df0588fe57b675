import Derived.Test.YtblpbpnilkfjhaaGreatAbLibC
import Derived.Test.YtblpbpnilkfjhaaGreatAbLibB
import Derived.Test.YtblpbpnilkfjhaaGreatR6Seat
set_option linter.unusedVariables false
set_option linter.unusedSimpArgs false
set_option maxRecDepth 100000
set_option linter.unusedVariables false
namespace Go.Ab
open Go.Proofs
section
variable (kk:Nat) (c:V) (cs:List V) (H:Hp) (id:Nat) (g:Nat) (k:IntKind) (n:Int) (len:Nat) (x:V) (wl:Nat) (s:V)
theorem ajk:aW (xS kk).P 1 (c::cs)=some c:=by kernel_rfl
theorem ajj:aV (xS kk).P 1=1:=by kernel_rfl
theorem ai7:aW (xS kk).P 3 (c::cs)=some c:=by kernel_rfl
theorem ajp:aV (xS kk).P 3=1:=by kernel_rfl
theorem ai8:aW (xS kk).P 4 (c::cs)=some c:=by kernel_rfl
theorem aji:aV (xS kk).P 4=1:=by kernel_rfl
theorem aeb (c0 c1 c2 c3:V):aW (xS kk).P 23 (c0::c1::c2::c3::cs)=some (.agg [c0,c1,c2,c3]):=by kernel_rfl
theorem afN:aV (xS kk).P 23=4:=by kernel_rfl
theorem afM:aW (xS kk).P 24 (c::cs)=some c:=by kernel_rfl
theorem ahC:aV (xS kk).P 24=1:=by kernel_rfl
theorem afi:aW (xS kk).P 26 (c::cs)=some c:=by kernel_rfl
theorem aeg:aV (xS kk).P 26=1:=by kernel_rfl
theorem agd:aW (xS kk).P 27 (c::cs)=some c:=by kernel_rfl
theorem aeT:aV (xS kk).P 27=1:=by kernel_rfl
theorem afm:aW (xS kk).P 28 (c::cs)=some c:=by kernel_rfl
theorem agz:aV (xS kk).P 28=1:=by kernel_rfl
theorem agv (c0 c1 c2 c3 c4 c5 c6 c7:V):aW (xS kk).P 30 (c0::c1::c2::c3::c4::c5::c6::c7::cs)=some (.agg [c0,c1,c2,c3,c4,c5,c6,c7]):=by kernel_rfl
theorem afo:aV (xS kk).P 30=8:=by kernel_rfl
theorem aee:aW (xS kk).P 32 (c::cs)=some c:=by kernel_rfl
theorem agl:aV (xS kk).P 32=1:=by kernel_rfl
theorem aeI:aW (xS kk).P 34 (c::cs)=some c:=by kernel_rfl
theorem ahF:aV (xS kk).P 34=1:=by kernel_rfl
theorem afS:aW (xS kk).P 46 (c::cs)=some c:=by kernel_rfl
theorem aeY:aV (xS kk).P 46=1:=by kernel_rfl
theorem ag1 (c0 c1 c2:V):aW (xS kk).P 48 (c0::c1::c2::cs)=some (.agg [c0,c1,c2]):=by kernel_rfl
theorem ahq:aV (xS kk).P 48=3:=by kernel_rfl
theorem afC (c0 c1 c2:V):aW (xS kk).P 52 (c0::c1::c2::cs)=some (.agg [c0,c1,c2]):=by kernel_rfl
theorem aeS:aV (xS kk).P 52=3:=by kernel_rfl
theorem agS:aW (xS kk).P 53 (c::cs)=some c:=by kernel_rfl
theorem afc:aV (xS kk).P 53=1:=by kernel_rfl
theorem aew (c0 c1 c2 c3 c4 c5 c6:V):aW (xS kk).P 55 (c0::c1::c2::c3::c4::c5::c6::cs)=some (.agg [c0,c1,c2,c3,c4,c5,c6]):=by kernel_rfl
theorem af1:aV (xS kk).P 55=7:=by kernel_rfl
theorem ae2 (c0 c1 c2 c3 c4 c5 c6 c7 c8:V):aW (xS kk).P 57 (c0::c1::c2::c3::c4::c5::c6::c7::c8::cs)=some (.agg [c0,c1,c2,c3,c4,c5,c6,c7,c8]):=by kernel_rfl
theorem afA:aV (xS kk).P 57=9:=by kernel_rfl
theorem afa:aW (xS kk).P 63 (c::cs)=some c:=by kernel_rfl
theorem aes:aV (xS kk).P 63=1:=by kernel_rfl
theorem aeW (c0 c1 c2 c3 c4 c5 c6 c7 c8 c9 c10:V):aW (xS kk).P 65 (c0::c1::c2::c3::c4::c5::c6::c7::c8::c9::c10::cs)=some (.agg [c0,c1,c2,c3,c4,c5,c6,c7,c8,c9,c10]):=by kernel_rfl
theorem ahs:aV (xS kk).P 65=11:=by kernel_rfl
theorem ae3:aW (xS kk).P 86 (c::cs)=some c:=by kernel_rfl
theorem aey:aV (xS kk).P 86=1:=by kernel_rfl
theorem Zt (c0 c1:V):aW (xS kk).P 101 (c0::c1::cs)=some (.agg [c0,c1]):=by kernel_rfl
theorem acz:aV (xS kk).P 101=2:=by kernel_rfl
theorem adp:aW (xS kk).P 116 (c::cs)=some c:=by kernel_rfl
theorem adr:aV (xS kk).P 116=1:=by kernel_rfl
theorem aaU (c0 c1 c2:V):aW (xS kk).P 129 (c0::c1::c2::cs)=some (.agg [c0,c1,c2]):=by kernel_rfl
theorem abv:aV (xS kk).P 129=3:=by kernel_rfl
theorem acM:aW (xS kk).P 150 (c::cs)=some c:=by kernel_rfl
theorem adb:aV (xS kk).P 150=1:=by kernel_rfl
theorem acy (c0 c1 c2 c3 c4 c5 c6 c7 c8 c9 c10 c11 c12 c13 c14 c15:V):aW (xS kk).P 169 (c0::c1::c2::c3::c4::c5::c6::c7::c8::c9::c10::c11::c12::c13::c14::c15::cs)=some (.agg [c0,c1,c2,c3,c4,c5,c6,c7,c8,c9,c10,c11,c12,c13,c14,c15]):=by kernel_rfl
theorem adB:aV (xS kk).P 169=16:=by kernel_rfl
theorem abt:aW (xS kk).P 170 (c::cs)=some c:=by kernel_rfl
theorem abf:aV (xS kk).P 170=1:=by kernel_rfl
theorem aaC (c0 c1 c2 c3 c4 c5:V):aW (xS kk).P 175 (c0::c1::c2::c3::c4::c5::cs)=some (.agg [c0,c1,c2,c3,c4,c5]):=by kernel_rfl
theorem Z2:aV (xS kk).P 175=6:=by kernel_rfl
theorem acj (c0 c1:V):aW (xS kk).P 194 (c0::c1::cs)=some (.agg [c0,c1]):=by kernel_rfl
theorem Z6:aV (xS kk).P 194=2:=by kernel_rfl
theorem adA:aW (xS kk).P 206 (c::cs)=some c:=by kernel_rfl
theorem abE:aV (xS kk).P 206=1:=by kernel_rfl
theorem abc:aW (xS kk).P 223 (c::cs)=some c:=by kernel_rfl
theorem abk:aV (xS kk).P 223=1:=by kernel_rfl
theorem aaN (c0 c1 c2 c3:V):aW (xS kk).P 236 (c0::c1::c2::c3::cs)=some (.agg [c0,c1,c2,c3]):=by kernel_rfl
theorem ab5:aV (xS kk).P 236=4:=by kernel_rfl
theorem ai5:aw (xS kk).P 1 H=some (.ptr (bE [(V.lit Value.nilFunc)] H).2.length 0 0 0,(bE [(V.lit Value.nilFunc)] H).2++[.box (bE [(V.lit Value.nilFunc)] H).1]):=by kernel_rfl
theorem aje:aw (xS kk).P 3 H=some (.ptr (bE [(V.lit (Value.int .i64 (0)))] H).2.length 0 0 0,(bE [(V.lit (Value.int .i64 (0)))] H).2++[.box (bE [(V.lit (Value.int .i64 (0)))] H).1]):=by kernel_rfl
theorem ajb:aw (xS kk).P 4 H=some (.ptr (bE [(V.lit (Value.bool false))] H).2.length 0 0 0,(bE [(V.lit (Value.bool false))] H).2++[.box (bE [(V.lit (Value.bool false))] H).1]):=by kernel_rfl
theorem agb:aw (xS kk).P 26 H=some (.ptr (bE [V.nil] H).2.length 0 0 0,(bE [V.nil] H).2++[.box (bE [V.nil] H).1]):=by kernel_rfl
theorem ael:aw (xS kk).P 30 H=some (.ptr (bE [(V.lit (Value.int .i64 (0))),(V.lit (Value.int .i64 (0))),(V.lit (Value.int .i64 (0))),(V.lit (Value.int .i64 (0))),V.nil,V.nil,V.nil,V.nil] H).2.length 0 0 0,(bE [(V.lit (Value.int .i64 (0))),(V.lit (Value.int .i64 (0))),(V.lit (Value.int .i64 (0))),(V.lit (Value.int .i64 (0))),V.nil,V.nil,V.nil,V.nil] H).2++[.box (bE [(V.lit (Value.int .i64 (0))),(V.lit (Value.int .i64 (0))),(V.lit (Value.int .i64 (0))),(V.lit (Value.int .i64 (0))),V.nil,V.nil,V.nil,V.nil] H).1]):=by kernel_rfl
theorem ah3:aw (xS kk).P 32 H=some (.ptr (bE [(V.lit Value.nilFunc)] H).2.length 0 0 0,(bE [(V.lit Value.nilFunc)] H).2++[.box (bE [(V.lit Value.nilFunc)] H).1]):=by kernel_rfl
theorem afO:aw (xS kk).P 34 H=some (.ptr (bE [V.nil] H).2.length 0 0 0,(bE [V.nil] H).2++[.box (bE [V.nil] H).1]):=by kernel_rfl
theorem agh:aw (xS kk).P 48 H=some (.ptr (bE [(V.lit (Value.int .i64 (0))),(V.lit (Value.int .i64 (0))),(V.lit (Value.int .u64 (0)))] H).2.length 0 0 0,(bE [(V.lit (Value.int .i64 (0))),(V.lit (Value.int .i64 (0))),(V.lit (Value.int .u64 (0)))] H).2++[.box (bE [(V.lit (Value.int .i64 (0))),(V.lit (Value.int .i64 (0))),(V.lit (Value.int .u64 (0)))] H).1]):=by kernel_rfl
theorem agN:aw (xS kk).P 55 H=some (.ptr (bE [(V.lit (Value.int .i64 (0))),(V.lit (Value.int .i64 (0))),(V.lit (Value.int .i64 (0))),(V.lit (Value.int .u64 (0))),(V.lit (Value.int .u64 (0))),(V.lit (Value.int .u64 (0))),(V.lit (Value.int .i64 (0)))] H).2.length 0 0 0,(bE [(V.lit (Value.int .i64 (0))),(V.lit (Value.int .i64 (0))),(V.lit (Value.int .i64 (0))),(V.lit (Value.int .u64 (0))),(V.lit (Value.int .u64 (0))),(V.lit (Value.int .u64 (0))),(V.lit (Value.int .i64 (0)))] H).2++[.box (bE [(V.lit (Value.int .i64 (0))),(V.lit (Value.int .i64 (0))),(V.lit (Value.int .i64 (0))),(V.lit (Value.int .u64 (0))),(V.lit (Value.int .u64 (0))),(V.lit (Value.int .u64 (0))),(V.lit (Value.int .i64 (0)))] H).1]):=by kernel_rfl
theorem ahh:aw (xS kk).P 57 H=some (.ptr (bE [(V.lit (Value.int .i64 (0))),V.nil,(V.lit (Value.int .i64 (0))),(V.lit (Value.int .i64 (0))),(V.lit (Value.int .i64 (0))),(V.lit (Value.int .u64 (0))),(V.lit (Value.int .u64 (0))),(V.lit (Value.int .u64 (0))),(V.lit (Value.int .i64 (0)))] H).2.length 0 0 0,(bE [(V.lit (Value.int .i64 (0))),V.nil,(V.lit (Value.int .i64 (0))),(V.lit (Value.int .i64 (0))),(V.lit (Value.int .i64 (0))),(V.lit (Value.int .u64 (0))),(V.lit (Value.int .u64 (0))),(V.lit (Value.int .u64 (0))),(V.lit (Value.int .i64 (0)))] H).2++[.box (bE [(V.lit (Value.int .i64 (0))),V.nil,(V.lit (Value.int .i64 (0))),(V.lit (Value.int .i64 (0))),(V.lit (Value.int .i64 (0))),(V.lit (Value.int .u64 (0))),(V.lit (Value.int .u64 (0))),(V.lit (Value.int .u64 (0))),(V.lit (Value.int .i64 (0)))] H).1]):=by kernel_rfl
theorem aej:aw (xS kk).P 65 H=some (.ptr (bE [(V.lit (Value.int .i64 (0))),V.nil,(V.lit (Value.int .i64 (0))),(V.lit (Value.int .i64 (0))),(V.lit (Value.int .i64 (0))),(V.lit (Value.int .u64 (0))),(V.lit (Value.int .u64 (0))),(V.lit (Value.int .u64 (0))),(V.lit (Value.int .i64 (0))),(V.lit (Value.int .i64 (0))),(V.lit (Value.int .i64 (0)))] H).2.length 0 0 0,(bE [(V.lit (Value.int .i64 (0))),V.nil,(V.lit (Value.int .i64 (0))),(V.lit (Value.int .i64 (0))),(V.lit (Value.int .i64 (0))),(V.lit (Value.int .u64 (0))),(V.lit (Value.int .u64 (0))),(V.lit (Value.int .u64 (0))),(V.lit (Value.int .i64 (0))),(V.lit (Value.int .i64 (0))),(V.lit (Value.int .i64 (0)))] H).2++[.box (bE [(V.lit (Value.int .i64 (0))),V.nil,(V.lit (Value.int .i64 (0))),(V.lit (Value.int .i64 (0))),(V.lit (Value.int .i64 (0))),(V.lit (Value.int .u64 (0))),(V.lit (Value.int .u64 (0))),(V.lit (Value.int .u64 (0))),(V.lit (Value.int .i64 (0))),(V.lit (Value.int .i64 (0))),(V.lit (Value.int .i64 (0)))] H).1]):=by kernel_rfl
theorem abb:aw (xS kk).P 101 H=some (.ptr (bE [(V.lit (Value.int .i64 (0))),V.nil] H).2.length 0 0 0,(bE [(V.lit (Value.int .i64 (0))),V.nil] H).2++[.box (bE [(V.lit (Value.int .i64 (0))),V.nil] H).1]):=by kernel_rfl
theorem Zk:aw (xS kk).P 129 H=some (.ptr (bE [(V.lit (Value.int .i64 (0))),(V.lit (Value.int .i64 (0))),(V.lit (Value.int .i64 (0)))] H).2.length 0 0 0,(bE [(V.lit (Value.int .i64 (0))),(V.lit (Value.int .i64 (0))),(V.lit (Value.int .i64 (0)))] H).2++[.box (bE [(V.lit (Value.int .i64 (0))),(V.lit (Value.int .i64 (0))),(V.lit (Value.int .i64 (0)))] H).1]):=by kernel_rfl
theorem ZW:aw (xS kk).P 150 H=some (.ptr (bE [V.nil] H).2.length 0 0 0,(bE [V.nil] H).2++[.box (bE [V.nil] H).1]):=by kernel_rfl
theorem ZD:aw (xS kk).P 169 H=some (.ptr (bE [(V.lit Value.nilFunc),(V.lit Value.nilFunc),(V.lit Value.nilFunc),(V.lit Value.nilFunc),(V.lit Value.nilFunc),(V.lit Value.nilFunc),(V.lit Value.nilFunc),(V.lit Value.nilFunc),(V.lit Value.nilFunc),(V.lit Value.nilFunc),(V.lit Value.nilFunc),(V.lit Value.nilFunc),(V.lit Value.nilFunc),(V.lit Value.nilFunc),(V.lit Value.nilFunc),(V.lit Value.nilFunc)] H).2.length 0 0 0,(bE [(V.lit Value.nilFunc),(V.lit Value.nilFunc),(V.lit Value.nilFunc),(V.lit Value.nilFunc),(V.lit Value.nilFunc),(V.lit Value.nilFunc),(V.lit Value.nilFunc),(V.lit Value.nilFunc),(V.lit Value.nilFunc),(V.lit Value.nilFunc),(V.lit Value.nilFunc),(V.lit Value.nilFunc),(V.lit Value.nilFunc),(V.lit Value.nilFunc),(V.lit Value.nilFunc),(V.lit Value.nilFunc)] H).2++[.box (bE [(V.lit Value.nilFunc),(V.lit Value.nilFunc),(V.lit Value.nilFunc),(V.lit Value.nilFunc),(V.lit Value.nilFunc),(V.lit Value.nilFunc),(V.lit Value.nilFunc),(V.lit Value.nilFunc),(V.lit Value.nilFunc),(V.lit Value.nilFunc),(V.lit Value.nilFunc),(V.lit Value.nilFunc),(V.lit Value.nilFunc),(V.lit Value.nilFunc),(V.lit Value.nilFunc),(V.lit Value.nilFunc)] H).1]):=by kernel_rfl
theorem aak:aw (xS kk).P 170 H=some (.ptr (bE [(V.lit Value.nilFunc)] H).2.length 0 0 0,(bE [(V.lit Value.nilFunc)] H).2++[.box (bE [(V.lit Value.nilFunc)] H).1]):=by kernel_rfl
theorem Zw:aw (xS kk).P 175 H=some (.ptr (bE [(V.lit Value.nilFunc),(V.lit Value.nilFunc),(V.lit Value.nilFunc),(V.lit Value.nilFunc),(V.lit Value.nilFunc),(V.lit Value.nilFunc)] H).2.length 0 0 0,(bE [(V.lit Value.nilFunc),(V.lit Value.nilFunc),(V.lit Value.nilFunc),(V.lit Value.nilFunc),(V.lit Value.nilFunc),(V.lit Value.nilFunc)] H).2++[.box (bE [(V.lit Value.nilFunc),(V.lit Value.nilFunc),(V.lit Value.nilFunc),(V.lit Value.nilFunc),(V.lit Value.nilFunc),(V.lit Value.nilFunc)] H).1]):=by kernel_rfl
theorem ac9:aw (xS kk).P 194 H=some (.ptr (bE [(V.lit (Value.int .i64 (0))),(V.lit (Value.int .i64 (0)))] H).2.length 0 0 0,(bE [(V.lit (Value.int .i64 (0))),(V.lit (Value.int .i64 (0)))] H).2++[.box (bE [(V.lit (Value.int .i64 (0))),(V.lit (Value.int .i64 (0)))] H).1]):=by kernel_rfl
theorem acv:aw (xS kk).P 223 H=some (.ptr (bE [V.nil] H).2.length 0 0 0,(bE [V.nil] H).2++[.box (bE [V.nil] H).1]):=by kernel_rfl
theorem ac4:aw (xS kk).P 236 H=some (.ptr (bE [(V.lit Value.nilFunc),(V.lit Value.nilFunc),(V.lit Value.nilFunc),(V.lit Value.nilFunc)] H).2.length 0 0 0,(bE [(V.lit Value.nilFunc),(V.lit Value.nilFunc),(V.lit Value.nilFunc),(V.lit Value.nilFunc)] H).2++[.box (bE [(V.lit Value.nilFunc),(V.lit Value.nilFunc),(V.lit Value.nilFunc),(V.lit Value.nilFunc)] H).1]):=by kernel_rfl
theorem UD:aa (xS kk).P 23 (.rp cs) 0=some (.rp (cs.drop 0)):=by kernel_rfl
theorem UE (row off:Nat):aa (xS kk).P 23 (.ptr id g row off) 0=some (.ptr id g row (off+0)):=by kernel_rfl
theorem UQ:aa (xS kk).P 23 (.rp cs) 1=some (.rp (cs.drop 1)):=by kernel_rfl
theorem XQ (row off:Nat):aa (xS kk).P 23 (.ptr id g row off) 1=some (.ptr id g row (off+1)):=by kernel_rfl
theorem W2:aa (xS kk).P 23 (.rp cs) 2=some (.rp (cs.drop 2)):=by kernel_rfl
theorem T3 (row off:Nat):aa (xS kk).P 23 (.ptr id g row off) 2=some (.ptr id g row (off+2)):=by kernel_rfl
theorem Xf:aa (xS kk).P 23 (.rp cs) 3=some (.rp (cs.drop 3)):=by kernel_rfl
theorem Vo (row off:Nat):aa (xS kk).P 23 (.ptr id g row off) 3=some (.ptr id g row (off+3)):=by kernel_rfl
theorem Yi:aa (xS kk).P 30 (.rp cs) 0=some (.rp (cs.drop 0)):=by kernel_rfl
theorem Wn (row off:Nat):aa (xS kk).P 30 (.ptr id g row off) 0=some (.ptr id g row (off+0)):=by kernel_rfl
theorem V2:aa (xS kk).P 30 (.rp cs) 1=some (.rp (cs.drop 4)):=by kernel_rfl
theorem UT (row off:Nat):aa (xS kk).P 30 (.ptr id g row off) 1=some (.ptr id g row (off+4)):=by kernel_rfl
theorem U1:aa (xS kk).P 30 (.rp cs) 2=some (.rp (cs.drop 5)):=by kernel_rfl
theorem Wc (row off:Nat):aa (xS kk).P 30 (.ptr id g row off) 2=some (.ptr id g row (off+5)):=by kernel_rfl
theorem UX:aa (xS kk).P 30 (.rp cs) 3=some (.rp (cs.drop 6)):=by kernel_rfl
theorem Yt (row off:Nat):aa (xS kk).P 30 (.ptr id g row off) 3=some (.ptr id g row (off+6)):=by kernel_rfl
theorem VH:aa (xS kk).P 30 (.rp cs) 4=some (.rp (cs.drop 7)):=by kernel_rfl
theorem Xh (row off:Nat):aa (xS kk).P 30 (.ptr id g row off) 4=some (.ptr id g row (off+7)):=by kernel_rfl
theorem VD:aa (xS kk).P 48 (.rp cs) 0=some (.rp (cs.drop 0)):=by kernel_rfl
theorem Yx (row off:Nat):aa (xS kk).P 48 (.ptr id g row off) 0=some (.ptr id g row (off+0)):=by kernel_rfl
theorem Ux:aa (xS kk).P 48 (.rp cs) 1=some (.rp (cs.drop 1)):=by kernel_rfl
theorem Yw (row off:Nat):aa (xS kk).P 48 (.ptr id g row off) 1=some (.ptr id g row (off+1)):=by kernel_rfl
theorem VO:aa (xS kk).P 48 (.rp cs) 2=some (.rp (cs.drop 2)):=by kernel_rfl
theorem UJ (row off:Nat):aa (xS kk).P 48 (.ptr id g row off) 2=some (.ptr id g row (off+2)):=by kernel_rfl
theorem Vs:aa (xS kk).P 52 (.rp cs) 0=some (.rp (cs.drop 0)):=by kernel_rfl
theorem Yh (row off:Nat):aa (xS kk).P 52 (.ptr id g row off) 0=some (.ptr id g row (off+0)):=by kernel_rfl
theorem T7:aa (xS kk).P 55 (.rp cs) 0=some (.rp (cs.drop 0)):=by kernel_rfl
theorem XM (row off:Nat):aa (xS kk).P 55 (.ptr id g row off) 0=some (.ptr id g row (off+0)):=by kernel_rfl
theorem WM:aa (xS kk).P 55 (.rp cs) 1=some (.rp (cs.drop 1)):=by kernel_rfl
theorem Wl (row off:Nat):aa (xS kk).P 55 (.ptr id g row off) 1=some (.ptr id g row (off+1)):=by kernel_rfl
theorem XC:aa (xS kk).P 55 (.rp cs) 2=some (.rp (cs.drop 2)):=by kernel_rfl
theorem UW (row off:Nat):aa (xS kk).P 55 (.ptr id g row off) 2=some (.ptr id g row (off+2)):=by kernel_rfl
theorem W8:aa (xS kk).P 55 (.rp cs) 3=some (.rp (cs.drop 3)):=by kernel_rfl
theorem XD (row off:Nat):aa (xS kk).P 55 (.ptr id g row off) 3=some (.ptr id g row (off+3)):=by kernel_rfl
theorem VY:aa (xS kk).P 55 (.rp cs) 4=some (.rp (cs.drop 4)):=by kernel_rfl
theorem VB (row off:Nat):aa (xS kk).P 55 (.ptr id g row off) 4=some (.ptr id g row (off+4)):=by kernel_rfl
theorem Up:aa (xS kk).P 55 (.rp cs) 5=some (.rp (cs.drop 5)):=by kernel_rfl
theorem Vt (row off:Nat):aa (xS kk).P 55 (.ptr id g row off) 5=some (.ptr id g row (off+5)):=by kernel_rfl
theorem Un:aa (xS kk).P 55 (.rp cs) 6=some (.rp (cs.drop 6)):=by kernel_rfl
theorem Yg (row off:Nat):aa (xS kk).P 55 (.ptr id g row off) 6=some (.ptr id g row (off+6)):=by kernel_rfl
theorem Xp:aa (xS kk).P 57 (.rp cs) 0=some (.rp (cs.drop 0)):=by kernel_rfl
theorem VA (row off:Nat):aa (xS kk).P 57 (.ptr id g row off) 0=some (.ptr id g row (off+0)):=by kernel_rfl
theorem UK:aa (xS kk).P 57 (.rp cs) 1=some (.rp (cs.drop 1)):=by kernel_rfl
theorem Vn (row off:Nat):aa (xS kk).P 57 (.ptr id g row off) 1=some (.ptr id g row (off+1)):=by kernel_rfl
theorem UL:aa (xS kk).P 57 (.rp cs) 2=some (.rp (cs.drop 2)):=by kernel_rfl
theorem VW (row off:Nat):aa (xS kk).P 57 (.ptr id g row off) 2=some (.ptr id g row (off+2)):=by kernel_rfl
theorem WE:aa (xS kk).P 65 (.rp cs) 0=some (.rp (cs.drop 0)):=by kernel_rfl
theorem WF (row off:Nat):aa (xS kk).P 65 (.ptr id g row off) 0=some (.ptr id g row (off+0)):=by kernel_rfl
theorem VV:aa (xS kk).P 65 (.rp cs) 1=some (.rp (cs.drop 1)):=by kernel_rfl
theorem VZ (row off:Nat):aa (xS kk).P 65 (.ptr id g row off) 1=some (.ptr id g row (off+1)):=by kernel_rfl
theorem WQ:aa (xS kk).P 65 (.rp cs) 2=some (.rp (cs.drop 2)):=by kernel_rfl
theorem Xx (row off:Nat):aa (xS kk).P 65 (.ptr id g row off) 2=some (.ptr id g row (off+2)):=by kernel_rfl
theorem Va:aa (xS kk).P 65 (.rp cs) 3=some (.rp (cs.drop 9)):=by kernel_rfl
theorem Xg (row off:Nat):aa (xS kk).P 65 (.ptr id g row off) 3=some (.ptr id g row (off+9)):=by kernel_rfl
theorem Xo:aa (xS kk).P 65 (.rp cs) 4=some (.rp (cs.drop 10)):=by kernel_rfl
theorem Uf (row off:Nat):aa (xS kk).P 65 (.ptr id g row off) 4=some (.ptr id g row (off+10)):=by kernel_rfl
theorem Qr:aa (xS kk).P 101 (.rp cs) 0=some (.rp (cs.drop 0)):=by kernel_rfl
theorem ON (row off:Nat):aa (xS kk).P 101 (.ptr id g row off) 0=some (.ptr id g row (off+0)):=by kernel_rfl
theorem Re:aa (xS kk).P 101 (.rp cs) 1=some (.rp (cs.drop 1)):=by kernel_rfl
theorem PL (row off:Nat):aa (xS kk).P 101 (.ptr id g row off) 1=some (.ptr id g row (off+1)):=by kernel_rfl
theorem Q1:aa (xS kk).P 129 (.rp cs) 0=some (.rp (cs.drop 0)):=by kernel_rfl
theorem PU (row off:Nat):aa (xS kk).P 129 (.ptr id g row off) 0=some (.ptr id g row (off+0)):=by kernel_rfl
theorem QB:aa (xS kk).P 129 (.rp cs) 1=some (.rp (cs.drop 1)):=by kernel_rfl
theorem OX (row off:Nat):aa (xS kk).P 129 (.ptr id g row off) 1=some (.ptr id g row (off+1)):=by kernel_rfl
theorem Rl:aa (xS kk).P 129 (.rp cs) 2=some (.rp (cs.drop 2)):=by kernel_rfl
theorem R6 (row off:Nat):aa (xS kk).P 129 (.ptr id g row off) 2=some (.ptr id g row (off+2)):=by kernel_rfl
theorem P3:aa (xS kk).P 168 (.rp cs) 0=some (.rp (cs.drop 0)):=by kernel_rfl
theorem Px (row off:Nat):aa (xS kk).P 168 (.ptr id g row off) 0=some (.ptr id g row (off+0)):=by kernel_rfl
theorem RD:aa (xS kk).P 168 (.rp cs) 1=some (.rp (cs.drop 11)):=by kernel_rfl
theorem O2 (row off:Nat):aa (xS kk).P 168 (.ptr id g row off) 1=some (.ptr id g row (off+11)):=by kernel_rfl
theorem RB:aa (xS kk).P 168 (.rp cs) 2=some (.rp (cs.drop 15)):=by kernel_rfl
theorem Qc (row off:Nat):aa (xS kk).P 168 (.ptr id g row off) 2=some (.ptr id g row (off+15)):=by kernel_rfl
theorem Ov:aa (xS kk).P 168 (.rp cs) 3=some (.rp (cs.drop 16)):=by kernel_rfl
theorem QR (row off:Nat):aa (xS kk).P 168 (.ptr id g row off) 3=some (.ptr id g row (off+16)):=by kernel_rfl
theorem OK:aa (xS kk).P 168 (.rp cs) 4=some (.rp (cs.drop 17)):=by kernel_rfl
theorem Qm (row off:Nat):aa (xS kk).P 168 (.ptr id g row off) 4=some (.ptr id g row (off+17)):=by kernel_rfl
theorem RF:aa (xS kk).P 168 (.rp cs) 5=some (.rp (cs.drop 18)):=by kernel_rfl
theorem OZ (row off:Nat):aa (xS kk).P 168 (.ptr id g row off) 5=some (.ptr id g row (off+18)):=by kernel_rfl
theorem OY:aa (xS kk).P 168 (.rp cs) 6=some (.rp (cs.drop 19)):=by kernel_rfl
theorem PO (row off:Nat):aa (xS kk).P 168 (.ptr id g row off) 6=some (.ptr id g row (off+19)):=by kernel_rfl
theorem O1:aa (xS kk).P 194 (.rp cs) 0=some (.rp (cs.drop 0)):=by kernel_rfl
theorem Rp (row off:Nat):aa (xS kk).P 194 (.ptr id g row off) 0=some (.ptr id g row (off+0)):=by kernel_rfl
theorem Ow:aa (xS kk).P 194 (.rp cs) 1=some (.rp (cs.drop 1)):=by kernel_rfl
theorem OQ (row off:Nat):aa (xS kk).P 194 (.ptr id g row off) 1=some (.ptr id g row (off+1)):=by kernel_rfl
theorem RQ:aa (xS kk).P 205 (.rp cs) 0=some (.rp (cs.drop 0)):=by kernel_rfl
theorem QW (row off:Nat):aa (xS kk).P 205 (.ptr id g row off) 0=some (.ptr id g row (off+0)):=by kernel_rfl
theorem OS:aa (xS kk).P 205 (.rp cs) 1=some (.rp (cs.drop 7)):=by kernel_rfl
theorem RX (row off:Nat):aa (xS kk).P 205 (.ptr id g row off) 1=some (.ptr id g row (off+7)):=by kernel_rfl
theorem Se:aa (xS kk).P 205 (.rp cs) 2=some (.rp (cs.drop 11)):=by kernel_rfl
theorem N6 (row off:Nat):aa (xS kk).P 205 (.ptr id g row off) 2=some (.ptr id g row (off+11)):=by kernel_rfl
theorem QY:aa (xS kk).P 221 (.rp cs) 0=some (.rp (cs.drop 0)):=by kernel_rfl
theorem Sd (row off:Nat):aa (xS kk).P 221 (.ptr id g row off) 0=some (.ptr id g row (off+0)):=by kernel_rfl
theorem OI:aa (xS kk).P 221 (.rp cs) 1=some (.rp (cs.drop 7)):=by kernel_rfl
theorem P0 (row off:Nat):aa (xS kk).P 221 (.ptr id g row off) 1=some (.ptr id g row (off+7)):=by kernel_rfl
theorem N5:aa (xS kk).P 221 (.rp cs) 2=some (.rp (cs.drop 11)):=by kernel_rfl
theorem PF (row off:Nat):aa (xS kk).P 221 (.ptr id g row off) 2=some (.ptr id g row (off+11)):=by kernel_rfl
theorem OO:aa (xS kk).P 235 (.rp cs) 0=some (.rp (cs.drop 0)):=by kernel_rfl
theorem OD (row off:Nat):aa (xS kk).P 235 (.ptr id g row off) 0=some (.ptr id g row (off+0)):=by kernel_rfl
theorem Pn:aa (xS kk).P 235 (.rp cs) 1=some (.rp (cs.drop 7)):=by kernel_rfl
theorem Ph (row off:Nat):aa (xS kk).P 235 (.ptr id g row off) 1=some (.ptr id g row (off+7)):=by kernel_rfl
theorem RJ:aa (xS kk).P 235 (.rp cs) 2=some (.rp (cs.drop 11)):=by kernel_rfl
theorem Oa (row off:Nat):aa (xS kk).P 235 (.ptr id g row off) 2=some (.ptr id g row (off+11)):=by kernel_rfl
theorem O8:uC (xS kk).P 194 (.agg cs) 0=aW (xS kk).P 3 (cs.drop 0):=by kernel_rfl
theorem aeG (l:Tyt):am (xS kk).P 24 (.ro (l.map ap)) (.lit (.int k n)) H=(idx l n).map fun x => .rp (ap x):=cp (e:=101) (by kernel_rfl) (fun x=>(by kernel_rfl:(ap x).length=aV (xS kk).P 101)) (by kernel_rfl)
theorem aeQ:am (xS kk).P 24 (.own id g len) (.lit (.int k n)) H=ixB 2 g len id n (H[id]?):=bk (P:=(xS kk).P) (e:=101) (by kernel_rfl) (by kernel_rfl)
theorem aeh (l:List Int):am (xS kk).P 26 (.ro (l.map (aN .u64))) (.lit (.int k n)) H=(idx l n).map fun x => .rp ((aN .u64) x):=cp (e:=46) (by kernel_rfl) (fun x=>(by kernel_rfl:((aN .u64) x).length=aV (xS kk).P 46)) (by kernel_rfl)
theorem afb:am (xS kk).P 26 (.own id g len) (.lit (.int k n)) H=ixB 1 g len id n (H[id]?):=bk (P:=(xS kk).P) (e:=46) (by kernel_rfl) (by kernel_rfl)
theorem af2 (l:List Tyw):am (xS kk).P 27 (.ro (l.map aY)) (.lit (.int k n)) H=(idx l n).map fun x => .rp (aY x):=cp (e:=65) (by kernel_rfl) (fun x=>(by kernel_rfl:(aY x).length=aV (xS kk).P 65)) (by kernel_rfl)
theorem ahv:am (xS kk).P 27 (.own id g len) (.lit (.int k n)) H=ixB 11 g len id n (H[id]?):=bk (P:=(xS kk).P) (e:=65) (by kernel_rfl) (by kernel_rfl)
theorem ahM (l:List Tys):am (xS kk).P 28 (.ro (l.map cR)) (.lit (.int k n)) H=(idx l n).map fun x => .rp (cR x):=cp (e:=57) (by kernel_rfl) (fun x=>(by kernel_rfl:(cR x).length=aV (xS kk).P 57)) (by kernel_rfl)
theorem afW:am (xS kk).P 28 (.own id g len) (.lit (.int k n)) H=ixB 9 g len id n (H[id]?):=bk (P:=(xS kk).P) (e:=57) (by kernel_rfl) (by kernel_rfl)
theorem ah4 (l:Tye):am (xS kk).P 31 (.ro (l.map gf)) (.lit (.int k n)) H=(idx l n).map fun x => .rp (gf x):=cp (e:=48) (by kernel_rfl) (fun x=>(by kernel_rfl:(gf x).length=aV (xS kk).P 48)) (by kernel_rfl)
theorem ahQ:am (xS kk).P 31 (.own id g len) (.lit (.int k n)) H=ixB 3 g len id n (H[id]?):=bk (P:=(xS kk).P) (e:=48) (by kernel_rfl) (by kernel_rfl)
theorem agV (l:Tye):am (xS kk).P 34 (.ro (l.map aZ)) (.lit (.int k n)) H=(idx l n).map fun x => .rp (aZ x):=cp (e:=52) (by kernel_rfl) (fun x=>(by kernel_rfl:(aZ x).length=aV (xS kk).P 52)) (by kernel_rfl)
theorem agm:am (xS kk).P 34 (.own id g len) (.lit (.int k n)) H=ixB 3 g len id n (H[id]?):=bk (P:=(xS kk).P) (e:=52) (by kernel_rfl) (by kernel_rfl)
theorem agB (l:List (List Int)):am (xS kk).P 40 (.ro (l.map dG)) (.lit (.int k n)) H=(idx l n).map fun x => .rp (dG x):=cp (e:=53) (by kernel_rfl) (fun x=>(by kernel_rfl:(dG x).length=aV (xS kk).P 53)) (by kernel_rfl)
theorem aev:am (xS kk).P 40 (.own id g len) (.lit (.int k n)) H=ixB 1 g len id n (H[id]?):=bk (P:=(xS kk).P) (e:=53) (by kernel_rfl) (by kernel_rfl)
theorem aeV (l:List Int):am (xS kk).P 53 (.ro (l.map (aN .i64))) (.lit (.int k n)) H=(idx l n).map fun x => .rp ((aN .i64) x):=cp (e:=3) (by kernel_rfl) (fun x=>(by kernel_rfl:((aN .i64) x).length=aV (xS kk).P 3)) (by kernel_rfl)
theorem ahR:am (xS kk).P 53 (.own id g len) (.lit (.int k n)) H=ixB 1 g len id n (H[id]?):=bk (P:=(xS kk).P) (e:=3) (by kernel_rfl) (by kernel_rfl)
theorem aeA (l:Tye):am (xS kk).P 63 (.ro (l.map aZ)) (.lit (.int k n)) H=(idx l n).map fun x => .rp (aZ x):=cp (e:=129) (by kernel_rfl) (fun x=>(by kernel_rfl:(aZ x).length=aV (xS kk).P 129)) (by kernel_rfl)
theorem ahK:am (xS kk).P 63 (.own id g len) (.lit (.int k n)) H=ixB 3 g len id n (H[id]?):=bk (P:=(xS kk).P) (e:=129) (by kernel_rfl) (by kernel_rfl)
theorem Zj (l:List Bool):am (xS kk).P 150 (.ro (l.map mq)) (.lit (.int k n)) H=(idx l n).map fun x => .rp (mq x):=cp (e:=4) (by kernel_rfl) (fun x=>(by kernel_rfl:(mq x).length=aV (xS kk).P 4)) (by kernel_rfl)
theorem ZF:am (xS kk).P 150 (.own id g len) (.lit (.int k n)) H=ixB 1 g len id n (H[id]?):=bk (P:=(xS kk).P) (e:=4) (by kernel_rfl) (by kernel_rfl)
theorem Y5:am (xS kk).P 207 (.own id g len) (.lit (.int k n)) H=ixB 1 g len id n (H[id]?):=bk (P:=(xS kk).P) (e:=206) (by kernel_rfl) (by kernel_rfl)
theorem abd:am (xS kk).P 223 (.own id g len) (.lit (.int k n)) H=ixB 1 g len id n (H[id]?):=bk (P:=(xS kk).P) (e:=116) (by kernel_rfl) (by kernel_rfl)
theorem aaV:am (xS kk).P 238 (.own id g len) (.lit (.int k n)) H=ixB 1 g len id n (H[id]?):=bk (P:=(xS kk).P) (e:=1) (by kernel_rfl) (by kernel_rfl)
theorem adc:br (xS kk).P 24 x H=(r7 x H).map fun v=>(v,H):=by kernel_rfl
theorem abL:br (xS kk).P 25 x H=(r7 x H).map fun v=>(v,H):=by kernel_rfl
theorem Y9:br (xS kk).P 26 x H=(r7 x H).map fun v=>(v,H):=by kernel_rfl
theorem ab1:br (xS kk).P 27 x H=(r7 x H).map fun v=>(v,H):=by kernel_rfl
theorem aaK:br (xS kk).P 28 x H=(r7 x H).map fun v=>(v,H):=by kernel_rfl
theorem Z5:br (xS kk).P 31 x H=(r7 x H).map fun v=>(v,H):=by kernel_rfl
theorem aau:br (xS kk).P 34 x H=(r7 x H).map fun v=>(v,H):=by kernel_rfl
theorem ab0:br (xS kk).P 40 x H=(r7 x H).map fun v=>(v,H):=by kernel_rfl
theorem acs:br (xS kk).P 53 x H=(r7 x H).map fun v=>(v,H):=by kernel_rfl
theorem aay:br (xS kk).P 63 x H=(r7 x H).map fun v=>(v,H):=by kernel_rfl
theorem V9:br (xS kk).P 207 x H=(r7 x H).map fun v=>(v,H):=by kernel_rfl
theorem XG:br (xS kk).P 238 x H=(r7 x H).map fun v=>(v,H):=by kernel_rfl
theorem Od:mg (xS kk).P wl 24 24 s x H=bu (xS kk).P wl 24 s x H:=by kernel_rfl
theorem Ql:bu (xS kk).P wl 24 (.own id g len) x H=(bZ x H).bind fun xs=>bif cd 2 xs then apB wl 101 2 32 id g len xs H (H[id]?) else none:=(eH (P:=(xS kk).P) (t:=24) (e:=101) (by kernel_rfl) (by kernel_rfl)).trans (by kernel_rfl)
theorem Q7:bu (xS kk).P wl 24 .nil x H=(bZ x H).bind fun xs=>bif cd 2 xs then bif decide (xs.length*32≤70368744177664) then some (.own H.length 0 xs.length,H++[.rows 2 xs 0 true]) else none else none:=(eJ (P:=(xS kk).P) (t:=24) (e:=101) (by kernel_rfl) (by kernel_rfl)).trans (by kernel_rfl)
theorem Q9:mg (xS kk).P wl 25 25 s x H=bu (xS kk).P wl 25 s x H:=by kernel_rfl
theorem QT:bu (xS kk).P wl 25 (.own id g len) x H=(bZ x H).bind fun xs=>bif cd 1 xs then apB wl 46 1 8 id g len xs H (H[id]?) else none:=(eH (P:=(xS kk).P) (t:=25) (e:=46) (by kernel_rfl) (by kernel_rfl)).trans (by kernel_rfl)
theorem PT:bu (xS kk).P wl 25 .nil x H=(bZ x H).bind fun xs=>bif cd 1 xs then bif decide (xs.length*8≤70368744177664) then some (.own H.length 0 xs.length,H++[.rows 1 xs 0 true]) else none else none:=(eJ (P:=(xS kk).P) (t:=25) (e:=46) (by kernel_rfl) (by kernel_rfl)).trans (by kernel_rfl)
theorem OG:mg (xS kk).P wl 26 26 s x H=bu (xS kk).P wl 26 s x H:=by kernel_rfl
theorem Ou:bu (xS kk).P wl 26 (.own id g len) x H=(bZ x H).bind fun xs=>bif cd 1 xs then apB wl 46 1 8 id g len xs H (H[id]?) else none:=(eH (P:=(xS kk).P) (t:=26) (e:=46) (by kernel_rfl) (by kernel_rfl)).trans (by kernel_rfl)
theorem Qn:bu (xS kk).P wl 26 .nil x H=(bZ x H).bind fun xs=>bif cd 1 xs then bif decide (xs.length*8≤70368744177664) then some (.own H.length 0 xs.length,H++[.rows 1 xs 0 true]) else none else none:=(eJ (P:=(xS kk).P) (t:=26) (e:=46) (by kernel_rfl) (by kernel_rfl)).trans (by kernel_rfl)
theorem N4:mg (xS kk).P wl 27 27 s x H=bu (xS kk).P wl 27 s x H:=by kernel_rfl
theorem On:bu (xS kk).P wl 27 (.own id g len) x H=(bZ x H).bind fun xs=>bif cd 11 xs then apB wl 65 11 104 id g len xs H (H[id]?) else none:=(eH (P:=(xS kk).P) (t:=27) (e:=65) (by kernel_rfl) (by kernel_rfl)).trans (by kernel_rfl)
theorem P7:bu (xS kk).P wl 27 .nil x H=(bZ x H).bind fun xs=>bif cd 11 xs then bif decide (xs.length*104≤70368744177664) then some (.own H.length 0 xs.length,H++[.rows 11 xs 0 true]) else none else none:=(eJ (P:=(xS kk).P) (t:=27) (e:=65) (by kernel_rfl) (by kernel_rfl)).trans (by kernel_rfl)
theorem Qx:mg (xS kk).P wl 28 28 s x H=bu (xS kk).P wl 28 s x H:=by kernel_rfl
theorem QX:bu (xS kk).P wl 28 (.own id g len) x H=(bZ x H).bind fun xs=>bif cd 9 xs then apB wl 57 9 88 id g len xs H (H[id]?) else none:=(eH (P:=(xS kk).P) (t:=28) (e:=57) (by kernel_rfl) (by kernel_rfl)).trans (by kernel_rfl)
theorem R9:bu (xS kk).P wl 28 .nil x H=(bZ x H).bind fun xs=>bif cd 9 xs then bif decide (xs.length*88≤70368744177664) then some (.own H.length 0 xs.length,H++[.rows 9 xs 0 true]) else none else none:=(eJ (P:=(xS kk).P) (t:=28) (e:=57) (by kernel_rfl) (by kernel_rfl)).trans (by kernel_rfl)
theorem Pw:mg (xS kk).P wl 34 34 s x H=bu (xS kk).P wl 34 s x H:=by kernel_rfl
theorem PE:bu (xS kk).P wl 34 (.own id g len) x H=(bZ x H).bind fun xs=>bif cd 3 xs then apB wl 52 3 24 id g len xs H (H[id]?) else none:=(eH (P:=(xS kk).P) (t:=34) (e:=52) (by kernel_rfl) (by kernel_rfl)).trans (by kernel_rfl)
theorem Om:bu (xS kk).P wl 34 .nil x H=(bZ x H).bind fun xs=>bif cd 3 xs then bif decide (xs.length*24≤70368744177664) then some (.own H.length 0 xs.length,H++[.rows 3 xs 0 true]) else none else none:=(eJ (P:=(xS kk).P) (t:=34) (e:=52) (by kernel_rfl) (by kernel_rfl)).trans (by kernel_rfl)
theorem Sc:mg (xS kk).P wl 53 53 s x H=bu (xS kk).P wl 53 s x H:=by kernel_rfl
theorem Pt:bu (xS kk).P wl 53 (.own id g len) x H=(bZ x H).bind fun xs=>bif cd 1 xs then apB wl 3 1 8 id g len xs H (H[id]?) else none:=(eH (P:=(xS kk).P) (t:=53) (e:=3) (by kernel_rfl) (by kernel_rfl)).trans (by kernel_rfl)
theorem RU:bu (xS kk).P wl 53 .nil x H=(bZ x H).bind fun xs=>bif cd 1 xs then bif decide (xs.length*8≤70368744177664) then some (.own H.length 0 xs.length,H++[.rows 1 xs 0 true]) else none else none:=(eJ (P:=(xS kk).P) (t:=53) (e:=3) (by kernel_rfl) (by kernel_rfl)).trans (by kernel_rfl)
theorem N7:mg (xS kk).P wl 63 63 s x H=bu (xS kk).P wl 63 s x H:=by kernel_rfl
theorem N3:bu (xS kk).P wl 63 (.own id g len) x H=(bZ x H).bind fun xs=>bif cd 3 xs then apB wl 129 3 24 id g len xs H (H[id]?) else none:=(eH (P:=(xS kk).P) (t:=63) (e:=129) (by kernel_rfl) (by kernel_rfl)).trans (by kernel_rfl)
theorem Ra:bu (xS kk).P wl 63 .nil x H=(bZ x H).bind fun xs=>bif cd 3 xs then bif decide (xs.length*24≤70368744177664) then some (.own H.length 0 xs.length,H++[.rows 3 xs 0 true]) else none else none:=(eJ (P:=(xS kk).P) (t:=63) (e:=129) (by kernel_rfl) (by kernel_rfl)).trans (by kernel_rfl)
theorem afE (c:Bool):dB (xS kk).P wl c 53 (.own id g len) none (some (.lit (.int k n))) none H=slB g len id n H (H[id]?):=An (P:=(xS kk).P) (e:=3) (by kernel_rfl) (by kernel_rfl)
theorem ahc (c:Bool) (l:List Int):dB (xS kk).P wl c 53 (.ro (l.map (aN .i64))) none (some (.lit (.int k n))) none H=bif decide (0≤n∧n≤l.length) then some (.ro ((l.take n.toNat).map (aN .i64)),H) else none:=EE (P:=(xS kk).P) (e:=3) (by kernel_rfl) (by kernel_rfl) (fun x=>(by kernel_rfl:((aN .i64) x).length=aV (xS kk).P 3))
theorem afe (c:Bool) (l:List Int):dB (xS kk).P wl c 53 (.ro (l.map (aN .i64))) (some (.lit (.int k n))) none none H=bif decide (0≤n∧n≤l.length) then some (.ro ((l.drop n.toNat).map (aN .i64)),H) else none:=Df (P:=(xS kk).P) (e:=3) (by kernel_rfl) (by kernel_rfl) (fun x=>(by kernel_rfl:((aN .i64) x).length=aV (xS kk).P 3))
theorem ahD (c:Bool) (l:List Int) (k2:IntKind) (lo:Int):dB (xS kk).P wl c 53 (.ro (l.map (aN .i64))) (some (.lit (.int k lo))) (some (.lit (.int k2 n))) none H=bif decide (0≤lo∧lo≤n∧n≤l.length) then some (.ro (((l.take n.toNat).drop lo.toNat).map (aN .i64)),H) else none:=wG (P:=(xS kk).P) (e:=3) (by kernel_rfl) (by kernel_rfl) (fun x=>(by kernel_rfl:((aN .i64) x).length=aV (xS kk).P 3))
theorem agF (c:Bool):dB (xS kk).P wl c 63 (.own id g len) none (some (.lit (.int k n))) none H=slB g len id n H (H[id]?):=An (P:=(xS kk).P) (e:=129) (by kernel_rfl) (by kernel_rfl)
theorem aeo (c:Bool) (l:Tye):dB (xS kk).P wl c 63 (.ro (l.map aZ)) none (some (.lit (.int k n))) none H=bif decide (0≤n∧n≤l.length) then some (.ro ((l.take n.toNat).map aZ),H) else none:=EE (P:=(xS kk).P) (e:=129) (by kernel_rfl) (by kernel_rfl) (fun x=>(by kernel_rfl:(aZ x).length=aV (xS kk).P 129))
theorem ahH (c:Bool) (l:Tye):dB (xS kk).P wl c 63 (.ro (l.map aZ)) (some (.lit (.int k n))) none none H=bif decide (0≤n∧n≤l.length) then some (.ro ((l.drop n.toNat).map aZ),H) else none:=Df (P:=(xS kk).P) (e:=129) (by kernel_rfl) (by kernel_rfl) (fun x=>(by kernel_rfl:(aZ x).length=aV (xS kk).P 129))
theorem afj (c:Bool) (l:Tye) (k2:IntKind) (lo:Int):dB (xS kk).P wl c 63 (.ro (l.map aZ)) (some (.lit (.int k lo))) (some (.lit (.int k2 n))) none H=bif decide (0≤lo∧lo≤n∧n≤l.length) then some (.ro (((l.take n.toNat).drop lo.toNat).map aZ),H) else none:=wG (P:=(xS kk).P) (e:=129) (by kernel_rfl) (by kernel_rfl) (fun x=>(by kernel_rfl:(aZ x).length=aV (xS kk).P 129))
theorem Zf:be (xS kk).P 150 (.lit (.int .i64 n)) (.lit (.int .i64 n)) H=bif decide (0≤n∧n≤9223372036854775807∧n*1≤70368744177664) then some (.own H.length 0 n.toNat,H++[.rows 1 (List.replicate n.toNat [(V.lit (Value.bool false))]) 0 true]) else none:=Ca (P:=(xS kk).P) (t:=150) (e:=4) (z:=((eZ (xS kk).P 4).getD default)) (by kernel_rfl) (by kernel_rfl) (by kernel_rfl) (by kernel_rfl)
theorem TZ:gL (xS kk).P 3 46 (.lit (.int k n))=some (.lit (.int .u64 (IntKind.wrap .u64 n))):=by kernel_rfl
theorem X0:gL (xS kk).P 46 3 (.lit (.int k n))=some (.lit (.int .i64 (IntKind.wrap .i64 n))):=by kernel_rfl
theorem afR (a0 b0:Int) (a1 b1:Int) (a2 b2:Int) (a3 b3:Int):au (xS kk).P .eql 23 (.agg [.lit (.int .i64 a0),.lit (.int .i64 a1),.lit (.int .i64 a2),.lit (.int .i64 a3)]) (.agg [.lit (.int .i64 b0),.lit (.int .i64 b1),.lit (.int .i64 b2),.lit (.int .i64 b3)])=some (.lit (.bool ((a0==b0)&&((a1==b1)&&((a2==b2)&&((a3==b3)&&true)))))):=by kernel_rfl
theorem afs (a0 b0:Int) (a1 b1:Int) (a2 b2:Int) (a3 b3:Int):au (xS kk).P .neq 23 (.agg [.lit (.int .i64 a0),.lit (.int .i64 a1),.lit (.int .i64 a2),.lit (.int .i64 a3)]) (.agg [.lit (.int .i64 b0),.lit (.int .i64 b1),.lit (.int .i64 b2),.lit (.int .i64 b3)])=some (.lit (.bool (!((a0==b0)&&((a1==b1)&&((a2==b2)&&((a3==b3)&&true))))))):=by kernel_rfl
theorem afP (a0 b0:Int) (a1 b1:Int) (a2 b2:Int):au (xS kk).P .eql 52 (.agg [.lit (.int .i64 a0),.lit (.int .i64 a1),.lit (.int .i64 a2)]) (.agg [.lit (.int .i64 b0),.lit (.int .i64 b1),.lit (.int .i64 b2)])=some (.lit (.bool ((a0==b0)&&((a1==b1)&&((a2==b2)&&true))))):=by kernel_rfl
theorem aem (a0 b0:Int) (a1 b1:Int) (a2 b2:Int):au (xS kk).P .neq 52 (.agg [.lit (.int .i64 a0),.lit (.int .i64 a1),.lit (.int .i64 a2)]) (.agg [.lit (.int .i64 b0),.lit (.int .i64 b1),.lit (.int .i64 b2)])=some (.lit (.bool (!((a0==b0)&&((a1==b1)&&((a2==b2)&&true)))))):=by kernel_rfl
theorem aga (a0 b0:Int) (a1 b1:Int) (a2 b2:Int) (a3 b3:Int) (a4 b4:Int) (a5 b5:Int) (a6 b6:Int):au (xS kk).P .eql 55 (.agg [.lit (.int .i64 a0),.lit (.int .i64 a1),.lit (.int .i64 a2),.lit (.int .u64 a3),.lit (.int .u64 a4),.lit (.int .u64 a5),.lit (.int .i64 a6)]) (.agg [.lit (.int .i64 b0),.lit (.int .i64 b1),.lit (.int .i64 b2),.lit (.int .u64 b3),.lit (.int .u64 b4),.lit (.int .u64 b5),.lit (.int .i64 b6)])=some (.lit (.bool ((a0==b0)&&((a1==b1)&&((a2==b2)&&((a3==b3)&&((a4==b4)&&((a5==b5)&&((a6==b6)&&true))))))))):=by kernel_rfl
theorem agw (a0 b0:Int) (a1 b1:Int) (a2 b2:Int) (a3 b3:Int) (a4 b4:Int) (a5 b5:Int) (a6 b6:Int):au (xS kk).P .neq 55 (.agg [.lit (.int .i64 a0),.lit (.int .i64 a1),.lit (.int .i64 a2),.lit (.int .u64 a3),.lit (.int .u64 a4),.lit (.int .u64 a5),.lit (.int .i64 a6)]) (.agg [.lit (.int .i64 b0),.lit (.int .i64 b1),.lit (.int .i64 b2),.lit (.int .u64 b3),.lit (.int .u64 b4),.lit (.int .u64 b5),.lit (.int .i64 b6)])=some (.lit (.bool (!((a0==b0)&&((a1==b1)&&((a2==b2)&&((a3==b3)&&((a4==b4)&&((a5==b5)&&((a6==b6)&&true)))))))))):=by kernel_rfl
theorem aaM (a0 b0:Int) (a1 b1:Int) (a2 b2:Int):au (xS kk).P .eql 129 (.agg [.lit (.int .i64 a0),.lit (.int .i64 a1),.lit (.int .i64 a2)]) (.agg [.lit (.int .i64 b0),.lit (.int .i64 b1),.lit (.int .i64 b2)])=some (.lit (.bool ((a0==b0)&&((a1==b1)&&((a2==b2)&&true))))):=by kernel_rfl
theorem abC (a0 b0:Int) (a1 b1:Int) (a2 b2:Int):au (xS kk).P .neq 129 (.agg [.lit (.int .i64 a0),.lit (.int .i64 a1),.lit (.int .i64 a2)]) (.agg [.lit (.int .i64 b0),.lit (.int .i64 b1),.lit (.int .i64 b2)])=some (.lit (.bool (!((a0==b0)&&((a1==b1)&&((a2==b2)&&true)))))):=by kernel_rfl
theorem F2 (c0 c1 c2:V):bf (xS kk).P 23 [(0,c0),(1,c1),(2,c2)]=(oS [(V.lit (Value.int .i64 (0))),(V.lit (Value.int .i64 (0))),(V.lit (Value.int .i64 (0))),(V.lit (Value.int .i64 (0)))] [(0,1,c0),(1,1,c1),(2,1,c2)]).map .agg:=by kernel_rfl
theorem aa4:bf (xS kk).P 30 []=(oS [(V.lit (Value.int .i64 (0))),(V.lit (Value.int .i64 (0))),(V.lit (Value.int .i64 (0))),(V.lit (Value.int .i64 (0))),V.nil,V.nil,V.nil,V.nil] []).map .agg:=by kernel_rfl
theorem FI (c0 c1 c2:V):bf (xS kk).P 30 [(0,c0),(1,c1),(2,c2)]=(oS [(V.lit (Value.int .i64 (0))),(V.lit (Value.int .i64 (0))),(V.lit (Value.int .i64 (0))),(V.lit (Value.int .i64 (0))),V.nil,V.nil,V.nil,V.nil] [(0,4,c0),(4,1,c1),(5,1,c2)]).map .agg:=by kernel_rfl
theorem aaS:bf (xS kk).P 48 []=(oS [(V.lit (Value.int .i64 (0))),(V.lit (Value.int .i64 (0))),(V.lit (Value.int .u64 (0)))] []).map .agg:=by kernel_rfl
theorem WT (c0:V):bf (xS kk).P 48 [(0,c0)]=(oS [(V.lit (Value.int .i64 (0))),(V.lit (Value.int .i64 (0))),(V.lit (Value.int .u64 (0)))] [(0,1,c0)]).map .agg:=by kernel_rfl
theorem EY (c0 c1 c2:V):bf (xS kk).P 52 [(0,c0),(1,c1),(2,c2)]=(oS [(V.lit (Value.int .i64 (0))),(V.lit (Value.int .i64 (0))),(V.lit (Value.int .i64 (0)))] [(0,1,c0),(1,1,c1),(2,1,c2)]).map .agg:=by kernel_rfl
theorem ZL:bf (xS kk).P 55 []=(oS [(V.lit (Value.int .i64 (0))),(V.lit (Value.int .i64 (0))),(V.lit (Value.int .i64 (0))),(V.lit (Value.int .u64 (0))),(V.lit (Value.int .u64 (0))),(V.lit (Value.int .u64 (0))),(V.lit (Value.int .i64 (0)))] []).map .agg:=by kernel_rfl
theorem Gm (c0 c1 c2:V):bf (xS kk).P 55 [(0,c0),(2,c1),(3,c2)]=(oS [(V.lit (Value.int .i64 (0))),(V.lit (Value.int .i64 (0))),(V.lit (Value.int .i64 (0))),(V.lit (Value.int .u64 (0))),(V.lit (Value.int .u64 (0))),(V.lit (Value.int .u64 (0))),(V.lit (Value.int .i64 (0)))] [(0,1,c0),(2,1,c1),(3,1,c2)]).map .agg:=by kernel_rfl
theorem BR (c0 c1 c2 c3:V):bf (xS kk).P 55 [(0,c0),(2,c1),(3,c2),(6,c3)]=(oS [(V.lit (Value.int .i64 (0))),(V.lit (Value.int .i64 (0))),(V.lit (Value.int .i64 (0))),(V.lit (Value.int .u64 (0))),(V.lit (Value.int .u64 (0))),(V.lit (Value.int .u64 (0))),(V.lit (Value.int .i64 (0)))] [(0,1,c0),(2,1,c1),(3,1,c2),(6,1,c3)]).map .agg:=by kernel_rfl
theorem Gt (c0 c1 c2:V):bf (xS kk).P 57 [(0,c0),(1,c1),(2,c2)]=(oS [(V.lit (Value.int .i64 (0))),V.nil,(V.lit (Value.int .i64 (0))),(V.lit (Value.int .i64 (0))),(V.lit (Value.int .i64 (0))),(V.lit (Value.int .u64 (0))),(V.lit (Value.int .u64 (0))),(V.lit (Value.int .u64 (0))),(V.lit (Value.int .i64 (0)))] [(0,1,c0),(1,1,c1),(2,7,c2)]).map .agg:=by kernel_rfl
theorem VX (c0:V):bf (xS kk).P 57 [(1,c0)]=(oS [(V.lit (Value.int .i64 (0))),V.nil,(V.lit (Value.int .i64 (0))),(V.lit (Value.int .i64 (0))),(V.lit (Value.int .i64 (0))),(V.lit (Value.int .u64 (0))),(V.lit (Value.int .u64 (0))),(V.lit (Value.int .u64 (0))),(V.lit (Value.int .i64 (0)))] [(1,1,c0)]).map .agg:=by kernel_rfl
theorem UV (c0:V):bf (xS kk).P 65 [(2,c0)]=(oS [(V.lit (Value.int .i64 (0))),V.nil,(V.lit (Value.int .i64 (0))),(V.lit (Value.int .i64 (0))),(V.lit (Value.int .i64 (0))),(V.lit (Value.int .u64 (0))),(V.lit (Value.int .u64 (0))),(V.lit (Value.int .u64 (0))),(V.lit (Value.int .i64 (0))),(V.lit (Value.int .i64 (0))),(V.lit (Value.int .i64 (0)))] [(2,7,c0)]).map .agg:=by kernel_rfl
theorem Qt (c0:V):bf (xS kk).P 129 [(0,c0)]=(oS [(V.lit (Value.int .i64 (0))),(V.lit (Value.int .i64 (0))),(V.lit (Value.int .i64 (0)))] [(0,1,c0)]).map .agg:=by kernel_rfl
theorem oD (c0 c1 c2 c3 c4 c5:V):bf (xS kk).P 168 [(0,c0),(1,c1),(2,c2),(3,c3),(4,c4),(5,c5)]=(oS [(V.lit (Value.int .i64 (0))),V.nil,(V.lit (Value.int .i64 (0))),(V.lit (Value.int .i64 (0))),(V.lit (Value.int .i64 (0))),(V.lit (Value.int .u64 (0))),(V.lit (Value.int .u64 (0))),(V.lit (Value.int .u64 (0))),(V.lit (Value.int .i64 (0))),(V.lit (Value.int .i64 (0))),(V.lit (Value.int .i64 (0))),(V.lit (Value.int .i64 (0))),(V.lit (Value.int .i64 (0))),(V.lit (Value.int .i64 (0))),(V.lit (Value.int .i64 (0))),V.nil,V.nil,(V.lit (Value.int .i64 (0))),(V.lit (Value.int .u64 (0))),V.nil] [(0,11,c0),(11,4,c1),(15,1,c2),(16,1,c3),(17,1,c4),(18,1,c5)]).map .agg:=by kernel_rfl
theorem dI (c0 c1 c2 c3 c4 c5 c6 c7 c8 c9 c10 c11 c12 c13 c14 c15:V):bf (xS kk).P 169 [(0,c0),(1,c1),(2,c2),(3,c3),(4,c4),(5,c5),(6,c6),(7,c7),(8,c8),(9,c9),(10,c10),(11,c11),(12,c12),(13,c13),(14,c14),(15,c15)]=(oS [(V.lit Value.nilFunc),(V.lit Value.nilFunc),(V.lit Value.nilFunc),(V.lit Value.nilFunc),(V.lit Value.nilFunc),(V.lit Value.nilFunc),(V.lit Value.nilFunc),(V.lit Value.nilFunc),(V.lit Value.nilFunc),(V.lit Value.nilFunc),(V.lit Value.nilFunc),(V.lit Value.nilFunc),(V.lit Value.nilFunc),(V.lit Value.nilFunc),(V.lit Value.nilFunc),(V.lit Value.nilFunc)] [(0,1,c0),(1,1,c1),(2,1,c2),(3,1,c3),(4,1,c4),(5,1,c5),(6,1,c6),(7,1,c7),(8,1,c8),(9,1,c9),(10,1,c10),(11,1,c11),(12,1,c12),(13,1,c13),(14,1,c14),(15,1,c15)]).map .agg:=by kernel_rfl
theorem oH (c0 c1 c2 c3 c4 c5:V):bf (xS kk).P 175 [(0,c0),(1,c1),(2,c2),(3,c3),(4,c4),(5,c5)]=(oS [(V.lit Value.nilFunc),(V.lit Value.nilFunc),(V.lit Value.nilFunc),(V.lit Value.nilFunc),(V.lit Value.nilFunc),(V.lit Value.nilFunc)] [(0,1,c0),(1,1,c1),(2,1,c2),(3,1,c3),(4,1,c4),(5,1,c5)]).map .agg:=by kernel_rfl
theorem Vi:bf (xS kk).P 194 []=(oS [(V.lit (Value.int .i64 (0))),(V.lit (Value.int .i64 (0)))] []).map .agg:=by kernel_rfl
theorem IJ (c0 c1:V):bf (xS kk).P 194 [(0,c0),(1,c1)]=(oS [(V.lit (Value.int .i64 (0))),(V.lit (Value.int .i64 (0)))] [(0,1,c0),(1,1,c1)]).map .agg:=by kernel_rfl
theorem Dw (c0 c1 c2:V):bf (xS kk).P 205 [(0,c0),(1,c1),(2,c2)]=(oS [(V.lit (Value.int .i64 (0))),(V.lit (Value.int .i64 (0))),(V.lit (Value.int .i64 (0))),(V.lit (Value.int .u64 (0))),(V.lit (Value.int .u64 (0))),(V.lit (Value.int .u64 (0))),(V.lit (Value.int .i64 (0))),(V.lit (Value.int .i64 (0))),(V.lit (Value.int .i64 (0))),(V.lit (Value.int .i64 (0))),(V.lit (Value.int .i64 (0))),V.nil] [(0,7,c0),(7,4,c1),(11,1,c2)]).map .agg:=by kernel_rfl
theorem DN (c0 c1 c2:V):bf (xS kk).P 221 [(0,c0),(1,c1),(2,c2)]=(oS [(V.lit (Value.int .i64 (0))),(V.lit (Value.int .i64 (0))),(V.lit (Value.int .i64 (0))),(V.lit (Value.int .u64 (0))),(V.lit (Value.int .u64 (0))),(V.lit (Value.int .u64 (0))),(V.lit (Value.int .i64 (0))),(V.lit (Value.int .i64 (0))),(V.lit (Value.int .i64 (0))),(V.lit (Value.int .i64 (0))),(V.lit (Value.int .i64 (0))),V.nil] [(0,7,c0),(7,4,c1),(11,1,c2)]).map .agg:=by kernel_rfl
theorem EF (c0 c1 c2:V):bf (xS kk).P 235 [(0,c0),(1,c1),(2,c2)]=(oS [(V.lit (Value.int .i64 (0))),(V.lit (Value.int .i64 (0))),(V.lit (Value.int .i64 (0))),(V.lit (Value.int .u64 (0))),(V.lit (Value.int .u64 (0))),(V.lit (Value.int .u64 (0))),(V.lit (Value.int .i64 (0))),(V.lit (Value.int .i64 (0))),(V.lit (Value.int .i64 (0))),(V.lit (Value.int .i64 (0))),(V.lit (Value.int .i64 (0))),V.nil] [(0,7,c0),(7,4,c1),(11,1,c2)]).map .agg:=by kernel_rfl
theorem wQ (c0 c1 c2 c3:V):bf (xS kk).P 236 [(0,c0),(1,c1),(2,c2),(3,c3)]=(oS [(V.lit Value.nilFunc),(V.lit Value.nilFunc),(V.lit Value.nilFunc),(V.lit Value.nilFunc)] [(0,1,c0),(1,1,c1),(2,1,c2),(3,1,c3)]).map .agg:=by kernel_rfl
theorem XN (l:List (Nat×V)):aD (xS kk).P wl 24 0 l H=(fC wl 2 l [] H).bind fun p=>some (.own p.2.length 0 0,p.2++[.rows 2 p.1 0 true]):=by kernel_rfl
theorem Uk (l:List (Nat×V)):aD (xS kk).P wl 25 1 l H=(fC wl 1 l [[(V.lit (Value.int .u64 (0)))]] H).bind fun p=>some (.own p.2.length 0 1,p.2++[.rows 1 p.1 0 true]):=by kernel_rfl
theorem W6 (l:List (Nat×V)):aD (xS kk).P wl 26 0 l H=(fC wl 1 l [] H).bind fun p=>some (.own p.2.length 0 0,p.2++[.rows 1 p.1 0 true]):=by kernel_rfl
theorem Vr (l:List (Nat×V)):aD (xS kk).P wl 26 1 l H=(fC wl 1 l [[(V.lit (Value.int .u64 (0)))]] H).bind fun p=>some (.own p.2.length 0 1,p.2++[.rows 1 p.1 0 true]):=by kernel_rfl
theorem VJ (l:List (Nat×V)):aD (xS kk).P wl 27 0 l H=(fC wl 11 l [] H).bind fun p=>some (.own p.2.length 0 0,p.2++[.rows 11 p.1 0 true]):=by kernel_rfl
theorem U2 (l:List (Nat×V)):aD (xS kk).P wl 27 1 l H=(fC wl 11 l [[(V.lit (Value.int .i64 (0))),V.ro [],(V.lit (Value.int .i64 (0))),(V.lit (Value.int .i64 (0))),(V.lit (Value.int .i64 (0))),(V.lit (Value.int .u64 (0))),(V.lit (Value.int .u64 (0))),(V.lit (Value.int .u64 (0))),(V.lit (Value.int .i64 (0))),(V.lit (Value.int .i64 (0))),(V.lit (Value.int .i64 (0)))]] H).bind fun p=>some (.own p.2.length 0 1,p.2++[.rows 11 p.1 0 true]):=by kernel_rfl
theorem WC (l:List (Nat×V)):aD (xS kk).P wl 28 0 l H=(fC wl 9 l [] H).bind fun p=>some (.own p.2.length 0 0,p.2++[.rows 9 p.1 0 true]):=by kernel_rfl
theorem Xc (l:List (Nat×V)):aD (xS kk).P wl 28 1 l H=(fC wl 9 l [[(V.lit (Value.int .i64 (0))),V.ro [],(V.lit (Value.int .i64 (0))),(V.lit (Value.int .i64 (0))),(V.lit (Value.int .i64 (0))),(V.lit (Value.int .u64 (0))),(V.lit (Value.int .u64 (0))),(V.lit (Value.int .u64 (0))),(V.lit (Value.int .i64 (0)))]] H).bind fun p=>some (.own p.2.length 0 1,p.2++[.rows 9 p.1 0 true]):=by kernel_rfl
theorem XB (l:List (Nat×V)):aD (xS kk).P wl 31 1 l H=(fC wl 3 l [[(V.lit (Value.int .i64 (0))),(V.lit (Value.int .i64 (0))),(V.lit (Value.int .u64 (0)))]] H).bind fun p=>some (.own p.2.length 0 1,p.2++[.rows 3 p.1 0 true]):=by kernel_rfl
theorem VR (l:List (Nat×V)):aD (xS kk).P wl 31 2 l H=(fC wl 3 l [[(V.lit (Value.int .i64 (0))),(V.lit (Value.int .i64 (0))),(V.lit (Value.int .u64 (0)))],[(V.lit (Value.int .i64 (0))),(V.lit (Value.int .i64 (0))),(V.lit (Value.int .u64 (0)))]] H).bind fun p=>some (.own p.2.length 0 2,p.2++[.rows 3 p.1 0 true]):=by kernel_rfl
theorem Uz (l:List (Nat×V)):aD (xS kk).P wl 34 1 l H=(fC wl 3 l [[(V.lit (Value.int .i64 (0))),(V.lit (Value.int .i64 (0))),(V.lit (Value.int .i64 (0)))]] H).bind fun p=>some (.own p.2.length 0 1,p.2++[.rows 3 p.1 0 true]):=by kernel_rfl
theorem VN (l:List (Nat×V)):aD (xS kk).P wl 53 0 l H=(fC wl 1 l [] H).bind fun p=>some (.own p.2.length 0 0,p.2++[.rows 1 p.1 0 true]):=by kernel_rfl
theorem XX (l:List (Nat×V)):aD (xS kk).P wl 53 1 l H=(fC wl 1 l [[(V.lit (Value.int .i64 (0)))]] H).bind fun p=>some (.own p.2.length 0 1,p.2++[.rows 1 p.1 0 true]):=by kernel_rfl
theorem Xi (l:List (Nat×V)):aD (xS kk).P wl 53 5 l H=(fC wl 1 l [[(V.lit (Value.int .i64 (0)))],[(V.lit (Value.int .i64 (0)))],[(V.lit (Value.int .i64 (0)))],[(V.lit (Value.int .i64 (0)))],[(V.lit (Value.int .i64 (0)))]] H).bind fun p=>some (.own p.2.length 0 5,p.2++[.rows 1 p.1 0 true]):=by kernel_rfl
theorem Wx (l:List (Nat×V)):aD (xS kk).P wl 63 0 l H=(fC wl 3 l [] H).bind fun p=>some (.own p.2.length 0 0,p.2++[.rows 3 p.1 0 true]):=by kernel_rfl
theorem X8 (l:List (Nat×V)):aD (xS kk).P wl 63 1 l H=(fC wl 3 l [[(V.lit (Value.int .i64 (0))),(V.lit (Value.int .i64 (0))),(V.lit (Value.int .i64 (0)))]] H).bind fun p=>some (.own p.2.length 0 1,p.2++[.rows 3 p.1 0 true]):=by kernel_rfl
theorem Ru (l:List (Nat×V)):aD (xS kk).P wl 207 5 l H=(fC wl 1 l [[(V.lit Value.nilFunc)],[(V.lit Value.nilFunc)],[(V.lit Value.nilFunc)],[(V.lit Value.nilFunc)],[(V.lit Value.nilFunc)]] H).bind fun p=>some (.own p.2.length 0 5,p.2++[.rows 1 p.1 0 true]):=by kernel_rfl
theorem Rh (l:List (Nat×V)):aD (xS kk).P wl 223 5 l H=(fC wl 1 l [[(V.lit Value.nilFunc)],[(V.lit Value.nilFunc)],[(V.lit Value.nilFunc)],[(V.lit Value.nilFunc)],[(V.lit Value.nilFunc)]] H).bind fun p=>some (.own p.2.length 0 5,p.2++[.rows 1 p.1 0 true]):=by kernel_rfl
theorem RY (l:List (Nat×V)):aD (xS kk).P wl 238 4 l H=(fC wl 1 l [[(V.lit Value.nilFunc)],[(V.lit Value.nilFunc)],[(V.lit Value.nilFunc)],[(V.lit Value.nilFunc)]] H).bind fun p=>some (.own p.2.length 0 4,p.2++[.rows 1 p.1 0 true]):=by kernel_rfl
theorem abp (v:V):eA (xS kk).P wl 138 (.map id) (.lit (.int .i64 n)) v H=inB wl .i64 id n v H (H[id]?):=by kernel_rfl
theorem ZA (ok:Bool):fS (xS kk).P 138 (.map id) (.lit (.int .i64 n)) ok H=lkB .i64 (V.lit Value.nilFunc) ok n (H[id]?):=by kernel_rfl
theorem acf (v:V):eA (xS kk).P wl 201 (.map id) (.lit (.int .i64 n)) v H=inB wl .i64 id n v H (H[id]?):=by kernel_rfl
theorem ac5 (ok:Bool):fS (xS kk).P 201 (.map id) (.lit (.int .i64 n)) ok H=lkB .i64 (V.lit Value.nilFunc) ok n (H[id]?):=by kernel_rfl
theorem ac1 (v:V):eA (xS kk).P wl 212 (.map id) (.lit (.int .i64 n)) v H=inB wl .i64 id n v H (H[id]?):=by kernel_rfl
theorem aaR (ok:Bool):fS (xS kk).P 212 (.map id) (.lit (.int .i64 n)) ok H=lkB .i64 (V.lit Value.nilFunc) ok n (H[id]?):=by kernel_rfl
theorem acu (row off:Nat):am (xS kk).P 169 (.ptr id g row off) (.lit (.int k n)) H=arC id g row [(0,off),(1,off+1),(2,off+2),(3,off+3),(4,off+4),(5,off+5),(6,off+6),(7,off+7),(8,off+8),(9,off+9),(10,off+10),(11,off+11),(12,off+12),(13,off+13),(14,off+14),(15,off+15)] n:=Kb (e:=1) (len:=16) (sz:=1) (by kernel_rfl) (by kernel_rfl) (by decide)
theorem adh (row off:Nat):am (xS kk).P 175 (.ptr id g row off) (.lit (.int k n)) H=arC id g row [(0,off),(1,off+1),(2,off+2),(3,off+3),(4,off+4),(5,off+5)] n:=Kb (e:=1) (len:=6) (sz:=1) (by kernel_rfl) (by kernel_rfl) (by decide)
theorem acJ (row off:Nat):am (xS kk).P 236 (.ptr id g row off) (.lit (.int k n)) H=arC id g row [(0,off),(1,off+1),(2,off+2),(3,off+3)] n:=Kb (e:=1) (len:=4) (sz:=1) (by kernel_rfl) (by kernel_rfl) (by decide)
end
def xF0:=PLift.up (aI (aI (aI (aI (aI (aI (aI (aI @ajk @ajj) (aI @ai7 @ajp)) (aI (aI @ai8 @aji) (aI @aeb (aI @afN @afM)))) (aI (aI (aI @ahC @afi) (aI @aeg (aI @agd @aeT))) (aI (aI @afm @agz) (aI @agv (aI @afo @aee))))) (aI (aI (aI (aI @agl @aeI) (aI @ahF (aI @afS @aeY))) (aI (aI @ag1 @ahq) (aI @afC (aI @aeS @agS)))) (aI (aI (aI @afc @aew) (aI @af1 (aI @ae2 @afA))) (aI (aI @afa @aes) (aI @aeW (aI @ahs @ae3)))))) (aI (aI (aI (aI (aI @aey @Zt) (aI @acz @adp)) (aI (aI @adr @aaU) (aI @abv (aI @acM @adb)))) (aI (aI (aI @acy @adB) (aI @abt (aI @abf @aaC))) (aI (aI @Z2 @acj) (aI @Z6 (aI @adA @abE))))) (aI (aI (aI (aI @abc @abk) (aI @aaN (aI @ab5 @ai5))) (aI (aI @aje @ajb) (aI @agb (aI @ael @ah3)))) (aI (aI (aI @afO @agh) (aI @agN (aI @ahh @aej))) (aI (aI @abb @Zk) (aI @ZW (aI @ZD @aak))))))) (aI (aI (aI (aI (aI (aI @Zw @ac9) (aI @acv @ac4)) (aI (aI @UD @UE) (aI @UQ (aI @XQ @W2)))) (aI (aI (aI @T3 @Xf) (aI @Vo (aI @Yi @Wn))) (aI (aI @V2 @UT) (aI @U1 (aI @Wc @UX))))) (aI (aI (aI (aI @Yt @VH) (aI @Xh (aI @VD @Yx))) (aI (aI @Ux @Yw) (aI @VO (aI @UJ @Vs)))) (aI (aI (aI @Yh @T7) (aI @XM (aI @WM @Wl))) (aI (aI @XC @UW) (aI @W8 (aI @XD @VY)))))) (aI (aI (aI (aI (aI @VB @Up) (aI @Vt @Un)) (aI (aI @Yg @Xp) (aI @VA (aI @UK @Vn)))) (aI (aI (aI @UL @VW) (aI @WE (aI @WF @VV))) (aI (aI @VZ @WQ) (aI @Xx (aI @Va @Xg))))) (aI (aI (aI (aI @Xo @Uf) (aI @Qr (aI @ON @Re))) (aI (aI @PL @Q1) (aI @PU (aI @QB @OX)))) (aI (aI (aI @Rl @R6) (aI @P3 (aI @Px @RD))) (aI (aI @O2 @RB) (aI @Qc (aI @Ov @QR)))))))) (aI (aI (aI (aI (aI (aI (aI @OK @Qm) (aI @RF @OZ)) (aI (aI @OY @PO) (aI @O1 (aI @Rp @Ow)))) (aI (aI (aI @OQ @RQ) (aI @QW (aI @OS @RX))) (aI (aI @Se @N6) (aI @QY (aI @Sd @OI))))) (aI (aI (aI (aI @P0 @N5) (aI @PF (aI @OO @OD))) (aI (aI @Pn @Ph) (aI @RJ (aI @Oa @O8)))) (aI (aI (aI @aeG @aeQ) (aI @aeh (aI @afb @af2))) (aI (aI @ahv @ahM) (aI @afW (aI @ah4 @ahQ)))))) (aI (aI (aI (aI (aI @agV @agm) (aI @agB @aev)) (aI (aI @aeV @ahR) (aI @aeA (aI @ahK @Zj)))) (aI (aI (aI @ZF @Y5) (aI @abd (aI @aaV @adc))) (aI (aI @abL @Y9) (aI @ab1 (aI @aaK @Z5))))) (aI (aI (aI (aI @aau @ab0) (aI @acs (aI @aay @V9))) (aI (aI @XG @Od) (aI @Ql (aI @Q7 @Q9)))) (aI (aI (aI @QT @PT) (aI @OG (aI @Ou @Qn))) (aI (aI @N4 @On) (aI @P7 (aI @Qx @QX))))))) (aI (aI (aI (aI (aI (aI @R9 @Pw) (aI @PE @Om)) (aI (aI @Sc @Pt) (aI @RU (aI @N7 @N3)))) (aI (aI (aI @Ra @afE) (aI @ahc (aI @afe @ahD))) (aI (aI @agF @aeo) (aI @ahH (aI @afj @Zf))))) (aI (aI (aI (aI @TZ @X0) (aI @afR (aI @afs @afP))) (aI (aI @aem @aga) (aI @agw (aI @aaM @abC)))) (aI (aI (aI @F2 @aa4) (aI @FI (aI @aaS @WT))) (aI (aI @EY @ZL) (aI @Gm (aI @BR @Gt)))))) (aI (aI (aI (aI (aI @VX @UV) (aI @Qt (aI @oD @dI))) (aI (aI @oH @Vi) (aI @IJ (aI @Dw @DN)))) (aI (aI (aI @EF @wQ) (aI @XN (aI @Uk @W6))) (aI (aI @Vr @VJ) (aI @U2 (aI @WC @Xc))))) (aI (aI (aI (aI @XB @VR) (aI @Uz (aI @VN @XX))) (aI (aI @Xi @Wx) (aI @X8 (aI @Ru @Rh)))) (aI (aI (aI @RY @abp) (aI @ZA (aI @acf @ac5))) (aI (aI @ac1 @aaR) (aI @acu (aI @adh @acJ)))))))))
theorem xF:type_of% xF0.down:=xF0.down
end Go.Ab
