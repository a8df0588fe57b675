import Derived.Test.YtblpbpnilkfjhaaGreatAbLibC
import Derived.Test.YtblpbpnilkfjhaaGreatAbLibB
import Derived.Test.YtblpbpnilkfjhaaGreatR6Seat
set_option linter.unusedVariables false
set_option linter.unusedSimpArgs false
set_option maxRecDepth 100000
set_option linter.unusedVariables false
namespace Go.Ab
open Go.Proofs
theorem afC (kk:Nat) (c:V) (cs:List V):aT (xS kk).P 1 (c::cs)=some c:=by kernel_rfl
theorem af4 (kk:Nat):aR (xS kk).P 1=1:=by kernel_rfl
theorem afO (kk:Nat) (c:V) (cs:List V):aT (xS kk).P 3 (c::cs)=some c:=by kernel_rfl
theorem agk (kk:Nat):aR (xS kk).P 3=1:=by kernel_rfl
theorem afY (kk:Nat) (c:V) (cs:List V):aT (xS kk).P 4 (c::cs)=some c:=by kernel_rfl
theorem afz (kk:Nat):aR (xS kk).P 4=1:=by kernel_rfl
theorem ac3 (kk:Nat) (c0 c1 c2 c3:V) (cs:List V):aT (xS kk).P 23 (c0::c1::c2::c3::cs)=some (.agg [c0,c1,c2,c3]):=by kernel_rfl
theorem acf (kk:Nat):aR (xS kk).P 23=4:=by kernel_rfl
theorem ace (kk:Nat) (c:V) (cs:List V):aT (xS kk).P 24 (c::cs)=some c:=by kernel_rfl
theorem adC (kk:Nat):aR (xS kk).P 24=1:=by kernel_rfl
theorem adW (kk:Nat) (c:V) (cs:List V):aT (xS kk).P 26 (c::cs)=some c:=by kernel_rfl
theorem abx (kk:Nat):aR (xS kk).P 26=1:=by kernel_rfl
theorem acx (kk:Nat) (c:V) (cs:List V):aT (xS kk).P 27 (c::cs)=some c:=by kernel_rfl
theorem abI (kk:Nat):aR (xS kk).P 27=1:=by kernel_rfl
theorem aeq (kk:Nat) (c:V) (cs:List V):aT (xS kk).P 28 (c::cs)=some c:=by kernel_rfl
theorem aet (kk:Nat):aR (xS kk).P 28=1:=by kernel_rfl
theorem adM (kk:Nat) (c0 c1 c2 c3 c4 c5 c6 c7:V) (cs:List V):aT (xS kk).P 30 (c0::c1::c2::c3::c4::c5::c6::c7::cs)=some (.agg [c0,c1,c2,c3,c4,c5,c6,c7]):=by kernel_rfl
theorem abE (kk:Nat):aR (xS kk).P 30=8:=by kernel_rfl
theorem acA (kk:Nat) (c:V) (cs:List V):aT (xS kk).P 32 (c::cs)=some c:=by kernel_rfl
theorem acq (kk:Nat):aR (xS kk).P 32=1:=by kernel_rfl
theorem ac1 (kk:Nat) (c:V) (cs:List V):aT (xS kk).P 34 (c::cs)=some c:=by kernel_rfl
theorem ad4 (kk:Nat):aR (xS kk).P 34=1:=by kernel_rfl
theorem abM (kk:Nat) (c:V) (cs:List V):aT (xS kk).P 46 (c::cs)=some c:=by kernel_rfl
theorem abj (kk:Nat):aR (xS kk).P 46=1:=by kernel_rfl
theorem aeT (kk:Nat) (c0 c1 c2:V) (cs:List V):aT (xS kk).P 48 (c0::c1::c2::cs)=some (.agg [c0,c1,c2]):=by kernel_rfl
theorem acz (kk:Nat):aR (xS kk).P 48=3:=by kernel_rfl
theorem abD (kk:Nat) (c0 c1 c2:V) (cs:List V):aT (xS kk).P 52 (c0::c1::c2::cs)=some (.agg [c0,c1,c2]):=by kernel_rfl
theorem ado (kk:Nat):aR (xS kk).P 52=3:=by kernel_rfl
theorem aba (kk:Nat) (c:V) (cs:List V):aT (xS kk).P 53 (c::cs)=some c:=by kernel_rfl
theorem adn (kk:Nat):aR (xS kk).P 53=1:=by kernel_rfl
theorem abk (kk:Nat) (c0 c1 c2 c3 c4 c5 c6:V) (cs:List V):aT (xS kk).P 55 (c0::c1::c2::c3::c4::c5::c6::cs)=some (.agg [c0,c1,c2,c3,c4,c5,c6]):=by kernel_rfl
theorem adQ (kk:Nat):aR (xS kk).P 55=7:=by kernel_rfl
theorem adg (kk:Nat) (c0 c1 c2 c3 c4 c5 c6 c7 c8:V) (cs:List V):aT (xS kk).P 57 (c0::c1::c2::c3::c4::c5::c6::c7::c8::cs)=some (.agg [c0,c1,c2,c3,c4,c5,c6,c7,c8]):=by kernel_rfl
theorem adZ (kk:Nat):aR (xS kk).P 57=9:=by kernel_rfl
theorem abG (kk:Nat) (c:V) (cs:List V):aT (xS kk).P 63 (c::cs)=some c:=by kernel_rfl
theorem aed (kk:Nat):aR (xS kk).P 63=1:=by kernel_rfl
theorem acn (kk:Nat) (c0 c1 c2 c3 c4 c5 c6 c7 c8 c9 c10:V) (cs:List V):aT (xS kk).P 65 (c0::c1::c2::c3::c4::c5::c6::c7::c8::c9::c10::cs)=some (.agg [c0,c1,c2,c3,c4,c5,c6,c7,c8,c9,c10]):=by kernel_rfl
theorem adN (kk:Nat):aR (xS kk).P 65=11:=by kernel_rfl
theorem acJ (kk:Nat) (c:V) (cs:List V):aT (xS kk).P 86 (c::cs)=some c:=by kernel_rfl
theorem aeP (kk:Nat):aR (xS kk).P 86=1:=by kernel_rfl
theorem ZQ (kk:Nat) (c0 c1:V) (cs:List V):aT (xS kk).P 101 (c0::c1::cs)=some (.agg [c0,c1]):=by kernel_rfl
theorem Zm (kk:Nat):aR (xS kk).P 101=2:=by kernel_rfl
theorem aax (kk:Nat) (c:V) (cs:List V):aT (xS kk).P 116 (c::cs)=some c:=by kernel_rfl
theorem Zl (kk:Nat):aR (xS kk).P 116=1:=by kernel_rfl
theorem aam (kk:Nat) (c0 c1 c2:V) (cs:List V):aT (xS kk).P 129 (c0::c1::c2::cs)=some (.agg [c0,c1,c2]):=by kernel_rfl
theorem ZG (kk:Nat):aR (xS kk).P 129=3:=by kernel_rfl
theorem Yh (kk:Nat) (c:V) (cs:List V):aT (xS kk).P 150 (c::cs)=some c:=by kernel_rfl
theorem XV (kk:Nat):aR (xS kk).P 150=1:=by kernel_rfl
theorem Yl (kk:Nat) (c0 c1 c2 c3 c4 c5 c6 c7 c8 c9 c10 c11 c12 c13 c14 c15:V) (cs:List V):aT (xS kk).P 169 (c0::c1::c2::c3::c4::c5::c6::c7::c8::c9::c10::c11::c12::c13::c14::c15::cs)=some (.agg [c0,c1,c2,c3,c4,c5,c6,c7,c8,c9,c10,c11,c12,c13,c14,c15]):=by kernel_rfl
theorem Z5 (kk:Nat):aR (xS kk).P 169=16:=by kernel_rfl
theorem ZF (kk:Nat) (c:V) (cs:List V):aT (xS kk).P 170 (c::cs)=some c:=by kernel_rfl
theorem YR (kk:Nat):aR (xS kk).P 170=1:=by kernel_rfl
theorem Zx (kk:Nat) (c0 c1 c2 c3 c4 c5:V) (cs:List V):aT (xS kk).P 175 (c0::c1::c2::c3::c4::c5::cs)=some (.agg [c0,c1,c2,c3,c4,c5]):=by kernel_rfl
theorem Xe (kk:Nat):aR (xS kk).P 175=6:=by kernel_rfl
theorem aae (kk:Nat) (c0 c1:V) (cs:List V):aT (xS kk).P 194 (c0::c1::cs)=some (.agg [c0,c1]):=by kernel_rfl
theorem Xi (kk:Nat):aR (xS kk).P 194=2:=by kernel_rfl
theorem Zi (kk:Nat) (c:V) (cs:List V):aT (xS kk).P 206 (c::cs)=some c:=by kernel_rfl
theorem Yo (kk:Nat):aR (xS kk).P 206=1:=by kernel_rfl
theorem Yx (kk:Nat) (c:V) (cs:List V):aT (xS kk).P 223 (c::cs)=some c:=by kernel_rfl
theorem Wn (kk:Nat):aR (xS kk).P 223=1:=by kernel_rfl
theorem Y2 (kk:Nat) (c0 c1 c2 c3:V) (cs:List V):aT (xS kk).P 236 (c0::c1::c2::c3::cs)=some (.agg [c0,c1,c2,c3]):=by kernel_rfl
theorem Xh (kk:Nat):aR (xS kk).P 236=4:=by kernel_rfl
theorem afX (kk:Nat) (H:Hp):aw (xS kk).P 1 H=some (.ptr (bv [(V.lit Value.nilFunc)] H).2.length 0 0 0,(bv [(V.lit Value.nilFunc)] H).2++[.box (bv [(V.lit Value.nilFunc)] H).1]):=by kernel_rfl
theorem agj (kk:Nat) (H:Hp):aw (xS kk).P 3 H=some (.ptr (bv [(V.lit (Value.int .i64 (0)))] H).2.length 0 0 0,(bv [(V.lit (Value.int .i64 (0)))] H).2++[.box (bv [(V.lit (Value.int .i64 (0)))] H).1]):=by kernel_rfl
theorem afP (kk:Nat) (H:Hp):aw (xS kk).P 4 H=some (.ptr (bv [(V.lit (Value.bool false))] H).2.length 0 0 0,(bv [(V.lit (Value.bool false))] H).2++[.box (bv [(V.lit (Value.bool false))] H).1]):=by kernel_rfl
theorem adF (kk:Nat) (H:Hp):aw (xS kk).P 26 H=some (.ptr (bv [V.nil] H).2.length 0 0 0,(bv [V.nil] H).2++[.box (bv [V.nil] H).1]):=by kernel_rfl
theorem abY (kk:Nat) (H:Hp):aw (xS kk).P 30 H=some (.ptr (bv [(V.lit (Value.int .i64 (0))),(V.lit (Value.int .i64 (0))),(V.lit (Value.int .i64 (0))),(V.lit (Value.int .i64 (0))),V.nil,V.nil,V.nil,V.nil] H).2.length 0 0 0,(bv [(V.lit (Value.int .i64 (0))),(V.lit (Value.int .i64 (0))),(V.lit (Value.int .i64 (0))),(V.lit (Value.int .i64 (0))),V.nil,V.nil,V.nil,V.nil] H).2++[.box (bv [(V.lit (Value.int .i64 (0))),(V.lit (Value.int .i64 (0))),(V.lit (Value.int .i64 (0))),(V.lit (Value.int .i64 (0))),V.nil,V.nil,V.nil,V.nil] H).1]):=by kernel_rfl
theorem acD (kk:Nat) (H:Hp):aw (xS kk).P 32 H=some (.ptr (bv [(V.lit Value.nilFunc)] H).2.length 0 0 0,(bv [(V.lit Value.nilFunc)] H).2++[.box (bv [(V.lit Value.nilFunc)] H).1]):=by kernel_rfl
theorem abA (kk:Nat) (H:Hp):aw (xS kk).P 34 H=some (.ptr (bv [V.nil] H).2.length 0 0 0,(bv [V.nil] H).2++[.box (bv [V.nil] H).1]):=by kernel_rfl
theorem ab2 (kk:Nat) (H:Hp):aw (xS kk).P 48 H=some (.ptr (bv [(V.lit (Value.int .i64 (0))),(V.lit (Value.int .i64 (0))),(V.lit (Value.int .u64 (0)))] H).2.length 0 0 0,(bv [(V.lit (Value.int .i64 (0))),(V.lit (Value.int .i64 (0))),(V.lit (Value.int .u64 (0)))] H).2++[.box (bv [(V.lit (Value.int .i64 (0))),(V.lit (Value.int .i64 (0))),(V.lit (Value.int .u64 (0)))] H).1]):=by kernel_rfl
theorem abe (kk:Nat) (H:Hp):aw (xS kk).P 55 H=some (.ptr (bv [(V.lit (Value.int .i64 (0))),(V.lit (Value.int .i64 (0))),(V.lit (Value.int .i64 (0))),(V.lit (Value.int .u64 (0))),(V.lit (Value.int .u64 (0))),(V.lit (Value.int .u64 (0))),(V.lit (Value.int .i64 (0)))] H).2.length 0 0 0,(bv [(V.lit (Value.int .i64 (0))),(V.lit (Value.int .i64 (0))),(V.lit (Value.int .i64 (0))),(V.lit (Value.int .u64 (0))),(V.lit (Value.int .u64 (0))),(V.lit (Value.int .u64 (0))),(V.lit (Value.int .i64 (0)))] H).2++[.box (bv [(V.lit (Value.int .i64 (0))),(V.lit (Value.int .i64 (0))),(V.lit (Value.int .i64 (0))),(V.lit (Value.int .u64 (0))),(V.lit (Value.int .u64 (0))),(V.lit (Value.int .u64 (0))),(V.lit (Value.int .i64 (0)))] H).1]):=by kernel_rfl
theorem aeA (kk:Nat) (H:Hp):aw (xS kk).P 57 H=some (.ptr (bv [(V.lit (Value.int .i64 (0))),V.nil,(V.lit (Value.int .i64 (0))),(V.lit (Value.int .i64 (0))),(V.lit (Value.int .i64 (0))),(V.lit (Value.int .u64 (0))),(V.lit (Value.int .u64 (0))),(V.lit (Value.int .u64 (0))),(V.lit (Value.int .i64 (0)))] H).2.length 0 0 0,(bv [(V.lit (Value.int .i64 (0))),V.nil,(V.lit (Value.int .i64 (0))),(V.lit (Value.int .i64 (0))),(V.lit (Value.int .i64 (0))),(V.lit (Value.int .u64 (0))),(V.lit (Value.int .u64 (0))),(V.lit (Value.int .u64 (0))),(V.lit (Value.int .i64 (0)))] H).2++[.box (bv [(V.lit (Value.int .i64 (0))),V.nil,(V.lit (Value.int .i64 (0))),(V.lit (Value.int .i64 (0))),(V.lit (Value.int .i64 (0))),(V.lit (Value.int .u64 (0))),(V.lit (Value.int .u64 (0))),(V.lit (Value.int .u64 (0))),(V.lit (Value.int .i64 (0)))] H).1]):=by kernel_rfl
theorem ac2 (kk:Nat) (H:Hp):aw (xS kk).P 65 H=some (.ptr (bv [(V.lit (Value.int .i64 (0))),V.nil,(V.lit (Value.int .i64 (0))),(V.lit (Value.int .i64 (0))),(V.lit (Value.int .i64 (0))),(V.lit (Value.int .u64 (0))),(V.lit (Value.int .u64 (0))),(V.lit (Value.int .u64 (0))),(V.lit (Value.int .i64 (0))),(V.lit (Value.int .i64 (0))),(V.lit (Value.int .i64 (0)))] H).2.length 0 0 0,(bv [(V.lit (Value.int .i64 (0))),V.nil,(V.lit (Value.int .i64 (0))),(V.lit (Value.int .i64 (0))),(V.lit (Value.int .i64 (0))),(V.lit (Value.int .u64 (0))),(V.lit (Value.int .u64 (0))),(V.lit (Value.int .u64 (0))),(V.lit (Value.int .i64 (0))),(V.lit (Value.int .i64 (0))),(V.lit (Value.int .i64 (0)))] H).2++[.box (bv [(V.lit (Value.int .i64 (0))),V.nil,(V.lit (Value.int .i64 (0))),(V.lit (Value.int .i64 (0))),(V.lit (Value.int .i64 (0))),(V.lit (Value.int .u64 (0))),(V.lit (Value.int .u64 (0))),(V.lit (Value.int .u64 (0))),(V.lit (Value.int .i64 (0))),(V.lit (Value.int .i64 (0))),(V.lit (Value.int .i64 (0)))] H).1]):=by kernel_rfl
theorem YF (kk:Nat) (H:Hp):aw (xS kk).P 101 H=some (.ptr (bv [(V.lit (Value.int .i64 (0))),V.nil] H).2.length 0 0 0,(bv [(V.lit (Value.int .i64 (0))),V.nil] H).2++[.box (bv [(V.lit (Value.int .i64 (0))),V.nil] H).1]):=by kernel_rfl
theorem V7 (kk:Nat) (H:Hp):aw (xS kk).P 129 H=some (.ptr (bv [(V.lit (Value.int .i64 (0))),(V.lit (Value.int .i64 (0))),(V.lit (Value.int .i64 (0)))] H).2.length 0 0 0,(bv [(V.lit (Value.int .i64 (0))),(V.lit (Value.int .i64 (0))),(V.lit (Value.int .i64 (0)))] H).2++[.box (bv [(V.lit (Value.int .i64 (0))),(V.lit (Value.int .i64 (0))),(V.lit (Value.int .i64 (0)))] H).1]):=by kernel_rfl
theorem YE (kk:Nat) (H:Hp):aw (xS kk).P 150 H=some (.ptr (bv [V.nil] H).2.length 0 0 0,(bv [V.nil] H).2++[.box (bv [V.nil] H).1]):=by kernel_rfl
theorem VM (kk:Nat) (H:Hp):aw (xS kk).P 169 H=some (.ptr (bv [(V.lit Value.nilFunc),(V.lit Value.nilFunc),(V.lit Value.nilFunc),(V.lit Value.nilFunc),(V.lit Value.nilFunc),(V.lit Value.nilFunc),(V.lit Value.nilFunc),(V.lit Value.nilFunc),(V.lit Value.nilFunc),(V.lit Value.nilFunc),(V.lit Value.nilFunc),(V.lit Value.nilFunc),(V.lit Value.nilFunc),(V.lit Value.nilFunc),(V.lit Value.nilFunc),(V.lit Value.nilFunc)] H).2.length 0 0 0,(bv [(V.lit Value.nilFunc),(V.lit Value.nilFunc),(V.lit Value.nilFunc),(V.lit Value.nilFunc),(V.lit Value.nilFunc),(V.lit Value.nilFunc),(V.lit Value.nilFunc),(V.lit Value.nilFunc),(V.lit Value.nilFunc),(V.lit Value.nilFunc),(V.lit Value.nilFunc),(V.lit Value.nilFunc),(V.lit Value.nilFunc),(V.lit Value.nilFunc),(V.lit Value.nilFunc),(V.lit Value.nilFunc)] H).2++[.box (bv [(V.lit Value.nilFunc),(V.lit Value.nilFunc),(V.lit Value.nilFunc),(V.lit Value.nilFunc),(V.lit Value.nilFunc),(V.lit Value.nilFunc),(V.lit Value.nilFunc),(V.lit Value.nilFunc),(V.lit Value.nilFunc),(V.lit Value.nilFunc),(V.lit Value.nilFunc),(V.lit Value.nilFunc),(V.lit Value.nilFunc),(V.lit Value.nilFunc),(V.lit Value.nilFunc),(V.lit Value.nilFunc)] H).1]):=by kernel_rfl
theorem aao (kk:Nat) (H:Hp):aw (xS kk).P 170 H=some (.ptr (bv [(V.lit Value.nilFunc)] H).2.length 0 0 0,(bv [(V.lit Value.nilFunc)] H).2++[.box (bv [(V.lit Value.nilFunc)] H).1]):=by kernel_rfl
theorem WK (kk:Nat) (H:Hp):aw (xS kk).P 175 H=some (.ptr (bv [(V.lit Value.nilFunc),(V.lit Value.nilFunc),(V.lit Value.nilFunc),(V.lit Value.nilFunc),(V.lit Value.nilFunc),(V.lit Value.nilFunc)] H).2.length 0 0 0,(bv [(V.lit Value.nilFunc),(V.lit Value.nilFunc),(V.lit Value.nilFunc),(V.lit Value.nilFunc),(V.lit Value.nilFunc),(V.lit Value.nilFunc)] H).2++[.box (bv [(V.lit Value.nilFunc),(V.lit Value.nilFunc),(V.lit Value.nilFunc),(V.lit Value.nilFunc),(V.lit Value.nilFunc),(V.lit Value.nilFunc)] H).1]):=by kernel_rfl
theorem YD (kk:Nat) (H:Hp):aw (xS kk).P 194 H=some (.ptr (bv [(V.lit (Value.int .i64 (0))),(V.lit (Value.int .i64 (0)))] H).2.length 0 0 0,(bv [(V.lit (Value.int .i64 (0))),(V.lit (Value.int .i64 (0)))] H).2++[.box (bv [(V.lit (Value.int .i64 (0))),(V.lit (Value.int .i64 (0)))] H).1]):=by kernel_rfl
theorem WP (kk:Nat) (H:Hp):aw (xS kk).P 223 H=some (.ptr (bv [V.nil] H).2.length 0 0 0,(bv [V.nil] H).2++[.box (bv [V.nil] H).1]):=by kernel_rfl
theorem ZP (kk:Nat) (H:Hp):aw (xS kk).P 236 H=some (.ptr (bv [(V.lit Value.nilFunc),(V.lit Value.nilFunc),(V.lit Value.nilFunc),(V.lit Value.nilFunc)] H).2.length 0 0 0,(bv [(V.lit Value.nilFunc),(V.lit Value.nilFunc),(V.lit Value.nilFunc),(V.lit Value.nilFunc)] H).2++[.box (bv [(V.lit Value.nilFunc),(V.lit Value.nilFunc),(V.lit Value.nilFunc),(V.lit Value.nilFunc)] H).1]):=by kernel_rfl
theorem R9 (kk:Nat) (cs:List V):aa (xS kk).P 23 (.rp cs) 0=some (.rp (cs.drop 0)):=by kernel_rfl
theorem RE (kk:Nat) (id g row off:Nat):aa (xS kk).P 23 (.ptr id g row off) 0=some (.ptr id g row (off+0)):=by kernel_rfl
theorem T1 (kk:Nat) (cs:List V):aa (xS kk).P 23 (.rp cs) 1=some (.rp (cs.drop 1)):=by kernel_rfl
theorem SF (kk:Nat) (id g row off:Nat):aa (xS kk).P 23 (.ptr id g row off) 1=some (.ptr id g row (off+1)):=by kernel_rfl
theorem S9 (kk:Nat) (cs:List V):aa (xS kk).P 23 (.rp cs) 2=some (.rp (cs.drop 2)):=by kernel_rfl
theorem Se (kk:Nat) (id g row off:Nat):aa (xS kk).P 23 (.ptr id g row off) 2=some (.ptr id g row (off+2)):=by kernel_rfl
theorem RW (kk:Nat) (cs:List V):aa (xS kk).P 23 (.rp cs) 3=some (.rp (cs.drop 3)):=by kernel_rfl
theorem To (kk:Nat) (id g row off:Nat):aa (xS kk).P 23 (.ptr id g row off) 3=some (.ptr id g row (off+3)):=by kernel_rfl
theorem T4 (kk:Nat) (cs:List V):aa (xS kk).P 30 (.rp cs) 0=some (.rp (cs.drop 0)):=by kernel_rfl
theorem Tx (kk:Nat) (id g row off:Nat):aa (xS kk).P 30 (.ptr id g row off) 0=some (.ptr id g row (off+0)):=by kernel_rfl
theorem Rl (kk:Nat) (cs:List V):aa (xS kk).P 30 (.rp cs) 1=some (.rp (cs.drop 4)):=by kernel_rfl
theorem Vx (kk:Nat) (id g row off:Nat):aa (xS kk).P 30 (.ptr id g row off) 1=some (.ptr id g row (off+4)):=by kernel_rfl
theorem SC (kk:Nat) (cs:List V):aa (xS kk).P 30 (.rp cs) 2=some (.rp (cs.drop 5)):=by kernel_rfl
theorem RU (kk:Nat) (id g row off:Nat):aa (xS kk).P 30 (.ptr id g row off) 2=some (.ptr id g row (off+5)):=by kernel_rfl
theorem Rq (kk:Nat) (cs:List V):aa (xS kk).P 30 (.rp cs) 3=some (.rp (cs.drop 6)):=by kernel_rfl
theorem UR (kk:Nat) (id g row off:Nat):aa (xS kk).P 30 (.ptr id g row off) 3=some (.ptr id g row (off+6)):=by kernel_rfl
theorem Rc (kk:Nat) (cs:List V):aa (xS kk).P 30 (.rp cs) 4=some (.rp (cs.drop 7)):=by kernel_rfl
theorem Ub (kk:Nat) (id g row off:Nat):aa (xS kk).P 30 (.ptr id g row off) 4=some (.ptr id g row (off+7)):=by kernel_rfl
theorem Sj (kk:Nat) (cs:List V):aa (xS kk).P 48 (.rp cs) 0=some (.rp (cs.drop 0)):=by kernel_rfl
theorem SA (kk:Nat) (id g row off:Nat):aa (xS kk).P 48 (.ptr id g row off) 0=some (.ptr id g row (off+0)):=by kernel_rfl
theorem Rb (kk:Nat) (cs:List V):aa (xS kk).P 48 (.rp cs) 1=some (.rp (cs.drop 1)):=by kernel_rfl
theorem UN (kk:Nat) (id g row off:Nat):aa (xS kk).P 48 (.ptr id g row off) 1=some (.ptr id g row (off+1)):=by kernel_rfl
theorem UY (kk:Nat) (cs:List V):aa (xS kk).P 48 (.rp cs) 2=some (.rp (cs.drop 2)):=by kernel_rfl
theorem UK (kk:Nat) (id g row off:Nat):aa (xS kk).P 48 (.ptr id g row off) 2=some (.ptr id g row (off+2)):=by kernel_rfl
theorem S1 (kk:Nat) (cs:List V):aa (xS kk).P 52 (.rp cs) 0=some (.rp (cs.drop 0)):=by kernel_rfl
theorem SK (kk:Nat) (id g row off:Nat):aa (xS kk).P 52 (.ptr id g row off) 0=some (.ptr id g row (off+0)):=by kernel_rfl
theorem Tb (kk:Nat) (cs:List V):aa (xS kk).P 55 (.rp cs) 0=some (.rp (cs.drop 0)):=by kernel_rfl
theorem T3 (kk:Nat) (id g row off:Nat):aa (xS kk).P 55 (.ptr id g row off) 0=some (.ptr id g row (off+0)):=by kernel_rfl
theorem Vv (kk:Nat) (cs:List V):aa (xS kk).P 55 (.rp cs) 1=some (.rp (cs.drop 1)):=by kernel_rfl
theorem UT (kk:Nat) (id g row off:Nat):aa (xS kk).P 55 (.ptr id g row off) 1=some (.ptr id g row (off+1)):=by kernel_rfl
theorem Rd (kk:Nat) (cs:List V):aa (xS kk).P 55 (.rp cs) 2=some (.rp (cs.drop 2)):=by kernel_rfl
theorem Uc (kk:Nat) (id g row off:Nat):aa (xS kk).P 55 (.ptr id g row off) 2=some (.ptr id g row (off+2)):=by kernel_rfl
theorem Ux (kk:Nat) (cs:List V):aa (xS kk).P 55 (.rp cs) 3=some (.rp (cs.drop 3)):=by kernel_rfl
theorem Rh (kk:Nat) (id g row off:Nat):aa (xS kk).P 55 (.ptr id g row off) 3=some (.ptr id g row (off+3)):=by kernel_rfl
theorem Tp (kk:Nat) (cs:List V):aa (xS kk).P 55 (.rp cs) 4=some (.rp (cs.drop 4)):=by kernel_rfl
theorem UX (kk:Nat) (id g row off:Nat):aa (xS kk).P 55 (.ptr id g row off) 4=some (.ptr id g row (off+4)):=by kernel_rfl
theorem Up (kk:Nat) (cs:List V):aa (xS kk).P 55 (.rp cs) 5=some (.rp (cs.drop 5)):=by kernel_rfl
theorem Tu (kk:Nat) (id g row off:Nat):aa (xS kk).P 55 (.ptr id g row off) 5=some (.ptr id g row (off+5)):=by kernel_rfl
theorem Vl (kk:Nat) (cs:List V):aa (xS kk).P 55 (.rp cs) 6=some (.rp (cs.drop 6)):=by kernel_rfl
theorem Tv (kk:Nat) (id g row off:Nat):aa (xS kk).P 55 (.ptr id g row off) 6=some (.ptr id g row (off+6)):=by kernel_rfl
theorem S8 (kk:Nat) (cs:List V):aa (xS kk).P 57 (.rp cs) 0=some (.rp (cs.drop 0)):=by kernel_rfl
theorem Sv (kk:Nat) (id g row off:Nat):aa (xS kk).P 57 (.ptr id g row off) 0=some (.ptr id g row (off+0)):=by kernel_rfl
theorem T9 (kk:Nat) (cs:List V):aa (xS kk).P 57 (.rp cs) 1=some (.rp (cs.drop 1)):=by kernel_rfl
theorem Ss (kk:Nat) (id g row off:Nat):aa (xS kk).P 57 (.ptr id g row off) 1=some (.ptr id g row (off+1)):=by kernel_rfl
theorem Sb (kk:Nat) (cs:List V):aa (xS kk).P 57 (.rp cs) 2=some (.rp (cs.drop 2)):=by kernel_rfl
theorem Vh (kk:Nat) (id g row off:Nat):aa (xS kk).P 57 (.ptr id g row off) 2=some (.ptr id g row (off+2)):=by kernel_rfl
theorem Su (kk:Nat) (cs:List V):aa (xS kk).P 65 (.rp cs) 0=some (.rp (cs.drop 0)):=by kernel_rfl
theorem U9 (kk:Nat) (id g row off:Nat):aa (xS kk).P 65 (.ptr id g row off) 0=some (.ptr id g row (off+0)):=by kernel_rfl
theorem UZ (kk:Nat) (cs:List V):aa (xS kk).P 65 (.rp cs) 1=some (.rp (cs.drop 1)):=by kernel_rfl
theorem U4 (kk:Nat) (id g row off:Nat):aa (xS kk).P 65 (.ptr id g row off) 1=some (.ptr id g row (off+1)):=by kernel_rfl
theorem RN (kk:Nat) (cs:List V):aa (xS kk).P 65 (.rp cs) 2=some (.rp (cs.drop 2)):=by kernel_rfl
theorem Rn (kk:Nat) (id g row off:Nat):aa (xS kk).P 65 (.ptr id g row off) 2=some (.ptr id g row (off+2)):=by kernel_rfl
theorem SV (kk:Nat) (cs:List V):aa (xS kk).P 65 (.rp cs) 3=some (.rp (cs.drop 9)):=by kernel_rfl
theorem Rf (kk:Nat) (id g row off:Nat):aa (xS kk).P 65 (.ptr id g row off) 3=some (.ptr id g row (off+9)):=by kernel_rfl
theorem Uy (kk:Nat) (cs:List V):aa (xS kk).P 65 (.rp cs) 4=some (.rp (cs.drop 10)):=by kernel_rfl
theorem UL (kk:Nat) (id g row off:Nat):aa (xS kk).P 65 (.ptr id g row off) 4=some (.ptr id g row (off+10)):=by kernel_rfl
theorem Mt (kk:Nat) (cs:List V):aa (xS kk).P 101 (.rp cs) 0=some (.rp (cs.drop 0)):=by kernel_rfl
theorem MN (kk:Nat) (id g row off:Nat):aa (xS kk).P 101 (.ptr id g row off) 0=some (.ptr id g row (off+0)):=by kernel_rfl
theorem OZ (kk:Nat) (cs:List V):aa (xS kk).P 101 (.rp cs) 1=some (.rp (cs.drop 1)):=by kernel_rfl
theorem NV (kk:Nat) (id g row off:Nat):aa (xS kk).P 101 (.ptr id g row off) 1=some (.ptr id g row (off+1)):=by kernel_rfl
theorem O4 (kk:Nat) (cs:List V):aa (xS kk).P 129 (.rp cs) 0=some (.rp (cs.drop 0)):=by kernel_rfl
theorem M4 (kk:Nat) (id g row off:Nat):aa (xS kk).P 129 (.ptr id g row off) 0=some (.ptr id g row (off+0)):=by kernel_rfl
theorem MU (kk:Nat) (cs:List V):aa (xS kk).P 129 (.rp cs) 1=some (.rp (cs.drop 1)):=by kernel_rfl
theorem Mj (kk:Nat) (id g row off:Nat):aa (xS kk).P 129 (.ptr id g row off) 1=some (.ptr id g row (off+1)):=by kernel_rfl
theorem Ng (kk:Nat) (cs:List V):aa (xS kk).P 129 (.rp cs) 2=some (.rp (cs.drop 2)):=by kernel_rfl
theorem MH (kk:Nat) (id g row off:Nat):aa (xS kk).P 129 (.ptr id g row off) 2=some (.ptr id g row (off+2)):=by kernel_rfl
theorem Nk (kk:Nat) (cs:List V):aa (xS kk).P 168 (.rp cs) 0=some (.rp (cs.drop 0)):=by kernel_rfl
theorem Ox (kk:Nat) (id g row off:Nat):aa (xS kk).P 168 (.ptr id g row off) 0=some (.ptr id g row (off+0)):=by kernel_rfl
theorem Oq (kk:Nat) (cs:List V):aa (xS kk).P 168 (.rp cs) 1=some (.rp (cs.drop 11)):=by kernel_rfl
theorem Pd (kk:Nat) (id g row off:Nat):aa (xS kk).P 168 (.ptr id g row off) 1=some (.ptr id g row (off+11)):=by kernel_rfl
theorem Np (kk:Nat) (cs:List V):aa (xS kk).P 168 (.rp cs) 2=some (.rp (cs.drop 15)):=by kernel_rfl
theorem MG (kk:Nat) (id g row off:Nat):aa (xS kk).P 168 (.ptr id g row off) 2=some (.ptr id g row (off+15)):=by kernel_rfl
theorem N3 (kk:Nat) (cs:List V):aa (xS kk).P 168 (.rp cs) 3=some (.rp (cs.drop 16)):=by kernel_rfl
theorem Oj (kk:Nat) (id g row off:Nat):aa (xS kk).P 168 (.ptr id g row off) 3=some (.ptr id g row (off+16)):=by kernel_rfl
theorem NA (kk:Nat) (cs:List V):aa (xS kk).P 168 (.rp cs) 4=some (.rp (cs.drop 17)):=by kernel_rfl
theorem LY (kk:Nat) (id g row off:Nat):aa (xS kk).P 168 (.ptr id g row off) 4=some (.ptr id g row (off+17)):=by kernel_rfl
theorem OG (kk:Nat) (cs:List V):aa (xS kk).P 168 (.rp cs) 5=some (.rp (cs.drop 18)):=by kernel_rfl
theorem MV (kk:Nat) (id g row off:Nat):aa (xS kk).P 168 (.ptr id g row off) 5=some (.ptr id g row (off+18)):=by kernel_rfl
theorem L7 (kk:Nat) (cs:List V):aa (xS kk).P 168 (.rp cs) 6=some (.rp (cs.drop 19)):=by kernel_rfl
theorem O8 (kk:Nat) (id g row off:Nat):aa (xS kk).P 168 (.ptr id g row off) 6=some (.ptr id g row (off+19)):=by kernel_rfl
theorem OB (kk:Nat) (cs:List V):aa (xS kk).P 194 (.rp cs) 0=some (.rp (cs.drop 0)):=by kernel_rfl
theorem Oy (kk:Nat) (id g row off:Nat):aa (xS kk).P 194 (.ptr id g row off) 0=some (.ptr id g row (off+0)):=by kernel_rfl
theorem O5 (kk:Nat) (cs:List V):aa (xS kk).P 194 (.rp cs) 1=some (.rp (cs.drop 1)):=by kernel_rfl
theorem Nx (kk:Nat) (id g row off:Nat):aa (xS kk).P 194 (.ptr id g row off) 1=some (.ptr id g row (off+1)):=by kernel_rfl
theorem Pj (kk:Nat) (cs:List V):aa (xS kk).P 205 (.rp cs) 0=some (.rp (cs.drop 0)):=by kernel_rfl
theorem Nb (kk:Nat) (id g row off:Nat):aa (xS kk).P 205 (.ptr id g row off) 0=some (.ptr id g row (off+0)):=by kernel_rfl
theorem OS (kk:Nat) (cs:List V):aa (xS kk).P 205 (.rp cs) 1=some (.rp (cs.drop 7)):=by kernel_rfl
theorem LX (kk:Nat) (id g row off:Nat):aa (xS kk).P 205 (.ptr id g row off) 1=some (.ptr id g row (off+7)):=by kernel_rfl
theorem Om (kk:Nat) (cs:List V):aa (xS kk).P 205 (.rp cs) 2=some (.rp (cs.drop 11)):=by kernel_rfl
theorem OJ (kk:Nat) (id g row off:Nat):aa (xS kk).P 205 (.ptr id g row off) 2=some (.ptr id g row (off+11)):=by kernel_rfl
theorem OA (kk:Nat) (cs:List V):aa (xS kk).P 221 (.rp cs) 0=some (.rp (cs.drop 0)):=by kernel_rfl
theorem M9 (kk:Nat) (id g row off:Nat):aa (xS kk).P 221 (.ptr id g row off) 0=some (.ptr id g row (off+0)):=by kernel_rfl
theorem Pg (kk:Nat) (cs:List V):aa (xS kk).P 221 (.rp cs) 1=some (.rp (cs.drop 7)):=by kernel_rfl
theorem Mr (kk:Nat) (id g row off:Nat):aa (xS kk).P 221 (.ptr id g row off) 1=some (.ptr id g row (off+7)):=by kernel_rfl
theorem LQ (kk:Nat) (cs:List V):aa (xS kk).P 221 (.rp cs) 2=some (.rp (cs.drop 11)):=by kernel_rfl
theorem MX (kk:Nat) (id g row off:Nat):aa (xS kk).P 221 (.ptr id g row off) 2=some (.ptr id g row (off+11)):=by kernel_rfl
theorem NX (kk:Nat) (cs:List V):aa (xS kk).P 235 (.rp cs) 0=some (.rp (cs.drop 0)):=by kernel_rfl
theorem OW (kk:Nat) (id g row off:Nat):aa (xS kk).P 235 (.ptr id g row off) 0=some (.ptr id g row (off+0)):=by kernel_rfl
theorem Or (kk:Nat) (cs:List V):aa (xS kk).P 235 (.rp cs) 1=some (.rp (cs.drop 7)):=by kernel_rfl
theorem Nz (kk:Nat) (id g row off:Nat):aa (xS kk).P 235 (.ptr id g row off) 1=some (.ptr id g row (off+7)):=by kernel_rfl
theorem ON (kk:Nat) (cs:List V):aa (xS kk).P 235 (.rp cs) 2=some (.rp (cs.drop 11)):=by kernel_rfl
theorem LJ (kk:Nat) (id g row off:Nat):aa (xS kk).P 235 (.ptr id g row off) 2=some (.ptr id g row (off+11)):=by kernel_rfl
theorem NY (kk:Nat) (cs:List V):ua (xS kk).P 194 (.agg cs) 0=aT (xS kk).P 3 (cs.drop 0):=by kernel_rfl
theorem aea (kk:Nat) (l:List (Int×List Int)) (k:IntKind) (n:Int) (H:Hp):ak (xS kk).P 24 (.ro (l.map ao)) (.lit (.int k n)) H=(idx l n).map fun x => .rp (ao x):=bY (e:=101) (by kernel_rfl) (fun x=>(by kernel_rfl:(ao x).length=aR (xS kk).P 101)) (by kernel_rfl)
theorem adI (kk:Nat) (id g len:Nat) (k:IntKind) (n:Int) (H:Hp):ak (xS kk).P 24 (.own id g len) (.lit (.int k n)) H=ixB 2 g len id n (H[id]?):=be (P:=(xS kk).P) (e:=101) (by kernel_rfl) (by kernel_rfl)
theorem aeI (kk:Nat) (l:List Int) (k:IntKind) (n:Int) (H:Hp):ak (xS kk).P 26 (.ro (l.map (aI .u64))) (.lit (.int k n)) H=(idx l n).map fun x => .rp ((aI .u64) x):=bY (e:=46) (by kernel_rfl) (fun x=>(by kernel_rfl:((aI .u64) x).length=aR (xS kk).P 46)) (by kernel_rfl)
theorem aby (kk:Nat) (id g len:Nat) (k:IntKind) (n:Int) (H:Hp):ak (xS kk).P 26 (.own id g len) (.lit (.int k n)) H=ixB 1 g len id n (H[id]?):=be (P:=(xS kk).P) (e:=46) (by kernel_rfl) (by kernel_rfl)
theorem abt (kk:Nat) (l:List (Int×List (Int×Int×Int)×(Int×Int×Int×Int×Int×Int×Int)×Int×Int)) (k:IntKind) (n:Int) (H:Hp):ak (xS kk).P 27 (.ro (l.map aP)) (.lit (.int k n)) H=(idx l n).map fun x => .rp (aP x):=bY (e:=65) (by kernel_rfl) (fun x=>(by kernel_rfl:(aP x).length=aR (xS kk).P 65)) (by kernel_rfl)
theorem adb (kk:Nat) (id g len:Nat) (k:IntKind) (n:Int) (H:Hp):ak (xS kk).P 27 (.own id g len) (.lit (.int k n)) H=ixB 11 g len id n (H[id]?):=be (P:=(xS kk).P) (e:=65) (by kernel_rfl) (by kernel_rfl)
theorem adr (kk:Nat) (l:List (Int×List Int×Int×Int×Int×Int×Int×Int×Int)) (k:IntKind) (n:Int) (H:Hp):ak (xS kk).P 28 (.ro (l.map b8)) (.lit (.int k n)) H=(idx l n).map fun x => .rp (b8 x):=bY (e:=57) (by kernel_rfl) (fun x=>(by kernel_rfl:(b8 x).length=aR (xS kk).P 57)) (by kernel_rfl)
theorem abX (kk:Nat) (id g len:Nat) (k:IntKind) (n:Int) (H:Hp):ak (xS kk).P 28 (.own id g len) (.lit (.int k n)) H=ixB 9 g len id n (H[id]?):=be (P:=(xS kk).P) (e:=57) (by kernel_rfl) (by kernel_rfl)
theorem ab6 (kk:Nat) (l:List (Int×Int×Int)) (k:IntKind) (n:Int) (H:Hp):ak (xS kk).P 31 (.ro (l.map ej)) (.lit (.int k n)) H=(idx l n).map fun x => .rp (ej x):=bY (e:=48) (by kernel_rfl) (fun x=>(by kernel_rfl:(ej x).length=aR (xS kk).P 48)) (by kernel_rfl)
theorem acZ (kk:Nat) (id g len:Nat) (k:IntKind) (n:Int) (H:Hp):ak (xS kk).P 31 (.own id g len) (.lit (.int k n)) H=ixB 3 g len id n (H[id]?):=be (P:=(xS kk).P) (e:=48) (by kernel_rfl) (by kernel_rfl)
theorem adK (kk:Nat) (l:List (Int×Int×Int)) (k:IntKind) (n:Int) (H:Hp):ak (xS kk).P 34 (.ro (l.map aM)) (.lit (.int k n)) H=(idx l n).map fun x => .rp (aM x):=bY (e:=52) (by kernel_rfl) (fun x=>(by kernel_rfl:(aM x).length=aR (xS kk).P 52)) (by kernel_rfl)
theorem acu (kk:Nat) (id g len:Nat) (k:IntKind) (n:Int) (H:Hp):ak (xS kk).P 34 (.own id g len) (.lit (.int k n)) H=ixB 3 g len id n (H[id]?):=be (P:=(xS kk).P) (e:=52) (by kernel_rfl) (by kernel_rfl)
theorem adm (kk:Nat) (l:List (List Int)) (k:IntKind) (n:Int) (H:Hp):ak (xS kk).P 40 (.ro (l.map cO)) (.lit (.int k n)) H=(idx l n).map fun x => .rp (cO x):=bY (e:=53) (by kernel_rfl) (fun x=>(by kernel_rfl:(cO x).length=aR (xS kk).P 53)) (by kernel_rfl)
theorem aec (kk:Nat) (id g len:Nat) (k:IntKind) (n:Int) (H:Hp):ak (xS kk).P 40 (.own id g len) (.lit (.int k n)) H=ixB 1 g len id n (H[id]?):=be (P:=(xS kk).P) (e:=53) (by kernel_rfl) (by kernel_rfl)
theorem acE (kk:Nat) (l:List Int) (k:IntKind) (n:Int) (H:Hp):ak (xS kk).P 53 (.ro (l.map (aI .i64))) (.lit (.int k n)) H=(idx l n).map fun x => .rp ((aI .i64) x):=bY (e:=3) (by kernel_rfl) (fun x=>(by kernel_rfl:((aI .i64) x).length=aR (xS kk).P 3)) (by kernel_rfl)
theorem aeh (kk:Nat) (id g len:Nat) (k:IntKind) (n:Int) (H:Hp):ak (xS kk).P 53 (.own id g len) (.lit (.int k n)) H=ixB 1 g len id n (H[id]?):=be (P:=(xS kk).P) (e:=3) (by kernel_rfl) (by kernel_rfl)
theorem ab3 (kk:Nat) (l:List (Int×Int×Int)) (k:IntKind) (n:Int) (H:Hp):ak (xS kk).P 63 (.ro (l.map aM)) (.lit (.int k n)) H=(idx l n).map fun x => .rp (aM x):=bY (e:=129) (by kernel_rfl) (fun x=>(by kernel_rfl:(aM x).length=aR (xS kk).P 129)) (by kernel_rfl)
theorem abd (kk:Nat) (id g len:Nat) (k:IntKind) (n:Int) (H:Hp):ak (xS kk).P 63 (.own id g len) (.lit (.int k n)) H=ixB 3 g len id n (H[id]?):=be (P:=(xS kk).P) (e:=129) (by kernel_rfl) (by kernel_rfl)
theorem WJ (kk:Nat) (l:List Bool) (k:IntKind) (n:Int) (H:Hp):ak (xS kk).P 150 (.ro (l.map lX)) (.lit (.int k n)) H=(idx l n).map fun x => .rp (lX x):=bY (e:=4) (by kernel_rfl) (fun x=>(by kernel_rfl:(lX x).length=aR (xS kk).P 4)) (by kernel_rfl)
theorem VL (kk:Nat) (id g len:Nat) (k:IntKind) (n:Int) (H:Hp):ak (xS kk).P 150 (.own id g len) (.lit (.int k n)) H=ixB 1 g len id n (H[id]?):=be (P:=(xS kk).P) (e:=4) (by kernel_rfl) (by kernel_rfl)
theorem XQ (kk:Nat) (id g len:Nat) (k:IntKind) (n:Int) (H:Hp):ak (xS kk).P 207 (.own id g len) (.lit (.int k n)) H=ixB 1 g len id n (H[id]?):=be (P:=(xS kk).P) (e:=206) (by kernel_rfl) (by kernel_rfl)
theorem WS (kk:Nat) (id g len:Nat) (k:IntKind) (n:Int) (H:Hp):ak (xS kk).P 223 (.own id g len) (.lit (.int k n)) H=ixB 1 g len id n (H[id]?):=be (P:=(xS kk).P) (e:=116) (by kernel_rfl) (by kernel_rfl)
theorem WH (kk:Nat) (id g len:Nat) (k:IntKind) (n:Int) (H:Hp):ak (xS kk).P 238 (.own id g len) (.lit (.int k n)) H=ixB 1 g len id n (H[id]?):=be (P:=(xS kk).P) (e:=1) (by kernel_rfl) (by kernel_rfl)
theorem Wx (kk:Nat) (x:V) (H:Hp):bh (xS kk).P 24 x H=(rk x H).map fun v=>(v,H):=by kernel_rfl
theorem YP (kk:Nat) (x:V) (H:Hp):bh (xS kk).P 25 x H=(rk x H).map fun v=>(v,H):=by kernel_rfl
theorem aah (kk:Nat) (x:V) (H:Hp):bh (xS kk).P 26 x H=(rk x H).map fun v=>(v,H):=by kernel_rfl
theorem aat (kk:Nat) (x:V) (H:Hp):bh (xS kk).P 27 x H=(rk x H).map fun v=>(v,H):=by kernel_rfl
theorem YM (kk:Nat) (x:V) (H:Hp):bh (xS kk).P 28 x H=(rk x H).map fun v=>(v,H):=by kernel_rfl
theorem VP (kk:Nat) (x:V) (H:Hp):bh (xS kk).P 31 x H=(rk x H).map fun v=>(v,H):=by kernel_rfl
theorem Yc (kk:Nat) (x:V) (H:Hp):bh (xS kk).P 34 x H=(rk x H).map fun v=>(v,H):=by kernel_rfl
theorem ZM (kk:Nat) (x:V) (H:Hp):bh (xS kk).P 40 x H=(rk x H).map fun v=>(v,H):=by kernel_rfl
theorem aan (kk:Nat) (x:V) (H:Hp):bh (xS kk).P 53 x H=(rk x H).map fun v=>(v,H):=by kernel_rfl
theorem XS (kk:Nat) (x:V) (H:Hp):bh (xS kk).P 63 x H=(rk x H).map fun v=>(v,H):=by kernel_rfl
theorem SJ (kk:Nat) (x:V) (H:Hp):bh (xS kk).P 207 x H=(rk x H).map fun v=>(v,H):=by kernel_rfl
theorem TK (kk:Nat) (x:V) (H:Hp):bh (xS kk).P 238 x H=(rk x H).map fun v=>(v,H):=by kernel_rfl
theorem LU (kk:Nat) (wl:Nat) (s x:V) (H:Hp):lF (xS kk).P wl 24 24 s x H=bn (xS kk).P wl 24 s x H:=by kernel_rfl
theorem Mk (kk:Nat) (wl id g len:Nat) (x:V) (H:Hp):bn (xS kk).P wl 24 (.own id g len) x H=(bP x H).bind fun xs=>bif bT 2 xs then apB wl 101 2 32 id g len xs H (H[id]?) else none:=(ef (P:=(xS kk).P) (t:=24) (e:=101) (by kernel_rfl) (by kernel_rfl)).trans (by kernel_rfl)
theorem Nn (kk:Nat) (wl:Nat) (x:V) (H:Hp):bn (xS kk).P wl 24 .nil x H=(bP x H).bind fun xs=>bif bT 2 xs then bif decide (xs.length*32≤70368744177664) then some (.own H.length 0 xs.length,H++[.rows 2 xs 0 true]) else none else none:=(dZ (P:=(xS kk).P) (t:=24) (e:=101) (by kernel_rfl) (by kernel_rfl)).trans (by kernel_rfl)
theorem Pt (kk:Nat) (wl:Nat) (s x:V) (H:Hp):lF (xS kk).P wl 25 25 s x H=bn (xS kk).P wl 25 s x H:=by kernel_rfl
theorem Od (kk:Nat) (wl id g len:Nat) (x:V) (H:Hp):bn (xS kk).P wl 25 (.own id g len) x H=(bP x H).bind fun xs=>bif bT 1 xs then apB wl 46 1 8 id g len xs H (H[id]?) else none:=(ef (P:=(xS kk).P) (t:=25) (e:=46) (by kernel_rfl) (by kernel_rfl)).trans (by kernel_rfl)
theorem MJ (kk:Nat) (wl:Nat) (x:V) (H:Hp):bn (xS kk).P wl 25 .nil x H=(bP x H).bind fun xs=>bif bT 1 xs then bif decide (xs.length*8≤70368744177664) then some (.own H.length 0 xs.length,H++[.rows 1 xs 0 true]) else none else none:=(dZ (P:=(xS kk).P) (t:=25) (e:=46) (by kernel_rfl) (by kernel_rfl)).trans (by kernel_rfl)
theorem Mp (kk:Nat) (wl:Nat) (s x:V) (H:Hp):lF (xS kk).P wl 26 26 s x H=bn (xS kk).P wl 26 s x H:=by kernel_rfl
theorem Nh (kk:Nat) (wl id g len:Nat) (x:V) (H:Hp):bn (xS kk).P wl 26 (.own id g len) x H=(bP x H).bind fun xs=>bif bT 1 xs then apB wl 46 1 8 id g len xs H (H[id]?) else none:=(ef (P:=(xS kk).P) (t:=26) (e:=46) (by kernel_rfl) (by kernel_rfl)).trans (by kernel_rfl)
theorem N1 (kk:Nat) (wl:Nat) (x:V) (H:Hp):bn (xS kk).P wl 26 .nil x H=(bP x H).bind fun xs=>bif bT 1 xs then bif decide (xs.length*8≤70368744177664) then some (.own H.length 0 xs.length,H++[.rows 1 xs 0 true]) else none else none:=(dZ (P:=(xS kk).P) (t:=26) (e:=46) (by kernel_rfl) (by kernel_rfl)).trans (by kernel_rfl)
theorem Nd (kk:Nat) (wl:Nat) (s x:V) (H:Hp):lF (xS kk).P wl 27 27 s x H=bn (xS kk).P wl 27 s x H:=by kernel_rfl
theorem MY (kk:Nat) (wl id g len:Nat) (x:V) (H:Hp):bn (xS kk).P wl 27 (.own id g len) x H=(bP x H).bind fun xs=>bif bT 11 xs then apB wl 65 11 104 id g len xs H (H[id]?) else none:=(ef (P:=(xS kk).P) (t:=27) (e:=65) (by kernel_rfl) (by kernel_rfl)).trans (by kernel_rfl)
theorem L5 (kk:Nat) (wl:Nat) (x:V) (H:Hp):bn (xS kk).P wl 27 .nil x H=(bP x H).bind fun xs=>bif bT 11 xs then bif decide (xs.length*104≤70368744177664) then some (.own H.length 0 xs.length,H++[.rows 11 xs 0 true]) else none else none:=(dZ (P:=(xS kk).P) (t:=27) (e:=65) (by kernel_rfl) (by kernel_rfl)).trans (by kernel_rfl)
theorem Mw (kk:Nat) (wl:Nat) (s x:V) (H:Hp):lF (xS kk).P wl 28 28 s x H=bn (xS kk).P wl 28 s x H:=by kernel_rfl
theorem Ov (kk:Nat) (wl id g len:Nat) (x:V) (H:Hp):bn (xS kk).P wl 28 (.own id g len) x H=(bP x H).bind fun xs=>bif bT 9 xs then apB wl 57 9 88 id g len xs H (H[id]?) else none:=(ef (P:=(xS kk).P) (t:=28) (e:=57) (by kernel_rfl) (by kernel_rfl)).trans (by kernel_rfl)
theorem L6 (kk:Nat) (wl:Nat) (x:V) (H:Hp):bn (xS kk).P wl 28 .nil x H=(bP x H).bind fun xs=>bif bT 9 xs then bif decide (xs.length*88≤70368744177664) then some (.own H.length 0 xs.length,H++[.rows 9 xs 0 true]) else none else none:=(dZ (P:=(xS kk).P) (t:=28) (e:=57) (by kernel_rfl) (by kernel_rfl)).trans (by kernel_rfl)
theorem L9 (kk:Nat) (wl:Nat) (s x:V) (H:Hp):lF (xS kk).P wl 34 34 s x H=bn (xS kk).P wl 34 s x H:=by kernel_rfl
theorem Pp (kk:Nat) (wl id g len:Nat) (x:V) (H:Hp):bn (xS kk).P wl 34 (.own id g len) x H=(bP x H).bind fun xs=>bif bT 3 xs then apB wl 52 3 24 id g len xs H (H[id]?) else none:=(ef (P:=(xS kk).P) (t:=34) (e:=52) (by kernel_rfl) (by kernel_rfl)).trans (by kernel_rfl)
theorem Na (kk:Nat) (wl:Nat) (x:V) (H:Hp):bn (xS kk).P wl 34 .nil x H=(bP x H).bind fun xs=>bif bT 3 xs then bif decide (xs.length*24≤70368744177664) then some (.own H.length 0 xs.length,H++[.rows 3 xs 0 true]) else none else none:=(dZ (P:=(xS kk).P) (t:=34) (e:=52) (by kernel_rfl) (by kernel_rfl)).trans (by kernel_rfl)
theorem OC (kk:Nat) (wl:Nat) (s x:V) (H:Hp):lF (xS kk).P wl 53 53 s x H=bn (xS kk).P wl 53 s x H:=by kernel_rfl
theorem NI (kk:Nat) (wl id g len:Nat) (x:V) (H:Hp):bn (xS kk).P wl 53 (.own id g len) x H=(bP x H).bind fun xs=>bif bT 1 xs then apB wl 3 1 8 id g len xs H (H[id]?) else none:=(ef (P:=(xS kk).P) (t:=53) (e:=3) (by kernel_rfl) (by kernel_rfl)).trans (by kernel_rfl)
theorem LP (kk:Nat) (wl:Nat) (x:V) (H:Hp):bn (xS kk).P wl 53 .nil x H=(bP x H).bind fun xs=>bif bT 1 xs then bif decide (xs.length*8≤70368744177664) then some (.own H.length 0 xs.length,H++[.rows 1 xs 0 true]) else none else none:=(dZ (P:=(xS kk).P) (t:=53) (e:=3) (by kernel_rfl) (by kernel_rfl)).trans (by kernel_rfl)
theorem NG (kk:Nat) (wl:Nat) (s x:V) (H:Hp):lF (xS kk).P wl 63 63 s x H=bn (xS kk).P wl 63 s x H:=by kernel_rfl
theorem Pn (kk:Nat) (wl id g len:Nat) (x:V) (H:Hp):bn (xS kk).P wl 63 (.own id g len) x H=(bP x H).bind fun xs=>bif bT 3 xs then apB wl 129 3 24 id g len xs H (H[id]?) else none:=(ef (P:=(xS kk).P) (t:=63) (e:=129) (by kernel_rfl) (by kernel_rfl)).trans (by kernel_rfl)
theorem Oz (kk:Nat) (wl:Nat) (x:V) (H:Hp):bn (xS kk).P wl 63 .nil x H=(bP x H).bind fun xs=>bif bT 3 xs then bif decide (xs.length*24≤70368744177664) then some (.own H.length 0 xs.length,H++[.rows 3 xs 0 true]) else none else none:=(dZ (P:=(xS kk).P) (t:=63) (e:=129) (by kernel_rfl) (by kernel_rfl)).trans (by kernel_rfl)
theorem ada (kk:Nat) (wl:Nat) (c:Bool) (id g len:Nat) (k:IntKind) (n:Int) (H:Hp):dp (xS kk).P wl c 53 (.own id g len) none (some (.lit (.int k n))) none H=slB g len id n H (H[id]?):=wS (P:=(xS kk).P) (e:=3) (by kernel_rfl) (by kernel_rfl)
theorem aeC (kk:Nat) (wl:Nat) (c:Bool) (l:List Int) (k:IntKind) (n:Int) (H:Hp):dp (xS kk).P wl c 53 (.ro (l.map (aI .i64))) none (some (.lit (.int k n))) none H=bif decide (0≤n∧n≤l.length) then some (.ro ((l.take n.toNat).map (aI .i64)),H) else none:=BJ (P:=(xS kk).P) (e:=3) (by kernel_rfl) (by kernel_rfl) (fun x=>(by kernel_rfl:((aI .i64) x).length=aR (xS kk).P 3))
theorem aa9 (kk:Nat) (wl:Nat) (c:Bool) (l:List Int) (k:IntKind) (n:Int) (H:Hp):dp (xS kk).P wl c 53 (.ro (l.map (aI .i64))) (some (.lit (.int k n))) none none H=bif decide (0≤n∧n≤l.length) then some (.ro ((l.drop n.toNat).map (aI .i64)),H) else none:=B6 (P:=(xS kk).P) (e:=3) (by kernel_rfl) (by kernel_rfl) (fun x=>(by kernel_rfl:((aI .i64) x).length=aR (xS kk).P 3))
theorem abs (kk:Nat) (wl:Nat) (c:Bool) (l:List Int) (k k2:IntKind) (lo n:Int) (H:Hp):dp (xS kk).P wl c 53 (.ro (l.map (aI .i64))) (some (.lit (.int k lo))) (some (.lit (.int k2 n))) none H=bif decide (0≤lo∧lo≤n∧n≤l.length) then some (.ro (((l.take n.toNat).drop lo.toNat).map (aI .i64)),H) else none:=ry (P:=(xS kk).P) (e:=3) (by kernel_rfl) (by kernel_rfl) (fun x=>(by kernel_rfl:((aI .i64) x).length=aR (xS kk).P 3))
theorem aes (kk:Nat) (wl:Nat) (c:Bool) (id g len:Nat) (k:IntKind) (n:Int) (H:Hp):dp (xS kk).P wl c 63 (.own id g len) none (some (.lit (.int k n))) none H=slB g len id n H (H[id]?):=wS (P:=(xS kk).P) (e:=129) (by kernel_rfl) (by kernel_rfl)
theorem aa8 (kk:Nat) (wl:Nat) (c:Bool) (l:List (Int×Int×Int)) (k:IntKind) (n:Int) (H:Hp):dp (xS kk).P wl c 63 (.ro (l.map aM)) none (some (.lit (.int k n))) none H=bif decide (0≤n∧n≤l.length) then some (.ro ((l.take n.toNat).map aM),H) else none:=BJ (P:=(xS kk).P) (e:=129) (by kernel_rfl) (by kernel_rfl) (fun x=>(by kernel_rfl:(aM x).length=aR (xS kk).P 129))
theorem acS (kk:Nat) (wl:Nat) (c:Bool) (l:List (Int×Int×Int)) (k:IntKind) (n:Int) (H:Hp):dp (xS kk).P wl c 63 (.ro (l.map aM)) (some (.lit (.int k n))) none none H=bif decide (0≤n∧n≤l.length) then some (.ro ((l.drop n.toNat).map aM),H) else none:=B6 (P:=(xS kk).P) (e:=129) (by kernel_rfl) (by kernel_rfl) (fun x=>(by kernel_rfl:(aM x).length=aR (xS kk).P 129))
theorem adV (kk:Nat) (wl:Nat) (c:Bool) (l:List (Int×Int×Int)) (k k2:IntKind) (lo n:Int) (H:Hp):dp (xS kk).P wl c 63 (.ro (l.map aM)) (some (.lit (.int k lo))) (some (.lit (.int k2 n))) none H=bif decide (0≤lo∧lo≤n∧n≤l.length) then some (.ro (((l.take n.toNat).drop lo.toNat).map aM),H) else none:=ry (P:=(xS kk).P) (e:=129) (by kernel_rfl) (by kernel_rfl) (fun x=>(by kernel_rfl:(aM x).length=aR (xS kk).P 129))
theorem W6 (kk:Nat) (n:Int) (H:Hp):a8 (xS kk).P 150 (.lit (.int .i64 n)) (.lit (.int .i64 n)) H=bif decide (0≤n∧n≤9223372036854775807∧n*1≤70368744177664) then some (.own H.length 0 n.toNat,H++[.rows 1 (List.replicate n.toNat [(V.lit (Value.bool false))]) 0 true]) else none:=AG (P:=(xS kk).P) (t:=150) (e:=4) (z:=((eG (xS kk).P 4).getD default)) (by kernel_rfl) (by kernel_rfl) (by kernel_rfl) (by kernel_rfl)
theorem TN (kk:Nat) (k:IntKind) (n:Int):fZ (xS kk).P 3 46 (.lit (.int k n))=some (.lit (.int .u64 (IntKind.wrap .u64 n))):=by kernel_rfl
theorem RZ (kk:Nat) (k:IntKind) (n:Int):fZ (xS kk).P 46 3 (.lit (.int k n))=some (.lit (.int .i64 (IntKind.wrap .i64 n))):=by kernel_rfl
theorem aeF (kk:Nat) (a0 b0:Int) (a1 b1:Int) (a2 b2:Int) (a3 b3:Int):av (xS kk).P .eql 23 (.agg [.lit (.int .i64 a0),.lit (.int .i64 a1),.lit (.int .i64 a2),.lit (.int .i64 a3)]) (.agg [.lit (.int .i64 b0),.lit (.int .i64 b1),.lit (.int .i64 b2),.lit (.int .i64 b3)])=some (.lit (.bool ((a0==b0)&&((a1==b1)&&((a2==b2)&&((a3==b3)&&true)))))):=by kernel_rfl
theorem acr (kk:Nat) (a0 b0:Int) (a1 b1:Int) (a2 b2:Int) (a3 b3:Int):av (xS kk).P .neq 23 (.agg [.lit (.int .i64 a0),.lit (.int .i64 a1),.lit (.int .i64 a2),.lit (.int .i64 a3)]) (.agg [.lit (.int .i64 b0),.lit (.int .i64 b1),.lit (.int .i64 b2),.lit (.int .i64 b3)])=some (.lit (.bool (!((a0==b0)&&((a1==b1)&&((a2==b2)&&((a3==b3)&&true))))))):=by kernel_rfl
theorem ady (kk:Nat) (a0 b0:Int) (a1 b1:Int) (a2 b2:Int):av (xS kk).P .eql 52 (.agg [.lit (.int .i64 a0),.lit (.int .i64 a1),.lit (.int .i64 a2)]) (.agg [.lit (.int .i64 b0),.lit (.int .i64 b1),.lit (.int .i64 b2)])=some (.lit (.bool ((a0==b0)&&((a1==b1)&&((a2==b2)&&true))))):=by kernel_rfl
theorem adT (kk:Nat) (a0 b0:Int) (a1 b1:Int) (a2 b2:Int):av (xS kk).P .neq 52 (.agg [.lit (.int .i64 a0),.lit (.int .i64 a1),.lit (.int .i64 a2)]) (.agg [.lit (.int .i64 b0),.lit (.int .i64 b1),.lit (.int .i64 b2)])=some (.lit (.bool (!((a0==b0)&&((a1==b1)&&((a2==b2)&&true)))))):=by kernel_rfl
theorem acO (kk:Nat) (a0 b0:Int) (a1 b1:Int) (a2 b2:Int) (a3 b3:Int) (a4 b4:Int) (a5 b5:Int) (a6 b6:Int):av (xS kk).P .eql 55 (.agg [.lit (.int .i64 a0),.lit (.int .i64 a1),.lit (.int .i64 a2),.lit (.int .u64 a3),.lit (.int .u64 a4),.lit (.int .u64 a5),.lit (.int .i64 a6)]) (.agg [.lit (.int .i64 b0),.lit (.int .i64 b1),.lit (.int .i64 b2),.lit (.int .u64 b3),.lit (.int .u64 b4),.lit (.int .u64 b5),.lit (.int .i64 b6)])=some (.lit (.bool ((a0==b0)&&((a1==b1)&&((a2==b2)&&((a3==b3)&&((a4==b4)&&((a5==b5)&&((a6==b6)&&true))))))))):=by kernel_rfl
theorem acs (kk:Nat) (a0 b0:Int) (a1 b1:Int) (a2 b2:Int) (a3 b3:Int) (a4 b4:Int) (a5 b5:Int) (a6 b6:Int):av (xS kk).P .neq 55 (.agg [.lit (.int .i64 a0),.lit (.int .i64 a1),.lit (.int .i64 a2),.lit (.int .u64 a3),.lit (.int .u64 a4),.lit (.int .u64 a5),.lit (.int .i64 a6)]) (.agg [.lit (.int .i64 b0),.lit (.int .i64 b1),.lit (.int .i64 b2),.lit (.int .u64 b3),.lit (.int .u64 b4),.lit (.int .u64 b5),.lit (.int .i64 b6)])=some (.lit (.bool (!((a0==b0)&&((a1==b1)&&((a2==b2)&&((a3==b3)&&((a4==b4)&&((a5==b5)&&((a6==b6)&&true)))))))))):=by kernel_rfl
theorem Xk (kk:Nat) (a0 b0:Int) (a1 b1:Int) (a2 b2:Int):av (xS kk).P .eql 129 (.agg [.lit (.int .i64 a0),.lit (.int .i64 a1),.lit (.int .i64 a2)]) (.agg [.lit (.int .i64 b0),.lit (.int .i64 b1),.lit (.int .i64 b2)])=some (.lit (.bool ((a0==b0)&&((a1==b1)&&((a2==b2)&&true))))):=by kernel_rfl
theorem Y4 (kk:Nat) (a0 b0:Int) (a1 b1:Int) (a2 b2:Int):av (xS kk).P .neq 129 (.agg [.lit (.int .i64 a0),.lit (.int .i64 a1),.lit (.int .i64 a2)]) (.agg [.lit (.int .i64 b0),.lit (.int .i64 b1),.lit (.int .i64 b2)])=some (.lit (.bool (!((a0==b0)&&((a1==b1)&&((a2==b2)&&true)))))):=by kernel_rfl
theorem EC (kk:Nat) (c0 c1 c2:V):a9 (xS kk).P 23 [(0,c0),(1,c1),(2,c2)]=(oM [(V.lit (Value.int .i64 (0))),(V.lit (Value.int .i64 (0))),(V.lit (Value.int .i64 (0))),(V.lit (Value.int .i64 (0)))] [(0,1,c0),(1,1,c1),(2,1,c2)]).map .agg:=by kernel_rfl
theorem Zt (kk:Nat):a9 (xS kk).P 30 []=(oM [(V.lit (Value.int .i64 (0))),(V.lit (Value.int .i64 (0))),(V.lit (Value.int .i64 (0))),(V.lit (Value.int .i64 (0))),V.nil,V.nil,V.nil,V.nil] []).map .agg:=by kernel_rfl
theorem En (kk:Nat) (c0 c1 c2:V):a9 (xS kk).P 30 [(0,c0),(1,c1),(2,c2)]=(oM [(V.lit (Value.int .i64 (0))),(V.lit (Value.int .i64 (0))),(V.lit (Value.int .i64 (0))),(V.lit (Value.int .i64 (0))),V.nil,V.nil,V.nil,V.nil] [(0,4,c0),(4,1,c1),(5,1,c2)]).map .agg:=by kernel_rfl
theorem aad (kk:Nat):a9 (xS kk).P 48 []=(oM [(V.lit (Value.int .i64 (0))),(V.lit (Value.int .i64 (0))),(V.lit (Value.int .u64 (0)))] []).map .agg:=by kernel_rfl
theorem Vg (kk:Nat) (c0:V):a9 (xS kk).P 48 [(0,c0)]=(oM [(V.lit (Value.int .i64 (0))),(V.lit (Value.int .i64 (0))),(V.lit (Value.int .u64 (0)))] [(0,1,c0)]).map .agg:=by kernel_rfl
theorem Dd (kk:Nat) (c0 c1 c2:V):a9 (xS kk).P 52 [(0,c0),(1,c1),(2,c2)]=(oM [(V.lit (Value.int .i64 (0))),(V.lit (Value.int .i64 (0))),(V.lit (Value.int .i64 (0)))] [(0,1,c0),(1,1,c1),(2,1,c2)]).map .agg:=by kernel_rfl
theorem VN (kk:Nat):a9 (xS kk).P 55 []=(oM [(V.lit (Value.int .i64 (0))),(V.lit (Value.int .i64 (0))),(V.lit (Value.int .i64 (0))),(V.lit (Value.int .u64 (0))),(V.lit (Value.int .u64 (0))),(V.lit (Value.int .u64 (0))),(V.lit (Value.int .i64 (0)))] []).map .agg:=by kernel_rfl
theorem Ea (kk:Nat) (c0 c1 c2:V):a9 (xS kk).P 55 [(0,c0),(2,c1),(3,c2)]=(oM [(V.lit (Value.int .i64 (0))),(V.lit (Value.int .i64 (0))),(V.lit (Value.int .i64 (0))),(V.lit (Value.int .u64 (0))),(V.lit (Value.int .u64 (0))),(V.lit (Value.int .u64 (0))),(V.lit (Value.int .i64 (0)))] [(0,1,c0),(2,1,c1),(3,1,c2)]).map .agg:=by kernel_rfl
theorem xu (kk:Nat) (c0 c1 c2 c3:V):a9 (xS kk).P 55 [(0,c0),(2,c1),(3,c2),(6,c3)]=(oM [(V.lit (Value.int .i64 (0))),(V.lit (Value.int .i64 (0))),(V.lit (Value.int .i64 (0))),(V.lit (Value.int .u64 (0))),(V.lit (Value.int .u64 (0))),(V.lit (Value.int .u64 (0))),(V.lit (Value.int .i64 (0)))] [(0,1,c0),(2,1,c1),(3,1,c2),(6,1,c3)]).map .agg:=by kernel_rfl
theorem DB (kk:Nat) (c0 c1 c2:V):a9 (xS kk).P 57 [(0,c0),(1,c1),(2,c2)]=(oM [(V.lit (Value.int .i64 (0))),V.nil,(V.lit (Value.int .i64 (0))),(V.lit (Value.int .i64 (0))),(V.lit (Value.int .i64 (0))),(V.lit (Value.int .u64 (0))),(V.lit (Value.int .u64 (0))),(V.lit (Value.int .u64 (0))),(V.lit (Value.int .i64 (0)))] [(0,1,c0),(1,1,c1),(2,7,c2)]).map .agg:=by kernel_rfl
theorem Sf (kk:Nat) (c0:V):a9 (xS kk).P 57 [(1,c0)]=(oM [(V.lit (Value.int .i64 (0))),V.nil,(V.lit (Value.int .i64 (0))),(V.lit (Value.int .i64 (0))),(V.lit (Value.int .i64 (0))),(V.lit (Value.int .u64 (0))),(V.lit (Value.int .u64 (0))),(V.lit (Value.int .u64 (0))),(V.lit (Value.int .i64 (0)))] [(1,1,c0)]).map .agg:=by kernel_rfl
theorem S3 (kk:Nat) (c0:V):a9 (xS kk).P 65 [(2,c0)]=(oM [(V.lit (Value.int .i64 (0))),V.nil,(V.lit (Value.int .i64 (0))),(V.lit (Value.int .i64 (0))),(V.lit (Value.int .i64 (0))),(V.lit (Value.int .u64 (0))),(V.lit (Value.int .u64 (0))),(V.lit (Value.int .u64 (0))),(V.lit (Value.int .i64 (0))),(V.lit (Value.int .i64 (0))),(V.lit (Value.int .i64 (0)))] [(2,7,c0)]).map .agg:=by kernel_rfl
theorem Pa (kk:Nat) (c0:V):a9 (xS kk).P 129 [(0,c0)]=(oM [(V.lit (Value.int .i64 (0))),(V.lit (Value.int .i64 (0))),(V.lit (Value.int .i64 (0)))] [(0,1,c0)]).map .agg:=by kernel_rfl
theorem nq (kk:Nat) (c0 c1 c2 c3 c4 c5:V):a9 (xS kk).P 168 [(0,c0),(1,c1),(2,c2),(3,c3),(4,c4),(5,c5)]=(oM [(V.lit (Value.int .i64 (0))),V.nil,(V.lit (Value.int .i64 (0))),(V.lit (Value.int .i64 (0))),(V.lit (Value.int .i64 (0))),(V.lit (Value.int .u64 (0))),(V.lit (Value.int .u64 (0))),(V.lit (Value.int .u64 (0))),(V.lit (Value.int .i64 (0))),(V.lit (Value.int .i64 (0))),(V.lit (Value.int .i64 (0))),(V.lit (Value.int .i64 (0))),(V.lit (Value.int .i64 (0))),(V.lit (Value.int .i64 (0))),(V.lit (Value.int .i64 (0))),V.nil,V.nil,(V.lit (Value.int .i64 (0))),(V.lit (Value.int .u64 (0))),V.nil] [(0,11,c0),(11,4,c1),(15,1,c2),(16,1,c3),(17,1,c4),(18,1,c5)]).map .agg:=by kernel_rfl
theorem dt (kk:Nat) (c0 c1 c2 c3 c4 c5 c6 c7 c8 c9 c10 c11 c12 c13 c14 c15:V):a9 (xS kk).P 169 [(0,c0),(1,c1),(2,c2),(3,c3),(4,c4),(5,c5),(6,c6),(7,c7),(8,c8),(9,c9),(10,c10),(11,c11),(12,c12),(13,c13),(14,c14),(15,c15)]=(oM [(V.lit Value.nilFunc),(V.lit Value.nilFunc),(V.lit Value.nilFunc),(V.lit Value.nilFunc),(V.lit Value.nilFunc),(V.lit Value.nilFunc),(V.lit Value.nilFunc),(V.lit Value.nilFunc),(V.lit Value.nilFunc),(V.lit Value.nilFunc),(V.lit Value.nilFunc),(V.lit Value.nilFunc),(V.lit Value.nilFunc),(V.lit Value.nilFunc),(V.lit Value.nilFunc),(V.lit Value.nilFunc)] [(0,1,c0),(1,1,c1),(2,1,c2),(3,1,c3),(4,1,c4),(5,1,c5),(6,1,c6),(7,1,c7),(8,1,c8),(9,1,c9),(10,1,c10),(11,1,c11),(12,1,c12),(13,1,c13),(14,1,c14),(15,1,c15)]).map .agg:=by kernel_rfl
theorem nG (kk:Nat) (c0 c1 c2 c3 c4 c5:V):a9 (xS kk).P 175 [(0,c0),(1,c1),(2,c2),(3,c3),(4,c4),(5,c5)]=(oM [(V.lit Value.nilFunc),(V.lit Value.nilFunc),(V.lit Value.nilFunc),(V.lit Value.nilFunc),(V.lit Value.nilFunc),(V.lit Value.nilFunc)] [(0,1,c0),(1,1,c1),(2,1,c2),(3,1,c3),(4,1,c4),(5,1,c5)]).map .agg:=by kernel_rfl
theorem Uo (kk:Nat):a9 (xS kk).P 194 []=(oM [(V.lit (Value.int .i64 (0))),(V.lit (Value.int .i64 (0)))] []).map .agg:=by kernel_rfl
theorem GS (kk:Nat) (c0 c1:V):a9 (xS kk).P 194 [(0,c0),(1,c1)]=(oM [(V.lit (Value.int .i64 (0))),(V.lit (Value.int .i64 (0)))] [(0,1,c0),(1,1,c1)]).map .agg:=by kernel_rfl
theorem B4 (kk:Nat) (c0 c1 c2:V):a9 (xS kk).P 205 [(0,c0),(1,c1),(2,c2)]=(oM [(V.lit (Value.int .i64 (0))),(V.lit (Value.int .i64 (0))),(V.lit (Value.int .i64 (0))),(V.lit (Value.int .u64 (0))),(V.lit (Value.int .u64 (0))),(V.lit (Value.int .u64 (0))),(V.lit (Value.int .i64 (0))),(V.lit (Value.int .i64 (0))),(V.lit (Value.int .i64 (0))),(V.lit (Value.int .i64 (0))),(V.lit (Value.int .i64 (0))),V.nil] [(0,7,c0),(7,4,c1),(11,1,c2)]).map .agg:=by kernel_rfl
theorem CC (kk:Nat) (c0 c1 c2:V):a9 (xS kk).P 221 [(0,c0),(1,c1),(2,c2)]=(oM [(V.lit (Value.int .i64 (0))),(V.lit (Value.int .i64 (0))),(V.lit (Value.int .i64 (0))),(V.lit (Value.int .u64 (0))),(V.lit (Value.int .u64 (0))),(V.lit (Value.int .u64 (0))),(V.lit (Value.int .i64 (0))),(V.lit (Value.int .i64 (0))),(V.lit (Value.int .i64 (0))),(V.lit (Value.int .i64 (0))),(V.lit (Value.int .i64 (0))),V.nil] [(0,7,c0),(7,4,c1),(11,1,c2)]).map .agg:=by kernel_rfl
theorem C8 (kk:Nat) (c0 c1 c2:V):a9 (xS kk).P 235 [(0,c0),(1,c1),(2,c2)]=(oM [(V.lit (Value.int .i64 (0))),(V.lit (Value.int .i64 (0))),(V.lit (Value.int .i64 (0))),(V.lit (Value.int .u64 (0))),(V.lit (Value.int .u64 (0))),(V.lit (Value.int .u64 (0))),(V.lit (Value.int .i64 (0))),(V.lit (Value.int .i64 (0))),(V.lit (Value.int .i64 (0))),(V.lit (Value.int .i64 (0))),(V.lit (Value.int .i64 (0))),V.nil] [(0,7,c0),(7,4,c1),(11,1,c2)]).map .agg:=by kernel_rfl
theorem u5 (kk:Nat) (c0 c1 c2 c3:V):a9 (xS kk).P 236 [(0,c0),(1,c1),(2,c2),(3,c3)]=(oM [(V.lit Value.nilFunc),(V.lit Value.nilFunc),(V.lit Value.nilFunc),(V.lit Value.nilFunc)] [(0,1,c0),(1,1,c1),(2,1,c2),(3,1,c3)]).map .agg:=by kernel_rfl
theorem US (kk:Nat) (wl:Nat) (l:List (Nat×V)) (H:Hp):az (xS kk).P wl 24 0 l H=(eY wl 2 l [] H).bind fun p=>some (.own p.2.length 0 0,p.2++[.rows 2 p.1 0 true]):=by kernel_rfl
theorem SN (kk:Nat) (wl:Nat) (l:List (Nat×V)) (H:Hp):az (xS kk).P wl 25 1 l H=(eY wl 1 l [[(V.lit (Value.int .u64 (0)))]] H).bind fun p=>some (.own p.2.length 0 1,p.2++[.rows 1 p.1 0 true]):=by kernel_rfl
theorem TD (kk:Nat) (wl:Nat) (l:List (Nat×V)) (H:Hp):az (xS kk).P wl 26 0 l H=(eY wl 1 l [] H).bind fun p=>some (.own p.2.length 0 0,p.2++[.rows 1 p.1 0 true]):=by kernel_rfl
theorem S6 (kk:Nat) (wl:Nat) (l:List (Nat×V)) (H:Hp):az (xS kk).P wl 26 1 l H=(eY wl 1 l [[(V.lit (Value.int .u64 (0)))]] H).bind fun p=>some (.own p.2.length 0 1,p.2++[.rows 1 p.1 0 true]):=by kernel_rfl
theorem S2 (kk:Nat) (wl:Nat) (l:List (Nat×V)) (H:Hp):az (xS kk).P wl 27 0 l H=(eY wl 11 l [] H).bind fun p=>some (.own p.2.length 0 0,p.2++[.rows 11 p.1 0 true]):=by kernel_rfl
theorem U7 (kk:Nat) (wl:Nat) (l:List (Nat×V)) (H:Hp):az (xS kk).P wl 27 1 l H=(eY wl 11 l [[(V.lit (Value.int .i64 (0))),V.ro [],(V.lit (Value.int .i64 (0))),(V.lit (Value.int .i64 (0))),(V.lit (Value.int .i64 (0))),(V.lit (Value.int .u64 (0))),(V.lit (Value.int .u64 (0))),(V.lit (Value.int .u64 (0))),(V.lit (Value.int .i64 (0))),(V.lit (Value.int .i64 (0))),(V.lit (Value.int .i64 (0)))]] H).bind fun p=>some (.own p.2.length 0 1,p.2++[.rows 11 p.1 0 true]):=by kernel_rfl
theorem Tg (kk:Nat) (wl:Nat) (l:List (Nat×V)) (H:Hp):az (xS kk).P wl 28 0 l H=(eY wl 9 l [] H).bind fun p=>some (.own p.2.length 0 0,p.2++[.rows 9 p.1 0 true]):=by kernel_rfl
theorem Ve (kk:Nat) (wl:Nat) (l:List (Nat×V)) (H:Hp):az (xS kk).P wl 28 1 l H=(eY wl 9 l [[(V.lit (Value.int .i64 (0))),V.ro [],(V.lit (Value.int .i64 (0))),(V.lit (Value.int .i64 (0))),(V.lit (Value.int .i64 (0))),(V.lit (Value.int .u64 (0))),(V.lit (Value.int .u64 (0))),(V.lit (Value.int .u64 (0))),(V.lit (Value.int .i64 (0)))]] H).bind fun p=>some (.own p.2.length 0 1,p.2++[.rows 9 p.1 0 true]):=by kernel_rfl
theorem UB (kk:Nat) (wl:Nat) (l:List (Nat×V)) (H:Hp):az (xS kk).P wl 31 1 l H=(eY wl 3 l [[(V.lit (Value.int .i64 (0))),(V.lit (Value.int .i64 (0))),(V.lit (Value.int .u64 (0)))]] H).bind fun p=>some (.own p.2.length 0 1,p.2++[.rows 3 p.1 0 true]):=by kernel_rfl
theorem U6 (kk:Nat) (wl:Nat) (l:List (Nat×V)) (H:Hp):az (xS kk).P wl 31 2 l H=(eY wl 3 l [[(V.lit (Value.int .i64 (0))),(V.lit (Value.int .i64 (0))),(V.lit (Value.int .u64 (0)))],[(V.lit (Value.int .i64 (0))),(V.lit (Value.int .i64 (0))),(V.lit (Value.int .u64 (0)))]] H).bind fun p=>some (.own p.2.length 0 2,p.2++[.rows 3 p.1 0 true]):=by kernel_rfl
theorem RB (kk:Nat) (wl:Nat) (l:List (Nat×V)) (H:Hp):az (xS kk).P wl 34 1 l H=(eY wl 3 l [[(V.lit (Value.int .i64 (0))),(V.lit (Value.int .i64 (0))),(V.lit (Value.int .i64 (0)))]] H).bind fun p=>some (.own p.2.length 0 1,p.2++[.rows 3 p.1 0 true]):=by kernel_rfl
theorem Uu (kk:Nat) (wl:Nat) (l:List (Nat×V)) (H:Hp):az (xS kk).P wl 53 0 l H=(eY wl 1 l [] H).bind fun p=>some (.own p.2.length 0 0,p.2++[.rows 1 p.1 0 true]):=by kernel_rfl
theorem RD (kk:Nat) (wl:Nat) (l:List (Nat×V)) (H:Hp):az (xS kk).P wl 53 1 l H=(eY wl 1 l [[(V.lit (Value.int .i64 (0)))]] H).bind fun p=>some (.own p.2.length 0 1,p.2++[.rows 1 p.1 0 true]):=by kernel_rfl
theorem Vu (kk:Nat) (wl:Nat) (l:List (Nat×V)) (H:Hp):az (xS kk).P wl 53 5 l H=(eY wl 1 l [[(V.lit (Value.int .i64 (0)))],[(V.lit (Value.int .i64 (0)))],[(V.lit (Value.int .i64 (0)))],[(V.lit (Value.int .i64 (0)))],[(V.lit (Value.int .i64 (0)))]] H).bind fun p=>some (.own p.2.length 0 5,p.2++[.rows 1 p.1 0 true]):=by kernel_rfl
theorem Vz (kk:Nat) (wl:Nat) (l:List (Nat×V)) (H:Hp):az (xS kk).P wl 63 0 l H=(eY wl 3 l [] H).bind fun p=>some (.own p.2.length 0 0,p.2++[.rows 3 p.1 0 true]):=by kernel_rfl
theorem UW (kk:Nat) (wl:Nat) (l:List (Nat×V)) (H:Hp):az (xS kk).P wl 63 1 l H=(eY wl 3 l [[(V.lit (Value.int .i64 (0))),(V.lit (Value.int .i64 (0))),(V.lit (Value.int .i64 (0)))]] H).bind fun p=>some (.own p.2.length 0 1,p.2++[.rows 3 p.1 0 true]):=by kernel_rfl
theorem OL (kk:Nat) (wl:Nat) (l:List (Nat×V)) (H:Hp):az (xS kk).P wl 207 5 l H=(eY wl 1 l [[(V.lit Value.nilFunc)],[(V.lit Value.nilFunc)],[(V.lit Value.nilFunc)],[(V.lit Value.nilFunc)],[(V.lit Value.nilFunc)]] H).bind fun p=>some (.own p.2.length 0 5,p.2++[.rows 1 p.1 0 true]):=by kernel_rfl
theorem Mi (kk:Nat) (wl:Nat) (l:List (Nat×V)) (H:Hp):az (xS kk).P wl 223 5 l H=(eY wl 1 l [[(V.lit Value.nilFunc)],[(V.lit Value.nilFunc)],[(V.lit Value.nilFunc)],[(V.lit Value.nilFunc)],[(V.lit Value.nilFunc)]] H).bind fun p=>some (.own p.2.length 0 5,p.2++[.rows 1 p.1 0 true]):=by kernel_rfl
theorem PC (kk:Nat) (wl:Nat) (l:List (Nat×V)) (H:Hp):az (xS kk).P wl 238 4 l H=(eY wl 1 l [[(V.lit Value.nilFunc)],[(V.lit Value.nilFunc)],[(V.lit Value.nilFunc)],[(V.lit Value.nilFunc)]] H).bind fun p=>some (.own p.2.length 0 4,p.2++[.rows 1 p.1 0 true]):=by kernel_rfl
theorem VY (kk:Nat) (wl id:Nat) (n:Int) (v:V) (H:Hp):dY (xS kk).P wl 138 (.map id) (.lit (.int .i64 n)) v H=inB wl .i64 id n v H (H[id]?):=by kernel_rfl
theorem aav (kk:Nat) (id:Nat) (n:Int) (ok:Bool) (H:Hp):fo (xS kk).P 138 (.map id) (.lit (.int .i64 n)) ok H=lkB .i64 (V.lit Value.nilFunc) ok n (H[id]?):=by kernel_rfl
theorem Xu (kk:Nat) (wl id:Nat) (n:Int) (v:V) (H:Hp):dY (xS kk).P wl 201 (.map id) (.lit (.int .i64 n)) v H=inB wl .i64 id n v H (H[id]?):=by kernel_rfl
theorem V3 (kk:Nat) (id:Nat) (n:Int) (ok:Bool) (H:Hp):fo (xS kk).P 201 (.map id) (.lit (.int .i64 n)) ok H=lkB .i64 (V.lit Value.nilFunc) ok n (H[id]?):=by kernel_rfl
theorem Yu (kk:Nat) (wl id:Nat) (n:Int) (v:V) (H:Hp):dY (xS kk).P wl 212 (.map id) (.lit (.int .i64 n)) v H=inB wl .i64 id n v H (H[id]?):=by kernel_rfl
theorem Xv (kk:Nat) (id:Nat) (n:Int) (ok:Bool) (H:Hp):fo (xS kk).P 212 (.map id) (.lit (.int .i64 n)) ok H=lkB .i64 (V.lit Value.nilFunc) ok n (H[id]?):=by kernel_rfl
theorem Ze (kk:Nat) (id g row off:Nat) (k:IntKind) (n:Int) (H:Hp):ak (xS kk).P 169 (.ptr id g row off) (.lit (.int k n)) H=arC id g row [(0,off),(1,off+1),(2,off+2),(3,off+3),(4,off+4),(5,off+5),(6,off+6),(7,off+7),(8,off+8),(9,off+9),(10,off+10),(11,off+11),(12,off+12),(13,off+13),(14,off+14),(15,off+15)] n:=IP (e:=1) (len:=16) (sz:=1) (by kernel_rfl) (by kernel_rfl) (by decide)
theorem Wr (kk:Nat) (id g row off:Nat) (k:IntKind) (n:Int) (H:Hp):ak (xS kk).P 175 (.ptr id g row off) (.lit (.int k n)) H=arC id g row [(0,off),(1,off+1),(2,off+2),(3,off+3),(4,off+4),(5,off+5)] n:=IP (e:=1) (len:=6) (sz:=1) (by kernel_rfl) (by kernel_rfl) (by decide)
theorem Xz (kk:Nat) (id g row off:Nat) (k:IntKind) (n:Int) (H:Hp):ak (xS kk).P 236 (.ptr id g row off) (.lit (.int k n)) H=arC id g row [(0,off),(1,off+1),(2,off+2),(3,off+3)] n:=IP (e:=1) (len:=4) (sz:=1) (by kernel_rfl) (by kernel_rfl) (by decide)
def xF0:=PLift.up (And.intro (And.intro (And.intro (And.intro (And.intro (And.intro (And.intro (And.intro (@afC) (@af4)) (And.intro (@afO) (@agk))) (And.intro (And.intro (@afY) (@afz)) (And.intro (@ac3) (And.intro (@acf) (@ace))))) (And.intro (And.intro (And.intro (@adC) (@adW)) (And.intro (@abx) (And.intro (@acx) (@abI)))) (And.intro (And.intro (@aeq) (@aet)) (And.intro (@adM) (And.intro (@abE) (@acA)))))) (And.intro (And.intro (And.intro (And.intro (@acq) (@ac1)) (And.intro (@ad4) (And.intro (@abM) (@abj)))) (And.intro (And.intro (@aeT) (@acz)) (And.intro (@abD) (And.intro (@ado) (@aba))))) (And.intro (And.intro (And.intro (@adn) (@abk)) (And.intro (@adQ) (And.intro (@adg) (@adZ)))) (And.intro (And.intro (@abG) (@aed)) (And.intro (@acn) (And.intro (@adN) (@acJ))))))) (And.intro (And.intro (And.intro (And.intro (And.intro (@aeP) (@ZQ)) (And.intro (@Zm) (@aax))) (And.intro (And.intro (@Zl) (@aam)) (And.intro (@ZG) (And.intro (@Yh) (@XV))))) (And.intro (And.intro (And.intro (@Yl) (@Z5)) (And.intro (@ZF) (And.intro (@YR) (@Zx)))) (And.intro (And.intro (@Xe) (@aae)) (And.intro (@Xi) (And.intro (@Zi) (@Yo)))))) (And.intro (And.intro (And.intro (And.intro (@Yx) (@Wn)) (And.intro (@Y2) (And.intro (@Xh) (@afX)))) (And.intro (And.intro (@agj) (@afP)) (And.intro (@adF) (And.intro (@abY) (@acD))))) (And.intro (And.intro (And.intro (@abA) (@ab2)) (And.intro (@abe) (And.intro (@aeA) (@ac2)))) (And.intro (And.intro (@YF) (@V7)) (And.intro (@YE) (And.intro (@VM) (@aao)))))))) (And.intro (And.intro (And.intro (And.intro (And.intro (And.intro (@WK) (@YD)) (And.intro (@WP) (@ZP))) (And.intro (And.intro (@R9) (@RE)) (And.intro (@T1) (And.intro (@SF) (@S9))))) (And.intro (And.intro (And.intro (@Se) (@RW)) (And.intro (@To) (And.intro (@T4) (@Tx)))) (And.intro (And.intro (@Rl) (@Vx)) (And.intro (@SC) (And.intro (@RU) (@Rq)))))) (And.intro (And.intro (And.intro (And.intro (@UR) (@Rc)) (And.intro (@Ub) (And.intro (@Sj) (@SA)))) (And.intro (And.intro (@Rb) (@UN)) (And.intro (@UY) (And.intro (@UK) (@S1))))) (And.intro (And.intro (And.intro (@SK) (@Tb)) (And.intro (@T3) (And.intro (@Vv) (@UT)))) (And.intro (And.intro (@Rd) (@Uc)) (And.intro (@Ux) (And.intro (@Rh) (@Tp))))))) (And.intro (And.intro (And.intro (And.intro (And.intro (@UX) (@Up)) (And.intro (@Tu) (@Vl))) (And.intro (And.intro (@Tv) (@S8)) (And.intro (@Sv) (And.intro (@T9) (@Ss))))) (And.intro (And.intro (And.intro (@Sb) (@Vh)) (And.intro (@Su) (And.intro (@U9) (@UZ)))) (And.intro (And.intro (@U4) (@RN)) (And.intro (@Rn) (And.intro (@SV) (@Rf)))))) (And.intro (And.intro (And.intro (And.intro (@Uy) (@UL)) (And.intro (@Mt) (And.intro (@MN) (@OZ)))) (And.intro (And.intro (@NV) (@O4)) (And.intro (@M4) (And.intro (@MU) (@Mj))))) (And.intro (And.intro (And.intro (@Ng) (@MH)) (And.intro (@Nk) (And.intro (@Ox) (@Oq)))) (And.intro (And.intro (@Pd) (@Np)) (And.intro (@MG) (And.intro (@N3) (@Oj))))))))) (And.intro (And.intro (And.intro (And.intro (And.intro (And.intro (And.intro (@NA) (@LY)) (And.intro (@OG) (@MV))) (And.intro (And.intro (@L7) (@O8)) (And.intro (@OB) (And.intro (@Oy) (@O5))))) (And.intro (And.intro (And.intro (@Nx) (@Pj)) (And.intro (@Nb) (And.intro (@OS) (@LX)))) (And.intro (And.intro (@Om) (@OJ)) (And.intro (@OA) (And.intro (@M9) (@Pg)))))) (And.intro (And.intro (And.intro (And.intro (@Mr) (@LQ)) (And.intro (@MX) (And.intro (@NX) (@OW)))) (And.intro (And.intro (@Or) (@Nz)) (And.intro (@ON) (And.intro (@LJ) (@NY))))) (And.intro (And.intro (And.intro (@aea) (@adI)) (And.intro (@aeI) (And.intro (@aby) (@abt)))) (And.intro (And.intro (@adb) (@adr)) (And.intro (@abX) (And.intro (@ab6) (@acZ))))))) (And.intro (And.intro (And.intro (And.intro (And.intro (@adK) (@acu)) (And.intro (@adm) (@aec))) (And.intro (And.intro (@acE) (@aeh)) (And.intro (@ab3) (And.intro (@abd) (@WJ))))) (And.intro (And.intro (And.intro (@VL) (@XQ)) (And.intro (@WS) (And.intro (@WH) (@Wx)))) (And.intro (And.intro (@YP) (@aah)) (And.intro (@aat) (And.intro (@YM) (@VP)))))) (And.intro (And.intro (And.intro (And.intro (@Yc) (@ZM)) (And.intro (@aan) (And.intro (@XS) (@SJ)))) (And.intro (And.intro (@TK) (@LU)) (And.intro (@Mk) (And.intro (@Nn) (@Pt))))) (And.intro (And.intro (And.intro (@Od) (@MJ)) (And.intro (@Mp) (And.intro (@Nh) (@N1)))) (And.intro (And.intro (@Nd) (@MY)) (And.intro (@L5) (And.intro (@Mw) (@Ov)))))))) (And.intro (And.intro (And.intro (And.intro (And.intro (And.intro (@L6) (@L9)) (And.intro (@Pp) (@Na))) (And.intro (And.intro (@OC) (@NI)) (And.intro (@LP) (And.intro (@NG) (@Pn))))) (And.intro (And.intro (And.intro (@Oz) (@ada)) (And.intro (@aeC) (And.intro (@aa9) (@abs)))) (And.intro (And.intro (@aes) (@aa8)) (And.intro (@acS) (And.intro (@adV) (@W6)))))) (And.intro (And.intro (And.intro (And.intro (@TN) (@RZ)) (And.intro (@aeF) (And.intro (@acr) (@ady)))) (And.intro (And.intro (@adT) (@acO)) (And.intro (@acs) (And.intro (@Xk) (@Y4))))) (And.intro (And.intro (And.intro (@EC) (@Zt)) (And.intro (@En) (And.intro (@aad) (@Vg)))) (And.intro (And.intro (@Dd) (@VN)) (And.intro (@Ea) (And.intro (@xu) (@DB))))))) (And.intro (And.intro (And.intro (And.intro (And.intro (@Sf) (@S3)) (And.intro (@Pa) (And.intro (@nq) (@dt)))) (And.intro (And.intro (@nG) (@Uo)) (And.intro (@GS) (And.intro (@B4) (@CC))))) (And.intro (And.intro (And.intro (@C8) (@u5)) (And.intro (@US) (And.intro (@SN) (@TD)))) (And.intro (And.intro (@S6) (@S2)) (And.intro (@U7) (And.intro (@Tg) (@Ve)))))) (And.intro (And.intro (And.intro (And.intro (@UB) (@U6)) (And.intro (@RB) (And.intro (@Uu) (@RD)))) (And.intro (And.intro (@Vu) (@Vz)) (And.intro (@UW) (And.intro (@OL) (@Mi))))) (And.intro (And.intro (And.intro (@PC) (@VY)) (And.intro (@aav) (And.intro (@Xu) (@V3)))) (And.intro (And.intro (@Yu) (@Xv)) (And.intro (@Ze) (And.intro (@Wr) (@Xz))))))))))
theorem xF:type_of% xF0.down:=xF0.down
end Go.Ab
