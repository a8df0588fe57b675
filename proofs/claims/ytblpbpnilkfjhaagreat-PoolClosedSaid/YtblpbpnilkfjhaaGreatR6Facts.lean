import Derived.Test.YtblpbpnilkfjhaaGreatAbLibC
import Derived.Test.YtblpbpnilkfjhaaGreatAbLibB
import Derived.Test.YtblpbpnilkfjhaaGreatR6Seat
set_option linter.unusedVariables false
set_option linter.unusedSimpArgs false
set_option maxRecDepth 100000
set_option linter.unusedVariables false
namespace Go.Ab
open Go.Proofs
theorem aec (kk:Nat) (c:V) (cs:List V):aR (xS kk).P 1 (c::cs)=some c:=by kernel_rfl
theorem ady (kk:Nat):aP (xS kk).P 1=1:=by kernel_rfl
theorem adU (kk:Nat) (c:V) (cs:List V):aR (xS kk).P 3 (c::cs)=some c:=by kernel_rfl
theorem adF (kk:Nat):aP (xS kk).P 3=1:=by kernel_rfl
theorem adZ (kk:Nat) (c:V) (cs:List V):aR (xS kk).P 4 (c::cs)=some c:=by kernel_rfl
theorem aed (kk:Nat):aP (xS kk).P 4=1:=by kernel_rfl
theorem abe (kk:Nat) (c0 c1 c2 c3:V) (cs:List V):aR (xS kk).P 23 (c0::c1::c2::c3::cs)=some (.agg [c0,c1,c2,c3]):=by kernel_rfl
theorem aaC (kk:Nat):aP (xS kk).P 23=4:=by kernel_rfl
theorem ZN (kk:Nat) (c:V) (cs:List V):aR (xS kk).P 24 (c::cs)=some c:=by kernel_rfl
theorem aaK (kk:Nat):aP (xS kk).P 24=1:=by kernel_rfl
theorem ZJ (kk:Nat) (c:V) (cs:List V):aR (xS kk).P 26 (c::cs)=some c:=by kernel_rfl
theorem abl (kk:Nat):aP (xS kk).P 26=1:=by kernel_rfl
theorem aaY (kk:Nat) (c:V) (cs:List V):aR (xS kk).P 27 (c::cs)=some c:=by kernel_rfl
theorem abx (kk:Nat):aP (xS kk).P 27=1:=by kernel_rfl
theorem aaW (kk:Nat) (c:V) (cs:List V):aR (xS kk).P 28 (c::cs)=some c:=by kernel_rfl
theorem aa0 (kk:Nat):aP (xS kk).P 28=1:=by kernel_rfl
theorem abz (kk:Nat) (c0 c1 c2 c3 c4 c5 c6 c7:V) (cs:List V):aR (xS kk).P 30 (c0::c1::c2::c3::c4::c5::c6::c7::cs)=some (.agg [c0,c1,c2,c3,c4,c5,c6,c7]):=by kernel_rfl
theorem ZA (kk:Nat):aP (xS kk).P 30=8:=by kernel_rfl
theorem aco (kk:Nat) (c:V) (cs:List V):aR (xS kk).P 32 (c::cs)=some c:=by kernel_rfl
theorem ab2 (kk:Nat):aP (xS kk).P 32=1:=by kernel_rfl
theorem ZZ (kk:Nat) (c:V) (cs:List V):aR (xS kk).P 34 (c::cs)=some c:=by kernel_rfl
theorem aat (kk:Nat):aP (xS kk).P 34=1:=by kernel_rfl
theorem abB (kk:Nat) (c:V) (cs:List V):aR (xS kk).P 46 (c::cs)=some c:=by kernel_rfl
theorem ab4 (kk:Nat):aP (xS kk).P 46=1:=by kernel_rfl
theorem acE (kk:Nat) (c0 c1 c2:V) (cs:List V):aR (xS kk).P 48 (c0::c1::c2::cs)=some (.agg [c0,c1,c2]):=by kernel_rfl
theorem abX (kk:Nat):aP (xS kk).P 48=3:=by kernel_rfl
theorem abN (kk:Nat) (c0 c1 c2:V) (cs:List V):aR (xS kk).P 52 (c0::c1::c2::cs)=some (.agg [c0,c1,c2]):=by kernel_rfl
theorem abT (kk:Nat):aP (xS kk).P 52=3:=by kernel_rfl
theorem Z7 (kk:Nat) (c:V) (cs:List V):aR (xS kk).P 53 (c::cs)=some c:=by kernel_rfl
theorem aaN (kk:Nat):aP (xS kk).P 53=1:=by kernel_rfl
theorem acF (kk:Nat) (c0 c1 c2 c3 c4 c5 c6:V) (cs:List V):aR (xS kk).P 55 (c0::c1::c2::c3::c4::c5::c6::cs)=some (.agg [c0,c1,c2,c3,c4,c5,c6]):=by kernel_rfl
theorem aau (kk:Nat):aP (xS kk).P 55=7:=by kernel_rfl
theorem acG (kk:Nat) (c0 c1 c2 c3 c4 c5 c6 c7 c8:V) (cs:List V):aR (xS kk).P 57 (c0::c1::c2::c3::c4::c5::c6::c7::c8::cs)=some (.agg [c0,c1,c2,c3,c4,c5,c6,c7,c8]):=by kernel_rfl
theorem aa3 (kk:Nat):aP (xS kk).P 57=9:=by kernel_rfl
theorem aa7 (kk:Nat) (c:V) (cs:List V):aR (xS kk).P 63 (c::cs)=some c:=by kernel_rfl
theorem acT (kk:Nat):aP (xS kk).P 63=1:=by kernel_rfl
theorem acy (kk:Nat) (c0 c1 c2 c3 c4 c5 c6 c7 c8 c9 c10:V) (cs:List V):aR (xS kk).P 65 (c0::c1::c2::c3::c4::c5::c6::c7::c8::c9::c10::cs)=some (.agg [c0,c1,c2,c3,c4,c5,c6,c7,c8,c9,c10]):=by kernel_rfl
theorem aaS (kk:Nat):aP (xS kk).P 65=11:=by kernel_rfl
theorem acd (kk:Nat) (c:V) (cs:List V):aR (xS kk).P 86 (c::cs)=some c:=by kernel_rfl
theorem aaz (kk:Nat):aP (xS kk).P 86=1:=by kernel_rfl
theorem UZ (kk:Nat) (c0 c1:V) (cs:List V):aR (xS kk).P 101 (c0::c1::cs)=some (.agg [c0,c1]):=by kernel_rfl
theorem WO (kk:Nat):aP (xS kk).P 101=2:=by kernel_rfl
theorem Vp (kk:Nat) (c:V) (cs:List V):aR (xS kk).P 116 (c::cs)=some c:=by kernel_rfl
theorem VO (kk:Nat):aP (xS kk).P 116=1:=by kernel_rfl
theorem Wi (kk:Nat) (c0 c1 c2:V) (cs:List V):aR (xS kk).P 129 (c0::c1::c2::cs)=some (.agg [c0,c1,c2]):=by kernel_rfl
theorem Vi (kk:Nat):aP (xS kk).P 129=3:=by kernel_rfl
theorem WN (kk:Nat) (c:V) (cs:List V):aR (xS kk).P 150 (c::cs)=some c:=by kernel_rfl
theorem Wu (kk:Nat):aP (xS kk).P 150=1:=by kernel_rfl
theorem UK (kk:Nat) (c0 c1 c2 c3 c4 c5 c6 c7 c8 c9 c10 c11 c12 c13 c14 c15:V) (cs:List V):aR (xS kk).P 169 (c0::c1::c2::c3::c4::c5::c6::c7::c8::c9::c10::c11::c12::c13::c14::c15::cs)=some (.agg [c0,c1,c2,c3,c4,c5,c6,c7,c8,c9,c10,c11,c12,c13,c14,c15]):=by kernel_rfl
theorem X4 (kk:Nat):aP (xS kk).P 169=16:=by kernel_rfl
theorem Ww (kk:Nat) (c:V) (cs:List V):aR (xS kk).P 170 (c::cs)=some c:=by kernel_rfl
theorem UT (kk:Nat):aP (xS kk).P 170=1:=by kernel_rfl
theorem W8 (kk:Nat) (c0 c1 c2 c3 c4 c5:V) (cs:List V):aR (xS kk).P 175 (c0::c1::c2::c3::c4::c5::cs)=some (.agg [c0,c1,c2,c3,c4,c5]):=by kernel_rfl
theorem XA (kk:Nat):aP (xS kk).P 175=6:=by kernel_rfl
theorem UL (kk:Nat) (c0 c1:V) (cs:List V):aR (xS kk).P 194 (c0::c1::cs)=some (.agg [c0,c1]):=by kernel_rfl
theorem XD (kk:Nat):aP (xS kk).P 194=2:=by kernel_rfl
theorem YK (kk:Nat) (c:V) (cs:List V):aR (xS kk).P 206 (c::cs)=some c:=by kernel_rfl
theorem Xj (kk:Nat):aP (xS kk).P 206=1:=by kernel_rfl
theorem Wa (kk:Nat) (c:V) (cs:List V):aR (xS kk).P 223 (c::cs)=some c:=by kernel_rfl
theorem X5 (kk:Nat):aP (xS kk).P 223=1:=by kernel_rfl
theorem WX (kk:Nat) (c0 c1 c2 c3:V) (cs:List V):aR (xS kk).P 236 (c0::c1::c2::c3::cs)=some (.agg [c0,c1,c2,c3]):=by kernel_rfl
theorem VX (kk:Nat):aP (xS kk).P 236=4:=by kernel_rfl
theorem adV (kk:Nat) (H:Hp):ar (xS kk).P 1 H=some (.ptr (bu [(V.lit Value.nilFunc)] H).2.length 0 0 0,(bu [(V.lit Value.nilFunc)] H).2++[.box (bu [(V.lit Value.nilFunc)] H).1]):=by kernel_rfl
theorem ad7 (kk:Nat) (H:Hp):ar (xS kk).P 3 H=some (.ptr (bu [(V.lit (Value.int .i64 (0)))] H).2.length 0 0 0,(bu [(V.lit (Value.int .i64 (0)))] H).2++[.box (bu [(V.lit (Value.int .i64 (0)))] H).1]):=by kernel_rfl
theorem adG (kk:Nat) (H:Hp):ar (xS kk).P 4 H=some (.ptr (bu [(V.lit (Value.bool false))] H).2.length 0 0 0,(bu [(V.lit (Value.bool false))] H).2++[.box (bu [(V.lit (Value.bool false))] H).1]):=by kernel_rfl
theorem abi (kk:Nat) (H:Hp):ar (xS kk).P 26 H=some (.ptr (bu [V.nil] H).2.length 0 0 0,(bu [V.nil] H).2++[.box (bu [V.nil] H).1]):=by kernel_rfl
theorem acr (kk:Nat) (H:Hp):ar (xS kk).P 30 H=some (.ptr (bu [(V.lit (Value.int .i64 (0))),(V.lit (Value.int .i64 (0))),(V.lit (Value.int .i64 (0))),(V.lit (Value.int .i64 (0))),V.nil,V.nil,V.nil,V.nil] H).2.length 0 0 0,(bu [(V.lit (Value.int .i64 (0))),(V.lit (Value.int .i64 (0))),(V.lit (Value.int .i64 (0))),(V.lit (Value.int .i64 (0))),V.nil,V.nil,V.nil,V.nil] H).2++[.box (bu [(V.lit (Value.int .i64 (0))),(V.lit (Value.int .i64 (0))),(V.lit (Value.int .i64 (0))),(V.lit (Value.int .i64 (0))),V.nil,V.nil,V.nil,V.nil] H).1]):=by kernel_rfl
theorem Zp (kk:Nat) (H:Hp):ar (xS kk).P 32 H=some (.ptr (bu [(V.lit Value.nilFunc)] H).2.length 0 0 0,(bu [(V.lit Value.nilFunc)] H).2++[.box (bu [(V.lit Value.nilFunc)] H).1]):=by kernel_rfl
theorem ZS (kk:Nat) (H:Hp):ar (xS kk).P 34 H=some (.ptr (bu [V.nil] H).2.length 0 0 0,(bu [V.nil] H).2++[.box (bu [V.nil] H).1]):=by kernel_rfl
theorem abJ (kk:Nat) (H:Hp):ar (xS kk).P 48 H=some (.ptr (bu [(V.lit (Value.int .i64 (0))),(V.lit (Value.int .i64 (0))),(V.lit (Value.int .u64 (0)))] H).2.length 0 0 0,(bu [(V.lit (Value.int .i64 (0))),(V.lit (Value.int .i64 (0))),(V.lit (Value.int .u64 (0)))] H).2++[.box (bu [(V.lit (Value.int .i64 (0))),(V.lit (Value.int .i64 (0))),(V.lit (Value.int .u64 (0)))] H).1]):=by kernel_rfl
theorem aaA (kk:Nat) (H:Hp):ar (xS kk).P 55 H=some (.ptr (bu [(V.lit (Value.int .i64 (0))),(V.lit (Value.int .i64 (0))),(V.lit (Value.int .i64 (0))),(V.lit (Value.int .u64 (0))),(V.lit (Value.int .u64 (0))),(V.lit (Value.int .u64 (0))),(V.lit (Value.int .i64 (0)))] H).2.length 0 0 0,(bu [(V.lit (Value.int .i64 (0))),(V.lit (Value.int .i64 (0))),(V.lit (Value.int .i64 (0))),(V.lit (Value.int .u64 (0))),(V.lit (Value.int .u64 (0))),(V.lit (Value.int .u64 (0))),(V.lit (Value.int .i64 (0)))] H).2++[.box (bu [(V.lit (Value.int .i64 (0))),(V.lit (Value.int .i64 (0))),(V.lit (Value.int .i64 (0))),(V.lit (Value.int .u64 (0))),(V.lit (Value.int .u64 (0))),(V.lit (Value.int .u64 (0))),(V.lit (Value.int .i64 (0)))] H).1]):=by kernel_rfl
theorem aak (kk:Nat) (H:Hp):ar (xS kk).P 57 H=some (.ptr (bu [(V.lit (Value.int .i64 (0))),V.nil,(V.lit (Value.int .i64 (0))),(V.lit (Value.int .i64 (0))),(V.lit (Value.int .i64 (0))),(V.lit (Value.int .u64 (0))),(V.lit (Value.int .u64 (0))),(V.lit (Value.int .u64 (0))),(V.lit (Value.int .i64 (0)))] H).2.length 0 0 0,(bu [(V.lit (Value.int .i64 (0))),V.nil,(V.lit (Value.int .i64 (0))),(V.lit (Value.int .i64 (0))),(V.lit (Value.int .i64 (0))),(V.lit (Value.int .u64 (0))),(V.lit (Value.int .u64 (0))),(V.lit (Value.int .u64 (0))),(V.lit (Value.int .i64 (0)))] H).2++[.box (bu [(V.lit (Value.int .i64 (0))),V.nil,(V.lit (Value.int .i64 (0))),(V.lit (Value.int .i64 (0))),(V.lit (Value.int .i64 (0))),(V.lit (Value.int .u64 (0))),(V.lit (Value.int .u64 (0))),(V.lit (Value.int .u64 (0))),(V.lit (Value.int .i64 (0)))] H).1]):=by kernel_rfl
theorem aa8 (kk:Nat) (H:Hp):ar (xS kk).P 65 H=some (.ptr (bu [(V.lit (Value.int .i64 (0))),V.nil,(V.lit (Value.int .i64 (0))),(V.lit (Value.int .i64 (0))),(V.lit (Value.int .i64 (0))),(V.lit (Value.int .u64 (0))),(V.lit (Value.int .u64 (0))),(V.lit (Value.int .u64 (0))),(V.lit (Value.int .i64 (0))),(V.lit (Value.int .i64 (0))),(V.lit (Value.int .i64 (0)))] H).2.length 0 0 0,(bu [(V.lit (Value.int .i64 (0))),V.nil,(V.lit (Value.int .i64 (0))),(V.lit (Value.int .i64 (0))),(V.lit (Value.int .i64 (0))),(V.lit (Value.int .u64 (0))),(V.lit (Value.int .u64 (0))),(V.lit (Value.int .u64 (0))),(V.lit (Value.int .i64 (0))),(V.lit (Value.int .i64 (0))),(V.lit (Value.int .i64 (0)))] H).2++[.box (bu [(V.lit (Value.int .i64 (0))),V.nil,(V.lit (Value.int .i64 (0))),(V.lit (Value.int .i64 (0))),(V.lit (Value.int .i64 (0))),(V.lit (Value.int .u64 (0))),(V.lit (Value.int .u64 (0))),(V.lit (Value.int .u64 (0))),(V.lit (Value.int .i64 (0))),(V.lit (Value.int .i64 (0))),(V.lit (Value.int .i64 (0)))] H).1]):=by kernel_rfl
theorem YB (kk:Nat) (H:Hp):ar (xS kk).P 101 H=some (.ptr (bu [(V.lit (Value.int .i64 (0))),V.nil] H).2.length 0 0 0,(bu [(V.lit (Value.int .i64 (0))),V.nil] H).2++[.box (bu [(V.lit (Value.int .i64 (0))),V.nil] H).1]):=by kernel_rfl
theorem T8 (kk:Nat) (H:Hp):ar (xS kk).P 129 H=some (.ptr (bu [(V.lit (Value.int .i64 (0))),(V.lit (Value.int .i64 (0))),(V.lit (Value.int .i64 (0)))] H).2.length 0 0 0,(bu [(V.lit (Value.int .i64 (0))),(V.lit (Value.int .i64 (0))),(V.lit (Value.int .i64 (0)))] H).2++[.box (bu [(V.lit (Value.int .i64 (0))),(V.lit (Value.int .i64 (0))),(V.lit (Value.int .i64 (0)))] H).1]):=by kernel_rfl
theorem Vy (kk:Nat) (H:Hp):ar (xS kk).P 150 H=some (.ptr (bu [V.nil] H).2.length 0 0 0,(bu [V.nil] H).2++[.box (bu [V.nil] H).1]):=by kernel_rfl
theorem YJ (kk:Nat) (H:Hp):ar (xS kk).P 169 H=some (.ptr (bu [(V.lit Value.nilFunc),(V.lit Value.nilFunc),(V.lit Value.nilFunc),(V.lit Value.nilFunc),(V.lit Value.nilFunc),(V.lit Value.nilFunc),(V.lit Value.nilFunc),(V.lit Value.nilFunc),(V.lit Value.nilFunc),(V.lit Value.nilFunc),(V.lit Value.nilFunc),(V.lit Value.nilFunc),(V.lit Value.nilFunc),(V.lit Value.nilFunc),(V.lit Value.nilFunc),(V.lit Value.nilFunc)] H).2.length 0 0 0,(bu [(V.lit Value.nilFunc),(V.lit Value.nilFunc),(V.lit Value.nilFunc),(V.lit Value.nilFunc),(V.lit Value.nilFunc),(V.lit Value.nilFunc),(V.lit Value.nilFunc),(V.lit Value.nilFunc),(V.lit Value.nilFunc),(V.lit Value.nilFunc),(V.lit Value.nilFunc),(V.lit Value.nilFunc),(V.lit Value.nilFunc),(V.lit Value.nilFunc),(V.lit Value.nilFunc),(V.lit Value.nilFunc)] H).2++[.box (bu [(V.lit Value.nilFunc),(V.lit Value.nilFunc),(V.lit Value.nilFunc),(V.lit Value.nilFunc),(V.lit Value.nilFunc),(V.lit Value.nilFunc),(V.lit Value.nilFunc),(V.lit Value.nilFunc),(V.lit Value.nilFunc),(V.lit Value.nilFunc),(V.lit Value.nilFunc),(V.lit Value.nilFunc),(V.lit Value.nilFunc),(V.lit Value.nilFunc),(V.lit Value.nilFunc),(V.lit Value.nilFunc)] H).1]):=by kernel_rfl
theorem T9 (kk:Nat) (H:Hp):ar (xS kk).P 170 H=some (.ptr (bu [(V.lit Value.nilFunc)] H).2.length 0 0 0,(bu [(V.lit Value.nilFunc)] H).2++[.box (bu [(V.lit Value.nilFunc)] H).1]):=by kernel_rfl
theorem Xn (kk:Nat) (H:Hp):ar (xS kk).P 175 H=some (.ptr (bu [(V.lit Value.nilFunc),(V.lit Value.nilFunc),(V.lit Value.nilFunc),(V.lit Value.nilFunc),(V.lit Value.nilFunc),(V.lit Value.nilFunc)] H).2.length 0 0 0,(bu [(V.lit Value.nilFunc),(V.lit Value.nilFunc),(V.lit Value.nilFunc),(V.lit Value.nilFunc),(V.lit Value.nilFunc),(V.lit Value.nilFunc)] H).2++[.box (bu [(V.lit Value.nilFunc),(V.lit Value.nilFunc),(V.lit Value.nilFunc),(V.lit Value.nilFunc),(V.lit Value.nilFunc),(V.lit Value.nilFunc)] H).1]):=by kernel_rfl
theorem YN (kk:Nat) (H:Hp):ar (xS kk).P 194 H=some (.ptr (bu [(V.lit (Value.int .i64 (0))),(V.lit (Value.int .i64 (0)))] H).2.length 0 0 0,(bu [(V.lit (Value.int .i64 (0))),(V.lit (Value.int .i64 (0)))] H).2++[.box (bu [(V.lit (Value.int .i64 (0))),(V.lit (Value.int .i64 (0)))] H).1]):=by kernel_rfl
theorem VY (kk:Nat) (H:Hp):ar (xS kk).P 223 H=some (.ptr (bu [V.nil] H).2.length 0 0 0,(bu [V.nil] H).2++[.box (bu [V.nil] H).1]):=by kernel_rfl
theorem YP (kk:Nat) (H:Hp):ar (xS kk).P 236 H=some (.ptr (bu [(V.lit Value.nilFunc),(V.lit Value.nilFunc),(V.lit Value.nilFunc),(V.lit Value.nilFunc)] H).2.length 0 0 0,(bu [(V.lit Value.nilFunc),(V.lit Value.nilFunc),(V.lit Value.nilFunc),(V.lit Value.nilFunc)] H).2++[.box (bu [(V.lit Value.nilFunc),(V.lit Value.nilFunc),(V.lit Value.nilFunc),(V.lit Value.nilFunc)] H).1]):=by kernel_rfl
theorem Rd (kk:Nat) (cs:List V):aa (xS kk).P 23 (.rp cs) 0=some (.rp (cs.drop 0)):=by kernel_rfl
theorem Rk (kk:Nat) (id g row off:Nat):aa (xS kk).P 23 (.ptr id g row off) 0=some (.ptr id g row (off+0)):=by kernel_rfl
theorem Tt (kk:Nat) (cs:List V):aa (xS kk).P 23 (.rp cs) 1=some (.rp (cs.drop 1)):=by kernel_rfl
theorem QD (kk:Nat) (id g row off:Nat):aa (xS kk).P 23 (.ptr id g row off) 1=some (.ptr id g row (off+1)):=by kernel_rfl
theorem P1 (kk:Nat) (cs:List V):aa (xS kk).P 23 (.rp cs) 2=some (.rp (cs.drop 2)):=by kernel_rfl
theorem TE (kk:Nat) (id g row off:Nat):aa (xS kk).P 23 (.ptr id g row off) 2=some (.ptr id g row (off+2)):=by kernel_rfl
theorem RV (kk:Nat) (cs:List V):aa (xS kk).P 23 (.rp cs) 3=some (.rp (cs.drop 3)):=by kernel_rfl
theorem Q7 (kk:Nat) (id g row off:Nat):aa (xS kk).P 23 (.ptr id g row off) 3=some (.ptr id g row (off+3)):=by kernel_rfl
theorem Rm (kk:Nat) (cs:List V):aa (xS kk).P 30 (.rp cs) 0=some (.rp (cs.drop 0)):=by kernel_rfl
theorem PJ (kk:Nat) (id g row off:Nat):aa (xS kk).P 30 (.ptr id g row off) 0=some (.ptr id g row (off+0)):=by kernel_rfl
theorem QH (kk:Nat) (cs:List V):aa (xS kk).P 30 (.rp cs) 1=some (.rp (cs.drop 4)):=by kernel_rfl
theorem Q3 (kk:Nat) (id g row off:Nat):aa (xS kk).P 30 (.ptr id g row off) 1=some (.ptr id g row (off+4)):=by kernel_rfl
theorem TC (kk:Nat) (cs:List V):aa (xS kk).P 30 (.rp cs) 2=some (.rp (cs.drop 5)):=by kernel_rfl
theorem Qi (kk:Nat) (id g row off:Nat):aa (xS kk).P 30 (.ptr id g row off) 2=some (.ptr id g row (off+5)):=by kernel_rfl
theorem RT (kk:Nat) (cs:List V):aa (xS kk).P 30 (.rp cs) 3=some (.rp (cs.drop 6)):=by kernel_rfl
theorem Q1 (kk:Nat) (id g row off:Nat):aa (xS kk).P 30 (.ptr id g row off) 3=some (.ptr id g row (off+6)):=by kernel_rfl
theorem Qm (kk:Nat) (cs:List V):aa (xS kk).P 30 (.rp cs) 4=some (.rp (cs.drop 7)):=by kernel_rfl
theorem Sz (kk:Nat) (id g row off:Nat):aa (xS kk).P 30 (.ptr id g row off) 4=some (.ptr id g row (off+7)):=by kernel_rfl
theorem Qs (kk:Nat) (cs:List V):aa (xS kk).P 48 (.rp cs) 0=some (.rp (cs.drop 0)):=by kernel_rfl
theorem TO (kk:Nat) (id g row off:Nat):aa (xS kk).P 48 (.ptr id g row off) 0=some (.ptr id g row (off+0)):=by kernel_rfl
theorem Qo (kk:Nat) (cs:List V):aa (xS kk).P 48 (.rp cs) 1=some (.rp (cs.drop 1)):=by kernel_rfl
theorem Sh (kk:Nat) (id g row off:Nat):aa (xS kk).P 48 (.ptr id g row off) 1=some (.ptr id g row (off+1)):=by kernel_rfl
theorem Ti (kk:Nat) (cs:List V):aa (xS kk).P 48 (.rp cs) 2=some (.rp (cs.drop 2)):=by kernel_rfl
theorem Sf (kk:Nat) (id g row off:Nat):aa (xS kk).P 48 (.ptr id g row off) 2=some (.ptr id g row (off+2)):=by kernel_rfl
theorem Sq (kk:Nat) (cs:List V):aa (xS kk).P 52 (.rp cs) 0=some (.rp (cs.drop 0)):=by kernel_rfl
theorem Qw (kk:Nat) (id g row off:Nat):aa (xS kk).P 52 (.ptr id g row off) 0=some (.ptr id g row (off+0)):=by kernel_rfl
theorem PU (kk:Nat) (cs:List V):aa (xS kk).P 55 (.rp cs) 0=some (.rp (cs.drop 0)):=by kernel_rfl
theorem SC (kk:Nat) (id g row off:Nat):aa (xS kk).P 55 (.ptr id g row off) 0=some (.ptr id g row (off+0)):=by kernel_rfl
theorem P6 (kk:Nat) (cs:List V):aa (xS kk).P 55 (.rp cs) 1=some (.rp (cs.drop 1)):=by kernel_rfl
theorem Rc (kk:Nat) (id g row off:Nat):aa (xS kk).P 55 (.ptr id g row off) 1=some (.ptr id g row (off+1)):=by kernel_rfl
theorem Re (kk:Nat) (cs:List V):aa (xS kk).P 55 (.rp cs) 2=some (.rp (cs.drop 2)):=by kernel_rfl
theorem Qr (kk:Nat) (id g row off:Nat):aa (xS kk).P 55 (.ptr id g row off) 2=some (.ptr id g row (off+2)):=by kernel_rfl
theorem SL (kk:Nat) (cs:List V):aa (xS kk).P 55 (.rp cs) 3=some (.rp (cs.drop 3)):=by kernel_rfl
theorem SN (kk:Nat) (id g row off:Nat):aa (xS kk).P 55 (.ptr id g row off) 3=some (.ptr id g row (off+3)):=by kernel_rfl
theorem TT (kk:Nat) (cs:List V):aa (xS kk).P 55 (.rp cs) 4=some (.rp (cs.drop 4)):=by kernel_rfl
theorem Ql (kk:Nat) (id g row off:Nat):aa (xS kk).P 55 (.ptr id g row off) 4=some (.ptr id g row (off+4)):=by kernel_rfl
theorem Sj (kk:Nat) (cs:List V):aa (xS kk).P 55 (.rp cs) 5=some (.rp (cs.drop 5)):=by kernel_rfl
theorem QX (kk:Nat) (id g row off:Nat):aa (xS kk).P 55 (.ptr id g row off) 5=some (.ptr id g row (off+5)):=by kernel_rfl
theorem Ts (kk:Nat) (cs:List V):aa (xS kk).P 55 (.rp cs) 6=some (.rp (cs.drop 6)):=by kernel_rfl
theorem SH (kk:Nat) (id g row off:Nat):aa (xS kk).P 55 (.ptr id g row off) 6=some (.ptr id g row (off+6)):=by kernel_rfl
theorem S6 (kk:Nat) (cs:List V):aa (xS kk).P 57 (.rp cs) 0=some (.rp (cs.drop 0)):=by kernel_rfl
theorem Tz (kk:Nat) (id g row off:Nat):aa (xS kk).P 57 (.ptr id g row off) 0=some (.ptr id g row (off+0)):=by kernel_rfl
theorem Qe (kk:Nat) (cs:List V):aa (xS kk).P 57 (.rp cs) 1=some (.rp (cs.drop 1)):=by kernel_rfl
theorem Tm (kk:Nat) (id g row off:Nat):aa (xS kk).P 57 (.ptr id g row off) 1=some (.ptr id g row (off+1)):=by kernel_rfl
theorem SJ (kk:Nat) (cs:List V):aa (xS kk).P 57 (.rp cs) 2=some (.rp (cs.drop 2)):=by kernel_rfl
theorem RM (kk:Nat) (id g row off:Nat):aa (xS kk).P 57 (.ptr id g row off) 2=some (.ptr id g row (off+2)):=by kernel_rfl
theorem QA (kk:Nat) (cs:List V):aa (xS kk).P 65 (.rp cs) 0=some (.rp (cs.drop 0)):=by kernel_rfl
theorem Qg (kk:Nat) (id g row off:Nat):aa (xS kk).P 65 (.ptr id g row off) 0=some (.ptr id g row (off+0)):=by kernel_rfl
theorem TX (kk:Nat) (cs:List V):aa (xS kk).P 65 (.rp cs) 1=some (.rp (cs.drop 1)):=by kernel_rfl
theorem QN (kk:Nat) (id g row off:Nat):aa (xS kk).P 65 (.ptr id g row off) 1=some (.ptr id g row (off+1)):=by kernel_rfl
theorem Qy (kk:Nat) (cs:List V):aa (xS kk).P 65 (.rp cs) 2=some (.rp (cs.drop 2)):=by kernel_rfl
theorem Tq (kk:Nat) (id g row off:Nat):aa (xS kk).P 65 (.ptr id g row off) 2=some (.ptr id g row (off+2)):=by kernel_rfl
theorem RQ (kk:Nat) (cs:List V):aa (xS kk).P 65 (.rp cs) 3=some (.rp (cs.drop 9)):=by kernel_rfl
theorem TF (kk:Nat) (id g row off:Nat):aa (xS kk).P 65 (.ptr id g row off) 3=some (.ptr id g row (off+9)):=by kernel_rfl
theorem PS (kk:Nat) (cs:List V):aa (xS kk).P 65 (.rp cs) 4=some (.rp (cs.drop 10)):=by kernel_rfl
theorem TU (kk:Nat) (id g row off:Nat):aa (xS kk).P 65 (.ptr id g row off) 4=some (.ptr id g row (off+10)):=by kernel_rfl
theorem Nm (kk:Nat) (cs:List V):aa (xS kk).P 101 (.rp cs) 0=some (.rp (cs.drop 0)):=by kernel_rfl
theorem Mg (kk:Nat) (id g row off:Nat):aa (xS kk).P 101 (.ptr id g row off) 0=some (.ptr id g row (off+0)):=by kernel_rfl
theorem Kw (kk:Nat) (cs:List V):aa (xS kk).P 101 (.rp cs) 1=some (.rp (cs.drop 1)):=by kernel_rfl
theorem Kf (kk:Nat) (id g row off:Nat):aa (xS kk).P 101 (.ptr id g row off) 1=some (.ptr id g row (off+1)):=by kernel_rfl
theorem Kl (kk:Nat) (cs:List V):aa (xS kk).P 129 (.rp cs) 0=some (.rp (cs.drop 0)):=by kernel_rfl
theorem LW (kk:Nat) (id g row off:Nat):aa (xS kk).P 129 (.ptr id g row off) 0=some (.ptr id g row (off+0)):=by kernel_rfl
theorem Nx (kk:Nat) (cs:List V):aa (xS kk).P 129 (.rp cs) 1=some (.rp (cs.drop 1)):=by kernel_rfl
theorem NN (kk:Nat) (id g row off:Nat):aa (xS kk).P 129 (.ptr id g row off) 1=some (.ptr id g row (off+1)):=by kernel_rfl
theorem L5 (kk:Nat) (cs:List V):aa (xS kk).P 129 (.rp cs) 2=some (.rp (cs.drop 2)):=by kernel_rfl
theorem Kg (kk:Nat) (id g row off:Nat):aa (xS kk).P 129 (.ptr id g row off) 2=some (.ptr id g row (off+2)):=by kernel_rfl
theorem L9 (kk:Nat) (cs:List V):aa (xS kk).P 168 (.rp cs) 0=some (.rp (cs.drop 0)):=by kernel_rfl
theorem Lc (kk:Nat) (id g row off:Nat):aa (xS kk).P 168 (.ptr id g row off) 0=some (.ptr id g row (off+0)):=by kernel_rfl
theorem NX (kk:Nat) (cs:List V):aa (xS kk).P 168 (.rp cs) 1=some (.rp (cs.drop 11)):=by kernel_rfl
theorem KJ (kk:Nat) (id g row off:Nat):aa (xS kk).P 168 (.ptr id g row off) 1=some (.ptr id g row (off+11)):=by kernel_rfl
theorem LR (kk:Nat) (cs:List V):aa (xS kk).P 168 (.rp cs) 2=some (.rp (cs.drop 15)):=by kernel_rfl
theorem Nh (kk:Nat) (id g row off:Nat):aa (xS kk).P 168 (.ptr id g row off) 2=some (.ptr id g row (off+15)):=by kernel_rfl
theorem Lj (kk:Nat) (cs:List V):aa (xS kk).P 168 (.rp cs) 3=some (.rp (cs.drop 16)):=by kernel_rfl
theorem Lw (kk:Nat) (id g row off:Nat):aa (xS kk).P 168 (.ptr id g row off) 3=some (.ptr id g row (off+16)):=by kernel_rfl
theorem Mr (kk:Nat) (cs:List V):aa (xS kk).P 168 (.rp cs) 4=some (.rp (cs.drop 17)):=by kernel_rfl
theorem KP (kk:Nat) (id g row off:Nat):aa (xS kk).P 168 (.ptr id g row off) 4=some (.ptr id g row (off+17)):=by kernel_rfl
theorem NK (kk:Nat) (cs:List V):aa (xS kk).P 168 (.rp cs) 5=some (.rp (cs.drop 18)):=by kernel_rfl
theorem Ks (kk:Nat) (id g row off:Nat):aa (xS kk).P 168 (.ptr id g row off) 5=some (.ptr id g row (off+18)):=by kernel_rfl
theorem Me (kk:Nat) (cs:List V):aa (xS kk).P 168 (.rp cs) 6=some (.rp (cs.drop 19)):=by kernel_rfl
theorem Nt (kk:Nat) (id g row off:Nat):aa (xS kk).P 168 (.ptr id g row off) 6=some (.ptr id g row (off+19)):=by kernel_rfl
theorem NY (kk:Nat) (cs:List V):aa (xS kk).P 194 (.rp cs) 0=some (.rp (cs.drop 0)):=by kernel_rfl
theorem NS (kk:Nat) (id g row off:Nat):aa (xS kk).P 194 (.ptr id g row off) 0=some (.ptr id g row (off+0)):=by kernel_rfl
theorem N3 (kk:Nat) (cs:List V):aa (xS kk).P 194 (.rp cs) 1=some (.rp (cs.drop 1)):=by kernel_rfl
theorem KC (kk:Nat) (id g row off:Nat):aa (xS kk).P 194 (.ptr id g row off) 1=some (.ptr id g row (off+1)):=by kernel_rfl
theorem Lk (kk:Nat) (cs:List V):aa (xS kk).P 205 (.rp cs) 0=some (.rp (cs.drop 0)):=by kernel_rfl
theorem ND (kk:Nat) (id g row off:Nat):aa (xS kk).P 205 (.ptr id g row off) 0=some (.ptr id g row (off+0)):=by kernel_rfl
theorem Mx (kk:Nat) (cs:List V):aa (xS kk).P 205 (.rp cs) 1=some (.rp (cs.drop 7)):=by kernel_rfl
theorem Mj (kk:Nat) (id g row off:Nat):aa (xS kk).P 205 (.ptr id g row off) 1=some (.ptr id g row (off+7)):=by kernel_rfl
theorem K2 (kk:Nat) (cs:List V):aa (xS kk).P 205 (.rp cs) 2=some (.rp (cs.drop 11)):=by kernel_rfl
theorem Nl (kk:Nat) (id g row off:Nat):aa (xS kk).P 205 (.ptr id g row off) 2=some (.ptr id g row (off+11)):=by kernel_rfl
theorem Na (kk:Nat) (cs:List V):aa (xS kk).P 221 (.rp cs) 0=some (.rp (cs.drop 0)):=by kernel_rfl
theorem Od (kk:Nat) (id g row off:Nat):aa (xS kk).P 221 (.ptr id g row off) 0=some (.ptr id g row (off+0)):=by kernel_rfl
theorem MH (kk:Nat) (cs:List V):aa (xS kk).P 221 (.rp cs) 1=some (.rp (cs.drop 7)):=by kernel_rfl
theorem Lo (kk:Nat) (id g row off:Nat):aa (xS kk).P 221 (.ptr id g row off) 1=some (.ptr id g row (off+7)):=by kernel_rfl
theorem Ng (kk:Nat) (cs:List V):aa (xS kk).P 221 (.rp cs) 2=some (.rp (cs.drop 11)):=by kernel_rfl
theorem KV (kk:Nat) (id g row off:Nat):aa (xS kk).P 221 (.ptr id g row off) 2=some (.ptr id g row (off+11)):=by kernel_rfl
theorem LE (kk:Nat) (cs:List V):aa (xS kk).P 235 (.rp cs) 0=some (.rp (cs.drop 0)):=by kernel_rfl
theorem MY (kk:Nat) (id g row off:Nat):aa (xS kk).P 235 (.ptr id g row off) 0=some (.ptr id g row (off+0)):=by kernel_rfl
theorem K1 (kk:Nat) (cs:List V):aa (xS kk).P 235 (.rp cs) 1=some (.rp (cs.drop 7)):=by kernel_rfl
theorem Ls (kk:Nat) (id g row off:Nat):aa (xS kk).P 235 (.ptr id g row off) 1=some (.ptr id g row (off+7)):=by kernel_rfl
theorem KK (kk:Nat) (cs:List V):aa (xS kk).P 235 (.rp cs) 2=some (.rp (cs.drop 11)):=by kernel_rfl
theorem LP (kk:Nat) (id g row off:Nat):aa (xS kk).P 235 (.ptr id g row off) 2=some (.ptr id g row (off+11)):=by kernel_rfl
theorem Nu (kk:Nat) (cs:List V):rN (xS kk).P 194 (.agg cs) 0=aR (xS kk).P 3 (cs.drop 0):=by kernel_rfl
theorem Z3 (kk:Nat) (l:List (Int×List Int)) (k:IntKind) (n:Int) (H:Hp):ak (xS kk).P 24 (.ro (l.map an)) (.lit (.int k n)) H=(idx l n).map fun x => .rp (an x):=bV (e:=101) (by kernel_rfl) (fun x=>(by kernel_rfl:(an x).length=aP (xS kk).P 101)) (by kernel_rfl)
theorem acB (kk:Nat) (id g len:Nat) (k:IntKind) (n:Int) (H:Hp):ak (xS kk).P 24 (.own id g len) (.lit (.int k n)) H=ixB 2 g len id n (H[id]?):=ba (P:=(xS kk).P) (e:=101) (by kernel_rfl) (by kernel_rfl)
theorem Zt (kk:Nat) (l:List Int) (k:IntKind) (n:Int) (H:Hp):ak (xS kk).P 26 (.ro (l.map (aG .u64))) (.lit (.int k n)) H=(idx l n).map fun x => .rp ((aG .u64) x):=bV (e:=46) (by kernel_rfl) (fun x=>(by kernel_rfl:((aG .u64) x).length=aP (xS kk).P 46)) (by kernel_rfl)
theorem abh (kk:Nat) (id g len:Nat) (k:IntKind) (n:Int) (H:Hp):ak (xS kk).P 26 (.own id g len) (.lit (.int k n)) H=ixB 1 g len id n (H[id]?):=ba (P:=(xS kk).P) (e:=46) (by kernel_rfl) (by kernel_rfl)
theorem aay (kk:Nat) (l:List (Int×List (Int×Int×Int)×(Int×Int×Int×Int×Int×Int×Int)×Int×Int)) (k:IntKind) (n:Int) (H:Hp):ak (xS kk).P 27 (.ro (l.map aH)) (.lit (.int k n)) H=(idx l n).map fun x => .rp (aH x):=bV (e:=65) (by kernel_rfl) (fun x=>(by kernel_rfl:(aH x).length=aP (xS kk).P 65)) (by kernel_rfl)
theorem aby (kk:Nat) (id g len:Nat) (k:IntKind) (n:Int) (H:Hp):ak (xS kk).P 27 (.own id g len) (.lit (.int k n)) H=ixB 11 g len id n (H[id]?):=ba (P:=(xS kk).P) (e:=65) (by kernel_rfl) (by kernel_rfl)
theorem acP (kk:Nat) (l:List (Int×List Int×Int×Int×Int×Int×Int×Int×Int)) (k:IntKind) (n:Int) (H:Hp):ak (xS kk).P 28 (.ro (l.map bL)) (.lit (.int k n)) H=(idx l n).map fun x => .rp (bL x):=bV (e:=57) (by kernel_rfl) (fun x=>(by kernel_rfl:(bL x).length=aP (xS kk).P 57)) (by kernel_rfl)
theorem aaH (kk:Nat) (id g len:Nat) (k:IntKind) (n:Int) (H:Hp):ak (xS kk).P 28 (.own id g len) (.lit (.int k n)) H=ixB 9 g len id n (H[id]?):=ba (P:=(xS kk).P) (e:=57) (by kernel_rfl) (by kernel_rfl)
theorem abS (kk:Nat) (l:List (Int×Int×Int)) (k:IntKind) (n:Int) (H:Hp):ak (xS kk).P 31 (.ro (l.map dg)) (.lit (.int k n)) H=(idx l n).map fun x => .rp (dg x):=bV (e:=48) (by kernel_rfl) (fun x=>(by kernel_rfl:(dg x).length=aP (xS kk).P 48)) (by kernel_rfl)
theorem Z6 (kk:Nat) (id g len:Nat) (k:IntKind) (n:Int) (H:Hp):ak (xS kk).P 31 (.own id g len) (.lit (.int k n)) H=ixB 3 g len id n (H[id]?):=ba (P:=(xS kk).P) (e:=48) (by kernel_rfl) (by kernel_rfl)
theorem abd (kk:Nat) (l:List (Int×Int×Int)) (k:IntKind) (n:Int) (H:Hp):ak (xS kk).P 34 (.ro (l.map aE)) (.lit (.int k n)) H=(idx l n).map fun x => .rp (aE x):=bV (e:=52) (by kernel_rfl) (fun x=>(by kernel_rfl:(aE x).length=aP (xS kk).P 52)) (by kernel_rfl)
theorem abk (kk:Nat) (id g len:Nat) (k:IntKind) (n:Int) (H:Hp):ak (xS kk).P 34 (.own id g len) (.lit (.int k n)) H=ixB 3 g len id n (H[id]?):=ba (P:=(xS kk).P) (e:=52) (by kernel_rfl) (by kernel_rfl)
theorem aan (kk:Nat) (l:List (List Int)) (k:IntKind) (n:Int) (H:Hp):ak (xS kk).P 40 (.ro (l.map cU)) (.lit (.int k n)) H=(idx l n).map fun x => .rp (cU x):=bV (e:=53) (by kernel_rfl) (fun x=>(by kernel_rfl:(cU x).length=aP (xS kk).P 53)) (by kernel_rfl)
theorem aaD (kk:Nat) (id g len:Nat) (k:IntKind) (n:Int) (H:Hp):ak (xS kk).P 40 (.own id g len) (.lit (.int k n)) H=ixB 1 g len id n (H[id]?):=ba (P:=(xS kk).P) (e:=53) (by kernel_rfl) (by kernel_rfl)
theorem acm (kk:Nat) (l:List Int) (k:IntKind) (n:Int) (H:Hp):ak (xS kk).P 53 (.ro (l.map (aG .i64))) (.lit (.int k n)) H=(idx l n).map fun x => .rp ((aG .i64) x):=bV (e:=3) (by kernel_rfl) (fun x=>(by kernel_rfl:((aG .i64) x).length=aP (xS kk).P 3)) (by kernel_rfl)
theorem Z8 (kk:Nat) (id g len:Nat) (k:IntKind) (n:Int) (H:Hp):ak (xS kk).P 53 (.own id g len) (.lit (.int k n)) H=ixB 1 g len id n (H[id]?):=ba (P:=(xS kk).P) (e:=3) (by kernel_rfl) (by kernel_rfl)
theorem aca (kk:Nat) (l:List (Int×Int×Int)) (k:IntKind) (n:Int) (H:Hp):ak (xS kk).P 63 (.ro (l.map aE)) (.lit (.int k n)) H=(idx l n).map fun x => .rp (aE x):=bV (e:=129) (by kernel_rfl) (fun x=>(by kernel_rfl:(aE x).length=aP (xS kk).P 129)) (by kernel_rfl)
theorem ZC (kk:Nat) (id g len:Nat) (k:IntKind) (n:Int) (H:Hp):ak (xS kk).P 63 (.own id g len) (.lit (.int k n)) H=ixB 3 g len id n (H[id]?):=ba (P:=(xS kk).P) (e:=129) (by kernel_rfl) (by kernel_rfl)
theorem Uj (kk:Nat) (l:List Bool) (k:IntKind) (n:Int) (H:Hp):ak (xS kk).P 150 (.ro (l.map k7)) (.lit (.int k n)) H=(idx l n).map fun x => .rp (k7 x):=bV (e:=4) (by kernel_rfl) (fun x=>(by kernel_rfl:(k7 x).length=aP (xS kk).P 4)) (by kernel_rfl)
theorem WI (kk:Nat) (id g len:Nat) (k:IntKind) (n:Int) (H:Hp):ak (xS kk).P 150 (.own id g len) (.lit (.int k n)) H=ixB 1 g len id n (H[id]?):=ba (P:=(xS kk).P) (e:=4) (by kernel_rfl) (by kernel_rfl)
theorem XE (kk:Nat) (id g len:Nat) (k:IntKind) (n:Int) (H:Hp):ak (xS kk).P 207 (.own id g len) (.lit (.int k n)) H=ixB 1 g len id n (H[id]?):=ba (P:=(xS kk).P) (e:=206) (by kernel_rfl) (by kernel_rfl)
theorem UD (kk:Nat) (id g len:Nat) (k:IntKind) (n:Int) (H:Hp):ak (xS kk).P 223 (.own id g len) (.lit (.int k n)) H=ixB 1 g len id n (H[id]?):=ba (P:=(xS kk).P) (e:=116) (by kernel_rfl) (by kernel_rfl)
theorem Ya (kk:Nat) (id g len:Nat) (k:IntKind) (n:Int) (H:Hp):ak (xS kk).P 238 (.own id g len) (.lit (.int k n)) H=ixB 1 g len id n (H[id]?):=ba (P:=(xS kk).P) (e:=1) (by kernel_rfl) (by kernel_rfl)
theorem X2 (kk:Nat) (x:V) (H:Hp):be (xS kk).P 24 x H=(o4 x H).map fun v=>(v,H):=by kernel_rfl
theorem Yj (kk:Nat) (x:V) (H:Hp):be (xS kk).P 25 x H=(o4 x H).map fun v=>(v,H):=by kernel_rfl
theorem Vf (kk:Nat) (x:V) (H:Hp):be (xS kk).P 26 x H=(o4 x H).map fun v=>(v,H):=by kernel_rfl
theorem WY (kk:Nat) (x:V) (H:Hp):be (xS kk).P 27 x H=(o4 x H).map fun v=>(v,H):=by kernel_rfl
theorem UU (kk:Nat) (x:V) (H:Hp):be (xS kk).P 28 x H=(o4 x H).map fun v=>(v,H):=by kernel_rfl
theorem Vq (kk:Nat) (x:V) (H:Hp):be (xS kk).P 31 x H=(o4 x H).map fun v=>(v,H):=by kernel_rfl
theorem UI (kk:Nat) (x:V) (H:Hp):be (xS kk).P 34 x H=(o4 x H).map fun v=>(v,H):=by kernel_rfl
theorem YM (kk:Nat) (x:V) (H:Hp):be (xS kk).P 40 x H=(o4 x H).map fun v=>(v,H):=by kernel_rfl
theorem Yu (kk:Nat) (x:V) (H:Hp):be (xS kk).P 53 x H=(o4 x H).map fun v=>(v,H):=by kernel_rfl
theorem V6 (kk:Nat) (x:V) (H:Hp):be (xS kk).P 63 x H=(o4 x H).map fun v=>(v,H):=by kernel_rfl
theorem PP (kk:Nat) (x:V) (H:Hp):be (xS kk).P 207 x H=(o4 x H).map fun v=>(v,H):=by kernel_rfl
theorem Rr (kk:Nat) (x:V) (H:Hp):be (xS kk).P 238 x H=(o4 x H).map fun v=>(v,H):=by kernel_rfl
theorem MX (kk:Nat) (wl:Nat) (s x:V) (H:Hp):ld (xS kk).P wl 24 24 s x H=bh (xS kk).P wl 24 s x H:=by kernel_rfl
theorem MU (kk:Nat) (wl id g len:Nat) (x:V) (H:Hp):bh (xS kk).P wl 24 (.own id g len) x H=(bO x H).bind fun xs=>bif bS 2 xs then apB wl 101 2 32 id g len xs H (H[id]?) else none:=(dS (P:=(xS kk).P) (t:=24) (e:=101) (by kernel_rfl) (by kernel_rfl)).trans (by kernel_rfl)
theorem Kp (kk:Nat) (wl:Nat) (x:V) (H:Hp):bh (xS kk).P wl 24 .nil x H=(bO x H).bind fun xs=>bif bS 2 xs then bif decide (xs.length*32≤70368744177664) then some (.own H.length 0 xs.length,H++[.rows 2 xs 0 true]) else none else none:=(dY (P:=(xS kk).P) (t:=24) (e:=101) (by kernel_rfl) (by kernel_rfl)).trans (by kernel_rfl)
theorem LM (kk:Nat) (wl:Nat) (s x:V) (H:Hp):ld (xS kk).P wl 25 25 s x H=bh (xS kk).P wl 25 s x H:=by kernel_rfl
theorem KQ (kk:Nat) (wl id g len:Nat) (x:V) (H:Hp):bh (xS kk).P wl 25 (.own id g len) x H=(bO x H).bind fun xs=>bif bS 1 xs then apB wl 46 1 8 id g len xs H (H[id]?) else none:=(dS (P:=(xS kk).P) (t:=25) (e:=46) (by kernel_rfl) (by kernel_rfl)).trans (by kernel_rfl)
theorem N7 (kk:Nat) (wl:Nat) (x:V) (H:Hp):bh (xS kk).P wl 25 .nil x H=(bO x H).bind fun xs=>bif bS 1 xs then bif decide (xs.length*8≤70368744177664) then some (.own H.length 0 xs.length,H++[.rows 1 xs 0 true]) else none else none:=(dY (P:=(xS kk).P) (t:=25) (e:=46) (by kernel_rfl) (by kernel_rfl)).trans (by kernel_rfl)
theorem MB (kk:Nat) (wl:Nat) (s x:V) (H:Hp):ld (xS kk).P wl 26 26 s x H=bh (xS kk).P wl 26 s x H:=by kernel_rfl
theorem MC (kk:Nat) (wl id g len:Nat) (x:V) (H:Hp):bh (xS kk).P wl 26 (.own id g len) x H=(bO x H).bind fun xs=>bif bS 1 xs then apB wl 46 1 8 id g len xs H (H[id]?) else none:=(dS (P:=(xS kk).P) (t:=26) (e:=46) (by kernel_rfl) (by kernel_rfl)).trans (by kernel_rfl)
theorem KS (kk:Nat) (wl:Nat) (x:V) (H:Hp):bh (xS kk).P wl 26 .nil x H=(bO x H).bind fun xs=>bif bS 1 xs then bif decide (xs.length*8≤70368744177664) then some (.own H.length 0 xs.length,H++[.rows 1 xs 0 true]) else none else none:=(dY (P:=(xS kk).P) (t:=26) (e:=46) (by kernel_rfl) (by kernel_rfl)).trans (by kernel_rfl)
theorem Kr (kk:Nat) (wl:Nat) (s x:V) (H:Hp):ld (xS kk).P wl 27 27 s x H=bh (xS kk).P wl 27 s x H:=by kernel_rfl
theorem NW (kk:Nat) (wl id g len:Nat) (x:V) (H:Hp):bh (xS kk).P wl 27 (.own id g len) x H=(bO x H).bind fun xs=>bif bS 11 xs then apB wl 65 11 104 id g len xs H (H[id]?) else none:=(dS (P:=(xS kk).P) (t:=27) (e:=65) (by kernel_rfl) (by kernel_rfl)).trans (by kernel_rfl)
theorem LV (kk:Nat) (wl:Nat) (x:V) (H:Hp):bh (xS kk).P wl 27 .nil x H=(bO x H).bind fun xs=>bif bS 11 xs then bif decide (xs.length*104≤70368744177664) then some (.own H.length 0 xs.length,H++[.rows 11 xs 0 true]) else none else none:=(dY (P:=(xS kk).P) (t:=27) (e:=65) (by kernel_rfl) (by kernel_rfl)).trans (by kernel_rfl)
theorem ML (kk:Nat) (wl:Nat) (s x:V) (H:Hp):ld (xS kk).P wl 28 28 s x H=bh (xS kk).P wl 28 s x H:=by kernel_rfl
theorem Mf (kk:Nat) (wl id g len:Nat) (x:V) (H:Hp):bh (xS kk).P wl 28 (.own id g len) x H=(bO x H).bind fun xs=>bif bS 9 xs then apB wl 57 9 88 id g len xs H (H[id]?) else none:=(dS (P:=(xS kk).P) (t:=28) (e:=57) (by kernel_rfl) (by kernel_rfl)).trans (by kernel_rfl)
theorem Ln (kk:Nat) (wl:Nat) (x:V) (H:Hp):bh (xS kk).P wl 28 .nil x H=(bO x H).bind fun xs=>bif bS 9 xs then bif decide (xs.length*88≤70368744177664) then some (.own H.length 0 xs.length,H++[.rows 9 xs 0 true]) else none else none:=(dY (P:=(xS kk).P) (t:=28) (e:=57) (by kernel_rfl) (by kernel_rfl)).trans (by kernel_rfl)
theorem Ld (kk:Nat) (wl:Nat) (s x:V) (H:Hp):ld (xS kk).P wl 34 34 s x H=bh (xS kk).P wl 34 s x H:=by kernel_rfl
theorem M6 (kk:Nat) (wl id g len:Nat) (x:V) (H:Hp):bh (xS kk).P wl 34 (.own id g len) x H=(bO x H).bind fun xs=>bif bS 3 xs then apB wl 52 3 24 id g len xs H (H[id]?) else none:=(dS (P:=(xS kk).P) (t:=34) (e:=52) (by kernel_rfl) (by kernel_rfl)).trans (by kernel_rfl)
theorem NM (kk:Nat) (wl:Nat) (x:V) (H:Hp):bh (xS kk).P wl 34 .nil x H=(bO x H).bind fun xs=>bif bS 3 xs then bif decide (xs.length*24≤70368744177664) then some (.own H.length 0 xs.length,H++[.rows 3 xs 0 true]) else none else none:=(dY (P:=(xS kk).P) (t:=34) (e:=52) (by kernel_rfl) (by kernel_rfl)).trans (by kernel_rfl)
theorem LX (kk:Nat) (wl:Nat) (s x:V) (H:Hp):ld (xS kk).P wl 53 53 s x H=bh (xS kk).P wl 53 s x H:=by kernel_rfl
theorem Kz (kk:Nat) (wl id g len:Nat) (x:V) (H:Hp):bh (xS kk).P wl 53 (.own id g len) x H=(bO x H).bind fun xs=>bif bS 1 xs then apB wl 3 1 8 id g len xs H (H[id]?) else none:=(dS (P:=(xS kk).P) (t:=53) (e:=3) (by kernel_rfl) (by kernel_rfl)).trans (by kernel_rfl)
theorem N2 (kk:Nat) (wl:Nat) (x:V) (H:Hp):bh (xS kk).P wl 53 .nil x H=(bO x H).bind fun xs=>bif bS 1 xs then bif decide (xs.length*8≤70368744177664) then some (.own H.length 0 xs.length,H++[.rows 1 xs 0 true]) else none else none:=(dY (P:=(xS kk).P) (t:=53) (e:=3) (by kernel_rfl) (by kernel_rfl)).trans (by kernel_rfl)
theorem Lt (kk:Nat) (wl:Nat) (s x:V) (H:Hp):ld (xS kk).P wl 63 63 s x H=bh (xS kk).P wl 63 s x H:=by kernel_rfl
theorem NA (kk:Nat) (wl id g len:Nat) (x:V) (H:Hp):bh (xS kk).P wl 63 (.own id g len) x H=(bO x H).bind fun xs=>bif bS 3 xs then apB wl 129 3 24 id g len xs H (H[id]?) else none:=(dS (P:=(xS kk).P) (t:=63) (e:=129) (by kernel_rfl) (by kernel_rfl)).trans (by kernel_rfl)
theorem Kx (kk:Nat) (wl:Nat) (x:V) (H:Hp):bh (xS kk).P wl 63 .nil x H=(bO x H).bind fun xs=>bif bS 3 xs then bif decide (xs.length*24≤70368744177664) then some (.own H.length 0 xs.length,H++[.rows 3 xs 0 true]) else none else none:=(dY (P:=(xS kk).P) (t:=63) (e:=129) (by kernel_rfl) (by kernel_rfl)).trans (by kernel_rfl)
theorem ab9 (kk:Nat) (wl:Nat) (c:Bool) (id g len:Nat) (k:IntKind) (n:Int) (H:Hp):db (xS kk).P wl c 53 (.own id g len) none (some (.lit (.int k n))) none H=slB g len id n H (H[id]?):=uU (P:=(xS kk).P) (e:=3) (by kernel_rfl) (by kernel_rfl)
theorem act (kk:Nat) (wl:Nat) (c:Bool) (l:List Int) (k:IntKind) (n:Int) (H:Hp):db (xS kk).P wl c 53 (.ro (l.map (aG .i64))) none (some (.lit (.int k n))) none H=bif decide (0≤n∧n≤l.length) then some (.ro ((l.take n.toNat).map (aG .i64)),H) else none:=Br (P:=(xS kk).P) (e:=3) (by kernel_rfl) (by kernel_rfl) (fun x=>(by kernel_rfl:((aG .i64) x).length=aP (xS kk).P 3))
theorem ZX (kk:Nat) (wl:Nat) (c:Bool) (l:List Int) (k:IntKind) (n:Int) (H:Hp):db (xS kk).P wl c 53 (.ro (l.map (aG .i64))) (some (.lit (.int k n))) none none H=bif decide (0≤n∧n≤l.length) then some (.ro ((l.drop n.toNat).map (aG .i64)),H) else none:=Bm (P:=(xS kk).P) (e:=3) (by kernel_rfl) (by kernel_rfl) (fun x=>(by kernel_rfl:((aG .i64) x).length=aP (xS kk).P 3))
theorem aar (kk:Nat) (wl:Nat) (c:Bool) (l:List Int) (k k2:IntKind) (lo n:Int) (H:Hp):db (xS kk).P wl c 53 (.ro (l.map (aG .i64))) (some (.lit (.int k lo))) (some (.lit (.int k2 n))) none H=bif decide (0≤lo∧lo≤n∧n≤l.length) then some (.ro (((l.take n.toNat).drop lo.toNat).map (aG .i64)),H) else none:=pZ (P:=(xS kk).P) (e:=3) (by kernel_rfl) (by kernel_rfl) (fun x=>(by kernel_rfl:((aG .i64) x).length=aP (xS kk).P 3))
theorem ZT (kk:Nat) (wl:Nat) (c:Bool) (id g len:Nat) (k:IntKind) (n:Int) (H:Hp):db (xS kk).P wl c 63 (.own id g len) none (some (.lit (.int k n))) none H=slB g len id n H (H[id]?):=uU (P:=(xS kk).P) (e:=129) (by kernel_rfl) (by kernel_rfl)
theorem acS (kk:Nat) (wl:Nat) (c:Bool) (l:List (Int×Int×Int)) (k:IntKind) (n:Int) (H:Hp):db (xS kk).P wl c 63 (.ro (l.map aE)) none (some (.lit (.int k n))) none H=bif decide (0≤n∧n≤l.length) then some (.ro ((l.take n.toNat).map aE),H) else none:=Br (P:=(xS kk).P) (e:=129) (by kernel_rfl) (by kernel_rfl) (fun x=>(by kernel_rfl:(aE x).length=aP (xS kk).P 129))
theorem aao (kk:Nat) (wl:Nat) (c:Bool) (l:List (Int×Int×Int)) (k:IntKind) (n:Int) (H:Hp):db (xS kk).P wl c 63 (.ro (l.map aE)) (some (.lit (.int k n))) none none H=bif decide (0≤n∧n≤l.length) then some (.ro ((l.drop n.toNat).map aE),H) else none:=Bm (P:=(xS kk).P) (e:=129) (by kernel_rfl) (by kernel_rfl) (fun x=>(by kernel_rfl:(aE x).length=aP (xS kk).P 129))
theorem acs (kk:Nat) (wl:Nat) (c:Bool) (l:List (Int×Int×Int)) (k k2:IntKind) (lo n:Int) (H:Hp):db (xS kk).P wl c 63 (.ro (l.map aE)) (some (.lit (.int k lo))) (some (.lit (.int k2 n))) none H=bif decide (0≤lo∧lo≤n∧n≤l.length) then some (.ro (((l.take n.toNat).drop lo.toNat).map aE),H) else none:=pZ (P:=(xS kk).P) (e:=129) (by kernel_rfl) (by kernel_rfl) (fun x=>(by kernel_rfl:(aE x).length=aP (xS kk).P 129))
theorem VS (kk:Nat) (n:Int) (H:Hp):a7 (xS kk).P 150 (.lit (.int .i64 n)) (.lit (.int .i64 n)) H=bif decide (0≤n∧n≤9223372036854775807∧n*1≤70368744177664) then some (.own H.length 0 n.toNat,H++[.rows 1 (List.replicate n.toNat [(V.lit (Value.bool false))]) 0 true]) else none:=wo (P:=(xS kk).P) (t:=150) (e:=4) (z:=((ef (xS kk).P 4).getD default)) (by kernel_rfl) (by kernel_rfl) (by kernel_rfl) (by kernel_rfl)
theorem PO (kk:Nat) (k:IntKind) (n:Int):fM (xS kk).P 3 46 (.lit (.int k n))=some (.lit (.int .u64 (IntKind.wrap .u64 n))):=by kernel_rfl
theorem Sl (kk:Nat) (k:IntKind) (n:Int):fM (xS kk).P 46 3 (.lit (.int k n))=some (.lit (.int .i64 (IntKind.wrap .i64 n))):=by kernel_rfl
theorem ach (kk:Nat) (a0 b0:Int) (a1 b1:Int) (a2 b2:Int) (a3 b3:Int):aq (xS kk).P .eql 23 (.agg [.lit (.int .i64 a0),.lit (.int .i64 a1),.lit (.int .i64 a2),.lit (.int .i64 a3)]) (.agg [.lit (.int .i64 b0),.lit (.int .i64 b1),.lit (.int .i64 b2),.lit (.int .i64 b3)])=some (.lit (.bool ((a0==b0)&&((a1==b1)&&((a2==b2)&&((a3==b3)&&true)))))):=by kernel_rfl
theorem aaj (kk:Nat) (a0 b0:Int) (a1 b1:Int) (a2 b2:Int) (a3 b3:Int):aq (xS kk).P .neq 23 (.agg [.lit (.int .i64 a0),.lit (.int .i64 a1),.lit (.int .i64 a2),.lit (.int .i64 a3)]) (.agg [.lit (.int .i64 b0),.lit (.int .i64 b1),.lit (.int .i64 b2),.lit (.int .i64 b3)])=some (.lit (.bool (!((a0==b0)&&((a1==b1)&&((a2==b2)&&((a3==b3)&&true))))))):=by kernel_rfl
theorem ab8 (kk:Nat) (a0 b0:Int) (a1 b1:Int) (a2 b2:Int):aq (xS kk).P .eql 52 (.agg [.lit (.int .i64 a0),.lit (.int .i64 a1),.lit (.int .i64 a2)]) (.agg [.lit (.int .i64 b0),.lit (.int .i64 b1),.lit (.int .i64 b2)])=some (.lit (.bool ((a0==b0)&&((a1==b1)&&((a2==b2)&&true))))):=by kernel_rfl
theorem aal (kk:Nat) (a0 b0:Int) (a1 b1:Int) (a2 b2:Int):aq (xS kk).P .neq 52 (.agg [.lit (.int .i64 a0),.lit (.int .i64 a1),.lit (.int .i64 a2)]) (.agg [.lit (.int .i64 b0),.lit (.int .i64 b1),.lit (.int .i64 b2)])=some (.lit (.bool (!((a0==b0)&&((a1==b1)&&((a2==b2)&&true)))))):=by kernel_rfl
theorem abf (kk:Nat) (a0 b0:Int) (a1 b1:Int) (a2 b2:Int) (a3 b3:Int) (a4 b4:Int) (a5 b5:Int) (a6 b6:Int):aq (xS kk).P .eql 55 (.agg [.lit (.int .i64 a0),.lit (.int .i64 a1),.lit (.int .i64 a2),.lit (.int .u64 a3),.lit (.int .u64 a4),.lit (.int .u64 a5),.lit (.int .i64 a6)]) (.agg [.lit (.int .i64 b0),.lit (.int .i64 b1),.lit (.int .i64 b2),.lit (.int .u64 b3),.lit (.int .u64 b4),.lit (.int .u64 b5),.lit (.int .i64 b6)])=some (.lit (.bool ((a0==b0)&&((a1==b1)&&((a2==b2)&&((a3==b3)&&((a4==b4)&&((a5==b5)&&((a6==b6)&&true))))))))):=by kernel_rfl
theorem aah (kk:Nat) (a0 b0:Int) (a1 b1:Int) (a2 b2:Int) (a3 b3:Int) (a4 b4:Int) (a5 b5:Int) (a6 b6:Int):aq (xS kk).P .neq 55 (.agg [.lit (.int .i64 a0),.lit (.int .i64 a1),.lit (.int .i64 a2),.lit (.int .u64 a3),.lit (.int .u64 a4),.lit (.int .u64 a5),.lit (.int .i64 a6)]) (.agg [.lit (.int .i64 b0),.lit (.int .i64 b1),.lit (.int .i64 b2),.lit (.int .u64 b3),.lit (.int .u64 b4),.lit (.int .u64 b5),.lit (.int .i64 b6)])=some (.lit (.bool (!((a0==b0)&&((a1==b1)&&((a2==b2)&&((a3==b3)&&((a4==b4)&&((a5==b5)&&((a6==b6)&&true)))))))))):=by kernel_rfl
theorem V9 (kk:Nat) (a0 b0:Int) (a1 b1:Int) (a2 b2:Int):aq (xS kk).P .eql 129 (.agg [.lit (.int .i64 a0),.lit (.int .i64 a1),.lit (.int .i64 a2)]) (.agg [.lit (.int .i64 b0),.lit (.int .i64 b1),.lit (.int .i64 b2)])=some (.lit (.bool ((a0==b0)&&((a1==b1)&&((a2==b2)&&true))))):=by kernel_rfl
theorem Uh (kk:Nat) (a0 b0:Int) (a1 b1:Int) (a2 b2:Int):aq (xS kk).P .neq 129 (.agg [.lit (.int .i64 a0),.lit (.int .i64 a1),.lit (.int .i64 a2)]) (.agg [.lit (.int .i64 b0),.lit (.int .i64 b1),.lit (.int .i64 b2)])=some (.lit (.bool (!((a0==b0)&&((a1==b1)&&((a2==b2)&&true)))))):=by kernel_rfl
theorem Dp (kk:Nat) (c0 c1 c2:V):aZ (xS kk).P 23 [(0,c0),(1,c1),(2,c2)]=(nm [(V.lit (Value.int .i64 (0))),(V.lit (Value.int .i64 (0))),(V.lit (Value.int .i64 (0))),(V.lit (Value.int .i64 (0)))] [(0,1,c0),(1,1,c1),(2,1,c2)]).map .agg:=by kernel_rfl
theorem US (kk:Nat):aZ (xS kk).P 30 []=(nm [(V.lit (Value.int .i64 (0))),(V.lit (Value.int .i64 (0))),(V.lit (Value.int .i64 (0))),(V.lit (Value.int .i64 (0))),V.nil,V.nil,V.nil,V.nil] []).map .agg:=by kernel_rfl
theorem BZ (kk:Nat) (c0 c1 c2:V):aZ (xS kk).P 30 [(0,c0),(1,c1),(2,c2)]=(nm [(V.lit (Value.int .i64 (0))),(V.lit (Value.int .i64 (0))),(V.lit (Value.int .i64 (0))),(V.lit (Value.int .i64 (0))),V.nil,V.nil,V.nil,V.nil] [(0,4,c0),(4,1,c1),(5,1,c2)]).map .agg:=by kernel_rfl
theorem Vs (kk:Nat):aZ (xS kk).P 48 []=(nm [(V.lit (Value.int .i64 (0))),(V.lit (Value.int .i64 (0))),(V.lit (Value.int .u64 (0)))] []).map .agg:=by kernel_rfl
theorem RB (kk:Nat) (c0:V):aZ (xS kk).P 48 [(0,c0)]=(nm [(V.lit (Value.int .i64 (0))),(V.lit (Value.int .i64 (0))),(V.lit (Value.int .u64 (0)))] [(0,1,c0)]).map .agg:=by kernel_rfl
theorem C7 (kk:Nat) (c0 c1 c2:V):aZ (xS kk).P 52 [(0,c0),(1,c1),(2,c2)]=(nm [(V.lit (Value.int .i64 (0))),(V.lit (Value.int .i64 (0))),(V.lit (Value.int .i64 (0)))] [(0,1,c0),(1,1,c1),(2,1,c2)]).map .agg:=by kernel_rfl
theorem W3 (kk:Nat):aZ (xS kk).P 55 []=(nm [(V.lit (Value.int .i64 (0))),(V.lit (Value.int .i64 (0))),(V.lit (Value.int .i64 (0))),(V.lit (Value.int .u64 (0))),(V.lit (Value.int .u64 (0))),(V.lit (Value.int .u64 (0))),(V.lit (Value.int .i64 (0)))] []).map .agg:=by kernel_rfl
theorem DD (kk:Nat) (c0 c1 c2:V):aZ (xS kk).P 55 [(0,c0),(2,c1),(3,c2)]=(nm [(V.lit (Value.int .i64 (0))),(V.lit (Value.int .i64 (0))),(V.lit (Value.int .i64 (0))),(V.lit (Value.int .u64 (0))),(V.lit (Value.int .u64 (0))),(V.lit (Value.int .u64 (0))),(V.lit (Value.int .i64 (0)))] [(0,1,c0),(2,1,c1),(3,1,c2)]).map .agg:=by kernel_rfl
theorem xw (kk:Nat) (c0 c1 c2 c3:V):aZ (xS kk).P 55 [(0,c0),(2,c1),(3,c2),(6,c3)]=(nm [(V.lit (Value.int .i64 (0))),(V.lit (Value.int .i64 (0))),(V.lit (Value.int .i64 (0))),(V.lit (Value.int .u64 (0))),(V.lit (Value.int .u64 (0))),(V.lit (Value.int .u64 (0))),(V.lit (Value.int .i64 (0)))] [(0,1,c0),(2,1,c1),(3,1,c2),(6,1,c3)]).map .agg:=by kernel_rfl
theorem Ck (kk:Nat) (c0 c1 c2:V):aZ (xS kk).P 57 [(0,c0),(1,c1),(2,c2)]=(nm [(V.lit (Value.int .i64 (0))),V.nil,(V.lit (Value.int .i64 (0))),(V.lit (Value.int .i64 (0))),(V.lit (Value.int .i64 (0))),(V.lit (Value.int .u64 (0))),(V.lit (Value.int .u64 (0))),(V.lit (Value.int .u64 (0))),(V.lit (Value.int .i64 (0)))] [(0,1,c0),(1,1,c1),(2,7,c2)]).map .agg:=by kernel_rfl
theorem RA (kk:Nat) (c0:V):aZ (xS kk).P 57 [(1,c0)]=(nm [(V.lit (Value.int .i64 (0))),V.nil,(V.lit (Value.int .i64 (0))),(V.lit (Value.int .i64 (0))),(V.lit (Value.int .i64 (0))),(V.lit (Value.int .u64 (0))),(V.lit (Value.int .u64 (0))),(V.lit (Value.int .u64 (0))),(V.lit (Value.int .i64 (0)))] [(1,1,c0)]).map .agg:=by kernel_rfl
theorem Sp (kk:Nat) (c0:V):aZ (xS kk).P 65 [(2,c0)]=(nm [(V.lit (Value.int .i64 (0))),V.nil,(V.lit (Value.int .i64 (0))),(V.lit (Value.int .i64 (0))),(V.lit (Value.int .i64 (0))),(V.lit (Value.int .u64 (0))),(V.lit (Value.int .u64 (0))),(V.lit (Value.int .u64 (0))),(V.lit (Value.int .i64 (0))),(V.lit (Value.int .i64 (0))),(V.lit (Value.int .i64 (0)))] [(2,7,c0)]).map .agg:=by kernel_rfl
theorem L3 (kk:Nat) (c0:V):aZ (xS kk).P 129 [(0,c0)]=(nm [(V.lit (Value.int .i64 (0))),(V.lit (Value.int .i64 (0))),(V.lit (Value.int .i64 (0)))] [(0,1,c0)]).map .agg:=by kernel_rfl
theorem mZ (kk:Nat) (c0 c1 c2 c3 c4 c5:V):aZ (xS kk).P 168 [(0,c0),(1,c1),(2,c2),(3,c3),(4,c4),(5,c5)]=(nm [(V.lit (Value.int .i64 (0))),V.nil,(V.lit (Value.int .i64 (0))),(V.lit (Value.int .i64 (0))),(V.lit (Value.int .i64 (0))),(V.lit (Value.int .u64 (0))),(V.lit (Value.int .u64 (0))),(V.lit (Value.int .u64 (0))),(V.lit (Value.int .i64 (0))),(V.lit (Value.int .i64 (0))),(V.lit (Value.int .i64 (0))),(V.lit (Value.int .i64 (0))),(V.lit (Value.int .i64 (0))),(V.lit (Value.int .i64 (0))),(V.lit (Value.int .i64 (0))),V.nil,V.nil,(V.lit (Value.int .i64 (0))),(V.lit (Value.int .u64 (0))),V.nil] [(0,11,c0),(11,4,c1),(15,1,c2),(16,1,c3),(17,1,c4),(18,1,c5)]).map .agg:=by kernel_rfl
theorem di (kk:Nat) (c0 c1 c2 c3 c4 c5 c6 c7 c8 c9 c10 c11 c12 c13 c14 c15:V):aZ (xS kk).P 169 [(0,c0),(1,c1),(2,c2),(3,c3),(4,c4),(5,c5),(6,c6),(7,c7),(8,c8),(9,c9),(10,c10),(11,c11),(12,c12),(13,c13),(14,c14),(15,c15)]=(nm [(V.lit Value.nilFunc),(V.lit Value.nilFunc),(V.lit Value.nilFunc),(V.lit Value.nilFunc),(V.lit Value.nilFunc),(V.lit Value.nilFunc),(V.lit Value.nilFunc),(V.lit Value.nilFunc),(V.lit Value.nilFunc),(V.lit Value.nilFunc),(V.lit Value.nilFunc),(V.lit Value.nilFunc),(V.lit Value.nilFunc),(V.lit Value.nilFunc),(V.lit Value.nilFunc),(V.lit Value.nilFunc)] [(0,1,c0),(1,1,c1),(2,1,c2),(3,1,c3),(4,1,c4),(5,1,c5),(6,1,c6),(7,1,c7),(8,1,c8),(9,1,c9),(10,1,c10),(11,1,c11),(12,1,c12),(13,1,c13),(14,1,c14),(15,1,c15)]).map .agg:=by kernel_rfl
theorem mK (kk:Nat) (c0 c1 c2 c3 c4 c5:V):aZ (xS kk).P 175 [(0,c0),(1,c1),(2,c2),(3,c3),(4,c4),(5,c5)]=(nm [(V.lit Value.nilFunc),(V.lit Value.nilFunc),(V.lit Value.nilFunc),(V.lit Value.nilFunc),(V.lit Value.nilFunc),(V.lit Value.nilFunc)] [(0,1,c0),(1,1,c1),(2,1,c2),(3,1,c3),(4,1,c4),(5,1,c5)]).map .agg:=by kernel_rfl
theorem PM (kk:Nat):aZ (xS kk).P 194 []=(nm [(V.lit (Value.int .i64 (0))),(V.lit (Value.int .i64 (0)))] []).map .agg:=by kernel_rfl
theorem Ge (kk:Nat) (c0 c1:V):aZ (xS kk).P 194 [(0,c0),(1,c1)]=(nm [(V.lit (Value.int .i64 (0))),(V.lit (Value.int .i64 (0)))] [(0,1,c0),(1,1,c1)]).map .agg:=by kernel_rfl
theorem Aq (kk:Nat) (c0 c1 c2:V):aZ (xS kk).P 205 [(0,c0),(1,c1),(2,c2)]=(nm [(V.lit (Value.int .i64 (0))),(V.lit (Value.int .i64 (0))),(V.lit (Value.int .i64 (0))),(V.lit (Value.int .u64 (0))),(V.lit (Value.int .u64 (0))),(V.lit (Value.int .u64 (0))),(V.lit (Value.int .i64 (0))),(V.lit (Value.int .i64 (0))),(V.lit (Value.int .i64 (0))),(V.lit (Value.int .i64 (0))),(V.lit (Value.int .i64 (0))),V.nil] [(0,7,c0),(7,4,c1),(11,1,c2)]).map .agg:=by kernel_rfl
theorem xE (kk:Nat) (c0 c1 c2:V):aZ (xS kk).P 221 [(0,c0),(1,c1),(2,c2)]=(nm [(V.lit (Value.int .i64 (0))),(V.lit (Value.int .i64 (0))),(V.lit (Value.int .i64 (0))),(V.lit (Value.int .u64 (0))),(V.lit (Value.int .u64 (0))),(V.lit (Value.int .u64 (0))),(V.lit (Value.int .i64 (0))),(V.lit (Value.int .i64 (0))),(V.lit (Value.int .i64 (0))),(V.lit (Value.int .i64 (0))),(V.lit (Value.int .i64 (0))),V.nil] [(0,7,c0),(7,4,c1),(11,1,c2)]).map .agg:=by kernel_rfl
theorem AH (kk:Nat) (c0 c1 c2:V):aZ (xS kk).P 235 [(0,c0),(1,c1),(2,c2)]=(nm [(V.lit (Value.int .i64 (0))),(V.lit (Value.int .i64 (0))),(V.lit (Value.int .i64 (0))),(V.lit (Value.int .u64 (0))),(V.lit (Value.int .u64 (0))),(V.lit (Value.int .u64 (0))),(V.lit (Value.int .i64 (0))),(V.lit (Value.int .i64 (0))),(V.lit (Value.int .i64 (0))),(V.lit (Value.int .i64 (0))),(V.lit (Value.int .i64 (0))),V.nil] [(0,7,c0),(7,4,c1),(11,1,c2)]).map .agg:=by kernel_rfl
theorem rV (kk:Nat) (c0 c1 c2 c3:V):aZ (xS kk).P 236 [(0,c0),(1,c1),(2,c2),(3,c3)]=(nm [(V.lit Value.nilFunc),(V.lit Value.nilFunc),(V.lit Value.nilFunc),(V.lit Value.nilFunc)] [(0,1,c0),(1,1,c1),(2,1,c2),(3,1,c3)]).map .agg:=by kernel_rfl
theorem RI (kk:Nat) (wl:Nat) (l:List (Nat×V)) (H:Hp):az (xS kk).P wl 24 0 l H=(eG wl 2 l [] H).bind fun p=>some (.own p.2.length 0 0,p.2++[.rows 2 p.1 0 true]):=by kernel_rfl
theorem Ra (kk:Nat) (wl:Nat) (l:List (Nat×V)) (H:Hp):az (xS kk).P wl 25 1 l H=(eG wl 1 l [[(V.lit (Value.int .u64 (0)))]] H).bind fun p=>some (.own p.2.length 0 1,p.2++[.rows 1 p.1 0 true]):=by kernel_rfl
theorem Qn (kk:Nat) (wl:Nat) (l:List (Nat×V)) (H:Hp):az (xS kk).P wl 26 0 l H=(eG wl 1 l [] H).bind fun p=>some (.own p.2.length 0 0,p.2++[.rows 1 p.1 0 true]):=by kernel_rfl
theorem Q0 (kk:Nat) (wl:Nat) (l:List (Nat×V)) (H:Hp):az (xS kk).P wl 26 1 l H=(eG wl 1 l [[(V.lit (Value.int .u64 (0)))]] H).bind fun p=>some (.own p.2.length 0 1,p.2++[.rows 1 p.1 0 true]):=by kernel_rfl
theorem TL (kk:Nat) (wl:Nat) (l:List (Nat×V)) (H:Hp):az (xS kk).P wl 27 0 l H=(eG wl 11 l [] H).bind fun p=>some (.own p.2.length 0 0,p.2++[.rows 11 p.1 0 true]):=by kernel_rfl
theorem Tk (kk:Nat) (wl:Nat) (l:List (Nat×V)) (H:Hp):az (xS kk).P wl 27 1 l H=(eG wl 11 l [[(V.lit (Value.int .i64 (0))),V.ro [],(V.lit (Value.int .i64 (0))),(V.lit (Value.int .i64 (0))),(V.lit (Value.int .i64 (0))),(V.lit (Value.int .u64 (0))),(V.lit (Value.int .u64 (0))),(V.lit (Value.int .u64 (0))),(V.lit (Value.int .i64 (0))),(V.lit (Value.int .i64 (0))),(V.lit (Value.int .i64 (0)))]] H).bind fun p=>some (.own p.2.length 0 1,p.2++[.rows 11 p.1 0 true]):=by kernel_rfl
theorem Qp (kk:Nat) (wl:Nat) (l:List (Nat×V)) (H:Hp):az (xS kk).P wl 28 0 l H=(eG wl 9 l [] H).bind fun p=>some (.own p.2.length 0 0,p.2++[.rows 9 p.1 0 true]):=by kernel_rfl
theorem SZ (kk:Nat) (wl:Nat) (l:List (Nat×V)) (H:Hp):az (xS kk).P wl 28 1 l H=(eG wl 9 l [[(V.lit (Value.int .i64 (0))),V.ro [],(V.lit (Value.int .i64 (0))),(V.lit (Value.int .i64 (0))),(V.lit (Value.int .i64 (0))),(V.lit (Value.int .u64 (0))),(V.lit (Value.int .u64 (0))),(V.lit (Value.int .u64 (0))),(V.lit (Value.int .i64 (0)))]] H).bind fun p=>some (.own p.2.length 0 1,p.2++[.rows 9 p.1 0 true]):=by kernel_rfl
theorem RZ (kk:Nat) (wl:Nat) (l:List (Nat×V)) (H:Hp):az (xS kk).P wl 31 1 l H=(eG wl 3 l [[(V.lit (Value.int .i64 (0))),(V.lit (Value.int .i64 (0))),(V.lit (Value.int .u64 (0)))]] H).bind fun p=>some (.own p.2.length 0 1,p.2++[.rows 3 p.1 0 true]):=by kernel_rfl
theorem RP (kk:Nat) (wl:Nat) (l:List (Nat×V)) (H:Hp):az (xS kk).P wl 31 2 l H=(eG wl 3 l [[(V.lit (Value.int .i64 (0))),(V.lit (Value.int .i64 (0))),(V.lit (Value.int .u64 (0)))],[(V.lit (Value.int .i64 (0))),(V.lit (Value.int .i64 (0))),(V.lit (Value.int .u64 (0)))]] H).bind fun p=>some (.own p.2.length 0 2,p.2++[.rows 3 p.1 0 true]):=by kernel_rfl
theorem RO (kk:Nat) (wl:Nat) (l:List (Nat×V)) (H:Hp):az (xS kk).P wl 34 1 l H=(eG wl 3 l [[(V.lit (Value.int .i64 (0))),(V.lit (Value.int .i64 (0))),(V.lit (Value.int .i64 (0)))]] H).bind fun p=>some (.own p.2.length 0 1,p.2++[.rows 3 p.1 0 true]):=by kernel_rfl
theorem QR (kk:Nat) (wl:Nat) (l:List (Nat×V)) (H:Hp):az (xS kk).P wl 53 0 l H=(eG wl 1 l [] H).bind fun p=>some (.own p.2.length 0 0,p.2++[.rows 1 p.1 0 true]):=by kernel_rfl
theorem TD (kk:Nat) (wl:Nat) (l:List (Nat×V)) (H:Hp):az (xS kk).P wl 53 1 l H=(eG wl 1 l [[(V.lit (Value.int .i64 (0)))]] H).bind fun p=>some (.own p.2.length 0 1,p.2++[.rows 1 p.1 0 true]):=by kernel_rfl
theorem Sa (kk:Nat) (wl:Nat) (l:List (Nat×V)) (H:Hp):az (xS kk).P wl 53 5 l H=(eG wl 1 l [[(V.lit (Value.int .i64 (0)))],[(V.lit (Value.int .i64 (0)))],[(V.lit (Value.int .i64 (0)))],[(V.lit (Value.int .i64 (0)))],[(V.lit (Value.int .i64 (0)))]] H).bind fun p=>some (.own p.2.length 0 5,p.2++[.rows 1 p.1 0 true]):=by kernel_rfl
theorem QE (kk:Nat) (wl:Nat) (l:List (Nat×V)) (H:Hp):az (xS kk).P wl 63 0 l H=(eG wl 3 l [] H).bind fun p=>some (.own p.2.length 0 0,p.2++[.rows 3 p.1 0 true]):=by kernel_rfl
theorem Sr (kk:Nat) (wl:Nat) (l:List (Nat×V)) (H:Hp):az (xS kk).P wl 63 1 l H=(eG wl 3 l [[(V.lit (Value.int .i64 (0))),(V.lit (Value.int .i64 (0))),(V.lit (Value.int .i64 (0)))]] H).bind fun p=>some (.own p.2.length 0 1,p.2++[.rows 3 p.1 0 true]):=by kernel_rfl
theorem Lv (kk:Nat) (wl:Nat) (l:List (Nat×V)) (H:Hp):az (xS kk).P wl 207 5 l H=(eG wl 1 l [[(V.lit Value.nilFunc)],[(V.lit Value.nilFunc)],[(V.lit Value.nilFunc)],[(V.lit Value.nilFunc)],[(V.lit Value.nilFunc)]] H).bind fun p=>some (.own p.2.length 0 5,p.2++[.rows 1 p.1 0 true]):=by kernel_rfl
theorem KX (kk:Nat) (wl:Nat) (l:List (Nat×V)) (H:Hp):az (xS kk).P wl 223 5 l H=(eG wl 1 l [[(V.lit Value.nilFunc)],[(V.lit Value.nilFunc)],[(V.lit Value.nilFunc)],[(V.lit Value.nilFunc)],[(V.lit Value.nilFunc)]] H).bind fun p=>some (.own p.2.length 0 5,p.2++[.rows 1 p.1 0 true]):=by kernel_rfl
theorem NC (kk:Nat) (wl:Nat) (l:List (Nat×V)) (H:Hp):az (xS kk).P wl 238 4 l H=(eG wl 1 l [[(V.lit Value.nilFunc)],[(V.lit Value.nilFunc)],[(V.lit Value.nilFunc)],[(V.lit Value.nilFunc)]] H).bind fun p=>some (.own p.2.length 0 4,p.2++[.rows 1 p.1 0 true]):=by kernel_rfl
theorem Vg (kk:Nat) (wl id:Nat) (n:Int) (v:V) (H:Hp):dM (xS kk).P wl 138 (.map id) (.lit (.int .i64 n)) v H=inB wl .i64 id n v H (H[id]?):=by kernel_rfl
theorem U6 (kk:Nat) (id:Nat) (n:Int) (ok:Bool) (H:Hp):eU (xS kk).P 138 (.map id) (.lit (.int .i64 n)) ok H=lkB .i64 (V.lit Value.nilFunc) ok n (H[id]?):=by kernel_rfl
theorem Yz (kk:Nat) (wl id:Nat) (n:Int) (v:V) (H:Hp):dM (xS kk).P wl 201 (.map id) (.lit (.int .i64 n)) v H=inB wl .i64 id n v H (H[id]?):=by kernel_rfl
theorem U2 (kk:Nat) (id:Nat) (n:Int) (ok:Bool) (H:Hp):eU (xS kk).P 201 (.map id) (.lit (.int .i64 n)) ok H=lkB .i64 (V.lit Value.nilFunc) ok n (H[id]?):=by kernel_rfl
theorem Ux (kk:Nat) (wl id:Nat) (n:Int) (v:V) (H:Hp):dM (xS kk).P wl 212 (.map id) (.lit (.int .i64 n)) v H=inB wl .i64 id n v H (H[id]?):=by kernel_rfl
theorem XF (kk:Nat) (id:Nat) (n:Int) (ok:Bool) (H:Hp):eU (xS kk).P 212 (.map id) (.lit (.int .i64 n)) ok H=lkB .i64 (V.lit Value.nilFunc) ok n (H[id]?):=by kernel_rfl
theorem WT (kk:Nat) (id g row off:Nat) (k:IntKind) (n:Int) (H:Hp):ak (xS kk).P 169 (.ptr id g row off) (.lit (.int k n)) H=arC id g row [(0,off),(1,off+1),(2,off+2),(3,off+3),(4,off+4),(5,off+5),(6,off+6),(7,off+7),(8,off+8),(9,off+9),(10,off+10),(11,off+11),(12,off+12),(13,off+13),(14,off+14),(15,off+15)] n:=JD (e:=1) (len:=16) (sz:=1) (by kernel_rfl) (by kernel_rfl) (by decide)
theorem Wg (kk:Nat) (id g row off:Nat) (k:IntKind) (n:Int) (H:Hp):ak (xS kk).P 175 (.ptr id g row off) (.lit (.int k n)) H=arC id g row [(0,off),(1,off+1),(2,off+2),(3,off+3),(4,off+4),(5,off+5)] n:=JD (e:=1) (len:=6) (sz:=1) (by kernel_rfl) (by kernel_rfl) (by decide)
theorem Xt (kk:Nat) (id g row off:Nat) (k:IntKind) (n:Int) (H:Hp):ak (xS kk).P 236 (.ptr id g row off) (.lit (.int k n)) H=arC id g row [(0,off),(1,off+1),(2,off+2),(3,off+3)] n:=JD (e:=1) (len:=4) (sz:=1) (by kernel_rfl) (by kernel_rfl) (by decide)
def xF0:=PLift.up (And.intro (And.intro (And.intro (And.intro (And.intro (And.intro (And.intro (And.intro (@aec) (@ady)) (And.intro (@adU) (@adF))) (And.intro (And.intro (@adZ) (@aed)) (And.intro (@abe) (And.intro (@aaC) (@ZN))))) (And.intro (And.intro (And.intro (@aaK) (@ZJ)) (And.intro (@abl) (And.intro (@aaY) (@abx)))) (And.intro (And.intro (@aaW) (@aa0)) (And.intro (@abz) (And.intro (@ZA) (@aco)))))) (And.intro (And.intro (And.intro (And.intro (@ab2) (@ZZ)) (And.intro (@aat) (And.intro (@abB) (@ab4)))) (And.intro (And.intro (@acE) (@abX)) (And.intro (@abN) (And.intro (@abT) (@Z7))))) (And.intro (And.intro (And.intro (@aaN) (@acF)) (And.intro (@aau) (And.intro (@acG) (@aa3)))) (And.intro (And.intro (@aa7) (@acT)) (And.intro (@acy) (And.intro (@aaS) (@acd))))))) (And.intro (And.intro (And.intro (And.intro (And.intro (@aaz) (@UZ)) (And.intro (@WO) (@Vp))) (And.intro (And.intro (@VO) (@Wi)) (And.intro (@Vi) (And.intro (@WN) (@Wu))))) (And.intro (And.intro (And.intro (@UK) (@X4)) (And.intro (@Ww) (And.intro (@UT) (@W8)))) (And.intro (And.intro (@XA) (@UL)) (And.intro (@XD) (And.intro (@YK) (@Xj)))))) (And.intro (And.intro (And.intro (And.intro (@Wa) (@X5)) (And.intro (@WX) (And.intro (@VX) (@adV)))) (And.intro (And.intro (@ad7) (@adG)) (And.intro (@abi) (And.intro (@acr) (@Zp))))) (And.intro (And.intro (And.intro (@ZS) (@abJ)) (And.intro (@aaA) (And.intro (@aak) (@aa8)))) (And.intro (And.intro (@YB) (@T8)) (And.intro (@Vy) (And.intro (@YJ) (@T9)))))))) (And.intro (And.intro (And.intro (And.intro (And.intro (And.intro (@Xn) (@YN)) (And.intro (@VY) (@YP))) (And.intro (And.intro (@Rd) (@Rk)) (And.intro (@Tt) (And.intro (@QD) (@P1))))) (And.intro (And.intro (And.intro (@TE) (@RV)) (And.intro (@Q7) (And.intro (@Rm) (@PJ)))) (And.intro (And.intro (@QH) (@Q3)) (And.intro (@TC) (And.intro (@Qi) (@RT)))))) (And.intro (And.intro (And.intro (And.intro (@Q1) (@Qm)) (And.intro (@Sz) (And.intro (@Qs) (@TO)))) (And.intro (And.intro (@Qo) (@Sh)) (And.intro (@Ti) (And.intro (@Sf) (@Sq))))) (And.intro (And.intro (And.intro (@Qw) (@PU)) (And.intro (@SC) (And.intro (@P6) (@Rc)))) (And.intro (And.intro (@Re) (@Qr)) (And.intro (@SL) (And.intro (@SN) (@TT))))))) (And.intro (And.intro (And.intro (And.intro (And.intro (@Ql) (@Sj)) (And.intro (@QX) (@Ts))) (And.intro (And.intro (@SH) (@S6)) (And.intro (@Tz) (And.intro (@Qe) (@Tm))))) (And.intro (And.intro (And.intro (@SJ) (@RM)) (And.intro (@QA) (And.intro (@Qg) (@TX)))) (And.intro (And.intro (@QN) (@Qy)) (And.intro (@Tq) (And.intro (@RQ) (@TF)))))) (And.intro (And.intro (And.intro (And.intro (@PS) (@TU)) (And.intro (@Nm) (And.intro (@Mg) (@Kw)))) (And.intro (And.intro (@Kf) (@Kl)) (And.intro (@LW) (And.intro (@Nx) (@NN))))) (And.intro (And.intro (And.intro (@L5) (@Kg)) (And.intro (@L9) (And.intro (@Lc) (@NX)))) (And.intro (And.intro (@KJ) (@LR)) (And.intro (@Nh) (And.intro (@Lj) (@Lw))))))))) (And.intro (And.intro (And.intro (And.intro (And.intro (And.intro (And.intro (@Mr) (@KP)) (And.intro (@NK) (@Ks))) (And.intro (And.intro (@Me) (@Nt)) (And.intro (@NY) (And.intro (@NS) (@N3))))) (And.intro (And.intro (And.intro (@KC) (@Lk)) (And.intro (@ND) (And.intro (@Mx) (@Mj)))) (And.intro (And.intro (@K2) (@Nl)) (And.intro (@Na) (And.intro (@Od) (@MH)))))) (And.intro (And.intro (And.intro (And.intro (@Lo) (@Ng)) (And.intro (@KV) (And.intro (@LE) (@MY)))) (And.intro (And.intro (@K1) (@Ls)) (And.intro (@KK) (And.intro (@LP) (@Nu))))) (And.intro (And.intro (And.intro (@Z3) (@acB)) (And.intro (@Zt) (And.intro (@abh) (@aay)))) (And.intro (And.intro (@aby) (@acP)) (And.intro (@aaH) (And.intro (@abS) (@Z6))))))) (And.intro (And.intro (And.intro (And.intro (And.intro (@abd) (@abk)) (And.intro (@aan) (@aaD))) (And.intro (And.intro (@acm) (@Z8)) (And.intro (@aca) (And.intro (@ZC) (@Uj))))) (And.intro (And.intro (And.intro (@WI) (@XE)) (And.intro (@UD) (And.intro (@Ya) (@X2)))) (And.intro (And.intro (@Yj) (@Vf)) (And.intro (@WY) (And.intro (@UU) (@Vq)))))) (And.intro (And.intro (And.intro (And.intro (@UI) (@YM)) (And.intro (@Yu) (And.intro (@V6) (@PP)))) (And.intro (And.intro (@Rr) (@MX)) (And.intro (@MU) (And.intro (@Kp) (@LM))))) (And.intro (And.intro (And.intro (@KQ) (@N7)) (And.intro (@MB) (And.intro (@MC) (@KS)))) (And.intro (And.intro (@Kr) (@NW)) (And.intro (@LV) (And.intro (@ML) (@Mf)))))))) (And.intro (And.intro (And.intro (And.intro (And.intro (And.intro (@Ln) (@Ld)) (And.intro (@M6) (@NM))) (And.intro (And.intro (@LX) (@Kz)) (And.intro (@N2) (And.intro (@Lt) (@NA))))) (And.intro (And.intro (And.intro (@Kx) (@ab9)) (And.intro (@act) (And.intro (@ZX) (@aar)))) (And.intro (And.intro (@ZT) (@acS)) (And.intro (@aao) (And.intro (@acs) (@VS)))))) (And.intro (And.intro (And.intro (And.intro (@PO) (@Sl)) (And.intro (@ach) (And.intro (@aaj) (@ab8)))) (And.intro (And.intro (@aal) (@abf)) (And.intro (@aah) (And.intro (@V9) (@Uh))))) (And.intro (And.intro (And.intro (@Dp) (@US)) (And.intro (@BZ) (And.intro (@Vs) (@RB)))) (And.intro (And.intro (@C7) (@W3)) (And.intro (@DD) (And.intro (@xw) (@Ck))))))) (And.intro (And.intro (And.intro (And.intro (And.intro (@RA) (@Sp)) (And.intro (@L3) (And.intro (@mZ) (@di)))) (And.intro (And.intro (@mK) (@PM)) (And.intro (@Ge) (And.intro (@Aq) (@xE))))) (And.intro (And.intro (And.intro (@AH) (@rV)) (And.intro (@RI) (And.intro (@Ra) (@Qn)))) (And.intro (And.intro (@Q0) (@TL)) (And.intro (@Tk) (And.intro (@Qp) (@SZ)))))) (And.intro (And.intro (And.intro (And.intro (@RZ) (@RP)) (And.intro (@RO) (And.intro (@QR) (@TD)))) (And.intro (And.intro (@Sa) (@QE)) (And.intro (@Sr) (And.intro (@Lv) (@KX))))) (And.intro (And.intro (And.intro (@NC) (@Vg)) (And.intro (@U6) (And.intro (@Yz) (@U2)))) (And.intro (And.intro (@Ux) (@XF)) (And.intro (@WT) (And.intro (@Wg) (@Xt))))))))))
theorem xF:type_of% xF0.down:=xF0.down
end Go.Ab
