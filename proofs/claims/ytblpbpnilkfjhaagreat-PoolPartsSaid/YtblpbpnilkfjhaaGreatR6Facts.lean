import Derived.Test.YtblpbpnilkfjhaaGreatAbLibC
import Derived.Test.YtblpbpnilkfjhaaGreatAbLibB
import Derived.Test.YtblpbpnilkfjhaaGreatR6Seat
set_option linter.unusedVariables false
set_option linter.unusedSimpArgs false
set_option maxRecDepth 100000
set_option linter.unusedVariables false
namespace Go.Ab
open Go.Proofs
theorem aeJ (kk:Nat) (c:V) (cs:List V):aP (xS kk).P 1 (c::cs)=some c:=by kernel_rfl
theorem aeN (kk:Nat):aM (xS kk).P 1=1:=by kernel_rfl
theorem aeR (kk:Nat) (c:V) (cs:List V):aP (xS kk).P 3 (c::cs)=some c:=by kernel_rfl
theorem ae2 (kk:Nat):aM (xS kk).P 3=1:=by kernel_rfl
theorem ae9 (kk:Nat) (c:V) (cs:List V):aP (xS kk).P 4 (c::cs)=some c:=by kernel_rfl
theorem afb (kk:Nat):aM (xS kk).P 4=1:=by kernel_rfl
theorem acd (kk:Nat) (c0 c1 c2 c3:V) (cs:List V):aP (xS kk).P 23 (c0::c1::c2::c3::cs)=some (.agg [c0,c1,c2,c3]):=by kernel_rfl
theorem adv (kk:Nat):aM (xS kk).P 23=4:=by kernel_rfl
theorem adk (kk:Nat) (c:V) (cs:List V):aP (xS kk).P 24 (c::cs)=some c:=by kernel_rfl
theorem ace (kk:Nat):aM (xS kk).P 24=1:=by kernel_rfl
theorem aaf (kk:Nat) (c:V) (cs:List V):aP (xS kk).P 26 (c::cs)=some c:=by kernel_rfl
theorem aaB (kk:Nat):aM (xS kk).P 26=1:=by kernel_rfl
theorem ady (kk:Nat) (c:V) (cs:List V):aP (xS kk).P 27 (c::cs)=some c:=by kernel_rfl
theorem abV (kk:Nat):aM (xS kk).P 27=1:=by kernel_rfl
theorem adm (kk:Nat) (c:V) (cs:List V):aP (xS kk).P 28 (c::cs)=some c:=by kernel_rfl
theorem aa0 (kk:Nat):aM (xS kk).P 28=1:=by kernel_rfl
theorem abA (kk:Nat) (c0 c1 c2 c3 c4 c5 c6 c7:V) (cs:List V):aP (xS kk).P 30 (c0::c1::c2::c3::c4::c5::c6::c7::cs)=some (.agg [c0,c1,c2,c3,c4,c5,c6,c7]):=by kernel_rfl
theorem abs (kk:Nat):aM (xS kk).P 30=8:=by kernel_rfl
theorem adL (kk:Nat) (c:V) (cs:List V):aP (xS kk).P 32 (c::cs)=some c:=by kernel_rfl
theorem Z5 (kk:Nat):aM (xS kk).P 32=1:=by kernel_rfl
theorem ab3 (kk:Nat) (c:V) (cs:List V):aP (xS kk).P 34 (c::cs)=some c:=by kernel_rfl
theorem aaL (kk:Nat):aM (xS kk).P 34=1:=by kernel_rfl
theorem abx (kk:Nat) (c:V) (cs:List V):aP (xS kk).P 46 (c::cs)=some c:=by kernel_rfl
theorem abK (kk:Nat):aM (xS kk).P 46=1:=by kernel_rfl
theorem adO (kk:Nat) (c0 c1 c2:V) (cs:List V):aP (xS kk).P 48 (c0::c1::c2::cs)=some (.agg [c0,c1,c2]):=by kernel_rfl
theorem Z6 (kk:Nat):aM (xS kk).P 48=3:=by kernel_rfl
theorem aba (kk:Nat) (c0 c1 c2:V) (cs:List V):aP (xS kk).P 52 (c0::c1::c2::cs)=some (.agg [c0,c1,c2]):=by kernel_rfl
theorem Z2 (kk:Nat):aM (xS kk).P 52=3:=by kernel_rfl
theorem aap (kk:Nat) (c:V) (cs:List V):aP (xS kk).P 53 (c::cs)=some c:=by kernel_rfl
theorem aad (kk:Nat):aM (xS kk).P 53=1:=by kernel_rfl
theorem adE (kk:Nat) (c0 c1 c2 c3 c4 c5 c6:V) (cs:List V):aP (xS kk).P 55 (c0::c1::c2::c3::c4::c5::c6::cs)=some (.agg [c0,c1,c2,c3,c4,c5,c6]):=by kernel_rfl
theorem adq (kk:Nat):aM (xS kk).P 55=7:=by kernel_rfl
theorem adN (kk:Nat) (c0 c1 c2 c3 c4 c5 c6 c7 c8:V) (cs:List V):aP (xS kk).P 57 (c0::c1::c2::c3::c4::c5::c6::c7::c8::cs)=some (.agg [c0,c1,c2,c3,c4,c5,c6,c7,c8]):=by kernel_rfl
theorem acY (kk:Nat):aM (xS kk).P 57=9:=by kernel_rfl
theorem aaT (kk:Nat) (c:V) (cs:List V):aP (xS kk).P 63 (c::cs)=some c:=by kernel_rfl
theorem abY (kk:Nat):aM (xS kk).P 63=1:=by kernel_rfl
theorem adp (kk:Nat) (c0 c1 c2 c3 c4 c5 c6 c7 c8 c9 c10:V) (cs:List V):aP (xS kk).P 65 (c0::c1::c2::c3::c4::c5::c6::c7::c8::c9::c10::cs)=some (.agg [c0,c1,c2,c3,c4,c5,c6,c7,c8,c9,c10]):=by kernel_rfl
theorem acV (kk:Nat):aM (xS kk).P 65=11:=by kernel_rfl
theorem ac9 (kk:Nat) (c:V) (cs:List V):aP (xS kk).P 86 (c::cs)=some c:=by kernel_rfl
theorem abq (kk:Nat):aM (xS kk).P 86=1:=by kernel_rfl
theorem Va (kk:Nat) (c0 c1:V) (cs:List V):aP (xS kk).P 101 (c0::c1::cs)=some (.agg [c0,c1]):=by kernel_rfl
theorem WD (kk:Nat):aM (xS kk).P 101=2:=by kernel_rfl
theorem Vz (kk:Nat) (c:V) (cs:List V):aP (xS kk).P 116 (c::cs)=some c:=by kernel_rfl
theorem Xo (kk:Nat):aM (xS kk).P 116=1:=by kernel_rfl
theorem UK (kk:Nat) (c0 c1 c2:V) (cs:List V):aP (xS kk).P 129 (c0::c1::c2::cs)=some (.agg [c0,c1,c2]):=by kernel_rfl
theorem Y3 (kk:Nat):aM (xS kk).P 129=3:=by kernel_rfl
theorem UE (kk:Nat) (c:V) (cs:List V):aP (xS kk).P 150 (c::cs)=some c:=by kernel_rfl
theorem V9 (kk:Nat):aM (xS kk).P 150=1:=by kernel_rfl
theorem Vq (kk:Nat) (c0 c1 c2 c3 c4 c5 c6 c7 c8 c9 c10 c11 c12 c13 c14 c15:V) (cs:List V):aP (xS kk).P 169 (c0::c1::c2::c3::c4::c5::c6::c7::c8::c9::c10::c11::c12::c13::c14::c15::cs)=some (.agg [c0,c1,c2,c3,c4,c5,c6,c7,c8,c9,c10,c11,c12,c13,c14,c15]):=by kernel_rfl
theorem XI (kk:Nat):aM (xS kk).P 169=16:=by kernel_rfl
theorem V1 (kk:Nat) (c:V) (cs:List V):aP (xS kk).P 170 (c::cs)=some c:=by kernel_rfl
theorem Vg (kk:Nat):aM (xS kk).P 170=1:=by kernel_rfl
theorem YY (kk:Nat) (c0 c1 c2 c3 c4 c5:V) (cs:List V):aP (xS kk).P 175 (c0::c1::c2::c3::c4::c5::cs)=some (.agg [c0,c1,c2,c3,c4,c5]):=by kernel_rfl
theorem WA (kk:Nat):aM (xS kk).P 175=6:=by kernel_rfl
theorem YB (kk:Nat) (c0 c1:V) (cs:List V):aP (xS kk).P 194 (c0::c1::cs)=some (.agg [c0,c1]):=by kernel_rfl
theorem Vb (kk:Nat):aM (xS kk).P 194=2:=by kernel_rfl
theorem Xt (kk:Nat) (c:V) (cs:List V):aP (xS kk).P 206 (c::cs)=some c:=by kernel_rfl
theorem Wu (kk:Nat):aM (xS kk).P 206=1:=by kernel_rfl
theorem Xj (kk:Nat) (c:V) (cs:List V):aP (xS kk).P 223 (c::cs)=some c:=by kernel_rfl
theorem Xy (kk:Nat):aM (xS kk).P 223=1:=by kernel_rfl
theorem YS (kk:Nat) (c0 c1 c2 c3:V) (cs:List V):aP (xS kk).P 236 (c0::c1::c2::c3::cs)=some (.agg [c0,c1,c2,c3]):=by kernel_rfl
theorem VP (kk:Nat):aM (xS kk).P 236=4:=by kernel_rfl
theorem afg (kk:Nat) (H:Hp):ar (xS kk).P 1 H=some (.ptr (bx [(V.lit Value.nilFunc)] H).2.length 0 0 0,(bx [(V.lit Value.nilFunc)] H).2++[.box (bx [(V.lit Value.nilFunc)] H).1]):=by kernel_rfl
theorem aeM (kk:Nat) (H:Hp):ar (xS kk).P 3 H=some (.ptr (bx [(V.lit (Value.int .i64 (0)))] H).2.length 0 0 0,(bx [(V.lit (Value.int .i64 (0)))] H).2++[.box (bx [(V.lit (Value.int .i64 (0)))] H).1]):=by kernel_rfl
theorem aeE (kk:Nat) (H:Hp):ar (xS kk).P 4 H=some (.ptr (bx [(V.lit (Value.bool false))] H).2.length 0 0 0,(bx [(V.lit (Value.bool false))] H).2++[.box (bx [(V.lit (Value.bool false))] H).1]):=by kernel_rfl
theorem acq (kk:Nat) (H:Hp):ar (xS kk).P 26 H=some (.ptr (bx [V.nil] H).2.length 0 0 0,(bx [V.nil] H).2++[.box (bx [V.nil] H).1]):=by kernel_rfl
theorem act (kk:Nat) (H:Hp):ar (xS kk).P 30 H=some (.ptr (bx [(V.lit (Value.int .i64 (0))),(V.lit (Value.int .i64 (0))),(V.lit (Value.int .i64 (0))),(V.lit (Value.int .i64 (0))),V.nil,V.nil,V.nil,V.nil] H).2.length 0 0 0,(bx [(V.lit (Value.int .i64 (0))),(V.lit (Value.int .i64 (0))),(V.lit (Value.int .i64 (0))),(V.lit (Value.int .i64 (0))),V.nil,V.nil,V.nil,V.nil] H).2++[.box (bx [(V.lit (Value.int .i64 (0))),(V.lit (Value.int .i64 (0))),(V.lit (Value.int .i64 (0))),(V.lit (Value.int .i64 (0))),V.nil,V.nil,V.nil,V.nil] H).1]):=by kernel_rfl
theorem ac1 (kk:Nat) (H:Hp):ar (xS kk).P 32 H=some (.ptr (bx [(V.lit Value.nilFunc)] H).2.length 0 0 0,(bx [(V.lit Value.nilFunc)] H).2++[.box (bx [(V.lit Value.nilFunc)] H).1]):=by kernel_rfl
theorem acD (kk:Nat) (H:Hp):ar (xS kk).P 34 H=some (.ptr (bx [V.nil] H).2.length 0 0 0,(bx [V.nil] H).2++[.box (bx [V.nil] H).1]):=by kernel_rfl
theorem abt (kk:Nat) (H:Hp):ar (xS kk).P 48 H=some (.ptr (bx [(V.lit (Value.int .i64 (0))),(V.lit (Value.int .i64 (0))),(V.lit (Value.int .u64 (0)))] H).2.length 0 0 0,(bx [(V.lit (Value.int .i64 (0))),(V.lit (Value.int .i64 (0))),(V.lit (Value.int .u64 (0)))] H).2++[.box (bx [(V.lit (Value.int .i64 (0))),(V.lit (Value.int .i64 (0))),(V.lit (Value.int .u64 (0)))] H).1]):=by kernel_rfl
theorem Z7 (kk:Nat) (H:Hp):ar (xS kk).P 55 H=some (.ptr (bx [(V.lit (Value.int .i64 (0))),(V.lit (Value.int .i64 (0))),(V.lit (Value.int .i64 (0))),(V.lit (Value.int .u64 (0))),(V.lit (Value.int .u64 (0))),(V.lit (Value.int .u64 (0))),(V.lit (Value.int .i64 (0)))] H).2.length 0 0 0,(bx [(V.lit (Value.int .i64 (0))),(V.lit (Value.int .i64 (0))),(V.lit (Value.int .i64 (0))),(V.lit (Value.int .u64 (0))),(V.lit (Value.int .u64 (0))),(V.lit (Value.int .u64 (0))),(V.lit (Value.int .i64 (0)))] H).2++[.box (bx [(V.lit (Value.int .i64 (0))),(V.lit (Value.int .i64 (0))),(V.lit (Value.int .i64 (0))),(V.lit (Value.int .u64 (0))),(V.lit (Value.int .u64 (0))),(V.lit (Value.int .u64 (0))),(V.lit (Value.int .i64 (0)))] H).1]):=by kernel_rfl
theorem acQ (kk:Nat) (H:Hp):ar (xS kk).P 57 H=some (.ptr (bx [(V.lit (Value.int .i64 (0))),V.nil,(V.lit (Value.int .i64 (0))),(V.lit (Value.int .i64 (0))),(V.lit (Value.int .i64 (0))),(V.lit (Value.int .u64 (0))),(V.lit (Value.int .u64 (0))),(V.lit (Value.int .u64 (0))),(V.lit (Value.int .i64 (0)))] H).2.length 0 0 0,(bx [(V.lit (Value.int .i64 (0))),V.nil,(V.lit (Value.int .i64 (0))),(V.lit (Value.int .i64 (0))),(V.lit (Value.int .i64 (0))),(V.lit (Value.int .u64 (0))),(V.lit (Value.int .u64 (0))),(V.lit (Value.int .u64 (0))),(V.lit (Value.int .i64 (0)))] H).2++[.box (bx [(V.lit (Value.int .i64 (0))),V.nil,(V.lit (Value.int .i64 (0))),(V.lit (Value.int .i64 (0))),(V.lit (Value.int .i64 (0))),(V.lit (Value.int .u64 (0))),(V.lit (Value.int .u64 (0))),(V.lit (Value.int .u64 (0))),(V.lit (Value.int .i64 (0)))] H).1]):=by kernel_rfl
theorem Z4 (kk:Nat) (H:Hp):ar (xS kk).P 65 H=some (.ptr (bx [(V.lit (Value.int .i64 (0))),V.nil,(V.lit (Value.int .i64 (0))),(V.lit (Value.int .i64 (0))),(V.lit (Value.int .i64 (0))),(V.lit (Value.int .u64 (0))),(V.lit (Value.int .u64 (0))),(V.lit (Value.int .u64 (0))),(V.lit (Value.int .i64 (0))),(V.lit (Value.int .i64 (0))),(V.lit (Value.int .i64 (0)))] H).2.length 0 0 0,(bx [(V.lit (Value.int .i64 (0))),V.nil,(V.lit (Value.int .i64 (0))),(V.lit (Value.int .i64 (0))),(V.lit (Value.int .i64 (0))),(V.lit (Value.int .u64 (0))),(V.lit (Value.int .u64 (0))),(V.lit (Value.int .u64 (0))),(V.lit (Value.int .i64 (0))),(V.lit (Value.int .i64 (0))),(V.lit (Value.int .i64 (0)))] H).2++[.box (bx [(V.lit (Value.int .i64 (0))),V.nil,(V.lit (Value.int .i64 (0))),(V.lit (Value.int .i64 (0))),(V.lit (Value.int .i64 (0))),(V.lit (Value.int .u64 (0))),(V.lit (Value.int .u64 (0))),(V.lit (Value.int .u64 (0))),(V.lit (Value.int .i64 (0))),(V.lit (Value.int .i64 (0))),(V.lit (Value.int .i64 (0)))] H).1]):=by kernel_rfl
theorem Yh (kk:Nat) (H:Hp):ar (xS kk).P 101 H=some (.ptr (bx [(V.lit (Value.int .i64 (0))),V.nil] H).2.length 0 0 0,(bx [(V.lit (Value.int .i64 (0))),V.nil] H).2++[.box (bx [(V.lit (Value.int .i64 (0))),V.nil] H).1]):=by kernel_rfl
theorem Y4 (kk:Nat) (H:Hp):ar (xS kk).P 129 H=some (.ptr (bx [(V.lit (Value.int .i64 (0))),(V.lit (Value.int .i64 (0))),(V.lit (Value.int .i64 (0)))] H).2.length 0 0 0,(bx [(V.lit (Value.int .i64 (0))),(V.lit (Value.int .i64 (0))),(V.lit (Value.int .i64 (0)))] H).2++[.box (bx [(V.lit (Value.int .i64 (0))),(V.lit (Value.int .i64 (0))),(V.lit (Value.int .i64 (0)))] H).1]):=by kernel_rfl
theorem Xw (kk:Nat) (H:Hp):ar (xS kk).P 150 H=some (.ptr (bx [V.nil] H).2.length 0 0 0,(bx [V.nil] H).2++[.box (bx [V.nil] H).1]):=by kernel_rfl
theorem XJ (kk:Nat) (H:Hp):ar (xS kk).P 169 H=some (.ptr (bx [(V.lit Value.nilFunc),(V.lit Value.nilFunc),(V.lit Value.nilFunc),(V.lit Value.nilFunc),(V.lit Value.nilFunc),(V.lit Value.nilFunc),(V.lit Value.nilFunc),(V.lit Value.nilFunc),(V.lit Value.nilFunc),(V.lit Value.nilFunc),(V.lit Value.nilFunc),(V.lit Value.nilFunc),(V.lit Value.nilFunc),(V.lit Value.nilFunc),(V.lit Value.nilFunc),(V.lit Value.nilFunc)] H).2.length 0 0 0,(bx [(V.lit Value.nilFunc),(V.lit Value.nilFunc),(V.lit Value.nilFunc),(V.lit Value.nilFunc),(V.lit Value.nilFunc),(V.lit Value.nilFunc),(V.lit Value.nilFunc),(V.lit Value.nilFunc),(V.lit Value.nilFunc),(V.lit Value.nilFunc),(V.lit Value.nilFunc),(V.lit Value.nilFunc),(V.lit Value.nilFunc),(V.lit Value.nilFunc),(V.lit Value.nilFunc),(V.lit Value.nilFunc)] H).2++[.box (bx [(V.lit Value.nilFunc),(V.lit Value.nilFunc),(V.lit Value.nilFunc),(V.lit Value.nilFunc),(V.lit Value.nilFunc),(V.lit Value.nilFunc),(V.lit Value.nilFunc),(V.lit Value.nilFunc),(V.lit Value.nilFunc),(V.lit Value.nilFunc),(V.lit Value.nilFunc),(V.lit Value.nilFunc),(V.lit Value.nilFunc),(V.lit Value.nilFunc),(V.lit Value.nilFunc),(V.lit Value.nilFunc)] H).1]):=by kernel_rfl
theorem Wn (kk:Nat) (H:Hp):ar (xS kk).P 170 H=some (.ptr (bx [(V.lit Value.nilFunc)] H).2.length 0 0 0,(bx [(V.lit Value.nilFunc)] H).2++[.box (bx [(V.lit Value.nilFunc)] H).1]):=by kernel_rfl
theorem WZ (kk:Nat) (H:Hp):ar (xS kk).P 175 H=some (.ptr (bx [(V.lit Value.nilFunc),(V.lit Value.nilFunc),(V.lit Value.nilFunc),(V.lit Value.nilFunc),(V.lit Value.nilFunc),(V.lit Value.nilFunc)] H).2.length 0 0 0,(bx [(V.lit Value.nilFunc),(V.lit Value.nilFunc),(V.lit Value.nilFunc),(V.lit Value.nilFunc),(V.lit Value.nilFunc),(V.lit Value.nilFunc)] H).2++[.box (bx [(V.lit Value.nilFunc),(V.lit Value.nilFunc),(V.lit Value.nilFunc),(V.lit Value.nilFunc),(V.lit Value.nilFunc),(V.lit Value.nilFunc)] H).1]):=by kernel_rfl
theorem V0 (kk:Nat) (H:Hp):ar (xS kk).P 194 H=some (.ptr (bx [(V.lit (Value.int .i64 (0))),(V.lit (Value.int .i64 (0)))] H).2.length 0 0 0,(bx [(V.lit (Value.int .i64 (0))),(V.lit (Value.int .i64 (0)))] H).2++[.box (bx [(V.lit (Value.int .i64 (0))),(V.lit (Value.int .i64 (0)))] H).1]):=by kernel_rfl
theorem Xq (kk:Nat) (H:Hp):ar (xS kk).P 223 H=some (.ptr (bx [V.nil] H).2.length 0 0 0,(bx [V.nil] H).2++[.box (bx [V.nil] H).1]):=by kernel_rfl
theorem YL (kk:Nat) (H:Hp):ar (xS kk).P 236 H=some (.ptr (bx [(V.lit Value.nilFunc),(V.lit Value.nilFunc),(V.lit Value.nilFunc),(V.lit Value.nilFunc)] H).2.length 0 0 0,(bx [(V.lit Value.nilFunc),(V.lit Value.nilFunc),(V.lit Value.nilFunc),(V.lit Value.nilFunc)] H).2++[.box (bx [(V.lit Value.nilFunc),(V.lit Value.nilFunc),(V.lit Value.nilFunc),(V.lit Value.nilFunc)] H).1]):=by kernel_rfl
theorem Sd (kk:Nat) (cs:List V):aa (xS kk).P 23 (.rp cs) 0=some (.rp (cs.drop 0)):=by kernel_rfl
theorem Sx (kk:Nat) (id g row off:Nat):aa (xS kk).P 23 (.ptr id g row off) 0=some (.ptr id g row (off+0)):=by kernel_rfl
theorem Uc (kk:Nat) (cs:List V):aa (xS kk).P 23 (.rp cs) 1=some (.rp (cs.drop 1)):=by kernel_rfl
theorem Ug (kk:Nat) (id g row off:Nat):aa (xS kk).P 23 (.ptr id g row off) 1=some (.ptr id g row (off+1)):=by kernel_rfl
theorem RJ (kk:Nat) (cs:List V):aa (xS kk).P 23 (.rp cs) 2=some (.rp (cs.drop 2)):=by kernel_rfl
theorem QO (kk:Nat) (id g row off:Nat):aa (xS kk).P 23 (.ptr id g row off) 2=some (.ptr id g row (off+2)):=by kernel_rfl
theorem Ra (kk:Nat) (cs:List V):aa (xS kk).P 23 (.rp cs) 3=some (.rp (cs.drop 3)):=by kernel_rfl
theorem T4 (kk:Nat) (id g row off:Nat):aa (xS kk).P 23 (.ptr id g row off) 3=some (.ptr id g row (off+3)):=by kernel_rfl
theorem QX (kk:Nat) (cs:List V):aa (xS kk).P 30 (.rp cs) 0=some (.rp (cs.drop 0)):=by kernel_rfl
theorem Tf (kk:Nat) (id g row off:Nat):aa (xS kk).P 30 (.ptr id g row off) 0=some (.ptr id g row (off+0)):=by kernel_rfl
theorem TF (kk:Nat) (cs:List V):aa (xS kk).P 30 (.rp cs) 1=some (.rp (cs.drop 4)):=by kernel_rfl
theorem Tw (kk:Nat) (id g row off:Nat):aa (xS kk).P 30 (.ptr id g row off) 1=some (.ptr id g row (off+4)):=by kernel_rfl
theorem T6 (kk:Nat) (cs:List V):aa (xS kk).P 30 (.rp cs) 2=some (.rp (cs.drop 5)):=by kernel_rfl
theorem RN (kk:Nat) (id g row off:Nat):aa (xS kk).P 30 (.ptr id g row off) 2=some (.ptr id g row (off+5)):=by kernel_rfl
theorem To (kk:Nat) (cs:List V):aa (xS kk).P 30 (.rp cs) 3=some (.rp (cs.drop 6)):=by kernel_rfl
theorem Uf (kk:Nat) (id g row off:Nat):aa (xS kk).P 30 (.ptr id g row off) 3=some (.ptr id g row (off+6)):=by kernel_rfl
theorem Rm (kk:Nat) (cs:List V):aa (xS kk).P 30 (.rp cs) 4=some (.rp (cs.drop 7)):=by kernel_rfl
theorem Qk (kk:Nat) (id g row off:Nat):aa (xS kk).P 30 (.ptr id g row off) 4=some (.ptr id g row (off+7)):=by kernel_rfl
theorem Q6 (kk:Nat) (cs:List V):aa (xS kk).P 48 (.rp cs) 0=some (.rp (cs.drop 0)):=by kernel_rfl
theorem Rd (kk:Nat) (id g row off:Nat):aa (xS kk).P 48 (.ptr id g row off) 0=some (.ptr id g row (off+0)):=by kernel_rfl
theorem RC (kk:Nat) (cs:List V):aa (xS kk).P 48 (.rp cs) 1=some (.rp (cs.drop 1)):=by kernel_rfl
theorem Qm (kk:Nat) (id g row off:Nat):aa (xS kk).P 48 (.ptr id g row off) 1=some (.ptr id g row (off+1)):=by kernel_rfl
theorem P2 (kk:Nat) (cs:List V):aa (xS kk).P 48 (.rp cs) 2=some (.rp (cs.drop 2)):=by kernel_rfl
theorem SE (kk:Nat) (id g row off:Nat):aa (xS kk).P 48 (.ptr id g row off) 2=some (.ptr id g row (off+2)):=by kernel_rfl
theorem Q7 (kk:Nat) (cs:List V):aa (xS kk).P 52 (.rp cs) 0=some (.rp (cs.drop 0)):=by kernel_rfl
theorem TE (kk:Nat) (id g row off:Nat):aa (xS kk).P 52 (.ptr id g row off) 0=some (.ptr id g row (off+0)):=by kernel_rfl
theorem Tc (kk:Nat) (cs:List V):aa (xS kk).P 55 (.rp cs) 0=some (.rp (cs.drop 0)):=by kernel_rfl
theorem Qq (kk:Nat) (id g row off:Nat):aa (xS kk).P 55 (.ptr id g row off) 0=some (.ptr id g row (off+0)):=by kernel_rfl
theorem QK (kk:Nat) (cs:List V):aa (xS kk).P 55 (.rp cs) 1=some (.rp (cs.drop 1)):=by kernel_rfl
theorem TG (kk:Nat) (id g row off:Nat):aa (xS kk).P 55 (.ptr id g row off) 1=some (.ptr id g row (off+1)):=by kernel_rfl
theorem QI (kk:Nat) (cs:List V):aa (xS kk).P 55 (.rp cs) 2=some (.rp (cs.drop 2)):=by kernel_rfl
theorem RU (kk:Nat) (id g row off:Nat):aa (xS kk).P 55 (.ptr id g row off) 2=some (.ptr id g row (off+2)):=by kernel_rfl
theorem Qr (kk:Nat) (cs:List V):aa (xS kk).P 55 (.rp cs) 3=some (.rp (cs.drop 3)):=by kernel_rfl
theorem Rn (kk:Nat) (id g row off:Nat):aa (xS kk).P 55 (.ptr id g row off) 3=some (.ptr id g row (off+3)):=by kernel_rfl
theorem Sl (kk:Nat) (cs:List V):aa (xS kk).P 55 (.rp cs) 4=some (.rp (cs.drop 4)):=by kernel_rfl
theorem Qt (kk:Nat) (id g row off:Nat):aa (xS kk).P 55 (.ptr id g row off) 4=some (.ptr id g row (off+4)):=by kernel_rfl
theorem SZ (kk:Nat) (cs:List V):aa (xS kk).P 55 (.rp cs) 5=some (.rp (cs.drop 5)):=by kernel_rfl
theorem Ri (kk:Nat) (id g row off:Nat):aa (xS kk).P 55 (.ptr id g row off) 5=some (.ptr id g row (off+5)):=by kernel_rfl
theorem RY (kk:Nat) (cs:List V):aa (xS kk).P 55 (.rp cs) 6=some (.rp (cs.drop 6)):=by kernel_rfl
theorem TT (kk:Nat) (id g row off:Nat):aa (xS kk).P 55 (.ptr id g row off) 6=some (.ptr id g row (off+6)):=by kernel_rfl
theorem PV (kk:Nat) (cs:List V):aa (xS kk).P 57 (.rp cs) 0=some (.rp (cs.drop 0)):=by kernel_rfl
theorem QF (kk:Nat) (id g row off:Nat):aa (xS kk).P 57 (.ptr id g row off) 0=some (.ptr id g row (off+0)):=by kernel_rfl
theorem S3 (kk:Nat) (cs:List V):aa (xS kk).P 57 (.rp cs) 1=some (.rp (cs.drop 1)):=by kernel_rfl
theorem S5 (kk:Nat) (id g row off:Nat):aa (xS kk).P 57 (.ptr id g row off) 1=some (.ptr id g row (off+1)):=by kernel_rfl
theorem TX (kk:Nat) (cs:List V):aa (xS kk).P 57 (.rp cs) 2=some (.rp (cs.drop 2)):=by kernel_rfl
theorem SH (kk:Nat) (id g row off:Nat):aa (xS kk).P 57 (.ptr id g row off) 2=some (.ptr id g row (off+2)):=by kernel_rfl
theorem Tj (kk:Nat) (cs:List V):aa (xS kk).P 65 (.rp cs) 0=some (.rp (cs.drop 0)):=by kernel_rfl
theorem RR (kk:Nat) (id g row off:Nat):aa (xS kk).P 65 (.ptr id g row off) 0=some (.ptr id g row (off+0)):=by kernel_rfl
theorem SG (kk:Nat) (cs:List V):aa (xS kk).P 65 (.rp cs) 1=some (.rp (cs.drop 1)):=by kernel_rfl
theorem SS (kk:Nat) (id g row off:Nat):aa (xS kk).P 65 (.ptr id g row off) 1=some (.ptr id g row (off+1)):=by kernel_rfl
theorem RX (kk:Nat) (cs:List V):aa (xS kk).P 65 (.rp cs) 2=some (.rp (cs.drop 2)):=by kernel_rfl
theorem Ty (kk:Nat) (id g row off:Nat):aa (xS kk).P 65 (.ptr id g row off) 2=some (.ptr id g row (off+2)):=by kernel_rfl
theorem RS (kk:Nat) (cs:List V):aa (xS kk).P 65 (.rp cs) 3=some (.rp (cs.drop 9)):=by kernel_rfl
theorem SJ (kk:Nat) (id g row off:Nat):aa (xS kk).P 65 (.ptr id g row off) 3=some (.ptr id g row (off+9)):=by kernel_rfl
theorem QJ (kk:Nat) (cs:List V):aa (xS kk).P 65 (.rp cs) 4=some (.rp (cs.drop 10)):=by kernel_rfl
theorem TW (kk:Nat) (id g row off:Nat):aa (xS kk).P 65 (.ptr id g row off) 4=some (.ptr id g row (off+10)):=by kernel_rfl
theorem Nm (kk:Nat) (cs:List V):aa (xS kk).P 101 (.rp cs) 0=some (.rp (cs.drop 0)):=by kernel_rfl
theorem Kp (kk:Nat) (id g row off:Nat):aa (xS kk).P 101 (.ptr id g row off) 0=some (.ptr id g row (off+0)):=by kernel_rfl
theorem N5 (kk:Nat) (cs:List V):aa (xS kk).P 101 (.rp cs) 1=some (.rp (cs.drop 1)):=by kernel_rfl
theorem M6 (kk:Nat) (id g row off:Nat):aa (xS kk).P 101 (.ptr id g row off) 1=some (.ptr id g row (off+1)):=by kernel_rfl
theorem KB (kk:Nat) (cs:List V):aa (xS kk).P 129 (.rp cs) 0=some (.rp (cs.drop 0)):=by kernel_rfl
theorem Mq (kk:Nat) (id g row off:Nat):aa (xS kk).P 129 (.ptr id g row off) 0=some (.ptr id g row (off+0)):=by kernel_rfl
theorem Lj (kk:Nat) (cs:List V):aa (xS kk).P 129 (.rp cs) 1=some (.rp (cs.drop 1)):=by kernel_rfl
theorem N0 (kk:Nat) (id g row off:Nat):aa (xS kk).P 129 (.ptr id g row off) 1=some (.ptr id g row (off+1)):=by kernel_rfl
theorem Ng (kk:Nat) (cs:List V):aa (xS kk).P 129 (.rp cs) 2=some (.rp (cs.drop 2)):=by kernel_rfl
theorem NF (kk:Nat) (id g row off:Nat):aa (xS kk).P 129 (.ptr id g row off) 2=some (.ptr id g row (off+2)):=by kernel_rfl
theorem NA (kk:Nat) (cs:List V):aa (xS kk).P 168 (.rp cs) 0=some (.rp (cs.drop 0)):=by kernel_rfl
theorem LD (kk:Nat) (id g row off:Nat):aa (xS kk).P 168 (.ptr id g row off) 0=some (.ptr id g row (off+0)):=by kernel_rfl
theorem LC (kk:Nat) (cs:List V):aa (xS kk).P 168 (.rp cs) 1=some (.rp (cs.drop 11)):=by kernel_rfl
theorem MB (kk:Nat) (id g row off:Nat):aa (xS kk).P 168 (.ptr id g row off) 1=some (.ptr id g row (off+11)):=by kernel_rfl
theorem LF (kk:Nat) (cs:List V):aa (xS kk).P 168 (.rp cs) 2=some (.rp (cs.drop 15)):=by kernel_rfl
theorem MM (kk:Nat) (id g row off:Nat):aa (xS kk).P 168 (.ptr id g row off) 2=some (.ptr id g row (off+15)):=by kernel_rfl
theorem Lu (kk:Nat) (cs:List V):aa (xS kk).P 168 (.rp cs) 3=some (.rp (cs.drop 16)):=by kernel_rfl
theorem Ne (kk:Nat) (id g row off:Nat):aa (xS kk).P 168 (.ptr id g row off) 3=some (.ptr id g row (off+16)):=by kernel_rfl
theorem MR (kk:Nat) (cs:List V):aa (xS kk).P 168 (.rp cs) 4=some (.rp (cs.drop 17)):=by kernel_rfl
theorem MG (kk:Nat) (id g row off:Nat):aa (xS kk).P 168 (.ptr id g row off) 4=some (.ptr id g row (off+17)):=by kernel_rfl
theorem N4 (kk:Nat) (cs:List V):aa (xS kk).P 168 (.rp cs) 5=some (.rp (cs.drop 18)):=by kernel_rfl
theorem MH (kk:Nat) (id g row off:Nat):aa (xS kk).P 168 (.ptr id g row off) 5=some (.ptr id g row (off+18)):=by kernel_rfl
theorem L3 (kk:Nat) (cs:List V):aa (xS kk).P 168 (.rp cs) 6=some (.rp (cs.drop 19)):=by kernel_rfl
theorem Mw (kk:Nat) (id g row off:Nat):aa (xS kk).P 168 (.ptr id g row off) 6=some (.ptr id g row (off+19)):=by kernel_rfl
theorem K9 (kk:Nat) (cs:List V):aa (xS kk).P 194 (.rp cs) 0=some (.rp (cs.drop 0)):=by kernel_rfl
theorem Ms (kk:Nat) (id g row off:Nat):aa (xS kk).P 194 (.ptr id g row off) 0=some (.ptr id g row (off+0)):=by kernel_rfl
theorem Lf (kk:Nat) (cs:List V):aa (xS kk).P 194 (.rp cs) 1=some (.rp (cs.drop 1)):=by kernel_rfl
theorem Nh (kk:Nat) (id g row off:Nat):aa (xS kk).P 194 (.ptr id g row off) 1=some (.ptr id g row (off+1)):=by kernel_rfl
theorem Ku (kk:Nat) (cs:List V):aa (xS kk).P 205 (.rp cs) 0=some (.rp (cs.drop 0)):=by kernel_rfl
theorem Kw (kk:Nat) (id g row off:Nat):aa (xS kk).P 205 (.ptr id g row off) 0=some (.ptr id g row (off+0)):=by kernel_rfl
theorem Ns (kk:Nat) (cs:List V):aa (xS kk).P 205 (.rp cs) 1=some (.rp (cs.drop 7)):=by kernel_rfl
theorem NP (kk:Nat) (id g row off:Nat):aa (xS kk).P 205 (.ptr id g row off) 1=some (.ptr id g row (off+7)):=by kernel_rfl
theorem L5 (kk:Nat) (cs:List V):aa (xS kk).P 205 (.rp cs) 2=some (.rp (cs.drop 11)):=by kernel_rfl
theorem NL (kk:Nat) (id g row off:Nat):aa (xS kk).P 205 (.ptr id g row off) 2=some (.ptr id g row (off+11)):=by kernel_rfl
theorem LQ (kk:Nat) (cs:List V):aa (xS kk).P 221 (.rp cs) 0=some (.rp (cs.drop 0)):=by kernel_rfl
theorem MP (kk:Nat) (id g row off:Nat):aa (xS kk).P 221 (.ptr id g row off) 0=some (.ptr id g row (off+0)):=by kernel_rfl
theorem Me (kk:Nat) (cs:List V):aa (xS kk).P 221 (.rp cs) 1=some (.rp (cs.drop 7)):=by kernel_rfl
theorem Mj (kk:Nat) (id g row off:Nat):aa (xS kk).P 221 (.ptr id g row off) 1=some (.ptr id g row (off+7)):=by kernel_rfl
theorem Ni (kk:Nat) (cs:List V):aa (xS kk).P 221 (.rp cs) 2=some (.rp (cs.drop 11)):=by kernel_rfl
theorem LN (kk:Nat) (id g row off:Nat):aa (xS kk).P 221 (.ptr id g row off) 2=some (.ptr id g row (off+11)):=by kernel_rfl
theorem Mu (kk:Nat) (cs:List V):aa (xS kk).P 235 (.rp cs) 0=some (.rp (cs.drop 0)):=by kernel_rfl
theorem My (kk:Nat) (id g row off:Nat):aa (xS kk).P 235 (.ptr id g row off) 0=some (.ptr id g row (off+0)):=by kernel_rfl
theorem Lb (kk:Nat) (cs:List V):aa (xS kk).P 235 (.rp cs) 1=some (.rp (cs.drop 7)):=by kernel_rfl
theorem LG (kk:Nat) (id g row off:Nat):aa (xS kk).P 235 (.ptr id g row off) 1=some (.ptr id g row (off+7)):=by kernel_rfl
theorem La (kk:Nat) (cs:List V):aa (xS kk).P 235 (.rp cs) 2=some (.rp (cs.drop 11)):=by kernel_rfl
theorem Kt (kk:Nat) (id g row off:Nat):aa (xS kk).P 235 (.ptr id g row off) 2=some (.ptr id g row (off+11)):=by kernel_rfl
theorem Kr (kk:Nat) (cs:List V):pW (xS kk).P 194 (.agg cs) 0=aP (xS kk).P 3 (cs.drop 0):=by kernel_rfl
theorem aaa (kk:Nat) (l:Tyt) (k:IntKind) (n:Int) (H:Hp):ai (xS kk).P 24 (.ro (l.map aA)) (.lit (.int k n)) H=(idx l n).map fun x => .rp (aA x):=bN (e:=101) (by kernel_rfl) (fun x=>(by kernel_rfl:(aA x).length=aM (xS kk).P 101)) (by kernel_rfl)
theorem adf (kk:Nat) (id g len:Nat) (k:IntKind) (n:Int) (H:Hp):ai (xS kk).P 24 (.own id g len) (.lit (.int k n)) H=ixB 2 g len id n (H[id]?):=bd (P:=(xS kk).P) (e:=101) (by kernel_rfl) (by kernel_rfl)
theorem aa7 (kk:Nat) (l:List Int) (k:IntKind) (n:Int) (H:Hp):ai (xS kk).P 26 (.ro (l.map (aQ .u64))) (.lit (.int k n)) H=(idx l n).map fun x => .rp ((aQ .u64) x):=bN (e:=46) (by kernel_rfl) (fun x=>(by kernel_rfl:((aQ .u64) x).length=aM (xS kk).P 46)) (by kernel_rfl)
theorem aae (kk:Nat) (id g len:Nat) (k:IntKind) (n:Int) (H:Hp):ai (xS kk).P 26 (.own id g len) (.lit (.int k n)) H=ixB 1 g len id n (H[id]?):=bd (P:=(xS kk).P) (e:=46) (by kernel_rfl) (by kernel_rfl)
theorem aac (kk:Nat) (l:List Tyw) (k:IntKind) (n:Int) (H:Hp):ai (xS kk).P 27 (.ro (l.map aY)) (.lit (.int k n)) H=(idx l n).map fun x => .rp (aY x):=bN (e:=65) (by kernel_rfl) (fun x=>(by kernel_rfl:(aY x).length=aM (xS kk).P 65)) (by kernel_rfl)
theorem abh (kk:Nat) (id g len:Nat) (k:IntKind) (n:Int) (H:Hp):ai (xS kk).P 27 (.own id g len) (.lit (.int k n)) H=ixB 11 g len id n (H[id]?):=bd (P:=(xS kk).P) (e:=65) (by kernel_rfl) (by kernel_rfl)
theorem acx (kk:Nat) (l:List Tys) (k:IntKind) (n:Int) (H:Hp):ai (xS kk).P 28 (.ro (l.map cG)) (.lit (.int k n)) H=(idx l n).map fun x => .rp (cG x):=bN (e:=57) (by kernel_rfl) (fun x=>(by kernel_rfl:(cG x).length=aM (xS kk).P 57)) (by kernel_rfl)
theorem acw (kk:Nat) (id g len:Nat) (k:IntKind) (n:Int) (H:Hp):ai (xS kk).P 28 (.own id g len) (.lit (.int k n)) H=ixB 9 g len id n (H[id]?):=bd (P:=(xS kk).P) (e:=57) (by kernel_rfl) (by kernel_rfl)
theorem ac2 (kk:Nat) (l:Tye) (k:IntKind) (n:Int) (H:Hp):ai (xS kk).P 31 (.ro (l.map eT)) (.lit (.int k n)) H=(idx l n).map fun x => .rp (eT x):=bN (e:=48) (by kernel_rfl) (fun x=>(by kernel_rfl:(eT x).length=aM (xS kk).P 48)) (by kernel_rfl)
theorem aaM (kk:Nat) (id g len:Nat) (k:IntKind) (n:Int) (H:Hp):ai (xS kk).P 31 (.own id g len) (.lit (.int k n)) H=ixB 3 g len id n (H[id]?):=bd (P:=(xS kk).P) (e:=48) (by kernel_rfl) (by kernel_rfl)
theorem ab5 (kk:Nat) (l:Tye) (k:IntKind) (n:Int) (H:Hp):ai (xS kk).P 34 (.ro (l.map aE)) (.lit (.int k n)) H=(idx l n).map fun x => .rp (aE x):=bN (e:=52) (by kernel_rfl) (fun x=>(by kernel_rfl:(aE x).length=aM (xS kk).P 52)) (by kernel_rfl)
theorem acJ (kk:Nat) (id g len:Nat) (k:IntKind) (n:Int) (H:Hp):ai (xS kk).P 34 (.own id g len) (.lit (.int k n)) H=ixB 3 g len id n (H[id]?):=bd (P:=(xS kk).P) (e:=52) (by kernel_rfl) (by kernel_rfl)
theorem aak (kk:Nat) (l:List (List Int)) (k:IntKind) (n:Int) (H:Hp):ai (xS kk).P 40 (.ro (l.map kD)) (.lit (.int k n)) H=(idx l n).map fun x => .rp (kD x):=bN (e:=53) (by kernel_rfl) (fun x=>(by kernel_rfl:(kD x).length=aM (xS kk).P 53)) (by kernel_rfl)
theorem abN (kk:Nat) (id g len:Nat) (k:IntKind) (n:Int) (H:Hp):ai (xS kk).P 40 (.own id g len) (.lit (.int k n)) H=ixB 1 g len id n (H[id]?):=bd (P:=(xS kk).P) (e:=53) (by kernel_rfl) (by kernel_rfl)
theorem aaS (kk:Nat) (l:List Int) (k:IntKind) (n:Int) (H:Hp):ai (xS kk).P 53 (.ro (l.map (aQ .i64))) (.lit (.int k n)) H=(idx l n).map fun x => .rp ((aQ .i64) x):=bN (e:=3) (by kernel_rfl) (fun x=>(by kernel_rfl:((aQ .i64) x).length=aM (xS kk).P 3)) (by kernel_rfl)
theorem aaQ (kk:Nat) (id g len:Nat) (k:IntKind) (n:Int) (H:Hp):ai (xS kk).P 53 (.own id g len) (.lit (.int k n)) H=ixB 1 g len id n (H[id]?):=bd (P:=(xS kk).P) (e:=3) (by kernel_rfl) (by kernel_rfl)
theorem ada (kk:Nat) (l:Tye) (k:IntKind) (n:Int) (H:Hp):ai (xS kk).P 63 (.ro (l.map aE)) (.lit (.int k n)) H=(idx l n).map fun x => .rp (aE x):=bN (e:=129) (by kernel_rfl) (fun x=>(by kernel_rfl:(aE x).length=aM (xS kk).P 129)) (by kernel_rfl)
theorem Z8 (kk:Nat) (id g len:Nat) (k:IntKind) (n:Int) (H:Hp):ai (xS kk).P 63 (.own id g len) (.lit (.int k n)) H=ixB 3 g len id n (H[id]?):=bd (P:=(xS kk).P) (e:=129) (by kernel_rfl) (by kernel_rfl)
theorem Vr (kk:Nat) (l:List Bool) (k:IntKind) (n:Int) (H:Hp):ai (xS kk).P 150 (.ro (l.map kS)) (.lit (.int k n)) H=(idx l n).map fun x => .rp (kS x):=bN (e:=4) (by kernel_rfl) (fun x=>(by kernel_rfl:(kS x).length=aM (xS kk).P 4)) (by kernel_rfl)
theorem Y6 (kk:Nat) (id g len:Nat) (k:IntKind) (n:Int) (H:Hp):ai (xS kk).P 150 (.own id g len) (.lit (.int k n)) H=ixB 1 g len id n (H[id]?):=bd (P:=(xS kk).P) (e:=4) (by kernel_rfl) (by kernel_rfl)
theorem Vj (kk:Nat) (id g len:Nat) (k:IntKind) (n:Int) (H:Hp):ai (xS kk).P 207 (.own id g len) (.lit (.int k n)) H=ixB 1 g len id n (H[id]?):=bd (P:=(xS kk).P) (e:=206) (by kernel_rfl) (by kernel_rfl)
theorem Wc (kk:Nat) (id g len:Nat) (k:IntKind) (n:Int) (H:Hp):ai (xS kk).P 223 (.own id g len) (.lit (.int k n)) H=ixB 1 g len id n (H[id]?):=bd (P:=(xS kk).P) (e:=116) (by kernel_rfl) (by kernel_rfl)
theorem Yv (kk:Nat) (id g len:Nat) (k:IntKind) (n:Int) (H:Hp):ai (xS kk).P 238 (.own id g len) (.lit (.int k n)) H=ixB 1 g len id n (H[id]?):=bd (P:=(xS kk).P) (e:=1) (by kernel_rfl) (by kernel_rfl)
theorem YM (kk:Nat) (x:V) (H:Hp):aX (xS kk).P 24 x H=(oH x H).map fun v=>(v,H):=by kernel_rfl
theorem XH (kk:Nat) (x:V) (H:Hp):aX (xS kk).P 25 x H=(oH x H).map fun v=>(v,H):=by kernel_rfl
theorem Xl (kk:Nat) (x:V) (H:Hp):aX (xS kk).P 26 x H=(oH x H).map fun v=>(v,H):=by kernel_rfl
theorem WK (kk:Nat) (x:V) (H:Hp):aX (xS kk).P 27 x H=(oH x H).map fun v=>(v,H):=by kernel_rfl
theorem V4 (kk:Nat) (x:V) (H:Hp):aX (xS kk).P 28 x H=(oH x H).map fun v=>(v,H):=by kernel_rfl
theorem WX (kk:Nat) (x:V) (H:Hp):aX (xS kk).P 31 x H=(oH x H).map fun v=>(v,H):=by kernel_rfl
theorem Xm (kk:Nat) (x:V) (H:Hp):aX (xS kk).P 34 x H=(oH x H).map fun v=>(v,H):=by kernel_rfl
theorem YU (kk:Nat) (x:V) (H:Hp):aX (xS kk).P 40 x H=(oH x H).map fun v=>(v,H):=by kernel_rfl
theorem Vk (kk:Nat) (x:V) (H:Hp):aX (xS kk).P 53 x H=(oH x H).map fun v=>(v,H):=by kernel_rfl
theorem UF (kk:Nat) (x:V) (H:Hp):aX (xS kk).P 63 x H=(oH x H).map fun v=>(v,H):=by kernel_rfl
theorem R7 (kk:Nat) (x:V) (H:Hp):aX (xS kk).P 207 x H=(oH x H).map fun v=>(v,H):=by kernel_rfl
theorem Rv (kk:Nat) (x:V) (H:Hp):aX (xS kk).P 238 x H=(oH x H).map fun v=>(v,H):=by kernel_rfl
theorem Mi (kk:Nat) (wl:Nat) (s x:V) (H:Hp):kf (xS kk).P wl 24 24 s x H=a9 (xS kk).P wl 24 s x H:=by kernel_rfl
theorem Mm (kk:Nat) (wl id g len:Nat) (x:V) (H:Hp):a9 (xS kk).P wl 24 (.own id g len) x H=(bE x H).bind fun xs=>bif bG 2 xs then apB wl 101 2 32 id g len xs H (H[id]?) else none:=(cV (P:=(xS kk).P) (t:=24) (e:=101) (by kernel_rfl) (by kernel_rfl)).trans (by kernel_rfl)
theorem Ky (kk:Nat) (wl:Nat) (x:V) (H:Hp):a9 (xS kk).P wl 24 .nil x H=(bE x H).bind fun xs=>bif bG 2 xs then bif decide (xs.length*32≤70368744177664) then some (.own H.length 0 xs.length,H++[.rows 2 xs 0 true]) else none else none:=(cW (P:=(xS kk).P) (t:=24) (e:=101) (by kernel_rfl) (by kernel_rfl)).trans (by kernel_rfl)
theorem NM (kk:Nat) (wl:Nat) (s x:V) (H:Hp):kf (xS kk).P wl 25 25 s x H=a9 (xS kk).P wl 25 s x H:=by kernel_rfl
theorem K1 (kk:Nat) (wl id g len:Nat) (x:V) (H:Hp):a9 (xS kk).P wl 25 (.own id g len) x H=(bE x H).bind fun xs=>bif bG 1 xs then apB wl 46 1 8 id g len xs H (H[id]?) else none:=(cV (P:=(xS kk).P) (t:=25) (e:=46) (by kernel_rfl) (by kernel_rfl)).trans (by kernel_rfl)
theorem NN (kk:Nat) (wl:Nat) (x:V) (H:Hp):a9 (xS kk).P wl 25 .nil x H=(bE x H).bind fun xs=>bif bG 1 xs then bif decide (xs.length*8≤70368744177664) then some (.own H.length 0 xs.length,H++[.rows 1 xs 0 true]) else none else none:=(cW (P:=(xS kk).P) (t:=25) (e:=46) (by kernel_rfl) (by kernel_rfl)).trans (by kernel_rfl)
theorem Mt (kk:Nat) (wl:Nat) (s x:V) (H:Hp):kf (xS kk).P wl 26 26 s x H=a9 (xS kk).P wl 26 s x H:=by kernel_rfl
theorem KY (kk:Nat) (wl id g len:Nat) (x:V) (H:Hp):a9 (xS kk).P wl 26 (.own id g len) x H=(bE x H).bind fun xs=>bif bG 1 xs then apB wl 46 1 8 id g len xs H (H[id]?) else none:=(cV (P:=(xS kk).P) (t:=26) (e:=46) (by kernel_rfl) (by kernel_rfl)).trans (by kernel_rfl)
theorem LR (kk:Nat) (wl:Nat) (x:V) (H:Hp):a9 (xS kk).P wl 26 .nil x H=(bE x H).bind fun xs=>bif bG 1 xs then bif decide (xs.length*8≤70368744177664) then some (.own H.length 0 xs.length,H++[.rows 1 xs 0 true]) else none else none:=(cW (P:=(xS kk).P) (t:=26) (e:=46) (by kernel_rfl) (by kernel_rfl)).trans (by kernel_rfl)
theorem Nb (kk:Nat) (wl:Nat) (s x:V) (H:Hp):kf (xS kk).P wl 27 27 s x H=a9 (xS kk).P wl 27 s x H:=by kernel_rfl
theorem Nl (kk:Nat) (wl id g len:Nat) (x:V) (H:Hp):a9 (xS kk).P wl 27 (.own id g len) x H=(bE x H).bind fun xs=>bif bG 11 xs then apB wl 65 11 104 id g len xs H (H[id]?) else none:=(cV (P:=(xS kk).P) (t:=27) (e:=65) (by kernel_rfl) (by kernel_rfl)).trans (by kernel_rfl)
theorem K8 (kk:Nat) (wl:Nat) (x:V) (H:Hp):a9 (xS kk).P wl 27 .nil x H=(bE x H).bind fun xs=>bif bG 11 xs then bif decide (xs.length*104≤70368744177664) then some (.own H.length 0 xs.length,H++[.rows 11 xs 0 true]) else none else none:=(cW (P:=(xS kk).P) (t:=27) (e:=65) (by kernel_rfl) (by kernel_rfl)).trans (by kernel_rfl)
theorem NC (kk:Nat) (wl:Nat) (s x:V) (H:Hp):kf (xS kk).P wl 28 28 s x H=a9 (xS kk).P wl 28 s x H:=by kernel_rfl
theorem Nc (kk:Nat) (wl id g len:Nat) (x:V) (H:Hp):a9 (xS kk).P wl 28 (.own id g len) x H=(bE x H).bind fun xs=>bif bG 9 xs then apB wl 57 9 88 id g len xs H (H[id]?) else none:=(cV (P:=(xS kk).P) (t:=28) (e:=57) (by kernel_rfl) (by kernel_rfl)).trans (by kernel_rfl)
theorem N1 (kk:Nat) (wl:Nat) (x:V) (H:Hp):a9 (xS kk).P wl 28 .nil x H=(bE x H).bind fun xs=>bif bG 9 xs then bif decide (xs.length*88≤70368744177664) then some (.own H.length 0 xs.length,H++[.rows 9 xs 0 true]) else none else none:=(cW (P:=(xS kk).P) (t:=28) (e:=57) (by kernel_rfl) (by kernel_rfl)).trans (by kernel_rfl)
theorem KR (kk:Nat) (wl:Nat) (s x:V) (H:Hp):kf (xS kk).P wl 34 34 s x H=a9 (xS kk).P wl 34 s x H:=by kernel_rfl
theorem Ld (kk:Nat) (wl id g len:Nat) (x:V) (H:Hp):a9 (xS kk).P wl 34 (.own id g len) x H=(bE x H).bind fun xs=>bif bG 3 xs then apB wl 52 3 24 id g len xs H (H[id]?) else none:=(cV (P:=(xS kk).P) (t:=34) (e:=52) (by kernel_rfl) (by kernel_rfl)).trans (by kernel_rfl)
theorem Ks (kk:Nat) (wl:Nat) (x:V) (H:Hp):a9 (xS kk).P wl 34 .nil x H=(bE x H).bind fun xs=>bif bG 3 xs then bif decide (xs.length*24≤70368744177664) then some (.own H.length 0 xs.length,H++[.rows 3 xs 0 true]) else none else none:=(cW (P:=(xS kk).P) (t:=34) (e:=52) (by kernel_rfl) (by kernel_rfl)).trans (by kernel_rfl)
theorem ME (kk:Nat) (wl:Nat) (s x:V) (H:Hp):kf (xS kk).P wl 53 53 s x H=a9 (xS kk).P wl 53 s x H:=by kernel_rfl
theorem M1 (kk:Nat) (wl id g len:Nat) (x:V) (H:Hp):a9 (xS kk).P wl 53 (.own id g len) x H=(bE x H).bind fun xs=>bif bG 1 xs then apB wl 3 1 8 id g len xs H (H[id]?) else none:=(cV (P:=(xS kk).P) (t:=53) (e:=3) (by kernel_rfl) (by kernel_rfl)).trans (by kernel_rfl)
theorem L7 (kk:Nat) (wl:Nat) (x:V) (H:Hp):a9 (xS kk).P wl 53 .nil x H=(bE x H).bind fun xs=>bif bG 1 xs then bif decide (xs.length*8≤70368744177664) then some (.own H.length 0 xs.length,H++[.rows 1 xs 0 true]) else none else none:=(cW (P:=(xS kk).P) (t:=53) (e:=3) (by kernel_rfl) (by kernel_rfl)).trans (by kernel_rfl)
theorem Lg (kk:Nat) (wl:Nat) (s x:V) (H:Hp):kf (xS kk).P wl 63 63 s x H=a9 (xS kk).P wl 63 s x H:=by kernel_rfl
theorem KM (kk:Nat) (wl id g len:Nat) (x:V) (H:Hp):a9 (xS kk).P wl 63 (.own id g len) x H=(bE x H).bind fun xs=>bif bG 3 xs then apB wl 129 3 24 id g len xs H (H[id]?) else none:=(cV (P:=(xS kk).P) (t:=63) (e:=129) (by kernel_rfl) (by kernel_rfl)).trans (by kernel_rfl)
theorem Mc (kk:Nat) (wl:Nat) (x:V) (H:Hp):a9 (xS kk).P wl 63 .nil x H=(bE x H).bind fun xs=>bif bG 3 xs then bif decide (xs.length*24≤70368744177664) then some (.own H.length 0 xs.length,H++[.rows 3 xs 0 true]) else none else none:=(cW (P:=(xS kk).P) (t:=63) (e:=129) (by kernel_rfl) (by kernel_rfl)).trans (by kernel_rfl)
theorem adI (kk:Nat) (wl:Nat) (c:Bool) (id g len:Nat) (k:IntKind) (n:Int) (H:Hp):bP (xS kk).P wl c 53 (.own id g len) none (some (.lit (.int k n))) none H=slB g len id n H (H[id]?):=ln (P:=(xS kk).P) (e:=3) (by kernel_rfl) (by kernel_rfl)
theorem adn (kk:Nat) (wl:Nat) (c:Bool) (l:List Int) (k:IntKind) (n:Int) (H:Hp):bP (xS kk).P wl c 53 (.ro (l.map (aQ .i64))) none (some (.lit (.int k n))) none H=bif decide (0≤n∧n≤l.length) then some (.ro ((l.take n.toNat).map (aQ .i64)),H) else none:=mN (P:=(xS kk).P) (e:=3) (by kernel_rfl) (by kernel_rfl) (fun x=>(by kernel_rfl:((aQ .i64) x).length=aM (xS kk).P 3))
theorem aaW (kk:Nat) (wl:Nat) (c:Bool) (l:List Int) (k:IntKind) (n:Int) (H:Hp):bP (xS kk).P wl c 53 (.ro (l.map (aQ .i64))) (some (.lit (.int k n))) none none H=bif decide (0≤n∧n≤l.length) then some (.ro ((l.drop n.toNat).map (aQ .i64)),H) else none:=mY (P:=(xS kk).P) (e:=3) (by kernel_rfl) (by kernel_rfl) (fun x=>(by kernel_rfl:((aQ .i64) x).length=aM (xS kk).P 3))
theorem ac4 (kk:Nat) (wl:Nat) (c:Bool) (l:List Int) (k k2:IntKind) (lo n:Int) (H:Hp):bP (xS kk).P wl c 53 (.ro (l.map (aQ .i64))) (some (.lit (.int k lo))) (some (.lit (.int k2 n))) none H=bif decide (0≤lo∧lo≤n∧n≤l.length) then some (.ro (((l.take n.toNat).drop lo.toNat).map (aQ .i64)),H) else none:=kr (P:=(xS kk).P) (e:=3) (by kernel_rfl) (by kernel_rfl) (fun x=>(by kernel_rfl:((aQ .i64) x).length=aM (xS kk).P 3))
theorem acy (kk:Nat) (wl:Nat) (c:Bool) (id g len:Nat) (k:IntKind) (n:Int) (H:Hp):bP (xS kk).P wl c 63 (.own id g len) none (some (.lit (.int k n))) none H=slB g len id n H (H[id]?):=ln (P:=(xS kk).P) (e:=129) (by kernel_rfl) (by kernel_rfl)
theorem acC (kk:Nat) (wl:Nat) (c:Bool) (l:Tye) (k:IntKind) (n:Int) (H:Hp):bP (xS kk).P wl c 63 (.ro (l.map aE)) none (some (.lit (.int k n))) none H=bif decide (0≤n∧n≤l.length) then some (.ro ((l.take n.toNat).map aE),H) else none:=mN (P:=(xS kk).P) (e:=129) (by kernel_rfl) (by kernel_rfl) (fun x=>(by kernel_rfl:(aE x).length=aM (xS kk).P 129))
theorem aav (kk:Nat) (wl:Nat) (c:Bool) (l:Tye) (k:IntKind) (n:Int) (H:Hp):bP (xS kk).P wl c 63 (.ro (l.map aE)) (some (.lit (.int k n))) none none H=bif decide (0≤n∧n≤l.length) then some (.ro ((l.drop n.toNat).map aE),H) else none:=mY (P:=(xS kk).P) (e:=129) (by kernel_rfl) (by kernel_rfl) (fun x=>(by kernel_rfl:(aE x).length=aM (xS kk).P 129))
theorem adT (kk:Nat) (wl:Nat) (c:Bool) (l:Tye) (k k2:IntKind) (lo n:Int) (H:Hp):bP (xS kk).P wl c 63 (.ro (l.map aE)) (some (.lit (.int k lo))) (some (.lit (.int k2 n))) none H=bif decide (0≤lo∧lo≤n∧n≤l.length) then some (.ro (((l.take n.toNat).drop lo.toNat).map aE),H) else none:=kr (P:=(xS kk).P) (e:=129) (by kernel_rfl) (by kernel_rfl) (fun x=>(by kernel_rfl:(aE x).length=aM (xS kk).P 129))
theorem VC (kk:Nat) (n:Int) (H:Hp):ba (xS kk).P 150 (.lit (.int .i64 n)) (.lit (.int .i64 n)) H=bif decide (0≤n∧n≤9223372036854775807∧n*1≤70368744177664) then some (.own H.length 0 n.toNat,H++[.rows 1 (List.replicate n.toNat [(V.lit (Value.bool false))]) 0 true]) else none:=xc (P:=(xS kk).P) (t:=150) (e:=4) (z:=((ef (xS kk).P 4).getD default)) (by kernel_rfl) (by kernel_rfl) (by kernel_rfl) (by kernel_rfl)
theorem T0 (kk:Nat) (k:IntKind) (n:Int):fj (xS kk).P 3 46 (.lit (.int k n))=some (.lit (.int .u64 (IntKind.wrap .u64 n))):=by kernel_rfl
theorem QY (kk:Nat) (k:IntKind) (n:Int):fj (xS kk).P 46 3 (.lit (.int k n))=some (.lit (.int .i64 (IntKind.wrap .i64 n))):=by kernel_rfl
theorem acl (kk:Nat) (a0 b0:Int) (a1 b1:Int) (a2 b2:Int) (a3 b3:Int):aq (xS kk).P .eql 23 (.agg [.lit (.int .i64 a0),.lit (.int .i64 a1),.lit (.int .i64 a2),.lit (.int .i64 a3)]) (.agg [.lit (.int .i64 b0),.lit (.int .i64 b1),.lit (.int .i64 b2),.lit (.int .i64 b3)])=some (.lit (.bool ((a0==b0)&&((a1==b1)&&((a2==b2)&&((a3==b3)&&true)))))):=by kernel_rfl
theorem abF (kk:Nat) (a0 b0:Int) (a1 b1:Int) (a2 b2:Int) (a3 b3:Int):aq (xS kk).P .neq 23 (.agg [.lit (.int .i64 a0),.lit (.int .i64 a1),.lit (.int .i64 a2),.lit (.int .i64 a3)]) (.agg [.lit (.int .i64 b0),.lit (.int .i64 b1),.lit (.int .i64 b2),.lit (.int .i64 b3)])=some (.lit (.bool (!((a0==b0)&&((a1==b1)&&((a2==b2)&&((a3==b3)&&true))))))):=by kernel_rfl
theorem acS (kk:Nat) (a0 b0:Int) (a1 b1:Int) (a2 b2:Int):aq (xS kk).P .eql 52 (.agg [.lit (.int .i64 a0),.lit (.int .i64 a1),.lit (.int .i64 a2)]) (.agg [.lit (.int .i64 b0),.lit (.int .i64 b1),.lit (.int .i64 b2)])=some (.lit (.bool ((a0==b0)&&((a1==b1)&&((a2==b2)&&true))))):=by kernel_rfl
theorem ZY (kk:Nat) (a0 b0:Int) (a1 b1:Int) (a2 b2:Int):aq (xS kk).P .neq 52 (.agg [.lit (.int .i64 a0),.lit (.int .i64 a1),.lit (.int .i64 a2)]) (.agg [.lit (.int .i64 b0),.lit (.int .i64 b1),.lit (.int .i64 b2)])=some (.lit (.bool (!((a0==b0)&&((a1==b1)&&((a2==b2)&&true)))))):=by kernel_rfl
theorem abc (kk:Nat) (a0 b0:Int) (a1 b1:Int) (a2 b2:Int) (a3 b3:Int) (a4 b4:Int) (a5 b5:Int) (a6 b6:Int):aq (xS kk).P .eql 55 (.agg [.lit (.int .i64 a0),.lit (.int .i64 a1),.lit (.int .i64 a2),.lit (.int .u64 a3),.lit (.int .u64 a4),.lit (.int .u64 a5),.lit (.int .i64 a6)]) (.agg [.lit (.int .i64 b0),.lit (.int .i64 b1),.lit (.int .i64 b2),.lit (.int .u64 b3),.lit (.int .u64 b4),.lit (.int .u64 b5),.lit (.int .i64 b6)])=some (.lit (.bool ((a0==b0)&&((a1==b1)&&((a2==b2)&&((a3==b3)&&((a4==b4)&&((a5==b5)&&((a6==b6)&&true))))))))):=by kernel_rfl
theorem aaV (kk:Nat) (a0 b0:Int) (a1 b1:Int) (a2 b2:Int) (a3 b3:Int) (a4 b4:Int) (a5 b5:Int) (a6 b6:Int):aq (xS kk).P .neq 55 (.agg [.lit (.int .i64 a0),.lit (.int .i64 a1),.lit (.int .i64 a2),.lit (.int .u64 a3),.lit (.int .u64 a4),.lit (.int .u64 a5),.lit (.int .i64 a6)]) (.agg [.lit (.int .i64 b0),.lit (.int .i64 b1),.lit (.int .i64 b2),.lit (.int .u64 b3),.lit (.int .u64 b4),.lit (.int .u64 b5),.lit (.int .i64 b6)])=some (.lit (.bool (!((a0==b0)&&((a1==b1)&&((a2==b2)&&((a3==b3)&&((a4==b4)&&((a5==b5)&&((a6==b6)&&true)))))))))):=by kernel_rfl
theorem UM (kk:Nat) (a0 b0:Int) (a1 b1:Int) (a2 b2:Int):aq (xS kk).P .eql 129 (.agg [.lit (.int .i64 a0),.lit (.int .i64 a1),.lit (.int .i64 a2)]) (.agg [.lit (.int .i64 b0),.lit (.int .i64 b1),.lit (.int .i64 b2)])=some (.lit (.bool ((a0==b0)&&((a1==b1)&&((a2==b2)&&true))))):=by kernel_rfl
theorem WC (kk:Nat) (a0 b0:Int) (a1 b1:Int) (a2 b2:Int):aq (xS kk).P .neq 129 (.agg [.lit (.int .i64 a0),.lit (.int .i64 a1),.lit (.int .i64 a2)]) (.agg [.lit (.int .i64 b0),.lit (.int .i64 b1),.lit (.int .i64 b2)])=some (.lit (.bool (!((a0==b0)&&((a1==b1)&&((a2==b2)&&true)))))):=by kernel_rfl
theorem B8 (kk:Nat) (c0 c1 c2:V):bh (xS kk).P 23 [(0,c0),(1,c1),(2,c2)]=(mO [(V.lit (Value.int .i64 (0))),(V.lit (Value.int .i64 (0))),(V.lit (Value.int .i64 (0))),(V.lit (Value.int .i64 (0)))] [(0,1,c0),(1,1,c1),(2,1,c2)]).map .agg:=by kernel_rfl
theorem VE (kk:Nat):bh (xS kk).P 30 []=(mO [(V.lit (Value.int .i64 (0))),(V.lit (Value.int .i64 (0))),(V.lit (Value.int .i64 (0))),(V.lit (Value.int .i64 (0))),V.nil,V.nil,V.nil,V.nil] []).map .agg:=by kernel_rfl
theorem Dp (kk:Nat) (c0 c1 c2:V):bh (xS kk).P 30 [(0,c0),(1,c1),(2,c2)]=(mO [(V.lit (Value.int .i64 (0))),(V.lit (Value.int .i64 (0))),(V.lit (Value.int .i64 (0))),(V.lit (Value.int .i64 (0))),V.nil,V.nil,V.nil,V.nil] [(0,4,c0),(4,1,c1),(5,1,c2)]).map .agg:=by kernel_rfl
theorem XF (kk:Nat):bh (xS kk).P 48 []=(mO [(V.lit (Value.int .i64 (0))),(V.lit (Value.int .i64 (0))),(V.lit (Value.int .u64 (0)))] []).map .agg:=by kernel_rfl
theorem Tm (kk:Nat) (c0:V):bh (xS kk).P 48 [(0,c0)]=(mO [(V.lit (Value.int .i64 (0))),(V.lit (Value.int .i64 (0))),(V.lit (Value.int .u64 (0)))] [(0,1,c0)]).map .agg:=by kernel_rfl
theorem DK (kk:Nat) (c0 c1 c2:V):bh (xS kk).P 52 [(0,c0),(1,c1),(2,c2)]=(mO [(V.lit (Value.int .i64 (0))),(V.lit (Value.int .i64 (0))),(V.lit (Value.int .i64 (0)))] [(0,1,c0),(1,1,c1),(2,1,c2)]).map .agg:=by kernel_rfl
theorem We (kk:Nat):bh (xS kk).P 55 []=(mO [(V.lit (Value.int .i64 (0))),(V.lit (Value.int .i64 (0))),(V.lit (Value.int .i64 (0))),(V.lit (Value.int .u64 (0))),(V.lit (Value.int .u64 (0))),(V.lit (Value.int .u64 (0))),(V.lit (Value.int .i64 (0)))] []).map .agg:=by kernel_rfl
theorem Dw (kk:Nat) (c0 c1 c2:V):bh (xS kk).P 55 [(0,c0),(2,c1),(3,c2)]=(mO [(V.lit (Value.int .i64 (0))),(V.lit (Value.int .i64 (0))),(V.lit (Value.int .i64 (0))),(V.lit (Value.int .u64 (0))),(V.lit (Value.int .u64 (0))),(V.lit (Value.int .u64 (0))),(V.lit (Value.int .i64 (0)))] [(0,1,c0),(2,1,c1),(3,1,c2)]).map .agg:=by kernel_rfl
theorem wq (kk:Nat) (c0 c1 c2 c3:V):bh (xS kk).P 55 [(0,c0),(2,c1),(3,c2),(6,c3)]=(mO [(V.lit (Value.int .i64 (0))),(V.lit (Value.int .i64 (0))),(V.lit (Value.int .i64 (0))),(V.lit (Value.int .u64 (0))),(V.lit (Value.int .u64 (0))),(V.lit (Value.int .u64 (0))),(V.lit (Value.int .i64 (0)))] [(0,1,c0),(2,1,c1),(3,1,c2),(6,1,c3)]).map .agg:=by kernel_rfl
theorem CA (kk:Nat) (c0 c1 c2:V):bh (xS kk).P 57 [(0,c0),(1,c1),(2,c2)]=(mO [(V.lit (Value.int .i64 (0))),V.nil,(V.lit (Value.int .i64 (0))),(V.lit (Value.int .i64 (0))),(V.lit (Value.int .i64 (0))),(V.lit (Value.int .u64 (0))),(V.lit (Value.int .u64 (0))),(V.lit (Value.int .u64 (0))),(V.lit (Value.int .i64 (0)))] [(0,1,c0),(1,1,c1),(2,7,c2)]).map .agg:=by kernel_rfl
theorem Rk (kk:Nat) (c0:V):bh (xS kk).P 57 [(1,c0)]=(mO [(V.lit (Value.int .i64 (0))),V.nil,(V.lit (Value.int .i64 (0))),(V.lit (Value.int .i64 (0))),(V.lit (Value.int .i64 (0))),(V.lit (Value.int .u64 (0))),(V.lit (Value.int .u64 (0))),(V.lit (Value.int .u64 (0))),(V.lit (Value.int .i64 (0)))] [(1,1,c0)]).map .agg:=by kernel_rfl
theorem Rp (kk:Nat) (c0:V):bh (xS kk).P 65 [(2,c0)]=(mO [(V.lit (Value.int .i64 (0))),V.nil,(V.lit (Value.int .i64 (0))),(V.lit (Value.int .i64 (0))),(V.lit (Value.int .i64 (0))),(V.lit (Value.int .u64 (0))),(V.lit (Value.int .u64 (0))),(V.lit (Value.int .u64 (0))),(V.lit (Value.int .i64 (0))),(V.lit (Value.int .i64 (0))),(V.lit (Value.int .i64 (0)))] [(2,7,c0)]).map .agg:=by kernel_rfl
theorem Ln (kk:Nat) (c0:V):bh (xS kk).P 129 [(0,c0)]=(mO [(V.lit (Value.int .i64 (0))),(V.lit (Value.int .i64 (0))),(V.lit (Value.int .i64 (0)))] [(0,1,c0)]).map .agg:=by kernel_rfl
theorem mS (kk:Nat) (c0 c1 c2 c3 c4 c5:V):bh (xS kk).P 168 [(0,c0),(1,c1),(2,c2),(3,c3),(4,c4),(5,c5)]=(mO [(V.lit (Value.int .i64 (0))),V.nil,(V.lit (Value.int .i64 (0))),(V.lit (Value.int .i64 (0))),(V.lit (Value.int .i64 (0))),(V.lit (Value.int .u64 (0))),(V.lit (Value.int .u64 (0))),(V.lit (Value.int .u64 (0))),(V.lit (Value.int .i64 (0))),(V.lit (Value.int .i64 (0))),(V.lit (Value.int .i64 (0))),(V.lit (Value.int .i64 (0))),(V.lit (Value.int .i64 (0))),(V.lit (Value.int .i64 (0))),(V.lit (Value.int .i64 (0))),V.nil,V.nil,(V.lit (Value.int .i64 (0))),(V.lit (Value.int .u64 (0))),V.nil] [(0,11,c0),(11,4,c1),(15,1,c2),(16,1,c3),(17,1,c4),(18,1,c5)]).map .agg:=by kernel_rfl
theorem di (kk:Nat) (c0 c1 c2 c3 c4 c5 c6 c7 c8 c9 c10 c11 c12 c13 c14 c15:V):bh (xS kk).P 169 [(0,c0),(1,c1),(2,c2),(3,c3),(4,c4),(5,c5),(6,c6),(7,c7),(8,c8),(9,c9),(10,c10),(11,c11),(12,c12),(13,c13),(14,c14),(15,c15)]=(mO [(V.lit Value.nilFunc),(V.lit Value.nilFunc),(V.lit Value.nilFunc),(V.lit Value.nilFunc),(V.lit Value.nilFunc),(V.lit Value.nilFunc),(V.lit Value.nilFunc),(V.lit Value.nilFunc),(V.lit Value.nilFunc),(V.lit Value.nilFunc),(V.lit Value.nilFunc),(V.lit Value.nilFunc),(V.lit Value.nilFunc),(V.lit Value.nilFunc),(V.lit Value.nilFunc),(V.lit Value.nilFunc)] [(0,1,c0),(1,1,c1),(2,1,c2),(3,1,c3),(4,1,c4),(5,1,c5),(6,1,c6),(7,1,c7),(8,1,c8),(9,1,c9),(10,1,c10),(11,1,c11),(12,1,c12),(13,1,c13),(14,1,c14),(15,1,c15)]).map .agg:=by kernel_rfl
theorem m7 (kk:Nat) (c0 c1 c2 c3 c4 c5:V):bh (xS kk).P 175 [(0,c0),(1,c1),(2,c2),(3,c3),(4,c4),(5,c5)]=(mO [(V.lit Value.nilFunc),(V.lit Value.nilFunc),(V.lit Value.nilFunc),(V.lit Value.nilFunc),(V.lit Value.nilFunc),(V.lit Value.nilFunc)] [(0,1,c0),(1,1,c1),(2,1,c2),(3,1,c3),(4,1,c4),(5,1,c5)]).map .agg:=by kernel_rfl
theorem SF (kk:Nat):bh (xS kk).P 194 []=(mO [(V.lit (Value.int .i64 (0))),(V.lit (Value.int .i64 (0)))] []).map .agg:=by kernel_rfl
theorem GB (kk:Nat) (c0 c1:V):bh (xS kk).P 194 [(0,c0),(1,c1)]=(mO [(V.lit (Value.int .i64 (0))),(V.lit (Value.int .i64 (0)))] [(0,1,c0),(1,1,c1)]).map .agg:=by kernel_rfl
theorem Aw (kk:Nat) (c0 c1 c2:V):bh (xS kk).P 205 [(0,c0),(1,c1),(2,c2)]=(mO [(V.lit (Value.int .i64 (0))),(V.lit (Value.int .i64 (0))),(V.lit (Value.int .i64 (0))),(V.lit (Value.int .u64 (0))),(V.lit (Value.int .u64 (0))),(V.lit (Value.int .u64 (0))),(V.lit (Value.int .i64 (0))),(V.lit (Value.int .i64 (0))),(V.lit (Value.int .i64 (0))),(V.lit (Value.int .i64 (0))),(V.lit (Value.int .i64 (0))),V.nil] [(0,7,c0),(7,4,c1),(11,1,c2)]).map .agg:=by kernel_rfl
theorem AA (kk:Nat) (c0 c1 c2:V):bh (xS kk).P 221 [(0,c0),(1,c1),(2,c2)]=(mO [(V.lit (Value.int .i64 (0))),(V.lit (Value.int .i64 (0))),(V.lit (Value.int .i64 (0))),(V.lit (Value.int .u64 (0))),(V.lit (Value.int .u64 (0))),(V.lit (Value.int .u64 (0))),(V.lit (Value.int .i64 (0))),(V.lit (Value.int .i64 (0))),(V.lit (Value.int .i64 (0))),(V.lit (Value.int .i64 (0))),(V.lit (Value.int .i64 (0))),V.nil] [(0,7,c0),(7,4,c1),(11,1,c2)]).map .agg:=by kernel_rfl
theorem AX (kk:Nat) (c0 c1 c2:V):bh (xS kk).P 235 [(0,c0),(1,c1),(2,c2)]=(mO [(V.lit (Value.int .i64 (0))),(V.lit (Value.int .i64 (0))),(V.lit (Value.int .i64 (0))),(V.lit (Value.int .u64 (0))),(V.lit (Value.int .u64 (0))),(V.lit (Value.int .u64 (0))),(V.lit (Value.int .i64 (0))),(V.lit (Value.int .i64 (0))),(V.lit (Value.int .i64 (0))),(V.lit (Value.int .i64 (0))),(V.lit (Value.int .i64 (0))),V.nil] [(0,7,c0),(7,4,c1),(11,1,c2)]).map .agg:=by kernel_rfl
theorem rP (kk:Nat) (c0 c1 c2 c3:V):bh (xS kk).P 236 [(0,c0),(1,c1),(2,c2),(3,c3)]=(mO [(V.lit Value.nilFunc),(V.lit Value.nilFunc),(V.lit Value.nilFunc),(V.lit Value.nilFunc)] [(0,1,c0),(1,1,c1),(2,1,c2),(3,1,c3)]).map .agg:=by kernel_rfl
theorem P3 (kk:Nat) (wl:Nat) (l:List (Nat×V)) (H:Hp):aB (xS kk).P wl 24 0 l H=(ej wl 2 l [] H).bind fun p=>some (.own p.2.length 0 0,p.2++[.rows 2 p.1 0 true]):=by kernel_rfl
theorem RA (kk:Nat) (wl:Nat) (l:List (Nat×V)) (H:Hp):aB (xS kk).P wl 25 1 l H=(ej wl 1 l [[(V.lit (Value.int .u64 (0)))]] H).bind fun p=>some (.own p.2.length 0 1,p.2++[.rows 1 p.1 0 true]):=by kernel_rfl
theorem Sy (kk:Nat) (wl:Nat) (l:List (Nat×V)) (H:Hp):aB (xS kk).P wl 26 0 l H=(ej wl 1 l [] H).bind fun p=>some (.own p.2.length 0 0,p.2++[.rows 1 p.1 0 true]):=by kernel_rfl
theorem Rb (kk:Nat) (wl:Nat) (l:List (Nat×V)) (H:Hp):aB (xS kk).P wl 26 1 l H=(ej wl 1 l [[(V.lit (Value.int .u64 (0)))]] H).bind fun p=>some (.own p.2.length 0 1,p.2++[.rows 1 p.1 0 true]):=by kernel_rfl
theorem S2 (kk:Nat) (wl:Nat) (l:List (Nat×V)) (H:Hp):aB (xS kk).P wl 27 0 l H=(ej wl 11 l [] H).bind fun p=>some (.own p.2.length 0 0,p.2++[.rows 11 p.1 0 true]):=by kernel_rfl
theorem SY (kk:Nat) (wl:Nat) (l:List (Nat×V)) (H:Hp):aB (xS kk).P wl 27 1 l H=(ej wl 11 l [[(V.lit (Value.int .i64 (0))),V.ro [],(V.lit (Value.int .i64 (0))),(V.lit (Value.int .i64 (0))),(V.lit (Value.int .i64 (0))),(V.lit (Value.int .u64 (0))),(V.lit (Value.int .u64 (0))),(V.lit (Value.int .u64 (0))),(V.lit (Value.int .i64 (0))),(V.lit (Value.int .i64 (0))),(V.lit (Value.int .i64 (0)))]] H).bind fun p=>some (.own p.2.length 0 1,p.2++[.rows 11 p.1 0 true]):=by kernel_rfl
theorem Tk (kk:Nat) (wl:Nat) (l:List (Nat×V)) (H:Hp):aB (xS kk).P wl 28 0 l H=(ej wl 9 l [] H).bind fun p=>some (.own p.2.length 0 0,p.2++[.rows 9 p.1 0 true]):=by kernel_rfl
theorem Qw (kk:Nat) (wl:Nat) (l:List (Nat×V)) (H:Hp):aB (xS kk).P wl 28 1 l H=(ej wl 9 l [[(V.lit (Value.int .i64 (0))),V.ro [],(V.lit (Value.int .i64 (0))),(V.lit (Value.int .i64 (0))),(V.lit (Value.int .i64 (0))),(V.lit (Value.int .u64 (0))),(V.lit (Value.int .u64 (0))),(V.lit (Value.int .u64 (0))),(V.lit (Value.int .i64 (0)))]] H).bind fun p=>some (.own p.2.length 0 1,p.2++[.rows 9 p.1 0 true]):=by kernel_rfl
theorem RT (kk:Nat) (wl:Nat) (l:List (Nat×V)) (H:Hp):aB (xS kk).P wl 31 1 l H=(ej wl 3 l [[(V.lit (Value.int .i64 (0))),(V.lit (Value.int .i64 (0))),(V.lit (Value.int .u64 (0)))]] H).bind fun p=>some (.own p.2.length 0 1,p.2++[.rows 3 p.1 0 true]):=by kernel_rfl
theorem Ue (kk:Nat) (wl:Nat) (l:List (Nat×V)) (H:Hp):aB (xS kk).P wl 31 2 l H=(ej wl 3 l [[(V.lit (Value.int .i64 (0))),(V.lit (Value.int .i64 (0))),(V.lit (Value.int .u64 (0)))],[(V.lit (Value.int .i64 (0))),(V.lit (Value.int .i64 (0))),(V.lit (Value.int .u64 (0)))]] H).bind fun p=>some (.own p.2.length 0 2,p.2++[.rows 3 p.1 0 true]):=by kernel_rfl
theorem Rs (kk:Nat) (wl:Nat) (l:List (Nat×V)) (H:Hp):aB (xS kk).P wl 34 1 l H=(ej wl 3 l [[(V.lit (Value.int .i64 (0))),(V.lit (Value.int .i64 (0))),(V.lit (Value.int .i64 (0)))]] H).bind fun p=>some (.own p.2.length 0 1,p.2++[.rows 3 p.1 0 true]):=by kernel_rfl
theorem S6 (kk:Nat) (wl:Nat) (l:List (Nat×V)) (H:Hp):aB (xS kk).P wl 53 0 l H=(ej wl 1 l [] H).bind fun p=>some (.own p.2.length 0 0,p.2++[.rows 1 p.1 0 true]):=by kernel_rfl
theorem S8 (kk:Nat) (wl:Nat) (l:List (Nat×V)) (H:Hp):aB (xS kk).P wl 53 1 l H=(ej wl 1 l [[(V.lit (Value.int .i64 (0)))]] H).bind fun p=>some (.own p.2.length 0 1,p.2++[.rows 1 p.1 0 true]):=by kernel_rfl
theorem T1 (kk:Nat) (wl:Nat) (l:List (Nat×V)) (H:Hp):aB (xS kk).P wl 53 5 l H=(ej wl 1 l [[(V.lit (Value.int .i64 (0)))],[(V.lit (Value.int .i64 (0)))],[(V.lit (Value.int .i64 (0)))],[(V.lit (Value.int .i64 (0)))],[(V.lit (Value.int .i64 (0)))]] H).bind fun p=>some (.own p.2.length 0 5,p.2++[.rows 1 p.1 0 true]):=by kernel_rfl
theorem Qe (kk:Nat) (wl:Nat) (l:List (Nat×V)) (H:Hp):aB (xS kk).P wl 63 0 l H=(ej wl 3 l [] H).bind fun p=>some (.own p.2.length 0 0,p.2++[.rows 3 p.1 0 true]):=by kernel_rfl
theorem Ru (kk:Nat) (wl:Nat) (l:List (Nat×V)) (H:Hp):aB (xS kk).P wl 63 1 l H=(ej wl 3 l [[(V.lit (Value.int .i64 (0))),(V.lit (Value.int .i64 (0))),(V.lit (Value.int .i64 (0)))]] H).bind fun p=>some (.own p.2.length 0 1,p.2++[.rows 3 p.1 0 true]):=by kernel_rfl
theorem Km (kk:Nat) (wl:Nat) (l:List (Nat×V)) (H:Hp):aB (xS kk).P wl 207 5 l H=(ej wl 1 l [[(V.lit Value.nilFunc)],[(V.lit Value.nilFunc)],[(V.lit Value.nilFunc)],[(V.lit Value.nilFunc)],[(V.lit Value.nilFunc)]] H).bind fun p=>some (.own p.2.length 0 5,p.2++[.rows 1 p.1 0 true]):=by kernel_rfl
theorem MI (kk:Nat) (wl:Nat) (l:List (Nat×V)) (H:Hp):aB (xS kk).P wl 223 5 l H=(ej wl 1 l [[(V.lit Value.nilFunc)],[(V.lit Value.nilFunc)],[(V.lit Value.nilFunc)],[(V.lit Value.nilFunc)],[(V.lit Value.nilFunc)]] H).bind fun p=>some (.own p.2.length 0 5,p.2++[.rows 1 p.1 0 true]):=by kernel_rfl
theorem Lv (kk:Nat) (wl:Nat) (l:List (Nat×V)) (H:Hp):aB (xS kk).P wl 238 4 l H=(ej wl 1 l [[(V.lit Value.nilFunc)],[(V.lit Value.nilFunc)],[(V.lit Value.nilFunc)],[(V.lit Value.nilFunc)]] H).bind fun p=>some (.own p.2.length 0 4,p.2++[.rows 1 p.1 0 true]):=by kernel_rfl
theorem Xd (kk:Nat) (wl id:Nat) (n:Int) (v:V) (H:Hp):dX (xS kk).P wl 138 (.map id) (.lit (.int .i64 n)) v H=inB wl .i64 id n v H (H[id]?):=by kernel_rfl
theorem Yz (kk:Nat) (id:Nat) (n:Int) (ok:Bool) (H:Hp):fc (xS kk).P 138 (.map id) (.lit (.int .i64 n)) ok H=lkB .i64 (V.lit Value.nilFunc) ok n (H[id]?):=by kernel_rfl
theorem Yc (kk:Nat) (wl id:Nat) (n:Int) (v:V) (H:Hp):dX (xS kk).P wl 201 (.map id) (.lit (.int .i64 n)) v H=inB wl .i64 id n v H (H[id]?):=by kernel_rfl
theorem VW (kk:Nat) (id:Nat) (n:Int) (ok:Bool) (H:Hp):fc (xS kk).P 201 (.map id) (.lit (.int .i64 n)) ok H=lkB .i64 (V.lit Value.nilFunc) ok n (H[id]?):=by kernel_rfl
theorem W8 (kk:Nat) (wl id:Nat) (n:Int) (v:V) (H:Hp):dX (xS kk).P wl 212 (.map id) (.lit (.int .i64 n)) v H=inB wl .i64 id n v H (H[id]?):=by kernel_rfl
theorem WW (kk:Nat) (id:Nat) (n:Int) (ok:Bool) (H:Hp):fc (xS kk).P 212 (.map id) (.lit (.int .i64 n)) ok H=lkB .i64 (V.lit Value.nilFunc) ok n (H[id]?):=by kernel_rfl
theorem WP (kk:Nat) (id g row off:Nat) (k:IntKind) (n:Int) (H:Hp):ai (xS kk).P 169 (.ptr id g row off) (.lit (.int k n)) H=arC id g row [(0,off),(1,off+1),(2,off+2),(3,off+3),(4,off+4),(5,off+5),(6,off+6),(7,off+7),(8,off+8),(9,off+9),(10,off+10),(11,off+11),(12,off+12),(13,off+13),(14,off+14),(15,off+15)] n:=E0 (e:=1) (len:=16) (sz:=1) (by kernel_rfl) (by kernel_rfl) (by decide)
theorem VH (kk:Nat) (id g row off:Nat) (k:IntKind) (n:Int) (H:Hp):ai (xS kk).P 175 (.ptr id g row off) (.lit (.int k n)) H=arC id g row [(0,off),(1,off+1),(2,off+2),(3,off+3),(4,off+4),(5,off+5)] n:=E0 (e:=1) (len:=6) (sz:=1) (by kernel_rfl) (by kernel_rfl) (by decide)
theorem YD (kk:Nat) (id g row off:Nat) (k:IntKind) (n:Int) (H:Hp):ai (xS kk).P 236 (.ptr id g row off) (.lit (.int k n)) H=arC id g row [(0,off),(1,off+1),(2,off+2),(3,off+3)] n:=E0 (e:=1) (len:=4) (sz:=1) (by kernel_rfl) (by kernel_rfl) (by decide)
def xF0:=PLift.up (And.intro (And.intro (And.intro (And.intro (And.intro (And.intro (And.intro (And.intro (@aeJ) (@aeN)) (And.intro (@aeR) (@ae2))) (And.intro (And.intro (@ae9) (@afb)) (And.intro (@acd) (And.intro (@adv) (@adk))))) (And.intro (And.intro (And.intro (@ace) (@aaf)) (And.intro (@aaB) (And.intro (@ady) (@abV)))) (And.intro (And.intro (@adm) (@aa0)) (And.intro (@abA) (And.intro (@abs) (@adL)))))) (And.intro (And.intro (And.intro (And.intro (@Z5) (@ab3)) (And.intro (@aaL) (And.intro (@abx) (@abK)))) (And.intro (And.intro (@adO) (@Z6)) (And.intro (@aba) (And.intro (@Z2) (@aap))))) (And.intro (And.intro (And.intro (@aad) (@adE)) (And.intro (@adq) (And.intro (@adN) (@acY)))) (And.intro (And.intro (@aaT) (@abY)) (And.intro (@adp) (And.intro (@acV) (@ac9))))))) (And.intro (And.intro (And.intro (And.intro (And.intro (@abq) (@Va)) (And.intro (@WD) (@Vz))) (And.intro (And.intro (@Xo) (@UK)) (And.intro (@Y3) (And.intro (@UE) (@V9))))) (And.intro (And.intro (And.intro (@Vq) (@XI)) (And.intro (@V1) (And.intro (@Vg) (@YY)))) (And.intro (And.intro (@WA) (@YB)) (And.intro (@Vb) (And.intro (@Xt) (@Wu)))))) (And.intro (And.intro (And.intro (And.intro (@Xj) (@Xy)) (And.intro (@YS) (And.intro (@VP) (@afg)))) (And.intro (And.intro (@aeM) (@aeE)) (And.intro (@acq) (And.intro (@act) (@ac1))))) (And.intro (And.intro (And.intro (@acD) (@abt)) (And.intro (@Z7) (And.intro (@acQ) (@Z4)))) (And.intro (And.intro (@Yh) (@Y4)) (And.intro (@Xw) (And.intro (@XJ) (@Wn)))))))) (And.intro (And.intro (And.intro (And.intro (And.intro (And.intro (@WZ) (@V0)) (And.intro (@Xq) (@YL))) (And.intro (And.intro (@Sd) (@Sx)) (And.intro (@Uc) (And.intro (@Ug) (@RJ))))) (And.intro (And.intro (And.intro (@QO) (@Ra)) (And.intro (@T4) (And.intro (@QX) (@Tf)))) (And.intro (And.intro (@TF) (@Tw)) (And.intro (@T6) (And.intro (@RN) (@To)))))) (And.intro (And.intro (And.intro (And.intro (@Uf) (@Rm)) (And.intro (@Qk) (And.intro (@Q6) (@Rd)))) (And.intro (And.intro (@RC) (@Qm)) (And.intro (@P2) (And.intro (@SE) (@Q7))))) (And.intro (And.intro (And.intro (@TE) (@Tc)) (And.intro (@Qq) (And.intro (@QK) (@TG)))) (And.intro (And.intro (@QI) (@RU)) (And.intro (@Qr) (And.intro (@Rn) (@Sl))))))) (And.intro (And.intro (And.intro (And.intro (And.intro (@Qt) (@SZ)) (And.intro (@Ri) (@RY))) (And.intro (And.intro (@TT) (@PV)) (And.intro (@QF) (And.intro (@S3) (@S5))))) (And.intro (And.intro (And.intro (@TX) (@SH)) (And.intro (@Tj) (And.intro (@RR) (@SG)))) (And.intro (And.intro (@SS) (@RX)) (And.intro (@Ty) (And.intro (@RS) (@SJ)))))) (And.intro (And.intro (And.intro (And.intro (@QJ) (@TW)) (And.intro (@Nm) (And.intro (@Kp) (@N5)))) (And.intro (And.intro (@M6) (@KB)) (And.intro (@Mq) (And.intro (@Lj) (@N0))))) (And.intro (And.intro (And.intro (@Ng) (@NF)) (And.intro (@NA) (And.intro (@LD) (@LC)))) (And.intro (And.intro (@MB) (@LF)) (And.intro (@MM) (And.intro (@Lu) (@Ne))))))))) (And.intro (And.intro (And.intro (And.intro (And.intro (And.intro (And.intro (@MR) (@MG)) (And.intro (@N4) (@MH))) (And.intro (And.intro (@L3) (@Mw)) (And.intro (@K9) (And.intro (@Ms) (@Lf))))) (And.intro (And.intro (And.intro (@Nh) (@Ku)) (And.intro (@Kw) (And.intro (@Ns) (@NP)))) (And.intro (And.intro (@L5) (@NL)) (And.intro (@LQ) (And.intro (@MP) (@Me)))))) (And.intro (And.intro (And.intro (And.intro (@Mj) (@Ni)) (And.intro (@LN) (And.intro (@Mu) (@My)))) (And.intro (And.intro (@Lb) (@LG)) (And.intro (@La) (And.intro (@Kt) (@Kr))))) (And.intro (And.intro (And.intro (@aaa) (@adf)) (And.intro (@aa7) (And.intro (@aae) (@aac)))) (And.intro (And.intro (@abh) (@acx)) (And.intro (@acw) (And.intro (@ac2) (@aaM))))))) (And.intro (And.intro (And.intro (And.intro (And.intro (@ab5) (@acJ)) (And.intro (@aak) (@abN))) (And.intro (And.intro (@aaS) (@aaQ)) (And.intro (@ada) (And.intro (@Z8) (@Vr))))) (And.intro (And.intro (And.intro (@Y6) (@Vj)) (And.intro (@Wc) (And.intro (@Yv) (@YM)))) (And.intro (And.intro (@XH) (@Xl)) (And.intro (@WK) (And.intro (@V4) (@WX)))))) (And.intro (And.intro (And.intro (And.intro (@Xm) (@YU)) (And.intro (@Vk) (And.intro (@UF) (@R7)))) (And.intro (And.intro (@Rv) (@Mi)) (And.intro (@Mm) (And.intro (@Ky) (@NM))))) (And.intro (And.intro (And.intro (@K1) (@NN)) (And.intro (@Mt) (And.intro (@KY) (@LR)))) (And.intro (And.intro (@Nb) (@Nl)) (And.intro (@K8) (And.intro (@NC) (@Nc)))))))) (And.intro (And.intro (And.intro (And.intro (And.intro (And.intro (@N1) (@KR)) (And.intro (@Ld) (@Ks))) (And.intro (And.intro (@ME) (@M1)) (And.intro (@L7) (And.intro (@Lg) (@KM))))) (And.intro (And.intro (And.intro (@Mc) (@adI)) (And.intro (@adn) (And.intro (@aaW) (@ac4)))) (And.intro (And.intro (@acy) (@acC)) (And.intro (@aav) (And.intro (@adT) (@VC)))))) (And.intro (And.intro (And.intro (And.intro (@T0) (@QY)) (And.intro (@acl) (And.intro (@abF) (@acS)))) (And.intro (And.intro (@ZY) (@abc)) (And.intro (@aaV) (And.intro (@UM) (@WC))))) (And.intro (And.intro (And.intro (@B8) (@VE)) (And.intro (@Dp) (And.intro (@XF) (@Tm)))) (And.intro (And.intro (@DK) (@We)) (And.intro (@Dw) (And.intro (@wq) (@CA))))))) (And.intro (And.intro (And.intro (And.intro (And.intro (@Rk) (@Rp)) (And.intro (@Ln) (And.intro (@mS) (@di)))) (And.intro (And.intro (@m7) (@SF)) (And.intro (@GB) (And.intro (@Aw) (@AA))))) (And.intro (And.intro (And.intro (@AX) (@rP)) (And.intro (@P3) (And.intro (@RA) (@Sy)))) (And.intro (And.intro (@Rb) (@S2)) (And.intro (@SY) (And.intro (@Tk) (@Qw)))))) (And.intro (And.intro (And.intro (And.intro (@RT) (@Ue)) (And.intro (@Rs) (And.intro (@S6) (@S8)))) (And.intro (And.intro (@T1) (@Qe)) (And.intro (@Ru) (And.intro (@Km) (@MI))))) (And.intro (And.intro (And.intro (@Lv) (@Xd)) (And.intro (@Yz) (And.intro (@Yc) (@VW)))) (And.intro (And.intro (@W8) (@WW)) (And.intro (@WP) (And.intro (@VH) (@YD))))))))))
theorem xF:type_of% xF0.down:=xF0.down
end Go.Ab
