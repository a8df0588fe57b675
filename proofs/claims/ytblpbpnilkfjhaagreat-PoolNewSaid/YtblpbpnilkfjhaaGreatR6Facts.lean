import Derived.Test.YtblpbpnilkfjhaaGreatAbLibC
import Derived.Test.YtblpbpnilkfjhaaGreatAbLibB
import Derived.Test.YtblpbpnilkfjhaaGreatR6Seat
set_option linter.unusedVariables false
set_option linter.unusedSimpArgs false
set_option maxRecDepth 100000
set_option linter.unusedVariables false
namespace Go.Ab
open Go.Proofs
section
variable (kk:Nat) (c:V) (cs:List V) (H:Hp) (id:Nat) (g:Nat) (k:IntKind) (n:Int) (len:Nat) (x:V) (wl:Nat) (s:V)
theorem adZ:aR (xS kk).P 1 (c::cs)=some c:=by kernel_rfl
theorem aew:aO (xS kk).P 1=1:=by kernel_rfl
theorem aeq:aR (xS kk).P 3 (c::cs)=some c:=by kernel_rfl
theorem aej:aO (xS kk).P 3=1:=by kernel_rfl
theorem adN:aR (xS kk).P 4 (c::cs)=some c:=by kernel_rfl
theorem aeA:aO (xS kk).P 4=1:=by kernel_rfl
theorem acu (c0 c1 c2 c3:V):aR (xS kk).P 23 (c0::c1::c2::c3::cs)=some (.agg [c0,c1,c2,c3]):=by kernel_rfl
theorem ZW:aO (xS kk).P 23=4:=by kernel_rfl
theorem abK:aR (xS kk).P 24 (c::cs)=some c:=by kernel_rfl
theorem Zj:aO (xS kk).P 24=1:=by kernel_rfl
theorem Zs:aR (xS kk).P 26 (c::cs)=some c:=by kernel_rfl
theorem abR:aO (xS kk).P 26=1:=by kernel_rfl
theorem acz:aR (xS kk).P 27 (c::cs)=some c:=by kernel_rfl
theorem aaw:aO (xS kk).P 27=1:=by kernel_rfl
theorem abF:aR (xS kk).P 28 (c::cs)=some c:=by kernel_rfl
theorem aaQ:aO (xS kk).P 28=1:=by kernel_rfl
theorem acO (c0 c1 c2 c3 c4 c5 c6 c7:V):aR (xS kk).P 30 (c0::c1::c2::c3::c4::c5::c6::c7::cs)=some (.agg [c0,c1,c2,c3,c4,c5,c6,c7]):=by kernel_rfl
theorem aaH:aO (xS kk).P 30=8:=by kernel_rfl
theorem Z9:aR (xS kk).P 32 (c::cs)=some c:=by kernel_rfl
theorem YY:aO (xS kk).P 32=1:=by kernel_rfl
theorem aao:aR (xS kk).P 34 (c::cs)=some c:=by kernel_rfl
theorem abl:aO (xS kk).P 34=1:=by kernel_rfl
theorem ZL:aR (xS kk).P 46 (c::cs)=some c:=by kernel_rfl
theorem aca:aO (xS kk).P 46=1:=by kernel_rfl
theorem Zf (c0 c1 c2:V):aR (xS kk).P 48 (c0::c1::c2::cs)=some (.agg [c0,c1,c2]):=by kernel_rfl
theorem acn:aO (xS kk).P 48=3:=by kernel_rfl
theorem acI (c0 c1 c2:V):aR (xS kk).P 52 (c0::c1::c2::cs)=some (.agg [c0,c1,c2]):=by kernel_rfl
theorem ZI:aO (xS kk).P 52=3:=by kernel_rfl
theorem ab5:aR (xS kk).P 53 (c::cs)=some c:=by kernel_rfl
theorem YX:aO (xS kk).P 53=1:=by kernel_rfl
theorem aak (c0 c1 c2 c3 c4 c5 c6:V):aR (xS kk).P 55 (c0::c1::c2::c3::c4::c5::c6::cs)=some (.agg [c0,c1,c2,c3,c4,c5,c6]):=by kernel_rfl
theorem aar:aO (xS kk).P 55=7:=by kernel_rfl
theorem abz (c0 c1 c2 c3 c4 c5 c6 c7 c8:V):aR (xS kk).P 57 (c0::c1::c2::c3::c4::c5::c6::c7::c8::cs)=some (.agg [c0,c1,c2,c3,c4,c5,c6,c7,c8]):=by kernel_rfl
theorem ZJ:aO (xS kk).P 57=9:=by kernel_rfl
theorem abg:aR (xS kk).P 63 (c::cs)=some c:=by kernel_rfl
theorem ab0:aO (xS kk).P 63=1:=by kernel_rfl
theorem abZ (c0 c1 c2 c3 c4 c5 c6 c7 c8 c9 c10:V):aR (xS kk).P 65 (c0::c1::c2::c3::c4::c5::c6::c7::c8::c9::c10::cs)=some (.agg [c0,c1,c2,c3,c4,c5,c6,c7,c8,c9,c10]):=by kernel_rfl
theorem Zm:aO (xS kk).P 65=11:=by kernel_rfl
theorem abx:aR (xS kk).P 86 (c::cs)=some c:=by kernel_rfl
theorem Zc:aO (xS kk).P 86=1:=by kernel_rfl
theorem Un (c0 c1:V):aR (xS kk).P 101 (c0::c1::cs)=some (.agg [c0,c1]):=by kernel_rfl
theorem UJ:aO (xS kk).P 101=2:=by kernel_rfl
theorem Xh:aR (xS kk).P 116 (c::cs)=some c:=by kernel_rfl
theorem U6:aO (xS kk).P 116=1:=by kernel_rfl
theorem XV (c0 c1 c2:V):aR (xS kk).P 129 (c0::c1::c2::cs)=some (.agg [c0,c1,c2]):=by kernel_rfl
theorem Xc:aO (xS kk).P 129=3:=by kernel_rfl
theorem Yj:aR (xS kk).P 150 (c::cs)=some c:=by kernel_rfl
theorem Vb:aO (xS kk).P 150=1:=by kernel_rfl
theorem UO (c0 c1 c2 c3 c4 c5 c6 c7 c8 c9 c10 c11 c12 c13 c14 c15:V):aR (xS kk).P 169 (c0::c1::c2::c3::c4::c5::c6::c7::c8::c9::c10::c11::c12::c13::c14::c15::cs)=some (.agg [c0,c1,c2,c3,c4,c5,c6,c7,c8,c9,c10,c11,c12,c13,c14,c15]):=by kernel_rfl
theorem T8:aO (xS kk).P 169=16:=by kernel_rfl
theorem Ws:aR (xS kk).P 170 (c::cs)=some c:=by kernel_rfl
theorem Vo:aO (xS kk).P 170=1:=by kernel_rfl
theorem Xa (c0 c1 c2 c3 c4 c5:V):aR (xS kk).P 175 (c0::c1::c2::c3::c4::c5::cs)=some (.agg [c0,c1,c2,c3,c4,c5]):=by kernel_rfl
theorem Ui:aO (xS kk).P 175=6:=by kernel_rfl
theorem UG (c0 c1:V):aR (xS kk).P 194 (c0::c1::cs)=some (.agg [c0,c1]):=by kernel_rfl
theorem Uw:aO (xS kk).P 194=2:=by kernel_rfl
theorem W3:aR (xS kk).P 206 (c::cs)=some c:=by kernel_rfl
theorem XC:aO (xS kk).P 206=1:=by kernel_rfl
theorem VK:aR (xS kk).P 223 (c::cs)=some c:=by kernel_rfl
theorem XE:aO (xS kk).P 223=1:=by kernel_rfl
theorem VC (c0 c1 c2 c3:V):aR (xS kk).P 236 (c0::c1::c2::c3::cs)=some (.agg [c0,c1,c2,c3]):=by kernel_rfl
theorem VP:aO (xS kk).P 236=4:=by kernel_rfl
theorem aen:aw (xS kk).P 1 H=some (.ptr (bo [(V.lit Value.nilFunc)] H).2.length 0 0 0,(bo [(V.lit Value.nilFunc)] H).2++[.box (bo [(V.lit Value.nilFunc)] H).1]):=by kernel_rfl
theorem aeg:aw (xS kk).P 3 H=some (.ptr (bo [(V.lit (Value.int .i64 (0)))] H).2.length 0 0 0,(bo [(V.lit (Value.int .i64 (0)))] H).2++[.box (bo [(V.lit (Value.int .i64 (0)))] H).1]):=by kernel_rfl
theorem aeo:aw (xS kk).P 4 H=some (.ptr (bo [(V.lit (Value.bool false))] H).2.length 0 0 0,(bo [(V.lit (Value.bool false))] H).2++[.box (bo [(V.lit (Value.bool false))] H).1]):=by kernel_rfl
theorem acQ:aw (xS kk).P 26 H=some (.ptr (bo [V.nil] H).2.length 0 0 0,(bo [V.nil] H).2++[.box (bo [V.nil] H).1]):=by kernel_rfl
theorem acE:aw (xS kk).P 30 H=some (.ptr (bo [(V.lit (Value.int .i64 (0))),(V.lit (Value.int .i64 (0))),(V.lit (Value.int .i64 (0))),(V.lit (Value.int .i64 (0))),V.nil,V.nil,V.nil,V.nil] H).2.length 0 0 0,(bo [(V.lit (Value.int .i64 (0))),(V.lit (Value.int .i64 (0))),(V.lit (Value.int .i64 (0))),(V.lit (Value.int .i64 (0))),V.nil,V.nil,V.nil,V.nil] H).2++[.box (bo [(V.lit (Value.int .i64 (0))),(V.lit (Value.int .i64 (0))),(V.lit (Value.int .i64 (0))),(V.lit (Value.int .i64 (0))),V.nil,V.nil,V.nil,V.nil] H).1]):=by kernel_rfl
theorem abq:aw (xS kk).P 32 H=some (.ptr (bo [(V.lit Value.nilFunc)] H).2.length 0 0 0,(bo [(V.lit Value.nilFunc)] H).2++[.box (bo [(V.lit Value.nilFunc)] H).1]):=by kernel_rfl
theorem acd:aw (xS kk).P 34 H=some (.ptr (bo [V.nil] H).2.length 0 0 0,(bo [V.nil] H).2++[.box (bo [V.nil] H).1]):=by kernel_rfl
theorem Za:aw (xS kk).P 48 H=some (.ptr (bo [(V.lit (Value.int .i64 (0))),(V.lit (Value.int .i64 (0))),(V.lit (Value.int .u64 (0)))] H).2.length 0 0 0,(bo [(V.lit (Value.int .i64 (0))),(V.lit (Value.int .i64 (0))),(V.lit (Value.int .u64 (0)))] H).2++[.box (bo [(V.lit (Value.int .i64 (0))),(V.lit (Value.int .i64 (0))),(V.lit (Value.int .u64 (0)))] H).1]):=by kernel_rfl
theorem ach:aw (xS kk).P 55 H=some (.ptr (bo [(V.lit (Value.int .i64 (0))),(V.lit (Value.int .i64 (0))),(V.lit (Value.int .i64 (0))),(V.lit (Value.int .u64 (0))),(V.lit (Value.int .u64 (0))),(V.lit (Value.int .u64 (0))),(V.lit (Value.int .i64 (0)))] H).2.length 0 0 0,(bo [(V.lit (Value.int .i64 (0))),(V.lit (Value.int .i64 (0))),(V.lit (Value.int .i64 (0))),(V.lit (Value.int .u64 (0))),(V.lit (Value.int .u64 (0))),(V.lit (Value.int .u64 (0))),(V.lit (Value.int .i64 (0)))] H).2++[.box (bo [(V.lit (Value.int .i64 (0))),(V.lit (Value.int .i64 (0))),(V.lit (Value.int .i64 (0))),(V.lit (Value.int .u64 (0))),(V.lit (Value.int .u64 (0))),(V.lit (Value.int .u64 (0))),(V.lit (Value.int .i64 (0)))] H).1]):=by kernel_rfl
theorem aaa:aw (xS kk).P 57 H=some (.ptr (bo [(V.lit (Value.int .i64 (0))),V.nil,(V.lit (Value.int .i64 (0))),(V.lit (Value.int .i64 (0))),(V.lit (Value.int .i64 (0))),(V.lit (Value.int .u64 (0))),(V.lit (Value.int .u64 (0))),(V.lit (Value.int .u64 (0))),(V.lit (Value.int .i64 (0)))] H).2.length 0 0 0,(bo [(V.lit (Value.int .i64 (0))),V.nil,(V.lit (Value.int .i64 (0))),(V.lit (Value.int .i64 (0))),(V.lit (Value.int .i64 (0))),(V.lit (Value.int .u64 (0))),(V.lit (Value.int .u64 (0))),(V.lit (Value.int .u64 (0))),(V.lit (Value.int .i64 (0)))] H).2++[.box (bo [(V.lit (Value.int .i64 (0))),V.nil,(V.lit (Value.int .i64 (0))),(V.lit (Value.int .i64 (0))),(V.lit (Value.int .i64 (0))),(V.lit (Value.int .u64 (0))),(V.lit (Value.int .u64 (0))),(V.lit (Value.int .u64 (0))),(V.lit (Value.int .i64 (0)))] H).1]):=by kernel_rfl
theorem ab9:aw (xS kk).P 65 H=some (.ptr (bo [(V.lit (Value.int .i64 (0))),V.nil,(V.lit (Value.int .i64 (0))),(V.lit (Value.int .i64 (0))),(V.lit (Value.int .i64 (0))),(V.lit (Value.int .u64 (0))),(V.lit (Value.int .u64 (0))),(V.lit (Value.int .u64 (0))),(V.lit (Value.int .i64 (0))),(V.lit (Value.int .i64 (0))),(V.lit (Value.int .i64 (0)))] H).2.length 0 0 0,(bo [(V.lit (Value.int .i64 (0))),V.nil,(V.lit (Value.int .i64 (0))),(V.lit (Value.int .i64 (0))),(V.lit (Value.int .i64 (0))),(V.lit (Value.int .u64 (0))),(V.lit (Value.int .u64 (0))),(V.lit (Value.int .u64 (0))),(V.lit (Value.int .i64 (0))),(V.lit (Value.int .i64 (0))),(V.lit (Value.int .i64 (0)))] H).2++[.box (bo [(V.lit (Value.int .i64 (0))),V.nil,(V.lit (Value.int .i64 (0))),(V.lit (Value.int .i64 (0))),(V.lit (Value.int .i64 (0))),(V.lit (Value.int .u64 (0))),(V.lit (Value.int .u64 (0))),(V.lit (Value.int .u64 (0))),(V.lit (Value.int .i64 (0))),(V.lit (Value.int .i64 (0))),(V.lit (Value.int .i64 (0)))] H).1]):=by kernel_rfl
theorem Ve:aw (xS kk).P 101 H=some (.ptr (bo [(V.lit (Value.int .i64 (0))),V.nil] H).2.length 0 0 0,(bo [(V.lit (Value.int .i64 (0))),V.nil] H).2++[.box (bo [(V.lit (Value.int .i64 (0))),V.nil] H).1]):=by kernel_rfl
theorem Va:aw (xS kk).P 129 H=some (.ptr (bo [(V.lit (Value.int .i64 (0))),(V.lit (Value.int .i64 (0))),(V.lit (Value.int .i64 (0)))] H).2.length 0 0 0,(bo [(V.lit (Value.int .i64 (0))),(V.lit (Value.int .i64 (0))),(V.lit (Value.int .i64 (0)))] H).2++[.box (bo [(V.lit (Value.int .i64 (0))),(V.lit (Value.int .i64 (0))),(V.lit (Value.int .i64 (0)))] H).1]):=by kernel_rfl
theorem UT:aw (xS kk).P 150 H=some (.ptr (bo [V.nil] H).2.length 0 0 0,(bo [V.nil] H).2++[.box (bo [V.nil] H).1]):=by kernel_rfl
theorem X8:aw (xS kk).P 169 H=some (.ptr (bo [(V.lit Value.nilFunc),(V.lit Value.nilFunc),(V.lit Value.nilFunc),(V.lit Value.nilFunc),(V.lit Value.nilFunc),(V.lit Value.nilFunc),(V.lit Value.nilFunc),(V.lit Value.nilFunc),(V.lit Value.nilFunc),(V.lit Value.nilFunc),(V.lit Value.nilFunc),(V.lit Value.nilFunc),(V.lit Value.nilFunc),(V.lit Value.nilFunc),(V.lit Value.nilFunc),(V.lit Value.nilFunc)] H).2.length 0 0 0,(bo [(V.lit Value.nilFunc),(V.lit Value.nilFunc),(V.lit Value.nilFunc),(V.lit Value.nilFunc),(V.lit Value.nilFunc),(V.lit Value.nilFunc),(V.lit Value.nilFunc),(V.lit Value.nilFunc),(V.lit Value.nilFunc),(V.lit Value.nilFunc),(V.lit Value.nilFunc),(V.lit Value.nilFunc),(V.lit Value.nilFunc),(V.lit Value.nilFunc),(V.lit Value.nilFunc),(V.lit Value.nilFunc)] H).2++[.box (bo [(V.lit Value.nilFunc),(V.lit Value.nilFunc),(V.lit Value.nilFunc),(V.lit Value.nilFunc),(V.lit Value.nilFunc),(V.lit Value.nilFunc),(V.lit Value.nilFunc),(V.lit Value.nilFunc),(V.lit Value.nilFunc),(V.lit Value.nilFunc),(V.lit Value.nilFunc),(V.lit Value.nilFunc),(V.lit Value.nilFunc),(V.lit Value.nilFunc),(V.lit Value.nilFunc),(V.lit Value.nilFunc)] H).1]):=by kernel_rfl
theorem XF:aw (xS kk).P 170 H=some (.ptr (bo [(V.lit Value.nilFunc)] H).2.length 0 0 0,(bo [(V.lit Value.nilFunc)] H).2++[.box (bo [(V.lit Value.nilFunc)] H).1]):=by kernel_rfl
theorem UK:aw (xS kk).P 175 H=some (.ptr (bo [(V.lit Value.nilFunc),(V.lit Value.nilFunc),(V.lit Value.nilFunc),(V.lit Value.nilFunc),(V.lit Value.nilFunc),(V.lit Value.nilFunc)] H).2.length 0 0 0,(bo [(V.lit Value.nilFunc),(V.lit Value.nilFunc),(V.lit Value.nilFunc),(V.lit Value.nilFunc),(V.lit Value.nilFunc),(V.lit Value.nilFunc)] H).2++[.box (bo [(V.lit Value.nilFunc),(V.lit Value.nilFunc),(V.lit Value.nilFunc),(V.lit Value.nilFunc),(V.lit Value.nilFunc),(V.lit Value.nilFunc)] H).1]):=by kernel_rfl
theorem Xm:aw (xS kk).P 194 H=some (.ptr (bo [(V.lit (Value.int .i64 (0))),(V.lit (Value.int .i64 (0)))] H).2.length 0 0 0,(bo [(V.lit (Value.int .i64 (0))),(V.lit (Value.int .i64 (0)))] H).2++[.box (bo [(V.lit (Value.int .i64 (0))),(V.lit (Value.int .i64 (0)))] H).1]):=by kernel_rfl
theorem Wj:aw (xS kk).P 223 H=some (.ptr (bo [V.nil] H).2.length 0 0 0,(bo [V.nil] H).2++[.box (bo [V.nil] H).1]):=by kernel_rfl
theorem WY:aw (xS kk).P 236 H=some (.ptr (bo [(V.lit Value.nilFunc),(V.lit Value.nilFunc),(V.lit Value.nilFunc),(V.lit Value.nilFunc)] H).2.length 0 0 0,(bo [(V.lit Value.nilFunc),(V.lit Value.nilFunc),(V.lit Value.nilFunc),(V.lit Value.nilFunc)] H).2++[.box (bo [(V.lit Value.nilFunc),(V.lit Value.nilFunc),(V.lit Value.nilFunc),(V.lit Value.nilFunc)] H).1]):=by kernel_rfl
theorem SE:aa (xS kk).P 23 (.rp cs) 0=some (.rp (cs.drop 0)):=by kernel_rfl
theorem TN (row off:Nat):aa (xS kk).P 23 (.ptr id g row off) 0=some (.ptr id g row (off+0)):=by kernel_rfl
theorem Pq:aa (xS kk).P 23 (.rp cs) 1=some (.rp (cs.drop 1)):=by kernel_rfl
theorem PN (row off:Nat):aa (xS kk).P 23 (.ptr id g row off) 1=some (.ptr id g row (off+1)):=by kernel_rfl
theorem Sm:aa (xS kk).P 23 (.rp cs) 2=some (.rp (cs.drop 2)):=by kernel_rfl
theorem QK (row off:Nat):aa (xS kk).P 23 (.ptr id g row off) 2=some (.ptr id g row (off+2)):=by kernel_rfl
theorem PC:aa (xS kk).P 23 (.rp cs) 3=some (.rp (cs.drop 3)):=by kernel_rfl
theorem TA (row off:Nat):aa (xS kk).P 23 (.ptr id g row off) 3=some (.ptr id g row (off+3)):=by kernel_rfl
theorem Qi:aa (xS kk).P 30 (.rp cs) 0=some (.rp (cs.drop 0)):=by kernel_rfl
theorem Qz (row off:Nat):aa (xS kk).P 30 (.ptr id g row off) 0=some (.ptr id g row (off+0)):=by kernel_rfl
theorem Rw:aa (xS kk).P 30 (.rp cs) 1=some (.rp (cs.drop 4)):=by kernel_rfl
theorem Qu (row off:Nat):aa (xS kk).P 30 (.ptr id g row off) 1=some (.ptr id g row (off+4)):=by kernel_rfl
theorem Sv:aa (xS kk).P 30 (.rp cs) 2=some (.rp (cs.drop 5)):=by kernel_rfl
theorem SJ (row off:Nat):aa (xS kk).P 30 (.ptr id g row off) 2=some (.ptr id g row (off+5)):=by kernel_rfl
theorem Q4:aa (xS kk).P 30 (.rp cs) 3=some (.rp (cs.drop 6)):=by kernel_rfl
theorem QV (row off:Nat):aa (xS kk).P 30 (.ptr id g row off) 3=some (.ptr id g row (off+6)):=by kernel_rfl
theorem TC:aa (xS kk).P 30 (.rp cs) 4=some (.rp (cs.drop 7)):=by kernel_rfl
theorem Rq (row off:Nat):aa (xS kk).P 30 (.ptr id g row off) 4=some (.ptr id g row (off+7)):=by kernel_rfl
theorem P3:aa (xS kk).P 48 (.rp cs) 0=some (.rp (cs.drop 0)):=by kernel_rfl
theorem Tf (row off:Nat):aa (xS kk).P 48 (.ptr id g row off) 0=some (.ptr id g row (off+0)):=by kernel_rfl
theorem PM:aa (xS kk).P 48 (.rp cs) 1=some (.rp (cs.drop 1)):=by kernel_rfl
theorem RF (row off:Nat):aa (xS kk).P 48 (.ptr id g row off) 1=some (.ptr id g row (off+1)):=by kernel_rfl
theorem QC:aa (xS kk).P 48 (.rp cs) 2=some (.rp (cs.drop 2)):=by kernel_rfl
theorem Rr (row off:Nat):aa (xS kk).P 48 (.ptr id g row off) 2=some (.ptr id g row (off+2)):=by kernel_rfl
theorem Rz:aa (xS kk).P 52 (.rp cs) 0=some (.rp (cs.drop 0)):=by kernel_rfl
theorem Pt (row off:Nat):aa (xS kk).P 52 (.ptr id g row off) 0=some (.ptr id g row (off+0)):=by kernel_rfl
theorem QN:aa (xS kk).P 55 (.rp cs) 0=some (.rp (cs.drop 0)):=by kernel_rfl
theorem Pw (row off:Nat):aa (xS kk).P 55 (.ptr id g row off) 0=some (.ptr id g row (off+0)):=by kernel_rfl
theorem TH:aa (xS kk).P 55 (.rp cs) 1=some (.rp (cs.drop 1)):=by kernel_rfl
theorem QH (row off:Nat):aa (xS kk).P 55 (.ptr id g row off) 1=some (.ptr id g row (off+1)):=by kernel_rfl
theorem Rj:aa (xS kk).P 55 (.rp cs) 2=some (.rp (cs.drop 2)):=by kernel_rfl
theorem P5 (row off:Nat):aa (xS kk).P 55 (.ptr id g row off) 2=some (.ptr id g row (off+2)):=by kernel_rfl
theorem QP:aa (xS kk).P 55 (.rp cs) 3=some (.rp (cs.drop 3)):=by kernel_rfl
theorem PL (row off:Nat):aa (xS kk).P 55 (.ptr id g row off) 3=some (.ptr id g row (off+3)):=by kernel_rfl
theorem Qd:aa (xS kk).P 55 (.rp cs) 4=some (.rp (cs.drop 4)):=by kernel_rfl
theorem Sq (row off:Nat):aa (xS kk).P 55 (.ptr id g row off) 4=some (.ptr id g row (off+4)):=by kernel_rfl
theorem So:aa (xS kk).P 55 (.rp cs) 5=some (.rp (cs.drop 5)):=by kernel_rfl
theorem TM (row off:Nat):aa (xS kk).P 55 (.ptr id g row off) 5=some (.ptr id g row (off+5)):=by kernel_rfl
theorem Tn:aa (xS kk).P 55 (.rp cs) 6=some (.rp (cs.drop 6)):=by kernel_rfl
theorem R9 (row off:Nat):aa (xS kk).P 55 (.ptr id g row off) 6=some (.ptr id g row (off+6)):=by kernel_rfl
theorem PX:aa (xS kk).P 57 (.rp cs) 0=some (.rp (cs.drop 0)):=by kernel_rfl
theorem Rm (row off:Nat):aa (xS kk).P 57 (.ptr id g row off) 0=some (.ptr id g row (off+0)):=by kernel_rfl
theorem RU:aa (xS kk).P 57 (.rp cs) 1=some (.rp (cs.drop 1)):=by kernel_rfl
theorem Sl (row off:Nat):aa (xS kk).P 57 (.ptr id g row off) 1=some (.ptr id g row (off+1)):=by kernel_rfl
theorem S9:aa (xS kk).P 57 (.rp cs) 2=some (.rp (cs.drop 2)):=by kernel_rfl
theorem PH (row off:Nat):aa (xS kk).P 57 (.ptr id g row off) 2=some (.ptr id g row (off+2)):=by kernel_rfl
theorem PU:aa (xS kk).P 65 (.rp cs) 0=some (.rp (cs.drop 0)):=by kernel_rfl
theorem RH (row off:Nat):aa (xS kk).P 65 (.ptr id g row off) 0=some (.ptr id g row (off+0)):=by kernel_rfl
theorem Q0:aa (xS kk).P 65 (.rp cs) 1=some (.rp (cs.drop 1)):=by kernel_rfl
theorem TE (row off:Nat):aa (xS kk).P 65 (.ptr id g row off) 1=some (.ptr id g row (off+1)):=by kernel_rfl
theorem PG:aa (xS kk).P 65 (.rp cs) 2=some (.rp (cs.drop 2)):=by kernel_rfl
theorem Rs (row off:Nat):aa (xS kk).P 65 (.ptr id g row off) 2=some (.ptr id g row (off+2)):=by kernel_rfl
theorem QW:aa (xS kk).P 65 (.rp cs) 3=some (.rp (cs.drop 9)):=by kernel_rfl
theorem Rn (row off:Nat):aa (xS kk).P 65 (.ptr id g row off) 3=some (.ptr id g row (off+9)):=by kernel_rfl
theorem Tg:aa (xS kk).P 65 (.rp cs) 4=some (.rp (cs.drop 10)):=by kernel_rfl
theorem Td (row off:Nat):aa (xS kk).P 65 (.ptr id g row off) 4=some (.ptr id g row (off+10)):=by kernel_rfl
theorem KS:aa (xS kk).P 101 (.rp cs) 0=some (.rp (cs.drop 0)):=by kernel_rfl
theorem Lc (row off:Nat):aa (xS kk).P 101 (.ptr id g row off) 0=some (.ptr id g row (off+0)):=by kernel_rfl
theorem MP:aa (xS kk).P 101 (.rp cs) 1=some (.rp (cs.drop 1)):=by kernel_rfl
theorem Kq (row off:Nat):aa (xS kk).P 101 (.ptr id g row off) 1=some (.ptr id g row (off+1)):=by kernel_rfl
theorem LF:aa (xS kk).P 129 (.rp cs) 0=some (.rp (cs.drop 0)):=by kernel_rfl
theorem NU (row off:Nat):aa (xS kk).P 129 (.ptr id g row off) 0=some (.ptr id g row (off+0)):=by kernel_rfl
theorem Ml:aa (xS kk).P 129 (.rp cs) 1=some (.rp (cs.drop 1)):=by kernel_rfl
theorem LV (row off:Nat):aa (xS kk).P 129 (.ptr id g row off) 1=some (.ptr id g row (off+1)):=by kernel_rfl
theorem Mo:aa (xS kk).P 129 (.rp cs) 2=some (.rp (cs.drop 2)):=by kernel_rfl
theorem Kz (row off:Nat):aa (xS kk).P 129 (.ptr id g row off) 2=some (.ptr id g row (off+2)):=by kernel_rfl
theorem Nk:aa (xS kk).P 168 (.rp cs) 0=some (.rp (cs.drop 0)):=by kernel_rfl
theorem La (row off:Nat):aa (xS kk).P 168 (.ptr id g row off) 0=some (.ptr id g row (off+0)):=by kernel_rfl
theorem LL:aa (xS kk).P 168 (.rp cs) 1=some (.rp (cs.drop 11)):=by kernel_rfl
theorem Nt (row off:Nat):aa (xS kk).P 168 (.ptr id g row off) 1=some (.ptr id g row (off+11)):=by kernel_rfl
theorem MJ:aa (xS kk).P 168 (.rp cs) 2=some (.rp (cs.drop 15)):=by kernel_rfl
theorem Lz (row off:Nat):aa (xS kk).P 168 (.ptr id g row off) 2=some (.ptr id g row (off+15)):=by kernel_rfl
theorem Mz:aa (xS kk).P 168 (.rp cs) 3=some (.rp (cs.drop 16)):=by kernel_rfl
theorem MD (row off:Nat):aa (xS kk).P 168 (.ptr id g row off) 3=some (.ptr id g row (off+16)):=by kernel_rfl
theorem M1:aa (xS kk).P 168 (.rp cs) 4=some (.rp (cs.drop 17)):=by kernel_rfl
theorem LZ (row off:Nat):aa (xS kk).P 168 (.ptr id g row off) 4=some (.ptr id g row (off+17)):=by kernel_rfl
theorem L2:aa (xS kk).P 168 (.rp cs) 5=some (.rp (cs.drop 18)):=by kernel_rfl
theorem Ny (row off:Nat):aa (xS kk).P 168 (.ptr id g row off) 5=some (.ptr id g row (off+18)):=by kernel_rfl
theorem LY:aa (xS kk).P 168 (.rp cs) 6=some (.rp (cs.drop 19)):=by kernel_rfl
theorem LX (row off:Nat):aa (xS kk).P 168 (.ptr id g row off) 6=some (.ptr id g row (off+19)):=by kernel_rfl
theorem LK:aa (xS kk).P 194 (.rp cs) 0=some (.rp (cs.drop 0)):=by kernel_rfl
theorem Nf (row off:Nat):aa (xS kk).P 194 (.ptr id g row off) 0=some (.ptr id g row (off+0)):=by kernel_rfl
theorem NJ:aa (xS kk).P 194 (.rp cs) 1=some (.rp (cs.drop 1)):=by kernel_rfl
theorem Lo (row off:Nat):aa (xS kk).P 194 (.ptr id g row off) 1=some (.ptr id g row (off+1)):=by kernel_rfl
theorem Me:aa (xS kk).P 205 (.rp cs) 0=some (.rp (cs.drop 0)):=by kernel_rfl
theorem KI (row off:Nat):aa (xS kk).P 205 (.ptr id g row off) 0=some (.ptr id g row (off+0)):=by kernel_rfl
theorem Nb:aa (xS kk).P 205 (.rp cs) 1=some (.rp (cs.drop 7)):=by kernel_rfl
theorem LR (row off:Nat):aa (xS kk).P 205 (.ptr id g row off) 1=some (.ptr id g row (off+7)):=by kernel_rfl
theorem NE:aa (xS kk).P 205 (.rp cs) 2=some (.rp (cs.drop 11)):=by kernel_rfl
theorem Mq (row off:Nat):aa (xS kk).P 205 (.ptr id g row off) 2=some (.ptr id g row (off+11)):=by kernel_rfl
theorem M0:aa (xS kk).P 221 (.rp cs) 0=some (.rp (cs.drop 0)):=by kernel_rfl
theorem Ng (row off:Nat):aa (xS kk).P 221 (.ptr id g row off) 0=some (.ptr id g row (off+0)):=by kernel_rfl
theorem Kn:aa (xS kk).P 221 (.rp cs) 1=some (.rp (cs.drop 7)):=by kernel_rfl
theorem Kw (row off:Nat):aa (xS kk).P 221 (.ptr id g row off) 1=some (.ptr id g row (off+7)):=by kernel_rfl
theorem Lx:aa (xS kk).P 221 (.rp cs) 2=some (.rp (cs.drop 11)):=by kernel_rfl
theorem Nu (row off:Nat):aa (xS kk).P 221 (.ptr id g row off) 2=some (.ptr id g row (off+11)):=by kernel_rfl
theorem Li:aa (xS kk).P 235 (.rp cs) 0=some (.rp (cs.drop 0)):=by kernel_rfl
theorem KY (row off:Nat):aa (xS kk).P 235 (.ptr id g row off) 0=some (.ptr id g row (off+0)):=by kernel_rfl
theorem K9:aa (xS kk).P 235 (.rp cs) 1=some (.rp (cs.drop 7)):=by kernel_rfl
theorem L9 (row off:Nat):aa (xS kk).P 235 (.ptr id g row off) 1=some (.ptr id g row (off+7)):=by kernel_rfl
theorem NP:aa (xS kk).P 235 (.rp cs) 2=some (.rp (cs.drop 11)):=by kernel_rfl
theorem Mf (row off:Nat):aa (xS kk).P 235 (.ptr id g row off) 2=some (.ptr id g row (off+11)):=by kernel_rfl
theorem L5:pj (xS kk).P 194 (.agg cs) 0=aR (xS kk).P 3 (cs.drop 0):=by kernel_rfl
theorem aaP (l:Tyt):aj (xS kk).P 24 (.ro (l.map an)) (.lit (.int k n)) H=(idx l n).map fun x => .rp (an x):=bN (e:=101) (by kernel_rfl) (fun x=>(by kernel_rfl:(an x).length=aO (xS kk).P 101)) (by kernel_rfl)
theorem acs:aj (xS kk).P 24 (.own id g len) (.lit (.int k n)) H=ixB 2 g len id n (H[id]?):=bf (P:=(xS kk).P) (e:=101) (by kernel_rfl) (by kernel_rfl)
theorem ZB (l:List Int):aj (xS kk).P 26 (.ro (l.map (aF .u64))) (.lit (.int k n)) H=(idx l n).map fun x => .rp ((aF .u64) x):=bN (e:=46) (by kernel_rfl) (fun x=>(by kernel_rfl:((aF .u64) x).length=aO (xS kk).P 46)) (by kernel_rfl)
theorem acr:aj (xS kk).P 26 (.own id g len) (.lit (.int k n)) H=ixB 1 g len id n (H[id]?):=bf (P:=(xS kk).P) (e:=46) (by kernel_rfl) (by kernel_rfl)
theorem Y7 (l:List Tyw):aj (xS kk).P 27 (.ro (l.map aU)) (.lit (.int k n)) H=(idx l n).map fun x => .rp (aU x):=bN (e:=65) (by kernel_rfl) (fun x=>(by kernel_rfl:(aU x).length=aO (xS kk).P 65)) (by kernel_rfl)
theorem aaI:aj (xS kk).P 27 (.own id g len) (.lit (.int k n)) H=ixB 11 g len id n (H[id]?):=bf (P:=(xS kk).P) (e:=65) (by kernel_rfl) (by kernel_rfl)
theorem acp (l:List Tys):aj (xS kk).P 28 (.ro (l.map cf)) (.lit (.int k n)) H=(idx l n).map fun x => .rp (cf x):=bN (e:=57) (by kernel_rfl) (fun x=>(by kernel_rfl:(cf x).length=aO (xS kk).P 57)) (by kernel_rfl)
theorem acF:aj (xS kk).P 28 (.own id g len) (.lit (.int k n)) H=ixB 9 g len id n (H[id]?):=bf (P:=(xS kk).P) (e:=57) (by kernel_rfl) (by kernel_rfl)
theorem YV (l:Tye):aj (xS kk).P 31 (.ro (l.map ii)) (.lit (.int k n)) H=(idx l n).map fun x => .rp (ii x):=bN (e:=48) (by kernel_rfl) (fun x=>(by kernel_rfl:(ii x).length=aO (xS kk).P 48)) (by kernel_rfl)
theorem abD:aj (xS kk).P 31 (.own id g len) (.lit (.int k n)) H=ixB 3 g len id n (H[id]?):=bf (P:=(xS kk).P) (e:=48) (by kernel_rfl) (by kernel_rfl)
theorem Z8 (l:Tye):aj (xS kk).P 34 (.ro (l.map aS)) (.lit (.int k n)) H=(idx l n).map fun x => .rp (aS x):=bN (e:=52) (by kernel_rfl) (fun x=>(by kernel_rfl:(aS x).length=aO (xS kk).P 52)) (by kernel_rfl)
theorem abL:aj (xS kk).P 34 (.own id g len) (.lit (.int k n)) H=ixB 3 g len id n (H[id]?):=bf (P:=(xS kk).P) (e:=52) (by kernel_rfl) (by kernel_rfl)
theorem ZS (l:List (List Int)):aj (xS kk).P 40 (.ro (l.map cX)) (.lit (.int k n)) H=(idx l n).map fun x => .rp (cX x):=bN (e:=53) (by kernel_rfl) (fun x=>(by kernel_rfl:(cX x).length=aO (xS kk).P 53)) (by kernel_rfl)
theorem abV:aj (xS kk).P 40 (.own id g len) (.lit (.int k n)) H=ixB 1 g len id n (H[id]?):=bf (P:=(xS kk).P) (e:=53) (by kernel_rfl) (by kernel_rfl)
theorem Z7 (l:List Int):aj (xS kk).P 53 (.ro (l.map (aF .i64))) (.lit (.int k n)) H=(idx l n).map fun x => .rp ((aF .i64) x):=bN (e:=3) (by kernel_rfl) (fun x=>(by kernel_rfl:((aF .i64) x).length=aO (xS kk).P 3)) (by kernel_rfl)
theorem aas:aj (xS kk).P 53 (.own id g len) (.lit (.int k n)) H=ixB 1 g len id n (H[id]?):=bf (P:=(xS kk).P) (e:=3) (by kernel_rfl) (by kernel_rfl)
theorem aaT (l:Tye):aj (xS kk).P 63 (.ro (l.map aS)) (.lit (.int k n)) H=(idx l n).map fun x => .rp (aS x):=bN (e:=129) (by kernel_rfl) (fun x=>(by kernel_rfl:(aS x).length=aO (xS kk).P 129)) (by kernel_rfl)
theorem aal:aj (xS kk).P 63 (.own id g len) (.lit (.int k n)) H=ixB 3 g len id n (H[id]?):=bf (P:=(xS kk).P) (e:=129) (by kernel_rfl) (by kernel_rfl)
theorem Vr (l:List Bool):aj (xS kk).P 150 (.ro (l.map kF)) (.lit (.int k n)) H=(idx l n).map fun x => .rp (kF x):=bN (e:=4) (by kernel_rfl) (fun x=>(by kernel_rfl:(kF x).length=aO (xS kk).P 4)) (by kernel_rfl)
theorem WU:aj (xS kk).P 150 (.own id g len) (.lit (.int k n)) H=ixB 1 g len id n (H[id]?):=bf (P:=(xS kk).P) (e:=4) (by kernel_rfl) (by kernel_rfl)
theorem Wh:aj (xS kk).P 207 (.own id g len) (.lit (.int k n)) H=ixB 1 g len id n (H[id]?):=bf (P:=(xS kk).P) (e:=206) (by kernel_rfl) (by kernel_rfl)
theorem X3:aj (xS kk).P 223 (.own id g len) (.lit (.int k n)) H=ixB 1 g len id n (H[id]?):=bf (P:=(xS kk).P) (e:=116) (by kernel_rfl) (by kernel_rfl)
theorem XA:aj (xS kk).P 238 (.own id g len) (.lit (.int k n)) H=ixB 1 g len id n (H[id]?):=bf (P:=(xS kk).P) (e:=1) (by kernel_rfl) (by kernel_rfl)
theorem Vh:a9 (xS kk).P 24 x H=(oJ x H).map fun v=>(v,H):=by kernel_rfl
theorem Wo:a9 (xS kk).P 25 x H=(oJ x H).map fun v=>(v,H):=by kernel_rfl
theorem Wi:a9 (xS kk).P 26 x H=(oJ x H).map fun v=>(v,H):=by kernel_rfl
theorem XO:a9 (xS kk).P 27 x H=(oJ x H).map fun v=>(v,H):=by kernel_rfl
theorem Vt:a9 (xS kk).P 28 x H=(oJ x H).map fun v=>(v,H):=by kernel_rfl
theorem XW:a9 (xS kk).P 31 x H=(oJ x H).map fun v=>(v,H):=by kernel_rfl
theorem Ub:a9 (xS kk).P 34 x H=(oJ x H).map fun v=>(v,H):=by kernel_rfl
theorem XQ:a9 (xS kk).P 40 x H=(oJ x H).map fun v=>(v,H):=by kernel_rfl
theorem Vw:a9 (xS kk).P 53 x H=(oJ x H).map fun v=>(v,H):=by kernel_rfl
theorem Xr:a9 (xS kk).P 63 x H=(oJ x H).map fun v=>(v,H):=by kernel_rfl
theorem Sf:a9 (xS kk).P 207 x H=(oJ x H).map fun v=>(v,H):=by kernel_rfl
theorem RB:a9 (xS kk).P 238 x H=(oJ x H).map fun v=>(v,H):=by kernel_rfl
theorem Mu:gL (xS kk).P wl 24 24 s x H=bd (xS kk).P wl 24 s x H:=by kernel_rfl
theorem KR:bd (xS kk).P wl 24 (.own id g len) x H=(bF x H).bind fun xs=>bif bI 2 xs then apB wl 101 2 32 id g len xs H (H[id]?) else none:=(cV (P:=(xS kk).P) (t:=24) (e:=101) (by kernel_rfl) (by kernel_rfl)).trans (by kernel_rfl)
theorem Lb:bd (xS kk).P wl 24 .nil x H=(bF x H).bind fun xs=>bif bI 2 xs then bif decide (xs.length*32≤70368744177664) then some (.own H.length 0 xs.length,H++[.rows 2 xs 0 true]) else none else none:=(cZ (P:=(xS kk).P) (t:=24) (e:=101) (by kernel_rfl) (by kernel_rfl)).trans (by kernel_rfl)
theorem NK:gL (xS kk).P wl 25 25 s x H=bd (xS kk).P wl 25 s x H:=by kernel_rfl
theorem MX:bd (xS kk).P wl 25 (.own id g len) x H=(bF x H).bind fun xs=>bif bI 1 xs then apB wl 46 1 8 id g len xs H (H[id]?) else none:=(cV (P:=(xS kk).P) (t:=25) (e:=46) (by kernel_rfl) (by kernel_rfl)).trans (by kernel_rfl)
theorem NT:bd (xS kk).P wl 25 .nil x H=(bF x H).bind fun xs=>bif bI 1 xs then bif decide (xs.length*8≤70368744177664) then some (.own H.length 0 xs.length,H++[.rows 1 xs 0 true]) else none else none:=(cZ (P:=(xS kk).P) (t:=25) (e:=46) (by kernel_rfl) (by kernel_rfl)).trans (by kernel_rfl)
theorem M9:gL (xS kk).P wl 26 26 s x H=bd (xS kk).P wl 26 s x H:=by kernel_rfl
theorem MW:bd (xS kk).P wl 26 (.own id g len) x H=(bF x H).bind fun xs=>bif bI 1 xs then apB wl 46 1 8 id g len xs H (H[id]?) else none:=(cV (P:=(xS kk).P) (t:=26) (e:=46) (by kernel_rfl) (by kernel_rfl)).trans (by kernel_rfl)
theorem Ls:bd (xS kk).P wl 26 .nil x H=(bF x H).bind fun xs=>bif bI 1 xs then bif decide (xs.length*8≤70368744177664) then some (.own H.length 0 xs.length,H++[.rows 1 xs 0 true]) else none else none:=(cZ (P:=(xS kk).P) (t:=26) (e:=46) (by kernel_rfl) (by kernel_rfl)).trans (by kernel_rfl)
theorem L3:gL (xS kk).P wl 27 27 s x H=bd (xS kk).P wl 27 s x H:=by kernel_rfl
theorem K3:bd (xS kk).P wl 27 (.own id g len) x H=(bF x H).bind fun xs=>bif bI 11 xs then apB wl 65 11 104 id g len xs H (H[id]?) else none:=(cV (P:=(xS kk).P) (t:=27) (e:=65) (by kernel_rfl) (by kernel_rfl)).trans (by kernel_rfl)
theorem Mj:bd (xS kk).P wl 27 .nil x H=(bF x H).bind fun xs=>bif bI 11 xs then bif decide (xs.length*104≤70368744177664) then some (.own H.length 0 xs.length,H++[.rows 11 xs 0 true]) else none else none:=(cZ (P:=(xS kk).P) (t:=27) (e:=65) (by kernel_rfl) (by kernel_rfl)).trans (by kernel_rfl)
theorem NW:gL (xS kk).P wl 28 28 s x H=bd (xS kk).P wl 28 s x H:=by kernel_rfl
theorem Lh:bd (xS kk).P wl 28 (.own id g len) x H=(bF x H).bind fun xs=>bif bI 9 xs then apB wl 57 9 88 id g len xs H (H[id]?) else none:=(cV (P:=(xS kk).P) (t:=28) (e:=57) (by kernel_rfl) (by kernel_rfl)).trans (by kernel_rfl)
theorem KD:bd (xS kk).P wl 28 .nil x H=(bF x H).bind fun xs=>bif bI 9 xs then bif decide (xs.length*88≤70368744177664) then some (.own H.length 0 xs.length,H++[.rows 9 xs 0 true]) else none else none:=(cZ (P:=(xS kk).P) (t:=28) (e:=57) (by kernel_rfl) (by kernel_rfl)).trans (by kernel_rfl)
theorem NH:gL (xS kk).P wl 34 34 s x H=bd (xS kk).P wl 34 s x H:=by kernel_rfl
theorem Mg:bd (xS kk).P wl 34 (.own id g len) x H=(bF x H).bind fun xs=>bif bI 3 xs then apB wl 52 3 24 id g len xs H (H[id]?) else none:=(cV (P:=(xS kk).P) (t:=34) (e:=52) (by kernel_rfl) (by kernel_rfl)).trans (by kernel_rfl)
theorem K6:bd (xS kk).P wl 34 .nil x H=(bF x H).bind fun xs=>bif bI 3 xs then bif decide (xs.length*24≤70368744177664) then some (.own H.length 0 xs.length,H++[.rows 3 xs 0 true]) else none else none:=(cZ (P:=(xS kk).P) (t:=34) (e:=52) (by kernel_rfl) (by kernel_rfl)).trans (by kernel_rfl)
theorem LG:gL (xS kk).P wl 53 53 s x H=bd (xS kk).P wl 53 s x H:=by kernel_rfl
theorem MM:bd (xS kk).P wl 53 (.own id g len) x H=(bF x H).bind fun xs=>bif bI 1 xs then apB wl 3 1 8 id g len xs H (H[id]?) else none:=(cV (P:=(xS kk).P) (t:=53) (e:=3) (by kernel_rfl) (by kernel_rfl)).trans (by kernel_rfl)
theorem Mn:bd (xS kk).P wl 53 .nil x H=(bF x H).bind fun xs=>bif bI 1 xs then bif decide (xs.length*8≤70368744177664) then some (.own H.length 0 xs.length,H++[.rows 1 xs 0 true]) else none else none:=(cZ (P:=(xS kk).P) (t:=53) (e:=3) (by kernel_rfl) (by kernel_rfl)).trans (by kernel_rfl)
theorem NS:gL (xS kk).P wl 63 63 s x H=bd (xS kk).P wl 63 s x H:=by kernel_rfl
theorem NQ:bd (xS kk).P wl 63 (.own id g len) x H=(bF x H).bind fun xs=>bif bI 3 xs then apB wl 129 3 24 id g len xs H (H[id]?) else none:=(cV (P:=(xS kk).P) (t:=63) (e:=129) (by kernel_rfl) (by kernel_rfl)).trans (by kernel_rfl)
theorem MY:bd (xS kk).P wl 63 .nil x H=(bF x H).bind fun xs=>bif bI 3 xs then bif decide (xs.length*24≤70368744177664) then some (.own H.length 0 xs.length,H++[.rows 3 xs 0 true]) else none else none:=(cZ (P:=(xS kk).P) (t:=63) (e:=129) (by kernel_rfl) (by kernel_rfl)).trans (by kernel_rfl)
theorem ace (c:Bool):bV (xS kk).P wl c 53 (.own id g len) none (some (.lit (.int k n))) none H=slB g len id n H (H[id]?):=kW (P:=(xS kk).P) (e:=3) (by kernel_rfl) (by kernel_rfl)
theorem abf (c:Bool) (l:List Int):bV (xS kk).P wl c 53 (.ro (l.map (aF .i64))) none (some (.lit (.int k n))) none H=bif decide (0≤n∧n≤l.length) then some (.ro ((l.take n.toNat).map (aF .i64)),H) else none:=mV (P:=(xS kk).P) (e:=3) (by kernel_rfl) (by kernel_rfl) (fun x=>(by kernel_rfl:((aF .i64) x).length=aO (xS kk).P 3))
theorem acB (c:Bool) (l:List Int):bV (xS kk).P wl c 53 (.ro (l.map (aF .i64))) (some (.lit (.int k n))) none none H=bif decide (0≤n∧n≤l.length) then some (.ro ((l.drop n.toNat).map (aF .i64)),H) else none:=mt (P:=(xS kk).P) (e:=3) (by kernel_rfl) (by kernel_rfl) (fun x=>(by kernel_rfl:((aF .i64) x).length=aO (xS kk).P 3))
theorem abA (c:Bool) (l:List Int) (k2:IntKind) (lo:Int):bV (xS kk).P wl c 53 (.ro (l.map (aF .i64))) (some (.lit (.int k lo))) (some (.lit (.int k2 n))) none H=bif decide (0≤lo∧lo≤n∧n≤l.length) then some (.ro (((l.take n.toNat).drop lo.toNat).map (aF .i64)),H) else none:=iW (P:=(xS kk).P) (e:=3) (by kernel_rfl) (by kernel_rfl) (fun x=>(by kernel_rfl:((aF .i64) x).length=aO (xS kk).P 3))
theorem ZH (c:Bool):bV (xS kk).P wl c 63 (.own id g len) none (some (.lit (.int k n))) none H=slB g len id n H (H[id]?):=kW (P:=(xS kk).P) (e:=129) (by kernel_rfl) (by kernel_rfl)
theorem aa8 (c:Bool) (l:Tye):bV (xS kk).P wl c 63 (.ro (l.map aS)) none (some (.lit (.int k n))) none H=bif decide (0≤n∧n≤l.length) then some (.ro ((l.take n.toNat).map aS),H) else none:=mV (P:=(xS kk).P) (e:=129) (by kernel_rfl) (by kernel_rfl) (fun x=>(by kernel_rfl:(aS x).length=aO (xS kk).P 129))
theorem aaD (c:Bool) (l:Tye):bV (xS kk).P wl c 63 (.ro (l.map aS)) (some (.lit (.int k n))) none none H=bif decide (0≤n∧n≤l.length) then some (.ro ((l.drop n.toNat).map aS),H) else none:=mt (P:=(xS kk).P) (e:=129) (by kernel_rfl) (by kernel_rfl) (fun x=>(by kernel_rfl:(aS x).length=aO (xS kk).P 129))
theorem acX (c:Bool) (l:Tye) (k2:IntKind) (lo:Int):bV (xS kk).P wl c 63 (.ro (l.map aS)) (some (.lit (.int k lo))) (some (.lit (.int k2 n))) none H=bif decide (0≤lo∧lo≤n∧n≤l.length) then some (.ro (((l.take n.toNat).drop lo.toNat).map aS),H) else none:=iW (P:=(xS kk).P) (e:=129) (by kernel_rfl) (by kernel_rfl) (fun x=>(by kernel_rfl:(aS x).length=aO (xS kk).P 129))
theorem WH:bc (xS kk).P 150 (.lit (.int .i64 n)) (.lit (.int .i64 n)) H=bif decide (0≤n∧n≤9223372036854775807∧n*1≤70368744177664) then some (.own H.length 0 n.toNat,H++[.rows 1 (List.replicate n.toNat [(V.lit (Value.bool false))]) 0 true]) else none:=wL (P:=(xS kk).P) (t:=150) (e:=4) (z:=((en (xS kk).P 4).getD default)) (by kernel_rfl) (by kernel_rfl) (by kernel_rfl) (by kernel_rfl)
theorem Qy:fi (xS kk).P 3 46 (.lit (.int k n))=some (.lit (.int .u64 (IntKind.wrap .u64 n))):=by kernel_rfl
theorem TQ:fi (xS kk).P 46 3 (.lit (.int k n))=some (.lit (.int .i64 (IntKind.wrap .i64 n))):=by kernel_rfl
theorem aaO (a0 b0:Int) (a1 b1:Int) (a2 b2:Int) (a3 b3:Int):au (xS kk).P .eql 23 (.agg [.lit (.int .i64 a0),.lit (.int .i64 a1),.lit (.int .i64 a2),.lit (.int .i64 a3)]) (.agg [.lit (.int .i64 b0),.lit (.int .i64 b1),.lit (.int .i64 b2),.lit (.int .i64 b3)])=some (.lit (.bool ((a0==b0)&&((a1==b1)&&((a2==b2)&&((a3==b3)&&true)))))):=by kernel_rfl
theorem acw (a0 b0:Int) (a1 b1:Int) (a2 b2:Int) (a3 b3:Int):au (xS kk).P .neq 23 (.agg [.lit (.int .i64 a0),.lit (.int .i64 a1),.lit (.int .i64 a2),.lit (.int .i64 a3)]) (.agg [.lit (.int .i64 b0),.lit (.int .i64 b1),.lit (.int .i64 b2),.lit (.int .i64 b3)])=some (.lit (.bool (!((a0==b0)&&((a1==b1)&&((a2==b2)&&((a3==b3)&&true))))))):=by kernel_rfl
theorem ZX (a0 b0:Int) (a1 b1:Int) (a2 b2:Int):au (xS kk).P .eql 52 (.agg [.lit (.int .i64 a0),.lit (.int .i64 a1),.lit (.int .i64 a2)]) (.agg [.lit (.int .i64 b0),.lit (.int .i64 b1),.lit (.int .i64 b2)])=some (.lit (.bool ((a0==b0)&&((a1==b1)&&((a2==b2)&&true))))):=by kernel_rfl
theorem abN (a0 b0:Int) (a1 b1:Int) (a2 b2:Int):au (xS kk).P .neq 52 (.agg [.lit (.int .i64 a0),.lit (.int .i64 a1),.lit (.int .i64 a2)]) (.agg [.lit (.int .i64 b0),.lit (.int .i64 b1),.lit (.int .i64 b2)])=some (.lit (.bool (!((a0==b0)&&((a1==b1)&&((a2==b2)&&true)))))):=by kernel_rfl
theorem abr (a0 b0:Int) (a1 b1:Int) (a2 b2:Int) (a3 b3:Int) (a4 b4:Int) (a5 b5:Int) (a6 b6:Int):au (xS kk).P .eql 55 (.agg [.lit (.int .i64 a0),.lit (.int .i64 a1),.lit (.int .i64 a2),.lit (.int .u64 a3),.lit (.int .u64 a4),.lit (.int .u64 a5),.lit (.int .i64 a6)]) (.agg [.lit (.int .i64 b0),.lit (.int .i64 b1),.lit (.int .i64 b2),.lit (.int .u64 b3),.lit (.int .u64 b4),.lit (.int .u64 b5),.lit (.int .i64 b6)])=some (.lit (.bool ((a0==b0)&&((a1==b1)&&((a2==b2)&&((a3==b3)&&((a4==b4)&&((a5==b5)&&((a6==b6)&&true))))))))):=by kernel_rfl
theorem ack (a0 b0:Int) (a1 b1:Int) (a2 b2:Int) (a3 b3:Int) (a4 b4:Int) (a5 b5:Int) (a6 b6:Int):au (xS kk).P .neq 55 (.agg [.lit (.int .i64 a0),.lit (.int .i64 a1),.lit (.int .i64 a2),.lit (.int .u64 a3),.lit (.int .u64 a4),.lit (.int .u64 a5),.lit (.int .i64 a6)]) (.agg [.lit (.int .i64 b0),.lit (.int .i64 b1),.lit (.int .i64 b2),.lit (.int .u64 b3),.lit (.int .u64 b4),.lit (.int .u64 b5),.lit (.int .i64 b6)])=some (.lit (.bool (!((a0==b0)&&((a1==b1)&&((a2==b2)&&((a3==b3)&&((a4==b4)&&((a5==b5)&&((a6==b6)&&true)))))))))):=by kernel_rfl
theorem Vx (a0 b0:Int) (a1 b1:Int) (a2 b2:Int):au (xS kk).P .eql 129 (.agg [.lit (.int .i64 a0),.lit (.int .i64 a1),.lit (.int .i64 a2)]) (.agg [.lit (.int .i64 b0),.lit (.int .i64 b1),.lit (.int .i64 b2)])=some (.lit (.bool ((a0==b0)&&((a1==b1)&&((a2==b2)&&true))))):=by kernel_rfl
theorem W1 (a0 b0:Int) (a1 b1:Int) (a2 b2:Int):au (xS kk).P .neq 129 (.agg [.lit (.int .i64 a0),.lit (.int .i64 a1),.lit (.int .i64 a2)]) (.agg [.lit (.int .i64 b0),.lit (.int .i64 b1),.lit (.int .i64 b2)])=some (.lit (.bool (!((a0==b0)&&((a1==b1)&&((a2==b2)&&true)))))):=by kernel_rfl
theorem Di (c0 c1 c2:V):a8 (xS kk).P 23 [(0,c0),(1,c1),(2,c2)]=(mS [(V.lit (Value.int .i64 (0))),(V.lit (Value.int .i64 (0))),(V.lit (Value.int .i64 (0))),(V.lit (Value.int .i64 (0)))] [(0,1,c0),(1,1,c1),(2,1,c2)]).map .agg:=by kernel_rfl
theorem Vu:a8 (xS kk).P 30 []=(mS [(V.lit (Value.int .i64 (0))),(V.lit (Value.int .i64 (0))),(V.lit (Value.int .i64 (0))),(V.lit (Value.int .i64 (0))),V.nil,V.nil,V.nil,V.nil] []).map .agg:=by kernel_rfl
theorem C6 (c0 c1 c2:V):a8 (xS kk).P 30 [(0,c0),(1,c1),(2,c2)]=(mS [(V.lit (Value.int .i64 (0))),(V.lit (Value.int .i64 (0))),(V.lit (Value.int .i64 (0))),(V.lit (Value.int .i64 (0))),V.nil,V.nil,V.nil,V.nil] [(0,4,c0),(4,1,c1),(5,1,c2)]).map .agg:=by kernel_rfl
theorem Vm:a8 (xS kk).P 48 []=(mS [(V.lit (Value.int .i64 (0))),(V.lit (Value.int .i64 (0))),(V.lit (Value.int .u64 (0)))] []).map .agg:=by kernel_rfl
theorem Ra (c0:V):a8 (xS kk).P 48 [(0,c0)]=(mS [(V.lit (Value.int .i64 (0))),(V.lit (Value.int .i64 (0))),(V.lit (Value.int .u64 (0)))] [(0,1,c0)]).map .agg:=by kernel_rfl
theorem C8 (c0 c1 c2:V):a8 (xS kk).P 52 [(0,c0),(1,c1),(2,c2)]=(mS [(V.lit (Value.int .i64 (0))),(V.lit (Value.int .i64 (0))),(V.lit (Value.int .i64 (0)))] [(0,1,c0),(1,1,c1),(2,1,c2)]).map .agg:=by kernel_rfl
theorem Vi:a8 (xS kk).P 55 []=(mS [(V.lit (Value.int .i64 (0))),(V.lit (Value.int .i64 (0))),(V.lit (Value.int .i64 (0))),(V.lit (Value.int .u64 (0))),(V.lit (Value.int .u64 (0))),(V.lit (Value.int .u64 (0))),(V.lit (Value.int .i64 (0)))] []).map .agg:=by kernel_rfl
theorem DG (c0 c1 c2:V):a8 (xS kk).P 55 [(0,c0),(2,c1),(3,c2)]=(mS [(V.lit (Value.int .i64 (0))),(V.lit (Value.int .i64 (0))),(V.lit (Value.int .i64 (0))),(V.lit (Value.int .u64 (0))),(V.lit (Value.int .u64 (0))),(V.lit (Value.int .u64 (0))),(V.lit (Value.int .i64 (0)))] [(0,1,c0),(2,1,c1),(3,1,c2)]).map .agg:=by kernel_rfl
theorem w7 (c0 c1 c2 c3:V):a8 (xS kk).P 55 [(0,c0),(2,c1),(3,c2),(6,c3)]=(mS [(V.lit (Value.int .i64 (0))),(V.lit (Value.int .i64 (0))),(V.lit (Value.int .i64 (0))),(V.lit (Value.int .u64 (0))),(V.lit (Value.int .u64 (0))),(V.lit (Value.int .u64 (0))),(V.lit (Value.int .i64 (0)))] [(0,1,c0),(2,1,c1),(3,1,c2),(6,1,c3)]).map .agg:=by kernel_rfl
theorem CO (c0 c1 c2:V):a8 (xS kk).P 57 [(0,c0),(1,c1),(2,c2)]=(mS [(V.lit (Value.int .i64 (0))),V.nil,(V.lit (Value.int .i64 (0))),(V.lit (Value.int .i64 (0))),(V.lit (Value.int .i64 (0))),(V.lit (Value.int .u64 (0))),(V.lit (Value.int .u64 (0))),(V.lit (Value.int .u64 (0))),(V.lit (Value.int .i64 (0)))] [(0,1,c0),(1,1,c1),(2,7,c2)]).map .agg:=by kernel_rfl
theorem SI (c0:V):a8 (xS kk).P 57 [(1,c0)]=(mS [(V.lit (Value.int .i64 (0))),V.nil,(V.lit (Value.int .i64 (0))),(V.lit (Value.int .i64 (0))),(V.lit (Value.int .i64 (0))),(V.lit (Value.int .u64 (0))),(V.lit (Value.int .u64 (0))),(V.lit (Value.int .u64 (0))),(V.lit (Value.int .i64 (0)))] [(1,1,c0)]).map .agg:=by kernel_rfl
theorem Ps (c0:V):a8 (xS kk).P 65 [(2,c0)]=(mS [(V.lit (Value.int .i64 (0))),V.nil,(V.lit (Value.int .i64 (0))),(V.lit (Value.int .i64 (0))),(V.lit (Value.int .i64 (0))),(V.lit (Value.int .u64 (0))),(V.lit (Value.int .u64 (0))),(V.lit (Value.int .u64 (0))),(V.lit (Value.int .i64 (0))),(V.lit (Value.int .i64 (0))),(V.lit (Value.int .i64 (0)))] [(2,7,c0)]).map .agg:=by kernel_rfl
theorem LA (c0:V):a8 (xS kk).P 129 [(0,c0)]=(mS [(V.lit (Value.int .i64 (0))),(V.lit (Value.int .i64 (0))),(V.lit (Value.int .i64 (0)))] [(0,1,c0)]).map .agg:=by kernel_rfl
theorem my (c0 c1 c2 c3 c4 c5:V):a8 (xS kk).P 168 [(0,c0),(1,c1),(2,c2),(3,c3),(4,c4),(5,c5)]=(mS [(V.lit (Value.int .i64 (0))),V.nil,(V.lit (Value.int .i64 (0))),(V.lit (Value.int .i64 (0))),(V.lit (Value.int .i64 (0))),(V.lit (Value.int .u64 (0))),(V.lit (Value.int .u64 (0))),(V.lit (Value.int .u64 (0))),(V.lit (Value.int .i64 (0))),(V.lit (Value.int .i64 (0))),(V.lit (Value.int .i64 (0))),(V.lit (Value.int .i64 (0))),(V.lit (Value.int .i64 (0))),(V.lit (Value.int .i64 (0))),(V.lit (Value.int .i64 (0))),V.nil,V.nil,(V.lit (Value.int .i64 (0))),(V.lit (Value.int .u64 (0))),V.nil] [(0,11,c0),(11,4,c1),(15,1,c2),(16,1,c3),(17,1,c4),(18,1,c5)]).map .agg:=by kernel_rfl
theorem dl (c0 c1 c2 c3 c4 c5 c6 c7 c8 c9 c10 c11 c12 c13 c14 c15:V):a8 (xS kk).P 169 [(0,c0),(1,c1),(2,c2),(3,c3),(4,c4),(5,c5),(6,c6),(7,c7),(8,c8),(9,c9),(10,c10),(11,c11),(12,c12),(13,c13),(14,c14),(15,c15)]=(mS [(V.lit Value.nilFunc),(V.lit Value.nilFunc),(V.lit Value.nilFunc),(V.lit Value.nilFunc),(V.lit Value.nilFunc),(V.lit Value.nilFunc),(V.lit Value.nilFunc),(V.lit Value.nilFunc),(V.lit Value.nilFunc),(V.lit Value.nilFunc),(V.lit Value.nilFunc),(V.lit Value.nilFunc),(V.lit Value.nilFunc),(V.lit Value.nilFunc),(V.lit Value.nilFunc),(V.lit Value.nilFunc)] [(0,1,c0),(1,1,c1),(2,1,c2),(3,1,c3),(4,1,c4),(5,1,c5),(6,1,c6),(7,1,c7),(8,1,c8),(9,1,c9),(10,1,c10),(11,1,c11),(12,1,c12),(13,1,c13),(14,1,c14),(15,1,c15)]).map .agg:=by kernel_rfl
theorem mz (c0 c1 c2 c3 c4 c5:V):a8 (xS kk).P 175 [(0,c0),(1,c1),(2,c2),(3,c3),(4,c4),(5,c5)]=(mS [(V.lit Value.nilFunc),(V.lit Value.nilFunc),(V.lit Value.nilFunc),(V.lit Value.nilFunc),(V.lit Value.nilFunc),(V.lit Value.nilFunc)] [(0,1,c0),(1,1,c1),(2,1,c2),(3,1,c3),(4,1,c4),(5,1,c5)]).map .agg:=by kernel_rfl
theorem Tq:a8 (xS kk).P 194 []=(mS [(V.lit (Value.int .i64 (0))),(V.lit (Value.int .i64 (0)))] []).map .agg:=by kernel_rfl
theorem Gi (c0 c1:V):a8 (xS kk).P 194 [(0,c0),(1,c1)]=(mS [(V.lit (Value.int .i64 (0))),(V.lit (Value.int .i64 (0)))] [(0,1,c0),(1,1,c1)]).map .agg:=by kernel_rfl
theorem AG (c0 c1 c2:V):a8 (xS kk).P 205 [(0,c0),(1,c1),(2,c2)]=(mS [(V.lit (Value.int .i64 (0))),(V.lit (Value.int .i64 (0))),(V.lit (Value.int .i64 (0))),(V.lit (Value.int .u64 (0))),(V.lit (Value.int .u64 (0))),(V.lit (Value.int .u64 (0))),(V.lit (Value.int .i64 (0))),(V.lit (Value.int .i64 (0))),(V.lit (Value.int .i64 (0))),(V.lit (Value.int .i64 (0))),(V.lit (Value.int .i64 (0))),V.nil] [(0,7,c0),(7,4,c1),(11,1,c2)]).map .agg:=by kernel_rfl
theorem Bp (c0 c1 c2:V):a8 (xS kk).P 221 [(0,c0),(1,c1),(2,c2)]=(mS [(V.lit (Value.int .i64 (0))),(V.lit (Value.int .i64 (0))),(V.lit (Value.int .i64 (0))),(V.lit (Value.int .u64 (0))),(V.lit (Value.int .u64 (0))),(V.lit (Value.int .u64 (0))),(V.lit (Value.int .i64 (0))),(V.lit (Value.int .i64 (0))),(V.lit (Value.int .i64 (0))),(V.lit (Value.int .i64 (0))),(V.lit (Value.int .i64 (0))),V.nil] [(0,7,c0),(7,4,c1),(11,1,c2)]).map .agg:=by kernel_rfl
theorem BL (c0 c1 c2:V):a8 (xS kk).P 235 [(0,c0),(1,c1),(2,c2)]=(mS [(V.lit (Value.int .i64 (0))),(V.lit (Value.int .i64 (0))),(V.lit (Value.int .i64 (0))),(V.lit (Value.int .u64 (0))),(V.lit (Value.int .u64 (0))),(V.lit (Value.int .u64 (0))),(V.lit (Value.int .i64 (0))),(V.lit (Value.int .i64 (0))),(V.lit (Value.int .i64 (0))),(V.lit (Value.int .i64 (0))),(V.lit (Value.int .i64 (0))),V.nil] [(0,7,c0),(7,4,c1),(11,1,c2)]).map .agg:=by kernel_rfl
theorem rG (c0 c1 c2 c3:V):a8 (xS kk).P 236 [(0,c0),(1,c1),(2,c2),(3,c3)]=(mS [(V.lit Value.nilFunc),(V.lit Value.nilFunc),(V.lit Value.nilFunc),(V.lit Value.nilFunc)] [(0,1,c0),(1,1,c1),(2,1,c2),(3,1,c3)]).map .agg:=by kernel_rfl
theorem Sy (l:List (Nat×V)):aA (xS kk).P wl 24 0 l H=(ep wl 2 l [] H).bind fun p=>some (.own p.2.length 0 0,p.2++[.rows 2 p.1 0 true]):=by kernel_rfl
theorem SX (l:List (Nat×V)):aA (xS kk).P wl 25 1 l H=(ep wl 1 l [[(V.lit (Value.int .u64 (0)))]] H).bind fun p=>some (.own p.2.length 0 1,p.2++[.rows 1 p.1 0 true]):=by kernel_rfl
theorem Sw (l:List (Nat×V)):aA (xS kk).P wl 26 0 l H=(ep wl 1 l [] H).bind fun p=>some (.own p.2.length 0 0,p.2++[.rows 1 p.1 0 true]):=by kernel_rfl
theorem Sn (l:List (Nat×V)):aA (xS kk).P wl 26 1 l H=(ep wl 1 l [[(V.lit (Value.int .u64 (0)))]] H).bind fun p=>some (.own p.2.length 0 1,p.2++[.rows 1 p.1 0 true]):=by kernel_rfl
theorem PZ (l:List (Nat×V)):aA (xS kk).P wl 27 0 l H=(ep wl 11 l [] H).bind fun p=>some (.own p.2.length 0 0,p.2++[.rows 11 p.1 0 true]):=by kernel_rfl
theorem Sa (l:List (Nat×V)):aA (xS kk).P wl 27 1 l H=(ep wl 11 l [[(V.lit (Value.int .i64 (0))),V.ro [],(V.lit (Value.int .i64 (0))),(V.lit (Value.int .i64 (0))),(V.lit (Value.int .i64 (0))),(V.lit (Value.int .u64 (0))),(V.lit (Value.int .u64 (0))),(V.lit (Value.int .u64 (0))),(V.lit (Value.int .i64 (0))),(V.lit (Value.int .i64 (0))),(V.lit (Value.int .i64 (0)))]] H).bind fun p=>some (.own p.2.length 0 1,p.2++[.rows 11 p.1 0 true]):=by kernel_rfl
theorem SR (l:List (Nat×V)):aA (xS kk).P wl 28 0 l H=(ep wl 9 l [] H).bind fun p=>some (.own p.2.length 0 0,p.2++[.rows 9 p.1 0 true]):=by kernel_rfl
theorem Rf (l:List (Nat×V)):aA (xS kk).P wl 28 1 l H=(ep wl 9 l [[(V.lit (Value.int .i64 (0))),V.ro [],(V.lit (Value.int .i64 (0))),(V.lit (Value.int .i64 (0))),(V.lit (Value.int .i64 (0))),(V.lit (Value.int .u64 (0))),(V.lit (Value.int .u64 (0))),(V.lit (Value.int .u64 (0))),(V.lit (Value.int .i64 (0)))]] H).bind fun p=>some (.own p.2.length 0 1,p.2++[.rows 9 p.1 0 true]):=by kernel_rfl
theorem SS (l:List (Nat×V)):aA (xS kk).P wl 31 1 l H=(ep wl 3 l [[(V.lit (Value.int .i64 (0))),(V.lit (Value.int .i64 (0))),(V.lit (Value.int .u64 (0)))]] H).bind fun p=>some (.own p.2.length 0 1,p.2++[.rows 3 p.1 0 true]):=by kernel_rfl
theorem Tj (l:List (Nat×V)):aA (xS kk).P wl 31 2 l H=(ep wl 3 l [[(V.lit (Value.int .i64 (0))),(V.lit (Value.int .i64 (0))),(V.lit (Value.int .u64 (0)))],[(V.lit (Value.int .i64 (0))),(V.lit (Value.int .i64 (0))),(V.lit (Value.int .u64 (0)))]] H).bind fun p=>some (.own p.2.length 0 2,p.2++[.rows 3 p.1 0 true]):=by kernel_rfl
theorem Qb (l:List (Nat×V)):aA (xS kk).P wl 34 1 l H=(ep wl 3 l [[(V.lit (Value.int .i64 (0))),(V.lit (Value.int .i64 (0))),(V.lit (Value.int .i64 (0)))]] H).bind fun p=>some (.own p.2.length 0 1,p.2++[.rows 3 p.1 0 true]):=by kernel_rfl
theorem Py (l:List (Nat×V)):aA (xS kk).P wl 53 0 l H=(ep wl 1 l [] H).bind fun p=>some (.own p.2.length 0 0,p.2++[.rows 1 p.1 0 true]):=by kernel_rfl
theorem Pr (l:List (Nat×V)):aA (xS kk).P wl 53 1 l H=(ep wl 1 l [[(V.lit (Value.int .i64 (0)))]] H).bind fun p=>some (.own p.2.length 0 1,p.2++[.rows 1 p.1 0 true]):=by kernel_rfl
theorem QI (l:List (Nat×V)):aA (xS kk).P wl 53 5 l H=(ep wl 1 l [[(V.lit (Value.int .i64 (0)))],[(V.lit (Value.int .i64 (0)))],[(V.lit (Value.int .i64 (0)))],[(V.lit (Value.int .i64 (0)))],[(V.lit (Value.int .i64 (0)))]] H).bind fun p=>some (.own p.2.length 0 5,p.2++[.rows 1 p.1 0 true]):=by kernel_rfl
theorem Qq (l:List (Nat×V)):aA (xS kk).P wl 63 0 l H=(ep wl 3 l [] H).bind fun p=>some (.own p.2.length 0 0,p.2++[.rows 3 p.1 0 true]):=by kernel_rfl
theorem Rt (l:List (Nat×V)):aA (xS kk).P wl 63 1 l H=(ep wl 3 l [[(V.lit (Value.int .i64 (0))),(V.lit (Value.int .i64 (0))),(V.lit (Value.int .i64 (0)))]] H).bind fun p=>some (.own p.2.length 0 1,p.2++[.rows 3 p.1 0 true]):=by kernel_rfl
theorem Ni (l:List (Nat×V)):aA (xS kk).P wl 207 5 l H=(ep wl 1 l [[(V.lit Value.nilFunc)],[(V.lit Value.nilFunc)],[(V.lit Value.nilFunc)],[(V.lit Value.nilFunc)],[(V.lit Value.nilFunc)]] H).bind fun p=>some (.own p.2.length 0 5,p.2++[.rows 1 p.1 0 true]):=by kernel_rfl
theorem Le (l:List (Nat×V)):aA (xS kk).P wl 223 5 l H=(ep wl 1 l [[(V.lit Value.nilFunc)],[(V.lit Value.nilFunc)],[(V.lit Value.nilFunc)],[(V.lit Value.nilFunc)],[(V.lit Value.nilFunc)]] H).bind fun p=>some (.own p.2.length 0 5,p.2++[.rows 1 p.1 0 true]):=by kernel_rfl
theorem K5 (l:List (Nat×V)):aA (xS kk).P wl 238 4 l H=(ep wl 1 l [[(V.lit Value.nilFunc)],[(V.lit Value.nilFunc)],[(V.lit Value.nilFunc)],[(V.lit Value.nilFunc)]] H).bind fun p=>some (.own p.2.length 0 4,p.2++[.rows 1 p.1 0 true]):=by kernel_rfl
theorem Wv (v:V):dS (xS kk).P wl 138 (.map id) (.lit (.int .i64 n)) v H=inB wl .i64 id n v H (H[id]?):=by kernel_rfl
theorem Yg (ok:Bool):eY (xS kk).P 138 (.map id) (.lit (.int .i64 n)) ok H=lkB .i64 (V.lit Value.nilFunc) ok n (H[id]?):=by kernel_rfl
theorem WC (v:V):dS (xS kk).P wl 201 (.map id) (.lit (.int .i64 n)) v H=inB wl .i64 id n v H (H[id]?):=by kernel_rfl
theorem UW (ok:Bool):eY (xS kk).P 201 (.map id) (.lit (.int .i64 n)) ok H=lkB .i64 (V.lit Value.nilFunc) ok n (H[id]?):=by kernel_rfl
theorem T3 (v:V):dS (xS kk).P wl 212 (.map id) (.lit (.int .i64 n)) v H=inB wl .i64 id n v H (H[id]?):=by kernel_rfl
theorem WR (ok:Bool):eY (xS kk).P 212 (.map id) (.lit (.int .i64 n)) ok H=lkB .i64 (V.lit Value.nilFunc) ok n (H[id]?):=by kernel_rfl
theorem XX (row off:Nat):aj (xS kk).P 169 (.ptr id g row off) (.lit (.int k n)) H=arC id g row [(0,off),(1,off+1),(2,off+2),(3,off+3),(4,off+4),(5,off+5),(6,off+6),(7,off+7),(8,off+8),(9,off+9),(10,off+10),(11,off+11),(12,off+12),(13,off+13),(14,off+14),(15,off+15)] n:=Ep (e:=1) (len:=16) (sz:=1) (by kernel_rfl) (by kernel_rfl) (by decide)
theorem Wl (row off:Nat):aj (xS kk).P 175 (.ptr id g row off) (.lit (.int k n)) H=arC id g row [(0,off),(1,off+1),(2,off+2),(3,off+3),(4,off+4),(5,off+5)] n:=Ep (e:=1) (len:=6) (sz:=1) (by kernel_rfl) (by kernel_rfl) (by decide)
theorem Ye (row off:Nat):aj (xS kk).P 236 (.ptr id g row off) (.lit (.int k n)) H=arC id g row [(0,off),(1,off+1),(2,off+2),(3,off+3)] n:=Ep (e:=1) (len:=4) (sz:=1) (by kernel_rfl) (by kernel_rfl) (by decide)
end
def xF0:=PLift.up (aI (aI (aI (aI (aI (aI (aI (aI @adZ @aew) (aI @aeq @aej)) (aI (aI @adN @aeA) (aI @acu (aI @ZW @abK)))) (aI (aI (aI @Zj @Zs) (aI @abR (aI @acz @aaw))) (aI (aI @abF @aaQ) (aI @acO (aI @aaH @Z9))))) (aI (aI (aI (aI @YY @aao) (aI @abl (aI @ZL @aca))) (aI (aI @Zf @acn) (aI @acI (aI @ZI @ab5)))) (aI (aI (aI @YX @aak) (aI @aar (aI @abz @ZJ))) (aI (aI @abg @ab0) (aI @abZ (aI @Zm @abx)))))) (aI (aI (aI (aI (aI @Zc @Un) (aI @UJ @Xh)) (aI (aI @U6 @XV) (aI @Xc (aI @Yj @Vb)))) (aI (aI (aI @UO @T8) (aI @Ws (aI @Vo @Xa))) (aI (aI @Ui @UG) (aI @Uw (aI @W3 @XC))))) (aI (aI (aI (aI @VK @XE) (aI @VC (aI @VP @aen))) (aI (aI @aeg @aeo) (aI @acQ (aI @acE @abq)))) (aI (aI (aI @acd @Za) (aI @ach (aI @aaa @ab9))) (aI (aI @Ve @Va) (aI @UT (aI @X8 @XF))))))) (aI (aI (aI (aI (aI (aI @UK @Xm) (aI @Wj @WY)) (aI (aI @SE @TN) (aI @Pq (aI @PN @Sm)))) (aI (aI (aI @QK @PC) (aI @TA (aI @Qi @Qz))) (aI (aI @Rw @Qu) (aI @Sv (aI @SJ @Q4))))) (aI (aI (aI (aI @QV @TC) (aI @Rq (aI @P3 @Tf))) (aI (aI @PM @RF) (aI @QC (aI @Rr @Rz)))) (aI (aI (aI @Pt @QN) (aI @Pw (aI @TH @QH))) (aI (aI @Rj @P5) (aI @QP (aI @PL @Qd)))))) (aI (aI (aI (aI (aI @Sq @So) (aI @TM @Tn)) (aI (aI @R9 @PX) (aI @Rm (aI @RU @Sl)))) (aI (aI (aI @S9 @PH) (aI @PU (aI @RH @Q0))) (aI (aI @TE @PG) (aI @Rs (aI @QW @Rn))))) (aI (aI (aI (aI @Tg @Td) (aI @KS (aI @Lc @MP))) (aI (aI @Kq @LF) (aI @NU (aI @Ml @LV)))) (aI (aI (aI @Mo @Kz) (aI @Nk (aI @La @LL))) (aI (aI @Nt @MJ) (aI @Lz (aI @Mz @MD)))))))) (aI (aI (aI (aI (aI (aI (aI @M1 @LZ) (aI @L2 @Ny)) (aI (aI @LY @LX) (aI @LK (aI @Nf @NJ)))) (aI (aI (aI @Lo @Me) (aI @KI (aI @Nb @LR))) (aI (aI @NE @Mq) (aI @M0 (aI @Ng @Kn))))) (aI (aI (aI (aI @Kw @Lx) (aI @Nu (aI @Li @KY))) (aI (aI @K9 @L9) (aI @NP (aI @Mf @L5)))) (aI (aI (aI @aaP @acs) (aI @ZB (aI @acr @Y7))) (aI (aI @aaI @acp) (aI @acF (aI @YV @abD)))))) (aI (aI (aI (aI (aI @Z8 @abL) (aI @ZS @abV)) (aI (aI @Z7 @aas) (aI @aaT (aI @aal @Vr)))) (aI (aI (aI @WU @Wh) (aI @X3 (aI @XA @Vh))) (aI (aI @Wo @Wi) (aI @XO (aI @Vt @XW))))) (aI (aI (aI (aI @Ub @XQ) (aI @Vw (aI @Xr @Sf))) (aI (aI @RB @Mu) (aI @KR (aI @Lb @NK)))) (aI (aI (aI @MX @NT) (aI @M9 (aI @MW @Ls))) (aI (aI @L3 @K3) (aI @Mj (aI @NW @Lh))))))) (aI (aI (aI (aI (aI (aI @KD @NH) (aI @Mg @K6)) (aI (aI @LG @MM) (aI @Mn (aI @NS @NQ)))) (aI (aI (aI @MY @ace) (aI @abf (aI @acB @abA))) (aI (aI @ZH @aa8) (aI @aaD (aI @acX @WH))))) (aI (aI (aI (aI @Qy @TQ) (aI @aaO (aI @acw @ZX))) (aI (aI @abN @abr) (aI @ack (aI @Vx @W1)))) (aI (aI (aI @Di @Vu) (aI @C6 (aI @Vm @Ra))) (aI (aI @C8 @Vi) (aI @DG (aI @w7 @CO)))))) (aI (aI (aI (aI (aI @SI @Ps) (aI @LA (aI @my @dl))) (aI (aI @mz @Tq) (aI @Gi (aI @AG @Bp)))) (aI (aI (aI @BL @rG) (aI @Sy (aI @SX @Sw))) (aI (aI @Sn @PZ) (aI @Sa (aI @SR @Rf))))) (aI (aI (aI (aI @SS @Tj) (aI @Qb (aI @Py @Pr))) (aI (aI @QI @Qq) (aI @Rt (aI @Ni @Le)))) (aI (aI (aI @K5 @Wv) (aI @Yg (aI @WC @UW))) (aI (aI @T3 @WR) (aI @XX (aI @Wl @Ye)))))))))
theorem xF:type_of% xF0.down:=xF0.down
end Go.Ab
