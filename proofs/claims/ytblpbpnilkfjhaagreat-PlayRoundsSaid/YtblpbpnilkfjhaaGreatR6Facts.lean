import Derived.Test.YtblpbpnilkfjhaaGreatAbLibC
import Derived.Test.YtblpbpnilkfjhaaGreatAbLibB
import Derived.Test.YtblpbpnilkfjhaaGreatR6Seat
set_option linter.unusedVariables false
set_option linter.unusedSimpArgs false
set_option maxRecDepth 100000
set_option linter.unusedVariables false
namespace Go.Ab
open Go.Proofs
theorem ahh (kk:Nat) (c:V) (cs:List V):aU (xS kk).P 1 (c::cs)=some c:=by kernel_rfl
theorem ahB (kk:Nat):aS (xS kk).P 1=1:=by kernel_rfl
theorem ahX (kk:Nat) (c:V) (cs:List V):aU (xS kk).P 3 (c::cs)=some c:=by kernel_rfl
theorem ahC (kk:Nat):aS (xS kk).P 3=1:=by kernel_rfl
theorem ahq (kk:Nat) (c:V) (cs:List V):aU (xS kk).P 4 (c::cs)=some c:=by kernel_rfl
theorem ahn (kk:Nat):aS (xS kk).P 4=1:=by kernel_rfl
theorem acB (kk:Nat) (c0 c1 c2 c3:V) (cs:List V):aU (xS kk).P 23 (c0::c1::c2::c3::cs)=some (.agg [c0,c1,c2,c3]):=by kernel_rfl
theorem ae9 (kk:Nat):aS (xS kk).P 23=4:=by kernel_rfl
theorem aeg (kk:Nat) (c:V) (cs:List V):aU (xS kk).P 24 (c::cs)=some c:=by kernel_rfl
theorem acx (kk:Nat):aS (xS kk).P 24=1:=by kernel_rfl
theorem ac6 (kk:Nat) (c:V) (cs:List V):aU (xS kk).P 26 (c::cs)=some c:=by kernel_rfl
theorem acU (kk:Nat):aS (xS kk).P 26=1:=by kernel_rfl
theorem adM (kk:Nat) (c:V) (cs:List V):aU (xS kk).P 27 (c::cs)=some c:=by kernel_rfl
theorem adz (kk:Nat):aS (xS kk).P 27=1:=by kernel_rfl
theorem aeo (kk:Nat) (c:V) (cs:List V):aU (xS kk).P 28 (c::cs)=some c:=by kernel_rfl
theorem adN (kk:Nat):aS (xS kk).P 28=1:=by kernel_rfl
theorem acj (kk:Nat) (c0 c1 c2 c3 c4 c5 c6 c7:V) (cs:List V):aU (xS kk).P 30 (c0::c1::c2::c3::c4::c5::c6::c7::cs)=some (.agg [c0,c1,c2,c3,c4,c5,c6,c7]):=by kernel_rfl
theorem afz (kk:Nat):aS (xS kk).P 30=8:=by kernel_rfl
theorem ac7 (kk:Nat) (c:V) (cs:List V):aU (xS kk).P 32 (c::cs)=some c:=by kernel_rfl
theorem acJ (kk:Nat):aS (xS kk).P 32=1:=by kernel_rfl
theorem ac4 (kk:Nat) (c:V) (cs:List V):aU (xS kk).P 34 (c::cs)=some c:=by kernel_rfl
theorem acS (kk:Nat):aS (xS kk).P 34=1:=by kernel_rfl
theorem ae8 (kk:Nat) (c:V) (cs:List V):aU (xS kk).P 46 (c::cs)=some c:=by kernel_rfl
theorem aeP (kk:Nat):aS (xS kk).P 46=1:=by kernel_rfl
theorem agi (kk:Nat) (c0 c1 c2:V) (cs:List V):aU (xS kk).P 48 (c0::c1::c2::cs)=some (.agg [c0,c1,c2]):=by kernel_rfl
theorem aeH (kk:Nat):aS (xS kk).P 48=3:=by kernel_rfl
theorem adj (kk:Nat) (c0 c1 c2:V) (cs:List V):aU (xS kk).P 52 (c0::c1::c2::cs)=some (.agg [c0,c1,c2]):=by kernel_rfl
theorem aex (kk:Nat):aS (xS kk).P 52=3:=by kernel_rfl
theorem ae3 (kk:Nat) (c:V) (cs:List V):aU (xS kk).P 53 (c::cs)=some c:=by kernel_rfl
theorem aed (kk:Nat):aS (xS kk).P 53=1:=by kernel_rfl
theorem aeu (kk:Nat) (c0 c1 c2 c3 c4 c5 c6:V) (cs:List V):aU (xS kk).P 55 (c0::c1::c2::c3::c4::c5::c6::cs)=some (.agg [c0,c1,c2,c3,c4,c5,c6]):=by kernel_rfl
theorem aeY (kk:Nat):aS (xS kk).P 55=7:=by kernel_rfl
theorem afm (kk:Nat) (c0 c1 c2 c3 c4 c5 c6 c7 c8:V) (cs:List V):aU (xS kk).P 57 (c0::c1::c2::c3::c4::c5::c6::c7::c8::cs)=some (.agg [c0,c1,c2,c3,c4,c5,c6,c7,c8]):=by kernel_rfl
theorem afH (kk:Nat):aS (xS kk).P 57=9:=by kernel_rfl
theorem afd (kk:Nat) (c:V) (cs:List V):aU (xS kk).P 63 (c::cs)=some c:=by kernel_rfl
theorem acF (kk:Nat):aS (xS kk).P 63=1:=by kernel_rfl
theorem acp (kk:Nat) (c0 c1 c2 c3 c4 c5 c6 c7 c8 c9 c10:V) (cs:List V):aU (xS kk).P 65 (c0::c1::c2::c3::c4::c5::c6::c7::c8::c9::c10::cs)=some (.agg [c0,c1,c2,c3,c4,c5,c6,c7,c8,c9,c10]):=by kernel_rfl
theorem aeF (kk:Nat):aS (xS kk).P 65=11:=by kernel_rfl
theorem aee (kk:Nat) (c:V) (cs:List V):aU (xS kk).P 86 (c::cs)=some c:=by kernel_rfl
theorem agh (kk:Nat):aS (xS kk).P 86=1:=by kernel_rfl
theorem aa0 (kk:Nat) (c0 c1:V) (cs:List V):aU (xS kk).P 101 (c0::c1::cs)=some (.agg [c0,c1]):=by kernel_rfl
theorem aaV (kk:Nat):aS (xS kk).P 101=2:=by kernel_rfl
theorem abj (kk:Nat) (c:V) (cs:List V):aU (xS kk).P 116 (c::cs)=some c:=by kernel_rfl
theorem XF (kk:Nat):aS (xS kk).P 116=1:=by kernel_rfl
theorem ZX (kk:Nat) (c0 c1 c2:V) (cs:List V):aU (xS kk).P 129 (c0::c1::c2::cs)=some (.agg [c0,c1,c2]):=by kernel_rfl
theorem ZV (kk:Nat):aS (xS kk).P 129=3:=by kernel_rfl
theorem YM (kk:Nat) (c:V) (cs:List V):aU (xS kk).P 150 (c::cs)=some c:=by kernel_rfl
theorem Zb (kk:Nat):aS (xS kk).P 150=1:=by kernel_rfl
theorem YJ (kk:Nat) (c0 c1 c2 c3 c4 c5 c6 c7 c8 c9 c10 c11 c12 c13 c14 c15:V) (cs:List V):aU (xS kk).P 169 (c0::c1::c2::c3::c4::c5::c6::c7::c8::c9::c10::c11::c12::c13::c14::c15::cs)=some (.agg [c0,c1,c2,c3,c4,c5,c6,c7,c8,c9,c10,c11,c12,c13,c14,c15]):=by kernel_rfl
theorem Zj (kk:Nat):aS (xS kk).P 169=16:=by kernel_rfl
theorem Zt (kk:Nat) (c:V) (cs:List V):aU (xS kk).P 170 (c::cs)=some c:=by kernel_rfl
theorem abn (kk:Nat):aS (xS kk).P 170=1:=by kernel_rfl
theorem aav (kk:Nat) (c0 c1 c2 c3 c4 c5:V) (cs:List V):aU (xS kk).P 175 (c0::c1::c2::c3::c4::c5::cs)=some (.agg [c0,c1,c2,c3,c4,c5]):=by kernel_rfl
theorem Zh (kk:Nat):aS (xS kk).P 175=6:=by kernel_rfl
theorem XG (kk:Nat) (c0 c1:V) (cs:List V):aU (xS kk).P 194 (c0::c1::cs)=some (.agg [c0,c1]):=by kernel_rfl
theorem ZL (kk:Nat):aS (xS kk).P 194=2:=by kernel_rfl
theorem ZF (kk:Nat) (c:V) (cs:List V):aU (xS kk).P 206 (c::cs)=some c:=by kernel_rfl
theorem abb (kk:Nat):aS (xS kk).P 206=1:=by kernel_rfl
theorem aa1 (kk:Nat) (c:V) (cs:List V):aU (xS kk).P 223 (c::cs)=some c:=by kernel_rfl
theorem Zp (kk:Nat):aS (xS kk).P 223=1:=by kernel_rfl
theorem aaL (kk:Nat) (c0 c1 c2 c3:V) (cs:List V):aU (xS kk).P 236 (c0::c1::c2::c3::cs)=some (.agg [c0,c1,c2,c3]):=by kernel_rfl
theorem aa8 (kk:Nat):aS (xS kk).P 236=4:=by kernel_rfl
theorem ahw (kk:Nat) (H:Hp):av (xS kk).P 1 H=some (.ptr (bA [(V.lit Value.nilFunc)] H).2.length 0 0 0,(bA [(V.lit Value.nilFunc)] H).2++[.box (bA [(V.lit Value.nilFunc)] H).1]):=by kernel_rfl
theorem ahf (kk:Nat) (H:Hp):av (xS kk).P 3 H=some (.ptr (bA [(V.lit (Value.int .i64 (0)))] H).2.length 0 0 0,(bA [(V.lit (Value.int .i64 (0)))] H).2++[.box (bA [(V.lit (Value.int .i64 (0)))] H).1]):=by kernel_rfl
theorem ahu (kk:Nat) (H:Hp):av (xS kk).P 4 H=some (.ptr (bA [(V.lit (Value.bool false))] H).2.length 0 0 0,(bA [(V.lit (Value.bool false))] H).2++[.box (bA [(V.lit (Value.bool false))] H).1]):=by kernel_rfl
theorem aco (kk:Nat) (H:Hp):av (xS kk).P 26 H=some (.ptr (bA [V.nil] H).2.length 0 0 0,(bA [V.nil] H).2++[.box (bA [V.nil] H).1]):=by kernel_rfl
theorem acP (kk:Nat) (H:Hp):av (xS kk).P 30 H=some (.ptr (bA [(V.lit (Value.int .i64 (0))),(V.lit (Value.int .i64 (0))),(V.lit (Value.int .i64 (0))),(V.lit (Value.int .i64 (0))),V.nil,V.nil,V.nil,V.nil] H).2.length 0 0 0,(bA [(V.lit (Value.int .i64 (0))),(V.lit (Value.int .i64 (0))),(V.lit (Value.int .i64 (0))),(V.lit (Value.int .i64 (0))),V.nil,V.nil,V.nil,V.nil] H).2++[.box (bA [(V.lit (Value.int .i64 (0))),(V.lit (Value.int .i64 (0))),(V.lit (Value.int .i64 (0))),(V.lit (Value.int .i64 (0))),V.nil,V.nil,V.nil,V.nil] H).1]):=by kernel_rfl
theorem adP (kk:Nat) (H:Hp):av (xS kk).P 32 H=some (.ptr (bA [(V.lit Value.nilFunc)] H).2.length 0 0 0,(bA [(V.lit Value.nilFunc)] H).2++[.box (bA [(V.lit Value.nilFunc)] H).1]):=by kernel_rfl
theorem acy (kk:Nat) (H:Hp):av (xS kk).P 34 H=some (.ptr (bA [V.nil] H).2.length 0 0 0,(bA [V.nil] H).2++[.box (bA [V.nil] H).1]):=by kernel_rfl
theorem age (kk:Nat) (H:Hp):av (xS kk).P 48 H=some (.ptr (bA [(V.lit (Value.int .i64 (0))),(V.lit (Value.int .i64 (0))),(V.lit (Value.int .u64 (0)))] H).2.length 0 0 0,(bA [(V.lit (Value.int .i64 (0))),(V.lit (Value.int .i64 (0))),(V.lit (Value.int .u64 (0)))] H).2++[.box (bA [(V.lit (Value.int .i64 (0))),(V.lit (Value.int .i64 (0))),(V.lit (Value.int .u64 (0)))] H).1]):=by kernel_rfl
theorem aei (kk:Nat) (H:Hp):av (xS kk).P 55 H=some (.ptr (bA [(V.lit (Value.int .i64 (0))),(V.lit (Value.int .i64 (0))),(V.lit (Value.int .i64 (0))),(V.lit (Value.int .u64 (0))),(V.lit (Value.int .u64 (0))),(V.lit (Value.int .u64 (0))),(V.lit (Value.int .i64 (0)))] H).2.length 0 0 0,(bA [(V.lit (Value.int .i64 (0))),(V.lit (Value.int .i64 (0))),(V.lit (Value.int .i64 (0))),(V.lit (Value.int .u64 (0))),(V.lit (Value.int .u64 (0))),(V.lit (Value.int .u64 (0))),(V.lit (Value.int .i64 (0)))] H).2++[.box (bA [(V.lit (Value.int .i64 (0))),(V.lit (Value.int .i64 (0))),(V.lit (Value.int .i64 (0))),(V.lit (Value.int .u64 (0))),(V.lit (Value.int .u64 (0))),(V.lit (Value.int .u64 (0))),(V.lit (Value.int .i64 (0)))] H).1]):=by kernel_rfl
theorem aeq (kk:Nat) (H:Hp):av (xS kk).P 57 H=some (.ptr (bA [(V.lit (Value.int .i64 (0))),V.nil,(V.lit (Value.int .i64 (0))),(V.lit (Value.int .i64 (0))),(V.lit (Value.int .i64 (0))),(V.lit (Value.int .u64 (0))),(V.lit (Value.int .u64 (0))),(V.lit (Value.int .u64 (0))),(V.lit (Value.int .i64 (0)))] H).2.length 0 0 0,(bA [(V.lit (Value.int .i64 (0))),V.nil,(V.lit (Value.int .i64 (0))),(V.lit (Value.int .i64 (0))),(V.lit (Value.int .i64 (0))),(V.lit (Value.int .u64 (0))),(V.lit (Value.int .u64 (0))),(V.lit (Value.int .u64 (0))),(V.lit (Value.int .i64 (0)))] H).2++[.box (bA [(V.lit (Value.int .i64 (0))),V.nil,(V.lit (Value.int .i64 (0))),(V.lit (Value.int .i64 (0))),(V.lit (Value.int .i64 (0))),(V.lit (Value.int .u64 (0))),(V.lit (Value.int .u64 (0))),(V.lit (Value.int .u64 (0))),(V.lit (Value.int .i64 (0)))] H).1]):=by kernel_rfl
theorem afW (kk:Nat) (H:Hp):av (xS kk).P 65 H=some (.ptr (bA [(V.lit (Value.int .i64 (0))),V.nil,(V.lit (Value.int .i64 (0))),(V.lit (Value.int .i64 (0))),(V.lit (Value.int .i64 (0))),(V.lit (Value.int .u64 (0))),(V.lit (Value.int .u64 (0))),(V.lit (Value.int .u64 (0))),(V.lit (Value.int .i64 (0))),(V.lit (Value.int .i64 (0))),(V.lit (Value.int .i64 (0)))] H).2.length 0 0 0,(bA [(V.lit (Value.int .i64 (0))),V.nil,(V.lit (Value.int .i64 (0))),(V.lit (Value.int .i64 (0))),(V.lit (Value.int .i64 (0))),(V.lit (Value.int .u64 (0))),(V.lit (Value.int .u64 (0))),(V.lit (Value.int .u64 (0))),(V.lit (Value.int .i64 (0))),(V.lit (Value.int .i64 (0))),(V.lit (Value.int .i64 (0)))] H).2++[.box (bA [(V.lit (Value.int .i64 (0))),V.nil,(V.lit (Value.int .i64 (0))),(V.lit (Value.int .i64 (0))),(V.lit (Value.int .i64 (0))),(V.lit (Value.int .u64 (0))),(V.lit (Value.int .u64 (0))),(V.lit (Value.int .u64 (0))),(V.lit (Value.int .i64 (0))),(V.lit (Value.int .i64 (0))),(V.lit (Value.int .i64 (0)))] H).1]):=by kernel_rfl
theorem ZB (kk:Nat) (H:Hp):av (xS kk).P 101 H=some (.ptr (bA [(V.lit (Value.int .i64 (0))),V.nil] H).2.length 0 0 0,(bA [(V.lit (Value.int .i64 (0))),V.nil] H).2++[.box (bA [(V.lit (Value.int .i64 (0))),V.nil] H).1]):=by kernel_rfl
theorem aas (kk:Nat) (H:Hp):av (xS kk).P 129 H=some (.ptr (bA [(V.lit (Value.int .i64 (0))),(V.lit (Value.int .i64 (0))),(V.lit (Value.int .i64 (0)))] H).2.length 0 0 0,(bA [(V.lit (Value.int .i64 (0))),(V.lit (Value.int .i64 (0))),(V.lit (Value.int .i64 (0)))] H).2++[.box (bA [(V.lit (Value.int .i64 (0))),(V.lit (Value.int .i64 (0))),(V.lit (Value.int .i64 (0)))] H).1]):=by kernel_rfl
theorem XO (kk:Nat) (H:Hp):av (xS kk).P 150 H=some (.ptr (bA [V.nil] H).2.length 0 0 0,(bA [V.nil] H).2++[.box (bA [V.nil] H).1]):=by kernel_rfl
theorem X6 (kk:Nat) (H:Hp):av (xS kk).P 169 H=some (.ptr (bA [(V.lit Value.nilFunc),(V.lit Value.nilFunc),(V.lit Value.nilFunc),(V.lit Value.nilFunc),(V.lit Value.nilFunc),(V.lit Value.nilFunc),(V.lit Value.nilFunc),(V.lit Value.nilFunc),(V.lit Value.nilFunc),(V.lit Value.nilFunc),(V.lit Value.nilFunc),(V.lit Value.nilFunc),(V.lit Value.nilFunc),(V.lit Value.nilFunc),(V.lit Value.nilFunc),(V.lit Value.nilFunc)] H).2.length 0 0 0,(bA [(V.lit Value.nilFunc),(V.lit Value.nilFunc),(V.lit Value.nilFunc),(V.lit Value.nilFunc),(V.lit Value.nilFunc),(V.lit Value.nilFunc),(V.lit Value.nilFunc),(V.lit Value.nilFunc),(V.lit Value.nilFunc),(V.lit Value.nilFunc),(V.lit Value.nilFunc),(V.lit Value.nilFunc),(V.lit Value.nilFunc),(V.lit Value.nilFunc),(V.lit Value.nilFunc),(V.lit Value.nilFunc)] H).2++[.box (bA [(V.lit Value.nilFunc),(V.lit Value.nilFunc),(V.lit Value.nilFunc),(V.lit Value.nilFunc),(V.lit Value.nilFunc),(V.lit Value.nilFunc),(V.lit Value.nilFunc),(V.lit Value.nilFunc),(V.lit Value.nilFunc),(V.lit Value.nilFunc),(V.lit Value.nilFunc),(V.lit Value.nilFunc),(V.lit Value.nilFunc),(V.lit Value.nilFunc),(V.lit Value.nilFunc),(V.lit Value.nilFunc)] H).1]):=by kernel_rfl
theorem abp (kk:Nat) (H:Hp):av (xS kk).P 170 H=some (.ptr (bA [(V.lit Value.nilFunc)] H).2.length 0 0 0,(bA [(V.lit Value.nilFunc)] H).2++[.box (bA [(V.lit Value.nilFunc)] H).1]):=by kernel_rfl
theorem ZU (kk:Nat) (H:Hp):av (xS kk).P 175 H=some (.ptr (bA [(V.lit Value.nilFunc),(V.lit Value.nilFunc),(V.lit Value.nilFunc),(V.lit Value.nilFunc),(V.lit Value.nilFunc),(V.lit Value.nilFunc)] H).2.length 0 0 0,(bA [(V.lit Value.nilFunc),(V.lit Value.nilFunc),(V.lit Value.nilFunc),(V.lit Value.nilFunc),(V.lit Value.nilFunc),(V.lit Value.nilFunc)] H).2++[.box (bA [(V.lit Value.nilFunc),(V.lit Value.nilFunc),(V.lit Value.nilFunc),(V.lit Value.nilFunc),(V.lit Value.nilFunc),(V.lit Value.nilFunc)] H).1]):=by kernel_rfl
theorem Zn (kk:Nat) (H:Hp):av (xS kk).P 194 H=some (.ptr (bA [(V.lit (Value.int .i64 (0))),(V.lit (Value.int .i64 (0)))] H).2.length 0 0 0,(bA [(V.lit (Value.int .i64 (0))),(V.lit (Value.int .i64 (0)))] H).2++[.box (bA [(V.lit (Value.int .i64 (0))),(V.lit (Value.int .i64 (0)))] H).1]):=by kernel_rfl
theorem YL (kk:Nat) (H:Hp):av (xS kk).P 223 H=some (.ptr (bA [V.nil] H).2.length 0 0 0,(bA [V.nil] H).2++[.box (bA [V.nil] H).1]):=by kernel_rfl
theorem Z0 (kk:Nat) (H:Hp):av (xS kk).P 236 H=some (.ptr (bA [(V.lit Value.nilFunc),(V.lit Value.nilFunc),(V.lit Value.nilFunc),(V.lit Value.nilFunc)] H).2.length 0 0 0,(bA [(V.lit Value.nilFunc),(V.lit Value.nilFunc),(V.lit Value.nilFunc),(V.lit Value.nilFunc)] H).2++[.box (bA [(V.lit Value.nilFunc),(V.lit Value.nilFunc),(V.lit Value.nilFunc),(V.lit Value.nilFunc)] H).1]):=by kernel_rfl
theorem Tl (kk:Nat) (cs:List V):aa (xS kk).P 23 (.rp cs) 0=some (.rp (cs.drop 0)):=by kernel_rfl
theorem VQ (kk:Nat) (id g row off:Nat):aa (xS kk).P 23 (.ptr id g row off) 0=some (.ptr id g row (off+0)):=by kernel_rfl
theorem T1 (kk:Nat) (cs:List V):aa (xS kk).P 23 (.rp cs) 1=some (.rp (cs.drop 1)):=by kernel_rfl
theorem TC (kk:Nat) (id g row off:Nat):aa (xS kk).P 23 (.ptr id g row off) 1=some (.ptr id g row (off+1)):=by kernel_rfl
theorem Td (kk:Nat) (cs:List V):aa (xS kk).P 23 (.rp cs) 2=some (.rp (cs.drop 2)):=by kernel_rfl
theorem W7 (kk:Nat) (id g row off:Nat):aa (xS kk).P 23 (.ptr id g row off) 2=some (.ptr id g row (off+2)):=by kernel_rfl
theorem Vc (kk:Nat) (cs:List V):aa (xS kk).P 23 (.rp cs) 3=some (.rp (cs.drop 3)):=by kernel_rfl
theorem Xi (kk:Nat) (id g row off:Nat):aa (xS kk).P 23 (.ptr id g row off) 3=some (.ptr id g row (off+3)):=by kernel_rfl
theorem T9 (kk:Nat) (cs:List V):aa (xS kk).P 30 (.rp cs) 0=some (.rp (cs.drop 0)):=by kernel_rfl
theorem UH (kk:Nat) (id g row off:Nat):aa (xS kk).P 30 (.ptr id g row off) 0=some (.ptr id g row (off+0)):=by kernel_rfl
theorem WD (kk:Nat) (cs:List V):aa (xS kk).P 30 (.rp cs) 1=some (.rp (cs.drop 4)):=by kernel_rfl
theorem WH (kk:Nat) (id g row off:Nat):aa (xS kk).P 30 (.ptr id g row off) 1=some (.ptr id g row (off+4)):=by kernel_rfl
theorem Xh (kk:Nat) (cs:List V):aa (xS kk).P 30 (.rp cs) 2=some (.rp (cs.drop 5)):=by kernel_rfl
theorem WP (kk:Nat) (id g row off:Nat):aa (xS kk).P 30 (.ptr id g row off) 2=some (.ptr id g row (off+5)):=by kernel_rfl
theorem Wb (kk:Nat) (cs:List V):aa (xS kk).P 30 (.rp cs) 3=some (.rp (cs.drop 6)):=by kernel_rfl
theorem Tv (kk:Nat) (id g row off:Nat):aa (xS kk).P 30 (.ptr id g row off) 3=some (.ptr id g row (off+6)):=by kernel_rfl
theorem VY (kk:Nat) (cs:List V):aa (xS kk).P 30 (.rp cs) 4=some (.rp (cs.drop 7)):=by kernel_rfl
theorem W9 (kk:Nat) (id g row off:Nat):aa (xS kk).P 30 (.ptr id g row off) 4=some (.ptr id g row (off+7)):=by kernel_rfl
theorem V4 (kk:Nat) (cs:List V):aa (xS kk).P 48 (.rp cs) 0=some (.rp (cs.drop 0)):=by kernel_rfl
theorem W4 (kk:Nat) (id g row off:Nat):aa (xS kk).P 48 (.ptr id g row off) 0=some (.ptr id g row (off+0)):=by kernel_rfl
theorem Vj (kk:Nat) (cs:List V):aa (xS kk).P 48 (.rp cs) 1=some (.rp (cs.drop 1)):=by kernel_rfl
theorem Vp (kk:Nat) (id g row off:Nat):aa (xS kk).P 48 (.ptr id g row off) 1=some (.ptr id g row (off+1)):=by kernel_rfl
theorem WA (kk:Nat) (cs:List V):aa (xS kk).P 48 (.rp cs) 2=some (.rp (cs.drop 2)):=by kernel_rfl
theorem UO (kk:Nat) (id g row off:Nat):aa (xS kk).P 48 (.ptr id g row off) 2=some (.ptr id g row (off+2)):=by kernel_rfl
theorem WJ (kk:Nat) (cs:List V):aa (xS kk).P 52 (.rp cs) 0=some (.rp (cs.drop 0)):=by kernel_rfl
theorem WG (kk:Nat) (id g row off:Nat):aa (xS kk).P 52 (.ptr id g row off) 0=some (.ptr id g row (off+0)):=by kernel_rfl
theorem UX (kk:Nat) (cs:List V):aa (xS kk).P 55 (.rp cs) 0=some (.rp (cs.drop 0)):=by kernel_rfl
theorem T3 (kk:Nat) (id g row off:Nat):aa (xS kk).P 55 (.ptr id g row off) 0=some (.ptr id g row (off+0)):=by kernel_rfl
theorem Wv (kk:Nat) (cs:List V):aa (xS kk).P 55 (.rp cs) 1=some (.rp (cs.drop 1)):=by kernel_rfl
theorem VP (kk:Nat) (id g row off:Nat):aa (xS kk).P 55 (.ptr id g row off) 1=some (.ptr id g row (off+1)):=by kernel_rfl
theorem UW (kk:Nat) (cs:List V):aa (xS kk).P 55 (.rp cs) 2=some (.rp (cs.drop 2)):=by kernel_rfl
theorem VE (kk:Nat) (id g row off:Nat):aa (xS kk).P 55 (.ptr id g row off) 2=some (.ptr id g row (off+2)):=by kernel_rfl
theorem WE (kk:Nat) (cs:List V):aa (xS kk).P 55 (.rp cs) 3=some (.rp (cs.drop 3)):=by kernel_rfl
theorem WS (kk:Nat) (id g row off:Nat):aa (xS kk).P 55 (.ptr id g row off) 3=some (.ptr id g row (off+3)):=by kernel_rfl
theorem U1 (kk:Nat) (cs:List V):aa (xS kk).P 55 (.rp cs) 4=some (.rp (cs.drop 4)):=by kernel_rfl
theorem Wq (kk:Nat) (id g row off:Nat):aa (xS kk).P 55 (.ptr id g row off) 4=some (.ptr id g row (off+4)):=by kernel_rfl
theorem TX (kk:Nat) (cs:List V):aa (xS kk).P 55 (.rp cs) 5=some (.rp (cs.drop 5)):=by kernel_rfl
theorem WC (kk:Nat) (id g row off:Nat):aa (xS kk).P 55 (.ptr id g row off) 5=some (.ptr id g row (off+5)):=by kernel_rfl
theorem Ud (kk:Nat) (cs:List V):aa (xS kk).P 55 (.rp cs) 6=some (.rp (cs.drop 6)):=by kernel_rfl
theorem Vr (kk:Nat) (id g row off:Nat):aa (xS kk).P 55 (.ptr id g row off) 6=some (.ptr id g row (off+6)):=by kernel_rfl
theorem V5 (kk:Nat) (cs:List V):aa (xS kk).P 57 (.rp cs) 0=some (.rp (cs.drop 0)):=by kernel_rfl
theorem UQ (kk:Nat) (id g row off:Nat):aa (xS kk).P 57 (.ptr id g row off) 0=some (.ptr id g row (off+0)):=by kernel_rfl
theorem Ta (kk:Nat) (cs:List V):aa (xS kk).P 57 (.rp cs) 1=some (.rp (cs.drop 1)):=by kernel_rfl
theorem S7 (kk:Nat) (id g row off:Nat):aa (xS kk).P 57 (.ptr id g row off) 1=some (.ptr id g row (off+1)):=by kernel_rfl
theorem UM (kk:Nat) (cs:List V):aa (xS kk).P 57 (.rp cs) 2=some (.rp (cs.drop 2)):=by kernel_rfl
theorem VX (kk:Nat) (id g row off:Nat):aa (xS kk).P 57 (.ptr id g row off) 2=some (.ptr id g row (off+2)):=by kernel_rfl
theorem W1 (kk:Nat) (cs:List V):aa (xS kk).P 65 (.rp cs) 0=some (.rp (cs.drop 0)):=by kernel_rfl
theorem Vb (kk:Nat) (id g row off:Nat):aa (xS kk).P 65 (.ptr id g row off) 0=some (.ptr id g row (off+0)):=by kernel_rfl
theorem TW (kk:Nat) (cs:List V):aa (xS kk).P 65 (.rp cs) 1=some (.rp (cs.drop 1)):=by kernel_rfl
theorem Vn (kk:Nat) (id g row off:Nat):aa (xS kk).P 65 (.ptr id g row off) 1=some (.ptr id g row (off+1)):=by kernel_rfl
theorem VG (kk:Nat) (cs:List V):aa (xS kk).P 65 (.rp cs) 2=some (.rp (cs.drop 2)):=by kernel_rfl
theorem U6 (kk:Nat) (id g row off:Nat):aa (xS kk).P 65 (.ptr id g row off) 2=some (.ptr id g row (off+2)):=by kernel_rfl
theorem VT (kk:Nat) (cs:List V):aa (xS kk).P 65 (.rp cs) 3=some (.rp (cs.drop 9)):=by kernel_rfl
theorem UV (kk:Nat) (id g row off:Nat):aa (xS kk).P 65 (.ptr id g row off) 3=some (.ptr id g row (off+9)):=by kernel_rfl
theorem Xn (kk:Nat) (cs:List V):aa (xS kk).P 65 (.rp cs) 4=some (.rp (cs.drop 10)):=by kernel_rfl
theorem UP (kk:Nat) (id g row off:Nat):aa (xS kk).P 65 (.ptr id g row off) 4=some (.ptr id g row (off+10)):=by kernel_rfl
theorem Ns (kk:Nat) (cs:List V):aa (xS kk).P 101 (.rp cs) 0=some (.rp (cs.drop 0)):=by kernel_rfl
theorem Nl (kk:Nat) (id g row off:Nat):aa (xS kk).P 101 (.ptr id g row off) 0=some (.ptr id g row (off+0)):=by kernel_rfl
theorem Oj (kk:Nat) (cs:List V):aa (xS kk).P 101 (.rp cs) 1=some (.rp (cs.drop 1)):=by kernel_rfl
theorem NJ (kk:Nat) (id g row off:Nat):aa (xS kk).P 101 (.ptr id g row off) 1=some (.ptr id g row (off+1)):=by kernel_rfl
theorem Qp (kk:Nat) (cs:List V):aa (xS kk).P 129 (.rp cs) 0=some (.rp (cs.drop 0)):=by kernel_rfl
theorem Qd (kk:Nat) (id g row off:Nat):aa (xS kk).P 129 (.ptr id g row off) 0=some (.ptr id g row (off+0)):=by kernel_rfl
theorem Ph (kk:Nat) (cs:List V):aa (xS kk).P 129 (.rp cs) 1=some (.rp (cs.drop 1)):=by kernel_rfl
theorem NX (kk:Nat) (id g row off:Nat):aa (xS kk).P 129 (.ptr id g row off) 1=some (.ptr id g row (off+1)):=by kernel_rfl
theorem OR (kk:Nat) (cs:List V):aa (xS kk).P 129 (.rp cs) 2=some (.rp (cs.drop 2)):=by kernel_rfl
theorem NF (kk:Nat) (id g row off:Nat):aa (xS kk).P 129 (.ptr id g row off) 2=some (.ptr id g row (off+2)):=by kernel_rfl
theorem NH (kk:Nat) (cs:List V):aa (xS kk).P 168 (.rp cs) 0=some (.rp (cs.drop 0)):=by kernel_rfl
theorem QI (kk:Nat) (id g row off:Nat):aa (xS kk).P 168 (.ptr id g row off) 0=some (.ptr id g row (off+0)):=by kernel_rfl
theorem P0 (kk:Nat) (cs:List V):aa (xS kk).P 168 (.rp cs) 1=some (.rp (cs.drop 11)):=by kernel_rfl
theorem OL (kk:Nat) (id g row off:Nat):aa (xS kk).P 168 (.ptr id g row off) 1=some (.ptr id g row (off+11)):=by kernel_rfl
theorem Na (kk:Nat) (cs:List V):aa (xS kk).P 168 (.rp cs) 2=some (.rp (cs.drop 15)):=by kernel_rfl
theorem NQ (kk:Nat) (id g row off:Nat):aa (xS kk).P 168 (.ptr id g row off) 2=some (.ptr id g row (off+15)):=by kernel_rfl
theorem NW (kk:Nat) (cs:List V):aa (xS kk).P 168 (.rp cs) 3=some (.rp (cs.drop 16)):=by kernel_rfl
theorem Po (kk:Nat) (id g row off:Nat):aa (xS kk).P 168 (.ptr id g row off) 3=some (.ptr id g row (off+16)):=by kernel_rfl
theorem O9 (kk:Nat) (cs:List V):aa (xS kk).P 168 (.rp cs) 4=some (.rp (cs.drop 17)):=by kernel_rfl
theorem Qj (kk:Nat) (id g row off:Nat):aa (xS kk).P 168 (.ptr id g row off) 4=some (.ptr id g row (off+17)):=by kernel_rfl
theorem Qs (kk:Nat) (cs:List V):aa (xS kk).P 168 (.rp cs) 5=some (.rp (cs.drop 18)):=by kernel_rfl
theorem PF (kk:Nat) (id g row off:Nat):aa (xS kk).P 168 (.ptr id g row off) 5=some (.ptr id g row (off+18)):=by kernel_rfl
theorem PS (kk:Nat) (cs:List V):aa (xS kk).P 168 (.rp cs) 6=some (.rp (cs.drop 19)):=by kernel_rfl
theorem O8 (kk:Nat) (id g row off:Nat):aa (xS kk).P 168 (.ptr id g row off) 6=some (.ptr id g row (off+19)):=by kernel_rfl
theorem Nj (kk:Nat) (cs:List V):aa (xS kk).P 194 (.rp cs) 0=some (.rp (cs.drop 0)):=by kernel_rfl
theorem Px (kk:Nat) (id g row off:Nat):aa (xS kk).P 194 (.ptr id g row off) 0=some (.ptr id g row (off+0)):=by kernel_rfl
theorem Oo (kk:Nat) (cs:List V):aa (xS kk).P 194 (.rp cs) 1=some (.rp (cs.drop 1)):=by kernel_rfl
theorem Pv (kk:Nat) (id g row off:Nat):aa (xS kk).P 194 (.ptr id g row off) 1=some (.ptr id g row (off+1)):=by kernel_rfl
theorem Pm (kk:Nat) (cs:List V):aa (xS kk).P 205 (.rp cs) 0=some (.rp (cs.drop 0)):=by kernel_rfl
theorem QS (kk:Nat) (id g row off:Nat):aa (xS kk).P 205 (.ptr id g row off) 0=some (.ptr id g row (off+0)):=by kernel_rfl
theorem P8 (kk:Nat) (cs:List V):aa (xS kk).P 205 (.rp cs) 1=some (.rp (cs.drop 7)):=by kernel_rfl
theorem P1 (kk:Nat) (id g row off:Nat):aa (xS kk).P 205 (.ptr id g row off) 1=some (.ptr id g row (off+7)):=by kernel_rfl
theorem NI (kk:Nat) (cs:List V):aa (xS kk).P 205 (.rp cs) 2=some (.rp (cs.drop 11)):=by kernel_rfl
theorem PU (kk:Nat) (id g row off:Nat):aa (xS kk).P 205 (.ptr id g row off) 2=some (.ptr id g row (off+11)):=by kernel_rfl
theorem Nw (kk:Nat) (cs:List V):aa (xS kk).P 221 (.rp cs) 0=some (.rp (cs.drop 0)):=by kernel_rfl
theorem N5 (kk:Nat) (id g row off:Nat):aa (xS kk).P 221 (.ptr id g row off) 0=some (.ptr id g row (off+0)):=by kernel_rfl
theorem OS (kk:Nat) (cs:List V):aa (xS kk).P 221 (.rp cs) 1=some (.rp (cs.drop 7)):=by kernel_rfl
theorem Oq (kk:Nat) (id g row off:Nat):aa (xS kk).P 221 (.ptr id g row off) 1=some (.ptr id g row (off+7)):=by kernel_rfl
theorem OX (kk:Nat) (cs:List V):aa (xS kk).P 221 (.rp cs) 2=some (.rp (cs.drop 11)):=by kernel_rfl
theorem QM (kk:Nat) (id g row off:Nat):aa (xS kk).P 221 (.ptr id g row off) 2=some (.ptr id g row (off+11)):=by kernel_rfl
theorem QX (kk:Nat) (cs:List V):aa (xS kk).P 235 (.rp cs) 0=some (.rp (cs.drop 0)):=by kernel_rfl
theorem OC (kk:Nat) (id g row off:Nat):aa (xS kk).P 235 (.ptr id g row off) 0=some (.ptr id g row (off+0)):=by kernel_rfl
theorem Oc (kk:Nat) (cs:List V):aa (xS kk).P 235 (.rp cs) 1=some (.rp (cs.drop 7)):=by kernel_rfl
theorem O3 (kk:Nat) (id g row off:Nat):aa (xS kk).P 235 (.ptr id g row off) 1=some (.ptr id g row (off+7)):=by kernel_rfl
theorem Ni (kk:Nat) (cs:List V):aa (xS kk).P 235 (.rp cs) 2=some (.rp (cs.drop 11)):=by kernel_rfl
theorem Pw (kk:Nat) (id g row off:Nat):aa (xS kk).P 235 (.ptr id g row off) 2=some (.ptr id g row (off+11)):=by kernel_rfl
theorem QY (kk:Nat) (cs:List V):wW (xS kk).P 194 (.agg cs) 0=aU (xS kk).P 3 (cs.drop 0):=by kernel_rfl
theorem acK (kk:Nat) (l:Tyt) (k:IntKind) (n:Int) (H:Hp):aj (xS kk).P 24 (.ro (l.map an)) (.lit (.int k n)) H=(idx l n).map fun x => .rp (an x):=cd (e:=101) (by kernel_rfl) (fun x=>(by kernel_rfl:(an x).length=aS (xS kk).P 101)) (by kernel_rfl)
theorem af5 (kk:Nat) (id g len:Nat) (k:IntKind) (n:Int) (H:Hp):aj (xS kk).P 24 (.own id g len) (.lit (.int k n)) H=ixB 2 g len id n (H[id]?):=bf (P:=(xS kk).P) (e:=101) (by kernel_rfl) (by kernel_rfl)
theorem adH (kk:Nat) (l:List Int) (k:IntKind) (n:Int) (H:Hp):aj (xS kk).P 26 (.ro (l.map (aF .u64))) (.lit (.int k n)) H=(idx l n).map fun x => .rp ((aF .u64) x):=cd (e:=46) (by kernel_rfl) (fun x=>(by kernel_rfl:((aF .u64) x).length=aS (xS kk).P 46)) (by kernel_rfl)
theorem afa (kk:Nat) (id g len:Nat) (k:IntKind) (n:Int) (H:Hp):aj (xS kk).P 26 (.own id g len) (.lit (.int k n)) H=ixB 1 g len id n (H[id]?):=bf (P:=(xS kk).P) (e:=46) (by kernel_rfl) (by kernel_rfl)
theorem adw (kk:Nat) (l:List Tyw) (k:IntKind) (n:Int) (H:Hp):aj (xS kk).P 27 (.ro (l.map aG)) (.lit (.int k n)) H=(idx l n).map fun x => .rp (aG x):=cd (e:=65) (by kernel_rfl) (fun x=>(by kernel_rfl:(aG x).length=aS (xS kk).P 65)) (by kernel_rfl)
theorem aeX (kk:Nat) (id g len:Nat) (k:IntKind) (n:Int) (H:Hp):aj (xS kk).P 27 (.own id g len) (.lit (.int k n)) H=ixB 11 g len id n (H[id]?):=bf (P:=(xS kk).P) (e:=65) (by kernel_rfl) (by kernel_rfl)
theorem adS (kk:Nat) (l:List Tys) (k:IntKind) (n:Int) (H:Hp):aj (xS kk).P 28 (.ro (l.map bn)) (.lit (.int k n)) H=(idx l n).map fun x => .rp (bn x):=cd (e:=57) (by kernel_rfl) (fun x=>(by kernel_rfl:(bn x).length=aS (xS kk).P 57)) (by kernel_rfl)
theorem ac5 (kk:Nat) (id g len:Nat) (k:IntKind) (n:Int) (H:Hp):aj (xS kk).P 28 (.own id g len) (.lit (.int k n)) H=ixB 9 g len id n (H[id]?):=bf (P:=(xS kk).P) (e:=57) (by kernel_rfl) (by kernel_rfl)
theorem adu (kk:Nat) (l:Tye) (k:IntKind) (n:Int) (H:Hp):aj (xS kk).P 31 (.ro (l.map fX)) (.lit (.int k n)) H=(idx l n).map fun x => .rp (fX x):=cd (e:=48) (by kernel_rfl) (fun x=>(by kernel_rfl:(fX x).length=aS (xS kk).P 48)) (by kernel_rfl)
theorem adm (kk:Nat) (id g len:Nat) (k:IntKind) (n:Int) (H:Hp):aj (xS kk).P 31 (.own id g len) (.lit (.int k n)) H=ixB 3 g len id n (H[id]?):=bf (P:=(xS kk).P) (e:=48) (by kernel_rfl) (by kernel_rfl)
theorem acO (kk:Nat) (l:Tye) (k:IntKind) (n:Int) (H:Hp):aj (xS kk).P 34 (.ro (l.map aD)) (.lit (.int k n)) H=(idx l n).map fun x => .rp (aD x):=cd (e:=52) (by kernel_rfl) (fun x=>(by kernel_rfl:(aD x).length=aS (xS kk).P 52)) (by kernel_rfl)
theorem acv (kk:Nat) (id g len:Nat) (k:IntKind) (n:Int) (H:Hp):aj (xS kk).P 34 (.own id g len) (.lit (.int k n)) H=ixB 3 g len id n (H[id]?):=bf (P:=(xS kk).P) (e:=52) (by kernel_rfl) (by kernel_rfl)
theorem ac3 (kk:Nat) (l:List (List Int)) (k:IntKind) (n:Int) (H:Hp):aj (xS kk).P 40 (.ro (l.map cA)) (.lit (.int k n)) H=(idx l n).map fun x => .rp (cA x):=cd (e:=53) (by kernel_rfl) (fun x=>(by kernel_rfl:(cA x).length=aS (xS kk).P 53)) (by kernel_rfl)
theorem afK (kk:Nat) (id g len:Nat) (k:IntKind) (n:Int) (H:Hp):aj (xS kk).P 40 (.own id g len) (.lit (.int k n)) H=ixB 1 g len id n (H[id]?):=bf (P:=(xS kk).P) (e:=53) (by kernel_rfl) (by kernel_rfl)
theorem af6 (kk:Nat) (l:List Int) (k:IntKind) (n:Int) (H:Hp):aj (xS kk).P 53 (.ro (l.map (aF .i64))) (.lit (.int k n)) H=(idx l n).map fun x => .rp ((aF .i64) x):=cd (e:=3) (by kernel_rfl) (fun x=>(by kernel_rfl:((aF .i64) x).length=aS (xS kk).P 3)) (by kernel_rfl)
theorem afs (kk:Nat) (id g len:Nat) (k:IntKind) (n:Int) (H:Hp):aj (xS kk).P 53 (.own id g len) (.lit (.int k n)) H=ixB 1 g len id n (H[id]?):=bf (P:=(xS kk).P) (e:=3) (by kernel_rfl) (by kernel_rfl)
theorem adf (kk:Nat) (l:Tye) (k:IntKind) (n:Int) (H:Hp):aj (xS kk).P 63 (.ro (l.map aD)) (.lit (.int k n)) H=(idx l n).map fun x => .rp (aD x):=cd (e:=129) (by kernel_rfl) (fun x=>(by kernel_rfl:(aD x).length=aS (xS kk).P 129)) (by kernel_rfl)
theorem aeB (kk:Nat) (id g len:Nat) (k:IntKind) (n:Int) (H:Hp):aj (xS kk).P 63 (.own id g len) (.lit (.int k n)) H=ixB 3 g len id n (H[id]?):=bf (P:=(xS kk).P) (e:=129) (by kernel_rfl) (by kernel_rfl)
theorem YZ (kk:Nat) (l:List Bool) (k:IntKind) (n:Int) (H:Hp):aj (xS kk).P 150 (.ro (l.map fA)) (.lit (.int k n)) H=(idx l n).map fun x => .rp (fA x):=cd (e:=4) (by kernel_rfl) (fun x=>(by kernel_rfl:(fA x).length=aS (xS kk).P 4)) (by kernel_rfl)
theorem abd (kk:Nat) (id g len:Nat) (k:IntKind) (n:Int) (H:Hp):aj (xS kk).P 150 (.own id g len) (.lit (.int k n)) H=ixB 1 g len id n (H[id]?):=bf (P:=(xS kk).P) (e:=4) (by kernel_rfl) (by kernel_rfl)
theorem aa4 (kk:Nat) (id g len:Nat) (k:IntKind) (n:Int) (H:Hp):aj (xS kk).P 207 (.own id g len) (.lit (.int k n)) H=ixB 1 g len id n (H[id]?):=bf (P:=(xS kk).P) (e:=206) (by kernel_rfl) (by kernel_rfl)
theorem aar (kk:Nat) (id g len:Nat) (k:IntKind) (n:Int) (H:Hp):aj (xS kk).P 223 (.own id g len) (.lit (.int k n)) H=ixB 1 g len id n (H[id]?):=bf (P:=(xS kk).P) (e:=116) (by kernel_rfl) (by kernel_rfl)
theorem Yr (kk:Nat) (id g len:Nat) (k:IntKind) (n:Int) (H:Hp):aj (xS kk).P 238 (.own id g len) (.lit (.int k n)) H=ixB 1 g len id n (H[id]?):=bf (P:=(xS kk).P) (e:=1) (by kernel_rfl) (by kernel_rfl)
theorem aaS (kk:Nat) (x:V) (H:Hp):bc (xS kk).P 24 x H=(uf x H).map fun v=>(v,H):=by kernel_rfl
theorem aat (kk:Nat) (x:V) (H:Hp):bc (xS kk).P 25 x H=(uf x H).map fun v=>(v,H):=by kernel_rfl
theorem abH (kk:Nat) (x:V) (H:Hp):bc (xS kk).P 26 x H=(uf x H).map fun v=>(v,H):=by kernel_rfl
theorem XV (kk:Nat) (x:V) (H:Hp):bc (xS kk).P 27 x H=(uf x H).map fun v=>(v,H):=by kernel_rfl
theorem aak (kk:Nat) (x:V) (H:Hp):bc (xS kk).P 28 x H=(uf x H).map fun v=>(v,H):=by kernel_rfl
theorem Xz (kk:Nat) (x:V) (H:Hp):bc (xS kk).P 31 x H=(uf x H).map fun v=>(v,H):=by kernel_rfl
theorem XX (kk:Nat) (x:V) (H:Hp):bc (xS kk).P 34 x H=(uf x H).map fun v=>(v,H):=by kernel_rfl
theorem abM (kk:Nat) (x:V) (H:Hp):bc (xS kk).P 40 x H=(uf x H).map fun v=>(v,H):=by kernel_rfl
theorem abg (kk:Nat) (x:V) (H:Hp):bc (xS kk).P 53 x H=(uf x H).map fun v=>(v,H):=by kernel_rfl
theorem X0 (kk:Nat) (x:V) (H:Hp):bc (xS kk).P 63 x H=(uf x H).map fun v=>(v,H):=by kernel_rfl
theorem VI (kk:Nat) (x:V) (H:Hp):bc (xS kk).P 207 x H=(uf x H).map fun v=>(v,H):=by kernel_rfl
theorem Tj (kk:Nat) (x:V) (H:Hp):bc (xS kk).P 238 x H=(uf x H).map fun v=>(v,H):=by kernel_rfl
theorem Ow (kk:Nat) (wl:Nat) (s x:V) (H:Hp):kM (xS kk).P wl 24 24 s x H=bl (xS kk).P wl 24 s x H:=by kernel_rfl
theorem OD (kk:Nat) (wl id g len:Nat) (x:V) (H:Hp):bl (xS kk).P wl 24 (.own id g len) x H=(bU x H).bind fun xs=>bif cf 2 xs then apB wl 101 2 32 id g len xs H (H[id]?) else none:=(dX (P:=(xS kk).P) (t:=24) (e:=101) (by kernel_rfl) (by kernel_rfl)).trans (by kernel_rfl)
theorem Qb (kk:Nat) (wl:Nat) (x:V) (H:Hp):bl (xS kk).P wl 24 .nil x H=(bU x H).bind fun xs=>bif cf 2 xs then bif decide (xs.length*32≤70368744177664) then some (.own H.length 0 xs.length,H++[.rows 2 xs 0 true]) else none else none:=(dW (P:=(xS kk).P) (t:=24) (e:=101) (by kernel_rfl) (by kernel_rfl)).trans (by kernel_rfl)
theorem OI (kk:Nat) (wl:Nat) (s x:V) (H:Hp):kM (xS kk).P wl 25 25 s x H=bl (xS kk).P wl 25 s x H:=by kernel_rfl
theorem Ot (kk:Nat) (wl id g len:Nat) (x:V) (H:Hp):bl (xS kk).P wl 25 (.own id g len) x H=(bU x H).bind fun xs=>bif cf 1 xs then apB wl 46 1 8 id g len xs H (H[id]?) else none:=(dX (P:=(xS kk).P) (t:=25) (e:=46) (by kernel_rfl) (by kernel_rfl)).trans (by kernel_rfl)
theorem Qt (kk:Nat) (wl:Nat) (x:V) (H:Hp):bl (xS kk).P wl 25 .nil x H=(bU x H).bind fun xs=>bif cf 1 xs then bif decide (xs.length*8≤70368744177664) then some (.own H.length 0 xs.length,H++[.rows 1 xs 0 true]) else none else none:=(dW (P:=(xS kk).P) (t:=25) (e:=46) (by kernel_rfl) (by kernel_rfl)).trans (by kernel_rfl)
theorem ND (kk:Nat) (wl:Nat) (s x:V) (H:Hp):kM (xS kk).P wl 26 26 s x H=bl (xS kk).P wl 26 s x H:=by kernel_rfl
theorem Qh (kk:Nat) (wl id g len:Nat) (x:V) (H:Hp):bl (xS kk).P wl 26 (.own id g len) x H=(bU x H).bind fun xs=>bif cf 1 xs then apB wl 46 1 8 id g len xs H (H[id]?) else none:=(dX (P:=(xS kk).P) (t:=26) (e:=46) (by kernel_rfl) (by kernel_rfl)).trans (by kernel_rfl)
theorem QZ (kk:Nat) (wl:Nat) (x:V) (H:Hp):bl (xS kk).P wl 26 .nil x H=(bU x H).bind fun xs=>bif cf 1 xs then bif decide (xs.length*8≤70368744177664) then some (.own H.length 0 xs.length,H++[.rows 1 xs 0 true]) else none else none:=(dW (P:=(xS kk).P) (t:=26) (e:=46) (by kernel_rfl) (by kernel_rfl)).trans (by kernel_rfl)
theorem Qx (kk:Nat) (wl:Nat) (s x:V) (H:Hp):kM (xS kk).P wl 27 27 s x H=bl (xS kk).P wl 27 s x H:=by kernel_rfl
theorem Qn (kk:Nat) (wl id g len:Nat) (x:V) (H:Hp):bl (xS kk).P wl 27 (.own id g len) x H=(bU x H).bind fun xs=>bif cf 11 xs then apB wl 65 11 104 id g len xs H (H[id]?) else none:=(dX (P:=(xS kk).P) (t:=27) (e:=65) (by kernel_rfl) (by kernel_rfl)).trans (by kernel_rfl)
theorem OZ (kk:Nat) (wl:Nat) (x:V) (H:Hp):bl (xS kk).P wl 27 .nil x H=(bU x H).bind fun xs=>bif cf 11 xs then bif decide (xs.length*104≤70368744177664) then some (.own H.length 0 xs.length,H++[.rows 11 xs 0 true]) else none else none:=(dW (P:=(xS kk).P) (t:=27) (e:=65) (by kernel_rfl) (by kernel_rfl)).trans (by kernel_rfl)
theorem QE (kk:Nat) (wl:Nat) (s x:V) (H:Hp):kM (xS kk).P wl 28 28 s x H=bl (xS kk).P wl 28 s x H:=by kernel_rfl
theorem O6 (kk:Nat) (wl id g len:Nat) (x:V) (H:Hp):bl (xS kk).P wl 28 (.own id g len) x H=(bU x H).bind fun xs=>bif cf 9 xs then apB wl 57 9 88 id g len xs H (H[id]?) else none:=(dX (P:=(xS kk).P) (t:=28) (e:=57) (by kernel_rfl) (by kernel_rfl)).trans (by kernel_rfl)
theorem QF (kk:Nat) (wl:Nat) (x:V) (H:Hp):bl (xS kk).P wl 28 .nil x H=(bU x H).bind fun xs=>bif cf 9 xs then bif decide (xs.length*88≤70368744177664) then some (.own H.length 0 xs.length,H++[.rows 9 xs 0 true]) else none else none:=(dW (P:=(xS kk).P) (t:=28) (e:=57) (by kernel_rfl) (by kernel_rfl)).trans (by kernel_rfl)
theorem OA (kk:Nat) (wl:Nat) (s x:V) (H:Hp):kM (xS kk).P wl 34 34 s x H=bl (xS kk).P wl 34 s x H:=by kernel_rfl
theorem Qy (kk:Nat) (wl id g len:Nat) (x:V) (H:Hp):bl (xS kk).P wl 34 (.own id g len) x H=(bU x H).bind fun xs=>bif cf 3 xs then apB wl 52 3 24 id g len xs H (H[id]?) else none:=(dX (P:=(xS kk).P) (t:=34) (e:=52) (by kernel_rfl) (by kernel_rfl)).trans (by kernel_rfl)
theorem Pb (kk:Nat) (wl:Nat) (x:V) (H:Hp):bl (xS kk).P wl 34 .nil x H=(bU x H).bind fun xs=>bif cf 3 xs then bif decide (xs.length*24≤70368744177664) then some (.own H.length 0 xs.length,H++[.rows 3 xs 0 true]) else none else none:=(dW (P:=(xS kk).P) (t:=34) (e:=52) (by kernel_rfl) (by kernel_rfl)).trans (by kernel_rfl)
theorem QV (kk:Nat) (wl:Nat) (s x:V) (H:Hp):kM (xS kk).P wl 53 53 s x H=bl (xS kk).P wl 53 s x H:=by kernel_rfl
theorem P5 (kk:Nat) (wl id g len:Nat) (x:V) (H:Hp):bl (xS kk).P wl 53 (.own id g len) x H=(bU x H).bind fun xs=>bif cf 1 xs then apB wl 3 1 8 id g len xs H (H[id]?) else none:=(dX (P:=(xS kk).P) (t:=53) (e:=3) (by kernel_rfl) (by kernel_rfl)).trans (by kernel_rfl)
theorem NE (kk:Nat) (wl:Nat) (x:V) (H:Hp):bl (xS kk).P wl 53 .nil x H=(bU x H).bind fun xs=>bif cf 1 xs then bif decide (xs.length*8≤70368744177664) then some (.own H.length 0 xs.length,H++[.rows 1 xs 0 true]) else none else none:=(dW (P:=(xS kk).P) (t:=53) (e:=3) (by kernel_rfl) (by kernel_rfl)).trans (by kernel_rfl)
theorem Qc (kk:Nat) (wl:Nat) (s x:V) (H:Hp):kM (xS kk).P wl 63 63 s x H=bl (xS kk).P wl 63 s x H:=by kernel_rfl
theorem Nn (kk:Nat) (wl id g len:Nat) (x:V) (H:Hp):bl (xS kk).P wl 63 (.own id g len) x H=(bU x H).bind fun xs=>bif cf 3 xs then apB wl 129 3 24 id g len xs H (H[id]?) else none:=(dX (P:=(xS kk).P) (t:=63) (e:=129) (by kernel_rfl) (by kernel_rfl)).trans (by kernel_rfl)
theorem O7 (kk:Nat) (wl:Nat) (x:V) (H:Hp):bl (xS kk).P wl 63 .nil x H=(bU x H).bind fun xs=>bif cf 3 xs then bif decide (xs.length*24≤70368744177664) then some (.own H.length 0 xs.length,H++[.rows 3 xs 0 true]) else none else none:=(dW (P:=(xS kk).P) (t:=63) (e:=129) (by kernel_rfl) (by kernel_rfl)).trans (by kernel_rfl)
theorem acu (kk:Nat) (wl:Nat) (c:Bool) (id g len:Nat) (k:IntKind) (n:Int) (H:Hp):bR (xS kk).P wl c 53 (.own id g len) none (some (.lit (.int k n))) none H=slB g len id n H (H[id]?):=mV (P:=(xS kk).P) (e:=3) (by kernel_rfl) (by kernel_rfl)
theorem afv (kk:Nat) (wl:Nat) (c:Bool) (l:List Int) (k:IntKind) (n:Int) (H:Hp):bR (xS kk).P wl c 53 (.ro (l.map (aF .i64))) none (some (.lit (.int k n))) none H=bif decide (0≤n∧n≤l.length) then some (.ro ((l.take n.toNat).map (aF .i64)),H) else none:=oI (P:=(xS kk).P) (e:=3) (by kernel_rfl) (by kernel_rfl) (fun x=>(by kernel_rfl:((aF .i64) x).length=aS (xS kk).P 3))
theorem afN (kk:Nat) (wl:Nat) (c:Bool) (l:List Int) (k:IntKind) (n:Int) (H:Hp):bR (xS kk).P wl c 53 (.ro (l.map (aF .i64))) (some (.lit (.int k n))) none none H=bif decide (0≤n∧n≤l.length) then some (.ro ((l.drop n.toNat).map (aF .i64)),H) else none:=oX (P:=(xS kk).P) (e:=3) (by kernel_rfl) (by kernel_rfl) (fun x=>(by kernel_rfl:((aF .i64) x).length=aS (xS kk).P 3))
theorem aeW (kk:Nat) (wl:Nat) (c:Bool) (l:List Int) (k k2:IntKind) (lo n:Int) (H:Hp):bR (xS kk).P wl c 53 (.ro (l.map (aF .i64))) (some (.lit (.int k lo))) (some (.lit (.int k2 n))) none H=bif decide (0≤lo∧lo≤n∧n≤l.length) then some (.ro (((l.take n.toNat).drop lo.toNat).map (aF .i64)),H) else none:=md (P:=(xS kk).P) (e:=3) (by kernel_rfl) (by kernel_rfl) (fun x=>(by kernel_rfl:((aF .i64) x).length=aS (xS kk).P 3))
theorem aer (kk:Nat) (wl:Nat) (c:Bool) (id g len:Nat) (k:IntKind) (n:Int) (H:Hp):bR (xS kk).P wl c 63 (.own id g len) none (some (.lit (.int k n))) none H=slB g len id n H (H[id]?):=mV (P:=(xS kk).P) (e:=129) (by kernel_rfl) (by kernel_rfl)
theorem ae7 (kk:Nat) (wl:Nat) (c:Bool) (l:Tye) (k:IntKind) (n:Int) (H:Hp):bR (xS kk).P wl c 63 (.ro (l.map aD)) none (some (.lit (.int k n))) none H=bif decide (0≤n∧n≤l.length) then some (.ro ((l.take n.toNat).map aD),H) else none:=oI (P:=(xS kk).P) (e:=129) (by kernel_rfl) (by kernel_rfl) (fun x=>(by kernel_rfl:(aD x).length=aS (xS kk).P 129))
theorem aec (kk:Nat) (wl:Nat) (c:Bool) (l:Tye) (k:IntKind) (n:Int) (H:Hp):bR (xS kk).P wl c 63 (.ro (l.map aD)) (some (.lit (.int k n))) none none H=bif decide (0≤n∧n≤l.length) then some (.ro ((l.drop n.toNat).map aD),H) else none:=oX (P:=(xS kk).P) (e:=129) (by kernel_rfl) (by kernel_rfl) (fun x=>(by kernel_rfl:(aD x).length=aS (xS kk).P 129))
theorem aef (kk:Nat) (wl:Nat) (c:Bool) (l:Tye) (k k2:IntKind) (lo n:Int) (H:Hp):bR (xS kk).P wl c 63 (.ro (l.map aD)) (some (.lit (.int k lo))) (some (.lit (.int k2 n))) none H=bif decide (0≤lo∧lo≤n∧n≤l.length) then some (.ro (((l.take n.toNat).drop lo.toNat).map aD),H) else none:=md (P:=(xS kk).P) (e:=129) (by kernel_rfl) (by kernel_rfl) (fun x=>(by kernel_rfl:(aD x).length=aS (xS kk).P 129))
theorem abF (kk:Nat) (n:Int) (H:Hp):be (xS kk).P 150 (.lit (.int .i64 n)) (.lit (.int .i64 n)) H=bif decide (0≤n∧n≤9223372036854775807∧n*1≤70368744177664) then some (.own H.length 0 n.toNat,H++[.rows 1 (List.replicate n.toNat [(V.lit (Value.bool false))]) 0 true]) else none:=A4 (P:=(xS kk).P) (t:=150) (e:=4) (z:=((fk (xS kk).P 4).getD default)) (by kernel_rfl) (by kernel_rfl) (by kernel_rfl) (by kernel_rfl)
theorem UJ (kk:Nat) (k:IntKind) (n:Int):fI (xS kk).P 3 46 (.lit (.int k n))=some (.lit (.int .u64 (IntKind.wrap .u64 n))):=by kernel_rfl
theorem T4 (kk:Nat) (k:IntKind) (n:Int):fI (xS kk).P 46 3 (.lit (.int k n))=some (.lit (.int .i64 (IntKind.wrap .i64 n))):=by kernel_rfl
theorem afS (kk:Nat) (a0 b0:Int) (a1 b1:Int) (a2 b2:Int) (a3 b3:Int):aw (xS kk).P .eql 23 (.agg [.lit (.int .i64 a0),.lit (.int .i64 a1),.lit (.int .i64 a2),.lit (.int .i64 a3)]) (.agg [.lit (.int .i64 b0),.lit (.int .i64 b1),.lit (.int .i64 b2),.lit (.int .i64 b3)])=some (.lit (.bool ((a0==b0)&&((a1==b1)&&((a2==b2)&&((a3==b3)&&true)))))):=by kernel_rfl
theorem acA (kk:Nat) (a0 b0:Int) (a1 b1:Int) (a2 b2:Int) (a3 b3:Int):aw (xS kk).P .neq 23 (.agg [.lit (.int .i64 a0),.lit (.int .i64 a1),.lit (.int .i64 a2),.lit (.int .i64 a3)]) (.agg [.lit (.int .i64 b0),.lit (.int .i64 b1),.lit (.int .i64 b2),.lit (.int .i64 b3)])=some (.lit (.bool (!((a0==b0)&&((a1==b1)&&((a2==b2)&&((a3==b3)&&true))))))):=by kernel_rfl
theorem afZ (kk:Nat) (a0 b0:Int) (a1 b1:Int) (a2 b2:Int):aw (xS kk).P .eql 52 (.agg [.lit (.int .i64 a0),.lit (.int .i64 a1),.lit (.int .i64 a2)]) (.agg [.lit (.int .i64 b0),.lit (.int .i64 b1),.lit (.int .i64 b2)])=some (.lit (.bool ((a0==b0)&&((a1==b1)&&((a2==b2)&&true))))):=by kernel_rfl
theorem adY (kk:Nat) (a0 b0:Int) (a1 b1:Int) (a2 b2:Int):aw (xS kk).P .neq 52 (.agg [.lit (.int .i64 a0),.lit (.int .i64 a1),.lit (.int .i64 a2)]) (.agg [.lit (.int .i64 b0),.lit (.int .i64 b1),.lit (.int .i64 b2)])=some (.lit (.bool (!((a0==b0)&&((a1==b1)&&((a2==b2)&&true)))))):=by kernel_rfl
theorem aeb (kk:Nat) (a0 b0:Int) (a1 b1:Int) (a2 b2:Int) (a3 b3:Int) (a4 b4:Int) (a5 b5:Int) (a6 b6:Int):aw (xS kk).P .eql 55 (.agg [.lit (.int .i64 a0),.lit (.int .i64 a1),.lit (.int .i64 a2),.lit (.int .u64 a3),.lit (.int .u64 a4),.lit (.int .u64 a5),.lit (.int .i64 a6)]) (.agg [.lit (.int .i64 b0),.lit (.int .i64 b1),.lit (.int .i64 b2),.lit (.int .u64 b3),.lit (.int .u64 b4),.lit (.int .u64 b5),.lit (.int .i64 b6)])=some (.lit (.bool ((a0==b0)&&((a1==b1)&&((a2==b2)&&((a3==b3)&&((a4==b4)&&((a5==b5)&&((a6==b6)&&true))))))))):=by kernel_rfl
theorem afU (kk:Nat) (a0 b0:Int) (a1 b1:Int) (a2 b2:Int) (a3 b3:Int) (a4 b4:Int) (a5 b5:Int) (a6 b6:Int):aw (xS kk).P .neq 55 (.agg [.lit (.int .i64 a0),.lit (.int .i64 a1),.lit (.int .i64 a2),.lit (.int .u64 a3),.lit (.int .u64 a4),.lit (.int .u64 a5),.lit (.int .i64 a6)]) (.agg [.lit (.int .i64 b0),.lit (.int .i64 b1),.lit (.int .i64 b2),.lit (.int .u64 b3),.lit (.int .u64 b4),.lit (.int .u64 b5),.lit (.int .i64 b6)])=some (.lit (.bool (!((a0==b0)&&((a1==b1)&&((a2==b2)&&((a3==b3)&&((a4==b4)&&((a5==b5)&&((a6==b6)&&true)))))))))):=by kernel_rfl
theorem Yb (kk:Nat) (a0 b0:Int) (a1 b1:Int) (a2 b2:Int):aw (xS kk).P .eql 129 (.agg [.lit (.int .i64 a0),.lit (.int .i64 a1),.lit (.int .i64 a2)]) (.agg [.lit (.int .i64 b0),.lit (.int .i64 b1),.lit (.int .i64 b2)])=some (.lit (.bool ((a0==b0)&&((a1==b1)&&((a2==b2)&&true))))):=by kernel_rfl
theorem aaz (kk:Nat) (a0 b0:Int) (a1 b1:Int) (a2 b2:Int):aw (xS kk).P .neq 129 (.agg [.lit (.int .i64 a0),.lit (.int .i64 a1),.lit (.int .i64 a2)]) (.agg [.lit (.int .i64 b0),.lit (.int .i64 b1),.lit (.int .i64 b2)])=some (.lit (.bool (!((a0==b0)&&((a1==b1)&&((a2==b2)&&true)))))):=by kernel_rfl
theorem F8 (kk:Nat) (c0 c1 c2:V):a8 (xS kk).P 23 [(0,c0),(1,c1),(2,c2)]=(pa [(V.lit (Value.int .i64 (0))),(V.lit (Value.int .i64 (0))),(V.lit (Value.int .i64 (0))),(V.lit (Value.int .i64 (0)))] [(0,1,c0),(1,1,c1),(2,1,c2)]).map .agg:=by kernel_rfl
theorem aaD (kk:Nat):a8 (xS kk).P 30 []=(pa [(V.lit (Value.int .i64 (0))),(V.lit (Value.int .i64 (0))),(V.lit (Value.int .i64 (0))),(V.lit (Value.int .i64 (0))),V.nil,V.nil,V.nil,V.nil] []).map .agg:=by kernel_rfl
theorem EH (kk:Nat) (c0 c1 c2:V):a8 (xS kk).P 30 [(0,c0),(1,c1),(2,c2)]=(pa [(V.lit (Value.int .i64 (0))),(V.lit (Value.int .i64 (0))),(V.lit (Value.int .i64 (0))),(V.lit (Value.int .i64 (0))),V.nil,V.nil,V.nil,V.nil] [(0,4,c0),(4,1,c1),(5,1,c2)]).map .agg:=by kernel_rfl
theorem X3 (kk:Nat):a8 (xS kk).P 48 []=(pa [(V.lit (Value.int .i64 (0))),(V.lit (Value.int .i64 (0))),(V.lit (Value.int .u64 (0)))] []).map .agg:=by kernel_rfl
theorem TK (kk:Nat) (c0:V):a8 (xS kk).P 48 [(0,c0)]=(pa [(V.lit (Value.int .i64 (0))),(V.lit (Value.int .i64 (0))),(V.lit (Value.int .u64 (0)))] [(0,1,c0)]).map .agg:=by kernel_rfl
theorem FB (kk:Nat) (c0 c1 c2:V):a8 (xS kk).P 52 [(0,c0),(1,c1),(2,c2)]=(pa [(V.lit (Value.int .i64 (0))),(V.lit (Value.int .i64 (0))),(V.lit (Value.int .i64 (0)))] [(0,1,c0),(1,1,c1),(2,1,c2)]).map .agg:=by kernel_rfl
theorem ZS (kk:Nat):a8 (xS kk).P 55 []=(pa [(V.lit (Value.int .i64 (0))),(V.lit (Value.int .i64 (0))),(V.lit (Value.int .i64 (0))),(V.lit (Value.int .u64 (0))),(V.lit (Value.int .u64 (0))),(V.lit (Value.int .u64 (0))),(V.lit (Value.int .i64 (0)))] []).map .agg:=by kernel_rfl
theorem FW (kk:Nat) (c0 c1 c2:V):a8 (xS kk).P 55 [(0,c0),(2,c1),(3,c2)]=(pa [(V.lit (Value.int .i64 (0))),(V.lit (Value.int .i64 (0))),(V.lit (Value.int .i64 (0))),(V.lit (Value.int .u64 (0))),(V.lit (Value.int .u64 (0))),(V.lit (Value.int .u64 (0))),(V.lit (Value.int .i64 (0)))] [(0,1,c0),(2,1,c1),(3,1,c2)]).map .agg:=by kernel_rfl
theorem Bh (kk:Nat) (c0 c1 c2 c3:V):a8 (xS kk).P 55 [(0,c0),(2,c1),(3,c2),(6,c3)]=(pa [(V.lit (Value.int .i64 (0))),(V.lit (Value.int .i64 (0))),(V.lit (Value.int .i64 (0))),(V.lit (Value.int .u64 (0))),(V.lit (Value.int .u64 (0))),(V.lit (Value.int .u64 (0))),(V.lit (Value.int .i64 (0)))] [(0,1,c0),(2,1,c1),(3,1,c2),(6,1,c3)]).map .agg:=by kernel_rfl
theorem FU (kk:Nat) (c0 c1 c2:V):a8 (xS kk).P 57 [(0,c0),(1,c1),(2,c2)]=(pa [(V.lit (Value.int .i64 (0))),V.nil,(V.lit (Value.int .i64 (0))),(V.lit (Value.int .i64 (0))),(V.lit (Value.int .i64 (0))),(V.lit (Value.int .u64 (0))),(V.lit (Value.int .u64 (0))),(V.lit (Value.int .u64 (0))),(V.lit (Value.int .i64 (0)))] [(0,1,c0),(1,1,c1),(2,7,c2)]).map .agg:=by kernel_rfl
theorem Vd (kk:Nat) (c0:V):a8 (xS kk).P 57 [(1,c0)]=(pa [(V.lit (Value.int .i64 (0))),V.nil,(V.lit (Value.int .i64 (0))),(V.lit (Value.int .i64 (0))),(V.lit (Value.int .i64 (0))),(V.lit (Value.int .u64 (0))),(V.lit (Value.int .u64 (0))),(V.lit (Value.int .u64 (0))),(V.lit (Value.int .i64 (0)))] [(1,1,c0)]).map .agg:=by kernel_rfl
theorem TN (kk:Nat) (c0:V):a8 (xS kk).P 65 [(2,c0)]=(pa [(V.lit (Value.int .i64 (0))),V.nil,(V.lit (Value.int .i64 (0))),(V.lit (Value.int .i64 (0))),(V.lit (Value.int .i64 (0))),(V.lit (Value.int .u64 (0))),(V.lit (Value.int .u64 (0))),(V.lit (Value.int .u64 (0))),(V.lit (Value.int .i64 (0))),(V.lit (Value.int .i64 (0))),(V.lit (Value.int .i64 (0)))] [(2,7,c0)]).map .agg:=by kernel_rfl
theorem NB (kk:Nat) (c0:V):a8 (xS kk).P 129 [(0,c0)]=(pa [(V.lit (Value.int .i64 (0))),(V.lit (Value.int .i64 (0))),(V.lit (Value.int .i64 (0)))] [(0,1,c0)]).map .agg:=by kernel_rfl
theorem o8 (kk:Nat) (c0 c1 c2 c3 c4 c5:V):a8 (xS kk).P 168 [(0,c0),(1,c1),(2,c2),(3,c3),(4,c4),(5,c5)]=(pa [(V.lit (Value.int .i64 (0))),V.nil,(V.lit (Value.int .i64 (0))),(V.lit (Value.int .i64 (0))),(V.lit (Value.int .i64 (0))),(V.lit (Value.int .u64 (0))),(V.lit (Value.int .u64 (0))),(V.lit (Value.int .u64 (0))),(V.lit (Value.int .i64 (0))),(V.lit (Value.int .i64 (0))),(V.lit (Value.int .i64 (0))),(V.lit (Value.int .i64 (0))),(V.lit (Value.int .i64 (0))),(V.lit (Value.int .i64 (0))),(V.lit (Value.int .i64 (0))),V.nil,V.nil,(V.lit (Value.int .i64 (0))),(V.lit (Value.int .u64 (0))),V.nil] [(0,11,c0),(11,4,c1),(15,1,c2),(16,1,c3),(17,1,c4),(18,1,c5)]).map .agg:=by kernel_rfl
theorem dQ (kk:Nat) (c0 c1 c2 c3 c4 c5 c6 c7 c8 c9 c10 c11 c12 c13 c14 c15:V):a8 (xS kk).P 169 [(0,c0),(1,c1),(2,c2),(3,c3),(4,c4),(5,c5),(6,c6),(7,c7),(8,c8),(9,c9),(10,c10),(11,c11),(12,c12),(13,c13),(14,c14),(15,c15)]=(pa [(V.lit Value.nilFunc),(V.lit Value.nilFunc),(V.lit Value.nilFunc),(V.lit Value.nilFunc),(V.lit Value.nilFunc),(V.lit Value.nilFunc),(V.lit Value.nilFunc),(V.lit Value.nilFunc),(V.lit Value.nilFunc),(V.lit Value.nilFunc),(V.lit Value.nilFunc),(V.lit Value.nilFunc),(V.lit Value.nilFunc),(V.lit Value.nilFunc),(V.lit Value.nilFunc),(V.lit Value.nilFunc)] [(0,1,c0),(1,1,c1),(2,1,c2),(3,1,c3),(4,1,c4),(5,1,c5),(6,1,c6),(7,1,c7),(8,1,c8),(9,1,c9),(10,1,c10),(11,1,c11),(12,1,c12),(13,1,c13),(14,1,c14),(15,1,c15)]).map .agg:=by kernel_rfl
theorem o4 (kk:Nat) (c0 c1 c2 c3 c4 c5:V):a8 (xS kk).P 175 [(0,c0),(1,c1),(2,c2),(3,c3),(4,c4),(5,c5)]=(pa [(V.lit Value.nilFunc),(V.lit Value.nilFunc),(V.lit Value.nilFunc),(V.lit Value.nilFunc),(V.lit Value.nilFunc),(V.lit Value.nilFunc)] [(0,1,c0),(1,1,c1),(2,1,c2),(3,1,c3),(4,1,c4),(5,1,c5)]).map .agg:=by kernel_rfl
theorem To (kk:Nat):a8 (xS kk).P 194 []=(pa [(V.lit (Value.int .i64 (0))),(V.lit (Value.int .i64 (0)))] []).map .agg:=by kernel_rfl
theorem Jm (kk:Nat) (c0 c1:V):a8 (xS kk).P 194 [(0,c0),(1,c1)]=(pa [(V.lit (Value.int .i64 (0))),(V.lit (Value.int .i64 (0)))] [(0,1,c0),(1,1,c1)]).map .agg:=by kernel_rfl
theorem Ea (kk:Nat) (c0 c1 c2:V):a8 (xS kk).P 205 [(0,c0),(1,c1),(2,c2)]=(pa [(V.lit (Value.int .i64 (0))),(V.lit (Value.int .i64 (0))),(V.lit (Value.int .i64 (0))),(V.lit (Value.int .u64 (0))),(V.lit (Value.int .u64 (0))),(V.lit (Value.int .u64 (0))),(V.lit (Value.int .i64 (0))),(V.lit (Value.int .i64 (0))),(V.lit (Value.int .i64 (0))),(V.lit (Value.int .i64 (0))),(V.lit (Value.int .i64 (0))),V.nil] [(0,7,c0),(7,4,c1),(11,1,c2)]).map .agg:=by kernel_rfl
theorem Dn (kk:Nat) (c0 c1 c2:V):a8 (xS kk).P 221 [(0,c0),(1,c1),(2,c2)]=(pa [(V.lit (Value.int .i64 (0))),(V.lit (Value.int .i64 (0))),(V.lit (Value.int .i64 (0))),(V.lit (Value.int .u64 (0))),(V.lit (Value.int .u64 (0))),(V.lit (Value.int .u64 (0))),(V.lit (Value.int .i64 (0))),(V.lit (Value.int .i64 (0))),(V.lit (Value.int .i64 (0))),(V.lit (Value.int .i64 (0))),(V.lit (Value.int .i64 (0))),V.nil] [(0,7,c0),(7,4,c1),(11,1,c2)]).map .agg:=by kernel_rfl
theorem Co (kk:Nat) (c0 c1 c2:V):a8 (xS kk).P 235 [(0,c0),(1,c1),(2,c2)]=(pa [(V.lit (Value.int .i64 (0))),(V.lit (Value.int .i64 (0))),(V.lit (Value.int .i64 (0))),(V.lit (Value.int .u64 (0))),(V.lit (Value.int .u64 (0))),(V.lit (Value.int .u64 (0))),(V.lit (Value.int .i64 (0))),(V.lit (Value.int .i64 (0))),(V.lit (Value.int .i64 (0))),(V.lit (Value.int .i64 (0))),(V.lit (Value.int .i64 (0))),V.nil] [(0,7,c0),(7,4,c1),(11,1,c2)]).map .agg:=by kernel_rfl
theorem xk (kk:Nat) (c0 c1 c2 c3:V):a8 (xS kk).P 236 [(0,c0),(1,c1),(2,c2),(3,c3)]=(pa [(V.lit Value.nilFunc),(V.lit Value.nilFunc),(V.lit Value.nilFunc),(V.lit Value.nilFunc)] [(0,1,c0),(1,1,c1),(2,1,c2),(3,1,c3)]).map .agg:=by kernel_rfl
theorem Uh (kk:Nat) (wl:Nat) (l:List (Nat×V)) (H:Hp):aA (xS kk).P wl 24 0 l H=(fo wl 2 l [] H).bind fun p=>some (.own p.2.length 0 0,p.2++[.rows 2 p.1 0 true]):=by kernel_rfl
theorem Wl (kk:Nat) (wl:Nat) (l:List (Nat×V)) (H:Hp):aA (xS kk).P wl 25 1 l H=(fo wl 1 l [[(V.lit (Value.int .u64 (0)))]] H).bind fun p=>some (.own p.2.length 0 1,p.2++[.rows 1 p.1 0 true]):=by kernel_rfl
theorem TP (kk:Nat) (wl:Nat) (l:List (Nat×V)) (H:Hp):aA (xS kk).P wl 26 0 l H=(fo wl 1 l [] H).bind fun p=>some (.own p.2.length 0 0,p.2++[.rows 1 p.1 0 true]):=by kernel_rfl
theorem U4 (kk:Nat) (wl:Nat) (l:List (Nat×V)) (H:Hp):aA (xS kk).P wl 26 1 l H=(fo wl 1 l [[(V.lit (Value.int .u64 (0)))]] H).bind fun p=>some (.own p.2.length 0 1,p.2++[.rows 1 p.1 0 true]):=by kernel_rfl
theorem UK (kk:Nat) (wl:Nat) (l:List (Nat×V)) (H:Hp):aA (xS kk).P wl 27 0 l H=(fo wl 11 l [] H).bind fun p=>some (.own p.2.length 0 0,p.2++[.rows 11 p.1 0 true]):=by kernel_rfl
theorem Ti (kk:Nat) (wl:Nat) (l:List (Nat×V)) (H:Hp):aA (xS kk).P wl 27 1 l H=(fo wl 11 l [[(V.lit (Value.int .i64 (0))),V.ro [],(V.lit (Value.int .i64 (0))),(V.lit (Value.int .i64 (0))),(V.lit (Value.int .i64 (0))),(V.lit (Value.int .u64 (0))),(V.lit (Value.int .u64 (0))),(V.lit (Value.int .u64 (0))),(V.lit (Value.int .i64 (0))),(V.lit (Value.int .i64 (0))),(V.lit (Value.int .i64 (0)))]] H).bind fun p=>some (.own p.2.length 0 1,p.2++[.rows 11 p.1 0 true]):=by kernel_rfl
theorem TV (kk:Nat) (wl:Nat) (l:List (Nat×V)) (H:Hp):aA (xS kk).P wl 28 0 l H=(fo wl 9 l [] H).bind fun p=>some (.own p.2.length 0 0,p.2++[.rows 9 p.1 0 true]):=by kernel_rfl
theorem VM (kk:Nat) (wl:Nat) (l:List (Nat×V)) (H:Hp):aA (xS kk).P wl 28 1 l H=(fo wl 9 l [[(V.lit (Value.int .i64 (0))),V.ro [],(V.lit (Value.int .i64 (0))),(V.lit (Value.int .i64 (0))),(V.lit (Value.int .i64 (0))),(V.lit (Value.int .u64 (0))),(V.lit (Value.int .u64 (0))),(V.lit (Value.int .u64 (0))),(V.lit (Value.int .i64 (0)))]] H).bind fun p=>some (.own p.2.length 0 1,p.2++[.rows 9 p.1 0 true]):=by kernel_rfl
theorem Wd (kk:Nat) (wl:Nat) (l:List (Nat×V)) (H:Hp):aA (xS kk).P wl 31 1 l H=(fo wl 3 l [[(V.lit (Value.int .i64 (0))),(V.lit (Value.int .i64 (0))),(V.lit (Value.int .u64 (0)))]] H).bind fun p=>some (.own p.2.length 0 1,p.2++[.rows 3 p.1 0 true]):=by kernel_rfl
theorem VA (kk:Nat) (wl:Nat) (l:List (Nat×V)) (H:Hp):aA (xS kk).P wl 31 2 l H=(fo wl 3 l [[(V.lit (Value.int .i64 (0))),(V.lit (Value.int .i64 (0))),(V.lit (Value.int .u64 (0)))],[(V.lit (Value.int .i64 (0))),(V.lit (Value.int .i64 (0))),(V.lit (Value.int .u64 (0)))]] H).bind fun p=>some (.own p.2.length 0 2,p.2++[.rows 3 p.1 0 true]):=by kernel_rfl
theorem U5 (kk:Nat) (wl:Nat) (l:List (Nat×V)) (H:Hp):aA (xS kk).P wl 34 1 l H=(fo wl 3 l [[(V.lit (Value.int .i64 (0))),(V.lit (Value.int .i64 (0))),(V.lit (Value.int .i64 (0)))]] H).bind fun p=>some (.own p.2.length 0 1,p.2++[.rows 3 p.1 0 true]):=by kernel_rfl
theorem Wc (kk:Nat) (wl:Nat) (l:List (Nat×V)) (H:Hp):aA (xS kk).P wl 53 0 l H=(fo wl 1 l [] H).bind fun p=>some (.own p.2.length 0 0,p.2++[.rows 1 p.1 0 true]):=by kernel_rfl
theorem Vx (kk:Nat) (wl:Nat) (l:List (Nat×V)) (H:Hp):aA (xS kk).P wl 53 1 l H=(fo wl 1 l [[(V.lit (Value.int .i64 (0)))]] H).bind fun p=>some (.own p.2.length 0 1,p.2++[.rows 1 p.1 0 true]):=by kernel_rfl
theorem WV (kk:Nat) (wl:Nat) (l:List (Nat×V)) (H:Hp):aA (xS kk).P wl 53 5 l H=(fo wl 1 l [[(V.lit (Value.int .i64 (0)))],[(V.lit (Value.int .i64 (0)))],[(V.lit (Value.int .i64 (0)))],[(V.lit (Value.int .i64 (0)))],[(V.lit (Value.int .i64 (0)))]] H).bind fun p=>some (.own p.2.length 0 5,p.2++[.rows 1 p.1 0 true]):=by kernel_rfl
theorem UG (kk:Nat) (wl:Nat) (l:List (Nat×V)) (H:Hp):aA (xS kk).P wl 63 0 l H=(fo wl 3 l [] H).bind fun p=>some (.own p.2.length 0 0,p.2++[.rows 3 p.1 0 true]):=by kernel_rfl
theorem Uu (kk:Nat) (wl:Nat) (l:List (Nat×V)) (H:Hp):aA (xS kk).P wl 63 1 l H=(fo wl 3 l [[(V.lit (Value.int .i64 (0))),(V.lit (Value.int .i64 (0))),(V.lit (Value.int .i64 (0)))]] H).bind fun p=>some (.own p.2.length 0 1,p.2++[.rows 3 p.1 0 true]):=by kernel_rfl
theorem NG (kk:Nat) (wl:Nat) (l:List (Nat×V)) (H:Hp):aA (xS kk).P wl 207 5 l H=(fo wl 1 l [[(V.lit Value.nilFunc)],[(V.lit Value.nilFunc)],[(V.lit Value.nilFunc)],[(V.lit Value.nilFunc)],[(V.lit Value.nilFunc)]] H).bind fun p=>some (.own p.2.length 0 5,p.2++[.rows 1 p.1 0 true]):=by kernel_rfl
theorem OU (kk:Nat) (wl:Nat) (l:List (Nat×V)) (H:Hp):aA (xS kk).P wl 223 5 l H=(fo wl 1 l [[(V.lit Value.nilFunc)],[(V.lit Value.nilFunc)],[(V.lit Value.nilFunc)],[(V.lit Value.nilFunc)],[(V.lit Value.nilFunc)]] H).bind fun p=>some (.own p.2.length 0 5,p.2++[.rows 1 p.1 0 true]):=by kernel_rfl
theorem PT (kk:Nat) (wl:Nat) (l:List (Nat×V)) (H:Hp):aA (xS kk).P wl 238 4 l H=(fo wl 1 l [[(V.lit Value.nilFunc)],[(V.lit Value.nilFunc)],[(V.lit Value.nilFunc)],[(V.lit Value.nilFunc)]] H).bind fun p=>some (.own p.2.length 0 4,p.2++[.rows 1 p.1 0 true]):=by kernel_rfl
theorem XM (kk:Nat) (wl id:Nat) (n:Int) (v:V) (H:Hp):eP (xS kk).P wl 138 (.map id) (.lit (.int .i64 n)) v H=inB wl .i64 id n v H (H[id]?):=by kernel_rfl
theorem Zk (kk:Nat) (id:Nat) (n:Int) (ok:Bool) (H:Hp):gk (xS kk).P 138 (.map id) (.lit (.int .i64 n)) ok H=lkB .i64 (V.lit Value.nilFunc) ok n (H[id]?):=by kernel_rfl
theorem XY (kk:Nat) (wl id:Nat) (n:Int) (v:V) (H:Hp):eP (xS kk).P wl 201 (.map id) (.lit (.int .i64 n)) v H=inB wl .i64 id n v H (H[id]?):=by kernel_rfl
theorem YD (kk:Nat) (id:Nat) (n:Int) (ok:Bool) (H:Hp):gk (xS kk).P 201 (.map id) (.lit (.int .i64 n)) ok H=lkB .i64 (V.lit Value.nilFunc) ok n (H[id]?):=by kernel_rfl
theorem aap (kk:Nat) (wl id:Nat) (n:Int) (v:V) (H:Hp):eP (xS kk).P wl 212 (.map id) (.lit (.int .i64 n)) v H=inB wl .i64 id n v H (H[id]?):=by kernel_rfl
theorem aaI (kk:Nat) (id:Nat) (n:Int) (ok:Bool) (H:Hp):gk (xS kk).P 212 (.map id) (.lit (.int .i64 n)) ok H=lkB .i64 (V.lit Value.nilFunc) ok n (H[id]?):=by kernel_rfl
theorem Zl (kk:Nat) (id g row off:Nat) (k:IntKind) (n:Int) (H:Hp):aj (xS kk).P 169 (.ptr id g row off) (.lit (.int k n)) H=arC id g row [(0,off),(1,off+1),(2,off+2),(3,off+3),(4,off+4),(5,off+5),(6,off+6),(7,off+7),(8,off+8),(9,off+9),(10,off+10),(11,off+11),(12,off+12),(13,off+13),(14,off+14),(15,off+15)] n:=HP (e:=1) (len:=16) (sz:=1) (by kernel_rfl) (by kernel_rfl) (by decide)
theorem XN (kk:Nat) (id g row off:Nat) (k:IntKind) (n:Int) (H:Hp):aj (xS kk).P 175 (.ptr id g row off) (.lit (.int k n)) H=arC id g row [(0,off),(1,off+1),(2,off+2),(3,off+3),(4,off+4),(5,off+5)] n:=HP (e:=1) (len:=6) (sz:=1) (by kernel_rfl) (by kernel_rfl) (by decide)
theorem Za (kk:Nat) (id g row off:Nat) (k:IntKind) (n:Int) (H:Hp):aj (xS kk).P 236 (.ptr id g row off) (.lit (.int k n)) H=arC id g row [(0,off),(1,off+1),(2,off+2),(3,off+3)] n:=HP (e:=1) (len:=4) (sz:=1) (by kernel_rfl) (by kernel_rfl) (by decide)
def xF0:=PLift.up (And.intro (And.intro (And.intro (And.intro (And.intro (And.intro (And.intro (And.intro (@ahh) (@ahB)) (And.intro (@ahX) (@ahC))) (And.intro (And.intro (@ahq) (@ahn)) (And.intro (@acB) (And.intro (@ae9) (@aeg))))) (And.intro (And.intro (And.intro (@acx) (@ac6)) (And.intro (@acU) (And.intro (@adM) (@adz)))) (And.intro (And.intro (@aeo) (@adN)) (And.intro (@acj) (And.intro (@afz) (@ac7)))))) (And.intro (And.intro (And.intro (And.intro (@acJ) (@ac4)) (And.intro (@acS) (And.intro (@ae8) (@aeP)))) (And.intro (And.intro (@agi) (@aeH)) (And.intro (@adj) (And.intro (@aex) (@ae3))))) (And.intro (And.intro (And.intro (@aed) (@aeu)) (And.intro (@aeY) (And.intro (@afm) (@afH)))) (And.intro (And.intro (@afd) (@acF)) (And.intro (@acp) (And.intro (@aeF) (@aee))))))) (And.intro (And.intro (And.intro (And.intro (And.intro (@agh) (@aa0)) (And.intro (@aaV) (@abj))) (And.intro (And.intro (@XF) (@ZX)) (And.intro (@ZV) (And.intro (@YM) (@Zb))))) (And.intro (And.intro (And.intro (@YJ) (@Zj)) (And.intro (@Zt) (And.intro (@abn) (@aav)))) (And.intro (And.intro (@Zh) (@XG)) (And.intro (@ZL) (And.intro (@ZF) (@abb)))))) (And.intro (And.intro (And.intro (And.intro (@aa1) (@Zp)) (And.intro (@aaL) (And.intro (@aa8) (@ahw)))) (And.intro (And.intro (@ahf) (@ahu)) (And.intro (@aco) (And.intro (@acP) (@adP))))) (And.intro (And.intro (And.intro (@acy) (@age)) (And.intro (@aei) (And.intro (@aeq) (@afW)))) (And.intro (And.intro (@ZB) (@aas)) (And.intro (@XO) (And.intro (@X6) (@abp)))))))) (And.intro (And.intro (And.intro (And.intro (And.intro (And.intro (@ZU) (@Zn)) (And.intro (@YL) (@Z0))) (And.intro (And.intro (@Tl) (@VQ)) (And.intro (@T1) (And.intro (@TC) (@Td))))) (And.intro (And.intro (And.intro (@W7) (@Vc)) (And.intro (@Xi) (And.intro (@T9) (@UH)))) (And.intro (And.intro (@WD) (@WH)) (And.intro (@Xh) (And.intro (@WP) (@Wb)))))) (And.intro (And.intro (And.intro (And.intro (@Tv) (@VY)) (And.intro (@W9) (And.intro (@V4) (@W4)))) (And.intro (And.intro (@Vj) (@Vp)) (And.intro (@WA) (And.intro (@UO) (@WJ))))) (And.intro (And.intro (And.intro (@WG) (@UX)) (And.intro (@T3) (And.intro (@Wv) (@VP)))) (And.intro (And.intro (@UW) (@VE)) (And.intro (@WE) (And.intro (@WS) (@U1))))))) (And.intro (And.intro (And.intro (And.intro (And.intro (@Wq) (@TX)) (And.intro (@WC) (@Ud))) (And.intro (And.intro (@Vr) (@V5)) (And.intro (@UQ) (And.intro (@Ta) (@S7))))) (And.intro (And.intro (And.intro (@UM) (@VX)) (And.intro (@W1) (And.intro (@Vb) (@TW)))) (And.intro (And.intro (@Vn) (@VG)) (And.intro (@U6) (And.intro (@VT) (@UV)))))) (And.intro (And.intro (And.intro (And.intro (@Xn) (@UP)) (And.intro (@Ns) (And.intro (@Nl) (@Oj)))) (And.intro (And.intro (@NJ) (@Qp)) (And.intro (@Qd) (And.intro (@Ph) (@NX))))) (And.intro (And.intro (And.intro (@OR) (@NF)) (And.intro (@NH) (And.intro (@QI) (@P0)))) (And.intro (And.intro (@OL) (@Na)) (And.intro (@NQ) (And.intro (@NW) (@Po))))))))) (And.intro (And.intro (And.intro (And.intro (And.intro (And.intro (And.intro (@O9) (@Qj)) (And.intro (@Qs) (@PF))) (And.intro (And.intro (@PS) (@O8)) (And.intro (@Nj) (And.intro (@Px) (@Oo))))) (And.intro (And.intro (And.intro (@Pv) (@Pm)) (And.intro (@QS) (And.intro (@P8) (@P1)))) (And.intro (And.intro (@NI) (@PU)) (And.intro (@Nw) (And.intro (@N5) (@OS)))))) (And.intro (And.intro (And.intro (And.intro (@Oq) (@OX)) (And.intro (@QM) (And.intro (@QX) (@OC)))) (And.intro (And.intro (@Oc) (@O3)) (And.intro (@Ni) (And.intro (@Pw) (@QY))))) (And.intro (And.intro (And.intro (@acK) (@af5)) (And.intro (@adH) (And.intro (@afa) (@adw)))) (And.intro (And.intro (@aeX) (@adS)) (And.intro (@ac5) (And.intro (@adu) (@adm))))))) (And.intro (And.intro (And.intro (And.intro (And.intro (@acO) (@acv)) (And.intro (@ac3) (@afK))) (And.intro (And.intro (@af6) (@afs)) (And.intro (@adf) (And.intro (@aeB) (@YZ))))) (And.intro (And.intro (And.intro (@abd) (@aa4)) (And.intro (@aar) (And.intro (@Yr) (@aaS)))) (And.intro (And.intro (@aat) (@abH)) (And.intro (@XV) (And.intro (@aak) (@Xz)))))) (And.intro (And.intro (And.intro (And.intro (@XX) (@abM)) (And.intro (@abg) (And.intro (@X0) (@VI)))) (And.intro (And.intro (@Tj) (@Ow)) (And.intro (@OD) (And.intro (@Qb) (@OI))))) (And.intro (And.intro (And.intro (@Ot) (@Qt)) (And.intro (@ND) (And.intro (@Qh) (@QZ)))) (And.intro (And.intro (@Qx) (@Qn)) (And.intro (@OZ) (And.intro (@QE) (@O6)))))))) (And.intro (And.intro (And.intro (And.intro (And.intro (And.intro (@QF) (@OA)) (And.intro (@Qy) (@Pb))) (And.intro (And.intro (@QV) (@P5)) (And.intro (@NE) (And.intro (@Qc) (@Nn))))) (And.intro (And.intro (And.intro (@O7) (@acu)) (And.intro (@afv) (And.intro (@afN) (@aeW)))) (And.intro (And.intro (@aer) (@ae7)) (And.intro (@aec) (And.intro (@aef) (@abF)))))) (And.intro (And.intro (And.intro (And.intro (@UJ) (@T4)) (And.intro (@afS) (And.intro (@acA) (@afZ)))) (And.intro (And.intro (@adY) (@aeb)) (And.intro (@afU) (And.intro (@Yb) (@aaz))))) (And.intro (And.intro (And.intro (@F8) (@aaD)) (And.intro (@EH) (And.intro (@X3) (@TK)))) (And.intro (And.intro (@FB) (@ZS)) (And.intro (@FW) (And.intro (@Bh) (@FU))))))) (And.intro (And.intro (And.intro (And.intro (And.intro (@Vd) (@TN)) (And.intro (@NB) (And.intro (@o8) (@dQ)))) (And.intro (And.intro (@o4) (@To)) (And.intro (@Jm) (And.intro (@Ea) (@Dn))))) (And.intro (And.intro (And.intro (@Co) (@xk)) (And.intro (@Uh) (And.intro (@Wl) (@TP)))) (And.intro (And.intro (@U4) (@UK)) (And.intro (@Ti) (And.intro (@TV) (@VM)))))) (And.intro (And.intro (And.intro (And.intro (@Wd) (@VA)) (And.intro (@U5) (And.intro (@Wc) (@Vx)))) (And.intro (And.intro (@WV) (@UG)) (And.intro (@Uu) (And.intro (@NG) (@OU))))) (And.intro (And.intro (And.intro (@PT) (@XM)) (And.intro (@Zk) (And.intro (@XY) (@YD)))) (And.intro (And.intro (@aap) (@aaI)) (And.intro (@Zl) (And.intro (@XN) (@Za))))))))))
theorem xF:type_of% xF0.down:=xF0.down
end Go.Ab
