import Derived.Test.YtblpbpnilkfjhaaGreatAbLibC
import Derived.Test.YtblpbpnilkfjhaaGreatAbLibB
import Derived.Test.YtblpbpnilkfjhaaGreatR6Seat
set_option linter.unusedVariables false
set_option linter.unusedSimpArgs false
set_option maxRecDepth 100000
set_option linter.unusedVariables false
namespace Go.Ab
open Go.Proofs
section
variable (kk:Nat) (c:V) (cs:List V) (H:Hp) (id:Nat) (g:Nat) (k:IntKind) (n:Int) (len:Nat) (x:V) (wl:Nat) (s:V)
theorem apj:aN (xS kk).P 1 (c::cs)=some c:=by kernel_rfl
theorem aon:aM (xS kk).P 1=1:=by kernel_rfl
theorem aoT:aN (xS kk).P 3 (c::cs)=some c:=by kernel_rfl
theorem ao1:aM (xS kk).P 3=1:=by kernel_rfl
theorem aoB:aN (xS kk).P 4 (c::cs)=some c:=by kernel_rfl
theorem ao9:aM (xS kk).P 4=1:=by kernel_rfl
theorem akz (c0 c1 c2 c3:V):aN (xS kk).P 23 (c0::c1::c2::c3::cs)=some (.agg [c0,c1,c2,c3]):=by kernel_rfl
theorem amA:aM (xS kk).P 23=4:=by kernel_rfl
theorem ajS:aN (xS kk).P 24 (c::cs)=some c:=by kernel_rfl
theorem alZ:aM (xS kk).P 24=1:=by kernel_rfl
theorem akj:aN (xS kk).P 26 (c::cs)=some c:=by kernel_rfl
theorem aiK:aM (xS kk).P 26=1:=by kernel_rfl
theorem alm:aN (xS kk).P 27 (c::cs)=some c:=by kernel_rfl
theorem aml:aM (xS kk).P 27=1:=by kernel_rfl
theorem ajE:aN (xS kk).P 28 (c::cs)=some c:=by kernel_rfl
theorem alY:aM (xS kk).P 28=1:=by kernel_rfl
theorem am9 (c0 c1 c2 c3 c4 c5 c6 c7:V):aN (xS kk).P 30 (c0::c1::c2::c3::c4::c5::c6::c7::cs)=some (.agg [c0,c1,c2,c3,c4,c5,c6,c7]):=by kernel_rfl
theorem aj3:aM (xS kk).P 30=8:=by kernel_rfl
theorem aka:aN (xS kk).P 32 (c::cs)=some c:=by kernel_rfl
theorem al8:aM (xS kk).P 32=1:=by kernel_rfl
theorem ajJ:aN (xS kk).P 34 (c::cs)=some c:=by kernel_rfl
theorem am5:aM (xS kk).P 34=1:=by kernel_rfl
theorem amI:aN (xS kk).P 46 (c::cs)=some c:=by kernel_rfl
theorem ami:aM (xS kk).P 46=1:=by kernel_rfl
theorem akn (c0 c1 c2:V):aN (xS kk).P 48 (c0::c1::c2::cs)=some (.agg [c0,c1,c2]):=by kernel_rfl
theorem aiz:aM (xS kk).P 48=3:=by kernel_rfl
theorem amh (c0 c1 c2:V):aN (xS kk).P 52 (c0::c1::c2::cs)=some (.agg [c0,c1,c2]):=by kernel_rfl
theorem ai3:aM (xS kk).P 52=3:=by kernel_rfl
theorem akb:aN (xS kk).P 53 (c::cs)=some c:=by kernel_rfl
theorem ak6:aM (xS kk).P 53=1:=by kernel_rfl
theorem als (c0 c1 c2 c3 c4 c5 c6:V):aN (xS kk).P 55 (c0::c1::c2::c3::c4::c5::c6::cs)=some (.agg [c0,c1,c2,c3,c4,c5,c6]):=by kernel_rfl
theorem ahe:aM (xS kk).P 55=7:=by kernel_rfl
theorem ajb (c0 c1 c2 c3 c4 c5 c6 c7 c8:V):aN (xS kk).P 57 (c0::c1::c2::c3::c4::c5::c6::c7::c8::cs)=some (.agg [c0,c1,c2,c3,c4,c5,c6,c7,c8]):=by kernel_rfl
theorem ah2:aM (xS kk).P 57=9:=by kernel_rfl
theorem agN:aN (xS kk).P 63 (c::cs)=some c:=by kernel_rfl
theorem ale:aM (xS kk).P 63=1:=by kernel_rfl
theorem aie (c0 c1 c2 c3 c4 c5 c6 c7 c8 c9 c10:V):aN (xS kk).P 65 (c0::c1::c2::c3::c4::c5::c6::c7::c8::c9::c10::cs)=some (.agg [c0,c1,c2,c3,c4,c5,c6,c7,c8,c9,c10]):=by kernel_rfl
theorem akJ:aM (xS kk).P 65=11:=by kernel_rfl
theorem ai0:aN (xS kk).P 86 (c::cs)=some c:=by kernel_rfl
theorem amo:aM (xS kk).P 86=1:=by kernel_rfl
theorem abZ (c0 c1:V):aN (xS kk).P 101 (c0::c1::cs)=some (.agg [c0,c1]):=by kernel_rfl
theorem adA:aM (xS kk).P 101=2:=by kernel_rfl
theorem ado:aN (xS kk).P 116 (c::cs)=some c:=by kernel_rfl
theorem af5:aM (xS kk).P 116=1:=by kernel_rfl
theorem aeh (c0 c1 c2:V):aN (xS kk).P 129 (c0::c1::c2::cs)=some (.agg [c0,c1,c2]):=by kernel_rfl
theorem ae1:aM (xS kk).P 129=3:=by kernel_rfl
theorem afo:aN (xS kk).P 150 (c::cs)=some c:=by kernel_rfl
theorem acM:aM (xS kk).P 150=1:=by kernel_rfl
theorem aeI (c0 c1 c2 c3 c4 c5 c6 c7 c8 c9 c10 c11 c12 c13 c14 c15:V):aN (xS kk).P 169 (c0::c1::c2::c3::c4::c5::c6::c7::c8::c9::c10::c11::c12::c13::c14::c15::cs)=some (.agg [c0,c1,c2,c3,c4,c5,c6,c7,c8,c9,c10,c11,c12,c13,c14,c15]):=by kernel_rfl
theorem afc:aM (xS kk).P 169=16:=by kernel_rfl
theorem aem:aN (xS kk).P 170 (c::cs)=some c:=by kernel_rfl
theorem acv:aM (xS kk).P 170=1:=by kernel_rfl
theorem afv (c0 c1 c2 c3 c4 c5:V):aN (xS kk).P 175 (c0::c1::c2::c3::c4::c5::cs)=some (.agg [c0,c1,c2,c3,c4,c5]):=by kernel_rfl
theorem afU:aM (xS kk).P 175=6:=by kernel_rfl
theorem afy (c0 c1:V):aN (xS kk).P 194 (c0::c1::cs)=some (.agg [c0,c1]):=by kernel_rfl
theorem adh:aM (xS kk).P 194=2:=by kernel_rfl
theorem adj:aN (xS kk).P 206 (c::cs)=some c:=by kernel_rfl
theorem aeJ:aM (xS kk).P 206=1:=by kernel_rfl
theorem afV:aN (xS kk).P 223 (c::cs)=some c:=by kernel_rfl
theorem aeO:aM (xS kk).P 223=1:=by kernel_rfl
theorem acp (c0 c1 c2 c3:V):aN (xS kk).P 236 (c0::c1::c2::c3::cs)=some (.agg [c0,c1,c2,c3]):=by kernel_rfl
theorem acP:aM (xS kk).P 236=4:=by kernel_rfl
theorem apw:cI (xS kk).P 1 H=some (.ptr (bA [(V.lit Value.nilFunc)] H).2.length 0 0 0,(bA [(V.lit Value.nilFunc)] H).2++[.box (bA [(V.lit Value.nilFunc)] H).1]):=by kernel_rfl
theorem apu:cI (xS kk).P 3 H=some (.ptr (bA [(V.lit (Value.int .i64 (0)))] H).2.length 0 0 0,(bA [(V.lit (Value.int .i64 (0)))] H).2++[.box (bA [(V.lit (Value.int .i64 (0)))] H).1]):=by kernel_rfl
theorem aof:cI (xS kk).P 4 H=some (.ptr (bA [(V.lit (Value.bool false))] H).2.length 0 0 0,(bA [(V.lit (Value.bool false))] H).2++[.box (bA [(V.lit (Value.bool false))] H).1]):=by kernel_rfl
theorem agH:cI (xS kk).P 26 H=some (.ptr (bA [V.nil] H).2.length 0 0 0,(bA [V.nil] H).2++[.box (bA [V.nil] H).1]):=by kernel_rfl
theorem akA:cI (xS kk).P 30 H=some (.ptr (bA [(V.lit (Value.int .i64 (0))),(V.lit (Value.int .i64 (0))),(V.lit (Value.int .i64 (0))),(V.lit (Value.int .i64 (0))),V.nil,V.nil,V.nil,V.nil] H).2.length 0 0 0,(bA [(V.lit (Value.int .i64 (0))),(V.lit (Value.int .i64 (0))),(V.lit (Value.int .i64 (0))),(V.lit (Value.int .i64 (0))),V.nil,V.nil,V.nil,V.nil] H).2++[.box (bA [(V.lit (Value.int .i64 (0))),(V.lit (Value.int .i64 (0))),(V.lit (Value.int .i64 (0))),(V.lit (Value.int .i64 (0))),V.nil,V.nil,V.nil,V.nil] H).1]):=by kernel_rfl
theorem alA:cI (xS kk).P 32 H=some (.ptr (bA [(V.lit Value.nilFunc)] H).2.length 0 0 0,(bA [(V.lit Value.nilFunc)] H).2++[.box (bA [(V.lit Value.nilFunc)] H).1]):=by kernel_rfl
theorem ak1:cI (xS kk).P 34 H=some (.ptr (bA [V.nil] H).2.length 0 0 0,(bA [V.nil] H).2++[.box (bA [V.nil] H).1]):=by kernel_rfl
theorem ana:cI (xS kk).P 48 H=some (.ptr (bA [(V.lit (Value.int .i64 (0))),(V.lit (Value.int .i64 (0))),(V.lit (Value.int .u64 (0)))] H).2.length 0 0 0,(bA [(V.lit (Value.int .i64 (0))),(V.lit (Value.int .i64 (0))),(V.lit (Value.int .u64 (0)))] H).2++[.box (bA [(V.lit (Value.int .i64 (0))),(V.lit (Value.int .i64 (0))),(V.lit (Value.int .u64 (0)))] H).1]):=by kernel_rfl
theorem ajy:cI (xS kk).P 55 H=some (.ptr (bA [(V.lit (Value.int .i64 (0))),(V.lit (Value.int .i64 (0))),(V.lit (Value.int .i64 (0))),(V.lit (Value.int .u64 (0))),(V.lit (Value.int .u64 (0))),(V.lit (Value.int .u64 (0))),(V.lit (Value.int .i64 (0)))] H).2.length 0 0 0,(bA [(V.lit (Value.int .i64 (0))),(V.lit (Value.int .i64 (0))),(V.lit (Value.int .i64 (0))),(V.lit (Value.int .u64 (0))),(V.lit (Value.int .u64 (0))),(V.lit (Value.int .u64 (0))),(V.lit (Value.int .i64 (0)))] H).2++[.box (bA [(V.lit (Value.int .i64 (0))),(V.lit (Value.int .i64 (0))),(V.lit (Value.int .i64 (0))),(V.lit (Value.int .u64 (0))),(V.lit (Value.int .u64 (0))),(V.lit (Value.int .u64 (0))),(V.lit (Value.int .i64 (0)))] H).1]):=by kernel_rfl
theorem ama:cI (xS kk).P 57 H=some (.ptr (bA [(V.lit (Value.int .i64 (0))),V.nil,(V.lit (Value.int .i64 (0))),(V.lit (Value.int .i64 (0))),(V.lit (Value.int .i64 (0))),(V.lit (Value.int .u64 (0))),(V.lit (Value.int .u64 (0))),(V.lit (Value.int .u64 (0))),(V.lit (Value.int .i64 (0)))] H).2.length 0 0 0,(bA [(V.lit (Value.int .i64 (0))),V.nil,(V.lit (Value.int .i64 (0))),(V.lit (Value.int .i64 (0))),(V.lit (Value.int .i64 (0))),(V.lit (Value.int .u64 (0))),(V.lit (Value.int .u64 (0))),(V.lit (Value.int .u64 (0))),(V.lit (Value.int .i64 (0)))] H).2++[.box (bA [(V.lit (Value.int .i64 (0))),V.nil,(V.lit (Value.int .i64 (0))),(V.lit (Value.int .i64 (0))),(V.lit (Value.int .i64 (0))),(V.lit (Value.int .u64 (0))),(V.lit (Value.int .u64 (0))),(V.lit (Value.int .u64 (0))),(V.lit (Value.int .i64 (0)))] H).1]):=by kernel_rfl
theorem aiD:cI (xS kk).P 65 H=some (.ptr (bA [(V.lit (Value.int .i64 (0))),V.nil,(V.lit (Value.int .i64 (0))),(V.lit (Value.int .i64 (0))),(V.lit (Value.int .i64 (0))),(V.lit (Value.int .u64 (0))),(V.lit (Value.int .u64 (0))),(V.lit (Value.int .u64 (0))),(V.lit (Value.int .i64 (0))),(V.lit (Value.int .i64 (0))),(V.lit (Value.int .i64 (0)))] H).2.length 0 0 0,(bA [(V.lit (Value.int .i64 (0))),V.nil,(V.lit (Value.int .i64 (0))),(V.lit (Value.int .i64 (0))),(V.lit (Value.int .i64 (0))),(V.lit (Value.int .u64 (0))),(V.lit (Value.int .u64 (0))),(V.lit (Value.int .u64 (0))),(V.lit (Value.int .i64 (0))),(V.lit (Value.int .i64 (0))),(V.lit (Value.int .i64 (0)))] H).2++[.box (bA [(V.lit (Value.int .i64 (0))),V.nil,(V.lit (Value.int .i64 (0))),(V.lit (Value.int .i64 (0))),(V.lit (Value.int .i64 (0))),(V.lit (Value.int .u64 (0))),(V.lit (Value.int .u64 (0))),(V.lit (Value.int .u64 (0))),(V.lit (Value.int .i64 (0))),(V.lit (Value.int .i64 (0))),(V.lit (Value.int .i64 (0)))] H).1]):=by kernel_rfl
theorem ac9:cI (xS kk).P 101 H=some (.ptr (bA [(V.lit (Value.int .i64 (0))),V.nil] H).2.length 0 0 0,(bA [(V.lit (Value.int .i64 (0))),V.nil] H).2++[.box (bA [(V.lit (Value.int .i64 (0))),V.nil] H).1]):=by kernel_rfl
theorem adT:cI (xS kk).P 129 H=some (.ptr (bA [(V.lit (Value.int .i64 (0))),(V.lit (Value.int .i64 (0))),(V.lit (Value.int .i64 (0)))] H).2.length 0 0 0,(bA [(V.lit (Value.int .i64 (0))),(V.lit (Value.int .i64 (0))),(V.lit (Value.int .i64 (0)))] H).2++[.box (bA [(V.lit (Value.int .i64 (0))),(V.lit (Value.int .i64 (0))),(V.lit (Value.int .i64 (0)))] H).1]):=by kernel_rfl
theorem aeA:cI (xS kk).P 150 H=some (.ptr (bA [V.nil] H).2.length 0 0 0,(bA [V.nil] H).2++[.box (bA [V.nil] H).1]):=by kernel_rfl
theorem ab3:cI (xS kk).P 169 H=some (.ptr (bA [(V.lit Value.nilFunc),(V.lit Value.nilFunc),(V.lit Value.nilFunc),(V.lit Value.nilFunc),(V.lit Value.nilFunc),(V.lit Value.nilFunc),(V.lit Value.nilFunc),(V.lit Value.nilFunc),(V.lit Value.nilFunc),(V.lit Value.nilFunc),(V.lit Value.nilFunc),(V.lit Value.nilFunc),(V.lit Value.nilFunc),(V.lit Value.nilFunc),(V.lit Value.nilFunc),(V.lit Value.nilFunc)] H).2.length 0 0 0,(bA [(V.lit Value.nilFunc),(V.lit Value.nilFunc),(V.lit Value.nilFunc),(V.lit Value.nilFunc),(V.lit Value.nilFunc),(V.lit Value.nilFunc),(V.lit Value.nilFunc),(V.lit Value.nilFunc),(V.lit Value.nilFunc),(V.lit Value.nilFunc),(V.lit Value.nilFunc),(V.lit Value.nilFunc),(V.lit Value.nilFunc),(V.lit Value.nilFunc),(V.lit Value.nilFunc),(V.lit Value.nilFunc)] H).2++[.box (bA [(V.lit Value.nilFunc),(V.lit Value.nilFunc),(V.lit Value.nilFunc),(V.lit Value.nilFunc),(V.lit Value.nilFunc),(V.lit Value.nilFunc),(V.lit Value.nilFunc),(V.lit Value.nilFunc),(V.lit Value.nilFunc),(V.lit Value.nilFunc),(V.lit Value.nilFunc),(V.lit Value.nilFunc),(V.lit Value.nilFunc),(V.lit Value.nilFunc),(V.lit Value.nilFunc),(V.lit Value.nilFunc)] H).1]):=by kernel_rfl
theorem aei:cI (xS kk).P 170 H=some (.ptr (bA [(V.lit Value.nilFunc)] H).2.length 0 0 0,(bA [(V.lit Value.nilFunc)] H).2++[.box (bA [(V.lit Value.nilFunc)] H).1]):=by kernel_rfl
theorem afY:cI (xS kk).P 175 H=some (.ptr (bA [(V.lit Value.nilFunc),(V.lit Value.nilFunc),(V.lit Value.nilFunc),(V.lit Value.nilFunc),(V.lit Value.nilFunc),(V.lit Value.nilFunc)] H).2.length 0 0 0,(bA [(V.lit Value.nilFunc),(V.lit Value.nilFunc),(V.lit Value.nilFunc),(V.lit Value.nilFunc),(V.lit Value.nilFunc),(V.lit Value.nilFunc)] H).2++[.box (bA [(V.lit Value.nilFunc),(V.lit Value.nilFunc),(V.lit Value.nilFunc),(V.lit Value.nilFunc),(V.lit Value.nilFunc),(V.lit Value.nilFunc)] H).1]):=by kernel_rfl
theorem aeY:cI (xS kk).P 194 H=some (.ptr (bA [(V.lit (Value.int .i64 (0))),(V.lit (Value.int .i64 (0)))] H).2.length 0 0 0,(bA [(V.lit (Value.int .i64 (0))),(V.lit (Value.int .i64 (0)))] H).2++[.box (bA [(V.lit (Value.int .i64 (0))),(V.lit (Value.int .i64 (0)))] H).1]):=by kernel_rfl
theorem afa:cI (xS kk).P 223 H=some (.ptr (bA [V.nil] H).2.length 0 0 0,(bA [V.nil] H).2++[.box (bA [V.nil] H).1]):=by kernel_rfl
theorem ad0:cI (xS kk).P 236 H=some (.ptr (bA [(V.lit Value.nilFunc),(V.lit Value.nilFunc),(V.lit Value.nilFunc),(V.lit Value.nilFunc)] H).2.length 0 0 0,(bA [(V.lit Value.nilFunc),(V.lit Value.nilFunc),(V.lit Value.nilFunc),(V.lit Value.nilFunc)] H).2++[.box (bA [(V.lit Value.nilFunc),(V.lit Value.nilFunc),(V.lit Value.nilFunc),(V.lit Value.nilFunc)] H).1]):=by kernel_rfl
theorem Z4:ag (xS kk).P 23 (.rp cs) 0=some (.rp (cs.drop 0)):=by kernel_rfl
theorem YV (row off:Nat):ag (xS kk).P 23 (.ptr id g row off) 0=some (.ptr id g row (off+0)):=by kernel_rfl
theorem XM:ag (xS kk).P 23 (.rp cs) 1=some (.rp (cs.drop 1)):=by kernel_rfl
theorem YS (row off:Nat):ag (xS kk).P 23 (.ptr id g row off) 1=some (.ptr id g row (off+1)):=by kernel_rfl
theorem Zu:ag (xS kk).P 23 (.rp cs) 2=some (.rp (cs.drop 2)):=by kernel_rfl
theorem aas (row off:Nat):ag (xS kk).P 23 (.ptr id g row off) 2=some (.ptr id g row (off+2)):=by kernel_rfl
theorem aaj:ag (xS kk).P 23 (.rp cs) 3=some (.rp (cs.drop 3)):=by kernel_rfl
theorem XF (row off:Nat):ag (xS kk).P 23 (.ptr id g row off) 3=some (.ptr id g row (off+3)):=by kernel_rfl
theorem Xr:ag (xS kk).P 30 (.rp cs) 0=some (.rp (cs.drop 0)):=by kernel_rfl
theorem Y6 (row off:Nat):ag (xS kk).P 30 (.ptr id g row off) 0=some (.ptr id g row (off+0)):=by kernel_rfl
theorem X8:ag (xS kk).P 30 (.rp cs) 1=some (.rp (cs.drop 4)):=by kernel_rfl
theorem ZL (row off:Nat):ag (xS kk).P 30 (.ptr id g row off) 1=some (.ptr id g row (off+4)):=by kernel_rfl
theorem Zn:ag (xS kk).P 30 (.rp cs) 2=some (.rp (cs.drop 5)):=by kernel_rfl
theorem aaX (row off:Nat):ag (xS kk).P 30 (.ptr id g row off) 2=some (.ptr id g row (off+5)):=by kernel_rfl
theorem XW:ag (xS kk).P 30 (.rp cs) 3=some (.rp (cs.drop 6)):=by kernel_rfl
theorem YH (row off:Nat):ag (xS kk).P 30 (.ptr id g row off) 3=some (.ptr id g row (off+6)):=by kernel_rfl
theorem Z6:ag (xS kk).P 30 (.rp cs) 4=some (.rp (cs.drop 7)):=by kernel_rfl
theorem ZF (row off:Nat):ag (xS kk).P 30 (.ptr id g row off) 4=some (.ptr id g row (off+7)):=by kernel_rfl
theorem WM:ag (xS kk).P 48 (.rp cs) 0=some (.rp (cs.drop 0)):=by kernel_rfl
theorem aaN (row off:Nat):ag (xS kk).P 48 (.ptr id g row off) 0=some (.ptr id g row (off+0)):=by kernel_rfl
theorem aaw:ag (xS kk).P 48 (.rp cs) 1=some (.rp (cs.drop 1)):=by kernel_rfl
theorem abA (row off:Nat):ag (xS kk).P 48 (.ptr id g row off) 1=some (.ptr id g row (off+1)):=by kernel_rfl
theorem W6:ag (xS kk).P 48 (.rp cs) 2=some (.rp (cs.drop 2)):=by kernel_rfl
theorem ZW (row off:Nat):ag (xS kk).P 48 (.ptr id g row off) 2=some (.ptr id g row (off+2)):=by kernel_rfl
theorem XB:ag (xS kk).P 52 (.rp cs) 0=some (.rp (cs.drop 0)):=by kernel_rfl
theorem abc (row off:Nat):ag (xS kk).P 52 (.ptr id g row off) 0=some (.ptr id g row (off+0)):=by kernel_rfl
theorem abD:ag (xS kk).P 55 (.rp cs) 0=some (.rp (cs.drop 0)):=by kernel_rfl
theorem aak (row off:Nat):ag (xS kk).P 55 (.ptr id g row off) 0=some (.ptr id g row (off+0)):=by kernel_rfl
theorem WU:ag (xS kk).P 55 (.rp cs) 1=some (.rp (cs.drop 1)):=by kernel_rfl
theorem YM (row off:Nat):ag (xS kk).P 55 (.ptr id g row off) 1=some (.ptr id g row (off+1)):=by kernel_rfl
theorem Yq:ag (xS kk).P 55 (.rp cs) 2=some (.rp (cs.drop 2)):=by kernel_rfl
theorem aav (row off:Nat):ag (xS kk).P 55 (.ptr id g row off) 2=some (.ptr id g row (off+2)):=by kernel_rfl
theorem Zt:ag (xS kk).P 55 (.rp cs) 3=some (.rp (cs.drop 3)):=by kernel_rfl
theorem aa9 (row off:Nat):ag (xS kk).P 55 (.ptr id g row off) 3=some (.ptr id g row (off+3)):=by kernel_rfl
theorem Yx:ag (xS kk).P 55 (.rp cs) 4=some (.rp (cs.drop 4)):=by kernel_rfl
theorem Yr (row off:Nat):ag (xS kk).P 55 (.ptr id g row off) 4=some (.ptr id g row (off+4)):=by kernel_rfl
theorem Zz:ag (xS kk).P 55 (.rp cs) 5=some (.rp (cs.drop 5)):=by kernel_rfl
theorem XO (row off:Nat):ag (xS kk).P 55 (.ptr id g row off) 5=some (.ptr id g row (off+5)):=by kernel_rfl
theorem ZG:ag (xS kk).P 55 (.rp cs) 6=some (.rp (cs.drop 6)):=by kernel_rfl
theorem Zk (row off:Nat):ag (xS kk).P 55 (.ptr id g row off) 6=some (.ptr id g row (off+6)):=by kernel_rfl
theorem aa0:ag (xS kk).P 57 (.rp cs) 0=some (.rp (cs.drop 0)):=by kernel_rfl
theorem aax (row off:Nat):ag (xS kk).P 57 (.ptr id g row off) 0=some (.ptr id g row (off+0)):=by kernel_rfl
theorem aaW:ag (xS kk).P 57 (.rp cs) 1=some (.rp (cs.drop 1)):=by kernel_rfl
theorem Yb (row off:Nat):ag (xS kk).P 57 (.ptr id g row off) 1=some (.ptr id g row (off+1)):=by kernel_rfl
theorem aaI:ag (xS kk).P 57 (.rp cs) 2=some (.rp (cs.drop 2)):=by kernel_rfl
theorem Yv (row off:Nat):ag (xS kk).P 57 (.ptr id g row off) 2=some (.ptr id g row (off+2)):=by kernel_rfl
theorem aaf:ag (xS kk).P 65 (.rp cs) 0=some (.rp (cs.drop 0)):=by kernel_rfl
theorem abm (row off:Nat):ag (xS kk).P 65 (.ptr id g row off) 0=some (.ptr id g row (off+0)):=by kernel_rfl
theorem Zq:ag (xS kk).P 65 (.rp cs) 1=some (.rp (cs.drop 1)):=by kernel_rfl
theorem WZ (row off:Nat):ag (xS kk).P 65 (.ptr id g row off) 1=some (.ptr id g row (off+1)):=by kernel_rfl
theorem WS:ag (xS kk).P 65 (.rp cs) 2=some (.rp (cs.drop 2)):=by kernel_rfl
theorem Zd (row off:Nat):ag (xS kk).P 65 (.ptr id g row off) 2=some (.ptr id g row (off+2)):=by kernel_rfl
theorem XG:ag (xS kk).P 65 (.rp cs) 3=some (.rp (cs.drop 9)):=by kernel_rfl
theorem Yw (row off:Nat):ag (xS kk).P 65 (.ptr id g row off) 3=some (.ptr id g row (off+9)):=by kernel_rfl
theorem YC:ag (xS kk).P 65 (.rp cs) 4=some (.rp (cs.drop 10)):=by kernel_rfl
theorem Ya (row off:Nat):ag (xS kk).P 65 (.ptr id g row off) 4=some (.ptr id g row (off+10)):=by kernel_rfl
theorem Te:ag (xS kk).P 101 (.rp cs) 0=some (.rp (cs.drop 0)):=by kernel_rfl
theorem Vq (row off:Nat):ag (xS kk).P 101 (.ptr id g row off) 0=some (.ptr id g row (off+0)):=by kernel_rfl
theorem U9:ag (xS kk).P 101 (.rp cs) 1=some (.rp (cs.drop 1)):=by kernel_rfl
theorem Ud (row off:Nat):ag (xS kk).P 101 (.ptr id g row off) 1=some (.ptr id g row (off+1)):=by kernel_rfl
theorem SS:ag (xS kk).P 129 (.rp cs) 0=some (.rp (cs.drop 0)):=by kernel_rfl
theorem Ty (row off:Nat):ag (xS kk).P 129 (.ptr id g row off) 0=some (.ptr id g row (off+0)):=by kernel_rfl
theorem S2:ag (xS kk).P 129 (.rp cs) 1=some (.rp (cs.drop 1)):=by kernel_rfl
theorem RG (row off:Nat):ag (xS kk).P 129 (.ptr id g row off) 1=some (.ptr id g row (off+1)):=by kernel_rfl
theorem TP:ag (xS kk).P 129 (.rp cs) 2=some (.rp (cs.drop 2)):=by kernel_rfl
theorem TG (row off:Nat):ag (xS kk).P 129 (.ptr id g row off) 2=some (.ptr id g row (off+2)):=by kernel_rfl
theorem RE:ag (xS kk).P 168 (.rp cs) 0=some (.rp (cs.drop 0)):=by kernel_rfl
theorem Ve (row off:Nat):ag (xS kk).P 168 (.ptr id g row off) 0=some (.ptr id g row (off+0)):=by kernel_rfl
theorem So:ag (xS kk).P 168 (.rp cs) 1=some (.rp (cs.drop 11)):=by kernel_rfl
theorem S5 (row off:Nat):ag (xS kk).P 168 (.ptr id g row off) 1=some (.ptr id g row (off+11)):=by kernel_rfl
theorem Vp:ag (xS kk).P 168 (.rp cs) 2=some (.rp (cs.drop 15)):=by kernel_rfl
theorem Rm (row off:Nat):ag (xS kk).P 168 (.ptr id g row off) 2=some (.ptr id g row (off+15)):=by kernel_rfl
theorem Rr:ag (xS kk).P 168 (.rp cs) 3=some (.rp (cs.drop 16)):=by kernel_rfl
theorem Tk (row off:Nat):ag (xS kk).P 168 (.ptr id g row off) 3=some (.ptr id g row (off+16)):=by kernel_rfl
theorem TY:ag (xS kk).P 168 (.rp cs) 4=some (.rp (cs.drop 17)):=by kernel_rfl
theorem RO (row off:Nat):ag (xS kk).P 168 (.ptr id g row off) 4=some (.ptr id g row (off+17)):=by kernel_rfl
theorem SN:ag (xS kk).P 168 (.rp cs) 5=some (.rp (cs.drop 18)):=by kernel_rfl
theorem Sm (row off:Nat):ag (xS kk).P 168 (.ptr id g row off) 5=some (.ptr id g row (off+18)):=by kernel_rfl
theorem TF:ag (xS kk).P 168 (.rp cs) 6=some (.rp (cs.drop 19)):=by kernel_rfl
theorem UC (row off:Nat):ag (xS kk).P 168 (.ptr id g row off) 6=some (.ptr id g row (off+19)):=by kernel_rfl
theorem Uu:ag (xS kk).P 194 (.rp cs) 0=some (.rp (cs.drop 0)):=by kernel_rfl
theorem UU (row off:Nat):ag (xS kk).P 194 (.ptr id g row off) 0=some (.ptr id g row (off+0)):=by kernel_rfl
theorem Vo:ag (xS kk).P 194 (.rp cs) 1=some (.rp (cs.drop 1)):=by kernel_rfl
theorem TE (row off:Nat):ag (xS kk).P 194 (.ptr id g row off) 1=some (.ptr id g row (off+1)):=by kernel_rfl
theorem Vg:ag (xS kk).P 205 (.rp cs) 0=some (.rp (cs.drop 0)):=by kernel_rfl
theorem Su (row off:Nat):ag (xS kk).P 205 (.ptr id g row off) 0=some (.ptr id g row (off+0)):=by kernel_rfl
theorem T6:ag (xS kk).P 205 (.rp cs) 1=some (.rp (cs.drop 7)):=by kernel_rfl
theorem Um (row off:Nat):ag (xS kk).P 205 (.ptr id g row off) 1=some (.ptr id g row (off+7)):=by kernel_rfl
theorem Uz:ag (xS kk).P 205 (.rp cs) 2=some (.rp (cs.drop 11)):=by kernel_rfl
theorem U7 (row off:Nat):ag (xS kk).P 205 (.ptr id g row off) 2=some (.ptr id g row (off+11)):=by kernel_rfl
theorem Sk:ag (xS kk).P 221 (.rp cs) 0=some (.rp (cs.drop 0)):=by kernel_rfl
theorem TO (row off:Nat):ag (xS kk).P 221 (.ptr id g row off) 0=some (.ptr id g row (off+0)):=by kernel_rfl
theorem Vu:ag (xS kk).P 221 (.rp cs) 1=some (.rp (cs.drop 7)):=by kernel_rfl
theorem UQ (row off:Nat):ag (xS kk).P 221 (.ptr id g row off) 1=some (.ptr id g row (off+7)):=by kernel_rfl
theorem Rp:ag (xS kk).P 221 (.rp cs) 2=some (.rp (cs.drop 11)):=by kernel_rfl
theorem SV (row off:Nat):ag (xS kk).P 221 (.ptr id g row off) 2=some (.ptr id g row (off+11)):=by kernel_rfl
theorem UL:ag (xS kk).P 235 (.rp cs) 0=some (.rp (cs.drop 0)):=by kernel_rfl
theorem Sw (row off:Nat):ag (xS kk).P 235 (.ptr id g row off) 0=some (.ptr id g row (off+0)):=by kernel_rfl
theorem Tl:ag (xS kk).P 235 (.rp cs) 1=some (.rp (cs.drop 7)):=by kernel_rfl
theorem Rl (row off:Nat):ag (xS kk).P 235 (.ptr id g row off) 1=some (.ptr id g row (off+7)):=by kernel_rfl
theorem Uy:ag (xS kk).P 235 (.rp cs) 2=some (.rp (cs.drop 11)):=by kernel_rfl
theorem Us (row off:Nat):ag (xS kk).P 235 (.ptr id g row off) 2=some (.ptr id g row (off+11)):=by kernel_rfl
theorem Vt:Bq (xS kk).P 194 (.agg cs) 0=aN (xS kk).P 3 (cs.drop 0):=by kernel_rfl
theorem ahS (l:Tyt):au (xS kk).P 24 (.ro (l.map ak)) (.lit (.int k n)) H=(idx l n).map fun x => .rp (ak x):=b7 (e:=101) (by kernel_rfl) (fun x=>(by kernel_rfl:(ak x).length=aM (xS kk).P 101)) (by kernel_rfl)
theorem aju:au (xS kk).P 24 (.own id g len) (.lit (.int k n)) H=ixB 2 g len id n (H[id]?):=aZ (P:=(xS kk).P) (e:=101) (by kernel_rfl) (by kernel_rfl)
theorem aij (l:List Int):au (xS kk).P 26 (.ro (l.map (aw .u64))) (.lit (.int k n)) H=(idx l n).map fun x => .rp ((aw .u64) x):=b7 (e:=46) (by kernel_rfl) (fun x=>(by kernel_rfl:((aw .u64) x).length=aM (xS kk).P 46)) (by kernel_rfl)
theorem amT:au (xS kk).P 26 (.own id g len) (.lit (.int k n)) H=ixB 1 g len id n (H[id]?):=aZ (P:=(xS kk).P) (e:=46) (by kernel_rfl) (by kernel_rfl)
theorem ahT (l:List Tyw):au (xS kk).P 27 (.ro (l.map aC)) (.lit (.int k n)) H=(idx l n).map fun x => .rp (aC x):=b7 (e:=65) (by kernel_rfl) (fun x=>(by kernel_rfl:(aC x).length=aM (xS kk).P 65)) (by kernel_rfl)
theorem amU:au (xS kk).P 27 (.own id g len) (.lit (.int k n)) H=ixB 11 g len id n (H[id]?):=aZ (P:=(xS kk).P) (e:=65) (by kernel_rfl) (by kernel_rfl)
theorem ahO (l:List Tys):au (xS kk).P 28 (.ro (l.map bh)) (.lit (.int k n)) H=(idx l n).map fun x => .rp (bh x):=b7 (e:=57) (by kernel_rfl) (fun x=>(by kernel_rfl:(bh x).length=aM (xS kk).P 57)) (by kernel_rfl)
theorem ajU:au (xS kk).P 28 (.own id g len) (.lit (.int k n)) H=ixB 9 g len id n (H[id]?):=aZ (P:=(xS kk).P) (e:=57) (by kernel_rfl) (by kernel_rfl)
theorem ahh (l:Tye):au (xS kk).P 31 (.ro (l.map gh)) (.lit (.int k n)) H=(idx l n).map fun x => .rp (gh x):=b7 (e:=48) (by kernel_rfl) (fun x=>(by kernel_rfl:(gh x).length=aM (xS kk).P 48)) (by kernel_rfl)
theorem agJ:au (xS kk).P 31 (.own id g len) (.lit (.int k n)) H=ixB 3 g len id n (H[id]?):=aZ (P:=(xS kk).P) (e:=48) (by kernel_rfl) (by kernel_rfl)
theorem ahM (l:Tye):au (xS kk).P 34 (.ro (l.map aB)) (.lit (.int k n)) H=(idx l n).map fun x => .rp (aB x):=b7 (e:=52) (by kernel_rfl) (fun x=>(by kernel_rfl:(aB x).length=aM (xS kk).P 52)) (by kernel_rfl)
theorem ain:au (xS kk).P 34 (.own id g len) (.lit (.int k n)) H=ixB 3 g len id n (H[id]?):=aZ (P:=(xS kk).P) (e:=52) (by kernel_rfl) (by kernel_rfl)
theorem ai1 (l:List (List Int)):au (xS kk).P 40 (.ro (l.map cR)) (.lit (.int k n)) H=(idx l n).map fun x => .rp (cR x):=b7 (e:=53) (by kernel_rfl) (fun x=>(by kernel_rfl:(cR x).length=aM (xS kk).P 53)) (by kernel_rfl)
theorem ame:au (xS kk).P 40 (.own id g len) (.lit (.int k n)) H=ixB 1 g len id n (H[id]?):=aZ (P:=(xS kk).P) (e:=53) (by kernel_rfl) (by kernel_rfl)
theorem ake (l:List Int):au (xS kk).P 53 (.ro (l.map (aw .i64))) (.lit (.int k n)) H=(idx l n).map fun x => .rp ((aw .i64) x):=b7 (e:=3) (by kernel_rfl) (fun x=>(by kernel_rfl:((aw .i64) x).length=aM (xS kk).P 3)) (by kernel_rfl)
theorem amk:au (xS kk).P 53 (.own id g len) (.lit (.int k n)) H=ixB 1 g len id n (H[id]?):=aZ (P:=(xS kk).P) (e:=3) (by kernel_rfl) (by kernel_rfl)
theorem akX (l:Tye):au (xS kk).P 63 (.ro (l.map aB)) (.lit (.int k n)) H=(idx l n).map fun x => .rp (aB x):=b7 (e:=129) (by kernel_rfl) (fun x=>(by kernel_rfl:(aB x).length=aM (xS kk).P 129)) (by kernel_rfl)
theorem akq:au (xS kk).P 63 (.own id g len) (.lit (.int k n)) H=ixB 3 g len id n (H[id]?):=aZ (P:=(xS kk).P) (e:=129) (by kernel_rfl) (by kernel_rfl)
theorem afe (l:List Bool):au (xS kk).P 150 (.ro (l.map ly)) (.lit (.int k n)) H=(idx l n).map fun x => .rp (ly x):=b7 (e:=4) (by kernel_rfl) (fun x=>(by kernel_rfl:(ly x).length=aM (xS kk).P 4)) (by kernel_rfl)
theorem ac5:au (xS kk).P 150 (.own id g len) (.lit (.int k n)) H=ixB 1 g len id n (H[id]?):=aZ (P:=(xS kk).P) (e:=4) (by kernel_rfl) (by kernel_rfl)
theorem acy:au (xS kk).P 207 (.own id g len) (.lit (.int k n)) H=ixB 1 g len id n (H[id]?):=aZ (P:=(xS kk).P) (e:=206) (by kernel_rfl) (by kernel_rfl)
theorem adE:au (xS kk).P 223 (.own id g len) (.lit (.int k n)) H=ixB 1 g len id n (H[id]?):=aZ (P:=(xS kk).P) (e:=116) (by kernel_rfl) (by kernel_rfl)
theorem abV:au (xS kk).P 238 (.own id g len) (.lit (.int k n)) H=ixB 1 g len id n (H[id]?):=aZ (P:=(xS kk).P) (e:=1) (by kernel_rfl) (by kernel_rfl)
theorem adk:oL (xS kk).P 24 x H=(wK x H).map fun v=>(v,H):=by kernel_rfl
theorem afl:oL (xS kk).P 25 x H=(wK x H).map fun v=>(v,H):=by kernel_rfl
theorem adO:oL (xS kk).P 26 x H=(wK x H).map fun v=>(v,H):=by kernel_rfl
theorem adN:oL (xS kk).P 27 x H=(wK x H).map fun v=>(v,H):=by kernel_rfl
theorem ab1:oL (xS kk).P 28 x H=(wK x H).map fun v=>(v,H):=by kernel_rfl
theorem acF:oL (xS kk).P 31 x H=(wK x H).map fun v=>(v,H):=by kernel_rfl
theorem adB:oL (xS kk).P 34 x H=(wK x H).map fun v=>(v,H):=by kernel_rfl
theorem afT:oL (xS kk).P 40 x H=(wK x H).map fun v=>(v,H):=by kernel_rfl
theorem adw:oL (xS kk).P 53 x H=(wK x H).map fun v=>(v,H):=by kernel_rfl
theorem aeH:oL (xS kk).P 63 x H=(wK x H).map fun v=>(v,H):=by kernel_rfl
theorem WN:oL (xS kk).P 207 x H=(wK x H).map fun v=>(v,H):=by kernel_rfl
theorem Xt:oL (xS kk).P 238 x H=(wK x H).map fun v=>(v,H):=by kernel_rfl
theorem Tb:wx (xS kk).P wl 24 24 s x H=bc (xS kk).P wl 24 s x H:=by kernel_rfl
theorem S6:bc (xS kk).P wl 24 (.own id g len) x H=(bU x H).bind fun xs=>bif bW 2 xs then apB wl 101 2 32 id g len xs H (H[id]?) else none:=(eh (P:=(xS kk).P) (t:=24) (e:=101) (by kernel_rfl) (by kernel_rfl)).trans (by kernel_rfl)
theorem UK:bc (xS kk).P wl 24 .nil x H=(bU x H).bind fun xs=>bif bW 2 xs then bif decide (xs.length*32≤70368744177664) then some (.own H.length 0 xs.length,H++[.rows 2 xs 0 true]) else none else none:=(eg (P:=(xS kk).P) (t:=24) (e:=101) (by kernel_rfl) (by kernel_rfl)).trans (by kernel_rfl)
theorem Tq:wx (xS kk).P wl 25 25 s x H=bc (xS kk).P wl 25 s x H:=by kernel_rfl
theorem R6:bc (xS kk).P wl 25 (.own id g len) x H=(bU x H).bind fun xs=>bif bW 1 xs then apB wl 46 1 8 id g len xs H (H[id]?) else none:=(eh (P:=(xS kk).P) (t:=25) (e:=46) (by kernel_rfl) (by kernel_rfl)).trans (by kernel_rfl)
theorem RS:bc (xS kk).P wl 25 .nil x H=(bU x H).bind fun xs=>bif bW 1 xs then bif decide (xs.length*8≤70368744177664) then some (.own H.length 0 xs.length,H++[.rows 1 xs 0 true]) else none else none:=(eg (P:=(xS kk).P) (t:=25) (e:=46) (by kernel_rfl) (by kernel_rfl)).trans (by kernel_rfl)
theorem Uj:wx (xS kk).P wl 26 26 s x H=bc (xS kk).P wl 26 s x H:=by kernel_rfl
theorem TM:bc (xS kk).P wl 26 (.own id g len) x H=(bU x H).bind fun xs=>bif bW 1 xs then apB wl 46 1 8 id g len xs H (H[id]?) else none:=(eh (P:=(xS kk).P) (t:=26) (e:=46) (by kernel_rfl) (by kernel_rfl)).trans (by kernel_rfl)
theorem UO:bc (xS kk).P wl 26 .nil x H=(bU x H).bind fun xs=>bif bW 1 xs then bif decide (xs.length*8≤70368744177664) then some (.own H.length 0 xs.length,H++[.rows 1 xs 0 true]) else none else none:=(eg (P:=(xS kk).P) (t:=26) (e:=46) (by kernel_rfl) (by kernel_rfl)).trans (by kernel_rfl)
theorem Se:wx (xS kk).P wl 27 27 s x H=bc (xS kk).P wl 27 s x H:=by kernel_rfl
theorem SC:bc (xS kk).P wl 27 (.own id g len) x H=(bU x H).bind fun xs=>bif bW 11 xs then apB wl 65 11 104 id g len xs H (H[id]?) else none:=(eh (P:=(xS kk).P) (t:=27) (e:=65) (by kernel_rfl) (by kernel_rfl)).trans (by kernel_rfl)
theorem TI:bc (xS kk).P wl 27 .nil x H=(bU x H).bind fun xs=>bif bW 11 xs then bif decide (xs.length*104≤70368744177664) then some (.own H.length 0 xs.length,H++[.rows 11 xs 0 true]) else none else none:=(eg (P:=(xS kk).P) (t:=27) (e:=65) (by kernel_rfl) (by kernel_rfl)).trans (by kernel_rfl)
theorem Sf:wx (xS kk).P wl 28 28 s x H=bc (xS kk).P wl 28 s x H:=by kernel_rfl
theorem TL:bc (xS kk).P wl 28 (.own id g len) x H=(bU x H).bind fun xs=>bif bW 9 xs then apB wl 57 9 88 id g len xs H (H[id]?) else none:=(eh (P:=(xS kk).P) (t:=28) (e:=57) (by kernel_rfl) (by kernel_rfl)).trans (by kernel_rfl)
theorem Tx:bc (xS kk).P wl 28 .nil x H=(bU x H).bind fun xs=>bif bW 9 xs then bif decide (xs.length*88≤70368744177664) then some (.own H.length 0 xs.length,H++[.rows 9 xs 0 true]) else none else none:=(eg (P:=(xS kk).P) (t:=28) (e:=57) (by kernel_rfl) (by kernel_rfl)).trans (by kernel_rfl)
theorem R9:wx (xS kk).P wl 34 34 s x H=bc (xS kk).P wl 34 s x H:=by kernel_rfl
theorem RB:bc (xS kk).P wl 34 (.own id g len) x H=(bU x H).bind fun xs=>bif bW 3 xs then apB wl 52 3 24 id g len xs H (H[id]?) else none:=(eh (P:=(xS kk).P) (t:=34) (e:=52) (by kernel_rfl) (by kernel_rfl)).trans (by kernel_rfl)
theorem TT:bc (xS kk).P wl 34 .nil x H=(bU x H).bind fun xs=>bif bW 3 xs then bif decide (xs.length*24≤70368744177664) then some (.own H.length 0 xs.length,H++[.rows 3 xs 0 true]) else none else none:=(eg (P:=(xS kk).P) (t:=34) (e:=52) (by kernel_rfl) (by kernel_rfl)).trans (by kernel_rfl)
theorem SQ:wx (xS kk).P wl 53 53 s x H=bc (xS kk).P wl 53 s x H:=by kernel_rfl
theorem Sa:bc (xS kk).P wl 53 (.own id g len) x H=(bU x H).bind fun xs=>bif bW 1 xs then apB wl 3 1 8 id g len xs H (H[id]?) else none:=(eh (P:=(xS kk).P) (t:=53) (e:=3) (by kernel_rfl) (by kernel_rfl)).trans (by kernel_rfl)
theorem Rz:bc (xS kk).P wl 53 .nil x H=(bU x H).bind fun xs=>bif bW 1 xs then bif decide (xs.length*8≤70368744177664) then some (.own H.length 0 xs.length,H++[.rows 1 xs 0 true]) else none else none:=(eg (P:=(xS kk).P) (t:=53) (e:=3) (by kernel_rfl) (by kernel_rfl)).trans (by kernel_rfl)
theorem SJ:wx (xS kk).P wl 63 63 s x H=bc (xS kk).P wl 63 s x H:=by kernel_rfl
theorem RL:bc (xS kk).P wl 63 (.own id g len) x H=(bU x H).bind fun xs=>bif bW 3 xs then apB wl 129 3 24 id g len xs H (H[id]?) else none:=(eh (P:=(xS kk).P) (t:=63) (e:=129) (by kernel_rfl) (by kernel_rfl)).trans (by kernel_rfl)
theorem Vi:bc (xS kk).P wl 63 .nil x H=(bU x H).bind fun xs=>bif bW 3 xs then bif decide (xs.length*24≤70368744177664) then some (.own H.length 0 xs.length,H++[.rows 3 xs 0 true]) else none else none:=(eg (P:=(xS kk).P) (t:=63) (e:=129) (by kernel_rfl) (by kernel_rfl)).trans (by kernel_rfl)
theorem akB (c:Bool):cp (xS kk).P wl c 53 (.own id g len) none (some (.lit (.int k n))) none H=slB g len id n H (H[id]?):=oB (P:=(xS kk).P) (e:=3) (by kernel_rfl) (by kernel_rfl)
theorem ajt (c:Bool) (l:List Int):cp (xS kk).P wl c 53 (.ro (l.map (aw .i64))) none (some (.lit (.int k n))) none H=bif decide (0≤n∧n≤l.length) then some (.ro ((l.take n.toNat).map (aw .i64)),H) else none:=pX (P:=(xS kk).P) (e:=3) (by kernel_rfl) (by kernel_rfl) (fun x=>(by kernel_rfl:((aw .i64) x).length=aM (xS kk).P 3))
theorem aj5 (c:Bool) (l:List Int):cp (xS kk).P wl c 53 (.ro (l.map (aw .i64))) (some (.lit (.int k n))) none none H=bif decide (0≤n∧n≤l.length) then some (.ro ((l.drop n.toNat).map (aw .i64)),H) else none:=rA (P:=(xS kk).P) (e:=3) (by kernel_rfl) (by kernel_rfl) (fun x=>(by kernel_rfl:((aw .i64) x).length=aM (xS kk).P 3))
theorem ai5 (c:Bool) (l:List Int) (k2:IntKind) (lo:Int):cp (xS kk).P wl c 53 (.ro (l.map (aw .i64))) (some (.lit (.int k lo))) (some (.lit (.int k2 n))) none H=bif decide (0≤lo∧lo≤n∧n≤l.length) then some (.ro (((l.take n.toNat).drop lo.toNat).map (aw .i64)),H) else none:=nc (P:=(xS kk).P) (e:=3) (by kernel_rfl) (by kernel_rfl) (fun x=>(by kernel_rfl:((aw .i64) x).length=aM (xS kk).P 3))
theorem akF (c:Bool):cp (xS kk).P wl c 63 (.own id g len) none (some (.lit (.int k n))) none H=slB g len id n H (H[id]?):=oB (P:=(xS kk).P) (e:=129) (by kernel_rfl) (by kernel_rfl)
theorem amB (c:Bool) (l:Tye):cp (xS kk).P wl c 63 (.ro (l.map aB)) none (some (.lit (.int k n))) none H=bif decide (0≤n∧n≤l.length) then some (.ro ((l.take n.toNat).map aB),H) else none:=pX (P:=(xS kk).P) (e:=129) (by kernel_rfl) (by kernel_rfl) (fun x=>(by kernel_rfl:(aB x).length=aM (xS kk).P 129))
theorem ajH (c:Bool) (l:Tye):cp (xS kk).P wl c 63 (.ro (l.map aB)) (some (.lit (.int k n))) none none H=bif decide (0≤n∧n≤l.length) then some (.ro ((l.drop n.toNat).map aB),H) else none:=rA (P:=(xS kk).P) (e:=129) (by kernel_rfl) (by kernel_rfl) (fun x=>(by kernel_rfl:(aB x).length=aM (xS kk).P 129))
theorem aha (c:Bool) (l:Tye) (k2:IntKind) (lo:Int):cp (xS kk).P wl c 63 (.ro (l.map aB)) (some (.lit (.int k lo))) (some (.lit (.int k2 n))) none H=bif decide (0≤lo∧lo≤n∧n≤l.length) then some (.ro (((l.take n.toNat).drop lo.toNat).map aB),H) else none:=nc (P:=(xS kk).P) (e:=129) (by kernel_rfl) (by kernel_rfl) (fun x=>(by kernel_rfl:(aB x).length=aM (xS kk).P 129))
theorem adJ:aV (xS kk).P 150 (.lit (.int .i64 n)) (.lit (.int .i64 n)) H=bif decide (0≤n∧n≤9223372036854775807∧n*1≤70368744177664) then some (.own H.length 0 n.toNat,H++[.rows 1 (List.replicate n.toNat [(V.lit (Value.bool false))]) 0 true]) else none:=Ec (P:=(xS kk).P) (t:=150) (e:=4) (z:=((fC (xS kk).P 4).getD default)) (by kernel_rfl) (by kernel_rfl) (by kernel_rfl) (by kernel_rfl)
theorem Y3:BS (xS kk).P 3 46 (.lit (.int k n))=some (.lit (.int .u64 (IntKind.wrap .u64 n))):=by kernel_rfl
theorem aaP:BS (xS kk).P 46 3 (.lit (.int k n))=some (.lit (.int .i64 (IntKind.wrap .i64 n))):=by kernel_rfl
theorem anb (a0 b0:Int) (a1 b1:Int) (a2 b2:Int) (a3 b3:Int):iI (xS kk).P .eql 23 (.agg [.lit (.int .i64 a0),.lit (.int .i64 a1),.lit (.int .i64 a2),.lit (.int .i64 a3)]) (.agg [.lit (.int .i64 b0),.lit (.int .i64 b1),.lit (.int .i64 b2),.lit (.int .i64 b3)])=some (.lit (.bool ((a0==b0)&&((a1==b1)&&((a2==b2)&&((a3==b3)&&true)))))):=by kernel_rfl
theorem al6 (a0 b0:Int) (a1 b1:Int) (a2 b2:Int) (a3 b3:Int):iI (xS kk).P .neq 23 (.agg [.lit (.int .i64 a0),.lit (.int .i64 a1),.lit (.int .i64 a2),.lit (.int .i64 a3)]) (.agg [.lit (.int .i64 b0),.lit (.int .i64 b1),.lit (.int .i64 b2),.lit (.int .i64 b3)])=some (.lit (.bool (!((a0==b0)&&((a1==b1)&&((a2==b2)&&((a3==b3)&&true))))))):=by kernel_rfl
theorem akV (a0 b0:Int) (a1 b1:Int) (a2 b2:Int):iI (xS kk).P .eql 52 (.agg [.lit (.int .i64 a0),.lit (.int .i64 a1),.lit (.int .i64 a2)]) (.agg [.lit (.int .i64 b0),.lit (.int .i64 b1),.lit (.int .i64 b2)])=some (.lit (.bool ((a0==b0)&&((a1==b1)&&((a2==b2)&&true))))):=by kernel_rfl
theorem alq (a0 b0:Int) (a1 b1:Int) (a2 b2:Int):iI (xS kk).P .neq 52 (.agg [.lit (.int .i64 a0),.lit (.int .i64 a1),.lit (.int .i64 a2)]) (.agg [.lit (.int .i64 b0),.lit (.int .i64 b1),.lit (.int .i64 b2)])=some (.lit (.bool (!((a0==b0)&&((a1==b1)&&((a2==b2)&&true)))))):=by kernel_rfl
theorem alH (a0 b0:Int) (a1 b1:Int) (a2 b2:Int) (a3 b3:Int) (a4 b4:Int) (a5 b5:Int) (a6 b6:Int):iI (xS kk).P .eql 55 (.agg [.lit (.int .i64 a0),.lit (.int .i64 a1),.lit (.int .i64 a2),.lit (.int .u64 a3),.lit (.int .u64 a4),.lit (.int .u64 a5),.lit (.int .i64 a6)]) (.agg [.lit (.int .i64 b0),.lit (.int .i64 b1),.lit (.int .i64 b2),.lit (.int .u64 b3),.lit (.int .u64 b4),.lit (.int .u64 b5),.lit (.int .i64 b6)])=some (.lit (.bool ((a0==b0)&&((a1==b1)&&((a2==b2)&&((a3==b3)&&((a4==b4)&&((a5==b5)&&((a6==b6)&&true))))))))):=by kernel_rfl
theorem ams (a0 b0:Int) (a1 b1:Int) (a2 b2:Int) (a3 b3:Int) (a4 b4:Int) (a5 b5:Int) (a6 b6:Int):iI (xS kk).P .neq 55 (.agg [.lit (.int .i64 a0),.lit (.int .i64 a1),.lit (.int .i64 a2),.lit (.int .u64 a3),.lit (.int .u64 a4),.lit (.int .u64 a5),.lit (.int .i64 a6)]) (.agg [.lit (.int .i64 b0),.lit (.int .i64 b1),.lit (.int .i64 b2),.lit (.int .u64 b3),.lit (.int .u64 b4),.lit (.int .u64 b5),.lit (.int .i64 b6)])=some (.lit (.bool (!((a0==b0)&&((a1==b1)&&((a2==b2)&&((a3==b3)&&((a4==b4)&&((a5==b5)&&((a6==b6)&&true)))))))))):=by kernel_rfl
theorem ael (a0 b0:Int) (a1 b1:Int) (a2 b2:Int):iI (xS kk).P .eql 129 (.agg [.lit (.int .i64 a0),.lit (.int .i64 a1),.lit (.int .i64 a2)]) (.agg [.lit (.int .i64 b0),.lit (.int .i64 b1),.lit (.int .i64 b2)])=some (.lit (.bool ((a0==b0)&&((a1==b1)&&((a2==b2)&&true))))):=by kernel_rfl
theorem afj (a0 b0:Int) (a1 b1:Int) (a2 b2:Int):iI (xS kk).P .neq 129 (.agg [.lit (.int .i64 a0),.lit (.int .i64 a1),.lit (.int .i64 a2)]) (.agg [.lit (.int .i64 b0),.lit (.int .i64 b1),.lit (.int .i64 b2)])=some (.lit (.bool (!((a0==b0)&&((a1==b1)&&((a2==b2)&&true)))))):=by kernel_rfl
theorem HM (c0 c1 c2:V):dv (xS kk).P 23 [(0,c0),(1,c1),(2,c2)]=(rB [(V.lit (Value.int .i64 (0))),(V.lit (Value.int .i64 (0))),(V.lit (Value.int .i64 (0))),(V.lit (Value.int .i64 (0)))] [(0,1,c0),(1,1,c1),(2,1,c2)]).map .agg:=by kernel_rfl
theorem af0:dv (xS kk).P 30 []=(rB [(V.lit (Value.int .i64 (0))),(V.lit (Value.int .i64 (0))),(V.lit (Value.int .i64 (0))),(V.lit (Value.int .i64 (0))),V.nil,V.nil,V.nil,V.nil] []).map .agg:=by kernel_rfl
theorem HY (c0 c1 c2:V):dv (xS kk).P 30 [(0,c0),(1,c1),(2,c2)]=(rB [(V.lit (Value.int .i64 (0))),(V.lit (Value.int .i64 (0))),(V.lit (Value.int .i64 (0))),(V.lit (Value.int .i64 (0))),V.nil,V.nil,V.nil,V.nil] [(0,4,c0),(4,1,c1),(5,1,c2)]).map .agg:=by kernel_rfl
theorem acb:dv (xS kk).P 48 []=(rB [(V.lit (Value.int .i64 (0))),(V.lit (Value.int .i64 (0))),(V.lit (Value.int .u64 (0)))] []).map .agg:=by kernel_rfl
theorem X1 (c0:V):dv (xS kk).P 48 [(0,c0)]=(rB [(V.lit (Value.int .i64 (0))),(V.lit (Value.int .i64 (0))),(V.lit (Value.int .u64 (0)))] [(0,1,c0)]).map .agg:=by kernel_rfl
theorem Jn (c0 c1 c2:V):dv (xS kk).P 52 [(0,c0),(1,c1),(2,c2)]=(rB [(V.lit (Value.int .i64 (0))),(V.lit (Value.int .i64 (0))),(V.lit (Value.int .i64 (0)))] [(0,1,c0),(1,1,c1),(2,1,c2)]).map .agg:=by kernel_rfl
theorem adn:dv (xS kk).P 55 []=(rB [(V.lit (Value.int .i64 (0))),(V.lit (Value.int .i64 (0))),(V.lit (Value.int .i64 (0))),(V.lit (Value.int .u64 (0))),(V.lit (Value.int .u64 (0))),(V.lit (Value.int .u64 (0))),(V.lit (Value.int .i64 (0)))] []).map .agg:=by kernel_rfl
theorem Jq (c0 c1 c2:V):dv (xS kk).P 55 [(0,c0),(2,c1),(3,c2)]=(rB [(V.lit (Value.int .i64 (0))),(V.lit (Value.int .i64 (0))),(V.lit (Value.int .i64 (0))),(V.lit (Value.int .u64 (0))),(V.lit (Value.int .u64 (0))),(V.lit (Value.int .u64 (0))),(V.lit (Value.int .i64 (0)))] [(0,1,c0),(2,1,c1),(3,1,c2)]).map .agg:=by kernel_rfl
theorem Dv (c0 c1 c2 c3:V):dv (xS kk).P 55 [(0,c0),(2,c1),(3,c2),(6,c3)]=(rB [(V.lit (Value.int .i64 (0))),(V.lit (Value.int .i64 (0))),(V.lit (Value.int .i64 (0))),(V.lit (Value.int .u64 (0))),(V.lit (Value.int .u64 (0))),(V.lit (Value.int .u64 (0))),(V.lit (Value.int .i64 (0)))] [(0,1,c0),(2,1,c1),(3,1,c2),(6,1,c3)]).map .agg:=by kernel_rfl
theorem Jh (c0 c1 c2:V):dv (xS kk).P 57 [(0,c0),(1,c1),(2,c2)]=(rB [(V.lit (Value.int .i64 (0))),V.nil,(V.lit (Value.int .i64 (0))),(V.lit (Value.int .i64 (0))),(V.lit (Value.int .i64 (0))),(V.lit (Value.int .u64 (0))),(V.lit (Value.int .u64 (0))),(V.lit (Value.int .u64 (0))),(V.lit (Value.int .i64 (0)))] [(0,1,c0),(1,1,c1),(2,7,c2)]).map .agg:=by kernel_rfl
theorem Zc (c0:V):dv (xS kk).P 57 [(1,c0)]=(rB [(V.lit (Value.int .i64 (0))),V.nil,(V.lit (Value.int .i64 (0))),(V.lit (Value.int .i64 (0))),(V.lit (Value.int .i64 (0))),(V.lit (Value.int .u64 (0))),(V.lit (Value.int .u64 (0))),(V.lit (Value.int .u64 (0))),(V.lit (Value.int .i64 (0)))] [(1,1,c0)]).map .agg:=by kernel_rfl
theorem ZQ (c0:V):dv (xS kk).P 65 [(2,c0)]=(rB [(V.lit (Value.int .i64 (0))),V.nil,(V.lit (Value.int .i64 (0))),(V.lit (Value.int .i64 (0))),(V.lit (Value.int .i64 (0))),(V.lit (Value.int .u64 (0))),(V.lit (Value.int .u64 (0))),(V.lit (Value.int .u64 (0))),(V.lit (Value.int .i64 (0))),(V.lit (Value.int .i64 (0))),(V.lit (Value.int .i64 (0)))] [(2,7,c0)]).map .agg:=by kernel_rfl
theorem RF (c0:V):dv (xS kk).P 129 [(0,c0)]=(rB [(V.lit (Value.int .i64 (0))),(V.lit (Value.int .i64 (0))),(V.lit (Value.int .i64 (0)))] [(0,1,c0)]).map .agg:=by kernel_rfl
theorem rh (c0 c1 c2 c3 c4 c5:V):dv (xS kk).P 168 [(0,c0),(1,c1),(2,c2),(3,c3),(4,c4),(5,c5)]=(rB [(V.lit (Value.int .i64 (0))),V.nil,(V.lit (Value.int .i64 (0))),(V.lit (Value.int .i64 (0))),(V.lit (Value.int .i64 (0))),(V.lit (Value.int .u64 (0))),(V.lit (Value.int .u64 (0))),(V.lit (Value.int .u64 (0))),(V.lit (Value.int .i64 (0))),(V.lit (Value.int .i64 (0))),(V.lit (Value.int .i64 (0))),(V.lit (Value.int .i64 (0))),(V.lit (Value.int .i64 (0))),(V.lit (Value.int .i64 (0))),(V.lit (Value.int .i64 (0))),V.nil,V.nil,(V.lit (Value.int .i64 (0))),(V.lit (Value.int .u64 (0))),V.nil] [(0,11,c0),(11,4,c1),(15,1,c2),(16,1,c3),(17,1,c4),(18,1,c5)]).map .agg:=by kernel_rfl
theorem d9 (c0 c1 c2 c3 c4 c5 c6 c7 c8 c9 c10 c11 c12 c13 c14 c15:V):dv (xS kk).P 169 [(0,c0),(1,c1),(2,c2),(3,c3),(4,c4),(5,c5),(6,c6),(7,c7),(8,c8),(9,c9),(10,c10),(11,c11),(12,c12),(13,c13),(14,c14),(15,c15)]=(rB [(V.lit Value.nilFunc),(V.lit Value.nilFunc),(V.lit Value.nilFunc),(V.lit Value.nilFunc),(V.lit Value.nilFunc),(V.lit Value.nilFunc),(V.lit Value.nilFunc),(V.lit Value.nilFunc),(V.lit Value.nilFunc),(V.lit Value.nilFunc),(V.lit Value.nilFunc),(V.lit Value.nilFunc),(V.lit Value.nilFunc),(V.lit Value.nilFunc),(V.lit Value.nilFunc),(V.lit Value.nilFunc)] [(0,1,c0),(1,1,c1),(2,1,c2),(3,1,c3),(4,1,c4),(5,1,c5),(6,1,c6),(7,1,c7),(8,1,c8),(9,1,c9),(10,1,c10),(11,1,c11),(12,1,c12),(13,1,c13),(14,1,c14),(15,1,c15)]).map .agg:=by kernel_rfl
theorem rW (c0 c1 c2 c3 c4 c5:V):dv (xS kk).P 175 [(0,c0),(1,c1),(2,c2),(3,c3),(4,c4),(5,c5)]=(rB [(V.lit Value.nilFunc),(V.lit Value.nilFunc),(V.lit Value.nilFunc),(V.lit Value.nilFunc),(V.lit Value.nilFunc),(V.lit Value.nilFunc)] [(0,1,c0),(1,1,c1),(2,1,c2),(3,1,c3),(4,1,c4),(5,1,c5)]).map .agg:=by kernel_rfl
theorem WP:dv (xS kk).P 194 []=(rB [(V.lit (Value.int .i64 (0))),(V.lit (Value.int .i64 (0)))] []).map .agg:=by kernel_rfl
theorem MK (c0 c1:V):dv (xS kk).P 194 [(0,c0),(1,c1)]=(rB [(V.lit (Value.int .i64 (0))),(V.lit (Value.int .i64 (0)))] [(0,1,c0),(1,1,c1)]).map .agg:=by kernel_rfl
theorem F0 (c0 c1 c2:V):dv (xS kk).P 205 [(0,c0),(1,c1),(2,c2)]=(rB [(V.lit (Value.int .i64 (0))),(V.lit (Value.int .i64 (0))),(V.lit (Value.int .i64 (0))),(V.lit (Value.int .u64 (0))),(V.lit (Value.int .u64 (0))),(V.lit (Value.int .u64 (0))),(V.lit (Value.int .i64 (0))),(V.lit (Value.int .i64 (0))),(V.lit (Value.int .i64 (0))),(V.lit (Value.int .i64 (0))),(V.lit (Value.int .i64 (0))),V.nil] [(0,7,c0),(7,4,c1),(11,1,c2)]).map .agg:=by kernel_rfl
theorem Ga (c0 c1 c2:V):dv (xS kk).P 221 [(0,c0),(1,c1),(2,c2)]=(rB [(V.lit (Value.int .i64 (0))),(V.lit (Value.int .i64 (0))),(V.lit (Value.int .i64 (0))),(V.lit (Value.int .u64 (0))),(V.lit (Value.int .u64 (0))),(V.lit (Value.int .u64 (0))),(V.lit (Value.int .i64 (0))),(V.lit (Value.int .i64 (0))),(V.lit (Value.int .i64 (0))),(V.lit (Value.int .i64 (0))),(V.lit (Value.int .i64 (0))),V.nil] [(0,7,c0),(7,4,c1),(11,1,c2)]).map .agg:=by kernel_rfl
theorem FY (c0 c1 c2:V):dv (xS kk).P 235 [(0,c0),(1,c1),(2,c2)]=(rB [(V.lit (Value.int .i64 (0))),(V.lit (Value.int .i64 (0))),(V.lit (Value.int .i64 (0))),(V.lit (Value.int .u64 (0))),(V.lit (Value.int .u64 (0))),(V.lit (Value.int .u64 (0))),(V.lit (Value.int .i64 (0))),(V.lit (Value.int .i64 (0))),(V.lit (Value.int .i64 (0))),(V.lit (Value.int .i64 (0))),(V.lit (Value.int .i64 (0))),V.nil] [(0,7,c0),(7,4,c1),(11,1,c2)]).map .agg:=by kernel_rfl
theorem BP (c0 c1 c2 c3:V):dv (xS kk).P 236 [(0,c0),(1,c1),(2,c2),(3,c3)]=(rB [(V.lit Value.nilFunc),(V.lit Value.nilFunc),(V.lit Value.nilFunc),(V.lit Value.nilFunc)] [(0,1,c0),(1,1,c1),(2,1,c2),(3,1,c3)]).map .agg:=by kernel_rfl
theorem Y0 (l:List (Nat×V)):aG (xS kk).P wl 24 0 l H=(fF wl 2 l [] H).bind fun p=>some (.own p.2.length 0 0,p.2++[.rows 2 p.1 0 true]):=by kernel_rfl
theorem Zr (l:List (Nat×V)):aG (xS kk).P wl 25 1 l H=(fF wl 1 l [[(V.lit (Value.int .u64 (0)))]] H).bind fun p=>some (.own p.2.length 0 1,p.2++[.rows 1 p.1 0 true]):=by kernel_rfl
theorem Z5 (l:List (Nat×V)):aG (xS kk).P wl 26 0 l H=(fF wl 1 l [] H).bind fun p=>some (.own p.2.length 0 0,p.2++[.rows 1 p.1 0 true]):=by kernel_rfl
theorem aaQ (l:List (Nat×V)):aG (xS kk).P wl 26 1 l H=(fF wl 1 l [[(V.lit (Value.int .u64 (0)))]] H).bind fun p=>some (.own p.2.length 0 1,p.2++[.rows 1 p.1 0 true]):=by kernel_rfl
theorem abF (l:List (Nat×V)):aG (xS kk).P wl 27 0 l H=(fF wl 11 l [] H).bind fun p=>some (.own p.2.length 0 0,p.2++[.rows 11 p.1 0 true]):=by kernel_rfl
theorem Xn (l:List (Nat×V)):aG (xS kk).P wl 27 1 l H=(fF wl 11 l [[(V.lit (Value.int .i64 (0))),V.ro [],(V.lit (Value.int .i64 (0))),(V.lit (Value.int .i64 (0))),(V.lit (Value.int .i64 (0))),(V.lit (Value.int .u64 (0))),(V.lit (Value.int .u64 (0))),(V.lit (Value.int .u64 (0))),(V.lit (Value.int .i64 (0))),(V.lit (Value.int .i64 (0))),(V.lit (Value.int .i64 (0)))]] H).bind fun p=>some (.own p.2.length 0 1,p.2++[.rows 11 p.1 0 true]):=by kernel_rfl
theorem Yn (l:List (Nat×V)):aG (xS kk).P wl 28 0 l H=(fF wl 9 l [] H).bind fun p=>some (.own p.2.length 0 0,p.2++[.rows 9 p.1 0 true]):=by kernel_rfl
theorem WJ (l:List (Nat×V)):aG (xS kk).P wl 28 1 l H=(fF wl 9 l [[(V.lit (Value.int .i64 (0))),V.ro [],(V.lit (Value.int .i64 (0))),(V.lit (Value.int .i64 (0))),(V.lit (Value.int .i64 (0))),(V.lit (Value.int .u64 (0))),(V.lit (Value.int .u64 (0))),(V.lit (Value.int .u64 (0))),(V.lit (Value.int .i64 (0)))]] H).bind fun p=>some (.own p.2.length 0 1,p.2++[.rows 9 p.1 0 true]):=by kernel_rfl
theorem Xp (l:List (Nat×V)):aG (xS kk).P wl 31 1 l H=(fF wl 3 l [[(V.lit (Value.int .i64 (0))),(V.lit (Value.int .i64 (0))),(V.lit (Value.int .u64 (0)))]] H).bind fun p=>some (.own p.2.length 0 1,p.2++[.rows 3 p.1 0 true]):=by kernel_rfl
theorem Xw (l:List (Nat×V)):aG (xS kk).P wl 31 2 l H=(fF wl 3 l [[(V.lit (Value.int .i64 (0))),(V.lit (Value.int .i64 (0))),(V.lit (Value.int .u64 (0)))],[(V.lit (Value.int .i64 (0))),(V.lit (Value.int .i64 (0))),(V.lit (Value.int .u64 (0)))]] H).bind fun p=>some (.own p.2.length 0 2,p.2++[.rows 3 p.1 0 true]):=by kernel_rfl
theorem aag (l:List (Nat×V)):aG (xS kk).P wl 34 1 l H=(fF wl 3 l [[(V.lit (Value.int .i64 (0))),(V.lit (Value.int .i64 (0))),(V.lit (Value.int .i64 (0)))]] H).bind fun p=>some (.own p.2.length 0 1,p.2++[.rows 3 p.1 0 true]):=by kernel_rfl
theorem YQ (l:List (Nat×V)):aG (xS kk).P wl 53 0 l H=(fF wl 1 l [] H).bind fun p=>some (.own p.2.length 0 0,p.2++[.rows 1 p.1 0 true]):=by kernel_rfl
theorem ZX (l:List (Nat×V)):aG (xS kk).P wl 53 1 l H=(fF wl 1 l [[(V.lit (Value.int .i64 (0)))]] H).bind fun p=>some (.own p.2.length 0 1,p.2++[.rows 1 p.1 0 true]):=by kernel_rfl
theorem aaR (l:List (Nat×V)):aG (xS kk).P wl 53 5 l H=(fF wl 1 l [[(V.lit (Value.int .i64 (0)))],[(V.lit (Value.int .i64 (0)))],[(V.lit (Value.int .i64 (0)))],[(V.lit (Value.int .i64 (0)))],[(V.lit (Value.int .i64 (0)))]] H).bind fun p=>some (.own p.2.length 0 5,p.2++[.rows 1 p.1 0 true]):=by kernel_rfl
theorem ZH (l:List (Nat×V)):aG (xS kk).P wl 63 0 l H=(fF wl 3 l [] H).bind fun p=>some (.own p.2.length 0 0,p.2++[.rows 3 p.1 0 true]):=by kernel_rfl
theorem YZ (l:List (Nat×V)):aG (xS kk).P wl 63 1 l H=(fF wl 3 l [[(V.lit (Value.int .i64 (0))),(V.lit (Value.int .i64 (0))),(V.lit (Value.int .i64 (0)))]] H).bind fun p=>some (.own p.2.length 0 1,p.2++[.rows 3 p.1 0 true]):=by kernel_rfl
theorem Tn (l:List (Nat×V)):aG (xS kk).P wl 207 5 l H=(fF wl 1 l [[(V.lit Value.nilFunc)],[(V.lit Value.nilFunc)],[(V.lit Value.nilFunc)],[(V.lit Value.nilFunc)],[(V.lit Value.nilFunc)]] H).bind fun p=>some (.own p.2.length 0 5,p.2++[.rows 1 p.1 0 true]):=by kernel_rfl
theorem Sd (l:List (Nat×V)):aG (xS kk).P wl 223 5 l H=(fF wl 1 l [[(V.lit Value.nilFunc)],[(V.lit Value.nilFunc)],[(V.lit Value.nilFunc)],[(V.lit Value.nilFunc)],[(V.lit Value.nilFunc)]] H).bind fun p=>some (.own p.2.length 0 5,p.2++[.rows 1 p.1 0 true]):=by kernel_rfl
theorem UW (l:List (Nat×V)):aG (xS kk).P wl 238 4 l H=(fF wl 1 l [[(V.lit Value.nilFunc)],[(V.lit Value.nilFunc)],[(V.lit Value.nilFunc)],[(V.lit Value.nilFunc)]] H).bind fun p=>some (.own p.2.length 0 4,p.2++[.rows 1 p.1 0 true]):=by kernel_rfl
theorem adl (v:V):kZ (xS kk).P wl 138 (.map id) (.lit (.int .i64 n)) v H=inB wl .i64 id n v H (H[id]?):=by kernel_rfl
theorem afr (ok:Bool):iL (xS kk).P 138 (.map id) (.lit (.int .i64 n)) ok H=lkB .i64 (V.lit Value.nilFunc) ok n (H[id]?):=by kernel_rfl
theorem aep (v:V):kZ (xS kk).P wl 201 (.map id) (.lit (.int .i64 n)) v H=inB wl .i64 id n v H (H[id]?):=by kernel_rfl
theorem adG (ok:Bool):iL (xS kk).P 201 (.map id) (.lit (.int .i64 n)) ok H=lkB .i64 (V.lit Value.nilFunc) ok n (H[id]?):=by kernel_rfl
theorem afL (v:V):kZ (xS kk).P wl 212 (.map id) (.lit (.int .i64 n)) v H=inB wl .i64 id n v H (H[id]?):=by kernel_rfl
theorem adF (ok:Bool):iL (xS kk).P 212 (.map id) (.lit (.int .i64 n)) ok H=lkB .i64 (V.lit Value.nilFunc) ok n (H[id]?):=by kernel_rfl
theorem afd (row off:Nat):au (xS kk).P 169 (.ptr id g row off) (.lit (.int k n)) H=arC id g row [(0,off),(1,off+1),(2,off+2),(3,off+3),(4,off+4),(5,off+5),(6,off+6),(7,off+7),(8,off+8),(9,off+9),(10,off+10),(11,off+11),(12,off+12),(13,off+13),(14,off+14),(15,off+15)] n:=Km (e:=1) (len:=16) (sz:=1) (by kernel_rfl) (by kernel_rfl) (by decide)
theorem ac1 (row off:Nat):au (xS kk).P 175 (.ptr id g row off) (.lit (.int k n)) H=arC id g row [(0,off),(1,off+1),(2,off+2),(3,off+3),(4,off+4),(5,off+5)] n:=Km (e:=1) (len:=6) (sz:=1) (by kernel_rfl) (by kernel_rfl) (by decide)
theorem afK (row off:Nat):au (xS kk).P 236 (.ptr id g row off) (.lit (.int k n)) H=arC id g row [(0,off),(1,off+1),(2,off+2),(3,off+3)] n:=Km (e:=1) (len:=4) (sz:=1) (by kernel_rfl) (by kernel_rfl) (by decide)
end
def xF0:=PLift.up (aI (aI (aI (aI (aI (aI (aI (aI @apj @aon) (aI @aoT @ao1)) (aI (aI @aoB @ao9) (aI @akz (aI @amA @ajS)))) (aI (aI (aI @alZ @akj) (aI @aiK (aI @alm @aml))) (aI (aI @ajE @alY) (aI @am9 (aI @aj3 @aka))))) (aI (aI (aI (aI @al8 @ajJ) (aI @am5 (aI @amI @ami))) (aI (aI @akn @aiz) (aI @amh (aI @ai3 @akb)))) (aI (aI (aI @ak6 @als) (aI @ahe (aI @ajb @ah2))) (aI (aI @agN @ale) (aI @aie (aI @akJ @ai0)))))) (aI (aI (aI (aI (aI @amo @abZ) (aI @adA @ado)) (aI (aI @af5 @aeh) (aI @ae1 (aI @afo @acM)))) (aI (aI (aI @aeI @afc) (aI @aem (aI @acv @afv))) (aI (aI @afU @afy) (aI @adh (aI @adj @aeJ))))) (aI (aI (aI (aI @afV @aeO) (aI @acp (aI @acP @apw))) (aI (aI @apu @aof) (aI @agH (aI @akA @alA)))) (aI (aI (aI @ak1 @ana) (aI @ajy (aI @ama @aiD))) (aI (aI @ac9 @adT) (aI @aeA (aI @ab3 @aei))))))) (aI (aI (aI (aI (aI (aI @afY @aeY) (aI @afa @ad0)) (aI (aI @Z4 @YV) (aI @XM (aI @YS @Zu)))) (aI (aI (aI @aas @aaj) (aI @XF (aI @Xr @Y6))) (aI (aI @X8 @ZL) (aI @Zn (aI @aaX @XW))))) (aI (aI (aI (aI @YH @Z6) (aI @ZF (aI @WM @aaN))) (aI (aI @aaw @abA) (aI @W6 (aI @ZW @XB)))) (aI (aI (aI @abc @abD) (aI @aak (aI @WU @YM))) (aI (aI @Yq @aav) (aI @Zt (aI @aa9 @Yx)))))) (aI (aI (aI (aI (aI @Yr @Zz) (aI @XO @ZG)) (aI (aI @Zk @aa0) (aI @aax (aI @aaW @Yb)))) (aI (aI (aI @aaI @Yv) (aI @aaf (aI @abm @Zq))) (aI (aI @WZ @WS) (aI @Zd (aI @XG @Yw))))) (aI (aI (aI (aI @YC @Ya) (aI @Te (aI @Vq @U9))) (aI (aI @Ud @SS) (aI @Ty (aI @S2 @RG)))) (aI (aI (aI @TP @TG) (aI @RE (aI @Ve @So))) (aI (aI @S5 @Vp) (aI @Rm (aI @Rr @Tk)))))))) (aI (aI (aI (aI (aI (aI (aI @TY @RO) (aI @SN @Sm)) (aI (aI @TF @UC) (aI @Uu (aI @UU @Vo)))) (aI (aI (aI @TE @Vg) (aI @Su (aI @T6 @Um))) (aI (aI @Uz @U7) (aI @Sk (aI @TO @Vu))))) (aI (aI (aI (aI @UQ @Rp) (aI @SV (aI @UL @Sw))) (aI (aI @Tl @Rl) (aI @Uy (aI @Us @Vt)))) (aI (aI (aI @ahS @aju) (aI @aij (aI @amT @ahT))) (aI (aI @amU @ahO) (aI @ajU (aI @ahh @agJ)))))) (aI (aI (aI (aI (aI @ahM @ain) (aI @ai1 @ame)) (aI (aI @ake @amk) (aI @akX (aI @akq @afe)))) (aI (aI (aI @ac5 @acy) (aI @adE (aI @abV @adk))) (aI (aI @afl @adO) (aI @adN (aI @ab1 @acF))))) (aI (aI (aI (aI @adB @afT) (aI @adw (aI @aeH @WN))) (aI (aI @Xt @Tb) (aI @S6 (aI @UK @Tq)))) (aI (aI (aI @R6 @RS) (aI @Uj (aI @TM @UO))) (aI (aI @Se @SC) (aI @TI (aI @Sf @TL))))))) (aI (aI (aI (aI (aI (aI @Tx @R9) (aI @RB @TT)) (aI (aI @SQ @Sa) (aI @Rz (aI @SJ @RL)))) (aI (aI (aI @Vi @akB) (aI @ajt (aI @aj5 @ai5))) (aI (aI @akF @amB) (aI @ajH (aI @aha @adJ))))) (aI (aI (aI (aI @Y3 @aaP) (aI @anb (aI @al6 @akV))) (aI (aI @alq @alH) (aI @ams (aI @ael @afj)))) (aI (aI (aI @HM @af0) (aI @HY (aI @acb @X1))) (aI (aI @Jn @adn) (aI @Jq (aI @Dv @Jh)))))) (aI (aI (aI (aI (aI @Zc @ZQ) (aI @RF (aI @rh @d9))) (aI (aI @rW @WP) (aI @MK (aI @F0 @Ga)))) (aI (aI (aI @FY @BP) (aI @Y0 (aI @Zr @Z5))) (aI (aI @aaQ @abF) (aI @Xn (aI @Yn @WJ))))) (aI (aI (aI (aI @Xp @Xw) (aI @aag (aI @YQ @ZX))) (aI (aI @aaR @ZH) (aI @YZ (aI @Tn @Sd)))) (aI (aI (aI @UW @adl) (aI @afr (aI @aep @adG))) (aI (aI @afL @adF) (aI @afd (aI @ac1 @afK)))))))))
theorem xF:type_of% xF0.down:=xF0.down
end Go.Ab
