import Derived.Test.YtblpbpnilkfjhaaGreatAbLibC
import Derived.Test.YtblpbpnilkfjhaaGreatAbLibB
import Derived.Test.YtblpbpnilkfjhaaGreatR6Seat
set_option linter.unusedVariables false
set_option linter.unusedSimpArgs false
set_option maxRecDepth 100000
set_option linter.unusedVariables false
namespace Go.Ab
open Go.Proofs
section
variable (kk:Nat) (c:V) (cs:List V) (H:Hp) (id:Nat) (g:Nat) (k:IntKind) (n:Int) (len:Nat) (x:V) (wl:Nat) (s:V)
theorem akl:aX (xS kk).P 1 (c::cs)=some c:=by kernel_rfl
theorem aj1:aW (xS kk).P 1=1:=by kernel_rfl
theorem ajW:aX (xS kk).P 3 (c::cs)=some c:=by kernel_rfl
theorem aj5:aW (xS kk).P 3=1:=by kernel_rfl
theorem akx:aX (xS kk).P 4 (c::cs)=some c:=by kernel_rfl
theorem akr:aW (xS kk).P 4=1:=by kernel_rfl
theorem ag7 (c0 c1 c2 c3:V):aX (xS kk).P 23 (c0::c1::c2::c3::cs)=some (.agg [c0,c1,c2,c3]):=by kernel_rfl
theorem ahA:aW (xS kk).P 23=4:=by kernel_rfl
theorem ahd:aX (xS kk).P 24 (c::cs)=some c:=by kernel_rfl
theorem aid:aW (xS kk).P 24=1:=by kernel_rfl
theorem ah9:aX (xS kk).P 26 (c::cs)=some c:=by kernel_rfl
theorem aiD:aW (xS kk).P 26=1:=by kernel_rfl
theorem af5:aX (xS kk).P 27 (c::cs)=some c:=by kernel_rfl
theorem ahf:aW (xS kk).P 27=1:=by kernel_rfl
theorem afG:aX (xS kk).P 28 (c::cs)=some c:=by kernel_rfl
theorem afE:aW (xS kk).P 28=1:=by kernel_rfl
theorem aiT (c0 c1 c2 c3 c4 c5 c6 c7:V):aX (xS kk).P 30 (c0::c1::c2::c3::c4::c5::c6::c7::cs)=some (.agg [c0,c1,c2,c3,c4,c5,c6,c7]):=by kernel_rfl
theorem aeC:aW (xS kk).P 30=8:=by kernel_rfl
theorem aig:aX (xS kk).P 32 (c::cs)=some c:=by kernel_rfl
theorem ahi:aW (xS kk).P 32=1:=by kernel_rfl
theorem ahI:aX (xS kk).P 34 (c::cs)=some c:=by kernel_rfl
theorem af7:aW (xS kk).P 34=1:=by kernel_rfl
theorem aix:aX (xS kk).P 46 (c::cs)=some c:=by kernel_rfl
theorem ag4:aW (xS kk).P 46=1:=by kernel_rfl
theorem aiG (c0 c1 c2:V):aX (xS kk).P 48 (c0::c1::c2::cs)=some (.agg [c0,c1,c2]):=by kernel_rfl
theorem aeM:aW (xS kk).P 48=3:=by kernel_rfl
theorem ah6 (c0 c1 c2:V):aX (xS kk).P 52 (c0::c1::c2::cs)=some (.agg [c0,c1,c2]):=by kernel_rfl
theorem aiV:aW (xS kk).P 52=3:=by kernel_rfl
theorem aic:aX (xS kk).P 53 (c::cs)=some c:=by kernel_rfl
theorem ahR:aW (xS kk).P 53=1:=by kernel_rfl
theorem aih (c0 c1 c2 c3 c4 c5 c6:V):aX (xS kk).P 55 (c0::c1::c2::c3::c4::c5::c6::cs)=some (.agg [c0,c1,c2,c3,c4,c5,c6]):=by kernel_rfl
theorem aeT:aW (xS kk).P 55=7:=by kernel_rfl
theorem ae2 (c0 c1 c2 c3 c4 c5 c6 c7 c8:V):aX (xS kk).P 57 (c0::c1::c2::c3::c4::c5::c6::c7::c8::cs)=some (.agg [c0,c1,c2,c3,c4,c5,c6,c7,c8]):=by kernel_rfl
theorem afQ:aW (xS kk).P 57=9:=by kernel_rfl
theorem ain:aX (xS kk).P 63 (c::cs)=some c:=by kernel_rfl
theorem aeP:aW (xS kk).P 63=1:=by kernel_rfl
theorem ahY (c0 c1 c2 c3 c4 c5 c6 c7 c8 c9 c10:V):aX (xS kk).P 65 (c0::c1::c2::c3::c4::c5::c6::c7::c8::c9::c10::cs)=some (.agg [c0,c1,c2,c3,c4,c5,c6,c7,c8,c9,c10]):=by kernel_rfl
theorem ag3:aW (xS kk).P 65=11:=by kernel_rfl
theorem afb:aX (xS kk).P 86 (c::cs)=some c:=by kernel_rfl
theorem agf:aW (xS kk).P 86=1:=by kernel_rfl
theorem aaH (c0 c1:V):aX (xS kk).P 101 (c0::c1::cs)=some (.agg [c0,c1]):=by kernel_rfl
theorem ad4:aW (xS kk).P 101=2:=by kernel_rfl
theorem aaO:aX (xS kk).P 116 (c::cs)=some c:=by kernel_rfl
theorem ad8:aW (xS kk).P 116=1:=by kernel_rfl
theorem adm (c0 c1 c2:V):aX (xS kk).P 129 (c0::c1::c2::cs)=some (.agg [c0,c1,c2]):=by kernel_rfl
theorem abP:aW (xS kk).P 129=3:=by kernel_rfl
theorem adw:aX (xS kk).P 150 (c::cs)=some c:=by kernel_rfl
theorem abV:aW (xS kk).P 150=1:=by kernel_rfl
theorem adg (c0 c1 c2 c3 c4 c5 c6 c7 c8 c9 c10 c11 c12 c13 c14 c15:V):aX (xS kk).P 169 (c0::c1::c2::c3::c4::c5::c6::c7::c8::c9::c10::c11::c12::c13::c14::c15::cs)=some (.agg [c0,c1,c2,c3,c4,c5,c6,c7,c8,c9,c10,c11,c12,c13,c14,c15]):=by kernel_rfl
theorem aaY:aW (xS kk).P 169=16:=by kernel_rfl
theorem aaA:aX (xS kk).P 170 (c::cs)=some c:=by kernel_rfl
theorem acx:aW (xS kk).P 170=1:=by kernel_rfl
theorem Zu (c0 c1 c2 c3 c4 c5:V):aX (xS kk).P 175 (c0::c1::c2::c3::c4::c5::cs)=some (.agg [c0,c1,c2,c3,c4,c5]):=by kernel_rfl
theorem acj:aW (xS kk).P 175=6:=by kernel_rfl
theorem abU (c0 c1:V):aX (xS kk).P 194 (c0::c1::cs)=some (.agg [c0,c1]):=by kernel_rfl
theorem abK:aW (xS kk).P 194=2:=by kernel_rfl
theorem aaI:aX (xS kk).P 206 (c::cs)=some c:=by kernel_rfl
theorem adt:aW (xS kk).P 206=1:=by kernel_rfl
theorem ZP:aX (xS kk).P 223 (c::cs)=some c:=by kernel_rfl
theorem aak:aW (xS kk).P 223=1:=by kernel_rfl
theorem aaj (c0 c1 c2 c3:V):aX (xS kk).P 236 (c0::c1::c2::c3::cs)=some (.agg [c0,c1,c2,c3]):=by kernel_rfl
theorem adb:aW (xS kk).P 236=4:=by kernel_rfl
theorem aku:av (xS kk).P 1 H=some (.ptr (bH [(V.lit Value.nilFunc)] H).2.length 0 0 0,(bH [(V.lit Value.nilFunc)] H).2++[.box (bH [(V.lit Value.nilFunc)] H).1]):=by kernel_rfl
theorem aj8:av (xS kk).P 3 H=some (.ptr (bH [(V.lit (Value.int .i64 (0)))] H).2.length 0 0 0,(bH [(V.lit (Value.int .i64 (0)))] H).2++[.box (bH [(V.lit (Value.int .i64 (0)))] H).1]):=by kernel_rfl
theorem akp:av (xS kk).P 4 H=some (.ptr (bH [(V.lit (Value.bool false))] H).2.length 0 0 0,(bH [(V.lit (Value.bool false))] H).2++[.box (bH [(V.lit (Value.bool false))] H).1]):=by kernel_rfl
theorem aha:av (xS kk).P 26 H=some (.ptr (bH [V.nil] H).2.length 0 0 0,(bH [V.nil] H).2++[.box (bH [V.nil] H).1]):=by kernel_rfl
theorem aiy:av (xS kk).P 30 H=some (.ptr (bH [(V.lit (Value.int .i64 (0))),(V.lit (Value.int .i64 (0))),(V.lit (Value.int .i64 (0))),(V.lit (Value.int .i64 (0))),V.nil,V.nil,V.nil,V.nil] H).2.length 0 0 0,(bH [(V.lit (Value.int .i64 (0))),(V.lit (Value.int .i64 (0))),(V.lit (Value.int .i64 (0))),(V.lit (Value.int .i64 (0))),V.nil,V.nil,V.nil,V.nil] H).2++[.box (bH [(V.lit (Value.int .i64 (0))),(V.lit (Value.int .i64 (0))),(V.lit (Value.int .i64 (0))),(V.lit (Value.int .i64 (0))),V.nil,V.nil,V.nil,V.nil] H).1]):=by kernel_rfl
theorem agz:av (xS kk).P 32 H=some (.ptr (bH [(V.lit Value.nilFunc)] H).2.length 0 0 0,(bH [(V.lit Value.nilFunc)] H).2++[.box (bH [(V.lit Value.nilFunc)] H).1]):=by kernel_rfl
theorem agm:av (xS kk).P 34 H=some (.ptr (bH [V.nil] H).2.length 0 0 0,(bH [V.nil] H).2++[.box (bH [V.nil] H).1]):=by kernel_rfl
theorem ah4:av (xS kk).P 48 H=some (.ptr (bH [(V.lit (Value.int .i64 (0))),(V.lit (Value.int .i64 (0))),(V.lit (Value.int .u64 (0)))] H).2.length 0 0 0,(bH [(V.lit (Value.int .i64 (0))),(V.lit (Value.int .i64 (0))),(V.lit (Value.int .u64 (0)))] H).2++[.box (bH [(V.lit (Value.int .i64 (0))),(V.lit (Value.int .i64 (0))),(V.lit (Value.int .u64 (0)))] H).1]):=by kernel_rfl
theorem ahQ:av (xS kk).P 55 H=some (.ptr (bH [(V.lit (Value.int .i64 (0))),(V.lit (Value.int .i64 (0))),(V.lit (Value.int .i64 (0))),(V.lit (Value.int .u64 (0))),(V.lit (Value.int .u64 (0))),(V.lit (Value.int .u64 (0))),(V.lit (Value.int .i64 (0)))] H).2.length 0 0 0,(bH [(V.lit (Value.int .i64 (0))),(V.lit (Value.int .i64 (0))),(V.lit (Value.int .i64 (0))),(V.lit (Value.int .u64 (0))),(V.lit (Value.int .u64 (0))),(V.lit (Value.int .u64 (0))),(V.lit (Value.int .i64 (0)))] H).2++[.box (bH [(V.lit (Value.int .i64 (0))),(V.lit (Value.int .i64 (0))),(V.lit (Value.int .i64 (0))),(V.lit (Value.int .u64 (0))),(V.lit (Value.int .u64 (0))),(V.lit (Value.int .u64 (0))),(V.lit (Value.int .i64 (0)))] H).1]):=by kernel_rfl
theorem aiH:av (xS kk).P 57 H=some (.ptr (bH [(V.lit (Value.int .i64 (0))),V.nil,(V.lit (Value.int .i64 (0))),(V.lit (Value.int .i64 (0))),(V.lit (Value.int .i64 (0))),(V.lit (Value.int .u64 (0))),(V.lit (Value.int .u64 (0))),(V.lit (Value.int .u64 (0))),(V.lit (Value.int .i64 (0)))] H).2.length 0 0 0,(bH [(V.lit (Value.int .i64 (0))),V.nil,(V.lit (Value.int .i64 (0))),(V.lit (Value.int .i64 (0))),(V.lit (Value.int .i64 (0))),(V.lit (Value.int .u64 (0))),(V.lit (Value.int .u64 (0))),(V.lit (Value.int .u64 (0))),(V.lit (Value.int .i64 (0)))] H).2++[.box (bH [(V.lit (Value.int .i64 (0))),V.nil,(V.lit (Value.int .i64 (0))),(V.lit (Value.int .i64 (0))),(V.lit (Value.int .i64 (0))),(V.lit (Value.int .u64 (0))),(V.lit (Value.int .u64 (0))),(V.lit (Value.int .u64 (0))),(V.lit (Value.int .i64 (0)))] H).1]):=by kernel_rfl
theorem afT:av (xS kk).P 65 H=some (.ptr (bH [(V.lit (Value.int .i64 (0))),V.nil,(V.lit (Value.int .i64 (0))),(V.lit (Value.int .i64 (0))),(V.lit (Value.int .i64 (0))),(V.lit (Value.int .u64 (0))),(V.lit (Value.int .u64 (0))),(V.lit (Value.int .u64 (0))),(V.lit (Value.int .i64 (0))),(V.lit (Value.int .i64 (0))),(V.lit (Value.int .i64 (0)))] H).2.length 0 0 0,(bH [(V.lit (Value.int .i64 (0))),V.nil,(V.lit (Value.int .i64 (0))),(V.lit (Value.int .i64 (0))),(V.lit (Value.int .i64 (0))),(V.lit (Value.int .u64 (0))),(V.lit (Value.int .u64 (0))),(V.lit (Value.int .u64 (0))),(V.lit (Value.int .i64 (0))),(V.lit (Value.int .i64 (0))),(V.lit (Value.int .i64 (0)))] H).2++[.box (bH [(V.lit (Value.int .i64 (0))),V.nil,(V.lit (Value.int .i64 (0))),(V.lit (Value.int .i64 (0))),(V.lit (Value.int .i64 (0))),(V.lit (Value.int .u64 (0))),(V.lit (Value.int .u64 (0))),(V.lit (Value.int .u64 (0))),(V.lit (Value.int .i64 (0))),(V.lit (Value.int .i64 (0))),(V.lit (Value.int .i64 (0)))] H).1]):=by kernel_rfl
theorem acN:av (xS kk).P 101 H=some (.ptr (bH [(V.lit (Value.int .i64 (0))),V.nil] H).2.length 0 0 0,(bH [(V.lit (Value.int .i64 (0))),V.nil] H).2++[.box (bH [(V.lit (Value.int .i64 (0))),V.nil] H).1]):=by kernel_rfl
theorem ZT:av (xS kk).P 129 H=some (.ptr (bH [(V.lit (Value.int .i64 (0))),(V.lit (Value.int .i64 (0))),(V.lit (Value.int .i64 (0)))] H).2.length 0 0 0,(bH [(V.lit (Value.int .i64 (0))),(V.lit (Value.int .i64 (0))),(V.lit (Value.int .i64 (0)))] H).2++[.box (bH [(V.lit (Value.int .i64 (0))),(V.lit (Value.int .i64 (0))),(V.lit (Value.int .i64 (0)))] H).1]):=by kernel_rfl
theorem abe:av (xS kk).P 150 H=some (.ptr (bH [V.nil] H).2.length 0 0 0,(bH [V.nil] H).2++[.box (bH [V.nil] H).1]):=by kernel_rfl
theorem aay:av (xS kk).P 169 H=some (.ptr (bH [(V.lit Value.nilFunc),(V.lit Value.nilFunc),(V.lit Value.nilFunc),(V.lit Value.nilFunc),(V.lit Value.nilFunc),(V.lit Value.nilFunc),(V.lit Value.nilFunc),(V.lit Value.nilFunc),(V.lit Value.nilFunc),(V.lit Value.nilFunc),(V.lit Value.nilFunc),(V.lit Value.nilFunc),(V.lit Value.nilFunc),(V.lit Value.nilFunc),(V.lit Value.nilFunc),(V.lit Value.nilFunc)] H).2.length 0 0 0,(bH [(V.lit Value.nilFunc),(V.lit Value.nilFunc),(V.lit Value.nilFunc),(V.lit Value.nilFunc),(V.lit Value.nilFunc),(V.lit Value.nilFunc),(V.lit Value.nilFunc),(V.lit Value.nilFunc),(V.lit Value.nilFunc),(V.lit Value.nilFunc),(V.lit Value.nilFunc),(V.lit Value.nilFunc),(V.lit Value.nilFunc),(V.lit Value.nilFunc),(V.lit Value.nilFunc),(V.lit Value.nilFunc)] H).2++[.box (bH [(V.lit Value.nilFunc),(V.lit Value.nilFunc),(V.lit Value.nilFunc),(V.lit Value.nilFunc),(V.lit Value.nilFunc),(V.lit Value.nilFunc),(V.lit Value.nilFunc),(V.lit Value.nilFunc),(V.lit Value.nilFunc),(V.lit Value.nilFunc),(V.lit Value.nilFunc),(V.lit Value.nilFunc),(V.lit Value.nilFunc),(V.lit Value.nilFunc),(V.lit Value.nilFunc),(V.lit Value.nilFunc)] H).1]):=by kernel_rfl
theorem aab:av (xS kk).P 170 H=some (.ptr (bH [(V.lit Value.nilFunc)] H).2.length 0 0 0,(bH [(V.lit Value.nilFunc)] H).2++[.box (bH [(V.lit Value.nilFunc)] H).1]):=by kernel_rfl
theorem aan:av (xS kk).P 175 H=some (.ptr (bH [(V.lit Value.nilFunc),(V.lit Value.nilFunc),(V.lit Value.nilFunc),(V.lit Value.nilFunc),(V.lit Value.nilFunc),(V.lit Value.nilFunc)] H).2.length 0 0 0,(bH [(V.lit Value.nilFunc),(V.lit Value.nilFunc),(V.lit Value.nilFunc),(V.lit Value.nilFunc),(V.lit Value.nilFunc),(V.lit Value.nilFunc)] H).2++[.box (bH [(V.lit Value.nilFunc),(V.lit Value.nilFunc),(V.lit Value.nilFunc),(V.lit Value.nilFunc),(V.lit Value.nilFunc),(V.lit Value.nilFunc)] H).1]):=by kernel_rfl
theorem aau:av (xS kk).P 194 H=some (.ptr (bH [(V.lit (Value.int .i64 (0))),(V.lit (Value.int .i64 (0)))] H).2.length 0 0 0,(bH [(V.lit (Value.int .i64 (0))),(V.lit (Value.int .i64 (0)))] H).2++[.box (bH [(V.lit (Value.int .i64 (0))),(V.lit (Value.int .i64 (0)))] H).1]):=by kernel_rfl
theorem ad0:av (xS kk).P 223 H=some (.ptr (bH [V.nil] H).2.length 0 0 0,(bH [V.nil] H).2++[.box (bH [V.nil] H).1]):=by kernel_rfl
theorem adG:av (xS kk).P 236 H=some (.ptr (bH [(V.lit Value.nilFunc),(V.lit Value.nilFunc),(V.lit Value.nilFunc),(V.lit Value.nilFunc)] H).2.length 0 0 0,(bH [(V.lit Value.nilFunc),(V.lit Value.nilFunc),(V.lit Value.nilFunc),(V.lit Value.nilFunc)] H).2++[.box (bH [(V.lit Value.nilFunc),(V.lit Value.nilFunc),(V.lit Value.nilFunc),(V.lit Value.nilFunc)] H).1]):=by kernel_rfl
theorem Xs:aa (xS kk).P 23 (.rp cs) 0=some (.rp (cs.drop 0)):=by kernel_rfl
theorem Yr (row off:Nat):aa (xS kk).P 23 (.ptr id g row off) 0=some (.ptr id g row (off+0)):=by kernel_rfl
theorem Xh:aa (xS kk).P 23 (.rp cs) 1=some (.rp (cs.drop 1)):=by kernel_rfl
theorem XG (row off:Nat):aa (xS kk).P 23 (.ptr id g row off) 1=some (.ptr id g row (off+1)):=by kernel_rfl
theorem Yn:aa (xS kk).P 23 (.rp cs) 2=some (.rp (cs.drop 2)):=by kernel_rfl
theorem VM (row off:Nat):aa (xS kk).P 23 (.ptr id g row off) 2=some (.ptr id g row (off+2)):=by kernel_rfl
theorem Vh:aa (xS kk).P 23 (.rp cs) 3=some (.rp (cs.drop 3)):=by kernel_rfl
theorem VZ (row off:Nat):aa (xS kk).P 23 (.ptr id g row off) 3=some (.ptr id g row (off+3)):=by kernel_rfl
theorem Yo:aa (xS kk).P 30 (.rp cs) 0=some (.rp (cs.drop 0)):=by kernel_rfl
theorem XC (row off:Nat):aa (xS kk).P 30 (.ptr id g row off) 0=some (.ptr id g row (off+0)):=by kernel_rfl
theorem Ys:aa (xS kk).P 30 (.rp cs) 1=some (.rp (cs.drop 4)):=by kernel_rfl
theorem Xp (row off:Nat):aa (xS kk).P 30 (.ptr id g row off) 1=some (.ptr id g row (off+4)):=by kernel_rfl
theorem U0:aa (xS kk).P 30 (.rp cs) 2=some (.rp (cs.drop 5)):=by kernel_rfl
theorem We (row off:Nat):aa (xS kk).P 30 (.ptr id g row off) 2=some (.ptr id g row (off+5)):=by kernel_rfl
theorem XZ:aa (xS kk).P 30 (.rp cs) 3=some (.rp (cs.drop 6)):=by kernel_rfl
theorem VG (row off:Nat):aa (xS kk).P 30 (.ptr id g row off) 3=some (.ptr id g row (off+6)):=by kernel_rfl
theorem XK:aa (xS kk).P 30 (.rp cs) 4=some (.rp (cs.drop 7)):=by kernel_rfl
theorem Ye (row off:Nat):aa (xS kk).P 30 (.ptr id g row off) 4=some (.ptr id g row (off+7)):=by kernel_rfl
theorem Ww:aa (xS kk).P 48 (.rp cs) 0=some (.rp (cs.drop 0)):=by kernel_rfl
theorem WC (row off:Nat):aa (xS kk).P 48 (.ptr id g row off) 0=some (.ptr id g row (off+0)):=by kernel_rfl
theorem Wz:aa (xS kk).P 48 (.rp cs) 1=some (.rp (cs.drop 1)):=by kernel_rfl
theorem VH (row off:Nat):aa (xS kk).P 48 (.ptr id g row off) 1=some (.ptr id g row (off+1)):=by kernel_rfl
theorem W8:aa (xS kk).P 48 (.rp cs) 2=some (.rp (cs.drop 2)):=by kernel_rfl
theorem YY (row off:Nat):aa (xS kk).P 48 (.ptr id g row off) 2=some (.ptr id g row (off+2)):=by kernel_rfl
theorem UY:aa (xS kk).P 52 (.rp cs) 0=some (.rp (cs.drop 0)):=by kernel_rfl
theorem W4 (row off:Nat):aa (xS kk).P 52 (.ptr id g row off) 0=some (.ptr id g row (off+0)):=by kernel_rfl
theorem X4:aa (xS kk).P 55 (.rp cs) 0=some (.rp (cs.drop 0)):=by kernel_rfl
theorem Ws (row off:Nat):aa (xS kk).P 55 (.ptr id g row off) 0=some (.ptr id g row (off+0)):=by kernel_rfl
theorem XJ:aa (xS kk).P 55 (.rp cs) 1=some (.rp (cs.drop 1)):=by kernel_rfl
theorem U9 (row off:Nat):aa (xS kk).P 55 (.ptr id g row off) 1=some (.ptr id g row (off+1)):=by kernel_rfl
theorem Vn:aa (xS kk).P 55 (.rp cs) 2=some (.rp (cs.drop 2)):=by kernel_rfl
theorem W3 (row off:Nat):aa (xS kk).P 55 (.ptr id g row off) 2=some (.ptr id g row (off+2)):=by kernel_rfl
theorem YS:aa (xS kk).P 55 (.rp cs) 3=some (.rp (cs.drop 3)):=by kernel_rfl
theorem Vo (row off:Nat):aa (xS kk).P 55 (.ptr id g row off) 3=some (.ptr id g row (off+3)):=by kernel_rfl
theorem VR:aa (xS kk).P 55 (.rp cs) 4=some (.rp (cs.drop 4)):=by kernel_rfl
theorem Wu (row off:Nat):aa (xS kk).P 55 (.ptr id g row off) 4=some (.ptr id g row (off+4)):=by kernel_rfl
theorem WY:aa (xS kk).P 55 (.rp cs) 5=some (.rp (cs.drop 5)):=by kernel_rfl
theorem US (row off:Nat):aa (xS kk).P 55 (.ptr id g row off) 5=some (.ptr id g row (off+5)):=by kernel_rfl
theorem U1:aa (xS kk).P 55 (.rp cs) 6=some (.rp (cs.drop 6)):=by kernel_rfl
theorem Vx (row off:Nat):aa (xS kk).P 55 (.ptr id g row off) 6=some (.ptr id g row (off+6)):=by kernel_rfl
theorem W2:aa (xS kk).P 57 (.rp cs) 0=some (.rp (cs.drop 0)):=by kernel_rfl
theorem WG (row off:Nat):aa (xS kk).P 57 (.ptr id g row off) 0=some (.ptr id g row (off+0)):=by kernel_rfl
theorem Xy:aa (xS kk).P 57 (.rp cs) 1=some (.rp (cs.drop 1)):=by kernel_rfl
theorem XY (row off:Nat):aa (xS kk).P 57 (.ptr id g row off) 1=some (.ptr id g row (off+1)):=by kernel_rfl
theorem Xk:aa (xS kk).P 57 (.rp cs) 2=some (.rp (cs.drop 2)):=by kernel_rfl
theorem XB (row off:Nat):aa (xS kk).P 57 (.ptr id g row off) 2=some (.ptr id g row (off+2)):=by kernel_rfl
theorem XM:aa (xS kk).P 65 (.rp cs) 0=some (.rp (cs.drop 0)):=by kernel_rfl
theorem YU (row off:Nat):aa (xS kk).P 65 (.ptr id g row off) 0=some (.ptr id g row (off+0)):=by kernel_rfl
theorem VW:aa (xS kk).P 65 (.rp cs) 1=some (.rp (cs.drop 1)):=by kernel_rfl
theorem WH (row off:Nat):aa (xS kk).P 65 (.ptr id g row off) 1=some (.ptr id g row (off+1)):=by kernel_rfl
theorem Y2:aa (xS kk).P 65 (.rp cs) 2=some (.rp (cs.drop 2)):=by kernel_rfl
theorem Xx (row off:Nat):aa (xS kk).P 65 (.ptr id g row off) 2=some (.ptr id g row (off+2)):=by kernel_rfl
theorem XW:aa (xS kk).P 65 (.rp cs) 3=some (.rp (cs.drop 9)):=by kernel_rfl
theorem Vj (row off:Nat):aa (xS kk).P 65 (.ptr id g row off) 3=some (.ptr id g row (off+9)):=by kernel_rfl
theorem Y5:aa (xS kk).P 65 (.rp cs) 4=some (.rp (cs.drop 10)):=by kernel_rfl
theorem Wo (row off:Nat):aa (xS kk).P 65 (.ptr id g row off) 4=some (.ptr id g row (off+10)):=by kernel_rfl
theorem OE:aa (xS kk).P 101 (.rp cs) 0=some (.rp (cs.drop 0)):=by kernel_rfl
theorem R6 (row off:Nat):aa (xS kk).P 101 (.ptr id g row off) 0=some (.ptr id g row (off+0)):=by kernel_rfl
theorem Qj:aa (xS kk).P 101 (.rp cs) 1=some (.rp (cs.drop 1)):=by kernel_rfl
theorem PU (row off:Nat):aa (xS kk).P 101 (.ptr id g row off) 1=some (.ptr id g row (off+1)):=by kernel_rfl
theorem PP:aa (xS kk).P 129 (.rp cs) 0=some (.rp (cs.drop 0)):=by kernel_rfl
theorem RI (row off:Nat):aa (xS kk).P 129 (.ptr id g row off) 0=some (.ptr id g row (off+0)):=by kernel_rfl
theorem OX:aa (xS kk).P 129 (.rp cs) 1=some (.rp (cs.drop 1)):=by kernel_rfl
theorem Se (row off:Nat):aa (xS kk).P 129 (.ptr id g row off) 1=some (.ptr id g row (off+1)):=by kernel_rfl
theorem Pb:aa (xS kk).P 129 (.rp cs) 2=some (.rp (cs.drop 2)):=by kernel_rfl
theorem Rk (row off:Nat):aa (xS kk).P 129 (.ptr id g row off) 2=some (.ptr id g row (off+2)):=by kernel_rfl
theorem P5:aa (xS kk).P 168 (.rp cs) 0=some (.rp (cs.drop 0)):=by kernel_rfl
theorem R7 (row off:Nat):aa (xS kk).P 168 (.ptr id g row off) 0=some (.ptr id g row (off+0)):=by kernel_rfl
theorem Q9:aa (xS kk).P 168 (.rp cs) 1=some (.rp (cs.drop 11)):=by kernel_rfl
theorem O0 (row off:Nat):aa (xS kk).P 168 (.ptr id g row off) 1=some (.ptr id g row (off+11)):=by kernel_rfl
theorem PO:aa (xS kk).P 168 (.rp cs) 2=some (.rp (cs.drop 15)):=by kernel_rfl
theorem Sj (row off:Nat):aa (xS kk).P 168 (.ptr id g row off) 2=some (.ptr id g row (off+15)):=by kernel_rfl
theorem P6:aa (xS kk).P 168 (.rp cs) 3=some (.rp (cs.drop 16)):=by kernel_rfl
theorem Rj (row off:Nat):aa (xS kk).P 168 (.ptr id g row off) 3=some (.ptr id g row (off+16)):=by kernel_rfl
theorem Q0:aa (xS kk).P 168 (.rp cs) 4=some (.rp (cs.drop 17)):=by kernel_rfl
theorem P7 (row off:Nat):aa (xS kk).P 168 (.ptr id g row off) 4=some (.ptr id g row (off+17)):=by kernel_rfl
theorem OS:aa (xS kk).P 168 (.rp cs) 5=some (.rp (cs.drop 18)):=by kernel_rfl
theorem Sn (row off:Nat):aa (xS kk).P 168 (.ptr id g row off) 5=some (.ptr id g row (off+18)):=by kernel_rfl
theorem RE:aa (xS kk).P 168 (.rp cs) 6=some (.rp (cs.drop 19)):=by kernel_rfl
theorem RL (row off:Nat):aa (xS kk).P 168 (.ptr id g row off) 6=some (.ptr id g row (off+19)):=by kernel_rfl
theorem Sz:aa (xS kk).P 194 (.rp cs) 0=some (.rp (cs.drop 0)):=by kernel_rfl
theorem Po (row off:Nat):aa (xS kk).P 194 (.ptr id g row off) 0=some (.ptr id g row (off+0)):=by kernel_rfl
theorem RJ:aa (xS kk).P 194 (.rp cs) 1=some (.rp (cs.drop 1)):=by kernel_rfl
theorem OJ (row off:Nat):aa (xS kk).P 194 (.ptr id g row off) 1=some (.ptr id g row (off+1)):=by kernel_rfl
theorem QS:aa (xS kk).P 205 (.rp cs) 0=some (.rp (cs.drop 0)):=by kernel_rfl
theorem OY (row off:Nat):aa (xS kk).P 205 (.ptr id g row off) 0=some (.ptr id g row (off+0)):=by kernel_rfl
theorem RY:aa (xS kk).P 205 (.rp cs) 1=some (.rp (cs.drop 7)):=by kernel_rfl
theorem Qz (row off:Nat):aa (xS kk).P 205 (.ptr id g row off) 1=some (.ptr id g row (off+7)):=by kernel_rfl
theorem QV:aa (xS kk).P 205 (.rp cs) 2=some (.rp (cs.drop 11)):=by kernel_rfl
theorem RQ (row off:Nat):aa (xS kk).P 205 (.ptr id g row off) 2=some (.ptr id g row (off+11)):=by kernel_rfl
theorem Su:aa (xS kk).P 221 (.rp cs) 0=some (.rp (cs.drop 0)):=by kernel_rfl
theorem O9 (row off:Nat):aa (xS kk).P 221 (.ptr id g row off) 0=some (.ptr id g row (off+0)):=by kernel_rfl
theorem Ox:aa (xS kk).P 221 (.rp cs) 1=some (.rp (cs.drop 7)):=by kernel_rfl
theorem Qr (row off:Nat):aa (xS kk).P 221 (.ptr id g row off) 1=some (.ptr id g row (off+7)):=by kernel_rfl
theorem Pc:aa (xS kk).P 221 (.rp cs) 2=some (.rp (cs.drop 11)):=by kernel_rfl
theorem Q5 (row off:Nat):aa (xS kk).P 221 (.ptr id g row off) 2=some (.ptr id g row (off+11)):=by kernel_rfl
theorem O7:aa (xS kk).P 235 (.rp cs) 0=some (.rp (cs.drop 0)):=by kernel_rfl
theorem Pa (row off:Nat):aa (xS kk).P 235 (.ptr id g row off) 0=some (.ptr id g row (off+0)):=by kernel_rfl
theorem OI:aa (xS kk).P 235 (.rp cs) 1=some (.rp (cs.drop 7)):=by kernel_rfl
theorem Qc (row off:Nat):aa (xS kk).P 235 (.ptr id g row off) 1=some (.ptr id g row (off+7)):=by kernel_rfl
theorem PN:aa (xS kk).P 235 (.rp cs) 2=some (.rp (cs.drop 11)):=by kernel_rfl
theorem Rw (row off:Nat):aa (xS kk).P 235 (.ptr id g row off) 2=some (.ptr id g row (off+11)):=by kernel_rfl
theorem PL:wx (xS kk).P 194 (.agg cs) 0=aX (xS kk).P 3 (cs.drop 0):=by kernel_rfl
theorem ah2 (l:Tyt):ai (xS kk).P 24 (.ro (l.map an)) (.lit (.int k n)) H=(idx l n).map fun x => .rp (an x):=co (e:=101) (by kernel_rfl) (fun x=>(by kernel_rfl:(an x).length=aW (xS kk).P 101)) (by kernel_rfl)
theorem agL:ai (xS kk).P 24 (.own id g len) (.lit (.int k n)) H=ixB 2 g len id n (H[id]?):=bo (P:=(xS kk).P) (e:=101) (by kernel_rfl) (by kernel_rfl)
theorem aif (l:List Int):ai (xS kk).P 26 (.ro (l.map (aF .u64))) (.lit (.int k n)) H=(idx l n).map fun x => .rp ((aF .u64) x):=co (e:=46) (by kernel_rfl) (fun x=>(by kernel_rfl:((aF .u64) x).length=aW (xS kk).P 46)) (by kernel_rfl)
theorem afY:ai (xS kk).P 26 (.own id g len) (.lit (.int k n)) H=ixB 1 g len id n (H[id]?):=bo (P:=(xS kk).P) (e:=46) (by kernel_rfl) (by kernel_rfl)
theorem afC (l:List Tyw):ai (xS kk).P 27 (.ro (l.map aK)) (.lit (.int k n)) H=(idx l n).map fun x => .rp (aK x):=co (e:=65) (by kernel_rfl) (fun x=>(by kernel_rfl:(aK x).length=aW (xS kk).P 65)) (by kernel_rfl)
theorem agh:ai (xS kk).P 27 (.own id g len) (.lit (.int k n)) H=ixB 11 g len id n (H[id]?):=bo (P:=(xS kk).P) (e:=65) (by kernel_rfl) (by kernel_rfl)
theorem afh (l:List Tys):ai (xS kk).P 28 (.ro (l.map bD)) (.lit (.int k n)) H=(idx l n).map fun x => .rp (bD x):=co (e:=57) (by kernel_rfl) (fun x=>(by kernel_rfl:(bD x).length=aW (xS kk).P 57)) (by kernel_rfl)
theorem aeF:ai (xS kk).P 28 (.own id g len) (.lit (.int k n)) H=ixB 9 g len id n (H[id]?):=bo (P:=(xS kk).P) (e:=57) (by kernel_rfl) (by kernel_rfl)
theorem ahT (l:Tye):ai (xS kk).P 31 (.ro (l.map eP)) (.lit (.int k n)) H=(idx l n).map fun x => .rp (eP x):=co (e:=48) (by kernel_rfl) (fun x=>(by kernel_rfl:(eP x).length=aW (xS kk).P 48)) (by kernel_rfl)
theorem aiW:ai (xS kk).P 31 (.own id g len) (.lit (.int k n)) H=ixB 3 g len id n (H[id]?):=bo (P:=(xS kk).P) (e:=48) (by kernel_rfl) (by kernel_rfl)
theorem aeN (l:Tye):ai (xS kk).P 34 (.ro (l.map aJ)) (.lit (.int k n)) H=(idx l n).map fun x => .rp (aJ x):=co (e:=52) (by kernel_rfl) (fun x=>(by kernel_rfl:(aJ x).length=aW (xS kk).P 52)) (by kernel_rfl)
theorem agX:ai (xS kk).P 34 (.own id g len) (.lit (.int k n)) H=ixB 3 g len id n (H[id]?):=bo (P:=(xS kk).P) (e:=52) (by kernel_rfl) (by kernel_rfl)
theorem ah3 (l:List (List Int)):ai (xS kk).P 40 (.ro (l.map eo)) (.lit (.int k n)) H=(idx l n).map fun x => .rp (eo x):=co (e:=53) (by kernel_rfl) (fun x=>(by kernel_rfl:(eo x).length=aW (xS kk).P 53)) (by kernel_rfl)
theorem aiR:ai (xS kk).P 40 (.own id g len) (.lit (.int k n)) H=ixB 1 g len id n (H[id]?):=bo (P:=(xS kk).P) (e:=53) (by kernel_rfl) (by kernel_rfl)
theorem afl (l:List Int):ai (xS kk).P 53 (.ro (l.map (aF .i64))) (.lit (.int k n)) H=(idx l n).map fun x => .rp ((aF .i64) x):=co (e:=3) (by kernel_rfl) (fun x=>(by kernel_rfl:((aF .i64) x).length=aW (xS kk).P 3)) (by kernel_rfl)
theorem ahk:ai (xS kk).P 53 (.own id g len) (.lit (.int k n)) H=ixB 1 g len id n (H[id]?):=bo (P:=(xS kk).P) (e:=3) (by kernel_rfl) (by kernel_rfl)
theorem afn (l:Tye):ai (xS kk).P 63 (.ro (l.map aJ)) (.lit (.int k n)) H=(idx l n).map fun x => .rp (aJ x):=co (e:=129) (by kernel_rfl) (fun x=>(by kernel_rfl:(aJ x).length=aW (xS kk).P 129)) (by kernel_rfl)
theorem ahG:ai (xS kk).P 63 (.own id g len) (.lit (.int k n)) H=ixB 3 g len id n (H[id]?):=bo (P:=(xS kk).P) (e:=129) (by kernel_rfl) (by kernel_rfl)
theorem acV (l:List Bool):ai (xS kk).P 150 (.ro (l.map mC)) (.lit (.int k n)) H=(idx l n).map fun x => .rp (mC x):=co (e:=4) (by kernel_rfl) (fun x=>(by kernel_rfl:(mC x).length=aW (xS kk).P 4)) (by kernel_rfl)
theorem ade:ai (xS kk).P 150 (.own id g len) (.lit (.int k n)) H=ixB 1 g len id n (H[id]?):=bo (P:=(xS kk).P) (e:=4) (by kernel_rfl) (by kernel_rfl)
theorem aa5:ai (xS kk).P 207 (.own id g len) (.lit (.int k n)) H=ixB 1 g len id n (H[id]?):=bo (P:=(xS kk).P) (e:=206) (by kernel_rfl) (by kernel_rfl)
theorem ZN:ai (xS kk).P 223 (.own id g len) (.lit (.int k n)) H=ixB 1 g len id n (H[id]?):=bo (P:=(xS kk).P) (e:=116) (by kernel_rfl) (by kernel_rfl)
theorem acF:ai (xS kk).P 238 (.own id g len) (.lit (.int k n)) H=ixB 1 g len id n (H[id]?):=bo (P:=(xS kk).P) (e:=1) (by kernel_rfl) (by kernel_rfl)
theorem aa4:a7 (xS kk).P 24 x H=(uj x H).map fun v=>(v,H):=by kernel_rfl
theorem acW:a7 (xS kk).P 25 x H=(uj x H).map fun v=>(v,H):=by kernel_rfl
theorem abH:a7 (xS kk).P 26 x H=(uj x H).map fun v=>(v,H):=by kernel_rfl
theorem ab9:a7 (xS kk).P 27 x H=(uj x H).map fun v=>(v,H):=by kernel_rfl
theorem abz:a7 (xS kk).P 28 x H=(uj x H).map fun v=>(v,H):=by kernel_rfl
theorem acE:a7 (xS kk).P 31 x H=(uj x H).map fun v=>(v,H):=by kernel_rfl
theorem aam:a7 (xS kk).P 34 x H=(uj x H).map fun v=>(v,H):=by kernel_rfl
theorem aa0:a7 (xS kk).P 40 x H=(uj x H).map fun v=>(v,H):=by kernel_rfl
theorem aae:a7 (xS kk).P 53 x H=(uj x H).map fun v=>(v,H):=by kernel_rfl
theorem aaq:a7 (xS kk).P 63 x H=(uj x H).map fun v=>(v,H):=by kernel_rfl
theorem Xu:a7 (xS kk).P 207 x H=(uj x H).map fun v=>(v,H):=by kernel_rfl
theorem Y1:a7 (xS kk).P 238 x H=(uj x H).map fun v=>(v,H):=by kernel_rfl
theorem Re:kQ (xS kk).P wl 24 24 s x H=bv (xS kk).P wl 24 s x H:=by kernel_rfl
theorem Rx:bv (xS kk).P wl 24 (.own id g len) x H=(b9 x H).bind fun xs=>bif cg 2 xs then apB wl 101 2 32 id g len xs H (H[id]?) else none:=(en (P:=(xS kk).P) (t:=24) (e:=101) (by kernel_rfl) (by kernel_rfl)).trans (by kernel_rfl)
theorem Qh:bv (xS kk).P wl 24 .nil x H=(b9 x H).bind fun xs=>bif cg 2 xs then bif decide (xs.length*32≤70368744177664) then some (.own H.length 0 xs.length,H++[.rows 2 xs 0 true]) else none else none:=(er (P:=(xS kk).P) (t:=24) (e:=101) (by kernel_rfl) (by kernel_rfl)).trans (by kernel_rfl)
theorem Ps:kQ (xS kk).P wl 25 25 s x H=bv (xS kk).P wl 25 s x H:=by kernel_rfl
theorem PD:bv (xS kk).P wl 25 (.own id g len) x H=(b9 x H).bind fun xs=>bif cg 1 xs then apB wl 46 1 8 id g len xs H (H[id]?) else none:=(en (P:=(xS kk).P) (t:=25) (e:=46) (by kernel_rfl) (by kernel_rfl)).trans (by kernel_rfl)
theorem PS:bv (xS kk).P wl 25 .nil x H=(b9 x H).bind fun xs=>bif cg 1 xs then bif decide (xs.length*8≤70368744177664) then some (.own H.length 0 xs.length,H++[.rows 1 xs 0 true]) else none else none:=(er (P:=(xS kk).P) (t:=25) (e:=46) (by kernel_rfl) (by kernel_rfl)).trans (by kernel_rfl)
theorem Qx:kQ (xS kk).P wl 26 26 s x H=bv (xS kk).P wl 26 s x H:=by kernel_rfl
theorem QX:bv (xS kk).P wl 26 (.own id g len) x H=(b9 x H).bind fun xs=>bif cg 1 xs then apB wl 46 1 8 id g len xs H (H[id]?) else none:=(en (P:=(xS kk).P) (t:=26) (e:=46) (by kernel_rfl) (by kernel_rfl)).trans (by kernel_rfl)
theorem QR:bv (xS kk).P wl 26 .nil x H=(b9 x H).bind fun xs=>bif cg 1 xs then bif decide (xs.length*8≤70368744177664) then some (.own H.length 0 xs.length,H++[.rows 1 xs 0 true]) else none else none:=(er (P:=(xS kk).P) (t:=26) (e:=46) (by kernel_rfl) (by kernel_rfl)).trans (by kernel_rfl)
theorem Pu:kQ (xS kk).P wl 27 27 s x H=bv (xS kk).P wl 27 s x H:=by kernel_rfl
theorem OA:bv (xS kk).P wl 27 (.own id g len) x H=(b9 x H).bind fun xs=>bif cg 11 xs then apB wl 65 11 104 id g len xs H (H[id]?) else none:=(en (P:=(xS kk).P) (t:=27) (e:=65) (by kernel_rfl) (by kernel_rfl)).trans (by kernel_rfl)
theorem Sv:bv (xS kk).P wl 27 .nil x H=(b9 x H).bind fun xs=>bif cg 11 xs then bif decide (xs.length*104≤70368744177664) then some (.own H.length 0 xs.length,H++[.rows 11 xs 0 true]) else none else none:=(er (P:=(xS kk).P) (t:=27) (e:=65) (by kernel_rfl) (by kernel_rfl)).trans (by kernel_rfl)
theorem Ra:kQ (xS kk).P wl 28 28 s x H=bv (xS kk).P wl 28 s x H:=by kernel_rfl
theorem Rf:bv (xS kk).P wl 28 (.own id g len) x H=(b9 x H).bind fun xs=>bif cg 9 xs then apB wl 57 9 88 id g len xs H (H[id]?) else none:=(en (P:=(xS kk).P) (t:=28) (e:=57) (by kernel_rfl) (by kernel_rfl)).trans (by kernel_rfl)
theorem QJ:bv (xS kk).P wl 28 .nil x H=(b9 x H).bind fun xs=>bif cg 9 xs then bif decide (xs.length*88≤70368744177664) then some (.own H.length 0 xs.length,H++[.rows 9 xs 0 true]) else none else none:=(er (P:=(xS kk).P) (t:=28) (e:=57) (by kernel_rfl) (by kernel_rfl)).trans (by kernel_rfl)
theorem QA:kQ (xS kk).P wl 34 34 s x H=bv (xS kk).P wl 34 s x H:=by kernel_rfl
theorem PF:bv (xS kk).P wl 34 (.own id g len) x H=(b9 x H).bind fun xs=>bif cg 3 xs then apB wl 52 3 24 id g len xs H (H[id]?) else none:=(en (P:=(xS kk).P) (t:=34) (e:=52) (by kernel_rfl) (by kernel_rfl)).trans (by kernel_rfl)
theorem Sx:bv (xS kk).P wl 34 .nil x H=(b9 x H).bind fun xs=>bif cg 3 xs then bif decide (xs.length*24≤70368744177664) then some (.own H.length 0 xs.length,H++[.rows 3 xs 0 true]) else none else none:=(er (P:=(xS kk).P) (t:=34) (e:=52) (by kernel_rfl) (by kernel_rfl)).trans (by kernel_rfl)
theorem OK:kQ (xS kk).P wl 53 53 s x H=bv (xS kk).P wl 53 s x H:=by kernel_rfl
theorem Ow:bv (xS kk).P wl 53 (.own id g len) x H=(b9 x H).bind fun xs=>bif cg 1 xs then apB wl 3 1 8 id g len xs H (H[id]?) else none:=(en (P:=(xS kk).P) (t:=53) (e:=3) (by kernel_rfl) (by kernel_rfl)).trans (by kernel_rfl)
theorem Ri:bv (xS kk).P wl 53 .nil x H=(b9 x H).bind fun xs=>bif cg 1 xs then bif decide (xs.length*8≤70368744177664) then some (.own H.length 0 xs.length,H++[.rows 1 xs 0 true]) else none else none:=(er (P:=(xS kk).P) (t:=53) (e:=3) (by kernel_rfl) (by kernel_rfl)).trans (by kernel_rfl)
theorem QM:kQ (xS kk).P wl 63 63 s x H=bv (xS kk).P wl 63 s x H:=by kernel_rfl
theorem PQ:bv (xS kk).P wl 63 (.own id g len) x H=(b9 x H).bind fun xs=>bif cg 3 xs then apB wl 129 3 24 id g len xs H (H[id]?) else none:=(en (P:=(xS kk).P) (t:=63) (e:=129) (by kernel_rfl) (by kernel_rfl)).trans (by kernel_rfl)
theorem OM:bv (xS kk).P wl 63 .nil x H=(b9 x H).bind fun xs=>bif cg 3 xs then bif decide (xs.length*24≤70368744177664) then some (.own H.length 0 xs.length,H++[.rows 3 xs 0 true]) else none else none:=(er (P:=(xS kk).P) (t:=63) (e:=129) (by kernel_rfl) (by kernel_rfl)).trans (by kernel_rfl)
theorem ae5 (c:Bool):b8 (xS kk).P wl c 53 (.own id g len) none (some (.lit (.int k n))) none H=slB g len id n H (H[id]?):=nc (P:=(xS kk).P) (e:=3) (by kernel_rfl) (by kernel_rfl)
theorem aiu (c:Bool) (l:List Int):b8 (xS kk).P wl c 53 (.ro (l.map (aF .i64))) none (some (.lit (.int k n))) none H=bif decide (0≤n∧n≤l.length) then some (.ro ((l.take n.toNat).map (aF .i64)),H) else none:=oA (P:=(xS kk).P) (e:=3) (by kernel_rfl) (by kernel_rfl) (fun x=>(by kernel_rfl:((aF .i64) x).length=aW (xS kk).P 3))
theorem aiU (c:Bool) (l:List Int):b8 (xS kk).P wl c 53 (.ro (l.map (aF .i64))) (some (.lit (.int k n))) none none H=bif decide (0≤n∧n≤l.length) then some (.ro ((l.drop n.toNat).map (aF .i64)),H) else none:=o8 (P:=(xS kk).P) (e:=3) (by kernel_rfl) (by kernel_rfl) (fun x=>(by kernel_rfl:((aF .i64) x).length=aW (xS kk).P 3))
theorem agj (c:Bool) (l:List Int) (k2:IntKind) (lo:Int):b8 (xS kk).P wl c 53 (.ro (l.map (aF .i64))) (some (.lit (.int k lo))) (some (.lit (.int k2 n))) none H=bif decide (0≤lo∧lo≤n∧n≤l.length) then some (.ro (((l.take n.toNat).drop lo.toNat).map (aF .i64)),H) else none:=lX (P:=(xS kk).P) (e:=3) (by kernel_rfl) (by kernel_rfl) (fun x=>(by kernel_rfl:((aF .i64) x).length=aW (xS kk).P 3))
theorem ahS (c:Bool):b8 (xS kk).P wl c 63 (.own id g len) none (some (.lit (.int k n))) none H=slB g len id n H (H[id]?):=nc (P:=(xS kk).P) (e:=129) (by kernel_rfl) (by kernel_rfl)
theorem agV (c:Bool) (l:Tye):b8 (xS kk).P wl c 63 (.ro (l.map aJ)) none (some (.lit (.int k n))) none H=bif decide (0≤n∧n≤l.length) then some (.ro ((l.take n.toNat).map aJ),H) else none:=oA (P:=(xS kk).P) (e:=129) (by kernel_rfl) (by kernel_rfl) (fun x=>(by kernel_rfl:(aJ x).length=aW (xS kk).P 129))
theorem aeK (c:Bool) (l:Tye):b8 (xS kk).P wl c 63 (.ro (l.map aJ)) (some (.lit (.int k n))) none none H=bif decide (0≤n∧n≤l.length) then some (.ro ((l.drop n.toNat).map aJ),H) else none:=o8 (P:=(xS kk).P) (e:=129) (by kernel_rfl) (by kernel_rfl) (fun x=>(by kernel_rfl:(aJ x).length=aW (xS kk).P 129))
theorem agn (c:Bool) (l:Tye) (k2:IntKind) (lo:Int):b8 (xS kk).P wl c 63 (.ro (l.map aJ)) (some (.lit (.int k lo))) (some (.lit (.int k2 n))) none H=bif decide (0≤lo∧lo≤n∧n≤l.length) then some (.ro (((l.take n.toNat).drop lo.toNat).map aJ),H) else none:=lX (P:=(xS kk).P) (e:=129) (by kernel_rfl) (by kernel_rfl) (fun x=>(by kernel_rfl:(aJ x).length=aW (xS kk).P 129))
theorem ab3:bn (xS kk).P 150 (.lit (.int .i64 n)) (.lit (.int .i64 n)) H=bif decide (0≤n∧n≤9223372036854775807∧n*1≤70368744177664) then some (.own H.length 0 n.toNat,H++[.rows 1 (List.replicate n.toNat [(V.lit (Value.bool false))]) 0 true]) else none:=Ct (P:=(xS kk).P) (t:=150) (e:=4) (z:=((fC (xS kk).P 4).getD default)) (by kernel_rfl) (by kernel_rfl) (by kernel_rfl) (by kernel_rfl)
theorem XP:fY (xS kk).P 3 46 (.lit (.int k n))=some (.lit (.int .u64 (IntKind.wrap .u64 n))):=by kernel_rfl
theorem UT:fY (xS kk).P 46 3 (.lit (.int k n))=some (.lit (.int .i64 (IntKind.wrap .i64 n))):=by kernel_rfl
theorem afj (a0 b0:Int) (a1 b1:Int) (a2 b2:Int) (a3 b3:Int):aw (xS kk).P .eql 23 (.agg [.lit (.int .i64 a0),.lit (.int .i64 a1),.lit (.int .i64 a2),.lit (.int .i64 a3)]) (.agg [.lit (.int .i64 b0),.lit (.int .i64 b1),.lit (.int .i64 b2),.lit (.int .i64 b3)])=some (.lit (.bool ((a0==b0)&&((a1==b1)&&((a2==b2)&&((a3==b3)&&true)))))):=by kernel_rfl
theorem aeL (a0 b0:Int) (a1 b1:Int) (a2 b2:Int) (a3 b3:Int):aw (xS kk).P .neq 23 (.agg [.lit (.int .i64 a0),.lit (.int .i64 a1),.lit (.int .i64 a2),.lit (.int .i64 a3)]) (.agg [.lit (.int .i64 b0),.lit (.int .i64 b1),.lit (.int .i64 b2),.lit (.int .i64 b3)])=some (.lit (.bool (!((a0==b0)&&((a1==b1)&&((a2==b2)&&((a3==b3)&&true))))))):=by kernel_rfl
theorem agR (a0 b0:Int) (a1 b1:Int) (a2 b2:Int):aw (xS kk).P .eql 52 (.agg [.lit (.int .i64 a0),.lit (.int .i64 a1),.lit (.int .i64 a2)]) (.agg [.lit (.int .i64 b0),.lit (.int .i64 b1),.lit (.int .i64 b2)])=some (.lit (.bool ((a0==b0)&&((a1==b1)&&((a2==b2)&&true))))):=by kernel_rfl
theorem afv (a0 b0:Int) (a1 b1:Int) (a2 b2:Int):aw (xS kk).P .neq 52 (.agg [.lit (.int .i64 a0),.lit (.int .i64 a1),.lit (.int .i64 a2)]) (.agg [.lit (.int .i64 b0),.lit (.int .i64 b1),.lit (.int .i64 b2)])=some (.lit (.bool (!((a0==b0)&&((a1==b1)&&((a2==b2)&&true)))))):=by kernel_rfl
theorem agM (a0 b0:Int) (a1 b1:Int) (a2 b2:Int) (a3 b3:Int) (a4 b4:Int) (a5 b5:Int) (a6 b6:Int):aw (xS kk).P .eql 55 (.agg [.lit (.int .i64 a0),.lit (.int .i64 a1),.lit (.int .i64 a2),.lit (.int .u64 a3),.lit (.int .u64 a4),.lit (.int .u64 a5),.lit (.int .i64 a6)]) (.agg [.lit (.int .i64 b0),.lit (.int .i64 b1),.lit (.int .i64 b2),.lit (.int .u64 b3),.lit (.int .u64 b4),.lit (.int .u64 b5),.lit (.int .i64 b6)])=some (.lit (.bool ((a0==b0)&&((a1==b1)&&((a2==b2)&&((a3==b3)&&((a4==b4)&&((a5==b5)&&((a6==b6)&&true))))))))):=by kernel_rfl
theorem ag1 (a0 b0:Int) (a1 b1:Int) (a2 b2:Int) (a3 b3:Int) (a4 b4:Int) (a5 b5:Int) (a6 b6:Int):aw (xS kk).P .neq 55 (.agg [.lit (.int .i64 a0),.lit (.int .i64 a1),.lit (.int .i64 a2),.lit (.int .u64 a3),.lit (.int .u64 a4),.lit (.int .u64 a5),.lit (.int .i64 a6)]) (.agg [.lit (.int .i64 b0),.lit (.int .i64 b1),.lit (.int .i64 b2),.lit (.int .u64 b3),.lit (.int .u64 b4),.lit (.int .u64 b5),.lit (.int .i64 b6)])=some (.lit (.bool (!((a0==b0)&&((a1==b1)&&((a2==b2)&&((a3==b3)&&((a4==b4)&&((a5==b5)&&((a6==b6)&&true)))))))))):=by kernel_rfl
theorem acR (a0 b0:Int) (a1 b1:Int) (a2 b2:Int):aw (xS kk).P .eql 129 (.agg [.lit (.int .i64 a0),.lit (.int .i64 a1),.lit (.int .i64 a2)]) (.agg [.lit (.int .i64 b0),.lit (.int .i64 b1),.lit (.int .i64 b2)])=some (.lit (.bool ((a0==b0)&&((a1==b1)&&((a2==b2)&&true))))):=by kernel_rfl
theorem acv (a0 b0:Int) (a1 b1:Int) (a2 b2:Int):aw (xS kk).P .neq 129 (.agg [.lit (.int .i64 a0),.lit (.int .i64 a1),.lit (.int .i64 a2)]) (.agg [.lit (.int .i64 b0),.lit (.int .i64 b1),.lit (.int .i64 b2)])=some (.lit (.bool (!((a0==b0)&&((a1==b1)&&((a2==b2)&&true)))))):=by kernel_rfl
theorem GC (c0 c1 c2:V):bf (xS kk).P 23 [(0,c0),(1,c1),(2,c2)]=(oK [(V.lit (Value.int .i64 (0))),(V.lit (Value.int .i64 (0))),(V.lit (Value.int .i64 (0))),(V.lit (Value.int .i64 (0)))] [(0,1,c0),(1,1,c1),(2,1,c2)]).map .agg:=by kernel_rfl
theorem aaG:bf (xS kk).P 30 []=(oK [(V.lit (Value.int .i64 (0))),(V.lit (Value.int .i64 (0))),(V.lit (Value.int .i64 (0))),(V.lit (Value.int .i64 (0))),V.nil,V.nil,V.nil,V.nil] []).map .agg:=by kernel_rfl
theorem Gf (c0 c1 c2:V):bf (xS kk).P 30 [(0,c0),(1,c1),(2,c2)]=(oK [(V.lit (Value.int .i64 (0))),(V.lit (Value.int .i64 (0))),(V.lit (Value.int .i64 (0))),(V.lit (Value.int .i64 (0))),V.nil,V.nil,V.nil,V.nil] [(0,4,c0),(4,1,c1),(5,1,c2)]).map .agg:=by kernel_rfl
theorem abb:bf (xS kk).P 48 []=(oK [(V.lit (Value.int .i64 (0))),(V.lit (Value.int .i64 (0))),(V.lit (Value.int .u64 (0)))] []).map .agg:=by kernel_rfl
theorem Yk (c0:V):bf (xS kk).P 48 [(0,c0)]=(oK [(V.lit (Value.int .i64 (0))),(V.lit (Value.int .i64 (0))),(V.lit (Value.int .u64 (0)))] [(0,1,c0)]).map .agg:=by kernel_rfl
theorem FY (c0 c1 c2:V):bf (xS kk).P 52 [(0,c0),(1,c1),(2,c2)]=(oK [(V.lit (Value.int .i64 (0))),(V.lit (Value.int .i64 (0))),(V.lit (Value.int .i64 (0)))] [(0,1,c0),(1,1,c1),(2,1,c2)]).map .agg:=by kernel_rfl
theorem aaL:bf (xS kk).P 55 []=(oK [(V.lit (Value.int .i64 (0))),(V.lit (Value.int .i64 (0))),(V.lit (Value.int .i64 (0))),(V.lit (Value.int .u64 (0))),(V.lit (Value.int .u64 (0))),(V.lit (Value.int .u64 (0))),(V.lit (Value.int .i64 (0)))] []).map .agg:=by kernel_rfl
theorem GA (c0 c1 c2:V):bf (xS kk).P 55 [(0,c0),(2,c1),(3,c2)]=(oK [(V.lit (Value.int .i64 (0))),(V.lit (Value.int .i64 (0))),(V.lit (Value.int .i64 (0))),(V.lit (Value.int .u64 (0))),(V.lit (Value.int .u64 (0))),(V.lit (Value.int .u64 (0))),(V.lit (Value.int .i64 (0)))] [(0,1,c0),(2,1,c1),(3,1,c2)]).map .agg:=by kernel_rfl
theorem Db (c0 c1 c2 c3:V):bf (xS kk).P 55 [(0,c0),(2,c1),(3,c2),(6,c3)]=(oK [(V.lit (Value.int .i64 (0))),(V.lit (Value.int .i64 (0))),(V.lit (Value.int .i64 (0))),(V.lit (Value.int .u64 (0))),(V.lit (Value.int .u64 (0))),(V.lit (Value.int .u64 (0))),(V.lit (Value.int .i64 (0)))] [(0,1,c0),(2,1,c1),(3,1,c2),(6,1,c3)]).map .agg:=by kernel_rfl
theorem GW (c0 c1 c2:V):bf (xS kk).P 57 [(0,c0),(1,c1),(2,c2)]=(oK [(V.lit (Value.int .i64 (0))),V.nil,(V.lit (Value.int .i64 (0))),(V.lit (Value.int .i64 (0))),(V.lit (Value.int .i64 (0))),(V.lit (Value.int .u64 (0))),(V.lit (Value.int .u64 (0))),(V.lit (Value.int .u64 (0))),(V.lit (Value.int .i64 (0)))] [(0,1,c0),(1,1,c1),(2,7,c2)]).map .agg:=by kernel_rfl
theorem WD (c0:V):bf (xS kk).P 57 [(1,c0)]=(oK [(V.lit (Value.int .i64 (0))),V.nil,(V.lit (Value.int .i64 (0))),(V.lit (Value.int .i64 (0))),(V.lit (Value.int .i64 (0))),(V.lit (Value.int .u64 (0))),(V.lit (Value.int .u64 (0))),(V.lit (Value.int .u64 (0))),(V.lit (Value.int .i64 (0)))] [(1,1,c0)]).map .agg:=by kernel_rfl
theorem XT (c0:V):bf (xS kk).P 65 [(2,c0)]=(oK [(V.lit (Value.int .i64 (0))),V.nil,(V.lit (Value.int .i64 (0))),(V.lit (Value.int .i64 (0))),(V.lit (Value.int .i64 (0))),(V.lit (Value.int .u64 (0))),(V.lit (Value.int .u64 (0))),(V.lit (Value.int .u64 (0))),(V.lit (Value.int .i64 (0))),(V.lit (Value.int .i64 (0))),(V.lit (Value.int .i64 (0)))] [(2,7,c0)]).map .agg:=by kernel_rfl
theorem OB (c0:V):bf (xS kk).P 129 [(0,c0)]=(oK [(V.lit (Value.int .i64 (0))),(V.lit (Value.int .i64 (0))),(V.lit (Value.int .i64 (0)))] [(0,1,c0)]).map .agg:=by kernel_rfl
theorem oO (c0 c1 c2 c3 c4 c5:V):bf (xS kk).P 168 [(0,c0),(1,c1),(2,c2),(3,c3),(4,c4),(5,c5)]=(oK [(V.lit (Value.int .i64 (0))),V.nil,(V.lit (Value.int .i64 (0))),(V.lit (Value.int .i64 (0))),(V.lit (Value.int .i64 (0))),(V.lit (Value.int .u64 (0))),(V.lit (Value.int .u64 (0))),(V.lit (Value.int .u64 (0))),(V.lit (Value.int .i64 (0))),(V.lit (Value.int .i64 (0))),(V.lit (Value.int .i64 (0))),(V.lit (Value.int .i64 (0))),(V.lit (Value.int .i64 (0))),(V.lit (Value.int .i64 (0))),(V.lit (Value.int .i64 (0))),V.nil,V.nil,(V.lit (Value.int .i64 (0))),(V.lit (Value.int .u64 (0))),V.nil] [(0,11,c0),(11,4,c1),(15,1,c2),(16,1,c3),(17,1,c4),(18,1,c5)]).map .agg:=by kernel_rfl
theorem dV (c0 c1 c2 c3 c4 c5 c6 c7 c8 c9 c10 c11 c12 c13 c14 c15:V):bf (xS kk).P 169 [(0,c0),(1,c1),(2,c2),(3,c3),(4,c4),(5,c5),(6,c6),(7,c7),(8,c8),(9,c9),(10,c10),(11,c11),(12,c12),(13,c13),(14,c14),(15,c15)]=(oK [(V.lit Value.nilFunc),(V.lit Value.nilFunc),(V.lit Value.nilFunc),(V.lit Value.nilFunc),(V.lit Value.nilFunc),(V.lit Value.nilFunc),(V.lit Value.nilFunc),(V.lit Value.nilFunc),(V.lit Value.nilFunc),(V.lit Value.nilFunc),(V.lit Value.nilFunc),(V.lit Value.nilFunc),(V.lit Value.nilFunc),(V.lit Value.nilFunc),(V.lit Value.nilFunc),(V.lit Value.nilFunc)] [(0,1,c0),(1,1,c1),(2,1,c2),(3,1,c3),(4,1,c4),(5,1,c5),(6,1,c6),(7,1,c7),(8,1,c8),(9,1,c9),(10,1,c10),(11,1,c11),(12,1,c12),(13,1,c13),(14,1,c14),(15,1,c15)]).map .agg:=by kernel_rfl
theorem oH (c0 c1 c2 c3 c4 c5:V):bf (xS kk).P 175 [(0,c0),(1,c1),(2,c2),(3,c3),(4,c4),(5,c5)]=(oK [(V.lit Value.nilFunc),(V.lit Value.nilFunc),(V.lit Value.nilFunc),(V.lit Value.nilFunc),(V.lit Value.nilFunc),(V.lit Value.nilFunc)] [(0,1,c0),(1,1,c1),(2,1,c2),(3,1,c3),(4,1,c4),(5,1,c5)]).map .agg:=by kernel_rfl
theorem Wx:bf (xS kk).P 194 []=(oK [(V.lit (Value.int .i64 (0))),(V.lit (Value.int .i64 (0)))] []).map .agg:=by kernel_rfl
theorem KG (c0 c1:V):bf (xS kk).P 194 [(0,c0),(1,c1)]=(oK [(V.lit (Value.int .i64 (0))),(V.lit (Value.int .i64 (0)))] [(0,1,c0),(1,1,c1)]).map .agg:=by kernel_rfl
theorem Ei (c0 c1 c2:V):bf (xS kk).P 205 [(0,c0),(1,c1),(2,c2)]=(oK [(V.lit (Value.int .i64 (0))),(V.lit (Value.int .i64 (0))),(V.lit (Value.int .i64 (0))),(V.lit (Value.int .u64 (0))),(V.lit (Value.int .u64 (0))),(V.lit (Value.int .u64 (0))),(V.lit (Value.int .i64 (0))),(V.lit (Value.int .i64 (0))),(V.lit (Value.int .i64 (0))),(V.lit (Value.int .i64 (0))),(V.lit (Value.int .i64 (0))),V.nil] [(0,7,c0),(7,4,c1),(11,1,c2)]).map .agg:=by kernel_rfl
theorem Eu (c0 c1 c2:V):bf (xS kk).P 221 [(0,c0),(1,c1),(2,c2)]=(oK [(V.lit (Value.int .i64 (0))),(V.lit (Value.int .i64 (0))),(V.lit (Value.int .i64 (0))),(V.lit (Value.int .u64 (0))),(V.lit (Value.int .u64 (0))),(V.lit (Value.int .u64 (0))),(V.lit (Value.int .i64 (0))),(V.lit (Value.int .i64 (0))),(V.lit (Value.int .i64 (0))),(V.lit (Value.int .i64 (0))),(V.lit (Value.int .i64 (0))),V.nil] [(0,7,c0),(7,4,c1),(11,1,c2)]).map .agg:=by kernel_rfl
theorem DE (c0 c1 c2:V):bf (xS kk).P 235 [(0,c0),(1,c1),(2,c2)]=(oK [(V.lit (Value.int .i64 (0))),(V.lit (Value.int .i64 (0))),(V.lit (Value.int .i64 (0))),(V.lit (Value.int .u64 (0))),(V.lit (Value.int .u64 (0))),(V.lit (Value.int .u64 (0))),(V.lit (Value.int .i64 (0))),(V.lit (Value.int .i64 (0))),(V.lit (Value.int .i64 (0))),(V.lit (Value.int .i64 (0))),(V.lit (Value.int .i64 (0))),V.nil] [(0,7,c0),(7,4,c1),(11,1,c2)]).map .agg:=by kernel_rfl
theorem Ao (c0 c1 c2 c3:V):bf (xS kk).P 236 [(0,c0),(1,c1),(2,c2),(3,c3)]=(oK [(V.lit Value.nilFunc),(V.lit Value.nilFunc),(V.lit Value.nilFunc),(V.lit Value.nilFunc)] [(0,1,c0),(1,1,c1),(2,1,c2),(3,1,c3)]).map .agg:=by kernel_rfl
theorem Vd (l:List (Nat×V)):aB (xS kk).P wl 24 0 l H=(fI wl 2 l [] H).bind fun p=>some (.own p.2.length 0 0,p.2++[.rows 2 p.1 0 true]):=by kernel_rfl
theorem Yd (l:List (Nat×V)):aB (xS kk).P wl 25 1 l H=(fI wl 1 l [[(V.lit (Value.int .u64 (0)))]] H).bind fun p=>some (.own p.2.length 0 1,p.2++[.rows 1 p.1 0 true]):=by kernel_rfl
theorem Vz (l:List (Nat×V)):aB (xS kk).P wl 26 0 l H=(fI wl 1 l [] H).bind fun p=>some (.own p.2.length 0 0,p.2++[.rows 1 p.1 0 true]):=by kernel_rfl
theorem XH (l:List (Nat×V)):aB (xS kk).P wl 26 1 l H=(fI wl 1 l [[(V.lit (Value.int .u64 (0)))]] H).bind fun p=>some (.own p.2.length 0 1,p.2++[.rows 1 p.1 0 true]):=by kernel_rfl
theorem WL (l:List (Nat×V)):aB (xS kk).P wl 27 0 l H=(fI wl 11 l [] H).bind fun p=>some (.own p.2.length 0 0,p.2++[.rows 11 p.1 0 true]):=by kernel_rfl
theorem YW (l:List (Nat×V)):aB (xS kk).P wl 27 1 l H=(fI wl 11 l [[(V.lit (Value.int .i64 (0))),V.ro [],(V.lit (Value.int .i64 (0))),(V.lit (Value.int .i64 (0))),(V.lit (Value.int .i64 (0))),(V.lit (Value.int .u64 (0))),(V.lit (Value.int .u64 (0))),(V.lit (Value.int .u64 (0))),(V.lit (Value.int .i64 (0))),(V.lit (Value.int .i64 (0))),(V.lit (Value.int .i64 (0)))]] H).bind fun p=>some (.own p.2.length 0 1,p.2++[.rows 11 p.1 0 true]):=by kernel_rfl
theorem Vt (l:List (Nat×V)):aB (xS kk).P wl 28 0 l H=(fI wl 9 l [] H).bind fun p=>some (.own p.2.length 0 0,p.2++[.rows 9 p.1 0 true]):=by kernel_rfl
theorem Xf (l:List (Nat×V)):aB (xS kk).P wl 28 1 l H=(fI wl 9 l [[(V.lit (Value.int .i64 (0))),V.ro [],(V.lit (Value.int .i64 (0))),(V.lit (Value.int .i64 (0))),(V.lit (Value.int .i64 (0))),(V.lit (Value.int .u64 (0))),(V.lit (Value.int .u64 (0))),(V.lit (Value.int .u64 (0))),(V.lit (Value.int .i64 (0)))]] H).bind fun p=>some (.own p.2.length 0 1,p.2++[.rows 9 p.1 0 true]):=by kernel_rfl
theorem UW (l:List (Nat×V)):aB (xS kk).P wl 31 1 l H=(fI wl 3 l [[(V.lit (Value.int .i64 (0))),(V.lit (Value.int .i64 (0))),(V.lit (Value.int .u64 (0)))]] H).bind fun p=>some (.own p.2.length 0 1,p.2++[.rows 3 p.1 0 true]):=by kernel_rfl
theorem Vs (l:List (Nat×V)):aB (xS kk).P wl 31 2 l H=(fI wl 3 l [[(V.lit (Value.int .i64 (0))),(V.lit (Value.int .i64 (0))),(V.lit (Value.int .u64 (0)))],[(V.lit (Value.int .i64 (0))),(V.lit (Value.int .i64 (0))),(V.lit (Value.int .u64 (0)))]] H).bind fun p=>some (.own p.2.length 0 2,p.2++[.rows 3 p.1 0 true]):=by kernel_rfl
theorem Vg (l:List (Nat×V)):aB (xS kk).P wl 34 1 l H=(fI wl 3 l [[(V.lit (Value.int .i64 (0))),(V.lit (Value.int .i64 (0))),(V.lit (Value.int .i64 (0)))]] H).bind fun p=>some (.own p.2.length 0 1,p.2++[.rows 3 p.1 0 true]):=by kernel_rfl
theorem Yf (l:List (Nat×V)):aB (xS kk).P wl 53 0 l H=(fI wl 1 l [] H).bind fun p=>some (.own p.2.length 0 0,p.2++[.rows 1 p.1 0 true]):=by kernel_rfl
theorem WA (l:List (Nat×V)):aB (xS kk).P wl 53 1 l H=(fI wl 1 l [[(V.lit (Value.int .i64 (0)))]] H).bind fun p=>some (.own p.2.length 0 1,p.2++[.rows 1 p.1 0 true]):=by kernel_rfl
theorem YJ (l:List (Nat×V)):aB (xS kk).P wl 53 5 l H=(fI wl 1 l [[(V.lit (Value.int .i64 (0)))],[(V.lit (Value.int .i64 (0)))],[(V.lit (Value.int .i64 (0)))],[(V.lit (Value.int .i64 (0)))],[(V.lit (Value.int .i64 (0)))]] H).bind fun p=>some (.own p.2.length 0 5,p.2++[.rows 1 p.1 0 true]):=by kernel_rfl
theorem UM (l:List (Nat×V)):aB (xS kk).P wl 63 0 l H=(fI wl 3 l [] H).bind fun p=>some (.own p.2.length 0 0,p.2++[.rows 3 p.1 0 true]):=by kernel_rfl
theorem YV (l:List (Nat×V)):aB (xS kk).P wl 63 1 l H=(fI wl 3 l [[(V.lit (Value.int .i64 (0))),(V.lit (Value.int .i64 (0))),(V.lit (Value.int .i64 (0)))]] H).bind fun p=>some (.own p.2.length 0 1,p.2++[.rows 3 p.1 0 true]):=by kernel_rfl
theorem Ss (l:List (Nat×V)):aB (xS kk).P wl 207 5 l H=(fI wl 1 l [[(V.lit Value.nilFunc)],[(V.lit Value.nilFunc)],[(V.lit Value.nilFunc)],[(V.lit Value.nilFunc)],[(V.lit Value.nilFunc)]] H).bind fun p=>some (.own p.2.length 0 5,p.2++[.rows 1 p.1 0 true]):=by kernel_rfl
theorem Oy (l:List (Nat×V)):aB (xS kk).P wl 223 5 l H=(fI wl 1 l [[(V.lit Value.nilFunc)],[(V.lit Value.nilFunc)],[(V.lit Value.nilFunc)],[(V.lit Value.nilFunc)],[(V.lit Value.nilFunc)]] H).bind fun p=>some (.own p.2.length 0 5,p.2++[.rows 1 p.1 0 true]):=by kernel_rfl
theorem Ru (l:List (Nat×V)):aB (xS kk).P wl 238 4 l H=(fI wl 1 l [[(V.lit Value.nilFunc)],[(V.lit Value.nilFunc)],[(V.lit Value.nilFunc)],[(V.lit Value.nilFunc)]] H).bind fun p=>some (.own p.2.length 0 4,p.2++[.rows 1 p.1 0 true]):=by kernel_rfl
theorem Zr (v:V):fe (xS kk).P wl 138 (.map id) (.lit (.int .i64 n)) v H=inB wl .i64 id n v H (H[id]?):=by kernel_rfl
theorem abI (ok:Bool):gD (xS kk).P 138 (.map id) (.lit (.int .i64 n)) ok H=lkB .i64 (V.lit Value.nilFunc) ok n (H[id]?):=by kernel_rfl
theorem Zv (v:V):fe (xS kk).P wl 201 (.map id) (.lit (.int .i64 n)) v H=inB wl .i64 id n v H (H[id]?):=by kernel_rfl
theorem ac5 (ok:Bool):gD (xS kk).P 201 (.map id) (.lit (.int .i64 n)) ok H=lkB .i64 (V.lit Value.nilFunc) ok n (H[id]?):=by kernel_rfl
theorem aaV (v:V):fe (xS kk).P wl 212 (.map id) (.lit (.int .i64 n)) v H=inB wl .i64 id n v H (H[id]?):=by kernel_rfl
theorem ZL (ok:Bool):gD (xS kk).P 212 (.map id) (.lit (.int .i64 n)) ok H=lkB .i64 (V.lit Value.nilFunc) ok n (H[id]?):=by kernel_rfl
theorem aaJ (row off:Nat):ai (xS kk).P 169 (.ptr id g row off) (.lit (.int k n)) H=arC id g row [(0,off),(1,off+1),(2,off+2),(3,off+3),(4,off+4),(5,off+5),(6,off+6),(7,off+7),(8,off+8),(9,off+9),(10,off+10),(11,off+11),(12,off+12),(13,off+13),(14,off+14),(15,off+15)] n:=H0 (e:=1) (len:=16) (sz:=1) (by kernel_rfl) (by kernel_rfl) (by decide)
theorem aaw (row off:Nat):ai (xS kk).P 175 (.ptr id g row off) (.lit (.int k n)) H=arC id g row [(0,off),(1,off+1),(2,off+2),(3,off+3),(4,off+4),(5,off+5)] n:=H0 (e:=1) (len:=6) (sz:=1) (by kernel_rfl) (by kernel_rfl) (by decide)
theorem Zq (row off:Nat):ai (xS kk).P 236 (.ptr id g row off) (.lit (.int k n)) H=arC id g row [(0,off),(1,off+1),(2,off+2),(3,off+3)] n:=H0 (e:=1) (len:=4) (sz:=1) (by kernel_rfl) (by kernel_rfl) (by decide)
end
def xF0:=PLift.up (And.intro (And.intro (And.intro (And.intro (And.intro (And.intro (And.intro (And.intro (@akl) (@aj1)) (And.intro (@ajW) (@aj5))) (And.intro (And.intro (@akx) (@akr)) (And.intro (@ag7) (And.intro (@ahA) (@ahd))))) (And.intro (And.intro (And.intro (@aid) (@ah9)) (And.intro (@aiD) (And.intro (@af5) (@ahf)))) (And.intro (And.intro (@afG) (@afE)) (And.intro (@aiT) (And.intro (@aeC) (@aig)))))) (And.intro (And.intro (And.intro (And.intro (@ahi) (@ahI)) (And.intro (@af7) (And.intro (@aix) (@ag4)))) (And.intro (And.intro (@aiG) (@aeM)) (And.intro (@ah6) (And.intro (@aiV) (@aic))))) (And.intro (And.intro (And.intro (@ahR) (@aih)) (And.intro (@aeT) (And.intro (@ae2) (@afQ)))) (And.intro (And.intro (@ain) (@aeP)) (And.intro (@ahY) (And.intro (@ag3) (@afb))))))) (And.intro (And.intro (And.intro (And.intro (And.intro (@agf) (@aaH)) (And.intro (@ad4) (@aaO))) (And.intro (And.intro (@ad8) (@adm)) (And.intro (@abP) (And.intro (@adw) (@abV))))) (And.intro (And.intro (And.intro (@adg) (@aaY)) (And.intro (@aaA) (And.intro (@acx) (@Zu)))) (And.intro (And.intro (@acj) (@abU)) (And.intro (@abK) (And.intro (@aaI) (@adt)))))) (And.intro (And.intro (And.intro (And.intro (@ZP) (@aak)) (And.intro (@aaj) (And.intro (@adb) (@aku)))) (And.intro (And.intro (@aj8) (@akp)) (And.intro (@aha) (And.intro (@aiy) (@agz))))) (And.intro (And.intro (And.intro (@agm) (@ah4)) (And.intro (@ahQ) (And.intro (@aiH) (@afT)))) (And.intro (And.intro (@acN) (@ZT)) (And.intro (@abe) (And.intro (@aay) (@aab)))))))) (And.intro (And.intro (And.intro (And.intro (And.intro (And.intro (@aan) (@aau)) (And.intro (@ad0) (@adG))) (And.intro (And.intro (@Xs) (@Yr)) (And.intro (@Xh) (And.intro (@XG) (@Yn))))) (And.intro (And.intro (And.intro (@VM) (@Vh)) (And.intro (@VZ) (And.intro (@Yo) (@XC)))) (And.intro (And.intro (@Ys) (@Xp)) (And.intro (@U0) (And.intro (@We) (@XZ)))))) (And.intro (And.intro (And.intro (And.intro (@VG) (@XK)) (And.intro (@Ye) (And.intro (@Ww) (@WC)))) (And.intro (And.intro (@Wz) (@VH)) (And.intro (@W8) (And.intro (@YY) (@UY))))) (And.intro (And.intro (And.intro (@W4) (@X4)) (And.intro (@Ws) (And.intro (@XJ) (@U9)))) (And.intro (And.intro (@Vn) (@W3)) (And.intro (@YS) (And.intro (@Vo) (@VR))))))) (And.intro (And.intro (And.intro (And.intro (And.intro (@Wu) (@WY)) (And.intro (@US) (@U1))) (And.intro (And.intro (@Vx) (@W2)) (And.intro (@WG) (And.intro (@Xy) (@XY))))) (And.intro (And.intro (And.intro (@Xk) (@XB)) (And.intro (@XM) (And.intro (@YU) (@VW)))) (And.intro (And.intro (@WH) (@Y2)) (And.intro (@Xx) (And.intro (@XW) (@Vj)))))) (And.intro (And.intro (And.intro (And.intro (@Y5) (@Wo)) (And.intro (@OE) (And.intro (@R6) (@Qj)))) (And.intro (And.intro (@PU) (@PP)) (And.intro (@RI) (And.intro (@OX) (@Se))))) (And.intro (And.intro (And.intro (@Pb) (@Rk)) (And.intro (@P5) (And.intro (@R7) (@Q9)))) (And.intro (And.intro (@O0) (@PO)) (And.intro (@Sj) (And.intro (@P6) (@Rj))))))))) (And.intro (And.intro (And.intro (And.intro (And.intro (And.intro (And.intro (@Q0) (@P7)) (And.intro (@OS) (@Sn))) (And.intro (And.intro (@RE) (@RL)) (And.intro (@Sz) (And.intro (@Po) (@RJ))))) (And.intro (And.intro (And.intro (@OJ) (@QS)) (And.intro (@OY) (And.intro (@RY) (@Qz)))) (And.intro (And.intro (@QV) (@RQ)) (And.intro (@Su) (And.intro (@O9) (@Ox)))))) (And.intro (And.intro (And.intro (And.intro (@Qr) (@Pc)) (And.intro (@Q5) (And.intro (@O7) (@Pa)))) (And.intro (And.intro (@OI) (@Qc)) (And.intro (@PN) (And.intro (@Rw) (@PL))))) (And.intro (And.intro (And.intro (@ah2) (@agL)) (And.intro (@aif) (And.intro (@afY) (@afC)))) (And.intro (And.intro (@agh) (@afh)) (And.intro (@aeF) (And.intro (@ahT) (@aiW))))))) (And.intro (And.intro (And.intro (And.intro (And.intro (@aeN) (@agX)) (And.intro (@ah3) (@aiR))) (And.intro (And.intro (@afl) (@ahk)) (And.intro (@afn) (And.intro (@ahG) (@acV))))) (And.intro (And.intro (And.intro (@ade) (@aa5)) (And.intro (@ZN) (And.intro (@acF) (@aa4)))) (And.intro (And.intro (@acW) (@abH)) (And.intro (@ab9) (And.intro (@abz) (@acE)))))) (And.intro (And.intro (And.intro (And.intro (@aam) (@aa0)) (And.intro (@aae) (And.intro (@aaq) (@Xu)))) (And.intro (And.intro (@Y1) (@Re)) (And.intro (@Rx) (And.intro (@Qh) (@Ps))))) (And.intro (And.intro (And.intro (@PD) (@PS)) (And.intro (@Qx) (And.intro (@QX) (@QR)))) (And.intro (And.intro (@Pu) (@OA)) (And.intro (@Sv) (And.intro (@Ra) (@Rf)))))))) (And.intro (And.intro (And.intro (And.intro (And.intro (And.intro (@QJ) (@QA)) (And.intro (@PF) (@Sx))) (And.intro (And.intro (@OK) (@Ow)) (And.intro (@Ri) (And.intro (@QM) (@PQ))))) (And.intro (And.intro (And.intro (@OM) (@ae5)) (And.intro (@aiu) (And.intro (@aiU) (@agj)))) (And.intro (And.intro (@ahS) (@agV)) (And.intro (@aeK) (And.intro (@agn) (@ab3)))))) (And.intro (And.intro (And.intro (And.intro (@XP) (@UT)) (And.intro (@afj) (And.intro (@aeL) (@agR)))) (And.intro (And.intro (@afv) (@agM)) (And.intro (@ag1) (And.intro (@acR) (@acv))))) (And.intro (And.intro (And.intro (@GC) (@aaG)) (And.intro (@Gf) (And.intro (@abb) (@Yk)))) (And.intro (And.intro (@FY) (@aaL)) (And.intro (@GA) (And.intro (@Db) (@GW))))))) (And.intro (And.intro (And.intro (And.intro (And.intro (@WD) (@XT)) (And.intro (@OB) (And.intro (@oO) (@dV)))) (And.intro (And.intro (@oH) (@Wx)) (And.intro (@KG) (And.intro (@Ei) (@Eu))))) (And.intro (And.intro (And.intro (@DE) (@Ao)) (And.intro (@Vd) (And.intro (@Yd) (@Vz)))) (And.intro (And.intro (@XH) (@WL)) (And.intro (@YW) (And.intro (@Vt) (@Xf)))))) (And.intro (And.intro (And.intro (And.intro (@UW) (@Vs)) (And.intro (@Vg) (And.intro (@Yf) (@WA)))) (And.intro (And.intro (@YJ) (@UM)) (And.intro (@YV) (And.intro (@Ss) (@Oy))))) (And.intro (And.intro (And.intro (@Ru) (@Zr)) (And.intro (@abI) (And.intro (@Zv) (@ac5)))) (And.intro (And.intro (@aaV) (@ZL)) (And.intro (@aaJ) (And.intro (@aaw) (@Zq))))))))))
theorem xF:type_of% xF0.down:=xF0.down
end Go.Ab
