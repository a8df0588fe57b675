import Derived.Test.YtblpbpnilkfjhaaGreatR6Facts
set_option linter.unusedVariables false
set_option linter.unusedSimpArgs false
set_option maxRecDepth 100000
set_option linter.unusedVariables false
namespace Go.Ab
open Go.Proofs
theorem afI (kk:Nat) (c0 c1 c2:V) (cs:List V):aS (xS kk).P 184 (c0::c1::c2::cs)=some (.agg [c0,c1,c2]):=by kernel_rfl
theorem afc (kk:Nat):aR (xS kk).P 184=3:=by kernel_rfl
theorem ac9 (kk:Nat) (H:Hp):cI (xS kk).P 184 H=some (.ptr (bG [(V.lit (Value.int .i64 (0))),(V.lit (Value.int .i64 (0))),(V.lit Value.nilFunc)] H).2.length 0 0 0,(bG [(V.lit (Value.int .i64 (0))),(V.lit (Value.int .i64 (0))),(V.lit Value.nilFunc)] H).2++[.box (bG [(V.lit (Value.int .i64 (0))),(V.lit (Value.int .i64 (0))),(V.lit Value.nilFunc)] H).1]):=by kernel_rfl
theorem ZZ (kk:Nat) (cs:List V):ag (xS kk).P 52 (.rp cs) 1=some (.rp (cs.drop 1)):=by kernel_rfl
theorem abb (kk:Nat) (id g row off:Nat):ag (xS kk).P 52 (.ptr id g row off) 1=some (.ptr id g row (off+1)):=by kernel_rfl
theorem T7 (kk:Nat) (cs:List V):ag (xS kk).P 184 (.rp cs) 0=some (.rp (cs.drop 0)):=by kernel_rfl
theorem SE (kk:Nat) (id g row off:Nat):ag (xS kk).P 184 (.ptr id g row off) 0=some (.ptr id g row (off+0)):=by kernel_rfl
theorem Tn (kk:Nat) (cs:List V):ag (xS kk).P 184 (.rp cs) 1=some (.rp (cs.drop 1)):=by kernel_rfl
theorem VS (kk:Nat) (id g row off:Nat):ag (xS kk).P 184 (.ptr id g row off) 1=some (.ptr id g row (off+1)):=by kernel_rfl
theorem VX (kk:Nat) (cs:List V):ag (xS kk).P 184 (.rp cs) 2=some (.rp (cs.drop 2)):=by kernel_rfl
theorem V7 (kk:Nat) (id g row off:Nat):ag (xS kk).P 184 (.ptr id g row off) 2=some (.ptr id g row (off+2)):=by kernel_rfl
theorem al2 (kk:Nat) (n:Int) (H:Hp):aX (xS kk).P 53 (.lit (.int .i64 n)) (.lit (.int .i64 n)) H=bif decide (0≤n∧n≤9223372036854775807∧n*8≤70368744177664) then some (.own H.length 0 n.toNat,H++[.rows 1 (List.replicate n.toNat [(V.lit (Value.int .i64 (0)))]) 0 true]) else none:=uU (P:=(xS kk).P) (t:=53) (e:=3) (z:=((fM (xS kk).P 3).getD default)) (by kernel_rfl) (by kernel_rfl) (by kernel_rfl) (by kernel_rfl)
theorem Hb (kk:Nat) (c0 c1 c2:V):dn (xS kk).P 184 [(0,c0),(1,c1),(2,c2)]=(uc [(V.lit (Value.int .i64 (0))),(V.lit (Value.int .i64 (0))),(V.lit Value.nilFunc)] [(0,1,c0),(1,1,c1),(2,1,c2)]).map .agg:=by kernel_rfl
theorem agy (kk:Nat) (wl id:Nat) (n:Int) (v:V) (H:Hp):lg (xS kk).P wl 186 (.map id) (.lit (.int .i64 n)) v H=inB wl .i64 id n v H (H[id]?):=by kernel_rfl
theorem ahk (kk:Nat) (id:Nat) (n:Int) (ok:Bool) (H:Hp):kq (xS kk).P 186 (.map id) (.lit (.int .i64 n)) ok H=lkB .i64 (.agg [(V.lit (Value.int .i64 (0))),(V.lit (Value.int .i64 (0))),(V.lit Value.nilFunc)]) ok n (H[id]?):=by kernel_rfl
def aoZ:=PLift.up (aI (aI (aI @afI (aI @afc @ac9)) (aI (aI @ZZ @abb) (aI @T7 @SE))) (aI (aI (aI @Tn @VS) (aI @VX @V7)) (aI (aI @al2 @Hb) (aI @agy @ahk))))
theorem xFM:type_of% aoZ.down:=aoZ.down
end Go.Ab
