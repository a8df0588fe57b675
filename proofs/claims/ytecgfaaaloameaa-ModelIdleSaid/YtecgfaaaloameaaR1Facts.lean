/- Facts of the seat's types: printed by mkfacts.py. -/
import Derived.Test.YtecgfaaaloameaaAbLibC
import Derived.Test.YtecgfaaaloameaaAbLibB
import Derived.Test.YtecgfaaaloameaaR1Seat
set_option linter.unusedVariables false
namespace Go.Ab
open Go.Proofs
theorem xld3 (kk : Nat) (c : V) (cs : List V) : ldCells (xS kk).P 3 (c :: cs) = some c := by kernel_rfl
theorem xsz3 (kk : Nat) : szOf (xS kk).P 3 = 1 := by kernel_rfl
theorem xld4 (kk : Nat) (c : V) (cs : List V) : ldCells (xS kk).P 4 (c :: cs) = some c := by kernel_rfl
theorem xsz4 (kk : Nat) : szOf (xS kk).P 4 = 1 := by kernel_rfl
theorem xld22 (kk : Nat) (c : V) (cs : List V) : ldCells (xS kk).P 22 (c :: cs) = some c := by kernel_rfl
theorem xsz22 (kk : Nat) : szOf (xS kk).P 22 = 1 := by kernel_rfl
theorem xld23 (kk : Nat) (c : V) (cs : List V) : ldCells (xS kk).P 23 (c :: cs) = some c := by kernel_rfl
theorem xsz23 (kk : Nat) : szOf (xS kk).P 23 = 1 := by kernel_rfl
theorem xld25 (kk : Nat) (c0 c1 c2 : V) (cs : List V) : ldCells (xS kk).P 25 (c0 :: c1 :: c2 :: cs) = some (.agg [c0, c1, c2]) := by kernel_rfl
theorem xsz25 (kk : Nat) : szOf (xS kk).P 25 = 3 := by kernel_rfl
theorem xld27 (kk : Nat) (c : V) (cs : List V) : ldCells (xS kk).P 27 (c :: cs) = some c := by kernel_rfl
theorem xsz27 (kk : Nat) : szOf (xS kk).P 27 = 1 := by kernel_rfl
theorem xld40 (kk : Nat) (c0 c1 : V) (cs : List V) : ldCells (xS kk).P 40 (c0 :: c1 :: cs) = some (.agg [c0, c1]) := by kernel_rfl
theorem xsz40 (kk : Nat) : szOf (xS kk).P 40 = 2 := by kernel_rfl
theorem xld49 (kk : Nat) (c0 c1 : V) (cs : List V) : ldCells (xS kk).P 49 (c0 :: c1 :: cs) = some (.agg [c0, c1]) := by kernel_rfl
theorem xsz49 (kk : Nat) : szOf (xS kk).P 49 = 2 := by kernel_rfl
theorem xld55 (kk : Nat) (c0 c1 c2 : V) (cs : List V) : ldCells (xS kk).P 55 (c0 :: c1 :: c2 :: cs) = some (.agg [c0, c1, c2]) := by kernel_rfl
theorem xsz55 (kk : Nat) : szOf (xS kk).P 55 = 3 := by kernel_rfl
theorem xld67 (kk : Nat) (c0 c1 c2 : V) (cs : List V) : ldCells (xS kk).P 67 (c0 :: c1 :: c2 :: cs) = some (.agg [c0, c1, c2]) := by kernel_rfl
theorem xsz67 (kk : Nat) : szOf (xS kk).P 67 = 3 := by kernel_rfl
theorem xld74 (kk : Nat) (c : V) (cs : List V) : ldCells (xS kk).P 74 (c :: cs) = some c := by kernel_rfl
theorem xsz74 (kk : Nat) : szOf (xS kk).P 74 = 1 := by kernel_rfl
theorem xld87 (kk : Nat) (c : V) (cs : List V) : ldCells (xS kk).P 87 (c :: cs) = some c := by kernel_rfl
theorem xsz87 (kk : Nat) : szOf (xS kk).P 87 = 1 := by kernel_rfl
theorem xal3 (kk : Nat) (H : Hp) : opAlloc (xS kk).P 3 H = some (.ptr (matL [(V.lit (Value.int .i64 (0)))] H).2.length 0 0 0, (matL [(V.lit (Value.int .i64 (0)))] H).2 ++ [.box (matL [(V.lit (Value.int .i64 (0)))] H).1]) := by kernel_rfl
theorem xal4 (kk : Nat) (H : Hp) : opAlloc (xS kk).P 4 H = some (.ptr (matL [(V.lit (Value.bool false))] H).2.length 0 0 0, (matL [(V.lit (Value.bool false))] H).2 ++ [.box (matL [(V.lit (Value.bool false))] H).1]) := by kernel_rfl
theorem xal25 (kk : Nat) (H : Hp) : opAlloc (xS kk).P 25 H = some (.ptr (matL [(V.lit (Value.int .i64 (0))), (V.lit (Value.int .i64 (0))), (V.lit (Value.int .i64 (0)))] H).2.length 0 0 0, (matL [(V.lit (Value.int .i64 (0))), (V.lit (Value.int .i64 (0))), (V.lit (Value.int .i64 (0)))] H).2 ++ [.box (matL [(V.lit (Value.int .i64 (0))), (V.lit (Value.int .i64 (0))), (V.lit (Value.int .i64 (0)))] H).1]) := by kernel_rfl
theorem xal40 (kk : Nat) (H : Hp) : opAlloc (xS kk).P 40 H = some (.ptr (matL [(V.lit (Value.int .i64 (0))), V.nil] H).2.length 0 0 0, (matL [(V.lit (Value.int .i64 (0))), V.nil] H).2 ++ [.box (matL [(V.lit (Value.int .i64 (0))), V.nil] H).1]) := by kernel_rfl
theorem xal49 (kk : Nat) (H : Hp) : opAlloc (xS kk).P 49 H = some (.ptr (matL [(V.lit (Value.int .i64 (0))), (V.lit (Value.int .i64 (0)))] H).2.length 0 0 0, (matL [(V.lit (Value.int .i64 (0))), (V.lit (Value.int .i64 (0)))] H).2 ++ [.box (matL [(V.lit (Value.int .i64 (0))), (V.lit (Value.int .i64 (0)))] H).1]) := by kernel_rfl
theorem xal55 (kk : Nat) (H : Hp) : opAlloc (xS kk).P 55 H = some (.ptr (matL [(V.lit (Value.int .i64 (0))), (V.lit (Value.int .i64 (0))), (V.lit (Value.int .i64 (0)))] H).2.length 0 0 0, (matL [(V.lit (Value.int .i64 (0))), (V.lit (Value.int .i64 (0))), (V.lit (Value.int .i64 (0)))] H).2 ++ [.box (matL [(V.lit (Value.int .i64 (0))), (V.lit (Value.int .i64 (0))), (V.lit (Value.int .i64 (0)))] H).1]) := by kernel_rfl
theorem xal67 (kk : Nat) (H : Hp) : opAlloc (xS kk).P 67 H = some (.ptr (matL [(V.lit (Value.int .i64 (0))), (V.lit (Value.int .i64 (0))), (V.lit Value.nilFunc)] H).2.length 0 0 0, (matL [(V.lit (Value.int .i64 (0))), (V.lit (Value.int .i64 (0))), (V.lit Value.nilFunc)] H).2 ++ [.box (matL [(V.lit (Value.int .i64 (0))), (V.lit (Value.int .i64 (0))), (V.lit Value.nilFunc)] H).1]) := by kernel_rfl
theorem xal74 (kk : Nat) (H : Hp) : opAlloc (xS kk).P 74 H = some (.ptr (matL [(V.lit Value.nilFunc)] H).2.length 0 0 0, (matL [(V.lit Value.nilFunc)] H).2 ++ [.box (matL [(V.lit Value.nilFunc)] H).1]) := by kernel_rfl
theorem xal87 (kk : Nat) (H : Hp) : opAlloc (xS kk).P 87 H = some (.ptr (matL [V.nil] H).2.length 0 0 0, (matL [V.nil] H).2 ++ [.box (matL [V.nil] H).1]) := by kernel_rfl
theorem xfa25_0 (kk : Nat) (cs : List V) : vFieldAddr (xS kk).P 25 (.rp cs) 0 = some (.rp (cs.drop 0)) := by kernel_rfl
theorem xfp25_0 (kk : Nat) (id g row off : Nat) : vFieldAddr (xS kk).P 25 (.ptr id g row off) 0 = some (.ptr id g row (off + 0)) := by kernel_rfl
theorem xfa25_1 (kk : Nat) (cs : List V) : vFieldAddr (xS kk).P 25 (.rp cs) 1 = some (.rp (cs.drop 1)) := by kernel_rfl
theorem xfp25_1 (kk : Nat) (id g row off : Nat) : vFieldAddr (xS kk).P 25 (.ptr id g row off) 1 = some (.ptr id g row (off + 1)) := by kernel_rfl
theorem xfa25_2 (kk : Nat) (cs : List V) : vFieldAddr (xS kk).P 25 (.rp cs) 2 = some (.rp (cs.drop 2)) := by kernel_rfl
theorem xfp25_2 (kk : Nat) (id g row off : Nat) : vFieldAddr (xS kk).P 25 (.ptr id g row off) 2 = some (.ptr id g row (off + 2)) := by kernel_rfl
theorem xfa40_0 (kk : Nat) (cs : List V) : vFieldAddr (xS kk).P 40 (.rp cs) 0 = some (.rp (cs.drop 0)) := by kernel_rfl
theorem xfp40_0 (kk : Nat) (id g row off : Nat) : vFieldAddr (xS kk).P 40 (.ptr id g row off) 0 = some (.ptr id g row (off + 0)) := by kernel_rfl
theorem xfa40_1 (kk : Nat) (cs : List V) : vFieldAddr (xS kk).P 40 (.rp cs) 1 = some (.rp (cs.drop 1)) := by kernel_rfl
theorem xfp40_1 (kk : Nat) (id g row off : Nat) : vFieldAddr (xS kk).P 40 (.ptr id g row off) 1 = some (.ptr id g row (off + 1)) := by kernel_rfl
theorem xfa49_0 (kk : Nat) (cs : List V) : vFieldAddr (xS kk).P 49 (.rp cs) 0 = some (.rp (cs.drop 0)) := by kernel_rfl
theorem xfp49_0 (kk : Nat) (id g row off : Nat) : vFieldAddr (xS kk).P 49 (.ptr id g row off) 0 = some (.ptr id g row (off + 0)) := by kernel_rfl
theorem xfa55_0 (kk : Nat) (cs : List V) : vFieldAddr (xS kk).P 55 (.rp cs) 0 = some (.rp (cs.drop 0)) := by kernel_rfl
theorem xfp55_0 (kk : Nat) (id g row off : Nat) : vFieldAddr (xS kk).P 55 (.ptr id g row off) 0 = some (.ptr id g row (off + 0)) := by kernel_rfl
theorem xfa55_1 (kk : Nat) (cs : List V) : vFieldAddr (xS kk).P 55 (.rp cs) 1 = some (.rp (cs.drop 1)) := by kernel_rfl
theorem xfp55_1 (kk : Nat) (id g row off : Nat) : vFieldAddr (xS kk).P 55 (.ptr id g row off) 1 = some (.ptr id g row (off + 1)) := by kernel_rfl
theorem xfa55_2 (kk : Nat) (cs : List V) : vFieldAddr (xS kk).P 55 (.rp cs) 2 = some (.rp (cs.drop 2)) := by kernel_rfl
theorem xfp55_2 (kk : Nat) (id g row off : Nat) : vFieldAddr (xS kk).P 55 (.ptr id g row off) 2 = some (.ptr id g row (off + 2)) := by kernel_rfl
theorem xfa67_0 (kk : Nat) (cs : List V) : vFieldAddr (xS kk).P 67 (.rp cs) 0 = some (.rp (cs.drop 0)) := by kernel_rfl
theorem xfp67_0 (kk : Nat) (id g row off : Nat) : vFieldAddr (xS kk).P 67 (.ptr id g row off) 0 = some (.ptr id g row (off + 0)) := by kernel_rfl
theorem xfa67_1 (kk : Nat) (cs : List V) : vFieldAddr (xS kk).P 67 (.rp cs) 1 = some (.rp (cs.drop 1)) := by kernel_rfl
theorem xfp67_1 (kk : Nat) (id g row off : Nat) : vFieldAddr (xS kk).P 67 (.ptr id g row off) 1 = some (.ptr id g row (off + 1)) := by kernel_rfl
theorem xfa67_2 (kk : Nat) (cs : List V) : vFieldAddr (xS kk).P 67 (.rp cs) 2 = some (.rp (cs.drop 2)) := by kernel_rfl
theorem xfp67_2 (kk : Nat) (id g row off : Nat) : vFieldAddr (xS kk).P 67 (.ptr id g row off) 2 = some (.ptr id g row (off + 2)) := by kernel_rfl
theorem xfv49_0 (kk : Nat) (cs : List V) : vField (xS kk).P 49 (.agg cs) 0 = ldCells (xS kk).P 3 (cs.drop 0) := by kernel_rfl
theorem xix22 (kk : Nat) (l : List (Int × List Int)) (k : IntKind) (n : Int) (H : Hp) : vIndexAddr (xS kk).P 22 (.ro (l.map taskV)) (.lit (.int k n)) H = (idx l n).map fun x => .rp (taskV x) := vIndexAddr_ro (e := 40) (by kernel_rfl) (fun x => (by kernel_rfl : (taskV x).length = szOf (xS kk).P 40)) (by kernel_rfl)
theorem xio22 (kk : Nat) (id g len : Nat) (k : IntKind) (n : Int) (H : Hp) : vIndexAddr (xS kk).P 22 (.own id g len) (.lit (.int k n)) H = ixB 2 g len id n (H[id]?) := vIndexAddr_own (P := (xS kk).P) (e := 40) (by kernel_rfl) (by kernel_rfl)
theorem xix23 (kk : Nat) (l : List Int) (k : IntKind) (n : Int) (H : Hp) : vIndexAddr (xS kk).P 23 (.ro (l.map (intR .i64))) (.lit (.int k n)) H = (idx l n).map fun x => .rp ((intR .i64) x) := vIndexAddr_ro (e := 3) (by kernel_rfl) (fun x => (by kernel_rfl : ((intR .i64) x).length = szOf (xS kk).P 3)) (by kernel_rfl)
theorem xio23 (kk : Nat) (id g len : Nat) (k : IntKind) (n : Int) (H : Hp) : vIndexAddr (xS kk).P 23 (.own id g len) (.lit (.int k n)) H = ixB 1 g len id n (H[id]?) := vIndexAddr_own (P := (xS kk).P) (e := 3) (by kernel_rfl) (by kernel_rfl)
theorem xix26 (kk : Nat) (l : List (Int × Int × Int)) (k : IntKind) (n : Int) (H : Hp) : vIndexAddr (xS kk).P 26 (.ro (l.map threeV)) (.lit (.int k n)) H = (idx l n).map fun x => .rp (threeV x) := vIndexAddr_ro (e := 25) (by kernel_rfl) (fun x => (by kernel_rfl : (threeV x).length = szOf (xS kk).P 25)) (by kernel_rfl)
theorem xio26 (kk : Nat) (id g len : Nat) (k : IntKind) (n : Int) (H : Hp) : vIndexAddr (xS kk).P 26 (.own id g len) (.lit (.int k n)) H = ixB 3 g len id n (H[id]?) := vIndexAddr_own (P := (xS kk).P) (e := 25) (by kernel_rfl) (by kernel_rfl)
theorem xix43 (kk : Nat) (l : List (Int × Int × Int)) (k : IntKind) (n : Int) (H : Hp) : vIndexAddr (xS kk).P 43 (.ro (l.map threeV)) (.lit (.int k n)) H = (idx l n).map fun x => .rp (threeV x) := vIndexAddr_ro (e := 55) (by kernel_rfl) (fun x => (by kernel_rfl : (threeV x).length = szOf (xS kk).P 55)) (by kernel_rfl)
theorem xio43 (kk : Nat) (id g len : Nat) (k : IntKind) (n : Int) (H : Hp) : vIndexAddr (xS kk).P 43 (.own id g len) (.lit (.int k n)) H = ixB 3 g len id n (H[id]?) := vIndexAddr_own (P := (xS kk).P) (e := 55) (by kernel_rfl) (by kernel_rfl)
theorem xix87 (kk : Nat) (l : List Bool) (k : IntKind) (n : Int) (H : Hp) : vIndexAddr (xS kk).P 87 (.ro (l.map boolR)) (.lit (.int k n)) H = (idx l n).map fun x => .rp (boolR x) := vIndexAddr_ro (e := 4) (by kernel_rfl) (fun x => (by kernel_rfl : (boolR x).length = szOf (xS kk).P 4)) (by kernel_rfl)
theorem xio87 (kk : Nat) (id g len : Nat) (k : IntKind) (n : Int) (H : Hp) : vIndexAddr (xS kk).P 87 (.own id g len) (.lit (.int k n)) H = ixB 1 g len id n (H[id]?) := vIndexAddr_own (P := (xS kk).P) (e := 4) (by kernel_rfl) (by kernel_rfl)
theorem xlen22 (kk : Nat) (x : V) (H : Hp) : opLen (xS kk).P 22 x H = (vLen x H).map fun v => (v, H) := by kernel_rfl
theorem xlen23 (kk : Nat) (x : V) (H : Hp) : opLen (xS kk).P 23 x H = (vLen x H).map fun v => (v, H) := by kernel_rfl
theorem xlen26 (kk : Nat) (x : V) (H : Hp) : opLen (xS kk).P 26 x H = (vLen x H).map fun v => (v, H) := by kernel_rfl
theorem xlen43 (kk : Nat) (x : V) (H : Hp) : opLen (xS kk).P 43 x H = (vLen x H).map fun v => (v, H) := by kernel_rfl
theorem xap22_22 (kk : Nat) (wl : Nat) (s x : V) (H : Hp) : opApp (xS kk).P wl 22 22 s x H = vAppend (xS kk).P wl 22 s x H := by kernel_rfl
theorem xao22_22 (kk : Nat) (wl id g len : Nat) (x : V) (H : Hp) : vAppend (xS kk).P wl 22 (.own id g len) x H = (rowsOf x H).bind fun xs => bif okRows 2 xs then apB wl 40 2 32 id g len xs H (H[id]?) else none := (vAppend_own (P := (xS kk).P) (t := 22) (e := 40) (by kernel_rfl) (by kernel_rfl)).trans (by kernel_rfl)
theorem xan22_22 (kk : Nat) (wl : Nat) (x : V) (H : Hp) : vAppend (xS kk).P wl 22 .nil x H = (rowsOf x H).bind fun xs => bif okRows 2 xs then bif decide (xs.length * 32 ≤ 70368744177664) then some (.own H.length 0 xs.length, H ++ [.rows 2 xs 0 true]) else none else none := (vAppend_nil (P := (xS kk).P) (t := 22) (e := 40) (by kernel_rfl) (by kernel_rfl)).trans (by kernel_rfl)
theorem xap23_23 (kk : Nat) (wl : Nat) (s x : V) (H : Hp) : opApp (xS kk).P wl 23 23 s x H = vAppend (xS kk).P wl 23 s x H := by kernel_rfl
theorem xao23_23 (kk : Nat) (wl id g len : Nat) (x : V) (H : Hp) : vAppend (xS kk).P wl 23 (.own id g len) x H = (rowsOf x H).bind fun xs => bif okRows 1 xs then apB wl 3 1 8 id g len xs H (H[id]?) else none := (vAppend_own (P := (xS kk).P) (t := 23) (e := 3) (by kernel_rfl) (by kernel_rfl)).trans (by kernel_rfl)
theorem xan23_23 (kk : Nat) (wl : Nat) (x : V) (H : Hp) : vAppend (xS kk).P wl 23 .nil x H = (rowsOf x H).bind fun xs => bif okRows 1 xs then bif decide (xs.length * 8 ≤ 70368744177664) then some (.own H.length 0 xs.length, H ++ [.rows 1 xs 0 true]) else none else none := (vAppend_nil (P := (xS kk).P) (t := 23) (e := 3) (by kernel_rfl) (by kernel_rfl)).trans (by kernel_rfl)
theorem xap26_26 (kk : Nat) (wl : Nat) (s x : V) (H : Hp) : opApp (xS kk).P wl 26 26 s x H = vAppend (xS kk).P wl 26 s x H := by kernel_rfl
theorem xao26_26 (kk : Nat) (wl id g len : Nat) (x : V) (H : Hp) : vAppend (xS kk).P wl 26 (.own id g len) x H = (rowsOf x H).bind fun xs => bif okRows 3 xs then apB wl 25 3 24 id g len xs H (H[id]?) else none := (vAppend_own (P := (xS kk).P) (t := 26) (e := 25) (by kernel_rfl) (by kernel_rfl)).trans (by kernel_rfl)
theorem xan26_26 (kk : Nat) (wl : Nat) (x : V) (H : Hp) : vAppend (xS kk).P wl 26 .nil x H = (rowsOf x H).bind fun xs => bif okRows 3 xs then bif decide (xs.length * 24 ≤ 70368744177664) then some (.own H.length 0 xs.length, H ++ [.rows 3 xs 0 true]) else none else none := (vAppend_nil (P := (xS kk).P) (t := 26) (e := 25) (by kernel_rfl) (by kernel_rfl)).trans (by kernel_rfl)
theorem xap43_43 (kk : Nat) (wl : Nat) (s x : V) (H : Hp) : opApp (xS kk).P wl 43 43 s x H = vAppend (xS kk).P wl 43 s x H := by kernel_rfl
theorem xao43_43 (kk : Nat) (wl id g len : Nat) (x : V) (H : Hp) : vAppend (xS kk).P wl 43 (.own id g len) x H = (rowsOf x H).bind fun xs => bif okRows 3 xs then apB wl 55 3 24 id g len xs H (H[id]?) else none := (vAppend_own (P := (xS kk).P) (t := 43) (e := 55) (by kernel_rfl) (by kernel_rfl)).trans (by kernel_rfl)
theorem xan43_43 (kk : Nat) (wl : Nat) (x : V) (H : Hp) : vAppend (xS kk).P wl 43 .nil x H = (rowsOf x H).bind fun xs => bif okRows 3 xs then bif decide (xs.length * 24 ≤ 70368744177664) then some (.own H.length 0 xs.length, H ++ [.rows 3 xs 0 true]) else none else none := (vAppend_nil (P := (xS kk).P) (t := 43) (e := 55) (by kernel_rfl) (by kernel_rfl)).trans (by kernel_rfl)
theorem xsh26 (kk : Nat) (wl : Nat) (c : Bool) (l : List (Int × Int × Int)) (k : IntKind) (n : Int) (H : Hp) : vSlice (xS kk).P wl c 26 (.ro (l.map threeV)) none (some (.lit (.int k n))) none H = bif decide (0 ≤ n ∧ n ≤ l.length) then some (.ro ((l.take n.toNat).map threeV), H) else none := vSlice_hi (P := (xS kk).P) (e := 25) (by kernel_rfl) (by kernel_rfl) (fun x => (by kernel_rfl : (threeV x).length = szOf (xS kk).P 25))
theorem xsl26 (kk : Nat) (wl : Nat) (c : Bool) (l : List (Int × Int × Int)) (k : IntKind) (n : Int) (H : Hp) : vSlice (xS kk).P wl c 26 (.ro (l.map threeV)) (some (.lit (.int k n))) none none H = bif decide (0 ≤ n ∧ n ≤ l.length) then some (.ro ((l.drop n.toNat).map threeV), H) else none := vSlice_lo (P := (xS kk).P) (e := 25) (by kernel_rfl) (by kernel_rfl) (fun x => (by kernel_rfl : (threeV x).length = szOf (xS kk).P 25))
theorem xsb26 (kk : Nat) (wl : Nat) (c : Bool) (l : List (Int × Int × Int)) (k k2 : IntKind) (lo n : Int) (H : Hp) : vSlice (xS kk).P wl c 26 (.ro (l.map threeV)) (some (.lit (.int k lo))) (some (.lit (.int k2 n))) none H = bif decide (0 ≤ lo ∧ lo ≤ n ∧ n ≤ l.length) then some (.ro (((l.take n.toNat).drop lo.toNat).map threeV), H) else none := vSlice_both (P := (xS kk).P) (e := 25) (by kernel_rfl) (by kernel_rfl) (fun x => (by kernel_rfl : (threeV x).length = szOf (xS kk).P 25))
theorem xsh43 (kk : Nat) (wl : Nat) (c : Bool) (l : List (Int × Int × Int)) (k : IntKind) (n : Int) (H : Hp) : vSlice (xS kk).P wl c 43 (.ro (l.map threeV)) none (some (.lit (.int k n))) none H = bif decide (0 ≤ n ∧ n ≤ l.length) then some (.ro ((l.take n.toNat).map threeV), H) else none := vSlice_hi (P := (xS kk).P) (e := 55) (by kernel_rfl) (by kernel_rfl) (fun x => (by kernel_rfl : (threeV x).length = szOf (xS kk).P 55))
theorem xsl43 (kk : Nat) (wl : Nat) (c : Bool) (l : List (Int × Int × Int)) (k : IntKind) (n : Int) (H : Hp) : vSlice (xS kk).P wl c 43 (.ro (l.map threeV)) (some (.lit (.int k n))) none none H = bif decide (0 ≤ n ∧ n ≤ l.length) then some (.ro ((l.drop n.toNat).map threeV), H) else none := vSlice_lo (P := (xS kk).P) (e := 55) (by kernel_rfl) (by kernel_rfl) (fun x => (by kernel_rfl : (threeV x).length = szOf (xS kk).P 55))
theorem xsb43 (kk : Nat) (wl : Nat) (c : Bool) (l : List (Int × Int × Int)) (k k2 : IntKind) (lo n : Int) (H : Hp) : vSlice (xS kk).P wl c 43 (.ro (l.map threeV)) (some (.lit (.int k lo))) (some (.lit (.int k2 n))) none H = bif decide (0 ≤ lo ∧ lo ≤ n ∧ n ≤ l.length) then some (.ro (((l.take n.toNat).drop lo.toNat).map threeV), H) else none := vSlice_both (P := (xS kk).P) (e := 55) (by kernel_rfl) (by kernel_rfl) (fun x => (by kernel_rfl : (threeV x).length = szOf (xS kk).P 55))
theorem xmk23 (kk : Nat) (n : Int) (H : Hp) : vMakeSlice (xS kk).P 23 (.lit (.int .i64 n)) (.lit (.int .i64 n)) H = bif decide (0 ≤ n ∧ n ≤ 9223372036854775807 ∧ n * 8 ≤ 70368744177664) then some (.own H.length 0 n.toNat, H ++ [.rows 1 (List.replicate n.toNat [(V.lit (Value.int .i64 (0)))]) 0 true]) else none := vMakeSlice_eq (P := (xS kk).P) (t := 23) (e := 3) (z := ((zeroOf (xS kk).P 3).getD default)) (by kernel_rfl) (by kernel_rfl) (by kernel_rfl) (by kernel_rfl)
theorem xmk87 (kk : Nat) (n : Int) (H : Hp) : vMakeSlice (xS kk).P 87 (.lit (.int .i64 n)) (.lit (.int .i64 n)) H = bif decide (0 ≤ n ∧ n ≤ 9223372036854775807 ∧ n * 1 ≤ 70368744177664) then some (.own H.length 0 n.toNat, H ++ [.rows 1 (List.replicate n.toNat [(V.lit (Value.bool false))]) 0 true]) else none := vMakeSlice_eq (P := (xS kk).P) (t := 87) (e := 4) (z := ((zeroOf (xS kk).P 4).getD default)) (by kernel_rfl) (by kernel_rfl) (by kernel_rfl) (by kernel_rfl)
theorem xbo4 (kk : Nat) : isBoolT (xS kk).P 4 = true := by kernel_rfl
end Go.Ab
