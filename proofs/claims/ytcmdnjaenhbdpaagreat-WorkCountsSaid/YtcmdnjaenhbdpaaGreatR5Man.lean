/- Copies of slices. -/
import Derived.Test.YtcmdnjaenhbdpaaGreatR5Run
import Derived.Test.YtcmdnjaenhbdpaaGreatR5Facts
set_option linter.unusedVariables false
set_option linter.unusedSimpArgs false
namespace Go.Ab
open Go.Proofs
theorem xclone20 (k : Nat) (l : List Int) : evF Tryz.prog xM (k + 1) 0 20 [.ro (l.map (intR .u64))] [] = ob (g_clone 8 l) fun r => some (.own 1 1 r.length, [.rows 0 [] 0 true, .rows 1 (r.map (intR .u64)) 1 true]) := by
  have h : evF Tryz.prog xM (k + 1) 0 20 [.ro (l.map (intR .u64))] [] = cloneO Tryz.prog 26 [.ro (l.map (intR .u64))] [] := by kernel_rfl
  rw [h]
  exact cloneO_run (P := Tryz.prog) (t := 26) (e := 28) (sz := 1) (bytes := 8) (enc := (intR .u64)) (by kernel_rfl) ⟨(zeroOf Tryz.prog 28).getD default, by kernel_rfl, by kernel_rfl, by kernel_rfl⟩ (by kernel_rfl) (by kernel_rfl) (by kernel_rfl) (fun _ => rfl) l
theorem xcl20 (k : Nat) (l : List Int) : xC (k + 1) none 20 [.ro (List.map (intR .u64) l)] = ob (g_clone 8 l) fun r => some (.ro (List.map (intR .u64) r), []) := by
  rw [xC_eq, xclone20]
  exact clone_noneR (fun _ => rfl) l 1
theorem xclk20 (k : Nat) (l : List Int) : xC (k + 1) (some fun _ => true) 20 [.ro (List.map (intR .u64) l)] = ob (g_clone 8 l) fun r => some (.own 0 0 r.length, [.rows 1 (List.map (intR .u64) r) 0 true]) := by
  rw [xC_eq, xclone20]
  exact clone_keepR (fun _ => rfl) l 1
theorem xclone21 (k : Nat) (l : List (Int × Int × Int)) : evF Tryz.prog xM (k + 1) 0 21 [.ro (l.map threeV)] [] = ob (g_clone 24 l) fun r => some (.own 1 1 r.length, [.rows 0 [] 0 true, .rows 3 (r.map threeV) 1 true]) := by
  have h : evF Tryz.prog xM (k + 1) 0 21 [.ro (l.map threeV)] [] = cloneO Tryz.prog 27 [.ro (l.map threeV)] [] := by kernel_rfl
  rw [h]
  exact cloneO_run (P := Tryz.prog) (t := 27) (e := 57) (sz := 3) (bytes := 24) (enc := threeV) (by kernel_rfl) ⟨(zeroOf Tryz.prog 57).getD default, by kernel_rfl, by kernel_rfl, by kernel_rfl⟩ (by kernel_rfl) (by kernel_rfl) (by kernel_rfl) (fun _ => rfl) l
theorem xcl21 (k : Nat) (l : List (Int × Int × Int)) : xC (k + 1) none 21 [.ro (List.map threeV l)] = ob (g_clone 24 l) fun r => some (.ro (List.map threeV r), []) := by
  rw [xC_eq, xclone21]
  exact clone_noneR (fun _ => rfl) l 3
theorem xclk21 (k : Nat) (l : List (Int × Int × Int)) : xC (k + 1) (some fun _ => true) 21 [.ro (List.map threeV l)] = ob (g_clone 24 l) fun r => some (.own 0 0 r.length, [.rows 3 (List.map threeV r) 0 true]) := by
  rw [xC_eq, xclone21]
  exact clone_keepR (fun _ => rfl) l 3
def xQ0 := PLift.up (And.intro (And.intro (And.intro (And.intro @xF @xcallV) (And.intro @xcallC @xcallL)) (And.intro (And.intro @xcallY @xevY) (And.intro @xY_ready @xrange))) (And.intro (And.intro (And.intro @xG_fn @xR.eq_1) (And.intro @xA.eq_1 @xcl20)) (And.intro (And.intro @xclk20 @xcl21) @xclk21)))
theorem xQ : type_of% xQ0.down := xQ0.down
end Go.Ab
