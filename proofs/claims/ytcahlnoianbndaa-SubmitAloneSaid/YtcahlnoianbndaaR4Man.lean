/- Copies of slices. -/
import Derived.Test.YtcahlnoianbndaaR4Run
set_option linter.unusedVariables false
set_option linter.unusedSimpArgs false
namespace Go.Ab
open Go.Proofs
theorem xclone21 (k : Nat) (l : List Int) : evF Try.prog xM (k + 1) 0 21 [.ro (l.map (intR .u64))] [] = ob (g_clone 8 l) fun r => some (.own 1 1 r.length, [.rows 0 [] 0 true, .rows 1 (r.map (intR .u64)) 1 true]) := by
  have h : evF Try.prog xM (k + 1) 0 21 [.ro (l.map (intR .u64))] [] = cloneO Try.prog 26 [.ro (l.map (intR .u64))] [] := by kernel_rfl
  rw [h]
  exact cloneO_run (P := Try.prog) (t := 26) (e := 28) (sz := 1) (bytes := 8) (enc := (intR .u64)) (by kernel_rfl) ⟨(zeroOf Try.prog 28).getD default, by kernel_rfl, by kernel_rfl, by kernel_rfl⟩ (by kernel_rfl) (by kernel_rfl) (by kernel_rfl) (fun _ => rfl) l
theorem xcl21 (k : Nat) (l : List Int) : xC (k + 1) none 21 [.ro (List.map (intR .u64) l)] = ob (g_clone 8 l) fun r => some (.ro (List.map (intR .u64) r), []) := by
  rw [xC_eq, xclone21]
  exact clone_noneR (fun _ => rfl) l 1
theorem xclk21 (k : Nat) (l : List Int) : xC (k + 1) (some fun _ => true) 21 [.ro (List.map (intR .u64) l)] = ob (g_clone 8 l) fun r => some (.own 0 0 r.length, [.rows 1 (List.map (intR .u64) r) 0 true]) := by
  rw [xC_eq, xclone21]
  exact clone_keepR (fun _ => rfl) l 1
theorem xclone22 (k : Nat) (l : List Int) : evF Try.prog xM (k + 1) 0 22 [.ro (l.map (intR .i64))] [] = ob (g_clone 8 l) fun r => some (.own 1 1 r.length, [.rows 0 [] 0 true, .rows 1 (r.map (intR .i64)) 1 true]) := by
  have h : evF Try.prog xM (k + 1) 0 22 [.ro (l.map (intR .i64))] [] = cloneO Try.prog 27 [.ro (l.map (intR .i64))] [] := by kernel_rfl
  rw [h]
  exact cloneO_run (P := Try.prog) (t := 27) (e := 3) (sz := 1) (bytes := 8) (enc := (intR .i64)) (by kernel_rfl) ⟨(zeroOf Try.prog 3).getD default, by kernel_rfl, by kernel_rfl, by kernel_rfl⟩ (by kernel_rfl) (by kernel_rfl) (by kernel_rfl) (fun _ => rfl) l
theorem xcl22 (k : Nat) (l : List Int) : xC (k + 1) none 22 [.ro (List.map (intR .i64) l)] = ob (g_clone 8 l) fun r => some (.ro (List.map (intR .i64) r), []) := by
  rw [xC_eq, xclone22]
  exact clone_noneR (fun _ => rfl) l 1
theorem xclk22 (k : Nat) (l : List Int) : xC (k + 1) (some fun _ => true) 22 [.ro (List.map (intR .i64) l)] = ob (g_clone 8 l) fun r => some (.own 0 0 r.length, [.rows 1 (List.map (intR .i64) r) 0 true]) := by
  rw [xC_eq, xclone22]
  exact clone_keepR (fun _ => rfl) l 1
end Go.Ab
