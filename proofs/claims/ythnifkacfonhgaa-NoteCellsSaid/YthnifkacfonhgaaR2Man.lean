/- Copies of slices. -/
import Derived.Test.YthnifkacfonhgaaR2Run
namespace Go.Ab
open Go.Proofs
theorem xclone50 (k : Nat) (l : List Int) : evF Try.prog xM (k + 1) 0 50 [.ro (l.map (intR .u64))] [] = ob (g_clone 8 l) fun r => some (.own 1 1 r.length, [.rows 0 [] 0 true, .rows 1 (r.map (intR .u64)) 1 true]) := by
  have h : evF Try.prog xM (k + 1) 0 50 [.ro (l.map (intR .u64))] [] = cloneO Try.prog 25 [.ro (l.map (intR .u64))] [] := by kernel_rfl
  rw [h]
  exact cloneO_run (P := Try.prog) (t := 25) (e := 26) (sz := 1) (bytes := 8) (enc := (intR .u64)) (by kernel_rfl) ⟨(zeroOf Try.prog 26).getD default, by kernel_rfl, by kernel_rfl, by kernel_rfl⟩ (by kernel_rfl) (by kernel_rfl) (by kernel_rfl) (fun _ => rfl) l
theorem xcl50 (k : Nat) (l : List Int) : xC (k + 1) none 50 [.ro (List.map (intR .u64) l)] = ob (g_clone 8 l) fun r => some (.ro (List.map (intR .u64) r), []) := by
  rw [xC_eq, xclone50]
  exact clone_noneR (fun _ => rfl) l 1
theorem xclk50 (k : Nat) (l : List Int) : xC (k + 1) (some fun _ => true) 50 [.ro (List.map (intR .u64) l)] = ob (g_clone 8 l) fun r => some (.own 0 0 r.length, [.rows 1 (List.map (intR .u64) r) 0 true]) := by
  rw [xC_eq, xclone50]
  exact clone_keepR (fun _ => rfl) l 1
theorem xclone83 (k : Nat) (l : List (List Int)) : evF Try.prog xM (k + 1) 0 83 [.ro (l.map listV)] [] = ob (g_clone 24 l) fun r => some (.own 1 1 r.length, [.rows 0 [] 0 true, .rows 1 (r.map listV) 1 true]) := by
  have h : evF Try.prog xM (k + 1) 0 83 [.ro (l.map listV)] [] = cloneO Try.prog 50 [.ro (l.map listV)] [] := by kernel_rfl
  rw [h]
  exact cloneO_run (P := Try.prog) (t := 50) (e := 51) (sz := 1) (bytes := 24) (enc := listV) (by kernel_rfl) ⟨(zeroOf Try.prog 51).getD default, by kernel_rfl, by kernel_rfl, by kernel_rfl⟩ (by kernel_rfl) (by kernel_rfl) (by kernel_rfl) (fun _ => rfl) l
theorem xcl83 (k : Nat) (l : List (List Int)) : xC (k + 1) none 83 [.ro (List.map listV l)] = ob (g_clone 24 l) fun r => some (.ro (List.map listV r), []) := by
  rw [xC_eq, xclone83]
  exact clone_noneR pure_listV l 1
theorem xclk83 (k : Nat) (l : List (List Int)) : xC (k + 1) (some fun _ => true) 83 [.ro (List.map listV l)] = ob (g_clone 24 l) fun r => some (.own 0 0 r.length, [.rows 1 (List.map listV r) 0 true]) := by
  rw [xC_eq, xclone83]
  exact clone_keepR pure_listV l 1
end Go.Ab
