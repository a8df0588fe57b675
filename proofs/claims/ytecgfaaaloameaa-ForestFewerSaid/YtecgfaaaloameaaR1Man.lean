/- Copies of slices. -/
import Derived.Test.YtecgfaaaloameaaR1Run
namespace Go.Ab
open Go.Proofs
theorem xclone62 (k : Nat) (l : List Int) : evF Try.prog xM (k + 1) 0 62 [.ro (l.map (intR .i64))] [] = ob (g_clone 8 l) fun r => some (.own 1 1 r.length, [.rows 0 [] 0 true, .rows 1 (r.map (intR .i64)) 1 true]) := by
  have h : evF Try.prog xM (k + 1) 0 62 [.ro (l.map (intR .i64))] [] = cloneO Try.prog 23 [.ro (l.map (intR .i64))] [] := by kernel_rfl
  rw [h]
  exact cloneO_run (P := Try.prog) (t := 23) (e := 3) (sz := 1) (bytes := 8) (enc := (intR .i64)) (by kernel_rfl) ⟨(zeroOf Try.prog 3).getD default, by kernel_rfl, by kernel_rfl, by kernel_rfl⟩ (by kernel_rfl) (by kernel_rfl) (by kernel_rfl) (fun _ => rfl) l
theorem xcl62 (k : Nat) (l : List Int) : xC (k + 1) none 62 [.ro (List.map (intR .i64) l)] = ob (g_clone 8 l) fun r => some (.ro (List.map (intR .i64) r), []) := by
  rw [xC_eq, xclone62]
  exact clone_noneR (fun _ => rfl) l 1
theorem xclk62 (k : Nat) (l : List Int) : xC (k + 1) (some fun _ => true) 62 [.ro (List.map (intR .i64) l)] = ob (g_clone 8 l) fun r => some (.own 0 0 r.length, [.rows 1 (List.map (intR .i64) r) 0 true]) := by
  rw [xC_eq, xclone62]
  exact clone_keepR (fun _ => rfl) l 1
theorem xclone71 (k : Nat) (l : List (Int × Int × Int)) : evF Try.prog xM (k + 1) 0 71 [.ro (l.map threeV)] [] = ob (g_clone 24 l) fun r => some (.own 1 1 r.length, [.rows 0 [] 0 true, .rows 3 (r.map threeV) 1 true]) := by
  have h : evF Try.prog xM (k + 1) 0 71 [.ro (l.map threeV)] [] = cloneO Try.prog 43 [.ro (l.map threeV)] [] := by kernel_rfl
  rw [h]
  exact cloneO_run (P := Try.prog) (t := 43) (e := 55) (sz := 3) (bytes := 24) (enc := threeV) (by kernel_rfl) ⟨(zeroOf Try.prog 55).getD default, by kernel_rfl, by kernel_rfl, by kernel_rfl⟩ (by kernel_rfl) (by kernel_rfl) (by kernel_rfl) (fun _ => rfl) l
theorem xcl71 (k : Nat) (l : List (Int × Int × Int)) : xC (k + 1) none 71 [.ro (List.map threeV l)] = ob (g_clone 24 l) fun r => some (.ro (List.map threeV r), []) := by
  rw [xC_eq, xclone71]
  exact clone_noneR (fun _ => rfl) l 3
theorem xclk71 (k : Nat) (l : List (Int × Int × Int)) : xC (k + 1) (some fun _ => true) 71 [.ro (List.map threeV l)] = ob (g_clone 24 l) fun r => some (.own 0 0 r.length, [.rows 3 (List.map threeV r) 0 true]) := by
  rw [xC_eq, xclone71]
  exact clone_keepR (fun _ => rfl) l 3
end Go.Ab
