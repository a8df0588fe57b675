/- Copies of slices. -/
import Derived.Test.YthnifkacfonhgaaR2Run
set_option linter.unusedVariables false
set_option linter.unusedSimpArgs false
namespace Go.Ab
open Go.Proofs
theorem xclone50 (k : Nat) (l : List Int) : evF Try.prog xM (k + 1) 0 50 [.ro (l.map (intR .u64))] [] = ob (g_clone 8 l) fun r => some (.own 1 1 r.length, [.rows 0 [] 0 true, .rows 1 (r.map (intR .u64)) 1 true]) := by
  have h : evF Try.prog xM (k + 1) 0 50 [.ro (l.map (intR .u64))] [] = cloneO Try.prog 25 [.ro (l.map (intR .u64))] [] := by kernel_rfl
  rw [h]
  exact cloneO_run (P := Try.prog) (t := 25) (e := 26) (sz := 1) (bytes := 8) (enc := (intR .u64)) (by kernel_rfl) ⟨(zeroOf Try.prog 26).getD default, by kernel_rfl, by kernel_rfl, by kernel_rfl⟩ (by kernel_rfl) (by kernel_rfl) (by kernel_rfl) (fun _ => rfl) l
theorem xcl50 (k : Nat) (l : List Int) : xC (k + 1) none 50 [.ro (List.map (intR .u64) l)] = ob (g_clone 8 l) fun r => some (.ro (List.map (intR .u64) r), []) := by
  rw [xC_eq, xclone50]
  exact clone_noneR (fun _ => rfl) l 1
theorem xclk50 (k : Nat) (l : List Int) : xC (k + 1) (some fun _ => true) 50 [.ro (List.map (intR .u64) l)] = ob (g_clone 8 l) fun r => some (.own 0 0 r.length, [.rows 1 (List.map (intR .u64) r) 0 true]) := by
  rw [xC_eq, xclone50]
  exact clone_keepR (fun _ => rfl) l 1
theorem xclone83 (k : Nat) (l : List (List Int)) : evF Try.prog xM (k + 1) 0 83 [.ro (l.map listV)] [] = ob (g_clone 24 l) fun r => some (.own 1 1 r.length, [.rows 0 [] 0 true, .rows 1 (r.map listV) 1 true]) := by
  have h : evF Try.prog xM (k + 1) 0 83 [.ro (l.map listV)] [] = cloneO Try.prog 50 [.ro (l.map listV)] [] := by kernel_rfl
  rw [h]
  exact cloneO_run (P := Try.prog) (t := 50) (e := 51) (sz := 1) (bytes := 24) (enc := listV) (by kernel_rfl) ⟨(zeroOf Try.prog 51).getD default, by kernel_rfl, by kernel_rfl, by kernel_rfl⟩ (by kernel_rfl) (by kernel_rfl) (by kernel_rfl) (fun _ => rfl) l
theorem xcl83 (k : Nat) (l : List (List Int)) : xC (k + 1) none 83 [.ro (List.map listV l)] = ob (g_clone 24 l) fun r => some (.ro (List.map listV r), []) := by
  rw [xC_eq, xclone83]
  exact clone_noneR pure_listV l 1
theorem xclk83 (k : Nat) (l : List (List Int)) : xC (k + 1) (some fun _ => true) 83 [.ro (List.map listV l)] = ob (g_clone 24 l) fun r => some (.own 0 0 r.length, [.rows 1 (List.map listV r) 0 true]) := by
  rw [xC_eq, xclone83]
  exact clone_keepR pure_listV l 1
def g_rep (f : Int × Int × Int × Int × Int × Int × Int) (n : Int) : Option (List (Int × Int × Int × Int × Int × Int × Int)) := if 1 ≤ n ∧ n ≤ 8 then some (List.replicate n.toNat f) else none
theorem xrp84 (k : Nat) (a b c d e f g n : Int) : xC (k + 1) (some fun _ => true) 84 [.ro [[.lit (.int .i64 a), .lit (.int .i64 b), .lit (.int .i64 c), .lit (.int .u64 d), .lit (.int .u64 e), .lit (.int .u64 f), .lit (.int .i64 g)]], .lit (.int .i64 n)] =
    ob (g_rep (a, b, c, d, e, f, g) n) fun r => some (.own 0 0 r.length, [.rows 7 (List.map frameV r) 0 true]) := by
  rw [xC_eq]
  have h : evF Try.prog xM (k + 1) 0 84 [.ro [[.lit (.int .i64 a), .lit (.int .i64 b), .lit (.int .i64 c), .lit (.int .u64 d), .lit (.int .u64 e), .lit (.int .u64 f), .lit (.int .i64 g)]], .lit (.int .i64 n)] [] =
      repO [.ro [[.lit (.int .i64 a), .lit (.int .i64 b), .lit (.int .i64 c), .lit (.int .u64 d), .lit (.int .u64 e), .lit (.int .u64 f), .lit (.int .i64 g)]], .lit (.int .i64 n)] [] := by kernel_rfl
  rw [h]
  unfold repO g_rep
  by_cases hc : 1 ≤ n ∧ n ≤ 8
  · have h1 : Nat.ble 1 n.toNat = true := Nat.ble_eq_true_of_le (by omega)
    have h2 : Nat.ble n.toNat 8 = true := Nat.ble_eq_true_of_le (by omega)
    have h3 : pureR (List.replicate n.toNat [V.lit (.int .i64 a), .lit (.int .i64 b), .lit (.int .i64 c), .lit (.int .u64 d), .lit (.int .u64 e), .lit (.int .u64 f), .lit (.int .i64 g)]) = true := by
      rw [pureR, List.all_eq_true]
      intro y hy
      rw [(List.mem_replicate.1 hy).2]
      rfl
    simp [rowsOf, okRows, hc, h1, h2, rt_some, retV, homeA, homeC, h3, ob, List.map_replicate, frameV, intR]
  · have h1 : (Nat.ble 1 n.toNat && Nat.ble n.toNat 8) = false := by
      cases e : (Nat.ble 1 n.toNat && Nat.ble n.toNat 8) with
      | false => rfl
      | true =>
        simp only [Bool.and_eq_true] at e
        have := Nat.le_of_ble_eq_true e.1
        have := Nat.le_of_ble_eq_true e.2
        omega
    simp [rowsOf, okRows, hc, h1, rt, ob]
theorem xrq84 (k : Nat) (f : Int × Int × Int × Int × Int × Int × Int) (n : Int) : xC (k + 1) (some fun _ => true) 84 [.ro (List.map frameV [f]), .lit (.int .i64 n)] = ob (g_rep f n) fun r => some (.own 0 0 r.length, [.rows 7 (List.map frameV r) 0 true]) :=
  xrp84 k f.1 f.2.1 f.2.2.1 f.2.2.2.1 f.2.2.2.2.1 f.2.2.2.2.2.1 f.2.2.2.2.2.2 n
end Go.Ab
