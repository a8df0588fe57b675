import Derived.Test.YtecgfaaaloameaaR1Seat
set_option maxRecDepth 100000
namespace Go.Ab
open Go.Proofs
theorem awk04' (j : Nat) : xC (j + 60) none 51 [] = some (.lit (.bool true), []) := by kernel_rfl
theorem awk21' (j : Nat) : xC (j + 60) none 23 [] = some (.lit (.bool true), []) := by kernel_rfl
theorem awk17' (j : Nat) : xC (j + 60) none 37 [] = some (.lit (.bool true), []) := by kernel_rfl
theorem awk04 (k : Nat) (hk : 60 ≤ k) : xC k none 51 [] = some (.lit (.bool true), []) := by
  obtain ⟨j, rfl⟩ : ∃ j, k = j + 60 := ⟨k - 60, by omega⟩
  exact awk04' j
theorem awk21 (k : Nat) (hk : 60 ≤ k) : xC k none 23 [] = some (.lit (.bool true), []) := by
  obtain ⟨j, rfl⟩ : ∃ j, k = j + 60 := ⟨k - 60, by omega⟩
  exact awk21' j
theorem awk17 (k : Nat) (hk : 60 ≤ k) : xC k none 37 [] = some (.lit (.bool true), []) := by
  obtain ⟨j, rfl⟩ : ∃ j, k = j + 60 := ⟨k - 60, by omega⟩
  exact awk17' j
end Go.Ab
