/- bits.Mul of one and a small number. -/
import Derived.Test.YthnifkacfonhgaaProg
import Derived.WalkKit
set_option linter.unusedVariables false
set_option linter.unusedSimpArgs false
set_option linter.unusedVariables false
namespace Go.Ab
open Go.Proofs Go.RowKit
set_option maxRecDepth 100000 in
set_option maxHeartbeats 1000000 in
theorem mul64_walk (w : World) (c : Nat) (h1 : 1 ≤ c) (h8 : c ≤ 8) :
    Calls Try.prog 102 #[.int .u64 1, .int .u64 (c : Int)] w fun e w' => e = .returned (.tuple #[.int .u64 0, .int .u64 (c : Int)]) ∧ w' = w := by
  rcases (show c = 1 ∨ c = 2 ∨ c = 3 ∨ c = 4 ∨ c = 5 ∨ c = 6 ∨ c = 7 ∨ c = 8 by omega) with rfl | rfl | rfl | rfl | rfl | rfl | rfl | rfl
  all_goals
    go_enter Try.func102, Try.ntmps102
    go_wp2
    go_ret2
    exact ⟨rfl, rfl⟩
set_option maxRecDepth 100000 in
set_option maxHeartbeats 1000000 in
theorem mul_walk (w : World) (c : Nat) (h1 : 1 ≤ c) (h8 : c ≤ 8) :
    Calls Try.prog 99 #[.int .u64 1, .int .u64 (c : Int)] w fun e w' => e = .returned (.tuple #[.int .u64 0, .int .u64 (c : Int)]) ∧ w' = w := by
  have c64 := mul64_walk w c h1 h8
  go_enter Try.func99, Try.ntmps99
  go_wp2_with (go_at_call 102; refine c64.mono ?_; rintro e w' ⟨rfl, hw⟩; rw [hw])
  go_ret2
  exact ⟨rfl, rfl⟩
end Go.Ab
