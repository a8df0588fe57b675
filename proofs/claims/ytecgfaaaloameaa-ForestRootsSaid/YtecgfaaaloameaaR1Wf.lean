/- What is known of typed arguments. -/
import Derived.Test.YtecgfaaaloameaaR1ForP
namespace Go.Ab
theorem maxLen_le : maxLen ≤ 9223372036854775807 := by decide
theorem wt_of {l : List (Int × List Int)} (hm : l.length ≤ maxLen) (h : ∀ x ∈ l, i64 x.1 ∧ (∀ n ∈ x.2, i64 n) ∧ x.2.length ≤ maxLen) : Wt l :=
  ⟨Nat.le_trans hm maxLen_le, fun x hx => Nat.le_trans (h x hx).2.2 maxLen_le⟩
end Go.Ab
