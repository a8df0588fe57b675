/- Who submits: what is compared. -/
import Derived.Test.YtcahlnoianbndaaR4PSub
import Derived.Test.YtcahlnoianbndaaR4GR
set_option linter.unusedVariables false
set_option linter.unusedSimpArgs false
set_option linter.unusedVariables false
namespace Go.Ab
theorem c_SSame (k : Nat) (hk : 9223372036854775808 ≤ k) (x : SB) (h : x.2.1.length ≤ 1000) : g_submit_Same k x x = some true := by
  unfold g_submit_Same
  simp [c_Equal k hk x.2.1 x.2.1 (by omega), ob_some]
theorem sub_one (c : CF) (t : List (Int × List Int)) (m : List Int) (i : Int) (x : SB) : One m (subB c t m i x).1 := by
  unfold subB
  dsimp only
  repeat' split
  all_goals first | exact One.same m | exact One.store m _ _ | (dsimp only; exact One.store m _ _) | exact call_one c m _
theorem sub_len (c : CF) (t : List (Int × List Int)) (m : List Int) (i : Int) (x : SB) : (subB c t m i x).1.length = m.length := (sub_one c t m i x).len
theorem sub_evs (c : CF) (t : List (Int × List Int)) (m : List Int) (i : Int) (x : SB) : (subB c t m i x).2.2.length ≤ 2 := by
  unfold subB
  dsimp only
  repeat' split
  all_goals simp
end Go.Ab
