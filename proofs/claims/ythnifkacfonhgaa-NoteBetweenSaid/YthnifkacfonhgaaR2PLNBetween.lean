/- NoteBetween: the law's word. -/
import Derived.Test.YthnifkacfonhgaaR2GL13
import Derived.Test.YthnifkacfonhgaaR2PNA
set_option linter.unusedVariables false
namespace Go.Ab
theorem ep_pack (E M : Int) : epB (packB E M) = E % 281474976710656 := by unfold epB packB; omega
theorem between_half (k : Nat) (hk : 2000 ≤ k) {c : CF} {m : List Int} (hm : Wm m) (hl : m.length ≤ 1000) {op w : Int} (hop : op = 6 ∨ op = 7) (hg : ngoesB c m (op, 0, 0, 0, 0, 0, 0) = true) (h0 : 0 ≤ w) (h1 : w < c.1) :
    (ob (g_frame_Begin 5 w 0) fun x46 => ob (g_wait_Step c m x46) fun x47 => ob (g_poacherlaw15_alone (k + 43) c x47.1 (op, 0, 0, 0, 0, 0, 0)) fun x48 => ob (g_wait_Step c x48.1 x47.2) fun x49 => ob (g_frame_Over x48.2) fun x50 => bif x50 then some (x49.2.2.2.2.2.2.2 == (4 : Int)) else some false) = some true := by
  unfold ngoesB at hg
  rw [Bool.and_eq_true, Bool.and_eq_true, Bool.and_eq_true, decide_eq_true_eq, decide_eq_true_eq, decide_eq_true_eq] at hg
  obtain ⟨⟨⟨_, hmay⟩, hlen⟩, _⟩ := hg
  have ok : OkB c m w := ⟨hmay, hlen, h0, h1⟩
  have hr := load_rng hm 2
  have he := ep_rng hr.1 hr.2
  obtain ⟨m', f', a1, a2, a3, a4, a5, _, _⟩ := alone_law hm hmay hlen hop
  have ok' : OkB c m' w := ⟨hmay, by rw [a3]; exact hlen, h0, h1⟩
  rw [begin_u, ob_some, c_WStep c hm hl wf0, ob_some, wait0 ok]
  simp only []
  rw [c_alone (by omega) c hm hl wf0, ob_some, a1]
  simp only []
  rw [c_WStep c a2 (by omega) ⟨by simp, hr, by simp⟩, ob_some, wait1 ok', if_neg, c_Over, ob_some, a5]
  · rfl
  · rw [a4]
    split
    · unfold bumpB; rw [ep_pack]; omega
    · unfold wipeB; rw [ep_pack]; omega
theorem pure_NBetween (k : Nat) (hk : 2000 ≤ k) (c : CF) {m : List Int} (hm : Wm m) (all : Bool) (w : Int) : g_poacherlaw15_NoteBetween k c m all w = some true := by
  rw [g_poacherlaw15_NoteBetween]
  cases all with
  | true =>
    rw [cond_true, begin_u, ob_some]
    by_cases hl : (500 : Int) < m.length
    · rw [ltT hl]; rfl
    · rw [ltF (by omega), cond_false]
      simp only [Prod.eta]
      rw [c_NGoes, ob_some]
      cases hg : ngoesB c m (7, 0, 0, 0, 0, 0, 0) with
      | false => rfl
      | true =>
        rw [Bool.not_true, cond_false]
        by_cases h1 : w < 0
        · rw [ltT h1]; rfl
        · rw [ltF (by omega), cond_false]
          by_cases h2 : c.1 ≤ w
          · rw [leT h2]; rfl
          · rw [leF (by omega), cond_false]
            exact between_half k hk hm (by omega) (.inr rfl) hg (by omega) (by omega)
  | false =>
    rw [cond_false, begin_u, ob_some]
    by_cases hl : (500 : Int) < m.length
    · rw [ltT hl]; rfl
    · rw [ltF (by omega), cond_false]
      simp only [Prod.eta]
      rw [c_NGoes, ob_some]
      cases hg : ngoesB c m (6, 0, 0, 0, 0, 0, 0) with
      | false => rfl
      | true =>
        rw [Bool.not_true, cond_false]
        by_cases h1 : w < 0
        · rw [ltT h1]; rfl
        · rw [ltF (by omega), cond_false]
          by_cases h2 : c.1 ≤ w
          · rw [leT h2]; rfl
          · rw [leF (by omega), cond_false]
            exact between_half k hk hm (by omega) (.inl rfl) hg (by omega) (by omega)
theorem law_NBetween (k : Nat) (hk : 9223372036854779900 < k) (c : CF) (hc : confOk c) (m : List Int) (hm : Wm m) (all : Bool) (w : Int) (hw : i64 w) : xC k none 13 [.agg (confV c), .ro (m.map (intR .u64)), .lit (.bool all), .lit (.int .i64 w)] = some (.lit (.bool true), []) := by
  obtain ⟨j, rfl⟩ : ∃ j, k = j + 61 := ⟨k - 61, by omega⟩
  obtain ⟨W, D, I, S⟩ := c
  rw [confV, h_poacherlaw15_NoteBetween, pure_NBetween j (by omega) _ hm all w]
  rfl
end Go.Ab
