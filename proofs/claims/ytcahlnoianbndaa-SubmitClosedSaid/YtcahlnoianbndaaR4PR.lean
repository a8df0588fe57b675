/- Who submits: what is compared. -/
import Derived.Test.YtcahlnoianbndaaR4PSub
import Derived.Test.YtcahlnoianbndaaR4GR
set_option linter.unusedVariables false
set_option linter.unusedSimpArgs false
set_option linter.unusedVariables false
namespace Go.Ab
theorem c_SameM {m : List Int} (hl : m.length ≤ 1000) (k : Nat) (hk : 1001 ≤ k) (b : List Int) : g_cell_Same k m b = some (decide (m = b)) := by
  unfold g_cell_Same
  by_cases hlen : m.length = b.length
  · refine scanE (F := fun n i => g_cell_Same_L0 k m b n i) hlen ?_ ?_ k (by omega)
    · intro n
      simp only [g_cell_Same_L0, lt_len, cond_false, lenEq, decide_eq_true hlen]
    · intro n i x y hi hx hy
      simp only [g_cell_Same_L0, ltN hi, cond_true, lenEq, decide_eq_true hlen, Bool.not_true, cond_false, idx_of hx, idx_of hy, ob_some]
      rw [bneI, wrapS (by omega)]
      cases decide (x = y) <;> rfl
  · have hne : m ≠ b := fun e => hlen (by rw [e])
    obtain ⟨k, rfl⟩ : ∃ j, k = j + 1 := ⟨k - 1, by omega⟩
    rw [decide_eq_false hne, g_cell_Same_L0]
    by_cases h0 : (0 : Int) < m.length
    · rw [ltT h0, cond_true, lenEq, decide_eq_false hlen, Bool.not_false, cond_true]
    · rw [ltF (by omega), cond_false, lenEq, decide_eq_false hlen]
theorem c_EvsSame (k : Nat) (hk : 4 ≤ k) {l : List EV} (hl : l.length ≤ 2) : g_poacherref18_Evs k l l = some true := by
  unfold g_poacherref18_Evs
  obtain ⟨k, rfl⟩ : ∃ j, k = j + 4 := ⟨k - 4, by omega⟩
  match l, hl with
  | [], _ => rfl
  | [e], _ =>
    have h0 : idx [e] 0 = some e := rfl
    simp [g_poacherref18_Evs_L0, h0, ob_some, wrapS, IntKind.wrap, IntKind.bits, IntKind.signed]
  | [e, f], _ =>
    have h0 : idx [e, f] 0 = some e := rfl
    have h1 : idx [e, f] 1 = some f := rfl
    simp [g_poacherref18_Evs_L0, h0, h1, ob_some, wrapS, IntKind.wrap, IntKind.bits, IntKind.signed]
theorem c_SSame (k : Nat) (hk : 9223372036854775808 ≤ k) (x : SB) (h : x.2.1.length ≤ 1000) : g_submit_Same k x x = some true := by
  unfold g_submit_Same
  simp [c_Equal k hk x.2.1 x.2.1 (by omega), ob_some]
theorem sub_one (c : CF) (t : List (Int × List Int)) (m : List Int) (i : Int) (x : SB) : One m (subB c t m i x).1 := by
  unfold subB
  dsimp only
  repeat' split
  all_goals first | exact One.same m | exact One.store m _ _ | (dsimp only; exact One.store m _ _) | exact call_one c m _
theorem sub_len (c : CF) (t : List (Int × List Int)) (m : List Int) (i : Int) (x : SB) : (subB c t m i x).1.length = m.length := (sub_one c t m i x).len
theorem sub_roots (c : CF) (t : List (Int × List Int)) (m : List Int) (i : Int) (x : SB) : (subB c t m i x).2.1.2.1 = x.2.1 ∨ (subB c t m i x).2.1.2.1 = x.2.1.tail ∧ (subB c t m i x).2.1.1 = 0 := by
  unfold subB
  dsimp only
  repeat' split
  all_goals first | exact .inl rfl | exact .inr ⟨rfl, rfl⟩
theorem sub_evs (c : CF) (t : List (Int × List Int)) (m : List Int) (i : Int) (x : SB) : (subB c t m i x).2.2.length ≤ 2 := by
  unfold subB
  dsimp only
  repeat' split
  all_goals simp
theorem mayS_store {c : CF} {t : List (Int × List Int)} {m : List Int} {x : SB} (j v : Int) : maySB c t (storeM m j v) x = maySB c t m x := by
  unfold maySB
  rw [store_len]
theorem sub3c (c : CF) (t : List (Int × List Int)) (m : List Int) (i : Int) (x : SB) (v : Int) (h : x.1 ≠ 0) : subB c t (storeM m 3 v) i x = (storeM (subB c t m i x).1 3 v, (subB c t m i x).2) := by
  unfold subB
  rw [mayS_store, load3 (show (0 : Int) ≠ 3 by decide), load3 (show (1 : Int) ≠ 3 by decide), call3, if_neg h, if_neg h]
  dsimp only
  repeat' split
  all_goals first | rfl | (rw [store_comm (show (3 : Int) ≠ 0 by decide)])
end Go.Ab
