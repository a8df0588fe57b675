/- What a worker's step counts. -/
import Derived.Test.YtcmdnjaenhbdpaaGreatR5PWk3
set_option linter.unusedVariables false
set_option linter.unusedSimpArgs false
set_option linter.unusedVariables false
namespace Go.Ab
section
variable {c : CF} {m : List Int} {f : FR} {j : Int} (hj : 0 ≤ j ∧ j < 2)
include hj
theorem onW_ne {w x : Int} (hx : 0 ≤ x) : onW c w x ≠ j := by
  unfold onW
  split
  · rename_i h
    have hm := mayC_of h.1
    have := top_rng h.1 h.2.1 (by omega)
    omega
  · omega
theorem slot_ne {w x : Int} (h0 : 0 ≤ x) (h1 : x ≤ 18446744073709551615) : slotA c w x ≠ j := by
  unfold slotA onW
  split
  · rename_i h
    have hm := mayC_of h.1
    have := top_rng h.1 h.2.1 (by omega)
    have := and_rng h0 h1 (show 1 ≤ c.2.1 by omega) (by omega)
    omega
  · omega
theorem seq_ne (x : Int) : seqC c x ≠ j := by
  unfold seqC
  split
  · rename_i h
    have := mayC_of h
    have := Int.emod_nonneg x (show c.2.2.1 ≠ 0 by omega)
    omega
  · omega
theorem val_ne (x : Int) : valC c x ≠ j := by
  unfold valC
  split
  · rename_i h
    have := mayC_of h
    have := Int.emod_nonneg x (show c.2.2.1 ≠ 0 by omega)
    omega
  · omega
theorem prkC_ne (w : Int) : parkC c w ≠ j := by
  unfold parkC
  split
  · rename_i h
    have hm := mayC_of h.1
    have := top_rng h.1 h.2.1 (by omega)
    omega
  · omega
omit hj in
theorem ks {i v : Int} (h : i ≠ j) : loadM (storeM m i v) j = loadM m j := load_store_ne v h
omit hj in
theorem kc {i o v : Int} (h : i ≠ j) : loadM (casM m i o v).1 j = loadM m j := by
  unfold casM
  split
  · exact ks h
  · rfl
section
variable (hf : Wf f)
include hf
theorem push_keep : loadM (pushB c m f).1 j = loadM m j := by
  have w4 := hf.2.1
  have _h := hj
  unfold pushB
  try dsimp only
  repeat' split
  all_goals first | rfl | exact ks (seq_ne hj _) | exact ks (val_ne hj _) | exact ks (prkC_ne hj _) | exact ks (onW_ne hj (by decide)) | exact kc (onW_ne hj (by decide)) | exact ks (slot_ne hj w4.1 w4.2) | exact kc (show (2 : Int) ≠ j by omega) | exact kc (show (4 : Int) ≠ j by omega) | exact kc (show (5 : Int) ≠ j by omega) | exact ks (show (2 : Int) ≠ j by omega)
theorem pop_keep : loadM (popB c m f).1 j = loadM m j := by
  have w4 := hf.2.1
  have _h := hj
  unfold popB
  try dsimp only
  repeat' split
  all_goals first | rfl | exact ks (seq_ne hj _) | exact ks (val_ne hj _) | exact ks (prkC_ne hj _) | exact ks (onW_ne hj (by decide)) | exact kc (onW_ne hj (by decide)) | exact ks (slot_ne hj w4.1 w4.2) | exact kc (show (2 : Int) ≠ j by omega) | exact kc (show (4 : Int) ≠ j by omega) | exact kc (show (5 : Int) ≠ j by omega) | exact ks (show (2 : Int) ≠ j by omega)
theorem steal_keep : loadM (stealB c m f).1 j = loadM m j := by
  have w4 := hf.2.1
  have _h := hj
  unfold stealB
  try dsimp only
  repeat' split
  all_goals first | rfl | exact ks (seq_ne hj _) | exact ks (val_ne hj _) | exact ks (prkC_ne hj _) | exact ks (onW_ne hj (by decide)) | exact kc (onW_ne hj (by decide)) | exact ks (slot_ne hj w4.1 w4.2) | exact kc (show (2 : Int) ≠ j by omega) | exact kc (show (4 : Int) ≠ j by omega) | exact kc (show (5 : Int) ≠ j by omega) | exact ks (show (2 : Int) ≠ j by omega)
theorem enq_keep : loadM (enqB c m f).1 j = loadM m j := by
  have w4 := hf.2.1
  have _h := hj
  unfold enqB
  try dsimp only
  repeat' split
  all_goals first | rfl | exact ks (seq_ne hj _) | exact ks (val_ne hj _) | exact ks (prkC_ne hj _) | exact ks (onW_ne hj (by decide)) | exact kc (onW_ne hj (by decide)) | exact ks (slot_ne hj w4.1 w4.2) | exact kc (show (2 : Int) ≠ j by omega) | exact kc (show (4 : Int) ≠ j by omega) | exact kc (show (5 : Int) ≠ j by omega) | exact ks (show (2 : Int) ≠ j by omega)
theorem deq_keep : loadM (deqB c m f).1 j = loadM m j := by
  have w4 := hf.2.1
  have _h := hj
  unfold deqB
  try dsimp only
  repeat' split
  all_goals first | rfl | exact ks (seq_ne hj _) | exact ks (val_ne hj _) | exact ks (prkC_ne hj _) | exact ks (onW_ne hj (by decide)) | exact kc (onW_ne hj (by decide)) | exact ks (slot_ne hj w4.1 w4.2) | exact kc (show (2 : Int) ≠ j by omega) | exact kc (show (4 : Int) ≠ j by omega) | exact kc (show (5 : Int) ≠ j by omega) | exact ks (show (2 : Int) ≠ j by omega)
theorem wait_keep : loadM (waitB c m f).1 j = loadM m j := by
  have w4 := hf.2.1
  have _h := hj
  unfold waitB
  try dsimp only
  repeat' split
  all_goals first | rfl | exact ks (seq_ne hj _) | exact ks (val_ne hj _) | exact ks (prkC_ne hj _) | exact ks (onW_ne hj (by decide)) | exact kc (onW_ne hj (by decide)) | exact ks (slot_ne hj w4.1 w4.2) | exact kc (show (2 : Int) ≠ j by omega) | exact kc (show (4 : Int) ≠ j by omega) | exact kc (show (5 : Int) ≠ j by omega) | exact ks (show (2 : Int) ≠ j by omega)
theorem note_keep : loadM (noteB c m f).1 j = loadM m j := by
  have w4 := hf.2.1
  have _h := hj
  unfold noteB wakeB
  try dsimp only
  repeat' split
  all_goals first | rfl | exact ks (seq_ne hj _) | exact ks (val_ne hj _) | exact ks (prkC_ne hj _) | exact ks (onW_ne hj (by decide)) | exact kc (onW_ne hj (by decide)) | exact ks (slot_ne hj w4.1 w4.2) | exact kc (show (2 : Int) ≠ j by omega) | exact kc (show (4 : Int) ≠ j by omega) | exact kc (show (5 : Int) ≠ j by omega) | exact ks (show (2 : Int) ≠ j by omega)
theorem callK_keep : loadM (callK c m f).1 j = loadM m j := by
  unfold callK deckB callB injB evtB
  repeat' split
  all_goals first | with_reducible rfl | with_reducible exact push_keep hj hf | with_reducible exact pop_keep hj hf | with_reducible exact steal_keep hj hf | with_reducible exact enq_keep hj hf | with_reducible exact deq_keep hj hf | with_reducible exact wait_keep hj hf | with_reducible exact note_keep hj hf
end
end
def cntE : List EV → Int × Bool → Int × Bool
  | [], s => s
  | e :: l, s => cntE l (if e.1 = 3 then IntKind.u64.wrap (s.1 + 1) else if e.1 = 4 then IntKind.u64.wrap (s.1 - 1) else s.1, s.2 || decide (e.1 = 5))
def seekE (a b : Bool) (s : Int) : Int := if a = b then s else if a = true then IntKind.u64.wrap (s + 1) else IntKind.u64.wrap (s - 1)
theorem add_less (s : Int) : addU s less1 = IntKind.u64.wrap (s - 1) := by
  rw [wrap64u]
  unfold addU less1
  omega
theorem addU1 (s : Int) : addU s 1 = IntKind.u64.wrap (s + 1) := by
  rw [wrap64u]
  rfl
theorem seeks_not {x : WB} (h : x.1 < 2 ∨ 6 < x.1) : seeksB x = false := decide_eq_false (by omega)
theorem seeks_yes {x : WB} (h : 2 ≤ x.1 ∧ x.1 ≤ 6) : seeksB x = true := decide_eq_true h
section
variable {c : CF} {t : List (Int × List Int)} {m : List Int} {w : Int} {x : WB} {d : Int}
theorem work_seek (hm : Wm m) (hl : 2 ≤ m.length) (hf : Wf x.2.2.1) : loadM (workB c t m w x d).1 1 = seekE (seeksB (workB c t m w x d).2.1) (seeksB x) (loadM m 1) := by
  have hk := callK_keep (c := c) (m := m) (f := x.2.2.1) (j := 1) (by decide) hf
  have hs : ∀ v, loadM (storeM m 1 v) 1 = v := fun v => load_store v (by decide) (by omega)
  have h0 : ∀ v, loadM (storeM m 0 v) 1 = loadM m 1 := fun v => ks (by decide)
  have eq : ∀ {y : WB} {s : Int}, seeksB y = seeksB x → s = seekE (seeksB y) (seeksB x) s := fun h => by unfold seekE; rw [if_pos h]
  have low : ∀ {y : WB}, y.1 < 2 ∨ 6 < y.1 → (x.1 < 2 ∨ 6 < x.1) → seeksB y = seeksB x := fun h g => by rw [seeks_not h, seeks_not g]
  have hig : ∀ {y : WB}, 2 ≤ y.1 ∧ y.1 ≤ 6 → (2 ≤ x.1 ∧ x.1 ≤ 6) → seeksB y = seeksB x := fun h g => by rw [seeks_yes h, seeks_yes g]
  have dn : ∀ {y : WB}, y.1 < 2 ∨ 6 < y.1 → (2 ≤ x.1 ∧ x.1 ≤ 6) → addU (loadM m 1) less1 = seekE (seeksB y) (seeksB x) (loadM m 1) := fun h g => by rw [seeks_not h, seeks_yes g, add_less]; rfl
  refine work_ind (P := fun r => loadM r.1 1 = seekE (seeksB r.2.1) (seeksB x) (loadM m 1)) (fun _ => eq rfl) ?_ ?_ ?_ ?_ ?_ ?_ ?_ ?_ ?_ ?_ ?_ ?_ ?_ ?_ ?_
  all_goals intro _ hp
  · unfold wPop
    dsimp only
    repeat' split
    all_goals (dsimp only; rw [hk]; exact eq (low (by first | omega | (dsimp only [toW]; omega)) (by omega)))
  · unfold wSeek
    dsimp only
    rw [hs, seeks_not (x := x) (by omega), seeks_yes (by dsimp only; omega), addU1]
    rfl
  · unfold wLook
    dsimp only
    repeat' split
    all_goals (dsimp only; rw [hk]; exact eq (hig (by first | omega | (dsimp only [withW]; omega)) (by omega)))
  · unfold wFound
    dsimp only
    rw [hs]
    refine dn ?_ (by omega)
    dsimp only
    split <;> omega
  · unfold wPrep
    dsimp only
    rw [hk]
    exact eq (hig (by dsimp only; omega) (by omega))
  · unfold wLeave
    dsimp only
    rw [hs]
    exact dn (by dsimp only; omega) (by omega)
  · unfold wAgain
    dsimp only
    repeat' split
    all_goals (dsimp only; exact eq (low (by first | omega | (dsimp only [toW]; omega)) (by omega)))
  · unfold wCommit
    dsimp only
    split
    all_goals (dsimp only; rw [hk]; exact eq (low (by first | omega | (dsimp only [toW]; omega)) (by omega)))
  · unfold wRun
    dsimp only
    repeat' split
    all_goals (dsimp only; exact eq (low (by first | omega | (dsimp only [withW]; omega)) (by omega)))
  · unfold wPend
    dsimp only
    split
    · exact eq (low (by dsimp only [toW]; omega) (by omega))
    · dsimp only
      rw [h0]
      exact eq (low (by dsimp only; omega) (by omega))
  · unfold wPush
    dsimp only
    repeat' split
    all_goals (dsimp only; rw [hk]; exact eq (low (by first | omega | (dsimp only [toW, withW]; omega)) (by omega)))
  · unfold wOver
    dsimp only
    repeat' split
    all_goals (dsimp only; rw [hk]; exact eq (low (by first | omega | (dsimp only [toW]; omega)) (by omega)))
  · unfold wSee
    split
    all_goals (dsimp only; exact eq (low (by first | omega | (dsimp only [toW, withW]; omega)) (by omega)))
  · unfold wWake
    dsimp only
    split
    all_goals (dsimp only; rw [hk]; exact eq (low (by first | omega | (dsimp only [toW]; omega)) (by omega)))
  · unfold wDone
    dsimp only
    split
    · exact eq (low (by dsimp only [toW]; omega) (by omega))
    · dsimp only
      rw [h0]
      refine eq (low ?_ (by omega))
      split <;> (dsimp only; omega)
theorem work_pend (hm : Wm m) (hl : 2 ≤ m.length) (hf : Wf x.2.2.1) : loadM (workB c t m w x d).1 0 = (cntE (workB c t m w x d).2.2 (loadM m 0, false)).1 ∧ ((cntE (workB c t m w x d).2.2 (loadM m 0, false)).2 = true ↔ loadM m 0 = 1 ∧ (cntE (workB c t m w x d).2.2 (loadM m 0, false)).1 = 0) := by
  have hk := callK_keep (c := c) (m := m) (f := x.2.2.1) (j := 0) (by decide) hf
  have hs : ∀ v, loadM (storeM m 0 v) 0 = v := fun v => load_store v (by decide) (by omega)
  have h1 : ∀ v, loadM (storeM m 1 v) 0 = loadM m 0 := fun v => ks (by decide)
  have z : ∀ {l : List EV}, (l = [] ∨ ∃ a b, l = [(2, a, b)]) → loadM m 0 = (cntE l (loadM m 0, false)).1 ∧ ((cntE l (loadM m 0, false)).2 = true ↔ loadM m 0 = 1 ∧ (cntE l (loadM m 0, false)).1 = 0) := fun h => by
    rcases h with rfl | ⟨a, b, rfl⟩
    · refine ⟨rfl, ?_⟩
      dsimp only [cntE]
      exact ⟨fun g => (by cases g), fun g => absurd g.2 (by omega)⟩
    · refine ⟨rfl, ?_⟩
      dsimp only [cntE]
      exact ⟨fun g => (by cases g), fun g => absurd g.2 (by rw [if_neg (by decide), if_neg (by decide)]; omega)⟩
  have hr := load_rng hm 0
  refine work_ind (P := fun r => loadM r.1 0 = (cntE r.2.2 (loadM m 0, false)).1 ∧ ((cntE r.2.2 (loadM m 0, false)).2 = true ↔ loadM m 0 = 1 ∧ (cntE r.2.2 (loadM m 0, false)).1 = 0)) (fun _ => z (.inl rfl)) ?_ ?_ ?_ ?_ ?_ ?_ ?_ ?_ ?_ ?_ ?_ ?_ ?_ ?_ ?_
  all_goals intro _ hp
  · unfold wPop
    dsimp only
    repeat' split
    all_goals (dsimp only; rw [hk]; exact z (by first | exact .inl rfl | exact .inr ⟨_, _, rfl⟩))
  · unfold wSeek
    dsimp only
    rw [h1]
    exact z (.inl rfl)
  · unfold wLook
    dsimp only
    repeat' split
    all_goals (dsimp only; rw [hk]; exact z (.inl rfl))
  · unfold wFound
    dsimp only
    rw [h1]
    exact z (.inr ⟨_, _, rfl⟩)
  · unfold wPrep
    dsimp only
    rw [hk]
    exact z (.inl rfl)
  · unfold wLeave
    dsimp only
    rw [h1]
    exact z (.inl rfl)
  · unfold wAgain
    dsimp only
    repeat' split
    all_goals (dsimp only; exact z (.inl rfl))
  · unfold wCommit
    dsimp only
    split
    all_goals (dsimp only; rw [hk]; exact z (.inl rfl))
  · unfold wRun
    dsimp only
    repeat' split
    all_goals (dsimp only; exact z (.inl rfl))
  · unfold wPend
    dsimp only
    split
    · exact z (.inl rfl)
    · dsimp only
      rw [hs, addU1]
      dsimp only [cntE]
      rw [if_pos rfl]
      refine ⟨rfl, fun g => (by cases g), fun g => ?_⟩
      have := g.2
      rw [g.1] at this
      exact absurd this (by decide)
  · unfold wPush
    dsimp only
    repeat' split
    all_goals (dsimp only; rw [hk]; exact z (.inl rfl))
  · unfold wOver
    dsimp only
    repeat' split
    all_goals (dsimp only; rw [hk]; exact z (by first | exact .inl rfl | exact .inr ⟨_, _, rfl⟩))
  · unfold wSee
    split
    all_goals exact z (.inl rfl)
  · unfold wWake
    dsimp only
    split
    all_goals (dsimp only; rw [hk]; exact z (.inl rfl))
  · unfold wDone
    dsimp only
    split
    · exact z (.inl rfl)
    · dsimp only
      rw [hs, add_less]
      by_cases h : loadM m 0 = 1
      · rw [if_pos h, h]
        refine ⟨rfl, fun _ => ⟨rfl, rfl⟩, fun _ => rfl⟩
      · rw [if_neg h]
        refine ⟨rfl, fun g => (by cases g), fun g => absurd g.1 h⟩
end
theorem c_WkSeeks {k : Nat} (hk : 100 ≤ k) (x : WB) : g_work_Seeks k x = some (seeksB x) := by
  unfold g_work_Seeks g_slices_Contains_int g_slices_Index_int
  rw [scanF (F := fun n i => g_slices_Index_int_L0 k [2, 3, 4, 5, 6] x.1 n i) (l := [2, 3, 4, 5, 6]) (fun y => x.1 == y) ?_ ?_ k (by simp; omega), ob_some, ob_some]
  · unfold seeksB
    simp only [idxG]
    congr 1
    by_cases h : 2 ≤ x.1 ∧ x.1 ≤ 6
    · rcases (show x.1 = 2 ∨ x.1 = 3 ∨ x.1 = 4 ∨ x.1 = 5 ∨ x.1 = 6 by omega) with e | e | e | e | e <;> rw [e] <;> rfl
    · have n2 : ¬ x.1 = 2 := by omega
      have n3 : ¬ x.1 = 3 := by omega
      have n4 : ¬ x.1 = 4 := by omega
      have n5 : ¬ x.1 = 5 := by omega
      have n6 : ¬ x.1 = 6 := by omega
      rw [decide_eq_false h]
      simp [n2, n3, n4, n5, n6]
  · intro n
    simp only [g_slices_Index_int_L0, lt_len, cond_false]
  · intro n i y hi hy
    have : i < 5 := hi
    simp only [g_slices_Index_int_L0, ltN hi, cond_true, idx_of hy, ob_some]
    rw [wrapS (by omega)]
end Go.Ab
