/- A worker's step is its word. -/
import Derived.Test.YtcmdnjaenhbdpaaGreatR5PWkd
import Derived.Test.YtcmdnjaenhbdpaaGreatR5GK
set_option linter.unusedVariables false
set_option linter.unusedSimpArgs false
set_option linter.unusedVariables false
set_option linter.unusedSimpArgs false
set_option maxRecDepth 100000
set_option maxHeartbeats 4000000
namespace Go.Ab
theorem b6 (op w v : Int) : g_frame_Begin op w v = some (begF op w v) := rfl
theorem room24 : room 1 24 = true := rfl
theorem room48 : room 2 24 = true := rfl
theorem beqT {a b : Int} (h : a = b) : (a == b) = true := by simp [h]
theorem beqF {a b : Int} (h : a ≠ b) : (a == b) = false := by simp [h]
theorem call_cases (c : CF) (m : List Int) (f : FR) : (deckB c m f = callK c m f ∧ ((f.1 == 0) = true ∨ (f.1 == 0) = false ∧ ((f.1 == 1) = true ∨ (f.1 == 1) = false ∧ (f.1 == 2) = true))) ∨ (injB c m f = callK c m f ∧ (f.1 == 0) = false ∧ (f.1 == 1) = false ∧ (f.1 == 2) = false ∧ ((f.1 == 3) = true ∨ (f.1 == 3) = false ∧ (f.1 == 4) = true)) ∨ (evtB c m f = callK c m f ∧ (f.1 == 0) = false ∧ (f.1 == 1) = false ∧ (f.1 == 2) = false ∧ (f.1 == 3) = false ∧ (f.1 == 4) = false) := by
  unfold callK callB
  simp only [beqI, decide_eq_true_eq, decide_eq_false_iff_not]
  by_cases h : f.1 = 0 ∨ f.1 = 1 ∨ f.1 = 2
  · rw [if_pos h]; exact .inl ⟨rfl, by omega⟩
  · rw [if_neg h]
    by_cases g : f.1 = 3 ∨ f.1 = 4
    · rw [if_pos g]; exact .inr (.inl ⟨rfl, by omega⟩)
    · rw [if_neg g]; exact .inr (.inr ⟨rfl, by omega⟩)
section
variable {k : Nat} (hk : 9223372036854779000 ≤ k) (c : CF) {t : List (Int × List Int)} (ht : Wt t) {m : List Int} (hm : Wm m) (hl : m.length ≤ 1000) (w : Int) {x : WB} (hf : Wf x.2.2.1) (hs : x.2.1.length ≤ 1000) (hsp : x.2.2.2.1 ≤ 9223372036854775807) {d : Int} (hd : 0 ≤ d ∧ d ≤ 18446744073709551615)
include hk ht hm hl hf hs hsp hd
theorem c_callG {β : Type} (K : List Int × FR → Option β) : callG k c m x.2.2.1 K = K (callK c m x.2.2.1) := by
  have _h := And.intro hsp hd
  have _h2 := And.intro ht hs
  have hdk := c_DeckStep c hm hl hf (k + 31)
  have hij := c_InjStep c hm hl hf
  have hev := c_EvtStep (k := k + 40) (by omega) c hm hl hf
  unfold callG
  rcases call_cases c m x.2.2.1 with ⟨h, e | ⟨e, e1 | e1⟩⟩ | ⟨h, e, e1, e2, e3 | e3⟩ | ⟨h, e⟩
  all_goals simp only [*, cond_true, cond_false, ob_some]
theorem c_WkStep : g_work_Step k c t m w x d = some (workB c t m w x d) := by
  have _h1 := hsp
  have _h2 := hd
  unfold g_work_Step
  try simp only [Prod.eta]
  rw [clone_ok (by omega), ob_some, clone_ok (by omega), ob_some, c_WkMay (by omega) c ht m w x hs, ob_some]
  cases hmay : mayWB c t m w x with
  | false =>
    unfold workB
    rw [hmay]
    rfl
  | true =>
    rw [Bool.not_true, cond_false]
    have hb : mayC c = true ∧ (m.length : Int) = sizeC c ∧ 0 ≤ w ∧ w < c.1 ∧ 0 ≤ x.1 ∧ x.1 < 16 := by
      unfold mayWB at hmay
      simp only [Bool.and_eq_true, decide_eq_true_eq] at hmay
      exact ⟨hmay.1.1.1.1, hmay.1.1.1.2, hmay.1.2⟩
    obtain ⟨hmc, hlen, hw0, hw1, hp0, hp1⟩ := hb
    have hc := mayC_of hmc
    have hsz := size_low hmc
    have hadd : ∀ i v : Int, 0 ≤ i → i < 2 → g_cell_Add m i v = some (storeM m i (addU (loadM m i) v), loadM m i) := fun i v h0 h1 => by rw [c_Add hl, if_pos (by omega)]
    have hcg := fun K => c_callG (k := k) (β := List Int × WB × List EV) hk c ht hm hl hf hs hsp hd K
    have hst := fun q => c_TStart (k + 36) (by omega) t ht x.2.1 (by omega) q
    have hdo := c_TDo (k + 36) (by omega) t ht x.2.1 (by omega)
    have hnx := c_TNext (k + 37) (by omega) t ht x.2.1 (by omega)
    have hvi := c_Vict (w := w) (W := c.1) hd (by omega)
    rcases (show x.1 = 0 ∨ x.1 = 1 ∨ x.1 = 2 ∨ x.1 = 3 ∨ x.1 = 4 ∨ x.1 = 5 ∨ x.1 = 6 ∨ x.1 = 7 ∨ x.1 = 8 ∨ x.1 = 9 ∨ x.1 = 10 ∨ x.1 = 11 ∨ x.1 = 12 ∨ x.1 = 13 ∨ x.1 = 14 ∨ x.1 = 15 by omega) with hp | hp | hp | hp | hp | hp | hp | hp | hp | hp | hp | hp | hp | hp | hp | hp
    · have hW : workB c t m w x d = wPop c t m w x := by unfold workB; rw [hmay]; simp [hp]
      rw [hW]
      rw [beqT hp, cond_true]
      unfold wPop
      rw [hcg]
      simp only [cond_true, cond_false, ob_some, c_Over, Prod.eta, b6]
      generalize callK c m x.2.2.1 = r
      cases ho : overB r.2 with
      | false => simp [ho, hp]
      | true =>
        by_cases h9 : r.2.2.2.2.2.2.2 = 1
        · simp [ho, h9, hst, ob_some, room24, zeroF, intU]
        · have q9 : (r.2.2.2.2.2.2.2 != 1) = true := by simp [h9]
          simp [ho, h9, q9, toW, zeroF]
    · have hW : workB c t m w x d = wSeek c m w x := by unfold workB; rw [hmay]; simp [hp]
      rw [hW]
      rw [beqF (show x.1 ≠ 0 by omega), cond_false, beqT hp, cond_true]
      rw [hadd 1 1 (by decide) (by decide), ob_some, b6, ob_some]
      rfl
    · have hW : workB c t m w x d = wLook c m w x d := by unfold workB; rw [hmay]; simp [hp]
      rw [hW]
      rw [beqF (show x.1 ≠ 0 by omega), cond_false, beqF (show x.1 ≠ 1 by omega), cond_false, beqT hp, cond_true]
      rw [hvi, ob_some]
      unfold wLook
      rw [hcg]
      simp only [cond_true, cond_false, ob_some, c_Over, Prod.eta, b6, beqT hp]
      generalize callK c m x.2.2.1 = r
      cases ho : overB r.2 with
      | false => simp [ho, hp]
      | true =>
        by_cases h9 : r.2.2.2.2.2.2.2 = 1
        · simp [ho, h9]
        · have q9 := beqF h9
          by_cases h8 : 0 ≤ victB d w c.1
          · simp [ho, h9, q9, hp, h8, withW]
          · by_cases h7 : x.2.2.2.1 ≤ 0
            · simp [ho, h9, q9, hp, h8, h7, withW]
            · rw [wrapI (z := x.2.2.2.1 - 1) (by omega)]
              simp [ho, h9, q9, hp, h8, h7, withW]
    · have hW : workB c t m w x d = wLook c m w x d := by unfold workB; rw [hmay]; simp [hp]
      rw [hW]
      rw [beqF (show x.1 ≠ 0 by omega), cond_false, beqF (show x.1 ≠ 1 by omega), cond_false, beqF (show x.1 ≠ 2 by omega), cond_false, beqT hp, cond_true]
      rw [hvi, ob_some]
      unfold wLook
      rw [hcg]
      simp only [cond_true, cond_false, ob_some, c_Over, Prod.eta, b6, beqF (show x.1 ≠ 2 by omega)]
      generalize callK c m x.2.2.1 = r
      cases ho : overB r.2 with
      | false => simp [ho, hp]
      | true =>
        by_cases h9 : r.2.2.2.2.2.2.2 = 1
        · simp [ho, h9]
        · have q9 := beqF h9
          by_cases h7 : x.2.2.2.1 ≤ 0
          · simp [ho, h9, q9, hp, h7, withW]
          · rw [wrapI (z := x.2.2.2.1 - 1) (by omega)]
            simp [ho, h9, q9, hp, h7, withW]
    · have hW : workB c t m w x d = wFound t m w x := by unfold workB; rw [hmay]; simp [hp]
      rw [hW]
      rw [beqF (show x.1 ≠ 0 by omega), cond_false, beqF (show x.1 ≠ 1 by omega), cond_false, beqF (show x.1 ≠ 2 by omega), cond_false, beqF (show x.1 ≠ 3 by omega), cond_false, beqT hp, cond_true]
      rw [hadd 1 _ (by decide) (by decide), ob_some, b6, ob_some, hst, ob_some, ob_some, room24, cond_true, cond_true, beqI]
      by_cases h9 : loadM m 1 = 1
      · simp [wFound, h9, less1, intU]
      · simp [wFound, h9, less1, intU, zeroF]
    · have hW : workB c t m w x d = wPrep c m x := by unfold workB; rw [hmay]; simp [hp]
      rw [hW]
      rw [beqF (show x.1 ≠ 0 by omega), cond_false, beqF (show x.1 ≠ 1 by omega), cond_false, beqF (show x.1 ≠ 2 by omega), cond_false, beqF (show x.1 ≠ 3 by omega), cond_false, beqF (show x.1 ≠ 4 by omega), cond_false, beqT hp, cond_true]
      unfold wPrep
      rw [hcg]
      simp only [cond_true, cond_false, ob_some, c_Over, Prod.eta, b6]
    · have hW : workB c t m w x d = wLeave m x := by unfold workB; rw [hmay]; simp [hp]
      rw [hW]
      rw [beqF (show x.1 ≠ 0 by omega), cond_false, beqF (show x.1 ≠ 1 by omega), cond_false, beqF (show x.1 ≠ 2 by omega), cond_false, beqF (show x.1 ≠ 3 by omega), cond_false, beqF (show x.1 ≠ 4 by omega), cond_false, beqF (show x.1 ≠ 5 by omega), cond_false, beqT hp, cond_true]
      rw [hadd 1 _ (by decide) (by decide), ob_some]
      rfl
    · have hW : workB c t m w x d = wAgain c m x := by unfold workB; rw [hmay]; simp [hp]
      rw [hW]
      rw [beqF (show x.1 ≠ 0 by omega), cond_false, beqF (show x.1 ≠ 1 by omega), cond_false, beqF (show x.1 ≠ 2 by omega), cond_false, beqF (show x.1 ≠ 3 by omega), cond_false, beqF (show x.1 ≠ 4 by omega), cond_false, beqF (show x.1 ≠ 5 by omega), cond_false, beqF (show x.1 ≠ 6 by omega), cond_false, beqT hp, cond_true]
      have hM : IntKind.i64.wrap (2 + IntKind.i64.wrap (2 * c.1)) = 2 + 2 * c.1 := by rw [wrapI (z := 2 * c.1) (by omega), wrapI (by omega)]
      rw [hM]
      by_cases h1 : x.2.2.2.2 < 0
      · rw [ltT h1, cond_true]
        simp only [wAgain, if_pos (show x.2.2.2.2 < 0 ∨ 2 + 2 * c.1 ≤ x.2.2.2.2 from .inl h1), setV]
      · rw [ltF (by omega), cond_false]
        by_cases h2 : 2 + 2 * c.1 ≤ x.2.2.2.2
        · rw [leT h2, cond_true]
          simp only [wAgain, if_pos (show x.2.2.2.2 < 0 ∨ 2 + 2 * c.1 ≤ x.2.2.2.2 from .inr h2), setV]
        · rw [leF (by omega), cond_false, wrapI (z := x.2.2.2.2 + 1) (by omega)]
          have hn : ¬ (x.2.2.2.2 < 0 ∨ 2 + 2 * c.1 ≤ x.2.2.2.2) := by omega
          by_cases e0 : x.2.2.2.2 = 0
          · rw [beqT e0, cond_true, c_Load, ob_some]
            by_cases h5 : x.2.2.2.2 + 1 = 2 + 2 * c.1
            · rw [beqT h5, cond_true]
              simp only [wAgain, if_neg hn, if_pos e0, Bool.false_eq_true, if_false, if_pos h5, setV]
            · rw [beqF h5, cond_false]
              simp only [wAgain, if_neg hn, if_pos e0, Bool.false_eq_true, if_false, if_neg h5, setV, hp]
          · rw [beqF e0, cond_false]
            by_cases e1 : x.2.2.2.2 = 1
            · rw [beqT e1, cond_true, c_Load, ob_some, bneI]
              by_cases h9 : loadM m 5 = x.2.2.1.2.2.2.1
              · rw [decide_eq_true h9, Bool.not_true, cond_false]
                skip
                by_cases h5 : x.2.2.2.2 + 1 = 2 + 2 * c.1
                · rw [beqT h5, cond_true]
                  simp only [wAgain, if_neg hn, if_neg e0, if_pos e1, h9, ne_eq, not_true_eq_false, decide_false, Bool.false_eq_true, if_false, if_pos h5, setV]
                · rw [beqF h5, cond_false]
                  simp only [wAgain, if_neg hn, if_neg e0, if_pos e1, h9, ne_eq, not_true_eq_false, decide_false, Bool.false_eq_true, if_false, if_neg h5, setV, hp]
              · rw [decide_eq_false h9, Bool.not_false, cond_true]
                simp only [wAgain, if_neg hn, if_neg e0, if_pos e1, h9, ne_eq, not_false_eq_true, decide_true, if_true, toW, zeroF]
            · rw [beqF e1, cond_false, Int.tmod_eq_emod_of_nonneg (by omega), wrapI (z := x.2.2.2.2 - 2) (by omega), Int.tdiv_eq_ediv_of_nonneg (by omega), wrapI (z := (x.2.2.2.2 - 2) / 2) (by omega)]
              by_cases e2 : x.2.2.2.2 % 2 = 0
              · rw [beqT e2, cond_true, c_Top, ob_some, c_Load, ob_some]
                skip
                by_cases h5 : x.2.2.2.2 + 1 = 2 + 2 * c.1
                · rw [beqT h5, cond_true]
                  simp only [wAgain, if_neg hn, if_neg e0, if_neg e1, if_pos e2, Bool.false_eq_true, if_false, if_pos h5, setV]
                · rw [beqF h5, cond_false]
                  simp only [wAgain, if_neg hn, if_neg e0, if_neg e1, if_pos e2, Bool.false_eq_true, if_false, if_neg h5, setV, hp]
              · rw [beqF e2, cond_false, c_Bot, ob_some, c_Load, ob_some, c_Far, ob_some]
                by_cases h9 : 0 < farB (loadM m (botA c ((x.2.2.2.2 - 2) / 2))) x.2.2.1.2.2.2.1
                · rw [ltT h9, cond_true]
                  simp only [wAgain, if_neg hn, if_neg e0, if_neg e1, if_neg e2, h9, decide_true, if_true, toW, zeroF]
                · rw [ltF (by omega), cond_false]
                  skip
                  by_cases h5 : x.2.2.2.2 + 1 = 2 + 2 * c.1
                  · rw [beqT h5, cond_true]
                    simp only [wAgain, if_neg hn, if_neg e0, if_neg e1, if_neg e2, h9, decide_false, Bool.false_eq_true, if_false, if_pos h5, setV]
                  · rw [beqF h5, cond_false]
                    simp only [wAgain, if_neg hn, if_neg e0, if_neg e1, if_neg e2, h9, decide_false, Bool.false_eq_true, if_false, if_neg h5, setV, hp]
    · have hW : workB c t m w x d = wCommit c m x := by unfold workB; rw [hmay]; simp [hp]
      rw [hW]
      rw [beqF (show x.1 ≠ 0 by omega), cond_false, beqF (show x.1 ≠ 1 by omega), cond_false, beqF (show x.1 ≠ 2 by omega), cond_false, beqF (show x.1 ≠ 3 by omega), cond_false, beqF (show x.1 ≠ 4 by omega), cond_false, beqF (show x.1 ≠ 5 by omega), cond_false, beqF (show x.1 ≠ 6 by omega), cond_false, beqF (show x.1 ≠ 7 by omega), cond_false, beqT hp, cond_true]
      unfold wCommit
      rw [hcg]
      simp only [cond_true, cond_false, ob_some, c_Over, Prod.eta, b6]
      generalize callK c m x.2.2.1 = r
      cases ho : overB r.2 <;> simp [ho, hp, toW, zeroF]
    · have hW : workB c t m w x d = wRun t m w x := by unfold workB; rw [hmay]; simp [hp]
      rw [hW]
      rw [beqF (show x.1 ≠ 0 by omega), cond_false, beqF (show x.1 ≠ 1 by omega), cond_false, beqF (show x.1 ≠ 2 by omega), cond_false, beqF (show x.1 ≠ 3 by omega), cond_false, beqF (show x.1 ≠ 4 by omega), cond_false, beqF (show x.1 ≠ 5 by omega), cond_false, beqF (show x.1 ≠ 6 by omega), cond_false, beqF (show x.1 ≠ 7 by omega), cond_false, beqF (show x.1 ≠ 8 by omega), cond_false, beqT hp, cond_true]
      rw [hnx, ob_some, beqI, beqI, beqI, hdo, ob_some, b6, ob_some]
      unfold wRun
      by_cases h1 : (nextB t x.2.1).1 = 1
      · simp [h1, hp]
      · by_cases h2 : (nextB t x.2.1).1 = 2
        · simp [h2]
        · by_cases h3 : (nextB t x.2.1).1 = 3
          · simp [h3]
          · simp [h1, h2, h3, withW]
    · have hW : workB c t m w x d = wPend t m w x := by unfold workB; rw [hmay]; simp [hp]
      rw [hW]
      rw [beqF (show x.1 ≠ 0 by omega), cond_false, beqF (show x.1 ≠ 1 by omega), cond_false, beqF (show x.1 ≠ 2 by omega), cond_false, beqF (show x.1 ≠ 3 by omega), cond_false, beqF (show x.1 ≠ 4 by omega), cond_false, beqF (show x.1 ≠ 5 by omega), cond_false, beqF (show x.1 ≠ 6 by omega), cond_false, beqF (show x.1 ≠ 7 by omega), cond_false, beqF (show x.1 ≠ 8 by omega), cond_false, beqF (show x.1 ≠ 9 by omega), cond_false, beqT hp, cond_true]
      rw [hnx, ob_some, bneI, hadd 0 _ (by decide) (by decide), ob_some, room24, cond_true, hdo, ob_some, b6, ob_some]
      unfold wPend
      by_cases h2 : (nextB t x.2.1).1 = 2
      · simp [h2]
      · simp [h2, toW, zeroF]
    · have hW : workB c t m w x d = wPush c m w x := by unfold workB; rw [hmay]; simp [hp]
      rw [hW]
      rw [beqF (show x.1 ≠ 0 by omega), cond_false, beqF (show x.1 ≠ 1 by omega), cond_false, beqF (show x.1 ≠ 2 by omega), cond_false, beqF (show x.1 ≠ 3 by omega), cond_false, beqF (show x.1 ≠ 4 by omega), cond_false, beqF (show x.1 ≠ 5 by omega), cond_false, beqF (show x.1 ≠ 6 by omega), cond_false, beqF (show x.1 ≠ 7 by omega), cond_false, beqF (show x.1 ≠ 8 by omega), cond_false, beqF (show x.1 ≠ 9 by omega), cond_false, beqF (show x.1 ≠ 10 by omega), cond_false, beqT hp, cond_true]
      unfold wPush
      rw [hcg]
      simp only [cond_true, cond_false, ob_some, c_Over, Prod.eta, b6]
      generalize callK c m x.2.2.1 = r
      cases ho : overB r.2 with
      | false => simp [ho, hp]
      | true =>
        by_cases h9 : r.2.2.2.2.2.2.2 = 2
        · simp [ho, h9, withW]
        · have q9 := beqF h9
          simp [ho, h9, q9, toW, zeroF]
    · have hW : workB c t m w x d = wOver c t m w x := by unfold workB; rw [hmay]; simp [hp]
      rw [hW]
      rw [beqF (show x.1 ≠ 0 by omega), cond_false, beqF (show x.1 ≠ 1 by omega), cond_false, beqF (show x.1 ≠ 2 by omega), cond_false, beqF (show x.1 ≠ 3 by omega), cond_false, beqF (show x.1 ≠ 4 by omega), cond_false, beqF (show x.1 ≠ 5 by omega), cond_false, beqF (show x.1 ≠ 6 by omega), cond_false, beqF (show x.1 ≠ 7 by omega), cond_false, beqF (show x.1 ≠ 8 by omega), cond_false, beqF (show x.1 ≠ 9 by omega), cond_false, beqF (show x.1 ≠ 10 by omega), cond_false, beqF (show x.1 ≠ 11 by omega), cond_false, beqT hp, cond_true]
      unfold wOver
      rw [hcg]
      simp only [cond_true, cond_false, ob_some, c_Over, Prod.eta, b6]
      generalize callK c m x.2.2.1 = r
      cases ho : overB r.2 with
      | false => simp [ho, hp]
      | true =>
        by_cases h9 : r.2.2.2.2.2.2.2 = 2
        · simp [ho, h9, hst, ob_some, room24, zeroF, intU]
        · have q9 := beqF h9
          simp [ho, h9, q9, toW, zeroF]
    · have hW : workB c t m w x d = wSee m w x := by unfold workB; rw [hmay]; simp [hp]
      rw [hW]
      rw [beqF (show x.1 ≠ 0 by omega), cond_false, beqF (show x.1 ≠ 1 by omega), cond_false, beqF (show x.1 ≠ 2 by omega), cond_false, beqF (show x.1 ≠ 3 by omega), cond_false, beqF (show x.1 ≠ 4 by omega), cond_false, beqF (show x.1 ≠ 5 by omega), cond_false, beqF (show x.1 ≠ 6 by omega), cond_false, beqF (show x.1 ≠ 7 by omega), cond_false, beqF (show x.1 ≠ 8 by omega), cond_false, beqF (show x.1 ≠ 9 by omega), cond_false, beqF (show x.1 ≠ 10 by omega), cond_false, beqF (show x.1 ≠ 11 by omega), cond_false, beqF (show x.1 ≠ 12 by omega), cond_false, beqT hp, cond_true]
      rw [c_Load, ob_some, beqI, b6, ob_some]
      by_cases h9 : loadM m 1 = 0
      · simp [wSee, h9, withW]
      · simp [wSee, h9, toW, zeroF]
    · have hW : workB c t m w x d = wWake c m x := by unfold workB; rw [hmay]; simp [hp]
      rw [hW]
      rw [beqF (show x.1 ≠ 0 by omega), cond_false, beqF (show x.1 ≠ 1 by omega), cond_false, beqF (show x.1 ≠ 2 by omega), cond_false, beqF (show x.1 ≠ 3 by omega), cond_false, beqF (show x.1 ≠ 4 by omega), cond_false, beqF (show x.1 ≠ 5 by omega), cond_false, beqF (show x.1 ≠ 6 by omega), cond_false, beqF (show x.1 ≠ 7 by omega), cond_false, beqF (show x.1 ≠ 8 by omega), cond_false, beqF (show x.1 ≠ 9 by omega), cond_false, beqF (show x.1 ≠ 10 by omega), cond_false, beqF (show x.1 ≠ 11 by omega), cond_false, beqF (show x.1 ≠ 12 by omega), cond_false, beqF (show x.1 ≠ 13 by omega), cond_false, beqT hp, cond_true]
      unfold wWake
      rw [hcg]
      simp only [cond_true, cond_false, ob_some, c_Over, Prod.eta, b6]
      generalize callK c m x.2.2.1 = r
      cases ho : overB r.2 <;> simp [ho, hp, toW, zeroF]
    · have hW : workB c t m w x d = wDone t m w x := by unfold workB; rw [hmay]; simp [hp]
      rw [hW]
      rw [beqF (show x.1 ≠ 0 by omega), cond_false, beqF (show x.1 ≠ 1 by omega), cond_false, beqF (show x.1 ≠ 2 by omega), cond_false, beqF (show x.1 ≠ 3 by omega), cond_false, beqF (show x.1 ≠ 4 by omega), cond_false, beqF (show x.1 ≠ 5 by omega), cond_false, beqF (show x.1 ≠ 6 by omega), cond_false, beqF (show x.1 ≠ 7 by omega), cond_false, beqF (show x.1 ≠ 8 by omega), cond_false, beqF (show x.1 ≠ 9 by omega), cond_false, beqF (show x.1 ≠ 10 by omega), cond_false, beqF (show x.1 ≠ 11 by omega), cond_false, beqF (show x.1 ≠ 12 by omega), cond_false, beqF (show x.1 ≠ 13 by omega), cond_false, beqF (show x.1 ≠ 14 by omega), cond_false, beqT hp, cond_true]
      simp only [hnx, ob_some, bneI, hadd 0 _ (by decide) (by decide), room24, room48, cond_true, hdo, b6, beqI]
      unfold wDone
      by_cases h3 : (nextB t x.2.1).1 = 3
      · by_cases h1 : loadM m 0 = 1
        · by_cases h2 : doB t x.2.1 = []
          · simp [h3, h1, h2, less1]
          · have h4 : ¬ (((doB t x.2.1).length : Int) = 0) := by simp [h2]
            simp [h3, h1, h2, h4, less1, zeroF]
        · by_cases h2 : doB t x.2.1 = []
          · simp [h3, h1, h2, less1]
          · have h4 : ¬ (((doB t x.2.1).length : Int) = 0) := by simp [h2]
            simp [h3, h1, h2, h4, less1, zeroF]
      · simp [h3, toW, zeroF]
end
end Go.Ab
