/- The functions of chapter 15, as words. -/
import Derived.Test.YtcmdnjaenhbdpaaGreatR5GN
import Derived.Test.YtcmdnjaenhbdpaaGreatR5PNd
set_option linter.unusedVariables false
set_option linter.unusedSimpArgs false
set_option linter.unusedVariables false
namespace Go.Ab
theorem ngoes_tail (c : CF) (m : List Int) (a1 a6 : Int) : (bif mayC c then bif decide ((m.length : Int) = sizeC c) then bif !(a6 != 0) then bif decide (0 ≤ a1) then some (decide (a1 ≤ 2)) else some false else some false else some false else some false)
    = some (mayC c && decide ((m.length : Int) = sizeC c) && decide (a6 = 0 ∧ 0 ≤ a1 ∧ a1 ≤ 2)) := by
  cases mayC c with
  | false => rfl
  | true =>
    rw [cond_true]
    by_cases h1 : (m.length : Int) = sizeC c
    · rw [decide_eq_true h1, cond_true]
      by_cases h2 : a6 = 0
      · by_cases h3 : 0 ≤ a1
        · simp [h2, h3]
        · simp [h2, h3]
      · have : (a6 != 0) = true := by simp [h2]
        simp [h2, this]
    · rw [decide_eq_false h1]
      rfl
theorem c_NGoes (c : CF) (m : List Int) (f : FR) : g_note_Goes c m f = some (ngoesB c m f) := by
  obtain ⟨a0, a1, a2, a3, a4, a5, a6⟩ := f
  unfold g_note_Goes ngoesB
  simp only [Prod.eta, beqI, c_May14, c_Size, c_Over, ob_some, overB]
  by_cases h1 : a0 = 6
  · rw [decide_eq_true h1, cond_true, ngoes_tail, decide_eq_true (show a0 = 6 ∨ a0 = 7 from .inl h1), Bool.true_and]
  · rw [decide_eq_false h1, cond_false]
    by_cases h2 : a0 = 7
    · rw [decide_eq_true h2, cond_true, ngoes_tail, decide_eq_true (show a0 = 6 ∨ a0 = 7 from .inr h2), Bool.true_and]
    · rw [decide_eq_false h2, cond_false, decide_eq_false (by omega)]
      rfl
theorem mk_rng {e : Int} (h0 : 0 ≤ e) : 0 ≤ mkB e ∧ mkB e < 65536 := by unfold mkB; omega
theorem ep_rng {e : Int} (h0 : 0 ≤ e) (h1 : e ≤ 18446744073709551615) : 0 ≤ epB e ∧ epB e ≤ 281474976710655 := by unfold epB; omega
theorem c_Pack {e m : Int} (h0 : 0 ≤ e) (m0 : 0 ≤ m) (m1 : m ≤ 18446744073709551615) : g_word_Pack e m = some (packB e m) := by
  unfold g_word_Pack
  rw [pack_u h0 m0 m1]
theorem low_rng (x : Int) : -1 ≤ lowB x ∧ lowB x < 16 := by
  rcases low_cases x with ⟨h, _⟩ | ⟨j, h, h2, _⟩ <;> omega
theorem c_Lowest {k : Nat} (hk : 100 ≤ k) {x : Int} (h0 : 0 ≤ x) (h1 : x ≤ 18446744073709551615) : g_word_Lowest k x = some (lowB x) := by
  have key : ∀ (d i n : Nat), i + d = 16 → d < n → g_word_Lowest_L0 k x n (i : Int) = some (lowF x i d) := by
    intro d
    induction d with
    | zero =>
      intro i n hi hn
      obtain ⟨n, rfl⟩ := fuel hn
      rw [g_word_Lowest_L0, ltF (by omega), cond_false]
      rfl
    | succ d ih =>
      intro i n hi hn
      obtain ⟨n, rfl⟩ := fuel hn
      rw [g_word_Lowest_L0, ltT (by omega), cond_true, leT (by omega), cond_true, has_u h0 h1 (by omega) (by omega), lowF]
      cases hb : hasB x i with
      | true => rw [cond_true, if_pos rfl]
      | false => rw [cond_false, if_neg (by simp), wrapS (by omega), ih (i + 1) n (by omega) (by omega)]
  exact key 16 0 (k + 9) rfl (by omega)
theorem c_Bump {k : Nat} (hk : 100 ≤ k) {e : Int} (h0 : 0 ≤ e) (h1 : e ≤ 18446744073709551615) : g_word_Bump k e = some (bumpB e, lowB (mkB e)) := by
  have hm := mk_rng h0
  have he := ep_rng h0 h1
  have hc := clr_rng hm.1 hm.2
  unfold g_word_Bump
  rw [c_Mask h0 h1, ob_some, c_Epoch h0, ob_some, wrapU (z := epB e + 1) (by omega) (by omega), clr_u hm.1 hm.2, c_Pack (by omega) hc.1 (by omega), ob_some, c_Lowest hk hm.1 (by omega), ob_some]
  rfl
theorem c_Wipe {e : Int} (h0 : 0 ≤ e) (h1 : e ≤ 18446744073709551615) : g_word_Wipe e = some (wipeB e) := by
  have he := ep_rng h0 h1
  unfold g_word_Wipe
  rw [c_Epoch h0, ob_some, wrapU (z := epB e + 1) (by omega) (by omega), c_Pack (by omega) (by decide) (by decide), ob_some]
  rfl
theorem c_kinds1 {k : Nat} (hk : 100 ≤ k) {e : Int} (h0 : 0 ≤ e) (h1 : e ≤ 18446744073709551615) : g_note_kinds_1 k e = some (bumpB e, if lowB (mkB e) < 0 then 0 else lowB (mkB e)) := by
  have hl := low_rng (mkB e)
  unfold g_note_kinds_1
  rw [c_Bump hk h0 h1, ob_some]
  simp only
  by_cases h : lowB (mkB e) < 0
  · rw [ltT h, cond_true, if_pos h]; rfl
  · rw [ltF (by omega), cond_false, if_neg h, wrapU (by omega) (by omega)]
theorem c_kinds2 {e : Int} (h0 : 0 ≤ e) (h1 : e ≤ 18446744073709551615) : g_note_kinds_2 e = some (wipeB e, mkB e) := by
  unfold g_note_kinds_2
  rw [c_Wipe h0 h1, ob_some, c_Mask h0 h1, ob_some]
theorem c_wake {k : Nat} (hk : 100 ≤ k) (c : CF) {m : List Int} (hl : m.length ≤ 1000) (w : Int) : g_note_wake k c m [w] = some (wakeB c m w) := by
  unfold g_note_wake
  obtain ⟨k, rfl⟩ : ∃ j, k = j + 2 := ⟨k - 2, by omega⟩
  have f1 : ∀ k : Nat, k + 2 + 12 = (k + 12 + 1) + 1 := fun k => rfl
  have i1 : IntKind.i64.wrap (0 + 1) = 1 := by decide
  have x0 : idx [w] 0 = some w := rfl
  rw [f1, g_note_wake_L0, ltT (by simp), cond_true, x0, ob_some]
  try simp only [Prod.eta]
  rw [c_Park, ob_some, c_Store hl, ob_some, i1, g_note_wake_L0, ltF (by simp), cond_false]
  rfl
theorem c_NStep {k : Nat} (hk : 1000 ≤ k) (c : CF) {m : List Int} (hm : Wm m) (hl : m.length ≤ 1000) {f : FR} (hf : Wf f) : g_note_Step k c m f = some (noteB c m f) := by
  have hr := load_rng hm 2
  unfold g_note_Step noteB
  try simp only [Prod.eta]
  rw [clone_ok (by omega), ob_some, c_NGoes, ob_some]
  cases h : ngoesB c m f with
  | false => rfl
  | true =>
    rw [Bool.not_true, cond_false, if_neg (by simp)]
    obtain ⟨a0, a1, a2, a3, a4, a5, a6⟩ := f
    obtain ⟨_, w4, w5⟩ := hf
    simp only at w4 w5
    unfold ngoesB at h
    rw [Bool.and_eq_true, Bool.and_eq_true, Bool.and_eq_true, decide_eq_true_eq, decide_eq_true_eq, decide_eq_true_eq] at h
    obtain ⟨⟨⟨h0, hmay⟩, hlen⟩, h6, h1, h2⟩ := h
    simp only at h0 h6 h1 h2 ⊢
    have hlen2 : (2 : Int) < m.length := by
      have hmc := mayC_of hmay
      have ok : OkB c m 0 := ⟨hmay, hlen, by decide, by omega⟩
      have := ok.size
      omega
    by_cases p0 : a1 = 0
    · subst p0
      simp [c_Load, ob_some]
    · by_cases p1 : a1 = 1
      · subst p1
        have e1 : ∀ v, casM m 2 a4 v = if loadM m 2 = a4 then (storeM m 2 v, true) else (m, false) := by
          intro v
          unfold casM
          by_cases hh : loadM m 2 = a4
          · rw [if_pos hh, if_pos ⟨by decide, hlen2, hh⟩]
          · rw [if_neg hh, if_neg (fun x => hh x.2.2)]
        rcases h0 with rfl | rfl
        · simp only [beqI, decide_eq_true rfl, decide_eq_false p0, cond_true, cond_false, c_kinds1 (k := k + 2) (by omega) w4.1 w4.2, ob_some, c_Cas hl, e1, c_Mask w4.1 w4.2, c_End6]
          by_cases hh : loadM m 2 = a4
          · by_cases h3 : mkB a4 = 0
            · simp [hh, h3, endB]
            · simp [hh, h3]
          · simp [hh]
        · simp only [beqI, decide_eq_true rfl, decide_eq_false p0, decide_eq_false (show ¬ ((7 : Int) = 6) by decide), cond_true, cond_false, c_kinds2 w4.1 w4.2, ob_some, c_Cas hl, e1, c_Mask w4.1 w4.2, c_End6]
          by_cases hh : loadM m 2 = a4
          · by_cases h3 : mkB a4 = 0
            · simp [hh, h3, endB]
            · simp [hh, h3]
          · simp [hh]
      · rcases h0 with rfl | rfl
        · simp only [beqI, decide_eq_true rfl, decide_eq_false p0, decide_eq_false p1, cond_true, cond_false]
          by_cases h3 : a5 < 8
          · rw [ltT h3, cond_true, c_wake (by omega) c hl, ob_some, c_End6, ob_some, wrapI (by omega)]
            simp [p0, p1, h3, endB]
          · rw [ltF (by omega), cond_false, c_wake (by omega) c hl, ob_some, c_End6, ob_some]
            simp [p0, p1, h3, endB]
        · have hk5 := mk_rng w5.1
          simp only [beqI, decide_eq_false (show ¬ ((7 : Int) = 6) by decide), decide_eq_false p0, decide_eq_false p1, cond_false]
          rw [c_Lowest (by omega) w5.1 w5.2, ob_some, c_wake (by omega) c hl, ob_some, c_Mask w5.1 w5.2, ob_some, clr_u hk5.1 hk5.2, c_Mask w4.1 w4.2, ob_some]
          simp only [c_End6, ob_some]
          by_cases h3 : clrB (mkB a5) = 0
          · simp [p0, p1, h3, endB]
          · have h4 : mkB a5 ≠ 0 := fun e => h3 (by rw [e]; decide)
            simp [p0, p1, h3, h4]
            omega
end Go.Ab
