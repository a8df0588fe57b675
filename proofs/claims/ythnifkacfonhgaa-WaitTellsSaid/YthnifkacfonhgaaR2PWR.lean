/- The document's answers for cells, layouts and waiting, as words. -/
import Derived.Test.YthnifkacfonhgaaR2GR
import Derived.Test.YthnifkacfonhgaaR2PW2
set_option linter.unusedVariables false
namespace Go.Ab
theorem rmay_leaf (W I S : Int) : (bif decide (1 ≤ W) then bif decide (W ≤ 8) then bif decide (1 ≤ I) then bif decide (I ≤ 16) then bif decide (0 ≤ S) then some (decide (S ≤ 4)) else some false else some false else some false else some false else some false)
    = some (decide (1 ≤ W ∧ W ≤ 8 ∧ 1 ≤ I ∧ I ≤ 16 ∧ 0 ≤ S ∧ S ≤ 4)) := by
  by_cases h1 : 1 ≤ W <;> by_cases h2 : W ≤ 8 <;> by_cases h3 : 1 ≤ I <;> by_cases h4 : I ≤ 16 <;> by_cases h5 : 0 ≤ S <;> simp [h1, h2, h3, h4, h5]
theorem c_RMay03 (c : CF) : g_poacherref03_May c = some (mayC c) := by
  obtain ⟨W, D, I, S⟩ := c
  unfold g_poacherref03_May mayC
  simp only [beqI]
  by_cases h1 : D = 1
  · rw [decide_eq_true h1, cond_true, rmay_leaf]; congr 1; apply decide_eq_decide.2; omega
  · rw [decide_eq_false h1, cond_false]
    by_cases h2 : D = 2
    · rw [decide_eq_true h2, cond_true, rmay_leaf]; congr 1; apply decide_eq_decide.2; omega
    · rw [decide_eq_false h2, cond_false]
      by_cases h3 : D = 4
      · rw [decide_eq_true h3, cond_true, rmay_leaf]; congr 1; apply decide_eq_decide.2; omega
      · rw [decide_eq_false h3, cond_false]
        by_cases h4 : D = 8
        · rw [decide_eq_true h4, cond_true, rmay_leaf]; congr 1; apply decide_eq_decide.2; omega
        · rw [decide_eq_false h4, cond_false]
          by_cases h5 : D = 16
          · simp only [decide_eq_true h5, cond_true]
            rw [rmay_leaf]; congr 1; apply decide_eq_decide.2; omega
          · simp only [decide_eq_false h5, cond_false]
            have : decide (1 ≤ W ∧ W ≤ 8 ∧ (D = 1 ∨ D = 2 ∨ D = 4 ∨ D = 8 ∨ D = 16) ∧ 1 ≤ I ∧ I ≤ 16 ∧ 0 ≤ S ∧ S ≤ 4) = false := decide_eq_false (by omega)
            rw [this]
            cases decide (1 ≤ W) <;> cases decide (W ≤ 8) <;> rfl
theorem top_wrap {c : CF} (h : mayC c = true) {w : Int} (h0 : 0 ≤ w) (h1 : w ≤ 8) : IntKind.i64.wrap (IntKind.i64.wrap (6 + IntKind.i64.wrap (2 * c.2.2.1)) + IntKind.i64.wrap (w * IntKind.i64.wrap (3 + c.2.1))) = topC c w := by
  have := c_base h h0 h1
  unfold g_lay_base at this
  exact Option.some.inj this
theorem c_RSize (c : CF) : g_poacherref03_Size c = some (sizeC c) := by
  unfold g_poacherref03_Size sizeC
  simp only [Prod.eta]
  rw [c_RMay03, ob_some]
  cases h : mayC c with
  | false => rfl
  | true =>
    have hm := mayC_of h
    rw [Bool.not_true, cond_false, if_pos rfl, top_wrap h (by omega) (by omega)]
theorem c_ROver (f : FR) : g_poacherref06_Over f = some (overB f) := rfl
theorem c_REnd (f : FR) (r v : Int) : g_poacherref06_End f r v = some (endB f r v) := rfl
theorem c_RGoes (c : CF) (m : List Int) (f : FR) (op pcs : Int) : g_poacherref07_Goes c m f op pcs = some (goesB c m f op pcs) := by
  rw [← c_Goes]
  unfold g_poacherref07_Goes g_push_Goes
  simp only [Prod.eta]
  simp only [c_RMay03, c_May14, c_ROver, c_Over, c_RSize, c_Size, ob_some]
theorem c_RLoad (m : List Int) (i : Int) : g_poacherref01_Load m i = some (loadM m i) := by
  unfold g_poacherref01_Load
  by_cases h : i < 0
  · rw [ltT h, cond_true, load_out (by omega)]
  · rw [ltF (by omega), cond_false]
    by_cases h2 : (m.length : Int) ≤ i
    · rw [leT h2, cond_true, load_out (by omega)]
    · rw [leF (by omega), cond_false, (load_at ⟨by omega, by omega⟩).1, ob_some]
theorem c_REpoch {e : Int} (h0 : 0 ≤ e) (h1 : e ≤ 18446744073709551615) : g_poacherref02_Epoch e = some (epB e) := by
  unfold g_poacherref02_Epoch
  rw [Int.tdiv_eq_ediv_of_nonneg h0, wrapU (by omega) (by omega)]
  rfl
theorem c_RMask {e : Int} (h0 : 0 ≤ e) : g_poacherref02_Mask e = some (mkB e) := by
  unfold g_poacherref02_Mask
  rw [Int.tmod_eq_emod_of_nonneg h0]
  rfl
theorem pow_nat (n : Nat) : ((2 ^ n : Nat) : Int) = (2 : Int) ^ n := by rw [Int.natCast_pow]; rfl
theorem pow_rng {w : Int} (h1 : w < 64) : (0 : Int) < 2 ^ w.toNat ∧ (2 : Int) ^ w.toNat ≤ 9223372036854775808 := by
  have h2 : (2 : Nat) ^ w.toNat ≤ 2 ^ 63 := Nat.pow_le_pow_right (by decide) (by omega)
  have h3 : (0 : Int) < 2 ^ w.toNat := Int.pow_pos (by decide)
  rw [← pow_nat] at *
  omega
section
variable (k : Nat) (hk : 2000 ≤ k)
include hk
theorem c_Rbit {w : Int} (h0 : 0 ≤ w) (h1 : w < 16) : g_poacherref02_bit k w = some (2 ^ w.toNat) := by
  have key : ∀ (d i n : Nat), i + d = w.toNat → d < n → g_poacherref02_bit_L0 k w n ((2 ^ i : Nat) : Int) (i : Int) = some (2 ^ w.toNat) := by
    intro d
    induction d with
    | zero =>
      intro i n hi hn
      obtain ⟨n, rfl⟩ := fuel hn
      rw [g_poacherref02_bit_L0, ltF (by omega), cond_false, pow_nat]
      have : i = w.toNat := by omega
      rw [this]
    | succ d ih =>
      intro i n hi hn
      obtain ⟨n, rfl⟩ := fuel hn
      have hp : (2 : Nat) ^ i ≤ 2 ^ 16 := Nat.pow_le_pow_right (by decide) (by omega)
      have hq : (0 : Int) ≤ 2 * ((2 ^ i : Nat) : Int) ∧ 2 * ((2 ^ i : Nat) : Int) ≤ 18446744073709551615 := by
        generalize (2 : Nat) ^ i = x at hp
        omega
      rw [g_poacherref02_bit_L0, ltT (by omega), cond_true, wrapS (by omega), wrapU hq.1 hq.2]
      have := ih (i + 1) n (by omega) (by omega)
      rw [Nat.pow_succ, Nat.mul_comm] at this
      exact this
  have := key w.toNat 0 k (by omega) (by omega)
  exact this
theorem c_RHas {x w : Int} (h0 : 0 ≤ x) (h1 : x ≤ 18446744073709551615) (hw : 0 ≤ w) (hw2 : w < 16) : g_poacherref02_Has k x w = some (hasB x w) := by
  have hp := pow_rng (w := w) (by omega)
  have hd := div_rng (w := w) h0 h1
  unfold g_poacherref02_Has
  rw [c_Rbit k hk hw hw2, ob_some, bneI, decide_eq_false (by omega), Bool.not_false, cond_true, Int.tdiv_eq_ediv_of_nonneg h0, wrapU hd.1 hd.2, Int.tmod_eq_emod_of_nonneg hd.1, beqI, hasB]
theorem c_RSet {e w : Int} (h0 : 0 ≤ e) (h1 : e ≤ 18446744073709551615) : g_poacherref02_Set k e w = some (setB e w) := by
  unfold g_poacherref02_Set
  by_cases h2 : w < 0
  · rw [ltT h2, cond_true, setB, if_neg (by omega)]
  · rw [ltF (by omega), cond_false]
    by_cases h3 : 15 < w
    · rw [ltT h3, cond_true, setB, if_neg (by omega)]
    · rw [ltF (by omega), cond_false, c_RHas k hk h0 h1 (by omega) (by omega), ob_some]
      have hr := set_rng (w := w) h0 h1
      cases hb : hasB e w with
      | true => rw [cond_true, setB, if_neg (by simp [hb])]
      | false =>
        unfold setB at hr ⊢
        rw [if_pos ⟨by omega, by omega, hb⟩] at hr ⊢
        rw [cond_false, c_Rbit (k + 1) (by omega) (by omega) (by omega), ob_some, wrapU hr.1 hr.2]
end
theorem c_RPark (c : CF) (w : Int) : g_poacherref03_Park c w = some (parkC c w) := by
  unfold g_poacherref03_Park g_poacherref03_Top parkC
  simp only [Prod.eta]
  rw [c_RMay03, ob_some]
  cases h : mayC c with
  | false =>
    rw [Bool.not_false, cond_true, ob_some, if_neg (by simp)]
    rfl
  | true =>
    have hm := mayC_of h
    rw [Bool.not_true, cond_false]
    by_cases h1 : w < 0
    · rw [ltT h1, cond_true, ob_some, if_neg (by omega)]
      rfl
    · rw [ltF (by omega), cond_false]
      by_cases h2 : c.1 ≤ w
      · rw [leT h2, cond_true, ob_some, if_neg (by omega)]
        rfl
      · have ht := top_rng h (w := w) (by omega) (by omega)
        rw [leF (by omega), cond_false, top_wrap h (by omega) (by omega), ob_some, ltF (by omega), cond_false, wrapI (by omega), if_pos ⟨rfl, by omega, by omega⟩]
section
variable {m : List Int} (hl : m.length ≤ 1000)
include hl
theorem c_RStore (i v : Int) : g_poacherref01_Store m i v = some (storeM m i v) := by
  unfold g_poacherref01_Store
  have h8 : decide (m.length * 8 ≤ 70368744177664) = true := decide_eq_true (by omega)
  rw [h8, cond_true]
  by_cases h : 0 ≤ i
  · rw [leT h, cond_true]
    by_cases h2 : i < m.length
    · rw [ltT h2, cond_true, decide_eq_true (by omega), cond_true, (load_at ⟨h, h2⟩).2, ob_some, storeM, if_pos h]
    · rw [ltF (by omega), cond_false, store_out (by omega)]
  · rw [leF (by omega), cond_false, store_out (by omega)]
theorem c_RCas (i o v : Int) : g_poacherref01_Cas m i o v = some (casM m i o v) := by
  unfold g_poacherref01_Cas casM
  have hs : storeM m (-1) 0 = m := store_out (by omega)
  by_cases h : i < 0
  · rw [ltT h, cond_true, c_RStore hl, ob_some, hs, if_neg (by omega)]
  · rw [ltF (by omega), cond_false]
    by_cases h2 : (m.length : Int) ≤ i
    · rw [leT h2, cond_true, c_RStore hl, ob_some, hs, if_neg (by omega)]
    · rw [leF (by omega), cond_false, (load_at ⟨by omega, by omega⟩).1, ob_some, bneI]
      by_cases h3 : loadM m i = o
      · rw [decide_eq_true h3, Bool.not_true, cond_false, c_RStore hl, ob_some, if_pos ⟨by omega, by omega, h3⟩]
      · rw [decide_eq_false h3, Bool.not_false, cond_true, c_RStore hl, ob_some, hs, if_neg (fun hh => h3 hh.2.2)]
theorem c_RSame01 (k : Nat) (hk : 1001 ≤ k) (b : List Int) : g_poacherref01_Same k m b = some (decide (m = b)) := by
  unfold g_poacherref01_Same
  rw [lenNe]
  by_cases hlen : m.length = b.length
  · rw [decide_eq_true hlen, Bool.not_true, cond_false]
    refine scanE (F := fun n i => g_poacherref01_Same_L0 k m b n i) hlen ?_ ?_ k (by omega)
    · intro n
      simp only [g_poacherref01_Same_L0, lt_len, cond_false]
    · intro n i x y hi hx hy
      simp only [g_poacherref01_Same_L0, ltN hi, cond_true, idx_of hx, idx_of hy, ob_some]
      rw [bneI, wrapS (by omega)]
      cases decide (x = y) <;> rfl
  · have hne : m ≠ b := fun e => hlen (by rw [e])
    rw [decide_eq_false hlen, decide_eq_false hne]
    rfl
end
theorem c_RParked (f : FR) : g_poacherref14_Parked f = some (parkedB f) := by
  obtain ⟨a0, a1, a2, a3, a4, a5, a6⟩ := f
  unfold g_poacherref14_Parked parkedB
  simp only [beqI]
  by_cases h1 : a0 = 5 <;> by_cases h2 : a6 = 0 <;> simp [h1, h2]
theorem c_RWaits (k : Nat) (hk : 2000 ≤ k) (c : CF) {m : List Int} (hm : Wm m) (w : Int) : g_poacherref14_Waits k c m w = some (waitsB c m w) := by
  unfold g_poacherref14_Waits waitsB
  simp only [Prod.eta]
  rw [c_RMay03, ob_some]
  cases h : mayC c with
  | false => rfl
  | true =>
    have hc := mayC_of h
    rw [Bool.not_true, cond_false, c_RSize, ob_some, bneI]
    by_cases h1 : (m.length : Int) = sizeC c
    · rw [decide_eq_true h1, Bool.not_true, cond_false]
      by_cases h2 : w < 0
      · rw [ltT h2, cond_true, decide_eq_false (by omega)]
        rfl
      · rw [ltF (by omega), cond_false]
        by_cases h3 : c.1 ≤ w
        · rw [leT h3, cond_true, decide_eq_false (by omega)]
          rfl
        · have ok : OkB c m w := ⟨h, h1, by omega, by omega⟩
          have hs := ok.size
          have hr := load_rng hm 2
          have hk2 : 0 ≤ mkB (loadM m 2) ∧ mkB (loadM m 2) ≤ 18446744073709551615 := by unfold mkB; omega
          rw [leF (by omega), cond_false, (load_at ⟨by decide, by omega⟩).1, ob_some, c_RMask hr.1, ob_some, c_RHas k hk hk2.1 hk2.2 (by omega) (by omega), ob_some, decide_eq_true ⟨h1, by omega, by omega⟩]
          rfl
    · rw [decide_eq_false h1, Bool.not_false, cond_true, decide_eq_false (fun hh => h1 hh.1)]
      rfl
theorem c_RStep14 (k : Nat) (hk : 2000 ≤ k) (c : CF) {m : List Int} (hm : Wm m) (hl : m.length ≤ 1000) {f : FR} (hf : Wf f) : g_poacherref14_Step k c m f = some (waitB c m f) := by
  have hr := load_rng hm 2
  unfold g_poacherref14_Step waitB
  simp only [Prod.eta]
  rw [c_RGoes, ob_some]
  cases h : goesB c m f 5 5 with
  | false => rfl
  | true =>
    obtain ⟨_, _, h6, h2, h2', h0, h1, h1'⟩ := goes_pc h
    rw [Bool.not_true, cond_false, if_neg (by simp)]
    obtain ⟨a0, a1, a2, a3, a4, a5, a6⟩ := f
    simp only at h6 h2 h2' h0 h1 h1' ⊢
    obtain ⟨_, w4, w5⟩ := hf
    simp only at w4 w5
    have hp : a1 = 0 ∨ a1 = 1 ∨ a1 = 2 ∨ a1 = 3 ∨ a1 = 4 := by omega
    rcases hp with rfl | rfl | rfl | rfl | rfl
    · simp [c_RLoad, ob_some]
    · simp only [c_RLoad, ob_some, c_REpoch hr.1 hr.2, c_REpoch w4.1 w4.2, bneI, c_REnd]
      by_cases h5 : epB (loadM m 2) = epB a4
      · simp [h5]
      · simp [h5, endB]
    · simp only [c_RSet k hk w5.1 w5.2, ob_some, c_RCas hl]
      cases hc : (casM m 2 a5 (setB a5 a2)).2 <;> simp [hc]
    · simp only [c_RPark, c_RLoad, ob_some, bneI]
      by_cases h5 : loadM m (parkC c a2) = 0
      · simp [h5]
      · simp [h5]
    · simp only [c_RPark, ob_some, c_RStore hl, c_REnd]
      simp [endB]
theorem wait_wm {c : CF} {m : List Int} {f : FR} (hm : Wm m) (hf : Wf f) : (waitB c m f).1.length = m.length := by
  unfold waitB
  split
  · rfl
  · split
    · rfl
    · split
      · split <;> rfl
      · split
        · exact cas_len
        · split
          · rfl
          · exact store_len
end Go.Ab
