/- Laws of cells, bits, and steps of one who waits. -/
import Derived.Test.YtcahlnoianbndaaR4PW
set_option linter.unusedVariables false
set_option linter.unusedSimpArgs false
set_option linter.unusedVariables false
namespace Go.Ab
theorem load_store {m : List Int} {i : Int} (v : Int) (h0 : 0 ≤ i) (h1 : i < m.length) : loadM (storeM m i v) i = v := by
  unfold loadM storeM
  rw [if_pos h0, if_pos h0, List.getElem?_set_self (by omega)]
  rfl
theorem load_store_ne {m : List Int} {i j : Int} (v : Int) (h : i ≠ j) : loadM (storeM m i v) j = loadM m j := by
  unfold loadM storeM
  by_cases h0 : 0 ≤ i
  · by_cases h1 : 0 ≤ j
    · rw [if_pos h1, if_pos h0, List.getElem?_set_ne (by omega), if_pos h1]
    · rw [if_neg h1, if_neg h1]
  · rw [if_neg h0]
theorem store_store {m : List Int} {i : Int} (v w : Int) : storeM (storeM m i v) i w = storeM m i w := by
  unfold storeM
  split
  · rw [List.set_set]
  · rfl
theorem store_same {m : List Int} {i : Int} : storeM m i (loadM m i) = m := by
  by_cases h : 0 ≤ i ∧ i < m.length
  · have := (load_at h).2
    unfold storeM
    rw [if_pos h.1]
    rw [List.getElem?_eq_some_iff] at this
    obtain ⟨h3, h4⟩ := this
    rw [← h4, List.set_getElem_self]
  · exact store_out h
structure OkB (c : CF) (m : List Int) (w : Int) : Prop where
  may : mayC c = true
  len : (m.length : Int) = sizeC c
  low : 0 ≤ w
  high : w < c.1
theorem OkB.size {c : CF} {m : List Int} {w : Int} (h : OkB c m w) : (m.length : Int) = topC c c.1 ∧ 12 ≤ m.length ∧ m.length ≤ 190 := by
  have hm := mayC_of h.may
  have ht := top_rng h.may (w := c.1) (by omega) (by omega)
  have hl := h.len
  rw [sizeC, if_pos h.may] at hl
  obtain ⟨W, D, I, S⟩ := c
  simp only [topC] at *
  have : 1 * (3 + D) ≤ W * (3 + D) := Int.mul_le_mul_of_nonneg_right (by omega) (by omega)
  omega
theorem OkB.park {c : CF} {m : List Int} {w : Int} (h : OkB c m w) : parkC c w = topC c w + 2 ∧ 2 < parkC c w ∧ parkC c w < m.length := by
  have hm := mayC_of h.may
  have hs := h.size
  have hl := h.low
  have hh := h.high
  have e : parkC c w = topC c w + 2 := by rw [parkC, if_pos ⟨h.may, h.low, h.high⟩]
  have ht := top_rng h.may hl (by omega)
  rw [e]
  obtain ⟨W, D, I, S⟩ := c
  simp only [topC] at *
  have h2 : (w + 1) * (3 + D) ≤ W * (3 + D) := Int.mul_le_mul_of_nonneg_right (by omega) (by omega)
  have h3 : (w + 1) * (3 + D) = w * (3 + D) + (3 + D) := by rw [Int.add_mul, Int.one_mul]
  exact ⟨trivial, by omega, by omega⟩
theorem park_ne {c : CF} {m : List Int} {v w : Int} (hv : OkB c m v) (hw : OkB c m w) (h : v ≠ w) : parkC c v ≠ parkC c w := by
  have hm := mayC_of hv.may
  rw [hv.park.1, hw.park.1]
  obtain ⟨W, D, I, S⟩ := c
  simp only [topC] at *
  intro e
  have e2 : v * (3 + D) = w * (3 + D) := by omega
  exact h (Int.eq_of_mul_eq_mul_right (by omega) e2)
theorem OkB.store {c : CF} {m : List Int} {w : Int} (h : OkB c m w) (i v : Int) : OkB c (storeM m i v) w := ⟨h.may, by rw [store_len]; exact h.len, h.low, h.high⟩
theorem OkB.other {c : CF} {m : List Int} {w v : Int} (h : OkB c m w) (h0 : 0 ≤ v) (h1 : v < c.1) : OkB c m v := ⟨h.may, h.len, h0, h1⟩
theorem OkB.goes {c : CF} {m : List Int} {w : Int} (h : OkB c m w) {op pc a3 a4 a5 pcs : Int} (h0 : 0 ≤ pc) (h1 : pc < pcs) : goesB c m (op, pc, w, a3, a4, a5, 0) op pcs = true := by
  unfold goesB
  rw [h.may, decide_eq_true h.len]
  simp [h.low, h.high, h0, h1]
theorem okB_of {c : CF} {m : List Int} {f : FR} {op pcs : Int} (h : goesB c m f op pcs = true) : OkB c m f.2.2.1 := by
  obtain ⟨a, b, _, d, e, _⟩ := goes_pc h
  exact ⟨a, b, d, e⟩
section
variable {c : CF} {m : List Int} {w a3 a4 a5 : Int} (h : OkB c m w)
include h
theorem wait0 : waitB c m (5, 0, w, a3, a4, a5, 0) = (m, 5, 1, w, a3, loadM m 2, a5, 0) := by
  unfold waitB
  rw [h.goes (by decide) (by decide)]
  simp
theorem wait1 : waitB c m (5, 1, w, a3, a4, a5, 0) = if epB (loadM m 2) = epB a4 then (m, 5, 2, w, a3, a4, loadM m 2, 0) else (m, 5, 0, w, 0, 0, 0, 4) := by
  unfold waitB
  rw [h.goes (by decide) (by decide)]
  simp [endB]
theorem wait2 : waitB c m (5, 2, w, a3, a4, a5, 0) = if loadM m 2 = a5 then (storeM m 2 (setB a5 w), 5, 3, w, a3, a4, a5, 0) else (m, 5, 1, w, a3, a4, a5, 0) := by
  have hs := h.size
  unfold waitB
  rw [h.goes (by decide) (by decide)]
  simp only [if_neg (show ¬ (true = false) by simp), if_neg (show ¬ ((2 : Int) = 0) by decide), if_neg (show ¬ ((2 : Int) = 1) by decide), if_true, casM]
  by_cases e : loadM m 2 = a5
  · rw [if_pos e, if_pos ⟨by decide, by omega, e⟩]
    rfl
  · rw [if_neg e, if_neg (fun hh => e hh.2.2)]
    rfl
theorem wait3 : waitB c m (5, 3, w, a3, a4, a5, 0) = (m, 5, (if loadM m (parkC c w) = 0 then 3 else 4), w, a3, a4, loadM m (parkC c w), 0) := by
  unfold waitB
  rw [h.goes (by decide) (by decide)]
  simp
theorem wait4 : waitB c m (5, 4, w, a3, a4, a5, 0) = (storeM m (parkC c w) 0, 5, 0, w, 0, 0, 0, 1) := by
  unfold waitB
  rw [h.goes (by decide) (by decide)]
  simp [endB]
end
theorem has_nat (n : Nat) {w : Int} (hw : 0 ≤ w) : hasB (n : Int) w = n.testBit w.toNat := by
  have h2 : ((2 ^ w.toNat : Nat) : Int) = (2 : Int) ^ w.toNat := by rw [Int.natCast_pow]; rfl
  rw [hasB, Nat.testBit_eq_decide_div_mod_eq, ← h2]
  have : ((n : Int) / ((2 ^ w.toNat : Nat) : Int)) % 2 = ((n / 2 ^ w.toNat % 2 : Nat) : Int) := by rw [Int.natCast_emod, Int.natCast_ediv]; rfl
  rw [this]
  congr 1
  apply propext
  omega
theorem set_nat {n : Nat} (hn : n < 18446744073709551616) {w : Int} (hw : 0 ≤ w) (hw2 : w < 16) : setB (n : Int) w = ((n ||| 2 ^ w.toNat : Nat) : Int) := by
  have hp : (2 : Nat) ^ w.toNat ≤ 2 ^ 15 := Nat.pow_le_pow_right (by decide) (by omega)
  have h2 : ((2 ^ w.toNat : Nat) : Int) = (2 : Int) ^ w.toNat := by rw [Int.natCast_pow]; rfl
  rw [← set_u (by omega) (by omega) hw hw2, ← h2, orU hn (by omega)]
theorem has_set {e w v : Int} (h0 : 0 ≤ e) (h1 : e ≤ 18446744073709551615) (hw : 0 ≤ w) (hw2 : w < 16) (hv : 0 ≤ v) : hasB (setB e w) v = (decide (v = w) || hasB e v) := by
  obtain ⟨n, rfl⟩ : ∃ n : Nat, e = n := ⟨e.toNat, by omega⟩
  rw [set_nat (by omega) hw hw2, has_nat _ hv, has_nat _ hv, Nat.testBit_or, Nat.testBit_two_pow]
  by_cases e : v = w
  · subst e; simp
  · have : ¬ w.toNat = v.toNat := by omega
    simp [e, this]
theorem has_mask {e v : Int} (h0 : 0 ≤ e) (hv : 0 ≤ v) (hv2 : v < 16) : hasB (mkB e) v = hasB e v := by
  obtain ⟨n, rfl⟩ : ∃ n : Nat, e = n := ⟨e.toNat, by omega⟩
  have : mkB (n : Int) = ((n % 2 ^ 16 : Nat) : Int) := by unfold mkB; omega
  rw [this, has_nat _ hv, has_nat _ hv, Nat.testBit_mod_two_pow]
  have : v.toNat < 16 := by omega
  simp [this]
theorem ep_set {e w : Int} (h0 : 0 ≤ e) (h1 : e ≤ 18446744073709551615) (hw : 0 ≤ w) (hw2 : w < 16) : epB (setB e w) = epB e := by
  obtain ⟨n, rfl⟩ : ∃ n : Nat, e = n := ⟨e.toNat, by omega⟩
  rw [set_nat (by omega) hw hw2]
  have hp : (2 : Nat) ^ w.toNat < 2 ^ 16 := Nat.pow_lt_pow_right (by decide) (by omega)
  have h2 : (n ||| 2 ^ w.toNat) / 2 ^ 16 = n / 2 ^ 16 := by
    rw [← Nat.shiftRight_eq_div_pow, Nat.shiftRight_or_distrib, Nat.shiftRight_eq_div_pow, Nat.shiftRight_eq_div_pow, Nat.div_eq_of_lt hp, Nat.or_zero]
  unfold epB
  have h3 : ∀ x : Nat, ((x : Int) / 65536) = ((x / 2 ^ 16 : Nat) : Int) := by intro x; omega
  rw [h3, h3, h2]
theorem begin_u (op w : Int) : g_frame_Begin op w 0 = some (op, 0, w, 0, 0, 0, 0) := rfl
theorem wf0 {op pc w : Int} {r : Int} : Wf (op, pc, w, 0, 0, 0, r) := by simp [Wf]
end Go.Ab
