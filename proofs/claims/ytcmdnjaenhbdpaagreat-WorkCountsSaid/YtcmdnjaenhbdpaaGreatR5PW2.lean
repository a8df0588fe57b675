/- Laws of cells, bits, and steps of one who waits. -/
import Derived.Test.YtcmdnjaenhbdpaaGreatR5PW
set_option linter.unusedVariables false
set_option linter.unusedSimpArgs false
set_option linter.unusedVariables false
namespace Go.Ab
theorem load_store {m : List Int} {i : Int} (v : Int) (h0 : 0 ≤ i) (h1 : i < m.length) : loadM (storeM m i v) i = v := by
  unfold loadM storeM
  rw [if_pos h0, if_pos h0, List.getElem?_set_self (by omega)]
  rfl
theorem load_store_ne {m : List Int} {i j : Int} (v : Int) (h : i ≠ j) : loadM (storeM m i v) j = loadM m j := by
  unfold loadM storeM
  by_cases h0 : 0 ≤ i
  · by_cases h1 : 0 ≤ j
    · rw [if_pos h1, if_pos h0, List.getElem?_set_ne (by omega), if_pos h1]
    · rw [if_neg h1, if_neg h1]
  · rw [if_neg h0]
structure OkB (c : CF) (m : List Int) (w : Int) : Prop where
  may : mayC c = true
  len : (m.length : Int) = sizeC c
  low : 0 ≤ w
  high : w < c.1
theorem OkB.size {c : CF} {m : List Int} {w : Int} (h : OkB c m w) : (m.length : Int) = topC c c.1 ∧ 12 ≤ m.length ∧ m.length ≤ 190 := by
  have hm := mayC_of h.may
  have ht := top_rng h.may (w := c.1) (by omega) (by omega)
  have hl := h.len
  rw [sizeC, if_pos h.may] at hl
  obtain ⟨W, D, I, S⟩ := c
  simp only [topC] at *
  have : 1 * (3 + D) ≤ W * (3 + D) := Int.mul_le_mul_of_nonneg_right (by omega) (by omega)
  omega
theorem OkB.store {c : CF} {m : List Int} {w : Int} (h : OkB c m w) (i v : Int) : OkB c (storeM m i v) w := ⟨h.may, by rw [store_len]; exact h.len, h.low, h.high⟩
theorem OkB.other {c : CF} {m : List Int} {w v : Int} (h : OkB c m w) (h0 : 0 ≤ v) (h1 : v < c.1) : OkB c m v := ⟨h.may, h.len, h0, h1⟩
theorem OkB.goes {c : CF} {m : List Int} {w : Int} (h : OkB c m w) {op pc a3 a4 a5 pcs : Int} (h0 : 0 ≤ pc) (h1 : pc < pcs) : goesB c m (op, pc, w, a3, a4, a5, 0) op pcs = true := by
  unfold goesB
  rw [h.may, decide_eq_true h.len]
  simp [h.low, h.high, h0, h1]
section
variable {c : CF} {m : List Int} {w a3 a4 a5 : Int} (h : OkB c m w)
include h
end
theorem has_nat (n : Nat) {w : Int} (hw : 0 ≤ w) : hasB (n : Int) w = n.testBit w.toNat := by
  have h2 : ((2 ^ w.toNat : Nat) : Int) = (2 : Int) ^ w.toNat := by rw [Int.natCast_pow]; rfl
  rw [hasB, Nat.testBit_eq_decide_div_mod_eq, ← h2]
  have : ((n : Int) / ((2 ^ w.toNat : Nat) : Int)) % 2 = ((n / 2 ^ w.toNat % 2 : Nat) : Int) := by rw [Int.natCast_emod, Int.natCast_ediv]; rfl
  rw [this]
  congr 1
  apply propext
  omega
theorem wf0 {op pc w : Int} {r : Int} : Wf (op, pc, w, 0, 0, 0, r) := by simp [Wf]
end Go.Ab
