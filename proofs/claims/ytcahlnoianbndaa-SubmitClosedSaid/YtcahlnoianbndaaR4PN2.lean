/- Laws of steps of one who wakes. -/
import Derived.Test.YtcahlnoianbndaaR4PN
import Derived.Test.YtcahlnoianbndaaR4PWf3
set_option linter.unusedVariables false
set_option linter.unusedSimpArgs false
set_option linter.unusedVariables false
namespace Go.Ab
theorem lowF_congr {x y : Int} : ∀ (d i : Nat), (∀ j : Nat, i ≤ j → j < i + d → hasB x j = hasB y j) → lowF x i d = lowF y i d
  | 0, _, _ => rfl
  | d + 1, i, h => by rw [lowF, lowF, h i (by omega) (by omega), lowF_congr d (i + 1) fun j a b => h j (by omega) (by omega)]
theorem low_mk {x : Int} (h0 : 0 ≤ x) : lowB (mkB x) = lowB x := lowF_congr 16 0 fun j _ hj => has_mask h0 (by omega) (by omega)
theorem has_clr {x w : Int} (h0 : 0 ≤ x) (h1 : x < 65536) (hw : 0 ≤ w) (hw2 : w < 16) : hasB (clrB x) w = (hasB x w && decide (w ≠ lowB x)) := by
  obtain ⟨v, rfl⟩ : ∃ v : Nat, w = v := ⟨w.toNat, by omega⟩
  unfold clrB
  rcases low_split h0 h1 with ⟨rfl, h2⟩ | ⟨a, l, rfl, h2, h3⟩
  · rw [h2, if_pos (by decide)]
    have := has_nat 0 (w := (v : Int)) (by omega)
    rw [Nat.zero_testBit] at this
    have e : ((0 : Nat) : Int) = 0 := rfl
    rw [e] at this
    rw [this]
    rfl
  · have hp : 0 < 2 ^ l := Nat.pow_pos (by decide)
    have hs : 2 ^ (l + 1) = 2 * 2 ^ l := by rw [Nat.pow_succ, Nat.mul_comm]
    rw [h2, if_neg (by omega), Int.toNat_natCast]
    have hw : ((2 ^ l : Nat) : Int) = (2 : Int) ^ l := by rw [Int.natCast_pow]; rfl
    rw [← hw]
    have e : ((2 ^ (l + 1) * a + 2 ^ l : Nat) : Int) - ((2 ^ l : Nat) : Int) = ((2 ^ (l + 1) * a + 0 : Nat) : Int) := by
      generalize 2 ^ (l + 1) * a = y
      generalize (2 : Nat) ^ l = z
      omega
    rw [e, has_nat _ (by omega), has_nat _ (by omega), Int.toNat_natCast, Nat.testBit_two_pow_mul_add a (by omega), Nat.testBit_two_pow_mul_add a (by omega)]
    by_cases h : v < l + 1
    · rw [if_pos h, if_pos h, Nat.testBit_two_pow, Nat.zero_testBit]
      by_cases h4 : l = v
      · subst h4; simp
      · simp [h4]
    · rw [if_neg h, if_neg h]
      have : (v : Int) ≠ (l : Int) := by omega
      simp [this]
theorem low_has {x : Int} (h : 0 ≤ lowB x) : hasB x (lowB x) = true := by
  rcases low_cases x with ⟨h1, _⟩ | ⟨j, h1, _, h2, _⟩
  · omega
  · rw [h1]; exact h2
theorem wake_load {c : CF} {m : List Int} {w v : Int} (ok : OkB c m w) (p0 : loadM m (parkC c w) = 0) : (loadM (wakeB c m v) (parkC c w) = 1 ↔ v = w) := by
  have hp := ok.park
  unfold wakeB
  by_cases e : v = w
  · subst e
    rw [load_store 1 (by omega) hp.2.2]
    simp
  · have : loadM (storeM m (parkC c v) 1) (parkC c w) = 0 := by
      by_cases h : 0 ≤ v ∧ v < c.1
      · rw [load_store_ne _ (park_ne (ok.other h.1 h.2) ok e), p0]
      · have h2 : parkC c v = -1 := by rw [parkC, if_neg (fun hh => h ⟨hh.2.1, hh.2.2⟩)]
        rw [h2, store_out (by omega), p0]
    rw [this]
    simp [e]
end Go.Ab
