/- Words of one who wakes; the lowest bit. -/
import Derived.Test.YtcmdnjaenhbdpaaGreatR5PW2
set_option linter.unusedVariables false
set_option linter.unusedSimpArgs false
set_option linter.unusedVariables false
namespace Go.Ab
def packB (e m : Int) : Int := e % 281474976710656 * 65536 + m % 65536
def lowF (x : Int) : Nat → Nat → Int
  | _, 0 => -1
  | i, d + 1 => if hasB x i = true then (i : Int) else lowF x (i + 1) d
def lowB (x : Int) : Int := lowF x 0 16
def clrB (x : Int) : Int := if lowB x < 0 then 0 else x - 2 ^ (lowB x).toNat
def bumpB (x : Int) : Int := packB (epB x + 1) (clrB (mkB x))
def wipeB (x : Int) : Int := packB (epB x + 1) 0
def wakeB (c : CF) (m : List Int) (w : Int) : List Int := storeM m (parkC c w) 1
def ngoesB (c : CF) (m : List Int) (f : FR) : Bool := decide (f.1 = 6 ∨ f.1 = 7) && mayC c && decide ((m.length : Int) = sizeC c) && decide (f.2.2.2.2.2.2 = 0 ∧ 0 ≤ f.2.1 ∧ f.2.1 ≤ 2)
def noteB (c : CF) (m : List Int) (f : FR) : List Int × FR :=
  if ngoesB c m f = false then (m, f)
  else if f.2.1 = 0 then (m, f.1, 1, f.2.2.1, f.2.2.2.1, loadM m 2, f.2.2.2.2.2)
  else if f.2.1 = 1 then
    (if loadM m 2 = f.2.2.2.2.1 then
      (storeM m 2 (if f.1 = 6 then bumpB f.2.2.2.2.1 else wipeB f.2.2.2.2.1),
        if mkB f.2.2.2.2.1 = 0 then endB f 3 0 else (f.1, 2, f.2.2.1, f.2.2.2.1, f.2.2.2.2.1, (if f.1 = 6 then (if lowB (mkB f.2.2.2.2.1) < 0 then 0 else lowB (mkB f.2.2.2.2.1)) else mkB f.2.2.2.2.1), f.2.2.2.2.2.2))
    else (m, f.1, 0, f.2.2))
  else if f.1 = 6 then (wakeB c m (if f.2.2.2.2.2.1 < 8 then f.2.2.2.2.2.1 else -1), endB f 1 f.2.2.2.2.2.1)
  else (wakeB c m (lowB f.2.2.2.2.2.1), if clrB (mkB f.2.2.2.2.2.1) = 0 then endB f 1 (mkB f.2.2.2.2.1) else (f.1, 2, f.2.2.1, f.2.2.2.1, f.2.2.2.2.1, clrB (mkB f.2.2.2.2.2.1), f.2.2.2.2.2.2))
theorem lowF_cases (x : Int) : ∀ (d i : Nat), (lowF x i d = -1 ∧ ∀ j : Nat, i ≤ j → j < i + d → hasB x j = false) ∨ (∃ j : Nat, lowF x i d = j ∧ i ≤ j ∧ j < i + d ∧ hasB x j = true ∧ ∀ l : Nat, i ≤ l → l < j → hasB x l = false)
  | 0, i => .inl ⟨rfl, fun j h1 h2 => by omega⟩
  | d + 1, i => by
    by_cases h : hasB x i = true
    · exact .inr ⟨i, by rw [lowF, if_pos h], by omega, by omega, h, fun l h1 h2 => by omega⟩
    · have e : lowF x i (d + 1) = lowF x (i + 1) d := by rw [lowF, if_neg h]
      rw [e]
      rcases lowF_cases x d (i + 1) with ⟨h1, h2⟩ | ⟨j, h1, h2, h3, h4, h5⟩
      · refine .inl ⟨h1, fun j h3 h4 => ?_⟩
        by_cases e2 : i = j
        · subst e2; simpa using h
        · exact h2 j (by omega) (by omega)
      · refine .inr ⟨j, h1, by omega, by omega, h4, fun l h6 h7 => ?_⟩
        by_cases e2 : i = l
        · subst e2; simpa using h
        · exact h5 l (by omega) h7
theorem low_cases (x : Int) : (lowB x = -1 ∧ ∀ j : Nat, j < 16 → hasB x j = false) ∨ (∃ j : Nat, lowB x = j ∧ j < 16 ∧ hasB x j = true ∧ ∀ l : Nat, l < j → hasB x l = false) := by
  rcases lowF_cases x 16 0 with ⟨h1, h2⟩ | ⟨j, h1, h2, h3, h4, h5⟩
  · exact .inl ⟨h1, fun j h => h2 j (by omega) (by omega)⟩
  · exact .inr ⟨j, h1, by omega, h4, fun l h => h5 l (by omega) h⟩
theorem bit_and {a w : Nat} : (2 ^ (w + 1) * a + 2 ^ w) &&& (2 ^ (w + 1) * a + (2 ^ w - 1)) = 2 ^ (w + 1) * a := by
  have hp : 0 < 2 ^ w := Nat.pow_pos (by decide)
  have hs : 2 ^ (w + 1) = 2 * 2 ^ w := by rw [Nat.pow_succ, Nat.mul_comm]
  apply Nat.eq_of_testBit_eq
  intro j
  have e0 : 2 ^ (w + 1) * a = 2 ^ (w + 1) * a + 0 := rfl
  rw [Nat.testBit_and, Nat.testBit_two_pow_mul_add a (by omega), Nat.testBit_two_pow_mul_add a (by omega), e0, Nat.testBit_two_pow_mul_add a (by omega)]
  by_cases h : j < w + 1
  · rw [if_pos h, if_pos h, if_pos h, Nat.testBit_two_pow, Nat.testBit_two_pow_sub_one, Nat.zero_testBit]
    by_cases h2 : w = j
    · subst h2; simp
    · simp [h2]
  · rw [if_neg h, if_neg h, if_neg h, Bool.and_self]
theorem low_split {x : Int} (h0 : 0 ≤ x) (h1 : x < 65536) : (x = 0 ∧ lowB x = -1) ∨ (∃ a w : Nat, x = ((2 ^ (w + 1) * a + 2 ^ w : Nat) : Int) ∧ lowB x = w ∧ w < 16) := by
  obtain ⟨n, rfl⟩ : ∃ n : Nat, x = n := ⟨x.toNat, by omega⟩
  have hb : ∀ j : Nat, hasB (n : Int) (j : Int) = n.testBit j := fun j => has_nat n (by omega)
  rcases low_cases (n : Int) with ⟨h2, h3⟩ | ⟨w, h2, h3, h4, h5⟩
  · refine .inl ⟨?_, h2⟩
    have : n = 0 := by
      apply Nat.eq_of_testBit_eq
      intro j
      rw [Nat.zero_testBit]
      by_cases hj : j < 16
      · rw [← hb]; exact h3 j hj
      · exact Nat.testBit_lt_two_pow (Nat.lt_of_lt_of_le (show n < 2 ^ 16 by omega) (Nat.pow_le_pow_right (by decide) (by omega)))
    omega
  · refine .inr ⟨n / 2 ^ (w + 1), w, ?_, h2, h3⟩
    congr 1
    have hm : n % 2 ^ (w + 1) = 2 ^ w := by
      apply Nat.eq_of_testBit_eq
      intro j
      rw [Nat.testBit_mod_two_pow, Nat.testBit_two_pow]
      by_cases hj : j < w
      · have := h5 j hj
        rw [hb] at this
        have h6 : ¬ w = j := by omega
        simp [this, h6]
      · by_cases hj2 : w = j
        · subst hj2
          rw [hb] at h4
          simp [h4]
        · have h6 : ¬ j < w + 1 := by omega
          simp [h6, hj2]
    have := Nat.div_add_mod n (2 ^ (w + 1))
    omega
theorem clr_u {x : Int} (h0 : 0 ≤ x) (h1 : x < 65536) : andI .u64 x (IntKind.u64.wrap (x - 1)) = clrB x := by
  unfold clrB
  rcases low_split h0 h1 with ⟨rfl, h2⟩ | ⟨a, w, rfl, h2, h3⟩
  · rw [h2]
    decide +kernel
  · have hp : 0 < 2 ^ w := Nat.pow_pos (by decide)
    have e : ((2 ^ (w + 1) * a + 2 ^ w : Nat) : Int) - 1 = ((2 ^ (w + 1) * a + (2 ^ w - 1) : Nat) : Int) := by
      generalize 2 ^ (w + 1) * a = y
      generalize 2 ^ w = z at hp
      omega
    rw [h2, if_neg (by omega), Int.toNat_natCast, e]
    have hlt : 2 ^ (w + 1) * a + 2 ^ w < 65536 := by omega
    rw [wrapU (by omega) (by generalize 2 ^ (w + 1) * a = y at hlt ⊢; generalize 2 ^ w = z at hlt ⊢; omega), andU (by omega) (by generalize 2 ^ (w + 1) * a = y at hlt ⊢; generalize 2 ^ w = z at hlt ⊢; omega), bit_and]
    have hw : ((2 ^ w : Nat) : Int) = (2 : Int) ^ w := by rw [Int.natCast_pow]; rfl
    rw [← hw]
    generalize 2 ^ (w + 1) * a = y
    generalize (2 : Nat) ^ w = z
    omega
theorem clr_rng {x : Int} (h0 : 0 ≤ x) (h1 : x < 65536) : 0 ≤ clrB x ∧ clrB x ≤ x := by
  unfold clrB
  rcases low_split h0 h1 with ⟨rfl, h2⟩ | ⟨a, w, rfl, h2, h3⟩
  · rw [h2]; decide
  · rw [h2, if_neg (by omega), Int.toNat_natCast]
    have hw : ((2 ^ w : Nat) : Int) = (2 : Int) ^ w := by rw [Int.natCast_pow]; rfl
    rw [← hw]
    generalize 2 ^ (w + 1) * a = y
    generalize (2 : Nat) ^ w = z
    omega
theorem pack_u {e m : Int} (h0 : 0 ≤ e) (m0 : 0 ≤ m) (m1 : m ≤ 18446744073709551615) : orI .u64 (shlI .u64 e 16) (andI .u64 m 65535) = packB e m := by
  rw [mask_u m0 m1]
  have hs : shlI .u64 e 16 = ((2 ^ 16 * (e.toNat % 281474976710656) : Nat) : Int) := by
    unfold shlI
    have e1 : min (16 : Int).toNat IntKind.u64.bits = 16 := by decide
    rw [e1]
    simp [IntKind.wrap, IntKind.bits, IntKind.signed]
    omega
  have hm : mkB m = ((m.toNat % 65536 : Nat) : Int) := by unfold mkB; omega
  rw [hs, hm, orU (by omega) (by omega), ← Nat.two_pow_add_eq_or_of_lt (by omega), packB]
  omega
end Go.Ab
