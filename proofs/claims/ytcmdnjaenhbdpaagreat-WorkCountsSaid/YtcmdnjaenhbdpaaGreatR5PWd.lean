/- Words of cells, layouts and calls; numbers of 64 bits. -/
import Derived.Test.YtcmdnjaenhbdpaaGreatR5PDef
import Derived.Test.YtcmdnjaenhbdpaaGreatAbLibC
set_option linter.unusedVariables false
set_option linter.unusedSimpArgs false
set_option linter.unusedVariables false
namespace Go.Ab
open Go
abbrev CF := Int × Int × Int × Int
abbrev FR := Int × Int × Int × Int × Int × Int × Int
def mayC (c : CF) : Bool := decide (1 ≤ c.1 ∧ c.1 ≤ 8 ∧ (c.2.1 = 1 ∨ c.2.1 = 2 ∨ c.2.1 = 4 ∨ c.2.1 = 8 ∨ c.2.1 = 16) ∧ 1 ≤ c.2.2.1 ∧ c.2.2.1 ≤ 16 ∧ 0 ≤ c.2.2.2 ∧ c.2.2.2 ≤ 4)
def topC (c : CF) (w : Int) : Int := 6 + 2 * c.2.2.1 + w * (3 + c.2.1)
def sizeC (c : CF) : Int := if mayC c = true then topC c c.1 else 0
def parkC (c : CF) (w : Int) : Int := if mayC c = true ∧ 0 ≤ w ∧ w < c.1 then topC c w + 2 else -1
def loadM (m : List Int) (i : Int) : Int := if 0 ≤ i then (m[i.toNat]?).getD 0 else 0
def storeM (m : List Int) (i v : Int) : List Int := if 0 ≤ i then m.set i.toNat v else m
def casM (m : List Int) (i old new : Int) : List Int × Bool := if 0 ≤ i ∧ i < m.length ∧ loadM m i = old then (storeM m i new, true) else (m, false)
def epB (e : Int) : Int := e / 65536
def mkB (e : Int) : Int := e % 65536
def hasB (x w : Int) : Bool := decide (x / 2 ^ w.toNat % 2 = 1)
def setB (e w : Int) : Int := if 0 ≤ w ∧ w < 16 ∧ hasB e w = false then e + 2 ^ w.toNat else e
def overB (f : FR) : Bool := f.2.2.2.2.2.2 != 0
def endB (f : FR) (res val : Int) : FR := (f.1, 0, f.2.2.1, val, 0, 0, res)
def goesB (c : CF) (m : List Int) (f : FR) (op pcs : Int) : Bool := mayC c && decide ((m.length : Int) = sizeC c) && decide (f.2.2.2.2.2.2 = 0 ∧ 0 ≤ f.2.2.1 ∧ f.2.2.1 < c.1 ∧ f.1 = op ∧ 0 ≤ f.2.1 ∧ f.2.1 < pcs)
def waitB (c : CF) (m : List Int) (f : FR) : List Int × FR :=
  if goesB c m f 5 5 = false then (m, f)
  else if f.2.1 = 0 then (m, f.1, 1, f.2.2.1, f.2.2.2.1, loadM m 2, f.2.2.2.2.2)
  else if f.2.1 = 1 then (if epB (loadM m 2) = epB f.2.2.2.2.1 then (m, f.1, 2, f.2.2.1, f.2.2.2.1, f.2.2.2.2.1, loadM m 2, f.2.2.2.2.2.2) else (m, endB f 4 0))
  else if f.2.1 = 2 then (let r := casM m 2 f.2.2.2.2.2.1 (setB f.2.2.2.2.2.1 f.2.2.1); (r.1, f.1, if r.2 = true then 3 else 1, f.2.2))
  else if f.2.1 = 3 then (let y := loadM m (parkC c f.2.2.1); (m, f.1, if y = 0 then 3 else 4, f.2.2.1, f.2.2.2.1, f.2.2.2.2.1, y, f.2.2.2.2.2.2))
  else (storeM m (parkC c f.2.2.1) 0, endB f 1 0)
structure Wm (m : List Int) : Prop where
  len : m.length ≤ 9223372036854775807
  num : ∀ x ∈ m, 0 ≤ x ∧ x ≤ 18446744073709551615

theorem wrapU {z : Int} (h0 : 0 ≤ z) (h1 : z ≤ 18446744073709551615) : IntKind.u64.wrap z = z := by
  simp [IntKind.wrap, IntKind.bits, IntKind.signed]
  omega
theorem andU {a b : Nat} (ha : a < 18446744073709551616) (hb : b < 18446744073709551616) : andI .u64 (a : Int) (b : Int) = ((a &&& b : Nat) : Int) := by
  unfold andI
  have h : (BitVec.ofInt IntKind.u64.bits (a : Int) &&& BitVec.ofInt IntKind.u64.bits (b : Int)).toNat = a &&& b := by
    rw [BitVec.toNat_and]
    have e : IntKind.u64.bits = 64 := rfl
    rw [e]
    simp only [BitVec.ofInt_natCast, BitVec.toNat_ofNat]
    rw [Nat.mod_eq_of_lt (by omega), Nat.mod_eq_of_lt (by omega)]
  rw [h]
  have : a &&& b ≤ a := Nat.and_le_left
  exact wrapU (by omega) (by omega)
theorem orU {a b : Nat} (ha : a < 18446744073709551616) (hb : b < 18446744073709551616) : orI .u64 (a : Int) (b : Int) = ((a ||| b : Nat) : Int) := by
  unfold orI
  have h : (BitVec.ofInt IntKind.u64.bits (a : Int) ||| BitVec.ofInt IntKind.u64.bits (b : Int)).toNat = a ||| b := by
    rw [BitVec.toNat_or]
    have e : IntKind.u64.bits = 64 := rfl
    rw [e]
    simp only [BitVec.ofInt_natCast, BitVec.toNat_ofNat]
    rw [Nat.mod_eq_of_lt (by omega), Nat.mod_eq_of_lt (by omega)]
  rw [h]
  have : a ||| b < 2 ^ 64 := Nat.or_lt_two_pow (by omega) (by omega)
  exact wrapU (by omega) (by omega)
theorem mask_u {e : Int} (h0 : 0 ≤ e) (h1 : e ≤ 18446744073709551615) : andI .u64 e 65535 = mkB e := by
  obtain ⟨n, rfl⟩ : ∃ n : Nat, e = n := ⟨e.toNat, by omega⟩
  have := andU (a := n) (b := 65535) (by omega) (by omega)
  have h2 : ((65535 : Nat) : Int) = 65535 := rfl
  rw [h2] at this
  rw [this, mkB]
  have h3 : n &&& 65535 = n % 65536 := Nat.and_two_pow_sub_one_eq_mod n 16
  rw [h3]
  omega
theorem shr_u {e w : Int} (h0 : 0 ≤ e) (hw : 0 ≤ w) (hw2 : w ≤ 64) : shrI .u64 e w = e / 2 ^ w.toNat := by
  unfold shrI
  have e1 : IntKind.u64.bits = 64 := rfl
  rw [e1]
  have : min w.toNat 64 = w.toNat := by omega
  rw [this, Int.fdiv_eq_ediv_of_nonneg _ (Int.le_of_lt (Int.pow_pos (by decide)))]
theorem epoch_u {e : Int} (h0 : 0 ≤ e) : shrI .u64 e 16 = epB e := by
  rw [shr_u h0 (by decide) (by decide)]
  rfl
theorem one_u {x : Int} (h0 : 0 ≤ x) (h1 : x ≤ 18446744073709551615) : andI .u64 x 1 = x % 2 := by
  obtain ⟨n, rfl⟩ : ∃ n : Nat, x = n := ⟨x.toNat, by omega⟩
  have := andU (a := n) (b := 1) (by omega) (by omega)
  have h2 : ((1 : Nat) : Int) = 1 := rfl
  rw [h2] at this
  rw [this, Nat.and_one_is_mod]
  omega
theorem div_rng {x w : Int} (h0 : 0 ≤ x) (h1 : x ≤ 18446744073709551615) : 0 ≤ x / 2 ^ w.toNat ∧ x / 2 ^ w.toNat ≤ 18446744073709551615 := by
  have hp : (0 : Int) < 2 ^ w.toNat := Int.pow_pos (by decide)
  have := Int.ediv_nonneg h0 (Int.le_of_lt hp)
  have := Int.ediv_le_self (2 ^ w.toNat) h0
  omega
theorem has_u {x w : Int} (h0 : 0 ≤ x) (h1 : x ≤ 18446744073709551615) (hw : 0 ≤ w) (hw2 : w ≤ 64) : (andI .u64 (shrI .u64 x w) 1 == 1) = hasB x w := by
  have := div_rng (w := w) h0 h1
  rw [shr_u h0 hw hw2, one_u this.1 this.2, hasB, beqI]
theorem shl_u {w : Int} (hw : 0 ≤ w) (hw2 : w < 64) : shlI .u64 1 w = 2 ^ w.toNat := by
  unfold shlI
  have e1 : IntKind.u64.bits = 64 := rfl
  rw [e1]
  have : min w.toNat 64 = w.toNat := by omega
  rw [this, Int.one_mul]
  have h1 : (2 : Nat) ^ w.toNat ≤ 2 ^ 63 := Nat.pow_le_pow_right (by decide) (by omega)
  have h2 : ((2 ^ w.toNat : Nat) : Int) = (2 : Int) ^ w.toNat := by rw [Int.natCast_pow]; rfl
  have h3 : (0 : Int) < 2 ^ w.toNat := Int.pow_pos (by decide)
  exact wrapU (by omega) (by omega)
theorem set_u {e w : Int} (h0 : 0 ≤ e) (h1 : e ≤ 18446744073709551615) (hw : 0 ≤ w) (hw2 : w < 16) : orI .u64 e (2 ^ w.toNat) = setB e w := by
  obtain ⟨n, rfl⟩ : ∃ n : Nat, e = n := ⟨e.toNat, by omega⟩
  have hp : (2 : Nat) ^ w.toNat ≤ 2 ^ 15 := Nat.pow_le_pow_right (by decide) (by omega)
  have h2 : ((2 ^ w.toNat : Nat) : Int) = (2 : Int) ^ w.toNat := by rw [Int.natCast_pow]; rfl
  rw [← h2, orU (by omega) (by omega)]
  have hb : hasB (n : Int) w = n.testBit w.toNat := by
    rw [hasB, Nat.testBit_eq_decide_div_mod_eq, ← h2]
    have : ((n : Int) / ((2 ^ w.toNat : Nat) : Int)) % 2 = ((n / 2 ^ w.toNat % 2 : Nat) : Int) := by rw [Int.natCast_emod, Int.natCast_ediv]; rfl
    rw [this]
    congr 1
    apply propext
    omega
  unfold setB
  cases ht : n.testBit w.toNat with
  | true =>
    rw [hb, ht, if_neg (by simp)]
    congr 1
    apply Nat.eq_of_testBit_eq
    intro i
    rw [Nat.testBit_or, Nat.testBit_two_pow]
    by_cases hi : w.toNat = i
    · subst hi; simp [ht]
    · simp [hi]
  | false =>
    rw [hb, ht, if_pos ⟨hw, hw2, rfl⟩, ← h2]
    have h3 : (BitVec.ofNat 80 n) &&& (BitVec.ofNat 80 (2 ^ w.toNat)) = 0#80 := by
      apply BitVec.eq_of_toNat_eq
      rw [BitVec.toNat_and]
      simp only [BitVec.toNat_ofNat]
      rw [Nat.mod_eq_of_lt (by omega), Nat.mod_eq_of_lt (by omega), Nat.zero_mod]
      apply Nat.eq_of_testBit_eq
      intro i
      rw [Nat.testBit_and, Nat.testBit_two_pow, Nat.zero_testBit]
      by_cases hi : w.toNat = i
      · subst hi; simp [ht]
      · simp [hi]
    have h4 := congrArg BitVec.toNat (BitVec.add_eq_or_of_and_eq_zero _ _ h3)
    rw [BitVec.toNat_add, BitVec.toNat_or] at h4
    simp only [BitVec.toNat_ofNat] at h4
    rw [Nat.mod_eq_of_lt (show n < 2 ^ 80 by omega), Nat.mod_eq_of_lt (show 2 ^ w.toNat < 2 ^ 80 by omega), Nat.mod_eq_of_lt (show n + 2 ^ w.toNat < 2 ^ 80 by omega)] at h4
    rw [← h4]
    omega
theorem load_rng {m : List Int} (hm : Wm m) (i : Int) : 0 ≤ loadM m i ∧ loadM m i ≤ 18446744073709551615 := by
  unfold loadM
  split
  · cases h : m[i.toNat]? with
    | none => simp
    | some x => exact hm.num x (List.mem_of_getElem? h)
  · omega
end Go.Ab
