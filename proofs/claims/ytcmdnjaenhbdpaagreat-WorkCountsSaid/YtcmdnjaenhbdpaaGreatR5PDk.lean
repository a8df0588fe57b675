/- Words of the deque's calls. -/
import Derived.Test.YtcmdnjaenhbdpaaGreatR5PSub
import Derived.Test.YtcmdnjaenhbdpaaGreatR5GD
set_option linter.unusedVariables false
set_option linter.unusedSimpArgs false
set_option linter.unusedVariables false
namespace Go.Ab
def onW (c : CF) (w x : Int) : Int := if mayC c = true ∧ 0 ≤ w ∧ w < c.1 then topC c w + x else -1
def topA (c : CF) (w : Int) : Int := onW c w 0
def botA (c : CF) (w : Int) : Int := onW c w 1
def slotA (c : CF) (w x : Int) : Int := onW c w (3 + andI .u64 x (c.2.1 - 1))
def subU (a b : Int) : Int := (a - b) % 18446744073709551616
def pushB (c : CF) (m : List Int) (f : FR) : List Int × FR :=
  if goesB c m f 0 4 = false then (m, f)
  else if f.2.1 = 0 then (m, f.1, 1, f.2.2.1, f.2.2.2.1, loadM m (botA c f.2.2.1), f.2.2.2.2.2)
  else if f.2.1 = 1 then (if c.2.1 ≤ subU f.2.2.2.2.1 (loadM m (topA c f.2.2.1)) then (m, endB f 2 f.2.2.2.1) else (m, f.1, 2, f.2.2.1, f.2.2.2.1, f.2.2.2.2.1, loadM m (topA c f.2.2.1), f.2.2.2.2.2.2))
  else if f.2.1 = 2 then (storeM m (slotA c f.2.2.1 f.2.2.2.2.1) f.2.2.2.1, f.1, 3, f.2.2)
  else (storeM m (botA c f.2.2.1) (addU f.2.2.2.2.1 1), endB f 1 f.2.2.2.1)
def popB (c : CF) (m : List Int) (f : FR) : List Int × FR :=
  if goesB c m f 1 7 = false then (m, f)
  else if f.2.1 = 0 then (m, f.1, 1, f.2.2.1, f.2.2.2.1, subU (loadM m (botA c f.2.2.1)) 1, f.2.2.2.2.2)
  else if f.2.1 = 1 then (storeM m (botA c f.2.2.1) f.2.2.2.2.1, f.1, 2, f.2.2)
  else if f.2.1 = 2 then (m, f.1, if farB f.2.2.2.2.1 (loadM m (topA c f.2.2.1)) < 0 then 6 else 3, f.2.2.1, f.2.2.2.1, f.2.2.2.2.1, loadM m (topA c f.2.2.1), f.2.2.2.2.2.2)
  else if f.2.1 = 3 then (if f.2.2.2.2.1 ≠ f.2.2.2.2.2.1 then (m, endB f 1 (loadM m (slotA c f.2.2.1 f.2.2.2.2.1))) else (m, f.1, 4, f.2.2.1, loadM m (slotA c f.2.2.1 f.2.2.2.2.1), f.2.2.2.2))
  else if f.2.1 = 4 then (let r := casM m (topA c f.2.2.1) f.2.2.2.2.2.1 (addU f.2.2.2.2.2.1 1); (r.1, f.1, if r.2 = true then 5 else 6, f.2.2))
  else if f.2.1 = 5 then (storeM m (botA c f.2.2.1) (addU f.2.2.2.2.1 1), endB f 1 f.2.2.2.1)
  else (storeM m (botA c f.2.2.1) (addU f.2.2.2.2.1 1), endB f 3 0)
def stealB (c : CF) (m : List Int) (f : FR) : List Int × FR :=
  if goesB c m f 2 4 = false then (m, f)
  else if f.2.1 = 0 then (m, f.1, 1, f.2.2.1, f.2.2.2.1, f.2.2.2.2.1, loadM m (topA c f.2.2.1), f.2.2.2.2.2.2)
  else if f.2.1 = 1 then (if farB (loadM m (botA c f.2.2.1)) f.2.2.2.2.2.1 ≤ 0 then (m, endB f 3 0) else (m, f.1, 2, f.2.2.1, f.2.2.2.1, loadM m (botA c f.2.2.1), f.2.2.2.2.2))
  else if f.2.1 = 2 then (m, f.1, 3, f.2.2.1, loadM m (slotA c f.2.2.1 f.2.2.2.2.2.1), f.2.2.2.2)
  else (let r := casM m (topA c f.2.2.1) f.2.2.2.2.2.1 (addU f.2.2.2.2.2.1 1); if r.2 = true then (r.1, endB f 1 f.2.2.2.1) else (r.1, endB f 4 0))
def deckB (c : CF) (m : List Int) (f : FR) : List Int × FR := if f.1 = 0 then pushB c m f else if f.1 = 1 then popB c m f else if f.1 = 2 then stealB c m f else (m, f)
def callK (c : CF) (m : List Int) (f : FR) : List Int × FR := if f.1 = 0 ∨ f.1 = 1 ∨ f.1 = 2 then deckB c m f else callB c m f
theorem sub_u (a b : Int) : IntKind.u64.wrap (a - b) = subU a b := by rw [wrap64u]; rfl
theorem and_rng {x D : Int} (h0 : 0 ≤ x) (h1 : x ≤ 18446744073709551615) (hD : 1 ≤ D) (hE : D ≤ 16) : 0 ≤ andI .u64 x (D - 1) ∧ andI .u64 x (D - 1) ≤ D - 1 := by
  obtain ⟨a, rfl⟩ := Int.eq_ofNat_of_zero_le h0
  obtain ⟨b, hb⟩ : ∃ b : Nat, D - 1 = (b : Int) := ⟨(D - 1).toNat, by omega⟩
  rw [hb, andU (by omega) (by omega)]
  have := Nat.and_le_right (n := a) (m := b)
  omega
theorem c_Top (c : CF) (w : Int) : g_lay_Top c w = some (topA c w) := by
  unfold g_lay_Top topA onW
  try simp only [Prod.eta]
  rw [c_May14, ob_some]
  cases h : mayC c with
  | false => simp
  | true =>
    have hm := mayC_of h
    rw [Bool.not_true, cond_false, wrapI (by omega), c_in, ob_some]
    by_cases h1 : 0 ≤ w ∧ w ≤ c.1 - 1
    · have ht := top_rng h h1.1 (by omega)
      rw [decide_eq_true h1, Bool.not_true, cond_false, c_base h (by omega) (by omega), ob_some, if_pos ⟨rfl, by omega, by omega⟩, Int.add_zero]
    · rw [decide_eq_false h1, Bool.not_false, cond_true, if_neg (by omega)]
theorem c_Bot (c : CF) (w : Int) : g_lay_Bottom c w = some (botA c w) := by
  unfold g_lay_Bottom botA onW
  try simp only [Prod.eta]
  rw [c_May14, ob_some]
  cases h : mayC c with
  | false => simp
  | true =>
    have hm := mayC_of h
    rw [Bool.not_true, cond_false, wrapI (by omega), c_in, ob_some]
    by_cases h1 : 0 ≤ w ∧ w ≤ c.1 - 1
    · have ht := top_rng h h1.1 (by omega)
      rw [decide_eq_true h1, Bool.not_true, cond_false, c_base h (by omega) (by omega), ob_some, wrapI (by omega), if_pos ⟨rfl, by omega, by omega⟩]
    · rw [decide_eq_false h1, Bool.not_false, cond_true, if_neg (by omega)]
theorem c_Slot (c : CF) (w : Int) {x : Int} (h0 : 0 ≤ x) (hx : x ≤ 18446744073709551615) : g_lay_Slot c w x = some (slotA c w x) := by
  unfold g_lay_Slot slotA onW
  try simp only [Prod.eta]
  rw [c_May14, ob_some]
  cases h : mayC c with
  | false => simp
  | true =>
    have hm := mayC_of h
    rw [Bool.not_true, cond_false, wrapI (z := c.1 - 1) (by omega), c_in, ob_some]
    by_cases h1 : 0 ≤ w ∧ w ≤ c.1 - 1
    · have ht := top_rng h h1.1 (by omega)
      have ha := and_rng h0 hx (show 1 ≤ c.2.1 by omega) (by omega)
      rw [decide_eq_true h1, Bool.not_true, cond_false, c_base h (by omega) (by omega), ob_some, if_pos ⟨rfl, by omega, by omega⟩, wrapI (z := c.2.1 - 1) (by omega), wrapU (z := c.2.1 - 1) (by omega) (by omega), wrapI (z := andI .u64 x (c.2.1 - 1)) (by omega), wrapI (z := topC c w + 3) (by omega), wrapI (by omega), Int.add_assoc]
    · rw [decide_eq_false h1, Bool.not_false, cond_true, if_neg (by omega)]
section
variable (k : Nat) (c : CF) (m : List Int) (a2 a3 a4 a5 : Int) (n : Nat) {x : List Int} (p q : Int)
theorem skip10 : g_steal_Step_L0 k c m (2, 1, a2, a3, a4, a5, 0) (n + 1) x p q 0 = g_steal_Step_L0 k c m (2, 1, a2, a3, a4, a5, 0) n x p q 1 := by
  rw [g_steal_Step_L0]
  rfl
theorem skip20 : g_steal_Step_L0 k c m (2, 2, a2, a3, a4, a5, 0) (n + 1) x p q 0 = g_steal_Step_L0 k c m (2, 2, a2, a3, a4, a5, 0) n x p q 1 := by
  rw [g_steal_Step_L0]
  rfl
theorem skip21 : g_steal_Step_L0 k c m (2, 2, a2, a3, a4, a5, 0) (n + 1) x p q 1 = g_steal_Step_L0 k c m (2, 2, a2, a3, a4, a5, 0) n x p q 2 := by
  rw [g_steal_Step_L0]
  rfl
theorem skip30 : g_steal_Step_L0 k c m (2, 3, a2, a3, a4, a5, 0) (n + 1) x p q 0 = g_steal_Step_L0 k c m (2, 3, a2, a3, a4, a5, 0) n x p q 1 := by
  rw [g_steal_Step_L0]
  rfl
theorem skip31 : g_steal_Step_L0 k c m (2, 3, a2, a3, a4, a5, 0) (n + 1) x p q 1 = g_steal_Step_L0 k c m (2, 3, a2, a3, a4, a5, 0) n x p q 2 := by
  rw [g_steal_Step_L0]
  rfl
theorem skip32 : g_steal_Step_L0 k c m (2, 3, a2, a3, a4, a5, 0) (n + 1) x p q 2 = g_steal_Step_L0 k c m (2, 3, a2, a3, a4, a5, 0) n x p q 3 := by
  rw [g_steal_Step_L0]
  rfl
theorem round0 : g_steal_Step_L0 k c m (2, 0, a2, a3, a4, a5, 0) (n + 1) x p q 0 = some (x, (2, 1, a2, a3, a4, loadM x p, 0)) := by
  have e : g_steal_Step_L0 k c m (2, 0, a2, a3, a4, a5, 0) (n + 1) x p q 0 = ob (g_cell_Load x p) fun r => some (x, (2, 1, a2, a3, a4, r, 0)) := by
    rw [g_steal_Step_L0]
    rfl
  rw [e, c_Load, ob_some]
theorem round1 : g_steal_Step_L0 k c m (2, 1, a2, a3, a4, a5, 0) (n + 1) x p q 1 = some (if farB (loadM x q) a5 ≤ 0 then (x, (2, 0, a2, 0, 0, 0, 3)) else (x, (2, 2, a2, a3, loadM x q, a5, 0))) := by
  have e : g_steal_Step_L0 k c m (2, 1, a2, a3, a4, a5, 0) (n + 1) x p q 1 = ob (g_cell_Load x q) fun r => ob (g_word_Far r a5) fun y => bif decide (y ≤ 0) then some (x, (2, 0, a2, 0, 0, 0, 3)) else some (x, (2, 2, a2, a3, r, a5, 0)) := by
    rw [g_steal_Step_L0]
    rfl
  rw [e, c_Load, ob_some, c_Far, ob_some]
  by_cases h : farB (loadM x q) a5 ≤ 0
  · rw [leT h, cond_true, if_pos h]
  · rw [leF (by omega), cond_false, if_neg h]
theorem round2 (h0 : 0 ≤ a5) (h1 : a5 ≤ 18446744073709551615) : g_steal_Step_L0 k c m (2, 2, a2, a3, a4, a5, 0) (n + 1) x p q 2 = some (x, (2, 3, a2, loadM x (slotA c a2 a5), a4, a5, 0)) := by
  have e : g_steal_Step_L0 k c m (2, 2, a2, a3, a4, a5, 0) (n + 1) x p q 2 = ob (g_lay_Slot c a2 a5) fun s => ob (g_cell_Load x s) fun r => some (x, (2, 3, a2, r, a4, a5, 0)) := by
    rw [g_steal_Step_L0]
    rfl
  rw [e, c_Slot c a2 h0 h1, ob_some, c_Load, ob_some]
theorem round3 (hl : x.length ≤ 1000) : g_steal_Step_L0 k c m (2, 3, a2, a3, a4, a5, 0) (n + 1) x p q 3 = some (if (casM x p a5 (addU a5 1)).2 = true then ((casM x p a5 (addU a5 1)).1, (2, 0, a2, a3, 0, 0, 1)) else ((casM x p a5 (addU a5 1)).1, (2, 0, a2, 0, 0, 0, 4))) := by
  have e : g_steal_Step_L0 k c m (2, 3, a2, a3, a4, a5, 0) (n + 1) x p q 3 = ob (g_cell_Cas x p a5 (IntKind.u64.wrap (a5 + 1))) fun r => bif r.2 then some (r.1, (2, 0, a2, a3, 0, 0, 1)) else some (r.1, (2, 0, a2, 0, 0, 0, 4)) := by
    rw [g_steal_Step_L0]
    rfl
  rw [e, add_u, c_Cas hl, ob_some]
  cases (casM x p a5 (addU a5 1)).2 <;> rfl
end
section
variable (c : CF) {m : List Int} (hm : Wm m) (hl : m.length ≤ 1000) {f : FR} (hf : Wf f)
include hm hl hf
theorem c_PushStep : g_push_Step c m f = some (pushB c m f) := by
  have _h := hm
  unfold g_push_Step pushB
  try simp only [Prod.eta]
  rw [clone_ok (by omega), ob_some, c_Goes, ob_some]
  cases h : goesB c m f 0 4 with
  | false => rfl
  | true =>
    obtain ⟨hmay, _, h6, h2, h2', h0, h1, h1'⟩ := goes_pc h
    have hc := mayC_of hmay
    rw [cond_true, if_neg (by simp)]
    obtain ⟨a0, a1, a2, a3, a4, a5, a6⟩ := f
    simp only at h6 h2 h2' h0 h1 h1' ⊢
    obtain ⟨w3, w4, w5⟩ := hf
    simp only at w3 w4 w5
    rcases (show a1 = 0 ∨ a1 = 1 ∨ a1 = 2 ∨ a1 = 3 by omega) with rfl | rfl | rfl | rfl
    · simp [c_Bot, c_Load, ob_some]
    · simp only [c_Top, c_Load, ob_some, c_End6, sub_u, wrapU (z := c.2.1) (by omega) (by omega)]
      by_cases h5 : c.2.1 ≤ subU a4 (loadM m (topA c a2))
      · simp [h5, endB]
      · simp [h5]
    · simp only [c_Slot c a2 w4.1 w4.2, c_Store hl, ob_some]
      simp
    · simp only [c_Bot, c_Store hl, ob_some, c_End6, add_u]
      simp [endB]
theorem c_PopStep : g_pop_Step c m f = some (popB c m f) := by
  have _h := hm
  unfold g_pop_Step popB
  try simp only [Prod.eta]
  rw [clone_ok (by omega), ob_some, c_Goes, ob_some]
  cases h : goesB c m f 1 7 with
  | false => rfl
  | true =>
    obtain ⟨hmay, _, h6, h2, h2', h0, h1, h1'⟩ := goes_pc h
    rw [Bool.not_true, cond_false, if_neg (by simp)]
    obtain ⟨a0, a1, a2, a3, a4, a5, a6⟩ := f
    simp only at h6 h2 h2' h0 h1 h1' ⊢
    obtain ⟨w3, w4, w5⟩ := hf
    simp only at w3 w4 w5
    rw [c_Top, ob_some, c_Bot, ob_some]
    have hw : ∀ z : Int, 0 ≤ z → z ≤ 100 → IntKind.i64.wrap (z + 1) = z + 1 := fun z _ _ => wrapI (by omega)
    rcases (show a1 = 0 ∨ a1 = 1 ∨ a1 = 2 ∨ a1 = 3 ∨ a1 = 4 ∨ a1 = 5 ∨ a1 = 6 by omega) with rfl | rfl | rfl | rfl | rfl | rfl | rfl
    · rw [hw 0 (by decide) (by decide)]
      simp [c_Load, ob_some, sub_u]
    · rw [hw 1 (by decide) (by decide)]
      simp [c_Store hl, ob_some]
    · rw [hw 2 (by decide) (by decide)]
      simp only [c_Load, ob_some, c_Far]
      by_cases h5 : farB a4 (loadM m (topA c a2)) < 0
      · simp [h5]
      · simp [h5]
    · rw [hw 3 (by decide) (by decide)]
      simp only [c_Slot c a2 w4.1 w4.2, c_Load, ob_some, c_End6, bneI]
      by_cases h5 : a4 = a5
      · simp [h5]
      · simp [h5, endB]
    · rw [hw 4 (by decide) (by decide)]
      simp only [add_u, c_Cas hl, ob_some]
      cases hc : (casM m (topA c a2) a5 (addU a5 1)).2 <;> simp [hc]
    · simp only [add_u, c_Store hl, ob_some, c_End6]
      simp [endB]
    · simp only [add_u, c_Store hl, ob_some, c_End6]
      simp [endB]
theorem c_StealStep (k : Nat) : g_steal_Step k c m f = some (stealB c m f) := by
  have _h := hm
  unfold g_steal_Step stealB
  try simp only [Prod.eta]
  rw [clone_ok (by omega), ob_some, c_Goes, ob_some]
  cases h : goesB c m f 2 4 with
  | false => rfl
  | true =>
    obtain ⟨hmay, _, h6, h2, h2', h0, h1, h1'⟩ := goes_pc h
    rw [Bool.not_true, cond_false, if_neg (by simp)]
    obtain ⟨a0, a1, a2, a3, a4, a5, a6⟩ := f
    simp only at h6 h2 h2' h0 h1 h1' ⊢
    obtain ⟨w3, w4, w5⟩ := hf
    simp only at w3 w4 w5
    subst h6
    subst h0
    rw [c_Top, ob_some, c_Bot, ob_some]
    rcases (show a1 = 0 ∨ a1 = 1 ∨ a1 = 2 ∨ a1 = 3 by omega) with rfl | rfl | rfl | rfl
    · rw [if_pos rfl]
      exact round0 k c m a2 a3 a4 a5 (k + 22) _ _
    · rw [if_neg (by decide), if_pos rfl]
      exact (skip10 k c m a2 a3 a4 a5 (k + 22) _ _).trans (round1 k c m a2 a3 a4 a5 (k + 21) _ _)
    · rw [if_neg (by decide), if_neg (by decide), if_pos rfl]
      exact (skip20 k c m a2 a3 a4 a5 (k + 22) _ _).trans ((skip21 k c m a2 a3 a4 a5 (k + 21) _ _).trans (round2 k c m a2 a3 a4 a5 (k + 20) _ _ w5.1 w5.2))
    · rw [if_neg (by decide), if_neg (by decide), if_neg (by decide)]
      exact (skip30 k c m a2 a3 a4 a5 (k + 22) _ _).trans ((skip31 k c m a2 a3 a4 a5 (k + 21) _ _).trans ((skip32 k c m a2 a3 a4 a5 (k + 20) _ _).trans (round3 k c m a2 a3 a4 a5 (k + 19) _ _ hl)))
theorem c_DeckStep (k : Nat) : g_deque_Step k c m f = some (deckB c m f) := by
  unfold g_deque_Step deckB
  simp only [Prod.eta, c_PushStep c hm hl hf, c_PopStep c hm hl hf, c_StealStep c hm hl hf, ob_some, beqI]
  by_cases h0 : f.1 = 0
  · simp [h0]
  · by_cases h1 : f.1 = 1
    · simp [h1]
    · by_cases h2 : f.1 = 2
      · simp [h2]
      · simp [h0, h1, h2, clone_ok (b := 8) (l := m) (by omega), ob_some]
end
end Go.Ab
