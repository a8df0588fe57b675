/- One who wakes, alone. -/
import Derived.Test.YthnifkacfonhgaaR2GA
import Derived.Test.YthnifkacfonhgaaR2PN2
set_option linter.unusedVariables false
set_option linter.unusedSimpArgs false
set_option linter.unusedVariables false
namespace Go.Ab
theorem note_wm {c : CF} {m : List Int} {f : FR} (hm : Wm m) (hf : Wf f) : Wm (noteB c m f).1 ∧ Wf (noteB c m f).2 ∧ (noteB c m f).1.length = m.length := by
  have hr := load_rng hm 2
  obtain ⟨w3, w4, w5⟩ := hf
  have hk4 := mk_rng w4.1
  have hk5 := mk_rng w5.1
  have hc5 := clr_rng hk5.1 hk5.2
  unfold noteB
  split
  · exact ⟨hm, ⟨w3, w4, w5⟩, rfl⟩
  · split
    · exact ⟨hm, ⟨w3, hr, w5⟩, rfl⟩
    · split
      · split
        · refine ⟨hm.set 2 ?_ ?_, ?_, (by simp only []; exact store_len)⟩
          · split
            · exact (pack_rng _ _).1
            · exact (pack_rng _ _).1
          · split
            · exact (pack_rng _ _).2
            · exact (pack_rng _ _).2
          · have hl := low_rng (mkB f.2.2.2.2.1)
            simp only []
            by_cases hz : mkB f.2.2.2.2.1 = 0
            · rw [if_pos hz]
              exact ⟨by simp [endB], by simp [endB], by simp [endB]⟩
            · rw [if_neg hz]
              refine ⟨w3, w4, ?_⟩
              simp only
              split
              · split <;> omega
              · omega
        · exact ⟨hm, ⟨w3, w4, w5⟩, rfl⟩
      · split
        · exact ⟨hm.set _ (by decide) (by decide), ⟨w5, by simp [endB], by simp [endB]⟩, (by simp only []; exact store_len)⟩
        · refine ⟨hm.set _ (by decide) (by decide), ?_, (by simp only []; exact store_len)⟩
          split
          · exact ⟨by simp [endB]; omega, by simp [endB], by simp [endB]⟩
          · exact ⟨w3, w4, by simp only; omega⟩
def aloneF (c : CF) : Nat → List Int × FR → List Int × FR
  | 0, s => s
  | n + 1, s => aloneF c n (noteB c s.1 s.2)
theorem c_alone {k : Nat} (hk : 1000 ≤ k) (c : CF) {m : List Int} (hm : Wm m) (hl : m.length ≤ 1000) {f : FR} (hf : Wf f) : g_poacherlaw15_alone k c m f = some (aloneF c 20 (m, f)) := by
  have key : ∀ (d i n : Nat) (m1 : List Int) (f1 : FR), Wm m1 → m1.length ≤ 1000 → Wf f1 → i + d = 20 → d < n → g_poacherlaw15_alone_L0 k c m f n m1 (i : Int) f1.1 f1.2.1 f1.2.2.1 f1.2.2.2.1 f1.2.2.2.2.1 f1.2.2.2.2.2.1 f1.2.2.2.2.2.2 = some (aloneF c d (m1, f1)) := by
    intro d
    induction d with
    | zero =>
      intro i n m1 f1 h1 h2 h3 hi hn
      obtain ⟨n, rfl⟩ := fuel hn
      rw [g_poacherlaw15_alone_L0, ltF (by omega), cond_false]
      rfl
    | succ d ih =>
      intro i n m1 f1 h1 h2 h3 hi hn
      obtain ⟨n, rfl⟩ := fuel hn
      obtain ⟨a, b, e⟩ := note_wm (c := c) h1 h3
      rw [g_poacherlaw15_alone_L0, ltT (by omega), cond_true]
      simp only [Prod.eta]
      rw [c_NStep hk c h1 h2 h3, ob_some, wrapS (by omega), ih (i + 1) n _ _ a (by omega) b (by omega) (by omega)]
      rfl
  exact key 20 0 (k + 16) m f hm hl hf rfl (by omega)
theorem alone_over {c : CF} : ∀ (n : Nat) {m : List Int} {f : FR}, f.2.2.2.2.2.2 ≠ 0 → aloneF c n (m, f) = (m, f)
  | 0, _, _, _ => rfl
  | n + 1, m, f, h => by
    have : noteB c m f = (m, f) := by
      unfold noteB ngoesB
      simp [h]
    rw [aloneF, this, alone_over n h]
theorem low_lt {x : Int} (h0 : 0 ≤ x) (h1 : x < 65536) (h : clrB x ≠ 0) : lowB x < lowB (clrB x) ∧ 0 ≤ lowB x := by
  have hc := clr_rng h0 h1
  have hx : 0 ≤ lowB x := by
    rcases low_split h0 h1 with ⟨rfl, h2⟩ | ⟨a, w, _, h2, _⟩
    · exact absurd (by decide : clrB 0 = 0) h
    · omega
  have hy : 0 ≤ lowB (clrB x) := by
    rcases low_split hc.1 (by omega) with ⟨h2, _⟩ | ⟨a, w, _, h2, _⟩
    · exact absurd h2 h
    · omega
  refine ⟨?_, hx⟩
  have hb := low_has hy
  have hr := low_rng (clrB x)
  rw [has_clr h0 h1 hy (by omega)] at hb
  rw [Bool.and_eq_true, decide_eq_true_eq] at hb
  rcases low_cases x with ⟨h2, _⟩ | ⟨j, h2, _, _, h5⟩
  · omega
  · have : ¬ (lowB (clrB x)).toNat < j := fun hlt => by
      have := h5 _ hlt
      have e : (((lowB (clrB x)).toNat : Nat) : Int) = lowB (clrB x) := by omega
      rw [e] at this
      rw [this] at hb
      simp at hb
    omega
/-- OpAll from its last step on. -/
theorem alone_all {c : CF} (X : Int) (hX : 0 ≤ X ∧ X ≤ 18446744073709551615) : ∀ (d : Nat) (m : List Int) (Y : Int), Wm m → mayC c = true → (m.length : Int) = sizeC c → 0 < Y → Y < 65536 → 16 ≤ lowB Y + d →
    ∃ m' f', aloneF c d (m, (7, 2, 0, 0, X, Y, 0)) = (m', f') ∧ Wm m' ∧ m'.length = m.length ∧ loadM m' 2 = loadM m 2 ∧ f'.2.2.2.2.2.2 = 1 ∧ ∀ w, 0 ≤ w → w < c.1 → (loadM m' (parkC c w) = 1 ↔ (loadM m (parkC c w) = 1 ∨ hasB Y w = true))
  | 0, m, Y, hm, hmay, hlen, h0, h1, hd => by
    have := low_rng Y
    omega
  | d + 1, m, Y, hm, hmay, hlen, h0, h1, hd => by
    have hmc := mayC_of hmay
    have hg : ngoesB c m (7, 2, 0, 0, X, Y, 0) = true := by
      unfold ngoesB
      rw [hmay, decide_eq_true hlen]
      simp
    have hmk : mkB Y = Y := by unfold mkB; omega
    have hst : noteB c m (7, 2, 0, 0, X, Y, 0) = (wakeB c m (lowB Y), if clrB Y = 0 then endB (7, 2, 0, 0, X, Y, 0) 1 (mkB X) else (7, 2, 0, 0, X, clrB Y, 0)) := by
      unfold noteB
      rw [hg]
      simp [hmk]
    have hly : 0 ≤ lowB Y := by
      rcases low_split (by omega) h1 with ⟨h2, _⟩ | ⟨a, w, _, h2, _⟩
      · omega
      · omega
    have hwm : Wm (wakeB c m (lowB Y)) := hm.set _ (by decide) (by decide)
    have hwl : (wakeB c m (lowB Y)).length = m.length := store_len
    have ok0 : OkB c m 0 := ⟨hmay, hlen, by decide, by omega⟩
    have hsz := ok0.size
    have hw2 : loadM (wakeB c m (lowB Y)) 2 = loadM m 2 := by
      unfold wakeB
      by_cases hin : lowB Y < c.1
      · have := (ok0.other hly hin).park
        exact load_store_ne _ (by omega)
      · have h2 : parkC c (lowB Y) = -1 := by rw [parkC, if_neg (fun hh => hin hh.2.2)]
        rw [h2, store_out (by omega)]
    have hwp : ∀ w, 0 ≤ w → w < c.1 → (loadM (wakeB c m (lowB Y)) (parkC c w) = 1 ↔ (loadM m (parkC c w) = 1 ∨ lowB Y = w)) := by
      intro w hw0 hw1
      have ok := ok0.other hw0 hw1
      have hp := ok.park
      unfold wakeB
      by_cases e : lowB Y = w
      · rw [e, load_store 1 (by omega) hp.2.2]
        simp
      · have : loadM (storeM m (parkC c (lowB Y)) 1) (parkC c w) = loadM m (parkC c w) := by
          by_cases hin : lowB Y < c.1
          · exact load_store_ne _ (park_ne (ok0.other hly hin) ok e)
          · have h2 : parkC c (lowB Y) = -1 := by rw [parkC, if_neg (fun hh => hin hh.2.2)]
            rw [h2, store_out (by omega)]
        rw [this]
        simp [e]
    rw [aloneF, hst]
    by_cases hz : clrB Y = 0
    · rw [if_pos hz]
      refine ⟨_, _, alone_over d (by simp [endB]), hwm, hwl, hw2, by simp [endB], fun w hw0 hw1 => ?_⟩
      rw [hwp w hw0 hw1]
      have hcl := has_clr (x := Y) (by omega) h1 hw0 (by omega)
      rw [hz] at hcl
      have h00 : hasB 0 w = false := by
        have := has_nat 0 (w := w) hw0
        rw [Nat.zero_testBit] at this
        exact this
      rw [h00] at hcl
      constructor
      · rintro (h | h)
        · exact .inl h
        · exact .inr (by rw [← h]; exact low_has hly)
      · rintro (h | h)
        · exact .inl h
        · rw [h, Bool.true_and] at hcl
          have := hcl.symm
          rw [decide_eq_false_iff_not] at this
          exact .inr (by omega)
    · rw [if_neg hz]
      have hc := clr_rng (x := Y) (by omega) h1
      have hlt := low_lt (x := Y) (by omega) h1 hz
      obtain ⟨m', f', a1, a2, a3, a4, a5, a6⟩ := alone_all X hX d (wakeB c m (lowB Y)) (clrB Y) hwm hmay (by rw [hwl]; exact hlen) (by omega) (by omega) (by omega)
      refine ⟨m', f', a1, a2, by rw [a3, hwl], by rw [a4, hw2], a5, fun w hw0 hw1 => ?_⟩
      rw [a6 w hw0 hw1, hwp w hw0 hw1, has_clr (x := Y) (by omega) h1 hw0 (by omega)]
      constructor
      · rintro ((h | h) | h)
        · exact .inl h
        · exact .inr (by rw [← h]; exact low_has hly)
        · rw [Bool.and_eq_true] at h
          exact .inr h.1
      · rintro (h | h)
        · exact .inl (.inl h)
        · by_cases e : w = lowB Y
          · exact .inl (.inr e.symm)
          · exact .inr (by rw [h, Bool.true_and, decide_eq_true e])
/-- Alone, one who wakes ends; the event's word is a fresh one; and who is woken. -/
theorem alone_law {c : CF} {m : List Int} (hm : Wm m) (hmay : mayC c = true) (hlen : (m.length : Int) = sizeC c) {op : Int} (hop : op = 6 ∨ op = 7) :
    ∃ m' f', aloneF c 20 (m, (op, 0, 0, 0, 0, 0, 0)) = (m', f') ∧ Wm m' ∧ m'.length = m.length ∧ loadM m' 2 = (if op = 6 then bumpB (loadM m 2) else wipeB (loadM m 2)) ∧ overB f' = true ∧ (f'.2.2.2.2.2.2 = 3 ↔ mkB (loadM m 2) = 0) ∧
      ∀ w, 0 ≤ w → w < c.1 → loadM m (parkC c w) = 0 → (loadM m' (parkC c w) = 1 ↔ (hasB (mkB (loadM m 2)) w = true ∧ (op = 7 ∨ lowB (mkB (loadM m 2)) = w))) := by
  have hmc := mayC_of hmay
  have hr := load_rng hm 2
  have hk := mk_rng hr.1
  have ok0 : OkB c m 0 := ⟨hmay, hlen, by decide, by omega⟩
  have hsz := ok0.size
  have hg : ∀ (m1 : List Int) (pc x y : Int), (m1.length : Int) = sizeC c → 0 ≤ pc → pc ≤ 2 → ngoesB c m1 (op, pc, 0, 0, x, y, 0) = true := by
    intro m1 pc x y h1 h2 h3
    unfold ngoesB
    rw [hmay, decide_eq_true h1, decide_eq_true (show op = 6 ∨ op = 7 from hop)]
    simp [h2, h3]
  have s0 : noteB c m (op, 0, 0, 0, 0, 0, 0) = (m, (op, 1, 0, 0, loadM m 2, 0, 0)) := by
    unfold noteB
    rw [hg m 0 0 0 hlen (by decide) (by decide)]
    simp
  have s1 : noteB c m (op, 1, 0, 0, loadM m 2, 0, 0) = (storeM m 2 (if op = 6 then bumpB (loadM m 2) else wipeB (loadM m 2)), if mkB (loadM m 2) = 0 then endB (op, 1, 0, 0, loadM m 2, 0, 0) 3 0 else (op, 2, 0, 0, loadM m 2, (if op = 6 then (if lowB (mkB (loadM m 2)) < 0 then 0 else lowB (mkB (loadM m 2))) else mkB (loadM m 2)), 0)) := by
    unfold noteB
    rw [hg m 1 _ 0 hlen (by decide) (by decide)]
    simp
  have e20 : aloneF c 20 (m, (op, 0, 0, 0, 0, 0, 0)) = aloneF c 18 (noteB c m (op, 1, 0, 0, loadM m 2, 0, 0)) := by
    rw [aloneF, s0, aloneF]
  rw [e20, s1]
  have hfr : 0 ≤ (if op = 6 then bumpB (loadM m 2) else wipeB (loadM m 2)) ∧ (if op = 6 then bumpB (loadM m 2) else wipeB (loadM m 2)) ≤ 18446744073709551615 := by
    split
    · exact pack_rng _ _
    · exact pack_rng _ _
  generalize hF : (if op = 6 then bumpB (loadM m 2) else wipeB (loadM m 2)) = F at hfr
  have hm1 : Wm (storeM m 2 F) := hm.set 2 hfr.1 hfr.2
  have hl1 : (storeM m 2 F).length = m.length := store_len
  have h12 : loadM (storeM m 2 F) 2 = F := load_store F (by decide) (by omega)
  have h1p : ∀ w, 0 ≤ w → w < c.1 → loadM (storeM m 2 F) (parkC c w) = loadM m (parkC c w) := by
    intro w h0 h1
    have := (ok0.other h0 h1).park
    exact load_store_ne _ (by omega)
  generalize storeM m 2 F = m1 at hm1 hl1 h12 h1p
  generalize hM : mkB (loadM m 2) = M at hk
  by_cases hz : M = 0
  · rw [if_pos hz]
    refine ⟨_, _, alone_over 18 (by simp [endB]), hm1, hl1, h12, by simp [overB, endB], by simp [endB, hz], fun w h0 h1 hp => ?_⟩
    rw [h1p w h0 h1, hp]
    have h00 : hasB 0 w = false := by
      have := has_nat 0 (w := w) h0
      rw [Nat.zero_testBit] at this
      exact this
    simp [hz, h00]
  · rw [if_neg hz]
    have hlow : 0 ≤ lowB M := by
      rcases low_split hk.1 hk.2 with ⟨h2, _⟩ | ⟨a, w, _, h2, _⟩
      · exact absurd h2 hz
      · omega
    rcases hop with rfl | rfl
    · rw [if_pos rfl, if_neg (by omega)]
      have hlr := low_rng M
      have s2 : noteB c m1 (6, 2, 0, 0, loadM m 2, lowB M, 0) = (wakeB c m1 (if lowB M < 8 then lowB M else -1), endB (6, 2, 0, 0, loadM m 2, lowB M, 0) 1 (lowB M)) := by
        unfold noteB
        rw [hg m1 2 _ _ (by rw [hl1]; exact hlen) (by decide) (by decide)]
        simp
      rw [aloneF, s2]
      have hwl : ∀ v, (wakeB c m1 v).length = m1.length := fun v => store_len
      refine ⟨_, _, alone_over 17 (by simp [endB]), hm1.set _ (by decide) (by decide), by rw [hwl, hl1], ?_, by simp [overB, endB], by simp [endB, hz], fun w h0 h1 hp => ?_⟩
      · unfold wakeB
        have ok1 : OkB c m1 0 := ⟨hmay, by rw [hl1]; exact hlen, by decide, by omega⟩
        by_cases hin : 0 ≤ (if lowB M < 8 then lowB M else -1) ∧ (if lowB M < 8 then lowB M else -1) < c.1
        · have := (ok1.other hin.1 hin.2).park
          rw [load_store_ne _ (by omega), h12]
        · have h2 : parkC c (if lowB M < 8 then lowB M else -1) = -1 := by rw [parkC, if_neg (fun hh => hin ⟨hh.2.1, hh.2.2⟩)]
          rw [h2, store_out (by omega), h12]
      · have ok1 : OkB c m1 w := ⟨hmay, by rw [hl1]; exact hlen, h0, h1⟩
        rw [wake_load ok1 (by rw [h1p w h0 h1, hp])]
        constructor
        · intro e
          have e2 : lowB M = w := by
            split at e <;> omega
          exact ⟨by rw [← e2]; exact low_has hlow, .inr e2⟩
        · rintro ⟨_, h | h⟩
          · omega
          · rw [h, if_pos (by omega)]
    · rw [if_neg (by decide)]
      obtain ⟨m', f', a1, a2, a3, a4, a5, a6⟩ := alone_all (c := c) (loadM m 2) hr 18 m1 M hm1 hmay (by rw [hl1]; exact hlen) (by omega) hk.2 (by omega)
      refine ⟨m', f', a1, a2, by rw [a3, hl1], by rw [a4, h12], by simp [overB, a5], by rw [a5]; simp [hz], fun w h0 h1 hp => ?_⟩
      rw [a6 w h0 h1, h1p w h0 h1, hp]
      simp
end Go.Ab
