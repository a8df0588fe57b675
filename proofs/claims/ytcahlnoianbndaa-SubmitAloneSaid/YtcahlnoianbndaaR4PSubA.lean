/- One who submits, alone, at a new pool. -/
import Derived.Test.YtcahlnoianbndaaR4PSubd
set_option linter.unusedVariables false
set_option linter.unusedSimpArgs false
set_option linter.unusedVariables false
namespace Go.Ab
structure InvA (c : CF) (a : Nat) (m : List Int) : Prop where
  wm : Wm m
  may : mayC c = true
  len : (m.length : Int) = sizeC c
  l0 : loadM m 0 = a
  l1 : loadM m 1 = 0
  mask : mkB (loadM m 2) = 0
  l3 : loadM m 3 = 0
  l5 : loadM m 5 = a
  sq : ∀ j : Nat, (j : Int) < c.2.2.1 → loadM m (6 + j) = if j < a then 1 else 0
  le : (a : Int) ≤ c.2.2.1
def runS2 (c : CF) (t : List (Int × List Int)) : Nat → List Int × SB → Option (List EV × List Int × SB)
  | 0, s => some ([], s)
  | n + 1, s => if maySB c t s.1 s.2 = true then (match runS2 c t n ((subB c t s.1 0 s.2).1, (subB c t s.1 0 s.2).2.1) with | some r => some ((subB c t s.1 0 s.2).2.2 ++ r.1, r.2) | none => none) else none
theorem run_step {c : CF} {t : List (Int × List Int)} {n : Nat} {m m' : List Int} {x x' : SB} {e : List EV} (h : maySB c t m x = true) (hs : subB c t m 0 x = (m', x', e)) : runS2 c t (n + 1) (m, x) = (match runS2 c t n (m', x') with | some r => some (e ++ r.1, r.2) | none => none) := by
  rw [runS2]
  simp only [h, if_true, hs]
section
variable {c : CF} {t : List (Int × List Int)} {m : List Int} {l : List Int} {F : FR}
theorem sub0 (h : maySB c t m (0, l, F) = true) (h3 : loadM m 3 = 0) : subB c t m 0 (0, l, F) = (m, (1, l, F), []) := by
  unfold subB
  rw [h, if_neg (by simp), if_pos rfl, if_neg (by simp [h3])]
theorem sub1 (h : maySB c t m (1, l, F) = true) : subB c t m 0 (1, l, F) = (storeM m 0 (addU (loadM m 0) 1), (2, l, (3, 0, 0, headI l, 0, 0, 0)), []) := by
  unfold subB
  rw [h, if_neg (by simp), if_neg (by simp), if_pos rfl]
theorem sub2 (h : maySB c t m (2, l, F) = true) {m' : List Int} {F' : FR} (hc : callB c m F = (m', F')) : subB c t m 0 (2, l, F) = if overB F' = false then (m', (2, l, F'), []) else if F'.2.2.2.2.2.2 = 2 then (m', (5, l, F'), []) else (m', (3, l, F'), [(0, headI l, 0)]) := by
  unfold subB
  rw [h, if_neg (by simp), if_neg (by simp), if_neg (by simp), if_pos rfl, hc]
theorem sub2a (h : maySB c t m (2, l, F) = true) {m' : List Int} {F' : FR} (hc : callB c m F = (m', F')) (ho : F'.2.2.2.2.2.2 = 0) : subB c t m 0 (2, l, F) = (m', (2, l, F'), []) := by
  rw [sub2 h hc, if_pos (by simp [overB, ho])]
theorem sub2b (h : maySB c t m (2, l, F) = true) {m' : List Int} {F' : FR} (hc : callB c m F = (m', F')) (ho : F'.2.2.2.2.2.2 = 2) : subB c t m 0 (2, l, F) = (m', (5, l, F'), []) := by
  rw [sub2 h hc, if_neg (by simp [overB, ho]), if_pos ho]
theorem sub2c (h : maySB c t m (2, l, F) = true) {m' : List Int} {F' : FR} (hc : callB c m F = (m', F')) (ho : F'.2.2.2.2.2.2 = 1) : subB c t m 0 (2, l, F) = (m', (3, l, F'), [(0, headI l, 0)]) := by
  rw [sub2 h hc, if_neg (by simp [overB, ho]), if_neg (by omega)]
theorem sub3 (h : maySB c t m (3, l, F) = true) (h1 : loadM m 1 = 0) : subB c t m 0 (3, l, F) = (m, (4, l, (6, 0, 0, 0, 0, 0, 0)), []) := by
  unfold subB
  rw [h, if_neg (by simp), if_neg (by simp), if_neg (by simp), if_neg (by simp), if_pos rfl, if_neg (by simp [h1])]
theorem sub4 (h : maySB c t m (4, l, F) = true) {m' : List Int} {F' : FR} (hc : callB c m F = (m', F')) : subB c t m 0 (4, l, F) = if overB F' = true then (m', (0, l.tail, zeroF), []) else (m', (4, l, F'), []) := by
  unfold subB
  rw [h, if_neg (by simp), if_neg (by simp), if_neg (by simp), if_neg (by simp), if_neg (by simp), if_pos rfl, hc]
theorem sub4a (h : maySB c t m (4, l, F) = true) {m' : List Int} {F' : FR} (hc : callB c m F = (m', F')) (ho : F'.2.2.2.2.2.2 = 0) : subB c t m 0 (4, l, F) = (m', (4, l, F'), []) := by
  rw [sub4 h hc, if_neg (by simp [overB, ho])]
theorem sub4b (h : maySB c t m (4, l, F) = true) {m' : List Int} {F' : FR} (hc : callB c m F = (m', F')) (ho : F'.2.2.2.2.2.2 ≠ 0) : subB c t m 0 (4, l, F) = (m', (0, l.tail, zeroF), []) := by
  rw [sub4 h hc, if_pos (by simp [overB, ho])]
theorem sub5 (h : maySB c t m (5, l, F) = true) : subB c t m 0 (5, l, F) = (storeM m 0 (addU (loadM m 0) 18446744073709551615), (0, l.tail, zeroF), if loadM m 0 = 1 then [(1, headI l, 0), (5, 0, 0)] else [(1, headI l, 0)]) := by
  unfold subB
  rw [h, if_neg (by simp), if_neg (by simp), if_neg (by simp), if_neg (by simp), if_neg (by simp), if_neg (by simp)]
theorem may_pc {m' : List Int} {pc pc' : Int} {F' : FR} (h : maySB c t m (pc, l, F) = true) (hl : m'.length = m.length) (h0 : 0 ≤ pc') (h6 : pc' < 6) : maySB c t m' (pc', l, F') = true := by
  unfold maySB at h ⊢
  simp only [Bool.and_eq_true, decide_eq_true_eq] at h ⊢
  rw [hl]
  exact ⟨h.1, h0, h6, h.2.2.2⟩
end
section
variable {c : CF} {m : List Int} {w v X Y : Int} (hmay : mayC c = true) (hlen : (m.length : Int) = sizeC c)
include hmay hlen
theorem enq0 : callB c m (3, 0, w, v, X, Y, 0) = (m, (3, 1, w, v, loadM m 5, Y, 0)) := by
  unfold callB injB enqB egoesB
  simp [hmay, hlen]
theorem enq1 : callB c m (3, 1, w, v, X, Y, 0) = if loadM m (seqC c X) = freeB c X then (m, (3, 2, w, v, X, loadM m (seqC c X), 0)) else if farB (loadM m (seqC c X)) (freeB c X) < 0 then (m, (3, 0, w, v, 0, 0, 2)) else (m, (3, 0, w, v, X, loadM m (seqC c X), 0)) := by
  unfold callB injB enqB egoesB
  simp [hmay, hlen, endB]
theorem enq2 : callB c m (3, 2, w, v, X, Y, 0) = ((casM m 5 X (addU X 1)).1, (3, if (casM m 5 X (addU X 1)).2 = true then 3 else 0, w, v, X, Y, 0)) := by
  unfold callB injB enqB egoesB
  simp [hmay, hlen]
theorem enq3s : callB c m (3, 3, w, v, X, Y, 0) = (storeM m (valC c X) v, (3, 4, w, v, X, Y, 0)) := by
  unfold callB injB enqB egoesB
  simp [hmay, hlen]
theorem enq4 : callB c m (3, 4, w, v, X, Y, 0) = (storeM m (seqC c X) (addU (freeB c X) 1), (3, 0, w, v, 0, 0, 1)) := by
  unfold callB injB enqB egoesB
  simp [hmay, hlen, endB]
theorem nte0 : callB c m (6, 0, w, v, X, Y, 0) = (m, (6, 1, w, v, loadM m 2, Y, 0)) := by
  unfold callB evtB noteB ngoesB
  simp [hmay, hlen]
theorem nte1 (h0 : loadM m 2 = X) (hk : mkB X = 0) : callB c m (6, 1, w, v, X, Y, 0) = (storeM m 2 (bumpB X), (6, 0, w, 0, 0, 0, 3)) := by
  unfold callB evtB noteB ngoesB
  simp [hmay, hlen, endB, h0, hk]
end
theorem mk_bump {X : Int} (hk : mkB X = 0) : mkB (bumpB X) = 0 := by
  have hl0 : lowB (mkB X) = -1 := by rw [hk]; decide
  have e : mkB (bumpB X) = mkB (clrB (mkB X)) := by unfold bumpB mkB packB; omega
  rw [e]
  unfold clrB
  rw [hl0, if_pos (by decide)]
  decide
theorem ten_steps {c : CF} {t : List (Int × List Int)} {m : List Int} {a : Nat} {r : Int} {rest : List Int} (h : InvA c a m) (ha : (a : Int) < c.2.2.1) (hm : maySB c t m (0, r :: rest, zeroF) = true) (hr : 0 ≤ r ∧ r ≤ 18446744073709551615) :
    ∃ m', runS2 c t 10 (m, (0, r :: rest, zeroF)) = some ([(0, r, 0)], m', (0, rest, zeroF)) ∧ InvA c (a + 1) m' := by
  have hc := mayC_of h.may
  have hsz := (show OkB c m 0 from ⟨h.may, h.len, by decide, by omega⟩).size
  have hsize : 8 + 2 * c.2.2.1 ≤ m.length := by
    have ht := top_rng h.may (w := c.1) (by omega) (by omega)
    have e : topC c c.1 = 6 + 2 * c.2.2.1 + c.1 * (3 + c.2.1) := rfl
    have h3 : 1 * (3 + c.2.1) ≤ c.1 * (3 + c.2.1) := Int.mul_le_mul_of_nonneg_right (by omega) (by omega)
    omega
  have eseq : seqC c (a : Int) = 6 + (a : Int) := by unfold seqC; rw [if_pos h.may, Int.emod_eq_of_lt (by omega) ha]
  have eval : valC c (a : Int) = 6 + c.2.2.1 + (a : Int) := by unfold valC; rw [if_pos h.may, Int.emod_eq_of_lt (by omega) ha]
  have efree : freeB c (a : Int) = 0 := by unfold freeB; rw [Int.ediv_eq_zero_of_lt (by omega) ha]; rfl
  have a1 : ∀ x : Nat, x ≤ 100 → addU (x : Int) 1 = ((x + 1 : Nat) : Int) := fun x hx => by unfold addU; omega
  -- the memories
  obtain ⟨m1, e1⟩ : ∃ m1, m1 = storeM m 0 ((a + 1 : Nat) : Int) := ⟨_, rfl⟩
  obtain ⟨m2, e2⟩ : ∃ m2, m2 = storeM m1 5 ((a + 1 : Nat) : Int) := ⟨_, rfl⟩
  obtain ⟨m3, e3⟩ : ∃ m3, m3 = storeM m2 (6 + c.2.2.1 + (a : Int)) r := ⟨_, rfl⟩
  obtain ⟨m4, e4⟩ : ∃ m4, m4 = storeM m3 (6 + (a : Int)) 1 := ⟨_, rfl⟩
  obtain ⟨m5, e5⟩ : ∃ m5, m5 = storeM m4 2 (bumpB (loadM m 2)) := ⟨_, rfl⟩
  have k1 : m1.length = m.length := by rw [e1]; exact store_len
  have k2 : m2.length = m.length := by rw [e2, store_len, k1]
  have k3 : m3.length = m.length := by rw [e3, store_len, k2]
  have k4 : m4.length = m.length := by rw [e4, store_len, k3]
  have k5 : m5.length = m.length := by rw [e5, store_len, k4]
  have ld1 : ∀ j : Int, j ≠ 0 → loadM m1 j = loadM m j := fun j hj => by rw [e1]; exact load_store_ne _ (fun e => hj e.symm)
  have ld2 : ∀ j : Int, j ≠ 5 → loadM m2 j = loadM m1 j := fun j hj => by rw [e2]; exact load_store_ne _ (fun e => hj e.symm)
  have ld3 : ∀ j : Int, j ≠ 6 + c.2.2.1 + (a : Int) → loadM m3 j = loadM m2 j := fun j hj => by rw [e3]; exact load_store_ne _ (fun e => hj e.symm)
  have ld4 : ∀ j : Int, j ≠ 6 + (a : Int) → loadM m4 j = loadM m3 j := fun j hj => by rw [e4]; exact load_store_ne _ (fun e => hj e.symm)
  have ld5 : ∀ j : Int, j ≠ 2 → loadM m5 j = loadM m4 j := fun j hj => by rw [e5]; exact load_store_ne _ (fun e => hj e.symm)
  have hX : loadM m4 2 = loadM m 2 := by rw [ld4 _ (by omega), ld3 _ (by omega), ld2 _ (by decide), ld1 _ (by decide)]
  have M : ∀ (m' : List Int) (pc : Int) (F : FR), m'.length = m.length → 0 ≤ pc → pc < 6 → maySB c t m' (pc, r :: rest, F) = true := fun m' pc F hl h0 h6 => may_pc hm hl h0 h6
  have L : ∀ m' : List Int, m'.length = m.length → (m'.length : Int) = sizeC c := fun m' hl => by rw [hl]; exact h.len
  refine ⟨m5, ?_, ?_⟩
  · rw [run_step hm (sub0 hm h.l3)]
    have s1 := sub1 (M m 1 zeroF rfl (by decide) (by decide))
    rw [h.l0, a1 a (by omega), ← e1] at s1
    rw [run_step (M m 1 zeroF rfl (by decide) (by decide)) s1]
    have c0 := enq0 (w := 0) (v := headI (r :: rest)) (X := 0) (Y := 0) h.may (L m1 k1)
    rw [run_step (M m1 2 _ k1 (by decide) (by decide)) (sub2a (M m1 2 _ k1 (by decide) (by decide)) c0 rfl), ld1 5 (by decide), h.l5]
    have c1 := enq1 (w := 0) (v := headI (r :: rest)) (X := (a : Int)) (Y := 0) h.may (L m1 k1)
    have q1 : loadM m1 (6 + (a : Int)) = 0 := by
      rw [ld1 _ (by omega), h.sq a ha, if_neg (by omega)]
    rw [eseq, efree, q1, if_pos rfl] at c1
    rw [run_step (M m1 2 _ k1 (by decide) (by decide)) (sub2a (M m1 2 _ k1 (by decide) (by decide)) c1 rfl)]
    have c2 := enq2 (w := 0) (v := headI (r :: rest)) (X := (a : Int)) (Y := 0) h.may (L m1 k1)
    have q2 : casM m1 5 (a : Int) (addU (a : Int) 1) = (m2, true) := by
      unfold casM
      rw [if_pos ⟨by decide, by rw [k1]; omega, by rw [ld1 5 (by decide), h.l5]⟩, a1 a (by omega), ← e2]
    rw [q2] at c2
    simp only [if_true] at c2
    rw [run_step (M m1 2 _ k1 (by decide) (by decide)) (sub2a (M m1 2 _ k1 (by decide) (by decide)) c2 rfl)]
    have c3 := enq3s (w := 0) (v := headI (r :: rest)) (X := (a : Int)) (Y := 0) h.may (L m2 k2)
    rw [eval, show headI (r :: rest) = r from rfl, ← e3] at c3
    rw [show headI (r :: rest) = r from rfl, run_step (M m2 2 _ k2 (by decide) (by decide)) (sub2a (M m2 2 _ k2 (by decide) (by decide)) c3 rfl)]
    have c4 := enq4 (w := 0) (v := r) (X := (a : Int)) (Y := 0) h.may (L m3 k3)
    have q4 : addU 0 1 = 1 := by decide
    rw [eseq, efree, q4, ← e4] at c4
    rw [run_step (M m3 2 _ k3 (by decide) (by decide)) (sub2c (M m3 2 _ k3 (by decide) (by decide)) c4 rfl)]
    have q5 : loadM m4 1 = 0 := by rw [ld4 _ (by omega), ld3 _ (by omega), ld2 _ (by decide), ld1 _ (by decide), h.l1]
    rw [run_step (M m4 3 _ k4 (by decide) (by decide)) (sub3 (M m4 3 _ k4 (by decide) (by decide)) q5)]
    have c5 := nte0 (w := 0) (v := 0) (X := 0) (Y := 0) h.may (L m4 k4)
    rw [hX] at c5
    rw [run_step (M m4 4 _ k4 (by decide) (by decide)) (sub4a (M m4 4 _ k4 (by decide) (by decide)) c5 rfl)]
    have c6 := nte1 (w := 0) (v := 0) (X := loadM m 2) (Y := 0) h.may (L m4 k4) hX h.mask
    rw [← e5] at c6
    rw [run_step (M m4 4 _ k4 (by decide) (by decide)) (sub4b (M m4 4 _ k4 (by decide) (by decide)) c6 (by simp)), runS2]
    rfl
  · have hb := pack_rng (epB (loadM m 2) + 1) (clrB (mkB (loadM m 2)))
    have w1 : Wm m1 := by rw [e1]; exact h.wm.set 0 (by omega) (by omega)
    have w2 : Wm m2 := by rw [e2]; exact w1.set 5 (by omega) (by omega)
    have w3 : Wm m3 := by rw [e3]; exact w2.set _ hr.1 hr.2
    have w4 : Wm m4 := by rw [e4]; exact w3.set _ (by decide) (by decide)
    refine ⟨by rw [e5]; exact w4.set 2 hb.1 hb.2, h.may, L m5 k5, ?_, ?_, ?_, ?_, ?_, ?_, by omega⟩
    · rw [ld5 _ (by decide), ld4 _ (by omega), ld3 _ (by omega), ld2 _ (by decide), e1]
      exact load_store _ (by decide) (by omega)
    · rw [ld5 _ (by decide), ld4 _ (by omega), ld3 _ (by omega), ld2 _ (by decide), ld1 _ (by decide), h.l1]
    · rw [e5, load_store _ (by decide) (by rw [k4]; omega)]
      exact mk_bump h.mask
    · rw [ld5 _ (by decide), ld4 _ (by omega), ld3 _ (by omega), ld2 _ (by decide), ld1 _ (by decide), h.l3]
    · rw [ld5 _ (by decide), ld4 _ (by omega), ld3 _ (by omega), e2]
      exact load_store _ (by decide) (by rw [k1]; omega)
    · intro j hj
      rw [ld5 _ (by omega)]
      by_cases e : j = a
      · subst e
        rw [e4, load_store _ (by omega) (by rw [k3]; omega), if_pos (by omega)]
      · rw [ld4 _ (by omega), ld3 _ (by omega), ld2 _ (by omega), ld1 _ (by omega), h.sq j hj]
        by_cases e2 : j < a
        · rw [if_pos e2, if_pos (by omega)]
        · rw [if_neg e2, if_neg (by omega)]
theorem five_steps {c : CF} {t : List (Int × List Int)} {m : List Int} {a : Nat} {r : Int} {rest : List Int} (h : InvA c a m) (ha : (a : Int) = c.2.2.1) (hm : maySB c t m (0, r :: rest, zeroF) = true) :
    ∃ m', runS2 c t 5 (m, (0, r :: rest, zeroF)) = some ([(1, r, 0)], m', (0, rest, zeroF)) ∧ InvA c a m' := by
  have hc := mayC_of h.may
  have hsz := (show OkB c m 0 from ⟨h.may, h.len, by decide, by omega⟩).size
  have eseq : seqC c (a : Int) = 6 := by unfold seqC; rw [if_pos h.may, ha, Int.emod_self]; rfl
  have efree : freeB c (a : Int) = 2 := by unfold freeB; rw [ha, Int.ediv_self (by omega)]; rfl
  obtain ⟨m1, e1⟩ : ∃ m1, m1 = storeM m 0 ((a + 1 : Nat) : Int) := ⟨_, rfl⟩
  have k1 : m1.length = m.length := by rw [e1]; exact store_len
  have ld1 : ∀ j : Int, j ≠ 0 → loadM m1 j = loadM m j := fun j hj => by rw [e1]; exact load_store_ne _ (fun e => hj e.symm)
  have l10 : loadM m1 0 = ((a + 1 : Nat) : Int) := by rw [e1]; exact load_store _ (by decide) (by omega)
  have M : ∀ (m' : List Int) (pc : Int) (F : FR), m'.length = m.length → 0 ≤ pc → pc < 6 → maySB c t m' (pc, r :: rest, F) = true := fun m' pc F hl h0 h6 => may_pc hm hl h0 h6
  have L : ∀ m' : List Int, m'.length = m.length → (m'.length : Int) = sizeC c := fun m' hl => by rw [hl]; exact h.len
  have back : storeM m1 0 (addU (loadM m1 0) 18446744073709551615) = m := by
    rw [l10, e1, store_store]
    have : addU ((a + 1 : Nat) : Int) 18446744073709551615 = loadM m 0 := by rw [h.l0]; unfold addU; omega
    rw [this, store_same]
  refine ⟨m, ?_, h⟩
  rw [run_step hm (sub0 hm h.l3)]
  have s1 := sub1 (M m 1 zeroF rfl (by decide) (by decide))
  rw [h.l0, show addU (a : Int) 1 = ((a + 1 : Nat) : Int) by unfold addU; omega, ← e1] at s1
  rw [run_step (M m 1 zeroF rfl (by decide) (by decide)) s1]
  have c0 := enq0 (w := 0) (v := headI (r :: rest)) (X := 0) (Y := 0) h.may (L m1 k1)
  rw [run_step (M m1 2 _ k1 (by decide) (by decide)) (sub2a (M m1 2 _ k1 (by decide) (by decide)) c0 rfl), ld1 5 (by decide), h.l5]
  have c1 := enq1 (w := 0) (v := headI (r :: rest)) (X := (a : Int)) (Y := 0) h.may (L m1 k1)
  have q1 : loadM m1 6 = 1 := by
    have := h.sq 0 (by omega)
    rw [ld1 _ (by decide)]
    rw [if_pos (by omega)] at this
    exact this
  rw [eseq, efree, q1, if_neg (by decide), if_pos (by decide)] at c1
  rw [run_step (M m1 2 _ k1 (by decide) (by decide)) (sub2b (M m1 2 _ k1 (by decide) (by decide)) c1 rfl)]
  have s5 := sub5 (l := r :: rest) (F := (3, 0, 0, headI (r :: rest), 0, 0, 2)) (M m1 5 _ k1 (by decide) (by decide))
  rw [back, if_neg (by rw [l10]; omega)] at s5
  rw [run_step (M m1 5 _ k1 (by decide) (by decide)) s5, runS2]
  rfl
end Go.Ab
