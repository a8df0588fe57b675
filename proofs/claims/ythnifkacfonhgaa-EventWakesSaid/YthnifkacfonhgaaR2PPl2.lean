/- The signs of each are kept by each step. -/
import Derived.Test.YthnifkacfonhgaaR2PPl
set_option linter.unusedVariables false
set_option linter.unusedSimpArgs false
set_option linter.unusedVariables false
namespace Go.Ab
theorem one_over {f : FR} (h : f.2.2.2.2.2.2 ≠ 0) (w : Int) : oneN f w = 0 := by
  have : owesB f w = false := by unfold owesB overB; simp [h]
  simp [oneN, this]
theorem one_pc {f : FR} (h : f.2.1 ≠ 2) (w : Int) : oneN f w = 0 := by
  have : owesB f w = false := by unfold owesB; simp [h]
  simp [oneN, this]
theorem one_op {f : FR} (h : f.1 ≠ 6) (h2 : f.1 ≠ 7) (w : Int) : oneN f w = 0 := by
  have : owesB f w = false := by unfold owesB; simp [h, h2]
  simp [oneN, this]
theorem one_6 {X Y i : Int} {w : Nat} (hw : w < 16) : oneN (6, 2, i, 0, X, Y, 0) w = if Y = w then 1 else 0 := by
  unfold oneN owesB overB
  by_cases h : Y = w
  · have : (w : Int) < 16 := by omega
    simp [h, this]
  · simp [h]
theorem one_7 {X Y i : Int} {w : Nat} (hw : w < 16) : oneN (7, 2, i, 0, X, Y, 0) w = if hasB Y w = true then 1 else 0 := by
  have : (w : Int) < 16 := by omega
  unfold oneN owesB overB
  simp [this]
theorem okFr_none (n i : Nat) : OkFr n i noneF := .inl rfl
theorem parN_eq {c : CF} {m m' : List Int} {w : Int} (h : loadM m' (parkC c w) = loadM m (parkC c w)) : parN c m' w = parN c m w := by unfold parN; rw [h]
theorem bitN_eq {m m' : List Int} {w : Int} (h : loadM m' 2 = loadM m 2) : bitN m' w = bitN m w := by unfold bitN; rw [h]
theorem ev_low {c : CF} {n : Nat} {m : List Int} {l : List FR} (h : OkP c n m l) {i : Nat} (hi : i < n) (v : Int) : loadM (storeM m (parkC c i) v) 2 = loadM m 2 :=
  load_store_ne v (by have := (h.okb hi).park; omega)
theorem ev_park {c : CF} {n : Nat} {m : List Int} {l : List FR} (h : OkP c n m l) {w : Nat} (hw : w < n) (v : Int) : loadM (storeM m 2 v) (parkC c w) = loadM m (parkC c w) :=
  load_store_ne v (by have := (h.okb hw).park; omega)
theorem ev_par2 {c : CF} {n : Nat} {m : List Int} {l : List FR} (h : OkP c n m l) {i w : Nat} (hi : i < n) (hw : w < n) (v : Int) : loadM (storeM m (parkC c i) v) (parkC c w) = if w = i then v else loadM m (parkC c w) := by
  by_cases e : w = i
  · subst e
    have := (h.okb hw).park
    rw [if_pos rfl, load_store v (by omega) this.2.2]
  · rw [if_neg e]
    exact load_store_ne v (park_ne (h.okb hi) (h.okb hw) (by omega))
theorem ev_two {c : CF} {n : Nat} {m : List Int} {l : List FR} (h : OkP c n m l) {i : Nat} (hi : i < n) (v : Int) : loadM (storeM m 2 v) 2 = v := by
  have := (h.okb hi).size
  exact load_store v (by decide) (by omega)
theorem OkP.calm {c : CF} {n : Nat} {m : List Int} {l : List FR} (h : OkP c n m l) {i : Nat} {f g : FR} (hf : l[i]? = some f) (hg : OkFr n i g) (h3 : w3B g = w3B f) (h4 : w4B g → parN c m i = 1) (ho : ∀ w : Nat, w < n → oneN g w = oneN f w) :
    OkP c n m (l.set i g) :=
  h.step hf h.wm rfl hg h.low h.par (fun w hw => by rw [h3, ho w hw]) h4 (fun _ _ _ e => e)
theorem w3_not {f : FR} (h : f.1 = 5 → f.2.1 < 3) : w3B f = 0 := by
  unfold w3B
  rw [if_neg (fun hh => by have := h hh.1; omega)]
theorem w3_is {f : FR} (h : f.1 = 5) (h2 : 3 ≤ f.2.1) : w3B f = 1 := by
  unfold w3B
  rw [if_pos ⟨h, h2⟩]
theorem sgn0 {c : CF} {n : Nat} {m : List Int} {l : List FR} (h : OkP c n m l) {w : Nat} (hw : w < n) : bitN m w + oweN l w + parN c m w ≤ 1 := by
  have : w < l.length := by rw [h.clen]; exact hw
  have := h.sgn w l[w] (List.getElem?_eq_getElem this)
  have h3 : w3B l[w] ≤ 1 := by unfold w3B; split <;> omega
  omega
theorem owe_le {l : List FR} {i : Nat} {f : FR} (hf : l[i]? = some f) (w : Int) : oneN f w ≤ oweN l w := by
  have := oweN_set (g := noneF) hf w
  have h2 : oneN noneF w = 0 := one_pc (by decide) w
  omega
theorem step5 {c : CF} {n : Nat} {m : List Int} {l : List FR} (h : OkP c n m l) {i : Nat} {pc X Y : Int} (hf : l[i]? = some (5, pc, (i : Int), 0, X, Y, 0)) (hX : rngU X) (hY : rngU Y) (p0 : 0 ≤ pc) (p4 : pc ≤ 4) :
    OkP c n (waitB c m (5, pc, (i : Int), 0, X, Y, 0)).1 (l.set i (putE2 (waitB c m (5, pc, (i : Int), 0, X, Y, 0)).2)) := by
  have hi : i < n := by rw [← h.clen]; exact (List.getElem?_eq_some_iff.1 hf).1
  have h8 := h.n8
  have ok := h.okb hi
  have hs := h.sgn i _ hf
  have one5 : ∀ (pc X Y : Int) (w : Nat), oneN (5, pc, (i : Int), 0, X, Y, 0) w = 0 := fun pc X Y w => one_op (by simp) (by simp) w
  have ok5 : ∀ pc X Y : Int, rngU X → rngU Y → 0 ≤ pc → pc ≤ 4 → OkFr n i (5, pc, (i : Int), 0, X, Y, 0) := fun pc X Y hX hY a b => .inr ⟨5, pc, X, Y, rfl, hX, hY, .inl ⟨rfl, a, b⟩⟩
  have nov : ∀ pc X Y : Int, putE2 (5, pc, (i : Int), 0, X, Y, 0) = (5, pc, (i : Int), 0, X, Y, 0) := fun _ _ _ => rfl
  have onone : ∀ w : Nat, oneN noneF w = 0 := fun w => one_pc (by decide) w
  rcases (show pc = 0 ∨ pc = 1 ∨ pc = 2 ∨ pc = 3 ∨ pc = 4 by omega) with rfl | rfl | rfl | rfl | rfl
  · rw [wait0 ok]
    rw [nov]
    exact h.calm hf (ok5 _ _ _ (load_rng h.wm 2) hY (by decide) (by decide)) rfl (fun hh => absurd hh.2 (by simp)) fun w _ => by rw [one5, one5]
  · rw [wait1 ok]
    split
    · rw [nov]
      exact h.calm hf (ok5 _ _ _ hX (load_rng h.wm 2) (by decide) (by decide)) rfl (fun hh => absurd hh.2 (by simp)) fun w _ => by rw [one5, one5]
    · exact h.calm hf (okFr_none n i) rfl (fun hh => absurd hh.1 (by simp [putE2, overB, noneF])) fun w _ => by rw [one5]; exact onone w
  · rw [wait2 ok]
    split
    · rename_i e
      rw [nov]
      have hb : ∀ w : Nat, w < 16 → hasB (loadM (storeM m 2 (setB Y i)) 2) w = (decide (w = i) || hasB (loadM m 2) w) := by
        intro w hw
        rw [ev_two h hi, has_set hY.1 hY.2 (by omega) (by omega) (by omega), e]
        congr 1
        by_cases e2 : w = i
        · simp [e2]
        · simp [e2]
          omega
      have hz : w3B (5, 2, (i : Int), 0, X, Y, 0) = 0 := w3_not fun _ => by simp
      have hz3 : w3B (5, 3, (i : Int), 0, X, Y, 0) = 1 := w3_is rfl (by simp)
      rw [hz] at hs
      have hbi : bitN m i = 0 := by omega
      have hr := set_rng (w := (i : Int)) hY.1 hY.2
      refine h.step hf (h.wm.set 2 hr.1 hr.2) (show (storeM m 2 (setB Y i)).length = m.length from store_len) (ok5 _ _ _ hX hY (by decide) (by decide)) ?_ ?_ ?_ (fun hh => absurd hh.2 (by simp)) ?_
      · intro j h1 h2
        rw [hb j h2, h.low j h1 h2, decide_eq_false (by omega)]
        rfl
      · intro w hw
        rw [ev_park h hw]
        exact h.par w hw
      · intro w hw
        rw [one5, one5, parN_eq (ev_park h hw _), hz, hz3]
        have : bitN (storeM m 2 (setB Y i)) w = if w = i then 1 else bitN m w := by
          unfold bitN
          rw [hb w (by omega)]
          by_cases e2 : w = i
          · simp [e2]
          · simp [e2]
        rw [this]
        by_cases e2 : w = i
        · subst e2
          simp only [if_true]
          omega
        · simp only [if_neg e2]
      · intro w hw _ e3
        rw [parN_eq (ev_park h hw _)]
        exact e3
    · rw [nov]
      exact h.calm hf (ok5 _ _ _ hX hY (by decide) (by decide)) rfl (fun hh => absurd hh.2 (by simp)) fun w _ => by rw [one5, one5]
  · rw [wait3 ok]
    rw [nov]
    have h3 : w3B (5, 3, (i : Int), 0, X, Y, 0) = 1 := w3_is rfl (by simp)
    by_cases e : loadM m (parkC c i) = 0
    · rw [if_pos e]
      exact h.calm hf (ok5 _ _ _ hX (load_rng h.wm _) (by decide) (by decide)) rfl (fun hh => absurd hh.2 (by simp)) fun w _ => by rw [one5, one5]
    · rw [if_neg e]
      exact h.calm hf (ok5 _ _ _ hX (load_rng h.wm _) (by decide) (by decide)) (by rw [h3]; exact w3_is rfl (by simp)) (fun _ => by unfold parN; rw [if_neg e]) fun w _ => by rw [one5, one5]
  · rw [wait4 ok]
    have hz : w3B (5, 4, (i : Int), 0, X, Y, 0) = 1 := w3_is rfl (by simp)
    have h4 := h.end4 i _ hf ⟨rfl, rfl⟩
    rw [hz, h4] at hs
    have hpar : ∀ w : Nat, w < n → loadM (storeM m (parkC c i) 0) (parkC c w) = if w = i then 0 else loadM m (parkC c w) := fun w hw => ev_par2 h hi hw 0
    refine h.step hf (h.wm.set _ (by decide) (by decide)) (show (storeM m (parkC c i) 0).length = m.length from store_len) (okFr_none n i) ?_ ?_ ?_ (fun hh => absurd hh.1 (by simp [putE2, overB, noneF])) ?_
    · intro j h1 h2
      rw [ev_low h hi]
      exact h.low j h1 h2
    · intro w hw
      rw [hpar w hw]
      split
      · exact .inl rfl
      · exact h.par w hw
    · intro w hw
      rw [one5, bitN_eq (ev_low h hi 0), hz]
      show bitN m w + oneN noneF w + _ + _ = _ + (if w = i then w3B noneF else 0)
      rw [onone, w3_not (f := noneF) (fun hh => absurd hh (by decide))]
      have : parN c (storeM m (parkC c i) 0) w = if w = i then 0 else parN c m w := by
        unfold parN
        rw [hpar w hw]
        by_cases e2 : w = i
        · simp [e2]
        · simp [e2]
      rw [this]
      by_cases e2 : w = i
      · subst e2
        simp only [if_true]
        omega
      · simp only [if_neg e2]
    · intro w hw e2 e3
      unfold parN at e3 ⊢
      rw [hpar w hw, if_neg e2]
      exact e3
theorem step67 {c : CF} {n : Nat} {m : List Int} {l : List FR} (h : OkP c n m l) {i : Nat} {op pc X Y : Int} (ho : op = 6 ∨ op = 7) (hf : l[i]? = some (op, pc, (i : Int), 0, X, Y, 0)) (hX : rngU X) (hY : rngU Y) (p0 : 0 ≤ pc) (p2 : pc ≤ 2)
    (h6 : op = 6 → pc = 2 → Y < n) (h7 : op = 7 → pc = 2 → 0 < Y ∧ Y < 65536 ∧ ∀ j : Nat, n ≤ j → j < 16 → hasB Y j = false) :
    OkP c n (noteB c m (op, pc, (i : Int), 0, X, Y, 0)).1 (l.set i (putE2 (noteB c m (op, pc, (i : Int), 0, X, Y, 0)).2)) := by
  have hi : i < n := by rw [← h.clen]; exact (List.getElem?_eq_some_iff.1 hf).1
  have h8 := h.n8
  have w0 : ∀ pc X Y : Int, w3B (op, pc, (i : Int), 0, X, Y, 0) = 0 := fun pc X Y => w3_not fun hh => by simp only at hh; omega
  have n4 : ∀ pc X Y : Int, ¬ w4B (op, pc, (i : Int), 0, X, Y, 0) := fun pc X Y hh => by have := hh.1; simp only at this; omega
  have okn : ∀ pc X Y : Int, rngU X → rngU Y → 0 ≤ pc → pc < 2 → OkFr n i (op, pc, (i : Int), 0, X, Y, 0) := fun pc X Y hX hY a b => by
    rcases ho with rfl | rfl
    · exact .inr ⟨6, pc, X, Y, rfl, hX, hY, .inr (.inl ⟨rfl, a, by omega, fun e => by omega⟩)⟩
    · exact .inr ⟨7, pc, X, Y, rfl, hX, hY, .inr (.inr ⟨rfl, a, by omega, fun e => by omega⟩)⟩
  have nov : ∀ pc X Y : Int, putE2 (op, pc, (i : Int), 0, X, Y, 0) = (op, pc, (i : Int), 0, X, Y, 0) := fun _ _ _ => rfl
  have onone : ∀ w : Nat, oneN noneF w = 0 := fun w => one_pc (by decide) w
  have wnone : w3B noneF = 0 := w3_not fun hh => absurd hh (by decide)
  have nnone : ¬ w4B noneF := fun hh => absurd hh.1 (by decide)
  have opc : ∀ (pc X Y : Int) (w : Nat), pc ≠ 2 → oneN (op, pc, (i : Int), 0, X, Y, 0) w = 0 := fun pc X Y w hp => one_pc hp w
  rcases (show pc = 0 ∨ pc = 1 ∨ pc = 2 by omega) with rfl | rfl | rfl
  · rw [note0 h.may h.len ho]
    rw [nov]
    exact h.calm hf (okn _ _ _ (load_rng h.wm 2) hY (by decide) (by decide)) (by rw [w0, w0]) (fun hh => absurd hh (n4 _ _ _)) fun w _ => by rw [opc _ _ _ _ (by decide), opc _ _ _ _ (by decide)]
  · rw [note1 h.may h.len ho]
    split
    · rename_i e
      have hF : rngU (if op = 6 then bumpB X else wipeB X) := by split <;> exact pack_rng _ _
      have hmk := mk_rng hX.1
      have hpar : ∀ w : Nat, w < n → parN c (storeM m 2 (if op = 6 then bumpB X else wipeB X)) w = parN c m w := fun w hw => parN_eq (ev_park h hw _)
      have hl2 := ev_two h hi (if op = 6 then bumpB X else wipeB X)
      have hlowX : ∀ j : Nat, n ≤ j → j < 16 → hasB X j = false := by rw [← e]; exact h.low
      have hlow : ∀ j : Nat, n ≤ j → j < 16 → hasB (if op = 6 then bumpB X else wipeB X) j = false := by
        intro j h1 h2
        split
        · rw [has_bump hX.1 hX.2 (by omega) (by omega), hlowX j h1 h2]
          rfl
        · exact has_wipe (by omega) (by omega)
      have fin : ∀ g : FR, OkFr n i g → w3B g = 0 → ¬ w4B g → (∀ w : Nat, w < n → bitN (storeM m 2 (if op = 6 then bumpB X else wipeB X)) w + oneN g w = bitN m w) → OkP c n (storeM m 2 (if op = 6 then bumpB X else wipeB X)) (l.set i g) := by
        intro g hg hg3 hg4 hgb
        refine h.step hf (h.wm.set 2 hF.1 hF.2) store_len hg ?_ ?_ ?_ (fun hh => absurd hh hg4) ?_
        · rw [hl2]
          exact hlow
        · intro w hw
          rw [ev_park h hw]
          exact h.par w hw
        · intro w hw
          rw [hpar w hw, hgb w hw, w0, hg3, opc _ _ _ _ (by decide)]
          rfl
        · intro w hw _ e3
          rw [hpar w hw]
          exact e3
      have bitm : ∀ w : Nat, bitN m w = if hasB X w = true then 1 else 0 := fun w => by unfold bitN; rw [e]
      by_cases hz : mkB X = 0
      · rw [if_pos hz]
        refine fin _ (okFr_none n i) wnone nnone fun w hw => ?_
        show _ + oneN noneF w = _
        rw [onone, bitm]
        have h1 : hasB X w = false := has_none hX.1 hz (by omega) (by omega)
        have h2 : hasB (if op = 6 then bumpB X else wipeB X) w = false := by
          split
          · rw [has_bump hX.1 hX.2 (by omega) (by omega), h1]; rfl
          · exact has_wipe (by omega) (by omega)
        unfold bitN
        rw [hl2, h2, h1]
        rfl
      · rw [if_neg hz]
        show OkP c n _ (l.set i (putE2 (op, 2, (i : Int), 0, X, _, 0)))
        rw [nov]
        rcases ho with rfl | rfl
        · simp only [if_true] at fin hl2 ⊢
          rcases low_split hmk.1 hmk.2 with ⟨h1, _⟩ | ⟨a, v, h1, h2, h3⟩
          · exact absurd h1 hz
          · have hb : hasB (mkB X) (lowB (mkB X)) = true := low_has (by omega)
            have hvn : v < n := by
              by_cases hh : v < n
              · exact hh
              · have := hlowX v (by omega) h3
                rw [h2, has_mask hX.1 (by omega) (by omega)] at hb
                rw [hb] at this
                cases this
            rw [h2, if_neg (by omega)]
            refine fin _ (.inr ⟨6, 2, X, v, rfl, hX, ⟨by omega, by omega⟩, .inr (.inl ⟨rfl, by decide, by decide, fun _ => by omega⟩)⟩) (w0 _ _ _) (n4 _ _ _) fun w hw => ?_
            rw [one_6 (by omega), bitm]
            unfold bitN
            rw [hl2, has_bump hX.1 hX.2 (by omega) (by omega), h2]
            rw [h2, has_mask hX.1 (by omega) (by omega)] at hb
            by_cases e2 : (v : Int) = w
            · have : v = w := by omega
              subst this
              simp [hb]
            · have e3 : ¬ ((w : Int) = v) := fun hh => e2 hh.symm
              simp [e2, e3]
        · have h67 : ¬ ((7 : Int) = 6) := by decide
          simp only [if_neg h67] at fin hl2 ⊢
          refine fin _ (.inr ⟨7, 2, X, mkB X, rfl, hX, ⟨hmk.1, by omega⟩, .inr (.inr ⟨rfl, by decide, by decide, fun _ => ⟨by omega, hmk.2, fun j h1 h2 => by rw [has_mask hX.1 (by omega) (by omega)]; exact hlowX j h1 h2⟩⟩)⟩) (w0 _ _ _) (n4 _ _ _) fun w hw => ?_
          rw [one_7 (by omega), bitm]
          unfold bitN
          rw [hl2, has_wipe (by omega) (by omega), has_mask hX.1 (by omega) (by omega)]
          simp
    · rw [nov]
      exact h.calm hf (okn _ _ _ hX hY (by decide) (by decide)) (by rw [w0, w0]) (fun hh => absurd hh (n4 _ _ _)) fun w _ => by rw [opc _ _ _ _ (by decide), opc _ _ _ _ (by decide)]
  · -- it wakes
    have wk : ∀ (v : Nat), v < n → oneN (op, 2, (i : Int), 0, X, Y, 0) v = 1 → parN c m v = 0 := by
      intro v hv h1
      have := owe_le hf v
      have := sgn0 h hv
      omega
    have fin : ∀ (v : Nat) (g : FR), v < n → oneN (op, 2, (i : Int), 0, X, Y, 0) v = 1 → OkFr n i g → w3B g = 0 → ¬ w4B g → (∀ w : Nat, w < n → oneN g w = if w = v then 0 else oneN (op, 2, (i : Int), 0, X, Y, 0) w) → OkP c n (wakeB c m v) (l.set i g) := by
      intro v g hv h1 hg hg3 hg4 hgo
      unfold wakeB
      have hp0 := wk v hv h1
      have hparl : ∀ w : Nat, w < n → loadM (storeM m (parkC c v) 1) (parkC c w) = if w = v then 1 else loadM m (parkC c w) := fun w hw => ev_par2 h hv hw 1
      have hpar : ∀ w : Nat, w < n → parN c (storeM m (parkC c v) 1) w = if w = v then 1 else parN c m w := by
        intro w hw
        unfold parN
        rw [hparl w hw]
        by_cases e2 : w = v
        · simp [e2]
        · simp [e2]
      refine h.step hf (h.wm.set _ (by decide) (by decide)) store_len hg ?_ ?_ ?_ (fun hh => absurd hh hg4) ?_
      · rw [ev_low h hv]
        exact h.low
      · intro w hw
        rw [hparl w hw]
        split
        · exact .inr rfl
        · exact h.par w hw
      · intro w hw
        rw [bitN_eq (ev_low h hv 1), hpar w hw, hgo w hw, w0, hg3]
        by_cases e2 : w = v
        · subst e2
          simp only [if_true]
          omega
        · simp only [if_neg e2]
      · intro w hw _ e3
        rw [hpar w hw]
        split
        · rfl
        · exact e3
    rcases ho with rfl | rfl
    · have hy := h6 rfl rfl
      have hy0 := hY.1
      obtain ⟨v, rfl⟩ : ∃ v : Nat, Y = v := ⟨Y.toNat, by omega⟩
      rw [note2 h.may h.len (by omega)]
      refine fin v _ (by omega) (by rw [one_6 (by omega)]; simp) (okFr_none n i) wnone nnone fun w hw => ?_
      show oneN noneF w = _
      rw [onone, one_6 (by omega)]
      by_cases e2 : w = v
      · simp [e2]
      · have : ¬ ((v : Int) = w) := by omega
        simp [e2, this]
    · obtain ⟨y0, y1, ylow⟩ := h7 rfl rfl
      rw [note3 h.may h.len]
      have hmk : mkB Y = Y := by unfold mkB; omega
      rw [hmk]
      rcases low_split (x := Y) (by omega) y1 with ⟨h1, _⟩ | ⟨a, v, h1, h2, h3⟩
      · omega
      · have hb : hasB Y (lowB Y) = true := low_has (by omega)
        rw [h2] at hb
        have hvn : v < n := by
          by_cases hh : v < n
          · exact hh
          · have := ylow v (by omega) h3
            rw [hb] at this
            cases this
        have hcr : 0 ≤ clrB Y ∧ clrB Y < 65536 := by
          unfold clrB
          have hp : (0 : Nat) < 2 ^ v := Nat.pow_pos (by decide)
          have hw : ((2 ^ v : Nat) : Int) = (2 : Int) ^ v := by rw [Int.natCast_pow]; rfl
          rw [h2, if_neg (by omega), Int.toNat_natCast, ← hw]
          omega
        have hcl : ∀ w : Nat, w < 16 → hasB (clrB Y) w = (hasB Y w && decide (w ≠ v)) := by
          intro w hw
          rw [has_clr (by omega) y1 (by omega) (by omega), h2]
          congr 1
          by_cases e2 : w = v
          · simp [e2]
          · have : ¬ ((w : Int) = v) := by omega
            simp [e2, this]
        rw [h2]
        have one1 : oneN (7, 2, (i : Int), 0, X, Y, 0) v = 1 := by rw [one_7 h3, hb]; rfl
        by_cases hz : clrB Y = 0
        · rw [if_pos hz]
          refine fin v _ hvn one1 (okFr_none n i) wnone nnone fun w hw => ?_
          show oneN noneF w = _
          rw [onone, one_7 (by omega)]
          by_cases e2 : w = v
          · simp [e2]
          · have := hcl w (by omega)
            rw [hz] at this
            have h0 : hasB 0 (w : Int) = false := by
              have := has_nat 0 (w := (w : Int)) (by omega)
              rw [Nat.zero_testBit] at this
              exact this
            rw [h0, decide_eq_true e2, Bool.and_true] at this
            simp [e2, ← this]
        · rw [if_neg hz]
          show OkP c n _ (l.set i (putE2 (7, 2, (i : Int), 0, X, _, 0)))
          rw [nov]
          refine fin v _ hvn one1 (.inr ⟨7, 2, X, clrB Y, rfl, hX, ⟨hcr.1, by omega⟩, .inr (.inr ⟨rfl, by decide, by decide, fun _ => ⟨by omega, hcr.2, fun j h1 h2 => by rw [hcl j h2, ylow j h1 h2]; rfl⟩⟩)⟩) (w0 _ _ _) (n4 _ _ _) fun w hw => ?_
          rw [one_7 (by omega), one_7 (by omega), hcl w (by omega)]
          by_cases e2 : w = v
          · simp [e2]
          · simp [e2]
end Go.Ab
