/- EventMissed. -/
import Derived.Test.YthnifkacfonhgaaR2PPl5
import Derived.Test.YthnifkacfonhgaaR2PWf4
import Derived.Test.YthnifkacfonhgaaR2GL16
set_option linter.unusedVariables false
set_option linter.unusedSimpArgs false
set_option linter.unusedVariables false
namespace Go.Ab
def setW (f : FR) (w : Int) : FR := (f.1, f.2.1, w, f.2.2.2)
theorem note_who (c : CF) (m : List Int) (f : FR) (w : Int) : noteB c m (setW f w) = ((noteB c m f).1, setW (noteB c m f).2 w) := by
  have hg : ngoesB c m (setW f w) = ngoesB c m f := rfl
  unfold noteB
  rw [hg]
  by_cases h1 : ngoesB c m f = false
  · rw [if_pos h1, if_pos h1]
  · rw [if_neg h1, if_neg h1]
    by_cases p0 : f.2.1 = 0
    · rw [if_pos p0, if_pos (show (setW f w).2.1 = 0 from p0)]
      rfl
    · rw [if_neg p0, if_neg (show ¬ (setW f w).2.1 = 0 from p0)]
      by_cases p1 : f.2.1 = 1
      · rw [if_pos p1, if_pos (show (setW f w).2.1 = 1 from p1)]
        by_cases hx : loadM m 2 = f.2.2.2.2.1
        · rw [if_pos hx, if_pos (show loadM m 2 = (setW f w).2.2.2.2.1 from hx)]
          by_cases hz : mkB f.2.2.2.2.1 = 0
          · rw [if_pos hz, if_pos (show mkB (setW f w).2.2.2.2.1 = 0 from hz)]
            rfl
          · rw [if_neg hz, if_neg (show ¬ mkB (setW f w).2.2.2.2.1 = 0 from hz)]
            rfl
        · rw [if_neg hx, if_neg (show ¬ loadM m 2 = (setW f w).2.2.2.2.1 from hx)]
          rfl
      · rw [if_neg p1, if_neg (show ¬ (setW f w).2.1 = 1 from p1)]
        by_cases h6 : f.1 = 6
        · rw [if_pos h6, if_pos (show (setW f w).1 = 6 from h6)]
          rfl
        · rw [if_neg h6, if_neg (show ¬ (setW f w).1 = 6 from h6)]
          by_cases hz : clrB (mkB f.2.2.2.2.2.1) = 0
          · rw [if_pos hz, if_pos (show clrB (mkB (setW f w).2.2.2.2.2.1) = 0 from hz)]
            rfl
          · rw [if_neg hz, if_neg (show ¬ clrB (mkB (setW f w).2.2.2.2.2.1) = 0 from hz)]
            rfl
theorem alone_who (c : CF) (w : Int) : ∀ (n : Nat) (m : List Int) (f : FR), aloneF c n (m, setW f w) = ((aloneF c n (m, f)).1, setW (aloneF c n (m, f)).2 w)
  | 0, m, f => rfl
  | n + 1, m, f => by
    rw [aloneF, aloneF]
    simp only [note_who]
    exact alone_who c w n _ _
/-- The epoch is no more than turns were; who is prepared has seen none that is more. -/
structure EpS (t : Nat) (s : Pl) : Prop where
  ep : epB (loadM s.m 2) ≤ t
  cur : ∀ (i : Nat) f, s.cur[i]? = some f → f.1 = 5 → (f.2.1 = 1 ∨ f.2.1 = 2) → epB f.2.2.2.2.1 ≤ epB (loadM s.m 2)
theorem ep_bump {X : Int} (h0 : 0 ≤ X) (h : epB X ≤ 1000) : epB (bumpB X) = epB X + 1 ∧ epB (wipeB X) = epB X + 1 := by
  unfold bumpB wipeB packB epB at *
  omega
theorem putE2_ne {f : FR} (h : (putE2 f).1 = 5) : putE2 f = f := by
  unfold putE2 at h ⊢
  split
  · rename_i h2
    rw [if_pos h2] at h
    exact absurd h (by decide)
  · rfl
/-- One step's epochs. -/
theorem ep_step {c : CF} {n : Nat} {m : List Int} {l : List FR} (h : OkP c n m l) {i : Nat} {f : FR} (hf : l[i]? = some f) (he : epB (loadM m 2) ≤ 1000) (h5 : f.1 = 5 → (f.2.1 = 1 ∨ f.2.1 = 2) → epB f.2.2.2.2.1 ≤ epB (loadM m 2)) :
    (epB (loadM (estepB c m f).1 2) = epB (loadM m 2) ∨ epB (loadM (estepB c m f).1 2) = epB (loadM m 2) + 1) ∧
      ((putE2 (estepB c m f).2).1 = 5 → ((putE2 (estepB c m f).2).2.1 = 1 ∨ (putE2 (estepB c m f).2).2.1 = 2) → epB (putE2 (estepB c m f).2).2.2.2.2.1 ≤ epB (loadM (estepB c m f).1 2)) := by
  have hi : i < n := by rw [← h.clen]; exact (List.getElem?_eq_some_iff.1 hf).1
  have ok := h.okb hi
  have h8 := h.n8
  have hr := load_rng h.wm 2
  rcases h.frm i f hf with rfl | ⟨op, pc, X, Y, rfl, hX, hY, hop⟩
  · exact ⟨.inl rfl, fun hh => absurd hh (show ¬ (noneF.1 = 5) by decide)⟩
  · rcases hop with ⟨rfl, p0, p4⟩ | ⟨rfl, p0, p2, h6⟩ | ⟨rfl, p0, p2, h7⟩
    · have e : estepB c m (5, pc, (i : Int), 0, X, Y, 0) = waitB c m (5, pc, (i : Int), 0, X, Y, 0) := rfl
      rw [e]
      rcases (show pc = 0 ∨ pc = 1 ∨ pc = 2 ∨ pc = 3 ∨ pc = 4 by omega) with rfl | rfl | rfl | rfl | rfl
      · rw [wait0 ok]
        exact ⟨.inl rfl, fun _ _ => Int.le_refl _⟩
      · rw [wait1 ok]
        split
        · exact ⟨.inl rfl, fun _ _ => h5 rfl (.inl rfl)⟩
        · exact ⟨.inl rfl, fun hh => absurd hh (by simp [putE2, overB, noneF])⟩
      · rw [wait2 ok]
        split
        · rename_i hx
          refine ⟨.inl ?_, fun _ hh => ?_⟩
          · simp only []
            rw [ev_two h hi, ep_set hY.1 hY.2 (by omega) (by omega), hx]
          · rcases hh with hh | hh <;> simp [putE2, overB] at hh
        · exact ⟨.inl rfl, fun _ _ => h5 rfl (.inr rfl)⟩
      · rw [wait3 ok]
        refine ⟨.inl rfl, fun _ hh => ?_⟩
        rcases hh with hh | hh <;> (simp [putE2, overB] at hh; split at hh <;> simp at hh)
      · rw [wait4 ok]
        exact ⟨.inl (by simp only []; rw [ev_low h hi]), fun hh => absurd hh (by simp [putE2, overB, noneF])⟩
    all_goals
      have e : ∀ op : Int, op = 6 ∨ op = 7 → estepB c m (op, pc, (i : Int), 0, X, Y, 0) = noteB c m (op, pc, (i : Int), 0, X, Y, 0) := fun op ho => by
        unfold estepB
        rw [if_neg (by simp only; omega), if_pos ho]
      rw [e _ (by first | exact .inl rfl | exact .inr rfl)]
      have fin : ∀ op : Int, op = 6 ∨ op = 7 → (op = 6 → pc = 2 → Y < n) → (op = 7 → pc = 2 → 0 < Y ∧ Y < 65536 ∧ ∀ j : Nat, n ≤ j → j < 16 → hasB Y j = false) → (epB (loadM (noteB c m (op, pc, (i : Int), 0, X, Y, 0)).1 2) = epB (loadM m 2) ∨ epB (loadM (noteB c m (op, pc, (i : Int), 0, X, Y, 0)).1 2) = epB (loadM m 2) + 1) ∧ (putE2 (noteB c m (op, pc, (i : Int), 0, X, Y, 0)).2).1 ≠ 5 := by
        intro op ho g6 g7
        rcases (show pc = 0 ∨ pc = 1 ∨ pc = 2 by omega) with rfl | rfl | rfl
        · rw [note0 h.may h.len ho]
          refine ⟨.inl rfl, ?_⟩
          simp [putE2, overB]
          omega
        · rw [note1 h.may h.len ho]
          split
          · rename_i hx
            refine ⟨.inr ?_, ?_⟩
            · simp only []
              rw [ev_two h hi, hx]
              rw [hx] at he
              split
              · exact (ep_bump hX.1 he).1
              · exact (ep_bump hX.1 he).2
            · simp only []
              by_cases hz : mkB X = 0
              · rw [if_pos hz]
                simp [putE2, overB, noneF]
              · rw [if_neg hz]
                simp [putE2, overB]
                omega
          · refine ⟨.inl rfl, ?_⟩
            simp [putE2, overB]
            omega
        · have wk : ∀ v : Int, loadM (wakeB c m v) 2 = loadM m 2 := by
            intro v
            unfold wakeB
            by_cases hh : 0 ≤ v ∧ v < c.1
            · have := (ok.other hh.1 hh.2).park
              exact load_store_ne 1 (by omega)
            · have h2 : parkC c v = -1 := by rw [parkC, if_neg (fun hh2 => hh ⟨hh2.2.1, hh2.2.2⟩)]
              rw [h2, store_out (by omega)]
          rcases ho with rfl | rfl
          · rw [note2 h.may h.len (by have := g6 rfl rfl; omega)]
            exact ⟨.inl (by simp only []; rw [wk]), by simp [putE2, overB, noneF]⟩
          · rw [note3 h.may h.len]
            refine ⟨.inl (by simp only []; rw [wk]), ?_⟩
            simp only []
            split
            · simp [putE2, overB, noneF]
            · simp [putE2, overB]
      first
        | exact ⟨(fin 6 (.inl rfl) (fun _ => h6) (fun hh => absurd hh (by decide))).1, fun hh => absurd hh (fin 6 (.inl rfl) (fun _ => h6) (fun hh => absurd hh (by decide))).2⟩
        | exact ⟨(fin 7 (.inr rfl) (fun hh => absurd hh (by decide)) (fun _ => h7)).1, fun hh => absurd hh (fin 7 (.inr rfl) (fun hh => absurd hh (by decide)) (fun _ => h7)).2⟩
theorem ep_turn {c : CF} {n : Nat} {s : Pl} {i t : Nat} (hi : i < n) (h : OkS c n s) (ht : t ≤ 1000) (he : EpS t s) : EpS (t + 1) (turnE c i s) := by
  have hL : s.left[i]? = some (s.left[i]'(by rw [h.left]; exact hi)) := List.getElem?_eq_getElem _
  have hf : s.cur[i]? = some (s.cur[i]'(by rw [h.ok.clen]; exact hi)) := List.getElem?_eq_getElem _
  generalize (s.left[i]'(by rw [h.left]; exact hi)) = L at hL
  generalize (s.cur[i]'(by rw [h.ok.clen]; exact hi)) = f at hf
  rw [turn_eq hL hf]
  obtain ⟨h1, h2⟩ := fetch_ok h.ok hf L
  have hlt : i < s.cur.length := by rw [h.ok.clen]; exact hi
  have h5 : (fetchE L i f).2.1 = 5 → ((fetchE L i f).2.2.1 = 1 ∨ (fetchE L i f).2.2.1 = 2) → epB (fetchE L i f).2.2.2.2.2.1 ≤ epB (loadM s.m 2) := by
    rcases fetch_cases L i f with ⟨_, j, op, _, _, _, e⟩ | ⟨e, _⟩
    · rw [e]
      intro _ hh
      rcases hh with hh | hh <;> simp at hh
    · rw [e]
      exact he.cur i f hf
  have key := ep_step h1 (List.getElem?_set_self hlt) (by have := he.ep; omega) h5
  refine ⟨?_, fun j g hg g5 gp => ?_⟩
  · have := he.ep
    rcases key.1 with e | e <;> (simp only []; rw [e]; omega)
  · simp only at hg
    by_cases hj : j = i
    · subst hj
      rw [List.getElem?_set_self hlt] at hg
      cases hg
      exact key.2 g5 gp
    · rw [List.getElem?_set_ne (by omega)] at hg
      have := he.cur j g hg g5 gp
      rcases key.1 with e | e <;> (simp only []; rw [e]; omega)
theorem ep_play {c : CF} {n : Nat} : ∀ (who : List Int) (t : Nat) (s : Pl), OkS c n s → EpS t s → t + who.length ≤ 1000 → EpS (t + who.length) (playE c n who s)
  | [], t, s, _, he, _ => he
  | x :: who, t, s, h, he, ht => by
    simp only [List.length_cons] at ht ⊢
    rw [playE]
    split
    · rename_i hx
      have := ep_play who (t + 1) _ (turn_okS s x.toNat (by omega) h) (ep_turn (by omega) h (by omega) he) (by omega)
      rw [show t + (who.length + 1) = t + 1 + who.length by omega]
      exact this
    · have := ep_play who (t + 1) s h ⟨by have := he.ep; omega, he.cur⟩ (by omega)
      rw [show t + (who.length + 1) = t + 1 + who.length by omega]
      exact this
theorem ep_start (calls : List (List Int)) : EpS 0 (startE calls) := by
  have e : loadM (startE calls).m 2 = 0 := zero_load _ _
  refine ⟨by rw [e]; decide, fun i f hf h5 => ?_⟩
  have := (List.mem_replicate.1 (List.mem_of_getElem? hf)).2
  subst this
  exact absurd h5 (by decide)
theorem missed_loop {k : Nat} (hk : 9223372036854770000 < k) {calls : List (List Int)} {who : List Int} {w : Int} {b : Bool} {l : List FR} :
    ∀ (d i n : Nat) (m : List Int) (f : FR), Wm m → m.length ≤ 1000 → Wf f → i + d = 20 → d < n →
      g_poacherlaw16_EventMissed_L0 k calls who w b n m l f.1 f.2.1 f.2.2.1 f.2.2.2.1 f.2.2.2.2.1 f.2.2.2.2.2.1 f.2.2.2.2.2.2 (i : Int) =
        (ob (idx l w) fun x => ob (g_wait_Step (confE calls.length) (aloneF (confE calls.length) d (m, f)).1 x) fun y => bif overB (aloneF (confE calls.length) d (m, f)).2 then some (y.2.2.2.2.2.2.2 == (4 : Int)) else some false) := by
  intro d
  induction d with
  | zero =>
    intro i n m f hm hl hf hi hn
    obtain ⟨n, rfl⟩ := fuel hn
    rw [g_poacherlaw16_EventMissed_L0, ltF (by omega), cond_false]
    simp only [Prod.eta, c_Over, ob_some]
    rfl
  | succ d ih =>
    intro i n m f hm hl hf hi hn
    obtain ⟨n, rfl⟩ := fuel hn
    obtain ⟨a, b2, e⟩ := note_wm (c := confE calls.length) hm hf
    rw [g_poacherlaw16_EventMissed_L0, ltT (by omega), cond_true]
    simp only [Prod.eta]
    have hce : ((calls.length : Int), (1 : Int), (1 : Int), (0 : Int)) = confE calls.length := rfl
    rw [hce, c_NStep (by omega) _ hm hl hf, ob_some, wrapS (by omega), ih (i + 1) n _ _ a (by omega) b2 (by omega) (by omega)]
    rfl
theorem pure_EMissed (k : Nat) (hk : 9223372036854779900 < k) (calls : List (List Int)) (who : List Int) (w : Int) (all : Bool) : g_poacherlaw16_EventMissed k calls who w all = some true := by
  obtain ⟨b, hb, hfew⟩ := c_Few (k := k + 59) (by omega) (l := calls)
  unfold g_poacherlaw16_EventMissed
  rw [awk16 hk, ob_some, hb, ob_some, Bool.not_true, cond_false]
  cases b with
  | false => rfl
  | true =>
    obtain ⟨h10, h30⟩ := hfew rfl
    rw [Bool.not_true, cond_false]
    by_cases h500 : (500 : Int) < who.length
    · rw [ltT h500, cond_true]
    rw [ltF (by omega), cond_false]
    by_cases h0 : w < 0
    · rw [ltT h0, cond_true]
    rw [ltF (by omega), cond_false]
    by_cases h1 : (calls.length : Int) ≤ w
    · rw [leT h1, cond_true]
    rw [leF (by omega), cond_false]
    by_cases h8 : (8 : Int) < calls.length
    · rw [ltT h8, cond_true]
    rw [ltF (by omega), cond_false, c_Play (by omega) (by omega) h10 h30, ob_some]
    have hmay : mayC (confE calls.length) = true := may_n.2 (by omega)
    have hs := (play_ok hmay who).ok
    have hep := ep_play who 0 (startE calls) ⟨start_ok hmay, rfl⟩ (ep_start calls) (by omega)
    obtain ⟨q, rfl⟩ : ∃ q : Nat, w = q := ⟨w.toNat, by omega⟩
    have hq : q < (playS calls who).cur.length := by rw [hs.clen]; omega
    have hf : (playS calls who).cur[q]? = some (playS calls who).cur[q] := List.getElem?_eq_getElem hq
    have e : playR calls who = ((playS calls who).m, (playS calls who).over, (playS calls who).cur) := by unfold playR; rw [if_pos hmay]
    rw [e]
    simp only []
    rw [leF (by omega), cond_false, idx_of hf, ob_some, ob_some, ltT (by omega), bneI]
    by_cases h5 : ((playS calls who).cur[q]).1 = 5
    · rw [decide_eq_true h5, Bool.not_true, cond_false, bneI]
      by_cases hp : ((playS calls who).cur[q]).2.1 = 1
      · rw [decide_eq_true hp, Bool.not_true, cond_false, begin_u, ob_some, begin_u, ob_some]
        have hx := hep.cur q _ hf h5 (.inl hp)
        have hepm := hep.ep
        rw [Nat.zero_add] at hepm
        have hml : (playS calls who).m.length ≤ 1000 := by have := hs.len; have := size_rng hmay; omega
        have key : ∀ op : Int, op = 6 ∨ op = 7 → g_poacherlaw16_EventMissed_L0 k calls who (q : Int) all (k + 60) (playS calls who).m (playS calls who).cur op 0 (q : Int) 0 0 0 0 ((0 : Nat) : Int) = some true := by
          intro op hop
          have hl := missed_loop (k := k) (by omega) (calls := calls) (who := who) (w := (q : Int)) (b := all) (l := (playS calls who).cur) 20 0 (k + 60) (playS calls who).m (op, 0, (q : Int), 0, 0, 0, 0) hs.wm hml wf0 (by omega) (by omega)
          simp only at hl
          rw [hl]
          obtain ⟨m', f', a1, a2, a3, a4, a5, _, _⟩ := alone_law hs.wm hmay hs.len hop
          have hw : aloneF (confE calls.length) 20 ((playS calls who).m, (op, 0, (q : Int), 0, 0, 0, 0)) = (m', setW f' q) := by
            have := alone_who (confE calls.length) (q : Int) 20 (playS calls who).m (op, 0, 0, 0, 0, 0, 0)
            rw [a1] at this
            exact this
          have ho : overB (setW f' q) = true := a5
          have ok' : OkB (confE calls.length) m' (q : Int) := ⟨hmay, by rw [a3]; exact hs.len, by omega, by show (q : Int) < (calls.length : Int); omega⟩
          have hr := load_rng hs.wm 2
          have he := ep_rng hr.1 hr.2
          rw [hw, idx_of hf, ob_some, c_WStep _ a2 (by omega) ((hs.frm q _ hf).wf), ob_some, ho, cond_true]
          have h2 : epB (loadM m' 2) = epB (loadM (playS calls who).m 2) + 1 := by
            rw [a4]
            have hb2 := ep_bump hr.1 (show epB (loadM (playS calls who).m 2) ≤ 1000 by unfold playS at *; omega)
            split
            · exact hb2.1
            · exact hb2.2
          rcases hs.frm q _ hf with e2 | ⟨op2, pc, X, Y, e2, _, _, _⟩
          · rw [e2] at h5
            exact absurd h5 (by decide)
          · rw [e2] at h5 hp hx ⊢
            simp only at h5 hp hx
            subst h5 hp
            rw [wait1 ok', if_neg]
            · rfl
            · have : epB (loadM (playS calls who).m 2) = epB (loadM (playE (confE calls.length) calls.length who (startE calls)).m 2) := rfl
              omega
        cases all with
        | true =>
          rw [cond_true]
          exact key 7 (.inr rfl)
        | false =>
          rw [cond_false]
          exact key 6 (.inl rfl)
      · rw [decide_eq_false hp, Bool.not_false, cond_true]
    · rw [decide_eq_false h5, Bool.not_false, cond_true]
theorem law_EMissed (k : Nat) (hk : 9223372036854779990 < k) (calls : List (List Int)) (hc : Ll calls) (who : List Int) (hw : who.length ≤ 9223372036854775807) (w : Int) (hi : i64 w) (all : Bool) :
    xC k none 16 [.ro (calls.map listV), .ro (who.map (intR .i64)), .lit (.int .i64 w), .lit (.bool all)] = some (.lit (.bool true), []) := by
  obtain ⟨j, rfl⟩ : ∃ j, k = j + 61 := ⟨k - 61, by omega⟩
  rw [h_poacherlaw16_EventMissed, pure_EMissed j (by omega)]
  rfl
end Go.Ab
