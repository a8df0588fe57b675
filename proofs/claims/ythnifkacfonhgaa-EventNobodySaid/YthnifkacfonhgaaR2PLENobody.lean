/- EventNobody. -/
import Derived.Test.YthnifkacfonhgaaR2PPl5
import Derived.Test.YthnifkacfonhgaaR2PWf4
import Derived.Test.YthnifkacfonhgaaR2GL18
set_option linter.unusedVariables false
set_option linter.unusedSimpArgs false
set_option linter.unusedVariables false
namespace Go.Ab
/-- Nobody wakes: who waits is not over. -/
structure NoWake (c : CF) (n : Nat) (s : Pl) : Prop where
  over : s.over = []
  ep : epB (loadM s.m 2) = 0
  par : ∀ w : Nat, w < n → loadM s.m (parkC c w) = 0
  cur : ∀ (i : Nat) f, s.cur[i]? = some f → f = noneF ∨ (f.1 = 5 ∧ f.2.1 ≤ 3 ∧ ((f.2.1 = 1 ∨ f.2.1 = 2) → epB f.2.2.2.2.1 = 0))
  left : ∀ l ∈ s.left, ∀ x ∈ l, x = 5
/-- Nobody waits: each wake finds nobody. -/
structure NoWait (s : Pl) : Prop where
  over : ∀ f ∈ s.over, f.2.2.2.2.2.2 = 3
  mask : mkB (loadM s.m 2) = 0
  cur : ∀ (i : Nat) f, s.cur[i]? = some f → f = noneF ∨ (f.1 ≠ 5 ∧ f.2.1 ≤ 1)
  left : ∀ l ∈ s.left, ∀ x ∈ l, x ≠ 5
theorem left_setE {P : List Int → Prop} {left : List (List Int)} {i : Nat} {L L' : List Int} (h : ∀ l ∈ left, P l) (hp : P L') : ∀ l ∈ left.set i L', P l := by
  intro l hl
  rcases List.mem_or_eq_of_mem_set hl with hl | rfl
  · exact h l hl
  · exact hp
theorem noWake_step {c : CF} {n : Nat} {m : List Int} {l : List FR} (h : OkP c n m l) {i : Nat} {f : FR} (hf : l[i]? = some f) (ep : epB (loadM m 2) = 0) (par : ∀ w : Nat, w < n → loadM m (parkC c w) = 0)
    (hg : f = noneF ∨ (f.1 = 5 ∧ f.2.1 ≤ 3 ∧ ((f.2.1 = 1 ∨ f.2.1 = 2) → epB f.2.2.2.2.1 = 0))) :
    overB (estepB c m f).2 = false ∧ epB (loadM (estepB c m f).1 2) = 0 ∧ (∀ w : Nat, w < n → loadM (estepB c m f).1 (parkC c w) = 0) ∧
      (putE2 (estepB c m f).2 = noneF ∨ ((putE2 (estepB c m f).2).1 = 5 ∧ (putE2 (estepB c m f).2).2.1 ≤ 3 ∧ (((putE2 (estepB c m f).2).2.1 = 1 ∨ (putE2 (estepB c m f).2).2.1 = 2) → epB (putE2 (estepB c m f).2).2.2.2.2.1 = 0))) := by
  have hi : i < n := by rw [← h.clen]; exact (List.getElem?_eq_some_iff.1 hf).1
  have ok := h.okb hi
  have h8 := h.n8
  rcases h.frm i f hf with rfl | ⟨op, pc, X, Y, rfl, hX, hY, hop⟩
  · exact ⟨rfl, ep, par, .inl rfl⟩
  · rcases hg with hg | ⟨h5, h3, hx⟩
    · have : (op, pc, (i : Int), (0 : Int), X, Y, (0 : Int)).1 = (-1 : Int) := by rw [hg]; rfl
      simp only at this
      omega
    · simp only at h5 h3 hx
      subst h5
      have p0 : 0 ≤ pc := by omega
      have e : estepB c m (5, pc, (i : Int), 0, X, Y, 0) = waitB c m (5, pc, (i : Int), 0, X, Y, 0) := rfl
      rw [e]
      rcases (show pc = 0 ∨ pc = 1 ∨ pc = 2 ∨ pc = 3 by omega) with rfl | rfl | rfl | rfl
      · rw [wait0 ok]
        exact ⟨rfl, ep, par, .inr ⟨rfl, by show (1 : Int) ≤ 3; decide, fun _ => ep⟩⟩
      · rw [wait1 ok, if_pos (by rw [ep, hx (.inl rfl)])]
        exact ⟨rfl, ep, par, .inr ⟨rfl, by show (2 : Int) ≤ 3; decide, fun _ => hx (.inl rfl)⟩⟩
      · rw [wait2 ok]
        by_cases hc : loadM m 2 = Y
        · rw [if_pos hc]
          refine ⟨rfl, ?_, fun w hw => ?_, .inr ⟨rfl, by show (3 : Int) ≤ 3; decide, fun hh => ?_⟩⟩
          · simp only []
            rw [ev_two h hi, ep_set hY.1 hY.2 (by omega) (by omega), ← hc, ep]
          · simp only []
            rw [ev_park h hw]
            exact par w hw
          · rcases hh with hh | hh <;> simp [putE2, overB] at hh
        · rw [if_neg hc]
          exact ⟨rfl, ep, par, .inr ⟨rfl, by show (1 : Int) ≤ 3; decide, fun _ => hx (.inr rfl)⟩⟩
      · rw [wait3 ok, if_pos (par i hi)]
        refine ⟨rfl, ep, par, .inr ⟨rfl, by show (3 : Int) ≤ 3; decide, fun hh => ?_⟩⟩
        rcases hh with hh | hh <;> simp [putE2, overB] at hh
theorem noWait_step {c : CF} {n : Nat} {m : List Int} {l : List FR} (h : OkP c n m l) {i : Nat} {f : FR} (hf : l[i]? = some f) (mk : mkB (loadM m 2) = 0) (hg : f = noneF ∨ (f.1 ≠ 5 ∧ f.2.1 ≤ 1)) :
    (overB (estepB c m f).2 = true → (estepB c m f).2.2.2.2.2.2.2 = 3) ∧ mkB (loadM (estepB c m f).1 2) = 0 ∧ (putE2 (estepB c m f).2 = noneF ∨ ((putE2 (estepB c m f).2).1 ≠ 5 ∧ (putE2 (estepB c m f).2).2.1 ≤ 1)) := by
  have hi : i < n := by rw [← h.clen]; exact (List.getElem?_eq_some_iff.1 hf).1
  rcases h.frm i f hf with rfl | ⟨op, pc, X, Y, rfl, hX, hY, hop⟩
  · exact ⟨fun hh => absurd hh (show ¬ (overB noneF = true) by decide), mk, .inl rfl⟩
  · rcases hg with hg | ⟨h5, h1⟩
    · have : (op, pc, (i : Int), (0 : Int), X, Y, (0 : Int)).1 = (-1 : Int) := by rw [hg]; rfl
      simp only at this
      omega
    · simp only at h5 h1
      have ho : op = 6 ∨ op = 7 := by omega
      have p0 : 0 ≤ pc := by omega
      have e : estepB c m (op, pc, (i : Int), 0, X, Y, 0) = noteB c m (op, pc, (i : Int), 0, X, Y, 0) := by
        unfold estepB
        rw [if_neg (by simp only; omega), if_pos ho]
      rw [e]
      rcases (show pc = 0 ∨ pc = 1 by omega) with rfl | rfl
      · rw [note0 h.may h.len ho]
        refine ⟨fun hh => by simp [overB] at hh, mk, .inr ?_⟩
        simp [putE2, overB]
        exact h5
      · rw [note1 h.may h.len ho]
        by_cases hx : loadM m 2 = X
        · have hm : mkB X = 0 := by rw [← hx, mk]
          rw [if_pos hx, if_pos hm]
          refine ⟨fun _ => rfl, ?_, .inl rfl⟩
          simp only []
          rw [ev_two h hi]
          have hl0 : lowB (mkB X) = -1 := by rw [hm]; decide
          split
          · unfold bumpB
            rw [mk_pack]
            unfold clrB
            rw [hl0, if_pos (by decide)]
            decide
          · unfold wipeB
            rw [mk_pack]
            decide
        · rw [if_neg hx]
          refine ⟨fun hh => by simp [overB] at hh, mk, .inr ?_⟩
          simp [putE2, overB]
          exact h5
theorem fetch_left {P : Int → Prop} {L : List Int} {i : Int} {f : FR} (h : ∀ x ∈ L, P x) : ∀ x ∈ (fetchE L i f).1, P x := by
  rcases fetch_cases L i f with ⟨_, j, op, _, _, _, e⟩ | ⟨e, _⟩
  · rw [e]
    exact fun x hx => h x (List.mem_of_mem_drop hx)
  · rw [e]
    exact h
theorem noWake_turn {c : CF} {n : Nat} (s : Pl) (i : Nat) (hi : i < n) (hh : OkS c n s ∧ NoWake c n s) : OkS c n (turnE c i s) ∧ NoWake c n (turnE c i s) := by
  obtain ⟨h, g⟩ := hh
  refine ⟨turn_okS s i hi h, ?_⟩
  have hL : s.left[i]? = some (s.left[i]'(by rw [h.left]; exact hi)) := List.getElem?_eq_getElem _
  have hf : s.cur[i]? = some (s.cur[i]'(by rw [h.ok.clen]; exact hi)) := List.getElem?_eq_getElem _
  generalize (s.left[i]'(by rw [h.left]; exact hi)) = L at hL
  generalize (s.cur[i]'(by rw [h.ok.clen]; exact hi)) = f at hf
  rw [turn_eq hL hf]
  obtain ⟨h1, h2⟩ := fetch_ok h.ok hf L
  have hlt : i < s.cur.length := by rw [h.ok.clen]; exact hi
  have hLm := g.left L (List.mem_of_getElem? hL)
  have hfe : (fetchE L i f).2 = noneF ∨ ((fetchE L i f).2.1 = 5 ∧ (fetchE L i f).2.2.1 ≤ 3 ∧ (((fetchE L i f).2.2.1 = 1 ∨ (fetchE L i f).2.2.1 = 2) → epB (fetchE L i f).2.2.2.2.2.1 = 0)) := by
    rcases fetch_cases L i f with ⟨_, j, op, _, hop, _, e⟩ | ⟨e, _⟩
    · rw [e]
      exact .inr ⟨hLm op (List.mem_of_getElem? hop), by simp, fun hh => by rcases hh with hh | hh <;> simp at hh⟩
    · rw [e]
      exact g.cur i f hf
  have key := noWake_step h1 (List.getElem?_set_self hlt) g.ep g.par hfe
  obtain ⟨k1, k2, k3, k4⟩ := key
  refine ⟨?_, k2, k3, fun j x hx => ?_, left_setE (P := fun l => ∀ x ∈ l, x = 5) (L := L) g.left (fetch_left hLm)⟩
  · simp only []
    rw [k1]
    exact g.over
  · simp only at hx
    by_cases hj : j = i
    · subst hj
      rw [List.getElem?_set_self hlt] at hx
      cases hx
      exact k4
    · rw [List.getElem?_set_ne (by omega)] at hx
      exact g.cur j x hx
theorem noWait_turn {c : CF} {n : Nat} (s : Pl) (i : Nat) (hi : i < n) (hh : OkS c n s ∧ NoWait s) : OkS c n (turnE c i s) ∧ NoWait (turnE c i s) := by
  obtain ⟨h, g⟩ := hh
  refine ⟨turn_okS s i hi h, ?_⟩
  have hL : s.left[i]? = some (s.left[i]'(by rw [h.left]; exact hi)) := List.getElem?_eq_getElem _
  have hf : s.cur[i]? = some (s.cur[i]'(by rw [h.ok.clen]; exact hi)) := List.getElem?_eq_getElem _
  generalize (s.left[i]'(by rw [h.left]; exact hi)) = L at hL
  generalize (s.cur[i]'(by rw [h.ok.clen]; exact hi)) = f at hf
  rw [turn_eq hL hf]
  obtain ⟨h1, h2⟩ := fetch_ok h.ok hf L
  have hlt : i < s.cur.length := by rw [h.ok.clen]; exact hi
  have hLm := g.left L (List.mem_of_getElem? hL)
  have hfe : (fetchE L i f).2 = noneF ∨ ((fetchE L i f).2.1 ≠ 5 ∧ (fetchE L i f).2.2.1 ≤ 1) := by
    rcases fetch_cases L i f with ⟨_, j, op, _, hop, _, e⟩ | ⟨e, _⟩
    · rw [e]
      exact .inr ⟨hLm op (List.mem_of_getElem? hop), by simp⟩
    · rw [e]
      exact g.cur i f hf
  obtain ⟨k1, k2, k3⟩ := noWait_step h1 (List.getElem?_set_self hlt) g.mask hfe
  refine ⟨?_, k2, fun j x hx => ?_, left_setE (P := fun l => ∀ x ∈ l, x ≠ 5) (L := L) g.left (fetch_left hLm)⟩
  · simp only []
    split
    · rename_i ho
      intro x hx
      rcases List.mem_append.1 hx with hx | hx
      · exact g.over x hx
      · rw [List.mem_singleton.1 hx]
        exact k1 ho
    · exact g.over
  · simp only at hx
    by_cases hj : j = i
    · subst hj
      rw [List.getElem?_set_self hlt] at hx
      cases hx
      exact k3
    · rw [List.getElem?_set_ne (by omega)] at hx
      exact g.cur j x hx
theorem noWake_play {calls : List (List Int)} (hmay : mayC (confE calls.length) = true) (h : ∀ l ∈ calls, ∀ x ∈ l, x = 5) (who : List Int) : (playS calls who).over = [] :=
  (play_inv (P := fun s => OkS (confE calls.length) calls.length s ∧ NoWake (confE calls.length) calls.length s) noWake_turn who (startE calls) ⟨⟨start_ok hmay, rfl⟩, rfl, by show epB (loadM (List.replicate _ 0) 2) = 0; rw [zero_load]; decide, fun w _ => zero_load _ _, fun i f hf => .inl (List.mem_replicate.1 (List.mem_of_getElem? hf)).2, h⟩).2.over
theorem noWait_play {calls : List (List Int)} (hmay : mayC (confE calls.length) = true) (h : ∀ l ∈ calls, ∀ x ∈ l, x ≠ 5) (who : List Int) : ∀ f ∈ (playS calls who).over, f.2.2.2.2.2.2 = 3 :=
  (play_inv (P := fun s => OkS (confE calls.length) calls.length s ∧ NoWait s) noWait_turn who (startE calls) ⟨⟨start_ok hmay, rfl⟩, fun f hf => (by cases hf), by show mkB (loadM (List.replicate _ 0) 2) = 0; rw [zero_load]; decide, fun i f hf => .inl (List.mem_replicate.1 (List.mem_of_getElem? hf)).2, h⟩).2.over
/-- Those of a list that are waits, or that are none. -/
def someL (waits : Bool) (l : List Int) : List Int := l.filter fun x => decide (x = 5) == waits
theorem some_in {k : Nat} (hk : 9223372036854770000 < k) {calls : List (List Int)} {who : List Int} {waits : Bool} {o : List (List Int) → Int → Nat → Option Bool} {i : Nat} {L : List Int} (hL : calls[i]? = some L) (hLl : L.length ≤ 30) {acc : List (List Int)} (hacc : acc.length ≤ 30) {t2 : Nat} (ht2 : t2 = 0 ∨ t2 = 1) :
    ∀ (d j n t : Nat) (a : List Int), (t = 0 ∨ t = 1) → j + d = L.length → d < n → a.length ≤ j → g_poacherlaw16_EventNobody_L1 k calls who waits o n a (j : Int) acc (i : Int) t t2 = o (acc ++ [a ++ someL waits (L.drop j)]) (IntKind.i64.wrap ((i : Int) + 1)) 1 := by
  intro d
  induction d with
  | zero =>
    intro j n t a ht hj hn ha
    obtain ⟨n, rfl⟩ := fuel hn
    have h1 : (t2 == 1 || t2 == 0) = true := by rcases ht2 with rfl | rfl <;> rfl
    rw [g_poacherlaw16_EventNobody_L1, idx_of hL, ob_some, ltF (by omega), cond_false, h1, ck_true, roomT (by simp; omega), cond_true, List.drop_eq_nil_of_le (by omega)]
    simp [someL]
  | succ d ih =>
    intro j n t a ht hj hn ha
    obtain ⟨n, rfl⟩ := fuel hn
    have hlt : j < L.length := by omega
    have hx : L[j]? = some L[j] := List.getElem?_eq_getElem hlt
    have h1 : (t == 1 || t == 0) = true := by rcases ht with rfl | rfl <;> rfl
    rw [g_poacherlaw16_EventNobody_L1, idx_of hL, ob_some, ltT (by omega), cond_true, ob_some, idx_of hx, ob_some, List.drop_eq_getElem_cons hlt]
    have hs : someL waits (L[j] :: L.drop (j + 1)) = if (decide (L[j] = 5) == waits) = true then L[j] :: someL waits (L.drop (j + 1)) else someL waits (L.drop (j + 1)) := by
      unfold someL
      rw [List.filter_cons]
    rw [hs, beqI]
    by_cases hc : (decide (L[j] = 5) == waits) = true
    · rw [hc, cond_true, if_pos rfl, ob_some, idx_of hx, ob_some, h1, ck_true, roomT (by simp; omega), cond_true, wrapS (by omega), ih (j + 1) n 1 _ (.inr rfl) (by omega) (by omega) (by simp; omega)]
      simp
    · have hc' : (decide (L[j] = 5) == waits) = false := by simpa using hc
      rw [hc', cond_false, if_neg (by simp), wrapS (by omega), ih (j + 1) n t a ht (by omega) (by omega) (by omega)]
theorem nobody_end {k : Nat} {calls : List (List Int)} {who : List Int} {waits : Bool} {l : List FR} (hl : l.length ≤ 600) (h : ∀ f ∈ l, waits = false ∧ f.2.2.2.2.2.2 = 3) : ∀ (d i n : Nat), i + d = l.length → d < n → g_poacherlaw16_EventNobody_L2 k calls who waits n l (i : Int) = some true := by
  intro d
  induction d with
  | zero =>
    intro i n hi hn
    obtain ⟨n, rfl⟩ := fuel hn
    rw [g_poacherlaw16_EventNobody_L2, ltF (by omega), cond_false]
  | succ d ih =>
    intro i n hi hn
    obtain ⟨n, rfl⟩ := fuel hn
    have hlt : i < l.length := by omega
    obtain ⟨h1, h2⟩ := h _ (List.getElem_mem hlt)
    subst h1
    rw [g_poacherlaw16_EventNobody_L2, ltT (by omega), cond_true, cond_false, idx_of (List.getElem?_eq_getElem hlt), ob_some, bneI, decide_eq_true h2, Bool.not_true, cond_false, wrapS (by omega)]
    exact ih (i + 1) n (by omega) (by omega)
theorem some_all {k : Nat} (hk : 9223372036854779900 < k) {calls : List (List Int)} (h10 : calls.length ≤ 10) (h30 : ∀ x ∈ calls, x.length ≤ 30) {who : List Int} (hw : who.length ≤ 500) {waits : Bool} :
    ∀ (d i n t : Nat), (t = 0 ∨ t = 1) → i + d = calls.length → d < n → g_poacherlaw16_EventNobody_L0 k calls who waits n ((calls.take i).map (someL waits)) (i : Int) t = some true := by
  intro d
  induction d with
  | zero =>
    intro i n t ht hi hn
    obtain ⟨n, rfl⟩ := fuel hn
    have hl : (calls.take i).map (someL waits) = calls.map (someL waits) := by rw [List.take_of_length_le (by omega)]
    rw [g_poacherlaw16_EventNobody_L0, ltF (by omega), cond_false, hl]
    have hlen : (calls.map (someL waits)).length = calls.length := List.length_map _
    have hc : ∀ x ∈ calls.map (someL waits), x.length ≤ 30 := by
      intro x hx
      obtain ⟨y, hy, rfl⟩ := List.mem_map.1 hx
      exact Nat.le_trans (List.length_filter_le _ _) (h30 y hy)
    rw [c_Play (by omega) hw (by omega) hc, ob_some]
    have hel : ∀ l ∈ calls.map (someL waits), ∀ x ∈ l, (decide (x = 5) == waits) = true := by
      intro l hl x hx
      obtain ⟨y, _, rfl⟩ := List.mem_map.1 hl
      exact (List.mem_filter.1 hx).2
    unfold playR
    by_cases hmay : mayC (confE (calls.map (someL waits)).length) = true
    · rw [if_pos hmay]
      simp only []
      have hol : (playS (calls.map (someL waits)) who).over.length ≤ 600 := by
        have h1 : ∀ (a : List Int) (s : Pl), (playE (confE (calls.map (someL waits)).length) (calls.map (someL waits)).length a s).over.length ≤ s.over.length + a.length := by
          intro a
          induction a with
          | nil => intro s; rw [playE]; simp
          | cons x a ih2 =>
            intro s
            rw [playE]
            split
            · have h1 := ih2 (turnE (confE (calls.map (someL waits)).length) x.toNat s)
              have h2 := turn_over (c := confE (calls.map (someL waits)).length) (i := x.toNat) (s := s)
              simp only [List.length_cons]
              omega
            · have h1 := ih2 s
              simp only [List.length_cons]
              omega
        have h2 := h1 who (startE (calls.map (someL waits)))
        have h3 : (startE (calls.map (someL waits))).over.length = 0 := rfl
        unfold playS
        omega
      refine nobody_end hol ?_ _ 0 (k + 60) (Nat.zero_add _) (by omega)
      cases waits with
      | true =>
        rw [noWake_play hmay (fun l hl x hx => by simpa using hel l hl x hx)]
        intro f hf
        cases hf
      | false =>
        exact fun f hf => ⟨rfl, noWait_play hmay (fun l hl x hx => by simpa using hel l hl x hx) who f hf⟩
    · rw [if_neg hmay]
      exact nobody_end (l := []) (by simp) (by simp) 0 0 (k + 60) rfl (by omega)
  | succ d ih =>
    intro i n t ht hi hn
    obtain ⟨n, rfl⟩ := fuel hn
    have hlt : i < calls.length := by omega
    have hx : calls[i]? = some calls[i] := List.getElem?_eq_getElem hlt
    have h3 := h30 _ (List.getElem_mem hlt)
    have hin := some_in (k := k) (by omega) (who := who) (waits := waits) (o := fun a b c => g_poacherlaw16_EventNobody_L0 k calls who waits n a b c) hx h3 (acc := (calls.take i).map (someL waits)) (by simp; omega) ht calls[i].length 0 (k + 60) 0 [] (.inl rfl) (by omega) (by omega) (by simp)
    rw [g_poacherlaw16_EventNobody_L0, ltT (by omega), cond_true]
    rw [show (((0 : Nat) : Int)) = (0 : Int) from rfl] at hin
    rw [hin, List.drop_zero, List.nil_append, wrapS (by omega)]
    have := ih (i + 1) n 1 (.inr rfl) (by omega) (by omega)
    rw [List.take_succ_eq_append_getElem hlt, List.map_append] at this
    exact this
theorem pure_ENobody (k : Nat) (hk : 9223372036854779900 < k) (calls : List (List Int)) (who : List Int) (waits : Bool) : g_poacherlaw16_EventNobody k calls who waits = some true := by
  obtain ⟨b, hb, hfew⟩ := c_Few (k := k + 59) (by omega) (l := calls)
  unfold g_poacherlaw16_EventNobody
  rw [awk16 hk, ob_some, hb, ob_some, Bool.not_true, cond_false]
  cases b with
  | false => rfl
  | true =>
    obtain ⟨h10, h30⟩ := hfew rfl
    rw [Bool.not_true, cond_false]
    by_cases h500 : (500 : Int) < who.length
    · rw [ltT h500, cond_true]
    rw [ltF (by omega), cond_false]
    exact some_all hk h10 h30 (by omega) calls.length 0 (k + 60) 0 (.inl rfl) (by omega) (by omega)
theorem law_ENobody (k : Nat) (hk : 9223372036854779990 < k) (calls : List (List Int)) (hc : Ll calls) (who : List Int) (hw : who.length ≤ 9223372036854775807) (waits : Bool) :
    xC k none 18 [.ro (calls.map listV), .ro (who.map (intR .i64)), .lit (.bool waits)] = some (.lit (.bool true), []) := by
  obtain ⟨j, rfl⟩ : ∃ j, k = j + 61 := ⟨k - 61, by omega⟩
  rw [h_poacherlaw16_EventNobody, pure_ENobody j (by omega)]
  rfl
end Go.Ab
