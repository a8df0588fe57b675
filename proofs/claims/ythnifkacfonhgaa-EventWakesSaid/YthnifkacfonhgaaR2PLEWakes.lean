/- EventWakes. -/
import Derived.Test.YthnifkacfonhgaaR2PPl5
import Derived.Test.YthnifkacfonhgaaR2PWf4
import Derived.Test.YthnifkacfonhgaaR2GL15
set_option linter.unusedVariables false
set_option linter.unusedSimpArgs false
set_option linter.unusedVariables false
namespace Go.Ab
def sumN (f : Nat → Nat) : Nat → Nat
  | 0 => 0
  | n + 1 => sumN f n + f n
theorem sumN_same {f g : Nat → Nat} : ∀ (n : Nat), (∀ w, w < n → g w = f w) → sumN g n = sumN f n
  | 0, _ => rfl
  | n + 1, h => by rw [sumN, sumN, sumN_same n (fun w hw => h w (by omega)), h n (by omega)]
theorem sumN_one {f g : Nat → Nat} {v : Nat} : ∀ (n : Nat), v < n → (∀ w, w < n → w ≠ v → g w = f w) → sumN g n + f v = sumN f n + g v
  | 0, hv, _ => by omega
  | n + 1, hv, h => by
    rw [sumN, sumN]
    by_cases e : v = n
    · subst e
      have := sumN_same (f := f) (g := g) v (fun w hw => h w (by omega) (by omega))
      omega
    · have := sumN_one (f := f) (g := g) (v := v) n (by omega) (fun w hw => h w (by omega))
      have := h n (by omega) (by omega)
      omega
theorem sumN_le {f : Nat → Nat} (h : ∀ w, f w ≤ 1) : ∀ (n : Nat), sumN f n ≤ n
  | 0 => Nat.le_refl _
  | n + 1 => by
    have := sumN_le h n
    have := h n
    rw [sumN]
    omega
def isW (f : FR) : Bool := decide (f.1 = 5 ∧ f.2.2.2.2.2.2 = 1)
def isN (f : FR) : Bool := decide (f.1 = 6 ∧ f.2.2.2.2.2.2 = 1)
def isWw (w : Int) (f : FR) : Bool := isW f && decide (f.2.2.1 = w)
def isNw (v : Int) (f : FR) : Bool := isN f && decide (f.2.2.2.1 = v)
theorem step_wakes {c : CF} {n : Nat} {m : List Int} {l : List FR} (h : OkP c n m l) {i : Nat} {f : FR} (hf : l[i]? = some f) (h7 : f.1 ≠ 7) :
    (putE2 (estepB c m f).2).1 ≠ 7 ∧
    (((overB (estepB c m f).2 = true → isW (estepB c m f).2 = false ∧ isN (estepB c m f).2 = false) ∧ ∀ w : Nat, w < n → parN c (estepB c m f).1 w = parN c m w) ∨
      (overB (estepB c m f).2 = true ∧ isW (estepB c m f).2 = true ∧ isN (estepB c m f).2 = false ∧ (estepB c m f).2.2.2.1 = i ∧ parN c m i = 1 ∧ parN c (estepB c m f).1 i = 0 ∧ ∀ w : Nat, w < n → w ≠ i → parN c (estepB c m f).1 w = parN c m w) ∨
      (∃ v : Nat, v < n ∧ overB (estepB c m f).2 = true ∧ isW (estepB c m f).2 = false ∧ isN (estepB c m f).2 = true ∧ (estepB c m f).2.2.2.2.1 = v ∧ parN c m v = 0 ∧ parN c (estepB c m f).1 v = 1 ∧ ∀ w : Nat, w < n → w ≠ v → parN c (estepB c m f).1 w = parN c m w)) := by
  have hi : i < n := by rw [← h.clen]; exact (List.getElem?_eq_some_iff.1 hf).1
  have ok := h.okb hi
  have h8 := h.n8
  have nov : ∀ (m' : List Int) (g : FR), g.1 ≠ 7 → overB g = false → (∀ w : Nat, w < n → parN c m' w = parN c m w) → (putE2 g).1 ≠ 7 ∧
    (((overB g = true → isW g = false ∧ isN g = false) ∧ ∀ w : Nat, w < n → parN c m' w = parN c m w) ∨
      (overB g = true ∧ isW g = true ∧ isN g = false ∧ g.2.2.1 = i ∧ parN c m i = 1 ∧ parN c m' i = 0 ∧ ∀ w : Nat, w < n → w ≠ i → parN c m' w = parN c m w) ∨
      (∃ v : Nat, v < n ∧ overB g = true ∧ isW g = false ∧ isN g = true ∧ g.2.2.2.1 = v ∧ parN c m v = 0 ∧ parN c m' v = 1 ∧ ∀ w : Nat, w < n → w ≠ v → parN c m' w = parN c m w)) := by
    intro m' g hg ho hp
    refine ⟨by unfold putE2; rw [if_neg (by rw [ho]; simp)]; exact hg, .inl ⟨fun hh => (by rw [ho] at hh; cases hh), hp⟩⟩
  have none7 : noneF.1 ≠ 7 := by decide
  rcases h.frm i f hf with rfl | ⟨op, pc, X, Y, rfl, hX, hY, hop⟩
  · exact nov m noneF none7 rfl (fun _ _ => rfl)
  · rcases hop with ⟨rfl, p0, p4⟩ | ⟨rfl, p0, p2, h6⟩ | ⟨rfl, _⟩
    · have e : estepB c m (5, pc, (i : Int), 0, X, Y, 0) = waitB c m (5, pc, (i : Int), 0, X, Y, 0) := rfl
      rw [e]
      have n5 : ∀ a : Int × Int × Int × Int × Int × Int, ((5 : Int), a).1 ≠ 7 := fun a => by simp
      rcases (show pc = 0 ∨ pc = 1 ∨ pc = 2 ∨ pc = 3 ∨ pc = 4 by omega) with rfl | rfl | rfl | rfl | rfl
      · rw [wait0 ok]
        exact nov _ _ (n5 _) rfl (fun _ _ => rfl)
      · rw [wait1 ok]
        split
        · exact nov _ _ (n5 _) rfl (fun _ _ => rfl)
        · exact ⟨none7, .inl ⟨fun _ => ⟨rfl, rfl⟩, fun _ _ => rfl⟩⟩
      · rw [wait2 ok]
        split
        · exact nov _ _ (n5 _) rfl (fun w hw => parN_eq (ev_park h hw _))
        · exact nov _ _ (n5 _) rfl (fun _ _ => rfl)
      · rw [wait3 ok]
        exact nov _ _ (n5 _) rfl (fun _ _ => rfl)
      · rw [wait4 ok]
        refine ⟨none7, .inr (.inl ⟨rfl, rfl, rfl, rfl, h.end4 i _ hf ⟨rfl, rfl⟩, ?_, fun w hw hne => ?_⟩)⟩
        · unfold parN
          simp only []
          rw [ev_par2 h hi hi, if_pos rfl]
          rfl
        · unfold parN
          simp only []
          rw [ev_par2 h hi hw, if_neg hne]
    · have e : estepB c m (6, pc, (i : Int), 0, X, Y, 0) = noteB c m (6, pc, (i : Int), 0, X, Y, 0) := rfl
      rw [e]
      have n6 : ∀ a : Int × Int × Int × Int × Int × Int, ((6 : Int), a).1 ≠ 7 := fun a => by simp
      rcases (show pc = 0 ∨ pc = 1 ∨ pc = 2 by omega) with rfl | rfl | rfl
      · rw [note0 h.may h.len (.inl rfl)]
        exact nov _ _ (n6 _) rfl (fun _ _ => rfl)
      · rw [note1 h.may h.len (.inl rfl)]
        by_cases hx : loadM m 2 = X
        · rw [if_pos hx]
          by_cases hz : mkB X = 0
          · rw [if_pos hz]
            exact ⟨none7, .inl ⟨fun _ => ⟨rfl, rfl⟩, fun w hw => parN_eq (ev_park h hw _)⟩⟩
          · rw [if_neg hz]
            exact nov _ _ (n6 _) rfl (fun w hw => parN_eq (ev_park h hw _))
        · rw [if_neg hx]
          exact nov _ _ (n6 _) rfl (fun _ _ => rfl)
      · have hy := h6 rfl
        have hy0 := hY.1
        obtain ⟨v, rfl⟩ : ∃ v : Nat, Y = v := ⟨Y.toNat, by omega⟩
        have hv : v < n := by omega
        have h1 : oneN (6, 2, (i : Int), 0, X, (v : Int), 0) v = 1 := by rw [one_6 (by omega)]; simp
        have hle := owe_le hf v
        have hs := sgn0 h hv
        rw [note2 h.may h.len (by omega)]
        refine ⟨none7, .inr (.inr ⟨v, hv, rfl, rfl, rfl, rfl, by omega, ?_, fun w hw hne => ?_⟩)⟩
        · unfold parN wakeB
          simp only []
          rw [ev_par2 h hv hv, if_pos rfl]
          rfl
        · unfold parN wakeB
          simp only []
          rw [ev_par2 h hv hw, if_neg hne]
    · exact absurd rfl h7
structure WakeS (c : CF) (n : Nat) (s : Pl) : Prop where
  left : ∀ l ∈ s.left, ∀ x ∈ l, x ≠ 7
  cur : ∀ (i : Nat) f, s.cur[i]? = some f → f.1 ≠ 7
  own : ∀ w : Nat, w < n → s.over.countP (isNw w) = s.over.countP (isWw w) + parN c s.m w
  all : s.over.countP isN = s.over.countP isW + sumN (fun w => parN c s.m w) n
  valN : ∀ f ∈ s.over, isN f = true → 0 ≤ f.2.2.2.1 ∧ f.2.2.2.1 < n
  whoW : ∀ f ∈ s.over, isW f = true → 0 ≤ f.2.2.1 ∧ f.2.2.1 < n
theorem wakes_turn {c : CF} {n : Nat} (s : Pl) (i : Nat) (hi : i < n) (hh : OkS c n s ∧ WakeS c n s) : OkS c n (turnE c i s) ∧ WakeS c n (turnE c i s) := by
  obtain ⟨h, g⟩ := hh
  refine ⟨turn_okS s i hi h, ?_⟩
  have hL : s.left[i]? = some (s.left[i]'(by rw [h.left]; exact hi)) := List.getElem?_eq_getElem _
  have hf : s.cur[i]? = some (s.cur[i]'(by rw [h.ok.clen]; exact hi)) := List.getElem?_eq_getElem _
  generalize (s.left[i]'(by rw [h.left]; exact hi)) = L at hL
  generalize (s.cur[i]'(by rw [h.ok.clen]; exact hi)) = f at hf
  rw [turn_eq hL hf]
  obtain ⟨h1, h2⟩ := fetch_ok h.ok hf L
  have hlt : i < s.cur.length := by rw [h.ok.clen]; exact hi
  have hLm := g.left L (List.mem_of_getElem? hL)
  have hF7 : (fetchE L i f).2.1 ≠ 7 ∧ ∀ x ∈ (fetchE L i f).1, x ≠ 7 := by
    rcases fetch_cases L i f with ⟨_, j, op, _, hop, _, e⟩ | ⟨e, _⟩
    · rw [e]
      exact ⟨hLm op (List.mem_of_getElem? hop), fun x hx => hLm x (List.mem_of_mem_drop hx)⟩
    · rw [e]
      exact ⟨g.cur i f hf, hLm⟩
  have key := step_wakes h1 (List.getElem?_set_self hlt) hF7.1
  generalize (fetchE L i f).2 = F at *
  generalize hr : estepB c s.m F = r at *
  obtain ⟨k1, k2⟩ := key
  have hleft : ∀ l ∈ s.left.set i (fetchE L i f).1, ∀ x ∈ l, x ≠ 7 := by
    intro l hl
    rcases List.mem_or_eq_of_mem_set hl with hl | rfl
    · exact g.left l hl
    · exact hF7.2
  have hcur : ∀ (j : Nat) x, (s.cur.set i (putE2 r.2))[j]? = some x → x.1 ≠ 7 := by
    intro j x hx
    by_cases hj : j = i
    · subst hj
      rw [List.getElem?_set_self hlt] at hx
      cases hx
      exact k1
    · rw [List.getElem?_set_ne (by omega)] at hx
      exact g.cur j x hx
  have cap : ∀ (p : FR → Bool), (s.over ++ [r.2]).countP p = s.over.countP p + if p r.2 = true then 1 else 0 := by
    intro p
    rw [List.countP_append, List.countP_cons, List.countP_nil, Nat.zero_add]
  have hNw : ∀ w : Int, isN r.2 = false → isNw w r.2 = false := fun w hh => by unfold isNw; rw [hh]; rfl
  have hWw : ∀ w : Int, isW r.2 = false → isWw w r.2 = false := fun w hh => by unfold isWw; rw [hh]; rfl
  cases ho : overB r.2 with
  | false =>
    simp only [Bool.false_eq_true, if_false]
    rcases k2 with ⟨_, hp⟩ | ⟨a, _⟩ | ⟨v, _, a, _⟩
    · refine ⟨hleft, hcur, fun w hw => ?_, ?_, g.valN, g.whoW⟩
      · simp only []
        rw [hp w hw]
        exact g.own w hw
      · simp only []
        rw [sumN_same n hp]
        exact g.all
    · rw [ho] at a; cases a
    · rw [ho] at a; cases a
  | true =>
    simp only [if_true]
    have hval : (isN r.2 = true → 0 ≤ r.2.2.2.2.1 ∧ r.2.2.2.2.1 < n) → ∀ x ∈ s.over ++ [r.2], isN x = true → 0 ≤ x.2.2.2.1 ∧ x.2.2.2.1 < n := by
      intro hv x hx
      rcases List.mem_append.1 hx with hx | hx
      · exact g.valN x hx
      · rw [List.mem_singleton.1 hx]
        exact hv
    have hwho : (isW r.2 = true → 0 ≤ r.2.2.2.1 ∧ r.2.2.2.1 < n) → ∀ x ∈ s.over ++ [r.2], isW x = true → 0 ≤ x.2.2.1 ∧ x.2.2.1 < n := by
      intro hv x hx
      rcases List.mem_append.1 hx with hx | hx
      · exact g.whoW x hx
      · rw [List.mem_singleton.1 hx]
        exact hv
    rcases k2 with ⟨hno, hp⟩ | ⟨_, hw, hn, hwi, hp1, hp0, hp⟩ | ⟨v, hv, _, hw, hn, hvi, hp0, hp1, hp⟩
    · obtain ⟨n1, n2⟩ := hno ho
      refine ⟨hleft, hcur, fun w hw => ?_, ?_, hval (fun hh => (by rw [n2] at hh; cases hh)), hwho (fun hh => (by rw [n1] at hh; cases hh))⟩
      · simp only []
        rw [cap, cap, hNw _ n2, hWw _ n1, hp w hw]
        exact g.own w hw
      · simp only []
        rw [cap, cap, n1, n2, sumN_same n hp]
        exact g.all
    · refine ⟨hleft, hcur, fun w hw2 => ?_, ?_, hval (fun hh => (by rw [hn] at hh; cases hh)), hwho (fun _ => (by rw [hwi]; omega))⟩
      · simp only []
        have h9 := g.own w hw2
        rw [cap, cap, hNw _ hn]
        by_cases e : w = i
        · subst e
          have : isWw (w : Int) r.2 = true := by unfold isWw; rw [hw, hwi]; simp
          rw [this, hp0]
          rw [hp1] at h9
          simp
          exact h9
        · have : isWw (w : Int) r.2 = false := by
            unfold isWw
            rw [hw, hwi]
            have : ¬ ((i : Int) = (w : Int)) := by omega
            simp [this]
          rw [this, hp w hw2 e]
          simp
          exact h9
      · simp only []
        have h9 := g.all
        have h10 : sumN (fun w => parN c r.1 w) n + parN c s.m i = sumN (fun w => parN c s.m w) n + parN c r.1 i := sumN_one (f := fun w => parN c s.m w) (g := fun w => parN c r.1 w) n hi hp
        rw [hp1, hp0] at h10
        rw [cap, cap, hw, hn]
        simp only [Bool.false_eq_true, if_false, if_true]
        omega
    · refine ⟨hleft, hcur, fun w hw2 => ?_, ?_, hval (fun _ => (by rw [hvi]; omega)), hwho (fun hh => (by rw [hw] at hh; cases hh))⟩
      · simp only []
        have h9 := g.own w hw2
        rw [cap, cap, hWw _ hw]
        by_cases e : w = v
        · subst e
          have : isNw (w : Int) r.2 = true := by unfold isNw; rw [hn, hvi]; simp
          rw [this, hp1]
          rw [hp0] at h9
          simp
          exact h9
        · have : isNw (w : Int) r.2 = false := by
            unfold isNw
            rw [hn, hvi]
            have : ¬ ((v : Int) = (w : Int)) := by omega
            simp [this]
          rw [this, hp w hw2 e]
          simp
          exact h9
      · simp only []
        have h9 := g.all
        have h10 : sumN (fun w => parN c r.1 w) n + parN c s.m v = sumN (fun w => parN c s.m w) n + parN c r.1 v := sumN_one (f := fun w => parN c s.m w) (g := fun w => parN c r.1 w) n hv hp
        rw [hp1, hp0] at h10
        rw [cap, cap, hw, hn]
        simp only [Bool.false_eq_true, if_false, if_true]
        omega
theorem wakes_play {calls : List (List Int)} (hmay : mayC (confE calls.length) = true) (h : ∀ l ∈ calls, ∀ x ∈ l, x ≠ 7) (who : List Int) : WakeS (confE calls.length) calls.length (playS calls who) :=
  (play_inv (P := fun s => OkS (confE calls.length) calls.length s ∧ WakeS (confE calls.length) calls.length s) wakes_turn who (startE calls) ⟨⟨start_ok hmay, rfl⟩, h, fun i f hf => (by rw [(List.mem_replicate.1 (List.mem_of_getElem? hf)).2]; decide),
    fun w hw => (by
      have : parN (confE calls.length) (startE calls).m w = 0 := by show (if loadM (List.replicate _ 0) _ = 0 then 0 else 1) = 0; rw [if_pos (zero_load _ _)]
      rw [this]; rfl),
    (by
      have : sumN (fun w => parN (confE calls.length) (startE calls).m w) calls.length = sumN (fun _ => 0) calls.length := sumN_same _ fun w _ => by show (if loadM (List.replicate _ 0) _ = 0 then 0 else 1) = 0; rw [if_pos (zero_load _ _)]
      rw [this]
      have h0 : ∀ n, sumN (fun _ => 0) n = 0 := fun n => by induction n with | zero => rfl | succ n ih => rw [sumN, ih]
      rw [h0]; rfl), fun f hf => (by cases hf), fun f hf => (by cases hf)⟩).2
theorem hand_in {k : Nat} {calls : List (List Int)} {who : List Int} {w : Int} {o : Int → Int → Int → Int → Int → Bool → Option Bool} {i : Nat} {L : List Int} (hL : calls[i]? = some L) (hLl : L.length ≤ 30) {a b c d : Int} :
    ∀ (e j n : Nat) (t : Bool), j + e = L.length → e < n → g_poacherlaw16_EventWakes_L2 k calls who w o n a b c d t (j : Int) (i : Int) = o a b c d (IntKind.i64.wrap ((i : Int) + 1)) (t || (L.drop j).any fun x => x == 7) := by
  intro e
  induction e with
  | zero =>
    intro j n t hj hn
    obtain ⟨n, rfl⟩ := fuel hn
    rw [g_poacherlaw16_EventWakes_L2, idx_of hL, ob_some, ltF (by omega), cond_false, List.drop_eq_nil_of_le (by omega)]
    simp
  | succ e ih =>
    intro j n t hj hn
    obtain ⟨n, rfl⟩ := fuel hn
    have hlt : j < L.length := by omega
    rw [g_poacherlaw16_EventWakes_L2, idx_of hL, ob_some, ltT (by omega), cond_true, List.drop_eq_getElem_cons hlt, List.any_cons]
    cases t with
    | true =>
      rw [cond_true, wrapS (by omega), ih (j + 1) n true (by omega) (by omega)]
      rfl
    | false =>
      rw [cond_false, ob_some, idx_of (List.getElem?_eq_getElem hlt), ob_some, wrapS (by omega), ih (j + 1) n _ (by omega) (by omega)]
      rfl
theorem hand_all {k : Nat} (hk : 9223372036854770000 < k) {calls : List (List Int)} (h10 : calls.length ≤ 10) (h30 : ∀ x ∈ calls, x.length ≤ 30) {who : List Int} {w : Int} {a b c d : Int}
    (h : ((calls.any fun l => l.any fun x => x == 7) = false) → a ≤ b ∧ d ≤ c ∧ b ≤ IntKind.i64.wrap (a + calls.length) ∧ c ≤ IntKind.i64.wrap (d + 1)) :
    ∀ (e i n : Nat) (t : Bool), i + e = calls.length → e < n → (t || (calls.drop i).any fun l => l.any fun x => x == 7) = (calls.any fun l => l.any fun x => x == 7) → g_poacherlaw16_EventWakes_L1 k calls who w n a b c d (i : Int) t = some true := by
  intro e
  induction e with
  | zero =>
    intro i n t hi hn ht
    obtain ⟨n, rfl⟩ := fuel hn
    rw [g_poacherlaw16_EventWakes_L1, ltF (by omega), cond_false]
    rw [List.drop_eq_nil_of_le (by omega)] at ht
    cases t with
    | true => rfl
    | false =>
      obtain ⟨h1, h2, h3, h4⟩ := h (by rw [← ht]; rfl)
      rw [cond_false, leT h1, cond_true, leT h2, cond_true, leT h3, cond_true, leT h4]
  | succ e ih =>
    intro i n t hi hn ht
    obtain ⟨n, rfl⟩ := fuel hn
    have hlt : i < calls.length := by omega
    have hin := hand_in (k := k) (who := who) (w := w) (o := fun a b c d e f => g_poacherlaw16_EventWakes_L1 k calls who w n a b c d e f) (a := a) (b := b) (c := c) (d := d) (List.getElem?_eq_getElem hlt) (h30 _ (List.getElem_mem hlt)) calls[i].length 0 (k + 60) t (by omega) (by have := h30 _ (List.getElem_mem hlt); omega)
    rw [g_poacherlaw16_EventWakes_L1, ltT (by omega), cond_true]
    rw [show (((0 : Nat) : Int)) = (0 : Int) from rfl] at hin
    rw [hin, List.drop_zero, wrapS (by omega)]
    refine ih (i + 1) n _ (by omega) (by omega) ?_
    rw [List.drop_eq_getElem_cons hlt, List.any_cons] at ht
    rw [Bool.or_assoc]
    exact ht
theorem cnt_loop {k : Nat} {calls : List (List Int)} {who : List Int} {w : Int} {l : List FR} (hl : l.length ≤ 900) :
    ∀ (d i n a b c e : Nat), i + d = l.length → d < n → a ≤ i → b ≤ i → c ≤ i → e ≤ i →
      g_poacherlaw16_EventWakes_L0 k calls who w n l (i : Int) (a : Int) (b : Int) (c : Int) (e : Int) = some true ∨
      g_poacherlaw16_EventWakes_L0 k calls who w n l (i : Int) (a : Int) (b : Int) (c : Int) (e : Int) =
        g_poacherlaw16_EventWakes_L1 k calls who w (k + 60) ((a + (l.drop i).countP isW : Nat) : Int) ((c + (l.drop i).countP isN : Nat) : Int) ((e + (l.drop i).countP (isNw (IntKind.u64.wrap w)) : Nat) : Int) ((b + (l.drop i).countP (isWw w) : Nat) : Int) 0 false := by
  intro d
  induction d with
  | zero =>
    intro i n a b c e hi hn ha hb hc he
    obtain ⟨n, rfl⟩ := fuel hn
    right
    rw [g_poacherlaw16_EventWakes_L0, ltF (by omega), cond_false, List.drop_eq_nil_of_le (by omega)]
    rfl
  | succ d ih =>
    intro i n a b c e hi hn ha hb hc he
    obtain ⟨n, rfl⟩ := fuel hn
    have hlt : i < l.length := by omega
    have hx : l[i]? = some l[i] := List.getElem?_eq_getElem hlt
    rw [g_poacherlaw16_EventWakes_L0, ltT (by omega), cond_true, idx_of hx, ob_some, bneI, List.drop_eq_getElem_cons hlt]
    simp only [List.countP_cons]
    generalize l[i] = f at *
    have hW : ∀ w : Int, isWw w f = (isW f && decide (f.2.2.1 = w)) := fun _ => rfl
    have hN : ∀ w : Int, isNw w f = (isN f && decide (f.2.2.2.1 = w)) := fun _ => rfl
    rw [wrapS (i := i) (by omega)]
    by_cases h1 : f.2.2.2.2.2.2 = 1
    · rw [decide_eq_true h1, Bool.not_true, cond_false, ob_some, beqI]
      by_cases h7 : f.1 = 7
      · rw [decide_eq_true h7, cond_true]
        exact .inl rfl
      · rw [decide_eq_false h7, cond_false, ob_some, beqI]
        by_cases h6 : f.1 = 6
        · have n5 : ¬ f.1 = 5 := by omega
          have iw : isW f = false := by unfold isW; simp [n5]
          have inn : isN f = true := by unfold isN; simp [h6, h1]
          rw [decide_eq_true h6, cond_true, ob_some, beqI, hW, hN, iw, inn]
          by_cases hv : f.2.2.2.1 = IntKind.u64.wrap w
          · rw [decide_eq_true hv, cond_true, ob_some, beqI, decide_eq_false n5, cond_false, wrapS (by omega), wrapS (by omega)]
            have := ih (i + 1) n a b (c + 1) (e + 1) (by omega) (by omega) (by omega) (by omega) (by omega) (by omega)
            simp only [Bool.false_and, Bool.false_eq_true, if_false, Bool.true_and, if_true, Nat.add_zero]
            rw [show c + (List.countP isN (List.drop (i + 1) l) + 1) = c + 1 + List.countP isN (List.drop (i + 1) l) by omega, show e + (List.countP (isNw (IntKind.u64.wrap w)) (List.drop (i + 1) l) + 1) = e + 1 + List.countP (isNw (IntKind.u64.wrap w)) (List.drop (i + 1) l) by omega]
            exact this
          · rw [decide_eq_false hv, cond_false, ob_some, beqI, decide_eq_false n5, cond_false, wrapS (by omega)]
            have := ih (i + 1) n a b (c + 1) e (by omega) (by omega) (by omega) (by omega) (by omega) (by omega)
            simp only [Bool.false_and, Bool.false_eq_true, if_false, Bool.true_and, if_true, Nat.add_zero, Bool.and_false]
            rw [show c + (List.countP isN (List.drop (i + 1) l) + 1) = c + 1 + List.countP isN (List.drop (i + 1) l) by omega]
            exact this
        · have inn : isN f = false := by unfold isN; simp [h6]
          rw [decide_eq_false h6, cond_false, ob_some, beqI, hW, hN, inn]
          by_cases h5 : f.1 = 5
          · have iw : isW f = true := by unfold isW; simp [h5, h1]
            rw [decide_eq_true h5, cond_true, ob_some, beqI, iw]
            by_cases hv : f.2.2.1 = w
            · rw [decide_eq_true hv, cond_true, wrapS (by omega), wrapS (by omega)]
              have := ih (i + 1) n (a + 1) (b + 1) c e (by omega) (by omega) (by omega) (by omega) (by omega) (by omega)
              simp only [Bool.false_and, Bool.false_eq_true, if_false, Bool.true_and, if_true, Nat.add_zero]
              rw [show a + (List.countP isW (List.drop (i + 1) l) + 1) = a + 1 + List.countP isW (List.drop (i + 1) l) by omega, show b + (List.countP (isWw w) (List.drop (i + 1) l) + 1) = b + 1 + List.countP (isWw w) (List.drop (i + 1) l) by omega]
              exact this
            · rw [decide_eq_false hv, cond_false, wrapS (by omega)]
              have := ih (i + 1) n (a + 1) b c e (by omega) (by omega) (by omega) (by omega) (by omega) (by omega)
              simp only [Bool.false_and, Bool.false_eq_true, if_false, Bool.true_and, if_true, Nat.add_zero, Bool.and_false]
              rw [show a + (List.countP isW (List.drop (i + 1) l) + 1) = a + 1 + List.countP isW (List.drop (i + 1) l) by omega]
              exact this
          · have iw : isW f = false := by unfold isW; simp [h5]
            rw [decide_eq_false h5, cond_false, iw]
            have := ih (i + 1) n a b c e (by omega) (by omega) (by omega) (by omega) (by omega) (by omega)
            simp only [Bool.false_and, Bool.false_eq_true, if_false, Nat.add_zero]
            exact this
    · have iw : isW f = false := by unfold isW; simp [h1]
      have inn : isN f = false := by unfold isN; simp [h1]
      rw [decide_eq_false h1, Bool.not_false, cond_true, hW, hN, iw, inn]
      have := ih (i + 1) n a b c e (by omega) (by omega) (by omega) (by omega) (by omega) (by omega)
      simp only [Bool.false_and, Bool.false_eq_true, if_false, Nat.add_zero]
      exact this
theorem over_len3 (c : CF) (n : Nat) : ∀ (a : List Int) (s : Pl), (playE c n a s).over.length ≤ s.over.length + a.length
  | [], s => by rw [playE]; simp
  | x :: a, s => by
    rw [playE]
    split
    · have h1 := over_len3 c n a (turnE c x.toNat s)
      have h2 := turn_over (c := c) (i := x.toNat) (s := s)
      simp only [List.length_cons]
      omega
    · have h1 := over_len3 c n a s
      simp only [List.length_cons]
      omega
theorem pure_EWakes (k : Nat) (hk : 9223372036854779900 < k) (calls : List (List Int)) (who : List Int) (w : Int) (hi : i64 w) : g_poacherlaw16_EventWakes k calls who w = some true := by
  obtain ⟨b, hb, hfew⟩ := c_Few (k := k + 59) (by omega) (l := calls)
  unfold g_poacherlaw16_EventWakes
  rw [awk16 hk, ob_some, hb, ob_some, Bool.not_true, cond_false]
  cases b with
  | false => rfl
  | true =>
    obtain ⟨h10, h30⟩ := hfew rfl
    rw [Bool.not_true, cond_false]
    by_cases h500 : (500 : Int) < who.length
    · rw [ltT h500, cond_true]
    rw [ltF (by omega), cond_false, c_Play (by omega) (by omega) h10 h30, ob_some]
    have main : ∀ l : List FR, l.length ≤ 900 → ((calls.any fun l => l.any fun x => x == 7) = false → l.countP isW ≤ l.countP isN ∧ l.countP (isWw w) ≤ l.countP (isNw (IntKind.u64.wrap w)) ∧ l.countP isN ≤ l.countP isW + calls.length ∧ l.countP (isNw (IntKind.u64.wrap w)) ≤ l.countP (isWw w) + 1) → g_poacherlaw16_EventWakes_L0 k calls who w (k + 60) l 0 0 0 0 0 = some true := by
      intro l hl hh
      have := cnt_loop (k := k) (calls := calls) (who := who) (w := w) hl l.length 0 (k + 60) 0 0 0 0 (by omega) (by omega) (Nat.le_refl _) (Nat.le_refl _) (Nat.le_refl _) (Nat.le_refl _)
      rcases this with h | h
      · exact h
      · rw [show ((0 : Nat) : Int) = 0 from rfl] at h
        rw [h, List.drop_zero]
        have c1 := List.countP_le_length (p := isW) (l := l)
        have c2 := List.countP_le_length (p := isWw w) (l := l)
        refine hand_all (by omega) h10 h30 ?_ calls.length 0 (k + 60) false (by omega) (by omega) (by rw [List.drop_zero]; rfl)
        intro h7
        obtain ⟨a1, a2, a3, a4⟩ := hh h7
        refine ⟨by omega, by omega, ?_, ?_⟩
        · have : IntKind.i64.wrap (((0 + List.countP isW l : Nat) : Int) + (calls.length : Int)) = ((List.countP isW l + calls.length : Nat) : Int) := by
            rw [IntKind.wrap_i64]
            omega
          rw [this]
          omega
        · rw [wrapS (by omega)]
          omega
    by_cases hmay : mayC (confE calls.length) = true
    · have e : playR calls who = ((playS calls who).m, (playS calls who).over, (playS calls who).cur) := by unfold playR; rw [if_pos hmay]
      rw [e]
      simp only []
      have hol := over_len3 (confE calls.length) calls.length who (startE calls)
      have hol2 : (startE calls).over.length = 0 := rfl
      refine main _ (by unfold playS; omega) fun h7 => ?_
      have hno : ∀ l ∈ calls, ∀ x ∈ l, x ≠ 7 := by
        intro l hl x hx e7
        have : (calls.any fun l => l.any fun x => x == 7) = true := List.any_eq_true.2 ⟨l, hl, List.any_eq_true.2 ⟨x, hx, by simp [e7]⟩⟩
        rw [h7] at this
        cases this
      have hk2 := wakes_play hmay hno who
      have hs := (play_ok hmay who).ok
      have hp1 : ∀ v : Nat, parN (confE calls.length) (playS calls who).m v ≤ 1 := fun v => by unfold parN; split <;> omega
      have hsum := sumN_le (f := fun v => parN (confE calls.length) (playS calls who).m v) (fun v => hp1 v) calls.length
      have hall := hk2.all
      have hi2 := i64_of hi
      refine ⟨by omega, ?_⟩
      by_cases hw : 0 ≤ w ∧ w < calls.length
      · obtain ⟨q, rfl⟩ : ∃ q : Nat, w = q := ⟨w.toNat, by omega⟩
        have h9 := hk2.own q (by omega)
        have := hp1 q
        rw [wrapU (by omega) (by omega)]
        omega
      · have z1 : (playS calls who).over.countP (isWw w) = 0 := by
          rw [List.countP_eq_zero]
          intro f hf hh
          unfold isWw at hh
          rw [Bool.and_eq_true, decide_eq_true_eq] at hh
          have := hk2.whoW f hf hh.1
          omega
        have z2 : (playS calls who).over.countP (isNw (IntKind.u64.wrap w)) = 0 := by
          rw [List.countP_eq_zero]
          intro f hf hh
          unfold isNw at hh
          rw [Bool.and_eq_true, decide_eq_true_eq] at hh
          have h1 := hk2.valN f hf hh.1
          rw [IntKind.wrap_u64] at hh
          omega
        rw [z1, z2]
        omega
    · have e : playR calls who = ([], [], []) := by unfold playR; rw [if_neg hmay]
      rw [e]
      exact main [] (by simp) fun _ => by simp
theorem law_EWakes (k : Nat) (hk : 9223372036854779990 < k) (calls : List (List Int)) (hc : Ll calls) (who : List Int) (hw : who.length ≤ 9223372036854775807) (w : Int) (hi : i64 w) :
    xC k none 15 [.ro (calls.map listV), .ro (who.map (intR .i64)), .lit (.int .i64 w)] = some (.lit (.bool true), []) := by
  obtain ⟨j, rfl⟩ : ∃ j, k = j + 61 := ⟨k - 61, by omega⟩
  rw [h_poacherlaw16_EventWakes, pure_EWakes j (by omega) calls who w hi]
  rfl
end Go.Ab
