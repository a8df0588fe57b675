/- EventWho. -/
import Derived.Test.YthnifkacfonhgaaR2PPl5
import Derived.Test.YthnifkacfonhgaaR2PWf4
import Derived.Test.YthnifkacfonhgaaR2GL19
set_option linter.unusedVariables false
set_option linter.unusedSimpArgs false
set_option linter.unusedVariables false
namespace Go.Ab
def okRes (f : FR) : Prop := (f.1 = 5 ∧ (f.2.2.2.2.2.2 = 1 ∨ f.2.2.2.2.2.2 = 4)) ∨ (f.1 ≠ 5 ∧ (f.2.2.2.2.2.2 = 1 ∨ f.2.2.2.2.2.2 = 3))
/-- What a step's call is, behind it. -/
theorem step_res {c : CF} {n : Nat} {m : List Int} {l : List FR} (h : OkP c n m l) {i : Nat} {f : FR} (hf : l[i]? = some f) (hn : f ≠ noneF) :
    (estepB c m f).2.1 = f.1 ∧ (estepB c m f).2.2.2.1 = i ∧ (overB (estepB c m f).2 = true → okRes (estepB c m f).2) := by
  have hi : i < n := by rw [← h.clen]; exact (List.getElem?_eq_some_iff.1 hf).1
  have ok := h.okb hi
  have h8 := h.n8
  rcases h.frm i f hf with rfl | ⟨op, pc, X, Y, rfl, hX, hY, hop⟩
  · exact absurd rfl hn
  · rcases hop with ⟨rfl, p0, p4⟩ | h67
    · have e : estepB c m (5, pc, (i : Int), 0, X, Y, 0) = waitB c m (5, pc, (i : Int), 0, X, Y, 0) := rfl
      rw [e]
      rcases (show pc = 0 ∨ pc = 1 ∨ pc = 2 ∨ pc = 3 ∨ pc = 4 by omega) with rfl | rfl | rfl | rfl | rfl
      · rw [wait0 ok]
        exact ⟨rfl, rfl, fun hh => by simp [overB] at hh⟩
      · rw [wait1 ok]
        split
        · exact ⟨rfl, rfl, fun hh => by simp [overB] at hh⟩
        · exact ⟨rfl, rfl, fun _ => .inl ⟨rfl, .inr rfl⟩⟩
      · rw [wait2 ok]
        split
        · exact ⟨rfl, rfl, fun hh => by simp [overB] at hh⟩
        · exact ⟨rfl, rfl, fun hh => by simp [overB] at hh⟩
      · rw [wait3 ok]
        exact ⟨rfl, rfl, fun hh => by simp [overB] at hh⟩
      · rw [wait4 ok]
        exact ⟨rfl, rfl, fun _ => .inl ⟨rfl, .inl rfl⟩⟩
    · have ho : op = 6 ∨ op = 7 := by omega
      have h5 : op ≠ 5 := by omega
      have p0 : 0 ≤ pc ∧ pc ≤ 2 := by omega
      have e : estepB c m (op, pc, (i : Int), 0, X, Y, 0) = noteB c m (op, pc, (i : Int), 0, X, Y, 0) := by
        unfold estepB
        rw [if_neg (by simp only; omega), if_pos ho]
      rw [e]
      rcases (show pc = 0 ∨ pc = 1 ∨ pc = 2 by omega) with rfl | rfl | rfl
      · rw [note0 h.may h.len ho]
        exact ⟨rfl, rfl, fun hh => by simp [overB] at hh⟩
      · rw [note1 h.may h.len ho]
        by_cases hx : loadM m 2 = X
        · rw [if_pos hx]
          by_cases hz : mkB X = 0
          · rw [if_pos hz]
            exact ⟨rfl, rfl, fun _ => .inr ⟨h5, .inr rfl⟩⟩
          · rw [if_neg hz]
            exact ⟨rfl, rfl, fun hh => by simp [overB] at hh⟩
        · rw [if_neg hx]
          exact ⟨rfl, rfl, fun hh => by simp [overB] at hh⟩
      · rcases ho with rfl | rfl
        · have hy : Y < n := by omega
          rw [note2 h.may h.len (by omega)]
          exact ⟨rfl, rfl, fun _ => .inr ⟨by simp, .inl rfl⟩⟩
        · rw [note3 h.may h.len]
          by_cases hz : clrB (mkB Y) = 0
          · rw [if_pos hz]
            exact ⟨rfl, rfl, fun _ => .inr ⟨by simp, .inl rfl⟩⟩
          · rw [if_neg hz]
            exact ⟨rfl, rfl, fun hh => by simp [overB] at hh⟩
def opsW (i : Nat) (l : List FR) : List Int := (l.filter fun f => decide (f.2.2.1 = (i : Int))).map (·.1)
def curOp (f : FR) : List Int := if f.1 = -1 then [] else [f.1]
theorem known_split {l : List Int} {j : Nat} {op : Int} (h : l.findIdx? knownB = some j) (ho : l[j]? = some op) : l.filter knownB = op :: (l.drop (j + 1)).filter knownB := by
  obtain ⟨hlt, hp, hno⟩ := List.findIdx?_eq_some_iff_getElem.1 h
  have hx : l[j] = op := by
    rw [List.getElem?_eq_getElem hlt] at ho
    exact Option.some.inj ho
  have e : l = l.take j ++ (l[j] :: l.drop (j + 1)) := by
    rw [← List.drop_eq_getElem_cons hlt, List.take_append_drop]
  have h0 : (l.take j).filter knownB = [] := by
    rw [List.filter_eq_nil_iff]
    intro x hm
    obtain ⟨a, ha, rfl⟩ := List.mem_iff_getElem.1 hm
    simp only [List.length_take] at ha
    rw [List.getElem_take]
    exact hno a (by omega)
  calc l.filter knownB = (l.take j ++ (l[j] :: l.drop (j + 1))).filter knownB := by rw [← e]
    _ = op :: (l.drop (j + 1)).filter knownB := by
      rw [List.filter_append, h0, List.nil_append, List.filter_cons, if_pos hp, hx]
/-- Each one's calls: those that are over, the one it is at, those that are left. -/
structure WhoS (calls : List (List Int)) (s : Pl) : Prop where
  res : ∀ f ∈ s.over, okRes f
  ops : ∀ (i : Nat) C L f, calls[i]? = some C → s.left[i]? = some L → s.cur[i]? = some f → C.filter knownB = opsW i s.over ++ (curOp f ++ L.filter knownB)
theorem curOp_none : curOp noneF = [] := rfl
theorem fetch_ops {n i : Nat} {L : List Int} {f : FR} (hfr : OkFr n i f) : curOp (fetchE L i f).2 ++ (fetchE L i f).1.filter knownB = curOp f ++ L.filter knownB := by
  rcases fetch_cases L i f with ⟨h1, j, op, hj, hop, hop3, e⟩ | ⟨e, _⟩
  · rw [e, known_split hj hop]
    have hn := hfr.none_of h1
    subst hn
    have : curOp (op, 0, (i : Int), 0, 0, 0, 0) = [op] := by unfold curOp; rw [if_neg (by simp only; omega)]
    rw [this]
    rfl
  · rw [e]
theorem who_turn {calls : List (List Int)} {c : CF} {n : Nat} (s : Pl) (i : Nat) (hi : i < n) (hh : OkS c n s ∧ WhoS calls s) : OkS c n (turnE c i s) ∧ WhoS calls (turnE c i s) := by
  obtain ⟨h, g⟩ := hh
  refine ⟨turn_okS s i hi h, ?_⟩
  have hL : s.left[i]? = some (s.left[i]'(by rw [h.left]; exact hi)) := List.getElem?_eq_getElem _
  have hf : s.cur[i]? = some (s.cur[i]'(by rw [h.ok.clen]; exact hi)) := List.getElem?_eq_getElem _
  generalize (s.left[i]'(by rw [h.left]; exact hi)) = L at hL
  generalize (s.cur[i]'(by rw [h.ok.clen]; exact hi)) = f at hf
  rw [turn_eq hL hf]
  obtain ⟨h1, h2⟩ := fetch_ok h.ok hf L
  have hlt : i < s.cur.length := by rw [h.ok.clen]; exact hi
  have hltl : i < s.left.length := by rw [h.left]; exact hi
  have hops := fetch_ops (L := L) (h.ok.frm i f hf)
  have hgi := List.getElem?_set_self (a := (fetchE L i f).2) hlt
  generalize hF : (fetchE L i f).2 = F at *
  generalize hLL : (fetchE L i f).1 = LL at *
  -- the frame behind the step
  have hres : (overB (estepB c s.m F).2 = true → okRes (estepB c s.m F).2 ∧ (estepB c s.m F).2.2.2.1 = i ∧ curOp F = [(estepB c s.m F).2.1]) ∧ (overB (estepB c s.m F).2 = false → curOp (estepB c s.m F).2 = curOp F) := by
    by_cases hn : F = noneF
    · subst hn
      exact ⟨fun hh => absurd hh (show ¬ (overB noneF = true) by decide), fun _ => rfl⟩
    · obtain ⟨a, b, d⟩ := step_res h1 hgi hn
      have hne : F.1 ≠ -1 := fun hh => hn (h2.none_of hh)
      have hcF : curOp F = [F.1] := by unfold curOp; rw [if_neg hne]
      refine ⟨fun hh => ⟨d hh, b, by rw [hcF, a]⟩, fun _ => ?_⟩
      rw [hcF]
      unfold curOp
      rw [a, if_neg hne]
  cases ho : overB (estepB c s.m F).2 with
  | true =>
    obtain ⟨r1, r2, r3⟩ := hres.1 ho
    have hput : putE2 (estepB c s.m F).2 = noneF := by unfold putE2; rw [if_pos ho]
    simp only [if_true]
    refine ⟨fun x hx => ?_, fun j C L2 f2 hC hL2 hf2 => ?_⟩
    · rcases List.mem_append.1 hx with hx | hx
      · exact g.res x hx
      · rw [List.mem_singleton.1 hx]
        exact r1
    · simp only at hL2 hf2 ⊢
      have hap : opsW j (s.over ++ [(estepB c s.m F).2]) = opsW j s.over ++ (if j = i then [(estepB c s.m F).2.1] else []) := by
        unfold opsW
        rw [List.filter_append, List.map_append]
        congr 1
        by_cases hj : j = i
        · subst hj
          simp [r2]
        · have : ¬ ((i : Int) = (j : Int)) := by omega
          simp [r2, this, hj]
      rw [hap]
      by_cases hj : j = i
      · subst hj
        rw [List.getElem?_set_self hltl] at hL2
        rw [List.getElem?_set_self hlt, hput] at hf2
        cases hL2
        cases hf2
        have := g.ops j C L f hC hL hf
        rw [← hops, r3] at this
        rw [if_pos rfl, curOp_none, this]
        simp
      · rw [List.getElem?_set_ne (by omega)] at hL2 hf2
        rw [if_neg hj, List.append_nil]
        exact g.ops j C L2 f2 hC hL2 hf2
  | false =>
    have r1 := hres.2 ho
    have hput : putE2 (estepB c s.m F).2 = (estepB c s.m F).2 := by unfold putE2; rw [if_neg (by rw [ho]; simp)]
    simp only [Bool.false_eq_true, if_false]
    refine ⟨g.res, fun j C L2 f2 hC hL2 hf2 => ?_⟩
    simp only at hL2 hf2 ⊢
    by_cases hj : j = i
    · subst hj
      rw [List.getElem?_set_self hltl] at hL2
      rw [List.getElem?_set_self hlt, hput] at hf2
      cases hL2
      cases hf2
      rw [r1, hops]
      exact g.ops j C L f hC hL hf
    · rw [List.getElem?_set_ne (by omega)] at hL2 hf2
      exact g.ops j C L2 f2 hC hL2 hf2
theorem who_play {calls : List (List Int)} (hmay : mayC (confE calls.length) = true) (who : List Int) : WhoS calls (playS calls who) :=
  (play_inv (P := fun s => OkS (confE calls.length) calls.length s ∧ WhoS calls s) who_turn who (startE calls) ⟨⟨start_ok hmay, rfl⟩, fun f hf => (by cases hf), fun i C L f hC hL hf => by
    have e : L = C := Option.some.inj (hL.symm.trans hC)
    have e2 := (List.mem_replicate.1 (List.mem_of_getElem? hf)).2
    subst e e2
    rfl⟩).2
theorem who_scan {k : Nat} {calls : List (List Int)} {who : List Int} {i : Nat} {C : List Int} (hC : calls[i]? = some C) (hCl : C.length ≤ 30) {l l2 : List FR} {q : Nat} {f : FR} (hq : l[q]? = some f) (hf : okRes f) (hfk : knownB f.1 = true) {o : List FR → List FR → Int → Int → Option Bool} (hql : q ≤ 1000) :
    ∀ (d p n : Nat) (rest : List Int), p + d = C.length → d < n → (C.drop p).filter knownB = f.1 :: rest →
      ∃ p2 : Nat, p2 ≤ C.length ∧ (C.drop p2).filter knownB = rest ∧ g_poacherlaw16_EventWho_L1 k calls who (i : Int) o n l l2 (q : Int) (p : Int) = o l l2 ((q + 1 : Nat) : Int) (p2 : Int) := by
  intro d
  induction d with
  | zero =>
    intro p n rest hp hn hr
    rw [List.drop_eq_nil_of_le (by omega)] at hr
    cases hr
  | succ d ih =>
    intro p n rest hp hn hr
    obtain ⟨n, rfl⟩ := fuel hn
    have hlt : p < C.length := by omega
    have hx : C[p]? = some C[p] := List.getElem?_eq_getElem hlt
    rw [List.drop_eq_getElem_cons hlt, List.filter_cons] at hr
    rw [g_poacherlaw16_EventWho_L1, idx_of hC, ob_some, ltT (by omega), cond_true, ob_some, idx_of hx, ob_some, idx_of hq, ob_some, bneI]
    by_cases he : C[p] = f.1
    · rw [decide_eq_true he, Bool.not_true, cond_false, ob_some, leF (by omega), cond_false, ob_some, ob_some, bneI, beqI]
      rw [he, if_pos hfk] at hr
      have hr2 := (List.cons.inj hr).2
      refine ⟨p + 1, hlt, hr2, ?_⟩
      rw [wrapS (by omega), wrapS (by omega)]
      rcases hf with ⟨h5, h1 | h4⟩ | ⟨h5, h1 | h3⟩
      · rw [decide_eq_true h1]; rfl
      · rw [decide_eq_false (show ¬ f.2.2.2.2.2.2 = 1 by omega), Bool.not_false, cond_true, ob_some, bneI, decide_eq_true h4, Bool.not_true, cond_false, decide_eq_true h5]; rfl
      · rw [decide_eq_true h1]; rfl
      · rw [decide_eq_false (show ¬ f.2.2.2.2.2.2 = 1 by omega), Bool.not_false, cond_true, ob_some, bneI, decide_eq_false (show ¬ f.2.2.2.2.2.2 = 4 by omega), Bool.not_false, cond_true, ob_some, bneI, decide_eq_true h3, Bool.not_true, cond_false, decide_eq_false h5]; rfl
    · have hk : knownB C[p] = false := by
        cases hb : knownB C[p] with
        | false => rfl
        | true =>
          rw [if_pos hb] at hr
          exact absurd (List.cons.inj hr).1 he
      rw [if_neg (by rw [hk]; simp)] at hr
      obtain ⟨p2, a, b, e⟩ := ih (p + 1) n rest (by omega) (by omega) hr
      refine ⟨p2, a, b, ?_⟩
      rw [decide_eq_false he, Bool.not_false, cond_true, ob_some, idx_of hx, ob_some, wrapS (by omega)]
      unfold knownB at hk
      have hk2 := of_decide_eq_false hk
      by_cases h5 : 5 ≤ C[p]
      · rw [leT h5, cond_true, ob_some, idx_of hx, ob_some, leF (by omega), cond_false]
        exact e
      · rw [leF (by omega), cond_false]
        exact e
theorem who_loop {k : Nat} (hk : 9223372036854770000 < k) {calls : List (List Int)} {who : List Int} {i : Nat} {C : List Int} (hC : calls[i]? = some C) (hCl : C.length ≤ 30) {l l2 : List FR} (hl : l.length ≤ 900) (hres : ∀ f ∈ l, okRes f) {f0 : FR} (h0 : l2[i]? = some f0) (ho : overB f0 = false) (tail : List Int) :
    ∀ (d q n p : Nat), q + d = l.length → d < n → p ≤ C.length → (C.drop p).filter knownB = opsW i (l.drop q) ++ tail → g_poacherlaw16_EventWho_L0 k calls who (i : Int) n l l2 (q : Int) (p : Int) = some true := by
  intro d
  induction d with
  | zero =>
    intro q n p hq hn hp hr
    obtain ⟨n, rfl⟩ := fuel hn
    rw [g_poacherlaw16_EventWho_L0, ltF (by omega), cond_false, idx_of h0, ob_some]
    simp only [Prod.eta]
    rw [c_Over, ob_some, ho]
    rfl
  | succ d ih =>
    intro q n p hq hn hp hr
    obtain ⟨n, rfl⟩ := fuel hn
    have hlt : q < l.length := by omega
    have hx : l[q]? = some l[q] := List.getElem?_eq_getElem hlt
    have hrq := hres _ (List.getElem_mem hlt)
    rw [List.drop_eq_getElem_cons hlt] at hr
    rw [g_poacherlaw16_EventWho_L0, ltT (by omega), cond_true, idx_of hx, ob_some, bneI]
    by_cases hw : (l[q]).2.2.1 = i
    · have e : opsW i (l[q] :: l.drop (q + 1)) = (l[q]).1 :: opsW i (l.drop (q + 1)) := by
        unfold opsW
        rw [List.filter_cons, if_pos (decide_eq_true hw)]
        rfl
      rw [e, List.cons_append] at hr
      have hkn : knownB (l[q]).1 = true := by
        have : (l[q]).1 ∈ (C.drop p).filter knownB := by rw [hr]; exact List.mem_cons_self ..
        exact (List.mem_filter.1 this).2
      obtain ⟨p2, a, b, e2⟩ := who_scan (k := k) (who := who) (o := fun a b c d => g_poacherlaw16_EventWho_L0 k calls who (i : Int) n a b c d) (l2 := l2) hC hCl hx hrq hkn (by omega) (C.length - p) p (k + 60) _ (by omega) (by omega) hr
      rw [decide_eq_true hw, Bool.not_true, cond_false, e2]
      exact ih (q + 1) n p2 (by omega) (by omega) a b
    · have e : opsW i (l[q] :: l.drop (q + 1)) = opsW i (l.drop (q + 1)) := by
        unfold opsW
        rw [List.filter_cons, if_neg (by simp [hw])]
      rw [e] at hr
      rw [decide_eq_false hw, Bool.not_false, cond_true, wrapS (by omega)]
      exact ih (q + 1) n p (by omega) (by omega) hp hr
theorem over_len2 (c : CF) (n : Nat) : ∀ (a : List Int) (s : Pl), (playE c n a s).over.length ≤ s.over.length + a.length
  | [], s => by rw [playE]; simp
  | x :: a, s => by
    rw [playE]
    split
    · have h1 := over_len2 c n a (turnE c x.toNat s)
      have h2 := turn_over (c := c) (i := x.toNat) (s := s)
      simp only [List.length_cons]
      omega
    · have h1 := over_len2 c n a s
      simp only [List.length_cons]
      omega
theorem pure_EWho (k : Nat) (hk : 9223372036854779900 < k) (calls : List (List Int)) (who : List Int) (w : Int) : g_poacherlaw16_EventWho k calls who w = some true := by
  obtain ⟨b, hb, hfew⟩ := c_Few (k := k + 59) (by omega) (l := calls)
  unfold g_poacherlaw16_EventWho
  rw [awk16 hk, ob_some, hb, ob_some, Bool.not_true, cond_false]
  cases b with
  | false => rfl
  | true =>
    obtain ⟨h10, h30⟩ := hfew rfl
    rw [Bool.not_true, cond_false]
    by_cases h500 : (500 : Int) < who.length
    · rw [ltT h500, cond_true]
    rw [ltF (by omega), cond_false]
    by_cases h0 : w < 0
    · rw [ltT h0, cond_true]
    rw [ltF (by omega), cond_false]
    by_cases h1 : (calls.length : Int) ≤ w
    · rw [leT h1, cond_true]
    rw [leF (by omega), cond_false, c_Play (by omega) (by omega) h10 h30, ob_some]
    by_cases hmay : mayC (confE calls.length) = true
    · have hs := play_ok hmay who
      have hw := who_play hmay who
      have e : playR calls who = ((playS calls who).m, (playS calls who).over, (playS calls who).cur) := by unfold playR; rw [if_pos hmay]
      obtain ⟨q, rfl⟩ : ∃ q : Nat, w = q := ⟨w.toNat, by omega⟩
      have hq : q < calls.length := by omega
      have hC : calls[q]? = some calls[q] := List.getElem?_eq_getElem hq
      have hL : (playS calls who).left[q]? = some ((playS calls who).left[q]'(by rw [hs.left]; exact hq)) := List.getElem?_eq_getElem _
      have hf : (playS calls who).cur[q]? = some ((playS calls who).cur[q]'(by rw [hs.ok.clen]; exact hq)) := List.getElem?_eq_getElem _
      have hops := hw.ops q _ _ _ hC hL hf
      have hfr := hs.ok.frm q _ hf
      have ho : overB ((playS calls who).cur[q]'(by rw [hs.ok.clen]; exact hq)) = false := by
        rcases hfr with e2 | ⟨op, pc, X, Y, e2, _⟩
        · rw [e2]; rfl
        · rw [e2]; rfl
      have hol := over_len2 (confE calls.length) calls.length who (startE calls)
      have hol2 : (startE calls).over.length = 0 := rfl
      rw [e]
      simp only []
      rw [leF (by rw [hs.ok.clen]; omega), cond_false]
      exact who_loop (k := k) (by omega) hC (h30 _ (List.getElem_mem hq)) (l := (playS calls who).over) (by unfold playS; omega) hw.res hf ho _ (playS calls who).over.length 0 (k + 60) 0 (by omega) (by unfold playS; omega) (Nat.zero_le _) (by rw [List.drop_zero, List.drop_zero]; exact hops)
    · have e : playR calls who = ([], [], []) := by unfold playR; rw [if_neg hmay]
      rw [e]
      simp only [List.length_nil]
      rw [leT (by omega), cond_true]
      rfl
theorem law_EWho (k : Nat) (hk : 9223372036854779990 < k) (calls : List (List Int)) (hc : Ll calls) (who : List Int) (hw : who.length ≤ 9223372036854775807) (w : Int) (hi : i64 w) :
    xC k none 19 [.ro (calls.map listV), .ro (who.map (intR .i64)), .lit (.int .i64 w)] = some (.lit (.bool true), []) := by
  obtain ⟨j, rfl⟩ : ∃ j, k = j + 61 := ⟨k - 61, by omega⟩
  rw [h_poacherlaw16_EventWho, pure_EWho j (by omega)]
  rfl
end Go.Ab
