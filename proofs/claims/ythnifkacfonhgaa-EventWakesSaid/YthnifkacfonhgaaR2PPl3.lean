/- The event's play, as one turn behind the other. -/
import Derived.Test.YthnifkacfonhgaaR2PPl2
import Derived.Test.YthnifkacfonhgaaR2GP
set_option linter.unusedVariables false
set_option linter.unusedSimpArgs false
set_option linter.unusedVariables false
namespace Go.Ab
theorem c_layout (n : Int) : g_event_layout n = some (n, 1, 1, 0) := rfl
theorem c_EStep {k : Nat} (hk : 1000 ≤ k) (c : CF) {m : List Int} (hm : Wm m) (hl : m.length ≤ 1000) {f : FR} (hf : Wf f) : g_event_Step k c m f = some (estepB c m f) := by
  unfold g_event_Step estepB
  simp only [Prod.eta, c_WStep c hm hl hf, c_NStep hk c hm hl hf, ob_some, beqI]
  by_cases h5 : f.1 = 5
  · rw [decide_eq_true h5, cond_true, if_pos h5]
  · rw [decide_eq_false h5, cond_false, if_neg h5]
    by_cases h6 : f.1 = 6
    · rw [decide_eq_true h6, cond_true, cond_true, if_pos (.inl h6)]
    · rw [decide_eq_false h6, cond_false]
      by_cases h7 : f.1 = 7
      · rw [decide_eq_true h7, cond_true, if_pos (.inr h7)]
      · rw [decide_eq_false h7, cond_false, if_neg (by omega), clone_ok (by omega), ob_some]
theorem c_known1 (op : Int) : g_event_Play_1 op = some (knownB op) := by
  unfold g_event_Play_1 knownB
  simp only [beqI]
  by_cases h5 : op = 5
  · simp [h5]
  · by_cases h6 : op = 6
    · simp [h6]
    · simp [h5, h6]
def idxK (l : List Int) : Int := match l.findIdx? knownB with | some j => (j : Int) | none => -1
theorem c_known {k : Nat} {l : List Int} (hl : l.length < k) (hm : l.length ≤ 9223372036854775807) : g_slices_IndexFunc_int_event_Play_1 k l = some (idxK l) := by
  have key : ∀ (d i n : Nat), i + d = l.length → d < n → g_slices_IndexFunc_int_event_Play_1_L0 k l n (i : Int) = some (match (l.drop i).findIdx? knownB with | some j => ((i + j : Nat) : Int) | none => -1) := by
    intro d
    induction d with
    | zero =>
      intro i n hi hn
      obtain ⟨n, rfl⟩ := fuel hn
      rw [g_slices_IndexFunc_int_event_Play_1_L0, ltF (by omega), cond_false, List.drop_eq_nil_of_le (by omega)]
      rfl
    | succ d ih =>
      intro i n hi hn
      obtain ⟨n, rfl⟩ := fuel hn
      have hlt : i < l.length := by omega
      have hx : l[i]? = some l[i] := List.getElem?_eq_getElem hlt
      rw [g_slices_IndexFunc_int_event_Play_1_L0, ltT (by omega), cond_true, idx_of hx, ob_some, c_known1, ob_some, List.drop_eq_getElem_cons hlt, List.findIdx?_cons]
      by_cases h : knownB l[i] = true
      · rw [h, cond_true, if_pos rfl]
        rfl
      · have h' : knownB l[i] = false := by simpa using h
        rw [h', cond_false, if_neg (by simp), wrapS (by omega), ih (i + 1) n (by omega) (by omega)]
        cases (l.drop (i + 1)).findIdx? knownB with
        | none => rfl
        | some j =>
          simp only [Option.map_some]
          congr 2
          omega
  have := key l.length 0 (k + 8) (by omega) (by omega)
  unfold g_slices_IndexFunc_int_event_Play_1
  rw [show ((0 : Int)) = ((0 : Nat) : Int) from rfl, this, List.drop_zero]
  unfold idxK
  cases l.findIdx? knownB with
  | none => rfl
  | some j => simp only [Nat.zero_add]
theorem c_New {k : Nat} (hk : 1000 ≤ k) (c : CF) : g_lay_New k c = some (List.replicate (sizeC c).toNat 0) := by
  have hs : 0 ≤ sizeC c ∧ sizeC c ≤ 190 := by
    unfold sizeC
    split
    · rename_i h
      have hm := mayC_of h
      have := top_rng h (w := c.1) (by omega) (by omega)
      omega
    · omega
  have key : ∀ (d i n t : Nat), (t = 0 ∨ t = 1) → i + d = (sizeC c).toNat → d < n → g_lay_New_L0 k c n (sizeC c) (List.replicate i 0) (i : Int) t = some (List.replicate (sizeC c).toNat 0) := by
    intro d
    induction d with
    | zero =>
      intro i n t ht hi hn
      obtain ⟨n, rfl⟩ := fuel hn
      rw [g_lay_New_L0, ltF (by omega), cond_false]
      rw [show i = (sizeC c).toNat by omega]
    | succ d ih =>
      intro i n t ht hi hn
      obtain ⟨n, rfl⟩ := fuel hn
      have h1 : (t == 1 || t == 0) = true := by rcases ht with rfl | rfl <;> rfl
      rw [g_lay_New_L0, ltT (by omega), cond_true, h1, ck_true, roomT (by simp; omega), cond_true, wrapS (by omega)]
      have := ih (i + 1) n 1 (.inr rfl) (by omega) (by omega)
      rw [List.replicate_succ'] at this
      exact this
  unfold g_lay_New
  simp only [Prod.eta, c_Size, ob_some]
  exact key (sizeC c).toNat 0 (k + 3) 0 (.inl rfl) (by omega) (by omega)
theorem c_Few {k : Nat} (hk : 100 ≤ k) {l : List (List Int)} : ∃ b, g_poacherlaw16_Few k l = some b ∧ (b = true → l.length ≤ 10 ∧ ∀ x ∈ l, x.length ≤ 30) := by
  have key : ∀ (d i n : Nat), i + d = 11 → i ≤ l.length → d < n → (∀ x ∈ l.take i, x.length ≤ 30) → ∃ b, g_poacherlaw16_Few_L0 k l n (i : Int) = some b ∧ (b = true → l.length ≤ 10 ∧ ∀ x ∈ l, x.length ≤ 30) := by
    intro d
    induction d with
    | zero =>
      intro i n hi hil hn hx
      obtain ⟨n, rfl⟩ := fuel hn
      refine ⟨decide ((l.length : Int) ≤ 10), ?_, fun h => ?_⟩
      · rw [g_poacherlaw16_Few_L0]
        by_cases h : (i : Int) < l.length
        · rw [ltT h, cond_true, leF (by omega), cond_false]
        · rw [ltF (by omega), cond_false]
      · have := of_decide_eq_true h
        omega
    | succ d ih =>
      intro i n hi hil hn hx
      obtain ⟨n, rfl⟩ := fuel hn
      by_cases h : i < l.length
      · have hxi : l[i]? = some l[i] := List.getElem?_eq_getElem h
        rw [g_poacherlaw16_Few_L0, ltT (by omega), cond_true, leT (by omega), cond_true, idx_of hxi, ob_some]
        by_cases h30 : 30 < l[i].length
        · rw [ltT (by omega), cond_true]
          exact ⟨false, rfl, fun hh => by cases hh⟩
        · rw [ltF (by omega), cond_false, wrapS (by omega)]
          refine ih (i + 1) n (by omega) h (by omega) fun x hm => ?_
          rw [List.take_succ_eq_append_getElem h, List.mem_append] at hm
          rcases hm with hm | hm
          · exact hx x hm
          · rw [List.mem_singleton.1 hm]
            omega
      · refine ⟨decide ((l.length : Int) ≤ 10), ?_, fun hh => ⟨by have := of_decide_eq_true hh; omega, fun x hm => hx x (by rw [List.take_of_length_le (by omega)]; exact hm)⟩⟩
        rw [g_poacherlaw16_Few_L0, ltF (by omega), cond_false]
  exact key 11 0 k (by omega) (by omega) (by omega) (by simp)
theorem OkFr.wf {n i : Nat} {f : FR} (h : OkFr n i f) : Wf f := by
  rcases h with rfl | ⟨op, pc, X, Y, rfl, hX, hY, _⟩
  · simp [Wf, noneF]
  · exact ⟨by simp, hX, hY⟩
theorem fetch_cases (l : List Int) (i : Int) (f : FR) : (f.1 = -1 ∧ ∃ j op, l.findIdx? knownB = some j ∧ l[j]? = some op ∧ (op = 5 ∨ op = 6 ∨ op = 7) ∧ fetchE l i f = (l.drop (j + 1), (op, 0, i, 0, 0, 0, 0))) ∨ (fetchE l i f = (l, f) ∧ (f.1 = -1 → l.findIdx? knownB = none)) := by
  unfold fetchE
  by_cases h : f.1 = -1
  · rw [if_pos h]
    cases hj : l.findIdx? knownB with
    | none => exact .inr ⟨rfl, fun _ => rfl⟩
    | some j =>
      obtain ⟨hlt, hp, _⟩ := List.findIdx?_eq_some_iff_getElem.1 hj
      have hx : l[j]? = some l[j] := List.getElem?_eq_getElem hlt
      refine .inl ⟨h, j, l[j], rfl, hx, by unfold knownB at hp; exact of_decide_eq_true hp, ?_⟩
      simp only [List.getD_eq_getElem?_getD, hx, Option.getD_some]
  · rw [if_neg h]
    exact .inr ⟨rfl, fun hh => absurd hh h⟩
theorem OkFr.none_of {n i : Nat} {f : FR} (h : OkFr n i f) (h1 : f.1 = -1) : f = noneF := by
  rcases h with h | ⟨op, pc, X, Y, rfl, _, _, hop⟩
  · exact h
  · simp only at h1
    omega
theorem turn_eq {c : CF} {i : Nat} {s : Pl} {L : List Int} {f : FR} (hL : s.left[i]? = some L) (hf : s.cur[i]? = some f) : turnE c i s =
    ⟨(estepB c s.m (fetchE L i f).2).1, s.left.set i (fetchE L i f).1, s.cur.set i (putE2 (estepB c s.m (fetchE L i f).2).2), if overB (estepB c s.m (fetchE L i f).2).2 = true then s.over ++ [(estepB c s.m (fetchE L i f).2).2] else s.over⟩ := by
  unfold turnE
  simp only [List.getD_eq_getElem?_getD, hL, hf, Option.getD_some]
theorem set_same {α : Type} {l : List α} {i : Nat} {x : α} (h : l[i]? = some x) : l.set i x = l := by
  obtain ⟨hi, rfl⟩ := List.getElem?_eq_some_iff.1 h
  exact List.set_getElem_self hi
theorem fetch_ok {c : CF} {n : Nat} {m : List Int} {l : List FR} (h : OkP c n m l) {i : Nat} {f : FR} (hf : l[i]? = some f) (L : List Int) : OkP c n m (l.set i (fetchE L i f).2) ∧ OkFr n i (fetchE L i f).2 := by
  have hi : i < n := by rw [← h.clen]; exact (List.getElem?_eq_some_iff.1 hf).1
  have hfr := h.frm i f hf
  rcases fetch_cases L i f with ⟨h1, j, op, _, _, hop, e⟩ | ⟨e, _⟩
  · rw [e]
    have hn := hfr.none_of h1
    subst hn
    have hg : OkFr n i (op, 0, (i : Int), 0, 0, 0, 0) := .inr ⟨op, 0, 0, 0, rfl, by simp [rngU], by simp [rngU], by omega⟩
    refine ⟨h.calm hf hg ?_ (fun hh => absurd hh.2 (by simp)) fun w _ => ?_, hg⟩
    · rw [w3_not (f := noneF) (fun hh => absurd hh (by decide))]
      exact w3_not fun _ => by simp
    · rw [one_pc (by simp), one_pc (f := noneF) (by decide)]
  · rw [e]
    simp only []
    rw [set_same hf]
    exact ⟨h, hfr⟩
theorem step_ok {c : CF} {n : Nat} {m : List Int} {l : List FR} (h : OkP c n m l) {i : Nat} {f : FR} (hf : l[i]? = some f) : OkP c n (estepB c m f).1 (l.set i (putE2 (estepB c m f).2)) := by
  rcases h.frm i f hf with rfl | ⟨op, pc, X, Y, rfl, hX, hY, hop⟩
  · have e : estepB c m noneF = (m, noneF) := rfl
    rw [e]
    show OkP c n m (l.set i noneF)
    rw [set_same hf]
    exact h
  · rcases hop with ⟨rfl, p0, p4⟩ | ⟨rfl, p0, p2, h6⟩ | ⟨rfl, p0, p2, h7⟩
    · exact step5 h hf hX hY p0 p4
    · exact step67 h (.inl rfl) hf hX hY p0 p2 (fun _ => h6) (fun hh => by cases hh)
    · exact step67 h (.inr rfl) hf hX hY p0 p2 (fun hh => by cases hh) (fun _ => h7)
theorem turn_ok {c : CF} {n : Nat} {s : Pl} (h : OkP c n s.m s.cur) (hl : s.left.length = n) {i : Nat} (hi : i < n) : OkP c n (turnE c i s).m (turnE c i s).cur := by
  have hL : s.left[i]? = some s.left[i] := List.getElem?_eq_getElem (by omega)
  have hf : s.cur[i]? = some (s.cur[i]'(by rw [h.clen]; exact hi)) := List.getElem?_eq_getElem _
  rw [turn_eq hL hf]
  obtain ⟨h1, _⟩ := fetch_ok h hf s.left[i]
  have hlt : i < s.cur.length := by rw [h.clen]; exact hi
  have := step_ok h1 (List.getElem?_set_self hlt)
  rw [List.set_set] at this
  exact this
theorem turn_left {c : CF} {i : Nat} {s : Pl} : (turnE c i s).left.length = s.left.length := by
  unfold turnE
  simp
end Go.Ab
