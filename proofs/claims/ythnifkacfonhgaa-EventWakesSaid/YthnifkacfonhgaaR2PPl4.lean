/- The event's play: what the program's word is. -/
import Derived.Test.YthnifkacfonhgaaR2PPl3
set_option linter.unusedVariables false
set_option linter.unusedSimpArgs false
set_option linter.unusedVariables false
namespace Go.Ab
def confE (n : Nat) : CF := ((n : Int), 1, 1, 0)
def startE (calls : List (List Int)) : Pl := ⟨List.replicate (sizeC (confE calls.length)).toNat 0, calls, List.replicate calls.length noneF, []⟩
def playS (calls : List (List Int)) (who : List Int) : Pl := playE (confE calls.length) calls.length who (startE calls)
def playR (calls : List (List Int)) (who : List Int) : List Int × List FR × List FR :=
  if mayC (confE calls.length) = true then ((playS calls who).m, (playS calls who).over, (playS calls who).cur) else ([], [], [])
theorem may_n {n : Nat} : mayC (confE n) = true ↔ 1 ≤ n ∧ n ≤ 8 := by
  unfold mayC confE
  simp
  omega
theorem zero_load (n : Nat) (i : Int) : loadM (List.replicate n 0) i = 0 := by
  unfold loadM
  split
  · rw [List.getElem?_replicate]
    split <;> rfl
  · rfl
theorem zero_has {j : Nat} : hasB 0 (j : Int) = false := by
  have := has_nat 0 (w := (j : Int)) (by omega)
  rw [Nat.zero_testBit] at this
  exact this
theorem size_rng {c : CF} (h : mayC c = true) : 12 ≤ sizeC c ∧ sizeC c ≤ 190 := by
  have hm := mayC_of h
  have := top_rng h (w := c.1) (by omega) (by omega)
  unfold sizeC
  rw [if_pos h]
  have h2 : 0 ≤ c.1 * (3 + c.2.1) := this.2.2.2
  have e : topC c c.1 = 6 + 2 * c.2.2.1 + c.1 * (3 + c.2.1) := rfl
  have h3 : 1 * (3 + c.2.1) ≤ c.1 * (3 + c.2.1) := Int.mul_le_mul_of_nonneg_right (by omega) (by omega)
  omega
theorem start_ok {calls : List (List Int)} (h : mayC (confE calls.length) = true) : OkP (confE calls.length) calls.length (startE calls).m (startE calls).cur := by
  have hs := size_rng h
  refine ⟨⟨by show (List.replicate _ _).length ≤ _; simp; omega, fun x hx => ?_⟩, h, rfl, by show ((List.replicate _ _).length : Int) = _; simp; omega, by show (List.replicate _ _).length = _; simp, ?_, ?_, ?_, ?_, ?_⟩
  · rw [(List.mem_replicate.1 hx).2]
    omega
  · intro i f hf
    have := List.mem_of_getElem? hf
    exact .inl (List.mem_replicate.1 this).2
  · intro j _ _
    show hasB (loadM (List.replicate _ 0) 2) j = false
    rw [zero_load]
    exact zero_has
  · intro w _
    exact .inl (zero_load _ _)
  · intro w f hf
    have hf2 := (List.mem_replicate.1 (List.mem_of_getElem? hf)).2
    subst hf2
    have h1 : bitN (startE calls).m w = 0 := by
      show (if hasB (loadM (List.replicate _ 0) 2) w = true then 1 else 0) = 0
      rw [zero_load, zero_has]
      rfl
    have h2 : oweN (startE calls).cur w = 0 := by
      show List.countP _ (List.replicate _ _) = 0
      rw [List.countP_eq_zero]
      intro a ha
      rw [(List.mem_replicate.1 ha).2]
      simp [owesB, noneF]
    have h3 : parN (confE calls.length) (startE calls).m w = 0 := by
      show (if loadM (List.replicate _ 0) _ = 0 then 0 else 1) = 0
      rw [zero_load]
      rfl
    rw [h1, h2, h3]
    rfl
  · intro w f hf h4
    have hf2 := (List.mem_replicate.1 (List.mem_of_getElem? hf)).2
    subst hf2
    exact absurd h4.1 (by decide)
theorem play_inv {P : Pl → Prop} {c : CF} {n : Nat} (step : ∀ (s : Pl) (i : Nat), i < n → P s → P (turnE c i s)) : ∀ (who : List Int) (s : Pl), P s → P (playE c n who s)
  | [], s, h => h
  | i :: who, s, h => by
    rw [playE]
    refine play_inv step who _ ?_
    split
    · rename_i hi
      exact step s i.toNat (by omega) h
    · exact h
structure OkS (c : CF) (n : Nat) (s : Pl) : Prop where
  ok : OkP c n s.m s.cur
  left : s.left.length = n
theorem turn_okS {c : CF} {n : Nat} (s : Pl) (i : Nat) (hi : i < n) (h : OkS c n s) : OkS c n (turnE c i s) := ⟨turn_ok h.ok h.left hi, by rw [turn_left]; exact h.left⟩
theorem play_ok {calls : List (List Int)} (h : mayC (confE calls.length) = true) (who : List Int) : OkS (confE calls.length) calls.length (playS calls who) :=
  play_inv turn_okS who _ ⟨start_ok h, rfl⟩
theorem turn_over {c : CF} {i : Nat} {s : Pl} : (turnE c i s).over.length ≤ s.over.length + 1 := by
  unfold turnE
  simp only []
  split
  · simp
  · omega
theorem c_Play0 {k : Nat} (hk : 9223372036854770000 < k) {calls : List (List Int)} (hmay : mayC (confE calls.length) = true) (who : List Int) (hw : who.length ≤ 500) (hcl : ∀ x ∈ calls, x.length ≤ 30) :
    ∀ (d i n t : Nat) (s : Pl), (t = 7 ∨ t = 0) → i + d = who.length → d < n → OkS (confE calls.length) calls.length s → s.over.length ≤ i → (∀ x ∈ s.left, x.length ≤ 30) →
      g_event_Play_L0 k calls who n (confE calls.length).1 1 1 0 s.left s.m s.cur (i : Int) calls (List.replicate calls.length noneF) t s.over =
        some ((playE (confE calls.length) calls.length (who.drop i) s).m, (playE (confE calls.length) calls.length (who.drop i) s).over, (playE (confE calls.length) calls.length (who.drop i) s).cur) := by
  intro d
  induction d with
  | zero =>
    intro i n t s ht hi hn hs ho hlf
    obtain ⟨n, rfl⟩ := fuel hn
    have h1 : decide ((List.replicate calls.length noneF).length ≤ s.cur.length) = true := decide_eq_true (by rw [hs.ok.clen, List.length_replicate]; exact Nat.le_refl _)
    rw [g_event_Play_L0, ltF (by omega), cond_false, h1, ck_true, List.drop_eq_nil_of_le (by omega), playE, List.length_replicate, List.take_of_length_le (by rw [hs.ok.clen]; exact Nat.le_refl _)]
  | succ d ih =>
    intro i n t s ht hi hn hs ho hlf
    obtain ⟨n, rfl⟩ := fuel hn
    have hlt : i < who.length := by omega
    have hx : who[i]? = some who[i] := List.getElem?_eq_getElem hlt
    have t1 : (t == 7 || t == 0) = true := by rcases ht with rfl | rfl <;> rfl
    rw [List.drop_eq_getElem_cons hlt, playE, g_event_Play_L0, ltT (by omega), cond_true, idx_of hx, ob_some]
    generalize who[i] = x
    have c1 : (confE calls.length).1 = (calls.length : Int) := rfl
    by_cases h0 : 0 ≤ x
    · by_cases h1 : x < (calls.length : Int)
      · rw [leT h0, cond_true, c1, ltT h1, cond_true, if_pos ⟨h0, h1⟩]
        obtain ⟨q, rfl⟩ : ∃ q : Nat, x = q := ⟨x.toNat, by omega⟩
        have hq : q < calls.length := by omega
        have hql : q < s.left.length := by rw [hs.left]; exact hq
        have hqc : q < s.cur.length := by rw [hs.ok.clen]; exact hq
        have hL : s.left[q]? = some s.left[q] := List.getElem?_eq_getElem hql
        have hf : s.cur[q]? = some s.cur[q] := List.getElem?_eq_getElem hqc
        have hLl : s.left[q].length ≤ 30 := hlf _ (List.getElem_mem _)
        have hte := turn_eq (c := confE calls.length) hL hf
        have hfo := fetch_ok hs.ok hf s.left[q]
        have hnext := turn_okS s q hq hs
        have hov := turn_over (c := confE calls.length) (i := q) (s := s)
        have d7 : decide ((0 : Int) ≤ (q : Int) ∧ q < calls.length) = true := decide_eq_true ⟨by omega, hq⟩
        have d8 : decide ((0 : Int) ≤ (q : Int) ∧ q < (List.replicate calls.length noneF).length) = true := decide_eq_true ⟨by omega, by rw [List.length_replicate]; exact hq⟩
        have hset : ∀ (l : List FR) (g : FR), l.length = s.cur.length → (l.set q g)[q]? = some g := fun l g hl => List.getElem?_set_self (by omega)
        have hroom : ∀ g : FR, room (s.over ++ [g]).length 56 = true := fun g => roomT (by simp; omega)
        have hwf := hfo.2.wf
        have hml : s.m.length ≤ 1000 := by have := hs.ok.len; have := size_rng hmay; omega
        have hlf2 : ∀ x ∈ (turnE (confE calls.length) q s).left, x.length ≤ 30 := by
          rw [hte]
          intro y hy
          rcases List.mem_or_eq_of_mem_set hy with hy | rfl
          · exact hlf y hy
          · rcases fetch_cases s.left[q] (q : Int) s.cur[q] with ⟨_, j, op, _, _, _, e⟩ | ⟨e, _⟩
            · rw [e]; simp; omega
            · rw [e]; exact hLl
        have ihT : ∀ t : Nat, (t = 7 ∨ t = 0) → _ := fun t ht => ih (i + 1) n t (turnE (confE calls.length) q s) ht (by omega) (by omega) hnext (by omega) hlf2
        have hk2 : s.left[q].length < k + 28 := by omega
        have hce : ((calls.length : Int), (1 : Int), (1 : Int), (0 : Int)) = confE calls.length := rfl
        simp only [Int.toNat_natCast, hL, hf, d7, d8, cond_true, ob_some, c_known hk2 (by omega), beqI]
        rw [wrapS (i := i) (by omega)]
        rcases fetch_cases s.left[q] (q : Int) s.cur[q] with ⟨h1, j, op, hj, hop, hop3, e⟩ | ⟨e, hnone⟩
        · have hjk : idxK s.left[q] = (j : Int) := by unfold idxK; rw [hj]
          have hjl : j < s.left[q].length := (List.getElem?_eq_some_iff.1 hop).1
          rw [e] at hte hwf
          simp only at hte hwf
          rw [hjk, decide_eq_true h1, cond_true, leT (by omega), cond_true, idx_of hop, ob_some, begin_u, ob_some, wrapS (by omega),
            decide_eq_true (show (0 : Int) ≤ ((j + 1 : Nat) : Int) ∧ ((j + 1 : Nat) : Int) ≤ (s.left[q].length : Int) by omega), cond_true]
          simp only [Int.toNat_natCast, hset s.cur _ rfl, hset (s.cur.set q _) _ (List.length_set ..), ob_some, Prod.eta]
          rw [c_EStep (by omega) _ hs.ok.wm hml hwf, ob_some]
          simp only [hset s.cur _ rfl, hset (s.cur.set q _) _ (List.length_set ..), ob_some, Prod.eta, c_Over]
          simp only [hce]
          cases ho2 : overB (estepB (confE calls.length) s.m (op, 0, (q : Int), 0, 0, 0, 0)).2 with
          | true =>
            rw [cond_true, t1, ck_true, hroom, cond_true, ← ihT 7 (.inl rfl), hte]
            simp only [ho2, if_true, List.set_set, putE2]
            rfl
          | false =>
            rw [cond_false, ← ihT t ht, hte]
            simp only [ho2, Bool.false_eq_true, if_false, List.set_set, putE2]
            rfl
        · rw [e] at hte hwf
          simp only at hte hwf
          have tail : (ob (g_event_Step (k + 20) (confE calls.length) s.m s.cur[q]) fun x => ob (g_frame_Over x.2) fun y => bif y then ck (t == 7 || t == 0) (bif room (s.over ++ [x.2]).length 56 then g_event_Play_L0 k calls who n (calls.length : Int) 1 1 0 s.left x.1 ((s.cur.set q x.2).set q (-1, 0, 0, 0, 0, 0, 0)) ((i + 1 : Nat) : Int) calls (List.replicate calls.length noneF) 7 (s.over ++ [x.2]) else none)
              else g_event_Play_L0 k calls who n (calls.length : Int) 1 1 0 s.left x.1 (s.cur.set q x.2) ((i + 1 : Nat) : Int) calls (List.replicate calls.length noneF) t s.over) =
              some ((playE (confE calls.length) calls.length (who.drop (i + 1)) (turnE (confE calls.length) q s)).m, (playE (confE calls.length) calls.length (who.drop (i + 1)) (turnE (confE calls.length) q s)).over, (playE (confE calls.length) calls.length (who.drop (i + 1)) (turnE (confE calls.length) q s)).cur) := by
            rw [c_EStep (by omega) _ hs.ok.wm hml hwf, ob_some, c_Over, ob_some]
            have hsl : s.left.set q s.left[q] = s.left := set_same hL
            rw [hsl] at hte
            cases ho2 : overB (estepB (confE calls.length) s.m s.cur[q]).2 with
            | true =>
              rw [cond_true, t1, ck_true, hroom, cond_true, ← ihT 7 (.inl rfl), hte]
              simp only [ho2, if_true, List.set_set, putE2]
              rfl
            | false =>
              rw [cond_false, ← ihT t ht, hte]
              simp only [ho2, Bool.false_eq_true, if_false, List.set_set, putE2]
              rfl
          simp only [hset s.cur _ rfl, ob_some, Prod.eta]
          by_cases h1 : (s.cur[q]).1 = -1
          · have hjk : idxK s.left[q] = -1 := by unfold idxK; rw [hnone h1]
            rw [decide_eq_true h1, cond_true, hjk, leF (by decide), cond_false]
            exact tail
          · rw [decide_eq_false h1, cond_false]
            exact tail
      · rw [leT h0, cond_true, c1, ltF (by omega), cond_false, if_neg (by omega), wrapS (by omega)]
        exact ih (i + 1) n t s ht (by omega) (by omega) hs (by omega) hlf
    · rw [leF (by omega), cond_false, if_neg (by omega), wrapS (by omega)]
      exact ih (i + 1) n t s ht (by omega) (by omega) hs (by omega) hlf
theorem c_Play {k : Nat} (hk : 9223372036854770000 < k) {calls : List (List Int)} {who : List Int} (hw : who.length ≤ 500) (hcn : calls.length ≤ 10) (hcl : ∀ x ∈ calls, x.length ≤ 30) : g_event_Play k calls who = some (playR calls who) := by
  unfold g_event_Play playR
  simp only [c_layout, ob_some, c_May14, Prod.eta]
  by_cases hmay : mayC (confE calls.length) = true
  · have h2 := hmay
    unfold confE at h2
    have hn := may_n.1 hmay
    rw [h2, Bool.not_true, cond_false, if_pos hmay, c_New (by omega), ob_some, clone_ok (by omega), ob_some]
    have hrep : g_rep (-1, 0, 0, 0, 0, 0, 0) (calls.length : Int) = some (List.replicate calls.length noneF) := by
      unfold g_rep
      rw [if_pos (by omega), Int.toNat_natCast]
      rfl
    rw [hrep, ob_some]
    have := c_Play0 hk hmay who hw hcl who.length 0 (k + 38) 0 (startE calls) (.inr rfl) (by omega) (by omega) ⟨start_ok hmay, rfl⟩ (Nat.le_refl _) hcl
    rw [List.drop_zero] at this
    exact this
  · have h2 := hmay
    unfold confE at h2
    rw [if_neg hmay]
    simp only [Bool.not_eq_true] at h2
    rw [h2, Bool.not_false, cond_true]
end Go.Ab
