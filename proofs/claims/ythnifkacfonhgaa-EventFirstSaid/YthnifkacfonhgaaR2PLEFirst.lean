/- EventFirst. -/
import Derived.Test.YthnifkacfonhgaaR2PPl5
import Derived.Test.YthnifkacfonhgaaR2PWf4
import Derived.Test.YthnifkacfonhgaaR2GL17
set_option linter.unusedVariables false
set_option linter.unusedSimpArgs false
set_option linter.unusedVariables false
namespace Go.Ab
theorem play_append (c : CF) (n : Nat) : ∀ (a b : List Int) (s : Pl), playE c n (a ++ b) s = playE c n b (playE c n a s)
  | [], b, s => rfl
  | x :: a, b, s => by
    rw [List.cons_append, playE, playE, play_append c n a b]
theorem play_grows (c : CF) (n : Nat) : ∀ (a : List Int) (s : Pl), ∃ t, (playE c n a s).over = s.over ++ t
  | [], s => ⟨[], by rw [playE, List.append_nil]⟩
  | x :: a, s => by
    rw [playE]
    split
    · obtain ⟨t, ht⟩ := play_grows c n a (turnE c x.toNat s)
      rw [ht]
      have h1 : ∃ u, (turnE c x.toNat s).over = s.over ++ u := by
        unfold turnE
        simp only []
        split
        · exact ⟨_, rfl⟩
        · exact ⟨[], by rw [List.append_nil]⟩
      obtain ⟨u, hu⟩ := h1
      exact ⟨u ++ t, by rw [hu, List.append_assoc]⟩
    · exact play_grows c n a s
theorem frame_eq (x y : FR) : (x.1 == y.1 && (x.2.1 == y.2.1 && (x.2.2.1 == y.2.2.1 && (x.2.2.2.1 == y.2.2.2.1 && (x.2.2.2.2.1 == y.2.2.2.2.1 && (x.2.2.2.2.2.1 == y.2.2.2.2.2.1 && x.2.2.2.2.2.2 == y.2.2.2.2.2.2)))))) = decide (x = y) := by
  obtain ⟨a0, a1, a2, a3, a4, a5, a6⟩ := x
  obtain ⟨b0, b1, b2, b3, b4, b5, b6⟩ := y
  simp only [beqI, ← Bool.decide_and, Prod.mk.injEq]
theorem c_Frames {k : Nat} {a : List FR} (hk : a.length < k) (hl : a.length ≤ 9223372036854775806) : g_poacherref10_Frames k a a = some true := by
  unfold g_poacherref10_Frames
  rw [bneI, decide_eq_true rfl, Bool.not_true, cond_false]
  have key : ∀ (d i n : Nat), i + d = a.length → d < n → g_poacherref10_Frames_L0 k a a n (i : Int) = some true := by
    intro d
    induction d with
    | zero =>
      intro i n hi hn
      obtain ⟨n, rfl⟩ := fuel hn
      rw [g_poacherref10_Frames_L0, ltF (by omega), cond_false]
    | succ d ih =>
      intro i n hi hn
      obtain ⟨n, rfl⟩ := fuel hn
      have hlt : i < a.length := by omega
      rw [g_poacherref10_Frames_L0, ltT (by omega), cond_true, idx_of (List.getElem?_eq_getElem hlt), ob_some, ob_some, frame_eq, decide_eq_true rfl, Bool.not_true, cond_false, wrapS (by omega)]
      exact ih (i + 1) n (by omega) (by omega)
  exact key a.length 0 k (by omega) hk
theorem over_len (c : CF) (n : Nat) : ∀ (a : List Int) (s : Pl), (playE c n a s).over.length ≤ s.over.length + a.length
  | [], s => by rw [playE]; simp
  | x :: a, s => by
    rw [playE]
    split
    · have h1 := over_len c n a (turnE c x.toNat s)
      have h2 := turn_over (c := c) (i := x.toNat) (s := s)
      simp only [List.length_cons]
      omega
    · have h1 := over_len c n a s
      simp only [List.length_cons]
      omega
theorem pure_EFirst (k : Nat) (hk : 9223372036854779900 < k) (calls : List (List Int)) (who : List Int) (w : Int) : g_poacherlaw16_EventFirst k calls who w = some true := by
  obtain ⟨b, hb, hfew⟩ := c_Few (k := k + 59) (by omega) (l := calls)
  unfold g_poacherlaw16_EventFirst
  rw [awk16 hk, ob_some, hb, ob_some, Bool.not_true, cond_false]
  cases b with
  | false => rfl
  | true =>
    obtain ⟨h10, h30⟩ := hfew rfl
    rw [Bool.not_true, cond_false]
    by_cases h500 : (500 : Int) < who.length
    · rw [ltT h500, cond_true]
    rw [ltF (by omega), cond_false]
    by_cases h0 : w < 0
    · rw [ltT h0, cond_true]
    rw [ltF (by omega), cond_false]
    by_cases h1 : (who.length : Int) < w
    · rw [ltT h1, cond_true]
    rw [ltF (by omega), cond_false, decide_eq_true (show (0 : Int) ≤ w ∧ w ≤ (who.length : Int) by omega), cond_true, c_Play (by omega) (by simp; omega) h10 h30, ob_some, c_Play (by omega) (by omega) h10 h30, ob_some]
    have hfin : ∀ (a t : List FR), a.length ≤ 600 → (bif decide ((0 : Int) ≤ (a.length : Int) ∧ (a.length : Int) ≤ ((a ++ t).length : Int)) then ob (g_poacherref10_Frames (k + 59) a (List.take a.length (a ++ t))) fun x10 => some (x10) else none) = some true := by
      intro a t ha
      rw [decide_eq_true (by simp; omega), cond_true, List.take_left, c_Frames (by omega) (by omega), ob_some]
    by_cases hmay : mayC (confE calls.length) = true
    · have e : ∀ u, playR calls u = ((playS calls u).m, (playS calls u).over, (playS calls u).cur) := fun u => by unfold playR; rw [if_pos hmay]
      rw [e, e]
      simp only []
      have hs1 := (play_ok hmay (who.take w.toNat)).ok.clen
      have hs2 := (play_ok hmay who).ok.clen
      obtain ⟨t, ht⟩ : ∃ t, (playS calls who).over = (playS calls (who.take w.toNat)).over ++ t := by
        have := play_append (confE calls.length) calls.length (who.take w.toNat) (who.drop w.toNat) (startE calls)
        rw [List.take_append_drop] at this
        unfold playS
        rw [this]
        exact play_grows _ _ _ _
      have hl := over_len (confE calls.length) calls.length (who.take w.toNat) (startE calls)
      have hl2 : (startE calls).over.length = 0 := rfl
      have hl3 : (who.take w.toNat).length ≤ 500 := by simp; omega
      rw [ltF (by rw [ht]; simp; omega), cond_false, bneI, hs1, hs2, decide_eq_true rfl, Bool.not_true, cond_false, ht]
      exact hfin _ _ (by unfold playS; omega)
    · have e : ∀ u, playR calls u = ([], [], []) := fun u => by unfold playR; rw [if_neg hmay]
      rw [e, e]
      exact hfin [] [] (by simp)
theorem law_EFirst (k : Nat) (hk : 9223372036854779990 < k) (calls : List (List Int)) (hc : Ll calls) (who : List Int) (hw : who.length ≤ 9223372036854775807) (w : Int) (hi : i64 w) :
    xC k none 17 [.ro (calls.map listV), .ro (who.map (intR .i64)), .lit (.int .i64 w)] = some (.lit (.bool true), []) := by
  obtain ⟨j, rfl⟩ : ∃ j, k = j + 61 := ⟨k - 61, by omega⟩
  rw [h_poacherlaw16_EventFirst, pure_EFirst j (by omega)]
  rfl
end Go.Ab
