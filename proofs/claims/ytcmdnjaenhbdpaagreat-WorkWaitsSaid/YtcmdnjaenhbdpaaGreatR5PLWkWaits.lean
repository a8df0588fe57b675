/- WorkWaits. -/
import Derived.Test.YtcmdnjaenhbdpaaGreatR5PWk3
import Derived.Test.YtcmdnjaenhbdpaaGreatR5PWfs
import Derived.Test.YtcmdnjaenhbdpaaGreatR5GL7
set_option linter.unusedVariables false
set_option linter.unusedSimpArgs false
set_option linter.unusedVariables false
namespace Go.Ab
theorem zero_load (n : Nat) (i : Int) : loadM (List.replicate n 0) i = 0 := by
  unfold loadM
  split
  · rw [List.getElem?_replicate]
    split <;> rfl
  · rfl
theorem c_New {k : Nat} (hk : 1000 ≤ k) (c : CF) : g_lay_New k c = some (List.replicate (sizeC c).toNat 0) := by
  have hs : 0 ≤ sizeC c ∧ sizeC c ≤ 190 := by
    unfold sizeC
    split
    · rename_i h
      have hm := mayC_of h
      have := top_rng h (w := c.1) (by omega) (by omega)
      omega
    · omega
  have key : ∀ (d i n t : Nat), (t = 0 ∨ t = 1) → i + d = (sizeC c).toNat → d < n → g_lay_New_L0 k c n (sizeC c) (List.replicate i 0) (i : Int) t = some (List.replicate (sizeC c).toNat 0) := by
    intro d
    induction d with
    | zero =>
      intro i n t ht hi hn
      obtain ⟨n, rfl⟩ := fuel hn
      rw [g_lay_New_L0, ltF (by omega), cond_false]
      rw [show i = (sizeC c).toNat by omega]
    | succ d ih =>
      intro i n t ht hi hn
      obtain ⟨n, rfl⟩ := fuel hn
      have h1 : (t == 1 || t == 0) = true := by rcases ht with rfl | rfl <;> rfl
      rw [g_lay_New_L0, ltT (by omega), cond_true, h1, ck_true, roomT (by simp; omega), cond_true, wrapS (by omega)]
      have := ih (i + 1) n 1 (.inr rfl) (by omega) (by omega)
      rw [List.replicate_succ'] at this
      exact this
  unfold g_lay_New
  simp only [Prod.eta, c_Size, ob_some]
  exact key (sizeC c).toNat 0 (k + 3) 0 (.inl rfl) (by omega) (by omega)
def lookW (w : Int) (j : Nat) : WB := (7, [], (5, 1, w, 0, 0, 0, 0), 0, (j : Int))
def doneW (w : Int) : WB := (8, [], (5, 1, w, 0, 0, 0, 0), 0, 0)
theorem again_zero {n : Nat} {c : CF} {w : Int} {j : Nat} (h : (j : Int) < 2 + 2 * c.1) : wAgain c (List.replicate n 0) (lookW w j) = (List.replicate n 0, if (j : Int) + 1 = 2 + 2 * c.1 then doneW w else lookW w (j + 1), []) := by
  have hz := zero_load n
  have hfar : farB 0 0 = 0 := by decide
  unfold wAgain lookW doneW setV
  dsimp only
  rw [if_neg (by omega)]
  simp only [hz]
  have e1 : (if (j : Int) = 0 then ((5, 1, w, 0, 0, 0, 0) : FR) else if (j : Int) = 1 then (5, 1, w, 0, 0, 0, 0) else if (j : Int) % 2 = 0 then (5, 1, w, 0, 0, 0, 0) else (5, 1, w, 0, 0, 0, 0)) = (5, 1, w, 0, 0, 0, 0) := by
    repeat' split
    all_goals rfl
  have e2 : (if (j : Int) = 0 then false else if (j : Int) = 1 then decide ((0 : Int) ≠ 0) else if (j : Int) % 2 = 0 then false else decide ((0 : Int) < 0)) = false := by
    repeat' split
    all_goals rfl
  rw [e1]
  dsimp only
  rw [hfar, e2, if_neg (by decide)]
  split <;> rfl
theorem pure_WkWaits (k : Nat) (hk : 9223372036854779900 < k) (c : CF) {t : List (Int × List Int)} (ht : Wt t) (w : Int) : g_poacherlaw18_WorkWaits k c t w = some true := by
  unfold g_poacherlaw18_WorkWaits
  rw [c_WkNew, ob_some]
  simp only [Prod.eta]
  rw [c_WkFew (by omega) ht, ob_some]
  dsimp only
  generalize (fewB t && _) = b
  cases b with
  | false => rfl
  | true =>
    rw [Bool.not_true, cond_false, c_New (by omega), ob_some]
    have hsl : (lookW w 0).2.1.length ≤ 1000 := Nat.zero_le _
    have hmm := c_WkMay (k := k + 36) (by omega) c ht (List.replicate (sizeC c).toNat 0) w (lookW w 0) hsl
    refine (congrArg (fun z => ob z _) hmm).trans ?_
    rw [ob_some]
    cases hmay : mayWB c t (List.replicate (sizeC c).toNat 0) w (lookW w 0) with
    | false => rfl
    | true =>
      obtain ⟨h1, h2, h3, h4, h5⟩ := mayW_of hmay
      have hc := mayC_of h1
      have hsz := size_low h1
      have zb : (0 : Int) ≤ 0 ∧ (0 : Int) ≤ 18446744073709551615 := by decide
      have hm : Wm (List.replicate (sizeC c).toNat 0) := ⟨by rw [List.length_replicate]; omega, fun v hv => by rw [List.eq_of_mem_replicate hv]; decide⟩
      rw [Bool.not_true, cond_false, ob_some]
      have fin : ∀ n : Nat, g_poacherlaw18_WorkWaits_L0 k c t w (n + 1) (List.replicate (sizeC c).toNat 0) (2 + 2 * c.1) 8 [] 5 1 w 0 0 0 0 0 0 = some true := fun n => by
        rw [g_poacherlaw18_WorkWaits_L0, ltT (by omega), cond_true, wrapI (z := 2 * c.1) (by omega), wrapI (z := 2 + 2 * c.1) (by omega)]
        simp
      have run : ∀ (q j n : Nat), (j : Int) + q = 2 + 2 * c.1 → 0 < q → q < n → g_poacherlaw18_WorkWaits_L0 k c t w n (List.replicate (sizeC c).toNat 0) (j : Int) 7 [] 5 1 w 0 0 0 0 0 (j : Int) = some true := by
        intro q
        induction q with
        | zero => intro j n _ h _; exact absurd h (by decide)
        | succ q ih =>
          intro j n hj _ hn
          obtain ⟨n, rfl⟩ := fuel hn
          have hmj : mayWB c t (List.replicate (sizeC c).toNat 0) w (lookW w j) = true := mayW_mk h1 h2 h3 h4 h5
          have hs := c_WkStep (k := k) (by omega) c ht hm (by simp; omega) w (x := lookW w j) ⟨zb, zb, zb⟩ (Nat.zero_le _) (show (0 : Int) ≤ 9223372036854775807 by decide) (d := 0) (by decide)
          have hW : workB c t (List.replicate (sizeC c).toNat 0) w (lookW w j) 0 = wAgain c (List.replicate (sizeC c).toNat 0) (lookW w j) := by
            unfold workB
            rw [hmj]
            rfl
          rw [hW, again_zero (by omega)] at hs
          rw [g_poacherlaw18_WorkWaits_L0, ltT (by omega), cond_true, beqI, decide_eq_true rfl, cond_true]
          refine (congrArg (fun z => ob z _) hs).trans ?_
          rw [ob_some]
          dsimp only
          by_cases he : (j : Int) + 1 = 2 + 2 * c.1
          · rw [if_pos he, wrapI (by omega), he]
            obtain ⟨n, rfl⟩ : ∃ n', n = n' + 1 := ⟨n - 1, by omega⟩
            exact fin n
          · rw [if_neg he, wrapS (by omega)]
            exact ih (j + 1) n (by omega) (by omega) (by omega)
      exact run (2 + 2 * c.1).toNat 0 (k + 60) (by omega) (by omega) (by omega)
theorem law_WkWaits (k : Nat) (hk : 9223372036854779990 < k) (c : CF) (hc : confOk c) (t : List (Int × List Int)) (ht : Wt t) (w : Int) (hw : i64 w) :
    xC k none 7 [.agg (confV c), tasksV t, .lit (.int .i64 w)] = some (.lit (.bool true), []) := by
  obtain ⟨j, rfl⟩ : ∃ j, k = j + 61 := ⟨k - 61, by omega⟩
  have h := pure_WkWaits j (by omega) c ht w
  obtain ⟨W, D, I, S⟩ := c
  rw [confV, tasksV, h_poacherlaw18_WorkWaits, h]
  rfl
end Go.Ab
