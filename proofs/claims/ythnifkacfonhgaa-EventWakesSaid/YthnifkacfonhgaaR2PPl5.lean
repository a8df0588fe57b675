/- The signs of each; the chapter's example. -/
import Derived.Test.YthnifkacfonhgaaR2PPl4
import Derived.Test.YthnifkacfonhgaaR2GPA
set_option linter.unusedVariables false
set_option linter.unusedSimpArgs false
set_option linter.unusedVariables false
set_option maxRecDepth 100000
namespace Go.Ab
theorem states_loop {l : List FR} {w : Int} {p : Nat} (hl : l.length ≤ 100) {F : Nat → Int → Int → Option Int}
    (h0 : ∀ (n : Nat) (c : Nat), c ≤ 200 → F (n + 1) (c : Int) (l.length : Int) = some ((c + p : Nat) : Int))
    (h1 : ∀ (n : Nat) (c i : Nat) (f : FR), c ≤ 200 → i < l.length → l[i]? = some f → F (n + 1) (c : Int) (i : Int) = F n ((c + oneN f w : Nat) : Int) ((i + 1 : Nat) : Int)) :
    ∀ (d i n c : Nat), i + d = l.length → d < n → c ≤ 1 + i → F n (c : Int) (i : Int) = some ((c + oweN (l.drop i) w + p : Nat) : Int) := by
  intro d
  induction d with
  | zero =>
    intro i n c hi hn hc
    obtain ⟨n, rfl⟩ := fuel hn
    have : i = l.length := by omega
    subst this
    rw [h0 n c (by omega), List.drop_eq_nil_of_le (Nat.le_refl _)]
    rfl
  | succ d ih =>
    intro i n c hi hn hc
    obtain ⟨n, rfl⟩ := fuel hn
    have hlt : i < l.length := by omega
    have h2 : oneN l[i] w ≤ 1 := by unfold oneN; split <;> omega
    rw [h1 n c i l[i] (by omega) hlt (List.getElem?_eq_getElem hlt), ih (i + 1) n _ (by omega) (by omega) (by omega), List.drop_eq_getElem_cons hlt]
    congr 2
    have : oweN (l[i] :: l.drop (i + 1)) w = oneN l[i] w + oweN (l.drop (i + 1)) w := by
      unfold oweN oneN
      rw [List.countP_cons]
      by_cases h : owesB l[i] w = true <;> simp [h] <;> omega
    omega
def sgnI (c : CF) (m : List Int) (l : List FR) (w : Int) : Int := if w < 0 then -1 else if (l.length : Int) ≤ w then -1 else (((if waitsB c m w = true then 1 else 0) + oweN l w + parN c m w : Nat) : Int)
def statesR (calls : List (List Int)) (who : List Int) (w : Int) : Int := sgnI (confE calls.length) (playR calls who).1 (playR calls who).2.2 w
theorem playR_wm {calls : List (List Int)} {who : List Int} : Wm (playR calls who).1 ∧ (∀ f ∈ (playR calls who).2.2, Wf f) ∧ (playR calls who).2.2.length ≤ 8 := by
  unfold playR
  split
  · rename_i h
    have := (play_ok h who).ok
    have h8 := this.n8
    refine ⟨this.wm, fun f hf => ?_, by rw [this.clen]; exact h8⟩
    obtain ⟨i, hi, rfl⟩ := List.mem_iff_getElem.1 hf
    exact (this.frm i _ (List.getElem?_eq_getElem hi)).wf
  · exact ⟨⟨by simp, by simp⟩, by simp, by simp⟩
theorem par_tail {c : CF} {m : List Int} {w : Int} {a : Nat} (ha : a ≤ 200) : (ob (some (parkC c w)) fun x => ob (some (loadM m x)) fun y => bif y != (0 : Int) then some (IntKind.i64.wrap ((a : Int) + 1)) else some (a : Int)) = some ((a + parN c m w : Nat) : Int) := by
  rw [ob_some, ob_some, bneI, wrapS (by omega)]
  unfold parN
  by_cases h : loadM m (parkC c w) = 0
  · rw [decide_eq_true h, Bool.not_true, cond_false, if_pos h]
    rfl
  · rw [decide_eq_false h, Bool.not_false, cond_true, if_neg h]
theorem c_States {k : Nat} (hk : 9223372036854770000 < k) {calls : List (List Int)} {who : List Int} (hw : who.length ≤ 500) (hcn : calls.length ≤ 10) (hcl : ∀ x ∈ calls, x.length ≤ 30) (w : Int) : g_event_States k calls who w = some (statesR calls who w) := by
  unfold g_event_States statesR sgnI
  rw [c_Play hk hw hcn hcl]
  simp only [ob_some, c_layout, Prod.eta]
  obtain ⟨hwm, hwf, h8⟩ := playR_wm (calls := calls) (who := who)
  by_cases h0 : w < 0
  · rw [ltT h0, cond_true, if_pos h0]
  · rw [ltF (by omega), cond_false, if_neg h0]
    by_cases h1 : ((playR calls who).2.2.length : Int) ≤ w
    · rw [leT h1, cond_true, if_pos h1]
    · rw [leF (by omega), cond_false, if_neg h1]
      have key : ∀ c : Nat, c ≤ 1 → g_event_States_L0 k calls who w (k + 40) (playR calls who).1 (playR calls who).2.2 (calls.length : Int) 1 1 0 ((playR calls who).2.2.length : Int) (c : Int) 0 = some ((c + oweN (playR calls who).2.2 w + parN (confE calls.length) (playR calls who).1 w : Nat) : Int) := by
        intro c hc
        refine states_loop (l := (playR calls who).2.2) (p := parN (confE calls.length) (playR calls who).1 w) (by omega) (F := fun n c i => g_event_States_L0 k calls who w n (playR calls who).1 (playR calls who).2.2 (calls.length : Int) 1 1 0 ((playR calls who).2.2.length : Int) c i) ?_ ?_ (playR calls who).2.2.length 0 (k + 40) c (by omega) (by omega) (by omega)
        · intro n c hc
          simp only [g_event_States_L0, lt_len, cond_false, c_Park, c_Load]
          exact par_tail (c := confE calls.length) hc
        · intro n c i f hc hi hf
          have hff := hwf f (List.mem_of_getElem? hf)
          simp only [g_event_States_L0, ltN hi, cond_true, idx_of hf, ob_some, Prod.eta, c_Owes hff]
          rw [wrapS (i := c) (by omega), wrapS (i := i) (by omega)]
          unfold oneN
          cases owesB f w <;> rfl
      rw [c_Waits _ hwm, ob_some]
      have hce : ((calls.length : Int), (1 : Int), (1 : Int), (0 : Int)) = confE calls.length := rfl
      rw [hce]
      cases waitsB (confE calls.length) (playR calls who).1 w with
      | true =>
        have := key 1 (by omega)
        rw [cond_true]
        exact this
      | false =>
        have := key 0 (by omega)
        rw [cond_false]
        exact this
def nilM : List Int × List FR := (List.replicate 16 0, [noneF, noneF])
theorem c_States_nil {k : Nat} (hk : 9223372036854770000 < k) : g_event_States_nil1 k [[5], [6]] 0 = some 0 := by
  have hp : g_event_Play_nil1 k [[5], [6]] = some (List.replicate 16 0, [], [noneF, noneF]) := by
    have hm : mayC (((2 : Nat) : Int), 1, 1, 0) = true := by decide
    have hs : sizeC (((2 : Nat) : Int), 1, 1, 0) = 16 := by decide
    unfold g_event_Play_nil1
    simp only [c_layout, ob_some, c_May14, Prod.eta, List.length_cons, List.length_nil, Nat.zero_add, Nat.reduceAdd]
    rw [hm, Bool.not_true, cond_false, c_New (by omega), ob_some, clone_ok (by decide), ob_some, hs]
    have hrep : g_rep (-1, 0, 0, 0, 0, 0, 0) ((2 : Nat) : Int) = some [noneF, noneF] := rfl
    rw [hrep, ob_some]
    obtain ⟨j, rfl⟩ : ∃ j, k = j + 1 := ⟨k - 1, by omega⟩
    rfl
  unfold g_event_States_nil1
  rw [hp]
  simp only [ob_some, c_layout, Prod.eta]
  obtain ⟨j, rfl⟩ : ∃ j, k = j + 10 := ⟨k - 10, by omega⟩
  rfl
theorem awk16 {k : Nat} (hk : 9223372036854779900 < k) : g_poacherlaw16_awake k = some true := by
  have e1 : playR [[5], [6]] [0, 0, 0, 1, 1, 1, 0, 0] = ([0, 0, 65536, 0, 0, 0, 0, 0, 0, 0, 0, 0, 0, 0, 0, 0], [(6, 0, 1, 0, 0, 0, 1), (5, 0, 0, 0, 0, 0, 1)], [noneF, noneF]) := by kernel_rfl
  have e2 : statesR [[5], [6]] [0, 0, 0] 0 = 1 := by decide +kernel
  have e3 : statesR [[5], [6]] [0, 0, 0, 1, 1, 1] 0 = 1 := by decide +kernel
  unfold g_poacherlaw16_awake
  rw [c_Play (by omega) (by decide) (by decide) (by decide), ob_some, c_States (by omega) (by decide) (by decide) (by decide), ob_some, e2, beqI, decide_eq_true rfl, cond_true, c_States (by omega) (by decide) (by decide) (by decide), ob_some, e3, beqI, decide_eq_true rfl, cond_true, e1, c_States_nil (by omega)]
  rfl
end Go.Ab
