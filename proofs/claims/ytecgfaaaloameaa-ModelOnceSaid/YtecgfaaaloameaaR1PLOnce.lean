/- ModelOnce: the law's word. -/
import Derived.Test.YtecgfaaaloameaaR1GL5
import Derived.Test.YtecgfaaaloameaaR1PMod
set_option maxRecDepth 100000
set_option linter.unusedVariables false
namespace Go.Ab
/-- Is a task anywhere yet? -/
def isAt (u : List Int) (c : Int) : Bool := decide ((u[c.toNat]?).getD 0 ≠ 0)
def kidsIn (t : List (Int × List Int)) (q : Int) (u : List Int) : Nat := ((t[q.toNat]?).getD (0, [])).2.countP (isAt u)
theorem kids_nodup : ∀ {t : List (Int × List Int)} {s : Nat}, ((kidsAt s t).map (·.1)).Nodup → ∀ x ∈ t, x.2.Nodup
  | [], _, _, x, hx => by simp at hx
  | y :: t, s, h, x, hx => by
    rw [kidsAt, List.map_append, List.nodup_append] at h
    rcases List.mem_cons.1 hx with rfl | hx
    · have h1 := h.1
      rw [List.map_map] at h1
      have e : (List.map ((fun q : Int × Int => q.1) ∘ fun k => (k, (s : Int))) x.2) = x.2 := by
        rw [show ((fun q : Int × Int => q.1) ∘ fun k => (k, (s : Int))) = id from rfl, List.map_id]
      rwa [e] at h1
    · exact kids_nodup h.2.1 x hx
theorem countP_flip {u : List Int} {c n : Int} (h0 : 0 ≤ c) (hc : u[c.toNat]? = some 0) (hn : n ≠ 0) : ∀ {l : List Int}, l.Nodup → (∀ x ∈ l, 0 ≤ x) → l.countP (isAt (u.set c.toNat n)) = l.countP (isAt u) + (if c ∈ l then 1 else 0)
  | [], _, _ => by simp
  | x :: l, h, hp => by
    rw [List.nodup_cons] at h
    have ih := countP_flip h0 hc hn h.2 (fun y hy => hp y (by simp [hy]))
    have hx0 := hp x (by simp)
    have hlt : c.toNat < u.length := (List.getElem?_eq_some_iff.1 hc).1
    by_cases e : x = c
    · subst e
      have a : isAt (u.set x.toNat n) x = true := by simp [isAt, hlt, hn]
      have b : isAt u x = false := by simp [isAt, hc]
      rw [List.countP_cons_of_pos a, List.countP_cons_of_neg (by simp [b]), ih]
      simp [h.1]
    · have a : isAt (u.set c.toNat n) x = isAt u x := by
        unfold isAt
        rw [List.getElem?_set_ne (by omega)]
      have hm : c ∈ x :: l ↔ c ∈ l := by simp [Ne.symm e]
      simp only [List.countP_cons, a, ih, hm]
      omega
theorem countP_keep {u : List Int} {c m n : Int} (h0 : 0 ≤ c) (hc : u[c.toNat]? = some m) (hm : m ≠ 0) (hn : n ≠ 0) : ∀ {l : List Int}, (∀ x ∈ l, 0 ≤ x) → l.countP (isAt (u.set c.toNat n)) = l.countP (isAt u)
  | [], _ => by simp
  | x :: l, hp => by
    have ih := countP_keep h0 hc hm hn (l := l) (fun y hy => hp y (by simp [hy]))
    have hx0 := hp x (by simp)
    have hlt : c.toNat < u.length := (List.getElem?_eq_some_iff.1 hc).1
    have a : isAt (u.set c.toNat n) x = isAt u x := by
      by_cases e : x = c
      · subst e
        have hv := (List.getElem?_eq_some_iff.1 hc).2
        simp [isAt, hlt, hn, hv, hm]
      · unfold isAt
        rw [List.getElem?_set_ne (by omega)]
    simp only [List.countP_cons, a, ih]
theorem pure_Once (k : Nat) (hk : 9223372036854775808 ≤ k) (t : List (Int × List Int)) (ht : Wt t) (l : List (Int × Int × Int)) (q : Int) : g_poacherlaw21_ModelOnce k t l q = some true := by
  rw [g_poacherlaw21_ModelOnce, c_Few _ (by omega) t ht, ob_some]
  cases hf : fewB t with
  | false => rfl
  | true =>
    rw [Bool.not_true, cond_false]
    by_cases hl : (200 : Int) < (l.length : Nat)
    · rw [ltT hl]; rfl
    · by_cases h0 : q < 0
      · rw [ltF (by omega), ltT h0]; rfl
      · by_cases h1 : (t.length : Int) ≤ q
        · rw [ltF (by omega), ltF (by omega), leT h1]; rfl
        · rw [ltF (by omega), ltF (by omega), leF (by omega), cond_false, cond_false, cond_false, c_Accepts _ (by omega) t ht l (by omega), ob_some]
          cases hac : ((runE t l).2 && mayB t) with
          | false => rfl
          | true =>
            rw [Bool.not_true, cond_false]
            simp only [Bool.and_eq_true] at hac
            obtain ⟨hac, hm⟩ := hac
            have hM := may_of hm
            have hlen := runE_len hm l
            have htx : t[q.toNat]? = some t[q.toNat] := List.getElem?_eq_getElem (by omega)
            have hix : idx t q = some t[q.toNat] := by rw [idx, if_pos (by omega), htx]
            have hkn := kids_nodup hM.once t[q.toNat] (List.getElem_mem (by omega))
            have hkid : ∀ c ∈ (t[q.toNat]).2, (c, q) ∈ kidsAt 0 t := fun c hc => mem_kidsAt.2 ⟨q.toNat, _, htx, hc, by omega⟩
            have hkp : ∀ c ∈ (t[q.toNat]).2, 0 ≤ c ∧ c ≠ q := by
              intro c hc
              have := hM.kids _ (hkid c hc)
              simp only at this
              omega
            have hmem : ∀ c, c ∈ (t[q.toNat]).2 ↔ parentB t c = q := by
              intro c
              constructor
              · intro hc
                exact parent_some hm (hkid c hc)
              · intro hp
                rcases parent_cases c hm with ⟨e, _⟩ | ⟨o, ho, e⟩
                · omega
                · rw [hp] at e
                  subst e
                  obtain ⟨n, x, hx, hc, hn⟩ := mem_kidsAt.1 ho
                  have : n = q.toNat := by omega
                  subst this
                  rw [htx] at hx
                  cases hx
                  exact hc
            have hkl := ht.kids _ (List.getElem_mem (show q.toNat < t.length by omega))
            have hkc : ∀ u, kidsIn t q u = (t[q.toNat]).2.countP (isAt u) := fun u => by rw [kidsIn, htx]; rfl
            have hkle : ∀ u, kidsIn t q u ≤ (t[q.toNat]).2.length := fun u => by rw [hkc]; exact List.countP_le_length
            have hkl40 : (t[q.toNat]).2.length ≤ 40 := by
              simp only [fewB, Bool.and_eq_true, decide_eq_true_eq, List.all_eq_true] at hf
              refine hf.1 _ ?_
              rw [List.take_of_length_le (by omega)]
              exact List.getElem_mem _
            have key : ∀ r (i : Nat) n (u : List Int), l.drop i = r → i ≤ l.length → r.length < n → u.length = t.length → (runL t r u).2 = true → (runL t r u).1 = (runE t l).1 →
                g_poacherlaw21_ModelOnce_L0 k t l q n (i : Int) ((u[q.toNat]?).getD 0) (kidsIn t q u : Int) = some true := by
              intro r
              induction r with
              | nil =>
                intro i n u hr hi hn hul hacc hend
                obtain ⟨n, rfl⟩ := fuel hn
                have := drop_nil hr
                simp only [runL] at hend
                have hux : u[q.toNat]? = some u[q.toNat] := List.getElem?_eq_getElem (by omega)
                rw [g_poacherlaw21_ModelOnce_L0, ltF (by omega), cond_false, c_End _ (by omega) t ht l (by omega), ob_some, ← hend, lenEq, decide_eq_true hul, cond_true, idx, if_pos (by omega), hux, ob_some]
                simp
              | cons e r ih =>
                intro i n u hr hi hn hul hacc hend
                obtain ⟨n, rfl⟩ := fuel hn
                obtain ⟨a, b, c, d, ee⟩ := drop_cons hr
                simp only [List.length_cons] at hn
                have hst : (stepE t u e).2 = true := by
                  rw [runL] at hacc
                  by_cases h : (stepE t u e).2 = true
                  · exact h
                  · rw [if_neg h] at hacc; cases hacc
                rw [runL, if_pos hst] at hacc hend
                have hlen' := stepE_len t u e
                have ih' := ih (i + 1) n (stepE t u e).1 c (by omega) (by omega) (by omega) hacc hend
                have hux : u[q.toNat]? = some u[q.toNat] := List.getElem?_eq_getElem (by omega)
                obtain ⟨hfit, hap⟩ := hap_of hst
                have hub : ∀ x ∈ u, 0 ≤ x ∧ x ≤ 3 := by
                  intro x hx
                  simp only [fitsB, Bool.and_eq_true, Bool.not_eq_true'] at hfit
                  have := List.any_eq_false.1 hfit.2 x hx
                  simp only [oddB, Bool.or_eq_true, decide_eq_true_eq] at this
                  omega
                have huq := hub _ (List.getElem_mem (show q.toNat < u.length by omega))
                have hk0 := hkle u
                have hpar := c_Parent (k + 40) (by omega) t ht e.2.1
                obtain ⟨kd, x, w⟩ := e
                simp only at hpar
                cases hap with
                | idle h5 hc hu =>
                  simp only at h5
                  subst h5
                  rw [hu] at ih'
                  rw [g_poacherlaw21_ModelOnce_L0]
                  simp only [ltN a, cond_true, idx_of b, ob_some, Int.reduceBEq, cond_false]
                  rw [wrapS (by omega)]
                  exact ih'
                | rule m h5 hx0 hxl hrule hu =>
                  simp only at h5 hx0 hxl hrule hu
                  rw [hu] at ih'
                  have hxu : u[x.toNat]? = some u[x.toNat] := List.getElem?_eq_getElem (by omega)
                  have hself : x = q → ((u.set x.toNat m)[q.toNat]?).getD 0 = m := by
                    rintro rfl
                    rw [List.getElem?_set_self (by omega)]
                    rfl
                  have hother : x ≠ q → ((u.set x.toNat m)[q.toNat]?).getD 0 = (u[q.toNat]?).getD 0 := by
                    intro h
                    rw [List.getElem?_set_ne (by omega)]
                  rw [hkc] at ih' ⊢
                  rw [hkc] at hk0
                  have hflip : u[x.toNat] = 0 → m ≠ 0 → (t[q.toNat]).2.countP (isAt (u.set x.toNat m)) = (t[q.toNat]).2.countP (isAt u) + (if x ∈ (t[q.toNat]).2 then 1 else 0) := by
                    intro z zm
                    exact countP_flip hx0 (by rw [hxu, z]) zm hkn (fun y hy => (hkp y hy).1)
                  have hkeep : u[x.toNat] ≠ 0 → m ≠ 0 → (t[q.toNat]).2.countP (isAt (u.set x.toNat m)) = (t[q.toNat]).2.countP (isAt u) := by
                    intro z zm
                    exact countP_keep hx0 hxu z zm (fun y hy => (hkp y hy).1)
                  rw [g_poacherlaw21_ModelOnce_L0]
                  simp only [ltN a, cond_true, idx_of b, ob_some, hix, hux, Option.getD_some]
                  simp only [hux, Option.getD_some] at hother
                  rcases ruleB_cases hrule with ⟨rfl, hz, rfl, hp⟩ | ⟨rfl, hz, rfl, hp⟩ | ⟨rfl, hz, rfl, hp, hp2⟩ | ⟨rfl, hz, rfl⟩ | ⟨rfl, hz, rfl, hall⟩ <;> rw [hxu, Option.getD_some] at hz
                  · -- submitted
                    have hnm : ¬ x ∈ (t[q.toNat]).2 := by
                      rw [hmem]
                      omega
                    rw [hflip hz (by omega), if_neg hnm, Nat.add_zero] at ih'
                    simp only [Int.reduceBEq, cond_false, cond_true, bneI]
                    rw [wrapS (by omega)]
                    by_cases hxq : x = q
                    · rw [hself hxq] at ih'
                      subst hxq
                      simp only [decide_true, Bool.not_true, cond_false, hz]
                      rw [wrapI (by omega)]
                      exact ih'
                    · rw [hother hxq] at ih'
                      rw [decide_eq_false hxq]
                      exact ih'
                  · -- rejected
                    have hsame : u.set x.toNat 0 = u := set_same (by rw [hxu, Option.getD_some, hz])
                    rw [hsame, hux, Option.getD_some] at ih'
                    simp only [Int.reduceBEq, cond_false, cond_true]
                    rw [wrapS (by omega)]
                    exact ih'
                  · -- spawned
                    rw [hflip hz (by omega)] at ih'
                    simp only [Int.reduceBEq, cond_false, cond_true, bneI, beqI]
                    rw [hpar, ob_some, wrapS (by omega)]
                    by_cases hpq : parentB t x = q
                    · have hxm : x ∈ (t[q.toNat]).2 := (hmem x).2 hpq
                      have hne := (hkp x hxm).2
                      have hp3 : u[q.toNat] = 2 := by
                        rw [hpq, hux] at hp2
                        exact Option.some.inj hp2
                      rw [if_pos hxm, hother hne] at ih'
                      rw [decide_eq_true hpq, decide_eq_true hp3, decide_eq_false hne, wrapI (z := ((List.countP (isAt u) (t[q.toNat]).2 : Nat) : Int) + 1) (by omega)]
                      exact ih'
                    · have hxm : ¬ x ∈ (t[q.toNat]).2 := fun h => hpq ((hmem x).1 h)
                      rw [if_neg hxm, Nat.add_zero] at ih'
                      rw [decide_eq_false hpq, cond_false]
                      by_cases hxq : x = q
                      · rw [hself hxq] at ih'
                        subst hxq
                        simp only [decide_true, Bool.not_true, cond_false, hz]
                        rw [wrapI (by omega)]
                        exact ih'
                      · rw [hother hxq] at ih'
                        rw [decide_eq_false hxq]
                        exact ih'
                  · -- started
                    rw [hkeep (by omega) (by omega)] at ih'
                    simp only [Int.reduceBEq, cond_false, cond_true, bneI]
                    rw [wrapS (by omega)]
                    by_cases hxq : x = q
                    · rw [hself hxq] at ih'
                      subst hxq
                      simp only [decide_true, Bool.not_true, cond_false, hz]
                      rw [wrapI (by omega)]
                      exact ih'
                    · rw [hother hxq] at ih'
                      rw [decide_eq_false hxq]
                      exact ih'
                  · -- done
                    rw [hkeep (by omega) (by omega)] at ih'
                    simp only [Int.reduceBEq, cond_false, cond_true, bneI, beqI]
                    rw [wrapS (by omega)]
                    by_cases hxq : x = q
                    · rw [hself hxq] at ih'
                      subst hxq
                      have hcnt : (t[x.toNat]).2.countP (isAt u) = (t[x.toNat]).2.length := by
                        rw [List.countP_eq_length]
                        intro y hy
                        rw [htx, Option.getD_some] at hall
                        have h2 := List.any_eq_false.1 hall y hy
                        have hy0 := (hkp y hy).1
                        have hyk := hM.kids _ (hkid y hy)
                        simp only at hyk
                        have hyu : u[y.toNat]? = some u[y.toNat] := List.getElem?_eq_getElem (by omega)
                        rw [idx, if_pos hy0, hyu] at h2
                        simp only [Option.getD_some, beq_iff_eq] at h2
                        simp [isAt, hyu, h2]
                      rw [hcnt] at ih' ⊢
                      simp only [decide_true, Bool.not_true, cond_false, cond_true, hz]
                      rw [wrapI (by omega)]
                      exact ih'
                    · rw [hother hxq] at ih'
                      rw [decide_eq_false hxq]
                      exact ih'
            have := key l 0 (k + 60) (newB t) rfl (Nat.zero_le _) (by omega) (by rw [newB, if_pos hm]; simp) hac rfl
            have e1 : ((newB t)[q.toNat]?).getD 0 = 0 := by
              rw [newB, if_pos hm]
              simp [List.getElem?_replicate]
              split <;> rfl
            have e2 : kidsIn t q (newB t) = 0 := by
              rw [hkc, List.countP_eq_zero]
              intro c hc
              rw [newB, if_pos hm]
              simp [isAt, List.getElem?_replicate]
              split <;> rfl
            rw [e1, e2] at this
            simpa using this
theorem law_Once (k : Nat) (hk : 9223372036854775900 < k) (t : List (Int × List Int)) (ht : Wt t) (l : List (Int × Int × Int)) (hl : l.length ≤ 9223372036854775807) (q : Int) (hq : i64 q) : xC k none 5 [tasksV t, .ro (l.map threeV), .lit (.int .i64 q)] = some (.lit (.bool true), []) := by
  obtain ⟨j, rfl⟩ : ∃ j, k = j + 61 := ⟨k - 61, by omega⟩
  rw [tasksV, h_poacherlaw21_ModelOnce, pure_Once j (by omega) t ht l q]
  rfl
end Go.Ab
