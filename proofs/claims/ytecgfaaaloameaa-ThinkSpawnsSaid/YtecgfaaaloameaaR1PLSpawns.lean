/- ThinkSpawns: the law's word. -/
import Derived.Test.YtecgfaaaloameaaR1GL12
import Derived.Test.YtecgfaaaloameaaR1PThkR
set_option linter.unusedVariables false
namespace Go.Ab
theorem pure_Spawns (k : Nat) (hk : 9223372036854775808 ≤ k) (t : List (Int × List Int)) (ht : Wt t) (s : List (Int × Int × Int)) (q : Int) : g_poacherlaw17_ThinkSpawns k t s q = some true := by
  rw [g_poacherlaw17_ThinkSpawns, c_Few _ (by omega) t ht, ob_some]
  cases hf : fewB t with
  | false => rfl
  | true =>
    have hF := few_of hf
    rw [Bool.not_true, cond_false]
    by_cases hs : (40 : Int) < (s.length : Nat)
    · rw [ltT hs]; rfl
    · have hs' : s.length ≤ 40 := by omega
      rw [ltF (by omega), cond_false, c_TMay _ (by omega) t ht _ (by omega), ob_some]
      cases h : stackB t s with
      | false => rfl
      | true =>
        obtain ⟨hm, hi⟩ := stack_iff.1 h
        rw [Bool.not_true, cond_false, c_May _ (by omega) t ht, ob_some, hm, Bool.not_true, cond_false]
        by_cases h0 : q < 0
        · rw [ltT h0]; rfl
        · by_cases h1 : (t.length : Int) ≤ q
          · rw [ltF (by omega), leT h1]; rfl
          · have e : startB t s q = s ++ [(q, 0, 0)] := by rw [startB, if_pos ⟨h, by omega, by omega⟩]
            have hn := it_new hm (show 0 ≤ q by omega) (show q < t.length by omega)
            obtain ⟨q0, q1, -, hw0, -, -, -⟩ := hn
            simp only at q0 q1 hw0
            have hw := (may_of hm).work _ (own_mem q0 q1)
            have hkk := hF.kids _ (own_mem q0 q1)
            rw [ltF (by omega), leF (by omega), cond_false, cond_false, c_TStart _ (by omega) t ht s (by omega), ob_some, e]
            -- the kids
            have l1 : ∀ (m j n : Nat), m + j = (ownT t q).2.length → m < n → g_poacherlaw17_ThinkSpawns_L1 k t s q n (s ++ [(q, (ownT t q).1, (j : Int))]) (j : Int) = some true := by
              intro m
              induction m with
              | zero =>
                intro j n hj hn
                obtain ⟨n, rfl⟩ := fuel hn
                have hst : stackB t (s ++ [(q, (ownT t q).1, (j : Int))]) = true := stack_snoc.2 ⟨hm, hi, ⟨q0, q1, by simp only; omega, by simp only; omega, by simp only; omega, by simp only; omega, fun h => by simp only at h; omega⟩⟩
                rw [g_poacherlaw17_ThinkSpawns_L1, idx_own q0 q1, ob_some, ltF (by omega), cond_false, c_TNext _ (by omega) t ht _ (by simp; omega), ob_some, c_TDo _ (by omega) t ht _ (by simp; omega), ob_some, nextB_snoc, doB_snoc, hst, if_neg (show ¬ (true = false) by simp), if_neg (show ¬ (true = false) by simp)]
                have hA : ¬ (ownT t q).1 < (ownT t q).1 := by omega
                have hB : ¬ (j : Int) < ((ownT t q).2.length : Int) := by omega
                simp only [if_neg hA, if_neg hB]
                rw [c_RTSame _ (by omega) _ _ (by omega), ob_some]
                simp
              | succ m ih =>
                intro j n hj hn
                obtain ⟨n, rfl⟩ := fuel hn
                have hst : stackB t (s ++ [(q, (ownT t q).1, (j : Int))]) = true := stack_snoc.2 ⟨hm, hi, ⟨q0, q1, by simp only; omega, by simp only; omega, by simp only; omega, by simp only; omega, fun h => by simp only at h; omega⟩⟩
                have hx : (ownT t q).2[j]? = some (ownT t q).2[j] := List.getElem?_eq_getElem (by omega)
                rw [g_poacherlaw17_ThinkSpawns_L1, idx_own q0 q1, ob_some, ltT (by omega), cond_true, c_TNext _ (by omega) t ht _ (by simp; omega), ob_some, c_TDo _ (by omega) t ht _ (by simp; omega), nextB_snoc, doB_snoc, hst, if_neg (show ¬ (true = false) by simp), if_neg (show ¬ (true = false) by simp)]
                simp only [ob_some, idx_of hx]
                have hA : ¬ (ownT t q).1 < (ownT t q).1 := by omega
                have hB : (j : Int) < ((ownT t q).2.length : Int) := by omega
                simp only [if_neg hA, if_pos hB]
                rw [Int.toNat_natCast, hx, wrapS (by omega)]
                simp only [beq_self_eq_true, Option.getD_some, Bool.and_self, Bool.not_true, cond_false]
                exact ih (j + 1) n (by omega) (by omega)
            -- the work
            have l0 : ∀ (m j n : Nat), (m : Int) + j = (ownT t q).1 → m < n → g_poacherlaw17_ThinkSpawns_L0 k t s q n (s ++ [(q, (j : Int), 0)]) (j : Int) = some true := by
              intro m
              induction m with
              | zero =>
                intro j n hj hn
                obtain ⟨n, rfl⟩ := fuel hn
                rw [g_poacherlaw17_ThinkSpawns_L0, idx_own q0 q1, ob_some, ltF (by omega), cond_false]
                have := l1 (ownT t q).2.length 0 (k + 60) (by omega) (by omega)
                have ej : (j : Int) = (ownT t q).1 := by omega
                rw [ej]
                exact this
              | succ m ih =>
                intro j n hj hn
                obtain ⟨n, rfl⟩ := fuel hn
                have hst : stackB t (s ++ [(q, (j : Int), 0)]) = true := stack_snoc.2 ⟨hm, hi, ⟨q0, q1, by simp only; omega, by simp only; omega, by simp only; omega, by simp only; omega, fun _ => rfl⟩⟩
                rw [g_poacherlaw17_ThinkSpawns_L0, idx_own q0 q1, ob_some, ltT (by omega), cond_true, c_TNext _ (by omega) t ht _ (by simp; omega), ob_some, c_TDo _ (by omega) t ht _ (by simp; omega), nextB_snoc, doB_snoc, hst, if_neg (show ¬ (true = false) by simp), if_neg (show ¬ (true = false) by simp)]
                simp only [ob_some]
                rw [if_pos (by omega), if_pos (by omega), wrapS (by omega)]
                simp only [beq_self_eq_true, Bool.and_self, Bool.not_true, cond_false]
                exact ih (j + 1) n (by omega) (by omega)
            have := l0 (ownT t q).1.toNat 0 (k + 60) (by omega) (by omega)
            simpa using this
theorem law_Spawns (k : Nat) (hk : 9223372036854775900 < k) (t : List (Int × List Int)) (ht : Wt t) (s : List (Int × Int × Int)) (hs : s.length ≤ 9223372036854775807) (q : Int) (hq : i64 q) : xC k none 12 [tasksV t, .ro (s.map threeV), .lit (.int .i64 q)] = some (.lit (.bool true), []) := by
  obtain ⟨j, rfl⟩ : ∃ j, k = j + 61 := ⟨k - 61, by omega⟩
  rw [tasksV, h_poacherlaw17_ThinkSpawns, pure_Spawns j (by omega) t ht s q]
  rfl
end Go.Ab
