/- Words of a worker. -/
import Derived.Test.YtcmdnjaenhbdpaaGreatR5PDk
import Derived.Test.YtcmdnjaenhbdpaaGreatR5PThk
import Derived.Test.YtcmdnjaenhbdpaaGreatR5GV
set_option linter.unusedVariables false
set_option linter.unusedSimpArgs false
set_option linter.unusedVariables false
namespace Go.Ab
abbrev WB := Int × List (Int × Int × Int) × FR × Int × Int
def begF (op w v : Int) : FR := (op, 0, w, v, 0, 0, 0)
def mayWB (c : CF) (t : List (Int × List Int)) (m : List Int) (w : Int) (x : WB) : Bool := mayC c && decide ((m.length : Int) = sizeC c) && mayB t && decide (0 ≤ w ∧ w < c.1 ∧ 0 ≤ x.1 ∧ x.1 < 16) && stackB t x.2.1
def victB (d w W : Int) : Int := if W < 2 ∨ w < 0 ∨ W ≤ w then -1 else (w + 1 + d % (W - 1)) % W
def toW (pc : Int) (x : WB) : WB := (pc, x.2.1, zeroF, x.2.2.2)
def withW (pc op w v : Int) (x : WB) : WB := (pc, x.2.1, begF op w v, x.2.2.2)
def less1 : Int := 18446744073709551615
def intU (v : Int) : Int := IntKind.i64.wrap v
abbrev WR := List Int × WB × List EV
def wPop (c : CF) (t : List (Int × List Int)) (m : List Int) (w : Int) (x : WB) : WR :=
  let r := callK c m x.2.2.1
  if overB r.2 = false then (r.1, (x.1, x.2.1, r.2, x.2.2.2), [])
  else if r.2.2.2.2.2.2.2 ≠ 1 then (r.1, toW 1 x, [])
  else (r.1, (9, startB t x.2.1 (intU r.2.2.2.2.1), zeroF, x.2.2.2), [(2, intU r.2.2.2.2.1, w)])
def wSeek (c : CF) (m : List Int) (w : Int) (x : WB) : WR := (storeM m 1 (addU (loadM m 1) 1), (2, x.2.1, begF 4 w 0, c.2.2.2, x.2.2.2.2), [])
def wLook (c : CF) (m : List Int) (w : Int) (x : WB) (d : Int) : WR :=
  let r := callK c m x.2.2.1
  if overB r.2 = false then (r.1, (x.1, x.2.1, r.2, x.2.2.2), [])
  else if r.2.2.2.2.2.2.2 = 1 then (r.1, (4, x.2.1, r.2, x.2.2.2), [])
  else if x.1 = 2 ∧ 0 ≤ victB d w c.1 then (r.1, withW 3 2 (victB d w c.1) 0 x, [])
  else if x.2.2.2.1 ≤ 0 then (r.1, withW 5 5 w 0 x, [])
  else (r.1, (2, x.2.1, begF 4 w 0, x.2.2.2.1 - 1, x.2.2.2.2), [])
def wFound (t : List (Int × List Int)) (m : List Int) (w : Int) (x : WB) : WR :=
  (storeM m 1 (addU (loadM m 1) less1), (if loadM m 1 = 1 then 14 else 9, startB t x.2.1 (intU x.2.2.1.2.2.2.1), if loadM m 1 = 1 then begF 6 w 0 else zeroF, x.2.2.2), [(2, intU x.2.2.1.2.2.2.1, w)])
def wPrep (c : CF) (m : List Int) (x : WB) : WR := let r := callK c m x.2.2.1; (r.1, (6, x.2.1, r.2, x.2.2.2), [])
def wLeave (m : List Int) (x : WB) : WR := (storeM m 1 (addU (loadM m 1) less1), (7, x.2.1, x.2.2.1, x.2.2.2.1, 0), [])
def setV (f : FR) (v : Int) : FR := (f.1, f.2.1, f.2.2.1, v, f.2.2.2.2)
def wAgain (c : CF) (m : List Int) (x : WB) : WR :=
  let k := x.2.2.2.2
  let most := 2 + 2 * c.1
  let v := (k - 2) / 2
  if k < 0 ∨ most ≤ k then (m, (8, x.2.1, setV x.2.2.1 0, x.2.2.2.1, 0), [])
  else
    let f := if k = 0 then setV x.2.2.1 (loadM m 4) else if k = 1 then x.2.2.1 else if k % 2 = 0 then setV x.2.2.1 (loadM m (topA c v)) else x.2.2.1
    let some := if k = 0 then false else if k = 1 then decide (loadM m 5 ≠ f.2.2.2.1) else if k % 2 = 0 then false else decide (0 < farB (loadM m (botA c v)) f.2.2.2.1)
    if some = true then (m, toW 1 x, [])
    else if k + 1 = most then (m, (8, x.2.1, setV f 0, x.2.2.2.1, 0), [])
    else (m, (7, x.2.1, f, x.2.2.2.1, k + 1), [])
def wCommit (c : CF) (m : List Int) (x : WB) : WR := let r := callK c m x.2.2.1; if overB r.2 = true then (r.1, toW 1 x, []) else (r.1, (x.1, x.2.1, r.2, x.2.2.2), [])
def wRun (t : List (Int × List Int)) (m : List Int) (w : Int) (x : WB) : WR :=
  let a := nextB t x.2.1
  if a.1 = 1 then (m, (x.1, doB t x.2.1, x.2.2), []) else if a.1 = 2 then (m, (10, x.2), []) else if a.1 = 3 then (m, (15, x.2), []) else (m, withW 0 1 w 0 x, [])
def wPend (t : List (Int × List Int)) (m : List Int) (w : Int) (x : WB) : WR :=
  let a := nextB t x.2.1
  if a.1 ≠ 2 then (m, toW 9 x, []) else (storeM m 0 (addU (loadM m 0) 1), (11, doB t x.2.1, begF 0 w (IntKind.u64.wrap a.2), x.2.2.2), [(3, a.2, w)])
def wPush (c : CF) (m : List Int) (w : Int) (x : WB) : WR :=
  let r := callK c m x.2.2.1
  if overB r.2 = false then (r.1, (x.1, x.2.1, r.2, x.2.2.2), []) else if r.2.2.2.2.2.2.2 = 2 then (r.1, withW 12 3 w r.2.2.2.2.1 x, []) else (r.1, toW 13 x, [])
def wOver (c : CF) (t : List (Int × List Int)) (m : List Int) (w : Int) (x : WB) : WR :=
  let r := callK c m x.2.2.1
  if overB r.2 = false then (r.1, (x.1, x.2.1, r.2, x.2.2.2), [])
  else if r.2.2.2.2.2.2.2 = 2 then (r.1, (9, startB t x.2.1 (intU r.2.2.2.2.1), zeroF, x.2.2.2), [(2, intU r.2.2.2.2.1, w)]) else (r.1, toW 13 x, [])
def wSee (m : List Int) (w : Int) (x : WB) : WR := if loadM m 1 = 0 then (m, withW 14 6 w 0 x, []) else (m, toW 9 x, [])
def wWake (c : CF) (m : List Int) (x : WB) : WR := let r := callK c m x.2.2.1; if overB r.2 = true then (r.1, toW 9 x, []) else (r.1, (x.1, x.2.1, r.2, x.2.2.2), [])
def wDone (t : List (Int × List Int)) (m : List Int) (w : Int) (x : WB) : WR :=
  let a := nextB t x.2.1
  if a.1 ≠ 3 then (m, toW 9 x, [])
  else (storeM m 0 (addU (loadM m 0) less1), (if doB t x.2.1 = [] then (0, [], begF 1 w 0, x.2.2.2) else (9, doB t x.2.1, zeroF, x.2.2.2)), if loadM m 0 = 1 then [(4, a.2, w), (5, 0, w)] else [(4, a.2, w)])
def workB (c : CF) (t : List (Int × List Int)) (m : List Int) (w : Int) (x : WB) (d : Int) : WR :=
  if mayWB c t m w x = false then (m, x, [])
  else if x.1 = 0 then wPop c t m w x else if x.1 = 1 then wSeek c m w x else if x.1 = 2 ∨ x.1 = 3 then wLook c m w x d else if x.1 = 4 then wFound t m w x
  else if x.1 = 5 then wPrep c m x else if x.1 = 6 then wLeave m x else if x.1 = 7 then wAgain c m x else if x.1 = 8 then wCommit c m x
  else if x.1 = 9 then wRun t m w x else if x.1 = 10 then wPend t m w x else if x.1 = 11 then wPush c m w x else if x.1 = 12 then wOver c t m w x
  else if x.1 = 13 then wSee m w x else if x.1 = 14 then wWake c m x else wDone t m w x
theorem c_Vict {d w W : Int} (hd : 0 ≤ d ∧ d ≤ 18446744073709551615) (hW : W ≤ 8) : g_draw_Victim d w W = some (victB d w W) := by
  unfold g_draw_Victim victB
  by_cases h2 : W < 2
  · rw [ltT h2, cond_true, if_pos (.inl h2)]
  · rw [ltF (by omega), cond_false]
    unfold g_draw_below
    by_cases h0 : 0 ≤ w
    · rw [leT h0, cond_true]
      by_cases h1 : w < W
      · rw [ltT h1, ob_some, Bool.not_true, cond_false, if_neg (by omega), wrapU (z := W) (by omega) (by omega), wrapU (z := W - 1) (by omega) (by omega), wrapU (z := w) (by omega) (by omega), wrapU (z := w + 1) (by omega) (by omega), bneI, decide_eq_false (by omega), Bool.not_false, cond_true, bneI, decide_eq_false (by omega), Bool.not_false, cond_true, Int.tmod_eq_emod_of_nonneg hd.1]
        have e1 := Int.emod_nonneg d (show W - 1 ≠ 0 by omega)
        have e2 := Int.emod_lt_of_pos d (show 0 < W - 1 by omega)
        have e3 := Int.emod_nonneg (w + 1 + d % (W - 1)) (show W ≠ 0 by omega)
        have e4 := Int.emod_lt_of_pos (w + 1 + d % (W - 1)) (show 0 < W by omega)
        rw [wrapU (by omega) (by omega), Int.tmod_eq_emod_of_nonneg (by omega), wrapI (by omega)]
      · rw [ltF (by omega), ob_some, Bool.not_false, cond_true, if_pos (by omega)]
    · rw [leF (by omega), cond_false, ob_some, Bool.not_false, cond_true, if_pos (by omega)]
theorem c_WkMay {k : Nat} (hk : 9223372036854775808 ≤ k) (c : CF) {t : List (Int × List Int)} (ht : Wt t) (m : List Int) (w : Int) (x : WB) (hs : x.2.1.length ≤ 1000) : g_work_May k c t m w x = some (mayWB c t m w x) := by
  unfold g_work_May mayWB
  simp only [Prod.eta, c_May14, c_Size, ob_some]
  rw [c_May (k + 4) (by omega) t ht, c_TMay (k + 3) (by omega) t ht x.2.1 (by omega)]
  cases hm : mayC c with
  | false => rfl
  | true =>
    rw [cond_true, beqI, Bool.true_and]
    by_cases h1 : (m.length : Int) = sizeC c
    · rw [decide_eq_true h1, cond_true, Bool.true_and, ob_some]
      cases ht2 : mayB t with
      | false => rfl
      | true =>
        rw [cond_true, Bool.true_and]
        by_cases h2 : 0 ≤ w
        · rw [leT h2, cond_true]
          by_cases h3 : w < c.1
          · rw [ltT h3, cond_true]
            by_cases h4 : 0 ≤ x.1
            · rw [leT h4, cond_true]
              by_cases h5 : x.1 < 16
              · rw [ltT h5, cond_true, ob_some, decide_eq_true ⟨h2, h3, h4, h5⟩, Bool.true_and]
              · rw [ltF (by omega), cond_false, decide_eq_false (by omega)]; rfl
            · rw [leF (by omega), cond_false, decide_eq_false (by omega)]; rfl
          · rw [ltF (by omega), cond_false, decide_eq_false (by omega)]; rfl
        · rw [leF (by omega), cond_false, decide_eq_false (by omega)]; rfl
    · rw [decide_eq_false h1, cond_false]
      rfl
def seeksB (x : WB) : Bool := decide (2 ≤ x.1 ∧ x.1 ≤ 6)
theorem c_WkFew {k : Nat} (hk : 9223372036854775808 ≤ k) {t : List (Int × List Int)} (ht : Wt t) (x : WB) : g_poacherlaw18_Few k t x = some (fewB t && decide ((x.2.1.length : Int) ≤ 40)) := by
  unfold g_poacherlaw18_Few
  rw [c_Few04 k hk t ht, ob_some]
  cases fewB t <;> rfl
end Go.Ab
