/- Regions that draw their order: whatever the order, what is known behind it is the same. -/
import Derived.Test.YtecgfaaaloameaaAbDraw1
namespace Go.Ab
open Go.RowKit
section holes
variable {P : Program} {wl B0 : Nat} {w0 : World} {R0 R R' : Ro} {σ0 σ σ' : List Sg} {ws : World} {n1 : Nat} {H : Hp} {w w' : World}

def holeSg : Sg := ⟨none, 0, 0, 0, true⟩

/-- A place is kept free. -/
theorem Stp.hole {T : Nat → Prop} (h : Stp T wl B0 w0 R0 σ0 ws R σ H w) (b : B) : Stp T wl B0 w0 R0 σ0 ws R (σ ++ [holeSg]) (H ++ [b]) w :=
  ⟨h.inv.adopt (fun k hk => by cases hk) (fun h => by cases h), h.ext.trans (Ext.append σ _), h.le, h.new, h.fr, h.df, fun id s hs hh => by
    have := h.hl id s hs hh
    rw [List.getElem?_append_left (List.getElem?_eq_some_iff.1 this).1]; exact this⟩

theorem Ext.fill {j : Nat} {s s' : Sg} (hs : σ[j]? = some s) (hh : s.hole = true) : Ext σ (σ.set j s') := by
  intro i t ht
  by_cases hi : i = j
  · subst hi
    rw [hs] at ht; cases ht
    exact ⟨s', by rw [List.getElem?_set_self (List.getElem?_eq_some_iff.1 hs).1], .inl hh⟩
  · exact ⟨t, by rw [List.getElem?_set_ne (by omega)]; exact ht, SgLe.refl t⟩

/-- A place that was kept free is taken by a new variable. -/
theorem Inv.fill (hI : Inv wl B0 w0 R σ H w) {j : Nat} {cs : List V} {cells : Array Value} (e : TypeId) (hs : σ[j]? = some holeSg) (hH : H[j]? = some (.box cs)) (ho : onesL cs = true) (hr : RelA R σ cs cells) :
    Inv wl B0 w0 R (σ.set j ⟨some w.heap.size, 0, 0, 0, false⟩) H (w.alloc (.cells cells e)) := by
  have hW := hI.world (Below.one_alloc w (.cells cells e))
  have hext : Ext σ (σ.set j ⟨some w.heap.size, 0, 0, 0, false⟩) := Ext.fill hs rfl
  refine ⟨hW.below, hW.base, by simp [hI.len], ?_, ?_, ?_, ?_, hW.ro⟩
  · intro id x y h1 h2 hh
    rcases set_cases h2 with ⟨rfl, rfl, _⟩ | ⟨hi, h2⟩
    · rw [hH] at h1; cases h1
      exact ⟨rfl, ho, w.heap.size, cells, e, rfl, alloc_new w _, hr.mono (RoLe.refl R) hext, fun o => hI.ro_new o⟩
    · exact (hW.blk id x y h1 h2 hh).mono (RoLe.refl R) hext (fun _ _ => rfl) (fun _ _ _ h => h)
  · intro i i' bi bj si sj k h1 h2 d1 d2 h3 h4 e1 e2
    rcases set_cases h3 with ⟨ei, es, _⟩ | ⟨hi, h3'⟩
    · rcases set_cases h4 with ⟨ei', es', _⟩ | ⟨hi', h4'⟩
      · rw [ei, ei']
      · rw [es] at e1
        cases e1
        have := hI.lt i' bj sj _ h2 d2 h4' e2
        omega
    · rcases set_cases h4 with ⟨ei', es', _⟩ | ⟨hi', h4'⟩
      · rw [es'] at e2
        cases e2
        have := hI.lt i bi si _ h1 d1 h3' e1
        omega
      · exact hI.inj i i' bi bj si sj k h1 h2 d1 d2 h3' h4' e1 e2
  · intro id x y k hle h1 d h2 e1
    rcases set_cases h2 with ⟨rfl, rfl, _⟩ | ⟨hi, h2⟩
    · cases e1; exact hI.base
    · exact hI.ge id x y k hle h1 d h2 e1
  · intro id x y k h1 d h2 e1
    rcases set_cases h2 with ⟨rfl, rfl, _⟩ | ⟨hi, h2⟩
    · cases e1; simp
    · exact hW.lt id x y k h1 d h2 e1

theorem Stp.fill (h : Stp (TB B0) wl B0 w0 R0 σ0 ws R σ H w) (hsz : ws.heap.size ≤ w.heap.size) {j : Nat} {cs : List V} {cells : Array Value} (e : TypeId) (hj : σ0.length ≤ j) (hs : σ[j]? = some holeSg) (hH : H[j]? = some (.box cs)) (ho : onesL cs = true) (hr : RelA R σ cs cells) :
    Stp (TB B0) wl B0 w0 R0 σ0 ws R (σ.set j ⟨some w.heap.size, 0, 0, 0, false⟩) H (w.alloc (.cells cells e)) := by
  have hb := Below.one_alloc w (.cells cells e)
  refine ⟨h.inv.fill e hs hH ho hr, h.ext.trans (Ext.fill hs rfl), h.le, h.new, fun k hk hT => (hb.block k (by omega)).trans (h.fr k hk hT), fun k ds hk => ?_, fun id s hs' hh => ?_⟩
  · have := (Array.getElem?_eq_some_iff.1 hk).1
    exact (hb.block k (by omega)).trans (h.df k ds hk)
  · have := (List.getElem?_eq_some_iff.1 hs').1
    rw [List.getElem?_set_ne (by omega)]
    exact h.hl id s hs' hh

end holes

section facts
variable {ops : Array Oper}

theorem regOk_spec (h : regOk ops = true) : Back ops ∧
    (∀ (i j : Nat) (o o' : Oper) (t : Tmp), ops[i]? = some o → ops[j]? = some o' → t ∈ namesOf ops o' → o.dst = some t → ordered (Region.before ops) i j = true) ∧
    (∀ (i j : Nat) (o o' : Oper), ops[i]? = some o → ops[j]? = some o' → isEff ops (Region.before ops) i = true → isEff ops (Region.before ops) j = true → ordered (Region.before ops) i j = true) ∧
    (∀ (i j : Nat) (o o' : Oper), ops[i]? = some o → ops[j]? = some o' → kdAt ops i = .loud → isHoist ops (Region.before ops) j = true → ordered (Region.before ops) i j = true) := by
  unfold regOk at h
  simp only [Bool.and_eq_true, List.all_eq_true, List.mem_range] at h
  obtain ⟨ht, h⟩ := h
  have lt : ∀ {i : Nat} {o : Oper}, ops[i]? = some o → i < ops.size := fun h => (Array.getElem?_eq_some_iff.1 h).1
  have get : ∀ {i : Nat} {o : Oper}, ops[i]? = some o → _ := fun {i o} ho => h i (lt ho)
  refine ⟨?_, ?_, ?_, ?_⟩
  · intro i o ho e he hb
    have := get ho
    rw [ho] at this
    simp only [Bool.and_eq_true, Array.all_eq_true_iff_forall_mem, Bool.or_eq_true, Bool.not_eq_true', decide_eq_true_eq] at this
    rcases this.1.1.2 e he with h1 | h1
    · rw [hb] at h1; cases h1
    · exact h1
  · intro i j o o' t ho ho' hn hd
    unfold tmpsOk at ht
    simp only [List.all_eq_true, List.mem_range] at ht
    have := ht j (lt ho')
    rw [ho'] at this
    simp only [List.all_eq_true, List.mem_range] at this
    have := this t hn i (lt ho)
    rw [ho] at this
    simp only [Bool.or_eq_true, bne_iff_ne, ne_eq] at this
    rcases this with h1 | h1
    · exact absurd hd h1
    · exact h1
  · intro i j o o' ho ho' h1 h2
    have := get ho
    rw [ho] at this
    simp only [Bool.and_eq_true, Bool.or_eq_true, Bool.not_eq_true', List.all_eq_true, List.mem_range] at this
    rcases this.1.2 with h3 | h3
    · rw [h1] at h3; cases h3
    · rcases h3 j (lt ho') with h4 | h4
      · rw [h2] at h4; cases h4
      · exact h4
  · intro i j o o' ho ho' h1 h2
    have := get ho
    rw [ho] at this
    simp only [Bool.and_eq_true, Bool.or_eq_true, Bool.not_eq_true', List.all_eq_true, List.mem_range, bne_iff_ne, ne_eq] at this
    rcases this.2 with h3 | h3
    · exact absurd h1 h3
    · rcases h3 j (lt ho') with h4 | h4
      · rw [h2] at h4; cases h4
      · exact h4

theorem kdAt_eq {i : Nat} {o : Oper} (h : ops[i]? = some o) : kdAt ops i = opKd o.op := by unfold kdAt; rw [h]

theorem hoist_alloc {i : Nat} {o : Oper} (h : ops[i]? = some o) (hh : isHoist ops (Region.before ops) i = true) : (∃ t, o.op = .alloc t) ∧ o.guard = none := by
  unfold isHoist at hh
  rw [h] at hh
  simp only [Bool.and_eq_true] at hh
  obtain ⟨⟨⟨h1, h2⟩, _⟩, _⟩ := hh
  refine ⟨?_, by simpa using h2⟩
  unfold isAlloc at h1
  split at h1
  · exact ⟨_, by assumption⟩
  · cases h1

theorem kd_write {op : Op} {env : List V} (h : opKd op ≠ .loud) : idAt env (writeOf op) = none := by
  cases op <;> first | rfl | skip
  case store => exact absurd rfl h
  case insert => exact absurd rfl h
  case call c =>
    simp only [writeOf]
    split
    · rename_i hb
      cases ha : c.args[0]? with
      | none => rfl
      | some x =>
        cases x with
        | const v =>
          simp only [idAt, evO]
          unfold constV
          split
          · split <;> rfl
          · unfold constC
            split <;> rfl
        | tmp t => exact absurd (by simp [opKd, hb, ha]) h
        | func f => exact absurd (by simp [opKd, hb, ha]) h
        | global g => exact absurd (by simp [opKd, hb, ha]) h
    · rfl

theorem calm_of {i j : Nat} {o : Oper} (hj : ops[j]? = some o) (hk : kdAt ops j ≠ .plain) (h : ordered (Region.before ops) i j = false) : isCalm ops (Region.before ops) i = true := by
  unfold isCalm
  cases ha : ordA ops (Region.before ops) i with
  | false => simp
  | true =>
    unfold ordA at ha
    simp only [List.all_eq_true, List.mem_range, Bool.or_eq_true, beq_iff_eq] at ha
    rcases ha j (Array.getElem?_eq_some_iff.1 hj).1 with h1 | h1
    · exact absurd h1 hk
    · rw [h] at h1; cases h1

theorem ordered_comm (bef : Array Nat) (i j : Nat) : ordered bef i j = ordered bef j i := by
  unfold ordered
  by_cases h : i = j
  · subst h; rfl
  · have h1 : (i == j) = false := by simpa using h
    have h2 : (j == i) = false := by simpa using fun e : j = i => h e.symm
    rw [h1, h2, Bool.false_or, Bool.false_or, Bool.or_comm]

end facts
end Go.Ab
