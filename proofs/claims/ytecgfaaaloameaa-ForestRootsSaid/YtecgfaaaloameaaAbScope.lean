/- A scope: what jumps to one of its labels goes on behind it. -/
import Derived.ControlIn
namespace Go.Ab
section
variable {F : Fence} {n : Nat} {P : Program} {a : Act} {w : World} {Q : Exit → Act → World → Prop}

theorem stepR_scope {b : Frame} {k : List Item} {cs : List Frame} {c : Code} :
    step P (lone (b.atR a (.code (.scope c) :: k)) cs w) = .next (lone (b.atR a (.code c :: .inScope c :: k)) cs w) :=
  step_lone_go (by simp [stepG, stepG.exec, Frame.atR])
theorem stepR_inScope {b : Frame} {k : List Item} {cs : List Frame} {c : Code} :
    step P (lone (b.atR a (.inScope c :: k)) cs w) = .next (lone (b.atR a k) cs w) :=
  step_lone_go (by simp [stepG, stepG.exec, Frame.atR])

/-- Out of a scope: by no jump to a label of its own. -/
def outOf (c : Code) (Q : Exit → Act → World → Prop) : Exit → Act → World → Prop
  | .goto l, a, w => findLabel c l = none ∧ Q (.goto l) a w
  | e, a, w => Q e a w

def inScopeQ (F : Fence) (n : Nat) (P : Program) (c : Code) (Q : Exit → Act → World → Prop) : Exit → Act → World → Prop
  | .goto l, a, w => match findLabel c l with
    | some rest => rest.wpIn F n P (outOf c Q) a w
    | none => Q (.goto l) a w
  | e, a, w => Q e a w

theorem leaves_scope {c : Code} {b : Frame} {k : List Item} {cs : List Frame} {m : Machine} {e : Exit} {a' : Act} {w' : World} (hb : F.fn b.fn) (hr : F.room (cs.length + 1 + n))
    (hg : ∀ l, e = .goto l → findLabel c l = none) (h : ArrivesIn (Machine.fenced P F) P m b (.inScope c :: k) cs e a' w') : ArrivesIn (Machine.fenced P F) P m b k cs e a' w' := by
  cases e with
  | normal => exact StepsIn.trans h (.one (fenced_calm hb hr rfl) stepR_inScope)
  | exit id =>
    have hx : exitTo id (.inScope c :: k) = exitTo id k := by simp [exitTo]
    exact ⟨fun k' hk => h.1 k' (by rw [hx]; exact hk), fun hr hk => h.2 hr (by rw [hx]; exact hk)⟩
  | goto l =>
    have hx : gotoIn l (.inScope c :: k) = gotoIn l k := by simp [gotoIn, hg l rfl]
    exact ⟨fun k' hk => h.1 k' (by rw [hx]; exact hk), fun hr hk => h.2 hr (by rw [hx]; exact hk)⟩
  | ret => exact h
  | panic ch => exact h
  | outgrown => exact h

theorem wpIn_scope1 {c : Code} (h : c.wpIn F n P (inScopeQ F n P c Q) a w) : (Code.scope c).wpIn F n P Q a w := by
  intro b k cs hro hb hr
  have h0 : (lone (b.atR a (.code (.scope c) :: k)) cs w).fenced P F := fenced_calm hb hr rfl
  obtain ⟨e, a₁, w₁, hq, harr⟩ := h b (.inScope c :: k) cs hro hb hr
  by_cases hg : ∃ l rest, e = .goto l ∧ findLabel c l = some rest
  · obtain ⟨l, rest, rfl, hl⟩ := hg
    simp only [inScopeQ, hl] at hq
    have hgo := harr.1 (.code rest :: .inScope c :: k) (by simp [gotoIn, hl])
    obtain ⟨e₂, a₂, w₂, hq₂, harr₂⟩ := hq b (.inScope c :: k) cs hro hb hr
    refine ⟨e₂, a₂, w₂, ?_, .of_steps (.head h0 stepR_scope hgo) (leaves_scope hb hr (fun l' e' => ?_) harr₂)⟩
    · cases e₂ <;> first | exact hq₂ | exact hq₂.2
    · subst e'; exact hq₂.1
  · have hno : ∀ l, e = .goto l → findLabel c l = none := by
      intro l he
      cases hl : findLabel c l with
      | none => rfl
      | some rest => exact absurd ⟨l, rest, he, hl⟩ hg
    refine ⟨e, a₁, w₁, ?_, .of_steps (.one h0 stepR_scope) (leaves_scope hb hr hno harr)⟩
    cases e with
    | goto l => simpa only [inScopeQ, hno l rfl] using hq
    | _ => exact hq

end
end Go.Ab
