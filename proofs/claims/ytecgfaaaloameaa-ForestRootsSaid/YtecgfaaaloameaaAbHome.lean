/- What comes back of a call on an empty heap. -/
import Derived.Test.YtecgfaaaloameaaAbCut
namespace Go.Ab
open Go.RowKit
section home
variable {P : Program} {B1 : Nat} {w1 : World} {R R' : Ro} {σ σ' τ : List Sg} {H : Hp} {w w' : World}

/-- Two heaps: the one that is left, and what is taken over of it. -/
structure Home (B1 : Nat) (w1 : World) (R : Ro) (σ : List Sg) (H : Hp) (τ : List Sg) (acc : Hp) (w : World) : Prop where
  left : Inv 0 B1 w1 R σ H w
  kept : Inv 0 B1 w1 R τ acc w
  apart : ∀ (i j : Nat) (x y : B) (s t : Sg) (b : Nat), H[i]? = some x → x.isDead = false → σ[i]? = some s → s.blk = some b → acc[j]? = some y → y.isDead = false → τ[j]? = some t → t.blk ≠ some b

theorem Ext.trans' {a b c : List Sg} (h : Ext a b) (k : Ext b c) : Ext a c := h.trans k

theorem homeC_run {acc acc' : Hp} {v v' : V} {cv : Value} {H' : Hp} (hS : Home B1 w1 R σ H τ acc w) (h : homeC v H acc = some (v', H', acc')) (hv : RelV R σ v cv) :
    ∃ τ', Home B1 w1 R σ H' τ' acc' w ∧ Ext τ τ' ∧ RelV R τ' v' cv ∧ (v.one = true → v'.one = true) := by
  unfold homeC at h
  split at h
  · rename_i id g len
    split at h
    · rename_i e rs g' live hb
      split at h
      · rename_i hc
        obtain ⟨rfl, c2, c3, c4⟩ := hc
        cases h
        obtain ⟨A, l, c, s, rfl, hs, hh, hg, hl⟩ := own_inv hv
        obtain ⟨hgen, hesz, hz0, hrow, hnone, hsome⟩ := rows_inv hS.left hb hs hh
        obtain ⟨rfl, hn, hsm⟩ := hl hgen.symm
        let s' : Sg := ⟨s.blk, 0, e, s.cap, false⟩
        have hrel : RelB R (τ ++ [s']) w s' (.rows e (rs.take l) 0 live) := by
          refine ⟨rfl, rfl, hz0, fun r hr => hrow r (List.mem_of_mem_take hr), ?_⟩
          cases hblk : s.blk with
          | none =>
            have := hnone hblk
            subst this
            simp
          | some b =>
            obtain ⟨arr, ty, h5, h6, h7, h8⟩ := hsome b hblk
            refine ⟨arr, ty, h5, h6, fun i j r x hr hx => ?_, fun o ho => ?_⟩
            · obtain ⟨hr, _⟩ := take_get hr
              obtain ⟨cv, a1, a2⟩ := h7 i j r x hr hx
              exact ⟨cv, a1, a2.free _ (pureR_get c4 hr hx)⟩
            · obtain ⟨h9, h10⟩ := h8 o ho
              refine ⟨h9, ?_⟩
              rcases c3 with c3 | c3
              · rw [c3] at h9; cases h9
              · rw [List.length_take, c3, Nat.min_self]; exact h10
        have hnew : ∀ (i : Nat) (x : B) (y : Sg), acc[i]? = some x → x.isDead = false → τ[i]? = some y → ∀ k, s'.blk = some k → y.blk ≠ some k := fun i x y h1 d h2 k hk => hS.apart id i _ x s y k hb rfl hs hk h1 d h2
        refine ⟨τ ++ [s'], ⟨hS.left.drop id, hS.kept.adopt (fun k hk => ⟨hS.left.ge id _ s k (Nat.zero_le _) hb rfl hs hk, hS.left.lt id _ s k hb rfl hs hk, fun i x y h1 d h2 => hnew i x y h1 d h2 k hk⟩) (fun _ => hrel), ?_⟩, Ext.append τ _, ?_, fun _ => rfl⟩
        · intro i j x y t u b h1 d1 h2 e1 h3 d2 h4
          rcases set_cases h1 with ⟨_, rfl, _⟩ | ⟨hi, h1⟩
          · cases d1
          · rcases append_one h3 with ⟨hlt, h3⟩ | ⟨e3, h3⟩
            · rcases append_one h4 with ⟨_, h4⟩ | ⟨e4, _⟩
              · exact hS.apart i j x y t u b h1 d1 h2 e1 h3 d2 h4
              · have := hS.kept.len; omega
            · rcases append_one h4 with ⟨hlt, _⟩ | ⟨_, rfl⟩
              · have := hS.kept.len; omega
              · intro e5
                exact hi (hS.left.inj i id x _ t s b h1 hb d1 rfl h2 hs e1 e5)
        · refine .own _ _ _ _ _ _ s' (by rw [← hS.kept.len]; simp) rfl (Nat.le_refl _) (fun _ => ⟨rfl, hn, fun b hb => ?_⟩)
          obtain ⟨a1, a2, a3⟩ := hsm b hb
          refine ⟨a1, a2, ?_⟩
          show c * e ≤ s.cap
          rw [← hesz]; exact a3
      · cases h
    · cases h
  · cases h
    cases hv
    exact ⟨τ, hS, Ext.refl τ, .roNil _ _, fun _ => rfl⟩
  · split at h
    · rename_i hp
      cases h
      exact ⟨τ, hS, Ext.refl τ, hv.free τ hp, fun h => h⟩
    · cases h

theorem homeL_run : ∀ {vs vs' : List V} {cvs : Array Value} {acc acc' H H' : Hp} {τ : List Sg}, Home B1 w1 R σ H τ acc w → homeL vs H acc = some (vs', H', acc') → RelA R σ vs cvs →
    ∃ τ', Home B1 w1 R σ H' τ' acc' w ∧ Ext τ τ' ∧ RelA R τ' vs' cvs ∧ (onesL vs = true → onesL vs' = true)
  | [], vs', cvs, acc, acc', H, H', τ, hS, h, hr => by
    cases h
    have := hr.nil_inv
    subst this
    exact ⟨τ, hS, Ext.refl τ, RelA.nil R τ, fun h => h⟩
  | v :: vs, vs', cvs, acc, acc', H, H', τ, hS, h, hr => by
    simp only [homeL, Option.bind_eq_some_iff] at h
    obtain ⟨p, hp, q, hq, h⟩ := h
    cases h
    obtain ⟨cv, l, rfl, h1, h2⟩ := hr.uncons
    obtain ⟨τ1, s1, x1, r1, o1⟩ := homeC_run hS hp h1
    obtain ⟨τ2, s2, x2, r2, o2⟩ := homeL_run s1 hq h2
    refine ⟨τ2, s2, x1.trans x2, (r1.mono (RoLe.refl R) x2).cons r2, fun ho => ?_⟩
    simp only [onesL, List.all_cons, Bool.and_eq_true] at *
    exact ⟨o1 ho.1, o2 ho.2⟩

theorem homeA_run {acc acc' : Hp} {v v' : V} {cv : Value} {H' : Hp} (hS : Home B1 w1 R σ H τ acc w) (h : homeA v H acc = some (v', H', acc')) (hv : RelV R σ v cv) :
    ∃ τ', Home B1 w1 R σ H' τ' acc' w ∧ Ext τ τ' ∧ RelV R τ' v' cv := by
  unfold homeA at h
  split at h
  · rename_i cs
    simp only [Option.bind_eq_some_iff] at h
    obtain ⟨p, hp, h⟩ := h
    cases h
    obtain ⟨vs, rfl, ho, hr⟩ := agg_inv hv
    obtain ⟨τ1, s1, x1, r1, o1⟩ := homeL_run hS hp hr
    exact ⟨τ1, s1, x1, .agg _ _ r1.1 (o1 ho) r1.2⟩
  · obtain ⟨τ1, s1, x1, r1, _⟩ := homeC_run hS h hv
    exact ⟨τ1, s1, x1, r1⟩

theorem homeAs_run : ∀ {vs vs' : List V} {cvs : Array Value} {acc acc' H H' : Hp} {τ : List Sg}, Home B1 w1 R σ H τ acc w → homeAs vs H acc = some (vs', H', acc') → RelA R σ vs cvs →
    ∃ τ', Home B1 w1 R σ H' τ' acc' w ∧ Ext τ τ' ∧ RelA R τ' vs' cvs
  | [], vs', cvs, acc, acc', H, H', τ, hS, h, hr => by
    cases h
    have := hr.nil_inv
    subst this
    exact ⟨τ, hS, Ext.refl τ, RelA.nil R τ⟩
  | v :: vs, vs', cvs, acc, acc', H, H', τ, hS, h, hr => by
    simp only [homeAs, Option.bind_eq_some_iff] at h
    obtain ⟨p, hp, q, hq, h⟩ := h
    cases h
    obtain ⟨cv, l, rfl, h1, h2⟩ := hr.uncons
    obtain ⟨τ1, s1, x1, r1⟩ := homeA_run hS hp h1
    obtain ⟨τ2, s2, x2, r2⟩ := homeAs_run s1 hq h2
    exact ⟨τ2, s2, x1.trans x2, (r1.mono (RoLe.refl R) x2).cons r2⟩

theorem fzK_run {keep : Nat → Bool} : ∀ {vs vs' : List V} {i : Nat} {cvs : Array Value} {H H' : Hp} {R : Ro}, Inv 0 B1 w1 R σ H w → fzK keep i vs H = some (vs', H') → RelA R σ vs cvs →
    ∃ R', Stp (TB B1) 0 B1 w1 R σ w R' σ H' w ∧ RelA R' σ vs' cvs
  | [], vs', i, cvs, H, H', R, hI, h, hr => by
    cases h
    exact ⟨R, Stp.refl hI, hr⟩
  | v :: vs, vs', i, cvs, H, H', R, hI, h, hr => by
    simp only [fzK, Option.bind_eq_some_iff] at h
    obtain ⟨p, hp, q, hq, h⟩ := h
    cases h
    obtain ⟨cv, l, rfl, h1, h2⟩ := hr.uncons
    have step : ∃ R1, Stp (TB B1) 0 B1 w1 R σ w R1 σ p.2 w ∧ RelV R1 σ p.1 cv := by
      split at hp
      · cases hp; exact ⟨R, Stp.refl hI, h1⟩
      · exact fzR1_run hI hp h1
    obtain ⟨R1, s1, r1⟩ := step
    obtain ⟨R2, s2, r2⟩ := fzK_run s1.inv hq (h2.mono s1.le s1.ext)
    exact ⟨R2, s1.trans s2 (Nat.le_refl _), (r1.mono s2.le s2.ext).cons r2⟩

/-- Nothing, known of a world. -/
theorem Inv.bare (hI : Inv 0 B1 w1 R σ H w) : Inv 0 B1 w1 R [] [] w where
  below := hI.below
  base := hI.base
  len := rfl
  blk id b s h1 := by simp at h1
  inj i j bi bj si sj b h1 := by simp at h1
  ge id x s b h h1 := by simp at h1
  lt id x s b h1 := by simp at h1
  ro := hI.ro

theorem Inv.home (hI : Inv 0 B1 w1 R σ H w) : Home B1 w1 R σ H [] [] w :=
  ⟨hI, hI.bare, fun i j x y s t b _ _ _ _ h => by simp at h⟩

theorem retV_run (hI : Inv 0 B1 w1 R σ H w) {keep : Option (Nat → Bool)} {v v' : V} {K : Hp} {cv : Value} (h : retV keep v H = some (v', K)) (hv : RelV R σ v cv) :
    ∃ R' τ, Inv 0 B1 w1 R' τ K w ∧ RelV R' τ v' cv ∧ RoLe R R' ∧ (∀ b o, R' b o ≠ none → R b o ≠ none ∨ B1 ≤ b) := by
  have hnew : ∀ {R' : Ro} {σ' : List Sg} {H' : Hp}, Stp (TB B1) 0 B1 w1 R σ w R' σ' H' w → ∀ b o, R' b o ≠ none → R b o ≠ none ∨ B1 ≤ b := by
    intro R' σ' H' hst b o hb
    rcases hst.new b o hb with h | h | h
    · exact .inl h
    · exact .inr h
    · have := hI.base; exact .inr (by omega)
  unfold retV at h
  split at h
  · simp only [Option.bind_eq_some_iff] at h
    obtain ⟨q, hq, h⟩ := h
    obtain ⟨R', s1, r1⟩ := fzR_run hI hq hv
    split at h
    · rename_i hp
      cases h
      exact ⟨R', [], s1.inv.bare, r1.free [] hp, s1.le, hnew s1⟩
    · cases h
      exact ⟨R', σ, s1.inv, r1, s1.le, hnew s1⟩
  · rename_i keep
    split at h
    · rename_i vs
      simp only [Option.bind_eq_some_iff] at h
      obtain ⟨p, hp, q, hq, h⟩ := h
      cases h
      obtain ⟨cvs, rfl, hr⟩ := tup_inv hv
      obtain ⟨R', s1, r1⟩ := fzK_run hI hp hr
      obtain ⟨τ, s2, _, r2⟩ := homeAs_run s1.inv.home hq r1
      exact ⟨R', τ, s2.kept, .tup _ _ r2.1 r2.2, s1.le, hnew s1⟩
    · simp only [Option.bind_eq_some_iff] at h
      obtain ⟨q, hq, h⟩ := h
      cases h
      obtain ⟨τ, s2, _, r2⟩ := homeA_run hI.home hq hv
      exact ⟨R, τ, s2.kept, r2, RoLe.refl R, fun b o h => .inl h⟩

end home
end Go.Ab
