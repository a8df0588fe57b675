/- A law's call: arguments of data, all memory only read. -/
import Derived.Test.YtecgfaaaloameaaAbClone
namespace Go.Ab
open Go.RowKit

/-- All that the memory holds. -/
def allR (w : World) : Ro := fun b o => w.cell? ⟨b, o, none⟩

theorem inv_all (w : World) : Inv 0 w.heap.size w (allR w) [] [] w where
  below := Below.refl _ w
  base := Nat.le_refl _
  len := rfl
  blk id b s h1 := by simp at h1
  inj i j bi bj si sj b h1 := by simp at h1
  ge id x s b h h1 := by simp at h1
  lt id x s b h1 := by simp at h1
  ro b o v h := h

/-- A call at data: what the abstract evaluator says comes back, and all is as it was. -/
theorem data_calls {P : Program} {M : Mode} (hm : P.follows .mixedOrders = true) (hN : Named P) (hO : OrcOk P M) {k f : Nat} {args : List V} {v : Value} {H' : Hp}
    (h : evF P M k 0 f args [] = some (.lit v, H')) {cargs : Array Value} {w : World} (hA : RelA (allR w) [] args cargs) : Calls P f cargs w fun e w' => e = .returned v ∧ Below w.heap.size w w' := by
  refine ((ev_sound hm hN hO k 0 f args [] (.lit v) H' h).2 _ _ _ _ w cargs (inv_all w) hA).mono fun e w' he => ?_
  cases e with
  | returned cv =>
    obtain ⟨R', σ', st, hr, _⟩ := he
    have := hr.lit_inv
    subst this
    exact ⟨rfl, st.inv.below⟩
  | panicked => exact he.elim
  | outgrown => exact he.elim

/-- Whole numbers, read. -/
def intsV (k : IntKind) (l : List Int) : V := .ro (l.map fun n => [.lit (.int k n)])

theorem ints_rel {w : World} {k : IntKind} {A : Option Addr} {n c : Nat} {zs : List Int}
    (h : (A = none ∧ n = 0 ∧ c = 0 ∧ zs = []) ∨ ∃ b off, A = some ⟨b, off, none⟩ ∧ n ≤ c ∧ zs.length = c ∧ (∀ i, i < zs.length → w.cell? ⟨b, off + i, none⟩ = some (.int k (zs.getD i 0)))) :
    RelV (allR w) [] (intsV k (zs.take n)) (.slice A n c) := by
  rcases h with ⟨rfl, rfl, rfl, rfl⟩ | ⟨b, off, rfl, hn, hz, hc⟩
  · exact .roNil none 0
  · have hl : ((zs.take n).map fun n => [V.lit (.int k n)]).length = n := by simp; omega
    have get : ∀ (i j : Nat) (r : List V) (x : V), ((zs.take n).map fun n => [V.lit (.int k n)])[i]? = some r → r[j]? = some x → i < zs.length ∧ j = 0 ∧ x = .lit (.int k (zs.getD i 0)) := by
      intro i j r x h1 h2
      obtain ⟨z, hz', rfl⟩ := map_get h1
      obtain ⟨h3, h4⟩ := take_get hz'
      have hi := (List.getElem?_eq_some_iff.1 h3).1
      cases j with
      | zero =>
        simp at h2
        refine ⟨hi, rfl, ?_⟩
        rw [← h2]
        simp [List.getD_eq_getElem?_getD, h3]
      | succ j => simp at h2
    have := RelV.ro (R := allR w) (σ := []) ((zs.take n).map fun n => [V.lit (.int k n)]) b off c 1 (fun i _ => .int k (zs.getD i 0)) (by rw [hl]; exact hn)
      (fun r hr => by obtain ⟨z, _, rfl⟩ := List.mem_map.1 hr; rfl)
      (by unfold pureR; rw [List.all_eq_true]; intro r hr; obtain ⟨z, _, rfl⟩ := List.mem_map.1 hr; rfl)
      (by rw [List.all_eq_true]; intro r hr; obtain ⟨z, _, rfl⟩ := List.mem_map.1 hr; rfl)
      (fun i j r x h1 h2 => by obtain ⟨_, _, rfl⟩ := get i j r x h1 h2; exact .lit _)
      (fun i j r x h1 h2 => by
        obtain ⟨hi, rfl, _⟩ := get i j r x h1 h2
        rw [Nat.mul_one, Nat.add_zero]
        exact hc i hi)
    rw [hl] at this
    exact this

end Go.Ab
