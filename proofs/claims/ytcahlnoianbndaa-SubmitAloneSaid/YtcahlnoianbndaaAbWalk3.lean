/- More words of cells: who submits. -/
import Derived.Test.YtcahlnoianbndaaAbLibC
set_option linter.unusedVariables false
set_option linter.unusedSimpArgs false
namespace Go.Ab
def subV (x : Int × List Int × Int × Int × Int × Int × Int × Int × Int) : List V :=
  [.lit (.int .i64 x.1), .ro (x.2.1.map (intR .i64)), .lit (.int .i64 x.2.2.1), .lit (.int .i64 x.2.2.2.1), .lit (.int .i64 x.2.2.2.2.1), .lit (.int .u64 x.2.2.2.2.2.1), .lit (.int .u64 x.2.2.2.2.2.2.1), .lit (.int .u64 x.2.2.2.2.2.2.2.1), .lit (.int .i64 x.2.2.2.2.2.2.2.2)]
def arC (id g row : Nat) : List (Int × Nat) → Int → Option V
  | [], _ => none
  | p :: l, n => bif n == p.1 then some (.ptr id g row p.2) else arC id g row l n
theorem arC_nil {id g row : Nat} {n : Int} : arC id g row [] n = none := rfl
theorem arC_cons {id g row o : Nat} {n i : Int} {l : List (Int × Nat)} : arC id g row ((i, o) :: l) n = bif n == i then some (.ptr id g row o) else arC id g row l n := rfl
def arL (sz off len : Nat) : List (Int × Nat) := (List.range len).map fun j : Nat => ((j : Int), off + j * sz)
theorem arC_out {id g row : Nat} {n : Int} : ∀ {l : List (Int × Nat)}, (∀ p ∈ l, p.1 ≠ n) → arC id g row l n = none
  | [], _ => rfl
  | p :: l, h => by
    rw [arC, show (n == p.1) = false by simp; exact fun e => h p (List.mem_cons_self ..) e.symm, cond_false]
    exact arC_out fun q hq => h q (List.mem_cons_of_mem _ hq)
theorem arC_in {id g row sz off : Nat} {q : Nat} : ∀ (l : List Nat), q ∈ l → arC id g row (l.map fun j : Nat => ((j : Int), off + j * sz)) (q : Int) = some (.ptr id g row (off + q * sz))
  | [], h => by cases h
  | x :: l, h => by
    rw [List.map_cons, arC]
    by_cases e : q = x
    · subst e; simp
    · have h2 : ((q : Int) == (x : Int)) = false := by simp; omega
      rw [h2, cond_false]
      exact arC_in l ((List.mem_cons.1 h).resolve_left e)
theorem arC_eq {P : Program} {t e : TypeId} {len sz id g row off : Nat} {k : IntKind} {n : Int} {H : Hp} (h : P.underlying t = some (.array len e)) (hs : szOf P e = sz) (hz : sz ≠ 0) :
    vIndexAddr P t (.ptr id g row off) (.lit (.int k n)) H = arC id g row (arL sz off len) n := by
  unfold vIndexAddr
  simp only [h, hs]
  by_cases h0 : 0 ≤ n
  · rw [if_pos h0]
    by_cases h1 : n < len
    · rw [if_pos ⟨h1, hz⟩]
      obtain ⟨q, rfl⟩ : ∃ q : Nat, n = q := ⟨n.toNat, by omega⟩
      rw [arL, arC_in (List.range len) (List.mem_range.2 (by omega)), Int.toNat_natCast]
    · rw [if_neg (fun hh => h1 hh.1)]
      refine (arC_out fun p hp => ?_).symm
      obtain ⟨j, hj, rfl⟩ := List.mem_map.1 hp
      have := List.mem_range.1 hj
      simp only
      omega
  · rw [if_neg h0]
    refine (arC_out fun p hp => ?_).symm
    obtain ⟨j, hj, rfl⟩ := List.mem_map.1 hp
    simp only
    omega
end Go.Ab
