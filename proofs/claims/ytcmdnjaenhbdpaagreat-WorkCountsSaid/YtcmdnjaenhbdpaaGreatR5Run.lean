/- The seat's rules by which calls are run: printed by mkrun.py. -/
import Derived.Test.YtcmdnjaenhbdpaaGreatAbLibC
import Derived.Test.YtcmdnjaenhbdpaaGreatR5Seat
set_option linter.unusedVariables false
set_option linter.unusedSimpArgs false
namespace Go.Ab
open Go.Proofs
def xR (f g : Nat) : Option (Nat → Bool) := sif (g == 20 && f == 89 || g == 21 && f == 56 || g == 21 && f == 72) (some fun _ => true) none
def xA (g : Nat) : Bool := g == 91 || g == 92 || g == 93
theorem xR_eq (f g : Nat) : xM.keepRes f g = xR f g := by
  show (if g = 20 ∧ f = 89 ∨ g = 21 ∧ f = 56 ∨ g = 21 ∧ f = 72 then some (fun _ => true) else none) = _
  unfold xR sif
  simp only [Bool.cond_eq_ite, Bool.or_eq_true, Bool.and_eq_true, beq_iff_eq, or_assoc]
theorem xA_eq (g : Nat) : xM.keepArg g = xA g := rfl
section
variable {k fid wl n g : Nat} {rd o : Bool} {first caps args : List V} {H : Hp}
theorem xcallV : callV (xX (xS k) fid wl n rd) false o (.fn (.func g) first caps) args H = bq (sif (xA g) (some (first ++ args ++ caps, H)) (fzAs wl (first ++ args ++ caps) H)) fun a =>
      sif (pureL a.1) (bq (xC k (xR fid g) g a.1) (ldQ H a.2))
        (bq (evF Tryz.prog xM k wl g a.1 a.2) fun p => bq (sif (xR fid g).isSome (some p) (fzR wl p.1 p.2)) fun q => noShorter H (sif q.1.pure (q.1, cutH a.2.length q.2) q)) := by
  rw [← xA_eq, ← xR_eq]
  exact callV_run
theorem xcallC : callV (xX (xS k) fid wl n rd) true true (.fn (.func g) first caps) args H =
      sif (pureL (first ++ args ++ caps)) (bq (xC k (xR fid g) g (first ++ args ++ caps)) (ldP H)) (sif (xA g) none (bq (fzAs wl (first ++ args ++ caps) H) fun a =>
        sif (pureL a.1) (bq (xC k (xR fid g) g a.1) fun q => bq (ldP a.2 q) fun q => some (q.1, sif q.1.scal H q.2)) (bq (evF Tryz.prog xM k a.2.length g a.1 a.2) fun p => sif p.1.scal (some (p.1, H)) none))) := by
  rw [← xA_eq, ← xR_eq]
  exact callV_runC
theorem xcallL : callV (xX (xS k) fid wl n rd) true false (.fn (.func g) first caps) args H = sif (pureL (first ++ args ++ caps)) (bq (xC k none g (first ++ args ++ caps)) fun q => sif q.1.pure (some (q.1, H)) none) none := callV_runL
theorem xcallY {l : Nat} : callV (xX (xS k) fid wl n rd) false o (.yld l) args H = bq (fzAs wl args H) fun a => bq (evY Tryz.prog xM k wl l a.1 a.2) (noShorter H) := rfl
noncomputable def xY (k wl id : Nat) (args : List V) (H : Hp) (b : Option B) : Res := yB Tryz.prog xM k wl id args H b
theorem xevY {id : Nat} : evY Tryz.prog xM (k + 1) wl id args H = xY k wl id args H (H[id]?) := evY_run
theorem xY_ready {id f : Nat} {pe : Option Code} {ts : List V} {ps : List Tmp} {a b : Code} :
    xY k wl id args H (some (.loop ⟨.ready, pe, f, ts, ps, a, b⟩)) = sif (decide (args.length = ps.length) && Nat.ble wl id)
      (runK (xX (xS k) f wl k true) (asK (xX (xS k) f wl k true) id H.length b) [.seq a] .norm ⟨setParams ts ps args, H⟩) none := yB_ready
noncomputable def xG (k fid wl n : Nat) (ps : List Tmp) (a b : Code) (K : Out → St → Res) (env : List V) (H : Hp) (v : V) : Res := rgC (xX (xS k) fid wl n false) ps a b K env H v
theorem xrange {f : Operand} {ps : Array Tmp} {a b : Code} {K : Out → St → Res} {env : List V} :
    execK (xX (xS k) fid wl n false) (.rangeFunc f ps a b) none K ⟨env, H⟩ = sif (Nat.ble wl H.length) (bq (evO env f) (xG k fid wl n ps.toList a b K env H)) none := execK_rf rfl
theorem xG_fn {ps : List Tmp} {a b : Code} {K : Out → St → Res} {env : List V} :
    xG k fid wl n ps a b K env H (.fn (.func g) [] caps) = bq (evF Tryz.prog xM k wl g (.yld H.length :: caps) (H ++ [.loop ⟨.ready, none, fid, env, ps, a, b⟩])) (rfK K env H.length) := rgC_fn
theorem xC_eq {kp : Option (Nat → Bool)} : xC k kp g args = rt kp (evF Tryz.prog xM k 0 g args []) := rfl
end
end Go.Ab
