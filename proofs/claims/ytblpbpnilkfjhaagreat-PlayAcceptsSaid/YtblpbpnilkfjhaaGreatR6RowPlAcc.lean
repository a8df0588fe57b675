/- PlayAccepts: for every input the call returns true, and each argument reads afterwards as it read before. No condition. -/
import Derived.Test.YtblpbpnilkfjhaaGreatR6PLPlAcc
import Derived.Test.YtblpbpnilkfjhaaGreatR6Row
import Derived.Test.YtblpbpnilkfjhaaGreatR6P0B
import Derived.Test.YtblpbpnilkfjhaaGreatRows
import Derived.WalkKit
import Derived.ProofKit
import Derived.OpenShut
import Derived.ShutString
import Derived.ChangeOld
import Derived.Below
import Derived.SizedLaws
set_option linter.unusedVariables false
set_option linter.unusedSimpArgs false
namespace Go.Proofs.YtblpbpnilkfjhaaGreat.playAccepts
open Go.ChangeShapes Go.WideShapes Go.ChangeAt Go.RowKit Go.Ab
set_option linter.unusedVariables false
theorem own : ownKnob Tryz.prog.godebug = none := by kernel_rfl
theorem laidOut : laidOutB Tryz.prog = true := by kernel_rfl
set_option maxRecDepth 100000 in
theorem lifted (os : Os) (started : os.Started) (H : Type) (enc : TypeId × Value → H) :
    ReturnsInHanded {} Tryz.checked os 14 .any (Rows.playAcceptsSpec.pre6 enc Tryz.prog Tryz.f14 Rows.playAcceptsRow.domain false) (Rows.playAcceptsSpec.post enc Tryz.prog Tryz.f14 false true false false) := by
  refine returnsInHanded_of_change_sized (C := Tryz.checked) own started (by kernel_rfl) Tryz.func14
    (ChangeSpec.witness6 (enc := enc) (C := Tryz.checked) false ⟨#[], #[((Tryz.prog.info? 23).bind (·.zero)).getD default, .slice none 0 0, .slice none 0 0, .slice none 0 0, .int .i64 0], []⟩ 8 (by kernel_rfl) (by kernel_rfl) (by kernel_rfl) (by kernel_rfl)) ?_
  intro W base args ds gs before hval0 hW hcnd hsz0 _
  have hval : ∀ (j : Nat) t v, Tryz.f14.params[j]? = some t → args[j]? = some v → Value.okWide Tryz.prog W .any base t v := hval0
  have hW' := hW
  obtain ⟨p, q, hA0, hV, rfl, hfz, hnd⟩ := hW
  have hA : DataW.TrodAll enc Tryz.prog W 0 (fun _ => true) true Tryz.f14.params.toList args.toList ds p := hA0
  rw [Tryz.params14] at hA hval
  obtain ⟨v0, vs0, d0, ds0, p0, q0, hargs, rfl, rfl, h0, r0⟩ := trodAll_cons hA
  obtain ⟨v1, vs1, d1, ds1, p1, q1, rfl, rfl, rfl, h1, r1⟩ := trodAll_cons r0
  obtain ⟨v2, vs2, d2, ds2, p2, q2, rfl, rfl, rfl, h2, r2⟩ := trodAll_cons r1
  obtain ⟨v3, vs3, d3, ds3, p3, q3, rfl, rfl, rfl, h3, r3⟩ := trodAll_cons r2
  obtain ⟨v4, vs4, d4, ds4, p4, q4, rfl, rfl, rfl, h4, r4⟩ := trodAll_cons r3
  obtain ⟨rfl, rfl, rfl⟩ := trodAll_nil r4
  obtain rfl : args = #[v0, v1, v2, v3, v4] := by cases args; simp_all
  obtain ⟨rfl, rfl⟩ := trodVars_none hV
  obtain ⟨cs0, rfl⟩ := M6 Tryz.underlying23 (hval 0 23 v0 rfl rfl)
  have k0 := h0
  have lt0 : ∀ x ∈ p0, x.block < W.heap.size := by obtain ⟨m, hm⟩ := k0; exact DataW.trod_lt m _ _ _ hm
  obtain ⟨fu0, hf0⟩ := h0
  obtain ⟨w0, c0, s0⟩ := Ej 8 fu0 23 _ _ (by kernel_rfl) hf0
  obtain ⟨l0, rfl, wf0⟩ := Oz Tryz.underlying23 rfl rfl rfl rfl rfl rfl rfl rfl Tryz.underlying3 (by kernel_rfl) (by kernel_rfl) s0
  obtain ⟨a1, len1, cap1, rfl⟩ := okWide_slice Tryz.underlying24 (hval 1 24 v1 rfl rfl)
  have k1 := h1
  have lt1 : ∀ x ∈ p1, x.block < W.heap.size := by obtain ⟨m, hm⟩ := k1; exact DataW.trod_lt m _ _ _ hm
  obtain ⟨fu1, hf1⟩ := h1
  obtain ⟨w1, c1, s1⟩ := Ej 8 fu1 24 _ _ (by kernel_rfl) hf1
  obtain ⟨l1, rfl, wf1, m1⟩ := J3 Tryz.underlying24 Tryz.underlying101 rfl rfl rfl rfl Tryz.underlying3 Tryz.underlying53 (by kernel_rfl) (by kernel_rfl) (by kernel_rfl) s1
  obtain ⟨a2, len2, cap2, rfl⟩ := okWide_slice Tryz.underlying40 (hval 2 40 v2 rfl rfl)
  have k2 := h2
  have lt2 : ∀ x ∈ p2, x.block < W.heap.size := by obtain ⟨m, hm⟩ := k2; exact DataW.trod_lt m _ _ _ hm
  obtain ⟨fu2, hf2⟩ := h2
  obtain ⟨w2, c2, s2⟩ := Ej 8 fu2 40 _ _ (by kernel_rfl) hf2
  obtain ⟨l2, rfl, wf2, m2⟩ := IC Tryz.underlying40 Tryz.underlying53 Tryz.underlying3 s2
  obtain ⟨a3, len3, cap3, rfl⟩ := okWide_slice Tryz.underlying67 (hval 3 67 v3 rfl rfl)
  have k3 := h3
  have lt3 : ∀ x ∈ p3, x.block < W.heap.size := by obtain ⟨m, hm⟩ := k3; exact DataW.trod_lt m _ _ _ hm
  obtain ⟨fu3, hf3⟩ := h3
  obtain ⟨w3, c3, s3⟩ := Ej 8 fu3 67 _ _ (by kernel_rfl) hf3
  obtain ⟨l3, rfl, wf3, m3⟩ := wy Tryz.underlying67 Tryz.underlying5 s3
  obtain ⟨a4, rfl, rfl, rfl, w4⟩ := open_int Tryz.underlying3 (hval 4 3 v4 rfl rfl) h4
  have hrel : b7 (Va W) [] [.agg (mi l0), KH l1, .ro (l2.map cz), Vi .u8 l3, .lit (.int .i64 a4)] #[.agg cs0, .slice a1 len1 cap1, .slice a2 len2 cap2, .slice a3 len3 cap3, .int .i64 a4] := ((c0.agg).cons ((c1.rel 0 _ _ rfl rfl).cons ((c2.rel 0 _ _ rfl rfl).cons ((c3.rel 0 _ _ rfl rfl).cons ((RelV.lit _).cons (b7.nil _ _))))))
  obtain ⟨H', hp⟩ := aez (law_PlAcc 9223372036854799990 (by omega) l0 wf0 l1 (ajf m1 wf1) l2 (akW m2 wf2) l3 (alu wf3 m3) a4 w4)
  clear hA0 hval0 hsz0
  refine (Wc hp hrel).mono fun e W' ⟨he, bel⟩ => ?_
  subst he
  exact ⟨_, rfl, _, _, _, [], _, [], hW', trodAll_mk1 (shut_bool Tryz.underlying4 _), (trodAll_cons_mk (Below.trod laidOut (by kernel_rfl) (of_decide_eq_true (by kernel_rfl)) k0 bel lt0) (trodAll_cons_mk (Below.trod laidOut (by kernel_rfl) (of_decide_eq_true (by kernel_rfl)) k1 bel lt1) (trodAll_cons_mk (Below.trod laidOut (by kernel_rfl) (of_decide_eq_true (by kernel_rfl)) k2 bel lt2) (trodAll_cons_mk (Below.trod laidOut (by kernel_rfl) (of_decide_eq_true (by kernel_rfl)) k3 bel lt3) (trodAll_cons_mk (shut_int Tryz.underlying3 w4) trodAll_mk0))))), rfl, bel.frame _, fun h => by cases h⟩
theorem over : Rows.playAcceptsRow.holds Tryz.pinned (OpenSpec.ofChange Rows.playAcceptsSpec) :=
  OpenClaim.holds_of_wide 14 Tryz.f14 rfl rfl rfl rfl rfl rfl rfl ⟨rfl, rfl, rfl, rfl, rfl⟩ rfl rfl rfl rfl rfl (by kernel_rfl) Tryz.func14 (by kernel_rfl)
    (of_decide_eq_true (by kernel_rfl)) (by unfold Func.isWrapper; first | (rw [if_pos (by decide +kernel)]; kernel_rfl) | (rw [if_neg (by decide +kernel)]; exact ⟨rfl, rfl⟩))
    (fun os started H enc _ => lifted os started H enc)
end Go.Proofs.YtblpbpnilkfjhaaGreat.playAccepts
namespace Go.Proofs.YtblpbpnilkfjhaaGreat
theorem playAccepts_holds : Rows.PlayAcceptsSaid := playAccepts.over
end Go.Proofs.YtblpbpnilkfjhaaGreat
#print axioms Go.Proofs.YtblpbpnilkfjhaaGreat.playAccepts_holds
