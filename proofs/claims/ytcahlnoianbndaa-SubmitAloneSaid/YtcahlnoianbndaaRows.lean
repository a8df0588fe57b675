/-
  No cell of these rows narrows 'for every input' (looked for: loops, veiled, ifaces, maps, wideKeys, modest, calm, conditions, laid).
  DERIVED. THE GIVEN ROWS OF THIS SEAT. 5 by the template 'for every input the law returns true; each argument reads behind the call as it read before'; 0 by the template 'total and deterministic' (their statements: YtcahlnoianbndaaTotals.lean).
  GIVEN WITH THE SEED: the statements are not yours to turn. If you find one false, say at which input.
  Laid BY PROGRAM, IN A SANDBOX (cutbox-rows.mjs): the forced cells as the released guide's own fill.sh prints them over the translation e07ab25241a7f019… (all of the seat's roots in one cut). By AI agents, Wed Nov 11 2026. No macro, syntax, notation, axiom, sorry.
-/
import Derived.Test.YtcahlnoianbndaaChecked
import GoSem.Claim
import GoSem.ClaimJoined
import GoSem.ClaimMapViews
import Derived.JoinedTies
import Derived.KernelRfl
namespace Go.Proofs.Ytcahlnoianbndaa
/- THE CELL 'sum', in the pinned program and in every row, IS THE sha256 OF THE DUMP (.gsa) THAT YtcahlnoianbndaaProg.lean LOADS. Nothing in Lean hashes anything: it is a label: what it is worth is what the hold of that sum in a sandbox is worth. -/
noncomputable def Try.pinned : Pinned := { name := "ytcahlnoianbndaa", sum := "e07ab25241a7f019f49e3dbbdba78fa356e419326f3bdc1e0985ee022eb201c9", checked := Try.checked }
namespace Rows
def none {H : Type} : Left H := { results := [], args := [] }

/-- 'poacherlaw19.SubmitOnce': WHATEVER THE INPUT: true; the input reads as it did. -/
def submitOnceSpec : ChangeSpec := { name := "submitOnce", fn := fun _ => fun
  | [d1, d2, d3, d4, d5] => { results := [.lit (.bool true)], args := [d1, d2, d3, d4, d5] }
  | _ => none }
def submitOnceRow : OpenClaim := { program := "ytcahlnoianbndaa", sum := "e07ab25241a7f019f49e3dbbdba78fa356e419326f3bdc1e0985ee022eb201c9", func := "poacher/poacherlaw19.SubmitOnce", spec := "submitOnce", unfollowed := true, recurses := true, apart := false }
def SubmitOnceSaid : Prop := submitOnceRow.holds Try.pinned (OpenSpec.ofChange submitOnceSpec)

/-- ITS FALSE NEIGHBOUR: 'it returns false'. Refute it at one input. -/
def submitOnceWrong : ChangeSpec := { name := "submitOnce", fn := fun _ => fun
  | [d1, d2, d3, d4, d5] => { results := [.lit (.bool false)], args := [d1, d2, d3, d4, d5] }
  | _ => none }
def SubmitOnceWrongFalsely : Prop := submitOnceRow.holds Try.pinned (OpenSpec.ofChange submitOnceWrong)

/-- 'poacherlaw19.SubmitAlone': WHATEVER THE INPUT: true; the input reads as it did. -/
def submitAloneSpec : ChangeSpec := { name := "submitAlone", fn := fun _ => fun
  | [d1, d2, d3] => { results := [.lit (.bool true)], args := [d1, d2, d3] }
  | _ => none }
def submitAloneRow : OpenClaim := { program := "ytcahlnoianbndaa", sum := "e07ab25241a7f019f49e3dbbdba78fa356e419326f3bdc1e0985ee022eb201c9", func := "poacher/poacherlaw19.SubmitAlone", spec := "submitAlone", unfollowed := true, recurses := true, apart := false }
def SubmitAloneSaid : Prop := submitAloneRow.holds Try.pinned (OpenSpec.ofChange submitAloneSpec)

/-- ITS FALSE NEIGHBOUR: 'it returns false'. Refute it at one input. -/
def submitAloneWrong : ChangeSpec := { name := "submitAlone", fn := fun _ => fun
  | [d1, d2, d3] => { results := [.lit (.bool false)], args := [d1, d2, d3] }
  | _ => none }
def SubmitAloneWrongFalsely : Prop := submitAloneRow.holds Try.pinned (OpenSpec.ofChange submitAloneWrong)

/-- 'poacherlaw19.SubmitWakes': WHATEVER THE INPUT: true; the input reads as it did. -/
def submitWakesSpec : ChangeSpec := { name := "submitWakes", fn := fun _ => fun
  | [d1, d2, d3, d4, d5, d6] => { results := [.lit (.bool true)], args := [d1, d2, d3, d4, d5, d6] }
  | _ => none }
def submitWakesRow : OpenClaim := { program := "ytcahlnoianbndaa", sum := "e07ab25241a7f019f49e3dbbdba78fa356e419326f3bdc1e0985ee022eb201c9", func := "poacher/poacherlaw19.SubmitWakes", spec := "submitWakes", unfollowed := true, recurses := true, apart := false }
def SubmitWakesSaid : Prop := submitWakesRow.holds Try.pinned (OpenSpec.ofChange submitWakesSpec)

/-- ITS FALSE NEIGHBOUR: 'it returns false'. Refute it at one input. -/
def submitWakesWrong : ChangeSpec := { name := "submitWakes", fn := fun _ => fun
  | [d1, d2, d3, d4, d5, d6] => { results := [.lit (.bool false)], args := [d1, d2, d3, d4, d5, d6] }
  | _ => none }
def SubmitWakesWrongFalsely : Prop := submitWakesRow.holds Try.pinned (OpenSpec.ofChange submitWakesWrong)

/-- 'poacherlaw19.SubmitFull': WHATEVER THE INPUT: true; the input reads as it did. -/
def submitFullSpec : ChangeSpec := { name := "submitFull", fn := fun _ => fun
  | [d1, d2, d3, d4, d5] => { results := [.lit (.bool true)], args := [d1, d2, d3, d4, d5] }
  | _ => none }
def submitFullRow : OpenClaim := { program := "ytcahlnoianbndaa", sum := "e07ab25241a7f019f49e3dbbdba78fa356e419326f3bdc1e0985ee022eb201c9", func := "poacher/poacherlaw19.SubmitFull", spec := "submitFull", unfollowed := true, recurses := true, apart := false }
def SubmitFullSaid : Prop := submitFullRow.holds Try.pinned (OpenSpec.ofChange submitFullSpec)

/-- ITS FALSE NEIGHBOUR: 'it returns false'. Refute it at one input. -/
def submitFullWrong : ChangeSpec := { name := "submitFull", fn := fun _ => fun
  | [d1, d2, d3, d4, d5] => { results := [.lit (.bool false)], args := [d1, d2, d3, d4, d5] }
  | _ => none }
def SubmitFullWrongFalsely : Prop := submitFullRow.holds Try.pinned (OpenSpec.ofChange submitFullWrong)

/-- 'poacherlaw19.SubmitClosed': WHATEVER THE INPUT: true; the input reads as it did. -/
def submitClosedSpec : ChangeSpec := { name := "submitClosed", fn := fun _ => fun
  | [d1, d2, d3, d4, d5] => { results := [.lit (.bool true)], args := [d1, d2, d3, d4, d5] }
  | _ => none }
def submitClosedRow : OpenClaim := { program := "ytcahlnoianbndaa", sum := "e07ab25241a7f019f49e3dbbdba78fa356e419326f3bdc1e0985ee022eb201c9", func := "poacher/poacherlaw19.SubmitClosed", spec := "submitClosed", unfollowed := true, recurses := true, apart := false }
def SubmitClosedSaid : Prop := submitClosedRow.holds Try.pinned (OpenSpec.ofChange submitClosedSpec)

/-- ITS FALSE NEIGHBOUR: 'it returns false'. Refute it at one input. -/
def submitClosedWrong : ChangeSpec := { name := "submitClosed", fn := fun _ => fun
  | [d1, d2, d3, d4, d5] => { results := [.lit (.bool false)], args := [d1, d2, d3, d4, d5] }
  | _ => none }
def SubmitClosedWrongFalsely : Prop := submitClosedRow.holds Try.pinned (OpenSpec.ofChange submitClosedWrong)

/- THE SECOND FORM. 'bulk': how many values and letters a reading holds, each counted each time it is reached (what is shared counts as often as it is met; a slice's spare places count too). A statement '..UptoSaid' is the law's where the arguments, and the package variables that the reading takes, are together of bulk at most 1048576: NARROWER than '..Said'. Prove '..Said' where nothing that the law and all that it calls make is longer than what came in: it says more and counts as full. Else prove '..UptoSaid'. A law counts once. -/
mutual
def uptoBulk {H : Type} : DataW H → Nat
  | .lit (.string bytes) => bytes.length + 1
  | .lit _ => 1
  | .nil => 1
  | .ptr d => uptoBulk d + 1
  | .slice elems spare => uptoBulkAll elems + uptoBulkAll spare + 1
  | .agg parts => uptoBulkAll parts + 1
  | .iface _ d => uptoBulk d + 1
  | .map entries => uptoBulkEntries entries + 1
  | .held _ => 1
def uptoBulkAll {H : Type} : List (DataW H) → Nat
  | [] => 0
  | d :: r => uptoBulk d + uptoBulkAll r
def uptoBulkEntries {H : Type} : List (Lit × DataW H) → Nat
  | [] => 0
  | x :: r => uptoBulkEntry x + uptoBulkEntries r
def uptoBulkEntry {H : Type} : Lit × DataW H → Nat
  | (.string bytes, d) => bytes.length + uptoBulk d + 1
  | (_, d) => uptoBulk d + 1
 end
def uptoSmall : (H : Type) → List (DataW H) → Bool := fun _ ds => decide (uptoBulkAll ds ≤ 1048576)
def OpenSpec.upto (s : _root_.Go.ChangeSpec) : _root_.Go.OpenSpec := { _root_.Go.OpenSpec.ofChange s with cond := some uptoSmall }

/-- 'poacherlaw19.SubmitOnce', WHERE WHAT IT READS IS OF BULK AT MOST 1048576: true; the input reads as it did. -/
def submitOnceUptoRow : OpenClaim := { program := "ytcahlnoianbndaa", sum := "e07ab25241a7f019f49e3dbbdba78fa356e419326f3bdc1e0985ee022eb201c9", func := "poacher/poacherlaw19.SubmitOnce", spec := "submitOnce", unfollowed := true, recurses := true, apart := false, narrowed := true }
def SubmitOnceUptoSaid : Prop := submitOnceUptoRow.holds Try.pinned (OpenSpec.upto submitOnceSpec)

/-- 'poacherlaw19.SubmitAlone', WHERE WHAT IT READS IS OF BULK AT MOST 1048576: true; the input reads as it did. -/
def submitAloneUptoRow : OpenClaim := { program := "ytcahlnoianbndaa", sum := "e07ab25241a7f019f49e3dbbdba78fa356e419326f3bdc1e0985ee022eb201c9", func := "poacher/poacherlaw19.SubmitAlone", spec := "submitAlone", unfollowed := true, recurses := true, apart := false, narrowed := true }
def SubmitAloneUptoSaid : Prop := submitAloneUptoRow.holds Try.pinned (OpenSpec.upto submitAloneSpec)

/-- 'poacherlaw19.SubmitWakes', WHERE WHAT IT READS IS OF BULK AT MOST 1048576: true; the input reads as it did. -/
def submitWakesUptoRow : OpenClaim := { program := "ytcahlnoianbndaa", sum := "e07ab25241a7f019f49e3dbbdba78fa356e419326f3bdc1e0985ee022eb201c9", func := "poacher/poacherlaw19.SubmitWakes", spec := "submitWakes", unfollowed := true, recurses := true, apart := false, narrowed := true }
def SubmitWakesUptoSaid : Prop := submitWakesUptoRow.holds Try.pinned (OpenSpec.upto submitWakesSpec)

/-- 'poacherlaw19.SubmitFull', WHERE WHAT IT READS IS OF BULK AT MOST 1048576: true; the input reads as it did. -/
def submitFullUptoRow : OpenClaim := { program := "ytcahlnoianbndaa", sum := "e07ab25241a7f019f49e3dbbdba78fa356e419326f3bdc1e0985ee022eb201c9", func := "poacher/poacherlaw19.SubmitFull", spec := "submitFull", unfollowed := true, recurses := true, apart := false, narrowed := true }
def SubmitFullUptoSaid : Prop := submitFullUptoRow.holds Try.pinned (OpenSpec.upto submitFullSpec)

/-- 'poacherlaw19.SubmitClosed', WHERE WHAT IT READS IS OF BULK AT MOST 1048576: true; the input reads as it did. -/
def submitClosedUptoRow : OpenClaim := { program := "ytcahlnoianbndaa", sum := "e07ab25241a7f019f49e3dbbdba78fa356e419326f3bdc1e0985ee022eb201c9", func := "poacher/poacherlaw19.SubmitClosed", spec := "submitClosed", unfollowed := true, recurses := true, apart := false, narrowed := true }
def SubmitClosedUptoSaid : Prop := submitClosedUptoRow.holds Try.pinned (OpenSpec.upto submitClosedSpec)

end Rows
end Go.Proofs.Ytcahlnoianbndaa
