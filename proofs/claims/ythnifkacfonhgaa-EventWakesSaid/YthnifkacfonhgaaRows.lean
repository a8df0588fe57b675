/-
  No cell of these rows narrows 'for every input' (looked for: loops, veiled, ifaces, maps, wideKeys, modest, calm, conditions, laid).
  DERIVED. THE GIVEN ROWS OF THIS SEAT. 17 by the template 'for every input the law returns true; each argument reads behind the call as it read before'; 0 by the template 'total and deterministic' (their statements: YthnifkacfonhgaaTotals.lean).
  GIVEN WITH THE SEED: the statements are not yours to turn. If you find one false, say at which input.
  Laid BY PROGRAM, IN A SANDBOX (cutbox-rows.mjs): the forced cells as the released guide's own fill.sh prints them over the translation 38a79decc322074a… (all of the seat's roots in one cut). By AI agents, Wed Nov 11 2026. No macro, syntax, notation, axiom, sorry.
-/
import Derived.Test.YthnifkacfonhgaaChecked
import GoSem.Claim
import GoSem.ClaimJoined
import GoSem.ClaimMapViews
import Derived.JoinedTies
import Derived.KernelRfl
namespace Go.Proofs.Ythnifkacfonhgaa
/- THE CELL 'sum', in the pinned program and in every row, IS THE sha256 OF THE DUMP (.gsa) THAT YthnifkacfonhgaaProg.lean LOADS. Nothing in Lean hashes anything: it is a label: what it is worth is what the hold of that sum in a sandbox is worth. -/
noncomputable def Try.pinned : Pinned := { name := "ythnifkacfonhgaa", sum := "38a79decc322074a806a4f2b7c134d07a3cf272378f1ca625035d9647dc1ee3d", checked := Try.checked }
namespace Rows
def none {H : Type} : Left H := { results := [], args := [] }

/-- 'poacherlaw14.WaitTells': WHATEVER THE INPUT: true; the input reads as it did. -/
def waitTellsSpec : ChangeSpec := { name := "waitTells", fn := fun _ => fun
  | [d1, d2, d3] => { results := [.lit (.bool true)], args := [d1, d2, d3] }
  | _ => none }
def waitTellsRow : OpenClaim := { program := "ythnifkacfonhgaa", sum := "38a79decc322074a806a4f2b7c134d07a3cf272378f1ca625035d9647dc1ee3d", func := "poacher/poacherlaw14.WaitTells", spec := "waitTells", unfollowed := true, recurses := true, apart := false }
def WaitTellsSaid : Prop := waitTellsRow.holds Try.pinned (OpenSpec.ofChange waitTellsSpec)

/-- ITS FALSE NEIGHBOUR: 'it returns false'. Refute it at one input. -/
def waitTellsWrong : ChangeSpec := { name := "waitTells", fn := fun _ => fun
  | [d1, d2, d3] => { results := [.lit (.bool false)], args := [d1, d2, d3] }
  | _ => none }
def WaitTellsWrongFalsely : Prop := waitTellsRow.holds Try.pinned (OpenSpec.ofChange waitTellsWrong)

/-- 'poacherlaw14.WaitCells': WHATEVER THE INPUT: true; the input reads as it did. -/
def waitCellsSpec : ChangeSpec := { name := "waitCells", fn := fun _ => fun
  | [d1, d2, d3] => { results := [.lit (.bool true)], args := [d1, d2, d3] }
  | _ => none }
def waitCellsRow : OpenClaim := { program := "ythnifkacfonhgaa", sum := "38a79decc322074a806a4f2b7c134d07a3cf272378f1ca625035d9647dc1ee3d", func := "poacher/poacherlaw14.WaitCells", spec := "waitCells", unfollowed := true, recurses := true, apart := false }
def WaitCellsSaid : Prop := waitCellsRow.holds Try.pinned (OpenSpec.ofChange waitCellsSpec)

/-- ITS FALSE NEIGHBOUR: 'it returns false'. Refute it at one input. -/
def waitCellsWrong : ChangeSpec := { name := "waitCells", fn := fun _ => fun
  | [d1, d2, d3] => { results := [.lit (.bool false)], args := [d1, d2, d3] }
  | _ => none }
def WaitCellsWrongFalsely : Prop := waitCellsRow.holds Try.pinned (OpenSpec.ofChange waitCellsWrong)

/-- 'poacherlaw14.WaitTwo': WHATEVER THE INPUT: true; the input reads as it did. -/
def waitTwoSpec : ChangeSpec := { name := "waitTwo", fn := fun _ => fun
  | [d1, d2, d3, d4] => { results := [.lit (.bool true)], args := [d1, d2, d3, d4] }
  | _ => none }
def waitTwoRow : OpenClaim := { program := "ythnifkacfonhgaa", sum := "38a79decc322074a806a4f2b7c134d07a3cf272378f1ca625035d9647dc1ee3d", func := "poacher/poacherlaw14.WaitTwo", spec := "waitTwo", unfollowed := true, recurses := true, apart := false }
def WaitTwoSaid : Prop := waitTwoRow.holds Try.pinned (OpenSpec.ofChange waitTwoSpec)

/-- ITS FALSE NEIGHBOUR: 'it returns false'. Refute it at one input. -/
def waitTwoWrong : ChangeSpec := { name := "waitTwo", fn := fun _ => fun
  | [d1, d2, d3, d4] => { results := [.lit (.bool false)], args := [d1, d2, d3, d4] }
  | _ => none }
def WaitTwoWrongFalsely : Prop := waitTwoRow.holds Try.pinned (OpenSpec.ofChange waitTwoWrong)

/-- 'poacherlaw14.WaitAlone': WHATEVER THE INPUT: true; the input reads as it did. -/
def waitAloneSpec : ChangeSpec := { name := "waitAlone", fn := fun _ => fun
  | [d1, d2, d3, d4] => { results := [.lit (.bool true)], args := [d1, d2, d3, d4] }
  | _ => none }
def waitAloneRow : OpenClaim := { program := "ythnifkacfonhgaa", sum := "38a79decc322074a806a4f2b7c134d07a3cf272378f1ca625035d9647dc1ee3d", func := "poacher/poacherlaw14.WaitAlone", spec := "waitAlone", unfollowed := true, recurses := true, apart := false }
def WaitAloneSaid : Prop := waitAloneRow.holds Try.pinned (OpenSpec.ofChange waitAloneSpec)

/-- ITS FALSE NEIGHBOUR: 'it returns false'. Refute it at one input. -/
def waitAloneWrong : ChangeSpec := { name := "waitAlone", fn := fun _ => fun
  | [d1, d2, d3, d4] => { results := [.lit (.bool false)], args := [d1, d2, d3, d4] }
  | _ => none }
def WaitAloneWrongFalsely : Prop := waitAloneRow.holds Try.pinned (OpenSpec.ofChange waitAloneWrong)

/-- 'poacherlaw14.WaitMissed': WHATEVER THE INPUT: true; the input reads as it did. -/
def waitMissedSpec : ChangeSpec := { name := "waitMissed", fn := fun _ => fun
  | [d1, d2, d3, d4] => { results := [.lit (.bool true)], args := [d1, d2, d3, d4] }
  | _ => none }
def waitMissedRow : OpenClaim := { program := "ythnifkacfonhgaa", sum := "38a79decc322074a806a4f2b7c134d07a3cf272378f1ca625035d9647dc1ee3d", func := "poacher/poacherlaw14.WaitMissed", spec := "waitMissed", unfollowed := true, recurses := true, apart := false }
def WaitMissedSaid : Prop := waitMissedRow.holds Try.pinned (OpenSpec.ofChange waitMissedSpec)

/-- ITS FALSE NEIGHBOUR: 'it returns false'. Refute it at one input. -/
def waitMissedWrong : ChangeSpec := { name := "waitMissed", fn := fun _ => fun
  | [d1, d2, d3, d4] => { results := [.lit (.bool false)], args := [d1, d2, d3, d4] }
  | _ => none }
def WaitMissedWrongFalsely : Prop := waitMissedRow.holds Try.pinned (OpenSpec.ofChange waitMissedWrong)

/-- 'poacherlaw14.WaitAgain': WHATEVER THE INPUT: true; the input reads as it did. -/
def waitAgainSpec : ChangeSpec := { name := "waitAgain", fn := fun _ => fun
  | [d1, d2, d3, d4] => { results := [.lit (.bool true)], args := [d1, d2, d3, d4] }
  | _ => none }
def waitAgainRow : OpenClaim := { program := "ythnifkacfonhgaa", sum := "38a79decc322074a806a4f2b7c134d07a3cf272378f1ca625035d9647dc1ee3d", func := "poacher/poacherlaw14.WaitAgain", spec := "waitAgain", unfollowed := true, recurses := true, apart := false }
def WaitAgainSaid : Prop := waitAgainRow.holds Try.pinned (OpenSpec.ofChange waitAgainSpec)

/-- ITS FALSE NEIGHBOUR: 'it returns false'. Refute it at one input. -/
def waitAgainWrong : ChangeSpec := { name := "waitAgain", fn := fun _ => fun
  | [d1, d2, d3, d4] => { results := [.lit (.bool false)], args := [d1, d2, d3, d4] }
  | _ => none }
def WaitAgainWrongFalsely : Prop := waitAgainRow.holds Try.pinned (OpenSpec.ofChange waitAgainWrong)

/-- 'poacherlaw15.NoteCells': WHATEVER THE INPUT: true; the input reads as it did. -/
def noteCellsSpec : ChangeSpec := { name := "noteCells", fn := fun _ => fun
  | [d1, d2, d3] => { results := [.lit (.bool true)], args := [d1, d2, d3] }
  | _ => none }
def noteCellsRow : OpenClaim := { program := "ythnifkacfonhgaa", sum := "38a79decc322074a806a4f2b7c134d07a3cf272378f1ca625035d9647dc1ee3d", func := "poacher/poacherlaw15.NoteCells", spec := "noteCells", unfollowed := true, recurses := true, apart := false }
def NoteCellsSaid : Prop := noteCellsRow.holds Try.pinned (OpenSpec.ofChange noteCellsSpec)

/-- ITS FALSE NEIGHBOUR: 'it returns false'. Refute it at one input. -/
def noteCellsWrong : ChangeSpec := { name := "noteCells", fn := fun _ => fun
  | [d1, d2, d3] => { results := [.lit (.bool false)], args := [d1, d2, d3] }
  | _ => none }
def NoteCellsWrongFalsely : Prop := noteCellsRow.holds Try.pinned (OpenSpec.ofChange noteCellsWrong)

/-- 'poacherlaw15.NoteOwed': WHATEVER THE INPUT: true; the input reads as it did. -/
def noteOwedSpec : ChangeSpec := { name := "noteOwed", fn := fun _ => fun
  | [d1, d2, d3, d4] => { results := [.lit (.bool true)], args := [d1, d2, d3, d4] }
  | _ => none }
def noteOwedRow : OpenClaim := { program := "ythnifkacfonhgaa", sum := "38a79decc322074a806a4f2b7c134d07a3cf272378f1ca625035d9647dc1ee3d", func := "poacher/poacherlaw15.NoteOwed", spec := "noteOwed", unfollowed := true, recurses := true, apart := false }
def NoteOwedSaid : Prop := noteOwedRow.holds Try.pinned (OpenSpec.ofChange noteOwedSpec)

/-- ITS FALSE NEIGHBOUR: 'it returns false'. Refute it at one input. -/
def noteOwedWrong : ChangeSpec := { name := "noteOwed", fn := fun _ => fun
  | [d1, d2, d3, d4] => { results := [.lit (.bool false)], args := [d1, d2, d3, d4] }
  | _ => none }
def NoteOwedWrongFalsely : Prop := noteOwedRow.holds Try.pinned (OpenSpec.ofChange noteOwedWrong)

/-- 'poacherlaw15.NoteOne': WHATEVER THE INPUT: true; the input reads as it did. -/
def noteOneSpec : ChangeSpec := { name := "noteOne", fn := fun _ => fun
  | [d1, d2, d3, d4] => { results := [.lit (.bool true)], args := [d1, d2, d3, d4] }
  | _ => none }
def noteOneRow : OpenClaim := { program := "ythnifkacfonhgaa", sum := "38a79decc322074a806a4f2b7c134d07a3cf272378f1ca625035d9647dc1ee3d", func := "poacher/poacherlaw15.NoteOne", spec := "noteOne", unfollowed := true, recurses := true, apart := false }
def NoteOneSaid : Prop := noteOneRow.holds Try.pinned (OpenSpec.ofChange noteOneSpec)

/-- ITS FALSE NEIGHBOUR: 'it returns false'. Refute it at one input. -/
def noteOneWrong : ChangeSpec := { name := "noteOne", fn := fun _ => fun
  | [d1, d2, d3, d4] => { results := [.lit (.bool false)], args := [d1, d2, d3, d4] }
  | _ => none }
def NoteOneWrongFalsely : Prop := noteOneRow.holds Try.pinned (OpenSpec.ofChange noteOneWrong)

/-- 'poacherlaw15.NoteAgain': WHATEVER THE INPUT: true; the input reads as it did. -/
def noteAgainSpec : ChangeSpec := { name := "noteAgain", fn := fun _ => fun
  | [d1, d2, d3, d4] => { results := [.lit (.bool true)], args := [d1, d2, d3, d4] }
  | _ => none }
def noteAgainRow : OpenClaim := { program := "ythnifkacfonhgaa", sum := "38a79decc322074a806a4f2b7c134d07a3cf272378f1ca625035d9647dc1ee3d", func := "poacher/poacherlaw15.NoteAgain", spec := "noteAgain", unfollowed := true, recurses := true, apart := false }
def NoteAgainSaid : Prop := noteAgainRow.holds Try.pinned (OpenSpec.ofChange noteAgainSpec)

/-- ITS FALSE NEIGHBOUR: 'it returns false'. Refute it at one input. -/
def noteAgainWrong : ChangeSpec := { name := "noteAgain", fn := fun _ => fun
  | [d1, d2, d3, d4] => { results := [.lit (.bool false)], args := [d1, d2, d3, d4] }
  | _ => none }
def NoteAgainWrongFalsely : Prop := noteAgainRow.holds Try.pinned (OpenSpec.ofChange noteAgainWrong)

/-- 'poacherlaw15.NoteBetween': WHATEVER THE INPUT: true; the input reads as it did. -/
def noteBetweenSpec : ChangeSpec := { name := "noteBetween", fn := fun _ => fun
  | [d1, d2, d3, d4] => { results := [.lit (.bool true)], args := [d1, d2, d3, d4] }
  | _ => none }
def noteBetweenRow : OpenClaim := { program := "ythnifkacfonhgaa", sum := "38a79decc322074a806a4f2b7c134d07a3cf272378f1ca625035d9647dc1ee3d", func := "poacher/poacherlaw15.NoteBetween", spec := "noteBetween", unfollowed := true, recurses := true, apart := false }
def NoteBetweenSaid : Prop := noteBetweenRow.holds Try.pinned (OpenSpec.ofChange noteBetweenSpec)

/-- ITS FALSE NEIGHBOUR: 'it returns false'. Refute it at one input. -/
def noteBetweenWrong : ChangeSpec := { name := "noteBetween", fn := fun _ => fun
  | [d1, d2, d3, d4] => { results := [.lit (.bool false)], args := [d1, d2, d3, d4] }
  | _ => none }
def NoteBetweenWrongFalsely : Prop := noteBetweenRow.holds Try.pinned (OpenSpec.ofChange noteBetweenWrong)

/-- 'poacherlaw16.EventSigns': WHATEVER THE INPUT: true; the input reads as it did. -/
def eventSignsSpec : ChangeSpec := { name := "eventSigns", fn := fun _ => fun
  | [d1, d2, d3] => { results := [.lit (.bool true)], args := [d1, d2, d3] }
  | _ => none }
def eventSignsRow : OpenClaim := { program := "ythnifkacfonhgaa", sum := "38a79decc322074a806a4f2b7c134d07a3cf272378f1ca625035d9647dc1ee3d", func := "poacher/poacherlaw16.EventSigns", spec := "eventSigns", unfollowed := true, recurses := true, apart := false }
def EventSignsSaid : Prop := eventSignsRow.holds Try.pinned (OpenSpec.ofChange eventSignsSpec)

/-- ITS FALSE NEIGHBOUR: 'it returns false'. Refute it at one input. -/
def eventSignsWrong : ChangeSpec := { name := "eventSigns", fn := fun _ => fun
  | [d1, d2, d3] => { results := [.lit (.bool false)], args := [d1, d2, d3] }
  | _ => none }
def EventSignsWrongFalsely : Prop := eventSignsRow.holds Try.pinned (OpenSpec.ofChange eventSignsWrong)

/-- 'poacherlaw16.EventWakes': WHATEVER THE INPUT: true; the input reads as it did. -/
def eventWakesSpec : ChangeSpec := { name := "eventWakes", fn := fun _ => fun
  | [d1, d2, d3] => { results := [.lit (.bool true)], args := [d1, d2, d3] }
  | _ => none }
def eventWakesRow : OpenClaim := { program := "ythnifkacfonhgaa", sum := "38a79decc322074a806a4f2b7c134d07a3cf272378f1ca625035d9647dc1ee3d", func := "poacher/poacherlaw16.EventWakes", spec := "eventWakes", unfollowed := true, recurses := true, apart := false }
def EventWakesSaid : Prop := eventWakesRow.holds Try.pinned (OpenSpec.ofChange eventWakesSpec)

/-- ITS FALSE NEIGHBOUR: 'it returns false'. Refute it at one input. -/
def eventWakesWrong : ChangeSpec := { name := "eventWakes", fn := fun _ => fun
  | [d1, d2, d3] => { results := [.lit (.bool false)], args := [d1, d2, d3] }
  | _ => none }
def EventWakesWrongFalsely : Prop := eventWakesRow.holds Try.pinned (OpenSpec.ofChange eventWakesWrong)

/-- 'poacherlaw16.EventMissed': WHATEVER THE INPUT: true; the input reads as it did. -/
def eventMissedSpec : ChangeSpec := { name := "eventMissed", fn := fun _ => fun
  | [d1, d2, d3, d4] => { results := [.lit (.bool true)], args := [d1, d2, d3, d4] }
  | _ => none }
def eventMissedRow : OpenClaim := { program := "ythnifkacfonhgaa", sum := "38a79decc322074a806a4f2b7c134d07a3cf272378f1ca625035d9647dc1ee3d", func := "poacher/poacherlaw16.EventMissed", spec := "eventMissed", unfollowed := true, recurses := true, apart := false }
def EventMissedSaid : Prop := eventMissedRow.holds Try.pinned (OpenSpec.ofChange eventMissedSpec)

/-- ITS FALSE NEIGHBOUR: 'it returns false'. Refute it at one input. -/
def eventMissedWrong : ChangeSpec := { name := "eventMissed", fn := fun _ => fun
  | [d1, d2, d3, d4] => { results := [.lit (.bool false)], args := [d1, d2, d3, d4] }
  | _ => none }
def EventMissedWrongFalsely : Prop := eventMissedRow.holds Try.pinned (OpenSpec.ofChange eventMissedWrong)

/-- 'poacherlaw16.EventFirst': WHATEVER THE INPUT: true; the input reads as it did. -/
def eventFirstSpec : ChangeSpec := { name := "eventFirst", fn := fun _ => fun
  | [d1, d2, d3] => { results := [.lit (.bool true)], args := [d1, d2, d3] }
  | _ => none }
def eventFirstRow : OpenClaim := { program := "ythnifkacfonhgaa", sum := "38a79decc322074a806a4f2b7c134d07a3cf272378f1ca625035d9647dc1ee3d", func := "poacher/poacherlaw16.EventFirst", spec := "eventFirst", unfollowed := true, recurses := true, apart := false }
def EventFirstSaid : Prop := eventFirstRow.holds Try.pinned (OpenSpec.ofChange eventFirstSpec)

/-- ITS FALSE NEIGHBOUR: 'it returns false'. Refute it at one input. -/
def eventFirstWrong : ChangeSpec := { name := "eventFirst", fn := fun _ => fun
  | [d1, d2, d3] => { results := [.lit (.bool false)], args := [d1, d2, d3] }
  | _ => none }
def EventFirstWrongFalsely : Prop := eventFirstRow.holds Try.pinned (OpenSpec.ofChange eventFirstWrong)

/-- 'poacherlaw16.EventNobody': WHATEVER THE INPUT: true; the input reads as it did. -/
def eventNobodySpec : ChangeSpec := { name := "eventNobody", fn := fun _ => fun
  | [d1, d2, d3] => { results := [.lit (.bool true)], args := [d1, d2, d3] }
  | _ => none }
def eventNobodyRow : OpenClaim := { program := "ythnifkacfonhgaa", sum := "38a79decc322074a806a4f2b7c134d07a3cf272378f1ca625035d9647dc1ee3d", func := "poacher/poacherlaw16.EventNobody", spec := "eventNobody", unfollowed := true, recurses := true, apart := false }
def EventNobodySaid : Prop := eventNobodyRow.holds Try.pinned (OpenSpec.ofChange eventNobodySpec)

/-- ITS FALSE NEIGHBOUR: 'it returns false'. Refute it at one input. -/
def eventNobodyWrong : ChangeSpec := { name := "eventNobody", fn := fun _ => fun
  | [d1, d2, d3] => { results := [.lit (.bool false)], args := [d1, d2, d3] }
  | _ => none }
def EventNobodyWrongFalsely : Prop := eventNobodyRow.holds Try.pinned (OpenSpec.ofChange eventNobodyWrong)

/-- 'poacherlaw16.EventWho': WHATEVER THE INPUT: true; the input reads as it did. -/
def eventWhoSpec : ChangeSpec := { name := "eventWho", fn := fun _ => fun
  | [d1, d2, d3] => { results := [.lit (.bool true)], args := [d1, d2, d3] }
  | _ => none }
def eventWhoRow : OpenClaim := { program := "ythnifkacfonhgaa", sum := "38a79decc322074a806a4f2b7c134d07a3cf272378f1ca625035d9647dc1ee3d", func := "poacher/poacherlaw16.EventWho", spec := "eventWho", unfollowed := true, recurses := true, apart := false }
def EventWhoSaid : Prop := eventWhoRow.holds Try.pinned (OpenSpec.ofChange eventWhoSpec)

/-- ITS FALSE NEIGHBOUR: 'it returns false'. Refute it at one input. -/
def eventWhoWrong : ChangeSpec := { name := "eventWho", fn := fun _ => fun
  | [d1, d2, d3] => { results := [.lit (.bool false)], args := [d1, d2, d3] }
  | _ => none }
def EventWhoWrongFalsely : Prop := eventWhoRow.holds Try.pinned (OpenSpec.ofChange eventWhoWrong)

/- THE SECOND FORM. 'bulk': how many values and letters a reading holds, each counted each time it is reached (what is shared counts as often as it is met; a slice's spare places count too). A statement '..UptoSaid' is the law's where the arguments, and the package variables that the reading takes, are together of bulk at most 1048576: NARROWER than '..Said'. Prove '..Said' where nothing that the law and all that it calls make is longer than what came in: it says more and counts as full. Else prove '..UptoSaid'. A law counts once. -/
mutual
def uptoBulk {H : Type} : DataW H → Nat
  | .lit (.string bytes) => bytes.length + 1
  | .lit _ => 1
  | .nil => 1
  | .ptr d => uptoBulk d + 1
  | .slice elems spare => uptoBulkAll elems + uptoBulkAll spare + 1
  | .agg parts => uptoBulkAll parts + 1
  | .iface _ d => uptoBulk d + 1
  | .map entries => uptoBulkEntries entries + 1
  | .held _ => 1
def uptoBulkAll {H : Type} : List (DataW H) → Nat
  | [] => 0
  | d :: r => uptoBulk d + uptoBulkAll r
def uptoBulkEntries {H : Type} : List (Lit × DataW H) → Nat
  | [] => 0
  | x :: r => uptoBulkEntry x + uptoBulkEntries r
def uptoBulkEntry {H : Type} : Lit × DataW H → Nat
  | (.string bytes, d) => bytes.length + uptoBulk d + 1
  | (_, d) => uptoBulk d + 1
 end
def uptoSmall : (H : Type) → List (DataW H) → Bool := fun _ ds => decide (uptoBulkAll ds ≤ 1048576)
def OpenSpec.upto (s : _root_.Go.ChangeSpec) : _root_.Go.OpenSpec := { _root_.Go.OpenSpec.ofChange s with cond := some uptoSmall }

/-- 'poacherlaw14.WaitTells', WHERE WHAT IT READS IS OF BULK AT MOST 1048576: true; the input reads as it did. -/
def waitTellsUptoRow : OpenClaim := { program := "ythnifkacfonhgaa", sum := "38a79decc322074a806a4f2b7c134d07a3cf272378f1ca625035d9647dc1ee3d", func := "poacher/poacherlaw14.WaitTells", spec := "waitTells", unfollowed := true, recurses := true, apart := false, narrowed := true }
def WaitTellsUptoSaid : Prop := waitTellsUptoRow.holds Try.pinned (OpenSpec.upto waitTellsSpec)

/-- 'poacherlaw14.WaitCells', WHERE WHAT IT READS IS OF BULK AT MOST 1048576: true; the input reads as it did. -/
def waitCellsUptoRow : OpenClaim := { program := "ythnifkacfonhgaa", sum := "38a79decc322074a806a4f2b7c134d07a3cf272378f1ca625035d9647dc1ee3d", func := "poacher/poacherlaw14.WaitCells", spec := "waitCells", unfollowed := true, recurses := true, apart := false, narrowed := true }
def WaitCellsUptoSaid : Prop := waitCellsUptoRow.holds Try.pinned (OpenSpec.upto waitCellsSpec)

/-- 'poacherlaw14.WaitTwo', WHERE WHAT IT READS IS OF BULK AT MOST 1048576: true; the input reads as it did. -/
def waitTwoUptoRow : OpenClaim := { program := "ythnifkacfonhgaa", sum := "38a79decc322074a806a4f2b7c134d07a3cf272378f1ca625035d9647dc1ee3d", func := "poacher/poacherlaw14.WaitTwo", spec := "waitTwo", unfollowed := true, recurses := true, apart := false, narrowed := true }
def WaitTwoUptoSaid : Prop := waitTwoUptoRow.holds Try.pinned (OpenSpec.upto waitTwoSpec)

/-- 'poacherlaw14.WaitAlone', WHERE WHAT IT READS IS OF BULK AT MOST 1048576: true; the input reads as it did. -/
def waitAloneUptoRow : OpenClaim := { program := "ythnifkacfonhgaa", sum := "38a79decc322074a806a4f2b7c134d07a3cf272378f1ca625035d9647dc1ee3d", func := "poacher/poacherlaw14.WaitAlone", spec := "waitAlone", unfollowed := true, recurses := true, apart := false, narrowed := true }
def WaitAloneUptoSaid : Prop := waitAloneUptoRow.holds Try.pinned (OpenSpec.upto waitAloneSpec)

/-- 'poacherlaw14.WaitMissed', WHERE WHAT IT READS IS OF BULK AT MOST 1048576: true; the input reads as it did. -/
def waitMissedUptoRow : OpenClaim := { program := "ythnifkacfonhgaa", sum := "38a79decc322074a806a4f2b7c134d07a3cf272378f1ca625035d9647dc1ee3d", func := "poacher/poacherlaw14.WaitMissed", spec := "waitMissed", unfollowed := true, recurses := true, apart := false, narrowed := true }
def WaitMissedUptoSaid : Prop := waitMissedUptoRow.holds Try.pinned (OpenSpec.upto waitMissedSpec)

/-- 'poacherlaw14.WaitAgain', WHERE WHAT IT READS IS OF BULK AT MOST 1048576: true; the input reads as it did. -/
def waitAgainUptoRow : OpenClaim := { program := "ythnifkacfonhgaa", sum := "38a79decc322074a806a4f2b7c134d07a3cf272378f1ca625035d9647dc1ee3d", func := "poacher/poacherlaw14.WaitAgain", spec := "waitAgain", unfollowed := true, recurses := true, apart := false, narrowed := true }
def WaitAgainUptoSaid : Prop := waitAgainUptoRow.holds Try.pinned (OpenSpec.upto waitAgainSpec)

/-- 'poacherlaw15.NoteCells', WHERE WHAT IT READS IS OF BULK AT MOST 1048576: true; the input reads as it did. -/
def noteCellsUptoRow : OpenClaim := { program := "ythnifkacfonhgaa", sum := "38a79decc322074a806a4f2b7c134d07a3cf272378f1ca625035d9647dc1ee3d", func := "poacher/poacherlaw15.NoteCells", spec := "noteCells", unfollowed := true, recurses := true, apart := false, narrowed := true }
def NoteCellsUptoSaid : Prop := noteCellsUptoRow.holds Try.pinned (OpenSpec.upto noteCellsSpec)

/-- 'poacherlaw15.NoteOwed', WHERE WHAT IT READS IS OF BULK AT MOST 1048576: true; the input reads as it did. -/
def noteOwedUptoRow : OpenClaim := { program := "ythnifkacfonhgaa", sum := "38a79decc322074a806a4f2b7c134d07a3cf272378f1ca625035d9647dc1ee3d", func := "poacher/poacherlaw15.NoteOwed", spec := "noteOwed", unfollowed := true, recurses := true, apart := false, narrowed := true }
def NoteOwedUptoSaid : Prop := noteOwedUptoRow.holds Try.pinned (OpenSpec.upto noteOwedSpec)

/-- 'poacherlaw15.NoteOne', WHERE WHAT IT READS IS OF BULK AT MOST 1048576: true; the input reads as it did. -/
def noteOneUptoRow : OpenClaim := { program := "ythnifkacfonhgaa", sum := "38a79decc322074a806a4f2b7c134d07a3cf272378f1ca625035d9647dc1ee3d", func := "poacher/poacherlaw15.NoteOne", spec := "noteOne", unfollowed := true, recurses := true, apart := false, narrowed := true }
def NoteOneUptoSaid : Prop := noteOneUptoRow.holds Try.pinned (OpenSpec.upto noteOneSpec)

/-- 'poacherlaw15.NoteAgain', WHERE WHAT IT READS IS OF BULK AT MOST 1048576: true; the input reads as it did. -/
def noteAgainUptoRow : OpenClaim := { program := "ythnifkacfonhgaa", sum := "38a79decc322074a806a4f2b7c134d07a3cf272378f1ca625035d9647dc1ee3d", func := "poacher/poacherlaw15.NoteAgain", spec := "noteAgain", unfollowed := true, recurses := true, apart := false, narrowed := true }
def NoteAgainUptoSaid : Prop := noteAgainUptoRow.holds Try.pinned (OpenSpec.upto noteAgainSpec)

/-- 'poacherlaw15.NoteBetween', WHERE WHAT IT READS IS OF BULK AT MOST 1048576: true; the input reads as it did. -/
def noteBetweenUptoRow : OpenClaim := { program := "ythnifkacfonhgaa", sum := "38a79decc322074a806a4f2b7c134d07a3cf272378f1ca625035d9647dc1ee3d", func := "poacher/poacherlaw15.NoteBetween", spec := "noteBetween", unfollowed := true, recurses := true, apart := false, narrowed := true }
def NoteBetweenUptoSaid : Prop := noteBetweenUptoRow.holds Try.pinned (OpenSpec.upto noteBetweenSpec)

/-- 'poacherlaw16.EventSigns', WHERE WHAT IT READS IS OF BULK AT MOST 1048576: true; the input reads as it did. -/
def eventSignsUptoRow : OpenClaim := { program := "ythnifkacfonhgaa", sum := "38a79decc322074a806a4f2b7c134d07a3cf272378f1ca625035d9647dc1ee3d", func := "poacher/poacherlaw16.EventSigns", spec := "eventSigns", unfollowed := true, recurses := true, apart := false, narrowed := true }
def EventSignsUptoSaid : Prop := eventSignsUptoRow.holds Try.pinned (OpenSpec.upto eventSignsSpec)

/-- 'poacherlaw16.EventWakes', WHERE WHAT IT READS IS OF BULK AT MOST 1048576: true; the input reads as it did. -/
def eventWakesUptoRow : OpenClaim := { program := "ythnifkacfonhgaa", sum := "38a79decc322074a806a4f2b7c134d07a3cf272378f1ca625035d9647dc1ee3d", func := "poacher/poacherlaw16.EventWakes", spec := "eventWakes", unfollowed := true, recurses := true, apart := false, narrowed := true }
def EventWakesUptoSaid : Prop := eventWakesUptoRow.holds Try.pinned (OpenSpec.upto eventWakesSpec)

/-- 'poacherlaw16.EventMissed', WHERE WHAT IT READS IS OF BULK AT MOST 1048576: true; the input reads as it did. -/
def eventMissedUptoRow : OpenClaim := { program := "ythnifkacfonhgaa", sum := "38a79decc322074a806a4f2b7c134d07a3cf272378f1ca625035d9647dc1ee3d", func := "poacher/poacherlaw16.EventMissed", spec := "eventMissed", unfollowed := true, recurses := true, apart := false, narrowed := true }
def EventMissedUptoSaid : Prop := eventMissedUptoRow.holds Try.pinned (OpenSpec.upto eventMissedSpec)

/-- 'poacherlaw16.EventFirst', WHERE WHAT IT READS IS OF BULK AT MOST 1048576: true; the input reads as it did. -/
def eventFirstUptoRow : OpenClaim := { program := "ythnifkacfonhgaa", sum := "38a79decc322074a806a4f2b7c134d07a3cf272378f1ca625035d9647dc1ee3d", func := "poacher/poacherlaw16.EventFirst", spec := "eventFirst", unfollowed := true, recurses := true, apart := false, narrowed := true }
def EventFirstUptoSaid : Prop := eventFirstUptoRow.holds Try.pinned (OpenSpec.upto eventFirstSpec)

/-- 'poacherlaw16.EventNobody', WHERE WHAT IT READS IS OF BULK AT MOST 1048576: true; the input reads as it did. -/
def eventNobodyUptoRow : OpenClaim := { program := "ythnifkacfonhgaa", sum := "38a79decc322074a806a4f2b7c134d07a3cf272378f1ca625035d9647dc1ee3d", func := "poacher/poacherlaw16.EventNobody", spec := "eventNobody", unfollowed := true, recurses := true, apart := false, narrowed := true }
def EventNobodyUptoSaid : Prop := eventNobodyUptoRow.holds Try.pinned (OpenSpec.upto eventNobodySpec)

/-- 'poacherlaw16.EventWho', WHERE WHAT IT READS IS OF BULK AT MOST 1048576: true; the input reads as it did. -/
def eventWhoUptoRow : OpenClaim := { program := "ythnifkacfonhgaa", sum := "38a79decc322074a806a4f2b7c134d07a3cf272378f1ca625035d9647dc1ee3d", func := "poacher/poacherlaw16.EventWho", spec := "eventWho", unfollowed := true, recurses := true, apart := false, narrowed := true }
def EventWhoUptoSaid : Prop := eventWhoUptoRow.holds Try.pinned (OpenSpec.upto eventWhoSpec)

end Rows
end Go.Proofs.Ythnifkacfonhgaa
