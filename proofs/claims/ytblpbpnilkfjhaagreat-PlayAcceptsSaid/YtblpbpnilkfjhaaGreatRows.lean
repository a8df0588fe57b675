/-
  No cell of these rows narrows 'for every input' (looked for: loops, veiled, ifaces, maps, wideKeys, modest, calm, conditions, laid).
  DERIVED. THE GIVEN ROWS OF THIS SEAT. 12 by the template 'for every input the law returns true; each argument reads behind the call as it read before'; 0 by the template 'total and deterministic' (their statements: YtblpbpnilkfjhaaGreatTotals.lean).
  GIVEN WITH THE SEED: the statements are not yours to turn. If you find one false, say at which input.
  Laid BY PROGRAM, IN A SANDBOX (cutbox-rows.mjs): the forced cells as the released guide's own fill.sh prints them over the translation 262263049105806b… (all of the seat's roots in one cut). By AI agents, Wed Nov 11 2026. No macro, syntax, notation, axiom, sorry.
-/
import Derived.Test.YtblpbpnilkfjhaaGreatChecked
import GoSem.Claim
import GoSem.ClaimJoined
import GoSem.ClaimMapViews
import Derived.JoinedTies
import Derived.KernelRfl
namespace Go.Proofs.YtblpbpnilkfjhaaGreat
/- THE CELL 'sum', in the pinned program and in every row, IS THE sha256 OF THE DUMP (.gsa) THAT YtblpbpnilkfjhaaGreatProg.lean LOADS. Nothing in Lean hashes anything: it is a label: what it is worth is what the hold of that sum in a sandbox is worth. -/
noncomputable def Tryz.pinned : Pinned := { name := "ytblpbpnilkfjhaagreat", sum := "262263049105806bcb4e68145f7e333c336a7de479dc49d8eb37e5d89824cac7", checked := Tryz.checked }
namespace Rows
def none {H : Type} : Left H := { results := [], args := [] }

/-- 'poacherlaw20.PoolParts': WHATEVER THE INPUT: true; the input reads as it did. -/
def poolPartsSpec : ChangeSpec := { name := "poolParts", fn := fun _ => fun
  | [d1, d2, d3] => { results := [.lit (.bool true)], args := [d1, d2, d3] }
  | _ => none }
def poolPartsRow : OpenClaim := { program := "ytblpbpnilkfjhaagreat", sum := "262263049105806bcb4e68145f7e333c336a7de479dc49d8eb37e5d89824cac7", func := "poacher/poacherlaw20.PoolParts", spec := "poolParts", unfollowed := true, recurses := true, apart := false }
def PoolPartsSaid : Prop := poolPartsRow.holds Tryz.pinned (OpenSpec.ofChange poolPartsSpec)

/-- ITS FALSE NEIGHBOUR: 'it returns false'. Refute it at one input. -/
def poolPartsWrong : ChangeSpec := { name := "poolParts", fn := fun _ => fun
  | [d1, d2, d3] => { results := [.lit (.bool false)], args := [d1, d2, d3] }
  | _ => none }
def PoolPartsWrongFalsely : Prop := poolPartsRow.holds Tryz.pinned (OpenSpec.ofChange poolPartsWrong)

/-- 'poacherlaw20.PoolAwake': WHATEVER THE INPUT: true; the input reads as it did. -/
def poolAwakeSpec : ChangeSpec := { name := "poolAwake", fn := fun _ => fun
  | [d1, d2, d3, d4] => { results := [.lit (.bool true)], args := [d1, d2, d3, d4] }
  | _ => none }
def poolAwakeRow : OpenClaim := { program := "ytblpbpnilkfjhaagreat", sum := "262263049105806bcb4e68145f7e333c336a7de479dc49d8eb37e5d89824cac7", func := "poacher/poacherlaw20.PoolAwake", spec := "poolAwake", unfollowed := true, recurses := true, apart := false }
def PoolAwakeSaid : Prop := poolAwakeRow.holds Tryz.pinned (OpenSpec.ofChange poolAwakeSpec)

/-- ITS FALSE NEIGHBOUR: 'it returns false'. Refute it at one input. -/
def poolAwakeWrong : ChangeSpec := { name := "poolAwake", fn := fun _ => fun
  | [d1, d2, d3, d4] => { results := [.lit (.bool false)], args := [d1, d2, d3, d4] }
  | _ => none }
def PoolAwakeWrongFalsely : Prop := poolAwakeRow.holds Tryz.pinned (OpenSpec.ofChange poolAwakeWrong)

/-- 'poacherlaw20.PoolPending': WHATEVER THE INPUT: true; the input reads as it did. -/
def poolPendingSpec : ChangeSpec := { name := "poolPending", fn := fun _ => fun
  | [d1, d2, d3, d4] => { results := [.lit (.bool true)], args := [d1, d2, d3, d4] }
  | _ => none }
def poolPendingRow : OpenClaim := { program := "ytblpbpnilkfjhaagreat", sum := "262263049105806bcb4e68145f7e333c336a7de479dc49d8eb37e5d89824cac7", func := "poacher/poacherlaw20.PoolPending", spec := "poolPending", unfollowed := true, recurses := true, apart := false }
def PoolPendingSaid : Prop := poolPendingRow.holds Tryz.pinned (OpenSpec.ofChange poolPendingSpec)

/-- ITS FALSE NEIGHBOUR: 'it returns false'. Refute it at one input. -/
def poolPendingWrong : ChangeSpec := { name := "poolPending", fn := fun _ => fun
  | [d1, d2, d3, d4] => { results := [.lit (.bool false)], args := [d1, d2, d3, d4] }
  | _ => none }
def PoolPendingWrongFalsely : Prop := poolPendingRow.holds Tryz.pinned (OpenSpec.ofChange poolPendingWrong)

/-- 'poacherlaw20.PoolClosed': WHATEVER THE INPUT: true; the input reads as it did. -/
def poolClosedSpec : ChangeSpec := { name := "poolClosed", fn := fun _ => fun
  | [d1, d2, d3, d4, d5] => { results := [.lit (.bool true)], args := [d1, d2, d3, d4, d5] }
  | _ => none }
def poolClosedRow : OpenClaim := { program := "ytblpbpnilkfjhaagreat", sum := "262263049105806bcb4e68145f7e333c336a7de479dc49d8eb37e5d89824cac7", func := "poacher/poacherlaw20.PoolClosed", spec := "poolClosed", unfollowed := true, recurses := true, apart := false }
def PoolClosedSaid : Prop := poolClosedRow.holds Tryz.pinned (OpenSpec.ofChange poolClosedSpec)

/-- ITS FALSE NEIGHBOUR: 'it returns false'. Refute it at one input. -/
def poolClosedWrong : ChangeSpec := { name := "poolClosed", fn := fun _ => fun
  | [d1, d2, d3, d4, d5] => { results := [.lit (.bool false)], args := [d1, d2, d3, d4, d5] }
  | _ => none }
def PoolClosedWrongFalsely : Prop := poolClosedRow.holds Tryz.pinned (OpenSpec.ofChange poolClosedWrong)

/-- 'poacherlaw20.PoolNew': WHATEVER THE INPUT: true; the input reads as it did. -/
def poolNewSpec : ChangeSpec := { name := "poolNew", fn := fun _ => fun
  | [d1, d2, d3] => { results := [.lit (.bool true)], args := [d1, d2, d3] }
  | _ => none }
def poolNewRow : OpenClaim := { program := "ytblpbpnilkfjhaagreat", sum := "262263049105806bcb4e68145f7e333c336a7de479dc49d8eb37e5d89824cac7", func := "poacher/poacherlaw20.PoolNew", spec := "poolNew", unfollowed := true, recurses := true, apart := false }
def PoolNewSaid : Prop := poolNewRow.holds Tryz.pinned (OpenSpec.ofChange poolNewSpec)

/-- ITS FALSE NEIGHBOUR: 'it returns false'. Refute it at one input. -/
def poolNewWrong : ChangeSpec := { name := "poolNew", fn := fun _ => fun
  | [d1, d2, d3] => { results := [.lit (.bool false)], args := [d1, d2, d3] }
  | _ => none }
def PoolNewWrongFalsely : Prop := poolNewRow.holds Tryz.pinned (OpenSpec.ofChange poolNewWrong)

/-- 'poacherlaw20.PoolCounts': WHATEVER THE INPUT: true; the input reads as it did. -/
def poolCountsSpec : ChangeSpec := { name := "poolCounts", fn := fun _ => fun
  | [d1, d2, d3, d4] => { results := [.lit (.bool true)], args := [d1, d2, d3, d4] }
  | _ => none }
def poolCountsRow : OpenClaim := { program := "ytblpbpnilkfjhaagreat", sum := "262263049105806bcb4e68145f7e333c336a7de479dc49d8eb37e5d89824cac7", func := "poacher/poacherlaw20.PoolCounts", spec := "poolCounts", unfollowed := true, recurses := true, apart := false }
def PoolCountsSaid : Prop := poolCountsRow.holds Tryz.pinned (OpenSpec.ofChange poolCountsSpec)

/-- ITS FALSE NEIGHBOUR: 'it returns false'. Refute it at one input. -/
def poolCountsWrong : ChangeSpec := { name := "poolCounts", fn := fun _ => fun
  | [d1, d2, d3, d4] => { results := [.lit (.bool false)], args := [d1, d2, d3, d4] }
  | _ => none }
def PoolCountsWrongFalsely : Prop := poolCountsRow.holds Tryz.pinned (OpenSpec.ofChange poolCountsWrong)

/-- 'poacherlaw22.PlayAwake': WHATEVER THE INPUT: true; the input reads as it did. -/
def playAwakeSpec : ChangeSpec := { name := "playAwake", fn := fun _ => fun
  | [d1, d2, d3, d4, d5] => { results := [.lit (.bool true)], args := [d1, d2, d3, d4, d5] }
  | _ => none }
def playAwakeRow : OpenClaim := { program := "ytblpbpnilkfjhaagreat", sum := "262263049105806bcb4e68145f7e333c336a7de479dc49d8eb37e5d89824cac7", func := "poacher/poacherlaw22.PlayAwake", spec := "playAwake", unfollowed := true, recurses := true, apart := false }
def PlayAwakeSaid : Prop := playAwakeRow.holds Tryz.pinned (OpenSpec.ofChange playAwakeSpec)

/-- ITS FALSE NEIGHBOUR: 'it returns false'. Refute it at one input. -/
def playAwakeWrong : ChangeSpec := { name := "playAwake", fn := fun _ => fun
  | [d1, d2, d3, d4, d5] => { results := [.lit (.bool false)], args := [d1, d2, d3, d4, d5] }
  | _ => none }
def PlayAwakeWrongFalsely : Prop := playAwakeRow.holds Tryz.pinned (OpenSpec.ofChange playAwakeWrong)

/-- 'poacherlaw22.PlayRounds': WHATEVER THE INPUT: true; the input reads as it did. -/
def playRoundsSpec : ChangeSpec := { name := "playRounds", fn := fun _ => fun
  | [d1, d2, d3, d4, d5, d6] => { results := [.lit (.bool true)], args := [d1, d2, d3, d4, d5, d6] }
  | _ => none }
def playRoundsRow : OpenClaim := { program := "ytblpbpnilkfjhaagreat", sum := "262263049105806bcb4e68145f7e333c336a7de479dc49d8eb37e5d89824cac7", func := "poacher/poacherlaw22.PlayRounds", spec := "playRounds", unfollowed := true, recurses := true, apart := false }
def PlayRoundsSaid : Prop := playRoundsRow.holds Tryz.pinned (OpenSpec.ofChange playRoundsSpec)

/-- ITS FALSE NEIGHBOUR: 'it returns false'. Refute it at one input. -/
def playRoundsWrong : ChangeSpec := { name := "playRounds", fn := fun _ => fun
  | [d1, d2, d3, d4, d5, d6] => { results := [.lit (.bool false)], args := [d1, d2, d3, d4, d5, d6] }
  | _ => none }
def PlayRoundsWrongFalsely : Prop := playRoundsRow.holds Tryz.pinned (OpenSpec.ofChange playRoundsWrong)

/-- 'poacherlaw22.PlayLeft': WHATEVER THE INPUT: true; the input reads as it did. -/
def playLeftSpec : ChangeSpec := { name := "playLeft", fn := fun _ => fun
  | [d1, d2, d3, d4] => { results := [.lit (.bool true)], args := [d1, d2, d3, d4] }
  | _ => none }
def playLeftRow : OpenClaim := { program := "ytblpbpnilkfjhaagreat", sum := "262263049105806bcb4e68145f7e333c336a7de479dc49d8eb37e5d89824cac7", func := "poacher/poacherlaw22.PlayLeft", spec := "playLeft", unfollowed := true, recurses := true, apart := false }
def PlayLeftSaid : Prop := playLeftRow.holds Tryz.pinned (OpenSpec.ofChange playLeftSpec)

/-- ITS FALSE NEIGHBOUR: 'it returns false'. Refute it at one input. -/
def playLeftWrong : ChangeSpec := { name := "playLeft", fn := fun _ => fun
  | [d1, d2, d3, d4] => { results := [.lit (.bool false)], args := [d1, d2, d3, d4] }
  | _ => none }
def PlayLeftWrongFalsely : Prop := playLeftRow.holds Tryz.pinned (OpenSpec.ofChange playLeftWrong)

/-- 'poacherlaw22.PlayRests': WHATEVER THE INPUT: true; the input reads as it did. -/
def playRestsSpec : ChangeSpec := { name := "playRests", fn := fun _ => fun
  | [d1, d2, d3, d4, d5] => { results := [.lit (.bool true)], args := [d1, d2, d3, d4, d5] }
  | _ => none }
def playRestsRow : OpenClaim := { program := "ytblpbpnilkfjhaagreat", sum := "262263049105806bcb4e68145f7e333c336a7de479dc49d8eb37e5d89824cac7", func := "poacher/poacherlaw22.PlayRests", spec := "playRests", unfollowed := true, recurses := true, apart := false }
def PlayRestsSaid : Prop := playRestsRow.holds Tryz.pinned (OpenSpec.ofChange playRestsSpec)

/-- ITS FALSE NEIGHBOUR: 'it returns false'. Refute it at one input. -/
def playRestsWrong : ChangeSpec := { name := "playRests", fn := fun _ => fun
  | [d1, d2, d3, d4, d5] => { results := [.lit (.bool false)], args := [d1, d2, d3, d4, d5] }
  | _ => none }
def PlayRestsWrongFalsely : Prop := playRestsRow.holds Tryz.pinned (OpenSpec.ofChange playRestsWrong)

/-- 'poacherlaw22.PlayDecodes': WHATEVER THE INPUT: true; the input reads as it did. -/
def playDecodesSpec : ChangeSpec := { name := "playDecodes", fn := fun _ => fun
  | [d1, d2, d3, d4, d5, d6] => { results := [.lit (.bool true)], args := [d1, d2, d3, d4, d5, d6] }
  | _ => none }
def playDecodesRow : OpenClaim := { program := "ytblpbpnilkfjhaagreat", sum := "262263049105806bcb4e68145f7e333c336a7de479dc49d8eb37e5d89824cac7", func := "poacher/poacherlaw22.PlayDecodes", spec := "playDecodes", unfollowed := true, recurses := true, apart := false }
def PlayDecodesSaid : Prop := playDecodesRow.holds Tryz.pinned (OpenSpec.ofChange playDecodesSpec)

/-- ITS FALSE NEIGHBOUR: 'it returns false'. Refute it at one input. -/
def playDecodesWrong : ChangeSpec := { name := "playDecodes", fn := fun _ => fun
  | [d1, d2, d3, d4, d5, d6] => { results := [.lit (.bool false)], args := [d1, d2, d3, d4, d5, d6] }
  | _ => none }
def PlayDecodesWrongFalsely : Prop := playDecodesRow.holds Tryz.pinned (OpenSpec.ofChange playDecodesWrong)

/-- 'poacherlaw22.PlayAccepts': WHATEVER THE INPUT: true; the input reads as it did. -/
def playAcceptsSpec : ChangeSpec := { name := "playAccepts", fn := fun _ => fun
  | [d1, d2, d3, d4, d5] => { results := [.lit (.bool true)], args := [d1, d2, d3, d4, d5] }
  | _ => none }
def playAcceptsRow : OpenClaim := { program := "ytblpbpnilkfjhaagreat", sum := "262263049105806bcb4e68145f7e333c336a7de479dc49d8eb37e5d89824cac7", func := "poacher/poacherlaw22.PlayAccepts", spec := "playAccepts", unfollowed := true, recurses := true, apart := false }
def PlayAcceptsSaid : Prop := playAcceptsRow.holds Tryz.pinned (OpenSpec.ofChange playAcceptsSpec)

/-- ITS FALSE NEIGHBOUR: 'it returns false'. Refute it at one input. -/
def playAcceptsWrong : ChangeSpec := { name := "playAccepts", fn := fun _ => fun
  | [d1, d2, d3, d4, d5] => { results := [.lit (.bool false)], args := [d1, d2, d3, d4, d5] }
  | _ => none }
def PlayAcceptsWrongFalsely : Prop := playAcceptsRow.holds Tryz.pinned (OpenSpec.ofChange playAcceptsWrong)

/- THE SECOND FORM. 'bulk': how many values and letters a reading holds, each counted each time it is reached (what is shared counts as often as it is met; a slice's spare places count too). A statement '..UptoSaid' is the law's where the arguments, and the package variables that the reading takes, are together of bulk at most 1048576: NARROWER than '..Said'. Prove '..Said' where nothing that the law and all that it calls make is longer than what came in: it says more and counts as full. Else prove '..UptoSaid'. A law counts once. -/
mutual
def uptoBulk {H : Type} : DataW H → Nat
  | .lit (.string bytes) => bytes.length + 1
  | .lit _ => 1
  | .nil => 1
  | .ptr d => uptoBulk d + 1
  | .slice elems spare => uptoBulkAll elems + uptoBulkAll spare + 1
  | .agg parts => uptoBulkAll parts + 1
  | .iface _ d => uptoBulk d + 1
  | .map entries => uptoBulkEntries entries + 1
  | .held _ => 1
def uptoBulkAll {H : Type} : List (DataW H) → Nat
  | [] => 0
  | d :: r => uptoBulk d + uptoBulkAll r
def uptoBulkEntries {H : Type} : List (Lit × DataW H) → Nat
  | [] => 0
  | x :: r => uptoBulkEntry x + uptoBulkEntries r
def uptoBulkEntry {H : Type} : Lit × DataW H → Nat
  | (.string bytes, d) => bytes.length + uptoBulk d + 1
  | (_, d) => uptoBulk d + 1
 end
def uptoSmall : (H : Type) → List (DataW H) → Bool := fun _ ds => decide (uptoBulkAll ds ≤ 1048576)
def OpenSpec.upto (s : _root_.Go.ChangeSpec) : _root_.Go.OpenSpec := { _root_.Go.OpenSpec.ofChange s with cond := some uptoSmall }

/-- 'poacherlaw20.PoolParts', WHERE WHAT IT READS IS OF BULK AT MOST 1048576: true; the input reads as it did. -/
def poolPartsUptoRow : OpenClaim := { program := "ytblpbpnilkfjhaagreat", sum := "262263049105806bcb4e68145f7e333c336a7de479dc49d8eb37e5d89824cac7", func := "poacher/poacherlaw20.PoolParts", spec := "poolParts", unfollowed := true, recurses := true, apart := false, narrowed := true }
def PoolPartsUptoSaid : Prop := poolPartsUptoRow.holds Tryz.pinned (OpenSpec.upto poolPartsSpec)

/-- 'poacherlaw20.PoolAwake', WHERE WHAT IT READS IS OF BULK AT MOST 1048576: true; the input reads as it did. -/
def poolAwakeUptoRow : OpenClaim := { program := "ytblpbpnilkfjhaagreat", sum := "262263049105806bcb4e68145f7e333c336a7de479dc49d8eb37e5d89824cac7", func := "poacher/poacherlaw20.PoolAwake", spec := "poolAwake", unfollowed := true, recurses := true, apart := false, narrowed := true }
def PoolAwakeUptoSaid : Prop := poolAwakeUptoRow.holds Tryz.pinned (OpenSpec.upto poolAwakeSpec)

/-- 'poacherlaw20.PoolPending', WHERE WHAT IT READS IS OF BULK AT MOST 1048576: true; the input reads as it did. -/
def poolPendingUptoRow : OpenClaim := { program := "ytblpbpnilkfjhaagreat", sum := "262263049105806bcb4e68145f7e333c336a7de479dc49d8eb37e5d89824cac7", func := "poacher/poacherlaw20.PoolPending", spec := "poolPending", unfollowed := true, recurses := true, apart := false, narrowed := true }
def PoolPendingUptoSaid : Prop := poolPendingUptoRow.holds Tryz.pinned (OpenSpec.upto poolPendingSpec)

/-- 'poacherlaw20.PoolClosed', WHERE WHAT IT READS IS OF BULK AT MOST 1048576: true; the input reads as it did. -/
def poolClosedUptoRow : OpenClaim := { program := "ytblpbpnilkfjhaagreat", sum := "262263049105806bcb4e68145f7e333c336a7de479dc49d8eb37e5d89824cac7", func := "poacher/poacherlaw20.PoolClosed", spec := "poolClosed", unfollowed := true, recurses := true, apart := false, narrowed := true }
def PoolClosedUptoSaid : Prop := poolClosedUptoRow.holds Tryz.pinned (OpenSpec.upto poolClosedSpec)

/-- 'poacherlaw20.PoolNew', WHERE WHAT IT READS IS OF BULK AT MOST 1048576: true; the input reads as it did. -/
def poolNewUptoRow : OpenClaim := { program := "ytblpbpnilkfjhaagreat", sum := "262263049105806bcb4e68145f7e333c336a7de479dc49d8eb37e5d89824cac7", func := "poacher/poacherlaw20.PoolNew", spec := "poolNew", unfollowed := true, recurses := true, apart := false, narrowed := true }
def PoolNewUptoSaid : Prop := poolNewUptoRow.holds Tryz.pinned (OpenSpec.upto poolNewSpec)

/-- 'poacherlaw20.PoolCounts', WHERE WHAT IT READS IS OF BULK AT MOST 1048576: true; the input reads as it did. -/
def poolCountsUptoRow : OpenClaim := { program := "ytblpbpnilkfjhaagreat", sum := "262263049105806bcb4e68145f7e333c336a7de479dc49d8eb37e5d89824cac7", func := "poacher/poacherlaw20.PoolCounts", spec := "poolCounts", unfollowed := true, recurses := true, apart := false, narrowed := true }
def PoolCountsUptoSaid : Prop := poolCountsUptoRow.holds Tryz.pinned (OpenSpec.upto poolCountsSpec)

/-- 'poacherlaw22.PlayAwake', WHERE WHAT IT READS IS OF BULK AT MOST 1048576: true; the input reads as it did. -/
def playAwakeUptoRow : OpenClaim := { program := "ytblpbpnilkfjhaagreat", sum := "262263049105806bcb4e68145f7e333c336a7de479dc49d8eb37e5d89824cac7", func := "poacher/poacherlaw22.PlayAwake", spec := "playAwake", unfollowed := true, recurses := true, apart := false, narrowed := true }
def PlayAwakeUptoSaid : Prop := playAwakeUptoRow.holds Tryz.pinned (OpenSpec.upto playAwakeSpec)

/-- 'poacherlaw22.PlayRounds', WHERE WHAT IT READS IS OF BULK AT MOST 1048576: true; the input reads as it did. -/
def playRoundsUptoRow : OpenClaim := { program := "ytblpbpnilkfjhaagreat", sum := "262263049105806bcb4e68145f7e333c336a7de479dc49d8eb37e5d89824cac7", func := "poacher/poacherlaw22.PlayRounds", spec := "playRounds", unfollowed := true, recurses := true, apart := false, narrowed := true }
def PlayRoundsUptoSaid : Prop := playRoundsUptoRow.holds Tryz.pinned (OpenSpec.upto playRoundsSpec)

/-- 'poacherlaw22.PlayLeft', WHERE WHAT IT READS IS OF BULK AT MOST 1048576: true; the input reads as it did. -/
def playLeftUptoRow : OpenClaim := { program := "ytblpbpnilkfjhaagreat", sum := "262263049105806bcb4e68145f7e333c336a7de479dc49d8eb37e5d89824cac7", func := "poacher/poacherlaw22.PlayLeft", spec := "playLeft", unfollowed := true, recurses := true, apart := false, narrowed := true }
def PlayLeftUptoSaid : Prop := playLeftUptoRow.holds Tryz.pinned (OpenSpec.upto playLeftSpec)

/-- 'poacherlaw22.PlayRests', WHERE WHAT IT READS IS OF BULK AT MOST 1048576: true; the input reads as it did. -/
def playRestsUptoRow : OpenClaim := { program := "ytblpbpnilkfjhaagreat", sum := "262263049105806bcb4e68145f7e333c336a7de479dc49d8eb37e5d89824cac7", func := "poacher/poacherlaw22.PlayRests", spec := "playRests", unfollowed := true, recurses := true, apart := false, narrowed := true }
def PlayRestsUptoSaid : Prop := playRestsUptoRow.holds Tryz.pinned (OpenSpec.upto playRestsSpec)

/-- 'poacherlaw22.PlayDecodes', WHERE WHAT IT READS IS OF BULK AT MOST 1048576: true; the input reads as it did. -/
def playDecodesUptoRow : OpenClaim := { program := "ytblpbpnilkfjhaagreat", sum := "262263049105806bcb4e68145f7e333c336a7de479dc49d8eb37e5d89824cac7", func := "poacher/poacherlaw22.PlayDecodes", spec := "playDecodes", unfollowed := true, recurses := true, apart := false, narrowed := true }
def PlayDecodesUptoSaid : Prop := playDecodesUptoRow.holds Tryz.pinned (OpenSpec.upto playDecodesSpec)

/-- 'poacherlaw22.PlayAccepts', WHERE WHAT IT READS IS OF BULK AT MOST 1048576: true; the input reads as it did. -/
def playAcceptsUptoRow : OpenClaim := { program := "ytblpbpnilkfjhaagreat", sum := "262263049105806bcb4e68145f7e333c336a7de479dc49d8eb37e5d89824cac7", func := "poacher/poacherlaw22.PlayAccepts", spec := "playAccepts", unfollowed := true, recurses := true, apart := false, narrowed := true }
def PlayAcceptsUptoSaid : Prop := playAcceptsUptoRow.holds Tryz.pinned (OpenSpec.upto playAcceptsSpec)

end Rows
end Go.Proofs.YtblpbpnilkfjhaaGreat
