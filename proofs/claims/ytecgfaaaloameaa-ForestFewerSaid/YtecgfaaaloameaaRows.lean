/-
  No cell of these rows narrows 'for every input' (looked for: loops, veiled, ifaces, maps, wideKeys, modest, calm, conditions, laid).
  DERIVED. THE GIVEN ROWS OF THIS SEAT. 20 by the template 'for every input the law returns true; each argument reads behind the call as it read before'; 0 by the template 'total and deterministic' (their statements: YtecgfaaaloameaaTotals.lean).
  GIVEN WITH THE SEED: the statements are not yours to turn. If you find one false, say at which input.
  Laid BY PROGRAM, IN A SANDBOX (cutbox-rows.mjs): the forced cells as the released guide's own fill.sh prints them over the translation 9cbbcdb76c61da03… (all of the seat's roots in one cut). By AI agents, Wed Nov 11 2026. No macro, syntax, notation, axiom, sorry.
-/
import Derived.Test.YtecgfaaaloameaaChecked
import GoSem.Claim
import GoSem.ClaimJoined
import GoSem.ClaimMapViews
import Derived.JoinedTies
import Derived.KernelRfl
namespace Go.Proofs.Ytecgfaaaloameaa
/- THE CELL 'sum', in the pinned program and in every row, IS THE sha256 OF THE DUMP (.gsa) THAT YtecgfaaaloameaaProg.lean LOADS. Nothing in Lean hashes anything: it is a label: what it is worth is what the hold of that sum in a sandbox is worth. -/
noncomputable def Try.pinned : Pinned := { name := "ytecgfaaaloameaa", sum := "9cbbcdb76c61da03dbaf3e8a0f3a8639e2b49640e767670ecfcc75f850a65cd1", checked := Try.checked }
namespace Rows
def none {H : Type} : Left H := { results := [], args := [] }

/-- 'poacherlaw21.ModelTells': WHATEVER THE INPUT: true; the input reads as it did. -/
def modelTellsSpec : ChangeSpec := { name := "modelTells", fn := fun _ => fun
  | [d1, d2, d3, d4] => { results := [.lit (.bool true)], args := [d1, d2, d3, d4] }
  | _ => none }
def modelTellsRow : OpenClaim := { program := "ytecgfaaaloameaa", sum := "9cbbcdb76c61da03dbaf3e8a0f3a8639e2b49640e767670ecfcc75f850a65cd1", func := "poacher/poacherlaw21.ModelTells", spec := "modelTells", unfollowed := true, recurses := true, apart := false }
def ModelTellsSaid : Prop := modelTellsRow.holds Try.pinned (OpenSpec.ofChange modelTellsSpec)

/-- ITS FALSE NEIGHBOUR: 'it returns false'. Refute it at one input. -/
def modelTellsWrong : ChangeSpec := { name := "modelTells", fn := fun _ => fun
  | [d1, d2, d3, d4] => { results := [.lit (.bool false)], args := [d1, d2, d3, d4] }
  | _ => none }
def ModelTellsWrongFalsely : Prop := modelTellsRow.holds Try.pinned (OpenSpec.ofChange modelTellsWrong)

/-- 'poacherlaw21.ModelFirst': WHATEVER THE INPUT: true; the input reads as it did. -/
def modelFirstSpec : ChangeSpec := { name := "modelFirst", fn := fun _ => fun
  | [d1, d2, d3, d4] => { results := [.lit (.bool true)], args := [d1, d2, d3, d4] }
  | _ => none }
def modelFirstRow : OpenClaim := { program := "ytecgfaaaloameaa", sum := "9cbbcdb76c61da03dbaf3e8a0f3a8639e2b49640e767670ecfcc75f850a65cd1", func := "poacher/poacherlaw21.ModelFirst", spec := "modelFirst", unfollowed := true, recurses := true, apart := false }
def ModelFirstSaid : Prop := modelFirstRow.holds Try.pinned (OpenSpec.ofChange modelFirstSpec)

/-- ITS FALSE NEIGHBOUR: 'it returns false'. Refute it at one input. -/
def modelFirstWrong : ChangeSpec := { name := "modelFirst", fn := fun _ => fun
  | [d1, d2, d3, d4] => { results := [.lit (.bool false)], args := [d1, d2, d3, d4] }
  | _ => none }
def ModelFirstWrongFalsely : Prop := modelFirstRow.holds Try.pinned (OpenSpec.ofChange modelFirstWrong)

/-- 'poacherlaw21.ModelOnce': WHATEVER THE INPUT: true; the input reads as it did. -/
def modelOnceSpec : ChangeSpec := { name := "modelOnce", fn := fun _ => fun
  | [d1, d2, d3] => { results := [.lit (.bool true)], args := [d1, d2, d3] }
  | _ => none }
def modelOnceRow : OpenClaim := { program := "ytecgfaaaloameaa", sum := "9cbbcdb76c61da03dbaf3e8a0f3a8639e2b49640e767670ecfcc75f850a65cd1", func := "poacher/poacherlaw21.ModelOnce", spec := "modelOnce", unfollowed := true, recurses := true, apart := false }
def ModelOnceSaid : Prop := modelOnceRow.holds Try.pinned (OpenSpec.ofChange modelOnceSpec)

/-- ITS FALSE NEIGHBOUR: 'it returns false'. Refute it at one input. -/
def modelOnceWrong : ChangeSpec := { name := "modelOnce", fn := fun _ => fun
  | [d1, d2, d3] => { results := [.lit (.bool false)], args := [d1, d2, d3] }
  | _ => none }
def ModelOnceWrongFalsely : Prop := modelOnceRow.holds Try.pinned (OpenSpec.ofChange modelOnceWrong)

/-- 'poacherlaw21.ModelIdle': WHATEVER THE INPUT: true; the input reads as it did. -/
def modelIdleSpec : ChangeSpec := { name := "modelIdle", fn := fun _ => fun
  | [d1, d2] => { results := [.lit (.bool true)], args := [d1, d2] }
  | _ => none }
def modelIdleRow : OpenClaim := { program := "ytecgfaaaloameaa", sum := "9cbbcdb76c61da03dbaf3e8a0f3a8639e2b49640e767670ecfcc75f850a65cd1", func := "poacher/poacherlaw21.ModelIdle", spec := "modelIdle", unfollowed := true, recurses := true, apart := false }
def ModelIdleSaid : Prop := modelIdleRow.holds Try.pinned (OpenSpec.ofChange modelIdleSpec)

/-- ITS FALSE NEIGHBOUR: 'it returns false'. Refute it at one input. -/
def modelIdleWrong : ChangeSpec := { name := "modelIdle", fn := fun _ => fun
  | [d1, d2] => { results := [.lit (.bool false)], args := [d1, d2] }
  | _ => none }
def ModelIdleWrongFalsely : Prop := modelIdleRow.holds Try.pinned (OpenSpec.ofChange modelIdleWrong)

/-- 'poacherlaw21.ModelOther': WHATEVER THE INPUT: true; the input reads as it did. -/
def modelOtherSpec : ChangeSpec := { name := "modelOther", fn := fun _ => fun
  | [d1, d2, d3, d4] => { results := [.lit (.bool true)], args := [d1, d2, d3, d4] }
  | _ => none }
def modelOtherRow : OpenClaim := { program := "ytecgfaaaloameaa", sum := "9cbbcdb76c61da03dbaf3e8a0f3a8639e2b49640e767670ecfcc75f850a65cd1", func := "poacher/poacherlaw21.ModelOther", spec := "modelOther", unfollowed := true, recurses := true, apart := false }
def ModelOtherSaid : Prop := modelOtherRow.holds Try.pinned (OpenSpec.ofChange modelOtherSpec)

/-- ITS FALSE NEIGHBOUR: 'it returns false'. Refute it at one input. -/
def modelOtherWrong : ChangeSpec := { name := "modelOther", fn := fun _ => fun
  | [d1, d2, d3, d4] => { results := [.lit (.bool false)], args := [d1, d2, d3, d4] }
  | _ => none }
def ModelOtherWrongFalsely : Prop := modelOtherRow.holds Try.pinned (OpenSpec.ofChange modelOtherWrong)

/-- 'poacherlaw21.ModelWho': WHATEVER THE INPUT: true; the input reads as it did. -/
def modelWhoSpec : ChangeSpec := { name := "modelWho", fn := fun _ => fun
  | [d1, d2, d3, d4] => { results := [.lit (.bool true)], args := [d1, d2, d3, d4] }
  | _ => none }
def modelWhoRow : OpenClaim := { program := "ytecgfaaaloameaa", sum := "9cbbcdb76c61da03dbaf3e8a0f3a8639e2b49640e767670ecfcc75f850a65cd1", func := "poacher/poacherlaw21.ModelWho", spec := "modelWho", unfollowed := true, recurses := true, apart := false }
def ModelWhoSaid : Prop := modelWhoRow.holds Try.pinned (OpenSpec.ofChange modelWhoSpec)

/-- ITS FALSE NEIGHBOUR: 'it returns false'. Refute it at one input. -/
def modelWhoWrong : ChangeSpec := { name := "modelWho", fn := fun _ => fun
  | [d1, d2, d3, d4] => { results := [.lit (.bool false)], args := [d1, d2, d3, d4] }
  | _ => none }
def ModelWhoWrongFalsely : Prop := modelWhoRow.holds Try.pinned (OpenSpec.ofChange modelWhoWrong)

/-- 'poacherlaw21.ModelRoots': WHATEVER THE INPUT: true; the input reads as it did. -/
def modelRootsSpec : ChangeSpec := { name := "modelRoots", fn := fun _ => fun
  | [d1, d2, d3] => { results := [.lit (.bool true)], args := [d1, d2, d3] }
  | _ => none }
def modelRootsRow : OpenClaim := { program := "ytecgfaaaloameaa", sum := "9cbbcdb76c61da03dbaf3e8a0f3a8639e2b49640e767670ecfcc75f850a65cd1", func := "poacher/poacherlaw21.ModelRoots", spec := "modelRoots", unfollowed := true, recurses := true, apart := false }
def ModelRootsSaid : Prop := modelRootsRow.holds Try.pinned (OpenSpec.ofChange modelRootsSpec)

/-- ITS FALSE NEIGHBOUR: 'it returns false'. Refute it at one input. -/
def modelRootsWrong : ChangeSpec := { name := "modelRoots", fn := fun _ => fun
  | [d1, d2, d3] => { results := [.lit (.bool false)], args := [d1, d2, d3] }
  | _ => none }
def ModelRootsWrongFalsely : Prop := modelRootsRow.holds Try.pinned (OpenSpec.ofChange modelRootsWrong)

/-- 'poacherlaw17.ThinkTells': WHATEVER THE INPUT: true; the input reads as it did. -/
def thinkTellsSpec : ChangeSpec := { name := "thinkTells", fn := fun _ => fun
  | [d1, d2, d3, d4] => { results := [.lit (.bool true)], args := [d1, d2, d3, d4] }
  | _ => none }
def thinkTellsRow : OpenClaim := { program := "ytecgfaaaloameaa", sum := "9cbbcdb76c61da03dbaf3e8a0f3a8639e2b49640e767670ecfcc75f850a65cd1", func := "poacher/poacherlaw17.ThinkTells", spec := "thinkTells", unfollowed := true, recurses := true, apart := false }
def ThinkTellsSaid : Prop := thinkTellsRow.holds Try.pinned (OpenSpec.ofChange thinkTellsSpec)

/-- ITS FALSE NEIGHBOUR: 'it returns false'. Refute it at one input. -/
def thinkTellsWrong : ChangeSpec := { name := "thinkTells", fn := fun _ => fun
  | [d1, d2, d3, d4] => { results := [.lit (.bool false)], args := [d1, d2, d3, d4] }
  | _ => none }
def ThinkTellsWrongFalsely : Prop := thinkTellsRow.holds Try.pinned (OpenSpec.ofChange thinkTellsWrong)

/-- 'poacherlaw17.ThinkLess': WHATEVER THE INPUT: true; the input reads as it did. -/
def thinkLessSpec : ChangeSpec := { name := "thinkLess", fn := fun _ => fun
  | [d1, d2] => { results := [.lit (.bool true)], args := [d1, d2] }
  | _ => none }
def thinkLessRow : OpenClaim := { program := "ytecgfaaaloameaa", sum := "9cbbcdb76c61da03dbaf3e8a0f3a8639e2b49640e767670ecfcc75f850a65cd1", func := "poacher/poacherlaw17.ThinkLess", spec := "thinkLess", unfollowed := true, recurses := true, apart := false }
def ThinkLessSaid : Prop := thinkLessRow.holds Try.pinned (OpenSpec.ofChange thinkLessSpec)

/-- ITS FALSE NEIGHBOUR: 'it returns false'. Refute it at one input. -/
def thinkLessWrong : ChangeSpec := { name := "thinkLess", fn := fun _ => fun
  | [d1, d2] => { results := [.lit (.bool false)], args := [d1, d2] }
  | _ => none }
def ThinkLessWrongFalsely : Prop := thinkLessRow.holds Try.pinned (OpenSpec.ofChange thinkLessWrong)

/-- 'poacherlaw17.ThinkSpawns': WHATEVER THE INPUT: true; the input reads as it did. -/
def thinkSpawnsSpec : ChangeSpec := { name := "thinkSpawns", fn := fun _ => fun
  | [d1, d2, d3] => { results := [.lit (.bool true)], args := [d1, d2, d3] }
  | _ => none }
def thinkSpawnsRow : OpenClaim := { program := "ytecgfaaaloameaa", sum := "9cbbcdb76c61da03dbaf3e8a0f3a8639e2b49640e767670ecfcc75f850a65cd1", func := "poacher/poacherlaw17.ThinkSpawns", spec := "thinkSpawns", unfollowed := true, recurses := true, apart := false }
def ThinkSpawnsSaid : Prop := thinkSpawnsRow.holds Try.pinned (OpenSpec.ofChange thinkSpawnsSpec)

/-- ITS FALSE NEIGHBOUR: 'it returns false'. Refute it at one input. -/
def thinkSpawnsWrong : ChangeSpec := { name := "thinkSpawns", fn := fun _ => fun
  | [d1, d2, d3] => { results := [.lit (.bool false)], args := [d1, d2, d3] }
  | _ => none }
def ThinkSpawnsWrongFalsely : Prop := thinkSpawnsRow.holds Try.pinned (OpenSpec.ofChange thinkSpawnsWrong)

/-- 'poacherlaw17.ThinkStart': WHATEVER THE INPUT: true; the input reads as it did. -/
def thinkStartSpec : ChangeSpec := { name := "thinkStart", fn := fun _ => fun
  | [d1, d2, d3, d4] => { results := [.lit (.bool true)], args := [d1, d2, d3, d4] }
  | _ => none }
def thinkStartRow : OpenClaim := { program := "ytecgfaaaloameaa", sum := "9cbbcdb76c61da03dbaf3e8a0f3a8639e2b49640e767670ecfcc75f850a65cd1", func := "poacher/poacherlaw17.ThinkStart", spec := "thinkStart", unfollowed := true, recurses := true, apart := false }
def ThinkStartSaid : Prop := thinkStartRow.holds Try.pinned (OpenSpec.ofChange thinkStartSpec)

/-- ITS FALSE NEIGHBOUR: 'it returns false'. Refute it at one input. -/
def thinkStartWrong : ChangeSpec := { name := "thinkStart", fn := fun _ => fun
  | [d1, d2, d3, d4] => { results := [.lit (.bool false)], args := [d1, d2, d3, d4] }
  | _ => none }
def ThinkStartWrongFalsely : Prop := thinkStartRow.holds Try.pinned (OpenSpec.ofChange thinkStartWrong)

/-- 'poacherlaw17.ThinkLast': WHATEVER THE INPUT: true; the input reads as it did. -/
def thinkLastSpec : ChangeSpec := { name := "thinkLast", fn := fun _ => fun
  | [d1, d2] => { results := [.lit (.bool true)], args := [d1, d2] }
  | _ => none }
def thinkLastRow : OpenClaim := { program := "ytecgfaaaloameaa", sum := "9cbbcdb76c61da03dbaf3e8a0f3a8639e2b49640e767670ecfcc75f850a65cd1", func := "poacher/poacherlaw17.ThinkLast", spec := "thinkLast", unfollowed := true, recurses := true, apart := false }
def ThinkLastSaid : Prop := thinkLastRow.holds Try.pinned (OpenSpec.ofChange thinkLastSpec)

/-- ITS FALSE NEIGHBOUR: 'it returns false'. Refute it at one input. -/
def thinkLastWrong : ChangeSpec := { name := "thinkLast", fn := fun _ => fun
  | [d1, d2] => { results := [.lit (.bool false)], args := [d1, d2] }
  | _ => none }
def ThinkLastWrongFalsely : Prop := thinkLastRow.holds Try.pinned (OpenSpec.ofChange thinkLastWrong)

/-- 'poacherlaw17.ThinkNone': WHATEVER THE INPUT: true; the input reads as it did. -/
def thinkNoneSpec : ChangeSpec := { name := "thinkNone", fn := fun _ => fun
  | [d1, d2, d3] => { results := [.lit (.bool true)], args := [d1, d2, d3] }
  | _ => none }
def thinkNoneRow : OpenClaim := { program := "ytecgfaaaloameaa", sum := "9cbbcdb76c61da03dbaf3e8a0f3a8639e2b49640e767670ecfcc75f850a65cd1", func := "poacher/poacherlaw17.ThinkNone", spec := "thinkNone", unfollowed := true, recurses := true, apart := false }
def ThinkNoneSaid : Prop := thinkNoneRow.holds Try.pinned (OpenSpec.ofChange thinkNoneSpec)

/-- ITS FALSE NEIGHBOUR: 'it returns false'. Refute it at one input. -/
def thinkNoneWrong : ChangeSpec := { name := "thinkNone", fn := fun _ => fun
  | [d1, d2, d3] => { results := [.lit (.bool false)], args := [d1, d2, d3] }
  | _ => none }
def ThinkNoneWrongFalsely : Prop := thinkNoneRow.holds Try.pinned (OpenSpec.ofChange thinkNoneWrong)

/-- 'poacherlaw04.ForestTells': WHATEVER THE INPUT: true; the input reads as it did. -/
def forestTellsSpec : ChangeSpec := { name := "forestTells", fn := fun _ => fun
  | [d1, d2, d3] => { results := [.lit (.bool true)], args := [d1, d2, d3] }
  | _ => none }
def forestTellsRow : OpenClaim := { program := "ytecgfaaaloameaa", sum := "9cbbcdb76c61da03dbaf3e8a0f3a8639e2b49640e767670ecfcc75f850a65cd1", func := "poacher/poacherlaw04.ForestTells", spec := "forestTells", unfollowed := true, recurses := true, apart := false }
def ForestTellsSaid : Prop := forestTellsRow.holds Try.pinned (OpenSpec.ofChange forestTellsSpec)

/-- ITS FALSE NEIGHBOUR: 'it returns false'. Refute it at one input. -/
def forestTellsWrong : ChangeSpec := { name := "forestTells", fn := fun _ => fun
  | [d1, d2, d3] => { results := [.lit (.bool false)], args := [d1, d2, d3] }
  | _ => none }
def ForestTellsWrongFalsely : Prop := forestTellsRow.holds Try.pinned (OpenSpec.ofChange forestTellsWrong)

/-- 'poacherlaw04.ForestOnce': WHATEVER THE INPUT: true; the input reads as it did. -/
def forestOnceSpec : ChangeSpec := { name := "forestOnce", fn := fun _ => fun
  | [d1, d2] => { results := [.lit (.bool true)], args := [d1, d2] }
  | _ => none }
def forestOnceRow : OpenClaim := { program := "ytecgfaaaloameaa", sum := "9cbbcdb76c61da03dbaf3e8a0f3a8639e2b49640e767670ecfcc75f850a65cd1", func := "poacher/poacherlaw04.ForestOnce", spec := "forestOnce", unfollowed := true, recurses := true, apart := false }
def ForestOnceSaid : Prop := forestOnceRow.holds Try.pinned (OpenSpec.ofChange forestOnceSpec)

/-- ITS FALSE NEIGHBOUR: 'it returns false'. Refute it at one input. -/
def forestOnceWrong : ChangeSpec := { name := "forestOnce", fn := fun _ => fun
  | [d1, d2] => { results := [.lit (.bool false)], args := [d1, d2] }
  | _ => none }
def ForestOnceWrongFalsely : Prop := forestOnceRow.holds Try.pinned (OpenSpec.ofChange forestOnceWrong)

/-- 'poacherlaw04.ForestUnder': WHATEVER THE INPUT: true; the input reads as it did. -/
def forestUnderSpec : ChangeSpec := { name := "forestUnder", fn := fun _ => fun
  | [d1, d2, d3] => { results := [.lit (.bool true)], args := [d1, d2, d3] }
  | _ => none }
def forestUnderRow : OpenClaim := { program := "ytecgfaaaloameaa", sum := "9cbbcdb76c61da03dbaf3e8a0f3a8639e2b49640e767670ecfcc75f850a65cd1", func := "poacher/poacherlaw04.ForestUnder", spec := "forestUnder", unfollowed := true, recurses := true, apart := false }
def ForestUnderSaid : Prop := forestUnderRow.holds Try.pinned (OpenSpec.ofChange forestUnderSpec)

/-- ITS FALSE NEIGHBOUR: 'it returns false'. Refute it at one input. -/
def forestUnderWrong : ChangeSpec := { name := "forestUnder", fn := fun _ => fun
  | [d1, d2, d3] => { results := [.lit (.bool false)], args := [d1, d2, d3] }
  | _ => none }
def ForestUnderWrongFalsely : Prop := forestUnderRow.holds Try.pinned (OpenSpec.ofChange forestUnderWrong)

/-- 'poacherlaw04.ForestFewer': WHATEVER THE INPUT: true; the input reads as it did. -/
def forestFewerSpec : ChangeSpec := { name := "forestFewer", fn := fun _ => fun
  | [d] => { results := [.lit (.bool true)], args := [d] }
  | _ => none }
def forestFewerRow : OpenClaim := { program := "ytecgfaaaloameaa", sum := "9cbbcdb76c61da03dbaf3e8a0f3a8639e2b49640e767670ecfcc75f850a65cd1", func := "poacher/poacherlaw04.ForestFewer", spec := "forestFewer", unfollowed := true, recurses := true, apart := false }
def ForestFewerSaid : Prop := forestFewerRow.holds Try.pinned (OpenSpec.ofChange forestFewerSpec)

/-- ITS FALSE NEIGHBOUR: 'it returns false'. Refute it at one input. -/
def forestFewerWrong : ChangeSpec := { name := "forestFewer", fn := fun _ => fun
  | [d] => { results := [.lit (.bool false)], args := [d] }
  | _ => none }
def ForestFewerWrongFalsely : Prop := forestFewerRow.holds Try.pinned (OpenSpec.ofChange forestFewerWrong)

/-- 'poacherlaw04.ForestRoots': WHATEVER THE INPUT: true; the input reads as it did. -/
def forestRootsSpec : ChangeSpec := { name := "forestRoots", fn := fun _ => fun
  | [d1, d2] => { results := [.lit (.bool true)], args := [d1, d2] }
  | _ => none }
def forestRootsRow : OpenClaim := { program := "ytecgfaaaloameaa", sum := "9cbbcdb76c61da03dbaf3e8a0f3a8639e2b49640e767670ecfcc75f850a65cd1", func := "poacher/poacherlaw04.ForestRoots", spec := "forestRoots", unfollowed := true, recurses := true, apart := false }
def ForestRootsSaid : Prop := forestRootsRow.holds Try.pinned (OpenSpec.ofChange forestRootsSpec)

/-- ITS FALSE NEIGHBOUR: 'it returns false'. Refute it at one input. -/
def forestRootsWrong : ChangeSpec := { name := "forestRoots", fn := fun _ => fun
  | [d1, d2] => { results := [.lit (.bool false)], args := [d1, d2] }
  | _ => none }
def ForestRootsWrongFalsely : Prop := forestRootsRow.holds Try.pinned (OpenSpec.ofChange forestRootsWrong)

/-- 'poacherlaw04.ForestMore': WHATEVER THE INPUT: true; the input reads as it did. -/
def forestMoreSpec : ChangeSpec := { name := "forestMore", fn := fun _ => fun
  | [d1, d2, d3] => { results := [.lit (.bool true)], args := [d1, d2, d3] }
  | _ => none }
def forestMoreRow : OpenClaim := { program := "ytecgfaaaloameaa", sum := "9cbbcdb76c61da03dbaf3e8a0f3a8639e2b49640e767670ecfcc75f850a65cd1", func := "poacher/poacherlaw04.ForestMore", spec := "forestMore", unfollowed := true, recurses := true, apart := false }
def ForestMoreSaid : Prop := forestMoreRow.holds Try.pinned (OpenSpec.ofChange forestMoreSpec)

/-- ITS FALSE NEIGHBOUR: 'it returns false'. Refute it at one input. -/
def forestMoreWrong : ChangeSpec := { name := "forestMore", fn := fun _ => fun
  | [d1, d2, d3] => { results := [.lit (.bool false)], args := [d1, d2, d3] }
  | _ => none }
def ForestMoreWrongFalsely : Prop := forestMoreRow.holds Try.pinned (OpenSpec.ofChange forestMoreWrong)

/-- 'poacherlaw04.ForestSums': WHATEVER THE INPUT: true; the input reads as it did. -/
def forestSumsSpec : ChangeSpec := { name := "forestSums", fn := fun _ => fun
  | [d] => { results := [.lit (.bool true)], args := [d] }
  | _ => none }
def forestSumsRow : OpenClaim := { program := "ytecgfaaaloameaa", sum := "9cbbcdb76c61da03dbaf3e8a0f3a8639e2b49640e767670ecfcc75f850a65cd1", func := "poacher/poacherlaw04.ForestSums", spec := "forestSums", unfollowed := true, recurses := true, apart := false }
def ForestSumsSaid : Prop := forestSumsRow.holds Try.pinned (OpenSpec.ofChange forestSumsSpec)

/-- ITS FALSE NEIGHBOUR: 'it returns false'. Refute it at one input. -/
def forestSumsWrong : ChangeSpec := { name := "forestSums", fn := fun _ => fun
  | [d] => { results := [.lit (.bool false)], args := [d] }
  | _ => none }
def ForestSumsWrongFalsely : Prop := forestSumsRow.holds Try.pinned (OpenSpec.ofChange forestSumsWrong)

/- THE SECOND FORM. 'bulk': how many values and letters a reading holds, each counted each time it is reached (what is shared counts as often as it is met; a slice's spare places count too). A statement '..UptoSaid' is the law's where the arguments, and the package variables that the reading takes, are together of bulk at most 1048576: NARROWER than '..Said'. Prove '..Said' where nothing that the law and all that it calls make is longer than what came in: it says more and counts as full. Else prove '..UptoSaid'. A law counts once. -/
mutual
def uptoBulk {H : Type} : DataW H → Nat
  | .lit (.string bytes) => bytes.length + 1
  | .lit _ => 1
  | .nil => 1
  | .ptr d => uptoBulk d + 1
  | .slice elems spare => uptoBulkAll elems + uptoBulkAll spare + 1
  | .agg parts => uptoBulkAll parts + 1
  | .iface _ d => uptoBulk d + 1
  | .map entries => uptoBulkEntries entries + 1
  | .held _ => 1
def uptoBulkAll {H : Type} : List (DataW H) → Nat
  | [] => 0
  | d :: r => uptoBulk d + uptoBulkAll r
def uptoBulkEntries {H : Type} : List (Lit × DataW H) → Nat
  | [] => 0
  | x :: r => uptoBulkEntry x + uptoBulkEntries r
def uptoBulkEntry {H : Type} : Lit × DataW H → Nat
  | (.string bytes, d) => bytes.length + uptoBulk d + 1
  | (_, d) => uptoBulk d + 1
 end
def uptoSmall : (H : Type) → List (DataW H) → Bool := fun _ ds => decide (uptoBulkAll ds ≤ 1048576)
def OpenSpec.upto (s : _root_.Go.ChangeSpec) : _root_.Go.OpenSpec := { _root_.Go.OpenSpec.ofChange s with cond := some uptoSmall }

/-- 'poacherlaw21.ModelTells', WHERE WHAT IT READS IS OF BULK AT MOST 1048576: true; the input reads as it did. -/
def modelTellsUptoRow : OpenClaim := { program := "ytecgfaaaloameaa", sum := "9cbbcdb76c61da03dbaf3e8a0f3a8639e2b49640e767670ecfcc75f850a65cd1", func := "poacher/poacherlaw21.ModelTells", spec := "modelTells", unfollowed := true, recurses := true, apart := false, narrowed := true }
def ModelTellsUptoSaid : Prop := modelTellsUptoRow.holds Try.pinned (OpenSpec.upto modelTellsSpec)

/-- 'poacherlaw21.ModelFirst', WHERE WHAT IT READS IS OF BULK AT MOST 1048576: true; the input reads as it did. -/
def modelFirstUptoRow : OpenClaim := { program := "ytecgfaaaloameaa", sum := "9cbbcdb76c61da03dbaf3e8a0f3a8639e2b49640e767670ecfcc75f850a65cd1", func := "poacher/poacherlaw21.ModelFirst", spec := "modelFirst", unfollowed := true, recurses := true, apart := false, narrowed := true }
def ModelFirstUptoSaid : Prop := modelFirstUptoRow.holds Try.pinned (OpenSpec.upto modelFirstSpec)

/-- 'poacherlaw21.ModelOnce', WHERE WHAT IT READS IS OF BULK AT MOST 1048576: true; the input reads as it did. -/
def modelOnceUptoRow : OpenClaim := { program := "ytecgfaaaloameaa", sum := "9cbbcdb76c61da03dbaf3e8a0f3a8639e2b49640e767670ecfcc75f850a65cd1", func := "poacher/poacherlaw21.ModelOnce", spec := "modelOnce", unfollowed := true, recurses := true, apart := false, narrowed := true }
def ModelOnceUptoSaid : Prop := modelOnceUptoRow.holds Try.pinned (OpenSpec.upto modelOnceSpec)

/-- 'poacherlaw21.ModelIdle', WHERE WHAT IT READS IS OF BULK AT MOST 1048576: true; the input reads as it did. -/
def modelIdleUptoRow : OpenClaim := { program := "ytecgfaaaloameaa", sum := "9cbbcdb76c61da03dbaf3e8a0f3a8639e2b49640e767670ecfcc75f850a65cd1", func := "poacher/poacherlaw21.ModelIdle", spec := "modelIdle", unfollowed := true, recurses := true, apart := false, narrowed := true }
def ModelIdleUptoSaid : Prop := modelIdleUptoRow.holds Try.pinned (OpenSpec.upto modelIdleSpec)

/-- 'poacherlaw21.ModelOther', WHERE WHAT IT READS IS OF BULK AT MOST 1048576: true; the input reads as it did. -/
def modelOtherUptoRow : OpenClaim := { program := "ytecgfaaaloameaa", sum := "9cbbcdb76c61da03dbaf3e8a0f3a8639e2b49640e767670ecfcc75f850a65cd1", func := "poacher/poacherlaw21.ModelOther", spec := "modelOther", unfollowed := true, recurses := true, apart := false, narrowed := true }
def ModelOtherUptoSaid : Prop := modelOtherUptoRow.holds Try.pinned (OpenSpec.upto modelOtherSpec)

/-- 'poacherlaw21.ModelWho', WHERE WHAT IT READS IS OF BULK AT MOST 1048576: true; the input reads as it did. -/
def modelWhoUptoRow : OpenClaim := { program := "ytecgfaaaloameaa", sum := "9cbbcdb76c61da03dbaf3e8a0f3a8639e2b49640e767670ecfcc75f850a65cd1", func := "poacher/poacherlaw21.ModelWho", spec := "modelWho", unfollowed := true, recurses := true, apart := false, narrowed := true }
def ModelWhoUptoSaid : Prop := modelWhoUptoRow.holds Try.pinned (OpenSpec.upto modelWhoSpec)

/-- 'poacherlaw21.ModelRoots', WHERE WHAT IT READS IS OF BULK AT MOST 1048576: true; the input reads as it did. -/
def modelRootsUptoRow : OpenClaim := { program := "ytecgfaaaloameaa", sum := "9cbbcdb76c61da03dbaf3e8a0f3a8639e2b49640e767670ecfcc75f850a65cd1", func := "poacher/poacherlaw21.ModelRoots", spec := "modelRoots", unfollowed := true, recurses := true, apart := false, narrowed := true }
def ModelRootsUptoSaid : Prop := modelRootsUptoRow.holds Try.pinned (OpenSpec.upto modelRootsSpec)

/-- 'poacherlaw17.ThinkTells', WHERE WHAT IT READS IS OF BULK AT MOST 1048576: true; the input reads as it did. -/
def thinkTellsUptoRow : OpenClaim := { program := "ytecgfaaaloameaa", sum := "9cbbcdb76c61da03dbaf3e8a0f3a8639e2b49640e767670ecfcc75f850a65cd1", func := "poacher/poacherlaw17.ThinkTells", spec := "thinkTells", unfollowed := true, recurses := true, apart := false, narrowed := true }
def ThinkTellsUptoSaid : Prop := thinkTellsUptoRow.holds Try.pinned (OpenSpec.upto thinkTellsSpec)

/-- 'poacherlaw17.ThinkLess', WHERE WHAT IT READS IS OF BULK AT MOST 1048576: true; the input reads as it did. -/
def thinkLessUptoRow : OpenClaim := { program := "ytecgfaaaloameaa", sum := "9cbbcdb76c61da03dbaf3e8a0f3a8639e2b49640e767670ecfcc75f850a65cd1", func := "poacher/poacherlaw17.ThinkLess", spec := "thinkLess", unfollowed := true, recurses := true, apart := false, narrowed := true }
def ThinkLessUptoSaid : Prop := thinkLessUptoRow.holds Try.pinned (OpenSpec.upto thinkLessSpec)

/-- 'poacherlaw17.ThinkSpawns', WHERE WHAT IT READS IS OF BULK AT MOST 1048576: true; the input reads as it did. -/
def thinkSpawnsUptoRow : OpenClaim := { program := "ytecgfaaaloameaa", sum := "9cbbcdb76c61da03dbaf3e8a0f3a8639e2b49640e767670ecfcc75f850a65cd1", func := "poacher/poacherlaw17.ThinkSpawns", spec := "thinkSpawns", unfollowed := true, recurses := true, apart := false, narrowed := true }
def ThinkSpawnsUptoSaid : Prop := thinkSpawnsUptoRow.holds Try.pinned (OpenSpec.upto thinkSpawnsSpec)

/-- 'poacherlaw17.ThinkStart', WHERE WHAT IT READS IS OF BULK AT MOST 1048576: true; the input reads as it did. -/
def thinkStartUptoRow : OpenClaim := { program := "ytecgfaaaloameaa", sum := "9cbbcdb76c61da03dbaf3e8a0f3a8639e2b49640e767670ecfcc75f850a65cd1", func := "poacher/poacherlaw17.ThinkStart", spec := "thinkStart", unfollowed := true, recurses := true, apart := false, narrowed := true }
def ThinkStartUptoSaid : Prop := thinkStartUptoRow.holds Try.pinned (OpenSpec.upto thinkStartSpec)

/-- 'poacherlaw17.ThinkLast', WHERE WHAT IT READS IS OF BULK AT MOST 1048576: true; the input reads as it did. -/
def thinkLastUptoRow : OpenClaim := { program := "ytecgfaaaloameaa", sum := "9cbbcdb76c61da03dbaf3e8a0f3a8639e2b49640e767670ecfcc75f850a65cd1", func := "poacher/poacherlaw17.ThinkLast", spec := "thinkLast", unfollowed := true, recurses := true, apart := false, narrowed := true }
def ThinkLastUptoSaid : Prop := thinkLastUptoRow.holds Try.pinned (OpenSpec.upto thinkLastSpec)

/-- 'poacherlaw17.ThinkNone', WHERE WHAT IT READS IS OF BULK AT MOST 1048576: true; the input reads as it did. -/
def thinkNoneUptoRow : OpenClaim := { program := "ytecgfaaaloameaa", sum := "9cbbcdb76c61da03dbaf3e8a0f3a8639e2b49640e767670ecfcc75f850a65cd1", func := "poacher/poacherlaw17.ThinkNone", spec := "thinkNone", unfollowed := true, recurses := true, apart := false, narrowed := true }
def ThinkNoneUptoSaid : Prop := thinkNoneUptoRow.holds Try.pinned (OpenSpec.upto thinkNoneSpec)

/-- 'poacherlaw04.ForestTells', WHERE WHAT IT READS IS OF BULK AT MOST 1048576: true; the input reads as it did. -/
def forestTellsUptoRow : OpenClaim := { program := "ytecgfaaaloameaa", sum := "9cbbcdb76c61da03dbaf3e8a0f3a8639e2b49640e767670ecfcc75f850a65cd1", func := "poacher/poacherlaw04.ForestTells", spec := "forestTells", unfollowed := true, recurses := true, apart := false, narrowed := true }
def ForestTellsUptoSaid : Prop := forestTellsUptoRow.holds Try.pinned (OpenSpec.upto forestTellsSpec)

/-- 'poacherlaw04.ForestOnce', WHERE WHAT IT READS IS OF BULK AT MOST 1048576: true; the input reads as it did. -/
def forestOnceUptoRow : OpenClaim := { program := "ytecgfaaaloameaa", sum := "9cbbcdb76c61da03dbaf3e8a0f3a8639e2b49640e767670ecfcc75f850a65cd1", func := "poacher/poacherlaw04.ForestOnce", spec := "forestOnce", unfollowed := true, recurses := true, apart := false, narrowed := true }
def ForestOnceUptoSaid : Prop := forestOnceUptoRow.holds Try.pinned (OpenSpec.upto forestOnceSpec)

/-- 'poacherlaw04.ForestUnder', WHERE WHAT IT READS IS OF BULK AT MOST 1048576: true; the input reads as it did. -/
def forestUnderUptoRow : OpenClaim := { program := "ytecgfaaaloameaa", sum := "9cbbcdb76c61da03dbaf3e8a0f3a8639e2b49640e767670ecfcc75f850a65cd1", func := "poacher/poacherlaw04.ForestUnder", spec := "forestUnder", unfollowed := true, recurses := true, apart := false, narrowed := true }
def ForestUnderUptoSaid : Prop := forestUnderUptoRow.holds Try.pinned (OpenSpec.upto forestUnderSpec)

/-- 'poacherlaw04.ForestFewer', WHERE WHAT IT READS IS OF BULK AT MOST 1048576: true; the input reads as it did. -/
def forestFewerUptoRow : OpenClaim := { program := "ytecgfaaaloameaa", sum := "9cbbcdb76c61da03dbaf3e8a0f3a8639e2b49640e767670ecfcc75f850a65cd1", func := "poacher/poacherlaw04.ForestFewer", spec := "forestFewer", unfollowed := true, recurses := true, apart := false, narrowed := true }
def ForestFewerUptoSaid : Prop := forestFewerUptoRow.holds Try.pinned (OpenSpec.upto forestFewerSpec)

/-- 'poacherlaw04.ForestRoots', WHERE WHAT IT READS IS OF BULK AT MOST 1048576: true; the input reads as it did. -/
def forestRootsUptoRow : OpenClaim := { program := "ytecgfaaaloameaa", sum := "9cbbcdb76c61da03dbaf3e8a0f3a8639e2b49640e767670ecfcc75f850a65cd1", func := "poacher/poacherlaw04.ForestRoots", spec := "forestRoots", unfollowed := true, recurses := true, apart := false, narrowed := true }
def ForestRootsUptoSaid : Prop := forestRootsUptoRow.holds Try.pinned (OpenSpec.upto forestRootsSpec)

/-- 'poacherlaw04.ForestMore', WHERE WHAT IT READS IS OF BULK AT MOST 1048576: true; the input reads as it did. -/
def forestMoreUptoRow : OpenClaim := { program := "ytecgfaaaloameaa", sum := "9cbbcdb76c61da03dbaf3e8a0f3a8639e2b49640e767670ecfcc75f850a65cd1", func := "poacher/poacherlaw04.ForestMore", spec := "forestMore", unfollowed := true, recurses := true, apart := false, narrowed := true }
def ForestMoreUptoSaid : Prop := forestMoreUptoRow.holds Try.pinned (OpenSpec.upto forestMoreSpec)

/-- 'poacherlaw04.ForestSums', WHERE WHAT IT READS IS OF BULK AT MOST 1048576: true; the input reads as it did. -/
def forestSumsUptoRow : OpenClaim := { program := "ytecgfaaaloameaa", sum := "9cbbcdb76c61da03dbaf3e8a0f3a8639e2b49640e767670ecfcc75f850a65cd1", func := "poacher/poacherlaw04.ForestSums", spec := "forestSums", unfollowed := true, recurses := true, apart := false, narrowed := true }
def ForestSumsUptoSaid : Prop := forestSumsUptoRow.holds Try.pinned (OpenSpec.upto forestSumsSpec)

end Rows
end Go.Proofs.Ytecgfaaaloameaa
