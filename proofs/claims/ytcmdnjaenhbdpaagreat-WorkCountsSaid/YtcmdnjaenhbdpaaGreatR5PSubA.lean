/- One who submits, alone, at a new pool. -/
import Derived.Test.YtcmdnjaenhbdpaaGreatR5PSubd
set_option linter.unusedVariables false
set_option linter.unusedSimpArgs false
set_option linter.unusedVariables false
namespace Go.Ab
structure InvA (c : CF) (a : Nat) (m : List Int) : Prop where
  wm : Wm m
  may : mayC c = true
  len : (m.length : Int) = sizeC c
  l0 : loadM m 0 = a
  l1 : loadM m 1 = 0
  mask : mkB (loadM m 2) = 0
  l3 : loadM m 3 = 0
  l5 : loadM m 5 = a
  sq : ∀ j : Nat, (j : Int) < c.2.2.1 → loadM m (6 + j) = if j < a then 1 else 0
  le : (a : Int) ≤ c.2.2.1
section
variable {c : CF} {t : List (Int × List Int)} {m : List Int} {l : List Int} {F : FR}
end
section
variable {c : CF} {m : List Int} {w v X Y : Int} (hmay : mayC c = true) (hlen : (m.length : Int) = sizeC c)
include hmay hlen
end
end Go.Ab
