/- Words of the injector's calls, and of one who submits. -/
import Derived.Test.YtcmdnjaenhbdpaaGreatR5PN2
set_option linter.unusedVariables false
set_option linter.unusedSimpArgs false
set_option linter.unusedVariables false
namespace Go.Ab
def seqC (c : CF) (x : Int) : Int := if mayC c = true then 6 + x % c.2.2.1 else -1
def valC (c : CF) (x : Int) : Int := if mayC c = true then 6 + c.2.2.1 + x % c.2.2.1 else -1
def freeB (c : CF) (x : Int) : Int := x / c.2.2.1 * 2 % 18446744073709551616
def farB (a b : Int) : Int := IntKind.i64.wrap (IntKind.u64.wrap (a - b))
def addU (a b : Int) : Int := (a + b) % 18446744073709551616
def egoesB (c : CF) (m : List Int) (f : FR) (op : Int) : Bool := mayC c && decide ((m.length : Int) = sizeC c) && decide (f.2.2.2.2.2.2 = 0 ∧ f.1 = op ∧ 0 ≤ f.2.1 ∧ f.2.1 < 5)
def enqB (c : CF) (m : List Int) (f : FR) : List Int × FR :=
  if egoesB c m f 3 = false then (m, f)
  else if f.2.1 = 0 then (m, f.1, 1, f.2.2.1, f.2.2.2.1, loadM m 5, f.2.2.2.2.2)
  else if f.2.1 = 1 then
    (if loadM m (seqC c f.2.2.2.2.1) = freeB c f.2.2.2.2.1 then (m, f.1, 2, f.2.2.1, f.2.2.2.1, f.2.2.2.2.1, loadM m (seqC c f.2.2.2.2.1), f.2.2.2.2.2.2)
    else if farB (loadM m (seqC c f.2.2.2.2.1)) (freeB c f.2.2.2.2.1) < 0 then (m, endB f 2 f.2.2.2.1)
    else (m, f.1, 0, f.2.2.1, f.2.2.2.1, f.2.2.2.2.1, loadM m (seqC c f.2.2.2.2.1), f.2.2.2.2.2.2))
  else if f.2.1 = 2 then (let r := casM m 5 f.2.2.2.2.1 (addU f.2.2.2.2.1 1); (r.1, f.1, if r.2 = true then 3 else 0, f.2.2))
  else if f.2.1 = 3 then (storeM m (valC c f.2.2.2.2.1) f.2.2.2.1, f.1, 4, f.2.2)
  else (storeM m (seqC c f.2.2.2.2.1) (addU (freeB c f.2.2.2.2.1) 1), endB f 1 f.2.2.2.1)
def fullB (c : CF) (x : Int) : Int := addU (freeB c x) 1
def deqB (c : CF) (m : List Int) (f : FR) : List Int × FR :=
  if egoesB c m f 4 = false then (m, f)
  else if f.2.1 = 0 then (m, f.1, 1, f.2.2.1, f.2.2.2.1, loadM m 4, f.2.2.2.2.2)
  else if f.2.1 = 1 then
    (if farB (loadM m (seqC c f.2.2.2.2.1)) (fullB c f.2.2.2.2.1) = 0 then (m, f.1, 2, f.2.2.1, f.2.2.2.1, f.2.2.2.2.1, loadM m (seqC c f.2.2.2.2.1), f.2.2.2.2.2.2)
    else if farB (loadM m (seqC c f.2.2.2.2.1)) (fullB c f.2.2.2.2.1) < 0 then (m, endB f 3 0)
    else (m, f.1, 0, f.2.2.1, f.2.2.2.1, f.2.2.2.2.1, loadM m (seqC c f.2.2.2.2.1), f.2.2.2.2.2.2))
  else if f.2.1 = 2 then (let r := casM m 4 f.2.2.2.2.1 (addU f.2.2.2.2.1 1); (r.1, f.1, if r.2 = true then 3 else 0, f.2.2))
  else if f.2.1 = 3 then (m, f.1, 4, f.2.2.1, loadM m (valC c f.2.2.2.2.1), f.2.2.2.2)
  else (storeM m (seqC c f.2.2.2.2.1) (addU (fullB c f.2.2.2.2.1) 1), endB f 1 f.2.2.2.1)
def injB (c : CF) (m : List Int) (f : FR) : List Int × FR := if f.1 = 3 then enqB c m f else if f.1 = 4 then deqB c m f else (m, f)
def evtB (c : CF) (m : List Int) (f : FR) : List Int × FR := if f.1 = 5 then waitB c m f else if f.1 = 6 ∨ f.1 = 7 then noteB c m f else (m, f)
def callB (c : CF) (m : List Int) (f : FR) : List Int × FR := if f.1 = 3 ∨ f.1 = 4 then injB c m f else evtB c m f
def zeroF : FR := (0, 0, 0, 0, 0, 0, 0)
abbrev EV := Int × Int × Int
def One (m m' : List Int) : Prop := ∃ i v, m' = storeM m i v
theorem One.same (m : List Int) : One m m := ⟨-1, 0, by unfold storeM; rw [if_neg (by decide)]⟩
theorem One.store (m : List Int) (i v : Int) : One m (storeM m i v) := ⟨i, v, rfl⟩
theorem One.cas (m : List Int) (i o v : Int) : One m (casM m i o v).1 := by
  unfold casM
  split
  · exact One.store m i v
  · exact One.same m
theorem One.len {m m' : List Int} (h : One m m') : m'.length = m.length := by
  obtain ⟨i, v, rfl⟩ := h
  exact store_len
end Go.Ab
