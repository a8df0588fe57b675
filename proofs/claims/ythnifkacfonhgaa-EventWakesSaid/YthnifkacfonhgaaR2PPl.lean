/- Words of the event's play: turns; the signs of each. -/
import Derived.Test.YthnifkacfonhgaaR2PN2
set_option linter.unusedVariables false
set_option linter.unusedSimpArgs false
set_option linter.unusedVariables false
namespace Go.Ab
def noneF : FR := (-1, 0, 0, 0, 0, 0, 0)
def knownB (op : Int) : Bool := decide (op = 5 ∨ op = 6 ∨ op = 7)
def estepB (c : CF) (m : List Int) (f : FR) : List Int × FR := if f.1 = 5 then waitB c m f else if f.1 = 6 ∨ f.1 = 7 then noteB c m f else (m, f)
structure Pl where
  m : List Int
  left : List (List Int)
  cur : List FR
  over : List FR
def fetchE (l : List Int) (i : Int) (f : FR) : List Int × FR :=
  if f.1 = -1 then (match l.findIdx? knownB with | some k => (l.drop (k + 1), (l.getD k 0, 0, i, 0, 0, 0, 0)) | none => (l, f)) else (l, f)
def putE2 (f : FR) : FR := if overB f = true then noneF else f
def turnE (c : CF) (i : Nat) (s : Pl) : Pl :=
  let p := fetchE (s.left.getD i []) i (s.cur.getD i noneF)
  let r := estepB c s.m p.2
  ⟨r.1, s.left.set i p.1, s.cur.set i (putE2 r.2), if overB r.2 = true then s.over ++ [r.2] else s.over⟩
def playE (c : CF) (n : Nat) : List Int → Pl → Pl
  | [], s => s
  | i :: who, s => playE c n who (if 0 ≤ i ∧ i < n then turnE c i.toNat s else s)
def bitN (m : List Int) (w : Int) : Nat := if hasB (loadM m 2) w = true then 1 else 0
def oneN (f : FR) (w : Int) : Nat := if owesB f w = true then 1 else 0
def oweN (l : List FR) (w : Int) : Nat := l.countP fun f => owesB f w
def parN (c : CF) (m : List Int) (w : Int) : Nat := if loadM m (parkC c w) = 0 then 0 else 1
def w3B (f : FR) : Nat := if f.1 = 5 ∧ 3 ≤ f.2.1 then 1 else 0
def w4B (f : FR) : Prop := f.1 = 5 ∧ f.2.1 = 4
def rngU (x : Int) : Prop := 0 ≤ x ∧ x ≤ 18446744073709551615
def OkFr (n : Nat) (i : Nat) (f : FR) : Prop :=
  f = noneF ∨ ∃ op pc X Y : Int, f = (op, pc, (i : Int), 0, X, Y, 0) ∧ rngU X ∧ rngU Y ∧
    ((op = 5 ∧ 0 ≤ pc ∧ pc ≤ 4) ∨ (op = 6 ∧ 0 ≤ pc ∧ pc ≤ 2 ∧ (pc = 2 → Y < n)) ∨ (op = 7 ∧ 0 ≤ pc ∧ pc ≤ 2 ∧ (pc = 2 → 0 < Y ∧ Y < 65536 ∧ ∀ j : Nat, n ≤ j → j < 16 → hasB Y j = false)))
structure OkP (c : CF) (n : Nat) (m : List Int) (l : List FR) : Prop where
  wm : Wm m
  may : mayC c = true
  cn : c.1 = n
  len : (m.length : Int) = sizeC c
  clen : l.length = n
  frm : ∀ i f, l[i]? = some f → OkFr n i f
  low : ∀ j : Nat, n ≤ j → j < 16 → hasB (loadM m 2) j = false
  par : ∀ w : Nat, w < n → loadM m (parkC c w) = 0 ∨ loadM m (parkC c w) = 1
  sgn : ∀ (w : Nat) f, l[w]? = some f → bitN m w + oweN l w + parN c m w = w3B f
  end4 : ∀ (w : Nat) f, l[w]? = some f → w4B f → parN c m w = 1
theorem OkP.n8 {c : CF} {n : Nat} {m : List Int} {l : List FR} (h : OkP c n m l) : n ≤ 8 := by
  have := mayC_of h.may
  have := h.cn
  omega
theorem OkP.okb {c : CF} {n : Nat} {m : List Int} {l : List FR} (h : OkP c n m l) {w : Nat} (hw : w < n) : OkB c m w := ⟨h.may, h.len, by omega, by rw [h.cn]; omega⟩
theorem oweN_set {l : List FR} {i : Nat} {f g : FR} (hf : l[i]? = some f) (w : Int) : oweN (l.set i g) w + oneN f w = oweN l w + oneN g w := by
  obtain ⟨hi, rfl⟩ := List.getElem?_eq_some_iff.1 hf
  have hle : l[i] ∈ l := List.getElem_mem _
  unfold oweN oneN
  rw [List.countP_set hi]
  by_cases h : owesB l[i] w = true
  · have : 0 < l.countP fun f => owesB f w := List.countP_pos_iff.2 ⟨_, hle, h⟩
    simp only [h, if_true]
    omega
  · simp only [h, if_false]
    simp
theorem OkP.step {c : CF} {n : Nat} {m m' : List Int} {l : List FR} (h : OkP c n m l) {i : Nat} {f g : FR} (hf : l[i]? = some f) (wm : Wm m') (len : m'.length = m.length) (hg : OkFr n i g)
    (low : ∀ j : Nat, n ≤ j → j < 16 → hasB (loadM m' 2) j = false) (par : ∀ w : Nat, w < n → loadM m' (parkC c w) = 0 ∨ loadM m' (parkC c w) = 1)
    (sg : ∀ w : Nat, w < n → bitN m' w + oneN g w + parN c m' w + (if w = i then w3B f else 0) = bitN m w + oneN f w + parN c m w + (if w = i then w3B g else 0))
    (e4 : w4B g → parN c m' i = 1) (e5 : ∀ w : Nat, w < n → w ≠ i → parN c m w = 1 → parN c m' w = 1) : OkP c n m' (l.set i g) := by
  have hi : i < l.length := (List.getElem?_eq_some_iff.1 hf).1
  have key : ∀ (w : Nat) (x : FR), (l.set i g)[w]? = some x → w < n ∧ ((w = i ∧ x = g) ∨ (w ≠ i ∧ l[w]? = some x)) := by
    intro w x hx
    have hw := (List.getElem?_eq_some_iff.1 hx).1
    rw [List.length_set, h.clen] at hw
    refine ⟨hw, ?_⟩
    by_cases e : w = i
    · subst e
      rw [List.getElem?_set_self hi] at hx
      exact .inl ⟨rfl, (Option.some.inj hx).symm⟩
    · rw [List.getElem?_set_ne (by omega)] at hx
      exact .inr ⟨e, hx⟩
  refine ⟨wm, h.may, h.cn, by rw [len]; exact h.len, by rw [List.length_set]; exact h.clen, ?_, low, par, ?_, ?_⟩
  · intro w x hx
    rcases key w x hx with ⟨_, ⟨rfl, rfl⟩ | ⟨_, hx⟩⟩
    · exact hg
    · exact h.frm w x hx
  · intro w x hx
    have ho := oweN_set (g := g) hf (w : Int)
    rcases key w x hx with ⟨hw, ⟨rfl, rfl⟩ | ⟨e, hx⟩⟩
    · have h1 := h.sgn w f hf
      have h2 := sg w hw
      rw [if_pos rfl, if_pos rfl] at h2
      omega
    · have h1 := h.sgn w x hx
      have h2 := sg w hw
      rw [if_neg e, if_neg e] at h2
      omega
  · intro w x hx hx4
    rcases key w x hx with ⟨hw, ⟨rfl, rfl⟩ | ⟨e, hx⟩⟩
    · exact e4 hx4
    · exact e5 w hw e (h.end4 w x hx hx4)
section
variable {c : CF} {m : List Int} {i a5 X : Int} (hmay : mayC c = true) (hlen : (m.length : Int) = sizeC c)
include hmay hlen
theorem note0 {op : Int} (ho : op = 6 ∨ op = 7) : noteB c m (op, 0, i, 0, X, a5, 0) = (m, op, 1, i, 0, loadM m 2, a5, 0) := by
  unfold noteB ngoesB
  simp [ho, hmay, hlen]
theorem note1 {op : Int} (ho : op = 6 ∨ op = 7) : noteB c m (op, 1, i, 0, X, a5, 0) = if loadM m 2 = X then (storeM m 2 (if op = 6 then bumpB X else wipeB X), if mkB X = 0 then (op, 0, i, 0, 0, 0, 3) else (op, 2, i, 0, X, (if op = 6 then (if lowB (mkB X) < 0 then 0 else lowB (mkB X)) else mkB X), 0)) else (m, op, 0, i, 0, X, a5, 0) := by
  unfold noteB ngoesB
  simp [ho, hmay, hlen, endB]
theorem note2 (h5 : a5 < 8) : noteB c m (6, 2, i, 0, X, a5, 0) = (wakeB c m a5, 6, 0, i, a5, 0, 0, 1) := by
  unfold noteB ngoesB
  simp [hmay, hlen, endB, h5]
theorem note3 : noteB c m (7, 2, i, 0, X, a5, 0) = (wakeB c m (lowB a5), if clrB (mkB a5) = 0 then (7, 0, i, mkB X, 0, 0, 1) else (7, 2, i, 0, X, clrB (mkB a5), 0)) := by
  unfold noteB ngoesB
  simp [hmay, hlen, endB]
end
theorem mk_pack (E M : Int) : mkB (packB E M) = mkB M := by unfold mkB packB; omega
theorem has_bump {X j : Int} (h0 : 0 ≤ X) (h1 : X ≤ 18446744073709551615) (hj : 0 ≤ j) (hj2 : j < 16) : hasB (bumpB X) j = (hasB X j && decide (j ≠ lowB (mkB X))) := by
  have hr := pack_rng (epB X + 1) (clrB (mkB X))
  have hm := mk_rng h0
  have hc : 0 ≤ clrB (mkB X) ∧ clrB (mkB X) < 65536 := by
    unfold clrB
    split
    · omega
    · rcases low_split hm.1 hm.2 with ⟨h2, h3⟩ | ⟨a, l, h2, h3, h4⟩
      · omega
      · have hp : (0 : Nat) < 2 ^ l := Nat.pow_pos (by decide)
        have hw : ((2 ^ l : Nat) : Int) = (2 : Int) ^ l := by rw [Int.natCast_pow]; rfl
        rw [h3, Int.toNat_natCast, ← hw]
        omega
  unfold bumpB
  rw [← has_mask hr.1 hj hj2, mk_pack, has_mask hc.1 hj hj2, has_clr hm.1 hm.2 hj hj2, has_mask h0 hj hj2]
theorem has_wipe {X j : Int} (hj : 0 ≤ j) (hj2 : j < 16) : hasB (wipeB X) j = false := by
  have hr := pack_rng (epB X + 1) 0
  unfold wipeB
  rw [← has_mask hr.1 hj hj2, mk_pack]
  have := has_nat 0 (w := j) hj
  rw [Nat.zero_testBit] at this
  exact this
theorem has_none {X : Int} (h0 : 0 ≤ X) (h : mkB X = 0) {j : Int} (hj : 0 ≤ j) (hj2 : j < 16) : hasB X j = false := by
  rw [← has_mask h0 hj hj2, h]
  have := has_nat 0 (w := j) hj
  rw [Nat.zero_testBit] at this
  exact this
end Go.Ab
