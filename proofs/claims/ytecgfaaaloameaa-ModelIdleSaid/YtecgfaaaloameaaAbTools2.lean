/- More tools: calls that are handed slices of one's own. -/
import Derived.Test.YtecgfaaaloameaaAbLibC
namespace Go.Ab
theorem callV_froz {cx : Cx} {o : Bool} {g : FuncId} {first caps args a : List V} {H H' : Hp} (hk : cx.M.keepArg g = false) (hf : fzAs cx.wl (first ++ args ++ caps) H = some (a, H')) (hl : H'.length = H.length) (hp : pureL a = true) :
    callV cx false o (.fn (.func g) first caps) args H = (callRes cx g a).map fun q => (q.1.shift H'.length, bif (q.1.shift H'.length).scal then H else H' ++ q.2.map (B.shift H'.length)) := by
  unfold callV
  simp only [Bool.false_eq_true, if_false]
  rw [callGen_fz hk hf hl hp]
theorem fzA_own {α : Type} {enc : α → List V} {wl id g len e : Nat} {l : List α} {lv : Bool} {H : Hp} (hb : H[id]? = some (.rows e (l.map enc) g lv)) (hl : len = l.length) (hp : ∀ x, pureL (enc x) = true) (hw : Nat.ble wl id = true) :
    fzA wl (.own id g len) H = some (.ro (l.map enc), H.set id (.rows e (l.map enc) g false)) := by
  simp only [fzA]
  rw [fzC_own, hb, fzB_rows hl hp hw]
theorem fzAs_nil {wl : Nat} {H : Hp} : fzAs wl [] H = some ([], H) := rfl
theorem fzAs_data {wl : Nat} {v : V} {vs : List V} {H : Hp} (h : v.data = true) : fzAs wl (v :: vs) H = (fzAs wl vs H).map fun q => (v :: q.1, q.2) := by
  simp only [fzAs, data_fz h, Option.bind_some]
  cases fzAs wl vs H <;> rfl
theorem fzAs_own {α : Type} {enc : α → List V} {wl id g len e : Nat} {l : List α} {lv : Bool} {H : Hp} {vs : List V} (hb : H[id]? = some (.rows e (l.map enc) g lv)) (hl : len = l.length) (hp : ∀ x, pureL (enc x) = true) (hw : Nat.ble wl id = true) :
    fzAs wl (.own id g len :: vs) H = (fzAs wl vs (H.set id (.rows e (l.map enc) g false))).map fun q => (.ro (l.map enc) :: q.1, q.2) := by
  simp only [fzAs, fzA_own hb hl hp hw, Option.bind_some]
  cases fzAs wl vs (H.set id (.rows e (l.map enc) g false)) <;> rfl
end Go.Ab
