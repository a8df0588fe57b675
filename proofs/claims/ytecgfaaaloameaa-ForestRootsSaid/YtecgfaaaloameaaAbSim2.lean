/- Calls, and slices of one's own, on typed data. -/
import Derived.Test.YtecgfaaaloameaaAbSim
import Derived.Test.YtecgfaaaloameaaAbTyped
namespace Go.Ab

mutual
/-- Data that is handed over as it is. -/
def V.data : V → Bool
  | .lit _ => true
  | .ro _ => true
  | .nil => true
  | .agg cs => cellsData cs
  | .fn _ a b => dataL a && dataL b
  | _ => false
def dataL : List V → Bool
  | [] => true
  | v :: vs => v.data && dataL vs
def cellsData : List V → Bool
  | [] => true
  | .lit _ :: vs => cellsData vs
  | .ro _ :: vs => cellsData vs
  | _ :: _ => false
end

theorem cellsData_fz {wl : Nat} {H : Hp} : ∀ {l : List V}, cellsData l = true → fzL wl true l H = some (l, H)
  | [], _ => rfl
  | .lit _ :: vs, h => by
    have := cellsData_fz (wl := wl) (H := H) (l := vs) (by simpa [cellsData] using h)
    simp [fzL, fzC, this]
  | .ro _ :: vs, h => by
    have := cellsData_fz (wl := wl) (H := H) (l := vs) (by simpa [cellsData] using h)
    simp [fzL, fzC, this]
  | .nil :: _, h | .any :: _, h | .junk :: _, h | .agg _ :: _, h | .tup _ :: _, h | .fn .. :: _, h | .yld _ :: _, h | .rp _ :: _, h | .ptr .. :: _, h | .own .. :: _, h | .map _ :: _, h => by simp [cellsData] at h
theorem cellsData_pure : ∀ {l : List V}, cellsData l = true → pureL l = true
  | [], _ => rfl
  | .lit _ :: vs, h => by
    have := cellsData_pure (l := vs) (by simpa [cellsData] using h)
    simp [pureL, V.pure, this]
  | .ro _ :: vs, h => by
    have := cellsData_pure (l := vs) (by simpa [cellsData] using h)
    simp [pureL, V.pure, this]
  | .nil :: _, h | .any :: _, h | .junk :: _, h | .agg _ :: _, h | .tup _ :: _, h | .fn .. :: _, h | .yld _ :: _, h | .rp _ :: _, h | .ptr .. :: _, h | .own .. :: _, h | .map _ :: _, h => by simp [cellsData] at h
mutual
theorem data_pure : ∀ {v : V}, v.data = true → v.pure = true
  | .lit _, _ | .ro _, _ | .nil, _ => rfl
  | .agg cs, h => cellsData_pure h
  | .fn _ a b, h => by
    simp [V.data] at h
    simp [V.pure, dataL_pure h.1, dataL_pure h.2]
  | .any, h | .junk, h | .tup _, h | .yld _, h | .rp _, h | .ptr .., h | .own .., h | .map _, h => by simp [V.data] at h
theorem dataL_pure : ∀ {l : List V}, dataL l = true → pureL l = true
  | [], _ => rfl
  | v :: vs, h => by
    simp [dataL] at h
    simp [pureL, data_pure h.1, dataL_pure h.2]
end
theorem data_fz {wl : Nat} {H : Hp} : ∀ {v : V}, v.data = true → fzA wl v H = some (v, H)
  | .lit _, _ | .ro _, _ | .nil, _ | .fn .., _ => rfl
  | .agg cs, h => by simp [fzA, cellsData_fz (wl := wl) (H := H) h]
  | .any, h | .junk, h | .tup _, h | .yld _, h | .rp _, h | .ptr .., h | .own .., h | .map _, h => by simp [V.data] at h
theorem dataL_fz {wl : Nat} {H : Hp} : ∀ {l : List V}, dataL l = true → fzAs wl l H = some (l, H)
  | [], _ => rfl
  | v :: vs, h => by
    simp [dataL] at h
    simp [fzAs, data_fz (wl := wl) (H := H) h.1, dataL_fz (wl := wl) (H := H) h.2]

/-- What comes of a call whose arguments name no block. -/
def callRes (cx : Cx) (g : FuncId) (args : List V) : Option (V × Hp) := (cx.call 0 g args []).bind fun p => retV (cx.M.keepRes cx.fid g) p.1 p.2
/-- How it is laid into the heap. -/
def landC (H : Hp) (q : V × Hp) : V × Hp := (q.1.shift H.length, bif (q.1.shift H.length).scal then H else H ++ q.2.map (B.shift H.length))
def landP (H : Hp) (q : V × Hp) : V × Hp := (q.1.shift H.length, H ++ q.2.map (B.shift H.length))

theorem callGen_fz {cx : Cx} {g : FuncId} {args args' : List V} {H H' : Hp} (hk : cx.M.keepArg g = false) (hf : fzAs cx.wl args H = some (args', H')) (hl : H'.length = H.length) (hp : pureL args' = true) :
    (callGen cx g args H).bind (noShorter H) = (callRes cx g args').map fun q => (q.1.shift H'.length, bif (q.1.shift H'.length).scal then H else H' ++ q.2.map (B.shift H'.length)) := by
  unfold callGen callRes
  simp only [hk, Bool.false_eq_true, if_false, hf, Option.bind_some, hp, if_true]
  unfold callPure
  cases h : cx.call 0 g args' [] with
  | none => rfl
  | some p =>
    simp only [Option.bind_some]
    cases h2 : retV (cx.M.keepRes cx.fid g) p.1 p.2 with
    | none => rfl
    | some q =>
      simp only [Option.bind_some, Option.map_some]
      unfold noShorter
      cases (q.1.shift H'.length).scal <;> simp [hl]

theorem callV_data {cx : Cx} {o : Bool} {g : FuncId} {first caps args : List V} {H : Hp} (hd : dataL (first ++ args ++ caps) = true) :
    callV cx false o (.fn (.func g) first caps) args H = (callRes cx g (first ++ args ++ caps)).map (landC H) := by
  unfold callV
  simp only [Bool.false_eq_true, if_false]
  cases hk : cx.M.keepArg g with
  | false =>
    rw [callGen_fz hk (dataL_fz hd) rfl (dataL_pure hd)]
    rfl
  | true =>
    unfold callGen callRes
    simp only [hk, if_true, Option.bind_some, dataL_pure hd]
    unfold callPure
    cases h : cx.call 0 g (first ++ args ++ caps) [] with
    | none => rfl
    | some p =>
      simp only [Option.bind_some]
      cases h2 : retV (cx.M.keepRes cx.fid g) p.1 p.2 with
      | none => rfl
      | some q =>
        simp only [Option.bind_some, Option.map_some, landC]
        unfold noShorter
        cases (q.1.shift H.length).scal <;> simp
/-- Arguments of which some are slices of one's own: these are frozen. -/
theorem callV_fz {cx : Cx} {o : Bool} {g : FuncId} {first caps args : List V} {H : Hp} (hk : cx.M.keepArg g = false) :
    callV cx false o (.fn (.func g) first caps) args H = (fzAs cx.wl (first ++ args ++ caps) H).bind fun a =>
      if pureL a.1 then (callPure cx g a.1 a.2).bind fun q => noShorter H (q.1, bif q.1.scal then H else q.2)
      else ((cx.call cx.wl g a.1 a.2).bind fun p => (if (cx.M.keepRes cx.fid g).isSome then some p else fzR cx.wl p.1 p.2).bind fun q =>
        if q.1.pure then some (q.1, cutH a.2.length q.2) else some q).bind (noShorter H) := by
  unfold callV
  simp only [Bool.false_eq_true, if_false]
  unfold callGen
  simp only [hk, Bool.false_eq_true, if_false]
  cases fzAs cx.wl (first ++ args ++ caps) H with
  | none => rfl
  | some a =>
    simp only [Option.bind_some]
    split
    · cases callPure cx g a.1 a.2 <;> rfl
    · rfl
theorem callV_calm {cx : Cx} {g : FuncId} {first caps args : List V} {H : Hp} (hd : dataL (first ++ args ++ caps) = true) :
    callV cx true true (.fn (.func g) first caps) args H = (callRes cx g (first ++ args ++ caps)).map (landP H) := by
  unfold callV callCalm
  simp only [if_true, dataL_pure hd]
  unfold callPure callRes
  cases h : cx.call 0 g (first ++ args ++ caps) [] with
  | none => rfl
  | some p =>
    simp only [Option.bind_some]
    cases h2 : retV (cx.M.keepRes cx.fid g) p.1 p.2 with
    | none => rfl
    | some q => rfl
/-- A result of a call in no order with others. -/
theorem callV_loose {cx : Cx} {g : FuncId} {first caps args : List V} {H : Hp} (hd : dataL (first ++ args ++ caps) = true) :
    callV cx true false (.fn (.func g) first caps) args H = ((cx.call 0 g (first ++ args ++ caps) []).bind fun p => (fzR 0 p.1 p.2).bind fun q => if q.1.pure then some (q.1, H) else none) := by
  unfold callV callCalm
  simp only [if_true, dataL_pure hd, Bool.false_eq_true, if_false]

section ret
variable {H : Hp}
theorem landC_lit {v : Value} {h : Hp} : landC H (.lit v, h) = (.lit v, H) := rfl
theorem landC_ro {r : List (List V)} : landC H (.ro r, []) = (.ro r, H) := by simp [landC, V.shift, V.scal]
theorem landC_fn0 {f : Fn} : landC H (.fn f [] [], []) = (.fn f [] [], H) := by simp [landC, V.shift, V.scal, shiftL]
theorem landP_lit {v : Value} : landP H (.lit v, []) = (.lit v, H) := by simp [landP, V.shift]
theorem landP_ro {r : List (List V)} : landP H (.ro r, []) = (.ro r, H) := by simp [landP, V.shift]

/-- What a function's result comes to. -/
def retN (p : V × Hp) : Option (V × Hp) := retV none p.1 p.2
theorem retV_lit {v : Value} {h : Hp} : retV none (.lit v) h = some (.lit v, []) := rfl
theorem retV_ro {r : List (List V)} {h : Hp} : retV none (.ro r) h = some (.ro r, []) := rfl
theorem retV_nil {h : Hp} : retV none .nil h = some (.ro [], []) := rfl
/-- What is left of a slice of one's own. -/
def fzB (wl id g len : Nat) (H : Hp) : Option B → Option (V × Hp)
  | some (.rows e rs g' _) => bif g == g' && decide (len ≤ rs.length) && (pureR rs && Nat.ble wl id) then some (.ro (rs.take len), H.set id (.rows e rs g' false)) else none
  | _ => none
theorem fzC_own {wl id g len : Nat} : fzC wl (.own id g len) H = fzB wl id g len H (H[id]?) := by
  unfold fzC fzB
  dsimp only
  generalize H[id]? = b
  cases b with
  | none => rfl
  | some b =>
    cases b with
    | rows e rs g' lv =>
      by_cases h1 : g = g'
      · by_cases h2 : len ≤ rs.length <;> cases h3 : (pureR rs && Nat.ble wl id) <;> simp [h1, h2]
      · simp [h1, beq_false_of_ne h1]
    | _ => rfl
theorem fzB_rows {α : Type} {l : List α} {enc : α → List V} {wl id g e len : Nat} {lv : Bool} (hl : len = l.length) (hp : ∀ x, pureL (enc x) = true) (hw : Nat.ble wl id = true) :
    fzB wl id g len H (some (.rows e (l.map enc) g lv)) = some (.ro (l.map enc), H.set id (.rows e (l.map enc) g false)) := by
  subst hl
  have h1 : pureR (l.map enc) = true := by
    rw [pureR, List.all_eq_true]
    intro r hr
    obtain ⟨x, _, rfl⟩ := List.mem_map.1 hr
    exact hp x
  have h2 : (l.map enc).take l.length = l.map enc := by rw [List.take_of_length_le]; simp
  simp [fzB, h1, hw, h2]
theorem retV_own {α : Type} {l : List α} {enc : α → List V} {id g e len : Nat} {lv : Bool} {h : Hp} (hb : h[id]? = some (.rows e (l.map enc) g lv)) (hl : len = l.length) (hp : ∀ x, pureL (enc x) = true) :
    retV none (.own id g len) h = some (.ro (l.map enc), []) := by
  simp only [retV, fzR, fzR1, fzA, fzC_own, hb, fzB_rows hl hp (by simp : Nat.ble 0 id = true), Option.bind_some, V.pure, if_true]
end ret

section app
variable {P : Program} {wl : Nat} {t : TypeId} {H : Hp}
theorem rowsOf_ro {r : List (List V)} : rowsOf (.ro r) H = some r := rfl
theorem rowsOf_nil : rowsOf .nil H = some [] := rfl
def roB (g len : Nat) : Option B → Option (List (List V))
  | some (.rows _ rs g' _) => bif g == g' && decide (len ≤ rs.length) then some (rs.take len) else none
  | _ => none
theorem rowsOf_own {id g len : Nat} : rowsOf (.own id g len) H = roB g len (H[id]?) := by
  unfold rowsOf roB
  dsimp only
  generalize H[id]? = b
  cases b with
  | none => rfl
  | some b => cases b <;> simp [Bool.cond_eq_ite]
theorem roB_rows {α : Type} {l : List α} {enc : α → List V} {g e len : Nat} {lv : Bool} (hl : len = l.length) : roB g len (some (.rows e (l.map enc) g lv)) = some (l.map enc) := by
  subst hl
  have h2 : (l.map enc).take l.length = l.map enc := by rw [List.take_of_length_le]; simp
  simp [roB, h2]

/-- An append to a slice of one's own. -/
def apB (wl _e : Nat) (sz bytes id g len : Nat) (xs : List (List V)) (H : Hp) : Option B → Option (V × Hp)
  | some (.rows s rs g' live) =>
    bif Nat.ble wl id && (g == g') && decide (len ≤ rs.length) && (live || len == rs.length) && (s == sz || s == 0) && decide ((len + xs.length) * bytes ≤ 70368744177664) then
      some (.own id (g + 1) (len + xs.length), H.set id (.rows sz (rs.take len ++ xs) (g + 1) live)) else none
  | _ => none
theorem vAppend_own {e : TypeId} {id g len : Nat} {x : V} (he : elemT P t = some e) (hg : growT P e = true) :
    vAppend P wl t (.own id g len) x H = (rowsOf x H).bind fun xs => bif okRows (szOf P e) xs then apB wl e (szOf P e) (P.bytesOf e) id g len xs H (H[id]?) else none := by
  unfold vAppend
  simp only [he]
  cases hr : rowsOf x H with
  | none => rfl
  | some xs =>
    simp only [Option.bind_some, hg, Bool.and_true]
    cases okRows (szOf P e) xs with
    | false => rfl
    | true =>
      simp only [if_true, cond_true, apB]
      generalize H[id]? = b
      cases b with
      | none => rfl
      | some b =>
        cases b with
        | rows s rs g' lv => simp [Bool.cond_eq_ite, and_assoc]
        | _ => rfl
theorem vAppend_nil {e : TypeId} {x : V} (he : elemT P t = some e) (hg : growT P e = true) :
    vAppend P wl t .nil x H = (rowsOf x H).bind fun xs => bif okRows (szOf P e) xs then bif decide (xs.length * P.bytesOf e ≤ 70368744177664) then some (.own H.length 0 xs.length, H ++ [.rows (szOf P e) xs 0 true]) else none else none := by
  unfold vAppend
  simp only [he]
  cases hr : rowsOf x H with
  | none => rfl
  | some xs =>
    simp only [Option.bind_some, hg, Bool.and_true]
    cases okRows (szOf P e) xs with
    | false => rfl
    | true => simp [Bool.cond_eq_ite]
theorem okRows_map {α : Type} {l : List α} {enc : α → List V} {sz : Nat} (h : ∀ x, (enc x).length = sz) : okRows sz (l.map enc) = true := by
  rw [okRows, List.all_eq_true]
  intro r hr
  obtain ⟨x, _, rfl⟩ := List.mem_map.1 hr
  simp [h]
/-- Room for so many. -/
def room (n bytes : Nat) : Bool := decide (n * bytes ≤ 70368744177664)
theorem apB_rows {α : Type} {l m : List α} {enc : α → List V} {e sz bytes id g len s : Nat} (hl : len = l.length) (hw : Nat.ble wl id = true) (hs : (s == sz || s == 0) = true) {lv : Bool} :
    apB wl e sz bytes id g len (m.map enc) H (some (.rows s (l.map enc) g lv)) = bif room (l ++ m).length bytes then some (.own id (g + 1) (l ++ m).length, H.set id (.rows sz ((l ++ m).map enc) (g + 1) lv)) else none := by
  subst hl
  have h2 : (l.map enc).take l.length = l.map enc := by rw [List.take_of_length_le]; simp
  cases lv <;> simp [apB, hw, hs, h2, room]
/-- The first append to a slice that was made empty. -/
theorem apB_empty {α : Type} {m : List α} {enc : α → List V} {e sz bytes id g : Nat} (hw : Nat.ble wl id = true) {lv : Bool} :
    apB wl e sz bytes id g 0 (m.map enc) H (some (.rows 0 [] g lv)) = bif room m.length bytes then some (.own id (g + 1) m.length, H.set id (.rows sz (m.map enc) (g + 1) lv)) else none := by
  cases lv <;> simp [apB, hw, room]
theorem vMakeSlice_eq {e : TypeId} {n : Int} {z : Value} {Z : List V} (he : elemT P t = some e) (hz : zeroOf P e = some z) (hZ : vMakeSlice.fzZ (zeroCs z) = Z) (ho : (onesL (zeroCs z) && (zeroCs z).length == szOf P e && szOf P e != 0) = true) :
    vMakeSlice P t (.lit (.int .i64 n)) (.lit (.int .i64 n)) H = bif decide (0 ≤ n ∧ n ≤ 9223372036854775807 ∧ n * P.bytesOf e ≤ 70368744177664) then some (.own H.length 0 n.toNat, H ++ [.rows (szOf P e) (List.replicate n.toNat Z) 0 true]) else none := by
  unfold vMakeSlice
  simp only [he, hz, ho, if_true, hZ, true_and, Bool.cond_eq_ite, decide_eq_true_eq]
end app

theorem killR_map {α : Type} {l : List α} {enc : α → List V} {n : Nat} (hp : ∀ x, pureL (enc x) = true) : killR n (l.map enc) = l.map enc := by
  have h1 : pureR (l.map enc) = true := by
    rw [pureR, List.all_eq_true]
    intro r hr
    obtain ⟨x, _, rfl⟩ := List.mem_map.1 hr
    exact hp x
  simp [killR, h1]
theorem shiftR_map {α : Type} {l : List α} {enc : α → List V} {n : Nat} (hp : ∀ x, pureL (enc x) = true) : shiftR n (l.map enc) = l.map enc := by
  have h1 : pureR (l.map enc) = true := by
    rw [pureR, List.all_eq_true]
    intro r hr
    obtain ⟨x, _, rfl⟩ := List.mem_map.1 hr
    exact hp x
  simp [shiftR, h1]
theorem killR_nil {n : Nat} : killR n [] = [] := rfl
theorem pure_intR (k : IntKind) (x : Int) : pureL (intR k x) = true := rfl
theorem pure_boolR (x : Bool) : pureL (boolR x) = true := rfl
theorem pure_taskV (x : Int × List Int) : pureL (taskV x) = true := rfl
theorem pure_threeV (x : Int × Int × Int) : pureL (threeV x) = true := rfl
theorem killR_int {k : IntKind} {l : List Int} {n : Nat} : killR n (l.map (intR k)) = l.map (intR k) := killR_map (pure_intR k)
theorem killR_bool {l : List Bool} {n : Nat} : killR n (l.map boolR) = l.map boolR := killR_map pure_boolR
theorem killR_task {l : List (Int × List Int)} {n : Nat} : killR n (l.map taskV) = l.map taskV := killR_map pure_taskV
theorem killR_three {l : List (Int × Int × Int)} {n : Nat} : killR n (l.map threeV) = l.map threeV := killR_map pure_threeV
theorem shiftR_int {k : IntKind} {l : List Int} {n : Nat} : shiftR n (l.map (intR k)) = l.map (intR k) := shiftR_map (pure_intR k)
theorem shiftR_bool {l : List Bool} {n : Nat} : shiftR n (l.map boolR) = l.map boolR := shiftR_map pure_boolR
theorem shiftR_task {l : List (Int × List Int)} {n : Nat} : shiftR n (l.map taskV) = l.map taskV := shiftR_map pure_taskV
theorem shiftR_three {l : List (Int × Int × Int)} {n : Nat} : shiftR n (l.map threeV) = l.map threeV := shiftR_map pure_threeV
theorem setR_bool {l : List Bool} {i : Nat} {b : Bool} : (l.map boolR).set i [.lit (.bool b)] = (l.set i b).map boolR := by rw [List.map_set]; rfl
theorem setR_int {k : IntKind} {l : List Int} {i : Nat} {b : Int} : (l.map (intR k)).set i [.lit (.int k b)] = (l.set i b).map (intR k) := by rw [List.map_set]; rfl
theorem repR_bool {n : Nat} {b : Bool} : List.replicate n [V.lit (.bool b)] = (List.replicate n b).map boolR := by rw [List.map_replicate]; rfl
theorem repR_int {k : IntKind} {n : Nat} {b : Int} : List.replicate n [V.lit (.int k b)] = (List.replicate n b).map (intR k) := by rw [List.map_replicate]; rfl
theorem getR_map {α : Type} {l : List α} {f : α → List V} {i : Nat} : (l.map f)[i]? = (l[i]?).map f := List.getElem?_map
theorem fzL_nil {wl : Nat} {nl : Bool} {H : Hp} : fzL wl nl [] H = some ([], H) := rfl
theorem fzL_lit {wl : Nat} {nl : Bool} {v : Value} {vs : List V} {H : Hp} : fzL wl nl (.lit v :: vs) H = (fzL wl nl vs H).bind fun q => some (.lit v :: q.1, q.2) := rfl
theorem fzL_ro {wl : Nat} {nl : Bool} {r : List (List V)} {vs : List V} {H : Hp} : fzL wl nl (.ro r :: vs) H = (fzL wl nl vs H).bind fun q => some (.ro r :: q.1, q.2) := rfl
theorem fzL_none {wl : Nat} {vs : List V} {H : Hp} : fzL wl true (.nil :: vs) H = (fzL wl true vs H).bind fun q => some (.ro [] :: q.1, q.2) := rfl
theorem fzL_own {wl id g len : Nat} {nl : Bool} {vs : List V} {H : Hp} : fzL wl nl (.own id g len :: vs) H = (fzC wl (.own id g len) H).bind fun p => (fzL wl nl vs p.2).bind fun q => some (p.1 :: q.1, q.2) := rfl
theorem ble0 {n : Nat} : Nat.ble 0 n = true := by cases n <;> rfl
theorem intsV_eq (k : IntKind) (l : List Int) : intsV k l = .ro (l.map (intR k)) := rfl
theorem taskV_eq (x : Int × List Int) : taskV x = [.lit (.int .i64 x.1), .ro (x.2.map (intR .i64))] := rfl
theorem retV_litk {keep : Option (Nat → Bool)} {v : Value} {h : Hp} : retV keep (.lit v) h = some (.lit v, []) := by
  cases keep <;> rfl
theorem retV_rok {keep : Option (Nat → Bool)} {r : List (List V)} {h : Hp} : retV keep (.ro r) h = some (.ro r, []) := by
  cases keep <;> rfl
theorem wrap64 {z : Int} (h1 : -9223372036854775808 ≤ z) (h2 : z ≤ 9223372036854775807) : IntKind.i64.wrap z = z := by
  simp [IntKind.wrap, IntKind.bits, IntKind.signed]
  omega
end Go.Ab
