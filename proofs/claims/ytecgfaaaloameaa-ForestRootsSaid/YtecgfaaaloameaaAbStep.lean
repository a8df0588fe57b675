/- The abstract evaluator, point by point: code reached by its place, continuations by name, an operation as one word. -/
import Derived.Test.YtecgfaaaloameaaAbSym
namespace Go.Ab

/-- A part of a piece of code, by its place. -/
def codeAt : Code → List Nat → Code
  | c, [] => c
  | .seq a b, i :: p => if i = 0 then codeAt a p else codeAt b p
  | .cond _ a b, i :: p => if i = 0 then codeAt a p else codeAt b p
  | .block _ a, _ :: p => codeAt a p
  | .loop a, _ :: p => codeAt a p
  | .scope a, _ :: p => codeAt a p
  | .rangeFunc _ _ a b, i :: p => if i = 0 then codeAt a p else codeAt b p
  | c, _ => c

def bodyOf (fn : Func) : Code := fn.body.getD .skip

/-- What an evaluation hangs on, but for the function. -/
structure Sys where
  P : Program
  orc : FuncId → Option (List V → Hp → Option (V × Hp))
  keepRes : FuncId → FuncId → Option (Nat → Bool)
  keepArg : FuncId → Bool
  call : Nat → FuncId → List V → Hp → Option (V × Hp)
  yld : Nat → Nat → List V → Hp → Option (V × Hp)

/-- What is still to be done behind a piece of code. -/
inductive Fr where
  | seq (c : Code)
  | block (id : Nat)
  | scope (a : Code)
  | scope2 (a : Code)

/-- A slot that nothing was laid in. -/
def uu : V := .lit undef

abbrev Res := Option (V × Hp)

def runK (cx : Cx) (K : Out → St → Res) : List Fr → Out → St → Res
  | [], o, s => K o s
  | .seq c :: fs, o, s => match o with
    | .norm => execK cx c none (runK cx K fs) s
    | o => runK cx K fs o s
  | .block id :: fs, o, s => match o with
    | .exit id' => if id' = id then runK cx K fs .norm s else runK cx K fs (.exit id') s
    | o => runK cx K fs o s
  | .scope a :: fs, o, s => match o with
    | .goto l => if hasLabel l a then execK cx a (some l) (fun o' s'' => match o' with | .goto l' => if hasLabel l' a then none else runK cx K fs (.goto l') s'' | o' => runK cx K fs o' s'') s else runK cx K fs (.goto l) s
    | o => runK cx K fs o s
  | .scope2 a :: fs, o, s => match o with
    | .goto l => if hasLabel l a then none else runK cx K fs (.goto l) s
    | o => runK cx K fs o s

/-- A loop's rounds. -/
def itX (cx : Cx) (c : Code) (n0 : Nat) (K : Out → St → Res) (n : Nat) (s : St) : Res :=
  iterK (execK cx c none) n0 (cx.M.named cx.fid) (rwCode c ([], [])) K n s

/-- What is done behind a round. -/
def nextK (cx : Cx) (c : Code) (n0 : Nat) (K : Out → St → Res) (n : Nat) : Out → St → Res := fun o s' => match o with
  | .norm => itX cx c n0 K n (tidy n0 (dropT (cx.M.named cx.fid) (rwCode c ([], [])) false) s')
  | .ret => K .ret s'
  | o => K o (tidy n0 (dropT (cx.M.named cx.fid) (rwCode c ([], [])) true) s')

/-- A region's operations, in the order in which they are looked at. -/
def opsOf : Code → Array Oper
  | .region _ ops _ => ops
  | _ => #[]
def rgFor : Code → Rg
  | .region _ ops draw => if draw then rgOf ops else Rg.none
  | _ => Rg.none
def stepsOf : Code → List (Oper × Nat)
  | .region _ ops draw => if draw then orderOf ops else ops.toList.zipIdx
  | _ => []
def orderIx (ops : Array Oper) : List Nat := (orderOf ops).map (·.2)

/-- A region, from one of its operations on. -/
def opsP (cx : Cx) (c : Code) (j n0 : Nat) (a : List Nat × List Nat) (K : Out → St → Res) (s : St) : Res :=
  opsK cx n0 (rgFor c) (opsOf c) ((stepsOf c).drop j) a (K .norm) s

/-- The end of a function's body. -/
def bodyK (P : Program) (fn : Func) : Out → St → Res := fun o s => match o with
  | .norm => (resultsV P fn.results.toList s).map fun v => (v, s.H)
  | .ret => (resultsV P fn.results.toList s).map fun v => (v, s.H)
  | _ => none

def bm (x : Option V) (H : Hp) (k : V → Hp → Res) : Res := (x.map fun v => (v, H)).bind fun p => k p.1 p.2
def bp (x : Option (V × Hp)) (k : V → Hp → Res) : Res := x.bind fun p => k p.1 p.2
def bs (x : Option Hp) (k : Hp → Res) : Res := (x.map fun H' => (V.lit undef, H')).bind fun p => k p.2
def cnd (c : V) (a b : Res) : Res := match c with
  | .lit (.bool t) => bif t then a else b
  | _ => none
/-- A guard. -/
def gd (c : V) (a b u : Res) : Res := match c with
  | .lit (.bool t) => bif t then a else b
  | .lit (.tuple _) => u
  | _ => none
def opAlloc (P : Program) (t : TypeId) (H : Hp) : Option (V × Hp) :=
  (zeroOf P t).bind fun z => if onesL (zeroCs z) then let p := matL (zeroCs z) H; some (.ptr p.2.length 0 0 0, p.2 ++ [.box p.1]) else none
def opBox (v : V) (H : Hp) : Option (V × Hp) := v.cells.bind fun vs => let p := matL vs H; some (.ptr p.2.length 0 0 0, p.2 ++ [.box p.1])
def opBuildSliceC (P : Program) (wl : Nat) (t : TypeId) (len : Nat) (l : List (Nat × V)) (H : Hp) : Option (V × Hp) :=
  if true && !pureL (l.map (·.2)) then none else vBuildSlice P wl t len l H
def opLen (P : Program) (t : TypeId) (x : V) (H : Hp) : Option (V × Hp) := if (elemT P t).isSome then (vLen x H).map fun v => (v, H) else none
def opApp (P : Program) (wl : Nat) (t u : TypeId) (s x : V) (H : Hp) : Option (V × Hp) := if (elemT P u).isSome then vAppend P wl t s x H else none
def apt (a : List Nat × List Nat) (k : Res) : Res := if apartA a then k else none
def lgR (v : V) (a : List Nat × List Nat) : List Nat × List Nat := match idOf v with | some k => (k :: a.1, a.2) | none => a
def lgW (v : V) (a : List Nat × List Nat) : List Nat × List Nat := match idOf v with | some k => (a.1, k :: a.2) | none => a
def stB (n0 : Nat) (v : V) : Bool := match idOf v with | some i => i < n0 | none => true
def stO (n0 : Nat) (v : V) (k : Res) : Res := if stB n0 v then k else none
def res1 (x : Option V) (H : Hp) : Res := (x.bind fun v => some v).map fun v => (v, H)
def resL : List (Option V) → Option (List V)
  | [] => some []
  | x :: xs => x.bind fun v => (resL xs).bind fun vs => some (v :: vs)
def resO (l : List (Option V)) (H : Hp) : Res := ((resL l).bind fun vs => match vs with | [v] => some v | vs => some (.tup vs)).map fun v => (v, H)

/-! ### Steps -/
section steps
variable {cx : Cx} {K : Out → St → Res} {fs : List Fr} {s : St} {r : Res}

theorem bodyV_run {fn : Func} {args : List V} {H : Hp} {c : Code} (hb : fn.body = some c) (h : runK cx (bodyK cx.P fn) [.seq c] .norm ⟨args ++ List.replicate (fn.ntmps - args.length) uu, H⟩ = r) : bodyV cx fn args H = r := by
  rw [← h]
  unfold bodyV
  rw [hb]
  have : (fun o s => match o with
      | .norm => (resultsV cx.P fn.results.toList s).map fun v => (v, s.H)
      | .ret => (resultsV cx.P fn.results.toList s).map fun v => (v, s.H)
      | _ => none : Out → St → Res) = runK cx (bodyK cx.P fn) [] := by
    funext o s
    cases o <;> rfl
  show execK cx c none _ _ = execK cx c none (runK cx (bodyK cx.P fn) []) _
  rw [← this]
  rfl

theorem go_skip (h : runK cx K fs .norm s = r) : runK cx K (.seq .skip :: fs) .norm s = r := h
theorem go_label {l : Nat} (h : runK cx K fs .norm s = r) : runK cx K (.seq (.label l) :: fs) .norm s = r := h
theorem go_seq {a b : Code} (h : runK cx K (.seq a :: .seq b :: fs) .norm s = r) : runK cx K (.seq (.seq a b) :: fs) .norm s = r := by
  rw [← h]
  show execK cx a none _ s = execK cx a none (runK cx K (.seq b :: fs)) s
  congr 1
theorem go_block {id : Nat} {a : Code} (h : runK cx K (.seq a :: .block id :: fs) .norm s = r) : runK cx K (.seq (.block id a) :: fs) .norm s = r := by
  rw [← h]
  show execK cx a none _ s = execK cx a none (runK cx K (.block id :: fs)) s
  congr 1
theorem go_scope {a : Code} (h : runK cx K (.seq a :: .scope a :: fs) .norm s = r) : runK cx K (.seq (.scope a) :: fs) .norm s = r := by
  rw [← h]
  show execK cx a none _ s = execK cx a none (runK cx K (.scope a :: fs)) s
  congr 1
theorem go_exit {id : Nat} (h : runK cx K fs (.exit id) s = r) : runK cx K (.seq (.exit id) :: fs) .norm s = r := h
theorem go_goto {id : Nat} (h : runK cx K fs (.goto id) s = r) : runK cx K (.seq (.goto id) :: fs) .norm s = r := h
theorem go_ret (h : runK cx K fs .ret s = r) : runK cx K (.seq .ret :: fs) .norm s = r := h
theorem rt_seq_exit {c : Code} {id : Nat} (h : runK cx K fs (.exit id) s = r) : runK cx K (.seq c :: fs) (.exit id) s = r := h
theorem rt_seq_goto {c : Code} {id : Nat} (h : runK cx K fs (.goto id) s = r) : runK cx K (.seq c :: fs) (.goto id) s = r := h
theorem rt_seq_ret {c : Code} (h : runK cx K fs .ret s = r) : runK cx K (.seq c :: fs) .ret s = r := h
theorem rt_block_eq {id : Nat} (h : runK cx K fs .norm s = r) : runK cx K (.block id :: fs) (.exit id) s = r := by rw [← h]; simp [runK]
theorem rt_block_ne {id id' : Nat} (hn : (id' == id) = false) (h : runK cx K fs (.exit id') s = r) : runK cx K (.block id :: fs) (.exit id') s = r := by
  rw [← h]
  simp only [runK]
  rw [if_neg (by simpa using hn)]
theorem rt_block_norm {id : Nat} (h : runK cx K fs .norm s = r) : runK cx K (.block id :: fs) .norm s = r := h
theorem rt_block_goto {id l : Nat} (h : runK cx K fs (.goto l) s = r) : runK cx K (.block id :: fs) (.goto l) s = r := h
theorem rt_block_ret {id : Nat} (h : runK cx K fs .ret s = r) : runK cx K (.block id :: fs) .ret s = r := h
theorem rt_scope_norm {a : Code} (h : runK cx K fs .norm s = r) : runK cx K (.scope a :: fs) .norm s = r := h
theorem rt_scope_exit {a : Code} {l : Nat} (h : runK cx K fs (.exit l) s = r) : runK cx K (.scope a :: fs) (.exit l) s = r := h
theorem rt_scope_ret {a : Code} (h : runK cx K fs .ret s = r) : runK cx K (.scope a :: fs) .ret s = r := h
theorem rt_scope_off {a : Code} {l : Nat} (hl : hasLabel l a = false) (h : runK cx K fs (.goto l) s = r) : runK cx K (.scope a :: fs) (.goto l) s = r := by
  rw [← h]
  simp only [runK]
  rw [hl]
  rfl
theorem rt_scope2_norm {a : Code} (h : runK cx K fs .norm s = r) : runK cx K (.scope2 a :: fs) .norm s = r := h
theorem rt_scope2_exit {a : Code} {l : Nat} (h : runK cx K fs (.exit l) s = r) : runK cx K (.scope2 a :: fs) (.exit l) s = r := h
theorem rt_scope2_ret {a : Code} (h : runK cx K fs .ret s = r) : runK cx K (.scope2 a :: fs) .ret s = r := h
theorem rt_scope2_off {a : Code} {l : Nat} (hl : hasLabel l a = false) (h : runK cx K fs (.goto l) s = r) : runK cx K (.scope2 a :: fs) (.goto l) s = r := by
  rw [← h]
  simp only [runK]
  rw [hl]
  rfl

/-- A piece of code, from a label on. -/
def fromL (cx : Cx) (K : Out → St → Res) (c : Code) (l : Nat) (fs : List Fr) (s : St) : Res := execK cx c (some l) (runK cx K fs) s
theorem rt_scope_on {a : Code} {l : Nat} (hl : hasLabel l a = true) (h : fromL cx K a l (.scope2 a :: fs) s = r) : runK cx K (.scope a :: fs) (.goto l) s = r := by
  rw [← h]
  simp only [runK]
  rw [hl]
  simp only [if_true, fromL]
  congr 1
theorem fl_left {a b : Code} {l : Nat} (hl : hasLabel l a = true) (h : fromL cx K a l (.seq b :: fs) s = r) : fromL cx K (.seq a b) l fs s = r := by
  rw [← h]
  simp only [fromL, execK, hl, if_true]
  congr 1
theorem fl_right {a b : Code} {l : Nat} (hl : hasLabel l a = false) (h : fromL cx K b l fs s = r) : fromL cx K (.seq a b) l fs s = r := by
  rw [← h]
  simp [fromL, execK, hl]
theorem fl_label {l : Nat} (h : runK cx K fs .norm s = r) : fromL cx K (.label l) l fs s = r := by
  rw [← h]
  simp [fromL, execK]

theorem go_cond {c : Operand} {a b : Code} {v : V} {A B : Res} (hc : evO s.env c = some v) (hA : runK cx K (.seq a :: fs) .norm s = A) (hB : runK cx K (.seq b :: fs) .norm s = B) :
    runK cx K (.seq (.cond c a b) :: fs) .norm s = cnd v A B := by
  rw [← hA, ← hB]
  show execK cx (.cond c a b) none (runK cx K fs) s = _
  simp only [execK, hc]
  cases v with
  | lit x => cases x <;> rfl
  | _ => rfl
theorem go_reg0 {id : Nat} {ops : Array Oper} (h : opsP cx (.region id ops false) 0 s.H.length ([], []) (runK cx K fs) s = r) : runK cx K (.seq (.region id ops false) :: fs) .norm s = r := by
  rw [← h]
  show execK cx (.region id ops false) none (runK cx K fs) s = _
  simp [execK, opsP, rgFor, opsOf, stepsOf]
theorem go_reg1 {id : Nat} {ops : Array Oper} (hok : regOk ops = true) (h : opsP cx (.region id ops true) 0 s.H.length ([], []) (runK cx K fs) s = r) : runK cx K (.seq (.region id ops true) :: fs) .norm s = r := by
  rw [← h]
  show execK cx (.region id ops true) none (runK cx K fs) s = _
  simp [execK, opsP, rgFor, opsOf, stepsOf, hok]

section ops
variable {id j n0 : Nat} {ops : Array Oper} {a : List Nat × List Nat} {env : List V} {H : Hp} {o : Oper} {i : Nat} {L : List Nat}

theorem go_end0 (hs : ops.toList[j]? = none) (h : K .norm s = r) : opsP cx (.region id ops false) j n0 a K s = r := by
  rw [← h]
  have : (ops.toList.zipIdx).drop j = [] := by
    rw [List.drop_eq_nil_iff]
    simpa using List.getElem?_eq_none_iff.1 hs
  simp [opsP, rgFor, opsOf, stepsOf, this, opsK, Rg.none]

theorem drop0 (hs : ops.toList[j]? = some o) : (ops.toList.zipIdx).drop j = (o, j) :: (ops.toList.zipIdx).drop (j + 1) := by
  have h1 : (ops.toList.zipIdx)[j]? = some (o, j) := by simp [List.getElem?_zipIdx, hs]
  rw [List.getElem?_eq_some_iff] at h1
  obtain ⟨hj, he⟩ := h1
  rw [List.drop_eq_getElem_cons hj, he]

theorem drop1 (hL : orderIx ops = L) (hj : L[j]? = some i) (ho : ops.toList[i]? = some o) : (orderOf ops).drop j = (o, i) :: (orderOf ops).drop (j + 1) := by
  subst hL
  simp only [orderIx, List.getElem?_map, Option.map_eq_some_iff] at hj
  obtain ⟨p, hp, rfl⟩ := hj
  have hm : p ∈ orderOf ops := List.mem_of_getElem? hp
  have hz : p ∈ ops.toList.zipIdx := by
    simp only [orderOf, List.mem_append, List.mem_filter] at hm
    rcases hm with h | h <;> exact h.1
  have hx : ops.toList[p.2]? = some p.1 := by
    obtain ⟨x, k⟩ := p
    simpa [List.mem_zipIdx_iff_getElem?] using hz
  rw [hx] at ho
  cases ho
  rw [List.getElem?_eq_some_iff] at hp
  obtain ⟨hj, he⟩ := hp
  rw [List.drop_eq_getElem_cons hj, he]

/-- The next operation, with no guard. -/
theorem go_op0 (hs : ops.toList[j]? = some o) (hg : o.guard = none)
    (h : (opV cx false true o.op env H).bind (fun p => opsP cx (.region id ops false) (j + 1) n0 a K ⟨putE env o.dst p.1, p.2⟩) = r) : opsP cx (.region id ops false) j n0 a K ⟨env, H⟩ = r := by
  rw [← h]
  simp only [opsP, rgFor, opsOf, stepsOf, Bool.false_eq_true, if_false, drop0 hs]
  simp only [opsK, hg]
  simp [strictOk, Rg.none, logA]

theorem go_end1 (hL : orderIx ops = L) (hj : L[j]? = none) (ha : (rgOf ops).any = false) (h : K .norm s = r) : opsP cx (.region id ops true) j n0 a K s = r := by
  rw [← h]
  have : (orderOf ops).drop j = [] := by
    rw [List.drop_eq_nil_iff]
    subst hL
    simpa [orderIx] using List.getElem?_eq_none_iff.1 hj
  simp [opsP, rgFor, opsOf, stepsOf, this, opsK, ha]

/-- An operation that may look at old blocks alone. -/
def sx (n0 : Nat) (st : Bool) (op : Op) (env : List V) (x : Res) : Res := if strictOk n0 st op env then x else none
theorem st_no {st : Bool} {op : Op} {x : Res} (hst : st = false) (h : x = r) : sx n0 st op env x = r := by
  subst hst
  simpa [sx, strictOk] using h
theorem st_yes {st : Bool} {op : Op} {x : Res} {v : V} (hst : strictOk n0 st op env = stB n0 v) (h : x = r) : sx n0 st op env x = stO n0 v r := by
  rw [← h]
  unfold sx stO
  rw [hst]

theorem go_op1 (hL : orderIx ops = L) (ha : (rgOf ops).any = false) (hj : L[j]? = some i) (ho : ops.toList[i]? = some o) (hg : o.guard = none)
    (h : sx n0 ((rgOf ops).strict i) o.op env ((opV cx ((rgOf ops).calm i) ((rgOf ops).ord i) o.op env H).bind (fun p => opsP cx (.region id ops true) (j + 1) n0 a K ⟨putE env o.dst p.1, p.2⟩)) = r) : opsP cx (.region id ops true) j n0 a K ⟨env, H⟩ = r := by
  rw [← h]
  simp only [opsP, rgFor, opsOf, stepsOf, if_true, drop1 hL hj ho]
  simp only [opsK, hg]
  simp [logA, ha, sx]

theorem onGuard_run {R : Type} {b want : Bool} {d : Tmp} {env : List V} {run skip : List V → Option R} (h : b = want) : onGuard b want d env run skip = run (env.set d (.lit (.bool b))) := by
  subst h
  cases b <;> rfl
theorem onGuard_skip {R : Type} {b want : Bool} {d : Tmp} {env : List V} {run skip : List V → Option R} (h : b = !want) : onGuard b want d env run skip = skip (env.set d (.lit (.bool b))) := by
  subst h
  cases want <;> rfl

variable {gj d : Nat} {v : V} {A B C : Res}

theorem go_gdT0 (hs : ops.toList[j]? = some o) (hg : o.guard = some (gj, true)) (hd : (ops[gj]?).bind (·.dst) = some d) (hc : env[d]? = some v)
    (hA : (opV cx false true o.op (env.set d (.lit (.bool true))) H).bind (fun p => opsP cx (.region id ops false) (j + 1) n0 a K ⟨putE (env.set d (.lit (.bool true))) o.dst p.1, p.2⟩) = A)
    (hB : opsP cx (.region id ops false) (j + 1) n0 a K ⟨putE (env.set d (.lit (.bool false))) o.dst uu, H⟩ = B)
    (hC : opsP cx (.region id ops false) (j + 1) n0 a K ⟨putE env o.dst uu, H⟩ = C) : opsP cx (.region id ops false) j n0 a K ⟨env, H⟩ = gd v A B C := by
  rw [← hA, ← hB, ← hC]
  simp only [opsP, rgFor, opsOf, stepsOf, Bool.false_eq_true, if_false, drop0 hs]
  simp only [opsK, hg, hd, hc]
  simp only [strictOk, Rg.none, logA, Bool.false_eq_true, if_false, if_true, onGuard, gd]
  cases v with
  | lit x => cases x <;> rfl
  | _ => rfl
theorem go_gdF0 (hs : ops.toList[j]? = some o) (hg : o.guard = some (gj, false)) (hd : (ops[gj]?).bind (·.dst) = some d) (hc : env[d]? = some v)
    (hA : opsP cx (.region id ops false) (j + 1) n0 a K ⟨putE (env.set d (.lit (.bool true))) o.dst uu, H⟩ = A)
    (hB : (opV cx false true o.op (env.set d (.lit (.bool false))) H).bind (fun p => opsP cx (.region id ops false) (j + 1) n0 a K ⟨putE (env.set d (.lit (.bool false))) o.dst p.1, p.2⟩) = B)
    (hC : opsP cx (.region id ops false) (j + 1) n0 a K ⟨putE env o.dst uu, H⟩ = C) : opsP cx (.region id ops false) j n0 a K ⟨env, H⟩ = gd v A B C := by
  rw [← hA, ← hB, ← hC]
  simp only [opsP, rgFor, opsOf, stepsOf, Bool.false_eq_true, if_false, drop0 hs]
  simp only [opsK, hg, hd, hc]
  simp only [strictOk, Rg.none, logA, Bool.false_eq_true, if_false, if_true, onGuard, gd]
  cases v with
  | lit x => cases x <;> rfl
  | _ => rfl
theorem go_run0 {b : Bool} (hs : ops.toList[j]? = some o) (hg : o.guard = some (gj, b)) (hd : (ops[gj]?).bind (·.dst) = some d) (hc : env[d]? = some (.lit (.bool b)))
    (h : (opV cx false true o.op (env.set d (.lit (.bool b))) H).bind (fun p => opsP cx (.region id ops false) (j + 1) n0 a K ⟨putE (env.set d (.lit (.bool b))) o.dst p.1, p.2⟩) = r) : opsP cx (.region id ops false) j n0 a K ⟨env, H⟩ = r := by
  rw [← h]
  simp only [opsP, rgFor, opsOf, stepsOf, Bool.false_eq_true, if_false, drop0 hs]
  simp only [opsK, hg, hd, hc, onGuard_run rfl]
  simp only [strictOk, Rg.none, logA, Bool.false_eq_true, if_false, if_true]
theorem go_skip0 {b : Bool} (hs : ops.toList[j]? = some o) (hg : o.guard = some (gj, b)) (hd : (ops[gj]?).bind (·.dst) = some d) (hc : env[d]? = some (.lit (.bool !b)))
    (h : opsP cx (.region id ops false) (j + 1) n0 a K ⟨putE (env.set d (.lit (.bool !b))) o.dst uu, H⟩ = r) : opsP cx (.region id ops false) j n0 a K ⟨env, H⟩ = r := by
  rw [← h]
  simp only [opsP, rgFor, opsOf, stepsOf, Bool.false_eq_true, if_false, drop0 hs]
  simp only [opsK, hg, hd, hc, onGuard_skip rfl]
  rfl
theorem go_none0 {x : Array Value} {b : Bool} (hs : ops.toList[j]? = some o) (hg : o.guard = some (gj, b)) (hd : (ops[gj]?).bind (·.dst) = some d) (hc : env[d]? = some (.lit (.tuple x)))
    (h : opsP cx (.region id ops false) (j + 1) n0 a K ⟨putE env o.dst uu, H⟩ = r) : opsP cx (.region id ops false) j n0 a K ⟨env, H⟩ = r := by
  rw [← h]
  simp only [opsP, rgFor, opsOf, stepsOf, Bool.false_eq_true, if_false, drop0 hs]
  simp only [opsK, hg, hd, hc]
  rfl

theorem go_gdT1 (hL : orderIx ops = L) (ha : (rgOf ops).any = false) (hj : L[j]? = some i) (ho : ops.toList[i]? = some o) (hg : o.guard = some (gj, true)) (hd : (ops[gj]?).bind (·.dst) = some d) (hc : env[d]? = some v)
    (hA : sx n0 ((rgOf ops).strict i) o.op (env.set d (.lit (.bool true))) ((opV cx ((rgOf ops).calm i) ((rgOf ops).ord i) o.op (env.set d (.lit (.bool true))) H).bind (fun p => opsP cx (.region id ops true) (j + 1) n0 a K ⟨putE (env.set d (.lit (.bool true))) o.dst p.1, p.2⟩)) = A)
    (hB : opsP cx (.region id ops true) (j + 1) n0 a K ⟨putE (env.set d (.lit (.bool false))) o.dst uu, H⟩ = B)
    (hC : opsP cx (.region id ops true) (j + 1) n0 a K ⟨putE env o.dst uu, H⟩ = C) : opsP cx (.region id ops true) j n0 a K ⟨env, H⟩ = gd v A B C := by
  rw [← hA, ← hB, ← hC]
  simp only [opsP, rgFor, opsOf, stepsOf, if_true, drop1 hL hj ho]
  simp only [opsK, hg, hd, hc]
  simp only [sx, logA, ha, Bool.false_eq_true, if_false, onGuard, gd]
  cases v with
  | lit x => cases x <;> rfl
  | _ => rfl
theorem go_gdF1 (hL : orderIx ops = L) (ha : (rgOf ops).any = false) (hj : L[j]? = some i) (ho : ops.toList[i]? = some o) (hg : o.guard = some (gj, false)) (hd : (ops[gj]?).bind (·.dst) = some d) (hc : env[d]? = some v)
    (hA : opsP cx (.region id ops true) (j + 1) n0 a K ⟨putE (env.set d (.lit (.bool true))) o.dst uu, H⟩ = A)
    (hB : sx n0 ((rgOf ops).strict i) o.op (env.set d (.lit (.bool false))) ((opV cx ((rgOf ops).calm i) ((rgOf ops).ord i) o.op (env.set d (.lit (.bool false))) H).bind (fun p => opsP cx (.region id ops true) (j + 1) n0 a K ⟨putE (env.set d (.lit (.bool false))) o.dst p.1, p.2⟩)) = B)
    (hC : opsP cx (.region id ops true) (j + 1) n0 a K ⟨putE env o.dst uu, H⟩ = C) : opsP cx (.region id ops true) j n0 a K ⟨env, H⟩ = gd v A B C := by
  rw [← hA, ← hB, ← hC]
  simp only [opsP, rgFor, opsOf, stepsOf, if_true, drop1 hL hj ho]
  simp only [opsK, hg, hd, hc]
  simp only [sx, logA, ha, Bool.false_eq_true, if_false, onGuard, gd]
  cases v with
  | lit x => cases x <;> rfl
  | _ => rfl
theorem go_run1 {b : Bool} (hL : orderIx ops = L) (ha : (rgOf ops).any = false) (hj : L[j]? = some i) (ho : ops.toList[i]? = some o) (hg : o.guard = some (gj, b)) (hd : (ops[gj]?).bind (·.dst) = some d) (hc : env[d]? = some (.lit (.bool b)))
    (h : sx n0 ((rgOf ops).strict i) o.op (env.set d (.lit (.bool b))) ((opV cx ((rgOf ops).calm i) ((rgOf ops).ord i) o.op (env.set d (.lit (.bool b))) H).bind (fun p => opsP cx (.region id ops true) (j + 1) n0 a K ⟨putE (env.set d (.lit (.bool b))) o.dst p.1, p.2⟩)) = r) : opsP cx (.region id ops true) j n0 a K ⟨env, H⟩ = r := by
  rw [← h]
  simp only [opsP, rgFor, opsOf, stepsOf, if_true, drop1 hL hj ho]
  simp only [opsK, hg, hd, hc, onGuard_run rfl]
  simp only [sx, logA, ha, Bool.false_eq_true, if_false]
theorem go_skip1 {b : Bool} (hL : orderIx ops = L) (hj : L[j]? = some i) (ho : ops.toList[i]? = some o) (hg : o.guard = some (gj, b)) (hd : (ops[gj]?).bind (·.dst) = some d) (hc : env[d]? = some (.lit (.bool !b)))
    (h : opsP cx (.region id ops true) (j + 1) n0 a K ⟨putE (env.set d (.lit (.bool !b))) o.dst uu, H⟩ = r) : opsP cx (.region id ops true) j n0 a K ⟨env, H⟩ = r := by
  rw [← h]
  simp only [opsP, rgFor, opsOf, stepsOf, if_true, drop1 hL hj ho]
  simp only [opsK, hg, hd, hc, onGuard_skip rfl]
  rfl
theorem go_none1 {x : Array Value} {b : Bool} (hL : orderIx ops = L) (hj : L[j]? = some i) (ho : ops.toList[i]? = some o) (hg : o.guard = some (gj, b)) (hd : (ops[gj]?).bind (·.dst) = some d) (hc : env[d]? = some (.lit (.tuple x)))
    (h : opsP cx (.region id ops true) (j + 1) n0 a K ⟨putE env o.dst uu, H⟩ = r) : opsP cx (.region id ops true) j n0 a K ⟨env, H⟩ = r := by
  rw [← h]
  simp only [opsP, rgFor, opsOf, stepsOf, if_true, drop1 hL hj ho]
  simp only [opsK, hg, hd, hc]
  rfl
end ops

/-- What an operation comes to. -/
theorem st_bm {X : Option (V × Hp)} {F : V × Hp → Res} {x : Option V} {H : Hp} {k : V → Hp → Res} (h1 : X = x.map fun v => (v, H)) (h2 : ∀ v h, F (v, h) = k v h) : X.bind F = bm x H k := by
  subst h1
  cases x with
  | none => rfl
  | some v => exact h2 v H
theorem st_bp {X x : Option (V × Hp)} {F : V × Hp → Res} {k : V → Hp → Res} (h1 : X = x) (h2 : ∀ v h, F (v, h) = k v h) : X.bind F = bp x k := by
  subst h1
  cases X with
  | none => rfl
  | some p => exact h2 p.1 p.2
theorem st_bs {X : Option (V × Hp)} {F : V × Hp → Res} {x : Option Hp} {k : Hp → Res} (h1 : X = x.map fun H' => (uu, H')) (h2 : ∀ h, F (uu, h) = k h) : X.bind F = bs x k := by
  subst h1
  cases x with
  | none => rfl
  | some h => exact h2 h
theorem st_id {X : Option (V × Hp)} {F : V × Hp → Res} {v : V} {H : Hp} (h1 : X = some (v, H)) (h2 : F (v, H) = r) : X.bind F = r := by
  subst h1
  exact h2
theorem itX_step {c : Code} {n0 n : Nat} (h : runK cx (nextK cx c n0 K n) [.seq c] .norm s = r) : itX cx c n0 K (n + 1) s = r := by
  rw [← h]
  show execK cx c none _ s = execK cx c none (runK cx (nextK cx c n0 K n) []) s
  congr 1
end steps
end Go.Ab
