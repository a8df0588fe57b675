import Derived.Test.YtecgfaaaloameaaAbLibB
/- The abstract evaluator, point by point: code reached by its place, continuations by name, an operation as one word. -/
namespace Go.Ab

/-- A part of a piece of code, by its place. -/
def codeAt : Code → List Nat → Code
  | c, [] => c
  | .seq a b, i :: p => if i = 0 then codeAt a p else codeAt b p
  | .cond _ a b, i :: p => if i = 0 then codeAt a p else codeAt b p
  | .block _ a, _ :: p => codeAt a p
  | .loop a, _ :: p => codeAt a p
  | .scope a, _ :: p => codeAt a p
  | .rangeFunc _ _ a b, i :: p => if i = 0 then codeAt a p else codeAt b p
  | c, _ => c

def bodyOf (fn : Func) : Code := fn.body.getD .skip

/-- What an evaluation hangs on, but for the function. -/
structure Sys where
  P : Program
  orc : FuncId → Option (List V → Hp → Option (V × Hp))
  keepRes : FuncId → FuncId → Option (Nat → Bool)
  keepArg : FuncId → Bool
  call : Nat → FuncId → List V → Hp → Option (V × Hp)
  yld : Nat → Nat → List V → Hp → Option (V × Hp)

/-- What is still to be done behind a piece of code. -/
inductive Fr where
  | seq (c : Code)
  | block (id : Nat)
  | scope (a : Code)
  | scope2 (a : Code)

/-- A slot that nothing was laid in. -/
def uu : V := .lit undef

abbrev Res := Option (V × Hp)

def runK (cx : Cx) (K : Out → St → Res) : List Fr → Out → St → Res
  | [], o, s => K o s
  | .seq c :: fs, o, s => match o with
    | .norm => execK cx c none (runK cx K fs) s
    | o => runK cx K fs o s
  | .block id :: fs, o, s => match o with
    | .exit id' => if id' = id then runK cx K fs .norm s else runK cx K fs (.exit id') s
    | o => runK cx K fs o s
  | .scope a :: fs, o, s => match o with
    | .goto l => if hasLabel l a then execK cx a (some l) (fun o' s'' => match o' with | .goto l' => if hasLabel l' a then none else runK cx K fs (.goto l') s'' | o' => runK cx K fs o' s'') s else runK cx K fs (.goto l) s
    | o => runK cx K fs o s
  | .scope2 a :: fs, o, s => match o with
    | .goto l => if hasLabel l a then none else runK cx K fs (.goto l) s
    | o => runK cx K fs o s

/-- A loop's rounds. -/
def itX (cx : Cx) (c : Code) (n0 : Nat) (K : Out → St → Res) (n : Nat) (s : St) : Res :=
  iterK (execK cx c none) n0 (cx.M.named cx.fid) (rwCode c ([], [])) K n s

/-- What is done behind a round. -/
def nextK (cx : Cx) (c : Code) (n0 : Nat) (K : Out → St → Res) (n : Nat) : Out → St → Res := fun o s' => match o with
  | .norm => itX cx c n0 K n (tidy n0 (dropT (cx.M.named cx.fid) (rwCode c ([], [])) false) s')
  | .ret => K .ret s'
  | o => K o (tidy n0 (dropT (cx.M.named cx.fid) (rwCode c ([], [])) true) s')

/-- A region's operations, in the order in which they are looked at. -/
def opsOf : Code → Array Oper
  | .region _ ops _ => ops
  | _ => #[]
def rgFor : Code → Rg
  | .region _ ops draw => if draw then rgOf ops else Rg.none
  | _ => Rg.none
def stepsOf : Code → List (Oper × Nat)
  | .region _ ops draw => if draw then orderOf ops else ops.toList.zipIdx
  | _ => []
def orderIx (ops : Array Oper) : List Nat := (orderOf ops).map (·.2)

/-- A region, from one of its operations on. -/
def opsP (cx : Cx) (c : Code) (j n0 : Nat) (a : List Nat × List Nat) (K : Out → St → Res) (s : St) : Res :=
  opsK cx n0 (rgFor c) (opsOf c) ((stepsOf c).drop j) a (K .norm) s

/-- The end of a function's body. -/
def bodyK (P : Program) (fn : Func) : Out → St → Res := fun o s => match o with
  | .norm => (resultsV P fn.results.toList s).map fun v => (v, s.H)
  | .ret => (resultsV P fn.results.toList s).map fun v => (v, s.H)
  | _ => none

def bm (x : Option V) (H : Hp) (k : V → Hp → Res) : Res := (x.map fun v => (v, H)).bind fun p => k p.1 p.2
def bp (x : Option (V × Hp)) (k : V → Hp → Res) : Res := x.bind fun p => k p.1 p.2
def bs (x : Option Hp) (k : Hp → Res) : Res := (x.map fun H' => (V.lit undef, H')).bind fun p => k p.2
def cnd (c : V) (a b : Res) : Res := match c with
  | .lit (.bool t) => bif t then a else b
  | _ => none
/-- A guard. -/
def gd (c : V) (a b u : Res) : Res := match c with
  | .lit (.bool t) => bif t then a else b
  | .lit (.tuple _) => u
  | _ => none
def opAlloc (P : Program) (t : TypeId) (H : Hp) : Option (V × Hp) :=
  (zeroOf P t).bind fun z => if onesL (zeroCs z) then let p := matL (zeroCs z) H; some (.ptr p.2.length 0 0 0, p.2 ++ [.box p.1]) else none
def opBox (v : V) (H : Hp) : Option (V × Hp) := v.cells.bind fun vs => let p := matL vs H; some (.ptr p.2.length 0 0 0, p.2 ++ [.box p.1])
def opBuildSliceC (P : Program) (wl : Nat) (t : TypeId) (len : Nat) (l : List (Nat × V)) (H : Hp) : Option (V × Hp) :=
  if true && !pureL (l.map (·.2)) then none else vBuildSlice P wl t len l H
def opLen (P : Program) (t : TypeId) (x : V) (H : Hp) : Option (V × Hp) := if (elemT P t).isSome then (vLen x H).map fun v => (v, H) else none
def opApp (P : Program) (wl : Nat) (t u : TypeId) (s x : V) (H : Hp) : Option (V × Hp) := if (elemT P u).isSome then vAppend P wl t s x H else none
def apt (a : List Nat × List Nat) (k : Res) : Res := if apartA a then k else none
def lgR (v : V) (a : List Nat × List Nat) : List Nat × List Nat := match idOf v with | some k => (k :: a.1, a.2) | none => a
def lgW (v : V) (a : List Nat × List Nat) : List Nat × List Nat := match idOf v with | some k => (a.1, k :: a.2) | none => a
def stB (n0 : Nat) (v : V) : Bool := match idOf v with | some i => i < n0 | none => true
def stO (n0 : Nat) (v : V) (k : Res) : Res := if stB n0 v then k else none
def res1 (x : Option V) (H : Hp) : Res := (x.bind fun v => some v).map fun v => (v, H)
def resL : List (Option V) → Option (List V)
  | [] => some []
  | x :: xs => x.bind fun v => (resL xs).bind fun vs => some (v :: vs)
def resO (l : List (Option V)) (H : Hp) : Res := ((resL l).bind fun vs => match vs with | [v] => some v | vs => some (.tup vs)).map fun v => (v, H)

/-! ### Steps -/
section steps
variable {cx : Cx} {K : Out → St → Res} {fs : List Fr} {s : St} {r : Res}

theorem bodyV_run {fn : Func} {args : List V} {H : Hp} {c : Code} (hb : fn.body = some c) (h : runK cx (bodyK cx.P fn) [.seq c] .norm ⟨args ++ List.replicate (fn.ntmps - args.length) uu, H⟩ = r) : bodyV cx fn args H = r := by
  rw [← h]
  unfold bodyV
  rw [hb]
  have : (fun o s => match o with
      | .norm => (resultsV cx.P fn.results.toList s).map fun v => (v, s.H)
      | .ret => (resultsV cx.P fn.results.toList s).map fun v => (v, s.H)
      | _ => none : Out → St → Res) = runK cx (bodyK cx.P fn) [] := by
    funext o s
    cases o <;> rfl
  show execK cx c none _ _ = execK cx c none (runK cx (bodyK cx.P fn) []) _
  rw [← this]
  rfl

theorem go_skip (h : runK cx K fs .norm s = r) : runK cx K (.seq .skip :: fs) .norm s = r := h
theorem go_label {l : Nat} (h : runK cx K fs .norm s = r) : runK cx K (.seq (.label l) :: fs) .norm s = r := h
theorem go_seq {a b : Code} (h : runK cx K (.seq a :: .seq b :: fs) .norm s = r) : runK cx K (.seq (.seq a b) :: fs) .norm s = r := by
  rw [← h]
  show execK cx a none _ s = execK cx a none (runK cx K (.seq b :: fs)) s
  congr 1
theorem go_block {id : Nat} {a : Code} (h : runK cx K (.seq a :: .block id :: fs) .norm s = r) : runK cx K (.seq (.block id a) :: fs) .norm s = r := by
  rw [← h]
  show execK cx a none _ s = execK cx a none (runK cx K (.block id :: fs)) s
  congr 1
theorem go_scope {a : Code} (h : runK cx K (.seq a :: .scope a :: fs) .norm s = r) : runK cx K (.seq (.scope a) :: fs) .norm s = r := by
  rw [← h]
  show execK cx a none _ s = execK cx a none (runK cx K (.scope a :: fs)) s
  congr 1
theorem go_exit {id : Nat} (h : runK cx K fs (.exit id) s = r) : runK cx K (.seq (.exit id) :: fs) .norm s = r := h
theorem go_goto {id : Nat} (h : runK cx K fs (.goto id) s = r) : runK cx K (.seq (.goto id) :: fs) .norm s = r := h
theorem go_ret (h : runK cx K fs .ret s = r) : runK cx K (.seq .ret :: fs) .norm s = r := h
theorem rt_seq_exit {c : Code} {id : Nat} (h : runK cx K fs (.exit id) s = r) : runK cx K (.seq c :: fs) (.exit id) s = r := h
theorem rt_seq_goto {c : Code} {id : Nat} (h : runK cx K fs (.goto id) s = r) : runK cx K (.seq c :: fs) (.goto id) s = r := h
theorem rt_seq_ret {c : Code} (h : runK cx K fs .ret s = r) : runK cx K (.seq c :: fs) .ret s = r := h
theorem rt_block_eq {id : Nat} (h : runK cx K fs .norm s = r) : runK cx K (.block id :: fs) (.exit id) s = r := by rw [← h]; simp [runK]
theorem rt_block_ne {id id' : Nat} (hn : (id' == id) = false) (h : runK cx K fs (.exit id') s = r) : runK cx K (.block id :: fs) (.exit id') s = r := by
  rw [← h]
  simp only [runK]
  rw [if_neg (by simpa using hn)]
theorem rt_block_norm {id : Nat} (h : runK cx K fs .norm s = r) : runK cx K (.block id :: fs) .norm s = r := h
theorem rt_block_goto {id l : Nat} (h : runK cx K fs (.goto l) s = r) : runK cx K (.block id :: fs) (.goto l) s = r := h
theorem rt_block_ret {id : Nat} (h : runK cx K fs .ret s = r) : runK cx K (.block id :: fs) .ret s = r := h
theorem rt_scope_norm {a : Code} (h : runK cx K fs .norm s = r) : runK cx K (.scope a :: fs) .norm s = r := h
theorem rt_scope_exit {a : Code} {l : Nat} (h : runK cx K fs (.exit l) s = r) : runK cx K (.scope a :: fs) (.exit l) s = r := h
theorem rt_scope_ret {a : Code} (h : runK cx K fs .ret s = r) : runK cx K (.scope a :: fs) .ret s = r := h
theorem rt_scope_off {a : Code} {l : Nat} (hl : hasLabel l a = false) (h : runK cx K fs (.goto l) s = r) : runK cx K (.scope a :: fs) (.goto l) s = r := by
  rw [← h]
  simp only [runK]
  rw [hl]
  rfl
theorem rt_scope2_norm {a : Code} (h : runK cx K fs .norm s = r) : runK cx K (.scope2 a :: fs) .norm s = r := h
theorem rt_scope2_exit {a : Code} {l : Nat} (h : runK cx K fs (.exit l) s = r) : runK cx K (.scope2 a :: fs) (.exit l) s = r := h
theorem rt_scope2_ret {a : Code} (h : runK cx K fs .ret s = r) : runK cx K (.scope2 a :: fs) .ret s = r := h
theorem rt_scope2_off {a : Code} {l : Nat} (hl : hasLabel l a = false) (h : runK cx K fs (.goto l) s = r) : runK cx K (.scope2 a :: fs) (.goto l) s = r := by
  rw [← h]
  simp only [runK]
  rw [hl]
  rfl

/-- A piece of code, from a label on. -/
def fromL (cx : Cx) (K : Out → St → Res) (c : Code) (l : Nat) (fs : List Fr) (s : St) : Res := execK cx c (some l) (runK cx K fs) s
theorem rt_scope_on {a : Code} {l : Nat} (hl : hasLabel l a = true) (h : fromL cx K a l (.scope2 a :: fs) s = r) : runK cx K (.scope a :: fs) (.goto l) s = r := by
  rw [← h]
  simp only [runK]
  rw [hl]
  simp only [if_true, fromL]
  congr 1
theorem fl_left {a b : Code} {l : Nat} (hl : hasLabel l a = true) (h : fromL cx K a l (.seq b :: fs) s = r) : fromL cx K (.seq a b) l fs s = r := by
  rw [← h]
  simp only [fromL, execK, hl, if_true]
  congr 1
theorem fl_right {a b : Code} {l : Nat} (hl : hasLabel l a = false) (h : fromL cx K b l fs s = r) : fromL cx K (.seq a b) l fs s = r := by
  rw [← h]
  simp [fromL, execK, hl]
theorem fl_label {l : Nat} (h : runK cx K fs .norm s = r) : fromL cx K (.label l) l fs s = r := by
  rw [← h]
  simp [fromL, execK]

theorem go_cond {c : Operand} {a b : Code} {v : V} {A B : Res} (hc : evO s.env c = some v) (hA : runK cx K (.seq a :: fs) .norm s = A) (hB : runK cx K (.seq b :: fs) .norm s = B) :
    runK cx K (.seq (.cond c a b) :: fs) .norm s = cnd v A B := by
  rw [← hA, ← hB]
  show execK cx (.cond c a b) none (runK cx K fs) s = _
  simp only [execK, hc]
  cases v with
  | lit x => cases x <;> rfl
  | _ => rfl
theorem go_reg0 {id : Nat} {ops : Array Oper} (h : opsP cx (.region id ops false) 0 s.H.length ([], []) (runK cx K fs) s = r) : runK cx K (.seq (.region id ops false) :: fs) .norm s = r := by
  rw [← h]
  show execK cx (.region id ops false) none (runK cx K fs) s = _
  simp [execK, opsP, rgFor, opsOf, stepsOf]
theorem go_reg1 {id : Nat} {ops : Array Oper} (hok : regOk ops = true) (h : opsP cx (.region id ops true) 0 s.H.length ([], []) (runK cx K fs) s = r) : runK cx K (.seq (.region id ops true) :: fs) .norm s = r := by
  rw [← h]
  show execK cx (.region id ops true) none (runK cx K fs) s = _
  simp [execK, opsP, rgFor, opsOf, stepsOf, hok]

section ops
variable {id j n0 : Nat} {ops : Array Oper} {a : List Nat × List Nat} {env : List V} {H : Hp} {o : Oper} {i : Nat} {L : List Nat}

theorem go_end0 (hs : ops.toList[j]? = none) (h : K .norm s = r) : opsP cx (.region id ops false) j n0 a K s = r := by
  rw [← h]
  have : (ops.toList.zipIdx).drop j = [] := by
    rw [List.drop_eq_nil_iff]
    simpa using List.getElem?_eq_none_iff.1 hs
  simp [opsP, rgFor, opsOf, stepsOf, this, opsK, Rg.none]

theorem drop0 (hs : ops.toList[j]? = some o) : (ops.toList.zipIdx).drop j = (o, j) :: (ops.toList.zipIdx).drop (j + 1) := by
  have h1 : (ops.toList.zipIdx)[j]? = some (o, j) := by simp [List.getElem?_zipIdx, hs]
  rw [List.getElem?_eq_some_iff] at h1
  obtain ⟨hj, he⟩ := h1
  rw [List.drop_eq_getElem_cons hj, he]

theorem drop1 (hL : orderIx ops = L) (hj : L[j]? = some i) (ho : ops.toList[i]? = some o) : (orderOf ops).drop j = (o, i) :: (orderOf ops).drop (j + 1) := by
  subst hL
  simp only [orderIx, List.getElem?_map, Option.map_eq_some_iff] at hj
  obtain ⟨p, hp, rfl⟩ := hj
  have hm : p ∈ orderOf ops := List.mem_of_getElem? hp
  have hz : p ∈ ops.toList.zipIdx := by
    simp only [orderOf, List.mem_append, List.mem_filter] at hm
    rcases hm with h | h <;> exact h.1
  have hx : ops.toList[p.2]? = some p.1 := by
    obtain ⟨x, k⟩ := p
    simpa [List.mem_zipIdx_iff_getElem?] using hz
  rw [hx] at ho
  cases ho
  rw [List.getElem?_eq_some_iff] at hp
  obtain ⟨hj, he⟩ := hp
  rw [List.drop_eq_getElem_cons hj, he]

/-- The next operation, with no guard. -/
theorem go_op0 (hs : ops.toList[j]? = some o) (hg : o.guard = none)
    (h : (opV cx false true o.op env H).bind (fun p => opsP cx (.region id ops false) (j + 1) n0 a K ⟨putE env o.dst p.1, p.2⟩) = r) : opsP cx (.region id ops false) j n0 a K ⟨env, H⟩ = r := by
  rw [← h]
  simp only [opsP, rgFor, opsOf, stepsOf, Bool.false_eq_true, if_false, drop0 hs]
  simp only [opsK, hg]
  simp [strictOk, Rg.none, logA]

theorem go_end1 (hL : orderIx ops = L) (hj : L[j]? = none) (ha : (rgOf ops).any = false) (h : K .norm s = r) : opsP cx (.region id ops true) j n0 a K s = r := by
  rw [← h]
  have : (orderOf ops).drop j = [] := by
    rw [List.drop_eq_nil_iff]
    subst hL
    simpa [orderIx] using List.getElem?_eq_none_iff.1 hj
  simp [opsP, rgFor, opsOf, stepsOf, this, opsK, ha]

/-- An operation that may look at old blocks alone. -/
def sx (n0 : Nat) (st : Bool) (op : Op) (env : List V) (x : Res) : Res := if strictOk n0 st op env then x else none
theorem st_no {st : Bool} {op : Op} {x : Res} (hst : st = false) (h : x = r) : sx n0 st op env x = r := by
  subst hst
  simpa [sx, strictOk] using h
theorem st_yes {st : Bool} {op : Op} {x : Res} {v : V} (hst : strictOk n0 st op env = stB n0 v) (h : x = r) : sx n0 st op env x = stO n0 v r := by
  rw [← h]
  unfold sx stO
  rw [hst]

theorem go_op1 (hL : orderIx ops = L) (ha : (rgOf ops).any = false) (hj : L[j]? = some i) (ho : ops.toList[i]? = some o) (hg : o.guard = none)
    (h : sx n0 ((rgOf ops).strict i) o.op env ((opV cx ((rgOf ops).calm i) ((rgOf ops).ord i) o.op env H).bind (fun p => opsP cx (.region id ops true) (j + 1) n0 a K ⟨putE env o.dst p.1, p.2⟩)) = r) : opsP cx (.region id ops true) j n0 a K ⟨env, H⟩ = r := by
  rw [← h]
  simp only [opsP, rgFor, opsOf, stepsOf, if_true, drop1 hL hj ho]
  simp only [opsK, hg]
  simp [logA, ha, sx]

theorem onGuard_run {R : Type} {b want : Bool} {d : Tmp} {env : List V} {run skip : List V → Option R} (h : b = want) : onGuard b want d env run skip = run (env.set d (.lit (.bool b))) := by
  subst h
  cases b <;> rfl
theorem onGuard_skip {R : Type} {b want : Bool} {d : Tmp} {env : List V} {run skip : List V → Option R} (h : b = !want) : onGuard b want d env run skip = skip (env.set d (.lit (.bool b))) := by
  subst h
  cases want <;> rfl

variable {gj d : Nat} {v : V} {A B C : Res}

theorem go_gdT0 (hs : ops.toList[j]? = some o) (hg : o.guard = some (gj, true)) (hd : (ops[gj]?).bind (·.dst) = some d) (hc : env[d]? = some v)
    (hA : (opV cx false true o.op (env.set d (.lit (.bool true))) H).bind (fun p => opsP cx (.region id ops false) (j + 1) n0 a K ⟨putE (env.set d (.lit (.bool true))) o.dst p.1, p.2⟩) = A)
    (hB : opsP cx (.region id ops false) (j + 1) n0 a K ⟨putE (env.set d (.lit (.bool false))) o.dst uu, H⟩ = B)
    (hC : opsP cx (.region id ops false) (j + 1) n0 a K ⟨putE env o.dst uu, H⟩ = C) : opsP cx (.region id ops false) j n0 a K ⟨env, H⟩ = gd v A B C := by
  rw [← hA, ← hB, ← hC]
  simp only [opsP, rgFor, opsOf, stepsOf, Bool.false_eq_true, if_false, drop0 hs]
  simp only [opsK, hg, hd, hc]
  simp only [strictOk, Rg.none, logA, Bool.false_eq_true, if_false, if_true, onGuard, gd]
  cases v with
  | lit x => cases x <;> rfl
  | _ => rfl
theorem go_gdF0 (hs : ops.toList[j]? = some o) (hg : o.guard = some (gj, false)) (hd : (ops[gj]?).bind (·.dst) = some d) (hc : env[d]? = some v)
    (hA : opsP cx (.region id ops false) (j + 1) n0 a K ⟨putE (env.set d (.lit (.bool true))) o.dst uu, H⟩ = A)
    (hB : (opV cx false true o.op (env.set d (.lit (.bool false))) H).bind (fun p => opsP cx (.region id ops false) (j + 1) n0 a K ⟨putE (env.set d (.lit (.bool false))) o.dst p.1, p.2⟩) = B)
    (hC : opsP cx (.region id ops false) (j + 1) n0 a K ⟨putE env o.dst uu, H⟩ = C) : opsP cx (.region id ops false) j n0 a K ⟨env, H⟩ = gd v A B C := by
  rw [← hA, ← hB, ← hC]
  simp only [opsP, rgFor, opsOf, stepsOf, Bool.false_eq_true, if_false, drop0 hs]
  simp only [opsK, hg, hd, hc]
  simp only [strictOk, Rg.none, logA, Bool.false_eq_true, if_false, if_true, onGuard, gd]
  cases v with
  | lit x => cases x <;> rfl
  | _ => rfl
theorem go_run0 {b : Bool} (hs : ops.toList[j]? = some o) (hg : o.guard = some (gj, b)) (hd : (ops[gj]?).bind (·.dst) = some d) (hc : env[d]? = some (.lit (.bool b)))
    (h : (opV cx false true o.op (env.set d (.lit (.bool b))) H).bind (fun p => opsP cx (.region id ops false) (j + 1) n0 a K ⟨putE (env.set d (.lit (.bool b))) o.dst p.1, p.2⟩) = r) : opsP cx (.region id ops false) j n0 a K ⟨env, H⟩ = r := by
  rw [← h]
  simp only [opsP, rgFor, opsOf, stepsOf, Bool.false_eq_true, if_false, drop0 hs]
  simp only [opsK, hg, hd, hc, onGuard_run rfl]
  simp only [strictOk, Rg.none, logA, Bool.false_eq_true, if_false, if_true]
theorem go_skip0 {b : Bool} (hs : ops.toList[j]? = some o) (hg : o.guard = some (gj, b)) (hd : (ops[gj]?).bind (·.dst) = some d) (hc : env[d]? = some (.lit (.bool !b)))
    (h : opsP cx (.region id ops false) (j + 1) n0 a K ⟨putE (env.set d (.lit (.bool !b))) o.dst uu, H⟩ = r) : opsP cx (.region id ops false) j n0 a K ⟨env, H⟩ = r := by
  rw [← h]
  simp only [opsP, rgFor, opsOf, stepsOf, Bool.false_eq_true, if_false, drop0 hs]
  simp only [opsK, hg, hd, hc, onGuard_skip rfl]
  rfl
theorem go_none0 {x : Array Value} {b : Bool} (hs : ops.toList[j]? = some o) (hg : o.guard = some (gj, b)) (hd : (ops[gj]?).bind (·.dst) = some d) (hc : env[d]? = some (.lit (.tuple x)))
    (h : opsP cx (.region id ops false) (j + 1) n0 a K ⟨putE env o.dst uu, H⟩ = r) : opsP cx (.region id ops false) j n0 a K ⟨env, H⟩ = r := by
  rw [← h]
  simp only [opsP, rgFor, opsOf, stepsOf, Bool.false_eq_true, if_false, drop0 hs]
  simp only [opsK, hg, hd, hc]
  rfl

theorem go_gdT1 (hL : orderIx ops = L) (ha : (rgOf ops).any = false) (hj : L[j]? = some i) (ho : ops.toList[i]? = some o) (hg : o.guard = some (gj, true)) (hd : (ops[gj]?).bind (·.dst) = some d) (hc : env[d]? = some v)
    (hA : sx n0 ((rgOf ops).strict i) o.op (env.set d (.lit (.bool true))) ((opV cx ((rgOf ops).calm i) ((rgOf ops).ord i) o.op (env.set d (.lit (.bool true))) H).bind (fun p => opsP cx (.region id ops true) (j + 1) n0 a K ⟨putE (env.set d (.lit (.bool true))) o.dst p.1, p.2⟩)) = A)
    (hB : opsP cx (.region id ops true) (j + 1) n0 a K ⟨putE (env.set d (.lit (.bool false))) o.dst uu, H⟩ = B)
    (hC : opsP cx (.region id ops true) (j + 1) n0 a K ⟨putE env o.dst uu, H⟩ = C) : opsP cx (.region id ops true) j n0 a K ⟨env, H⟩ = gd v A B C := by
  rw [← hA, ← hB, ← hC]
  simp only [opsP, rgFor, opsOf, stepsOf, if_true, drop1 hL hj ho]
  simp only [opsK, hg, hd, hc]
  simp only [sx, logA, ha, Bool.false_eq_true, if_false, onGuard, gd]
  cases v with
  | lit x => cases x <;> rfl
  | _ => rfl
theorem go_gdF1 (hL : orderIx ops = L) (ha : (rgOf ops).any = false) (hj : L[j]? = some i) (ho : ops.toList[i]? = some o) (hg : o.guard = some (gj, false)) (hd : (ops[gj]?).bind (·.dst) = some d) (hc : env[d]? = some v)
    (hA : opsP cx (.region id ops true) (j + 1) n0 a K ⟨putE (env.set d (.lit (.bool true))) o.dst uu, H⟩ = A)
    (hB : sx n0 ((rgOf ops).strict i) o.op (env.set d (.lit (.bool false))) ((opV cx ((rgOf ops).calm i) ((rgOf ops).ord i) o.op (env.set d (.lit (.bool false))) H).bind (fun p => opsP cx (.region id ops true) (j + 1) n0 a K ⟨putE (env.set d (.lit (.bool false))) o.dst p.1, p.2⟩)) = B)
    (hC : opsP cx (.region id ops true) (j + 1) n0 a K ⟨putE env o.dst uu, H⟩ = C) : opsP cx (.region id ops true) j n0 a K ⟨env, H⟩ = gd v A B C := by
  rw [← hA, ← hB, ← hC]
  simp only [opsP, rgFor, opsOf, stepsOf, if_true, drop1 hL hj ho]
  simp only [opsK, hg, hd, hc]
  simp only [sx, logA, ha, Bool.false_eq_true, if_false, onGuard, gd]
  cases v with
  | lit x => cases x <;> rfl
  | _ => rfl
theorem go_run1 {b : Bool} (hL : orderIx ops = L) (ha : (rgOf ops).any = false) (hj : L[j]? = some i) (ho : ops.toList[i]? = some o) (hg : o.guard = some (gj, b)) (hd : (ops[gj]?).bind (·.dst) = some d) (hc : env[d]? = some (.lit (.bool b)))
    (h : sx n0 ((rgOf ops).strict i) o.op (env.set d (.lit (.bool b))) ((opV cx ((rgOf ops).calm i) ((rgOf ops).ord i) o.op (env.set d (.lit (.bool b))) H).bind (fun p => opsP cx (.region id ops true) (j + 1) n0 a K ⟨putE (env.set d (.lit (.bool b))) o.dst p.1, p.2⟩)) = r) : opsP cx (.region id ops true) j n0 a K ⟨env, H⟩ = r := by
  rw [← h]
  simp only [opsP, rgFor, opsOf, stepsOf, if_true, drop1 hL hj ho]
  simp only [opsK, hg, hd, hc, onGuard_run rfl]
  simp only [sx, logA, ha, Bool.false_eq_true, if_false]
theorem go_skip1 {b : Bool} (hL : orderIx ops = L) (hj : L[j]? = some i) (ho : ops.toList[i]? = some o) (hg : o.guard = some (gj, b)) (hd : (ops[gj]?).bind (·.dst) = some d) (hc : env[d]? = some (.lit (.bool !b)))
    (h : opsP cx (.region id ops true) (j + 1) n0 a K ⟨putE (env.set d (.lit (.bool !b))) o.dst uu, H⟩ = r) : opsP cx (.region id ops true) j n0 a K ⟨env, H⟩ = r := by
  rw [← h]
  simp only [opsP, rgFor, opsOf, stepsOf, if_true, drop1 hL hj ho]
  simp only [opsK, hg, hd, hc, onGuard_skip rfl]
  rfl
theorem go_none1 {x : Array Value} {b : Bool} (hL : orderIx ops = L) (hj : L[j]? = some i) (ho : ops.toList[i]? = some o) (hg : o.guard = some (gj, b)) (hd : (ops[gj]?).bind (·.dst) = some d) (hc : env[d]? = some (.lit (.tuple x)))
    (h : opsP cx (.region id ops true) (j + 1) n0 a K ⟨putE env o.dst uu, H⟩ = r) : opsP cx (.region id ops true) j n0 a K ⟨env, H⟩ = r := by
  rw [← h]
  simp only [opsP, rgFor, opsOf, stepsOf, if_true, drop1 hL hj ho]
  simp only [opsK, hg, hd, hc]
  rfl
end ops

/-- What an operation comes to. -/
theorem st_bm {X : Option (V × Hp)} {F : V × Hp → Res} {x : Option V} {H : Hp} {k : V → Hp → Res} (h1 : X = x.map fun v => (v, H)) (h2 : ∀ v h, F (v, h) = k v h) : X.bind F = bm x H k := by
  subst h1
  cases x with
  | none => rfl
  | some v => exact h2 v H
theorem st_bp {X x : Option (V × Hp)} {F : V × Hp → Res} {k : V → Hp → Res} (h1 : X = x) (h2 : ∀ v h, F (v, h) = k v h) : X.bind F = bp x k := by
  subst h1
  cases X with
  | none => rfl
  | some p => exact h2 p.1 p.2
theorem st_bs {X : Option (V × Hp)} {F : V × Hp → Res} {x : Option Hp} {k : Hp → Res} (h1 : X = x.map fun H' => (uu, H')) (h2 : ∀ h, F (uu, h) = k h) : X.bind F = bs x k := by
  subst h1
  cases x with
  | none => rfl
  | some h => exact h2 h
theorem st_id {X : Option (V × Hp)} {F : V × Hp → Res} {v : V} {H : Hp} (h1 : X = some (v, H)) (h2 : F (v, H) = r) : X.bind F = r := by
  subst h1
  exact h2
theorem itX_step {c : Code} {n0 n : Nat} (h : runK cx (nextK cx c n0 K n) [.seq c] .norm s = r) : itX cx c n0 K (n + 1) s = r := by
  rw [← h]
  show execK cx c none _ s = execK cx c none (runK cx (nextK cx c n0 K n) []) s
  congr 1
end steps
end Go.Ab

/- Operations on typed data: what each comes to, as rewriting rules. -/
namespace Go.Ab
section combinators
variable {H : Hp} {K : V → Hp → Res} {k : Hp → Res} {A B C : Res}
@[congr] theorem bm_congr {x y : Option V} (h : x = y) : bm x H K = bm y H K := by rw [h]
@[congr] theorem bp_congr {x y : Option (V × Hp)} (h : x = y) : bp x K = bp y K := by rw [h]
@[congr] theorem bs_congr {x y : Option Hp} (h : x = y) : bs x k = bs y k := by rw [h]
@[congr] theorem cnd_congr {x y : V} (h : x = y) : cnd x A B = cnd y A B := by rw [h]
@[congr] theorem gd_congr {x y : V} (h : x = y) : gd x A B C = gd y A B C := by rw [h]

/-- A part that may fail, on typed data. -/
def ob {α : Type} (x : Option α) (k : α → Res) : Res := x.bind k
/-- Is it so? -/
def ck (c : Bool) (k : Res) : Res := bif c then k else none

theorem bm_some {v : V} : bm (some v) H K = K v H := rfl
theorem bm_none : bm none H K = none := rfl
theorem bp_some {v : V} {h : Hp} : bp (some (v, h)) K = K v h := rfl
theorem bp_none : bp none K = none := rfl
theorem bs_some {h : Hp} : bs (some h) k = k h := rfl
theorem bs_none : bs none k = none := rfl
theorem bm_map {α : Type} {x : Option α} {f : α → V} : bm (x.map f) H K = ob x fun a => K (f a) H := by cases x <;> rfl
theorem bm_bind {α : Type} {x : Option α} {f : α → Option V} : bm (x.bind f) H K = ob x fun a => bm (f a) H K := by cases x <;> rfl
theorem bp_map {α : Type} {x : Option α} {f : α → V × Hp} : bp (x.map f) K = ob x fun a => K (f a).1 (f a).2 := by cases x <;> rfl
theorem bp_bind {α : Type} {x : Option α} {f : α → Option (V × Hp)} : bp (x.bind f) K = ob x fun a => bp (f a) K := by cases x <;> rfl
theorem bs_map {α : Type} {x : Option α} {f : α → Hp} : bs (x.map f) k = ob x fun a => k (f a) := by cases x <;> rfl
theorem bs_bind {α : Type} {x : Option α} {f : α → Option Hp} : bs (x.bind f) k = ob x fun a => bs (f a) k := by cases x <;> rfl
theorem bm_bif {c : Bool} {x : Option V} : bm (bif c then x else none) H K = ck c (bm x H K) := by cases c <;> rfl
theorem bp_bif {c : Bool} {x : Option (V × Hp)} : bp (bif c then x else none) K = ck c (bp x K) := by cases c <;> rfl
theorem bs_bif {c : Bool} {x : Option Hp} : bs (bif c then x else none) k = ck c (bs x k) := by cases c <;> rfl
theorem cnd_b {t : Bool} : cnd (.lit (.bool t)) A B = bif t then A else B := rfl
theorem gd_b {t : Bool} : gd (.lit (.bool t)) A B C = bif t then A else B := rfl
theorem gd_u : gd uu A B C = C := rfl
theorem ck_true : ck true A = A := rfl
theorem ck_false : ck false A = none := rfl
theorem ob_some {α : Type} {a : α} {f : α → Res} : ob (some a) f = f a := rfl
theorem ob_none {α : Type} {f : α → Res} : ob none f = none := rfl
end combinators

/-- The i-th one. -/
def idx {α : Type} (l : List α) (i : Int) : Option α := if 0 ≤ i then l[i.toNat]? else none
theorem idx_nat {α : Type} (l : List α) (i : Nat) : idx l (i : Int) = l[i]? := by simp [idx]

section ops
variable {P : Program} {t : TypeId} {k k' : IntKind} {a b : Int} {x y : V}
theorem vBin_add : vBin P .add t (.lit (.int k a)) (.lit (.int k b)) = some (.lit (.int k (k.wrap (a + b)))) := by simp [vBin, litBin]
theorem vBin_sub : vBin P .sub t (.lit (.int k a)) (.lit (.int k b)) = some (.lit (.int k (k.wrap (a - b)))) := by simp [vBin, litBin]
theorem vBin_mul : vBin P .mul t (.lit (.int k a)) (.lit (.int k b)) = some (.lit (.int k (k.wrap (a * b)))) := by simp [vBin, litBin]
theorem vBin_eql : vBin P .eql t (.lit (.int k a)) (.lit (.int k b)) = some (.lit (.bool (a == b))) := by simp [vBin, litBin]
theorem vBin_neq : vBin P .neq t (.lit (.int k a)) (.lit (.int k b)) = some (.lit (.bool (a != b))) := by simp [vBin, litBin]
theorem vBin_lss : vBin P .lss t (.lit (.int k a)) (.lit (.int k b)) = some (.lit (.bool (decide (a < b)))) := by simp [vBin, litBin]
theorem vBin_leq : vBin P .leq t (.lit (.int k a)) (.lit (.int k b)) = some (.lit (.bool (decide (a ≤ b)))) := by simp [vBin, litBin]
theorem vBin_gtr : vBin P .gtr t (.lit (.int k a)) (.lit (.int k b)) = some (.lit (.bool (decide (b < a)))) := by simp [vBin, litBin]
theorem vBin_geq : vBin P .geq t (.lit (.int k a)) (.lit (.int k b)) = some (.lit (.bool (decide (b ≤ a)))) := by simp [vBin, litBin]
theorem vBin_quo : vBin P .quo t (.lit (.int k a)) (.lit (.int k b)) = bif b != 0 then some (.lit (.int k (k.wrap (a.tdiv b)))) else none := by
  by_cases h : b = 0
  · simp [vBin, litBin, h]
  · simp [vBin, litBin, h, (bne_iff_ne).2 h]
theorem vBin_rem : vBin P .rem t (.lit (.int k a)) (.lit (.int k b)) = bif b != 0 then some (.lit (.int k (a.tmod b))) else none := by
  by_cases h : b = 0
  · simp [vBin, litBin, h]
  · simp [vBin, litBin, h, (bne_iff_ne).2 h]
theorem vBin_beql {p q : Bool} (h : isBoolT P t = true) : vBin P .eql t (.lit (.bool p)) (.lit (.bool q)) = some (.lit (.bool (p == q))) := by simp [vBin, h]
theorem vBin_bneq {p q : Bool} (h : isBoolT P t = true) : vBin P .neq t (.lit (.bool p)) (.lit (.bool q)) = some (.lit (.bool (!(p == q)))) := by simp [vBin, h]
theorem vUn_not {p : Bool} : vUn .not (.lit (.bool p)) = some (.lit (.bool !p)) := rfl
theorem vUn_neg : vUn .neg (.lit (.int k a)) = some (.lit (.int k (k.wrap (0 - a)))) := rfl
theorem vPick_b {p : Bool} : vPick (.lit (.bool p)) x y = some (bif p then x else y) := rfl
theorem vExtract_0 {l : List V} : vExtract (.tup (x :: l)) 0 = some x := rfl
theorem vExtract_1 {l : List V} : vExtract (.tup (x :: y :: l)) 1 = some y := rfl
theorem vExtract_2 {z : V} {l : List V} : vExtract (.tup (x :: y :: z :: l)) 2 = some z := rfl
end ops

/-- Rows of numbers, bools. -/
def intR (k : IntKind) (n : Int) : List V := [.lit (.int k n)]
def boolR (b : Bool) : List V := [.lit (.bool b)]

section mem
variable {P : Program} {t : TypeId} {H : Hp} {wl : Nat}

theorem vLoad_rp {cs : List V} : vLoad P t (.rp cs) H = ldCells P t cs := rfl
def ldB (P : Program) (t : TypeId) (g row off : Nat) : Option B → Option V
  | some (.box cs) => bif g == 0 && row == 0 then ldCells P t (cs.drop off) else none
  | some (.rows _ rs g' _) => bif g == g' then (rs[row]?).bind fun r => ldCells P t (r.drop off) else none
  | _ => none
theorem vLoad_ptr {id g row off : Nat} : vLoad P t (.ptr id g row off) H = ldB P t g row off (H[id]?) := by
  unfold vLoad ldB
  dsimp only
  generalize H[id]? = b0
  cases b0 with
  | none => rfl
  | some b => cases b <;> simp [Bool.cond_eq_ite]
theorem ldB_box {off : Nat} {cs : List V} : ldB P t 0 0 off (some (.box cs)) = ldCells P t (cs.drop off) := rfl
theorem ldB_rows {α : Type} {l : List α} {enc : α → List V} {g row off e : Nat} {lv : Bool} :
    ldB P t g row off (some (.rows e (l.map enc) g lv)) = (l[row]?).bind fun x => ldCells P t ((enc x).drop off) := by
  simp [ldB]
  cases l[row]? <;> rfl

/-- What a store into a block makes of the heap. -/
def stBk (P : Program) (wl : Nat) (t : TypeId) (id g row off : Nat) (vs : List V) (H : Hp) : Option B → Option Hp
  | some (.box cs) =>
    bif g == 0 && row == 0 && szOf P t != 0 && vs.length == szOf P t && decide (off + vs.length ≤ cs.length) then
      some ((matL vs H).2.set id (.box (spl cs off (matL vs H).1)))
    else none
  | some (.rows _ _ _ _) => (fzL wl true vs H).bind fun p =>
    match p.2[id]? with
    | some (.rows e rs g' true) =>
      bif g == g' && szOf P t != 0 && vs.length == szOf P t then
        (rs[row]?).bind fun r => bif decide (off + p.1.length ≤ r.length) then some (p.2.set id (.rows e (rs.set row (spl r off p.1)) g' true)) else none
      else none
    | _ => none
  | _ => none
theorem vStore_ptr {id g row off : Nat} {v : V} : vStore P wl t (.ptr id g row off) v H = (v.cells).bind fun vs => bif Nat.ble wl id then stBk P wl t id g row off vs H (H[id]?) else none := by
  unfold vStore
  cases hv : v.cells with
  | none => simp
  | some vs =>
    simp only [Option.bind_some]
    cases hw : Nat.ble wl id with
    | false => simp
    | true =>
      simp only [if_true, cond_true]
      unfold stBk
      generalize H[id]? = b0
      cases b0 with
      | none => rfl
      | some b =>
        cases b with
        | box cs => simp only [Bool.cond_eq_ite, Bool.and_eq_true, beq_iff_eq, bne_iff_ne, decide_eq_true_eq, and_assoc]
        | rows e rs g' lv =>
          simp only
          congr 1
          funext p
          generalize p.2[id]? = b1
          cases b1 with
          | none => rfl
          | some b => 
            cases b with
            | rows e rs g' lv => cases lv <;> simp [Bool.cond_eq_ite, and_assoc]
            | _ => rfl
        | _ => rfl

theorem vIndexAddr_ro {α : Type} {l : List α} {enc : α → List V} {e : TypeId} {k : IntKind} {n : Int} (hu : P.underlying t = some (.slice e)) (hs : ∀ x, (enc x).length = szOf P e) (hz : (szOf P e != 0) = true) :
    vIndexAddr P t (.ro (l.map enc)) (.lit (.int k n)) H = (idx l n).map fun x => .rp (enc x) := by
  have hz' : szOf P e ≠ 0 := by simpa using hz
  unfold vIndexAddr idx
  simp only [hu]
  split
  · cases hl : l[n.toNat]? with
    | none => simp [hl]
    | some x => simp [hl, hs, hz']
  · rfl
def ixB (sz g len id : Nat) (n : Int) : Option B → Option V
  | some (.rows s _ g' _) => bif g == g' && s == sz then bif decide (0 ≤ n ∧ n.toNat < len) then some (.ptr id g n.toNat 0) else none else none
  | _ => none
theorem vIndexAddr_own {id g len : Nat} {e : TypeId} {k : IntKind} {n : Int} (hu : P.underlying t = some (.slice e)) (hz : (szOf P e != 0) = true) :
    vIndexAddr P t (.own id g len) (.lit (.int k n)) H = ixB (szOf P e) g len id n (H[id]?) := by
  have hz' : szOf P e ≠ 0 := by simpa using hz
  unfold vIndexAddr ixB
  simp only [hu]
  by_cases hn : 0 ≤ n
  · simp only [hn, if_true, true_and]
    generalize H[id]? = b0
    cases b0 with
    | none => rfl
    | some b =>
      cases b with
      | rows s rs g' lv =>
        simp only [hz', ne_eq, not_false_eq_true, and_true, Bool.cond_eq_ite, Bool.and_eq_true, beq_iff_eq, decide_eq_true_eq]
      | _ => rfl
  · simp only [hn, if_false, false_and, decide_false]
    generalize H[id]? = b0
    cases b0 with
    | none => rfl
    | some b =>
      cases b with
      | rows s rs g' lv => simp
      | _ => rfl
theorem ixB_rows {sz g len id : Nat} {n : Int} {rs : List (List V)} {lv : Bool} : ixB sz g len id n (some (.rows sz rs g lv)) = bif decide (0 ≤ n ∧ n.toNat < len) then some (.ptr id g n.toNat 0) else none := by
  simp [ixB]

theorem vLen_ro {rows : List (List V)} : vLen (.ro rows) H = some (.lit (.int .i64 rows.length)) := rfl
theorem vLen_nil : vLen .nil H = some (.lit (.int .i64 0)) := rfl
def lnB (g len : Nat) : Option B → Option V
  | some (.rows _ _ g' _) => bif g == g' then some (.lit (.int .i64 len)) else none
  | _ => none
theorem vLen_own {id g len : Nat} : vLen (.own id g len) H = lnB g len (H[id]?) := by
  unfold vLen lnB
  dsimp only
  generalize H[id]? = b0
  cases b0 with
  | none => rfl
  | some b => cases b <;> simp [Bool.cond_eq_ite]
theorem lnB_rows {g len e : Nat} {rs : List (List V)} {lv : Bool} : lnB g len (some (.rows e rs g lv)) = some (.lit (.int .i64 len)) := by simp [lnB]
theorem opBox_lit {v : Value} (h : v.oneCell' = true) : opBox (.lit v) H = some (.ptr H.length 0 0 0, H ++ [.box [.lit v]]) := by
  simp [opBox, V.cells, V.one, h, matL]
theorem opBox_int {k : IntKind} {n : Int} : opBox (.lit (.int k n)) H = some (.ptr H.length 0 0 0, H ++ [.box [.lit (.int k n)]]) := opBox_lit rfl
theorem opBox_bool {b : Bool} : opBox (.lit (.bool b)) H = some (.ptr H.length 0 0 0, H ++ [.box [.lit (.bool b)]]) := opBox_lit rfl
theorem opBox_ro {r : List (List V)} : opBox (.ro r) H = some (.ptr H.length 0 0 0, H ++ [.box [.ro r]]) := by simp [opBox, V.cells, V.one, matL]
theorem opBox_agg {l : List V} : opBox (.agg l) H = some (.ptr (matL l H).2.length 0 0 0, (matL l H).2 ++ [.box (matL l H).1]) := by simp [opBox, V.cells]
theorem matL_nil : matL [] H = ([], H) := rfl
theorem matL_lit {v : Value} {l : List V} : matL (.lit v :: l) H = (.lit v :: (matL l H).1, (matL l H).2) := rfl
theorem matL_ro {r : List (List V)} {l : List V} : matL (.ro r :: l) H = (.ro r :: (matL l H).1, (matL l H).2) := rfl
theorem matL_own {i g n : Nat} {l : List V} : matL (.own i g n :: l) H = (.own i g n :: (matL l H).1, (matL l H).2) := rfl
theorem matL_ptr {i g n o : Nat} {l : List V} : matL (.ptr i g n o :: l) H = (.ptr i g n o :: (matL l H).1, (matL l H).2) := rfl
theorem matL_fn {f : Fn} {a b l : List V} : matL (.fn f a b :: l) H = (.fn f a b :: (matL l H).1, (matL l H).2) := rfl
theorem matL_none {l : List V} : matL (.nil :: l) H = (.own H.length 0 0 :: (matL l (H ++ [.rows 0 [] 0 true])).1, (matL l (H ++ [.rows 0 [] 0 true])).2) := rfl
theorem cells_lit {v : Value} (h : v.oneCell' = true) : V.cells (.lit v) = some [.lit v] := by simp [V.cells, V.one, h]
theorem cells_int {k : IntKind} {n : Int} : V.cells (.lit (.int k n)) = some [.lit (.int k n)] := cells_lit rfl
theorem cells_bool {b : Bool} : V.cells (.lit (.bool b)) = some [.lit (.bool b)] := cells_lit rfl
theorem cells_ro {r : List (List V)} : V.cells (.ro r) = some [.ro r] := rfl
theorem cells_own {i g n : Nat} : V.cells (.own i g n) = some [.own i g n] := rfl
theorem cells_ptr {i g n o : Nat} : V.cells (.ptr i g n o) = some [.ptr i g n o] := rfl
theorem cells_fn {f : Fn} {a b : List V} : V.cells (.fn f a b) = some [.fn f a b] := rfl
theorem cells_nil : V.cells .nil = some [.nil] := rfl
theorem cells_agg {l : List V} : V.cells (.agg l) = some l := rfl
theorem vNil_ptr {id g row off : Nat} : vNil (.ptr id g row off) H = (match H[id]? with
    | some (.box _) => bif g == 0 then some (.ptr id g row off) else none
    | some (.rows _ _ g' _) => bif g == g' then some (.ptr id g row off) else none
    | _ => none) := by
  unfold vNil
  dsimp only
  generalize H[id]? = b0
  cases b0 with
  | none => rfl
  | some b => cases b <;> simp [Bool.cond_eq_ite]
theorem vNil_fn {f : FuncId} {a b : List V} : vNil (.fn (.func f) a b) H = some (.fn (.func f) a b) := rfl
theorem vNil_rp {c : List V} : vNil (.rp c) H = some (.rp c) := rfl

theorem nextK_ret {cx : Cx} {c : Code} {n0 : Nat} {K : Out → St → Res} {n : Nat} {s : St} : nextK cx c n0 K n .ret s = K .ret s := rfl
theorem resO_1 {v : V} : resO [some v] H = some (v, H) := rfl
theorem resO_2 {v w : V} : resO [some v, some w] H = some (.tup [v, w], H) := rfl
theorem resO_3 {v w x : V} : resO [some v, some w, some x] H = some (.tup [v, w, x], H) := rfl
theorem getH_zero {b : B} {H : List B} : (b :: H)[0]? = some b := rfl
theorem getH_succ {b : B} {H : List B} {n : Nat} : (b :: H)[n + 1]? = H[n]? := rfl
end mem
end Go.Ab

/- Calls, and slices of one's own, on typed data. -/
namespace Go.Ab

mutual
/-- Data that is handed over as it is. -/
def V.data : V → Bool
  | .lit _ => true
  | .ro _ => true
  | .nil => true
  | .agg cs => cellsData cs
  | .fn _ a b => dataL a && dataL b
  | _ => false
def dataL : List V → Bool
  | [] => true
  | v :: vs => v.data && dataL vs
def cellsData : List V → Bool
  | [] => true
  | .lit _ :: vs => cellsData vs
  | .ro _ :: vs => cellsData vs
  | _ :: _ => false
end

theorem cellsData_fz {wl : Nat} {H : Hp} : ∀ {l : List V}, cellsData l = true → fzL wl true l H = some (l, H)
  | [], _ => rfl
  | .lit _ :: vs, h => by
    have := cellsData_fz (wl := wl) (H := H) (l := vs) (by simpa [cellsData] using h)
    simp [fzL, fzC, this]
  | .ro _ :: vs, h => by
    have := cellsData_fz (wl := wl) (H := H) (l := vs) (by simpa [cellsData] using h)
    simp [fzL, fzC, this]
  | .nil :: _, h | .any :: _, h | .junk :: _, h | .agg _ :: _, h | .tup _ :: _, h | .fn .. :: _, h | .yld _ :: _, h | .rp _ :: _, h | .ptr .. :: _, h | .own .. :: _, h | .map _ :: _, h => by simp [cellsData] at h
theorem cellsData_pure : ∀ {l : List V}, cellsData l = true → pureL l = true
  | [], _ => rfl
  | .lit _ :: vs, h => by
    have := cellsData_pure (l := vs) (by simpa [cellsData] using h)
    simp [pureL, V.pure, this]
  | .ro _ :: vs, h => by
    have := cellsData_pure (l := vs) (by simpa [cellsData] using h)
    simp [pureL, V.pure, this]
  | .nil :: _, h | .any :: _, h | .junk :: _, h | .agg _ :: _, h | .tup _ :: _, h | .fn .. :: _, h | .yld _ :: _, h | .rp _ :: _, h | .ptr .. :: _, h | .own .. :: _, h | .map _ :: _, h => by simp [cellsData] at h
mutual
theorem data_pure : ∀ {v : V}, v.data = true → v.pure = true
  | .lit _, _ | .ro _, _ | .nil, _ => rfl
  | .agg cs, h => cellsData_pure h
  | .fn _ a b, h => by
    simp [V.data] at h
    simp [V.pure, dataL_pure h.1, dataL_pure h.2]
  | .any, h | .junk, h | .tup _, h | .yld _, h | .rp _, h | .ptr .., h | .own .., h | .map _, h => by simp [V.data] at h
theorem dataL_pure : ∀ {l : List V}, dataL l = true → pureL l = true
  | [], _ => rfl
  | v :: vs, h => by
    simp [dataL] at h
    simp [pureL, data_pure h.1, dataL_pure h.2]
end
theorem data_fz {wl : Nat} {H : Hp} : ∀ {v : V}, v.data = true → fzA wl v H = some (v, H)
  | .lit _, _ | .ro _, _ | .nil, _ | .fn .., _ => rfl
  | .agg cs, h => by simp [fzA, cellsData_fz (wl := wl) (H := H) h]
  | .any, h | .junk, h | .tup _, h | .yld _, h | .rp _, h | .ptr .., h | .own .., h | .map _, h => by simp [V.data] at h
theorem dataL_fz {wl : Nat} {H : Hp} : ∀ {l : List V}, dataL l = true → fzAs wl l H = some (l, H)
  | [], _ => rfl
  | v :: vs, h => by
    simp [dataL] at h
    simp [fzAs, data_fz (wl := wl) (H := H) h.1, dataL_fz (wl := wl) (H := H) h.2]

/-- What comes of a call whose arguments name no block. -/
def callRes (cx : Cx) (g : FuncId) (args : List V) : Option (V × Hp) := (cx.call 0 g args []).bind fun p => retV (cx.M.keepRes cx.fid g) p.1 p.2
/-- How it is laid into the heap. -/
def landC (H : Hp) (q : V × Hp) : V × Hp := (q.1.shift H.length, bif (q.1.shift H.length).scal then H else H ++ q.2.map (B.shift H.length))
def landP (H : Hp) (q : V × Hp) : V × Hp := (q.1.shift H.length, H ++ q.2.map (B.shift H.length))

theorem callGen_fz {cx : Cx} {g : FuncId} {args args' : List V} {H H' : Hp} (hk : cx.M.keepArg g = false) (hf : fzAs cx.wl args H = some (args', H')) (hl : H'.length = H.length) (hp : pureL args' = true) :
    (callGen cx g args H).bind (noShorter H) = (callRes cx g args').map fun q => (q.1.shift H'.length, bif (q.1.shift H'.length).scal then H else H' ++ q.2.map (B.shift H'.length)) := by
  unfold callGen callRes
  simp only [hk, Bool.false_eq_true, if_false, hf, Option.bind_some, hp, if_true]
  unfold callPure
  cases h : cx.call 0 g args' [] with
  | none => rfl
  | some p =>
    simp only [Option.bind_some]
    cases h2 : retV (cx.M.keepRes cx.fid g) p.1 p.2 with
    | none => rfl
    | some q =>
      simp only [Option.bind_some, Option.map_some]
      unfold noShorter
      cases (q.1.shift H'.length).scal <;> simp [hl]

theorem callV_data {cx : Cx} {o : Bool} {g : FuncId} {first caps args : List V} {H : Hp} (hd : dataL (first ++ args ++ caps) = true) :
    callV cx false o (.fn (.func g) first caps) args H = (callRes cx g (first ++ args ++ caps)).map (landC H) := by
  unfold callV
  simp only [Bool.false_eq_true, if_false]
  cases hk : cx.M.keepArg g with
  | false =>
    rw [callGen_fz hk (dataL_fz hd) rfl (dataL_pure hd)]
    rfl
  | true =>
    unfold callGen callRes
    simp only [hk, if_true, Option.bind_some, dataL_pure hd]
    unfold callPure
    cases h : cx.call 0 g (first ++ args ++ caps) [] with
    | none => rfl
    | some p =>
      simp only [Option.bind_some]
      cases h2 : retV (cx.M.keepRes cx.fid g) p.1 p.2 with
      | none => rfl
      | some q =>
        simp only [Option.bind_some, Option.map_some, landC]
        unfold noShorter
        cases (q.1.shift H.length).scal <;> simp
/-- Arguments of which some are slices of one's own: these are frozen. -/
theorem callV_fz {cx : Cx} {o : Bool} {g : FuncId} {first caps args : List V} {H : Hp} (hk : cx.M.keepArg g = false) :
    callV cx false o (.fn (.func g) first caps) args H = (fzAs cx.wl (first ++ args ++ caps) H).bind fun a =>
      if pureL a.1 then (callPure cx g a.1 a.2).bind fun q => noShorter H (q.1, bif q.1.scal then H else q.2)
      else ((cx.call cx.wl g a.1 a.2).bind fun p => (if (cx.M.keepRes cx.fid g).isSome then some p else fzR cx.wl p.1 p.2).bind fun q =>
        if q.1.pure then some (q.1, cutH a.2.length q.2) else some q).bind (noShorter H) := by
  unfold callV
  simp only [Bool.false_eq_true, if_false]
  unfold callGen
  simp only [hk, Bool.false_eq_true, if_false]
  cases fzAs cx.wl (first ++ args ++ caps) H with
  | none => rfl
  | some a =>
    simp only [Option.bind_some]
    split
    · cases callPure cx g a.1 a.2 <;> rfl
    · rfl
theorem callV_calm {cx : Cx} {g : FuncId} {first caps args : List V} {H : Hp} (hd : dataL (first ++ args ++ caps) = true) :
    callV cx true true (.fn (.func g) first caps) args H = (callRes cx g (first ++ args ++ caps)).map (landP H) := by
  unfold callV callCalm
  simp only [if_true, dataL_pure hd]
  unfold callPure callRes
  cases h : cx.call 0 g (first ++ args ++ caps) [] with
  | none => rfl
  | some p =>
    simp only [Option.bind_some]
    cases h2 : retV (cx.M.keepRes cx.fid g) p.1 p.2 with
    | none => rfl
    | some q => rfl
/-- A result of a call in no order with others. -/
theorem callV_loose {cx : Cx} {g : FuncId} {first caps args : List V} {H : Hp} (hd : dataL (first ++ args ++ caps) = true) :
    callV cx true false (.fn (.func g) first caps) args H = ((cx.call 0 g (first ++ args ++ caps) []).bind fun p => (fzR 0 p.1 p.2).bind fun q => if q.1.pure then some (q.1, H) else none) := by
  unfold callV callCalm
  simp only [if_true, dataL_pure hd, Bool.false_eq_true, if_false]

section ret
variable {H : Hp}
theorem landC_lit {v : Value} {h : Hp} : landC H (.lit v, h) = (.lit v, H) := rfl
theorem landC_ro {r : List (List V)} : landC H (.ro r, []) = (.ro r, H) := by simp [landC, V.shift, V.scal]
theorem landC_fn0 {f : Fn} : landC H (.fn f [] [], []) = (.fn f [] [], H) := by simp [landC, V.shift, V.scal, shiftL]
theorem landP_lit {v : Value} : landP H (.lit v, []) = (.lit v, H) := by simp [landP, V.shift]
theorem landP_ro {r : List (List V)} : landP H (.ro r, []) = (.ro r, H) := by simp [landP, V.shift]

/-- What a function's result comes to. -/
def retN (p : V × Hp) : Option (V × Hp) := retV none p.1 p.2
theorem retV_lit {v : Value} {h : Hp} : retV none (.lit v) h = some (.lit v, []) := rfl
theorem retV_ro {r : List (List V)} {h : Hp} : retV none (.ro r) h = some (.ro r, []) := rfl
theorem retV_nil {h : Hp} : retV none .nil h = some (.ro [], []) := rfl
/-- What is left of a slice of one's own. -/
def fzB (wl id g len : Nat) (H : Hp) : Option B → Option (V × Hp)
  | some (.rows e rs g' _) => bif g == g' && decide (len ≤ rs.length) && (pureR rs && Nat.ble wl id) then some (.ro (rs.take len), H.set id (.rows e rs g' false)) else none
  | _ => none
theorem fzC_own {wl id g len : Nat} : fzC wl (.own id g len) H = fzB wl id g len H (H[id]?) := by
  unfold fzC fzB
  dsimp only
  generalize H[id]? = b
  cases b with
  | none => rfl
  | some b =>
    cases b with
    | rows e rs g' lv =>
      by_cases h1 : g = g'
      · by_cases h2 : len ≤ rs.length <;> cases h3 : (pureR rs && Nat.ble wl id) <;> simp [h1, h2]
      · simp [h1, beq_false_of_ne h1]
    | _ => rfl
theorem fzB_rows {α : Type} {l : List α} {enc : α → List V} {wl id g e len : Nat} {lv : Bool} (hl : len = l.length) (hp : ∀ x, pureL (enc x) = true) (hw : Nat.ble wl id = true) :
    fzB wl id g len H (some (.rows e (l.map enc) g lv)) = some (.ro (l.map enc), H.set id (.rows e (l.map enc) g false)) := by
  subst hl
  have h1 : pureR (l.map enc) = true := by
    rw [pureR, List.all_eq_true]
    intro r hr
    obtain ⟨x, _, rfl⟩ := List.mem_map.1 hr
    exact hp x
  have h2 : (l.map enc).take l.length = l.map enc := by rw [List.take_of_length_le]; simp
  simp [fzB, h1, hw, h2]
theorem retV_own {α : Type} {l : List α} {enc : α → List V} {id g e len : Nat} {lv : Bool} {h : Hp} (hb : h[id]? = some (.rows e (l.map enc) g lv)) (hl : len = l.length) (hp : ∀ x, pureL (enc x) = true) :
    retV none (.own id g len) h = some (.ro (l.map enc), []) := by
  simp only [retV, fzR, fzR1, fzA, fzC_own, hb, fzB_rows hl hp (by simp : Nat.ble 0 id = true), Option.bind_some, V.pure, if_true]
end ret

section app
variable {P : Program} {wl : Nat} {t : TypeId} {H : Hp}
theorem rowsOf_ro {r : List (List V)} : rowsOf (.ro r) H = some r := rfl
theorem rowsOf_nil : rowsOf .nil H = some [] := rfl
def roB (g len : Nat) : Option B → Option (List (List V))
  | some (.rows _ rs g' _) => bif g == g' && decide (len ≤ rs.length) then some (rs.take len) else none
  | _ => none
theorem rowsOf_own {id g len : Nat} : rowsOf (.own id g len) H = roB g len (H[id]?) := by
  unfold rowsOf roB
  dsimp only
  generalize H[id]? = b
  cases b with
  | none => rfl
  | some b => cases b <;> simp [Bool.cond_eq_ite]
theorem roB_rows {α : Type} {l : List α} {enc : α → List V} {g e len : Nat} {lv : Bool} (hl : len = l.length) : roB g len (some (.rows e (l.map enc) g lv)) = some (l.map enc) := by
  subst hl
  have h2 : (l.map enc).take l.length = l.map enc := by rw [List.take_of_length_le]; simp
  simp [roB, h2]

/-- An append to a slice of one's own. -/
def apB (wl _e : Nat) (sz bytes id g len : Nat) (xs : List (List V)) (H : Hp) : Option B → Option (V × Hp)
  | some (.rows s rs g' live) =>
    bif Nat.ble wl id && (g == g') && decide (len ≤ rs.length) && (live || len == rs.length) && (s == sz || s == 0) && decide ((len + xs.length) * bytes ≤ 70368744177664) then
      some (.own id (g + 1) (len + xs.length), H.set id (.rows sz (rs.take len ++ xs) (g + 1) live)) else none
  | _ => none
theorem vAppend_own {e : TypeId} {id g len : Nat} {x : V} (he : elemT P t = some e) (hg : growT P e = true) :
    vAppend P wl t (.own id g len) x H = (rowsOf x H).bind fun xs => bif okRows (szOf P e) xs then apB wl e (szOf P e) (P.bytesOf e) id g len xs H (H[id]?) else none := by
  unfold vAppend
  simp only [he]
  cases hr : rowsOf x H with
  | none => rfl
  | some xs =>
    simp only [Option.bind_some, hg, Bool.and_true]
    cases okRows (szOf P e) xs with
    | false => rfl
    | true =>
      simp only [if_true, cond_true, apB]
      generalize H[id]? = b
      cases b with
      | none => rfl
      | some b =>
        cases b with
        | rows s rs g' lv => simp [Bool.cond_eq_ite, and_assoc]
        | _ => rfl
theorem vAppend_nil {e : TypeId} {x : V} (he : elemT P t = some e) (hg : growT P e = true) :
    vAppend P wl t .nil x H = (rowsOf x H).bind fun xs => bif okRows (szOf P e) xs then bif decide (xs.length * P.bytesOf e ≤ 70368744177664) then some (.own H.length 0 xs.length, H ++ [.rows (szOf P e) xs 0 true]) else none else none := by
  unfold vAppend
  simp only [he]
  cases hr : rowsOf x H with
  | none => rfl
  | some xs =>
    simp only [Option.bind_some, hg, Bool.and_true]
    cases okRows (szOf P e) xs with
    | false => rfl
    | true => simp [Bool.cond_eq_ite]
theorem okRows_map {α : Type} {l : List α} {enc : α → List V} {sz : Nat} (h : ∀ x, (enc x).length = sz) : okRows sz (l.map enc) = true := by
  rw [okRows, List.all_eq_true]
  intro r hr
  obtain ⟨x, _, rfl⟩ := List.mem_map.1 hr
  simp [h]
/-- Room for so many. -/
def room (n bytes : Nat) : Bool := decide (n * bytes ≤ 70368744177664)
theorem apB_rows {α : Type} {l m : List α} {enc : α → List V} {e sz bytes id g len s : Nat} (hl : len = l.length) (hw : Nat.ble wl id = true) (hs : (s == sz || s == 0) = true) {lv : Bool} :
    apB wl e sz bytes id g len (m.map enc) H (some (.rows s (l.map enc) g lv)) = bif room (l ++ m).length bytes then some (.own id (g + 1) (l ++ m).length, H.set id (.rows sz ((l ++ m).map enc) (g + 1) lv)) else none := by
  subst hl
  have h2 : (l.map enc).take l.length = l.map enc := by rw [List.take_of_length_le]; simp
  cases lv <;> simp [apB, hw, hs, h2, room]
/-- The first append to a slice that was made empty. -/
theorem apB_empty {α : Type} {m : List α} {enc : α → List V} {e sz bytes id g : Nat} (hw : Nat.ble wl id = true) {lv : Bool} :
    apB wl e sz bytes id g 0 (m.map enc) H (some (.rows 0 [] g lv)) = bif room m.length bytes then some (.own id (g + 1) m.length, H.set id (.rows sz (m.map enc) (g + 1) lv)) else none := by
  cases lv <;> simp [apB, hw, room]
theorem vMakeSlice_eq {e : TypeId} {n : Int} {z : Value} {Z : List V} (he : elemT P t = some e) (hz : zeroOf P e = some z) (hZ : vMakeSlice.fzZ (zeroCs z) = Z) (ho : (onesL (zeroCs z) && (zeroCs z).length == szOf P e && szOf P e != 0) = true) :
    vMakeSlice P t (.lit (.int .i64 n)) (.lit (.int .i64 n)) H = bif decide (0 ≤ n ∧ n ≤ 9223372036854775807 ∧ n * P.bytesOf e ≤ 70368744177664) then some (.own H.length 0 n.toNat, H ++ [.rows (szOf P e) (List.replicate n.toNat Z) 0 true]) else none := by
  unfold vMakeSlice
  simp only [he, hz, ho, if_true, hZ, true_and, Bool.cond_eq_ite, decide_eq_true_eq]
end app

theorem killR_map {α : Type} {l : List α} {enc : α → List V} {n : Nat} (hp : ∀ x, pureL (enc x) = true) : killR n (l.map enc) = l.map enc := by
  have h1 : pureR (l.map enc) = true := by
    rw [pureR, List.all_eq_true]
    intro r hr
    obtain ⟨x, _, rfl⟩ := List.mem_map.1 hr
    exact hp x
  simp [killR, h1]
theorem shiftR_map {α : Type} {l : List α} {enc : α → List V} {n : Nat} (hp : ∀ x, pureL (enc x) = true) : shiftR n (l.map enc) = l.map enc := by
  have h1 : pureR (l.map enc) = true := by
    rw [pureR, List.all_eq_true]
    intro r hr
    obtain ⟨x, _, rfl⟩ := List.mem_map.1 hr
    exact hp x
  simp [shiftR, h1]
theorem shiftR_nil {n : Nat} : shiftR n [] = [] := rfl
theorem killR_nil {n : Nat} : killR n [] = [] := rfl
theorem pure_intR (k : IntKind) (x : Int) : pureL (intR k x) = true := rfl
theorem pure_boolR (x : Bool) : pureL (boolR x) = true := rfl
theorem pure_taskV (x : Int × List Int) : pureL (taskV x) = true := rfl
theorem pure_threeV (x : Int × Int × Int) : pureL (threeV x) = true := rfl
theorem killR_int {k : IntKind} {l : List Int} {n : Nat} : killR n (l.map (intR k)) = l.map (intR k) := killR_map (pure_intR k)
theorem killR_bool {l : List Bool} {n : Nat} : killR n (l.map boolR) = l.map boolR := killR_map pure_boolR
theorem killR_task {l : List (Int × List Int)} {n : Nat} : killR n (l.map taskV) = l.map taskV := killR_map pure_taskV
theorem killR_three {l : List (Int × Int × Int)} {n : Nat} : killR n (l.map threeV) = l.map threeV := killR_map pure_threeV
theorem shiftR_int {k : IntKind} {l : List Int} {n : Nat} : shiftR n (l.map (intR k)) = l.map (intR k) := shiftR_map (pure_intR k)
theorem shiftR_bool {l : List Bool} {n : Nat} : shiftR n (l.map boolR) = l.map boolR := shiftR_map pure_boolR
theorem shiftR_task {l : List (Int × List Int)} {n : Nat} : shiftR n (l.map taskV) = l.map taskV := shiftR_map pure_taskV
theorem shiftR_three {l : List (Int × Int × Int)} {n : Nat} : shiftR n (l.map threeV) = l.map threeV := shiftR_map pure_threeV
theorem Bshift_box {n : Nat} {cs : List V} : B.shift n (.box cs) = .box (shiftL n cs) := rfl
theorem Bshift_rows {n e g : Nat} {rs : List (List V)} {l : Bool} : B.shift n (.rows e rs g l) = .rows e (shiftR n rs) g l := rfl
theorem Bkill_box {n : Nat} {cs : List V} : B.kill n (.box cs) = .box (killL n cs) := rfl
theorem Bkill_rows {n e g : Nat} {rs : List (List V)} {l : Bool} : B.kill n (.rows e rs g l) = .rows e (killR n rs) g l := rfl
theorem Bkill_loop {n : Nat} {l : Lp} : B.kill n (.loop l) = .loop { l with tmps := killL n l.tmps } := rfl
theorem Bkill_dead {n : Nat} : B.kill n .dead = .dead := rfl
theorem setR_bool {l : List Bool} {i : Nat} {b : Bool} : (l.map boolR).set i [.lit (.bool b)] = (l.set i b).map boolR := by rw [List.map_set]; rfl
theorem setR_int {k : IntKind} {l : List Int} {i : Nat} {b : Int} : (l.map (intR k)).set i [.lit (.int k b)] = (l.set i b).map (intR k) := by rw [List.map_set]; rfl
theorem repR_bool {n : Nat} {b : Bool} : List.replicate n [V.lit (.bool b)] = (List.replicate n b).map boolR := by rw [List.map_replicate]; rfl
theorem repR_int {k : IntKind} {n : Nat} {b : Int} : List.replicate n [V.lit (.int k b)] = (List.replicate n b).map (intR k) := by rw [List.map_replicate]; rfl
theorem getR_map {α : Type} {l : List α} {f : α → List V} {i : Nat} : (l.map f)[i]? = (l[i]?).map f := List.getElem?_map
theorem fzL_nil {wl : Nat} {nl : Bool} {H : Hp} : fzL wl nl [] H = some ([], H) := rfl
theorem fzL_lit {wl : Nat} {nl : Bool} {v : Value} {vs : List V} {H : Hp} : fzL wl nl (.lit v :: vs) H = (fzL wl nl vs H).bind fun q => some (.lit v :: q.1, q.2) := rfl
theorem fzL_ro {wl : Nat} {nl : Bool} {r : List (List V)} {vs : List V} {H : Hp} : fzL wl nl (.ro r :: vs) H = (fzL wl nl vs H).bind fun q => some (.ro r :: q.1, q.2) := rfl
theorem fzL_none {wl : Nat} {vs : List V} {H : Hp} : fzL wl true (.nil :: vs) H = (fzL wl true vs H).bind fun q => some (.ro [] :: q.1, q.2) := rfl
theorem fzL_own {wl id g len : Nat} {nl : Bool} {vs : List V} {H : Hp} : fzL wl nl (.own id g len :: vs) H = (fzC wl (.own id g len) H).bind fun p => (fzL wl nl vs p.2).bind fun q => some (p.1 :: q.1, q.2) := rfl
theorem ble0 {n : Nat} : Nat.ble 0 n = true := by cases n <;> rfl
theorem intsV_eq (k : IntKind) (l : List Int) : intsV k l = .ro (l.map (intR k)) := rfl
theorem taskV_eq (x : Int × List Int) : taskV x = [.lit (.int .i64 x.1), .ro (x.2.map (intR .i64))] := rfl
theorem retV_litk {keep : Option (Nat → Bool)} {v : Value} {h : Hp} : retV keep (.lit v) h = some (.lit v, []) := by
  cases keep <;> rfl
theorem retV_rok {keep : Option (Nat → Bool)} {r : List (List V)} {h : Hp} : retV keep (.ro r) h = some (.ro r, []) := by
  cases keep <;> rfl
theorem wrap64 {z : Int} (h1 : -9223372036854775808 ≤ z) (h2 : z ≤ 9223372036854775807) : IntKind.i64.wrap z = z := by
  simp [IntKind.wrap, IntKind.bits, IntKind.signed]
  omega
end Go.Ab

/- Ranges over functions, on typed data. -/
namespace Go.Ab

/-- Behind the body of a round. -/
def bdK (id n : Nat) : Out → St → Res := fun o s => match s.H[id]? with
  | some (.loop l) => some (.lit (.bool (outCode o).isNone), cutH n (s.H.set id (.loop { l with st := if (outCode o).isNone then .ready else .done, pending := outCode o })))
  | _ => none
/-- Behind the assignment of a round. -/
def asK (cx : Cx) (id n : Nat) (body : Code) : Out → St → Res := fun o s => match o with
  | .norm => match s.H[id]? with
    | some (.loop l) => if l.st = .ready then runK cx (bdK id n) [.seq body] .norm ⟨s.env, s.H.set id (.loop { l with st := .busy })⟩ else none
    | _ => none
  | _ => none

theorem evY_round {P : Program} {M : Mode} {k wl id : Nat} {args : List V} {H : Hp} {l : Lp} (hl : H[id]? = some (.loop l)) (hs : l.st = .ready) (ha : args.length = l.params.length) (hw : Nat.ble wl id = true) :
    evY P M (k + 1) wl id args H =
      runK { P, M, fid := l.fn, round := true, wl, call := evF P M k, yld := evY P M k, n := k } (asK { P, M, fid := l.fn, round := true, wl, call := evF P M k, yld := evY P M k, n := k } id H.length l.body)
        [.seq l.assign] .norm ⟨setParams l.tmps l.params args, H⟩ := by
  simp only [evY, hl, roundV, hs, ha, hw, and_self, if_true]
  show execK _ l.assign none _ _ = execK _ l.assign none (runK _ _ []) _
  congr 1

/-- The end of a range over a function. -/
def rfK (K : Out → St → Res) (env : List V) (n : Nat) (p : V × Hp) : Res :=
  match p.2[n]? with
  | some (.loop l) => if l.st = .busy then none else
    match l.pending with
    | none => K .norm ⟨env, cutH n p.2⟩
    | some .ret => K .ret ⟨env, cutH n p.2⟩
    | some (.exit id) => K (.exit id) ⟨env, cutH n p.2⟩
    | some (.goto id) => K (.goto id) ⟨env, cutH n p.2⟩
    | some _ => none
  | _ => none
theorem execK_range {cx : Cx} {f : Operand} {ps : Array Tmp} {a b : Code} {K : Out → St → Res} {s : St} {g : FuncId} {caps : List V} (hr : cx.round = false) (hw : Nat.ble cx.wl s.H.length = true) (hf : evO s.env f = some (.fn (.func g) [] caps)) :
    execK cx (.rangeFunc f ps a b) none K s = (cx.call cx.wl g (.yld s.H.length :: caps) (s.H ++ [.loop { st := .ready, pending := none, fn := cx.fid, tmps := s.env, params := ps.toList, assign := a, body := b }])).bind (rfK K s.env s.H.length) := by
  simp only [execK, hr, hw, hf, Bool.not_true, Bool.or_self, Bool.false_eq_true, if_false]
  congr 1

theorem callV_yld {cx : Cx} {o : Bool} {l : Nat} {args : List V} {H : Hp} (hd : dataL args = true) : callV cx false o (.yld l) args H = (cx.yld cx.wl l args H).bind (noShorter H) := by
  unfold callV
  simp [dataL_fz hd]

/-- A run over what is handed on: it ends at the first that is not gone on behind. -/
def runS {σ α : Type} (step : σ → α → Bool × σ) : List α → σ → Bool × σ
  | [], s => (true, s)
  | x :: r, s => if (step s x).1 then runS step r (step s x).2 else step s x
end Go.Ab

/- Small words for proofs on typed data. -/
namespace Go.Ab
theorem drop_cons {α : Type} {l r : List α} {x : α} {i : Nat} (h : l.drop i = x :: r) : i < l.length ∧ l[i]? = some x ∧ l.drop (i + 1) = r ∧ x ∈ l ∧ l.length = i + 1 + r.length := by
  have h0 : i < l.length := by
    have := congrArg List.length h
    simp at this
    omega
  have h1 : l.drop i = l[i] :: l.drop (i + 1) := List.drop_eq_getElem_cons h0
  rw [h] at h1
  injection h1 with h2 h3
  refine ⟨h0, by rw [List.getElem?_eq_getElem h0, h2], h3.symm, h2 ▸ List.getElem_mem h0, ?_⟩
  have := congrArg List.length h
  simp at this
  omega
theorem drop_nil {α : Type} {l : List α} {i : Nat} (h : l.drop i = []) : l.length ≤ i := List.drop_eq_nil_iff.1 h
theorem idx_of {α : Type} {l : List α} {i : Nat} {x : α} (h : l[i]? = some x) : idx l (i : Int) = some x := by rw [idx_nat, h]
theorem ltT {a b : Int} (h : a < b) : decide (a < b) = true := decide_eq_true h
theorem ltF {a b : Int} (h : b ≤ a) : decide (a < b) = false := decide_eq_false (by omega)
theorem leT {a b : Int} (h : a ≤ b) : decide (a ≤ b) = true := decide_eq_true h
theorem leF {a b : Int} (h : b < a) : decide (a ≤ b) = false := decide_eq_false (by omega)
theorem fuel {k d : Nat} (h : d < k) : ∃ j, k = j + 1 := ⟨k - 1, by omega⟩
theorem wrapS {i : Nat} (h : i ≤ 9223372036854775806) : IntKind.i64.wrap ((i : Int) + 1) = ((i + 1 : Nat) : Int) := by
  rw [wrap64 (by omega) (by omega)]
  omega
end Go.Ab
namespace Go.Ab
theorem cond_bindO {α β : Type} {c : Bool} {x y : Option α} {f : α → Option β} : (bif c then x else y).bind f = bif c then x.bind f else y.bind f := by cases c <;> rfl
theorem ck_bindO {c : Bool} {x : Res} {f : V × Hp → Option (V × Hp)} : (ck c x).bind f = ck c (x.bind f) := by cases c <;> rfl
theorem ob_bindO {α : Type} {x : Option α} {k : α → Res} {f : V × Hp → Option (V × Hp)} : (ob x k).bind f = ob x fun a => (k a).bind f := by cases x <;> rfl
/-- The place of the first that is so. -/
def idxF {α : Type} (p : α → Bool) (l : List α) : Int := match l.findIdx? p with | some i => (i : Int) | none => -1
/-- From the i-th place on. -/
def idxG {α : Type} (p : α → Bool) : List α → Nat → Int
  | [], _ => -1
  | x :: r, i => if p x then (i : Int) else idxG p r (i + 1)
theorem idxG_ge {α : Type} (p : α → Bool) : ∀ (l : List α) (i : Nat), decide (0 ≤ idxG p l i) = l.any p
  | [], _ => rfl
  | x :: r, i => by
    by_cases h : p x = true
    · simp [idxG, h]
    · simpa [idxG, h] using idxG_ge p r (i + 1)
end Go.Ab
namespace Go.Ab
theorem leF' {n : Nat} (h : n ≤ 30) : decide ((30 : Int) < n) = false := decide_eq_false (by omega)
end Go.Ab
namespace Go.Ab
theorem leT' {n : Nat} (h : 30 < n) : decide ((30 : Int) < n) = true := decide_eq_true (by omega)
end Go.Ab
namespace Go.Ab
theorem cast40 {n : Nat} : decide ((n : Int) ≤ 40) = decide (n ≤ 40) := by
  by_cases h : n ≤ 40
  · rw [decide_eq_true h, decide_eq_true (by omega)]
  · rw [decide_eq_false h, decide_eq_false (by omega)]
end Go.Ab
namespace Go.Ab
section one
variable {wl e sz bytes id g len s : Nat} {H : Hp} {lv : Bool}
theorem roB_one {r : List V} : roB g 1 (some (.rows e [r] g lv)) = some [r] := by simp [roB]
theorem okRows_one {r : List V} (h : r.length = sz) : okRows sz [r] = true := by simp [okRows, h]
theorem okRows_1 {a : V} : okRows 1 [[a]] = true := rfl
theorem okRows_2 {a b : V} : okRows 2 [[a, b]] = true := rfl
theorem okRows_3 {a b c : V} : okRows 3 [[a, b, c]] = true := rfl
theorem apB_one {α : Type} {l : List α} {x : α} {enc : α → List V} (hl : len = l.length) (hw : Nat.ble wl id = true) (hs : (s == sz || s == 0) = true) :
    apB wl e sz bytes id g len [enc x] H (some (.rows s (l.map enc) g lv)) = bif room (l ++ [x]).length bytes then some (.own id (g + 1) (l ++ [x]).length, H.set id (.rows sz ((l ++ [x]).map enc) (g + 1) lv)) else none := by
  have := apB_rows (m := [x]) (enc := enc) (wl := wl) (e := e) (sz := sz) (bytes := bytes) (id := id) (g := g) (H := H) (lv := lv) hl hw hs
  simpa using this
theorem apB_int {k : IntKind} {l : List Int} {x : Int} (hl : len = l.length) (hw : Nat.ble wl id = true) (hs : (s == sz || s == 0) = true) :
    apB wl e sz bytes id g len [[.lit (.int k x)]] H (some (.rows s (l.map (intR k)) g lv)) = bif room (l ++ [x]).length bytes then some (.own id (g + 1) (l ++ [x]).length, H.set id (.rows sz ((l ++ [x]).map (intR k)) (g + 1) lv)) else none := apB_one (enc := intR k) hl hw hs
theorem roomT {n b : Nat} (h : n * b ≤ 70368744177664) : room n b = true := decide_eq_true h
end one
end Go.Ab
namespace Go.Ab
theorem pureR_map {α : Type} {l : List α} {enc : α → List V} (hp : ∀ x, pureL (enc x) = true) : pureR (l.map enc) = true := by
  rw [pureR, List.all_eq_true]
  intro r hr
  obtain ⟨x, _, rfl⟩ := List.mem_map.1 hr
  exact hp x
theorem pureR_int {k : IntKind} {l : List Int} : pureR (l.map (intR k)) = true := pureR_map (pure_intR k)
theorem pureR_task {l : List (Int × List Int)} : pureR (l.map taskV) = true := pureR_map pure_taskV
theorem pureR_three {l : List (Int × Int × Int)} : pureR (l.map threeV) = true := pureR_map pure_threeV
theorem pureR_bool {l : List Bool} : pureR (l.map boolR) = true := pureR_map pure_boolR
end Go.Ab
namespace Go.Ab
section slices
variable {P : Program} {wl : Nat} {c : Bool} {t e : TypeId} {α : Type} {l : List α} {enc : α → List V} {k k' : IntKind} {n lo : Int} {H : Hp}
theorem all_len (h : ∀ x, (enc x).length = szOf P e) : (l.map enc).all (fun r => r.length == szOf P e) = true := by
  rw [List.all_eq_true]
  intro r hr
  obtain ⟨x, _, rfl⟩ := List.mem_map.1 hr
  simp [h]
theorem vSlice_hi (he : elemT P t = some e) (hz : (szOf P e != 0) = true) (h : ∀ x, (enc x).length = szOf P e) :
    vSlice P wl c t (.ro (l.map enc)) none (some (.lit (.int k n))) none H = bif decide (0 ≤ n ∧ n ≤ l.length) then some (.ro ((l.take n.toNat).map enc), H) else none := by
  have hz' : szOf P e ≠ 0 := by simpa using hz
  unfold vSlice
  simp only [he, bnd]
  by_cases h0 : 0 ≤ n
  · simp only [h0, if_true, Option.bind_some, true_and]
    by_cases h1 : n ≤ l.length
    · have h2 : n.toNat ≤ l.length := by omega
      simp [h1, h2, hz', all_len h, List.map_take]
    · have h2 : ¬ n.toNat ≤ l.length := by omega
      simp [h1, h2]
  · simp [h0]
theorem vSlice_lo (he : elemT P t = some e) (hz : (szOf P e != 0) = true) (h : ∀ x, (enc x).length = szOf P e) :
    vSlice P wl c t (.ro (l.map enc)) (some (.lit (.int k n))) none none H = bif decide (0 ≤ n ∧ n ≤ l.length) then some (.ro ((l.drop n.toNat).map enc), H) else none := by
  have hz' : szOf P e ≠ 0 := by simpa using hz
  unfold vSlice
  simp only [he, bnd]
  by_cases h0 : 0 ≤ n
  · simp only [h0, if_true, Option.bind_some, true_and]
    by_cases h1 : n ≤ l.length
    · have h2 : n.toNat ≤ l.length := by omega
      simp [h1, h2, hz', all_len h, List.map_drop, List.take_of_length_le]
    · have h2 : ¬ n.toNat ≤ l.length := by omega
      simp [h1, h2]
  · simp [h0]
theorem vSlice_both (he : elemT P t = some e) (hz : (szOf P e != 0) = true) (h : ∀ x, (enc x).length = szOf P e) :
    vSlice P wl c t (.ro (l.map enc)) (some (.lit (.int k lo))) (some (.lit (.int k' n))) none H = bif decide (0 ≤ lo ∧ lo ≤ n ∧ n ≤ l.length) then some (.ro (((l.take n.toNat).drop lo.toNat).map enc), H) else none := by
  have hz' : szOf P e ≠ 0 := by simpa using hz
  unfold vSlice
  simp only [he, bnd]
  by_cases h0 : 0 ≤ lo
  · by_cases h3 : 0 ≤ n
    · simp only [h0, h3, if_true, Option.bind_some, true_and]
      by_cases h1 : n ≤ l.length
      · have h2 : n.toNat ≤ l.length := by omega
        by_cases h4 : lo ≤ n
        · have h5 : lo.toNat ≤ n.toNat := by omega
          simp [h1, h2, h4, h5, hz', all_len h, List.map_take, List.map_drop]
        · have h5 : ¬ lo.toNat ≤ n.toNat := by omega
          simp [h4, h5]
      · have h2 : ¬ n.toNat ≤ l.length := by omega
        simp [h1, h2]
    · have : ¬ (0 ≤ lo ∧ lo ≤ n ∧ n ≤ (l.length : Int)) := by omega
      simp [h3, this]
  · simp [h0]
end slices
end Go.Ab
