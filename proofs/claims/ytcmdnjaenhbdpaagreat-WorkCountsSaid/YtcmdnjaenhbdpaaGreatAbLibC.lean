import Derived.Test.YtcmdnjaenhbdpaaGreatAbLibB
set_option linter.unusedVariables false
set_option linter.unusedSimpArgs false
/- The abstract evaluator, point by point: code reached by its place, continuations by name, an operation as one word. -/
namespace Go.Ab

def codeAt : Code → List Nat → Code
  | c, [] => c
  | .seq a b, i :: p => if i = 0 then codeAt a p else codeAt b p
  | .cond _ a b, i :: p => if i = 0 then codeAt a p else codeAt b p
  | .block _ a, _ :: p => codeAt a p
  | .loop a, _ :: p => codeAt a p
  | .scope a, _ :: p => codeAt a p
  | .rangeFunc _ _ a b, i :: p => if i = 0 then codeAt a p else codeAt b p
  | c, _ => c

def bodyOf (fn : Func) : Code := fn.body.getD .skip

structure Sys where
  P : Program
  orc : FuncId → Option (List V → Hp → Option (V × Hp))
  keepRes : FuncId → FuncId → Option (Nat → Bool)
  keepArg : FuncId → Bool
  call : Nat → FuncId → List V → Hp → Option (V × Hp)
  yld : Nat → Nat → List V → Hp → Option (V × Hp)

inductive Fr where
  | seq (c : Code)
  | block (id : Nat)
  | scope (a : Code)
  | scope2 (a : Code)

def uu : V := .lit undef

abbrev Res := Option (V × Hp)

def runK (cx : Cx) (K : Out → St → Res) : List Fr → Out → St → Res
  | [], o, s => K o s
  | .seq c :: fs, o, s => match o with
    | .norm => execK cx c none (runK cx K fs) s
    | o => runK cx K fs o s
  | .block id :: fs, o, s => match o with
    | .exit id' => if id' = id then runK cx K fs .norm s else runK cx K fs (.exit id') s
    | o => runK cx K fs o s
  | .scope a :: fs, o, s => match o with
    | .goto l => if hasLabel l a then execK cx a (some l) (fun o' s'' => match o' with | .goto l' => if hasLabel l' a then none else runK cx K fs (.goto l') s'' | o' => runK cx K fs o' s'') s else runK cx K fs (.goto l) s
    | o => runK cx K fs o s
  | .scope2 a :: fs, o, s => match o with
    | .goto l => if hasLabel l a then none else runK cx K fs (.goto l) s
    | o => runK cx K fs o s

def itX (cx : Cx) (c : Code) (n0 : Nat) (K : Out → St → Res) (n : Nat) (s : St) : Res :=
  iterK (execK cx c none) n0 (cx.M.named cx.fid) (rwCode c ([], [])) K n s

def nextK (cx : Cx) (c : Code) (n0 : Nat) (K : Out → St → Res) (n : Nat) : Out → St → Res := fun o s' => match o with
  | .norm => itX cx c n0 K n (tidy n0 (dropT (cx.M.named cx.fid) (rwCode c ([], [])) false) s')
  | .ret => K .ret s'
  | o => K o (tidy n0 (dropT (cx.M.named cx.fid) (rwCode c ([], [])) true) s')

def opsOf : Code → Array Oper
  | .region _ ops _ => ops
  | _ => #[]
def rgFor : Code → Rg
  | .region _ ops draw => if draw then rgOf ops else Rg.none
  | _ => Rg.none
def stepsOf : Code → List (Oper × Nat)
  | .region _ ops draw => if draw then orderOf ops else ops.toList.zipIdx
  | _ => []
def orderIx (ops : Array Oper) : List Nat := (orderOf ops).map (·.2)

def opsP (cx : Cx) (c : Code) (j n0 : Nat) (a : List Nat × List Nat) (K : Out → St → Res) (s : St) : Res :=
  opsK cx n0 (rgFor c) (opsOf c) ((stepsOf c).drop j) a (K .norm) s

def bodyK (P : Program) (fn : Func) : Out → St → Res := fun o s => match o with
  | .norm => (resultsV P fn.results.toList s).map fun v => (v, s.H)
  | .ret => (resultsV P fn.results.toList s).map fun v => (v, s.H)
  | _ => none

def bm (x : Option V) (H : Hp) (k : V → Hp → Res) : Res := (x.map fun v => (v, H)).bind fun p => k p.1 p.2
def bp (x : Option (V × Hp)) (k : V → Hp → Res) : Res := x.bind fun p => k p.1 p.2
def bs (x : Option Hp) (k : Hp → Res) : Res := (x.map fun H' => (V.lit undef, H')).bind fun p => k p.2
def cnd (c : V) (a b : Res) : Res := match c with
  | .lit (.bool t) => bif t then a else b
  | _ => none
def gd (c : V) (a b u : Res) : Res := match c with
  | .lit (.bool t) => bif t then a else b
  | .lit (.tuple _) => u
  | _ => none
def opAlloc (P : Program) (t : TypeId) (H : Hp) : Option (V × Hp) :=
  (zeroOf P t).bind fun z => if onesL (zeroCs z) then let p := matL (zeroCs z) H; some (.ptr p.2.length 0 0 0, p.2 ++ [.box p.1]) else none
def opBox (v : V) (H : Hp) : Option (V × Hp) := v.cells.bind fun vs => let p := matL vs H; some (.ptr p.2.length 0 0 0, p.2 ++ [.box p.1])
def opBuildSliceC (P : Program) (wl : Nat) (t : TypeId) (len : Nat) (l : List (Nat × V)) (H : Hp) : Option (V × Hp) :=
  if true && !pureL (l.map (·.2)) then none else vBuildSlice P wl t len l H
def opLen (P : Program) (t : TypeId) (x : V) (H : Hp) : Option (V × Hp) := if (elemT P t).isSome then (vLen x H).map fun v => (v, H) else none
def opApp (P : Program) (wl : Nat) (t u : TypeId) (s x : V) (H : Hp) : Option (V × Hp) := if (elemT P u).isSome then vAppend P wl t s x H else none
def apt (a : List Nat × List Nat) (k : Res) : Res := if apartA a then k else none
def lgR (v : V) (a : List Nat × List Nat) : List Nat × List Nat := match idOf v with | some k => (k :: a.1, a.2) | none => a
def lgW (v : V) (a : List Nat × List Nat) : List Nat × List Nat := match idOf v with | some k => (a.1, k :: a.2) | none => a
def stB (n0 : Nat) (v : V) : Bool := match idOf v with | some i => i < n0 | none => true
def stO (n0 : Nat) (v : V) (k : Res) : Res := if stB n0 v then k else none
def resL : List (Option V) → Option (List V)
  | [] => some []
  | x :: xs => x.bind fun v => (resL xs).bind fun vs => some (v :: vs)
def resO (l : List (Option V)) (H : Hp) : Res := ((resL l).bind fun vs => match vs with | [v] => some v | vs => some (.tup vs)).map fun v => (v, H)

section steps
variable {cx : Cx} {K : Out → St → Res} {fs : List Fr} {s : St} {r : Res}

theorem bodyV_run {fn : Func} {args : List V} {H : Hp} {c : Code} (hb : fn.body = some c) (h : runK cx (bodyK cx.P fn) [.seq c] .norm ⟨args ++ List.replicate (fn.ntmps - args.length) uu, H⟩ = r) : bodyV cx fn args H = r := by
  rw [← h]
  unfold bodyV
  rw [hb]
  have : (fun o s => match o with
      | .norm => (resultsV cx.P fn.results.toList s).map fun v => (v, s.H)
      | .ret => (resultsV cx.P fn.results.toList s).map fun v => (v, s.H)
      | _ => none : Out → St → Res) = runK cx (bodyK cx.P fn) [] := by
    funext o s
    cases o <;> rfl
  show execK cx c none _ _ = execK cx c none (runK cx (bodyK cx.P fn) []) _
  rw [← this]
  rfl

theorem go_skip (h : runK cx K fs .norm s = r) : runK cx K (.seq .skip :: fs) .norm s = r := h
theorem go_label {l : Nat} (h : runK cx K fs .norm s = r) : runK cx K (.seq (.label l) :: fs) .norm s = r := h
theorem go_seq {a b : Code} (h : runK cx K (.seq a :: .seq b :: fs) .norm s = r) : runK cx K (.seq (.seq a b) :: fs) .norm s = r := by
  rw [← h]
  show execK cx a none _ s = execK cx a none (runK cx K (.seq b :: fs)) s
  congr 1
theorem go_block {id : Nat} {a : Code} (h : runK cx K (.seq a :: .block id :: fs) .norm s = r) : runK cx K (.seq (.block id a) :: fs) .norm s = r := by
  rw [← h]
  show execK cx a none _ s = execK cx a none (runK cx K (.block id :: fs)) s
  congr 1
theorem go_scope {a : Code} (h : runK cx K (.seq a :: .scope a :: fs) .norm s = r) : runK cx K (.seq (.scope a) :: fs) .norm s = r := by
  rw [← h]
  show execK cx a none _ s = execK cx a none (runK cx K (.scope a :: fs)) s
  congr 1
theorem go_exit {id : Nat} (h : runK cx K fs (.exit id) s = r) : runK cx K (.seq (.exit id) :: fs) .norm s = r := h
theorem go_goto {id : Nat} (h : runK cx K fs (.goto id) s = r) : runK cx K (.seq (.goto id) :: fs) .norm s = r := h
theorem go_ret (h : runK cx K fs .ret s = r) : runK cx K (.seq .ret :: fs) .norm s = r := h
theorem rt_seq_exit {c : Code} {id : Nat} (h : runK cx K fs (.exit id) s = r) : runK cx K (.seq c :: fs) (.exit id) s = r := h
theorem rt_seq_goto {c : Code} {id : Nat} (h : runK cx K fs (.goto id) s = r) : runK cx K (.seq c :: fs) (.goto id) s = r := h
theorem rt_seq_ret {c : Code} (h : runK cx K fs .ret s = r) : runK cx K (.seq c :: fs) .ret s = r := h
theorem rt_block_eq {id : Nat} (h : runK cx K fs .norm s = r) : runK cx K (.block id :: fs) (.exit id) s = r := by rw [← h]; simp [runK]
theorem rt_block_ne {id id' : Nat} (hn : (id' == id) = false) (h : runK cx K fs (.exit id') s = r) : runK cx K (.block id :: fs) (.exit id') s = r := by
  rw [← h]
  simp only [runK]
  rw [if_neg (by simpa using hn)]
theorem rt_block_norm {id : Nat} (h : runK cx K fs .norm s = r) : runK cx K (.block id :: fs) .norm s = r := h
theorem rt_block_goto {id l : Nat} (h : runK cx K fs (.goto l) s = r) : runK cx K (.block id :: fs) (.goto l) s = r := h
theorem rt_block_ret {id : Nat} (h : runK cx K fs .ret s = r) : runK cx K (.block id :: fs) .ret s = r := h
theorem rt_scope_ret {a : Code} (h : runK cx K fs .ret s = r) : runK cx K (.scope a :: fs) .ret s = r := h
theorem rt_scope2_norm {a : Code} (h : runK cx K fs .norm s = r) : runK cx K (.scope2 a :: fs) .norm s = r := h
theorem rt_scope2_ret {a : Code} (h : runK cx K fs .ret s = r) : runK cx K (.scope2 a :: fs) .ret s = r := h
def fromL (cx : Cx) (K : Out → St → Res) (c : Code) (l : Nat) (fs : List Fr) (s : St) : Res := execK cx c (some l) (runK cx K fs) s
theorem rt_scope_on {a : Code} {l : Nat} (hl : hasLabel l a = true) (h : fromL cx K a l (.scope2 a :: fs) s = r) : runK cx K (.scope a :: fs) (.goto l) s = r := by
  rw [← h]
  simp only [runK]
  rw [hl]
  simp only [if_true, fromL]
  congr 1
theorem fl_left {a b : Code} {l : Nat} (hl : hasLabel l a = true) (h : fromL cx K a l (.seq b :: fs) s = r) : fromL cx K (.seq a b) l fs s = r := by
  rw [← h]
  simp only [fromL, execK, hl, if_true]
  congr 1
theorem fl_right {a b : Code} {l : Nat} (hl : hasLabel l a = false) (h : fromL cx K b l fs s = r) : fromL cx K (.seq a b) l fs s = r := by
  rw [← h]
  simp [fromL, execK, hl]
theorem fl_label {l : Nat} (h : runK cx K fs .norm s = r) : fromL cx K (.label l) l fs s = r := by
  rw [← h]
  simp [fromL, execK]

theorem go_cond {c : Operand} {a b : Code} {v : V} {A B : Res} (hc : evO s.env c = some v) (hA : runK cx K (.seq a :: fs) .norm s = A) (hB : runK cx K (.seq b :: fs) .norm s = B) :
    runK cx K (.seq (.cond c a b) :: fs) .norm s = cnd v A B := by
  rw [← hA, ← hB]
  show execK cx (.cond c a b) none (runK cx K fs) s = _
  simp only [execK, hc]
  cases v with
  | lit x => cases x <;> rfl
  | _ => rfl
theorem go_reg0 {id : Nat} {ops : Array Oper} (h : opsP cx (.region id ops false) 0 s.H.length ([], []) (runK cx K fs) s = r) : runK cx K (.seq (.region id ops false) :: fs) .norm s = r := by
  rw [← h]
  show execK cx (.region id ops false) none (runK cx K fs) s = _
  simp [execK, opsP, rgFor, opsOf, stepsOf]
theorem go_reg1 {id : Nat} {ops : Array Oper} (hok : regOk ops = true) (h : opsP cx (.region id ops true) 0 s.H.length ([], []) (runK cx K fs) s = r) : runK cx K (.seq (.region id ops true) :: fs) .norm s = r := by
  rw [← h]
  show execK cx (.region id ops true) none (runK cx K fs) s = _
  simp [execK, opsP, rgFor, opsOf, stepsOf, hok]

section ops
variable {id j n0 : Nat} {ops : Array Oper} {a : List Nat × List Nat} {env : List V} {H : Hp} {o : Oper} {i : Nat} {L : List Nat}

theorem go_end0 (hs : ops.toList[j]? = none) (h : K .norm s = r) : opsP cx (.region id ops false) j n0 a K s = r := by
  rw [← h]
  have : (ops.toList.zipIdx).drop j = [] := by
    rw [List.drop_eq_nil_iff]
    simpa using List.getElem?_eq_none_iff.1 hs
  simp [opsP, rgFor, opsOf, stepsOf, this, opsK, Rg.none]

theorem drop0 (hs : ops.toList[j]? = some o) : (ops.toList.zipIdx).drop j = (o, j) :: (ops.toList.zipIdx).drop (j + 1) := by
  have h1 : (ops.toList.zipIdx)[j]? = some (o, j) := by simp [List.getElem?_zipIdx, hs]
  rw [List.getElem?_eq_some_iff] at h1
  obtain ⟨hj, he⟩ := h1
  rw [List.drop_eq_getElem_cons hj, he]

theorem drop1 (hL : orderIx ops = L) (hj : L[j]? = some i) (ho : ops.toList[i]? = some o) : (orderOf ops).drop j = (o, i) :: (orderOf ops).drop (j + 1) := by
  subst hL
  simp only [orderIx, List.getElem?_map, Option.map_eq_some_iff] at hj
  obtain ⟨p, hp, rfl⟩ := hj
  have hm : p ∈ orderOf ops := List.mem_of_getElem? hp
  have hz : p ∈ ops.toList.zipIdx := by
    simp only [orderOf, List.mem_append, List.mem_filter] at hm
    rcases hm with h | h <;> exact h.1
  have hx : ops.toList[p.2]? = some p.1 := by
    obtain ⟨x, k⟩ := p
    simpa [List.mem_zipIdx_iff_getElem?] using hz
  rw [hx] at ho
  cases ho
  rw [List.getElem?_eq_some_iff] at hp
  obtain ⟨hj, he⟩ := hp
  rw [List.drop_eq_getElem_cons hj, he]

theorem go_op0 (hs : ops.toList[j]? = some o) (hg : o.guard = none)
    (h : (opV cx false true o.op env H).bind (fun p => opsP cx (.region id ops false) (j + 1) n0 a K ⟨putE env o.dst p.1, p.2⟩) = r) : opsP cx (.region id ops false) j n0 a K ⟨env, H⟩ = r := by
  rw [← h]
  simp only [opsP, rgFor, opsOf, stepsOf, Bool.false_eq_true, if_false, drop0 hs]
  simp only [opsK, hg]
  simp [strictOk, Rg.none, logA]

theorem go_end1 (hL : orderIx ops = L) (hj : L[j]? = none) (ha : (rgOf ops).any = false) (h : K .norm s = r) : opsP cx (.region id ops true) j n0 a K s = r := by
  rw [← h]
  have : (orderOf ops).drop j = [] := by
    rw [List.drop_eq_nil_iff]
    subst hL
    simpa [orderIx] using List.getElem?_eq_none_iff.1 hj
  simp [opsP, rgFor, opsOf, stepsOf, this, opsK, ha]

def sx (n0 : Nat) (st : Bool) (op : Op) (env : List V) (x : Res) : Res := if strictOk n0 st op env then x else none
theorem st_no {st : Bool} {op : Op} {x : Res} (hst : st = false) (h : x = r) : sx n0 st op env x = r := by
  subst hst
  simpa [sx, strictOk] using h
theorem st_yes {st : Bool} {op : Op} {x : Res} {v : V} (hst : strictOk n0 st op env = stB n0 v) (h : x = r) : sx n0 st op env x = stO n0 v r := by
  rw [← h]
  unfold sx stO
  rw [hst]

theorem go_op1 (hL : orderIx ops = L) (ha : (rgOf ops).any = false) (hj : L[j]? = some i) (ho : ops.toList[i]? = some o) (hg : o.guard = none)
    (h : sx n0 ((rgOf ops).strict i) o.op env ((opV cx ((rgOf ops).calm i) ((rgOf ops).ord i) o.op env H).bind (fun p => opsP cx (.region id ops true) (j + 1) n0 a K ⟨putE env o.dst p.1, p.2⟩)) = r) : opsP cx (.region id ops true) j n0 a K ⟨env, H⟩ = r := by
  rw [← h]
  simp only [opsP, rgFor, opsOf, stepsOf, if_true, drop1 hL hj ho]
  simp only [opsK, hg]
  simp [logA, ha, sx]

theorem onGuard_run {R : Type} {b want : Bool} {d : Tmp} {env : List V} {run skip : List V → Option R} (h : b = want) : onGuard b want d env run skip = run (env.set d (.lit (.bool b))) := by
  subst h
  cases b <;> rfl
theorem onGuard_skip {R : Type} {b want : Bool} {d : Tmp} {env : List V} {run skip : List V → Option R} (h : b = !want) : onGuard b want d env run skip = skip (env.set d (.lit (.bool b))) := by
  subst h
  cases want <;> rfl

variable {gj d : Nat} {v : V} {A B C : Res}

theorem go_gdT0 (hs : ops.toList[j]? = some o) (hg : o.guard = some (gj, true)) (hd : (ops[gj]?).bind (·.dst) = some d) (hc : env[d]? = some v)
    (hA : (opV cx false true o.op (env.set d (.lit (.bool true))) H).bind (fun p => opsP cx (.region id ops false) (j + 1) n0 a K ⟨putE (env.set d (.lit (.bool true))) o.dst p.1, p.2⟩) = A)
    (hB : opsP cx (.region id ops false) (j + 1) n0 a K ⟨putE (env.set d (.lit (.bool false))) o.dst uu, H⟩ = B)
    (hC : opsP cx (.region id ops false) (j + 1) n0 a K ⟨putE env o.dst uu, H⟩ = C) : opsP cx (.region id ops false) j n0 a K ⟨env, H⟩ = gd v A B C := by
  rw [← hA, ← hB, ← hC]
  simp only [opsP, rgFor, opsOf, stepsOf, Bool.false_eq_true, if_false, drop0 hs]
  simp only [opsK, hg, hd, hc]
  simp only [strictOk, Rg.none, logA, Bool.false_eq_true, if_false, if_true, onGuard, gd]
  cases v with
  | lit x => cases x <;> rfl
  | _ => rfl
theorem go_gdF0 (hs : ops.toList[j]? = some o) (hg : o.guard = some (gj, false)) (hd : (ops[gj]?).bind (·.dst) = some d) (hc : env[d]? = some v)
    (hA : opsP cx (.region id ops false) (j + 1) n0 a K ⟨putE (env.set d (.lit (.bool true))) o.dst uu, H⟩ = A)
    (hB : (opV cx false true o.op (env.set d (.lit (.bool false))) H).bind (fun p => opsP cx (.region id ops false) (j + 1) n0 a K ⟨putE (env.set d (.lit (.bool false))) o.dst p.1, p.2⟩) = B)
    (hC : opsP cx (.region id ops false) (j + 1) n0 a K ⟨putE env o.dst uu, H⟩ = C) : opsP cx (.region id ops false) j n0 a K ⟨env, H⟩ = gd v A B C := by
  rw [← hA, ← hB, ← hC]
  simp only [opsP, rgFor, opsOf, stepsOf, Bool.false_eq_true, if_false, drop0 hs]
  simp only [opsK, hg, hd, hc]
  simp only [strictOk, Rg.none, logA, Bool.false_eq_true, if_false, if_true, onGuard, gd]
  cases v with
  | lit x => cases x <;> rfl
  | _ => rfl
theorem go_run0 {b : Bool} (hs : ops.toList[j]? = some o) (hg : o.guard = some (gj, b)) (hd : (ops[gj]?).bind (·.dst) = some d) (hc : env[d]? = some (.lit (.bool b)))
    (h : (opV cx false true o.op (env.set d (.lit (.bool b))) H).bind (fun p => opsP cx (.region id ops false) (j + 1) n0 a K ⟨putE (env.set d (.lit (.bool b))) o.dst p.1, p.2⟩) = r) : opsP cx (.region id ops false) j n0 a K ⟨env, H⟩ = r := by
  rw [← h]
  simp only [opsP, rgFor, opsOf, stepsOf, Bool.false_eq_true, if_false, drop0 hs]
  simp only [opsK, hg, hd, hc, onGuard_run rfl]
  simp only [strictOk, Rg.none, logA, Bool.false_eq_true, if_false, if_true]
theorem go_skip0 {b : Bool} (hs : ops.toList[j]? = some o) (hg : o.guard = some (gj, b)) (hd : (ops[gj]?).bind (·.dst) = some d) (hc : env[d]? = some (.lit (.bool !b)))
    (h : opsP cx (.region id ops false) (j + 1) n0 a K ⟨putE (env.set d (.lit (.bool !b))) o.dst uu, H⟩ = r) : opsP cx (.region id ops false) j n0 a K ⟨env, H⟩ = r := by
  rw [← h]
  simp only [opsP, rgFor, opsOf, stepsOf, Bool.false_eq_true, if_false, drop0 hs]
  simp only [opsK, hg, hd, hc, onGuard_skip rfl]
  rfl
theorem go_none0 {x : Array Value} {b : Bool} (hs : ops.toList[j]? = some o) (hg : o.guard = some (gj, b)) (hd : (ops[gj]?).bind (·.dst) = some d) (hc : env[d]? = some (.lit (.tuple x)))
    (h : opsP cx (.region id ops false) (j + 1) n0 a K ⟨putE env o.dst uu, H⟩ = r) : opsP cx (.region id ops false) j n0 a K ⟨env, H⟩ = r := by
  rw [← h]
  simp only [opsP, rgFor, opsOf, stepsOf, Bool.false_eq_true, if_false, drop0 hs]
  simp only [opsK, hg, hd, hc]
  rfl

end ops

theorem st_bm {X : Option (V × Hp)} {F : V × Hp → Res} {x : Option V} {H : Hp} {k : V → Hp → Res} (h1 : X = x.map fun v => (v, H)) (h2 : ∀ v h, F (v, h) = k v h) : X.bind F = bm x H k := by
  subst h1
  cases x with
  | none => rfl
  | some v => exact h2 v H
theorem st_bp {X x : Option (V × Hp)} {F : V × Hp → Res} {k : V → Hp → Res} (h1 : X = x) (h2 : ∀ v h, F (v, h) = k v h) : X.bind F = bp x k := by
  subst h1
  cases X with
  | none => rfl
  | some p => exact h2 p.1 p.2
theorem st_bs {X : Option (V × Hp)} {F : V × Hp → Res} {x : Option Hp} {k : Hp → Res} (h1 : X = x.map fun H' => (uu, H')) (h2 : ∀ h, F (uu, h) = k h) : X.bind F = bs x k := by
  subst h1
  cases x with
  | none => rfl
  | some h => exact h2 h
theorem st_id {X : Option (V × Hp)} {F : V × Hp → Res} {v : V} {H : Hp} (h1 : X = some (v, H)) (h2 : F (v, H) = r) : X.bind F = r := by
  subst h1
  exact h2
theorem itX_step {c : Code} {n0 n : Nat} (h : runK cx (nextK cx c n0 K n) [.seq c] .norm s = r) : itX cx c n0 K (n + 1) s = r := by
  rw [← h]
  show execK cx c none _ s = execK cx c none (runK cx (nextK cx c n0 K n) []) s
  congr 1
end steps
end Go.Ab

/- Operations on typed data: what each comes to, as rewriting rules. -/
namespace Go.Ab
section combinators
variable {H : Hp} {K : V → Hp → Res} {k : Hp → Res} {A B C : Res}
@[congr] theorem bm_congr {x y : Option V} (h : x = y) : bm x H K = bm y H K := by rw [h]
@[congr] theorem bp_congr {x y : Option (V × Hp)} (h : x = y) : bp x K = bp y K := by rw [h]
@[congr] theorem bs_congr {x y : Option Hp} (h : x = y) : bs x k = bs y k := by rw [h]
@[congr] theorem cnd_congr {x y : V} (h : x = y) : cnd x A B = cnd y A B := by rw [h]
@[congr] theorem gd_congr {x y : V} (h : x = y) : gd x A B C = gd y A B C := by rw [h]

def ob {α β : Type} (x : Option α) (k : α → Option β) : Option β := x.bind k
def ck {β : Type} (c : Bool) (k : Option β) : Option β := bif c then k else none

theorem bm_some {v : V} : bm (some v) H K = K v H := rfl
theorem bm_none : bm none H K = none := rfl
theorem bp_some {v : V} {h : Hp} : bp (some (v, h)) K = K v h := rfl
theorem bp_none : bp none K = none := rfl
theorem bs_some {h : Hp} : bs (some h) k = k h := rfl
theorem bs_none : bs none k = none := rfl
theorem bm_map {α : Type} {x : Option α} {f : α → V} : bm (x.map f) H K = ob x fun a => K (f a) H := by cases x <;> rfl
theorem bm_bind {α : Type} {x : Option α} {f : α → Option V} : bm (x.bind f) H K = ob x fun a => bm (f a) H K := by cases x <;> rfl
theorem bp_map {α : Type} {x : Option α} {f : α → V × Hp} : bp (x.map f) K = ob x fun a => K (f a).1 (f a).2 := by cases x <;> rfl
theorem bp_bind {α : Type} {x : Option α} {f : α → Option (V × Hp)} : bp (x.bind f) K = ob x fun a => bp (f a) K := by cases x <;> rfl
theorem bs_map {α : Type} {x : Option α} {f : α → Hp} : bs (x.map f) k = ob x fun a => k (f a) := by cases x <;> rfl
theorem bs_bind {α : Type} {x : Option α} {f : α → Option Hp} : bs (x.bind f) k = ob x fun a => bs (f a) k := by cases x <;> rfl
theorem bm_bif {c : Bool} {x : Option V} : bm (bif c then x else none) H K = ck c (bm x H K) := by cases c <;> rfl
theorem bp_bif {c : Bool} {x : Option (V × Hp)} : bp (bif c then x else none) K = ck c (bp x K) := by cases c <;> rfl
theorem bs_bif {c : Bool} {x : Option Hp} : bs (bif c then x else none) k = ck c (bs x k) := by cases c <;> rfl
theorem cnd_b {t : Bool} : cnd (.lit (.bool t)) A B = bif t then A else B := rfl
theorem gd_b {t : Bool} : gd (.lit (.bool t)) A B C = bif t then A else B := rfl
theorem gd_u : gd uu A B C = C := rfl
theorem ck_true {β : Type} {A : Option β} : ck true A = A := rfl
theorem ck_false {β : Type} {A : Option β} : ck false A = none := rfl
theorem ob_some {α β : Type} {a : α} {f : α → Option β} : ob (some a) f = f a := rfl
theorem ob_none {α β : Type} {f : α → Option β} : ob none f = none := rfl
end combinators

def idx {α : Type} (l : List α) (i : Int) : Option α := if 0 ≤ i then l[i.toNat]? else none
theorem idx_nat {α : Type} (l : List α) (i : Nat) : idx l (i : Int) = l[i]? := by simp [idx]

section ops
variable {P : Program} {t : TypeId} {k k' : IntKind} {a b : Int} {x y : V}
theorem vBin_add : vBin P .add t (.lit (.int k a)) (.lit (.int k b)) = some (.lit (.int k (k.wrap (a + b)))) := by simp [vBin, litBin]
theorem vBin_sub : vBin P .sub t (.lit (.int k a)) (.lit (.int k b)) = some (.lit (.int k (k.wrap (a - b)))) := by simp [vBin, litBin]
theorem vBin_mul : vBin P .mul t (.lit (.int k a)) (.lit (.int k b)) = some (.lit (.int k (k.wrap (a * b)))) := by simp [vBin, litBin]
theorem vBin_eql : vBin P .eql t (.lit (.int k a)) (.lit (.int k b)) = some (.lit (.bool (a == b))) := by simp [vBin, litBin]
theorem vBin_neq : vBin P .neq t (.lit (.int k a)) (.lit (.int k b)) = some (.lit (.bool (a != b))) := by simp [vBin, litBin]
theorem vBin_lss : vBin P .lss t (.lit (.int k a)) (.lit (.int k b)) = some (.lit (.bool (decide (a < b)))) := by simp [vBin, litBin]
theorem vBin_leq : vBin P .leq t (.lit (.int k a)) (.lit (.int k b)) = some (.lit (.bool (decide (a ≤ b)))) := by simp [vBin, litBin]
theorem vBin_gtr : vBin P .gtr t (.lit (.int k a)) (.lit (.int k b)) = some (.lit (.bool (decide (b < a)))) := by simp [vBin, litBin]
theorem vBin_geq : vBin P .geq t (.lit (.int k a)) (.lit (.int k b)) = some (.lit (.bool (decide (b ≤ a)))) := by simp [vBin, litBin]
theorem vBin_quo : vBin P .quo t (.lit (.int k a)) (.lit (.int k b)) = bif b != 0 then some (.lit (.int k (k.wrap (a.tdiv b)))) else none := by
  by_cases h : b = 0
  · simp [vBin, litBin, h]
  · simp [vBin, litBin, h, (bne_iff_ne).2 h]
theorem vBin_rem : vBin P .rem t (.lit (.int k a)) (.lit (.int k b)) = bif b != 0 then some (.lit (.int k (a.tmod b))) else none := by
  by_cases h : b = 0
  · simp [vBin, litBin, h]
  · simp [vBin, litBin, h, (bne_iff_ne).2 h]
theorem vBin_beql {p q : Bool} (h : isBoolT P t = true) : vBin P .eql t (.lit (.bool p)) (.lit (.bool q)) = some (.lit (.bool (p == q))) := by simp [vBin, h]
theorem vBin_bneq {p q : Bool} (h : isBoolT P t = true) : vBin P .neq t (.lit (.bool p)) (.lit (.bool q)) = some (.lit (.bool (!(p == q)))) := by simp [vBin, h]
theorem vUn_not {p : Bool} : vUn .not (.lit (.bool p)) = some (.lit (.bool !p)) := rfl
theorem vUn_neg : vUn .neg (.lit (.int k a)) = some (.lit (.int k (k.wrap (0 - a)))) := rfl
theorem vPick_b {p : Bool} : vPick (.lit (.bool p)) x y = some (bif p then x else y) := rfl
theorem vExtract_0 {l : List V} : vExtract (.tup (x :: l)) 0 = some x := rfl
theorem vExtract_1 {l : List V} : vExtract (.tup (x :: y :: l)) 1 = some y := rfl
theorem vExtract_2 {z : V} {l : List V} : vExtract (.tup (x :: y :: z :: l)) 2 = some z := rfl
end ops

def intR (k : IntKind) (n : Int) : List V := [.lit (.int k n)]
def boolR (b : Bool) : List V := [.lit (.bool b)]

section mem
variable {P : Program} {t : TypeId} {H : Hp} {wl : Nat}

theorem vLoad_rp {cs : List V} : vLoad P t (.rp cs) H = ldCells P t cs := rfl
def ldB (P : Program) (t : TypeId) (g row off : Nat) : Option B → Option V
  | some (.box cs) => bif g == 0 && row == 0 then ldCells P t (cs.drop off) else none
  | some (.rows _ rs g' _) => bif g == g' then (rs[row]?).bind fun r => ldCells P t (r.drop off) else none
  | _ => none
theorem vLoad_ptr {id g row off : Nat} : vLoad P t (.ptr id g row off) H = ldB P t g row off (H[id]?) := by
  unfold vLoad ldB
  dsimp only
  generalize H[id]? = b0
  cases b0 with
  | none => rfl
  | some b => cases b <;> simp [Bool.cond_eq_ite]
theorem ldB_box {off : Nat} {cs : List V} : ldB P t 0 0 off (some (.box cs)) = ldCells P t (cs.drop off) := rfl
theorem ldB_rows {α : Type} {l : List α} {enc : α → List V} {g row off e : Nat} {lv : Bool} :
    ldB P t g row off (some (.rows e (l.map enc) g lv)) = (l[row]?).bind fun x => ldCells P t ((enc x).drop off) := by
  simp [ldB]
  cases l[row]? <;> rfl

def stBk (P : Program) (wl : Nat) (t : TypeId) (id g row off : Nat) (vs : List V) (H : Hp) : Option B → Option Hp
  | some (.box cs) =>
    bif g == 0 && row == 0 && szOf P t != 0 && vs.length == szOf P t && decide (off + vs.length ≤ cs.length) then
      some ((matL vs H).2.set id (.box (spl cs off (matL vs H).1)))
    else none
  | some (.rows _ _ _ _) => (fzL wl true vs H).bind fun p =>
    match p.2[id]? with
    | some (.rows e rs g' true) =>
      bif g == g' && szOf P t != 0 && vs.length == szOf P t then
        (rs[row]?).bind fun r => bif decide (off + p.1.length ≤ r.length) then some (p.2.set id (.rows e (rs.set row (spl r off p.1)) g' true)) else none
      else none
    | _ => none
  | _ => none
theorem vStore_ptr {id g row off : Nat} {v : V} : vStore P wl t (.ptr id g row off) v H = (v.cells).bind fun vs => bif Nat.ble wl id then stBk P wl t id g row off vs H (H[id]?) else none := by
  unfold vStore
  cases hv : v.cells with
  | none => simp
  | some vs =>
    simp only [Option.bind_some]
    cases hw : Nat.ble wl id with
    | false => simp
    | true =>
      simp only [if_true, cond_true]
      unfold stBk
      generalize H[id]? = b0
      cases b0 with
      | none => rfl
      | some b =>
        cases b with
        | box cs => simp only [Bool.cond_eq_ite, Bool.and_eq_true, beq_iff_eq, bne_iff_ne, decide_eq_true_eq, and_assoc]
        | rows e rs g' lv =>
          simp only
          congr 1
          funext p
          generalize p.2[id]? = b1
          cases b1 with
          | none => rfl
          | some b => 
            cases b with
            | rows e rs g' lv => cases lv <;> simp [Bool.cond_eq_ite, and_assoc]
            | _ => rfl
        | _ => rfl

theorem vIndexAddr_ro {α : Type} {l : List α} {enc : α → List V} {e : TypeId} {k : IntKind} {n : Int} (hu : P.underlying t = some (.slice e)) (hs : ∀ x, (enc x).length = szOf P e) (hz : (szOf P e != 0) = true) :
    vIndexAddr P t (.ro (l.map enc)) (.lit (.int k n)) H = (idx l n).map fun x => .rp (enc x) := by
  have hz' : szOf P e ≠ 0 := by simpa using hz
  unfold vIndexAddr idx
  simp only [hu]
  split
  · cases hl : l[n.toNat]? with
    | none => simp [hl]
    | some x => simp [hl, hs, hz']
  · rfl
def ixB (sz g len id : Nat) (n : Int) : Option B → Option V
  | some (.rows s _ g' _) => bif g == g' && s == sz then bif decide (0 ≤ n ∧ n.toNat < len) then some (.ptr id g n.toNat 0) else none else none
  | _ => none
theorem vIndexAddr_own {id g len : Nat} {e : TypeId} {k : IntKind} {n : Int} (hu : P.underlying t = some (.slice e)) (hz : (szOf P e != 0) = true) :
    vIndexAddr P t (.own id g len) (.lit (.int k n)) H = ixB (szOf P e) g len id n (H[id]?) := by
  have hz' : szOf P e ≠ 0 := by simpa using hz
  unfold vIndexAddr ixB
  simp only [hu]
  by_cases hn : 0 ≤ n
  · simp only [hn, if_true, true_and]
    generalize H[id]? = b0
    cases b0 with
    | none => rfl
    | some b =>
      cases b with
      | rows s rs g' lv =>
        simp only [hz', ne_eq, not_false_eq_true, and_true, Bool.cond_eq_ite, Bool.and_eq_true, beq_iff_eq, decide_eq_true_eq]
      | _ => rfl
  · simp only [hn, if_false, false_and, decide_false]
    generalize H[id]? = b0
    cases b0 with
    | none => rfl
    | some b =>
      cases b with
      | rows s rs g' lv => simp
      | _ => rfl
theorem ixB_rows {sz g len id : Nat} {n : Int} {rs : List (List V)} {lv : Bool} : ixB sz g len id n (some (.rows sz rs g lv)) = bif decide (0 ≤ n ∧ n.toNat < len) then some (.ptr id g n.toNat 0) else none := by
  simp [ixB]

theorem vLen_ro {rows : List (List V)} : vLen (.ro rows) H = some (.lit (.int .i64 rows.length)) := rfl
theorem vLen_nil : vLen .nil H = some (.lit (.int .i64 0)) := rfl
def lnB (g len : Nat) : Option B → Option V
  | some (.rows _ _ g' _) => bif g == g' then some (.lit (.int .i64 len)) else none
  | _ => none
theorem vLen_own {id g len : Nat} : vLen (.own id g len) H = lnB g len (H[id]?) := by
  unfold vLen lnB
  dsimp only
  generalize H[id]? = b0
  cases b0 with
  | none => rfl
  | some b => cases b <;> simp [Bool.cond_eq_ite]
theorem lnB_rows {g len e : Nat} {rs : List (List V)} {lv : Bool} : lnB g len (some (.rows e rs g lv)) = some (.lit (.int .i64 len)) := by simp [lnB]
theorem opBox_lit {v : Value} (h : v.oneCell' = true) : opBox (.lit v) H = some (.ptr H.length 0 0 0, H ++ [.box [.lit v]]) := by
  simp [opBox, V.cells, V.one, h, matL]
theorem opBox_int {k : IntKind} {n : Int} : opBox (.lit (.int k n)) H = some (.ptr H.length 0 0 0, H ++ [.box [.lit (.int k n)]]) := opBox_lit rfl
theorem opBox_bool {b : Bool} : opBox (.lit (.bool b)) H = some (.ptr H.length 0 0 0, H ++ [.box [.lit (.bool b)]]) := opBox_lit rfl
theorem opBox_ro {r : List (List V)} : opBox (.ro r) H = some (.ptr H.length 0 0 0, H ++ [.box [.ro r]]) := by simp [opBox, V.cells, V.one, matL]
theorem opBox_agg {l : List V} : opBox (.agg l) H = some (.ptr (matL l H).2.length 0 0 0, (matL l H).2 ++ [.box (matL l H).1]) := by simp [opBox, V.cells]
theorem matL_nil : matL [] H = ([], H) := rfl
theorem matL_lit {v : Value} {l : List V} : matL (.lit v :: l) H = (.lit v :: (matL l H).1, (matL l H).2) := rfl
theorem matL_ro {r : List (List V)} {l : List V} : matL (.ro r :: l) H = (.ro r :: (matL l H).1, (matL l H).2) := rfl
theorem matL_own {i g n : Nat} {l : List V} : matL (.own i g n :: l) H = (.own i g n :: (matL l H).1, (matL l H).2) := rfl
theorem matL_ptr {i g n o : Nat} {l : List V} : matL (.ptr i g n o :: l) H = (.ptr i g n o :: (matL l H).1, (matL l H).2) := rfl
theorem matL_fn {f : Fn} {a b l : List V} : matL (.fn f a b :: l) H = (.fn f a b :: (matL l H).1, (matL l H).2) := rfl
theorem matL_none {l : List V} : matL (.nil :: l) H = (.own H.length 0 0 :: (matL l (H ++ [.rows 0 [] 0 true])).1, (matL l (H ++ [.rows 0 [] 0 true])).2) := rfl
theorem cells_lit {v : Value} (h : v.oneCell' = true) : V.cells (.lit v) = some [.lit v] := by simp [V.cells, V.one, h]
theorem cells_int {k : IntKind} {n : Int} : V.cells (.lit (.int k n)) = some [.lit (.int k n)] := cells_lit rfl
theorem cells_bool {b : Bool} : V.cells (.lit (.bool b)) = some [.lit (.bool b)] := cells_lit rfl
theorem cells_ro {r : List (List V)} : V.cells (.ro r) = some [.ro r] := rfl
theorem cells_own {i g n : Nat} : V.cells (.own i g n) = some [.own i g n] := rfl
theorem cells_ptr {i g n o : Nat} : V.cells (.ptr i g n o) = some [.ptr i g n o] := rfl
theorem cells_fn {f : Fn} {a b : List V} : V.cells (.fn f a b) = some [.fn f a b] := rfl
theorem cells_nil : V.cells .nil = some [.nil] := rfl
theorem cells_agg {l : List V} : V.cells (.agg l) = some l := rfl
theorem vNil_ptr {id g row off : Nat} : vNil (.ptr id g row off) H = (match H[id]? with
    | some (.box _) => bif g == 0 then some (.ptr id g row off) else none
    | some (.rows _ _ g' _) => bif g == g' then some (.ptr id g row off) else none
    | _ => none) := by
  unfold vNil
  dsimp only
  generalize H[id]? = b0
  cases b0 with
  | none => rfl
  | some b => cases b <;> simp [Bool.cond_eq_ite]
theorem vNil_fn {f : FuncId} {a b : List V} : vNil (.fn (.func f) a b) H = some (.fn (.func f) a b) := rfl
theorem vNil_rp {c : List V} : vNil (.rp c) H = some (.rp c) := rfl

theorem nextK_ret {cx : Cx} {c : Code} {n0 : Nat} {K : Out → St → Res} {n : Nat} {s : St} : nextK cx c n0 K n .ret s = K .ret s := rfl
theorem resO_1 {v : V} : resO [some v] H = some (v, H) := rfl
theorem resO_2 {v w : V} : resO [some v, some w] H = some (.tup [v, w], H) := rfl
theorem resO_3 {v w x : V} : resO [some v, some w, some x] H = some (.tup [v, w, x], H) := rfl
end mem
end Go.Ab

/- Calls, and slices of one's own, on typed data. -/
namespace Go.Ab

mutual
def V.data : V → Bool
  | .lit _ => true
  | .ro _ => true
  | .nil => true
  | .agg cs => cellsData cs
  | .fn _ a b => dataL a && dataL b
  | _ => false
def dataL : List V → Bool
  | [] => true
  | v :: vs => v.data && dataL vs
def cellsData : List V → Bool
  | [] => true
  | .lit _ :: vs => cellsData vs
  | .ro _ :: vs => cellsData vs
  | _ :: _ => false
end

theorem cellsData_pure : ∀ {l : List V}, cellsData l = true → pureL l = true
  | [], _ => rfl
  | .lit _ :: vs, h => by
    have := cellsData_pure (l := vs) (by simpa [cellsData] using h)
    simp [pureL, V.pure, this]
  | .ro _ :: vs, h => by
    have := cellsData_pure (l := vs) (by simpa [cellsData] using h)
    simp [pureL, V.pure, this]
  | .nil :: _, h | .any :: _, h | .junk :: _, h | .agg _ :: _, h | .tup _ :: _, h | .fn .. :: _, h | .yld _ :: _, h | .rp _ :: _, h | .ptr .. :: _, h | .own .. :: _, h | .map _ :: _, h => by simp [cellsData] at h
mutual
theorem data_pure : ∀ {v : V}, v.data = true → v.pure = true
  | .lit _, _ | .ro _, _ | .nil, _ => rfl
  | .agg cs, h => cellsData_pure h
  | .fn _ a b, h => by
    simp [V.data] at h
    simp [V.pure, dataL_pure h.1, dataL_pure h.2]
  | .any, h | .junk, h | .tup _, h | .yld _, h | .rp _, h | .ptr .., h | .own .., h | .map _, h => by simp [V.data] at h
theorem dataL_pure : ∀ {l : List V}, dataL l = true → pureL l = true
  | [], _ => rfl
  | v :: vs, h => by
    simp [dataL] at h
    simp [pureL, data_pure h.1, dataL_pure h.2]
end
def callRes (cx : Cx) (g : FuncId) (args : List V) : Option (V × Hp) := (cx.call 0 g args []).bind fun p => retV (cx.M.keepRes cx.fid g) p.1 p.2
section ret
variable {H : Hp}
theorem retV_lit {v : Value} {h : Hp} : retV none (.lit v) h = some (.lit v, []) := rfl
def fzB (wl id g len : Nat) (H : Hp) : Option B → Option (V × Hp)
  | some (.rows e rs g' _) => bif g == g' && decide (len ≤ rs.length) && (pureR rs && Nat.ble wl id) then some (.ro (rs.take len), H.set id (.rows e rs g' false)) else none
  | _ => none
theorem fzC_own {wl id g len : Nat} : fzC wl (.own id g len) H = fzB wl id g len H (H[id]?) := by
  unfold fzC fzB
  dsimp only
  generalize H[id]? = b
  cases b with
  | none => rfl
  | some b =>
    cases b with
    | rows e rs g' lv =>
      by_cases h1 : g = g'
      · by_cases h2 : len ≤ rs.length <;> cases h3 : (pureR rs && Nat.ble wl id) <;> simp [h1, h2]
      · simp [h1, beq_false_of_ne h1]
    | _ => rfl
theorem fzB_rows {α : Type} {l : List α} {enc : α → List V} {wl id g e len : Nat} {lv : Bool} (hl : len = l.length) (hp : ∀ x, pureL (enc x) = true) (hw : Nat.ble wl id = true) :
    fzB wl id g len H (some (.rows e (l.map enc) g lv)) = some (.ro (l.map enc), H.set id (.rows e (l.map enc) g false)) := by
  subst hl
  have h1 : pureR (l.map enc) = true := by
    rw [pureR, List.all_eq_true]
    intro r hr
    obtain ⟨x, _, rfl⟩ := List.mem_map.1 hr
    exact hp x
  have h2 : (l.map enc).take l.length = l.map enc := by rw [List.take_of_length_le]; simp
  simp [fzB, h1, hw, h2]
theorem retV_own {α : Type} {l : List α} {enc : α → List V} {id g e len : Nat} {lv : Bool} {h : Hp} (hb : h[id]? = some (.rows e (l.map enc) g lv)) (hl : len = l.length) (hp : ∀ x, pureL (enc x) = true) :
    retV none (.own id g len) h = some (.ro (l.map enc), []) := by
  simp only [retV, fzR, fzR1, fzA, fzC_own, hb, fzB_rows hl hp (by simp : Nat.ble 0 id = true), Option.bind_some, V.pure, if_true]
end ret

section app
variable {P : Program} {wl : Nat} {t : TypeId} {H : Hp}
theorem rowsOf_ro {r : List (List V)} : rowsOf (.ro r) H = some r := rfl
theorem rowsOf_nil : rowsOf .nil H = some [] := rfl
def roB (g len : Nat) : Option B → Option (List (List V))
  | some (.rows _ rs g' _) => bif g == g' && decide (len ≤ rs.length) then some (rs.take len) else none
  | _ => none
theorem rowsOf_own {id g len : Nat} : rowsOf (.own id g len) H = roB g len (H[id]?) := by
  unfold rowsOf roB
  dsimp only
  generalize H[id]? = b
  cases b with
  | none => rfl
  | some b => cases b <;> simp [Bool.cond_eq_ite]
def apB (wl _e : Nat) (sz bytes id g len : Nat) (xs : List (List V)) (H : Hp) : Option B → Option (V × Hp)
  | some (.rows s rs g' live) =>
    bif Nat.ble wl id && (g == g') && decide (len ≤ rs.length) && (live || len == rs.length) && (s == sz || s == 0) && decide ((len + xs.length) * bytes ≤ 70368744177664) then
      some (.own id (g + 1) (len + xs.length), H.set id (.rows sz (rs.take len ++ xs) (g + 1) live)) else none
  | _ => none
theorem vAppend_own {e : TypeId} {id g len : Nat} {x : V} (he : elemT P t = some e) (hg : growT P e = true) :
    vAppend P wl t (.own id g len) x H = (rowsOf x H).bind fun xs => bif okRows (szOf P e) xs then apB wl e (szOf P e) (P.bytesOf e) id g len xs H (H[id]?) else none := by
  unfold vAppend
  simp only [he]
  cases hr : rowsOf x H with
  | none => rfl
  | some xs =>
    simp only [Option.bind_some, hg, Bool.and_true]
    cases okRows (szOf P e) xs with
    | false => rfl
    | true =>
      simp only [if_true, cond_true, apB]
      generalize H[id]? = b
      cases b with
      | none => rfl
      | some b =>
        cases b with
        | rows s rs g' lv => simp [Bool.cond_eq_ite, and_assoc]
        | _ => rfl
theorem vAppend_nil {e : TypeId} {x : V} (he : elemT P t = some e) (hg : growT P e = true) :
    vAppend P wl t .nil x H = (rowsOf x H).bind fun xs => bif okRows (szOf P e) xs then bif decide (xs.length * P.bytesOf e ≤ 70368744177664) then some (.own H.length 0 xs.length, H ++ [.rows (szOf P e) xs 0 true]) else none else none := by
  unfold vAppend
  simp only [he]
  cases hr : rowsOf x H with
  | none => rfl
  | some xs =>
    simp only [Option.bind_some, hg, Bool.and_true]
    cases okRows (szOf P e) xs with
    | false => rfl
    | true => simp [Bool.cond_eq_ite]
theorem okRows_map {α : Type} {l : List α} {enc : α → List V} {sz : Nat} (h : ∀ x, (enc x).length = sz) : okRows sz (l.map enc) = true := by
  rw [okRows, List.all_eq_true]
  intro r hr
  obtain ⟨x, _, rfl⟩ := List.mem_map.1 hr
  simp [h]
def room (n bytes : Nat) : Bool := decide (n * bytes ≤ 70368744177664)
theorem vMakeSlice_eq {e : TypeId} {n : Int} {z : Value} {Z : List V} (he : elemT P t = some e) (hz : zeroOf P e = some z) (hZ : vMakeSlice.fzZ (zeroCs z) = Z) (ho : (onesL (zeroCs z) && (zeroCs z).length == szOf P e && szOf P e != 0) = true) :
    vMakeSlice P t (.lit (.int .i64 n)) (.lit (.int .i64 n)) H = bif decide (0 ≤ n ∧ n ≤ 9223372036854775807 ∧ n * P.bytesOf e ≤ 70368744177664) then some (.own H.length 0 n.toNat, H ++ [.rows (szOf P e) (List.replicate n.toNat Z) 0 true]) else none := by
  unfold vMakeSlice
  simp only [he, hz, ho, if_true, hZ, true_and, Bool.cond_eq_ite, decide_eq_true_eq]
end app

theorem killR_map {α : Type} {l : List α} {enc : α → List V} {n : Nat} (hp : ∀ x, pureL (enc x) = true) : killR n (l.map enc) = l.map enc := by
  have h1 : pureR (l.map enc) = true := by
    rw [pureR, List.all_eq_true]
    intro r hr
    obtain ⟨x, _, rfl⟩ := List.mem_map.1 hr
    exact hp x
  simp [killR, h1]
theorem shiftR_map {α : Type} {l : List α} {enc : α → List V} {n : Nat} (hp : ∀ x, pureL (enc x) = true) : shiftR n (l.map enc) = l.map enc := by
  have h1 : pureR (l.map enc) = true := by
    rw [pureR, List.all_eq_true]
    intro r hr
    obtain ⟨x, _, rfl⟩ := List.mem_map.1 hr
    exact hp x
  simp [shiftR, h1]
theorem shiftR_nil {n : Nat} : shiftR n [] = [] := rfl
theorem killR_nil {n : Nat} : killR n [] = [] := rfl
theorem pure_intR (k : IntKind) (x : Int) : pureL (intR k x) = true := rfl
theorem pure_boolR (x : Bool) : pureL (boolR x) = true := rfl
theorem pure_taskV (x : Int × List Int) : pureL (taskV x) = true := rfl
theorem pure_threeV (x : Int × Int × Int) : pureL (threeV x) = true := rfl
theorem killR_int {k : IntKind} {l : List Int} {n : Nat} : killR n (l.map (intR k)) = l.map (intR k) := killR_map (pure_intR k)
theorem killR_bool {l : List Bool} {n : Nat} : killR n (l.map boolR) = l.map boolR := killR_map pure_boolR
theorem killR_task {l : List (Int × List Int)} {n : Nat} : killR n (l.map taskV) = l.map taskV := killR_map pure_taskV
theorem killR_three {l : List (Int × Int × Int)} {n : Nat} : killR n (l.map threeV) = l.map threeV := killR_map pure_threeV
theorem shiftR_int {k : IntKind} {l : List Int} {n : Nat} : shiftR n (l.map (intR k)) = l.map (intR k) := shiftR_map (pure_intR k)
theorem shiftR_bool {l : List Bool} {n : Nat} : shiftR n (l.map boolR) = l.map boolR := shiftR_map pure_boolR
theorem shiftR_task {l : List (Int × List Int)} {n : Nat} : shiftR n (l.map taskV) = l.map taskV := shiftR_map pure_taskV
theorem shiftR_three {l : List (Int × Int × Int)} {n : Nat} : shiftR n (l.map threeV) = l.map threeV := shiftR_map pure_threeV
theorem Bshift_box {n : Nat} {cs : List V} : B.shift n (.box cs) = .box (shiftL n cs) := rfl
theorem Bshift_rows {n e g : Nat} {rs : List (List V)} {l : Bool} : B.shift n (.rows e rs g l) = .rows e (shiftR n rs) g l := rfl
theorem Bkill_box {n : Nat} {cs : List V} : B.kill n (.box cs) = .box (killL n cs) := rfl
theorem Bkill_rows {n e g : Nat} {rs : List (List V)} {l : Bool} : B.kill n (.rows e rs g l) = .rows e (killR n rs) g l := rfl
theorem Bkill_dead {n : Nat} : B.kill n .dead = .dead := rfl
theorem setR_bool {l : List Bool} {i : Nat} {b : Bool} : (l.map boolR).set i [.lit (.bool b)] = (l.set i b).map boolR := by rw [List.map_set]; rfl
theorem setR_int {k : IntKind} {l : List Int} {i : Nat} {b : Int} : (l.map (intR k)).set i [.lit (.int k b)] = (l.set i b).map (intR k) := by rw [List.map_set]; rfl
theorem repR_bool {n : Nat} {b : Bool} : List.replicate n [V.lit (.bool b)] = (List.replicate n b).map boolR := by rw [List.map_replicate]; rfl
theorem repR_int {k : IntKind} {n : Nat} {b : Int} : List.replicate n [V.lit (.int k b)] = (List.replicate n b).map (intR k) := by rw [List.map_replicate]; rfl
theorem getR_map {α : Type} {l : List α} {f : α → List V} {i : Nat} : (l.map f)[i]? = (l[i]?).map f := List.getElem?_map
theorem ble0 {n : Nat} : Nat.ble 0 n = true := by cases n <;> rfl
theorem taskV_eq (x : Int × List Int) : taskV x = [.lit (.int .i64 x.1), .ro (x.2.map (intR .i64))] := rfl
theorem retV_litk {keep : Option (Nat → Bool)} {v : Value} {h : Hp} : retV keep (.lit v) h = some (.lit v, []) := by
  cases keep <;> rfl
theorem retV_rok {keep : Option (Nat → Bool)} {r : List (List V)} {h : Hp} : retV keep (.ro r) h = some (.ro r, []) := by
  cases keep <;> rfl
theorem wrap64 {z : Int} (h1 : -9223372036854775808 ≤ z) (h2 : z ≤ 9223372036854775807) : IntKind.i64.wrap z = z := by
  simp [IntKind.wrap, IntKind.bits, IntKind.signed]
  omega
end Go.Ab

/- Ranges over functions, on typed data. -/
namespace Go.Ab

def bdK (id n : Nat) : Out → St → Res := fun o s => match s.H[id]? with
  | some (.loop l) => some (.lit (.bool (outCode o).isNone), cutH n (s.H.set id (.loop { l with st := if (outCode o).isNone then .ready else .done, pending := outCode o })))
  | _ => none
def asK (cx : Cx) (id n : Nat) (body : Code) : Out → St → Res := fun o s => match o with
  | .norm => match s.H[id]? with
    | some (.loop l) => if l.st = .ready then runK cx (bdK id n) [.seq body] .norm ⟨s.env, s.H.set id (.loop { l with st := .busy })⟩ else none
    | _ => none
  | _ => none

def rfK (K : Out → St → Res) (env : List V) (n : Nat) (p : V × Hp) : Res :=
  match p.2[n]? with
  | some (.loop l) => if l.st = .busy then none else
    match l.pending with
    | none => K .norm ⟨env, cutH n p.2⟩
    | some .ret => K .ret ⟨env, cutH n p.2⟩
    | some (.exit id) => K (.exit id) ⟨env, cutH n p.2⟩
    | some (.goto id) => K (.goto id) ⟨env, cutH n p.2⟩
    | some _ => none
  | _ => none
def runS {σ α : Type} (step : σ → α → Bool × σ) : List α → σ → Bool × σ
  | [], s => (true, s)
  | x :: r, s => if (step s x).1 then runS step r (step s x).2 else step s x
end Go.Ab

/- Small words for proofs on typed data. -/
namespace Go.Ab
theorem drop_cons {α : Type} {l r : List α} {x : α} {i : Nat} (h : l.drop i = x :: r) : i < l.length ∧ l[i]? = some x ∧ l.drop (i + 1) = r ∧ x ∈ l ∧ l.length = i + 1 + r.length := by
  have h0 : i < l.length := by
    have := congrArg List.length h
    simp at this
    omega
  have h1 : l.drop i = l[i] :: l.drop (i + 1) := List.drop_eq_getElem_cons h0
  rw [h] at h1
  injection h1 with h2 h3
  refine ⟨h0, by rw [List.getElem?_eq_getElem h0, h2], h3.symm, h2 ▸ List.getElem_mem h0, ?_⟩
  have := congrArg List.length h
  simp at this
  omega
theorem drop_nil {α : Type} {l : List α} {i : Nat} (h : l.drop i = []) : l.length ≤ i := List.drop_eq_nil_iff.1 h
theorem idx_of {α : Type} {l : List α} {i : Nat} {x : α} (h : l[i]? = some x) : idx l (i : Int) = some x := by rw [idx_nat, h]
theorem ltT {a b : Int} (h : a < b) : decide (a < b) = true := decide_eq_true h
theorem ltF {a b : Int} (h : b ≤ a) : decide (a < b) = false := decide_eq_false (by omega)
theorem leT {a b : Int} (h : a ≤ b) : decide (a ≤ b) = true := decide_eq_true h
theorem leF {a b : Int} (h : b < a) : decide (a ≤ b) = false := decide_eq_false (by omega)
theorem fuel {k d : Nat} (h : d < k) : ∃ j, k = j + 1 := ⟨k - 1, by omega⟩
theorem wrapS {i : Nat} (h : i ≤ 9223372036854775806) : IntKind.i64.wrap ((i : Int) + 1) = ((i + 1 : Nat) : Int) := by
  rw [wrap64 (by omega) (by omega)]
  omega
end Go.Ab
namespace Go.Ab
def idxG {α : Type} (p : α → Bool) : List α → Nat → Int
  | [], _ => -1
  | x :: r, i => if p x then (i : Int) else idxG p r (i + 1)
theorem idxG_ge {α : Type} (p : α → Bool) : ∀ (l : List α) (i : Nat), decide (0 ≤ idxG p l i) = l.any p
  | [], _ => rfl
  | x :: r, i => by
    by_cases h : p x = true
    · simp [idxG, h]
    · simpa [idxG, h] using idxG_ge p r (i + 1)
end Go.Ab
namespace Go.Ab
theorem leF' {n : Nat} (h : n ≤ 30) : decide ((30 : Int) < n) = false := decide_eq_false (by omega)
end Go.Ab
namespace Go.Ab
theorem leT' {n : Nat} (h : 30 < n) : decide ((30 : Int) < n) = true := decide_eq_true (by omega)
end Go.Ab
namespace Go.Ab
theorem cast40 {n : Nat} : decide ((n : Int) ≤ 40) = decide (n ≤ 40) := by
  by_cases h : n ≤ 40
  · rw [decide_eq_true h, decide_eq_true (by omega)]
  · rw [decide_eq_false h, decide_eq_false (by omega)]
end Go.Ab
namespace Go.Ab
section one
variable {wl e sz bytes id g len s : Nat} {H : Hp} {lv : Bool}
theorem roomT {n b : Nat} (h : n * b ≤ 70368744177664) : room n b = true := decide_eq_true h
end one
end Go.Ab
namespace Go.Ab
theorem pureR_map {α : Type} {l : List α} {enc : α → List V} (hp : ∀ x, pureL (enc x) = true) : pureR (l.map enc) = true := by
  rw [pureR, List.all_eq_true]
  intro r hr
  obtain ⟨x, _, rfl⟩ := List.mem_map.1 hr
  exact hp x
theorem pureR_int {k : IntKind} {l : List Int} : pureR (l.map (intR k)) = true := pureR_map (pure_intR k)
theorem pureR_task {l : List (Int × List Int)} : pureR (l.map taskV) = true := pureR_map pure_taskV
theorem pureR_three {l : List (Int × Int × Int)} : pureR (l.map threeV) = true := pureR_map pure_threeV
theorem pureR_bool {l : List Bool} : pureR (l.map boolR) = true := pureR_map pure_boolR
end Go.Ab
namespace Go.Ab
section slices
variable {P : Program} {wl : Nat} {c : Bool} {t e : TypeId} {α : Type} {l : List α} {enc : α → List V} {k k' : IntKind} {n lo : Int} {H : Hp}
theorem all_len (h : ∀ x, (enc x).length = szOf P e) : (l.map enc).all (fun r => r.length == szOf P e) = true := by
  rw [List.all_eq_true]
  intro r hr
  obtain ⟨x, _, rfl⟩ := List.mem_map.1 hr
  simp [h]
theorem vSlice_hi (he : elemT P t = some e) (hz : (szOf P e != 0) = true) (h : ∀ x, (enc x).length = szOf P e) :
    vSlice P wl c t (.ro (l.map enc)) none (some (.lit (.int k n))) none H = bif decide (0 ≤ n ∧ n ≤ l.length) then some (.ro ((l.take n.toNat).map enc), H) else none := by
  have hz' : szOf P e ≠ 0 := by simpa using hz
  unfold vSlice
  simp only [he, bnd]
  by_cases h0 : 0 ≤ n
  · simp only [h0, if_true, Option.bind_some, true_and]
    by_cases h1 : n ≤ l.length
    · have h2 : n.toNat ≤ l.length := by omega
      simp [h1, h2, hz', all_len h, List.map_take]
    · have h2 : ¬ n.toNat ≤ l.length := by omega
      simp [h1, h2]
  · simp [h0]
theorem vSlice_lo (he : elemT P t = some e) (hz : (szOf P e != 0) = true) (h : ∀ x, (enc x).length = szOf P e) :
    vSlice P wl c t (.ro (l.map enc)) (some (.lit (.int k n))) none none H = bif decide (0 ≤ n ∧ n ≤ l.length) then some (.ro ((l.drop n.toNat).map enc), H) else none := by
  have hz' : szOf P e ≠ 0 := by simpa using hz
  unfold vSlice
  simp only [he, bnd]
  by_cases h0 : 0 ≤ n
  · simp only [h0, if_true, Option.bind_some, true_and]
    by_cases h1 : n ≤ l.length
    · have h2 : n.toNat ≤ l.length := by omega
      simp [h1, h2, hz', all_len h, List.map_drop, List.take_of_length_le]
    · have h2 : ¬ n.toNat ≤ l.length := by omega
      simp [h1, h2]
  · simp [h0]
theorem vSlice_both (he : elemT P t = some e) (hz : (szOf P e != 0) = true) (h : ∀ x, (enc x).length = szOf P e) :
    vSlice P wl c t (.ro (l.map enc)) (some (.lit (.int k lo))) (some (.lit (.int k' n))) none H = bif decide (0 ≤ lo ∧ lo ≤ n ∧ n ≤ l.length) then some (.ro (((l.take n.toNat).drop lo.toNat).map enc), H) else none := by
  have hz' : szOf P e ≠ 0 := by simpa using hz
  unfold vSlice
  simp only [he, bnd]
  by_cases h0 : 0 ≤ lo
  · by_cases h3 : 0 ≤ n
    · simp only [h0, h3, if_true, Option.bind_some, true_and]
      by_cases h1 : n ≤ l.length
      · have h2 : n.toNat ≤ l.length := by omega
        by_cases h4 : lo ≤ n
        · have h5 : lo.toNat ≤ n.toNat := by omega
          simp [h1, h2, h4, h5, hz', all_len h, List.map_take, List.map_drop]
        · have h5 : ¬ lo.toNat ≤ n.toNat := by omega
          simp [h4, h5]
      · have h2 : ¬ n.toNat ≤ l.length := by omega
        simp [h1, h2]
    · have : ¬ (0 ≤ lo ∧ lo ≤ n ∧ n ≤ (l.length : Int)) := by omega
      simp [h3, this]
  · simp [h0]
end slices
end Go.Ab

/- More tools: calls that are handed slices of one's own. -/
namespace Go.Ab
end Go.Ab

/- Rules by which a function's evaluation on typed data is run: calls within one another, results, heaps. -/
namespace Go.Ab
def bq {α β : Type} (x : Option α) (F : α → Option β) : Option β := x.bind F
@[congr] theorem bq_congr {α β : Type} {x y : Option α} {F : α → Option β} (h : x = y) : bq x F = bq y F := by rw [h]
def sif {β : Type} (c : Bool) (a b : β) : β := bif c then a else b
@[congr] theorem sif_congr {β : Type} {c d : Bool} {a b : β} (h : c = d) : sif c a b = sif d a b := by rw [h]
theorem sif_true {β : Type} {a b : β} : sif true a b = a := rfl
theorem sif_false {β : Type} {a b : β} : sif false a b = b := rfl
section
variable {α β γ : Type}
theorem bq_some {a : α} {F : α → Option β} : bq (some a) F = F a := rfl
theorem bq_none {F : α → Option β} : bq none F = none := rfl
theorem bq_cond {c : Bool} {x y : Option α} {F : α → Option β} : bq (bif c then x else y) F = bif c then bq x F else bq y F := by cases c <;> rfl
theorem bq_ob {x : Option γ} {f : γ → Option α} {F : α → Option β} : bq (ob x f) F = ob x fun a => bq (f a) F := by cases x <;> rfl
theorem bq_ck {c : Bool} {x : Option α} {F : α → Option β} : bq (ck c x) F = ck c (bq x F) := by cases c <;> rfl
theorem bq_map {x : Option γ} {f : γ → α} {F : α → Option β} : bq (x.map f) F = ob x fun a => F (f a) := by cases x <;> rfl
theorem bq_bind {x : Option γ} {f : γ → Option α} {F : α → Option β} : bq (x.bind f) F = ob x fun a => bq (f a) F := by cases x <;> rfl
theorem bq_bif {c : Bool} {x : Option α} {F : α → Option β} : bq (bif c then x else none) F = ck c (bq x F) := by cases c <;> rfl
theorem bq_bq {x : Option γ} {f : γ → Option α} {F : α → Option β} : bq (bq x f) F = bq x fun a => bq (f a) F := by cases x <;> rfl
theorem ob_ob {x : Option γ} {f : γ → Option α} {F : α → Option β} : ob (ob x f) F = ob x fun a => ob (f a) F := by cases x <;> rfl
theorem ob_cond {c : Bool} {x y : Option α} {F : α → Option β} : ob (bif c then x else y) F = bif c then ob x F else ob y F := by cases c <;> rfl
theorem ob_ck {c : Bool} {x : Option α} {F : α → Option β} : ob (ck c x) F = ck c (ob x F) := by cases c <;> rfl
theorem ob_map {x : Option γ} {f : γ → α} {F : α → Option β} : ob (x.map f) F = ob x fun a => F (f a) := by cases x <;> rfl
end
section
variable {α : Type} {H : Hp} {K : V → Hp → Res} {k : Hp → Res}
theorem bm_ob {x : Option α} {f : α → Option V} : bm (ob x f) H K = ob x fun a => bm (f a) H K := by cases x <;> rfl
theorem bp_ob {x : Option α} {f : α → Option (V × Hp)} : bp (ob x f) K = ob x fun a => bp (f a) K := by cases x <;> rfl
theorem bs_ob {x : Option α} {f : α → Option Hp} : bs (ob x f) k = ob x fun a => bs (f a) k := by cases x <;> rfl
theorem bm_cond {c : Bool} {x y : Option V} : bm (bif c then x else y) H K = bif c then bm x H K else bm y H K := by cases c <;> rfl
theorem bp_cond {c : Bool} {x y : Option (V × Hp)} : bp (bif c then x else y) K = bif c then bp x K else bp y K := by cases c <;> rfl
theorem bs_cond {c : Bool} {x y : Option Hp} : bs (bif c then x else y) k = bif c then bs x k else bs y k := by cases c <;> rfl
theorem bm_ck {c : Bool} {x : Option V} : bm (ck c x) H K = ck c (bm x H K) := by cases c <;> rfl
theorem bp_ck {c : Bool} {x : Option (V × Hp)} : bp (ck c x) K = ck c (bp x K) := by cases c <;> rfl
theorem bs_ck {c : Bool} {x : Option Hp} : bs (ck c x) k = ck c (bs x k) := by cases c <;> rfl
end

def rt (kp : Option (Nat → Bool)) (x : Res) : Res := x.bind fun p => retV kp p.1 p.2
section rt
variable {kp : Option (Nat → Bool)} {α : Type} {h : Hp}
theorem rt_none : rt kp none = none := rfl
theorem rt_some {v : V} : rt kp (some (v, h)) = retV kp v h := rfl
theorem rt_cond {c : Bool} {x y : Res} : rt kp (bif c then x else y) = bif c then rt kp x else rt kp y := by cases c <;> rfl
theorem rt_ob {x : Option α} {f : α → Res} : rt kp (ob x f) = ob x fun a => rt kp (f a) := by cases x <;> rfl
theorem rt_ck {c : Bool} {x : Res} : rt kp (ck c x) = ck c (rt kp x) := by cases c <;> rfl

def rtN (v : V) (H : Hp) : Res := bq (fzR 0 v H) fun q => sif q.1.pure (some (q.1, [])) (some q)
theorem rtN_eq {v : V} : retV none v h = rtN v h := by
  show (fzR 0 v h).bind _ = (fzR 0 v h).bind _
  congr 1
  funext q
  cases hq : q.1.pure <;> simp [sif, hq]
theorem rtN_nil : retV none .nil h = some (.ro [], []) := rfl
theorem rtN_agg {c : List V} : retV none (.agg c) h = rtN (.agg c) h := rtN_eq
theorem rtN_tup {c : List V} : retV none (.tup c) h = rtN (.tup c) h := rtN_eq
theorem rtN_own {i g l : Nat} : retV none (.own i g l) h = rtN (.own i g l) h := rtN_eq
theorem rtN_map {i : Nat} : retV none (.map i) h = some (.map i, h) := rfl
theorem rtN_fn {f : Fn} {a b : List V} : retV none (.fn f a b) h = rtN (.fn f a b) h := rtN_eq
theorem rtN_ptr {i g r o : Nat} : retV none (.ptr i g r o) h = some (.ptr i g r o, h) := rfl
end rt

section fz
variable {wl : Nat} {H : Hp} {nl : Bool}
theorem fzR_tup {vs : List V} : fzR wl (.tup vs) H = bq (fzR1s wl vs H) fun p => some (.tup p.1, p.2) := rfl
theorem fzR_lit {v : Value} : fzR wl (.lit v) H = some (.lit v, H) := rfl
theorem fzR_ro {r : List (List V)} : fzR wl (.ro r) H = some (.ro r, H) := rfl
theorem fzR_nil : fzR wl .nil H = some (.ro [], H) := rfl
theorem fzR_fn {f : Fn} {a b : List V} : fzR wl (.fn f a b) H = some (.fn f a b, H) := rfl
theorem fzR_ptr {i g r o : Nat} : fzR wl (.ptr i g r o) H = some (.ptr i g r o, H) := rfl
theorem fzR_map {i : Nat} : fzR wl (.map i) H = some (.map i, H) := rfl
theorem fzR_own {i g l : Nat} : fzR wl (.own i g l) H = fzB wl i g l H (H[i]?) := fzC_own
theorem fzR_agg {c : List V} : fzR wl (.agg c) H = bq (fzL wl true c H) fun p => some (.agg p.1, p.2) := rfl
theorem fzR1s_nil : fzR1s wl [] H = some ([], H) := rfl
theorem fzR1s_lit {v : Value} {vs : List V} : fzR1s wl (.lit v :: vs) H = bq (fzR1s wl vs H) fun q => some (.lit v :: q.1, q.2) := rfl
theorem fzR1s_ro {r : List (List V)} {vs : List V} : fzR1s wl (.ro r :: vs) H = bq (fzR1s wl vs H) fun q => some (.ro r :: q.1, q.2) := rfl
theorem fzR1s_none {vs : List V} : fzR1s wl (.nil :: vs) H = bq (fzR1s wl vs H) fun q => some (.ro [] :: q.1, q.2) := rfl
theorem fzR1s_fn {f : Fn} {a b vs : List V} : fzR1s wl (.fn f a b :: vs) H = bq (fzR1s wl vs H) fun q => some (.fn f a b :: q.1, q.2) := rfl
theorem fzR1s_own {i g l : Nat} {vs : List V} : fzR1s wl (.own i g l :: vs) H = bq (fzB wl i g l H (H[i]?)) fun p => bq (fzR1s wl vs p.2) fun q => some (p.1 :: q.1, q.2) := by
  show (fzC wl (.own i g l) H).bind _ = _
  rw [fzC_own]
  rfl
theorem fzR1s_agg {c vs : List V} : fzR1s wl (.agg c :: vs) H = bq (fzL wl true c H) fun p => bq (fzR1s wl vs p.2) fun q => some (.agg p.1 :: q.1, q.2) := by
  show ((fzL wl true c H).bind _).bind _ = _
  cases fzL wl true c H <;> rfl
theorem fzLr_nil : fzL wl nl [] H = some ([], H) := rfl
theorem fzLr_lit {v : Value} {vs : List V} : fzL wl nl (.lit v :: vs) H = bq (fzL wl nl vs H) fun q => some (.lit v :: q.1, q.2) := rfl
theorem fzLr_ro {r : List (List V)} {vs : List V} : fzL wl nl (.ro r :: vs) H = bq (fzL wl nl vs H) fun q => some (.ro r :: q.1, q.2) := rfl
theorem fzLr_none {vs : List V} : fzL wl true (.nil :: vs) H = bq (fzL wl true vs H) fun q => some (.ro [] :: q.1, q.2) := rfl
theorem fzLr_fn {f : Fn} {a b vs : List V} : fzL wl nl (.fn f a b :: vs) H = bq (fzL wl nl vs H) fun q => some (.fn f a b :: q.1, q.2) := rfl
theorem fzLr_ptr {i g r o : Nat} {vs : List V} : fzL wl nl (.ptr i g r o :: vs) H = bq (fzL wl nl vs H) fun q => some (.ptr i g r o :: q.1, q.2) := rfl
theorem fzLr_own {i g l : Nat} {vs : List V} : fzL wl nl (.own i g l :: vs) H = bq (fzB wl i g l H (H[i]?)) fun p => bq (fzL wl nl vs p.2) fun q => some (p.1 :: q.1, q.2) := by
  show (fzC wl (.own i g l) H).bind _ = _
  rw [fzC_own]
  rfl
theorem fzAr_nil : fzAs wl [] H = some ([], H) := rfl
theorem fzAr_lit {v : Value} {vs : List V} : fzAs wl (.lit v :: vs) H = bq (fzAs wl vs H) fun q => some (.lit v :: q.1, q.2) := rfl
theorem fzAr_ro {r : List (List V)} {vs : List V} : fzAs wl (.ro r :: vs) H = bq (fzAs wl vs H) fun q => some (.ro r :: q.1, q.2) := rfl
theorem fzAr_none {vs : List V} : fzAs wl (.nil :: vs) H = bq (fzAs wl vs H) fun q => some (.nil :: q.1, q.2) := rfl
theorem fzAr_fn {f : Fn} {a b vs : List V} : fzAs wl (.fn f a b :: vs) H = bq (fzAs wl vs H) fun q => some (.fn f a b :: q.1, q.2) := rfl
theorem fzAr_yld {i : Nat} {vs : List V} : fzAs wl (.yld i :: vs) H = bq (fzAs wl vs H) fun q => some (.yld i :: q.1, q.2) := rfl
theorem fzAr_map {i : Nat} {vs : List V} : fzAs wl (.map i :: vs) H = bq (fzAs wl vs H) fun q => some (.map i :: q.1, q.2) := rfl
theorem fzAr_ptr {i g r o : Nat} {vs : List V} : fzAs wl (.ptr i g r o :: vs) H = bq (fzAs wl vs H) fun q => some (.ptr i g r o :: q.1, q.2) := rfl
theorem fzAr_own {i g l : Nat} {vs : List V} : fzAs wl (.own i g l :: vs) H = bq (fzB wl i g l H (H[i]?)) fun p => bq (fzAs wl vs p.2) fun q => some (p.1 :: q.1, q.2) := by
  show (fzC wl (.own i g l) H).bind _ = _
  rw [fzC_own]
  rfl
theorem fzAr_agg {c vs : List V} : fzAs wl (.agg c :: vs) H = bq (fzL wl true c H) fun p => bq (fzAs wl vs p.2) fun q => some (.agg p.1 :: q.1, q.2) := by
  show ((fzL wl true c H).bind _).bind _ = _
  cases fzL wl true c H <;> rfl
theorem fzBr {i g len e g' : Nat} {rs : List (List V)} {lv : Bool} : fzB wl i g len H (some (.rows e rs g' lv)) = sif (g == g' && (pureR rs && Nat.ble wl i)) (ck (decide (len ≤ rs.length)) (some (.ro (rs.take len), H.set i (.rows e rs g' false)))) none := by
  show (bif g == g' && decide (len ≤ rs.length) && (pureR rs && Nat.ble wl i) then _ else _) = _
  generalize (g == g') = a
  generalize decide (len ≤ rs.length) = b
  generalize (pureR rs && Nat.ble wl i) = c
  cases a <;> cases b <;> cases c <;> rfl
end fz
theorem take_all {α : Type} {l : List α} {n : Nat} (h : l.length = n) : l.take n = l := List.take_of_length_le (by omega)
theorem pureR_nil : pureR [] = true := rfl
theorem pureR_cons {r : List V} {rs : List (List V)} : pureR (r :: rs) = (pureL r && pureR rs) := rfl

def killH (n : Nat) : Hp → Hp
  | [] => []
  | b :: H => b.kill n :: killH n H
def shiftH (n : Nat) : Hp → Hp
  | [] => []
  | b :: H => b.shift n :: shiftH n H
theorem killH_eq {n : Nat} : ∀ {H : Hp}, H.map (B.kill n) = killH n H
  | [] => rfl
  | b :: H => by simp [killH, killH_eq (H := H)]
theorem shiftH_eq {n : Nat} : ∀ {H : Hp}, H.map (B.shift n) = shiftH n H
  | [] => rfl
  | b :: H => by simp [shiftH, shiftH_eq (H := H)]
theorem cutH_eq {n : Nat} {H : Hp} : cutH n H = killH n (H.take n) := killH_eq
theorem killH_nil {n : Nat} : killH n [] = [] := rfl
theorem killH_cons {n : Nat} {b : B} {H : Hp} : killH n (b :: H) = b.kill n :: killH n H := rfl
theorem shiftH_nil {n : Nat} : shiftH n [] = [] := rfl
theorem shiftH_cons {n : Nat} {b : B} {H : Hp} : shiftH n (b :: H) = b.shift n :: shiftH n H := rfl
theorem Bkill_loopR {n : Nat} {st : LoopState} {pe : Option Code} {f : FuncId} {ts : List V} {ps : List Tmp} {a b : Code} : B.kill n (.loop ⟨st, pe, f, ts, ps, a, b⟩) = .loop ⟨st, pe, f, killL n ts, ps, a, b⟩ := rfl

def nsh (H : Hp) (v : V) (H2 : Hp) : Res := sif (decide (H.length ≤ H2.length)) (some (v, H2)) none
theorem nsh_eq {H H2 : Hp} {v : V} : noShorter H (v, H2) = nsh H v H2 := by
  unfold noShorter nsh sif
  by_cases h : H.length ≤ H2.length
  · simp [h]
  · simp [h]
theorem nble {n m : Nat} : Nat.ble n m = decide (n ≤ m) := by
  have h : (Nat.ble n m = true) = (n ≤ m) := Nat.ble_eq
  cases hb : Nat.ble n m with
  | true =>
    rw [hb] at h
    exact (decide_eq_true (h.mp rfl)).symm
  | false =>
    rw [hb] at h
    exact (decide_eq_false (fun e => Bool.noConfusion (h.mpr e))).symm
theorem noShorter_sif {H : Hp} {c : Bool} {x y : V × Hp} : noShorter H (sif c x y) = sif c (noShorter H x) (noShorter H y) := by cases c <;> rfl
def ldQ (H H' : Hp) (q : V × Hp) : Res := noShorter H (q.1.shift H'.length, bif (q.1.shift H'.length).scal then H else H' ++ q.2.map (B.shift H'.length))
theorem ldQ_eq {H H' : Hp} {v : V} {h : Hp} : ldQ H H' (v, h) = nsh H (v.shift H'.length) (sif (v.shift H'.length).scal H (H' ++ shiftH H'.length h)) := by
  unfold ldQ
  rw [nsh_eq, shiftH_eq]
  rfl
theorem ldQ_lit {H H' : Hp} {v : Value} {h : Hp} : ldQ H H' (.lit v, h) = some (.lit v, H) := by
  rw [ldQ_eq]
  simp [nsh, sif, V.shift, V.scal]
def ldP (H : Hp) (q : V × Hp) : Res := some (q.1.shift H.length, H ++ q.2.map (B.shift H.length))
theorem ldP_eq {H : Hp} {v : V} {h : Hp} : ldP H (v, h) = some (v.shift H.length, H ++ shiftH H.length h) := by
  unfold ldP
  rw [shiftH_eq]

theorem callPure_eq {cx : Cx} {g : FuncId} {args : List V} {H : Hp} : callPure cx g args H = bq (callRes cx g args) (ldP H) := by
  unfold callPure callRes bq ldP
  cases h : cx.call 0 g args [] with
  | none => rfl
  | some p => rfl

theorem callV_run {cx : Cx} {o : Bool} {g : FuncId} {first caps args : List V} {H : Hp} :
    callV cx false o (.fn (.func g) first caps) args H = bq (sif (cx.M.keepArg g) (some (first ++ args ++ caps, H)) (fzAs cx.wl (first ++ args ++ caps) H)) fun a =>
      sif (pureL a.1) (bq (callRes cx g a.1) (ldQ H a.2))
        (bq (cx.call cx.wl g a.1 a.2) fun p => bq (sif (cx.M.keepRes cx.fid g).isSome (some p) (fzR cx.wl p.1 p.2)) fun q => noShorter H (sif q.1.pure (q.1, cutH a.2.length q.2) q)) := by
  unfold callV callGen
  simp only [Bool.false_eq_true, if_false]
  have e1 : (if cx.M.keepArg g = true then some (first ++ args ++ caps, H) else fzAs cx.wl (first ++ args ++ caps) H) = sif (cx.M.keepArg g) (some (first ++ args ++ caps, H)) (fzAs cx.wl (first ++ args ++ caps) H) := by
    cases cx.M.keepArg g <;> rfl
  rw [e1]
  unfold bq
  cases sif (cx.M.keepArg g) (some (first ++ args ++ caps, H)) (fzAs cx.wl (first ++ args ++ caps) H) with
  | none => rfl
  | some a =>
    simp only [Option.bind_some]
    cases hp : pureL a.1 with
    | true =>
      simp only [if_true, sif_true, callPure_eq]
      unfold bq
      cases callRes cx g a.1 <;> rfl
    | false =>
      simp only [Bool.false_eq_true, if_false, sif_false]
      cases cx.call cx.wl g a.1 a.2 with
      | none => rfl
      | some p =>
        simp only [Option.bind_some]
        have e2 : (if (cx.M.keepRes cx.fid g).isSome = true then some p else fzR cx.wl p.1 p.2) = sif (cx.M.keepRes cx.fid g).isSome (some p) (fzR cx.wl p.1 p.2) := by
          cases (cx.M.keepRes cx.fid g).isSome <;> rfl
        rw [e2]
        cases sif (cx.M.keepRes cx.fid g).isSome (some p) (fzR cx.wl p.1 p.2) with
        | none => rfl
        | some q =>
          simp only [Option.bind_some]
          cases hq : q.1.pure <;> simp [sif]
theorem callV_runC {cx : Cx} {g : FuncId} {first caps args : List V} {H : Hp} :
    callV cx true true (.fn (.func g) first caps) args H =
      sif (pureL (first ++ args ++ caps)) (bq (callRes cx g (first ++ args ++ caps)) (ldP H)) (sif (cx.M.keepArg g) none (bq (fzAs cx.wl (first ++ args ++ caps) H) fun a =>
        sif (pureL a.1) (bq (callRes cx g a.1) fun q => bq (ldP a.2 q) fun q => some (q.1, sif q.1.scal H q.2)) (bq (cx.call a.2.length g a.1 a.2) fun p => sif p.1.scal (some (p.1, H)) none))) := by
  unfold callV callCalm
  simp only [if_true, callPure_eq]
  cases pureL (first ++ args ++ caps) with
  | true => rfl
  | false =>
    simp only [Bool.false_eq_true, if_false, sif_false]
    cases cx.M.keepArg g with
    | true => rfl
    | false =>
      simp only [Bool.false_eq_true, if_false, sif_false]
      unfold bq
      cases fzAs cx.wl (first ++ args ++ caps) H with
      | none => rfl
      | some a =>
        simp only [Option.bind_some]
        cases pureL a.1 with
        | true =>
          simp only [if_true, sif_true]
          cases callRes cx g a.1 <;> rfl
        | false =>
          simp only [Bool.false_eq_true, if_false, sif_false]
          cases cx.call a.2.length g a.1 a.2 with
          | none => rfl
          | some p =>
            simp only [Option.bind_some]
            cases hs : p.1.scal <;> simp [sif]
theorem callV_runL {cx : Cx} {g : FuncId} {first caps args : List V} {H : Hp} :
    callV cx true false (.fn (.func g) first caps) args H = sif (pureL (first ++ args ++ caps)) (bq (bq (cx.call 0 g (first ++ args ++ caps) []) fun p => retV none p.1 p.2) fun q => sif q.1.pure (some (q.1, H)) none) none := by
  unfold callV callCalm
  simp only [if_true, Bool.false_eq_true, if_false]
  cases pureL (first ++ args ++ caps) with
  | false => rfl
  | true =>
    simp only [if_true, sif_true]
    unfold bq
    cases cx.call 0 g (first ++ args ++ caps) [] with
    | none => rfl
    | some p =>
      simp only [Option.bind_some, rtN_eq]
      unfold rtN bq
      cases fzR 0 p.1 p.2 with
      | none => rfl
      | some q =>
        simp only [Option.bind_some]
        cases hq : q.1.pure <;> simp [sif, hq]
section rounds
variable {P : Program} {M : Mode}
def yB (P : Program) (M : Mode) (k wl id : Nat) (args : List V) (H : Hp) : Option B → Res
  | some (.loop l) => roundV { P, M, fid := l.fn, round := true, wl, call := evF P M k, yld := evY P M k, n := k } id l args H
  | _ => none
theorem evY_run {k wl id : Nat} {args : List V} {H : Hp} : evY P M (k + 1) wl id args H = yB P M k wl id args H (H[id]?) := by
  unfold yB
  simp only [evY]
  generalize H[id]? = b
  cases b with
  | none => rfl
  | some b => cases b <;> rfl
theorem yB_ready {k wl id : Nat} {args : List V} {H : Hp} {pe : Option Code} {f : FuncId} {ts : List V} {ps : List Tmp} {a b : Code} :
    yB P M k wl id args H (some (.loop ⟨.ready, pe, f, ts, ps, a, b⟩)) = sif (decide (args.length = ps.length) && Nat.ble wl id)
      (runK { P, M, fid := f, round := true, wl, call := evF P M k, yld := evY P M k, n := k } (asK { P, M, fid := f, round := true, wl, call := evF P M k, yld := evY P M k, n := k } id H.length b) [.seq a] .norm ⟨setParams ts ps args, H⟩) none := by
  unfold yB roundV
  by_cases h : args.length = ps.length
  · cases hw : Nat.ble wl id with
    | true =>
      simp only [h, hw, and_self, if_true, decide_true, Bool.and_self, sif_true]
      show execK _ a none _ _ = execK _ a none (runK _ _ []) _
      congr 1
    | false => simp [hw, sif]
  · simp [h, sif]
def asB (cx : Cx) (id n : Nat) (body : Code) (env : List V) (H : Hp) : Option B → Res
  | some (.loop l) => if l.st = .ready then runK cx (bdK id n) [.seq body] .norm ⟨env, H.set id (.loop { l with st := .busy })⟩ else none
  | _ => none
theorem asK_run {cx : Cx} {id n : Nat} {body : Code} {env : List V} {H : Hp} : asK cx id n body .norm ⟨env, H⟩ = asB cx id n body env H (H[id]?) := by
  unfold asK asB
  rfl
theorem asB_ready {cx : Cx} {id n : Nat} {body : Code} {env : List V} {H : Hp} {pe : Option Code} {f : FuncId} {ts : List V} {ps : List Tmp} {a b : Code} :
    asB cx id n body env H (some (.loop ⟨.ready, pe, f, ts, ps, a, b⟩)) = runK cx (bdK id n) [.seq body] .norm ⟨env, H.set id (.loop ⟨.busy, pe, f, ts, ps, a, b⟩)⟩ := rfl
def bdB (id n : Nat) (o : Out) (H : Hp) : Option B → Res
  | some (.loop l) => some (.lit (.bool (outCode o).isNone), cutH n (H.set id (.loop { l with st := if (outCode o).isNone then .ready else .done, pending := outCode o })))
  | _ => none
theorem bdK_run {id n : Nat} {o : Out} {env : List V} {H : Hp} : bdK id n o ⟨env, H⟩ = bdB id n o H (H[id]?) := by
  unfold bdK bdB
  rfl
section
variable {id n : Nat} {H : Hp} {st : LoopState} {pe : Option Code} {f : FuncId} {ts : List V} {ps : List Tmp} {a b : Code}
theorem bdB_norm : bdB id n .norm H (some (.loop ⟨st, pe, f, ts, ps, a, b⟩)) = some (.lit (.bool true), cutH n (H.set id (.loop ⟨.ready, none, f, ts, ps, a, b⟩))) := rfl
theorem bdB_ret : bdB id n .ret H (some (.loop ⟨st, pe, f, ts, ps, a, b⟩)) = some (.lit (.bool false), cutH n (H.set id (.loop ⟨.done, some .ret, f, ts, ps, a, b⟩))) := rfl
theorem bdB_exit {i : Nat} : bdB id n (.exit i) H (some (.loop ⟨st, pe, f, ts, ps, a, b⟩)) = some (.lit (.bool false), cutH n (H.set id (.loop ⟨.done, some (.exit i), f, ts, ps, a, b⟩))) := rfl
theorem bdB_goto {i : Nat} : bdB id n (.goto i) H (some (.loop ⟨st, pe, f, ts, ps, a, b⟩)) = some (.lit (.bool false), cutH n (H.set id (.loop ⟨.done, some (.goto i), f, ts, ps, a, b⟩))) := rfl
def rfB (K : Out → St → Res) (env : List V) (H : Hp) : Option B → Res
  | some (.loop l) => if l.st = .busy then none else
    match l.pending with
    | none => K .norm ⟨env, H⟩
    | some .ret => K .ret ⟨env, H⟩
    | some (.exit id) => K (.exit id) ⟨env, H⟩
    | some (.goto id) => K (.goto id) ⟨env, H⟩
    | some _ => none
  | _ => none
theorem rfK_run {K : Out → St → Res} {env : List V} {v : V} {h : Hp} : rfK K env n (v, h) = rfB K env (cutH n h) (h[n]?) := by
  unfold rfK rfB
  rfl
theorem rfB_none {K : Out → St → Res} {env : List V} : rfB K env H (some (.loop ⟨.ready, none, f, ts, ps, a, b⟩)) = K .norm ⟨env, H⟩ := rfl
theorem rfB_noneD {K : Out → St → Res} {env : List V} : rfB K env H (some (.loop ⟨.done, none, f, ts, ps, a, b⟩)) = K .norm ⟨env, H⟩ := rfl
theorem rfB_ret {K : Out → St → Res} {env : List V} : rfB K env H (some (.loop ⟨.done, some .ret, f, ts, ps, a, b⟩)) = K .ret ⟨env, H⟩ := rfl
theorem rfB_exit {K : Out → St → Res} {env : List V} {i : Nat} : rfB K env H (some (.loop ⟨.done, some (.exit i), f, ts, ps, a, b⟩)) = K (.exit i) ⟨env, H⟩ := rfl
theorem rfB_goto {K : Out → St → Res} {env : List V} {i : Nat} : rfB K env H (some (.loop ⟨.done, some (.goto i), f, ts, ps, a, b⟩)) = K (.goto i) ⟨env, H⟩ := rfl
end
def rgC (cx : Cx) (ps : List Tmp) (a b : Code) (K : Out → St → Res) (env : List V) (H : Hp) : V → Res
  | .fn (.func g) [] caps => bq (cx.call cx.wl g (.yld H.length :: caps) (H ++ [.loop ⟨.ready, none, cx.fid, env, ps, a, b⟩])) (rfK K env H.length)
  | _ => none
theorem rgC_fn {cx : Cx} {ps : List Tmp} {a b : Code} {K : Out → St → Res} {env : List V} {H : Hp} {g : FuncId} {caps : List V} :
    rgC cx ps a b K env H (.fn (.func g) [] caps) = bq (cx.call cx.wl g (.yld H.length :: caps) (H ++ [.loop ⟨.ready, none, cx.fid, env, ps, a, b⟩])) (rfK K env H.length) := rfl
theorem execK_rf {cx : Cx} {f : Operand} {ps : Array Tmp} {a b : Code} {K : Out → St → Res} {env : List V} {H : Hp} (hr : cx.round = false) :
    execK cx (.rangeFunc f ps a b) none K ⟨env, H⟩ = sif (Nat.ble cx.wl H.length) (bq (evO env f) (rgC cx ps.toList a b K env H)) none := by
  simp only [execK, hr, Bool.false_or]
  cases hw : Nat.ble cx.wl H.length with
  | false => rfl
  | true =>
    simp only [Bool.not_true, Bool.false_eq_true, if_false, sif_true]
    cases hf : evO env f with
    | none => rfl
    | some v =>
      simp only [bq, Option.bind_some]
      cases v with
      | fn f first caps =>
        cases f with
        | func g =>
          cases first with
          | nil =>
            simp only [rgC]
            unfold bq
            congr 1
          | cons => rfl
        | _ => rfl
      | _ => rfl
end rounds
end Go.Ab
namespace Go.Ab
def putB : List V → List (Nat × Nat × V) → Option (List V)
  | cells, [] => some cells
  | cells, (off, size, v) :: rest =>
    match v.cells with
    | some vs => if vs.length = size ∧ off + vs.length ≤ cells.length then putB (spl cells off vs) rest else none
    | none => none
theorem putB_nil {cells : List V} : putB cells [] = some cells := rfl
theorem putB_cons {cells : List V} {off size : Nat} {v : V} {rest : List (Nat × Nat × V)} : putB cells ((off, size, v) :: rest) = bq v.cells fun vs => sif (decide (vs.length = size ∧ off + vs.length ≤ cells.length)) (putB (spl cells off vs) rest) none := by
  simp only [putB]
  cases v.cells with
  | none => rfl
  | some vs =>
    simp only [bq, Option.bind_some]
    by_cases h : vs.length = size ∧ off + vs.length ≤ cells.length
    · rw [if_pos h, decide_eq_true h]; rfl
    · rw [if_neg h, decide_eq_false h]; rfl
theorem fillR_nil {wl size : Nat} {rs : List (List V)} {H : Hp} : fillR wl size [] rs H = some (rs, H) := rfl
theorem fillR_cons {wl size i : Nat} {v : V} {rest : List (Nat × V)} {rs : List (List V)} {H : Hp} : fillR wl size ((i, v) :: rest) rs H = bq v.cells fun vs => bq (fzL wl true vs H) fun p => sif (decide (i < rs.length ∧ p.1.length = size)) (fillR wl size rest (rs.set i p.1) p.2) none := by
  simp only [fillR]
  cases v.cells with
  | none => rfl
  | some vs =>
    simp only [bq, Option.bind_some]
    cases fzL wl true vs H with
    | none => rfl
    | some p =>
      simp only [Option.bind_some]
      by_cases h : i < rs.length ∧ p.1.length = size
      · rw [if_pos h, decide_eq_true h]; rfl
      · rw [if_neg h, decide_eq_false h]; rfl
theorem keyEq_i64 {x y : Int} : keyEq (.int .i64 x) (.int .i64 y) = (x == y) := rfl
theorem mapPut_nil {k : Value} {v : V} : mapPut k v [] = [(k, v)] := rfl
theorem mapPut_cons {k : Value} {v : V} {e : Value × V} {es : List (Value × V)} : mapPut k v (e :: es) = sif (keyEq k e.1) ((k, v) :: es) (e :: mapPut k v es) := by
  simp only [mapPut]
  cases keyEq k e.1 <;> rfl
def allK (kk : IntKind) : List (Value × V) → Bool
  | [] => true
  | e :: es => keyKind kk e.1 && allK kk es
theorem allK_nil {kk : IntKind} : allK kk [] = true := rfl
theorem allK_cons {kk : IntKind} {e : Value × V} {es : List (Value × V)} : allK kk (e :: es) = (keyKind kk e.1 && allK kk es) := rfl
theorem keyKind_i64 {x : Int} : keyKind .i64 (.int .i64 x) = true := rfl
def inB (wl : Nat) (kk : IntKind) (id : Nat) (n : Int) (v : V) (H : Hp) : Option B → Option Hp
  | some (.map es) => if es.all (fun e => keyKind kk e.1) && true && Nat.ble wl id then some (H.set id (.map (mapPut (.int kk n) v es))) else none
  | _ => none
theorem all_K {kk : IntKind} : ∀ {es : List (Value × V)}, es.all (fun e => keyKind kk e.1) = allK kk es
  | [] => rfl
  | e :: es => by simp [allK, all_K (es := es)]
theorem inB_map {wl id : Nat} {kk : IntKind} {n : Int} {v : V} {H : Hp} {es : List (Value × V)} : inB wl kk id n v H (some (.map es)) = sif (allK kk es && Nat.ble wl id) (some (H.set id (.map (mapPut (.int kk n) v es)))) none := by
  simp only [inB, all_K, Bool.and_true]
  cases allK kk es && Nat.ble wl id <;> rfl
def lkB (kk : IntKind) (z : V) (ok : Bool) (n : Int) : Option B → Option V
  | some (.map es) => if es.all (fun e => keyKind kk e.1) && true then some (bif ok then .tup [(mapGet (.int kk n) z es).1, .lit (.bool (mapGet (.int kk n) z es).2)] else (mapGet (.int kk n) z es).1) else none
  | _ => none
def lkO (kk : IntKind) (z : V) (ok : Bool) (n : Int) : List (Value × V) → Option V
  | [] => some (sif ok (.tup [z, .lit (.bool false)]) z)
  | e :: es => bif keyEq (.int kk n) e.1 then some (sif ok (.tup [e.2, .lit (.bool true)]) e.2) else lkO kk z ok n es
theorem lkO_eq {kk : IntKind} {z : V} {ok : Bool} {n : Int} : ∀ {es : List (Value × V)}, some (bif ok then V.tup [(mapGet (.int kk n) z es).1, .lit (.bool (mapGet (.int kk n) z es).2)] else (mapGet (.int kk n) z es).1) = lkO kk z ok n es
  | [] => by cases ok <;> rfl
  | e :: es => by
    simp only [mapGet, lkO]
    cases keyEq (.int kk n) e.1 with
    | true => cases ok <;> rfl
    | false => exact lkO_eq (es := es)
theorem lkB_map {kk : IntKind} {z : V} {ok : Bool} {n : Int} {es : List (Value × V)} : lkB kk z ok n (some (.map es)) = sif (allK kk es) (lkO kk z ok n es) none := by
  simp only [lkB, all_K, Bool.and_true, lkO_eq]
  cases allK kk es <;> rfl
theorem lkO_nil {kk : IntKind} {z : V} {ok : Bool} {n : Int} : lkO kk z ok n [] = some (sif ok (.tup [z, .lit (.bool false)]) z) := rfl
theorem lkO_cons {kk : IntKind} {z : V} {ok : Bool} {n : Int} {e : Value × V} {es : List (Value × V)} : lkO kk z ok n (e :: es) = bif keyEq (.int kk n) e.1 then some (sif ok (.tup [e.2, .lit (.bool true)]) e.2) else lkO kk z ok n es := rfl
def agO : Int → List V → Int → Option V
  | _, [], _ => none
  | i, c :: cs, n => bif n == i then some c else agO (i + 1) cs n
theorem agO_nil {i n : Int} : agO i [] n = none := rfl
theorem agO_cons {i n : Int} {c : V} {cs : List V} : agO i (c :: cs) n = bif n == i then some c else agO (i + 1) cs n := rfl
theorem vPick_int {p : Bool} {k : IntKind} {a b : Int} : vPick (.lit (.bool p)) (.lit (.int k a)) (.lit (.int k b)) = some (.lit (.int k (bif p then a else b))) := by cases p <;> rfl
theorem vPick_bool {p a b : Bool} : vPick (.lit (.bool p)) (.lit (.bool a)) (.lit (.bool b)) = some (.lit (.bool (bif p then a else b))) := by cases p <;> rfl
theorem vMax_int {k : IntKind} {a b : Int} : vMinMax true [.lit (.int k a), .lit (.int k b)] = some (.lit (.int k (bif decide (a < b) then b else a))) := by
  simp only [vMinMax, if_true, cond_true, gt_iff_lt]
  by_cases h : a < b <;> simp [h]
theorem vMin_int {k : IntKind} {a b : Int} : vMinMax false [.lit (.int k a), .lit (.int k b)] = some (.lit (.int k (bif decide (b < a) then b else a))) := by
  simp only [vMinMax, if_true, cond_false]
  by_cases h : b < a <;> simp [h]
theorem retype_int {k : IntKind} {a : Int} : [[V.lit (.int k a)]] = [a].map (intR k) := rfl
theorem retype_int2 {k : IntKind} {a b : Int} : [[V.lit (.int k a)], [V.lit (.int k b)]] = [a, b].map (intR k) := rfl
theorem retype_three {a b c : Int} : [[V.lit (.int .i64 a), .lit (.int .i64 b), .lit (.int .i64 c)]] = [(a, b, c)].map threeV := rfl
def shlI (k : IntKind) (a b : Int) : Int := k.wrap (a * 2 ^ (min b.toNat k.bits))
def shrI (k : IntKind) (a b : Int) : Int := a.fdiv (2 ^ (min b.toNat k.bits))
def andI (k : IntKind) (a b : Int) : Int := k.wrap (BitVec.ofInt k.bits a &&& BitVec.ofInt k.bits b).toNat
def orI (k : IntKind) (a b : Int) : Int := k.wrap (BitVec.ofInt k.bits a ||| BitVec.ofInt k.bits b).toNat
section
variable {P : Program} {t : TypeId} {k k' : IntKind} {a b : Int}
theorem vBin_shl : vBin P .shl t (.lit (.int k a)) (.lit (.int k' b)) = bif decide (0 ≤ b) then some (.lit (.int k (shlI k a b))) else none := by
  by_cases h : b < 0
  · have : ¬ 0 ≤ b := by omega
    simp [vBin, litBin, h, this]
  · have h2 : 0 ≤ b := by omega
    simp [vBin, litBin, h, h2, shlI]
theorem vBin_shr : vBin P .shr t (.lit (.int k a)) (.lit (.int k' b)) = bif decide (0 ≤ b) then some (.lit (.int k (shrI k a b))) else none := by
  by_cases h : b < 0
  · have : ¬ 0 ≤ b := by omega
    simp [vBin, litBin, h, this]
  · have h2 : 0 ≤ b := by omega
    simp [vBin, litBin, h, h2, shrI]
theorem vBin_and : vBin P .and t (.lit (.int k a)) (.lit (.int k b)) = some (.lit (.int k (andI k a b))) := by simp [vBin, litBin, andI]
theorem vBin_or : vBin P .or t (.lit (.int k a)) (.lit (.int k b)) = some (.lit (.int k (orI k a b))) := by simp [vBin, litBin, orI]
end
end Go.Ab
namespace Go.Ab
theorem roBr {g len e g' : Nat} {rs : List (List V)} {lv : Bool} : roB g len (some (.rows e rs g' lv)) = sif (g == g') (ck (decide (len ≤ rs.length)) (some (rs.take len))) none := by
  show (bif g == g' && decide (len ≤ rs.length) then _ else _) = _
  generalize (g == g') = a
  generalize decide (len ≤ rs.length) = b
  cases a <;> cases b <;> rfl
theorem opBox_fn {f : Fn} {a b : List V} {H : Hp} : opBox (.fn f a b) H = some (.ptr H.length 0 0 0, H ++ [.box [.fn f a b]]) := by simp [opBox, V.cells, V.one, matL]
theorem opBox_own {i g n : Nat} {H : Hp} : opBox (.own i g n) H = some (.ptr H.length 0 0 0, H ++ [.box [.own i g n]]) := by simp [opBox, V.cells, V.one, matL]
theorem opBox_ptr {i g r o : Nat} {H : Hp} : opBox (.ptr i g r o) H = some (.ptr H.length 0 0 0, H ++ [.box [.ptr i g r o]]) := by simp [opBox, V.cells, V.one, matL]
theorem okR_int {k : IntKind} {l : List Int} : okRows 1 (l.map (intR k)) = true := okRows_map fun _ => rfl
theorem okR_bool {l : List Bool} : okRows 1 (l.map boolR) = true := okRows_map fun _ => rfl
theorem okR_task {l : List (Int × List Int)} : okRows 2 (l.map taskV) = true := okRows_map fun _ => rfl
theorem okR_three {l : List (Int × Int × Int)} : okRows 3 (l.map threeV) = true := okRows_map fun _ => rfl
theorem okRows_nil {n : Nat} : okRows n [] = true := rfl
theorem apB_emp {wl e sz bytes id g : Nat} {xs : List (List V)} {H : Hp} {lv : Bool} :
    apB wl e sz bytes id g 0 xs H (some (.rows 0 [] g lv)) = sif (Nat.ble wl id) (bif room xs.length bytes then some (.own id (g + 1) xs.length, H.set id (.rows sz xs (g + 1) lv)) else none) none := by
  cases hb : Nat.ble wl id <;> cases lv <;> simp [apB, hb, sif, room]
theorem apB_enc {α : Type} {wl e sz bytes id g len s : Nat} {l m : List α} {enc : α → List V} {H : Hp} :
    apB wl e sz bytes id g len (m.map enc) H (some (.rows s (l.map enc) g true)) =
      sif (Nat.ble wl id) (ck (decide (len ≤ l.length)) (ck (s == sz || s == 0) (bif room (l.take len ++ m).length bytes then some (.own id (g + 1) (l.take len ++ m).length, H.set id (.rows sz ((l.take len ++ m).map enc) (g + 1) true)) else none))) none := by
  by_cases h : len ≤ l.length
  · have h1 : (l.take len ++ m).length = len + m.length := by simp [h]
    rw [decide_eq_true h, h1]
    simp only [apB, ck_true, List.length_map, beq_self_eq_true, Bool.and_true, Bool.true_or, decide_eq_true h, room, List.map_append, List.map_take]
    cases Nat.ble wl id <;> cases (s == sz || s == 0) <;> simp [sif, ck]
  · rw [decide_eq_false h, ck_false]
    simp [apB, decide_eq_false h, sif]
theorem take_mapR {α : Type} {l : List α} {enc : α → List V} {n : Nat} : (l.map enc).take n = (l.take n).map enc := by rw [List.map_take]
theorem setR_three {l : List (Int × Int × Int)} {i : Nat} {a b c : Int} : (l.map threeV).set i [.lit (.int .i64 a), .lit (.int .i64 b), .lit (.int .i64 c)] = (l.set i (a, b, c)).map threeV := by rw [List.map_set]; rfl
theorem setR_task {l : List (Int × List Int)} {i : Nat} {a : Int} {b : List Int} : (l.map taskV).set i [.lit (.int .i64 a), .ro (b.map (intR .i64))] = (l.set i (a, b)).map taskV := by rw [List.map_set]; rfl
theorem setR_taskN {l : List (Int × List Int)} {i : Nat} {a : Int} : (l.map taskV).set i [.lit (.int .i64 a), .ro []] = (l.set i (a, [])).map taskV := by rw [List.map_set]; rfl
theorem retype_task {a : Int} {b : List Int} : [[V.lit (.int .i64 a), .ro (b.map (intR .i64))]] = [(a, b)].map taskV := rfl
theorem retype_taskN {a : Int} : [[V.lit (.int .i64 a), .ro []]] = [(a, [])].map taskV := rfl
def slB (g len id : Nat) (n : Int) (H : Hp) : Option B → Option (V × Hp)
  | some (.rows _ _ g' _) => if 0 ≤ n then (if n.toNat ≤ len ∧ g = g' then some (.own id g n.toNat, H) else none) else none
  | _ => none
theorem slB_rows {g len id e g' : Nat} {n : Int} {H : Hp} {rs : List (List V)} {lv : Bool} : slB g len id n H (some (.rows e rs g' lv)) = sif (g == g') (ck (decide (0 ≤ n ∧ n.toNat ≤ len)) (some (.own id g n.toNat, H))) none := by
  unfold slB sif ck
  by_cases h0 : 0 ≤ n
  · by_cases h1 : n.toNat ≤ len
    · by_cases h2 : g = g'
      · simp [h0, h1, h2]
      · simp [h0, h1, h2, beq_false_of_ne h2]
    · simp [h0, h1]
  · simp [h0]
theorem vSlice_own {P : Program} {wl : Nat} {c : Bool} {t e : TypeId} {id g len : Nat} {k : IntKind} {n : Int} {H : Hp} (he : elemT P t = some e) (hz : (szOf P e != 0) = true) :
    vSlice P wl c t (.own id g len) none (some (.lit (.int k n))) none H = slB g len id n H (H[id]?) := by
  have hz' : szOf P e ≠ 0 := by simpa using hz
  unfold vSlice slB
  simp only [he, bnd]
  by_cases h0 : 0 ≤ n
  · simp only [h0, if_true, Option.bind_some]
    generalize H[id]? = b
    cases b with
    | none => rfl
    | some b => cases b <;> simp [hz']
  · simp only [h0, if_false, Option.bind_none]
    generalize H[id]? = b
    cases b with
    | none => rfl
    | some b => cases b <;> rfl
end Go.Ab
namespace Go.Ab
end Go.Ab
namespace Go.Ab
theorem evO_tmp {env : List V} {t : Nat} : evO env (.tmp t) = env[t]? := rfl
theorem evO_func {env : List V} {f : Nat} : evO env (.func f) = some (.fn (.func f) [] []) := rfl
theorem setParams_nil {env vs : List V} : setParams env [] vs = env := by cases vs <;> rfl
theorem setParams_cons {env vs : List V} {t : Tmp} {ts : List Tmp} {v : V} : setParams env (t :: ts) (v :: vs) = setParams (env.set t v) ts vs := rfl
end Go.Ab
namespace Go.Ab
theorem kill_uu {n : Nat} : V.kill n uu = uu := rfl
end Go.Ab
namespace Go.Ab
def g_clone {α : Type} (bytes : Nat) (l : List α) : Option (List α) := ck (Nat.ble (l.length * bytes) 70368744177664) (some l)
section clone
variable {P : Program} {t e : TypeId} {α : Type} {enc : α → List V} {sz bytes : Nat}
theorem cloneO_run (he : elemT P t = some e) (hz : ∃ z, zeroOf P e = some z ∧ onesL (zeroCs z) = true ∧ ((zeroCs z).length == sz) = true) (hs : szOf P e = sz) (hg : growT P e = true) (hb : P.bytesOf e = bytes) (hl : ∀ x, (enc x).length = sz) (l : List α) :
    cloneO P t [.ro (l.map enc)] [] = ob (g_clone bytes l) fun r => some (.own 1 1 r.length, [.rows 0 [] 0 true, .rows sz (r.map enc) 1 true]) := by
  obtain ⟨z, z1, z2, z3⟩ := hz
  unfold cloneO
  simp only [he, Option.bind_some, z1, rowsOf_ro, hs, hg, z2, z3, hb, okRows_map hl, Bool.and_true, Bool.true_and, List.length_map, List.length_nil, List.nil_append]
  unfold g_clone
  cases Nat.ble (l.length * bytes) 70368744177664 <;> rfl
theorem clone_noneR (hl : ∀ x, pureL (enc x) = true) (l : List α) (g : Nat) :
    rt none (ob (g_clone bytes l) fun r => some (.own 1 1 r.length, [.rows 0 [] 0 true, .rows g (r.map enc) 1 true])) = ob (g_clone bytes l) fun r => some (.ro (r.map enc), []) := by
  rw [rt_ob]
  congr 1
  funext r
  rw [rt_some]
  exact retV_own (enc := enc) (l := r) (e := g) (lv := true) rfl rfl hl
theorem clone_keepR (hl : ∀ x, pureL (enc x) = true) (l : List α) (g : Nat) :
    rt (some fun _ => true) (ob (g_clone bytes l) fun r => some (.own 1 1 r.length, [.rows 0 [] 0 true, .rows g (r.map enc) 1 true])) = ob (g_clone bytes l) fun r => some (.own 0 0 r.length, [.rows g (r.map enc) 0 true]) := by
  rw [rt_ob]
  congr 1
  funext r
  have h1 : pureR (r.map enc) = true := by
    rw [pureR, List.all_eq_true]
    intro y hy
    obtain ⟨x, _, rfl⟩ := List.mem_map.1 hy
    exact hl x
  simp [rt_some, retV, homeA, homeC, h1]
  rw [List.take_of_length_le (by simp)]
end clone
end Go.Ab
namespace Go.Ab
theorem stOr_ptr {n0 i g r o : Nat} {k : Res} : stO n0 (.ptr i g r o) k = sif (decide (i < n0)) k none := by
  unfold stO stB idOf sif
  simp only [Bool.cond_eq_ite]
theorem stOr_own {n0 i g l : Nat} {k : Res} : stO n0 (.own i g l) k = sif (decide (i < n0)) k none := by
  unfold stO stB idOf sif
  simp only [Bool.cond_eq_ite]
theorem stOr_map {n0 i : Nat} {k : Res} : stO n0 (.map i) k = sif (decide (i < n0)) k none := by
  unfold stO stB idOf sif
  simp only [Bool.cond_eq_ite]
theorem stOr_ro {n0 : Nat} {r : List (List V)} {k : Res} : stO n0 (.ro r) k = k := rfl
theorem stOr_rp {n0 : Nat} {r : List V} {k : Res} : stO n0 (.rp r) k = k := rfl
theorem stOr_lit {n0 : Nat} {v : Value} {k : Res} : stO n0 (.lit v) k = k := rfl
theorem stOr_fn {n0 : Nat} {f : Fn} {a b : List V} {k : Res} : stO n0 (.fn f a b) k = k := rfl
theorem stOr_nil {n0 : Nat} {k : Res} : stO n0 .nil k = k := rfl
def shiftM (n : Nat) : List (Value × V) → List (Value × V)
  | [] => []
  | e :: es => (e.1, e.2.shift n) :: shiftM n es
def killM (n : Nat) : List (Value × V) → List (Value × V)
  | [] => []
  | e :: es => (e.1, e.2.kill n) :: killM n es
theorem killM_eq {n : Nat} : ∀ {es : List (Value × V)}, es.map (fun e => (e.1, e.2.kill n)) = killM n es
  | [] => rfl
  | e :: es => by simp [killM, killM_eq (es := es)]
theorem shiftM_eq {n : Nat} : ∀ {es : List (Value × V)}, es.map (fun e => (e.1, e.2.shift n)) = shiftM n es
  | [] => rfl
  | e :: es => by simp [shiftM, shiftM_eq (es := es)]
theorem Bkill_mapR {n : Nat} {es : List (Value × V)} : B.kill n (.map es) = .map (killM n es) := by
  rw [← killM_eq]
  rfl
theorem Bshift_mapR {n : Nat} {es : List (Value × V)} : B.shift n (.map es) = .map (shiftM n es) := by
  rw [← shiftM_eq]
  rfl
theorem killM_nil {n : Nat} : killM n [] = [] := rfl
theorem killM_cons {n : Nat} {e : Value × V} {es : List (Value × V)} : killM n (e :: es) = (e.1, e.2.kill n) :: killM n es := rfl
theorem shiftM_nil {n : Nat} : shiftM n [] = [] := rfl
theorem shiftM_cons {n : Nat} {e : Value × V} {es : List (Value × V)} : shiftM n (e :: es) = (e.1, e.2.shift n) :: shiftM n es := rfl
end Go.Ab
namespace Go.Ab
theorem opBox_nil {H : Hp} : opBox .nil H = some (.ptr (H ++ [B.rows 0 [] 0 true]).length 0 0 0, (H ++ [B.rows 0 [] 0 true]) ++ [.box [.own H.length 0 0]]) := by simp [opBox, V.cells, V.one, matL]
theorem opBox_yld {i : Nat} {H : Hp} : opBox (.yld i) H = some (.ptr H.length 0 0 0, H ++ [.box [.yld i]]) := by simp [opBox, V.cells, V.one, matL]
theorem opBox_map {i : Nat} {H : Hp} : opBox (.map i) H = some (.ptr H.length 0 0 0, H ++ [.box [.map i]]) := by simp [opBox, V.cells, V.one, matL]
theorem matL_yld {i : Nat} {l : List V} {H : Hp} : matL (.yld i :: l) H = (.yld i :: (matL l H).1, (matL l H).2) := rfl
theorem matL_map {i : Nat} {l : List V} {H : Hp} : matL (.map i :: l) H = (.map i :: (matL l H).1, (matL l H).2) := rfl
theorem cells_yld {i : Nat} : V.cells (.yld i) = some [.yld i] := rfl
theorem cells_map {i : Nat} : V.cells (.map i) = some [.map i] := rfl
end Go.Ab

/- More rules of the walk: literal slices, rows of frames and of lists. -/
namespace Go.Ab
open Go
def pur2 : List (Nat × V) → Bool
  | [] => true
  | p :: l => p.2.pure && pur2 l
theorem pur2_nil : pur2 [] = true := rfl
theorem pur2_cons {i : Nat} {v : V} {l : List (Nat × V)} : pur2 ((i, v) :: l) = (v.pure && pur2 l) := rfl
theorem pur2_eq {l : List (Nat × V)} : pureL (l.map (·.2)) = pur2 l := by
  induction l with
  | nil => rfl
  | cons p l ih => simp only [List.map_cons, pureL, pur2, ih]
theorem opBuildSliceC_eq {P : Program} {wl : Nat} {t : TypeId} {len : Nat} {l : List (Nat × V)} {H : Hp} :
    opBuildSliceC P wl t len l H = bq (ck (pur2 l) (some ())) fun _ => vBuildSlice P wl t len l H := by
  unfold opBuildSliceC
  rw [pur2_eq]
  cases pur2 l <;> simp [bq, ck]
def ldL (P : Program) (t : TypeId) (off row : Nat) : Nat → List (List V) → Option V
  | _, [] => none
  | i, r :: rs => bif row == i then ldCells P t (r.drop off) else ldL P t off row (i + 1) rs
theorem ldL_nil {P : Program} {t : TypeId} {off row i : Nat} : ldL P t off row i [] = none := rfl
theorem ldL_cons {P : Program} {t : TypeId} {off row i : Nat} {r : List V} {rs : List (List V)} : ldL P t off row i (r :: rs) = bif row == i then ldCells P t (r.drop off) else ldL P t off row (i + 1) rs := rfl
theorem ldL_eq {P : Program} {t : TypeId} {off row : Nat} : ∀ {rs : List (List V)} {i : Nat}, i ≤ row → ldL P t off row i rs = (rs[row - i]?).bind fun r => ldCells P t (r.drop off)
  | [], i, _ => by simp [ldL]
  | r :: rs, i, h => by
    rw [ldL]
    by_cases e : row = i
    · subst e; simp
    · have h1 : (row == i) = false := by simp [e]
      have h2 : row - i = (row - (i + 1)) + 1 := by omega
      rw [h1, cond_false, ldL_eq (by omega), h2, List.getElem?_cons_succ]
theorem ldB_lit {P : Program} {t : TypeId} {g row off e g' : Nat} {r : List V} {rs : List (List V)} {lv : Bool} :
    ldB P t g row off (some (.rows e (r :: rs) g' lv)) = sif (g == g') (ldL P t off row 0 (r :: rs)) none := by
  rw [ldL_eq (Nat.zero_le _), Nat.sub_zero]
  rfl

def confV (x : Int × Int × Int × Int) : List V := [.lit (.int .i64 x.1), .lit (.int .i64 x.2.1), .lit (.int .i64 x.2.2.1), .lit (.int .i64 x.2.2.2)]
def frameV (x : Int × Int × Int × Int × Int × Int × Int) : List V :=
  [.lit (.int .i64 x.1), .lit (.int .i64 x.2.1), .lit (.int .i64 x.2.2.1), .lit (.int .u64 x.2.2.2.1), .lit (.int .u64 x.2.2.2.2.1), .lit (.int .u64 x.2.2.2.2.2.1), .lit (.int .i64 x.2.2.2.2.2.2)]
def listV (x : List Int) : List V := [.ro (x.map (intR .i64))]
theorem pure_frameV (x : Int × Int × Int × Int × Int × Int × Int) : pureL (frameV x) = true := rfl
theorem pure_listV (x : List Int) : pureL (listV x) = true := by
  have := pureR_int (k := .i64) (l := x)
  simp [listV, pureL, V.pure, this]
section
variable {lf : List (Int × Int × Int × Int × Int × Int × Int)} {ll : List (List Int)} {n i : Nat} {a b c d e f g : Int} {x : List Int}
theorem pureR_frame : pureR (lf.map frameV) = true := pureR_map pure_frameV
theorem pureR_list : pureR (ll.map listV) = true := pureR_map pure_listV
theorem killR_frame : killR n (lf.map frameV) = lf.map frameV := killR_map pure_frameV
theorem killR_list : killR n (ll.map listV) = ll.map listV := killR_map pure_listV
theorem shiftR_frame : shiftR n (lf.map frameV) = lf.map frameV := shiftR_map pure_frameV
theorem shiftR_list : shiftR n (ll.map listV) = ll.map listV := shiftR_map pure_listV
theorem okR_frame : okRows 7 (lf.map frameV) = true := okRows_map fun _ => rfl
theorem okR_list : okRows 1 (ll.map listV) = true := okRows_map fun _ => rfl
theorem setR_frame : (lf.map frameV).set i [.lit (.int .i64 a), .lit (.int .i64 b), .lit (.int .i64 c), .lit (.int .u64 d), .lit (.int .u64 e), .lit (.int .u64 f), .lit (.int .i64 g)] = (lf.set i (a, b, c, d, e, f, g)).map frameV := by rw [List.map_set]; rfl
theorem retype_frame : [[V.lit (.int .i64 a), .lit (.int .i64 b), .lit (.int .i64 c), .lit (.int .u64 d), .lit (.int .u64 e), .lit (.int .u64 f), .lit (.int .i64 g)]] = [(a, b, c, d, e, f, g)].map frameV := rfl
theorem setR_list : (ll.map listV).set i [.ro (x.map (intR .i64))] = (ll.set i x).map listV := by rw [List.map_set]; rfl
theorem setR_listN : (ll.map listV).set i [.ro []] = (ll.set i []).map listV := by rw [List.map_set]; rfl
theorem retype_list : [[V.ro (x.map (intR .i64))]] = [x].map listV := rfl
theorem retype_listN : [[V.ro []]] = [([] : List Int)].map listV := rfl
theorem repR_frame : List.replicate n [V.lit (.int .i64 a), .lit (.int .i64 b), .lit (.int .i64 c), .lit (.int .u64 d), .lit (.int .u64 e), .lit (.int .u64 f), .lit (.int .i64 g)] = (List.replicate n (a, b, c, d, e, f, g)).map frameV := by rw [List.map_replicate]; rfl
end
theorem keyEq_int {k : IntKind} {x y : Int} : keyEq (.int k x) (.int k y) = (x == y) := by
  cases k <;> rfl
theorem keyKind_int {k : IntKind} {x : Int} : keyKind k (.int k x) = true := by
  cases k <;> rfl
theorem callV_lit {cx : Cx} {c o : Bool} {v : Value} {args : List V} {H : Hp} : callV cx c o (.lit v) args H = none := rfl
end Go.Ab

/- Steps through a region in which some looks are in no order with what is written. -/
namespace Go.Ab
section steps
variable {cx : Cx} {K : Out → St → Res} {s : St} {r : Res} {id j n0 : Nat} {ops : Array Oper} {a a' : List Nat × List Nat} {env : List V} {H : Hp} {o : Oper} {i : Nat} {L : List Nat}
theorem go_end2 (hL : orderIx ops = L) (hj : L[j]? = none) (ha : (rgOf ops).any = true) (h : K .norm s = r) : opsP cx (.region id ops true) j n0 a K s = apt a r := by
  rw [← h]
  have : (orderOf ops).drop j = [] := by
    rw [List.drop_eq_nil_iff]
    subst hL
    simpa [orderIx] using List.getElem?_eq_none_iff.1 hj
  simp [opsP, rgFor, opsOf, stepsOf, this, opsK, ha, apt]
theorem go_op2 (hL : orderIx ops = L) (hj : L[j]? = some i) (ho : ops.toList[i]? = some o) (hg : o.guard = none) (hlog : logA (rgOf ops) i o.op env a = a')
    (h : sx n0 ((rgOf ops).strict i) o.op env ((opV cx ((rgOf ops).calm i) ((rgOf ops).ord i) o.op env H).bind (fun p => opsP cx (.region id ops true) (j + 1) n0 a' K ⟨putE env o.dst p.1, p.2⟩)) = r) : opsP cx (.region id ops true) j n0 a K ⟨env, H⟩ = r := by
  rw [← h, ← hlog]
  simp only [opsP, rgFor, opsOf, stepsOf, if_true, drop1 hL hj ho]
  simp only [opsK, hg]
  simp [sx]
end steps
def apA : List Nat → List Nat → Bool
  | [], _ => true
  | i :: l, m => !(inN i m) && apA l m
where inN : Nat → List Nat → Bool
  | _, [] => false
  | i, k :: m => i == k || inN i m
theorem inN_eq {i : Nat} : ∀ {m : List Nat}, apA.inN i m = m.contains i
  | [] => rfl
  | k :: m => by
    rw [apA.inN, inN_eq, List.contains_cons]
theorem apA_eq : ∀ {l m : List Nat}, apartA (l, m) = apA l m
  | [], m => rfl
  | i :: l, m => by
    have := apA_eq (l := l) (m := m)
    unfold apartA at this ⊢
    simp only [List.all_cons] at this ⊢
    rw [this, apA, inN_eq]
theorem apt_eq {l m : List Nat} {k : Res} : apt (l, m) k = sif (apA l m) k none := by
  unfold apt sif
  rw [apA_eq, Bool.cond_eq_ite]
theorem apA_nil {m : List Nat} : apA [] m = true := rfl
theorem apA_cons {i : Nat} {l m : List Nat} : apA (i :: l) m = (!(apA.inN i m) && apA l m) := rfl
theorem inN_nil {i : Nat} : apA.inN i [] = false := rfl
theorem inN_cons {i k : Nat} {m : List Nat} : apA.inN i (k :: m) = (i == k || apA.inN i m) := rfl
theorem lgR_own {i g n : Nat} {l m : List Nat} : lgR (.own i g n) (l, m) = (i :: l, m) := rfl
theorem lgR_ptr {i g x y : Nat} {l m : List Nat} : lgR (.ptr i g x y) (l, m) = (i :: l, m) := rfl
theorem lgR_map {i : Nat} {l m : List Nat} : lgR (.map i) (l, m) = (i :: l, m) := rfl
theorem lgR_ro {rs : List (List V)} {l m : List Nat} : lgR (.ro rs) (l, m) = (l, m) := rfl
theorem lgR_rp {rs : List V} {l m : List Nat} : lgR (.rp rs) (l, m) = (l, m) := rfl
theorem lgR_nil {l m : List Nat} : lgR .nil (l, m) = (l, m) := rfl
theorem lgR_lit {v : Value} {l m : List Nat} : lgR (.lit v) (l, m) = (l, m) := rfl
theorem lgW_own {i g n : Nat} {l m : List Nat} : lgW (.own i g n) (l, m) = (l, i :: m) := rfl
theorem lgW_ptr {i g x y : Nat} {l m : List Nat} : lgW (.ptr i g x y) (l, m) = (l, i :: m) := rfl
theorem lgW_map {i : Nat} {l m : List Nat} : lgW (.map i) (l, m) = (l, i :: m) := rfl
theorem len_one {α : Type} {x : α} : [x].length = 1 := rfl
end Go.Ab

/- The rules by which evaluations are run, as two words. -/
set_option maxRecDepth 100000
namespace Go.Ab
def syP0 := PLift.up (And.intro (And.intro (And.intro (And.intro (@bm_some) (@bm_none)) (And.intro (@bp_some) (And.intro (@bp_none) (@bs_some)))) (And.intro (And.intro (@bs_none) (And.intro (@cnd_b) (@gd_b))) (And.intro (@gd_u) (And.intro (@ck_true) (@ck_false))))) (And.intro (And.intro (And.intro (@ob_some) (And.intro (@ob_none) (@bq_some))) (And.intro (@bq_none) (And.intro (@sif_true) (@sif_false)))) (And.intro (And.intro (@ldQ_lit) (And.intro (@vPick_int) (@vPick_bool))) (And.intro (@apB_emp) (And.intro (@cond_true.{1}) (@cond_false.{1}))))))
theorem syP : type_of% syP0.down := syP0.down
def syA0 := PLift.up (And.intro (And.intro (And.intro (And.intro (And.intro (And.intro (And.intro (And.intro (@nextK_ret) (@resO_1)) (And.intro (@resO_2) (@resO_3))) (And.intro (And.intro (@bm_map) (@bm_bind)) (And.intro (@bp_map) (And.intro (@bp_bind) (@bs_map))))) (And.intro (And.intro (And.intro (@bs_bind) (@bm_bif)) (And.intro (@bp_bif) (And.intro (@bs_bif) (@bq_cond)))) (And.intro (And.intro (@bq_ob) (@bq_ck)) (And.intro (@bq_map) (And.intro (@bq_bind) (@bq_bif)))))) (And.intro (And.intro (And.intro (And.intro (@bq_bq) (@ob_ob)) (And.intro (@ob_cond) (@ob_ck))) (And.intro (And.intro (@ob_map) (@bm_ob)) (And.intro (@bp_ob) (And.intro (@bs_ob) (@bm_cond))))) (And.intro (And.intro (And.intro (@bp_cond) (@bs_cond)) (And.intro (@bm_ck) (And.intro (@bp_ck) (@bs_ck)))) (And.intro (And.intro (@rt_none) (@rt_some)) (And.intro (@rt_cond) (And.intro (@rt_ob) (@rt_ck))))))) (And.intro (And.intro (And.intro (And.intro (And.intro (@retV_litk) (@retV_rok)) (And.intro (@rtN_nil) (@rtN_agg))) (And.intro (And.intro (@rtN_tup) (@rtN_own)) (And.intro (@rtN_map) (And.intro (@rtN_fn) (@rtN_ptr))))) (And.intro (And.intro (And.intro (@fzR_tup) (@fzR_lit)) (And.intro (@fzR_ro) (And.intro (@fzR_nil) (@fzR_fn)))) (And.intro (And.intro (@fzR_ptr) (@fzR_map)) (And.intro (@fzR_own) (And.intro (@fzR_agg) (@fzR1s_nil)))))) (And.intro (And.intro (And.intro (And.intro (@fzR1s_lit) (@fzR1s_ro)) (And.intro (@fzR1s_none) (@fzR1s_fn))) (And.intro (And.intro (@fzR1s_own) (@fzR1s_agg)) (And.intro (@fzLr_nil) (And.intro (@fzLr_lit) (@fzLr_ro))))) (And.intro (And.intro (And.intro (@fzLr_none) (@fzLr_fn)) (And.intro (@fzLr_ptr) (And.intro (@fzLr_own) (@fzAr_nil)))) (And.intro (And.intro (@fzAr_lit) (@fzAr_ro)) (And.intro (@fzAr_none) (And.intro (@fzAr_fn) (@fzAr_yld)))))))) (And.intro (And.intro (And.intro (And.intro (And.intro (And.intro (@fzAr_map) (@fzAr_ptr)) (And.intro (@fzAr_own) (@fzAr_agg))) (And.intro (And.intro (@fzBr) (@ble0)) (And.intro (@nble) (And.intro (@take_mapR) (@take_all))))) (And.intro (And.intro (And.intro (@slB_rows) (@pureR_nil)) (And.intro (@pureR_cons) (And.intro (@pureR_int) (@pureR_task)))) (And.intro (And.intro (@pureR_three) (@pureR_bool)) (And.intro (@cutH_eq) (And.intro (@killH_nil) (@killH_cons)))))) (And.intro (And.intro (And.intro (And.intro (@shiftH_nil) (@shiftH_cons)) (And.intro (@Bkill_mapR) (@Bshift_mapR))) (And.intro (And.intro (@killM_nil) (@killM_cons)) (And.intro (@shiftM_nil) (And.intro (@shiftM_cons) (@stOr_ptr))))) (And.intro (And.intro (And.intro (@stOr_own) (@stOr_map)) (And.intro (@stOr_ro) (And.intro (@stOr_rp) (@stOr_lit)))) (And.intro (And.intro (@stOr_fn) (@stOr_nil)) (And.intro (@Bkill_loopR) (And.intro (@Bkill_box) (@Bkill_rows))))))) (And.intro (And.intro (And.intro (And.intro (And.intro (@Bkill_dead) (@Bshift_box)) (And.intro (@Bshift_rows) (@killR_nil))) (And.intro (And.intro (@killR_int) (@killR_bool)) (And.intro (@killR_task) (And.intro (@killR_three) (@shiftR_nil))))) (And.intro (And.intro (And.intro (@shiftR_int) (@shiftR_bool)) (And.intro (@shiftR_task) (And.intro (@shiftR_three) (@noShorter_sif)))) (And.intro (And.intro (@nsh_eq) (@ldQ_eq)) (And.intro (@ldP_eq) (And.intro (@evO_tmp) (@evO_func)))))) (And.intro (And.intro (And.intro (And.intro (@setParams_nil) (@setParams_cons)) (And.intro (@asK_run) (@asB_ready))) (And.intro (And.intro (@bdK_run) (@bdB_norm)) (And.intro (@bdB_ret) (And.intro (@bdB_exit) (@bdB_goto))))) (And.intro (And.intro (And.intro (@rfK_run) (@rfB_none)) (And.intro (@rfB_noneD) (And.intro (@rfB_ret) (@rfB_exit)))) (And.intro (And.intro (@rfB_goto) (@putB_nil)) (And.intro (@putB_cons) (And.intro (@fillR_nil) (@fillR_cons))))))))) (And.intro (And.intro (And.intro (And.intro (And.intro (And.intro (And.intro (@keyEq_i64) (@mapPut_nil)) (And.intro (@mapPut_cons) (@allK_nil))) (And.intro (And.intro (@allK_cons) (@keyKind_i64)) (And.intro (@inB_map) (And.intro (@lkB_map) (@lkO_nil))))) (And.intro (And.intro (And.intro (@lkO_cons) (@agO_nil)) (And.intro (@agO_cons) (And.intro (@vBin_add) (@vBin_sub)))) (And.intro (And.intro (@vBin_mul) (@vBin_eql)) (And.intro (@vBin_neq) (And.intro (@vBin_lss) (@vBin_leq)))))) (And.intro (And.intro (And.intro (And.intro (@vBin_gtr) (@vBin_geq)) (And.intro (@vBin_quo) (@vBin_rem))) (And.intro (And.intro (@vBin_beql) (@vBin_bneq)) (And.intro (@vBin_shl) (And.intro (@vBin_shr) (@vBin_and))))) (And.intro (And.intro (And.intro (@vBin_or) (@vUn_not)) (And.intro (@vUn_neg) (And.intro (@vPick_b) (@vMax_int)))) (And.intro (And.intro (@vMin_int) (@vExtract_0)) (And.intro (@vExtract_1) (And.intro (@vExtract_2) (@vLoad_rp))))))) (And.intro (And.intro (And.intro (And.intro (And.intro (@vLoad_ptr) (@ldB_box)) (And.intro (@ldB_rows) (@vStore_ptr))) (And.intro (And.intro (@ixB_rows) (@vLen_ro)) (And.intro (@vLen_nil) (And.intro (@vLen_own) (@lnB_rows))))) (And.intro (And.intro (And.intro (@opBox_int) (@opBox_bool)) (And.intro (@opBox_ro) (And.intro (@opBox_agg) (@opBox_nil)))) (And.intro (And.intro (@opBox_yld) (@opBox_map)) (And.intro (@matL_yld) (And.intro (@matL_map) (@cells_yld)))))) (And.intro (And.intro (And.intro (And.intro (@cells_map) (@opBox_fn)) (And.intro (@opBox_own) (@opBox_ptr))) (And.intro (And.intro (@matL_nil) (@matL_lit)) (And.intro (@matL_ro) (And.intro (@matL_own) (@matL_ptr))))) (And.intro (And.intro (And.intro (@matL_fn) (@matL_none)) (And.intro (@cells_int) (And.intro (@cells_bool) (@cells_ro)))) (And.intro (And.intro (@cells_own) (@cells_ptr)) (And.intro (@cells_fn) (And.intro (@cells_nil) (@cells_agg)))))))) (And.intro (And.intro (And.intro (And.intro (And.intro (And.intro (@vNil_ptr) (@vNil_fn)) (And.intro (@vNil_rp) (@kill_uu))) (And.intro (And.intro (@taskV_eq) (@rowsOf_ro)) (And.intro (@rowsOf_nil) (And.intro (@rowsOf_own) (@roBr))))) (And.intro (And.intro (And.intro (@okR_int) (@okR_task)) (And.intro (@okR_three) (And.intro (@okR_bool) (@okRows_nil)))) (And.intro (And.intro (@apB_enc) (@setR_three)) (And.intro (@setR_task) (And.intro (@setR_taskN) (@retype_task)))))) (And.intro (And.intro (And.intro (And.intro (@retype_taskN) (@setR_bool)) (And.intro (@setR_int) (@repR_bool))) (And.intro (And.intro (@repR_int) (@getR_map)) (And.intro (@retype_int) (And.intro (@retype_int2) (@retype_three))))) (And.intro (And.intro (And.intro (@List.length_map.{0, 0}) (@List.length_cons.{0})) (And.intro (@List.length_nil.{0}) (And.intro (@List.length_replicate.{0}) (@List.length_set.{0})))) (And.intro (And.intro (@List.drop_succ_cons.{0}) (@List.drop_zero.{0})) (And.intro (@List.take_succ_cons.{0}) (And.intro (@List.take_zero.{0}) (@List.set_cons_zero.{0}))))))) (And.intro (And.intro (And.intro (And.intro (And.intro (@List.set_cons_succ.{0}) (@List.nil_append.{0})) (And.intro (@List.cons_append.{0}) (@List.append_nil.{0}))) (And.intro (And.intro (@List.getElem?_cons_zero.{0}) (@List.getElem?_cons_succ.{0})) (And.intro (@List.take_nil.{0}) (And.intro (@Option.map_some.{0, 0}) (@Option.map_none.{0, 0}))))) (And.intro (And.intro (And.intro (@Option.bind_some.{0, 0}) (@Option.bind_none.{0, 0})) (And.intro (@Nat.zero_add) (And.intro (@Nat.add_zero) (@Nat.le_refl)))) (And.intro (And.intro (@Bool.and_true) (@Bool.true_and)) (And.intro (@Bool.and_false) (And.intro (@Bool.false_and) (@Bool.or_true)))))) (And.intro (And.intro (And.intro (And.intro (@Bool.or_false) (@Bool.true_or)) (And.intro (@Bool.false_or) (@Bool.not_true))) (And.intro (And.intro (@Bool.not_false) (@beq_self_eq_true.{0})) (And.intro (@bne_self_eq_false.{0}) (And.intro (@decide_true) (@decide_false))))) (And.intro (And.intro (And.intro (@if_true.{1}) (@if_false.{1})) (And.intro (@Bool.false_eq_true) (And.intro (@and_self) (@and_true)))) (And.intro (And.intro (@true_and) (@Option.isSome_some.{0})) (And.intro (@Option.isSome_none.{0}) (And.intro (@Int.cast_ofNat_Int) (@Int.toNat_natCast))))))))))
theorem syA : type_of% syA0.down := syA0.down
end Go.Ab

/- Steps of a block in fewer letters: what is plain is found by itself. -/
namespace Go.Ab
section
variable {cx : Cx} {K : Out → St → Res} {r : Res} {id j n0 : Nat} {ops : Array Oper} {a : List Nat × List Nat} {env : List V} {H : Hp} {o : Oper} {i : Nat} {L : List Nat}
theorem pP {x : Option (V × Hp)} {k : V → Hp → Res} (h2 : ∀ v h, opsP cx (.region id ops false) (j + 1) n0 a K ⟨putE env o.dst v, h⟩ = k v h)
    (hs : ops.toList[j]? = some o := by rfl) (hg : o.guard = none := by rfl) (h1 : opV cx false true o.op env H = x := by kernel_rfl) : opsP cx (.region id ops false) j n0 a K ⟨env, H⟩ = bp x k := go_op0 hs hg (st_bp h1 h2)
theorem pM {x : Option V} {H' : Hp} {k : V → Hp → Res} (h2 : ∀ v h, opsP cx (.region id ops false) (j + 1) n0 a K ⟨putE env o.dst v, h⟩ = k v h)
    (hs : ops.toList[j]? = some o := by rfl) (hg : o.guard = none := by rfl) (h1 : opV cx false true o.op env H = x.map fun v => (v, H') := by kernel_rfl) : opsP cx (.region id ops false) j n0 a K ⟨env, H⟩ = bm x H' k := go_op0 hs hg (st_bm h1 h2)
theorem pS {x : Option Hp} {k : Hp → Res} (h2 : ∀ h, opsP cx (.region id ops false) (j + 1) n0 a K ⟨putE env o.dst uu, h⟩ = k h)
    (hs : ops.toList[j]? = some o := by rfl) (hg : o.guard = none := by rfl) (h1 : opV cx false true o.op env H = x.map fun H' => (uu, H') := by kernel_rfl) : opsP cx (.region id ops false) j n0 a K ⟨env, H⟩ = bs x k := go_op0 hs hg (st_bs h1 h2)
theorem pI (v : V) (H' : Hp) (h2 : opsP cx (.region id ops false) (j + 1) n0 a K ⟨putE env o.dst v, H'⟩ = r)
    (hs : ops.toList[j]? = some o := by rfl) (hg : o.guard = none := by rfl) (h1 : opV cx false true o.op env H = some (v, H') := by kernel_rfl) : opsP cx (.region id ops false) j n0 a K ⟨env, H⟩ = r := go_op0 hs hg (st_id h1 h2)
theorem qP (hL : orderIx ops = L) (ha : (rgOf ops).any = false) {x : Option (V × Hp)} {k : V → Hp → Res} (h2 : ∀ v h, opsP cx (.region id ops true) (j + 1) n0 a K ⟨putE env o.dst v, h⟩ = k v h) (hj : L[j]? = some i := by rfl) (ho : ops.toList[i]? = some o := by rfl) (hg : o.guard = none := by rfl) (hst : (rgOf ops).strict i = false := by kernel_rfl) (h1 : opV cx ((rgOf ops).calm i) ((rgOf ops).ord i) o.op env H = x := by kernel_rfl) : opsP cx (.region id ops true) j n0 a K ⟨env, H⟩ = bp x k := go_op1 hL ha hj ho hg (st_no hst (st_bp h1 h2))
theorem qM (hL : orderIx ops = L) (ha : (rgOf ops).any = false) {x : Option V} {H' : Hp} {k : V → Hp → Res} (h2 : ∀ v h, opsP cx (.region id ops true) (j + 1) n0 a K ⟨putE env o.dst v, h⟩ = k v h) (hj : L[j]? = some i := by rfl) (ho : ops.toList[i]? = some o := by rfl) (hg : o.guard = none := by rfl) (hst : (rgOf ops).strict i = false := by kernel_rfl) (h1 : opV cx ((rgOf ops).calm i) ((rgOf ops).ord i) o.op env H = x.map fun v => (v, H') := by kernel_rfl) : opsP cx (.region id ops true) j n0 a K ⟨env, H⟩ = bm x H' k := go_op1 hL ha hj ho hg (st_no hst (st_bm h1 h2))
theorem qS (hL : orderIx ops = L) (ha : (rgOf ops).any = false) {x : Option Hp} {k : Hp → Res} (h2 : ∀ h, opsP cx (.region id ops true) (j + 1) n0 a K ⟨putE env o.dst uu, h⟩ = k h) (hj : L[j]? = some i := by rfl) (ho : ops.toList[i]? = some o := by rfl) (hg : o.guard = none := by rfl) (hst : (rgOf ops).strict i = false := by kernel_rfl) (h1 : opV cx ((rgOf ops).calm i) ((rgOf ops).ord i) o.op env H = x.map fun H' => (uu, H') := by kernel_rfl) : opsP cx (.region id ops true) j n0 a K ⟨env, H⟩ = bs x k := go_op1 hL ha hj ho hg (st_no hst (st_bs h1 h2))
theorem qI (hL : orderIx ops = L) (ha : (rgOf ops).any = false) (v : V) (H' : Hp) (h2 : opsP cx (.region id ops true) (j + 1) n0 a K ⟨putE env o.dst v, H'⟩ = r) (hj : L[j]? = some i := by rfl) (ho : ops.toList[i]? = some o := by rfl) (hg : o.guard = none := by rfl) (hst : (rgOf ops).strict i = false := by kernel_rfl) (h1 : opV cx ((rgOf ops).calm i) ((rgOf ops).ord i) o.op env H = some (v, H') := by kernel_rfl) : opsP cx (.region id ops true) j n0 a K ⟨env, H⟩ = r := go_op1 hL ha hj ho hg (st_no hst (st_id h1 h2))
theorem eN {s : St} (h : K .norm s = r) (hs : ops.toList[j]? = none := by kernel_rfl) : opsP cx (.region id ops false) j n0 a K s = r := go_end0 hs h
section
variable {gj d : Nat} {b : Bool}
theorem sK (h : opsP cx (.region id ops false) (j + 1) n0 a K ⟨putE (env.set d (.lit (.bool !b))) o.dst uu, H⟩ = r) (hs : ops.toList[j]? = some o := by rfl) (hg : o.guard = some (gj, b) := by rfl) (hd : (ops[gj]?).bind (·.dst) = some d := by rfl) (hc : env[d]? = some (.lit (.bool !b)) := by kernel_rfl) : opsP cx (.region id ops false) j n0 a K ⟨env, H⟩ = r := go_skip0 hs hg hd hc h
theorem rN (h : (opV cx false true o.op (env.set d (.lit (.bool b))) H).bind (fun p => opsP cx (.region id ops false) (j + 1) n0 a K ⟨putE (env.set d (.lit (.bool b))) o.dst p.1, p.2⟩) = r) (hs : ops.toList[j]? = some o := by rfl) (hg : o.guard = some (gj, b) := by rfl) (hd : (ops[gj]?).bind (·.dst) = some d := by rfl) (hc : env[d]? = some (.lit (.bool b)) := by kernel_rfl) : opsP cx (.region id ops false) j n0 a K ⟨env, H⟩ = r := go_run0 hs hg hd hc h
end
end
end Go.Ab

/- More rules by which evaluations are run, as one word. -/
set_option maxRecDepth 100000
namespace Go.Ab
def syQ0 := PLift.up (And.intro (And.intro (And.intro (And.intro (And.intro (@opBuildSliceC_eq) (@pur2_nil)) (And.intro (@pur2_cons) (And.intro (@ldL_nil) (@ldL_cons)))) (And.intro (And.intro (@ldB_lit) (@pureR_frame)) (And.intro (@pureR_list) (And.intro (@killR_frame) (@killR_list))))) (And.intro (And.intro (And.intro (@shiftR_frame) (@shiftR_list)) (And.intro (@okR_frame) (And.intro (@okR_list) (@setR_frame)))) (And.intro (And.intro (@retype_frame) (@setR_list)) (And.intro (@setR_listN) (And.intro (@retype_list) (@retype_listN)))))) (And.intro (And.intro (And.intro (And.intro (@repR_frame) (@keyEq_int)) (And.intro (@keyKind_int) (And.intro (@callV_lit) (@apt_eq)))) (And.intro (And.intro (@apA_nil) (@apA_cons)) (And.intro (@inN_nil) (And.intro (@inN_cons) (@lgR_own))))) (And.intro (And.intro (And.intro (@lgR_ptr) (@lgR_map)) (And.intro (@lgR_ro) (And.intro (@lgR_rp) (@lgR_nil)))) (And.intro (And.intro (@lgR_lit) (@lgW_own)) (And.intro (@lgW_ptr) (And.intro (@lgW_map) (@len_one)))))))
theorem syQ : type_of% syQ0.down := syQ0.down
end Go.Ab

/- More words of cells: who submits. -/
namespace Go.Ab
def subV (x : Int × List Int × Int × Int × Int × Int × Int × Int × Int) : List V :=
  [.lit (.int .i64 x.1), .ro (x.2.1.map (intR .i64)), .lit (.int .i64 x.2.2.1), .lit (.int .i64 x.2.2.2.1), .lit (.int .i64 x.2.2.2.2.1), .lit (.int .u64 x.2.2.2.2.2.1), .lit (.int .u64 x.2.2.2.2.2.2.1), .lit (.int .u64 x.2.2.2.2.2.2.2.1), .lit (.int .i64 x.2.2.2.2.2.2.2.2)]
def arC (id g row : Nat) : List (Int × Nat) → Int → Option V
  | [], _ => none
  | p :: l, n => bif n == p.1 then some (.ptr id g row p.2) else arC id g row l n
theorem arC_nil {id g row : Nat} {n : Int} : arC id g row [] n = none := rfl
theorem arC_cons {id g row o : Nat} {n i : Int} {l : List (Int × Nat)} : arC id g row ((i, o) :: l) n = bif n == i then some (.ptr id g row o) else arC id g row l n := rfl
def arL (sz off len : Nat) : List (Int × Nat) := (List.range len).map fun j : Nat => ((j : Int), off + j * sz)
theorem arC_out {id g row : Nat} {n : Int} : ∀ {l : List (Int × Nat)}, (∀ p ∈ l, p.1 ≠ n) → arC id g row l n = none
  | [], _ => rfl
  | p :: l, h => by
    rw [arC, show (n == p.1) = false by simp; exact fun e => h p (List.mem_cons_self ..) e.symm, cond_false]
    exact arC_out fun q hq => h q (List.mem_cons_of_mem _ hq)
theorem arC_in {id g row sz off : Nat} {q : Nat} : ∀ (l : List Nat), q ∈ l → arC id g row (l.map fun j : Nat => ((j : Int), off + j * sz)) (q : Int) = some (.ptr id g row (off + q * sz))
  | [], h => by cases h
  | x :: l, h => by
    rw [List.map_cons, arC]
    by_cases e : q = x
    · subst e; simp
    · have h2 : ((q : Int) == (x : Int)) = false := by simp; omega
      rw [h2, cond_false]
      exact arC_in l ((List.mem_cons.1 h).resolve_left e)
theorem arC_eq {P : Program} {t e : TypeId} {len sz id g row off : Nat} {k : IntKind} {n : Int} {H : Hp} (h : P.underlying t = some (.array len e)) (hs : szOf P e = sz) (hz : sz ≠ 0) :
    vIndexAddr P t (.ptr id g row off) (.lit (.int k n)) H = arC id g row (arL sz off len) n := by
  unfold vIndexAddr
  simp only [h, hs]
  by_cases h0 : 0 ≤ n
  · rw [if_pos h0]
    by_cases h1 : n < len
    · rw [if_pos ⟨h1, hz⟩]
      obtain ⟨q, rfl⟩ : ∃ q : Nat, n = q := ⟨n.toNat, by omega⟩
      rw [arL, arC_in (List.range len) (List.mem_range.2 (by omega)), Int.toNat_natCast]
    · rw [if_neg (fun hh => h1 hh.1)]
      refine (arC_out fun p hp => ?_).symm
      obtain ⟨j, hj, rfl⟩ := List.mem_map.1 hp
      have := List.mem_range.1 hj
      simp only
      omega
  · rw [if_neg h0]
    refine (arC_out fun p hp => ?_).symm
    obtain ⟨j, hj, rfl⟩ := List.mem_map.1 hp
    simp only
    omega
end Go.Ab

/- More words of cells: one who works. -/
namespace Go.Ab
def workV (x : Int × List (Int × Int × Int) × (Int × Int × Int × Int × Int × Int × Int) × Int × Int) : List V :=
  [.lit (.int .i64 x.1), .ro (x.2.1.map threeV), .lit (.int .i64 x.2.2.1.1), .lit (.int .i64 x.2.2.1.2.1), .lit (.int .i64 x.2.2.1.2.2.1), .lit (.int .u64 x.2.2.1.2.2.2.1), .lit (.int .u64 x.2.2.1.2.2.2.2.1), .lit (.int .u64 x.2.2.1.2.2.2.2.2.1), .lit (.int .i64 x.2.2.1.2.2.2.2.2.2), .lit (.int .i64 x.2.2.2.1), .lit (.int .i64 x.2.2.2.2)]
mutual
theorem pure_kill (n : Nat) : ∀ v : V, v.pure = true → v.kill n = v
  | .lit _, _ => rfl
  | .ro _, _ => rfl
  | .nil, _ => rfl
  | .any, _ => rfl
  | .junk, _ => rfl
  | .agg cs, h => by rw [V.kill, pureL_kill n cs h]
  | .tup cs, h => by rw [V.kill, pureL_kill n cs h]
  | .fn f a b, h => by
    rw [V.pure, Bool.and_eq_true] at h
    rw [V.kill, pureL_kill n a h.1, pureL_kill n b h.2]
  | .rp _, _ => rfl
theorem pureL_kill (n : Nat) : ∀ l : List V, pureL l = true → killL n l = l
  | [], _ => rfl
  | v :: l, h => by
    rw [pureL, Bool.and_eq_true] at h
    rw [killL, pure_kill n v h.1, pureL_kill n l h.2]
end
theorem killR_all {n : Nat} {rs : List (List V)} : killR n rs = rs.map (killL n) := by
  unfold killR
  split
  · rename_i h
    rw [pureR, List.all_eq_true] at h
    have : ∀ l : List (List V), (∀ x ∈ l, pureL x = true) → l.map (killL n) = l := by
      intro l
      induction l with
      | nil => intro _; rfl
      | cons r l ih => intro h; rw [List.map_cons, pureL_kill n r (h r (List.mem_cons_self ..)), ih fun x hx => h x (List.mem_cons_of_mem _ hx)]
    exact (this rs h).symm
  · rfl
theorem killR_cons {n : Nat} {r : List V} {rs : List (List V)} : killR n (r :: rs) = killL n r :: killR n rs := by
  rw [killR_all, killR_all, List.map_cons]
theorem retype_intC {k : IntKind} {a : Int} {l : List Int} : [V.lit (.int k a)] :: List.map (intR k) l = List.map (intR k) (a :: l) := rfl
theorem retype_threeC {a b c : Int} {l : List (Int × Int × Int)} : [V.lit (.int .i64 a), .lit (.int .i64 b), .lit (.int .i64 c)] :: List.map threeV l = List.map threeV ((a, b, c) :: l) := rfl
def syD0 := PLift.up (And.intro (And.intro (And.intro (And.intro (And.intro (And.intro @rtN.eq_1 @pureL.eq_1) (And.intro @pureL.eq_2 @V.pure.eq_1)) (And.intro (And.intro @V.pure.eq_2 @V.pure.eq_3) (And.intro @V.pure.eq_4 @V.pure.eq_5))) (And.intro (And.intro (And.intro @V.pure.eq_6 @V.pure.eq_7) (And.intro @V.pure.eq_8 @V.pure.eq_9)) (And.intro (And.intro @V.pure.eq_10 @V.pure.eq_11) (And.intro @V.pure.eq_12 @V.pure.eq_13)))) (And.intro (And.intro (And.intro (And.intro @nsh.eq_1 @stBk.eq_1) (And.intro @stBk.eq_2 @stBk.eq_3)) (And.intro (And.intro @V.kill.eq_1 @V.kill.eq_2) (And.intro @V.kill.eq_3 @V.kill.eq_4))) (And.intro (And.intro (And.intro @V.kill.eq_5 @V.kill.eq_6) (And.intro @V.kill.eq_7 @V.kill.eq_8)) (And.intro (And.intro @V.kill.eq_9 @V.kill.eq_10) @V.kill.eq_11)))) (And.intro (And.intro (And.intro (And.intro (And.intro @V.kill.eq_12 @V.kill.eq_13) (And.intro @killL.eq_1 @killL.eq_2)) (And.intro (And.intro @spl.eq_1 @spl.eq_2) (And.intro @V.shift.eq_1 @V.shift.eq_2))) (And.intro (And.intro (And.intro @V.shift.eq_3 @V.shift.eq_4) (And.intro @V.shift.eq_5 @V.shift.eq_6)) (And.intro (And.intro @V.shift.eq_7 @V.shift.eq_8) @V.shift.eq_9))) (And.intro (And.intro (And.intro (And.intro @V.shift.eq_10 @V.shift.eq_11) (And.intro @V.shift.eq_12 @V.shift.eq_13)) (And.intro (And.intro @shiftL.eq_1 @shiftL.eq_2) (And.intro @V.scal.eq_1 @V.scal.eq_2))) (And.intro (And.intro (And.intro @V.scal.eq_3 @V.scal.eq_4) (And.intro @scalL.eq_1 @scalL.eq_2)) (And.intro (And.intro @intR.eq_1 @boolR.eq_1) @threeV.eq_1)))))
theorem syD : type_of% syD0.down := syD0.down
def syE0 := PLift.up (And.intro (And.intro (And.intro @syQ @confV.eq_1) (And.intro @frameV.eq_1 @listV.eq_1)) (And.intro (And.intro @subV.eq_1 @workV.eq_1) (And.intro @arC_nil @arC_cons)))
theorem syE : type_of% syE0.down := syE0.down
end Go.Ab
