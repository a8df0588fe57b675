/- An abstract evaluator over the model's code: abstract values and heaps, and how each operation acts on them. Definitions alone. -/
import Derived.OrdersIn
import Derived.RangeFuncLeaves
import Derived.RangeFuncRecord
import Derived.KernelRfl
import Derived.Laws.Sem
namespace Go.Ab

/-- Abstract values. -/
inductive V where
  | lit (v : Value)
  | ro (rows : List (List V))
  | nil
  | any
  | junk
  | agg (cells : List V)
  | tup (vs : List V)
  | fn (f : Fn) (first caps : List V)
  | yld (l : Nat)
  | rp (cells : List V)
  | ptr (id gen row off : Nat)
  | own (id gen len : Nat)
  | map (id : Nat)
  deriving Inhabited

/-- The record of a loop over a function. -/
structure Lp where
  st : LoopState
  pending : Option Code
  fn : FuncId
  tmps : List V
  params : List Tmp
  assign : Code
  body : Code
  deriving Inhabited

/-- Abstract blocks. -/
inductive B where
  | rows (esz : Nat) (rs : List (List V)) (gen : Nat) (live : Bool)
  | box (cs : List V)
  | map (es : List (Value × V))
  | dead
  | loop (l : Lp)
  deriving Inhabited

abbrev Hp := List B

mutual
/-- No block of the heap is named. -/
def V.pure : V → Bool
  | .lit _ => true
  | .ro _ => true
  | .nil => true
  | .any => true
  | .junk => true
  | .agg cs => pureL cs
  | .tup cs => pureL cs
  | .fn _ a b => pureL a && pureL b
  | .yld _ => false
  | .rp _ => true
  | .ptr .. => false
  | .own .. => false
  | .map _ => false
def pureL : List V → Bool
  | [] => true
  | v :: vs => v.pure && pureL vs
end

mutual
/-- What names a block from n on is forgotten. -/
def V.kill (n : Nat) : V → V
  | .lit v => .lit v
  | .ro r => .ro r
  | .nil => .nil
  | .any => .any
  | .junk => .junk
  | .agg cs => .agg (killL n cs)
  | .tup cs => .tup (killL n cs)
  | .fn f a b => .fn f (killL n a) (killL n b)
  | .yld l => if l < n then .yld l else .any
  | .rp c => .rp c
  | .ptr i g r o => if i < n then .ptr i g r o else .any
  | .own i g l => if i < n then .own i g l else .any
  | .map i => if i < n then .map i else .any
def killL (n : Nat) : List V → List V
  | [] => []
  | v :: vs => v.kill n :: killL n vs
end

mutual
/-- Blocks lie k places on. -/
def V.shift (k : Nat) : V → V
  | .lit v => .lit v
  | .ro r => .ro r
  | .nil => .nil
  | .any => .any
  | .junk => .junk
  | .agg cs => .agg (shiftL k cs)
  | .tup cs => .tup (shiftL k cs)
  | .fn f a b => .fn f (shiftL k a) (shiftL k b)
  | .yld l => .yld (k + l)
  | .rp c => .rp c
  | .ptr i g r o => .ptr (k + i) g r o
  | .own i g l => .own (k + i) g l
  | .map i => .map (k + i)
def shiftL (k : Nat) : List V → List V
  | [] => []
  | v :: vs => v.shift k :: shiftL k vs
end

def pureR (rs : List (List V)) : Bool := rs.all pureL
def killR (n : Nat) (rs : List (List V)) : List (List V) := if pureR rs then rs else rs.map (killL n)
def shiftR (k : Nat) (rs : List (List V)) : List (List V) := if pureR rs then rs else rs.map (shiftL k)

def B.kill (n : Nat) : B → B
  | .rows e rs g l => .rows e (killR n rs) g l
  | .box cs => .box (killL n cs)
  | .map es => .map (es.map fun e => (e.1, e.2.kill n))
  | .dead => .dead
  | .loop l => .loop { l with tmps := killL n l.tmps }

def B.shift (k : Nat) : B → B
  | .rows e rs g l => .rows e (shiftR k rs) g l
  | .box cs => .box (shiftL k cs)
  | .map es => .map (es.map fun e => (e.1, e.2.shift k))
  | .dead => .dead
  | .loop l => .loop { l with tmps := shiftL k l.tmps }

/-- The heap cut to its first n blocks. -/
def cutH (n : Nat) (H : Hp) : Hp := (H.take n).map (B.kill n)

/-- A value that stands in the code. -/
def constC : Value → V
  | .slice none 0 0 => .nil
  | v => .lit v
def constV : Value → V
  | .agg cs => if cs.toList.all Value.oneCell' then .agg (cs.toList.map constC) else .junk
  | v => constC v
/-- The cells of a zero value. -/
def zeroCs (z : Value) : List V := z.cells.toList.map constC

/-- A value of one cell. -/
def V.one : V → Bool
  | .lit v => v.oneCell'
  | .junk => false
  | .agg _ => false
  | .tup _ => false
  | _ => true

def onesL (l : List V) : Bool := l.all V.one

/-- The cells of a value that may be laid into a variable. -/
def V.cells : V → Option (List V)
  | .agg cs => some cs
  | v => if v.one then some [v] else none

/-- Nil slices that are laid into a variable get an empty block of their own. -/
def matL : List V → Hp → List V × Hp
  | [], H => ([], H)
  | .nil :: vs, H => let p := matL vs (H ++ [.rows 0 [] 0 true]); (.own H.length 0 0 :: p.1, p.2)
  | v :: vs, H => let p := matL vs H; (v :: p.1, p.2)

/-- A value that is handed over: what one owns may only be read from then on. -/
def fzC (wl : Nat) (v : V) (H : Hp) : Option (V × Hp) :=
  match v with
  | .own id g len =>
    match H[id]? with
    | some (.rows e rs g' _) => if g = g' ∧ len ≤ rs.length then if pureR rs && Nat.ble wl id then some (.ro (rs.take len), H.set id (.rows e rs g' false)) else none else none
    | _ => none
  | v => some (v, H)
def fzL (wl : Nat) (nl : Bool) : List V → Hp → Option (List V × Hp)
  | [], H => some ([], H)
  | v :: vs, H =>
    (match v with
     | V.nil => if nl then some (V.ro [], H) else some (V.nil, H)
     | v => fzC wl v H).bind fun p => (fzL wl nl vs p.2).bind fun q => some (p.1 :: q.1, q.2)
/-- An argument. -/
def fzA (wl : Nat) (v : V) (H : Hp) : Option (V × Hp) :=
  match v with
  | .agg cs => (fzL wl true cs H).bind fun p => some (.agg p.1, p.2)
  | v => fzC wl v H
def fzAs (wl : Nat) : List V → Hp → Option (List V × Hp)
  | [], H => some ([], H)
  | v :: vs, H => (fzA wl v H).bind fun p => (fzAs wl vs p.2).bind fun q => some (p.1 :: q.1, q.2)
/-- A result: one of several. -/
def fzR1 (wl : Nat) (v : V) (H : Hp) : Option (V × Hp) :=
  match v with
  | .nil => some (.ro [], H)
  | v => fzA wl v H
def fzR1s (wl : Nat) : List V → Hp → Option (List V × Hp)
  | [], H => some ([], H)
  | v :: vs, H => (fzR1 wl v H).bind fun p => (fzR1s wl vs p.2).bind fun q => some (p.1 :: q.1, q.2)
def fzR (wl : Nat) (v : V) (H : Hp) : Option (V × Hp) :=
  match v with
  | .tup vs => (fzR1s wl vs H).bind fun p => some (.tup p.1, p.2)
  | v => fzR1 wl v H

section types
variable (P : Program)
def szOf (t : TypeId) : Nat := P.cellsOf t
def zeroOf (t : TypeId) : Option Value := (P.info? t).bind (·.zero)
def aggT (t : TypeId) : Option Bool := match P.underlying t with | some (.struct _) => some true | some (.array _ _) => some true | some _ => some false | none => none
def elemT (t : TypeId) : Option TypeId := match P.underlying t with | some (.slice e) => some e | _ => none
def fieldT (t : TypeId) (i : Nat) : Option Field := match P.underlying t with | some (.struct fs) => fs[i]? | _ => none
def kindT (t : TypeId) : Option IntKind := match P.underlying t with | some (.int k) => some k | _ => none

def plainT (t : TypeId) : Bool := !P.stoodInHeld t && !P.eqGuardType P.depth t
def fieldsT (t : TypeId) : Option (List Field) := match P.underlying t with | some (.struct fs) => some fs.toList | _ => none
def isBoolT (t : TypeId) : Bool := match P.underlying t with | some .bool => true | _ => false

/-- Two structs of numbers and bools, field by field: each of one cell, one behind the other. -/
def eqT : List Field → Nat → List V → List V → Option Bool
  | [], _, [], [] => some true
  | f :: fs, k, .lit (.int ka a) :: xs, .lit (.int kb b) :: ys =>
    if f.name ≠ "_" ∧ f.offset = k ∧ (kindT P f.type).isSome = true ∧ ka = kb then (eqT fs (k + 1) xs ys).map fun r => (a == b) && r else none
  | f :: fs, k, .lit (.bool a) :: xs, .lit (.bool b) :: ys =>
    if f.name ≠ "_" ∧ f.offset = k ∧ isBoolT P f.type = true then (eqT fs (k + 1) xs ys).map fun r => (a == b) && r else none
  | _, _, _, _ => none
end types

/-- Operators on numbers and bools. -/
def litBin (op : BinOp) (x y : Value) : Option Value :=
  match x, y with
  | .int k a, .int k' b =>
    match op with
    | .shl => if b < 0 then none else some (.int k (k.wrap (a * 2 ^ (min b.toNat k.bits))))
    | .shr => if b < 0 then none else some (.int k (a.fdiv (2 ^ (min b.toNat k.bits))))
    | .add => if k = k' then some (.int k (k.wrap (a + b))) else none
    | .sub => if k = k' then some (.int k (k.wrap (a - b))) else none
    | .mul => if k = k' then some (.int k (k.wrap (a * b))) else none
    | .quo => if k = k' then if b = 0 then none else some (.int k (k.wrap (a.tdiv b))) else none
    | .rem => if k = k' then if b = 0 then none else some (.int k (a.tmod b)) else none
    | .and => if k = k' then some (.int k (k.wrap (BitVec.ofInt k.bits a &&& BitVec.ofInt k.bits b).toNat)) else none
    | .or => if k = k' then some (.int k (k.wrap (BitVec.ofInt k.bits a ||| BitVec.ofInt k.bits b).toNat)) else none
    | .xor => if k = k' then some (.int k (k.wrap (BitVec.ofInt k.bits a ^^^ BitVec.ofInt k.bits b).toNat)) else none
    | .andNot => if k = k' then some (.int k (k.wrap (BitVec.ofInt k.bits a &&& ~~~ BitVec.ofInt k.bits b).toNat)) else none
    | .eql => if k = k' then some (.bool (a == b)) else none
    | .neq => if k = k' then some (.bool (a != b)) else none
    | .lss => if k = k' then some (.bool (a < b)) else none
    | .leq => if k = k' then some (.bool (a ≤ b)) else none
    | .gtr => if k = k' then some (.bool (a > b)) else none
    | .geq => if k = k' then some (.bool (a ≥ b)) else none
  | _, _ => none

def vBin (P : Program) (op : BinOp) (t : TypeId) (x y : V) : Option V :=
  match x, y with
  | .lit (.int k a), .lit (.int k' b) => (litBin op (.int k a) (.int k' b)).map .lit
  | .lit (.bool a), .lit (.bool b) =>
    match op with
    | .eql => if isBoolT P t then some (.lit (.bool (a == b))) else none
    | .neq => if isBoolT P t then some (.lit (.bool (!(a == b)))) else none
    | _ => none
  | .agg xs, .agg ys =>
    match op with
    | .eql => if plainT P t then (fieldsT P t).bind fun fs => (eqT P fs 0 xs ys).map fun r => .lit (.bool r) else none
    | .neq => if plainT P t then (fieldsT P t).bind fun fs => (eqT P fs 0 xs ys).map fun r => .lit (.bool (!r)) else none
    | _ => none
  | _, _ => none

def vUn (op : UnOp) (x : V) : Option V :=
  match op, x with
  | .not, .lit (.bool b) => some (.lit (.bool !b))
  | .neg, .lit (.int k n) => some (.lit (.int k (k.wrap (0 - n))))
  | _, _ => none

def vConv (P : Program) (src dst : TypeId) (x : V) : Option V :=
  match x with
  | .lit (.int _ n) => match kindT P dst with | some k => if (kindT P src).isSome then some (.lit (.int k (k.wrap n))) else none | none => none
  | _ => none

def vPick (c a b : V) : Option V :=
  match c with
  | .lit (.bool t) => some (bif t then a else b)
  | _ => none

def ldCells (P : Program) (t : TypeId) (cs : List V) : Option V :=
  match aggT P t with
  | some true => if szOf P t ≤ cs.length then some (.agg (cs.take (szOf P t))) else none
  | some false => cs.head?
  | none => none

def vLoad (P : Program) (t : TypeId) (a : V) (H : Hp) : Option V :=
  match a with
  | .rp cs => ldCells P t cs
  | .ptr id g row off =>
    match H[id]? with
    | some (.box cs) => if g = 0 ∧ row = 0 then ldCells P t (cs.drop off) else none
    | some (.rows _ rs g' _) => if g = g' then (rs[row]?).bind fun r => ldCells P t (r.drop off) else none
    | _ => none
  | _ => none

def spl : List V → Nat → List V → List V
  | cs, _, [] => cs
  | cs, off, v :: vs => spl (cs.set off v) (off + 1) vs

def vStore (P : Program) (wl : Nat) (t : TypeId) (a v : V) (H : Hp) : Option Hp :=
  match a, v.cells with
  | .ptr id g row off, some vs =>
    if Nat.ble wl id then
      match H[id]? with
      | some (.box cs) =>
        if g = 0 ∧ row = 0 ∧ szOf P t ≠ 0 ∧ vs.length = szOf P t ∧ off + vs.length ≤ cs.length then
          let p := matL vs H
          some (p.2.set id (.box (spl cs off p.1)))
        else none
      | some (.rows _ _ _ _) =>
        (fzL wl true vs H).bind fun p =>
          match p.2[id]? with
          | some (.rows e rs g' true) =>
            if g = g' ∧ szOf P t ≠ 0 ∧ vs.length = szOf P t then
              (rs[row]?).bind fun r => if off + p.1.length ≤ r.length then some (p.2.set id (.rows e (rs.set row (spl r off p.1)) g' true)) else none
            else none
          | _ => none
      | _ => none
    else none
  | _, _ => none

def vNil (x : V) (H : Hp) : Option V :=
  match x with
  | .rp cs => some (.rp cs)
  | .fn f a b => match f with | .func _ => some (.fn f a b) | _ => none
  | .ptr id g row off =>
    match H[id]? with
    | some (.box _) => if g = 0 then some (.ptr id g row off) else none
    | some (.rows _ _ g' _) => if g = g' then some (.ptr id g row off) else none
    | _ => none
  | _ => none

def vFieldAddr (P : Program) (t : TypeId) (x : V) (i : Nat) : Option V :=
  match fieldT P t i with
  | some f =>
    if szOf P f.type = 0 then none else
    match x with
    | .rp cs => some (.rp (cs.drop f.offset))
    | .ptr id g row off => some (.ptr id g row (off + f.offset))
    | _ => none
  | none => none

def vField (P : Program) (t : TypeId) (x : V) (i : Nat) : Option V :=
  match fieldT P t i, x with
  | some f, .agg cs => ldCells P f.type (cs.drop f.offset)
  | _, _ => none

def vIndexAddr (P : Program) (t : TypeId) (x i : V) (H : Hp) : Option V :=
  match i with
  | .lit (.int _ n) =>
    if 0 ≤ n then
      match P.underlying t with
      | some (.slice e) =>
        match x with
        | .ro rows => (rows[n.toNat]?).bind fun r => if r.length = szOf P e ∧ szOf P e ≠ 0 then some (.rp r) else none
        | .own id g len =>
          match H[id]? with
          | some (.rows s _ g' _) => if g = g' ∧ s = szOf P e ∧ szOf P e ≠ 0 then if n.toNat < len then some (.ptr id g n.toNat 0) else none else none
          | _ => none
        | _ => none
      | some (.array len e) =>
        if n < len ∧ szOf P e ≠ 0 then
          match x with
          | .ptr id g row off => some (.ptr id g row (off + n.toNat * szOf P e))
          | .rp cs => some (.rp (cs.drop (n.toNat * szOf P e)))
          | _ => none
        else none
      | _ => none
    else none
  | _ => none

def vIndex (P : Program) (t : TypeId) (x i : V) : Option V :=
  match i, x with
  | .lit (.int _ n), .agg cs =>
    match P.underlying t with
    | some (.array len e) => if 0 ≤ n ∧ n < len then ldCells P e (cs.drop (n.toNat * szOf P e)) else none
    | _ => none
  | _, _ => none

/-- A bound of a slice expression. -/
def bnd (x : Option V) (d : Nat) : Option Nat :=
  match x with
  | none => some d
  | some (.lit (.int _ n)) => if 0 ≤ n then some n.toNat else none
  | _ => none

def vSlice (P : Program) (wl : Nat) (calm : Bool) (t : TypeId) (x : V) (lo hi mx : Option V) (H : Hp) : Option (V × Hp) :=
  match elemT P t with
  | none => none
  | some e =>
    match x with
    | .ro rows =>
      (bnd hi rows.length).bind fun h => (bnd lo 0).bind fun l => (bnd mx h).bind fun m =>
        if szOf P e ≠ 0 ∧ l ≤ h ∧ h ≤ m ∧ m ≤ rows.length ∧ (mx.isSome → hi.isSome) ∧ rows.all (fun r => r.length == szOf P e) then some (.ro ((rows.take h).drop l), H) else none
    | .own id g len =>
      match mx, lo with
      | none, none =>
        (bnd hi len).bind fun h =>
          match H[id]? with
          | some (.rows _ _ g' _) => if szOf P e ≠ 0 ∧ h ≤ len ∧ g = g' then some (.own id g h, H) else none
          | _ => none
      | none, some lo =>
        (bnd hi len).bind fun h => (bnd (some lo) 0).bind fun l =>
          match H[id]? with
          | some (.rows s rs g' _) => if szOf P e ≠ 0 ∧ calm = false ∧ Nat.ble wl id = true ∧ l ≤ h ∧ h ≤ len ∧ len ≤ rs.length ∧ g = g' ∧ s = szOf P e ∧ pureR rs = true then some (.ro ((rs.take h).drop l), H.set id (.rows s rs g' false)) else none
          | _ => none
      | _, _ => none
    | _ => none

/-- The elements of a slice that is appended. -/
def rowsOf (x : V) (H : Hp) : Option (List (List V)) :=
  match x with
  | .ro rows => some rows
  | .nil => some []
  | .own id g len => match H[id]? with | some (.rows _ rs g' _) => if g = g' ∧ len ≤ rs.length then some (rs.take len) else none | _ => none
  | _ => none

def okRows (size : Nat) (rs : List (List V)) : Bool := rs.all fun r => r.length == size

/-- May a slice of these grow? -/
def growT (P : Program) (e : TypeId) : Bool := match zeroOf P e with | some z => z.cells.size == szOf P e && szOf P e != 0 && P.bytesOf e != 0 | none => false

def vAppend (P : Program) (wl : Nat) (t : TypeId) (s x : V) (H : Hp) : Option (V × Hp) :=
  match elemT P t with
  | none => none
  | some e =>
    (rowsOf x H).bind fun xs =>
      if okRows (szOf P e) xs && growT P e then
        match s with
        | .nil => if xs.length * P.bytesOf e ≤ 70368744177664 then some (.own H.length 0 xs.length, H ++ [.rows (szOf P e) xs 0 true]) else none
        | .own id g len =>
          match H[id]? with
          | some (.rows sz rs g' live) =>
            if Nat.ble wl id = true ∧ g = g' ∧ len ≤ rs.length ∧ (live = true ∨ len = rs.length) ∧ (sz = szOf P e ∨ sz = 0) ∧ (len + xs.length) * P.bytesOf e ≤ 70368744177664 then
              some (.own id (g + 1) (len + xs.length), H.set id (.rows (szOf P e) (rs.take len ++ xs) (g + 1) live))
            else none
          | _ => none
        | _ => none
      else none

def vLen (x : V) (H : Hp) : Option V :=
  match x with
  | .ro rows => some (.lit (.int .i64 rows.length))
  | .nil => some (.lit (.int .i64 0))
  | .own id g len =>
    match H[id]? with
    | some (.rows _ _ g' _) => if g = g' then some (.lit (.int .i64 len)) else none
    | _ => none
  | _ => none

def vMinMax (isMax : Bool) : List V → Option V
  | [.lit (.int k a), .lit (.int k' b)] => if k = k' then some (.lit (.int k (bif isMax then (if b > a then b else a) else (if b < a then b else a)))) else none
  | _ => none

def vMakeSlice (P : Program) (t : TypeId) (l c : V) (H : Hp) : Option (V × Hp) :=
  match elemT P t with
  | none => none
  | some e =>
    match l, c with
    | .lit (.int .i64 a), .lit (.int .i64 b) =>
      if a = b ∧ 0 ≤ a ∧ a ≤ 9223372036854775807 ∧ a * P.bytesOf e ≤ 70368744177664 then
        match zeroOf P e with
        | some z => if onesL (zeroCs z) && (zeroCs z).length == szOf P e && szOf P e != 0 then some (.own H.length 0 a.toNat, H ++ [.rows (szOf P e) (List.replicate a.toNat (fzZ (zeroCs z))) 0 true]) else none
        | none => none
      else none
    | _, _ => none
where
  fzZ : List V → List V
    | [] => []
    | .nil :: vs => .ro [] :: fzZ vs
    | v :: vs => v :: fzZ vs

/-- Parts of a struct or an array are laid. -/
def fillV (place : Nat → Option (Nat × Nat)) (cells : List V) : List (Nat × V) → Option (List V)
  | [] => some cells
  | (i, v) :: rest =>
    match place i with
    | none => none
    | some (off, size) =>
      match v.cells with
      | some vs => if vs.length = size ∧ off + vs.length ≤ cells.length then fillV place (spl cells off vs) rest else none
      | none => none

def mapO (ρ : Operand → Option V) : List (Nat × Operand) → Option (List (Nat × V))
  | [] => some []
  | (i, x) :: r => (ρ x).bind fun v => (mapO ρ r).bind fun l => some ((i, v) :: l)

def vBuild (P : Program) (t : TypeId) (parts : List (Nat × V)) : Option V :=
  match zeroOf P t, P.underlying t with
  | some z, some (.struct fs) => if onesL (zeroCs z) && fs.toList.all (fun f => (P.info? f.type).isSome) then (fillV (fun i => (fs[i]?).map fun f => (f.offset, szOf P f.type)) (zeroCs z) parts).map .agg else none
  | some z, some (.array _ e) => if onesL (zeroCs z) && (P.info? e).isSome then (fillV (fun i => some (i * szOf P e, szOf P e)) (zeroCs z) parts).map .agg else none
  | _, _ => none

/-- Rows of a slice literal: each part is one whole row. -/
def fillR (wl size : Nat) : List (Nat × V) → List (List V) → Hp → Option (List (List V) × Hp)
  | [], rs, H => some (rs, H)
  | (i, v) :: rest, rs, H =>
    match v.cells with
    | some vs => (fzL wl true vs H).bind fun p => if i < rs.length ∧ p.1.length = size then fillR wl size rest (rs.set i p.1) p.2 else none
    | none => none

def vBuildSlice (P : Program) (wl : Nat) (t : TypeId) (len : Nat) (parts : List (Nat × V)) (H : Hp) : Option (V × Hp) :=
  match elemT P t with
  | none => none
  | some e =>
    match zeroOf P e with
    | some z =>
      if szOf P e ≠ 0 ∧ len * szOf P e ≤ 16777216 ∧ onesL (zeroCs z) = true ∧ (zeroCs z).length = szOf P e then
        (fillR wl (szOf P e) parts (List.replicate len (vMakeSlice.fzZ (zeroCs z))) H).bind fun p =>
          some (.own p.2.length 0 len, p.2 ++ [.rows (szOf P e) p.1 0 true])
      else none
    | none => none

def keyEq (a b : Value) : Bool :=
  match a, b with
  | .int k x, .int k' y => k == k' && x == y
  | _, _ => false

/-- A map of numbers. -/
def mapPut (k : Value) (v : V) : List (Value × V) → List (Value × V)
  | [] => [(k, v)]
  | e :: es => if keyEq k e.1 then (k, v) :: es else e :: mapPut k v es

def mapGet (k : Value) (z : V) : List (Value × V) → V × Bool
  | [] => (z, false)
  | e :: es => bif keyEq k e.1 then (e.2, true) else mapGet k z es

def keyKind (kk : IntKind) : Value → Bool
  | .int k _ => k == kk
  | _ => false

def vInsert (P : Program) (wl : Nat) (t : TypeId) (m k v : V) (H : Hp) : Option Hp :=
  match P.underlying t with
  | some (.map kt _) =>
    if (kindT P kt).isSome then
      match m, k with
      | .map id, .lit (.int kk n) => match H[id]? with | some (.map es) => if es.all (fun e => keyKind kk e.1) && (kindT P kt == some kk) && Nat.ble wl id then some (H.set id (.map (mapPut (.int kk n) v es))) else none | _ => none
      | _, _ => none
    else none
  | _ => none

def vLookup (P : Program) (t : TypeId) (m k : V) (ok : Bool) (H : Hp) : Option V :=
  match P.underlying t with
  | some (.map kt et) =>
    if (kindT P kt).isSome then
      match zeroOf P et, m, k with
      | some z, .map id, .lit (.int kk n) =>
        match H[id]? with
        | some (.map es) =>
          if es.all (fun e => keyKind kk e.1) && (kindT P kt == some kk) then
            some (bif ok then .tup [(mapGet (.int kk n) (constV z) es).1, .lit (.bool (mapGet (.int kk n) (constV z) es).2)] else (mapGet (.int kk n) (constV z) es).1)
          else none
        | _ => none
      | _, _, _ => none
    else none
  | _ => none

def vExtract (x : V) (i : Nat) : Option V :=
  match x with
  | .tup vs => vs[i]?
  | _ => none

/-- How this program is to be evaluated: which functions have a word of their own, whose results stay owned, whose arguments do, and how many slots are named. -/
structure Mode where
  orc : FuncId → Option (List V → Hp → Option (V × Hp))
  keepRes : FuncId → FuncId → Option (Nat → Bool)
  keepArg : FuncId → Bool
  named : FuncId → Nat

structure Cx where
  P : Program
  M : Mode
  fid : FuncId
  round : Bool
  wl : Nat
  call : Nat → FuncId → List V → Hp → Option (V × Hp)
  yld : Nat → Nat → List V → Hp → Option (V × Hp)
  n : Nat

structure St where
  env : List V
  H : Hp

inductive Out where
  | norm
  | exit (id : Nat)
  | goto (l : Nat)
  | ret

def evO (env : List V) : Operand → Option V
  | .tmp t => env[t]?
  | .const v => some (constV v)
  | .func f => some (.fn (.func f) [] [])
  | .global _ => none

def evOs (env : List V) : List Operand → Option (List V)
  | [] => some []
  | x :: xs => (evO env x).bind fun v => (evOs env xs).bind fun vs => some (v :: vs)

def evOO (env : List V) : Option Operand → Option (Option V)
  | none => some none
  | some x => (evO env x).map some

/-- A result that stays owned: its block alone is taken over. -/
def homeC (v : V) (H : Hp) (acc : Hp) : Option (V × Hp × Hp) :=
  match v with
  | .own id g len =>
    match H[id]? with
    | some (.rows e rs g' live) => if g = g' ∧ len ≤ rs.length ∧ (live = true ∨ len = rs.length) ∧ pureR rs = true then some (.own acc.length 0 len, H.set id .dead, acc ++ [.rows e (rs.take len) 0 live]) else none
    | _ => none
  | .nil => some (.ro [], H, acc)
  | v => if v.pure then some (v, H, acc) else none
def homeL : List V → Hp → Hp → Option (List V × Hp × Hp)
  | [], H, acc => some ([], H, acc)
  | v :: vs, H, acc => (homeC v H acc).bind fun p => (homeL vs p.2.1 p.2.2).bind fun q => some (p.1 :: q.1, q.2.1, q.2.2)
def homeA (v : V) (H acc : Hp) : Option (V × Hp × Hp) :=
  match v with
  | .agg cs => (homeL cs H acc).bind fun p => some (.agg p.1, p.2.1, p.2.2)
  | v => homeC v H acc
def homeAs : List V → Hp → Hp → Option (List V × Hp × Hp)
  | [], H, acc => some ([], H, acc)
  | v :: vs, H, acc => (homeA v H acc).bind fun p => (homeAs vs p.2.1 p.2.2).bind fun q => some (p.1 :: q.1, q.2.1, q.2.2)
/-- Of several results those that do not stay owned. -/
def fzK (keep : Nat → Bool) : Nat → List V → Hp → Option (List V × Hp)
  | _, [], H => some ([], H)
  | i, v :: vs, H => (if keep i then some (v, H) else fzR1 0 v H).bind fun p => (fzK keep (i + 1) vs p.2).bind fun q => some (p.1 :: q.1, q.2)

/-- What comes back of a call on an empty heap: a value, and the blocks that it names. -/
def retV (keep : Option (Nat → Bool)) (v : V) (H : Hp) : Option (V × Hp) :=
  match keep with
  | none => (fzR 0 v H).bind fun q => if q.1.pure then some (q.1, []) else some q
  | some keep =>
    match v with
    | .tup vs => (fzK keep 0 vs H).bind fun p => (homeAs p.1 p.2 []).bind fun q => some (.tup q.1, q.2.2)
    | v => (homeA v H []).bind fun q => some (q.1, q.2.2)

/-- A call whose arguments name no block: on an empty heap; what it made is laid behind. -/
def callPure (cx : Cx) (g : FuncId) (args : List V) (H : Hp) : Option (V × Hp) :=
  (cx.call 0 g args []).bind fun p => (retV (cx.M.keepRes cx.fid g) p.1 p.2).bind fun q =>
    some (q.1.shift H.length, H ++ q.2.map (B.shift H.length))

mutual
/-- Numbers, bools and texts alone. -/
def V.scal : V → Bool
  | .lit _ => true
  | .agg cs => scalL cs
  | .tup cs => scalL cs
  | _ => false
def scalL : List V → Bool
  | [] => true
  | v :: vs => v.scal && scalL vs
end

def callGen (cx : Cx) (g : FuncId) (args : List V) (H : Hp) : Option (V × Hp) :=
  (if cx.M.keepArg g then some (args, H) else fzAs cx.wl args H).bind fun a =>
    if pureL a.1 then (callPure cx g a.1 a.2).bind fun q => some (q.1, bif q.1.scal then H else q.2)
    else (cx.call cx.wl g a.1 a.2).bind fun p => (if (cx.M.keepRes cx.fid g).isSome then some p else fzR cx.wl p.1 p.2).bind fun q =>
      if q.1.pure then some (q.1, cutH a.2.length q.2) else some q

/-- A call among operations whose order is open: what is handed over must be data. 'ord': ordered with all that make blocks or write. -/
def callCalm (cx : Cx) (ord : Bool) (g : FuncId) (args : List V) (H : Hp) : Option (V × Hp) :=
  if ord then
    if pureL args then callPure cx g args H
    else if cx.M.keepArg g then none
    else
      (fzAs cx.wl args H).bind fun a =>
        if pureL a.1 then (callPure cx g a.1 a.2).bind fun q => some (q.1, bif q.1.scal then H else q.2)
        else (cx.call a.2.length g a.1 a.2).bind fun p => if p.1.scal then some (p.1, H) else none
  else if pureL args then
    (cx.call 0 g args []).bind fun p => (fzR 0 p.1 p.2).bind fun q => if q.1.pure then some (q.1, H) else none
  else none

/-- A heap does not get shorter. -/
def noShorter (H : Hp) (p : V × Hp) : Option (V × Hp) := if Nat.ble H.length p.2.length then some p else none

def callV (cx : Cx) (calm ord : Bool) (f : V) (args : List V) (H : Hp) : Option (V × Hp) :=
  match f with
  | .fn (.func g) first caps =>
    if calm then callCalm cx ord g (first ++ args ++ caps) H
    else (callGen cx g (first ++ args ++ caps) H).bind (noShorter H)
  | .yld l => if calm then none else (fzAs cx.wl args H).bind fun a => (cx.yld cx.wl l a.1 a.2).bind (noShorter H)
  | _ => none

def bltV (cx : Cx) (b : Builtin) (ts : Array TypeId) (args : List V) (H : Hp) : Option (V × Hp) :=
  match b with
  | .len => match ts.toList, args with
    | [t], [x] => if (elemT cx.P t).isSome then (vLen x H).map fun v => (v, H) else none
    | _, _ => none
  | .append => match ts.toList, args with
    | [t, u], [s, x] => if (elemT cx.P u).isSome then vAppend cx.P cx.wl t s x H else none
    | _, _ => none
  | .max => (vMinMax true args).map fun v => (v, H)
  | .min => (vMinMax false args).map fun v => (v, H)
  | _ => none

/-- One operation. -/
def opV (cx : Cx) (calm ord : Bool) (op : Op) (env : List V) (H : Hp) : Option (V × Hp) :=
  match op with
  | .move x => (evO env x).map fun v => (v, H)
  | .assign x => (evO env x).map fun v => match x, v with | .const _, .nil => (.own H.length 0 0, H ++ [.rows 0 [] 0 true]) | _, v => (v, H)
  | .pick c a b => (evO env c).bind fun c => (evO env a).bind fun a => (evO env b).bind fun b => (vPick c a b).map fun v => (v, H)
  | .alloc t => (zeroOf cx.P t).bind fun z => if onesL (zeroCs z) then let p := matL (zeroCs z) H; some (.ptr p.2.length 0 0 0, p.2 ++ [.box p.1]) else none
  | .box _ x => (evO env x).bind fun v => (v.cells).bind fun vs => let p := matL vs H; some (.ptr p.2.length 0 0 0, p.2 ++ [.box p.1])
  | .build t parts => (mapO (evO env) parts.toList).bind fun l => (vBuild cx.P t l).map fun v => (v, H)
  | .buildSlice t len parts => (mapO (evO env) parts.toList).bind fun l => if calm && !pureL (l.map (·.2)) then none else vBuildSlice cx.P cx.wl t len l H
  | .insert t m k v => (evO env m).bind fun m => (evO env k).bind fun k => (evO env v).bind fun v => (vInsert cx.P cx.wl t m k v H).map fun H' => (.lit undef, H')
  | .load t a => (evO env a).bind fun a => (vLoad cx.P t a H).map fun v => (v, H)
  | .store t a v => (evO env a).bind fun a => (evO env v).bind fun v => (vStore cx.P cx.wl t a v H).map fun H' => (.lit undef, H')
  | .nilCheck x => (evO env x).bind fun x => (vNil x H).map fun v => (v, H)
  | .binOp op t x y _ => (evO env x).bind fun x => (evO env y).bind fun y => (vBin cx.P op t x y).map fun v => (v, H)
  | .unOp op _ x => (evO env x).bind fun x => (vUn op x).map fun v => (v, H)
  | .convert s d x => (evO env x).bind fun x => (vConv cx.P s d x).map fun v => (v, H)
  | .makeFunc f a b => (evOs env a.toList).bind fun a => (evOs env b.toList).map fun b => (.fn f a b, H)
  | .makeMap _ r => match r with | none => some (.map H.length, H ++ [.map []]) | some _ => none
  | .makeSlice t l c => (evO env l).bind fun l => (evO env c).bind fun c => vMakeSlice cx.P t l c H
  | .slice t x lo hi mx => (evO env x).bind fun x => (evOO env lo).bind fun lo => (evOO env hi).bind fun hi => (evOO env mx).bind fun mx => vSlice cx.P cx.wl calm t x lo hi mx H
  | .fieldAddr t x i => (evO env x).bind fun x => (vFieldAddr cx.P t x i).map fun v => (v, H)
  | .field t x i => (evO env x).bind fun x => (vField cx.P t x i).map fun v => (v, H)
  | .indexAddr t x i => (evO env x).bind fun x => (evO env i).bind fun i => (vIndexAddr cx.P t x i H).map fun v => (v, H)
  | .index t x i => (evO env x).bind fun x => (evO env i).bind fun i => (vIndex cx.P t x i).map fun v => (v, H)
  | .lookup t m k ok => (evO env m).bind fun m => (evO env k).bind fun k => (vLookup cx.P t m k ok H).map fun v => (v, H)
  | .extract x i => (evO env x).bind fun x => (vExtract x i).map fun v => (v, H)
  | .call c =>
    match c.callee with
    | .builtin b => (evOs env c.args.toList).bind fun a => bltV cx b c.argTypes a H
    | .value f => (evO env f).bind fun f => (evOs env c.args.toList).bind fun a => callV cx calm ord f a H
    | .invoke _ _ => none
  | _ => none

def putE (env : List V) (d : Option Tmp) (v : V) : List V :=
  match d with
  | some d => env.set d v
  | none => env

/-! ### Regions that draw their order -/

/-- What an operation may do among others whose order is open: nothing; look into memory; make new blocks; write. -/
inductive OKd where
  | plain | reads | makes | loud
  deriving DecidableEq

def opKd : Op → OKd
  | .assign x => match x with | .const _ => .makes | _ => .plain
  | .move _ | .pick .. | .build .. | .binOp .. | .unOp .. | .convert .. | .makeFunc .. | .extract .. | .field .. | .fieldAddr .. | .index .. => .plain
  | .load .. | .lookup .. | .nilCheck _ | .indexAddr .. | .slice .. => .reads
  | .call c =>
    match c.callee with
    | .builtin .len => .reads
    | .builtin .max => .plain
    | .builtin .min => .plain
    | .builtin .append => match c.args[0]? with | some (Operand.const _) => .makes | _ => .loud
    | .value _ => .makes
    | _ => .loud
  | .alloc _ | .box .. | .makeSlice .. | .makeMap .. | .buildSlice .. => .makes
  | _ => .loud

def kdAt (ops : Array Oper) (i : Nat) : OKd := match ops[i]? with | some o => opKd o.op | none => .loud

def ordered (bef : Array Nat) (i j : Nat) : Bool := i == j || (bef.getD i 0).testBit j || (bef.getD j 0).testBit i

/-- Ordered with all that write. -/
def ordL (ops : Array Oper) (bef : Array Nat) (i : Nat) : Bool := (List.range ops.size).all fun j => kdAt ops j != .loud || ordered bef i j
/-- Ordered with all that touch memory. -/
def ordA (ops : Array Oper) (bef : Array Nat) (i : Nat) : Bool := (List.range ops.size).all fun j => kdAt ops j == .plain || ordered bef i j

/-- What is known of a region ahead of its run: whether it draws, whose order is open. -/
structure Rg where
  calm : Nat → Bool
  ord : Nat → Bool
  strict : Nat → Bool
  loose : Nat → Bool
  any : Bool

def Rg.none : Rg := ⟨fun _ => false, fun _ => true, fun _ => false, fun _ => false, false⟩

def isMk : OKd → Bool
  | .makes => true
  | .loud => true
  | _ => false

def isAlloc : Op → Bool
  | .alloc _ => true
  | _ => false

/-- A new variable that is asked for among operations of which some make blocks or write, in no order with it: it is looked at first. -/
def isHoist (ops : Array Oper) (bef : Array Nat) (i : Nat) : Bool :=
  (match ops[i]? with | some o => isAlloc o.op && o.guard.isNone | none => false) && bef.getD i 0 == 0 &&
  !((List.range ops.size).all fun j => !isMk (kdAt ops j) || ordered bef i j)

/-- Ordered with all that make blocks or write, but those that are looked at first. -/
def ordM (ops : Array Oper) (bef : Array Nat) (i : Nat) : Bool := (List.range ops.size).all fun j => !isMk (kdAt ops j) || isHoist ops bef j || ordered bef i j

def isCall : Op → Bool
  | .call c => match c.callee with | .value _ => true | _ => false
  | _ => false
def callAt (ops : Array Oper) (i : Nat) : Bool := match ops[i]? with | some o => isCall o.op | none => false

def isLoose (ops : Array Oper) (bef : Array Nat) (i : Nat) : Bool := kdAt ops i == .reads && !ordL ops bef i
def anyLoose (ops : Array Oper) (bef : Array Nat) : Bool := (List.range ops.size).any (isLoose ops bef)
def isCalm (ops : Array Oper) (bef : Array Nat) (i : Nat) : Bool := anyLoose ops bef || !ordA ops bef i

/-- An operation that may change the heap. -/
def isEff (ops : Array Oper) (bef : Array Nat) (i : Nat) : Bool :=
  match kdAt ops i with
  | .plain => false
  | .reads => !isCalm ops bef i
  | .makes => !isHoist ops bef i && !(callAt ops i && !ordM ops bef i)
  | .loud => true

/-- A look at memory, among operations of which some may change it ahead of it, or behind it. -/
def isFloat (ops : Array Oper) (bef : Array Nat) (i : Nat) : Bool :=
  kdAt ops i == .reads && (List.range ops.size).any fun j => isEff ops bef j && !ordered bef i j

def rgOf (ops : Array Oper) : Rg :=
  let bef := Region.before ops
  ⟨isCalm ops bef, ordM ops bef, isFloat ops bef, isLoose ops bef, anyLoose ops bef⟩

/-- The order in which a region's operations are looked at. -/
def orderOf (ops : Array Oper) : List (Oper × Nat) :=
  let bef := Region.before ops
  ops.toList.zipIdx.filter (fun p => isHoist ops bef p.2) ++ ops.toList.zipIdx.filter (fun p => !isHoist ops bef p.2)

/-- The slots that an operation names, and its guard's. -/
def namesOf (ops : Array Oper) (o : Oper) : List Tmp :=
  o.dst.toList ++ o.op.operands.toList.filterMap (fun x => match x with | .tmp t => some t | _ => none) ++
    (match o.guard with | some (j, _) => ((ops[j]?).bind (·.dst)).toList | none => [])

def tmpsOk (ops : Array Oper) (bef : Array Nat) : Bool :=
  (List.range ops.size).all fun j =>
    match ops[j]? with
    | none => false
    | some o => (namesOf ops o).all fun t =>
      (List.range ops.size).all fun i => match ops[i]? with | none => false | some o' => o'.dst != some t || ordered bef i j

def regOk (ops : Array Oper) : Bool :=
  let bef := Region.before ops
  tmpsOk ops bef &&
  (List.range ops.size).all fun i =>
    match ops[i]? with
    | none => false
    | some o =>
      (match o.guard with | none => true | some (j, _) => (bef.getD i 0).testBit j) &&
      o.after.all (fun e => !Region.binds .any e || e.on < i) &&
      (!isEff ops bef i || (List.range ops.size).all fun j => !isEff ops bef j || ordered bef i j) &&
      (kdAt ops i != .loud || (List.range ops.size).all fun j => !isHoist ops bef j || ordered bef i j)

/-- What an operation looks at in memory. -/
def readOf : Op → Option Operand
  | .load _ a => some a
  | .nilCheck x => some x
  | .indexAddr _ x _ => some x
  | .slice _ x _ _ _ => some x
  | .lookup _ m _ _ => some m
  | .call c => match c.callee with | .builtin .len => c.args[0]? | _ => none
  | _ => none

/-- What it writes. -/
def writeOf : Op → Option Operand
  | .store _ a _ => some a
  | .insert _ m _ _ => some m
  | .call c => match c.callee with | .builtin .append => c.args[0]? | _ => none
  | _ => none

def idOf : V → Option Nat
  | .ptr i _ _ _ => some i
  | .own i _ _ => some i
  | .map i => some i
  | _ => none

def idAt (env : List V) (x : Option Operand) : Option Nat :=
  match x with
  | some x => match evO env x with | some v => idOf v | none => none
  | none => none

def strictOk (n0 : Nat) (strict : Bool) (op : Op) (env : List V) : Bool :=
  if strict then
    match idAt env (readOf op) with
    | some i => i < n0
    | none => true
  else true

/-- The blocks that were read out of order, and those that were written. -/
def logA (rg : Rg) (i : Nat) (op : Op) (env : List V) (a : List Nat × List Nat) : List Nat × List Nat :=
  if rg.any then
    if rg.loose i then match idAt env (readOf op) with | some k => (k :: a.1, a.2) | none => a
    else if opKd op = .loud then match idAt env (writeOf op) with | some k => (a.1, k :: a.2) | none => a
    else a
  else a

def apartA (a : List Nat × List Nat) : Bool := a.1.all fun i => !a.2.contains i

section run
variable {R : Type}

/-- A guard that is a bool: in each branch it is known then. -/
def onGuard (b : Bool) (want : Bool) (d : Tmp) (env : List V) (run skip : List V → Option R) : Option R :=
  bif b then (if want then run else skip) (env.set d (.lit (.bool true))) else (if want then skip else run) (env.set d (.lit (.bool false)))

def opsK (cx : Cx) (n0 : Nat) (rg : Rg) (ops : Array Oper) : List (Oper × Nat) → List Nat × List Nat → (St → Option R) → St → Option R
  | [], a, K, s => if rg.any then (if apartA a then K s else none) else K s
  | (o, i) :: rest, a, K, s =>
    let run (env : List V) : Option R :=
      if strictOk n0 (rg.strict i) o.op env then
        (opV cx (rg.calm i) (rg.ord i) o.op env s.H).bind fun p => opsK cx n0 rg ops rest (logA rg i o.op env a) K ⟨putE env o.dst p.1, p.2⟩
      else none
    let skip (env : List V) : Option R := opsK cx n0 rg ops rest a K ⟨putE env o.dst (.lit undef), s.H⟩
    match o.guard with
    | none => run s.env
    | some (j, want) =>
      match (ops[j]?).bind (·.dst) with
      | none => none
      | some d =>
        match s.env[d]? with
        | some (.lit (.bool b)) => onGuard b want d s.env run skip
        | some (.lit (.tuple _)) => skip s.env
        | _ => none

/-- Slots that a piece of code reads first, of those from n on; and those that it writes. -/
def opTmps (o : Oper) : List Tmp := o.op.operands.toList.filterMap (fun x => match x with | .tmp t => some t | _ => none)

def rwOps : List Oper → List Tmp × List Tmp → List Tmp × List Tmp
  | [], s => s
  | o :: os, (rf, wr) =>
    let rf' := (opTmps o).foldl (fun rf t => if wr.contains t || rf.contains t then rf else t :: rf) rf
    rwOps os (rf', match o.dst with | some d => if wr.contains d then wr else d :: wr | none => wr)

def rwCode : Code → List Tmp × List Tmp → List Tmp × List Tmp
  | .region _ ops _, s => rwOps ops.toList s
  | .seq a b, s => rwCode b (rwCode a s)
  | .cond c a b, (rf, wr) =>
    let rf' := match c with | .tmp t => if wr.contains t || rf.contains t then rf else t :: rf | _ => rf
    rwCode b (rwCode a (rf', wr))
  | .block _ a, s => rwCode a s
  | .loop a, s => rwCode a s
  | .scope a, s => rwCode a s
  | .rangeFunc _ _ a b, s => rwCode b (rwCode a s)
  | _, s => s

/-- Behind a round: scratch slots are forgotten, and what was made in it. 'all': those, too, that the next round reads first. -/
def tidyE (n0 : Nat) (drop : Tmp → Bool) : Nat → List V → List V
  | _, [] => []
  | t, v :: vs => (if drop t then .junk else v.kill n0) :: tidyE n0 drop (t + 1) vs

def dropT (named : Nat) (rw : List Tmp × List Tmp) (last : Bool) (t : Tmp) : Bool :=
  named ≤ t && rw.2.contains t && (last || !rw.1.contains t)

def tidy (n0 : Nat) (drop : Tmp → Bool) (s : St) : St := ⟨tidyE n0 drop 0 s.env, cutH n0 s.H⟩

def iterK (one : (Out → St → Option R) → St → Option R) (n0 : Nat) (named : Nat) (rw : List Tmp × List Tmp) (K : Out → St → Option R) : Nat → St → Option R
  | 0, _ => none
  | n + 1, s => one (fun o s' => match o with
      | .norm => iterK one n0 named rw K n (tidy n0 (dropT named rw false) s')
      | .ret => K .ret s'
      | o => K o (tidy n0 (dropT named rw true) s')) s

def hasLabel (l : Nat) : Code → Bool
  | .seq a b => hasLabel l a || hasLabel l b
  | .label l' => l' == l
  | _ => false

/-- Is there a label of this number ahead of which no code of the same would be found? -/
def setParams (env : List V) : List Tmp → List V → List V
  | t :: ts, v :: vs => setParams (env.set t v) ts vs
  | _, _ => env

/-- The code, from its head on ('none'), or from a label on. -/
def execK (cx : Cx) : Code → Option Nat → (Out → St → Option R) → St → Option R
  | .skip, none, K, s => K .norm s
  | .region _ ops draw, none, K, s =>
    if draw then
      if regOk ops then opsK cx s.H.length (rgOf ops) ops (orderOf ops) ([], []) (K .norm) s else none
    else opsK cx s.H.length Rg.none ops ops.toList.zipIdx ([], []) (K .norm) s
  | .seq a b, none, K, s => execK cx a none (fun o s' => match o with | .norm => execK cx b none K s' | o => K o s') s
  | .seq a b, some l, K, s =>
    if hasLabel l a then execK cx a (some l) (fun o s' => match o with | .norm => execK cx b none K s' | o => K o s') s
    else execK cx b (some l) K s
  | .cond c a b, none, K, s =>
    match evO s.env c with
    | some (.lit (.bool t)) => bif t then execK cx a none K s else execK cx b none K s
    | _ => none
  | .block id a, none, K, s => execK cx a none (fun o s' => match o with | .exit id' => if id' = id then K .norm s' else K (.exit id') s' | o => K o s') s
  | .loop a, none, K, s => iterK (execK cx a none) s.H.length (cx.M.named cx.fid) (rwCode a ([], [])) K cx.n (tidy s.H.length (dropT (cx.M.named cx.fid) (rwCode a ([], [])) false) s)
  | .exit id, none, K, s => K (.exit id) s
  | .goto l, none, K, s => K (.goto l) s
  | .ret, none, K, s => K .ret s
  | .label _, none, K, s => K .norm s
  | .label l', some l, K, s => if l' == l then K .norm s else none
  | .scope a, none, K, s =>
    execK cx a none (fun o s' => match o with
      | .goto l => if hasLabel l a then execK cx a (some l) (fun o' s'' => match o' with | .goto l' => if hasLabel l' a then none else K (.goto l') s'' | o' => K o' s'') s' else K (.goto l) s'
      | o => K o s') s
  | .rangeFunc f ps a b, none, K, s =>
    if cx.round || !Nat.ble cx.wl s.H.length then none else
    match evO s.env f with
    | some (.fn (.func g) [] caps) =>
      (cx.call cx.wl g (.yld s.H.length :: caps) (s.H ++ [.loop { st := .ready, pending := none, fn := cx.fid, tmps := s.env, params := ps.toList, assign := a, body := b }])).bind fun p =>
        match p.2[s.H.length]? with
        | some (.loop l) =>
          if l.st = .busy then none else
          let s' : St := ⟨s.env, cutH s.H.length p.2⟩
          match l.pending with
          | none => K .norm s'
          | some .ret => K .ret s'
          | some (.exit id) => K (.exit id) s'
          | some (.goto id) => K (.goto id) s'
          | some _ => none
        | _ => none
    | _ => none
  | _, _, _, _ => none

end run

def resV (P : Program) (r : ResultVar) (s : St) : Option V :=
  match r with
  | .tmp t => s.env[t]?
  | .cell a t => match s.env[a]? with | some x => vLoad P t x s.H | none => none

def resVs (P : Program) : List ResultVar → St → Option (List V)
  | [], _ => some []
  | r :: rs, s => (resV P r s).bind fun v => (resVs P rs s).bind fun vs => some (v :: vs)

def resultsV (P : Program) (rs : List ResultVar) (s : St) : Option V :=
  (resVs P rs s).bind fun vs => match vs with | [v] => some v | vs => some (.tup vs)

/-- The body of a function. -/
def bodyV (cx : Cx) (fn : Func) (args : List V) (H : Hp) : Option (V × Hp) :=
  match fn.body with
  | none => none
  | some c =>
    execK cx c none (fun o s => match o with
      | .norm => (resultsV cx.P fn.results.toList s).map fun v => (v, s.H)
      | .ret => (resultsV cx.P fn.results.toList s).map fun v => (v, s.H)
      | _ => none) ⟨args ++ List.replicate (fn.ntmps - args.length) (.lit undef), H⟩

def outCode : Out → Option Code
  | .norm => none
  | .exit id => some (.exit id)
  | .goto l => some (.goto l)
  | .ret => some .ret

/-- One round of a loop over a function. -/
def roundV (cx : Cx) (id : Nat) (l : Lp) (args : List V) (H : Hp) : Option (V × Hp) :=
  if l.st = .ready ∧ args.length = l.params.length ∧ Nat.ble cx.wl id = true then
    execK cx l.assign none (fun o s => match o with
      | .norm =>
        match s.H[id]? with
        | some (.loop l') =>
          if l'.st = .ready then
          execK cx l.body none (fun o' s' =>
            match s'.H[id]? with
            | some (.loop l'') =>
              some (.lit (.bool (outCode o').isNone), cutH H.length (s'.H.set id (.loop { l'' with st := if (outCode o').isNone then .ready else .done, pending := outCode o' })))
            | _ => none) ⟨s.env, s.H.set id (.loop { l' with st := .busy })⟩
          else none
        | _ => none
      | _ => none) ⟨setParams l.tmps l.params args, H⟩
  else none

mutual
/-- A function's result, by at most so many calls within one another. 'wl': what lies ahead of that block is only read. -/
def evF (P : Program) (M : Mode) : Nat → Nat → FuncId → List V → Hp → Option (V × Hp)
  | 0, _, _, _, _ => none
  | k + 1, wl, f, args, H =>
    match M.orc f with
    | some o => if wl = 0 then o args H else none
    | none =>
      match P.funcs[f]? with
      | none => none
      | some fn => bodyV { P, M, fid := f, round := false, wl, call := evF P M k, yld := evY P M k, n := k } fn args H
def evY (P : Program) (M : Mode) : Nat → Nat → Nat → List V → Hp → Option (V × Hp)
  | 0, _, _, _, _ => none
  | k + 1, wl, l, args, H =>
    match H[l]? with
    | some (.loop r) => roundV { P, M, fid := r.fn, round := true, wl, call := evF P M k, yld := evY P M k, n := k } l r args H
    | _ => none
end

end Go.Ab
