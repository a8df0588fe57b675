import Derived.OrdersIn
import Derived.RangeFuncLeaves
import Derived.RangeFuncRecord
import Derived.KernelRfl
import Derived.Laws.Sem
import Derived.Below
import Derived.Laws.Append
import Derived.Laws.MakeOwn
import Derived.Laws.CopyRow
import Derived.Laws.Cells
import Derived.Laws.Tables
import Derived.Laws.StructEq
import Derived.Great.BuildSlice
import Derived.ChangeKeysEq
import Derived.Laws.AppendOwn
import Derived.Laws.Slices
import Derived.Laws.NewFold
set_option linter.unusedVariables false
set_option linter.unusedSimpArgs false
namespace Go.Ab
abbrev Tye:=List (Int×Int×Int)
abbrev Tyt:=List (Int×List Int)
abbrev Tyw:=Int×List (Int×Int×Int)×(Int×Int×Int×Int×Int×Int×Int)×Int×Int
abbrev Tys:=Int×List Int×Int×Int×Int×Int×Int×Int×Int
abbrev Typ:=(Int×Int×Int×Int)×Tyt×List Int×List Tyw×List Tys
theorem aI {a b:Prop} (x:a) (y:b):a∧b:=⟨x,y⟩
inductive V where
 | lit (v:Value)
 | ro (rows:List (List V))
 | nil
 | any
 | junk
 | agg (cells:List V)
 | tup (vs:List V)
 | fn (f:Fn) (first caps:List V)
 | yld (l:Nat)
 | rp (cells:List V)
 | ptr (id gen row off:Nat)
 | own (id gen len:Nat)
 | map (id:Nat)
 deriving Inhabited
structure Lp where
 st:LoopState
 pending:Option Code
 fn:FuncId
 tmps:List V
 params:List Tmp
 assign:Code
 body:Code
 deriving Inhabited
inductive B where
 | rows (esz:Nat) (rs:List (List V)) (gen:Nat) (live:Bool)
 | box (cs:List V)
 | map (es:List (Value×V))
 | dead
 | loop (l:Lp)
 deriving Inhabited
abbrev Hp:=List B
mutual
def V.pure:V→Bool
 | .lit _=>true
 | .ro _=>true
 | .nil=>true
 | .any=>true
 | .junk=>true
 | .agg cs=>aW cs
 | .tup cs=>aW cs
 | .fn _ a b=>aW a&&aW b
 | .yld _=>false
 | .rp _=>true
 | .ptr .. => false
 | .own .. => false
 | .map _=>false
def aW:List V→Bool
 | []=>true
 | v::vs=>v.pure&&aW vs
end
mutual
def V.kill (n:Nat):V→V
 | .lit v => .lit v
 | .ro r => .ro r
 | .nil => .nil
 | .any => .any
 | .junk => .junk
 | .agg cs => .agg (eZ n cs)
 | .tup cs => .tup (eZ n cs)
 | .fn f a b => .fn f (eZ n a) (eZ n b)
 | .yld l=>if l<n then .yld l else .any
 | .rp c => .rp c
 | .ptr i g r o=>if i<n then .ptr i g r o else .any
 | .own i g l=>if i<n then .own i g l else .any
 | .map i=>if i<n then .map i else .any
def eZ (n:Nat):List V→List V
 | []=>[]
 | v::vs=>v.kill n::eZ n vs
end
mutual
def V.shift (k:Nat):V→V
 | .lit v => .lit v
 | .ro r => .ro r
 | .nil => .nil
 | .any => .any
 | .junk => .junk
 | .agg cs => .agg (cX k cs)
 | .tup cs => .tup (cX k cs)
 | .fn f a b => .fn f (cX k a) (cX k b)
 | .yld l => .yld (k+l)
 | .rp c => .rp c
 | .ptr i g r o => .ptr (k+i) g r o
 | .own i g l => .own (k+i) g l
 | .map i => .map (k+i)
def cX (k:Nat):List V→List V
 | []=>[]
 | v::vs=>v.shift k::cX k vs
end
def dq (rs:List (List V)):Bool:=rs.all aW
def nP (n:Nat) (rs:List (List V)):List (List V):=if dq rs then rs else rs.map (eZ n)
def ml (k:Nat) (rs:List (List V)):List (List V):=if dq rs then rs else rs.map (cX k)
def B.kill (n:Nat):B→B
 | .rows e rs g l => .rows e (nP n rs) g l
 | .box cs => .box (eZ n cs)
 | .map es => .map (es.map fun e=>(e.1,e.2.kill n))
 | .dead => .dead
 | .loop l => .loop { l with tmps:=eZ n l.tmps }
def B.shift (k:Nat):B→B
 | .rows e rs g l => .rows e (ml k rs) g l
 | .box cs => .box (cX k cs)
 | .map es => .map (es.map fun e=>(e.1,e.2.shift k))
 | .dead => .dead
 | .loop l => .loop { l with tmps:=cX k l.tmps }
def pX (n:Nat) (H:Hp):Hp:=(H.take n).map (B.kill n)
def oK:Value→V
 | .slice none 0 0 => .nil
 | v => .lit v
def f9:Value→V
 | .agg cs=>if cs.toList.all Value.oneCell' then .agg (cs.toList.map oK) else .junk
 | v=>oK v
def b8 (z:Value):List V:=z.cells.toList.map oK
def V.one:V→Bool
 | .lit v=>v.oneCell'
 | .junk=>false
 | .agg _=>false
 | .tup _=>false
 | _=>true
def bg (l:List V):Bool:=l.all V.one
def V.cells:V→Option (List V)
 | .agg cs=>some cs
 | v=>if v.one then some [v] else none
def bG:List V→Hp→List V×Hp
 | [],H=>([],H)
 | .nil::vs,H=>let p:=bG vs (H++[.rows 0 [] 0 true]);(.own H.length 0 0::p.1,p.2)
 | v::vs,H=>let p:=bG vs H;(v::p.1,p.2)
def fzC (wl:Nat) (v:V) (H:Hp):Option (V×Hp):=
 match v with
 | .own id g len=>
  match H[id]? with
  | some (.rows e rs g' _)=>if g=g'∧len≤rs.length then if dq rs&&Nat.ble wl id then some (.ro (rs.take len),H.set id (.rows e rs g' false)) else none else none
  | _=>none
 | v=>some (v,H)
def fzL (wl:Nat) (nl:Bool):List V→Hp→Option (List V×Hp)
 | [],H=>some ([],H)
 | v::vs,H=>
  (match v with
   | V.nil=>if nl then some (V.ro [],H) else some (V.nil,H)
   | v=>fzC wl v H).bind fun p=>(fzL wl nl vs p.2).bind fun q=>some (p.1::q.1,q.2)
def fzA (wl:Nat) (v:V) (H:Hp):Option (V×Hp):=
 match v with
 | .agg cs=>(fzL wl true cs H).bind fun p=>some (.agg p.1,p.2)
 | v=>fzC wl v H
def oN (wl:Nat):List V→Hp→Option (List V×Hp)
 | [],H=>some ([],H)
 | v::vs,H=>(fzA wl v H).bind fun p=>(oN wl vs p.2).bind fun q=>some (p.1::q.1,q.2)
def Gx (wl:Nat) (v:V) (H:Hp):Option (V×Hp):=
 match v with
 | .nil=>some (.ro [],H)
 | v=>fzA wl v H
def nX (wl:Nat):List V→Hp→Option (List V×Hp)
 | [],H=>some ([],H)
 | v::vs,H=>(Gx wl v H).bind fun p=>(nX wl vs p.2).bind fun q=>some (p.1::q.1,q.2)
def fzR (wl:Nat) (v:V) (H:Hp):Option (V×Hp):=
 match v with
 | .tup vs=>(nX wl vs H).bind fun p=>some (.tup p.1,p.2)
 | v=>Gx wl v H
section types
variable (P:Program)
def aR (t:TypeId):Nat:=P.cellsOf t
def fM (t:TypeId):Option Value:=(P.info? t).bind (·.zero)
def akq (t:TypeId):Option Bool:=match P.underlying t with | some (.struct _)=>some true | some (.array _ _)=>some true | some _=>some false | none=>none
def mF (t:TypeId):Option TypeId:=match P.underlying t with | some (.slice e)=>some e | _=>none
def K4 (t:TypeId) (i:Nat):Option Field:=match P.underlying t with | some (.struct fs)=>fs[i]? | _=>none
def FK (t:TypeId):Option IntKind:=match P.underlying t with | some (.int k)=>some k | _=>none
def K0 (t:TypeId):Bool := !P.stoodInHeld t && !P.eqGuardType P.depth t
def A8 (t:TypeId):Option (List Field):=match P.underlying t with | some (.struct fs)=>some fs.toList | _=>none
def rM (t:TypeId):Bool:=match P.underlying t with | some .bool=>true | _=>false
def eqT:List Field→Nat→List V→List V→Option Bool
 | [],_,[],[]=>some true
 | f::fs,k,.lit (.int ka a)::xs,.lit (.int kb b)::ys=>
  if f.name ≠ "_" ∧ f.offset = k ∧ (FK P f.type).isSome = true ∧ ka = kb then (eqT fs (k + 1) xs ys).map fun r => (a == b) && r else none
 | f::fs,k,.lit (.bool a)::xs,.lit (.bool b)::ys=>
  if f.name ≠ "_" ∧ f.offset = k ∧ rM P f.type = true then (eqT fs (k + 1) xs ys).map fun r => (a == b) && r else none
 | _,_,_,_=>none
end types
def fp (op : BinOp) (x y : Value) : Option Value :=
  match x, y with
  | .int k a, .int k' b =>
    match op with
    | .shl => if b < 0 then none else some (.int k (k.wrap (a * 2 ^ (min b.toNat k.bits))))
    | .shr => if b < 0 then none else some (.int k (a.fdiv (2 ^ (min b.toNat k.bits))))
    | .add => if k = k' then some (.int k (k.wrap (a + b))) else none
    | .sub => if k = k' then some (.int k (k.wrap (a - b))) else none
    | .mul => if k = k' then some (.int k (k.wrap (a * b))) else none
    | .quo => if k = k' then if b = 0 then none else some (.int k (k.wrap (a.tdiv b))) else none
    | .rem => if k = k' then if b = 0 then none else some (.int k (a.tmod b)) else none
    | .and => if k = k' then some (.int k (k.wrap (BitVec.ofInt k.bits a &&& BitVec.ofInt k.bits b).toNat)) else none
    | .or => if k = k' then some (.int k (k.wrap (BitVec.ofInt k.bits a ||| BitVec.ofInt k.bits b).toNat)) else none
    | .xor => if k = k' then some (.int k (k.wrap (BitVec.ofInt k.bits a ^^^ BitVec.ofInt k.bits b).toNat)) else none
    | .andNot => if k = k' then some (.int k (k.wrap (BitVec.ofInt k.bits a &&& ~~~ BitVec.ofInt k.bits b).toNat)) else none
    | .eql => if k = k' then some (.bool (a == b)) else none
    | .neq => if k = k' then some (.bool (a != b)) else none
    | .lss => if k = k' then some (.bool (a < b)) else none
    | .leq => if k = k' then some (.bool (a ≤ b)) else none
    | .gtr => if k = k' then some (.bool (a > b)) else none
    | .geq => if k = k' then some (.bool (a ≥ b)) else none
  | _, _ => none
def kZ (P:Program) (op:BinOp) (t:TypeId) (x y:V):Option V:=
 match x,y with
 | .lit (.int k a),.lit (.int k' b)=>(fp op (.int k a) (.int k' b)).map .lit
 | .lit (.bool a),.lit (.bool b)=>
  match op with
  | .eql=>if rM P t then some (.lit (.bool (a==b))) else none
  | .neq=>if rM P t then some (.lit (.bool (!(a==b)))) else none
  | _=>none
 | .agg xs,.agg ys=>
  match op with
  | .eql=>if K0 P t then (A8 P t).bind fun fs=>(eqT P fs 0 xs ys).map fun r => .lit (.bool r) else none
  | .neq=>if K0 P t then (A8 P t).bind fun fs=>(eqT P fs 0 xs ys).map fun r => .lit (.bool (!r)) else none
  | _=>none
 | _,_=>none
def vUn (op:UnOp) (x:V):Option V:=
 match op,x with
 | .not,.lit (.bool b)=>some (.lit (.bool !b))
 | .neg,.lit (.int k n)=>some (.lit (.int k (k.wrap (0 - n))))
 | _,_=>none
def C5 (P:Program) (src dst:TypeId) (x:V):Option V:=
 match x with
 | .lit (.int _ n)=>match FK P dst with | some k=>if (FK P src).isSome then some (.lit (.int k (k.wrap n))) else none | none=>none
 | _=>none
def EY (c a b:V):Option V:=
 match c with
 | .lit (.bool t)=>some (bif t then a else b)
 | _=>none
def aS (P:Program) (t:TypeId) (cs:List V):Option V:=
 match akq P t with
 | some true=>if aR P t≤cs.length then some (.agg (cs.take (aR P t))) else none
 | some false=>cs.head?
 | none=>none
def o8 (P:Program) (t:TypeId) (a:V) (H:Hp):Option V:=
 match a with
 | .rp cs=>aS P t cs
 | .ptr id g row off=>
  match H[id]? with
  | some (.box cs)=>if g=0∧row=0 then aS P t (cs.drop off) else none
  | some (.rows _ rs g' _)=>if g=g' then (rs[row]?).bind fun r=>aS P t (r.drop off) else none
  | _=>none
 | _=>none
def spl:List V→Nat→List V→List V
 | cs,_,[]=>cs
 | cs,off,v::vs=>spl (cs.set off v) (off+1) vs
def rx (P:Program) (wl:Nat) (t:TypeId) (a v:V) (H:Hp):Option Hp:=
 match a,v.cells with
 | .ptr id g row off,some vs=>
  if Nat.ble wl id then
   match H[id]? with
   | some (.box cs)=>
    if g=0∧row=0∧aR P t≠0∧vs.length=aR P t∧off+vs.length≤cs.length then
     let p:=bG vs H
     some (p.2.set id (.box (spl cs off p.1)))
    else none
   | some (.rows _ _ _ _)=>
    (fzL wl true vs H).bind fun p=>
     match p.2[id]? with
     | some (.rows e rs g' true)=>
      if g=g'∧aR P t≠0∧vs.length=aR P t then
       (rs[row]?).bind fun r=>if off+p.1.length≤r.length then some (p.2.set id (.rows e (rs.set row (spl r off p.1)) g' true)) else none
      else none
     | _=>none
   | _=>none
  else none
 | _,_=>none
def OD (x:V) (H:Hp):Option V:=
 match x with
 | .rp cs=>some (.rp cs)
 | .fn f a b=>match f with | .func _=>some (.fn f a b) | _=>none
 | .ptr id g row off=>
  match H[id]? with
  | some (.box _)=>if g=0 then some (.ptr id g row off) else none
  | some (.rows _ _ g' _)=>if g=g' then some (.ptr id g row off) else none
  | _=>none
 | _=>none
def ag (P:Program) (t:TypeId) (x:V) (i:Nat):Option V:=
 match K4 P t i with
 | some f=>
  if aR P f.type=0 then none else
  match x with
  | .rp cs=>some (.rp (cs.drop f.offset))
  | .ptr id g row off=>some (.ptr id g row (off+f.offset))
  | _=>none
 | none=>none
def Bc (P:Program) (t:TypeId) (x:V) (i:Nat):Option V:=
 match K4 P t i,x with
 | some f,.agg cs=>aS P f.type (cs.drop f.offset)
 | _,_=>none
def aA (P:Program) (t:TypeId) (x i:V) (H:Hp):Option V:=
 match i with
 | .lit (.int _ n)=>
  if 0≤n then
   match P.underlying t with
   | some (.slice e)=>
    match x with
    | .ro rows=>(rows[n.toNat]?).bind fun r=>if r.length=aR P e∧aR P e≠0 then some (.rp r) else none
    | .own id g len=>
     match H[id]? with
     | some (.rows s _ g' _)=>if g=g'∧s=aR P e∧aR P e≠0 then if n.toNat<len then some (.ptr id g n.toNat 0) else none else none
     | _=>none
    | _=>none
   | some (.array len e)=>
    if n<len∧aR P e≠0 then
     match x with
     | .ptr id g row off=>some (.ptr id g row (off+n.toNat*aR P e))
     | .rp cs=>some (.rp (cs.drop (n.toNat*aR P e)))
     | _=>none
    else none
   | _=>none
  else none
 | _=>none
def Do (P:Program) (t:TypeId) (x i:V):Option V:=
 match i,x with
 | .lit (.int _ n),.agg cs=>
  match P.underlying t with
  | some (.array len e)=>if 0≤n∧n<len then aS P e (cs.drop (n.toNat*aR P e)) else none
  | _=>none
 | _,_=>none
def bnd (x:Option V) (d:Nat):Option Nat:=
 match x with
 | none=>some d
 | some (.lit (.int _ n))=>if 0≤n then some n.toNat else none
 | _=>none
def cy (P:Program) (wl:Nat) (calm:Bool) (t:TypeId) (x:V) (lo hi mx:Option V) (H:Hp):Option (V×Hp):=
 match mF P t with
 | none=>none
 | some e=>
  match x with
  | .ro rows=>
   (bnd hi rows.length).bind fun h=>(bnd lo 0).bind fun l=>(bnd mx h).bind fun m=>
    if aR P e≠0∧l≤h∧h≤m∧m≤rows.length∧(mx.isSome→hi.isSome)∧rows.all (fun r=>r.length==aR P e) then some (.ro ((rows.take h).drop l),H) else none
  | .own id g len=>
   match mx,lo with
   | none,none=>
    (bnd hi len).bind fun h=>
     match H[id]? with
     | some (.rows _ _ g' _)=>if aR P e≠0∧h≤len∧g=g' then some (.own id g h,H) else none
     | _=>none
   | none,some lo=>
    (bnd hi len).bind fun h=>(bnd (some lo) 0).bind fun l=>
     match H[id]? with
     | some (.rows s rs g' _)=>if aR P e≠0∧calm=false∧Nat.ble wl id=true∧l≤h∧h≤len∧len≤rs.length∧g=g'∧s=aR P e∧dq rs=true then some (.ro ((rs.take h).drop l),H.set id (.rows s rs g' false)) else none
     | _=>none
   | _,_=>none
  | _=>none
def bZ (x:V) (H:Hp):Option (List (List V)):=
 match x with
 | .ro rows=>some rows
 | .nil=>some []
 | .own id g len=>match H[id]? with | some (.rows _ rs g' _)=>if g=g'∧len≤rs.length then some (rs.take len) else none | _=>none
 | _=>none
def cr (size:Nat) (rs:List (List V)):Bool:=rs.all fun r=>r.length==size
def JK (P : Program) (e : TypeId) : Bool := match fM P e with | some z => z.cells.size == aR P e && aR P e != 0 && P.bytesOf e != 0 | none => false
def bA (P:Program) (wl:Nat) (t:TypeId) (s x:V) (H:Hp):Option (V×Hp):=
 match mF P t with
 | none=>none
 | some e=>
  (bZ x H).bind fun xs=>
   if cr (aR P e) xs&&JK P e then
    match s with
    | .nil=>if xs.length*P.bytesOf e≤70368744177664 then some (.own H.length 0 xs.length,H++[.rows (aR P e) xs 0 true]) else none
    | .own id g len=>
     match H[id]? with
     | some (.rows sz rs g' live)=>
      if Nat.ble wl id=true∧g=g'∧len≤rs.length∧(live=true∨len=rs.length)∧(sz=aR P e∨sz=0)∧(len+xs.length)*P.bytesOf e≤70368744177664 then
       some (.own id (g+1) (len+xs.length),H.set id (.rows (aR P e) (rs.take len++xs) (g+1) live))
      else none
     | _=>none
    | _=>none
   else none
def AM (x:V) (H:Hp):Option V:=
 match x with
 | .ro rows=>some (.lit (.int .i64 rows.length))
 | .nil=>some (.lit (.int .i64 0))
 | .own id g len=>
  match H[id]? with
  | some (.rows _ _ g' _)=>if g=g' then some (.lit (.int .i64 len)) else none
  | _=>none
 | _=>none
def lx (isMax:Bool):List V→Option V
 | [.lit (.int k a),.lit (.int k' b)]=>if k=k' then some (.lit (.int k (bif isMax then (if b>a then b else a) else (if b<a then b else a)))) else none
 | _=>none
def aX (P : Program) (t : TypeId) (l c : V) (H : Hp) : Option (V × Hp) :=
  match mF P t with
  | none => none
  | some e =>
    match l, c with
    | .lit (.int .i64 a), .lit (.int .i64 b) =>
      if a = b ∧ 0 ≤ a ∧ a ≤ 9223372036854775807 ∧ a * P.bytesOf e ≤ 70368744177664 then
        match fM P e with
        | some z => if bg (b8 z) && (b8 z).length == aR P e && aR P e != 0 then some (.own H.length 0 a.toNat, H ++ [.rows (aR P e) (List.replicate a.toNat (fzZ (b8 z))) 0 true]) else none
        | none => none
      else none
    | _, _ => none
where
 fzZ:List V→List V
  | []=>[]
  | .nil::vs => .ro []::fzZ vs
  | v::vs=>v::fzZ vs
def RL (place:Nat→Option (Nat×Nat)) (cells:List V):List (Nat×V)→Option (List V)
 | []=>some cells
 | (i,v)::rest=>
  match place i with
  | none=>none
  | some (off,size)=>
   match v.cells with
   | some vs=>if vs.length=size∧off+vs.length≤cells.length then RL place (spl cells off vs) rest else none
   | none=>none
def Pw (ρ:Operand→Option V):List (Nat×Operand)→Option (List (Nat×V))
 | []=>some []
 | (i,x)::r=>(ρ x).bind fun v=>(Pw ρ r).bind fun l=>some ((i,v)::l)
def dn (P:Program) (t:TypeId) (parts:List (Nat×V)):Option V:=
 match fM P t,P.underlying t with
 | some z,some (.struct fs)=>if bg (b8 z)&&fs.toList.all (fun f=>(P.info? f.type).isSome) then (RL (fun i=>(fs[i]?).map fun f=>(f.offset,aR P f.type)) (b8 z) parts).map .agg else none
 | some z,some (.array _ e)=>if bg (b8 z)&&(P.info? e).isSome then (RL (fun i=>some (i*aR P e,aR P e)) (b8 z) parts).map .agg else none
 | _,_=>none
def gf (wl size:Nat):List (Nat×V)→List (List V)→Hp→Option (List (List V)×Hp)
 | [],rs,H=>some (rs,H)
 | (i,v)::rest,rs,H=>
  match v.cells with
  | some vs=>(fzL wl true vs H).bind fun p=>if i<rs.length∧p.1.length=size then gf wl size rest (rs.set i p.1) p.2 else none
  | none=>none
def aL (P:Program) (wl:Nat) (t:TypeId) (len:Nat) (parts:List (Nat×V)) (H:Hp):Option (V×Hp):=
 match mF P t with
 | none=>none
 | some e=>
  match fM P e with
  | some z=>
   if aR P e≠0∧len*aR P e≤16777216∧bg (b8 z)=true∧(b8 z).length=aR P e then
    (gf wl (aR P e) parts (List.replicate len (aX.fzZ (b8 z))) H).bind fun p=>
     some (.own p.2.length 0 len,p.2++[.rows (aR P e) p.1 0 true])
   else none
  | none=>none
def wv (a b:Value):Bool:=
 match a,b with
 | .int k x,.int k' y=>k==k'&&x==y
 | _,_=>false
def lJ (k:Value) (v:V):List (Value×V)→List (Value×V)
 | []=>[(k,v)]
 | e::es=>if wv k e.1 then (k,v)::es else e::lJ k v es
def lH (k:Value) (z:V):List (Value×V)→V×Bool
 | []=>(z,false)
 | e::es=>bif wv k e.1 then (e.2,true) else lH k z es
def li (kk:IntKind):Value→Bool
 | .int k _=>k==kk
 | _=>false
def lg (P:Program) (wl:Nat) (t:TypeId) (m k v:V) (H:Hp):Option Hp:=
 match P.underlying t with
 | some (.map kt _)=>
  if (FK P kt).isSome then
   match m,k with
   | .map id,.lit (.int kk n)=>match H[id]? with | some (.map es)=>if es.all (fun e=>li kk e.1)&&(FK P kt==some kk)&&Nat.ble wl id then some (H.set id (.map (lJ (.int kk n) v es))) else none | _=>none
   | _,_=>none
  else none
 | _=>none
def kq (P:Program) (t:TypeId) (m k:V) (ok:Bool) (H:Hp):Option V:=
 match P.underlying t with
 | some (.map kt et)=>
  if (FK P kt).isSome then
   match fM P et,m,k with
   | some z,.map id,.lit (.int kk n)=>
    match H[id]? with
    | some (.map es)=>
     if es.all (fun e=>li kk e.1)&&(FK P kt==some kk) then
      some (bif ok then .tup [(lH (.int kk n) (f9 z) es).1,.lit (.bool (lH (.int kk n) (f9 z) es).2)] else (lH (.int kk n) (f9 z) es).1)
     else none
    | _=>none
   | _,_,_=>none
  else none
 | _=>none
def lP (x:V) (i:Nat):Option V:=
 match x with
 | .tup vs=>vs[i]?
 | _=>none
structure Mode where
 orc:FuncId→Option (List V→Hp→Option (V×Hp))
 keepRes:FuncId→FuncId→Option (Nat→Bool)
 keepArg:FuncId→Bool
 named:FuncId→Nat
structure Cx where
 P:Program
 M:Mode
 fid:FuncId
 round:Bool
 wl:Nat
 call:Nat→FuncId→List V→Hp→Option (V×Hp)
 yld:Nat→Nat→List V→Hp→Option (V×Hp)
 n:Nat
structure St where
 env:List V
 H:Hp
inductive Out where
 | norm
 | exit (id:Nat)
 | goto (l:Nat)
 | ret
def evO (env:List V):Operand→Option V
 | .tmp t=>env[t]?
 | .const v=>some (f9 v)
 | .func f=>some (.fn (.func f) [] [])
 | .global _=>none
def ES (env:List V):List Operand→Option (List V)
 | []=>some []
 | x::xs=>(evO env x).bind fun v=>(ES env xs).bind fun vs=>some (v::vs)
def O3 (env:List V):Option Operand→Option (Option V)
 | none=>some none
 | some x=>(evO env x).map some
def uT (v:V) (H:Hp) (acc:Hp):Option (V×Hp×Hp):=
 match v with
 | .own id g len=>
  match H[id]? with
  | some (.rows e rs g' live)=>if g=g'∧len≤rs.length∧(live=true∨len=rs.length)∧dq rs=true then some (.own acc.length 0 len,H.set id .dead,acc++[.rows e (rs.take len) 0 live]) else none
  | _=>none
 | .nil=>some (.ro [],H,acc)
 | v=>if v.pure then some (v,H,acc) else none
def uC:List V→Hp→Hp→Option (List V×Hp×Hp)
 | [],H,acc=>some ([],H,acc)
 | v::vs,H,acc=>(uT v H acc).bind fun p=>(uC vs p.2.1 p.2.2).bind fun q=>some (p.1::q.1,q.2.1,q.2.2)
def Ik (v:V) (H acc:Hp):Option (V×Hp×Hp):=
 match v with
 | .agg cs=>(uC cs H acc).bind fun p=>some (.agg p.1,p.2.1,p.2.2)
 | v=>uT v H acc
def rr:List V→Hp→Hp→Option (List V×Hp×Hp)
 | [],H,acc=>some ([],H,acc)
 | v::vs,H,acc=>(Ik v H acc).bind fun p=>(rr vs p.2.1 p.2.2).bind fun q=>some (p.1::q.1,q.2.1,q.2.2)
def fzK (keep:Nat→Bool):Nat→List V→Hp→Option (List V×Hp)
 | _,[],H=>some ([],H)
 | i,v::vs,H=>(if keep i then some (v,H) else Gx 0 v H).bind fun p=>(fzK keep (i+1) vs p.2).bind fun q=>some (p.1::q.1,q.2)
def nE (keep:Option (Nat→Bool)) (v:V) (H:Hp):Option (V×Hp):=
 match keep with
 | none=>(fzR 0 v H).bind fun q=>if q.1.pure then some (q.1,[]) else some q
 | some keep=>
  match v with
  | .tup vs=>(fzK keep 0 vs H).bind fun p=>(rr p.1 p.2 []).bind fun q=>some (.tup q.1,q.2.2)
  | v=>(Ik v H []).bind fun q=>some (q.1,q.2.2)
def lN (cx:Cx) (g:FuncId) (args:List V) (H:Hp):Option (V×Hp):=
 (cx.call 0 g args []).bind fun p=>(nE (cx.M.keepRes cx.fid g) p.1 p.2).bind fun q=>
  some (q.1.shift H.length,H++q.2.map (B.shift H.length))
mutual
def V.scal:V→Bool
 | .lit _=>true
 | .agg cs=>lz cs
 | .tup cs=>lz cs
 | _=>false
def lz:List V→Bool
 | []=>true
 | v::vs=>v.scal&&lz vs
end
def FF (cx:Cx) (g:FuncId) (args:List V) (H:Hp):Option (V×Hp):=
 (if cx.M.keepArg g then some (args,H) else oN cx.wl args H).bind fun a=>
  if aW a.1 then (lN cx g a.1 a.2).bind fun q=>some (q.1,bif q.1.scal then H else q.2)
  else (cx.call cx.wl g a.1 a.2).bind fun p=>(if (cx.M.keepRes cx.fid g).isSome then some p else fzR cx.wl p.1 p.2).bind fun q=>
   if q.1.pure then some (q.1,pX a.2.length q.2) else some q
def lK (cx:Cx) (ord:Bool) (g:FuncId) (args:List V) (H:Hp):Option (V×Hp):=
 if ord then
  if aW args then lN cx g args H
  else if cx.M.keepArg g then none
  else
   (oN cx.wl args H).bind fun a=>
    if aW a.1 then (lN cx g a.1 a.2).bind fun q=>some (q.1,bif q.1.scal then H else q.2)
    else (cx.call a.2.length g a.1 a.2).bind fun p=>if p.1.scal then some (p.1,H) else none
 else if aW args then
  (cx.call 0 g args []).bind fun p=>(fzR 0 p.1 p.2).bind fun q=>if q.1.pure then some (q.1,H) else none
 else none
def dD (H:Hp) (p:V×Hp):Option (V×Hp):=if Nat.ble H.length p.2.length then some p else none
def nZ (cx:Cx) (calm ord:Bool) (f:V) (args:List V) (H:Hp):Option (V×Hp):=
 match f with
 | .fn (.func g) first caps=>
  if calm then lK cx ord g (first++args++caps) H
  else (FF cx g (first++args++caps) H).bind (dD H)
 | .yld l=>if calm then none else (oN cx.wl args H).bind fun a=>(cx.yld cx.wl l a.1 a.2).bind (dD H)
 | _=>none
def OJ (cx:Cx) (b:Builtin) (ts:Array TypeId) (args:List V) (H:Hp):Option (V×Hp):=
 match b with
 | .len=>match ts.toList,args with
  | [t],[x]=>if (mF cx.P t).isSome then (AM x H).map fun v=>(v,H) else none
  | _,_=>none
 | .append=>match ts.toList,args with
  | [t,u],[s,x]=>if (mF cx.P u).isSome then bA cx.P cx.wl t s x H else none
  | _,_=>none
 | .max=>(lx true args).map fun v=>(v,H)
 | .min=>(lx false args).map fun v=>(v,H)
 | _=>none
def opV (cx:Cx) (calm ord:Bool) (op:Op) (env:List V) (H:Hp):Option (V×Hp):=
 match op with
 | .move x=>(evO env x).map fun v=>(v,H)
 | .assign x=>(evO env x).map fun v=>match x,v with | .const _,.nil=>(.own H.length 0 0,H++[.rows 0 [] 0 true]) | _,v=>(v,H)
 | .pick c a b=>(evO env c).bind fun c=>(evO env a).bind fun a=>(evO env b).bind fun b=>(EY c a b).map fun v=>(v,H)
 | .alloc t=>(fM cx.P t).bind fun z=>if bg (b8 z) then let p:=bG (b8 z) H;some (.ptr p.2.length 0 0 0,p.2++[.box p.1]) else none
 | .box _ x=>(evO env x).bind fun v=>(v.cells).bind fun vs=>let p:=bG vs H;some (.ptr p.2.length 0 0 0,p.2++[.box p.1])
 | .build t parts=>(Pw (evO env) parts.toList).bind fun l=>(dn cx.P t l).map fun v=>(v,H)
 | .buildSlice t len parts=>(Pw (evO env) parts.toList).bind fun l=>if calm && !aW (l.map (·.2)) then none else aL cx.P cx.wl t len l H
 | .insert t m k v=>(evO env m).bind fun m=>(evO env k).bind fun k=>(evO env v).bind fun v=>(lg cx.P cx.wl t m k v H).map fun H'=>(.lit undef,H')
 | .load t a=>(evO env a).bind fun a=>(o8 cx.P t a H).map fun v=>(v,H)
 | .store t a v=>(evO env a).bind fun a=>(evO env v).bind fun v=>(rx cx.P cx.wl t a v H).map fun H'=>(.lit undef,H')
 | .nilCheck x=>(evO env x).bind fun x=>(OD x H).map fun v=>(v,H)
 | .binOp op t x y _=>(evO env x).bind fun x=>(evO env y).bind fun y=>(kZ cx.P op t x y).map fun v=>(v,H)
 | .unOp op _ x=>(evO env x).bind fun x=>(vUn op x).map fun v=>(v,H)
 | .convert s d x=>(evO env x).bind fun x=>(C5 cx.P s d x).map fun v=>(v,H)
 | .makeFunc f a b=>(ES env a.toList).bind fun a=>(ES env b.toList).map fun b=>(.fn f a b,H)
 | .makeMap _ r=>match r with | none=>some (.map H.length,H++[.map []]) | some _=>none
 | .makeSlice t l c=>(evO env l).bind fun l=>(evO env c).bind fun c=>aX cx.P t l c H
 | .slice t x lo hi mx=>(evO env x).bind fun x=>(O3 env lo).bind fun lo=>(O3 env hi).bind fun hi=>(O3 env mx).bind fun mx=>cy cx.P cx.wl calm t x lo hi mx H
 | .fieldAddr t x i=>(evO env x).bind fun x=>(ag cx.P t x i).map fun v=>(v,H)
 | .field t x i=>(evO env x).bind fun x=>(Bc cx.P t x i).map fun v=>(v,H)
 | .indexAddr t x i=>(evO env x).bind fun x=>(evO env i).bind fun i=>(aA cx.P t x i H).map fun v=>(v,H)
 | .index t x i=>(evO env x).bind fun x=>(evO env i).bind fun i=>(Do cx.P t x i).map fun v=>(v,H)
 | .lookup t m k ok=>(evO env m).bind fun m=>(evO env k).bind fun k=>(kq cx.P t m k ok H).map fun v=>(v,H)
 | .extract x i=>(evO env x).bind fun x=>(lP x i).map fun v=>(v,H)
 | .call c=>
  match c.callee with
  | .builtin b=>(ES env c.args.toList).bind fun a=>OJ cx b c.argTypes a H
  | .value f=>(evO env f).bind fun f=>(ES env c.args.toList).bind fun a=>nZ cx calm ord f a H
  | .invoke _ _=>none
 | _=>none
def oL (env:List V) (d:Option Tmp) (v:V):List V:=
 match d with
 | some d=>env.set d v
 | none=>env
inductive OKd where
 | plain | reads | makes | loud
 deriving DecidableEq
def re:Op→OKd
 | .assign x=>match x with | .const _ => .makes | _ => .plain
 | .move _ | .pick .. | .build .. | .binOp .. | .unOp .. | .convert .. | .makeFunc .. | .extract .. | .field .. | .fieldAddr .. | .index .. => .plain
 | .load .. | .lookup .. | .nilCheck _ | .indexAddr .. | .slice .. => .reads
 | .call c=>
  match c.callee with
  | .builtin .len => .reads
  | .builtin .max => .plain
  | .builtin .min => .plain
  | .builtin .append=>match c.args[0]? with | some (Operand.const _) => .makes | _ => .loud
  | .value _ => .makes
  | _ => .loud
 | .alloc _ | .box .. | .makeSlice .. | .makeMap .. | .buildSlice .. => .makes
 | _ => .loud
def HS (ops:Array Oper) (i:Nat):OKd:=match ops[i]? with | some o=>re o.op | none => .loud
def cN (bef:Array Nat) (i j:Nat):Bool:=i==j||(bef.getD i 0).testBit j||(bef.getD j 0).testBit i
def amc (ops:Array Oper) (bef:Array Nat) (i:Nat):Bool:=(List.range ops.size).all fun j=>HS ops j != .loud||cN bef i j
def alO (ops:Array Oper) (bef:Array Nat) (i:Nat):Bool:=(List.range ops.size).all fun j=>HS ops j == .plain||cN bef i j
structure Rg where
 calm:Nat→Bool
 ord:Nat→Bool
 strict:Nat→Bool
 loose:Nat→Bool
 any:Bool
def Rg.none:Rg:=⟨fun _=>false,fun _=>true,fun _=>false,fun _=>false,false⟩
def aaw:OKd→Bool
 | .makes=>true
 | .loud=>true
 | _=>false
def QV:Op→Bool
 | .alloc _=>true
 | _=>false
def bT (ops:Array Oper) (bef:Array Nat) (i:Nat):Bool:=
 (match ops[i]? with | some o=>QV o.op&&o.guard.isNone | none=>false)&&bef.getD i 0==0 &&
 !((List.range ops.size).all fun j => !aaw (HS ops j)||cN bef i j)
def aoJ (ops:Array Oper) (bef:Array Nat) (i:Nat):Bool:=(List.range ops.size).all fun j => !aaw (HS ops j)||bT ops bef j||cN bef i j
def KV:Op→Bool
 | .call c=>match c.callee with | .value _=>true | _=>false
 | _=>false
def W8 (ops:Array Oper) (i:Nat):Bool:=match ops[i]? with | some o=>KV o.op | none=>false
def wT (ops:Array Oper) (bef:Array Nat) (i:Nat):Bool:=HS ops i == .reads && !amc ops bef i
def AN (ops:Array Oper) (bef:Array Nat):Bool:=(List.range ops.size).any (wT ops bef)
def Eh (ops:Array Oper) (bef:Array Nat) (i:Nat):Bool:=AN ops bef || !alO ops bef i
def gF (ops:Array Oper) (bef:Array Nat) (i:Nat):Bool:=
 match HS ops i with
 | .plain=>false
 | .reads => !Eh ops bef i
 | .makes => !bT ops bef i && !(W8 ops i && !aoJ ops bef i)
 | .loud=>true
def Jw (ops:Array Oper) (bef:Array Nat) (i:Nat):Bool:=
 HS ops i == .reads&&(List.range ops.size).any fun j=>gF ops bef j && !cN bef i j
def u9 (ops:Array Oper):Rg:=
 let bef:=Region.before ops
 ⟨Eh ops bef,aoJ ops bef,Jw ops bef,wT ops bef,AN ops bef⟩
def aw (ops:Array Oper):List (Oper×Nat):=
 let bef:=Region.before ops
 ops.toList.zipIdx.filter (fun p=>bT ops bef p.2)++ops.toList.zipIdx.filter (fun p => !bT ops bef p.2)
def rJ (ops:Array Oper) (o:Oper):List Tmp:=
 o.dst.toList++o.op.operands.toList.filterMap (fun x=>match x with | .tmp t=>some t | _=>none) ++
  (match o.guard with | some (j,_)=>((ops[j]?).bind (·.dst)).toList | none=>[])
def XB (ops : Array Oper) (bef : Array Nat) : Bool :=
  (List.range ops.size).all fun j =>
    match ops[j]? with
    | none => false
    | some o => (rJ ops o).all fun t =>
      (List.range ops.size).all fun i => match ops[i]? with | none => false | some o' => o'.dst != some t || cN bef i j
def Fx (ops:Array Oper):Bool:=
 let bef:=Region.before ops
 XB ops bef &&
 (List.range ops.size).all fun i=>
  match ops[i]? with
  | none=>false
  | some o=>
   (match o.guard with | none=>true | some (j,_)=>(bef.getD i 0).testBit j) &&
   o.after.all (fun e => !Region.binds .any e||e.on<i) &&
   (!gF ops bef i||(List.range ops.size).all fun j => !gF ops bef j||cN bef i j)
def mL:Op→Option Operand
 | .load _ a=>some a
 | .nilCheck x=>some x
 | .indexAddr _ x _=>some x
 | .slice _ x _ _ _=>some x
 | .lookup _ m _ _=>some m
 | .call c=>match c.callee with | .builtin .len=>c.args[0]? | _=>none
 | _=>none
def eq:Op→Option Operand
 | .store _ a _=>some a
 | .insert _ m _ _=>some m
 | .call c=>match c.callee with | .builtin .append=>c.args[0]? | _=>none
 | _=>none
def KU:V→Option Nat
 | .ptr i _ _ _=>some i
 | .own i _ _=>some i
 | .map i=>some i
 | _=>none
def oZ (env:List V) (x:Option Operand):Option Nat:=
 match x with
 | some x=>match evO env x with | some v=>KU v | none=>none
 | none=>none
def fb (n0:Nat) (strict:Bool) (op:Op) (env:List V):Bool:=
 if strict then
  match oZ env (mL op) with
  | some i=>i<n0
  | none=>true
 else true
def LM (rg:Rg) (i:Nat) (op:Op) (env:List V) (a:List Nat×List Nat):List Nat×List Nat:=
 if rg.any then
  if rg.loose i then match oZ env (mL op) with | some k=>(k::a.1,a.2) | none=>a
  else if re op = .loud then match oZ env (eq op) with | some k=>(a.1,k::a.2) | none=>a
  else a
 else a
def Bq (a:List Nat×List Nat):Bool:=a.1.all fun i => !a.2.contains i
section run
variable {R:Type}
def JD (b:Bool) (want:Bool) (d:Tmp) (env:List V) (run skip:List V→Option R):Option R:=
 bif b then (if want then run else skip) (env.set d (.lit (.bool true))) else (if want then skip else run) (env.set d (.lit (.bool false)))
def FX (cx:Cx) (n0:Nat) (rg:Rg) (ops:Array Oper):List (Oper×Nat)→List Nat×List Nat→(St→Option R)→St→Option R
 | [],a,K,s=>if rg.any then (if Bq a then K s else none) else K s
 | (o,i)::rest,a,K,s=>
  let run (env:List V):Option R:=
   if fb n0 (rg.strict i) o.op env then
    (opV cx (rg.calm i) (rg.ord i) o.op env s.H).bind fun p=>FX cx n0 rg ops rest (LM rg i o.op env a) K ⟨oL env o.dst p.1,p.2⟩
   else none
  let skip (env:List V):Option R:=FX cx n0 rg ops rest a K ⟨oL env o.dst (.lit undef),s.H⟩
  match o.guard with
  | none=>run s.env
  | some (j,want)=>
   match (ops[j]?).bind (·.dst) with
   | none=>none
   | some d=>
    match s.env[d]? with
    | some (.lit (.bool b))=>JD b want d s.env run skip
    | some (.lit (.tuple _))=>skip s.env
    | _=>none
def adV (o:Oper):List Tmp:=o.op.operands.toList.filterMap (fun x=>match x with | .tmp t=>some t | _=>none)
def aeX:List Oper→List Tmp×List Tmp→List Tmp×List Tmp
 | [],s=>s
 | o::os,(rf,wr)=>
  let rf':=(adV o).foldl (fun rf t=>if wr.contains t||rf.contains t then rf else t::rf) rf
  aeX os (rf',match o.dst with | some d=>if wr.contains d then wr else d::wr | none=>wr)
def mg:Code→List Tmp×List Tmp→List Tmp×List Tmp
 | .region _ ops _,s=>aeX ops.toList s
 | .seq a b,s=>mg b (mg a s)
 | .cond c a b,(rf,wr)=>
  let rf':=match c with | .tmp t=>if wr.contains t||rf.contains t then rf else t::rf | _=>rf
  mg b (mg a (rf',wr))
 | .block _ a,s=>mg a s
 | .loop a,s=>mg a s
 | .scope a,s=>mg a s
 | .rangeFunc _ _ a b,s=>mg b (mg a s)
 | _,s=>s
def Fi (n0:Nat) (drop:Tmp→Bool):Nat→List V→List V
 | _,[]=>[]
 | t,v::vs=>(if drop t then .junk else v.kill n0)::Fi n0 drop (t+1) vs
def OB (named:Nat) (rw:List Tmp×List Tmp) (last:Bool) (t:Tmp):Bool:=
 named≤t&&rw.2.contains t&&(last || !rw.1.contains t)
def tidy (n0:Nat) (drop:Tmp→Bool) (s:St):St:=⟨Fi n0 drop 0 s.env,pX n0 s.H⟩
def RU (one:(Out→St→Option R)→St→Option R) (n0:Nat) (named:Nat) (rw:List Tmp×List Tmp) (K:Out→St→Option R):Nat→St→Option R
 | 0,_=>none
 | n+1,s=>one (fun o s'=>match o with
   | .norm=>RU one n0 named rw K n (tidy n0 (OB named rw false) s')
   | .ret=>K .ret s'
   | o=>K o (tidy n0 (OB named rw true) s')) s
def bO (l:Nat):Code→Bool
 | .seq a b=>bO l a||bO l b
 | .label l'=>l'==l
 | _=>false
def fe (env:List V):List Tmp→List V→List V
 | t::ts,v::vs=>fe (env.set t v) ts vs
 | _,_=>env
def be (cx:Cx):Code→Option Nat→(Out→St→Option R)→St→Option R
 | .skip,none,K,s=>K .norm s
 | .region _ ops draw,none,K,s=>
  if draw then
   if Fx ops then FX cx s.H.length (u9 ops) ops (aw ops) ([],[]) (K .norm) s else none
  else FX cx s.H.length Rg.none ops ops.toList.zipIdx ([],[]) (K .norm) s
 | .seq a b,none,K,s=>be cx a none (fun o s'=>match o with | .norm=>be cx b none K s' | o=>K o s') s
 | .seq a b,some l,K,s=>
  if bO l a then be cx a (some l) (fun o s'=>match o with | .norm=>be cx b none K s' | o=>K o s') s
  else be cx b (some l) K s
 | .cond c a b,none,K,s=>
  match evO s.env c with
  | some (.lit (.bool t))=>bif t then be cx a none K s else be cx b none K s
  | _=>none
 | .block id a,none,K,s=>be cx a none (fun o s'=>match o with | .exit id'=>if id'=id then K .norm s' else K (.exit id') s' | o=>K o s') s
 | .loop a,none,K,s=>RU (be cx a none) s.H.length (cx.M.named cx.fid) (mg a ([],[])) K cx.n (tidy s.H.length (OB (cx.M.named cx.fid) (mg a ([],[])) false) s)
 | .exit id,none,K,s=>K (.exit id) s
 | .goto l,none,K,s=>K (.goto l) s
 | .ret,none,K,s=>K .ret s
 | .label _,none,K,s=>K .norm s
 | .label l',some l,K,s=>if l'==l then K .norm s else none
 | .scope a,none,K,s=>
  be cx a none (fun o s'=>match o with
   | .goto l => if bO l a then be cx a (some l) (fun o' s'' => match o' with | .goto l' => if bO l' a then none else K (.goto l') s'' | o' => K o' s'') s' else K (.goto l) s'
   | o=>K o s') s
 | .rangeFunc f ps a b,none,K,s=>
  if cx.round || !Nat.ble cx.wl s.H.length then none else
  match evO s.env f with
  | some (.fn (.func g) [] caps)=>
   (cx.call cx.wl g (.yld s.H.length::caps) (s.H++[.loop { st := .ready,pending:=none,fn:=cx.fid,tmps:=s.env,params:=ps.toList,assign:=a,body:=b }])).bind fun p=>
    match p.2[s.H.length]? with
    | some (.loop l)=>
     if l.st = .busy then none else
     let s':St:=⟨s.env,pX s.H.length p.2⟩
     match l.pending with
     | none=>K .norm s'
     | some .ret=>K .ret s'
     | some (.exit id)=>K (.exit id) s'
     | some (.goto id)=>K (.goto id) s'
     | some _=>none
    | _=>none
  | _=>none
 | _,_,_,_=>none
end run
def ah3 (P:Program) (r:ResultVar) (s:St):Option V:=
 match r with
 | .tmp t=>s.env[t]?
 | .cell a t=>match s.env[a]? with | some x=>o8 P t x s.H | none=>none
def QR (P:Program):List ResultVar→St→Option (List V)
 | [],_=>some []
 | r::rs,s=>(ah3 P r s).bind fun v=>(QR P rs s).bind fun vs=>some (v::vs)
def iJ (P:Program) (rs:List ResultVar) (s:St):Option V:=
 (QR P rs s).bind fun vs=>match vs with | [v]=>some v | vs=>some (.tup vs)
def C4 (cx:Cx) (fn:Func) (args:List V) (H:Hp):Option (V×Hp):=
 match fn.body with
 | none=>none
 | some c=>
  be cx c none (fun o s=>match o with
   | .norm=>(iJ cx.P fn.results.toList s).map fun v=>(v,s.H)
   | .ret=>(iJ cx.P fn.results.toList s).map fun v=>(v,s.H)
   | _=>none) ⟨args++List.replicate (fn.ntmps - args.length) (.lit undef),H⟩
def ed:Out→Option Code
 | .norm=>none
 | .exit id=>some (.exit id)
 | .goto l=>some (.goto l)
 | .ret=>some .ret
def Hn (cx:Cx) (id:Nat) (l:Lp) (args:List V) (H:Hp):Option (V×Hp):=
 if l.st = .ready∧args.length=l.params.length∧Nat.ble cx.wl id=true then
  be cx l.assign none (fun o s=>match o with
   | .norm=>
    match s.H[id]? with
    | some (.loop l')=>
     if l'.st = .ready then
     be cx l.body none (fun o' s'=>
      match s'.H[id]? with
      | some (.loop l'') =>
       some (.lit (.bool (ed o').isNone), pX H.length (s'.H.set id (.loop { l'' with st := if (ed o').isNone then .ready else .done, pending := ed o' })))
      | _=>none) ⟨s.env,s.H.set id (.loop { l' with st := .busy })⟩
     else none
    | _=>none
   | _=>none) ⟨fe l.tmps l.params args,H⟩
 else none
mutual
def evF (P:Program) (M:Mode):Nat→Nat→FuncId→List V→Hp→Option (V×Hp)
 | 0,_,_,_,_=>none
 | k+1,wl,f,args,H=>
  match M.orc f with
  | some o=>if wl=0 then o args H else none
  | none=>
   match P.funcs[f]? with
   | none=>none
   | some fn=>C4 { P,M,fid:=f,round:=false,wl,call:=evF P M k,yld:=evY P M k,n:=k } fn args H
def evY (P:Program) (M:Mode):Nat→Nat→Nat→List V→Hp→Option (V×Hp)
 | 0,_,_,_,_=>none
 | k+1,wl,l,args,H=>
  match H[l]? with
  | some (.loop r)=>Hn { P,M,fid:=r.fn,round:=true,wl,call:=evF P M k,yld:=evY P M k,n:=k } l r args H
  | _=>none
end
end Go.Ab
namespace Go.Ab
open Go.RowKit
structure Sg where
 blk:Option Nat
 gen:Nat
 esz:Nat
 cap:Nat
 hole:Bool:=false
abbrev Ro:=Nat→Nat→Option Value
inductive RelV (R:Ro) (σ:List Sg):V→Value→Prop where
 | lit (v:Value):RelV R σ (.lit v) v
 | nil:RelV R σ .nil (.slice none 0 0)
 | any (v:Value) (h:v.oneCell'=true):RelV R σ .any v
 | junk (v:Value):RelV R σ .junk v
 | agg (cs:List V) (vs:Array Value) (hl:vs.size=cs.length) (ho:bg cs=true)
   (h:∀ i c,cs[i]? = some c→RelV R σ c (vs.getD i undef)):RelV R σ (.agg cs) (.agg vs)
 | tup (cs:List V) (vs:Array Value) (hl:vs.size=cs.length)
   (h:∀ i c,cs[i]? = some c→RelV R σ c (vs.getD i undef)):RelV R σ (.tup cs) (.tuple vs)
 | fn (f:Fn) (a b:List V) (va vb:Array Value) (ha:va.size=a.length) (hb:vb.size=b.length)
   (h1:∀ i c,a[i]? = some c→RelV R σ c (va.getD i undef)) (h2:∀ i c,b[i]? = some c→RelV R σ c (vb.getD i undef)) :
   RelV R σ (.fn f a b) (.func f va vb)
 | roNil (A:Option Addr) (c:Nat):RelV R σ (.ro []) (.slice A 0 c)
 | ro (rows:List (List V)) (b off c esz:Nat) (vals:Nat→Nat→Value) (hc:rows.length≤c)
   (hs:∀ r ∈ rows,r.length=esz) (hp:dq rows=true) (ho:rows.all bg=true)
   (hv:∀ i j r x,rows[i]? = some r→r[j]? = some x→RelV R σ x (vals i j))
   (hR:∀ i j r x,rows[i]? = some r→r[j]? = some x→R b (off+(i*esz+j))=some (vals i j)) :
   RelV R σ (.ro rows) (.slice (some ⟨b,off,none⟩) rows.length c)
 | rp (cs:List V) (b off:Nat) (vals:Nat→Value) (hp:aW cs=true) (ho:bg cs=true)
   (hv:∀ j x,cs[j]? = some x→RelV R σ x (vals j)) (hR:∀ j x,cs[j]? = some x→R b (off+j)=some (vals j)) :
   RelV R σ (.rp cs) (.pointer (some ⟨b,off,none⟩))
 | ptr (id g row off:Nat) (p:Addr) (s:Sg) (hs:σ[id]? = some s) (hh:s.hole=false) (hg:g≤s.gen)
   (h:g=s.gen→∃ b,s.blk=some b∧p=⟨b,row*s.esz+off,none⟩):RelV R σ (.ptr id g row off) (.pointer (some p))
 | own (id g len:Nat) (A:Option Addr) (l c:Nat) (s:Sg) (hs:σ[id]? = some s) (hh:s.hole=false) (hg:g≤s.gen)
   (h:g=s.gen→l=len∧(s.blk=none→len=0∧c=0)∧(∀ b,s.blk=some b→A=some ⟨b,0,none⟩∧len≤c∧c*s.esz≤s.cap)) :
   RelV R σ (.own id g len) (.slice A l c)
 | map (id:Nat) (r:Option Nat) (s:Sg) (hs:σ[id]? = some s) (hh:s.hole=false) (h:s.gen=0→s.blk=r∧r.isSome=true):RelV R σ (.map id) (.map r)
 | yld (id b:Nat) (s:Sg) (hs:σ[id]? = some s) (hh:s.hole=false) (h:s.gen=0→s.blk=some b):RelV R σ (.yld id) (.func (.yield b) #[] #[])
def b7 (R:Ro) (σ:List Sg) (cs:List V) (vs:Array Value):Prop:=
 vs.size=cs.length∧∀ i c,cs[i]? = some c→RelV R σ c (vs.getD i undef)
def wQ (s s':Sg):Prop:=s.hole=true∨(s'.hole=false∧s.gen<s'.gen)∨s'=s
def Ext (σ σ':List Sg):Prop:=∀ (id:Nat) (s:Sg),σ[id]? = some s→∃ s',σ'[id]? = some s'∧wQ s s'
def iz (R R':Ro):Prop:=∀ b o v,R b o=some v→R' b o=some v
structure RoExt (B:Nat) (R R':Ro):Prop where
 le:iz R R'
 new:∀ b o,R' b o≠none→R b o≠none∨B≤b
theorem wQ.refl (s:Sg):wQ s s := .inr (.inr rfl)
theorem wQ.trans {a b c:Sg} (h:wQ a b) (k:wQ b c):wQ a c:=by
 rcases h with h | ⟨h1,h2⟩ | rfl
 ·exact .inl h
 ·rcases k with k | ⟨k1,k2⟩ | rfl
  ·rw [h1] at k;cases k
  ·exact .inr (.inl ⟨k1,by omega⟩)
  ·exact .inr (.inl ⟨h1,h2⟩)
 ·exact k
theorem wQ.gen {a b:Sg} (h:wQ a b) (ha:a.hole=false):a.gen≤b.gen:=by
 rcases h with h | ⟨_,h⟩ | rfl
 ·rw [ha] at h;cases h
 ·omega
 ·exact Nat.le_refl _
theorem wQ.hole {a b:Sg} (h:wQ a b) (ha:a.hole=false):b.hole=false:=by
 rcases h with h | ⟨h,_⟩ | rfl
 ·rw [ha] at h;cases h
 ·exact h
 ·exact ha
theorem wQ.same {a b:Sg} (h:wQ a b) (ha:a.hole=false) (e:b.gen≤a.gen):b=a:=by
 rcases h with h | ⟨_,h⟩ | rfl
 ·rw [ha] at h;cases h
 ·omega
 ·rfl
theorem Ext.refl (σ:List Sg):Ext σ σ:=fun _ s h=>⟨s,h,wQ.refl s⟩
theorem Ext.trans {a b c:List Sg} (h:Ext a b) (k:Ext b c):Ext a c:=fun id s hs=>
 let ⟨s',h1,l1⟩:=h id s hs
 let ⟨s'', h2, l2⟩ := k id s' h1
 ⟨s'', h2, l1.trans l2⟩
theorem Ext.append (σ τ:List Sg):Ext σ (σ++τ):=fun id s h=>⟨s,by
 rw [List.getElem?_append_left (List.getElem?_eq_some_iff.1 h).1];exact h,wQ.refl s⟩
theorem iz.refl (R:Ro):iz R R:=fun _ _ _ h=>h
theorem iz.trans {a b c:Ro} (h:iz a b) (k:iz b c):iz a c:=fun b o v hv=>k b o v (h b o v hv)
theorem RoExt.refl (B:Nat) (R:Ro):RoExt B R R:=⟨iz.refl R,fun _ _ h => .inl h⟩
theorem RoExt.trans {B:Nat} {a b c:Ro} (h:RoExt B a b) (k:RoExt B b c):RoExt B a c:=
 ⟨h.le.trans k.le,fun x o hx=>(k.new x o hx).elim (fun h1=>h.new x o h1) .inr⟩
theorem RoExt.mono {B B':Nat} {a b:Ro} (h:RoExt B a b) (hB:B'≤B):RoExt B' a b:=
 ⟨h.le,fun x o hx=>(h.new x o hx).imp id (fun h=>Nat.le_trans hB h)⟩
theorem RelV.mono {R R':Ro} {σ σ':List Sg} (hR:iz R R') (hσ:Ext σ σ') {v:V} {cv:Value} (h:RelV R σ v cv):RelV R' σ' v cv:=by
 induction h with
 | lit v=>exact .lit v
 | nil=>exact .nil
 | any v h=>exact .any v h
 | junk v=>exact .junk v
 | agg cs vs hl ho h ih=>exact .agg cs vs hl ho ih
 | tup cs vs hl h ih=>exact .tup cs vs hl ih
 | fn f a b va vb ha hb h1 h2 i1 i2=>exact .fn f a b va vb ha hb i1 i2
 | roNil A c=>exact .roNil A c
 | ro rows b off c esz vals hc hs hp ho hv hR' ih=>exact .ro rows b off c esz vals hc hs hp ho ih (fun i j r x h1 h2=>hR _ _ _ (hR' i j r x h1 h2))
 | rp cs b off vals hp ho hv hR' ih=>exact .rp cs b off vals hp ho ih (fun j x h1=>hR _ _ _ (hR' j x h1))
 | ptr id g row off p s hs hh hg h=>
  obtain ⟨s',hs',hle⟩:=hσ id s hs
  exact .ptr id g row off p s' hs' (hle.hole hh) (Nat.le_trans hg (hle.gen hh)) (fun e=>by
   have:=hle.same hh (by omega)
   subst this;exact h e)
 | own id g len A l c s hs hh hg h=>
  obtain ⟨s',hs',hle⟩:=hσ id s hs
  exact .own id g len A l c s' hs' (hle.hole hh) (Nat.le_trans hg (hle.gen hh)) (fun e=>by
   have:=hle.same hh (by omega)
   subst this;exact h e)
 | map id r s hs hh h=>
  obtain ⟨s',hs',hle⟩:=hσ id s hs
  exact .map id r s' hs' (hle.hole hh) (fun e=>by
   have:=hle.same hh (by omega)
   subst this;exact h e)
 | yld id b s hs hh h=>
  obtain ⟨s',hs',hle⟩:=hσ id s hs
  exact .yld id b s' hs' (hle.hole hh) (fun e=>by
   have:=hle.same hh (by omega)
   subst this;exact h e)
theorem b7.mono {R R':Ro} {σ σ':List Sg} (hR:iz R R') (hσ:Ext σ σ') {cs:List V} {vs:Array Value} (h:b7 R σ cs vs):b7 R' σ' cs vs:=
 ⟨h.1,fun i c hc=>(h.2 i c hc).mono hR hσ⟩
theorem uh (l:List V):aW l=true↔∀ x ∈ l,x.pure=true:=by
 induction l with
 | nil=>simp [aW]
 | cons a l ih=>simp [aW,ih]
theorem mB {rows:List (List V)} (h:dq rows=true) {i j:Nat} {r:List V} {x:V} (hr:rows[i]? = some r) (hx:r[j]? = some x):x.pure=true:=by
 unfold dq at h
 rw [List.all_eq_true] at h
 have:=h r (List.mem_of_getElem? hr)
 rw [uh] at this
 exact this x (List.mem_of_getElem? hx)
theorem kT {l:List V} (h:aW l=true) {i:Nat} {x:V} (hx:l[i]? = some x):x.pure=true:=
 (uh l).1 h x (List.mem_of_getElem? hx)
theorem RelV.free {R:Ro} {σ:List Sg} (σ':List Sg) {v:V} {cv:Value} (h:RelV R σ v cv):v.pure=true→RelV R σ' v cv:=by
 induction h with
 | lit v=>exact fun _ => .lit v
 | nil=>exact fun _ => .nil
 | any v h=>exact fun _ => .any v h
 | junk v=>exact fun _ => .junk v
 | agg cs vs hl ho h ih=>exact fun hp => .agg cs vs hl ho (fun i c hc=>ih i c hc (kT (by simpa [V.pure] using hp) hc))
 | tup cs vs hl h ih=>exact fun hp => .tup cs vs hl (fun i c hc=>ih i c hc (kT (by simpa [V.pure] using hp) hc))
 | fn f a b va vb ha hb h1 h2 i1 i2=>
  intro hp
  simp only [V.pure,Bool.and_eq_true] at hp
  exact .fn f a b va vb ha hb (fun i c hc=>i1 i c hc (kT hp.1 hc)) (fun i c hc=>i2 i c hc (kT hp.2 hc))
 | roNil A c=>exact fun _ => .roNil A c
 | ro rows b off c esz vals hc hs hp ho hv hR' ih=>exact fun _ => .ro rows b off c esz vals hc hs hp ho (fun i j r x h1 h2=>ih i j r x h1 h2 (mB hp h1 h2)) hR'
 | rp cs b off vals hp ho hv hR' ih=>exact fun _ => .rp cs b off vals hp ho (fun j x h1=>ih j x h1 (kT hp h1)) hR'
 | ptr=>simp [V.pure]
 | own=>simp [V.pure]
 | map=>simp [V.pure]
 | yld=>simp [V.pure]
theorem b7.free {R:Ro} {σ:List Sg} (σ':List Sg) {cs:List V} {vs:Array Value} (h:b7 R σ cs vs) (hp:aW cs=true):b7 R σ' cs vs:=
 ⟨h.1,fun i c hc=>(h.2 i c hc).free σ' (kT hp hc)⟩
theorem fR (n:Nat) (l:List V):eZ n l=l.map (V.kill n):=by
 induction l with
 | nil=>rfl
 | cons a l ih=>simp [eZ,ih]
theorem er (k:Nat) (l:List V):cX k l=l.map (V.shift k):=by
 induction l with
 | nil=>rfl
 | cons a l ih=>simp [cX,ih]
theorem K7 (n:Nat) (v:V) (h:v.one=true):(v.kill n).one=true:=by
 cases v <;> first | exact h | rfl | (simp only [V.kill];split <;> rfl) | cases h
theorem Du (n:Nat) (l:List V) (h:bg l=true):bg (eZ n l)=true:=by
 simp only [bg,fR,List.all_eq_true,List.mem_map] at *
 rintro x ⟨y,hy,rfl⟩
 exact K7 n y (h y hy)
theorem Ie (n:Nat) (v:V) (h:v.one=true):(v.shift n).one=true:=by
 cases v <;> first | exact h | rfl | cases h
theorem BU (n:Nat) (l:List V) (h:bg l=true):bg (cX n l)=true:=by
 simp only [bg,er,List.all_eq_true,List.mem_map] at *
 rintro x ⟨y,hy,rfl⟩
 exact Ie n y (h y hy)
theorem RelV.one {R:Ro} {σ:List Sg} {v:V} {cv:Value} (h:RelV R σ v cv) (ho:v.one=true):cv.oneCell'=true:=by
 cases h <;> first | exact ho | rfl | assumption | cases ho
theorem take_getElem? {α:Type} (l:List α) (n i:Nat) (h:i<n):(l.take n)[i]? = l[i]? := by
 rw [List.getElem?_take,if_pos h]
theorem RelV.kill {R:Ro} {σ:List Sg} (n:Nat) {v:V} {cv:Value} (h:RelV R σ v cv):RelV R (σ.take n) (v.kill n) cv:=by
 induction h with
 | lit v=>exact .lit v
 | nil=>exact .nil
 | any v h=>exact .any v h
 | junk v=>exact .junk v
 | agg cs vs hl ho h ih=>
  refine .agg _ vs (by rw [hl,fR,List.length_map]) (Du n cs ho) (fun i c hc => ?_)
  rw [fR,List.getElem?_map] at hc
  cases hx:cs[i]? with
  | none=>rw [hx] at hc;cases hc
  | some x=>rw [hx] at hc;cases hc;exact ih i x hx
 | tup cs vs hl h ih=>
  refine .tup _ vs (by rw [hl,fR,List.length_map]) (fun i c hc => ?_)
  rw [fR,List.getElem?_map] at hc
  cases hx:cs[i]? with
  | none=>rw [hx] at hc;cases hc
  | some x=>rw [hx] at hc;cases hc;exact ih i x hx
 | fn f a b va vb ha hb h1 h2 i1 i2=>
  refine .fn f _ _ va vb (by rw [ha,fR,List.length_map]) (by rw [hb,fR,List.length_map]) (fun i c hc => ?_) (fun i c hc => ?_)
  ·rw [fR,List.getElem?_map] at hc
   cases hx:a[i]? with
   | none=>rw [hx] at hc;cases hc
   | some x=>rw [hx] at hc;cases hc;exact i1 i x hx
  ·rw [fR,List.getElem?_map] at hc
   cases hx:b[i]? with
   | none=>rw [hx] at hc;cases hc
   | some x=>rw [hx] at hc;cases hc;exact i2 i x hx
 | roNil A c=>exact .roNil A c
 | ro rows b off c esz vals hc hs hp ho hv hR' ih=>exact .ro rows b off c esz vals hc hs hp ho (fun i j r x h1 h2=>(hv i j r x h1 h2).free _ (mB hp h1 h2)) hR'
 | rp cs b off vals hp ho hv hR' ih=>exact .rp cs b off vals hp ho (fun j x h1=>(hv j x h1).free _ (kT hp h1)) hR'
 | ptr id g row off p s hs hh hg h=>
  simp only [V.kill]
  split
  ·exact .ptr id g row off p s (by rw [take_getElem? _ _ _ (by assumption)];exact hs) hh hg h
  ·exact .any _ rfl
 | own id g len A l c s hs hh hg h=>
  simp only [V.kill]
  split
  ·exact .own id g len A l c s (by rw [take_getElem? _ _ _ (by assumption)];exact hs) hh hg h
  ·exact .any _ rfl
 | map id r s hs hh h=>
  simp only [V.kill]
  split
  ·exact .map id r s (by rw [take_getElem? _ _ _ (by assumption)];exact hs) hh h
  ·exact .any _ rfl
 | yld id b s hs hh h=>
  simp only [V.kill]
  split
  ·exact .yld id b s (by rw [take_getElem? _ _ _ (by assumption)];exact hs) hh h
  ·exact .any _ rfl
theorem append_getElem? {α:Type} (l m:List α) (i:Nat):(l++m)[l.length+i]? = m[i]? := by
 rw [List.getElem?_append_right (by omega)];congr 1;omega
theorem RelV.shift {R:Ro} {σ:List Sg} (τ:List Sg) {v:V} {cv:Value} (h:RelV R σ v cv):RelV R (τ++σ) (v.shift τ.length) cv:=by
 induction h with
 | lit v=>exact .lit v
 | nil=>exact .nil
 | any v h=>exact .any v h
 | junk v=>exact .junk v
 | agg cs vs hl ho h ih=>
  refine .agg _ vs (by rw [hl,er,List.length_map]) (BU _ cs ho) (fun i c hc => ?_)
  rw [er,List.getElem?_map] at hc
  cases hx:cs[i]? with
  | none=>rw [hx] at hc;cases hc
  | some x=>rw [hx] at hc;cases hc;exact ih i x hx
 | tup cs vs hl h ih=>
  refine .tup _ vs (by rw [hl,er,List.length_map]) (fun i c hc => ?_)
  rw [er,List.getElem?_map] at hc
  cases hx:cs[i]? with
  | none=>rw [hx] at hc;cases hc
  | some x=>rw [hx] at hc;cases hc;exact ih i x hx
 | fn f a b va vb ha hb h1 h2 i1 i2=>
  refine .fn f _ _ va vb (by rw [ha,er,List.length_map]) (by rw [hb,er,List.length_map]) (fun i c hc => ?_) (fun i c hc => ?_)
  ·rw [er,List.getElem?_map] at hc
   cases hx:a[i]? with
   | none=>rw [hx] at hc;cases hc
   | some x=>rw [hx] at hc;cases hc;exact i1 i x hx
  ·rw [er,List.getElem?_map] at hc
   cases hx:b[i]? with
   | none=>rw [hx] at hc;cases hc
   | some x=>rw [hx] at hc;cases hc;exact i2 i x hx
 | roNil A c=>exact .roNil A c
 | ro rows b off c esz vals hc hs hp ho hv hR' ih=>exact .ro rows b off c esz vals hc hs hp ho (fun i j r x h1 h2=>(hv i j r x h1 h2).free _ (mB hp h1 h2)) hR'
 | rp cs b off vals hp ho hv hR' ih=>exact .rp cs b off vals hp ho (fun j x h1=>(hv j x h1).free _ (kT hp h1)) hR'
 | ptr id g row off p s hs hh hg h=>exact .ptr _ g row off p s (by rw [append_getElem?];exact hs) hh hg h
 | own id g len A l c s hs hh hg h=>exact .own _ g len A l c s (by rw [append_getElem?];exact hs) hh hg h
 | map id r s hs hh h=>exact .map _ r s (by rw [append_getElem?];exact hs) hh h
 | yld id b s hs hh h=>exact .yld _ b s (by rw [append_getElem?];exact hs) hh h
def Kn (R:Ro) (σ:List Sg) (w:World) (s:Sg):B→Prop
 | .rows esz rs g live=>s.gen=g∧s.esz=esz∧(s.blk≠none→esz≠0)∧(∀ r ∈ rs,r.length=esz∧bg r=true) ∧
   match s.blk with
   | none=>rs=[]
   | some b=>∃ (arr:Array Value) (e:TypeId),w.heap[b]? = some (.cells arr e (0,0))∧arr.size=s.cap ∧
     (∀ (i j:Nat) (r:List V) (x:V),rs[i]? = some r→r[j]? = some x→∃ cv,arr[i*esz+j]? = some cv∧RelV R σ x cv) ∧
     (∀ (o:Nat),R b o≠none→live=false∧o<rs.length*esz)
 | .box cs=>s.gen=0∧bg cs=true∧∃ (b:Nat) (arr:Array Value) (e:TypeId),s.blk=some b∧w.heap[b]? = some (.cells arr e (0,0))∧b7 R σ cs arr∧∀ (o:Nat),R b o=none
 | .map es=>s.gen=0∧∃ (b:Nat) (ents:Array MapEntry) (clock:Nat),s.blk=some b∧w.heap[b]? = some (.map ents clock)∧ents.size=es.length ∧
   (∀ (i:Nat) (e:Value×V),es[i]? = some e→∃ m,ents[i]? = some m∧m.key=e.1∧RelV R σ e.2 m.val)
 | .dead=>True
 | .loop l=>s.gen=0∧∃ (b:Nat) (r:Loop),s.blk=some b∧w.heap[b]? = some (.loop r)∧r.state=l.st∧r.pending=l.pending ∧
   r.params.toList=l.params∧r.assign=l.assign∧r.body=l.body∧b7 R σ l.tmps r.tmps
def B.isDead:B→Bool
 | .dead=>true
 | _=>false
structure Inv (wl B0:Nat) (w0:World) (R:Ro) (σ:List Sg) (H:Hp) (w:World):Prop where
 below:Below B0 w0 w
 base:B0≤w.heap.size
 len:σ.length=H.length
 blk:∀ (id:Nat) (b:B) (s:Sg),H[id]? = some b→σ[id]? = some s→s.hole=false→Kn R σ w s b
 inj:∀ (i j:Nat) (bi bj:B) (si sj:Sg) (b:Nat),H[i]? = some bi→H[j]? = some bj→bi.isDead=false→bj.isDead=false →
  σ[i]? = some si→σ[j]? = some sj→si.blk=some b→sj.blk=some b→i=j
 ge:∀ (id:Nat) (x:B) (s:Sg) (b:Nat),wl≤id→H[id]? = some x→x.isDead=false→σ[id]? = some s→s.blk=some b→B0≤b
 lt:∀ (id:Nat) (x:B) (s:Sg) (b:Nat),H[id]? = some x→x.isDead=false→σ[id]? = some s→s.blk=some b→b<w.heap.size
 ro:∀ (b o:Nat) (v:Value),R b o=some v→w.cell? ⟨b,o,none⟩=some v
end Go.Ab
namespace Go.Ab
open Go.RowKit
structure Stp (T:Nat→Prop) (wl B0:Nat) (w0:World) (R:Ro) (σ:List Sg) (w:World) (R':Ro) (σ':List Sg) (H':Hp) (w':World):Prop where
 inv:Inv wl B0 w0 R' σ' H' w'
 ext:Ext σ σ'
 le:iz R R'
 new:∀ b o,R' b o≠none→R b o≠none∨T b∨w.heap.size≤b
 fr:∀ b,b<w.heap.size→¬ T b→w'.heap[b]? = w.heap[b]?
 df:∀ (b:Nat) (ds:Option (List Deferred)),w.heap[b]? = some (Obj.deferred ds)→w'.heap[b]? = w.heap[b]?
 hl:∀ (id:Nat) (s:Sg),σ[id]? = some s→s.hole=true→σ'[id]? = some s
theorem Stp.refl {T:Nat→Prop} {wl B0:Nat} {w0:World} {R:Ro} {σ:List Sg} {H:Hp} {w:World} (h:Inv wl B0 w0 R σ H w):Stp T wl B0 w0 R σ w R σ H w:=
 ⟨h,Ext.refl σ,iz.refl R,fun _ _ h => .inl h,fun _ _ _=>rfl,fun _ _ _=>rfl,fun _ _ h _=>h⟩
theorem Stp.trans {T:Nat→Prop} {wl B0:Nat} {w0:World} {R R1 R2:Ro} {σ σ1 σ2:List Sg} {H1 H2:Hp} {w w1 w2:World}
  (h:Stp T wl B0 w0 R σ w R1 σ1 H1 w1) (k:Stp T wl B0 w0 R1 σ1 w1 R2 σ2 H2 w2) (hs:w.heap.size≤w1.heap.size):Stp T wl B0 w0 R σ w R2 σ2 H2 w2:=
 ⟨k.inv,h.ext.trans k.ext,h.le.trans k.le,fun b o hb=>by
  rcases k.new b o hb with h1 | h1 | h1
  ·exact h.new b o h1
  ·exact .inr (.inl h1)
  ·exact .inr (.inr (by omega)),fun b hb ht=>(k.fr b (by omega) ht).trans (h.fr b hb ht),fun b ds hb=>(k.df b ds ((h.df b ds hb).trans hb)).trans (h.df b ds hb),fun id s hs hh=>k.hl id s (h.hl id s hs hh) hh⟩
section ops
variable {P:Program} {wl B0:Nat} {w0:World} {R:Ro} {σ:List Sg} {H:Hp} {w:World}
theorem RelV.lit_inv {v cv:Value} (h:RelV R σ (.lit v) cv):cv=v:=by cases h;rfl
theorem cR (b o j:Nat):(⟨b,o,none⟩:Addr).add j=⟨b,o+j,none⟩:=by unfold Addr.add;split <;> simp_all
theorem wS (v:Value) (h:v.oneCell'=true):RelV R σ (oK v) v∧(oK v).one=true:=by
 unfold oK
 split
 ·exact ⟨.nil,rfl⟩
 ·exact ⟨.lit _,h⟩
theorem wP (v:Value):RelV R σ (f9 v) v:=by
 unfold f9
 split
 ·split
  ·rename_i cs h
   rw [List.all_eq_true] at h
   refine .agg _ cs (by simp) ?_ ?_
   ·simp only [bg,List.all_eq_true,List.mem_map]
    rintro x ⟨y,hy,rfl⟩
    exact (wS (R:=R) (σ:=σ) y (h y hy)).2
   ·intro i c hc
    rw [List.getElem?_map] at hc
    cases hx:cs.toList[i]? with
    | none=>rw [hx] at hc;cases hc
    | some x=>
     rw [hx] at hc;cases hc
     have:cs.getD i undef=x:=by simp at hx;simp [hx]
     rw [this]
     exact (wS x (h x (List.mem_of_getElem? hx))).1
  ·exact .junk _
 ·unfold oK
  split
  ·exact .nil
  ·exact .lit _
theorem bJ {env:List V} {a:Act} (hE:b7 R σ env a.tmps) {x:Operand} {v:V} (h:evO env x=some v):RelV R σ v (a.eval x):=by
 cases x with
 | tmp t=>exact hE.2 t v h
 | const c=>cases h;exact wP c
 | global g=>cases h
 | func f=>
  cases h
  exact .fn (.func f) [] [] #[] #[] rfl rfl (fun i c hc=>by simp at hc) (fun i c hc=>by simp at hc)
theorem u7 {env:List V} {a:Act} (hE:b7 R σ env a.tmps):∀ {xs:List Operand} {vs:List V},ES env xs=some vs→b7 R σ vs (xs.map a.eval).toArray
 | [],vs,h=>by cases h;exact ⟨rfl,fun i c hc=>by simp at hc⟩
 | x::xs,vs,h=>by
  simp only [ES,Option.bind_eq_some_iff] at h
  obtain ⟨v,hv,l,hl,e⟩:=h
  cases e
  have ih:=u7 hE hl
  refine ⟨by have:=ih.1;simp at this ⊢;omega,fun i c hc => ?_⟩
  cases i with
  | zero=>simp at hc;subst hc;simpa using bJ hE hv
  | succ i=>
   have:=ih.2 i c (by simpa using hc)
   simpa using this
theorem b7.get {cs:List V} {vs:Array Value} (h:b7 R σ cs vs) {i:Nat} {c:V} (hc:cs[i]? = some c):∃ v,vs[i]? = some v∧RelV R σ c v:=by
 have hi:i<vs.size:=by rw [h.1];exact (List.getElem?_eq_some_iff.1 hc).1
 exact ⟨vs[i],by simp [hi],by have:=h.2 i c hc;simpa [hi] using this⟩
theorem uK {v:V} {cv:Value} (h:RelV R σ v cv) {vs:List V} (hc:v.cells=some vs):b7 R σ vs cv.cells∧bg vs=true∧(∀ x ∈ cv.cells.toList,x.oneCell'=true):=by
 have one (v:V) (cv:Value) (h:RelV R σ v cv) (ho:v.one=true) (hn:∀ cs,v ≠ .agg cs):b7 R σ [v] cv.cells∧bg [v]=true∧(∀ x ∈ cv.cells.toList,x.oneCell'=true):=by
  have h1:=h.one ho
  have hcs:cv.cells = #[cv]:=by cases cv <;> first | rfl | cases h1
  rw [hcs]
  refine ⟨⟨rfl,fun i c hc => ?_⟩,by simp [bg,ho],by simpa using h1⟩
  cases i with
  | zero=>simp at hc;subst hc;exact h
  | succ i=>simp at hc
 cases h with
 | agg cs va hl ho hh=>
  simp only [V.cells,Option.some.injEq] at hc
  subst hc
  refine ⟨⟨hl,hh⟩,ho,fun x hx => ?_⟩
  simp only [Value.cells] at hx
  obtain ⟨i,hi⟩:=List.mem_iff_getElem?.1 hx
  have hi2:i<va.size:=by
   have:=(List.getElem?_eq_some_iff.1 hi).1
   simpa using this
  have hc' : cs[i]? = some (cs[i]'(by omega)) := by simp [show i < cs.length by omega]
  have hr:=hh i _ hc'
  have hx':va.getD i undef=x:=by simp at hi;simp [hi]
  rw [hx'] at hr
  refine hr.one ?_
  rw [bg,List.all_eq_true] at ho
  exact ho _ (List.mem_of_getElem? hc')
 | tup=>simp [V.cells,V.one] at hc
 | junk=>simp [V.cells,V.one] at hc
 | lit v=>
  simp only [V.cells] at hc
  split at hc
  ·cases hc;exact one _ _ (.lit _) (by assumption) (by simp)
  ·cases hc
 | nil=>cases hc;exact one _ _ .nil rfl (by simp)
 | any _ h=>cases hc;exact one _ _ (.any _ h) rfl (by simp)
 | fn f a b va vb ha hb h1 h2=>cases hc;exact one _ _ (.fn f a b va vb ha hb h1 h2) rfl (by simp)
 | roNil A c=>cases hc;exact one _ _ (.roNil A c) rfl (by simp)
 | ro rows b off c esz vals h1 h2 h3 h4 h5 h6=>cases hc;exact one _ _ (.ro rows b off c esz vals h1 h2 h3 h4 h5 h6) rfl (by simp)
 | rp cs b off vals h1 h2 h3 h4=>cases hc;exact one _ _ (.rp cs b off vals h1 h2 h3 h4) rfl (by simp)
 | ptr id g row off p s h1 h2 h3 h4=>cases hc;exact one _ _ (.ptr id g row off p s h1 h2 h3 h4) rfl (by simp)
 | own id g len A l c s h1 h2 h3 h4=>cases hc;exact one _ _ (.own id g len A l c s h1 h2 h3 h4) rfl (by simp)
 | map id r s h1 h2 h3=>cases hc;exact one _ _ (.map id r s h1 h2 h3) rfl (by simp)
 | yld id b s h1 h2 h3=>cases hc;exact one _ _ (.yld id b s h1 h2 h3) rfl (by simp)
theorem Oa (op : BinOp) (t : TypeId) {k k' : IntKind} {a b : Int} {r : Value} (h : fp op (.int k a) (.int k' b) = some r) : (binOp op t (.int k a) (.int k' b)).run P w = .ok r w := by
  have sh (op : BinOp) (hop : op = .shl ∨ op = .shr) (hb : ¬ b < 0) : (binOp op t (.int k a) (.int k' b)).run P w = (Op.shift op k a k' b).run P w := by
    rcases hop with rfl | rfl <;> rfl
  cases op
  case shl =>
    simp only [fp] at h
    split at h
    · cases h
    · rename_i hb
      cases h
      rw [sh .shl (.inl rfl) hb]
      simp [Op.shift, hb]
  case shr =>
    simp only [fp] at h
    split at h
    · cases h
    · rename_i hb
      cases h
      rw [sh .shr (.inr rfl) hb]
      simp [Op.shift, hb]
  all_goals
    simp only [fp] at h
    split at h
    · rename_i hk
      subst hk
      first
      | (cases h; simp only [binOp]; simp [Op.intArith, Op.intBits, Op.intCmp]; done)
      | (split at h
         · cases h
         · rename_i hb; cases h; simp only [binOp]; simp [Op.intDiv, hb]; done)
    · cases h
theorem nK {t:TypeId} {k:IntKind} (h:FK P t=some k):P.underlying t=some (.int k):=by
 unfold FK at h
 split at h
 ·rename_i q hq;cases h;exact hq
 ·cases h
theorem pj {t:TypeId} (h:rM P t=true):P.underlying t=some .bool:=by
 unfold rM at h
 split at h
 ·assumption
 ·cases h
theorem EI (d:Nat) (vx vy:Array Value):∀ (fs:List Field) (k:Nat) (xs ys:List V) (r:Bool),eqT P fs k xs ys=some r →
  (∀ (i:Nat) (c:V),xs[i]? = some c→RelV R σ c (vx.getD (k+i) undef)∧k+i<vx.size)→(∀ (i:Nat) (c:V),ys[i]? = some c→RelV R σ c (vy.getD (k+i) undef)∧k+i<vy.size) →
  (Op.eqFields (d+1) vx vy fs).run P w = .ok r w:=by
 intro fs k xs ys
 induction fs,k,xs,ys using eqT.induct P with
 | case1=>intro r hl hx hy;cases hl;rfl
 | case2 f fs k ka a xs kb b ys hc ih=>
  intro r hl hx hy
  obtain ⟨hname,hoff,hk,rfl⟩:=hc
  obtain ⟨q,hq⟩:=Option.isSome_iff_exists.1 hk
  have hu:=nK hq
  simp only [eqT,hname,hoff,hk,ne_eq,not_false_eq_true,and_self,if_true,Option.map_eq_some_iff] at hl
  obtain ⟨s,hs,rfl⟩:=hl
  obtain ⟨hx0,hxs⟩:=hx 0 _ rfl
  obtain ⟨hy0,hys⟩:=hy 0 _ rfl
  rw [Nat.add_zero] at hx0 hxs hy0 hys
  have gx:vx.getD k undef = .int ka a:=hx0.lit_inv
  have gy:vy.getD k undef = .int ka b:=hy0.lit_inv
  have ex:vx[k]? = some (.int ka a):=by rw [← gx];simp [hxs]
  have ey:vy[k]? = some (.int ka b):=by rw [← gy];simp [hys]
  have ih:=ih s hs (fun i c hc=>by have:=hx (i+1) c (by simpa using hc);rwa [show k+1+i=k+(i+1) by omega])
   (fun i c hc=>by have:=hy (i+1) c (by simpa using hc);rwa [show k+1+i=k+(i+1) by omega])
  have agg:(isAgg f.type).run P w = .ok false w:=by simp [isAgg,run_underlying hu]
  have px:(part f.type vx f.offset).run P w = .ok (.int ka a) w:=by simp only [part,Sem.run_bind,agg,Result.andThen_ok,hoff,ex];rfl
  have py:(part f.type vy f.offset).run P w = .ok (.int ka b) w:=by simp only [part,Sem.run_bind,agg,Result.andThen_ok,hoff,ey];rfl
  have he:=run_equalIn_int (P:=P) w d f.type ka q a b hu
  simp only [Op.eqFields,if_pos hname,Sem.run_bind,px,py,he,Result.andThen_ok,Sem.run_ite]
  cases hab:(a==b)
  ·simp
  ·simp [ih]
 | case3 f fs k ka a xs kb b ys hc=>intro r hl;simp [eqT,hc] at hl
 | case4 f fs k a xs b ys hc ih=>
  intro r hl hx hy
  obtain ⟨hname,hoff,hk⟩:=hc
  have hu:=pj hk
  simp only [eqT,hname,hoff,hk,ne_eq,not_false_eq_true,and_self,if_true,Option.map_eq_some_iff] at hl
  obtain ⟨s,hs,rfl⟩:=hl
  obtain ⟨hx0,hxs⟩:=hx 0 _ rfl
  obtain ⟨hy0,hys⟩:=hy 0 _ rfl
  rw [Nat.add_zero] at hx0 hxs hy0 hys
  have gx:vx.getD k undef = .bool a:=hx0.lit_inv
  have gy:vy.getD k undef = .bool b:=hy0.lit_inv
  have ex:vx[k]? = some (.bool a):=by rw [← gx];simp [hxs]
  have ey:vy[k]? = some (.bool b):=by rw [← gy];simp [hys]
  have ih:=ih s hs (fun i c hc=>by have:=hx (i+1) c (by simpa using hc);rwa [show k+1+i=k+(i+1) by omega])
   (fun i c hc=>by have:=hy (i+1) c (by simpa using hc);rwa [show k+1+i=k+(i+1) by omega])
  have agg:(isAgg f.type).run P w = .ok false w:=by simp [isAgg,run_underlying hu]
  have px:(part f.type vx f.offset).run P w = .ok (.bool a) w:=by simp only [part,Sem.run_bind,agg,Result.andThen_ok,hoff,ex];rfl
  have py:(part f.type vy f.offset).run P w = .ok (.bool b) w:=by simp only [part,Sem.run_bind,agg,Result.andThen_ok,hoff,ey];rfl
  have he:=run_equalIn_bool (P:=P) w d f.type a b hu
  simp only [Op.eqFields,if_pos hname,Sem.run_bind,px,py,he,Result.andThen_ok,Sem.run_ite]
  cases hab:(a==b)
  ·simp
  ·simp [ih]
 | case5 f fs k a xs b ys hc=>intro r hl;simp [eqT,hc] at hl
 | case6 fs k xs ys h1 h2 h3=>intro r hl;rw [eqT.eq_4 _ _ _ _ _ h1 h2 h3] at hl;cases hl
theorem HJ {t:TypeId} {fs:List Field} (h:A8 P t=some fs):P.underlying t=some (.struct (P.fieldsOf t))∧(P.fieldsOf t).toList=fs:=by
 unfold A8 at h
 split at h
 ·rename_i q hq
  cases h
  simp [Program.fieldsOf,hq]
 ·cases h
theorem UT {op:BinOp} {t u:TypeId} {ox oy:Operand} {ρ:Operand→Value} {x y v:V} (o:Oper) (ho:o.op = .binOp op t ox oy u) (h:kZ P op t x y=some v)
  (hx:RelV R σ x (ρ ox)) (hy:RelV R σ y (ρ oy)):∃ cv,(execOp ρ o).run P w = .ok (.value cv) w∧RelV R σ v cv:=by
 unfold kZ at h
 split at h
 ·rename_i k a k' b
  simp only [Option.map_eq_some_iff] at h
  obtain ⟨r,hr,rfl⟩:=h
  generalize hvx:ρ ox=vx at hx
  generalize hvy:ρ oy=vy at hy
  cases hx;cases hy
  refine ⟨r,?_,.lit r⟩
  have hb:=Oa (P:=P) (w:=w) op t hr
  have hg:(eqGuard op t ox oy (.int k a) (.int k' b)).run P w = .ok () w:=by
   cases op <;> rfl
  simp only [execOp,ho,hvx,hvy,Sem.run_bind,hg,Result.andThen_ok,hb,Sem.run_pure]
 ·rename_i a b
  generalize hvx:ρ ox=vx at hx
  generalize hvy:ρ oy=vy at hy
  cases hx;cases hy
  split at h
  ·split at h
   ·rename_i hb
    cases h
    refine ⟨_,?_,.lit _⟩
    have hb:=run_eql_bool (P:=P) w t a b (pj hb)
    have hg:(eqGuard .eql t ox oy (.bool a) (.bool b)).run P w = .ok () w:=rfl
    simp only [execOp,ho,hvx,hvy,Sem.run_bind,hg,Result.andThen_ok,hb,Sem.run_pure]
   ·cases h
  ·split at h
   ·rename_i hb
    cases h
    refine ⟨_,?_,.lit _⟩
    have hb:=run_neq_bool (P:=P) w t a b (pj hb)
    have hg:(eqGuard .neq t ox oy (.bool a) (.bool b)).run P w = .ok () w:=rfl
    simp only [execOp,ho,hvx,hvy,Sem.run_bind,hg,Result.andThen_ok,hb,Sem.run_pure]
   ·cases h
  ·cases h
 ·rename_i xs ys
  generalize hvx:ρ ox=vx at hx
  generalize hvy:ρ oy=vy at hy
  cases hx with
  | agg _ ax hlx hox hhx=>
  cases hy with
  | agg _ ay hly hoy hhy=>
  have key:K0 P t=true→∀ fs,A8 P t=some fs→∀ r,eqT P fs 0 xs ys=some r→∀ op,(op = .eql∨op = .neq) →
    (eqGuard op t ox oy (.agg ax) (.agg ay)).run P w = .ok () w∧(Op.equalIn 10000 t (.agg ax) (.agg ay)).run P w = .ok r w:=by
   intro hp fs hfs r hr op hop
   simp only [K0,Bool.and_eq_true,Bool.not_eq_true'] at hp
   obtain ⟨hu,hl⟩:=HJ hfs
   refine ⟨run_eqGuard_agg w op t ox oy ax ay hp.2,?_⟩
   rw [run_equalIn_struct w 9999 t ax ay hu hp.1,hl]
   exact EI (R:=R) (σ:=σ) 9998 ax ay fs 0 xs ys r hr
    (fun i c hc=>by
     have:=hhx i c hc
     rw [Nat.zero_add]
     exact ⟨this,by rw [hlx];exact (List.getElem?_eq_some_iff.1 hc).1⟩)
    (fun i c hc=>by
     have:=hhy i c hc
     rw [Nat.zero_add]
     exact ⟨this,by rw [hly];exact (List.getElem?_eq_some_iff.1 hc).1⟩)
  split at h
  ·split at h
   ·rename_i hp
    simp only [Option.bind_eq_some_iff,Option.map_eq_some_iff] at h
    obtain ⟨fs,hfs,r,hr,rfl⟩:=h
    obtain ⟨hg,he⟩:=key hp fs hfs r hr .eql (.inl rfl)
    refine ⟨_,?_,.lit _⟩
    have hb:=run_eql_struct (P:=P) w t ax ay
    simp only [execOp,ho,hvx,hvy,Sem.run_bind,hg,Result.andThen_ok,hb,he,Sem.run_pure]
   ·cases h
  ·split at h
   ·rename_i hp
    simp only [Option.bind_eq_some_iff,Option.map_eq_some_iff] at h
    obtain ⟨fs,hfs,r,hr,rfl⟩:=h
    obtain ⟨hg,he⟩:=key hp fs hfs r hr .neq (.inr rfl)
    refine ⟨_,?_,.lit _⟩
    have hb:=run_neq_struct (P:=P) w t ax ay
    simp only [execOp,ho,hvx,hvy,Sem.run_bind,hg,Result.andThen_ok,hb,he,Sem.run_pure]
   ·cases h
  ·cases h
 ·cases h
end ops
end Go.Ab
namespace Go.Ab
open Go.RowKit
section ops
variable {P:Program} {wl B0:Nat} {w0:World} {R:Ro} {σ:List Sg} {H:Hp} {w:World}
theorem nv {t:TypeId} {b:Bool} (h:akq P t=some b):(isAgg t).run P w = .ok b w∧∃ i,P.info? t=some i:=by
 unfold akq at h
 have inf:∀ d,P.underlying t=some d→∃ i,P.info? t=some i:=by
  intro d hd
  cases hi:P.info? t with
  | none=>simp [Program.underlying,hi] at hd
  | some i=>exact ⟨i,rfl⟩
 split at h
 ·rename_i hu;cases h;exact ⟨by simp [isAgg,run_underlying hu],inf _ hu⟩
 ·rename_i hu;cases h;exact ⟨by simp [isAgg,run_underlying hu],inf _ hu⟩
 ·rename_i d h1 h2 hu
  cases h
  refine ⟨?_,inf _ hu⟩
  simp only [isAgg,Sem.run_bind,run_underlying hu,Result.andThen_ok]
  cases d <;> first | rfl | (exact absurd rfl (h1 _)) | (exact absurd rfl (h2 _ _))
 ·cases h
theorem nD {t:TypeId} (h:aR P t≠0):∃ i,P.info? t=some i∧i.size=aR P t:=by
 unfold aR Program.cellsOf at *
 cases hi:P.info? t with
 | none=>simp [hi] at h
 | some i=>exact ⟨i,rfl,by simp⟩
theorem lM {t:TypeId} {i:TypeInfo} (h:P.info? t=some i):(sizeOf t).run P w = .ok (aR P t) w:=run_sizeOf w h
theorem HL {l:List V} (h:bg l=true) {i:Nat} {x:V} (hx:l[i]? = some x):x.one=true:=by
 rw [bg,List.all_eq_true] at h
 exact h x (List.mem_of_getElem? hx)
theorem DC {l:List V} (n:Nat) (h:bg l=true):bg (l.take n)=true:=by
 rw [bg,List.all_eq_true] at *
 exact fun x hx=>h x (List.mem_of_mem_take hx)
theorem nc {l:List V} (n:Nat) (h:bg l=true):bg (l.drop n)=true:=by
 rw [bg,List.all_eq_true] at *
 exact fun x hx=>h x (List.mem_of_mem_drop hx)
theorem DF {l:List V} (n:Nat) (h:aW l=true):aW (l.drop n)=true:=by
 rw [uh] at *
 exact fun x hx=>h x (List.mem_of_mem_drop hx)
theorem Qh {t:TypeId} {cs:List V} {v:V} {b o:Nat} (vals:Nat→Value) (h:aS P t cs=some v) (ho:bg cs=true)
  (hv:∀ j x,cs[j]? = some x→RelV R σ x (vals j)) (hc:∀ (j:Nat) (x:V),cs[j]? = some x→w.cell? ⟨b,o+j,none⟩=some (vals j)) :
  ∃ cv,(loadVar t ⟨b,o,none⟩).run P w = .ok cv w∧RelV R σ v cv:=by
 unfold aS at h
 split at h
 ·rename_i ha
  obtain ⟨hr,i,hi⟩:=nv (P:=P) (w:=w) ha
  split at h
  ·rename_i hl
   cases h
   have hld:=run_loadCells (P:=P) w ⟨b,o,none⟩ (aR P t) vals (fun j hj=>by
    rw [cR]
    obtain ⟨x, hx⟩ : ∃ x, cs[j]? = some x := ⟨cs[j]'(by omega), by simp [show j < cs.length by omega]⟩
    exact hc j x hx)
   refine ⟨.agg ((List.range (aR P t)).map vals).toArray,?_,.agg _ _ (by simp;omega) (DC _ ho) (fun j x hx => ?_)⟩
   ·simp only [loadVar,Sem.run_bind,hr,Result.andThen_ok,if_true,lM hi,hld,Sem.run_pure]
   ·have hj:j<aR P t:=by
     have:=(List.getElem?_eq_some_iff.1 hx).1
     simp at this;omega
    rw [List.getElem?_take,if_pos hj] at hx
    have:=hv j x hx
    simpa [hj] using this
  ·cases h
 ·rename_i ha
  obtain ⟨hr,i,hi⟩:=nv (P:=P) (w:=w) ha
  have hx:cs[0]? = some v:=by rw [← h];cases cs <;> rfl
  have hcell:=hc 0 v hx
  rw [Nat.add_zero] at hcell
  refine ⟨vals 0,?_,hv 0 v hx⟩
  simp only [loadVar,Sem.run_bind,hr,Result.andThen_ok,Bool.false_eq_true,if_false,run_load,hcell]
 ·cases h
theorem eL {b o:Nat} {arr:Array Value} {e:TypeId} {fz:Nat×Nat} (h:w.heap[b]? = some (.cells arr e fz)):w.cell? ⟨b,o,none⟩=arr[o]? := by
 simp [World.cell?,h]
theorem wJ {id g row off:Nat} {cv:Value} (h:RelV R σ (.ptr id g row off) cv):∃ p s,cv = .pointer (some p)∧σ[id]? = some s∧s.hole=false∧g≤s.gen ∧
  (g=s.gen→∃ b,s.blk=some b∧p=⟨b,row*s.esz+off,none⟩):=by
 cases h with
 | ptr _ _ _ _ p s h1 h2 h3 h4=>exact ⟨p,s,rfl,h1,h2,h3,h4⟩
theorem mC {id g len:Nat} {cv:Value} (h:RelV R σ (.own id g len) cv):∃ A l c s,cv = .slice A l c∧σ[id]? = some s∧s.hole=false∧g≤s.gen ∧
  (g=s.gen→l=len∧(s.blk=none→len=0∧c=0)∧(∀ b,s.blk=some b→A=some ⟨b,0,none⟩∧len≤c∧c*s.esz≤s.cap)):=by
 cases h with
 | own _ _ _ A l c s h1 h2 h3 h4=>exact ⟨A,l,c,s,rfl,h1,h2,h3,h4⟩
theorem Hr (hI:Inv wl B0 w0 R σ H w) {t:TypeId} {a v:V} {ca:Value} (h:o8 P t a H=some v) (ha:RelV R σ a ca) :
  ∃ cv,(Instr.loadAt t ca).run P w = .ok cv w∧RelV R σ v cv:=by
 unfold o8 at h
 split at h
 ·rename_i cs
  cases ha with
  | rp _ b off vals hp ho hv hR=>
   obtain ⟨cv,h1,h2⟩:=Qh (w:=w) vals h ho hv (fun j x hx=>hI.ro _ _ _ (hR j x hx))
   exact ⟨cv,by simp only [Instr.loadAt,Instr.sureAddr,Sem.run_bind,Sem.run_pure,Result.andThen_ok,h1],h2⟩
 ·rename_i id g row off
  obtain ⟨p,s,rfl,hs,hh,hg,hl⟩:=wJ ha
  split at h
  ·rename_i cs hb
   split at h
   ·rename_i hc
    obtain ⟨rfl,rfl⟩:=hc
    obtain ⟨hgen,ho,b,arr,e,hblk,hheap,hrel,_⟩:=hI.blk id _ s hb hs hh
    obtain ⟨b',hb',rfl⟩:=hl hgen.symm
    rw [hblk] at hb'
    cases hb'
    obtain ⟨cv,h1,h2⟩:=Qh (w:=w) (R:=R) (σ:=σ) (b:=b) (o:=off) (fun j=>arr.getD (off+j) undef) h (nc _ ho)
     (fun j x hx=>hrel.2 (off+j) x (by rw [List.getElem?_drop] at hx;exact hx))
     (fun j x hx=>by
      rw [List.getElem?_drop] at hx
      obtain ⟨u,hu,_⟩:=hrel.get hx
      rw [eL hheap,hu]
      simp [hu])
    exact ⟨cv,by simp only [Instr.loadAt,Instr.sureAddr,Sem.run_bind,Sem.run_pure,Result.andThen_ok,Nat.zero_mul,Nat.zero_add,h1],h2⟩
   ·cases h
  ·rename_i esz rs g' live hb
   split at h
   ·rename_i hg'
    subst hg'
    simp only [Option.bind_eq_some_iff] at h
    obtain ⟨r,hr,h⟩:=h
    obtain ⟨hgen,hesz,_,hrow,hm⟩:=hI.blk id _ s hb hs hh
    obtain ⟨b,hblk,rfl⟩:=hl hgen.symm
    rw [hblk] at hm
    obtain ⟨arr,e,hheap,hcap,hcell,_⟩:=hm
    have hones:=(hrow r (List.mem_of_getElem? hr)).2
    obtain ⟨cv,h1,h2⟩:=Qh (w:=w) (R:=R) (σ:=σ) (b:=b) (o:=row*esz+off) (fun j=>arr.getD (row*esz+(off+j)) undef) h (nc _ hones)
     (fun j x hx=>by
      rw [List.getElem?_drop] at hx
      obtain ⟨u,hu,hrel⟩:=hcell row (off+j) r x hr hx
      simpa [hu] using hrel)
     (fun j x hx=>by
      rw [List.getElem?_drop] at hx
      obtain ⟨u,hu,hrel⟩:=hcell row (off+j) r x hr hx
      rw [eL hheap,show row*esz+off+j=row*esz+(off+j) by omega,hu]
      simp [hu])
    exact ⟨cv,by simp only [Instr.loadAt,Instr.sureAddr,Sem.run_bind,Sem.run_pure,Result.andThen_ok,hesz,h1],h2⟩
   ·cases h
  ·cases h
 ·cases h
theorem Td {x v:V} {cx:Value} {o:Oper} {ox:Operand} {ρ:Operand→Value} (ho:o.op = .nilCheck ox) (hI:Inv wl B0 w0 R σ H w) (h:OD x H=some v) (hx:RelV R σ x (ρ ox)) (hcx:ρ ox=cx) :
  (execOp ρ o).run P w = .ok (.value cx) w∧v=x:=by
 subst hcx
 have fin:∀ p,ρ ox = .pointer (some p)→(execOp ρ o).run P w = .ok (.value (ρ ox)) w:=by
  intro p hp
  simp only [execOp,ho,hp,Sem.run_pure]
 unfold OD at h
 split at h
 ·cases h
  generalize hc:ρ ox=c at hx
  cases hx
  exact ⟨by rw [← hc];exact fin _ hc,rfl⟩
 ·rename_i f a b
  split at h
  ·cases h
   generalize hc:ρ ox=c at hx
   cases hx
   exact ⟨by simp only [execOp,ho,hc,Sem.run_pure],rfl⟩
  ·cases h
 ·rename_i id g row off
  obtain ⟨p,s,hp,hs,hh,hg,hl⟩:=wJ hx
  split at h
  ·rename_i cs hb
   split at h
   ·rename_i hg0
    cases h
    obtain ⟨hgen,_,b,arr,e,hblk,_⟩:=hI.blk id _ s hb hs hh
    obtain ⟨b',_,rfl⟩:=hl (by omega)
    exact ⟨fin _ hp,rfl⟩
   ·cases h
  ·rename_i hb
   split at h
   ·rename_i hg0
    cases h
    obtain ⟨hgen,hesz,_⟩:=hI.blk id _ s hb hs hh
    obtain ⟨b',_,rfl⟩:=hl (by omega)
    exact ⟨fin _ hp,rfl⟩
   ·cases h
  ·cases h
 ·cases h
theorem BE {t:TypeId} {i:Nat} {f:Field} (h:K4 P t i=some f):∃ fs,P.underlying t=some (.struct fs)∧fs[i]? = some f:=by
 unfold K4 at h
 split at h
 ·rename_i fs hu;exact ⟨fs,hu,h⟩
 ·cases h
theorem C8 {t:TypeId} {i:Nat} {x v:V} {cx:Value} (h:ag P t x i=some v) (hx:RelV R σ x cx) :
  ∃ cv,(Instr.fieldAt t cx i).run P w = .ok cv w∧RelV R σ v cv:=by
 unfold ag at h
 split at h
 ·rename_i f hf
  obtain ⟨fs,hu,hfi⟩:=BE hf
  split at h
  ·cases h
  ·rename_i hsz
   obtain ⟨ti,hti,_⟩:=nD hsz
   have hplace:∀ a:Addr,(fieldPlace a f).run P w = .ok (a.add f.offset) w:=by
    intro a
    simp only [fieldPlace,Sem.run_bind,lM hti,Result.andThen_ok,if_neg hsz,Sem.run_pure]
   have hrun:∀ a:Addr,(Instr.fieldAt t (.pointer (some a)) i).run P w = .ok (.pointer (some (a.add f.offset))) w:=by
    intro a
    simp only [Instr.fieldAt,Sem.run_bind,run_underlying hu,Result.andThen_ok,hfi,Instr.sureAddr,Sem.run_pure,hplace]
   split at h
   ·rename_i cs
    cases h
    cases hx with
    | rp _ b off vals hp ho hv hR=>
     refine ⟨_,hrun _,?_⟩
     rw [cR]
     refine .rp _ b _ (fun j=>vals (f.offset+j)) (DF _ hp) (nc _ ho) (fun j y hy => ?_) (fun j y hy => ?_)
     ·rw [List.getElem?_drop] at hy;exact hv _ _ hy
     ·rw [List.getElem?_drop] at hy;rw [Nat.add_assoc];exact hR _ _ hy
   ·rename_i id g row off
    cases h
    obtain ⟨p,s,rfl,hs,hh,hg,hl⟩:=wJ hx
    refine ⟨_,hrun _,.ptr id g row _ _ s hs hh hg (fun e => ?_)⟩
    obtain ⟨b,hb,rfl⟩:=hl e
    exact ⟨b,hb,by rw [cR,Nat.add_assoc]⟩
   ·cases h
 ·cases h
theorem Ma {t:TypeId} {cs:List V} {vs:Array Value} {off:Nat} {v:V} (h:aS P t (cs.drop off)=some v) (ho:bg cs=true) (hr:b7 R σ cs vs) :
  ∃ cv,(part t vs off).run P w = .ok cv w∧RelV R σ v cv:=by
 unfold aS at h
 split at h
 ·rename_i ha
  obtain ⟨hag,i,hi⟩:=nv (P:=P) (w:=w) ha
  split at h
  ·rename_i hl
   cases h
   rw [List.length_drop] at hl
   refine ⟨.agg (vs.extract off (off+aR P t)),?_,.agg _ _ ?_ (DC _ (nc _ ho)) (fun j x hx => ?_)⟩
   ·simp only [part,Sem.run_bind,hag,Result.andThen_ok,if_true,lM hi,Sem.run_pure]
   ·have:=hr.1
    simp;omega
   ·have hj:j<aR P t:=by
     have:=(List.getElem?_eq_some_iff.1 hx).1
     simp at this;omega
    rw [List.getElem?_take,if_pos hj,List.getElem?_drop] at hx
    obtain ⟨u,hu,hrel⟩:=hr.get hx
    have:(vs.extract off (off+aR P t)).getD j undef=u:=by
     have h3:j<min (off+aR P t) vs.size - off:=by
      have:=(Array.getElem?_eq_some_iff.1 hu).1
      omega
     rw [Array.getD_eq_getD_getElem?,Array.getElem?_extract,if_pos h3,hu];rfl
    rw [this];exact hrel
  ·cases h
 ·rename_i ha
  obtain ⟨hag,i,hi⟩:=nv (P:=P) (w:=w) ha
  have hx:cs[off]? = some v:=by
   rw [← h]
   cases hd:cs.drop off with
   | nil=>rw [List.drop_eq_nil_iff] at hd;simp [hd]
   | cons y l=>have:=congrArg (fun l=>l[0]?) hd;simp [List.getElem?_drop] at this;simp [this]
  obtain ⟨u,hu,hrel⟩:=hr.get hx
  refine ⟨u,?_,hrel⟩
  simp only [part,Sem.run_bind,hag,Result.andThen_ok,Bool.false_eq_true,if_false,hu,Sem.run_pure]
 ·cases h
theorem Ez {cs:List V} {cv:Value} (h:RelV R σ (.agg cs) cv):∃ vs,cv = .agg vs∧bg cs=true∧b7 R σ cs vs:=by
 cases h with
 | agg _ vs hl ho hh=>exact ⟨vs,rfl,ho,hl,hh⟩
theorem Nm {t:TypeId} {i:Nat} {x v:V} {cx:Value} (h:Bc P t x i=some v) (hx:RelV R σ x cx) :
  ∃ cv,(Instr.field t cx i).run P w = .ok cv w∧RelV R σ v cv:=by
 unfold Bc at h
 split at h
 ·rename_i f cs hf
  obtain ⟨fs,hu,hfi⟩:=BE hf
  obtain ⟨vs,rfl,ho,hr⟩:=Ez hx
  obtain ⟨cv,h1,h2⟩:=Ma (w:=w) h ho hr
  exact ⟨cv,by simp only [Instr.field,Sem.run_bind,run_underlying hu,Result.andThen_ok,hfi,asAgg,Sem.run_pure,h1],h2⟩
 ·cases h
theorem Nz {t:TypeId} {x i v:V} {cx ci:Value} (h:Do P t x i=some v) (hx:RelV R σ x cx) (hi:RelV R σ i ci) :
  ∃ cv,(Instr.index t cx ci).run P w = .ok cv w∧RelV R σ v cv:=by
 unfold Do at h
 split at h
 ·rename_i k n cs
  cases hi
  obtain ⟨vs,rfl,ho,hr⟩:=Ez hx
  split at h
  ·rename_i len e hu
   split at h
   ·rename_i hn
    have hinfo:∃ ti,P.info? e=some ti:=by
     unfold aS at h
     split at h
     ·rename_i ha;exact (nv (P:=P) (w:=w) ha).2
     ·rename_i ha;exact (nv (P:=P) (w:=w) ha).2
     ·cases h
    obtain ⟨ti,hti⟩:=hinfo
    obtain ⟨cv,h1,h2⟩:=Ma (w:=w) h ho hr
    refine ⟨cv,?_,h2⟩
    simp only [Instr.index,asIntOf,Sem.run_bind,Sem.run_pure,Result.andThen_ok,run_underlying hu,Sem.run_ite,if_pos hn,lM hti,h1]
   ·cases h
  ·cases h
 ·cases h
theorem Da (hI:Inv wl B0 w0 R σ H w) {t:TypeId} {x i v:V} {cx ci:Value} (h:aA P t x i H=some v) (hx:RelV R σ x cx) (hi:RelV R σ i ci) :
  ∃ cv,(Instr.indexAt t cx ci).run P w = .ok cv w∧RelV R σ v cv:=by
 unfold aA at h
 split at h
 ·rename_i k n
  cases hi
  split at h
  ·rename_i hn
   split at h
   ·rename_i e hu
    have hrun:∀ (a:Addr) (l c:Nat),n.toNat<l→aR P e≠0→(Instr.indexAt t (.slice (some a) l c) (.int k n)).run P w = .ok (.pointer (some (a.add (n.toNat*aR P e)))) w:=by
     intro a l c hl hsz
     obtain ⟨ti,hti,_⟩:=nD hsz
     have hb:0≤n∧n<(l:Int):=⟨hn,by omega⟩
     simp only [Instr.indexAt,asIntOf,Sem.run_bind,Sem.run_pure,Result.andThen_ok,run_underlying hu,Sem.run_ite,if_pos hb,lM hti]
    split at h
    ·rename_i rows
     simp only [Option.bind_eq_some_iff] at h
     obtain ⟨r,hr,h⟩:=h
     split at h
     ·rename_i hsz
      obtain ⟨hlen,hsz⟩:=hsz
      cases h
      have hlt:=(List.getElem?_eq_some_iff.1 hr).1
      cases hx with
      | roNil A c=>simp at hr
      | ro _ b off c esz vals hc hs hp ho hv hR=>
       have hesz:esz=aR P e:=by rw [← hs r (List.mem_of_getElem? hr),hlen]
       subst hesz
       refine ⟨_,hrun _ _ _ hlt hsz,?_⟩
       rw [cR]
       refine .rp _ b _ (vals n.toNat) ?_ ?_ (fun j y hy=>hv _ j r y hr hy) (fun j y hy => ?_)
       ·exact (uh r).2 (fun y hy=>by
         obtain ⟨j,hj⟩:=List.mem_iff_getElem?.1 hy
         exact mB hp hr hj)
       ·rw [List.all_eq_true] at ho
        exact ho r (List.mem_of_getElem? hr)
       ·rw [Nat.add_assoc];exact hR _ j r y hr hy
     ·cases h
    ·rename_i id g len
     split at h
     ·rename_i s' rs g' live hb
      split at h
      ·rename_i hcond
       obtain ⟨rfl,rfl,hsz⟩:=hcond
       split at h
       ·rename_i hlt
        cases h
        obtain ⟨A,l,c,s,rfl,hs,hh,hg,hl⟩:=mC hx
        obtain ⟨hgen,hesz,_,hrow,hm⟩:=hI.blk id _ s hb hs hh
        obtain ⟨rfl,hnone,hsome⟩:=hl hgen.symm
        cases hblk:s.blk with
        | none=>have:=(hnone hblk).1;omega
        | some b=>
         obtain ⟨rfl,hlc,_⟩:=hsome b hblk
         refine ⟨_,hrun _ _ _ hlt hsz,.ptr id _ _ _ _ s hs hh hg (fun e=>⟨b,hblk,?_⟩)⟩
         rw [cR,hesz,Nat.zero_add,Nat.add_zero]
       ·cases h
      ·cases h
     ·cases h
    ·cases h
   ·rename_i len e hu
    split at h
    ·rename_i hcond
     obtain ⟨hlt,hsz⟩:=hcond
     obtain ⟨ti,hti,_⟩:=nD hsz
     have hb:0≤n∧n<(len:Int):=⟨hn,hlt⟩
     have hrun:∀ (a:Addr),(Instr.indexAt t (.pointer (some a)) (.int k n)).run P w = .ok (.pointer (some (a.add (n.toNat*aR P e)))) w:=by
      intro a
      simp only [Instr.indexAt,asIntOf,Sem.run_bind,Sem.run_pure,Result.andThen_ok,run_underlying hu,Instr.sureAddr,Sem.run_ite,if_pos hb,lM hti]
     split at h
     ·rename_i id g row off
      cases h
      obtain ⟨p,s,rfl,hs,hh,hg,hl⟩:=wJ hx
      refine ⟨_,hrun _,.ptr id g row _ _ s hs hh hg (fun e => ?_)⟩
      obtain ⟨b,hb,rfl⟩:=hl e
      exact ⟨b,hb,by rw [cR,Nat.add_assoc]⟩
     ·rename_i cs
      cases h
      cases hx with
      | rp _ b off vals hp ho hv hR=>
       refine ⟨_,hrun _,?_⟩
       rw [cR]
       refine .rp _ b _ (fun j=>vals (n.toNat*aR P e+j)) (DF _ hp) (nc _ ho) (fun j y hy => ?_) (fun j y hy => ?_)
       ·rw [List.getElem?_drop] at hy;exact hv _ _ hy
       ·rw [List.getElem?_drop] at hy;rw [Nat.add_assoc];exact hR _ _ hy
     ·cases h
    ·cases h
   ·cases h
  ·cases h
 ·cases h
theorem ki {t e:TypeId} (h:mF P t=some e):P.underlying t=some (.slice e):=by
 unfold mF at h
 split at h
 ·rename_i q hq;cases h;exact hq
 ·cases h
theorem VQ (hI:Inv wl B0 w0 R σ H w) {t ty e:TypeId} {x v:V} {cx:Value} (he:mF P t=some e) (h:AM x H=some v) (hx:RelV R σ x cx) :
  ∃ cv,(Builtin.len_ #[t] ty #[cx]).run P w = .ok cv w∧RelV R σ v cv:=by
 have hu:=ki he
 have hrun:∀ (A:Option Addr) (n c:Nat),(Builtin.len_ #[t] ty #[.slice A n c]).run P w = .ok (.int .i64 n) w:=by
  intro A n c
  simp [Builtin.len_,run_underlying hu,goInt]
 unfold AM at h
 split at h
 ·rename_i rows
  cases h
  cases hx with
  | roNil A c=>exact ⟨_,hrun _ _ _,.lit _⟩
  | ro _ b off c esz vals h1 h2 h3 h4 h5 h6=>exact ⟨_,hrun _ _ _,.lit _⟩
 ·cases h
  cases hx
  exact ⟨_,hrun _ _ _,.lit _⟩
 ·rename_i id g len
  split at h
  ·rename_i sz rs g' live hb
   split at h
   ·rename_i hg
    subst hg
    cases h
    obtain ⟨A,l,c,s,rfl,hs,hh,hg,hl⟩:=mC hx
    obtain ⟨hgen,_⟩:=hI.blk id _ s hb hs hh
    obtain ⟨rfl,_⟩:=hl hgen.symm
    exact ⟨_,hrun _ _ _,.lit _⟩
   ·cases h
  ·cases h
 ·cases h
theorem HW {x v:V} {cx:Value} {i:Nat} (h:lP x i=some v) (hx:RelV R σ x cx):∃ cv,(Instr.extract cx i).run P w = .ok cv w∧RelV R σ v cv:=by
 unfold lP at h
 split at h
 ·cases hx with
  | tup _ vs hl hh=>
   have hr:b7 R σ _ vs:=⟨hl,hh⟩
   obtain ⟨u,hu,hrel⟩:=hr.get h
   exact ⟨u,by simp only [Instr.extract,hu,Sem.run_pure],hrel⟩
 ·cases h
theorem X7 {op:UnOp} {x v:V} {cx:Value} (h:vUn op x=some v) (hx:RelV R σ x cx):∃ cv,(Op.unary op cx).run P w = .ok cv w∧RelV R σ v cv:=by
 unfold vUn at h
 split at h
 ·cases h;cases hx;exact ⟨_,rfl,.lit _⟩
 ·cases h;cases hx;exact ⟨_,rfl,.lit _⟩
 ·cases h
theorem Qb {src dst:TypeId} {x v:V} {cx:Value} (h:C5 P src dst x=some v) (hx:RelV R σ x cx):∃ cv,(convert src dst cx).run P w = .ok cv w∧RelV R σ v cv:=by
 unfold C5 at h
 split at h
 ·split at h
  ·rename_i k hk
   split at h
   ·rename_i hs
    cases h;cases hx
    obtain ⟨q,hq⟩:=Option.isSome_iff_exists.1 hs
    exact ⟨_,by simp only [convert,Sem.run_bind,run_underlying (nK hq),run_underlying (nK hk),Result.andThen_ok];rfl,.lit _⟩
   ·cases h
  ·cases h
 ·cases h
theorem Ps {c a b v:V} {cc ca cb:Value} (h:EY c a b=some v) (hc:RelV R σ c cc) (ha:RelV R σ a ca) (hb:RelV R σ b cb) :
  ∃ t,cc = .bool t∧RelV R σ v (if t then ca else cb):=by
 unfold EY at h
 split at h
 ·rename_i t
  cases h
  cases hc
  refine ⟨t,rfl,?_⟩
  cases t
  ·exact hb
  ·exact ha
 ·cases h
theorem A6 {m:Bool} {ts:Array TypeId} {ty:TypeId} {args:List V} {cargs:Array Value} {v:V} (h:lx m args=some v) (hx:b7 R σ args cargs) :
  ∃ cv,(if m then Builtin.max_ ts ty cargs else Builtin.min_ ts ty cargs).run P w = .ok cv w∧RelV R σ v cv:=by
 unfold lx at h
 split at h
 ·rename_i k a k' b
  split at h
  ·rename_i hk
   subst hk
   cases h
   obtain ⟨u0,hu0,r0⟩:=hx.get (i:=0) rfl
   obtain ⟨u1,hu1,r1⟩:=hx.get (i:=1) rfl
   have e0:=r0.lit_inv
   have e1:=r1.lit_inv
   subst e0 e1
   have hc:cargs = #[.int k a,.int k b]:=by
    have hl:=hx.1
    apply Array.ext_getElem?
    intro i
    match i with
    | 0=>simpa using hu0
    | 1=>simpa using hu1
    | i+2=>rw [Array.getElem?_eq_none (by rw [hl];simp)];simp
   subst hc
   cases m
   ·exact ⟨_,run_min_int2 w ts ty k k a b,.lit _⟩
   ·exact ⟨_,run_max_int2 w ts ty k k a b,.lit _⟩
  ·cases h
 ·cases h
end ops
end Go.Ab
namespace Go.Ab
open Go.RowKit
section heap
variable {P:Program} {wl B0:Nat} {w0:World} {R R':Ro} {σ σ':List Sg} {H:Hp} {w w':World}
theorem Kn.mono {s:Sg} {b:B} (h:Kn R σ w s b) (hR:iz R R') (hσ:Ext σ σ') (hw:∀ k,s.blk=some k→w'.heap[k]? = w.heap[k]?)
  (hn:∀ k o,s.blk=some k→R' k o≠none→R k o≠none):Kn R' σ' w' s b:=by
 cases b with
 | rows esz rs g live=>
  obtain ⟨h1,h2,h0,h3,h4⟩:=h
  refine ⟨h1,h2,h0,h3,?_⟩
  cases hb:s.blk with
  | none=>rw [hb] at h4;exact h4
  | some k=>
   rw [hb] at h4
   obtain ⟨arr,e,h5,h6,h7,h8⟩:=h4
   exact ⟨arr,e,(hw k hb).trans h5,h6,fun i j r x hr hx=>let ⟨cv,a1,a2⟩:=h7 i j r x hr hx;⟨cv,a1,a2.mono hR hσ⟩,fun o ho=>h8 o (hn k o hb ho)⟩
 | box cs=>
  obtain ⟨h1,h2,k,arr,e,h3,h4,h5,h6⟩:=h
  refine ⟨h1,h2,k,arr,e,h3,(hw k h3).trans h4,h5.mono hR hσ,fun o => ?_⟩
  cases hr:R' k o with
  | none=>rfl
  | some v=>exact absurd (h6 o) (hn k o h3 (by simp [hr]))
 | map es=>
  obtain ⟨h1,k,ents,clock,h3,h4,h5,h6⟩:=h
  exact ⟨h1,k,ents,clock,h3,(hw k h3).trans h4,h5,fun i e he=>let ⟨m,a1,a2,a3⟩:=h6 i e he;⟨m,a1,a2,a3.mono hR hσ⟩⟩
 | dead=>trivial
 | loop l=>
  obtain ⟨h1,k,r,h3,h4,h5,h6,h8,h9,h10,h11⟩:=h
  exact ⟨h1,k,r,h3,(hw k h3).trans h4,h5,h6,h8,h9,h10,h11.mono hR hσ⟩
theorem Inv.ro_lt (hI:Inv wl B0 w0 R σ H w) {b o:Nat} (h:R b o≠none):b<w.heap.size:=by
 cases hr:R b o with
 | none=>exact absurd hr h
 | some v=>
  have:=hI.ro b o v hr
  cases hb:w.heap[b]? with
  | none=>simp [World.cell?,hb] at this
  | some x=>exact (Array.getElem?_eq_some_iff.1 hb).1
theorem Inv.world (hI:Inv wl B0 w0 R σ H w) (hb:Below w.heap.size w w'):Inv wl B0 w0 R σ H w' where
 below:=hI.below.trans (hb.mono hI.base)
 base:=Nat.le_trans hI.base hb.size
 len:=hI.len
 blk id b s h1 h2 hh:=by
  by_cases hd:b.isDead=true
  ·cases b <;> first | trivial | cases hd
  ·have hd:b.isDead=false:=by simpa using hd
   exact (hI.blk id b s h1 h2 hh).mono (iz.refl R) (Ext.refl σ) (fun k hk=>hb.block k (hI.lt id b s k h1 hd h2 hk)) (fun _ _ _ h=>h)
 inj:=hI.inj
 ge:=hI.ge
 lt id x s b h1 h2 h3 h4:=Nat.lt_of_lt_of_le (hI.lt id x s b h1 h2 h3 h4) hb.size
 ro b o v hv:=by
  have h1:=hI.ro b o v hv
  have hlt:=hI.ro_lt (b:=b) (o:=o) (by simp [hv])
  rw [hb.cell (p:=⟨b,o,none⟩) hlt];exact h1
theorem Inv.stp (hI:Inv wl B0 w0 R σ H w) {T:Nat→Prop} (hb:Below w.heap.size w w'):Stp T wl B0 w0 R σ w R σ H w':=
 ⟨hI.world hb,Ext.refl σ,iz.refl R,fun _ _ h => .inl h,fun b hlt _=>hb.block b hlt,fun b _ hd=>hb.block b (Array.getElem?_eq_some_iff.1 hd).1,fun _ _ h _=>h⟩
theorem fT {α:Type} {l:List α} {a x:α} {i:Nat} (h:(l++[a])[i]? = some x):(i<l.length∧l[i]? = some x)∨(i=l.length∧x=a):=by
 by_cases hi:i<l.length
 ·rw [List.getElem?_append_left hi] at h;exact .inl ⟨hi,h⟩
 ·have h2:=(List.getElem?_eq_some_iff.1 h).1
  simp at h2
  have:i=l.length:=by omega
  subst this
  simp at h
  exact .inr ⟨rfl,h.symm⟩
theorem Inv.push (hI:Inv wl B0 w0 R σ H w) {b:B} {s:Sg} (hb:Below w.heap.size w w')
  (hs:∀ k,s.blk=some k→w.heap.size≤k∧k<w'.heap.size) (hr:Kn R (σ++[s]) w' s b):Inv wl B0 w0 R (σ++[s]) (H++[b]) w':=by
 have hW:=hI.world hb
 have old:∀ (id:Nat) (x:B) (y:Sg),(H++[b])[id]? = some x→(σ++[s])[id]? = some y→(H[id]? = some x∧σ[id]? = some y)∨(id=H.length∧x=b∧y=s):=by
  intro id x y h1 h2
  rcases fT h1 with ⟨hlt,h1⟩ | ⟨e,h1⟩
  ·rcases fT h2 with ⟨_,h2⟩ | ⟨e2,h2⟩
   ·exact .inl ⟨h1,h2⟩
   ·rw [hI.len] at e2;omega
  ·rcases fT h2 with ⟨hlt,h2⟩ | ⟨e2,h2⟩
   ·rw [hI.len] at hlt;omega
   ·exact .inr ⟨e,h1,h2⟩
 have oldlt:∀ (id:Nat) (x:B) (y:Sg) (k:Nat),H[id]? = some x→x.isDead=false→σ[id]? = some y→y.blk=some k→k<w.heap.size:=hI.lt
 refine ⟨hW.below,hW.base,by simp [hI.len],?_,?_,?_,?_,hW.ro⟩
 ·intro id x y h1 h2 hh
  rcases old id x y h1 h2 with ⟨a,c⟩ | ⟨rfl,rfl,rfl⟩
  ·exact (hW.blk id x y a c hh).mono (iz.refl R) (Ext.append σ [s]) (fun _ _=>rfl) (fun _ _ _ h=>h)
  ·exact hr
 ·intro i j bi bj si sj k h1 h2 d1 d2 h3 h4 e1 e2
  rcases old i bi si h1 h3 with ⟨a,c⟩ | ⟨rfl,rfl,rfl⟩
  ·rcases old j bj sj h2 h4 with ⟨a',c'⟩ | ⟨rfl,rfl,rfl⟩
   ·exact hI.inj i j bi bj si sj k a a' d1 d2 c c' e1 e2
   ·have:=oldlt i bi si k a d1 c e1;have:=(hs k e2).1;omega
  ·rcases old j bj sj h2 h4 with ⟨a',c'⟩ | ⟨rfl,rfl,rfl⟩
   ·have:=oldlt j bj sj k a' d2 c' e2;have:=(hs k e1).1;omega
   ·rfl
 ·intro id x y k hle h1 d h2 e
  rcases old id x y h1 h2 with ⟨a,c⟩ | ⟨rfl,rfl,rfl⟩
  ·exact hI.ge id x y k hle a d c e
  ·have:=(hs k e).1;have:=hI.base;omega
 ·intro id x y k h1 d h2 e
  rcases old id x y h1 h2 with ⟨a,c⟩ | ⟨rfl,rfl,rfl⟩
  ·exact hW.lt id x y k a d c e
  ·exact (hs k e).2
theorem Inv.push_stp (hI:Inv wl B0 w0 R σ H w) {T:Nat→Prop} {b:B} {s:Sg} (hb:Below w.heap.size w w')
  (hs:∀ k,s.blk=some k→w.heap.size≤k∧k<w'.heap.size) (hr:Kn R (σ++[s]) w' s b):Stp T wl B0 w0 R σ w R (σ++[s]) (H++[b]) w':=
 ⟨hI.push hb hs hr,Ext.append σ [s],iz.refl R,fun _ _ h => .inl h,fun b hlt _=>hb.block b hlt,fun b _ hd=>hb.block b (Array.getElem?_eq_some_iff.1 hd).1,fun id s hs _=>by rw [List.getElem?_append_left (List.getElem?_eq_some_iff.1 hs).1];exact hs⟩
theorem Inv.notDfr (hI:Inv wl B0 w0 R σ H w) {id:Nat} {b:B} {s:Sg} (hH:H[id]? = some b) (hd:b.isDead=false) (hσ:σ[id]? = some s) (hh:s.hole=false) {k:Nat} {ds:Option (List Deferred)}
  (hk:w.heap[k]? = some (.deferred ds)):s.blk≠some k:=by
 intro e
 have h:=hI.blk id b s hH hσ hh
 cases b with
 | rows esz rs g live=>
  obtain ⟨_,_,_,_,h4⟩:=h
  rw [e] at h4
  obtain ⟨arr,e',h5,_⟩:=h4
  rw [hk] at h5;cases h5
 | box cs=>
  obtain ⟨_,_,k',arr,e',h3,h4,_⟩:=h
  rw [e] at h3;cases h3
  rw [hk] at h4;cases h4
 | map es=>
  obtain ⟨_,k',ents,clock,h3,h4,_⟩:=h
  rw [e] at h3;cases h3
  rw [hk] at h4;cases h4
 | dead=>cases hd
 | loop l=>
  obtain ⟨_,k',r,h3,h4,_⟩:=h
  rw [e] at h3;cases h3
  rw [hk] at h4;cases h4
theorem ba {α:Type} {l:List α} {n i:Nat} {a x:α} (h:(l.set n a)[i]? = some x):(i=n∧x=a∧n<l.length)∨(i≠n∧l[i]? = some x):=by
 by_cases hi:i=n
 ·subst hi
  rw [List.getElem?_set_self'] at h
  cases hl:l[i]? with
  | none=>rw [hl] at h;cases h
  | some y=>rw [hl] at h;cases h;exact .inl ⟨rfl,rfl,(List.getElem?_eq_some_iff.1 hl).1⟩
 ·rw [List.getElem?_set_ne (by omega)] at h
  exact .inr ⟨hi,h⟩
theorem Inv.set (hI:Inv wl B0 w0 R σ H w) {id:Nat} {b b':B} {s s':Sg} (hH:H[id]? = some b) (hd:b.isDead=false) (hσ:σ[id]? = some s) (hh:s.hole=false) (hle:wl≤id)
  (hsg:wQ s s') (hbl:∀ k,s'.blk=some k→s.blk=some k∨(w.heap.size≤k∧k<w'.heap.size))
  (hb:Below B0 w w') (hsz:w.heap.size≤w'.heap.size) (hw:∀ k,k<w.heap.size→s.blk≠some k→w'.heap[k]? = w.heap[k]?)
  (hR:iz R R') (hn:∀ k o,R' k o≠none→R k o≠none∨s.blk=some k)
  (hro:∀ k o v,R' k o=some v→s.blk=some k→w'.cell? ⟨k,o,none⟩=some v)
  (hr:Kn R' (σ.set id s') w' s' b'):Stp (fun k=>s.blk=some k) wl B0 w0 R σ w R' (σ.set id s') (H.set id b') w':=by
 have hlt:id<σ.length:=(List.getElem?_eq_some_iff.1 hσ).1
 have hext:Ext σ (σ.set id s'):=by
  intro i t ht
  by_cases hi:i=id
  ·subst hi
   rw [hσ] at ht;cases ht
   exact ⟨s',by rw [List.getElem?_set_self hlt],hsg⟩
  ·exact ⟨t,by rw [List.getElem?_set_ne (by omega)];exact ht,wQ.refl t⟩
 have hother:∀ (i:Nat) (x:B) (y:Sg) (k:Nat),i≠id→H[i]? = some x→x.isDead=false→σ[i]? = some y→y.blk=some k→s.blk≠some k:=by
  intro i x y k hi h1 d h2 e e2
  exact hi (hI.inj i id x b y s k h1 hH d hd h2 hσ e e2)
 refine ⟨⟨hI.below.trans hb,Nat.le_trans hI.base hsz,by simp [hI.len],?_,?_,?_,?_,?_⟩,hext,hR,?_,?_,?_,?_⟩
 ·intro i x y h1 h2 hhy
  rcases ba h1 with ⟨rfl,rfl,_⟩ | ⟨hi,h1⟩
  ·rcases ba h2 with ⟨_,rfl,_⟩ | ⟨hi,_⟩
   ·exact hr
   ·exact absurd rfl hi
  ·rcases ba h2 with ⟨e,_⟩ | ⟨_,h2⟩
   ·exact absurd e hi
   ·by_cases hdx:x.isDead=true
    ·cases x <;> first | trivial | cases hdx
    ·have hdx:x.isDead=false:=by simpa using hdx
     exact (hI.blk i x y h1 h2 hhy).mono hR hext
      (fun k hk=>hw k (hI.lt i x y k h1 hdx h2 hk) (hother i x y k hi h1 hdx h2 hk))
      (fun k o hk ho=>(hn k o ho).elim (fun h=>h) (fun h=>absurd h (hother i x y k hi h1 hdx h2 hk)))
 ·intro i j bi bj si sj k h1 h2 d1 d2 h3 h4 e1 e2
  rcases ba h1 with ⟨rfl,rfl,_⟩ | ⟨hi,h1⟩
  ·rcases ba h2 with ⟨rfl,_,_⟩ | ⟨hj,h2⟩
   ·rfl
   ·rcases ba h3 with ⟨_,rfl,_⟩ | ⟨hi,_⟩
    ·rcases ba h4 with ⟨e,_⟩ | ⟨_,h4⟩
     ·exact absurd e hj
     ·rcases hbl k e1 with hk | hk
      ·exact absurd hk (hother j bj sj k hj h2 d2 h4 e2)
      ·have:=hI.lt j bj sj k h2 d2 h4 e2;omega
    ·exact absurd rfl hi
  ·rcases ba h3 with ⟨e,_⟩ | ⟨_,h3⟩
   ·exact absurd e hi
   ·rcases ba h2 with ⟨e0,e3,_⟩ | ⟨hj,h2⟩
    ·rcases ba h4 with ⟨_,e4,_⟩ | ⟨hj,_⟩
     ·rw [e4] at e2
      rcases hbl k e2 with hk | hk
      ·exact absurd hk (hother i bi si k hi h1 d1 h3 e1)
      ·have:=hI.lt i bi si k h1 d1 h3 e1;omega
     ·exact absurd e0 hj
    ·rcases ba h4 with ⟨e,_⟩ | ⟨_,h4⟩
     ·exact absurd e hj
     ·exact hI.inj i j bi bj si sj k h1 h2 d1 d2 h3 h4 e1 e2
 ·intro i x y k hle' h1 d h2 e
  rcases ba h1 with ⟨rfl,rfl,_⟩ | ⟨hi,h1⟩
  ·rcases ba h2 with ⟨_,rfl,_⟩ | ⟨hi,_⟩
   ·rcases hbl k e with hk | hk
    ·exact hI.ge i b s k hle hH hd hσ hk
    ·have:=hI.base;omega
   ·exact absurd rfl hi
  ·rcases ba h2 with ⟨e,_⟩ | ⟨_,h2⟩
   ·exact absurd e hi
   ·exact hI.ge i x y k hle' h1 d h2 e
 ·intro i x y k h1 d h2 e
  rcases ba h1 with ⟨rfl,rfl,_⟩ | ⟨hi,h1⟩
  ·rcases ba h2 with ⟨_,rfl,_⟩ | ⟨hi,_⟩
   ·rcases hbl k e with hk | hk
    ·exact Nat.lt_of_lt_of_le (hI.lt i b s k hH hd hσ hk) hsz
    ·exact hk.2
   ·exact absurd rfl hi
  ·rcases ba h2 with ⟨e,_⟩ | ⟨_,h2⟩
   ·exact absurd e hi
   ·exact Nat.lt_of_lt_of_le (hI.lt i x y k h1 d h2 e) hsz
 ·intro k o v hv
  by_cases hk:s.blk=some k
  ·exact hro k o v hv hk
  ·rcases hn k o (by simp [hv]) with h | h
   ·cases hr0:R k o with
    | none=>exact absurd hr0 h
    | some u=>
     have hu:=hR k o u hr0
     rw [hv] at hu;cases hu
     have hc:=hI.ro k o v hr0
     have hl:=hI.ro_lt (b:=k) (o:=o) h
     have hkk:=hw k hl hk
     simp only [World.cell?] at hc ⊢
     rw [hkk];exact hc
   ·exact absurd h hk
 ·intro k o ho
  rcases hn k o ho with h | h
  ·exact .inl h
  ·exact .inr (.inl h)
 ·intro k hk hT
  exact hw k hk hT
 ·intro k ds hk
  exact hw k (Array.getElem?_eq_some_iff.1 hk).1 (hI.notDfr hH hd hσ hh hk)
 ·intro i t ht hht
  have hi:i≠id:=fun e=>by subst e;rw [hσ] at ht;cases ht;rw [hh] at hht;cases hht
  rw [List.getElem?_set_ne (by omega)];exact ht
end heap
end Go.Ab
namespace Go.Ab
open Go.RowKit
section ops
variable {P:Program} {wl B0:Nat} {w0:World} {R R':Ro} {σ σ':List Sg} {H:Hp} {w w':World}
abbrev TB (B0:Nat):Nat→Prop:=fun k=>B0≤k
theorem Stp.widen {T T':Nat→Prop} (h:Stp T wl B0 w0 R σ w R' σ' H w') (ht:∀ k,T k→T' k):Stp T' wl B0 w0 R σ w R' σ' H w':=
 ⟨h.inv,h.ext,h.le,fun b o hb=>by
  rcases h.new b o hb with h1 | h1 | h1
  ·exact .inl h1
  ·exact .inr (.inl (ht b h1))
  ·exact .inr (.inr h1),fun b hb hT=>h.fr b hb (fun h1=>hT (ht b h1)),h.df,h.hl⟩
theorem lO (hI:Inv wl B0 w0 R σ H w) {id esz g:Nat} {rs:List (List V)} {live:Bool} {s:Sg} (hb:H[id]? = some (.rows esz rs g live)) (hs:σ[id]? = some s) (hh:s.hole=false) :
  s.gen=g∧s.esz=esz∧(s.blk≠none→esz≠0)∧(∀ r ∈ rs,r.length=esz∧bg r=true)∧(s.blk=none→rs=[]) ∧
  (∀ b,s.blk=some b→∃ (arr:Array Value) (e:TypeId),w.heap[b]? = some (.cells arr e (0,0))∧arr.size=s.cap ∧
   (∀ (i j:Nat) (r:List V) (x:V),rs[i]? = some r→r[j]? = some x→∃ cv,arr[i*esz+j]? = some cv∧RelV R σ x cv)∧(∀ (o:Nat),R b o≠none→live=false∧o<rs.length*esz)):=by
 obtain ⟨h1,h2,h0,h3,h4⟩:=hI.blk id _ s hb hs hh
 refine ⟨h1,h2,h0,h3,fun e => ?_,fun b e => ?_⟩
 ·rw [e] at h4;exact h4
 ·rw [e] at h4;exact h4
theorem fY {α:Type} {l:List α} {n i:Nat} {x:α} (h:(l.take n)[i]? = some x):l[i]? = some x∧i<n:=by
 rw [List.getElem?_take] at h
 split at h
 ·exact ⟨h,by assumption⟩
 ·cases h
theorem Kh (hI:Inv wl B0 w0 R σ H w) {v v':V} {H':Hp} {cv:Value} (h:fzC wl v H=some (v',H')) (hv:RelV R σ v cv) :
  ∃ R',Stp (TB B0) wl B0 w0 R σ w R' σ H' w∧RelV R' σ v' cv:=by
 unfold fzC at h
 split at h
 ·rename_i id g len
  split at h
  ·rename_i esz rs g' live hb
   split at h
   ·rename_i hg
    obtain ⟨rfl,hlen⟩:=hg
    split at h
    ·rename_i hp
     rw [Bool.and_eq_true] at hp
     obtain ⟨hp,hwl⟩:=hp
     have hwl:wl≤id:=Nat.le_of_ble_eq_true hwl
     cases h
     obtain ⟨A,l,c,s,rfl,hs,hh,hg,hl⟩:=mC hv
     obtain ⟨hgen,hesz,hz0,hrow,hnone,hsome⟩:=lO hI hb hs hh
     obtain ⟨rfl,hn,hsm⟩:=hl hgen.symm
     cases hblk:s.blk with
     | none=>
      have:=hnone hblk;subst this
      have h0:=hn hblk
      have hset:σ.set id s=σ:=by
       apply List.ext_getElem?
       intro i
       by_cases hi:i=id
       ·subst hi;rw [List.getElem?_set_self (List.getElem?_eq_some_iff.1 hs).1,hs]
       ·rw [List.getElem?_set_ne (by omega)]
      have hst:=hI.set (R':=R) (w':=w) (b' := .rows esz [] g false) (s':=s) hb rfl hs hh hwl (wQ.refl s) (fun k hk => .inl hk) (Below.refl _ _) (Nat.le_refl _) (fun _ _ _=>rfl) (iz.refl R) (fun _ _ h => .inl h)
       (fun k o v hv hk=>by rw [hblk] at hk;cases hk)
       ⟨hgen,hesz,hz0,by simp,by rw [hblk]⟩
      rw [hset] at hst
      refine ⟨R,hst.widen (fun k hk=>by rw [hblk] at hk;cases hk),?_⟩
      rw [List.take_nil,h0.1]
      exact .roNil _ _
     | some b=>
      obtain ⟨arr,e,hheap,hcap,hcell,hro⟩:=hsome b hblk
      obtain ⟨rfl,hlc,hce⟩:=hsm b hblk
      let R':Ro:=fun k o=>if k=b then (if o<rs.length*esz then arr[o]? else none) else R k o
      have hRle:iz R R':=by
       intro k o u hu
       by_cases hk:k=b
       ·subst hk
        have h1:=hro o (by simp [hu])
        have h2:=hI.ro k o u hu
        rw [eL hheap] at h2
        show (if k=k then _ else _)=_
        rw [if_pos rfl,if_pos h1.2,h2]
       ·show (if k=b then _ else _)=_
        rw [if_neg hk];exact hu
      have hset:σ.set id s=σ:=by
       apply List.ext_getElem?
       intro i
       by_cases hi:i=id
       ·subst hi;rw [List.getElem?_set_self (List.getElem?_eq_some_iff.1 hs).1,hs]
       ·rw [List.getElem?_set_ne (by omega)]
      have hst:=hI.set (R':=R') (w':=w) (b' := .rows esz rs g false) (s':=s) hb rfl hs hh hwl (wQ.refl s) (fun k hk => .inl hk) (Below.refl _ _) (Nat.le_refl _) (fun _ _ _=>rfl) hRle
       (fun k o ho=>by
        by_cases hk:k=b
        ·subst hk;exact .inr hblk
        ·refine .inl ?_
         have:R' k o=R k o:=by show (if k=b then _ else _)=_;rw [if_neg hk]
         rwa [this] at ho)
       (fun k o v hv hk=>by
        rw [hblk] at hk;cases hk
        have:R' b o=if o<rs.length*esz then arr[o]? else none:=by show (if b=b then _ else _)=_;rw [if_pos rfl]
        rw [this] at hv
        split at hv
        ·rw [eL hheap];exact hv
        ·cases hv)
       ⟨hgen,hesz,hz0,hrow,by
        rw [hblk]
        refine ⟨arr,e,hheap,hcap,fun i j r x hr hx => ?_,fun o ho=>⟨rfl,?_⟩⟩
        ·obtain ⟨cv,h1,h2⟩:=hcell i j r x hr hx
         exact ⟨cv,h1,by rw [hset];exact h2.mono hRle (Ext.refl σ)⟩
        ·have:R' b o=if o<rs.length*esz then arr[o]? else none:=by show (if b=b then _ else _)=_;rw [if_pos rfl]
         rw [this] at ho
         split at ho
         ·assumption
         ·exact absurd rfl ho⟩
      rw [hset] at hst
      refine ⟨R',hst.widen (fun k hk=>hI.ge id _ s k hwl hb rfl hs hk),?_⟩
      by_cases h0:l=0
      ·subst h0;rw [List.take_zero];exact .roNil _ _
      ·have htl:(rs.take l).length=l:=by rw [List.length_take];omega
       have:=RelV.ro (R:=R') (σ:=σ) (rs.take l) b 0 c esz (fun i j=>arr.getD (i*esz+j) undef) (by rw [htl];omega)
        (fun r hr=>(hrow r (List.mem_of_mem_take hr)).1)
        (by
         unfold dq at *
         rw [List.all_eq_true] at *
         exact fun r hr=>hp r (List.mem_of_mem_take hr))
        (by rw [List.all_eq_true];exact fun r hr=>(hrow r (List.mem_of_mem_take hr)).2)
        (fun i j r x hr hx=>by
         obtain ⟨cv,h1,h2⟩:=hcell i j r x (fY hr).1 hx
         have:arr.getD (i*esz+j) undef=cv:=by simp [h1]
         rw [this];exact h2.mono hRle (Ext.refl σ))
        (fun i j r x hr hx=>by
         obtain ⟨hr,hi⟩:=fY hr
         obtain ⟨cv,h1,h2⟩:=hcell i j r x hr hx
         have hlt:i*esz+j<rs.length*esz:=by
          have hi2:=(List.getElem?_eq_some_iff.1 hr).1
          have hj:=(List.getElem?_eq_some_iff.1 hx).1
          rw [(hrow r (List.mem_of_getElem? hr)).1] at hj
          calc i*esz+j<i*esz+esz:=by omega
           _=(i+1)*esz:=by rw [Nat.succ_mul]
           _≤rs.length*esz:=Nat.mul_le_mul_right _ hi2
         show (if b=b then _ else _)=_
         rw [if_pos rfl,Nat.zero_add,if_pos hlt,h1]
         simp [h1])
       rw [htl] at this
       exact this
    ·cases h
   ·cases h
  ·cases h
 ·cases h
  exact ⟨R,Stp.refl hI,hv⟩
theorem RelV.cons {v:V} {vs:List V} {cv:Value} {cvs:List Value} (h:RelV R σ v cv) (hs:b7 R σ vs cvs.toArray):b7 R σ (v::vs) (cv::cvs).toArray:=by
 refine ⟨by have:=hs.1;simp at this ⊢;omega,fun i c hc => ?_⟩
 cases i with
 | zero=>simp at hc;subst hc;simpa using h
 | succ i=>have:=hs.2 i c (by simpa using hc);simpa using this
theorem b7.uncons {v:V} {vs:List V} {cvs:Array Value} (h:b7 R σ (v::vs) cvs):∃ cv l,cvs=(cv::l).toArray∧RelV R σ v cv∧b7 R σ vs l.toArray:=by
 obtain ⟨l,rfl⟩:∃ l:List Value,cvs=l.toArray:=⟨cvs.toList,by simp⟩
 cases l with
 | nil=>have:=h.1;simp at this
 | cons cv l=>
  refine ⟨cv,l,rfl,by simpa using h.2 0 v rfl,⟨by have:=h.1;simp at this ⊢;omega,fun i c hc => ?_⟩⟩
  have:=h.2 (i+1) c (by simpa using hc)
  simpa using this
theorem b7.nil (R:Ro) (σ:List Sg):b7 R σ [] #[]:=⟨rfl,fun i c hc=>by simp at hc⟩
theorem b7.nil_inv {cvs:Array Value} (h:b7 R σ [] cvs):cvs = #[]:=by
 have:=h.1
 simpa using this
theorem XY {v v':V} {H':Hp} (h:fzC wl v H=some (v',H')) (ho:v.one=true):v'.one=true:=by
 unfold fzC at h
 split at h
 ·split at h
  ·split at h
   ·split at h
    ·cases h;rfl
    ·cases h
   ·cases h
  ·cases h
 ·cases h;exact ho
theorem EG (nl:Bool):∀ {vs vs':List V} {H H':Hp} {R:Ro} {cvs:Array Value},Inv wl B0 w0 R σ H w→fzL wl nl vs H=some (vs',H')→b7 R σ vs cvs →
  ∃ R',Stp (TB B0) wl B0 w0 R σ w R' σ H' w∧b7 R' σ vs' cvs∧(bg vs=true→bg vs'=true)∧vs'.length=vs.length
 | [],vs',H,H',R,cvs,hI,h,hr=>by
  cases h
  exact ⟨R,Stp.refl hI,hr,fun h=>h,rfl⟩
 | v::vs,vs',H,H',R,cvs,hI,h,hr=>by
  simp only [fzL,Option.bind_eq_some_iff] at h
  obtain ⟨p,hp,q,hq,e⟩:=h
  cases e
  obtain ⟨cv,l,rfl,h1,h2⟩:=hr.uncons
  have first:∃ R',Stp (TB B0) wl B0 w0 R σ w R' σ p.2 w∧RelV R' σ p.1 cv∧(v.one=true→p.1.one=true):=by
   split at hp
   ·split at hp
    ·cases hp;cases h1;exact ⟨R,Stp.refl hI,.roNil _ _,fun _=>rfl⟩
    ·cases hp;exact ⟨R,Stp.refl hI,h1,fun h=>h⟩
   ·obtain ⟨R',a,b⟩:=Kh hI hp h1
    exact ⟨R',a,b,XY hp⟩
  obtain ⟨R1,s1,r1,o1⟩:=first
  obtain ⟨R2,s2,r2,o2,l2⟩:=EG nl s1.inv hq (h2.mono s1.le (Ext.refl σ))
  refine ⟨R2,s1.trans s2 (Nat.le_refl _),(r1.mono s2.le (Ext.refl σ)).cons r2,fun ho => ?_,by simp [l2]⟩
  simp only [bg,List.all_cons,Bool.and_eq_true] at ho ⊢
  exact ⟨o1 ho.1,o2 ho.2⟩
theorem Qp {v v':V} {H':Hp} {cv:Value} (hI:Inv wl B0 w0 R σ H w) (h:fzA wl v H=some (v',H')) (hv:RelV R σ v cv) :
  ∃ R',Stp (TB B0) wl B0 w0 R σ w R' σ H' w∧RelV R' σ v' cv:=by
 unfold fzA at h
 split at h
 ·rename_i cs
  simp only [Option.bind_eq_some_iff] at h
  obtain ⟨p,hp,e⟩:=h
  cases e
  obtain ⟨vs,rfl,ho,hr⟩:=Ez hv
  obtain ⟨R',s,r,o,l⟩:=EG true hI hp hr
  exact ⟨R',s,.agg _ _ r.1 (o ho) r.2⟩
 ·exact Kh hI h hv
theorem AX:∀ {vs vs':List V} {H H':Hp} {R:Ro} {cvs:Array Value},Inv wl B0 w0 R σ H w→oN wl vs H=some (vs',H')→b7 R σ vs cvs →
  ∃ R',Stp (TB B0) wl B0 w0 R σ w R' σ H' w∧b7 R' σ vs' cvs
 | [],vs',H,H',R,cvs,hI,h,hr=>by
  cases h
  exact ⟨R,Stp.refl hI,hr⟩
 | v::vs,vs',H,H',R,cvs,hI,h,hr=>by
  simp only [oN,Option.bind_eq_some_iff] at h
  obtain ⟨p,hp,q,hq,e⟩:=h
  cases e
  obtain ⟨cv,l,rfl,h1,h2⟩:=hr.uncons
  obtain ⟨R1,s1,r1⟩:=Qp hI hp h1
  obtain ⟨R2,s2,r2⟩:=AX s1.inv hq (h2.mono s1.le (Ext.refl σ))
  exact ⟨R2,s1.trans s2 (Nat.le_refl _),(r1.mono s2.le (Ext.refl σ)).cons r2⟩
theorem FC {v v':V} {H':Hp} {cv:Value} (hI:Inv wl B0 w0 R σ H w) (h:Gx wl v H=some (v',H')) (hv:RelV R σ v cv) :
  ∃ R',Stp (TB B0) wl B0 w0 R σ w R' σ H' w∧RelV R' σ v' cv:=by
 unfold Gx at h
 split at h
 ·cases h;cases hv;exact ⟨R,Stp.refl hI,.roNil _ _⟩
 ·exact Qp hI h hv
theorem Hv:∀ {vs vs':List V} {H H':Hp} {R:Ro} {cvs:Array Value},Inv wl B0 w0 R σ H w→nX wl vs H=some (vs',H')→b7 R σ vs cvs →
  ∃ R',Stp (TB B0) wl B0 w0 R σ w R' σ H' w∧b7 R' σ vs' cvs
 | [],vs',H,H',R,cvs,hI,h,hr=>by
  cases h
  exact ⟨R,Stp.refl hI,hr⟩
 | v::vs,vs',H,H',R,cvs,hI,h,hr=>by
  simp only [nX,Option.bind_eq_some_iff] at h
  obtain ⟨p,hp,q,hq,e⟩:=h
  cases e
  obtain ⟨cv,l,rfl,h1,h2⟩:=hr.uncons
  obtain ⟨R1,s1,r1⟩:=FC hI hp h1
  obtain ⟨R2,s2,r2⟩:=Hv s1.inv hq (h2.mono s1.le (Ext.refl σ))
  exact ⟨R2,s1.trans s2 (Nat.le_refl _),(r1.mono s2.le (Ext.refl σ)).cons r2⟩
theorem Qo {cs:List V} {cv:Value} (h:RelV R σ (.tup cs) cv):∃ vs,cv = .tuple vs∧b7 R σ cs vs:=by
 cases h with
 | tup _ vs hl hh=>exact ⟨vs,rfl,hl,hh⟩
theorem Kl {v v':V} {H':Hp} {cv:Value} (hI:Inv wl B0 w0 R σ H w) (h:fzR wl v H=some (v',H')) (hv:RelV R σ v cv) :
  ∃ R',Stp (TB B0) wl B0 w0 R σ w R' σ H' w∧RelV R' σ v' cv:=by
 unfold fzR at h
 split at h
 ·rename_i cs
  simp only [Option.bind_eq_some_iff] at h
  obtain ⟨p,hp,e⟩:=h
  cases e
  obtain ⟨vs,rfl,hr⟩:=Qo hv
  obtain ⟨R',s,r⟩:=Hv hI hp hr
  exact ⟨R',s,.tup _ _ r.1 r.2⟩
 ·exact FC hI h hv
theorem pT:∀ {vs:List V} {H:Hp} {σ:List Sg} {cvs:Array Value},Inv wl B0 w0 R σ H w→b7 R σ vs cvs →
  ∃ τ,Stp (fun _=>False) wl B0 w0 R σ w R (σ++τ) (bG vs H).2 w∧b7 R (σ++τ) (bG vs H).1 cvs∧(bg vs=true→bg (bG vs H).1=true)∧(bG vs H).1.length=vs.length
 | [],H,σ,cvs,hI,hr=>⟨[],by simpa [bG] using Stp.refl hI,by simpa [bG] using hr,fun h=>h,rfl⟩
 | v::vs,H,σ,cvs,hI,hr=>by
  obtain ⟨cv,l,rfl,h1,h2⟩:=hr.uncons
  by_cases hn:v = .nil
  ·subst hn
   cases h1
   have hp:=hI.push_stp (T:=fun _=>False) (w':=w) (b := .rows 0 [] 0 true) (s:=⟨none,0,0,0,false⟩) (Below.refl _ _) (fun k hk=>by cases hk) ⟨rfl,rfl,fun h=>absurd rfl h,by simp,rfl⟩
   obtain ⟨τ,s2,r2,o2,l2⟩:=pT hp.inv (h2.mono (iz.refl R) (Ext.append σ _))
   refine ⟨⟨none,0,0,0,false⟩::τ,?_,?_,fun ho => ?_,?_⟩
   ·have:=hp.trans s2 (Nat.le_refl _)
    simpa [bG] using this
   ·have hq:RelV R (σ++[⟨none,0,0,0,false⟩]++τ) (.own H.length 0 0) (.slice none 0 0):=
     .own _ _ _ _ _ _ ⟨none,0,0,0,false⟩ (by rw [List.append_assoc,← hI.len];simp) rfl (Nat.le_refl _) (fun _=>⟨rfl,fun _=>⟨rfl,rfl⟩,fun b hb=>by cases hb⟩)
    have:=hq.cons r2
    simpa [bG] using this
   ·simp only [bg,List.all_cons,Bool.and_eq_true] at ho
    have:=o2 ho.2
    simp only [bG,bg,List.all_cons,Bool.and_eq_true]
    exact ⟨rfl,this⟩
   ·simp [bG,l2]
  ·obtain ⟨τ,s2,r2,o2,l2⟩:=pT hI h2
   have e:bG (v::vs) H=(v::(bG vs H).1,(bG vs H).2):=by
    cases v <;> first | rfl | exact absurd rfl hn
   rw [e]
   refine ⟨τ,s2,(h1.mono (iz.refl R) (Ext.append σ τ)).cons r2,fun ho => ?_,by simp [l2]⟩
   simp only [bg,List.all_cons,Bool.and_eq_true] at ho ⊢
   exact ⟨ho.1,o2 ho.2⟩
theorem Below.one_alloc (w:World) (o:Obj):Below w.heap.size w (w.alloc o):=(Below.refl _ w).alloc (Nat.le_refl _) o
theorem iH (w:World) (o:Obj):(w.alloc o).heap[w.heap.size]? = some o:=World.alloc_heap_new w o
theorem Inv.ro_new (hI:Inv wl B0 w0 R σ H w) (o:Nat):R w.heap.size o=none:=by
 cases h:R w.heap.size o with
 | none=>rfl
 | some v=>have:=hI.ro_lt (b:=w.heap.size) (o:=o) (by simp [h]);omega
theorem DI (hI:Inv wl B0 w0 R σ H w) {vs:List V} {cells:Array Value} (e:TypeId) (hr:b7 R σ vs cells) (ho:bg vs=true) :
  ∃ τ,Stp (fun _=>False) wl B0 w0 R σ w R (σ++τ) ((bG vs H).2++[.box (bG vs H).1]) (w.alloc (.cells cells e)) ∧
   RelV R (σ++τ) (.ptr (bG vs H).2.length 0 0 0) (.pointer (some ⟨w.heap.size,0,none⟩)):=by
 obtain ⟨τ,s1,r1,o1,l1⟩:=pT hI hr
 have hb:=Below.one_alloc w (.cells cells e)
 let s:Sg:=⟨some w.heap.size,0,0,0,false⟩
 have hp:=s1.inv.push_stp (T:=fun _=>False) (w':=w.alloc (.cells cells e)) (b := .box (bG vs H).1) (s:=s) hb
  (fun k hk=>by cases hk;exact ⟨Nat.le_refl _,by simp⟩)
  ⟨rfl,o1 ho,w.heap.size,cells,e,rfl,iH w _,r1.mono (iz.refl R) (Ext.append _ _),fun o=>hI.ro_new o⟩
 refine ⟨τ++[s],?_,?_⟩
 ·rw [← List.append_assoc]
  exact s1.trans hp (Nat.le_refl _)
 ·refine .ptr _ _ _ _ _ s ?_ rfl (Nat.le_refl _) (fun _=>⟨w.heap.size,rfl,by simp⟩)
  rw [← List.append_assoc,← s1.inv.len]
  simp
theorem nr (z:Value) (h:bg (b8 z)=true):b7 R σ (b8 z) z.cells:=by
 refine ⟨by simp [b8],fun i c hc => ?_⟩
 unfold b8 at hc
 rw [List.getElem?_map] at hc
 cases hx:z.cells.toList[i]? with
 | none=>rw [hx] at hc;cases hc
 | some x=>
  rw [hx] at hc;cases hc
  have e:z.cells.getD i undef=x:=by simp at hx;simp [hx]
  rw [e]
  refine (wS x ?_).1
  have:=HL h (i:=i) (x:=oK x) (by simp only [b8,List.getElem?_map,hx];rfl)
  unfold oK at this
  split at this
  ·rfl
  ·exact this
theorem kx {t:TypeId} {z:Value} (h:fM P t=some z):∃ i,P.info? t=some i∧i.zero=some z:=by
 unfold fM at h
 simpa [Option.bind_eq_some_iff] using h
theorem Ft {t:TypeId} {z:Value} (h:fM P t=some z):(zeroValue t).run P w = .ok z w:=by
 obtain ⟨i,hi,hz⟩:=kx h
 simp [zeroValue,typeInfo,hi,hz]
end ops
end Go.Ab
namespace Go.Ab
open Go.RowKit
section ops
variable {P:Program} {wl B0:Nat} {w0:World} {R R':Ro} {σ σ':List Sg} {H:Hp} {w w':World}
def De:Array Value→Nat→List Value→Array Value
 | cs,_,[]=>cs
 | cs,off,v::vs=>De (cs.setIfInBounds off v) (off+1) vs
theorem oT:∀ (vs:List Value) (cs:Array Value) (off:Nat),(De cs off vs).size=cs.size
 | [],_,_=>rfl
 | v::vs,cs,off=>by simp [De,oT vs]
theorem DU:∀ (vs:List V) (cs:List V) (off:Nat),(spl cs off vs).length=cs.length
 | [],_,_=>rfl
 | v::vs,cs,off=>by simp [spl,DU vs]
theorem b7.set {cs:List V} {vs:Array Value} (h:b7 R σ cs vs) (i:Nat) {c:V} {v:Value} (hv:RelV R σ c v):b7 R σ (cs.set i c) (vs.setIfInBounds i v):=by
 refine ⟨by simp [h.1],fun j x hx => ?_⟩
 rcases ba hx with ⟨rfl,rfl,hlt⟩ | ⟨hne,hx⟩
 ·have:j<vs.size:=by rw [h.1];exact hlt
  simpa [this] using hv
 ·have:=h.2 j x hx
  rw [Array.getD_eq_getD_getElem?,Array.getElem?_setIfInBounds_ne (by omega),← Array.getD_eq_getD_getElem?]
  exact this
theorem JB:∀ {xs:List V} {l:List Value} {cs:List V} {vs:Array Value} (off:Nat),b7 R σ cs vs→b7 R σ xs l.toArray→b7 R σ (spl cs off xs) (De vs off l)
 | [],l,cs,vs,off,h,hx=>by
  have:=hx.nil_inv
  have:l=[]:=by simpa using this
  subst this
  exact h
 | x::xs,l,cs,vs,off,h,hx=>by
  obtain ⟨cv,l',e,h1,h2⟩:=hx.uncons
  have:l=cv::l':=by simpa using e
  subst this
  exact JB (off+1) (h.set off h1) h2
theorem AS:∀ {xs cs:List V} (off:Nat),bg cs=true→bg xs=true→bg (spl cs off xs)=true
 | [],cs,off,h,_=>h
 | x::xs,cs,off,h,hx=>by
  simp only [bg,List.all_cons,Bool.and_eq_true] at hx
  refine AS (off+1) ?_ hx.2
  simp only [bg,List.all_eq_true] at h ⊢
  intro y hy
  rcases List.mem_or_eq_of_mem_set hy with hy | rfl
  ·exact h y hy
  ·exact hx.1
theorem Bl:∀ (l:List Value) (k:Nat) (off:Nat) (cells:Array Value),(l.zipIdx k).foldl (fun cs (p:Value×Nat)=>cs.setIfInBounds (off+p.2) p.1) cells=De cells (off+k) l
 | [],_,_,_=>rfl
 | v::l,k,off,cells=>by
  simp only [List.zipIdx_cons,List.foldl_cons,De]
  rw [Bl l (k+1) off]
  rfl
theorem ET {place:Nat→Option (Nat×Nat)}:∀ {parts:List (Nat×V)} {cparts:List (Nat×Value)} {cells:List V} {vs:Array Value} {r:List V},
  RL place cells parts=some r→parts.length=cparts.length→(∀ (i:Nat) (p:Nat×V) (q:Nat×Value),parts[i]? = some p→cparts[i]? = some q→p.1=q.1∧RelV R σ p.2 q.2) →
  b7 R σ cells vs→bg cells=true→∃ out,Instr.fill place vs cparts=some out∧b7 R σ r out∧bg r=true
 | [],cparts,cells,vs,r,h,hl,_,hr,ho=>by
  cases h
  have:cparts=[]:=by cases cparts <;> first | rfl | simp at hl
  subst this
  exact ⟨vs,rfl,hr,ho⟩
 | (i,v)::parts,cparts,cells,vs,r,h,hl,hp,hr,ho=>by
  cases cparts with
  | nil=>simp at hl
  | cons q cparts=>
   obtain ⟨e1,hv⟩:=hp 0 (i,v) q rfl rfl
   obtain ⟨qi,qv⟩:=q
   simp only at e1 hv
   subst e1
   unfold RL at h
   split at h
   ·cases h
   ·rename_i off size hpl
    split at h
    ·rename_i xs hx
     split at h
     ·rename_i hc
      obtain ⟨hxr,hxo,hx1⟩:=uK hv hx
      have hsz:qv.cells.size=size:=by rw [hxr.1];exact hc.1
      have hcs:qv.cells=qv.cells.toList.toArray:=by simp
      rw [hcs] at hxr
      obtain ⟨out,h1,h2,h3⟩:=ET h (by simpa using hl) (fun j p q' ha hb=>hp (j+1) p q' (by simpa using ha) (by simpa using hb)) (JB off hr hxr) (AS off ho hxo)
      refine ⟨out,?_,h2,h3⟩
      unfold Instr.fill
      simp only [hpl]
      have hcond:¬ (qv.cells.size≠size∨off+qv.cells.size>vs.size):=by
       rw [hr.1]
       rintro (h | h)
       ·exact h hsz
       ·have:=hc.2;omega
      have hcond':(decide (qv.cells.size≠size)||decide (off+qv.cells.size>vs.size))=false:=by
       have h1:qv.cells.size=size:=hsz
       have h2:¬ (off+qv.cells.size>vs.size):=by have:=hr.1;have:=hc.2;omega
       simp [h1]
       omega
      rw [if_neg (by rw [hcond'];simp)]
      have hfold:qv.cells.zipIdx.foldl (fun cs (x:Value×Nat)=>cs.setIfInBounds (off+x.2) x.1) vs=De vs off qv.cells.toList:=by
       rw [← Array.foldl_toList,Array.toList_zipIdx,Bl]
       rfl
      rw [hfold]
      exact h1
     ·cases h
    ·cases h
theorem E7 {env:List V} {a:Act} (hE:b7 R σ env a.tmps):∀ {parts:List (Nat×Operand)} {l:List (Nat×V)},Pw (evO env) parts=some l →
  l.length=(parts.map fun p=>(p.1,a.eval p.2)).length∧∀ (i:Nat) (p:Nat×V) (q:Nat×Value),l[i]? = some p→(parts.map fun p=>(p.1,a.eval p.2))[i]? = some q→p.1=q.1∧RelV R σ p.2 q.2
 | [],l,h=>by cases h;exact ⟨rfl,fun i p q h=>by simp at h⟩
 | (k,x)::parts,l,h=>by
  simp only [Pw,Option.bind_eq_some_iff] at h
  obtain ⟨v,hv,l',hl',e⟩:=h
  cases e
  obtain ⟨h1,h2⟩:=E7 hE hl'
  refine ⟨by simp at h1 ⊢;omega,fun i p q hp hq => ?_⟩
  cases i with
  | zero=>
   simp at hp hq
   subst hp hq
   exact ⟨rfl,bJ hE hv⟩
  | succ i=>exact h2 i p q (by simpa using hp) (by simpa using hq)
theorem Ns {t:TypeId} {parts:List (Nat×V)} {cparts:Array (Nat×Value)} {v:V} (h:dn P t parts=some v) (hl:parts.length=cparts.toList.length)
  (hp:∀ (i:Nat) (p:Nat×V) (q:Nat×Value),parts[i]? = some p→cparts.toList[i]? = some q→p.1=q.1∧RelV R σ p.2 q.2) :
  ∃ cv,(Instr.build t cparts).run P w = .ok cv w∧RelV R σ v cv:=by
 unfold dn at h
 split at h
 ·rename_i z fs hz hu
  obtain ⟨it,hit,hiz⟩:=kx hz
  split at h
  ·rename_i hc
   rw [Bool.and_eq_true] at hc
   obtain ⟨ho,hinf⟩:=hc
   simp only [Option.map_eq_some_iff] at h
   obtain ⟨r,hr,rfl⟩:=h
   obtain ⟨out,h1,h2,h3⟩:=ET hr hl hp (nr z ho) ho
   have hplaces:fs.toList.mapM (fun f=>(P.info? f.type).map fun i=>(f.offset,i.size))=some (fs.toList.map fun f=>(f.offset,aR P f.type)):=by
    generalize fs.toList=l at hinf
    clear hr h1 hu
    induction l with
    | nil=>rfl
    | cons f l ih=>
     simp only [List.all_cons,Bool.and_eq_true] at hinf
     obtain ⟨i,hi⟩:=Option.isSome_iff_exists.1 hinf.1
     have ih:=ih hinf.2
     simp only [List.mapM_cons,hi,Option.map_some,Option.bind_eq_bind,Option.bind_some,ih,List.map_cons,Option.pure_def]
     simp [aR,Program.cellsOf,hi]
   have hb:P.built t cparts.toList=some out:=by
    unfold Program.built
    simp only [hit,hu,hiz,hplaces]
    rw [← h1]
    congr 1
    funext i
    simp
   exact ⟨.agg out,run_build w t cparts out hb,.agg _ _ h2.1 h3 h2.2⟩
  ·cases h
 ·rename_i z n e hz hu
  obtain ⟨it,hit,hiz⟩:=kx hz
  split at h
  ·rename_i hc
   rw [Bool.and_eq_true] at hc
   obtain ⟨ho,hinf⟩:=hc
   simp only [Option.map_eq_some_iff] at h
   obtain ⟨r,hr,rfl⟩:=h
   obtain ⟨out,h1,h2,h3⟩:=ET hr hl hp (nr z ho) ho
   obtain ⟨i,hi⟩:=Option.isSome_iff_exists.1 hinf
   have hb:P.built t cparts.toList=some out:=by
    unfold Program.built
    simp only [hit,hu,hiz,hi]
    rw [← h1]
    simp [aR,Program.cellsOf,hi]
   exact ⟨.agg out,run_build w t cparts out hb,.agg _ _ h2.1 h3 h2.2⟩
  ·cases h
 ·cases h
end ops
end Go.Ab
namespace Go.Ab
open Go.RowKit
section ops
variable {P:Program} {wl B0:Nat} {w0:World} {R R':Ro} {σ σ':List Sg} {H:Hp} {w w':World}
theorem pq {k:Nat} {cs:Array Value} (hb:B0≤k):Below B0 w (w.setRow k cs):=
 ⟨rfl,rfl,rfl,by simp [World.setRow],fun i hi=>setRow_other w k i cs (by omega)⟩
theorem kr (w:World) (k:Nat) (cs:Array Value):(w.setRow k cs).heap.size=w.heap.size:=by simp [World.setRow]
theorem kD {b off:Nat} {arr:Array Value} {e:TypeId} (hh:w.heap[b]? = some (.cells arr e (0,0))):∀ (l:List Value) (i:Nat) (arr:Array Value) (w:World),w.heap[b]? = some (.cells arr e (0,0)) →
  off+i+l.length≤arr.size→(∀ v ∈ l,v.oneCell'=true)→(storeCells ⟨b,off,none⟩ l i).run P w = .ok () (w.setRow b (De arr (off+i) l))
 | [],i,arr,w,hg,_,_=>by
  simp only [storeCells,De]
  rw [setRow_self w b arr e (0,0) hg]
  rfl
 | v::rest,i,arr,w,hg,hl,h1=>by
  have hi:off+i<arr.size:=by simp at hl;omega
  have hcell:w.cell? ⟨b,off+i,none⟩=some arr[off+i]:=by simp [World.cell?,hg,hi]
  have hfro:w.frozen? ⟨b,off+i,none⟩=false:=by simp [World.frozen?,hg]
  have hst:(store ((⟨b,off,none⟩:Addr).add i) v).run P w = .ok () (w.setRow b (arr.setIfInBounds (off+i) v)):=by
   rw [cR,run_store P w _ v _ (h1 v (by simp)),hcell]
   simp [hfro,setCell_eq_setRow w b (off+i) arr e (0,0) v hg]
  have ih:=kD (b:=b) (off:=off) (e:=e) hh rest (i+1) (arr.setIfInBounds (off+i) v) (w.setRow b (arr.setIfInBounds (off+i) v)) (setRow_heap w b arr _ e _ hg) (by simp at hl ⊢;omega) (fun x hx=>h1 x (by simp [hx]))
  simp only [storeCells,Sem.run_bind,hst,Result.andThen_ok,ih,setRow_setRow,De]
  rfl
theorem L8:∀ (xs cs:List V) (off j:Nat),off+xs.length≤cs.length→(spl cs off xs)[j]? = if off≤j∧j<off+xs.length then xs[j - off]? else cs[j]?
 | [],cs,off,j,_=>by
  simp only [spl,List.length_nil,Nat.add_zero]
  rw [if_neg (by omega)]
 | x::xs,cs,off,j,h=>by
  simp only [spl]
  simp only [List.length_cons] at h ⊢
  rw [L8 xs (cs.set off x) (off+1) j (by simp;omega)]
  by_cases h1:off+1≤j∧j<off+1+xs.length
  ·rw [if_pos h1,if_pos (by omega)]
   have:j - off=(j - (off+1))+1:=by omega
   rw [this,List.getElem?_cons_succ]
  ·rw [if_neg h1]
   by_cases h2:j=off
   ·subst h2
    rw [if_pos (by omega),List.getElem?_set_self (by omega)]
    simp
   ·rw [List.getElem?_set_ne (by omega),if_neg (by omega)]
theorem pY:∀ (l:List Value) (cs:Array Value) (off j:Nat),off+l.length≤cs.size→(De cs off l)[j]? = if off≤j∧j<off+l.length then l[j - off]? else cs[j]?
 | [],cs,off,j,_=>by
  simp only [De,List.length_nil,Nat.add_zero]
  rw [if_neg (by omega)]
 | x::xs,cs,off,j,h=>by
  simp only [De]
  simp only [List.length_cons] at h ⊢
  rw [pY xs (cs.setIfInBounds off x) (off+1) j (by simp;omega)]
  by_cases h1:off+1≤j∧j<off+1+xs.length
  ·rw [if_pos h1,if_pos (by omega)]
   have:j - off=(j - (off+1))+1:=by omega
   rw [this,List.getElem?_cons_succ]
  ·rw [if_neg h1]
   by_cases h2:j=off
   ·subst h2
    rw [if_pos (by omega)]
    simp [show j<cs.size by omega]
   ·rw [Array.getElem?_setIfInBounds_ne (by omega),if_neg (by omega)]
theorem dY {α:Type} {l:List α} {i:Nat} {x:α} (h:l[i]? = some x):l.set i x=l:=by
 apply List.ext_getElem?
 intro j
 by_cases hj:j=i
 ·subst hj;rw [List.getElem?_set_self (List.getElem?_eq_some_iff.1 h).1,h]
 ·rw [List.getElem?_set_ne (by omega)]
theorem Q9 {i j n esz:Nat} (hi:i<n) (hj:j<esz):i*esz+j<n*esz:=by
 calc i*esz+j<i*esz+esz:=by omega
  _=(i+1)*esz:=by rw [Nat.succ_mul]
  _≤n*esz:=Nat.mul_le_mul_right _ hi
theorem oq:∀ (vs:List V) (H:Hp),∃ L,(bG vs H).2=H++L
 | [],H=>⟨[],by simp [bG]⟩
 | v::vs,H=>by
  by_cases hn:v = .nil
  ·subst hn
   obtain ⟨L,hL⟩:=oq vs (H++[.rows 0 [] 0 true])
   exact ⟨[.rows 0 [] 0 true]++L,by simp only [bG];rw [hL,List.append_assoc]⟩
  ·obtain ⟨L,hL⟩:=oq vs H
   have e:(bG (v::vs) H).2=(bG vs H).2:=by
    cases v <;> first | rfl | exact absurd rfl hn
   exact ⟨L,by rw [e,hL]⟩
theorem Nr (hI:Inv wl B0 w0 R σ H w) {t:TypeId} {a v:V} {ca cv:Value} {H':Hp} (h:rx P wl t a v H=some H') (ha:RelV R σ a ca) (hv:RelV R σ v cv) :
  ∃ w' R' σ',(Instr.storeAt t ca cv).run P w = .ok () w'∧Stp (TB B0) wl B0 w0 R σ w R' σ' H' w'∧w'.heap.size=w.heap.size:=by
 unfold rx at h
 split at h
 ·rename_i id g row off vs hcs
  obtain ⟨hvr,hvo,hv1⟩:=uK hv hcs
  obtain ⟨p,s,rfl,hs,hh,hg,hl⟩:=wJ ha
  have hvl:b7 R σ vs cv.cells.toList.toArray:=by simpa using hvr
  have hvlen:cv.cells.toList.length=vs.length:=by have:=hvr.1;simpa using this
  split at h
  ·rename_i hwl
   have hwl:wl≤id:=Nat.le_of_ble_eq_true hwl
   split at h
   ·rename_i cs hb
    split at h
    ·rename_i hc
     obtain ⟨rfl,rfl,hsz,hlen,hroom⟩:=hc
     cases h
     obtain ⟨hgen,ho,b,arr,e,hblk,hheap,hrel,hro⟩:=hI.blk id _ s hb hs hh
     obtain ⟨b',hb',rfl⟩:=hl hgen.symm
     rw [hblk] at hb';cases hb'
     obtain ⟨ti,hti,hsz'⟩:=nD hsz
     have hB:B0≤b:=hI.ge id _ s b hwl hb rfl hs hblk
     have hst:=kD (P:=P) (off:=off) hheap cv.cells.toList 0 arr w hheap (by rw [hrel.1,hvlen];omega) hv1
     have hrun:(Instr.storeAt t (.pointer (some ⟨b,0*s.esz+off,none⟩)) cv).run P w = .ok () (w.setRow b (De arr off cv.cells.toList)):=by
      have hcsz:¬ (cv.cells.size≠aR P t):=by have:=hvr.1;omega
      simp only [Instr.storeAt,Instr.sureAddr,Sem.run_bind,Sem.run_pure,Result.andThen_ok,storeVar,lM hti,Sem.run_ite,if_neg hcsz,Nat.zero_mul,Nat.zero_add,Nat.add_zero] at hst ⊢
      exact hst
     obtain ⟨τ,s1,r1,o1,l1⟩:=pT hI hvl
     have hb2:(bG vs H).2[id]? = some (.box cs):=by
      obtain ⟨L,hL⟩:=oq vs H
      rw [hL,List.getElem?_append_left (List.getElem?_eq_some_iff.1 hb).1]
      exact hb
     have hs2:(σ++τ)[id]? = some s:=by rw [List.getElem?_append_left (List.getElem?_eq_some_iff.1 hs).1];exact hs
     have hset:=s1.inv.set (R':=R) (w':=w.setRow b (De arr off cv.cells.toList)) (b' := .box (spl cs off (bG vs H).1)) (s':=s) hb2 rfl hs2 hh hwl (wQ.refl s) (fun k hk => .inl hk)
      (pq hB) (by rw [kr];omega) (fun k _ hk=>setRow_other w b k _ (fun e=>hk (by rw [e];exact hblk))) (iz.refl R) (fun _ _ h => .inl h)
      (fun k o u hu hk=>by rw [hblk] at hk;cases hk;rw [hro o] at hu;cases hu)
      ⟨hgen,AS off ho (o1 hvo),b,_,e,hblk,setRow_heap w b arr _ e _ hheap,by
       rw [dY hs2]
       exact JB off (hrel.mono (iz.refl R) (Ext.append σ τ)) r1,hro⟩
     rw [dY hs2] at hset
     refine ⟨_,R,σ++τ,hrun,(s1.widen (fun k hk=>hk.elim)).trans (hset.widen (fun k hk => ?_)) (Nat.le_refl _),kr _ _ _⟩
     rw [hblk] at hk;cases hk;exact hB
    ·cases h
   ·rename_i esz0 rs0 g0 live0 hb
    simp only [Option.bind_eq_some_iff] at h
    obtain ⟨p,hp,h⟩:=h
    obtain ⟨R1,s1,r1,o1,l1⟩:=EG true hI hp hvl
    split at h
    ·rename_i esz rs g' hb2
     split at h
     ·rename_i hc
      obtain ⟨rfl,hsz,hlen⟩:=hc
      simp only [Option.bind_eq_some_iff] at h
      obtain ⟨r,hr,h⟩:=h
      split at h
      ·rename_i hroom
       cases h
       obtain ⟨hgen,hesz,hz0,hrow,hnone,hsome⟩:=lO s1.inv hb2 hs hh
       obtain ⟨b,hblk,rfl⟩:=hl hgen.symm
       obtain ⟨arr,e,hheap,hcap,hcell,hro⟩:=hsome b hblk
       obtain ⟨ti,hti,hsz'⟩:=nD hsz
       have hB:B0≤b:=hI.ge id _ s b hwl hb rfl hs hblk
       have hrl:=(hrow r (List.mem_of_getElem? hr)).1
       have hrowlt:=(List.getElem?_eq_some_iff.1 hr).1
       have harr:row*esz+r.length≤arr.size:=by
        by_cases h0:r.length=0
        ·have:esz=0:=by omega
         subst this;simp [h0]
        ·have hx : r[r.length - 1]? = some (r[r.length - 1]'(by omega)) := by simp
         obtain ⟨cv',h1,_⟩:=hcell row (r.length - 1) r _ hr hx
         have:=(Array.getElem?_eq_some_iff.1 h1).1
         omega
       have hst:=kD (P:=P) (off:=row*esz+off) hheap cv.cells.toList 0 arr w hheap (by rw [hvlen,← l1];omega) hv1
       have hrun:(Instr.storeAt t (.pointer (some ⟨b,row*s.esz+off,none⟩)) cv).run P w = .ok () (w.setRow b (De arr (row*esz+off) cv.cells.toList)):=by
        have hcsz:¬ (cv.cells.size≠aR P t):=by have:=hvr.1;omega
        simp only [Instr.storeAt,Instr.sureAddr,Sem.run_bind,Sem.run_pure,Result.andThen_ok,storeVar,lM hti,Sem.run_ite,if_neg hcsz,Nat.add_zero,hesz] at hst ⊢
        exact hst
       have hset:=s1.inv.set (R':=R1) (w':=w.setRow b (De arr (row*esz+off) cv.cells.toList)) (b' := .rows esz (rs.set row (spl r off p.1)) g true) (s':=s) hb2 rfl hs hh hwl (wQ.refl s) (fun k hk => .inl hk)
        (pq hB) (by rw [kr];omega) (fun k _ hk=>setRow_other w b k _ (fun e=>hk (by rw [e];exact hblk))) (iz.refl R1) (fun _ _ h => .inl h)
        (fun k o u hu hk=>by
         rw [hblk] at hk;cases hk
         have:=(hro o (by simp [hu])).1
         cases this)
        ⟨hgen,hesz,hz0,by
         intro q hq
         rcases List.mem_or_eq_of_mem_set hq with hq | rfl
         ·exact hrow q hq
         ·exact ⟨by rw [DU];exact hrl,AS off (hrow r (List.mem_of_getElem? hr)).2 (o1 hvo)⟩,by
         rw [hblk]
         refine ⟨_,e,setRow_heap w b arr _ e _ hheap,by rw [oT];exact hcap,fun i j q x hq hx => ?_,fun o ho => ?_⟩
         ·rw [dY hs]
          rw [pY _ _ _ _ (by rw [hvlen,← l1];omega)]
          rcases ba hq with ⟨rfl,rfl,_⟩ | ⟨hne,hq⟩
          ·rw [L8 _ _ _ _ (by omega)] at hx
           split at hx
           ·rename_i hcond
            rw [if_pos (by rw [hvlen,← l1];omega),show i*esz+j - (i*esz+off)=j - off by omega]
            obtain ⟨u,hu,hru⟩:=r1.get hx
            exact ⟨u,by simpa using hu,hru⟩
           ·rename_i hcond
            rw [if_neg (by rw [hvlen,← l1];omega)]
            exact hcell i j r x hr hx
          ·have hj:j<esz:=by
            have:=(List.getElem?_eq_some_iff.1 hx).1
            rw [(hrow q (List.mem_of_getElem? hq)).1] at this;exact this
           have hne2:¬ (row*esz+off≤i*esz+j∧i*esz+j<row*esz+off+cv.cells.toList.length):=by
            rw [hvlen,← l1]
            rintro ⟨h1,h2⟩
            rcases Nat.lt_or_gt_of_ne hne with hlt | hgt
            ·have:=Q9 (n:=row) (esz:=esz) hlt hj;omega
            ·have h3:row*esz+esz≤i*esz:=by
              calc row*esz+esz=(row+1)*esz:=by rw [Nat.succ_mul]
               _≤i*esz:=Nat.mul_le_mul_right _ hgt
             omega
           rw [if_neg hne2]
           exact hcell i j q x hq hx
         ·have:=hro o ho
          cases this.1⟩
       rw [dY hs] at hset
       refine ⟨_,R1,σ,hrun,s1.trans (hset.widen (fun k hk => ?_)) (Nat.le_refl _),kr _ _ _⟩
       rw [hblk] at hk;cases hk;exact hB
      ·cases h
     ·cases h
    ·cases h
   ·cases h
  ·cases h
 ·cases h
theorem DL (hI:Inv wl B0 w0 R σ H w) {x:V} {xs:List (List V)} {cx:Value} {size:Nat} (h:bZ x H=some xs) (hx:RelV R σ x cx) (hok:cr size xs=true) (hsz:size≠0) :
  ∃ (A:Option Addr) (c:Nat) (news:List Value),cx = .slice A xs.length c∧news.length=xs.length*size∧(∀ u ∈ news,u.oneCell'=true) ∧
   (∀ r ∈ xs,r.length=size∧bg r=true) ∧
   (∀ (i j:Nat) (r:List V) (y:V),xs[i]? = some r→r[j]? = some y→∃ cv,news[i*size+j]? = some cv∧RelV R σ y cv) ∧
   (∀ (w':World),Below w.heap.size w w'→(Builtin.firstCells size xs.length cx).run P w' = .ok news.toArray w'):=by
 have hrows:∀ r ∈ xs,r.length=size:=by
  rw [cr,List.all_eq_true] at hok
  exact fun r hr=>by simpa using hok r hr
 have key:∀ (A:Option Addr) (c:Nat) (b off:Nat) (vals:Nat→Nat→Value),cx = .slice A xs.length c→(xs≠[]→A=some ⟨b,off,none⟩)→(∀ r ∈ xs,bg r=true) →
   (∀ (i j:Nat) (r:List V) (y:V),xs[i]? = some r→r[j]? = some y→w.cell? ⟨b,off+(i*size+j),none⟩=some (vals i j)∧RelV R σ y (vals i j)) →
   ∃ (A:Option Addr) (c:Nat) (news:List Value),cx = .slice A xs.length c∧news.length=xs.length*size∧(∀ u ∈ news,u.oneCell'=true) ∧
   (∀ r ∈ xs,r.length=size∧bg r=true) ∧
   (∀ (i j:Nat) (r:List V) (y:V),xs[i]? = some r→r[j]? = some y→∃ cv,news[i*size+j]? = some cv∧RelV R σ y cv) ∧
   (∀ (w':World),Below w.heap.size w w'→(Builtin.firstCells size xs.length cx).run P w' = .ok news.toArray w'):=by
  intro A c b off vals hcx hA hones hcell
  let news:=(List.range (xs.length*size)).map fun k=>vals (k/size) (k%size)
  have hnl:news.length=xs.length*size:=by simp [news]
  have hget:∀ k,k<xs.length*size→∃ r y,xs[k/size]? = some r∧r[k%size]? = some y:=by
   intro k hk
   have h1:k/size<xs.length:=by
    rw [Nat.div_lt_iff_lt_mul (by omega)];exact hk
   have h2:k%size<size:=Nat.mod_lt _ (by omega)
   refine ⟨xs[k / size], xs[k / size][k % size]'(by rw [hrows _ (List.getElem_mem h1)]; exact h2), by simp [h1], by simp⟩
  have hdm:∀ k,k/size*size+k%size=k:=fun k=>by rw [Nat.mul_comm];exact Nat.div_add_mod k size
  refine ⟨A,c,news,hcx,hnl,?_,fun r hr=>⟨hrows r hr,hones r hr⟩,?_,?_⟩
  ·intro u hu
   simp only [news,List.mem_map,List.mem_range] at hu
   obtain ⟨k,hk,rfl⟩:=hu
   obtain ⟨r,y,hr,hy⟩:=hget k hk
   exact (hcell _ _ r y hr hy).2.one (HL (hones r (List.mem_of_getElem? hr)) hy)
  ·intro i j r y hr hy
   have hi:=(List.getElem?_eq_some_iff.1 hr).1
   have hj:=(List.getElem?_eq_some_iff.1 hy).1
   rw [hrows r (List.mem_of_getElem? hr)] at hj
   have hlt:=Q9 (esz:=size) hi hj
   have hd:(i*size+j)/size=i:=by
    rw [Nat.add_comm,Nat.add_mul_div_right _ _ (by omega),Nat.div_eq_of_lt hj,Nat.zero_add]
   have hm:(i*size+j)%size=j:=by
    rw [Nat.add_comm,Nat.add_mul_mod_self_right,Nat.mod_eq_of_lt hj]
   refine ⟨vals i j,?_,(hcell i j r y hr hy).2⟩
   simp only [news,List.getElem?_map,List.getElem?_range hlt,Option.map_some,hd,hm]
  ·intro w' hw
   rw [hcx]
   by_cases h0:xs=[]
   ·subst h0
    cases A with
    | none=>simp [Builtin.firstCells,news]
    | some a=>simp [Builtin.firstCells,loadCells,loadCellsFrom,news]
   ·rw [hA h0]
    refine run_firstCells_some (P:=P) w' size xs.length ⟨b,off,none⟩ xs.length c news hnl (fun k v hk => ?_)
    have hklt:k<xs.length*size:=by rw [← hnl];exact (List.getElem?_eq_some_iff.1 hk).1
    obtain ⟨r,y,hr,hy⟩:=hget k hklt
    have hv:v=vals (k/size) (k%size):=by
     simp only [news,List.getElem?_map,List.getElem?_range hklt,Option.map_some,Option.some.injEq] at hk
     exact hk.symm
    have hc:=(hcell _ _ r y hr hy).1
    rw [hdm] at hc
    rw [cR,hv]
    have hblt:b<w.heap.size:=World.block_lt_of_cell? w _ hc
    rw [hw.cell (p:=⟨b,off+k,none⟩) hblt]
    exact hc
 unfold bZ at h
 split at h
 ·rename_i rows
  cases h
  cases hx with
  | roNil A c=>exact key A c 0 0 (fun _ _=>undef) rfl (fun h=>absurd rfl h) (by simp) (by simp)
  | ro _ b off c esz vals hc hs hp ho hv hR=>
   refine key _ c b off vals rfl (fun _=>rfl) (by rw [List.all_eq_true] at ho;exact ho) (fun i j r y hr hy => ?_)
   have:esz=size:=by rw [← hs r (List.mem_of_getElem? hr),hrows r (List.mem_of_getElem? hr)]
   subst this
   exact ⟨hI.ro _ _ _ (hR i j r y hr hy),hv i j r y hr hy⟩
 ·cases h
  cases hx
  exact key none 0 0 0 (fun _ _=>undef) rfl (fun h=>absurd rfl h) (by simp) (by simp)
 ·rename_i id g len
  split at h
  ·rename_i esz rs g' live hb
   split at h
   ·rename_i hc
    obtain ⟨rfl,hlen⟩:=hc
    cases h
    obtain ⟨A,l,c,s,rfl,hs,hh,hg,hl⟩:=mC hx
    obtain ⟨hgen,hesz,hz0,hrow,hnone,hsome⟩:=lO hI hb hs hh
    obtain ⟨rfl,hn,hsm⟩:=hl hgen.symm
    have htl:(rs.take l).length=l:=by rw [List.length_take];omega
    cases hblk:s.blk with
    | none=>
     have:=hnone hblk
     subst this
     refine key A c 0 0 (fun _ _=>undef) (by rw [htl]) (fun h=>absurd (by simp) h) (by simp) (by simp)
    | some b=>
     obtain ⟨arr,e,hheap,hcap,hcell,hro⟩:=hsome b hblk
     obtain ⟨rfl,_,_⟩:=hsm b hblk
     refine key _ c b 0 (fun i j=>arr.getD (i*size+j) undef) (by rw [htl]) (fun _=>rfl) (fun r hr=>(hrow r (List.mem_of_mem_take hr)).2) (fun i j r y hr hy => ?_)
     have:esz=size:=by rw [← (hrow r (List.mem_of_mem_take (List.mem_of_getElem? hr))).1,hrows r (List.mem_of_getElem? hr)]
     subst this
     obtain ⟨cv,h1,h2⟩:=hcell i j r y (fY hr).1 hy
     have e1:arr.getD (i*esz+j) undef=cv:=by simp [h1]
     rw [e1,Nat.zero_add,eL hheap]
     exact ⟨h1,h2⟩
   ·cases h
  ·cases h
 ·cases h
theorem DR {e:TypeId} (h:JK P e=true):∃ i z,P.info? e=some i∧i.zero=some z∧i.size=aR P e∧i.bytes=P.bytesOf e∧z.cells.size=aR P e∧aR P e≠0∧P.bytesOf e≠0:=by
 unfold JK at h
 split at h
 ·rename_i z hz
  obtain ⟨i,hi,hiz⟩:=kx hz
  simp only [Bool.and_eq_true,beq_iff_eq,bne_iff_ne,ne_eq] at h
  exact ⟨i,z,hi,hiz,by simp [aR,Program.cellsOf,hi],by simp [Program.bytesOf,hi],h.1.1,h.1.2,h.2⟩
 ·cases h
theorem Bv {t u ty e e2:TypeId} {i:TypeInfo} {z:Value} (ht:P.underlying t=some (.slice e)) (hu:P.underlying u=some (.slice e2)) (hi:P.info? e=some i) (hz:i.zero=some z)
  (base:Option Addr) (sLen sCap:Nat) (A:Option Addr) (n c:Nat) (olds news:List Value)
  (ho:∀ w':World,Below w.heap.size w w'→(Builtin.firstCells i.size sLen (.slice base sLen sCap)).run P w' = .ok olds.toArray w')
  (hn:∀ w':World,Below w.heap.size w w'→(Builtin.firstCells i.size n (.slice A n c)).run P w' = .ok news.toArray w')
  (hg:sCap<sLen+n) (hb:(sLen+n)*i.bytes≤70368744177664) (hb0:i.bytes≠0) :
  (Builtin.append_ #[t,u] ty #[.slice base sLen sCap,.slice A n c]).run P w =
   .ok (.slice (some ⟨w.heap.size,0,none⟩) (sLen+n) (grownCap w (sLen+n) sCap e))
    (w.drew.alloc (.cells (olds.toArray++news.toArray++Builtin.zeroCells z.cells (grownCap w (sLen+n) sCap e - (sLen+n))) e)):=by
 have hneed:sLen+n≤(sLen+n)*i.bytes:=Nat.le_mul_of_pos_right _ (by omega)
 have h0:¬ (sLen+n≤sCap):=by omega
 have h63':¬ (9223372036854775807<((sLen:Int)+(n:Int))):=by omega
 have hns:=nextslicecap_le hg
 have h48':¬ (281474976710656<Builtin.nextslicecap (sLen+n) sCap*i.bytes):=by
  have:Builtin.nextslicecap (sLen+n) sCap*i.bytes≤2*(sLen+n)*i.bytes:=Nat.mul_le_mul_right _ hns
  rw [Nat.mul_assoc] at this
  omega
 have hdb:Below w.heap.size w w.drew:=(Below.refl _ w).drew
 have hf:=hn w.drew hdb
 have hfo:=ho w.drew hdb
 simp [Builtin.append_,run_underlying ht,run_underlying hu,sizeOf,typeInfo,zeroValue,hi,hz,Builtin.lenOf,h0,h63',h48',Question.forced,hf,hfo,newRow,grownCap]
 congr 2
 apply Array.ext'
 simp
theorem CS (w:World) (need old:Nat) (e:TypeId):need≤grownCap w need old e:=by
 unfold grownCap
 exact Nat.le_add_right _ _
theorem D4 {rs xs:List (List V)} {olds news:List Value} {zs:Array Value} {size n1 n2 k:Nat} (h1:olds.length=n1*size) (h2:news.length=n2*size) (hr1:rs.length=n1) (hr2:xs.length=n2)
  (hs:∀ r ∈ rs,r.length=size) (hs2:∀ r ∈ xs,r.length=size)
  (ho:∀ (i j:Nat) (r:List V) (y:V),rs[i]? = some r→r[j]? = some y→∃ cv,olds[i*size+j]? = some cv∧RelV R σ y cv)
  (hn:∀ (i j:Nat) (r:List V) (y:V),xs[i]? = some r→r[j]? = some y→∃ cv,news[i*size+j]? = some cv∧RelV R σ y cv) :
  ∀ (i j:Nat) (r:List V) (y:V),(rs++xs)[i]? = some r→r[j]? = some y→∃ cv,(olds.toArray++news.toArray++Builtin.zeroCells zs k)[i*size+j]? = some cv∧RelV R σ y cv:=by
 intro i j r y hr hy
 have hj:=(List.getElem?_eq_some_iff.1 hy).1
 by_cases hi:i<rs.length
 ·rw [List.getElem?_append_left hi] at hr
  obtain ⟨cv,a,b⟩:=ho i j r y hr hy
  refine ⟨cv,?_,b⟩
  have hlt:=(List.getElem?_eq_some_iff.1 a).1
  rw [Array.getElem?_append_left (by simp;omega),Array.getElem?_append_left (by simpa using hlt)]
  simpa using a
 ·rw [List.getElem?_append_right (by omega)] at hr
  obtain ⟨cv,a,b⟩:=hn (i - rs.length) j r y hr hy
  refine ⟨cv,?_,b⟩
  have hlt:=(List.getElem?_eq_some_iff.1 a).1
  have e:i*size+j=n1*size+((i - rs.length)*size+j):=by
   have:i=n1+(i - rs.length):=by omega
   rw [this,Nat.add_mul]
   have:n1+(i - rs.length) - rs.length=i - rs.length:=by omega
   rw [this];omega
  rw [Array.getElem?_append_left (by simp;omega),Array.getElem?_append_right (by simp;omega)]
  rw [e,show n1*size+((i - rs.length)*size+j) - olds.toArray.size=(i - rs.length)*size+j by simp;omega]
  simpa using a
theorem oH (w:World) (o:Obj):Below w.heap.size w (w.drew.alloc o):=((Below.refl _ w).drew).alloc (Nat.le_refl _) o
theorem Jc {t u ty e e2 e':TypeId} {i:TypeInfo} (ht:P.underlying t=some (.slice e)) (hu:P.underlying u=some (.slice e2)) (hi:P.info? e=some i)
  {b sLen sCap:Nat} {A:Option Addr} {n c:Nat} {news:List Value} {arr:Array Value} (hh:w.heap[b]? = some (.cells arr e' (0,0)))
  (hn:(Builtin.firstCells i.size n (.slice A n c)).run P w = .ok news.toArray w) (h1:∀ x ∈ news,x.oneCell'=true)
  (hr:sLen+n≤sCap) (hf:sLen*i.size+news.length≤arr.size) :
  (Builtin.append_ #[t,u] ty #[.slice (some ⟨b,0,none⟩) sLen sCap,.slice A n c]).run P w = .ok (.slice (some ⟨b,0,none⟩) (sLen+n) sCap) (w.setRow b (De arr (sLen*i.size) news)):=by
 have hst:=kD (P:=P) (off:=sLen*i.size) hh news 0 arr w hh (by simpa using hf) h1
 have ha:(⟨b,0,none⟩:Addr).add (sLen*i.size)=⟨b,sLen*i.size,none⟩:=by rw [cR,Nat.zero_add]
 simp only [Nat.add_zero] at hst
 simp [Builtin.append_,run_underlying ht,run_underlying hu,sizeOf,typeInfo,hi,Builtin.lenOf,hr,hn,ha,hst]
theorem J9 (hI:Inv wl B0 w0 R σ H w) {t u ty:TypeId} {s x v:V} {cs cx:Value} {H':Hp} (h:bA P wl t s x H=some (v,H')) (hu:(mF P u).isSome=true)
  (hs:RelV R σ s cs) (hx:RelV R σ x cx) :
  ∃ cv w' σ',(Builtin.append_ #[t,u] ty #[cs,cx]).run P w = .ok cv w'∧Stp (TB B0) wl B0 w0 R σ w R σ' H' w'∧RelV R σ' v cv∧w.heap.size≤w'.heap.size:=by
 obtain ⟨e2,he2⟩:=Option.isSome_iff_exists.1 hu
 have hue:=ki he2
 unfold bA at h
 split at h
 ·cases h
 ·rename_i e he
  have hte:=ki he
  simp only [Option.bind_eq_some_iff] at h
  obtain ⟨xs,hxs,h⟩:=h
  split at h
  ·rename_i hc
   rw [Bool.and_eq_true] at hc
   obtain ⟨hok,hgr⟩:=hc
   obtain ⟨i,z,hi,hz,hisz,hib,hzs,hsz,hbz⟩:=DR hgr
   obtain ⟨A,c,news,rfl,hnl,hn1,hxr,hnr,hnf⟩:=DL (P:=P) hI hxs hx hok hsz
   have hxl:∀ r ∈ xs,r.length=aR P e:=fun r hr=>(hxr r hr).1
   split at h
   ·-- nil
    split at h
    ·rename_i hb
     cases h
     cases hs
     by_cases h0:xs.length=0
     ·have hx0:xs=[]:=by simpa using h0
      subst hx0
      have hrun:(Builtin.append_ #[t,u] ty #[.slice none 0 0,.slice A 0 c]).run P w = .ok (.slice none 0 0) w:=by
       have hf:=hnf w (Below.refl _ _)
       simp only [List.length_nil] at hf
       have hf':(Builtin.firstCells i.size 0 (.slice A 0 c)).run P w = .ok #[] w:=by
        rw [hisz]
        have hnn:news=[]:=by simpa using hnl
        rw [hnn] at hf
        simpa using hf
       simp [Builtin.append_,run_underlying hte,run_underlying hue,sizeOf,typeInfo,hi,Builtin.lenOf,hf']
      have hp:=hI.push_stp (T:=TB B0) (w':=w) (b := .rows (aR P e) [] 0 true) (s:=⟨none,0,aR P e,0,false⟩) (Below.refl _ _) (fun k hk=>by cases hk) ⟨rfl,rfl,fun h=>absurd rfl h,by simp,rfl⟩
      refine ⟨_,w,_,hrun,hp,?_,Nat.le_refl _⟩
      exact .own _ _ _ _ _ _ ⟨none,0,aR P e,0,false⟩ (by rw [← hI.len];simp) rfl (Nat.le_refl _) (fun _=>⟨rfl,fun _=>⟨rfl,rfl⟩,fun b hb=>by cases hb⟩)
     ·have hrun:=Bv (P:=P) (w:=w) (ty:=ty) hte hue hi hz none 0 0 A xs.length c [] news
       (fun w' _=>by simp [Builtin.firstCells]) (fun w' hw=>by rw [hisz];exact hnf w' hw) (by omega) (by rw [hib];simpa using hb) (by rw [hib];exact hbz)
      simp only [Nat.zero_add] at hrun
      have hge:=CS w xs.length 0 e
      let arr:=([]:List Value).toArray++news.toArray++Builtin.zeroCells z.cells (grownCap w xs.length 0 e - xs.length)
      have hasz:arr.size=grownCap w xs.length 0 e*aR P e:=by
       have e1:arr.size=news.length+(grownCap w xs.length 0 e - xs.length)*z.cells.size:=by simp [arr,size_zeroCells]
       rw [e1,hnl,hzs,← Nat.add_mul]
       congr 1;omega
      let s':Sg:=⟨some w.heap.size,0,aR P e,arr.size,false⟩
      have hp:=hI.push_stp (T:=TB B0) (w':=w.drew.alloc (.cells arr e)) (b := .rows (aR P e) xs 0 true) (s:=s') (oH w _)
       (fun k hk=>by cases hk;exact ⟨Nat.le_refl _,by simp⟩)
       ⟨rfl,rfl,fun _=>hsz,hxr,arr,e,iH w.drew _,rfl,
        fun i j r y hr hy=>by
         have:=D4 (R:=R) (σ:=σ++[s']) (rs:=[]) (xs:=xs) (olds:=[]) (news:=news) (zs:=z.cells) (size:=aR P e) (n1:=0) (n2:=xs.length) (k:=grownCap w xs.length 0 e - xs.length) (by simp) hnl rfl rfl (by simp) hxl
          (by simp) (fun i j r y hr hy=>let ⟨cv,a,b⟩:=hnr i j r y hr hy;⟨cv,a,b.mono (iz.refl R) (Ext.append σ _)⟩) i j r y (by simpa using hr) hy
         exact this,
        fun o ho=>absurd (hI.ro_new o) ho⟩
      refine ⟨_,_,_,hrun,hp,?_,by simp⟩
      exact .own _ _ _ _ _ _ s' (by rw [← hI.len];simp) rfl (Nat.le_refl _) (fun _=>⟨rfl,(fun hb=>by cases hb),fun b hb=>by cases hb;exact ⟨rfl,hge,by show _≤arr.size;rw [hasz];exact Nat.le_refl _⟩⟩)
    ·cases h
   ·rename_i id g len
    split at h
    ·rename_i sz rs g' live hb
     split at h
     ·rename_i hcond
      obtain ⟨hwl,rfl,hlen,hlive,hszr,hbnd⟩:=hcond
      have hwl:wl≤id:=Nat.le_of_ble_eq_true hwl
      cases h
      obtain ⟨B,l,cc,s,rfl,hsg,hh,hg,hl⟩:=mC hs
      obtain ⟨hgen,hesz,hz0,hrow,hnone,hsome⟩:=lO hI hb hsg hh
      obtain ⟨hll,hn,hsm⟩:=hl hgen.symm
      subst hll
      have hidlt:id<σ.length:=(List.getElem?_eq_some_iff.1 hsg).1
      have htl:(rs.take l).length=l:=by rw [List.length_take];omega
      have hszb:s.blk≠none→sz=aR P e:=fun hne=>hszr.resolve_right (hz0 hne)
      have hrowsz:∀ r ∈ rs,r.length=aR P e:=by
       intro r hr
       by_cases hne:s.blk=none
       ·rw [hnone hne] at hr;cases hr
       ·rw [(hrow r hr).1,hszb hne]
      have hrow':∀ r ∈ rs.take l++xs,r.length=aR P e∧bg r=true:=by
       intro r hr
       rcases List.mem_append.1 hr with hr | hr
       ·exact ⟨hrowsz r (List.mem_of_mem_take hr),(hrow r (List.mem_of_mem_take hr)).2⟩
       ·exact hxr r hr
      have hsgle:∀ (s':Sg),s'.hole=false→s'.gen=g+1→wQ s s':=fun s' h1 h2 => .inr (.inl ⟨h1,by omega⟩)
      have hext:∀ (s':Sg),s'.hole=false→s'.gen=g+1→Ext σ (σ.set id s'):=by
       intro s' h1 h2 i t ht
       by_cases hi:i=id
       ·subst hi
        rw [hsg] at ht;cases ht
        exact ⟨s',List.getElem?_set_self hidlt,hsgle s' h1 h2⟩
       ·exact ⟨t,by rw [List.getElem?_set_ne (by omega)];exact ht,wQ.refl t⟩
      -- the old elements
      have holds:∃ olds:List Value,olds.length=l*aR P e∧(∀ w':World,Below w.heap.size w w'→(Builtin.firstCells i.size l (.slice B l cc)).run P w' = .ok olds.toArray w') ∧
        (∀ (i j:Nat) (r:List V) (y:V),(rs.take l)[i]? = some r→r[j]? = some y→∃ cv,olds[i*aR P e+j]? = some cv∧RelV R σ y cv):=by
       have hro:bZ (.own id g l) H=some (rs.take l):=by
        simp only [bZ,hb]
        rw [if_pos ⟨trivial,hlen⟩]
       obtain ⟨A2,c2,olds,e1,h1,_,_,h3,h4⟩:=DL (P:=P) (size:=aR P e) hI hro hs (by
        rw [cr,List.all_eq_true]
        exact fun r hr=>by simpa using hrowsz r (List.mem_of_mem_take hr)) hsz
       rw [htl] at h1 h4
       exact ⟨olds,h1,fun w' hw=>by rw [hisz];exact h4 w' hw,h3⟩
      obtain ⟨olds,hol,hof,hor⟩:=holds
      by_cases hroom:l+xs.length≤cc
      ·-- there is room
       cases hblk:s.blk with
       | none=>
        obtain ⟨hl0,hc0⟩:=hn hblk
        have hx0:xs=[]:=by
         have:xs.length=0:=by omega
         simpa using this
        subst hl0 hc0 hx0
        have hrs:rs=[]:=hnone hblk
        subst hrs
        have hf:=hnf w (Below.refl _ _)
        have hnn:news=[]:=by simpa using hnl
        rw [hnn] at hf
        simp only [List.length_nil] at hf
        have hf':(Builtin.firstCells i.size 0 (.slice A 0 c)).run P w = .ok #[] w:=by rw [hisz];simpa using hf
        have hrun:(Builtin.append_ #[t,u] ty #[.slice B 0 0,.slice A 0 c]).run P w = .ok (.slice B 0 0) w:=by
         cases B <;> simp [Builtin.append_,run_underlying hte,run_underlying hue,sizeOf,typeInfo,hi,Builtin.lenOf,hf',storeCells]
        have hset:=hI.set (R':=R) (w':=w) (b' := .rows (aR P e) [] (g+1) live) (s':=⟨none,g+1,aR P e,0,false⟩) hb rfl hsg hh hwl (hsgle _ rfl rfl) (fun k hk=>by cases hk) (Below.refl _ _) (Nat.le_refl _)
         (fun _ _ _=>rfl) (iz.refl R) (fun _ _ h => .inl h) (fun k o v hv hk=>by rw [hblk] at hk;cases hk) ⟨rfl,rfl,fun h=>absurd rfl h,by simp,rfl⟩
        refine ⟨_,w,_,hrun,hset.widen (fun k hk=>by rw [hblk] at hk;cases hk),?_,Nat.le_refl _⟩
        exact .own _ _ _ _ _ _ ⟨none,g+1,aR P e,0,false⟩ (List.getElem?_set_self hidlt) rfl (Nat.le_refl _) (fun _=>⟨rfl,fun _=>⟨rfl,rfl⟩,fun b hb=>by cases hb⟩)
       | some b=>
        obtain ⟨arr,e',hheap,hcap,hcell,hro⟩:=hsome b hblk
        obtain ⟨rfl,hlc,hce⟩:=hsm b hblk
        have hsz2:sz=aR P e:=hszb (by rw [hblk];simp)
        subst hsz2
        have hB:B0≤b:=hI.ge id _ s b hwl hb rfl hsg hblk
        have hf:=hnf w (Below.refl _ _)
        rw [← hisz] at hf
        have hfit:l*aR P e+news.length≤arr.size:=by
         rw [hnl,← Nat.add_mul,hcap]
         exact Nat.le_trans (Nat.mul_le_mul_right _ hroom) (by rw [hesz] at hce;exact hce)
        have hrun:=Jc (P:=P) (ty:=ty) hte hue hi hheap hf hn1 hroom (by rw [hisz];exact hfit)
        rw [hisz] at hrun
        let s':Sg:=⟨some b,g+1,aR P e,s.cap,false⟩
        have hset:=hI.set (R':=R) (w':=w.setRow b (De arr (l*aR P e) news)) (b' := .rows (aR P e) (rs.take l++xs) (g+1) live) (s':=s') hb rfl hsg hh hwl (hsgle _ rfl rfl) (fun k hk => .inl (by rw [hblk];exact hk))
         (pq hB) (by rw [kr];omega) (fun k _ hk=>setRow_other w b k _ (fun e=>hk (by rw [e];exact hblk))) (iz.refl R) (fun _ _ h => .inl h)
         (fun k o v hv hk=>by
          rw [hblk] at hk;cases hk
          obtain ⟨h1,h2⟩:=hro o (by simp [hv])
          subst h1
          have hl2:l=rs.length:=by rcases hlive with h | h;cases h;exact h
          have h3:=hI.ro b o v hv
          rw [eL hheap] at h3
          rw [eL (setRow_heap w b arr _ e' _ hheap),pY _ _ _ _ hfit,if_neg (by rw [hl2];omega)]
          exact h3)
         ⟨rfl,rfl,fun _=>hsz,hrow',_,e',setRow_heap w b arr _ e' _ hheap,by rw [oT];exact hcap,fun i j r y hr hy=>by
          have hj:j<aR P e:=by
           have:=(List.getElem?_eq_some_iff.1 hy).1
           rw [(hrow' r (List.mem_of_getElem? hr)).1] at this;exact this
          by_cases hi:i<l
          ·rw [List.getElem?_append_left (by omega)] at hr
           obtain ⟨cv,h1,h2⟩:=hcell i j r y (fY hr).1 hy
           have:=Q9 (esz:=aR P e) hi hj
           exact ⟨cv,by rw [pY _ _ _ _ hfit,if_neg (by omega)];exact h1,h2.mono (iz.refl R) (hext s' rfl rfl)⟩
          ·have hilt:=(List.getElem?_eq_some_iff.1 hr).1
           rw [List.length_append,htl] at hilt
           rw [List.getElem?_append_right (by omega),htl] at hr
           obtain ⟨cv,h1,h2⟩:=hnr (i - l) j r y hr hy
           have e1:i*aR P e+j=l*aR P e+((i - l)*aR P e+j):=by
            have:i=l+(i - l):=by omega
            rw [this,Nat.add_mul]
            have:l+(i - l) - l=i - l:=by omega
            rw [this];omega
           have hlt:=(List.getElem?_eq_some_iff.1 h1).1
           refine ⟨cv,?_,h2.mono (iz.refl R) (hext s' rfl rfl)⟩
           rw [pY _ _ _ _ hfit,if_pos (by omega),e1,show l*aR P e+((i - l)*aR P e+j) - l*aR P e=(i - l)*aR P e+j by omega]
           exact h1,fun o ho=>by
          obtain ⟨h1,h2⟩:=hro o ho
          refine ⟨h1,?_⟩
          subst h1
          have hl2:l=rs.length:=by rcases hlive with h | h;cases h;exact h
          rw [List.length_append,htl,hl2,Nat.add_mul];omega⟩
        refine ⟨_,_,_,hrun,hset.widen (fun k hk=>by rw [hblk] at hk;cases hk;exact hB),?_,by rw [kr];omega⟩
        exact .own _ _ _ _ _ _ s' (List.getElem?_set_self hidlt) rfl (Nat.le_refl _) (fun _=>⟨rfl,(fun hb=>by cases hb),fun b' hb'=>by cases hb';exact ⟨rfl,hroom,by rw [hesz] at hce;exact hce⟩⟩)
      ·-- a new block
       have hrun:=Bv (P:=P) (w:=w) (ty:=ty) hte hue hi hz B l cc A xs.length c olds news hof (fun w' hw=>by rw [hisz];exact hnf w' hw) (by omega) (by rw [hib];exact hbnd) (by rw [hib];exact hbz)
       have hge:=CS w (l+xs.length) cc e
       let arr:=olds.toArray++news.toArray++Builtin.zeroCells z.cells (grownCap w (l+xs.length) cc e - (l+xs.length))
       have hasz:arr.size=grownCap w (l+xs.length) cc e*aR P e:=by
        have e1:arr.size=olds.length+news.length+(grownCap w (l+xs.length) cc e - (l+xs.length))*z.cells.size:=by simp [arr,size_zeroCells,Nat.add_assoc]
        rw [e1,hol,hnl,hzs,← Nat.add_mul,← Nat.add_mul]
        congr 1;omega
       let s':Sg:=⟨some w.heap.size,g+1,aR P e,arr.size,false⟩
       have hdb:=oH w (.cells arr e)
       have hset:=hI.set (R':=R) (w':=w.drew.alloc (.cells arr e)) (b' := .rows (aR P e) (rs.take l++xs) (g+1) live) (s':=s') hb rfl hsg hh hwl (hsgle _ rfl rfl)
        (fun k hk=>by cases hk;exact .inr ⟨Nat.le_refl _,by simp⟩)
        (hdb.mono hI.base) hdb.size (fun k hk _=>hdb.block k hk) (iz.refl R) (fun _ _ h => .inl h)
        (fun k o v hv hk=>by
         have h1:=hI.ro k o v hv
         have hlt:=hI.ro_lt (b:=k) (o:=o) (by simp [hv])
         rw [hdb.cell (p:=⟨k,o,none⟩) hlt];exact h1)
        ⟨rfl,rfl,fun _=>hsz,hrow',arr,e,iH w.drew _,rfl,fun i j r y hr hy=>by
         exact D4 (R:=R) (σ:=σ.set id s') (rs:=rs.take l) (xs:=xs) (olds:=olds) (news:=news) (zs:=z.cells) (size:=aR P e) (n1:=l) (n2:=xs.length) hol hnl htl rfl
          (fun r hr=>hrowsz r (List.mem_of_mem_take hr)) hxl
          (fun i j r y hr hy=>let ⟨cv,a,b⟩:=hor i j r y hr hy;⟨cv,a,b.mono (iz.refl R) (hext s' rfl rfl)⟩)
          (fun i j r y hr hy=>let ⟨cv,a,b⟩:=hnr i j r y hr hy;⟨cv,a,b.mono (iz.refl R) (hext s' rfl rfl)⟩) i j r y hr hy,
         fun o ho=>absurd (hI.ro_new o) ho⟩
       refine ⟨_,_,_,hrun,hset.widen (fun k hk=>hI.ge id _ s k hwl hb rfl hsg hk),?_,hdb.size⟩
       exact .own _ _ _ _ _ _ s' (List.getElem?_set_self hidlt) rfl (Nat.le_refl _) (fun _=>⟨rfl,(fun hb=>by cases hb),fun b hb=>by cases hb;exact ⟨rfl,hge,by show _≤arr.size;rw [hasz];exact Nat.le_refl _⟩⟩)
     ·cases h
    ·cases h
   ·cases h
  ·cases h
end ops
end Go.Ab
namespace Go.Ab
open Go.RowKit
section ops
variable {P:Program} {wl B0:Nat} {w0:World} {R R':Ro} {σ σ':List Sg} {H:Hp} {w w':World}
theorem O4:∀ {cs:List V} {vs:Array Value},b7 R σ cs vs→b7 R σ (aX.fzZ cs) vs∧(bg cs=true→bg (aX.fzZ cs)=true)∧(aX.fzZ cs).length=cs.length
 | [],vs,h=>⟨h,fun h=>h,rfl⟩
 | c::cs,vs,h=>by
  obtain ⟨cv,l,rfl,h1,h2⟩:=h.uncons
  obtain ⟨r,o,n⟩:=O4 h2
  by_cases hn:c = .nil
  ·subst hn
   cases h1
   refine ⟨?_,fun ho => ?_,by simp [aX.fzZ,n]⟩
   ·exact (RelV.roNil none 0).cons r
   ·simp only [bg,List.all_cons,Bool.and_eq_true] at ho
    have:=o ho.2
    simp only [aX.fzZ,bg,List.all_cons,Bool.and_eq_true]
    exact ⟨rfl,this⟩
  ·have e:aX.fzZ (c::cs)=c::aX.fzZ cs:=by
    cases c <;> first | rfl | exact absurd rfl hn
   rw [e]
   refine ⟨h1.cons r,fun ho => ?_,by simp [n]⟩
   simp only [bg,List.all_cons,Bool.and_eq_true] at ho ⊢
   exact ⟨ho.1,o ho.2⟩
theorem F9 (z:Array Value) (n k:Nat) (hk:k<n) (hz:z.size≠0):∃ v,z[k%z.size]? = some v∧(madeCells z n)[k]? = some v:=by
 have hlt:k%z.size<z.size:=Nat.mod_lt _ (by omega)
 refine ⟨z[k%z.size],by simp [hlt],?_⟩
 simp [madeCells,hk,hlt]
theorem JR {i j size:Nat} (hj:j<size):(i*size+j)/size=i∧(i*size+j)%size=j:=by
 constructor
 ·rw [Nat.add_comm,Nat.add_mul_div_right _ _ (by omega),Nat.div_eq_of_lt hj,Nat.zero_add]
 ·rw [Nat.add_comm,Nat.add_mul_mod_self_right,Nat.mod_eq_of_lt hj]
theorem G5 {z:Value} {size n:Nat} (ho:bg (b8 z)=true) (hl:(b8 z).length=size) (_hsz:size≠0) :
  (∀ r ∈ List.replicate n (aX.fzZ (b8 z)),r.length=size∧bg r=true) ∧
  ∀ (i j:Nat) (r:List V) (x:V),(List.replicate n (aX.fzZ (b8 z)))[i]? = some r→r[j]? = some x→∃ cv,(madeCells z.cells (n*size))[i*size+j]? = some cv∧RelV R σ x cv:=by
 obtain ⟨hr,hones,hlen⟩:=O4 (nr (R:=R) (σ:=σ) z ho)
 have hzl:z.cells.size=size:=by rw [← hl];simp [b8]
 refine ⟨fun r hr' => ?_,fun i j r x h1 h2 => ?_⟩
 ·rw [List.mem_replicate] at hr'
  rw [hr'.2]
  exact ⟨by rw [hlen,hl],hones ho⟩
 ·have hi:=(List.getElem?_eq_some_iff.1 h1).1
  rw [List.length_replicate] at hi
  have hrr:r=aX.fzZ (b8 z):=by
   have:=List.mem_of_getElem? h1
   rw [List.mem_replicate] at this
   exact this.2
  subst hrr
  have hj:=(List.getElem?_eq_some_iff.1 h2).1
  rw [hlen,hl] at hj
  obtain ⟨cv,hc,hrel⟩:=hr.get h2
  obtain ⟨v,h3,h4⟩:=F9 z.cells (n*size) (i*size+j) (Q9 hi hj) (by omega)
  rw [hzl,(JR hj).2] at h3
  rw [h3] at hc
  cases hc
  exact ⟨_,h4,hrel⟩
theorem C6 (hI:Inv wl B0 w0 R σ H w) {t:TypeId} {l c v:V} {cl cc:Value} {H':Hp} (h:aX P t l c H=some (v,H')) (hl:RelV R σ l cl) (hc:RelV R σ c cc) :
  ∃ cv w' σ',(Instr.makeSlice t cl cc).run P w = .ok cv w'∧Stp (fun _=>False) wl B0 w0 R σ w R σ' H' w'∧RelV R σ' v cv∧w.heap.size≤w'.heap.size:=by
 unfold aX at h
 split at h
 ·cases h
 ·rename_i e he
  have hte:=ki he
  split at h
  ·rename_i a b
   split at h
   ·rename_i hcond
    obtain ⟨rfl,h0,h63,hb⟩:=hcond
    split at h
    ·rename_i z hz
     split at h
     ·rename_i hcz
      simp only [Bool.and_eq_true,beq_iff_eq,bne_iff_ne,ne_eq] at hcz
      obtain ⟨⟨ho,hzl⟩,hsz⟩:=hcz
      cases h
      have el:=hl.lit_inv
      have ec:=hc.lit_inv
      subst el ec
      obtain ⟨i,hi,hiz⟩:=kx hz
      have hisz:i.size=aR P e:=by simp [aR,Program.cellsOf,hi]
      have hib:i.bytes=P.bytesOf e:=by simp [Program.bytesOf,hi]
      have hrun:=run_make (P:=P) w t e i z hte hi hiz .i64 .i64 a a h0 (Int.le_refl _) (by rw [hib,Int.mul_comm];omega) h63
      rw [hisz] at hrun
      obtain ⟨hr1,hr2⟩:=G5 (R:=R) (σ:=σ++[⟨some w.heap.size,0,aR P e,a.toNat*aR P e,false⟩]) (n:=a.toNat) ho hzl hsz
      have hp:=hI.push_stp (T:=fun _=>False) (w':=w.alloc (.cells (madeCells z.cells (a.toNat*aR P e)) e)) (b := .rows (aR P e) (List.replicate a.toNat (aX.fzZ (b8 z))) 0 true)
       (s:=⟨some w.heap.size,0,aR P e,a.toNat*aR P e,false⟩) (Below.one_alloc _ _) (fun k hk=>by cases hk;exact ⟨Nat.le_refl _,by simp⟩)
       ⟨rfl,rfl,fun _=>hsz,hr1,_,e,iH w _,size_madeCells _ _,hr2,fun o ho=>absurd (hI.ro_new o) ho⟩
      refine ⟨_,_,_,hrun,hp,?_,by simp⟩
      exact .own _ _ _ _ _ _ ⟨some w.heap.size,0,aR P e,a.toNat*aR P e,false⟩ (by rw [← hI.len];simp) rfl (Nat.le_refl _)
       (fun _=>⟨rfl,(fun hb=>by cases hb),fun b hb=>by cases hb;exact ⟨rfl,Nat.le_refl _,Nat.le_refl _⟩⟩)
     ·cases h
    ·cases h
   ·cases h
  ·cases h
theorem Hs {size:Nat} (hsz:size≠0):∀ {parts:List (Nat×V)} {cparts:List (Nat×Value)} {rs rs':List (List V)} {cells:Array Value} {H H':Hp} {R:Ro},Inv wl B0 w0 R σ H w →
  gf wl size parts rs H=some (rs',H')→parts.length=cparts.length →
  (∀ (i:Nat) (p:Nat×V) (q:Nat×Value),parts[i]? = some p→cparts[i]? = some q→p.1=q.1∧RelV R σ p.2 q.2) →
  cells.size=rs.length*size→(∀ r ∈ rs,r.length=size∧bg r=true) →
  (∀ (i j:Nat) (r:List V) (x:V),rs[i]? = some r→r[j]? = some x→∃ cv,cells[i*size+j]? = some cv∧RelV R σ x cv) →
  ∃ R' out,Instr.fill (fun i=>some (i*size,size)) cells cparts=some out∧Stp (TB B0) wl B0 w0 R σ w R' σ H' w∧out.size=cells.size∧rs'.length=rs.length ∧
   (∀ r ∈ rs',r.length=size∧bg r=true) ∧
   (∀ (i j:Nat) (r:List V) (x:V),rs'[i]? = some r→r[j]? = some x→∃ cv,out[i*size+j]? = some cv∧RelV R' σ x cv)
 | [],cparts,rs,rs',cells,H,H',R,hI,h,hl,hp,hc,hr,hrel=>by
  cases h
  have:cparts=[]:=by cases cparts <;> first | rfl | simp at hl
  subst this
  exact ⟨R,cells,rfl,Stp.refl hI,rfl,rfl,hr,hrel⟩
 | (i,v)::parts,cparts,rs,rs',cells,H,H',R,hI,h,hl,hp,hc,hr,hrel=>by
  cases cparts with
  | nil=>simp at hl
  | cons q cparts=>
   obtain ⟨e1,hv⟩:=hp 0 (i,v) q rfl rfl
   obtain ⟨qi,qv⟩:=q
   simp only at e1 hv
   subst e1
   unfold gf at h
   split at h
   ·rename_i vs hvs
    simp only [Option.bind_eq_some_iff] at h
    obtain ⟨p,hpz,h⟩:=h
    split at h
    ·rename_i hcond
     obtain ⟨hi,hps⟩:=hcond
     obtain ⟨hxr,hxo,hx1⟩:=uK hv hvs
     have hxr':b7 R σ vs qv.cells.toList.toArray:=by simpa using hxr
     obtain ⟨R1,s1,r1,o1,l1⟩:=EG true hI hpz hxr'
     have hql:qv.cells.toList.length=size:=by have:=hxr.1;simp;omega
     have hfit:i*size+qv.cells.toList.length≤cells.size:=by
      rw [hql,hc]
      calc i*size+size=(i+1)*size:=by rw [Nat.succ_mul]
       _≤rs.length*size:=Nat.mul_le_mul_right _ hi
     obtain ⟨R2,out,h1,h2,h3,h4,h5,h6⟩:=Hs hsz s1.inv h (by simpa using hl)
      (fun j p q' ha hb=>let ⟨a,b⟩:=hp (j+1) p q' (by simpa using ha) (by simpa using hb);⟨a,b.mono s1.le (Ext.refl σ)⟩)
      (cells:=De cells (i*size) qv.cells.toList) (by rw [oT,hc];simp)
      (fun r hr'=>by
       rcases List.mem_or_eq_of_mem_set hr' with hr' | rfl
       ·exact hr r hr'
       ·exact ⟨hps,o1 hxo⟩)
      (fun k j r x hk hx=>by
       rw [pY _ _ _ _ hfit]
       rcases ba hk with ⟨rfl,rfl,_⟩ | ⟨hne,hk⟩
       ·have hj:=(List.getElem?_eq_some_iff.1 hx).1
        obtain ⟨u,hu,hru⟩:=r1.get hx
        refine ⟨u,?_,hru⟩
        rw [if_pos (by omega),show k*size+j - k*size=j by omega]
        simpa using hu
       ·have hj:=(List.getElem?_eq_some_iff.1 hx).1
        rw [(hr r (List.mem_of_getElem? hk)).1] at hj
        have hne2:¬ (i*size≤k*size+j∧k*size+j<i*size+qv.cells.toList.length):=by
         rw [hql]
         rintro ⟨a1,a2⟩
         rcases Nat.lt_or_gt_of_ne hne with hlt | hgt
         ·have:=Q9 (n:=i) (esz:=size) hlt hj;omega
         ·have:i*size+size≤k*size:=by
           calc i*size+size=(i+1)*size:=by rw [Nat.succ_mul]
            _≤k*size:=Nat.mul_le_mul_right _ hgt
          omega
        rw [if_neg hne2]
        obtain ⟨cv,a,b⟩:=hrel k j r x hk hx
        exact ⟨cv,a,b.mono s1.le (Ext.refl σ)⟩)
     refine ⟨R2,out,?_,s1.trans h2 (Nat.le_refl _),by rw [h3,oT],by rw [h4];simp,h5,h6⟩
     unfold Instr.fill
     have hsz1:qv.cells.size=size:=by simpa using hql
     have hcond':(decide (qv.cells.size≠size)||decide (i*size+qv.cells.size>cells.size))=false:=by
      have:¬ (i*size+qv.cells.size>cells.size):=by simp at hfit;omega
      simp [hsz1]
      omega
     simp only []
     rw [if_neg (by rw [hcond'];simp)]
     have hfold:qv.cells.zipIdx.foldl (fun cs (x:Value×Nat)=>cs.setIfInBounds (i*size+x.2) x.1) cells=De cells (i*size) qv.cells.toList:=by
      rw [← Array.foldl_toList,Array.toList_zipIdx,Bl]
      rfl
     rw [hfold]
     exact h1
    ·cases h
   ·cases h
theorem Bf (hI:Inv wl B0 w0 R σ H w) {t:TypeId} {len:Nat} {parts:List (Nat×V)} {cparts:Array (Nat×Value)} {v:V} {H':Hp} (h:aL P wl t len parts H=some (v,H'))
  (hl:parts.length=cparts.toList.length)
  (hp:∀ (i:Nat) (p:Nat×V) (q:Nat×Value),parts[i]? = some p→cparts.toList[i]? = some q→p.1=q.1∧RelV R σ p.2 q.2) :
  ∃ cv w' R' σ',(Instr.buildSlice t len cparts).run P w = .ok cv w'∧Stp (TB B0) wl B0 w0 R σ w R' σ' H' w'∧RelV R' σ' v cv∧w.heap.size≤w'.heap.size:=by
 unfold aL at h
 split at h
 ·cases h
 ·rename_i e he
  have hte:=ki he
  split at h
  ·rename_i z hz
   split at h
   ·rename_i hcond
    obtain ⟨hsz,hsmall,ho,hzl⟩:=hcond
    simp only [Option.bind_eq_some_iff] at h
    obtain ⟨p,hpz,e1⟩:=h
    cases e1
    obtain ⟨i,hi,hiz⟩:=kx hz
    have hisz:i.size=aR P e:=by simp [aR,Program.cellsOf,hi]
    obtain ⟨hr1,hr2⟩:=G5 (R:=R) (σ:=σ) (n:=len) ho hzl hsz
    obtain ⟨R',out,h1,h2,h3,h4,h5,h6⟩:=Hs hsz hI hpz hl hp (cells:=madeCells z.cells (len*aR P e)) (by rw [size_madeCells];simp) hr1 hr2
    have hrun:(Instr.buildSlice t len cparts).run P w = .ok (.slice (some ⟨w.heap.size,0,none⟩) len len) (w.alloc (.cells out e)):=by
     by_cases h0:len=0
     ·subst h0
      have hp0:parts=[]:=by
       cases parts with
       | nil=>rfl
       | cons q qs=>
        obtain ⟨k,x⟩:=q
        exfalso
        unfold gf at hpz
        split at hpz
        ·simp at hpz
        ·cases hpz
      subst hp0
      have hc0:cparts = #[]:=by
       have:cparts.toList=[]:=by
        cases hq:cparts.toList with
        | nil=>rfl
        | cons a b=>rw [hq] at hl;simp at hl
       simpa using this
      subst hc0
      have hm:madeCells z.cells (0*aR P e) = #[]:=by simp [madeCells]
      rw [hm] at h1
      cases h1
      simp [Instr.buildSlice,run_underlying hte,sizeOf,typeInfo,hi,newRow,Instr.fill]
      congr 2
      exact Array.eq_empty_of_size_eq_zero (by simp)
     ·exact run_buildSlice w t e len cparts out i z hte hi hiz (by rw [hisz];omega) (by rw [hisz];intro h;rcases Nat.mul_eq_zero.1 h with h | h <;> omega) (by rw [hisz];exact h1)
    let s':Sg:=⟨some w.heap.size,0,aR P e,out.size,false⟩
    have hpush:=h2.inv.push_stp (T:=TB B0) (w':=w.alloc (.cells out e)) (b := .rows (aR P e) p.1 0 true) (s:=s') (Below.one_alloc _ _) (fun k hk=>by cases hk;exact ⟨Nat.le_refl _,by simp⟩)
     ⟨rfl,rfl,fun _=>hsz,h5,out,e,iH w _,rfl,fun i j r x a b=>let ⟨cv,c,d⟩:=h6 i j r x a b;⟨cv,c,d.mono (iz.refl _) (Ext.append σ _)⟩,fun o ho=>absurd (h2.inv.ro_new o) ho⟩
    refine ⟨_,_,R',_,hrun,h2.trans hpush (Nat.le_refl _),?_,by simp⟩
    refine .own _ _ _ _ _ _ s' (by rw [← h2.inv.len];simp) rfl (Nat.le_refl _) (fun _=>⟨rfl,(fun hb=>by cases hb),fun b hb=>by cases hb;exact ⟨rfl,Nat.le_refl _,by show len*aR P e≤out.size;rw [h3,size_madeCells];exact Nat.le_refl _⟩⟩)
   ·cases h
  ·cases h
theorem H5 {kk:IntKind} {v:Value} (h:li kk v=true):∃ a,v = .int kk a:=by
 unfold li at h
 split at h
 ·rename_i k a
  have:k=kk:=by simpa using h
  subst this
  exact ⟨a,rfl⟩
 ·cases h
def Ip (R:Ro) (σ:List Sg) (es:List (Value×V)) (ents:List MapEntry):Prop:=
 ents.length=es.length∧∀ (i:Nat) (e:Value×V),es[i]? = some e→∃ m,ents[i]? = some m∧m.key=e.1∧RelV R σ e.2 m.val
theorem Ip.uncons {e:Value×V} {es:List (Value×V)} {ents:List MapEntry} (h:Ip R σ (e::es) ents):∃ m l,ents=m::l∧m.key=e.1∧RelV R σ e.2 m.val∧Ip R σ es l:=by
 obtain ⟨m,h1,h2,h3⟩:=h.2 0 e rfl
 cases ents with
 | nil=>simp at h1
 | cons m' l=>
  simp at h1
  subst h1
  exact ⟨_,_,rfl,h2,h3,by have:=h.1;simpa using this,fun i e he=>by simpa using h.2 (i+1) e (by simpa using he)⟩
theorem Ip.cons {e:Value×V} {es:List (Value×V)} {m:MapEntry} {l:List MapEntry} (h1:m.key=e.1) (h2:RelV R σ e.2 m.val) (h:Ip R σ es l):Ip R σ (e::es) (m::l):=
 ⟨by have:=h.1;simp;exact this,fun i x hx=>by
  cases i with
  | zero=>simp at hx;subst hx;exact ⟨m,rfl,h1,h2⟩
  | succ i=>simpa using h.2 i x (by simpa using hx)⟩
theorem rE {kk q:IntKind} {n:Int} {v:V} {cv:Value} (hv:RelV R σ v cv) (b:Nat):∀ {es:List (Value×V)} {ents:List MapEntry} (k0:Nat),Ip R σ es ents→es.all (fun e=>li kk e.1)=true →
  (∃ i val,Instr.findNow (.int q) (.int kk n) ents k0=some (some (k0+i,val))∧(∃ m,ents[i]? = some m∧m.key = .int kk n) ∧
   Ip R σ (lJ (.int kk n) v es) (ents.modify i fun e => { e with key := .int kk n,val:=cv })∧(∀ z,∃ x,lH (.int kk n) z es=(x,true)∧RelV R σ x val)) ∨
  (Instr.findNow (.int q) (.int kk n) ents k0=some none∧Ip R σ (lJ (.int kk n) v es) (ents++[{ key := .int kk n,val:=cv,born:=b }])∧(∀ z,lH (.int kk n) z es=(z,false)))
 | [],ents,k0,h,_=>by
  have:ents=[]:=by have:=h.1;cases ents <;> first | rfl | simp at this
  subst this
  exact .inr ⟨rfl,Ip.cons rfl hv ⟨rfl,fun i e he=>by simp at he⟩,fun z=>rfl⟩
 | e::es,ents,k0,h,hk=>by
  obtain ⟨m,l,rfl,h1,h2,h3⟩:=h.uncons
  simp only [List.all_cons,Bool.and_eq_true] at hk
  obtain ⟨a,ha⟩:=H5 hk.1
  have hkey:m.key = .int kk a:=by rw [h1,ha]
  obtain ⟨ek,ev⟩:=e
  simp only at ha h1 h2
  subst ha
  by_cases hna:n=a
  ·subst hna
   refine .inl ⟨0,m.val,?_,⟨m,rfl,hkey⟩,?_,fun z=>⟨ev,?_,h2⟩⟩
   ·simp [Instr.findNow,Instr.sameNow,hkey]
   ·simp only [lJ,wv,beq_self_eq_true,Bool.and_self,if_true]
    simp only [List.modify_zero_cons]
    exact Ip.cons rfl hv h3
   ·simp [lH,wv]
  ·have hke:wv (.int kk n) (.int kk a)=false:=by simp [wv,hna]
   have hnb:(n==a)=false:=by simpa using hna
   rcases rE (q:=q) (n:=n) hv b (k0+1) h3 hk.2 with ⟨i,val,g1,⟨m',g2,g3⟩,g4,g5⟩ | ⟨g1,g2,g3⟩
   ·refine .inl ⟨i+1,val,?_,⟨m',by simpa using g2,g3⟩,?_,fun z => ?_⟩
    ·have:k0+(i+1)=k0+1+i:=by omega
     rw [this]
     simp [Instr.findNow,Instr.sameNow,hkey,hnb,g1]
    ·simp only [lJ,hke,Bool.false_eq_true,if_false,List.modify_succ_cons]
     exact Ip.cons h1 h2 g4
    ·obtain ⟨x,a1,a2⟩:=g5 z
     exact ⟨x,by simp only [lH,hke,cond_false];exact a1,a2⟩
   ·refine .inr ⟨?_,?_,fun z => ?_⟩
    ·simp [Instr.findNow,Instr.sameNow,hkey,hnb,g1]
    ·simp only [lJ,hke,Bool.false_eq_true,if_false,List.cons_append]
     exact Ip.cons h1 h2 g2
    ·simp only [lH,hke,cond_false];exact g3 z
theorem OM {id:Nat} {cv:Value} (h:RelV R σ (.map id) cv):∃ r s,cv = .map r∧σ[id]? = some s∧s.hole=false∧(s.gen=0→s.blk=r∧r.isSome=true):=by
 cases h with
 | map _ r s h1 h2 h3=>exact ⟨r,s,rfl,h1,h2,h3⟩
theorem w8 {kt:TypeId} {kk q:IntKind} {n:Int} (em:Bool) (d:Nat) (h:P.underlying kt=some (.int q)):(Instr.checkKey em (d+1) kt (.int kk n)).run P w = .ok () w:=by
 simp only [Instr.checkKey,Sem.run_bind,run_underlying h,Result.andThen_ok]
 rfl
theorem Kj (hI:Inv wl B0 w0 R σ H w) {t:TypeId} {m k v:V} {cm ck:Value} {ok:Bool} (h:kq P t m k ok H=some v) (hm:RelV R σ m cm) (hk:RelV R σ k ck) :
  ∃ cv,(Instr.lookup t cm ck ok).run P w = .ok cv w∧RelV R σ v cv:=by
 unfold kq at h
 split at h
 ·rename_i kt et hu
  split at h
  ·rename_i hkk
   obtain ⟨q,hq⟩:=Option.isSome_iff_exists.1 hkk
   have hku:=nK hq
   split at h
   ·rename_i z id kk n hz
    split at h
    ·rename_i es hb
     split at h
     ·rename_i hcond
      simp only [Bool.and_eq_true,beq_iff_eq] at hcond
      obtain ⟨hall,hkind⟩:=hcond
      cases h
      have ek:=hk.lit_inv
      subst ek
      obtain ⟨r,s,rfl,hs,hh,hl⟩:=OM hm
      obtain ⟨hgen,b,ents,clock,hblk,hheap,hsz,hent⟩:=hI.blk id _ s hb hs hh
      obtain ⟨hr,_⟩:=hl hgen
      rw [hblk] at hr
      subst hr
      have hE:Ip R σ es ents.toList:=⟨by simpa using hsz,fun i e he=>by simpa using hent i e he⟩
      have hget:(getObj b).run P w = .ok (.map ents clock) w:=by simp [getObj,Sem.run,hheap]
      have hck:=w8 (P:=P) (w:=w) (kk:=kk) (n:=n) ents.isEmpty 9999 hku
      rcases rE (q:=q) (n:=n) (RelV.junk (R:=R) (σ:=σ) undef) 0 0 hE hall with ⟨i,val,g1,_,_,g5⟩ | ⟨g1,_,g3⟩
      ·obtain ⟨x,a1,a2⟩:=g5 (f9 z)
       have hfk:(Instr.findKey kt (.int kk n) ents.toList).run P w = .ok (some (0+i,val)) w:=by
        simp only [Instr.findKey,Sem.run_bind,run_underlying hku,Result.andThen_ok,g1]
        rfl
       cases ok
       ·refine ⟨val,?_,by simp only [cond_false,a1];exact a2⟩
        simp only [Instr.lookup,Sem.run_bind,run_underlying hu,Result.andThen_ok,hget,Sem.run_pure,hck,hfk]
        rfl
       ·refine ⟨.tuple #[val,.bool true],?_,?_⟩
        ·simp only [Instr.lookup,Sem.run_bind,run_underlying hu,Result.andThen_ok,hget,Sem.run_pure,hck,hfk]
         rfl
        ·simp only [cond_true,a1]
         have:b7 R σ [x,.lit (.bool true)] #[val,.bool true]:=a2.cons ((RelV.lit (.bool true)).cons (b7.nil R σ))
         exact .tup _ _ this.1 this.2
      ·have hfk:(Instr.findKey kt (.int kk n) ents.toList).run P w = .ok none w:=by
        simp only [Instr.findKey,Sem.run_bind,run_underlying hku,Result.andThen_ok,g1]
        rfl
       have hzr:=Ft (P:=P) (w:=w) hz
       cases ok
       ·refine ⟨z,?_,by simp only [cond_false,g3];exact wP z⟩
        simp only [Instr.lookup,Sem.run_bind,run_underlying hu,Result.andThen_ok,hget,Sem.run_pure,hck,hfk,hzr]
        rfl
       ·refine ⟨.tuple #[z,.bool false],?_,?_⟩
        ·simp only [Instr.lookup,Sem.run_bind,run_underlying hu,Result.andThen_ok,hget,Sem.run_pure,hck,hfk,hzr]
         rfl
        ·simp only [cond_true,g3]
         have:b7 R σ [f9 z,.lit (.bool false)] #[z,.bool false]:=(wP z).cons ((RelV.lit (.bool false)).cons (b7.nil R σ))
         exact .tup _ _ this.1 this.2
     ·cases h
    ·cases h
   ·cases h
  ·cases h
 ·cases h
theorem IE (hI:Inv wl B0 w0 R σ H w) {t:TypeId} {m k v:V} {cm ck cv:Value} {H':Hp} (h:lg P wl t m k v H=some H') (hm:RelV R σ m cm) (hk:RelV R σ k ck) (hv:RelV R σ v cv) :
  ∃ w',(Instr.mapUpdate t cm ck cv).run P w = .ok () w'∧Stp (TB B0) wl B0 w0 R σ w R σ H' w'∧w'.heap.size=w.heap.size:=by
 unfold lg at h
 split at h
 ·rename_i kt et hu
  split at h
  ·rename_i hkk
   obtain ⟨q,hq⟩:=Option.isSome_iff_exists.1 hkk
   have hku:=nK hq
   split at h
   ·rename_i id kk n
    split at h
    ·rename_i es hb
     split at h
     ·rename_i hcond
      simp only [Bool.and_eq_true,beq_iff_eq] at hcond
      obtain ⟨⟨hall,hkind⟩,hwl⟩:=hcond
      have hwl:wl≤id:=Nat.le_of_ble_eq_true hwl
      cases h
      have ek:=hk.lit_inv
      subst ek
      obtain ⟨r,s,rfl,hs,hh,hl⟩:=OM hm
      obtain ⟨hgen,b,ents,clock,hblk,hheap,hsz,hent⟩:=hI.blk id _ s hb hs hh
      obtain ⟨hr,_⟩:=hl hgen
      rw [hblk] at hr
      subst hr
      have hB:B0≤b:=hI.ge id _ s b hwl hb rfl hs hblk
      have hbl:b<w.heap.size:=hI.lt id _ s b hb rfl hs hblk
      have hE:Ip R σ es ents.toList:=⟨by simpa using hsz,fun i e he=>by simpa using hent i e he⟩
      have hget:(getObj b).run P w = .ok (.map ents clock) w:=by simp [getObj,Sem.run,hheap]
      have hck:=w8 (P:=P) (w:=w) (kk:=kk) (n:=n) false 9999 hku
      have fin:∀ (ents':Array MapEntry) (clock':Nat),(Instr.mapUpdate t (.map (some b)) (.int kk n) cv).run P w = .ok () (w.putObj b (.map ents' clock'))→Ip R σ (lJ (.int kk n) v es) ents'.toList →
        ∃ w',(Instr.mapUpdate t (.map (some b)) (.int kk n) cv).run P w = .ok () w'∧Stp (TB B0) wl B0 w0 R σ w R σ (H.set id (.map (lJ (.int kk n) v es))) w'∧w'.heap.size=w.heap.size:=by
       intro ents' clock' hrun hE'
       have hset:=hI.set (R':=R) (w':=w.putObj b (.map ents' clock')) (b' := .map (lJ (.int kk n) v es)) (s':=s) hb rfl hs hh hwl (wQ.refl s) (fun k hk => .inl hk)
        ⟨rfl,rfl,rfl,by simp [World.putObj],fun k hk=>World.putObj_heap_other (by omega)⟩ (by simp [World.putObj])
        (fun k _ hk=>World.putObj_heap_other (fun e=>hk (by rw [e];exact hblk))) (iz.refl R) (fun _ _ h => .inl h)
        (fun k o u hu' hk=>by
         rw [hblk] at hk;cases hk
         have:=hI.ro b o u hu'
         simp [World.cell?,hheap] at this)
        ⟨hgen,b,ents',clock',hblk,World.putObj_heap_same hbl,by simpa using hE'.1,fun i e he=>by
         rw [dY hs]
         obtain ⟨m,a1,a2,a3⟩:=hE'.2 i e he
         exact ⟨m,by simpa using a1,a2,a3⟩⟩
       rw [dY hs] at hset
       exact ⟨_,hrun,hset.widen (fun k hk=>by rw [hblk] at hk;cases hk;exact hB),by simp [World.putObj]⟩
      have hput:∀ o:Obj,(setObj b o).run P w = .ok () (w.putObj b o):=by
       intro o
       simp [setObj,Sem.run,hheap,World.putObj]
      rcases rE (q:=q) (n:=n) hv clock 0 hE hall with ⟨i,val,g1,⟨m',g2,g3⟩,g4,_⟩ | ⟨g1,g2,_⟩
      ·have hfk:(Instr.findKey kt (.int kk n) ents.toList).run P w = .ok (some (0+i,val)) w:=by
        simp only [Instr.findKey,Sem.run_bind,run_underlying hku,Result.andThen_ok,g1]
        rfl
       have hold:((ents[0+i]?).map (·.key)).getD (.int kk n) = .int kk n:=by
        rw [Nat.zero_add]
        have:ents[i]? = some m':=by simpa using g2
        simp [this,g3]
       have hks:(Instr.keyThatStays (.int kk n) (.int kk n)).run P w = .ok (.int kk n) w:=by
        simp [Instr.keyThatStays,Instr.sameBits]
       refine fin (ents.modify (0+i) fun e => { e with key := .int kk n,val:=cv }) clock ?_ ?_
       ·simp only [Instr.mapUpdate,Sem.run_bind,run_underlying hu,Result.andThen_ok,hget,hck,hfk,hold,hks,hput]
       ·rw [Nat.zero_add]
        simpa using g4
      ·have hfk:(Instr.findKey kt (.int kk n) ents.toList).run P w = .ok none w:=by
        simp only [Instr.findKey,Sem.run_bind,run_underlying hku,Result.andThen_ok,g1]
        rfl
       refine fin (ents.push { key := .int kk n,val:=cv,born:=clock }) (clock+1) ?_ ?_
       ·simp only [Instr.mapUpdate,Sem.run_bind,run_underlying hu,Result.andThen_ok,hget,hck,hfk,hput]
       ·simpa using g2
     ·cases h
    ·cases h
   ·cases h
  ·cases h
 ·cases h
end ops
end Go.Ab
namespace Go.Ab
open Go.RowKit
section ops
variable {P:Program} {wl B0:Nat} {w0:World} {R R':Ro} {σ σ':List Sg} {H:Hp} {w w':World}
inductive RelO (R:Ro) (σ:List Sg):Option V→Option Value→Prop where
 | none:RelO R σ none none
 | some (v:V) (cv:Value) (h:RelV R σ v cv):RelO R σ (some v) (some cv)
theorem rP {x:Option V} {cx:Option Value} {d n:Nat} (hx:RelO R σ x cx) (h:bnd x d=some n) :
  (x=none∧cx=none∧n=d)∨∃ k i,cx=some (.int k i)∧0≤i∧n=i.toNat∧x.isSome=true:=by
 cases hx with
 | none=>cases h;exact .inl ⟨rfl,rfl,rfl⟩
 | some v cv hv=>
  right
  unfold bnd at h
  split at h
  ·simp_all
  ·rename_i k i he
   cases he
   split at h
   ·cases h
    have e:=hv.lit_inv
    exact ⟨_,_,by rw [e],by assumption,rfl,rfl⟩
   ·cases h
  ·cases h
theorem wL {lo hi mx:Option V} {clo chi cmx:Option Value} {L C l h m:Nat} (hlo:RelO R σ lo clo) (hhi:RelO R σ hi chi) (hmx:RelO R σ mx cmx)
  (b1:bnd hi L=some h) (b2:bnd lo 0=some l) (b3:bnd mx h=some m) (h1:l≤h) (h2:h≤m) (h3:m≤C) (h4:mx.isSome=true→hi.isSome=true) :
  ∃ m',(Instr.sliceBounds true L C clo chi cmx).run P w = .ok (l,h,m') w∧m≤m'∧m'≤C:=by
 rcases rP hmx b3 with ⟨rfl,rfl,e3⟩ | ⟨km,im,rfl,g3,e3,s3⟩
 ·refine ⟨C,?_,h3,Nat.le_refl _⟩
  rcases rP hhi b1 with ⟨rfl,rfl,e1⟩ | ⟨kh,ih,rfl,g1,e1,s1⟩
  ·rcases rP hlo b2 with ⟨rfl,rfl,e2⟩ | ⟨kl,il,rfl,g2,e2,s2⟩
   ·subst e1 e2;simp [Instr.sliceBounds]
   ·subst e1 e2;simp [Instr.sliceBounds,run_sliceBound w kl il h _ g2 (by omega)]
  ·rcases rP hlo b2 with ⟨rfl,rfl,e2⟩ | ⟨kl,il,rfl,g2,e2,s2⟩
   ·subst e1 e2;simp [Instr.sliceBounds,run_sliceBound w kh ih C _ g1 (by omega)]
   ·subst e1 e2;simp [Instr.sliceBounds,run_sliceBound w kh ih C _ g1 (by omega),run_sliceBound w kl il ih.toNat _ g2 (by omega)]
 ·refine ⟨m,?_,Nat.le_refl _,h3⟩
  rcases rP hhi b1 with ⟨rfl,rfl,e1⟩ | ⟨kh,ih,rfl,g1,e1,s1⟩
  ·exact absurd (h4 s3) (by simp)
  ·rcases rP hlo b2 with ⟨rfl,rfl,e2⟩ | ⟨kl,il,rfl,g2,e2,s2⟩
   ·subst e1 e2 e3;simp [Instr.sliceBounds,run_sliceBound w km im C _ g3 (by omega),run_sliceBound w kh ih im.toNat _ g1 (by omega)]
   ·subst e1 e2 e3;simp [Instr.sliceBounds,run_sliceBound w km im C _ g3 (by omega),run_sliceBound w kh ih im.toNat _ g1 (by omega),run_sliceBound w kl il ih.toNat _ g2 (by omega)]
theorem rK {t e:TypeId} {a:Option Addr} {L C l h m:Nat} {clo chi cmx:Option Value} (ht:P.underlying t=some (.slice e)) (hs:aR P e≠0)
  (hb:(Instr.sliceBounds true L C clo chi cmx).run P w = .ok (l,h,m) w) :
  (Instr.sliceAt t (.slice a L C) clo chi cmx).run P w = .ok (sliced a l h m (aR P e)) w:=by
 obtain ⟨i,hi,hz⟩:=nD hs
 simp only [Instr.sliceAt,Instr.slice,Sem.run_bind,run_underlying ht,Result.andThen_ok,hb,lM hi,Sem.run_pure,sliced]
theorem VY {α:Type} {l:List α} {n i:Nat} {x:α} (h:(l.drop n)[i]? = some x):l[n+i]? = some x:=by rwa [List.getElem?_drop] at h
theorem Pf {rows:List (List V)} {A:Option Addr} {L C l h m size:Nat} (hr:RelV R σ (.ro rows) (.slice A L C)) (hlh:l≤h) (hhm:h≤m) (hmC:m≤C) (hL:h≤rows.length)
  (hok:rows.all (fun r=>r.length==size)=true):RelV R σ (.ro ((rows.take h).drop l)) (sliced A l h m size):=by
 by_cases hlh':h=l
 ·subst hlh'
  have:(rows.take h).drop h=[]:=by simp
  rw [this]
  unfold sliced
  rw [Nat.sub_self]
  exact .roNil _ _
 cases hr with
 | roNil=>simp at hL;omega
 | ro rows b off c esz vals hc hs hp ho hv hR=>
  have hml:m≠l:=by omega
  unfold sliced
  rw [if_neg hml]
  show RelV R σ _ (.slice (some (Addr.add ⟨b,off,none⟩ (l*size))) (h - l) (m - l))
  rw [cR]
  have hlen:((rows.take h).drop l).length=h - l:=by simp;omega
  have hget:∀ (i:Nat) (r:List V),((rows.take h).drop l)[i]? = some r→rows[l+i]? = some r:=fun i r hi=>(fY (VY hi)).1
  have hmem:∀ r ∈ (rows.take h).drop l,r ∈ rows:=fun r hr=>List.mem_of_mem_take (List.mem_of_mem_drop hr)
  have hes:size=esz:=by
   rw [List.all_eq_true] at hok
   cases hrw:rows with
   | nil=>rw [hrw] at hL;simp at hL;omega
   | cons r rs=>
    have h1:=hs r (by rw [hrw];simp)
    have h2:=hok r (by rw [hrw];simp)
    simp only [beq_iff_eq] at h2
    omega
  subst hes
  have:=RelV.ro (R:=R) (σ:=σ) ((rows.take h).drop l) b (off+l*size) (m - l) size (fun i j=>vals (l+i) j) (by rw [hlen];omega)
   (fun r hr=>hs r (hmem r hr))
   (by unfold dq at *;rw [List.all_eq_true] at *;exact fun r hr=>hp r (hmem r hr))
   (by rw [List.all_eq_true] at *;exact fun r hr=>ho r (hmem r hr))
   (fun i j r x h1 h2=>hv (l+i) j r x (hget i r h1) h2)
   (fun i j r x h1 h2=>by
    have:=hR (l+i) j r x (hget i r h1) h2
    rw [Nat.add_mul] at this
    rw [← this]
    congr 1
    omega)
  rw [hlen] at this
  exact this
theorem PZ {rows:List (List V)} {cv:Value} (h:RelV R σ (.ro rows) cv):∃ A c,cv = .slice A rows.length c∧rows.length≤c:=by
 cases h with
 | roNil A c=>exact ⟨A,c,rfl,Nat.zero_le _⟩
 | ro rows b off c esz vals hc=>exact ⟨_,c,rfl,hc⟩
theorem NM (hI:Inv wl B0 w0 R σ H w) {calm:Bool} {t:TypeId} {x v:V} {lo hi mx:Option V} {cx:Value} {clo chi cmx:Option Value} {H':Hp}
  (h:cy P wl calm t x lo hi mx H=some (v,H')) (hx:RelV R σ x cx) (hlo:RelO R σ lo clo) (hhi:RelO R σ hi chi) (hmx:RelO R σ mx cmx) :
  ∃ cv R',(Instr.sliceAt t cx clo chi cmx).run P w = .ok cv w∧Stp (TB B0) wl B0 w0 R σ w R' σ H' w∧RelV R' σ v cv:=by
 unfold cy at h
 split at h
 ·cases h
 ·rename_i e he
  have hte:=ki he
  split at h
  ·rename_i rows
   simp only [Option.bind_eq_some_iff] at h
   obtain ⟨hh,b1,l,b2,m,b3,h⟩:=h
   split at h
   ·rename_i hcond
    obtain ⟨c1,c2,c3,c4,c5,c6⟩:=hcond
    cases h
    obtain ⟨A,c,rfl,hc⟩:=PZ hx
    obtain ⟨m',hb,hm1,hm2⟩:=wL (P:=P) (w:=w) (C:=c) hlo hhi hmx b1 b2 b3 c2 c3 (by omega) c5
    exact ⟨_,R,rK hte c1 hb,Stp.refl hI,Pf hx c2 (by omega) hm2 (by omega) c6⟩
   ·cases h
  ·rename_i id g len
   split at h
   ·-- to a bound
    simp only [Option.bind_eq_some_iff] at h
    obtain ⟨hh,b1,h⟩:=h
    split at h
    ·rename_i s rs g' live hb
     split at h
     ·rename_i hcond
      obtain ⟨c1,c2,rfl⟩:=hcond
      cases h
      obtain ⟨A,l,c,s',rfl,hs,hho,hg,hl⟩:=mC hx
      obtain ⟨hgen,hesz,hz0,hrow,hnone,hsome⟩:=lO hI hb hs hho
      obtain ⟨rfl,hn,hsm⟩:=hl hgen.symm
      have hlc:l≤c:=by
       cases hblk:s'.blk with
       | none=>have:=hn hblk;omega
       | some b=>exact (hsm b hblk).2.1
      obtain ⟨m',hb',hm1,hm2⟩:=wL (P:=P) (w:=w) (C:=c) (l:=0) (m:=hh) hlo hhi hmx b1 rfl rfl (Nat.zero_le _) (Nat.le_refl _) (by omega) (fun h=>by cases h)
      have hm':m'=c:=by
       have hrun:=hb'
       cases hmx
       cases hlo
       rcases rP hhi b1 with ⟨rfl,rfl,e1⟩ | ⟨kh,ih,rfl,g1,e1,s1⟩
       ·simp [Instr.sliceBounds] at hrun;exact hrun.2.symm
       ·simp [Instr.sliceBounds,run_sliceBound w kh ih c _ g1 (by omega)] at hrun;exact hrun.2.symm
      subst hm'
      refine ⟨_,R,rK hte c1 hb',Stp.refl hI,?_⟩
      unfold sliced
      refine .own _ _ _ _ _ _ s' hs hho hg (fun e=>⟨by omega,fun hblk => ?_,fun b hblk => ?_⟩)
      ·have:=hn hblk;omega
      ·obtain ⟨a1,a2,a3⟩:=hsm b hblk
       refine ⟨?_,by omega,by simpa using a3⟩
       subst a1
       simp [cR]
     ·cases h
    ·cases h
   ·-- from a bound on: nobody writes it any more
    rename_i lo
    simp only [Option.bind_eq_some_iff] at h
    obtain ⟨hh,b1,l,b2,h⟩:=h
    split at h
    ·rename_i s rs g' live hb
     split at h
     ·rename_i hcond
      obtain ⟨c1,c2,c3,c4,c5,c6,rfl,c8,c9⟩:=hcond
      cases h
      have hfz:fzC wl (.own id g len) H=some (.ro (rs.take len),H.set id (.rows s rs g false)):=by
       simp [fzC,hb,c6,c9,c3]
      obtain ⟨R',hst,hro⟩:=Kh hI hfz hx
      obtain ⟨A,c,rfl,hc⟩:=PZ hro
      have htl:(rs.take len).length=len:=by simp;omega
      rw [htl] at hro hc ⊢
      obtain ⟨m',hb',hm1,hm2⟩:=wL (P:=P) (w:=w) (C:=c) (m:=hh) hlo hhi hmx b1 b2 rfl c4 (Nat.le_refl _) (by omega) (fun h=>by cases h)
      refine ⟨_,R',rK hte c1 hb',hst,?_⟩
      obtain ⟨s',hs,hho⟩:∃ s',σ[id]? = some s'∧s'.hole=false:=by
       obtain ⟨_,_,_,s',_,hs,hh,_⟩:=mC hx
       exact ⟨s',hs,hh⟩
      obtain ⟨hgen,hesz,hz0,hrow,hnone,hsome⟩:=lO hI hb hs hho
      have:=Pf hro c4 (by omega) hm2 (by omega) (size:=aR P e) (by
       rw [List.all_eq_true]
       intro r hr
       have:=(hrow r (List.mem_of_mem_take hr)).1
       simp [this,c8])
      rwa [List.take_take,Nat.min_eq_left c5] at this
     ·cases h
    ·cases h
   ·cases h
  ·cases h
end ops
end Go.Ab
namespace Go.Ab
open Go.RowKit
section ops
variable {P:Program} {wl B0:Nat} {w0:World} {R R':Ro} {σ σ':List Sg} {H:Hp} {w w':World}
def iX:Op→Bool
 | .call c=>match c.callee with | .value _=>true | _=>false
 | _=>false
theorem EA {env:List V} {a:Act} (hE:b7 R σ env a.tmps) {x:Option Operand} {v:Option V} (h:O3 env x=some v):RelO R σ v (x.map a.eval):=by
 cases x with
 | none=>cases h;exact .none
 | some x=>
  simp only [O3,Option.map_eq_some_iff] at h
  obtain ⟨y,hy,rfl⟩:=h
  exact .some _ _ (bJ hE hy)
def CX (P:Program) (wl B0:Nat) (w0:World) (R:Ro) (σ:List Sg) (w:World) (ρ:Operand→Value) (o:Oper) (v:V) (H':Hp):Prop:=
 ∃ (nx:Next) (cv:Value) (w':World) (R':Ro) (σ':List Sg),(execOp ρ o).run P w = .ok nx w'∧(nx = .value cv∨(nx = .skip∧cv=undef)) ∧
  Stp (TB B0) wl B0 w0 R σ w R' σ' H' w'∧RelV R' σ' v cv∧w.heap.size≤w'.heap.size
theorem CX.quiet (hI:Inv wl B0 w0 R σ H w) {ρ:Operand→Value} {o:Oper} {v:V} {cv:Value} (hr:(execOp ρ o).run P w = .ok (.value cv) w) (hv:RelV R σ v cv):CX P wl B0 w0 R σ w ρ o v H:=
 ⟨_,cv,w,R,σ,hr,.inl rfl,Stp.refl hI,hv,Nat.le_refl _⟩
theorem toL (a:Act) (args:Array Operand):(args.toList.map a.eval).toArray=args.map a.eval:=by
 apply Array.ext'
 simp
theorem QY {cx:Cx} (hP:cx.P=P) (hW:cx.wl=wl) (hI:Inv wl B0 w0 R σ H w) {calm ord:Bool} {o:Oper} {env:List V} {a:Act} (hE:b7 R σ env a.tmps) {v:V} {H':Hp}
  (hc:iX o.op=false) (h:opV cx calm ord o.op env H=some (v,H')):CX P wl B0 w0 R σ w a.eval o v H':=by
 subst hP hW
 unfold opV at h
 split at h
 ·-- move
  rename_i x ho
  simp only [Option.map_eq_some_iff] at h
  obtain ⟨x',hx,e⟩:=h
  cases e
  exact CX.quiet hI (by simp only [execOp,ho,Sem.run_pure]) (bJ hE hx)
 ·-- assign
  rename_i x ho
  simp only [Option.map_eq_some_iff] at h
  obtain ⟨x',hx,e⟩:=h
  have hr:=bJ hE hx
  have hrun:(execOp a.eval o).run cx.P w = .ok (.value (a.eval x)) w:=by simp only [execOp,ho,Sem.run_pure]
  have e':(x' = .nil∧(V.own H.length 0 0,H++[B.rows 0 [] 0 true])=(v,H'))∨(x',H)=(v,H'):=by
   split at e
   ·exact .inl ⟨rfl,e⟩
   ·exact .inr e
  clear e
  rcases e' with ⟨rfl,e⟩ | e
  ·cases e
   obtain ⟨τ,s1,r1,_,_⟩:=pT (vs:=[.nil]) (cvs := #[a.eval x]) hI (hr.cons (b7.nil R σ))
   refine ⟨_,a.eval x,w,R,σ++τ,hrun,.inl rfl,s1.widen (fun _ h=>h.elim),?_,Nat.le_refl _⟩
   have:=r1.2 0 (.own H.length 0 0) rfl
   simpa using this
  ·cases e
   exact CX.quiet hI hrun hr
 ·-- pick
  rename_i c x y ho
  simp only [Option.bind_eq_some_iff,Option.map_eq_some_iff] at h
  obtain ⟨c',hc',x',hx,y',hy,v',hv,e⟩:=h
  cases e
  obtain ⟨t,ht,hr⟩:=Ps hv (bJ hE hc') (bJ hE hx) (bJ hE hy)
  exact CX.quiet hI (by simp only [execOp,ho,Sem.run_bind,ht,asBool,Sem.run_pure,Result.andThen_ok]) hr
 ·-- alloc
  rename_i t ho
  simp only [Option.bind_eq_some_iff] at h
  obtain ⟨z,hz,h⟩:=h
  split at h
  ·rename_i hon
   cases h
   obtain ⟨τ,s1,r1⟩:=DI hI t (nr z hon) hon
   refine ⟨_,_,_,R,_,?_,.inl rfl,s1.widen (fun _ h=>h.elim),r1,by simp⟩
   simp only [execOp,ho,Instr.alloc,Sem.run_bind,Ft hz,Result.andThen_ok,newVar,newRow,run_newObj_alloc,Sem.run_pure]
  ·cases h
 ·-- box
  rename_i t x ho
  simp only [Option.bind_eq_some_iff] at h
  obtain ⟨x',hx,vs,hvs,h⟩:=h
  cases h
  obtain ⟨hr,hon,_⟩:=uK (bJ hE hx) hvs
  obtain ⟨τ,s1,r1⟩:=DI hI t hr hon
  refine ⟨_,_,_,R,_,?_,.inl rfl,s1.widen (fun _ h=>h.elim),r1,by simp⟩
  simp only [execOp,ho,Instr.box,Sem.run_bind,Result.andThen_ok,newVar,newRow,run_newObj_alloc,Sem.run_pure]
 ·-- build
  rename_i t parts ho
  simp only [Option.bind_eq_some_iff,Option.map_eq_some_iff] at h
  obtain ⟨l,hl,v',hv,e⟩:=h
  cases e
  obtain ⟨h1,h2⟩:=E7 hE hl
  obtain ⟨cv,hrun,hr⟩:=Ns (P:=cx.P) (w:=w) (cparts:=parts.map fun p=>(p.1,a.eval p.2)) hv (by simpa using h1) (by simpa using h2)
  exact CX.quiet hI (by simp only [execOp,ho,Sem.run_bind,hrun,Result.andThen_ok,Sem.run_pure]) hr
 ·-- buildSlice
  rename_i t len parts ho
  simp only [Option.bind_eq_some_iff] at h
  obtain ⟨l,hl,h⟩:=h
  split at h
  ·cases h
  ·obtain ⟨h1,h2⟩:=E7 hE hl
   obtain ⟨cv,w',R',σ',hrun,hst,hr,hsz⟩:=Bf (cparts:=parts.map fun p=>(p.1,a.eval p.2)) hI h (by simpa using h1) (by simpa using h2)
   exact ⟨_,cv,w',R',σ',by simp only [execOp,ho,Sem.run_bind,hrun,Result.andThen_ok,Sem.run_pure],.inl rfl,hst,hr,hsz⟩
 ·-- insert
  rename_i t m k x ho
  simp only [Option.bind_eq_some_iff,Option.map_eq_some_iff] at h
  obtain ⟨m',hm,k',hk,x',hx,H1,hH,e⟩:=h
  cases e
  obtain ⟨w',hrun,hst,hsz⟩:=IE hI hH (bJ hE hm) (bJ hE hk) (bJ hE hx)
  exact ⟨.skip,undef,w',R,σ,by simp only [execOp,ho,Sem.run_bind,hrun,Result.andThen_ok,Sem.run_pure],.inr ⟨rfl,rfl⟩,hst,.lit _,by omega⟩
 ·-- load
  rename_i t x ho
  simp only [Option.bind_eq_some_iff,Option.map_eq_some_iff] at h
  obtain ⟨x',hx,v',hv,e⟩:=h
  cases e
  obtain ⟨cv,hrun,hr⟩:=Hr hI hv (bJ hE hx)
  exact CX.quiet hI (by simp only [execOp,ho,Sem.run_bind,hrun,Result.andThen_ok,Sem.run_pure]) hr
 ·-- store
  rename_i t x y ho
  simp only [Option.bind_eq_some_iff,Option.map_eq_some_iff] at h
  obtain ⟨x',hx,y',hy,H1,hH,e⟩:=h
  cases e
  obtain ⟨w',R',σ',hrun,hst,hsz⟩:=Nr hI hH (bJ hE hx) (bJ hE hy)
  exact ⟨.skip,undef,w',R',σ',by simp only [execOp,ho,Sem.run_bind,hrun,Result.andThen_ok,Sem.run_pure],.inr ⟨rfl,rfl⟩,hst,.lit _,by omega⟩
 ·-- nilCheck
  rename_i x ho
  simp only [Option.bind_eq_some_iff,Option.map_eq_some_iff] at h
  obtain ⟨x',hx,v',hv,e⟩:=h
  cases e
  have hr:=bJ hE hx
  obtain ⟨hrun,rfl⟩:=Td (P:=cx.P) ho hI hv hr rfl
  exact CX.quiet hI hrun hr
 ·-- binOp
  rename_i op t x y u ho
  simp only [Option.bind_eq_some_iff,Option.map_eq_some_iff] at h
  obtain ⟨x',hx,y',hy,v',hv,e⟩:=h
  cases e
  obtain ⟨cv,hrun,hr⟩:=UT (w:=w) o ho hv (bJ hE hx) (bJ hE hy)
  exact CX.quiet hI hrun hr
 ·-- unOp
  rename_i op t x ho
  simp only [Option.bind_eq_some_iff,Option.map_eq_some_iff] at h
  obtain ⟨x',hx,v',hv,e⟩:=h
  cases e
  obtain ⟨cv,hrun,hr⟩:=X7 (P:=cx.P) (w:=w) hv (bJ hE hx)
  exact CX.quiet hI (by simp only [execOp,ho,Sem.run_bind,hrun,Result.andThen_ok,Sem.run_pure]) hr
 ·-- convert
  rename_i s d x ho
  simp only [Option.bind_eq_some_iff,Option.map_eq_some_iff] at h
  obtain ⟨x',hx,v',hv,e⟩:=h
  cases e
  obtain ⟨cv,hrun,hr⟩:=Qb (w:=w) hv (bJ hE hx)
  exact CX.quiet hI (by simp only [execOp,ho,Sem.run_bind,hrun,Result.andThen_ok,Sem.run_pure]) hr
 ·-- makeFunc
  rename_i f x y ho
  simp only [Option.bind_eq_some_iff,Option.map_eq_some_iff] at h
  obtain ⟨x',hx,y',hy,e⟩:=h
  cases e
  have h1:=u7 hE hx
  have h2:=u7 hE hy
  rw [toL] at h1 h2
  exact CX.quiet hI (by simp only [execOp,ho,Instr.makeFunc,Sem.run_bind,Result.andThen_ok,Sem.run_pure]) (.fn f x' y' _ _ h1.1 h2.1 h1.2 h2.2)
 ·-- makeMap
  rename_i t r ho
  split at h
  ·cases h
   have hb:=Below.one_alloc w (.map #[] 0)
   have hp:=hI.push_stp (T:=TB B0) (w':=w.alloc (.map #[] 0)) (b := .map []) (s:=⟨some w.heap.size,0,0,0,false⟩) hb (fun k hk=>by cases hk;exact ⟨Nat.le_refl _,by simp⟩)
    ⟨rfl,w.heap.size,#[],0,rfl,iH w _,rfl,fun i e he=>by simp at he⟩
   refine ⟨_,.map (some w.heap.size),_,R,_,?_,.inl rfl,hp,?_,by simp⟩
   ·simp only [execOp,ho,Instr.makeMap,Option.map_none,Sem.run_bind,Result.andThen_ok,run_newObj_alloc,Sem.run_pure]
   ·exact .map _ _ ⟨some w.heap.size,0,0,0,false⟩ (by rw [← hI.len];simp) rfl (fun _=>⟨rfl,rfl⟩)
  ·cases h
 ·-- makeSlice
  rename_i t l c ho
  simp only [Option.bind_eq_some_iff] at h
  obtain ⟨l',hl,c',hc',h⟩:=h
  obtain ⟨cv,w',σ',hrun,hst,hr,hsz⟩:=C6 hI h (bJ hE hl) (bJ hE hc')
  exact ⟨_,cv,w',R,σ',by simp only [execOp,ho,Sem.run_bind,hrun,Result.andThen_ok,Sem.run_pure],.inl rfl,hst.widen (fun _ h=>h.elim),hr,hsz⟩
 ·-- slice
  rename_i t x lo hi mx ho
  simp only [Option.bind_eq_some_iff] at h
  obtain ⟨x',hx,lo',hlo,hi',hhi,mx',hmx,h⟩:=h
  obtain ⟨cv,R',hrun,hst,hr⟩:=NM hI h (bJ hE hx) (EA hE hlo) (EA hE hhi) (EA hE hmx)
  exact ⟨_,cv,w,R',σ,by simp only [execOp,ho,Sem.run_bind,hrun,Result.andThen_ok,Sem.run_pure],.inl rfl,hst,hr,Nat.le_refl _⟩
 ·-- fieldAddr
  rename_i t x i ho
  simp only [Option.bind_eq_some_iff,Option.map_eq_some_iff] at h
  obtain ⟨x',hx,v',hv,e⟩:=h
  cases e
  obtain ⟨cv,hrun,hr⟩:=C8 (w:=w) hv (bJ hE hx)
  exact CX.quiet hI (by simp only [execOp,ho,Sem.run_bind,hrun,Result.andThen_ok,Sem.run_pure]) hr
 ·-- field
  rename_i t x i ho
  simp only [Option.bind_eq_some_iff,Option.map_eq_some_iff] at h
  obtain ⟨x',hx,v',hv,e⟩:=h
  cases e
  obtain ⟨cv,hrun,hr⟩:=Nm (w:=w) hv (bJ hE hx)
  exact CX.quiet hI (by simp only [execOp,ho,Sem.run_bind,hrun,Result.andThen_ok,Sem.run_pure]) hr
 ·-- indexAddr
  rename_i t x i ho
  simp only [Option.bind_eq_some_iff,Option.map_eq_some_iff] at h
  obtain ⟨x',hx,i',hi,v',hv,e⟩:=h
  cases e
  obtain ⟨cv,hrun,hr⟩:=Da hI hv (bJ hE hx) (bJ hE hi)
  exact CX.quiet hI (by simp only [execOp,ho,Sem.run_bind,hrun,Result.andThen_ok,Sem.run_pure]) hr
 ·-- index
  rename_i t x i ho
  simp only [Option.bind_eq_some_iff,Option.map_eq_some_iff] at h
  obtain ⟨x',hx,i',hi,v',hv,e⟩:=h
  cases e
  obtain ⟨cv,hrun,hr⟩:=Nz (w:=w) hv (bJ hE hx) (bJ hE hi)
  exact CX.quiet hI (by simp only [execOp,ho,Sem.run_bind,hrun,Result.andThen_ok,Sem.run_pure]) hr
 ·-- lookup
  rename_i t m k ok ho
  simp only [Option.bind_eq_some_iff,Option.map_eq_some_iff] at h
  obtain ⟨m',hm,k',hk,v',hv,e⟩:=h
  cases e
  obtain ⟨cv,hrun,hr⟩:=Kj hI hv (bJ hE hm) (bJ hE hk)
  exact CX.quiet hI (by simp only [execOp,ho,Sem.run_bind,hrun,Result.andThen_ok,Sem.run_pure]) hr
 ·-- extract
  rename_i x i ho
  simp only [Option.bind_eq_some_iff,Option.map_eq_some_iff] at h
  obtain ⟨x',hx,v',hv,e⟩:=h
  cases e
  obtain ⟨cv,hrun,hr⟩:=HW (P:=cx.P) (w:=w) hv (bJ hE hx)
  exact CX.quiet hI (by simp only [execOp,ho,Sem.run_bind,hrun,Result.andThen_ok,Sem.run_pure]) hr
 ·-- calls
  rename_i c ho
  split at h
  ·rename_i b hb
   simp only [Option.bind_eq_some_iff] at h
   obtain ⟨as,has,h⟩:=h
   have hA:=u7 hE has
   rw [toL] at hA
   obtain ⟨bs,hexec⟩:∃ bs,(execOp a.eval o).run cx.P w=(builtin b c.argTypes o.type bs (c.args.map a.eval)).run cx.P w:=
    ⟨_,by simp only [execOp,ho,Sem.run_bind,resolve,hb,Sem.run_pure,Result.andThen_ok,invoke];rfl⟩
   unfold OJ at h
   split at h
   ·-- len
    split at h
    ·rename_i t x hts
     have hts':c.argTypes = #[t]:=by apply Array.ext';simpa using hts
     split at h
     ·rename_i he
      obtain ⟨e,he⟩:=Option.isSome_iff_exists.1 he
      simp only [Option.map_eq_some_iff] at h
      obtain ⟨v',hv,e'⟩:=h
      cases e'
      obtain ⟨cx',l,hl,h1,h2⟩:=hA.uncons
      have:=h2.nil_inv
      have hl0:l=[]:=by simpa using this
      subst hl0
      obtain ⟨cv,hrun,hr⟩:=VQ (ty:=o.type) hI he hv h1
      refine CX.quiet hI ?_ hr
      rw [hexec,hl,hts']
      simp only [builtin,Sem.run_bind,hrun,Result.andThen_ok,Sem.run_pure]
     ·cases h
    ·cases h
   ·-- append
    split at h
    ·rename_i t u s x hts
     have hts':c.argTypes = #[t,u]:=by apply Array.ext';simpa using hts
     split at h
     ·rename_i he
      obtain ⟨cs,l,hl,h1,h2⟩:=hA.uncons
      obtain ⟨cx',l2,hl2,h3,h4⟩:=h2.uncons
      have:=h4.nil_inv
      have hl0:l2=[]:=by simpa using this
      subst hl0
      have hl2':l=[cx']:=by simpa using hl2
      subst hl2'
      obtain ⟨cv,w',σ',hrun,hst,hr,hsz⟩:=J9 (ty:=o.type) hI h he h1 h3
      refine ⟨_,cv,w',R,σ',?_,.inl rfl,hst,hr,hsz⟩
      rw [hexec,hl,hts']
      simp only [builtin,Sem.run_bind,hrun,Result.andThen_ok,Sem.run_pure]
     ·cases h
    ·cases h
   ·-- max
    simp only [Option.map_eq_some_iff] at h
    obtain ⟨v',hv,e'⟩:=h
    cases e'
    obtain ⟨cv,hrun,hr⟩:=A6 (P:=cx.P) (w:=w) (ts:=c.argTypes) (ty:=o.type) hv hA
    refine CX.quiet hI ?_ hr
    simp only [if_true] at hrun
    rw [hexec]
    simp only [builtin,Sem.run_bind,hrun,Result.andThen_ok,Sem.run_pure]
   ·-- min
    simp only [Option.map_eq_some_iff] at h
    obtain ⟨v',hv,e'⟩:=h
    cases e'
    obtain ⟨cv,hrun,hr⟩:=A6 (P:=cx.P) (w:=w) (ts:=c.argTypes) (ty:=o.type) hv hA
    refine CX.quiet hI ?_ hr
    simp only [Bool.false_eq_true,if_false] at hrun
    rw [hexec]
    simp only [builtin,Sem.run_bind,hrun,Result.andThen_ok,Sem.run_pure]
   ·cases h
  ·rename_i f hf
   rw [ho] at hc
   simp [iX,hf] at hc
  ·cases h
 ·cases h
end ops
end Go.Ab
