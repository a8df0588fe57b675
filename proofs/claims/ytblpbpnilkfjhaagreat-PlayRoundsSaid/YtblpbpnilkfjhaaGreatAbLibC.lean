import Derived.Test.YtblpbpnilkfjhaaGreatAbLibB
import Derived.Shelf.Slices.Delete
set_option linter.unusedVariables false
set_option linter.unusedSimpArgs false
namespace Go.Ab
def al:Code→List Nat→Code
 | c,[]=>c
 | .seq a b,i::p=>if i=0 then al a p else al b p
 | .cond _ a b,i::p=>if i=0 then al a p else al b p
 | .block _ a,_::p=>al a p
 | .loop a,_::p=>al a p
 | .scope a,_::p=>al a p
 | .rangeFunc _ _ a b,i::p=>if i=0 then al a p else al b p
 | c,_=>c
def am (fn:Func):Code:=fn.body.getD .skip
structure Sys where
 P:Program
 orc:FuncId→Option (List V→Hp→Option (V×Hp))
 keepRes:FuncId→FuncId→Option (Nat→Bool)
 keepArg:FuncId→Bool
 call:Nat→FuncId→List V→Hp→Option (V×Hp)
 yld:Nat→Nat→List V→Hp→Option (V×Hp)
inductive Fr where
 | seq (c:Code)
 | block (id:Nat)
 | scope (a:Code)
 | scope2 (a:Code)
def uu:V := .lit undef
abbrev Res:=Option (V×Hp)
def au (cx:Cx) (K:Out→St→Res):List Fr→Out→St→Res
 | [],o,s=>K o s
 | .seq c::fs,o,s=>match o with
  | .norm=>ba cx c none (au cx K fs) s
  | o=>au cx K fs o s
 | .block id::fs,o,s=>match o with
  | .exit id'=>if id'=id then au cx K fs .norm s else au cx K fs (.exit id') s
  | o=>au cx K fs o s
 | .scope a::fs,o,s=>match o with
  | .goto l => if bH l a then ba cx a (some l) (fun o' s'' => match o' with | .goto l' => if bH l' a then none else au cx K fs (.goto l') s'' | o' => au cx K fs o' s'') s else au cx K fs (.goto l) s
  | o=>au cx K fs o s
 | .scope2 a::fs,o,s=>match o with
  | .goto l=>if bH l a then none else au cx K fs (.goto l) s
  | o=>au cx K fs o s
def itX (cx:Cx) (c:Code) (n0:Nat) (K:Out→St→Res) (n:Nat) (s:St):Res:=
 Lc (ba cx c none) n0 (cx.M.named cx.fid) (ko c ([],[])) K n s
def eO (cx:Cx) (c:Code) (n0:Nat) (K:Out→St→Res) (n:Nat):Out→St→Res:=fun o s'=>match o with
 | .norm=>itX cx c n0 K n (tidy n0 (IK (cx.M.named cx.fid) (ko c ([],[])) false) s')
 | .ret=>K .ret s'
 | o=>K o (tidy n0 (IK (cx.M.named cx.fid) (ko c ([],[])) true) s')
def FT:Code→Array Oper
 | .region _ ops _=>ops
 | _ => #[]
def kw:Code→Rg
 | .region _ ops draw=>if draw then pl ops else Rg.none
 | _=>Rg.none
def l8:Code→List (Oper×Nat)
 | .region _ ops draw=>if draw then aC ops else ops.toList.zipIdx
 | _=>[]
def AN (ops:Array Oper):List Nat:=(aC ops).map (·.2)
def bV (cx:Cx) (c:Code) (j n0:Nat) (a:List Nat×List Nat) (K:Out→St→Res) (s:St):Res:=
 AR cx n0 (kw c) (FT c) ((l8 c).drop j) a (K .norm) s
def ao (P:Program) (fn:Func):Out→St→Res:=fun o s=>match o with
 | .norm=>(f7 P fn.results.toList s).map fun v=>(v,s.H)
 | .ret=>(f7 P fn.results.toList s).map fun v=>(v,s.H)
 | _=>none
def bm (x:Option V) (H:Hp) (k:V→Hp→Res):Res:=(x.map fun v=>(v,H)).bind fun p=>k p.1 p.2
def bp (x:Option (V×Hp)) (k:V→Hp→Res):Res:=x.bind fun p=>k p.1 p.2
def bs (x:Option Hp) (k:Hp→Res):Res:=(x.map fun H'=>(V.lit undef,H')).bind fun p=>k p.2
def cnd (c:V) (a b:Res):Res:=match c with
 | .lit (.bool t)=>bif t then a else b
 | _=>none
def gd (c:V) (a b u:Res):Res:=match c with
 | .lit (.bool t)=>bif t then a else b
 | .lit (.tuple _)=>u
 | _=>none
def av (P:Program) (t:TypeId) (H:Hp):Option (V×Hp):=
 (fk P t).bind fun z=>if bg (bS z) then let p:=bA (bS z) H;some (.ptr p.2.length 0 0 0,p.2++[.box p.1]) else none
def aN (v:V) (H:Hp):Option (V×Hp):=v.cells.bind fun vs=>let p:=bA vs H;some (.ptr p.2.length 0 0 0,p.2++[.box p.1])
def cN (P:Program) (wl:Nat) (t:TypeId) (len:Nat) (l:List (Nat×V)) (H:Hp):Option (V×Hp):=
 if true && !a7 (l.map (·.2)) then none else aA P wl t len l H
def bc (P:Program) (t:TypeId) (x:V) (H:Hp):Option (V×Hp):=if (kH P t).isSome then (uf x H).map fun v=>(v,H) else none
def kM (P:Program) (wl:Nat) (t u:TypeId) (s x:V) (H:Hp):Option (V×Hp):=if (kH P u).isSome then bl P wl t s x H else none
def apt (a:List Nat×List Nat) (k:Res):Res:=if wg a then k else none
def lgR (v:V) (a:List Nat×List Nat):List Nat×List Nat:=match HK v with | some k=>(k::a.1,a.2) | none=>a
def lgW (v:V) (a:List Nat×List Nat):List Nat×List Nat:=match HK v with | some k=>(a.1,k::a.2) | none=>a
def stB (n0:Nat) (v:V):Bool:=match HK v with | some i=>i<n0 | none=>true
def stO (n0:Nat) (v:V) (k:Res):Res:=if stB n0 v then k else none
def ag0:List (Option V)→Option (List V)
 | []=>some []
 | x::xs=>x.bind fun v=>(ag0 xs).bind fun vs=>some (v::vs)
def ef (l:List (Option V)) (H:Hp):Res:=((ag0 l).bind fun vs=>match vs with | [v]=>some v | vs=>some (.tup vs)).map fun v=>(v,H)
section steps
variable {cx:Cx} {K:Out→St→Res} {fs:List Fr} {s:St} {r:Res}
theorem KO {fn:Func} {args:List V} {H:Hp} {c:Code} (hb:fn.body=some c) (h:au cx (ao cx.P fn) [.seq c] .norm ⟨args++List.replicate (fn.ntmps - args.length) uu,H⟩=r):ak cx fn args H=r:=by
 rw [← h]
 unfold ak
 rw [hb]
 have:(fun o s=>match o with
   | .norm=>(f7 cx.P fn.results.toList s).map fun v=>(v,s.H)
   | .ret=>(f7 cx.P fn.results.toList s).map fun v=>(v,s.H)
   | _=>none:Out→St→Res)=au cx (ao cx.P fn) []:=by
  funext o s
  cases o <;> rfl
 show ba cx c none _ _=ba cx c none (au cx (ao cx.P fn) []) _
 rw [← this]
 rfl
theorem go_seq {a b:Code} (h:au cx K (.seq a :: .seq b::fs) .norm s=r):au cx K (.seq (.seq a b)::fs) .norm s=r:=by
 rw [← h]
 show ba cx a none _ s=ba cx a none (au cx K (.seq b::fs)) s
 congr 1
theorem go_block {id:Nat} {a:Code} (h:au cx K (.seq a :: .block id::fs) .norm s=r):au cx K (.seq (.block id a)::fs) .norm s=r:=by
 rw [← h]
 show ba cx a none _ s=ba cx a none (au cx K (.block id::fs)) s
 congr 1
theorem go_scope {a:Code} (h:au cx K (.seq a :: .scope a::fs) .norm s=r):au cx K (.seq (.scope a)::fs) .norm s=r:=by
 rw [← h]
 show ba cx a none _ s=ba cx a none (au cx K (.scope a::fs)) s
 congr 1
theorem go_ret (h:au cx K fs .ret s=r):au cx K (.seq .ret::fs) .norm s=r:=h
theorem C4 {a:Code} {l:Nat} (hl:bH l a=false) (h:au cx K fs (.goto l) s=r):au cx K (.scope a::fs) (.goto l) s=r:=by
 rw [← h]
 simp only [au]
 rw [hl]
 rfl
theorem AQ {a:Code} {l:Nat} (hl:bH l a=false) (h:au cx K fs (.goto l) s=r):au cx K (.scope2 a::fs) (.goto l) s=r:=by
 rw [← h]
 simp only [au]
 rw [hl]
 rfl
def xr (cx:Cx) (K:Out→St→Res) (c:Code) (l:Nat) (fs:List Fr) (s:St):Res:=ba cx c (some l) (au cx K fs) s
theorem F5 {a:Code} {l:Nat} (hl:bH l a=true) (h:xr cx K a l (.scope2 a::fs) s=r):au cx K (.scope a::fs) (.goto l) s=r:=by
 rw [← h]
 simp only [au]
 rw [hl]
 simp only [if_true,xr]
 congr 1
theorem Xj {a b:Code} {l:Nat} (hl:bH l a=true) (h:xr cx K a l (.seq b::fs) s=r):xr cx K (.seq a b) l fs s=r:=by
 rw [← h]
 simp only [xr,ba,hl,if_true]
 congr 1
theorem Ql {a b:Code} {l:Nat} (hl:bH l a=false) (h:xr cx K b l fs s=r):xr cx K (.seq a b) l fs s=r:=by
 rw [← h]
 simp [xr,ba,hl]
theorem go_cond {c:Operand} {a b:Code} {v:V} {A B:Res} (hc:evO s.env c=some v) (hA:au cx K (.seq a::fs) .norm s=A) (hB:au cx K (.seq b::fs) .norm s=B) :
  au cx K (.seq (.cond c a b)::fs) .norm s=cnd v A B:=by
 rw [← hA,← hB]
 show ba cx (.cond c a b) none (au cx K fs) s=_
 simp only [ba,hc]
 cases v with
 | lit x=>cases x <;> rfl
 | _=>rfl
theorem go_reg0 {id:Nat} {ops:Array Oper} (h:bV cx (.region id ops false) 0 s.H.length ([],[]) (au cx K fs) s=r):au cx K (.seq (.region id ops false)::fs) .norm s=r:=by
 rw [← h]
 show ba cx (.region id ops false) none (au cx K fs) s=_
 simp [ba,bV,kw,FT,l8]
theorem go_reg1 {id:Nat} {ops:Array Oper} (hok:BP ops=true) (h:bV cx (.region id ops true) 0 s.H.length ([],[]) (au cx K fs) s=r):au cx K (.seq (.region id ops true)::fs) .norm s=r:=by
 rw [← h]
 show ba cx (.region id ops true) none (au cx K fs) s=_
 simp [ba,bV,kw,FT,l8,hok]
section ops
variable {id j n0:Nat} {ops:Array Oper} {a:List Nat×List Nat} {env:List V} {H:Hp} {o:Oper} {i:Nat} {L:List Nat}
theorem ae1 (hL:AN ops=L) (hj:L[j]? = some i) (ho:ops.toList[i]? = some o):(aC ops).drop j=(o,i)::(aC ops).drop (j+1):=by
 subst hL
 simp only [AN,List.getElem?_map,Option.map_eq_some_iff] at hj
 obtain ⟨p,hp,rfl⟩:=hj
 have hm:p ∈ aC ops:=List.mem_of_getElem? hp
 have hz:p ∈ ops.toList.zipIdx:=by
  simp only [aC,List.mem_append,List.mem_filter] at hm
  rcases hm with h | h <;> exact h.1
 have hx:ops.toList[p.2]? = some p.1:=by
  obtain ⟨x,k⟩:=p
  simpa [List.mem_zipIdx_iff_getElem?] using hz
 rw [hx] at ho
 cases ho
 rw [List.getElem?_eq_some_iff] at hp
 obtain ⟨hj,he⟩:=hp
 rw [List.drop_eq_getElem_cons hj,he]
def sx (n0:Nat) (st:Bool) (op:Op) (env:List V) (x:Res):Res:=if dZ n0 st op env then x else none
theorem aeN {st:Bool} {op:Op} {x:Res} (hst:st=false) (h:x=r):sx n0 st op env x=r:=by
 subst hst
 simpa [sx,dZ] using h
theorem go_op1 (hL:AN ops=L) (ha:(pl ops).any=false) (hj:L[j]? = some i) (ho:ops.toList[i]? = some o) (hg:o.guard=none)
  (h:sx n0 ((pl ops).strict i) o.op env ((opV cx ((pl ops).calm i) ((pl ops).ord i) o.op env H).bind (fun p=>bV cx (.region id ops true) (j+1) n0 a K ⟨mq env o.dst p.1,p.2⟩))=r):bV cx (.region id ops true) j n0 a K ⟨env,H⟩=r:=by
 rw [← h]
 simp only [bV,kw,FT,l8,if_true,ae1 hL hj ho]
 simp only [AR,hg]
 simp [Gw,ha,sx]
variable {gj d:Nat} {v:V} {A B C:Res}
end ops
theorem afr {X:Option (V×Hp)} {F:V×Hp→Res} {v:V} {H:Hp} (h1:X=some (v,H)) (h2:F (v,H)=r):X.bind F=r:=by
 subst h1
 exact h2
theorem Q2 {c:Code} {n0 n:Nat} (h:au cx (eO cx c n0 K n) [.seq c] .norm s=r):itX cx c n0 K (n+1) s=r:=by
 rw [← h]
 show ba cx c none _ s=ba cx c none (au cx (eO cx c n0 K n) []) s
 congr 1
end steps
end Go.Ab
namespace Go.Ab
section combinators
variable {H:Hp} {K:V→Hp→Res} {k:Hp→Res} {A B C:Res}
@[congr] theorem acg {x y:Option V} (h:x=y):bm x H K=bm y H K:=by rw [h]
@[congr] theorem acd {x y:Option (V×Hp)} (h:x=y):bp x K=bp y K:=by rw [h]
@[congr] theorem abU {x y:Option Hp} (h:x=y):bs x k=bs y k:=by rw [h]
@[congr] theorem Z3 {x y:V} (h:x=y):cnd x A B=cnd y A B:=by rw [h]
@[congr] theorem abY {x y:V} (h:x=y):gd x A B C=gd y A B C:=by rw [h]
def ob {α β:Type} (x:Option α) (k:α→Option β):Option β:=x.bind k
def ck {β:Type} (c:Bool) (k:Option β):Option β:=bif c then k else none
theorem T5 {v:V}:bm (some v) H K=K v H:=rfl
theorem V3:bm none H K=none:=rfl
theorem U2 {v:V} {h:Hp}:bp (some (v,h)) K=K v h:=rfl
theorem UZ:bp none K=none:=rfl
theorem W8 {h:Hp}:bs (some h) k=k h:=rfl
theorem UI:bs none k=none:=rfl
theorem Xy {α:Type} {x:Option α} {f:α→V}:bm (x.map f) H K=ob x fun a=>K (f a) H:=by cases x <;> rfl
theorem VV {α:Type} {x:Option α} {f:α→Option V}:bm (x.bind f) H K=ob x fun a=>bm (f a) H K:=by cases x <;> rfl
theorem XA {α:Type} {x:Option α} {f:α→V×Hp}:bp (x.map f) K=ob x fun a=>K (f a).1 (f a).2:=by cases x <;> rfl
theorem Tq {α:Type} {x:Option α} {f:α→Option (V×Hp)}:bp (x.bind f) K=ob x fun a=>bp (f a) K:=by cases x <;> rfl
theorem abx {α:Type} {x:Option α} {f:α→Hp}:bs (x.map f) k=ob x fun a=>k (f a):=by cases x <;> rfl
theorem UB {α:Type} {x:Option α} {f:α→Option Hp}:bs (x.bind f) k=ob x fun a=>bs (f a) k:=by cases x <;> rfl
theorem Z4 {c:Bool} {x:Option V}:bm (bif c then x else none) H K=ck c (bm x H K):=by cases c <;> rfl
theorem abK {c:Bool} {x:Option (V×Hp)}:bp (bif c then x else none) K=ck c (bp x K):=by cases c <;> rfl
theorem abs {c:Bool} {x:Option Hp}:bs (bif c then x else none) k=ck c (bs x k):=by cases c <;> rfl
theorem afy {t:Bool}:cnd (.lit (.bool t)) A B=bif t then A else B:=rfl
theorem ahd {t:Bool}:gd (.lit (.bool t)) A B C=bif t then A else B:=rfl
theorem aha:gd uu A B C=C:=rfl
theorem br {β:Type} {A:Option β}:ck true A=A:=rfl
theorem r9 {β:Type} {A:Option β}:ck false A=none:=rfl
theorem af {α β:Type} {a:α} {f:α→Option β}:ob (some a) f=f a:=rfl
theorem TL {α β:Type} {f:α→Option β}:ob none f=none:=rfl
end combinators
def idx {α:Type} (l:List α) (i:Int):Option α:=if 0≤i then l[i.toNat]? else none
theorem Wz {α:Type} (l:List α) (i:Nat):idx l (i:Int)=l[i]? := by simp [idx]
section ops
variable {P:Program} {t:TypeId} {k k':IntKind} {a b:Int} {x y:V}
theorem NR:aw P .add t (.lit (.int k a)) (.lit (.int k b))=some (.lit (.int k (k.wrap (a+b)))):=by simp [aw,eC]
theorem Pg:aw P .sub t (.lit (.int k a)) (.lit (.int k b))=some (.lit (.int k (k.wrap (a - b)))):=by simp [aw,eC]
theorem NV:aw P .mul t (.lit (.int k a)) (.lit (.int k b))=some (.lit (.int k (k.wrap (a*b)))):=by simp [aw,eC]
theorem Nx:aw P .eql t (.lit (.int k a)) (.lit (.int k b))=some (.lit (.bool (a==b))):=by simp [aw,eC]
theorem Qk : aw P .neq t (.lit (.int k a)) (.lit (.int k b)) = some (.lit (.bool (a != b))) := by simp [aw, eC]
theorem Pa:aw P .lss t (.lit (.int k a)) (.lit (.int k b))=some (.lit (.bool (decide (a<b)))):=by simp [aw,eC]
theorem Pj:aw P .leq t (.lit (.int k a)) (.lit (.int k b))=some (.lit (.bool (decide (a≤b)))):=by simp [aw,eC]
theorem N0:aw P .gtr t (.lit (.int k a)) (.lit (.int k b))=some (.lit (.bool (decide (b<a)))):=by simp [aw,eC]
theorem Oy:aw P .geq t (.lit (.int k a)) (.lit (.int k b))=some (.lit (.bool (decide (b≤a)))):=by simp [aw,eC]
theorem Nz : aw P .quo t (.lit (.int k a)) (.lit (.int k b)) = bif b != 0 then some (.lit (.int k (k.wrap (a.tdiv b)))) else none := by
  by_cases h : b = 0
  · simp [aw, eC, h]
  · simp [aw, eC, h, (bne_iff_ne).2 h]
theorem Ob : aw P .rem t (.lit (.int k a)) (.lit (.int k b)) = bif b != 0 then some (.lit (.int k (a.tmod b))) else none := by
  by_cases h : b = 0
  · simp [aw, eC, h]
  · simp [aw, eC, h, (bne_iff_ne).2 h]
theorem MI {p q:Bool} (h:nE P t=true):aw P .eql t (.lit (.bool p)) (.lit (.bool q))=some (.lit (.bool (p==q))):=by simp [aw,h]
theorem L7 {p q:Bool} (h:nE P t=true):aw P .neq t (.lit (.bool p)) (.lit (.bool q))=some (.lit (.bool (!(p==q)))):=by simp [aw,h]
theorem VO {p:Bool}:vUn .not (.lit (.bool p))=some (.lit (.bool !p)):=rfl
theorem Ww:vUn .neg (.lit (.int k a))=some (.lit (.int k (k.wrap (0 - a)))):=rfl
theorem Vg {p:Bool}:aQ (.lit (.bool p)) x y=some (bif p then x else y):=rfl
theorem IT {l:List V}:aq (.tup (x::l)) 0=some x:=rfl
theorem IO {l:List V}:aq (.tup (x::y::l)) 1=some y:=rfl
theorem H3 {z:V} {l:List V}:aq (.tup (x::y::z::l)) 2=some z:=rfl
end ops
def aF (k:IntKind) (n:Int):List V:=[.lit (.int k n)]
def fA (b:Bool):List V:=[.lit (.bool b)]
section mem
variable {P:Program} {t:TypeId} {H:Hp} {wl:Nat}
theorem Pf {cs:List V}:ab P t (.rp cs) H=aU P t cs:=rfl
def ldB (P:Program) (t:TypeId) (g row off:Nat):Option B→Option V
 | some (.box cs)=>bif g==0&&row==0 then aU P t (cs.drop off) else none
 | some (.rows _ rs g' _)=>bif g==g' then (rs[row]?).bind fun r=>aU P t (r.drop off) else none
 | _=>none
theorem L3 {id g row off:Nat}:ab P t (.ptr id g row off) H=ldB P t g row off (H[id]?):=by
 unfold ab ldB
 dsimp only
 generalize H[id]? = b0
 cases b0 with
 | none=>rfl
 | some b=>cases b <;> simp [Bool.cond_eq_ite]
theorem VH {off:Nat} {cs:List V}:ldB P t 0 0 off (some (.box cs))=aU P t (cs.drop off):=rfl
theorem N3 {α:Type} {l:List α} {enc:α→List V} {g row off e:Nat} {lv:Bool} :
  ldB P t g row off (some (.rows e (l.map enc) g lv))=(l[row]?).bind fun x=>aU P t ((enc x).drop off):=by
 simp [ldB]
 cases l[row]? <;> rfl
def xy (P : Program) (wl : Nat) (t : TypeId) (id g row off : Nat) (vs : List V) (H : Hp) : Option B → Option Hp
  | some (.box cs) =>
    bif g == 0 && row == 0 && aS P t != 0 && vs.length == aS P t && decide (off + vs.length ≤ cs.length) then
      some ((bA vs H).2.set id (.box (spl cs off (bA vs H).1)))
    else none
  | some (.rows _ _ _ _) => (fzL wl true vs H).bind fun p =>
    match p.2[id]? with
    | some (.rows e rs g' true) =>
      bif g == g' && aS P t != 0 && vs.length == aS P t then
        (rs[row]?).bind fun r => bif decide (off + p.1.length ≤ r.length) then some (p.2.set id (.rows e (rs.set row (spl r off p.1)) g' true)) else none
      else none
    | _ => none
  | _ => none
theorem Jn {id g row off : Nat} {v : V} : ai P wl t (.ptr id g row off) v H = (v.cells).bind fun vs => bif Nat.ble wl id then xy P wl t id g row off vs H (H[id]?) else none := by
  unfold ai
  cases hv : v.cells with
  | none => simp
  | some vs =>
    simp only [Option.bind_some]
    cases hw : Nat.ble wl id with
    | false => simp
    | true =>
      simp only [if_true, cond_true]
      unfold xy
      generalize H[id]? = b0
      cases b0 with
      | none => rfl
      | some b =>
        cases b with
        | box cs => simp only [Bool.cond_eq_ite, Bool.and_eq_true, beq_iff_eq, bne_iff_ne, decide_eq_true_eq, and_assoc]
        | rows e rs g' lv =>
          simp only
          congr 1
          funext p
          generalize p.2[id]? = b1
          cases b1 with
          | none => rfl
          | some b => 
            cases b with
            | rows e rs g' lv => cases lv <;> simp [Bool.cond_eq_ite, and_assoc]
            | _ => rfl
        | _ => rfl
theorem cd {α : Type} {l : List α} {enc : α → List V} {e : TypeId} {k : IntKind} {n : Int} (hu : P.underlying t = some (.slice e)) (hs : ∀ x, (enc x).length = aS P e) (hz : (aS P e != 0) = true) :
    aj P t (.ro (l.map enc)) (.lit (.int k n)) H = (idx l n).map fun x => .rp (enc x) := by
  have hz' : aS P e ≠ 0 := by simpa using hz
  unfold aj idx
  simp only [hu]
  split
  · cases hl : l[n.toNat]? with
    | none => simp [hl]
    | some x => simp [hl, hs, hz']
  · rfl
def ixB (sz g len id:Nat) (n:Int):Option B→Option V
 | some (.rows s _ g' _)=>bif g==g'&&s==sz then bif decide (0≤n∧n.toNat<len) then some (.ptr id g n.toNat 0) else none else none
 | _=>none
theorem bf {id g len : Nat} {e : TypeId} {k : IntKind} {n : Int} (hu : P.underlying t = some (.slice e)) (hz : (aS P e != 0) = true) :
    aj P t (.own id g len) (.lit (.int k n)) H = ixB (aS P e) g len id n (H[id]?) := by
  have hz' : aS P e ≠ 0 := by simpa using hz
  unfold aj ixB
  simp only [hu]
  by_cases hn : 0 ≤ n
  · simp only [hn, if_true, true_and]
    generalize H[id]? = b0
    cases b0 with
    | none => rfl
    | some b =>
      cases b with
      | rows s rs g' lv =>
        simp only [hz', ne_eq, not_false_eq_true, and_true, Bool.cond_eq_ite, Bool.and_eq_true, beq_iff_eq, decide_eq_true_eq]
      | _ => rfl
  · simp only [hn, if_false, false_and, decide_false]
    generalize H[id]? = b0
    cases b0 with
    | none => rfl
    | some b =>
      cases b with
      | rows s rs g' lv => simp
      | _ => rfl
theorem PQ {sz g len id:Nat} {n:Int} {rs:List (List V)} {lv:Bool}:ixB sz g len id n (some (.rows sz rs g lv))=bif decide (0≤n∧n.toNat<len) then some (.ptr id g n.toNat 0) else none:=by
 simp [ixB]
theorem WW {rows:List (List V)}:uf (.ro rows) H=some (.lit (.int .i64 rows.length)):=rfl
theorem QH:uf .nil H=some (.lit (.int .i64 0)):=rfl
def lnB (g len:Nat):Option B→Option V
 | some (.rows _ _ g' _)=>bif g==g' then some (.lit (.int .i64 len)) else none
 | _=>none
theorem Qe {id g len:Nat}:uf (.own id g len) H=lnB g len (H[id]?):=by
 unfold uf lnB
 dsimp only
 generalize H[id]? = b0
 cases b0 with
 | none=>rfl
 | some b=>cases b <;> simp [Bool.cond_eq_ite]
theorem Nu {g len e:Nat} {rs:List (List V)} {lv:Bool}:lnB g len (some (.rows e rs g lv))=some (.lit (.int .i64 len)):=by simp [lnB]
theorem DP {v:Value} (h:v.oneCell'=true):aN (.lit v) H=some (.ptr H.length 0 0 0,H++[.box [.lit v]]):=by
 simp [aN,V.cells,V.one,h,bA]
theorem Kw {k:IntKind} {n:Int}:aN (.lit (.int k n)) H=some (.ptr H.length 0 0 0,H++[.box [.lit (.int k n)]]):=DP rfl
theorem I9 {b:Bool}:aN (.lit (.bool b)) H=some (.ptr H.length 0 0 0,H++[.box [.lit (.bool b)]]):=DP rfl
theorem Nt {r:List (List V)}:aN (.ro r) H=some (.ptr H.length 0 0 0,H++[.box [.ro r]]):=by simp [aN,V.cells,V.one,bA]
theorem JZ {l:List V}:aN (.agg l) H=some (.ptr (bA l H).2.length 0 0 0,(bA l H).2++[.box (bA l H).1]):=by simp [aN,V.cells]
theorem QD:bA [] H=([],H):=rfl
theorem Pd {v:Value} {l:List V}:bA (.lit v::l) H=(.lit v::(bA l H).1,(bA l H).2):=rfl
theorem WY {r:List (List V)} {l:List V}:bA (.ro r::l) H=(.ro r::(bA l H).1,(bA l H).2):=rfl
theorem N6 {i g n:Nat} {l:List V}:bA (.own i g n::l) H=(.own i g n::(bA l H).1,(bA l H).2):=rfl
theorem On {i g n o:Nat} {l:List V}:bA (.ptr i g n o::l) H=(.ptr i g n o::(bA l H).1,(bA l H).2):=rfl
theorem Xk {f:Fn} {a b l:List V}:bA (.fn f a b::l) H=(.fn f a b::(bA l H).1,(bA l H).2):=rfl
theorem KM {l:List V}:bA (.nil::l) H=(.own H.length 0 0::(bA l (H++[.rows 0 [] 0 true])).1,(bA l (H++[.rows 0 [] 0 true])).2):=rfl
theorem Dy {v:Value} (h:v.oneCell'=true):V.cells (.lit v)=some [.lit v]:=by simp [V.cells,V.one,h]
theorem JE {k:IntKind} {n:Int}:V.cells (.lit (.int k n))=some [.lit (.int k n)]:=Dy rfl
theorem H6 {b:Bool}:V.cells (.lit (.bool b))=some [.lit (.bool b)]:=Dy rfl
theorem Nb {r:List (List V)}:V.cells (.ro r)=some [.ro r]:=rfl
theorem LT {i g n:Nat}:V.cells (.own i g n)=some [.own i g n]:=rfl
theorem Lh {i g n o:Nat}:V.cells (.ptr i g n o)=some [.ptr i g n o]:=rfl
theorem Qq {f:Fn} {a b:List V}:V.cells (.fn f a b)=some [.fn f a b]:=rfl
theorem JC:V.cells .nil=some [.nil]:=rfl
theorem JY {l:List V}:V.cells (.agg l)=some l:=rfl
theorem N9 {id g row off:Nat}:aT (.ptr id g row off) H=(match H[id]? with
  | some (.box _)=>bif g==0 then some (.ptr id g row off) else none
  | some (.rows _ _ g' _)=>bif g==g' then some (.ptr id g row off) else none
  | _=>none):=by
 unfold aT
 dsimp only
 generalize H[id]? = b0
 cases b0 with
 | none=>rfl
 | some b=>cases b <;> simp [Bool.cond_eq_ite]
theorem TI {f:FuncId} {a b:List V}:aT (.fn (.func f) a b) H=some (.fn (.func f) a b):=rfl
theorem Wn {c:List V}:aT (.rp c) H=some (.rp c):=rfl
theorem JF {cx:Cx} {c:Code} {n0:Nat} {K:Out→St→Res} {n:Nat} {s:St}:eO cx c n0 K n .ret s=K .ret s:=rfl
theorem YF {v:V}:ef [some v] H=some (v,H):=rfl
theorem Y4 {v w:V}:ef [some v,some w] H=some (.tup [v,w],H):=rfl
theorem aaw {v w x:V}:ef [some v,some w,some x] H=some (.tup [v,w,x],H):=rfl
end mem
end Go.Ab
namespace Go.Ab
mutual
def V.data:V→Bool
 | .lit _=>true
 | .ro _=>true
 | .nil=>true
 | .agg cs=>kz cs
 | .fn _ a b=>Kk a&&Kk b
 | _=>false
def Kk:List V→Bool
 | []=>true
 | v::vs=>v.data&&Kk vs
def kz:List V→Bool
 | []=>true
 | .lit _::vs=>kz vs
 | .ro _::vs=>kz vs
 | _::_=>false
end
theorem kV:∀ {l:List V},kz l=true→a7 l=true
 | [],_=>rfl
 | .lit _::vs,h=>by
  have:=kV (l:=vs) (by simpa [kz] using h)
  simp [a7,V.pure,this]
 | .ro _::vs,h=>by
  have:=kV (l:=vs) (by simpa [kz] using h)
  simp [a7,V.pure,this]
 | .nil::_,h | .any::_,h | .junk::_,h | .agg _::_,h | .tup _::_,h | .fn .. :: _,h | .yld _::_,h | .rp _::_,h | .ptr .. :: _,h | .own .. :: _,h | .map _::_,h=>by simp [kz] at h
mutual
theorem Jv:∀ {v:V},v.data=true→v.pure=true
 | .lit _,_ | .ro _,_ | .nil,_=>rfl
 | .agg cs,h=>kV h
 | .fn _ a b,h=>by
  simp [V.data] at h
  simp [V.pure,pJ h.1,pJ h.2]
 | .any,h | .junk,h | .tup _,h | .yld _,h | .rp _,h | .ptr ..,h | .own ..,h | .map _,h=>by simp [V.data] at h
theorem pJ:∀ {l:List V},Kk l=true→a7 l=true
 | [],_=>rfl
 | v::vs,h=>by
  simp [Kk] at h
  simp [a7,Jv h.1,pJ h.2]
end
def nQ (cx:Cx) (g:FuncId) (args:List V):Option (V×Hp):=(cx.call 0 g args []).bind fun p=>lK (cx.M.keepRes cx.fid g) p.1 p.2
section ret
variable {H:Hp}
theorem QN {v:Value} {h:Hp}:lK none (.lit v) h=some (.lit v,[]):=rfl
def fzB (wl id g len:Nat) (H:Hp):Option B→Option (V×Hp)
 | some (.rows e rs g' _)=>bif g==g'&&decide (len≤rs.length)&&(cY rs&&Nat.ble wl id) then some (.ro (rs.take len),H.set id (.rows e rs g' false)) else none
 | _=>none
theorem pF {wl id g len:Nat}:fzC wl (.own id g len) H=fzB wl id g len H (H[id]?):=by
 unfold fzC fzB
 dsimp only
 generalize H[id]? = b
 cases b with
 | none=>rfl
 | some b=>
  cases b with
  | rows e rs g' lv=>
   by_cases h1:g=g'
   ·by_cases h2:len≤rs.length <;> cases h3:(cY rs&&Nat.ble wl id) <;> simp [h1,h2]
   ·simp [h1,beq_false_of_ne h1]
  | _=>rfl
theorem Ox {α:Type} {l:List α} {enc:α→List V} {wl id g e len:Nat} {lv:Bool} (hl:len=l.length) (hp:∀ x,a7 (enc x)=true) (hw:Nat.ble wl id=true) :
  fzB wl id g len H (some (.rows e (l.map enc) g lv))=some (.ro (l.map enc),H.set id (.rows e (l.map enc) g false)):=by
 subst hl
 have h1:cY (l.map enc)=true:=by
  rw [cY,List.all_eq_true]
  intro r hr
  obtain ⟨x,_,rfl⟩:=List.mem_map.1 hr
  exact hp x
 have h2:(l.map enc).take l.length=l.map enc:=by rw [List.take_of_length_le];simp
 simp [fzB,h1,hw,h2]
theorem Ov {α:Type} {l:List α} {enc:α→List V} {id g e len:Nat} {lv:Bool} {h:Hp} (hb:h[id]? = some (.rows e (l.map enc) g lv)) (hl:len=l.length) (hp:∀ x,a7 (enc x)=true) :
  lK none (.own id g len) h=some (.ro (l.map enc),[]):=by
 simp only [lK,fzR,C7,fzA,pF,hb,Ox hl hp (by simp:Nat.ble 0 id=true),Option.bind_some,V.pure,if_true]
end ret
section app
variable {P:Program} {wl:Nat} {t:TypeId} {H:Hp}
theorem CA {r:List (List V)}:bU (.ro r) H=some r:=rfl
theorem Ii:bU .nil H=some []:=rfl
def roB (g len:Nat):Option B→Option (List (List V))
 | some (.rows _ rs g' _)=>bif g==g'&&decide (len≤rs.length) then some (rs.take len) else none
 | _=>none
theorem H7 {id g len:Nat}:bU (.own id g len) H=roB g len (H[id]?):=by
 unfold bU roB
 dsimp only
 generalize H[id]? = b
 cases b with
 | none=>rfl
 | some b=>cases b <;> simp [Bool.cond_eq_ite]
def apB (wl _e:Nat) (sz bytes id g len:Nat) (xs:List (List V)) (H:Hp):Option B→Option (V×Hp)
 | some (.rows s rs g' live)=>
  bif Nat.ble wl id&&(g==g')&&decide (len≤rs.length)&&(live||len==rs.length)&&(s==sz||s==0)&&decide ((len+xs.length)*bytes≤70368744177664) then
   some (.own id (g+1) (len+xs.length),H.set id (.rows sz (rs.take len++xs) (g+1) live)) else none
 | _=>none
theorem dX {e:TypeId} {id g len:Nat} {x:V} (he:kH P t=some e) (hg:Fm P e=true) :
  bl P wl t (.own id g len) x H=(bU x H).bind fun xs=>bif cf (aS P e) xs then apB wl e (aS P e) (P.bytesOf e) id g len xs H (H[id]?) else none:=by
 unfold bl
 simp only [he]
 cases hr:bU x H with
 | none=>rfl
 | some xs=>
  simp only [Option.bind_some,hg,Bool.and_true]
  cases cf (aS P e) xs with
  | false=>rfl
  | true=>
   simp only [if_true,cond_true,apB]
   generalize H[id]? = b
   cases b with
   | none=>rfl
   | some b=>
    cases b with
    | rows s rs g' lv=>simp [Bool.cond_eq_ite,and_assoc]
    | _=>rfl
theorem dW {e:TypeId} {x:V} (he:kH P t=some e) (hg:Fm P e=true) :
  bl P wl t .nil x H=(bU x H).bind fun xs=>bif cf (aS P e) xs then bif decide (xs.length*P.bytesOf e≤70368744177664) then some (.own H.length 0 xs.length,H++[.rows (aS P e) xs 0 true]) else none else none:=by
 unfold bl
 simp only [he]
 cases hr:bU x H with
 | none=>rfl
 | some xs=>
  simp only [Option.bind_some,hg,Bool.and_true]
  cases cf (aS P e) xs with
  | false=>rfl
  | true=>simp [Bool.cond_eq_ite]
theorem eu {α:Type} {l:List α} {enc:α→List V} {sz:Nat} (h:∀ x,(enc x).length=sz):cf sz (l.map enc)=true:=by
 rw [cf,List.all_eq_true]
 intro r hr
 obtain ⟨x,_,rfl⟩:=List.mem_map.1 hr
 simp [h]
def room (n bytes:Nat):Bool:=decide (n*bytes≤70368744177664)
theorem A4 {e : TypeId} {n : Int} {z : Value} {Z : List V} (he : kH P t = some e) (hz : fk P e = some z) (hZ : be.fzZ (bS z) = Z) (ho : (bg (bS z) && (bS z).length == aS P e && aS P e != 0) = true) :
    be P t (.lit (.int .i64 n)) (.lit (.int .i64 n)) H = bif decide (0 ≤ n ∧ n ≤ 9223372036854775807 ∧ n * P.bytesOf e ≤ 70368744177664) then some (.own H.length 0 n.toNat, H ++ [.rows (aS P e) (List.replicate n.toNat Z) 0 true]) else none := by
  unfold be
  simp only [he, hz, ho, if_true, hZ, true_and, Bool.cond_eq_ite, decide_eq_true_eq]
end app
theorem f8 {α:Type} {l:List α} {enc:α→List V} {n:Nat} (hp:∀ x,a7 (enc x)=true):lV n (l.map enc)=l.map enc:=by
 have h1:cY (l.map enc)=true:=by
  rw [cY,List.all_eq_true]
  intro r hr
  obtain ⟨x,_,rfl⟩:=List.mem_map.1 hr
  exact hp x
 simp [lV,h1]
theorem eW {α:Type} {l:List α} {enc:α→List V} {n:Nat} (hp:∀ x,a7 (enc x)=true):ky n (l.map enc)=l.map enc:=by
 have h1:cY (l.map enc)=true:=by
  rw [cY,List.all_eq_true]
  intro r hr
  obtain ⟨x,_,rfl⟩:=List.mem_map.1 hr
  exact hp x
 simp [ky,h1]
theorem Jd {n:Nat}:ky n []=[]:=rfl
theorem LQ {n:Nat}:lV n []=[]:=rfl
theorem wB (k:IntKind) (x:Int):a7 (aF k x)=true:=rfl
theorem pp (x:Bool):a7 (fA x)=true:=rfl
theorem lu (x:Int×List Int):a7 (an x)=true:=rfl
theorem nw (x:Int×Int×Int):a7 (aD x)=true:=rfl
theorem Lf {k:IntKind} {l:List Int} {n:Nat}:lV n (l.map (aF k))=l.map (aF k):=f8 (wB k)
theorem Iq {l:List Bool} {n:Nat}:lV n (l.map fA)=l.map fA:=f8 pp
theorem Ic {l:Tyt} {n:Nat}:lV n (l.map an)=l.map an:=f8 lu
theorem F3 {l:Tye} {n:Nat}:lV n (l.map aD)=l.map aD:=f8 nw
theorem IP {k:IntKind} {l:List Int} {n:Nat}:ky n (l.map (aF k))=l.map (aF k):=eW (wB k)
theorem Gb {l:List Bool} {n:Nat}:ky n (l.map fA)=l.map fA:=eW pp
theorem EL {l:Tyt} {n:Nat}:ky n (l.map an)=l.map an:=eW lu
theorem DN {l:Tye} {n:Nat}:ky n (l.map aD)=l.map aD:=eW nw
theorem Jp {n:Nat} {cs:List V}:B.shift n (.box cs) = .box (di n cs):=rfl
theorem EI {n e g:Nat} {rs:List (List V)} {l:Bool}:B.shift n (.rows e rs g l) = .rows e (ky n rs) g l:=rfl
theorem M1 {n:Nat} {cs:List V}:B.kill n (.box cs) = .box (eE n cs):=rfl
theorem Je {n e g:Nat} {rs:List (List V)} {l:Bool}:B.kill n (.rows e rs g l) = .rows e (lV n rs) g l:=rfl
theorem IM {n:Nat}:B.kill n .dead = .dead:=rfl
theorem Ln {l:List Bool} {i:Nat} {b:Bool}:(l.map fA).set i [.lit (.bool b)]=(l.set i b).map fA:=by rw [List.map_set];rfl
theorem PW {k:IntKind} {l:List Int} {i:Nat} {b:Int}:(l.map (aF k)).set i [.lit (.int k b)]=(l.set i b).map (aF k):=by rw [List.map_set];rfl
theorem KK {n:Nat} {b:Bool}:List.replicate n [V.lit (.bool b)]=(List.replicate n b).map fA:=by rw [List.map_replicate];rfl
theorem Qv {k:IntKind} {n:Nat} {b:Int}:List.replicate n [V.lit (.int k b)]=(List.replicate n b).map (aF k):=by rw [List.map_replicate];rfl
theorem OM {α:Type} {l:List α} {f:α→List V} {i:Nat}:(l.map f)[i]? = (l[i]?).map f:=List.getElem?_map
theorem ahD {n:Nat}:Nat.ble 0 n=true:=by cases n <;> rfl
theorem OY (x:Int×List Int):an x=[.lit (.int .i64 x.1),.ro (x.2.map (aF .i64))]:=rfl
theorem LO {keep:Option (Nat→Bool)} {v:Value} {h:Hp}:lK keep (.lit v) h=some (.lit v,[]):=by
 cases keep <;> rfl
theorem PX {keep:Option (Nat→Bool)} {r:List (List V)} {h:Hp}:lK keep (.ro r) h=some (.ro r,[]):=by
 cases keep <;> rfl
theorem Rd {z:Int} (h1 : -9223372036854775808≤z) (h2:z≤9223372036854775807):IntKind.i64.wrap z=z:=by
 simp [IntKind.wrap,IntKind.bits,IntKind.signed]
 omega
end Go.Ab
namespace Go.Ab
def bdK (id n:Nat):Out→St→Res:=fun o s=>match s.H[id]? with
 | some (.loop l)=>some (.lit (.bool (dJ o).isNone),bW n (s.H.set id (.loop { l with st:=if (dJ o).isNone then .ready else .done,pending:=dJ o })))
 | _=>none
def asK (cx:Cx) (id n:Nat) (body:Code):Out→St→Res:=fun o s=>match o with
 | .norm=>match s.H[id]? with
  | some (.loop l)=>if l.st = .ready then au cx (bdK id n) [.seq body] .norm ⟨s.env,s.H.set id (.loop { l with st := .busy })⟩ else none
  | _=>none
 | _=>none
def rfK (K:Out→St→Res) (env:List V) (n:Nat) (p:V×Hp):Res:=
 match p.2[n]? with
 | some (.loop l)=>if l.st = .busy then none else
  match l.pending with
  | none=>K .norm ⟨env,bW n p.2⟩
  | some .ret=>K .ret ⟨env,bW n p.2⟩
  | some (.exit id)=>K (.exit id) ⟨env,bW n p.2⟩
  | some (.goto id)=>K (.goto id) ⟨env,bW n p.2⟩
  | some _=>none
 | _=>none
def Sb {σ α:Type} (step:σ→α→Bool×σ):List α→σ→Bool×σ
 | [],s=>(true,s)
 | x::r,s=>if (step s x).1 then Sb step r (step s x).2 else step s x
end Go.Ab
namespace Go.Ab
theorem cM {α:Type} {l r:List α} {x:α} {i:Nat} (h:l.drop i=x::r):i<l.length∧l[i]? = some x∧l.drop (i+1)=r∧x ∈ l∧l.length=i+1+r.length:=by
 have h0:i<l.length:=by
  have:=congrArg List.length h
  simp at this
  omega
 have h1:l.drop i=l[i]::l.drop (i+1):=List.drop_eq_getElem_cons h0
 rw [h] at h1
 injection h1 with h2 h3
 refine ⟨h0,by rw [List.getElem?_eq_getElem h0,h2],h3.symm,h2 ▸ List.getElem_mem h0,?_⟩
 have:=congrArg List.length h
 simp at this
 omega
theorem dE {α:Type} {l:List α} {i:Nat} (h:l.drop i=[]):l.length≤i:=List.drop_eq_nil_iff.1 h
theorem fU {α:Type} {l:List α} {i:Nat} {x:α} (h:l[i]? = some x):idx l (i:Int)=some x:=by rw [Wz,h]
theorem ltT {a b:Int} (h:a<b):decide (a<b)=true:=decide_eq_true h
theorem ltF {a b:Int} (h:b≤a):decide (a<b)=false:=decide_eq_false (by omega)
theorem leT {a b:Int} (h:a≤b):decide (a≤b)=true:=decide_eq_true h
theorem leF {a b:Int} (h:b<a):decide (a≤b)=false:=decide_eq_false (by omega)
theorem gu {k d:Nat} (h:d<k):∃ j,k=j+1:=⟨k - 1,by omega⟩
theorem fY {i:Nat} (h:i≤9223372036854775806):IntKind.i64.wrap ((i:Int)+1)=((i+1:Nat):Int):=by
 rw [Rd (by omega) (by omega)]
 omega
end Go.Ab
namespace Go.Ab
def Eo {α:Type} (p:α→Bool):List α→Nat→Int
 | [],_ => -1
 | x::r,i=>if p x then (i:Int) else Eo p r (i+1)
theorem nN {α:Type} (p:α→Bool):∀ (l:List α) (i:Nat),decide (0≤Eo p l i)=l.any p
 | [],_=>rfl
 | x::r,i=>by
  by_cases h:p x=true
  ·simp [Eo,h]
  ·simpa [Eo,h] using nN p r (i+1)
end Go.Ab
namespace Go.Ab
theorem ahj {n:Nat} (h:n≤30):decide ((30:Int)<n)=false:=decide_eq_false (by omega)
end Go.Ab
namespace Go.Ab
theorem ahI {n:Nat} (h:30<n):decide ((30:Int)<n)=true:=decide_eq_true (by omega)
end Go.Ab
namespace Go.Ab
theorem Re {n:Nat}:decide ((n:Int)≤40)=decide (n≤40):=by
 by_cases h:n≤40
 ·rw [decide_eq_true h,decide_eq_true (by omega)]
 ·rw [decide_eq_false h,decide_eq_false (by omega)]
end Go.Ab
namespace Go.Ab
section one
variable {wl e sz bytes id g len s:Nat} {H:Hp} {lv:Bool}
theorem ur {n b:Nat} (h:n*b≤70368744177664):room n b=true:=decide_eq_true h
end one
end Go.Ab
namespace Go.Ab
theorem eN {α:Type} {l:List α} {enc:α→List V} (hp:∀ x,a7 (enc x)=true):cY (l.map enc)=true:=by
 rw [cY,List.all_eq_true]
 intro r hr
 obtain ⟨x,_,rfl⟩:=List.mem_map.1 hr
 exact hp x
theorem wA {k:IntKind} {l:List Int}:cY (l.map (aF k))=true:=eN (wB k)
theorem Is {l:Tyt}:cY (l.map an)=true:=eN lu
theorem ES {l:Tye}:cY (l.map aD)=true:=eN nw
theorem Ia {l:List Bool}:cY (l.map fA)=true:=eN pp
end Go.Ab
namespace Go.Ab
section slices
variable {P:Program} {wl:Nat} {c:Bool} {t e:TypeId} {α:Type} {l:List α} {enc:α→List V} {k k':IntKind} {n lo:Int} {H:Hp}
theorem BY (h:∀ x,(enc x).length=aS P e):(l.map enc).all (fun r=>r.length==aS P e)=true:=by
 rw [List.all_eq_true]
 intro r hr
 obtain ⟨x,_,rfl⟩:=List.mem_map.1 hr
 simp [h]
theorem oI (he : kH P t = some e) (hz : (aS P e != 0) = true) (h : ∀ x, (enc x).length = aS P e) :
    bR P wl c t (.ro (l.map enc)) none (some (.lit (.int k n))) none H = bif decide (0 ≤ n ∧ n ≤ l.length) then some (.ro ((l.take n.toNat).map enc), H) else none := by
  have hz' : aS P e ≠ 0 := by simpa using hz
  unfold bR
  simp only [he, bnd]
  by_cases h0 : 0 ≤ n
  · simp only [h0, if_true, Option.bind_some, true_and]
    by_cases h1 : n ≤ l.length
    · have h2 : n.toNat ≤ l.length := by omega
      simp [h1, h2, hz', BY h, List.map_take]
    · have h2 : ¬ n.toNat ≤ l.length := by omega
      simp [h1, h2]
  · simp [h0]
theorem oX (he : kH P t = some e) (hz : (aS P e != 0) = true) (h : ∀ x, (enc x).length = aS P e) :
    bR P wl c t (.ro (l.map enc)) (some (.lit (.int k n))) none none H = bif decide (0 ≤ n ∧ n ≤ l.length) then some (.ro ((l.drop n.toNat).map enc), H) else none := by
  have hz' : aS P e ≠ 0 := by simpa using hz
  unfold bR
  simp only [he, bnd]
  by_cases h0 : 0 ≤ n
  · simp only [h0, if_true, Option.bind_some, true_and]
    by_cases h1 : n ≤ l.length
    · have h2 : n.toNat ≤ l.length := by omega
      simp [h1, h2, hz', BY h, List.map_drop, List.take_of_length_le]
    · have h2 : ¬ n.toNat ≤ l.length := by omega
      simp [h1, h2]
  · simp [h0]
theorem md (he : kH P t = some e) (hz : (aS P e != 0) = true) (h : ∀ x, (enc x).length = aS P e) :
    bR P wl c t (.ro (l.map enc)) (some (.lit (.int k lo))) (some (.lit (.int k' n))) none H = bif decide (0 ≤ lo ∧ lo ≤ n ∧ n ≤ l.length) then some (.ro (((l.take n.toNat).drop lo.toNat).map enc), H) else none := by
  have hz' : aS P e ≠ 0 := by simpa using hz
  unfold bR
  simp only [he, bnd]
  by_cases h0 : 0 ≤ lo
  · by_cases h3 : 0 ≤ n
    · simp only [h0, h3, if_true, Option.bind_some, true_and]
      by_cases h1 : n ≤ l.length
      · have h2 : n.toNat ≤ l.length := by omega
        by_cases h4 : lo ≤ n
        · have h5 : lo.toNat ≤ n.toNat := by omega
          simp [h1, h2, h4, h5, hz', BY h, List.map_take, List.map_drop]
        · have h5 : ¬ lo.toNat ≤ n.toNat := by omega
          simp [h4, h5]
      · have h2 : ¬ n.toNat ≤ l.length := by omega
        simp [h1, h2]
    · have : ¬ (0 ≤ lo ∧ lo ≤ n ∧ n ≤ (l.length : Int)) := by omega
      simp [h3, this]
  · simp [h0]
end slices
end Go.Ab
namespace Go.Ab
end Go.Ab
namespace Go.Ab
def bq {α β:Type} (x:Option α) (F:α→Option β):Option β:=x.bind F
@[congr] theorem abX {α β:Type} {x y:Option α} {F:α→Option β} (h:x=y):bq x F=bq y F:=by rw [h]
def sif {β:Type} (c:Bool) (a b:β):β:=bif c then a else b
@[congr] theorem aah {β:Type} {c d:Bool} {a b:β} (h:c=d):sif c a b=sif d a b:=by rw [h]
theorem mR {β:Type} {a b:β}:sif true a b=a:=rfl
theorem mE {β:Type} {a b:β}:sif false a b=b:=rfl
section
variable {α β γ:Type}
theorem Xf {a:α} {F:α→Option β}:bq (some a) F=F a:=rfl
theorem UU {F:α→Option β}:bq none F=none:=rfl
theorem W5 {c:Bool} {x y:Option α} {F:α→Option β}:bq (bif c then x else y) F=bif c then bq x F else bq y F:=by cases c <;> rfl
theorem aem {x:Option γ} {f:γ→Option α} {F:α→Option β}:bq (ob x f) F=ob x fun a=>bq (f a) F:=by cases x <;> rfl
theorem aev {c:Bool} {x:Option α} {F:α→Option β}:bq (ck c x) F=ck c (bq x F):=by cases c <;> rfl
theorem YN {x:Option γ} {f:γ→α} {F:α→Option β}:bq (x.map f) F=ob x fun a=>F (f a):=by cases x <;> rfl
theorem Tw {x:Option γ} {f:γ→Option α} {F:α→Option β}:bq (x.bind f) F=ob x fun a=>bq (f a) F:=by cases x <;> rfl
theorem X5 {c:Bool} {x:Option α} {F:α→Option β}:bq (bif c then x else none) F=ck c (bq x F):=by cases c <;> rfl
theorem acH {x:Option γ} {f:γ→Option α} {F:α→Option β}:bq (bq x f) F=bq x fun a=>bq (f a) F:=by cases x <;> rfl
theorem aet {x:Option γ} {f:γ→Option α} {F:α→Option β}:ob (ob x f) F=ob x fun a=>ob (f a) F:=by cases x <;> rfl
theorem Xl {c:Bool} {x y:Option α} {F:α→Option β}:ob (bif c then x else y) F=bif c then ob x F else ob y F:=by cases c <;> rfl
theorem aeR {c:Bool} {x:Option α} {F:α→Option β}:ob (ck c x) F=ck c (ob x F):=by cases c <;> rfl
theorem Yo {x:Option γ} {f:γ→α} {F:α→Option β}:ob (x.map f) F=ob x fun a=>F (f a):=by cases x <;> rfl
end
section
variable {α:Type} {H:Hp} {K:V→Hp→Res} {k:Hp→Res}
theorem afh {x:Option α} {f:α→Option V}:bm (ob x f) H K=ob x fun a=>bm (f a) H K:=by cases x <;> rfl
theorem adG {x:Option α} {f:α→Option (V×Hp)}:bp (ob x f) K=ob x fun a=>bp (f a) K:=by cases x <;> rfl
theorem aeZ {x:Option α} {f:α→Option Hp}:bs (ob x f) k=ob x fun a=>bs (f a) k:=by cases x <;> rfl
theorem Xe {c:Bool} {x y:Option V}:bm (bif c then x else y) H K=bif c then bm x H K else bm y H K:=by cases c <;> rfl
theorem Ub {c:Bool} {x y:Option (V×Hp)}:bp (bif c then x else y) K=bif c then bp x K else bp y K:=by cases c <;> rfl
theorem UT {c:Bool} {x y:Option Hp}:bs (bif c then x else y) k=bif c then bs x k else bs y k:=by cases c <;> rfl
theorem afP {c:Bool} {x:Option V}:bm (ck c x) H K=ck c (bm x H K):=by cases c <;> rfl
theorem acI {c:Bool} {x:Option (V×Hp)}:bp (ck c x) K=ck c (bp x K):=by cases c <;> rfl
theorem adr {c:Bool} {x:Option Hp}:bs (ck c x) k=ck c (bs x k):=by cases c <;> rfl
end
def rt (kp:Option (Nat→Bool)) (x:Res):Res:=x.bind fun p=>lK kp p.1 p.2
section rt
variable {kp:Option (Nat→Bool)} {α:Type} {h:Hp}
theorem S6:rt kp none=none:=rfl
theorem EM {v:V}:rt kp (some (v,h))=lK kp v h:=rfl
theorem S8 {c:Bool} {x y:Res}:rt kp (bif c then x else y)=bif c then rt kp x else rt kp y:=by cases c <;> rfl
theorem US {x:Option α} {f:α→Res}:rt kp (ob x f)=ob x fun a=>rt kp (f a):=by cases x <;> rfl
theorem adI {c:Bool} {x:Res}:rt kp (ck c x)=ck c (rt kp x):=by cases c <;> rfl
def rtN (v:V) (H:Hp):Res:=bq (fzR 0 v H) fun q=>sif q.1.pure (some (q.1,[])) (some q)
theorem DL {v:V}:lK none v h=rtN v h:=by
 show (fzR 0 v h).bind _=(fzR 0 v h).bind _
 congr 1
 funext q
 cases hq:q.1.pure <;> simp [sif,hq]
theorem V8:lK none .nil h=some (.ro [],[]):=rfl
theorem VB {c:List V}:lK none (.agg c) h=rtN (.agg c) h:=DL
theorem TO {c:List V}:lK none (.tup c) h=rtN (.tup c) h:=DL
theorem WI {i g l:Nat}:lK none (.own i g l) h=rtN (.own i g l) h:=DL
theorem WU {i:Nat}:lK none (.map i) h=some (.map i,h):=rfl
theorem Yh {f:Fn} {a b:List V}:lK none (.fn f a b) h=rtN (.fn f a b) h:=DL
theorem Xb {i g r o:Nat}:lK none (.ptr i g r o) h=some (.ptr i g r o,h):=rfl
end rt
section fz
variable {wl:Nat} {H:Hp} {nl:Bool}
theorem Vh {vs:List V}:fzR wl (.tup vs) H=bq (lS wl vs H) fun p=>some (.tup p.1,p.2):=rfl
theorem U3 {v:Value}:fzR wl (.lit v) H=some (.lit v,H):=rfl
theorem Z2 {r:List (List V)}:fzR wl (.ro r) H=some (.ro r,H):=rfl
theorem Us:fzR wl .nil H=some (.ro [],H):=rfl
theorem XS {f:Fn} {a b:List V}:fzR wl (.fn f a b) H=some (.fn f a b,H):=rfl
theorem Wk {i g r o:Nat}:fzR wl (.ptr i g r o) H=some (.ptr i g r o,H):=rfl
theorem U0 {i:Nat}:fzR wl (.map i) H=some (.map i,H):=rfl
theorem UC {i g l:Nat}:fzR wl (.own i g l) H=fzB wl i g l H (H[i]?):=pF
theorem WO {c:List V}:fzR wl (.agg c) H=bq (fzL wl true c H) fun p=>some (.agg p.1,p.2):=rfl
theorem LC:lS wl [] H=some ([],H):=rfl
theorem LJ {v:Value} {vs:List V}:lS wl (.lit v::vs) H=bq (lS wl vs H) fun q=>some (.lit v::q.1,q.2):=rfl
theorem Nv {r:List (List V)} {vs:List V}:lS wl (.ro r::vs) H=bq (lS wl vs H) fun q=>some (.ro r::q.1,q.2):=rfl
theorem Iu {vs:List V}:lS wl (.nil::vs) H=bq (lS wl vs H) fun q=>some (.ro []::q.1,q.2):=rfl
theorem P2 {f:Fn} {a b vs:List V}:lS wl (.fn f a b::vs) H=bq (lS wl vs H) fun q=>some (.fn f a b::q.1,q.2):=rfl
theorem JD {i g l:Nat} {vs:List V}:lS wl (.own i g l::vs) H=bq (fzB wl i g l H (H[i]?)) fun p=>bq (lS wl vs p.2) fun q=>some (p.1::q.1,q.2):=by
 show (fzC wl (.own i g l) H).bind _=_
 rw [pF]
 rfl
theorem KF {c vs:List V}:lS wl (.agg c::vs) H=bq (fzL wl true c H) fun p=>bq (lS wl vs p.2) fun q=>some (.agg p.1::q.1,q.2):=by
 show ((fzL wl true c H).bind _).bind _=_
 cases fzL wl true c H <;> rfl
theorem Q1:fzL wl nl [] H=some ([],H):=rfl
theorem Ou {v:Value} {vs:List V}:fzL wl nl (.lit v::vs) H=bq (fzL wl nl vs H) fun q=>some (.lit v::q.1,q.2):=rfl
theorem Vt {r:List (List V)} {vs:List V}:fzL wl nl (.ro r::vs) H=bq (fzL wl nl vs H) fun q=>some (.ro r::q.1,q.2):=rfl
theorem Kx {vs:List V}:fzL wl true (.nil::vs) H=bq (fzL wl true vs H) fun q=>some (.ro []::q.1,q.2):=rfl
theorem Vf {f:Fn} {a b vs:List V}:fzL wl nl (.fn f a b::vs) H=bq (fzL wl nl vs H) fun q=>some (.fn f a b::q.1,q.2):=rfl
theorem PH {i g r o:Nat} {vs:List V}:fzL wl nl (.ptr i g r o::vs) H=bq (fzL wl nl vs H) fun q=>some (.ptr i g r o::q.1,q.2):=rfl
theorem N8 {i g l:Nat} {vs:List V}:fzL wl nl (.own i g l::vs) H=bq (fzB wl i g l H (H[i]?)) fun p=>bq (fzL wl nl vs p.2) fun q=>some (p.1::q.1,q.2):=by
 show (fzC wl (.own i g l) H).bind _=_
 rw [pF]
 rfl
theorem OE:ms wl [] H=some ([],H):=rfl
theorem M8 {v:Value} {vs:List V}:ms wl (.lit v::vs) H=bq (ms wl vs H) fun q=>some (.lit v::q.1,q.2):=rfl
theorem Ve {r:List (List V)} {vs:List V}:ms wl (.ro r::vs) H=bq (ms wl vs H) fun q=>some (.ro r::q.1,q.2):=rfl
theorem KT {vs:List V}:ms wl (.nil::vs) H=bq (ms wl vs H) fun q=>some (.nil::q.1,q.2):=rfl
theorem Vm {f:Fn} {a b vs:List V}:ms wl (.fn f a b::vs) H=bq (ms wl vs H) fun q=>some (.fn f a b::q.1,q.2):=rfl
theorem OK {i:Nat} {vs:List V}:ms wl (.yld i::vs) H=bq (ms wl vs H) fun q=>some (.yld i::q.1,q.2):=rfl
theorem QB {i:Nat} {vs:List V}:ms wl (.map i::vs) H=bq (ms wl vs H) fun q=>some (.map i::q.1,q.2):=rfl
theorem P9 {i g r o:Nat} {vs:List V}:ms wl (.ptr i g r o::vs) H=bq (ms wl vs H) fun q=>some (.ptr i g r o::q.1,q.2):=rfl
theorem PD {i g l:Nat} {vs:List V}:ms wl (.own i g l::vs) H=bq (fzB wl i g l H (H[i]?)) fun p=>bq (ms wl vs p.2) fun q=>some (p.1::q.1,q.2):=by
 show (fzC wl (.own i g l) H).bind _=_
 rw [pF]
 rfl
theorem QU {c vs:List V}:ms wl (.agg c::vs) H=bq (fzL wl true c H) fun p=>bq (ms wl vs p.2) fun q=>some (.agg p.1::q.1,q.2):=by
 show ((fzL wl true c H).bind _).bind _=_
 cases fzL wl true c H <;> rfl
theorem ahG {i g len e g':Nat} {rs:List (List V)} {lv:Bool}:fzB wl i g len H (some (.rows e rs g' lv))=sif (g==g'&&(cY rs&&Nat.ble wl i)) (ck (decide (len≤rs.length)) (some (.ro (rs.take len),H.set i (.rows e rs g' false)))) none:=by
 show (bif g==g'&&decide (len≤rs.length)&&(cY rs&&Nat.ble wl i) then _ else _)=_
 generalize (g==g')=a
 generalize decide (len≤rs.length)=b
 generalize (cY rs&&Nat.ble wl i)=c
 cases a <;> cases b <;> cases c <;> rfl
end fz
theorem OV {α:Type} {l:List α} {n:Nat} (h:l.length=n):l.take n=l:=List.take_of_length_le (by omega)
theorem JW:cY []=true:=rfl
theorem IQ {r:List V} {rs:List (List V)}:cY (r::rs)=(a7 r&&cY rs):=rfl
def Fk (n:Nat):Hp→Hp
 | []=>[]
 | b::H=>b.kill n::Fk n H
def rQ (n:Nat):Hp→Hp
 | []=>[]
 | b::H=>b.shift n::rQ n H
theorem Hb {n:Nat}:∀ {H:Hp},H.map (B.kill n)=Fk n H
 | []=>rfl
 | b::H=>by simp [Fk,Hb (H:=H)]
theorem uD {n:Nat}:∀ {H:Hp},H.map (B.shift n)=rQ n H
 | []=>rfl
 | b::H=>by simp [rQ,uD (H:=H)]
theorem UR {n:Nat} {H:Hp}:bW n H=Fk n (H.take n):=Hb
theorem L2 {n:Nat}:Fk n []=[]:=rfl
theorem HY {n:Nat} {b:B} {H:Hp}:Fk n (b::H)=b.kill n::Fk n H:=rfl
theorem IU {n:Nat}:rQ n []=[]:=rfl
theorem Gc {n:Nat} {b:B} {H:Hp}:rQ n (b::H)=b.shift n::rQ n H:=rfl
theorem EP {n:Nat} {st:LoopState} {pe:Option Code} {f:FuncId} {ts:List V} {ps:List Tmp} {a b:Code}:B.kill n (.loop ⟨st,pe,f,ts,ps,a,b⟩) = .loop ⟨st,pe,f,eE n ts,ps,a,b⟩:=rfl
def nsh (H:Hp) (v:V) (H2:Hp):Res:=sif (decide (H.length≤H2.length)) (some (v,H2)) none
theorem R4 {H H2:Hp} {v:V}:db H (v,H2)=nsh H v H2:=by
 unfold db nsh sif
 by_cases h:H.length≤H2.length
 ·simp [h]
 ·simp [h]
theorem agP {n m:Nat}:Nat.ble n m=decide (n≤m):=by
 have h:(Nat.ble n m=true)=(n≤m):=Nat.ble_eq
 cases hb:Nat.ble n m with
 | true=>
  rw [hb] at h
  exact (decide_eq_true (h.mp rfl)).symm
 | false=>
  rw [hb] at h
  exact (decide_eq_false (fun e=>Bool.noConfusion (h.mpr e))).symm
theorem Ch {H:Hp} {c:Bool} {x y:V×Hp}:db H (sif c x y)=sif c (db H x) (db H y):=by cases c <;> rfl
def ldQ (H H':Hp) (q:V×Hp):Res:=db H (q.1.shift H'.length,bif (q.1.shift H'.length).scal then H else H'++q.2.map (B.shift H'.length))
theorem SW {H H':Hp} {v:V} {h:Hp}:ldQ H H' (v,h)=nsh H (v.shift H'.length) (sif (v.shift H'.length).scal H (H'++rQ H'.length h)):=by
 unfold ldQ
 rw [R4,uD]
 rfl
theorem Wy {H H':Hp} {v:Value} {h:Hp}:ldQ H H' (.lit v,h)=some (.lit v,H):=by
 rw [SW]
 simp [nsh,sif,V.shift,V.scal]
def ldP (H:Hp) (q:V×Hp):Res:=some (q.1.shift H.length,H++q.2.map (B.shift H.length))
theorem Y1 {H:Hp} {v:V} {h:Hp}:ldP H (v,h)=some (v.shift H.length,H++rQ H.length h):=by
 unfold ldP
 rw [uD]
theorem uh {cx:Cx} {g:FuncId} {args:List V} {H:Hp}:iO cx g args H=bq (nQ cx g args) (ldP H):=by
 unfold iO nQ bq ldP
 cases h:cx.call 0 g args [] with
 | none=>rfl
 | some p=>rfl
theorem Ls {cx:Cx} {o:Bool} {g:FuncId} {first caps args:List V} {H:Hp} :
  bL cx false o (.fn (.func g) first caps) args H=bq (sif (cx.M.keepArg g) (some (first++args++caps,H)) (ms cx.wl (first++args++caps) H)) fun a=>
   sif (a7 a.1) (bq (nQ cx g a.1) (ldQ H a.2))
    (bq (cx.call cx.wl g a.1 a.2) fun p=>bq (sif (cx.M.keepRes cx.fid g).isSome (some p) (fzR cx.wl p.1 p.2)) fun q=>db H (sif q.1.pure (q.1,bW a.2.length q.2) q)):=by
 unfold bL A9
 simp only [Bool.false_eq_true,if_false]
 have e1:(if cx.M.keepArg g=true then some (first++args++caps,H) else ms cx.wl (first++args++caps) H)=sif (cx.M.keepArg g) (some (first++args++caps,H)) (ms cx.wl (first++args++caps) H):=by
  cases cx.M.keepArg g <;> rfl
 rw [e1]
 unfold bq
 cases sif (cx.M.keepArg g) (some (first++args++caps,H)) (ms cx.wl (first++args++caps) H) with
 | none=>rfl
 | some a=>
  simp only [Option.bind_some]
  cases hp:a7 a.1 with
  | true=>
   simp only [if_true,mR,uh]
   unfold bq
   cases nQ cx g a.1 <;> rfl
  | false=>
   simp only [Bool.false_eq_true,if_false,mE]
   cases cx.call cx.wl g a.1 a.2 with
   | none=>rfl
   | some p=>
    simp only [Option.bind_some]
    have e2:(if (cx.M.keepRes cx.fid g).isSome=true then some p else fzR cx.wl p.1 p.2)=sif (cx.M.keepRes cx.fid g).isSome (some p) (fzR cx.wl p.1 p.2):=by
     cases (cx.M.keepRes cx.fid g).isSome <;> rfl
    rw [e2]
    cases sif (cx.M.keepRes cx.fid g).isSome (some p) (fzR cx.wl p.1 p.2) with
    | none=>rfl
    | some q=>
     simp only [Option.bind_some]
     cases hq:q.1.pure <;> simp [sif]
theorem I6 {cx:Cx} {g:FuncId} {first caps args:List V} {H:Hp} :
  bL cx true true (.fn (.func g) first caps) args H =
   sif (a7 (first++args++caps)) (bq (nQ cx g (first++args++caps)) (ldP H)) (sif (cx.M.keepArg g) none (bq (ms cx.wl (first++args++caps) H) fun a=>
    sif (a7 a.1) (bq (nQ cx g a.1) fun q=>bq (ldP a.2 q) fun q=>some (q.1,sif q.1.scal H q.2)) (bq (cx.call a.2.length g a.1 a.2) fun p=>sif p.1.scal (some (p.1,H)) none))):=by
 unfold bL iR
 simp only [if_true,uh]
 cases a7 (first++args++caps) with
 | true=>rfl
 | false=>
  simp only [Bool.false_eq_true,if_false,mE]
  cases cx.M.keepArg g with
  | true=>rfl
  | false=>
   simp only [Bool.false_eq_true,if_false,mE]
   unfold bq
   cases ms cx.wl (first++args++caps) H with
   | none=>rfl
   | some a=>
    simp only [Option.bind_some]
    cases a7 a.1 with
    | true=>
     simp only [if_true,mR]
     cases nQ cx g a.1 <;> rfl
    | false=>
     simp only [Bool.false_eq_true,if_false,mE]
     cases cx.call a.2.length g a.1 a.2 with
     | none=>rfl
     | some p=>
      simp only [Option.bind_some]
      cases hs:p.1.scal <;> simp [sif]
theorem I8 {cx:Cx} {g:FuncId} {first caps args:List V} {H:Hp} :
  bL cx true false (.fn (.func g) first caps) args H=sif (a7 (first++args++caps)) (bq (bq (cx.call 0 g (first++args++caps) []) fun p=>lK none p.1 p.2) fun q=>sif q.1.pure (some (q.1,H)) none) none:=by
 unfold bL iR
 simp only [if_true,Bool.false_eq_true,if_false]
 cases a7 (first++args++caps) with
 | false=>rfl
 | true=>
  simp only [if_true,mR]
  unfold bq
  cases cx.call 0 g (first++args++caps) [] with
  | none=>rfl
  | some p=>
   simp only [Option.bind_some,DL]
   unfold rtN bq
   cases fzR 0 p.1 p.2 with
   | none=>rfl
   | some q=>
    simp only [Option.bind_some]
    cases hq:q.1.pure <;> simp [sif,hq]
section rounds
variable {P:Program} {M:Mode}
def yB (P:Program) (M:Mode) (k wl id:Nat) (args:List V) (H:Hp):Option B→Res
 | some (.loop l)=>Do { P,M,fid:=l.fn,round:=true,wl,call:=evF P M k,yld:=evY P M k,n:=k } id l args H
 | _=>none
theorem WQ {k wl id:Nat} {args:List V} {H:Hp}:evY P M (k+1) wl id args H=yB P M k wl id args H (H[id]?):=by
 unfold yB
 simp only [evY]
 generalize H[id]? = b
 cases b with
 | none=>rfl
 | some b=>cases b <;> rfl
theorem PP {k wl id:Nat} {args:List V} {H:Hp} {pe:Option Code} {f:FuncId} {ts:List V} {ps:List Tmp} {a b:Code} :
  yB P M k wl id args H (some (.loop ⟨.ready,pe,f,ts,ps,a,b⟩))=sif (decide (args.length=ps.length)&&Nat.ble wl id)
   (au { P,M,fid:=f,round:=true,wl,call:=evF P M k,yld:=evY P M k,n:=k } (asK { P,M,fid:=f,round:=true,wl,call:=evF P M k,yld:=evY P M k,n:=k } id H.length b) [.seq a] .norm ⟨ep ts ps args,H⟩) none:=by
 unfold yB Do
 by_cases h:args.length=ps.length
 ·cases hw:Nat.ble wl id with
  | true=>
   simp only [h,hw,and_self,if_true,decide_true,Bool.and_self,mR]
   show ba _ a none _ _=ba _ a none (au _ _ []) _
   congr 1
  | false=>simp [hw,sif]
 ·simp [h,sif]
def asB (cx:Cx) (id n:Nat) (body:Code) (env:List V) (H:Hp):Option B→Res
 | some (.loop l)=>if l.st = .ready then au cx (bdK id n) [.seq body] .norm ⟨env,H.set id (.loop { l with st := .busy })⟩ else none
 | _=>none
theorem VS {cx:Cx} {id n:Nat} {body:Code} {env:List V} {H:Hp}:asK cx id n body .norm ⟨env,H⟩=asB cx id n body env H (H[id]?):=by
 unfold asK asB
 rfl
theorem LS {cx:Cx} {id n:Nat} {body:Code} {env:List V} {H:Hp} {pe:Option Code} {f:FuncId} {ts:List V} {ps:List Tmp} {a b:Code} :
  asB cx id n body env H (some (.loop ⟨.ready,pe,f,ts,ps,a,b⟩))=au cx (bdK id n) [.seq body] .norm ⟨env,H.set id (.loop ⟨.busy,pe,f,ts,ps,a,b⟩)⟩:=rfl
def bdB (id n:Nat) (o:Out) (H:Hp):Option B→Res
 | some (.loop l)=>some (.lit (.bool (dJ o).isNone),bW n (H.set id (.loop { l with st:=if (dJ o).isNone then .ready else .done,pending:=dJ o })))
 | _=>none
theorem VU {id n:Nat} {o:Out} {env:List V} {H:Hp}:bdK id n o ⟨env,H⟩=bdB id n o H (H[id]?):=by
 unfold bdK bdB
 rfl
section
variable {id n:Nat} {H:Hp} {st:LoopState} {pe:Option Code} {f:FuncId} {ts:List V} {ps:List Tmp} {a b:Code}
theorem O4:bdB id n .norm H (some (.loop ⟨st,pe,f,ts,ps,a,b⟩))=some (.lit (.bool true),bW n (H.set id (.loop ⟨.ready,none,f,ts,ps,a,b⟩))):=rfl
theorem Ur:bdB id n .ret H (some (.loop ⟨st,pe,f,ts,ps,a,b⟩))=some (.lit (.bool false),bW n (H.set id (.loop ⟨.done,some .ret,f,ts,ps,a,b⟩))):=rfl
theorem Nd {i:Nat}:bdB id n (.exit i) H (some (.loop ⟨st,pe,f,ts,ps,a,b⟩))=some (.lit (.bool false),bW n (H.set id (.loop ⟨.done,some (.exit i),f,ts,ps,a,b⟩))):=rfl
theorem NZ {i:Nat}:bdB id n (.goto i) H (some (.loop ⟨st,pe,f,ts,ps,a,b⟩))=some (.lit (.bool false),bW n (H.set id (.loop ⟨.done,some (.goto i),f,ts,ps,a,b⟩))):=rfl
def rfB (K:Out→St→Res) (env:List V) (H:Hp):Option B→Res
 | some (.loop l)=>if l.st = .busy then none else
  match l.pending with
  | none=>K .norm ⟨env,H⟩
  | some .ret=>K .ret ⟨env,H⟩
  | some (.exit id)=>K (.exit id) ⟨env,H⟩
  | some (.goto id)=>K (.goto id) ⟨env,H⟩
  | some _=>none
 | _=>none
theorem Wg {K:Out→St→Res} {env:List V} {v:V} {h:Hp}:rfK K env n (v,h)=rfB K env (bW n h) (h[n]?):=by
 unfold rfK rfB
 rfl
theorem Qf {K:Out→St→Res} {env:List V}:rfB K env H (some (.loop ⟨.ready,none,f,ts,ps,a,b⟩))=K .norm ⟨env,H⟩:=rfl
theorem KH {K:Out→St→Res} {env:List V}:rfB K env H (some (.loop ⟨.done,none,f,ts,ps,a,b⟩))=K .norm ⟨env,H⟩:=rfl
theorem TE {K:Out→St→Res} {env:List V}:rfB K env H (some (.loop ⟨.done,some .ret,f,ts,ps,a,b⟩))=K .ret ⟨env,H⟩:=rfl
theorem Pu {K:Out→St→Res} {env:List V} {i:Nat}:rfB K env H (some (.loop ⟨.done,some (.exit i),f,ts,ps,a,b⟩))=K (.exit i) ⟨env,H⟩:=rfl
theorem ON {K:Out→St→Res} {env:List V} {i:Nat}:rfB K env H (some (.loop ⟨.done,some (.goto i),f,ts,ps,a,b⟩))=K (.goto i) ⟨env,H⟩:=rfl
end
def rgC (cx:Cx) (ps:List Tmp) (a b:Code) (K:Out→St→Res) (env:List V) (H:Hp):V→Res
 | .fn (.func g) [] caps=>bq (cx.call cx.wl g (.yld H.length::caps) (H++[.loop ⟨.ready,none,cx.fid,env,ps,a,b⟩])) (rfK K env H.length)
 | _=>none
theorem abt {cx:Cx} {ps:List Tmp} {a b:Code} {K:Out→St→Res} {env:List V} {H:Hp} {g:FuncId} {caps:List V} :
  rgC cx ps a b K env H (.fn (.func g) [] caps)=bq (cx.call cx.wl g (.yld H.length::caps) (H++[.loop ⟨.ready,none,cx.fid,env,ps,a,b⟩])) (rfK K env H.length):=rfl
theorem Nk {cx:Cx} {f:Operand} {ps:Array Tmp} {a b:Code} {K:Out→St→Res} {env:List V} {H:Hp} (hr:cx.round=false) :
  ba cx (.rangeFunc f ps a b) none K ⟨env,H⟩=sif (Nat.ble cx.wl H.length) (bq (evO env f) (rgC cx ps.toList a b K env H)) none:=by
 simp only [ba,hr,Bool.false_or]
 cases hw:Nat.ble cx.wl H.length with
 | false=>rfl
 | true=>
  simp only [Bool.not_true,Bool.false_eq_true,if_false,mR]
  cases hf:evO env f with
  | none=>rfl
  | some v=>
   simp only [bq,Option.bind_some]
   cases v with
   | fn f first caps=>
    cases f with
    | func g=>
     cases first with
     | nil=>
      simp only [rgC]
      unfold bq
      congr 1
     | cons=>rfl
    | _=>rfl
   | _=>rfl
end rounds
end Go.Ab
namespace Go.Ab
def pa:List V→List (Nat×Nat×V)→Option (List V)
 | cells,[]=>some cells
 | cells,(off,size,v)::rest=>
  match v.cells with
  | some vs=>if vs.length=size∧off+vs.length≤cells.length then pa (spl cells off vs) rest else none
  | none=>none
theorem Np {cells:List V}:pa cells []=some cells:=rfl
theorem Mv {cells:List V} {off size:Nat} {v:V} {rest:List (Nat×Nat×V)}:pa cells ((off,size,v)::rest)=bq v.cells fun vs=>sif (decide (vs.length=size∧off+vs.length≤cells.length)) (pa (spl cells off vs) rest) none:=by
 simp only [pa]
 cases v.cells with
 | none=>rfl
 | some vs=>
  simp only [bq,Option.bind_some]
  by_cases h:vs.length=size∧off+vs.length≤cells.length
  ·rw [if_pos h,decide_eq_true h];rfl
  ·rw [if_neg h,decide_eq_false h];rfl
theorem MU {wl size:Nat} {rs:List (List V)} {H:Hp}:fo wl size [] rs H=some (rs,H):=rfl
theorem HZ {wl size i:Nat} {v:V} {rest:List (Nat×V)} {rs:List (List V)} {H:Hp}:fo wl size ((i,v)::rest) rs H=bq v.cells fun vs=>bq (fzL wl true vs H) fun p=>sif (decide (i<rs.length∧p.1.length=size)) (fo wl size rest (rs.set i p.1) p.2) none:=by
 simp only [fo]
 cases v.cells with
 | none=>rfl
 | some vs=>
  simp only [bq,Option.bind_some]
  cases fzL wl true vs H with
  | none=>rfl
  | some p=>
   simp only [Option.bind_some]
   by_cases h:i<rs.length∧p.1.length=size
   ·rw [if_pos h,decide_eq_true h];rfl
   ·rw [if_neg h,decide_eq_false h];rfl
theorem MC {x y:Int}:pm (.int .i64 x) (.int .i64 y)=(x==y):=rfl
theorem Ie {k:Value} {v:V}:iv k v []=[(k,v)]:=rfl
theorem Fl {k:Value} {v:V} {e:Value×V} {es:List (Value×V)}:iv k v (e::es)=sif (pm k e.1) ((k,v)::es) (e::iv k v es):=by
 simp only [iv]
 cases pm k e.1 <;> rfl
def M4 (kk:IntKind):List (Value×V)→Bool
 | []=>true
 | e::es=>ia kk e.1&&M4 kk es
theorem OG {kk:IntKind}:M4 kk []=true:=rfl
theorem J0 {kk:IntKind} {e:Value×V} {es:List (Value×V)}:M4 kk (e::es)=(ia kk e.1&&M4 kk es):=rfl
theorem E1 {x:Int}:ia .i64 (.int .i64 x)=true:=rfl
def inB (wl:Nat) (kk:IntKind) (id:Nat) (n:Int) (v:V) (H:Hp):Option B→Option Hp
 | some (.map es)=>if es.all (fun e=>ia kk e.1)&&true&&Nat.ble wl id then some (H.set id (.map (iv (.int kk n) v es))) else none
 | _=>none
theorem Wo {kk:IntKind}:∀ {es:List (Value×V)},es.all (fun e=>ia kk e.1)=M4 kk es
 | []=>rfl
 | e::es=>by simp [M4,Wo (es:=es)]
theorem TD {wl id:Nat} {kk:IntKind} {n:Int} {v:V} {H:Hp} {es:List (Value×V)}:inB wl kk id n v H (some (.map es))=sif (M4 kk es&&Nat.ble wl id) (some (H.set id (.map (iv (.int kk n) v es)))) none:=by
 simp only [inB,Wo,Bool.and_true]
 cases M4 kk es&&Nat.ble wl id <;> rfl
def lkB (kk:IntKind) (z:V) (ok:Bool) (n:Int):Option B→Option V
 | some (.map es)=>if es.all (fun e=>ia kk e.1)&&true then some (bif ok then .tup [(iL (.int kk n) z es).1,.lit (.bool (iL (.int kk n) z es).2)] else (iL (.int kk n) z es).1) else none
 | _=>none
def lkO (kk:IntKind) (z:V) (ok:Bool) (n:Int):List (Value×V)→Option V
 | []=>some (sif ok (.tup [z,.lit (.bool false)]) z)
 | e::es=>bif pm (.int kk n) e.1 then some (sif ok (.tup [e.2,.lit (.bool true)]) e.2) else lkO kk z ok n es
theorem Ra {kk:IntKind} {z:V} {ok:Bool} {n:Int}:∀ {es:List (Value×V)},some (bif ok then V.tup [(iL (.int kk n) z es).1,.lit (.bool (iL (.int kk n) z es).2)] else (iL (.int kk n) z es).1)=lkO kk z ok n es
 | []=>by cases ok <;> rfl
 | e::es=>by
  simp only [iL,lkO]
  cases pm (.int kk n) e.1 with
  | true=>cases ok <;> rfl
  | false=>exact Ra (es:=es)
theorem Vy {kk:IntKind} {z:V} {ok:Bool} {n:Int} {es:List (Value×V)}:lkB kk z ok n (some (.map es))=sif (M4 kk es) (lkO kk z ok n es) none:=by
 simp only [lkB,Wo,Bool.and_true,Ra]
 cases M4 kk es <;> rfl
theorem Tp {kk:IntKind} {z:V} {ok:Bool} {n:Int}:lkO kk z ok n []=some (sif ok (.tup [z,.lit (.bool false)]) z):=rfl
theorem Qi {kk:IntKind} {z:V} {ok:Bool} {n:Int} {e:Value×V} {es:List (Value×V)}:lkO kk z ok n (e::es)=bif pm (.int kk n) e.1 then some (sif ok (.tup [e.2,.lit (.bool true)]) e.2) else lkO kk z ok n es:=rfl
def agO:Int→List V→Int→Option V
 | _,[],_=>none
 | i,c::cs,n=>bif n==i then some c else agO (i+1) cs n
theorem S4 {i n:Int}:agO i [] n=none:=rfl
theorem Oa {i n:Int} {c:V} {cs:List V}:agO i (c::cs) n=bif n==i then some c else agO (i+1) cs n:=rfl
theorem KX {p:Bool} {k:IntKind} {a b:Int}:aQ (.lit (.bool p)) (.lit (.int k a)) (.lit (.int k b))=some (.lit (.int k (bif p then a else b))):=by cases p <;> rfl
theorem IR {p a b:Bool}:aQ (.lit (.bool p)) (.lit (.bool a)) (.lit (.bool b))=some (.lit (.bool (bif p then a else b))):=by cases p <;> rfl
theorem Qw {k:IntKind} {a b:Int}:gw true [.lit (.int k a),.lit (.int k b)]=some (.lit (.int k (bif decide (a<b) then b else a))):=by
 simp only [gw,if_true,cond_true,gt_iff_lt]
 by_cases h:a<b <;> simp [h]
theorem QL {k:IntKind} {a b:Int}:gw false [.lit (.int k a),.lit (.int k b)]=some (.lit (.int k (bif decide (b<a) then b else a))):=by
 simp only [gw,if_true,cond_false]
 by_cases h:b<a <;> simp [h]
theorem ID {k:IntKind} {a:Int}:[[V.lit (.int k a)]]=[a].map (aF k):=rfl
theorem ED {k:IntKind} {a b:Int}:[[V.lit (.int k a)],[V.lit (.int k b)]]=[a,b].map (aF k):=rfl
theorem Dv {a b c:Int}:[[V.lit (.int .i64 a),.lit (.int .i64 b),.lit (.int .i64 c)]]=[(a,b,c)].map aD:=rfl
def Pr (k:IntKind) (a b:Int):Int:=k.wrap (a*2 ^ (min b.toNat k.bits))
def R7 (k:IntKind) (a b:Int):Int:=a.fdiv (2 ^ (min b.toNat k.bits))
def w8 (k:IntKind) (a b:Int):Int:=k.wrap (BitVec.ofInt k.bits a &&& BitVec.ofInt k.bits b).toNat
def orI (k:IntKind) (a b:Int):Int:=k.wrap (BitVec.ofInt k.bits a ||| BitVec.ofInt k.bits b).toNat
section
variable {P:Program} {t:TypeId} {k k':IntKind} {a b:Int}
theorem N2:aw P .shl t (.lit (.int k a)) (.lit (.int k' b))=bif decide (0≤b) then some (.lit (.int k (Pr k a b))) else none:=by
 by_cases h:b<0
 ·have:¬ 0≤b:=by omega
  simp [aw,eC,h,this]
 ·have h2:0≤b:=by omega
  simp [aw,eC,h,h2,Pr]
theorem PI:aw P .shr t (.lit (.int k a)) (.lit (.int k' b))=bif decide (0≤b) then some (.lit (.int k (R7 k a b))) else none:=by
 by_cases h:b<0
 ·have:¬ 0≤b:=by omega
  simp [aw,eC,h,this]
 ·have h2:0≤b:=by omega
  simp [aw,eC,h,h2,R7]
theorem QJ:aw P .and t (.lit (.int k a)) (.lit (.int k b))=some (.lit (.int k (w8 k a b))):=by simp [aw,eC,w8]
theorem Th:aw P .or t (.lit (.int k a)) (.lit (.int k b))=some (.lit (.int k (orI k a b))):=by simp [aw,eC,orI]
end
end Go.Ab
namespace Go.Ab
theorem ahy {g len e g':Nat} {rs:List (List V)} {lv:Bool}:roB g len (some (.rows e rs g' lv))=sif (g==g') (ck (decide (len≤rs.length)) (some (rs.take len))) none:=by
 show (bif g==g'&&decide (len≤rs.length) then _ else _)=_
 generalize (g==g')=a
 generalize decide (len≤rs.length)=b
 cases a <;> cases b <;> rfl
theorem PE {f:Fn} {a b:List V} {H:Hp}:aN (.fn f a b) H=some (.ptr H.length 0 0 0,H++[.box [.fn f a b]]):=by simp [aN,V.cells,V.one,bA]
theorem K5 {i g n:Nat} {H:Hp}:aN (.own i g n) H=some (.ptr H.length 0 0 0,H++[.box [.own i g n]]):=by simp [aN,V.cells,V.one,bA]
theorem LD {i g r o:Nat} {H:Hp}:aN (.ptr i g r o) H=some (.ptr H.length 0 0 0,H++[.box [.ptr i g r o]]):=by simp [aN,V.cells,V.one,bA]
theorem TS {k:IntKind} {l:List Int}:cf 1 (l.map (aF k))=true:=eu fun _=>rfl
theorem Oe {l:List Bool}:cf 1 (l.map fA)=true:=eu fun _=>rfl
theorem Pn {l:Tyt}:cf 2 (l.map an)=true:=eu fun _=>rfl
theorem KW {l:Tye}:cf 3 (l.map aD)=true:=eu fun _=>rfl
theorem IW {n:Nat}:cf n []=true:=rfl
theorem Um {wl e sz bytes id g:Nat} {xs:List (List V)} {H:Hp} {lv:Bool} :
  apB wl e sz bytes id g 0 xs H (some (.rows 0 [] g lv))=sif (Nat.ble wl id) (bif room xs.length bytes then some (.own id (g+1) xs.length,H.set id (.rows sz xs (g+1) lv)) else none) none:=by
 cases hb:Nat.ble wl id <;> cases lv <;> simp [apB,hb,sif,room]
theorem Kj {α:Type} {wl e sz bytes id g len s:Nat} {l m:List α} {enc:α→List V} {H:Hp} :
  apB wl e sz bytes id g len (m.map enc) H (some (.rows s (l.map enc) g true)) =
   sif (Nat.ble wl id) (ck (decide (len≤l.length)) (ck (s==sz||s==0) (bif room (l.take len++m).length bytes then some (.own id (g+1) (l.take len++m).length,H.set id (.rows sz ((l.take len++m).map enc) (g+1) true)) else none))) none:=by
 by_cases h:len≤l.length
 ·have h1:(l.take len++m).length=len+m.length:=by simp [h]
  rw [decide_eq_true h,h1]
  simp only [apB,br,List.length_map,beq_self_eq_true,Bool.and_true,Bool.true_or,decide_eq_true h,room,List.map_append,List.map_take]
  cases Nat.ble wl id <;> cases (s==sz||s==0) <;> simp [sif,ck]
 ·rw [decide_eq_false h,r9]
  simp [apB,decide_eq_false h,sif]
theorem Ky {α:Type} {l:List α} {enc:α→List V} {n:Nat}:(l.map enc).take n=(l.take n).map enc:=by rw [List.map_take]
theorem Il {l:Tye} {i:Nat} {a b c:Int}:(l.map aD).set i [.lit (.int .i64 a),.lit (.int .i64 b),.lit (.int .i64 c)]=(l.set i (a,b,c)).map aD:=by rw [List.map_set];rfl
theorem KI {l:Tyt} {i:Nat} {a:Int} {b:List Int}:(l.map an).set i [.lit (.int .i64 a),.ro (b.map (aF .i64))]=(l.set i (a,b)).map an:=by rw [List.map_set];rfl
theorem Ji {l:Tyt} {i:Nat} {a:Int}:(l.map an).set i [.lit (.int .i64 a),.ro []]=(l.set i (a,[])).map an:=by rw [List.map_set];rfl
theorem Fh {a:Int} {b:List Int}:[[V.lit (.int .i64 a),.ro (b.map (aF .i64))]]=[(a,b)].map an:=rfl
theorem CI {a:Int}:[[V.lit (.int .i64 a),.ro []]]=[(a,[])].map an:=rfl
def slB (g len id:Nat) (n:Int) (H:Hp):Option B→Option (V×Hp)
 | some (.rows _ _ g' _)=>if 0≤n then (if n.toNat≤len∧g=g' then some (.own id g n.toNat,H) else none) else none
 | _=>none
theorem N4 {g len id e g':Nat} {n:Int} {H:Hp} {rs:List (List V)} {lv:Bool}:slB g len id n H (some (.rows e rs g' lv))=sif (g==g') (ck (decide (0≤n∧n.toNat≤len)) (some (.own id g n.toNat,H))) none:=by
 unfold slB sif ck
 by_cases h0:0≤n
 ·by_cases h1:n.toNat≤len
  ·by_cases h2:g=g'
   ·simp [h0,h1,h2]
   ·simp [h0,h1,h2,beq_false_of_ne h2]
  ·simp [h0,h1]
 ·simp [h0]
theorem mV {P : Program} {wl : Nat} {c : Bool} {t e : TypeId} {id g len : Nat} {k : IntKind} {n : Int} {H : Hp} (he : kH P t = some e) (hz : (aS P e != 0) = true) :
    bR P wl c t (.own id g len) none (some (.lit (.int k n))) none H = slB g len id n H (H[id]?) := by
  have hz' : aS P e ≠ 0 := by simpa using hz
  unfold bR slB
  simp only [he, bnd]
  by_cases h0 : 0 ≤ n
  · simp only [h0, if_true, Option.bind_some]
    generalize H[id]? = b
    cases b with
    | none => rfl
    | some b => cases b <;> simp [hz']
  · simp only [h0, if_false, Option.bind_none]
    generalize H[id]? = b
    cases b with
    | none => rfl
    | some b => cases b <;> rfl
end Go.Ab
namespace Go.Ab
end Go.Ab
namespace Go.Ab
theorem Vk {env:List V} {t:Nat}:evO env (.tmp t)=env[t]? := rfl
theorem Nq {env:List V} {f:Nat}:evO env (.func f)=some (.fn (.func f) [] []):=rfl
theorem A7 {env vs:List V}:ep env [] vs=env:=by cases vs <;> rfl
theorem xe {env vs:List V} {t:Tmp} {ts:List Tmp} {v:V}:ep env (t::ts) (v::vs)=ep (env.set t v) ts vs:=rfl
end Go.Ab
namespace Go.Ab
theorem W3 {n:Nat}:V.kill n uu=uu:=rfl
end Go.Ab
namespace Go.Ab
def aL {α:Type} (bytes:Nat) (l:List α):Option (List α):=ck (Nat.ble (l.length*bytes) 70368744177664) (some l)
section clone
variable {P:Program} {t e:TypeId} {α:Type} {enc:α→List V} {sz bytes:Nat}
theorem iW (he:kH P t=some e) (hz:∃ z,fk P e=some z∧bg (bS z)=true∧((bS z).length==sz)=true) (hs:aS P e=sz) (hg:Fm P e=true) (hb:P.bytesOf e=bytes) (hl:∀ x,(enc x).length=sz) (l:List α) :
  iC P t [.ro (l.map enc)] []=ob (aL bytes l) fun r=>some (.own 1 1 r.length,[.rows 0 [] 0 true,.rows sz (r.map enc) 1 true]):=by
 obtain ⟨z,z1,z2,z3⟩:=hz
 unfold iC
 simp only [he,Option.bind_some,z1,CA,hs,hg,z2,z3,hb,eu hl,Bool.and_true,Bool.true_and,List.length_map,List.length_nil,List.nil_append]
 unfold aL
 cases Nat.ble (l.length*bytes) 70368744177664 <;> rfl
theorem gr (hl:∀ x,a7 (enc x)=true) (l:List α) (g:Nat) :
  rt none (ob (aL bytes l) fun r=>some (.own 1 1 r.length,[.rows 0 [] 0 true,.rows g (r.map enc) 1 true]))=ob (aL bytes l) fun r=>some (.ro (r.map enc),[]):=by
 rw [US]
 congr 1
 funext r
 rw [EM]
 exact Ov (enc:=enc) (l:=r) (e:=g) (lv:=true) rfl rfl hl
theorem gG (hl:∀ x,a7 (enc x)=true) (l:List α) (g:Nat) :
  rt (some fun _=>true) (ob (aL bytes l) fun r=>some (.own 1 1 r.length,[.rows 0 [] 0 true,.rows g (r.map enc) 1 true]))=ob (aL bytes l) fun r=>some (.own 0 0 r.length,[.rows g (r.map enc) 0 true]):=by
 rw [US]
 congr 1
 funext r
 have h1:cY (r.map enc)=true:=by
  rw [cY,List.all_eq_true]
  intro y hy
  obtain ⟨x,_,rfl⟩:=List.mem_map.1 hy
  exact hl x
 simp [EM,lK,Eb,ou,h1]
 rw [List.take_of_length_le (by simp)]
end clone
end Go.Ab
namespace Go.Ab
theorem Oh {n0 i g r o:Nat} {k:Res}:stO n0 (.ptr i g r o) k=sif (decide (i<n0)) k none:=by
 unfold stO stB HK sif
 simp only [Bool.cond_eq_ite]
theorem Qg {n0 i g l:Nat} {k:Res}:stO n0 (.own i g l) k=sif (decide (i<n0)) k none:=by
 unfold stO stB HK sif
 simp only [Bool.cond_eq_ite]
theorem Om {n0 i:Nat} {k:Res}:stO n0 (.map i) k=sif (decide (i<n0)) k none:=by
 unfold stO stB HK sif
 simp only [Bool.cond_eq_ite]
theorem T2 {n0:Nat} {r:List (List V)} {k:Res}:stO n0 (.ro r) k=k:=rfl
theorem WK {n0:Nat} {r:List V} {k:Res}:stO n0 (.rp r) k=k:=rfl
theorem NM {n0:Nat} {v:Value} {k:Res}:stO n0 (.lit v) k=k:=rfl
theorem TZ {n0:Nat} {f:Fn} {a b:List V} {k:Res}:stO n0 (.fn f a b) k=k:=rfl
theorem PM {n0:Nat} {k:Res}:stO n0 .nil k=k:=rfl
def wn (n:Nat):List (Value×V)→List (Value×V)
 | []=>[]
 | e::es=>(e.1,e.2.shift n)::wn n es
def FL (n:Nat):List (Value×V)→List (Value×V)
 | []=>[]
 | e::es=>(e.1,e.2.kill n)::FL n es
theorem Hy {n:Nat}:∀ {es:List (Value×V)},es.map (fun e=>(e.1,e.2.kill n))=FL n es
 | []=>rfl
 | e::es=>by simp [FL,Hy (es:=es)]
theorem CN {n:Nat}:∀ {es:List (Value×V)},es.map (fun e=>(e.1,e.2.shift n))=wn n es
 | []=>rfl
 | e::es=>by simp [wn,CN (es:=es)]
theorem H4 {n:Nat} {es:List (Value×V)}:B.kill n (.map es) = .map (FL n es):=by
 rw [← Hy]
 rfl
theorem F7 {n:Nat} {es:List (Value×V)}:B.shift n (.map es) = .map (wn n es):=by
 rw [← CN]
 rfl
theorem KQ {n:Nat}:FL n []=[]:=rfl
theorem IE {n:Nat} {e:Value×V} {es:List (Value×V)}:FL n (e::es)=(e.1,e.2.kill n)::FL n es:=rfl
theorem H0 {n:Nat}:wn n []=[]:=rfl
theorem Eu {n:Nat} {e:Value×V} {es:List (Value×V)}:wn n (e::es)=(e.1,e.2.shift n)::wn n es:=rfl
end Go.Ab
namespace Go.Ab
theorem LB {H:Hp}:aN .nil H=some (.ptr (H++[B.rows 0 [] 0 true]).length 0 0 0,(H++[B.rows 0 [] 0 true])++[.box [.own H.length 0 0]]):=by simp [aN,V.cells,V.one,bA]
theorem Lb {i:Nat} {H:Hp}:aN (.yld i) H=some (.ptr H.length 0 0 0,H++[.box [.yld i]]):=by simp [aN,V.cells,V.one,bA]
theorem JL {i:Nat} {H:Hp}:aN (.map i) H=some (.ptr H.length 0 0 0,H++[.box [.map i]]):=by simp [aN,V.cells,V.one,bA]
theorem OT {i:Nat} {l:List V} {H:Hp}:bA (.yld i::l) H=(.yld i::(bA l H).1,(bA l H).2):=rfl
theorem NA {i:Nat} {l:List V} {H:Hp}:bA (.map i::l) H=(.map i::(bA l H).1,(bA l H).2):=rfl
theorem KP {i:Nat}:V.cells (.yld i)=some [.yld i]:=rfl
theorem JJ {i:Nat}:V.cells (.map i)=some [.map i]:=rfl
end Go.Ab
namespace Go.Ab
open Go
def Sf:List (Nat×V)→Bool
 | []=>true
 | p::l=>p.2.pure&&Sf l
theorem NN:Sf []=true:=rfl
theorem Mb {i:Nat} {v:V} {l:List (Nat×V)}:Sf ((i,v)::l)=(v.pure&&Sf l):=rfl
theorem Vz {l:List (Nat×V)}:a7 (l.map (·.2))=Sf l:=by
 induction l with
 | nil=>rfl
 | cons p l ih=>simp only [List.map_cons,a7,Sf,ih]
theorem rV {P:Program} {wl:Nat} {t:TypeId} {len:Nat} {l:List (Nat×V)} {H:Hp} :
  cN P wl t len l H=bq (ck (Sf l) (some ())) fun _=>aA P wl t len l H:=by
 unfold cN
 rw [Vz]
 cases Sf l <;> simp [bq,ck]
def ldL (P:Program) (t:TypeId) (off row:Nat):Nat→List (List V)→Option V
 | _,[]=>none
 | i,r::rs=>bif row==i then aU P t (r.drop off) else ldL P t off row (i+1) rs
theorem Tt {P:Program} {t:TypeId} {off row i:Nat}:ldL P t off row i []=none:=rfl
theorem Oz {P:Program} {t:TypeId} {off row i:Nat} {r:List V} {rs:List (List V)}:ldL P t off row i (r::rs)=bif row==i then aU P t (r.drop off) else ldL P t off row (i+1) rs:=rfl
theorem Rv {P:Program} {t:TypeId} {off row:Nat}:∀ {rs:List (List V)} {i:Nat},i≤row→ldL P t off row i rs=(rs[row - i]?).bind fun r=>aU P t (r.drop off)
 | [],i,_=>by simp [ldL]
 | r::rs,i,h=>by
  rw [ldL]
  by_cases e:row=i
  ·subst e;simp
  ·have h1:(row==i)=false:=by simp [e]
   have h2:row - i=(row - (i+1))+1:=by omega
   rw [h1,cond_false,Rv (by omega),h2,List.getElem?_cons_succ]
theorem Tg {P:Program} {t:TypeId} {g row off e g':Nat} {r:List V} {rs:List (List V)} {lv:Bool} :
  ldB P t g row off (some (.rows e (r::rs) g' lv))=sif (g==g') (ldL P t off row 0 (r::rs)) none:=by
 rw [Rv (Nat.zero_le _),Nat.sub_zero]
 rfl
def lA (x:Int×Int×Int×Int):List V:=[.lit (.int .i64 x.1),.lit (.int .i64 x.2.1),.lit (.int .i64 x.2.2.1),.lit (.int .i64 x.2.2.2)]
def dK (x:Int×Int×Int×Int×Int×Int×Int):List V:=
 [.lit (.int .i64 x.1),.lit (.int .i64 x.2.1),.lit (.int .i64 x.2.2.1),.lit (.int .u64 x.2.2.2.1),.lit (.int .u64 x.2.2.2.2.1),.lit (.int .u64 x.2.2.2.2.2.1),.lit (.int .i64 x.2.2.2.2.2.2)]
def cA (x:List Int):List V:=[.ro (x.map (aF .i64))]
theorem nH (x:Int×Int×Int×Int×Int×Int×Int):a7 (dK x)=true:=rfl
theorem rj (x:List Int):a7 (cA x)=true:=by
 have:=wA (k := .i64) (l:=x)
 simp [cA,a7,V.pure,this]
section
variable {lf:List (Int×Int×Int×Int×Int×Int×Int)} {ll:List (List Int)} {n i:Nat} {a b c d e f g:Int} {x:List Int}
theorem EF:cY (lf.map dK)=true:=eN nH
theorem Ip:cY (ll.map cA)=true:=eN rj
theorem Fz:lV n (lf.map dK)=lf.map dK:=f8 nH
theorem I7:lV n (ll.map cA)=ll.map cA:=f8 rj
theorem Cm:ky n (lf.map dK)=lf.map dK:=eW nH
theorem FG:ky n (ll.map cA)=ll.map cA:=eW rj
theorem Ms:cf 7 (lf.map dK)=true:=eu fun _=>rfl
theorem P6:cf 1 (ll.map cA)=true:=eu fun _=>rfl
theorem Jk:(lf.map dK).set i [.lit (.int .i64 a),.lit (.int .i64 b),.lit (.int .i64 c),.lit (.int .u64 d),.lit (.int .u64 e),.lit (.int .u64 f),.lit (.int .i64 g)]=(lf.set i (a,b,c,d,e,f,g)).map dK:=by rw [List.map_set];rfl
theorem Ee:[[V.lit (.int .i64 a),.lit (.int .i64 b),.lit (.int .i64 c),.lit (.int .u64 d),.lit (.int .u64 e),.lit (.int .u64 f),.lit (.int .i64 g)]]=[(a,b,c,d,e,f,g)].map dK:=rfl
theorem JN:(ll.map cA).set i [.ro (x.map (aF .i64))]=(ll.set i x).map cA:=by rw [List.map_set];rfl
theorem I2:(ll.map cA).set i [.ro []]=(ll.set i []).map cA:=by rw [List.map_set];rfl
theorem Ft:[[V.ro (x.map (aF .i64))]]=[x].map cA:=rfl
theorem DZ:[[V.ro []]]=[([]:List Int)].map cA:=rfl
theorem Id:List.replicate n [V.lit (.int .i64 a),.lit (.int .i64 b),.lit (.int .i64 c),.lit (.int .u64 d),.lit (.int .u64 e),.lit (.int .u64 f),.lit (.int .i64 g)]=(List.replicate n (a,b,c,d,e,f,g)).map dK:=by rw [List.map_replicate];rfl
end
theorem My {k:IntKind} {x y:Int}:pm (.int k x) (.int k y)=(x==y):=by
 cases k <;> rfl
theorem F6 {k:IntKind} {x:Int}:ia k (.int k x)=true:=by
 cases k <;> rfl
theorem LF {cx:Cx} {c o:Bool} {v:Value} {args:List V} {H:Hp}:bL cx c o (.lit v) args H=none:=rfl
end Go.Ab
namespace Go.Ab
section steps
variable {cx:Cx} {K:Out→St→Res} {s:St} {r:Res} {id j n0:Nat} {ops:Array Oper} {a a':List Nat×List Nat} {env:List V} {H:Hp} {o:Oper} {i:Nat} {L:List Nat}
end steps
def apA:List Nat→List Nat→Bool
 | [],_=>true
 | i::l,m => !(inN i m)&&apA l m
where inN:Nat→List Nat→Bool
 | _,[]=>false
 | i,k::m=>i==k||inN i m
theorem SP {i:Nat}:∀ {m:List Nat},apA.inN i m=m.contains i
 | []=>rfl
 | k::m=>by
  rw [apA.inN,SP,List.contains_cons]
theorem RK:∀ {l m:List Nat},wg (l,m)=apA l m
 | [],m=>rfl
 | i::l,m=>by
  have:=RK (l:=l) (m:=m)
  unfold wg at this ⊢
  simp only [List.all_cons] at this ⊢
  rw [this,apA,SP]
theorem Yf {l m:List Nat} {k:Res}:apt (l,m) k=sif (apA l m) k none:=by
 unfold apt sif
 rw [RK,Bool.cond_eq_ite]
theorem TA {m:List Nat}:apA [] m=true:=rfl
theorem Qa {i:Nat} {l m:List Nat}:apA (i::l) m=(!(apA.inN i m)&&apA l m):=rfl
theorem We {i:Nat}:apA.inN i []=false:=rfl
theorem OH {i k:Nat} {m:List Nat}:apA.inN i (k::m)=(i==k||apA.inN i m):=rfl
theorem VJ {i g n:Nat} {l m:List Nat}:lgR (.own i g n) (l,m)=(i::l,m):=rfl
theorem Vu {i g x y:Nat} {l m:List Nat}:lgR (.ptr i g x y) (l,m)=(i::l,m):=rfl
theorem Tn {i:Nat} {l m:List Nat}:lgR (.map i) (l,m)=(i::l,m):=rfl
theorem ZJ {rs:List (List V)} {l m:List Nat}:lgR (.ro rs) (l,m)=(l,m):=rfl
theorem Zu {rs:List V} {l m:List Nat}:lgR (.rp rs) (l,m)=(l,m):=rfl
theorem Uk {l m:List Nat}:lgR .nil (l,m)=(l,m):=rfl
theorem Un {v:Value} {l m:List Nat}:lgR (.lit v) (l,m)=(l,m):=rfl
theorem S9 {i g n:Nat} {l m:List Nat}:lgW (.own i g n) (l,m)=(l,i::m):=rfl
theorem WL {i g x y:Nat} {l m:List Nat}:lgW (.ptr i g x y) (l,m)=(l,i::m):=rfl
theorem WF {i:Nat} {l m:List Nat}:lgW (.map i) (l,m)=(l,i::m):=rfl
theorem VL {α:Type} {x:α}:[x].length=1:=rfl
end Go.Ab
set_option maxRecDepth 100000
namespace Go.Ab
def agM:=PLift.up (And.intro (And.intro (And.intro (And.intro (@T5) (@V3)) (And.intro (@U2) (And.intro (@UZ) (@W8)))) (And.intro (And.intro (@UI) (And.intro (@afy) (@ahd))) (And.intro (@aha) (And.intro (@br) (@r9))))) (And.intro (And.intro (And.intro (@af) (And.intro (@TL) (@Xf))) (And.intro (@UU) (And.intro (@mR) (@mE)))) (And.intro (And.intro (@Wy) (And.intro (@KX) (@IR))) (And.intro (@Um) (And.intro (@cond_true.{1}) (@cond_false.{1}))))))
theorem syP:type_of% agM.down:=agM.down
def agT:=PLift.up (And.intro (And.intro (And.intro (And.intro (And.intro (And.intro (And.intro (And.intro (@JF) (@YF)) (And.intro (@Y4) (@aaw))) (And.intro (And.intro (@Xy) (@VV)) (And.intro (@XA) (And.intro (@Tq) (@abx))))) (And.intro (And.intro (And.intro (@UB) (@Z4)) (And.intro (@abK) (And.intro (@abs) (@W5)))) (And.intro (And.intro (@aem) (@aev)) (And.intro (@YN) (And.intro (@Tw) (@X5)))))) (And.intro (And.intro (And.intro (And.intro (@acH) (@aet)) (And.intro (@Xl) (@aeR))) (And.intro (And.intro (@Yo) (@afh)) (And.intro (@adG) (And.intro (@aeZ) (@Xe))))) (And.intro (And.intro (And.intro (@Ub) (@UT)) (And.intro (@afP) (And.intro (@acI) (@adr)))) (And.intro (And.intro (@S6) (@EM)) (And.intro (@S8) (And.intro (@US) (@adI))))))) (And.intro (And.intro (And.intro (And.intro (And.intro (@LO) (@PX)) (And.intro (@V8) (@VB))) (And.intro (And.intro (@TO) (@WI)) (And.intro (@WU) (And.intro (@Yh) (@Xb))))) (And.intro (And.intro (And.intro (@Vh) (@U3)) (And.intro (@Z2) (And.intro (@Us) (@XS)))) (And.intro (And.intro (@Wk) (@U0)) (And.intro (@UC) (And.intro (@WO) (@LC)))))) (And.intro (And.intro (And.intro (And.intro (@LJ) (@Nv)) (And.intro (@Iu) (@P2))) (And.intro (And.intro (@JD) (@KF)) (And.intro (@Q1) (And.intro (@Ou) (@Vt))))) (And.intro (And.intro (And.intro (@Kx) (@Vf)) (And.intro (@PH) (And.intro (@N8) (@OE)))) (And.intro (And.intro (@M8) (@Ve)) (And.intro (@KT) (And.intro (@Vm) (@OK)))))))) (And.intro (And.intro (And.intro (And.intro (And.intro (And.intro (@QB) (@P9)) (And.intro (@PD) (@QU))) (And.intro (And.intro (@ahG) (@ahD)) (And.intro (@agP) (And.intro (@Ky) (@OV))))) (And.intro (And.intro (And.intro (@N4) (@JW)) (And.intro (@IQ) (And.intro (@wA) (@Is)))) (And.intro (And.intro (@ES) (@Ia)) (And.intro (@UR) (And.intro (@L2) (@HY)))))) (And.intro (And.intro (And.intro (And.intro (@IU) (@Gc)) (And.intro (@H4) (@F7))) (And.intro (And.intro (@KQ) (@IE)) (And.intro (@H0) (And.intro (@Eu) (@Oh))))) (And.intro (And.intro (And.intro (@Qg) (@Om)) (And.intro (@T2) (And.intro (@WK) (@NM)))) (And.intro (And.intro (@TZ) (@PM)) (And.intro (@EP) (And.intro (@M1) (@Je))))))) (And.intro (And.intro (And.intro (And.intro (And.intro (@IM) (@Jp)) (And.intro (@EI) (@LQ))) (And.intro (And.intro (@Lf) (@Iq)) (And.intro (@Ic) (And.intro (@F3) (@Jd))))) (And.intro (And.intro (And.intro (@IP) (@Gb)) (And.intro (@EL) (And.intro (@DN) (@Ch)))) (And.intro (And.intro (@R4) (@SW)) (And.intro (@Y1) (And.intro (@Vk) (@Nq)))))) (And.intro (And.intro (And.intro (And.intro (@A7) (@xe)) (And.intro (@VS) (@LS))) (And.intro (And.intro (@VU) (@O4)) (And.intro (@Ur) (And.intro (@Nd) (@NZ))))) (And.intro (And.intro (And.intro (@Wg) (@Qf)) (And.intro (@KH) (And.intro (@TE) (@Pu)))) (And.intro (And.intro (@ON) (@Np)) (And.intro (@Mv) (And.intro (@MU) (@HZ))))))))) (And.intro (And.intro (And.intro (And.intro (And.intro (And.intro (And.intro (@MC) (@Ie)) (And.intro (@Fl) (@OG))) (And.intro (And.intro (@J0) (@E1)) (And.intro (@TD) (And.intro (@Vy) (@Tp))))) (And.intro (And.intro (And.intro (@Qi) (@S4)) (And.intro (@Oa) (And.intro (@NR) (@Pg)))) (And.intro (And.intro (@NV) (@Nx)) (And.intro (@Qk) (And.intro (@Pa) (@Pj)))))) (And.intro (And.intro (And.intro (And.intro (@N0) (@Oy)) (And.intro (@Nz) (@Ob))) (And.intro (And.intro (@MI) (@L7)) (And.intro (@N2) (And.intro (@PI) (@QJ))))) (And.intro (And.intro (And.intro (@Th) (@VO)) (And.intro (@Ww) (And.intro (@Vg) (@Qw)))) (And.intro (And.intro (@QL) (@IT)) (And.intro (@IO) (And.intro (@H3) (@Pf))))))) (And.intro (And.intro (And.intro (And.intro (And.intro (@L3) (@VH)) (And.intro (@N3) (@Jn))) (And.intro (And.intro (@PQ) (@WW)) (And.intro (@QH) (And.intro (@Qe) (@Nu))))) (And.intro (And.intro (And.intro (@Kw) (@I9)) (And.intro (@Nt) (And.intro (@JZ) (@LB)))) (And.intro (And.intro (@Lb) (@JL)) (And.intro (@OT) (And.intro (@NA) (@KP)))))) (And.intro (And.intro (And.intro (And.intro (@JJ) (@PE)) (And.intro (@K5) (@LD))) (And.intro (And.intro (@QD) (@Pd)) (And.intro (@WY) (And.intro (@N6) (@On))))) (And.intro (And.intro (And.intro (@Xk) (@KM)) (And.intro (@JE) (And.intro (@H6) (@Nb)))) (And.intro (And.intro (@LT) (@Lh)) (And.intro (@Qq) (And.intro (@JC) (@JY)))))))) (And.intro (And.intro (And.intro (And.intro (And.intro (And.intro (@N9) (@TI)) (And.intro (@Wn) (@W3))) (And.intro (And.intro (@OY) (@CA)) (And.intro (@Ii) (And.intro (@H7) (@ahy))))) (And.intro (And.intro (And.intro (@TS) (@Pn)) (And.intro (@KW) (And.intro (@Oe) (@IW)))) (And.intro (And.intro (@Kj) (@Il)) (And.intro (@KI) (And.intro (@Ji) (@Fh)))))) (And.intro (And.intro (And.intro (And.intro (@CI) (@Ln)) (And.intro (@PW) (@KK))) (And.intro (And.intro (@Qv) (@OM)) (And.intro (@ID) (And.intro (@ED) (@Dv))))) (And.intro (And.intro (And.intro (@List.length_map.{0,0}) (@List.length_cons.{0})) (And.intro (@List.length_nil.{0}) (And.intro (@List.length_replicate.{0}) (@List.length_set.{0})))) (And.intro (And.intro (@List.drop_succ_cons.{0}) (@List.drop_zero.{0})) (And.intro (@List.take_succ_cons.{0}) (And.intro (@List.take_zero.{0}) (@List.set_cons_zero.{0}))))))) (And.intro (And.intro (And.intro (And.intro (And.intro (@List.set_cons_succ.{0}) (@List.nil_append.{0})) (And.intro (@List.cons_append.{0}) (@List.append_nil.{0}))) (And.intro (And.intro (@List.getElem?_cons_zero.{0}) (@List.getElem?_cons_succ.{0})) (And.intro (@List.take_nil.{0}) (And.intro (@Option.map_some.{0,0}) (@Option.map_none.{0,0}))))) (And.intro (And.intro (And.intro (@Option.bind_some.{0,0}) (@Option.bind_none.{0,0})) (And.intro (@Nat.zero_add) (And.intro (@Nat.add_zero) (@Nat.le_refl)))) (And.intro (And.intro (@Bool.and_true) (@Bool.true_and)) (And.intro (@Bool.and_false) (And.intro (@Bool.false_and) (@Bool.or_true)))))) (And.intro (And.intro (And.intro (And.intro (@Bool.or_false) (@Bool.true_or)) (And.intro (@Bool.false_or) (@Bool.not_true))) (And.intro (And.intro (@Bool.not_false) (@beq_self_eq_true.{0})) (And.intro (@bne_self_eq_false.{0}) (And.intro (@decide_true) (@decide_false))))) (And.intro (And.intro (And.intro (@if_true.{1}) (@if_false.{1})) (And.intro (@Bool.false_eq_true) (And.intro (@and_self) (@and_true)))) (And.intro (And.intro (@true_and) (@Option.isSome_some.{0})) (And.intro (@Option.isSome_none.{0}) (And.intro (@Int.cast_ofNat_Int) (@Int.toNat_natCast))))))))))
theorem syA:type_of% agT.down:=agT.down
end Go.Ab
set_option maxRecDepth 100000
namespace Go.Ab
def agt:=PLift.up (And.intro (And.intro (And.intro (And.intro (And.intro (@rV) (@NN)) (And.intro (@Mb) (And.intro (@Tt) (@Oz)))) (And.intro (And.intro (@Tg) (@EF)) (And.intro (@Ip) (And.intro (@Fz) (@I7))))) (And.intro (And.intro (And.intro (@Cm) (@FG)) (And.intro (@Ms) (And.intro (@P6) (@Jk)))) (And.intro (And.intro (@Ee) (@JN)) (And.intro (@I2) (And.intro (@Ft) (@DZ)))))) (And.intro (And.intro (And.intro (And.intro (@Id) (@My)) (And.intro (@F6) (And.intro (@LF) (@Yf)))) (And.intro (And.intro (@TA) (@Qa)) (And.intro (@We) (And.intro (@OH) (@VJ))))) (And.intro (And.intro (And.intro (@Vu) (@Tn)) (And.intro (@ZJ) (And.intro (@Zu) (@Uk)))) (And.intro (And.intro (@Un) (@S9)) (And.intro (@WL) (And.intro (@WF) (@VL)))))))
theorem syQ:type_of% agt.down:=agt.down
end Go.Ab
set_option linter.unusedVariables false
set_option linter.unusedSimpArgs false
namespace Go.Ab
open Go.Proofs Go.RowKit Go.Shelf Go.Sort Go.Lib
def rx:List (List V)→Option (List Int)
 | []=>some []
 | [.lit (.int .i64 n)]::l=>(rx l).map (n :: ·)
 | _=>none
theorem Ae:∀ {rs:List (List V)} {zs:List Int},rx rs=some zs→rs=zs.map fun n=>[V.lit (.int .i64 n)]
 | [],zs,h=>by cases h;rfl
 | r::l,zs,h=>by
  unfold rx at h
  split at h
  ·rename_i h2;cases h2
  ·rename_i n l' h2
   cases h2
   cases hl:rx l with
   | none=>rw [hl] at h;cases h
   | some z=>rw [hl] at h;cases h;rw [List.map_cons,← Ae hl]
  ·cases h
def EB (zs:List Int) (a b:Nat):List Int:=zs.take a++zs.drop b++List.replicate (b - a) 0
def TF (args:List V) (H:Hp):Option (V×Hp):=
 match args with
 | [.own id g len,.lit (.int .i64 a),.lit (.int .i64 b)]=>
  match H[id]? with
  | some (.rows e rs g' true)=>
   if e=1∧g=g'∧len≤rs.length∧0≤a∧a<b∧b.toNat≤len∧len≤9223372036854775807 then
    (rx (rs.take len)).map fun zs=>(.own id g (len - (b.toNat - a.toNat)),H.set id (.rows 1 ((EB zs a.toNat b.toNat).map (fun n=>[V.lit (.int .i64 n)])++rs.drop len) g true))
   else none
  | _=>none
 | _=>none
section
variable {P:Program} {ρ:Ren}
set_option maxHeartbeats 4000000 in
set_option maxRecDepth 1000000 in
theorem Uf (L:Lays2.n23 P ρ) {b off c i j:Nat} {d:Array Int} {w:World} (hH:Holds (Value.int .i64) w b off d) (hc:d.size≤c) (hm:d.size≤9223372036854775807) (hij:i<j) (hj:j≤d.size) :
  Calls P (ρ.f 23) #[.slice (some ⟨b,off,none⟩) d.size c,.int .i64 i,.int .i64 j] w fun e w'=>e = .returned (.slice (some ⟨b,off,none⟩) (d.size - (j - i)) c) ∧
   w'=putRow (Value.int .i64) (Sort.ahead w 1) b off (EB d.toList i j).toArray:=by
 have mixed:=L.mixed;have t0:=L.t0;have a0:=L.a0;have z0:=L.z0;have v0:=L.v0;have t3:=L.t3;have a3:=L.a3;have z3:=L.z3;have v3:=L.v3
 have t4:=L.t4;have a4:=L.a4;have z4:=L.z4;have v4:=L.v4;have t22:=L.t22;have a22:=L.a22;have z22:=L.z22;have v22:=L.v22
 obtain ⟨info,hinfo,hz0,hz1,_⟩:=info_parts L.i3
 generalize hns:(d.toList.drop j).map (Value.int .i64)=ns
 have nl:ns.length=d.size - j:=by rw [← hns];simp
 have at_:∀ t,t<d.size - j→ns[t]? = some (Value.int .i64 d[j+t]!):=fun t ht=>by
  rw [← hns,List.getElem?_map,List.getElem?_drop,Array.getElem?_toList,getElem!_pos d (j+t) (by omega),Array.getElem?_eq_getElem (by omega)]
  rfl
 -- where those behind lie
 have src:∃ A:Addr,(if c=j then some (⟨b,off,none⟩:Addr) else some ⟨b,off+j,none⟩)=some A∧Hid (∀ t u,ns[t]? = some u→w.drew.cell? (A.add t)=some u):=by
  rcases Decidable.em (c=j) with e | e
  ·refine ⟨⟨b,off,none⟩,if_pos e,fun t u hu => ?_⟩
   have:=(List.getElem?_eq_some_iff.1 hu).1
   omega
  ·refine ⟨⟨b,off+j,none⟩,if_neg e,fun t u hu => ?_⟩
   have ht:t<d.size - j:=by have:=(List.getElem?_eq_some_iff.1 hu).1;omega
   rw [at_ t ht] at hu
   rw [Addr.add_lit,Nat.add_assoc]
   exact (hH (j+t) (by omega)).1.trans hu
 obtain ⟨A,hA,hsrc⟩:=src
 have one:Hid (ns.length=(d.size - j)*1):=by rw [Nat.mul_one];exact nl
 have cells:Hid (∀ u ∈ ns,u.oneCell'=true):=fun u hu=>by
  rw [← hns] at hu
  obtain ⟨x,_,rfl⟩:=List.mem_map.1 hu
  rfl
 have dest:Hid (∀ t,t<ns.length→(w.drew.cell? ⟨b,off+i*1+t,none⟩).isSome=true∧w.drew.frozen? ⟨b,off+i*1+t,none⟩=false):=fun t ht=>by
  rw [nl] at ht
  rw [Nat.mul_one,Nat.add_assoc]
  obtain ⟨h1,h2⟩:=hH (i+t) (by omega)
  exact ⟨by show (w.cell? _).isSome=true;rw [h1];rfl,h2⟩
 obtain ⟨W,hW⟩:∃ W,W=w.drew.setCells b (off+i*1) ns:=⟨_,rfl⟩
 have hAh:=holds_ahead (Value.int .i64) w 1 b off d hH
 have hP:W=putRow (Value.int .i64) (Sort.ahead w 1) b off (lay d i (d.toList.drop j)):=by
  rw [hW,← hns,Nat.mul_one,← putRow_setCells (Value.int .i64) (Sort.ahead w 1) b off _ d i (by simp;omega),putRow_self (Value.int .i64) (Sort.ahead w 1) b off d hAh]
  rfl
 have hHW:Holds (Value.int .i64) W b off (lay d i (d.toList.drop j)):=by rw [hP];exact holds_putRow (Value.int .i64) _ b off d _ hAh (lay_size _ _ _)
 have wipe:∀ ty,(Builtin.clear_ #[ρ.t 22] ty #[.slice (some ⟨b,off+(i+(d.size - j)),none⟩) (d.size - (i+(d.size - j))) (c - (i+(d.size - j)))]).run P W = .ok (.tuple #[]) (W.setCells b (off+(i+(d.size - j))) (List.replicate (d.size - (i+(d.size - j))) (.int .i64 0))):=fun ty=>by
  refine Lib.run_clear_slice W _ _ ty _ t22 v3 rfl rfl b (off+(i+(d.size - j))) _ _ (by omega) (fun t ht => ?_) (fun t ht => ?_)
  all_goals rw [Nat.add_assoc]
  ·rw [(hHW _ (by rw [lay_size];omega)).1];rfl
  ·exact (hHW _ (by rw [lay_size];omega)).2
 have keep:Aside (W=putRow (Value.int .i64) (Sort.ahead w 1) b off (lay d i (d.toList.drop j))):=hP
 have wIs:Hid (W=w.drew.setCells b (off+i*1) ns):=hW
 have hic:i≤c:=by omega
 have hjc:j≤c:=by omega
 clear hW hP hHW hAh hH at_ hns nl
 go_enter L.f23,Body2.n23_ntmps ρ
 go_wp2_with fail
 go_region_law_o (refine step_append_room rfl (.tmp 22) (.tmp 25) (ρ.t 22) rfl (ρ.t 3) info 1 t22 hinfo hz1 b off i c (by simp [Act.eval,Act.put]) A (d.size - j) (c - j) ns (by simp [Act.eval,Act.put]) one.out hsrc.out cells.out (by omega) dest.out ?_;rw [← wIs.out])
 go_wp2
 go_ret
 refine ⟨by rw [show d.size - (j - i)=i+(d.size - j) by omega];rfl,?_⟩
 unfold EB
 rw [← delete_arr d i j 0 (by omega) hj,← putRow_setCells (Value.int .i64) _ b off _ _ (i+(d.size - j)) (by rw [lay_size];simp;omega),← keep.out,List.map_replicate,show d.size - (i+(d.size - j))=j - i by omega]
theorem Hz {zs:List Int} {a b:Nat} (h:a≤b) (hb:b≤zs.length):(EB zs a b).length=zs.length:=by
 unfold EB
 simp
 omega
theorem Lj {w:World} {b k:Nat} {d:Array Int} (h:k≠b):(putRow (Value.int .i64) (Sort.ahead w 1) b 0 d).heap[k]? = w.heap[k]? := by
 show (w.heap.modify b _)[k]? = _
 rw [Array.getElem?_modify,if_neg (fun e=>h e.symm)]
theorem D1 {w:World} {b:Nat} {d:Array Int} {arr:Array Value} {e:TypeId} (h:w.heap[b]? = some (.cells arr e (0,0))):(putRow (Value.int .i64) (Sort.ahead w 1) b 0 d).heap[b]? = some (.cells (putCells (Value.int .i64) 0 d arr) e (0,0)):=by
 show (w.heap.modify b _)[b]? = _
 rw [Array.getElem?_modify,if_pos rfl,h]
 rfl
theorem C6 {B0:Nat} {w0 w:World} {R:Ro} {σ:List Sg} {H H':Hp} {v:V} {args:List V} {cargs:Array Value} (L:Lays2.n23 P ρ) (h:TF args H=some (v,H')) (hI:Inv 0 B0 w0 R σ H w) (hA:bT R σ args cargs):Calls P (ρ.f 23) cargs w (If 0 B0 w0 R σ w v H'):=by
 unfold TF at h
 split at h
 case h_2=>cases h
 rename_i id g len a b
 split at h
 case h_2=>cases h
 rename_i e0 rs g' hb
 split at h
 case isFalse=>cases h
 rename_i hc
 obtain ⟨rfl,rfl,hlen,ha0,hab,hbl,hbig⟩:=hc
 rw [Option.map_eq_some_iff] at h
 obtain ⟨zs,hz,h⟩:=h
 cases h
 have hrs:=Ae hz
 have hzl:zs.length=len:=by
  have:=congrArg List.length hrs
  rw [List.length_take,List.length_map] at this
  omega
 obtain ⟨ca,l1,rfl,hr1,hA⟩:=hA.uncons
 obtain ⟨cb,l2,e2,hr2,hA⟩:=hA.uncons
 obtain ⟨cc,l3,e3,hr3,hA⟩:=hA.uncons
 have e4:=hA.nil_inv
 cases hr2
 cases hr3
 obtain ⟨Ad,l,c,s,rfl,hs,hh,hg,hgen⟩:=kf hr1
 obtain ⟨q1,q2,q3,q4,q5,q6⟩:=iP hI hb hs hh
 obtain ⟨rfl,hn,hsm⟩:=hgen q1.symm
 cases hblk:s.blk with
 | none=>
  have:=q5 hblk
  subst this
  simp at hlen
  omega
 | some b0=>
  obtain ⟨rfl,hlc,hcap⟩:=hsm b0 hblk
  obtain ⟨arr,e,hheap,hsz,hcell,hro⟩:=q6 b0 hblk
  have hB:B0≤b0:=hI.ge id _ s b0 (Nat.zero_le _) hb rfl hs hblk
  have hrow:∀ j (hj:j<zs.length),rs[j]? = some [V.lit (.int .i64 zs[j])]:=fun j hj=>by
   have:(rs.take l)[j]? = some [V.lit (.int .i64 zs[j])]:=by rw [hrs,List.getElem?_map,List.getElem?_eq_getElem hj];rfl
   rw [List.getElem?_take] at this
   split at this
   ·exact this
   ·cases this
  have hcv:∀ j (hj:j<zs.length),arr[j]? = some (.int .i64 zs[j]):=fun j hj=>by
   obtain ⟨cv,h1,h2⟩:=hcell j 0 _ _ (hrow j hj) rfl
   cases h2
   rw [Nat.mul_one,Nat.add_zero] at h1
   exact h1
  have hH:Holds (Value.int .i64) w b0 0 zs.toArray:=fun j hj=>by
   have hj':j<zs.length:=by simpa using hj
   rw [Nat.zero_add]
   refine ⟨?_,?_⟩
   ·rw [getElem!_pos zs.toArray j hj]
    unfold World.cell?
    rw [hheap]
    simpa using hcv j hj'
   ·unfold World.frozen?
    rw [hheap]
    simp
  have el:(Value.slice (some ⟨b0,0,none⟩) l c::l1).toArray = #[.slice (some ⟨b0,0,none⟩) zs.toArray.size c,.int .i64 ((a.toNat:Nat):Int),.int .i64 ((b.toNat:Nat):Int)]:=by
   have e2':l1=Value.int .i64 a::l2:=by simpa using e2
   have e3':l2=Value.int .i64 b::l3:=by simpa using e3
   have e4':l3=[]:=by simpa using e4
   rw [e2',e3',e4',Int.toNat_of_nonneg ha0,Int.toNat_of_nonneg (by omega)]
   simp [hzl]
  rw [el]
  refine (Uf L hH (by simpa [hzl] using hlc) (by simpa [hzl] using hbig) (by omega) (by simpa [hzl] using hbl)).mono ?_
  rintro x w' ⟨rfl,rfl⟩
  have hcl:=Hz (zs:=zs) (a:=a.toNat) (b:=b.toNat) (by omega) (by omega)
  have hsize:(putRow (Value.int .i64) (Sort.ahead w 1) b0 0 (EB zs a.toNat b.toNat).toArray).heap.size=w.heap.size:=by rw [size_putRow];rfl
  have hset:=hI.set (R':=R) (w':=putRow (Value.int .i64) (Sort.ahead w 1) b0 0 (EB zs a.toNat b.toNat).toArray) (b' := .rows 1 ((EB zs a.toNat b.toNat).map (fun n=>[V.lit (.int .i64 n)])++rs.drop l) g true) (s':=s) hb rfl hs hh (Nat.zero_le _) (pD.refl s) (fun k hk => .inl hk)
   ⟨rfl,rfl,rfl,by rw [hsize];exact Nat.le_refl _,fun k hk=>Lj (by omega)⟩ (by rw [hsize];exact Nat.le_refl _) (fun k _ hk=>Lj (fun e=>hk (by rw [e];exact hblk))) (f5.refl R) (fun _ _ h => .inl h)
   (fun k o u hu hk=>by
    rw [hblk] at hk;cases hk
    have:=(hro o (by simp [hu])).1
    cases this)
   ⟨q1,q2,q3,fun r hr=>by
    rcases List.mem_append.1 hr with hr | hr
    ·obtain ⟨n,_,rfl⟩:=List.mem_map.1 hr
     exact ⟨rfl,rfl⟩
    ·exact q4 r (List.mem_of_mem_drop hr),by
    rw [hblk]
    refine ⟨_,e,D1 hheap,?_,fun i j r x hr hx => ?_,fun o ho => ?_⟩
    ·unfold putCells
     rw [Array.size_mapIdx]
     exact hsz
    ·rw [dx hs]
     by_cases hi:i<zs.length
     ·rw [List.getElem?_append_left (by simp;omega),List.getElem?_map,List.getElem?_eq_getElem (by omega)] at hr
      cases hr
      cases j with
      | succ j=>simp at hx
      | zero=>
       cases hx
       refine ⟨.int .i64 ((EB zs a.toNat b.toNat)[i]'(by omega)), ?_, .lit _⟩
       unfold putCells
       have hai:=hcv i hi
       rw [Nat.mul_one,Nat.add_zero,Array.getElem?_mapIdx,hai]
       simp only [Option.map_some,Nat.zero_le,Nat.zero_add,true_and,List.size_toArray,Nat.sub_zero]
       rw [if_pos (by omega),getElem!_pos _ _ (by simp;omega)]
       simp
     ·rw [List.getElem?_append_right (by simp;omega),List.getElem?_drop] at hr
      have hr':rs[i]? = some r:=by
       rw [← hr]
       congr 1
       simp
       omega
      obtain ⟨cv,h1,h2⟩:=hcell i j r x hr' hx
      refine ⟨cv,?_,h2⟩
      unfold putCells
      rw [Array.getElem?_mapIdx,h1]
      simp only [Option.map_some,Nat.zero_le,Nat.zero_add,true_and,List.size_toArray,Nat.sub_zero]
      rw [if_neg (by omega)]
    ·have:=(hro o ho).1
     cases this⟩
  rw [dx hs] at hset
  refine ⟨R,σ,hset.widen (fun k hk => ?_),?_,by rw [hsize];exact Nat.le_refl _⟩
  ·rw [hblk] at hk;cases hk;exact hB
  ·have e5:zs.toArray.size - (b.toNat - a.toNat)=l - (b.toNat - a.toNat):=by simp [hzl]
   rw [e5]
   refine .own id g (l - (b.toNat - a.toNat)) _ _ c s hs hh (by omega) (fun _=>⟨rfl,fun hz => ?_,fun b1 hb1 => ?_⟩)
   ·rw [hblk] at hz;cases hz
   ·rw [hblk] at hb1;cases hb1
    exact ⟨rfl,by omega,hcap⟩
end
def dlB (id g len:Nat) (a b:Int) (H:Hp):Option B→Option (V×Hp)
 | some (.rows e rs g' true)=>
  if e=1∧g=g'∧len≤rs.length∧0≤a∧a<b∧b.toNat≤len∧len≤9223372036854775807 then
   (rx (rs.take len)).map fun zs=>(.own id g (len - (b.toNat - a.toNat)),H.set id (.rows 1 ((EB zs a.toNat b.toNat).map (fun n=>[V.lit (.int .i64 n)])++rs.drop len) g true))
  else none
 | _=>none
theorem Vv {id g len:Nat} {a b:Int} {H:Hp}:TF [.own id g len,.lit (.int .i64 a),.lit (.int .i64 b)] H=dlB id g len a b H H[id]? := by
 unfold TF dlB
 rfl
theorem xJ:∀ l:List Int,rx (l.map (aF .i64))=some l
 | []=>rfl
 | n::l=>by rw [List.map_cons,aF,rx,xJ l];rfl
theorem dG {id g len e:Nat} {a b:Int} {H:Hp} {l:List Int}:dlB id g len a b H (some (.rows e (l.map (aF .i64)) g true)) =
  ck (e==1) (ck (decide (len≤l.length∧0≤a∧a<b∧b.toNat≤len∧len≤9223372036854775807)) (some (.own id g (len - (b.toNat - a.toNat)),H.set id (.rows 1 ((EB (l.take len) a.toNat b.toNat++l.drop len).map (aF .i64)) g true)))):=by
 unfold dlB
 dsimp only
 rw [List.length_map,← List.map_take,xJ,← List.map_drop]
 by_cases he:e=1
 ·subst he
  rw [beq_self_eq_true,br]
  by_cases h:len≤l.length∧0≤a∧a<b∧b.toNat≤len∧len≤9223372036854775807
  ·rw [if_pos ⟨rfl,rfl,h⟩,decide_eq_true h,br,List.map_append]
   rfl
  ·rw [if_neg (fun z=>h z.2.2),decide_eq_false h,r9]
 ·have h1:(e==1)=false:=by simp [he]
  rw [h1,r9,if_neg (fun z=>he z.1)]
theorem T8 {P:Program} {M:Mode} {k:Nat} {f:FuncId} {args:List V} {H:Hp} (ho:M.orc f=some TF):evF P M (k+1) 0 f args H=TF args H:=by
 rw [evF,ho]
 rfl
end Go.Ab
namespace Go.Ab
def bn (x:Tys):List V:=
 [.lit (.int .i64 x.1),.ro (x.2.1.map (aF .i64)),.lit (.int .i64 x.2.2.1),.lit (.int .i64 x.2.2.2.1),.lit (.int .i64 x.2.2.2.2.1),.lit (.int .u64 x.2.2.2.2.2.1),.lit (.int .u64 x.2.2.2.2.2.2.1),.lit (.int .u64 x.2.2.2.2.2.2.2.1),.lit (.int .i64 x.2.2.2.2.2.2.2.2)]
def arC (id g row:Nat):List (Int×Nat)→Int→Option V
 | [],_=>none
 | p::l,n=>bif n==p.1 then some (.ptr id g row p.2) else arC id g row l n
theorem fm {id g row:Nat} {n:Int}:arC id g row [] n=none:=rfl
theorem dC {id g row o:Nat} {n i:Int} {l:List (Int×Nat)}:arC id g row ((i,o)::l) n=bif n==i then some (.ptr id g row o) else arC id g row l n:=rfl
def arL (sz off len:Nat):List (Int×Nat):=(List.range len).map fun j:Nat=>((j:Int),off+j*sz)
theorem Gg {id g row:Nat} {n:Int}:∀ {l:List (Int×Nat)},(∀ p ∈ l,p.1≠n)→arC id g row l n=none
 | [],_=>rfl
 | p::l,h=>by
  rw [arC,show (n==p.1)=false by simp;exact fun e=>h p (List.mem_cons_self ..) e.symm,cond_false]
  exact Gg fun q hq=>h q (List.mem_cons_of_mem _ hq)
theorem Rs {id g row sz off:Nat} {q:Nat}:∀ (l:List Nat),q ∈ l→arC id g row (l.map fun j:Nat=>((j:Int),off+j*sz)) (q:Int)=some (.ptr id g row (off+q*sz))
 | [],h=>by cases h
 | x::l,h=>by
  rw [List.map_cons,arC]
  by_cases e:q=x
  ·subst e;simp
  ·have h2:((q:Int)==(x:Int))=false:=by simp;omega
   rw [h2,cond_false]
   exact Rs l ((List.mem_cons.1 h).resolve_left e)
theorem HP {P:Program} {t e:TypeId} {len sz id g row off:Nat} {k:IntKind} {n:Int} {H:Hp} (h:P.underlying t=some (.array len e)) (hs:aS P e=sz) (hz:sz≠0) :
  aj P t (.ptr id g row off) (.lit (.int k n)) H=arC id g row (arL sz off len) n:=by
 unfold aj
 simp only [h,hs]
 by_cases h0:0≤n
 ·rw [if_pos h0]
  by_cases h1:n<len
  ·rw [if_pos ⟨h1,hz⟩]
   obtain ⟨q,rfl⟩:∃ q:Nat,n=q:=⟨n.toNat,by omega⟩
   rw [arL,Rs (List.range len) (List.mem_range.2 (by omega)),Int.toNat_natCast]
  ·rw [if_neg (fun hh=>h1 hh.1)]
   refine (Gg fun p hp => ?_).symm
   obtain ⟨j,hj,rfl⟩:=List.mem_map.1 hp
   have:=List.mem_range.1 hj
   simp only
   omega
 ·rw [if_neg h0]
  refine (Gg fun p hp => ?_).symm
  obtain ⟨j,hj,rfl⟩:=List.mem_map.1 hp
  simp only
  omega
end Go.Ab
namespace Go.Ab
def aG (x:Tyw):List V:=
 [.lit (.int .i64 x.1),.ro (x.2.1.map aD),.lit (.int .i64 x.2.2.1.1),.lit (.int .i64 x.2.2.1.2.1),.lit (.int .i64 x.2.2.1.2.2.1),.lit (.int .u64 x.2.2.1.2.2.2.1),.lit (.int .u64 x.2.2.1.2.2.2.2.1),.lit (.int .u64 x.2.2.1.2.2.2.2.2.1),.lit (.int .i64 x.2.2.1.2.2.2.2.2.2),.lit (.int .i64 x.2.2.2.1),.lit (.int .i64 x.2.2.2.2)]
mutual
theorem Ke (n:Nat):∀ v:V,v.pure=true→v.kill n=v
 | .lit _,_=>rfl
 | .ro _,_=>rfl
 | .nil,_=>rfl
 | .any,_=>rfl
 | .junk,_=>rfl
 | .agg cs,h=>by rw [V.kill,i5 n cs h]
 | .tup cs,h=>by rw [V.kill,i5 n cs h]
 | .fn f a b,h=>by
  rw [V.pure,Bool.and_eq_true] at h
  rw [V.kill,i5 n a h.1,i5 n b h.2]
 | .rp _,_=>rfl
theorem i5 (n:Nat):∀ l:List V,a7 l=true→eE n l=l
 | [],_=>rfl
 | v::l,h=>by
  rw [a7,Bool.and_eq_true] at h
  rw [eE,Ke n v h.1,i5 n l h.2]
end
theorem DH {n:Nat} {rs:List (List V)}:lV n rs=rs.map (eE n):=by
 unfold lV
 split
 ·rename_i h
  rw [cY,List.all_eq_true] at h
  have:∀ l:List (List V),(∀ x ∈ l,a7 x=true)→l.map (eE n)=l:=by
   intro l
   induction l with
   | nil=>intro _;rfl
   | cons r l ih=>intro h;rw [List.map_cons,i5 n r (h r (List.mem_cons_self ..)),ih fun x hx=>h x (List.mem_cons_of_mem _ hx)]
  exact (this rs h).symm
 ·rfl
theorem ah {n:Nat} {r:List V} {rs:List (List V)}:lV n (r::rs)=eE n r::lV n rs:=by
 rw [DH,DH,List.map_cons]
theorem ag {k:IntKind} {a:Int} {l:List Int}:[V.lit (.int k a)]::List.map (aF k) l=List.map (aF k) (a::l):=rfl
theorem ae {a b c:Int} {l:Tye}:[V.lit (.int .i64 a),.lit (.int .i64 b),.lit (.int .i64 c)]::List.map aD l=List.map aD ((a,b,c)::l):=rfl
def ago:=PLift.up (And.intro (And.intro (And.intro (And.intro (And.intro (And.intro @rtN.eq_1 @a7.eq_1) (And.intro @a7.eq_2 @V.pure.eq_1)) (And.intro (And.intro @V.pure.eq_2 @V.pure.eq_3) (And.intro @V.pure.eq_4 @V.pure.eq_5))) (And.intro (And.intro (And.intro @V.pure.eq_6 @V.pure.eq_7) (And.intro @V.pure.eq_8 @V.pure.eq_9)) (And.intro (And.intro @V.pure.eq_10 @V.pure.eq_11) (And.intro @V.pure.eq_12 @V.pure.eq_13)))) (And.intro (And.intro (And.intro (And.intro @nsh.eq_1 @xy.eq_1) (And.intro @xy.eq_2 @xy.eq_3)) (And.intro (And.intro @V.kill.eq_1 @V.kill.eq_2) (And.intro @V.kill.eq_3 @V.kill.eq_4))) (And.intro (And.intro (And.intro @V.kill.eq_5 @V.kill.eq_6) (And.intro @V.kill.eq_7 @V.kill.eq_8)) (And.intro (And.intro @V.kill.eq_9 @V.kill.eq_10) @V.kill.eq_11)))) (And.intro (And.intro (And.intro (And.intro (And.intro @V.kill.eq_12 @V.kill.eq_13) (And.intro @eE.eq_1 @eE.eq_2)) (And.intro (And.intro @spl.eq_1 @spl.eq_2) (And.intro @V.shift.eq_1 @V.shift.eq_2))) (And.intro (And.intro (And.intro @V.shift.eq_3 @V.shift.eq_4) (And.intro @V.shift.eq_5 @V.shift.eq_6)) (And.intro (And.intro @V.shift.eq_7 @V.shift.eq_8) @V.shift.eq_9))) (And.intro (And.intro (And.intro (And.intro @V.shift.eq_10 @V.shift.eq_11) (And.intro @V.shift.eq_12 @V.shift.eq_13)) (And.intro (And.intro @di.eq_1 @di.eq_2) (And.intro @V.scal.eq_1 @V.scal.eq_2))) (And.intro (And.intro (And.intro @V.scal.eq_3 @V.scal.eq_4) (And.intro @kF.eq_1 @kF.eq_2)) (And.intro (And.intro @aF.eq_1 @fA.eq_1) @aD.eq_1)))))
theorem syD:type_of% ago.down:=ago.down
def ag3:=PLift.up (And.intro (And.intro (And.intro @syQ @lA.eq_1) (And.intro @dK.eq_1 @cA.eq_1)) (And.intro (And.intro @bn.eq_1 @aG.eq_1) (And.intro @fm @dC)))
theorem syE:type_of% ag3.down:=ag3.down
end Go.Ab
namespace Go.Ab
open Go
def fX (x:Int×Int×Int):List V:=[.lit (.int .i64 x.1),.lit (.int .i64 x.2.1),.lit (.int .u64 x.2.2)]
def aeI (x:Typ):List V:=
 [.lit (.int .i64 x.1.1),.lit (.int .i64 x.1.2.1),.lit (.int .i64 x.1.2.2.1),.lit (.int .i64 x.1.2.2.2),.ro (x.2.1.map an),.ro (x.2.2.1.map (aF .u64)),.ro (x.2.2.2.1.map aG),.ro (x.2.2.2.2.map bn)]
theorem pn (x:Int×Int×Int):a7 (fX x)=true:=rfl
theorem iU (x:Tyw):a7 (aG x)=true:=by
 have h:cY (x.2.1.map aD)=true:=eN fun _=>rfl
 simp [aG,a7,V.pure,h]
theorem lh (x:Tys):a7 (bn x)=true:=by
 have h:=wA (k := .i64) (l:=x.2.1)
 simp [bn,a7,V.pure,h]
section
variable {lw:List Tyw} {ls:List Tys} {lp:Tye} {n i:Nat} {a b c d e f g p q r:Int} {x:List Int} {y:Tye}
theorem Iy:cY (lw.map aG)=true:=eN iU
theorem H9:lV n (lw.map aG)=lw.map aG:=f8 iU
theorem Ga:ky n (lw.map aG)=lw.map aG:=eW iU
theorem NL:cf 11 (lw.map aG)=true:=eu fun _=>rfl
theorem Ma:(lw.map aG).set i [.lit (.int .i64 p),.ro (y.map aD),.lit (.int .i64 a),.lit (.int .i64 b),.lit (.int .i64 c),.lit (.int .u64 d),.lit (.int .u64 e),.lit (.int .u64 f),.lit (.int .i64 g),.lit (.int .i64 q),.lit (.int .i64 r)]=(lw.set i (p,y,(a,b,c,d,e,f,g),q,r)).map aG:=by rw [List.map_set];rfl
theorem FC:[[V.lit (.int .i64 p),.ro (y.map aD),.lit (.int .i64 a),.lit (.int .i64 b),.lit (.int .i64 c),.lit (.int .u64 d),.lit (.int .u64 e),.lit (.int .u64 f),.lit (.int .i64 g),.lit (.int .i64 q),.lit (.int .i64 r)]]=[(p,y,(a,b,c,d,e,f,g),q,r)].map aG:=rfl
theorem D3:[V.lit (.int .i64 p),.ro (y.map aD),.lit (.int .i64 a),.lit (.int .i64 b),.lit (.int .i64 c),.lit (.int .u64 d),.lit (.int .u64 e),.lit (.int .u64 f),.lit (.int .i64 g),.lit (.int .i64 q),.lit (.int .i64 r)]::lw.map aG=((p,y,(a,b,c,d,e,f,g),q,r)::lw).map aG:=rfl
theorem IL:(lw.map aG).set i [.lit (.int .i64 p),.ro [],.lit (.int .i64 a),.lit (.int .i64 b),.lit (.int .i64 c),.lit (.int .u64 d),.lit (.int .u64 e),.lit (.int .u64 f),.lit (.int .i64 g),.lit (.int .i64 q),.lit (.int .i64 r)]=(lw.set i (p,([]:Tye),(a,b,c,d,e,f,g),q,r)).map aG:=by rw [List.map_set];rfl
theorem Dk:[[V.lit (.int .i64 p),.ro [],.lit (.int .i64 a),.lit (.int .i64 b),.lit (.int .i64 c),.lit (.int .u64 d),.lit (.int .u64 e),.lit (.int .u64 f),.lit (.int .i64 g),.lit (.int .i64 q),.lit (.int .i64 r)]]=[(p,([]:Tye),(a,b,c,d,e,f,g),q,r)].map aG:=rfl
theorem Bp:[V.lit (.int .i64 p),.ro [],.lit (.int .i64 a),.lit (.int .i64 b),.lit (.int .i64 c),.lit (.int .u64 d),.lit (.int .u64 e),.lit (.int .u64 f),.lit (.int .i64 g),.lit (.int .i64 q),.lit (.int .i64 r)]::lw.map aG=((p,([]:Tye),(a,b,c,d,e,f,g),q,r)::lw).map aG:=rfl
theorem Le:cY (ls.map bn)=true:=eN lh
theorem MB:lV n (ls.map bn)=ls.map bn:=f8 lh
theorem H8:ky n (ls.map bn)=ls.map bn:=eW lh
theorem V2:cf 9 (ls.map bn)=true:=eu fun _=>rfl
theorem QA:(ls.map bn).set i [.lit (.int .i64 p),.ro (x.map (aF .i64)),.lit (.int .i64 a),.lit (.int .i64 b),.lit (.int .i64 c),.lit (.int .u64 d),.lit (.int .u64 e),.lit (.int .u64 f),.lit (.int .i64 g)]=(ls.set i (p,x,a,b,c,d,e,f,g)).map bn:=by rw [List.map_set];rfl
theorem Ik:[[V.lit (.int .i64 p),.ro (x.map (aF .i64)),.lit (.int .i64 a),.lit (.int .i64 b),.lit (.int .i64 c),.lit (.int .u64 d),.lit (.int .u64 e),.lit (.int .u64 f),.lit (.int .i64 g)]]=[(p,x,a,b,c,d,e,f,g)].map bn:=rfl
theorem Gf:[V.lit (.int .i64 p),.ro (x.map (aF .i64)),.lit (.int .i64 a),.lit (.int .i64 b),.lit (.int .i64 c),.lit (.int .u64 d),.lit (.int .u64 e),.lit (.int .u64 f),.lit (.int .i64 g)]::ls.map bn=((p,x,a,b,c,d,e,f,g)::ls).map bn:=rfl
theorem LU:(ls.map bn).set i [.lit (.int .i64 p),.ro [],.lit (.int .i64 a),.lit (.int .i64 b),.lit (.int .i64 c),.lit (.int .u64 d),.lit (.int .u64 e),.lit (.int .u64 f),.lit (.int .i64 g)]=(ls.set i (p,([]:List Int),a,b,c,d,e,f,g)).map bn:=by rw [List.map_set];rfl
theorem EU:[[V.lit (.int .i64 p),.ro [],.lit (.int .i64 a),.lit (.int .i64 b),.lit (.int .i64 c),.lit (.int .u64 d),.lit (.int .u64 e),.lit (.int .u64 f),.lit (.int .i64 g)]]=[(p,([]:List Int),a,b,c,d,e,f,g)].map bn:=rfl
theorem Eg:[V.lit (.int .i64 p),.ro [],.lit (.int .i64 a),.lit (.int .i64 b),.lit (.int .i64 c),.lit (.int .u64 d),.lit (.int .u64 e),.lit (.int .u64 f),.lit (.int .i64 g)]::ls.map bn=((p,([]:List Int),a,b,c,d,e,f,g)::ls).map bn:=rfl
theorem Jb:cY (lp.map fX)=true:=eN pn
theorem Jh:lV n (lp.map fX)=lp.map fX:=f8 pn
theorem Ep:ky n (lp.map fX)=lp.map fX:=eW pn
theorem P4:cf 3 (lp.map fX)=true:=eu fun _=>rfl
theorem Mr:(lp.map fX).set i [.lit (.int .i64 a),.lit (.int .i64 b),.lit (.int .u64 c)]=(lp.set i (a,b,c)).map fX:=by rw [List.map_set];rfl
theorem EY:[[V.lit (.int .i64 a),.lit (.int .i64 b),.lit (.int .u64 c)]]=[(a,b,c)].map fX:=rfl
theorem Cl:[V.lit (.int .i64 a),.lit (.int .i64 b),.lit (.int .u64 c)]::lp.map fX=((a,b,c)::lp).map fX:=rfl
end
theorem WN {α:Type} {wl e sz bytes id g len s:Nat} {l:List α} {enc:α→List V} {H:Hp} :
  apB wl e sz bytes id g len [] H (some (.rows s (l.map enc) g true)) =
   sif (Nat.ble wl id) (ck (decide (len≤l.length)) (ck (s==sz||s==0) (bif room (l.take len).length bytes then some (.own id (g+1) (l.take len).length,H.set id (.rows sz ((l.take len).map enc) (g+1) true)) else none))) none:=by
 have h:=Kj (wl:=wl) (e:=e) (sz:=sz) (bytes:=bytes) (id:=id) (g:=g) (len:=len) (s:=s) (l:=l) (m:=[]) (enc:=enc) (H:=H)
 rw [List.append_nil] at h
 exact h
theorem TY {kp:Nat→Bool} {cs:List V} {h:Hp}:lK (some kp) (.agg cs) h=bq (pk cs h []) fun p=>some (.agg p.1,p.2.2):=by
 unfold lK Eb bq
 dsimp only
 cases pk cs h [] <;> rfl
theorem Jz {H acc:Hp}:pk [] H acc=some ([],H,acc):=rfl
theorem Ir {v:V} {vs:List V} {H acc:Hp}:pk (v::vs) H acc=bq (ou v H acc) fun p=>bq (pk vs p.2.1 p.2.2) fun q=>some (p.1::q.1,q.2.1,q.2.2):=by
 rw [pk]
 unfold bq
 cases ou v H acc with
 | none=>rfl
 | some p=>rfl
theorem JI {v:Value} {H acc:Hp}:ou (.lit v) H acc=some (.lit v,H,acc):=rfl
theorem Pe {r:List (List V)} {H acc:Hp}:ou (.ro r) H acc=some (.ro r,H,acc):=rfl
def hmB (id g len:Nat) (H acc:Hp):Option B→Option (V×Hp×Hp)
 | some (.rows e rs g' live)=>if g=g'∧len≤rs.length∧(live=true∨len=rs.length)∧cY rs=true then some (.own acc.length 0 len,H.set id .dead,acc++[.rows e (rs.take len) 0 live]) else none
 | _=>none
theorem Dc {id g len:Nat} {H acc:Hp}:ou (.own id g len) H acc=hmB id g len H acc H[id]? := by
 unfold ou hmB
 dsimp only
 cases H[id]? with
 | none=>rfl
 | some b=>cases b <;> rfl
theorem ue {α:Type} {enc:α→List V} (hp:∀ x,a7 (enc x)=true) {id g len e:Nat} {H acc:Hp} {l:List α}:hmB id g len H acc (some (.rows e (l.map enc) g true))=ck (decide (len≤l.length)) (some (.own acc.length 0 len,H.set id .dead,acc++[.rows e ((l.take len).map enc) 0 true])):=by
 unfold hmB ck
 dsimp only
 rw [List.length_map,eN hp,List.map_take]
 by_cases h:len≤l.length
 ·rw [if_pos ⟨rfl,h,.inl rfl,rfl⟩,decide_eq_true h]
  rfl
 ·rw [if_neg (fun z=>h z.2.1),decide_eq_false h]
  rfl
theorem V7 {id g e:Nat} {H acc:Hp} {lv:Bool}:hmB id g 0 H acc (some (.rows e [] g lv))=some (.own acc.length 0 0,H.set id .dead,acc++[.rows e [] 0 lv]):=by
 unfold hmB
 dsimp only
 rw [if_pos ⟨rfl,Nat.le_refl _,.inr rfl,rfl⟩]
 rfl
theorem VN {k:IntKind} {id g len e:Nat} {H acc:Hp} {l:List Int}:hmB id g len H acc (some (.rows e (l.map (aF k)) g true))=ck (decide (len≤l.length)) (some (.own acc.length 0 len,H.set id .dead,acc++[.rows e ((l.take len).map (aF k)) 0 true])):=ue fun _=>rfl
theorem Wi {kp:Nat→Bool} {id g len:Nat} {h:Hp}:lK (some kp) (.own id g len) h=bq (hmB id g len h [] h[id]?) fun p=>some (p.1,p.2.2):=by
 have e:lK (some kp) (.own id g len) h=(ou (.own id g len) h []).bind fun q=>some (q.1,q.2.2):=rfl
 rw [e,Dc]
 unfold bq
 cases hmB id g len h [] h[id]? <;> rfl
theorem NT {id g len e:Nat} {H acc:Hp} {l:List Tyw}:hmB id g len H acc (some (.rows e (l.map aG) g true))=ck (decide (len≤l.length)) (some (.own acc.length 0 len,H.set id .dead,acc++[.rows e ((l.take len).map aG) 0 true])):=ue iU
theorem TT {id g len e:Nat} {H acc:Hp} {l:List Tys}:hmB id g len H acc (some (.rows e (l.map bn) g true))=ck (decide (len≤l.length)) (some (.own acc.length 0 len,H.set id .dead,acc++[.rows e ((l.take len).map bn) 0 true])):=ue lh
def agB:=PLift.up (And.intro (And.intro (And.intro (And.intro (And.intro (And.intro @Iy @H9) @Ga) (And.intro (And.intro @NL @Ma) @FC)) (And.intro (And.intro (And.intro @D3 @IL) @Dk) (And.intro @Bp @Le))) (And.intro (And.intro (And.intro (And.intro @MB @H8) @V2) (And.intro @QA @Ik)) (And.intro (And.intro (And.intro @Gf @LU) @EU) (And.intro @Eg @Jb)))) (And.intro (And.intro (And.intro (And.intro (And.intro @Jh @Ep) @P4) (And.intro @Mr @EY)) (And.intro (And.intro (And.intro @Cl @V7) @VN) (And.intro @Wi @WN))) (And.intro (And.intro (And.intro (And.intro @TY @Jz) @Ir) (And.intro @JI @Pe)) (And.intro (And.intro (And.intro @Dc @NT) @TT) (And.intro @fX.eq_1 @aeI.eq_1)))))
theorem syW:type_of% agB.down:=agB.down
end Go.Ab
namespace Go.Ab
section
variable {cx:Cx} {K:Out→St→Res} {r:Res} {id j n0:Nat} {ops:Array Oper} {a:List Nat×List Nat} {env:List V} {H:Hp} {o:Oper} {i:Nat} {L:List Nat}
theorem qI (hL:AN ops=L) (ha:(pl ops).any=false) (v:V) (H':Hp) (h2:bV cx (.region id ops true) (j+1) n0 a K ⟨mq env o.dst v,H'⟩=r) (hj:L[j]? = some i:=by rfl) (ho:ops.toList[i]? = some o:=by rfl) (hg:o.guard=none:=by rfl) (hst:(pl ops).strict i=false:=by kernel_rfl) (h1:opV cx ((pl ops).calm i) ((pl ops).ord i) o.op env H=some (v,H'):=by kernel_rfl):bV cx (.region id ops true) j n0 a K ⟨env,H⟩=r:=go_op1 hL ha hj ho hg (aeN hst (afr h1 h2))
section
variable {gj d:Nat} {b:Bool}
end
end
end Go.Ab
namespace Go.Ab
abbrev bb (b:Bool) (x y:Res):Res:=match b with | true=>x | false=>y
abbrev onO {A:Type} (x:Option A) (k:A→Res):Res:=match x with | some v=>k v | none=>none
abbrev adx (cx:Cx) (b:Builtin) (ts:Array TypeId) (args:List V) (H:Hp) (F:V→Hp→Res):Res:=
 match b with
 | .len=>match ts.toList,args with
  | [t],[x]=>bp (bc cx.P t x H) F
  | _,_=>none
 | .append=>match ts.toList,args with
  | [t,u],[s,x]=>bp (kM cx.P cx.wl t u s x H) F
  | _,_=>none
 | .max=>bm (gw true args) H F
 | .min=>bm (gw false args) H F
 | _=>none
abbrev opW (cx:Cx) (calm ord:Bool) (op:Op) (env:List V) (H:Hp) (F:V→Hp→Res):Res:=
 match op with
 | .move x=>onO (evO env x) fun v=>F v H
 | .assign x=>match x with
  | .const c=>onO (some (kq c)) fun v=>match v with | .nil=>bp (some (.own H.length 0 0,H++[.rows 0 [] 0 true])) F | v=>F v H
  | x=>onO (evO env x) fun v=>F v H
 | .pick c a b=>onO (evO env c) fun c=>onO (evO env a) fun a=>onO (evO env b) fun b=>bm (aQ c a b) H F
 | .alloc t=>bp (av cx.P t H) F
 | .box _ x=>onO (evO env x) fun v=>bp (aN v H) F
 | .build t parts=>onO (J8 (evO env) parts.toList) fun l=>bm (a8 cx.P t l) H F
 | .buildSlice t len parts=>onO (J8 (evO env) parts.toList) fun l=>bb (calm) (bp (cN cx.P cx.wl t len l H) F) (bp (aA cx.P cx.wl t len l H) F)
 | .insert t m k v=>onO (evO env m) fun m=>onO (evO env k) fun k=>onO (evO env v) fun v=>bs (eP cx.P cx.wl t m k v H) (F uu)
 | .load t a=>onO (evO env a) fun a=>bm (ab cx.P t a H) H F
 | .store t a v=>onO (evO env a) fun a=>onO (evO env v) fun v=>bs (ai cx.P cx.wl t a v H) (F uu)
 | .nilCheck x=>onO (evO env x) fun x=>bm (aT x H) H F
 | .binOp op t x y _=>onO (evO env x) fun x=>onO (evO env y) fun y=>bm (aw cx.P op t x y) H F
 | .unOp op _ x=>onO (evO env x) fun x=>bm (vUn op x) H F
 | .convert s d x=>onO (evO env x) fun x=>bm (fI cx.P s d x) H F
 | .makeFunc f a b=>onO (Bw env a.toList) fun a=>onO (Bw env b.toList) fun b=>F (.fn f a b) H
 | .makeMap _ r=>match r with | none=>bp (some (.map H.length,H++[.map []])) F | some _=>none
 | .makeSlice t l c=>onO (evO env l) fun l=>onO (evO env c) fun c=>bp (be cx.P t l c H) F
 | .slice t x lo hi mx=>onO (evO env x) fun x=>onO (Ks env lo) fun lo=>onO (Ks env hi) fun hi=>onO (Ks env mx) fun mx=>bp (bR cx.P cx.wl calm t x lo hi mx H) F
 | .fieldAddr t x i=>onO (evO env x) fun x=>bm (aa cx.P t x i) H F
 | .field t x i=>onO (evO env x) fun x=>bm (wW cx.P t x i) H F
 | .indexAddr t x i=>onO (evO env x) fun x=>onO (evO env i) fun i=>bm (aj cx.P t x i H) H F
 | .index t x i=>onO (evO env x) fun x=>onO (evO env i) fun i=>bm (Gy cx.P t x i) H F
 | .lookup t m k ok=>onO (evO env m) fun m=>onO (evO env k) fun k=>bm (gk cx.P t m k ok H) H F
 | .extract x i=>onO (evO env x) fun x=>bm (aq x i) H F
 | .call c=>
  match c.callee with
  | .builtin b=>onO (Bw env c.args.toList) fun a=>adx cx b c.argTypes a H F
  | .value f=>onO (evO env f) fun f=>onO (Bw env c.args.toList) fun a=>bp (bL cx calm ord f a H) F
  | .invoke _ _=>none
 | _=>none
theorem cF {A:Type} {x:Option A} {k:A→Res} {g:A→Option (V×Hp)} {F:V×Hp→Res} (h:∀ v,k v=(g v).bind F):onO x k=(x.bind g).bind F:=by
 cases x with
 | none=>rfl
 | some v=>exact h v
theorem EW {A:Type} {x:Option A} {k:A→Res} {g:A→V×Hp} {F:V×Hp→Res} (h:∀ v,k v=F (g v)):onO x k=(x.map g).bind F:=by
 cases x with
 | none=>rfl
 | some v=>exact h v
theorem Yg {x:Option Hp} {F:V→Hp→Res}:bs x (F uu)=(x.map fun H'=>(V.lit undef,H')).bind fun p=>F p.1 p.2:=by cases x <;> rfl
theorem T7 {cx:Cx} {b:Builtin} {ts:Array TypeId} {args:List V} {H:Hp} {F:V→Hp→Res}:adx cx b ts args H F=(Js cx b ts args H).bind fun p=>F p.1 p.2:=by
 unfold adx Js
 generalize ts.toList=l
 cases b with
 | len=>rcases l with _ | ⟨_,_ | _⟩ <;> rcases args with _ | ⟨_,_ | _⟩ <;> rfl
 | append=>rcases l with _ | ⟨_,_ | ⟨_,_ | _⟩⟩ <;> rcases args with _ | ⟨_,_ | ⟨_,_ | _⟩⟩ <;> rfl
 | _=>rfl
theorem abE {cx:Cx} {calm ord:Bool} {op:Op} {env:List V} {H:Hp} {F:V→Hp→Res}:opW cx calm ord op env H F=(opV cx calm ord op env H).bind fun p=>F p.1 p.2:=by
 cases op with
 | assign x=>
  unfold opW opV
  dsimp only
  cases x with
  | const c=>
   dsimp only [evO,onO,Option.map_some,Option.bind_some]
   cases kq c <;> rfl
  | _=>exact EW fun v=>rfl
 | call c=>
  unfold opW opV
  dsimp only
  cases c.callee with
  | builtin b=>exact cF fun a=>T7
  | value f=>exact cF fun f=>cF fun a=>rfl
  | invoke _ _=>rfl
 | buildSlice t len parts=>
  unfold opW opV
  dsimp only
  refine cF fun l => ?_
  cases calm <;> rfl
 | makeMap t r=>
  unfold opW opV
  dsimp only
  cases r <;> rfl
 | _=>
  unfold opW opV
  dsimp only
  first
  | rfl
  | exact cF fun a=>cF fun b=>Yg
  | exact cF fun a=>cF fun b=>cF fun c=>Yg
  | exact EW fun v=>rfl
  | exact cF fun a=>rfl
  | exact cF fun a=>EW fun b=>rfl
  | exact cF fun a=>cF fun b=>rfl
  | exact cF fun a=>cF fun b=>cF fun c=>rfl
  | exact cF fun a=>cF fun b=>cF fun c=>cF fun d=>rfl
inductive Md where
 | E (c:Code) (fs:List Fr) (jn:List Nat)
 | R (o:Out) (fs:List Fr) (jn:List Nat)
 | L (c:Code) (l:Nat) (fs:List Fr) (jn:List Nat)
 | G (c:Code) (j n0:Nat) (a:List Nat×List Nat) (fs:List Fr) (g:Bool) (kn:List (Nat×Nat)) (jn:List Nat)
def agL (cx:Cx) (K:Out→St→Res) (s:St):Md→Res
 | .E c fs _=>au cx K (.seq c::fs) .norm s
 | .R o fs _=>au cx K fs o s
 | .L c l fs _=>xr cx K c l fs s
 | .G c j n0 a fs _ _ _=>bV cx c j n0 a (au cx K fs) s
def nv (i:Nat):Code→Bool
 | .exit j=>j==i
 | .seq a b=>nv i a||nv i b
 | .cond _ a b=>nv i a||nv i b
 | .rangeFunc _ _ a b=>nv i a||nv i b
 | .block _ a=>nv i a
 | .loop a=>nv i a
 | .scope a=>nv i a
 | _=>false
def nt:Code→Bool
 | .seq a b=>nt a&&nt b
 | .cond _ a b=>nt a||nt b
 | .exit _=>false
 | .goto _=>false
 | .ret=>false
 | .loop _=>false
 | .block i a=>nt a||nv i a
 | _=>true
def kX:Code→Nat
 | .region _ ops _=>ops.size
 | .seq a b=>kX a+kX b+1
 | .cond _ a b=>kX a+kX b+1
 | .rangeFunc _ _ a b=>kX a+kX b+1
 | .block _ a=>kX a
 | .scope a=>kX a
 | .loop _=>10
 | _=>0
def atJ (jn:List Nat) (n:Nat):Bool:=match jn with | []=>false | x::_=>x==n
def jnT (jn:List Nat) (n:Nat):List Nat:=bif atJ jn n then jn.tail else jn
def HU (jn:List Nat):List Fr→Nat→Bool
 | [],n=>Nat.ble 3 n
 | .seq c::r,n=>bif atJ jn (r.length+1) then false else bif nt c then HU jn r (n+kX c) else Nat.ble 3 (n+kX c)
 | _::r,n=>bif atJ jn (r.length+1) then false else HU jn r n
abbrev sxW (n0:Nat) (st:Bool) (op:Op) (env:List V) (x:Res):Res:=
 bb (st) ((match kQ op with | none=>x | some y=>match evO env y with | some v=>stO n0 v x | none=>x)) (x)
def ado (d:Nat):List (Nat×Nat)→Option Nat
 | []=>none
 | (e,b)::r=>bif e==d then some b else ado d r
def Tk (d:Nat):List (Nat×Nat)→List (Nat×Nat)
 | []=>[]
 | (e,b)::r=>bif e==d then Tk d r else (e,b)::Tk d r
def knR (d:Option Nat) (kn:List (Nat×Nat)):List (Nat×Nat):=match d with | none=>kn | some d=>Tk d kn
def knS (d:Option Nat) (kn:List (Nat×Nat)):List (Nat×Nat):=match d with | none=>kn | some d=>(d,2)::kn
def wk (cx:Cx) (K:Out→St→Res):Nat→Md→St→Res
 | 0,m,s=>agL cx K s m
 | n+1,m,s=>match m with
  | .E c fs jn=>match c with
   | .skip=>wk cx K n (.R .norm fs jn) s
   | .region id ops draw=>bb (draw) ((bb (BP ops) (wk cx K n (.G (.region id ops true) 0 s.H.length ([],[]) fs false [] jn) s) (none))) (wk cx K n (.G (.region id ops false) 0 s.H.length ([],[]) fs false [] jn) s)
   | .seq a b=>wk cx K n (.E a (.seq b::fs) jn) s
   | .block id a=>wk cx K n (.E a (.block id::fs) jn) s
   | .scope a=>wk cx K n (.E a (.scope a::fs) jn) s
   | .cond v a b=>onO (evO s.env v) fun v=>
    bb (nt a&&nt b&&HU jn fs 0) (cnd v (wk cx K n (.E a fs (fs.length::jn)) s) (wk cx K n (.E b fs (fs.length::jn)) s)) (cnd v (wk cx K n (.E a fs jn) s) (wk cx K n (.E b fs jn) s))
   | .exit id=>wk cx K n (.R (.exit id) fs jn) s
   | .goto l=>wk cx K n (.R (.goto l) fs jn) s
   | .ret=>wk cx K n (.R .ret fs jn) s
   | .label _=>wk cx K n (.R .norm fs jn) s
   | .loop a=>itX cx a s.H.length (au cx K fs) cx.n (tidy s.H.length (IK (cx.M.named cx.fid) (ko a ([],[])) false) s)
   | c=>ba cx c none (au cx K fs) s
  | .R o fs jn=>match o with
   | .norm=>bb (atJ jn fs.length) (au cx K fs .norm s) (match fs with
    | []=>K .norm s
    | .seq c::r=>wk cx K n (.E c r jn) s
    | .block _::r=>wk cx K n (.R .norm r jn) s
    | .scope _::r=>wk cx K n (.R .norm r jn) s
    | .scope2 _::r=>wk cx K n (.R .norm r jn) s)
   | .exit i=>match fs with
    | []=>K (.exit i) s
    | .seq _::r=>wk cx K n (.R (.exit i) r (jnT jn fs.length)) s
    | .block id::r=>bb (i==id) (wk cx K n (.R .norm r (jnT jn fs.length)) s) (wk cx K n (.R (.exit i) r (jnT jn fs.length)) s)
    | .scope _::r=>wk cx K n (.R (.exit i) r (jnT jn fs.length)) s
    | .scope2 _::r=>wk cx K n (.R (.exit i) r (jnT jn fs.length)) s
   | .goto l=>match fs with
    | []=>K (.goto l) s
    | .seq _::r=>wk cx K n (.R (.goto l) r (jnT jn fs.length)) s
    | .block _::r=>wk cx K n (.R (.goto l) r (jnT jn fs.length)) s
    | .scope a::r=>bb (bH l a) (wk cx K n (.L a l (.scope2 a::r) (jnT jn fs.length)) s) (wk cx K n (.R (.goto l) r (jnT jn fs.length)) s)
    | .scope2 a::r=>bb (bH l a) (none) (wk cx K n (.R (.goto l) r (jnT jn fs.length)) s)
   | o=>match fs with
    | []=>K o s
    | _::r=>wk cx K n (.R o r (jnT jn fs.length)) s
  | .L c l fs jn=>match c with
   | .seq a b=>bb (bH l a) (wk cx K n (.L a l (.seq b::fs) jn) s) (wk cx K n (.L b l fs jn) s)
   | .label l'=>bb (l'==l) (wk cx K n (.R .norm fs jn) s) (none)
   | c=>xr cx K c l fs s
  | .G c j n0 a fs g kn jn=>match (l8 c)[j]? with
   | none=>bb ((kw c).any) (apt a (wk cx K n (.R .norm fs jn) s)) (wk cx K n (.R .norm fs jn) s)
   | some (o,i)=>
    let run:=fun env g kn=>sxW n0 ((kw c).strict i) o.op env (opW cx ((kw c).calm i) ((kw c).ord i) o.op env s.H fun v h=>wk cx K n (.G c (j+1) n0 (Gw (kw c) i o.op env a) fs g (knR o.dst kn) jn) ⟨mq env o.dst v,h⟩)
    let skip:=fun env g kn=>wk cx K n (.G c (j+1) n0 a fs g (knS o.dst kn) jn) ⟨mq env o.dst uu,s.H⟩
    match o.guard with
    | none=>bb (g) (bV cx c j n0 a (au cx K fs) s) (run s.env g kn)
    | some (gj,want)=>match ((FT c)[gj]?).bind (·.dst) with
     | none=>none
     | some d=>match ado d kn with
      | some _=>match s.env[d]? with
       | some (.lit (.bool b))=>bb (b==want) (run (s.env.set d (.lit (.bool b))) g kn) (skip (s.env.set d (.lit (.bool b))) g kn)
       | some (.lit (.tuple _))=>skip s.env g kn
       | _=>none
      | none=>bb g (bV cx c j n0 a (au cx K fs) s)
       (onO s.env[d]? fun v=>bb want
        (gd v (run (s.env.set d (.lit (.bool true))) true ((d,1)::kn)) (skip (s.env.set d (.lit (.bool false))) true ((d,0)::kn)) (bV cx c (j+1) n0 a (au cx K fs) ⟨mq s.env o.dst uu,s.H⟩))
        (gd v (skip (s.env.set d (.lit (.bool true))) true ((d,1)::kn)) (run (s.env.set d (.lit (.bool false))) true ((d,0)::kn)) (bV cx c (j+1) n0 a (au cx K fs) ⟨mq s.env o.dst uu,s.H⟩)))
section
variable {cx:Cx} {K:Out→St→Res} {c:Code} {j n0:Nat} {a:List Nat×List Nat} {s:St} {r:Res}
theorem K1 (h:(l8 c)[j]? = none):bV cx c j n0 a K s=if (kw c).any then apt a (K .norm s) else K .norm s:=by
 unfold bV
 rw [List.drop_eq_nil_iff.2 (List.getElem?_eq_none_iff.1 h)]
 rfl
theorem KS {o:Oper} {i:Nat} (h:(l8 c)[j]? = some (o,i)):bV cx c j n0 a K s =
  (let run (env:List V):Res:=if dZ n0 ((kw c).strict i) o.op env then (opV cx ((kw c).calm i) ((kw c).ord i) o.op env s.H).bind fun p=>bV cx c (j+1) n0 (Gw (kw c) i o.op env a) K ⟨mq env o.dst p.1,p.2⟩ else none
   let skip (env:List V):Res:=bV cx c (j+1) n0 a K ⟨mq env o.dst (.lit undef),s.H⟩
   match o.guard with
   | none=>run s.env
   | some (j,want)=>
    match ((FT c)[j]?).bind (·.dst) with
    | none=>none
    | some d=>
     match s.env[d]? with
     | some (.lit (.bool b))=>FX b want d s.env run skip
     | some (.lit (.tuple _))=>skip s.env
     | _=>none):=by
 obtain ⟨hj,he⟩:=List.getElem?_eq_some_iff.1 h
 unfold bV
 rw [List.drop_eq_getElem_cons hj,he]
 rfl
theorem abR {st:Bool} {op:Op} {env:List V} {x:Res}:sxW n0 st op env x=if dZ n0 st op env then x else none:=by
 unfold sxW dZ mB
 cases st with
 | false=>rfl
 | true=>
  dsimp only [bb,if_true]
  cases kQ op with
  | none=>rfl
  | some y=>
   have h:∀ q:Option V,(match q with | some v=>stO n0 v x | none=>x)=if (match (match q with | some v=>HK v | none=>none) with | some i=>decide (i<n0) | none=>true)=true then x else none:=by
    intro q
    cases q with
    | none=>rfl
    | some v=>rfl
   exact h _
end
theorem IV (cx:Cx) (K:Out→St→Res):∀ (n:Nat) (m:Md) (s:St),wk cx K n m s=agL cx K s m
 | 0,_,_=>rfl
 | n+1,m,s=>by
  have ih:=IV cx K n
  cases m with
  | E c fs jn=>
   cases c with
   | skip=>exact ih _ _
   | region id ops draw=>
    cases draw with
    | false=>exact (ih _ _).trans (go_reg0 rfl).symm
    | true=>
     show bb (BP ops) (wk cx K n _ s) none=_
     cases h:BP ops with
     | true=>exact (ih _ _).trans (go_reg1 h rfl).symm
     | false=>
      show none=ba cx (.region id ops true) none (au cx K fs) s
      simp [ba,h]
   | seq a b=>exact (ih _ _).trans (go_seq rfl).symm
   | block id a=>exact (ih _ _).trans (go_block rfl).symm
   | scope a=>exact (ih _ _).trans (go_scope rfl).symm
   | cond v a b=>
    show onO (evO s.env v) _=_
    cases h:evO s.env v with
    | none=>
     show none=ba cx (.cond v a b) none (au cx K fs) s
     simp only [ba,h]
    | some v=>
     refine Eq.trans ?_ (go_cond h rfl rfl).symm
     show bb _ _ _=_
     cases (nt a&&nt b&&HU jn fs 0) <;> (simp only [bb,ih];rfl)
   | exit id=>exact ih _ _
   | goto l=>exact ih _ _
   | ret=>exact ih _ _
   | label l=>exact ih _ _
   | loop a=>rfl
   | _=>rfl
  | R o fs jn=>
   cases o with
   | norm=>
    show bb _ _ _=_
    cases atJ jn fs.length with
    | true=>rfl
    | false=>cases fs with
     | nil=>rfl
     | cons f r=>cases f <;> exact ih _ _
   | exit i=>
    cases fs with
    | nil=>rfl
    | cons f r=>cases f with
     | block id=>
      show bb (i==id) _ _=if i=id then _ else _
      by_cases h:i=id
      ·subst h
       rw [beq_self_eq_true,if_pos rfl]
       exact ih _ _
      ·rw [beq_false_of_ne h,if_neg h]
       exact ih _ _
     | _=>exact ih _ _
   | goto l=>
    cases fs with
    | nil=>rfl
    | cons f r=>cases f with
     | scope a=>
      show bb (bH l a) _ _=_
      cases h:bH l a with
      | true=>exact (ih _ _).trans (F5 h rfl).symm
      | false=>exact (ih _ _).trans (C4 h rfl).symm
     | scope2 a=>
      show bb (bH l a) _ _=au cx K (.scope2 a::r) (.goto l) s
      cases h:bH l a with
      | true=>simp only [au,h,if_true]
      | false=>exact (ih _ _).trans (AQ h rfl).symm
     | _=>exact ih _ _
   | ret=>
    cases fs with
    | nil=>rfl
    | cons f r=>cases f <;> exact ih _ _
  | L c l fs jn=>
   cases c with
   | seq a b=>
    show bb (bH l a) _ _=_
    cases h:bH l a with
    | true=>exact (ih _ _).trans (Xj h rfl).symm
    | false=>exact (ih _ _).trans (Ql h rfl).symm
   | label l'=>
    show bb (l'==l) _ _=ba cx (.label l') (some l) (au cx K fs) s
    cases h:l'==l with
    | true=>simp only [ba,h,if_true];exact ih _ _
    | false=>simp only [ba,h];rfl
   | _=>rfl
  | G c j n0 a fs g kn jn=>
   show (match (l8 c)[j]? with | none=>_ | some (o,i)=>_)=bV cx c j n0 a (au cx K fs) s
   cases h:(l8 c)[j]? with
   | none=>
    rw [K1 h]
    show bb _ _ _=_
    cases (kw c).any <;> (simp only [bb,ih];rfl)
   | some p=>
    obtain ⟨o,i⟩:=p
    have hrun:∀ env g kn,sxW n0 ((kw c).strict i) o.op env (opW cx ((kw c).calm i) ((kw c).ord i) o.op env s.H fun v h=>wk cx K n (.G c (j+1) n0 (Gw (kw c) i o.op env a) fs g (knR o.dst kn) jn) ⟨mq env o.dst v,h⟩) =
      if dZ n0 ((kw c).strict i) o.op env then (opV cx ((kw c).calm i) ((kw c).ord i) o.op env s.H).bind fun p=>bV cx c (j+1) n0 (Gw (kw c) i o.op env a) (au cx K fs) ⟨mq env o.dst p.1,p.2⟩ else none:=by
     intro env g kn
     rw [abR,abE]
     congr 1
     congr 1
     funext p
     exact ih _ _
    have hskip:∀ env g kn,wk cx K n (.G c (j+1) n0 a fs g (knS o.dst kn) jn) ⟨mq env o.dst uu,s.H⟩=bV cx c (j+1) n0 a (au cx K fs) ⟨mq env o.dst (.lit undef),s.H⟩:=fun env g kn=>ih _ _
    rw [KS h]
    dsimp only
    simp only [hrun,hskip]
    cases hg:o.guard with
    | none=>
     cases g with
     | true=>rfl
     | false=>rfl
    | some q=>
     obtain ⟨gj,want⟩:=q
     dsimp only
     cases hd:((FT c)[gj]?).bind (·.dst) with
     | none=>rfl
     | some d=>
      dsimp only
      cases hk:ado d kn with
      | some b=>
       dsimp only
       cases he:s.env[d]? with
       | none=>rfl
       | some v=>
        cases v with
        | lit x=>
         cases x with
         | bool t=>cases t <;> cases want <;> rfl
         | _=>rfl
        | _=>rfl
      | none=>
       cases g with
       | true=>rfl
       | false=>
        dsimp only [bb]
        cases he:s.env[d]? with
        | none=>rfl
        | some v=>
         cases v with
         | lit x=>
          cases x with
          | bool t=>cases t <;> cases want <;> rfl
          | tuple x=>cases want <;> rfl
          | _=>cases want <;> rfl
         | _=>cases want <;> rfl
section
variable {cx:Cx} {K:Out→St→Res} {c:Code} {j n0 n:Nat} {a:List Nat×List Nat} {s:St} {r:Res} {fs:List Fr} {o:Out}
theorem kG (h:wk cx K 999 (.G c j n0 a fs false [] []) s=r:=by kernel_rfl):bV cx c j n0 a (au cx K fs) s=r:=(IV ..).symm.trans h
theorem kJ (jn:List Nat) (h:wk cx K 999 (.G c j n0 a fs false [] jn) s=r:=by kernel_rfl):bV cx c j n0 a (au cx K fs) s=r:=(IV ..).symm.trans h
theorem kR (h:wk cx K 999 (.R o fs []) s=r:=by kernel_rfl):au cx K fs o s=r:=(IV ..).symm.trans h
theorem kI (h:wk cx (eO cx c n0 K n) 999 (.E c [] []) s=r:=by kernel_rfl):itX cx c n0 K (n+1) s=r:=Q2 ((IV ..).symm.trans h)
theorem kB {fn:Func} {args:List V} {H:Hp} (h:wk cx (ao cx.P fn) 999 (.E (am fn) [] []) ⟨args++List.replicate (fn.ntmps - args.length) uu,H⟩=r:=by kernel_rfl) (hb:fn.body=some (am fn):=by rfl):ak cx fn args H=r:=KO hb ((IV ..).symm.trans h)
end
end Go.Ab
set_option linter.unusedVariables false
set_option linter.unusedSimpArgs false
namespace Go.Ab
theorem r7 {cs:List V} {i g l:Nat} {H:Hp}:lK (some fun i=>i==1) (.tup [.agg cs,.own i g l]) H=bq (fzL 0 true cs H) fun p=>bq (pk p.1 p.2 []) fun q=>bq (ou (.own i g l) q.2.1 q.2.2) fun r=>some (.tup [.agg q.1,r.1],r.2.2):=by
 unfold bq
 show ((((fzL 0 true cs H).bind fun p=>some (V.agg p.1,p.2)).bind fun p=>some ([p.1,V.own i g l],p.2)).bind fun p=>(nu p.1 p.2 []).bind fun q=>some (V.tup q.1,q.2.2))=_
 cases fzL 0 true cs H with
 | none=>rfl
 | some p=>
  show ((nu [V.agg p.1,V.own i g l] p.2 []).bind fun q=>some (V.tup q.1,q.2.2))=_
  simp only [nu,Eb]
  dsimp only [Option.bind_some]
  cases pk p.1 p.2 [] with
  | none=>rfl
  | some q=>
   dsimp only [Option.bind_some]
   cases ou (.own i g l) q.2.1 q.2.2 <;> rfl
theorem r8 {cs:List V} {H:Hp}:lK (some fun i=>i==1) (.tup [.agg cs,.nil]) H=bq (fzL 0 true cs H) fun p=>bq (pk p.1 p.2 []) fun q=>some (.tup [.agg q.1,.ro []],q.2.2):=by
 unfold bq
 show ((((fzL 0 true cs H).bind fun p=>some (V.agg p.1,p.2)).bind fun p=>some ([p.1,V.nil],p.2)).bind fun p=>(nu p.1 p.2 []).bind fun q=>some (V.tup q.1,q.2.2))=_
 cases fzL 0 true cs H with
 | none=>rfl
 | some p=>
  show ((nu [V.agg p.1,V.nil] p.2 []).bind fun q=>some (V.tup q.1,q.2.2))=_
  simp only [nu,Eb]
  dsimp only [Option.bind_some]
  cases pk p.1 p.2 [] <;> rfl
theorem oL {id g len e:Nat} {H acc:Hp} {l:Tye}:hmB id g len H acc (some (.rows e (l.map aD) g true))=ck (decide (len≤l.length)) (some (.own acc.length 0 len,H.set id .dead,acc++[.rows e ((l.take len).map aD) 0 true])):=ue fun _=>rfl
end Go.Ab
