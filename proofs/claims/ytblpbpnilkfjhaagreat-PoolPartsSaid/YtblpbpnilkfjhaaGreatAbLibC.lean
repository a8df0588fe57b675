import Derived.Test.YtblpbpnilkfjhaaGreatAbLibB
import Derived.Shelf.Slices.Delete
set_option linter.unusedVariables false
set_option linter.unusedSimpArgs false
namespace Go.Ab
def al:Code→List Nat→Code
 | c,[]=>c
 | .seq a b,i::p=>if i=0 then al a p else al b p
 | .cond _ a b,i::p=>if i=0 then al a p else al b p
 | .block _ a,_::p=>al a p
 | .loop a,_::p=>al a p
 | .scope a,_::p=>al a p
 | .rangeFunc _ _ a b,i::p=>if i=0 then al a p else al b p
 | c,_=>c
def am (fn:Func):Code:=fn.body.getD .skip
structure Sys where
 P:Program
 orc:FuncId→Option (List V→Hp→Option (V×Hp))
 keepRes:FuncId→FuncId→Option (Nat→Bool)
 keepArg:FuncId→Bool
 call:Nat→FuncId→List V→Hp→Option (V×Hp)
 yld:Nat→Nat→List V→Hp→Option (V×Hp)
inductive Fr where
 | seq (c:Code)
 | block (id:Nat)
 | scope (a:Code)
 | scope2 (a:Code)
def uu:V := .lit undef
abbrev Res:=Option (V×Hp)
def au (cx:Cx) (K:Out→St→Res):List Fr→Out→St→Res
 | [],o,s=>K o s
 | .seq c::fs,o,s=>match o with
  | .norm=>bc cx c none (au cx K fs) s
  | o=>au cx K fs o s
 | .block id::fs,o,s=>match o with
  | .exit id'=>if id'=id then au cx K fs .norm s else au cx K fs (.exit id') s
  | o=>au cx K fs o s
 | .scope a::fs,o,s=>match o with
  | .goto l => if bA l a then bc cx a (some l) (fun o' s'' => match o' with | .goto l' => if bA l' a then none else au cx K fs (.goto l') s'' | o' => au cx K fs o' s'') s else au cx K fs (.goto l) s
  | o=>au cx K fs o s
 | .scope2 a::fs,o,s=>match o with
  | .goto l=>if bA l a then none else au cx K fs (.goto l) s
  | o=>au cx K fs o s
def itX (cx:Cx) (c:Code) (n0:Nat) (K:Out→St→Res) (n:Nat) (s:St):Res:=
 IA (bc cx c none) n0 (cx.M.named cx.fid) (gw c ([],[])) K n s
def eD (cx:Cx) (c:Code) (n0:Nat) (K:Out→St→Res) (n:Nat):Out→St→Res:=fun o s'=>match o with
 | .norm=>itX cx c n0 K n (tidy n0 (F3 (cx.M.named cx.fid) (gw c ([],[])) false) s')
 | .ret=>K .ret s'
 | o=>K o (tidy n0 (F3 (cx.M.named cx.fid) (gw c ([],[])) true) s')
def Cr:Code→Array Oper
 | .region _ ops _=>ops
 | _ => #[]
def gT:Code→Rg
 | .region _ ops draw=>if draw then na ops else Rg.none
 | _=>Rg.none
def i9:Code→List (Oper×Nat)
 | .region _ ops draw=>if draw then aw ops else ops.toList.zipIdx
 | _=>[]
def xr (ops:Array Oper):List Nat:=(aw ops).map (·.2)
def dv (cx:Cx) (c:Code) (j n0:Nat) (a:List Nat×List Nat) (K:Out→St→Res) (s:St):Res:=
 wo cx n0 (gT c) (Cr c) ((i9 c).drop j) a (K .norm) s
def av (P:Program) (fn:Func):Out→St→Res:=fun o s=>match o with
 | .norm=>(fe P fn.results.toList s).map fun v=>(v,s.H)
 | .ret=>(fe P fn.results.toList s).map fun v=>(v,s.H)
 | _=>none
def bm (x:Option V) (H:Hp) (k:V→Hp→Res):Res:=(x.map fun v=>(v,H)).bind fun p=>k p.1 p.2
def bp (x:Option (V×Hp)) (k:V→Hp→Res):Res:=x.bind fun p=>k p.1 p.2
def bs (x:Option Hp) (k:Hp→Res):Res:=(x.map fun H'=>(V.lit undef,H')).bind fun p=>k p.2
def cnd (c:V) (a b:Res):Res:=match c with
 | .lit (.bool t)=>bif t then a else b
 | _=>none
def gd (c:V) (a b u:Res):Res:=match c with
 | .lit (.bool t)=>bif t then a else b
 | .lit (.tuple _)=>u
 | _=>none
def ar (P:Program) (t:TypeId) (H:Hp):Option (V×Hp):=
 (ef P t).bind fun z=>if be (bK z) then let p:=bx (bK z) H;some (.ptr p.2.length 0 0 0,p.2++[.box p.1]) else none
def aJ (v:V) (H:Hp):Option (V×Hp):=v.cells.bind fun vs=>let p:=bx vs H;some (.ptr p.2.length 0 0 0,p.2++[.box p.1])
def ee (P:Program) (wl:Nat) (t:TypeId) (len:Nat) (l:List (Nat×V)) (H:Hp):Option (V×Hp):=
 if true && !bl (l.map (·.2)) then none else aB P wl t len l H
def aX (P:Program) (t:TypeId) (x:V) (H:Hp):Option (V×Hp):=if (gX P t).isSome then (oH x H).map fun v=>(v,H) else none
def kf (P:Program) (wl:Nat) (t u:TypeId) (s x:V) (H:Hp):Option (V×Hp):=if (gX P u).isSome then a9 P wl t s x H else none
def apt (a:List Nat×List Nat) (k:Res):Res:=if rc a then k else none
def lgR (v:V) (a:List Nat×List Nat):List Nat×List Nat:=match DS v with | some k=>(k::a.1,a.2) | none=>a
def lgW (v:V) (a:List Nat×List Nat):List Nat×List Nat:=match DS v with | some k=>(a.1,k::a.2) | none=>a
def stB (n0:Nat) (v:V):Bool:=match DS v with | some i=>i<n0 | none=>true
def stO (n0:Nat) (v:V) (k:Res):Res:=if stB n0 v then k else none
def aef:List (Option V)→Option (List V)
 | []=>some []
 | x::xs=>x.bind fun v=>(aef xs).bind fun vs=>some (v::vs)
def er (l:List (Option V)) (H:Hp):Res:=((aef l).bind fun vs=>match vs with | [v]=>some v | vs=>some (.tup vs)).map fun v=>(v,H)
section steps
variable {cx:Cx} {K:Out→St→Res} {fs:List Fr} {s:St} {r:Res}
theorem I5 {fn:Func} {args:List V} {H:Hp} {c:Code} (hb:fn.body=some c) (h:au cx (av cx.P fn) [.seq c] .norm ⟨args++List.replicate (fn.ntmps - args.length) uu,H⟩=r):ak cx fn args H=r:=by
 rw [← h]
 unfold ak
 rw [hb]
 have:(fun o s=>match o with
   | .norm=>(fe cx.P fn.results.toList s).map fun v=>(v,s.H)
   | .ret=>(fe cx.P fn.results.toList s).map fun v=>(v,s.H)
   | _=>none:Out→St→Res)=au cx (av cx.P fn) []:=by
  funext o s
  cases o <;> rfl
 show bc cx c none _ _=bc cx c none (au cx (av cx.P fn) []) _
 rw [← this]
 rfl
theorem go_seq {a b:Code} (h:au cx K (.seq a :: .seq b::fs) .norm s=r):au cx K (.seq (.seq a b)::fs) .norm s=r:=by
 rw [← h]
 show bc cx a none _ s=bc cx a none (au cx K (.seq b::fs)) s
 congr 1
theorem go_block {id:Nat} {a:Code} (h:au cx K (.seq a :: .block id::fs) .norm s=r):au cx K (.seq (.block id a)::fs) .norm s=r:=by
 rw [← h]
 show bc cx a none _ s=bc cx a none (au cx K (.block id::fs)) s
 congr 1
theorem go_scope {a:Code} (h:au cx K (.seq a :: .scope a::fs) .norm s=r):au cx K (.seq (.scope a)::fs) .norm s=r:=by
 rw [← h]
 show bc cx a none _ s=bc cx a none (au cx K (.scope a::fs)) s
 congr 1
theorem go_ret (h:au cx K fs .ret s=r):au cx K (.seq .ret::fs) .norm s=r:=h
theorem xx {a:Code} {l:Nat} (hl:bA l a=false) (h:au cx K fs (.goto l) s=r):au cx K (.scope a::fs) (.goto l) s=r:=by
 rw [← h]
 simp only [au]
 rw [hl]
 rfl
theorem xd {a:Code} {l:Nat} (hl:bA l a=false) (h:au cx K fs (.goto l) s=r):au cx K (.scope2 a::fs) (.goto l) s=r:=by
 rw [← h]
 simp only [au]
 rw [hl]
 rfl
def rN (cx:Cx) (K:Out→St→Res) (c:Code) (l:Nat) (fs:List Fr) (s:St):Res:=bc cx c (some l) (au cx K fs) s
theorem CI {a:Code} {l:Nat} (hl:bA l a=true) (h:rN cx K a l (.scope2 a::fs) s=r):au cx K (.scope a::fs) (.goto l) s=r:=by
 rw [← h]
 simp only [au]
 rw [hl]
 simp only [if_true,rN]
 congr 1
theorem RO {a b:Code} {l:Nat} (hl:bA l a=true) (h:rN cx K a l (.seq b::fs) s=r):rN cx K (.seq a b) l fs s=r:=by
 rw [← h]
 simp only [rN,bc,hl,if_true]
 congr 1
theorem NK {a b:Code} {l:Nat} (hl:bA l a=false) (h:rN cx K b l fs s=r):rN cx K (.seq a b) l fs s=r:=by
 rw [← h]
 simp [rN,bc,hl]
theorem go_cond {c:Operand} {a b:Code} {v:V} {A B:Res} (hc:evO s.env c=some v) (hA:au cx K (.seq a::fs) .norm s=A) (hB:au cx K (.seq b::fs) .norm s=B) :
  au cx K (.seq (.cond c a b)::fs) .norm s=cnd v A B:=by
 rw [← hA,← hB]
 show bc cx (.cond c a b) none (au cx K fs) s=_
 simp only [bc,hc]
 cases v with
 | lit x=>cases x <;> rfl
 | _=>rfl
theorem go_reg0 {id:Nat} {ops:Array Oper} (h:dv cx (.region id ops false) 0 s.H.length ([],[]) (au cx K fs) s=r):au cx K (.seq (.region id ops false)::fs) .norm s=r:=by
 rw [← h]
 show bc cx (.region id ops false) none (au cx K fs) s=_
 simp [bc,dv,gT,Cr,i9]
theorem go_reg1 {id:Nat} {ops:Array Oper} (hok:wz ops=true) (h:dv cx (.region id ops true) 0 s.H.length ([],[]) (au cx K fs) s=r):au cx K (.seq (.region id ops true)::fs) .norm s=r:=by
 rw [← h]
 show bc cx (.region id ops true) none (au cx K fs) s=_
 simp [bc,dv,gT,Cr,i9,hok]
section ops
variable {id j n0:Nat} {ops:Array Oper} {a:List Nat×List Nat} {env:List V} {H:Hp} {o:Oper} {i:Nat} {L:List Nat}
theorem Z0 (hL:xr ops=L) (hj:L[j]? = some i) (ho:ops.toList[i]? = some o):(aw ops).drop j=(o,i)::(aw ops).drop (j+1):=by
 subst hL
 simp only [xr,List.getElem?_map,Option.map_eq_some_iff] at hj
 obtain ⟨p,hp,rfl⟩:=hj
 have hm:p ∈ aw ops:=List.mem_of_getElem? hp
 have hz:p ∈ ops.toList.zipIdx:=by
  simp only [aw,List.mem_append,List.mem_filter] at hm
  rcases hm with h | h <;> exact h.1
 have hx:ops.toList[p.2]? = some p.1:=by
  obtain ⟨x,k⟩:=p
  simpa [List.mem_zipIdx_iff_getElem?] using hz
 rw [hx] at ho
 cases ho
 rw [List.getElem?_eq_some_iff] at hp
 obtain ⟨hj,he⟩:=hp
 rw [List.drop_eq_getElem_cons hj,he]
def sx (n0:Nat) (st:Bool) (op:Op) (env:List V) (x:Res):Res:=if dp n0 st op env then x else none
theorem aab {st:Bool} {op:Op} {x:Res} (hst:st=false) (h:x=r):sx n0 st op env x=r:=by
 subst hst
 simpa [sx,dp] using h
theorem go_op1 (hL:xr ops=L) (ha:(na ops).any=false) (hj:L[j]? = some i) (ho:ops.toList[i]? = some o) (hg:o.guard=none)
  (h:sx n0 ((na ops).strict i) o.op env ((opV cx ((na ops).calm i) ((na ops).ord i) o.op env H).bind (fun p=>dv cx (.region id ops true) (j+1) n0 a K ⟨kC env o.dst p.1,p.2⟩))=r):dv cx (.region id ops true) j n0 a K ⟨env,H⟩=r:=by
 rw [← h]
 simp only [dv,gT,Cr,i9,if_true,Z0 hL hj ho]
 simp only [wo,hg]
 simp [EF,ha,sx]
variable {gj d:Nat} {v:V} {A B C:Res}
end ops
theorem abJ {X:Option (V×Hp)} {F:V×Hp→Res} {v:V} {H:Hp} (h1:X=some (v,H)) (h2:F (v,H)=r):X.bind F=r:=by
 subst h1
 exact h2
theorem K3 {c:Code} {n0 n:Nat} (h:au cx (eD cx c n0 K n) [.seq c] .norm s=r):itX cx c n0 K (n+1) s=r:=by
 rw [← h]
 show bc cx c none _ s=bc cx c none (au cx (eD cx c n0 K n) []) s
 congr 1
end steps
end Go.Ab
namespace Go.Ab
section combinators
variable {H:Hp} {K:V→Hp→Res} {k:Hp→Res} {A B C:Res}
@[congr] theorem ZA {x y:Option V} (h:x=y):bm x H K=bm y H K:=by rw [h]
@[congr] theorem ZH {x y:Option (V×Hp)} (h:x=y):bp x K=bp y K:=by rw [h]
@[congr] theorem Zx {x y:Option Hp} (h:x=y):bs x k=bs y k:=by rw [h]
@[congr] theorem Vw {x y:V} (h:x=y):cnd x A B=cnd y A B:=by rw [h]
@[congr] theorem Zm {x y:V} (h:x=y):gd x A B C=gd y A B C:=by rw [h]
def ob {α β:Type} (x:Option α) (k:α→Option β):Option β:=x.bind k
def ck {β:Type} (c:Bool) (k:Option β):Option β:=bif c then k else none
theorem QG {v:V}:bm (some v) H K=K v H:=rfl
theorem RQ:bm none H K=none:=rfl
theorem TM {v:V} {h:Hp}:bp (some (v,h)) K=K v h:=rfl
theorem Ql:bp none K=none:=rfl
theorem TP {h:Hp}:bs (some h) k=k h:=rfl
theorem Te:bs none k=none:=rfl
theorem Ux {α:Type} {x:Option α} {f:α→V}:bm (x.map f) H K=ob x fun a=>K (f a) H:=by cases x <;> rfl
theorem Sm {α:Type} {x:Option α} {f:α→Option V}:bm (x.bind f) H K=ob x fun a=>bm (f a) H K:=by cases x <;> rfl
theorem W7 {α:Type} {x:Option α} {f:α→V×Hp}:bp (x.map f) K=ob x fun a=>K (f a).1 (f a).2:=by cases x <;> rfl
theorem Q5 {α:Type} {x:Option α} {f:α→Option (V×Hp)}:bp (x.bind f) K=ob x fun a=>bp (f a) K:=by cases x <;> rfl
theorem Ys {α:Type} {x:Option α} {f:α→Hp}:bs (x.map f) k=ob x fun a=>k (f a):=by cases x <;> rfl
theorem RL {α:Type} {x:Option α} {f:α→Option Hp}:bs (x.bind f) k=ob x fun a=>bs (f a) k:=by cases x <;> rfl
theorem YA {c:Bool} {x:Option V}:bm (bif c then x else none) H K=ck c (bm x H K):=by cases c <;> rfl
theorem X6 {c:Bool} {x:Option (V×Hp)}:bp (bif c then x else none) K=ck c (bp x K):=by cases c <;> rfl
theorem YJ {c:Bool} {x:Option Hp}:bs (bif c then x else none) k=ck c (bs x k):=by cases c <;> rfl
theorem ac8 {t:Bool}:cnd (.lit (.bool t)) A B=bif t then A else B:=rfl
theorem aeV {t:Bool}:gd (.lit (.bool t)) A B C=bif t then A else B:=rfl
theorem ae4:gd uu A B C=C:=rfl
theorem dF {β:Type} {A:Option β}:ck true A=A:=rfl
theorem oG {β:Type} {A:Option β}:ck false A=none:=rfl
theorem ae {α β:Type} {a:α} {f:α→Option β}:ob (some a) f=f a:=rfl
theorem Q3 {α β:Type} {f:α→Option β}:ob none f=none:=rfl
end combinators
def idx {α:Type} (l:List α) (i:Int):Option α:=if 0≤i then l[i.toNat]? else none
theorem TO {α:Type} (l:List α) (i:Nat):idx l (i:Int)=l[i]? := by simp [idx]
section ops
variable {P:Program} {t:TypeId} {k k':IntKind} {a b:Int} {x y:V}
theorem Lq:aq P .add t (.lit (.int k a)) (.lit (.int k b))=some (.lit (.int k (k.wrap (a+b)))):=by simp [aq,dH]
theorem L6:aq P .sub t (.lit (.int k a)) (.lit (.int k b))=some (.lit (.int k (k.wrap (a - b)))):=by simp [aq,dH]
theorem Ls:aq P .mul t (.lit (.int k a)) (.lit (.int k b))=some (.lit (.int k (k.wrap (a*b)))):=by simp [aq,dH]
theorem M0:aq P .eql t (.lit (.int k a)) (.lit (.int k b))=some (.lit (.bool (a==b))):=by simp [aq,dH]
theorem NO : aq P .neq t (.lit (.int k a)) (.lit (.int k b)) = some (.lit (.bool (a != b))) := by simp [aq, dH]
theorem KL:aq P .lss t (.lit (.int k a)) (.lit (.int k b))=some (.lit (.bool (decide (a<b)))):=by simp [aq,dH]
theorem LK:aq P .leq t (.lit (.int k a)) (.lit (.int k b))=some (.lit (.bool (decide (a≤b)))):=by simp [aq,dH]
theorem MK:aq P .gtr t (.lit (.int k a)) (.lit (.int k b))=some (.lit (.bool (decide (b<a)))):=by simp [aq,dH]
theorem ND:aq P .geq t (.lit (.int k a)) (.lit (.int k b))=some (.lit (.bool (decide (b≤a)))):=by simp [aq,dH]
theorem K4 : aq P .quo t (.lit (.int k a)) (.lit (.int k b)) = bif b != 0 then some (.lit (.int k (k.wrap (a.tdiv b)))) else none := by
  by_cases h : b = 0
  · simp [aq, dH, h]
  · simp [aq, dH, h, (bne_iff_ne).2 h]
theorem Mp : aq P .rem t (.lit (.int k a)) (.lit (.int k b)) = bif b != 0 then some (.lit (.int k (a.tmod b))) else none := by
  by_cases h : b = 0
  · simp [aq, dH, h]
  · simp [aq, dH, h, (bne_iff_ne).2 h]
theorem HA {p q:Bool} (h:mn P t=true):aq P .eql t (.lit (.bool p)) (.lit (.bool q))=some (.lit (.bool (p==q))):=by simp [aq,h]
theorem Ju {p q:Bool} (h:mn P t=true):aq P .neq t (.lit (.bool p)) (.lit (.bool q))=some (.lit (.bool (!(p==q)))):=by simp [aq,h]
theorem Sb {p:Bool}:vUn .not (.lit (.bool p))=some (.lit (.bool !p)):=rfl
theorem P6:vUn .neg (.lit (.int k a))=some (.lit (.int k (k.wrap (0 - a)))):=rfl
theorem SI {p:Bool}:aO (.lit (.bool p)) x y=some (bif p then x else y):=rfl
theorem GC {l:List V}:ao (.tup (x::l)) 0=some x:=rfl
theorem FH {l:List V}:ao (.tup (x::y::l)) 1=some y:=rfl
theorem Gn {z:V} {l:List V}:ao (.tup (x::y::z::l)) 2=some z:=rfl
end ops
def aQ (k:IntKind) (n:Int):List V:=[.lit (.int k n)]
def kS (b:Bool):List V:=[.lit (.bool b)]
section mem
variable {P:Program} {t:TypeId} {H:Hp} {wl:Nat}
theorem Mz {cs:List V}:ab P t (.rp cs) H=aP P t cs:=rfl
def ldB (P:Program) (t:TypeId) (g row off:Nat):Option B→Option V
 | some (.box cs)=>bif g==0&&row==0 then aP P t (cs.drop off) else none
 | some (.rows _ rs g' _)=>bif g==g' then (rs[row]?).bind fun r=>aP P t (r.drop off) else none
 | _=>none
theorem Hu {id g row off:Nat}:ab P t (.ptr id g row off) H=ldB P t g row off (H[id]?):=by
 unfold ab ldB
 dsimp only
 generalize H[id]? = b0
 cases b0 with
 | none=>rfl
 | some b=>cases b <;> simp [Bool.cond_eq_ite]
theorem P1 {off:Nat} {cs:List V}:ldB P t 0 0 off (some (.box cs))=aP P t (cs.drop off):=rfl
theorem N6 {α:Type} {l:List α} {enc:α→List V} {g row off e:Nat} {lv:Bool} :
  ldB P t g row off (some (.rows e (l.map enc) g lv))=(l[row]?).bind fun x=>aP P t ((enc x).drop off):=by
 simp [ldB]
 cases l[row]? <;> rfl
def VU (P : Program) (wl : Nat) (t : TypeId) (id g row off : Nat) (vs : List V) (H : Hp) : Option B → Option Hp
  | some (.box cs) =>
    bif g == 0 && row == 0 && aM P t != 0 && vs.length == aM P t && decide (off + vs.length ≤ cs.length) then
      some ((bx vs H).2.set id (.box (spl cs off (bx vs H).1)))
    else none
  | some (.rows _ _ _ _) => (fzL wl true vs H).bind fun p =>
    match p.2[id]? with
    | some (.rows e rs g' true) =>
      bif g == g' && aM P t != 0 && vs.length == aM P t then
        (rs[row]?).bind fun r => bif decide (off + p.1.length ≤ r.length) then some (p.2.set id (.rows e (rs.set row (spl r off p.1)) g' true)) else none
      else none
    | _ => none
  | _ => none
theorem GN {id g row off : Nat} {v : V} : aj P wl t (.ptr id g row off) v H = (v.cells).bind fun vs => bif Nat.ble wl id then VU P wl t id g row off vs H (H[id]?) else none := by
  unfold aj
  cases hv : v.cells with
  | none => simp
  | some vs =>
    simp only [Option.bind_some]
    cases hw : Nat.ble wl id with
    | false => simp
    | true =>
      simp only [if_true, cond_true]
      unfold VU
      generalize H[id]? = b0
      cases b0 with
      | none => rfl
      | some b =>
        cases b with
        | box cs => simp only [Bool.cond_eq_ite, Bool.and_eq_true, beq_iff_eq, bne_iff_ne, decide_eq_true_eq, and_assoc]
        | rows e rs g' lv =>
          simp only
          congr 1
          funext p
          generalize p.2[id]? = b1
          cases b1 with
          | none => rfl
          | some b => 
            cases b with
            | rows e rs g' lv => cases lv <;> simp [Bool.cond_eq_ite, and_assoc]
            | _ => rfl
        | _ => rfl
theorem bN {α : Type} {l : List α} {enc : α → List V} {e : TypeId} {k : IntKind} {n : Int} (hu : P.underlying t = some (.slice e)) (hs : ∀ x, (enc x).length = aM P e) (hz : (aM P e != 0) = true) :
    ai P t (.ro (l.map enc)) (.lit (.int k n)) H = (idx l n).map fun x => .rp (enc x) := by
  have hz' : aM P e ≠ 0 := by simpa using hz
  unfold ai idx
  simp only [hu]
  split
  · cases hl : l[n.toNat]? with
    | none => simp [hl]
    | some x => simp [hl, hs, hz']
  · rfl
def ixB (sz g len id:Nat) (n:Int):Option B→Option V
 | some (.rows s _ g' _)=>bif g==g'&&s==sz then bif decide (0≤n∧n.toNat<len) then some (.ptr id g n.toNat 0) else none else none
 | _=>none
theorem bd {id g len : Nat} {e : TypeId} {k : IntKind} {n : Int} (hu : P.underlying t = some (.slice e)) (hz : (aM P e != 0) = true) :
    ai P t (.own id g len) (.lit (.int k n)) H = ixB (aM P e) g len id n (H[id]?) := by
  have hz' : aM P e ≠ 0 := by simpa using hz
  unfold ai ixB
  simp only [hu]
  by_cases hn : 0 ≤ n
  · simp only [hn, if_true, true_and]
    generalize H[id]? = b0
    cases b0 with
    | none => rfl
    | some b =>
      cases b with
      | rows s rs g' lv =>
        simp only [hz', ne_eq, not_false_eq_true, and_true, Bool.cond_eq_ite, Bool.and_eq_true, beq_iff_eq, decide_eq_true_eq]
      | _ => rfl
  · simp only [hn, if_false, false_and, decide_false]
    generalize H[id]? = b0
    cases b0 with
    | none => rfl
    | some b =>
      cases b with
      | rows s rs g' lv => simp
      | _ => rfl
theorem Ko {sz g len id:Nat} {n:Int} {rs:List (List V)} {lv:Bool}:ixB sz g len id n (some (.rows sz rs g lv))=bif decide (0≤n∧n.toNat<len) then some (.ptr id g n.toNat 0) else none:=by
 simp [ixB]
theorem RI {rows:List (List V)}:oH (.ro rows) H=some (.lit (.int .i64 rows.length)):=rfl
theorem L1:oH .nil H=some (.lit (.int .i64 0)):=rfl
def lnB (g len:Nat):Option B→Option V
 | some (.rows _ _ g' _)=>bif g==g' then some (.lit (.int .i64 len)) else none
 | _=>none
theorem Nd {id g len:Nat}:oH (.own id g len) H=lnB g len (H[id]?):=by
 unfold oH lnB
 dsimp only
 generalize H[id]? = b0
 cases b0 with
 | none=>rfl
 | some b=>cases b <;> simp [Bool.cond_eq_ite]
theorem NJ {g len e:Nat} {rs:List (List V)} {lv:Bool}:lnB g len (some (.rows e rs g lv))=some (.lit (.int .i64 len)):=by simp [lnB]
theorem BZ {v:Value} (h:v.oneCell'=true):aJ (.lit v) H=some (.ptr H.length 0 0 0,H++[.box [.lit v]]):=by
 simp [aJ,V.cells,V.one,h,bx]
theorem IN {k:IntKind} {n:Int}:aJ (.lit (.int k n)) H=some (.ptr H.length 0 0 0,H++[.box [.lit (.int k n)]]):=BZ rfl
theorem F0 {b:Bool}:aJ (.lit (.bool b)) H=some (.ptr H.length 0 0 0,H++[.box [.lit (.bool b)]]):=BZ rfl
theorem Mf {r:List (List V)}:aJ (.ro r) H=some (.ptr H.length 0 0 0,H++[.box [.ro r]]):=by simp [aJ,V.cells,V.one,bx]
theorem IH {l:List V}:aJ (.agg l) H=some (.ptr (bx l H).2.length 0 0 0,(bx l H).2++[.box (bx l H).1]):=by simp [aJ,V.cells]
theorem M3:bx [] H=([],H):=rfl
theorem Nn {v:Value} {l:List V}:bx (.lit v::l) H=(.lit v::(bx l H).1,(bx l H).2):=rfl
theorem QC {r:List (List V)} {l:List V}:bx (.ro r::l) H=(.ro r::(bx l H).1,(bx l H).2):=rfl
theorem LY {i g n:Nat} {l:List V}:bx (.own i g n::l) H=(.own i g n::(bx l H).1,(bx l H).2):=rfl
theorem KV {i g n o:Nat} {l:List V}:bx (.ptr i g n o::l) H=(.ptr i g n o::(bx l H).1,(bx l H).2):=rfl
theorem Tv {f:Fn} {a b l:List V}:bx (.fn f a b::l) H=(.fn f a b::(bx l H).1,(bx l H).2):=rfl
theorem J3 {l:List V}:bx (.nil::l) H=(.own H.length 0 0::(bx l (H++[.rows 0 [] 0 true])).1,(bx l (H++[.rows 0 [] 0 true])).2):=rfl
theorem BI {v:Value} (h:v.oneCell'=true):V.cells (.lit v)=some [.lit v]:=by simp [V.cells,V.one,h]
theorem Ix {k:IntKind} {n:Int}:V.cells (.lit (.int k n))=some [.lit (.int k n)]:=BI rfl
theorem FC {b:Bool}:V.cells (.lit (.bool b))=some [.lit (.bool b)]:=BI rfl
theorem Mg {r:List (List V)}:V.cells (.ro r)=some [.ro r]:=rfl
theorem Jm {i g n:Nat}:V.cells (.own i g n)=some [.own i g n]:=rfl
theorem HL {i g n o:Nat}:V.cells (.ptr i g n o)=some [.ptr i g n o]:=rfl
theorem LX {f:Fn} {a b:List V}:V.cells (.fn f a b)=some [.fn f a b]:=rfl
theorem IT:V.cells .nil=some [.nil]:=rfl
theorem Ic {l:List V}:V.cells (.agg l)=some l:=rfl
theorem Nv {id g row off:Nat}:aL (.ptr id g row off) H=(match H[id]? with
  | some (.box _)=>bif g==0 then some (.ptr id g row off) else none
  | some (.rows _ _ g' _)=>bif g==g' then some (.ptr id g row off) else none
  | _=>none):=by
 unfold aL
 dsimp only
 generalize H[id]? = b0
 cases b0 with
 | none=>rfl
 | some b=>cases b <;> simp [Bool.cond_eq_ite]
theorem T3 {f:FuncId} {a b:List V}:aL (.fn (.func f) a b) H=some (.fn (.func f) a b):=rfl
theorem SU {c:List V}:aL (.rp c) H=some (.rp c):=rfl
theorem HC {cx:Cx} {c:Code} {n0:Nat} {K:Out→St→Res} {n:Nat} {s:St}:eD cx c n0 K n .ret s=K .ret s:=rfl
theorem Vc {v:V}:er [some v] H=some (v,H):=rfl
theorem Xc {v w:V}:er [some v,some w] H=some (.tup [v,w],H):=rfl
theorem XR {v w x:V}:er [some v,some w,some x] H=some (.tup [v,w,x],H):=rfl
end mem
end Go.Ab
namespace Go.Ab
mutual
def V.data:V→Bool
 | .lit _=>true
 | .ro _=>true
 | .nil=>true
 | .agg cs=>gz cs
 | .fn _ a b=>Iq a&&Iq b
 | _=>false
def Iq:List V→Bool
 | []=>true
 | v::vs=>v.data&&Iq vs
def gz:List V→Bool
 | []=>true
 | .lit _::vs=>gz vs
 | .ro _::vs=>gz vs
 | _::_=>false
end
theorem ig:∀ {l:List V},gz l=true→bl l=true
 | [],_=>rfl
 | .lit _::vs,h=>by
  have:=ig (l:=vs) (by simpa [gz] using h)
  simp [bl,V.pure,this]
 | .ro _::vs,h=>by
  have:=ig (l:=vs) (by simpa [gz] using h)
  simp [bl,V.pure,this]
 | .nil::_,h | .any::_,h | .junk::_,h | .agg _::_,h | .tup _::_,h | .fn .. :: _,h | .yld _::_,h | .rp _::_,h | .ptr .. :: _,h | .own .. :: _,h | .map _::_,h=>by simp [gz] at h
mutual
theorem Hb:∀ {v:V},v.data=true→v.pure=true
 | .lit _,_ | .ro _,_ | .nil,_=>rfl
 | .agg cs,h=>ig h
 | .fn _ a b,h=>by
  simp [V.data] at h
  simp [V.pure,nK h.1,nK h.2]
 | .any,h | .junk,h | .tup _,h | .yld _,h | .rp _,h | .ptr ..,h | .own ..,h | .map _,h=>by simp [V.data] at h
theorem nK:∀ {l:List V},Iq l=true→bl l=true
 | [],_=>rfl
 | v::vs,h=>by
  simp [Iq] at h
  simp [bl,Hb h.1,nK h.2]
end
def mr (cx:Cx) (g:FuncId) (args:List V):Option (V×Hp):=(cx.call 0 g args []).bind fun p=>kq (cx.M.keepRes cx.fid g) p.1 p.2
section ret
variable {H:Hp}
theorem L8 {v:Value} {h:Hp}:kq none (.lit v) h=some (.lit v,[]):=rfl
def fzB (wl id g len:Nat) (H:Hp):Option B→Option (V×Hp)
 | some (.rows e rs g' _)=>bif g==g'&&decide (len≤rs.length)&&(cz rs&&Nat.ble wl id) then some (.ro (rs.take len),H.set id (.rows e rs g' false)) else none
 | _=>none
theorem nL {wl id g len:Nat}:fzC wl (.own id g len) H=fzB wl id g len H (H[id]?):=by
 unfold fzC fzB
 dsimp only
 generalize H[id]? = b
 cases b with
 | none=>rfl
 | some b=>
  cases b with
  | rows e rs g' lv=>
   by_cases h1:g=g'
   ·by_cases h2:len≤rs.length <;> cases h3:(cz rs&&Nat.ble wl id) <;> simp [h1,h2]
   ·simp [h1,beq_false_of_ne h1]
  | _=>rfl
theorem Na {α:Type} {l:List α} {enc:α→List V} {wl id g e len:Nat} {lv:Bool} (hl:len=l.length) (hp:∀ x,bl (enc x)=true) (hw:Nat.ble wl id=true) :
  fzB wl id g len H (some (.rows e (l.map enc) g lv))=some (.ro (l.map enc),H.set id (.rows e (l.map enc) g false)):=by
 subst hl
 have h1:cz (l.map enc)=true:=by
  rw [cz,List.all_eq_true]
  intro r hr
  obtain ⟨x,_,rfl⟩:=List.mem_map.1 hr
  exact hp x
 have h2:(l.map enc).take l.length=l.map enc:=by rw [List.take_of_length_le];simp
 simp [fzB,h1,hw,h2]
theorem LZ {α:Type} {l:List α} {enc:α→List V} {id g e len:Nat} {lv:Bool} {h:Hp} (hb:h[id]? = some (.rows e (l.map enc) g lv)) (hl:len=l.length) (hp:∀ x,bl (enc x)=true) :
  kq none (.own id g len) h=some (.ro (l.map enc),[]):=by
 simp only [kq,fzR,A1,fzA,nL,hb,Na hl hp (by simp:Nat.ble 0 id=true),Option.bind_some,V.pure,if_true]
end ret
section app
variable {P:Program} {wl:Nat} {t:TypeId} {H:Hp}
theorem Ah {r:List (List V)}:bE (.ro r) H=some r:=rfl
theorem FS:bE .nil H=some []:=rfl
def roB (g len:Nat):Option B→Option (List (List V))
 | some (.rows _ rs g' _)=>bif g==g'&&decide (len≤rs.length) then some (rs.take len) else none
 | _=>none
theorem FN {id g len:Nat}:bE (.own id g len) H=roB g len (H[id]?):=by
 unfold bE roB
 dsimp only
 generalize H[id]? = b
 cases b with
 | none=>rfl
 | some b=>cases b <;> simp [Bool.cond_eq_ite]
def apB (wl _e:Nat) (sz bytes id g len:Nat) (xs:List (List V)) (H:Hp):Option B→Option (V×Hp)
 | some (.rows s rs g' live)=>
  bif Nat.ble wl id&&(g==g')&&decide (len≤rs.length)&&(live||len==rs.length)&&(s==sz||s==0)&&decide ((len+xs.length)*bytes≤70368744177664) then
   some (.own id (g+1) (len+xs.length),H.set id (.rows sz (rs.take len++xs) (g+1) live)) else none
 | _=>none
theorem cV {e:TypeId} {id g len:Nat} {x:V} (he:gX P t=some e) (hg:C4 P e=true) :
  a9 P wl t (.own id g len) x H=(bE x H).bind fun xs=>bif bG (aM P e) xs then apB wl e (aM P e) (P.bytesOf e) id g len xs H (H[id]?) else none:=by
 unfold a9
 simp only [he]
 cases hr:bE x H with
 | none=>rfl
 | some xs=>
  simp only [Option.bind_some,hg,Bool.and_true]
  cases bG (aM P e) xs with
  | false=>rfl
  | true=>
   simp only [if_true,cond_true,apB]
   generalize H[id]? = b
   cases b with
   | none=>rfl
   | some b=>
    cases b with
    | rows s rs g' lv=>simp [Bool.cond_eq_ite,and_assoc]
    | _=>rfl
theorem cW {e:TypeId} {x:V} (he:gX P t=some e) (hg:C4 P e=true) :
  a9 P wl t .nil x H=(bE x H).bind fun xs=>bif bG (aM P e) xs then bif decide (xs.length*P.bytesOf e≤70368744177664) then some (.own H.length 0 xs.length,H++[.rows (aM P e) xs 0 true]) else none else none:=by
 unfold a9
 simp only [he]
 cases hr:bE x H with
 | none=>rfl
 | some xs=>
  simp only [Option.bind_some,hg,Bool.and_true]
  cases bG (aM P e) xs with
  | false=>rfl
  | true=>simp [Bool.cond_eq_ite]
theorem dE {α:Type} {l:List α} {enc:α→List V} {sz:Nat} (h:∀ x,(enc x).length=sz):bG sz (l.map enc)=true:=by
 rw [bG,List.all_eq_true]
 intro r hr
 obtain ⟨x,_,rfl⟩:=List.mem_map.1 hr
 simp [h]
def room (n bytes:Nat):Bool:=decide (n*bytes≤70368744177664)
theorem xc {e : TypeId} {n : Int} {z : Value} {Z : List V} (he : gX P t = some e) (hz : ef P e = some z) (hZ : ba.fzZ (bK z) = Z) (ho : (be (bK z) && (bK z).length == aM P e && aM P e != 0) = true) :
    ba P t (.lit (.int .i64 n)) (.lit (.int .i64 n)) H = bif decide (0 ≤ n ∧ n ≤ 9223372036854775807 ∧ n * P.bytesOf e ≤ 70368744177664) then some (.own H.length 0 n.toNat, H ++ [.rows (aM P e) (List.replicate n.toNat Z) 0 true]) else none := by
  unfold ba
  simp only [he, hz, ho, if_true, hZ, true_and, Bool.cond_eq_ite, decide_eq_true_eq]
end app
theorem eX {α:Type} {l:List α} {enc:α→List V} {n:Nat} (hp:∀ x,bl (enc x)=true):kj n (l.map enc)=l.map enc:=by
 have h1:cz (l.map enc)=true:=by
  rw [cz,List.all_eq_true]
  intro r hr
  obtain ⟨x,_,rfl⟩:=List.mem_map.1 hr
  exact hp x
 simp [kj,h1]
theorem d8 {α:Type} {l:List α} {enc:α→List V} {n:Nat} (hp:∀ x,bl (enc x)=true):gp n (l.map enc)=l.map enc:=by
 have h1:cz (l.map enc)=true:=by
  rw [cz,List.all_eq_true]
  intro r hr
  obtain ⟨x,_,rfl⟩:=List.mem_map.1 hr
  exact hp x
 simp [gp,h1]
theorem Gw {n:Nat}:gp n []=[]:=rfl
theorem H5 {n:Nat}:kj n []=[]:=rfl
theorem rC (k:IntKind) (x:Int):bl (aQ k x)=true:=rfl
theorem nu (x:Bool):bl (kS x)=true:=rfl
theorem i5 (x:Int×List Int):bl (aA x)=true:=rfl
theorem ma (x:Int×Int×Int):bl (aE x)=true:=rfl
theorem Il {k:IntKind} {l:List Int} {n:Nat}:kj n (l.map (aQ k))=l.map (aQ k):=eX (rC k)
theorem FO {l:List Bool} {n:Nat}:kj n (l.map kS)=l.map kS:=eX nu
theorem Ft {l:Tyt} {n:Nat}:kj n (l.map aA)=l.map aA:=eX i5
theorem CZ {l:Tye} {n:Nat}:kj n (l.map aE)=l.map aE:=eX ma
theorem FZ {k:IntKind} {l:List Int} {n:Nat}:gp n (l.map (aQ k))=l.map (aQ k):=d8 (rC k)
theorem CV {l:List Bool} {n:Nat}:gp n (l.map kS)=l.map kS:=d8 nu
theorem Cc {l:Tyt} {n:Nat}:gp n (l.map aA)=l.map aA:=d8 i5
theorem Au {l:Tye} {n:Nat}:gp n (l.map aE)=l.map aE:=d8 ma
theorem FD {n:Nat} {cs:List V}:B.shift n (.box cs) = .box (gN n cs):=rfl
theorem Cm {n e g:Nat} {rs:List (List V)} {l:Bool}:B.shift n (.rows e rs g l) = .rows e (gp n rs) g l:=rfl
theorem IJ {n:Nat} {cs:List V}:B.kill n (.box cs) = .box (ik n cs):=rfl
theorem GM {n e g:Nat} {rs:List (List V)} {l:Bool}:B.kill n (.rows e rs g l) = .rows e (kj n rs) g l:=rfl
theorem GF {n:Nat}:B.kill n .dead = .dead:=rfl
theorem Jy {l:List Bool} {i:Nat} {b:Bool}:(l.map kS).set i [.lit (.bool b)]=(l.set i b).map kS:=by rw [List.map_set];rfl
theorem K6 {k:IntKind} {l:List Int} {i:Nat} {b:Int}:(l.map (aQ k)).set i [.lit (.int k b)]=(l.set i b).map (aQ k):=by rw [List.map_set];rfl
theorem HI {n:Nat} {b:Bool}:List.replicate n [V.lit (.bool b)]=(List.replicate n b).map kS:=by rw [List.map_replicate];rfl
theorem MU {k:IntKind} {n:Nat} {b:Int}:List.replicate n [V.lit (.int k b)]=(List.replicate n b).map (aQ k):=by rw [List.map_replicate];rfl
theorem MJ {α:Type} {l:List α} {f:α→List V} {i:Nat}:(l.map f)[i]? = (l[i]?).map f:=List.getElem?_map
theorem aeL {n:Nat}:Nat.ble 0 n=true:=by cases n <;> rfl
theorem Nw (x:Int×List Int):aA x=[.lit (.int .i64 x.1),.ro (x.2.map (aQ .i64))]:=rfl
theorem JL {keep:Option (Nat→Bool)} {v:Value} {h:Hp}:kq keep (.lit v) h=some (.lit v,[]):=by
 cases keep <;> rfl
theorem Mx {keep:Option (Nat→Bool)} {r:List (List V)} {h:Hp}:kq keep (.ro r) h=some (.ro r,[]):=by
 cases keep <;> rfl
theorem Hy {z:Int} (h1 : -9223372036854775808≤z) (h2:z≤9223372036854775807):IntKind.i64.wrap z=z:=by
 simp [IntKind.wrap,IntKind.bits,IntKind.signed]
 omega
end Go.Ab
namespace Go.Ab
def bdK (id n:Nat):Out→St→Res:=fun o s=>match s.H[id]? with
 | some (.loop l)=>some (.lit (.bool (dc o).isNone),bY n (s.H.set id (.loop { l with st:=if (dc o).isNone then .ready else .done,pending:=dc o })))
 | _=>none
def asK (cx:Cx) (id n:Nat) (body:Code):Out→St→Res:=fun o s=>match o with
 | .norm=>match s.H[id]? with
  | some (.loop l)=>if l.st = .ready then au cx (bdK id n) [.seq body] .norm ⟨s.env,s.H.set id (.loop { l with st := .busy })⟩ else none
  | _=>none
 | _=>none
def rfK (K:Out→St→Res) (env:List V) (n:Nat) (p:V×Hp):Res:=
 match p.2[n]? with
 | some (.loop l)=>if l.st = .busy then none else
  match l.pending with
  | none=>K .norm ⟨env,bY n p.2⟩
  | some .ret=>K .ret ⟨env,bY n p.2⟩
  | some (.exit id)=>K (.exit id) ⟨env,bY n p.2⟩
  | some (.goto id)=>K (.goto id) ⟨env,bY n p.2⟩
  | some _=>none
 | _=>none
def ON {σ α:Type} (step:σ→α→Bool×σ):List α→σ→Bool×σ
 | [],s=>(true,s)
 | x::r,s=>if (step s x).1 then ON step r (step s x).2 else step s x
end Go.Ab
namespace Go.Ab
theorem bT {α:Type} {l r:List α} {x:α} {i:Nat} (h:l.drop i=x::r):i<l.length∧l[i]? = some x∧l.drop (i+1)=r∧x ∈ l∧l.length=i+1+r.length:=by
 have h0:i<l.length:=by
  have:=congrArg List.length h
  simp at this
  omega
 have h1:l.drop i=l[i]::l.drop (i+1):=List.drop_eq_getElem_cons h0
 rw [h] at h1
 injection h1 with h2 h3
 refine ⟨h0,by rw [List.getElem?_eq_getElem h0,h2],h3.symm,h2 ▸ List.getElem_mem h0,?_⟩
 have:=congrArg List.length h
 simp at this
 omega
theorem cE {α:Type} {l:List α} {i:Nat} (h:l.drop i=[]):l.length≤i:=List.drop_eq_nil_iff.1 h
theorem eO {α:Type} {l:List α} {i:Nat} {x:α} (h:l[i]? = some x):idx l (i:Int)=some x:=by rw [TO,h]
theorem ltT {a b:Int} (h:a<b):decide (a<b)=true:=decide_eq_true h
theorem ltF {a b:Int} (h:b≤a):decide (a<b)=false:=decide_eq_false (by omega)
theorem leT {a b:Int} (h:a≤b):decide (a≤b)=true:=decide_eq_true h
theorem leF {a b:Int} (h:b<a):decide (a≤b)=false:=decide_eq_false (by omega)
theorem gD {k d:Nat} (h:d<k):∃ j,k=j+1:=⟨k - 1,by omega⟩
theorem gW {i:Nat} (h:i≤9223372036854775806):IntKind.i64.wrap ((i:Int)+1)=((i+1:Nat):Int):=by
 rw [Hy (by omega) (by omega)]
 omega
end Go.Ab
namespace Go.Ab
def LT {α:Type} (p:α→Bool):List α→Nat→Int
 | [],_ => -1
 | x::r,i=>if p x then (i:Int) else LT p r (i+1)
theorem pl {α:Type} (p:α→Bool):∀ (l:List α) (i:Nat),decide (0≤LT p l i)=l.any p
 | [],_=>rfl
 | x::r,i=>by
  by_cases h:p x=true
  ·simp [LT,h]
  ·simpa [LT,h] using pl p r (i+1)
end Go.Ab
namespace Go.Ab
theorem aeA {n:Nat} (h:n≤30):decide ((30:Int)<n)=false:=decide_eq_false (by omega)
end Go.Ab
namespace Go.Ab
theorem aeG {n:Nat} (h:30<n):decide ((30:Int)<n)=true:=decide_eq_true (by omega)
end Go.Ab
namespace Go.Ab
theorem Px {n:Nat}:decide ((n:Int)≤40)=decide (n≤40):=by
 by_cases h:n≤40
 ·rw [decide_eq_true h,decide_eq_true (by omega)]
 ·rw [decide_eq_false h,decide_eq_false (by omega)]
end Go.Ab
namespace Go.Ab
section one
variable {wl e sz bytes id g len s:Nat} {H:Hp} {lv:Bool}
theorem Hf {n b:Nat} (h:n*b≤70368744177664):room n b=true:=decide_eq_true h
end one
end Go.Ab
namespace Go.Ab
theorem dR {α:Type} {l:List α} {enc:α→List V} (hp:∀ x,bl (enc x)=true):cz (l.map enc)=true:=by
 rw [cz,List.all_eq_true]
 intro r hr
 obtain ⟨x,_,rfl⟩:=List.mem_map.1 hr
 exact hp x
theorem pu {k:IntKind} {l:List Int}:cz (l.map (aQ k))=true:=dR (rC k)
theorem F2 {l:Tyt}:cz (l.map aA)=true:=dR i5
theorem B9 {l:Tye}:cz (l.map aE)=true:=dR ma
theorem Ge {l:List Bool}:cz (l.map kS)=true:=dR nu
end Go.Ab
namespace Go.Ab
section slices
variable {P:Program} {wl:Nat} {c:Bool} {t e:TypeId} {α:Type} {l:List α} {enc:α→List V} {k k':IntKind} {n lo:Int} {H:Hp}
theorem wR (h:∀ x,(enc x).length=aM P e):(l.map enc).all (fun r=>r.length==aM P e)=true:=by
 rw [List.all_eq_true]
 intro r hr
 obtain ⟨x,_,rfl⟩:=List.mem_map.1 hr
 simp [h]
theorem mN (he : gX P t = some e) (hz : (aM P e != 0) = true) (h : ∀ x, (enc x).length = aM P e) :
    bP P wl c t (.ro (l.map enc)) none (some (.lit (.int k n))) none H = bif decide (0 ≤ n ∧ n ≤ l.length) then some (.ro ((l.take n.toNat).map enc), H) else none := by
  have hz' : aM P e ≠ 0 := by simpa using hz
  unfold bP
  simp only [he, bnd]
  by_cases h0 : 0 ≤ n
  · simp only [h0, if_true, Option.bind_some, true_and]
    by_cases h1 : n ≤ l.length
    · have h2 : n.toNat ≤ l.length := by omega
      simp [h1, h2, hz', wR h, List.map_take]
    · have h2 : ¬ n.toNat ≤ l.length := by omega
      simp [h1, h2]
  · simp [h0]
theorem mY (he : gX P t = some e) (hz : (aM P e != 0) = true) (h : ∀ x, (enc x).length = aM P e) :
    bP P wl c t (.ro (l.map enc)) (some (.lit (.int k n))) none none H = bif decide (0 ≤ n ∧ n ≤ l.length) then some (.ro ((l.drop n.toNat).map enc), H) else none := by
  have hz' : aM P e ≠ 0 := by simpa using hz
  unfold bP
  simp only [he, bnd]
  by_cases h0 : 0 ≤ n
  · simp only [h0, if_true, Option.bind_some, true_and]
    by_cases h1 : n ≤ l.length
    · have h2 : n.toNat ≤ l.length := by omega
      simp [h1, h2, hz', wR h, List.map_drop, List.take_of_length_le]
    · have h2 : ¬ n.toNat ≤ l.length := by omega
      simp [h1, h2]
  · simp [h0]
theorem kr (he : gX P t = some e) (hz : (aM P e != 0) = true) (h : ∀ x, (enc x).length = aM P e) :
    bP P wl c t (.ro (l.map enc)) (some (.lit (.int k lo))) (some (.lit (.int k' n))) none H = bif decide (0 ≤ lo ∧ lo ≤ n ∧ n ≤ l.length) then some (.ro (((l.take n.toNat).drop lo.toNat).map enc), H) else none := by
  have hz' : aM P e ≠ 0 := by simpa using hz
  unfold bP
  simp only [he, bnd]
  by_cases h0 : 0 ≤ lo
  · by_cases h3 : 0 ≤ n
    · simp only [h0, h3, if_true, Option.bind_some, true_and]
      by_cases h1 : n ≤ l.length
      · have h2 : n.toNat ≤ l.length := by omega
        by_cases h4 : lo ≤ n
        · have h5 : lo.toNat ≤ n.toNat := by omega
          simp [h1, h2, h4, h5, hz', wR h, List.map_take, List.map_drop]
        · have h5 : ¬ lo.toNat ≤ n.toNat := by omega
          simp [h4, h5]
      · have h2 : ¬ n.toNat ≤ l.length := by omega
        simp [h1, h2]
    · have : ¬ (0 ≤ lo ∧ lo ≤ n ∧ n ≤ (l.length : Int)) := by omega
      simp [h3, this]
  · simp [h0]
end slices
end Go.Ab
namespace Go.Ab
end Go.Ab
namespace Go.Ab
def bq {α β:Type} (x:Option α) (F:α→Option β):Option β:=x.bind F
@[congr] theorem ZJ {α β:Type} {x y:Option α} {F:α→Option β} (h:x=y):bq x F=bq y F:=by rw [h]
def sif {β:Type} (c:Bool) (a b:β):β:=bif c then a else b
@[congr] theorem Wl {β:Type} {c d:Bool} {a b:β} (h:c=d):sif c a b=sif d a b:=by rw [h]
theorem lx {β:Type} {a b:β}:sif true a b=a:=rfl
theorem kT {β:Type} {a b:β}:sif false a b=b:=rfl
section
variable {α β γ:Type}
theorem Uh {a:α} {F:α→Option β}:bq (some a) F=F a:=rfl
theorem TD {F:α→Option β}:bq none F=none:=rfl
theorem Qi {c:Bool} {x y:Option α} {F:α→Option β}:bq (bif c then x else y) F=bif c then bq x F else bq y F:=by cases c <;> rfl
theorem aaF {x:Option γ} {f:γ→Option α} {F:α→Option β}:bq (ob x f) F=ob x fun a=>bq (f a) F:=by cases x <;> rfl
theorem abu {c:Bool} {x:Option α} {F:α→Option β}:bq (ck c x) F=ck c (bq x F):=by cases c <;> rfl
theorem UU {x:Option γ} {f:γ→α} {F:α→Option β}:bq (x.map f) F=ob x fun a=>F (f a):=by cases x <;> rfl
theorem Ts {x:Option γ} {f:γ→Option α} {F:α→Option β}:bq (x.bind f) F=ob x fun a=>bq (f a) F:=by cases x <;> rfl
theorem Uy {c:Bool} {x:Option α} {F:α→Option β}:bq (bif c then x else none) F=ck c (bq x F):=by cases c <;> rfl
theorem Z9 {x:Option γ} {f:γ→Option α} {F:α→Option β}:bq (bq x f) F=bq x fun a=>bq (f a) F:=by cases x <;> rfl
theorem aaU {x:Option γ} {f:γ→Option α} {F:α→Option β}:ob (ob x f) F=ob x fun a=>ob (f a) F:=by cases x <;> rfl
theorem RM {c:Bool} {x y:Option α} {F:α→Option β}:ob (bif c then x else y) F=bif c then ob x F else ob y F:=by cases c <;> rfl
theorem adP {c:Bool} {x:Option α} {F:α→Option β}:ob (ck c x) F=ck c (ob x F):=by cases c <;> rfl
theorem UL {x:Option γ} {f:γ→α} {F:α→Option β}:ob (x.map f) F=ob x fun a=>F (f a):=by cases x <;> rfl
end
section
variable {α:Type} {H:Hp} {K:V→Hp→Res} {k:Hp→Res}
theorem abe {x:Option α} {f:α→Option V}:bm (ob x f) H K=ob x fun a=>bm (f a) H K:=by cases x <;> rfl
theorem aaJ {x:Option α} {f:α→Option (V×Hp)}:bp (ob x f) K=ob x fun a=>bp (f a) K:=by cases x <;> rfl
theorem abI {x:Option α} {f:α→Option Hp}:bs (ob x f) k=ob x fun a=>bs (f a) k:=by cases x <;> rfl
theorem Tt {c:Bool} {x y:Option V}:bm (bif c then x else y) H K=bif c then bm x H K else bm y H K:=by cases c <;> rfl
theorem Qb {c:Bool} {x y:Option (V×Hp)}:bp (bif c then x else y) K=bif c then bp x K else bp y K:=by cases c <;> rfl
theorem QD {c:Bool} {x y:Option Hp}:bs (bif c then x else y) k=bif c then bs x k else bs y k:=by cases c <;> rfl
theorem adr {c:Bool} {x:Option V}:bm (ck c x) H K=ck c (bm x H K):=by cases c <;> rfl
theorem ads {c:Bool} {x:Option (V×Hp)}:bp (ck c x) K=ck c (bp x K):=by cases c <;> rfl
theorem abX {c:Bool} {x:Option Hp}:bs (ck c x) k=ck c (bs x k):=by cases c <;> rfl
end
def rt (kp:Option (Nat→Bool)) (x:Res):Res:=x.bind fun p=>kq kp p.1 p.2
section rt
variable {kp:Option (Nat→Bool)} {α:Type} {h:Hp}
theorem P5:rt kp none=none:=rfl
theorem Dc {v:V}:rt kp (some (v,h))=kq kp v h:=rfl
theorem SC {c:Bool} {x y:Res}:rt kp (bif c then x else y)=bif c then rt kp x else rt kp y:=by cases c <;> rfl
theorem Tq {x:Option α} {f:α→Res}:rt kp (ob x f)=ob x fun a=>rt kp (f a):=by cases x <;> rfl
theorem ZZ {c:Bool} {x:Res}:rt kp (ck c x)=ck c (rt kp x):=by cases c <;> rfl
def rtN (v:V) (H:Hp):Res:=bq (fzR 0 v H) fun q=>sif q.1.pure (some (q.1,[])) (some q)
theorem A5 {v:V}:kq none v h=rtN v h:=by
 show (fzR 0 v h).bind _=(fzR 0 v h).bind _
 congr 1
 funext q
 cases hq:q.1.pure <;> simp [sif,hq]
theorem S1:kq none .nil h=some (.ro [],[]):=rfl
theorem Q1 {c:List V}:kq none (.agg c) h=rtN (.agg c) h:=A5
theorem Rc {c:List V}:kq none (.tup c) h=rtN (.tup c) h:=A5
theorem Rx {i g l:Nat}:kq none (.own i g l) h=rtN (.own i g l) h:=A5
theorem TQ {i:Nat}:kq none (.map i) h=some (.map i,h):=rfl
theorem Yx {f:Fn} {a b:List V}:kq none (.fn f a b) h=rtN (.fn f a b) h:=A5
theorem Ub {i g r o:Nat}:kq none (.ptr i g r o) h=some (.ptr i g r o,h):=rfl
end rt
section fz
variable {wl:Nat} {H:Hp} {nl:Bool}
theorem TR {vs:List V}:fzR wl (.tup vs) H=bq (ko wl vs H) fun p=>some (.tup p.1,p.2):=rfl
theorem Sv {v:Value}:fzR wl (.lit v) H=some (.lit v,H):=rfl
theorem Ze {r:List (List V)}:fzR wl (.ro r) H=some (.ro r,H):=rfl
theorem SO:fzR wl .nil H=some (.ro [],H):=rfl
theorem XQ {f:Fn} {a b:List V}:fzR wl (.fn f a b) H=some (.fn f a b,H):=rfl
theorem TZ {i g r o:Nat}:fzR wl (.ptr i g r o) H=some (.ptr i g r o,H):=rfl
theorem QZ {i:Nat}:fzR wl (.map i) H=some (.map i,H):=rfl
theorem QQ {i g l:Nat}:fzR wl (.own i g l) H=fzB wl i g l H (H[i]?):=nL
theorem Sr {c:List V}:fzR wl (.agg c) H=bq (fzL wl true c H) fun p=>some (.agg p.1,p.2):=rfl
theorem Kh:ko wl [] H=some ([],H):=rfl
theorem Jf {v:Value} {vs:List V}:ko wl (.lit v::vs) H=bq (ko wl vs H) fun q=>some (.lit v::q.1,q.2):=rfl
theorem K5 {r:List (List V)} {vs:List V}:ko wl (.ro r::vs) H=bq (ko wl vs H) fun q=>some (.ro r::q.1,q.2):=rfl
theorem Gv {vs:List V}:ko wl (.nil::vs) H=bq (ko wl vs H) fun q=>some (.ro []::q.1,q.2):=rfl
theorem KO {f:Fn} {a b vs:List V}:ko wl (.fn f a b::vs) H=bq (ko wl vs H) fun q=>some (.fn f a b::q.1,q.2):=rfl
theorem JO {i g l:Nat} {vs:List V}:ko wl (.own i g l::vs) H=bq (fzB wl i g l H (H[i]?)) fun p=>bq (ko wl vs p.2) fun q=>some (p.1::q.1,q.2):=by
 show (fzC wl (.own i g l) H).bind _=_
 rw [nL]
 rfl
theorem J6 {c vs:List V}:ko wl (.agg c::vs) H=bq (fzL wl true c H) fun p=>bq (ko wl vs p.2) fun q=>some (.agg p.1::q.1,q.2):=by
 show ((fzL wl true c H).bind _).bind _=_
 cases fzL wl true c H <;> rfl
theorem NY:fzL wl nl [] H=some ([],H):=rfl
theorem Nq {v:Value} {vs:List V}:fzL wl nl (.lit v::vs) H=bq (fzL wl nl vs H) fun q=>some (.lit v::q.1,q.2):=rfl
theorem Rl {r:List (List V)} {vs:List V}:fzL wl nl (.ro r::vs) H=bq (fzL wl nl vs H) fun q=>some (.ro r::q.1,q.2):=rfl
theorem J2 {vs:List V}:fzL wl true (.nil::vs) H=bq (fzL wl true vs H) fun q=>some (.ro []::q.1,q.2):=rfl
theorem Ss {f:Fn} {a b vs:List V}:fzL wl nl (.fn f a b::vs) H=bq (fzL wl nl vs H) fun q=>some (.fn f a b::q.1,q.2):=rfl
theorem Lm {i g r o:Nat} {vs:List V}:fzL wl nl (.ptr i g r o::vs) H=bq (fzL wl nl vs H) fun q=>some (.ptr i g r o::q.1,q.2):=rfl
theorem Kv {i g l:Nat} {vs:List V}:fzL wl nl (.own i g l::vs) H=bq (fzB wl i g l H (H[i]?)) fun p=>bq (fzL wl nl vs p.2) fun q=>some (p.1::q.1,q.2):=by
 show (fzC wl (.own i g l) H).bind _=_
 rw [nL]
 rfl
theorem Nx:kF wl [] H=some ([],H):=rfl
theorem MC {v:Value} {vs:List V}:kF wl (.lit v::vs) H=bq (kF wl vs H) fun q=>some (.lit v::q.1,q.2):=rfl
theorem Re {r:List (List V)} {vs:List V}:kF wl (.ro r::vs) H=bq (kF wl vs H) fun q=>some (.ro r::q.1,q.2):=rfl
theorem I1 {vs:List V}:kF wl (.nil::vs) H=bq (kF wl vs H) fun q=>some (.nil::q.1,q.2):=rfl
theorem Qo {f:Fn} {a b vs:List V}:kF wl (.fn f a b::vs) H=bq (kF wl vs H) fun q=>some (.fn f a b::q.1,q.2):=rfl
theorem MX {i:Nat} {vs:List V}:kF wl (.yld i::vs) H=bq (kF wl vs H) fun q=>some (.yld i::q.1,q.2):=rfl
theorem Kq {i:Nat} {vs:List V}:kF wl (.map i::vs) H=bq (kF wl vs H) fun q=>some (.map i::q.1,q.2):=rfl
theorem NX {i g r o:Nat} {vs:List V}:kF wl (.ptr i g r o::vs) H=bq (kF wl vs H) fun q=>some (.ptr i g r o::q.1,q.2):=rfl
theorem Kz {i g l:Nat} {vs:List V}:kF wl (.own i g l::vs) H=bq (fzB wl i g l H (H[i]?)) fun p=>bq (kF wl vs p.2) fun q=>some (p.1::q.1,q.2):=by
 show (fzC wl (.own i g l) H).bind _=_
 rw [nL]
 rfl
theorem Kn {c vs:List V}:kF wl (.agg c::vs) H=bq (fzL wl true c H) fun p=>bq (kF wl vs p.2) fun q=>some (.agg p.1::q.1,q.2):=by
 show ((fzL wl true c H).bind _).bind _=_
 cases fzL wl true c H <;> rfl
theorem aez {i g len e g':Nat} {rs:List (List V)} {lv:Bool}:fzB wl i g len H (some (.rows e rs g' lv))=sif (g==g'&&(cz rs&&Nat.ble wl i)) (ck (decide (len≤rs.length)) (some (.ro (rs.take len),H.set i (.rows e rs g' false)))) none:=by
 show (bif g==g'&&decide (len≤rs.length)&&(cz rs&&Nat.ble wl i) then _ else _)=_
 generalize (g==g')=a
 generalize decide (len≤rs.length)=b
 generalize (cz rs&&Nat.ble wl i)=c
 cases a <;> cases b <;> cases c <;> rfl
end fz
theorem LM {α:Type} {l:List α} {n:Nat} (h:l.length=n):l.take n=l:=List.take_of_length_le (by omega)
theorem Ir:cz []=true:=rfl
theorem Fq {r:List V} {rs:List (List V)}:cz (r::rs)=(bl r&&cz rs):=rfl
def DD (n:Nat):Hp→Hp
 | []=>[]
 | b::H=>b.kill n::DD n H
def nZ (n:Nat):Hp→Hp
 | []=>[]
 | b::H=>b.shift n::nZ n H
theorem Es {n:Nat}:∀ {H:Hp},H.map (B.kill n)=DD n H
 | []=>rfl
 | b::H=>by simp [DD,Es (H:=H)]
theorem oZ {n:Nat}:∀ {H:Hp},H.map (B.shift n)=nZ n H
 | []=>rfl
 | b::H=>by simp [nZ,oZ (H:=H)]
theorem Ta {n:Nat} {H:Hp}:bY n H=DD n (H.take n):=Es
theorem G5 {n:Nat}:DD n []=[]:=rfl
theorem F4 {n:Nat} {b:B} {H:Hp}:DD n (b::H)=b.kill n::DD n H:=rfl
theorem Gp {n:Nat}:nZ n []=[]:=rfl
theorem Ci {n:Nat} {b:B} {H:Hp}:nZ n (b::H)=b.shift n::nZ n H:=rfl
theorem Di {n:Nat} {st:LoopState} {pe:Option Code} {f:FuncId} {ts:List V} {ps:List Tmp} {a b:Code}:B.kill n (.loop ⟨st,pe,f,ts,ps,a,b⟩) = .loop ⟨st,pe,f,ik n ts,ps,a,b⟩:=rfl
def nsh (H:Hp) (v:V) (H2:Hp):Res:=sif (decide (H.length≤H2.length)) (some (v,H2)) none
theorem Ou {H H2:Hp} {v:V}:cC H (v,H2)=nsh H v H2:=by
 unfold cC nsh sif
 by_cases h:H.length≤H2.length
 ·simp [h]
 ·simp [h]
theorem aeo {n m:Nat}:Nat.ble n m=decide (n≤m):=by
 have h:(Nat.ble n m=true)=(n≤m):=Nat.ble_eq
 cases hb:Nat.ble n m with
 | true=>
  rw [hb] at h
  exact (decide_eq_true (h.mp rfl)).symm
 | false=>
  rw [hb] at h
  exact (decide_eq_false (fun e=>Bool.noConfusion (h.mpr e))).symm
theorem w8 {H:Hp} {c:Bool} {x y:V×Hp}:cC H (sif c x y)=sif c (cC H x) (cC H y):=by cases c <;> rfl
def ldQ (H H':Hp) (q:V×Hp):Res:=cC H (q.1.shift H'.length,bif (q.1.shift H'.length).scal then H else H'++q.2.map (B.shift H'.length))
theorem PJ {H H':Hp} {v:V} {h:Hp}:ldQ H H' (v,h)=nsh H (v.shift H'.length) (sif (v.shift H'.length).scal H (H'++nZ H'.length h)):=by
 unfold ldQ
 rw [Ou,oZ]
 rfl
theorem Ry {H H':Hp} {v:Value} {h:Hp}:ldQ H H' (.lit v,h)=some (.lit v,H):=by
 rw [PJ]
 simp [nsh,sif,V.shift,V.scal]
def ldP (H:Hp) (q:V×Hp):Res:=some (q.1.shift H.length,H++q.2.map (B.shift H.length))
theorem Wo {H:Hp} {v:V} {h:Hp}:ldP H (v,h)=some (v.shift H.length,H++nZ H.length h):=by
 unfold ldP
 rw [oZ]
theorem oR {cx:Cx} {g:FuncId} {args:List V} {H:Hp}:f8 cx g args H=bq (mr cx g args) (ldP H):=by
 unfold f8 mr bq ldP
 cases h:cx.call 0 g args [] with
 | none=>rfl
 | some p=>rfl
theorem JE {cx:Cx} {o:Bool} {g:FuncId} {first caps args:List V} {H:Hp} :
  cw cx false o (.fn (.func g) first caps) args H=bq (sif (cx.M.keepArg g) (some (first++args++caps,H)) (kF cx.wl (first++args++caps) H)) fun a=>
   sif (bl a.1) (bq (mr cx g a.1) (ldQ H a.2))
    (bq (cx.call cx.wl g a.1 a.2) fun p=>bq (sif (cx.M.keepRes cx.fid g).isSome (some p) (fzR cx.wl p.1 p.2)) fun q=>cC H (sif q.1.pure (q.1,bY a.2.length q.2) q)):=by
 unfold cw wW
 simp only [Bool.false_eq_true,if_false]
 have e1:(if cx.M.keepArg g=true then some (first++args++caps,H) else kF cx.wl (first++args++caps) H)=sif (cx.M.keepArg g) (some (first++args++caps,H)) (kF cx.wl (first++args++caps) H):=by
  cases cx.M.keepArg g <;> rfl
 rw [e1]
 unfold bq
 cases sif (cx.M.keepArg g) (some (first++args++caps,H)) (kF cx.wl (first++args++caps) H) with
 | none=>rfl
 | some a=>
  simp only [Option.bind_some]
  cases hp:bl a.1 with
  | true=>
   simp only [if_true,lx,oR]
   unfold bq
   cases mr cx g a.1 <;> rfl
  | false=>
   simp only [Bool.false_eq_true,if_false,kT]
   cases cx.call cx.wl g a.1 a.2 with
   | none=>rfl
   | some p=>
    simp only [Option.bind_some]
    have e2:(if (cx.M.keepRes cx.fid g).isSome=true then some p else fzR cx.wl p.1 p.2)=sif (cx.M.keepRes cx.fid g).isSome (some p) (fzR cx.wl p.1 p.2):=by
     cases (cx.M.keepRes cx.fid g).isSome <;> rfl
    rw [e2]
    cases sif (cx.M.keepRes cx.fid g).isSome (some p) (fzR cx.wl p.1 p.2) with
    | none=>rfl
    | some q=>
     simp only [Option.bind_some]
     cases hq:q.1.pure <;> simp [sif]
theorem GP {cx:Cx} {g:FuncId} {first caps args:List V} {H:Hp} :
  cw cx true true (.fn (.func g) first caps) args H =
   sif (bl (first++args++caps)) (bq (mr cx g (first++args++caps)) (ldP H)) (sif (cx.M.keepArg g) none (bq (kF cx.wl (first++args++caps) H) fun a=>
    sif (bl a.1) (bq (mr cx g a.1) fun q=>bq (ldP a.2 q) fun q=>some (q.1,sif q.1.scal H q.2)) (bq (cx.call a.2.length g a.1 a.2) fun p=>sif p.1.scal (some (p.1,H)) none))):=by
 unfold cw f9
 simp only [if_true,oR]
 cases bl (first++args++caps) with
 | true=>rfl
 | false=>
  simp only [Bool.false_eq_true,if_false,kT]
  cases cx.M.keepArg g with
  | true=>rfl
  | false=>
   simp only [Bool.false_eq_true,if_false,kT]
   unfold bq
   cases kF cx.wl (first++args++caps) H with
   | none=>rfl
   | some a=>
    simp only [Option.bind_some]
    cases bl a.1 with
    | true=>
     simp only [if_true,lx]
     cases mr cx g a.1 <;> rfl
    | false=>
     simp only [Bool.false_eq_true,if_false,kT]
     cases cx.call a.2.length g a.1 a.2 with
     | none=>rfl
     | some p=>
      simp only [Option.bind_some]
      cases hs:p.1.scal <;> simp [sif]
theorem FF {cx:Cx} {g:FuncId} {first caps args:List V} {H:Hp} :
  cw cx true false (.fn (.func g) first caps) args H=sif (bl (first++args++caps)) (bq (bq (cx.call 0 g (first++args++caps) []) fun p=>kq none p.1 p.2) fun q=>sif q.1.pure (some (q.1,H)) none) none:=by
 unfold cw f9
 simp only [if_true,Bool.false_eq_true,if_false]
 cases bl (first++args++caps) with
 | false=>rfl
 | true=>
  simp only [if_true,lx]
  unfold bq
  cases cx.call 0 g (first++args++caps) [] with
  | none=>rfl
  | some p=>
   simp only [Option.bind_some,A5]
   unfold rtN bq
   cases fzR 0 p.1 p.2 with
   | none=>rfl
   | some q=>
    simp only [Option.bind_some]
    cases hq:q.1.pure <;> simp [sif,hq]
section rounds
variable {P:Program} {M:Mode}
def yB (P:Program) (M:Mode) (k wl id:Nat) (args:List V) (H:Hp):Option B→Res
 | some (.loop l)=>Af { P,M,fid:=l.fn,round:=true,wl,call:=evF P M k,yld:=evY P M k,n:=k } id l args H
 | _=>none
theorem Tu {k wl id:Nat} {args:List V} {H:Hp}:evY P M (k+1) wl id args H=yB P M k wl id args H (H[id]?):=by
 unfold yB
 simp only [evY]
 generalize H[id]? = b
 cases b with
 | none=>rfl
 | some b=>cases b <;> rfl
theorem NS {k wl id:Nat} {args:List V} {H:Hp} {pe:Option Code} {f:FuncId} {ts:List V} {ps:List Tmp} {a b:Code} :
  yB P M k wl id args H (some (.loop ⟨.ready,pe,f,ts,ps,a,b⟩))=sif (decide (args.length=ps.length)&&Nat.ble wl id)
   (au { P,M,fid:=f,round:=true,wl,call:=evF P M k,yld:=evY P M k,n:=k } (asK { P,M,fid:=f,round:=true,wl,call:=evF P M k,yld:=evY P M k,n:=k } id H.length b) [.seq a] .norm ⟨dB ts ps args,H⟩) none:=by
 unfold yB Af
 by_cases h:args.length=ps.length
 ·cases hw:Nat.ble wl id with
  | true=>
   simp only [h,hw,and_self,if_true,decide_true,Bool.and_self,lx]
   show bc _ a none _ _=bc _ a none (au _ _ []) _
   congr 1
  | false=>simp [hw,sif]
 ·simp [h,sif]
def asB (cx:Cx) (id n:Nat) (body:Code) (env:List V) (H:Hp):Option B→Res
 | some (.loop l)=>if l.st = .ready then au cx (bdK id n) [.seq body] .norm ⟨env,H.set id (.loop { l with st := .busy })⟩ else none
 | _=>none
theorem SL {cx:Cx} {id n:Nat} {body:Code} {env:List V} {H:Hp}:asK cx id n body .norm ⟨env,H⟩=asB cx id n body env H (H[id]?):=by
 unfold asK asB
 rfl
theorem Ih {cx:Cx} {id n:Nat} {body:Code} {env:List V} {H:Hp} {pe:Option Code} {f:FuncId} {ts:List V} {ps:List Tmp} {a b:Code} :
  asB cx id n body env H (some (.loop ⟨.ready,pe,f,ts,ps,a,b⟩))=au cx (bdK id n) [.seq body] .norm ⟨env,H.set id (.loop ⟨.busy,pe,f,ts,ps,a,b⟩)⟩:=rfl
def bdB (id n:Nat) (o:Out) (H:Hp):Option B→Res
 | some (.loop l)=>some (.lit (.bool (dc o).isNone),bY n (H.set id (.loop { l with st:=if (dc o).isNone then .ready else .done,pending:=dc o })))
 | _=>none
theorem SA {id n:Nat} {o:Out} {env:List V} {H:Hp}:bdK id n o ⟨env,H⟩=bdB id n o H (H[id]?):=by
 unfold bdK bdB
 rfl
section
variable {id n:Nat} {H:Hp} {st:LoopState} {pe:Option Code} {f:FuncId} {ts:List V} {ps:List Tmp} {a b:Code}
theorem MY:bdB id n .norm H (some (.loop ⟨st,pe,f,ts,ps,a,b⟩))=some (.lit (.bool true),bY n (H.set id (.loop ⟨.ready,none,f,ts,ps,a,b⟩))):=rfl
theorem Uk:bdB id n .ret H (some (.loop ⟨st,pe,f,ts,ps,a,b⟩))=some (.lit (.bool false),bY n (H.set id (.loop ⟨.done,some .ret,f,ts,ps,a,b⟩))):=rfl
theorem M4 {i:Nat}:bdB id n (.exit i) H (some (.loop ⟨st,pe,f,ts,ps,a,b⟩))=some (.lit (.bool false),bY n (H.set id (.loop ⟨.done,some (.exit i),f,ts,ps,a,b⟩))):=rfl
theorem Mr {i:Nat}:bdB id n (.goto i) H (some (.loop ⟨st,pe,f,ts,ps,a,b⟩))=some (.lit (.bool false),bY n (H.set id (.loop ⟨.done,some (.goto i),f,ts,ps,a,b⟩))):=rfl
def rfB (K:Out→St→Res) (env:List V) (H:Hp):Option B→Res
 | some (.loop l)=>if l.st = .busy then none else
  match l.pending with
  | none=>K .norm ⟨env,H⟩
  | some .ret=>K .ret ⟨env,H⟩
  | some (.exit id)=>K (.exit id) ⟨env,H⟩
  | some (.goto id)=>K (.goto id) ⟨env,H⟩
  | some _=>none
 | _=>none
theorem Sp {K:Out→St→Res} {env:List V} {v:V} {h:Hp}:rfK K env n (v,h)=rfB K env (bY n h) (h[n]?):=by
 unfold rfK rfB
 rfl
theorem KA {K:Out→St→Res} {env:List V}:rfB K env H (some (.loop ⟨.ready,none,f,ts,ps,a,b⟩))=K .norm ⟨env,H⟩:=rfl
theorem Ik {K:Out→St→Res} {env:List V}:rfB K env H (some (.loop ⟨.done,none,f,ts,ps,a,b⟩))=K .norm ⟨env,H⟩:=rfl
theorem RF {K:Out→St→Res} {env:List V}:rfB K env H (some (.loop ⟨.done,some .ret,f,ts,ps,a,b⟩))=K .ret ⟨env,H⟩:=rfl
theorem M5 {K:Out→St→Res} {env:List V} {i:Nat}:rfB K env H (some (.loop ⟨.done,some (.exit i),f,ts,ps,a,b⟩))=K (.exit i) ⟨env,H⟩:=rfl
theorem N3 {K:Out→St→Res} {env:List V} {i:Nat}:rfB K env H (some (.loop ⟨.done,some (.goto i),f,ts,ps,a,b⟩))=K (.goto i) ⟨env,H⟩:=rfl
end
def rgC (cx:Cx) (ps:List Tmp) (a b:Code) (K:Out→St→Res) (env:List V) (H:Hp):V→Res
 | .fn (.func g) [] caps=>bq (cx.call cx.wl g (.yld H.length::caps) (H++[.loop ⟨.ready,none,cx.fid,env,ps,a,b⟩])) (rfK K env H.length)
 | _=>none
theorem Wv {cx:Cx} {ps:List Tmp} {a b:Code} {K:Out→St→Res} {env:List V} {H:Hp} {g:FuncId} {caps:List V} :
  rgC cx ps a b K env H (.fn (.func g) [] caps)=bq (cx.call cx.wl g (.yld H.length::caps) (H++[.loop ⟨.ready,none,cx.fid,env,ps,a,b⟩])) (rfK K env H.length):=rfl
theorem Ma {cx:Cx} {f:Operand} {ps:Array Tmp} {a b:Code} {K:Out→St→Res} {env:List V} {H:Hp} (hr:cx.round=false) :
  bc cx (.rangeFunc f ps a b) none K ⟨env,H⟩=sif (Nat.ble cx.wl H.length) (bq (evO env f) (rgC cx ps.toList a b K env H)) none:=by
 simp only [bc,hr,Bool.false_or]
 cases hw:Nat.ble cx.wl H.length with
 | false=>rfl
 | true=>
  simp only [Bool.not_true,Bool.false_eq_true,if_false,lx]
  cases hf:evO env f with
  | none=>rfl
  | some v=>
   simp only [bq,Option.bind_some]
   cases v with
   | fn f first caps=>
    cases f with
    | func g=>
     cases first with
     | nil=>
      simp only [rgC]
      unfold bq
      congr 1
     | cons=>rfl
    | _=>rfl
   | _=>rfl
end rounds
end Go.Ab
namespace Go.Ab
def mO:List V→List (Nat×Nat×V)→Option (List V)
 | cells,[]=>some cells
 | cells,(off,size,v)::rest=>
  match v.cells with
  | some vs=>if vs.length=size∧off+vs.length≤cells.length then mO (spl cells off vs) rest else none
  | none=>none
theorem Lk {cells:List V}:mO cells []=some cells:=rfl
theorem JA {cells:List V} {off size:Nat} {v:V} {rest:List (Nat×Nat×V)}:mO cells ((off,size,v)::rest)=bq v.cells fun vs=>sif (decide (vs.length=size∧off+vs.length≤cells.length)) (mO (spl cells off vs) rest) none:=by
 simp only [mO]
 cases v.cells with
 | none=>rfl
 | some vs=>
  simp only [bq,Option.bind_some]
  by_cases h:vs.length=size∧off+vs.length≤cells.length
  ·rw [if_pos h,decide_eq_true h];rfl
  ·rw [if_neg h,decide_eq_false h];rfl
theorem Hh {wl size:Nat} {rs:List (List V)} {H:Hp}:ej wl size [] rs H=some (rs,H):=rfl
theorem FG {wl size i:Nat} {v:V} {rest:List (Nat×V)} {rs:List (List V)} {H:Hp}:ej wl size ((i,v)::rest) rs H=bq v.cells fun vs=>bq (fzL wl true vs H) fun p=>sif (decide (i<rs.length∧p.1.length=size)) (ej wl size rest (rs.set i p.1) p.2) none:=by
 simp only [ej]
 cases v.cells with
 | none=>rfl
 | some vs=>
  simp only [bq,Option.bind_some]
  cases fzL wl true vs H with
  | none=>rfl
  | some p=>
   simp only [Option.bind_some]
   by_cases h:i<rs.length∧p.1.length=size
   ·rw [if_pos h,decide_eq_true h];rfl
   ·rw [if_neg h,decide_eq_false h];rfl
theorem Kb {x y:Int}:ne (.int .i64 x) (.int .i64 y)=(x==y):=rfl
theorem Gh {k:Value} {v:V}:fV k v []=[(k,v)]:=rfl
theorem C9 {k:Value} {v:V} {e:Value×V} {es:List (Value×V)}:fV k v (e::es)=sif (ne k e.1) ((k,v)::es) (e::fV k v es):=by
 simp only [fV]
 cases ne k e.1 <;> rfl
def Kl (kk:IntKind):List (Value×V)→Bool
 | []=>true
 | e::es=>fP kk e.1&&Kl kk es
theorem LB {kk:IntKind}:Kl kk []=true:=rfl
theorem Hq {kk:IntKind} {e:Value×V} {es:List (Value×V)}:Kl kk (e::es)=(fP kk e.1&&Kl kk es):=rfl
theorem CY {x:Int}:fP .i64 (.int .i64 x)=true:=rfl
def inB (wl:Nat) (kk:IntKind) (id:Nat) (n:Int) (v:V) (H:Hp):Option B→Option Hp
 | some (.map es)=>if es.all (fun e=>fP kk e.1)&&true&&Nat.ble wl id then some (H.set id (.map (fV (.int kk n) v es))) else none
 | _=>none
theorem QT {kk:IntKind}:∀ {es:List (Value×V)},es.all (fun e=>fP kk e.1)=Kl kk es
 | []=>rfl
 | e::es=>by simp [Kl,QT (es:=es)]
theorem RV {wl id:Nat} {kk:IntKind} {n:Int} {v:V} {H:Hp} {es:List (Value×V)}:inB wl kk id n v H (some (.map es))=sif (Kl kk es&&Nat.ble wl id) (some (H.set id (.map (fV (.int kk n) v es)))) none:=by
 simp only [inB,QT,Bool.and_true]
 cases Kl kk es&&Nat.ble wl id <;> rfl
def lkB (kk:IntKind) (z:V) (ok:Bool) (n:Int):Option B→Option V
 | some (.map es)=>if es.all (fun e=>fP kk e.1)&&true then some (bif ok then .tup [(fX (.int kk n) z es).1,.lit (.bool (fX (.int kk n) z es).2)] else (fX (.int kk n) z es).1) else none
 | _=>none
def lkO (kk:IntKind) (z:V) (ok:Bool) (n:Int):List (Value×V)→Option V
 | []=>some (sif ok (.tup [z,.lit (.bool false)]) z)
 | e::es=>bif ne (.int kk n) e.1 then some (sif ok (.tup [e.2,.lit (.bool true)]) e.2) else lkO kk z ok n es
theorem Ps {kk:IntKind} {z:V} {ok:Bool} {n:Int}:∀ {es:List (Value×V)},some (bif ok then V.tup [(fX (.int kk n) z es).1,.lit (.bool (fX (.int kk n) z es).2)] else (fX (.int kk n) z es).1)=lkO kk z ok n es
 | []=>by cases ok <;> rfl
 | e::es=>by
  simp only [fX,lkO]
  cases ne (.int kk n) e.1 with
  | true=>cases ok <;> rfl
  | false=>exact Ps (es:=es)
theorem Uj {kk:IntKind} {z:V} {ok:Bool} {n:Int} {es:List (Value×V)}:lkB kk z ok n (some (.map es))=sif (Kl kk es) (lkO kk z ok n es) none:=by
 simp only [lkB,QT,Bool.and_true,Ps]
 cases Kl kk es <;> rfl
theorem RP {kk:IntKind} {z:V} {ok:Bool} {n:Int}:lkO kk z ok n []=some (sif ok (.tup [z,.lit (.bool false)]) z):=rfl
theorem NR {kk:IntKind} {z:V} {ok:Bool} {n:Int} {e:Value×V} {es:List (Value×V)}:lkO kk z ok n (e::es)=bif ne (.int kk n) e.1 then some (sif ok (.tup [e.2,.lit (.bool true)]) e.2) else lkO kk z ok n es:=rfl
def agO:Int→List V→Int→Option V
 | _,[],_=>none
 | i,c::cs,n=>bif n==i then some c else agO (i+1) cs n
theorem Q8 {i n:Int}:agO i [] n=none:=rfl
theorem NQ {i n:Int} {c:V} {cs:List V}:agO i (c::cs) n=bif n==i then some c else agO (i+1) cs n:=rfl
theorem JX {p:Bool} {k:IntKind} {a b:Int}:aO (.lit (.bool p)) (.lit (.int k a)) (.lit (.int k b))=some (.lit (.int k (bif p then a else b))):=by cases p <;> rfl
theorem F6 {p a b:Bool}:aO (.lit (.bool p)) (.lit (.bool a)) (.lit (.bool b))=some (.lit (.bool (bif p then a else b))):=by cases p <;> rfl
theorem KI {k:IntKind} {a b:Int}:gu true [.lit (.int k a),.lit (.int k b)]=some (.lit (.int k (bif decide (a<b) then b else a))):=by
 simp only [gu,if_true,cond_true,gt_iff_lt]
 by_cases h:a<b <;> simp [h]
theorem Nr {k:IntKind} {a b:Int}:gu false [.lit (.int k a),.lit (.int k b)]=some (.lit (.int k (bif decide (b<a) then b else a))):=by
 simp only [gu,if_true,cond_false]
 by_cases h:b<a <;> simp [h]
theorem Fv {k:IntKind} {a:Int}:[[V.lit (.int k a)]]=[a].map (aQ k):=rfl
theorem CD {k:IntKind} {a b:Int}:[[V.lit (.int k a)],[V.lit (.int k b)]]=[a,b].map (aQ k):=rfl
theorem Al {a b c:Int}:[[V.lit (.int .i64 a),.lit (.int .i64 b),.lit (.int .i64 c)]]=[(a,b,c)].map aE:=rfl
def Nt (k:IntKind) (a b:Int):Int:=k.wrap (a*2 ^ (min b.toNat k.bits))
def OH (k:IntKind) (a b:Int):Int:=a.fdiv (2 ^ (min b.toNat k.bits))
def rI (k:IntKind) (a b:Int):Int:=k.wrap (BitVec.ofInt k.bits a &&& BitVec.ofInt k.bits b).toNat
def orI (k:IntKind) (a b:Int):Int:=k.wrap (BitVec.ofInt k.bits a ||| BitVec.ofInt k.bits b).toNat
section
variable {P:Program} {t:TypeId} {k k':IntKind} {a b:Int}
theorem M7:aq P .shl t (.lit (.int k a)) (.lit (.int k' b))=bif decide (0≤b) then some (.lit (.int k (Nt k a b))) else none:=by
 by_cases h:b<0
 ·have:¬ 0≤b:=by omega
  simp [aq,dH,h,this]
 ·have h2:0≤b:=by omega
  simp [aq,dH,h,h2,Nt]
theorem Ly:aq P .shr t (.lit (.int k a)) (.lit (.int k' b))=bif decide (0≤b) then some (.lit (.int k (OH k a b))) else none:=by
 by_cases h:b<0
 ·have:¬ 0≤b:=by omega
  simp [aq,dH,h,this]
 ·have h2:0≤b:=by omega
  simp [aq,dH,h,h2,OH]
theorem M2:aq P .and t (.lit (.int k a)) (.lit (.int k b))=some (.lit (.int k (rI k a b))):=by simp [aq,dH,rI]
theorem Qc:aq P .or t (.lit (.int k a)) (.lit (.int k b))=some (.lit (.int k (orI k a b))):=by simp [aq,dH,orI]
end
end Go.Ab
namespace Go.Ab
theorem aey {g len e g':Nat} {rs:List (List V)} {lv:Bool}:roB g len (some (.rows e rs g' lv))=sif (g==g') (ck (decide (len≤rs.length)) (some (rs.take len))) none:=by
 show (bif g==g'&&decide (len≤rs.length) then _ else _)=_
 generalize (g==g')=a
 generalize decide (len≤rs.length)=b
 cases a <;> cases b <;> rfl
theorem LS {f:Fn} {a b:List V} {H:Hp}:aJ (.fn f a b) H=some (.ptr H.length 0 0 0,H++[.box [.fn f a b]]):=by simp [aJ,V.cells,V.one,bx]
theorem Hi {i g n:Nat} {H:Hp}:aJ (.own i g n) H=some (.ptr H.length 0 0 0,H++[.box [.own i g n]]):=by simp [aJ,V.cells,V.one,bx]
theorem I4 {i g r o:Nat} {H:Hp}:aJ (.ptr i g r o) H=some (.ptr H.length 0 0 0,H++[.box [.ptr i g r o]]):=by simp [aJ,V.cells,V.one,bx]
theorem TK {k:IntKind} {l:List Int}:bG 1 (l.map (aQ k))=true:=dE fun _=>rfl
theorem K7 {l:List Bool}:bG 1 (l.map kS)=true:=dE fun _=>rfl
theorem MQ {l:Tyt}:bG 2 (l.map aA)=true:=dE fun _=>rfl
theorem IE {l:Tye}:bG 3 (l.map aE)=true:=dE fun _=>rfl
theorem Gy {n:Nat}:bG n []=true:=rfl
theorem TN {wl e sz bytes id g:Nat} {xs:List (List V)} {H:Hp} {lv:Bool} :
  apB wl e sz bytes id g 0 xs H (some (.rows 0 [] g lv))=sif (Nat.ble wl id) (bif room xs.length bytes then some (.own id (g+1) xs.length,H.set id (.rows sz xs (g+1) lv)) else none) none:=by
 cases hb:Nat.ble wl id <;> cases lv <;> simp [apB,hb,sif,room]
theorem JN {α:Type} {wl e sz bytes id g len s:Nat} {l m:List α} {enc:α→List V} {H:Hp} :
  apB wl e sz bytes id g len (m.map enc) H (some (.rows s (l.map enc) g true)) =
   sif (Nat.ble wl id) (ck (decide (len≤l.length)) (ck (s==sz||s==0) (bif room (l.take len++m).length bytes then some (.own id (g+1) (l.take len++m).length,H.set id (.rows sz ((l.take len++m).map enc) (g+1) true)) else none))) none:=by
 by_cases h:len≤l.length
 ·have h1:(l.take len++m).length=len+m.length:=by simp [h]
  rw [decide_eq_true h,h1]
  simp only [apB,dF,List.length_map,beq_self_eq_true,Bool.and_true,Bool.true_or,decide_eq_true h,room,List.map_append,List.map_take]
  cases Nat.ble wl id <;> cases (s==sz||s==0) <;> simp [sif,ck]
 ·rw [decide_eq_false h,oG]
  simp [apB,decide_eq_false h,sif]
theorem Jl {α:Type} {l:List α} {enc:α→List V} {n:Nat}:(l.map enc).take n=(l.take n).map enc:=by rw [List.map_take]
theorem F5 {l:Tye} {i:Nat} {a b c:Int}:(l.map aE).set i [.lit (.int .i64 a),.lit (.int .i64 b),.lit (.int .i64 c)]=(l.set i (a,b,c)).map aE:=by rw [List.map_set];rfl
theorem JJ {l:Tyt} {i:Nat} {a:Int} {b:List Int}:(l.map aA).set i [.lit (.int .i64 a),.ro (b.map (aQ .i64))]=(l.set i (a,b)).map aA:=by rw [List.map_set];rfl
theorem FK {l:Tyt} {i:Nat} {a:Int}:(l.map aA).set i [.lit (.int .i64 a),.ro []]=(l.set i (a,[])).map aA:=by rw [List.map_set];rfl
theorem DE {a:Int} {b:List Int}:[[V.lit (.int .i64 a),.ro (b.map (aQ .i64))]]=[(a,b)].map aA:=rfl
theorem Bo {a:Int}:[[V.lit (.int .i64 a),.ro []]]=[(a,[])].map aA:=rfl
def slB (g len id:Nat) (n:Int) (H:Hp):Option B→Option (V×Hp)
 | some (.rows _ _ g' _)=>if 0≤n then (if n.toNat≤len∧g=g' then some (.own id g n.toNat,H) else none) else none
 | _=>none
theorem LH {g len id e g':Nat} {n:Int} {H:Hp} {rs:List (List V)} {lv:Bool}:slB g len id n H (some (.rows e rs g' lv))=sif (g==g') (ck (decide (0≤n∧n.toNat≤len)) (some (.own id g n.toNat,H))) none:=by
 unfold slB sif ck
 by_cases h0:0≤n
 ·by_cases h1:n.toNat≤len
  ·by_cases h2:g=g'
   ·simp [h0,h1,h2]
   ·simp [h0,h1,h2,beq_false_of_ne h2]
  ·simp [h0,h1]
 ·simp [h0]
theorem ln {P : Program} {wl : Nat} {c : Bool} {t e : TypeId} {id g len : Nat} {k : IntKind} {n : Int} {H : Hp} (he : gX P t = some e) (hz : (aM P e != 0) = true) :
    bP P wl c t (.own id g len) none (some (.lit (.int k n))) none H = slB g len id n H (H[id]?) := by
  have hz' : aM P e ≠ 0 := by simpa using hz
  unfold bP slB
  simp only [he, bnd]
  by_cases h0 : 0 ≤ n
  · simp only [h0, if_true, Option.bind_some]
    generalize H[id]? = b
    cases b with
    | none => rfl
    | some b => cases b <;> simp [hz']
  · simp only [h0, if_false, Option.bind_none]
    generalize H[id]? = b
    cases b with
    | none => rfl
    | some b => cases b <;> rfl
end Go.Ab
namespace Go.Ab
end Go.Ab
namespace Go.Ab
theorem Rf {env:List V} {t:Nat}:evO env (.tmp t)=env[t]? := rfl
theorem Lo {env:List V} {f:Nat}:evO env (.func f)=some (.fn (.func f) [] []):=rfl
theorem wS {env vs:List V}:dB env [] vs=env:=by cases vs <;> rfl
theorem rK {env vs:List V} {t:Tmp} {ts:List Tmp} {v:V}:dB env (t::ts) (v::vs)=dB (env.set t v) ts vs:=rfl
end Go.Ab
namespace Go.Ab
theorem P4 {n:Nat}:V.kill n uu=uu:=rfl
end Go.Ab
namespace Go.Ab
def aK {α:Type} (bytes:Nat) (l:List α):Option (List α):=ck (Nat.ble (l.length*bytes) 70368744177664) (some l)
section clone
variable {P:Program} {t e:TypeId} {α:Type} {enc:α→List V} {sz bytes:Nat}
theorem gn (he:gX P t=some e) (hz:∃ z,ef P e=some z∧be (bK z)=true∧((bK z).length==sz)=true) (hs:aM P e=sz) (hg:C4 P e=true) (hb:P.bytesOf e=bytes) (hl:∀ x,(enc x).length=sz) (l:List α) :
  fQ P t [.ro (l.map enc)] []=ob (aK bytes l) fun r=>some (.own 1 1 r.length,[.rows 0 [] 0 true,.rows sz (r.map enc) 1 true]):=by
 obtain ⟨z,z1,z2,z3⟩:=hz
 unfold fQ
 simp only [he,Option.bind_some,z1,Ah,hs,hg,z2,z3,hb,dE hl,Bool.and_true,Bool.true_and,List.length_map,List.length_nil,List.nil_append]
 unfold aK
 cases Nat.ble (l.length*bytes) 70368744177664 <;> rfl
theorem fu (hl:∀ x,bl (enc x)=true) (l:List α) (g:Nat) :
  rt none (ob (aK bytes l) fun r=>some (.own 1 1 r.length,[.rows 0 [] 0 true,.rows g (r.map enc) 1 true]))=ob (aK bytes l) fun r=>some (.ro (r.map enc),[]):=by
 rw [Tq]
 congr 1
 funext r
 rw [Dc]
 exact LZ (enc:=enc) (l:=r) (e:=g) (lv:=true) rfl rfl hl
theorem fl (hl:∀ x,bl (enc x)=true) (l:List α) (g:Nat) :
  rt (some fun _=>true) (ob (aK bytes l) fun r=>some (.own 1 1 r.length,[.rows 0 [] 0 true,.rows g (r.map enc) 1 true]))=ob (aK bytes l) fun r=>some (.own 0 0 r.length,[.rows g (r.map enc) 0 true]):=by
 rw [Tq]
 congr 1
 funext r
 have h1:cz (r.map enc)=true:=by
  rw [cz,List.all_eq_true]
  intro y hy
  obtain ⟨x,_,rfl⟩:=List.mem_map.1 hy
  exact hl x
 simp [Dc,kq,FQ,oo,h1]
 rw [List.take_of_length_le (by simp)]
end clone
end Go.Ab
namespace Go.Ab
theorem MW {n0 i g r o:Nat} {k:Res}:stO n0 (.ptr i g r o) k=sif (decide (i<n0)) k none:=by
 unfold stO stB DS sif
 simp only [Bool.cond_eq_ite]
theorem Lz {n0 i g l:Nat} {k:Res}:stO n0 (.own i g l) k=sif (decide (i<n0)) k none:=by
 unfold stO stB DS sif
 simp only [Bool.cond_eq_ite]
theorem KQ {n0 i:Nat} {k:Res}:stO n0 (.map i) k=sif (decide (i<n0)) k none:=by
 unfold stO stB DS sif
 simp only [Bool.cond_eq_ite]
theorem Se {n0:Nat} {r:List (List V)} {k:Res}:stO n0 (.ro r) k=k:=rfl
theorem TU {n0:Nat} {r:List V} {k:Res}:stO n0 (.rp r) k=k:=rfl
theorem MZ {n0:Nat} {v:Value} {k:Res}:stO n0 (.lit v) k=k:=rfl
theorem SV {n0:Nat} {f:Fn} {a b:List V} {k:Res}:stO n0 (.fn f a b) k=k:=rfl
theorem Ny {n0:Nat} {k:Res}:stO n0 .nil k=k:=rfl
def pJ (n:Nat):List (Value×V)→List (Value×V)
 | []=>[]
 | e::es=>(e.1,e.2.shift n)::pJ n es
def CG (n:Nat):List (Value×V)→List (Value×V)
 | []=>[]
 | e::es=>(e.1,e.2.kill n)::CG n es
theorem Fj {n:Nat}:∀ {es:List (Value×V)},es.map (fun e=>(e.1,e.2.kill n))=CG n es
 | []=>rfl
 | e::es=>by simp [CG,Fj (es:=es)]
theorem AF {n:Nat}:∀ {es:List (Value×V)},es.map (fun e=>(e.1,e.2.shift n))=pJ n es
 | []=>rfl
 | e::es=>by simp [pJ,AF (es:=es)]
theorem GK {n:Nat} {es:List (Value×V)}:B.kill n (.map es) = .map (CG n es):=by
 rw [← Fj]
 rfl
theorem Db {n:Nat} {es:List (Value×V)}:B.shift n (.map es) = .map (pJ n es):=by
 rw [← AF]
 rfl
theorem IR {n:Nat}:CG n []=[]:=rfl
theorem Gd {n:Nat} {e:Value×V} {es:List (Value×V)}:CG n (e::es)=(e.1,e.2.kill n)::CG n es:=rfl
theorem F8 {n:Nat}:pJ n []=[]:=rfl
theorem CC {n:Nat} {e:Value×V} {es:List (Value×V)}:pJ n (e::es)=(e.1,e.2.shift n)::pJ n es:=rfl
end Go.Ab
namespace Go.Ab
theorem H3 {H:Hp}:aJ .nil H=some (.ptr (H++[B.rows 0 [] 0 true]).length 0 0 0,(H++[B.rows 0 [] 0 true])++[.box [.own H.length 0 0]]):=by simp [aJ,V.cells,V.one,bx]
theorem JP {i:Nat} {H:Hp}:aJ (.yld i) H=some (.ptr H.length 0 0 0,H++[.box [.yld i]]):=by simp [aJ,V.cells,V.one,bx]
theorem Hj {i:Nat} {H:Hp}:aJ (.map i) H=some (.ptr H.length 0 0 0,H++[.box [.map i]]):=by simp [aJ,V.cells,V.one,bx]
theorem Np {i:Nat} {l:List V} {H:Hp}:bx (.yld i::l) H=(.yld i::(bx l H).1,(bx l H).2):=rfl
theorem Nu {i:Nat} {l:List V} {H:Hp}:bx (.map i::l) H=(.map i::(bx l H).1,(bx l H).2):=rfl
theorem IU {i:Nat}:V.cells (.yld i)=some [.yld i]:=rfl
theorem IS {i:Nat}:V.cells (.map i)=some [.map i]:=rfl
end Go.Ab
namespace Go.Ab
open Go
def O9:List (Nat×V)→Bool
 | []=>true
 | p::l=>p.2.pure&&O9 l
theorem Lx:O9 []=true:=rfl
theorem Jt {i:Nat} {v:V} {l:List (Nat×V)}:O9 ((i,v)::l)=(v.pure&&O9 l):=rfl
theorem S9 {l:List (Nat×V)}:bl (l.map (·.2))=O9 l:=by
 induction l with
 | nil=>rfl
 | cons p l ih=>simp only [List.map_cons,bl,O9,ih]
theorem ou {P:Program} {wl:Nat} {t:TypeId} {len:Nat} {l:List (Nat×V)} {H:Hp} :
  ee P wl t len l H=bq (ck (O9 l) (some ())) fun _=>aB P wl t len l H:=by
 unfold ee
 rw [S9]
 cases O9 l <;> simp [bq,ck]
def ldL (P:Program) (t:TypeId) (off row:Nat):Nat→List (List V)→Option V
 | _,[]=>none
 | i,r::rs=>bif row==i then aP P t (r.drop off) else ldL P t off row (i+1) rs
theorem SK {P:Program} {t:TypeId} {off row i:Nat}:ldL P t off row i []=none:=rfl
theorem LJ {P:Program} {t:TypeId} {off row i:Nat} {r:List V} {rs:List (List V)}:ldL P t off row i (r::rs)=bif row==i then aP P t (r.drop off) else ldL P t off row (i+1) rs:=rfl
theorem PH {P:Program} {t:TypeId} {off row:Nat}:∀ {rs:List (List V)} {i:Nat},i≤row→ldL P t off row i rs=(rs[row - i]?).bind fun r=>aP P t (r.drop off)
 | [],i,_=>by simp [ldL]
 | r::rs,i,h=>by
  rw [ldL]
  by_cases e:row=i
  ·subst e;simp
  ·have h1:(row==i)=false:=by simp [e]
   have h2:row - i=(row - (i+1))+1:=by omega
   rw [h1,cond_false,PH (by omega),h2,List.getElem?_cons_succ]
theorem Qf {P:Program} {t:TypeId} {g row off e g':Nat} {r:List V} {rs:List (List V)} {lv:Bool} :
  ldB P t g row off (some (.rows e (r::rs) g' lv))=sif (g==g') (ldL P t off row 0 (r::rs)) none:=by
 rw [PH (Nat.zero_le _),Nat.sub_zero]
 rfl
def KN (x:Int×Int×Int×Int):List V:=[.lit (.int .i64 x.1),.lit (.int .i64 x.2.1),.lit (.int .i64 x.2.2.1),.lit (.int .i64 x.2.2.2)]
def gP (x:Int×Int×Int×Int×Int×Int×Int):List V:=
 [.lit (.int .i64 x.1),.lit (.int .i64 x.2.1),.lit (.int .i64 x.2.2.1),.lit (.int .u64 x.2.2.2.1),.lit (.int .u64 x.2.2.2.2.1),.lit (.int .u64 x.2.2.2.2.2.1),.lit (.int .i64 x.2.2.2.2.2.2)]
def kD (x:List Int):List V:=[.ro (x.map (aQ .i64))]
theorem mb (x:Int×Int×Int×Int×Int×Int×Int):bl (gP x)=true:=rfl
theorem nB (x:List Int):bl (kD x)=true:=by
 have:=pu (k := .i64) (l:=x)
 simp [kD,bl,V.pure,this]
section
variable {lf:List (Int×Int×Int×Int×Int×Int×Int)} {ll:List (List Int)} {n i:Nat} {a b c d e f g:Int} {x:List Int}
theorem Dz:cz (lf.map gP)=true:=dR mb
theorem Fz:cz (ll.map kD)=true:=dR nB
theorem CB:kj n (lf.map gP)=lf.map gP:=eX mb
theorem GO:kj n (ll.map kD)=ll.map kD:=eX nB
theorem Bz:gp n (lf.map gP)=lf.map gP:=d8 mb
theorem Ca:gp n (ll.map kD)=ll.map kD:=d8 nB
theorem Kc:bG 7 (lf.map gP)=true:=dE fun _=>rfl
theorem Lh:bG 1 (ll.map kD)=true:=dE fun _=>rfl
theorem Gb:(lf.map gP).set i [.lit (.int .i64 a),.lit (.int .i64 b),.lit (.int .i64 c),.lit (.int .u64 d),.lit (.int .u64 e),.lit (.int .u64 f),.lit (.int .i64 g)]=(lf.set i (a,b,c,d,e,f,g)).map gP:=by rw [List.map_set];rfl
theorem Bt:[[V.lit (.int .i64 a),.lit (.int .i64 b),.lit (.int .i64 c),.lit (.int .u64 d),.lit (.int .u64 e),.lit (.int .u64 f),.lit (.int .i64 g)]]=[(a,b,c,d,e,f,g)].map gP:=rfl
theorem HN:(ll.map kD).set i [.ro (x.map (aQ .i64))]=(ll.set i x).map kD:=by rw [List.map_set];rfl
theorem Gl:(ll.map kD).set i [.ro []]=(ll.set i []).map kD:=by rw [List.map_set];rfl
theorem Dy:[[V.ro (x.map (aQ .i64))]]=[x].map kD:=rfl
theorem Am:[[V.ro []]]=[([]:List Int)].map kD:=rfl
theorem Gi:List.replicate n [V.lit (.int .i64 a),.lit (.int .i64 b),.lit (.int .i64 c),.lit (.int .u64 d),.lit (.int .u64 e),.lit (.int .u64 f),.lit (.int .i64 g)]=(List.replicate n (a,b,c,d,e,f,g)).map gP:=by rw [List.map_replicate];rfl
end
theorem Ip {k:IntKind} {x y:Int}:ne (.int k x) (.int k y)=(x==y):=by
 cases k <;> rfl
theorem CX {k:IntKind} {x:Int}:fP k (.int k x)=true:=by
 cases k <;> rfl
theorem Hv {cx:Cx} {c o:Bool} {v:Value} {args:List V} {H:Hp}:cw cx c o (.lit v) args H=none:=rfl
end Go.Ab
namespace Go.Ab
section steps
variable {cx:Cx} {K:Out→St→Res} {s:St} {r:Res} {id j n0:Nat} {ops:Array Oper} {a a':List Nat×List Nat} {env:List V} {H:Hp} {o:Oper} {i:Nat} {L:List Nat}
end steps
def apA:List Nat→List Nat→Bool
 | [],_=>true
 | i::l,m => !(inN i m)&&apA l m
where inN:Nat→List Nat→Bool
 | _,[]=>false
 | i,k::m=>i==k||inN i m
theorem Pz {i:Nat}:∀ {m:List Nat},apA.inN i m=m.contains i
 | []=>rfl
 | k::m=>by
  rw [apA.inN,Pz,List.contains_cons]
theorem Ol:∀ {l m:List Nat},rc (l,m)=apA l m
 | [],m=>rfl
 | i::l,m=>by
  have:=Ol (l:=l) (m:=m)
  unfold rc at this ⊢
  simp only [List.all_cons] at this ⊢
  rw [this,apA,Pz]
theorem UT {l m:List Nat} {k:Res}:apt (l,m) k=sif (apA l m) k none:=by
 unfold apt sif
 rw [Ol,Bool.cond_eq_ite]
theorem Sa {m:List Nat}:apA [] m=true:=rfl
theorem LL {i:Nat} {l m:List Nat}:apA (i::l) m=(!(apA.inN i m)&&apA l m):=rfl
theorem RD {i:Nat}:apA.inN i []=false:=rfl
theorem Kx {i k:Nat} {m:List Nat}:apA.inN i (k::m)=(i==k||apA.inN i m):=rfl
theorem Rt {i g n:Nat} {l m:List Nat}:lgR (.own i g n) (l,m)=(i::l,m):=rfl
theorem Qg {i g x y:Nat} {l m:List Nat}:lgR (.ptr i g x y) (l,m)=(i::l,m):=rfl
theorem Rr {i:Nat} {l m:List Nat}:lgR (.map i) (l,m)=(i::l,m):=rfl
theorem UN {rs:List (List V)} {l m:List Nat}:lgR (.ro rs) (l,m)=(l,m):=rfl
theorem Ym {rs:List V} {l m:List Nat}:lgR (.rp rs) (l,m)=(l,m):=rfl
theorem TV {l m:List Nat}:lgR .nil (l,m)=(l,m):=rfl
theorem QE {v:Value} {l m:List Nat}:lgR (.lit v) (l,m)=(l,m):=rfl
theorem RZ {i g n:Nat} {l m:List Nat}:lgW (.own i g n) (l,m)=(l,i::m):=rfl
theorem TY {i g x y:Nat} {l m:List Nat}:lgW (.ptr i g x y) (l,m)=(l,i::m):=rfl
theorem Qy {i:Nat} {l m:List Nat}:lgW (.map i) (l,m)=(l,i::m):=rfl
theorem Rq {α:Type} {x:α}:[x].length=1:=rfl
end Go.Ab
set_option maxRecDepth 100000
namespace Go.Ab
def aem:=PLift.up (And.intro (And.intro (And.intro (And.intro (@QG) (@RQ)) (And.intro (@TM) (And.intro (@Ql) (@TP)))) (And.intro (And.intro (@Te) (And.intro (@ac8) (@aeV))) (And.intro (@ae4) (And.intro (@dF) (@oG))))) (And.intro (And.intro (And.intro (@ae) (And.intro (@Q3) (@Uh))) (And.intro (@TD) (And.intro (@lx) (@kT)))) (And.intro (And.intro (@Ry) (And.intro (@JX) (@F6))) (And.intro (@TN) (And.intro (@cond_true.{1}) (@cond_false.{1}))))))
theorem syP:type_of% aem.down:=aem.down
def aei:=PLift.up (And.intro (And.intro (And.intro (And.intro (And.intro (And.intro (And.intro (And.intro (@HC) (@Vc)) (And.intro (@Xc) (@XR))) (And.intro (And.intro (@Ux) (@Sm)) (And.intro (@W7) (And.intro (@Q5) (@Ys))))) (And.intro (And.intro (And.intro (@RL) (@YA)) (And.intro (@X6) (And.intro (@YJ) (@Qi)))) (And.intro (And.intro (@aaF) (@abu)) (And.intro (@UU) (And.intro (@Ts) (@Uy)))))) (And.intro (And.intro (And.intro (And.intro (@Z9) (@aaU)) (And.intro (@RM) (@adP))) (And.intro (And.intro (@UL) (@abe)) (And.intro (@aaJ) (And.intro (@abI) (@Tt))))) (And.intro (And.intro (And.intro (@Qb) (@QD)) (And.intro (@adr) (And.intro (@ads) (@abX)))) (And.intro (And.intro (@P5) (@Dc)) (And.intro (@SC) (And.intro (@Tq) (@ZZ))))))) (And.intro (And.intro (And.intro (And.intro (And.intro (@JL) (@Mx)) (And.intro (@S1) (@Q1))) (And.intro (And.intro (@Rc) (@Rx)) (And.intro (@TQ) (And.intro (@Yx) (@Ub))))) (And.intro (And.intro (And.intro (@TR) (@Sv)) (And.intro (@Ze) (And.intro (@SO) (@XQ)))) (And.intro (And.intro (@TZ) (@QZ)) (And.intro (@QQ) (And.intro (@Sr) (@Kh)))))) (And.intro (And.intro (And.intro (And.intro (@Jf) (@K5)) (And.intro (@Gv) (@KO))) (And.intro (And.intro (@JO) (@J6)) (And.intro (@NY) (And.intro (@Nq) (@Rl))))) (And.intro (And.intro (And.intro (@J2) (@Ss)) (And.intro (@Lm) (And.intro (@Kv) (@Nx)))) (And.intro (And.intro (@MC) (@Re)) (And.intro (@I1) (And.intro (@Qo) (@MX)))))))) (And.intro (And.intro (And.intro (And.intro (And.intro (And.intro (@Kq) (@NX)) (And.intro (@Kz) (@Kn))) (And.intro (And.intro (@aez) (@aeL)) (And.intro (@aeo) (And.intro (@Jl) (@LM))))) (And.intro (And.intro (And.intro (@LH) (@Ir)) (And.intro (@Fq) (And.intro (@pu) (@F2)))) (And.intro (And.intro (@B9) (@Ge)) (And.intro (@Ta) (And.intro (@G5) (@F4)))))) (And.intro (And.intro (And.intro (And.intro (@Gp) (@Ci)) (And.intro (@GK) (@Db))) (And.intro (And.intro (@IR) (@Gd)) (And.intro (@F8) (And.intro (@CC) (@MW))))) (And.intro (And.intro (And.intro (@Lz) (@KQ)) (And.intro (@Se) (And.intro (@TU) (@MZ)))) (And.intro (And.intro (@SV) (@Ny)) (And.intro (@Di) (And.intro (@IJ) (@GM))))))) (And.intro (And.intro (And.intro (And.intro (And.intro (@GF) (@FD)) (And.intro (@Cm) (@H5))) (And.intro (And.intro (@Il) (@FO)) (And.intro (@Ft) (And.intro (@CZ) (@Gw))))) (And.intro (And.intro (And.intro (@FZ) (@CV)) (And.intro (@Cc) (And.intro (@Au) (@w8)))) (And.intro (And.intro (@Ou) (@PJ)) (And.intro (@Wo) (And.intro (@Rf) (@Lo)))))) (And.intro (And.intro (And.intro (And.intro (@wS) (@rK)) (And.intro (@SL) (@Ih))) (And.intro (And.intro (@SA) (@MY)) (And.intro (@Uk) (And.intro (@M4) (@Mr))))) (And.intro (And.intro (And.intro (@Sp) (@KA)) (And.intro (@Ik) (And.intro (@RF) (@M5)))) (And.intro (And.intro (@N3) (@Lk)) (And.intro (@JA) (And.intro (@Hh) (@FG))))))))) (And.intro (And.intro (And.intro (And.intro (And.intro (And.intro (And.intro (@Kb) (@Gh)) (And.intro (@C9) (@LB))) (And.intro (And.intro (@Hq) (@CY)) (And.intro (@RV) (And.intro (@Uj) (@RP))))) (And.intro (And.intro (And.intro (@NR) (@Q8)) (And.intro (@NQ) (And.intro (@Lq) (@L6)))) (And.intro (And.intro (@Ls) (@M0)) (And.intro (@NO) (And.intro (@KL) (@LK)))))) (And.intro (And.intro (And.intro (And.intro (@MK) (@ND)) (And.intro (@K4) (@Mp))) (And.intro (And.intro (@HA) (@Ju)) (And.intro (@M7) (And.intro (@Ly) (@M2))))) (And.intro (And.intro (And.intro (@Qc) (@Sb)) (And.intro (@P6) (And.intro (@SI) (@KI)))) (And.intro (And.intro (@Nr) (@GC)) (And.intro (@FH) (And.intro (@Gn) (@Mz))))))) (And.intro (And.intro (And.intro (And.intro (And.intro (@Hu) (@P1)) (And.intro (@N6) (@GN))) (And.intro (And.intro (@Ko) (@RI)) (And.intro (@L1) (And.intro (@Nd) (@NJ))))) (And.intro (And.intro (And.intro (@IN) (@F0)) (And.intro (@Mf) (And.intro (@IH) (@H3)))) (And.intro (And.intro (@JP) (@Hj)) (And.intro (@Np) (And.intro (@Nu) (@IU)))))) (And.intro (And.intro (And.intro (And.intro (@IS) (@LS)) (And.intro (@Hi) (@I4))) (And.intro (And.intro (@M3) (@Nn)) (And.intro (@QC) (And.intro (@LY) (@KV))))) (And.intro (And.intro (And.intro (@Tv) (@J3)) (And.intro (@Ix) (And.intro (@FC) (@Mg)))) (And.intro (And.intro (@Jm) (@HL)) (And.intro (@LX) (And.intro (@IT) (@Ic)))))))) (And.intro (And.intro (And.intro (And.intro (And.intro (And.intro (@Nv) (@T3)) (And.intro (@SU) (@P4))) (And.intro (And.intro (@Nw) (@Ah)) (And.intro (@FS) (And.intro (@FN) (@aey))))) (And.intro (And.intro (And.intro (@TK) (@MQ)) (And.intro (@IE) (And.intro (@K7) (@Gy)))) (And.intro (And.intro (@JN) (@F5)) (And.intro (@JJ) (And.intro (@FK) (@DE)))))) (And.intro (And.intro (And.intro (And.intro (@Bo) (@Jy)) (And.intro (@K6) (@HI))) (And.intro (And.intro (@MU) (@MJ)) (And.intro (@Fv) (And.intro (@CD) (@Al))))) (And.intro (And.intro (And.intro (@List.length_map.{0,0}) (@List.length_cons.{0})) (And.intro (@List.length_nil.{0}) (And.intro (@List.length_replicate.{0}) (@List.length_set.{0})))) (And.intro (And.intro (@List.drop_succ_cons.{0}) (@List.drop_zero.{0})) (And.intro (@List.take_succ_cons.{0}) (And.intro (@List.take_zero.{0}) (@List.set_cons_zero.{0}))))))) (And.intro (And.intro (And.intro (And.intro (And.intro (@List.set_cons_succ.{0}) (@List.nil_append.{0})) (And.intro (@List.cons_append.{0}) (@List.append_nil.{0}))) (And.intro (And.intro (@List.getElem?_cons_zero.{0}) (@List.getElem?_cons_succ.{0})) (And.intro (@List.take_nil.{0}) (And.intro (@Option.map_some.{0,0}) (@Option.map_none.{0,0}))))) (And.intro (And.intro (And.intro (@Option.bind_some.{0,0}) (@Option.bind_none.{0,0})) (And.intro (@Nat.zero_add) (And.intro (@Nat.add_zero) (@Nat.le_refl)))) (And.intro (And.intro (@Bool.and_true) (@Bool.true_and)) (And.intro (@Bool.and_false) (And.intro (@Bool.false_and) (@Bool.or_true)))))) (And.intro (And.intro (And.intro (And.intro (@Bool.or_false) (@Bool.true_or)) (And.intro (@Bool.false_or) (@Bool.not_true))) (And.intro (And.intro (@Bool.not_false) (@beq_self_eq_true.{0})) (And.intro (@bne_self_eq_false.{0}) (And.intro (@decide_true) (@decide_false))))) (And.intro (And.intro (And.intro (@if_true.{1}) (@if_false.{1})) (And.intro (@Bool.false_eq_true) (And.intro (@and_self) (@and_true)))) (And.intro (And.intro (@true_and) (@Option.isSome_some.{0})) (And.intro (@Option.isSome_none.{0}) (And.intro (@Int.cast_ofNat_Int) (@Int.toNat_natCast))))))))))
theorem syA:type_of% aei.down:=aei.down
end Go.Ab
set_option maxRecDepth 100000
namespace Go.Ab
def aew:=PLift.up (And.intro (And.intro (And.intro (And.intro (And.intro (@ou) (@Lx)) (And.intro (@Jt) (And.intro (@SK) (@LJ)))) (And.intro (And.intro (@Qf) (@Dz)) (And.intro (@Fz) (And.intro (@CB) (@GO))))) (And.intro (And.intro (And.intro (@Bz) (@Ca)) (And.intro (@Kc) (And.intro (@Lh) (@Gb)))) (And.intro (And.intro (@Bt) (@HN)) (And.intro (@Gl) (And.intro (@Dy) (@Am)))))) (And.intro (And.intro (And.intro (And.intro (@Gi) (@Ip)) (And.intro (@CX) (And.intro (@Hv) (@UT)))) (And.intro (And.intro (@Sa) (@LL)) (And.intro (@RD) (And.intro (@Kx) (@Rt))))) (And.intro (And.intro (And.intro (@Qg) (@Rr)) (And.intro (@UN) (And.intro (@Ym) (@TV)))) (And.intro (And.intro (@QE) (@RZ)) (And.intro (@TY) (And.intro (@Qy) (@Rq)))))))
theorem syQ:type_of% aew.down:=aew.down
end Go.Ab
set_option linter.unusedVariables false
set_option linter.unusedSimpArgs false
namespace Go.Ab
open Go.Proofs Go.RowKit Go.Shelf Go.Sort Go.Lib
def oc:List (List V)→Option (List Int)
 | []=>some []
 | [.lit (.int .i64 n)]::l=>(oc l).map (n :: ·)
 | _=>none
theorem um:∀ {rs:List (List V)} {zs:List Int},oc rs=some zs→rs=zs.map fun n=>[V.lit (.int .i64 n)]
 | [],zs,h=>by cases h;rfl
 | r::l,zs,h=>by
  unfold oc at h
  split at h
  ·rename_i h2;cases h2
  ·rename_i n l' h2
   cases h2
   cases hl:oc l with
   | none=>rw [hl] at h;cases h
   | some z=>rw [hl] at h;cases h;rw [List.map_cons,← um hl]
  ·cases h
def IW (zs:List Int) (a b:Nat):List Int:=zs.take a++zs.drop b++List.replicate (b - a) 0
def Qa (args:List V) (H:Hp):Option (V×Hp):=
 match args with
 | [.own id g len,.lit (.int .i64 a),.lit (.int .i64 b)]=>
  match H[id]? with
  | some (.rows e rs g' true)=>
   if e=1∧g=g'∧len≤rs.length∧0≤a∧a<b∧b.toNat≤len∧len≤9223372036854775807 then
    (oc (rs.take len)).map fun zs=>(.own id g (len - (b.toNat - a.toNat)),H.set id (.rows 1 ((IW zs a.toNat b.toNat).map (fun n=>[V.lit (.int .i64 n)])++rs.drop len) g true))
   else none
  | _=>none
 | _=>none
section
variable {P:Program} {ρ:Ren}
set_option maxHeartbeats 4000000 in
set_option maxRecDepth 1000000 in
theorem QA (L:Lays2.n23 P ρ) {b off c i j:Nat} {d:Array Int} {w:World} (hH:Holds (Value.int .i64) w b off d) (hc:d.size≤c) (hm:d.size≤9223372036854775807) (hij:i<j) (hj:j≤d.size) :
  Calls P (ρ.f 23) #[.slice (some ⟨b,off,none⟩) d.size c,.int .i64 i,.int .i64 j] w fun e w'=>e = .returned (.slice (some ⟨b,off,none⟩) (d.size - (j - i)) c) ∧
   w'=putRow (Value.int .i64) (Sort.ahead w 1) b off (IW d.toList i j).toArray:=by
 have mixed:=L.mixed;have t0:=L.t0;have a0:=L.a0;have z0:=L.z0;have v0:=L.v0;have t3:=L.t3;have a3:=L.a3;have z3:=L.z3;have v3:=L.v3
 have t4:=L.t4;have a4:=L.a4;have z4:=L.z4;have v4:=L.v4;have t22:=L.t22;have a22:=L.a22;have z22:=L.z22;have v22:=L.v22
 obtain ⟨info,hinfo,hz0,hz1,_⟩:=info_parts L.i3
 generalize hns:(d.toList.drop j).map (Value.int .i64)=ns
 have nl:ns.length=d.size - j:=by rw [← hns];simp
 have at_:∀ t,t<d.size - j→ns[t]? = some (Value.int .i64 d[j+t]!):=fun t ht=>by
  rw [← hns,List.getElem?_map,List.getElem?_drop,Array.getElem?_toList,getElem!_pos d (j+t) (by omega),Array.getElem?_eq_getElem (by omega)]
  rfl
 -- where those behind lie
 have src:∃ A:Addr,(if c=j then some (⟨b,off,none⟩:Addr) else some ⟨b,off+j,none⟩)=some A∧Hid (∀ t u,ns[t]? = some u→w.drew.cell? (A.add t)=some u):=by
  rcases Decidable.em (c=j) with e | e
  ·refine ⟨⟨b,off,none⟩,if_pos e,fun t u hu => ?_⟩
   have:=(List.getElem?_eq_some_iff.1 hu).1
   omega
  ·refine ⟨⟨b,off+j,none⟩,if_neg e,fun t u hu => ?_⟩
   have ht:t<d.size - j:=by have:=(List.getElem?_eq_some_iff.1 hu).1;omega
   rw [at_ t ht] at hu
   rw [Addr.add_lit,Nat.add_assoc]
   exact (hH (j+t) (by omega)).1.trans hu
 obtain ⟨A,hA,hsrc⟩:=src
 have one:Hid (ns.length=(d.size - j)*1):=by rw [Nat.mul_one];exact nl
 have cells:Hid (∀ u ∈ ns,u.oneCell'=true):=fun u hu=>by
  rw [← hns] at hu
  obtain ⟨x,_,rfl⟩:=List.mem_map.1 hu
  rfl
 have dest:Hid (∀ t,t<ns.length→(w.drew.cell? ⟨b,off+i*1+t,none⟩).isSome=true∧w.drew.frozen? ⟨b,off+i*1+t,none⟩=false):=fun t ht=>by
  rw [nl] at ht
  rw [Nat.mul_one,Nat.add_assoc]
  obtain ⟨h1,h2⟩:=hH (i+t) (by omega)
  exact ⟨by show (w.cell? _).isSome=true;rw [h1];rfl,h2⟩
 obtain ⟨W,hW⟩:∃ W,W=w.drew.setCells b (off+i*1) ns:=⟨_,rfl⟩
 have hAh:=holds_ahead (Value.int .i64) w 1 b off d hH
 have hP:W=putRow (Value.int .i64) (Sort.ahead w 1) b off (lay d i (d.toList.drop j)):=by
  rw [hW,← hns,Nat.mul_one,← putRow_setCells (Value.int .i64) (Sort.ahead w 1) b off _ d i (by simp;omega),putRow_self (Value.int .i64) (Sort.ahead w 1) b off d hAh]
  rfl
 have hHW:Holds (Value.int .i64) W b off (lay d i (d.toList.drop j)):=by rw [hP];exact holds_putRow (Value.int .i64) _ b off d _ hAh (lay_size _ _ _)
 have wipe:∀ ty,(Builtin.clear_ #[ρ.t 22] ty #[.slice (some ⟨b,off+(i+(d.size - j)),none⟩) (d.size - (i+(d.size - j))) (c - (i+(d.size - j)))]).run P W = .ok (.tuple #[]) (W.setCells b (off+(i+(d.size - j))) (List.replicate (d.size - (i+(d.size - j))) (.int .i64 0))):=fun ty=>by
  refine Lib.run_clear_slice W _ _ ty _ t22 v3 rfl rfl b (off+(i+(d.size - j))) _ _ (by omega) (fun t ht => ?_) (fun t ht => ?_)
  all_goals rw [Nat.add_assoc]
  ·rw [(hHW _ (by rw [lay_size];omega)).1];rfl
  ·exact (hHW _ (by rw [lay_size];omega)).2
 have keep:Aside (W=putRow (Value.int .i64) (Sort.ahead w 1) b off (lay d i (d.toList.drop j))):=hP
 have wIs:Hid (W=w.drew.setCells b (off+i*1) ns):=hW
 have hic:i≤c:=by omega
 have hjc:j≤c:=by omega
 clear hW hP hHW hAh hH at_ hns nl
 go_enter L.f23,Body2.n23_ntmps ρ
 go_wp2_with fail
 go_region_law_o (refine step_append_room rfl (.tmp 22) (.tmp 25) (ρ.t 22) rfl (ρ.t 3) info 1 t22 hinfo hz1 b off i c (by simp [Act.eval,Act.put]) A (d.size - j) (c - j) ns (by simp [Act.eval,Act.put]) one.out hsrc.out cells.out (by omega) dest.out ?_;rw [← wIs.out])
 go_wp2
 go_ret
 refine ⟨by rw [show d.size - (j - i)=i+(d.size - j) by omega];rfl,?_⟩
 unfold IW
 rw [← delete_arr d i j 0 (by omega) hj,← putRow_setCells (Value.int .i64) _ b off _ _ (i+(d.size - j)) (by rw [lay_size];simp;omega),← keep.out,List.map_replicate,show d.size - (i+(d.size - j))=j - i by omega]
theorem MF {zs:List Int} {a b:Nat} (h:a≤b) (hb:b≤zs.length):(IW zs a b).length=zs.length:=by
 unfold IW
 simp
 omega
theorem IV {w:World} {b k:Nat} {d:Array Int} (h:k≠b):(putRow (Value.int .i64) (Sort.ahead w 1) b 0 d).heap[k]? = w.heap[k]? := by
 show (w.heap.modify b _)[k]? = _
 rw [Array.getElem?_modify,if_neg (fun e=>h e.symm)]
theorem AL {w:World} {b:Nat} {d:Array Int} {arr:Array Value} {e:TypeId} (h:w.heap[b]? = some (.cells arr e (0,0))):(putRow (Value.int .i64) (Sort.ahead w 1) b 0 d).heap[b]? = some (.cells (putCells (Value.int .i64) 0 d arr) e (0,0)):=by
 show (w.heap.modify b _)[b]? = _
 rw [Array.getElem?_modify,if_pos rfl,h]
 rfl
theorem BO {B0:Nat} {w0 w:World} {R:Ro} {σ:List Sg} {H H':Hp} {v:V} {args:List V} {cargs:Array Value} (L:Lays2.n23 P ρ) (h:Qa args H=some (v,H')) (hI:Inv 0 B0 w0 R σ H w) (hA:bJ R σ args cargs):Calls P (ρ.f 23) cargs w (FU 0 B0 w0 R σ w v H'):=by
 unfold Qa at h
 split at h
 case h_2=>cases h
 rename_i id g len a b
 split at h
 case h_2=>cases h
 rename_i e0 rs g' hb
 split at h
 case isFalse=>cases h
 rename_i hc
 obtain ⟨rfl,rfl,hlen,ha0,hab,hbl,hbig⟩:=hc
 rw [Option.map_eq_some_iff] at h
 obtain ⟨zs,hz,h⟩:=h
 cases h
 have hrs:=um hz
 have hzl:zs.length=len:=by
  have:=congrArg List.length hrs
  rw [List.length_take,List.length_map] at this
  omega
 obtain ⟨ca,l1,rfl,hr1,hA⟩:=hA.uncons
 obtain ⟨cb,l2,e2,hr2,hA⟩:=hA.uncons
 obtain ⟨cc,l3,e3,hr3,hA⟩:=hA.uncons
 have e4:=hA.nil_inv
 cases hr2
 cases hr3
 obtain ⟨Ad,l,c,s,rfl,hs,hh,hg,hgen⟩:=gH hr1
 obtain ⟨q1,q2,q3,q4,q5,q6⟩:=fZ hI hb hs hh
 obtain ⟨rfl,hn,hsm⟩:=hgen q1.symm
 cases hblk:s.blk with
 | none=>
  have:=q5 hblk
  subst this
  simp at hlen
  omega
 | some b0=>
  obtain ⟨rfl,hlc,hcap⟩:=hsm b0 hblk
  obtain ⟨arr,e,hheap,hsz,hcell,hro⟩:=q6 b0 hblk
  have hB:B0≤b0:=hI.ge id _ s b0 (Nat.zero_le _) hb rfl hs hblk
  have hrow:∀ j (hj:j<zs.length),rs[j]? = some [V.lit (.int .i64 zs[j])]:=fun j hj=>by
   have:(rs.take l)[j]? = some [V.lit (.int .i64 zs[j])]:=by rw [hrs,List.getElem?_map,List.getElem?_eq_getElem hj];rfl
   rw [List.getElem?_take] at this
   split at this
   ·exact this
   ·cases this
  have hcv:∀ j (hj:j<zs.length),arr[j]? = some (.int .i64 zs[j]):=fun j hj=>by
   obtain ⟨cv,h1,h2⟩:=hcell j 0 _ _ (hrow j hj) rfl
   cases h2
   rw [Nat.mul_one,Nat.add_zero] at h1
   exact h1
  have hH:Holds (Value.int .i64) w b0 0 zs.toArray:=fun j hj=>by
   have hj':j<zs.length:=by simpa using hj
   rw [Nat.zero_add]
   refine ⟨?_,?_⟩
   ·rw [getElem!_pos zs.toArray j hj]
    unfold World.cell?
    rw [hheap]
    simpa using hcv j hj'
   ·unfold World.frozen?
    rw [hheap]
    simp
  have el:(Value.slice (some ⟨b0,0,none⟩) l c::l1).toArray = #[.slice (some ⟨b0,0,none⟩) zs.toArray.size c,.int .i64 ((a.toNat:Nat):Int),.int .i64 ((b.toNat:Nat):Int)]:=by
   have e2':l1=Value.int .i64 a::l2:=by simpa using e2
   have e3':l2=Value.int .i64 b::l3:=by simpa using e3
   have e4':l3=[]:=by simpa using e4
   rw [e2',e3',e4',Int.toNat_of_nonneg ha0,Int.toNat_of_nonneg (by omega)]
   simp [hzl]
  rw [el]
  refine (QA L hH (by simpa [hzl] using hlc) (by simpa [hzl] using hbig) (by omega) (by simpa [hzl] using hbl)).mono ?_
  rintro x w' ⟨rfl,rfl⟩
  have hcl:=MF (zs:=zs) (a:=a.toNat) (b:=b.toNat) (by omega) (by omega)
  have hsize:(putRow (Value.int .i64) (Sort.ahead w 1) b0 0 (IW zs a.toNat b.toNat).toArray).heap.size=w.heap.size:=by rw [size_putRow];rfl
  have hset:=hI.set (R':=R) (w':=putRow (Value.int .i64) (Sort.ahead w 1) b0 0 (IW zs a.toNat b.toNat).toArray) (b' := .rows 1 ((IW zs a.toNat b.toNat).map (fun n=>[V.lit (.int .i64 n)])++rs.drop l) g true) (s':=s) hb rfl hs hh (Nat.zero_le _) (nH.refl s) (fun k hk => .inl hk)
   ⟨rfl,rfl,rfl,by rw [hsize];exact Nat.le_refl _,fun k hk=>IV (by omega)⟩ (by rw [hsize];exact Nat.le_refl _) (fun k _ hk=>IV (fun e=>hk (by rw [e];exact hblk))) (fd.refl R) (fun _ _ h => .inl h)
   (fun k o u hu hk=>by
    rw [hblk] at hk;cases hk
    have:=(hro o (by simp [hu])).1
    cases this)
   ⟨q1,q2,q3,fun r hr=>by
    rcases List.mem_append.1 hr with hr | hr
    ·obtain ⟨n,_,rfl⟩:=List.mem_map.1 hr
     exact ⟨rfl,rfl⟩
    ·exact q4 r (List.mem_of_mem_drop hr),by
    rw [hblk]
    refine ⟨_,e,AL hheap,?_,fun i j r x hr hx => ?_,fun o ho => ?_⟩
    ·unfold putCells
     rw [Array.size_mapIdx]
     exact hsz
    ·rw [cX hs]
     by_cases hi:i<zs.length
     ·rw [List.getElem?_append_left (by simp;omega),List.getElem?_map,List.getElem?_eq_getElem (by omega)] at hr
      cases hr
      cases j with
      | succ j=>simp at hx
      | zero=>
       cases hx
       refine ⟨.int .i64 ((IW zs a.toNat b.toNat)[i]'(by omega)), ?_, .lit _⟩
       unfold putCells
       have hai:=hcv i hi
       rw [Nat.mul_one,Nat.add_zero,Array.getElem?_mapIdx,hai]
       simp only [Option.map_some,Nat.zero_le,Nat.zero_add,true_and,List.size_toArray,Nat.sub_zero]
       rw [if_pos (by omega),getElem!_pos _ _ (by simp;omega)]
       simp
     ·rw [List.getElem?_append_right (by simp;omega),List.getElem?_drop] at hr
      have hr':rs[i]? = some r:=by
       rw [← hr]
       congr 1
       simp
       omega
      obtain ⟨cv,h1,h2⟩:=hcell i j r x hr' hx
      refine ⟨cv,?_,h2⟩
      unfold putCells
      rw [Array.getElem?_mapIdx,h1]
      simp only [Option.map_some,Nat.zero_le,Nat.zero_add,true_and,List.size_toArray,Nat.sub_zero]
      rw [if_neg (by omega)]
    ·have:=(hro o ho).1
     cases this⟩
  rw [cX hs] at hset
  refine ⟨R,σ,hset.widen (fun k hk => ?_),?_,by rw [hsize];exact Nat.le_refl _⟩
  ·rw [hblk] at hk;cases hk;exact hB
  ·have e5:zs.toArray.size - (b.toNat - a.toNat)=l - (b.toNat - a.toNat):=by simp [hzl]
   rw [e5]
   refine .own id g (l - (b.toNat - a.toNat)) _ _ c s hs hh (by omega) (fun _=>⟨rfl,fun hz => ?_,fun b1 hb1 => ?_⟩)
   ·rw [hblk] at hz;cases hz
   ·rw [hblk] at hb1;cases hb1
    exact ⟨rfl,by omega,hcap⟩
end
def dlB (id g len:Nat) (a b:Int) (H:Hp):Option B→Option (V×Hp)
 | some (.rows e rs g' true)=>
  if e=1∧g=g'∧len≤rs.length∧0≤a∧a<b∧b.toNat≤len∧len≤9223372036854775807 then
   (oc (rs.take len)).map fun zs=>(.own id g (len - (b.toNat - a.toNat)),H.set id (.rows 1 ((IW zs a.toNat b.toNat).map (fun n=>[V.lit (.int .i64 n)])++rs.drop len) g true))
  else none
 | _=>none
theorem Sk {id g len:Nat} {a b:Int} {H:Hp}:Qa [.own id g len,.lit (.int .i64 a),.lit (.int .i64 b)] H=dlB id g len a b H H[id]? := by
 unfold Qa dlB
 rfl
theorem ua:∀ l:List Int,oc (l.map (aQ .i64))=some l
 | []=>rfl
 | n::l=>by rw [List.map_cons,aQ,oc,ua l];rfl
theorem NB {id g len e:Nat} {a b:Int} {H:Hp} {l:List Int}:dlB id g len a b H (some (.rows e (l.map (aQ .i64)) g true)) =
  ck (e==1) (ck (decide (len≤l.length∧0≤a∧a<b∧b.toNat≤len∧len≤9223372036854775807)) (some (.own id g (len - (b.toNat - a.toNat)),H.set id (.rows 1 ((IW (l.take len) a.toNat b.toNat++l.drop len).map (aQ .i64)) g true)))):=by
 unfold dlB
 dsimp only
 rw [List.length_map,← List.map_take,ua,← List.map_drop]
 by_cases he:e=1
 ·subst he
  rw [beq_self_eq_true,dF]
  by_cases h:len≤l.length∧0≤a∧a<b∧b.toNat≤len∧len≤9223372036854775807
  ·rw [if_pos ⟨rfl,rfl,h⟩,decide_eq_true h,dF,List.map_append]
   rfl
  ·rw [if_neg (fun z=>h z.2.2),decide_eq_false h,oG]
 ·have h1:(e==1)=false:=by simp [he]
  rw [h1,oG,if_neg (fun z=>he z.1)]
theorem T9 {P:Program} {M:Mode} {k:Nat} {f:FuncId} {args:List V} {H:Hp} (ho:M.orc f=some Qa):evF P M (k+1) 0 f args H=Qa args H:=by
 rw [evF,ho]
 rfl
end Go.Ab
namespace Go.Ab
def cG (x:Tys):List V:=
 [.lit (.int .i64 x.1),.ro (x.2.1.map (aQ .i64)),.lit (.int .i64 x.2.2.1),.lit (.int .i64 x.2.2.2.1),.lit (.int .i64 x.2.2.2.2.1),.lit (.int .u64 x.2.2.2.2.2.1),.lit (.int .u64 x.2.2.2.2.2.2.1),.lit (.int .u64 x.2.2.2.2.2.2.2.1),.lit (.int .i64 x.2.2.2.2.2.2.2.2)]
def arC (id g row:Nat):List (Int×Nat)→Int→Option V
 | [],_=>none
 | p::l,n=>bif n==p.1 then some (.ptr id g row p.2) else arC id g row l n
theorem QS {id g row:Nat} {n:Int}:arC id g row [] n=none:=rfl
theorem Li {id g row o:Nat} {n i:Int} {l:List (Int×Nat)}:arC id g row ((i,o)::l) n=bif n==i then some (.ptr id g row o) else arC id g row l n:=rfl
def arL (sz off len:Nat):List (Int×Nat):=(List.range len).map fun j:Nat=>((j:Int),off+j*sz)
theorem C7 {id g row:Nat} {n:Int}:∀ {l:List (Int×Nat)},(∀ p ∈ l,p.1≠n)→arC id g row l n=none
 | [],_=>rfl
 | p::l,h=>by
  rw [arC,show (n==p.1)=false by simp;exact fun e=>h p (List.mem_cons_self ..) e.symm,cond_false]
  exact C7 fun q hq=>h q (List.mem_cons_of_mem _ hq)
theorem Oy {id g row sz off:Nat} {q:Nat}:∀ (l:List Nat),q ∈ l→arC id g row (l.map fun j:Nat=>((j:Int),off+j*sz)) (q:Int)=some (.ptr id g row (off+q*sz))
 | [],h=>by cases h
 | x::l,h=>by
  rw [List.map_cons,arC]
  by_cases e:q=x
  ·subst e;simp
  ·have h2:((q:Int)==(x:Int))=false:=by simp;omega
   rw [h2,cond_false]
   exact Oy l ((List.mem_cons.1 h).resolve_left e)
theorem E0 {P:Program} {t e:TypeId} {len sz id g row off:Nat} {k:IntKind} {n:Int} {H:Hp} (h:P.underlying t=some (.array len e)) (hs:aM P e=sz) (hz:sz≠0) :
  ai P t (.ptr id g row off) (.lit (.int k n)) H=arC id g row (arL sz off len) n:=by
 unfold ai
 simp only [h,hs]
 by_cases h0:0≤n
 ·rw [if_pos h0]
  by_cases h1:n<len
  ·rw [if_pos ⟨h1,hz⟩]
   obtain ⟨q,rfl⟩:∃ q:Nat,n=q:=⟨n.toNat,by omega⟩
   rw [arL,Oy (List.range len) (List.mem_range.2 (by omega)),Int.toNat_natCast]
  ·rw [if_neg (fun hh=>h1 hh.1)]
   refine (C7 fun p hp => ?_).symm
   obtain ⟨j,hj,rfl⟩:=List.mem_map.1 hp
   have:=List.mem_range.1 hj
   simp only
   omega
 ·rw [if_neg h0]
  refine (C7 fun p hp => ?_).symm
  obtain ⟨j,hj,rfl⟩:=List.mem_map.1 hp
  simp only
  omega
end Go.Ab
namespace Go.Ab
def aY (x:Tyw):List V:=
 [.lit (.int .i64 x.1),.ro (x.2.1.map aE),.lit (.int .i64 x.2.2.1.1),.lit (.int .i64 x.2.2.1.2.1),.lit (.int .i64 x.2.2.1.2.2.1),.lit (.int .u64 x.2.2.1.2.2.2.1),.lit (.int .u64 x.2.2.1.2.2.2.2.1),.lit (.int .u64 x.2.2.1.2.2.2.2.2.1),.lit (.int .i64 x.2.2.1.2.2.2.2.2.2),.lit (.int .i64 x.2.2.2.1),.lit (.int .i64 x.2.2.2.2)]
mutual
theorem Ht (n:Nat):∀ v:V,v.pure=true→v.kill n=v
 | .lit _,_=>rfl
 | .ro _,_=>rfl
 | .nil,_=>rfl
 | .any,_=>rfl
 | .junk,_=>rfl
 | .agg cs,h=>by rw [V.kill,gg n cs h]
 | .tup cs,h=>by rw [V.kill,gg n cs h]
 | .fn f a b,h=>by
  rw [V.pure,Bool.and_eq_true] at h
  rw [V.kill,gg n a h.1,gg n b h.2]
 | .rp _,_=>rfl
theorem gg (n:Nat):∀ l:List V,bl l=true→ik n l=l
 | [],_=>rfl
 | v::l,h=>by
  rw [bl,Bool.and_eq_true] at h
  rw [ik,Ht n v h.1,gg n l h.2]
end
theorem Bw {n:Nat} {rs:List (List V)}:kj n rs=rs.map (ik n):=by
 unfold kj
 split
 ·rename_i h
  rw [cz,List.all_eq_true] at h
  have:∀ l:List (List V),(∀ x ∈ l,bl x=true)→l.map (ik n)=l:=by
   intro l
   induction l with
   | nil=>intro _;rfl
   | cons r l ih=>intro h;rw [List.map_cons,gg n r (h r (List.mem_cons_self ..)),ih fun x hx=>h x (List.mem_cons_of_mem _ hx)]
  exact (this rs h).symm
 ·rfl
theorem ah {n:Nat} {r:List V} {rs:List (List V)}:kj n (r::rs)=ik n r::kj n rs:=by
 rw [Bw,Bw,List.map_cons]
theorem ag {k:IntKind} {a:Int} {l:List Int}:[V.lit (.int k a)]::List.map (aQ k) l=List.map (aQ k) (a::l):=rfl
theorem af {a b c:Int} {l:Tye}:[V.lit (.int .i64 a),.lit (.int .i64 b),.lit (.int .i64 c)]::List.map aE l=List.map aE ((a,b,c)::l):=rfl
def aec:=PLift.up (And.intro (And.intro (And.intro (And.intro (And.intro (And.intro @rtN.eq_1 @bl.eq_1) (And.intro @bl.eq_2 @V.pure.eq_1)) (And.intro (And.intro @V.pure.eq_2 @V.pure.eq_3) (And.intro @V.pure.eq_4 @V.pure.eq_5))) (And.intro (And.intro (And.intro @V.pure.eq_6 @V.pure.eq_7) (And.intro @V.pure.eq_8 @V.pure.eq_9)) (And.intro (And.intro @V.pure.eq_10 @V.pure.eq_11) (And.intro @V.pure.eq_12 @V.pure.eq_13)))) (And.intro (And.intro (And.intro (And.intro @nsh.eq_1 @VU.eq_1) (And.intro @VU.eq_2 @VU.eq_3)) (And.intro (And.intro @V.kill.eq_1 @V.kill.eq_2) (And.intro @V.kill.eq_3 @V.kill.eq_4))) (And.intro (And.intro (And.intro @V.kill.eq_5 @V.kill.eq_6) (And.intro @V.kill.eq_7 @V.kill.eq_8)) (And.intro (And.intro @V.kill.eq_9 @V.kill.eq_10) @V.kill.eq_11)))) (And.intro (And.intro (And.intro (And.intro (And.intro @V.kill.eq_12 @V.kill.eq_13) (And.intro @ik.eq_1 @ik.eq_2)) (And.intro (And.intro @spl.eq_1 @spl.eq_2) (And.intro @V.shift.eq_1 @V.shift.eq_2))) (And.intro (And.intro (And.intro @V.shift.eq_3 @V.shift.eq_4) (And.intro @V.shift.eq_5 @V.shift.eq_6)) (And.intro (And.intro @V.shift.eq_7 @V.shift.eq_8) @V.shift.eq_9))) (And.intro (And.intro (And.intro (And.intro @V.shift.eq_10 @V.shift.eq_11) (And.intro @V.shift.eq_12 @V.shift.eq_13)) (And.intro (And.intro @gN.eq_1 @gN.eq_2) (And.intro @V.scal.eq_1 @V.scal.eq_2))) (And.intro (And.intro (And.intro @V.scal.eq_3 @V.scal.eq_4) (And.intro @Ct.eq_1 @Ct.eq_2)) (And.intro (And.intro @aQ.eq_1 @kS.eq_1) @aE.eq_1)))))
theorem syD:type_of% aec.down:=aec.down
def aet:=PLift.up (And.intro (And.intro (And.intro @syQ @KN.eq_1) (And.intro @gP.eq_1 @kD.eq_1)) (And.intro (And.intro @cG.eq_1 @aY.eq_1) (And.intro @QS @Li)))
theorem syE:type_of% aet.down:=aet.down
end Go.Ab
namespace Go.Ab
open Go
def eT (x:Int×Int×Int):List V:=[.lit (.int .i64 x.1),.lit (.int .i64 x.2.1),.lit (.int .u64 x.2.2)]
def J1 (x:Typ):List V:=
 [.lit (.int .i64 x.1.1),.lit (.int .i64 x.1.2.1),.lit (.int .i64 x.1.2.2.1),.lit (.int .i64 x.1.2.2.2),.ro (x.2.1.map aA),.ro (x.2.2.1.map (aQ .u64)),.ro (x.2.2.2.1.map aY),.ro (x.2.2.2.2.map cG)]
theorem nM (x:Int×Int×Int):bl (eT x)=true:=rfl
theorem gm (x:Tyw):bl (aY x)=true:=by
 have h:cz (x.2.1.map aE)=true:=dR fun _=>rfl
 simp [aY,bl,V.pure,h]
theorem iT (x:Tys):bl (cG x)=true:=by
 have h:=pu (k := .i64) (l:=x.2.1)
 simp [cG,bl,V.pure,h]
section
variable {lw:List Tyw} {ls:List Tys} {lp:Tye} {n i:Nat} {a b c d e f g p q r:Int} {x:List Int} {y:Tye}
theorem Fu:cz (lw.map aY)=true:=dR gm
theorem Gc:kj n (lw.map aY)=lw.map aY:=eX gm
theorem CW:gp n (lw.map aY)=lw.map aY:=d8 gm
theorem NV:bG 11 (lw.map aY)=true:=dE fun _=>rfl
theorem Jb:(lw.map aY).set i [.lit (.int .i64 p),.ro (y.map aE),.lit (.int .i64 a),.lit (.int .i64 b),.lit (.int .i64 c),.lit (.int .u64 d),.lit (.int .u64 e),.lit (.int .u64 f),.lit (.int .i64 g),.lit (.int .i64 q),.lit (.int .i64 r)]=(lw.set i (p,y,(a,b,c,d,e,f,g),q,r)).map aY:=by rw [List.map_set];rfl
theorem CR:[[V.lit (.int .i64 p),.ro (y.map aE),.lit (.int .i64 a),.lit (.int .i64 b),.lit (.int .i64 c),.lit (.int .u64 d),.lit (.int .u64 e),.lit (.int .u64 f),.lit (.int .i64 g),.lit (.int .i64 q),.lit (.int .i64 r)]]=[(p,y,(a,b,c,d,e,f,g),q,r)].map aY:=rfl
theorem xz:[V.lit (.int .i64 p),.ro (y.map aE),.lit (.int .i64 a),.lit (.int .i64 b),.lit (.int .i64 c),.lit (.int .u64 d),.lit (.int .u64 e),.lit (.int .u64 f),.lit (.int .i64 g),.lit (.int .i64 q),.lit (.int .i64 r)]::lw.map aY=((p,y,(a,b,c,d,e,f,g),q,r)::lw).map aY:=rfl
theorem F7:(lw.map aY).set i [.lit (.int .i64 p),.ro [],.lit (.int .i64 a),.lit (.int .i64 b),.lit (.int .i64 c),.lit (.int .u64 d),.lit (.int .u64 e),.lit (.int .u64 f),.lit (.int .i64 g),.lit (.int .i64 q),.lit (.int .i64 r)]=(lw.set i (p,([]:Tye),(a,b,c,d,e,f,g),q,r)).map aY:=by rw [List.map_set];rfl
theorem BX:[[V.lit (.int .i64 p),.ro [],.lit (.int .i64 a),.lit (.int .i64 b),.lit (.int .i64 c),.lit (.int .u64 d),.lit (.int .u64 e),.lit (.int .u64 f),.lit (.int .i64 g),.lit (.int .i64 q),.lit (.int .i64 r)]]=[(p,([]:Tye),(a,b,c,d,e,f,g),q,r)].map aY:=rfl
theorem xp:[V.lit (.int .i64 p),.ro [],.lit (.int .i64 a),.lit (.int .i64 b),.lit (.int .i64 c),.lit (.int .u64 d),.lit (.int .u64 e),.lit (.int .u64 f),.lit (.int .i64 g),.lit (.int .i64 q),.lit (.int .i64 r)]::lw.map aY=((p,([]:Tye),(a,b,c,d,e,f,g),q,r)::lw).map aY:=rfl
theorem I8:cz (ls.map cG)=true:=dR iT
theorem IZ:kj n (ls.map cG)=ls.map cG:=eX iT
theorem FA:gp n (ls.map cG)=ls.map cG:=d8 iT
theorem R8:bG 9 (ls.map cG)=true:=dE fun _=>rfl
theorem MD:(ls.map cG).set i [.lit (.int .i64 p),.ro (x.map (aQ .i64)),.lit (.int .i64 a),.lit (.int .i64 b),.lit (.int .i64 c),.lit (.int .u64 d),.lit (.int .u64 e),.lit (.int .u64 f),.lit (.int .i64 g)]=(ls.set i (p,x,a,b,c,d,e,f,g)).map cG:=by rw [List.map_set];rfl
theorem Gq:[[V.lit (.int .i64 p),.ro (x.map (aQ .i64)),.lit (.int .i64 a),.lit (.int .i64 b),.lit (.int .i64 c),.lit (.int .u64 d),.lit (.int .u64 e),.lit (.int .u64 f),.lit (.int .i64 g)]]=[(p,x,a,b,c,d,e,f,g)].map cG:=rfl
theorem De:[V.lit (.int .i64 p),.ro (x.map (aQ .i64)),.lit (.int .i64 a),.lit (.int .i64 b),.lit (.int .i64 c),.lit (.int .u64 d),.lit (.int .u64 e),.lit (.int .u64 f),.lit (.int .i64 g)]::ls.map cG=((p,x,a,b,c,d,e,f,g)::ls).map cG:=rfl
theorem I7:(ls.map cG).set i [.lit (.int .i64 p),.ro [],.lit (.int .i64 a),.lit (.int .i64 b),.lit (.int .i64 c),.lit (.int .u64 d),.lit (.int .u64 e),.lit (.int .u64 f),.lit (.int .i64 g)]=(ls.set i (p,([]:List Int),a,b,c,d,e,f,g)).map cG:=by rw [List.map_set];rfl
theorem Cp:[[V.lit (.int .i64 p),.ro [],.lit (.int .i64 a),.lit (.int .i64 b),.lit (.int .i64 c),.lit (.int .u64 d),.lit (.int .u64 e),.lit (.int .u64 f),.lit (.int .i64 g)]]=[(p,([]:List Int),a,b,c,d,e,f,g)].map cG:=rfl
theorem BV:[V.lit (.int .i64 p),.ro [],.lit (.int .i64 a),.lit (.int .i64 b),.lit (.int .i64 c),.lit (.int .u64 d),.lit (.int .u64 e),.lit (.int .u64 f),.lit (.int .i64 g)]::ls.map cG=((p,([]:List Int),a,b,c,d,e,f,g)::ls).map cG:=rfl
theorem Gr:cz (lp.map eT)=true:=dR nM
theorem Gt:kj n (lp.map eT)=lp.map eT:=eX nM
theorem DF:gp n (lp.map eT)=lp.map eT:=d8 nM
theorem KC:bG 3 (lp.map eT)=true:=dE fun _=>rfl
theorem Hx:(lp.map eT).set i [.lit (.int .i64 a),.lit (.int .i64 b),.lit (.int .u64 c)]=(lp.set i (a,b,c)).map eT:=by rw [List.map_set];rfl
theorem Dh:[[V.lit (.int .i64 a),.lit (.int .i64 b),.lit (.int .u64 c)]]=[(a,b,c)].map eT:=rfl
theorem BS:[V.lit (.int .i64 a),.lit (.int .i64 b),.lit (.int .u64 c)]::lp.map eT=((a,b,c)::lp).map eT:=rfl
end
theorem P0 {α:Type} {wl e sz bytes id g len s:Nat} {l:List α} {enc:α→List V} {H:Hp} :
  apB wl e sz bytes id g len [] H (some (.rows s (l.map enc) g true)) =
   sif (Nat.ble wl id) (ck (decide (len≤l.length)) (ck (s==sz||s==0) (bif room (l.take len).length bytes then some (.own id (g+1) (l.take len).length,H.set id (.rows sz ((l.take len).map enc) (g+1) true)) else none))) none:=by
 have h:=JN (wl:=wl) (e:=e) (sz:=sz) (bytes:=bytes) (id:=id) (g:=g) (len:=len) (s:=s) (l:=l) (m:=[]) (enc:=enc) (H:=H)
 rw [List.append_nil] at h
 exact h
theorem SW {kp:Nat→Bool} {cs:List V} {h:Hp}:kq (some kp) (.agg cs) h=bq (rW cs h []) fun p=>some (.agg p.1,p.2.2):=by
 unfold kq FQ bq
 dsimp only
 cases rW cs h [] <;> rfl
theorem J5 {H acc:Hp}:rW [] H acc=some ([],H,acc):=rfl
theorem GI {v:V} {vs:List V} {H acc:Hp}:rW (v::vs) H acc=bq (oo v H acc) fun p=>bq (rW vs p.2.1 p.2.2) fun q=>some (p.1::q.1,q.2.1,q.2.2):=by
 rw [rW]
 unfold bq
 cases oo v H acc with
 | none=>rfl
 | some p=>rfl
theorem I2 {v:Value} {H acc:Hp}:oo (.lit v) H acc=some (.lit v,H,acc):=rfl
theorem KG {r:List (List V)} {H acc:Hp}:oo (.ro r) H acc=some (.ro r,H,acc):=rfl
def hmB (id g len:Nat) (H acc:Hp):Option B→Option (V×Hp×Hp)
 | some (.rows e rs g' live)=>if g=g'∧len≤rs.length∧(live=true∨len=rs.length)∧cz rs=true then some (.own acc.length 0 len,H.set id .dead,acc++[.rows e (rs.take len) 0 live]) else none
 | _=>none
theorem A7 {id g len:Nat} {H acc:Hp}:oo (.own id g len) H acc=hmB id g len H acc H[id]? := by
 unfold oo hmB
 dsimp only
 cases H[id]? with
 | none=>rfl
 | some b=>cases b <;> rfl
theorem wN {α:Type} {enc:α→List V} (hp:∀ x,bl (enc x)=true) {id g len e:Nat} {H acc:Hp} {l:List α}:hmB id g len H acc (some (.rows e (l.map enc) g true))=ck (decide (len≤l.length)) (some (.own acc.length 0 len,H.set id .dead,acc++[.rows e ((l.take len).map enc) 0 true])):=by
 unfold hmB ck
 dsimp only
 rw [List.length_map,dR hp,List.map_take]
 by_cases h:len≤l.length
 ·rw [if_pos ⟨rfl,h,.inl rfl,rfl⟩,decide_eq_true h]
  rfl
 ·rw [if_neg (fun z=>h z.2.1),decide_eq_false h]
  rfl
theorem TS {id g e:Nat} {H acc:Hp} {lv:Bool}:hmB id g 0 H acc (some (.rows e [] g lv))=some (.own acc.length 0 0,H.set id .dead,acc++[.rows e [] 0 lv]):=by
 unfold hmB
 dsimp only
 rw [if_pos ⟨rfl,Nat.le_refl _,.inr rfl,rfl⟩]
 rfl
theorem T2 {k:IntKind} {id g len e:Nat} {H acc:Hp} {l:List Int}:hmB id g len H acc (some (.rows e (l.map (aQ k)) g true))=ck (decide (len≤l.length)) (some (.own acc.length 0 len,H.set id .dead,acc++[.rows e ((l.take len).map (aQ k)) 0 true])):=wN fun _=>rfl
theorem Sw {kp:Nat→Bool} {id g len:Nat} {h:Hp}:kq (some kp) (.own id g len) h=bq (hmB id g len h [] h[id]?) fun p=>some (p.1,p.2.2):=by
 have e:kq (some kp) (.own id g len) h=(oo (.own id g len) h []).bind fun q=>some (q.1,q.2.2):=rfl
 rw [e,A7]
 unfold bq
 cases hmB id g len h [] h[id]? <;> rfl
theorem Mn {id g len e:Nat} {H acc:Hp} {l:List Tyw}:hmB id g len H acc (some (.rows e (l.map aY) g true))=ck (decide (len≤l.length)) (some (.own acc.length 0 len,H.set id .dead,acc++[.rows e ((l.take len).map aY) 0 true])):=wN gm
theorem RB {id g len e:Nat} {H acc:Hp} {l:List Tys}:hmB id g len H acc (some (.rows e (l.map cG) g true))=ck (decide (len≤l.length)) (some (.own acc.length 0 len,H.set id .dead,acc++[.rows e ((l.take len).map cG) 0 true])):=wN iT
def ad8:=PLift.up (And.intro (And.intro (And.intro (And.intro (And.intro (And.intro @Fu @Gc) @CW) (And.intro (And.intro @NV @Jb) @CR)) (And.intro (And.intro (And.intro @xz @F7) @BX) (And.intro @xp @I8))) (And.intro (And.intro (And.intro (And.intro @IZ @FA) @R8) (And.intro @MD @Gq)) (And.intro (And.intro (And.intro @De @I7) @Cp) (And.intro @BV @Gr)))) (And.intro (And.intro (And.intro (And.intro (And.intro @Gt @DF) @KC) (And.intro @Hx @Dh)) (And.intro (And.intro (And.intro @BS @TS) @T2) (And.intro @Sw @P0))) (And.intro (And.intro (And.intro (And.intro @SW @J5) @GI) (And.intro @I2 @KG)) (And.intro (And.intro (And.intro @A7 @Mn) @RB) (And.intro @eT.eq_1 @J1.eq_1)))))
theorem syW:type_of% ad8.down:=ad8.down
end Go.Ab
namespace Go.Ab
section
variable {cx:Cx} {K:Out→St→Res} {r:Res} {id j n0:Nat} {ops:Array Oper} {a:List Nat×List Nat} {env:List V} {H:Hp} {o:Oper} {i:Nat} {L:List Nat}
theorem qI (hL:xr ops=L) (ha:(na ops).any=false) (v:V) (H':Hp) (h2:dv cx (.region id ops true) (j+1) n0 a K ⟨kC env o.dst v,H'⟩=r) (hj:L[j]? = some i:=by rfl) (ho:ops.toList[i]? = some o:=by rfl) (hg:o.guard=none:=by rfl) (hst:(na ops).strict i=false:=by kernel_rfl) (h1:opV cx ((na ops).calm i) ((na ops).ord i) o.op env H=some (v,H'):=by kernel_rfl):dv cx (.region id ops true) j n0 a K ⟨env,H⟩=r:=go_op1 hL ha hj ho hg (aab hst (abJ h1 h2))
section
variable {gj d:Nat} {b:Bool}
end
end
end Go.Ab
namespace Go.Ab
abbrev bb (b:Bool) (x y:Res):Res:=match b with | true=>x | false=>y
abbrev onO {A:Type} (x:Option A) (k:A→Res):Res:=match x with | some v=>k v | none=>none
abbrev aa1 (cx:Cx) (b:Builtin) (ts:Array TypeId) (args:List V) (H:Hp) (F:V→Hp→Res):Res:=
 match b with
 | .len=>match ts.toList,args with
  | [t],[x]=>bp (aX cx.P t x H) F
  | _,_=>none
 | .append=>match ts.toList,args with
  | [t,u],[s,x]=>bp (kf cx.P cx.wl t u s x H) F
  | _,_=>none
 | .max=>bm (gu true args) H F
 | .min=>bm (gu false args) H F
 | _=>none
abbrev opW (cx:Cx) (calm ord:Bool) (op:Op) (env:List V) (H:Hp) (F:V→Hp→Res):Res:=
 match op with
 | .move x=>onO (evO env x) fun v=>F v H
 | .assign x=>match x with
  | .const c=>onO (some (ie c)) fun v=>match v with | .nil=>bp (some (.own H.length 0 0,H++[.rows 0 [] 0 true])) F | v=>F v H
  | x=>onO (evO env x) fun v=>F v H
 | .pick c a b=>onO (evO env c) fun c=>onO (evO env a) fun a=>onO (evO env b) fun b=>bm (aO c a b) H F
 | .alloc t=>bp (ar cx.P t H) F
 | .box _ x=>onO (evO env x) fun v=>bp (aJ v H) F
 | .build t parts=>onO (H4 (evO env) parts.toList) fun l=>bm (bh cx.P t l) H F
 | .buildSlice t len parts=>onO (H4 (evO env) parts.toList) fun l=>bb (calm) (bp (ee cx.P cx.wl t len l H) F) (bp (aB cx.P cx.wl t len l H) F)
 | .insert t m k v=>onO (evO env m) fun m=>onO (evO env k) fun k=>onO (evO env v) fun v=>bs (dX cx.P cx.wl t m k v H) (F uu)
 | .load t a=>onO (evO env a) fun a=>bm (ab cx.P t a H) H F
 | .store t a v=>onO (evO env a) fun a=>onO (evO env v) fun v=>bs (aj cx.P cx.wl t a v H) (F uu)
 | .nilCheck x=>onO (evO env x) fun x=>bm (aL x H) H F
 | .binOp op t x y _=>onO (evO env x) fun x=>onO (evO env y) fun y=>bm (aq cx.P op t x y) H F
 | .unOp op _ x=>onO (evO env x) fun x=>bm (vUn op x) H F
 | .convert s d x=>onO (evO env x) fun x=>bm (fj cx.P s d x) H F
 | .makeFunc f a b=>onO (uR env a.toList) fun a=>onO (uR env b.toList) fun b=>F (.fn f a b) H
 | .makeMap _ r=>match r with | none=>bp (some (.map H.length,H++[.map []])) F | some _=>none
 | .makeSlice t l c=>onO (evO env l) fun l=>onO (evO env c) fun c=>bp (ba cx.P t l c H) F
 | .slice t x lo hi mx=>onO (evO env x) fun x=>onO (ID env lo) fun lo=>onO (ID env hi) fun hi=>onO (ID env mx) fun mx=>bp (bP cx.P cx.wl calm t x lo hi mx H) F
 | .fieldAddr t x i=>onO (evO env x) fun x=>bm (aa cx.P t x i) H F
 | .field t x i=>onO (evO env x) fun x=>bm (pW cx.P t x i) H F
 | .indexAddr t x i=>onO (evO env x) fun x=>onO (evO env i) fun i=>bm (ai cx.P t x i H) H F
 | .index t x i=>onO (evO env x) fun x=>onO (evO env i) fun i=>bm (EG cx.P t x i) H F
 | .lookup t m k ok=>onO (evO env m) fun m=>onO (evO env k) fun k=>bm (fc cx.P t m k ok H) H F
 | .extract x i=>onO (evO env x) fun x=>bm (ao x i) H F
 | .call c=>
  match c.callee with
  | .builtin b=>onO (uR env c.args.toList) fun a=>aa1 cx b c.argTypes a H F
  | .value f=>onO (evO env f) fun f=>onO (uR env c.args.toList) fun a=>bp (cw cx calm ord f a H) F
  | .invoke _ _=>none
 | _=>none
theorem cd {A:Type} {x:Option A} {k:A→Res} {g:A→Option (V×Hp)} {F:V×Hp→Res} (h:∀ v,k v=(g v).bind F):onO x k=(x.bind g).bind F:=by
 cases x with
 | none=>rfl
 | some v=>exact h v
theorem Cy {A:Type} {x:Option A} {k:A→Res} {g:A→V×Hp} {F:V×Hp→Res} (h:∀ v,k v=F (g v)):onO x k=(x.map g).bind F:=by
 cases x with
 | none=>rfl
 | some v=>exact h v
theorem Y9 {x:Option Hp} {F:V→Hp→Res}:bs x (F uu)=(x.map fun H'=>(V.lit undef,H')).bind fun p=>F p.1 p.2:=by cases x <;> rfl
theorem Qx {cx:Cx} {b:Builtin} {ts:Array TypeId} {args:List V} {H:Hp} {F:V→Hp→Res}:aa1 cx b ts args H F=(GY cx b ts args H).bind fun p=>F p.1 p.2:=by
 unfold aa1 GY
 generalize ts.toList=l
 cases b with
 | len=>rcases l with _ | ⟨_,_ | _⟩ <;> rcases args with _ | ⟨_,_ | _⟩ <;> rfl
 | append=>rcases l with _ | ⟨_,_ | ⟨_,_ | _⟩⟩ <;> rcases args with _ | ⟨_,_ | ⟨_,_ | _⟩⟩ <;> rfl
 | _=>rfl
theorem X7 {cx:Cx} {calm ord:Bool} {op:Op} {env:List V} {H:Hp} {F:V→Hp→Res}:opW cx calm ord op env H F=(opV cx calm ord op env H).bind fun p=>F p.1 p.2:=by
 cases op with
 | assign x=>
  unfold opW opV
  dsimp only
  cases x with
  | const c=>
   dsimp only [evO,onO,Option.map_some,Option.bind_some]
   cases ie c <;> rfl
  | _=>exact Cy fun v=>rfl
 | call c=>
  unfold opW opV
  dsimp only
  cases c.callee with
  | builtin b=>exact cd fun a=>Qx
  | value f=>exact cd fun f=>cd fun a=>rfl
  | invoke _ _=>rfl
 | buildSlice t len parts=>
  unfold opW opV
  dsimp only
  refine cd fun l => ?_
  cases calm <;> rfl
 | makeMap t r=>
  unfold opW opV
  dsimp only
  cases r <;> rfl
 | _=>
  unfold opW opV
  dsimp only
  first
  | rfl
  | exact cd fun a=>cd fun b=>Y9
  | exact cd fun a=>cd fun b=>cd fun c=>Y9
  | exact Cy fun v=>rfl
  | exact cd fun a=>rfl
  | exact cd fun a=>Cy fun b=>rfl
  | exact cd fun a=>cd fun b=>rfl
  | exact cd fun a=>cd fun b=>cd fun c=>rfl
  | exact cd fun a=>cd fun b=>cd fun c=>cd fun d=>rfl
inductive Md where
 | E (c:Code) (fs:List Fr) (jn:List Nat)
 | R (o:Out) (fs:List Fr) (jn:List Nat)
 | L (c:Code) (l:Nat) (fs:List Fr) (jn:List Nat)
 | G (c:Code) (j n0:Nat) (a:List Nat×List Nat) (fs:List Fr) (g:Bool) (kn:List (Nat×Nat)) (jn:List Nat)
def adZ (cx:Cx) (K:Out→St→Res) (s:St):Md→Res
 | .E c fs _=>au cx K (.seq c::fs) .norm s
 | .R o fs _=>au cx K fs o s
 | .L c l fs _=>rN cx K c l fs s
 | .G c j n0 a fs _ _ _=>dv cx c j n0 a (au cx K fs) s
def lO (i:Nat):Code→Bool
 | .exit j=>j==i
 | .seq a b=>lO i a||lO i b
 | .cond _ a b=>lO i a||lO i b
 | .rangeFunc _ _ a b=>lO i a||lO i b
 | .block _ a=>lO i a
 | .loop a=>lO i a
 | .scope a=>lO i a
 | _=>false
def lL:Code→Bool
 | .seq a b=>lL a&&lL b
 | .cond _ a b=>lL a||lL b
 | .exit _=>false
 | .goto _=>false
 | .ret=>false
 | .loop _=>false
 | .block i a=>lL a||lO i a
 | _=>true
def ij:Code→Nat
 | .region _ ops _=>ops.size
 | .seq a b=>ij a+ij b+1
 | .cond _ a b=>ij a+ij b+1
 | .rangeFunc _ _ a b=>ij a+ij b+1
 | .block _ a=>ij a
 | .scope a=>ij a
 | .loop _=>10
 | _=>0
def atJ (jn:List Nat) (n:Nat):Bool:=match jn with | []=>false | x::_=>x==n
def jnT (jn:List Nat) (n:Nat):List Nat:=bif atJ jn n then jn.tail else jn
def D2 (jn:List Nat):List Fr→Nat→Bool
 | [],n=>Nat.ble 3 n
 | .seq c::r,n=>bif atJ jn (r.length+1) then false else bif lL c then D2 jn r (n+ij c) else Nat.ble 3 (n+ij c)
 | _::r,n=>bif atJ jn (r.length+1) then false else D2 jn r n
abbrev sxW (n0:Nat) (st:Bool) (op:Op) (env:List V) (x:Res):Res:=
 bb (st) ((match ic op with | none=>x | some y=>match evO env y with | some v=>stO n0 v x | none=>x)) (x)
def adJ (d:Nat):List (Nat×Nat)→Option Nat
 | []=>none
 | (e,b)::r=>bif e==d then some b else adJ d r
def RG (d:Nat):List (Nat×Nat)→List (Nat×Nat)
 | []=>[]
 | (e,b)::r=>bif e==d then RG d r else (e,b)::RG d r
def knR (d:Option Nat) (kn:List (Nat×Nat)):List (Nat×Nat):=match d with | none=>kn | some d=>RG d kn
def knS (d:Option Nat) (kn:List (Nat×Nat)):List (Nat×Nat):=match d with | none=>kn | some d=>(d,2)::kn
def wk (cx:Cx) (K:Out→St→Res):Nat→Md→St→Res
 | 0,m,s=>adZ cx K s m
 | n+1,m,s=>match m with
  | .E c fs jn=>match c with
   | .skip=>wk cx K n (.R .norm fs jn) s
   | .region id ops draw=>bb (draw) ((bb (wz ops) (wk cx K n (.G (.region id ops true) 0 s.H.length ([],[]) fs false [] jn) s) (none))) (wk cx K n (.G (.region id ops false) 0 s.H.length ([],[]) fs false [] jn) s)
   | .seq a b=>wk cx K n (.E a (.seq b::fs) jn) s
   | .block id a=>wk cx K n (.E a (.block id::fs) jn) s
   | .scope a=>wk cx K n (.E a (.scope a::fs) jn) s
   | .cond v a b=>onO (evO s.env v) fun v=>
    bb (lL a&&lL b&&D2 jn fs 0) (cnd v (wk cx K n (.E a fs (fs.length::jn)) s) (wk cx K n (.E b fs (fs.length::jn)) s)) (cnd v (wk cx K n (.E a fs jn) s) (wk cx K n (.E b fs jn) s))
   | .exit id=>wk cx K n (.R (.exit id) fs jn) s
   | .goto l=>wk cx K n (.R (.goto l) fs jn) s
   | .ret=>wk cx K n (.R .ret fs jn) s
   | .label _=>wk cx K n (.R .norm fs jn) s
   | .loop a=>itX cx a s.H.length (au cx K fs) cx.n (tidy s.H.length (F3 (cx.M.named cx.fid) (gw a ([],[])) false) s)
   | c=>bc cx c none (au cx K fs) s
  | .R o fs jn=>match o with
   | .norm=>bb (atJ jn fs.length) (au cx K fs .norm s) (match fs with
    | []=>K .norm s
    | .seq c::r=>wk cx K n (.E c r jn) s
    | .block _::r=>wk cx K n (.R .norm r jn) s
    | .scope _::r=>wk cx K n (.R .norm r jn) s
    | .scope2 _::r=>wk cx K n (.R .norm r jn) s)
   | .exit i=>match fs with
    | []=>K (.exit i) s
    | .seq _::r=>wk cx K n (.R (.exit i) r (jnT jn fs.length)) s
    | .block id::r=>bb (i==id) (wk cx K n (.R .norm r (jnT jn fs.length)) s) (wk cx K n (.R (.exit i) r (jnT jn fs.length)) s)
    | .scope _::r=>wk cx K n (.R (.exit i) r (jnT jn fs.length)) s
    | .scope2 _::r=>wk cx K n (.R (.exit i) r (jnT jn fs.length)) s
   | .goto l=>match fs with
    | []=>K (.goto l) s
    | .seq _::r=>wk cx K n (.R (.goto l) r (jnT jn fs.length)) s
    | .block _::r=>wk cx K n (.R (.goto l) r (jnT jn fs.length)) s
    | .scope a::r=>bb (bA l a) (wk cx K n (.L a l (.scope2 a::r) (jnT jn fs.length)) s) (wk cx K n (.R (.goto l) r (jnT jn fs.length)) s)
    | .scope2 a::r=>bb (bA l a) (none) (wk cx K n (.R (.goto l) r (jnT jn fs.length)) s)
   | o=>match fs with
    | []=>K o s
    | _::r=>wk cx K n (.R o r (jnT jn fs.length)) s
  | .L c l fs jn=>match c with
   | .seq a b=>bb (bA l a) (wk cx K n (.L a l (.seq b::fs) jn) s) (wk cx K n (.L b l fs jn) s)
   | .label l'=>bb (l'==l) (wk cx K n (.R .norm fs jn) s) (none)
   | c=>rN cx K c l fs s
  | .G c j n0 a fs g kn jn=>match (i9 c)[j]? with
   | none=>bb ((gT c).any) (apt a (wk cx K n (.R .norm fs jn) s)) (wk cx K n (.R .norm fs jn) s)
   | some (o,i)=>
    let run:=fun env g kn=>sxW n0 ((gT c).strict i) o.op env (opW cx ((gT c).calm i) ((gT c).ord i) o.op env s.H fun v h=>wk cx K n (.G c (j+1) n0 (EF (gT c) i o.op env a) fs g (knR o.dst kn) jn) ⟨kC env o.dst v,h⟩)
    let skip:=fun env g kn=>wk cx K n (.G c (j+1) n0 a fs g (knS o.dst kn) jn) ⟨kC env o.dst uu,s.H⟩
    match o.guard with
    | none=>bb (g) (dv cx c j n0 a (au cx K fs) s) (run s.env g kn)
    | some (gj,want)=>match ((Cr c)[gj]?).bind (·.dst) with
     | none=>none
     | some d=>match adJ d kn with
      | some _=>match s.env[d]? with
       | some (.lit (.bool b))=>bb (b==want) (run (s.env.set d (.lit (.bool b))) g kn) (skip (s.env.set d (.lit (.bool b))) g kn)
       | some (.lit (.tuple _))=>skip s.env g kn
       | _=>none
      | none=>bb g (dv cx c j n0 a (au cx K fs) s)
       (onO s.env[d]? fun v=>bb want
        (gd v (run (s.env.set d (.lit (.bool true))) true ((d,1)::kn)) (skip (s.env.set d (.lit (.bool false))) true ((d,0)::kn)) (dv cx c (j+1) n0 a (au cx K fs) ⟨kC s.env o.dst uu,s.H⟩))
        (gd v (skip (s.env.set d (.lit (.bool true))) true ((d,1)::kn)) (run (s.env.set d (.lit (.bool false))) true ((d,0)::kn)) (dv cx c (j+1) n0 a (au cx K fs) ⟨kC s.env o.dst uu,s.H⟩)))
section
variable {cx:Cx} {K:Out→St→Res} {c:Code} {j n0:Nat} {a:List Nat×List Nat} {s:St} {r:Res}
theorem G1 (h:(i9 c)[j]? = none):dv cx c j n0 a K s=if (gT c).any then apt a (K .norm s) else K .norm s:=by
 unfold dv
 rw [List.drop_eq_nil_iff.2 (List.getElem?_eq_none_iff.1 h)]
 rfl
theorem Hw {o:Oper} {i:Nat} (h:(i9 c)[j]? = some (o,i)):dv cx c j n0 a K s =
  (let run (env:List V):Res:=if dp n0 ((gT c).strict i) o.op env then (opV cx ((gT c).calm i) ((gT c).ord i) o.op env s.H).bind fun p=>dv cx c (j+1) n0 (EF (gT c) i o.op env a) K ⟨kC env o.dst p.1,p.2⟩ else none
   let skip (env:List V):Res:=dv cx c (j+1) n0 a K ⟨kC env o.dst (.lit undef),s.H⟩
   match o.guard with
   | none=>run s.env
   | some (j,want)=>
    match ((Cr c)[j]?).bind (·.dst) with
    | none=>none
    | some d=>
     match s.env[d]? with
     | some (.lit (.bool b))=>C1 b want d s.env run skip
     | some (.lit (.tuple _))=>skip s.env
     | _=>none):=by
 obtain ⟨hj,he⟩:=List.getElem?_eq_some_iff.1 h
 unfold dv
 rw [List.drop_eq_getElem_cons hj,he]
 rfl
theorem Zj {st:Bool} {op:Op} {env:List V} {x:Res}:sxW n0 st op env x=if dp n0 st op env then x else none:=by
 unfold sxW dp kX
 cases st with
 | false=>rfl
 | true=>
  dsimp only [bb,if_true]
  cases ic op with
  | none=>rfl
  | some y=>
   have h:∀ q:Option V,(match q with | some v=>stO n0 v x | none=>x)=if (match (match q with | some v=>DS v | none=>none) with | some i=>decide (i<n0) | none=>true)=true then x else none:=by
    intro q
    cases q with
    | none=>rfl
    | some v=>rfl
   exact h _
end
theorem Gz (cx:Cx) (K:Out→St→Res):∀ (n:Nat) (m:Md) (s:St),wk cx K n m s=adZ cx K s m
 | 0,_,_=>rfl
 | n+1,m,s=>by
  have ih:=Gz cx K n
  cases m with
  | E c fs jn=>
   cases c with
   | skip=>exact ih _ _
   | region id ops draw=>
    cases draw with
    | false=>exact (ih _ _).trans (go_reg0 rfl).symm
    | true=>
     show bb (wz ops) (wk cx K n _ s) none=_
     cases h:wz ops with
     | true=>exact (ih _ _).trans (go_reg1 h rfl).symm
     | false=>
      show none=bc cx (.region id ops true) none (au cx K fs) s
      simp [bc,h]
   | seq a b=>exact (ih _ _).trans (go_seq rfl).symm
   | block id a=>exact (ih _ _).trans (go_block rfl).symm
   | scope a=>exact (ih _ _).trans (go_scope rfl).symm
   | cond v a b=>
    show onO (evO s.env v) _=_
    cases h:evO s.env v with
    | none=>
     show none=bc cx (.cond v a b) none (au cx K fs) s
     simp only [bc,h]
    | some v=>
     refine Eq.trans ?_ (go_cond h rfl rfl).symm
     show bb _ _ _=_
     cases (lL a&&lL b&&D2 jn fs 0) <;> (simp only [bb,ih];rfl)
   | exit id=>exact ih _ _
   | goto l=>exact ih _ _
   | ret=>exact ih _ _
   | label l=>exact ih _ _
   | loop a=>rfl
   | _=>rfl
  | R o fs jn=>
   cases o with
   | norm=>
    show bb _ _ _=_
    cases atJ jn fs.length with
    | true=>rfl
    | false=>cases fs with
     | nil=>rfl
     | cons f r=>cases f <;> exact ih _ _
   | exit i=>
    cases fs with
    | nil=>rfl
    | cons f r=>cases f with
     | block id=>
      show bb (i==id) _ _=if i=id then _ else _
      by_cases h:i=id
      ·subst h
       rw [beq_self_eq_true,if_pos rfl]
       exact ih _ _
      ·rw [beq_false_of_ne h,if_neg h]
       exact ih _ _
     | _=>exact ih _ _
   | goto l=>
    cases fs with
    | nil=>rfl
    | cons f r=>cases f with
     | scope a=>
      show bb (bA l a) _ _=_
      cases h:bA l a with
      | true=>exact (ih _ _).trans (CI h rfl).symm
      | false=>exact (ih _ _).trans (xx h rfl).symm
     | scope2 a=>
      show bb (bA l a) _ _=au cx K (.scope2 a::r) (.goto l) s
      cases h:bA l a with
      | true=>simp only [au,h,if_true]
      | false=>exact (ih _ _).trans (xd h rfl).symm
     | _=>exact ih _ _
   | ret=>
    cases fs with
    | nil=>rfl
    | cons f r=>cases f <;> exact ih _ _
  | L c l fs jn=>
   cases c with
   | seq a b=>
    show bb (bA l a) _ _=_
    cases h:bA l a with
    | true=>exact (ih _ _).trans (RO h rfl).symm
    | false=>exact (ih _ _).trans (NK h rfl).symm
   | label l'=>
    show bb (l'==l) _ _=bc cx (.label l') (some l) (au cx K fs) s
    cases h:l'==l with
    | true=>simp only [bc,h,if_true];exact ih _ _
    | false=>simp only [bc,h];rfl
   | _=>rfl
  | G c j n0 a fs g kn jn=>
   show (match (i9 c)[j]? with | none=>_ | some (o,i)=>_)=dv cx c j n0 a (au cx K fs) s
   cases h:(i9 c)[j]? with
   | none=>
    rw [G1 h]
    show bb _ _ _=_
    cases (gT c).any <;> (simp only [bb,ih];rfl)
   | some p=>
    obtain ⟨o,i⟩:=p
    have hrun:∀ env g kn,sxW n0 ((gT c).strict i) o.op env (opW cx ((gT c).calm i) ((gT c).ord i) o.op env s.H fun v h=>wk cx K n (.G c (j+1) n0 (EF (gT c) i o.op env a) fs g (knR o.dst kn) jn) ⟨kC env o.dst v,h⟩) =
      if dp n0 ((gT c).strict i) o.op env then (opV cx ((gT c).calm i) ((gT c).ord i) o.op env s.H).bind fun p=>dv cx c (j+1) n0 (EF (gT c) i o.op env a) (au cx K fs) ⟨kC env o.dst p.1,p.2⟩ else none:=by
     intro env g kn
     rw [Zj,X7]
     congr 1
     congr 1
     funext p
     exact ih _ _
    have hskip:∀ env g kn,wk cx K n (.G c (j+1) n0 a fs g (knS o.dst kn) jn) ⟨kC env o.dst uu,s.H⟩=dv cx c (j+1) n0 a (au cx K fs) ⟨kC env o.dst (.lit undef),s.H⟩:=fun env g kn=>ih _ _
    rw [Hw h]
    dsimp only
    simp only [hrun,hskip]
    cases hg:o.guard with
    | none=>
     cases g with
     | true=>rfl
     | false=>rfl
    | some q=>
     obtain ⟨gj,want⟩:=q
     dsimp only
     cases hd:((Cr c)[gj]?).bind (·.dst) with
     | none=>rfl
     | some d=>
      dsimp only
      cases hk:adJ d kn with
      | some b=>
       dsimp only
       cases he:s.env[d]? with
       | none=>rfl
       | some v=>
        cases v with
        | lit x=>
         cases x with
         | bool t=>cases t <;> cases want <;> rfl
         | _=>rfl
        | _=>rfl
      | none=>
       cases g with
       | true=>rfl
       | false=>
        dsimp only [bb]
        cases he:s.env[d]? with
        | none=>rfl
        | some v=>
         cases v with
         | lit x=>
          cases x with
          | bool t=>cases t <;> cases want <;> rfl
          | tuple x=>cases want <;> rfl
          | _=>cases want <;> rfl
         | _=>cases want <;> rfl
section
variable {cx:Cx} {K:Out→St→Res} {c:Code} {j n0 n:Nat} {a:List Nat×List Nat} {s:St} {r:Res} {fs:List Fr} {o:Out}
theorem kG (h:wk cx K 999 (.G c j n0 a fs false [] []) s=r:=by kernel_rfl):dv cx c j n0 a (au cx K fs) s=r:=(Gz ..).symm.trans h
theorem kJ (jn:List Nat) (h:wk cx K 999 (.G c j n0 a fs false [] jn) s=r:=by kernel_rfl):dv cx c j n0 a (au cx K fs) s=r:=(Gz ..).symm.trans h
theorem kR (h:wk cx K 999 (.R o fs []) s=r:=by kernel_rfl):au cx K fs o s=r:=(Gz ..).symm.trans h
theorem kI (h:wk cx (eD cx c n0 K n) 999 (.E c [] []) s=r:=by kernel_rfl):itX cx c n0 K (n+1) s=r:=K3 ((Gz ..).symm.trans h)
theorem kB {fn:Func} {args:List V} {H:Hp} (h:wk cx (av cx.P fn) 999 (.E (am fn) [] []) ⟨args++List.replicate (fn.ntmps - args.length) uu,H⟩=r:=by kernel_rfl) (hb:fn.body=some (am fn):=by rfl):ak cx fn args H=r:=I5 hb ((Gz ..).symm.trans h)
end
end Go.Ab
