import Derived.Test.YtblpbpnilkfjhaaGreatAbLibB
import Derived.Shelf.Slices.Delete
set_option linter.unusedVariables false
set_option linter.unusedSimpArgs false
namespace Go.Ab
def ak:Code→List Nat→Code
 | c,[]=>c
 | .seq a b,i::p=>if i=0 then ak a p else ak b p
 | .cond _ a b,i::p=>if i=0 then ak a p else ak b p
 | .block _ a,_::p=>ak a p
 | .loop a,_::p=>ak a p
 | .scope a,_::p=>ak a p
 | .rangeFunc _ _ a b,i::p=>if i=0 then ak a p else ak b p
 | c,_=>c
def al (fn:Func):Code:=fn.body.getD .skip
structure Sys where
 P:Program
 orc:FuncId→Option (List V→Hp→Option (V×Hp))
 keepRes:FuncId→FuncId→Option (Nat→Bool)
 keepArg:FuncId→Bool
 call:Nat→FuncId→List V→Hp→Option (V×Hp)
 yld:Nat→Nat→List V→Hp→Option (V×Hp)
inductive Fr where
 | seq (c:Code)
 | block (id:Nat)
 | scope (a:Code)
 | scope2 (a:Code)
def uu:V := .lit undef
abbrev Res:=Option (V×Hp)
def ap (cx:Cx) (K:Out→St→Res):List Fr→Out→St→Res
 | [],o,s=>K o s
 | .seq c::fs,o,s=>match o with
  | .norm=>be cx c none (ap cx K fs) s
  | o=>ap cx K fs o s
 | .block id::fs,o,s=>match o with
  | .exit id'=>if id'=id then ap cx K fs .norm s else ap cx K fs (.exit id') s
  | o=>ap cx K fs o s
 | .scope a::fs,o,s=>match o with
  | .goto l => if bw l a then be cx a (some l) (fun o' s'' => match o' with | .goto l' => if bw l' a then none else ap cx K fs (.goto l') s'' | o' => ap cx K fs o' s'') s else ap cx K fs (.goto l) s
  | o=>ap cx K fs o s
 | .scope2 a::fs,o,s=>match o with
  | .goto l=>if bw l a then none else ap cx K fs (.goto l) s
  | o=>ap cx K fs o s
def itX (cx:Cx) (c:Code) (n0:Nat) (K:Out→St→Res) (n:Nat) (s:St):Res:=
 He (be cx c none) n0 (cx.M.named cx.fid) (gn c ([],[])) K n s
def eJ (cx:Cx) (c:Code) (n0:Nat) (K:Out→St→Res) (n:Nat):Out→St→Res:=fun o s'=>match o with
 | .norm=>itX cx c n0 K n (tidy n0 (FG (cx.M.named cx.fid) (gn c ([],[])) false) s')
 | .ret=>K .ret s'
 | o=>K o (tidy n0 (FG (cx.M.named cx.fid) (gn c ([],[])) true) s')
def Cz:Code→Array Oper
 | .region _ ops _=>ops
 | _ => #[]
def gz:Code→Rg
 | .region _ ops draw=>if draw then m6 ops else Rg.none
 | _=>Rg.none
def iY:Code→List (Oper×Nat)
 | .region _ ops draw=>if draw then aB ops else ops.toList.zipIdx
 | _=>[]
def wu (ops:Array Oper):List Nat:=(aB ops).map (·.2)
def bz (cx:Cx) (c:Code) (j n0:Nat) (a:List Nat×List Nat) (K:Out→St→Res) (s:St):Res:=
 Ac cx n0 (gz c) (Cz c) ((iY c).drop j) a (K .norm) s
def am (P:Program) (fn:Func):Out→St→Res:=fun o s=>match o with
 | .norm=>(fh P fn.results.toList s).map fun v=>(v,s.H)
 | .ret=>(fh P fn.results.toList s).map fun v=>(v,s.H)
 | _=>none
def bm (x:Option V) (H:Hp) (k:V→Hp→Res):Res:=(x.map fun v=>(v,H)).bind fun p=>k p.1 p.2
def bp (x:Option (V×Hp)) (k:V→Hp→Res):Res:=x.bind fun p=>k p.1 p.2
def bs (x:Option Hp) (k:Hp→Res):Res:=(x.map fun H'=>(V.lit undef,H')).bind fun p=>k p.2
def cnd (c:V) (a b:Res):Res:=match c with
 | .lit (.bool t)=>bif t then a else b
 | _=>none
def gd (c:V) (a b u:Res):Res:=match c with
 | .lit (.bool t)=>bif t then a else b
 | .lit (.tuple _)=>u
 | _=>none
def aw (P:Program) (t:TypeId) (H:Hp):Option (V×Hp):=
 (en P t).bind fun z=>if bg (bM z) then let p:=bo (bM z) H;some (.ptr p.2.length 0 0 0,p.2++[.box p.1]) else none
def aL (v:V) (H:Hp):Option (V×Hp):=v.cells.bind fun vs=>let p:=bo vs H;some (.ptr p.2.length 0 0 0,p.2++[.box p.1])
def cQ (P:Program) (wl:Nat) (t:TypeId) (len:Nat) (l:List (Nat×V)) (H:Hp):Option (V×Hp):=
 if true && !bk (l.map (·.2)) then none else aA P wl t len l H
def a9 (P:Program) (t:TypeId) (x:V) (H:Hp):Option (V×Hp):=if (gK P t).isSome then (oJ x H).map fun v=>(v,H) else none
def gL (P:Program) (wl:Nat) (t u:TypeId) (s x:V) (H:Hp):Option (V×Hp):=if (gK P u).isSome then bd P wl t s x H else none
def apt (a:List Nat×List Nat) (k:Res):Res:=if pC a then k else none
def lgR (v:V) (a:List Nat×List Nat):List Nat×List Nat:=match E8 v with | some k=>(k::a.1,a.2) | none=>a
def lgW (v:V) (a:List Nat×List Nat):List Nat×List Nat:=match E8 v with | some k=>(a.1,k::a.2) | none=>a
def stB (n0:Nat) (v:V):Bool:=match E8 v with | some i=>i<n0 | none=>true
def stO (n0:Nat) (v:V) (k:Res):Res:=if stB n0 v then k else none
def adt:List (Option V)→Option (List V)
 | []=>some []
 | x::xs=>x.bind fun v=>(adt xs).bind fun vs=>some (v::vs)
def dK (l:List (Option V)) (H:Hp):Res:=((adt l).bind fun vs=>match vs with | [v]=>some v | vs=>some (.tup vs)).map fun v=>(v,H)
section steps
variable {cx:Cx} {K:Out→St→Res} {fs:List Fr} {s:St} {r:Res}
theorem Ie {fn:Func} {args:List V} {H:Hp} {c:Code} (hb:fn.body=some c) (h:ap cx (am cx.P fn) [.seq c] .norm ⟨args++List.replicate (fn.ntmps - args.length) uu,H⟩=r):ai cx fn args H=r:=by
 rw [← h]
 unfold ai
 rw [hb]
 have:(fun o s=>match o with
   | .norm=>(fh cx.P fn.results.toList s).map fun v=>(v,s.H)
   | .ret=>(fh cx.P fn.results.toList s).map fun v=>(v,s.H)
   | _=>none:Out→St→Res)=ap cx (am cx.P fn) []:=by
  funext o s
  cases o <;> rfl
 show be cx c none _ _=be cx c none (ap cx (am cx.P fn) []) _
 rw [← this]
 rfl
theorem go_seq {a b:Code} (h:ap cx K (.seq a :: .seq b::fs) .norm s=r):ap cx K (.seq (.seq a b)::fs) .norm s=r:=by
 rw [← h]
 show be cx a none _ s=be cx a none (ap cx K (.seq b::fs)) s
 congr 1
theorem go_block {id:Nat} {a:Code} (h:ap cx K (.seq a :: .block id::fs) .norm s=r):ap cx K (.seq (.block id a)::fs) .norm s=r:=by
 rw [← h]
 show be cx a none _ s=be cx a none (ap cx K (.block id::fs)) s
 congr 1
theorem go_scope {a:Code} (h:ap cx K (.seq a :: .scope a::fs) .norm s=r):ap cx K (.seq (.scope a)::fs) .norm s=r:=by
 rw [← h]
 show be cx a none _ s=be cx a none (ap cx K (.scope a::fs)) s
 congr 1
theorem go_ret (h:ap cx K fs .ret s=r):ap cx K (.seq .ret::fs) .norm s=r:=h
theorem B5 {a:Code} {l:Nat} (hl:bw l a=false) (h:ap cx K fs (.goto l) s=r):ap cx K (.scope a::fs) (.goto l) s=r:=by
 rw [← h]
 simp only [ap]
 rw [hl]
 rfl
theorem w8 {a:Code} {l:Nat} (hl:bw l a=false) (h:ap cx K fs (.goto l) s=r):ap cx K (.scope2 a::fs) (.goto l) s=r:=by
 rw [← h]
 simp only [ap]
 rw [hl]
 rfl
def rL (cx:Cx) (K:Out→St→Res) (c:Code) (l:Nat) (fs:List Fr) (s:St):Res:=be cx c (some l) (ap cx K fs) s
theorem Da {a:Code} {l:Nat} (hl:bw l a=true) (h:rL cx K a l (.scope2 a::fs) s=r):ap cx K (.scope a::fs) (.goto l) s=r:=by
 rw [← h]
 simp only [ap]
 rw [hl]
 simp only [if_true,rL]
 congr 1
theorem Qk {a b:Code} {l:Nat} (hl:bw l a=true) (h:rL cx K a l (.seq b::fs) s=r):rL cx K (.seq a b) l fs s=r:=by
 rw [← h]
 simp only [rL,be,hl,if_true]
 congr 1
theorem Lm {a b:Code} {l:Nat} (hl:bw l a=false) (h:rL cx K b l fs s=r):rL cx K (.seq a b) l fs s=r:=by
 rw [← h]
 simp [rL,be,hl]
theorem go_cond {c:Operand} {a b:Code} {v:V} {A B:Res} (hc:evO s.env c=some v) (hA:ap cx K (.seq a::fs) .norm s=A) (hB:ap cx K (.seq b::fs) .norm s=B) :
  ap cx K (.seq (.cond c a b)::fs) .norm s=cnd v A B:=by
 rw [← hA,← hB]
 show be cx (.cond c a b) none (ap cx K fs) s=_
 simp only [be,hc]
 cases v with
 | lit x=>cases x <;> rfl
 | _=>rfl
theorem go_reg0 {id:Nat} {ops:Array Oper} (h:bz cx (.region id ops false) 0 s.H.length ([],[]) (ap cx K fs) s=r):ap cx K (.seq (.region id ops false)::fs) .norm s=r:=by
 rw [← h]
 show be cx (.region id ops false) none (ap cx K fs) s=_
 simp [be,bz,gz,Cz,iY]
theorem go_reg1 {id:Nat} {ops:Array Oper} (hok:uR ops=true) (h:bz cx (.region id ops true) 0 s.H.length ([],[]) (ap cx K fs) s=r):ap cx K (.seq (.region id ops true)::fs) .norm s=r:=by
 rw [← h]
 show be cx (.region id ops true) none (ap cx K fs) s=_
 simp [be,bz,gz,Cz,iY,hok]
section ops
variable {id j n0:Nat} {ops:Array Oper} {a:List Nat×List Nat} {env:List V} {H:Hp} {o:Oper} {i:Nat} {L:List Nat}
theorem abe (hL:wu ops=L) (hj:L[j]? = some i) (ho:ops.toList[i]? = some o):(aB ops).drop j=(o,i)::(aB ops).drop (j+1):=by
 subst hL
 simp only [wu,List.getElem?_map,Option.map_eq_some_iff] at hj
 obtain ⟨p,hp,rfl⟩:=hj
 have hm:p ∈ aB ops:=List.mem_of_getElem? hp
 have hz:p ∈ ops.toList.zipIdx:=by
  simp only [aB,List.mem_append,List.mem_filter] at hm
  rcases hm with h | h <;> exact h.1
 have hx:ops.toList[p.2]? = some p.1:=by
  obtain ⟨x,k⟩:=p
  simpa [List.mem_zipIdx_iff_getElem?] using hz
 rw [hx] at ho
 cases ho
 rw [List.getElem?_eq_some_iff] at hp
 obtain ⟨hj,he⟩:=hp
 rw [List.drop_eq_getElem_cons hj,he]
def sx (n0:Nat) (st:Bool) (op:Op) (env:List V) (x:Res):Res:=if dx n0 st op env then x else none
theorem abM {st:Bool} {op:Op} {x:Res} (hst:st=false) (h:x=r):sx n0 st op env x=r:=by
 subst hst
 simpa [sx,dx] using h
theorem go_op1 (hL:wu ops=L) (ha:(m6 ops).any=false) (hj:L[j]? = some i) (ho:ops.toList[i]? = some o) (hg:o.guard=none)
  (h:sx n0 ((m6 ops).strict i) o.op env ((opV cx ((m6 ops).calm i) ((m6 ops).ord i) o.op env H).bind (fun p=>bz cx (.region id ops true) (j+1) n0 a K ⟨kw env o.dst p.1,p.2⟩))=r):bz cx (.region id ops true) j n0 a K ⟨env,H⟩=r:=by
 rw [← h]
 simp only [bz,gz,Cz,iY,if_true,abe hL hj ho]
 simp only [Ac,hg]
 simp [EI,ha,sx]
variable {gj d:Nat} {v:V} {A B C:Res}
end ops
theorem abX {X:Option (V×Hp)} {F:V×Hp→Res} {v:V} {H:Hp} (h1:X=some (v,H)) (h2:F (v,H)=r):X.bind F=r:=by
 subst h1
 exact h2
theorem MN {c:Code} {n0 n:Nat} (h:ap cx (eJ cx c n0 K n) [.seq c] .norm s=r):itX cx c n0 K (n+1) s=r:=by
 rw [← h]
 show be cx c none _ s=be cx c none (ap cx (eJ cx c n0 K n) []) s
 congr 1
end steps
end Go.Ab
namespace Go.Ab
section combinators
variable {H:Hp} {K:V→Hp→Res} {k:Hp→Res} {A B C:Res}
@[congr] theorem Yz {x y:Option V} (h:x=y):bm x H K=bm y H K:=by rw [h]
@[congr] theorem YI {x y:Option (V×Hp)} (h:x=y):bp x K=bp y K:=by rw [h]
@[congr] theorem YS {x y:Option Hp} (h:x=y):bs x k=bs y k:=by rw [h]
@[congr] theorem Wu {x y:V} (h:x=y):cnd x A B=cnd y A B:=by rw [h]
@[congr] theorem YA {x y:V} (h:x=y):gd x A B C=gd y A B C:=by rw [h]
def ob {α β:Type} (x:Option α) (k:α→Option β):Option β:=x.bind k
def ck {β:Type} (c:Bool) (k:Option β):Option β:=bif c then k else none
theorem S8 {v:V}:bm (some v) H K=K v H:=rfl
theorem Rc:bm none H K=none:=rfl
theorem Rl {v:V} {h:Hp}:bp (some (v,h)) K=K v h:=rfl
theorem PT:bp none K=none:=rfl
theorem RD {h:Hp}:bs (some h) k=k h:=rfl
theorem Sr:bs none k=none:=rfl
theorem Yd {α:Type} {x:Option α} {f:α→V}:bm (x.map f) H K=ob x fun a=>K (f a) H:=by cases x <;> rfl
theorem Tl {α:Type} {x:Option α} {f:α→Option V}:bm (x.bind f) H K=ob x fun a=>bm (f a) H K:=by cases x <;> rfl
theorem WP {α:Type} {x:Option α} {f:α→V×Hp}:bp (x.map f) K=ob x fun a=>K (f a).1 (f a).2:=by cases x <;> rfl
theorem PP {α:Type} {x:Option α} {f:α→Option (V×Hp)}:bp (x.bind f) K=ob x fun a=>bp (f a) K:=by cases x <;> rfl
theorem Xq {α:Type} {x:Option α} {f:α→Hp}:bs (x.map f) k=ob x fun a=>k (f a):=by cases x <;> rfl
theorem To {α:Type} {x:Option α} {f:α→Option Hp}:bs (x.bind f) k=ob x fun a=>bs (f a) k:=by cases x <;> rfl
theorem Uj {c:Bool} {x:Option V}:bm (bif c then x else none) H K=ck c (bm x H K):=by cases c <;> rfl
theorem WF {c:Bool} {x:Option (V×Hp)}:bp (bif c then x else none) K=ck c (bp x K):=by cases c <;> rfl
theorem VL {c:Bool} {x:Option Hp}:bs (bif c then x else none) k=ck c (bs x k):=by cases c <;> rfl
theorem Ze {t:Bool}:cnd (.lit (.bool t)) A B=bif t then A else B:=rfl
theorem ad9 {t:Bool}:gd (.lit (.bool t)) A B C=bif t then A else B:=rfl
theorem aeB:gd uu A B C=C:=rfl
theorem fe {β:Type} {A:Option β}:ck true A=A:=rfl
theorem oK {β:Type} {A:Option β}:ck false A=none:=rfl
theorem ar {α β:Type} {a:α} {f:α→Option β}:ob (some a) f=f a:=rfl
theorem R8 {α β:Type} {f:α→Option β}:ob none f=none:=rfl
end combinators
def idx {α:Type} (l:List α) (i:Int):Option α:=if 0≤i then l[i.toNat]? else none
theorem QY {α:Type} (l:List α) (i:Nat):idx l (i:Int)=l[i]? := by simp [idx]
section ops
variable {P:Program} {t:TypeId} {k k':IntKind} {a b:Int} {x y:V}
theorem KB:au P .add t (.lit (.int k a)) (.lit (.int k b))=some (.lit (.int k (k.wrap (a+b)))):=by simp [au,dJ]
theorem MU:au P .sub t (.lit (.int k a)) (.lit (.int k b))=some (.lit (.int k (k.wrap (a - b)))):=by simp [au,dJ]
theorem LO:au P .mul t (.lit (.int k a)) (.lit (.int k b))=some (.lit (.int k (k.wrap (a*b)))):=by simp [au,dJ]
theorem Lk:au P .eql t (.lit (.int k a)) (.lit (.int k b))=some (.lit (.bool (a==b))):=by simp [au,dJ]
theorem Ko : au P .neq t (.lit (.int k a)) (.lit (.int k b)) = some (.lit (.bool (a != b))) := by simp [au, dJ]
theorem Kl:au P .lss t (.lit (.int k a)) (.lit (.int k b))=some (.lit (.bool (decide (a<b)))):=by simp [au,dJ]
theorem MF:au P .leq t (.lit (.int k a)) (.lit (.int k b))=some (.lit (.bool (decide (a≤b)))):=by simp [au,dJ]
theorem LE:au P .gtr t (.lit (.int k a)) (.lit (.int k b))=some (.lit (.bool (decide (b<a)))):=by simp [au,dJ]
theorem LQ:au P .geq t (.lit (.int k a)) (.lit (.int k b))=some (.lit (.bool (decide (b≤a)))):=by simp [au,dJ]
theorem Lu : au P .quo t (.lit (.int k a)) (.lit (.int k b)) = bif b != 0 then some (.lit (.int k (k.wrap (a.tdiv b)))) else none := by
  by_cases h : b = 0
  · simp [au, dJ, h]
  · simp [au, dJ, h, (bne_iff_ne).2 h]
theorem NI : au P .rem t (.lit (.int k a)) (.lit (.int k b)) = bif b != 0 then some (.lit (.int k (a.tmod b))) else none := by
  by_cases h : b = 0
  · simp [au, dJ, h]
  · simp [au, dJ, h, (bne_iff_ne).2 h]
theorem Il {p q:Bool} (h:mh P t=true):au P .eql t (.lit (.bool p)) (.lit (.bool q))=some (.lit (.bool (p==q))):=by simp [au,h]
theorem IU {p q:Bool} (h:mh P t=true):au P .neq t (.lit (.bool p)) (.lit (.bool q))=some (.lit (.bool (!(p==q)))):=by simp [au,h]
theorem SN {p:Bool}:vUn .not (.lit (.bool p))=some (.lit (.bool !p)):=rfl
theorem S5:vUn .neg (.lit (.int k a))=some (.lit (.int k (k.wrap (0 - a)))):=rfl
theorem RY {p:Bool}:aM (.lit (.bool p)) x y=some (bif p then x else y):=rfl
theorem GD {l:List V}:ao (.tup (x::l)) 0=some x:=rfl
theorem Ga {l:List V}:ao (.tup (x::y::l)) 1=some y:=rfl
theorem FT {z:V} {l:List V}:ao (.tup (x::y::z::l)) 2=some z:=rfl
end ops
def aF (k:IntKind) (n:Int):List V:=[.lit (.int k n)]
def kF (b:Bool):List V:=[.lit (.bool b)]
section mem
variable {P:Program} {t:TypeId} {H:Hp} {wl:Nat}
theorem NV {cs:List V}:ab P t (.rp cs) H=aR P t cs:=rfl
def ldB (P:Program) (t:TypeId) (g row off:Nat):Option B→Option V
 | some (.box cs)=>bif g==0&&row==0 then aR P t (cs.drop off) else none
 | some (.rows _ rs g' _)=>bif g==g' then (rs[row]?).bind fun r=>aR P t (r.drop off) else none
 | _=>none
theorem Ih {id g row off:Nat}:ab P t (.ptr id g row off) H=ldB P t g row off (H[id]?):=by
 unfold ab ldB
 dsimp only
 generalize H[id]? = b0
 cases b0 with
 | none=>rfl
 | some b=>cases b <;> simp [Bool.cond_eq_ite]
theorem Pn {off:Nat} {cs:List V}:ldB P t 0 0 off (some (.box cs))=aR P t (cs.drop off):=rfl
theorem MS {α:Type} {l:List α} {enc:α→List V} {g row off e:Nat} {lv:Bool} :
  ldB P t g row off (some (.rows e (l.map enc) g lv))=(l[row]?).bind fun x=>aR P t ((enc x).drop off):=by
 simp [ldB]
 cases l[row]? <;> rfl
def V4 (P : Program) (wl : Nat) (t : TypeId) (id g row off : Nat) (vs : List V) (H : Hp) : Option B → Option Hp
  | some (.box cs) =>
    bif g == 0 && row == 0 && aO P t != 0 && vs.length == aO P t && decide (off + vs.length ≤ cs.length) then
      some ((bo vs H).2.set id (.box (spl cs off (bo vs H).1)))
    else none
  | some (.rows _ _ _ _) => (fzL wl true vs H).bind fun p =>
    match p.2[id]? with
    | some (.rows e rs g' true) =>
      bif g == g' && aO P t != 0 && vs.length == aO P t then
        (rs[row]?).bind fun r => bif decide (off + p.1.length ≤ r.length) then some (p.2.set id (.rows e (rs.set row (spl r off p.1)) g' true)) else none
      else none
    | _ => none
  | _ => none
theorem Gj {id g row off : Nat} {v : V} : ah P wl t (.ptr id g row off) v H = (v.cells).bind fun vs => bif Nat.ble wl id then V4 P wl t id g row off vs H (H[id]?) else none := by
  unfold ah
  cases hv : v.cells with
  | none => simp
  | some vs =>
    simp only [Option.bind_some]
    cases hw : Nat.ble wl id with
    | false => simp
    | true =>
      simp only [if_true, cond_true]
      unfold V4
      generalize H[id]? = b0
      cases b0 with
      | none => rfl
      | some b =>
        cases b with
        | box cs => simp only [Bool.cond_eq_ite, Bool.and_eq_true, beq_iff_eq, bne_iff_ne, decide_eq_true_eq, and_assoc]
        | rows e rs g' lv =>
          simp only
          congr 1
          funext p
          generalize p.2[id]? = b1
          cases b1 with
          | none => rfl
          | some b => 
            cases b with
            | rows e rs g' lv => cases lv <;> simp [Bool.cond_eq_ite, and_assoc]
            | _ => rfl
        | _ => rfl
theorem bN {α : Type} {l : List α} {enc : α → List V} {e : TypeId} {k : IntKind} {n : Int} (hu : P.underlying t = some (.slice e)) (hs : ∀ x, (enc x).length = aO P e) (hz : (aO P e != 0) = true) :
    aj P t (.ro (l.map enc)) (.lit (.int k n)) H = (idx l n).map fun x => .rp (enc x) := by
  have hz' : aO P e ≠ 0 := by simpa using hz
  unfold aj idx
  simp only [hu]
  split
  · cases hl : l[n.toNat]? with
    | none => simp [hl]
    | some x => simp [hl, hs, hz']
  · rfl
def ixB (sz g len id:Nat) (n:Int):Option B→Option V
 | some (.rows s _ g' _)=>bif g==g'&&s==sz then bif decide (0≤n∧n.toNat<len) then some (.ptr id g n.toNat 0) else none else none
 | _=>none
theorem bf {id g len : Nat} {e : TypeId} {k : IntKind} {n : Int} (hu : P.underlying t = some (.slice e)) (hz : (aO P e != 0) = true) :
    aj P t (.own id g len) (.lit (.int k n)) H = ixB (aO P e) g len id n (H[id]?) := by
  have hz' : aO P e ≠ 0 := by simpa using hz
  unfold aj ixB
  simp only [hu]
  by_cases hn : 0 ≤ n
  · simp only [hn, if_true, true_and]
    generalize H[id]? = b0
    cases b0 with
    | none => rfl
    | some b =>
      cases b with
      | rows s rs g' lv =>
        simp only [hz', ne_eq, not_false_eq_true, and_true, Bool.cond_eq_ite, Bool.and_eq_true, beq_iff_eq, decide_eq_true_eq]
      | _ => rfl
  · simp only [hn, if_false, false_and, decide_false]
    generalize H[id]? = b0
    cases b0 with
    | none => rfl
    | some b =>
      cases b with
      | rows s rs g' lv => simp
      | _ => rfl
theorem Nv {sz g len id:Nat} {n:Int} {rs:List (List V)} {lv:Bool}:ixB sz g len id n (some (.rows sz rs g lv))=bif decide (0≤n∧n.toNat<len) then some (.ptr id g n.toNat 0) else none:=by
 simp [ixB]
theorem QZ {rows:List (List V)}:oJ (.ro rows) H=some (.lit (.int .i64 rows.length)):=rfl
theorem ME:oJ .nil H=some (.lit (.int .i64 0)):=rfl
def lnB (g len:Nat):Option B→Option V
 | some (.rows _ _ g' _)=>bif g==g' then some (.lit (.int .i64 len)) else none
 | _=>none
theorem MI {id g len:Nat}:oJ (.own id g len) H=lnB g len (H[id]?):=by
 unfold oJ lnB
 dsimp only
 generalize H[id]? = b0
 cases b0 with
 | none=>rfl
 | some b=>cases b <;> simp [Bool.cond_eq_ite]
theorem Lr {g len e:Nat} {rs:List (List V)} {lv:Bool}:lnB g len (some (.rows e rs g lv))=some (.lit (.int .i64 len)):=by simp [lnB]
theorem Bw {v:Value} (h:v.oneCell'=true):aL (.lit v) H=some (.ptr H.length 0 0 0,H++[.box [.lit v]]):=by
 simp [aL,V.cells,V.one,h,bo]
theorem Hi {k:IntKind} {n:Int}:aL (.lit (.int k n)) H=some (.ptr H.length 0 0 0,H++[.box [.lit (.int k n)]]):=Bw rfl
theorem F4 {b:Bool}:aL (.lit (.bool b)) H=some (.ptr H.length 0 0 0,H++[.box [.lit (.bool b)]]):=Bw rfl
theorem KQ {r:List (List V)}:aL (.ro r) H=some (.ptr H.length 0 0 0,H++[.box [.ro r]]):=by simp [aL,V.cells,V.one,bo]
theorem I1 {l:List V}:aL (.agg l) H=some (.ptr (bo l H).2.length 0 0 0,(bo l H).2++[.box (bo l H).1]):=by simp [aL,V.cells]
theorem K8:bo [] H=([],H):=rfl
theorem NR {v:Value} {l:List V}:bo (.lit v::l) H=(.lit v::(bo l H).1,(bo l H).2):=rfl
theorem P4 {r:List (List V)} {l:List V}:bo (.ro r::l) H=(.ro r::(bo l H).1,(bo l H).2):=rfl
theorem K7 {i g n:Nat} {l:List V}:bo (.own i g n::l) H=(.own i g n::(bo l H).1,(bo l H).2):=rfl
theorem Na {i g n o:Nat} {l:List V}:bo (.ptr i g n o::l) H=(.ptr i g n o::(bo l H).1,(bo l H).2):=rfl
theorem SG {f:Fn} {a b l:List V}:bo (.fn f a b::l) H=(.fn f a b::(bo l H).1,(bo l H).2):=rfl
theorem Iq {l:List V}:bo (.nil::l) H=(.own H.length 0 0::(bo l (H++[.rows 0 [] 0 true])).1,(bo l (H++[.rows 0 [] 0 true])).2):=rfl
theorem Bf {v:Value} (h:v.oneCell'=true):V.cells (.lit v)=some [.lit v]:=by simp [V.cells,V.one,h]
theorem Hs {k:IntKind} {n:Int}:V.cells (.lit (.int k n))=some [.lit (.int k n)]:=Bf rfl
theorem GN {b:Bool}:V.cells (.lit (.bool b))=some [.lit (.bool b)]:=Bf rfl
theorem LJ {r:List (List V)}:V.cells (.ro r)=some [.ro r]:=rfl
theorem J3 {i g n:Nat}:V.cells (.own i g n)=some [.own i g n]:=rfl
theorem JY {i g n o:Nat}:V.cells (.ptr i g n o)=some [.ptr i g n o]:=rfl
theorem Lq {f:Fn} {a b:List V}:V.cells (.fn f a b)=some [.fn f a b]:=rfl
theorem Hq:V.cells .nil=some [.nil]:=rfl
theorem Ib {l:List V}:V.cells (.agg l)=some l:=rfl
theorem MV {id g row off:Nat}:aP (.ptr id g row off) H=(match H[id]? with
  | some (.box _)=>bif g==0 then some (.ptr id g row off) else none
  | some (.rows _ _ g' _)=>bif g==g' then some (.ptr id g row off) else none
  | _=>none):=by
 unfold aP
 dsimp only
 generalize H[id]? = b0
 cases b0 with
 | none=>rfl
 | some b=>cases b <;> simp [Bool.cond_eq_ite]
theorem SH {f:FuncId} {a b:List V}:aP (.fn (.func f) a b) H=some (.fn (.func f) a b):=rfl
theorem PR {c:List V}:aP (.rp c) H=some (.rp c):=rfl
theorem Hg {cx:Cx} {c:Code} {n0:Nat} {K:Out→St→Res} {n:Nat} {s:St}:eJ cx c n0 K n .ret s=K .ret s:=rfl
theorem X0 {v:V}:dK [some v] H=some (v,H):=rfl
theorem WI {v w:V}:dK [some v,some w] H=some (.tup [v,w],H):=rfl
theorem Ud {v w x:V}:dK [some v,some w,some x] H=some (.tup [v,w,x],H):=rfl
end mem
end Go.Ab
namespace Go.Ab
mutual
def V.data:V→Bool
 | .lit _=>true
 | .ro _=>true
 | .nil=>true
 | .agg cs=>gA cs
 | .fn _ a b=>HK a&&HK b
 | _=>false
def HK:List V→Bool
 | []=>true
 | v::vs=>v.data&&HK vs
def gA:List V→Bool
 | []=>true
 | .lit _::vs=>gA vs
 | .ro _::vs=>gA vs
 | _::_=>false
end
theorem gT:∀ {l:List V},gA l=true→bk l=true
 | [],_=>rfl
 | .lit _::vs,h=>by
  have:=gT (l:=vs) (by simpa [gA] using h)
  simp [bk,V.pure,this]
 | .ro _::vs,h=>by
  have:=gT (l:=vs) (by simpa [gA] using h)
  simp [bk,V.pure,this]
 | .nil::_,h | .any::_,h | .junk::_,h | .agg _::_,h | .tup _::_,h | .fn .. :: _,h | .yld _::_,h | .rp _::_,h | .ptr .. :: _,h | .own .. :: _,h | .map _::_,h=>by simp [gA] at h
mutual
theorem HR:∀ {v:V},v.data=true→v.pure=true
 | .lit _,_ | .ro _,_ | .nil,_=>rfl
 | .agg cs,h=>gT h
 | .fn _ a b,h=>by
  simp [V.data] at h
  simp [V.pure,nF h.1,nF h.2]
 | .any,h | .junk,h | .tup _,h | .yld _,h | .rp _,h | .ptr ..,h | .own ..,h | .map _,h=>by simp [V.data] at h
theorem nF:∀ {l:List V},HK l=true→bk l=true
 | [],_=>rfl
 | v::vs,h=>by
  simp [HK] at h
  simp [bk,HR h.1,nF h.2]
end
def mg (cx:Cx) (g:FuncId) (args:List V):Option (V×Hp):=(cx.call 0 g args []).bind fun p=>iU (cx.M.keepRes cx.fid g) p.1 p.2
section ret
variable {H:Hp}
theorem KW {v:Value} {h:Hp}:iU none (.lit v) h=some (.lit v,[]):=rfl
def fzB (wl id g len:Nat) (H:Hp):Option B→Option (V×Hp)
 | some (.rows e rs g' _)=>bif g==g'&&decide (len≤rs.length)&&(cK rs&&Nat.ble wl id) then some (.ro (rs.take len),H.set id (.rows e rs g' false)) else none
 | _=>none
theorem nI {wl id g len:Nat}:fzC wl (.own id g len) H=fzB wl id g len H (H[id]?):=by
 unfold fzC fzB
 dsimp only
 generalize H[id]? = b
 cases b with
 | none=>rfl
 | some b=>
  cases b with
  | rows e rs g' lv=>
   by_cases h1:g=g'
   ·by_cases h2:len≤rs.length <;> cases h3:(cK rs&&Nat.ble wl id) <;> simp [h1,h2]
   ·simp [h1,beq_false_of_ne h1]
  | _=>rfl
theorem MH {α:Type} {l:List α} {enc:α→List V} {wl id g e len:Nat} {lv:Bool} (hl:len=l.length) (hp:∀ x,bk (enc x)=true) (hw:Nat.ble wl id=true) :
  fzB wl id g len H (some (.rows e (l.map enc) g lv))=some (.ro (l.map enc),H.set id (.rows e (l.map enc) g false)):=by
 subst hl
 have h1:cK (l.map enc)=true:=by
  rw [cK,List.all_eq_true]
  intro r hr
  obtain ⟨x,_,rfl⟩:=List.mem_map.1 hr
  exact hp x
 have h2:(l.map enc).take l.length=l.map enc:=by rw [List.take_of_length_le];simp
 simp [fzB,h1,hw,h2]
theorem Mt {α:Type} {l:List α} {enc:α→List V} {id g e len:Nat} {lv:Bool} {h:Hp} (hb:h[id]? = some (.rows e (l.map enc) g lv)) (hl:len=l.length) (hp:∀ x,bk (enc x)=true) :
  iU none (.own id g len) h=some (.ro (l.map enc),[]):=by
 simp only [iU,fzR,AB,fzA,nI,hb,MH hl hp (by simp:Nat.ble 0 id=true),Option.bind_some,V.pure,if_true]
end ret
section app
variable {P:Program} {wl:Nat} {t:TypeId} {H:Hp}
theorem Ai {r:List (List V)}:bF (.ro r) H=some r:=rfl
theorem Ge:bF .nil H=some []:=rfl
def roB (g len:Nat):Option B→Option (List (List V))
 | some (.rows _ rs g' _)=>bif g==g'&&decide (len≤rs.length) then some (rs.take len) else none
 | _=>none
theorem FS {id g len:Nat}:bF (.own id g len) H=roB g len (H[id]?):=by
 unfold bF roB
 dsimp only
 generalize H[id]? = b
 cases b with
 | none=>rfl
 | some b=>cases b <;> simp [Bool.cond_eq_ite]
def apB (wl _e:Nat) (sz bytes id g len:Nat) (xs:List (List V)) (H:Hp):Option B→Option (V×Hp)
 | some (.rows s rs g' live)=>
  bif Nat.ble wl id&&(g==g')&&decide (len≤rs.length)&&(live||len==rs.length)&&(s==sz||s==0)&&decide ((len+xs.length)*bytes≤70368744177664) then
   some (.own id (g+1) (len+xs.length),H.set id (.rows sz (rs.take len++xs) (g+1) live)) else none
 | _=>none
theorem cV {e:TypeId} {id g len:Nat} {x:V} (he:gK P t=some e) (hg:Co P e=true) :
  bd P wl t (.own id g len) x H=(bF x H).bind fun xs=>bif bI (aO P e) xs then apB wl e (aO P e) (P.bytesOf e) id g len xs H (H[id]?) else none:=by
 unfold bd
 simp only [he]
 cases hr:bF x H with
 | none=>rfl
 | some xs=>
  simp only [Option.bind_some,hg,Bool.and_true]
  cases bI (aO P e) xs with
  | false=>rfl
  | true=>
   simp only [if_true,cond_true,apB]
   generalize H[id]? = b
   cases b with
   | none=>rfl
   | some b=>
    cases b with
    | rows s rs g' lv=>simp [Bool.cond_eq_ite,and_assoc]
    | _=>rfl
theorem cZ {e:TypeId} {x:V} (he:gK P t=some e) (hg:Co P e=true) :
  bd P wl t .nil x H=(bF x H).bind fun xs=>bif bI (aO P e) xs then bif decide (xs.length*P.bytesOf e≤70368744177664) then some (.own H.length 0 xs.length,H++[.rows (aO P e) xs 0 true]) else none else none:=by
 unfold bd
 simp only [he]
 cases hr:bF x H with
 | none=>rfl
 | some xs=>
  simp only [Option.bind_some,hg,Bool.and_true]
  cases bI (aO P e) xs with
  | false=>rfl
  | true=>simp [Bool.cond_eq_ite]
theorem dD {α:Type} {l:List α} {enc:α→List V} {sz:Nat} (h:∀ x,(enc x).length=sz):bI sz (l.map enc)=true:=by
 rw [bI,List.all_eq_true]
 intro r hr
 obtain ⟨x,_,rfl⟩:=List.mem_map.1 hr
 simp [h]
def room (n bytes:Nat):Bool:=decide (n*bytes≤70368744177664)
theorem wL {e : TypeId} {n : Int} {z : Value} {Z : List V} (he : gK P t = some e) (hz : en P e = some z) (hZ : bc.fzZ (bM z) = Z) (ho : (bg (bM z) && (bM z).length == aO P e && aO P e != 0) = true) :
    bc P t (.lit (.int .i64 n)) (.lit (.int .i64 n)) H = bif decide (0 ≤ n ∧ n ≤ 9223372036854775807 ∧ n * P.bytesOf e ≤ 70368744177664) then some (.own H.length 0 n.toNat, H ++ [.rows (aO P e) (List.replicate n.toNat Z) 0 true]) else none := by
  unfold bc
  simp only [he, hz, ho, if_true, hZ, true_and, Bool.cond_eq_ite, decide_eq_true_eq]
end app
theorem fc {α:Type} {l:List α} {enc:α→List V} {n:Nat} (hp:∀ x,bk (enc x)=true):i9 n (l.map enc)=l.map enc:=by
 have h1:cK (l.map enc)=true:=by
  rw [cK,List.all_eq_true]
  intro r hr
  obtain ⟨x,_,rfl⟩:=List.mem_map.1 hr
  exact hp x
 simp [i9,h1]
theorem ed {α:Type} {l:List α} {enc:α→List V} {n:Nat} (hp:∀ x,bk (enc x)=true):gD n (l.map enc)=l.map enc:=by
 have h1:cK (l.map enc)=true:=by
  rw [cK,List.all_eq_true]
  intro r hr
  obtain ⟨x,_,rfl⟩:=List.mem_map.1 hr
  exact hp x
 simp [gD,h1]
theorem FF {n:Nat}:gD n []=[]:=rfl
theorem HJ {n:Nat}:i9 n []=[]:=rfl
theorem pO (k:IntKind) (x:Int):bk (aF k x)=true:=rfl
theorem nD (x:Bool):bk (kF x)=true:=rfl
theorem iH (x:Int×List Int):bk (an x)=true:=rfl
theorem lH (x:Int×Int×Int):bk (aS x)=true:=rfl
theorem Ji {k:IntKind} {l:List Int} {n:Nat}:i9 n (l.map (aF k))=l.map (aF k):=fc (pO k)
theorem F3 {l:List Bool} {n:Nat}:i9 n (l.map kF)=l.map kF:=fc nD
theorem GH {l:Tyt} {n:Nat}:i9 n (l.map an)=l.map an:=fc iH
theorem DU {l:Tye} {n:Nat}:i9 n (l.map aS)=l.map aS:=fc lH
theorem F6 {k:IntKind} {l:List Int} {n:Nat}:gD n (l.map (aF k))=l.map (aF k):=ed (pO k)
theorem Cm {l:List Bool} {n:Nat}:gD n (l.map kF)=l.map kF:=ed nD
theorem Cw {l:Tyt} {n:Nat}:gD n (l.map an)=l.map an:=ed iH
theorem Bz {l:Tye} {n:Nat}:gD n (l.map aS)=l.map aS:=ed lH
theorem Gh {n:Nat} {cs:List V}:B.shift n (.box cs) = .box (gm n cs):=rfl
theorem Ck {n e g:Nat} {rs:List (List V)} {l:Bool}:B.shift n (.rows e rs g l) = .rows e (gD n rs) g l:=rfl
theorem HD {n:Nat} {cs:List V}:B.kill n (.box cs) = .box (gW n cs):=rfl
theorem Gq {n e g:Nat} {rs:List (List V)} {l:Bool}:B.kill n (.rows e rs g l) = .rows e (i9 n rs) g l:=rfl
theorem FA {n:Nat}:B.kill n .dead = .dead:=rfl
theorem JU {l:List Bool} {i:Nat} {b:Bool}:(l.map kF).set i [.lit (.bool b)]=(l.set i b).map kF:=by rw [List.map_set];rfl
theorem MQ {k:IntKind} {l:List Int} {i:Nat} {b:Int}:(l.map (aF k)).set i [.lit (.int k b)]=(l.set i b).map (aF k):=by rw [List.map_set];rfl
theorem Jj {n:Nat} {b:Bool}:List.replicate n [V.lit (.bool b)]=(List.replicate n b).map kF:=by rw [List.map_replicate];rfl
theorem ML {k:IntKind} {n:Nat} {b:Int}:List.replicate n [V.lit (.int k b)]=(List.replicate n b).map (aF k):=by rw [List.map_replicate];rfl
theorem Kv {α:Type} {l:List α} {f:α→List V} {i:Nat}:(l.map f)[i]? = (l[i]?).map f:=List.getElem?_map
theorem aes {n:Nat}:Nat.ble 0 n=true:=by cases n <;> rfl
theorem Ns (x:Int×List Int):an x=[.lit (.int .i64 x.1),.ro (x.2.map (aF .i64))]:=rfl
theorem HA {keep:Option (Nat→Bool)} {v:Value} {h:Hp}:iU keep (.lit v) h=some (.lit v,[]):=by
 cases keep <;> rfl
theorem Ms {keep:Option (Nat→Bool)} {r:List (List V)} {h:Hp}:iU keep (.ro r) h=some (.ro r,[]):=by
 cases keep <;> rfl
theorem JV {z:Int} (h1 : -9223372036854775808≤z) (h2:z≤9223372036854775807):IntKind.i64.wrap z=z:=by
 simp [IntKind.wrap,IntKind.bits,IntKind.signed]
 omega
end Go.Ab
namespace Go.Ab
def bdK (id n:Nat):Out→St→Res:=fun o s=>match s.H[id]? with
 | some (.loop l)=>some (.lit (.bool (di o).isNone),b7 n (s.H.set id (.loop { l with st:=if (di o).isNone then .ready else .done,pending:=di o })))
 | _=>none
def asK (cx:Cx) (id n:Nat) (body:Code):Out→St→Res:=fun o s=>match o with
 | .norm=>match s.H[id]? with
  | some (.loop l)=>if l.st = .ready then ap cx (bdK id n) [.seq body] .norm ⟨s.env,s.H.set id (.loop { l with st := .busy })⟩ else none
  | _=>none
 | _=>none
def rfK (K:Out→St→Res) (env:List V) (n:Nat) (p:V×Hp):Res:=
 match p.2[n]? with
 | some (.loop l)=>if l.st = .busy then none else
  match l.pending with
  | none=>K .norm ⟨env,b7 n p.2⟩
  | some .ret=>K .ret ⟨env,b7 n p.2⟩
  | some (.exit id)=>K (.exit id) ⟨env,b7 n p.2⟩
  | some (.goto id)=>K (.goto id) ⟨env,b7 n p.2⟩
  | some _=>none
 | _=>none
def TT {σ α:Type} (step:σ→α→Bool×σ):List α→σ→Bool×σ
 | [],s=>(true,s)
 | x::r,s=>if (step s x).1 then TT step r (step s x).2 else step s x
end Go.Ab
namespace Go.Ab
theorem dc {α:Type} {l r:List α} {x:α} {i:Nat} (h:l.drop i=x::r):i<l.length∧l[i]? = some x∧l.drop (i+1)=r∧x ∈ l∧l.length=i+1+r.length:=by
 have h0:i<l.length:=by
  have:=congrArg List.length h
  simp at this
  omega
 have h1:l.drop i=l[i]::l.drop (i+1):=List.drop_eq_getElem_cons h0
 rw [h] at h1
 injection h1 with h2 h3
 refine ⟨h0,by rw [List.getElem?_eq_getElem h0,h2],h3.symm,h2 ▸ List.getElem_mem h0,?_⟩
 have:=congrArg List.length h
 simp at this
 omega
theorem dX {α:Type} {l:List α} {i:Nat} (h:l.drop i=[]):l.length≤i:=List.drop_eq_nil_iff.1 h
theorem fj {α:Type} {l:List α} {i:Nat} {x:α} (h:l[i]? = some x):idx l (i:Int)=some x:=by rw [QY,h]
theorem ltT {a b:Int} (h:a<b):decide (a<b)=true:=decide_eq_true h
theorem ltF {a b:Int} (h:b≤a):decide (a<b)=false:=decide_eq_false (by omega)
theorem leT {a b:Int} (h:a≤b):decide (a≤b)=true:=decide_eq_true h
theorem leF {a b:Int} (h:b<a):decide (a≤b)=false:=decide_eq_false (by omega)
theorem gJ {k d:Nat} (h:d<k):∃ j,k=j+1:=⟨k - 1,by omega⟩
theorem fL {i:Nat} (h:i≤9223372036854775806):IntKind.i64.wrap ((i:Int)+1)=((i+1:Nat):Int):=by
 rw [JV (by omega) (by omega)]
 omega
end Go.Ab
namespace Go.Ab
def Cn {α:Type} (p:α→Bool):List α→Nat→Int
 | [],_ => -1
 | x::r,i=>if p x then (i:Int) else Cn p r (i+1)
theorem lW {α:Type} (p:α→Bool):∀ (l:List α) (i:Nat),decide (0≤Cn p l i)=l.any p
 | [],_=>rfl
 | x::r,i=>by
  by_cases h:p x=true
  ·simp [Cn,h]
  ·simpa [Cn,h] using lW p r (i+1)
end Go.Ab
namespace Go.Ab
theorem aea {n:Nat} (h:n≤30):decide ((30:Int)<n)=false:=decide_eq_false (by omega)
end Go.Ab
namespace Go.Ab
theorem adY {n:Nat} (h:30<n):decide ((30:Int)<n)=true:=decide_eq_true (by omega)
end Go.Ab
namespace Go.Ab
theorem OR {n:Nat}:decide ((n:Int)≤40)=decide (n≤40):=by
 by_cases h:n≤40
 ·rw [decide_eq_true h,decide_eq_true (by omega)]
 ·rw [decide_eq_false h,decide_eq_false (by omega)]
end Go.Ab
namespace Go.Ab
section one
variable {wl e sz bytes id g len s:Nat} {H:Hp} {lv:Bool}
theorem GB {n b:Nat} (h:n*b≤70368744177664):room n b=true:=decide_eq_true h
end one
end Go.Ab
namespace Go.Ab
theorem dU {α:Type} {l:List α} {enc:α→List V} (hp:∀ x,bk (enc x)=true):cK (l.map enc)=true:=by
 rw [cK,List.all_eq_true]
 intro r hr
 obtain ⟨x,_,rfl⟩:=List.mem_map.1 hr
 exact hp x
theorem pV {k:IntKind} {l:List Int}:cK (l.map (aF k))=true:=dU (pO k)
theorem FL {l:Tyt}:cK (l.map an)=true:=dU iH
theorem D1 {l:Tye}:cK (l.map aS)=true:=dU lH
theorem GA {l:List Bool}:cK (l.map kF)=true:=dU nD
end Go.Ab
namespace Go.Ab
section slices
variable {P:Program} {wl:Nat} {c:Bool} {t e:TypeId} {α:Type} {l:List α} {enc:α→List V} {k k':IntKind} {n lo:Int} {H:Hp}
theorem Af (h:∀ x,(enc x).length=aO P e):(l.map enc).all (fun r=>r.length==aO P e)=true:=by
 rw [List.all_eq_true]
 intro r hr
 obtain ⟨x,_,rfl⟩:=List.mem_map.1 hr
 simp [h]
theorem mV (he : gK P t = some e) (hz : (aO P e != 0) = true) (h : ∀ x, (enc x).length = aO P e) :
    bV P wl c t (.ro (l.map enc)) none (some (.lit (.int k n))) none H = bif decide (0 ≤ n ∧ n ≤ l.length) then some (.ro ((l.take n.toNat).map enc), H) else none := by
  have hz' : aO P e ≠ 0 := by simpa using hz
  unfold bV
  simp only [he, bnd]
  by_cases h0 : 0 ≤ n
  · simp only [h0, if_true, Option.bind_some, true_and]
    by_cases h1 : n ≤ l.length
    · have h2 : n.toNat ≤ l.length := by omega
      simp [h1, h2, hz', Af h, List.map_take]
    · have h2 : ¬ n.toNat ≤ l.length := by omega
      simp [h1, h2]
  · simp [h0]
theorem mt (he : gK P t = some e) (hz : (aO P e != 0) = true) (h : ∀ x, (enc x).length = aO P e) :
    bV P wl c t (.ro (l.map enc)) (some (.lit (.int k n))) none none H = bif decide (0 ≤ n ∧ n ≤ l.length) then some (.ro ((l.drop n.toNat).map enc), H) else none := by
  have hz' : aO P e ≠ 0 := by simpa using hz
  unfold bV
  simp only [he, bnd]
  by_cases h0 : 0 ≤ n
  · simp only [h0, if_true, Option.bind_some, true_and]
    by_cases h1 : n ≤ l.length
    · have h2 : n.toNat ≤ l.length := by omega
      simp [h1, h2, hz', Af h, List.map_drop, List.take_of_length_le]
    · have h2 : ¬ n.toNat ≤ l.length := by omega
      simp [h1, h2]
  · simp [h0]
theorem iW (he : gK P t = some e) (hz : (aO P e != 0) = true) (h : ∀ x, (enc x).length = aO P e) :
    bV P wl c t (.ro (l.map enc)) (some (.lit (.int k lo))) (some (.lit (.int k' n))) none H = bif decide (0 ≤ lo ∧ lo ≤ n ∧ n ≤ l.length) then some (.ro (((l.take n.toNat).drop lo.toNat).map enc), H) else none := by
  have hz' : aO P e ≠ 0 := by simpa using hz
  unfold bV
  simp only [he, bnd]
  by_cases h0 : 0 ≤ lo
  · by_cases h3 : 0 ≤ n
    · simp only [h0, h3, if_true, Option.bind_some, true_and]
      by_cases h1 : n ≤ l.length
      · have h2 : n.toNat ≤ l.length := by omega
        by_cases h4 : lo ≤ n
        · have h5 : lo.toNat ≤ n.toNat := by omega
          simp [h1, h2, h4, h5, hz', Af h, List.map_take, List.map_drop]
        · have h5 : ¬ lo.toNat ≤ n.toNat := by omega
          simp [h4, h5]
      · have h2 : ¬ n.toNat ≤ l.length := by omega
        simp [h1, h2]
    · have : ¬ (0 ≤ lo ∧ lo ≤ n ∧ n ≤ (l.length : Int)) := by omega
      simp [h3, this]
  · simp [h0]
end slices
end Go.Ab
namespace Go.Ab
end Go.Ab
namespace Go.Ab
def bq {α β:Type} (x:Option α) (F:α→Option β):Option β:=x.bind F
@[congr] theorem YR {α β:Type} {x y:Option α} {F:α→Option β} (h:x=y):bq x F=bq y F:=by rw [h]
def sif {β:Type} (c:Bool) (a b:β):β:=bif c then a else b
@[congr] theorem XK {β:Type} {c d:Bool} {a b:β} (h:c=d):sif c a b=sif d a b:=by rw [h]
theorem lu {β:Type} {a b:β}:sif true a b=a:=rfl
theorem kD {β:Type} {a b:β}:sif false a b=b:=rfl
section
variable {α β γ:Type}
theorem Q7 {a:α} {F:α→Option β}:bq (some a) F=F a:=rfl
theorem QA {F:α→Option β}:bq none F=none:=rfl
theorem Qa {c:Bool} {x y:Option α} {F:α→Option β}:bq (bif c then x else y) F=bif c then bq x F else bq y F:=by cases c <;> rfl
theorem ZP {x:Option γ} {f:γ→Option α} {F:α→Option β}:bq (ob x f) F=ob x fun a=>bq (f a) F:=by cases x <;> rfl
theorem aaZ {c:Bool} {x:Option α} {F:α→Option β}:bq (ck c x) F=ck c (bq x F):=by cases c <;> rfl
theorem Wg {x:Option γ} {f:γ→α} {F:α→Option β}:bq (x.map f) F=ob x fun a=>F (f a):=by cases x <;> rfl
theorem QJ {x:Option γ} {f:γ→Option α} {F:α→Option β}:bq (x.bind f) F=ob x fun a=>bq (f a) F:=by cases x <;> rfl
theorem V3 {c:Bool} {x:Option α} {F:α→Option β}:bq (bif c then x else none) F=ck c (bq x F):=by cases c <;> rfl
theorem abQ {x:Option γ} {f:γ→Option α} {F:α→Option β}:bq (bq x f) F=bq x fun a=>bq (f a) F:=by cases x <;> rfl
theorem Z6 {x:Option γ} {f:γ→Option α} {F:α→Option β}:ob (ob x f) F=ob x fun a=>ob (f a) F:=by cases x <;> rfl
theorem Pu {c:Bool} {x y:Option α} {F:α→Option β}:ob (bif c then x else y) F=bif c then ob x F else ob y F:=by cases c <;> rfl
theorem ZC {c:Bool} {x:Option α} {F:α→Option β}:ob (ck c x) F=ck c (ob x F):=by cases c <;> rfl
theorem Xt {x:Option γ} {f:γ→α} {F:α→Option β}:ob (x.map f) F=ob x fun a=>F (f a):=by cases x <;> rfl
end
section
variable {α:Type} {H:Hp} {K:V→Hp→Res} {k:Hp→Res}
theorem Zt {x:Option α} {f:α→Option V}:bm (ob x f) H K=ob x fun a=>bm (f a) H K:=by cases x <;> rfl
theorem ac0 {x:Option α} {f:α→Option (V×Hp)}:bp (ob x f) K=ob x fun a=>bp (f a) K:=by cases x <;> rfl
theorem aa6 {x:Option α} {f:α→Option Hp}:bs (ob x f) k=ob x fun a=>bs (f a) k:=by cases x <;> rfl
theorem R7 {c:Bool} {x y:Option V}:bm (bif c then x else y) H K=bif c then bm x H K else bm y H K:=by cases c <;> rfl
theorem Ql {c:Bool} {x y:Option (V×Hp)}:bp (bif c then x else y) K=bif c then bp x K else bp y K:=by cases c <;> rfl
theorem Tu {c:Bool} {x y:Option Hp}:bs (bif c then x else y) k=bif c then bs x k else bs y k:=by cases c <;> rfl
theorem Z5 {c:Bool} {x:Option V}:bm (ck c x) H K=ck c (bm x H K):=by cases c <;> rfl
theorem ZK {c:Bool} {x:Option (V×Hp)}:bp (ck c x) K=ck c (bp x K):=by cases c <;> rfl
theorem aah {c:Bool} {x:Option Hp}:bs (ck c x) k=ck c (bs x k):=by cases c <;> rfl
end
def rt (kp:Option (Nat→Bool)) (x:Res):Res:=x.bind fun p=>iU kp p.1 p.2
section rt
variable {kp:Option (Nat→Bool)} {α:Type} {h:Hp}
theorem Qr:rt kp none=none:=rfl
theorem DD {v:V}:rt kp (some (v,h))=iU kp v h:=rfl
theorem S3 {c:Bool} {x y:Res}:rt kp (bif c then x else y)=bif c then rt kp x else rt kp y:=by cases c <;> rfl
theorem Qx {x:Option α} {f:α→Res}:rt kp (ob x f)=ob x fun a=>rt kp (f a):=by cases x <;> rfl
theorem Zz {c:Bool} {x:Res}:rt kp (ck c x)=ck c (rt kp x):=by cases c <;> rfl
def rtN (v:V) (H:Hp):Res:=bq (fzR 0 v H) fun q=>sif q.1.pure (some (q.1,[])) (some q)
theorem BF {v:V}:iU none v h=rtN v h:=by
 show (fzR 0 v h).bind _=(fzR 0 v h).bind _
 congr 1
 funext q
 cases hq:q.1.pure <;> simp [sif,hq]
theorem RJ:iU none .nil h=some (.ro [],[]):=rfl
theorem Qe {c:List V}:iU none (.agg c) h=rtN (.agg c) h:=BF
theorem Po {c:List V}:iU none (.tup c) h=rtN (.tup c) h:=BF
theorem QX {i g l:Nat}:iU none (.own i g l) h=rtN (.own i g l) h:=BF
theorem RX {i:Nat}:iU none (.map i) h=some (.map i,h):=rfl
theorem Xj {f:Fn} {a b:List V}:iU none (.fn f a b) h=rtN (.fn f a b) h:=BF
theorem Q6 {i g r o:Nat}:iU none (.ptr i g r o) h=some (.ptr i g r o,h):=rfl
end rt
section fz
variable {wl:Nat} {H:Hp} {nl:Bool}
theorem SY {vs:List V}:fzR wl (.tup vs) H=bq (iR wl vs H) fun p=>some (.tup p.1,p.2):=rfl
theorem Q1 {v:Value}:fzR wl (.lit v) H=some (.lit v,H):=rfl
theorem UV {r:List (List V)}:fzR wl (.ro r) H=some (.ro r,H):=rfl
theorem QR:fzR wl .nil H=some (.ro [],H):=rfl
theorem X5 {f:Fn} {a b:List V}:fzR wl (.fn f a b) H=some (.fn f a b,H):=rfl
theorem Tv {i g r o:Nat}:fzR wl (.ptr i g r o) H=some (.ptr i g r o,H):=rfl
theorem Qc {i:Nat}:fzR wl (.map i) H=some (.map i,H):=rfl
theorem Re {i g l:Nat}:fzR wl (.own i g l) H=fzB wl i g l H (H[i]?):=nI
theorem PI {c:List V}:fzR wl (.agg c) H=bq (fzL wl true c H) fun p=>some (.agg p.1,p.2):=rfl
theorem JB:iR wl [] H=some ([],H):=rfl
theorem Ik {v:Value} {vs:List V}:iR wl (.lit v::vs) H=bq (iR wl vs H) fun q=>some (.lit v::q.1,q.2):=rfl
theorem M6 {r:List (List V)} {vs:List V}:iR wl (.ro r::vs) H=bq (iR wl vs H) fun q=>some (.ro r::q.1,q.2):=rfl
theorem Gp {vs:List V}:iR wl (.nil::vs) H=bq (iR wl vs H) fun q=>some (.ro []::q.1,q.2):=rfl
theorem M8 {f:Fn} {a b vs:List V}:iR wl (.fn f a b::vs) H=bq (iR wl vs H) fun q=>some (.fn f a b::q.1,q.2):=rfl
theorem Hx {i g l:Nat} {vs:List V}:iR wl (.own i g l::vs) H=bq (fzB wl i g l H (H[i]?)) fun p=>bq (iR wl vs p.2) fun q=>some (p.1::q.1,q.2):=by
 show (fzC wl (.own i g l) H).bind _=_
 rw [nI]
 rfl
theorem Jl {c vs:List V}:iR wl (.agg c::vs) H=bq (fzL wl true c H) fun p=>bq (iR wl vs p.2) fun q=>some (.agg p.1::q.1,q.2):=by
 show ((fzL wl true c H).bind _).bind _=_
 cases fzL wl true c H <;> rfl
theorem LW:fzL wl nl [] H=some ([],H):=rfl
theorem Mk {v:Value} {vs:List V}:fzL wl nl (.lit v::vs) H=bq (fzL wl nl vs H) fun q=>some (.lit v::q.1,q.2):=rfl
theorem PS {r:List (List V)} {vs:List V}:fzL wl nl (.ro r::vs) H=bq (fzL wl nl vs H) fun q=>some (.ro r::q.1,q.2):=rfl
theorem I6 {vs:List V}:fzL wl true (.nil::vs) H=bq (fzL wl true vs H) fun q=>some (.ro []::q.1,q.2):=rfl
theorem Rp {f:Fn} {a b vs:List V}:fzL wl nl (.fn f a b::vs) H=bq (fzL wl nl vs H) fun q=>some (.fn f a b::q.1,q.2):=rfl
theorem KO {i g r o:Nat} {vs:List V}:fzL wl nl (.ptr i g r o::vs) H=bq (fzL wl nl vs H) fun q=>some (.ptr i g r o::q.1,q.2):=rfl
theorem ND {i g l:Nat} {vs:List V}:fzL wl nl (.own i g l::vs) H=bq (fzB wl i g l H (H[i]?)) fun p=>bq (fzL wl nl vs p.2) fun q=>some (p.1::q.1,q.2):=by
 show (fzC wl (.own i g l) H).bind _=_
 rw [nI]
 rfl
theorem Ly:ky wl [] H=some ([],H):=rfl
theorem LC {v:Value} {vs:List V}:ky wl (.lit v::vs) H=bq (ky wl vs H) fun q=>some (.lit v::q.1,q.2):=rfl
theorem Rh {r:List (List V)} {vs:List V}:ky wl (.ro r::vs) H=bq (ky wl vs H) fun q=>some (.ro r::q.1,q.2):=rfl
theorem J7 {vs:List V}:ky wl (.nil::vs) H=bq (ky wl vs H) fun q=>some (.nil::q.1,q.2):=rfl
theorem R6 {f:Fn} {a b vs:List V}:ky wl (.fn f a b::vs) H=bq (ky wl vs H) fun q=>some (.fn f a b::q.1,q.2):=rfl
theorem Mw {i:Nat} {vs:List V}:ky wl (.yld i::vs) H=bq (ky wl vs H) fun q=>some (.yld i::q.1,q.2):=rfl
theorem Np {i:Nat} {vs:List V}:ky wl (.map i::vs) H=bq (ky wl vs H) fun q=>some (.map i::q.1,q.2):=rfl
theorem Nl {i g r o:Nat} {vs:List V}:ky wl (.ptr i g r o::vs) H=bq (ky wl vs H) fun q=>some (.ptr i g r o::q.1,q.2):=rfl
theorem KU {i g l:Nat} {vs:List V}:ky wl (.own i g l::vs) H=bq (fzB wl i g l H (H[i]?)) fun p=>bq (ky wl vs p.2) fun q=>some (p.1::q.1,q.2):=by
 show (fzC wl (.own i g l) H).bind _=_
 rw [nI]
 rfl
theorem KX {c vs:List V}:ky wl (.agg c::vs) H=bq (fzL wl true c H) fun p=>bq (ky wl vs p.2) fun q=>some (.agg p.1::q.1,q.2):=by
 show ((fzL wl true c H).bind _).bind _=_
 cases fzL wl true c H <;> rfl
theorem aev {i g len e g':Nat} {rs:List (List V)} {lv:Bool}:fzB wl i g len H (some (.rows e rs g' lv))=sif (g==g'&&(cK rs&&Nat.ble wl i)) (ck (decide (len≤rs.length)) (some (.ro (rs.take len),H.set i (.rows e rs g' false)))) none:=by
 show (bif g==g'&&decide (len≤rs.length)&&(cK rs&&Nat.ble wl i) then _ else _)=_
 generalize (g==g')=a
 generalize decide (len≤rs.length)=b
 generalize (cK rs&&Nat.ble wl i)=c
 cases a <;> cases b <;> cases c <;> rfl
end fz
theorem M3 {α:Type} {l:List α} {n:Nat} (h:l.length=n):l.take n=l:=List.take_of_length_le (by omega)
theorem HF:cK []=true:=rfl
theorem Gr {r:List V} {rs:List (List V)}:cK (r::rs)=(bk r&&cK rs):=rfl
def Cj (n:Nat):Hp→Hp
 | []=>[]
 | b::H=>b.kill n::Cj n H
def nW (n:Nat):Hp→Hp
 | []=>[]
 | b::H=>b.shift n::nW n H
theorem Fv {n:Nat}:∀ {H:Hp},H.map (B.kill n)=Cj n H
 | []=>rfl
 | b::H=>by simp [Cj,Fv (H:=H)]
theorem oU {n:Nat}:∀ {H:Hp},H.map (B.shift n)=nW n H
 | []=>rfl
 | b::H=>by simp [nW,oU (H:=H)]
theorem Sp {n:Nat} {H:Hp}:b7 n H=Cj n (H.take n):=Fv
theorem H9 {n:Nat}:Cj n []=[]:=rfl
theorem FN {n:Nat} {b:B} {H:Hp}:Cj n (b::H)=b.kill n::Cj n H:=rfl
theorem FD {n:Nat}:nW n []=[]:=rfl
theorem Cf {n:Nat} {b:B} {H:Hp}:nW n (b::H)=b.shift n::nW n H:=rfl
theorem Dc {n:Nat} {st:LoopState} {pe:Option Code} {f:FuncId} {ts:List V} {ps:List Tmp} {a b:Code}:B.kill n (.loop ⟨st,pe,f,ts,ps,a,b⟩) = .loop ⟨st,pe,f,gW n ts,ps,a,b⟩:=rfl
def nsh (H:Hp) (v:V) (H2:Hp):Res:=sif (decide (H.length≤H2.length)) (some (v,H2)) none
theorem OG {H H2:Hp} {v:V}:cJ H (v,H2)=nsh H v H2:=by
 unfold cJ nsh sif
 by_cases h:H.length≤H2.length
 ·simp [h]
 ·simp [h]
theorem aee {n m:Nat}:Nat.ble n m=decide (n≤m):=by
 have h:(Nat.ble n m=true)=(n≤m):=Nat.ble_eq
 cases hb:Nat.ble n m with
 | true=>
  rw [hb] at h
  exact (decide_eq_true (h.mp rfl)).symm
 | false=>
  rw [hb] at h
  exact (decide_eq_false (fun e=>Bool.noConfusion (h.mpr e))).symm
theorem Ag {H:Hp} {c:Bool} {x y:V×Hp}:cJ H (sif c x y)=sif c (cJ H x) (cJ H y):=by cases c <;> rfl
def ldQ (H H':Hp) (q:V×Hp):Res:=cJ H (q.1.shift H'.length,bif (q.1.shift H'.length).scal then H else H'++q.2.map (B.shift H'.length))
theorem N5 {H H':Hp} {v:V} {h:Hp}:ldQ H H' (v,h)=nsh H (v.shift H'.length) (sif (v.shift H'.length).scal H (H'++nW H'.length h)):=by
 unfold ldQ
 rw [OG,oU]
 rfl
theorem RE {H H':Hp} {v:Value} {h:Hp}:ldQ H H' (.lit v,h)=some (.lit v,H):=by
 rw [N5]
 simp [nsh,sif,V.shift,V.scal]
def ldP (H:Hp) (q:V×Hp):Res:=some (q.1.shift H.length,H++q.2.map (B.shift H.length))
theorem VE {H:Hp} {v:V} {h:Hp}:ldP H (v,h)=some (v.shift H.length,H++nW H.length h):=by
 unfold ldP
 rw [oU]
theorem oN {cx:Cx} {g:FuncId} {args:List V} {H:Hp}:fV cx g args H=bq (mg cx g args) (ldP H):=by
 unfold fV mg bq ldP
 cases h:cx.call 0 g args [] with
 | none=>rfl
 | some p=>rfl
theorem HN {cx:Cx} {o:Bool} {g:FuncId} {first caps args:List V} {H:Hp} :
  bZ cx false o (.fn (.func g) first caps) args H=bq (sif (cx.M.keepArg g) (some (first++args++caps,H)) (ky cx.wl (first++args++caps) H)) fun a=>
   sif (bk a.1) (bq (mg cx g a.1) (ldQ H a.2))
    (bq (cx.call cx.wl g a.1 a.2) fun p=>bq (sif (cx.M.keepRes cx.fid g).isSome (some p) (fzR cx.wl p.1 p.2)) fun q=>cJ H (sif q.1.pure (q.1,b7 a.2.length q.2) q)):=by
 unfold bZ wh
 simp only [Bool.false_eq_true,if_false]
 have e1:(if cx.M.keepArg g=true then some (first++args++caps,H) else ky cx.wl (first++args++caps) H)=sif (cx.M.keepArg g) (some (first++args++caps,H)) (ky cx.wl (first++args++caps) H):=by
  cases cx.M.keepArg g <;> rfl
 rw [e1]
 unfold bq
 cases sif (cx.M.keepArg g) (some (first++args++caps,H)) (ky cx.wl (first++args++caps) H) with
 | none=>rfl
 | some a=>
  simp only [Option.bind_some]
  cases hp:bk a.1 with
  | true=>
   simp only [if_true,lu,oN]
   unfold bq
   cases mg cx g a.1 <;> rfl
  | false=>
   simp only [Bool.false_eq_true,if_false,kD]
   cases cx.call cx.wl g a.1 a.2 with
   | none=>rfl
   | some p=>
    simp only [Option.bind_some]
    have e2:(if (cx.M.keepRes cx.fid g).isSome=true then some p else fzR cx.wl p.1 p.2)=sif (cx.M.keepRes cx.fid g).isSome (some p) (fzR cx.wl p.1 p.2):=by
     cases (cx.M.keepRes cx.fid g).isSome <;> rfl
    rw [e2]
    cases sif (cx.M.keepRes cx.fid g).isSome (some p) (fzR cx.wl p.1 p.2) with
    | none=>rfl
    | some q=>
     simp only [Option.bind_some]
     cases hq:q.1.pure <;> simp [sif]
theorem GQ {cx:Cx} {g:FuncId} {first caps args:List V} {H:Hp} :
  bZ cx true true (.fn (.func g) first caps) args H =
   sif (bk (first++args++caps)) (bq (mg cx g (first++args++caps)) (ldP H)) (sif (cx.M.keepArg g) none (bq (ky cx.wl (first++args++caps) H) fun a=>
    sif (bk a.1) (bq (mg cx g a.1) fun q=>bq (ldP a.2 q) fun q=>some (q.1,sif q.1.scal H q.2)) (bq (cx.call a.2.length g a.1 a.2) fun p=>sif p.1.scal (some (p.1,H)) none))):=by
 unfold bZ f4
 simp only [if_true,oN]
 cases bk (first++args++caps) with
 | true=>rfl
 | false=>
  simp only [Bool.false_eq_true,if_false,kD]
  cases cx.M.keepArg g with
  | true=>rfl
  | false=>
   simp only [Bool.false_eq_true,if_false,kD]
   unfold bq
   cases ky cx.wl (first++args++caps) H with
   | none=>rfl
   | some a=>
    simp only [Option.bind_some]
    cases bk a.1 with
    | true=>
     simp only [if_true,lu]
     cases mg cx g a.1 <;> rfl
    | false=>
     simp only [Bool.false_eq_true,if_false,kD]
     cases cx.call a.2.length g a.1 a.2 with
     | none=>rfl
     | some p=>
      simp only [Option.bind_some]
      cases hs:p.1.scal <;> simp [sif]
theorem GC {cx:Cx} {g:FuncId} {first caps args:List V} {H:Hp} :
  bZ cx true false (.fn (.func g) first caps) args H=sif (bk (first++args++caps)) (bq (bq (cx.call 0 g (first++args++caps) []) fun p=>iU none p.1 p.2) fun q=>sif q.1.pure (some (q.1,H)) none) none:=by
 unfold bZ f4
 simp only [if_true,Bool.false_eq_true,if_false]
 cases bk (first++args++caps) with
 | false=>rfl
 | true=>
  simp only [if_true,lu]
  unfold bq
  cases cx.call 0 g (first++args++caps) [] with
  | none=>rfl
  | some p=>
   simp only [Option.bind_some,BF]
   unfold rtN bq
   cases fzR 0 p.1 p.2 with
   | none=>rfl
   | some q=>
    simp only [Option.bind_some]
    cases hq:q.1.pure <;> simp [sif,hq]
section rounds
variable {P:Program} {M:Mode}
def yB (P:Program) (M:Mode) (k wl id:Nat) (args:List V) (H:Hp):Option B→Res
 | some (.loop l)=>BJ { P,M,fid:=l.fn,round:=true,wl,call:=evF P M k,yld:=evY P M k,n:=k } id l args H
 | _=>none
theorem TF {k wl id:Nat} {args:List V} {H:Hp}:evY P M (k+1) wl id args H=yB P M k wl id args H (H[id]?):=by
 unfold yB
 simp only [evY]
 generalize H[id]? = b
 cases b with
 | none=>rfl
 | some b=>cases b <;> rfl
theorem KL {k wl id:Nat} {args:List V} {H:Hp} {pe:Option Code} {f:FuncId} {ts:List V} {ps:List Tmp} {a b:Code} :
  yB P M k wl id args H (some (.loop ⟨.ready,pe,f,ts,ps,a,b⟩))=sif (decide (args.length=ps.length)&&Nat.ble wl id)
   (ap { P,M,fid:=f,round:=true,wl,call:=evF P M k,yld:=evY P M k,n:=k } (asK { P,M,fid:=f,round:=true,wl,call:=evF P M k,yld:=evY P M k,n:=k } id H.length b) [.seq a] .norm ⟨dB ts ps args,H⟩) none:=by
 unfold yB BJ
 by_cases h:args.length=ps.length
 ·cases hw:Nat.ble wl id with
  | true=>
   simp only [h,hw,and_self,if_true,decide_true,Bool.and_self,lu]
   show be _ a none _ _=be _ a none (ap _ _ []) _
   congr 1
  | false=>simp [hw,sif]
 ·simp [h,sif]
def asB (cx:Cx) (id n:Nat) (body:Code) (env:List V) (H:Hp):Option B→Res
 | some (.loop l)=>if l.st = .ready then ap cx (bdK id n) [.seq body] .norm ⟨env,H.set id (.loop { l with st := .busy })⟩ else none
 | _=>none
theorem Ta {cx:Cx} {id n:Nat} {body:Code} {env:List V} {H:Hp}:asK cx id n body .norm ⟨env,H⟩=asB cx id n body env H (H[id]?):=by
 unfold asK asB
 rfl
theorem HG {cx:Cx} {id n:Nat} {body:Code} {env:List V} {H:Hp} {pe:Option Code} {f:FuncId} {ts:List V} {ps:List Tmp} {a b:Code} :
  asB cx id n body env H (some (.loop ⟨.ready,pe,f,ts,ps,a,b⟩))=ap cx (bdK id n) [.seq body] .norm ⟨env,H.set id (.loop ⟨.busy,pe,f,ts,ps,a,b⟩)⟩:=rfl
def bdB (id n:Nat) (o:Out) (H:Hp):Option B→Res
 | some (.loop l)=>some (.lit (.bool (di o).isNone),b7 n (H.set id (.loop { l with st:=if (di o).isNone then .ready else .done,pending:=di o })))
 | _=>none
theorem P7 {id n:Nat} {o:Out} {env:List V} {H:Hp}:bdK id n o ⟨env,H⟩=bdB id n o H (H[id]?):=by
 unfold bdK bdB
 rfl
section
variable {id n:Nat} {H:Hp} {st:LoopState} {pe:Option Code} {f:FuncId} {ts:List V} {ps:List Tmp} {a b:Code}
theorem Nc:bdB id n .norm H (some (.loop ⟨st,pe,f,ts,ps,a,b⟩))=some (.lit (.bool true),b7 n (H.set id (.loop ⟨.ready,none,f,ts,ps,a,b⟩))):=rfl
theorem QQ:bdB id n .ret H (some (.loop ⟨st,pe,f,ts,ps,a,b⟩))=some (.lit (.bool false),b7 n (H.set id (.loop ⟨.done,some .ret,f,ts,ps,a,b⟩))):=rfl
theorem K1 {i:Nat}:bdB id n (.exit i) H (some (.loop ⟨st,pe,f,ts,ps,a,b⟩))=some (.lit (.bool false),b7 n (H.set id (.loop ⟨.done,some (.exit i),f,ts,ps,a,b⟩))):=rfl
theorem Mm {i:Nat}:bdB id n (.goto i) H (some (.loop ⟨st,pe,f,ts,ps,a,b⟩))=some (.lit (.bool false),b7 n (H.set id (.loop ⟨.done,some (.goto i),f,ts,ps,a,b⟩))):=rfl
def rfB (K:Out→St→Res) (env:List V) (H:Hp):Option B→Res
 | some (.loop l)=>if l.st = .busy then none else
  match l.pending with
  | none=>K .norm ⟨env,H⟩
  | some .ret=>K .ret ⟨env,H⟩
  | some (.exit id)=>K (.exit id) ⟨env,H⟩
  | some (.goto id)=>K (.goto id) ⟨env,H⟩
  | some _=>none
 | _=>none
theorem SO {K:Out→St→Res} {env:List V} {v:V} {h:Hp}:rfK K env n (v,h)=rfB K env (b7 n h) (h[n]?):=by
 unfold rfK rfB
 rfl
theorem KZ {K:Out→St→Res} {env:List V}:rfB K env H (some (.loop ⟨.ready,none,f,ts,ps,a,b⟩))=K .norm ⟨env,H⟩:=rfl
theorem JE {K:Out→St→Res} {env:List V}:rfB K env H (some (.loop ⟨.done,none,f,ts,ps,a,b⟩))=K .norm ⟨env,H⟩:=rfl
theorem Qg {K:Out→St→Res} {env:List V}:rfB K env H (some (.loop ⟨.done,some .ret,f,ts,ps,a,b⟩))=K .ret ⟨env,H⟩:=rfl
theorem Kx {K:Out→St→Res} {env:List V} {i:Nat}:rfB K env H (some (.loop ⟨.done,some (.exit i),f,ts,ps,a,b⟩))=K (.exit i) ⟨env,H⟩:=rfl
theorem NL {K:Out→St→Res} {env:List V} {i:Nat}:rfB K env H (some (.loop ⟨.done,some (.goto i),f,ts,ps,a,b⟩))=K (.goto i) ⟨env,H⟩:=rfl
end
def rgC (cx:Cx) (ps:List Tmp) (a b:Code) (K:Out→St→Res) (env:List V) (H:Hp):V→Res
 | .fn (.func g) [] caps=>bq (cx.call cx.wl g (.yld H.length::caps) (H++[.loop ⟨.ready,none,cx.fid,env,ps,a,b⟩])) (rfK K env H.length)
 | _=>none
theorem XN {cx:Cx} {ps:List Tmp} {a b:Code} {K:Out→St→Res} {env:List V} {H:Hp} {g:FuncId} {caps:List V} :
  rgC cx ps a b K env H (.fn (.func g) [] caps)=bq (cx.call cx.wl g (.yld H.length::caps) (H++[.loop ⟨.ready,none,cx.fid,env,ps,a,b⟩])) (rfK K env H.length):=rfl
theorem Nq {cx:Cx} {f:Operand} {ps:Array Tmp} {a b:Code} {K:Out→St→Res} {env:List V} {H:Hp} (hr:cx.round=false) :
  be cx (.rangeFunc f ps a b) none K ⟨env,H⟩=sif (Nat.ble cx.wl H.length) (bq (evO env f) (rgC cx ps.toList a b K env H)) none:=by
 simp only [be,hr,Bool.false_or]
 cases hw:Nat.ble cx.wl H.length with
 | false=>rfl
 | true=>
  simp only [Bool.not_true,Bool.false_eq_true,if_false,lu]
  cases hf:evO env f with
  | none=>rfl
  | some v=>
   simp only [bq,Option.bind_some]
   cases v with
   | fn f first caps=>
    cases f with
    | func g=>
     cases first with
     | nil=>
      simp only [rgC]
      unfold bq
      congr 1
     | cons=>rfl
    | _=>rfl
   | _=>rfl
end rounds
end Go.Ab
namespace Go.Ab
def mS:List V→List (Nat×Nat×V)→Option (List V)
 | cells,[]=>some cells
 | cells,(off,size,v)::rest=>
  match v.cells with
  | some vs=>if vs.length=size∧off+vs.length≤cells.length then mS (spl cells off vs) rest else none
  | none=>none
theorem Lw {cells:List V}:mS cells []=some cells:=rfl
theorem G1 {cells:List V} {off size:Nat} {v:V} {rest:List (Nat×Nat×V)}:mS cells ((off,size,v)::rest)=bq v.cells fun vs=>sif (decide (vs.length=size∧off+vs.length≤cells.length)) (mS (spl cells off vs) rest) none:=by
 simp only [mS]
 cases v.cells with
 | none=>rfl
 | some vs=>
  simp only [bq,Option.bind_some]
  by_cases h:vs.length=size∧off+vs.length≤cells.length
  ·rw [if_pos h,decide_eq_true h];rfl
  ·rw [if_neg h,decide_eq_false h];rfl
theorem Kb {wl size:Nat} {rs:List (List V)} {H:Hp}:ep wl size [] rs H=some (rs,H):=rfl
theorem FE {wl size i:Nat} {v:V} {rest:List (Nat×V)} {rs:List (List V)} {H:Hp}:ep wl size ((i,v)::rest) rs H=bq v.cells fun vs=>bq (fzL wl true vs H) fun p=>sif (decide (i<rs.length∧p.1.length=size)) (ep wl size rest (rs.set i p.1) p.2) none:=by
 simp only [ep]
 cases v.cells with
 | none=>rfl
 | some vs=>
  simp only [bq,Option.bind_some]
  cases fzL wl true vs H with
  | none=>rfl
  | some p=>
   simp only [Option.bind_some]
   by_cases h:i<rs.length∧p.1.length=size
   ·rw [if_pos h,decide_eq_true h];rfl
   ·rw [if_neg h,decide_eq_false h];rfl
theorem G6 {x y:Int}:nu (.int .i64 x) (.int .i64 y)=(x==y):=rfl
theorem Gy {k:Value} {v:V}:fP k v []=[(k,v)]:=rfl
theorem C4 {k:Value} {v:V} {e:Value×V} {es:List (Value×V)}:fP k v (e::es)=sif (nu k e.1) ((k,v)::es) (e::fP k v es):=by
 simp only [fP]
 cases nu k e.1 <;> rfl
def Ki (kk:IntKind):List (Value×V)→Bool
 | []=>true
 | e::es=>fM kk e.1&&Ki kk es
theorem NO {kk:IntKind}:Ki kk []=true:=rfl
theorem IJ {kk:IntKind} {e:Value×V} {es:List (Value×V)}:Ki kk (e::es)=(fM kk e.1&&Ki kk es):=rfl
theorem CL {x:Int}:fM .i64 (.int .i64 x)=true:=rfl
def inB (wl:Nat) (kk:IntKind) (id:Nat) (n:Int) (v:V) (H:Hp):Option B→Option Hp
 | some (.map es)=>if es.all (fun e=>fM kk e.1)&&true&&Nat.ble wl id then some (H.set id (.map (fP (.int kk n) v es))) else none
 | _=>none
theorem RG {kk:IntKind}:∀ {es:List (Value×V)},es.all (fun e=>fM kk e.1)=Ki kk es
 | []=>rfl
 | e::es=>by simp [Ki,RG (es:=es)]
theorem PV {wl id:Nat} {kk:IntKind} {n:Int} {v:V} {H:Hp} {es:List (Value×V)}:inB wl kk id n v H (some (.map es))=sif (Ki kk es&&Nat.ble wl id) (some (H.set id (.map (fP (.int kk n) v es)))) none:=by
 simp only [inB,RG,Bool.and_true]
 cases Ki kk es&&Nat.ble wl id <;> rfl
def lkB (kk:IntKind) (z:V) (ok:Bool) (n:Int):Option B→Option V
 | some (.map es)=>if es.all (fun e=>fM kk e.1)&&true then some (bif ok then .tup [(fR (.int kk n) z es).1,.lit (.bool (fR (.int kk n) z es).2)] else (fR (.int kk n) z es).1) else none
 | _=>none
def lkO (kk:IntKind) (z:V) (ok:Bool) (n:Int):List (Value×V)→Option V
 | []=>some (sif ok (.tup [z,.lit (.bool false)]) z)
 | e::es=>bif nu (.int kk n) e.1 then some (sif ok (.tup [e.2,.lit (.bool true)]) e.2) else lkO kk z ok n es
theorem OL {kk:IntKind} {z:V} {ok:Bool} {n:Int}:∀ {es:List (Value×V)},some (bif ok then V.tup [(fR (.int kk n) z es).1,.lit (.bool (fR (.int kk n) z es).2)] else (fR (.int kk n) z es).1)=lkO kk z ok n es
 | []=>by cases ok <;> rfl
 | e::es=>by
  simp only [fR,lkO]
  cases nu (.int kk n) e.1 with
  | true=>cases ok <;> rfl
  | false=>exact OL (es:=es)
theorem P0 {kk:IntKind} {z:V} {ok:Bool} {n:Int} {es:List (Value×V)}:lkB kk z ok n (some (.map es))=sif (Ki kk es) (lkO kk z ok n es) none:=by
 simp only [lkB,RG,Bool.and_true,OL]
 cases Ki kk es <;> rfl
theorem Tw {kk:IntKind} {z:V} {ok:Bool} {n:Int}:lkO kk z ok n []=some (sif ok (.tup [z,.lit (.bool false)]) z):=rfl
theorem LD {kk:IntKind} {z:V} {ok:Bool} {n:Int} {e:Value×V} {es:List (Value×V)}:lkO kk z ok n (e::es)=bif nu (.int kk n) e.1 then some (sif ok (.tup [e.2,.lit (.bool true)]) e.2) else lkO kk z ok n es:=rfl
def agO:Int→List V→Int→Option V
 | _,[],_=>none
 | i,c::cs,n=>bif n==i then some c else agO (i+1) cs n
theorem RP {i n:Int}:agO i [] n=none:=rfl
theorem MB {i n:Int} {c:V} {cs:List V}:agO i (c::cs) n=bif n==i then some c else agO (i+1) cs n:=rfl
theorem JQ {p:Bool} {k:IntKind} {a b:Int}:aM (.lit (.bool p)) (.lit (.int k a)) (.lit (.int k b))=some (.lit (.int k (bif p then a else b))):=by cases p <;> rfl
theorem Gt {p a b:Bool}:aM (.lit (.bool p)) (.lit (.bool a)) (.lit (.bool b))=some (.lit (.bool (bif p then a else b))):=by cases p <;> rfl
theorem MR {k:IntKind} {a b:Int}:gC true [.lit (.int k a),.lit (.int k b)]=some (.lit (.int k (bif decide (a<b) then b else a))):=by
 simp only [gC,if_true,cond_true,gt_iff_lt]
 by_cases h:a<b <;> simp [h]
theorem Ku {k:IntKind} {a b:Int}:gC false [.lit (.int k a),.lit (.int k b)]=some (.lit (.int k (bif decide (b<a) then b else a))):=by
 simp only [gC,if_true,cond_false]
 by_cases h:b<a <;> simp [h]
theorem FC {k:IntKind} {a:Int}:[[V.lit (.int k a)]]=[a].map (aF k):=rfl
theorem DC {k:IntKind} {a b:Int}:[[V.lit (.int k a)],[V.lit (.int k b)]]=[a,b].map (aF k):=rfl
theorem Aw {a b c:Int}:[[V.lit (.int .i64 a),.lit (.int .i64 b),.lit (.int .i64 c)]]=[(a,b,c)].map aS:=rfl
def Ys (k:IntKind) (a b:Int):Int:=k.wrap (a*2 ^ (min b.toNat k.bits))
def YQ (k:IntKind) (a b:Int):Int:=a.fdiv (2 ^ (min b.toNat k.bits))
def Ah (k:IntKind) (a b:Int):Int:=k.wrap (BitVec.ofInt k.bits a &&& BitVec.ofInt k.bits b).toNat
def orI (k:IntKind) (a b:Int):Int:=k.wrap (BitVec.ofInt k.bits a ||| BitVec.ofInt k.bits b).toNat
section
variable {P:Program} {t:TypeId} {k k':IntKind} {a b:Int}
theorem LU:au P .shl t (.lit (.int k a)) (.lit (.int k' b))=bif decide (0≤b) then some (.lit (.int k (Ys k a b))) else none:=by
 by_cases h:b<0
 ·have:¬ 0≤b:=by omega
  simp [au,dJ,h,this]
 ·have h2:0≤b:=by omega
  simp [au,dJ,h,h2,Ys]
theorem NG:au P .shr t (.lit (.int k a)) (.lit (.int k' b))=bif decide (0≤b) then some (.lit (.int k (YQ k a b))) else none:=by
 by_cases h:b<0
 ·have:¬ 0≤b:=by omega
  simp [au,dJ,h,this]
 ·have h2:0≤b:=by omega
  simp [au,dJ,h,h2,YQ]
theorem Mp:au P .and t (.lit (.int k a)) (.lit (.int k b))=some (.lit (.int k (Ah k a b))):=by simp [au,dJ,Ah]
theorem SK:au P .or t (.lit (.int k a)) (.lit (.int k b))=some (.lit (.int k (orI k a b))):=by simp [au,dJ,orI]
end
end Go.Ab
namespace Go.Ab
theorem aeE {g len e g':Nat} {rs:List (List V)} {lv:Bool}:roB g len (some (.rows e rs g' lv))=sif (g==g') (ck (decide (len≤rs.length)) (some (rs.take len))) none:=by
 show (bif g==g'&&decide (len≤rs.length) then _ else _)=_
 generalize (g==g')=a
 generalize decide (len≤rs.length)=b
 cases a <;> cases b <;> rfl
theorem Nj {f:Fn} {a b:List V} {H:Hp}:aL (.fn f a b) H=some (.ptr H.length 0 0 0,H++[.box [.fn f a b]]):=by simp [aL,V.cells,V.one,bo]
theorem Hb {i g n:Nat} {H:Hp}:aL (.own i g n) H=some (.ptr H.length 0 0 0,H++[.box [.own i g n]]):=by simp [aL,V.cells,V.one,bo]
theorem Ka {i g r o:Nat} {H:Hp}:aL (.ptr i g r o) H=some (.ptr H.length 0 0 0,H++[.box [.ptr i g r o]]):=by simp [aL,V.cells,V.one,bo]
theorem Tm {k:IntKind} {l:List Int}:bI 1 (l.map (aF k))=true:=dD fun _=>rfl
theorem Lt {l:List Bool}:bI 1 (l.map kF)=true:=dD fun _=>rfl
theorem MZ {l:Tyt}:bI 2 (l.map an)=true:=dD fun _=>rfl
theorem IB {l:Tye}:bI 3 (l.map aS)=true:=dD fun _=>rfl
theorem F8 {n:Nat}:bI n []=true:=rfl
theorem Ss {wl e sz bytes id g:Nat} {xs:List (List V)} {H:Hp} {lv:Bool} :
  apB wl e sz bytes id g 0 xs H (some (.rows 0 [] g lv))=sif (Nat.ble wl id) (bif room xs.length bytes then some (.own id (g+1) xs.length,H.set id (.rows sz xs (g+1) lv)) else none) none:=by
 cases hb:Nat.ble wl id <;> cases lv <;> simp [apB,hb,sif,room]
theorem Iv {α:Type} {wl e sz bytes id g len s:Nat} {l m:List α} {enc:α→List V} {H:Hp} :
  apB wl e sz bytes id g len (m.map enc) H (some (.rows s (l.map enc) g true)) =
   sif (Nat.ble wl id) (ck (decide (len≤l.length)) (ck (s==sz||s==0) (bif room (l.take len++m).length bytes then some (.own id (g+1) (l.take len++m).length,H.set id (.rows sz ((l.take len++m).map enc) (g+1) true)) else none))) none:=by
 by_cases h:len≤l.length
 ·have h1:(l.take len++m).length=len+m.length:=by simp [h]
  rw [decide_eq_true h,h1]
  simp only [apB,fe,List.length_map,beq_self_eq_true,Bool.and_true,Bool.true_or,decide_eq_true h,room,List.map_append,List.map_take]
  cases Nat.ble wl id <;> cases (s==sz||s==0) <;> simp [sif,ck]
 ·rw [decide_eq_false h,oK]
  simp [apB,decide_eq_false h,sif]
theorem HZ {α:Type} {l:List α} {enc:α→List V} {n:Nat}:(l.map enc).take n=(l.take n).map enc:=by rw [List.map_take]
theorem FY {l:Tye} {i:Nat} {a b c:Int}:(l.map aS).set i [.lit (.int .i64 a),.lit (.int .i64 b),.lit (.int .i64 c)]=(l.set i (a,b,c)).map aS:=by rw [List.map_set];rfl
theorem HT {l:Tyt} {i:Nat} {a:Int} {b:List Int}:(l.map an).set i [.lit (.int .i64 a),.ro (b.map (aF .i64))]=(l.set i (a,b)).map an:=by rw [List.map_set];rfl
theorem FM {l:Tyt} {i:Nat} {a:Int}:(l.map an).set i [.lit (.int .i64 a),.ro []]=(l.set i (a,[])).map an:=by rw [List.map_set];rfl
theorem CU {a:Int} {b:List Int}:[[V.lit (.int .i64 a),.ro (b.map (aF .i64))]]=[(a,b)].map an:=rfl
theorem AV {a:Int}:[[V.lit (.int .i64 a),.ro []]]=[(a,[])].map an:=rfl
def slB (g len id:Nat) (n:Int) (H:Hp):Option B→Option (V×Hp)
 | some (.rows _ _ g' _)=>if 0≤n then (if n.toNat≤len∧g=g' then some (.own id g n.toNat,H) else none) else none
 | _=>none
theorem NN {g len id e g':Nat} {n:Int} {H:Hp} {rs:List (List V)} {lv:Bool}:slB g len id n H (some (.rows e rs g' lv))=sif (g==g') (ck (decide (0≤n∧n.toNat≤len)) (some (.own id g n.toNat,H))) none:=by
 unfold slB sif ck
 by_cases h0:0≤n
 ·by_cases h1:n.toNat≤len
  ·by_cases h2:g=g'
   ·simp [h0,h1,h2]
   ·simp [h0,h1,h2,beq_false_of_ne h2]
  ·simp [h0,h1]
 ·simp [h0]
theorem kW {P : Program} {wl : Nat} {c : Bool} {t e : TypeId} {id g len : Nat} {k : IntKind} {n : Int} {H : Hp} (he : gK P t = some e) (hz : (aO P e != 0) = true) :
    bV P wl c t (.own id g len) none (some (.lit (.int k n))) none H = slB g len id n H (H[id]?) := by
  have hz' : aO P e ≠ 0 := by simpa using hz
  unfold bV slB
  simp only [he, bnd]
  by_cases h0 : 0 ≤ n
  · simp only [h0, if_true, Option.bind_some]
    generalize H[id]? = b
    cases b with
    | none => rfl
    | some b => cases b <;> simp [hz']
  · simp only [h0, if_false, Option.bind_none]
    generalize H[id]? = b
    cases b with
    | none => rfl
    | some b => cases b <;> rfl
end Go.Ab
namespace Go.Ab
end Go.Ab
namespace Go.Ab
theorem S4 {env:List V} {t:Nat}:evO env (.tmp t)=env[t]? := rfl
theorem Mb {env:List V} {f:Nat}:evO env (.func f)=some (.fn (.func f) [] []):=rfl
theorem wM {env vs:List V}:dB env [] vs=env:=by cases vs <;> rfl
theorem rP {env vs:List V} {t:Tmp} {ts:List Tmp} {v:V}:dB env (t::ts) (v::vs)=dB (env.set t v) ts vs:=rfl
end Go.Ab
namespace Go.Ab
theorem SA {n:Nat}:V.kill n uu=uu:=rfl
end Go.Ab
namespace Go.Ab
def aQ {α:Type} (bytes:Nat) (l:List α):Option (List α):=ck (Nat.ble (l.length*bytes) 70368744177664) (some l)
section clone
variable {P:Program} {t e:TypeId} {α:Type} {enc:α→List V} {sz bytes:Nat}
theorem gl (he:gK P t=some e) (hz:∃ z,en P e=some z∧bg (bM z)=true∧((bM z).length==sz)=true) (hs:aO P e=sz) (hg:Co P e=true) (hb:P.bytesOf e=bytes) (hl:∀ x,(enc x).length=sz) (l:List α) :
  fS P t [.ro (l.map enc)] []=ob (aQ bytes l) fun r=>some (.own 1 1 r.length,[.rows 0 [] 0 true,.rows sz (r.map enc) 1 true]):=by
 obtain ⟨z,z1,z2,z3⟩:=hz
 unfold fS
 simp only [he,Option.bind_some,z1,Ai,hs,hg,z2,z3,hb,dD hl,Bool.and_true,Bool.true_and,List.length_map,List.length_nil,List.nil_append]
 unfold aQ
 cases Nat.ble (l.length*bytes) 70368744177664 <;> rfl
theorem fu (hl:∀ x,bk (enc x)=true) (l:List α) (g:Nat) :
  rt none (ob (aQ bytes l) fun r=>some (.own 1 1 r.length,[.rows 0 [] 0 true,.rows g (r.map enc) 1 true]))=ob (aQ bytes l) fun r=>some (.ro (r.map enc),[]):=by
 rw [Qx]
 congr 1
 funext r
 rw [DD]
 exact Mt (enc:=enc) (l:=r) (e:=g) (lv:=true) rfl rfl hl
theorem fl (hl:∀ x,bk (enc x)=true) (l:List α) (g:Nat) :
  rt (some fun _=>true) (ob (aQ bytes l) fun r=>some (.own 1 1 r.length,[.rows 0 [] 0 true,.rows g (r.map enc) 1 true]))=ob (aQ bytes l) fun r=>some (.own 0 0 r.length,[.rows g (r.map enc) 0 true]):=by
 rw [Qx]
 congr 1
 funext r
 have h1:cK (r.map enc)=true:=by
  rw [cK,List.all_eq_true]
  intro y hy
  obtain ⟨x,_,rfl⟩:=List.mem_map.1 hy
  exact hl x
 simp [DD,iU,Gc,oD,h1]
 rw [List.take_of_length_le (by simp)]
end clone
end Go.Ab
namespace Go.Ab
theorem Kp {n0 i g r o:Nat} {k:Res}:stO n0 (.ptr i g r o) k=sif (decide (i<n0)) k none:=by
 unfold stO stB E8 sif
 simp only [Bool.cond_eq_ite]
theorem K4 {n0 i g l:Nat} {k:Res}:stO n0 (.own i g l) k=sif (decide (i<n0)) k none:=by
 unfold stO stB E8 sif
 simp only [Bool.cond_eq_ite]
theorem LP {n0 i:Nat} {k:Res}:stO n0 (.map i) k=sif (decide (i<n0)) k none:=by
 unfold stO stB E8 sif
 simp only [Bool.cond_eq_ite]
theorem QO {n0:Nat} {r:List (List V)} {k:Res}:stO n0 (.ro r) k=k:=rfl
theorem R4 {n0:Nat} {r:List V} {k:Res}:stO n0 (.rp r) k=k:=rfl
theorem KM {n0:Nat} {v:Value} {k:Res}:stO n0 (.lit v) k=k:=rfl
theorem Sc {n0:Nat} {f:Fn} {a b:List V} {k:Res}:stO n0 (.fn f a b) k=k:=rfl
theorem Ks {n0:Nat} {k:Res}:stO n0 .nil k=k:=rfl
def oT (n:Nat):List (Value×V)→List (Value×V)
 | []=>[]
 | e::es=>(e.1,e.2.shift n)::oT n es
def DZ (n:Nat):List (Value×V)→List (Value×V)
 | []=>[]
 | e::es=>(e.1,e.2.kill n)::DZ n es
theorem Fj {n:Nat}:∀ {es:List (Value×V)},es.map (fun e=>(e.1,e.2.kill n))=DZ n es
 | []=>rfl
 | e::es=>by simp [DZ,Fj (es:=es)]
theorem AN {n:Nat}:∀ {es:List (Value×V)},es.map (fun e=>(e.1,e.2.shift n))=oT n es
 | []=>rfl
 | e::es=>by simp [oT,AN (es:=es)]
theorem Gn {n:Nat} {es:List (Value×V)}:B.kill n (.map es) = .map (DZ n es):=by
 rw [← Fj]
 rfl
theorem CY {n:Nat} {es:List (Value×V)}:B.shift n (.map es) = .map (oT n es):=by
 rw [← AN]
 rfl
theorem J9 {n:Nat}:DZ n []=[]:=rfl
theorem GL {n:Nat} {e:Value×V} {es:List (Value×V)}:DZ n (e::es)=(e.1,e.2.kill n)::DZ n es:=rfl
theorem Gb {n:Nat}:oT n []=[]:=rfl
theorem De {n:Nat} {e:Value×V} {es:List (Value×V)}:oT n (e::es)=(e.1,e.2.shift n)::oT n es:=rfl
end Go.Ab
namespace Go.Ab
theorem JJ {H:Hp}:aL .nil H=some (.ptr (H++[B.rows 0 [] 0 true]).length 0 0 0,(H++[B.rows 0 [] 0 true])++[.box [.own H.length 0 0]]):=by simp [aL,V.cells,V.one,bo]
theorem Hc {i:Nat} {H:Hp}:aL (.yld i) H=some (.ptr H.length 0 0 0,H++[.box [.yld i]]):=by simp [aL,V.cells,V.one,bo]
theorem H4 {i:Nat} {H:Hp}:aL (.map i) H=some (.ptr H.length 0 0 0,H++[.box [.map i]]):=by simp [aL,V.cells,V.one,bo]
theorem LH {i:Nat} {l:List V} {H:Hp}:bo (.yld i::l) H=(.yld i::(bo l H).1,(bo l H).2):=rfl
theorem MC {i:Nat} {l:List V} {H:Hp}:bo (.map i::l) H=(.map i::(bo l H).1,(bo l H).2):=rfl
theorem IY {i:Nat}:V.cells (.yld i)=some [.yld i]:=rfl
theorem Hd {i:Nat}:V.cells (.map i)=some [.map i]:=rfl
end Go.Ab
namespace Go.Ab
open Go
def N9:List (Nat×V)→Bool
 | []=>true
 | p::l=>p.2.pure&&N9 l
theorem KP:N9 []=true:=rfl
theorem Jx {i:Nat} {v:V} {l:List (Nat×V)}:N9 ((i,v)::l)=(v.pure&&N9 l):=rfl
theorem TL {l:List (Nat×V)}:bk (l.map (·.2))=N9 l:=by
 induction l with
 | nil=>rfl
 | cons p l ih=>simp only [List.map_cons,bk,N9,ih]
theorem ow {P:Program} {wl:Nat} {t:TypeId} {len:Nat} {l:List (Nat×V)} {H:Hp} :
  cQ P wl t len l H=bq (ck (N9 l) (some ())) fun _=>aA P wl t len l H:=by
 unfold cQ
 rw [TL]
 cases N9 l <;> simp [bq,ck]
def ldL (P:Program) (t:TypeId) (off row:Nat):Nat→List (List V)→Option V
 | _,[]=>none
 | i,r::rs=>bif row==i then aR P t (r.drop off) else ldL P t off row (i+1) rs
theorem SD {P:Program} {t:TypeId} {off row i:Nat}:ldL P t off row i []=none:=rfl
theorem Ld {P:Program} {t:TypeId} {off row i:Nat} {r:List V} {rs:List (List V)}:ldL P t off row i (r::rs)=bif row==i then aR P t (r.drop off) else ldL P t off row (i+1) rs:=rfl
theorem Pj {P:Program} {t:TypeId} {off row:Nat}:∀ {rs:List (List V)} {i:Nat},i≤row→ldL P t off row i rs=(rs[row - i]?).bind fun r=>aR P t (r.drop off)
 | [],i,_=>by simp [ldL]
 | r::rs,i,h=>by
  rw [ldL]
  by_cases e:row=i
  ·subst e;simp
  ·have h1:(row==i)=false:=by simp [e]
   have h2:row - i=(row - (i+1))+1:=by omega
   rw [h1,cond_false,Pj (by omega),h2,List.getElem?_cons_succ]
theorem Sk {P:Program} {t:TypeId} {g row off e g':Nat} {r:List V} {rs:List (List V)} {lv:Bool} :
  ldB P t g row off (some (.rows e (r::rs) g' lv))=sif (g==g') (ldL P t off row 0 (r::rs)) none:=by
 rw [Pj (Nat.zero_le _),Nat.sub_zero]
 rfl
def JO (x:Int×Int×Int×Int):List V:=[.lit (.int .i64 x.1),.lit (.int .i64 x.2.1),.lit (.int .i64 x.2.2.1),.lit (.int .i64 x.2.2.2)]
def kg (x:Int×Int×Int×Int×Int×Int×Int):List V:=
 [.lit (.int .i64 x.1),.lit (.int .i64 x.2.1),.lit (.int .i64 x.2.2.1),.lit (.int .u64 x.2.2.2.1),.lit (.int .u64 x.2.2.2.2.1),.lit (.int .u64 x.2.2.2.2.2.1),.lit (.int .i64 x.2.2.2.2.2.2)]
def cX (x:List Int):List V:=[.ro (x.map (aF .i64))]
theorem lS (x:Int×Int×Int×Int×Int×Int×Int):bk (kg x)=true:=rfl
theorem ni (x:List Int):bk (cX x)=true:=by
 have:=pV (k := .i64) (l:=x)
 simp [cX,bk,V.pure,this]
section
variable {lf:List (Int×Int×Int×Int×Int×Int×Int)} {ll:List (List Int)} {n i:Nat} {a b c d e f g:Int} {x:List Int}
theorem Dp:cK (lf.map kg)=true:=dU lS
theorem F9:cK (ll.map cX)=true:=dU ni
theorem Dz:i9 n (lf.map kg)=lf.map kg:=fc lS
theorem Gx:i9 n (ll.map cX)=ll.map cX:=fc ni
theorem A8:gD n (lf.map kg)=lf.map kg:=ed lS
theorem Dn:gD n (ll.map cX)=ll.map cX:=ed ni
theorem IP:bI 7 (lf.map kg)=true:=dD fun _=>rfl
theorem Mx:bI 1 (ll.map cX)=true:=dD fun _=>rfl
theorem Gv:(lf.map kg).set i [.lit (.int .i64 a),.lit (.int .i64 b),.lit (.int .i64 c),.lit (.int .u64 d),.lit (.int .u64 e),.lit (.int .u64 f),.lit (.int .i64 g)]=(lf.set i (a,b,c,d,e,f,g)).map kg:=by rw [List.map_set];rfl
theorem B7:[[V.lit (.int .i64 a),.lit (.int .i64 b),.lit (.int .i64 c),.lit (.int .u64 d),.lit (.int .u64 e),.lit (.int .u64 f),.lit (.int .i64 g)]]=[(a,b,c,d,e,f,g)].map kg:=rfl
theorem I5:(ll.map cX).set i [.ro (x.map (aF .i64))]=(ll.set i x).map cX:=by rw [List.map_set];rfl
theorem FI:(ll.map cX).set i [.ro []]=(ll.set i []).map cX:=by rw [List.map_set];rfl
theorem DO:[[V.ro (x.map (aF .i64))]]=[x].map cX:=rfl
theorem A3:[[V.ro []]]=[([]:List Int)].map cX:=rfl
theorem GU:List.replicate n [V.lit (.int .i64 a),.lit (.int .i64 b),.lit (.int .i64 c),.lit (.int .u64 d),.lit (.int .u64 e),.lit (.int .u64 f),.lit (.int .i64 g)]=(List.replicate n (a,b,c,d,e,f,g)).map kg:=by rw [List.map_replicate];rfl
end
theorem HC {k:IntKind} {x y:Int}:nu (.int k x) (.int k y)=(x==y):=by
 cases k <;> rfl
theorem Cs {k:IntKind} {x:Int}:fM k (.int k x)=true:=by
 cases k <;> rfl
theorem Jq {cx:Cx} {c o:Bool} {v:Value} {args:List V} {H:Hp}:bZ cx c o (.lit v) args H=none:=rfl
end Go.Ab
namespace Go.Ab
section steps
variable {cx:Cx} {K:Out→St→Res} {s:St} {r:Res} {id j n0:Nat} {ops:Array Oper} {a a':List Nat×List Nat} {env:List V} {H:Hp} {o:Oper} {i:Nat} {L:List Nat}
end steps
def apA:List Nat→List Nat→Bool
 | [],_=>true
 | i::l,m => !(inN i m)&&apA l m
where inN:Nat→List Nat→Bool
 | _,[]=>false
 | i,k::m=>i==k||inN i m
theorem Od {i:Nat}:∀ {m:List Nat},apA.inN i m=m.contains i
 | []=>rfl
 | k::m=>by
  rw [apA.inN,Od,List.contains_cons]
theorem NX:∀ {l m:List Nat},pC (l,m)=apA l m
 | [],m=>rfl
 | i::l,m=>by
  have:=NX (l:=l) (m:=m)
  unfold pC at this ⊢
  simp only [List.all_cons] at this ⊢
  rw [this,apA,Od]
theorem VN {l m:List Nat} {k:Res}:apt (l,m) k=sif (apA l m) k none:=by
 unfold apt sif
 rw [NX,Bool.cond_eq_ite]
theorem RZ {m:List Nat}:apA [] m=true:=rfl
theorem My {i:Nat} {l m:List Nat}:apA (i::l) m=(!(apA.inN i m)&&apA l m):=rfl
theorem Qw {i:Nat}:apA.inN i []=false:=rfl
theorem L4 {i k:Nat} {m:List Nat}:apA.inN i (k::m)=(i==k||apA.inN i m):=rfl
theorem QT {i g n:Nat} {l m:List Nat}:lgR (.own i g n) (l,m)=(i::l,m):=rfl
theorem Rv {i g x y:Nat} {l m:List Nat}:lgR (.ptr i g x y) (l,m)=(i::l,m):=rfl
theorem RO {i:Nat} {l m:List Nat}:lgR (.map i) (l,m)=(i::l,m):=rfl
theorem T1 {rs:List (List V)} {l m:List Nat}:lgR (.ro rs) (l,m)=(l,m):=rfl
theorem VA {rs:List V} {l m:List Nat}:lgR (.rp rs) (l,m)=(l,m):=rfl
theorem Q3 {l m:List Nat}:lgR .nil (l,m)=(l,m):=rfl
theorem Rb {v:Value} {l m:List Nat}:lgR (.lit v) (l,m)=(l,m):=rfl
theorem SC {i g n:Nat} {l m:List Nat}:lgW (.own i g n) (l,m)=(l,i::m):=rfl
theorem S6 {i g x y:Nat} {l m:List Nat}:lgW (.ptr i g x y) (l,m)=(l,i::m):=rfl
theorem S2 {i:Nat} {l m:List Nat}:lgW (.map i) (l,m)=(l,i::m):=rfl
theorem Q5 {α:Type} {x:α}:[x].length=1:=rfl
end Go.Ab
set_option maxRecDepth 100000
namespace Go.Ab
def ac9:=PLift.up (aI (aI (aI (aI @S8 @Rc) (aI @Rl (aI @PT @RD))) (aI (aI @Sr (aI @Ze @ad9)) (aI @aeB (aI @fe @oK)))) (aI (aI (aI @ar (aI @R8 @Q7)) (aI @QA (aI @lu @kD))) (aI (aI @RE (aI @JQ @Gt)) (aI @Ss (aI @cond_true.{1} @cond_false.{1})))))
theorem syP:type_of% ac9.down:=ac9.down
def adF:=PLift.up (aI (aI (aI (aI (aI (aI (aI (aI @Hg @X0) (aI @WI @Ud)) (aI (aI @Yd @Tl) (aI @WP (aI @PP @Xq)))) (aI (aI (aI @To @Uj) (aI @WF (aI @VL @Qa))) (aI (aI @ZP @aaZ) (aI @Wg (aI @QJ @V3))))) (aI (aI (aI (aI @abQ @Z6) (aI @Pu @ZC)) (aI (aI @Xt @Zt) (aI @ac0 (aI @aa6 @R7)))) (aI (aI (aI @Ql @Tu) (aI @Z5 (aI @ZK @aah))) (aI (aI @Qr @DD) (aI @S3 (aI @Qx @Zz)))))) (aI (aI (aI (aI (aI @HA @Ms) (aI @RJ @Qe)) (aI (aI @Po @QX) (aI @RX (aI @Xj @Q6)))) (aI (aI (aI @SY @Q1) (aI @UV (aI @QR @X5))) (aI (aI @Tv @Qc) (aI @Re (aI @PI @JB))))) (aI (aI (aI (aI @Ik @M6) (aI @Gp @M8)) (aI (aI @Hx @Jl) (aI @LW (aI @Mk @PS)))) (aI (aI (aI @I6 @Rp) (aI @KO (aI @ND @Ly))) (aI (aI @LC @Rh) (aI @J7 (aI @R6 @Mw))))))) (aI (aI (aI (aI (aI (aI @Np @Nl) (aI @KU @KX)) (aI (aI @aev @aes) (aI @aee (aI @HZ @M3)))) (aI (aI (aI @NN @HF) (aI @Gr (aI @pV @FL))) (aI (aI @D1 @GA) (aI @Sp (aI @H9 @FN))))) (aI (aI (aI (aI @FD @Cf) (aI @Gn @CY)) (aI (aI @J9 @GL) (aI @Gb (aI @De @Kp)))) (aI (aI (aI @K4 @LP) (aI @QO (aI @R4 @KM))) (aI (aI @Sc @Ks) (aI @Dc (aI @HD @Gq)))))) (aI (aI (aI (aI (aI @FA @Gh) (aI @Ck @HJ)) (aI (aI @Ji @F3) (aI @GH (aI @DU @FF)))) (aI (aI (aI @F6 @Cm) (aI @Cw (aI @Bz @Ag))) (aI (aI @OG @N5) (aI @VE (aI @S4 @Mb))))) (aI (aI (aI (aI @wM @rP) (aI @Ta @HG)) (aI (aI @P7 @Nc) (aI @QQ (aI @K1 @Mm)))) (aI (aI (aI @SO @KZ) (aI @JE (aI @Qg @Kx))) (aI (aI @NL @Lw) (aI @G1 (aI @Kb @FE)))))))) (aI (aI (aI (aI (aI (aI (aI @G6 @Gy) (aI @C4 @NO)) (aI (aI @IJ @CL) (aI @PV (aI @P0 @Tw)))) (aI (aI (aI @LD @RP) (aI @MB (aI @KB @MU))) (aI (aI @LO @Lk) (aI @Ko (aI @Kl @MF))))) (aI (aI (aI (aI @LE @LQ) (aI @Lu @NI)) (aI (aI @Il @IU) (aI @LU (aI @NG @Mp)))) (aI (aI (aI @SK @SN) (aI @S5 (aI @RY @MR))) (aI (aI @Ku @GD) (aI @Ga (aI @FT @NV)))))) (aI (aI (aI (aI (aI @Ih @Pn) (aI @MS @Gj)) (aI (aI @Nv @QZ) (aI @ME (aI @MI @Lr)))) (aI (aI (aI @Hi @F4) (aI @KQ (aI @I1 @JJ))) (aI (aI @Hc @H4) (aI @LH (aI @MC @IY))))) (aI (aI (aI (aI @Hd @Nj) (aI @Hb @Ka)) (aI (aI @K8 @NR) (aI @P4 (aI @K7 @Na)))) (aI (aI (aI @SG @Iq) (aI @Hs (aI @GN @LJ))) (aI (aI @J3 @JY) (aI @Lq (aI @Hq @Ib))))))) (aI (aI (aI (aI (aI (aI @MV @SH) (aI @PR @SA)) (aI (aI @Ns @Ai) (aI @Ge (aI @FS @aeE)))) (aI (aI (aI @Tm @MZ) (aI @IB (aI @Lt @F8))) (aI (aI @Iv @FY) (aI @HT (aI @FM @CU))))) (aI (aI (aI (aI @AV @JU) (aI @MQ @Jj)) (aI (aI @ML @Kv) (aI @FC (aI @DC @Aw)))) (aI (aI (aI @List.length_map.{0,0} @List.length_cons.{0}) (aI @List.length_nil.{0} (aI @List.length_replicate.{0} @List.length_set.{0}))) (aI (aI @List.drop_succ_cons.{0} @List.drop_zero.{0}) (aI @List.take_succ_cons.{0} (aI @List.take_zero.{0} @List.set_cons_zero.{0})))))) (aI (aI (aI (aI (aI @List.set_cons_succ.{0} @List.nil_append.{0}) (aI @List.cons_append.{0} @List.append_nil.{0})) (aI (aI @List.getElem?_cons_zero.{0} @List.getElem?_cons_succ.{0}) (aI @List.take_nil.{0} (aI @Option.map_some.{0,0} @Option.map_none.{0,0})))) (aI (aI (aI @Option.bind_some.{0,0} @Option.bind_none.{0,0}) (aI @Nat.zero_add (aI @Nat.add_zero @Nat.le_refl))) (aI (aI @Bool.and_true @Bool.true_and) (aI @Bool.and_false (aI @Bool.false_and @Bool.or_true))))) (aI (aI (aI (aI @Bool.or_false @Bool.true_or) (aI @Bool.false_or @Bool.not_true)) (aI (aI @Bool.not_false @beq_self_eq_true.{0}) (aI @bne_self_eq_false.{0} (aI @decide_true @decide_false)))) (aI (aI (aI @if_true.{1} @if_false.{1}) (aI @Bool.false_eq_true (aI @and_self @and_true))) (aI (aI @true_and @Option.isSome_some.{0}) (aI @Option.isSome_none.{0} (aI @Int.cast_ofNat_Int @Int.toNat_natCast)))))))))
theorem syA:type_of% adF.down:=adF.down
end Go.Ab
set_option maxRecDepth 100000
namespace Go.Ab
def adw:=PLift.up (aI (aI (aI (aI (aI @ow @KP) (aI @Jx (aI @SD @Ld))) (aI (aI @Sk @Dp) (aI @F9 (aI @Dz @Gx)))) (aI (aI (aI @A8 @Dn) (aI @IP (aI @Mx @Gv))) (aI (aI @B7 @I5) (aI @FI (aI @DO @A3))))) (aI (aI (aI (aI @GU @HC) (aI @Cs (aI @Jq @VN))) (aI (aI @RZ @My) (aI @Qw (aI @L4 @QT)))) (aI (aI (aI @Rv @RO) (aI @T1 (aI @VA @Q3))) (aI (aI @Rb @SC) (aI @S6 (aI @S2 @Q5))))))
theorem syQ:type_of% adw.down:=adw.down
end Go.Ab
set_option linter.unusedVariables false
set_option linter.unusedSimpArgs false
namespace Go.Ab
open Go.Proofs Go.RowKit Go.Shelf Go.Sort Go.Lib
def oi:List (List V)→Option (List Int)
 | []=>some []
 | [.lit (.int .i64 n)]::l=>(oi l).map (n :: ·)
 | _=>none
theorem uL:∀ {rs:List (List V)} {zs:List Int},oi rs=some zs→rs=zs.map fun n=>[V.lit (.int .i64 n)]
 | [],zs,h=>by cases h;rfl
 | r::l,zs,h=>by
  unfold oi at h
  split at h
  ·rename_i h2;cases h2
  ·rename_i n l' h2
   cases h2
   cases hl:oi l with
   | none=>rw [hl] at h;cases h
   | some z=>rw [hl] at h;cases h;rw [List.map_cons,← uL hl]
  ·cases h
def B4 (zs:List Int) (a b:Nat):List Int:=zs.take a++zs.drop b++List.replicate (b - a) 0
def Rx (args:List V) (H:Hp):Option (V×Hp):=
 match args with
 | [.own id g len,.lit (.int .i64 a),.lit (.int .i64 b)]=>
  match H[id]? with
  | some (.rows e rs g' true)=>
   if e=1∧g=g'∧len≤rs.length∧0≤a∧a<b∧b.toNat≤len∧len≤9223372036854775807 then
    (oi (rs.take len)).map fun zs=>(.own id g (len - (b.toNat - a.toNat)),H.set id (.rows 1 ((B4 zs a.toNat b.toNat).map (fun n=>[V.lit (.int .i64 n)])++rs.drop len) g true))
   else none
  | _=>none
 | _=>none
section
variable {P:Program} {ρ:Ren}
set_option maxHeartbeats 4000000 in
set_option maxRecDepth 1000000 in
theorem Sj (L:Lays2.n23 P ρ) {b off c i j:Nat} {d:Array Int} {w:World} (hH:Holds (Value.int .i64) w b off d) (hc:d.size≤c) (hm:d.size≤9223372036854775807) (hij:i<j) (hj:j≤d.size) :
  Calls P (ρ.f 23) #[.slice (some ⟨b,off,none⟩) d.size c,.int .i64 i,.int .i64 j] w fun e w'=>e = .returned (.slice (some ⟨b,off,none⟩) (d.size - (j - i)) c) ∧
   w'=putRow (Value.int .i64) (Sort.ahead w 1) b off (B4 d.toList i j).toArray:=by
 have mixed:=L.mixed;have t0:=L.t0;have a0:=L.a0;have z0:=L.z0;have v0:=L.v0;have t3:=L.t3;have a3:=L.a3;have z3:=L.z3;have v3:=L.v3
 have t4:=L.t4;have a4:=L.a4;have z4:=L.z4;have v4:=L.v4;have t22:=L.t22;have a22:=L.a22;have z22:=L.z22;have v22:=L.v22
 obtain ⟨info,hinfo,hz0,hz1,_⟩:=info_parts L.i3
 generalize hns:(d.toList.drop j).map (Value.int .i64)=ns
 have nl:ns.length=d.size - j:=by rw [← hns];simp
 have at_:∀ t,t<d.size - j→ns[t]? = some (Value.int .i64 d[j+t]!):=fun t ht=>by
  rw [← hns,List.getElem?_map,List.getElem?_drop,Array.getElem?_toList,getElem!_pos d (j+t) (by omega),Array.getElem?_eq_getElem (by omega)]
  rfl
 -- where those behind lie
 have src:∃ A:Addr,(if c=j then some (⟨b,off,none⟩:Addr) else some ⟨b,off+j,none⟩)=some A∧Hid (∀ t u,ns[t]? = some u→w.drew.cell? (A.add t)=some u):=by
  rcases Decidable.em (c=j) with e | e
  ·refine ⟨⟨b,off,none⟩,if_pos e,fun t u hu => ?_⟩
   have:=(List.getElem?_eq_some_iff.1 hu).1
   omega
  ·refine ⟨⟨b,off+j,none⟩,if_neg e,fun t u hu => ?_⟩
   have ht:t<d.size - j:=by have:=(List.getElem?_eq_some_iff.1 hu).1;omega
   rw [at_ t ht] at hu
   rw [Addr.add_lit,Nat.add_assoc]
   exact (hH (j+t) (by omega)).1.trans hu
 obtain ⟨A,hA,hsrc⟩:=src
 have one:Hid (ns.length=(d.size - j)*1):=by rw [Nat.mul_one];exact nl
 have cells:Hid (∀ u ∈ ns,u.oneCell'=true):=fun u hu=>by
  rw [← hns] at hu
  obtain ⟨x,_,rfl⟩:=List.mem_map.1 hu
  rfl
 have dest:Hid (∀ t,t<ns.length→(w.drew.cell? ⟨b,off+i*1+t,none⟩).isSome=true∧w.drew.frozen? ⟨b,off+i*1+t,none⟩=false):=fun t ht=>by
  rw [nl] at ht
  rw [Nat.mul_one,Nat.add_assoc]
  obtain ⟨h1,h2⟩:=hH (i+t) (by omega)
  exact ⟨by show (w.cell? _).isSome=true;rw [h1];rfl,h2⟩
 obtain ⟨W,hW⟩:∃ W,W=w.drew.setCells b (off+i*1) ns:=⟨_,rfl⟩
 have hAh:=holds_ahead (Value.int .i64) w 1 b off d hH
 have hP:W=putRow (Value.int .i64) (Sort.ahead w 1) b off (lay d i (d.toList.drop j)):=by
  rw [hW,← hns,Nat.mul_one,← putRow_setCells (Value.int .i64) (Sort.ahead w 1) b off _ d i (by simp;omega),putRow_self (Value.int .i64) (Sort.ahead w 1) b off d hAh]
  rfl
 have hHW:Holds (Value.int .i64) W b off (lay d i (d.toList.drop j)):=by rw [hP];exact holds_putRow (Value.int .i64) _ b off d _ hAh (lay_size _ _ _)
 have wipe:∀ ty,(Builtin.clear_ #[ρ.t 22] ty #[.slice (some ⟨b,off+(i+(d.size - j)),none⟩) (d.size - (i+(d.size - j))) (c - (i+(d.size - j)))]).run P W = .ok (.tuple #[]) (W.setCells b (off+(i+(d.size - j))) (List.replicate (d.size - (i+(d.size - j))) (.int .i64 0))):=fun ty=>by
  refine Lib.run_clear_slice W _ _ ty _ t22 v3 rfl rfl b (off+(i+(d.size - j))) _ _ (by omega) (fun t ht => ?_) (fun t ht => ?_)
  all_goals rw [Nat.add_assoc]
  ·rw [(hHW _ (by rw [lay_size];omega)).1];rfl
  ·exact (hHW _ (by rw [lay_size];omega)).2
 have keep:Aside (W=putRow (Value.int .i64) (Sort.ahead w 1) b off (lay d i (d.toList.drop j))):=hP
 have wIs:Hid (W=w.drew.setCells b (off+i*1) ns):=hW
 have hic:i≤c:=by omega
 have hjc:j≤c:=by omega
 clear hW hP hHW hAh hH at_ hns nl
 go_enter L.f23,Body2.n23_ntmps ρ
 go_wp2_with fail
 go_region_law_o (refine step_append_room rfl (.tmp 22) (.tmp 25) (ρ.t 22) rfl (ρ.t 3) info 1 t22 hinfo hz1 b off i c (by simp [Act.eval,Act.put]) A (d.size - j) (c - j) ns (by simp [Act.eval,Act.put]) one.out hsrc.out cells.out (by omega) dest.out ?_;rw [← wIs.out])
 go_wp2
 go_ret
 refine ⟨by rw [show d.size - (j - i)=i+(d.size - j) by omega];rfl,?_⟩
 unfold B4
 rw [← delete_arr d i j 0 (by omega) hj,← putRow_setCells (Value.int .i64) _ b off _ _ (i+(d.size - j)) (by rw [lay_size];simp;omega),← keep.out,List.map_replicate,show d.size - (i+(d.size - j))=j - i by omega]
theorem EU {zs:List Int} {a b:Nat} (h:a≤b) (hb:b≤zs.length):(B4 zs a b).length=zs.length:=by
 unfold B4
 simp
 omega
theorem JM {w:World} {b k:Nat} {d:Array Int} (h:k≠b):(putRow (Value.int .i64) (Sort.ahead w 1) b 0 d).heap[k]? = w.heap[k]? := by
 show (w.heap.modify b _)[k]? = _
 rw [Array.getElem?_modify,if_neg (fun e=>h e.symm)]
theorem AI {w:World} {b:Nat} {d:Array Int} {arr:Array Value} {e:TypeId} (h:w.heap[b]? = some (.cells arr e (0,0))):(putRow (Value.int .i64) (Sort.ahead w 1) b 0 d).heap[b]? = some (.cells (putCells (Value.int .i64) 0 d arr) e (0,0)):=by
 show (w.heap.modify b _)[b]? = _
 rw [Array.getElem?_modify,if_pos rfl,h]
 rfl
theorem BS {B0:Nat} {w0 w:World} {R:Ro} {σ:List Sg} {H H':Hp} {v:V} {args:List V} {cargs:Array Value} (L:Lays2.n23 P ρ) (h:Rx args H=some (v,H')) (hI:Inv 0 B0 w0 R σ H w) (hA:bL R σ args cargs):Calls P (ρ.f 23) cargs w (Gl 0 B0 w0 R σ w v H'):=by
 unfold Rx at h
 split at h
 case h_2=>cases h
 rename_i id g len a b
 split at h
 case h_2=>cases h
 rename_i e0 rs g' hb
 split at h
 case isFalse=>cases h
 rename_i hc
 obtain ⟨rfl,rfl,hlen,ha0,hab,hbl,hbig⟩:=hc
 rw [Option.map_eq_some_iff] at h
 obtain ⟨zs,hz,h⟩:=h
 cases h
 have hrs:=uL hz
 have hzl:zs.length=len:=by
  have:=congrArg List.length hrs
  rw [List.length_take,List.length_map] at this
  omega
 obtain ⟨ca,l1,rfl,hr1,hA⟩:=hA.uncons
 obtain ⟨cb,l2,e2,hr2,hA⟩:=hA.uncons
 obtain ⟨cc,l3,e3,hr3,hA⟩:=hA.uncons
 have e4:=hA.nil_inv
 cases hr2
 cases hr3
 obtain ⟨Ad,l,c,s,rfl,hs,hh,hg,hgen⟩:=gG hr1
 obtain ⟨q1,q2,q3,q4,q5,q6⟩:=fU hI hb hs hh
 obtain ⟨rfl,hn,hsm⟩:=hgen q1.symm
 cases hblk:s.blk with
 | none=>
  have:=q5 hblk
  subst this
  simp at hlen
  omega
 | some b0=>
  obtain ⟨rfl,hlc,hcap⟩:=hsm b0 hblk
  obtain ⟨arr,e,hheap,hsz,hcell,hro⟩:=q6 b0 hblk
  have hB:B0≤b0:=hI.ge id _ s b0 (Nat.zero_le _) hb rfl hs hblk
  have hrow:∀ j (hj:j<zs.length),rs[j]? = some [V.lit (.int .i64 zs[j])]:=fun j hj=>by
   have:(rs.take l)[j]? = some [V.lit (.int .i64 zs[j])]:=by rw [hrs,List.getElem?_map,List.getElem?_eq_getElem hj];rfl
   rw [List.getElem?_take] at this
   split at this
   ·exact this
   ·cases this
  have hcv:∀ j (hj:j<zs.length),arr[j]? = some (.int .i64 zs[j]):=fun j hj=>by
   obtain ⟨cv,h1,h2⟩:=hcell j 0 _ _ (hrow j hj) rfl
   cases h2
   rw [Nat.mul_one,Nat.add_zero] at h1
   exact h1
  have hH:Holds (Value.int .i64) w b0 0 zs.toArray:=fun j hj=>by
   have hj':j<zs.length:=by simpa using hj
   rw [Nat.zero_add]
   refine ⟨?_,?_⟩
   ·rw [getElem!_pos zs.toArray j hj]
    unfold World.cell?
    rw [hheap]
    simpa using hcv j hj'
   ·unfold World.frozen?
    rw [hheap]
    simp
  have el:(Value.slice (some ⟨b0,0,none⟩) l c::l1).toArray = #[.slice (some ⟨b0,0,none⟩) zs.toArray.size c,.int .i64 ((a.toNat:Nat):Int),.int .i64 ((b.toNat:Nat):Int)]:=by
   have e2':l1=Value.int .i64 a::l2:=by simpa using e2
   have e3':l2=Value.int .i64 b::l3:=by simpa using e3
   have e4':l3=[]:=by simpa using e4
   rw [e2',e3',e4',Int.toNat_of_nonneg ha0,Int.toNat_of_nonneg (by omega)]
   simp [hzl]
  rw [el]
  refine (Sj L hH (by simpa [hzl] using hlc) (by simpa [hzl] using hbig) (by omega) (by simpa [hzl] using hbl)).mono ?_
  rintro x w' ⟨rfl,rfl⟩
  have hcl:=EU (zs:=zs) (a:=a.toNat) (b:=b.toNat) (by omega) (by omega)
  have hsize:(putRow (Value.int .i64) (Sort.ahead w 1) b0 0 (B4 zs a.toNat b.toNat).toArray).heap.size=w.heap.size:=by rw [size_putRow];rfl
  have hset:=hI.set (R':=R) (w':=putRow (Value.int .i64) (Sort.ahead w 1) b0 0 (B4 zs a.toNat b.toNat).toArray) (b' := .rows 1 ((B4 zs a.toNat b.toNat).map (fun n=>[V.lit (.int .i64 n)])++rs.drop l) g true) (s':=s) hb rfl hs hh (Nat.zero_le _) (nq.refl s) (fun k hk => .inl hk)
   ⟨rfl,rfl,rfl,by rw [hsize];exact Nat.le_refl _,fun k hk=>JM (by omega)⟩ (by rw [hsize];exact Nat.le_refl _) (fun k _ hk=>JM (fun e=>hk (by rw [e];exact hblk))) (ff.refl R) (fun _ _ h => .inl h)
   (fun k o u hu hk=>by
    rw [hblk] at hk;cases hk
    have:=(hro o (by simp [hu])).1
    cases this)
   ⟨q1,q2,q3,fun r hr=>by
    rcases List.mem_append.1 hr with hr | hr
    ·obtain ⟨n,_,rfl⟩:=List.mem_map.1 hr
     exact ⟨rfl,rfl⟩
    ·exact q4 r (List.mem_of_mem_drop hr),by
    rw [hblk]
    refine ⟨_,e,AI hheap,?_,fun i j r x hr hx => ?_,fun o ho => ?_⟩
    ·unfold putCells
     rw [Array.size_mapIdx]
     exact hsz
    ·rw [cW hs]
     by_cases hi:i<zs.length
     ·rw [List.getElem?_append_left (by simp;omega),List.getElem?_map,List.getElem?_eq_getElem (by omega)] at hr
      cases hr
      cases j with
      | succ j=>simp at hx
      | zero=>
       cases hx
       refine ⟨.int .i64 ((B4 zs a.toNat b.toNat)[i]'(by omega)), ?_, .lit _⟩
       unfold putCells
       have hai:=hcv i hi
       rw [Nat.mul_one,Nat.add_zero,Array.getElem?_mapIdx,hai]
       simp only [Option.map_some,Nat.zero_le,Nat.zero_add,true_and,List.size_toArray,Nat.sub_zero]
       rw [if_pos (by omega),getElem!_pos _ _ (by simp;omega)]
       simp
     ·rw [List.getElem?_append_right (by simp;omega),List.getElem?_drop] at hr
      have hr':rs[i]? = some r:=by
       rw [← hr]
       congr 1
       simp
       omega
      obtain ⟨cv,h1,h2⟩:=hcell i j r x hr' hx
      refine ⟨cv,?_,h2⟩
      unfold putCells
      rw [Array.getElem?_mapIdx,h1]
      simp only [Option.map_some,Nat.zero_le,Nat.zero_add,true_and,List.size_toArray,Nat.sub_zero]
      rw [if_neg (by omega)]
    ·have:=(hro o ho).1
     cases this⟩
  rw [cW hs] at hset
  refine ⟨R,σ,hset.widen (fun k hk => ?_),?_,by rw [hsize];exact Nat.le_refl _⟩
  ·rw [hblk] at hk;cases hk;exact hB
  ·have e5:zs.toArray.size - (b.toNat - a.toNat)=l - (b.toNat - a.toNat):=by simp [hzl]
   rw [e5]
   refine .own id g (l - (b.toNat - a.toNat)) _ _ c s hs hh (by omega) (fun _=>⟨rfl,fun hz => ?_,fun b1 hb1 => ?_⟩)
   ·rw [hblk] at hz;cases hz
   ·rw [hblk] at hb1;cases hb1
    exact ⟨rfl,by omega,hcap⟩
end
def dlB (id g len:Nat) (a b:Int) (H:Hp):Option B→Option (V×Hp)
 | some (.rows e rs g' true)=>
  if e=1∧g=g'∧len≤rs.length∧0≤a∧a<b∧b.toNat≤len∧len≤9223372036854775807 then
   (oi (rs.take len)).map fun zs=>(.own id g (len - (b.toNat - a.toNat)),H.set id (.rows 1 ((B4 zs a.toNat b.toNat).map (fun n=>[V.lit (.int .i64 n)])++rs.drop len) g true))
  else none
 | _=>none
theorem Qf {id g len:Nat} {a b:Int} {H:Hp}:Rx [.own id g len,.lit (.int .i64 a),.lit (.int .i64 b)] H=dlB id g len a b H H[id]? := by
 unfold Rx dlB
 rfl
theorem rV:∀ l:List Int,oi (l.map (aF .i64))=some l
 | []=>rfl
 | n::l=>by rw [List.map_cons,aF,oi,rV l];rfl
theorem Mr {id g len e:Nat} {a b:Int} {H:Hp} {l:List Int}:dlB id g len a b H (some (.rows e (l.map (aF .i64)) g true)) =
  ck (e==1) (ck (decide (len≤l.length∧0≤a∧a<b∧b.toNat≤len∧len≤9223372036854775807)) (some (.own id g (len - (b.toNat - a.toNat)),H.set id (.rows 1 ((B4 (l.take len) a.toNat b.toNat++l.drop len).map (aF .i64)) g true)))):=by
 unfold dlB
 dsimp only
 rw [List.length_map,← List.map_take,rV,← List.map_drop]
 by_cases he:e=1
 ·subst he
  rw [beq_self_eq_true,fe]
  by_cases h:len≤l.length∧0≤a∧a<b∧b.toNat≤len∧len≤9223372036854775807
  ·rw [if_pos ⟨rfl,rfl,h⟩,decide_eq_true h,fe,List.map_append]
   rfl
  ·rw [if_neg (fun z=>h z.2.2),decide_eq_false h,oK]
 ·have h1:(e==1)=false:=by simp [he]
  rw [h1,oK,if_neg (fun z=>he z.1)]
theorem Pm {P:Program} {M:Mode} {k:Nat} {f:FuncId} {args:List V} {H:Hp} (ho:M.orc f=some Rx):evF P M (k+1) 0 f args H=Rx args H:=by
 rw [evF,ho]
 rfl
end Go.Ab
namespace Go.Ab
def cf (x:Tys):List V:=
 [.lit (.int .i64 x.1),.ro (x.2.1.map (aF .i64)),.lit (.int .i64 x.2.2.1),.lit (.int .i64 x.2.2.2.1),.lit (.int .i64 x.2.2.2.2.1),.lit (.int .u64 x.2.2.2.2.2.1),.lit (.int .u64 x.2.2.2.2.2.2.1),.lit (.int .u64 x.2.2.2.2.2.2.2.1),.lit (.int .i64 x.2.2.2.2.2.2.2.2)]
def arC (id g row:Nat):List (Int×Nat)→Int→Option V
 | [],_=>none
 | p::l,n=>bif n==p.1 then some (.ptr id g row p.2) else arC id g row l n
theorem RL {id g row:Nat} {n:Int}:arC id g row [] n=none:=rfl
theorem Lf {id g row o:Nat} {n i:Int} {l:List (Int×Nat)}:arC id g row ((i,o)::l) n=bif n==i then some (.ptr id g row o) else arC id g row l n:=rfl
def arL (sz off len:Nat):List (Int×Nat):=(List.range len).map fun j:Nat=>((j:Int),off+j*sz)
theorem Ct {id g row:Nat} {n:Int}:∀ {l:List (Int×Nat)},(∀ p ∈ l,p.1≠n)→arC id g row l n=none
 | [],_=>rfl
 | p::l,h=>by
  rw [arC,show (n==p.1)=false by simp;exact fun e=>h p (List.mem_cons_self ..) e.symm,cond_false]
  exact Ct fun q hq=>h q (List.mem_cons_of_mem _ hq)
theorem OK {id g row sz off:Nat} {q:Nat}:∀ (l:List Nat),q ∈ l→arC id g row (l.map fun j:Nat=>((j:Int),off+j*sz)) (q:Int)=some (.ptr id g row (off+q*sz))
 | [],h=>by cases h
 | x::l,h=>by
  rw [List.map_cons,arC]
  by_cases e:q=x
  ·subst e;simp
  ·have h2:((q:Int)==(x:Int))=false:=by simp;omega
   rw [h2,cond_false]
   exact OK l ((List.mem_cons.1 h).resolve_left e)
theorem Ep {P:Program} {t e:TypeId} {len sz id g row off:Nat} {k:IntKind} {n:Int} {H:Hp} (h:P.underlying t=some (.array len e)) (hs:aO P e=sz) (hz:sz≠0) :
  aj P t (.ptr id g row off) (.lit (.int k n)) H=arC id g row (arL sz off len) n:=by
 unfold aj
 simp only [h,hs]
 by_cases h0:0≤n
 ·rw [if_pos h0]
  by_cases h1:n<len
  ·rw [if_pos ⟨h1,hz⟩]
   obtain ⟨q,rfl⟩:∃ q:Nat,n=q:=⟨n.toNat,by omega⟩
   rw [arL,OK (List.range len) (List.mem_range.2 (by omega)),Int.toNat_natCast]
  ·rw [if_neg (fun hh=>h1 hh.1)]
   refine (Ct fun p hp => ?_).symm
   obtain ⟨j,hj,rfl⟩:=List.mem_map.1 hp
   have:=List.mem_range.1 hj
   simp only
   omega
 ·rw [if_neg h0]
  refine (Ct fun p hp => ?_).symm
  obtain ⟨j,hj,rfl⟩:=List.mem_map.1 hp
  simp only
  omega
end Go.Ab
namespace Go.Ab
def aU (x:Tyw):List V:=
 [.lit (.int .i64 x.1),.ro (x.2.1.map aS),.lit (.int .i64 x.2.2.1.1),.lit (.int .i64 x.2.2.1.2.1),.lit (.int .i64 x.2.2.1.2.2.1),.lit (.int .u64 x.2.2.1.2.2.2.1),.lit (.int .u64 x.2.2.1.2.2.2.2.1),.lit (.int .u64 x.2.2.1.2.2.2.2.2.1),.lit (.int .i64 x.2.2.1.2.2.2.2.2.2),.lit (.int .i64 x.2.2.2.1),.lit (.int .i64 x.2.2.2.2)]
mutual
theorem I3 (n:Nat):∀ v:V,v.pure=true→v.kill n=v
 | .lit _,_=>rfl
 | .ro _,_=>rfl
 | .nil,_=>rfl
 | .any,_=>rfl
 | .junk,_=>rfl
 | .agg cs,h=>by rw [V.kill,f5 n cs h]
 | .tup cs,h=>by rw [V.kill,f5 n cs h]
 | .fn f a b,h=>by
  rw [V.pure,Bool.and_eq_true] at h
  rw [V.kill,f5 n a h.1,f5 n b h.2]
 | .rp _,_=>rfl
theorem f5 (n:Nat):∀ l:List V,bk l=true→gW n l=l
 | [],_=>rfl
 | v::l,h=>by
  rw [bk,Bool.and_eq_true] at h
  rw [gW,I3 n v h.1,f5 n l h.2]
end
theorem Ay {n:Nat} {rs:List (List V)}:i9 n rs=rs.map (gW n):=by
 unfold i9
 split
 ·rename_i h
  rw [cK,List.all_eq_true] at h
  have:∀ l:List (List V),(∀ x ∈ l,bk x=true)→l.map (gW n)=l:=by
   intro l
   induction l with
   | nil=>intro _;rfl
   | cons r l ih=>intro h;rw [List.map_cons,f5 n r (h r (List.mem_cons_self ..)),ih fun x hx=>h x (List.mem_cons_of_mem _ hx)]
  exact (this rs h).symm
 ·rfl
theorem ag {n:Nat} {r:List V} {rs:List (List V)}:i9 n (r::rs)=gW n r::i9 n rs:=by
 rw [Ay,Ay,List.map_cons]
theorem af {k:IntKind} {a:Int} {l:List Int}:[V.lit (.int k a)]::List.map (aF k) l=List.map (aF k) (a::l):=rfl
theorem ae {a b c:Int} {l:Tye}:[V.lit (.int .i64 a),.lit (.int .i64 b),.lit (.int .i64 c)]::List.map aS l=List.map aS ((a,b,c)::l):=rfl
def ac4:=PLift.up (aI (aI (aI (aI (aI (aI @rtN.eq_1 @bk.eq_1) (aI @bk.eq_2 @V.pure.eq_1)) (aI (aI @V.pure.eq_2 @V.pure.eq_3) (aI @V.pure.eq_4 @V.pure.eq_5))) (aI (aI (aI @V.pure.eq_6 @V.pure.eq_7) (aI @V.pure.eq_8 @V.pure.eq_9)) (aI (aI @V.pure.eq_10 @V.pure.eq_11) (aI @V.pure.eq_12 @V.pure.eq_13)))) (aI (aI (aI (aI @nsh.eq_1 @V4.eq_1) (aI @V4.eq_2 @V4.eq_3)) (aI (aI @V.kill.eq_1 @V.kill.eq_2) (aI @V.kill.eq_3 @V.kill.eq_4))) (aI (aI (aI @V.kill.eq_5 @V.kill.eq_6) (aI @V.kill.eq_7 @V.kill.eq_8)) (aI (aI @V.kill.eq_9 @V.kill.eq_10) @V.kill.eq_11)))) (aI (aI (aI (aI (aI @V.kill.eq_12 @V.kill.eq_13) (aI @gW.eq_1 @gW.eq_2)) (aI (aI @spl.eq_1 @spl.eq_2) (aI @V.shift.eq_1 @V.shift.eq_2))) (aI (aI (aI @V.shift.eq_3 @V.shift.eq_4) (aI @V.shift.eq_5 @V.shift.eq_6)) (aI (aI @V.shift.eq_7 @V.shift.eq_8) @V.shift.eq_9))) (aI (aI (aI (aI @V.shift.eq_10 @V.shift.eq_11) (aI @V.shift.eq_12 @V.shift.eq_13)) (aI (aI @gm.eq_1 @gm.eq_2) (aI @V.scal.eq_1 @V.scal.eq_2))) (aI (aI (aI @V.scal.eq_3 @V.scal.eq_4) (aI @Cr.eq_1 @Cr.eq_2)) (aI (aI @aF.eq_1 @kF.eq_1) @aS.eq_1)))))
theorem syD:type_of% ac4.down:=ac4.down
def ac1:=PLift.up (aI (aI (aI @syQ @JO.eq_1) (aI @kg.eq_1 @cX.eq_1)) (aI (aI @cf.eq_1 @aU.eq_1) (aI @RL @Lf)))
theorem syE:type_of% ac1.down:=ac1.down
end Go.Ab
namespace Go.Ab
open Go
def ii (x:Int×Int×Int):List V:=[.lit (.int .i64 x.1),.lit (.int .i64 x.2.1),.lit (.int .u64 x.2.2)]
def aav (x:Typ):List V:=
 [.lit (.int .i64 x.1.1),.lit (.int .i64 x.1.2.1),.lit (.int .i64 x.1.2.2.1),.lit (.int .i64 x.1.2.2.2),.ro (x.2.1.map an),.ro (x.2.2.1.map (aF .u64)),.ro (x.2.2.2.1.map aU),.ro (x.2.2.2.2.map cf)]
theorem nL (x:Int×Int×Int):bk (ii x)=true:=rfl
theorem f6 (x:Tyw):bk (aU x)=true:=by
 have h:cK (x.2.1.map aS)=true:=dU fun _=>rfl
 simp [aU,bk,V.pure,h]
theorem ig (x:Tys):bk (cf x)=true:=by
 have h:=pV (k := .i64) (l:=x.2.1)
 simp [cf,bk,V.pure,h]
section
variable {lw:List Tyw} {ls:List Tys} {lp:Tye} {n i:Nat} {a b c d e f g p q r:Int} {x:List Int} {y:Tye}
theorem FU:cK (lw.map aU)=true:=dU f6
theorem GK:i9 n (lw.map aU)=lw.map aU:=fc f6
theorem Dw:gD n (lw.map aU)=lw.map aU:=ed f6
theorem Ne:bI 11 (lw.map aU)=true:=dD fun _=>rfl
theorem Iu:(lw.map aU).set i [.lit (.int .i64 p),.ro (y.map aS),.lit (.int .i64 a),.lit (.int .i64 b),.lit (.int .i64 c),.lit (.int .u64 d),.lit (.int .u64 e),.lit (.int .u64 f),.lit (.int .i64 g),.lit (.int .i64 q),.lit (.int .i64 r)]=(lw.set i (p,y,(a,b,c,d,e,f,g),q,r)).map aU:=by rw [List.map_set];rfl
theorem Du:[[V.lit (.int .i64 p),.ro (y.map aS),.lit (.int .i64 a),.lit (.int .i64 b),.lit (.int .i64 c),.lit (.int .u64 d),.lit (.int .u64 e),.lit (.int .u64 f),.lit (.int .i64 g),.lit (.int .i64 q),.lit (.int .i64 r)]]=[(p,y,(a,b,c,d,e,f,g),q,r)].map aU:=rfl
theorem Bl:[V.lit (.int .i64 p),.ro (y.map aS),.lit (.int .i64 a),.lit (.int .i64 b),.lit (.int .i64 c),.lit (.int .u64 d),.lit (.int .u64 e),.lit (.int .u64 f),.lit (.int .i64 g),.lit (.int .i64 q),.lit (.int .i64 r)]::lw.map aU=((p,y,(a,b,c,d,e,f,g),q,r)::lw).map aU:=rfl
theorem FQ:(lw.map aU).set i [.lit (.int .i64 p),.ro [],.lit (.int .i64 a),.lit (.int .i64 b),.lit (.int .i64 c),.lit (.int .u64 d),.lit (.int .u64 e),.lit (.int .u64 f),.lit (.int .i64 g),.lit (.int .i64 q),.lit (.int .i64 r)]=(lw.set i (p,([]:Tye),(a,b,c,d,e,f,g),q,r)).map aU:=by rw [List.map_set];rfl
theorem AU:[[V.lit (.int .i64 p),.ro [],.lit (.int .i64 a),.lit (.int .i64 b),.lit (.int .i64 c),.lit (.int .u64 d),.lit (.int .u64 e),.lit (.int .u64 f),.lit (.int .i64 g),.lit (.int .i64 q),.lit (.int .i64 r)]]=[(p,([]:Tye),(a,b,c,d,e,f,g),q,r)].map aU:=rfl
theorem uZ:[V.lit (.int .i64 p),.ro [],.lit (.int .i64 a),.lit (.int .i64 b),.lit (.int .i64 c),.lit (.int .u64 d),.lit (.int .u64 e),.lit (.int .u64 f),.lit (.int .i64 g),.lit (.int .i64 q),.lit (.int .i64 r)]::lw.map aU=((p,([]:Tye),(a,b,c,d,e,f,g),q,r)::lw).map aU:=rfl
theorem Hl:cK (ls.map cf)=true:=dU ig
theorem IG:i9 n (ls.map cf)=ls.map cf:=fc ig
theorem GT:gD n (ls.map cf)=ls.map cf:=ed ig
theorem QF:bI 9 (ls.map cf)=true:=dD fun _=>rfl
theorem Mh:(ls.map cf).set i [.lit (.int .i64 p),.ro (x.map (aF .i64)),.lit (.int .i64 a),.lit (.int .i64 b),.lit (.int .i64 c),.lit (.int .u64 d),.lit (.int .u64 e),.lit (.int .u64 f),.lit (.int .i64 g)]=(ls.set i (p,x,a,b,c,d,e,f,g)).map cf:=by rw [List.map_set];rfl
theorem GR:[[V.lit (.int .i64 p),.ro (x.map (aF .i64)),.lit (.int .i64 a),.lit (.int .i64 b),.lit (.int .i64 c),.lit (.int .u64 d),.lit (.int .u64 e),.lit (.int .u64 f),.lit (.int .i64 g)]]=[(p,x,a,b,c,d,e,f,g)].map cf:=rfl
theorem CV:[V.lit (.int .i64 p),.ro (x.map (aF .i64)),.lit (.int .i64 a),.lit (.int .i64 b),.lit (.int .i64 c),.lit (.int .u64 d),.lit (.int .u64 e),.lit (.int .u64 f),.lit (.int .i64 g)]::ls.map cf=((p,x,a,b,c,d,e,f,g)::ls).map cf:=rfl
theorem G2:(ls.map cf).set i [.lit (.int .i64 p),.ro [],.lit (.int .i64 a),.lit (.int .i64 b),.lit (.int .i64 c),.lit (.int .u64 d),.lit (.int .u64 e),.lit (.int .u64 f),.lit (.int .i64 g)]=(ls.set i (p,([]:List Int),a,b,c,d,e,f,g)).map cf:=by rw [List.map_set];rfl
theorem DY:[[V.lit (.int .i64 p),.ro [],.lit (.int .i64 a),.lit (.int .i64 b),.lit (.int .i64 c),.lit (.int .u64 d),.lit (.int .u64 e),.lit (.int .u64 f),.lit (.int .i64 g)]]=[(p,([]:List Int),a,b,c,d,e,f,g)].map cf:=rfl
theorem Bg:[V.lit (.int .i64 p),.ro [],.lit (.int .i64 a),.lit (.int .i64 b),.lit (.int .i64 c),.lit (.int .u64 d),.lit (.int .u64 e),.lit (.int .u64 f),.lit (.int .i64 g)]::ls.map cf=((p,([]:List Int),a,b,c,d,e,f,g)::ls).map cf:=rfl
theorem F7:cK (lp.map ii)=true:=dU nL
theorem FB:i9 n (lp.map ii)=lp.map ii:=fc nL
theorem DX:gD n (lp.map ii)=lp.map ii:=ed nL
theorem M5:bI 3 (lp.map ii)=true:=dD fun _=>rfl
theorem Kc:(lp.map ii).set i [.lit (.int .i64 a),.lit (.int .i64 b),.lit (.int .u64 c)]=(lp.set i (a,b,c)).map ii:=by rw [List.map_set];rfl
theorem CC:[[V.lit (.int .i64 a),.lit (.int .i64 b),.lit (.int .u64 c)]]=[(a,b,c)].map ii:=rfl
theorem Bo:[V.lit (.int .i64 a),.lit (.int .i64 b),.lit (.int .u64 c)]::lp.map ii=((a,b,c)::lp).map ii:=rfl
end
theorem RR {α:Type} {wl e sz bytes id g len s:Nat} {l:List α} {enc:α→List V} {H:Hp} :
  apB wl e sz bytes id g len [] H (some (.rows s (l.map enc) g true)) =
   sif (Nat.ble wl id) (ck (decide (len≤l.length)) (ck (s==sz||s==0) (bif room (l.take len).length bytes then some (.own id (g+1) (l.take len).length,H.set id (.rows sz ((l.take len).map enc) (g+1) true)) else none))) none:=by
 have h:=Iv (wl:=wl) (e:=e) (sz:=sz) (bytes:=bytes) (id:=id) (g:=g) (len:=len) (s:=s) (l:=l) (m:=[]) (enc:=enc) (H:=H)
 rw [List.append_nil] at h
 exact h
theorem Q8 {kp:Nat→Bool} {cs:List V} {h:Hp}:iU (some kp) (.agg cs) h=bq (rM cs h []) fun p=>some (.agg p.1,p.2.2):=by
 unfold iU Gc bq
 dsimp only
 cases rM cs h [] <;> rfl
theorem If {H acc:Hp}:rM [] H acc=some ([],H,acc):=rfl
theorem GG {v:V} {vs:List V} {H acc:Hp}:rM (v::vs) H acc=bq (oD v H acc) fun p=>bq (rM vs p.2.1 p.2.2) fun q=>some (p.1::q.1,q.2.1,q.2.2):=by
 rw [rM]
 unfold bq
 cases oD v H acc with
 | none=>rfl
 | some p=>rfl
theorem Hh {v:Value} {H acc:Hp}:oD (.lit v) H acc=some (.lit v,H,acc):=rfl
theorem Ma {r:List (List V)} {H acc:Hp}:oD (.ro r) H acc=some (.ro r,H,acc):=rfl
def hmB (id g len:Nat) (H acc:Hp):Option B→Option (V×Hp×Hp)
 | some (.rows e rs g' live)=>if g=g'∧len≤rs.length∧(live=true∨len=rs.length)∧cK rs=true then some (.own acc.length 0 len,H.set id .dead,acc++[.rows e (rs.take len) 0 live]) else none
 | _=>none
theorem A1 {id g len:Nat} {H acc:Hp}:oD (.own id g len) H acc=hmB id g len H acc H[id]? := by
 unfold oD hmB
 dsimp only
 cases H[id]? with
 | none=>rfl
 | some b=>cases b <;> rfl
theorem wi {α:Type} {enc:α→List V} (hp:∀ x,bk (enc x)=true) {id g len e:Nat} {H acc:Hp} {l:List α}:hmB id g len H acc (some (.rows e (l.map enc) g true))=ck (decide (len≤l.length)) (some (.own acc.length 0 len,H.set id .dead,acc++[.rows e ((l.take len).map enc) 0 true])):=by
 unfold hmB ck
 dsimp only
 rw [List.length_map,dU hp,List.map_take]
 by_cases h:len≤l.length
 ·rw [if_pos ⟨rfl,h,.inl rfl,rfl⟩,decide_eq_true h]
  rfl
 ·rw [if_neg (fun z=>h z.2.1),decide_eq_false h]
  rfl
theorem Sb {id g e:Nat} {H acc:Hp} {lv:Bool}:hmB id g 0 H acc (some (.rows e [] g lv))=some (.own acc.length 0 0,H.set id .dead,acc++[.rows e [] 0 lv]):=by
 unfold hmB
 dsimp only
 rw [if_pos ⟨rfl,Nat.le_refl _,.inr rfl,rfl⟩]
 rfl
theorem Qp {k:IntKind} {id g len e:Nat} {H acc:Hp} {l:List Int}:hmB id g len H acc (some (.rows e (l.map (aF k)) g true))=ck (decide (len≤l.length)) (some (.own acc.length 0 len,H.set id .dead,acc++[.rows e ((l.take len).map (aF k)) 0 true])):=wi fun _=>rfl
theorem Ru {kp:Nat→Bool} {id g len:Nat} {h:Hp}:iU (some kp) (.own id g len) h=bq (hmB id g len h [] h[id]?) fun p=>some (p.1,p.2.2):=by
 have e:iU (some kp) (.own id g len) h=(oD (.own id g len) h []).bind fun q=>some (q.1,q.2.2):=rfl
 rw [e,A1]
 unfold bq
 cases hmB id g len h [] h[id]? <;> rfl
theorem Ln {id g len e:Nat} {H acc:Hp} {l:List Tyw}:hmB id g len H acc (some (.rows e (l.map aU) g true))=ck (decide (len≤l.length)) (some (.own acc.length 0 len,H.set id .dead,acc++[.rows e ((l.take len).map aU) 0 true])):=wi f6
theorem Tt {id g len e:Nat} {H acc:Hp} {l:List Tys}:hmB id g len H acc (some (.rows e (l.map cf) g true))=ck (decide (len≤l.length)) (some (.own acc.length 0 len,H.set id .dead,acc++[.rows e ((l.take len).map cf) 0 true])):=wi ig
def adp:=PLift.up (aI (aI (aI (aI (aI (aI @FU @GK) @Dw) (aI (aI @Ne @Iu) @Du)) (aI (aI (aI @Bl @FQ) @AU) (aI @uZ @Hl))) (aI (aI (aI (aI @IG @GT) @QF) (aI @Mh @GR)) (aI (aI (aI @CV @G2) @DY) (aI @Bg @F7)))) (aI (aI (aI (aI (aI @FB @DX) @M5) (aI @Kc @CC)) (aI (aI (aI @Bo @Sb) @Qp) (aI @Ru @RR))) (aI (aI (aI (aI @Q8 @If) @GG) (aI @Hh @Ma)) (aI (aI (aI @A1 @Ln) @Tt) (aI @ii.eq_1 @aav.eq_1)))))
theorem syW:type_of% adp.down:=adp.down
end Go.Ab
namespace Go.Ab
section
variable {cx:Cx} {K:Out→St→Res} {r:Res} {id j n0:Nat} {ops:Array Oper} {a:List Nat×List Nat} {env:List V} {H:Hp} {o:Oper} {i:Nat} {L:List Nat}
theorem qI (hL:wu ops=L) (ha:(m6 ops).any=false) (v:V) (H':Hp) (h2:bz cx (.region id ops true) (j+1) n0 a K ⟨kw env o.dst v,H'⟩=r) (hj:L[j]? = some i:=by rfl) (ho:ops.toList[i]? = some o:=by rfl) (hg:o.guard=none:=by rfl) (hst:(m6 ops).strict i=false:=by kernel_rfl) (h1:opV cx ((m6 ops).calm i) ((m6 ops).ord i) o.op env H=some (v,H'):=by kernel_rfl):bz cx (.region id ops true) j n0 a K ⟨env,H⟩=r:=go_op1 hL ha hj ho hg (abM hst (abX h1 h2))
section
variable {gj d:Nat} {b:Bool}
end
end
end Go.Ab
namespace Go.Ab
abbrev bb (b:Bool) (x y:Res):Res:=match b with | true=>x | false=>y
abbrev onO {A:Type} (x:Option A) (k:A→Res):Res:=match x with | some v=>k v | none=>none
abbrev aaN (cx:Cx) (b:Builtin) (ts:Array TypeId) (args:List V) (H:Hp) (F:V→Hp→Res):Res:=
 match b with
 | .len=>match ts.toList,args with
  | [t],[x]=>bp (a9 cx.P t x H) F
  | _,_=>none
 | .append=>match ts.toList,args with
  | [t,u],[s,x]=>bp (gL cx.P cx.wl t u s x H) F
  | _,_=>none
 | .max=>bm (gC true args) H F
 | .min=>bm (gC false args) H F
 | _=>none
abbrev opW (cx:Cx) (calm ord:Bool) (op:Op) (env:List V) (H:Hp) (F:V→Hp→Res):Res:=
 match op with
 | .move x=>onO (evO env x) fun v=>F v H
 | .assign x=>match x with
  | .const c=>onO (some (gN c)) fun v=>match v with | .nil=>bp (some (.own H.length 0 0,H++[.rows 0 [] 0 true])) F | v=>F v H
  | x=>onO (evO env x) fun v=>F v H
 | .pick c a b=>onO (evO env c) fun c=>onO (evO env a) fun a=>onO (evO env b) fun b=>bm (aM c a b) H F
 | .alloc t=>bp (aw cx.P t H) F
 | .box _ x=>onO (evO env x) fun v=>bp (aL v H) F
 | .build t parts=>onO (IK (evO env) parts.toList) fun l=>bm (a8 cx.P t l) H F
 | .buildSlice t len parts=>onO (IK (evO env) parts.toList) fun l=>bb (calm) (bp (cQ cx.P cx.wl t len l H) F) (bp (aA cx.P cx.wl t len l H) F)
 | .insert t m k v=>onO (evO env m) fun m=>onO (evO env k) fun k=>onO (evO env v) fun v=>bs (dS cx.P cx.wl t m k v H) (F uu)
 | .load t a=>onO (evO env a) fun a=>bm (ab cx.P t a H) H F
 | .store t a v=>onO (evO env a) fun a=>onO (evO env v) fun v=>bs (ah cx.P cx.wl t a v H) (F uu)
 | .nilCheck x=>onO (evO env x) fun x=>bm (aP x H) H F
 | .binOp op t x y _=>onO (evO env x) fun x=>onO (evO env y) fun y=>bm (au cx.P op t x y) H F
 | .unOp op _ x=>onO (evO env x) fun x=>bm (vUn op x) H F
 | .convert s d x=>onO (evO env x) fun x=>bm (fi cx.P s d x) H F
 | .makeFunc f a b=>onO (wn env a.toList) fun a=>onO (wn env b.toList) fun b=>F (.fn f a b) H
 | .makeMap _ r=>match r with | none=>bp (some (.map H.length,H++[.map []])) F | some _=>none
 | .makeSlice t l c=>onO (evO env l) fun l=>onO (evO env c) fun c=>bp (bc cx.P t l c H) F
 | .slice t x lo hi mx=>onO (evO env x) fun x=>onO (Im env lo) fun lo=>onO (Im env hi) fun hi=>onO (Im env mx) fun mx=>bp (bV cx.P cx.wl calm t x lo hi mx H) F
 | .fieldAddr t x i=>onO (evO env x) fun x=>bm (aa cx.P t x i) H F
 | .field t x i=>onO (evO env x) fun x=>bm (pj cx.P t x i) H F
 | .indexAddr t x i=>onO (evO env x) fun x=>onO (evO env i) fun i=>bm (aj cx.P t x i H) H F
 | .index t x i=>onO (evO env x) fun x=>onO (evO env i) fun i=>bm (EG cx.P t x i) H F
 | .lookup t m k ok=>onO (evO env m) fun m=>onO (evO env k) fun k=>bm (eY cx.P t m k ok H) H F
 | .extract x i=>onO (evO env x) fun x=>bm (ao x i) H F
 | .call c=>
  match c.callee with
  | .builtin b=>onO (wn env c.args.toList) fun a=>aaN cx b c.argTypes a H F
  | .value f=>onO (evO env f) fun f=>onO (wn env c.args.toList) fun a=>bp (bZ cx calm ord f a H) F
  | .invoke _ _=>none
 | _=>none
theorem cp {A:Type} {x:Option A} {k:A→Res} {g:A→Option (V×Hp)} {F:V×Hp→Res} (h:∀ v,k v=(g v).bind F):onO x k=(x.bind g).bind F:=by
 cases x with
 | none=>rfl
 | some v=>exact h v
theorem Dd {A:Type} {x:Option A} {k:A→Res} {g:A→V×Hp} {F:V×Hp→Res} (h:∀ v,k v=F (g v)):onO x k=(x.map g).bind F:=by
 cases x with
 | none=>rfl
 | some v=>exact h v
theorem Xd {x:Option Hp} {F:V→Hp→Res}:bs x (F uu)=(x.map fun H'=>(V.lit undef,H')).bind fun p=>F p.1 p.2:=by cases x <;> rfl
theorem Tp {cx:Cx} {b:Builtin} {ts:Array TypeId} {args:List V} {H:Hp} {F:V→Hp→Res}:aaN cx b ts args H F=(GZ cx b ts args H).bind fun p=>F p.1 p.2:=by
 unfold aaN GZ
 generalize ts.toList=l
 cases b with
 | len=>rcases l with _ | ⟨_,_ | _⟩ <;> rcases args with _ | ⟨_,_ | _⟩ <;> rfl
 | append=>rcases l with _ | ⟨_,_ | ⟨_,_ | _⟩⟩ <;> rcases args with _ | ⟨_,_ | ⟨_,_ | _⟩⟩ <;> rfl
 | _=>rfl
theorem Uq {cx:Cx} {calm ord:Bool} {op:Op} {env:List V} {H:Hp} {F:V→Hp→Res}:opW cx calm ord op env H F=(opV cx calm ord op env H).bind fun p=>F p.1 p.2:=by
 cases op with
 | assign x=>
  unfold opW opV
  dsimp only
  cases x with
  | const c=>
   dsimp only [evO,onO,Option.map_some,Option.bind_some]
   cases gN c <;> rfl
  | _=>exact Dd fun v=>rfl
 | call c=>
  unfold opW opV
  dsimp only
  cases c.callee with
  | builtin b=>exact cp fun a=>Tp
  | value f=>exact cp fun f=>cp fun a=>rfl
  | invoke _ _=>rfl
 | buildSlice t len parts=>
  unfold opW opV
  dsimp only
  refine cp fun l => ?_
  cases calm <;> rfl
 | makeMap t r=>
  unfold opW opV
  dsimp only
  cases r <;> rfl
 | _=>
  unfold opW opV
  dsimp only
  first
  | rfl
  | exact cp fun a=>cp fun b=>Xd
  | exact cp fun a=>cp fun b=>cp fun c=>Xd
  | exact Dd fun v=>rfl
  | exact cp fun a=>rfl
  | exact cp fun a=>Dd fun b=>rfl
  | exact cp fun a=>cp fun b=>rfl
  | exact cp fun a=>cp fun b=>cp fun c=>rfl
  | exact cp fun a=>cp fun b=>cp fun c=>cp fun d=>rfl
inductive Md where
 | E (c:Code) (fs:List Fr) (jn:List Nat)
 | R (o:Out) (fs:List Fr) (jn:List Nat)
 | L (c:Code) (l:Nat) (fs:List Fr) (jn:List Nat)
 | G (c:Code) (j n0:Nat) (a:List Nat×List Nat) (fs:List Fr) (g:Bool) (kn:List (Nat×Nat)) (jn:List Nat)
def adz (cx:Cx) (K:Out→St→Res) (s:St):Md→Res
 | .E c fs _=>ap cx K (.seq c::fs) .norm s
 | .R o fs _=>ap cx K fs o s
 | .L c l fs _=>rL cx K c l fs s
 | .G c j n0 a fs _ _ _=>bz cx c j n0 a (ap cx K fs) s
def lC (i:Nat):Code→Bool
 | .exit j=>j==i
 | .seq a b=>lC i a||lC i b
 | .cond _ a b=>lC i a||lC i b
 | .rangeFunc _ _ a b=>lC i a||lC i b
 | .block _ a=>lC i a
 | .loop a=>lC i a
 | .scope a=>lC i a
 | _=>false
def lz:Code→Bool
 | .seq a b=>lz a&&lz b
 | .cond _ a b=>lz a||lz b
 | .exit _=>false
 | .goto _=>false
 | .ret=>false
 | .loop _=>false
 | .block i a=>lz a||lC i a
 | _=>true
def gZ:Code→Nat
 | .region _ ops _=>ops.size
 | .seq a b=>gZ a+gZ b+1
 | .cond _ a b=>gZ a+gZ b+1
 | .rangeFunc _ _ a b=>gZ a+gZ b+1
 | .block _ a=>gZ a
 | .scope a=>gZ a
 | .loop _=>10
 | _=>0
def atJ (jn:List Nat) (n:Nat):Bool:=match jn with | []=>false | x::_=>x==n
def jnT (jn:List Nat) (n:Nat):List Nat:=bif atJ jn n then jn.tail else jn
def EA (jn:List Nat):List Fr→Nat→Bool
 | [],n=>Nat.ble 3 n
 | .seq c::r,n=>bif atJ jn (r.length+1) then false else bif lz c then EA jn r (n+gZ c) else Nat.ble 3 (n+gZ c)
 | _::r,n=>bif atJ jn (r.length+1) then false else EA jn r n
abbrev sxW (n0:Nat) (st:Bool) (op:Op) (env:List V) (x:Res):Res:=
 bb (st) ((match gO op with | none=>x | some y=>match evO env y with | some v=>stO n0 v x | none=>x)) (x)
def Zx (d:Nat):List (Nat×Nat)→Option Nat
 | []=>none
 | (e,b)::r=>bif e==d then some b else Zx d r
def Ty (d:Nat):List (Nat×Nat)→List (Nat×Nat)
 | []=>[]
 | (e,b)::r=>bif e==d then Ty d r else (e,b)::Ty d r
def knR (d:Option Nat) (kn:List (Nat×Nat)):List (Nat×Nat):=match d with | none=>kn | some d=>Ty d kn
def knS (d:Option Nat) (kn:List (Nat×Nat)):List (Nat×Nat):=match d with | none=>kn | some d=>(d,2)::kn
def wk (cx:Cx) (K:Out→St→Res):Nat→Md→St→Res
 | 0,m,s=>adz cx K s m
 | n+1,m,s=>match m with
  | .E c fs jn=>match c with
   | .skip=>wk cx K n (.R .norm fs jn) s
   | .region id ops draw=>bb (draw) ((bb (uR ops) (wk cx K n (.G (.region id ops true) 0 s.H.length ([],[]) fs false [] jn) s) (none))) (wk cx K n (.G (.region id ops false) 0 s.H.length ([],[]) fs false [] jn) s)
   | .seq a b=>wk cx K n (.E a (.seq b::fs) jn) s
   | .block id a=>wk cx K n (.E a (.block id::fs) jn) s
   | .scope a=>wk cx K n (.E a (.scope a::fs) jn) s
   | .cond v a b=>onO (evO s.env v) fun v=>
    bb (lz a&&lz b&&EA jn fs 0) (cnd v (wk cx K n (.E a fs (fs.length::jn)) s) (wk cx K n (.E b fs (fs.length::jn)) s)) (cnd v (wk cx K n (.E a fs jn) s) (wk cx K n (.E b fs jn) s))
   | .exit id=>wk cx K n (.R (.exit id) fs jn) s
   | .goto l=>wk cx K n (.R (.goto l) fs jn) s
   | .ret=>wk cx K n (.R .ret fs jn) s
   | .label _=>wk cx K n (.R .norm fs jn) s
   | .loop a=>itX cx a s.H.length (ap cx K fs) cx.n (tidy s.H.length (FG (cx.M.named cx.fid) (gn a ([],[])) false) s)
   | c=>be cx c none (ap cx K fs) s
  | .R o fs jn=>match o with
   | .norm=>bb (atJ jn fs.length) (ap cx K fs .norm s) (match fs with
    | []=>K .norm s
    | .seq c::r=>wk cx K n (.E c r jn) s
    | .block _::r=>wk cx K n (.R .norm r jn) s
    | .scope _::r=>wk cx K n (.R .norm r jn) s
    | .scope2 _::r=>wk cx K n (.R .norm r jn) s)
   | .exit i=>match fs with
    | []=>K (.exit i) s
    | .seq _::r=>wk cx K n (.R (.exit i) r (jnT jn fs.length)) s
    | .block id::r=>bb (i==id) (wk cx K n (.R .norm r (jnT jn fs.length)) s) (wk cx K n (.R (.exit i) r (jnT jn fs.length)) s)
    | .scope _::r=>wk cx K n (.R (.exit i) r (jnT jn fs.length)) s
    | .scope2 _::r=>wk cx K n (.R (.exit i) r (jnT jn fs.length)) s
   | .goto l=>match fs with
    | []=>K (.goto l) s
    | .seq _::r=>wk cx K n (.R (.goto l) r (jnT jn fs.length)) s
    | .block _::r=>wk cx K n (.R (.goto l) r (jnT jn fs.length)) s
    | .scope a::r=>bb (bw l a) (wk cx K n (.L a l (.scope2 a::r) (jnT jn fs.length)) s) (wk cx K n (.R (.goto l) r (jnT jn fs.length)) s)
    | .scope2 a::r=>bb (bw l a) (none) (wk cx K n (.R (.goto l) r (jnT jn fs.length)) s)
   | o=>match fs with
    | []=>K o s
    | _::r=>wk cx K n (.R o r (jnT jn fs.length)) s
  | .L c l fs jn=>match c with
   | .seq a b=>bb (bw l a) (wk cx K n (.L a l (.seq b::fs) jn) s) (wk cx K n (.L b l fs jn) s)
   | .label l'=>bb (l'==l) (wk cx K n (.R .norm fs jn) s) (none)
   | c=>rL cx K c l fs s
  | .G c j n0 a fs g kn jn=>match (iY c)[j]? with
   | none=>bb ((gz c).any) (apt a (wk cx K n (.R .norm fs jn) s)) (wk cx K n (.R .norm fs jn) s)
   | some (o,i)=>
    let run:=fun env g kn=>sxW n0 ((gz c).strict i) o.op env (opW cx ((gz c).calm i) ((gz c).ord i) o.op env s.H fun v h=>wk cx K n (.G c (j+1) n0 (EI (gz c) i o.op env a) fs g (knR o.dst kn) jn) ⟨kw env o.dst v,h⟩)
    let skip:=fun env g kn=>wk cx K n (.G c (j+1) n0 a fs g (knS o.dst kn) jn) ⟨kw env o.dst uu,s.H⟩
    match o.guard with
    | none=>bb (g) (bz cx c j n0 a (ap cx K fs) s) (run s.env g kn)
    | some (gj,want)=>match ((Cz c)[gj]?).bind (·.dst) with
     | none=>none
     | some d=>match Zx d kn with
      | some _=>match s.env[d]? with
       | some (.lit (.bool b))=>bb (b==want) (run (s.env.set d (.lit (.bool b))) g kn) (skip (s.env.set d (.lit (.bool b))) g kn)
       | some (.lit (.tuple _))=>skip s.env g kn
       | _=>none
      | none=>bb g (bz cx c j n0 a (ap cx K fs) s)
       (onO s.env[d]? fun v=>bb want
        (gd v (run (s.env.set d (.lit (.bool true))) true ((d,1)::kn)) (skip (s.env.set d (.lit (.bool false))) true ((d,0)::kn)) (bz cx c (j+1) n0 a (ap cx K fs) ⟨kw s.env o.dst uu,s.H⟩))
        (gd v (skip (s.env.set d (.lit (.bool true))) true ((d,1)::kn)) (run (s.env.set d (.lit (.bool false))) true ((d,0)::kn)) (bz cx c (j+1) n0 a (ap cx K fs) ⟨kw s.env o.dst uu,s.H⟩)))
section
variable {cx:Cx} {K:Out→St→Res} {c:Code} {j n0:Nat} {a:List Nat×List Nat} {s:St} {r:Res}
theorem Ho (h:(iY c)[j]? = none):bz cx c j n0 a K s=if (gz c).any then apt a (K .norm s) else K .norm s:=by
 unfold bz
 rw [List.drop_eq_nil_iff.2 (List.getElem?_eq_none_iff.1 h)]
 rfl
theorem Jd {o:Oper} {i:Nat} (h:(iY c)[j]? = some (o,i)):bz cx c j n0 a K s =
  (let run (env:List V):Res:=if dx n0 ((gz c).strict i) o.op env then (opV cx ((gz c).calm i) ((gz c).ord i) o.op env s.H).bind fun p=>bz cx c (j+1) n0 (EI (gz c) i o.op env a) K ⟨kw env o.dst p.1,p.2⟩ else none
   let skip (env:List V):Res:=bz cx c (j+1) n0 a K ⟨kw env o.dst (.lit undef),s.H⟩
   match o.guard with
   | none=>run s.env
   | some (j,want)=>
    match ((Cz c)[j]?).bind (·.dst) with
    | none=>none
    | some d=>
     match s.env[d]? with
     | some (.lit (.bool b))=>CP b want d s.env run skip
     | some (.lit (.tuple _))=>skip s.env
     | _=>none):=by
 obtain ⟨hj,he⟩:=List.getElem?_eq_some_iff.1 h
 unfold bz
 rw [List.drop_eq_getElem_cons hj,he]
 rfl
theorem Vf {st:Bool} {op:Op} {env:List V} {x:Res}:sxW n0 st op env x=if dx n0 st op env then x else none:=by
 unfold sxW dx kz
 cases st with
 | false=>rfl
 | true=>
  dsimp only [bb,if_true]
  cases gO op with
  | none=>rfl
  | some y=>
   have h:∀ q:Option V,(match q with | some v=>stO n0 v x | none=>x)=if (match (match q with | some v=>E8 v | none=>none) with | some i=>decide (i<n0) | none=>true)=true then x else none:=by
    intro q
    cases q with
    | none=>rfl
    | some v=>rfl
   exact h _
end
theorem FV (cx:Cx) (K:Out→St→Res):∀ (n:Nat) (m:Md) (s:St),wk cx K n m s=adz cx K s m
 | 0,_,_=>rfl
 | n+1,m,s=>by
  have ih:=FV cx K n
  cases m with
  | E c fs jn=>
   cases c with
   | skip=>exact ih _ _
   | region id ops draw=>
    cases draw with
    | false=>exact (ih _ _).trans (go_reg0 rfl).symm
    | true=>
     show bb (uR ops) (wk cx K n _ s) none=_
     cases h:uR ops with
     | true=>exact (ih _ _).trans (go_reg1 h rfl).symm
     | false=>
      show none=be cx (.region id ops true) none (ap cx K fs) s
      simp [be,h]
   | seq a b=>exact (ih _ _).trans (go_seq rfl).symm
   | block id a=>exact (ih _ _).trans (go_block rfl).symm
   | scope a=>exact (ih _ _).trans (go_scope rfl).symm
   | cond v a b=>
    show onO (evO s.env v) _=_
    cases h:evO s.env v with
    | none=>
     show none=be cx (.cond v a b) none (ap cx K fs) s
     simp only [be,h]
    | some v=>
     refine Eq.trans ?_ (go_cond h rfl rfl).symm
     show bb _ _ _=_
     cases (lz a&&lz b&&EA jn fs 0) <;> (simp only [bb,ih];rfl)
   | exit id=>exact ih _ _
   | goto l=>exact ih _ _
   | ret=>exact ih _ _
   | label l=>exact ih _ _
   | loop a=>rfl
   | _=>rfl
  | R o fs jn=>
   cases o with
   | norm=>
    show bb _ _ _=_
    cases atJ jn fs.length with
    | true=>rfl
    | false=>cases fs with
     | nil=>rfl
     | cons f r=>cases f <;> exact ih _ _
   | exit i=>
    cases fs with
    | nil=>rfl
    | cons f r=>cases f with
     | block id=>
      show bb (i==id) _ _=if i=id then _ else _
      by_cases h:i=id
      ·subst h
       rw [beq_self_eq_true,if_pos rfl]
       exact ih _ _
      ·rw [beq_false_of_ne h,if_neg h]
       exact ih _ _
     | _=>exact ih _ _
   | goto l=>
    cases fs with
    | nil=>rfl
    | cons f r=>cases f with
     | scope a=>
      show bb (bw l a) _ _=_
      cases h:bw l a with
      | true=>exact (ih _ _).trans (Da h rfl).symm
      | false=>exact (ih _ _).trans (B5 h rfl).symm
     | scope2 a=>
      show bb (bw l a) _ _=ap cx K (.scope2 a::r) (.goto l) s
      cases h:bw l a with
      | true=>simp only [ap,h,if_true]
      | false=>exact (ih _ _).trans (w8 h rfl).symm
     | _=>exact ih _ _
   | ret=>
    cases fs with
    | nil=>rfl
    | cons f r=>cases f <;> exact ih _ _
  | L c l fs jn=>
   cases c with
   | seq a b=>
    show bb (bw l a) _ _=_
    cases h:bw l a with
    | true=>exact (ih _ _).trans (Qk h rfl).symm
    | false=>exact (ih _ _).trans (Lm h rfl).symm
   | label l'=>
    show bb (l'==l) _ _=be cx (.label l') (some l) (ap cx K fs) s
    cases h:l'==l with
    | true=>simp only [be,h,if_true];exact ih _ _
    | false=>simp only [be,h];rfl
   | _=>rfl
  | G c j n0 a fs g kn jn=>
   show (match (iY c)[j]? with | none=>_ | some (o,i)=>_)=bz cx c j n0 a (ap cx K fs) s
   cases h:(iY c)[j]? with
   | none=>
    rw [Ho h]
    show bb _ _ _=_
    cases (gz c).any <;> (simp only [bb,ih];rfl)
   | some p=>
    obtain ⟨o,i⟩:=p
    have hrun:∀ env g kn,sxW n0 ((gz c).strict i) o.op env (opW cx ((gz c).calm i) ((gz c).ord i) o.op env s.H fun v h=>wk cx K n (.G c (j+1) n0 (EI (gz c) i o.op env a) fs g (knR o.dst kn) jn) ⟨kw env o.dst v,h⟩) =
      if dx n0 ((gz c).strict i) o.op env then (opV cx ((gz c).calm i) ((gz c).ord i) o.op env s.H).bind fun p=>bz cx c (j+1) n0 (EI (gz c) i o.op env a) (ap cx K fs) ⟨kw env o.dst p.1,p.2⟩ else none:=by
     intro env g kn
     rw [Vf,Uq]
     congr 1
     congr 1
     funext p
     exact ih _ _
    have hskip:∀ env g kn,wk cx K n (.G c (j+1) n0 a fs g (knS o.dst kn) jn) ⟨kw env o.dst uu,s.H⟩=bz cx c (j+1) n0 a (ap cx K fs) ⟨kw env o.dst (.lit undef),s.H⟩:=fun env g kn=>ih _ _
    rw [Jd h]
    dsimp only
    simp only [hrun,hskip]
    cases hg:o.guard with
    | none=>
     cases g with
     | true=>rfl
     | false=>rfl
    | some q=>
     obtain ⟨gj,want⟩:=q
     dsimp only
     cases hd:((Cz c)[gj]?).bind (·.dst) with
     | none=>rfl
     | some d=>
      dsimp only
      cases hk:Zx d kn with
      | some b=>
       dsimp only
       cases he:s.env[d]? with
       | none=>rfl
       | some v=>
        cases v with
        | lit x=>
         cases x with
         | bool t=>cases t <;> cases want <;> rfl
         | _=>rfl
        | _=>rfl
      | none=>
       cases g with
       | true=>rfl
       | false=>
        dsimp only [bb]
        cases he:s.env[d]? with
        | none=>rfl
        | some v=>
         cases v with
         | lit x=>
          cases x with
          | bool t=>cases t <;> cases want <;> rfl
          | tuple x=>cases want <;> rfl
          | _=>cases want <;> rfl
         | _=>cases want <;> rfl
section
variable {cx:Cx} {K:Out→St→Res} {c:Code} {j n0 n:Nat} {a:List Nat×List Nat} {s:St} {r:Res} {fs:List Fr} {o:Out}
theorem kG (h:wk cx K 999 (.G c j n0 a fs false [] []) s=r:=by kernel_rfl):bz cx c j n0 a (ap cx K fs) s=r:=(FV ..).symm.trans h
theorem kJ (jn:List Nat) (h:wk cx K 999 (.G c j n0 a fs false [] jn) s=r:=by kernel_rfl):bz cx c j n0 a (ap cx K fs) s=r:=(FV ..).symm.trans h
theorem kR (h:wk cx K 999 (.R o fs []) s=r:=by kernel_rfl):ap cx K fs o s=r:=(FV ..).symm.trans h
theorem kI (h:wk cx (eJ cx c n0 K n) 999 (.E c [] []) s=r:=by kernel_rfl):itX cx c n0 K (n+1) s=r:=MN ((FV ..).symm.trans h)
theorem kB {fn:Func} {args:List V} {H:Hp} (h:wk cx (am cx.P fn) 999 (.E (al fn) [] []) ⟨args++List.replicate (fn.ntmps - args.length) uu,H⟩=r:=by kernel_rfl) (hb:fn.body=some (al fn):=by rfl):ai cx fn args H=r:=Ie hb ((FV ..).symm.trans h)
end
end Go.Ab
set_option linter.unusedVariables false
set_option linter.unusedSimpArgs false
namespace Go.Ab
end Go.Ab
