import Derived.Test.YtblpbpnilkfjhaaGreatAbLibB
import Derived.Shelf.Slices.Delete
set_option linter.unusedVariables false
set_option linter.unusedSimpArgs false
namespace Go.Ab
def al:Code→List Nat→Code
 | c,[]=>c
 | .seq a b,i::p=>if i=0 then al a p else al b p
 | .cond _ a b,i::p=>if i=0 then al a p else al b p
 | .block _ a,_::p=>al a p
 | .loop a,_::p=>al a p
 | .scope a,_::p=>al a p
 | .rangeFunc _ _ a b,i::p=>if i=0 then al a p else al b p
 | c,_=>c
def an (fn:Func):Code:=fn.body.getD .skip
structure Sys where
 P:Program
 orc:FuncId→Option (List V→Hp→Option (V×Hp))
 keepRes:FuncId→FuncId→Option (Nat→Bool)
 keepArg:FuncId→Bool
 call:Nat→FuncId→List V→Hp→Option (V×Hp)
 yld:Nat→Nat→List V→Hp→Option (V×Hp)
inductive Fr where
 | seq (c:Code)
 | block (id:Nat)
 | scope (a:Code)
 | scope2 (a:Code)
def uu:V := .lit undef
abbrev Res:=Option (V×Hp)
def av (cx:Cx) (K:Out→St→Res):List Fr→Out→St→Res
 | [],o,s=>K o s
 | .seq c::fs,o,s=>match o with
  | .norm=>bd cx c none (av cx K fs) s
  | o=>av cx K fs o s
 | .block id::fs,o,s=>match o with
  | .exit id'=>if id'=id then av cx K fs .norm s else av cx K fs (.exit id') s
  | o=>av cx K fs o s
 | .scope a::fs,o,s=>match o with
  | .goto l => if bF l a then bd cx a (some l) (fun o' s'' => match o' with | .goto l' => if bF l' a then none else av cx K fs (.goto l') s'' | o' => av cx K fs o' s'') s else av cx K fs (.goto l) s
  | o=>av cx K fs o s
 | .scope2 a::fs,o,s=>match o with
  | .goto l=>if bF l a then none else av cx K fs (.goto l) s
  | o=>av cx K fs o s
def itX (cx:Cx) (c:Code) (n0:Nat) (K:Out→St→Res) (n:Nat) (s:St):Res:=
 Nz (bd cx c none) n0 (cx.M.named cx.fid) (i4 c ([],[])) K n s
def dM (cx:Cx) (c:Code) (n0:Nat) (K:Out→St→Res) (n:Nat):Out→St→Res:=fun o s'=>match o with
 | .norm=>itX cx c n0 K n (tidy n0 (IY (cx.M.named cx.fid) (i4 c ([],[])) false) s')
 | .ret=>K .ret s'
 | o=>K o (tidy n0 (IY (cx.M.named cx.fid) (i4 c ([],[])) true) s')
def FX:Code→Array Oper
 | .region _ ops _=>ops
 | _ => #[]
def iX:Code→Rg
 | .region _ ops draw=>if draw then oR ops else Rg.none
 | _=>Rg.none
def lJ:Code→List (Oper×Nat)
 | .region _ ops draw=>if draw then aA ops else ops.toList.zipIdx
 | _=>[]
def Cs (ops:Array Oper):List Nat:=(aA ops).map (·.2)
def fJ (cx:Cx) (c:Code) (j n0:Nat) (a:List Nat×List Nat) (K:Out→St→Res) (s:St):Res:=
 Br cx n0 (iX c) (FX c) ((lJ c).drop j) a (K .norm) s
def aB (P:Program) (fn:Func):Out→St→Res:=fun o s=>match o with
 | .norm=>(f7 P fn.results.toList s).map fun v=>(v,s.H)
 | .ret=>(f7 P fn.results.toList s).map fun v=>(v,s.H)
 | _=>none
def bm (x:Option V) (H:Hp) (k:V→Hp→Res):Res:=(x.map fun v=>(v,H)).bind fun p=>k p.1 p.2
def bp (x:Option (V×Hp)) (k:V→Hp→Res):Res:=x.bind fun p=>k p.1 p.2
def bs (x:Option Hp) (k:Hp→Res):Res:=(x.map fun H'=>(V.lit undef,H')).bind fun p=>k p.2
def cnd (c:V) (a b:Res):Res:=match c with
 | .lit (.bool t)=>bif t then a else b
 | _=>none
def gd (c:V) (a b u:Res):Res:=match c with
 | .lit (.bool t)=>bif t then a else b
 | .lit (.tuple _)=>u
 | _=>none
def aw (P:Program) (t:TypeId) (H:Hp):Option (V×Hp):=
 (eZ P t).bind fun z=>if bg (bQ z) then let p:=bE (bQ z) H;some (.ptr p.2.length 0 0 0,p.2++[.box p.1]) else none
def aP (v:V) (H:Hp):Option (V×Hp):=v.cells.bind fun vs=>let p:=bE vs H;some (.ptr p.2.length 0 0 0,p.2++[.box p.1])
def di (P:Program) (wl:Nat) (t:TypeId) (len:Nat) (l:List (Nat×V)) (H:Hp):Option (V×Hp):=
 if true && !bn (l.map (·.2)) then none else aD P wl t len l H
def br (P:Program) (t:TypeId) (x:V) (H:Hp):Option (V×Hp):=if (kz P t).isSome then (r7 x H).map fun v=>(v,H) else none
def mg (P:Program) (wl:Nat) (t u:TypeId) (s x:V) (H:Hp):Option (V×Hp):=if (kz P u).isSome then bu P wl t s x H else none
def apt (a:List Nat×List Nat) (k:Res):Res:=if u6 a then k else none
def lgR (v:V) (a:List Nat×List Nat):List Nat×List Nat:=match Hb v with | some k=>(k::a.1,a.2) | none=>a
def lgW (v:V) (a:List Nat×List Nat):List Nat×List Nat:=match Hb v with | some k=>(a.1,k::a.2) | none=>a
def stB (n0:Nat) (v:V):Bool:=match Hb v with | some i=>i<n0 | none=>true
def stO (n0:Nat) (v:V) (k:Res):Res:=if stB n0 v then k else none
def aie:List (Option V)→Option (List V)
 | []=>some []
 | x::xs=>x.bind fun v=>(aie xs).bind fun vs=>some (v::vs)
def eo (l:List (Option V)) (H:Hp):Res:=((aie l).bind fun vs=>match vs with | [v]=>some v | vs=>some (.tup vs)).map fun v=>(v,H)
section steps
variable {cx:Cx} {K:Out→St→Res} {fs:List Fr} {s:St} {r:Res}
theorem NI {fn:Func} {args:List V} {H:Hp} {c:Code} (hb:fn.body=some c) (h:av cx (aB cx.P fn) [.seq c] .norm ⟨args++List.replicate (fn.ntmps - args.length) uu,H⟩=r):ak cx fn args H=r:=by
 rw [← h]
 unfold ak
 rw [hb]
 have:(fun o s=>match o with
   | .norm=>(f7 cx.P fn.results.toList s).map fun v=>(v,s.H)
   | .ret=>(f7 cx.P fn.results.toList s).map fun v=>(v,s.H)
   | _=>none:Out→St→Res)=av cx (aB cx.P fn) []:=by
  funext o s
  cases o <;> rfl
 show bd cx c none _ _=bd cx c none (av cx (aB cx.P fn) []) _
 rw [← this]
 rfl
theorem go_seq {a b:Code} (h:av cx K (.seq a :: .seq b::fs) .norm s=r):av cx K (.seq (.seq a b)::fs) .norm s=r:=by
 rw [← h]
 show bd cx a none _ s=bd cx a none (av cx K (.seq b::fs)) s
 congr 1
theorem go_block {id:Nat} {a:Code} (h:av cx K (.seq a :: .block id::fs) .norm s=r):av cx K (.seq (.block id a)::fs) .norm s=r:=by
 rw [← h]
 show bd cx a none _ s=bd cx a none (av cx K (.block id::fs)) s
 congr 1
theorem go_scope {a:Code} (h:av cx K (.seq a :: .scope a::fs) .norm s=r):av cx K (.seq (.scope a)::fs) .norm s=r:=by
 rw [← h]
 show bd cx a none _ s=bd cx a none (av cx K (.scope a::fs)) s
 congr 1
theorem go_ret (h:av cx K fs .ret s=r):av cx K (.seq .ret::fs) .norm s=r:=h
theorem C3 {a:Code} {l:Nat} (hl:bF l a=false) (h:av cx K fs (.goto l) s=r):av cx K (.scope a::fs) (.goto l) s=r:=by
 rw [← h]
 simp only [av]
 rw [hl]
 rfl
theorem B4 {a:Code} {l:Nat} (hl:bF l a=false) (h:av cx K fs (.goto l) s=r):av cx K (.scope2 a::fs) (.goto l) s=r:=by
 rw [← h]
 simp only [av]
 rw [hl]
 rfl
def wY (cx:Cx) (K:Out→St→Res) (c:Code) (l:Nat) (fs:List Fr) (s:St):Res:=bd cx c (some l) (av cx K fs) s
theorem FE {a:Code} {l:Nat} (hl:bF l a=true) (h:wY cx K a l (.scope2 a::fs) s=r):av cx K (.scope a::fs) (.goto l) s=r:=by
 rw [← h]
 simp only [av]
 rw [hl]
 simp only [if_true,wY]
 congr 1
theorem Yb {a b:Code} {l:Nat} (hl:bF l a=true) (h:wY cx K a l (.seq b::fs) s=r):wY cx K (.seq a b) l fs s=r:=by
 rw [← h]
 simp only [wY,bd,hl,if_true]
 congr 1
theorem O6 {a b:Code} {l:Nat} (hl:bF l a=false) (h:wY cx K b l fs s=r):wY cx K (.seq a b) l fs s=r:=by
 rw [← h]
 simp [wY,bd,hl]
theorem go_cond {c:Operand} {a b:Code} {v:V} {A B:Res} (hc:evO s.env c=some v) (hA:av cx K (.seq a::fs) .norm s=A) (hB:av cx K (.seq b::fs) .norm s=B) :
  av cx K (.seq (.cond c a b)::fs) .norm s=cnd v A B:=by
 rw [← hA,← hB]
 show bd cx (.cond c a b) none (av cx K fs) s=_
 simp only [bd,hc]
 cases v with
 | lit x=>cases x <;> rfl
 | _=>rfl
theorem go_reg0 {id:Nat} {ops:Array Oper} (h:fJ cx (.region id ops false) 0 s.H.length ([],[]) (av cx K fs) s=r):av cx K (.seq (.region id ops false)::fs) .norm s=r:=by
 rw [← h]
 show bd cx (.region id ops false) none (av cx K fs) s=_
 simp [bd,fJ,iX,FX,lJ]
theorem go_reg1 {id:Nat} {ops:Array Oper} (hok:BN ops=true) (h:fJ cx (.region id ops true) 0 s.H.length ([],[]) (av cx K fs) s=r):av cx K (.seq (.region id ops true)::fs) .norm s=r:=by
 rw [← h]
 show bd cx (.region id ops true) none (av cx K fs) s=_
 simp [bd,fJ,iX,FX,lJ,hok]
section ops
variable {id j n0:Nat} {ops:Array Oper} {a:List Nat×List Nat} {env:List V} {H:Hp} {o:Oper} {i:Nat} {L:List Nat}
theorem ag4 (hL:Cs ops=L) (hj:L[j]? = some i) (ho:ops.toList[i]? = some o):(aA ops).drop j=(o,i)::(aA ops).drop (j+1):=by
 subst hL
 simp only [Cs,List.getElem?_map,Option.map_eq_some_iff] at hj
 obtain ⟨p,hp,rfl⟩:=hj
 have hm:p ∈ aA ops:=List.mem_of_getElem? hp
 have hz:p ∈ ops.toList.zipIdx:=by
  simp only [aA,List.mem_append,List.mem_filter] at hm
  rcases hm with h | h <;> exact h.1
 have hx:ops.toList[p.2]? = some p.1:=by
  obtain ⟨x,k⟩:=p
  simpa [List.mem_zipIdx_iff_getElem?] using hz
 rw [hx] at ho
 cases ho
 rw [List.getElem?_eq_some_iff] at hp
 obtain ⟨hj,he⟩:=hp
 rw [List.drop_eq_getElem_cons hj,he]
def sx (n0:Nat) (st:Bool) (op:Op) (env:List V) (x:Res):Res:=if dP n0 st op env then x else none
theorem agk {st:Bool} {op:Op} {x:Res} (hst:st=false) (h:x=r):sx n0 st op env x=r:=by
 subst hst
 simpa [sx,dP] using h
theorem go_op1 (hL:Cs ops=L) (ha:(oR ops).any=false) (hj:L[j]? = some i) (ho:ops.toList[i]? = some o) (hg:o.guard=none)
  (h:sx n0 ((oR ops).strict i) o.op env ((opV cx ((oR ops).calm i) ((oR ops).ord i) o.op env H).bind (fun p=>fJ cx (.region id ops true) (j+1) n0 a K ⟨mf env o.dst p.1,p.2⟩))=r):fJ cx (.region id ops true) j n0 a K ⟨env,H⟩=r:=by
 rw [← h]
 simp only [fJ,iX,FX,lJ,if_true,ag4 hL hj ho]
 simp only [Br,hg]
 simp [HY,ha,sx]
variable {gj d:Nat} {v:V} {A B C:Res}
end ops
theorem aeu {X:Option (V×Hp)} {F:V×Hp→Res} {v:V} {H:Hp} (h1:X=some (v,H)) (h2:F (v,H)=r):X.bind F=r:=by
 subst h1
 exact h2
theorem QM {c:Code} {n0 n:Nat} (h:av cx (dM cx c n0 K n) [.seq c] .norm s=r):itX cx c n0 K (n+1) s=r:=by
 rw [← h]
 show bd cx c none _ s=bd cx c none (av cx (dM cx c n0 K n) []) s
 congr 1
end steps
end Go.Ab
namespace Go.Ab
section combinators
variable {H:Hp} {K:V→Hp→Res} {k:Hp→Res} {A B C:Res}
@[congr] theorem adW {x y:Option V} (h:x=y):bm x H K=bm y H K:=by rw [h]
@[congr] theorem ad1 {x y:Option (V×Hp)} (h:x=y):bp x K=bp y K:=by rw [h]
@[congr] theorem adJ {x y:Option Hp} (h:x=y):bs x k=bs y k:=by rw [h]
@[congr] theorem aaG {x y:V} (h:x=y):cnd x A B=cnd y A B:=by rw [h]
@[congr] theorem ad5 {x y:V} (h:x=y):gd x A B C=gd y A B C:=by rw [h]
def ob {α β:Type} (x:Option α) (k:α→Option β):Option β:=x.bind k
def ck {β:Type} (c:Bool) (k:Option β):Option β:=bif c then k else none
theorem XY {v:V}:bm (some v) H K=K v H:=rfl
theorem VP:bm none H K=none:=rfl
theorem UC {v:V} {h:Hp}:bp (some (v,h)) K=K v h:=rfl
theorem Xr:bp none K=none:=rfl
theorem Wr {h:Hp}:bs (some h) k=k h:=rfl
theorem V6:bs none k=none:=rfl
theorem aa2 {α:Type} {x:Option α} {f:α→V}:bm (x.map f) H K=ob x fun a=>K (f a) H:=by cases x <;> rfl
theorem WO {α:Type} {x:Option α} {f:α→Option V}:bm (x.bind f) H K=ob x fun a=>bm (f a) H K:=by cases x <;> rfl
theorem YQ {α:Type} {x:Option α} {f:α→V×Hp}:bp (x.map f) K=ob x fun a=>K (f a).1 (f a).2:=by cases x <;> rfl
theorem Yo {α:Type} {x:Option α} {f:α→Option (V×Hp)}:bp (x.bind f) K=ob x fun a=>bp (f a) K:=by cases x <;> rfl
theorem adF {α:Type} {x:Option α} {f:α→Hp}:bs (x.map f) k=ob x fun a=>k (f a):=by cases x <;> rfl
theorem Ui {α:Type} {x:Option α} {f:α→Option Hp}:bs (x.bind f) k=ob x fun a=>bs (f a) k:=by cases x <;> rfl
theorem YY {c:Bool} {x:Option V}:bm (bif c then x else none) H K=ck c (bm x H K):=by cases c <;> rfl
theorem abx {c:Bool} {x:Option (V×Hp)}:bp (bif c then x else none) K=ck c (bp x K):=by cases c <;> rfl
theorem acH {c:Bool} {x:Option Hp}:bs (bif c then x else none) k=ck c (bs x k):=by cases c <;> rfl
theorem afh {t:Bool}:cnd (.lit (.bool t)) A B=bif t then A else B:=rfl
theorem aiW {t:Bool}:gd (.lit (.bool t)) A B C=bif t then A else B:=rfl
theorem ajd:gd uu A B C=C:=rfl
theorem ct {β:Type} {A:Option β}:ck true A=A:=rfl
theorem rO {β:Type} {A:Option β}:ck false A=none:=rfl
theorem ae {α β:Type} {a:α} {f:α→Option β}:ob (some a) f=f a:=rfl
theorem V7 {α β:Type} {f:α→Option β}:ob none f=none:=rfl
end combinators
def idx {α:Type} (l:List α) (i:Int):Option α:=if 0≤i then l[i.toNat]? else none
theorem YF {α:Type} (l:List α) (i:Nat):idx l (i:Int)=l[i]? := by simp [idx]
section ops
variable {P:Program} {t:TypeId} {k k':IntKind} {a b:Int} {x y:V}
theorem PR:au P .add t (.lit (.int k a)) (.lit (.int k b))=some (.lit (.int k (k.wrap (a+b)))):=by simp [au,eg]
theorem OA:au P .sub t (.lit (.int k a)) (.lit (.int k b))=some (.lit (.int k (k.wrap (a - b)))):=by simp [au,eg]
theorem Sb:au P .mul t (.lit (.int k a)) (.lit (.int k b))=some (.lit (.int k (k.wrap (a*b)))):=by simp [au,eg]
theorem Pi:au P .eql t (.lit (.int k a)) (.lit (.int k b))=some (.lit (.bool (a==b))):=by simp [au,eg]
theorem Pp : au P .neq t (.lit (.int k a)) (.lit (.int k b)) = some (.lit (.bool (a != b))) := by simp [au, eg]
theorem OJ:au P .lss t (.lit (.int k a)) (.lit (.int k b))=some (.lit (.bool (decide (a<b)))):=by simp [au,eg]
theorem P6:au P .leq t (.lit (.int k a)) (.lit (.int k b))=some (.lit (.bool (decide (a≤b)))):=by simp [au,eg]
theorem Rx:au P .gtr t (.lit (.int k a)) (.lit (.int k b))=some (.lit (.bool (decide (b<a)))):=by simp [au,eg]
theorem Qa:au P .geq t (.lit (.int k a)) (.lit (.int k b))=some (.lit (.bool (decide (b≤a)))):=by simp [au,eg]
theorem Q0 : au P .quo t (.lit (.int k a)) (.lit (.int k b)) = bif b != 0 then some (.lit (.int k (k.wrap (a.tdiv b)))) else none := by
  by_cases h : b = 0
  · simp [au, eg, h]
  · simp [au, eg, h, (bne_iff_ne).2 h]
theorem RE : au P .rem t (.lit (.int k a)) (.lit (.int k b)) = bif b != 0 then some (.lit (.int k (a.tmod b))) else none := by
  by_cases h : b = 0
  · simp [au, eg, h]
  · simp [au, eg, h, (bne_iff_ne).2 h]
theorem LH {p q:Bool} (h:nz P t=true):au P .eql t (.lit (.bool p)) (.lit (.bool q))=some (.lit (.bool (p==q))):=by simp [au,h]
theorem LS {p q:Bool} (h:nz P t=true):au P .neq t (.lit (.bool p)) (.lit (.bool q))=some (.lit (.bool (!(p==q)))):=by simp [au,h]
theorem Wb {p:Bool}:vUn .not (.lit (.bool p))=some (.lit (.bool !p)):=rfl
theorem WN:vUn .neg (.lit (.int k a))=some (.lit (.int k (k.wrap (0 - a)))):=rfl
theorem WU {p:Bool}:aT (.lit (.bool p)) x y=some (bif p then x else y):=rfl
theorem IO {l:List V}:ar (.tup (x::l)) 0=some x:=rfl
theorem IL {l:List V}:ar (.tup (x::y::l)) 1=some y:=rfl
theorem JX {z:V} {l:List V}:ar (.tup (x::y::z::l)) 2=some z:=rfl
end ops
def aN (k:IntKind) (n:Int):List V:=[.lit (.int k n)]
def mq (b:Bool):List V:=[.lit (.bool b)]
section mem
variable {P:Program} {t:TypeId} {H:Hp} {wl:Nat}
theorem QQ {cs:List V}:ab P t (.rp cs) H=aW P t cs:=rfl
def ldB (P:Program) (t:TypeId) (g row off:Nat):Option B→Option V
 | some (.box cs)=>bif g==0&&row==0 then aW P t (cs.drop off) else none
 | some (.rows _ rs g' _)=>bif g==g' then (rs[row]?).bind fun r=>aW P t (r.drop off) else none
 | _=>none
theorem MR {id g row off:Nat}:ab P t (.ptr id g row off) H=ldB P t g row off (H[id]?):=by
 unfold ab ldB
 dsimp only
 generalize H[id]? = b0
 cases b0 with
 | none=>rfl
 | some b=>cases b <;> simp [Bool.cond_eq_ite]
theorem Ur {off:Nat} {cs:List V}:ldB P t 0 0 off (some (.box cs))=aW P t (cs.drop off):=rfl
theorem RL {α:Type} {l:List α} {enc:α→List V} {g row off e:Nat} {lv:Bool} :
  ldB P t g row off (some (.rows e (l.map enc) g lv))=(l[row]?).bind fun x=>aW P t ((enc x).drop off):=by
 simp [ldB]
 cases l[row]? <;> rfl
def acS (P : Program) (wl : Nat) (t : TypeId) (id g row off : Nat) (vs : List V) (H : Hp) : Option B → Option Hp
  | some (.box cs) =>
    bif g == 0 && row == 0 && aV P t != 0 && vs.length == aV P t && decide (off + vs.length ≤ cs.length) then
      some ((bE vs H).2.set id (.box (spl cs off (bE vs H).1)))
    else none
  | some (.rows _ _ _ _) => (fzL wl true vs H).bind fun p =>
    match p.2[id]? with
    | some (.rows e rs g' true) =>
      bif g == g' && aV P t != 0 && vs.length == aV P t then
        (rs[row]?).bind fun r => bif decide (off + p.1.length ≤ r.length) then some (p.2.set id (.rows e (rs.set row (spl r off p.1)) g' true)) else none
      else none
    | _ => none
  | _ => none
theorem JH {id g row off : Nat} {v : V} : aj P wl t (.ptr id g row off) v H = (v.cells).bind fun vs => bif Nat.ble wl id then acS P wl t id g row off vs H (H[id]?) else none := by
  unfold aj
  cases hv : v.cells with
  | none => simp
  | some vs =>
    simp only [Option.bind_some]
    cases hw : Nat.ble wl id with
    | false => simp
    | true =>
      simp only [if_true, cond_true]
      unfold acS
      generalize H[id]? = b0
      cases b0 with
      | none => rfl
      | some b =>
        cases b with
        | box cs => simp only [Bool.cond_eq_ite, Bool.and_eq_true, beq_iff_eq, bne_iff_ne, decide_eq_true_eq, and_assoc]
        | rows e rs g' lv =>
          simp only
          congr 1
          funext p
          generalize p.2[id]? = b1
          cases b1 with
          | none => rfl
          | some b => 
            cases b with
            | rows e rs g' lv => cases lv <;> simp [Bool.cond_eq_ite, and_assoc]
            | _ => rfl
        | _ => rfl
theorem cp {α : Type} {l : List α} {enc : α → List V} {e : TypeId} {k : IntKind} {n : Int} (hu : P.underlying t = some (.slice e)) (hs : ∀ x, (enc x).length = aV P e) (hz : (aV P e != 0) = true) :
    am P t (.ro (l.map enc)) (.lit (.int k n)) H = (idx l n).map fun x => .rp (enc x) := by
  have hz' : aV P e ≠ 0 := by simpa using hz
  unfold am idx
  simp only [hu]
  split
  · cases hl : l[n.toNat]? with
    | none => simp [hl]
    | some x => simp [hl, hs, hz']
  · rfl
def ixB (sz g len id:Nat) (n:Int):Option B→Option V
 | some (.rows s _ g' _)=>bif g==g'&&s==sz then bif decide (0≤n∧n.toNat<len) then some (.ptr id g n.toNat 0) else none else none
 | _=>none
theorem bk {id g len : Nat} {e : TypeId} {k : IntKind} {n : Int} (hu : P.underlying t = some (.slice e)) (hz : (aV P e != 0) = true) :
    am P t (.own id g len) (.lit (.int k n)) H = ixB (aV P e) g len id n (H[id]?) := by
  have hz' : aV P e ≠ 0 := by simpa using hz
  unfold am ixB
  simp only [hu]
  by_cases hn : 0 ≤ n
  · simp only [hn, if_true, true_and]
    generalize H[id]? = b0
    cases b0 with
    | none => rfl
    | some b =>
      cases b with
      | rows s rs g' lv =>
        simp only [hz', ne_eq, not_false_eq_true, and_true, Bool.cond_eq_ite, Bool.and_eq_true, beq_iff_eq, decide_eq_true_eq]
      | _ => rfl
  · simp only [hn, if_false, false_and, decide_false]
    generalize H[id]? = b0
    cases b0 with
    | none => rfl
    | some b =>
      cases b with
      | rows s rs g' lv => simp
      | _ => rfl
theorem P9 {sz g len id:Nat} {n:Int} {rs:List (List V)} {lv:Bool}:ixB sz g len id n (some (.rows sz rs g lv))=bif decide (0≤n∧n.toNat<len) then some (.ptr id g n.toNat 0) else none:=by
 simp [ixB]
theorem Yj {rows:List (List V)}:r7 (.ro rows) H=some (.lit (.int .i64 rows.length)):=rfl
theorem Sf:r7 .nil H=some (.lit (.int .i64 0)):=rfl
def lnB (g len:Nat):Option B→Option V
 | some (.rows _ _ g' _)=>bif g==g' then some (.lit (.int .i64 len)) else none
 | _=>none
theorem Ot {id g len:Nat}:r7 (.own id g len) H=lnB g len (H[id]?):=by
 unfold r7 lnB
 dsimp only
 generalize H[id]? = b0
 cases b0 with
 | none=>rfl
 | some b=>cases b <;> simp [Bool.cond_eq_ite]
theorem Oy {g len e:Nat} {rs:List (List V)} {lv:Bool}:lnB g len (some (.rows e rs g lv))=some (.lit (.int .i64 len)):=by simp [lnB]
theorem Dn {v:Value} (h:v.oneCell'=true):aP (.lit v) H=some (.ptr H.length 0 0 0,H++[.box [.lit v]]):=by
 simp [aP,V.cells,V.one,h,bE]
theorem KT {k:IntKind} {n:Int}:aP (.lit (.int k n)) H=some (.ptr H.length 0 0 0,H++[.box [.lit (.int k n)]]):=Dn rfl
theorem I3 {b:Bool}:aP (.lit (.bool b)) H=some (.ptr H.length 0 0 0,H++[.box [.lit (.bool b)]]):=Dn rfl
theorem Pq {r:List (List V)}:aP (.ro r) H=some (.ptr H.length 0 0 0,H++[.box [.ro r]]):=by simp [aP,V.cells,V.one,bE]
theorem Km {l:List V}:aP (.agg l) H=some (.ptr (bE l H).2.length 0 0 0,(bE l H).2++[.box (bE l H).1]):=by simp [aP,V.cells]
theorem Rk:bE [] H=([],H):=rfl
theorem Pk {v:Value} {l:List V}:bE (.lit v::l) H=(.lit v::(bE l H).1,(bE l H).2):=rfl
theorem Wd {r:List (List V)} {l:List V}:bE (.ro r::l) H=(.ro r::(bE l H).1,(bE l H).2):=rfl
theorem Qh {i g n:Nat} {l:List V}:bE (.own i g n::l) H=(.own i g n::(bE l H).1,(bE l H).2):=rfl
theorem Q4 {i g n o:Nat} {l:List V}:bE (.ptr i g n o::l) H=(.ptr i g n o::(bE l H).1,(bE l H).2):=rfl
theorem Wj {f:Fn} {a b l:List V}:bE (.fn f a b::l) H=(.fn f a b::(bE l H).1,(bE l H).2):=rfl
theorem K3 {l:List V}:bE (.nil::l) H=(.own H.length 0 0::(bE l (H++[.rows 0 [] 0 true])).1,(bE l (H++[.rows 0 [] 0 true])).2):=rfl
theorem Ex {v:Value} (h:v.oneCell'=true):V.cells (.lit v)=some [.lit v]:=by simp [V.cells,V.one,h]
theorem Nk {k:IntKind} {n:Int}:V.cells (.lit (.int k n))=some [.lit (.int k n)]:=Ex rfl
theorem Je {b:Bool}:V.cells (.lit (.bool b))=some [.lit (.bool b)]:=Ex rfl
theorem PC {r:List (List V)}:V.cells (.ro r)=some [.ro r]:=rfl
theorem LM {i g n:Nat}:V.cells (.own i g n)=some [.own i g n]:=rfl
theorem Mr {i g n o:Nat}:V.cells (.ptr i g n o)=some [.ptr i g n o]:=rfl
theorem Pf {f:Fn} {a b:List V}:V.cells (.fn f a b)=some [.fn f a b]:=rfl
theorem Mw:V.cells .nil=some [.nil]:=rfl
theorem NO {l:List V}:V.cells (.agg l)=some l:=rfl
theorem Qj {id g row off:Nat}:aS (.ptr id g row off) H=(match H[id]? with
  | some (.box _)=>bif g==0 then some (.ptr id g row off) else none
  | some (.rows _ _ g' _)=>bif g==g' then some (.ptr id g row off) else none
  | _=>none):=by
 unfold aS
 dsimp only
 generalize H[id]? = b0
 cases b0 with
 | none=>rfl
 | some b=>cases b <;> simp [Bool.cond_eq_ite]
theorem Xt {f:FuncId} {a b:List V}:aS (.fn (.func f) a b) H=some (.fn (.func f) a b):=rfl
theorem U5 {c:List V}:aS (.rp c) H=some (.rp c):=rfl
theorem LE {cx:Cx} {c:Code} {n0:Nat} {K:Out→St→Res} {n:Nat} {s:St}:dM cx c n0 K n .ret s=K .ret s:=rfl
theorem abQ {v:V}:eo [some v] H=some (v,H):=rfl
theorem ZO {v w:V}:eo [some v,some w] H=some (.tup [v,w],H):=rfl
theorem abX {v w x:V}:eo [some v,some w,some x] H=some (.tup [v,w,x],H):=rfl
end mem
end Go.Ab
namespace Go.Ab
mutual
def V.data:V→Bool
 | .lit _=>true
 | .ro _=>true
 | .nil=>true
 | .agg cs=>iS cs
 | .fn _ a b=>LR a&&LR b
 | _=>false
def LR:List V→Bool
 | []=>true
 | v::vs=>v.data&&LR vs
def iS:List V→Bool
 | []=>true
 | .lit _::vs=>iS vs
 | .ro _::vs=>iS vs
 | _::_=>false
end
theorem kC:∀ {l:List V},iS l=true→bn l=true
 | [],_=>rfl
 | .lit _::vs,h=>by
  have:=kC (l:=vs) (by simpa [iS] using h)
  simp [bn,V.pure,this]
 | .ro _::vs,h=>by
  have:=kC (l:=vs) (by simpa [iS] using h)
  simp [bn,V.pure,this]
 | .nil::_,h | .any::_,h | .junk::_,h | .agg _::_,h | .tup _::_,h | .fn .. :: _,h | .yld _::_,h | .rp _::_,h | .ptr .. :: _,h | .own .. :: _,h | .map _::_,h=>by simp [iS] at h
mutual
theorem M4:∀ {v:V},v.data=true→v.pure=true
 | .lit _,_ | .ro _,_ | .nil,_=>rfl
 | .agg cs,h=>kC h
 | .fn _ a b,h=>by
  simp [V.data] at h
  simp [V.pure,pJ h.1,pJ h.2]
 | .any,h | .junk,h | .tup _,h | .yld _,h | .rp _,h | .ptr ..,h | .own ..,h | .map _,h=>by simp [V.data] at h
theorem pJ:∀ {l:List V},LR l=true→bn l=true
 | [],_=>rfl
 | v::vs,h=>by
  simp [LR] at h
  simp [bn,M4 h.1,pJ h.2]
end
def nQ (cx:Cx) (g:FuncId) (args:List V):Option (V×Hp):=(cx.call 0 g args []).bind fun p=>lN (cx.M.keepRes cx.fid g) p.1 p.2
section ret
variable {H:Hp}
theorem OH {v:Value} {h:Hp}:lN none (.lit v) h=some (.lit v,[]):=rfl
def fzB (wl id g len:Nat) (H:Hp):Option B→Option (V×Hp)
 | some (.rows e rs g' _)=>bif g==g'&&decide (len≤rs.length)&&(cW rs&&Nat.ble wl id) then some (.ro (rs.take len),H.set id (.rows e rs g' false)) else none
 | _=>none
theorem oY {wl id g len:Nat}:fzC wl (.own id g len) H=fzB wl id g len H (H[id]?):=by
 unfold fzC fzB
 dsimp only
 generalize H[id]? = b
 cases b with
 | none=>rfl
 | some b=>
  cases b with
  | rows e rs g' lv=>
   by_cases h1:g=g'
   ·by_cases h2:len≤rs.length <;> cases h3:(cW rs&&Nat.ble wl id) <;> simp [h1,h2]
   ·simp [h1,beq_false_of_ne h1]
  | _=>rfl
theorem OT {α:Type} {l:List α} {enc:α→List V} {wl id g e len:Nat} {lv:Bool} (hl:len=l.length) (hp:∀ x,bn (enc x)=true) (hw:Nat.ble wl id=true) :
  fzB wl id g len H (some (.rows e (l.map enc) g lv))=some (.ro (l.map enc),H.set id (.rows e (l.map enc) g false)):=by
 subst hl
 have h1:cW (l.map enc)=true:=by
  rw [cW,List.all_eq_true]
  intro r hr
  obtain ⟨x,_,rfl⟩:=List.mem_map.1 hr
  exact hp x
 have h2:(l.map enc).take l.length=l.map enc:=by rw [List.take_of_length_le];simp
 simp [fzB,h1,hw,h2]
theorem OE {α:Type} {l:List α} {enc:α→List V} {id g e len:Nat} {lv:Bool} {h:Hp} (hb:h[id]? = some (.rows e (l.map enc) g lv)) (hl:len=l.length) (hp:∀ x,bn (enc x)=true) :
  lN none (.own id g len) h=some (.ro (l.map enc),[]):=by
 simp only [lN,fzR,Eo,fzA,oY,hb,OT hl hp (by simp:Nat.ble 0 id=true),Option.bind_some,V.pure,if_true]
end ret
section app
variable {P:Program} {wl:Nat} {t:TypeId} {H:Hp}
theorem Dq {r:List (List V)}:bZ (.ro r) H=some r:=rfl
theorem Js:bZ .nil H=some []:=rfl
def roB (g len:Nat):Option B→Option (List (List V))
 | some (.rows _ rs g' _)=>bif g==g'&&decide (len≤rs.length) then some (rs.take len) else none
 | _=>none
theorem Is {id g len:Nat}:bZ (.own id g len) H=roB g len (H[id]?):=by
 unfold bZ roB
 dsimp only
 generalize H[id]? = b
 cases b with
 | none=>rfl
 | some b=>cases b <;> simp [Bool.cond_eq_ite]
def apB (wl _e:Nat) (sz bytes id g len:Nat) (xs:List (List V)) (H:Hp):Option B→Option (V×Hp)
 | some (.rows s rs g' live)=>
  bif Nat.ble wl id&&(g==g')&&decide (len≤rs.length)&&(live||len==rs.length)&&(s==sz||s==0)&&decide ((len+xs.length)*bytes≤70368744177664) then
   some (.own id (g+1) (len+xs.length),H.set id (.rows sz (rs.take len++xs) (g+1) live)) else none
 | _=>none
theorem eH {e:TypeId} {id g len:Nat} {x:V} (he:kz P t=some e) (hg:FB P e=true) :
  bu P wl t (.own id g len) x H=(bZ x H).bind fun xs=>bif cd (aV P e) xs then apB wl e (aV P e) (P.bytesOf e) id g len xs H (H[id]?) else none:=by
 unfold bu
 simp only [he]
 cases hr:bZ x H with
 | none=>rfl
 | some xs=>
  simp only [Option.bind_some,hg,Bool.and_true]
  cases cd (aV P e) xs with
  | false=>rfl
  | true=>
   simp only [if_true,cond_true,apB]
   generalize H[id]? = b
   cases b with
   | none=>rfl
   | some b=>
    cases b with
    | rows s rs g' lv=>simp [Bool.cond_eq_ite,and_assoc]
    | _=>rfl
theorem eJ {e:TypeId} {x:V} (he:kz P t=some e) (hg:FB P e=true) :
  bu P wl t .nil x H=(bZ x H).bind fun xs=>bif cd (aV P e) xs then bif decide (xs.length*P.bytesOf e≤70368744177664) then some (.own H.length 0 xs.length,H++[.rows (aV P e) xs 0 true]) else none else none:=by
 unfold bu
 simp only [he]
 cases hr:bZ x H with
 | none=>rfl
 | some xs=>
  simp only [Option.bind_some,hg,Bool.and_true]
  cases cd (aV P e) xs with
  | false=>rfl
  | true=>simp [Bool.cond_eq_ite]
theorem d9 {α:Type} {l:List α} {enc:α→List V} {sz:Nat} (h:∀ x,(enc x).length=sz):cd sz (l.map enc)=true:=by
 rw [cd,List.all_eq_true]
 intro r hr
 obtain ⟨x,_,rfl⟩:=List.mem_map.1 hr
 simp [h]
def room (n bytes:Nat):Bool:=decide (n*bytes≤70368744177664)
theorem Ca {e : TypeId} {n : Int} {z : Value} {Z : List V} (he : kz P t = some e) (hz : eZ P e = some z) (hZ : be.fzZ (bQ z) = Z) (ho : (bg (bQ z) && (bQ z).length == aV P e && aV P e != 0) = true) :
    be P t (.lit (.int .i64 n)) (.lit (.int .i64 n)) H = bif decide (0 ≤ n ∧ n ≤ 9223372036854775807 ∧ n * P.bytesOf e ≤ 70368744177664) then some (.own H.length 0 n.toNat, H ++ [.rows (aV P e) (List.replicate n.toNat Z) 0 true]) else none := by
  unfold be
  simp only [he, hz, ho, if_true, hZ, true_and, Bool.cond_eq_ite, decide_eq_true_eq]
end app
theorem f9 {α:Type} {l:List α} {enc:α→List V} {n:Nat} (hp:∀ x,bn (enc x)=true):lM n (l.map enc)=l.map enc:=by
 have h1:cW (l.map enc)=true:=by
  rw [cW,List.all_eq_true]
  intro r hr
  obtain ⟨x,_,rfl⟩:=List.mem_map.1 hr
  exact hp x
 simp [lM,h1]
theorem eN {α:Type} {l:List α} {enc:α→List V} {n:Nat} (hp:∀ x,bn (enc x)=true):iU n (l.map enc)=l.map enc:=by
 have h1:cW (l.map enc)=true:=by
  rw [cW,List.all_eq_true]
  intro r hr
  obtain ⟨x,_,rfl⟩:=List.mem_map.1 hr
  exact hp x
 simp [iU,h1]
theorem IU {n:Nat}:iU n []=[]:=rfl
theorem Lt {n:Nat}:lM n []=[]:=rfl
theorem uJ (k:IntKind) (x:Int):bn (aN k x)=true:=rfl
theorem o4 (x:Bool):bn (mq x)=true:=rfl
theorem li (x:Int×List Int):bn (ap x)=true:=rfl
theorem nr (x:Int×Int×Int):bn (aZ x)=true:=rfl
theorem KN {k:IntKind} {l:List Int} {n:Nat}:lM n (l.map (aN k))=l.map (aN k):=f9 (uJ k)
theorem I1 {l:List Bool} {n:Nat}:lM n (l.map mq)=l.map mq:=f9 o4
theorem IR {l:Tyt} {n:Nat}:lM n (l.map ap)=l.map ap:=f9 li
theorem FZ {l:Tye} {n:Nat}:lM n (l.map aZ)=l.map aZ:=f9 nr
theorem Jx {k:IntKind} {l:List Int} {n:Nat}:iU n (l.map (aN k))=l.map (aN k):=eN (uJ k)
theorem Fa {l:List Bool} {n:Nat}:iU n (l.map mq)=l.map mq:=eN o4
theorem FF {l:Tyt} {n:Nat}:iU n (l.map ap)=l.map ap:=eN li
theorem ES {l:Tye} {n:Nat}:iU n (l.map aZ)=l.map aZ:=eN nr
theorem Jp {n:Nat} {cs:List V}:B.shift n (.box cs) = .box (iL n cs):=rfl
theorem Fe {n e g:Nat} {rs:List (List V)} {l:Bool}:B.shift n (.rows e rs g l) = .rows e (iU n rs) g l:=rfl
theorem KC {n:Nat} {cs:List V}:B.kill n (.box cs) = .box (kx n cs):=rfl
theorem IF {n e g:Nat} {rs:List (List V)} {l:Bool}:B.kill n (.rows e rs g l) = .rows e (lM n rs) g l:=rfl
theorem I7 {n:Nat}:B.kill n .dead = .dead:=rfl
theorem NF {l:List Bool} {i:Nat} {b:Bool}:(l.map mq).set i [.lit (.bool b)]=(l.set i b).map mq:=by rw [List.map_set];rfl
theorem QU {k:IntKind} {l:List Int} {i:Nat} {b:Int}:(l.map (aN k)).set i [.lit (.int k b)]=(l.set i b).map (aN k):=by rw [List.map_set];rfl
theorem MD {n:Nat} {b:Bool}:List.replicate n [V.lit (.bool b)]=(List.replicate n b).map mq:=by rw [List.map_replicate];rfl
theorem RH {k:IntKind} {n:Nat} {b:Int}:List.replicate n [V.lit (.int k b)]=(List.replicate n b).map (aN k):=by rw [List.map_replicate];rfl
theorem QE {α:Type} {l:List α} {f:α→List V} {i:Nat}:(l.map f)[i]? = (l[i]?).map f:=List.getElem?_map
theorem ai1 {n:Nat}:Nat.ble 0 n=true:=by cases n <;> rfl
theorem Q3 (x:Int×List Int):ap x=[.lit (.int .i64 x.1),.ro (x.2.map (aN .i64))]:=rfl
theorem NQ {keep:Option (Nat→Bool)} {v:Value} {h:Hp}:lN keep (.lit v) h=some (.lit v,[]):=by
 cases keep <;> rfl
theorem OM {keep:Option (Nat→Bool)} {r:List (List V)} {h:Hp}:lN keep (.ro r) h=some (.ro r,[]):=by
 cases keep <;> rfl
theorem KY {z:Int} (h1 : -9223372036854775808≤z) (h2:z≤9223372036854775807):IntKind.i64.wrap z=z:=by
 simp [IntKind.wrap,IntKind.bits,IntKind.signed]
 omega
end Go.Ab
namespace Go.Ab
def bdK (id n:Nat):Out→St→Res:=fun o s=>match s.H[id]? with
 | some (.loop l)=>some (.lit (.bool (dF o).isNone),cg n (s.H.set id (.loop { l with st:=if (dF o).isNone then .ready else .done,pending:=dF o })))
 | _=>none
def asK (cx:Cx) (id n:Nat) (body:Code):Out→St→Res:=fun o s=>match o with
 | .norm=>match s.H[id]? with
  | some (.loop l)=>if l.st = .ready then av cx (bdK id n) [.seq body] .norm ⟨s.env,s.H.set id (.loop { l with st := .busy })⟩ else none
  | _=>none
 | _=>none
def rfK (K:Out→St→Res) (env:List V) (n:Nat) (p:V×Hp):Res:=
 match p.2[n]? with
 | some (.loop l)=>if l.st = .busy then none else
  match l.pending with
  | none=>K .norm ⟨env,cg n p.2⟩
  | some .ret=>K .ret ⟨env,cg n p.2⟩
  | some (.exit id)=>K (.exit id) ⟨env,cg n p.2⟩
  | some (.goto id)=>K (.goto id) ⟨env,cg n p.2⟩
  | some _=>none
 | _=>none
def TA {σ α:Type} (step:σ→α→Bool×σ):List α→σ→Bool×σ
 | [],s=>(true,s)
 | x::r,s=>if (step s x).1 then TA step r (step s x).2 else step s x
end Go.Ab
namespace Go.Ab
theorem cH {α:Type} {l r:List α} {x:α} {i:Nat} (h:l.drop i=x::r):i<l.length∧l[i]? = some x∧l.drop (i+1)=r∧x ∈ l∧l.length=i+1+r.length:=by
 have h0:i<l.length:=by
  have:=congrArg List.length h
  simp at this
  omega
 have h1:l.drop i=l[i]::l.drop (i+1):=List.drop_eq_getElem_cons h0
 rw [h] at h1
 injection h1 with h2 h3
 refine ⟨h0,by rw [List.getElem?_eq_getElem h0,h2],h3.symm,h2 ▸ List.getElem_mem h0,?_⟩
 have:=congrArg List.length h
 simp at this
 omega
theorem dy {α:Type} {l:List α} {i:Nat} (h:l.drop i=[]):l.length≤i:=List.drop_eq_nil_iff.1 h
theorem ga {α:Type} {l:List α} {i:Nat} {x:α} (h:l[i]? = some x):idx l (i:Int)=some x:=by rw [YF,h]
theorem ltT {a b:Int} (h:a<b):decide (a<b)=true:=decide_eq_true h
theorem ltF {a b:Int} (h:b≤a):decide (a<b)=false:=decide_eq_false (by omega)
theorem leT {a b:Int} (h:a≤b):decide (a≤b)=true:=decide_eq_true h
theorem leF {a b:Int} (h:b<a):decide (a≤b)=false:=decide_eq_false (by omega)
theorem gE {k d:Nat} (h:d<k):∃ j,k=j+1:=⟨k - 1,by omega⟩
theorem gg {i:Nat} (h:i≤9223372036854775806):IntKind.i64.wrap ((i:Int)+1)=((i+1:Nat):Int):=by
 rw [KY (by omega) (by omega)]
 omega
end Go.Ab
namespace Go.Ab
def GW {α:Type} (p:α→Bool):List α→Nat→Int
 | [],_ => -1
 | x::r,i=>if p x then (i:Int) else GW p r (i+1)
theorem pn {α:Type} (p:α→Bool):∀ (l:List α) (i:Nat),decide (0≤GW p l i)=l.any p
 | [],_=>rfl
 | x::r,i=>by
  by_cases h:p x=true
  ·simp [GW,h]
  ·simpa [GW,h] using pn p r (i+1)
end Go.Ab
namespace Go.Ab
theorem ajl {n:Nat} (h:n≤30):decide ((30:Int)<n)=false:=decide_eq_false (by omega)
end Go.Ab
namespace Go.Ab
theorem ajg {n:Nat} (h:30<n):decide ((30:Int)<n)=true:=decide_eq_true (by omega)
end Go.Ab
namespace Go.Ab
theorem TC {n:Nat}:decide ((n:Int)≤40)=decide (n≤40):=by
 by_cases h:n≤40
 ·rw [decide_eq_true h,decide_eq_true (by omega)]
 ·rw [decide_eq_false h,decide_eq_false (by omega)]
end Go.Ab
namespace Go.Ab
section one
variable {wl e sz bytes id g len s:Nat} {H:Hp} {lv:Bool}
theorem Dt {n b:Nat} (h:n*b≤70368744177664):room n b=true:=decide_eq_true h
end one
end Go.Ab
namespace Go.Ab
theorem eM {α:Type} {l:List α} {enc:α→List V} (hp:∀ x,bn (enc x)=true):cW (l.map enc)=true:=by
 rw [cW,List.all_eq_true]
 intro r hr
 obtain ⟨x,_,rfl⟩:=List.mem_map.1 hr
 exact hp x
theorem rT {k:IntKind} {l:List Int}:cW (l.map (aN k))=true:=eM (uJ k)
theorem JD {l:Tyt}:cW (l.map ap)=true:=eM li
theorem Gl {l:Tye}:cW (l.map aZ)=true:=eM nr
theorem Jr {l:List Bool}:cW (l.map mq)=true:=eM o4
end Go.Ab
namespace Go.Ab
section slices
variable {P:Program} {wl:Nat} {c:Bool} {t e:TypeId} {α:Type} {l:List α} {enc:α→List V} {k k':IntKind} {n lo:Int} {H:Hp}
theorem GK (h:∀ x,(enc x).length=aV P e):(l.map enc).all (fun r=>r.length==aV P e)=true:=by
 rw [List.all_eq_true]
 intro r hr
 obtain ⟨x,_,rfl⟩:=List.mem_map.1 hr
 simp [h]
theorem EE (he : kz P t = some e) (hz : (aV P e != 0) = true) (h : ∀ x, (enc x).length = aV P e) :
    dB P wl c t (.ro (l.map enc)) none (some (.lit (.int k n))) none H = bif decide (0 ≤ n ∧ n ≤ l.length) then some (.ro ((l.take n.toNat).map enc), H) else none := by
  have hz' : aV P e ≠ 0 := by simpa using hz
  unfold dB
  simp only [he, bnd]
  by_cases h0 : 0 ≤ n
  · simp only [h0, if_true, Option.bind_some, true_and]
    by_cases h1 : n ≤ l.length
    · have h2 : n.toNat ≤ l.length := by omega
      simp [h1, h2, hz', GK h, List.map_take]
    · have h2 : ¬ n.toNat ≤ l.length := by omega
      simp [h1, h2]
  · simp [h0]
theorem Df (he : kz P t = some e) (hz : (aV P e != 0) = true) (h : ∀ x, (enc x).length = aV P e) :
    dB P wl c t (.ro (l.map enc)) (some (.lit (.int k n))) none none H = bif decide (0 ≤ n ∧ n ≤ l.length) then some (.ro ((l.drop n.toNat).map enc), H) else none := by
  have hz' : aV P e ≠ 0 := by simpa using hz
  unfold dB
  simp only [he, bnd]
  by_cases h0 : 0 ≤ n
  · simp only [h0, if_true, Option.bind_some, true_and]
    by_cases h1 : n ≤ l.length
    · have h2 : n.toNat ≤ l.length := by omega
      simp [h1, h2, hz', GK h, List.map_drop, List.take_of_length_le]
    · have h2 : ¬ n.toNat ≤ l.length := by omega
      simp [h1, h2]
  · simp [h0]
theorem wG (he : kz P t = some e) (hz : (aV P e != 0) = true) (h : ∀ x, (enc x).length = aV P e) :
    dB P wl c t (.ro (l.map enc)) (some (.lit (.int k lo))) (some (.lit (.int k' n))) none H = bif decide (0 ≤ lo ∧ lo ≤ n ∧ n ≤ l.length) then some (.ro (((l.take n.toNat).drop lo.toNat).map enc), H) else none := by
  have hz' : aV P e ≠ 0 := by simpa using hz
  unfold dB
  simp only [he, bnd]
  by_cases h0 : 0 ≤ lo
  · by_cases h3 : 0 ≤ n
    · simp only [h0, h3, if_true, Option.bind_some, true_and]
      by_cases h1 : n ≤ l.length
      · have h2 : n.toNat ≤ l.length := by omega
        by_cases h4 : lo ≤ n
        · have h5 : lo.toNat ≤ n.toNat := by omega
          simp [h1, h2, h4, h5, hz', GK h, List.map_take, List.map_drop]
        · have h5 : ¬ lo.toNat ≤ n.toNat := by omega
          simp [h4, h5]
      · have h2 : ¬ n.toNat ≤ l.length := by omega
        simp [h1, h2]
    · have : ¬ (0 ≤ lo ∧ lo ≤ n ∧ n ≤ (l.length : Int)) := by omega
      simp [h3, this]
  · simp [h0]
end slices
end Go.Ab
namespace Go.Ab
end Go.Ab
namespace Go.Ab
def bq {α β:Type} (x:Option α) (F:α→Option β):Option β:=x.bind F
@[congr] theorem adI {α β:Type} {x y:Option α} {F:α→Option β} (h:x=y):bq x F=bq y F:=by rw [h]
def sif {β:Type} (c:Bool) (a b:β):β:=bif c then a else b
@[congr] theorem ZK {β:Type} {c d:Bool} {a b:β} (h:c=d):sif c a b=sif d a b:=by rw [h]
theorem mV {β:Type} {a b:β}:sif true a b=a:=rfl
theorem mG {β:Type} {a b:β}:sif false a b=b:=rfl
section
variable {α β γ:Type}
theorem XV {a:α} {F:α→Option β}:bq (some a) F=F a:=rfl
theorem WY {F:α→Option β}:bq none F=none:=rfl
theorem VQ {c:Bool} {x y:Option α} {F:α→Option β}:bq (bif c then x else y) F=bif c then bq x F else bq y F:=by cases c <;> rfl
theorem ahp {x:Option γ} {f:γ→Option α} {F:α→Option β}:bq (ob x f) F=ob x fun a=>bq (f a) F:=by cases x <;> rfl
theorem ahI {c:Bool} {x:Option α} {F:α→Option β}:bq (ck c x) F=ck c (bq x F):=by cases c <;> rfl
theorem abG {x:Option γ} {f:γ→α} {F:α→Option β}:bq (x.map f) F=ob x fun a=>F (f a):=by cases x <;> rfl
theorem VT {x:Option γ} {f:γ→Option α} {F:α→Option β}:bq (x.bind f) F=ob x fun a=>bq (f a) F:=by cases x <;> rfl
theorem acg {c:Bool} {x:Option α} {F:α→Option β}:bq (bif c then x else none) F=ck c (bq x F):=by cases c <;> rfl
theorem ahP {x:Option γ} {f:γ→Option α} {F:α→Option β}:bq (bq x f) F=bq x fun a=>bq (f a) F:=by cases x <;> rfl
theorem agI {x:Option γ} {f:γ→Option α} {F:α→Option β}:ob (ob x f) F=ob x fun a=>ob (f a) F:=by cases x <;> rfl
theorem WI {c:Bool} {x y:Option α} {F:α→Option β}:ob (bif c then x else y) F=bif c then ob x F else ob y F:=by cases c <;> rfl
theorem aea {c:Bool} {x:Option α} {F:α→Option β}:ob (ck c x) F=ck c (ob x F):=by cases c <;> rfl
theorem aaO {x:Option γ} {f:γ→α} {F:α→Option β}:ob (x.map f) F=ob x fun a=>F (f a):=by cases x <;> rfl
end
section
variable {α:Type} {H:Hp} {K:V→Hp→Res} {k:Hp→Res}
theorem af7 {x:Option α} {f:α→Option V}:bm (ob x f) H K=ob x fun a=>bm (f a) H K:=by cases x <;> rfl
theorem agE {x:Option α} {f:α→Option (V×Hp)}:bp (ob x f) K=ob x fun a=>bp (f a) K:=by cases x <;> rfl
theorem ahV {x:Option α} {f:α→Option Hp}:bs (ob x f) k=ob x fun a=>bs (f a) k:=by cases x <;> rfl
theorem Xv {c:Bool} {x y:Option V}:bm (bif c then x else y) H K=bif c then bm x H K else bm y H K:=by cases c <;> rfl
theorem Uc {c:Bool} {x y:Option (V×Hp)}:bp (bif c then x else y) K=bif c then bp x K else bp y K:=by cases c <;> rfl
theorem X4 {c:Bool} {x y:Option Hp}:bs (bif c then x else y) k=bif c then bs x k else bs y k:=by cases c <;> rfl
theorem ae4 {c:Bool} {x:Option V}:bm (ck c x) H K=ck c (bm x H K):=by cases c <;> rfl
theorem ahj {c:Bool} {x:Option (V×Hp)}:bp (ck c x) K=ck c (bp x K):=by cases c <;> rfl
theorem af5 {c:Bool} {x:Option Hp}:bs (ck c x) k=ck c (bs x k):=by cases c <;> rfl
end
def rt (kp:Option (Nat→Bool)) (x:Res):Res:=x.bind fun p=>lN kp p.1 p.2
section rt
variable {kp:Option (Nat→Bool)} {α:Type} {h:Hp}
theorem X2:rt kp none=none:=rfl
theorem FV {v:V}:rt kp (some (v,h))=lN kp v h:=rfl
theorem TX {c:Bool} {x y:Res}:rt kp (bif c then x else y)=bif c then rt kp x else rt kp y:=by cases c <;> rfl
theorem Ws {x:Option α} {f:α→Res}:rt kp (ob x f)=ob x fun a=>rt kp (f a):=by cases x <;> rfl
theorem ag8 {c:Bool} {x:Res}:rt kp (ck c x)=ck c (rt kp x):=by cases c <;> rfl
def rtN (v:V) (H:Hp):Res:=bq (fzR 0 v H) fun q=>sif q.1.pure (some (q.1,[])) (some q)
theorem DJ {v:V}:lN none v h=rtN v h:=by
 show (fzR 0 v h).bind _=(fzR 0 v h).bind _
 congr 1
 funext q
 cases hq:q.1.pure <;> simp [sif,hq]
theorem UO:lN none .nil h=some (.ro [],[]):=rfl
theorem Ud {c:List V}:lN none (.agg c) h=rtN (.agg c) h:=DJ
theorem Ym {c:List V}:lN none (.tup c) h=rtN (.tup c) h:=DJ
theorem Ww {i g l:Nat}:lN none (.own i g l) h=rtN (.own i g l) h:=DJ
theorem Vz {i:Nat}:lN none (.map i) h=some (.map i,h):=rfl
theorem abo {f:Fn} {a b:List V}:lN none (.fn f a b) h=rtN (.fn f a b) h:=DJ
theorem U4 {i g r o:Nat}:lN none (.ptr i g r o) h=some (.ptr i g r o,h):=rfl
end rt
section fz
variable {wl:Nat} {H:Hp} {nl:Bool}
theorem Vx {vs:List V}:fzR wl (.tup vs) H=bq (lV wl vs H) fun p=>some (.tup p.1,p.2):=rfl
theorem XU {v:Value}:fzR wl (.lit v) H=some (.lit v,H):=rfl
theorem acK {r:List (List V)}:fzR wl (.ro r) H=some (.ro r,H):=rfl
theorem WP:fzR wl .nil H=some (.ro [],H):=rfl
theorem acC {f:Fn} {a b:List V}:fzR wl (.fn f a b) H=some (.fn f a b,H):=rfl
theorem W9 {i g r o:Nat}:fzR wl (.ptr i g r o) H=some (.ptr i g r o,H):=rfl
theorem XJ {i:Nat}:fzR wl (.map i) H=some (.map i,H):=rfl
theorem WV {i g l:Nat}:fzR wl (.own i g l) H=fzB wl i g l H (H[i]?):=oY
theorem Vu {c:List V}:fzR wl (.agg c) H=bq (fzL wl true c H) fun p=>some (.agg p.1,p.2):=rfl
theorem KI:lV wl [] H=some ([],H):=rfl
theorem MP {v:Value} {vs:List V}:lV wl (.lit v::vs) H=bq (lV wl vs H) fun q=>some (.lit v::q.1,q.2):=rfl
theorem RI {r:List (List V)} {vs:List V}:lV wl (.ro r::vs) H=bq (lV wl vs H) fun q=>some (.ro r::q.1,q.2):=rfl
theorem IQ {vs:List V}:lV wl (.nil::vs) H=bq (lV wl vs H) fun q=>some (.ro []::q.1,q.2):=rfl
theorem Pm {f:Fn} {a b vs:List V}:lV wl (.fn f a b::vs) H=bq (lV wl vs H) fun q=>some (.fn f a b::q.1,q.2):=rfl
theorem LG {i g l:Nat} {vs:List V}:lV wl (.own i g l::vs) H=bq (fzB wl i g l H (H[i]?)) fun p=>bq (lV wl vs p.2) fun q=>some (p.1::q.1,q.2):=by
 show (fzC wl (.own i g l) H).bind _=_
 rw [oY]
 rfl
theorem LU {c vs:List V}:lV wl (.agg c::vs) H=bq (fzL wl true c H) fun p=>bq (lV wl vs p.2) fun q=>some (.agg p.1::q.1,q.2):=by
 show ((fzL wl true c H).bind _).bind _=_
 cases fzL wl true c H <;> rfl
theorem PY:fzL wl nl [] H=some ([],H):=rfl
theorem Qp {v:Value} {vs:List V}:fzL wl nl (.lit v::vs) H=bq (fzL wl nl vs H) fun q=>some (.lit v::q.1,q.2):=rfl
theorem VG {r:List (List V)} {vs:List V}:fzL wl nl (.ro r::vs) H=bq (fzL wl nl vs H) fun q=>some (.ro r::q.1,q.2):=rfl
theorem LN {vs:List V}:fzL wl true (.nil::vs) H=bq (fzL wl true vs H) fun q=>some (.ro []::q.1,q.2):=rfl
theorem V4 {f:Fn} {a b vs:List V}:fzL wl nl (.fn f a b::vs) H=bq (fzL wl nl vs H) fun q=>some (.fn f a b::q.1,q.2):=rfl
theorem Rq {i g r o:Nat} {vs:List V}:fzL wl nl (.ptr i g r o::vs) H=bq (fzL wl nl vs H) fun q=>some (.ptr i g r o::q.1,q.2):=rfl
theorem QG {i g l:Nat} {vs:List V}:fzL wl nl (.own i g l::vs) H=bq (fzB wl i g l H (H[i]?)) fun p=>bq (fzL wl nl vs p.2) fun q=>some (p.1::q.1,q.2):=by
 show (fzC wl (.own i g l) H).bind _=_
 rw [oY]
 rfl
theorem RR:mi wl [] H=some ([],H):=rfl
theorem OU {v:Value} {vs:List V}:mi wl (.lit v::vs) H=bq (mi wl vs H) fun q=>some (.lit v::q.1,q.2):=rfl
theorem Uq {r:List (List V)} {vs:List V}:mi wl (.ro r::vs) H=bq (mi wl vs H) fun q=>some (.ro r::q.1,q.2):=rfl
theorem LP {vs:List V}:mi wl (.nil::vs) H=bq (mi wl vs H) fun q=>some (.nil::q.1,q.2):=rfl
theorem U8 {f:Fn} {a b vs:List V}:mi wl (.fn f a b::vs) H=bq (mi wl vs H) fun q=>some (.fn f a b::q.1,q.2):=rfl
theorem Qe {i:Nat} {vs:List V}:mi wl (.yld i::vs) H=bq (mi wl vs H) fun q=>some (.yld i::q.1,q.2):=rfl
theorem Rm {i:Nat} {vs:List V}:mi wl (.map i::vs) H=bq (mi wl vs H) fun q=>some (.map i::q.1,q.2):=rfl
theorem QZ {i g r o:Nat} {vs:List V}:mi wl (.ptr i g r o::vs) H=bq (mi wl vs H) fun q=>some (.ptr i g r o::q.1,q.2):=rfl
theorem PD {i g l:Nat} {vs:List V}:mi wl (.own i g l::vs) H=bq (fzB wl i g l H (H[i]?)) fun p=>bq (mi wl vs p.2) fun q=>some (p.1::q.1,q.2):=by
 show (fzC wl (.own i g l) H).bind _=_
 rw [oY]
 rfl
theorem Qy {c vs:List V}:mi wl (.agg c::vs) H=bq (fzL wl true c H) fun p=>bq (mi wl vs p.2) fun q=>some (.agg p.1::q.1,q.2):=by
 show ((fzL wl true c H).bind _).bind _=_
 cases fzL wl true c H <;> rfl
theorem ai4 {i g len e g':Nat} {rs:List (List V)} {lv:Bool}:fzB wl i g len H (some (.rows e rs g' lv))=sif (g==g'&&(cW rs&&Nat.ble wl i)) (ck (decide (len≤rs.length)) (some (.ro (rs.take len),H.set i (.rows e rs g' false)))) none:=by
 show (bif g==g'&&decide (len≤rs.length)&&(cW rs&&Nat.ble wl i) then _ else _)=_
 generalize (g==g')=a
 generalize decide (len≤rs.length)=b
 generalize (cW rs&&Nat.ble wl i)=c
 cases a <;> cases b <;> cases c <;> rfl
end fz
theorem Pu {α:Type} {l:List α} {n:Nat} (h:l.length=n):l.take n=l:=List.take_of_length_le (by omega)
theorem Kt:cW []=true:=rfl
theorem I5 {r:List V} {rs:List (List V)}:cW (r::rs)=(bn r&&cW rs):=rfl
def E1 (n:Nat):Hp→Hp
 | []=>[]
 | b::H=>b.kill n::E1 n H
def pV (n:Nat):Hp→Hp
 | []=>[]
 | b::H=>b.shift n::pV n H
theorem HE {n:Nat}:∀ {H:Hp},H.map (B.kill n)=E1 n H
 | []=>rfl
 | b::H=>by simp [E1,HE (H:=H)]
theorem uW {n:Nat}:∀ {H:Hp},H.map (B.shift n)=pV n H
 | []=>rfl
 | b::H=>by simp [pV,uW (H:=H)]
theorem Yp {n:Nat} {H:Hp}:cg n H=E1 n (H.take n):=HE
theorem KM {n:Nat}:E1 n []=[]:=rfl
theorem JP {n:Nat} {b:B} {H:Hp}:E1 n (b::H)=b.kill n::E1 n H:=rfl
theorem IH {n:Nat}:pV n []=[]:=rfl
theorem FH {n:Nat} {b:B} {H:Hp}:pV n (b::H)=b.shift n::pV n H:=rfl
theorem FW {n:Nat} {st:LoopState} {pe:Option Code} {f:FuncId} {ts:List V} {ps:List Tmp} {a b:Code}:B.kill n (.loop ⟨st,pe,f,ts,ps,a,b⟩) = .loop ⟨st,pe,f,kx n ts,ps,a,b⟩:=rfl
def nsh (H:Hp) (v:V) (H2:Hp):Res:=sif (decide (H.length≤H2.length)) (some (v,H2)) none
theorem SO {H H2:Hp} {v:V}:cS H (v,H2)=nsh H v H2:=by
 unfold cS nsh sif
 by_cases h:H.length≤H2.length
 ·simp [h]
 ·simp [h]
theorem ait {n m:Nat}:Nat.ble n m=decide (n≤m):=by
 have h:(Nat.ble n m=true)=(n≤m):=Nat.ble_eq
 cases hb:Nat.ble n m with
 | true=>
  rw [hb] at h
  exact (decide_eq_true (h.mp rfl)).symm
 | false=>
  rw [hb] at h
  exact (decide_eq_false (fun e=>Bool.noConfusion (h.mpr e))).symm
theorem BG {H:Hp} {c:Bool} {x y:V×Hp}:cS H (sif c x y)=sif c (cS H x) (cS H y):=by cases c <;> rfl
def ldQ (H H':Hp) (q:V×Hp):Res:=cS H (q.1.shift H'.length,bif (q.1.shift H'.length).scal then H else H'++q.2.map (B.shift H'.length))
theorem SQ {H H':Hp} {v:V} {h:Hp}:ldQ H H' (v,h)=nsh H (v.shift H'.length) (sif (v.shift H'.length).scal H (H'++pV H'.length h)):=by
 unfold ldQ
 rw [SO,uW]
 rfl
theorem UR {H H':Hp} {v:Value} {h:Hp}:ldQ H H' (.lit v,h)=some (.lit v,H):=by
 rw [SQ]
 simp [nsh,sif,V.shift,V.scal]
def ldP (H:Hp) (q:V×Hp):Res:=some (q.1.shift H.length,H++q.2.map (B.shift H.length))
theorem acQ {H:Hp} {v:V} {h:Hp}:ldP H (v,h)=some (v.shift H.length,H++pV H.length h):=by
 unfold ldP
 rw [uW]
theorem uX {cx:Cx} {g:FuncId} {args:List V} {H:Hp}:ij cx g args H=bq (nQ cx g args) (ldP H):=by
 unfold ij nQ bq ldP
 cases h:cx.call 0 g args [] with
 | none=>rfl
 | some p=>rfl
theorem Lk {cx:Cx} {o:Bool} {g:FuncId} {first caps args:List V} {H:Hp} :
  cI cx false o (.fn (.func g) first caps) args H=bq (sif (cx.M.keepArg g) (some (first++args++caps,H)) (mi cx.wl (first++args++caps) H)) fun a=>
   sif (bn a.1) (bq (nQ cx g a.1) (ldQ H a.2))
    (bq (cx.call cx.wl g a.1 a.2) fun p=>bq (sif (cx.M.keepRes cx.fid g).isSome (some p) (fzR cx.wl p.1 p.2)) fun q=>cS H (sif q.1.pure (q.1,cg a.2.length q.2) q)):=by
 unfold cI By
 simp only [Bool.false_eq_true,if_false]
 have e1:(if cx.M.keepArg g=true then some (first++args++caps,H) else mi cx.wl (first++args++caps) H)=sif (cx.M.keepArg g) (some (first++args++caps,H)) (mi cx.wl (first++args++caps) H):=by
  cases cx.M.keepArg g <;> rfl
 rw [e1]
 unfold bq
 cases sif (cx.M.keepArg g) (some (first++args++caps,H)) (mi cx.wl (first++args++caps) H) with
 | none=>rfl
 | some a=>
  simp only [Option.bind_some]
  cases hp:bn a.1 with
  | true=>
   simp only [if_true,mV,uX]
   unfold bq
   cases nQ cx g a.1 <;> rfl
  | false=>
   simp only [Bool.false_eq_true,if_false,mG]
   cases cx.call cx.wl g a.1 a.2 with
   | none=>rfl
   | some p=>
    simp only [Option.bind_some]
    have e2:(if (cx.M.keepRes cx.fid g).isSome=true then some p else fzR cx.wl p.1 p.2)=sif (cx.M.keepRes cx.fid g).isSome (some p) (fzR cx.wl p.1 p.2):=by
     cases (cx.M.keepRes cx.fid g).isSome <;> rfl
    rw [e2]
    cases sif (cx.M.keepRes cx.fid g).isSome (some p) (fzR cx.wl p.1 p.2) with
    | none=>rfl
    | some q=>
     simp only [Option.bind_some]
     cases hq:q.1.pure <;> simp [sif]
theorem IE {cx:Cx} {g:FuncId} {first caps args:List V} {H:Hp} :
  cI cx true true (.fn (.func g) first caps) args H =
   sif (bn (first++args++caps)) (bq (nQ cx g (first++args++caps)) (ldP H)) (sif (cx.M.keepArg g) none (bq (mi cx.wl (first++args++caps) H) fun a=>
    sif (bn a.1) (bq (nQ cx g a.1) fun q=>bq (ldP a.2 q) fun q=>some (q.1,sif q.1.scal H q.2)) (bq (cx.call a.2.length g a.1 a.2) fun p=>sif p.1.scal (some (p.1,H)) none))):=by
 unfold cI ig
 simp only [if_true,uX]
 cases bn (first++args++caps) with
 | true=>rfl
 | false=>
  simp only [Bool.false_eq_true,if_false,mG]
  cases cx.M.keepArg g with
  | true=>rfl
  | false=>
   simp only [Bool.false_eq_true,if_false,mG]
   unfold bq
   cases mi cx.wl (first++args++caps) H with
   | none=>rfl
   | some a=>
    simp only [Option.bind_some]
    cases bn a.1 with
    | true=>
     simp only [if_true,mV]
     cases nQ cx g a.1 <;> rfl
    | false=>
     simp only [Bool.false_eq_true,if_false,mG]
     cases cx.call a.2.length g a.1 a.2 with
     | none=>rfl
     | some p=>
      simp only [Option.bind_some]
      cases hs:p.1.scal <;> simp [sif]
theorem Jy {cx:Cx} {g:FuncId} {first caps args:List V} {H:Hp} :
  cI cx true false (.fn (.func g) first caps) args H=sif (bn (first++args++caps)) (bq (bq (cx.call 0 g (first++args++caps) []) fun p=>lN none p.1 p.2) fun q=>sif q.1.pure (some (q.1,H)) none) none:=by
 unfold cI ig
 simp only [if_true,Bool.false_eq_true,if_false]
 cases bn (first++args++caps) with
 | false=>rfl
 | true=>
  simp only [if_true,mV]
  unfold bq
  cases cx.call 0 g (first++args++caps) [] with
  | none=>rfl
  | some p=>
   simp only [Option.bind_some,DJ]
   unfold rtN bq
   cases fzR 0 p.1 p.2 with
   | none=>rfl
   | some q=>
    simp only [Option.bind_some]
    cases hq:q.1.pure <;> simp [sif,hq]
section rounds
variable {P:Program} {M:Mode}
def yB (P:Program) (M:Mode) (k wl id:Nat) (args:List V) (H:Hp):Option B→Res
 | some (.loop l)=>Dx { P,M,fid:=l.fn,round:=true,wl,call:=evF P M k,yld:=evY P M k,n:=k } id l args H
 | _=>none
theorem T0 {k wl id:Nat} {args:List V} {H:Hp}:evY P M (k+1) wl id args H=yB P M k wl id args H (H[id]?):=by
 unfold yB
 simp only [evY]
 generalize H[id]? = b
 cases b with
 | none=>rfl
 | some b=>cases b <;> rfl
theorem Qi {k wl id:Nat} {args:List V} {H:Hp} {pe:Option Code} {f:FuncId} {ts:List V} {ps:List Tmp} {a b:Code} :
  yB P M k wl id args H (some (.loop ⟨.ready,pe,f,ts,ps,a,b⟩))=sif (decide (args.length=ps.length)&&Nat.ble wl id)
   (av { P,M,fid:=f,round:=true,wl,call:=evF P M k,yld:=evY P M k,n:=k } (asK { P,M,fid:=f,round:=true,wl,call:=evF P M k,yld:=evY P M k,n:=k } id H.length b) [.seq a] .norm ⟨dY ts ps args,H⟩) none:=by
 unfold yB Dx
 by_cases h:args.length=ps.length
 ·cases hw:Nat.ble wl id with
  | true=>
   simp only [h,hw,and_self,if_true,decide_true,Bool.and_self,mV]
   show bd _ a none _ _=bd _ a none (av _ _ []) _
   congr 1
  | false=>simp [hw,sif]
 ·simp [h,sif]
def asB (cx:Cx) (id n:Nat) (body:Code) (env:List V) (H:Hp):Option B→Res
 | some (.loop l)=>if l.st = .ready then av cx (bdK id n) [.seq body] .norm ⟨env,H.set id (.loop { l with st := .busy })⟩ else none
 | _=>none
theorem X3 {cx:Cx} {id n:Nat} {body:Code} {env:List V} {H:Hp}:asK cx id n body .norm ⟨env,H⟩=asB cx id n body env H (H[id]?):=by
 unfold asK asB
 rfl
theorem Nx {cx:Cx} {id n:Nat} {body:Code} {env:List V} {H:Hp} {pe:Option Code} {f:FuncId} {ts:List V} {ps:List Tmp} {a b:Code} :
  asB cx id n body env H (some (.loop ⟨.ready,pe,f,ts,ps,a,b⟩))=av cx (bdK id n) [.seq body] .norm ⟨env,H.set id (.loop ⟨.busy,pe,f,ts,ps,a,b⟩)⟩:=rfl
def bdB (id n:Nat) (o:Out) (H:Hp):Option B→Res
 | some (.loop l)=>some (.lit (.bool (dF o).isNone),cg n (H.set id (.loop { l with st:=if (dF o).isNone then .ready else .done,pending:=dF o })))
 | _=>none
theorem XA {id n:Nat} {o:Out} {env:List V} {H:Hp}:bdK id n o ⟨env,H⟩=bdB id n o H (H[id]?):=by
 unfold bdK bdB
 rfl
section
variable {id n:Nat} {H:Hp} {st:LoopState} {pe:Option Code} {f:FuncId} {ts:List V} {ps:List Tmp} {a b:Code}
theorem QP:bdB id n .norm H (some (.loop ⟨st,pe,f,ts,ps,a,b⟩))=some (.lit (.bool true),cg n (H.set id (.loop ⟨.ready,none,f,ts,ps,a,b⟩))):=rfl
theorem Yf:bdB id n .ret H (some (.loop ⟨st,pe,f,ts,ps,a,b⟩))=some (.lit (.bool false),cg n (H.set id (.loop ⟨.done,some .ret,f,ts,ps,a,b⟩))):=rfl
theorem Rv {i:Nat}:bdB id n (.exit i) H (some (.loop ⟨st,pe,f,ts,ps,a,b⟩))=some (.lit (.bool false),cg n (H.set id (.loop ⟨.done,some (.exit i),f,ts,ps,a,b⟩))):=rfl
theorem Pa {i:Nat}:bdB id n (.goto i) H (some (.loop ⟨st,pe,f,ts,ps,a,b⟩))=some (.lit (.bool false),cg n (H.set id (.loop ⟨.done,some (.goto i),f,ts,ps,a,b⟩))):=rfl
def rfB (K:Out→St→Res) (env:List V) (H:Hp):Option B→Res
 | some (.loop l)=>if l.st = .busy then none else
  match l.pending with
  | none=>K .norm ⟨env,H⟩
  | some .ret=>K .ret ⟨env,H⟩
  | some (.exit id)=>K (.exit id) ⟨env,H⟩
  | some (.goto id)=>K (.goto id) ⟨env,H⟩
  | some _=>none
 | _=>none
theorem Uw {K:Out→St→Res} {env:List V} {v:V} {h:Hp}:rfK K env n (v,h)=rfB K env (cg n h) (h[n]?):=by
 unfold rfK rfB
 rfl
theorem RO {K:Out→St→Res} {env:List V}:rfB K env H (some (.loop ⟨.ready,none,f,ts,ps,a,b⟩))=K .norm ⟨env,H⟩:=rfl
theorem LI {K:Out→St→Res} {env:List V}:rfB K env H (some (.loop ⟨.done,none,f,ts,ps,a,b⟩))=K .norm ⟨env,H⟩:=rfl
theorem XP {K:Out→St→Res} {env:List V}:rfB K env H (some (.loop ⟨.done,some .ret,f,ts,ps,a,b⟩))=K .ret ⟨env,H⟩:=rfl
theorem R4 {K:Out→St→Res} {env:List V} {i:Nat}:rfB K env H (some (.loop ⟨.done,some (.exit i),f,ts,ps,a,b⟩))=K (.exit i) ⟨env,H⟩:=rfl
theorem Oo {K:Out→St→Res} {env:List V} {i:Nat}:rfB K env H (some (.loop ⟨.done,some (.goto i),f,ts,ps,a,b⟩))=K (.goto i) ⟨env,H⟩:=rfl
end
def rgC (cx:Cx) (ps:List Tmp) (a b:Code) (K:Out→St→Res) (env:List V) (H:Hp):V→Res
 | .fn (.func g) [] caps=>bq (cx.call cx.wl g (.yld H.length::caps) (H++[.loop ⟨.ready,none,cx.fid,env,ps,a,b⟩])) (rfK K env H.length)
 | _=>none
theorem acN {cx:Cx} {ps:List Tmp} {a b:Code} {K:Out→St→Res} {env:List V} {H:Hp} {g:FuncId} {caps:List V} :
  rgC cx ps a b K env H (.fn (.func g) [] caps)=bq (cx.call cx.wl g (.yld H.length::caps) (H++[.loop ⟨.ready,none,cx.fid,env,ps,a,b⟩])) (rfK K env H.length):=rfl
theorem Pg {cx:Cx} {f:Operand} {ps:Array Tmp} {a b:Code} {K:Out→St→Res} {env:List V} {H:Hp} (hr:cx.round=false) :
  bd cx (.rangeFunc f ps a b) none K ⟨env,H⟩=sif (Nat.ble cx.wl H.length) (bq (evO env f) (rgC cx ps.toList a b K env H)) none:=by
 simp only [bd,hr,Bool.false_or]
 cases hw:Nat.ble cx.wl H.length with
 | false=>rfl
 | true=>
  simp only [Bool.not_true,Bool.false_eq_true,if_false,mV]
  cases hf:evO env f with
  | none=>rfl
  | some v=>
   simp only [bq,Option.bind_some]
   cases v with
   | fn f first caps=>
    cases f with
    | func g=>
     cases first with
     | nil=>
      simp only [rgC]
      unfold bq
      congr 1
     | cons=>rfl
    | _=>rfl
   | _=>rfl
end rounds
end Go.Ab
namespace Go.Ab
def oS:List V→List (Nat×Nat×V)→Option (List V)
 | cells,[]=>some cells
 | cells,(off,size,v)::rest=>
  match v.cells with
  | some vs=>if vs.length=size∧off+vs.length≤cells.length then oS (spl cells off vs) rest else none
  | none=>none
theorem Rj {cells:List V}:oS cells []=some cells:=rfl
theorem M0 {cells:List V} {off size:Nat} {v:V} {rest:List (Nat×Nat×V)}:oS cells ((off,size,v)::rest)=bq v.cells fun vs=>sif (decide (vs.length=size∧off+vs.length≤cells.length)) (oS (spl cells off vs) rest) none:=by
 simp only [oS]
 cases v.cells with
 | none=>rfl
 | some vs=>
  simp only [bq,Option.bind_some]
  by_cases h:vs.length=size∧off+vs.length≤cells.length
  ·rw [if_pos h,decide_eq_true h];rfl
  ·rw [if_neg h,decide_eq_false h];rfl
theorem K5 {wl size:Nat} {rs:List (List V)} {H:Hp}:fC wl size [] rs H=some (rs,H):=rfl
theorem Jf {wl size i:Nat} {v:V} {rest:List (Nat×V)} {rs:List (List V)} {H:Hp}:fC wl size ((i,v)::rest) rs H=bq v.cells fun vs=>bq (fzL wl true vs H) fun p=>sif (decide (i<rs.length∧p.1.length=size)) (fC wl size rest (rs.set i p.1) p.2) none:=by
 simp only [fC]
 cases v.cells with
 | none=>rfl
 | some vs=>
  simp only [bq,Option.bind_some]
  cases fzL wl true vs H with
  | none=>rfl
  | some p=>
   simp only [Option.bind_some]
   by_cases h:i<rs.length∧p.1.length=size
   ·rw [if_pos h,decide_eq_true h];rfl
   ·rw [if_neg h,decide_eq_false h];rfl
theorem M5 {x y:Int}:oW (.int .i64 x) (.int .i64 y)=(x==y):=rfl
theorem Jc {k:Value} {v:V}:gU k v []=[(k,v)]:=rfl
theorem Gj {k:Value} {v:V} {e:Value×V} {es:List (Value×V)}:gU k v (e::es)=sif (oW k e.1) ((k,v)::es) (e::gU k v es):=by
 simp only [gU]
 cases oW k e.1 <;> rfl
def NY (kk:IntKind):List (Value×V)→Bool
 | []=>true
 | e::es=>gS kk e.1&&NY kk es
theorem QA {kk:IntKind}:NY kk []=true:=rfl
theorem KH {kk:IntKind} {e:Value×V} {es:List (Value×V)}:NY kk (e::es)=(gS kk e.1&&NY kk es):=rfl
theorem FJ {x:Int}:gS .i64 (.int .i64 x)=true:=rfl
def inB (wl:Nat) (kk:IntKind) (id:Nat) (n:Int) (v:V) (H:Hp):Option B→Option Hp
 | some (.map es)=>if es.all (fun e=>gS kk e.1)&&true&&Nat.ble wl id then some (H.set id (.map (gU (.int kk n) v es))) else none
 | _=>none
theorem UU {kk:IntKind}:∀ {es:List (Value×V)},es.all (fun e=>gS kk e.1)=NY kk es
 | []=>rfl
 | e::es=>by simp [NY,UU (es:=es)]
theorem Ua {wl id:Nat} {kk:IntKind} {n:Int} {v:V} {H:Hp} {es:List (Value×V)}:inB wl kk id n v H (some (.map es))=sif (NY kk es&&Nat.ble wl id) (some (H.set id (.map (gU (.int kk n) v es)))) none:=by
 simp only [inB,UU,Bool.and_true]
 cases NY kk es&&Nat.ble wl id <;> rfl
def lkB (kk:IntKind) (z:V) (ok:Bool) (n:Int):Option B→Option V
 | some (.map es)=>if es.all (fun e=>gS kk e.1)&&true then some (bif ok then .tup [(gZ (.int kk n) z es).1,.lit (.bool (gZ (.int kk n) z es).2)] else (gZ (.int kk n) z es).1) else none
 | _=>none
def lkO (kk:IntKind) (z:V) (ok:Bool) (n:Int):List (Value×V)→Option V
 | []=>some (sif ok (.tup [z,.lit (.bool false)]) z)
 | e::es=>bif oW (.int kk n) e.1 then some (sif ok (.tup [e.2,.lit (.bool true)]) e.2) else lkO kk z ok n es
theorem Tp {kk:IntKind} {z:V} {ok:Bool} {n:Int}:∀ {es:List (Value×V)},some (bif ok then V.tup [(gZ (.int kk n) z es).1,.lit (.bool (gZ (.int kk n) z es).2)] else (gZ (.int kk n) z es).1)=lkO kk z ok n es
 | []=>by cases ok <;> rfl
 | e::es=>by
  simp only [gZ,lkO]
  cases oW (.int kk n) e.1 with
  | true=>cases ok <;> rfl
  | false=>exact Tp (es:=es)
theorem Yk {kk:IntKind} {z:V} {ok:Bool} {n:Int} {es:List (Value×V)}:lkB kk z ok n (some (.map es))=sif (NY kk es) (lkO kk z ok n es) none:=by
 simp only [lkB,UU,Bool.and_true,Tp]
 cases NY kk es <;> rfl
theorem U9 {kk:IntKind} {z:V} {ok:Bool} {n:Int}:lkO kk z ok n []=some (sif ok (.tup [z,.lit (.bool false)]) z):=rfl
theorem QF {kk:IntKind} {z:V} {ok:Bool} {n:Int} {e:Value×V} {es:List (Value×V)}:lkO kk z ok n (e::es)=bif oW (.int kk n) e.1 then some (sif ok (.tup [e.2,.lit (.bool true)]) e.2) else lkO kk z ok n es:=rfl
def agO:Int→List V→Int→Option V
 | _,[],_=>none
 | i,c::cs,n=>bif n==i then some c else agO (i+1) cs n
theorem Yc {i n:Int}:agO i [] n=none:=rfl
theorem QS {i n:Int} {c:V} {cs:List V}:agO i (c::cs) n=bif n==i then some c else agO (i+1) cs n:=rfl
theorem MC {p:Bool} {k:IntKind} {a b:Int}:aT (.lit (.bool p)) (.lit (.int k a)) (.lit (.int k b))=some (.lit (.int k (bif p then a else b))):=by cases p <;> rfl
theorem IT {p a b:Bool}:aT (.lit (.bool p)) (.lit (.bool a)) (.lit (.bool b))=some (.lit (.bool (bif p then a else b))):=by cases p <;> rfl
theorem Or {k:IntKind} {a b:Int}:iE true [.lit (.int k a),.lit (.int k b)]=some (.lit (.int k (bif decide (a<b) then b else a))):=by
 simp only [iE,if_true,cond_true,gt_iff_lt]
 by_cases h:a<b <;> simp [h]
theorem Rc {k:IntKind} {a b:Int}:iE false [.lit (.int k a),.lit (.int k b)]=some (.lit (.int k (bif decide (b<a) then b else a))):=by
 simp only [iE,if_true,cond_false]
 by_cases h:b<a <;> simp [h]
theorem IG {k:IntKind} {a:Int}:[[V.lit (.int k a)]]=[a].map (aN k):=rfl
theorem F3 {k:IntKind} {a b:Int}:[[V.lit (.int k a)],[V.lit (.int k b)]]=[a,b].map (aN k):=rfl
theorem EP {a b c:Int}:[[V.lit (.int .i64 a),.lit (.int .i64 b),.lit (.int .i64 c)]]=[(a,b,c)].map aZ:=rfl
def PV (k:IntKind) (a b:Int):Int:=k.wrap (a*2 ^ (min b.toNat k.bits))
def Sr (k:IntKind) (a b:Int):Int:=a.fdiv (2 ^ (min b.toNat k.bits))
def rJ (k:IntKind) (a b:Int):Int:=k.wrap (BitVec.ofInt k.bits a &&& BitVec.ofInt k.bits b).toNat
def orI (k:IntKind) (a b:Int):Int:=k.wrap (BitVec.ofInt k.bits a ||| BitVec.ofInt k.bits b).toNat
section
variable {P:Program} {t:TypeId} {k k':IntKind} {a b:Int}
theorem Pr:au P .shl t (.lit (.int k a)) (.lit (.int k' b))=bif decide (0≤b) then some (.lit (.int k (PV k a b))) else none:=by
 by_cases h:b<0
 ·have:¬ 0≤b:=by omega
  simp [au,eg,h,this]
 ·have h2:0≤b:=by omega
  simp [au,eg,h,h2,PV]
theorem Ox:au P .shr t (.lit (.int k a)) (.lit (.int k' b))=bif decide (0≤b) then some (.lit (.int k (Sr k a b))) else none:=by
 by_cases h:b<0
 ·have:¬ 0≤b:=by omega
  simp [au,eg,h,this]
 ·have h2:0≤b:=by omega
  simp [au,eg,h,h2,Sr]
theorem Ry:au P .and t (.lit (.int k a)) (.lit (.int k b))=some (.lit (.int k (rJ k a b))):=by simp [au,eg,rJ]
theorem Yy:au P .or t (.lit (.int k a)) (.lit (.int k b))=some (.lit (.int k (orI k a b))):=by simp [au,eg,orI]
end
end Go.Ab
namespace Go.Ab
theorem ajx {g len e g':Nat} {rs:List (List V)} {lv:Bool}:roB g len (some (.rows e rs g' lv))=sif (g==g') (ck (decide (len≤rs.length)) (some (rs.take len))) none:=by
 show (bif g==g'&&decide (len≤rs.length) then _ else _)=_
 generalize (g==g')=a
 generalize decide (len≤rs.length)=b
 cases a <;> cases b <;> rfl
theorem Q6 {f:Fn} {a b:List V} {H:Hp}:aP (.fn f a b) H=some (.ptr H.length 0 0 0,H++[.box [.fn f a b]]):=by simp [aP,V.cells,V.one,bE]
theorem Mt {i g n:Nat} {H:Hp}:aP (.own i g n) H=some (.ptr H.length 0 0 0,H++[.box [.own i g n]]):=by simp [aP,V.cells,V.one,bE]
theorem KO {i g r o:Nat} {H:Hp}:aP (.ptr i g r o) H=some (.ptr H.length 0 0 0,H++[.box [.ptr i g r o]]):=by simp [aP,V.cells,V.one,bE]
theorem VI {k:IntKind} {l:List Int}:cd 1 (l.map (aN k))=true:=d9 fun _=>rfl
theorem Qo {l:List Bool}:cd 1 (l.map mq)=true:=d9 fun _=>rfl
theorem Rf {l:Tyt}:cd 2 (l.map ap)=true:=d9 fun _=>rfl
theorem Ns {l:Tye}:cd 3 (l.map aZ)=true:=d9 fun _=>rfl
theorem JG {n:Nat}:cd n []=true:=rfl
theorem US {wl e sz bytes id g:Nat} {xs:List (List V)} {H:Hp} {lv:Bool} :
  apB wl e sz bytes id g 0 xs H (some (.rows 0 [] g lv))=sif (Nat.ble wl id) (bif room xs.length bytes then some (.own id (g+1) xs.length,H.set id (.rows sz xs (g+1) lv)) else none) none:=by
 cases hb:Nat.ble wl id <;> cases lv <;> simp [apB,hb,sif,room]
theorem Ni {α:Type} {wl e sz bytes id g len s:Nat} {l m:List α} {enc:α→List V} {H:Hp} :
  apB wl e sz bytes id g len (m.map enc) H (some (.rows s (l.map enc) g true)) =
   sif (Nat.ble wl id) (ck (decide (len≤l.length)) (ck (s==sz||s==0) (bif room (l.take len++m).length bytes then some (.own id (g+1) (l.take len++m).length,H.set id (.rows sz ((l.take len++m).map enc) (g+1) true)) else none))) none:=by
 by_cases h:len≤l.length
 ·have h1:(l.take len++m).length=len+m.length:=by simp [h]
  rw [decide_eq_true h,h1]
  simp only [apB,ct,List.length_map,beq_self_eq_true,Bool.and_true,Bool.true_or,decide_eq_true h,room,List.map_append,List.map_take]
  cases Nat.ble wl id <;> cases (s==sz||s==0) <;> simp [sif,ck]
 ·rw [decide_eq_false h,rO]
  simp [apB,decide_eq_false h,sif]
theorem L3 {α:Type} {l:List α} {enc:α→List V} {n:Nat}:(l.map enc).take n=(l.take n).map enc:=by rw [List.map_take]
theorem Jq {l:Tye} {i:Nat} {a b c:Int}:(l.map aZ).set i [.lit (.int .i64 a),.lit (.int .i64 b),.lit (.int .i64 c)]=(l.set i (a,b,c)).map aZ:=by rw [List.map_set];rfl
theorem LB {l:Tyt} {i:Nat} {a:Int} {b:List Int}:(l.map ap).set i [.lit (.int .i64 a),.ro (b.map (aN .i64))]=(l.set i (a,b)).map ap:=by rw [List.map_set];rfl
theorem Jg {l:Tyt} {i:Nat} {a:Int}:(l.map ap).set i [.lit (.int .i64 a),.ro []]=(l.set i (a,[])).map ap:=by rw [List.map_set];rfl
theorem Fc {a:Int} {b:List Int}:[[V.lit (.int .i64 a),.ro (b.map (aN .i64))]]=[(a,b)].map ap:=rfl
theorem D9 {a:Int}:[[V.lit (.int .i64 a),.ro []]]=[(a,[])].map ap:=rfl
def slB (g len id:Nat) (n:Int) (H:Hp):Option B→Option (V×Hp)
 | some (.rows _ _ g' _)=>if 0≤n then (if n.toNat≤len∧g=g' then some (.own id g n.toNat,H) else none) else none
 | _=>none
theorem Oz {g len id e g':Nat} {n:Int} {H:Hp} {rs:List (List V)} {lv:Bool}:slB g len id n H (some (.rows e rs g' lv))=sif (g==g') (ck (decide (0≤n∧n.toNat≤len)) (some (.own id g n.toNat,H))) none:=by
 unfold slB sif ck
 by_cases h0:0≤n
 ·by_cases h1:n.toNat≤len
  ·by_cases h2:g=g'
   ·simp [h0,h1,h2]
   ·simp [h0,h1,h2,beq_false_of_ne h2]
  ·simp [h0,h1]
 ·simp [h0]
theorem An {P : Program} {wl : Nat} {c : Bool} {t e : TypeId} {id g len : Nat} {k : IntKind} {n : Int} {H : Hp} (he : kz P t = some e) (hz : (aV P e != 0) = true) :
    dB P wl c t (.own id g len) none (some (.lit (.int k n))) none H = slB g len id n H (H[id]?) := by
  have hz' : aV P e ≠ 0 := by simpa using hz
  unfold dB slB
  simp only [he, bnd]
  by_cases h0 : 0 ≤ n
  · simp only [h0, if_true, Option.bind_some]
    generalize H[id]? = b
    cases b with
    | none => rfl
    | some b => cases b <;> simp [hz']
  · simp only [h0, if_false, Option.bind_none]
    generalize H[id]? = b
    cases b with
    | none => rfl
    | some b => cases b <;> rfl
end Go.Ab
namespace Go.Ab
end Go.Ab
namespace Go.Ab
theorem UN {env:List V} {t:Nat}:evO env (.tmp t)=env[t]? := rfl
theorem R8 {env:List V} {f:Nat}:evO env (.func f)=some (.fn (.func f) [] []):=rfl
theorem Bj {env vs:List V}:dY env [] vs=env:=by cases vs <;> rfl
theorem w9 {env vs:List V} {t:Tmp} {ts:List Tmp} {v:V}:dY env (t::ts) (v::vs)=dY (env.set t v) ts vs:=rfl
end Go.Ab
namespace Go.Ab
theorem Vg {n:Nat}:V.kill n uu=uu:=rfl
end Go.Ab
namespace Go.Ab
def aO {α:Type} (bytes:Nat) (l:List α):Option (List α):=ck (Nat.ble (l.length*bytes) 70368744177664) (some l)
section clone
variable {P:Program} {t e:TypeId} {α:Type} {enc:α→List V} {sz bytes:Nat}
theorem iv (he:kz P t=some e) (hz:∃ z,eZ P e=some z∧bg (bQ z)=true∧((bQ z).length==sz)=true) (hs:aV P e=sz) (hg:FB P e=true) (hb:P.bytesOf e=bytes) (hl:∀ x,(enc x).length=sz) (l:List α) :
  gX P t [.ro (l.map enc)] []=ob (aO bytes l) fun r=>some (.own 1 1 r.length,[.rows 0 [] 0 true,.rows sz (r.map enc) 1 true]):=by
 obtain ⟨z,z1,z2,z3⟩:=hz
 unfold gX
 simp only [he,Option.bind_some,z1,Dq,hs,hg,z2,z3,hb,d9 hl,Bool.and_true,Bool.true_and,List.length_map,List.length_nil,List.nil_append]
 unfold aO
 cases Nat.ble (l.length*bytes) 70368744177664 <;> rfl
theorem gA (hl:∀ x,bn (enc x)=true) (l:List α) (g:Nat) :
  rt none (ob (aO bytes l) fun r=>some (.own 1 1 r.length,[.rows 0 [] 0 true,.rows g (r.map enc) 1 true]))=ob (aO bytes l) fun r=>some (.ro (r.map enc),[]):=by
 rw [Ws]
 congr 1
 funext r
 rw [FV]
 exact OE (enc:=enc) (l:=r) (e:=g) (lv:=true) rfl rfl hl
theorem gn (hl:∀ x,bn (enc x)=true) (l:List α) (g:Nat) :
  rt (some fun _=>true) (ob (aO bytes l) fun r=>some (.own 1 1 r.length,[.rows 0 [] 0 true,.rows g (r.map enc) 1 true]))=ob (aO bytes l) fun r=>some (.own 0 0 r.length,[.rows g (r.map enc) 0 true]):=by
 rw [Ws]
 congr 1
 funext r
 have h1:cW (r.map enc)=true:=by
  rw [cW,List.all_eq_true]
  intro y hy
  obtain ⟨x,_,rfl⟩:=List.mem_map.1 hy
  exact hl x
 simp [FV,lN,I2,rC,h1]
 rw [List.take_of_length_le (by simp)]
end clone
end Go.Ab
namespace Go.Ab
theorem O0 {n0 i g r o:Nat} {k:Res}:stO n0 (.ptr i g r o) k=sif (decide (i<n0)) k none:=by
 unfold stO stB Hb sif
 simp only [Bool.cond_eq_ite]
theorem Rz {n0 i g l:Nat} {k:Res}:stO n0 (.own i g l) k=sif (decide (i<n0)) k none:=by
 unfold stO stB Hb sif
 simp only [Bool.cond_eq_ite]
theorem Q8 {n0 i:Nat} {k:Res}:stO n0 (.map i) k=sif (decide (i<n0)) k none:=by
 unfold stO stB Hb sif
 simp only [Bool.cond_eq_ite]
theorem Wg {n0:Nat} {r:List (List V)} {k:Res}:stO n0 (.ro r) k=k:=rfl
theorem Xs {n0:Nat} {r:List V} {k:Res}:stO n0 (.rp r) k=k:=rfl
theorem Oi {n0:Nat} {v:Value} {k:Res}:stO n0 (.lit v) k=k:=rfl
theorem Yu {n0:Nat} {f:Fn} {a b:List V} {k:Res}:stO n0 (.fn f a b) k=k:=rfl
theorem Ri {n0:Nat} {k:Res}:stO n0 .nil k=k:=rfl
def uF (n:Nat):List (Value×V)→List (Value×V)
 | []=>[]
 | e::es=>(e.1,e.2.shift n)::uF n es
def E0 (n:Nat):List (Value×V)→List (Value×V)
 | []=>[]
 | e::es=>(e.1,e.2.kill n)::E0 n es
theorem Hg {n:Nat}:∀ {es:List (Value×V)},es.map (fun e=>(e.1,e.2.kill n))=E0 n es
 | []=>rfl
 | e::es=>by simp [E0,Hg (es:=es)]
theorem Dp {n:Nat}:∀ {es:List (Value×V)},es.map (fun e=>(e.1,e.2.shift n))=uF n es
 | []=>rfl
 | e::es=>by simp [uF,Dp (es:=es)]
theorem I4 {n:Nat} {es:List (Value×V)}:B.kill n (.map es) = .map (E0 n es):=by
 rw [← Hg]
 rfl
theorem F0 {n:Nat} {es:List (Value×V)}:B.shift n (.map es) = .map (uF n es):=by
 rw [← Dp]
 rfl
theorem MO {n:Nat}:E0 n []=[]:=rfl
theorem JO {n:Nat} {e:Value×V} {es:List (Value×V)}:E0 n (e::es)=(e.1,e.2.kill n)::E0 n es:=rfl
theorem IN {n:Nat}:uF n []=[]:=rfl
theorem Fl {n:Nat} {e:Value×V} {es:List (Value×V)}:uF n (e::es)=(e.1,e.2.shift n)::uF n es:=rfl
end Go.Ab
namespace Go.Ab
theorem M1 {H:Hp}:aP .nil H=some (.ptr (H++[B.rows 0 [] 0 true]).length 0 0 0,(H++[B.rows 0 [] 0 true])++[.box [.own H.length 0 0]]):=by simp [aP,V.cells,V.one,bE]
theorem MN {i:Nat} {H:Hp}:aP (.yld i) H=some (.ptr H.length 0 0 0,H++[.box [.yld i]]):=by simp [aP,V.cells,V.one,bE]
theorem Kc {i:Nat} {H:Hp}:aP (.map i) H=some (.ptr H.length 0 0 0,H++[.box [.map i]]):=by simp [aP,V.cells,V.one,bE]
theorem PH {i:Nat} {l:List V} {H:Hp}:bE (.yld i::l) H=(.yld i::(bE l H).1,(bE l H).2):=rfl
theorem Rr {i:Nat} {l:List V} {H:Hp}:bE (.map i::l) H=(.map i::(bE l H).1,(bE l H).2):=rfl
theorem MS {i:Nat}:V.cells (.yld i)=some [.yld i]:=rfl
theorem LQ {i:Nat}:V.cells (.map i)=some [.map i]:=rfl
end Go.Ab
namespace Go.Ab
open Go
def SR:List (Nat×V)→Bool
 | []=>true
 | p::l=>p.2.pure&&SR l
theorem Qq:SR []=true:=rfl
theorem Ml {i:Nat} {v:V} {l:List (Nat×V)}:SR ((i,v)::l)=(v.pure&&SR l):=rfl
theorem X9 {l:List (Nat×V)}:bn (l.map (·.2))=SR l:=by
 induction l with
 | nil=>rfl
 | cons p l ih=>simp only [List.map_cons,bn,SR,ih]
theorem ry {P:Program} {wl:Nat} {t:TypeId} {len:Nat} {l:List (Nat×V)} {H:Hp} :
  di P wl t len l H=bq (ck (SR l) (some ())) fun _=>aD P wl t len l H:=by
 unfold di
 rw [X9]
 cases SR l <;> simp [bq,ck]
def ldL (P:Program) (t:TypeId) (off row:Nat):Nat→List (List V)→Option V
 | _,[]=>none
 | i,r::rs=>bif row==i then aW P t (r.drop off) else ldL P t off row (i+1) rs
theorem UZ {P:Program} {t:TypeId} {off row i:Nat}:ldL P t off row i []=none:=rfl
theorem Qz {P:Program} {t:TypeId} {off row i:Nat} {r:List V} {rs:List (List V)}:ldL P t off row i (r::rs)=bif row==i then aW P t (r.drop off) else ldL P t off row (i+1) rs:=rfl
theorem SV {P:Program} {t:TypeId} {off row:Nat}:∀ {rs:List (List V)} {i:Nat},i≤row→ldL P t off row i rs=(rs[row - i]?).bind fun r=>aW P t (r.drop off)
 | [],i,_=>by simp [ldL]
 | r::rs,i,h=>by
  rw [ldL]
  by_cases e:row=i
  ·subst e;simp
  ·have h1:(row==i)=false:=by simp [e]
   have h2:row - i=(row - (i+1))+1:=by omega
   rw [h1,cond_false,SV (by omega),h2,List.getElem?_cons_succ]
theorem Xj {P:Program} {t:TypeId} {g row off e g':Nat} {r:List V} {rs:List (List V)} {lv:Bool} :
  ldB P t g row off (some (.rows e (r::rs) g' lv))=sif (g==g') (ldL P t off row 0 (r::rs)) none:=by
 rw [SV (Nat.zero_le _),Nat.sub_zero]
 rfl
def Lv (x:Int×Int×Int×Int):List V:=[.lit (.int .i64 x.1),.lit (.int .i64 x.2.1),.lit (.int .i64 x.2.2.1),.lit (.int .i64 x.2.2.2)]
def ma (x:Int×Int×Int×Int×Int×Int×Int):List V:=
 [.lit (.int .i64 x.1),.lit (.int .i64 x.2.1),.lit (.int .i64 x.2.2.1),.lit (.int .u64 x.2.2.2.1),.lit (.int .u64 x.2.2.2.2.1),.lit (.int .u64 x.2.2.2.2.2.1),.lit (.int .i64 x.2.2.2.2.2.2)]
def dG (x:List Int):List V:=[.ro (x.map (aN .i64))]
theorem nt (x:Int×Int×Int×Int×Int×Int×Int):bn (ma x)=true:=rfl
theorem o9 (x:List Int):bn (dG x)=true:=by
 have:=rT (k := .i64) (l:=x)
 simp [dG,bn,V.pure,this]
section
variable {lf:List (Int×Int×Int×Int×Int×Int×Int)} {ll:List (List Int)} {n i:Nat} {a b c d e f g:Int} {x:List Int}
theorem Fv:cW (lf.map ma)=true:=eM nt
theorem JB:cW (ll.map dG)=true:=eM o9
theorem FK:lM n (lf.map ma)=lf.map ma:=f9 nt
theorem JK:lM n (ll.map dG)=ll.map dG:=f9 o9
theorem C6:iU n (lf.map ma)=lf.map ma:=eN nt
theorem Fs:iU n (ll.map dG)=ll.map dG:=eN o9
theorem Mb:cd 7 (lf.map ma)=true:=d9 fun _=>rfl
theorem Rn:cd 1 (ll.map dG)=true:=d9 fun _=>rfl
theorem Jm:(lf.map ma).set i [.lit (.int .i64 a),.lit (.int .i64 b),.lit (.int .i64 c),.lit (.int .u64 d),.lit (.int .u64 e),.lit (.int .u64 f),.lit (.int .i64 g)]=(lf.set i (a,b,c,d,e,f,g)).map ma:=by rw [List.map_set];rfl
theorem DW:[[V.lit (.int .i64 a),.lit (.int .i64 b),.lit (.int .i64 c),.lit (.int .u64 d),.lit (.int .u64 e),.lit (.int .u64 f),.lit (.int .i64 g)]]=[(a,b,c,d,e,f,g)].map ma:=rfl
theorem ND:(ll.map dG).set i [.ro (x.map (aN .i64))]=(ll.set i x).map dG:=by rw [List.map_set];rfl
theorem Jv:(ll.map dG).set i [.ro []]=(ll.set i []).map dG:=by rw [List.map_set];rfl
theorem E2:[[V.ro (x.map (aN .i64))]]=[x].map dG:=rfl
theorem CM:[[V.ro []]]=[([]:List Int)].map dG:=rfl
theorem JE:List.replicate n [V.lit (.int .i64 a),.lit (.int .i64 b),.lit (.int .i64 c),.lit (.int .u64 d),.lit (.int .u64 e),.lit (.int .u64 f),.lit (.int .i64 g)]=(List.replicate n (a,b,c,d,e,f,g)).map ma:=by rw [List.map_replicate];rfl
end
theorem M3 {k:IntKind} {x y:Int}:oW (.int k x) (.int k y)=(x==y):=by
 cases k <;> rfl
theorem GB {k:IntKind} {x:Int}:gS k (.int k x)=true:=by
 cases k <;> rfl
theorem M2 {cx:Cx} {c o:Bool} {v:Value} {args:List V} {H:Hp}:cI cx c o (.lit v) args H=none:=rfl
end Go.Ab
namespace Go.Ab
section steps
variable {cx:Cx} {K:Out→St→Res} {s:St} {r:Res} {id j n0:Nat} {ops:Array Oper} {a a':List Nat×List Nat} {env:List V} {H:Hp} {o:Oper} {i:Nat} {L:List Nat}
end steps
def apA:List Nat→List Nat→Bool
 | [],_=>true
 | i::l,m => !(inN i m)&&apA l m
where inN:Nat→List Nat→Bool
 | _,[]=>false
 | i,k::m=>i==k||inN i m
theorem Tw {i:Nat}:∀ {m:List Nat},apA.inN i m=m.contains i
 | []=>rfl
 | k::m=>by
  rw [apA.inN,Tw,List.contains_cons]
theorem TF:∀ {l m:List Nat},u6 (l,m)=apA l m
 | [],m=>rfl
 | i::l,m=>by
  have:=TF (l:=l) (m:=m)
  unfold u6 at this ⊢
  simp only [List.all_cons] at this ⊢
  rw [this,apA,Tw]
theorem abT {l m:List Nat} {k:Res}:apt (l,m) k=sif (apA l m) k none:=by
 unfold apt sif
 rw [TF,Bool.cond_eq_ite]
theorem VE {m:List Nat}:apA [] m=true:=rfl
theorem O4 {i:Nat} {l m:List Nat}:apA (i::l) m=(!(apA.inN i m)&&apA l m):=rfl
theorem XO {i:Nat}:apA.inN i []=false:=rfl
theorem QV {i k:Nat} {m:List Nat}:apA.inN i (k::m)=(i==k||apA.inN i m):=rfl
theorem Ya {i g n:Nat} {l m:List Nat}:lgR (.own i g n) (l,m)=(i::l,m):=rfl
theorem Xe {i g x y:Nat} {l m:List Nat}:lgR (.ptr i g x y) (l,m)=(i::l,m):=rfl
theorem VU {i:Nat} {l m:List Nat}:lgR (.map i) (l,m)=(i::l,m):=rfl
theorem aae {rs:List (List V)} {l m:List Nat}:lgR (.ro rs) (l,m)=(l,m):=rfl
theorem ZZ {rs:List V} {l m:List Nat}:lgR (.rp rs) (l,m)=(l,m):=rfl
theorem Ul {l m:List Nat}:lgR .nil (l,m)=(l,m):=rfl
theorem YA {v:Value} {l m:List Nat}:lgR (.lit v) (l,m)=(l,m):=rfl
theorem Um {i g n:Nat} {l m:List Nat}:lgW (.own i g n) (l,m)=(l,i::m):=rfl
theorem Wy {i g x y:Nat} {l m:List Nat}:lgW (.ptr i g x y) (l,m)=(l,i::m):=rfl
theorem W5 {i:Nat} {l m:List Nat}:lgW (.map i) (l,m)=(l,i::m):=rfl
theorem Xq {α:Type} {x:α}:[x].length=1:=rfl
end Go.Ab
set_option maxRecDepth 100000
namespace Go.Ab
def ah9:=PLift.up (aI (aI (aI (aI @XY @VP) (aI @UC (aI @Xr @Wr))) (aI (aI @V6 (aI @afh @aiW)) (aI @ajd (aI @ct @rO)))) (aI (aI (aI @ae (aI @V7 @XV)) (aI @WY (aI @mV @mG))) (aI (aI @UR (aI @MC @IT)) (aI @US (aI @cond_true.{1} @cond_false.{1})))))
theorem syP:type_of% ah9.down:=ah9.down
def ail:=PLift.up (aI (aI (aI (aI (aI (aI (aI (aI @LE @abQ) (aI @ZO @abX)) (aI (aI @aa2 @WO) (aI @YQ (aI @Yo @adF)))) (aI (aI (aI @Ui @YY) (aI @abx (aI @acH @VQ))) (aI (aI @ahp @ahI) (aI @abG (aI @VT @acg))))) (aI (aI (aI (aI @ahP @agI) (aI @WI @aea)) (aI (aI @aaO @af7) (aI @agE (aI @ahV @Xv)))) (aI (aI (aI @Uc @X4) (aI @ae4 (aI @ahj @af5))) (aI (aI @X2 @FV) (aI @TX (aI @Ws @ag8)))))) (aI (aI (aI (aI (aI @NQ @OM) (aI @UO @Ud)) (aI (aI @Ym @Ww) (aI @Vz (aI @abo @U4)))) (aI (aI (aI @Vx @XU) (aI @acK (aI @WP @acC))) (aI (aI @W9 @XJ) (aI @WV (aI @Vu @KI))))) (aI (aI (aI (aI @MP @RI) (aI @IQ @Pm)) (aI (aI @LG @LU) (aI @PY (aI @Qp @VG)))) (aI (aI (aI @LN @V4) (aI @Rq (aI @QG @RR))) (aI (aI @OU @Uq) (aI @LP (aI @U8 @Qe))))))) (aI (aI (aI (aI (aI (aI @Rm @QZ) (aI @PD @Qy)) (aI (aI @ai4 @ai1) (aI @ait (aI @L3 @Pu)))) (aI (aI (aI @Oz @Kt) (aI @I5 (aI @rT @JD))) (aI (aI @Gl @Jr) (aI @Yp (aI @KM @JP))))) (aI (aI (aI (aI @IH @FH) (aI @I4 @F0)) (aI (aI @MO @JO) (aI @IN (aI @Fl @O0)))) (aI (aI (aI @Rz @Q8) (aI @Wg (aI @Xs @Oi))) (aI (aI @Yu @Ri) (aI @FW (aI @KC @IF)))))) (aI (aI (aI (aI (aI @I7 @Jp) (aI @Fe @Lt)) (aI (aI @KN @I1) (aI @IR (aI @FZ @IU)))) (aI (aI (aI @Jx @Fa) (aI @FF (aI @ES @BG))) (aI (aI @SO @SQ) (aI @acQ (aI @UN @R8))))) (aI (aI (aI (aI @Bj @w9) (aI @X3 @Nx)) (aI (aI @XA @QP) (aI @Yf (aI @Rv @Pa)))) (aI (aI (aI @Uw @RO) (aI @LI (aI @XP @R4))) (aI (aI @Oo @Rj) (aI @M0 (aI @K5 @Jf)))))))) (aI (aI (aI (aI (aI (aI (aI @M5 @Jc) (aI @Gj @QA)) (aI (aI @KH @FJ) (aI @Ua (aI @Yk @U9)))) (aI (aI (aI @QF @Yc) (aI @QS (aI @PR @OA))) (aI (aI @Sb @Pi) (aI @Pp (aI @OJ @P6))))) (aI (aI (aI (aI @Rx @Qa) (aI @Q0 @RE)) (aI (aI @LH @LS) (aI @Pr (aI @Ox @Ry)))) (aI (aI (aI @Yy @Wb) (aI @WN (aI @WU @Or))) (aI (aI @Rc @IO) (aI @IL (aI @JX @QQ)))))) (aI (aI (aI (aI (aI @MR @Ur) (aI @RL @JH)) (aI (aI @P9 @Yj) (aI @Sf (aI @Ot @Oy)))) (aI (aI (aI @KT @I3) (aI @Pq (aI @Km @M1))) (aI (aI @MN @Kc) (aI @PH (aI @Rr @MS))))) (aI (aI (aI (aI @LQ @Q6) (aI @Mt @KO)) (aI (aI @Rk @Pk) (aI @Wd (aI @Qh @Q4)))) (aI (aI (aI @Wj @K3) (aI @Nk (aI @Je @PC))) (aI (aI @LM @Mr) (aI @Pf (aI @Mw @NO))))))) (aI (aI (aI (aI (aI (aI @Qj @Xt) (aI @U5 @Vg)) (aI (aI @Q3 @Dq) (aI @Js (aI @Is @ajx)))) (aI (aI (aI @VI @Rf) (aI @Ns (aI @Qo @JG))) (aI (aI @Ni @Jq) (aI @LB (aI @Jg @Fc))))) (aI (aI (aI (aI @D9 @NF) (aI @QU @MD)) (aI (aI @RH @QE) (aI @IG (aI @F3 @EP)))) (aI (aI (aI @List.length_map.{0,0} @List.length_cons.{0}) (aI @List.length_nil.{0} (aI @List.length_replicate.{0} @List.length_set.{0}))) (aI (aI @List.drop_succ_cons.{0} @List.drop_zero.{0}) (aI @List.take_succ_cons.{0} (aI @List.take_zero.{0} @List.set_cons_zero.{0})))))) (aI (aI (aI (aI (aI @List.set_cons_succ.{0} @List.nil_append.{0}) (aI @List.cons_append.{0} @List.append_nil.{0})) (aI (aI @List.getElem?_cons_zero.{0} @List.getElem?_cons_succ.{0}) (aI @List.take_nil.{0} (aI @Option.map_some.{0,0} @Option.map_none.{0,0})))) (aI (aI (aI @Option.bind_some.{0,0} @Option.bind_none.{0,0}) (aI @Nat.zero_add (aI @Nat.add_zero @Nat.le_refl))) (aI (aI @Bool.and_true @Bool.true_and) (aI @Bool.and_false (aI @Bool.false_and @Bool.or_true))))) (aI (aI (aI (aI @Bool.or_false @Bool.true_or) (aI @Bool.false_or @Bool.not_true)) (aI (aI @Bool.not_false @beq_self_eq_true.{0}) (aI @bne_self_eq_false.{0} (aI @decide_true @decide_false)))) (aI (aI (aI @if_true.{1} @if_false.{1}) (aI @Bool.false_eq_true (aI @and_self @and_true))) (aI (aI @true_and @Option.isSome_some.{0}) (aI @Option.isSome_none.{0} (aI @Int.cast_ofNat_Int @Int.toNat_natCast)))))))))
theorem syA:type_of% ail.down:=ail.down
end Go.Ab
set_option maxRecDepth 100000
namespace Go.Ab
def aif:=PLift.up (aI (aI (aI (aI (aI @ry @Qq) (aI @Ml (aI @UZ @Qz))) (aI (aI @Xj @Fv) (aI @JB (aI @FK @JK)))) (aI (aI (aI @C6 @Fs) (aI @Mb (aI @Rn @Jm))) (aI (aI @DW @ND) (aI @Jv (aI @E2 @CM))))) (aI (aI (aI (aI @JE @M3) (aI @GB (aI @M2 @abT))) (aI (aI @VE @O4) (aI @XO (aI @QV @Ya)))) (aI (aI (aI @Xe @VU) (aI @aae (aI @ZZ @Ul))) (aI (aI @YA @Um) (aI @Wy (aI @W5 @Xq))))))
theorem syQ:type_of% aif.down:=aif.down
end Go.Ab
set_option linter.unusedVariables false
set_option linter.unusedSimpArgs false
namespace Go.Ab
open Go.Proofs Go.RowKit Go.Shelf Go.Sort Go.Lib
def pX:List (List V)→Option (List Int)
 | []=>some []
 | [.lit (.int .i64 n)]::l=>(pX l).map (n :: ·)
 | _=>none
theorem Am:∀ {rs:List (List V)} {zs:List Int},pX rs=some zs→rs=zs.map fun n=>[V.lit (.int .i64 n)]
 | [],zs,h=>by cases h;rfl
 | r::l,zs,h=>by
  unfold pX at h
  split at h
  ·rename_i h2;cases h2
  ·rename_i n l' h2
   cases h2
   cases hl:pX l with
   | none=>rw [hl] at h;cases h
   | some z=>rw [hl] at h;cases h;rw [List.map_cons,← Am hl]
  ·cases h
def Do (zs:List Int) (a b:Nat):List Int:=zs.take a++zs.drop b++List.replicate (b - a) 0
def X7 (args:List V) (H:Hp):Option (V×Hp):=
 match args with
 | [.own id g len,.lit (.int .i64 a),.lit (.int .i64 b)]=>
  match H[id]? with
  | some (.rows e rs g' true)=>
   if e=1∧g=g'∧len≤rs.length∧0≤a∧a<b∧b.toNat≤len∧len≤9223372036854775807 then
    (pX (rs.take len)).map fun zs=>(.own id g (len - (b.toNat - a.toNat)),H.set id (.rows 1 ((Do zs a.toNat b.toNat).map (fun n=>[V.lit (.int .i64 n)])++rs.drop len) g true))
   else none
  | _=>none
 | _=>none
section
variable {P:Program} {ρ:Ren}
set_option maxHeartbeats 4000000 in
set_option maxRecDepth 1000000 in
theorem UG (L:Lays2.n23 P ρ) {b off c i j:Nat} {d:Array Int} {w:World} (hH:Holds (Value.int .i64) w b off d) (hc:d.size≤c) (hm:d.size≤9223372036854775807) (hij:i<j) (hj:j≤d.size) :
  Calls P (ρ.f 23) #[.slice (some ⟨b,off,none⟩) d.size c,.int .i64 i,.int .i64 j] w fun e w'=>e = .returned (.slice (some ⟨b,off,none⟩) (d.size - (j - i)) c) ∧
   w'=putRow (Value.int .i64) (Sort.ahead w 1) b off (Do d.toList i j).toArray:=by
 have mixed:=L.mixed;have t0:=L.t0;have a0:=L.a0;have z0:=L.z0;have v0:=L.v0;have t3:=L.t3;have a3:=L.a3;have z3:=L.z3;have v3:=L.v3
 have t4:=L.t4;have a4:=L.a4;have z4:=L.z4;have v4:=L.v4;have t22:=L.t22;have a22:=L.a22;have z22:=L.z22;have v22:=L.v22
 obtain ⟨info,hinfo,hz0,hz1,_⟩:=info_parts L.i3
 generalize hns:(d.toList.drop j).map (Value.int .i64)=ns
 have nl:ns.length=d.size - j:=by rw [← hns];simp
 have at_:∀ t,t<d.size - j→ns[t]? = some (Value.int .i64 d[j+t]!):=fun t ht=>by
  rw [← hns,List.getElem?_map,List.getElem?_drop,Array.getElem?_toList,getElem!_pos d (j+t) (by omega),Array.getElem?_eq_getElem (by omega)]
  rfl
 -- where those behind lie
 have src:∃ A:Addr,(if c=j then some (⟨b,off,none⟩:Addr) else some ⟨b,off+j,none⟩)=some A∧Hid (∀ t u,ns[t]? = some u→w.drew.cell? (A.add t)=some u):=by
  rcases Decidable.em (c=j) with e | e
  ·refine ⟨⟨b,off,none⟩,if_pos e,fun t u hu => ?_⟩
   have:=(List.getElem?_eq_some_iff.1 hu).1
   omega
  ·refine ⟨⟨b,off+j,none⟩,if_neg e,fun t u hu => ?_⟩
   have ht:t<d.size - j:=by have:=(List.getElem?_eq_some_iff.1 hu).1;omega
   rw [at_ t ht] at hu
   rw [Addr.add_lit,Nat.add_assoc]
   exact (hH (j+t) (by omega)).1.trans hu
 obtain ⟨A,hA,hsrc⟩:=src
 have one:Hid (ns.length=(d.size - j)*1):=by rw [Nat.mul_one];exact nl
 have cells:Hid (∀ u ∈ ns,u.oneCell'=true):=fun u hu=>by
  rw [← hns] at hu
  obtain ⟨x,_,rfl⟩:=List.mem_map.1 hu
  rfl
 have dest:Hid (∀ t,t<ns.length→(w.drew.cell? ⟨b,off+i*1+t,none⟩).isSome=true∧w.drew.frozen? ⟨b,off+i*1+t,none⟩=false):=fun t ht=>by
  rw [nl] at ht
  rw [Nat.mul_one,Nat.add_assoc]
  obtain ⟨h1,h2⟩:=hH (i+t) (by omega)
  exact ⟨by show (w.cell? _).isSome=true;rw [h1];rfl,h2⟩
 obtain ⟨W,hW⟩:∃ W,W=w.drew.setCells b (off+i*1) ns:=⟨_,rfl⟩
 have hAh:=holds_ahead (Value.int .i64) w 1 b off d hH
 have hP:W=putRow (Value.int .i64) (Sort.ahead w 1) b off (lay d i (d.toList.drop j)):=by
  rw [hW,← hns,Nat.mul_one,← putRow_setCells (Value.int .i64) (Sort.ahead w 1) b off _ d i (by simp;omega),putRow_self (Value.int .i64) (Sort.ahead w 1) b off d hAh]
  rfl
 have hHW:Holds (Value.int .i64) W b off (lay d i (d.toList.drop j)):=by rw [hP];exact holds_putRow (Value.int .i64) _ b off d _ hAh (lay_size _ _ _)
 have wipe:∀ ty,(Builtin.clear_ #[ρ.t 22] ty #[.slice (some ⟨b,off+(i+(d.size - j)),none⟩) (d.size - (i+(d.size - j))) (c - (i+(d.size - j)))]).run P W = .ok (.tuple #[]) (W.setCells b (off+(i+(d.size - j))) (List.replicate (d.size - (i+(d.size - j))) (.int .i64 0))):=fun ty=>by
  refine Lib.run_clear_slice W _ _ ty _ t22 v3 rfl rfl b (off+(i+(d.size - j))) _ _ (by omega) (fun t ht => ?_) (fun t ht => ?_)
  all_goals rw [Nat.add_assoc]
  ·rw [(hHW _ (by rw [lay_size];omega)).1];rfl
  ·exact (hHW _ (by rw [lay_size];omega)).2
 have keep:Aside (W=putRow (Value.int .i64) (Sort.ahead w 1) b off (lay d i (d.toList.drop j))):=hP
 have wIs:Hid (W=w.drew.setCells b (off+i*1) ns):=hW
 have hic:i≤c:=by omega
 have hjc:j≤c:=by omega
 clear hW hP hHW hAh hH at_ hns nl
 go_enter L.f23,Body2.n23_ntmps ρ
 go_wp2_with fail
 go_region_law_o (refine step_append_room rfl (.tmp 22) (.tmp 25) (ρ.t 22) rfl (ρ.t 3) info 1 t22 hinfo hz1 b off i c (by simp [Act.eval,Act.put]) A (d.size - j) (c - j) ns (by simp [Act.eval,Act.put]) one.out hsrc.out cells.out (by omega) dest.out ?_;rw [← wIs.out])
 go_wp2
 go_ret
 refine ⟨by rw [show d.size - (j - i)=i+(d.size - j) by omega];rfl,?_⟩
 unfold Do
 rw [← delete_arr d i j 0 (by omega) hj,← putRow_setCells (Value.int .i64) _ b off _ _ (i+(d.size - j)) (by rw [lay_size];simp;omega),← keep.out,List.map_replicate,show d.size - (i+(d.size - j))=j - i by omega]
theorem He {zs:List Int} {a b:Nat} (h:a≤b) (hb:b≤zs.length):(Do zs a b).length=zs.length:=by
 unfold Do
 simp
 omega
theorem Lw {w:World} {b k:Nat} {d:Array Int} (h:k≠b):(putRow (Value.int .i64) (Sort.ahead w 1) b 0 d).heap[k]? = w.heap[k]? := by
 show (w.heap.modify b _)[k]? = _
 rw [Array.getElem?_modify,if_neg (fun e=>h e.symm)]
theorem DR {w:World} {b:Nat} {d:Array Int} {arr:Array Value} {e:TypeId} (h:w.heap[b]? = some (.cells arr e (0,0))):(putRow (Value.int .i64) (Sort.ahead w 1) b 0 d).heap[b]? = some (.cells (putCells (Value.int .i64) 0 d arr) e (0,0)):=by
 show (w.heap.modify b _)[b]? = _
 rw [Array.getElem?_modify,if_pos rfl,h]
 rfl
theorem Dr {B0:Nat} {w0 w:World} {R:Ro} {σ:List Sg} {H H':Hp} {v:V} {args:List V} {cargs:Array Value} (L:Lays2.n23 P ρ) (h:X7 args H=some (v,H')) (hI:Inv 0 B0 w0 R σ H w) (hA:bP R σ args cargs):Calls P (ρ.f 23) cargs w (Jb 0 B0 w0 R σ w v H'):=by
 unfold X7 at h
 split at h
 case h_2=>cases h
 rename_i id g len a b
 split at h
 case h_2=>cases h
 rename_i e0 rs g' hb
 split at h
 case isFalse=>cases h
 rename_i hc
 obtain ⟨rfl,rfl,hlen,ha0,hab,hbl,hbig⟩:=hc
 rw [Option.map_eq_some_iff] at h
 obtain ⟨zs,hz,h⟩:=h
 cases h
 have hrs:=Am hz
 have hzl:zs.length=len:=by
  have:=congrArg List.length hrs
  rw [List.length_take,List.length_map] at this
  omega
 obtain ⟨ca,l1,rfl,hr1,hA⟩:=hA.uncons
 obtain ⟨cb,l2,e2,hr2,hA⟩:=hA.uncons
 obtain ⟨cc,l3,e3,hr3,hA⟩:=hA.uncons
 have e4:=hA.nil_inv
 cases hr2
 cases hr3
 obtain ⟨Ad,l,c,s,rfl,hs,hh,hg,hgen⟩:=i7 hr1
 obtain ⟨q1,q2,q3,q4,q5,q6⟩:=ie hI hb hs hh
 obtain ⟨rfl,hn,hsm⟩:=hgen q1.symm
 cases hblk:s.blk with
 | none=>
  have:=q5 hblk
  subst this
  simp at hlen
  omega
 | some b0=>
  obtain ⟨rfl,hlc,hcap⟩:=hsm b0 hblk
  obtain ⟨arr,e,hheap,hsz,hcell,hro⟩:=q6 b0 hblk
  have hB:B0≤b0:=hI.ge id _ s b0 (Nat.zero_le _) hb rfl hs hblk
  have hrow:∀ j (hj:j<zs.length),rs[j]? = some [V.lit (.int .i64 zs[j])]:=fun j hj=>by
   have:(rs.take l)[j]? = some [V.lit (.int .i64 zs[j])]:=by rw [hrs,List.getElem?_map,List.getElem?_eq_getElem hj];rfl
   rw [List.getElem?_take] at this
   split at this
   ·exact this
   ·cases this
  have hcv:∀ j (hj:j<zs.length),arr[j]? = some (.int .i64 zs[j]):=fun j hj=>by
   obtain ⟨cv,h1,h2⟩:=hcell j 0 _ _ (hrow j hj) rfl
   cases h2
   rw [Nat.mul_one,Nat.add_zero] at h1
   exact h1
  have hH:Holds (Value.int .i64) w b0 0 zs.toArray:=fun j hj=>by
   have hj':j<zs.length:=by simpa using hj
   rw [Nat.zero_add]
   refine ⟨?_,?_⟩
   ·rw [getElem!_pos zs.toArray j hj]
    unfold World.cell?
    rw [hheap]
    simpa using hcv j hj'
   ·unfold World.frozen?
    rw [hheap]
    simp
  have el:(Value.slice (some ⟨b0,0,none⟩) l c::l1).toArray = #[.slice (some ⟨b0,0,none⟩) zs.toArray.size c,.int .i64 ((a.toNat:Nat):Int),.int .i64 ((b.toNat:Nat):Int)]:=by
   have e2':l1=Value.int .i64 a::l2:=by simpa using e2
   have e3':l2=Value.int .i64 b::l3:=by simpa using e3
   have e4':l3=[]:=by simpa using e4
   rw [e2',e3',e4',Int.toNat_of_nonneg ha0,Int.toNat_of_nonneg (by omega)]
   simp [hzl]
  rw [el]
  refine (UG L hH (by simpa [hzl] using hlc) (by simpa [hzl] using hbig) (by omega) (by simpa [hzl] using hbl)).mono ?_
  rintro x w' ⟨rfl,rfl⟩
  have hcl:=He (zs:=zs) (a:=a.toNat) (b:=b.toNat) (by omega) (by omega)
  have hsize:(putRow (Value.int .i64) (Sort.ahead w 1) b0 0 (Do zs a.toNat b.toNat).toArray).heap.size=w.heap.size:=by rw [size_putRow];rfl
  have hset:=hI.set (R':=R) (w':=putRow (Value.int .i64) (Sort.ahead w 1) b0 0 (Do zs a.toNat b.toNat).toArray) (b' := .rows 1 ((Do zs a.toNat b.toNat).map (fun n=>[V.lit (.int .i64 n)])++rs.drop l) g true) (s':=s) hb rfl hs hh (Nat.zero_le _) (pt.refl s) (fun k hk => .inl hk)
   ⟨rfl,rfl,rfl,by rw [hsize];exact Nat.le_refl _,fun k hk=>Lw (by omega)⟩ (by rw [hsize];exact Nat.le_refl _) (fun k _ hk=>Lw (fun e=>hk (by rw [e];exact hblk))) (fX.refl R) (fun _ _ h => .inl h)
   (fun k o u hu hk=>by
    rw [hblk] at hk;cases hk
    have:=(hro o (by simp [hu])).1
    cases this)
   ⟨q1,q2,q3,fun r hr=>by
    rcases List.mem_append.1 hr with hr | hr
    ·obtain ⟨n,_,rfl⟩:=List.mem_map.1 hr
     exact ⟨rfl,rfl⟩
    ·exact q4 r (List.mem_of_mem_drop hr),by
    rw [hblk]
    refine ⟨_,e,DR hheap,?_,fun i j r x hr hx => ?_,fun o ho => ?_⟩
    ·unfold putCells
     rw [Array.size_mapIdx]
     exact hsz
    ·rw [dv hs]
     by_cases hi:i<zs.length
     ·rw [List.getElem?_append_left (by simp;omega),List.getElem?_map,List.getElem?_eq_getElem (by omega)] at hr
      cases hr
      cases j with
      | succ j=>simp at hx
      | zero=>
       cases hx
       refine ⟨.int .i64 ((Do zs a.toNat b.toNat)[i]'(by omega)), ?_, .lit _⟩
       unfold putCells
       have hai:=hcv i hi
       rw [Nat.mul_one,Nat.add_zero,Array.getElem?_mapIdx,hai]
       simp only [Option.map_some,Nat.zero_le,Nat.zero_add,true_and,List.size_toArray,Nat.sub_zero]
       rw [if_pos (by omega),getElem!_pos _ _ (by simp;omega)]
       simp
     ·rw [List.getElem?_append_right (by simp;omega),List.getElem?_drop] at hr
      have hr':rs[i]? = some r:=by
       rw [← hr]
       congr 1
       simp
       omega
      obtain ⟨cv,h1,h2⟩:=hcell i j r x hr' hx
      refine ⟨cv,?_,h2⟩
      unfold putCells
      rw [Array.getElem?_mapIdx,h1]
      simp only [Option.map_some,Nat.zero_le,Nat.zero_add,true_and,List.size_toArray,Nat.sub_zero]
      rw [if_neg (by omega)]
    ·have:=(hro o ho).1
     cases this⟩
  rw [dv hs] at hset
  refine ⟨R,σ,hset.widen (fun k hk => ?_),?_,by rw [hsize];exact Nat.le_refl _⟩
  ·rw [hblk] at hk;cases hk;exact hB
  ·have e5:zs.toArray.size - (b.toNat - a.toNat)=l - (b.toNat - a.toNat):=by simp [hzl]
   rw [e5]
   refine .own id g (l - (b.toNat - a.toNat)) _ _ c s hs hh (by omega) (fun _=>⟨rfl,fun hz => ?_,fun b1 hb1 => ?_⟩)
   ·rw [hblk] at hz;cases hz
   ·rw [hblk] at hb1;cases hb1
    exact ⟨rfl,by omega,hcap⟩
end
def dlB (id g len:Nat) (a b:Int) (H:Hp):Option B→Option (V×Hp)
 | some (.rows e rs g' true)=>
  if e=1∧g=g'∧len≤rs.length∧0≤a∧a<b∧b.toNat≤len∧len≤9223372036854775807 then
   (pX (rs.take len)).map fun zs=>(.own id g (len - (b.toNat - a.toNat)),H.set id (.rows 1 ((Do zs a.toNat b.toNat).map (fun n=>[V.lit (.int .i64 n)])++rs.drop len) g true))
  else none
 | _=>none
theorem Yd {id g len:Nat} {a b:Int} {H:Hp}:X7 [.own id g len,.lit (.int .i64 a),.lit (.int .i64 b)] H=dlB id g len a b H H[id]? := by
 unfold X7 dlB
 rfl
theorem A9:∀ l:List Int,pX (l.map (aN .i64))=some l
 | []=>rfl
 | n::l=>by rw [List.map_cons,aN,pX,A9 l];rfl
theorem P8 {id g len e:Nat} {a b:Int} {H:Hp} {l:List Int}:dlB id g len a b H (some (.rows e (l.map (aN .i64)) g true)) =
  ck (e==1) (ck (decide (len≤l.length∧0≤a∧a<b∧b.toNat≤len∧len≤9223372036854775807)) (some (.own id g (len - (b.toNat - a.toNat)),H.set id (.rows 1 ((Do (l.take len) a.toNat b.toNat++l.drop len).map (aN .i64)) g true)))):=by
 unfold dlB
 dsimp only
 rw [List.length_map,← List.map_take,A9,← List.map_drop]
 by_cases he:e=1
 ·subst he
  rw [beq_self_eq_true,ct]
  by_cases h:len≤l.length∧0≤a∧a<b∧b.toNat≤len∧len≤9223372036854775807
  ·rw [if_pos ⟨rfl,rfl,h⟩,decide_eq_true h,ct,List.map_append]
   rfl
  ·rw [if_neg (fun z=>h z.2.2),decide_eq_false h,rO]
 ·have h1:(e==1)=false:=by simp [he]
  rw [h1,rO,if_neg (fun z=>he z.1)]
theorem Uo {P:Program} {M:Mode} {k:Nat} {f:FuncId} {args:List V} {H:Hp} (ho:M.orc f=some X7):evF P M (k+1) 0 f args H=X7 args H:=by
 rw [evF,ho]
 rfl
end Go.Ab
namespace Go.Ab
def cR (x:Tys):List V:=
 [.lit (.int .i64 x.1),.ro (x.2.1.map (aN .i64)),.lit (.int .i64 x.2.2.1),.lit (.int .i64 x.2.2.2.1),.lit (.int .i64 x.2.2.2.2.1),.lit (.int .u64 x.2.2.2.2.2.1),.lit (.int .u64 x.2.2.2.2.2.2.1),.lit (.int .u64 x.2.2.2.2.2.2.2.1),.lit (.int .i64 x.2.2.2.2.2.2.2.2)]
def arC (id g row:Nat):List (Int×Nat)→Int→Option V
 | [],_=>none
 | p::l,n=>bif n==p.1 then some (.ptr id g row p.2) else arC id g row l n
theorem X1 {id g row:Nat} {n:Int}:arC id g row [] n=none:=rfl
theorem OP {id g row o:Nat} {n i:Int} {l:List (Int×Nat)}:arC id g row ((i,o)::l) n=bif n==i then some (.ptr id g row o) else arC id g row l n:=rfl
def arL (sz off len:Nat):List (Int×Nat):=(List.range len).map fun j:Nat=>((j:Int),off+j*sz)
theorem FG {id g row:Nat} {n:Int}:∀ {l:List (Int×Nat)},(∀ p ∈ l,p.1≠n)→arC id g row l n=none
 | [],_=>rfl
 | p::l,h=>by
  rw [arC,show (n==p.1)=false by simp;exact fun e=>h p (List.mem_cons_self ..) e.symm,cond_false]
  exact FG fun q hq=>h q (List.mem_cons_of_mem _ hq)
theorem Ta {id g row sz off:Nat} {q:Nat}:∀ (l:List Nat),q ∈ l→arC id g row (l.map fun j:Nat=>((j:Int),off+j*sz)) (q:Int)=some (.ptr id g row (off+q*sz))
 | [],h=>by cases h
 | x::l,h=>by
  rw [List.map_cons,arC]
  by_cases e:q=x
  ·subst e;simp
  ·have h2:((q:Int)==(x:Int))=false:=by simp;omega
   rw [h2,cond_false]
   exact Ta l ((List.mem_cons.1 h).resolve_left e)
theorem Kb {P:Program} {t e:TypeId} {len sz id g row off:Nat} {k:IntKind} {n:Int} {H:Hp} (h:P.underlying t=some (.array len e)) (hs:aV P e=sz) (hz:sz≠0) :
  am P t (.ptr id g row off) (.lit (.int k n)) H=arC id g row (arL sz off len) n:=by
 unfold am
 simp only [h,hs]
 by_cases h0:0≤n
 ·rw [if_pos h0]
  by_cases h1:n<len
  ·rw [if_pos ⟨h1,hz⟩]
   obtain ⟨q,rfl⟩:∃ q:Nat,n=q:=⟨n.toNat,by omega⟩
   rw [arL,Ta (List.range len) (List.mem_range.2 (by omega)),Int.toNat_natCast]
  ·rw [if_neg (fun hh=>h1 hh.1)]
   refine (FG fun p hp => ?_).symm
   obtain ⟨j,hj,rfl⟩:=List.mem_map.1 hp
   have:=List.mem_range.1 hj
   simp only
   omega
 ·rw [if_neg h0]
  refine (FG fun p hp => ?_).symm
  obtain ⟨j,hj,rfl⟩:=List.mem_map.1 hp
  simp only
  omega
end Go.Ab
namespace Go.Ab
def aY (x:Tyw):List V:=
 [.lit (.int .i64 x.1),.ro (x.2.1.map aZ),.lit (.int .i64 x.2.2.1.1),.lit (.int .i64 x.2.2.1.2.1),.lit (.int .i64 x.2.2.1.2.2.1),.lit (.int .u64 x.2.2.1.2.2.2.1),.lit (.int .u64 x.2.2.1.2.2.2.2.1),.lit (.int .u64 x.2.2.1.2.2.2.2.2.1),.lit (.int .i64 x.2.2.1.2.2.2.2.2.2),.lit (.int .i64 x.2.2.2.1),.lit (.int .i64 x.2.2.2.2)]
mutual
theorem Nv (n:Nat):∀ v:V,v.pure=true→v.kill n=v
 | .lit _,_=>rfl
 | .ro _,_=>rfl
 | .nil,_=>rfl
 | .any,_=>rfl
 | .junk,_=>rfl
 | .agg cs,h=>by rw [V.kill,ip n cs h]
 | .tup cs,h=>by rw [V.kill,ip n cs h]
 | .fn f a b,h=>by
  rw [V.pure,Bool.and_eq_true] at h
  rw [V.kill,ip n a h.1,ip n b h.2]
 | .rp _,_=>rfl
theorem ip (n:Nat):∀ l:List V,bn l=true→kx n l=l
 | [],_=>rfl
 | v::l,h=>by
  rw [bn,Bool.and_eq_true] at h
  rw [kx,Nv n v h.1,ip n l h.2]
end
theorem Ej {n:Nat} {rs:List (List V)}:lM n rs=rs.map (kx n):=by
 unfold lM
 split
 ·rename_i h
  rw [cW,List.all_eq_true] at h
  have:∀ l:List (List V),(∀ x ∈ l,bn x=true)→l.map (kx n)=l:=by
   intro l
   induction l with
   | nil=>intro _;rfl
   | cons r l ih=>intro h;rw [List.map_cons,ip n r (h r (List.mem_cons_self ..)),ih fun x hx=>h x (List.mem_cons_of_mem _ hx)]
  exact (this rs h).symm
 ·rfl
theorem ah {n:Nat} {r:List V} {rs:List (List V)}:lM n (r::rs)=kx n r::lM n rs:=by
 rw [Ej,Ej,List.map_cons]
theorem ag {k:IntKind} {a:Int} {l:List Int}:[V.lit (.int k a)]::List.map (aN k) l=List.map (aN k) (a::l):=rfl
theorem af {a b c:Int} {l:Tye}:[V.lit (.int .i64 a),.lit (.int .i64 b),.lit (.int .i64 c)]::List.map aZ l=List.map aZ ((a,b,c)::l):=rfl
def air:=PLift.up (aI (aI (aI (aI (aI (aI @rtN.eq_1 @bn.eq_1) (aI @bn.eq_2 @V.pure.eq_1)) (aI (aI @V.pure.eq_2 @V.pure.eq_3) (aI @V.pure.eq_4 @V.pure.eq_5))) (aI (aI (aI @V.pure.eq_6 @V.pure.eq_7) (aI @V.pure.eq_8 @V.pure.eq_9)) (aI (aI @V.pure.eq_10 @V.pure.eq_11) (aI @V.pure.eq_12 @V.pure.eq_13)))) (aI (aI (aI (aI @nsh.eq_1 @acS.eq_1) (aI @acS.eq_2 @acS.eq_3)) (aI (aI @V.kill.eq_1 @V.kill.eq_2) (aI @V.kill.eq_3 @V.kill.eq_4))) (aI (aI (aI @V.kill.eq_5 @V.kill.eq_6) (aI @V.kill.eq_7 @V.kill.eq_8)) (aI (aI @V.kill.eq_9 @V.kill.eq_10) @V.kill.eq_11)))) (aI (aI (aI (aI (aI @V.kill.eq_12 @V.kill.eq_13) (aI @kx.eq_1 @kx.eq_2)) (aI (aI @spl.eq_1 @spl.eq_2) (aI @V.shift.eq_1 @V.shift.eq_2))) (aI (aI (aI @V.shift.eq_3 @V.shift.eq_4) (aI @V.shift.eq_5 @V.shift.eq_6)) (aI (aI @V.shift.eq_7 @V.shift.eq_8) @V.shift.eq_9))) (aI (aI (aI (aI @V.shift.eq_10 @V.shift.eq_11) (aI @V.shift.eq_12 @V.shift.eq_13)) (aI (aI @iL.eq_1 @iL.eq_2) (aI @V.scal.eq_1 @V.scal.eq_2))) (aI (aI (aI @V.scal.eq_3 @V.scal.eq_4) (aI @F8.eq_1 @F8.eq_2)) (aI (aI @aN.eq_1 @mq.eq_1) @aZ.eq_1)))))
theorem syD:type_of% air.down:=air.down
def aiI:=PLift.up (aI (aI (aI @syQ @Lv.eq_1) (aI @ma.eq_1 @dG.eq_1)) (aI (aI @cR.eq_1 @aY.eq_1) (aI @X1 @OP)))
theorem syE:type_of% aiI.down:=aiI.down
end Go.Ab
namespace Go.Ab
open Go
def gf (x:Int×Int×Int):List V:=[.lit (.int .i64 x.1),.lit (.int .i64 x.2.1),.lit (.int .u64 x.2.2)]
def agY (x:Typ):List V:=
 [.lit (.int .i64 x.1.1),.lit (.int .i64 x.1.2.1),.lit (.int .i64 x.1.2.2.1),.lit (.int .i64 x.1.2.2.2),.ro (x.2.1.map ap),.ro (x.2.2.1.map (aN .u64)),.ro (x.2.2.2.1.map aY),.ro (x.2.2.2.2.map cR)]
theorem pz (x:Int×Int×Int):bn (gf x)=true:=rfl
theorem iz (x:Tyw):bn (aY x)=true:=by
 have h:cW (x.2.1.map aZ)=true:=eM fun _=>rfl
 simp [aY,bn,V.pure,h]
theorem kH (x:Tys):bn (cR x)=true:=by
 have h:=rT (k := .i64) (l:=x.2.1)
 simp [cR,bn,V.pure,h]
section
variable {lw:List Tyw} {ls:List Tys} {lp:Tye} {n i:Nat} {a b c d e f g p q r:Int} {x:List Int} {y:Tye}
theorem Jk:cW (lw.map aY)=true:=eM iz
theorem Jj:lM n (lw.map aY)=lw.map aY:=f9 iz
theorem GD:iU n (lw.map aY)=lw.map aY:=eN iz
theorem QN:cd 11 (lw.map aY)=true:=d9 fun _=>rfl
theorem LJ:(lw.map aY).set i [.lit (.int .i64 p),.ro (y.map aZ),.lit (.int .i64 a),.lit (.int .i64 b),.lit (.int .i64 c),.lit (.int .u64 d),.lit (.int .u64 e),.lit (.int .u64 f),.lit (.int .i64 g),.lit (.int .i64 q),.lit (.int .i64 r)]=(lw.set i (p,y,(a,b,c,d,e,f,g),q,r)).map aY:=by rw [List.map_set];rfl
theorem EX:[[V.lit (.int .i64 p),.ro (y.map aZ),.lit (.int .i64 a),.lit (.int .i64 b),.lit (.int .i64 c),.lit (.int .u64 d),.lit (.int .u64 e),.lit (.int .u64 f),.lit (.int .i64 g),.lit (.int .i64 q),.lit (.int .i64 r)]]=[(p,y,(a,b,c,d,e,f,g),q,r)].map aY:=rfl
theorem Dg:[V.lit (.int .i64 p),.ro (y.map aZ),.lit (.int .i64 a),.lit (.int .i64 b),.lit (.int .i64 c),.lit (.int .u64 d),.lit (.int .u64 e),.lit (.int .u64 f),.lit (.int .i64 g),.lit (.int .i64 q),.lit (.int .i64 r)]::lw.map aY=((p,y,(a,b,c,d,e,f,g),q,r)::lw).map aY:=rfl
theorem IZ:(lw.map aY).set i [.lit (.int .i64 p),.ro [],.lit (.int .i64 a),.lit (.int .i64 b),.lit (.int .i64 c),.lit (.int .u64 d),.lit (.int .u64 e),.lit (.int .u64 f),.lit (.int .i64 g),.lit (.int .i64 q),.lit (.int .i64 r)]=(lw.set i (p,([]:Tye),(a,b,c,d,e,f,g),q,r)).map aY:=by rw [List.map_set];rfl
theorem Db:[[V.lit (.int .i64 p),.ro [],.lit (.int .i64 a),.lit (.int .i64 b),.lit (.int .i64 c),.lit (.int .u64 d),.lit (.int .u64 e),.lit (.int .u64 f),.lit (.int .i64 g),.lit (.int .i64 q),.lit (.int .i64 r)]]=[(p,([]:Tye),(a,b,c,d,e,f,g),q,r)].map aY:=rfl
theorem Cj:[V.lit (.int .i64 p),.ro [],.lit (.int .i64 a),.lit (.int .i64 b),.lit (.int .i64 c),.lit (.int .u64 d),.lit (.int .u64 e),.lit (.int .u64 f),.lit (.int .i64 g),.lit (.int .i64 q),.lit (.int .i64 r)]::lw.map aY=((p,([]:Tye),(a,b,c,d,e,f,g),q,r)::lw).map aY:=rfl
theorem M8:cW (ls.map cR)=true:=eM kH
theorem NL:lM n (ls.map cR)=ls.map cR:=f9 kH
theorem II:iU n (ls.map cR)=ls.map cR:=eN kH
theorem Wh:cd 9 (ls.map cR)=true:=d9 fun _=>rfl
theorem Ob:(ls.map cR).set i [.lit (.int .i64 p),.ro (x.map (aN .i64)),.lit (.int .i64 a),.lit (.int .i64 b),.lit (.int .i64 c),.lit (.int .u64 d),.lit (.int .u64 e),.lit (.int .u64 f),.lit (.int .i64 g)]=(ls.set i (p,x,a,b,c,d,e,f,g)).map cR:=by rw [List.map_set];rfl
theorem IV:[[V.lit (.int .i64 p),.ro (x.map (aN .i64)),.lit (.int .i64 a),.lit (.int .i64 b),.lit (.int .i64 c),.lit (.int .u64 d),.lit (.int .u64 e),.lit (.int .u64 f),.lit (.int .i64 g)]]=[(p,x,a,b,c,d,e,f,g)].map cR:=rfl
theorem FT:[V.lit (.int .i64 p),.ro (x.map (aN .i64)),.lit (.int .i64 a),.lit (.int .i64 b),.lit (.int .i64 c),.lit (.int .u64 d),.lit (.int .u64 e),.lit (.int .u64 f),.lit (.int .i64 g)]::ls.map cR=((p,x,a,b,c,d,e,f,g)::ls).map cR:=rfl
theorem MJ:(ls.map cR).set i [.lit (.int .i64 p),.ro [],.lit (.int .i64 a),.lit (.int .i64 b),.lit (.int .i64 c),.lit (.int .u64 d),.lit (.int .u64 e),.lit (.int .u64 f),.lit (.int .i64 g)]=(ls.set i (p,([]:List Int),a,b,c,d,e,f,g)).map cR:=by rw [List.map_set];rfl
theorem F7:[[V.lit (.int .i64 p),.ro [],.lit (.int .i64 a),.lit (.int .i64 b),.lit (.int .i64 c),.lit (.int .u64 d),.lit (.int .u64 e),.lit (.int .u64 f),.lit (.int .i64 g)]]=[(p,([]:List Int),a,b,c,d,e,f,g)].map cR:=rfl
theorem CY:[V.lit (.int .i64 p),.ro [],.lit (.int .i64 a),.lit (.int .i64 b),.lit (.int .i64 c),.lit (.int .u64 d),.lit (.int .u64 e),.lit (.int .u64 f),.lit (.int .i64 g)]::ls.map cR=((p,([]:List Int),a,b,c,d,e,f,g)::ls).map cR:=rfl
theorem JJ:cW (lp.map gf)=true:=eM pz
theorem Ja:lM n (lp.map gf)=lp.map gf:=f9 pz
theorem FA:iU n (lp.map gf)=lp.map gf:=eN pz
theorem N8:cd 3 (lp.map gf)=true:=d9 fun _=>rfl
theorem KA:(lp.map gf).set i [.lit (.int .i64 a),.lit (.int .i64 b),.lit (.int .u64 c)]=(lp.set i (a,b,c)).map gf:=by rw [List.map_set];rfl
theorem E7:[[V.lit (.int .i64 a),.lit (.int .i64 b),.lit (.int .u64 c)]]=[(a,b,c)].map gf:=rfl
theorem Ed:[V.lit (.int .i64 a),.lit (.int .i64 b),.lit (.int .u64 c)]::lp.map gf=((a,b,c)::lp).map gf:=rfl
end
theorem YB {α:Type} {wl e sz bytes id g len s:Nat} {l:List α} {enc:α→List V} {H:Hp} :
  apB wl e sz bytes id g len [] H (some (.rows s (l.map enc) g true)) =
   sif (Nat.ble wl id) (ck (decide (len≤l.length)) (ck (s==sz||s==0) (bif room (l.take len).length bytes then some (.own id (g+1) (l.take len).length,H.set id (.rows sz ((l.take len).map enc) (g+1) true)) else none))) none:=by
 have h:=Ni (wl:=wl) (e:=e) (sz:=sz) (bytes:=bytes) (id:=id) (g:=g) (len:=len) (s:=s) (l:=l) (m:=[]) (enc:=enc) (H:=H)
 rw [List.append_nil] at h
 exact h
theorem Vv {kp:Nat→Bool} {cs:List V} {h:Hp}:lN (some kp) (.agg cs) h=bq (wX cs h []) fun p=>some (.agg p.1,p.2.2):=by
 unfold lN I2 bq
 dsimp only
 cases wX cs h [] <;> rfl
theorem Lq {H acc:Hp}:wX [] H acc=some ([],H,acc):=rfl
theorem JQ {v:V} {vs:List V} {H acc:Hp}:wX (v::vs) H acc=bq (rC v H acc) fun p=>bq (wX vs p.2.1 p.2.2) fun q=>some (p.1::q.1,q.2.1,q.2.2):=by
 rw [wX]
 unfold bq
 cases rC v H acc with
 | none=>rfl
 | some p=>rfl
theorem Ld {v:Value} {H acc:Hp}:rC (.lit v) H acc=some (.lit v,H,acc):=rfl
theorem QC {r:List (List V)} {H acc:Hp}:rC (.ro r) H acc=some (.ro r,H,acc):=rfl
def hmB (id g len:Nat) (H acc:Hp):Option B→Option (V×Hp×Hp)
 | some (.rows e rs g' live)=>if g=g'∧len≤rs.length∧(live=true∨len=rs.length)∧cW rs=true then some (.own acc.length 0 len,H.set id .dead,acc++[.rows e (rs.take len) 0 live]) else none
 | _=>none
theorem C0 {id g len:Nat} {H acc:Hp}:rC (.own id g len) H acc=hmB id g len H acc H[id]? := by
 unfold rC hmB
 dsimp only
 cases H[id]? with
 | none=>rfl
 | some b=>cases b <;> rfl
theorem Bl {α:Type} {enc:α→List V} (hp:∀ x,bn (enc x)=true) {id g len e:Nat} {H acc:Hp} {l:List α}:hmB id g len H acc (some (.rows e (l.map enc) g true))=ck (decide (len≤l.length)) (some (.own acc.length 0 len,H.set id .dead,acc++[.rows e ((l.take len).map enc) 0 true])):=by
 unfold hmB ck
 dsimp only
 rw [List.length_map,eM hp,List.map_take]
 by_cases h:len≤l.length
 ·rw [if_pos ⟨rfl,h,.inl rfl,rfl⟩,decide_eq_true h]
  rfl
 ·rw [if_neg (fun z=>h z.2.1),decide_eq_false h]
  rfl
theorem W4 {id g e:Nat} {H acc:Hp} {lv:Bool}:hmB id g 0 H acc (some (.rows e [] g lv))=some (.own acc.length 0 0,H.set id .dead,acc++[.rows e [] 0 lv]):=by
 unfold hmB
 dsimp only
 rw [if_pos ⟨rfl,Nat.le_refl _,.inr rfl,rfl⟩]
 rfl
theorem Us {k:IntKind} {id g len e:Nat} {H acc:Hp} {l:List Int}:hmB id g len H acc (some (.rows e (l.map (aN k)) g true))=ck (decide (len≤l.length)) (some (.own acc.length 0 len,H.set id .dead,acc++[.rows e ((l.take len).map (aN k)) 0 true])):=Bl fun _=>rfl
theorem YG {kp:Nat→Bool} {id g len:Nat} {h:Hp}:lN (some kp) (.own id g len) h=bq (hmB id g len h [] h[id]?) fun p=>some (p.1,p.2.2):=by
 have e:lN (some kp) (.own id g len) h=(rC (.own id g len) h []).bind fun q=>some (q.1,q.2.2):=rfl
 rw [e,C0]
 unfold bq
 cases hmB id g len h [] h[id]? <;> rfl
theorem Og {id g len e:Nat} {H acc:Hp} {l:List Tyw}:hmB id g len H acc (some (.rows e (l.map aY) g true))=ck (decide (len≤l.length)) (some (.own acc.length 0 len,H.set id .dead,acc++[.rows e ((l.take len).map aY) 0 true])):=Bl iz
theorem Wi {id g len e:Nat} {H acc:Hp} {l:List Tys}:hmB id g len H acc (some (.rows e (l.map cR) g true))=ck (decide (len≤l.length)) (some (.own acc.length 0 len,H.set id .dead,acc++[.rows e ((l.take len).map cR) 0 true])):=Bl kH
def aid:=PLift.up (aI (aI (aI (aI (aI (aI @Jk @Jj) @GD) (aI (aI @QN @LJ) @EX)) (aI (aI (aI @Dg @IZ) @Db) (aI @Cj @M8))) (aI (aI (aI (aI @NL @II) @Wh) (aI @Ob @IV)) (aI (aI (aI @FT @MJ) @F7) (aI @CY @JJ)))) (aI (aI (aI (aI (aI @Ja @FA) @N8) (aI @KA @E7)) (aI (aI (aI @Ed @W4) @Us) (aI @YG @YB))) (aI (aI (aI (aI @Vv @Lq) @JQ) (aI @Ld @QC)) (aI (aI (aI @C0 @Og) @Wi) (aI @gf.eq_1 @agY.eq_1)))))
theorem syW:type_of% aid.down:=aid.down
end Go.Ab
namespace Go.Ab
section
variable {cx:Cx} {K:Out→St→Res} {r:Res} {id j n0:Nat} {ops:Array Oper} {a:List Nat×List Nat} {env:List V} {H:Hp} {o:Oper} {i:Nat} {L:List Nat}
theorem qI (hL:Cs ops=L) (ha:(oR ops).any=false) (v:V) (H':Hp) (h2:fJ cx (.region id ops true) (j+1) n0 a K ⟨mf env o.dst v,H'⟩=r) (hj:L[j]? = some i:=by rfl) (ho:ops.toList[i]? = some o:=by rfl) (hg:o.guard=none:=by rfl) (hst:(oR ops).strict i=false:=by kernel_rfl) (h1:opV cx ((oR ops).calm i) ((oR ops).ord i) o.op env H=some (v,H'):=by kernel_rfl):fJ cx (.region id ops true) j n0 a K ⟨env,H⟩=r:=go_op1 hL ha hj ho hg (agk hst (aeu h1 h2))
section
variable {gj d:Nat} {b:Bool}
end
end
end Go.Ab
namespace Go.Ab
abbrev bb (b:Bool) (x y:Res):Res:=match b with | true=>x | false=>y
abbrev onO {A:Type} (x:Option A) (k:A→Res):Res:=match x with | some v=>k v | none=>none
abbrev ae9 (cx:Cx) (b:Builtin) (ts:Array TypeId) (args:List V) (H:Hp) (F:V→Hp→Res):Res:=
 match b with
 | .len=>match ts.toList,args with
  | [t],[x]=>bp (br cx.P t x H) F
  | _,_=>none
 | .append=>match ts.toList,args with
  | [t,u],[s,x]=>bp (mg cx.P cx.wl t u s x H) F
  | _,_=>none
 | .max=>bm (iE true args) H F
 | .min=>bm (iE false args) H F
 | _=>none
abbrev opW (cx:Cx) (calm ord:Bool) (op:Op) (env:List V) (H:Hp) (F:V→Hp→Res):Res:=
 match op with
 | .move x=>onO (evO env x) fun v=>F v H
 | .assign x=>match x with
  | .const c=>onO (some (kv c)) fun v=>match v with | .nil=>bp (some (.own H.length 0 0,H++[.rows 0 [] 0 true])) F | v=>F v H
  | x=>onO (evO env x) fun v=>F v H
 | .pick c a b=>onO (evO env c) fun c=>onO (evO env a) fun a=>onO (evO env b) fun b=>bm (aT c a b) H F
 | .alloc t=>bp (aw cx.P t H) F
 | .box _ x=>onO (evO env x) fun v=>bp (aP v H) F
 | .build t parts=>onO (MV (evO env) parts.toList) fun l=>bm (bf cx.P t l) H F
 | .buildSlice t len parts=>onO (MV (evO env) parts.toList) fun l=>bb (calm) (bp (di cx.P cx.wl t len l H) F) (bp (aD cx.P cx.wl t len l H) F)
 | .insert t m k v=>onO (evO env m) fun m=>onO (evO env k) fun k=>onO (evO env v) fun v=>bs (eA cx.P cx.wl t m k v H) (F uu)
 | .load t a=>onO (evO env a) fun a=>bm (ab cx.P t a H) H F
 | .store t a v=>onO (evO env a) fun a=>onO (evO env v) fun v=>bs (aj cx.P cx.wl t a v H) (F uu)
 | .nilCheck x=>onO (evO env x) fun x=>bm (aS x H) H F
 | .binOp op t x y _=>onO (evO env x) fun x=>onO (evO env y) fun y=>bm (au cx.P op t x y) H F
 | .unOp op _ x=>onO (evO env x) fun x=>bm (vUn op x) H F
 | .convert s d x=>onO (evO env x) fun x=>bm (gL cx.P s d x) H F
 | .makeFunc f a b=>onO (BB env a.toList) fun a=>onO (BB env b.toList) fun b=>F (.fn f a b) H
 | .makeMap _ r=>match r with | none=>bp (some (.map H.length,H++[.map []])) F | some _=>none
 | .makeSlice t l c=>onO (evO env l) fun l=>onO (evO env c) fun c=>bp (be cx.P t l c H) F
 | .slice t x lo hi mx=>onO (evO env x) fun x=>onO (Nn env lo) fun lo=>onO (Nn env hi) fun hi=>onO (Nn env mx) fun mx=>bp (dB cx.P cx.wl calm t x lo hi mx H) F
 | .fieldAddr t x i=>onO (evO env x) fun x=>bm (aa cx.P t x i) H F
 | .field t x i=>onO (evO env x) fun x=>bm (uC cx.P t x i) H F
 | .indexAddr t x i=>onO (evO env x) fun x=>onO (evO env i) fun i=>bm (am cx.P t x i H) H F
 | .index t x i=>onO (evO env x) fun x=>onO (evO env i) fun i=>bm (Hd cx.P t x i) H F
 | .lookup t m k ok=>onO (evO env m) fun m=>onO (evO env k) fun k=>bm (fS cx.P t m k ok H) H F
 | .extract x i=>onO (evO env x) fun x=>bm (ar x i) H F
 | .call c=>
  match c.callee with
  | .builtin b=>onO (BB env c.args.toList) fun a=>ae9 cx b c.argTypes a H F
  | .value f=>onO (evO env f) fun f=>onO (BB env c.args.toList) fun a=>bp (cI cx calm ord f a H) F
  | .invoke _ _=>none
 | _=>none
theorem cy {A:Type} {x:Option A} {k:A→Res} {g:A→Option (V×Hp)} {F:V×Hp→Res} (h:∀ v,k v=(g v).bind F):onO x k=(x.bind g).bind F:=by
 cases x with
 | none=>rfl
 | some v=>exact h v
theorem Fi {A:Type} {x:Option A} {k:A→Res} {g:A→V×Hp} {F:V×Hp→Res} (h:∀ v,k v=F (g v)):onO x k=(x.map g).bind F:=by
 cases x with
 | none=>rfl
 | some v=>exact h v
theorem ack {x:Option Hp} {F:V→Hp→Res}:bs x (F uu)=(x.map fun H'=>(V.lit undef,H')).bind fun p=>F p.1 p.2:=by cases x <;> rfl
theorem Vk {cx:Cx} {b:Builtin} {ts:Array TypeId} {args:List V} {H:Hp} {F:V→Hp→Res}:ae9 cx b ts args H F=(JZ cx b ts args H).bind fun p=>F p.1 p.2:=by
 unfold ae9 JZ
 generalize ts.toList=l
 cases b with
 | len=>rcases l with _ | ⟨_,_ | _⟩ <;> rcases args with _ | ⟨_,_ | _⟩ <;> rfl
 | append=>rcases l with _ | ⟨_,_ | ⟨_,_ | _⟩⟩ <;> rcases args with _ | ⟨_,_ | ⟨_,_ | _⟩⟩ <;> rfl
 | _=>rfl
theorem Zn {cx:Cx} {calm ord:Bool} {op:Op} {env:List V} {H:Hp} {F:V→Hp→Res}:opW cx calm ord op env H F=(opV cx calm ord op env H).bind fun p=>F p.1 p.2:=by
 cases op with
 | assign x=>
  unfold opW opV
  dsimp only
  cases x with
  | const c=>
   dsimp only [evO,onO,Option.map_some,Option.bind_some]
   cases kv c <;> rfl
  | _=>exact Fi fun v=>rfl
 | call c=>
  unfold opW opV
  dsimp only
  cases c.callee with
  | builtin b=>exact cy fun a=>Vk
  | value f=>exact cy fun f=>cy fun a=>rfl
  | invoke _ _=>rfl
 | buildSlice t len parts=>
  unfold opW opV
  dsimp only
  refine cy fun l => ?_
  cases calm <;> rfl
 | makeMap t r=>
  unfold opW opV
  dsimp only
  cases r <;> rfl
 | _=>
  unfold opW opV
  dsimp only
  first
  | rfl
  | exact cy fun a=>cy fun b=>ack
  | exact cy fun a=>cy fun b=>cy fun c=>ack
  | exact Fi fun v=>rfl
  | exact cy fun a=>rfl
  | exact cy fun a=>Fi fun b=>rfl
  | exact cy fun a=>cy fun b=>rfl
  | exact cy fun a=>cy fun b=>cy fun c=>rfl
  | exact cy fun a=>cy fun b=>cy fun c=>cy fun d=>rfl
inductive Md where
 | E (c:Code) (fs:List Fr) (jn:List Nat)
 | R (o:Out) (fs:List Fr) (jn:List Nat)
 | L (c:Code) (l:Nat) (fs:List Fr) (jn:List Nat)
 | G (c:Code) (j n0:Nat) (a:List Nat×List Nat) (fs:List Fr) (g:Bool) (kn:List (Nat×Nat)) (jn:List Nat)
def aiM (cx:Cx) (K:Out→St→Res) (s:St):Md→Res
 | .E c fs _=>av cx K (.seq c::fs) .norm s
 | .R o fs _=>av cx K fs o s
 | .L c l fs _=>wY cx K c l fs s
 | .G c j n0 a fs _ _ _=>fJ cx c j n0 a (av cx K fs) s
def ng (i:Nat):Code→Bool
 | .exit j=>j==i
 | .seq a b=>ng i a||ng i b
 | .cond _ a b=>ng i a||ng i b
 | .rangeFunc _ _ a b=>ng i a||ng i b
 | .block _ a=>ng i a
 | .loop a=>ng i a
 | .scope a=>ng i a
 | _=>false
def ni:Code→Bool
 | .seq a b=>ni a&&ni b
 | .cond _ a b=>ni a||ni b
 | .exit _=>false
 | .goto _=>false
 | .ret=>false
 | .loop _=>false
 | .block i a=>ni a||ng i a
 | _=>true
def kA:Code→Nat
 | .region _ ops _=>ops.size
 | .seq a b=>kA a+kA b+1
 | .cond _ a b=>kA a+kA b+1
 | .rangeFunc _ _ a b=>kA a+kA b+1
 | .block _ a=>kA a
 | .scope a=>kA a
 | .loop _=>10
 | _=>0
def atJ (jn:List Nat) (n:Nat):Bool:=match jn with | []=>false | x::_=>x==n
def jnT (jn:List Nat) (n:Nat):List Nat:=bif atJ jn n then jn.tail else jn
def Ia (jn:List Nat):List Fr→Nat→Bool
 | [],n=>Nat.ble 3 n
 | .seq c::r,n=>bif atJ jn (r.length+1) then false else bif ni c then Ia jn r (n+kA c) else Nat.ble 3 (n+kA c)
 | _::r,n=>bif atJ jn (r.length+1) then false else Ia jn r n
abbrev sxW (n0:Nat) (st:Bool) (op:Op) (env:List V) (x:Res):Res:=
 bb (st) ((match kq op with | none=>x | some y=>match evO env y with | some v=>stO n0 v x | none=>x)) (x)
def agZ (d:Nat):List (Nat×Nat)→Option Nat
 | []=>none
 | (e,b)::r=>bif e==d then some b else agZ d r
def Xl (d:Nat):List (Nat×Nat)→List (Nat×Nat)
 | []=>[]
 | (e,b)::r=>bif e==d then Xl d r else (e,b)::Xl d r
def knR (d:Option Nat) (kn:List (Nat×Nat)):List (Nat×Nat):=match d with | none=>kn | some d=>Xl d kn
def knS (d:Option Nat) (kn:List (Nat×Nat)):List (Nat×Nat):=match d with | none=>kn | some d=>(d,2)::kn
def wk (cx:Cx) (K:Out→St→Res):Nat→Md→St→Res
 | 0,m,s=>aiM cx K s m
 | n+1,m,s=>match m with
  | .E c fs jn=>match c with
   | .skip=>wk cx K n (.R .norm fs jn) s
   | .region id ops draw=>bb (draw) ((bb (BN ops) (wk cx K n (.G (.region id ops true) 0 s.H.length ([],[]) fs false [] jn) s) (none))) (wk cx K n (.G (.region id ops false) 0 s.H.length ([],[]) fs false [] jn) s)
   | .seq a b=>wk cx K n (.E a (.seq b::fs) jn) s
   | .block id a=>wk cx K n (.E a (.block id::fs) jn) s
   | .scope a=>wk cx K n (.E a (.scope a::fs) jn) s
   | .cond v a b=>onO (evO s.env v) fun v=>
    bb (ni a&&ni b&&Ia jn fs 0) (cnd v (wk cx K n (.E a fs (fs.length::jn)) s) (wk cx K n (.E b fs (fs.length::jn)) s)) (cnd v (wk cx K n (.E a fs jn) s) (wk cx K n (.E b fs jn) s))
   | .exit id=>wk cx K n (.R (.exit id) fs jn) s
   | .goto l=>wk cx K n (.R (.goto l) fs jn) s
   | .ret=>wk cx K n (.R .ret fs jn) s
   | .label _=>wk cx K n (.R .norm fs jn) s
   | .loop a=>itX cx a s.H.length (av cx K fs) cx.n (tidy s.H.length (IY (cx.M.named cx.fid) (i4 a ([],[])) false) s)
   | c=>bd cx c none (av cx K fs) s
  | .R o fs jn=>match o with
   | .norm=>bb (atJ jn fs.length) (av cx K fs .norm s) (match fs with
    | []=>K .norm s
    | .seq c::r=>wk cx K n (.E c r jn) s
    | .block _::r=>wk cx K n (.R .norm r jn) s
    | .scope _::r=>wk cx K n (.R .norm r jn) s
    | .scope2 _::r=>wk cx K n (.R .norm r jn) s)
   | .exit i=>match fs with
    | []=>K (.exit i) s
    | .seq _::r=>wk cx K n (.R (.exit i) r (jnT jn fs.length)) s
    | .block id::r=>bb (i==id) (wk cx K n (.R .norm r (jnT jn fs.length)) s) (wk cx K n (.R (.exit i) r (jnT jn fs.length)) s)
    | .scope _::r=>wk cx K n (.R (.exit i) r (jnT jn fs.length)) s
    | .scope2 _::r=>wk cx K n (.R (.exit i) r (jnT jn fs.length)) s
   | .goto l=>match fs with
    | []=>K (.goto l) s
    | .seq _::r=>wk cx K n (.R (.goto l) r (jnT jn fs.length)) s
    | .block _::r=>wk cx K n (.R (.goto l) r (jnT jn fs.length)) s
    | .scope a::r=>bb (bF l a) (wk cx K n (.L a l (.scope2 a::r) (jnT jn fs.length)) s) (wk cx K n (.R (.goto l) r (jnT jn fs.length)) s)
    | .scope2 a::r=>bb (bF l a) (none) (wk cx K n (.R (.goto l) r (jnT jn fs.length)) s)
   | o=>match fs with
    | []=>K o s
    | _::r=>wk cx K n (.R o r (jnT jn fs.length)) s
  | .L c l fs jn=>match c with
   | .seq a b=>bb (bF l a) (wk cx K n (.L a l (.seq b::fs) jn) s) (wk cx K n (.L b l fs jn) s)
   | .label l'=>bb (l'==l) (wk cx K n (.R .norm fs jn) s) (none)
   | c=>wY cx K c l fs s
  | .G c j n0 a fs g kn jn=>match (lJ c)[j]? with
   | none=>bb ((iX c).any) (apt a (wk cx K n (.R .norm fs jn) s)) (wk cx K n (.R .norm fs jn) s)
   | some (o,i)=>
    let run:=fun env g kn=>sxW n0 ((iX c).strict i) o.op env (opW cx ((iX c).calm i) ((iX c).ord i) o.op env s.H fun v h=>wk cx K n (.G c (j+1) n0 (HY (iX c) i o.op env a) fs g (knR o.dst kn) jn) ⟨mf env o.dst v,h⟩)
    let skip:=fun env g kn=>wk cx K n (.G c (j+1) n0 a fs g (knS o.dst kn) jn) ⟨mf env o.dst uu,s.H⟩
    match o.guard with
    | none=>bb (g) (fJ cx c j n0 a (av cx K fs) s) (run s.env g kn)
    | some (gj,want)=>match ((FX c)[gj]?).bind (·.dst) with
     | none=>none
     | some d=>match agZ d kn with
      | some _=>match s.env[d]? with
       | some (.lit (.bool b))=>bb (b==want) (run (s.env.set d (.lit (.bool b))) g kn) (skip (s.env.set d (.lit (.bool b))) g kn)
       | some (.lit (.tuple _))=>skip s.env g kn
       | _=>none
      | none=>bb g (fJ cx c j n0 a (av cx K fs) s)
       (onO s.env[d]? fun v=>bb want
        (gd v (run (s.env.set d (.lit (.bool true))) true ((d,1)::kn)) (skip (s.env.set d (.lit (.bool false))) true ((d,0)::kn)) (fJ cx c (j+1) n0 a (av cx K fs) ⟨mf s.env o.dst uu,s.H⟩))
        (gd v (skip (s.env.set d (.lit (.bool true))) true ((d,1)::kn)) (run (s.env.set d (.lit (.bool false))) true ((d,0)::kn)) (fJ cx c (j+1) n0 a (av cx K fs) ⟨mf s.env o.dst uu,s.H⟩)))
section
variable {cx:Cx} {K:Out→St→Res} {c:Code} {j n0:Nat} {a:List Nat×List Nat} {s:St} {r:Res}
theorem Ly (h:(lJ c)[j]? = none):fJ cx c j n0 a K s=if (iX c).any then apt a (K .norm s) else K .norm s:=by
 unfold fJ
 rw [List.drop_eq_nil_iff.2 (List.getElem?_eq_none_iff.1 h)]
 rfl
theorem Lj {o:Oper} {i:Nat} (h:(lJ c)[j]? = some (o,i)):fJ cx c j n0 a K s =
  (let run (env:List V):Res:=if dP n0 ((iX c).strict i) o.op env then (opV cx ((iX c).calm i) ((iX c).ord i) o.op env s.H).bind fun p=>fJ cx c (j+1) n0 (HY (iX c) i o.op env a) K ⟨mf env o.dst p.1,p.2⟩ else none
   let skip (env:List V):Res:=fJ cx c (j+1) n0 a K ⟨mf env o.dst (.lit undef),s.H⟩
   match o.guard with
   | none=>run s.env
   | some (j,want)=>
    match ((FX c)[j]?).bind (·.dst) with
    | none=>none
    | some d=>
     match s.env[d]? with
     | some (.lit (.bool b))=>Fp b want d s.env run skip
     | some (.lit (.tuple _))=>skip s.env
     | _=>none):=by
 obtain ⟨hj,he⟩:=List.getElem?_eq_some_iff.1 h
 unfold fJ
 rw [List.drop_eq_getElem_cons hj,he]
 rfl
theorem aah {st:Bool} {op:Op} {env:List V} {x:Res}:sxW n0 st op env x=if dP n0 st op env then x else none:=by
 unfold sxW dP mL
 cases st with
 | false=>rfl
 | true=>
  dsimp only [bb,if_true]
  cases kq op with
  | none=>rfl
  | some y=>
   have h:∀ q:Option V,(match q with | some v=>stO n0 v x | none=>x)=if (match (match q with | some v=>Hb v | none=>none) with | some i=>decide (i<n0) | none=>true)=true then x else none:=by
    intro q
    cases q with
    | none=>rfl
    | some v=>rfl
   exact h _
end
theorem Ji (cx:Cx) (K:Out→St→Res):∀ (n:Nat) (m:Md) (s:St),wk cx K n m s=aiM cx K s m
 | 0,_,_=>rfl
 | n+1,m,s=>by
  have ih:=Ji cx K n
  cases m with
  | E c fs jn=>
   cases c with
   | skip=>exact ih _ _
   | region id ops draw=>
    cases draw with
    | false=>exact (ih _ _).trans (go_reg0 rfl).symm
    | true=>
     show bb (BN ops) (wk cx K n _ s) none=_
     cases h:BN ops with
     | true=>exact (ih _ _).trans (go_reg1 h rfl).symm
     | false=>
      show none=bd cx (.region id ops true) none (av cx K fs) s
      simp [bd,h]
   | seq a b=>exact (ih _ _).trans (go_seq rfl).symm
   | block id a=>exact (ih _ _).trans (go_block rfl).symm
   | scope a=>exact (ih _ _).trans (go_scope rfl).symm
   | cond v a b=>
    show onO (evO s.env v) _=_
    cases h:evO s.env v with
    | none=>
     show none=bd cx (.cond v a b) none (av cx K fs) s
     simp only [bd,h]
    | some v=>
     refine Eq.trans ?_ (go_cond h rfl rfl).symm
     show bb _ _ _=_
     cases (ni a&&ni b&&Ia jn fs 0) <;> (simp only [bb,ih];rfl)
   | exit id=>exact ih _ _
   | goto l=>exact ih _ _
   | ret=>exact ih _ _
   | label l=>exact ih _ _
   | loop a=>rfl
   | _=>rfl
  | R o fs jn=>
   cases o with
   | norm=>
    show bb _ _ _=_
    cases atJ jn fs.length with
    | true=>rfl
    | false=>cases fs with
     | nil=>rfl
     | cons f r=>cases f <;> exact ih _ _
   | exit i=>
    cases fs with
    | nil=>rfl
    | cons f r=>cases f with
     | block id=>
      show bb (i==id) _ _=if i=id then _ else _
      by_cases h:i=id
      ·subst h
       rw [beq_self_eq_true,if_pos rfl]
       exact ih _ _
      ·rw [beq_false_of_ne h,if_neg h]
       exact ih _ _
     | _=>exact ih _ _
   | goto l=>
    cases fs with
    | nil=>rfl
    | cons f r=>cases f with
     | scope a=>
      show bb (bF l a) _ _=_
      cases h:bF l a with
      | true=>exact (ih _ _).trans (FE h rfl).symm
      | false=>exact (ih _ _).trans (C3 h rfl).symm
     | scope2 a=>
      show bb (bF l a) _ _=av cx K (.scope2 a::r) (.goto l) s
      cases h:bF l a with
      | true=>simp only [av,h,if_true]
      | false=>exact (ih _ _).trans (B4 h rfl).symm
     | _=>exact ih _ _
   | ret=>
    cases fs with
    | nil=>rfl
    | cons f r=>cases f <;> exact ih _ _
  | L c l fs jn=>
   cases c with
   | seq a b=>
    show bb (bF l a) _ _=_
    cases h:bF l a with
    | true=>exact (ih _ _).trans (Yb h rfl).symm
    | false=>exact (ih _ _).trans (O6 h rfl).symm
   | label l'=>
    show bb (l'==l) _ _=bd cx (.label l') (some l) (av cx K fs) s
    cases h:l'==l with
    | true=>simp only [bd,h,if_true];exact ih _ _
    | false=>simp only [bd,h];rfl
   | _=>rfl
  | G c j n0 a fs g kn jn=>
   show (match (lJ c)[j]? with | none=>_ | some (o,i)=>_)=fJ cx c j n0 a (av cx K fs) s
   cases h:(lJ c)[j]? with
   | none=>
    rw [Ly h]
    show bb _ _ _=_
    cases (iX c).any <;> (simp only [bb,ih];rfl)
   | some p=>
    obtain ⟨o,i⟩:=p
    have hrun:∀ env g kn,sxW n0 ((iX c).strict i) o.op env (opW cx ((iX c).calm i) ((iX c).ord i) o.op env s.H fun v h=>wk cx K n (.G c (j+1) n0 (HY (iX c) i o.op env a) fs g (knR o.dst kn) jn) ⟨mf env o.dst v,h⟩) =
      if dP n0 ((iX c).strict i) o.op env then (opV cx ((iX c).calm i) ((iX c).ord i) o.op env s.H).bind fun p=>fJ cx c (j+1) n0 (HY (iX c) i o.op env a) (av cx K fs) ⟨mf env o.dst p.1,p.2⟩ else none:=by
     intro env g kn
     rw [aah,Zn]
     congr 1
     congr 1
     funext p
     exact ih _ _
    have hskip:∀ env g kn,wk cx K n (.G c (j+1) n0 a fs g (knS o.dst kn) jn) ⟨mf env o.dst uu,s.H⟩=fJ cx c (j+1) n0 a (av cx K fs) ⟨mf env o.dst (.lit undef),s.H⟩:=fun env g kn=>ih _ _
    rw [Lj h]
    dsimp only
    simp only [hrun,hskip]
    cases hg:o.guard with
    | none=>
     cases g with
     | true=>rfl
     | false=>rfl
    | some q=>
     obtain ⟨gj,want⟩:=q
     dsimp only
     cases hd:((FX c)[gj]?).bind (·.dst) with
     | none=>rfl
     | some d=>
      dsimp only
      cases hk:agZ d kn with
      | some b=>
       dsimp only
       cases he:s.env[d]? with
       | none=>rfl
       | some v=>
        cases v with
        | lit x=>
         cases x with
         | bool t=>cases t <;> cases want <;> rfl
         | _=>rfl
        | _=>rfl
      | none=>
       cases g with
       | true=>rfl
       | false=>
        dsimp only [bb]
        cases he:s.env[d]? with
        | none=>rfl
        | some v=>
         cases v with
         | lit x=>
          cases x with
          | bool t=>cases t <;> cases want <;> rfl
          | tuple x=>cases want <;> rfl
          | _=>cases want <;> rfl
         | _=>cases want <;> rfl
section
variable {cx:Cx} {K:Out→St→Res} {c:Code} {j n0 n:Nat} {a:List Nat×List Nat} {s:St} {r:Res} {fs:List Fr} {o:Out}
theorem kG (h:wk cx K 999 (.G c j n0 a fs false [] []) s=r:=by kernel_rfl):fJ cx c j n0 a (av cx K fs) s=r:=(Ji ..).symm.trans h
theorem kJ (jn:List Nat) (h:wk cx K 999 (.G c j n0 a fs false [] jn) s=r:=by kernel_rfl):fJ cx c j n0 a (av cx K fs) s=r:=(Ji ..).symm.trans h
theorem kR (h:wk cx K 999 (.R o fs []) s=r:=by kernel_rfl):av cx K fs o s=r:=(Ji ..).symm.trans h
theorem kI (h:wk cx (dM cx c n0 K n) 999 (.E c [] []) s=r:=by kernel_rfl):itX cx c n0 K (n+1) s=r:=QM ((Ji ..).symm.trans h)
theorem kB {fn:Func} {args:List V} {H:Hp} (h:wk cx (aB cx.P fn) 999 (.E (an fn) [] []) ⟨args++List.replicate (fn.ntmps - args.length) uu,H⟩=r:=by kernel_rfl) (hb:fn.body=some (an fn):=by rfl):ak cx fn args H=r:=NI hb ((Ji ..).symm.trans h)
end
end Go.Ab
set_option linter.unusedVariables false
set_option linter.unusedSimpArgs false
namespace Go.Ab
end Go.Ab
