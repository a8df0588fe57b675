import Derived.Test.YtblpbpnilkfjhaaGreatAbLibB
import Derived.Shelf.Slices.Delete
set_option linter.unusedVariables false
set_option linter.unusedSimpArgs false
namespace Go.Ab
def ai:Code→List Nat→Code
 | c,[]=>c
 | .seq a b,i::p=>if i=0 then ai a p else ai b p
 | .cond _ a b,i::p=>if i=0 then ai a p else ai b p
 | .block _ a,_::p=>ai a p
 | .loop a,_::p=>ai a p
 | .scope a,_::p=>ai a p
 | .rangeFunc _ _ a b,i::p=>if i=0 then ai a p else ai b p
 | c,_=>c
def aj (fn:Func):Code:=fn.body.getD .skip
structure Sys where
 P:Program
 orc:FuncId→Option (List V→Hp→Option (V×Hp))
 keepRes:FuncId→FuncId→Option (Nat→Bool)
 keepArg:FuncId→Bool
 call:Nat→FuncId→List V→Hp→Option (V×Hp)
 yld:Nat→Nat→List V→Hp→Option (V×Hp)
inductive Fr where
 | seq (c:Code)
 | block (id:Nat)
 | scope (a:Code)
 | scope2 (a:Code)
def uu:V := .lit undef
abbrev Res:=Option (V×Hp)
def br (cx:Cx) (K:Out→St→Res):List Fr→Out→St→Res
 | [],o,s=>K o s
 | .seq c::fs,o,s=>match o with
  | .norm=>aY cx c none (br cx K fs) s
  | o=>br cx K fs o s
 | .block id::fs,o,s=>match o with
  | .exit id'=>if id'=id then br cx K fs .norm s else br cx K fs (.exit id') s
  | o=>br cx K fs o s
 | .scope a::fs,o,s=>match o with
  | .goto l => if bJ l a then aY cx a (some l) (fun o' s'' => match o' with | .goto l' => if bJ l' a then none else br cx K fs (.goto l') s'' | o' => br cx K fs o' s'') s else br cx K fs (.goto l) s
  | o=>br cx K fs o s
 | .scope2 a::fs,o,s=>match o with
  | .goto l=>if bJ l a then none else br cx K fs (.goto l) s
  | o=>br cx K fs o s
def itX (cx:Cx) (c:Code) (n0:Nat) (K:Out→St→Res) (n:Nat) (s:St):Res:=
 O6 (aY cx c none) n0 (cx.M.named cx.fid) (kO c ([],[])) K n s
def nt (cx:Cx) (c:Code) (n0:Nat) (K:Out→St→Res) (n:Nat):Out→St→Res:=fun o s'=>match o with
 | .norm=>itX cx c n0 K n (tidy n0 (Mm (cx.M.named cx.fid) (kO c ([],[])) false) s')
 | .ret=>K .ret s'
 | o=>K o (tidy n0 (Mm (cx.M.named cx.fid) (kO c ([],[])) true) s')
def Jq:Code→Array Oper
 | .region _ ops _=>ops
 | _ => #[]
def lm:Code→Rg
 | .region _ ops draw=>if draw then r9 ops else Rg.none
 | _=>Rg.none
def mW:Code→List (Oper×Nat)
 | .region _ ops draw=>if draw then ar ops else ops.toList.zipIdx
 | _=>[]
def DZ (ops:Array Oper):List Nat:=(ar ops).map (·.2)
def oL (cx:Cx) (c:Code) (j n0:Nat) (a:List Nat×List Nat) (K:Out→St→Res) (s:St):Res:=
 ER cx n0 (lm c) (Jq c) ((mW c).drop j) a (K .norm) s
def aX (P:Program) (fn:Func):Out→St→Res:=fun o s=>match o with
 | .norm=>(gw P fn.results.toList s).map fun v=>(v,s.H)
 | .ret=>(gw P fn.results.toList s).map fun v=>(v,s.H)
 | _=>none
def bm (x:Option V) (H:Hp) (k:V→Hp→Res):Res:=(x.map fun v=>(v,H)).bind fun p=>k p.1 p.2
def bp (x:Option (V×Hp)) (k:V→Hp→Res):Res:=x.bind fun p=>k p.1 p.2
def bs (x:Option Hp) (k:Hp→Res):Res:=(x.map fun H'=>(V.lit undef,H')).bind fun p=>k p.2
def cnd (c:V) (a b:Res):Res:=match c with
 | .lit (.bool t)=>bif t then a else b
 | _=>none
def gd (c:V) (a b u:Res):Res:=match c with
 | .lit (.bool t)=>bif t then a else b
 | .lit (.tuple _)=>u
 | _=>none
def cH (P:Program) (t:TypeId) (H:Hp):Option (V×Hp):=
 (fB P t).bind fun z=>if a7 (bR z) then let p:=bw (bR z) H;some (.ptr p.2.length 0 0 0,p.2++[.box p.1]) else none
def lu (v:V) (H:Hp):Option (V×Hp):=v.cells.bind fun vs=>let p:=bw vs H;some (.ptr p.2.length 0 0 0,p.2++[.box p.1])
def gA (P:Program) (wl:Nat) (t:TypeId) (len:Nat) (l:List (Nat×V)) (H:Hp):Option (V×Hp):=
 if true && !a8 (l.map (·.2)) then none else aG P wl t len l H
def oM (P:Program) (t:TypeId) (x:V) (H:Hp):Option (V×Hp):=if (lA P t).isSome then (Aa x H).map fun v=>(v,H) else none
def wB (P:Program) (wl:Nat) (t u:TypeId) (s x:V) (H:Hp):Option (V×Hp):=if (lA P u).isSome then be P wl t s x H else none
def apt (a:List Nat×List Nat) (k:Res):Res:=if Az a then k else none
def lgR (v:V) (a:List Nat×List Nat):List Nat×List Nat:=match Kl v with | some k=>(k::a.1,a.2) | none=>a
def lgW (v:V) (a:List Nat×List Nat):List Nat×List Nat:=match Kl v with | some k=>(a.1,k::a.2) | none=>a
def stB (n0:Nat) (v:V):Bool:=match Kl v with | some i=>i<n0 | none=>true
def stO (n0:Nat) (v:V) (k:Res):Res:=if stB n0 v then k else none
def anN:List (Option V)→Option (List V)
 | []=>some []
 | x::xs=>x.bind fun v=>(anN xs).bind fun vs=>some (v::vs)
def afB (l:List (Option V)) (H:Hp):Res:=((anN l).bind fun vs=>match vs with | [v]=>some v | vs=>some (.tup vs)).map fun v=>(v,H)
section steps
variable {cx:Cx} {K:Out→St→Res} {fs:List Fr} {s:St} {r:Res}
theorem Ps {fn:Func} {args:List V} {H:Hp} {c:Code} (hb:fn.body=some c) (h:br cx (aX cx.P fn) [.seq c] .norm ⟨args++List.replicate (fn.ntmps - args.length) uu,H⟩=r):BX cx fn args H=r:=by
 rw [← h]
 unfold BX
 rw [hb]
 have:(fun o s=>match o with
   | .norm=>(gw cx.P fn.results.toList s).map fun v=>(v,s.H)
   | .ret=>(gw cx.P fn.results.toList s).map fun v=>(v,s.H)
   | _=>none:Out→St→Res)=br cx (aX cx.P fn) []:=by
  funext o s
  cases o <;> rfl
 show aY cx c none _ _=aY cx c none (br cx (aX cx.P fn) []) _
 rw [← this]
 rfl
theorem go_seq {a b:Code} (h:br cx K (.seq a :: .seq b::fs) .norm s=r):br cx K (.seq (.seq a b)::fs) .norm s=r:=by
 rw [← h]
 show aY cx a none _ s=aY cx a none (br cx K (.seq b::fs)) s
 congr 1
theorem go_block {id:Nat} {a:Code} (h:br cx K (.seq a :: .block id::fs) .norm s=r):br cx K (.seq (.block id a)::fs) .norm s=r:=by
 rw [← h]
 show aY cx a none _ s=aY cx a none (br cx K (.block id::fs)) s
 congr 1
theorem go_scope {a:Code} (h:br cx K (.seq a :: .scope a::fs) .norm s=r):br cx K (.seq (.scope a)::fs) .norm s=r:=by
 rw [← h]
 show aY cx a none _ s=aY cx a none (br cx K (.scope a::fs)) s
 congr 1
theorem go_ret (h:br cx K fs .ret s=r):br cx K (.seq .ret::fs) .norm s=r:=h
theorem Ft {a:Code} {l:Nat} (hl:bJ l a=false) (h:br cx K fs (.goto l) s=r):br cx K (.scope a::fs) (.goto l) s=r:=by
 rw [← h]
 simp only [br]
 rw [hl]
 rfl
theorem DT {a:Code} {l:Nat} (hl:bJ l a=false) (h:br cx K fs (.goto l) s=r):br cx K (.scope2 a::fs) (.goto l) s=r:=by
 rw [← h]
 simp only [br]
 rw [hl]
 rfl
def B4 (cx:Cx) (K:Out→St→Res) (c:Code) (l:Nat) (fs:List Fr) (s:St):Res:=aY cx c (some l) (br cx K fs) s
theorem Iv {a:Code} {l:Nat} (hl:bJ l a=true) (h:B4 cx K a l (.scope2 a::fs) s=r):br cx K (.scope a::fs) (.goto l) s=r:=by
 rw [← h]
 simp only [br]
 rw [hl]
 simp only [if_true,B4]
 congr 1
theorem ZK {a b:Code} {l:Nat} (hl:bJ l a=true) (h:B4 cx K a l (.seq b::fs) s=r):B4 cx K (.seq a b) l fs s=r:=by
 rw [← h]
 simp only [B4,aY,hl,if_true]
 congr 1
theorem SD {a b:Code} {l:Nat} (hl:bJ l a=false) (h:B4 cx K b l fs s=r):B4 cx K (.seq a b) l fs s=r:=by
 rw [← h]
 simp [B4,aY,hl]
theorem go_cond {c:Operand} {a b:Code} {v:V} {A B:Res} (hc:evO s.env c=some v) (hA:br cx K (.seq a::fs) .norm s=A) (hB:br cx K (.seq b::fs) .norm s=B) :
  br cx K (.seq (.cond c a b)::fs) .norm s=cnd v A B:=by
 rw [← hA,← hB]
 show aY cx (.cond c a b) none (br cx K fs) s=_
 simp only [aY,hc]
 cases v with
 | lit x=>cases x <;> rfl
 | _=>rfl
theorem go_reg0 {id:Nat} {ops:Array Oper} (h:oL cx (.region id ops false) 0 s.H.length ([],[]) (br cx K fs) s=r):br cx K (.seq (.region id ops false)::fs) .norm s=r:=by
 rw [← h]
 show aY cx (.region id ops false) none (br cx K fs) s=_
 simp [aY,oL,lm,Jq,mW]
theorem go_reg1 {id:Nat} {ops:Array Oper} (hok:Eg ops=true) (h:oL cx (.region id ops true) 0 s.H.length ([],[]) (br cx K fs) s=r):br cx K (.seq (.region id ops true)::fs) .norm s=r:=by
 rw [← h]
 show aY cx (.region id ops true) none (br cx K fs) s=_
 simp [aY,oL,lm,Jq,mW,hok]
section ops
variable {id j n0:Nat} {ops:Array Oper} {a:List Nat×List Nat} {env:List V} {H:Hp} {o:Oper} {i:Nat} {L:List Nat}
theorem akg (hL:DZ ops=L) (hj:L[j]? = some i) (ho:ops.toList[i]? = some o):(ar ops).drop j=(o,i)::(ar ops).drop (j+1):=by
 subst hL
 simp only [DZ,List.getElem?_map,Option.map_eq_some_iff] at hj
 obtain ⟨p,hp,rfl⟩:=hj
 have hm:p ∈ ar ops:=List.mem_of_getElem? hp
 have hz:p ∈ ops.toList.zipIdx:=by
  simp only [ar,List.mem_append,List.mem_filter] at hm
  rcases hm with h | h <;> exact h.1
 have hx:ops.toList[p.2]? = some p.1:=by
  obtain ⟨x,k⟩:=p
  simpa [List.mem_zipIdx_iff_getElem?] using hz
 rw [hx] at ho
 cases ho
 rw [List.getElem?_eq_some_iff] at hp
 obtain ⟨hj,he⟩:=hp
 rw [List.drop_eq_getElem_cons hj,he]
def sx (n0:Nat) (st:Bool) (op:Op) (env:List V) (x:Res):Res:=if eq n0 st op env then x else none
theorem alI {st:Bool} {op:Op} {x:Res} (hst:st=false) (h:x=r):sx n0 st op env x=r:=by
 subst hst
 simpa [sx,eq] using h
theorem go_op1 (hL:DZ ops=L) (ha:(r9 ops).any=false) (hj:L[j]? = some i) (ho:ops.toList[i]? = some o) (hg:o.guard=none)
  (h:sx n0 ((r9 ops).strict i) o.op env ((opV cx ((r9 ops).calm i) ((r9 ops).ord i) o.op env H).bind (fun p=>oL cx (.region id ops true) (j+1) n0 a K ⟨nu env o.dst p.1,p.2⟩))=r):oL cx (.region id ops true) j n0 a K ⟨env,H⟩=r:=by
 rw [← h]
 simp only [oL,lm,Jq,mW,if_true,akg hL hj ho]
 simp only [ER,hg]
 simp [Kc,ha,sx]
variable {gj d:Nat} {v:V} {A B C:Res}
end ops
theorem amh {X:Option (V×Hp)} {F:V×Hp→Res} {v:V} {H:Hp} (h1:X=some (v,H)) (h2:F (v,H)=r):X.bind F=r:=by
 subst h1
 exact h2
theorem Vq {c:Code} {n0 n:Nat} (h:br cx (nt cx c n0 K n) [.seq c] .norm s=r):itX cx c n0 K (n+1) s=r:=by
 rw [← h]
 show aY cx c none _ s=aY cx c none (br cx (nt cx c n0 K n) []) s
 congr 1
end steps
end Go.Ab
namespace Go.Ab
section combinators
variable {H:Hp} {K:V→Hp→Res} {k:Hp→Res} {A B C:Res}
@[congr] theorem agv {x y:Option V} (h:x=y):bm x H K=bm y H K:=by rw [h]
@[congr] theorem ago {x y:Option (V×Hp)} (h:x=y):bp x K=bp y K:=by rw [h]
@[congr] theorem agh {x y:Option Hp} (h:x=y):bs x k=bs y k:=by rw [h]
@[congr] theorem acD {x y:V} (h:x=y):cnd x A B=cnd y A B:=by rw [h]
@[congr] theorem agj {x y:V} (h:x=y):gd x A B C=gd y A B C:=by rw [h]
def ob {α β:Type} (x:Option α) (k:α→Option β):Option β:=x.bind k
def ck {β:Type} (c:Bool) (k:Option β):Option β:=bif c then k else none
theorem Xu {v:V}:bm (some v) H K=K v H:=rfl
theorem Yi:bm none H K=none:=rfl
theorem aaA {v:V} {h:Hp}:bp (some (v,h)) K=K v h:=rfl
theorem X6:bp none K=none:=rfl
theorem aau {h:Hp}:bs (some h) k=k h:=rfl
theorem YI:bs none k=none:=rfl
theorem abR {α:Type} {x:Option α} {f:α→V}:bm (x.map f) H K=ob x fun a=>K (f a) H:=by cases x <;> rfl
theorem aaY {α:Type} {x:Option α} {f:α→Option V}:bm (x.bind f) H K=ob x fun a=>bm (f a) H K:=by cases x <;> rfl
theorem afg {α:Type} {x:Option α} {f:α→V×Hp}:bp (x.map f) K=ob x fun a=>K (f a).1 (f a).2:=by cases x <;> rfl
theorem Zr {α:Type} {x:Option α} {f:α→Option (V×Hp)}:bp (x.bind f) K=ob x fun a=>bp (f a) K:=by cases x <;> rfl
theorem ab6 {α:Type} {x:Option α} {f:α→Hp}:bs (x.map f) k=ob x fun a=>k (f a):=by cases x <;> rfl
theorem aa6 {α:Type} {x:Option α} {f:α→Option Hp}:bs (x.bind f) k=ob x fun a=>bs (f a) k:=by cases x <;> rfl
theorem aek {c:Bool} {x:Option V}:bm (bif c then x else none) H K=ck c (bm x H K):=by cases c <;> rfl
theorem aeT {c:Bool} {x:Option (V×Hp)}:bp (bif c then x else none) K=ck c (bp x K):=by cases c <;> rfl
theorem ae9 {c:Bool} {x:Option Hp}:bs (bif c then x else none) k=ck c (bs x k):=by cases c <;> rfl
theorem ajl {t:Bool}:cnd (.lit (.bool t)) A B=bif t then A else B:=rfl
theorem an9 {t:Bool}:gd (.lit (.bool t)) A B C=bif t then A else B:=rfl
theorem aow:gd uu A B C=C:=rfl
theorem cq {β:Type} {A:Option β}:ck true A=A:=rfl
theorem w9 {β:Type} {A:Option β}:ck false A=none:=rfl
theorem ab {α β:Type} {a:α} {f:α→Option β}:ob (some a) f=f a:=rfl
theorem aaI {α β:Type} {f:α→Option β}:ob none f=none:=rfl
end combinators
def idx {α:Type} (l:List α) (i:Int):Option α:=if 0≤i then l[i.toNat]? else none
theorem abi {α:Type} (l:List α) (i:Nat):idx l (i:Int)=l[i]? := by simp [idx]
section ops
variable {P:Program} {t:TypeId} {k k':IntKind} {a b:Int} {x y:V}
theorem T3:iJ P .add t (.lit (.int k a)) (.lit (.int k b))=some (.lit (.int k (k.wrap (a+b)))):=by simp [iJ,eJ]
theorem TE:iJ P .sub t (.lit (.int k a)) (.lit (.int k b))=some (.lit (.int k (k.wrap (a - b)))):=by simp [iJ,eJ]
theorem Ud:iJ P .mul t (.lit (.int k a)) (.lit (.int k b))=some (.lit (.int k (k.wrap (a*b)))):=by simp [iJ,eJ]
theorem UL:iJ P .eql t (.lit (.int k a)) (.lit (.int k b))=some (.lit (.bool (a==b))):=by simp [iJ,eJ]
theorem Tz : iJ P .neq t (.lit (.int k a)) (.lit (.int k b)) = some (.lit (.bool (a != b))) := by simp [iJ, eJ]
theorem Sk:iJ P .lss t (.lit (.int k a)) (.lit (.int k b))=some (.lit (.bool (decide (a<b)))):=by simp [iJ,eJ]
theorem TP:iJ P .leq t (.lit (.int k a)) (.lit (.int k b))=some (.lit (.bool (decide (a≤b)))):=by simp [iJ,eJ]
theorem TD:iJ P .gtr t (.lit (.int k a)) (.lit (.int k b))=some (.lit (.bool (decide (b<a)))):=by simp [iJ,eJ]
theorem Rt:iJ P .geq t (.lit (.int k a)) (.lit (.int k b))=some (.lit (.bool (decide (b≤a)))):=by simp [iJ,eJ]
theorem Ty : iJ P .quo t (.lit (.int k a)) (.lit (.int k b)) = bif b != 0 then some (.lit (.int k (k.wrap (a.tdiv b)))) else none := by
  by_cases h : b = 0
  · simp [iJ, eJ, h]
  · simp [iJ, eJ, h, (bne_iff_ne).2 h]
theorem RN : iJ P .rem t (.lit (.int k a)) (.lit (.int k b)) = bif b != 0 then some (.lit (.int k (a.tmod b))) else none := by
  by_cases h : b = 0
  · simp [iJ, eJ, h]
  · simp [iJ, eJ, h, (bne_iff_ne).2 h]
theorem QK {p q:Bool} (h:pd P t=true):iJ P .eql t (.lit (.bool p)) (.lit (.bool q))=some (.lit (.bool (p==q))):=by simp [iJ,h]
theorem Qy {p q:Bool} (h:pd P t=true):iJ P .neq t (.lit (.bool p)) (.lit (.bool q))=some (.lit (.bool (!(p==q)))):=by simp [iJ,h]
theorem aaV {p:Bool}:vUn .not (.lit (.bool p))=some (.lit (.bool !p)):=rfl
theorem YB:vUn .neg (.lit (.int k a))=some (.lit (.int k (k.wrap (0 - a)))):=rfl
theorem aaF {p:Bool}:E7 (.lit (.bool p)) x y=some (bif p then x else y):=rfl
theorem LM {l:List V}:kj (.tup (x::l)) 0=some x:=rfl
theorem LO {l:List V}:kj (.tup (x::y::l)) 1=some y:=rfl
theorem L9 {z:V} {l:List V}:kj (.tup (x::y::z::l)) 2=some z:=rfl
end ops
def aw (k:IntKind) (n:Int):List V:=[.lit (.int k n)]
def lx (b:Bool):List V:=[.lit (.bool b)]
section mem
variable {P:Program} {t:TypeId} {H:Hp} {wl:Nat}
theorem Vw {cs:List V}:nG P t (.rp cs) H=aN P t cs:=rfl
def ldB (P:Program) (t:TypeId) (g row off:Nat):Option B→Option V
 | some (.box cs)=>bif g==0&&row==0 then aN P t (cs.drop off) else none
 | some (.rows _ rs g' _)=>bif g==g' then (rs[row]?).bind fun r=>aN P t (r.drop off) else none
 | _=>none
theorem Q6 {id g row off:Nat}:nG P t (.ptr id g row off) H=ldB P t g row off (H[id]?):=by
 unfold nG ldB
 dsimp only
 generalize H[id]? = b0
 cases b0 with
 | none=>rfl
 | some b=>cases b <;> simp [Bool.cond_eq_ite]
theorem Xr {off:Nat} {cs:List V}:ldB P t 0 0 off (some (.box cs))=aN P t (cs.drop off):=rfl
theorem TV {α:Type} {l:List α} {enc:α→List V} {g row off e:Nat} {lv:Bool} :
  ldB P t g row off (some (.rows e (l.map enc) g lv))=(l[row]?).bind fun x=>aN P t ((enc x).drop off):=by
 simp [ldB]
 cases l[row]? <;> rfl
def Ri (P : Program) (wl : Nat) (t : TypeId) (id g row off : Nat) (vs : List V) (H : Hp) : Option B → Option Hp
  | some (.box cs) =>
    bif g == 0 && row == 0 && aM P t != 0 && vs.length == aM P t && decide (off + vs.length ≤ cs.length) then
      some ((bw vs H).2.set id (.box (spl cs off (bw vs H).1)))
    else none
  | some (.rows _ _ _ _) => (fzL wl true vs H).bind fun p =>
    match p.2[id]? with
    | some (.rows e rs g' true) =>
      bif g == g' && aM P t != 0 && vs.length == aM P t then
        (rs[row]?).bind fun r => bif decide (off + p.1.length ≤ r.length) then some (p.2.set id (.rows e (rs.set row (spl r off p.1)) g' true)) else none
      else none
    | _ => none
  | _ => none
theorem MF {id g row off : Nat} {v : V} : oW P wl t (.ptr id g row off) v H = (v.cells).bind fun vs => bif Nat.ble wl id then Ri P wl t id g row off vs H (H[id]?) else none := by
  unfold oW
  cases hv : v.cells with
  | none => simp
  | some vs =>
    simp only [Option.bind_some]
    cases hw : Nat.ble wl id with
    | false => simp
    | true =>
      simp only [if_true, cond_true]
      unfold Ri
      generalize H[id]? = b0
      cases b0 with
      | none => rfl
      | some b =>
        cases b with
        | box cs => simp only [Bool.cond_eq_ite, Bool.and_eq_true, beq_iff_eq, bne_iff_ne, decide_eq_true_eq, and_assoc]
        | rows e rs g' lv =>
          simp only
          congr 1
          funext p
          generalize p.2[id]? = b1
          cases b1 with
          | none => rfl
          | some b => 
            cases b with
            | rows e rs g' lv => cases lv <;> simp [Bool.cond_eq_ite, and_assoc]
            | _ => rfl
        | _ => rfl
theorem b8 {α : Type} {l : List α} {enc : α → List V} {e : TypeId} {k : IntKind} {n : Int} (hu : P.underlying t = some (.slice e)) (hs : ∀ x, (enc x).length = aM P e) (hz : (aM P e != 0) = true) :
    au P t (.ro (l.map enc)) (.lit (.int k n)) H = (idx l n).map fun x => .rp (enc x) := by
  have hz' : aM P e ≠ 0 := by simpa using hz
  unfold au idx
  simp only [hu]
  split
  · cases hl : l[n.toNat]? with
    | none => simp [hl]
    | some x => simp [hl, hs, hz']
  · rfl
def ixB (sz g len id:Nat) (n:Int):Option B→Option V
 | some (.rows s _ g' _)=>bif g==g'&&s==sz then bif decide (0≤n∧n.toNat<len) then some (.ptr id g n.toNat 0) else none else none
 | _=>none
theorem aZ {id g len : Nat} {e : TypeId} {k : IntKind} {n : Int} (hu : P.underlying t = some (.slice e)) (hz : (aM P e != 0) = true) :
    au P t (.own id g len) (.lit (.int k n)) H = ixB (aM P e) g len id n (H[id]?) := by
  have hz' : aM P e ≠ 0 := by simpa using hz
  unfold au ixB
  simp only [hu]
  by_cases hn : 0 ≤ n
  · simp only [hn, if_true, true_and]
    generalize H[id]? = b0
    cases b0 with
    | none => rfl
    | some b =>
      cases b with
      | rows s rs g' lv =>
        simp only [hz', ne_eq, not_false_eq_true, and_true, Bool.cond_eq_ite, Bool.and_eq_true, beq_iff_eq, decide_eq_true_eq]
      | _ => rfl
  · simp only [hn, if_false, false_and, decide_false]
    generalize H[id]? = b0
    cases b0 with
    | none => rfl
    | some b =>
      cases b with
      | rows s rs g' lv => simp
      | _ => rfl
theorem S1 {sz g len id:Nat} {n:Int} {rs:List (List V)} {lv:Bool}:ixB sz g len id n (some (.rows sz rs g lv))=bif decide (0≤n∧n.toNat<len) then some (.ptr id g n.toNat 0) else none:=by
 simp [ixB]
theorem XD {rows:List (List V)}:Aa (.ro rows) H=some (.lit (.int .i64 rows.length)):=rfl
theorem U7:Aa .nil H=some (.lit (.int .i64 0)):=rfl
def lnB (g len:Nat):Option B→Option V
 | some (.rows _ _ g' _)=>bif g==g' then some (.lit (.int .i64 len)) else none
 | _=>none
theorem Vs {id g len:Nat}:Aa (.own id g len) H=lnB g len (H[id]?):=by
 unfold Aa lnB
 dsimp only
 generalize H[id]? = b0
 cases b0 with
 | none=>rfl
 | some b=>cases b <;> simp [Bool.cond_eq_ite]
theorem Vr {g len e:Nat} {rs:List (List V)} {lv:Bool}:lnB g len (some (.rows e rs g lv))=some (.lit (.int .i64 len)):=by simp [lnB]
theorem Hc {v:Value} (h:v.oneCell'=true):lu (.lit v) H=some (.ptr H.length 0 0 0,H++[.box [.lit v]]):=by
 simp [lu,V.cells,V.one,h,bw]
theorem PI {k:IntKind} {n:Int}:lu (.lit (.int k n)) H=some (.ptr H.length 0 0 0,H++[.box [.lit (.int k n)]]):=Hc rfl
theorem MO {b:Bool}:lu (.lit (.bool b)) H=some (.ptr H.length 0 0 0,H++[.box [.lit (.bool b)]]):=Hc rfl
theorem T4 {r:List (List V)}:lu (.ro r) H=some (.ptr H.length 0 0 0,H++[.box [.ro r]]):=by simp [lu,V.cells,V.one,bw]
theorem NN {l:List V}:lu (.agg l) H=some (.ptr (bw l H).2.length 0 0 0,(bw l H).2++[.box (bw l H).1]):=by simp [lu,V.cells]
theorem Uf:bw [] H=([],H):=rfl
theorem Vp {v:Value} {l:List V}:bw (.lit v::l) H=(.lit v::(bw l H).1,(bw l H).2):=rfl
theorem Yt {r:List (List V)} {l:List V}:bw (.ro r::l) H=(.ro r::(bw l H).1,(bw l H).2):=rfl
theorem UX {i g n:Nat} {l:List V}:bw (.own i g n::l) H=(.own i g n::(bw l H).1,(bw l H).2):=rfl
theorem T2 {i g n o:Nat} {l:List V}:bw (.ptr i g n o::l) H=(.ptr i g n o::(bw l H).1,(bw l H).2):=rfl
theorem abn {f:Fn} {a b l:List V}:bw (.fn f a b::l) H=(.fn f a b::(bw l H).1,(bw l H).2):=rfl
theorem NY {l:List V}:bw (.nil::l) H=(.own H.length 0 0::(bw l (H++[.rows 0 [] 0 true])).1,(bw l (H++[.rows 0 [] 0 true])).2):=rfl
theorem Fv {v:Value} (h:v.oneCell'=true):V.cells (.lit v)=some [.lit v]:=by simp [V.cells,V.one,h]
theorem QB {k:IntKind} {n:Int}:V.cells (.lit (.int k n))=some [.lit (.int k n)]:=Fv rfl
theorem Nw {b:Bool}:V.cells (.lit (.bool b))=some [.lit (.bool b)]:=Fv rfl
theorem Va {r:List (List V)}:V.cells (.ro r)=some [.ro r]:=rfl
theorem QG {i g n:Nat}:V.cells (.own i g n)=some [.own i g n]:=rfl
theorem Q9 {i g n o:Nat}:V.cells (.ptr i g n o)=some [.ptr i g n o]:=rfl
theorem UK {f:Fn} {a b:List V}:V.cells (.fn f a b)=some [.fn f a b]:=rfl
theorem Oo:V.cells .nil=some [.nil]:=rfl
theorem Ql {l:List V}:V.cells (.agg l)=some l:=rfl
theorem Ui {id g row off:Nat}:Nq (.ptr id g row off) H=(match H[id]? with
  | some (.box _)=>bif g==0 then some (.ptr id g row off) else none
  | some (.rows _ _ g' _)=>bif g==g' then some (.ptr id g row off) else none
  | _=>none):=by
 unfold Nq
 dsimp only
 generalize H[id]? = b0
 cases b0 with
 | none=>rfl
 | some b=>cases b <;> simp [Bool.cond_eq_ite]
theorem YK {f:FuncId} {a b:List V}:Nq (.fn (.func f) a b) H=some (.fn (.func f) a b):=rfl
theorem Yz {c:List V}:Nq (.rp c) H=some (.rp c):=rfl
theorem Qd {cx:Cx} {c:Code} {n0:Nat} {K:Out→St→Res} {n:Nat} {s:St}:nt cx c n0 K n .ret s=K .ret s:=rfl
theorem ac0 {v:V}:afB [some v] H=some (v,H):=rfl
theorem afN {v w:V}:afB [some v,some w] H=some (.tup [v,w],H):=rfl
theorem afy {v w x:V}:afB [some v,some w,some x] H=some (.tup [v,w,x],H):=rfl
end mem
end Go.Ab
namespace Go.Ab
mutual
def V.data:V→Bool
 | .lit _=>true
 | .ro _=>true
 | .nil=>true
 | .agg cs=>lj cs
 | .fn _ a b=>PP a&&PP b
 | _=>false
def PP:List V→Bool
 | []=>true
 | v::vs=>v.data&&PP vs
def lj:List V→Bool
 | []=>true
 | .lit _::vs=>lj vs
 | .ro _::vs=>lj vs
 | _::_=>false
end
theorem lR:∀ {l:List V},lj l=true→a8 l=true
 | [],_=>rfl
 | .lit _::vs,h=>by
  have:=lR (l:=vs) (by simpa [lj] using h)
  simp [a8,V.pure,this]
 | .ro _::vs,h=>by
  have:=lR (l:=vs) (by simpa [lj] using h)
  simp [a8,V.pure,this]
 | .nil::_,h | .any::_,h | .junk::_,h | .agg _::_,h | .tup _::_,h | .fn .. :: _,h | .yld _::_,h | .rp _::_,h | .ptr .. :: _,h | .own .. :: _,h | .map _::_,h=>by simp [lj] at h
mutual
theorem OX:∀ {v:V},v.data=true→v.pure=true
 | .lit _,_ | .ro _,_ | .nil,_=>rfl
 | .agg cs,h=>lR h
 | .fn _ a b,h=>by
  simp [V.data] at h
  simp [V.pure,uj h.1,uj h.2]
 | .any,h | .junk,h | .tup _,h | .yld _,h | .rp _,h | .ptr ..,h | .own ..,h | .map _,h=>by simp [V.data] at h
theorem uj:∀ {l:List V},PP l=true→a8 l=true
 | [],_=>rfl
 | v::vs,h=>by
  simp [PP] at h
  simp [a8,OX h.1,uj h.2]
end
def pi (cx:Cx) (g:FuncId) (args:List V):Option (V×Hp):=(cx.call 0 g args []).bind fun p=>lU (cx.M.keepRes cx.fid g) p.1 p.2
section ret
variable {H:Hp}
theorem TS {v:Value} {h:Hp}:lU none (.lit v) h=some (.lit v,[]):=rfl
def fzB (wl id g len:Nat) (H:Hp):Option B→Option (V×Hp)
 | some (.rows e rs g' _)=>bif g==g'&&decide (len≤rs.length)&&(di rs&&Nat.ble wl id) then some (.ro (rs.take len),H.set id (.rows e rs g' false)) else none
 | _=>none
theorem uK {wl id g len:Nat}:fzC wl (.own id g len) H=fzB wl id g len H (H[id]?):=by
 unfold fzC fzB
 dsimp only
 generalize H[id]? = b
 cases b with
 | none=>rfl
 | some b=>
  cases b with
  | rows e rs g' lv=>
   by_cases h1:g=g'
   ·by_cases h2:len≤rs.length <;> cases h3:(di rs&&Nat.ble wl id) <;> simp [h1,h2]
   ·simp [h1,beq_false_of_ne h1]
  | _=>rfl
theorem Tc {α:Type} {l:List α} {enc:α→List V} {wl id g e len:Nat} {lv:Bool} (hl:len=l.length) (hp:∀ x,a8 (enc x)=true) (hw:Nat.ble wl id=true) :
  fzB wl id g len H (some (.rows e (l.map enc) g lv))=some (.ro (l.map enc),H.set id (.rows e (l.map enc) g false)):=by
 subst hl
 have h1:di (l.map enc)=true:=by
  rw [di,List.all_eq_true]
  intro r hr
  obtain ⟨x,_,rfl⟩:=List.mem_map.1 hr
  exact hp x
 have h2:(l.map enc).take l.length=l.map enc:=by rw [List.take_of_length_le];simp
 simp [fzB,h1,hw,h2]
theorem Rv {α:Type} {l:List α} {enc:α→List V} {id g e len:Nat} {lv:Bool} {h:Hp} (hb:h[id]? = some (.rows e (l.map enc) g lv)) (hl:len=l.length) (hp:∀ x,a8 (enc x)=true) :
  lU none (.own id g len) h=some (.ro (l.map enc),[]):=by
 simp only [lU,fzR,GP,fzA,uK,hb,Tc hl hp (by simp:Nat.ble 0 id=true),Option.bind_some,V.pure,if_true]
end ret
section app
variable {P:Program} {wl:Nat} {t:TypeId} {H:Hp}
theorem Hd {r:List (List V)}:bT (.ro r) H=some r:=rfl
theorem My:bT .nil H=some []:=rfl
def roB (g len:Nat):Option B→Option (List (List V))
 | some (.rows _ rs g' _)=>bif g==g'&&decide (len≤rs.length) then some (rs.take len) else none
 | _=>none
theorem Ni {id g len:Nat}:bT (.own id g len) H=roB g len (H[id]?):=by
 unfold bT roB
 dsimp only
 generalize H[id]? = b
 cases b with
 | none=>rfl
 | some b=>cases b <;> simp [Bool.cond_eq_ite]
def apB (wl _e:Nat) (sz bytes id g len:Nat) (xs:List (List V)) (H:Hp):Option B→Option (V×Hp)
 | some (.rows s rs g' live)=>
  bif Nat.ble wl id&&(g==g')&&decide (len≤rs.length)&&(live||len==rs.length)&&(s==sz||s==0)&&decide ((len+xs.length)*bytes≤70368744177664) then
   some (.own id (g+1) (len+xs.length),H.set id (.rows sz (rs.take len++xs) (g+1) live)) else none
 | _=>none
theorem eg {e:TypeId} {id g len:Nat} {x:V} (he:lA P t=some e) (hg:Ix P e=true) :
  be P wl t (.own id g len) x H=(bT x H).bind fun xs=>bif b7 (aM P e) xs then apB wl e (aM P e) (P.bytesOf e) id g len xs H (H[id]?) else none:=by
 unfold be
 simp only [he]
 cases hr:bT x H with
 | none=>rfl
 | some xs=>
  simp only [Option.bind_some,hg,Bool.and_true]
  cases b7 (aM P e) xs with
  | false=>rfl
  | true=>
   simp only [if_true,cond_true,apB]
   generalize H[id]? = b
   cases b with
   | none=>rfl
   | some b=>
    cases b with
    | rows s rs g' lv=>simp [Bool.cond_eq_ite,and_assoc]
    | _=>rfl
theorem eh {e:TypeId} {x:V} (he:lA P t=some e) (hg:Ix P e=true) :
  be P wl t .nil x H=(bT x H).bind fun xs=>bif b7 (aM P e) xs then bif decide (xs.length*P.bytesOf e≤70368744177664) then some (.own H.length 0 xs.length,H++[.rows (aM P e) xs 0 true]) else none else none:=by
 unfold be
 simp only [he]
 cases hr:bT x H with
 | none=>rfl
 | some xs=>
  simp only [Option.bind_some,hg,Bool.and_true]
  cases b7 (aM P e) xs with
  | false=>rfl
  | true=>simp [Bool.cond_eq_ite]
theorem eF {α:Type} {l:List α} {enc:α→List V} {sz:Nat} (h:∀ x,(enc x).length=sz):b7 sz (l.map enc)=true:=by
 rw [b7,List.all_eq_true]
 intro r hr
 obtain ⟨x,_,rfl⟩:=List.mem_map.1 hr
 simp [h]
def room (n bytes:Nat):Bool:=decide (n*bytes≤70368744177664)
theorem Ey {e : TypeId} {n : Int} {z : Value} {Z : List V} (he : lA P t = some e) (hz : fB P e = some z) (hZ : aV.fzZ (bR z) = Z) (ho : (a7 (bR z) && (bR z).length == aM P e && aM P e != 0) = true) :
    aV P t (.lit (.int .i64 n)) (.lit (.int .i64 n)) H = bif decide (0 ≤ n ∧ n ≤ 9223372036854775807 ∧ n * P.bytesOf e ≤ 70368744177664) then some (.own H.length 0 n.toNat, H ++ [.rows (aM P e) (List.replicate n.toNat Z) 0 true]) else none := by
  unfold aV
  simp only [he, hz, ho, if_true, hZ, true_and, Bool.cond_eq_ite, decide_eq_true_eq]
end app
theorem gm {α:Type} {l:List α} {enc:α→List V} {n:Nat} (hp:∀ x,a8 (enc x)=true):mY n (l.map enc)=l.map enc:=by
 have h1:di (l.map enc)=true:=by
  rw [di,List.all_eq_true]
  intro r hr
  obtain ⟨x,_,rfl⟩:=List.mem_map.1 hr
  exact hp x
 simp [mY,h1]
theorem fw {α:Type} {l:List α} {enc:α→List V} {n:Nat} (hp:∀ x,a8 (enc x)=true):kT n (l.map enc)=l.map enc:=by
 have h1:di (l.map enc)=true:=by
  rw [di,List.all_eq_true]
  intro r hr
  obtain ⟨x,_,rfl⟩:=List.mem_map.1 hr
  exact hp x
 simp [kT,h1]
theorem Nf {n:Nat}:kT n []=[]:=rfl
theorem QM {n:Nat}:mY n []=[]:=rfl
theorem Ah (k:IntKind) (x:Int):a8 (aw k x)=true:=rfl
theorem um (x:Bool):a8 (lx x)=true:=rfl
theorem mi (x:Int×List Int):a8 (ak x)=true:=rfl
theorem o9 (x:Int×Int×Int):a8 (aB x)=true:=rfl
theorem NQ {k:IntKind} {l:List Int} {n:Nat}:mY n (l.map (aw k))=l.map (aw k):=gm (Ah k)
theorem Me {l:List Bool} {n:Nat}:mY n (l.map lx)=l.map lx:=gm um
theorem Nm {l:Tyt} {n:Nat}:mY n (l.map ak)=l.map ak:=gm mi
theorem Jg {l:Tye} {n:Nat}:mY n (l.map aB)=l.map aB:=gm o9
theorem Nc {k:IntKind} {l:List Int} {n:Nat}:kT n (l.map (aw k))=l.map (aw k):=fw (Ah k)
theorem IY {l:List Bool} {n:Nat}:kT n (l.map lx)=l.map lx:=fw um
theorem Im {l:Tyt} {n:Nat}:kT n (l.map ak)=l.map ak:=fw mi
theorem Hj {l:Tye} {n:Nat}:kT n (l.map aB)=l.map aB:=fw o9
theorem Nv {n:Nat} {cs:List V}:B.shift n (.box cs) = .box (f9 n cs):=rfl
theorem Hw {n e g:Nat} {rs:List (List V)} {l:Bool}:B.shift n (.rows e rs g l) = .rows e (kT n rs) g l:=rfl
theorem OH {n:Nat} {cs:List V}:B.kill n (.box cs) = .box (iu n cs):=rfl
theorem LH {n e g:Nat} {rs:List (List V)} {l:Bool}:B.kill n (.rows e rs g l) = .rows e (mY n rs) g l:=rfl
theorem L0 {n:Nat}:B.kill n .dead = .dead:=rfl
theorem OP {l:List Bool} {i:Nat} {b:Bool}:(l.map lx).set i [.lit (.bool b)]=(l.set i b).map lx:=by rw [List.map_set];rfl
theorem Rk {k:IntKind} {l:List Int} {i:Nat} {b:Int}:(l.map (aw k)).set i [.lit (.int k b)]=(l.set i b).map (aw k):=by rw [List.map_set];rfl
theorem QN {n:Nat} {b:Bool}:List.replicate n [V.lit (.bool b)]=(List.replicate n b).map lx:=by rw [List.map_replicate];rfl
theorem Su {k:IntKind} {n:Nat} {b:Int}:List.replicate n [V.lit (.int k b)]=(List.replicate n b).map (aw k):=by rw [List.map_replicate];rfl
theorem Sx {α:Type} {l:List α} {f:α→List V} {i:Nat}:(l.map f)[i]? = (l[i]?).map f:=List.getElem?_map
theorem aoE {n:Nat}:Nat.ble 0 n=true:=by cases n <;> rfl
theorem RS (x:Int×List Int):ak x=[.lit (.int .i64 x.1),.ro (x.2.map (aw .i64))]:=rfl
theorem Pt {keep:Option (Nat→Bool)} {v:Value} {h:Hp}:lU keep (.lit v) h=some (.lit v,[]):=by
 cases keep <;> rfl
theorem Uo {keep:Option (Nat→Bool)} {r:List (List V)} {h:Hp}:lU keep (.ro r) h=some (.ro r,[]):=by
 cases keep <;> rfl
theorem Wq {z:Int} (h1 : -9223372036854775808≤z) (h2:z≤9223372036854775807):IntKind.i64.wrap z=z:=by
 simp [IntKind.wrap,IntKind.bits,IntKind.signed]
 omega
end Go.Ab
namespace Go.Ab
def bdK (id n:Nat):Out→St→Res:=fun o s=>match s.H[id]? with
 | some (.loop l)=>some (.lit (.bool (dV o).isNone),oc n (s.H.set id (.loop { l with st:=if (dV o).isNone then .ready else .done,pending:=dV o })))
 | _=>none
def asK (cx:Cx) (id n:Nat) (body:Code):Out→St→Res:=fun o s=>match o with
 | .norm=>match s.H[id]? with
  | some (.loop l)=>if l.st = .ready then br cx (bdK id n) [.seq body] .norm ⟨s.env,s.H.set id (.loop { l with st := .busy })⟩ else none
  | _=>none
 | _=>none
def rfK (K:Out→St→Res) (env:List V) (n:Nat) (p:V×Hp):Res:=
 match p.2[n]? with
 | some (.loop l)=>if l.st = .busy then none else
  match l.pending with
  | none=>K .norm ⟨env,oc n p.2⟩
  | some .ret=>K .ret ⟨env,oc n p.2⟩
  | some (.exit id)=>K (.exit id) ⟨env,oc n p.2⟩
  | some (.goto id)=>K (.goto id) ⟨env,oc n p.2⟩
  | some _=>none
 | _=>none
def DL {σ α:Type} (step:σ→α→Bool×σ):List α→σ→Bool×σ
 | [],s=>(true,s)
 | x::r,s=>if (step s x).1 then DL step r (step s x).2 else step s x
end Go.Ab
namespace Go.Ab
theorem bW {α:Type} {l r:List α} {x:α} {i:Nat} (h:l.drop i=x::r):i<l.length∧l[i]? = some x∧l.drop (i+1)=r∧x ∈ l∧l.length=i+1+r.length:=by
 have h0:i<l.length:=by
  have:=congrArg List.length h
  simp at this
  omega
 have h1:l.drop i=l[i]::l.drop (i+1):=List.drop_eq_getElem_cons h0
 rw [h] at h1
 injection h1 with h2 h3
 refine ⟨h0,by rw [List.getElem?_eq_getElem h0,h2],h3.symm,h2 ▸ List.getElem_mem h0,?_⟩
 have:=congrArg List.length h
 simp at this
 omega
theorem cV {α:Type} {l:List α} {i:Nat} (h:l.drop i=[]):l.length≤i:=List.drop_eq_nil_iff.1 h
theorem fJ {α:Type} {l:List α} {i:Nat} {x:α} (h:l[i]? = some x):idx l (i:Int)=some x:=by rw [abi,h]
theorem ltT {a b:Int} (h:a<b):decide (a<b)=true:=decide_eq_true h
theorem ltF {a b:Int} (h:b≤a):decide (a<b)=false:=decide_eq_false (by omega)
theorem leT {a b:Int} (h:a≤b):decide (a≤b)=true:=decide_eq_true h
theorem leF {a b:Int} (h:b<a):decide (a≤b)=false:=decide_eq_false (by omega)
theorem gS {k d:Nat} (h:d<k):∃ j,k=j+1:=⟨k - 1,by omega⟩
theorem gr {i:Nat} (h:i≤9223372036854775806):IntKind.i64.wrap ((i:Int)+1)=((i+1:Nat):Int):=by
 rw [Wq (by omega) (by omega)]
 omega
end Go.Ab
namespace Go.Ab
def MN {α:Type} (p:α→Bool):List α→Nat→Int
 | [],_ => -1
 | x::r,i=>if p x then (i:Int) else MN p r (i+1)
theorem Ai {α:Type} (p:α→Bool):∀ (l:List α) (i:Nat),decide (0≤MN p l i)=l.any p
 | [],_=>rfl
 | x::r,i=>by
  by_cases h:p x=true
  ·simp [MN,h]
  ·simpa [MN,h] using Ai p r (i+1)
end Go.Ab
namespace Go.Ab
theorem apv {n:Nat} (h:n≤30):decide ((30:Int)<n)=false:=decide_eq_false (by omega)
end Go.Ab
namespace Go.Ab
theorem ape {n:Nat} (h:30<n):decide ((30:Int)<n)=true:=decide_eq_true (by omega)
end Go.Ab
namespace Go.Ab
theorem Wz {n:Nat}:decide ((n:Int)≤40)=decide (n≤40):=by
 by_cases h:n≤40
 ·rw [decide_eq_true h,decide_eq_true (by omega)]
 ·rw [decide_eq_false h,decide_eq_false (by omega)]
end Go.Ab
namespace Go.Ab
section one
variable {wl e sz bytes id g len s:Nat} {H:Hp} {lv:Bool}
theorem Gj {n b:Nat} (h:n*b≤70368744177664):room n b=true:=decide_eq_true h
end one
end Go.Ab
namespace Go.Ab
theorem eO {α:Type} {l:List α} {enc:α→List V} (hp:∀ x,a8 (enc x)=true):di (l.map enc)=true:=by
 rw [di,List.all_eq_true]
 intro r hr
 obtain ⟨x,_,rfl⟩:=List.mem_map.1 hr
 exact hp x
theorem A0 {k:IntKind} {l:List Int}:di (l.map (aw k))=true:=eO (Ah k)
theorem MQ {l:Tyt}:di (l.map ak)=true:=eO mi
theorem HP {l:Tye}:di (l.map aB)=true:=eO o9
theorem NC {l:List Bool}:di (l.map lx)=true:=eO um
end Go.Ab
namespace Go.Ab
section slices
variable {P:Program} {wl:Nat} {c:Bool} {t e:TypeId} {α:Type} {l:List α} {enc:α→List V} {k k':IntKind} {n lo:Int} {H:Hp}
theorem Ea (h:∀ x,(enc x).length=aM P e):(l.map enc).all (fun r=>r.length==aM P e)=true:=by
 rw [List.all_eq_true]
 intro r hr
 obtain ⟨x,_,rfl⟩:=List.mem_map.1 hr
 simp [h]
theorem ra (he : lA P t = some e) (hz : (aM P e != 0) = true) (h : ∀ x, (enc x).length = aM P e) :
    cg P wl c t (.ro (l.map enc)) none (some (.lit (.int k n))) none H = bif decide (0 ≤ n ∧ n ≤ l.length) then some (.ro ((l.take n.toNat).map enc), H) else none := by
  have hz' : aM P e ≠ 0 := by simpa using hz
  unfold cg
  simp only [he, bnd]
  by_cases h0 : 0 ≤ n
  · simp only [h0, if_true, Option.bind_some, true_and]
    by_cases h1 : n ≤ l.length
    · have h2 : n.toNat ≤ l.length := by omega
      simp [h1, h2, hz', Ea h, List.map_take]
    · have h2 : ¬ n.toNat ≤ l.length := by omega
      simp [h1, h2]
  · simp [h0]
theorem ru (he : lA P t = some e) (hz : (aM P e != 0) = true) (h : ∀ x, (enc x).length = aM P e) :
    cg P wl c t (.ro (l.map enc)) (some (.lit (.int k n))) none none H = bif decide (0 ≤ n ∧ n ≤ l.length) then some (.ro ((l.drop n.toNat).map enc), H) else none := by
  have hz' : aM P e ≠ 0 := by simpa using hz
  unfold cg
  simp only [he, bnd]
  by_cases h0 : 0 ≤ n
  · simp only [h0, if_true, Option.bind_some, true_and]
    by_cases h1 : n ≤ l.length
    · have h2 : n.toNat ≤ l.length := by omega
      simp [h1, h2, hz', Ea h, List.map_drop, List.take_of_length_le]
    · have h2 : ¬ n.toNat ≤ l.length := by omega
      simp [h1, h2]
  · simp [h0]
theorem m7 (he : lA P t = some e) (hz : (aM P e != 0) = true) (h : ∀ x, (enc x).length = aM P e) :
    cg P wl c t (.ro (l.map enc)) (some (.lit (.int k lo))) (some (.lit (.int k' n))) none H = bif decide (0 ≤ lo ∧ lo ≤ n ∧ n ≤ l.length) then some (.ro (((l.take n.toNat).drop lo.toNat).map enc), H) else none := by
  have hz' : aM P e ≠ 0 := by simpa using hz
  unfold cg
  simp only [he, bnd]
  by_cases h0 : 0 ≤ lo
  · by_cases h3 : 0 ≤ n
    · simp only [h0, h3, if_true, Option.bind_some, true_and]
      by_cases h1 : n ≤ l.length
      · have h2 : n.toNat ≤ l.length := by omega
        by_cases h4 : lo ≤ n
        · have h5 : lo.toNat ≤ n.toNat := by omega
          simp [h1, h2, h4, h5, hz', Ea h, List.map_take, List.map_drop]
        · have h5 : ¬ lo.toNat ≤ n.toNat := by omega
          simp [h4, h5]
      · have h2 : ¬ n.toNat ≤ l.length := by omega
        simp [h1, h2]
    · have : ¬ (0 ≤ lo ∧ lo ≤ n ∧ n ≤ (l.length : Int)) := by omega
      simp [h3, this]
  · simp [h0]
end slices
end Go.Ab
namespace Go.Ab
end Go.Ab
namespace Go.Ab
def bq {α β:Type} (x:Option α) (F:α→Option β):Option β:=x.bind F
@[congr] theorem agc {α β:Type} {x y:Option α} {F:α→Option β} (h:x=y):bq x F=bq y F:=by rw [h]
def sif {β:Type} (c:Bool) (a b:β):β:=bif c then a else b
@[congr] theorem ad1 {β:Type} {c d:Bool} {a b:β} (h:c=d):sif c a b=sif d a b:=by rw [h]
theorem oK {β:Type} {a b:β}:sif true a b=a:=rfl
theorem nK {β:Type} {a b:β}:sif false a b=b:=rfl
section
variable {α β γ:Type}
theorem aat {a:α} {F:α→Option β}:bq (some a) F=F a:=rfl
theorem Y9 {F:α→Option β}:bq none F=none:=rfl
theorem YT {c:Bool} {x y:Option α} {F:α→Option β}:bq (bif c then x else y) F=bif c then bq x F else bq y F:=by cases c <;> rfl
theorem aku {x:Option γ} {f:γ→Option α} {F:α→Option β}:bq (ob x f) F=ob x fun a=>bq (f a) F:=by cases x <;> rfl
theorem aiR {c:Bool} {x:Option α} {F:α→Option β}:bq (ck c x) F=ck c (bq x F):=by cases c <;> rfl
theorem ady {x:Option γ} {f:γ→α} {F:α→Option β}:bq (x.map f) F=ob x fun a=>F (f a):=by cases x <;> rfl
theorem Xy {x:Option γ} {f:γ→Option α} {F:α→Option β}:bq (x.bind f) F=ob x fun a=>bq (f a) F:=by cases x <;> rfl
theorem adm {c:Bool} {x:Option α} {F:α→Option β}:bq (bif c then x else none) F=ck c (bq x F):=by cases c <;> rfl
theorem amc {x:Option γ} {f:γ→Option α} {F:α→Option β}:bq (bq x f) F=bq x fun a=>bq (f a) F:=by cases x <;> rfl
theorem akA {x:Option γ} {f:γ→Option α} {F:α→Option β}:ob (ob x f) F=ob x fun a=>ob (f a) F:=by cases x <;> rfl
theorem WN {c:Bool} {x y:Option α} {F:α→Option β}:ob (bif c then x else y) F=bif c then ob x F else ob y F:=by cases c <;> rfl
theorem amH {c:Bool} {x:Option α} {F:α→Option β}:ob (ck c x) F=ck c (ob x F):=by cases c <;> rfl
theorem aee {x:Option γ} {f:γ→α} {F:α→Option β}:ob (x.map f) F=ob x fun a=>F (f a):=by cases x <;> rfl
end
section
variable {α:Type} {H:Hp} {K:V→Hp→Res} {k:Hp→Res}
theorem aiO {x:Option α} {f:α→Option V}:bm (ob x f) H K=ob x fun a=>bm (f a) H K:=by cases x <;> rfl
theorem ako {x:Option α} {f:α→Option (V×Hp)}:bp (ob x f) K=ob x fun a=>bp (f a) K:=by cases x <;> rfl
theorem aj9 {x:Option α} {f:α→Option Hp}:bs (ob x f) k=ob x fun a=>bs (f a) k:=by cases x <;> rfl
theorem abv {c:Bool} {x y:Option V}:bm (bif c then x else y) H K=bif c then bm x H K else bm y H K:=by cases c <;> rfl
theorem Xt {c:Bool} {x y:Option (V×Hp)}:bp (bif c then x else y) K=bif c then bp x K else bp y K:=by cases c <;> rfl
theorem aae {c:Bool} {x y:Option Hp}:bs (bif c then x else y) k=bif c then bs x k else bs y k:=by cases c <;> rfl
theorem agZ {c:Bool} {x:Option V}:bm (ck c x) H K=ck c (bm x H K):=by cases c <;> rfl
theorem ajJ {c:Bool} {x:Option (V×Hp)}:bp (ck c x) K=ck c (bp x K):=by cases c <;> rfl
theorem amC {c:Bool} {x:Option Hp}:bs (ck c x) k=ck c (bs x k):=by cases c <;> rfl
end
def rt (kp:Option (Nat→Bool)) (x:Res):Res:=x.bind fun p=>lU kp p.1 p.2
section rt
variable {kp:Option (Nat→Bool)} {α:Type} {h:Hp}
theorem abd:rt kp none=none:=rfl
theorem HQ {v:V}:rt kp (some (v,h))=lU kp v h:=rfl
theorem abr {c:Bool} {x y:Res}:rt kp (bif c then x else y)=bif c then rt kp x else rt kp y:=by cases c <;> rfl
theorem ZF {x:Option α} {f:α→Res}:rt kp (ob x f)=ob x fun a=>rt kp (f a):=by cases x <;> rfl
theorem ahO {c:Bool} {x:Res}:rt kp (ck c x)=ck c (rt kp x):=by cases c <;> rfl
def rtN (v:V) (H:Hp):Res:=bq (fzR 0 v H) fun q=>sif q.1.pure (some (q.1,[])) (some q)
theorem GE {v:V}:lU none v h=rtN v h:=by
 show (fzR 0 v h).bind _=(fzR 0 v h).bind _
 congr 1
 funext q
 cases hq:q.1.pure <;> simp [sif,hq]
theorem XK:lU none .nil h=some (.ro [],[]):=rfl
theorem XL {c:List V}:lU none (.agg c) h=rtN (.agg c) h:=GE
theorem abz {c:List V}:lU none (.tup c) h=rtN (.tup c) h:=GE
theorem YF {i g l:Nat}:lU none (.own i g l) h=rtN (.own i g l) h:=GE
theorem aaS {i:Nat}:lU none (.map i) h=some (.map i,h):=rfl
theorem adD {f:Fn} {a b:List V}:lU none (.fn f a b) h=rtN (.fn f a b) h:=GE
theorem YM {i g r o:Nat}:lU none (.ptr i g r o) h=some (.ptr i g r o,h):=rfl
end rt
section fz
variable {wl:Nat} {H:Hp} {nl:Bool}
theorem abJ {vs:List V}:fzR wl (.tup vs) H=bq (mM wl vs H) fun p=>some (.tup p.1,p.2):=rfl
theorem aaC {v:Value}:fzR wl (.lit v) H=some (.lit v,H):=rfl
theorem af4 {r:List (List V)}:fzR wl (.ro r) H=some (.ro r,H):=rfl
theorem X5:fzR wl .nil H=some (.ro [],H):=rfl
theorem aer {f:Fn} {a b:List V}:fzR wl (.fn f a b) H=some (.fn f a b,H):=rfl
theorem Xg {i g r o:Nat}:fzR wl (.ptr i g r o) H=some (.ptr i g r o,H):=rfl
theorem abp {i:Nat}:fzR wl (.map i) H=some (.map i,H):=rfl
theorem Zh {i g l:Nat}:fzR wl (.own i g l) H=fzB wl i g l H (H[i]?):=uK
theorem Z8 {c:List V}:fzR wl (.agg c) H=bq (fzL wl true c H) fun p=>some (.agg p.1,p.2):=rfl
theorem Q7:mM wl [] H=some ([],H):=rfl
theorem Qw {v:Value} {vs:List V}:mM wl (.lit v::vs) H=bq (mM wl vs H) fun q=>some (.lit v::q.1,q.2):=rfl
theorem Sf {r:List (List V)} {vs:List V}:mM wl (.ro r::vs) H=bq (mM wl vs H) fun q=>some (.ro r::q.1,q.2):=rfl
theorem Mb {vs:List V}:mM wl (.nil::vs) H=bq (mM wl vs H) fun q=>some (.ro []::q.1,q.2):=rfl
theorem To {f:Fn} {a b vs:List V}:mM wl (.fn f a b::vs) H=bq (mM wl vs H) fun q=>some (.fn f a b::q.1,q.2):=rfl
theorem Q2 {i g l:Nat} {vs:List V}:mM wl (.own i g l::vs) H=bq (fzB wl i g l H (H[i]?)) fun p=>bq (mM wl vs p.2) fun q=>some (p.1::q.1,q.2):=by
 show (fzC wl (.own i g l) H).bind _=_
 rw [uK]
 rfl
theorem P2 {c vs:List V}:mM wl (.agg c::vs) H=bq (fzL wl true c H) fun p=>bq (mM wl vs p.2) fun q=>some (.agg p.1::q.1,q.2):=by
 show ((fzL wl true c H).bind _).bind _=_
 cases fzL wl true c H <;> rfl
theorem UF:fzL wl nl [] H=some ([],H):=rfl
theorem S3 {v:Value} {vs:List V}:fzL wl nl (.lit v::vs) H=bq (fzL wl nl vs H) fun q=>some (.lit v::q.1,q.2):=rfl
theorem aar {r:List (List V)} {vs:List V}:fzL wl nl (.ro r::vs) H=bq (fzL wl nl vs H) fun q=>some (.ro r::q.1,q.2):=rfl
theorem Ph {vs:List V}:fzL wl true (.nil::vs) H=bq (fzL wl true vs H) fun q=>some (.ro []::q.1,q.2):=rfl
theorem W2 {f:Fn} {a b vs:List V}:fzL wl nl (.fn f a b::vs) H=bq (fzL wl nl vs H) fun q=>some (.fn f a b::q.1,q.2):=rfl
theorem S9 {i g r o:Nat} {vs:List V}:fzL wl nl (.ptr i g r o::vs) H=bq (fzL wl nl vs H) fun q=>some (.ptr i g r o::q.1,q.2):=rfl
theorem SJ {i g l:Nat} {vs:List V}:fzL wl nl (.own i g l::vs) H=bq (fzB wl i g l H (H[i]?)) fun p=>bq (fzL wl nl vs p.2) fun q=>some (p.1::q.1,q.2):=by
 show (fzC wl (.own i g l) H).bind _=_
 rw [uK]
 rfl
theorem S5:nw wl [] H=some ([],H):=rfl
theorem SU {v:Value} {vs:List V}:nw wl (.lit v::vs) H=bq (nw wl vs H) fun q=>some (.lit v::q.1,q.2):=rfl
theorem abm {r:List (List V)} {vs:List V}:nw wl (.ro r::vs) H=bq (nw wl vs H) fun q=>some (.ro r::q.1,q.2):=rfl
theorem Ov {vs:List V}:nw wl (.nil::vs) H=bq (nw wl vs H) fun q=>some (.nil::q.1,q.2):=rfl
theorem aah {f:Fn} {a b vs:List V}:nw wl (.fn f a b::vs) H=bq (nw wl vs H) fun q=>some (.fn f a b::q.1,q.2):=rfl
theorem Tl {i:Nat} {vs:List V}:nw wl (.yld i::vs) H=bq (nw wl vs H) fun q=>some (.yld i::q.1,q.2):=rfl
theorem Sa {i:Nat} {vs:List V}:nw wl (.map i::vs) H=bq (nw wl vs H) fun q=>some (.map i::q.1,q.2):=rfl
theorem UA {i g r o:Nat} {vs:List V}:nw wl (.ptr i g r o::vs) H=bq (nw wl vs H) fun q=>some (.ptr i g r o::q.1,q.2):=rfl
theorem R6 {i g l:Nat} {vs:List V}:nw wl (.own i g l::vs) H=bq (fzB wl i g l H (H[i]?)) fun p=>bq (nw wl vs p.2) fun q=>some (p.1::q.1,q.2):=by
 show (fzC wl (.own i g l) H).bind _=_
 rw [uK]
 rfl
theorem TT {c vs:List V}:nw wl (.agg c::vs) H=bq (fzL wl true c H) fun p=>bq (nw wl vs p.2) fun q=>some (.agg p.1::q.1,q.2):=by
 show ((fzL wl true c H).bind _).bind _=_
 cases fzL wl true c H <;> rfl
theorem apq {i g len e g':Nat} {rs:List (List V)} {lv:Bool}:fzB wl i g len H (some (.rows e rs g' lv))=sif (g==g'&&(di rs&&Nat.ble wl i)) (ck (decide (len≤rs.length)) (some (.ro (rs.take len),H.set i (.rows e rs g' false)))) none:=by
 show (bif g==g'&&decide (len≤rs.length)&&(di rs&&Nat.ble wl i) then _ else _)=_
 generalize (g==g')=a
 generalize decide (len≤rs.length)=b
 generalize (di rs&&Nat.ble wl i)=c
 cases a <;> cases b <;> cases c <;> rfl
end fz
theorem Sz {α:Type} {l:List α} {n:Nat} (h:l.length=n):l.take n=l:=List.take_of_length_le (by omega)
theorem Ou:di []=true:=rfl
theorem MZ {r:List V} {rs:List (List V)}:di (r::rs)=(a8 r&&di rs):=rfl
def IZ (n:Nat):Hp→Hp
 | []=>[]
 | b::H=>b.kill n::IZ n H
def wq (n:Nat):Hp→Hp
 | []=>[]
 | b::H=>b.shift n::wq n H
theorem Lz {n:Nat}:∀ {H:Hp},H.map (B.kill n)=IZ n H
 | []=>rfl
 | b::H=>by simp [IZ,Lz (H:=H)]
theorem Bv {n:Nat}:∀ {H:Hp},H.map (B.shift n)=wq n H
 | []=>rfl
 | b::H=>by simp [wq,Bv (H:=H)]
theorem aaL {n:Nat} {H:Hp}:oc n H=IZ n (H.take n):=Lz
theorem Oz {n:Nat}:IZ n []=[]:=rfl
theorem MW {n:Nat} {b:B} {H:Hp}:IZ n (b::H)=b.kill n::IZ n H:=rfl
theorem NE {n:Nat}:wq n []=[]:=rfl
theorem Jk {n:Nat} {b:B} {H:Hp}:wq n (b::H)=b.shift n::wq n H:=rfl
theorem Hu {n:Nat} {st:LoopState} {pe:Option Code} {f:FuncId} {ts:List V} {ps:List Tmp} {a b:Code}:B.kill n (.loop ⟨st,pe,f,ts,ps,a,b⟩) = .loop ⟨st,pe,f,iu n ts,ps,a,b⟩:=rfl
def nsh (H:Hp) (v:V) (H2:Hp):Res:=sif (decide (H.length≤H2.length)) (some (v,H2)) none
theorem VZ {H H2:Hp} {v:V}:dh H (v,H2)=nsh H v H2:=by
 unfold dh nsh sif
 by_cases h:H.length≤H2.length
 ·simp [h]
 ·simp [h]
theorem ani {n m:Nat}:Nat.ble n m=decide (n≤m):=by
 have h:(Nat.ble n m=true)=(n≤m):=Nat.ble_eq
 cases hb:Nat.ble n m with
 | true=>
  rw [hb] at h
  exact (decide_eq_true (h.mp rfl)).symm
 | false=>
  rw [hb] at h
  exact (decide_eq_false (fun e=>Bool.noConfusion (h.mpr e))).symm
theorem Eb {H:Hp} {c:Bool} {x y:V×Hp}:dh H (sif c x y)=sif c (dh H x) (dh H y):=by cases c <;> rfl
def ldQ (H H':Hp) (q:V×Hp):Res:=dh H (q.1.shift H'.length,bif (q.1.shift H'.length).scal then H else H'++q.2.map (B.shift H'.length))
theorem Wd {H H':Hp} {v:V} {h:Hp}:ldQ H H' (v,h)=nsh H (v.shift H'.length) (sif (v.shift H'.length).scal H (H'++wq H'.length h)):=by
 unfold ldQ
 rw [VZ,Bv]
 rfl
theorem Xw {H H':Hp} {v:Value} {h:Hp}:ldQ H H' (.lit v,h)=some (.lit v,H):=by
 rw [Wd]
 simp [nsh,sif,V.shift,V.scal]
def ldP (H:Hp) (q:V×Hp):Res:=some (q.1.shift H.length,H++q.2.map (B.shift H.length))
theorem aeO {H:Hp} {v:V} {h:Hp}:ldP H (v,h)=some (v.shift H.length,H++wq H.length h):=by
 unfold ldP
 rw [Bv]
theorem BH {cx:Cx} {g:FuncId} {args:List V} {H:Hp}:ku cx g args H=bq (pi cx g args) (ldP H):=by
 unfold ku pi bq ldP
 cases h:cx.call 0 g args [] with
 | none=>rfl
 | some p=>rfl
theorem PE {cx:Cx} {o:Bool} {g:FuncId} {first caps args:List V} {H:Hp} :
  mT cx false o (.fn (.func g) first caps) args H=bq (sif (cx.M.keepArg g) (some (first++args++caps,H)) (nw cx.wl (first++args++caps) H)) fun a=>
   sif (a8 a.1) (bq (pi cx g a.1) (ldQ H a.2))
    (bq (cx.call cx.wl g a.1 a.2) fun p=>bq (sif (cx.M.keepRes cx.fid g).isSome (some p) (fzR cx.wl p.1 p.2)) fun q=>dh H (sif q.1.pure (q.1,oc a.2.length q.2) q)):=by
 unfold mT Ep
 simp only [Bool.false_eq_true,if_false]
 have e1:(if cx.M.keepArg g=true then some (first++args++caps,H) else nw cx.wl (first++args++caps) H)=sif (cx.M.keepArg g) (some (first++args++caps,H)) (nw cx.wl (first++args++caps) H):=by
  cases cx.M.keepArg g <;> rfl
 rw [e1]
 unfold bq
 cases sif (cx.M.keepArg g) (some (first++args++caps,H)) (nw cx.wl (first++args++caps) H) with
 | none=>rfl
 | some a=>
  simp only [Option.bind_some]
  cases hp:a8 a.1 with
  | true=>
   simp only [if_true,oK,BH]
   unfold bq
   cases pi cx g a.1 <;> rfl
  | false=>
   simp only [Bool.false_eq_true,if_false,nK]
   cases cx.call cx.wl g a.1 a.2 with
   | none=>rfl
   | some p=>
    simp only [Option.bind_some]
    have e2:(if (cx.M.keepRes cx.fid g).isSome=true then some p else fzR cx.wl p.1 p.2)=sif (cx.M.keepRes cx.fid g).isSome (some p) (fzR cx.wl p.1 p.2):=by
     cases (cx.M.keepRes cx.fid g).isSome <;> rfl
    rw [e2]
    cases sif (cx.M.keepRes cx.fid g).isSome (some p) (fzR cx.wl p.1 p.2) with
    | none=>rfl
    | some q=>
     simp only [Option.bind_some]
     cases hq:q.1.pure <;> simp [sif]
theorem L4 {cx:Cx} {g:FuncId} {first caps args:List V} {H:Hp} :
  mT cx true true (.fn (.func g) first caps) args H =
   sif (a8 (first++args++caps)) (bq (pi cx g (first++args++caps)) (ldP H)) (sif (cx.M.keepArg g) none (bq (nw cx.wl (first++args++caps) H) fun a=>
    sif (a8 a.1) (bq (pi cx g a.1) fun q=>bq (ldP a.2 q) fun q=>some (q.1,sif q.1.scal H q.2)) (bq (cx.call a.2.length g a.1 a.2) fun p=>sif p.1.scal (some (p.1,H)) none))):=by
 unfold mT ko
 simp only [if_true,BH]
 cases a8 (first++args++caps) with
 | true=>rfl
 | false=>
  simp only [Bool.false_eq_true,if_false,nK]
  cases cx.M.keepArg g with
  | true=>rfl
  | false=>
   simp only [Bool.false_eq_true,if_false,nK]
   unfold bq
   cases nw cx.wl (first++args++caps) H with
   | none=>rfl
   | some a=>
    simp only [Option.bind_some]
    cases a8 a.1 with
    | true=>
     simp only [if_true,oK]
     cases pi cx g a.1 <;> rfl
    | false=>
     simp only [Bool.false_eq_true,if_false,nK]
     cases cx.call a.2.length g a.1 a.2 with
     | none=>rfl
     | some p=>
      simp only [Option.bind_some]
      cases hs:p.1.scal <;> simp [sif]
theorem LP {cx:Cx} {g:FuncId} {first caps args:List V} {H:Hp} :
  mT cx true false (.fn (.func g) first caps) args H=sif (a8 (first++args++caps)) (bq (bq (cx.call 0 g (first++args++caps) []) fun p=>lU none p.1 p.2) fun q=>sif q.1.pure (some (q.1,H)) none) none:=by
 unfold mT ko
 simp only [if_true,Bool.false_eq_true,if_false]
 cases a8 (first++args++caps) with
 | false=>rfl
 | true=>
  simp only [if_true,oK]
  unfold bq
  cases cx.call 0 g (first++args++caps) [] with
  | none=>rfl
  | some p=>
   simp only [Option.bind_some,GE]
   unfold rtN bq
   cases fzR 0 p.1 p.2 with
   | none=>rfl
   | some q=>
    simp only [Option.bind_some]
    cases hq:q.1.pure <;> simp [sif,hq]
section rounds
variable {P:Program} {M:Mode}
def yB (P:Program) (M:Mode) (k wl id:Nat) (args:List V) (H:Hp):Option B→Res
 | some (.loop l)=>Fl { P,M,fid:=l.fn,round:=true,wl,call:=evF P M k,yld:=evY P M k,n:=k } id l args H
 | _=>none
theorem Yp {k wl id:Nat} {args:List V} {H:Hp}:evY P M (k+1) wl id args H=yB P M k wl id args H (H[id]?):=by
 unfold yB
 simp only [evY]
 generalize H[id]? = b
 cases b with
 | none=>rfl
 | some b=>cases b <;> rfl
theorem T6 {k wl id:Nat} {args:List V} {H:Hp} {pe:Option Code} {f:FuncId} {ts:List V} {ps:List Tmp} {a b:Code} :
  yB P M k wl id args H (some (.loop ⟨.ready,pe,f,ts,ps,a,b⟩))=sif (decide (args.length=ps.length)&&Nat.ble wl id)
   (br { P,M,fid:=f,round:=true,wl,call:=evF P M k,yld:=evY P M k,n:=k } (asK { P,M,fid:=f,round:=true,wl,call:=evF P M k,yld:=evY P M k,n:=k } id H.length b) [.seq a] .norm ⟨ez ts ps args,H⟩) none:=by
 unfold yB Fl
 by_cases h:args.length=ps.length
 ·cases hw:Nat.ble wl id with
  | true=>
   simp only [h,hw,and_self,if_true,decide_true,Bool.and_self,oK]
   show aY _ a none _ _=aY _ a none (br _ _ []) _
   congr 1
  | false=>simp [hw,sif]
 ·simp [h,sif]
def asB (cx:Cx) (id n:Nat) (body:Code) (env:List V) (H:Hp):Option B→Res
 | some (.loop l)=>if l.st = .ready then br cx (bdK id n) [.seq body] .norm ⟨env,H.set id (.loop { l with st := .busy })⟩ else none
 | _=>none
theorem Yk {cx:Cx} {id n:Nat} {body:Code} {env:List V} {H:Hp}:asK cx id n body .norm ⟨env,H⟩=asB cx id n body env H (H[id]?):=by
 unfold asK asB
 rfl
theorem Qj {cx:Cx} {id n:Nat} {body:Code} {env:List V} {H:Hp} {pe:Option Code} {f:FuncId} {ts:List V} {ps:List Tmp} {a b:Code} :
  asB cx id n body env H (some (.loop ⟨.ready,pe,f,ts,ps,a,b⟩))=br cx (bdK id n) [.seq body] .norm ⟨env,H.set id (.loop ⟨.busy,pe,f,ts,ps,a,b⟩)⟩:=rfl
def bdB (id n:Nat) (o:Out) (H:Hp):Option B→Res
 | some (.loop l)=>some (.lit (.bool (dV o).isNone),oc n (H.set id (.loop { l with st:=if (dV o).isNone then .ready else .done,pending:=dV o })))
 | _=>none
theorem abG {id n:Nat} {o:Out} {env:List V} {H:Hp}:bdK id n o ⟨env,H⟩=bdB id n o H (H[id]?):=by
 unfold bdK bdB
 rfl
section
variable {id n:Nat} {H:Hp} {st:LoopState} {pe:Option Code} {f:FuncId} {ts:List V} {ps:List Tmp} {a b:Code}
theorem UE:bdB id n .norm H (some (.loop ⟨st,pe,f,ts,ps,a,b⟩))=some (.lit (.bool true),oc n (H.set id (.loop ⟨.ready,none,f,ts,ps,a,b⟩))):=rfl
theorem aai:bdB id n .ret H (some (.loop ⟨st,pe,f,ts,ps,a,b⟩))=some (.lit (.bool false),oc n (H.set id (.loop ⟨.done,some .ret,f,ts,ps,a,b⟩))):=rfl
theorem Sp {i:Nat}:bdB id n (.exit i) H (some (.loop ⟨st,pe,f,ts,ps,a,b⟩))=some (.lit (.bool false),oc n (H.set id (.loop ⟨.done,some (.exit i),f,ts,ps,a,b⟩))):=rfl
theorem UN {i:Nat}:bdB id n (.goto i) H (some (.loop ⟨st,pe,f,ts,ps,a,b⟩))=some (.lit (.bool false),oc n (H.set id (.loop ⟨.done,some (.goto i),f,ts,ps,a,b⟩))):=rfl
def rfB (K:Out→St→Res) (env:List V) (H:Hp):Option B→Res
 | some (.loop l)=>if l.st = .busy then none else
  match l.pending with
  | none=>K .norm ⟨env,H⟩
  | some .ret=>K .ret ⟨env,H⟩
  | some (.exit id)=>K (.exit id) ⟨env,H⟩
  | some (.goto id)=>K (.goto id) ⟨env,H⟩
  | some _=>none
 | _=>none
theorem Xc {K:Out→St→Res} {env:List V} {v:V} {h:Hp}:rfK K env n (v,h)=rfB K env (oc n h) (h[n]?):=by
 unfold rfK rfB
 rfl
theorem Ue {K:Out→St→Res} {env:List V}:rfB K env H (some (.loop ⟨.ready,none,f,ts,ps,a,b⟩))=K .norm ⟨env,H⟩:=rfl
theorem OD {K:Out→St→Res} {env:List V}:rfB K env H (some (.loop ⟨.done,none,f,ts,ps,a,b⟩))=K .norm ⟨env,H⟩:=rfl
theorem aaQ {K:Out→St→Res} {env:List V}:rfB K env H (some (.loop ⟨.done,some .ret,f,ts,ps,a,b⟩))=K .ret ⟨env,H⟩:=rfl
theorem Ss {K:Out→St→Res} {env:List V} {i:Nat}:rfB K env H (some (.loop ⟨.done,some (.exit i),f,ts,ps,a,b⟩))=K (.exit i) ⟨env,H⟩:=rfl
theorem SG {K:Out→St→Res} {env:List V} {i:Nat}:rfB K env H (some (.loop ⟨.done,some (.goto i),f,ts,ps,a,b⟩))=K (.goto i) ⟨env,H⟩:=rfl
end
def rgC (cx:Cx) (ps:List Tmp) (a b:Code) (K:Out→St→Res) (env:List V) (H:Hp):V→Res
 | .fn (.func g) [] caps=>bq (cx.call cx.wl g (.yld H.length::caps) (H++[.loop ⟨.ready,none,cx.fid,env,ps,a,b⟩])) (rfK K env H.length)
 | _=>none
theorem afr {cx:Cx} {ps:List Tmp} {a b:Code} {K:Out→St→Res} {env:List V} {H:Hp} {g:FuncId} {caps:List V} :
  rgC cx ps a b K env H (.fn (.func g) [] caps)=bq (cx.call cx.wl g (.yld H.length::caps) (H++[.loop ⟨.ready,none,cx.fid,env,ps,a,b⟩])) (rfK K env H.length):=rfl
theorem Ti {cx:Cx} {f:Operand} {ps:Array Tmp} {a b:Code} {K:Out→St→Res} {env:List V} {H:Hp} (hr:cx.round=false) :
  aY cx (.rangeFunc f ps a b) none K ⟨env,H⟩=sif (Nat.ble cx.wl H.length) (bq (evO env f) (rgC cx ps.toList a b K env H)) none:=by
 simp only [aY,hr,Bool.false_or]
 cases hw:Nat.ble cx.wl H.length with
 | false=>rfl
 | true=>
  simp only [Bool.not_true,Bool.false_eq_true,if_false,oK]
  cases hf:evO env f with
  | none=>rfl
  | some v=>
   simp only [bq,Option.bind_some]
   cases v with
   | fn f first caps=>
    cases f with
    | func g=>
     cases first with
     | nil=>
      simp only [rgC]
      unfold bq
      congr 1
     | cons=>rfl
    | _=>rfl
   | _=>rfl
end rounds
end Go.Ab
namespace Go.Ab
def rC:List V→List (Nat×Nat×V)→Option (List V)
 | cells,[]=>some cells
 | cells,(off,size,v)::rest=>
  match v.cells with
  | some vs=>if vs.length=size∧off+vs.length≤cells.length then rC (spl cells off vs) rest else none
  | none=>none
theorem U2 {cells:List V}:rC cells []=some cells:=rfl
theorem Pe {cells:List V} {off size:Nat} {v:V} {rest:List (Nat×Nat×V)}:rC cells ((off,size,v)::rest)=bq v.cells fun vs=>sif (decide (vs.length=size∧off+vs.length≤cells.length)) (rC (spl cells off vs) rest) none:=by
 simp only [rC]
 cases v.cells with
 | none=>rfl
 | some vs=>
  simp only [bq,Option.bind_some]
  by_cases h:vs.length=size∧off+vs.length≤cells.length
  ·rw [if_pos h,decide_eq_true h];rfl
  ·rw [if_neg h,decide_eq_false h];rfl
theorem O2 {wl size:Nat} {rs:List (List V)} {H:Hp}:fD wl size [] rs H=some (rs,H):=rfl
theorem Mp {wl size i:Nat} {v:V} {rest:List (Nat×V)} {rs:List (List V)} {H:Hp}:fD wl size ((i,v)::rest) rs H=bq v.cells fun vs=>bq (fzL wl true vs H) fun p=>sif (decide (i<rs.length∧p.1.length=size)) (fD wl size rest (rs.set i p.1) p.2) none:=by
 simp only [fD]
 cases v.cells with
 | none=>rfl
 | some vs=>
  simp only [bq,Option.bind_some]
  cases fzL wl true vs H with
  | none=>rfl
  | some p=>
   simp only [Option.bind_some]
   by_cases h:i<rs.length∧p.1.length=size
   ·rw [if_pos h,decide_eq_true h];rfl
   ·rw [if_neg h,decide_eq_false h];rfl
theorem N9 {x y:Int}:uY (.int .i64 x) (.int .i64 y)=(x==y):=rfl
theorem Na {k:Value} {v:V}:i5 k v []=[(k,v)]:=rfl
theorem H3 {k:Value} {v:V} {e:Value×V} {es:List (Value×V)}:i5 k v (e::es)=sif (uY k e.1) ((k,v)::es) (e::i5 k v es):=by
 simp only [i5]
 cases uY k e.1 <;> rfl
def Rh (kk:IntKind):List (Value×V)→Bool
 | []=>true
 | e::es=>iL kk e.1&&Rh kk es
theorem S6 {kk:IntKind}:Rh kk []=true:=rfl
theorem QS {kk:IntKind} {e:Value×V} {es:List (Value×V)}:Rh kk (e::es)=(iL kk e.1&&Rh kk es):=rfl
theorem Hs {x:Int}:iL .i64 (.int .i64 x)=true:=rfl
def inB (wl:Nat) (kk:IntKind) (id:Nat) (n:Int) (v:V) (H:Hp):Option B→Option Hp
 | some (.map es)=>if es.all (fun e=>iL kk e.1)&&true&&Nat.ble wl id then some (H.set id (.map (i5 (.int kk n) v es))) else none
 | _=>none
theorem WV {kk:IntKind}:∀ {es:List (Value×V)},es.all (fun e=>iL kk e.1)=Rh kk es
 | []=>rfl
 | e::es=>by simp [Rh,WV (es:=es)]
theorem Xd {wl id:Nat} {kk:IntKind} {n:Int} {v:V} {H:Hp} {es:List (Value×V)}:inB wl kk id n v H (some (.map es))=sif (Rh kk es&&Nat.ble wl id) (some (H.set id (.map (i5 (.int kk n) v es)))) none:=by
 simp only [inB,WV,Bool.and_true]
 cases Rh kk es&&Nat.ble wl id <;> rfl
def lkB (kk:IntKind) (z:V) (ok:Bool) (n:Int):Option B→Option V
 | some (.map es)=>if es.all (fun e=>iL kk e.1)&&true then some (bif ok then .tup [(i6 (.int kk n) z es).1,.lit (.bool (i6 (.int kk n) z es).2)] else (i6 (.int kk n) z es).1) else none
 | _=>none
def lkO (kk:IntKind) (z:V) (ok:Bool) (n:Int):List (Value×V)→Option V
 | []=>some (sif ok (.tup [z,.lit (.bool false)]) z)
 | e::es=>bif uY (.int kk n) e.1 then some (sif ok (.tup [e.2,.lit (.bool true)]) e.2) else lkO kk z ok n es
theorem VK {kk:IntKind} {z:V} {ok:Bool} {n:Int}:∀ {es:List (Value×V)},some (bif ok then V.tup [(i6 (.int kk n) z es).1,.lit (.bool (i6 (.int kk n) z es).2)] else (i6 (.int kk n) z es).1)=lkO kk z ok n es
 | []=>by cases ok <;> rfl
 | e::es=>by
  simp only [i6,lkO]
  cases uY (.int kk n) e.1 with
  | true=>cases ok <;> rfl
  | false=>exact VK (es:=es)
theorem Yf {kk:IntKind} {z:V} {ok:Bool} {n:Int} {es:List (Value×V)}:lkB kk z ok n (some (.map es))=sif (Rh kk es) (lkO kk z ok n es) none:=by
 simp only [lkB,WV,Bool.and_true,VK]
 cases Rh kk es <;> rfl
theorem Ym {kk:IntKind} {z:V} {ok:Bool} {n:Int}:lkO kk z ok n []=some (sif ok (.tup [z,.lit (.bool false)]) z):=rfl
theorem Sm {kk:IntKind} {z:V} {ok:Bool} {n:Int} {e:Value×V} {es:List (Value×V)}:lkO kk z ok n (e::es)=bif uY (.int kk n) e.1 then some (sif ok (.tup [e.2,.lit (.bool true)]) e.2) else lkO kk z ok n es:=rfl
def agO:Int→List V→Int→Option V
 | _,[],_=>none
 | i,c::cs,n=>bif n==i then some c else agO (i+1) cs n
theorem YX {i n:Int}:agO i [] n=none:=rfl
theorem TX {i n:Int} {c:V} {cs:List V}:agO i (c::cs) n=bif n==i then some c else agO (i+1) cs n:=rfl
theorem Pf {p:Bool} {k:IntKind} {a b:Int}:E7 (.lit (.bool p)) (.lit (.int k a)) (.lit (.int k b))=some (.lit (.int k (bif p then a else b))):=by cases p <;> rfl
theorem LQ {p a b:Bool}:E7 (.lit (.bool p)) (.lit (.bool a)) (.lit (.bool b))=some (.lit (.bool (bif p then a else b))):=by cases p <;> rfl
theorem Ts {k:IntKind} {a b:Int}:iP true [.lit (.int k a),.lit (.int k b)]=some (.lit (.int k (bif decide (a<b) then b else a))):=by
 simp only [iP,if_true,cond_true,gt_iff_lt]
 by_cases h:a<b <;> simp [h]
theorem Sv {k:IntKind} {a b:Int}:iP false [.lit (.int k a),.lit (.int k b)]=some (.lit (.int k (bif decide (b<a) then b else a))):=by
 simp only [iP,if_true,cond_false]
 by_cases h:b<a <;> simp [h]
theorem LI {k:IntKind} {a:Int}:[[V.lit (.int k a)]]=[a].map (aw k):=rfl
theorem Hr {k:IntKind} {a b:Int}:[[V.lit (.int k a)],[V.lit (.int k b)]]=[a,b].map (aw k):=rfl
theorem FT {a b c:Int}:[[V.lit (.int .i64 a),.lit (.int .i64 b),.lit (.int .i64 c)]]=[(a,b,c)].map aB:=rfl
def Ut (k:IntKind) (a b:Int):Int:=k.wrap (a*2 ^ (min b.toNat k.bits))
def V5 (k:IntKind) (a b:Int):Int:=a.fdiv (2 ^ (min b.toNat k.bits))
def wT (k:IntKind) (a b:Int):Int:=k.wrap (BitVec.ofInt k.bits a &&& BitVec.ofInt k.bits b).toNat
def orI (k:IntKind) (a b:Int):Int:=k.wrap (BitVec.ofInt k.bits a ||| BitVec.ofInt k.bits b).toNat
section
variable {P:Program} {t:TypeId} {k k':IntKind} {a b:Int}
theorem UO:iJ P .shl t (.lit (.int k a)) (.lit (.int k' b))=bif decide (0≤b) then some (.lit (.int k (Ut k a b))) else none:=by
 by_cases h:b<0
 ·have:¬ 0≤b:=by omega
  simp [iJ,eJ,h,this]
 ·have h2:0≤b:=by omega
  simp [iJ,eJ,h,h2,Ut]
theorem Uj:iJ P .shr t (.lit (.int k a)) (.lit (.int k' b))=bif decide (0≤b) then some (.lit (.int k (V5 k a b))) else none:=by
 by_cases h:b<0
 ·have:¬ 0≤b:=by omega
  simp [iJ,eJ,h,this]
 ·have h2:0≤b:=by omega
  simp [iJ,eJ,h,h2,V5]
theorem Ur:iJ P .and t (.lit (.int k a)) (.lit (.int k b))=some (.lit (.int k (wT k a b))):=by simp [iJ,eJ,wT]
theorem abj:iJ P .or t (.lit (.int k a)) (.lit (.int k b))=some (.lit (.int k (orI k a b))):=by simp [iJ,eJ,orI]
end
end Go.Ab
namespace Go.Ab
theorem apd {g len e g':Nat} {rs:List (List V)} {lv:Bool}:roB g len (some (.rows e rs g' lv))=sif (g==g') (ck (decide (len≤rs.length)) (some (rs.take len))) none:=by
 show (bif g==g'&&decide (len≤rs.length) then _ else _)=_
 generalize (g==g')=a
 generalize decide (len≤rs.length)=b
 cases a <;> cases b <;> rfl
theorem RY {f:Fn} {a b:List V} {H:Hp}:lu (.fn f a b) H=some (.ptr H.length 0 0 0,H++[.box [.fn f a b]]):=by simp [lu,V.cells,V.one,bw]
theorem OE {i g n:Nat} {H:Hp}:lu (.own i g n) H=some (.ptr H.length 0 0 0,H++[.box [.own i g n]]):=by simp [lu,V.cells,V.one,bw]
theorem N1 {i g r o:Nat} {H:Hp}:lu (.ptr i g r o) H=some (.ptr H.length 0 0 0,H++[.box [.ptr i g r o]]):=by simp [lu,V.cells,V.one,bw]
theorem ZU {k:IntKind} {l:List Int}:b7 1 (l.map (aw k))=true:=eF fun _=>rfl
theorem TN {l:List Bool}:b7 1 (l.map lx)=true:=eF fun _=>rfl
theorem RI {l:Tyt}:b7 2 (l.map ak)=true:=eF fun _=>rfl
theorem Pd {l:Tye}:b7 3 (l.map aB)=true:=eF fun _=>rfl
theorem MP {n:Nat}:b7 n []=true:=rfl
theorem Zv {wl e sz bytes id g:Nat} {xs:List (List V)} {H:Hp} {lv:Bool} :
  apB wl e sz bytes id g 0 xs H (some (.rows 0 [] g lv))=sif (Nat.ble wl id) (bif room xs.length bytes then some (.own id (g+1) xs.length,H.set id (.rows sz xs (g+1) lv)) else none) none:=by
 cases hb:Nat.ble wl id <;> cases lv <;> simp [apB,hb,sif,room]
theorem Pb {α:Type} {wl e sz bytes id g len s:Nat} {l m:List α} {enc:α→List V} {H:Hp} :
  apB wl e sz bytes id g len (m.map enc) H (some (.rows s (l.map enc) g true)) =
   sif (Nat.ble wl id) (ck (decide (len≤l.length)) (ck (s==sz||s==0) (bif room (l.take len++m).length bytes then some (.own id (g+1) (l.take len++m).length,H.set id (.rows sz ((l.take len++m).map enc) (g+1) true)) else none))) none:=by
 by_cases h:len≤l.length
 ·have h1:(l.take len++m).length=len+m.length:=by simp [h]
  rw [decide_eq_true h,h1]
  simp only [apB,cq,List.length_map,beq_self_eq_true,Bool.and_true,Bool.true_or,decide_eq_true h,room,List.map_append,List.map_take]
  cases Nat.ble wl id <;> cases (s==sz||s==0) <;> simp [sif,ck]
 ·rw [decide_eq_false h,w9]
  simp [apB,decide_eq_false h,sif]
theorem P0 {α:Type} {l:List α} {enc:α→List V} {n:Nat}:(l.map enc).take n=(l.take n).map enc:=by rw [List.map_take]
theorem Mz {l:Tye} {i:Nat} {a b c:Int}:(l.map aB).set i [.lit (.int .i64 a),.lit (.int .i64 b),.lit (.int .i64 c)]=(l.set i (a,b,c)).map aB:=by rw [List.map_set];rfl
theorem P6 {l:Tyt} {i:Nat} {a:Int} {b:List Int}:(l.map ak).set i [.lit (.int .i64 a),.ro (b.map (aw .i64))]=(l.set i (a,b)).map ak:=by rw [List.map_set];rfl
theorem MI {l:Tyt} {i:Nat} {a:Int}:(l.map ak).set i [.lit (.int .i64 a),.ro []]=(l.set i (a,[])).map ak:=by rw [List.map_set];rfl
theorem HJ {a:Int} {b:List Int}:[[V.lit (.int .i64 a),.ro (b.map (aw .i64))]]=[(a,b)].map ak:=rfl
theorem FX {a:Int}:[[V.lit (.int .i64 a),.ro []]]=[(a,[])].map ak:=rfl
def slB (g len id:Nat) (n:Int) (H:Hp):Option B→Option (V×Hp)
 | some (.rows _ _ g' _)=>if 0≤n then (if n.toNat≤len∧g=g' then some (.own id g n.toNat,H) else none) else none
 | _=>none
theorem RR {g len id e g':Nat} {n:Int} {H:Hp} {rs:List (List V)} {lv:Bool}:slB g len id n H (some (.rows e rs g' lv))=sif (g==g') (ck (decide (0≤n∧n.toNat≤len)) (some (.own id g n.toNat,H))) none:=by
 unfold slB sif ck
 by_cases h0:0≤n
 ·by_cases h1:n.toNat≤len
  ·by_cases h2:g=g'
   ·simp [h0,h1,h2]
   ·simp [h0,h1,h2,beq_false_of_ne h2]
  ·simp [h0,h1]
 ·simp [h0]
theorem oC {P : Program} {wl : Nat} {c : Bool} {t e : TypeId} {id g len : Nat} {k : IntKind} {n : Int} {H : Hp} (he : lA P t = some e) (hz : (aM P e != 0) = true) :
    cg P wl c t (.own id g len) none (some (.lit (.int k n))) none H = slB g len id n H (H[id]?) := by
  have hz' : aM P e ≠ 0 := by simpa using hz
  unfold cg slB
  simp only [he, bnd]
  by_cases h0 : 0 ≤ n
  · simp only [h0, if_true, Option.bind_some]
    generalize H[id]? = b
    cases b with
    | none => rfl
    | some b => cases b <;> simp [hz']
  · simp only [h0, if_false, Option.bind_none]
    generalize H[id]? = b
    cases b with
    | none => rfl
    | some b => cases b <;> rfl
end Go.Ab
namespace Go.Ab
end Go.Ab
namespace Go.Ab
theorem Y6 {env:List V} {t:Nat}:evO env (.tmp t)=env[t]? := rfl
theorem TO {env:List V} {f:Nat}:evO env (.func f)=some (.fn (.func f) [] []):=rfl
theorem Eo {env vs:List V}:ez env [] vs=env:=by cases vs <;> rfl
theorem B8 {env vs:List V} {t:Tmp} {ts:List Tmp} {v:V}:ez env (t::ts) (v::vs)=ez (env.set t v) ts vs:=rfl
end Go.Ab
namespace Go.Ab
theorem XT {n:Nat}:V.kill n uu=uu:=rfl
end Go.Ab
namespace Go.Ab
def aK {α:Type} (bytes:Nat) (l:List α):Option (List α):=ck (Nat.ble (l.length*bytes) 70368744177664) (some l)
section clone
variable {P:Program} {t e:TypeId} {α:Type} {enc:α→List V} {sz bytes:Nat}
theorem kw (he:lA P t=some e) (hz:∃ z,fB P e=some z∧a7 (bR z)=true∧((bR z).length==sz)=true) (hs:aM P e=sz) (hg:Ix P e=true) (hb:P.bytesOf e=bytes) (hl:∀ x,(enc x).length=sz) (l:List α) :
  ki P t [.ro (l.map enc)] []=ob (aK bytes l) fun r=>some (.own 1 1 r.length,[.rows 0 [] 0 true,.rows sz (r.map enc) 1 true]):=by
 obtain ⟨z,z1,z2,z3⟩:=hz
 unfold ki
 simp only [he,Option.bind_some,z1,Hd,hs,hg,z2,z3,hb,eF hl,Bool.and_true,Bool.true_and,List.length_map,List.length_nil,List.nil_append]
 unfold aK
 cases Nat.ble (l.length*bytes) 70368744177664 <;> rfl
theorem ik (hl:∀ x,a8 (enc x)=true) (l:List α) (g:Nat) :
  rt none (ob (aK bytes l) fun r=>some (.own 1 1 r.length,[.rows 0 [] 0 true,.rows g (r.map enc) 1 true]))=ob (aK bytes l) fun r=>some (.ro (r.map enc),[]):=by
 rw [ZF]
 congr 1
 funext r
 rw [HQ]
 exact Rv (enc:=enc) (l:=r) (e:=g) (lv:=true) rfl rfl hl
theorem ib (hl:∀ x,a8 (enc x)=true) (l:List α) (g:Nat) :
  rt (some fun _=>true) (ob (aK bytes l) fun r=>some (.own 1 1 r.length,[.rows 0 [] 0 true,.rows g (r.map enc) 1 true]))=ob (aK bytes l) fun r=>some (.own 0 0 r.length,[.rows g (r.map enc) 0 true]):=by
 rw [ZF]
 congr 1
 funext r
 have h1:di (r.map enc)=true:=by
  rw [di,List.all_eq_true]
  intro y hy
  obtain ⟨x,_,rfl⟩:=List.mem_map.1 hy
  exact hl x
 simp [HQ,lU,F8,rY,h1]
 rw [List.take_of_length_le (by simp)]
end clone
end Go.Ab
namespace Go.Ab
theorem Vm {n0 i g r o:Nat} {k:Res}:stO n0 (.ptr i g r o) k=sif (decide (i<n0)) k none:=by
 unfold stO stB Kl sif
 simp only [Bool.cond_eq_ite]
theorem Sq {n0 i g l:Nat} {k:Res}:stO n0 (.own i g l) k=sif (decide (i<n0)) k none:=by
 unfold stO stB Kl sif
 simp only [Bool.cond_eq_ite]
theorem UQ {n0 i:Nat} {k:Res}:stO n0 (.map i) k=sif (decide (i<n0)) k none:=by
 unfold stO stB Kl sif
 simp only [Bool.cond_eq_ite]
theorem abo {n0:Nat} {r:List (List V)} {k:Res}:stO n0 (.ro r) k=k:=rfl
theorem aa9 {n0:Nat} {r:List V} {k:Res}:stO n0 (.rp r) k=k:=rfl
theorem SF {n0:Nat} {v:Value} {k:Res}:stO n0 (.lit v) k=k:=rfl
theorem abA {n0:Nat} {f:Fn} {a b:List V} {k:Res}:stO n0 (.fn f a b) k=k:=rfl
theorem Rp {n0:Nat} {k:Res}:stO n0 .nil k=k:=rfl
def Ap (n:Nat):List (Value×V)→List (Value×V)
 | []=>[]
 | e::es=>(e.1,e.2.shift n)::Ap n es
def H6 (n:Nat):List (Value×V)→List (Value×V)
 | []=>[]
 | e::es=>(e.1,e.2.kill n)::H6 n es
theorem Kd {n:Nat}:∀ {es:List (Value×V)},es.map (fun e=>(e.1,e.2.kill n))=H6 n es
 | []=>rfl
 | e::es=>by simp [H6,Kd (es:=es)]
theorem F3 {n:Nat}:∀ {es:List (Value×V)},es.map (fun e=>(e.1,e.2.shift n))=Ap n es
 | []=>rfl
 | e::es=>by simp [Ap,F3 (es:=es)]
theorem LK {n:Nat} {es:List (Value×V)}:B.kill n (.map es) = .map (H6 n es):=by
 rw [← Kd]
 rfl
theorem HX {n:Nat} {es:List (Value×V)}:B.shift n (.map es) = .map (Ap n es):=by
 rw [← F3]
 rfl
theorem Px {n:Nat}:H6 n []=[]:=rfl
theorem Nl {n:Nat} {e:Value×V} {es:List (Value×V)}:H6 n (e::es)=(e.1,e.2.kill n)::H6 n es:=rfl
theorem LU {n:Nat}:Ap n []=[]:=rfl
theorem Iw {n:Nat} {e:Value×V} {es:List (Value×V)}:Ap n (e::es)=(e.1,e.2.shift n)::Ap n es:=rfl
end Go.Ab
namespace Go.Ab
theorem Ot {H:Hp}:lu .nil H=some (.ptr (H++[B.rows 0 [] 0 true]).length 0 0 0,(H++[B.rows 0 [] 0 true])++[.box [.own H.length 0 0]]):=by simp [lu,V.cells,V.one,bw]
theorem PZ {i:Nat} {H:Hp}:lu (.yld i) H=some (.ptr H.length 0 0 0,H++[.box [.yld i]]):=by simp [lu,V.cells,V.one,bw]
theorem Q5 {i:Nat} {H:Hp}:lu (.map i) H=some (.ptr H.length 0 0 0,H++[.box [.map i]]):=by simp [lu,V.cells,V.one,bw]
theorem RP {i:Nat} {l:List V} {H:Hp}:bw (.yld i::l) H=(.yld i::(bw l H).1,(bw l H).2):=rfl
theorem TZ {i:Nat} {l:List V} {H:Hp}:bw (.map i::l) H=(.map i::(bw l H).1,(bw l H).2):=rfl
theorem Oq {i:Nat}:V.cells (.yld i)=some [.yld i]:=rfl
theorem PL {i:Nat}:V.cells (.map i)=some [.map i]:=rfl
end Go.Ab
namespace Go.Ab
open Go
def V4:List (Nat×V)→Bool
 | []=>true
 | p::l=>p.2.pure&&V4 l
theorem UC:V4 []=true:=rfl
theorem OR {i:Nat} {v:V} {l:List (Nat×V)}:V4 ((i,v)::l)=(v.pure&&V4 l):=rfl
theorem ZZ {l:List (Nat×V)}:a8 (l.map (·.2))=V4 l:=by
 induction l with
 | nil=>rfl
 | cons p l ih=>simp only [List.map_cons,a8,V4,ih]
theorem wF {P:Program} {wl:Nat} {t:TypeId} {len:Nat} {l:List (Nat×V)} {H:Hp} :
  gA P wl t len l H=bq (ck (V4 l) (some ())) fun _=>aG P wl t len l H:=by
 unfold gA
 rw [ZZ]
 cases V4 l <;> simp [bq,ck]
def ldL (P:Program) (t:TypeId) (off row:Nat):Nat→List (List V)→Option V
 | _,[]=>none
 | i,r::rs=>bif row==i then aN P t (r.drop off) else ldL P t off row (i+1) rs
theorem abD {P:Program} {t:TypeId} {off row i:Nat}:ldL P t off row i []=none:=rfl
theorem UH {P:Program} {t:TypeId} {off row i:Nat} {r:List V} {rs:List (List V)}:ldL P t off row i (r::rs)=bif row==i then aN P t (r.drop off) else ldL P t off row (i+1) rs:=rfl
theorem VI {P:Program} {t:TypeId} {off row:Nat}:∀ {rs:List (List V)} {i:Nat},i≤row→ldL P t off row i rs=(rs[row - i]?).bind fun r=>aN P t (r.drop off)
 | [],i,_=>by simp [ldL]
 | r::rs,i,h=>by
  rw [ldL]
  by_cases e:row=i
  ·subst e;simp
  ·have h1:(row==i)=false:=by simp [e]
   have h2:row - i=(row - (i+1))+1:=by omega
   rw [h1,cond_false,VI (by omega),h2,List.getElem?_cons_succ]
theorem Yg {P:Program} {t:TypeId} {g row off e g':Nat} {r:List V} {rs:List (List V)} {lv:Bool} :
  ldB P t g row off (some (.rows e (r::rs) g' lv))=sif (g==g') (ldL P t off row 0 (r::rs)) none:=by
 rw [VI (Nat.zero_le _),Nat.sub_zero]
 rfl
def BV (x:Int×Int×Int×Int):List V:=[.lit (.int .i64 x.1),.lit (.int .i64 x.2.1),.lit (.int .i64 x.2.2.1),.lit (.int .i64 x.2.2.2)]
def iH (x:Int×Int×Int×Int×Int×Int×Int):List V:=
 [.lit (.int .i64 x.1),.lit (.int .i64 x.2.1),.lit (.int .i64 x.2.2.1),.lit (.int .u64 x.2.2.2.1),.lit (.int .u64 x.2.2.2.2.1),.lit (.int .u64 x.2.2.2.2.2.1),.lit (.int .i64 x.2.2.2.2.2.2)]
def cR (x:List Int):List V:=[.ro (x.map (aw .i64))]
theorem pK (x:Int×Int×Int×Int×Int×Int×Int):a8 (iH x)=true:=rfl
theorem uk (x:List Int):a8 (cR x)=true:=by
 have:=A0 (k := .i64) (l:=x)
 simp [cR,a8,V.pure,this]
section
variable {lf:List (Int×Int×Int×Int×Int×Int×Int)} {ll:List (List Int)} {n i:Nat} {a b c d e f g:Int} {x:List Int}
theorem Io:di (lf.map iH)=true:=eO pK
theorem MX:di (ll.map cR)=true:=eO uk
theorem Hq:mY n (lf.map iH)=lf.map iH:=gm pK
theorem MV:mY n (ll.map cR)=ll.map cR:=gm uk
theorem G5:kT n (lf.map iH)=lf.map iH:=fw pK
theorem HC:kT n (ll.map cR)=ll.map cR:=fw uk
theorem PC:b7 7 (lf.map iH)=true:=eF fun _=>rfl
theorem Te:b7 1 (ll.map cR)=true:=eF fun _=>rfl
theorem Mw:(lf.map iH).set i [.lit (.int .i64 a),.lit (.int .i64 b),.lit (.int .i64 c),.lit (.int .u64 d),.lit (.int .u64 e),.lit (.int .u64 f),.lit (.int .i64 g)]=(lf.set i (a,b,c,d,e,f,g)).map iH:=by rw [List.map_set];rfl
theorem Fo:[[V.lit (.int .i64 a),.lit (.int .i64 b),.lit (.int .i64 c),.lit (.int .u64 d),.lit (.int .u64 e),.lit (.int .u64 f),.lit (.int .i64 g)]]=[(a,b,c,d,e,f,g)].map iH:=rfl
theorem NT:(ll.map cR).set i [.ro (x.map (aw .i64))]=(ll.set i x).map cR:=by rw [List.map_set];rfl
theorem Nk:(ll.map cR).set i [.ro []]=(ll.set i []).map cR:=by rw [List.map_set];rfl
theorem ID:[[V.ro (x.map (aw .i64))]]=[x].map cR:=rfl
theorem F7:[[V.ro []]]=[([]:List Int)].map cR:=rfl
theorem ND:List.replicate n [V.lit (.int .i64 a),.lit (.int .i64 b),.lit (.int .i64 c),.lit (.int .u64 d),.lit (.int .u64 e),.lit (.int .u64 f),.lit (.int .i64 g)]=(List.replicate n (a,b,c,d,e,f,g)).map iH:=by rw [List.map_replicate];rfl
end
theorem Re {k:IntKind} {x y:Int}:uY (.int k x) (.int k y)=(x==y):=by
 cases k <;> rfl
theorem Ic {k:IntKind} {x:Int}:iL k (.int k x)=true:=by
 cases k <;> rfl
theorem NZ {cx:Cx} {c o:Bool} {v:Value} {args:List V} {H:Hp}:mT cx c o (.lit v) args H=none:=rfl
end Go.Ab
namespace Go.Ab
section steps
variable {cx:Cx} {K:Out→St→Res} {s:St} {r:Res} {id j n0:Nat} {ops:Array Oper} {a a':List Nat×List Nat} {env:List V} {H:Hp} {o:Oper} {i:Nat} {L:List Nat}
end steps
def apA:List Nat→List Nat→Bool
 | [],_=>true
 | i::l,m => !(inN i m)&&apA l m
where inN:Nat→List Nat→Bool
 | _,[]=>false
 | i,k::m=>i==k||inN i m
theorem Wi {i:Nat}:∀ {m:List Nat},apA.inN i m=m.contains i
 | []=>rfl
 | k::m=>by
  rw [apA.inN,Wi,List.contains_cons]
theorem VH:∀ {l m:List Nat},Az (l,m)=apA l m
 | [],m=>rfl
 | i::l,m=>by
  have:=VH (l:=l) (m:=m)
  unfold Az at this ⊢
  simp only [List.all_cons] at this ⊢
  rw [this,apA,Wi]
theorem ae0 {l m:List Nat} {k:Res}:apt (l,m) k=sif (apA l m) k none:=by
 unfold apt sif
 rw [VH,Bool.cond_eq_ite]
theorem YQ {m:List Nat}:apA [] m=true:=rfl
theorem U3 {i:Nat} {l m:List Nat}:apA (i::l) m=(!(apA.inN i m)&&apA l m):=rfl
theorem ZD {i:Nat}:apA.inN i []=false:=rfl
theorem Vt {i k:Nat} {m:List Nat}:apA.inN i (k::m)=(i==k||apA.inN i m):=rfl
theorem X2 {i g n:Nat} {l m:List Nat}:lgR (.own i g n) (l,m)=(i::l,m):=rfl
theorem WW {i g x y:Nat} {l m:List Nat}:lgR (.ptr i g x y) (l,m)=(i::l,m):=rfl
theorem ZX {i:Nat} {l m:List Nat}:lgR (.map i) (l,m)=(i::l,m):=rfl
theorem af6 {rs:List (List V)} {l m:List Nat}:lgR (.ro rs) (l,m)=(l,m):=rfl
theorem ac4 {rs:List V} {l m:List Nat}:lgR (.rp rs) (l,m)=(l,m):=rfl
theorem Xh {l m:List Nat}:lgR .nil (l,m)=(l,m):=rfl
theorem XX {v:Value} {l m:List Nat}:lgR (.lit v) (l,m)=(l,m):=rfl
theorem W5 {i g n:Nat} {l m:List Nat}:lgW (.own i g n) (l,m)=(l,i::m):=rfl
theorem aa0 {i g x y:Nat} {l m:List Nat}:lgW (.ptr i g x y) (l,m)=(l,i::m):=rfl
theorem aaz {i:Nat} {l m:List Nat}:lgW (.map i) (l,m)=(l,i::m):=rfl
theorem WZ {α:Type} {x:α}:[x].length=1:=rfl
end Go.Ab
set_option maxRecDepth 100000
namespace Go.Ab
def ans:=PLift.up (aI (aI (aI (aI @Xu @Yi) (aI @aaA (aI @X6 @aau))) (aI (aI @YI (aI @ajl @an9)) (aI @aow (aI @cq @w9)))) (aI (aI (aI @ab (aI @aaI @aat)) (aI @Y9 (aI @oK @nK))) (aI (aI @Xw (aI @Pf @LQ)) (aI @Zv (aI @cond_true.{1} @cond_false.{1})))))
theorem syP:type_of% ans.down:=ans.down
def anF:=PLift.up (aI (aI (aI (aI (aI (aI (aI (aI @Qd @ac0) (aI @afN @afy)) (aI (aI @abR @aaY) (aI @afg (aI @Zr @ab6)))) (aI (aI (aI @aa6 @aek) (aI @aeT (aI @ae9 @YT))) (aI (aI @aku @aiR) (aI @ady (aI @Xy @adm))))) (aI (aI (aI (aI @amc @akA) (aI @WN @amH)) (aI (aI @aee @aiO) (aI @ako (aI @aj9 @abv)))) (aI (aI (aI @Xt @aae) (aI @agZ (aI @ajJ @amC))) (aI (aI @abd @HQ) (aI @abr (aI @ZF @ahO)))))) (aI (aI (aI (aI (aI @Pt @Uo) (aI @XK @XL)) (aI (aI @abz @YF) (aI @aaS (aI @adD @YM)))) (aI (aI (aI @abJ @aaC) (aI @af4 (aI @X5 @aer))) (aI (aI @Xg @abp) (aI @Zh (aI @Z8 @Q7))))) (aI (aI (aI (aI @Qw @Sf) (aI @Mb @To)) (aI (aI @Q2 @P2) (aI @UF (aI @S3 @aar)))) (aI (aI (aI @Ph @W2) (aI @S9 (aI @SJ @S5))) (aI (aI @SU @abm) (aI @Ov (aI @aah @Tl))))))) (aI (aI (aI (aI (aI (aI @Sa @UA) (aI @R6 @TT)) (aI (aI @apq @aoE) (aI @ani (aI @P0 @Sz)))) (aI (aI (aI @RR @Ou) (aI @MZ (aI @A0 @MQ))) (aI (aI @HP @NC) (aI @aaL (aI @Oz @MW))))) (aI (aI (aI (aI @NE @Jk) (aI @LK @HX)) (aI (aI @Px @Nl) (aI @LU (aI @Iw @Vm)))) (aI (aI (aI @Sq @UQ) (aI @abo (aI @aa9 @SF))) (aI (aI @abA @Rp) (aI @Hu (aI @OH @LH)))))) (aI (aI (aI (aI (aI @L0 @Nv) (aI @Hw @QM)) (aI (aI @NQ @Me) (aI @Nm (aI @Jg @Nf)))) (aI (aI (aI @Nc @IY) (aI @Im (aI @Hj @Eb))) (aI (aI @VZ @Wd) (aI @aeO (aI @Y6 @TO))))) (aI (aI (aI (aI @Eo @B8) (aI @Yk @Qj)) (aI (aI @abG @UE) (aI @aai (aI @Sp @UN)))) (aI (aI (aI @Xc @Ue) (aI @OD (aI @aaQ @Ss))) (aI (aI @SG @U2) (aI @Pe (aI @O2 @Mp)))))))) (aI (aI (aI (aI (aI (aI (aI @N9 @Na) (aI @H3 @S6)) (aI (aI @QS @Hs) (aI @Xd (aI @Yf @Ym)))) (aI (aI (aI @Sm @YX) (aI @TX (aI @T3 @TE))) (aI (aI @Ud @UL) (aI @Tz (aI @Sk @TP))))) (aI (aI (aI (aI @TD @Rt) (aI @Ty @RN)) (aI (aI @QK @Qy) (aI @UO (aI @Uj @Ur)))) (aI (aI (aI @abj @aaV) (aI @YB (aI @aaF @Ts))) (aI (aI @Sv @LM) (aI @LO (aI @L9 @Vw)))))) (aI (aI (aI (aI (aI @Q6 @Xr) (aI @TV @MF)) (aI (aI @S1 @XD) (aI @U7 (aI @Vs @Vr)))) (aI (aI (aI @PI @MO) (aI @T4 (aI @NN @Ot))) (aI (aI @PZ @Q5) (aI @RP (aI @TZ @Oq))))) (aI (aI (aI (aI @PL @RY) (aI @OE @N1)) (aI (aI @Uf @Vp) (aI @Yt (aI @UX @T2)))) (aI (aI (aI @abn @NY) (aI @QB (aI @Nw @Va))) (aI (aI @QG @Q9) (aI @UK (aI @Oo @Ql))))))) (aI (aI (aI (aI (aI (aI @Ui @YK) (aI @Yz @XT)) (aI (aI @RS @Hd) (aI @My (aI @Ni @apd)))) (aI (aI (aI @ZU @RI) (aI @Pd (aI @TN @MP))) (aI (aI @Pb @Mz) (aI @P6 (aI @MI @HJ))))) (aI (aI (aI (aI @FX @OP) (aI @Rk @QN)) (aI (aI @Su @Sx) (aI @LI (aI @Hr @FT)))) (aI (aI (aI @List.length_map.{0,0} @List.length_cons.{0}) (aI @List.length_nil.{0} (aI @List.length_replicate.{0} @List.length_set.{0}))) (aI (aI @List.drop_succ_cons.{0} @List.drop_zero.{0}) (aI @List.take_succ_cons.{0} (aI @List.take_zero.{0} @List.set_cons_zero.{0})))))) (aI (aI (aI (aI (aI @List.set_cons_succ.{0} @List.nil_append.{0}) (aI @List.cons_append.{0} @List.append_nil.{0})) (aI (aI @List.getElem?_cons_zero.{0} @List.getElem?_cons_succ.{0}) (aI @List.take_nil.{0} (aI @Option.map_some.{0,0} @Option.map_none.{0,0})))) (aI (aI (aI @Option.bind_some.{0,0} @Option.bind_none.{0,0}) (aI @Nat.zero_add (aI @Nat.add_zero @Nat.le_refl))) (aI (aI @Bool.and_true @Bool.true_and) (aI @Bool.and_false (aI @Bool.false_and @Bool.or_true))))) (aI (aI (aI (aI @Bool.or_false @Bool.true_or) (aI @Bool.false_or @Bool.not_true)) (aI (aI @Bool.not_false @beq_self_eq_true.{0}) (aI @bne_self_eq_false.{0} (aI @decide_true @decide_false)))) (aI (aI (aI @if_true.{1} @if_false.{1}) (aI @Bool.false_eq_true (aI @and_self @and_true))) (aI (aI @true_and @Option.isSome_some.{0}) (aI @Option.isSome_none.{0} (aI @Int.cast_ofNat_Int @Int.toNat_natCast)))))))))
theorem syA:type_of% anF.down:=anF.down
end Go.Ab
set_option maxRecDepth 100000
namespace Go.Ab
def anf:=PLift.up (aI (aI (aI (aI (aI @wF @UC) (aI @OR (aI @abD @UH))) (aI (aI @Yg @Io) (aI @MX (aI @Hq @MV)))) (aI (aI (aI @G5 @HC) (aI @PC (aI @Te @Mw))) (aI (aI @Fo @NT) (aI @Nk (aI @ID @F7))))) (aI (aI (aI (aI @ND @Re) (aI @Ic (aI @NZ @ae0))) (aI (aI @YQ @U3) (aI @ZD (aI @Vt @X2)))) (aI (aI (aI @WW @ZX) (aI @af6 (aI @ac4 @Xh))) (aI (aI @XX @W5) (aI @aa0 (aI @aaz @WZ))))))
theorem syQ:type_of% anf.down:=anf.down
end Go.Ab
set_option linter.unusedVariables false
set_option linter.unusedSimpArgs false
namespace Go.Ab
open Go.Proofs Go.RowKit Go.Shelf Go.Sort Go.Lib
def wu:List (List V)→Option (List Int)
 | []=>some []
 | [.lit (.int .i64 n)]::l=>(wu l).map (n :: ·)
 | _=>none
theorem Cv:∀ {rs:List (List V)} {zs:List Int},wu rs=some zs→rs=zs.map fun n=>[V.lit (.int .i64 n)]
 | [],zs,h=>by cases h;rfl
 | r::l,zs,h=>by
  unfold wu at h
  split at h
  ·rename_i h2;cases h2
  ·rename_i n l' h2
   cases h2
   cases hl:wu l with
   | none=>rw [hl] at h;cases h
   | some z=>rw [hl] at h;cases h;rw [List.map_cons,← Cv hl]
  ·cases h
def GK (zs:List Int) (a b:Nat):List Int:=zs.take a++zs.drop b++List.replicate (b - a) 0
def YE (args:List V) (H:Hp):Option (V×Hp):=
 match args with
 | [.own id g len,.lit (.int .i64 a),.lit (.int .i64 b)]=>
  match H[id]? with
  | some (.rows e rs g' true)=>
   if e=1∧g=g'∧len≤rs.length∧0≤a∧a<b∧b.toNat≤len∧len≤9223372036854775807 then
    (wu (rs.take len)).map fun zs=>(.own id g (len - (b.toNat - a.toNat)),H.set id (.rows 1 ((GK zs a.toNat b.toNat).map (fun n=>[V.lit (.int .i64 n)])++rs.drop len) g true))
   else none
  | _=>none
 | _=>none
section
variable {P:Program} {ρ:Ren}
set_option maxHeartbeats 4000000 in
set_option maxRecDepth 1000000 in
theorem Z0 (L:Lays2.n23 P ρ) {b off c i j:Nat} {d:Array Int} {w:World} (hH:Holds (Value.int .i64) w b off d) (hc:d.size≤c) (hm:d.size≤9223372036854775807) (hij:i<j) (hj:j≤d.size) :
  Calls P (ρ.f 23) #[.slice (some ⟨b,off,none⟩) d.size c,.int .i64 i,.int .i64 j] w fun e w'=>e = .returned (.slice (some ⟨b,off,none⟩) (d.size - (j - i)) c) ∧
   w'=putRow (Value.int .i64) (Sort.ahead w 1) b off (GK d.toList i j).toArray:=by
 have mixed:=L.mixed;have t0:=L.t0;have a0:=L.a0;have z0:=L.z0;have v0:=L.v0;have t3:=L.t3;have a3:=L.a3;have z3:=L.z3;have v3:=L.v3
 have t4:=L.t4;have a4:=L.a4;have z4:=L.z4;have v4:=L.v4;have t22:=L.t22;have a22:=L.a22;have z22:=L.z22;have v22:=L.v22
 obtain ⟨info,hinfo,hz0,hz1,_⟩:=info_parts L.i3
 generalize hns:(d.toList.drop j).map (Value.int .i64)=ns
 have nl:ns.length=d.size - j:=by rw [← hns];simp
 have at_:∀ t,t<d.size - j→ns[t]? = some (Value.int .i64 d[j+t]!):=fun t ht=>by
  rw [← hns,List.getElem?_map,List.getElem?_drop,Array.getElem?_toList,getElem!_pos d (j+t) (by omega),Array.getElem?_eq_getElem (by omega)]
  rfl
 -- where those behind lie
 have src:∃ A:Addr,(if c=j then some (⟨b,off,none⟩:Addr) else some ⟨b,off+j,none⟩)=some A∧Hid (∀ t u,ns[t]? = some u→w.drew.cell? (A.add t)=some u):=by
  rcases Decidable.em (c=j) with e | e
  ·refine ⟨⟨b,off,none⟩,if_pos e,fun t u hu => ?_⟩
   have:=(List.getElem?_eq_some_iff.1 hu).1
   omega
  ·refine ⟨⟨b,off+j,none⟩,if_neg e,fun t u hu => ?_⟩
   have ht:t<d.size - j:=by have:=(List.getElem?_eq_some_iff.1 hu).1;omega
   rw [at_ t ht] at hu
   rw [Addr.add_lit,Nat.add_assoc]
   exact (hH (j+t) (by omega)).1.trans hu
 obtain ⟨A,hA,hsrc⟩:=src
 have one:Hid (ns.length=(d.size - j)*1):=by rw [Nat.mul_one];exact nl
 have cells:Hid (∀ u ∈ ns,u.oneCell'=true):=fun u hu=>by
  rw [← hns] at hu
  obtain ⟨x,_,rfl⟩:=List.mem_map.1 hu
  rfl
 have dest:Hid (∀ t,t<ns.length→(w.drew.cell? ⟨b,off+i*1+t,none⟩).isSome=true∧w.drew.frozen? ⟨b,off+i*1+t,none⟩=false):=fun t ht=>by
  rw [nl] at ht
  rw [Nat.mul_one,Nat.add_assoc]
  obtain ⟨h1,h2⟩:=hH (i+t) (by omega)
  exact ⟨by show (w.cell? _).isSome=true;rw [h1];rfl,h2⟩
 obtain ⟨W,hW⟩:∃ W,W=w.drew.setCells b (off+i*1) ns:=⟨_,rfl⟩
 have hAh:=holds_ahead (Value.int .i64) w 1 b off d hH
 have hP:W=putRow (Value.int .i64) (Sort.ahead w 1) b off (lay d i (d.toList.drop j)):=by
  rw [hW,← hns,Nat.mul_one,← putRow_setCells (Value.int .i64) (Sort.ahead w 1) b off _ d i (by simp;omega),putRow_self (Value.int .i64) (Sort.ahead w 1) b off d hAh]
  rfl
 have hHW:Holds (Value.int .i64) W b off (lay d i (d.toList.drop j)):=by rw [hP];exact holds_putRow (Value.int .i64) _ b off d _ hAh (lay_size _ _ _)
 have wipe:∀ ty,(Builtin.clear_ #[ρ.t 22] ty #[.slice (some ⟨b,off+(i+(d.size - j)),none⟩) (d.size - (i+(d.size - j))) (c - (i+(d.size - j)))]).run P W = .ok (.tuple #[]) (W.setCells b (off+(i+(d.size - j))) (List.replicate (d.size - (i+(d.size - j))) (.int .i64 0))):=fun ty=>by
  refine Lib.run_clear_slice W _ _ ty _ t22 v3 rfl rfl b (off+(i+(d.size - j))) _ _ (by omega) (fun t ht => ?_) (fun t ht => ?_)
  all_goals rw [Nat.add_assoc]
  ·rw [(hHW _ (by rw [lay_size];omega)).1];rfl
  ·exact (hHW _ (by rw [lay_size];omega)).2
 have keep:Aside (W=putRow (Value.int .i64) (Sort.ahead w 1) b off (lay d i (d.toList.drop j))):=hP
 have wIs:Hid (W=w.drew.setCells b (off+i*1) ns):=hW
 have hic:i≤c:=by omega
 have hjc:j≤c:=by omega
 clear hW hP hHW hAh hH at_ hns nl
 go_enter L.f23,Body2.n23_ntmps ρ
 go_wp2_with fail
 go_region_law_o (refine step_append_room rfl (.tmp 22) (.tmp 25) (ρ.t 22) rfl (ρ.t 3) info 1 t22 hinfo hz1 b off i c (by simp [Act.eval,Act.put]) A (d.size - j) (c - j) ns (by simp [Act.eval,Act.put]) one.out hsrc.out cells.out (by omega) dest.out ?_;rw [← wIs.out])
 go_wp2
 go_ret
 refine ⟨by rw [show d.size - (j - i)=i+(d.size - j) by omega];rfl,?_⟩
 unfold GK
 rw [← delete_arr d i j 0 (by omega) hj,← putRow_setCells (Value.int .i64) _ b off _ _ (i+(d.size - j)) (by rw [lay_size];simp;omega),← keep.out,List.map_replicate,show d.size - (i+(d.size - j))=j - i by omega]
theorem Lq {zs:List Int} {a b:Nat} (h:a≤b) (hb:b≤zs.length):(GK zs a b).length=zs.length:=by
 unfold GK
 simp
 omega
theorem QR {w:World} {b k:Nat} {d:Array Int} (h:k≠b):(putRow (Value.int .i64) (Sort.ahead w 1) b 0 d).heap[k]? = w.heap[k]? := by
 show (w.heap.modify b _)[k]? = _
 rw [Array.getElem?_modify,if_neg (fun e=>h e.symm)]
theorem Gh {w:World} {b:Nat} {d:Array Int} {arr:Array Value} {e:TypeId} (h:w.heap[b]? = some (.cells arr e (0,0))):(putRow (Value.int .i64) (Sort.ahead w 1) b 0 d).heap[b]? = some (.cells (putCells (Value.int .i64) 0 d arr) e (0,0)):=by
 show (w.heap.modify b _)[b]? = _
 rw [Array.getElem?_modify,if_pos rfl,h]
 rfl
theorem FY {B0:Nat} {w0 w:World} {R:Ro} {σ:List Sg} {H H':Hp} {v:V} {args:List V} {cargs:Array Value} (L:Lays2.n23 P ρ) (h:YE args H=some (v,H')) (hI:Inv 0 B0 w0 R σ H w) (hA:bU R σ args cargs):Calls P (ρ.f 23) cargs w (LJ 0 B0 w0 R σ w v H'):=by
 unfold YE at h
 split at h
 case h_2=>cases h
 rename_i id g len a b
 split at h
 case h_2=>cases h
 rename_i e0 rs g' hb
 split at h
 case isFalse=>cases h
 rename_i hc
 obtain ⟨rfl,rfl,hlen,ha0,hab,hbl,hbig⟩:=hc
 rw [Option.map_eq_some_iff] at h
 obtain ⟨zs,hz,h⟩:=h
 cases h
 have hrs:=Cv hz
 have hzl:zs.length=len:=by
  have:=congrArg List.length hrs
  rw [List.length_take,List.length_map] at this
  omega
 obtain ⟨ca,l1,rfl,hr1,hA⟩:=hA.uncons
 obtain ⟨cb,l2,e2,hr2,hA⟩:=hA.uncons
 obtain ⟨cc,l3,e3,hr3,hA⟩:=hA.uncons
 have e4:=hA.nil_inv
 cases hr2
 cases hr3
 obtain ⟨Ad,l,c,s,rfl,hs,hh,hg,hgen⟩:=kP hr1
 obtain ⟨q1,q2,q3,q4,q5,q6⟩:=kv hI hb hs hh
 obtain ⟨rfl,hn,hsm⟩:=hgen q1.symm
 cases hblk:s.blk with
 | none=>
  have:=q5 hblk
  subst this
  simp at hlen
  omega
 | some b0=>
  obtain ⟨rfl,hlc,hcap⟩:=hsm b0 hblk
  obtain ⟨arr,e,hheap,hsz,hcell,hro⟩:=q6 b0 hblk
  have hB:B0≤b0:=hI.ge id _ s b0 (Nat.zero_le _) hb rfl hs hblk
  have hrow:∀ j (hj:j<zs.length),rs[j]? = some [V.lit (.int .i64 zs[j])]:=fun j hj=>by
   have:(rs.take l)[j]? = some [V.lit (.int .i64 zs[j])]:=by rw [hrs,List.getElem?_map,List.getElem?_eq_getElem hj];rfl
   rw [List.getElem?_take] at this
   split at this
   ·exact this
   ·cases this
  have hcv:∀ j (hj:j<zs.length),arr[j]? = some (.int .i64 zs[j]):=fun j hj=>by
   obtain ⟨cv,h1,h2⟩:=hcell j 0 _ _ (hrow j hj) rfl
   cases h2
   rw [Nat.mul_one,Nat.add_zero] at h1
   exact h1
  have hH:Holds (Value.int .i64) w b0 0 zs.toArray:=fun j hj=>by
   have hj':j<zs.length:=by simpa using hj
   rw [Nat.zero_add]
   refine ⟨?_,?_⟩
   ·rw [getElem!_pos zs.toArray j hj]
    unfold World.cell?
    rw [hheap]
    simpa using hcv j hj'
   ·unfold World.frozen?
    rw [hheap]
    simp
  have el:(Value.slice (some ⟨b0,0,none⟩) l c::l1).toArray = #[.slice (some ⟨b0,0,none⟩) zs.toArray.size c,.int .i64 ((a.toNat:Nat):Int),.int .i64 ((b.toNat:Nat):Int)]:=by
   have e2':l1=Value.int .i64 a::l2:=by simpa using e2
   have e3':l2=Value.int .i64 b::l3:=by simpa using e3
   have e4':l3=[]:=by simpa using e4
   rw [e2',e3',e4',Int.toNat_of_nonneg ha0,Int.toNat_of_nonneg (by omega)]
   simp [hzl]
  rw [el]
  refine (Z0 L hH (by simpa [hzl] using hlc) (by simpa [hzl] using hbig) (by omega) (by simpa [hzl] using hbl)).mono ?_
  rintro x w' ⟨rfl,rfl⟩
  have hcl:=Lq (zs:=zs) (a:=a.toNat) (b:=b.toNat) (by omega) (by omega)
  have hsize:(putRow (Value.int .i64) (Sort.ahead w 1) b0 0 (GK zs a.toNat b.toNat).toArray).heap.size=w.heap.size:=by rw [size_putRow];rfl
  have hset:=hI.set (R':=R) (w':=putRow (Value.int .i64) (Sort.ahead w 1) b0 0 (GK zs a.toNat b.toNat).toArray) (b' := .rows 1 ((GK zs a.toNat b.toNat).map (fun n=>[V.lit (.int .i64 n)])++rs.drop l) g true) (s':=s) hb rfl hs hh (Nat.zero_le _) (ui.refl s) (fun k hk => .inl hk)
   ⟨rfl,rfl,rfl,by rw [hsize];exact Nat.le_refl _,fun k hk=>QR (by omega)⟩ (by rw [hsize];exact Nat.le_refl _) (fun k _ hk=>QR (fun e=>hk (by rw [e];exact hblk))) (gi.refl R) (fun _ _ h => .inl h)
   (fun k o u hu hk=>by
    rw [hblk] at hk;cases hk
    have:=(hro o (by simp [hu])).1
    cases this)
   ⟨q1,q2,q3,fun r hr=>by
    rcases List.mem_append.1 hr with hr | hr
    ·obtain ⟨n,_,rfl⟩:=List.mem_map.1 hr
     exact ⟨rfl,rfl⟩
    ·exact q4 r (List.mem_of_mem_drop hr),by
    rw [hblk]
    refine ⟨_,e,Gh hheap,?_,fun i j r x hr hx => ?_,fun o ho => ?_⟩
    ·unfold putCells
     rw [Array.size_mapIdx]
     exact hsz
    ·rw [dI hs]
     by_cases hi:i<zs.length
     ·rw [List.getElem?_append_left (by simp;omega),List.getElem?_map,List.getElem?_eq_getElem (by omega)] at hr
      cases hr
      cases j with
      | succ j=>simp at hx
      | zero=>
       cases hx
       refine ⟨.int .i64 ((GK zs a.toNat b.toNat)[i]'(by omega)), ?_, .lit _⟩
       unfold putCells
       have hai:=hcv i hi
       rw [Nat.mul_one,Nat.add_zero,Array.getElem?_mapIdx,hai]
       simp only [Option.map_some,Nat.zero_le,Nat.zero_add,true_and,List.size_toArray,Nat.sub_zero]
       rw [if_pos (by omega),getElem!_pos _ _ (by simp;omega)]
       simp
     ·rw [List.getElem?_append_right (by simp;omega),List.getElem?_drop] at hr
      have hr':rs[i]? = some r:=by
       rw [← hr]
       congr 1
       simp
       omega
      obtain ⟨cv,h1,h2⟩:=hcell i j r x hr' hx
      refine ⟨cv,?_,h2⟩
      unfold putCells
      rw [Array.getElem?_mapIdx,h1]
      simp only [Option.map_some,Nat.zero_le,Nat.zero_add,true_and,List.size_toArray,Nat.sub_zero]
      rw [if_neg (by omega)]
    ·have:=(hro o ho).1
     cases this⟩
  rw [dI hs] at hset
  refine ⟨R,σ,hset.widen (fun k hk => ?_),?_,by rw [hsize];exact Nat.le_refl _⟩
  ·rw [hblk] at hk;cases hk;exact hB
  ·have e5:zs.toArray.size - (b.toNat - a.toNat)=l - (b.toNat - a.toNat):=by simp [hzl]
   rw [e5]
   refine .own id g (l - (b.toNat - a.toNat)) _ _ c s hs hh (by omega) (fun _=>⟨rfl,fun hz => ?_,fun b1 hb1 => ?_⟩)
   ·rw [hblk] at hz;cases hz
   ·rw [hblk] at hb1;cases hb1
    exact ⟨rfl,by omega,hcap⟩
end
def dlB (id g len:Nat) (a b:Int) (H:Hp):Option B→Option (V×Hp)
 | some (.rows e rs g' true)=>
  if e=1∧g=g'∧len≤rs.length∧0≤a∧a<b∧b.toNat≤len∧len≤9223372036854775807 then
   (wu (rs.take len)).map fun zs=>(.own id g (len - (b.toNat - a.toNat)),H.set id (.rows 1 ((GK zs a.toNat b.toNat).map (fun n=>[V.lit (.int .i64 n)])++rs.drop len) g true))
  else none
 | _=>none
theorem W8 {id g len:Nat} {a b:Int} {H:Hp}:YE [.own id g len,.lit (.int .i64 a),.lit (.int .i64 b)] H=dlB id g len a b H H[id]? := by
 unfold YE dlB
 rfl
theorem CL:∀ l:List Int,wu (l.map (aw .i64))=some l
 | []=>rfl
 | n::l=>by rw [List.map_cons,aw,wu,CL l];rfl
theorem om {id g len e:Nat} {a b:Int} {H:Hp} {l:List Int}:dlB id g len a b H (some (.rows e (l.map (aw .i64)) g true)) =
  ck (e==1) (ck (decide (len≤l.length∧0≤a∧a<b∧b.toNat≤len∧len≤9223372036854775807)) (some (.own id g (len - (b.toNat - a.toNat)),H.set id (.rows 1 ((GK (l.take len) a.toNat b.toNat++l.drop len).map (aw .i64)) g true)))):=by
 unfold dlB
 dsimp only
 rw [List.length_map,← List.map_take,CL,← List.map_drop]
 by_cases he:e=1
 ·subst he
  rw [beq_self_eq_true,cq]
  by_cases h:len≤l.length∧0≤a∧a<b∧b.toNat≤len∧len≤9223372036854775807
  ·rw [if_pos ⟨rfl,rfl,h⟩,decide_eq_true h,cq,List.map_append]
   rfl
  ·rw [if_neg (fun z=>h z.2.2),decide_eq_false h,w9]
 ·have h1:(e==1)=false:=by simp [he]
  rw [h1,w9,if_neg (fun z=>he z.1)]
theorem aaU {P:Program} {M:Mode} {k:Nat} {f:FuncId} {args:List V} {H:Hp} (ho:M.orc f=some YE):evF P M (k+1) 0 f args H=YE args H:=by
 rw [evF,ho]
 rfl
end Go.Ab
namespace Go.Ab
def bh (x:Tys):List V:=
 [.lit (.int .i64 x.1),.ro (x.2.1.map (aw .i64)),.lit (.int .i64 x.2.2.1),.lit (.int .i64 x.2.2.2.1),.lit (.int .i64 x.2.2.2.2.1),.lit (.int .u64 x.2.2.2.2.2.1),.lit (.int .u64 x.2.2.2.2.2.2.1),.lit (.int .u64 x.2.2.2.2.2.2.2.1),.lit (.int .i64 x.2.2.2.2.2.2.2.2)]
def arC (id g row:Nat):List (Int×Nat)→Int→Option V
 | [],_=>none
 | p::l,n=>bif n==p.1 then some (.ptr id g row p.2) else arC id g row l n
theorem uT {id g row:Nat} {n:Int}:arC id g row [] n=none:=rfl
theorem ow {id g row o:Nat} {n i:Int} {l:List (Int×Nat)}:arC id g row ((i,o)::l) n=bif n==i then some (.ptr id g row o) else arC id g row l n:=rfl
def arL (sz off len:Nat):List (Int×Nat):=(List.range len).map fun j:Nat=>((j:Int),off+j*sz)
theorem HN {id g row:Nat} {n:Int}:∀ {l:List (Int×Nat)},(∀ p ∈ l,p.1≠n)→arC id g row l n=none
 | [],_=>rfl
 | p::l,h=>by
  rw [arC,show (n==p.1)=false by simp;exact fun e=>h p (List.mem_cons_self ..) e.symm,cond_false]
  exact HN fun q hq=>h q (List.mem_cons_of_mem _ hq)
theorem WA {id g row sz off:Nat} {q:Nat}:∀ (l:List Nat),q ∈ l→arC id g row (l.map fun j:Nat=>((j:Int),off+j*sz)) (q:Int)=some (.ptr id g row (off+q*sz))
 | [],h=>by cases h
 | x::l,h=>by
  rw [List.map_cons,arC]
  by_cases e:q=x
  ·subst e;simp
  ·have h2:((q:Int)==(x:Int))=false:=by simp;omega
   rw [h2,cond_false]
   exact WA l ((List.mem_cons.1 h).resolve_left e)
theorem Kz {P:Program} {t e:TypeId} {len sz id g row off:Nat} {k:IntKind} {n:Int} {H:Hp} (h:P.underlying t=some (.array len e)) (hs:aM P e=sz) (hz:sz≠0) :
  au P t (.ptr id g row off) (.lit (.int k n)) H=arC id g row (arL sz off len) n:=by
 unfold au
 simp only [h,hs]
 by_cases h0:0≤n
 ·rw [if_pos h0]
  by_cases h1:n<len
  ·rw [if_pos ⟨h1,hz⟩]
   obtain ⟨q,rfl⟩:∃ q:Nat,n=q:=⟨n.toNat,by omega⟩
   rw [arL,WA (List.range len) (List.mem_range.2 (by omega)),Int.toNat_natCast]
  ·rw [if_neg (fun hh=>h1 hh.1)]
   refine (HN fun p hp => ?_).symm
   obtain ⟨j,hj,rfl⟩:=List.mem_map.1 hp
   have:=List.mem_range.1 hj
   simp only
   omega
 ·rw [if_neg h0]
  refine (HN fun p hp => ?_).symm
  obtain ⟨j,hj,rfl⟩:=List.mem_map.1 hp
  simp only
  omega
end Go.Ab
namespace Go.Ab
def aC (x:Tyw):List V:=
 [.lit (.int .i64 x.1),.ro (x.2.1.map aB),.lit (.int .i64 x.2.2.1.1),.lit (.int .i64 x.2.2.1.2.1),.lit (.int .i64 x.2.2.1.2.2.1),.lit (.int .u64 x.2.2.1.2.2.2.1),.lit (.int .u64 x.2.2.1.2.2.2.2.1),.lit (.int .u64 x.2.2.1.2.2.2.2.2.1),.lit (.int .i64 x.2.2.1.2.2.2.2.2.2),.lit (.int .i64 x.2.2.2.1),.lit (.int .i64 x.2.2.2.2)]
mutual
theorem OW (n:Nat):∀ v:V,v.pure=true→v.kill n=v
 | .lit _,_=>rfl
 | .ro _,_=>rfl
 | .nil,_=>rfl
 | .any,_=>rfl
 | .junk,_=>rfl
 | .agg cs,h=>by rw [V.kill,kz n cs h]
 | .tup cs,h=>by rw [V.kill,kz n cs h]
 | .fn f a b,h=>by
  rw [V.pure,Bool.and_eq_true] at h
  rw [V.kill,kz n a h.1,kz n b h.2]
 | .rp _,_=>rfl
theorem kz (n:Nat):∀ l:List V,a8 l=true→iu n l=l
 | [],_=>rfl
 | v::l,h=>by
  rw [a8,Bool.and_eq_true] at h
  rw [iu,OW n v h.1,kz n l h.2]
end
theorem Gg {n:Nat} {rs:List (List V)}:mY n rs=rs.map (iu n):=by
 unfold mY
 split
 ·rename_i h
  rw [di,List.all_eq_true] at h
  have:∀ l:List (List V),(∀ x ∈ l,a8 x=true)→l.map (iu n)=l:=by
   intro l
   induction l with
   | nil=>intro _;rfl
   | cons r l ih=>intro h;rw [List.map_cons,kz n r (h r (List.mem_cons_self ..)),ih fun x hx=>h x (List.mem_cons_of_mem _ hx)]
  exact (this rs h).symm
 ·rfl
theorem af {n:Nat} {r:List V} {rs:List (List V)}:mY n (r::rs)=iu n r::mY n rs:=by
 rw [Gg,Gg,List.map_cons]
theorem ae {k:IntKind} {a:Int} {l:List Int}:[V.lit (.int k a)]::List.map (aw k) l=List.map (aw k) (a::l):=rfl
theorem aa {a b c:Int} {l:Tye}:[V.lit (.int .i64 a),.lit (.int .i64 b),.lit (.int .i64 c)]::List.map aB l=List.map aB ((a,b,c)::l):=rfl
def anX:=PLift.up (aI (aI (aI (aI (aI (aI @rtN.eq_1 @a8.eq_1) (aI @a8.eq_2 @V.pure.eq_1)) (aI (aI @V.pure.eq_2 @V.pure.eq_3) (aI @V.pure.eq_4 @V.pure.eq_5))) (aI (aI (aI @V.pure.eq_6 @V.pure.eq_7) (aI @V.pure.eq_8 @V.pure.eq_9)) (aI (aI @V.pure.eq_10 @V.pure.eq_11) (aI @V.pure.eq_12 @V.pure.eq_13)))) (aI (aI (aI (aI @nsh.eq_1 @Ri.eq_1) (aI @Ri.eq_2 @Ri.eq_3)) (aI (aI @V.kill.eq_1 @V.kill.eq_2) (aI @V.kill.eq_3 @V.kill.eq_4))) (aI (aI (aI @V.kill.eq_5 @V.kill.eq_6) (aI @V.kill.eq_7 @V.kill.eq_8)) (aI (aI @V.kill.eq_9 @V.kill.eq_10) @V.kill.eq_11)))) (aI (aI (aI (aI (aI @V.kill.eq_12 @V.kill.eq_13) (aI @iu.eq_1 @iu.eq_2)) (aI (aI @spl.eq_1 @spl.eq_2) (aI @V.shift.eq_1 @V.shift.eq_2))) (aI (aI (aI @V.shift.eq_3 @V.shift.eq_4) (aI @V.shift.eq_5 @V.shift.eq_6)) (aI (aI @V.shift.eq_7 @V.shift.eq_8) @V.shift.eq_9))) (aI (aI (aI (aI @V.shift.eq_10 @V.shift.eq_11) (aI @V.shift.eq_12 @V.shift.eq_13)) (aI (aI @f9.eq_1 @f9.eq_2) (aI @V.scal.eq_1 @V.scal.eq_2))) (aI (aI (aI @V.scal.eq_3 @V.scal.eq_4) (aI @wy.eq_1 @wy.eq_2)) (aI (aI @aw.eq_1 @lx.eq_1) @aB.eq_1)))))
theorem syD:type_of% anX.down:=anX.down
def anz:=PLift.up (aI (aI (aI @syQ @BV.eq_1) (aI @iH.eq_1 @cR.eq_1)) (aI (aI @bh.eq_1 @aC.eq_1) (aI @uT @ow)))
theorem syE:type_of% anz.down:=anz.down
end Go.Ab
namespace Go.Ab
open Go
def gh (x:Int×Int×Int):List V:=[.lit (.int .i64 x.1),.lit (.int .i64 x.2.1),.lit (.int .u64 x.2.2)]
def aju (x:Typ):List V:=
 [.lit (.int .i64 x.1.1),.lit (.int .i64 x.1.2.1),.lit (.int .i64 x.1.2.2.1),.lit (.int .i64 x.1.2.2.2),.ro (x.2.1.map ak),.ro (x.2.2.1.map (aw .u64)),.ro (x.2.2.2.1.map aC),.ro (x.2.2.2.2.map bh)]
theorem ua (x:Int×Int×Int):a8 (gh x)=true:=rfl
theorem kL (x:Tyw):a8 (aC x)=true:=by
 have h:di (x.2.1.map aB)=true:=eO fun _=>rfl
 simp [aC,a8,V.pure,h]
theorem my (x:Tys):a8 (bh x)=true:=by
 have h:=A0 (k := .i64) (l:=x.2.1)
 simp [bh,a8,V.pure,h]
section
variable {lw:List Tyw} {ls:List Tys} {lp:Tye} {n i:Nat} {a b c d e f g p q r:Int} {x:List Int} {y:Tye}
theorem Nx:di (lw.map aC)=true:=eO kL
theorem MY:mY n (lw.map aC)=lw.map aC:=gm kL
theorem Ik:kT n (lw.map aC)=lw.map aC:=fw kL
theorem Vg:b7 11 (lw.map aC)=true:=eF fun _=>rfl
theorem Oh:(lw.map aC).set i [.lit (.int .i64 p),.ro (y.map aB),.lit (.int .i64 a),.lit (.int .i64 b),.lit (.int .i64 c),.lit (.int .u64 d),.lit (.int .u64 e),.lit (.int .u64 f),.lit (.int .i64 g),.lit (.int .i64 q),.lit (.int .i64 r)]=(lw.set i (p,y,(a,b,c,d,e,f,g),q,r)).map aC:=by rw [List.map_set];rfl
theorem HH:[[V.lit (.int .i64 p),.ro (y.map aB),.lit (.int .i64 a),.lit (.int .i64 b),.lit (.int .i64 c),.lit (.int .u64 d),.lit (.int .u64 e),.lit (.int .u64 f),.lit (.int .i64 g),.lit (.int .i64 q),.lit (.int .i64 r)]]=[(p,y,(a,b,c,d,e,f,g),q,r)].map aC:=rfl
theorem GR:[V.lit (.int .i64 p),.ro (y.map aB),.lit (.int .i64 a),.lit (.int .i64 b),.lit (.int .i64 c),.lit (.int .u64 d),.lit (.int .u64 e),.lit (.int .u64 f),.lit (.int .i64 g),.lit (.int .i64 q),.lit (.int .i64 r)]::lw.map aC=((p,y,(a,b,c,d,e,f,g),q,r)::lw).map aC:=rfl
theorem M1:(lw.map aC).set i [.lit (.int .i64 p),.ro [],.lit (.int .i64 a),.lit (.int .i64 b),.lit (.int .i64 c),.lit (.int .u64 d),.lit (.int .u64 e),.lit (.int .u64 f),.lit (.int .i64 g),.lit (.int .i64 q),.lit (.int .i64 r)]=(lw.set i (p,([]:Tye),(a,b,c,d,e,f,g),q,r)).map aC:=by rw [List.map_set];rfl
theorem Ga:[[V.lit (.int .i64 p),.ro [],.lit (.int .i64 a),.lit (.int .i64 b),.lit (.int .i64 c),.lit (.int .u64 d),.lit (.int .u64 e),.lit (.int .u64 f),.lit (.int .i64 g),.lit (.int .i64 q),.lit (.int .i64 r)]]=[(p,([]:Tye),(a,b,c,d,e,f,g),q,r)].map aC:=rfl
theorem Eh:[V.lit (.int .i64 p),.ro [],.lit (.int .i64 a),.lit (.int .i64 b),.lit (.int .i64 c),.lit (.int .u64 d),.lit (.int .u64 e),.lit (.int .u64 f),.lit (.int .i64 g),.lit (.int .i64 q),.lit (.int .i64 r)]::lw.map aC=((p,([]:Tye),(a,b,c,d,e,f,g),q,r)::lw).map aC:=rfl
theorem QZ:di (ls.map bh)=true:=eO my
theorem Oy:mY n (ls.map bh)=ls.map bh:=gm my
theorem Mo:kT n (ls.map bh)=ls.map bh:=fw my
theorem abC:b7 9 (ls.map bh)=true:=eF fun _=>rfl
theorem T0:(ls.map bh).set i [.lit (.int .i64 p),.ro (x.map (aw .i64)),.lit (.int .i64 a),.lit (.int .i64 b),.lit (.int .i64 c),.lit (.int .u64 d),.lit (.int .u64 e),.lit (.int .u64 f),.lit (.int .i64 g)]=(ls.set i (p,x,a,b,c,d,e,f,g)).map bh:=by rw [List.map_set];rfl
theorem NA:[[V.lit (.int .i64 p),.ro (x.map (aw .i64)),.lit (.int .i64 a),.lit (.int .i64 b),.lit (.int .i64 c),.lit (.int .u64 d),.lit (.int .u64 e),.lit (.int .u64 f),.lit (.int .i64 g)]]=[(p,x,a,b,c,d,e,f,g)].map bh:=rfl
theorem Ih:[V.lit (.int .i64 p),.ro (x.map (aw .i64)),.lit (.int .i64 a),.lit (.int .i64 b),.lit (.int .i64 c),.lit (.int .u64 d),.lit (.int .u64 e),.lit (.int .u64 f),.lit (.int .i64 g)]::ls.map bh=((p,x,a,b,c,d,e,f,g)::ls).map bh:=rfl
theorem Qe:(ls.map bh).set i [.lit (.int .i64 p),.ro [],.lit (.int .i64 a),.lit (.int .i64 b),.lit (.int .i64 c),.lit (.int .u64 d),.lit (.int .u64 e),.lit (.int .u64 f),.lit (.int .i64 g)]=(ls.set i (p,([]:List Int),a,b,c,d,e,f,g)).map bh:=by rw [List.map_set];rfl
theorem Ip:[[V.lit (.int .i64 p),.ro [],.lit (.int .i64 a),.lit (.int .i64 b),.lit (.int .i64 c),.lit (.int .u64 d),.lit (.int .u64 e),.lit (.int .u64 f),.lit (.int .i64 g)]]=[(p,([]:List Int),a,b,c,d,e,f,g)].map bh:=rfl
theorem Gw:[V.lit (.int .i64 p),.ro [],.lit (.int .i64 a),.lit (.int .i64 b),.lit (.int .i64 c),.lit (.int .u64 d),.lit (.int .u64 e),.lit (.int .u64 f),.lit (.int .i64 g)]::ls.map bh=((p,([]:List Int),a,b,c,d,e,f,g)::ls).map bh:=rfl
theorem Nu:di (lp.map gh)=true:=eO ua
theorem M2:mY n (lp.map gh)=lp.map gh:=gm ua
theorem Ir:kT n (lp.map gh)=lp.map gh:=fw ua
theorem SQ:b7 3 (lp.map gh)=true:=eF fun _=>rfl
theorem Or:(lp.map gh).set i [.lit (.int .i64 a),.lit (.int .i64 b),.lit (.int .u64 c)]=(lp.set i (a,b,c)).map gh:=by rw [List.map_set];rfl
theorem If:[[V.lit (.int .i64 a),.lit (.int .i64 b),.lit (.int .u64 c)]]=[(a,b,c)].map gh:=rfl
theorem Gr:[V.lit (.int .i64 a),.lit (.int .i64 b),.lit (.int .u64 c)]::lp.map gh=((a,b,c)::lp).map gh:=rfl
end
theorem XW {α:Type} {wl e sz bytes id g len s:Nat} {l:List α} {enc:α→List V} {H:Hp} :
  apB wl e sz bytes id g len [] H (some (.rows s (l.map enc) g true)) =
   sif (Nat.ble wl id) (ck (decide (len≤l.length)) (ck (s==sz||s==0) (bif room (l.take len).length bytes then some (.own id (g+1) (l.take len).length,H.set id (.rows sz ((l.take len).map enc) (g+1) true)) else none))) none:=by
 have h:=Pb (wl:=wl) (e:=e) (sz:=sz) (bytes:=bytes) (id:=id) (g:=g) (len:=len) (s:=s) (l:=l) (m:=[]) (enc:=enc) (H:=H)
 rw [List.append_nil] at h
 exact h
theorem abB {kp:Nat→Bool} {cs:List V} {h:Hp}:lU (some kp) (.agg cs) h=bq (rq cs h []) fun p=>some (.agg p.1,p.2.2):=by
 unfold lU F8 bq
 dsimp only
 cases rq cs h [] <;> rfl
theorem OO {H acc:Hp}:rq [] H acc=some ([],H,acc):=rfl
theorem Mk {v:V} {vs:List V} {H acc:Hp}:rq (v::vs) H acc=bq (rY v H acc) fun p=>bq (rq vs p.2.1 p.2.2) fun q=>some (p.1::q.1,q.2.1,q.2.2):=by
 rw [rq]
 unfold bq
 cases rY v H acc with
 | none=>rfl
 | some p=>rfl
theorem O5 {v:Value} {H acc:Hp}:rY (.lit v) H acc=some (.lit v,H,acc):=rfl
theorem Tg {r:List (List V)} {H acc:Hp}:rY (.ro r) H acc=some (.ro r,H,acc):=rfl
def hmB (id g len:Nat) (H acc:Hp):Option B→Option (V×Hp×Hp)
 | some (.rows e rs g' live)=>if g=g'∧len≤rs.length∧(live=true∨len=rs.length)∧di rs=true then some (.own acc.length 0 len,H.set id .dead,acc++[.rows e (rs.take len) 0 live]) else none
 | _=>none
theorem Fz {id g len:Nat} {H acc:Hp}:rY (.own id g len) H acc=hmB id g len H acc H[id]? := by
 unfold rY hmB
 dsimp only
 cases H[id]? with
 | none=>rfl
 | some b=>cases b <;> rfl
theorem wM {α:Type} {enc:α→List V} (hp:∀ x,a8 (enc x)=true) {id g len e:Nat} {H acc:Hp} {l:List α}:hmB id g len H acc (some (.rows e (l.map enc) g true))=ck (decide (len≤l.length)) (some (.own acc.length 0 len,H.set id .dead,acc++[.rows e ((l.take len).map enc) 0 true])):=by
 unfold hmB ck
 dsimp only
 rw [List.length_map,eO hp,List.map_take]
 by_cases h:len≤l.length
 ·rw [if_pos ⟨rfl,h,.inl rfl,rfl⟩,decide_eq_true h]
  rfl
 ·rw [if_neg (fun z=>h z.2.1),decide_eq_false h]
  rfl
theorem W3 {id g e:Nat} {H acc:Hp} {lv:Bool}:hmB id g 0 H acc (some (.rows e [] g lv))=some (.own acc.length 0 0,H.set id .dead,acc++[.rows e [] 0 lv]):=by
 unfold hmB
 dsimp only
 rw [if_pos ⟨rfl,Nat.le_refl _,.inr rfl,rfl⟩]
 rfl
theorem aay {k:IntKind} {id g len e:Nat} {H acc:Hp} {l:List Int}:hmB id g len H acc (some (.rows e (l.map (aw k)) g true))=ck (decide (len≤l.length)) (some (.own acc.length 0 len,H.set id .dead,acc++[.rows e ((l.take len).map (aw k)) 0 true])):=wM fun _=>rfl
theorem abh {kp:Nat→Bool} {id g len:Nat} {h:Hp}:lU (some kp) (.own id g len) h=bq (hmB id g len h [] h[id]?) fun p=>some (p.1,p.2.2):=by
 have e:lU (some kp) (.own id g len) h=(rY (.own id g len) h []).bind fun q=>some (q.1,q.2.2):=rfl
 rw [e,Fz]
 unfold bq
 cases hmB id g len h [] h[id]? <;> rfl
theorem R7 {id g len e:Nat} {H acc:Hp} {l:List Tyw}:hmB id g len H acc (some (.rows e (l.map aC) g true))=ck (decide (len≤l.length)) (some (.own acc.length 0 len,H.set id .dead,acc++[.rows e ((l.take len).map aC) 0 true])):=wM kL
theorem aak {id g len e:Nat} {H acc:Hp} {l:List Tys}:hmB id g len H acc (some (.rows e (l.map bh) g true))=ck (decide (len≤l.length)) (some (.own acc.length 0 len,H.set id .dead,acc++[.rows e ((l.take len).map bh) 0 true])):=wM my
def anD:=PLift.up (aI (aI (aI (aI (aI (aI @Nx @MY) @Ik) (aI (aI @Vg @Oh) @HH)) (aI (aI (aI @GR @M1) @Ga) (aI @Eh @QZ))) (aI (aI (aI (aI @Oy @Mo) @abC) (aI @T0 @NA)) (aI (aI (aI @Ih @Qe) @Ip) (aI @Gw @Nu)))) (aI (aI (aI (aI (aI @M2 @Ir) @SQ) (aI @Or @If)) (aI (aI (aI @Gr @W3) @aay) (aI @abh @XW))) (aI (aI (aI (aI @abB @OO) @Mk) (aI @O5 @Tg)) (aI (aI (aI @Fz @R7) @aak) (aI @gh.eq_1 @aju.eq_1)))))
theorem syW:type_of% anD.down:=anD.down
end Go.Ab
namespace Go.Ab
section
variable {cx:Cx} {K:Out→St→Res} {r:Res} {id j n0:Nat} {ops:Array Oper} {a:List Nat×List Nat} {env:List V} {H:Hp} {o:Oper} {i:Nat} {L:List Nat}
theorem qI (hL:DZ ops=L) (ha:(r9 ops).any=false) (v:V) (H':Hp) (h2:oL cx (.region id ops true) (j+1) n0 a K ⟨nu env o.dst v,H'⟩=r) (hj:L[j]? = some i:=by rfl) (ho:ops.toList[i]? = some o:=by rfl) (hg:o.guard=none:=by rfl) (hst:(r9 ops).strict i=false:=by kernel_rfl) (h1:opV cx ((r9 ops).calm i) ((r9 ops).ord i) o.op env H=some (v,H'):=by kernel_rfl):oL cx (.region id ops true) j n0 a K ⟨env,H⟩=r:=go_op1 hL ha hj ho hg (alI hst (amh h1 h2))
section
variable {gj d:Nat} {b:Bool}
end
end
end Go.Ab
namespace Go.Ab
abbrev bb (b:Bool) (x y:Res):Res:=match b with | true=>x | false=>y
abbrev onO {A:Type} (x:Option A) (k:A→Res):Res:=match x with | some v=>k v | none=>none
abbrev aif (cx:Cx) (b:Builtin) (ts:Array TypeId) (args:List V) (H:Hp) (F:V→Hp→Res):Res:=
 match b with
 | .len=>match ts.toList,args with
  | [t],[x]=>bp (oM cx.P t x H) F
  | _,_=>none
 | .append=>match ts.toList,args with
  | [t,u],[s,x]=>bp (wB cx.P cx.wl t u s x H) F
  | _,_=>none
 | .max=>bm (iP true args) H F
 | .min=>bm (iP false args) H F
 | _=>none
abbrev opW (cx:Cx) (calm ord:Bool) (op:Op) (env:List V) (H:Hp) (F:V→Hp→Res):Res:=
 match op with
 | .move x=>onO (evO env x) fun v=>F v H
 | .assign x=>match x with
  | .const c=>onO (some (fI c)) fun v=>match v with | .nil=>bp (some (.own H.length 0 0,H++[.rows 0 [] 0 true])) F | v=>F v H
  | x=>onO (evO env x) fun v=>F v H
 | .pick c a b=>onO (evO env c) fun c=>onO (evO env a) fun a=>onO (evO env b) fun b=>bm (E7 c a b) H F
 | .alloc t=>bp (cH cx.P t H) F
 | .box _ x=>onO (evO env x) fun v=>bp (lu v H) F
 | .build t parts=>onO (QT (evO env) parts.toList) fun l=>bm (dv cx.P t l) H F
 | .buildSlice t len parts=>onO (QT (evO env) parts.toList) fun l=>bb (calm) (bp (gA cx.P cx.wl t len l H) F) (bp (aG cx.P cx.wl t len l H) F)
 | .insert t m k v=>onO (evO env m) fun m=>onO (evO env k) fun k=>onO (evO env v) fun v=>bs (kZ cx.P cx.wl t m k v H) (F uu)
 | .load t a=>onO (evO env a) fun a=>bm (nG cx.P t a H) H F
 | .store t a v=>onO (evO env a) fun a=>onO (evO env v) fun v=>bs (oW cx.P cx.wl t a v H) (F uu)
 | .nilCheck x=>onO (evO env x) fun x=>bm (Nq x H) H F
 | .binOp op t x y _=>onO (evO env x) fun x=>onO (evO env y) fun y=>bm (iJ cx.P op t x y) H F
 | .unOp op _ x=>onO (evO env x) fun x=>bm (vUn op x) H F
 | .convert s d x=>onO (evO env x) fun x=>bm (Cb cx.P s d x) H F
 | .makeFunc f a b=>onO (DW env a.toList) fun a=>onO (DW env b.toList) fun b=>F (.fn f a b) H
 | .makeMap _ r=>match r with | none=>bp (some (.map H.length,H++[.map []])) F | some _=>none
 | .makeSlice t l c=>onO (evO env l) fun l=>onO (evO env c) fun c=>bp (aV cx.P t l c H) F
 | .slice t x lo hi mx=>onO (evO env x) fun x=>onO (PS env lo) fun lo=>onO (PS env hi) fun hi=>onO (PS env mx) fun mx=>bp (cg cx.P cx.wl calm t x lo hi mx H) F
 | .fieldAddr t x i=>onO (evO env x) fun x=>bm (ag cx.P t x i) H F
 | .field t x i=>onO (evO env x) fun x=>bm (As cx.P t x i) H F
 | .indexAddr t x i=>onO (evO env x) fun x=>onO (evO env i) fun i=>bm (au cx.P t x i H) H F
 | .index t x i=>onO (evO env x) fun x=>onO (evO env i) fun i=>bm (C5 cx.P t x i) H F
 | .lookup t m k ok=>onO (evO env m) fun m=>onO (evO env k) fun k=>bm (iT cx.P t m k ok H) H F
 | .extract x i=>onO (evO env x) fun x=>bm (kj x i) H F
 | .call c=>
  match c.callee with
  | .builtin b=>onO (DW env c.args.toList) fun a=>aif cx b c.argTypes a H F
  | .value f=>onO (evO env f) fun f=>onO (DW env c.args.toList) fun a=>bp (mT cx calm ord f a H) F
  | .invoke _ _=>none
 | _=>none
theorem cM {A:Type} {x:Option A} {k:A→Res} {g:A→Option (V×Hp)} {F:V×Hp→Res} (h:∀ v,k v=(g v).bind F):onO x k=(x.bind g).bind F:=by
 cases x with
 | none=>rfl
 | some v=>exact h v
theorem II {A:Type} {x:Option A} {k:A→Res} {g:A→V×Hp} {F:V×Hp→Res} (h:∀ v,k v=F (g v)):onO x k=(x.map g).bind F:=by
 cases x with
 | none=>rfl
 | some v=>exact h v
theorem aeF {x:Option Hp} {F:V→Hp→Res}:bs x (F uu)=(x.map fun H'=>(V.lit undef,H')).bind fun p=>F p.1 p.2:=by cases x <;> rfl
theorem Zy {cx:Cx} {b:Builtin} {ts:Array TypeId} {args:List V} {H:Hp} {F:V→Hp→Res}:aif cx b ts args H F=(NH cx b ts args H).bind fun p=>F p.1 p.2:=by
 unfold aif NH
 generalize ts.toList=l
 cases b with
 | len=>rcases l with _ | ⟨_,_ | _⟩ <;> rcases args with _ | ⟨_,_ | _⟩ <;> rfl
 | append=>rcases l with _ | ⟨_,_ | ⟨_,_ | _⟩⟩ <;> rcases args with _ | ⟨_,_ | ⟨_,_ | _⟩⟩ <;> rfl
 | _=>rfl
theorem adl {cx:Cx} {calm ord:Bool} {op:Op} {env:List V} {H:Hp} {F:V→Hp→Res}:opW cx calm ord op env H F=(opV cx calm ord op env H).bind fun p=>F p.1 p.2:=by
 cases op with
 | assign x=>
  unfold opW opV
  dsimp only
  cases x with
  | const c=>
   dsimp only [evO,onO,Option.map_some,Option.bind_some]
   cases fI c <;> rfl
  | _=>exact II fun v=>rfl
 | call c=>
  unfold opW opV
  dsimp only
  cases c.callee with
  | builtin b=>exact cM fun a=>Zy
  | value f=>exact cM fun f=>cM fun a=>rfl
  | invoke _ _=>rfl
 | buildSlice t len parts=>
  unfold opW opV
  dsimp only
  refine cM fun l => ?_
  cases calm <;> rfl
 | makeMap t r=>
  unfold opW opV
  dsimp only
  cases r <;> rfl
 | _=>
  unfold opW opV
  dsimp only
  first
  | rfl
  | exact cM fun a=>cM fun b=>aeF
  | exact cM fun a=>cM fun b=>cM fun c=>aeF
  | exact II fun v=>rfl
  | exact cM fun a=>rfl
  | exact cM fun a=>II fun b=>rfl
  | exact cM fun a=>cM fun b=>rfl
  | exact cM fun a=>cM fun b=>cM fun c=>rfl
  | exact cM fun a=>cM fun b=>cM fun c=>cM fun d=>rfl
inductive Md where
 | E (c:Code) (fs:List Fr) (jn:List Nat)
 | R (o:Out) (fs:List Fr) (jn:List Nat)
 | L (c:Code) (l:Nat) (fs:List Fr) (jn:List Nat)
 | G (c:Code) (j n0:Nat) (a:List Nat×List Nat) (fs:List Fr) (g:Bool) (kn:List (Nat×Nat)) (jn:List Nat)
def anQ (cx:Cx) (K:Out→St→Res) (s:St):Md→Res
 | .E c fs _=>br cx K (.seq c::fs) .norm s
 | .R o fs _=>br cx K fs o s
 | .L c l fs _=>B4 cx K c l fs s
 | .G c j n0 a fs _ _ _=>oL cx c j n0 a (br cx K fs) s
def oT (i:Nat):Code→Bool
 | .exit j=>j==i
 | .seq a b=>oT i a||oT i b
 | .cond _ a b=>oT i a||oT i b
 | .rangeFunc _ _ a b=>oT i a||oT i b
 | .block _ a=>oT i a
 | .loop a=>oT i a
 | .scope a=>oT i a
 | _=>false
def oQ:Code→Bool
 | .seq a b=>oQ a&&oQ b
 | .cond _ a b=>oQ a||oQ b
 | .exit _=>false
 | .goto _=>false
 | .ret=>false
 | .loop _=>false
 | .block i a=>oQ a||oT i a
 | _=>true
def lO:Code→Nat
 | .region _ ops _=>ops.size
 | .seq a b=>lO a+lO b+1
 | .cond _ a b=>lO a+lO b+1
 | .rangeFunc _ _ a b=>lO a+lO b+1
 | .block _ a=>lO a
 | .scope a=>lO a
 | .loop _=>10
 | _=>0
def atJ (jn:List Nat) (n:Nat):Bool:=match jn with | []=>false | x::_=>x==n
def jnT (jn:List Nat) (n:Nat):List Nat:=bif atJ jn n then jn.tail else jn
def JA (jn:List Nat):List Fr→Nat→Bool
 | [],n=>Nat.ble 3 n
 | .seq c::r,n=>bif atJ jn (r.length+1) then false else bif oQ c then JA jn r (n+lO c) else Nat.ble 3 (n+lO c)
 | _::r,n=>bif atJ jn (r.length+1) then false else JA jn r n
abbrev sxW (n0:Nat) (st:Bool) (op:Op) (env:List V) (x:Res):Res:=
 bb (st) ((match lE op with | none=>x | some y=>match evO env y with | some v=>stO n0 v x | none=>x)) (x)
def aiL (d:Nat):List (Nat×Nat)→Option Nat
 | []=>none
 | (e,b)::r=>bif e==d then some b else aiL d r
def aaX (d:Nat):List (Nat×Nat)→List (Nat×Nat)
 | []=>[]
 | (e,b)::r=>bif e==d then aaX d r else (e,b)::aaX d r
def knR (d:Option Nat) (kn:List (Nat×Nat)):List (Nat×Nat):=match d with | none=>kn | some d=>aaX d kn
def knS (d:Option Nat) (kn:List (Nat×Nat)):List (Nat×Nat):=match d with | none=>kn | some d=>(d,2)::kn
def wk (cx:Cx) (K:Out→St→Res):Nat→Md→St→Res
 | 0,m,s=>anQ cx K s m
 | n+1,m,s=>match m with
  | .E c fs jn=>match c with
   | .skip=>wk cx K n (.R .norm fs jn) s
   | .region id ops draw=>bb (draw) ((bb (Eg ops) (wk cx K n (.G (.region id ops true) 0 s.H.length ([],[]) fs false [] jn) s) (none))) (wk cx K n (.G (.region id ops false) 0 s.H.length ([],[]) fs false [] jn) s)
   | .seq a b=>wk cx K n (.E a (.seq b::fs) jn) s
   | .block id a=>wk cx K n (.E a (.block id::fs) jn) s
   | .scope a=>wk cx K n (.E a (.scope a::fs) jn) s
   | .cond v a b=>onO (evO s.env v) fun v=>
    bb (oQ a&&oQ b&&JA jn fs 0) (cnd v (wk cx K n (.E a fs (fs.length::jn)) s) (wk cx K n (.E b fs (fs.length::jn)) s)) (cnd v (wk cx K n (.E a fs jn) s) (wk cx K n (.E b fs jn) s))
   | .exit id=>wk cx K n (.R (.exit id) fs jn) s
   | .goto l=>wk cx K n (.R (.goto l) fs jn) s
   | .ret=>wk cx K n (.R .ret fs jn) s
   | .label _=>wk cx K n (.R .norm fs jn) s
   | .loop a=>itX cx a s.H.length (br cx K fs) cx.n (tidy s.H.length (Mm (cx.M.named cx.fid) (kO a ([],[])) false) s)
   | c=>aY cx c none (br cx K fs) s
  | .R o fs jn=>match o with
   | .norm=>bb (atJ jn fs.length) (br cx K fs .norm s) (match fs with
    | []=>K .norm s
    | .seq c::r=>wk cx K n (.E c r jn) s
    | .block _::r=>wk cx K n (.R .norm r jn) s
    | .scope _::r=>wk cx K n (.R .norm r jn) s
    | .scope2 _::r=>wk cx K n (.R .norm r jn) s)
   | .exit i=>match fs with
    | []=>K (.exit i) s
    | .seq _::r=>wk cx K n (.R (.exit i) r (jnT jn fs.length)) s
    | .block id::r=>bb (i==id) (wk cx K n (.R .norm r (jnT jn fs.length)) s) (wk cx K n (.R (.exit i) r (jnT jn fs.length)) s)
    | .scope _::r=>wk cx K n (.R (.exit i) r (jnT jn fs.length)) s
    | .scope2 _::r=>wk cx K n (.R (.exit i) r (jnT jn fs.length)) s
   | .goto l=>match fs with
    | []=>K (.goto l) s
    | .seq _::r=>wk cx K n (.R (.goto l) r (jnT jn fs.length)) s
    | .block _::r=>wk cx K n (.R (.goto l) r (jnT jn fs.length)) s
    | .scope a::r=>bb (bJ l a) (wk cx K n (.L a l (.scope2 a::r) (jnT jn fs.length)) s) (wk cx K n (.R (.goto l) r (jnT jn fs.length)) s)
    | .scope2 a::r=>bb (bJ l a) (none) (wk cx K n (.R (.goto l) r (jnT jn fs.length)) s)
   | o=>match fs with
    | []=>K o s
    | _::r=>wk cx K n (.R o r (jnT jn fs.length)) s
  | .L c l fs jn=>match c with
   | .seq a b=>bb (bJ l a) (wk cx K n (.L a l (.seq b::fs) jn) s) (wk cx K n (.L b l fs jn) s)
   | .label l'=>bb (l'==l) (wk cx K n (.R .norm fs jn) s) (none)
   | c=>B4 cx K c l fs s
  | .G c j n0 a fs g kn jn=>match (mW c)[j]? with
   | none=>bb ((lm c).any) (apt a (wk cx K n (.R .norm fs jn) s)) (wk cx K n (.R .norm fs jn) s)
   | some (o,i)=>
    let run:=fun env g kn=>sxW n0 ((lm c).strict i) o.op env (opW cx ((lm c).calm i) ((lm c).ord i) o.op env s.H fun v h=>wk cx K n (.G c (j+1) n0 (Kc (lm c) i o.op env a) fs g (knR o.dst kn) jn) ⟨nu env o.dst v,h⟩)
    let skip:=fun env g kn=>wk cx K n (.G c (j+1) n0 a fs g (knS o.dst kn) jn) ⟨nu env o.dst uu,s.H⟩
    match o.guard with
    | none=>bb (g) (oL cx c j n0 a (br cx K fs) s) (run s.env g kn)
    | some (gj,want)=>match ((Jq c)[gj]?).bind (·.dst) with
     | none=>none
     | some d=>match aiL d kn with
      | some _=>match s.env[d]? with
       | some (.lit (.bool b))=>bb (b==want) (run (s.env.set d (.lit (.bool b))) g kn) (skip (s.env.set d (.lit (.bool b))) g kn)
       | some (.lit (.tuple _))=>skip s.env g kn
       | _=>none
      | none=>bb g (oL cx c j n0 a (br cx K fs) s)
       (onO s.env[d]? fun v=>bb want
        (gd v (run (s.env.set d (.lit (.bool true))) true ((d,1)::kn)) (skip (s.env.set d (.lit (.bool false))) true ((d,0)::kn)) (oL cx c (j+1) n0 a (br cx K fs) ⟨nu s.env o.dst uu,s.H⟩))
        (gd v (skip (s.env.set d (.lit (.bool true))) true ((d,1)::kn)) (run (s.env.set d (.lit (.bool false))) true ((d,0)::kn)) (oL cx c (j+1) n0 a (br cx K fs) ⟨nu s.env o.dst uu,s.H⟩)))
section
variable {cx:Cx} {K:Out→St→Res} {c:Code} {j n0:Nat} {a:List Nat×List Nat} {s:St} {r:Res}
theorem NO (h:(mW c)[j]? = none):oL cx c j n0 a K s=if (lm c).any then apt a (K .norm s) else K .norm s:=by
 unfold oL
 rw [List.drop_eq_nil_iff.2 (List.getElem?_eq_none_iff.1 h)]
 rfl
theorem QA {o:Oper} {i:Nat} (h:(mW c)[j]? = some (o,i)):oL cx c j n0 a K s =
  (let run (env:List V):Res:=if eq n0 ((lm c).strict i) o.op env then (opV cx ((lm c).calm i) ((lm c).ord i) o.op env s.H).bind fun p=>oL cx c (j+1) n0 (Kc (lm c) i o.op env a) K ⟨nu env o.dst p.1,p.2⟩ else none
   let skip (env:List V):Res:=oL cx c (j+1) n0 a K ⟨nu env o.dst (.lit undef),s.H⟩
   match o.guard with
   | none=>run s.env
   | some (j,want)=>
    match ((Jq c)[j]?).bind (·.dst) with
    | none=>none
    | some d=>
     match s.env[d]? with
     | some (.lit (.bool b))=>IE b want d s.env run skip
     | some (.lit (.tuple _))=>skip s.env
     | _=>none):=by
 obtain ⟨hj,he⟩:=List.getElem?_eq_some_iff.1 h
 unfold oL
 rw [List.drop_eq_getElem_cons hj,he]
 rfl
theorem af5 {st:Bool} {op:Op} {env:List V} {x:Res}:sxW n0 st op env x=if eq n0 st op env then x else none:=by
 unfold sxW eq nA
 cases st with
 | false=>rfl
 | true=>
  dsimp only [bb,if_true]
  cases lE op with
  | none=>rfl
  | some y=>
   have h:∀ q:Option V,(match q with | some v=>stO n0 v x | none=>x)=if (match (match q with | some v=>Kl v | none=>none) with | some i=>decide (i<n0) | none=>true)=true then x else none:=by
    intro q
    cases q with
    | none=>rfl
    | some v=>rfl
   exact h _
end
theorem NB (cx:Cx) (K:Out→St→Res):∀ (n:Nat) (m:Md) (s:St),wk cx K n m s=anQ cx K s m
 | 0,_,_=>rfl
 | n+1,m,s=>by
  have ih:=NB cx K n
  cases m with
  | E c fs jn=>
   cases c with
   | skip=>exact ih _ _
   | region id ops draw=>
    cases draw with
    | false=>exact (ih _ _).trans (go_reg0 rfl).symm
    | true=>
     show bb (Eg ops) (wk cx K n _ s) none=_
     cases h:Eg ops with
     | true=>exact (ih _ _).trans (go_reg1 h rfl).symm
     | false=>
      show none=aY cx (.region id ops true) none (br cx K fs) s
      simp [aY,h]
   | seq a b=>exact (ih _ _).trans (go_seq rfl).symm
   | block id a=>exact (ih _ _).trans (go_block rfl).symm
   | scope a=>exact (ih _ _).trans (go_scope rfl).symm
   | cond v a b=>
    show onO (evO s.env v) _=_
    cases h:evO s.env v with
    | none=>
     show none=aY cx (.cond v a b) none (br cx K fs) s
     simp only [aY,h]
    | some v=>
     refine Eq.trans ?_ (go_cond h rfl rfl).symm
     show bb _ _ _=_
     cases (oQ a&&oQ b&&JA jn fs 0) <;> (simp only [bb,ih];rfl)
   | exit id=>exact ih _ _
   | goto l=>exact ih _ _
   | ret=>exact ih _ _
   | label l=>exact ih _ _
   | loop a=>rfl
   | _=>rfl
  | R o fs jn=>
   cases o with
   | norm=>
    show bb _ _ _=_
    cases atJ jn fs.length with
    | true=>rfl
    | false=>cases fs with
     | nil=>rfl
     | cons f r=>cases f <;> exact ih _ _
   | exit i=>
    cases fs with
    | nil=>rfl
    | cons f r=>cases f with
     | block id=>
      show bb (i==id) _ _=if i=id then _ else _
      by_cases h:i=id
      ·subst h
       rw [beq_self_eq_true,if_pos rfl]
       exact ih _ _
      ·rw [beq_false_of_ne h,if_neg h]
       exact ih _ _
     | _=>exact ih _ _
   | goto l=>
    cases fs with
    | nil=>rfl
    | cons f r=>cases f with
     | scope a=>
      show bb (bJ l a) _ _=_
      cases h:bJ l a with
      | true=>exact (ih _ _).trans (Iv h rfl).symm
      | false=>exact (ih _ _).trans (Ft h rfl).symm
     | scope2 a=>
      show bb (bJ l a) _ _=br cx K (.scope2 a::r) (.goto l) s
      cases h:bJ l a with
      | true=>simp only [br,h,if_true]
      | false=>exact (ih _ _).trans (DT h rfl).symm
     | _=>exact ih _ _
   | ret=>
    cases fs with
    | nil=>rfl
    | cons f r=>cases f <;> exact ih _ _
  | L c l fs jn=>
   cases c with
   | seq a b=>
    show bb (bJ l a) _ _=_
    cases h:bJ l a with
    | true=>exact (ih _ _).trans (ZK h rfl).symm
    | false=>exact (ih _ _).trans (SD h rfl).symm
   | label l'=>
    show bb (l'==l) _ _=aY cx (.label l') (some l) (br cx K fs) s
    cases h:l'==l with
    | true=>simp only [aY,h,if_true];exact ih _ _
    | false=>simp only [aY,h];rfl
   | _=>rfl
  | G c j n0 a fs g kn jn=>
   show (match (mW c)[j]? with | none=>_ | some (o,i)=>_)=oL cx c j n0 a (br cx K fs) s
   cases h:(mW c)[j]? with
   | none=>
    rw [NO h]
    show bb _ _ _=_
    cases (lm c).any <;> (simp only [bb,ih];rfl)
   | some p=>
    obtain ⟨o,i⟩:=p
    have hrun:∀ env g kn,sxW n0 ((lm c).strict i) o.op env (opW cx ((lm c).calm i) ((lm c).ord i) o.op env s.H fun v h=>wk cx K n (.G c (j+1) n0 (Kc (lm c) i o.op env a) fs g (knR o.dst kn) jn) ⟨nu env o.dst v,h⟩) =
      if eq n0 ((lm c).strict i) o.op env then (opV cx ((lm c).calm i) ((lm c).ord i) o.op env s.H).bind fun p=>oL cx c (j+1) n0 (Kc (lm c) i o.op env a) (br cx K fs) ⟨nu env o.dst p.1,p.2⟩ else none:=by
     intro env g kn
     rw [af5,adl]
     congr 1
     congr 1
     funext p
     exact ih _ _
    have hskip:∀ env g kn,wk cx K n (.G c (j+1) n0 a fs g (knS o.dst kn) jn) ⟨nu env o.dst uu,s.H⟩=oL cx c (j+1) n0 a (br cx K fs) ⟨nu env o.dst (.lit undef),s.H⟩:=fun env g kn=>ih _ _
    rw [QA h]
    dsimp only
    simp only [hrun,hskip]
    cases hg:o.guard with
    | none=>
     cases g with
     | true=>rfl
     | false=>rfl
    | some q=>
     obtain ⟨gj,want⟩:=q
     dsimp only
     cases hd:((Jq c)[gj]?).bind (·.dst) with
     | none=>rfl
     | some d=>
      dsimp only
      cases hk:aiL d kn with
      | some b=>
       dsimp only
       cases he:s.env[d]? with
       | none=>rfl
       | some v=>
        cases v with
        | lit x=>
         cases x with
         | bool t=>cases t <;> cases want <;> rfl
         | _=>rfl
        | _=>rfl
      | none=>
       cases g with
       | true=>rfl
       | false=>
        dsimp only [bb]
        cases he:s.env[d]? with
        | none=>rfl
        | some v=>
         cases v with
         | lit x=>
          cases x with
          | bool t=>cases t <;> cases want <;> rfl
          | tuple x=>cases want <;> rfl
          | _=>cases want <;> rfl
         | _=>cases want <;> rfl
section
variable {cx:Cx} {K:Out→St→Res} {c:Code} {j n0 n:Nat} {a:List Nat×List Nat} {s:St} {r:Res} {fs:List Fr} {o:Out}
theorem kG (h:wk cx K 999 (.G c j n0 a fs false [] []) s=r:=by kernel_rfl):oL cx c j n0 a (br cx K fs) s=r:=(NB ..).symm.trans h
theorem kJ (jn:List Nat) (h:wk cx K 999 (.G c j n0 a fs false [] jn) s=r:=by kernel_rfl):oL cx c j n0 a (br cx K fs) s=r:=(NB ..).symm.trans h
theorem kR (h:wk cx K 999 (.R o fs []) s=r:=by kernel_rfl):br cx K fs o s=r:=(NB ..).symm.trans h
theorem kI (h:wk cx (nt cx c n0 K n) 999 (.E c [] []) s=r:=by kernel_rfl):itX cx c n0 K (n+1) s=r:=Vq ((NB ..).symm.trans h)
theorem kB {fn:Func} {args:List V} {H:Hp} (h:wk cx (aX cx.P fn) 999 (.E (aj fn) [] []) ⟨args++List.replicate (fn.ntmps - args.length) uu,H⟩=r:=by kernel_rfl) (hb:fn.body=some (aj fn):=by rfl):BX cx fn args H=r:=Ps hb ((NB ..).symm.trans h)
end
end Go.Ab
namespace Go.Ab
universe u v
inductive I where
 | ld (t x d:Nat)
 | ex (x i d:Nat)
 | bo (o:BinOp) (t x y d:Nat)
 | un (o:UnOp) (x d:Nat)
 | cv (a b x d:Nat)
 | fa (t x i d:Nat)
 | fi (t x i d:Nat)
 | ia (t x i d:Nat)
 | ix (t x i d:Nat)
 | lk (t m x:Nat) (ok:Bool) (d:Nat)
 | pk (c a b d:Nat)
 | bu (t:Nat) (l:List (Nat×Nat)) (d:Nat)
 | nk (x d:Nat)
 | mm (b:Bool) (l:List Nat) (d:Nat)
 | bx (x d:Nat)
 | al (t d:Nat)
 | nl (d:Nat)
 | bS (c:Bool) (t len:Nat) (l:List (Nat×Nat)) (d:Nat)
 | mk (d:Nat)
 | ms (t a b d:Nat)
 | sl (c:Bool) (t x:Nat) (lo hi mx:Nat) (d:Nat)
 | le (t x d:Nat)
 | ap (t u a x d:Nat)
 | ca (c o:Bool) (f:Nat) (l:List Nat) (d:Nat)
 | st (t a v:Nat)
 | is (t m x v:Nat)
 | mv (x d:Nat)
 | fn (f:Nat) (a b:List Nat) (d:Nat)
 | no
 | rg
 | so (x:Nat)
 | lr (x:Nat)
 | lw (x:Nat)
 | pt
 | cn (x:Nat) (a b:List I)
 | gd (x:Nat) (a b c:List I)
 | rv (x:Nat)
 | rt (l:List Nat)
 | ro (l:List (Option Nat×Nat))
 | sg (c:Code) (j:Nat) (f:List Fr)
 | sh (c:Code) (j:Nat)
 | lo (c:Code) (m:List Nat) (f:List Fr)
 | ln (c:Code) (m:List Nat)
 | nx (c:Code) (m:List Nat)
 | kt (o:Out) (m:List Nat)
 | kf (o:Out)
 | jn (f:List Fr)
 | rf (c:Code) (f:List Fr)
 | rn (c:Code)
abbrev hi {A:Sort u} {B:Sort v} (_:A) (b:B):B:=b
def gt (e:List V) (i:Nat) (F:V→Res):Res:=hi @wk (onO e[i]? F)
def gts (e:List V):List Nat→(List V→Res)→Res
 | [],F=>hi @wk (F [])
 | i::r,F=>gt e i fun v=>gts e r fun l=>F (v::l)
def gtp (e:List V):List (Nat×Nat)→(List (Nat×V)→Res)→Res
 | [],F=>hi @wk (F [])
 | p::r,F=>gt e p.2 fun v=>gtp e r fun l=>F ((p.1,v)::l)
def gto (e:List V) (i:Nat) (F:Option V→Res):Res:=hi @wk (match i with
 | 0=>F none
 | i+1=>gt e (i+1) fun v=>F (some v))
def s1 (l:List V) (d:Nat) (v:V) (F:List V→Res):Res:=hi @wk (F (l.set d v))
def sE (e:List V) (d:Nat) (v:V) (F:List V→Res):Res:=hi @wk (match d with
 | 0=>F e
 | d+1=>s1 e (d+1) v F)
def dR:Nat→List V→(List V→Res)→Res
 | 0,e,F=>hi @wk (F e)
 | n+1,e,F=>match e with
  | []=>F []
  | _::l=>dR n l F
def kM (b:Bool) (n:Nat):List Nat→List V→(List V→Res)→Res
 | _,[],F=>hi @wk (F [])
 | [],a::l,F=>kM b n [] l fun r=>F ((match b with | true => .junk | false=>V.kill n a)::r)
 | j::m,a::l,F=>match j with
  | 0=>match m with
   | []=>kM (!b) n [] l fun r=>F ((match !b with | true => .junk | false=>V.kill n a)::r)
   | i::m'=>match i with
    | 0=>F []
    | i+1=>kM (!b) n (i::m') l fun r=>F ((match !b with | true => .junk | false=>V.kill n a)::r)
  | j+1=>kM b n (j::m) l fun r=>F ((match b with | true => .junk | false=>V.kill n a)::r)
inductive Cn where
 | u
 | b (x:Bool)
 | i (x:Int)
 | f (x:Nat)
 | v (x:V)
def aps:List Cn→List V→(List V→Res)→Res
 | [],l,F=>hi @wk (F l)
 | c::r,l,F=>aps r l fun x=>F ((match c with
  | .u=>uu
  | .b y => .lit (.bool y)
  | .i y => .lit (.int .i64 y)
  | .f y => .fn (.func y) [] []
  | .v y=>y)::x)
def rep:Nat→(List V→Res)→Res
 | 0,F=>hi @wk (F [])
 | n+1,F=>rep n fun l=>F (uu::l)
def ini:List V→Nat→(List V→Res)→Res
 | [],n,F=>rep n F
 | c::r,n,F=>ini r n fun x=>F (c::x)
def roL (P:Program) (e:List V) (h:Hp):List (Option Nat×Nat)→(List (Option V)→Res)→Res
 | [],F=>hi @wk (F [])
 | p::r,F=>gt e p.2 fun v=>roL P e h r fun l=>F ((match p.1 with | none=>some v | some t=>nG P t v h)::l)
section
variable (P:Program) (wl:Nat) (cx:Cx) (K:Out→St→Res) (k n:Nat) (N:Nat) (K':Out→St→Res) (n':Nat)
def rI:(fu:Nat)→(z:Nat)→(a:List Nat×List Nat)→List I→List V→Hp→Res
 | 0,_,_,_,_,_=>none
 | fu+1,z,a,p,e,h=>match p with
  | []=>none
  | i::r=>match i with
   | .ld t x d=>gt e x fun x=>bm (nG P t x h) h fun v h=>sE e d v fun e=>rI fu z a r e h
   | .ex x i d=>gt e x fun x=>bm (kj x i) h fun v h=>sE e d v fun e=>rI fu z a r e h
   | .bo o t x y d=>gt e x fun x=>gt e y fun y=>bm (iJ P o t x y) h fun v h=>sE e d v fun e=>rI fu z a r e h
   | .un o x d=>gt e x fun x=>bm (vUn o x) h fun v h=>sE e d v fun e=>rI fu z a r e h
   | .cv s t x d=>gt e x fun x=>bm (Cb P s t x) h fun v h=>sE e d v fun e=>rI fu z a r e h
   | .fa t x i d=>gt e x fun x=>bm (ag P t x i) h fun v h=>sE e d v fun e=>rI fu z a r e h
   | .fi t x i d=>gt e x fun x=>bm (As P t x i) h fun v h=>sE e d v fun e=>rI fu z a r e h
   | .ia t x i d=>gt e x fun x=>gt e i fun i=>bm (au P t x i h) h fun v h=>sE e d v fun e=>rI fu z a r e h
   | .ix t x i d=>gt e x fun x=>gt e i fun i=>bm (C5 P t x i) h fun v h=>sE e d v fun e=>rI fu z a r e h
   | .lk t m x ok d=>gt e m fun m=>gt e x fun x=>bm (iT P t m x ok h) h fun v h=>sE e d v fun e=>rI fu z a r e h
   | .pk c x y d=>gt e c fun c=>gt e x fun x=>gt e y fun y=>bm (E7 c x y) h fun v h=>sE e d v fun e=>rI fu z a r e h
   | .bu t l d=>gtp e l fun l=>bm (dv P t l) h fun v h=>sE e d v fun e=>rI fu z a r e h
   | .nk x d=>gt e x fun x=>bm (Nq x h) h fun v h=>sE e d v fun e=>rI fu z a r e h
   | .mm b l d=>gts e l fun l=>bm (iP b l) h fun v h=>sE e d v fun e=>rI fu z a r e h
   | .bx x d=>gt e x fun x=>bp (lu x h) fun v h=>sE e d v fun e=>rI fu z a r e h
   | .al t d=>bp (cH P t h) fun v h=>sE e d v fun e=>rI fu z a r e h
   | .nl d=>bp (some (.own h.length 0 0,h++[.rows 0 [] 0 true])) fun v h=>sE e d v fun e=>rI fu z a r e h
   | .bS c t len l d=>gtp e l fun l=>bp (match c with | true=>gA P wl t len l h | false=>aG P wl t len l h) fun v h=>sE e d v fun e=>rI fu z a r e h
   | .mk d=>bp (some (.map h.length,h++[.map []])) fun v h=>sE e d v fun e=>rI fu z a r e h
   | .ms t x y d=>gt e x fun x=>gt e y fun y=>bp (aV P t x y h) fun v h=>sE e d v fun e=>rI fu z a r e h
   | .sl c t x lo hi mx d=>gt e x fun x=>gto e lo fun lo=>gto e hi fun hi=>gto e mx fun mx=>bp (cg P wl c t x lo hi mx h) fun v h=>sE e d v fun e=>rI fu z a r e h
   | .le t x d=>gt e x fun x=>bp (oM P t x h) fun v h=>sE e d v fun e=>rI fu z a r e h
   | .ap t u x y d=>gt e x fun x=>gt e y fun y=>bp (wB P wl t u x y h) fun v h=>sE e d v fun e=>rI fu z a r e h
   | .ca c o f l d=>gt e f fun f=>gts e l fun l=>bp (mT cx c o f l h) fun v h=>sE e d v fun e=>rI fu z a r e h
   | .st t x v=>gt e x fun x=>gt e v fun v=>bs (oW P wl t x v h) fun h=>rI fu z a r e h
   | .is t m x v=>gt e m fun m=>gt e x fun x=>gt e v fun v=>bs (kZ P wl t m x v h) fun h=>rI fu z a r e h
   | .mv x d=>gt e x fun v=>sE e d v fun e=>rI fu z a r e h
   | .fn f x y d=>gts e x fun x=>gts e y fun y=>sE e d (.fn (.func f) x y) fun e=>rI fu z a r e h
   | .no=>none
   | .rg=>rI fu h.length ([],[]) r e h
   | .so x=>gt e x fun x=>stO z x (rI fu z a r e h)
   | .lr x=>gt e x fun x=>rI fu z (lgR x a) r e h
   | .lw x=>gt e x fun x=>rI fu z (lgW x a) r e h
   | .pt=>apt a (rI fu z a r e h)
   | .cn x p q=>gt e x fun x=>cnd x (rI fu z a p e h) (rI fu z a q e h)
   | .gd x p q c=>gt e x fun x=>Go.Ab.gd x (rI fu z a p e h) (rI fu z a q e h) (rI fu z a c e h)
   | .rv x=>gt e x fun v=>some (v,h)
   | .rt l=>gts e l fun l=>some (.tup l,h)
   | .ro l=>roL P e h l fun l=>afB l h
   | .sg c j f=>dR n e fun l=>oL cx c j z a (br cx K f) ⟨l,h⟩
   | .sh c j=>dR n e fun l=>oL cx c j z a K ⟨l,h⟩
   | .lo c m f=>dR n e fun l=>kM false h.length m l fun l=>itX cx c h.length (br cx K f) k ⟨l,oc h.length h⟩
   | .ln c m=>dR n e fun l=>kM false h.length m l fun l=>itX cx c h.length K k ⟨l,oc h.length h⟩
   | .nx c m=>dR n e fun l=>kM false N m l fun l=>itX cx c N K' n' ⟨l,oc N h⟩
   | .kt o m=>dR n e fun l=>kM false N m l fun l=>K' o ⟨l,oc N h⟩
   | .kf o=>dR n e fun l=>K' o ⟨l,h⟩
   | .jn f=>dR n e fun l=>br cx K f .norm ⟨l,h⟩
   | .rf c f=>dR n e fun l=>aY cx c none (br cx K f) ⟨l,h⟩
   | .rn c=>dR n e fun l=>aY cx c none K ⟨l,h⟩
end
section
variable {P:Program} {wl:Nat} {cx:Cx} {K:Out→St→Res} {k n N:Nat} {K':Out→St→Res} {n' fu z:Nat} {a:List Nat×List Nat} {r:List I} {e:List V} {h:Hp}
theorem akW (t:Nat) (x:Nat) (d:Nat):rI P wl cx K k n N K' n' (fu+1) z a (.ld t x d::r) e h=gt e x fun x=>bm (nG P t x h) h fun v h=>sE e d v fun e=>rI P wl cx K k n N K' n' fu z a r e h:=rfl
theorem ahZ (x:Nat) (i:Nat) (d:Nat):rI P wl cx K k n N K' n' (fu+1) z a (.ex x i d::r) e h=gt e x fun x=>bm (kj x i) h fun v h=>sE e d v fun e=>rI P wl cx K k n N K' n' fu z a r e h:=rfl
theorem al3 (o:BinOp) (t:Nat) (x:Nat) (y:Nat) (d:Nat):rI P wl cx K k n N K' n' (fu+1) z a (.bo o t x y d::r) e h=gt e x fun x=>gt e y fun y=>bm (iJ P o t x y) h fun v h=>sE e d v fun e=>rI P wl cx K k n N K' n' fu z a r e h:=rfl
theorem akZ (o:UnOp) (x:Nat) (d:Nat):rI P wl cx K k n N K' n' (fu+1) z a (.un o x d::r) e h=gt e x fun x=>bm (vUn o x) h fun v h=>sE e d v fun e=>rI P wl cx K k n N K' n' fu z a r e h:=rfl
theorem agM (s:Nat) (t:Nat) (x:Nat) (d:Nat):rI P wl cx K k n N K' n' (fu+1) z a (.cv s t x d::r) e h=gt e x fun x=>bm (Cb P s t x) h fun v h=>sE e d v fun e=>rI P wl cx K k n N K' n' fu z a r e h:=rfl
theorem aho (t:Nat) (x:Nat) (i:Nat) (d:Nat):rI P wl cx K k n N K' n' (fu+1) z a (.fa t x i d::r) e h=gt e x fun x=>bm (ag P t x i) h fun v h=>sE e d v fun e=>rI P wl cx K k n N K' n' fu z a r e h:=rfl
theorem ajU (t:Nat) (x:Nat) (i:Nat) (d:Nat):rI P wl cx K k n N K' n' (fu+1) z a (.fi t x i d::r) e h=gt e x fun x=>bm (As P t x i) h fun v h=>sE e d v fun e=>rI P wl cx K k n N K' n' fu z a r e h:=rfl
theorem ahF (t:Nat) (x:Nat) (i:Nat) (d:Nat):rI P wl cx K k n N K' n' (fu+1) z a (.ia t x i d::r) e h=gt e x fun x=>gt e i fun i=>bm (au P t x i h) h fun v h=>sE e d v fun e=>rI P wl cx K k n N K' n' fu z a r e h:=rfl
theorem aiT (t:Nat) (x:Nat) (i:Nat) (d:Nat):rI P wl cx K k n N K' n' (fu+1) z a (.ix t x i d::r) e h=gt e x fun x=>gt e i fun i=>bm (C5 P t x i) h fun v h=>sE e d v fun e=>rI P wl cx K k n N K' n' fu z a r e h:=rfl
theorem aiC (t:Nat) (m:Nat) (x:Nat) (ok:Bool) (d:Nat):rI P wl cx K k n N K' n' (fu+1) z a (.lk t m x ok d::r) e h=gt e m fun m=>gt e x fun x=>bm (iT P t m x ok h) h fun v h=>sE e d v fun e=>rI P wl cx K k n N K' n' fu z a r e h:=rfl
theorem ajr (c:Nat) (x:Nat) (y:Nat) (d:Nat):rI P wl cx K k n N K' n' (fu+1) z a (.pk c x y d::r) e h=gt e c fun c=>gt e x fun x=>gt e y fun y=>bm (E7 c x y) h fun v h=>sE e d v fun e=>rI P wl cx K k n N K' n' fu z a r e h:=rfl
theorem ahH (t:Nat) (l:List (Nat×Nat)) (d:Nat):rI P wl cx K k n N K' n' (fu+1) z a (.bu t l d::r) e h=gtp e l fun l=>bm (dv P t l) h fun v h=>sE e d v fun e=>rI P wl cx K k n N K' n' fu z a r e h:=rfl
theorem aiu (x:Nat) (d:Nat):rI P wl cx K k n N K' n' (fu+1) z a (.nk x d::r) e h=gt e x fun x=>bm (Nq x h) h fun v h=>sE e d v fun e=>rI P wl cx K k n N K' n' fu z a r e h:=rfl
theorem aky (b:Bool) (l:List Nat) (d:Nat):rI P wl cx K k n N K' n' (fu+1) z a (.mm b l d::r) e h=gts e l fun l=>bm (iP b l) h fun v h=>sE e d v fun e=>rI P wl cx K k n N K' n' fu z a r e h:=rfl
theorem ana (x:Nat) (d:Nat):rI P wl cx K k n N K' n' (fu+1) z a (.bx x d::r) e h=gt e x fun x=>bp (lu x h) fun v h=>sE e d v fun e=>rI P wl cx K k n N K' n' fu z a r e h:=rfl
theorem amz (t:Nat) (d:Nat):rI P wl cx K k n N K' n' (fu+1) z a (.al t d::r) e h=bp (cH P t h) fun v h=>sE e d v fun e=>rI P wl cx K k n N K' n' fu z a r e h:=rfl
theorem ajh (d:Nat):rI P wl cx K k n N K' n' (fu+1) z a (.nl d::r) e h=bp (some (.own h.length 0 0,h++[.rows 0 [] 0 true])) fun v h=>sE e d v fun e=>rI P wl cx K k n N K' n' fu z a r e h:=rfl
theorem ME (t:Nat) (len:Nat) (l:List (Nat×Nat)) (d:Nat):rI P wl cx K k n N K' n' (fu+1) z a (.bS true t len l d::r) e h=gtp e l fun l=>bp (gA P wl t len l h) fun v h=>sE e d v fun e=>rI P wl cx K k n N K' n' fu z a r e h:=rfl
theorem IL (t:Nat) (len:Nat) (l:List (Nat×Nat)) (d:Nat):rI P wl cx K k n N K' n' (fu+1) z a (.bS false t len l d::r) e h=gtp e l fun l=>bp (aG P wl t len l h) fun v h=>sE e d v fun e=>rI P wl cx K k n N K' n' fu z a r e h:=rfl
theorem aiW (d:Nat):rI P wl cx K k n N K' n' (fu+1) z a (.mk d::r) e h=bp (some (.map h.length,h++[.map []])) fun v h=>sE e d v fun e=>rI P wl cx K k n N K' n' fu z a r e h:=rfl
theorem ajQ (t:Nat) (x:Nat) (y:Nat) (d:Nat):rI P wl cx K k n N K' n' (fu+1) z a (.ms t x y d::r) e h=gt e x fun x=>gt e y fun y=>bp (aV P t x y h) fun v h=>sE e d v fun e=>rI P wl cx K k n N K' n' fu z a r e h:=rfl
theorem ajn (c:Bool) (t:Nat) (x:Nat) (lo:Nat) (hi:Nat) (mx:Nat) (d:Nat):rI P wl cx K k n N K' n' (fu+1) z a (.sl c t x lo hi mx d::r) e h=gt e x fun x=>gto e lo fun lo=>gto e hi fun hi=>gto e mx fun mx=>bp (cg P wl c t x lo hi mx h) fun v h=>sE e d v fun e=>rI P wl cx K k n N K' n' fu z a r e h:=rfl
theorem ali (t:Nat) (x:Nat) (d:Nat):rI P wl cx K k n N K' n' (fu+1) z a (.le t x d::r) e h=gt e x fun x=>bp (oM P t x h) fun v h=>sE e d v fun e=>rI P wl cx K k n N K' n' fu z a r e h:=rfl
theorem aig (t:Nat) (u:Nat) (x:Nat) (y:Nat) (d:Nat):rI P wl cx K k n N K' n' (fu+1) z a (.ap t u x y d::r) e h=gt e x fun x=>gt e y fun y=>bp (wB P wl t u x y h) fun v h=>sE e d v fun e=>rI P wl cx K k n N K' n' fu z a r e h:=rfl
theorem alV (c:Bool) (o:Bool) (f:Nat) (l:List Nat) (d:Nat):rI P wl cx K k n N K' n' (fu+1) z a (.ca c o f l d::r) e h=gt e f fun f=>gts e l fun l=>bp (mT cx c o f l h) fun v h=>sE e d v fun e=>rI P wl cx K k n N K' n' fu z a r e h:=rfl
theorem aks (t:Nat) (x:Nat) (v:Nat):rI P wl cx K k n N K' n' (fu+1) z a (.st t x v::r) e h=gt e x fun x=>gt e v fun v=>bs (oW P wl t x v h) fun h=>rI P wl cx K k n N K' n' fu z a r e h:=rfl
theorem amj (t:Nat) (m:Nat) (x:Nat) (v:Nat):rI P wl cx K k n N K' n' (fu+1) z a (.is t m x v::r) e h=gt e m fun m=>gt e x fun x=>gt e v fun v=>bs (kZ P wl t m x v h) fun h=>rI P wl cx K k n N K' n' fu z a r e h:=rfl
theorem ajA (x:Nat) (d:Nat):rI P wl cx K k n N K' n' (fu+1) z a (.mv x d::r) e h=gt e x fun v=>sE e d v fun e=>rI P wl cx K k n N K' n' fu z a r e h:=rfl
theorem ahh (f:Nat) (x:List Nat) (y:List Nat) (d:Nat):rI P wl cx K k n N K' n' (fu+1) z a (.fn f x y d::r) e h=gts e x fun x=>gts e y fun y=>sE e d (.fn (.func f) x y) fun e=>rI P wl cx K k n N K' n' fu z a r e h:=rfl
theorem akS  : rI P wl cx K k n N K' n' (fu+1) z a (.no::r) e h=none:=rfl
theorem aid  : rI P wl cx K k n N K' n' (fu+1) z a (.rg::r) e h=rI P wl cx K k n N K' n' fu h.length ([],[]) r e h:=rfl
theorem alh (x:Nat):rI P wl cx K k n N K' n' (fu+1) z a (.so x::r) e h=gt e x fun x=>stO z x (rI P wl cx K k n N K' n' fu z a r e h):=rfl
theorem ahM (x:Nat):rI P wl cx K k n N K' n' (fu+1) z a (.lr x::r) e h=gt e x fun x=>rI P wl cx K k n N K' n' fu z (lgR x a) r e h:=rfl
theorem alO (x:Nat):rI P wl cx K k n N K' n' (fu+1) z a (.lw x::r) e h=gt e x fun x=>rI P wl cx K k n N K' n' fu z (lgW x a) r e h:=rfl
theorem ajv  : rI P wl cx K k n N K' n' (fu+1) z a (.pt::r) e h=apt a (rI P wl cx K k n N K' n' fu z a r e h):=rfl
theorem alq (x:Nat) (p:List I) (q:List I):rI P wl cx K k n N K' n' (fu+1) z a (.cn x p q::r) e h=gt e x fun x=>cnd x (rI P wl cx K k n N K' n' fu z a p e h) (rI P wl cx K k n N K' n' fu z a q e h):=rfl
theorem ahS (x:Nat) (p:List I) (q:List I) (c:List I):rI P wl cx K k n N K' n' (fu+1) z a (.gd x p q c::r) e h=gt e x fun x=>Go.Ab.gd x (rI P wl cx K k n N K' n' fu z a p e h) (rI P wl cx K k n N K' n' fu z a q e h) (rI P wl cx K k n N K' n' fu z a c e h):=rfl
theorem ahC (x:Nat):rI P wl cx K k n N K' n' (fu+1) z a (.rv x::r) e h=gt e x fun v=>some (v,h):=rfl
theorem akl (l:List Nat):rI P wl cx K k n N K' n' (fu+1) z a (.rt l::r) e h=gts e l fun l=>some (.tup l,h):=rfl
theorem ahw (l:List (Option Nat×Nat)):rI P wl cx K k n N K' n' (fu+1) z a (.ro l::r) e h=roL P e h l fun l=>afB l h:=rfl
theorem al1 (c:Code) (j:Nat) (f:List Fr):rI P wl cx K k n N K' n' (fu+1) z a (.sg c j f::r) e h=dR n e fun l=>oL cx c j z a (br cx K f) ⟨l,h⟩:=rfl
theorem aj2 (c:Code) (j:Nat):rI P wl cx K k n N K' n' (fu+1) z a (.sh c j::r) e h=dR n e fun l=>oL cx c j z a K ⟨l,h⟩:=rfl
theorem ald (c:Code) (m:List Nat) (f:List Fr):rI P wl cx K k n N K' n' (fu+1) z a (.lo c m f::r) e h=dR n e fun l=>kM false h.length m l fun l=>itX cx c h.length (br cx K f) k ⟨l,oc h.length h⟩:=rfl
theorem alf (c:Code) (m:List Nat):rI P wl cx K k n N K' n' (fu+1) z a (.ln c m::r) e h=dR n e fun l=>kM false h.length m l fun l=>itX cx c h.length K k ⟨l,oc h.length h⟩:=rfl
theorem ak9 (c:Code) (m:List Nat):rI P wl cx K k n N K' n' (fu+1) z a (.nx c m::r) e h=dR n e fun l=>kM false N m l fun l=>itX cx c N K' n' ⟨l,oc N h⟩:=rfl
theorem ajM (o:Out) (m:List Nat):rI P wl cx K k n N K' n' (fu+1) z a (.kt o m::r) e h=dR n e fun l=>kM false N m l fun l=>K' o ⟨l,oc N h⟩:=rfl
theorem alP (o:Out):rI P wl cx K k n N K' n' (fu+1) z a (.kf o::r) e h=dR n e fun l=>K' o ⟨l,h⟩:=rfl
theorem ai7 (f:List Fr):rI P wl cx K k n N K' n' (fu+1) z a (.jn f::r) e h=dR n e fun l=>br cx K f .norm ⟨l,h⟩:=rfl
theorem aj1 (c:Code) (f:List Fr):rI P wl cx K k n N K' n' (fu+1) z a (.rf c f::r) e h=dR n e fun l=>aY cx c none (br cx K f) ⟨l,h⟩:=rfl
theorem ajT (c:Code):rI P wl cx K k n N K' n' (fu+1) z a (.rn c::r) e h=dR n e fun l=>aY cx c none K ⟨l,h⟩:=rfl
end
section
variable {v w:V} {l m:List V} {i j n:Nat} {F:V→Res} {G:List V→Res} {J:List (Nat×V)→Res} {O:Option V→Res} {Q:List (Option V)→Res} {q:List Nat} {P:Program} {h:Hp} {t:Nat}
theorem aoV:gt (v::l) 0 F=F v:=rfl
theorem aoB:gt (v::l) (i+1) F=gt l i F:=rfl
theorem akX:gts l [] G=G []:=rfl
theorem aiz:gts l (i::q) G=gt l i fun v=>gts l q fun l=>G (v::l):=rfl
theorem ah6:gtp l [] J=J []:=rfl
theorem amA {p:List (Nat×Nat)}:gtp l ((j,i)::p) J=gt l i fun v=>gtp l p fun l=>J ((j,v)::l):=rfl
theorem ai0:gto l 0 O=O none:=rfl
theorem anb:gto l (i+1) O=gt l (i+1) fun v=>O (some v):=rfl
theorem apa:s1 (v::l) 0 w G=G (w::l):=rfl
theorem ao5:s1 (v::l) (i+1) w G=s1 l i w fun m=>G (v::m):=rfl
theorem ao0:sE l 0 w G=G l:=rfl
theorem aoO:sE l (i+1) w G=s1 l (i+1) w G:=rfl
theorem apg:dR 0 l G=G l:=rfl
theorem aox:dR (i+1) (v::l) G=dR i l G:=rfl
theorem apf {b:Bool}:kM b n [] [] G=G []:=rfl
theorem aoP {b:Bool}:kM b n (i::q) [] G=G []:=rfl
theorem apu:kM false n [] (v::l) G=kM false n [] l fun r=>G (V.kill n v::r):=rfl
theorem apx:kM true n [] (v::l) G=kM true n [] l fun r=>G (.junk::r):=rfl
theorem an3:kM false n ((i+1)::q) (v::l) G=kM false n (i::q) l fun r=>G (V.kill n v::r):=rfl
theorem ao1:kM true n ((i+1)::q) (v::l) G=kM true n (i::q) l fun r=>G (.junk::r):=rfl
theorem aoK:kM false n (0::(i+1)::q) (v::l) G=kM true n (i::q) l fun r=>G (.junk::r):=rfl
theorem aoY:kM true n (0::(i+1)::q) (v::l) G=kM false n (i::q) l fun r=>G (V.kill n v::r):=rfl
theorem ao9:kM false n [0] (v::l) G=kM true n [] l fun r=>G (.junk::r):=rfl
theorem an5:kM true n [0] (v::l) G=kM false n [] l fun r=>G (V.kill n v::r):=rfl
theorem aiw:aps [] l G=G l:=rfl
theorem aih {c:List Cn}:aps (.u::c) l G=aps c l fun x=>G (uu::x):=rfl
theorem aht {c:List Cn} {y:Bool}:aps (.b y::c) l G=aps c l fun x=>G (.lit (.bool y)::x):=rfl
theorem ai1 {c:List Cn} {y:Int}:aps (.i y::c) l G=aps c l fun x=>G (.lit (.int .i64 y)::x):=rfl
theorem alU {c:List Cn}:aps (.f i::c) l G=aps c l fun x=>G (.fn (.func i) [] []::x):=rfl
theorem aiH {c:List Cn}:aps (.v v::c) l G=aps c l fun x=>G (v::x):=rfl
theorem ag3:rep 0 G=G []:=rfl
theorem als:rep (n+1) G=rep n fun l=>G (uu::l):=rfl
theorem ah7:ini [] n G=rep n G:=rfl
theorem ahg:ini (v::l) n G=ini l n fun x=>G (v::x):=rfl
theorem agQ:roL P l h [] Q=Q []:=rfl
theorem ajt {p:List (Option Nat×Nat)}:roL P l h ((none,i)::p) Q=gt l i fun v=>roL P l h p fun l=>Q (some v::l):=rfl
theorem amX {p:List (Option Nat×Nat)}:roL P l h ((some t,i)::p) Q=gt l i fun v=>roL P l h p fun l=>Q (nG P t v h::l):=rfl
end
def anY:=PLift.up (aI (aI (aI (aI (aI (aI @akW @ahZ) (aI @al3 (aI @akZ @agM))) (aI (aI @aho @ajU) (aI @ahF (aI @aiT @aiC)))) (aI (aI (aI @ajr @ahH) (aI @aiu (aI @aky @ana))) (aI (aI @amz (aI @ajh @ME)) (aI @IL (aI @aiW @ajQ))))) (aI (aI (aI (aI @ajn @ali) (aI @aig (aI @alV @aks))) (aI (aI @amj (aI @ajA @ahh)) (aI @akS (aI @aid @alh)))) (aI (aI (aI @ahM @alO) (aI @ajv (aI @alq @ahS))) (aI (aI @ahC (aI @akl @ahw)) (aI @al1 (aI @aj2 @ald)))))) (aI (aI (aI (aI (aI @alf @ak9) (aI @ajM (aI @alP @ai7))) (aI (aI @aj1 (aI @ajT @aoV)) (aI @aoB (aI @akX @aiz)))) (aI (aI (aI @ah6 @amA) (aI @ai0 (aI @anb @apa))) (aI (aI @ao5 (aI @ao0 @aoO)) (aI @apg (aI @aox @apf))))) (aI (aI (aI (aI @aoP @apu) (aI @apx (aI @an3 @ao1))) (aI (aI @aoK (aI @aoY @ao9)) (aI @an5 (aI @aiw @aih)))) (aI (aI (aI @aht @ai1) (aI @alU (aI @aiH @ag3))) (aI (aI @als (aI @ah7 @ahg)) (aI @agQ (aI @ajt @amX)))))))
theorem syI:type_of% anY.down:=anY.down
end Go.Ab
set_option linter.unusedVariables false
set_option linter.unusedSimpArgs false
namespace Go.Ab
theorem wO {cs:List V} {i g l:Nat} {H:Hp}:lU (some fun i=>i==1) (.tup [.agg cs,.own i g l]) H=bq (fzL 0 true cs H) fun p=>bq (rq p.1 p.2 []) fun q=>bq (rY (.own i g l) q.2.1 q.2.2) fun r=>some (.tup [.agg q.1,r.1],r.2.2):=by
 unfold bq
 show ((((fzL 0 true cs H).bind fun p=>some (V.agg p.1,p.2)).bind fun p=>some ([p.1,V.own i g l],p.2)).bind fun p=>(oV p.1 p.2 []).bind fun q=>some (V.tup q.1,q.2.2))=_
 cases fzL 0 true cs H with
 | none=>rfl
 | some p=>
  show ((oV [V.agg p.1,V.own i g l] p.2 []).bind fun q=>some (V.tup q.1,q.2.2))=_
  simp only [oV,F8]
  dsimp only [Option.bind_some]
  cases rq p.1 p.2 [] with
  | none=>rfl
  | some q=>
   dsimp only [Option.bind_some]
   cases rY (.own i g l) q.2.1 q.2.2 <;> rfl
theorem wN {cs:List V} {H:Hp}:lU (some fun i=>i==1) (.tup [.agg cs,.nil]) H=bq (fzL 0 true cs H) fun p=>bq (rq p.1 p.2 []) fun q=>some (.tup [.agg q.1,.ro []],q.2.2):=by
 unfold bq
 show ((((fzL 0 true cs H).bind fun p=>some (V.agg p.1,p.2)).bind fun p=>some ([p.1,V.nil],p.2)).bind fun p=>(oV p.1 p.2 []).bind fun q=>some (V.tup q.1,q.2.2))=_
 cases fzL 0 true cs H with
 | none=>rfl
 | some p=>
  show ((oV [V.agg p.1,V.nil] p.2 []).bind fun q=>some (V.tup q.1,q.2.2))=_
  simp only [oV,F8]
  dsimp only [Option.bind_some]
  cases rq p.1 p.2 [] <;> rfl
theorem rW {id g len e:Nat} {H acc:Hp} {l:Tye}:hmB id g len H acc (some (.rows e (l.map aB) g true))=ck (decide (len≤l.length)) (some (.own acc.length 0 len,H.set id .dead,acc++[.rows e ((l.take len).map aB) 0 true])):=wM fun _=>rfl
end Go.Ab
