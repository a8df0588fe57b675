import Derived.Test.YtblpbpnilkfjhaaGreatAbLibB
import Derived.Shelf.Slices.Delete
set_option linter.unusedVariables false
set_option linter.unusedSimpArgs false
namespace Go.Ab
def al:Code→List Nat→Code
 | c,[]=>c
 | .seq a b,i::p=>if i=0 then al a p else al b p
 | .cond _ a b,i::p=>if i=0 then al a p else al b p
 | .block _ a,_::p=>al a p
 | .loop a,_::p=>al a p
 | .scope a,_::p=>al a p
 | .rangeFunc _ _ a b,i::p=>if i=0 then al a p else al b p
 | c,_=>c
def am (fn:Func):Code:=fn.body.getD .skip
structure Sys where
 P:Program
 orc:FuncId→Option (List V→Hp→Option (V×Hp))
 keepRes:FuncId→FuncId→Option (Nat→Bool)
 keepArg:FuncId→Bool
 call:Nat→FuncId→List V→Hp→Option (V×Hp)
 yld:Nat→Nat→List V→Hp→Option (V×Hp)
inductive Fr where
 | seq (c:Code)
 | block (id:Nat)
 | scope (a:Code)
 | scope2 (a:Code)
def uu:V := .lit undef
abbrev Res:=Option (V×Hp)
def au (cx:Cx) (K:Out→St→Res):List Fr→Out→St→Res
 | [],o,s=>K o s
 | .seq c::fs,o,s=>match o with
  | .norm=>a7 cx c none (au cx K fs) s
  | o=>au cx K fs o s
 | .block id::fs,o,s=>match o with
  | .exit id'=>if id'=id then au cx K fs .norm s else au cx K fs (.exit id') s
  | o=>au cx K fs o s
 | .scope a::fs,o,s=>match o with
  | .goto l => if bx l a then a7 cx a (some l) (fun o' s'' => match o' with | .goto l' => if bx l' a then none else au cx K fs (.goto l') s'' | o' => au cx K fs o' s'') s else au cx K fs (.goto l) s
  | o=>au cx K fs o s
 | .scope2 a::fs,o,s=>match o with
  | .goto l=>if bx l a then none else au cx K fs (.goto l) s
  | o=>au cx K fs o s
def itX (cx:Cx) (c:Code) (n0:Nat) (K:Out→St→Res) (n:Nat) (s:St):Res:=
 JY (a7 cx c none) n0 (cx.M.named cx.fid) (io c ([],[])) K n s
def bK (cx:Cx) (c:Code) (n0:Nat) (K:Out→St→Res) (n:Nat):Out→St→Res:=fun o s'=>match o with
 | .norm=>itX cx c n0 K n (tidy n0 (G2 (cx.M.named cx.fid) (io c ([],[])) false) s')
 | .ret=>K .ret s'
 | o=>K o (tidy n0 (G2 (cx.M.named cx.fid) (io c ([],[])) true) s')
def D5:Code→Array Oper
 | .region _ ops _=>ops
 | _ => #[]
def ib:Code→Rg
 | .region _ ops draw=>if draw then kT ops else Rg.none
 | _=>Rg.none
def li:Code→List (Oper×Nat)
 | .region _ ops draw=>if draw then aA ops else ops.toList.zipIdx
 | _=>[]
def ng (ops:Array Oper):List Nat:=(aA ops).map (·.2)
def dM (cx:Cx) (c:Code) (j n0:Nat) (a:List Nat×List Nat) (K:Out→St→Res) (s:St):Res:=
 AN cx n0 (ib c) (D5 c) ((li c).drop j) a (K .norm) s
def aC (P:Program) (fn:Func):Out→St→Res:=fun o s=>match o with
 | .norm=>(fm P fn.results.toList s).map fun v=>(v,s.H)
 | .ret=>(fm P fn.results.toList s).map fun v=>(v,s.H)
 | _=>none
def bm (x:Option V) (H:Hp) (k:V→Hp→Res):Res:=(x.map fun v=>(v,H)).bind fun p=>k p.1 p.2
def bp (x:Option (V×Hp)) (k:V→Hp→Res):Res:=x.bind fun p=>k p.1 p.2
def bs (x:Option Hp) (k:Hp→Res):Res:=(x.map fun H'=>(V.lit undef,H')).bind fun p=>k p.2
def cnd (c:V) (a b:Res):Res:=match c with
 | .lit (.bool t)=>bif t then a else b
 | _=>none
def gd (c:V) (a b u:Res):Res:=match c with
 | .lit (.bool t)=>bif t then a else b
 | .lit (.tuple _)=>u
 | _=>none
def aw (P:Program) (t:TypeId) (H:Hp):Option (V×Hp):=
 (eG P t).bind fun z=>if ba (bE z) then let p:=bv (bE z) H;some (.ptr p.2.length 0 0 0,p.2++[.box p.1]) else none
def aO (v:V) (H:Hp):Option (V×Hp):=v.cells.bind fun vs=>let p:=bv vs H;some (.ptr p.2.length 0 0 0,p.2++[.box p.1])
def cU (P:Program) (wl:Nat) (t:TypeId) (len:Nat) (l:List (Nat×V)) (H:Hp):Option (V×Hp):=
 if true && !bg (l.map (·.2)) then none else az P wl t len l H
def bh (P:Program) (t:TypeId) (x:V) (H:Hp):Option (V×Hp):=if (iK P t).isSome then (rk x H).map fun v=>(v,H) else none
def lF (P:Program) (wl:Nat) (t u:TypeId) (s x:V) (H:Hp):Option (V×Hp):=if (iK P u).isSome then bn P wl t s x H else none
def apt (a:List Nat×List Nat) (k:Res):Res:=if rQ a then k else none
def lgR (v:V) (a:List Nat×List Nat):List Nat×List Nat:=match HX v with | some k=>(k::a.1,a.2) | none=>a
def lgW (v:V) (a:List Nat×List Nat):List Nat×List Nat:=match HX v with | some k=>(a.1,k::a.2) | none=>a
def stB (n0:Nat) (v:V):Bool:=match HX v with | some i=>i<n0 | none=>true
def stO (n0:Nat) (v:V) (k:Res):Res:=if stB n0 v then k else none
def afn:List (Option V)→Option (List V)
 | []=>some []
 | x::xs=>x.bind fun v=>(afn xs).bind fun vs=>some (v::vs)
def dW (l:List (Option V)) (H:Hp):Res:=((afn l).bind fun vs=>match vs with | [v]=>some v | vs=>some (.tup vs)).map fun v=>(v,H)
section steps
variable {cx:Cx} {K:Out→St→Res} {fs:List Fr} {s:St} {r:Res}
theorem I1 {fn:Func} {args:List V} {H:Hp} {c:Code} (hb:fn.body=some c) (h:au cx (aC cx.P fn) [.seq c] .norm ⟨args++List.replicate (fn.ntmps - args.length) uu,H⟩=r):aj cx fn args H=r:=by
 rw [← h]
 unfold aj
 rw [hb]
 have:(fun o s=>match o with
   | .norm=>(fm cx.P fn.results.toList s).map fun v=>(v,s.H)
   | .ret=>(fm cx.P fn.results.toList s).map fun v=>(v,s.H)
   | _=>none:Out→St→Res)=au cx (aC cx.P fn) []:=by
  funext o s
  cases o <;> rfl
 show a7 cx c none _ _=a7 cx c none (au cx (aC cx.P fn) []) _
 rw [← this]
 rfl
theorem go_seq {a b:Code} (h:au cx K (.seq a :: .seq b::fs) .norm s=r):au cx K (.seq (.seq a b)::fs) .norm s=r:=by
 rw [← h]
 show a7 cx a none _ s=a7 cx a none (au cx K (.seq b::fs)) s
 congr 1
theorem go_block {id:Nat} {a:Code} (h:au cx K (.seq a :: .block id::fs) .norm s=r):au cx K (.seq (.block id a)::fs) .norm s=r:=by
 rw [← h]
 show a7 cx a none _ s=a7 cx a none (au cx K (.block id::fs)) s
 congr 1
theorem go_scope {a:Code} (h:au cx K (.seq a :: .scope a::fs) .norm s=r):au cx K (.seq (.scope a)::fs) .norm s=r:=by
 rw [← h]
 show a7 cx a none _ s=a7 cx a none (au cx K (.scope a::fs)) s
 congr 1
theorem go_ret (h:au cx K fs .ret s=r):au cx K (.seq .ret::fs) .norm s=r:=h
theorem CX {a:Code} {l:Nat} (hl:bx l a=false) (h:au cx K fs (.goto l) s=r):au cx K (.scope a::fs) (.goto l) s=r:=by
 rw [← h]
 simp only [au]
 rw [hl]
 rfl
theorem AU {a:Code} {l:Nat} (hl:bx l a=false) (h:au cx K fs (.goto l) s=r):au cx K (.scope2 a::fs) (.goto l) s=r:=by
 rw [← h]
 simp only [au]
 rw [hl]
 rfl
def uO (cx:Cx) (K:Out→St→Res) (c:Code) (l:Nat) (fs:List Fr) (s:St):Res:=a7 cx c (some l) (au cx K fs) s
theorem Ec {a:Code} {l:Nat} (hl:bx l a=true) (h:uO cx K a l (.scope2 a::fs) s=r):au cx K (.scope a::fs) (.goto l) s=r:=by
 rw [← h]
 simp only [au]
 rw [hl]
 simp only [if_true,uO]
 congr 1
theorem RY {a b:Code} {l:Nat} (hl:bx l a=true) (h:uO cx K a l (.seq b::fs) s=r):uO cx K (.seq a b) l fs s=r:=by
 rw [← h]
 simp only [uO,a7,hl,if_true]
 congr 1
theorem LT {a b:Code} {l:Nat} (hl:bx l a=false) (h:uO cx K b l fs s=r):uO cx K (.seq a b) l fs s=r:=by
 rw [← h]
 simp [uO,a7,hl]
theorem go_cond {c:Operand} {a b:Code} {v:V} {A B:Res} (hc:evO s.env c=some v) (hA:au cx K (.seq a::fs) .norm s=A) (hB:au cx K (.seq b::fs) .norm s=B) :
  au cx K (.seq (.cond c a b)::fs) .norm s=cnd v A B:=by
 rw [← hA,← hB]
 show a7 cx (.cond c a b) none (au cx K fs) s=_
 simp only [a7,hc]
 cases v with
 | lit x=>cases x <;> rfl
 | _=>rfl
theorem go_reg0 {id:Nat} {ops:Array Oper} (h:dM cx (.region id ops false) 0 s.H.length ([],[]) (au cx K fs) s=r):au cx K (.seq (.region id ops false)::fs) .norm s=r:=by
 rw [← h]
 show a7 cx (.region id ops false) none (au cx K fs) s=_
 simp [a7,dM,ib,D5,li]
theorem go_reg1 {id:Nat} {ops:Array Oper} (hok:xl ops=true) (h:dM cx (.region id ops true) 0 s.H.length ([],[]) (au cx K fs) s=r):au cx K (.seq (.region id ops true)::fs) .norm s=r:=by
 rw [← h]
 show a7 cx (.region id ops true) none (au cx K fs) s=_
 simp [a7,dM,ib,D5,li,hok]
section ops
variable {id j n0:Nat} {ops:Array Oper} {a:List Nat×List Nat} {env:List V} {H:Hp} {o:Oper} {i:Nat} {L:List Nat}
theorem adE (hL:ng ops=L) (hj:L[j]? = some i) (ho:ops.toList[i]? = some o):(aA ops).drop j=(o,i)::(aA ops).drop (j+1):=by
 subst hL
 simp only [ng,List.getElem?_map,Option.map_eq_some_iff] at hj
 obtain ⟨p,hp,rfl⟩:=hj
 have hm:p ∈ aA ops:=List.mem_of_getElem? hp
 have hz:p ∈ ops.toList.zipIdx:=by
  simp only [aA,List.mem_append,List.mem_filter] at hm
  rcases hm with h | h <;> exact h.1
 have hx:ops.toList[p.2]? = some p.1:=by
  obtain ⟨x,k⟩:=p
  simpa [List.mem_zipIdx_iff_getElem?] using hz
 rw [hx] at ho
 cases ho
 rw [List.getElem?_eq_some_iff] at hp
 obtain ⟨hj,he⟩:=hp
 rw [List.drop_eq_getElem_cons hj,he]
def sx (n0:Nat) (st:Bool) (op:Op) (env:List V) (x:Res):Res:=if dA n0 st op env then x else none
theorem OR {st:Bool} {op:Op} {x:Res} (hst:st=false) (h:x=r):sx n0 st op env x=r:=by
 subst hst
 simpa [sx,dA] using h
theorem go_op1 (hL:ng ops=L) (ha:(kT ops).any=false) (hj:L[j]? = some i) (ho:ops.toList[i]? = some o) (hg:o.guard=none)
  (h:sx n0 ((kT ops).strict i) o.op env ((opV cx ((kT ops).calm i) ((kT ops).ord i) o.op env H).bind (fun p=>dM cx (.region id ops true) (j+1) n0 a K ⟨kS env o.dst p.1,p.2⟩))=r):dM cx (.region id ops true) j n0 a K ⟨env,H⟩=r:=by
 rw [← h]
 simp only [dM,ib,D5,li,if_true,adE hL hj ho]
 simp only [AN,hg]
 simp [FI,ha,sx]
variable {gj d:Nat} {v:V} {A B C:Res}
end ops
theorem abg {X:Option (V×Hp)} {F:V×Hp→Res} {x:Option V} {H:Hp} {k:V→Hp→Res} (h1:X=x.map fun v=>(v,H)) (h2:∀ v h,F (v,h)=k v h):X.bind F=bm x H k:=by
 subst h1
 cases x with
 | none=>rfl
 | some v=>exact h2 v H
theorem abo {X x:Option (V×Hp)} {F:V×Hp→Res} {k:V→Hp→Res} (h1:X=x) (h2:∀ v h,F (v,h)=k v h):X.bind F=bp x k:=by
 subst h1
 cases X with
 | none=>rfl
 | some p=>exact h2 p.1 p.2
theorem aei {X:Option (V×Hp)} {F:V×Hp→Res} {x:Option Hp} {k:Hp→Res} (h1:X=x.map fun H'=>(uu,H')) (h2:∀ h,F (uu,h)=k h):X.bind F=bs x k:=by
 subst h1
 cases x with
 | none=>rfl
 | some h=>exact h2 h
theorem adp {X:Option (V×Hp)} {F:V×Hp→Res} {v:V} {H:Hp} (h1:X=some (v,H)) (h2:F (v,H)=r):X.bind F=r:=by
 subst h1
 exact h2
theorem NR {c:Code} {n0 n:Nat} (h:au cx (bK cx c n0 K n) [.seq c] .norm s=r):itX cx c n0 K (n+1) s=r:=by
 rw [← h]
 show a7 cx c none _ s=a7 cx c none (au cx (bK cx c n0 K n) []) s
 congr 1
end steps
end Go.Ab
namespace Go.Ab
section combinators
variable {H:Hp} {K:V→Hp→Res} {k:Hp→Res} {A B C:Res}
@[congr] theorem aaT {x y:Option V} (h:x=y):bm x H K=bm y H K:=by rw [h]
@[congr] theorem aaG {x y:Option (V×Hp)} (h:x=y):bp x K=bp y K:=by rw [h]
@[congr] theorem aa7 {x y:Option Hp} (h:x=y):bs x k=bs y k:=by rw [h]
@[congr] theorem XE {x y:V} (h:x=y):cnd x A B=cnd y A B:=by rw [h]
@[congr] theorem aa3 {x y:V} (h:x=y):gd x A B C=gd y A B C:=by rw [h]
def ob {α β:Type} (x:Option α) (k:α→Option β):Option β:=x.bind k
def ck {β:Type} (c:Bool) (k:Option β):Option β:=bif c then k else none
theorem Rm {v:V}:bm (some v) H K=K v H:=rfl
theorem T7:bm none H K=none:=rfl
theorem Ug {v:V} {h:Hp}:bp (some (v,h)) K=K v h:=rfl
theorem SO:bp none K=none:=rfl
theorem Tw {h:Hp}:bs (some h) k=k h:=rfl
theorem Tq:bs none k=none:=rfl
theorem Xp {α:Type} {x:Option α} {f:α→V}:bm (x.map f) H K=ob x fun a=>K (f a) H:=by cases x <;> rfl
theorem Si {α:Type} {x:Option α} {f:α→Option V}:bm (x.bind f) H K=ob x fun a=>bm (f a) H K:=by cases x <;> rfl
theorem X0 {α:Type} {x:Option α} {f:α→V×Hp}:bp (x.map f) K=ob x fun a=>K (f a).1 (f a).2:=by cases x <;> rfl
theorem R8 {α:Type} {x:Option α} {f:α→Option (V×Hp)}:bp (x.bind f) K=ob x fun a=>bp (f a) K:=by cases x <;> rfl
theorem Z9 {α:Type} {x:Option α} {f:α→Hp}:bs (x.map f) k=ob x fun a=>k (f a):=by cases x <;> rfl
theorem Ui {α:Type} {x:Option α} {f:α→Option Hp}:bs (x.bind f) k=ob x fun a=>bs (f a) k:=by cases x <;> rfl
theorem Wc {c:Bool} {x:Option V}:bm (bif c then x else none) H K=ck c (bm x H K):=by cases c <;> rfl
theorem ZL {c:Bool} {x:Option (V×Hp)}:bp (bif c then x else none) K=ck c (bp x K):=by cases c <;> rfl
theorem WQ {c:Bool} {x:Option Hp}:bs (bif c then x else none) k=ck c (bs x k):=by cases c <;> rfl
theorem adq {t:Bool}:cnd (.lit (.bool t)) A B=bif t then A else B:=rfl
theorem af6 {t:Bool}:gd (.lit (.bool t)) A B C=bif t then A else B:=rfl
theorem afS:gd uu A B C=C:=rfl
theorem cg {β:Type} {A:Option β}:ck true A=A:=rfl
theorem pE {β:Type} {A:Option β}:ck false A=none:=rfl
theorem ae {α β:Type} {a:α} {f:α→Option β}:ob (some a) f=f a:=rfl
theorem Ri {α β:Type} {f:α→Option β}:ob none f=none:=rfl
end combinators
def idx {α:Type} (l:List α) (i:Int):Option α:=if 0≤i then l[i.toNat]? else none
theorem TO {α:Type} (l:List α) (i:Nat):idx l (i:Int)=l[i]? := by simp [idx]
section ops
variable {P:Program} {t:TypeId} {k k':IntKind} {a b:Int} {x y:V}
theorem M6:av P .add t (.lit (.int k a)) (.lit (.int k b))=some (.lit (.int k (k.wrap (a+b)))):=by simp [av,dR]
theorem MK:av P .sub t (.lit (.int k a)) (.lit (.int k b))=some (.lit (.int k (k.wrap (a - b)))):=by simp [av,dR]
theorem NP:av P .mul t (.lit (.int k a)) (.lit (.int k b))=some (.lit (.int k (k.wrap (a*b)))):=by simp [av,dR]
theorem Mz:av P .eql t (.lit (.int k a)) (.lit (.int k b))=some (.lit (.bool (a==b))):=by simp [av,dR]
theorem Ma : av P .neq t (.lit (.int k a)) (.lit (.int k b)) = some (.lit (.bool (a != b))) := by simp [av, dR]
theorem N7:av P .lss t (.lit (.int k a)) (.lit (.int k b))=some (.lit (.bool (decide (a<b)))):=by simp [av,dR]
theorem Pv:av P .leq t (.lit (.int k a)) (.lit (.int k b))=some (.lit (.bool (decide (a≤b)))):=by simp [av,dR]
theorem Ow:av P .gtr t (.lit (.int k a)) (.lit (.int k b))=some (.lit (.bool (decide (b<a)))):=by simp [av,dR]
theorem Px:av P .geq t (.lit (.int k a)) (.lit (.int k b))=some (.lit (.bool (decide (b≤a)))):=by simp [av,dR]
theorem OY : av P .quo t (.lit (.int k a)) (.lit (.int k b)) = bif b != 0 then some (.lit (.int k (k.wrap (a.tdiv b)))) else none := by
  by_cases h : b = 0
  · simp [av, dR, h]
  · simp [av, dR, h, (bne_iff_ne).2 h]
theorem MZ : av P .rem t (.lit (.int k a)) (.lit (.int k b)) = bif b != 0 then some (.lit (.int k (a.tmod b))) else none := by
  by_cases h : b = 0
  · simp [av, dR, h]
  · simp [av, dR, h, (bne_iff_ne).2 h]
theorem La {p q:Bool} (h:mI P t=true):av P .eql t (.lit (.bool p)) (.lit (.bool q))=some (.lit (.bool (p==q))):=by simp [av,h]
theorem K8 {p q:Bool} (h:mI P t=true):av P .neq t (.lit (.bool p)) (.lit (.bool q))=some (.lit (.bool (!(p==q)))):=by simp [av,h]
theorem RI {p:Bool}:vUn .not (.lit (.bool p))=some (.lit (.bool !p)):=rfl
theorem Sc:vUn .neg (.lit (.int k a))=some (.lit (.int k (k.wrap (0 - a)))):=rfl
theorem Th {p:Bool}:aQ (.lit (.bool p)) x y=some (bif p then x else y):=rfl
theorem Hi {l:List V}:ar (.tup (x::l)) 0=some x:=rfl
theorem HG {l:List V}:ar (.tup (x::y::l)) 1=some y:=rfl
theorem HC {z:V} {l:List V}:ar (.tup (x::y::z::l)) 2=some z:=rfl
end ops
def aI (k:IntKind) (n:Int):List V:=[.lit (.int k n)]
def lX (b:Bool):List V:=[.lit (.bool b)]
section mem
variable {P:Program} {t:TypeId} {H:Hp} {wl:Nat}
theorem NF {cs:List V}:ab P t (.rp cs) H=aT P t cs:=rfl
def ldB (P:Program) (t:TypeId) (g row off:Nat):Option B→Option V
 | some (.box cs)=>bif g==0&&row==0 then aT P t (cs.drop off) else none
 | some (.rows _ rs g' _)=>bif g==g' then (rs[row]?).bind fun r=>aT P t (r.drop off) else none
 | _=>none
theorem JO {id g row off:Nat}:ab P t (.ptr id g row off) H=ldB P t g row off (H[id]?):=by
 unfold ab ldB
 dsimp only
 generalize H[id]? = b0
 cases b0 with
 | none=>rfl
 | some b=>cases b <;> simp [Bool.cond_eq_ite]
theorem RO {off:Nat} {cs:List V}:ldB P t 0 0 off (some (.box cs))=aT P t (cs.drop off):=rfl
theorem PA {α:Type} {l:List α} {enc:α→List V} {g row off e:Nat} {lv:Bool} :
  ldB P t g row off (some (.rows e (l.map enc) g lv))=(l[row]?).bind fun x=>aT P t ((enc x).drop off):=by
 simp [ldB]
 cases l[row]? <;> rfl
def Zz (P : Program) (wl : Nat) (t : TypeId) (id g row off : Nat) (vs : List V) (H : Hp) : Option B → Option Hp
  | some (.box cs) =>
    bif g == 0 && row == 0 && aR P t != 0 && vs.length == aR P t && decide (off + vs.length ≤ cs.length) then
      some ((bv vs H).2.set id (.box (spl cs off (bv vs H).1)))
    else none
  | some (.rows _ _ _ _) => (fzL wl true vs H).bind fun p =>
    match p.2[id]? with
    | some (.rows e rs g' true) =>
      bif g == g' && aR P t != 0 && vs.length == aR P t then
        (rs[row]?).bind fun r => bif decide (off + p.1.length ≤ r.length) then some (p.2.set id (.rows e (rs.set row (spl r off p.1)) g' true)) else none
      else none
    | _ => none
  | _ => none
theorem HL {id g row off : Nat} {v : V} : ai P wl t (.ptr id g row off) v H = (v.cells).bind fun vs => bif Nat.ble wl id then Zz P wl t id g row off vs H (H[id]?) else none := by
  unfold ai
  cases hv : v.cells with
  | none => simp
  | some vs =>
    simp only [Option.bind_some]
    cases hw : Nat.ble wl id with
    | false => simp
    | true =>
      simp only [if_true, cond_true]
      unfold Zz
      generalize H[id]? = b0
      cases b0 with
      | none => rfl
      | some b =>
        cases b with
        | box cs => simp only [Bool.cond_eq_ite, Bool.and_eq_true, beq_iff_eq, bne_iff_ne, decide_eq_true_eq, and_assoc]
        | rows e rs g' lv =>
          simp only
          congr 1
          funext p
          generalize p.2[id]? = b1
          cases b1 with
          | none => rfl
          | some b => 
            cases b with
            | rows e rs g' lv => cases lv <;> simp [Bool.cond_eq_ite, and_assoc]
            | _ => rfl
        | _ => rfl
theorem bY {α : Type} {l : List α} {enc : α → List V} {e : TypeId} {k : IntKind} {n : Int} (hu : P.underlying t = some (.slice e)) (hs : ∀ x, (enc x).length = aR P e) (hz : (aR P e != 0) = true) :
    ak P t (.ro (l.map enc)) (.lit (.int k n)) H = (idx l n).map fun x => .rp (enc x) := by
  have hz' : aR P e ≠ 0 := by simpa using hz
  unfold ak idx
  simp only [hu]
  split
  · cases hl : l[n.toNat]? with
    | none => simp [hl]
    | some x => simp [hl, hs, hz']
  · rfl
def ixB (sz g len id:Nat) (n:Int):Option B→Option V
 | some (.rows s _ g' _)=>bif g==g'&&s==sz then bif decide (0≤n∧n.toNat<len) then some (.ptr id g n.toNat 0) else none else none
 | _=>none
theorem be {id g len : Nat} {e : TypeId} {k : IntKind} {n : Int} (hu : P.underlying t = some (.slice e)) (hz : (aR P e != 0) = true) :
    ak P t (.own id g len) (.lit (.int k n)) H = ixB (aR P e) g len id n (H[id]?) := by
  have hz' : aR P e ≠ 0 := by simpa using hz
  unfold ak ixB
  simp only [hu]
  by_cases hn : 0 ≤ n
  · simp only [hn, if_true, true_and]
    generalize H[id]? = b0
    cases b0 with
    | none => rfl
    | some b =>
      cases b with
      | rows s rs g' lv =>
        simp only [hz', ne_eq, not_false_eq_true, and_true, Bool.cond_eq_ite, Bool.and_eq_true, beq_iff_eq, decide_eq_true_eq]
      | _ => rfl
  · simp only [hn, if_false, false_and, decide_false]
    generalize H[id]? = b0
    cases b0 with
    | none => rfl
    | some b =>
      cases b with
      | rows s rs g' lv => simp
      | _ => rfl
theorem Ou {sz g len id:Nat} {n:Int} {rs:List (List V)} {lv:Bool}:ixB sz g len id n (some (.rows sz rs g lv))=bif decide (0≤n∧n.toNat<len) then some (.ptr id g n.toNat 0) else none:=by
 simp [ixB]
theorem T8 {rows:List (List V)}:rk (.ro rows) H=some (.lit (.int .i64 rows.length)):=rfl
theorem Nv:rk .nil H=some (.lit (.int .i64 0)):=rfl
def lnB (g len:Nat):Option B→Option V
 | some (.rows _ _ g' _)=>bif g==g' then some (.lit (.int .i64 len)) else none
 | _=>none
theorem N5 {id g len:Nat}:rk (.own id g len) H=lnB g len (H[id]?):=by
 unfold rk lnB
 dsimp only
 generalize H[id]? = b0
 cases b0 with
 | none=>rfl
 | some b=>cases b <;> simp [Bool.cond_eq_ite]
theorem Nc {g len e:Nat} {rs:List (List V)} {lv:Bool}:lnB g len (some (.rows e rs g lv))=some (.lit (.int .i64 len)):=by simp [lnB]
theorem BA {v:Value} (h:v.oneCell'=true):aO (.lit v) H=some (.ptr H.length 0 0 0,H++[.box [.lit v]]):=by
 simp [aO,V.cells,V.one,h,bv]
theorem Kh {k:IntKind} {n:Int}:aO (.lit (.int k n)) H=some (.ptr H.length 0 0 0,H++[.box [.lit (.int k n)]]):=BA rfl
theorem GT {b:Bool}:aO (.lit (.bool b)) H=some (.ptr H.length 0 0 0,H++[.box [.lit (.bool b)]]):=BA rfl
theorem N2 {r:List (List V)}:aO (.ro r) H=some (.ptr H.length 0 0 0,H++[.box [.ro r]]):=by simp [aO,V.cells,V.one,bv]
theorem Ii {l:List V}:aO (.agg l) H=some (.ptr (bv l H).2.length 0 0 0,(bv l H).2++[.box (bv l H).1]):=by simp [aO,V.cells]
theorem LS:bv [] H=([],H):=rfl
theorem NE {v:Value} {l:List V}:bv (.lit v::l) H=(.lit v::(bv l H).1,(bv l H).2):=rfl
theorem Rv {r:List (List V)} {l:List V}:bv (.ro r::l) H=(.ro r::(bv l H).1,(bv l H).2):=rfl
theorem OD {i g n:Nat} {l:List V}:bv (.own i g n::l) H=(.own i g n::(bv l H).1,(bv l H).2):=rfl
theorem Oi {i g n o:Nat} {l:List V}:bv (.ptr i g n o::l) H=(.ptr i g n o::(bv l H).1,(bv l H).2):=rfl
theorem UG {f:Fn} {a b l:List V}:bv (.fn f a b::l) H=(.fn f a b::(bv l H).1,(bv l H).2):=rfl
theorem IA {l:List V}:bv (.nil::l) H=(.own H.length 0 0::(bv l (H++[.rows 0 [] 0 true])).1,(bv l (H++[.rows 0 [] 0 true])).2):=rfl
theorem By {v:Value} (h:v.oneCell'=true):V.cells (.lit v)=some [.lit v]:=by simp [V.cells,V.one,h]
theorem Ku {k:IntKind} {n:Int}:V.cells (.lit (.int k n))=some [.lit (.int k n)]:=By rfl
theorem HO {b:Bool}:V.cells (.lit (.bool b))=some [.lit (.bool b)]:=By rfl
theorem M8 {r:List (List V)}:V.cells (.ro r)=some [.ro r]:=rfl
theorem K0 {i g n:Nat}:V.cells (.own i g n)=some [.own i g n]:=rfl
theorem Ks {i g n o:Nat}:V.cells (.ptr i g n o)=some [.ptr i g n o]:=rfl
theorem Nu {f:Fn} {a b:List V}:V.cells (.fn f a b)=some [.fn f a b]:=rfl
theorem IH:V.cells .nil=some [.nil]:=rfl
theorem Jg {l:List V}:V.cells (.agg l)=some l:=rfl
theorem LZ {id g row off:Nat}:aN (.ptr id g row off) H=(match H[id]? with
  | some (.box _)=>bif g==0 then some (.ptr id g row off) else none
  | some (.rows _ _ g' _)=>bif g==g' then some (.ptr id g row off) else none
  | _=>none):=by
 unfold aN
 dsimp only
 generalize H[id]? = b0
 cases b0 with
 | none=>rfl
 | some b=>cases b <;> simp [Bool.cond_eq_ite]
theorem Vk {f:FuncId} {a b:List V}:aN (.fn (.func f) a b) H=some (.fn (.func f) a b):=rfl
theorem Rj {c:List V}:aN (.rp c) H=some (.rp c):=rfl
theorem KE {cx:Cx} {c:Code} {n0:Nat} {K:Out→St→Res} {n:Nat} {s:St}:bK cx c n0 K n .ret s=K .ret s:=rfl
theorem XU {v:V}:dW [some v] H=some (v,H):=rfl
theorem Yq {v w:V}:dW [some v,some w] H=some (.tup [v,w],H):=rfl
theorem XY {v w x:V}:dW [some v,some w,some x] H=some (.tup [v,w,x],H):=rfl
end mem
end Go.Ab
namespace Go.Ab
mutual
def V.data:V→Bool
 | .lit _=>true
 | .ro _=>true
 | .nil=>true
 | .agg cs=>iu cs
 | .fn _ a b=>H7 a&&H7 b
 | _=>false
def H7:List V→Bool
 | []=>true
 | v::vs=>v.data&&H7 vs
def iu:List V→Bool
 | []=>true
 | .lit _::vs=>iu vs
 | .ro _::vs=>iu vs
 | _::_=>false
end
theorem iL:∀ {l:List V},iu l=true→bg l=true
 | [],_=>rfl
 | .lit _::vs,h=>by
  have:=iL (l:=vs) (by simpa [iu] using h)
  simp [bg,V.pure,this]
 | .ro _::vs,h=>by
  have:=iL (l:=vs) (by simpa [iu] using h)
  simp [bg,V.pure,this]
 | .nil::_,h | .any::_,h | .junk::_,h | .agg _::_,h | .tup _::_,h | .fn .. :: _,h | .yld _::_,h | .rp _::_,h | .ptr .. :: _,h | .own .. :: _,h | .map _::_,h=>by simp [iu] at h
mutual
theorem Kd:∀ {v:V},v.data=true→v.pure=true
 | .lit _,_ | .ro _,_ | .nil,_=>rfl
 | .agg cs,h=>iL h
 | .fn _ a b,h=>by
  simp [V.data] at h
  simp [V.pure,oI h.1,oI h.2]
 | .any,h | .junk,h | .tup _,h | .yld _,h | .rp _,h | .ptr ..,h | .own ..,h | .map _,h=>by simp [V.data] at h
theorem oI:∀ {l:List V},H7 l=true→bg l=true
 | [],_=>rfl
 | v::vs,h=>by
  simp [H7] at h
  simp [bg,Kd h.1,oI h.2]
end
def mS (cx:Cx) (g:FuncId) (args:List V):Option (V×Hp):=(cx.call 0 g args []).bind fun p=>lb (cx.M.keepRes cx.fid g) p.1 p.2
section ret
variable {H:Hp}
theorem L2 {v:Value} {h:Hp}:lb none (.lit v) h=some (.lit v,[]):=rfl
def fzB (wl id g len:Nat) (H:Hp):Option B→Option (V×Hp)
 | some (.rows e rs g' _)=>bif g==g'&&decide (len≤rs.length)&&(cH rs&&Nat.ble wl id) then some (.ro (rs.take len),H.set id (.rows e rs g' false)) else none
 | _=>none
theorem oP {wl id g len:Nat}:fzC wl (.own id g len) H=fzB wl id g len H (H[id]?):=by
 unfold fzC fzB
 dsimp only
 generalize H[id]? = b
 cases b with
 | none=>rfl
 | some b=>
  cases b with
  | rows e rs g' lv=>
   by_cases h1:g=g'
   ·by_cases h2:len≤rs.length <;> cases h3:(cH rs&&Nat.ble wl id) <;> simp [h1,h2]
   ·simp [h1,beq_false_of_ne h1]
  | _=>rfl
theorem M0 {α:Type} {l:List α} {enc:α→List V} {wl id g e len:Nat} {lv:Bool} (hl:len=l.length) (hp:∀ x,bg (enc x)=true) (hw:Nat.ble wl id=true) :
  fzB wl id g len H (some (.rows e (l.map enc) g lv))=some (.ro (l.map enc),H.set id (.rows e (l.map enc) g false)):=by
 subst hl
 have h1:cH (l.map enc)=true:=by
  rw [cH,List.all_eq_true]
  intro r hr
  obtain ⟨x,_,rfl⟩:=List.mem_map.1 hr
  exact hp x
 have h2:(l.map enc).take l.length=l.map enc:=by rw [List.take_of_length_le];simp
 simp [fzB,h1,hw,h2]
theorem OT {α:Type} {l:List α} {enc:α→List V} {id g e len:Nat} {lv:Bool} {h:Hp} (hb:h[id]? = some (.rows e (l.map enc) g lv)) (hl:len=l.length) (hp:∀ x,bg (enc x)=true) :
  lb none (.own id g len) h=some (.ro (l.map enc),[]):=by
 simp only [lb,fzR,CD,fzA,oP,hb,M0 hl hp (by simp:Nat.ble 0 id=true),Option.bind_some,V.pure,if_true]
end ret
section app
variable {P:Program} {wl:Nat} {t:TypeId} {H:Hp}
theorem A9 {r:List (List V)}:bP (.ro r) H=some r:=rfl
theorem Gu:bP .nil H=some []:=rfl
def roB (g len:Nat):Option B→Option (List (List V))
 | some (.rows _ rs g' _)=>bif g==g'&&decide (len≤rs.length) then some (rs.take len) else none
 | _=>none
theorem Hx {id g len:Nat}:bP (.own id g len) H=roB g len (H[id]?):=by
 unfold bP roB
 dsimp only
 generalize H[id]? = b
 cases b with
 | none=>rfl
 | some b=>cases b <;> simp [Bool.cond_eq_ite]
def apB (wl _e:Nat) (sz bytes id g len:Nat) (xs:List (List V)) (H:Hp):Option B→Option (V×Hp)
 | some (.rows s rs g' live)=>
  bif Nat.ble wl id&&(g==g')&&decide (len≤rs.length)&&(live||len==rs.length)&&(s==sz||s==0)&&decide ((len+xs.length)*bytes≤70368744177664) then
   some (.own id (g+1) (len+xs.length),H.set id (.rows sz (rs.take len++xs) (g+1) live)) else none
 | _=>none
theorem ef {e:TypeId} {id g len:Nat} {x:V} (he:iK P t=some e) (hg:El P e=true) :
  bn P wl t (.own id g len) x H=(bP x H).bind fun xs=>bif bT (aR P e) xs then apB wl e (aR P e) (P.bytesOf e) id g len xs H (H[id]?) else none:=by
 unfold bn
 simp only [he]
 cases hr:bP x H with
 | none=>rfl
 | some xs=>
  simp only [Option.bind_some,hg,Bool.and_true]
  cases bT (aR P e) xs with
  | false=>rfl
  | true=>
   simp only [if_true,cond_true,apB]
   generalize H[id]? = b
   cases b with
   | none=>rfl
   | some b=>
    cases b with
    | rows s rs g' lv=>simp [Bool.cond_eq_ite,and_assoc]
    | _=>rfl
theorem dZ {e:TypeId} {x:V} (he:iK P t=some e) (hg:El P e=true) :
  bn P wl t .nil x H=(bP x H).bind fun xs=>bif bT (aR P e) xs then bif decide (xs.length*P.bytesOf e≤70368744177664) then some (.own H.length 0 xs.length,H++[.rows (aR P e) xs 0 true]) else none else none:=by
 unfold bn
 simp only [he]
 cases hr:bP x H with
 | none=>rfl
 | some xs=>
  simp only [Option.bind_some,hg,Bool.and_true]
  cases bT (aR P e) xs with
  | false=>rfl
  | true=>simp [Bool.cond_eq_ite]
theorem dN {α:Type} {l:List α} {enc:α→List V} {sz:Nat} (h:∀ x,(enc x).length=sz):bT sz (l.map enc)=true:=by
 rw [bT,List.all_eq_true]
 intro r hr
 obtain ⟨x,_,rfl⟩:=List.mem_map.1 hr
 simp [h]
def room (n bytes:Nat):Bool:=decide (n*bytes≤70368744177664)
theorem AG {e : TypeId} {n : Int} {z : Value} {Z : List V} (he : iK P t = some e) (hz : eG P e = some z) (hZ : a8.fzZ (bE z) = Z) (ho : (ba (bE z) && (bE z).length == aR P e && aR P e != 0) = true) :
    a8 P t (.lit (.int .i64 n)) (.lit (.int .i64 n)) H = bif decide (0 ≤ n ∧ n ≤ 9223372036854775807 ∧ n * P.bytesOf e ≤ 70368744177664) then some (.own H.length 0 n.toNat, H ++ [.rows (aR P e) (List.replicate n.toNat Z) 0 true]) else none := by
  unfold a8
  simp only [he, hz, ho, if_true, hZ, true_and, Bool.cond_eq_ite, decide_eq_true_eq]
end app
theorem fA {α:Type} {l:List α} {enc:α→List V} {n:Nat} (hp:∀ x,bg (enc x)=true):kV n (l.map enc)=l.map enc:=by
 have h1:cH (l.map enc)=true:=by
  rw [cH,List.all_eq_true]
  intro r hr
  obtain ⟨x,_,rfl⟩:=List.mem_map.1 hr
  exact hp x
 simp [kV,h1]
theorem eD {α:Type} {l:List α} {enc:α→List V} {n:Nat} (hp:∀ x,bg (enc x)=true):gW n (l.map enc)=l.map enc:=by
 have h1:cH (l.map enc)=true:=by
  rw [cH,List.all_eq_true]
  intro r hr
  obtain ⟨x,_,rfl⟩:=List.mem_map.1 hr
  exact hp x
 simp [gW,h1]
theorem HD {n:Nat}:gW n []=[]:=rfl
theorem Kl {n:Nat}:kV n []=[]:=rfl
theorem rN (k:IntKind) (x:Int):bg (aI k x)=true:=rfl
theorem nY (x:Bool):bg (lX x)=true:=rfl
theorem kz (x:Int×List Int):bg (ao x)=true:=rfl
theorem mW (x:Int×Int×Int):bg (aM x)=true:=rfl
theorem Jx {k:IntKind} {l:List Int} {n:Nat}:kV n (l.map (aI k))=l.map (aI k):=fA (rN k)
theorem G6 {l:List Bool} {n:Nat}:kV n (l.map lX)=l.map lX:=fA nY
theorem GV {l:List (Int×List Int)} {n:Nat}:kV n (l.map ao)=l.map ao:=fA kz
theorem Dy {l:List (Int×Int×Int)} {n:Nat}:kV n (l.map aM)=l.map aM:=fA mW
theorem GW {k:IntKind} {l:List Int} {n:Nat}:gW n (l.map (aI k))=l.map (aI k):=eD (rN k)
theorem EP {l:List Bool} {n:Nat}:gW n (l.map lX)=l.map lX:=eD nY
theorem Eu {l:List (Int×List Int)} {n:Nat}:gW n (l.map ao)=l.map ao:=eD kz
theorem A0 {l:List (Int×Int×Int)} {n:Nat}:gW n (l.map aM)=l.map aM:=eD mW
theorem Hf {n:Nat} {cs:List V}:B.shift n (.box cs) = .box (ik n cs):=rfl
theorem Dn {n e g:Nat} {rs:List (List V)} {l:Bool}:B.shift n (.rows e rs g l) = .rows e (gW n rs) g l:=rfl
theorem Ip {n:Nat} {cs:List V}:B.kill n (.box cs) = .box (iM n cs):=rfl
theorem HQ {n e g:Nat} {rs:List (List V)} {l:Bool}:B.kill n (.rows e rs g l) = .rows e (kV n rs) g l:=rfl
theorem HJ {n:Nat}:B.kill n .dead = .dead:=rfl
theorem JM {l:List Bool} {i:Nat} {b:Bool}:(l.map lX).set i [.lit (.bool b)]=(l.set i b).map lX:=by rw [List.map_set];rfl
theorem O2 {k:IntKind} {l:List Int} {i:Nat} {b:Int}:(l.map (aI k)).set i [.lit (.int k b)]=(l.set i b).map (aI k):=by rw [List.map_set];rfl
theorem K5 {n:Nat} {b:Bool}:List.replicate n [V.lit (.bool b)]=(List.replicate n b).map lX:=by rw [List.map_replicate];rfl
theorem N0 {k:IntKind} {n:Nat} {b:Int}:List.replicate n [V.lit (.int k b)]=(List.replicate n b).map (aI k):=by rw [List.map_replicate];rfl
theorem NL {α:Type} {l:List α} {f:α→List V} {i:Nat}:(l.map f)[i]? = (l[i]?).map f:=List.getElem?_map
theorem afG {n:Nat}:Nat.ble 0 n=true:=by cases n <;> rfl
theorem Py (x:Int×List Int):ao x=[.lit (.int .i64 x.1),.ro (x.2.map (aI .i64))]:=rfl
theorem Kx {keep:Option (Nat→Bool)} {v:Value} {h:Hp}:lb keep (.lit v) h=some (.lit v,[]):=by
 cases keep <;> rfl
theorem Pw {keep:Option (Nat→Bool)} {r:List (List V)} {h:Hp}:lb keep (.ro r) h=some (.ro r,[]):=by
 cases keep <;> rfl
theorem IW {z:Int} (h1 : -9223372036854775808≤z) (h2:z≤9223372036854775807):IntKind.i64.wrap z=z:=by
 simp [IntKind.wrap,IntKind.bits,IntKind.signed]
 omega
end Go.Ab
namespace Go.Ab
def bdK (id n:Nat):Out→St→Res:=fun o s=>match s.H[id]? with
 | some (.loop l)=>some (.lit (.bool (dl o).isNone),bZ n (s.H.set id (.loop { l with st:=if (dl o).isNone then .ready else .done,pending:=dl o })))
 | _=>none
def asK (cx:Cx) (id n:Nat) (body:Code):Out→St→Res:=fun o s=>match o with
 | .norm=>match s.H[id]? with
  | some (.loop l)=>if l.st = .ready then au cx (bdK id n) [.seq body] .norm ⟨s.env,s.H.set id (.loop { l with st := .busy })⟩ else none
  | _=>none
 | _=>none
def rfK (K:Out→St→Res) (env:List V) (n:Nat) (p:V×Hp):Res:=
 match p.2[n]? with
 | some (.loop l)=>if l.st = .busy then none else
  match l.pending with
  | none=>K .norm ⟨env,bZ n p.2⟩
  | some .ret=>K .ret ⟨env,bZ n p.2⟩
  | some (.exit id)=>K (.exit id) ⟨env,bZ n p.2⟩
  | some (.goto id)=>K (.goto id) ⟨env,bZ n p.2⟩
  | some _=>none
 | _=>none
def PU {σ α:Type} (step:σ→α→Bool×σ):List α→σ→Bool×σ
 | [],s=>(true,s)
 | x::r,s=>if (step s x).1 then PU step r (step s x).2 else step s x
end Go.Ab
namespace Go.Ab
theorem b7 {α:Type} {l r:List α} {x:α} {i:Nat} (h:l.drop i=x::r):i<l.length∧l[i]? = some x∧l.drop (i+1)=r∧x ∈ l∧l.length=i+1+r.length:=by
 have h0:i<l.length:=by
  have:=congrArg List.length h
  simp at this
  omega
 have h1:l.drop i=l[i]::l.drop (i+1):=List.drop_eq_getElem_cons h0
 rw [h] at h1
 injection h1 with h2 h3
 refine ⟨h0,by rw [List.getElem?_eq_getElem h0,h2],h3.symm,h2 ▸ List.getElem_mem h0,?_⟩
 have:=congrArg List.length h
 simp at this
 omega
theorem cX {α:Type} {l:List α} {i:Nat} (h:l.drop i=[]):l.length≤i:=List.drop_eq_nil_iff.1 h
theorem fe {α:Type} {l:List α} {i:Nat} {x:α} (h:l[i]? = some x):idx l (i:Int)=some x:=by rw [TO,h]
theorem ltT {a b:Int} (h:a<b):decide (a<b)=true:=decide_eq_true h
theorem ltF {a b:Int} (h:b≤a):decide (a<b)=false:=decide_eq_false (by omega)
theorem leT {a b:Int} (h:a≤b):decide (a≤b)=true:=decide_eq_true h
theorem leF {a b:Int} (h:b<a):decide (a≤b)=false:=decide_eq_false (by omega)
theorem gf {k d:Nat} (h:d<k):∃ j,k=j+1:=⟨k - 1,by omega⟩
theorem eU {i:Nat} (h:i≤9223372036854775806):IntKind.i64.wrap ((i:Int)+1)=((i+1:Nat):Int):=by
 rw [IW (by omega) (by omega)]
 omega
end Go.Ab
namespace Go.Ab
def FA {α:Type} (p:α→Bool):List α→Nat→Int
 | [],_ => -1
 | x::r,i=>if p x then (i:Int) else FA p r (i+1)
theorem uw {α:Type} (p:α→Bool):∀ (l:List α) (i:Nat),decide (0≤FA p l i)=l.any p
 | [],_=>rfl
 | x::r,i=>by
  by_cases h:p x=true
  ·simp [FA,h]
  ·simpa [FA,h] using uw p r (i+1)
end Go.Ab
namespace Go.Ab
theorem afH {n:Nat} (h:n≤30):decide ((30:Int)<n)=false:=decide_eq_false (by omega)
end Go.Ab
namespace Go.Ab
theorem afV {n:Nat} (h:30<n):decide ((30:Int)<n)=true:=decide_eq_true (by omega)
end Go.Ab
namespace Go.Ab
theorem QV {n:Nat}:decide ((n:Int)≤40)=decide (n≤40):=by
 by_cases h:n≤40
 ·rw [decide_eq_true h,decide_eq_true (by omega)]
 ·rw [decide_eq_false h,decide_eq_false (by omega)]
end Go.Ab
namespace Go.Ab
section one
variable {wl e sz bytes id g len s:Nat} {H:Hp} {lv:Bool}
theorem EE {n b:Nat} (h:n*b≤70368744177664):room n b=true:=decide_eq_true h
end one
end Go.Ab
namespace Go.Ab
theorem ed {α:Type} {l:List α} {enc:α→List V} (hp:∀ x,bg (enc x)=true):cH (l.map enc)=true:=by
 rw [cH,List.all_eq_true]
 intro r hr
 obtain ⟨x,_,rfl⟩:=List.mem_map.1 hr
 exact hp x
theorem uo {k:IntKind} {l:List Int}:cH (l.map (aI k))=true:=ed (rN k)
theorem GB {l:List (Int×List Int)}:cH (l.map ao)=true:=ed kz
theorem EQ {l:List (Int×Int×Int)}:cH (l.map aM)=true:=ed mW
theorem Ht {l:List Bool}:cH (l.map lX)=true:=ed nY
end Go.Ab
namespace Go.Ab
section slices
variable {P:Program} {wl:Nat} {c:Bool} {t e:TypeId} {α:Type} {l:List α} {enc:α→List V} {k k':IntKind} {n lo:Int} {H:Hp}
theorem Ed (h:∀ x,(enc x).length=aR P e):(l.map enc).all (fun r=>r.length==aR P e)=true:=by
 rw [List.all_eq_true]
 intro r hr
 obtain ⟨x,_,rfl⟩:=List.mem_map.1 hr
 simp [h]
theorem BJ (he : iK P t = some e) (hz : (aR P e != 0) = true) (h : ∀ x, (enc x).length = aR P e) :
    dp P wl c t (.ro (l.map enc)) none (some (.lit (.int k n))) none H = bif decide (0 ≤ n ∧ n ≤ l.length) then some (.ro ((l.take n.toNat).map enc), H) else none := by
  have hz' : aR P e ≠ 0 := by simpa using hz
  unfold dp
  simp only [he, bnd]
  by_cases h0 : 0 ≤ n
  · simp only [h0, if_true, Option.bind_some, true_and]
    by_cases h1 : n ≤ l.length
    · have h2 : n.toNat ≤ l.length := by omega
      simp [h1, h2, hz', Ed h, List.map_take]
    · have h2 : ¬ n.toNat ≤ l.length := by omega
      simp [h1, h2]
  · simp [h0]
theorem B6 (he : iK P t = some e) (hz : (aR P e != 0) = true) (h : ∀ x, (enc x).length = aR P e) :
    dp P wl c t (.ro (l.map enc)) (some (.lit (.int k n))) none none H = bif decide (0 ≤ n ∧ n ≤ l.length) then some (.ro ((l.drop n.toNat).map enc), H) else none := by
  have hz' : aR P e ≠ 0 := by simpa using hz
  unfold dp
  simp only [he, bnd]
  by_cases h0 : 0 ≤ n
  · simp only [h0, if_true, Option.bind_some, true_and]
    by_cases h1 : n ≤ l.length
    · have h2 : n.toNat ≤ l.length := by omega
      simp [h1, h2, hz', Ed h, List.map_drop, List.take_of_length_le]
    · have h2 : ¬ n.toNat ≤ l.length := by omega
      simp [h1, h2]
  · simp [h0]
theorem ry (he : iK P t = some e) (hz : (aR P e != 0) = true) (h : ∀ x, (enc x).length = aR P e) :
    dp P wl c t (.ro (l.map enc)) (some (.lit (.int k lo))) (some (.lit (.int k' n))) none H = bif decide (0 ≤ lo ∧ lo ≤ n ∧ n ≤ l.length) then some (.ro (((l.take n.toNat).drop lo.toNat).map enc), H) else none := by
  have hz' : aR P e ≠ 0 := by simpa using hz
  unfold dp
  simp only [he, bnd]
  by_cases h0 : 0 ≤ lo
  · by_cases h3 : 0 ≤ n
    · simp only [h0, h3, if_true, Option.bind_some, true_and]
      by_cases h1 : n ≤ l.length
      · have h2 : n.toNat ≤ l.length := by omega
        by_cases h4 : lo ≤ n
        · have h5 : lo.toNat ≤ n.toNat := by omega
          simp [h1, h2, h4, h5, hz', Ed h, List.map_take, List.map_drop]
        · have h5 : ¬ lo.toNat ≤ n.toNat := by omega
          simp [h4, h5]
      · have h2 : ¬ n.toNat ≤ l.length := by omega
        simp [h1, h2]
    · have : ¬ (0 ≤ lo ∧ lo ≤ n ∧ n ≤ (l.length : Int)) := by omega
      simp [h3, this]
  · simp [h0]
end slices
end Go.Ab
namespace Go.Ab
end Go.Ab
namespace Go.Ab
def bq {α β:Type} (x:Option α) (F:α→Option β):Option β:=x.bind F
@[congr] theorem aa4 {α β:Type} {x y:Option α} {F:α→Option β} (h:x=y):bq x F=bq y F:=by rw [h]
def sif {β:Type} (c:Bool) (a b:β):β:=bif c then a else b
@[congr] theorem ZT {β:Type} {c d:Bool} {a b:β} (h:c=d):sif c a b=sif d a b:=by rw [h]
theorem mw {β:Type} {a b:β}:sif true a b=a:=rfl
theorem lW {β:Type} {a b:β}:sif false a b=b:=rfl
section
variable {α β γ:Type}
theorem Ty {a:α} {F:α→Option β}:bq (some a) F=F a:=rfl
theorem Ra {F:α→Option β}:bq none F=none:=rfl
theorem Te {c:Bool} {x y:Option α} {F:α→Option β}:bq (bif c then x else y) F=bif c then bq x F else bq y F:=by cases c <;> rfl
theorem ad3 {x:Option γ} {f:γ→Option α} {F:α→Option β}:bq (ob x f) F=ob x fun a=>bq (f a) F:=by cases x <;> rfl
theorem ad8 {c:Bool} {x:Option α} {F:α→Option β}:bq (ck c x) F=ck c (bq x F):=by cases c <;> rfl
theorem Wl {x:Option γ} {f:γ→α} {F:α→Option β}:bq (x.map f) F=ob x fun a=>F (f a):=by cases x <;> rfl
theorem Tz {x:Option γ} {f:γ→Option α} {F:α→Option β}:bq (x.bind f) F=ob x fun a=>bq (f a) F:=by cases x <;> rfl
theorem YH {c:Bool} {x:Option α} {F:α→Option β}:bq (bif c then x else none) F=ck c (bq x F):=by cases c <;> rfl
theorem adz {x:Option γ} {f:γ→Option α} {F:α→Option β}:bq (bq x f) F=bq x fun a=>bq (f a) F:=by cases x <;> rfl
theorem abv {x:Option γ} {f:γ→Option α} {F:α→Option β}:ob (ob x f) F=ob x fun a=>ob (f a) F:=by cases x <;> rfl
theorem R6 {c:Bool} {x y:Option α} {F:α→Option β}:ob (bif c then x else y) F=bif c then ob x F else ob y F:=by cases c <;> rfl
theorem acC {c:Bool} {x:Option α} {F:α→Option β}:ob (ck c x) F=ck c (ob x F):=by cases c <;> rfl
theorem VJ {x:Option γ} {f:γ→α} {F:α→Option β}:ob (x.map f) F=ob x fun a=>F (f a):=by cases x <;> rfl
end
section
variable {α:Type} {H:Hp} {K:V→Hp→Res} {k:Hp→Res}
theorem adA {x:Option α} {f:α→Option V}:bm (ob x f) H K=ob x fun a=>bm (f a) H K:=by cases x <;> rfl
theorem ab1 {x:Option α} {f:α→Option (V×Hp)}:bp (ob x f) K=ob x fun a=>bp (f a) K:=by cases x <;> rfl
theorem abV {x:Option α} {f:α→Option Hp}:bs (ob x f) k=ob x fun a=>bs (f a) k:=by cases x <;> rfl
theorem RS {c:Bool} {x y:Option V}:bm (bif c then x else y) H K=bif c then bm x H K else bm y H K:=by cases c <;> rfl
theorem Us {c:Bool} {x y:Option (V×Hp)}:bp (bif c then x else y) K=bif c then bp x K else bp y K:=by cases c <;> rfl
theorem Uv {c:Bool} {x y:Option Hp}:bs (bif c then x else y) k=bif c then bs x k else bs y k:=by cases c <;> rfl
theorem abT {c:Bool} {x:Option V}:bm (ck c x) H K=ck c (bm x H K):=by cases c <;> rfl
theorem abu {c:Bool} {x:Option (V×Hp)}:bp (ck c x) K=ck c (bp x K):=by cases c <;> rfl
theorem ach {c:Bool} {x:Option Hp}:bs (ck c x) k=ck c (bs x k):=by cases c <;> rfl
end
def rt (kp:Option (Nat→Bool)) (x:Res):Res:=x.bind fun p=>lb kp p.1 p.2
section rt
variable {kp:Option (Nat→Bool)} {α:Type} {h:Hp}
theorem TM:rt kp none=none:=rfl
theorem DW {v:V}:rt kp (some (v,h))=lb kp v h:=rfl
theorem UO {c:Bool} {x y:Res}:rt kp (bif c then x else y)=bif c then rt kp x else rt kp y:=by cases c <;> rfl
theorem T2 {x:Option α} {f:α→Res}:rt kp (ob x f)=ob x fun a=>rt kp (f a):=by cases x <;> rfl
theorem acK {c:Bool} {x:Res}:rt kp (ck c x)=ck c (rt kp x):=by cases c <;> rfl
def rtN (v:V) (H:Hp):Res:=bq (fzR 0 v H) fun q=>sif q.1.pure (some (q.1,[])) (some q)
theorem BV {v:V}:lb none v h=rtN v h:=by
 show (fzR 0 v h).bind _=(fzR 0 v h).bind _
 congr 1
 funext q
 cases hq:q.1.pure <;> simp [sif,hq]
theorem Vq:lb none .nil h=some (.ro [],[]):=rfl
theorem Uz {c:List V}:lb none (.agg c) h=rtN (.agg c) h:=BV
theorem SL {c:List V}:lb none (.tup c) h=rtN (.tup c) h:=BV
theorem R4 {i g l:Nat}:lb none (.own i g l) h=rtN (.own i g l) h:=BV
theorem SG {i:Nat}:lb none (.map i) h=some (.map i,h):=rfl
theorem Xf {f:Fn} {a b:List V}:lb none (.fn f a b) h=rtN (.fn f a b) h:=BV
theorem S7 {i g r o:Nat}:lb none (.ptr i g r o) h=some (.ptr i g r o,h):=rfl
end rt
section fz
variable {wl:Nat} {H:Hp} {nl:Bool}
theorem S5 {vs:List V}:fzR wl (.tup vs) H=bq (kZ wl vs H) fun p=>some (.tup p.1,p.2):=rfl
theorem RA {v:Value}:fzR wl (.lit v) H=some (.lit v,H):=rfl
theorem Wv {r:List (List V)}:fzR wl (.ro r) H=some (.ro r,H):=rfl
theorem Ud:fzR wl .nil H=some (.ro [],H):=rfl
theorem Zd {f:Fn} {a b:List V}:fzR wl (.fn f a b) H=some (.fn f a b,H):=rfl
theorem Sz {i g r o:Nat}:fzR wl (.ptr i g r o) H=some (.ptr i g r o,H):=rfl
theorem UQ {i:Nat}:fzR wl (.map i) H=some (.map i,H):=rfl
theorem ST {i g l:Nat}:fzR wl (.own i g l) H=fzB wl i g l H (H[i]?):=oP
theorem TI {c:List V}:fzR wl (.agg c) H=bq (fzL wl true c H) fun p=>some (.agg p.1,p.2):=rfl
theorem Jj:kZ wl [] H=some ([],H):=rfl
theorem Lz {v:Value} {vs:List V}:kZ wl (.lit v::vs) H=bq (kZ wl vs H) fun q=>some (.lit v::q.1,q.2):=rfl
theorem MB {r:List (List V)} {vs:List V}:kZ wl (.ro r::vs) H=bq (kZ wl vs H) fun q=>some (.ro r::q.1,q.2):=rfl
theorem GJ {vs:List V}:kZ wl (.nil::vs) H=bq (kZ wl vs H) fun q=>some (.ro []::q.1,q.2):=rfl
theorem Mx {f:Fn} {a b vs:List V}:kZ wl (.fn f a b::vs) H=bq (kZ wl vs H) fun q=>some (.fn f a b::q.1,q.2):=rfl
theorem K7 {i g l:Nat} {vs:List V}:kZ wl (.own i g l::vs) H=bq (fzB wl i g l H (H[i]?)) fun p=>bq (kZ wl vs p.2) fun q=>some (p.1::q.1,q.2):=by
 show (fzC wl (.own i g l) H).bind _=_
 rw [oP]
 rfl
theorem Lx {c vs:List V}:kZ wl (.agg c::vs) H=bq (fzL wl true c H) fun p=>bq (kZ wl vs p.2) fun q=>some (.agg p.1::q.1,q.2):=by
 show ((fzL wl true c H).bind _).bind _=_
 cases fzL wl true c H <;> rfl
theorem Mn:fzL wl nl [] H=some ([],H):=rfl
theorem Pf {v:Value} {vs:List V}:fzL wl nl (.lit v::vs) H=bq (fzL wl nl vs H) fun q=>some (.lit v::q.1,q.2):=rfl
theorem Q9 {r:List (List V)} {vs:List V}:fzL wl nl (.ro r::vs) H=bq (fzL wl nl vs H) fun q=>some (.ro r::q.1,q.2):=rfl
theorem KP {vs:List V}:fzL wl true (.nil::vs) H=bq (fzL wl true vs H) fun q=>some (.ro []::q.1,q.2):=rfl
theorem RM {f:Fn} {a b vs:List V}:fzL wl nl (.fn f a b::vs) H=bq (fzL wl nl vs H) fun q=>some (.fn f a b::q.1,q.2):=rfl
theorem L8 {i g r o:Nat} {vs:List V}:fzL wl nl (.ptr i g r o::vs) H=bq (fzL wl nl vs H) fun q=>some (.ptr i g r o::q.1,q.2):=rfl
theorem M3 {i g l:Nat} {vs:List V}:fzL wl nl (.own i g l::vs) H=bq (fzB wl i g l H (H[i]?)) fun p=>bq (fzL wl nl vs p.2) fun q=>some (p.1::q.1,q.2):=by
 show (fzC wl (.own i g l) H).bind _=_
 rw [oP]
 rfl
theorem Mf:lB wl [] H=some ([],H):=rfl
theorem MC {v:Value} {vs:List V}:lB wl (.lit v::vs) H=bq (lB wl vs H) fun q=>some (.lit v::q.1,q.2):=rfl
theorem Tk {r:List (List V)} {vs:List V}:lB wl (.ro r::vs) H=bq (lB wl vs H) fun q=>some (.ro r::q.1,q.2):=rfl
theorem Kb {vs:List V}:lB wl (.nil::vs) H=bq (lB wl vs H) fun q=>some (.nil::q.1,q.2):=rfl
theorem RQ {f:Fn} {a b vs:List V}:lB wl (.fn f a b::vs) H=bq (lB wl vs H) fun q=>some (.fn f a b::q.1,q.2):=rfl
theorem Nm {i:Nat} {vs:List V}:lB wl (.yld i::vs) H=bq (lB wl vs H) fun q=>some (.yld i::q.1,q.2):=rfl
theorem MI {i:Nat} {vs:List V}:lB wl (.map i::vs) H=bq (lB wl vs H) fun q=>some (.map i::q.1,q.2):=rfl
theorem MS {i g r o:Nat} {vs:List V}:lB wl (.ptr i g r o::vs) H=bq (lB wl vs H) fun q=>some (.ptr i g r o::q.1,q.2):=rfl
theorem NJ {i g l:Nat} {vs:List V}:lB wl (.own i g l::vs) H=bq (fzB wl i g l H (H[i]?)) fun p=>bq (lB wl vs p.2) fun q=>some (p.1::q.1,q.2):=by
 show (fzC wl (.own i g l) H).bind _=_
 rw [oP]
 rfl
theorem LR {c vs:List V}:lB wl (.agg c::vs) H=bq (fzL wl true c H) fun p=>bq (lB wl vs p.2) fun q=>some (.agg p.1::q.1,q.2):=by
 show ((fzL wl true c H).bind _).bind _=_
 cases fzL wl true c H <;> rfl
theorem af0 {i g len e g':Nat} {rs:List (List V)} {lv:Bool}:fzB wl i g len H (some (.rows e rs g' lv))=sif (g==g'&&(cH rs&&Nat.ble wl i)) (ck (decide (len≤rs.length)) (some (.ro (rs.take len),H.set i (.rows e rs g' false)))) none:=by
 show (bif g==g'&&decide (len≤rs.length)&&(cH rs&&Nat.ble wl i) then _ else _)=_
 generalize (g==g')=a
 generalize decide (len≤rs.length)=b
 generalize (cH rs&&Nat.ble wl i)=c
 cases a <;> cases b <;> cases c <;> rfl
end fz
theorem Ol {α:Type} {l:List α} {n:Nat} (h:l.length=n):l.take n=l:=List.take_of_length_le (by omega)
theorem JL:cH []=true:=rfl
theorem G4 {r:List V} {rs:List (List V)}:cH (r::rs)=(bg r&&cH rs):=rfl
def Dw (n:Nat):Hp→Hp
 | []=>[]
 | b::H=>b.kill n::Dw n H
def o7 (n:Nat):Hp→Hp
 | []=>[]
 | b::H=>b.shift n::o7 n H
theorem E7 {n:Nat}:∀ {H:Hp},H.map (B.kill n)=Dw n H
 | []=>rfl
 | b::H=>by simp [Dw,E7 (H:=H)]
theorem uG {n:Nat}:∀ {H:Hp},H.map (B.shift n)=o7 n H
 | []=>rfl
 | b::H=>by simp [o7,uG (H:=H)]
theorem SM {n:Nat} {H:Hp}:bZ n H=Dw n (H.take n):=E7
theorem J1 {n:Nat}:Dw n []=[]:=rfl
theorem GD {n:Nat} {b:B} {H:Hp}:Dw n (b::H)=b.kill n::Dw n H:=rfl
theorem HA {n:Nat}:o7 n []=[]:=rfl
theorem EK {n:Nat} {b:B} {H:Hp}:o7 n (b::H)=b.shift n::o7 n H:=rfl
theorem DX {n:Nat} {st:LoopState} {pe:Option Code} {f:FuncId} {ts:List V} {ps:List Tmp} {a b:Code}:B.kill n (.loop ⟨st,pe,f,ts,ps,a,b⟩) = .loop ⟨st,pe,f,iM n ts,ps,a,b⟩:=rfl
def nsh (H:Hp) (v:V) (H2:Hp):Res:=sif (decide (H.length≤H2.length)) (some (v,H2)) none
theorem PS {H H2:Hp} {v:V}:cM H (v,H2)=nsh H v H2:=by
 unfold cM nsh sif
 by_cases h:H.length≤H2.length
 ·simp [h]
 ·simp [h]
theorem ae2 {n m:Nat}:Nat.ble n m=decide (n≤m):=by
 have h:(Nat.ble n m=true)=(n≤m):=Nat.ble_eq
 cases hb:Nat.ble n m with
 | true=>
  rw [hb] at h
  exact (decide_eq_true (h.mp rfl)).symm
 | false=>
  rw [hb] at h
  exact (decide_eq_false (fun e=>Bool.noConfusion (h.mpr e))).symm
theorem Ar {H:Hp} {c:Bool} {x y:V×Hp}:cM H (sif c x y)=sif c (cM H x) (cM H y):=by cases c <;> rfl
def ldQ (H H':Hp) (q:V×Hp):Res:=cM H (q.1.shift H'.length,bif (q.1.shift H'.length).scal then H else H'++q.2.map (B.shift H'.length))
theorem Qc {H H':Hp} {v:V} {h:Hp}:ldQ H H' (v,h)=nsh H (v.shift H'.length) (sif (v.shift H'.length).scal H (H'++o7 H'.length h)):=by
 unfold ldQ
 rw [PS,uG]
 rfl
theorem Rs {H H':Hp} {v:Value} {h:Hp}:ldQ H H' (.lit v,h)=some (.lit v,H):=by
 rw [Qc]
 simp [nsh,sif,V.shift,V.scal]
def ldP (H:Hp) (q:V×Hp):Res:=some (q.1.shift H.length,H++q.2.map (B.shift H.length))
theorem Ye {H:Hp} {v:V} {h:Hp}:ldP H (v,h)=some (v.shift H.length,H++o7 H.length h):=by
 unfold ldP
 rw [uG]
theorem r7 {cx:Cx} {g:FuncId} {args:List V} {H:Hp}:gr cx g args H=bq (mS cx g args) (ldP H):=by
 unfold gr mS bq ldP
 cases h:cx.call 0 g args [] with
 | none=>rfl
 | some p=>rfl
theorem KY {cx:Cx} {o:Bool} {g:FuncId} {first caps args:List V} {H:Hp} :
  cN cx false o (.fn (.func g) first caps) args H=bq (sif (cx.M.keepArg g) (some (first++args++caps,H)) (lB cx.wl (first++args++caps) H)) fun a=>
   sif (bg a.1) (bq (mS cx g a.1) (ldQ H a.2))
    (bq (cx.call cx.wl g a.1 a.2) fun p=>bq (sif (cx.M.keepRes cx.fid g).isSome (some p) (fzR cx.wl p.1 p.2)) fun q=>cM H (sif q.1.pure (q.1,bZ a.2.length q.2) q)):=by
 unfold cN xo
 simp only [Bool.false_eq_true,if_false]
 have e1:(if cx.M.keepArg g=true then some (first++args++caps,H) else lB cx.wl (first++args++caps) H)=sif (cx.M.keepArg g) (some (first++args++caps,H)) (lB cx.wl (first++args++caps) H):=by
  cases cx.M.keepArg g <;> rfl
 rw [e1]
 unfold bq
 cases sif (cx.M.keepArg g) (some (first++args++caps,H)) (lB cx.wl (first++args++caps) H) with
 | none=>rfl
 | some a=>
  simp only [Option.bind_some]
  cases hp:bg a.1 with
  | true=>
   simp only [if_true,mw,r7]
   unfold bq
   cases mS cx g a.1 <;> rfl
  | false=>
   simp only [Bool.false_eq_true,if_false,lW]
   cases cx.call cx.wl g a.1 a.2 with
   | none=>rfl
   | some p=>
    simp only [Option.bind_some]
    have e2:(if (cx.M.keepRes cx.fid g).isSome=true then some p else fzR cx.wl p.1 p.2)=sif (cx.M.keepRes cx.fid g).isSome (some p) (fzR cx.wl p.1 p.2):=by
     cases (cx.M.keepRes cx.fid g).isSome <;> rfl
    rw [e2]
    cases sif (cx.M.keepRes cx.fid g).isSome (some p) (fzR cx.wl p.1 p.2) with
    | none=>rfl
    | some q=>
     simp only [Option.bind_some]
     cases hq:q.1.pure <;> simp [sif]
theorem GH {cx:Cx} {g:FuncId} {first caps args:List V} {H:Hp} :
  cN cx true true (.fn (.func g) first caps) args H =
   sif (bg (first++args++caps)) (bq (mS cx g (first++args++caps)) (ldP H)) (sif (cx.M.keepArg g) none (bq (lB cx.wl (first++args++caps) H) fun a=>
    sif (bg a.1) (bq (mS cx g a.1) fun q=>bq (ldP a.2 q) fun q=>some (q.1,sif q.1.scal H q.2)) (bq (cx.call a.2.length g a.1 a.2) fun p=>sif p.1.scal (some (p.1,H)) none))):=by
 unfold cN gz
 simp only [if_true,r7]
 cases bg (first++args++caps) with
 | true=>rfl
 | false=>
  simp only [Bool.false_eq_true,if_false,lW]
  cases cx.M.keepArg g with
  | true=>rfl
  | false=>
   simp only [Bool.false_eq_true,if_false,lW]
   unfold bq
   cases lB cx.wl (first++args++caps) H with
   | none=>rfl
   | some a=>
    simp only [Option.bind_some]
    cases bg a.1 with
    | true=>
     simp only [if_true,mw]
     cases mS cx g a.1 <;> rfl
    | false=>
     simp only [Bool.false_eq_true,if_false,lW]
     cases cx.call a.2.length g a.1 a.2 with
     | none=>rfl
     | some p=>
      simp only [Option.bind_some]
      cases hs:p.1.scal <;> simp [sif]
theorem HP {cx:Cx} {g:FuncId} {first caps args:List V} {H:Hp} :
  cN cx true false (.fn (.func g) first caps) args H=sif (bg (first++args++caps)) (bq (bq (cx.call 0 g (first++args++caps) []) fun p=>lb none p.1 p.2) fun q=>sif q.1.pure (some (q.1,H)) none) none:=by
 unfold cN gz
 simp only [if_true,Bool.false_eq_true,if_false]
 cases bg (first++args++caps) with
 | false=>rfl
 | true=>
  simp only [if_true,mw]
  unfold bq
  cases cx.call 0 g (first++args++caps) [] with
  | none=>rfl
  | some p=>
   simp only [Option.bind_some,BV]
   unfold rtN bq
   cases fzR 0 p.1 p.2 with
   | none=>rfl
   | some q=>
    simp only [Option.bind_some]
    cases hq:q.1.pure <;> simp [sif,hq]
section rounds
variable {P:Program} {M:Mode}
def yB (P:Program) (M:Mode) (k wl id:Nat) (args:List V) (H:Hp):Option B→Res
 | some (.loop l)=>BC { P,M,fid:=l.fn,round:=true,wl,call:=evF P M k,yld:=evY P M k,n:=k } id l args H
 | _=>none
theorem Ta {k wl id:Nat} {args:List V} {H:Hp}:evY P M (k+1) wl id args H=yB P M k wl id args H (H[id]?):=by
 unfold yB
 simp only [evY]
 generalize H[id]? = b
 cases b with
 | none=>rfl
 | some b=>cases b <;> rfl
theorem O0 {k wl id:Nat} {args:List V} {H:Hp} {pe:Option Code} {f:FuncId} {ts:List V} {ps:List Tmp} {a b:Code} :
  yB P M k wl id args H (some (.loop ⟨.ready,pe,f,ts,ps,a,b⟩))=sif (decide (args.length=ps.length)&&Nat.ble wl id)
   (au { P,M,fid:=f,round:=true,wl,call:=evF P M k,yld:=evY P M k,n:=k } (asK { P,M,fid:=f,round:=true,wl,call:=evF P M k,yld:=evY P M k,n:=k } id H.length b) [.seq a] .norm ⟨dJ ts ps args,H⟩) none:=by
 unfold yB BC
 by_cases h:args.length=ps.length
 ·cases hw:Nat.ble wl id with
  | true=>
   simp only [h,hw,and_self,if_true,decide_true,Bool.and_self,mw]
   show a7 _ a none _ _=a7 _ a none (au _ _ []) _
   congr 1
  | false=>simp [hw,sif]
 ·simp [h,sif]
def asB (cx:Cx) (id n:Nat) (body:Code) (env:List V) (H:Hp):Option B→Res
 | some (.loop l)=>if l.st = .ready then au cx (bdK id n) [.seq body] .norm ⟨env,H.set id (.loop { l with st := .busy })⟩ else none
 | _=>none
theorem T5 {cx:Cx} {id n:Nat} {body:Code} {env:List V} {H:Hp}:asK cx id n body .norm ⟨env,H⟩=asB cx id n body env H (H[id]?):=by
 unfold asK asB
 rfl
theorem JU {cx:Cx} {id n:Nat} {body:Code} {env:List V} {H:Hp} {pe:Option Code} {f:FuncId} {ts:List V} {ps:List Tmp} {a b:Code} :
  asB cx id n body env H (some (.loop ⟨.ready,pe,f,ts,ps,a,b⟩))=au cx (bdK id n) [.seq body] .norm ⟨env,H.set id (.loop ⟨.busy,pe,f,ts,ps,a,b⟩)⟩:=rfl
def bdB (id n:Nat) (o:Out) (H:Hp):Option B→Res
 | some (.loop l)=>some (.lit (.bool (dl o).isNone),bZ n (H.set id (.loop { l with st:=if (dl o).isNone then .ready else .done,pending:=dl o })))
 | _=>none
theorem SX {id n:Nat} {o:Out} {env:List V} {H:Hp}:bdK id n o ⟨env,H⟩=bdB id n o H (H[id]?):=by
 unfold bdK bdB
 rfl
section
variable {id n:Nat} {H:Hp} {st:LoopState} {pe:Option Code} {f:FuncId} {ts:List V} {ps:List Tmp} {a b:Code}
theorem MM:bdB id n .norm H (some (.loop ⟨st,pe,f,ts,ps,a,b⟩))=some (.lit (.bool true),bZ n (H.set id (.loop ⟨.ready,none,f,ts,ps,a,b⟩))):=rfl
theorem UF:bdB id n .ret H (some (.loop ⟨st,pe,f,ts,ps,a,b⟩))=some (.lit (.bool false),bZ n (H.set id (.loop ⟨.done,some .ret,f,ts,ps,a,b⟩))):=rfl
theorem LV {i:Nat}:bdB id n (.exit i) H (some (.loop ⟨st,pe,f,ts,ps,a,b⟩))=some (.lit (.bool false),bZ n (H.set id (.loop ⟨.done,some (.exit i),f,ts,ps,a,b⟩))):=rfl
theorem Nq {i:Nat}:bdB id n (.goto i) H (some (.loop ⟨st,pe,f,ts,ps,a,b⟩))=some (.lit (.bool false),bZ n (H.set id (.loop ⟨.done,some (.goto i),f,ts,ps,a,b⟩))):=rfl
def rfB (K:Out→St→Res) (env:List V) (H:Hp):Option B→Res
 | some (.loop l)=>if l.st = .busy then none else
  match l.pending with
  | none=>K .norm ⟨env,H⟩
  | some .ret=>K .ret ⟨env,H⟩
  | some (.exit id)=>K (.exit id) ⟨env,H⟩
  | some (.goto id)=>K (.goto id) ⟨env,H⟩
  | some _=>none
 | _=>none
theorem TS {K:Out→St→Res} {env:List V} {v:V} {h:Hp}:rfK K env n (v,h)=rfB K env (bZ n h) (h[n]?):=by
 unfold rfK rfB
 rfl
theorem OX {K:Out→St→Res} {env:List V}:rfB K env H (some (.loop ⟨.ready,none,f,ts,ps,a,b⟩))=K .norm ⟨env,H⟩:=rfl
theorem Ju {K:Out→St→Res} {env:List V}:rfB K env H (some (.loop ⟨.done,none,f,ts,ps,a,b⟩))=K .norm ⟨env,H⟩:=rfl
theorem Tl {K:Out→St→Res} {env:List V}:rfB K env H (some (.loop ⟨.done,some .ret,f,ts,ps,a,b⟩))=K .ret ⟨env,H⟩:=rfl
theorem N6 {K:Out→St→Res} {env:List V} {i:Nat}:rfB K env H (some (.loop ⟨.done,some (.exit i),f,ts,ps,a,b⟩))=K (.exit i) ⟨env,H⟩:=rfl
theorem My {K:Out→St→Res} {env:List V} {i:Nat}:rfB K env H (some (.loop ⟨.done,some (.goto i),f,ts,ps,a,b⟩))=K (.goto i) ⟨env,H⟩:=rfl
end
def rgC (cx:Cx) (ps:List Tmp) (a b:Code) (K:Out→St→Res) (env:List V) (H:Hp):V→Res
 | .fn (.func g) [] caps=>bq (cx.call cx.wl g (.yld H.length::caps) (H++[.loop ⟨.ready,none,cx.fid,env,ps,a,b⟩])) (rfK K env H.length)
 | _=>none
theorem Yf {cx:Cx} {ps:List Tmp} {a b:Code} {K:Out→St→Res} {env:List V} {H:Hp} {g:FuncId} {caps:List V} :
  rgC cx ps a b K env H (.fn (.func g) [] caps)=bq (cx.call cx.wl g (.yld H.length::caps) (H++[.loop ⟨.ready,none,cx.fid,env,ps,a,b⟩])) (rfK K env H.length):=rfl
theorem M7 {cx:Cx} {f:Operand} {ps:Array Tmp} {a b:Code} {K:Out→St→Res} {env:List V} {H:Hp} (hr:cx.round=false) :
  a7 cx (.rangeFunc f ps a b) none K ⟨env,H⟩=sif (Nat.ble cx.wl H.length) (bq (evO env f) (rgC cx ps.toList a b K env H)) none:=by
 simp only [a7,hr,Bool.false_or]
 cases hw:Nat.ble cx.wl H.length with
 | false=>rfl
 | true=>
  simp only [Bool.not_true,Bool.false_eq_true,if_false,mw]
  cases hf:evO env f with
  | none=>rfl
  | some v=>
   simp only [bq,Option.bind_some]
   cases v with
   | fn f first caps=>
    cases f with
    | func g=>
     cases first with
     | nil=>
      simp only [rgC]
      unfold bq
      congr 1
     | cons=>rfl
    | _=>rfl
   | _=>rfl
end rounds
end Go.Ab
namespace Go.Ab
def oM:List V→List (Nat×Nat×V)→Option (List V)
 | cells,[]=>some cells
 | cells,(off,size,v)::rest=>
  match v.cells with
  | some vs=>if vs.length=size∧off+vs.length≤cells.length then oM (spl cells off vs) rest else none
  | none=>none
theorem MQ {cells:List V}:oM cells []=some cells:=rfl
theorem H9 {cells:List V} {off size:Nat} {v:V} {rest:List (Nat×Nat×V)}:oM cells ((off,size,v)::rest)=bq v.cells fun vs=>sif (decide (vs.length=size∧off+vs.length≤cells.length)) (oM (spl cells off vs) rest) none:=by
 simp only [oM]
 cases v.cells with
 | none=>rfl
 | some vs=>
  simp only [bq,Option.bind_some]
  by_cases h:vs.length=size∧off+vs.length≤cells.length
  ·rw [if_pos h,decide_eq_true h];rfl
  ·rw [if_neg h,decide_eq_false h];rfl
theorem Is {wl size:Nat} {rs:List (List V)} {H:Hp}:eY wl size [] rs H=some (rs,H):=rfl
theorem GX {wl size i:Nat} {v:V} {rest:List (Nat×V)} {rs:List (List V)} {H:Hp}:eY wl size ((i,v)::rest) rs H=bq v.cells fun vs=>bq (fzL wl true vs H) fun p=>sif (decide (i<rs.length∧p.1.length=size)) (eY wl size rest (rs.set i p.1) p.2) none:=by
 simp only [eY]
 cases v.cells with
 | none=>rfl
 | some vs=>
  simp only [bq,Option.bind_some]
  cases fzL wl true vs H with
  | none=>rfl
  | some p=>
   simp only [Option.bind_some]
   by_cases h:i<rs.length∧p.1.length=size
   ·rw [if_pos h,decide_eq_true h];rfl
   ·rw [if_neg h,decide_eq_false h];rfl
theorem JK {x y:Int}:oB (.int .i64 x) (.int .i64 y)=(x==y):=rfl
theorem G7 {k:Value} {v:V}:gq k v []=[(k,v)]:=rfl
theorem Dx {k:Value} {v:V} {e:Value×V} {es:List (Value×V)}:gq k v (e::es)=sif (oB k e.1) ((k,v)::es) (e::gq k v es):=by
 simp only [gq]
 cases oB k e.1 <;> rfl
def LB (kk:IntKind):List (Value×V)→Bool
 | []=>true
 | e::es=>gg kk e.1&&LB kk es
theorem NN {kk:IntKind}:LB kk []=true:=rfl
theorem Ki {kk:IntKind} {e:Value×V} {es:List (Value×V)}:LB kk (e::es)=(gg kk e.1&&LB kk es):=rfl
theorem Em {x:Int}:gg .i64 (.int .i64 x)=true:=rfl
def inB (wl:Nat) (kk:IntKind) (id:Nat) (n:Int) (v:V) (H:Hp):Option B→Option Hp
 | some (.map es)=>if es.all (fun e=>gg kk e.1)&&true&&Nat.ble wl id then some (H.set id (.map (gq (.int kk n) v es))) else none
 | _=>none
theorem UP {kk:IntKind}:∀ {es:List (Value×V)},es.all (fun e=>gg kk e.1)=LB kk es
 | []=>rfl
 | e::es=>by simp [LB,UP (es:=es)]
theorem Uw {wl id:Nat} {kk:IntKind} {n:Int} {v:V} {H:Hp} {es:List (Value×V)}:inB wl kk id n v H (some (.map es))=sif (LB kk es&&Nat.ble wl id) (some (H.set id (.map (gq (.int kk n) v es)))) none:=by
 simp only [inB,UP,Bool.and_true]
 cases LB kk es&&Nat.ble wl id <;> rfl
def lkB (kk:IntKind) (z:V) (ok:Bool) (n:Int):Option B→Option V
 | some (.map es)=>if es.all (fun e=>gg kk e.1)&&true then some (bif ok then .tup [(gm (.int kk n) z es).1,.lit (.bool (gm (.int kk n) z es).2)] else (gm (.int kk n) z es).1) else none
 | _=>none
def lkO (kk:IntKind) (z:V) (ok:Bool) (n:Int):List (Value×V)→Option V
 | []=>some (sif ok (.tup [z,.lit (.bool false)]) z)
 | e::es=>bif oB (.int kk n) e.1 then some (sif ok (.tup [e.2,.lit (.bool true)]) e.2) else lkO kk z ok n es
theorem Q6 {kk:IntKind} {z:V} {ok:Bool} {n:Int}:∀ {es:List (Value×V)},some (bif ok then V.tup [(gm (.int kk n) z es).1,.lit (.bool (gm (.int kk n) z es).2)] else (gm (.int kk n) z es).1)=lkO kk z ok n es
 | []=>by cases ok <;> rfl
 | e::es=>by
  simp only [gm,lkO]
  cases oB (.int kk n) e.1 with
  | true=>cases ok <;> rfl
  | false=>exact Q6 (es:=es)
theorem UI {kk:IntKind} {z:V} {ok:Bool} {n:Int} {es:List (Value×V)}:lkB kk z ok n (some (.map es))=sif (LB kk es) (lkO kk z ok n es) none:=by
 simp only [lkB,UP,Bool.and_true,Q6]
 cases LB kk es <;> rfl
theorem Vj {kk:IntKind} {z:V} {ok:Bool} {n:Int}:lkO kk z ok n []=some (sif ok (.tup [z,.lit (.bool false)]) z):=rfl
theorem NK {kk:IntKind} {z:V} {ok:Bool} {n:Int} {e:Value×V} {es:List (Value×V)}:lkO kk z ok n (e::es)=bif oB (.int kk n) e.1 then some (sif ok (.tup [e.2,.lit (.bool true)]) e.2) else lkO kk z ok n es:=rfl
def agO:Int→List V→Int→Option V
 | _,[],_=>none
 | i,c::cs,n=>bif n==i then some c else agO (i+1) cs n
theorem Uf {i n:Int}:agO i [] n=none:=rfl
theorem Mv {i n:Int} {c:V} {cs:List V}:agO i (c::cs) n=bif n==i then some c else agO (i+1) cs n:=rfl
theorem Iv {p:Bool} {k:IntKind} {a b:Int}:aQ (.lit (.bool p)) (.lit (.int k a)) (.lit (.int k b))=some (.lit (.int k (bif p then a else b))):=by cases p <;> rfl
theorem Hh {p a b:Bool}:aQ (.lit (.bool p)) (.lit (.bool a)) (.lit (.bool b))=some (.lit (.bool (bif p then a else b))):=by cases p <;> rfl
theorem Pb {k:IntKind} {a b:Int}:ij true [.lit (.int k a),.lit (.int k b)]=some (.lit (.int k (bif decide (a<b) then b else a))):=by
 simp only [ij,if_true,cond_true,gt_iff_lt]
 by_cases h:a<b <;> simp [h]
theorem Og {k:IntKind} {a b:Int}:ij false [.lit (.int k a),.lit (.int k b)]=some (.lit (.int k (bif decide (b<a) then b else a))):=by
 simp only [ij,if_true,cond_false]
 by_cases h:b<a <;> simp [h]
theorem GM {k:IntKind} {a:Int}:[[V.lit (.int k a)]]=[a].map (aI k):=rfl
theorem Di {k:IntKind} {a b:Int}:[[V.lit (.int k a)],[V.lit (.int k b)]]=[a,b].map (aI k):=rfl
theorem C4 {a b c:Int}:[[V.lit (.int .i64 a),.lit (.int .i64 b),.lit (.int .i64 c)]]=[(a,b,c)].map aM:=rfl
def Dm (k:IntKind) (a b:Int):Int:=k.wrap (a*2 ^ (min b.toNat k.bits))
def QG (k:IntKind) (a b:Int):Int:=a.fdiv (2 ^ (min b.toNat k.bits))
def uA (k:IntKind) (a b:Int):Int:=k.wrap (BitVec.ofInt k.bits a &&& BitVec.ofInt k.bits b).toNat
def orI (k:IntKind) (a b:Int):Int:=k.wrap (BitVec.ofInt k.bits a ||| BitVec.ofInt k.bits b).toNat
section
variable {P:Program} {t:TypeId} {k k':IntKind} {a b:Int}
theorem Nr:av P .shl t (.lit (.int k a)) (.lit (.int k' b))=bif decide (0≤b) then some (.lit (.int k (Dm k a b))) else none:=by
 by_cases h:b<0
 ·have:¬ 0≤b:=by omega
  simp [av,dR,h,this]
 ·have h2:0≤b:=by omega
  simp [av,dR,h,h2,Dm]
theorem N9:av P .shr t (.lit (.int k a)) (.lit (.int k' b))=bif decide (0≤b) then some (.lit (.int k (QG k a b))) else none:=by
 by_cases h:b<0
 ·have:¬ 0≤b:=by omega
  simp [av,dR,h,this]
 ·have h2:0≤b:=by omega
  simp [av,dR,h,h2,QG]
theorem Pr:av P .and t (.lit (.int k a)) (.lit (.int k b))=some (.lit (.int k (uA k a b))):=by simp [av,dR,uA]
theorem Tm:av P .or t (.lit (.int k a)) (.lit (.int k b))=some (.lit (.int k (orI k a b))):=by simp [av,dR,orI]
end
end Go.Ab
namespace Go.Ab
theorem agb {g len e g':Nat} {rs:List (List V)} {lv:Bool}:roB g len (some (.rows e rs g' lv))=sif (g==g') (ck (decide (len≤rs.length)) (some (rs.take len))) none:=by
 show (bif g==g'&&decide (len≤rs.length) then _ else _)=_
 generalize (g==g')=a
 generalize decide (len≤rs.length)=b
 cases a <;> cases b <;> rfl
theorem Mq {f:Fn} {a b:List V} {H:Hp}:aO (.fn f a b) H=some (.ptr H.length 0 0 0,H++[.box [.fn f a b]]):=by simp [aO,V.cells,V.one,bv]
theorem Ih {i g n:Nat} {H:Hp}:aO (.own i g n) H=some (.ptr H.length 0 0 0,H++[.box [.own i g n]]):=by simp [aO,V.cells,V.one,bv]
theorem Jn {i g r o:Nat} {H:Hp}:aO (.ptr i g r o) H=some (.ptr H.length 0 0 0,H++[.box [.ptr i g r o]]):=by simp [aO,V.cells,V.one,bv]
theorem SR {k:IntKind} {l:List Int}:bT 1 (l.map (aI k))=true:=dN fun _=>rfl
theorem Pi {l:List Bool}:bT 1 (l.map lX)=true:=dN fun _=>rfl
theorem NO {l:List (Int×List Int)}:bT 2 (l.map ao)=true:=dN fun _=>rfl
theorem Ls {l:List (Int×Int×Int)}:bT 3 (l.map aM)=true:=dN fun _=>rfl
theorem Ha {n:Nat}:bT n []=true:=rfl
theorem Sx {wl e sz bytes id g:Nat} {xs:List (List V)} {H:Hp} {lv:Bool} :
  apB wl e sz bytes id g 0 xs H (some (.rows 0 [] g lv))=sif (Nat.ble wl id) (bif room xs.length bytes then some (.own id (g+1) xs.length,H.set id (.rows sz xs (g+1) lv)) else none) none:=by
 cases hb:Nat.ble wl id <;> cases lv <;> simp [apB,hb,sif,room]
theorem Jw {α:Type} {wl e sz bytes id g len s:Nat} {l m:List α} {enc:α→List V} {H:Hp} :
  apB wl e sz bytes id g len (m.map enc) H (some (.rows s (l.map enc) g true)) =
   sif (Nat.ble wl id) (ck (decide (len≤l.length)) (ck (s==sz||s==0) (bif room (l.take len++m).length bytes then some (.own id (g+1) (l.take len++m).length,H.set id (.rows sz ((l.take len++m).map enc) (g+1) true)) else none))) none:=by
 by_cases h:len≤l.length
 ·have h1:(l.take len++m).length=len+m.length:=by simp [h]
  rw [decide_eq_true h,h1]
  simp only [apB,cg,List.length_map,beq_self_eq_true,Bool.and_true,Bool.true_or,decide_eq_true h,room,List.map_append,List.map_take]
  cases Nat.ble wl id <;> cases (s==sz||s==0) <;> simp [sif,ck]
 ·rw [decide_eq_false h,pE]
  simp [apB,decide_eq_false h,sif]
theorem Lw {α:Type} {l:List α} {enc:α→List V} {n:Nat}:(l.map enc).take n=(l.take n).map enc:=by rw [List.map_take]
theorem Hc {l:List (Int×Int×Int)} {i:Nat} {a b c:Int}:(l.map aM).set i [.lit (.int .i64 a),.lit (.int .i64 b),.lit (.int .i64 c)]=(l.set i (a,b,c)).map aM:=by rw [List.map_set];rfl
theorem J8 {l:List (Int×List Int)} {i:Nat} {a:Int} {b:List Int}:(l.map ao).set i [.lit (.int .i64 a),.ro (b.map (aI .i64))]=(l.set i (a,b)).map ao:=by rw [List.map_set];rfl
theorem HN {l:List (Int×List Int)} {i:Nat} {a:Int}:(l.map ao).set i [.lit (.int .i64 a),.ro []]=(l.set i (a,[])).map ao:=by rw [List.map_set];rfl
theorem DJ {a:Int} {b:List Int}:[[V.lit (.int .i64 a),.ro (b.map (aI .i64))]]=[(a,b)].map ao:=rfl
theorem C1 {a:Int}:[[V.lit (.int .i64 a),.ro []]]=[(a,[])].map ao:=rfl
def slB (g len id:Nat) (n:Int) (H:Hp):Option B→Option (V×Hp)
 | some (.rows _ _ g' _)=>if 0≤n then (if n.toNat≤len∧g=g' then some (.own id g n.toNat,H) else none) else none
 | _=>none
theorem OU {g len id e g':Nat} {n:Int} {H:Hp} {rs:List (List V)} {lv:Bool}:slB g len id n H (some (.rows e rs g' lv))=sif (g==g') (ck (decide (0≤n∧n.toNat≤len)) (some (.own id g n.toNat,H))) none:=by
 unfold slB sif ck
 by_cases h0:0≤n
 ·by_cases h1:n.toNat≤len
  ·by_cases h2:g=g'
   ·simp [h0,h1,h2]
   ·simp [h0,h1,h2,beq_false_of_ne h2]
  ·simp [h0,h1]
 ·simp [h0]
theorem wS {P : Program} {wl : Nat} {c : Bool} {t e : TypeId} {id g len : Nat} {k : IntKind} {n : Int} {H : Hp} (he : iK P t = some e) (hz : (aR P e != 0) = true) :
    dp P wl c t (.own id g len) none (some (.lit (.int k n))) none H = slB g len id n H (H[id]?) := by
  have hz' : aR P e ≠ 0 := by simpa using hz
  unfold dp slB
  simp only [he, bnd]
  by_cases h0 : 0 ≤ n
  · simp only [h0, if_true, Option.bind_some]
    generalize H[id]? = b
    cases b with
    | none => rfl
    | some b => cases b <;> simp [hz']
  · simp only [h0, if_false, Option.bind_none]
    generalize H[id]? = b
    cases b with
    | none => rfl
    | some b => cases b <;> rfl
end Go.Ab
namespace Go.Ab
end Go.Ab
namespace Go.Ab
theorem U3 {env:List V} {t:Nat}:evO env (.tmp t)=env[t]? := rfl
theorem M2 {env:List V} {f:Nat}:evO env (.func f)=some (.fn (.func f) [] []):=rfl
theorem xr {env vs:List V}:dJ env [] vs=env:=by cases vs <;> rfl
theorem uR {env vs:List V} {t:Tmp} {ts:List Tmp} {v:V}:dJ env (t::ts) (v::vs)=dJ (env.set t v) ts vs:=rfl
end Go.Ab
namespace Go.Ab
theorem SD {n:Nat}:V.kill n uu=uu:=rfl
end Go.Ab
namespace Go.Ab
def aL {α:Type} (bytes:Nat) (l:List α):Option (List α):=ck (Nat.ble (l.length*bytes) 70368744177664) (some l)
section clone
variable {P:Program} {t e:TypeId} {α:Type} {enc:α→List V} {sz bytes:Nat}
theorem gO (he:iK P t=some e) (hz:∃ z,eG P e=some z∧ba (bE z)=true∧((bE z).length==sz)=true) (hs:aR P e=sz) (hg:El P e=true) (hb:P.bytesOf e=bytes) (hl:∀ x,(enc x).length=sz) (l:List α) :
  gl P t [.ro (l.map enc)] []=ob (aL bytes l) fun r=>some (.own 1 1 r.length,[.rows 0 [] 0 true,.rows sz (r.map enc) 1 true]):=by
 obtain ⟨z,z1,z2,z3⟩:=hz
 unfold gl
 simp only [he,Option.bind_some,z1,A9,hs,hg,z2,z3,hb,dN hl,Bool.and_true,Bool.true_and,List.length_map,List.length_nil,List.nil_append]
 unfold aL
 cases Nat.ble (l.length*bytes) 70368744177664 <;> rfl
theorem fF (hl:∀ x,bg (enc x)=true) (l:List α) (g:Nat) :
  rt none (ob (aL bytes l) fun r=>some (.own 1 1 r.length,[.rows 0 [] 0 true,.rows g (r.map enc) 1 true]))=ob (aL bytes l) fun r=>some (.ro (r.map enc),[]):=by
 rw [T2]
 congr 1
 funext r
 rw [DW]
 exact OT (enc:=enc) (l:=r) (e:=g) (lv:=true) rfl rfl hl
theorem fK (hl:∀ x,bg (enc x)=true) (l:List α) (g:Nat) :
  rt (some fun _=>true) (ob (aL bytes l) fun r=>some (.own 1 1 r.length,[.rows 0 [] 0 true,.rows g (r.map enc) 1 true]))=ob (aL bytes l) fun r=>some (.own 0 0 r.length,[.rows g (r.map enc) 0 true]):=by
 rw [T2]
 congr 1
 funext r
 have h1:cH (r.map enc)=true:=by
  rw [cH,List.all_eq_true]
  intro y hy
  obtain ⟨x,_,rfl⟩:=List.mem_map.1 hy
  exact hl x
 simp [DW,lb,HI,po,h1]
 rw [List.take_of_length_le (by simp)]
end clone
end Go.Ab
namespace Go.Ab
theorem LH {n0 i g r o:Nat} {k:Res}:stO n0 (.ptr i g r o) k=sif (decide (i<n0)) k none:=by
 unfold stO stB HX sif
 simp only [Bool.cond_eq_ite]
theorem LM {n0 i g l:Nat} {k:Res}:stO n0 (.own i g l) k=sif (decide (i<n0)) k none:=by
 unfold stO stB HX sif
 simp only [Bool.cond_eq_ite]
theorem M5 {n0 i:Nat} {k:Res}:stO n0 (.map i) k=sif (decide (i<n0)) k none:=by
 unfold stO stB HX sif
 simp only [Bool.cond_eq_ite]
theorem Sh {n0:Nat} {r:List (List V)} {k:Res}:stO n0 (.ro r) k=k:=rfl
theorem Sk {n0:Nat} {r:List V} {k:Res}:stO n0 (.rp r) k=k:=rfl
theorem Nw {n0:Nat} {v:Value} {k:Res}:stO n0 (.lit v) k=k:=rfl
theorem Rz {n0:Nat} {f:Fn} {a b:List V} {k:Res}:stO n0 (.fn f a b) k=k:=rfl
theorem Ni {n0:Nat} {k:Res}:stO n0 .nil k=k:=rfl
def r4 (n:Nat):List (Value×V)→List (Value×V)
 | []=>[]
 | e::es=>(e.1,e.2.shift n)::r4 n es
def EB (n:Nat):List (Value×V)→List (Value×V)
 | []=>[]
 | e::es=>(e.1,e.2.kill n)::EB n es
theorem Gl {n:Nat}:∀ {es:List (Value×V)},es.map (fun e=>(e.1,e.2.kill n))=EB n es
 | []=>rfl
 | e::es=>by simp [EB,Gl (es:=es)]
theorem Cb {n:Nat}:∀ {es:List (Value×V)},es.map (fun e=>(e.1,e.2.shift n))=r4 n es
 | []=>rfl
 | e::es=>by simp [r4,Cb (es:=es)]
theorem HR {n:Nat} {es:List (Value×V)}:B.kill n (.map es) = .map (EB n es):=by
 rw [← Gl]
 rfl
theorem D1 {n:Nat} {es:List (Value×V)}:B.shift n (.map es) = .map (r4 n es):=by
 rw [← Cb]
 rfl
theorem JN {n:Nat}:EB n []=[]:=rfl
theorem He {n:Nat} {e:Value×V} {es:List (Value×V)}:EB n (e::es)=(e.1,e.2.kill n)::EB n es:=rfl
theorem Hg {n:Nat}:r4 n []=[]:=rfl
theorem DP {n:Nat} {e:Value×V} {es:List (Value×V)}:r4 n (e::es)=(e.1,e.2.shift n)::r4 n es:=rfl
end Go.Ab
namespace Go.Ab
theorem Iy {H:Hp}:aO .nil H=some (.ptr (H++[B.rows 0 [] 0 true]).length 0 0 0,(H++[B.rows 0 [] 0 true])++[.box [.own H.length 0 0]]):=by simp [aO,V.cells,V.one,bv]
theorem IG {i:Nat} {H:Hp}:aO (.yld i) H=some (.ptr H.length 0 0 0,H++[.box [.yld i]]):=by simp [aO,V.cells,V.one,bv]
theorem IN {i:Nat} {H:Hp}:aO (.map i) H=some (.ptr H.length 0 0 0,H++[.box [.map i]]):=by simp [aO,V.cells,V.one,bv]
theorem NC {i:Nat} {l:List V} {H:Hp}:bv (.yld i::l) H=(.yld i::(bv l H).1,(bv l H).2):=rfl
theorem Pq {i:Nat} {l:List V} {H:Hp}:bv (.map i::l) H=(.map i::(bv l H).1,(bv l H).2):=rfl
theorem Iz {i:Nat}:V.cells (.yld i)=some [.yld i]:=rfl
theorem IF {i:Nat}:V.cells (.map i)=some [.map i]:=rfl
end Go.Ab
namespace Go.Ab
open Go
def QU:List (Nat×V)→Bool
 | []=>true
 | p::l=>p.2.pure&&QU l
theorem MD:QU []=true:=rfl
theorem Jq {i:Nat} {v:V} {l:List (Nat×V)}:QU ((i,v)::l)=(v.pure&&QU l):=rfl
theorem TZ {l:List (Nat×V)}:bg (l.map (·.2))=QU l:=by
 induction l with
 | nil=>rfl
 | cons p l ih=>simp only [List.map_cons,bg,QU,ih]
theorem pm {P:Program} {wl:Nat} {t:TypeId} {len:Nat} {l:List (Nat×V)} {H:Hp} :
  cU P wl t len l H=bq (ck (QU l) (some ())) fun _=>az P wl t len l H:=by
 unfold cU
 rw [TZ]
 cases QU l <;> simp [bq,ck]
def ldL (P:Program) (t:TypeId) (off row:Nat):Nat→List (List V)→Option V
 | _,[]=>none
 | i,r::rs=>bif row==i then aT P t (r.drop off) else ldL P t off row (i+1) rs
theorem RP {P:Program} {t:TypeId} {off row i:Nat}:ldL P t off row i []=none:=rfl
theorem Ps {P:Program} {t:TypeId} {off row i:Nat} {r:List V} {rs:List (List V)}:ldL P t off row i (r::rs)=bif row==i then aT P t (r.drop off) else ldL P t off row (i+1) rs:=rfl
theorem QQ {P:Program} {t:TypeId} {off row:Nat}:∀ {rs:List (List V)} {i:Nat},i≤row→ldL P t off row i rs=(rs[row - i]?).bind fun r=>aT P t (r.drop off)
 | [],i,_=>by simp [ldL]
 | r::rs,i,h=>by
  rw [ldL]
  by_cases e:row=i
  ·subst e;simp
  ·have h1:(row==i)=false:=by simp [e]
   have h2:row - i=(row - (i+1))+1:=by omega
   rw [h1,cond_false,QQ (by omega),h2,List.getElem?_cons_succ]
theorem TL {P:Program} {t:TypeId} {g row off e g':Nat} {r:List V} {rs:List (List V)} {lv:Bool} :
  ldB P t g row off (some (.rows e (r::rs) g' lv))=sif (g==g') (ldL P t off row 0 (r::rs)) none:=by
 rw [QQ (Nat.zero_le _),Nat.sub_zero]
 rfl
def KL (x:Int×Int×Int×Int):List V:=[.lit (.int .i64 x.1),.lit (.int .i64 x.2.1),.lit (.int .i64 x.2.2.1),.lit (.int .i64 x.2.2.2)]
def lu (x:Int×Int×Int×Int×Int×Int×Int):List V:=
 [.lit (.int .i64 x.1),.lit (.int .i64 x.2.1),.lit (.int .i64 x.2.2.1),.lit (.int .u64 x.2.2.2.1),.lit (.int .u64 x.2.2.2.2.1),.lit (.int .u64 x.2.2.2.2.2.1),.lit (.int .i64 x.2.2.2.2.2.2)]
def cO (x:List Int):List V:=[.ro (x.map (aI .i64))]
theorem m6 (x:Int×Int×Int×Int×Int×Int×Int):bg (lu x)=true:=rfl
theorem oz (x:List Int):bg (cO x)=true:=by
 have:=uo (k := .i64) (l:=x)
 simp [cO,bg,V.pure,this]
section
variable {lf:List (Int×Int×Int×Int×Int×Int×Int)} {ll:List (List Int)} {n i:Nat} {a b c d e f g:Int} {x:List Int}
theorem DS:cH (lf.map lu)=true:=ed m6
theorem Hv:cH (ll.map cO)=true:=ed oz
theorem DT:kV n (lf.map lu)=lf.map lu:=fA m6
theorem GZ:kV n (ll.map cO)=ll.map cO:=fA oz
theorem BI:gW n (lf.map lu)=lf.map lu:=eD m6
theorem Ee:gW n (ll.map cO)=ll.map cO:=eD oz
theorem KK:bT 7 (lf.map lu)=true:=dN fun _=>rfl
theorem ND:bT 1 (ll.map cO)=true:=dN fun _=>rfl
theorem G8:(lf.map lu).set i [.lit (.int .i64 a),.lit (.int .i64 b),.lit (.int .i64 c),.lit (.int .u64 d),.lit (.int .u64 e),.lit (.int .u64 f),.lit (.int .i64 g)]=(lf.set i (a,b,c,d,e,f,g)).map lu:=by rw [List.map_set];rfl
theorem A8:[[V.lit (.int .i64 a),.lit (.int .i64 b),.lit (.int .i64 c),.lit (.int .u64 d),.lit (.int .u64 e),.lit (.int .u64 f),.lit (.int .i64 g)]]=[(a,b,c,d,e,f,g)].map lu:=rfl
theorem Ka:(ll.map cO).set i [.ro (x.map (aI .i64))]=(ll.set i x).map cO:=by rw [List.map_set];rfl
theorem Hq:(ll.map cO).set i [.ro []]=(ll.set i []).map cO:=by rw [List.map_set];rfl
theorem Eg:[[V.ro (x.map (aI .i64))]]=[x].map cO:=rfl
theorem B3:[[V.ro []]]=[([]:List Int)].map cO:=rfl
theorem GG:List.replicate n [V.lit (.int .i64 a),.lit (.int .i64 b),.lit (.int .i64 c),.lit (.int .u64 d),.lit (.int .u64 e),.lit (.int .u64 f),.lit (.int .i64 g)]=(List.replicate n (a,b,c,d,e,f,g)).map lu:=by rw [List.map_replicate];rfl
end
theorem Lc {k:IntKind} {x y:Int}:oB (.int k x) (.int k y)=(x==y):=by
 cases k <;> rfl
theorem EH {k:IntKind} {x:Int}:gg k (.int k x)=true:=by
 cases k <;> rfl
theorem JR {cx:Cx} {c o:Bool} {v:Value} {args:List V} {H:Hp}:cN cx c o (.lit v) args H=none:=rfl
end Go.Ab
namespace Go.Ab
section steps
variable {cx:Cx} {K:Out→St→Res} {s:St} {r:Res} {id j n0:Nat} {ops:Array Oper} {a a':List Nat×List Nat} {env:List V} {H:Hp} {o:Oper} {i:Nat} {L:List Nat}
end steps
def apA:List Nat→List Nat→Bool
 | [],_=>true
 | i::l,m => !(inN i m)&&apA l m
where inN:Nat→List Nat→Bool
 | _,[]=>false
 | i,k::m=>i==k||inN i m
theorem PL {i:Nat}:∀ {m:List Nat},apA.inN i m=m.contains i
 | []=>rfl
 | k::m=>by
  rw [apA.inN,PL,List.contains_cons]
theorem QO:∀ {l m:List Nat},rQ (l,m)=apA l m
 | [],m=>rfl
 | i::l,m=>by
  have:=QO (l:=l) (m:=m)
  unfold rQ at this ⊢
  simp only [List.all_cons] at this ⊢
  rw [this,apA,PL]
theorem ZA {l m:List Nat} {k:Res}:apt (l,m) k=sif (apA l m) k none:=by
 unfold apt sif
 rw [QO,Bool.cond_eq_ite]
theorem UD {m:List Nat}:apA [] m=true:=rfl
theorem MT {i:Nat} {l m:List Nat}:apA (i::l) m=(!(apA.inN i m)&&apA l m):=rfl
theorem Uk {i:Nat}:apA.inN i []=false:=rfl
theorem Po {i k:Nat} {m:List Nat}:apA.inN i (k::m)=(i==k||apA.inN i m):=rfl
theorem RX {i g n:Nat} {l m:List Nat}:lgR (.own i g n) (l,m)=(i::l,m):=rfl
theorem T0 {i g x y:Nat} {l m:List Nat}:lgR (.ptr i g x y) (l,m)=(i::l,m):=rfl
theorem TJ {i:Nat} {l m:List Nat}:lgR (.map i) (l,m)=(i::l,m):=rfl
theorem Y7 {rs:List (List V)} {l m:List Nat}:lgR (.ro rs) (l,m)=(l,m):=rfl
theorem WF {rs:List V} {l m:List Nat}:lgR (.rp rs) (l,m)=(l,m):=rfl
theorem SS {l m:List Nat}:lgR .nil (l,m)=(l,m):=rfl
theorem Uh {v:Value} {l m:List Nat}:lgR (.lit v) (l,m)=(l,m):=rfl
theorem UM {i g n:Nat} {l m:List Nat}:lgW (.own i g n) (l,m)=(l,i::m):=rfl
theorem Ua {i g x y:Nat} {l m:List Nat}:lgW (.ptr i g x y) (l,m)=(l,i::m):=rfl
theorem T6 {i:Nat} {l m:List Nat}:lgW (.map i) (l,m)=(l,i::m):=rfl
theorem Sa {α:Type} {x:α}:[x].length=1:=rfl
end Go.Ab
set_option maxRecDepth 100000
namespace Go.Ab
def afd:=PLift.up (And.intro (And.intro (And.intro (And.intro (@Rm) (@T7)) (And.intro (@Ug) (And.intro (@SO) (@Tw)))) (And.intro (And.intro (@Tq) (And.intro (@adq) (@af6))) (And.intro (@afS) (And.intro (@cg) (@pE))))) (And.intro (And.intro (And.intro (@ae) (And.intro (@Ri) (@Ty))) (And.intro (@Ra) (And.intro (@mw) (@lW)))) (And.intro (And.intro (@Rs) (And.intro (@Iv) (@Hh))) (And.intro (@Sx) (And.intro (@cond_true.{1}) (@cond_false.{1}))))))
theorem syP:type_of% afd.down:=afd.down
def afs:=PLift.up (And.intro (And.intro (And.intro (And.intro (And.intro (And.intro (And.intro (And.intro (@KE) (@XU)) (And.intro (@Yq) (@XY))) (And.intro (And.intro (@Xp) (@Si)) (And.intro (@X0) (And.intro (@R8) (@Z9))))) (And.intro (And.intro (And.intro (@Ui) (@Wc)) (And.intro (@ZL) (And.intro (@WQ) (@Te)))) (And.intro (And.intro (@ad3) (@ad8)) (And.intro (@Wl) (And.intro (@Tz) (@YH)))))) (And.intro (And.intro (And.intro (And.intro (@adz) (@abv)) (And.intro (@R6) (@acC))) (And.intro (And.intro (@VJ) (@adA)) (And.intro (@ab1) (And.intro (@abV) (@RS))))) (And.intro (And.intro (And.intro (@Us) (@Uv)) (And.intro (@abT) (And.intro (@abu) (@ach)))) (And.intro (And.intro (@TM) (@DW)) (And.intro (@UO) (And.intro (@T2) (@acK))))))) (And.intro (And.intro (And.intro (And.intro (And.intro (@Kx) (@Pw)) (And.intro (@Vq) (@Uz))) (And.intro (And.intro (@SL) (@R4)) (And.intro (@SG) (And.intro (@Xf) (@S7))))) (And.intro (And.intro (And.intro (@S5) (@RA)) (And.intro (@Wv) (And.intro (@Ud) (@Zd)))) (And.intro (And.intro (@Sz) (@UQ)) (And.intro (@ST) (And.intro (@TI) (@Jj)))))) (And.intro (And.intro (And.intro (And.intro (@Lz) (@MB)) (And.intro (@GJ) (@Mx))) (And.intro (And.intro (@K7) (@Lx)) (And.intro (@Mn) (And.intro (@Pf) (@Q9))))) (And.intro (And.intro (And.intro (@KP) (@RM)) (And.intro (@L8) (And.intro (@M3) (@Mf)))) (And.intro (And.intro (@MC) (@Tk)) (And.intro (@Kb) (And.intro (@RQ) (@Nm)))))))) (And.intro (And.intro (And.intro (And.intro (And.intro (And.intro (@MI) (@MS)) (And.intro (@NJ) (@LR))) (And.intro (And.intro (@af0) (@afG)) (And.intro (@ae2) (And.intro (@Lw) (@Ol))))) (And.intro (And.intro (And.intro (@OU) (@JL)) (And.intro (@G4) (And.intro (@uo) (@GB)))) (And.intro (And.intro (@EQ) (@Ht)) (And.intro (@SM) (And.intro (@J1) (@GD)))))) (And.intro (And.intro (And.intro (And.intro (@HA) (@EK)) (And.intro (@HR) (@D1))) (And.intro (And.intro (@JN) (@He)) (And.intro (@Hg) (And.intro (@DP) (@LH))))) (And.intro (And.intro (And.intro (@LM) (@M5)) (And.intro (@Sh) (And.intro (@Sk) (@Nw)))) (And.intro (And.intro (@Rz) (@Ni)) (And.intro (@DX) (And.intro (@Ip) (@HQ))))))) (And.intro (And.intro (And.intro (And.intro (And.intro (@HJ) (@Hf)) (And.intro (@Dn) (@Kl))) (And.intro (And.intro (@Jx) (@G6)) (And.intro (@GV) (And.intro (@Dy) (@HD))))) (And.intro (And.intro (And.intro (@GW) (@EP)) (And.intro (@Eu) (And.intro (@A0) (@Ar)))) (And.intro (And.intro (@PS) (@Qc)) (And.intro (@Ye) (And.intro (@U3) (@M2)))))) (And.intro (And.intro (And.intro (And.intro (@xr) (@uR)) (And.intro (@T5) (@JU))) (And.intro (And.intro (@SX) (@MM)) (And.intro (@UF) (And.intro (@LV) (@Nq))))) (And.intro (And.intro (And.intro (@TS) (@OX)) (And.intro (@Ju) (And.intro (@Tl) (@N6)))) (And.intro (And.intro (@My) (@MQ)) (And.intro (@H9) (And.intro (@Is) (@GX))))))))) (And.intro (And.intro (And.intro (And.intro (And.intro (And.intro (And.intro (@JK) (@G7)) (And.intro (@Dx) (@NN))) (And.intro (And.intro (@Ki) (@Em)) (And.intro (@Uw) (And.intro (@UI) (@Vj))))) (And.intro (And.intro (And.intro (@NK) (@Uf)) (And.intro (@Mv) (And.intro (@M6) (@MK)))) (And.intro (And.intro (@NP) (@Mz)) (And.intro (@Ma) (And.intro (@N7) (@Pv)))))) (And.intro (And.intro (And.intro (And.intro (@Ow) (@Px)) (And.intro (@OY) (@MZ))) (And.intro (And.intro (@La) (@K8)) (And.intro (@Nr) (And.intro (@N9) (@Pr))))) (And.intro (And.intro (And.intro (@Tm) (@RI)) (And.intro (@Sc) (And.intro (@Th) (@Pb)))) (And.intro (And.intro (@Og) (@Hi)) (And.intro (@HG) (And.intro (@HC) (@NF))))))) (And.intro (And.intro (And.intro (And.intro (And.intro (@JO) (@RO)) (And.intro (@PA) (@HL))) (And.intro (And.intro (@Ou) (@T8)) (And.intro (@Nv) (And.intro (@N5) (@Nc))))) (And.intro (And.intro (And.intro (@Kh) (@GT)) (And.intro (@N2) (And.intro (@Ii) (@Iy)))) (And.intro (And.intro (@IG) (@IN)) (And.intro (@NC) (And.intro (@Pq) (@Iz)))))) (And.intro (And.intro (And.intro (And.intro (@IF) (@Mq)) (And.intro (@Ih) (@Jn))) (And.intro (And.intro (@LS) (@NE)) (And.intro (@Rv) (And.intro (@OD) (@Oi))))) (And.intro (And.intro (And.intro (@UG) (@IA)) (And.intro (@Ku) (And.intro (@HO) (@M8)))) (And.intro (And.intro (@K0) (@Ks)) (And.intro (@Nu) (And.intro (@IH) (@Jg)))))))) (And.intro (And.intro (And.intro (And.intro (And.intro (And.intro (@LZ) (@Vk)) (And.intro (@Rj) (@SD))) (And.intro (And.intro (@Py) (@A9)) (And.intro (@Gu) (And.intro (@Hx) (@agb))))) (And.intro (And.intro (And.intro (@SR) (@NO)) (And.intro (@Ls) (And.intro (@Pi) (@Ha)))) (And.intro (And.intro (@Jw) (@Hc)) (And.intro (@J8) (And.intro (@HN) (@DJ)))))) (And.intro (And.intro (And.intro (And.intro (@C1) (@JM)) (And.intro (@O2) (@K5))) (And.intro (And.intro (@N0) (@NL)) (And.intro (@GM) (And.intro (@Di) (@C4))))) (And.intro (And.intro (And.intro (@List.length_map.{0,0}) (@List.length_cons.{0})) (And.intro (@List.length_nil.{0}) (And.intro (@List.length_replicate.{0}) (@List.length_set.{0})))) (And.intro (And.intro (@List.drop_succ_cons.{0}) (@List.drop_zero.{0})) (And.intro (@List.take_succ_cons.{0}) (And.intro (@List.take_zero.{0}) (@List.set_cons_zero.{0}))))))) (And.intro (And.intro (And.intro (And.intro (And.intro (@List.set_cons_succ.{0}) (@List.nil_append.{0})) (And.intro (@List.cons_append.{0}) (@List.append_nil.{0}))) (And.intro (And.intro (@List.getElem?_cons_zero.{0}) (@List.getElem?_cons_succ.{0})) (And.intro (@List.take_nil.{0}) (And.intro (@Option.map_some.{0,0}) (@Option.map_none.{0,0}))))) (And.intro (And.intro (And.intro (@Option.bind_some.{0,0}) (@Option.bind_none.{0,0})) (And.intro (@Nat.zero_add) (And.intro (@Nat.add_zero) (@Nat.le_refl)))) (And.intro (And.intro (@Bool.and_true) (@Bool.true_and)) (And.intro (@Bool.and_false) (And.intro (@Bool.false_and) (@Bool.or_true)))))) (And.intro (And.intro (And.intro (And.intro (@Bool.or_false) (@Bool.true_or)) (And.intro (@Bool.false_or) (@Bool.not_true))) (And.intro (And.intro (@Bool.not_false) (@beq_self_eq_true.{0})) (And.intro (@bne_self_eq_false.{0}) (And.intro (@decide_true) (@decide_false))))) (And.intro (And.intro (And.intro (@if_true.{1}) (@if_false.{1})) (And.intro (@Bool.false_eq_true) (And.intro (@and_self) (@and_true)))) (And.intro (And.intro (@true_and) (@Option.isSome_some.{0})) (And.intro (@Option.isSome_none.{0}) (And.intro (@Int.cast_ofNat_Int) (@Int.toNat_natCast))))))))))
theorem syA:type_of% afs.down:=afs.down
end Go.Ab
set_option maxRecDepth 100000
namespace Go.Ab
def afm:=PLift.up (And.intro (And.intro (And.intro (And.intro (And.intro (@pm) (@MD)) (And.intro (@Jq) (And.intro (@RP) (@Ps)))) (And.intro (And.intro (@TL) (@DS)) (And.intro (@Hv) (And.intro (@DT) (@GZ))))) (And.intro (And.intro (And.intro (@BI) (@Ee)) (And.intro (@KK) (And.intro (@ND) (@G8)))) (And.intro (And.intro (@A8) (@Ka)) (And.intro (@Hq) (And.intro (@Eg) (@B3)))))) (And.intro (And.intro (And.intro (And.intro (@GG) (@Lc)) (And.intro (@EH) (And.intro (@JR) (@ZA)))) (And.intro (And.intro (@UD) (@MT)) (And.intro (@Uk) (And.intro (@Po) (@RX))))) (And.intro (And.intro (And.intro (@T0) (@TJ)) (And.intro (@Y7) (And.intro (@WF) (@SS)))) (And.intro (And.intro (@Uh) (@UM)) (And.intro (@Ua) (And.intro (@T6) (@Sa)))))))
theorem syQ:type_of% afm.down:=afm.down
end Go.Ab
set_option linter.unusedVariables false
set_option linter.unusedSimpArgs false
namespace Go.Ab
open Go.Proofs Go.RowKit Go.Shelf Go.Sort Go.Lib
def pa:List (List V)→Option (List Int)
 | []=>some []
 | [.lit (.int .i64 n)]::l=>(pa l).map (n :: ·)
 | _=>none
theorem wa:∀ {rs:List (List V)} {zs:List Int},pa rs=some zs→rs=zs.map fun n=>[V.lit (.int .i64 n)]
 | [],zs,h=>by cases h;rfl
 | r::l,zs,h=>by
  unfold pa at h
  split at h
  ·rename_i h2;cases h2
  ·rename_i n l' h2
   cases h2
   cases hl:pa l with
   | none=>rw [hl] at h;cases h
   | some z=>rw [hl] at h;cases h;rw [List.map_cons,← wa hl]
  ·cases h
def Ek (zs:List Int) (a b:Nat):List Int:=zs.take a++zs.drop b++List.replicate (b - a) 0
def Ru (args:List V) (H:Hp):Option (V×Hp):=
 match args with
 | [.own id g len,.lit (.int .i64 a),.lit (.int .i64 b)]=>
  match H[id]? with
  | some (.rows e rs g' true)=>
   if e=1∧g=g'∧len≤rs.length∧0≤a∧a<b∧b.toNat≤len∧len≤9223372036854775807 then
    (pa (rs.take len)).map fun zs=>(.own id g (len - (b.toNat - a.toNat)),H.set id (.rows 1 ((Ek zs a.toNat b.toNat).map (fun n=>[V.lit (.int .i64 n)])++rs.drop len) g true))
   else none
  | _=>none
 | _=>none
section
variable {P:Program} {ρ:Ren}
set_option maxHeartbeats 4000000 in
set_option maxRecDepth 1000000 in
theorem Ue (L:Lays2.n23 P ρ) {b off c i j:Nat} {d:Array Int} {w:World} (hH:Holds (Value.int .i64) w b off d) (hc:d.size≤c) (hm:d.size≤9223372036854775807) (hij:i<j) (hj:j≤d.size) :
  Calls P (ρ.f 23) #[.slice (some ⟨b,off,none⟩) d.size c,.int .i64 i,.int .i64 j] w fun e w'=>e = .returned (.slice (some ⟨b,off,none⟩) (d.size - (j - i)) c) ∧
   w'=putRow (Value.int .i64) (Sort.ahead w 1) b off (Ek d.toList i j).toArray:=by
 have mixed:=L.mixed;have t0:=L.t0;have a0:=L.a0;have z0:=L.z0;have v0:=L.v0;have t3:=L.t3;have a3:=L.a3;have z3:=L.z3;have v3:=L.v3
 have t4:=L.t4;have a4:=L.a4;have z4:=L.z4;have v4:=L.v4;have t22:=L.t22;have a22:=L.a22;have z22:=L.z22;have v22:=L.v22
 obtain ⟨info,hinfo,hz0,hz1,_⟩:=info_parts L.i3
 generalize hns:(d.toList.drop j).map (Value.int .i64)=ns
 have nl:ns.length=d.size - j:=by rw [← hns];simp
 have at_:∀ t,t<d.size - j→ns[t]? = some (Value.int .i64 d[j+t]!):=fun t ht=>by
  rw [← hns,List.getElem?_map,List.getElem?_drop,Array.getElem?_toList,getElem!_pos d (j+t) (by omega),Array.getElem?_eq_getElem (by omega)]
  rfl
 -- where those behind lie
 have src:∃ A:Addr,(if c=j then some (⟨b,off,none⟩:Addr) else some ⟨b,off+j,none⟩)=some A∧Hid (∀ t u,ns[t]? = some u→w.drew.cell? (A.add t)=some u):=by
  rcases Decidable.em (c=j) with e | e
  ·refine ⟨⟨b,off,none⟩,if_pos e,fun t u hu => ?_⟩
   have:=(List.getElem?_eq_some_iff.1 hu).1
   omega
  ·refine ⟨⟨b,off+j,none⟩,if_neg e,fun t u hu => ?_⟩
   have ht:t<d.size - j:=by have:=(List.getElem?_eq_some_iff.1 hu).1;omega
   rw [at_ t ht] at hu
   rw [Addr.add_lit,Nat.add_assoc]
   exact (hH (j+t) (by omega)).1.trans hu
 obtain ⟨A,hA,hsrc⟩:=src
 have one:Hid (ns.length=(d.size - j)*1):=by rw [Nat.mul_one];exact nl
 have cells:Hid (∀ u ∈ ns,u.oneCell'=true):=fun u hu=>by
  rw [← hns] at hu
  obtain ⟨x,_,rfl⟩:=List.mem_map.1 hu
  rfl
 have dest:Hid (∀ t,t<ns.length→(w.drew.cell? ⟨b,off+i*1+t,none⟩).isSome=true∧w.drew.frozen? ⟨b,off+i*1+t,none⟩=false):=fun t ht=>by
  rw [nl] at ht
  rw [Nat.mul_one,Nat.add_assoc]
  obtain ⟨h1,h2⟩:=hH (i+t) (by omega)
  exact ⟨by show (w.cell? _).isSome=true;rw [h1];rfl,h2⟩
 obtain ⟨W,hW⟩:∃ W,W=w.drew.setCells b (off+i*1) ns:=⟨_,rfl⟩
 have hAh:=holds_ahead (Value.int .i64) w 1 b off d hH
 have hP:W=putRow (Value.int .i64) (Sort.ahead w 1) b off (lay d i (d.toList.drop j)):=by
  rw [hW,← hns,Nat.mul_one,← putRow_setCells (Value.int .i64) (Sort.ahead w 1) b off _ d i (by simp;omega),putRow_self (Value.int .i64) (Sort.ahead w 1) b off d hAh]
  rfl
 have hHW:Holds (Value.int .i64) W b off (lay d i (d.toList.drop j)):=by rw [hP];exact holds_putRow (Value.int .i64) _ b off d _ hAh (lay_size _ _ _)
 have wipe:∀ ty,(Builtin.clear_ #[ρ.t 22] ty #[.slice (some ⟨b,off+(i+(d.size - j)),none⟩) (d.size - (i+(d.size - j))) (c - (i+(d.size - j)))]).run P W = .ok (.tuple #[]) (W.setCells b (off+(i+(d.size - j))) (List.replicate (d.size - (i+(d.size - j))) (.int .i64 0))):=fun ty=>by
  refine Lib.run_clear_slice W _ _ ty _ t22 v3 rfl rfl b (off+(i+(d.size - j))) _ _ (by omega) (fun t ht => ?_) (fun t ht => ?_)
  all_goals rw [Nat.add_assoc]
  ·rw [(hHW _ (by rw [lay_size];omega)).1];rfl
  ·exact (hHW _ (by rw [lay_size];omega)).2
 have keep:Aside (W=putRow (Value.int .i64) (Sort.ahead w 1) b off (lay d i (d.toList.drop j))):=hP
 have wIs:Hid (W=w.drew.setCells b (off+i*1) ns):=hW
 have hic:i≤c:=by omega
 have hjc:j≤c:=by omega
 clear hW hP hHW hAh hH at_ hns nl
 go_enter L.f23,Body2.n23_ntmps ρ
 go_wp2_with fail
 go_region_law_o (refine step_append_room rfl (.tmp 22) (.tmp 25) (ρ.t 22) rfl (ρ.t 3) info 1 t22 hinfo hz1 b off i c (by simp [Act.eval,Act.put]) A (d.size - j) (c - j) ns (by simp [Act.eval,Act.put]) one.out hsrc.out cells.out (by omega) dest.out ?_;rw [← wIs.out])
 go_wp2
 go_ret
 refine ⟨by rw [show d.size - (j - i)=i+(d.size - j) by omega];rfl,?_⟩
 unfold Ek
 rw [← delete_arr d i j 0 (by omega) hj,← putRow_setCells (Value.int .i64) _ b off _ _ (i+(d.size - j)) (by rw [lay_size];simp;omega),← keep.out,List.map_replicate,show d.size - (i+(d.size - j))=j - i by omega]
theorem Ga {zs:List Int} {a b:Nat} (h:a≤b) (hb:b≤zs.length):(Ek zs a b).length=zs.length:=by
 unfold Ek
 simp
 omega
theorem Ib {w:World} {b k:Nat} {d:Array Int} (h:k≠b):(putRow (Value.int .i64) (Sort.ahead w 1) b 0 d).heap[k]? = w.heap[k]? := by
 show (w.heap.modify b _)[k]? = _
 rw [Array.getElem?_modify,if_neg (fun e=>h e.symm)]
theorem BM {w:World} {b:Nat} {d:Array Int} {arr:Array Value} {e:TypeId} (h:w.heap[b]? = some (.cells arr e (0,0))):(putRow (Value.int .i64) (Sort.ahead w 1) b 0 d).heap[b]? = some (.cells (putCells (Value.int .i64) 0 d arr) e (0,0)):=by
 show (w.heap.modify b _)[b]? = _
 rw [Array.getElem?_modify,if_pos rfl,h]
 rfl
theorem B8 {B0:Nat} {w0 w:World} {R:Ro} {σ:List Sg} {H H':Hp} {v:V} {args:List V} {cargs:Array Value} (L:Lays2.n23 P ρ) (h:Ru args H=some (v,H')) (hI:Inv 0 B0 w0 R σ H w) (hA:bF R σ args cargs):Calls P (ρ.f 23) cargs w (Gz 0 B0 w0 R σ w v H'):=by
 unfold Ru at h
 split at h
 case h_2=>cases h
 rename_i id g len a b
 split at h
 case h_2=>cases h
 rename_i e0 rs g' hb
 split at h
 case isFalse=>cases h
 rename_i hc
 obtain ⟨rfl,rfl,hlen,ha0,hab,hbl,hbig⟩:=hc
 rw [Option.map_eq_some_iff] at h
 obtain ⟨zs,hz,h⟩:=h
 cases h
 have hrs:=wa hz
 have hzl:zs.length=len:=by
  have:=congrArg List.length hrs
  rw [List.length_take,List.length_map] at this
  omega
 obtain ⟨ca,l1,rfl,hr1,hA⟩:=hA.uncons
 obtain ⟨cb,l2,e2,hr2,hA⟩:=hA.uncons
 obtain ⟨cc,l3,e3,hr3,hA⟩:=hA.uncons
 have e4:=hA.nil_inv
 cases hr2
 cases hr3
 obtain ⟨Ad,l,c,s,rfl,hs,hh,hg,hgen⟩:=ie hr1
 obtain ⟨q1,q2,q3,q4,q5,q6⟩:=gt hI hb hs hh
 obtain ⟨rfl,hn,hsm⟩:=hgen q1.symm
 cases hblk:s.blk with
 | none=>
  have:=q5 hblk
  subst this
  simp at hlen
  omega
 | some b0=>
  obtain ⟨rfl,hlc,hcap⟩:=hsm b0 hblk
  obtain ⟨arr,e,hheap,hsz,hcell,hro⟩:=q6 b0 hblk
  have hB:B0≤b0:=hI.ge id _ s b0 (Nat.zero_le _) hb rfl hs hblk
  have hrow:∀ j (hj:j<zs.length),rs[j]? = some [V.lit (.int .i64 zs[j])]:=fun j hj=>by
   have:(rs.take l)[j]? = some [V.lit (.int .i64 zs[j])]:=by rw [hrs,List.getElem?_map,List.getElem?_eq_getElem hj];rfl
   rw [List.getElem?_take] at this
   split at this
   ·exact this
   ·cases this
  have hcv:∀ j (hj:j<zs.length),arr[j]? = some (.int .i64 zs[j]):=fun j hj=>by
   obtain ⟨cv,h1,h2⟩:=hcell j 0 _ _ (hrow j hj) rfl
   cases h2
   rw [Nat.mul_one,Nat.add_zero] at h1
   exact h1
  have hH:Holds (Value.int .i64) w b0 0 zs.toArray:=fun j hj=>by
   have hj':j<zs.length:=by simpa using hj
   rw [Nat.zero_add]
   refine ⟨?_,?_⟩
   ·rw [getElem!_pos zs.toArray j hj]
    unfold World.cell?
    rw [hheap]
    simpa using hcv j hj'
   ·unfold World.frozen?
    rw [hheap]
    simp
  have el:(Value.slice (some ⟨b0,0,none⟩) l c::l1).toArray = #[.slice (some ⟨b0,0,none⟩) zs.toArray.size c,.int .i64 ((a.toNat:Nat):Int),.int .i64 ((b.toNat:Nat):Int)]:=by
   have e2':l1=Value.int .i64 a::l2:=by simpa using e2
   have e3':l2=Value.int .i64 b::l3:=by simpa using e3
   have e4':l3=[]:=by simpa using e4
   rw [e2',e3',e4',Int.toNat_of_nonneg ha0,Int.toNat_of_nonneg (by omega)]
   simp [hzl]
  rw [el]
  refine (Ue L hH (by simpa [hzl] using hlc) (by simpa [hzl] using hbig) (by omega) (by simpa [hzl] using hbl)).mono ?_
  rintro x w' ⟨rfl,rfl⟩
  have hcl:=Ga (zs:=zs) (a:=a.toNat) (b:=b.toNat) (by omega) (by omega)
  have hsize:(putRow (Value.int .i64) (Sort.ahead w 1) b0 0 (Ek zs a.toNat b.toNat).toArray).heap.size=w.heap.size:=by rw [size_putRow];rfl
  have hset:=hI.set (R':=R) (w':=putRow (Value.int .i64) (Sort.ahead w 1) b0 0 (Ek zs a.toNat b.toNat).toArray) (b' := .rows 1 ((Ek zs a.toNat b.toNat).map (fun n=>[V.lit (.int .i64 n)])++rs.drop l) g true) (s':=s) hb rfl hs hh (Nat.zero_le _) (oe.refl s) (fun k hk => .inl hk)
   ⟨rfl,rfl,rfl,by rw [hsize];exact Nat.le_refl _,fun k hk=>Ib (by omega)⟩ (by rw [hsize];exact Nat.le_refl _) (fun k _ hk=>Ib (fun e=>hk (by rw [e];exact hblk))) (fk.refl R) (fun _ _ h => .inl h)
   (fun k o u hu hk=>by
    rw [hblk] at hk;cases hk
    have:=(hro o (by simp [hu])).1
    cases this)
   ⟨q1,q2,q3,fun r hr=>by
    rcases List.mem_append.1 hr with hr | hr
    ·obtain ⟨n,_,rfl⟩:=List.mem_map.1 hr
     exact ⟨rfl,rfl⟩
    ·exact q4 r (List.mem_of_mem_drop hr),by
    rw [hblk]
    refine ⟨_,e,BM hheap,?_,fun i j r x hr hx => ?_,fun o ho => ?_⟩
    ·unfold putCells
     rw [Array.size_mapIdx]
     exact hsz
    ·rw [db hs]
     by_cases hi:i<zs.length
     ·rw [List.getElem?_append_left (by simp;omega),List.getElem?_map,List.getElem?_eq_getElem (by omega)] at hr
      cases hr
      cases j with
      | succ j=>simp at hx
      | zero=>
       cases hx
       refine ⟨.int .i64 ((Ek zs a.toNat b.toNat)[i]'(by omega)), ?_, .lit _⟩
       unfold putCells
       have hai:=hcv i hi
       rw [Nat.mul_one,Nat.add_zero,Array.getElem?_mapIdx,hai]
       simp only [Option.map_some,Nat.zero_le,Nat.zero_add,true_and,List.size_toArray,Nat.sub_zero]
       rw [if_pos (by omega),getElem!_pos _ _ (by simp;omega)]
       simp
     ·rw [List.getElem?_append_right (by simp;omega),List.getElem?_drop] at hr
      have hr':rs[i]? = some r:=by
       rw [← hr]
       congr 1
       simp
       omega
      obtain ⟨cv,h1,h2⟩:=hcell i j r x hr' hx
      refine ⟨cv,?_,h2⟩
      unfold putCells
      rw [Array.getElem?_mapIdx,h1]
      simp only [Option.map_some,Nat.zero_le,Nat.zero_add,true_and,List.size_toArray,Nat.sub_zero]
      rw [if_neg (by omega)]
    ·have:=(hro o ho).1
     cases this⟩
  rw [db hs] at hset
  refine ⟨R,σ,hset.widen (fun k hk => ?_),?_,by rw [hsize];exact Nat.le_refl _⟩
  ·rw [hblk] at hk;cases hk;exact hB
  ·have e5:zs.toArray.size - (b.toNat - a.toNat)=l - (b.toNat - a.toNat):=by simp [hzl]
   rw [e5]
   refine .own id g (l - (b.toNat - a.toNat)) _ _ c s hs hh (by omega) (fun _=>⟨rfl,fun hz => ?_,fun b1 hb1 => ?_⟩)
   ·rw [hblk] at hz;cases hz
   ·rw [hblk] at hb1;cases hb1
    exact ⟨rfl,by omega,hcap⟩
end
def dlB (id g len:Nat) (a b:Int) (H:Hp):Option B→Option (V×Hp)
 | some (.rows e rs g' true)=>
  if e=1∧g=g'∧len≤rs.length∧0≤a∧a<b∧b.toNat≤len∧len≤9223372036854775807 then
   (pa (rs.take len)).map fun zs=>(.own id g (len - (b.toNat - a.toNat)),H.set id (.rows 1 ((Ek zs a.toNat b.toNat).map (fun n=>[V.lit (.int .i64 n)])++rs.drop len) g true))
  else none
 | _=>none
theorem Vm {id g len:Nat} {a b:Int} {H:Hp}:Ru [.own id g len,.lit (.int .i64 a),.lit (.int .i64 b)] H=dlB id g len a b H H[id]? := by
 unfold Ru dlB
 rfl
theorem wp:∀ l:List Int,pa (l.map (aI .i64))=some l
 | []=>rfl
 | n::l=>by rw [List.map_cons,aI,pa,wp l];rfl
theorem NH {id g len e:Nat} {a b:Int} {H:Hp} {l:List Int}:dlB id g len a b H (some (.rows e (l.map (aI .i64)) g true)) =
  ck (e==1) (ck (decide (len≤l.length∧0≤a∧a<b∧b.toNat≤len∧len≤9223372036854775807)) (some (.own id g (len - (b.toNat - a.toNat)),H.set id (.rows 1 ((Ek (l.take len) a.toNat b.toNat++l.drop len).map (aI .i64)) g true)))):=by
 unfold dlB
 dsimp only
 rw [List.length_map,← List.map_take,wp,← List.map_drop]
 by_cases he:e=1
 ·subst he
  rw [beq_self_eq_true,cg]
  by_cases h:len≤l.length∧0≤a∧a<b∧b.toNat≤len∧len≤9223372036854775807
  ·rw [if_pos ⟨rfl,rfl,h⟩,decide_eq_true h,cg,List.map_append]
   rfl
  ·rw [if_neg (fun z=>h z.2.2),decide_eq_false h,pE]
 ·have h1:(e==1)=false:=by simp [he]
  rw [h1,pE,if_neg (fun z=>he z.1)]
theorem Vy {P:Program} {M:Mode} {k:Nat} {f:FuncId} {args:List V} {H:Hp} (ho:M.orc f=some Ru):evF P M (k+1) 0 f args H=Ru args H:=by
 rw [evF,ho]
 rfl
end Go.Ab
namespace Go.Ab
def b8 (x:Int×List Int×Int×Int×Int×Int×Int×Int×Int):List V:=
 [.lit (.int .i64 x.1),.ro (x.2.1.map (aI .i64)),.lit (.int .i64 x.2.2.1),.lit (.int .i64 x.2.2.2.1),.lit (.int .i64 x.2.2.2.2.1),.lit (.int .u64 x.2.2.2.2.2.1),.lit (.int .u64 x.2.2.2.2.2.2.1),.lit (.int .u64 x.2.2.2.2.2.2.2.1),.lit (.int .i64 x.2.2.2.2.2.2.2.2)]
def arC (id g row:Nat):List (Int×Nat)→Int→Option V
 | [],_=>none
 | p::l,n=>bif n==p.1 then some (.ptr id g row p.2) else arC id g row l n
theorem TR {id g row:Nat} {n:Int}:arC id g row [] n=none:=rfl
theorem M1 {id g row o:Nat} {n i:Int} {l:List (Int×Nat)}:arC id g row ((i,o)::l) n=bif n==i then some (.ptr id g row o) else arC id g row l n:=rfl
def arL (sz off len:Nat):List (Int×Nat):=(List.range len).map fun j:Nat=>((j:Int),off+j*sz)
theorem DD {id g row:Nat} {n:Int}:∀ {l:List (Int×Nat)},(∀ p ∈ l,p.1≠n)→arC id g row l n=none
 | [],_=>rfl
 | p::l,h=>by
  rw [arC,show (n==p.1)=false by simp;exact fun e=>h p (List.mem_cons_self ..) e.symm,cond_false]
  exact DD fun q hq=>h q (List.mem_cons_of_mem _ hq)
theorem PF {id g row sz off:Nat} {q:Nat}:∀ (l:List Nat),q ∈ l→arC id g row (l.map fun j:Nat=>((j:Int),off+j*sz)) (q:Int)=some (.ptr id g row (off+q*sz))
 | [],h=>by cases h
 | x::l,h=>by
  rw [List.map_cons,arC]
  by_cases e:q=x
  ·subst e;simp
  ·have h2:((q:Int)==(x:Int))=false:=by simp;omega
   rw [h2,cond_false]
   exact PF l ((List.mem_cons.1 h).resolve_left e)
theorem IP {P:Program} {t e:TypeId} {len sz id g row off:Nat} {k:IntKind} {n:Int} {H:Hp} (h:P.underlying t=some (.array len e)) (hs:aR P e=sz) (hz:sz≠0) :
  ak P t (.ptr id g row off) (.lit (.int k n)) H=arC id g row (arL sz off len) n:=by
 unfold ak
 simp only [h,hs]
 by_cases h0:0≤n
 ·rw [if_pos h0]
  by_cases h1:n<len
  ·rw [if_pos ⟨h1,hz⟩]
   obtain ⟨q,rfl⟩:∃ q:Nat,n=q:=⟨n.toNat,by omega⟩
   rw [arL,PF (List.range len) (List.mem_range.2 (by omega)),Int.toNat_natCast]
  ·rw [if_neg (fun hh=>h1 hh.1)]
   refine (DD fun p hp => ?_).symm
   obtain ⟨j,hj,rfl⟩:=List.mem_map.1 hp
   have:=List.mem_range.1 hj
   simp only
   omega
 ·rw [if_neg h0]
  refine (DD fun p hp => ?_).symm
  obtain ⟨j,hj,rfl⟩:=List.mem_map.1 hp
  simp only
  omega
end Go.Ab
namespace Go.Ab
def aP (x:Int×List (Int×Int×Int)×(Int×Int×Int×Int×Int×Int×Int)×Int×Int):List V:=
 [.lit (.int .i64 x.1),.ro (x.2.1.map aM),.lit (.int .i64 x.2.2.1.1),.lit (.int .i64 x.2.2.1.2.1),.lit (.int .i64 x.2.2.1.2.2.1),.lit (.int .u64 x.2.2.1.2.2.2.1),.lit (.int .u64 x.2.2.1.2.2.2.2.1),.lit (.int .u64 x.2.2.1.2.2.2.2.2.1),.lit (.int .i64 x.2.2.1.2.2.2.2.2.2),.lit (.int .i64 x.2.2.2.1),.lit (.int .i64 x.2.2.2.2)]
mutual
theorem IU (n:Nat):∀ v:V,v.pure=true→v.kill n=v
 | .lit _,_=>rfl
 | .ro _,_=>rfl
 | .nil,_=>rfl
 | .any,_=>rfl
 | .junk,_=>rfl
 | .agg cs,h=>by rw [V.kill,gG n cs h]
 | .tup cs,h=>by rw [V.kill,gG n cs h]
 | .fn f a b,h=>by
  rw [V.pure,Bool.and_eq_true] at h
  rw [V.kill,gG n a h.1,gG n b h.2]
 | .rp _,_=>rfl
theorem gG (n:Nat):∀ l:List V,bg l=true→iM n l=l
 | [],_=>rfl
 | v::l,h=>by
  rw [bg,Bool.and_eq_true] at h
  rw [iM,IU n v h.1,gG n l h.2]
end
theorem CR {n:Nat} {rs:List (List V)}:kV n rs=rs.map (iM n):=by
 unfold kV
 split
 ·rename_i h
  rw [cH,List.all_eq_true] at h
  have:∀ l:List (List V),(∀ x ∈ l,bg x=true)→l.map (iM n)=l:=by
   intro l
   induction l with
   | nil=>intro _;rfl
   | cons r l ih=>intro h;rw [List.map_cons,gG n r (h r (List.mem_cons_self ..)),ih fun x hx=>h x (List.mem_cons_of_mem _ hx)]
  exact (this rs h).symm
 ·rfl
theorem ah {n:Nat} {r:List V} {rs:List (List V)}:kV n (r::rs)=iM n r::kV n rs:=by
 rw [CR,CR,List.map_cons]
theorem ag {k:IntKind} {a:Int} {l:List Int}:[V.lit (.int k a)]::List.map (aI k) l=List.map (aI k) (a::l):=rfl
theorem af {a b c:Int} {l:List (Int×Int×Int)}:[V.lit (.int .i64 a),.lit (.int .i64 b),.lit (.int .i64 c)]::List.map aM l=List.map aM ((a,b,c)::l):=rfl
def ae4:=PLift.up (And.intro (And.intro (And.intro (And.intro (And.intro (And.intro @rtN.eq_1 @bg.eq_1) (And.intro @bg.eq_2 @V.pure.eq_1)) (And.intro (And.intro @V.pure.eq_2 @V.pure.eq_3) (And.intro @V.pure.eq_4 @V.pure.eq_5))) (And.intro (And.intro (And.intro @V.pure.eq_6 @V.pure.eq_7) (And.intro @V.pure.eq_8 @V.pure.eq_9)) (And.intro (And.intro @V.pure.eq_10 @V.pure.eq_11) (And.intro @V.pure.eq_12 @V.pure.eq_13)))) (And.intro (And.intro (And.intro (And.intro @nsh.eq_1 @Zz.eq_1) (And.intro @Zz.eq_2 @Zz.eq_3)) (And.intro (And.intro @V.kill.eq_1 @V.kill.eq_2) (And.intro @V.kill.eq_3 @V.kill.eq_4))) (And.intro (And.intro (And.intro @V.kill.eq_5 @V.kill.eq_6) (And.intro @V.kill.eq_7 @V.kill.eq_8)) (And.intro (And.intro @V.kill.eq_9 @V.kill.eq_10) @V.kill.eq_11)))) (And.intro (And.intro (And.intro (And.intro (And.intro @V.kill.eq_12 @V.kill.eq_13) (And.intro @iM.eq_1 @iM.eq_2)) (And.intro (And.intro @spl.eq_1 @spl.eq_2) (And.intro @V.shift.eq_1 @V.shift.eq_2))) (And.intro (And.intro (And.intro @V.shift.eq_3 @V.shift.eq_4) (And.intro @V.shift.eq_5 @V.shift.eq_6)) (And.intro (And.intro @V.shift.eq_7 @V.shift.eq_8) @V.shift.eq_9))) (And.intro (And.intro (And.intro (And.intro @V.shift.eq_10 @V.shift.eq_11) (And.intro @V.shift.eq_12 @V.shift.eq_13)) (And.intro (And.intro @ik.eq_1 @ik.eq_2) (And.intro @V.scal.eq_1 @V.scal.eq_2))) (And.intro (And.intro (And.intro @V.scal.eq_3 @V.scal.eq_4) (And.intro @EF.eq_1 @EF.eq_2)) (And.intro (And.intro @aI.eq_1 @lX.eq_1) @aM.eq_1)))))
theorem syD:type_of% ae4.down:=ae4.down
def afk:=PLift.up (And.intro (And.intro (And.intro @syQ @KL.eq_1) (And.intro @lu.eq_1 @cO.eq_1)) (And.intro (And.intro @b8.eq_1 @aP.eq_1) (And.intro @TR @M1)))
theorem syE:type_of% afk.down:=afk.down
end Go.Ab
namespace Go.Ab
open Go
def ej (x:Int×Int×Int):List V:=[.lit (.int .i64 x.1),.lit (.int .i64 x.2.1),.lit (.int .u64 x.2.2)]
def adS (x:(Int×Int×Int×Int)×List (Int×List Int)×List Int×List (Int×List (Int×Int×Int)×(Int×Int×Int×Int×Int×Int×Int)×Int×Int)×List (Int×List Int×Int×Int×Int×Int×Int×Int×Int)):List V:=
 [.lit (.int .i64 x.1.1),.lit (.int .i64 x.1.2.1),.lit (.int .i64 x.1.2.2.1),.lit (.int .i64 x.1.2.2.2),.ro (x.2.1.map ao),.ro (x.2.2.1.map (aI .u64)),.ro (x.2.2.2.1.map aP),.ro (x.2.2.2.2.map b8)]
theorem oC (x:Int×Int×Int):bg (ej x)=true:=rfl
theorem gE (x:Int×List (Int×Int×Int)×(Int×Int×Int×Int×Int×Int×Int)×Int×Int):bg (aP x)=true:=by
 have h:cH (x.2.1.map aM)=true:=ed fun _=>rfl
 simp [aP,bg,V.pure,h]
theorem kv (x:Int×List Int×Int×Int×Int×Int×Int×Int×Int):bg (b8 x)=true:=by
 have h:=uo (k := .i64) (l:=x.2.1)
 simp [b8,bg,V.pure,h]
section
variable {lw:List (Int×List (Int×Int×Int)×(Int×Int×Int×Int×Int×Int×Int)×Int×Int)} {ls:List (Int×List Int×Int×Int×Int×Int×Int×Int×Int)} {lp:List (Int×Int×Int)} {n i:Nat} {a b c d e f g p q r:Int} {x:List Int} {y:List (Int×Int×Int)}
theorem Hm:cH (lw.map aP)=true:=ed gE
theorem G3:kV n (lw.map aP)=lw.map aP:=fA gE
theorem DZ:gW n (lw.map aP)=lw.map aP:=eD gE
theorem Mb:bT 11 (lw.map aP)=true:=dN fun _=>rfl
theorem JV:(lw.map aP).set i [.lit (.int .i64 p),.ro (y.map aM),.lit (.int .i64 a),.lit (.int .i64 b),.lit (.int .i64 c),.lit (.int .u64 d),.lit (.int .u64 e),.lit (.int .u64 f),.lit (.int .i64 g),.lit (.int .i64 q),.lit (.int .i64 r)]=(lw.set i (p,y,(a,b,c,d,e,f,g),q,r)).map aP:=by rw [List.map_set];rfl
theorem Ex:[[V.lit (.int .i64 p),.ro (y.map aM),.lit (.int .i64 a),.lit (.int .i64 b),.lit (.int .i64 c),.lit (.int .u64 d),.lit (.int .u64 e),.lit (.int .u64 f),.lit (.int .i64 g),.lit (.int .i64 q),.lit (.int .i64 r)]]=[(p,y,(a,b,c,d,e,f,g),q,r)].map aP:=rfl
theorem CI:[V.lit (.int .i64 p),.ro (y.map aM),.lit (.int .i64 a),.lit (.int .i64 b),.lit (.int .i64 c),.lit (.int .u64 d),.lit (.int .u64 e),.lit (.int .u64 f),.lit (.int .i64 g),.lit (.int .i64 q),.lit (.int .i64 r)]::lw.map aP=((p,y,(a,b,c,d,e,f,g),q,r)::lw).map aP:=rfl
theorem HH:(lw.map aP).set i [.lit (.int .i64 p),.ro [],.lit (.int .i64 a),.lit (.int .i64 b),.lit (.int .i64 c),.lit (.int .u64 d),.lit (.int .u64 e),.lit (.int .u64 f),.lit (.int .i64 g),.lit (.int .i64 q),.lit (.int .i64 r)]=(lw.set i (p,([]:List (Int×Int×Int)),(a,b,c,d,e,f,g),q,r)).map aP:=by rw [List.map_set];rfl
theorem BY:[[V.lit (.int .i64 p),.ro [],.lit (.int .i64 a),.lit (.int .i64 b),.lit (.int .i64 c),.lit (.int .u64 d),.lit (.int .u64 e),.lit (.int .u64 f),.lit (.int .i64 g),.lit (.int .i64 q),.lit (.int .i64 r)]]=[(p,([]:List (Int×Int×Int)),(a,b,c,d,e,f,g),q,r)].map aP:=rfl
theorem AM:[V.lit (.int .i64 p),.ro [],.lit (.int .i64 a),.lit (.int .i64 b),.lit (.int .i64 c),.lit (.int .u64 d),.lit (.int .u64 e),.lit (.int .u64 f),.lit (.int .i64 g),.lit (.int .i64 q),.lit (.int .i64 r)]::lw.map aP=((p,([]:List (Int×Int×Int)),(a,b,c,d,e,f,g),q,r)::lw).map aP:=rfl
theorem Ic:cH (ls.map b8)=true:=ed kv
theorem Lq:kV n (ls.map b8)=ls.map b8:=fA kv
theorem Gy:gW n (ls.map b8)=ls.map b8:=eD kv
theorem Rt:bT 9 (ls.map b8)=true:=dN fun _=>rfl
theorem MF:(ls.map b8).set i [.lit (.int .i64 p),.ro (x.map (aI .i64)),.lit (.int .i64 a),.lit (.int .i64 b),.lit (.int .i64 c),.lit (.int .u64 d),.lit (.int .u64 e),.lit (.int .u64 f),.lit (.int .i64 g)]=(ls.set i (p,x,a,b,c,d,e,f,g)).map b8:=by rw [List.map_set];rfl
theorem Hn:[[V.lit (.int .i64 p),.ro (x.map (aI .i64)),.lit (.int .i64 a),.lit (.int .i64 b),.lit (.int .i64 c),.lit (.int .u64 d),.lit (.int .u64 e),.lit (.int .u64 f),.lit (.int .i64 g)]]=[(p,x,a,b,c,d,e,f,g)].map b8:=rfl
theorem DI:[V.lit (.int .i64 p),.ro (x.map (aI .i64)),.lit (.int .i64 a),.lit (.int .i64 b),.lit (.int .i64 c),.lit (.int .u64 d),.lit (.int .u64 e),.lit (.int .u64 f),.lit (.int .i64 g)]::ls.map b8=((p,x,a,b,c,d,e,f,g)::ls).map b8:=rfl
theorem Jz:(ls.map b8).set i [.lit (.int .i64 p),.ro [],.lit (.int .i64 a),.lit (.int .i64 b),.lit (.int .i64 c),.lit (.int .u64 d),.lit (.int .u64 e),.lit (.int .u64 f),.lit (.int .i64 g)]=(ls.set i (p,([]:List Int),a,b,c,d,e,f,g)).map b8:=by rw [List.map_set];rfl
theorem EG:[[V.lit (.int .i64 p),.ro [],.lit (.int .i64 a),.lit (.int .i64 b),.lit (.int .i64 c),.lit (.int .u64 d),.lit (.int .u64 e),.lit (.int .u64 f),.lit (.int .i64 g)]]=[(p,([]:List Int),a,b,c,d,e,f,g)].map b8:=rfl
theorem BN:[V.lit (.int .i64 p),.ro [],.lit (.int .i64 a),.lit (.int .i64 b),.lit (.int .i64 c),.lit (.int .u64 d),.lit (.int .u64 e),.lit (.int .u64 f),.lit (.int .i64 g)]::ls.map b8=((p,([]:List Int),a,b,c,d,e,f,g)::ls).map b8:=rfl
theorem Ho:cH (lp.map ej)=true:=ed oC
theorem Hb:kV n (lp.map ej)=lp.map ej:=fA oC
theorem DO:gW n (lp.map ej)=lp.map ej:=eD oC
theorem Mo:bT 3 (lp.map ej)=true:=dN fun _=>rfl
theorem Lb:(lp.map ej).set i [.lit (.int .i64 a),.lit (.int .i64 b),.lit (.int .u64 c)]=(lp.set i (a,b,c)).map ej:=by rw [List.map_set];rfl
theorem Ej:[[V.lit (.int .i64 a),.lit (.int .i64 b),.lit (.int .u64 c)]]=[(a,b,c)].map ej:=rfl
theorem Bb:[V.lit (.int .i64 a),.lit (.int .i64 b),.lit (.int .u64 c)]::lp.map ej=((a,b,c)::lp).map ej:=rfl
end
theorem U2 {α:Type} {wl e sz bytes id g len s:Nat} {l:List α} {enc:α→List V} {H:Hp} :
  apB wl e sz bytes id g len [] H (some (.rows s (l.map enc) g true)) =
   sif (Nat.ble wl id) (ck (decide (len≤l.length)) (ck (s==sz||s==0) (bif room (l.take len).length bytes then some (.own id (g+1) (l.take len).length,H.set id (.rows sz ((l.take len).map enc) (g+1) true)) else none))) none:=by
 have h:=Jw (wl:=wl) (e:=e) (sz:=sz) (bytes:=bytes) (id:=id) (g:=g) (len:=len) (s:=s) (l:=l) (m:=[]) (enc:=enc) (H:=H)
 rw [List.append_nil] at h
 exact h
theorem TG {kp:Nat→Bool} {cs:List V} {h:Hp}:lb (some kp) (.agg cs) h=bq (uW cs h []) fun p=>some (.agg p.1,p.2.2):=by
 unfold lb HI bq
 dsimp only
 cases uW cs h [] <;> rfl
theorem KC {H acc:Hp}:uW [] H acc=some ([],H,acc):=rfl
theorem HV {v:V} {vs:List V} {H acc:Hp}:uW (v::vs) H acc=bq (po v H acc) fun p=>bq (uW vs p.2.1 p.2.2) fun q=>some (p.1::q.1,q.2.1,q.2.2):=by
 rw [uW]
 unfold bq
 cases po v H acc with
 | none=>rfl
 | some p=>rfl
theorem JX {v:Value} {H acc:Hp}:po (.lit v) H acc=some (.lit v,H,acc):=rfl
theorem LL {r:List (List V)} {H acc:Hp}:po (.ro r) H acc=some (.ro r,H,acc):=rfl
def hmB (id g len:Nat) (H acc:Hp):Option B→Option (V×Hp×Hp)
 | some (.rows e rs g' live)=>if g=g'∧len≤rs.length∧(live=true∨len=rs.length)∧cH rs=true then some (.own acc.length 0 len,H.set id .dead,acc++[.rows e (rs.take len) 0 live]) else none
 | _=>none
theorem Cp {id g len:Nat} {H acc:Hp}:po (.own id g len) H acc=hmB id g len H acc H[id]? := by
 unfold po hmB
 dsimp only
 cases H[id]? with
 | none=>rfl
 | some b=>cases b <;> rfl
theorem xV {α:Type} {enc:α→List V} (hp:∀ x,bg (enc x)=true) {id g len e:Nat} {H acc:Hp} {l:List α}:hmB id g len H acc (some (.rows e (l.map enc) g true))=ck (decide (len≤l.length)) (some (.own acc.length 0 len,H.set id .dead,acc++[.rows e ((l.take len).map enc) 0 true])):=by
 unfold hmB ck
 dsimp only
 rw [List.length_map,ed hp,List.map_take]
 by_cases h:len≤l.length
 ·rw [if_pos ⟨rfl,h,.inl rfl,rfl⟩,decide_eq_true h]
  rfl
 ·rw [if_neg (fun z=>h z.2.1),decide_eq_false h]
  rfl
theorem TA {id g e:Nat} {H acc:Hp} {lv:Bool}:hmB id g 0 H acc (some (.rows e [] g lv))=some (.own acc.length 0 0,H.set id .dead,acc++[.rows e [] 0 lv]):=by
 unfold hmB
 dsimp only
 rw [if_pos ⟨rfl,Nat.le_refl _,.inr rfl,rfl⟩]
 rfl
theorem Sy {k:IntKind} {id g len e:Nat} {H acc:Hp} {l:List Int}:hmB id g len H acc (some (.rows e (l.map (aI k)) g true))=ck (decide (len≤l.length)) (some (.own acc.length 0 len,H.set id .dead,acc++[.rows e ((l.take len).map (aI k)) 0 true])):=xV fun _=>rfl
theorem S4 {kp:Nat→Bool} {id g len:Nat} {h:Hp}:lb (some kp) (.own id g len) h=bq (hmB id g len h [] h[id]?) fun p=>some (p.1,p.2.2):=by
 have e:lb (some kp) (.own id g len) h=(po (.own id g len) h []).bind fun q=>some (q.1,q.2.2):=rfl
 rw [e,Cp]
 unfold bq
 cases hmB id g len h [] h[id]? <;> rfl
theorem Oh {id g len e:Nat} {H acc:Hp} {l:List (Int×List (Int×Int×Int)×(Int×Int×Int×Int×Int×Int×Int)×Int×Int)}:hmB id g len H acc (some (.rows e (l.map aP) g true))=ck (decide (len≤l.length)) (some (.own acc.length 0 len,H.set id .dead,acc++[.rows e ((l.take len).map aP) 0 true])):=xV gE
theorem RH {id g len e:Nat} {H acc:Hp} {l:List (Int×List Int×Int×Int×Int×Int×Int×Int×Int)}:hmB id g len H acc (some (.rows e (l.map b8) g true))=ck (decide (len≤l.length)) (some (.own acc.length 0 len,H.set id .dead,acc++[.rows e ((l.take len).map b8) 0 true])):=xV kv
def aeW:=PLift.up (And.intro (And.intro (And.intro (And.intro (And.intro (And.intro @Hm @G3) @DZ) (And.intro (And.intro @Mb @JV) @Ex)) (And.intro (And.intro (And.intro @CI @HH) @BY) (And.intro @AM @Ic))) (And.intro (And.intro (And.intro (And.intro @Lq @Gy) @Rt) (And.intro @MF @Hn)) (And.intro (And.intro (And.intro @DI @Jz) @EG) (And.intro @BN @Ho)))) (And.intro (And.intro (And.intro (And.intro (And.intro @Hb @DO) @Mo) (And.intro @Lb @Ej)) (And.intro (And.intro (And.intro @Bb @TA) @Sy) (And.intro @S4 @U2))) (And.intro (And.intro (And.intro (And.intro @TG @KC) @HV) (And.intro @JX @LL)) (And.intro (And.intro (And.intro @Cp @Oh) @RH) (And.intro @ej.eq_1 @adS.eq_1)))))
theorem syW:type_of% aeW.down:=aeW.down
end Go.Ab
namespace Go.Ab
section
variable {cx:Cx} {K:Out→St→Res} {r:Res} {id j n0:Nat} {ops:Array Oper} {a:List Nat×List Nat} {env:List V} {H:Hp} {o:Oper} {i:Nat} {L:List Nat}
theorem qP (hL:ng ops=L) (ha:(kT ops).any=false) {x:Option (V×Hp)} {k:V→Hp→Res} (h2:∀ v h,dM cx (.region id ops true) (j+1) n0 a K ⟨kS env o.dst v,h⟩=k v h) (hj:L[j]? = some i:=by rfl) (ho:ops.toList[i]? = some o:=by rfl) (hg:o.guard=none:=by rfl) (hst:(kT ops).strict i=false:=by kernel_rfl) (h1:opV cx ((kT ops).calm i) ((kT ops).ord i) o.op env H=x:=by kernel_rfl):dM cx (.region id ops true) j n0 a K ⟨env,H⟩=bp x k:=go_op1 hL ha hj ho hg (OR hst (abo h1 h2))
theorem qM (hL:ng ops=L) (ha:(kT ops).any=false) {x:Option V} {H':Hp} {k:V→Hp→Res} (h2:∀ v h,dM cx (.region id ops true) (j+1) n0 a K ⟨kS env o.dst v,h⟩=k v h) (hj:L[j]? = some i:=by rfl) (ho:ops.toList[i]? = some o:=by rfl) (hg:o.guard=none:=by rfl) (hst:(kT ops).strict i=false:=by kernel_rfl) (h1:opV cx ((kT ops).calm i) ((kT ops).ord i) o.op env H=x.map fun v=>(v,H'):=by kernel_rfl):dM cx (.region id ops true) j n0 a K ⟨env,H⟩=bm x H' k:=go_op1 hL ha hj ho hg (OR hst (abg h1 h2))
theorem qS (hL:ng ops=L) (ha:(kT ops).any=false) {x:Option Hp} {k:Hp→Res} (h2:∀ h,dM cx (.region id ops true) (j+1) n0 a K ⟨kS env o.dst uu,h⟩=k h) (hj:L[j]? = some i:=by rfl) (ho:ops.toList[i]? = some o:=by rfl) (hg:o.guard=none:=by rfl) (hst:(kT ops).strict i=false:=by kernel_rfl) (h1:opV cx ((kT ops).calm i) ((kT ops).ord i) o.op env H=x.map fun H'=>(uu,H'):=by kernel_rfl):dM cx (.region id ops true) j n0 a K ⟨env,H⟩=bs x k:=go_op1 hL ha hj ho hg (OR hst (aei h1 h2))
theorem qI (hL:ng ops=L) (ha:(kT ops).any=false) (v:V) (H':Hp) (h2:dM cx (.region id ops true) (j+1) n0 a K ⟨kS env o.dst v,H'⟩=r) (hj:L[j]? = some i:=by rfl) (ho:ops.toList[i]? = some o:=by rfl) (hg:o.guard=none:=by rfl) (hst:(kT ops).strict i=false:=by kernel_rfl) (h1:opV cx ((kT ops).calm i) ((kT ops).ord i) o.op env H=some (v,H'):=by kernel_rfl):dM cx (.region id ops true) j n0 a K ⟨env,H⟩=r:=go_op1 hL ha hj ho hg (OR hst (adp h1 h2))
section
variable {gj d:Nat} {b:Bool}
end
end
end Go.Ab
namespace Go.Ab
abbrev bb (b:Bool) (x y:Res):Res:=match b with | true=>x | false=>y
abbrev onO {A:Type} (x:Option A) (k:A→Res):Res:=match x with | some v=>k v | none=>none
abbrev abB (cx:Cx) (b:Builtin) (ts:Array TypeId) (args:List V) (H:Hp) (F:V→Hp→Res):Res:=
 match b with
 | .len=>match ts.toList,args with
  | [t],[x]=>bp (bh cx.P t x H) F
  | _,_=>none
 | .append=>match ts.toList,args with
  | [t,u],[s,x]=>bp (lF cx.P cx.wl t u s x H) F
  | _,_=>none
 | .max=>bm (ij true args) H F
 | .min=>bm (ij false args) H F
 | _=>none
abbrev opW (cx:Cx) (calm ord:Bool) (op:Op) (env:List V) (H:Hp) (F:V→Hp→Res):Res:=
 match op with
 | .move x=>onO (evO env x) fun v=>F v H
 | .assign x=>match x with
  | .const c=>onO (some (ly c)) fun v=>match v with | .nil=>bp (some (.own H.length 0 0,H++[.rows 0 [] 0 true])) F | v=>F v H
  | x=>onO (evO env x) fun v=>F v H
 | .pick c a b=>onO (evO env c) fun c=>onO (evO env a) fun a=>onO (evO env b) fun b=>bm (aQ c a b) H F
 | .alloc t=>bp (aw cx.P t H) F
 | .box _ x=>onO (evO env x) fun v=>bp (aO v H) F
 | .build t parts=>onO (KH (evO env) parts.toList) fun l=>bm (a9 cx.P t l) H F
 | .buildSlice t len parts=>onO (KH (evO env) parts.toList) fun l=>bb (calm) (bp (cU cx.P cx.wl t len l H) F) (bp (az cx.P cx.wl t len l H) F)
 | .insert t m k v=>onO (evO env m) fun m=>onO (evO env k) fun k=>onO (evO env v) fun v=>bs (dY cx.P cx.wl t m k v H) (F uu)
 | .load t a=>onO (evO env a) fun a=>bm (ab cx.P t a H) H F
 | .store t a v=>onO (evO env a) fun a=>onO (evO env v) fun v=>bs (ai cx.P cx.wl t a v H) (F uu)
 | .nilCheck x=>onO (evO env x) fun x=>bm (aN x H) H F
 | .binOp op t x y _=>onO (evO env x) fun x=>onO (evO env y) fun y=>bm (av cx.P op t x y) H F
 | .unOp op _ x=>onO (evO env x) fun x=>bm (vUn op x) H F
 | .convert s d x=>onO (evO env x) fun x=>bm (fZ cx.P s d x) H F
 | .makeFunc f a b=>onO (AE env a.toList) fun a=>onO (AE env b.toList) fun b=>F (.fn f a b) H
 | .makeMap _ r=>match r with | none=>bp (some (.map H.length,H++[.map []])) F | some _=>none
 | .makeSlice t l c=>onO (evO env l) fun l=>onO (evO env c) fun c=>bp (a8 cx.P t l c H) F
 | .slice t x lo hi mx=>onO (evO env x) fun x=>onO (Lo env lo) fun lo=>onO (Lo env hi) fun hi=>onO (Lo env mx) fun mx=>bp (dp cx.P cx.wl calm t x lo hi mx H) F
 | .fieldAddr t x i=>onO (evO env x) fun x=>bm (aa cx.P t x i) H F
 | .field t x i=>onO (evO env x) fun x=>bm (ua cx.P t x i) H F
 | .indexAddr t x i=>onO (evO env x) fun x=>onO (evO env i) fun i=>bm (ak cx.P t x i H) H F
 | .index t x i=>onO (evO env x) fun x=>onO (evO env i) fun i=>bm (EZ cx.P t x i) H F
 | .lookup t m k ok=>onO (evO env m) fun m=>onO (evO env k) fun k=>bm (fo cx.P t m k ok H) H F
 | .extract x i=>onO (evO env x) fun x=>bm (ar x i) H F
 | .call c=>
  match c.callee with
  | .builtin b=>onO (AE env c.args.toList) fun a=>abB cx b c.argTypes a H F
  | .value f=>onO (evO env f) fun f=>onO (AE env c.args.toList) fun a=>bp (cN cx calm ord f a H) F
  | .invoke _ _=>none
 | _=>none
theorem cd {A:Type} {x:Option A} {k:A→Res} {g:A→Option (V×Hp)} {F:V×Hp→Res} (h:∀ v,k v=(g v).bind F):onO x k=(x.bind g).bind F:=by
 cases x with
 | none=>rfl
 | some v=>exact h v
theorem D3 {A:Type} {x:Option A} {k:A→Res} {g:A→V×Hp} {F:V×Hp→Res} (h:∀ v,k v=F (g v)):onO x k=(x.map g).bind F:=by
 cases x with
 | none=>rfl
 | some v=>exact h v
theorem YY {x:Option Hp} {F:V→Hp→Res}:bs x (F uu)=(x.map fun H'=>(V.lit undef,H')).bind fun p=>F p.1 p.2:=by cases x <;> rfl
theorem Ur {cx:Cx} {b:Builtin} {ts:Array TypeId} {args:List V} {H:Hp} {F:V→Hp→Res}:abB cx b ts args H F=(HZ cx b ts args H).bind fun p=>F p.1 p.2:=by
 unfold abB HZ
 generalize ts.toList=l
 cases b with
 | len=>rcases l with _ | ⟨_,_ | _⟩ <;> rcases args with _ | ⟨_,_ | _⟩ <;> rfl
 | append=>rcases l with _ | ⟨_,_ | ⟨_,_ | _⟩⟩ <;> rcases args with _ | ⟨_,_ | ⟨_,_ | _⟩⟩ <;> rfl
 | _=>rfl
theorem Z3 {cx:Cx} {calm ord:Bool} {op:Op} {env:List V} {H:Hp} {F:V→Hp→Res}:opW cx calm ord op env H F=(opV cx calm ord op env H).bind fun p=>F p.1 p.2:=by
 cases op with
 | assign x=>
  unfold opW opV
  dsimp only
  cases x with
  | const c=>
   dsimp only [evO,onO,Option.map_some,Option.bind_some]
   cases ly c <;> rfl
  | _=>exact D3 fun v=>rfl
 | call c=>
  unfold opW opV
  dsimp only
  cases c.callee with
  | builtin b=>exact cd fun a=>Ur
  | value f=>exact cd fun f=>cd fun a=>rfl
  | invoke _ _=>rfl
 | buildSlice t len parts=>
  unfold opW opV
  dsimp only
  refine cd fun l => ?_
  cases calm <;> rfl
 | makeMap t r=>
  unfold opW opV
  dsimp only
  cases r <;> rfl
 | _=>
  unfold opW opV
  dsimp only
  first
  | rfl
  | exact cd fun a=>cd fun b=>YY
  | exact cd fun a=>cd fun b=>cd fun c=>YY
  | exact D3 fun v=>rfl
  | exact cd fun a=>rfl
  | exact cd fun a=>D3 fun b=>rfl
  | exact cd fun a=>cd fun b=>rfl
  | exact cd fun a=>cd fun b=>cd fun c=>rfl
  | exact cd fun a=>cd fun b=>cd fun c=>cd fun d=>rfl
inductive Md where
 | E (c:Code) (fs:List Fr) (jn:List Nat)
 | R (o:Out) (fs:List Fr) (jn:List Nat)
 | L (c:Code) (l:Nat) (fs:List Fr) (jn:List Nat)
 | G (c:Code) (j n0:Nat) (a:List Nat×List Nat) (fs:List Fr) (g:Bool) (kn:List (Nat×Nat)) (jn:List Nat)
def aeV (cx:Cx) (K:Out→St→Res) (s:St):Md→Res
 | .E c fs _=>au cx K (.seq c::fs) .norm s
 | .R o fs _=>au cx K fs o s
 | .L c l fs _=>uO cx K c l fs s
 | .G c j n0 a fs _ _ _=>dM cx c j n0 a (au cx K fs) s
def mD (i:Nat):Code→Bool
 | .exit j=>j==i
 | .seq a b=>mD i a||mD i b
 | .cond _ a b=>mD i a||mD i b
 | .rangeFunc _ _ a b=>mD i a||mD i b
 | .block _ a=>mD i a
 | .loop a=>mD i a
 | .scope a=>mD i a
 | _=>false
def mE:Code→Bool
 | .seq a b=>mE a&&mE b
 | .cond _ a b=>mE a||mE b
 | .exit _=>false
 | .goto _=>false
 | .ret=>false
 | .loop _=>false
 | .block i a=>mE a||mD i a
 | _=>true
def iI:Code→Nat
 | .region _ ops _=>ops.size
 | .seq a b=>iI a+iI b+1
 | .cond _ a b=>iI a+iI b+1
 | .rangeFunc _ _ a b=>iI a+iI b+1
 | .block _ a=>iI a
 | .scope a=>iI a
 | .loop _=>10
 | _=>0
def atJ (jn:List Nat) (n:Nat):Bool:=match jn with | []=>false | x::_=>x==n
def jnT (jn:List Nat) (n:Nat):List Nat:=bif atJ jn n then jn.tail else jn
def Gc (jn:List Nat):List Fr→Nat→Bool
 | [],n=>Nat.ble 3 n
 | .seq c::r,n=>bif atJ jn (r.length+1) then false else bif mE c then Gc jn r (n+iI c) else Nat.ble 3 (n+iI c)
 | _::r,n=>bif atJ jn (r.length+1) then false else Gc jn r n
abbrev sxW (n0:Nat) (st:Bool) (op:Op) (env:List V) (x:Res):Res:=
 bb (st) ((match iC op with | none=>x | some y=>match evO env y with | some v=>stO n0 v x | none=>x)) (x)
def aeO (d:Nat):List (Nat×Nat)→Option Nat
 | []=>none
 | (e,b)::r=>bif e==d then some b else aeO d r
def UJ (d:Nat):List (Nat×Nat)→List (Nat×Nat)
 | []=>[]
 | (e,b)::r=>bif e==d then UJ d r else (e,b)::UJ d r
def knR (d:Option Nat) (kn:List (Nat×Nat)):List (Nat×Nat):=match d with | none=>kn | some d=>UJ d kn
def knS (d:Option Nat) (kn:List (Nat×Nat)):List (Nat×Nat):=match d with | none=>kn | some d=>(d,2)::kn
def wk (cx:Cx) (K:Out→St→Res):Nat→Md→St→Res
 | 0,m,s=>aeV cx K s m
 | n+1,m,s=>match m with
  | .E c fs jn=>match c with
   | .skip=>wk cx K n (.R .norm fs jn) s
   | .region id ops draw=>bb (draw) ((bb (xl ops) (wk cx K n (.G (.region id ops true) 0 s.H.length ([],[]) fs false [] jn) s) (none))) (wk cx K n (.G (.region id ops false) 0 s.H.length ([],[]) fs false [] jn) s)
   | .seq a b=>wk cx K n (.E a (.seq b::fs) jn) s
   | .block id a=>wk cx K n (.E a (.block id::fs) jn) s
   | .scope a=>wk cx K n (.E a (.scope a::fs) jn) s
   | .cond v a b=>onO (evO s.env v) fun v=>
    bb (mE a&&mE b&&Gc jn fs 0) (cnd v (wk cx K n (.E a fs (fs.length::jn)) s) (wk cx K n (.E b fs (fs.length::jn)) s)) (cnd v (wk cx K n (.E a fs jn) s) (wk cx K n (.E b fs jn) s))
   | .exit id=>wk cx K n (.R (.exit id) fs jn) s
   | .goto l=>wk cx K n (.R (.goto l) fs jn) s
   | .ret=>wk cx K n (.R .ret fs jn) s
   | .label _=>wk cx K n (.R .norm fs jn) s
   | .loop a=>itX cx a s.H.length (au cx K fs) cx.n (tidy s.H.length (G2 (cx.M.named cx.fid) (io a ([],[])) false) s)
   | c=>a7 cx c none (au cx K fs) s
  | .R o fs jn=>match o with
   | .norm=>bb (atJ jn fs.length) (au cx K fs .norm s) (match fs with
    | []=>K .norm s
    | .seq c::r=>wk cx K n (.E c r jn) s
    | .block _::r=>wk cx K n (.R .norm r jn) s
    | .scope _::r=>wk cx K n (.R .norm r jn) s
    | .scope2 _::r=>wk cx K n (.R .norm r jn) s)
   | .exit i=>match fs with
    | []=>K (.exit i) s
    | .seq _::r=>wk cx K n (.R (.exit i) r (jnT jn fs.length)) s
    | .block id::r=>bb (i==id) (wk cx K n (.R .norm r (jnT jn fs.length)) s) (wk cx K n (.R (.exit i) r (jnT jn fs.length)) s)
    | .scope _::r=>wk cx K n (.R (.exit i) r (jnT jn fs.length)) s
    | .scope2 _::r=>wk cx K n (.R (.exit i) r (jnT jn fs.length)) s
   | .goto l=>match fs with
    | []=>K (.goto l) s
    | .seq _::r=>wk cx K n (.R (.goto l) r (jnT jn fs.length)) s
    | .block _::r=>wk cx K n (.R (.goto l) r (jnT jn fs.length)) s
    | .scope a::r=>bb (bx l a) (wk cx K n (.L a l (.scope2 a::r) (jnT jn fs.length)) s) (wk cx K n (.R (.goto l) r (jnT jn fs.length)) s)
    | .scope2 a::r=>bb (bx l a) (none) (wk cx K n (.R (.goto l) r (jnT jn fs.length)) s)
   | o=>match fs with
    | []=>K o s
    | _::r=>wk cx K n (.R o r (jnT jn fs.length)) s
  | .L c l fs jn=>match c with
   | .seq a b=>bb (bx l a) (wk cx K n (.L a l (.seq b::fs) jn) s) (wk cx K n (.L b l fs jn) s)
   | .label l'=>bb (l'==l) (wk cx K n (.R .norm fs jn) s) (none)
   | c=>uO cx K c l fs s
  | .G c j n0 a fs g kn jn=>match (li c)[j]? with
   | none=>bb ((ib c).any) (apt a (wk cx K n (.R .norm fs jn) s)) (wk cx K n (.R .norm fs jn) s)
   | some (o,i)=>
    let run:=fun env g kn=>sxW n0 ((ib c).strict i) o.op env (opW cx ((ib c).calm i) ((ib c).ord i) o.op env s.H fun v h=>wk cx K n (.G c (j+1) n0 (FI (ib c) i o.op env a) fs g (knR o.dst kn) jn) ⟨kS env o.dst v,h⟩)
    let skip:=fun env g kn=>wk cx K n (.G c (j+1) n0 a fs g (knS o.dst kn) jn) ⟨kS env o.dst uu,s.H⟩
    match o.guard with
    | none=>bb (g) (dM cx c j n0 a (au cx K fs) s) (run s.env g kn)
    | some (gj,want)=>match ((D5 c)[gj]?).bind (·.dst) with
     | none=>none
     | some d=>match aeO d kn with
      | some _=>match s.env[d]? with
       | some (.lit (.bool b))=>bb (b==want) (run (s.env.set d (.lit (.bool b))) g kn) (skip (s.env.set d (.lit (.bool b))) g kn)
       | some (.lit (.tuple _))=>skip s.env g kn
       | _=>none
      | none=>bb g (dM cx c j n0 a (au cx K fs) s)
       (onO s.env[d]? fun v=>bb want
        (gd v (run (s.env.set d (.lit (.bool true))) true ((d,1)::kn)) (skip (s.env.set d (.lit (.bool false))) true ((d,0)::kn)) (dM cx c (j+1) n0 a (au cx K fs) ⟨kS s.env o.dst uu,s.H⟩))
        (gd v (skip (s.env.set d (.lit (.bool true))) true ((d,1)::kn)) (run (s.env.set d (.lit (.bool false))) true ((d,0)::kn)) (dM cx c (j+1) n0 a (au cx K fs) ⟨kS s.env o.dst uu,s.H⟩)))
section
variable {cx:Cx} {K:Out→St→Res} {c:Code} {j n0:Nat} {a:List Nat×List Nat} {s:St} {r:Res}
theorem Ja (h:(li c)[j]? = none):dM cx c j n0 a K s=if (ib c).any then apt a (K .norm s) else K .norm s:=by
 unfold dM
 rw [List.drop_eq_nil_iff.2 (List.getElem?_eq_none_iff.1 h)]
 rfl
theorem Kq {o:Oper} {i:Nat} (h:(li c)[j]? = some (o,i)):dM cx c j n0 a K s =
  (let run (env:List V):Res:=if dA n0 ((ib c).strict i) o.op env then (opV cx ((ib c).calm i) ((ib c).ord i) o.op env s.H).bind fun p=>dM cx c (j+1) n0 (FI (ib c) i o.op env a) K ⟨kS env o.dst p.1,p.2⟩ else none
   let skip (env:List V):Res:=dM cx c (j+1) n0 a K ⟨kS env o.dst (.lit undef),s.H⟩
   match o.guard with
   | none=>run s.env
   | some (j,want)=>
    match ((D5 c)[j]?).bind (·.dst) with
    | none=>none
    | some d=>
     match s.env[d]? with
     | some (.lit (.bool b))=>Dt b want d s.env run skip
     | some (.lit (.tuple _))=>skip s.env
     | _=>none):=by
 obtain ⟨hj,he⟩:=List.getElem?_eq_some_iff.1 h
 unfold dM
 rw [List.drop_eq_getElem_cons hj,he]
 rfl
theorem Yr {st:Bool} {op:Op} {env:List V} {x:Res}:sxW n0 st op env x=if dA n0 st op env then x else none:=by
 unfold sxW dA n9
 cases st with
 | false=>rfl
 | true=>
  dsimp only [bb,if_true]
  cases iC op with
  | none=>rfl
  | some y=>
   have h:∀ q:Option V,(match q with | some v=>stO n0 v x | none=>x)=if (match (match q with | some v=>HX v | none=>none) with | some i=>decide (i<n0) | none=>true)=true then x else none:=by
    intro q
    cases q with
    | none=>rfl
    | some v=>rfl
   exact h _
end
theorem HK (cx:Cx) (K:Out→St→Res):∀ (n:Nat) (m:Md) (s:St),wk cx K n m s=aeV cx K s m
 | 0,_,_=>rfl
 | n+1,m,s=>by
  have ih:=HK cx K n
  cases m with
  | E c fs jn=>
   cases c with
   | skip=>exact ih _ _
   | region id ops draw=>
    cases draw with
    | false=>exact (ih _ _).trans (go_reg0 rfl).symm
    | true=>
     show bb (xl ops) (wk cx K n _ s) none=_
     cases h:xl ops with
     | true=>exact (ih _ _).trans (go_reg1 h rfl).symm
     | false=>
      show none=a7 cx (.region id ops true) none (au cx K fs) s
      simp [a7,h]
   | seq a b=>exact (ih _ _).trans (go_seq rfl).symm
   | block id a=>exact (ih _ _).trans (go_block rfl).symm
   | scope a=>exact (ih _ _).trans (go_scope rfl).symm
   | cond v a b=>
    show onO (evO s.env v) _=_
    cases h:evO s.env v with
    | none=>
     show none=a7 cx (.cond v a b) none (au cx K fs) s
     simp only [a7,h]
    | some v=>
     refine Eq.trans ?_ (go_cond h rfl rfl).symm
     show bb _ _ _=_
     cases (mE a&&mE b&&Gc jn fs 0) <;> (simp only [bb,ih];rfl)
   | exit id=>exact ih _ _
   | goto l=>exact ih _ _
   | ret=>exact ih _ _
   | label l=>exact ih _ _
   | loop a=>rfl
   | _=>rfl
  | R o fs jn=>
   cases o with
   | norm=>
    show bb _ _ _=_
    cases atJ jn fs.length with
    | true=>rfl
    | false=>cases fs with
     | nil=>rfl
     | cons f r=>cases f <;> exact ih _ _
   | exit i=>
    cases fs with
    | nil=>rfl
    | cons f r=>cases f with
     | block id=>
      show bb (i==id) _ _=if i=id then _ else _
      by_cases h:i=id
      ·subst h
       rw [beq_self_eq_true,if_pos rfl]
       exact ih _ _
      ·rw [beq_false_of_ne h,if_neg h]
       exact ih _ _
     | _=>exact ih _ _
   | goto l=>
    cases fs with
    | nil=>rfl
    | cons f r=>cases f with
     | scope a=>
      show bb (bx l a) _ _=_
      cases h:bx l a with
      | true=>exact (ih _ _).trans (Ec h rfl).symm
      | false=>exact (ih _ _).trans (CX h rfl).symm
     | scope2 a=>
      show bb (bx l a) _ _=au cx K (.scope2 a::r) (.goto l) s
      cases h:bx l a with
      | true=>simp only [au,h,if_true]
      | false=>exact (ih _ _).trans (AU h rfl).symm
     | _=>exact ih _ _
   | ret=>
    cases fs with
    | nil=>rfl
    | cons f r=>cases f <;> exact ih _ _
  | L c l fs jn=>
   cases c with
   | seq a b=>
    show bb (bx l a) _ _=_
    cases h:bx l a with
    | true=>exact (ih _ _).trans (RY h rfl).symm
    | false=>exact (ih _ _).trans (LT h rfl).symm
   | label l'=>
    show bb (l'==l) _ _=a7 cx (.label l') (some l) (au cx K fs) s
    cases h:l'==l with
    | true=>simp only [a7,h,if_true];exact ih _ _
    | false=>simp only [a7,h];rfl
   | _=>rfl
  | G c j n0 a fs g kn jn=>
   show (match (li c)[j]? with | none=>_ | some (o,i)=>_)=dM cx c j n0 a (au cx K fs) s
   cases h:(li c)[j]? with
   | none=>
    rw [Ja h]
    show bb _ _ _=_
    cases (ib c).any <;> (simp only [bb,ih];rfl)
   | some p=>
    obtain ⟨o,i⟩:=p
    have hrun:∀ env g kn,sxW n0 ((ib c).strict i) o.op env (opW cx ((ib c).calm i) ((ib c).ord i) o.op env s.H fun v h=>wk cx K n (.G c (j+1) n0 (FI (ib c) i o.op env a) fs g (knR o.dst kn) jn) ⟨kS env o.dst v,h⟩) =
      if dA n0 ((ib c).strict i) o.op env then (opV cx ((ib c).calm i) ((ib c).ord i) o.op env s.H).bind fun p=>dM cx c (j+1) n0 (FI (ib c) i o.op env a) (au cx K fs) ⟨kS env o.dst p.1,p.2⟩ else none:=by
     intro env g kn
     rw [Yr,Z3]
     congr 1
     congr 1
     funext p
     exact ih _ _
    have hskip:∀ env g kn,wk cx K n (.G c (j+1) n0 a fs g (knS o.dst kn) jn) ⟨kS env o.dst uu,s.H⟩=dM cx c (j+1) n0 a (au cx K fs) ⟨kS env o.dst (.lit undef),s.H⟩:=fun env g kn=>ih _ _
    rw [Kq h]
    dsimp only
    simp only [hrun,hskip]
    cases hg:o.guard with
    | none=>
     cases g with
     | true=>rfl
     | false=>rfl
    | some q=>
     obtain ⟨gj,want⟩:=q
     dsimp only
     cases hd:((D5 c)[gj]?).bind (·.dst) with
     | none=>rfl
     | some d=>
      dsimp only
      cases hk:aeO d kn with
      | some b=>
       dsimp only
       cases he:s.env[d]? with
       | none=>rfl
       | some v=>
        cases v with
        | lit x=>
         cases x with
         | bool t=>cases t <;> cases want <;> rfl
         | _=>rfl
        | _=>rfl
      | none=>
       cases g with
       | true=>rfl
       | false=>
        dsimp only [bb]
        cases he:s.env[d]? with
        | none=>rfl
        | some v=>
         cases v with
         | lit x=>
          cases x with
          | bool t=>cases t <;> cases want <;> rfl
          | tuple x=>cases want <;> rfl
          | _=>cases want <;> rfl
         | _=>cases want <;> rfl
section
variable {cx:Cx} {K:Out→St→Res} {c:Code} {j n0 n:Nat} {a:List Nat×List Nat} {s:St} {r:Res} {fs:List Fr} {o:Out}
theorem kG (h:wk cx K 999 (.G c j n0 a fs false [] []) s=r:=by kernel_rfl):dM cx c j n0 a (au cx K fs) s=r:=(HK ..).symm.trans h
theorem kJ (jn:List Nat) (h:wk cx K 999 (.G c j n0 a fs false [] jn) s=r:=by kernel_rfl):dM cx c j n0 a (au cx K fs) s=r:=(HK ..).symm.trans h
theorem kR (h:wk cx K 999 (.R o fs []) s=r:=by kernel_rfl):au cx K fs o s=r:=(HK ..).symm.trans h
theorem kI (h:wk cx (bK cx c n0 K n) 999 (.E c [] []) s=r:=by kernel_rfl):itX cx c n0 K (n+1) s=r:=NR ((HK ..).symm.trans h)
theorem kB {fn:Func} {args:List V} {H:Hp} (h:wk cx (aC cx.P fn) 999 (.E (am fn) [] []) ⟨args++List.replicate (fn.ntmps - args.length) uu,H⟩=r:=by kernel_rfl) (hb:fn.body=some (am fn):=by rfl):aj cx fn args H=r:=I1 hb ((HK ..).symm.trans h)
end
end Go.Ab
