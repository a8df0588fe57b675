import Derived.Test.YtblpbpnilkfjhaaGreatAbLibB
import Derived.Shelf.Slices.Delete
set_option linter.unusedVariables false
set_option linter.unusedSimpArgs false
namespace Go.Ab
def al:Code→List Nat→Code
 | c,[]=>c
 | .seq a b,i::p=>if i=0 then al a p else al b p
 | .cond _ a b,i::p=>if i=0 then al a p else al b p
 | .block _ a,_::p=>al a p
 | .loop a,_::p=>al a p
 | .scope a,_::p=>al a p
 | .rangeFunc _ _ a b,i::p=>if i=0 then al a p else al b p
 | c,_=>c
def am (fn:Func):Code:=fn.body.getD .skip
structure Sys where
 P:Program
 orc:FuncId→Option (List V→Hp→Option (V×Hp))
 keepRes:FuncId→FuncId→Option (Nat→Bool)
 keepArg:FuncId→Bool
 call:Nat→FuncId→List V→Hp→Option (V×Hp)
 yld:Nat→Nat→List V→Hp→Option (V×Hp)
inductive Fr where
 | seq (c:Code)
 | block (id:Nat)
 | scope (a:Code)
 | scope2 (a:Code)
def uu:V := .lit undef
abbrev Res:=Option (V×Hp)
def au (cx:Cx) (K:Out→St→Res):List Fr→Out→St→Res
 | [],o,s=>K o s
 | .seq c::fs,o,s=>match o with
  | .norm=>aY cx c none (au cx K fs) s
  | o=>au cx K fs o s
 | .block id::fs,o,s=>match o with
  | .exit id'=>if id'=id then au cx K fs .norm s else au cx K fs (.exit id') s
  | o=>au cx K fs o s
 | .scope a::fs,o,s=>match o with
  | .goto l => if bt l a then aY cx a (some l) (fun o' s'' => match o' with | .goto l' => if bt l' a then none else au cx K fs (.goto l') s'' | o' => au cx K fs o' s'') s else au cx K fs (.goto l) s
  | o=>au cx K fs o s
 | .scope2 a::fs,o,s=>match o with
  | .goto l=>if bt l a then none else au cx K fs (.goto l) s
  | o=>au cx K fs o s
def itX (cx:Cx) (c:Code) (n0:Nat) (K:Out→St→Res) (n:Nat) (s:St):Res:=
 JB (aY cx c none) n0 (cx.M.named cx.fid) (gD c ([],[])) K n s
def eg (cx:Cx) (c:Code) (n0:Nat) (K:Out→St→Res) (n:Nat):Out→St→Res:=fun o s'=>match o with
 | .norm=>itX cx c n0 K n (tidy n0 (FO (cx.M.named cx.fid) (gD c ([],[])) false) s')
 | .ret=>K .ret s'
 | o=>K o (tidy n0 (FO (cx.M.named cx.fid) (gD c ([],[])) true) s')
def DE:Code→Array Oper
 | .region _ ops _=>ops
 | _ => #[]
def gu:Code→Rg
 | .region _ ops draw=>if draw then nc ops else Rg.none
 | _=>Rg.none
def ki:Code→List (Oper×Nat)
 | .region _ ops draw=>if draw then aw ops else ops.toList.zipIdx
 | _=>[]
def w8 (ops:Array Oper):List Nat:=(aw ops).map (·.2)
def fU (cx:Cx) (c:Code) (j n0:Nat) (a:List Nat×List Nat) (K:Out→St→Res) (s:St):Res:=
 wJ cx n0 (gu c) (DE c) ((ki c).drop j) a (K .norm) s
def aA (P:Program) (fn:Func):Out→St→Res:=fun o s=>match o with
 | .norm=>(eP P fn.results.toList s).map fun v=>(v,s.H)
 | .ret=>(eP P fn.results.toList s).map fun v=>(v,s.H)
 | _=>none
def bm (x:Option V) (H:Hp) (k:V→Hp→Res):Res:=(x.map fun v=>(v,H)).bind fun p=>k p.1 p.2
def bp (x:Option (V×Hp)) (k:V→Hp→Res):Res:=x.bind fun p=>k p.1 p.2
def bs (x:Option Hp) (k:Hp→Res):Res:=(x.map fun H'=>(V.lit undef,H')).bind fun p=>k p.2
def cnd (c:V) (a b:Res):Res:=match c with
 | .lit (.bool t)=>bif t then a else b
 | _=>none
def gd (c:V) (a b u:Res):Res:=match c with
 | .lit (.bool t)=>bif t then a else b
 | .lit (.tuple _)=>u
 | _=>none
def ar (P:Program) (t:TypeId) (H:Hp):Option (V×Hp):=
 (ef P t).bind fun z=>if a8 (bC z) then let p:=bu (bC z) H;some (.ptr p.2.length 0 0 0,p.2++[.box p.1]) else none
def aO (v:V) (H:Hp):Option (V×Hp):=v.cells.bind fun vs=>let p:=bu vs H;some (.ptr p.2.length 0 0 0,p.2++[.box p.1])
def cO (P:Program) (wl:Nat) (t:TypeId) (len:Nat) (l:List (Nat×V)) (H:Hp):Option (V×Hp):=
 if true && !bd (l.map (·.2)) then none else az P wl t len l H
def be (P:Program) (t:TypeId) (x:V) (H:Hp):Option (V×Hp):=if (ic P t).isSome then (o4 x H).map fun v=>(v,H) else none
def ld (P:Program) (wl:Nat) (t u:TypeId) (s x:V) (H:Hp):Option (V×Hp):=if (ic P u).isSome then bh P wl t s x H else none
def apt (a:List Nat×List Nat) (k:Res):Res:=if po a then k else none
def lgR (v:V) (a:List Nat×List Nat):List Nat×List Nat:=match GN v with | some k=>(k::a.1,a.2) | none=>a
def lgW (v:V) (a:List Nat×List Nat):List Nat×List Nat:=match GN v with | some k=>(a.1,k::a.2) | none=>a
def stB (n0:Nat) (v:V):Bool:=match GN v with | some i=>i<n0 | none=>true
def stO (n0:Nat) (v:V) (k:Res):Res:=if stB n0 v then k else none
def adi:List (Option V)→Option (List V)
 | []=>some []
 | x::xs=>x.bind fun v=>(adi xs).bind fun vs=>some (v::vs)
def dJ (l:List (Option V)) (H:Hp):Res:=((adi l).bind fun vs=>match vs with | [v]=>some v | vs=>some (.tup vs)).map fun v=>(v,H)
section steps
variable {cx:Cx} {K:Out→St→Res} {fs:List Fr} {s:St} {r:Res}
theorem JG {fn:Func} {args:List V} {H:Hp} {c:Code} (hb:fn.body=some c) (h:au cx (aA cx.P fn) [.seq c] .norm ⟨args++List.replicate (fn.ntmps - args.length) uu,H⟩=r):aj cx fn args H=r:=by
 rw [← h]
 unfold aj
 rw [hb]
 have:(fun o s=>match o with
   | .norm=>(eP cx.P fn.results.toList s).map fun v=>(v,s.H)
   | .ret=>(eP cx.P fn.results.toList s).map fun v=>(v,s.H)
   | _=>none:Out→St→Res)=au cx (aA cx.P fn) []:=by
  funext o s
  cases o <;> rfl
 show aY cx c none _ _=aY cx c none (au cx (aA cx.P fn) []) _
 rw [← this]
 rfl
theorem go_seq {a b:Code} (h:au cx K (.seq a :: .seq b::fs) .norm s=r):au cx K (.seq (.seq a b)::fs) .norm s=r:=by
 rw [← h]
 show aY cx a none _ s=aY cx a none (au cx K (.seq b::fs)) s
 congr 1
theorem go_block {id:Nat} {a:Code} (h:au cx K (.seq a :: .block id::fs) .norm s=r):au cx K (.seq (.block id a)::fs) .norm s=r:=by
 rw [← h]
 show aY cx a none _ s=aY cx a none (au cx K (.block id::fs)) s
 congr 1
theorem go_scope {a:Code} (h:au cx K (.seq a :: .scope a::fs) .norm s=r):au cx K (.seq (.scope a)::fs) .norm s=r:=by
 rw [← h]
 show aY cx a none _ s=aY cx a none (au cx K (.scope a::fs)) s
 congr 1
theorem go_ret (h:au cx K fs .ret s=r):au cx K (.seq .ret::fs) .norm s=r:=h
theorem BO {a:Code} {l:Nat} (hl:bt l a=false) (h:au cx K fs (.goto l) s=r):au cx K (.scope a::fs) (.goto l) s=r:=by
 rw [← h]
 simp only [au]
 rw [hl]
 rfl
theorem xd {a:Code} {l:Nat} (hl:bt l a=false) (h:au cx K fs (.goto l) s=r):au cx K (.scope2 a::fs) (.goto l) s=r:=by
 rw [← h]
 simp only [au]
 rw [hl]
 rfl
def rY (cx:Cx) (K:Out→St→Res) (c:Code) (l:Nat) (fs:List Fr) (s:St):Res:=aY cx c (some l) (au cx K fs) s
theorem Dj {a:Code} {l:Nat} (hl:bt l a=true) (h:rY cx K a l (.scope2 a::fs) s=r):au cx K (.scope a::fs) (.goto l) s=r:=by
 rw [← h]
 simp only [au]
 rw [hl]
 simp only [if_true,rY]
 congr 1
theorem Tv {a b:Code} {l:Nat} (hl:bt l a=true) (h:rY cx K a l (.seq b::fs) s=r):rY cx K (.seq a b) l fs s=r:=by
 rw [← h]
 simp only [rY,aY,hl,if_true]
 congr 1
theorem N0 {a b:Code} {l:Nat} (hl:bt l a=false) (h:rY cx K b l fs s=r):rY cx K (.seq a b) l fs s=r:=by
 rw [← h]
 simp [rY,aY,hl]
theorem go_cond {c:Operand} {a b:Code} {v:V} {A B:Res} (hc:evO s.env c=some v) (hA:au cx K (.seq a::fs) .norm s=A) (hB:au cx K (.seq b::fs) .norm s=B) :
  au cx K (.seq (.cond c a b)::fs) .norm s=cnd v A B:=by
 rw [← hA,← hB]
 show aY cx (.cond c a b) none (au cx K fs) s=_
 simp only [aY,hc]
 cases v with
 | lit x=>cases x <;> rfl
 | _=>rfl
theorem go_reg0 {id:Nat} {ops:Array Oper} (h:fU cx (.region id ops false) 0 s.H.length ([],[]) (au cx K fs) s=r):au cx K (.seq (.region id ops false)::fs) .norm s=r:=by
 rw [← h]
 show aY cx (.region id ops false) none (au cx K fs) s=_
 simp [aY,fU,gu,DE,ki]
theorem go_reg1 {id:Nat} {ops:Array Oper} (hok:wc ops=true) (h:fU cx (.region id ops true) 0 s.H.length ([],[]) (au cx K fs) s=r):au cx K (.seq (.region id ops true)::fs) .norm s=r:=by
 rw [← h]
 show aY cx (.region id ops true) none (au cx K fs) s=_
 simp [aY,fU,gu,DE,ki,hok]
section ops
variable {id j n0:Nat} {ops:Array Oper} {a:List Nat×List Nat} {env:List V} {H:Hp} {o:Oper} {i:Nat} {L:List Nat}
theorem abw (hL:w8 ops=L) (hj:L[j]? = some i) (ho:ops.toList[i]? = some o):(aw ops).drop j=(o,i)::(aw ops).drop (j+1):=by
 subst hL
 simp only [w8,List.getElem?_map,Option.map_eq_some_iff] at hj
 obtain ⟨p,hp,rfl⟩:=hj
 have hm:p ∈ aw ops:=List.mem_of_getElem? hp
 have hz:p ∈ ops.toList.zipIdx:=by
  simp only [aw,List.mem_append,List.mem_filter] at hm
  rcases hm with h | h <;> exact h.1
 have hx:ops.toList[p.2]? = some p.1:=by
  obtain ⟨x,k⟩:=p
  simpa [List.mem_zipIdx_iff_getElem?] using hz
 rw [hx] at ho
 cases ho
 rw [List.getElem?_eq_some_iff] at hp
 obtain ⟨hj,he⟩:=hp
 rw [List.drop_eq_getElem_cons hj,he]
def sx (n0:Nat) (st:Bool) (op:Op) (env:List V) (x:Res):Res:=if dq n0 st op env then x else none
theorem aag {st:Bool} {op:Op} {x:Res} (hst:st=false) (h:x=r):sx n0 st op env x=r:=by
 subst hst
 simpa [sx,dq] using h
theorem go_op1 (hL:w8 ops=L) (ha:(nc ops).any=false) (hj:L[j]? = some i) (ho:ops.toList[i]? = some o) (hg:o.guard=none)
  (h:sx n0 ((nc ops).strict i) o.op env ((opV cx ((nc ops).calm i) ((nc ops).ord i) o.op env H).bind (fun p=>fU cx (.region id ops true) (j+1) n0 a K ⟨kF env o.dst p.1,p.2⟩))=r):fU cx (.region id ops true) j n0 a K ⟨env,H⟩=r:=by
 rw [← h]
 simp only [fU,gu,DE,ki,if_true,abw hL hj ho]
 simp only [wJ,hg]
 simp [D6,ha,sx]
variable {gj d:Nat} {v:V} {A B C:Res}
end ops
theorem aaG {X:Option (V×Hp)} {F:V×Hp→Res} {v:V} {H:Hp} (h1:X=some (v,H)) (h2:F (v,H)=r):X.bind F=r:=by
 subst h1
 exact h2
theorem Ns {c:Code} {n0 n:Nat} (h:au cx (eg cx c n0 K n) [.seq c] .norm s=r):itX cx c n0 K (n+1) s=r:=by
 rw [← h]
 show aY cx c none _ s=aY cx c none (au cx (eg cx c n0 K n) []) s
 congr 1
end steps
end Go.Ab
namespace Go.Ab
section combinators
variable {H:Hp} {K:V→Hp→Res} {k:Hp→Res} {A B C:Res}
@[congr] theorem Y0 {x y:Option V} (h:x=y):bm x H K=bm y H K:=by rw [h]
@[congr] theorem Zh {x y:Option (V×Hp)} (h:x=y):bp x K=bp y K:=by rw [h]
@[congr] theorem YY {x y:Option Hp} (h:x=y):bs x k=bs y k:=by rw [h]
@[congr] theorem XK {x y:V} (h:x=y):cnd x A B=cnd y A B:=by rw [h]
@[congr] theorem Ze {x y:V} (h:x=y):gd x A B C=gd y A B C:=by rw [h]
def ob {α β:Type} (x:Option α) (k:α→Option β):Option β:=x.bind k
def ck {β:Type} (c:Bool) (k:Option β):Option β:=bif c then k else none
theorem RY {v:V}:bm (some v) H K=K v H:=rfl
theorem TH:bm none H K=none:=rfl
theorem Tx {v:V} {h:Hp}:bp (some (v,h)) K=K v h:=rfl
theorem P4:bp none K=none:=rfl
theorem Qh {h:Hp}:bs (some h) k=k h:=rfl
theorem TS:bs none k=none:=rfl
theorem WC {α:Type} {x:Option α} {f:α→V}:bm (x.map f) H K=ob x fun a=>K (f a) H:=by cases x <;> rfl
theorem Q5 {α:Type} {x:Option α} {f:α→Option V}:bm (x.bind f) H K=ob x fun a=>bm (f a) H K:=by cases x <;> rfl
theorem YG {α:Type} {x:Option α} {f:α→V×Hp}:bp (x.map f) K=ob x fun a=>K (f a).1 (f a).2:=by cases x <;> rfl
theorem P2 {α:Type} {x:Option α} {f:α→Option (V×Hp)}:bp (x.bind f) K=ob x fun a=>bp (f a) K:=by cases x <;> rfl
theorem Xb {α:Type} {x:Option α} {f:α→Hp}:bs (x.map f) k=ob x fun a=>k (f a):=by cases x <;> rfl
theorem RS {α:Type} {x:Option α} {f:α→Option Hp}:bs (x.bind f) k=ob x fun a=>bs (f a) k:=by cases x <;> rfl
theorem VW {c:Bool} {x:Option V}:bm (bif c then x else none) H K=ck c (bm x H K):=by cases c <;> rfl
theorem Ui {c:Bool} {x:Option (V×Hp)}:bp (bif c then x else none) K=ck c (bp x K):=by cases c <;> rfl
theorem XJ {c:Bool} {x:Option Hp}:bs (bif c then x else none) k=ck c (bs x k):=by cases c <;> rfl
theorem abs {t:Bool}:cnd (.lit (.bool t)) A B=bif t then A else B:=rfl
theorem adO {t:Bool}:gd (.lit (.bool t)) A B C=bif t then A else B:=rfl
theorem adB:gd uu A B C=C:=rfl
theorem cd {β:Type} {A:Option β}:ck true A=A:=rfl
theorem oG {β:Type} {A:Option β}:ck false A=none:=rfl
theorem ae {α β:Type} {a:α} {f:α→Option β}:ob (some a) f=f a:=rfl
theorem Q6 {α β:Type} {f:α→Option β}:ob none f=none:=rfl
end combinators
def idx {α:Type} (l:List α) (i:Int):Option α:=if 0≤i then l[i.toNat]? else none
theorem SV {α:Type} (l:List α) (i:Nat):idx l (i:Int)=l[i]? := by simp [idx]
section ops
variable {P:Program} {t:TypeId} {k k':IntKind} {a b:Int} {x y:V}
theorem Kk:aq P .add t (.lit (.int k a)) (.lit (.int k b))=some (.lit (.int k (k.wrap (a+b)))):=by simp [aq,dC]
theorem M2:aq P .sub t (.lit (.int k a)) (.lit (.int k b))=some (.lit (.int k (k.wrap (a - b)))):=by simp [aq,dC]
theorem NE:aq P .mul t (.lit (.int k a)) (.lit (.int k b))=some (.lit (.int k (k.wrap (a*b)))):=by simp [aq,dC]
theorem NB:aq P .eql t (.lit (.int k a)) (.lit (.int k b))=some (.lit (.bool (a==b))):=by simp [aq,dC]
theorem KL : aq P .neq t (.lit (.int k a)) (.lit (.int k b)) = some (.lit (.bool (a != b))) := by simp [aq, dC]
theorem KE:aq P .lss t (.lit (.int k a)) (.lit (.int k b))=some (.lit (.bool (decide (a<b)))):=by simp [aq,dC]
theorem Og:aq P .leq t (.lit (.int k a)) (.lit (.int k b))=some (.lit (.bool (decide (a≤b)))):=by simp [aq,dC]
theorem NJ:aq P .gtr t (.lit (.int k a)) (.lit (.int k b))=some (.lit (.bool (decide (b<a)))):=by simp [aq,dC]
theorem MW:aq P .geq t (.lit (.int k a)) (.lit (.int k b))=some (.lit (.bool (decide (b≤a)))):=by simp [aq,dC]
theorem N8 : aq P .quo t (.lit (.int k a)) (.lit (.int k b)) = bif b != 0 then some (.lit (.int k (k.wrap (a.tdiv b)))) else none := by
  by_cases h : b = 0
  · simp [aq, dC, h]
  · simp [aq, dC, h, (bne_iff_ne).2 h]
theorem N9 : aq P .rem t (.lit (.int k a)) (.lit (.int k b)) = bif b != 0 then some (.lit (.int k (a.tmod b))) else none := by
  by_cases h : b = 0
  · simp [aq, dC, h]
  · simp [aq, dC, h, (bne_iff_ne).2 h]
theorem G7 {p q:Bool} (h:lY P t=true):aq P .eql t (.lit (.bool p)) (.lit (.bool q))=some (.lit (.bool (p==q))):=by simp [aq,h]
theorem JS {p q:Bool} (h:lY P t=true):aq P .neq t (.lit (.bool p)) (.lit (.bool q))=some (.lit (.bool (!(p==q)))):=by simp [aq,h]
theorem RE {p:Bool}:vUn .not (.lit (.bool p))=some (.lit (.bool !p)):=rfl
theorem TR:vUn .neg (.lit (.int k a))=some (.lit (.int k (k.wrap (0 - a)))):=rfl
theorem TN {p:Bool}:aT (.lit (.bool p)) x y=some (bif p then x else y):=rfl
theorem Fl {l:List V}:ap (.tup (x::l)) 0=some x:=rfl
theorem Ga {l:List V}:ap (.tup (x::y::l)) 1=some y:=rfl
theorem GI {z:V} {l:List V}:ap (.tup (x::y::z::l)) 2=some z:=rfl
end ops
def aG (k:IntKind) (n:Int):List V:=[.lit (.int k n)]
def k7 (b:Bool):List V:=[.lit (.bool b)]
section mem
variable {P:Program} {t:TypeId} {H:Hp} {wl:Nat}
theorem L6 {cs:List V}:ab P t (.rp cs) H=aR P t cs:=rfl
def ldB (P:Program) (t:TypeId) (g row off:Nat):Option B→Option V
 | some (.box cs)=>bif g==0&&row==0 then aR P t (cs.drop off) else none
 | some (.rows _ rs g' _)=>bif g==g' then (rs[row]?).bind fun r=>aR P t (r.drop off) else none
 | _=>none
theorem IC {id g row off:Nat}:ab P t (.ptr id g row off) H=ldB P t g row off (H[id]?):=by
 unfold ab ldB
 dsimp only
 generalize H[id]? = b0
 cases b0 with
 | none=>rfl
 | some b=>cases b <;> simp [Bool.cond_eq_ite]
theorem Qq {off:Nat} {cs:List V}:ldB P t 0 0 off (some (.box cs))=aR P t (cs.drop off):=rfl
theorem ME {α:Type} {l:List α} {enc:α→List V} {g row off e:Nat} {lv:Bool} :
  ldB P t g row off (some (.rows e (l.map enc) g lv))=(l[row]?).bind fun x=>aR P t ((enc x).drop off):=by
 simp [ldB]
 cases l[row]? <;> rfl
def UV (P : Program) (wl : Nat) (t : TypeId) (id g row off : Nat) (vs : List V) (H : Hp) : Option B → Option Hp
  | some (.box cs) =>
    bif g == 0 && row == 0 && aP P t != 0 && vs.length == aP P t && decide (off + vs.length ≤ cs.length) then
      some ((bu vs H).2.set id (.box (spl cs off (bu vs H).1)))
    else none
  | some (.rows _ _ _ _) => (fzL wl true vs H).bind fun p =>
    match p.2[id]? with
    | some (.rows e rs g' true) =>
      bif g == g' && aP P t != 0 && vs.length == aP P t then
        (rs[row]?).bind fun r => bif decide (off + p.1.length ≤ r.length) then some (p.2.set id (.rows e (rs.set row (spl r off p.1)) g' true)) else none
      else none
    | _ => none
  | _ => none
theorem GH {id g row off : Nat} {v : V} : ah P wl t (.ptr id g row off) v H = (v.cells).bind fun vs => bif Nat.ble wl id then UV P wl t id g row off vs H (H[id]?) else none := by
  unfold ah
  cases hv : v.cells with
  | none => simp
  | some vs =>
    simp only [Option.bind_some]
    cases hw : Nat.ble wl id with
    | false => simp
    | true =>
      simp only [if_true, cond_true]
      unfold UV
      generalize H[id]? = b0
      cases b0 with
      | none => rfl
      | some b =>
        cases b with
        | box cs => simp only [Bool.cond_eq_ite, Bool.and_eq_true, beq_iff_eq, bne_iff_ne, decide_eq_true_eq, and_assoc]
        | rows e rs g' lv =>
          simp only
          congr 1
          funext p
          generalize p.2[id]? = b1
          cases b1 with
          | none => rfl
          | some b => 
            cases b with
            | rows e rs g' lv => cases lv <;> simp [Bool.cond_eq_ite, and_assoc]
            | _ => rfl
        | _ => rfl
theorem bV {α : Type} {l : List α} {enc : α → List V} {e : TypeId} {k : IntKind} {n : Int} (hu : P.underlying t = some (.slice e)) (hs : ∀ x, (enc x).length = aP P e) (hz : (aP P e != 0) = true) :
    ak P t (.ro (l.map enc)) (.lit (.int k n)) H = (idx l n).map fun x => .rp (enc x) := by
  have hz' : aP P e ≠ 0 := by simpa using hz
  unfold ak idx
  simp only [hu]
  split
  · cases hl : l[n.toNat]? with
    | none => simp [hl]
    | some x => simp [hl, hs, hz']
  · rfl
def ixB (sz g len id:Nat) (n:Int):Option B→Option V
 | some (.rows s _ g' _)=>bif g==g'&&s==sz then bif decide (0≤n∧n.toNat<len) then some (.ptr id g n.toNat 0) else none else none
 | _=>none
theorem ba {id g len : Nat} {e : TypeId} {k : IntKind} {n : Int} (hu : P.underlying t = some (.slice e)) (hz : (aP P e != 0) = true) :
    ak P t (.own id g len) (.lit (.int k n)) H = ixB (aP P e) g len id n (H[id]?) := by
  have hz' : aP P e ≠ 0 := by simpa using hz
  unfold ak ixB
  simp only [hu]
  by_cases hn : 0 ≤ n
  · simp only [hn, if_true, true_and]
    generalize H[id]? = b0
    cases b0 with
    | none => rfl
    | some b =>
      cases b with
      | rows s rs g' lv =>
        simp only [hz', ne_eq, not_false_eq_true, and_true, Bool.cond_eq_ite, Bool.and_eq_true, beq_iff_eq, decide_eq_true_eq]
      | _ => rfl
  · simp only [hn, if_false, false_and, decide_false]
    generalize H[id]? = b0
    cases b0 with
    | none => rfl
    | some b =>
      cases b with
      | rows s rs g' lv => simp
      | _ => rfl
theorem Oe {sz g len id:Nat} {n:Int} {rs:List (List V)} {lv:Bool}:ixB sz g len id n (some (.rows sz rs g lv))=bif decide (0≤n∧n.toNat<len) then some (.ptr id g n.toNat 0) else none:=by
 simp [ixB]
theorem Su {rows:List (List V)}:o4 (.ro rows) H=some (.lit (.int .i64 rows.length)):=rfl
theorem MK:o4 .nil H=some (.lit (.int .i64 0)):=rfl
def lnB (g len:Nat):Option B→Option V
 | some (.rows _ _ g' _)=>bif g==g' then some (.lit (.int .i64 len)) else none
 | _=>none
theorem Kh {id g len:Nat}:o4 (.own id g len) H=lnB g len (H[id]?):=by
 unfold o4 lnB
 dsimp only
 generalize H[id]? = b0
 cases b0 with
 | none=>rfl
 | some b=>cases b <;> simp [Bool.cond_eq_ite]
theorem NH {g len e:Nat} {rs:List (List V)} {lv:Bool}:lnB g len (some (.rows e rs g lv))=some (.lit (.int .i64 len)):=by simp [lnB]
theorem Ao {v:Value} (h:v.oneCell'=true):aO (.lit v) H=some (.ptr H.length 0 0 0,H++[.box [.lit v]]):=by
 simp [aO,V.cells,V.one,h,bu]
theorem Hi {k:IntKind} {n:Int}:aO (.lit (.int k n)) H=some (.ptr H.length 0 0 0,H++[.box [.lit (.int k n)]]):=Ao rfl
theorem Gy {b:Bool}:aO (.lit (.bool b)) H=some (.ptr H.length 0 0 0,H++[.box [.lit (.bool b)]]):=Ao rfl
theorem LZ {r:List (List V)}:aO (.ro r) H=some (.ptr H.length 0 0 0,H++[.box [.ro r]]):=by simp [aO,V.cells,V.one,bu]
theorem Ih {l:List V}:aO (.agg l) H=some (.ptr (bu l H).2.length 0 0 0,(bu l H).2++[.box (bu l H).1]):=by simp [aO,V.cells]
theorem KD:bu [] H=([],H):=rfl
theorem NU {v:Value} {l:List V}:bu (.lit v::l) H=(.lit v::(bu l H).1,(bu l H).2):=rfl
theorem S1 {r:List (List V)} {l:List V}:bu (.ro r::l) H=(.ro r::(bu l H).1,(bu l H).2):=rfl
theorem Ob {i g n:Nat} {l:List V}:bu (.own i g n::l) H=(.own i g n::(bu l H).1,(bu l H).2):=rfl
theorem MF {i g n o:Nat} {l:List V}:bu (.ptr i g n o::l) H=(.ptr i g n o::(bu l H).1,(bu l H).2):=rfl
theorem RF {f:Fn} {a b l:List V}:bu (.fn f a b::l) H=(.fn f a b::(bu l H).1,(bu l H).2):=rfl
theorem G2 {l:List V}:bu (.nil::l) H=(.own H.length 0 0::(bu l (H++[.rows 0 [] 0 true])).1,(bu l (H++[.rows 0 [] 0 true])).2):=rfl
theorem Bk {v:Value} (h:v.oneCell'=true):V.cells (.lit v)=some [.lit v]:=by simp [V.cells,V.one,h]
theorem I8 {k:IntKind} {n:Int}:V.cells (.lit (.int k n))=some [.lit (.int k n)]:=Bk rfl
theorem GB {b:Bool}:V.cells (.lit (.bool b))=some [.lit (.bool b)]:=Bk rfl
theorem K5 {r:List (List V)}:V.cells (.ro r)=some [.ro r]:=rfl
theorem JR {i g n:Nat}:V.cells (.own i g n)=some [.own i g n]:=rfl
theorem Jm {i g n o:Nat}:V.cells (.ptr i g n o)=some [.ptr i g n o]:=rfl
theorem N1 {f:Fn} {a b:List V}:V.cells (.fn f a b)=some [.fn f a b]:=rfl
theorem JQ:V.cells .nil=some [.nil]:=rfl
theorem IH {l:List V}:V.cells (.agg l)=some l:=rfl
theorem Le {id g row off:Nat}:aN (.ptr id g row off) H=(match H[id]? with
  | some (.box _)=>bif g==0 then some (.ptr id g row off) else none
  | some (.rows _ _ g' _)=>bif g==g' then some (.ptr id g row off) else none
  | _=>none):=by
 unfold aN
 dsimp only
 generalize H[id]? = b0
 cases b0 with
 | none=>rfl
 | some b=>cases b <;> simp [Bool.cond_eq_ite]
theorem Tn {f:FuncId} {a b:List V}:aN (.fn (.func f) a b) H=some (.fn (.func f) a b):=rfl
theorem P7 {c:List V}:aN (.rp c) H=some (.rp c):=rfl
theorem Hv {cx:Cx} {c:Code} {n0:Nat} {K:Out→St→Res} {n:Nat} {s:St}:eg cx c n0 K n .ret s=K .ret s:=rfl
theorem Wd {v:V}:dJ [some v] H=some (v,H):=rfl
theorem Xs {v w:V}:dJ [some v,some w] H=some (.tup [v,w],H):=rfl
theorem Vb {v w x:V}:dJ [some v,some w,some x] H=some (.tup [v,w,x],H):=rfl
end mem
end Go.Ab
namespace Go.Ab
mutual
def V.data:V→Bool
 | .lit _=>true
 | .ro _=>true
 | .nil=>true
 | .agg cs=>gG cs
 | .fn _ a b=>JI a&&JI b
 | _=>false
def JI:List V→Bool
 | []=>true
 | v::vs=>v.data&&JI vs
def gG:List V→Bool
 | []=>true
 | .lit _::vs=>gG vs
 | .ro _::vs=>gG vs
 | _::_=>false
end
theorem ib:∀ {l:List V},gG l=true→bd l=true
 | [],_=>rfl
 | .lit _::vs,h=>by
  have:=ib (l:=vs) (by simpa [gG] using h)
  simp [bd,V.pure,this]
 | .ro _::vs,h=>by
  have:=ib (l:=vs) (by simpa [gG] using h)
  simp [bd,V.pure,this]
 | .nil::_,h | .any::_,h | .junk::_,h | .agg _::_,h | .tup _::_,h | .fn .. :: _,h | .yld _::_,h | .rp _::_,h | .ptr .. :: _,h | .own .. :: _,h | .map _::_,h=>by simp [gG] at h
mutual
theorem GT:∀ {v:V},v.data=true→v.pure=true
 | .lit _,_ | .ro _,_ | .nil,_=>rfl
 | .agg cs,h=>ib h
 | .fn _ a b,h=>by
  simp [V.data] at h
  simp [V.pure,nJ h.1,nJ h.2]
 | .any,h | .junk,h | .tup _,h | .yld _,h | .rp _,h | .ptr ..,h | .own ..,h | .map _,h=>by simp [V.data] at h
theorem nJ:∀ {l:List V},JI l=true→bd l=true
 | [],_=>rfl
 | v::vs,h=>by
  simp [JI] at h
  simp [bd,GT h.1,nJ h.2]
end
def ml (cx:Cx) (g:FuncId) (args:List V):Option (V×Hp):=(cx.call 0 g args []).bind fun p=>ko (cx.M.keepRes cx.fid g) p.1 p.2
section ret
variable {H:Hp}
theorem M7 {v:Value} {h:Hp}:ko none (.lit v) h=some (.lit v,[]):=rfl
def fzB (wl id g len:Nat) (H:Hp):Option B→Option (V×Hp)
 | some (.rows e rs g' _)=>bif g==g'&&decide (len≤rs.length)&&(cB rs&&Nat.ble wl id) then some (.ro (rs.take len),H.set id (.rows e rs g' false)) else none
 | _=>none
theorem nW {wl id g len:Nat}:fzC wl (.own id g len) H=fzB wl id g len H (H[id]?):=by
 unfold fzC fzB
 dsimp only
 generalize H[id]? = b
 cases b with
 | none=>rfl
 | some b=>
  cases b with
  | rows e rs g' lv=>
   by_cases h1:g=g'
   ·by_cases h2:len≤rs.length <;> cases h3:(cB rs&&Nat.ble wl id) <;> simp [h1,h2]
   ·simp [h1,beq_false_of_ne h1]
  | _=>rfl
theorem Ky {α:Type} {l:List α} {enc:α→List V} {wl id g e len:Nat} {lv:Bool} (hl:len=l.length) (hp:∀ x,bd (enc x)=true) (hw:Nat.ble wl id=true) :
  fzB wl id g len H (some (.rows e (l.map enc) g lv))=some (.ro (l.map enc),H.set id (.rows e (l.map enc) g false)):=by
 subst hl
 have h1:cB (l.map enc)=true:=by
  rw [cB,List.all_eq_true]
  intro r hr
  obtain ⟨x,_,rfl⟩:=List.mem_map.1 hr
  exact hp x
 have h2:(l.map enc).take l.length=l.map enc:=by rw [List.take_of_length_le];simp
 simp [fzB,h1,hw,h2]
theorem Nw {α:Type} {l:List α} {enc:α→List V} {id g e len:Nat} {lv:Bool} {h:Hp} (hb:h[id]? = some (.rows e (l.map enc) g lv)) (hl:len=l.length) (hp:∀ x,bd (enc x)=true) :
  ko none (.own id g len) h=some (.ro (l.map enc),[]):=by
 simp only [ko,fzR,Aw,fzA,nW,hb,Ky hl hp (by simp:Nat.ble 0 id=true),Option.bind_some,V.pure,if_true]
end ret
section app
variable {P:Program} {wl:Nat} {t:TypeId} {H:Hp}
theorem BF {r:List (List V)}:bO (.ro r) H=some r:=rfl
theorem FB:bO .nil H=some []:=rfl
def roB (g len:Nat):Option B→Option (List (List V))
 | some (.rows _ rs g' _)=>bif g==g'&&decide (len≤rs.length) then some (rs.take len) else none
 | _=>none
theorem Gl {id g len:Nat}:bO (.own id g len) H=roB g len (H[id]?):=by
 unfold bO roB
 dsimp only
 generalize H[id]? = b
 cases b with
 | none=>rfl
 | some b=>cases b <;> simp [Bool.cond_eq_ite]
def apB (wl _e:Nat) (sz bytes id g len:Nat) (xs:List (List V)) (H:Hp):Option B→Option (V×Hp)
 | some (.rows s rs g' live)=>
  bif Nat.ble wl id&&(g==g')&&decide (len≤rs.length)&&(live||len==rs.length)&&(s==sz||s==0)&&decide ((len+xs.length)*bytes≤70368744177664) then
   some (.own id (g+1) (len+xs.length),H.set id (.rows sz (rs.take len++xs) (g+1) live)) else none
 | _=>none
theorem dS {e:TypeId} {id g len:Nat} {x:V} (he:ic P t=some e) (hg:Db P e=true) :
  bh P wl t (.own id g len) x H=(bO x H).bind fun xs=>bif bS (aP P e) xs then apB wl e (aP P e) (P.bytesOf e) id g len xs H (H[id]?) else none:=by
 unfold bh
 simp only [he]
 cases hr:bO x H with
 | none=>rfl
 | some xs=>
  simp only [Option.bind_some,hg,Bool.and_true]
  cases bS (aP P e) xs with
  | false=>rfl
  | true=>
   simp only [if_true,cond_true,apB]
   generalize H[id]? = b
   cases b with
   | none=>rfl
   | some b=>
    cases b with
    | rows s rs g' lv=>simp [Bool.cond_eq_ite,and_assoc]
    | _=>rfl
theorem dY {e:TypeId} {x:V} (he:ic P t=some e) (hg:Db P e=true) :
  bh P wl t .nil x H=(bO x H).bind fun xs=>bif bS (aP P e) xs then bif decide (xs.length*P.bytesOf e≤70368744177664) then some (.own H.length 0 xs.length,H++[.rows (aP P e) xs 0 true]) else none else none:=by
 unfold bh
 simp only [he]
 cases hr:bO x H with
 | none=>rfl
 | some xs=>
  simp only [Option.bind_some,hg,Bool.and_true]
  cases bS (aP P e) xs with
  | false=>rfl
  | true=>simp [Bool.cond_eq_ite]
theorem dA {α:Type} {l:List α} {enc:α→List V} {sz:Nat} (h:∀ x,(enc x).length=sz):bS sz (l.map enc)=true:=by
 rw [bS,List.all_eq_true]
 intro r hr
 obtain ⟨x,_,rfl⟩:=List.mem_map.1 hr
 simp [h]
def room (n bytes:Nat):Bool:=decide (n*bytes≤70368744177664)
theorem wo {e : TypeId} {n : Int} {z : Value} {Z : List V} (he : ic P t = some e) (hz : ef P e = some z) (hZ : a7.fzZ (bC z) = Z) (ho : (a8 (bC z) && (bC z).length == aP P e && aP P e != 0) = true) :
    a7 P t (.lit (.int .i64 n)) (.lit (.int .i64 n)) H = bif decide (0 ≤ n ∧ n ≤ 9223372036854775807 ∧ n * P.bytesOf e ≤ 70368744177664) then some (.own H.length 0 n.toNat, H ++ [.rows (aP P e) (List.replicate n.toNat Z) 0 true]) else none := by
  unfold a7
  simp only [he, hz, ho, if_true, hZ, true_and, Bool.cond_eq_ite, decide_eq_true_eq]
end app
theorem eR {α:Type} {l:List α} {enc:α→List V} {n:Nat} (hp:∀ x,bd (enc x)=true):kf n (l.map enc)=l.map enc:=by
 have h1:cB (l.map enc)=true:=by
  rw [cB,List.all_eq_true]
  intro r hr
  obtain ⟨x,_,rfl⟩:=List.mem_map.1 hr
  exact hp x
 simp [kf,h1]
theorem ee {α:Type} {l:List α} {enc:α→List V} {n:Nat} (hp:∀ x,bd (enc x)=true):gJ n (l.map enc)=l.map enc:=by
 have h1:cB (l.map enc)=true:=by
  rw [cB,List.all_eq_true]
  intro r hr
  obtain ⟨x,_,rfl⟩:=List.mem_map.1 hr
  exact hp x
 simp [gJ,h1]
theorem Gx {n:Nat}:gJ n []=[]:=rfl
theorem Jq {n:Nat}:kf n []=[]:=rfl
theorem oS (k:IntKind) (x:Int):bd (aG k x)=true:=rfl
theorem nj (x:Bool):bd (k7 x)=true:=rfl
theorem ik (x:Int×List Int):bd (an x)=true:=rfl
theorem lP (x:Int×Int×Int):bd (aE x)=true:=rfl
theorem IW {k:IntKind} {l:List Int} {n:Nat}:kf n (l.map (aG k))=l.map (aG k):=eR (oS k)
theorem Fk {l:List Bool} {n:Nat}:kf n (l.map k7)=l.map k7:=eR nj
theorem Gg {l:List (Int×List Int)} {n:Nat}:kf n (l.map an)=l.map an:=eR ik
theorem Ct {l:List (Int×Int×Int)} {n:Nat}:kf n (l.map aE)=l.map aE:=eR lP
theorem GD {k:IntKind} {l:List Int} {n:Nat}:gJ n (l.map (aG k))=l.map (aG k):=ee (oS k)
theorem Ci {l:List Bool} {n:Nat}:gJ n (l.map k7)=l.map k7:=ee nj
theorem DA {l:List (Int×List Int)} {n:Nat}:gJ n (l.map an)=l.map an:=ee ik
theorem Ax {l:List (Int×Int×Int)} {n:Nat}:gJ n (l.map aE)=l.map aE:=ee lP
theorem Gr {n:Nat} {cs:List V}:B.shift n (.box cs) = .box (gB n cs):=rfl
theorem B6 {n e g:Nat} {rs:List (List V)} {l:Bool}:B.shift n (.rows e rs g l) = .rows e (gJ n rs) g l:=rfl
theorem Jn {n:Nat} {cs:List V}:B.kill n (.box cs) = .box (ie n cs):=rfl
theorem Fm {n e g:Nat} {rs:List (List V)} {l:Bool}:B.kill n (.rows e rs g l) = .rows e (kf n rs) g l:=rfl
theorem Fy {n:Nat}:B.kill n .dead = .dead:=rfl
theorem HS {l:List Bool} {i:Nat} {b:Bool}:(l.map k7).set i [.lit (.bool b)]=(l.set i b).map k7:=by rw [List.map_set];rfl
theorem Mh {k:IntKind} {l:List Int} {i:Nat} {b:Int}:(l.map (aG k)).set i [.lit (.int k b)]=(l.set i b).map (aG k):=by rw [List.map_set];rfl
theorem J2 {n:Nat} {b:Bool}:List.replicate n [V.lit (.bool b)]=(List.replicate n b).map k7:=by rw [List.map_replicate];rfl
theorem KR {k:IntKind} {n:Nat} {b:Int}:List.replicate n [V.lit (.int k b)]=(List.replicate n b).map (aG k):=by rw [List.map_replicate];rfl
theorem Oc {α:Type} {l:List α} {f:α→List V} {i:Nat}:(l.map f)[i]? = (l[i]?).map f:=List.getElem?_map
theorem adJ {n:Nat}:Nat.ble 0 n=true:=by cases n <;> rfl
theorem Lx (x:Int×List Int):an x=[.lit (.int .i64 x.1),.ro (x.2.map (aG .i64))]:=rfl
theorem Io {keep:Option (Nat→Bool)} {v:Value} {h:Hp}:ko keep (.lit v) h=some (.lit v,[]):=by
 cases keep <;> rfl
theorem La {keep:Option (Nat→Bool)} {r:List (List V)} {h:Hp}:ko keep (.ro r) h=some (.ro r,[]):=by
 cases keep <;> rfl
theorem ID {z:Int} (h1 : -9223372036854775808≤z) (h2:z≤9223372036854775807):IntKind.i64.wrap z=z:=by
 simp [IntKind.wrap,IntKind.bits,IntKind.signed]
 omega
end Go.Ab
namespace Go.Ab
def bdK (id n:Nat):Out→St→Res:=fun o s=>match s.H[id]? with
 | some (.loop l)=>some (.lit (.bool (dc o).isNone),bX n (s.H.set id (.loop { l with st:=if (dc o).isNone then .ready else .done,pending:=dc o })))
 | _=>none
def asK (cx:Cx) (id n:Nat) (body:Code):Out→St→Res:=fun o s=>match o with
 | .norm=>match s.H[id]? with
  | some (.loop l)=>if l.st = .ready then au cx (bdK id n) [.seq body] .norm ⟨s.env,s.H.set id (.loop { l with st := .busy })⟩ else none
  | _=>none
 | _=>none
def rfK (K:Out→St→Res) (env:List V) (n:Nat) (p:V×Hp):Res:=
 match p.2[n]? with
 | some (.loop l)=>if l.st = .busy then none else
  match l.pending with
  | none=>K .norm ⟨env,bX n p.2⟩
  | some .ret=>K .ret ⟨env,bX n p.2⟩
  | some (.exit id)=>K (.exit id) ⟨env,bX n p.2⟩
  | some (.goto id)=>K (.goto id) ⟨env,bX n p.2⟩
  | some _=>none
 | _=>none
def OZ {σ α:Type} (step:σ→α→Bool×σ):List α→σ→Bool×σ
 | [],s=>(true,s)
 | x::r,s=>if (step s x).1 then OZ step r (step s x).2 else step s x
end Go.Ab
namespace Go.Ab
theorem cj {α:Type} {l r:List α} {x:α} {i:Nat} (h:l.drop i=x::r):i<l.length∧l[i]? = some x∧l.drop (i+1)=r∧x ∈ l∧l.length=i+1+r.length:=by
 have h0:i<l.length:=by
  have:=congrArg List.length h
  simp at this
  omega
 have h1:l.drop i=l[i]::l.drop (i+1):=List.drop_eq_getElem_cons h0
 rw [h] at h1
 injection h1 with h2 h3
 refine ⟨h0,by rw [List.getElem?_eq_getElem h0,h2],h3.symm,h2 ▸ List.getElem_mem h0,?_⟩
 have:=congrArg List.length h
 simp at this
 omega
theorem cY {α:Type} {l:List α} {i:Nat} (h:l.drop i=[]):l.length≤i:=List.drop_eq_nil_iff.1 h
theorem fd {α:Type} {l:List α} {i:Nat} {x:α} (h:l[i]? = some x):idx l (i:Int)=some x:=by rw [SV,h]
theorem ltT {a b:Int} (h:a<b):decide (a<b)=true:=decide_eq_true h
theorem ltF {a b:Int} (h:b≤a):decide (a<b)=false:=decide_eq_false (by omega)
theorem leT {a b:Int} (h:a≤b):decide (a≤b)=true:=decide_eq_true h
theorem leF {a b:Int} (h:b<a):decide (a≤b)=false:=decide_eq_false (by omega)
theorem fZ {k d:Nat} (h:d<k):∃ j,k=j+1:=⟨k - 1,by omega⟩
theorem fA {i:Nat} (h:i≤9223372036854775806):IntKind.i64.wrap ((i:Int)+1)=((i+1:Nat):Int):=by
 rw [ID (by omega) (by omega)]
 omega
end Go.Ab
namespace Go.Ab
def F9 {α:Type} (p:α→Bool):List α→Nat→Int
 | [],_ => -1
 | x::r,i=>if p x then (i:Int) else F9 p r (i+1)
theorem rv {α:Type} (p:α→Bool):∀ (l:List α) (i:Nat),decide (0≤F9 p l i)=l.any p
 | [],_=>rfl
 | x::r,i=>by
  by_cases h:p x=true
  ·simp [F9,h]
  ·simpa [F9,h] using rv p r (i+1)
end Go.Ab
namespace Go.Ab
theorem adP {n:Nat} (h:n≤30):decide ((30:Int)<n)=false:=decide_eq_false (by omega)
end Go.Ab
namespace Go.Ab
theorem adW {n:Nat} (h:30<n):decide ((30:Int)<n)=true:=decide_eq_true (by omega)
end Go.Ab
namespace Go.Ab
theorem O8 {n:Nat}:decide ((n:Int)≤40)=decide (n≤40):=by
 by_cases h:n≤40
 ·rw [decide_eq_true h,decide_eq_true (by omega)]
 ·rw [decide_eq_false h,decide_eq_false (by omega)]
end Go.Ab
namespace Go.Ab
section one
variable {wl e sz bytes id g len s:Nat} {H:Hp} {lv:Bool}
theorem Dx {n b:Nat} (h:n*b≤70368744177664):room n b=true:=decide_eq_true h
end one
end Go.Ab
namespace Go.Ab
theorem dQ {α:Type} {l:List α} {enc:α→List V} (hp:∀ x,bd (enc x)=true):cB (l.map enc)=true:=by
 rw [cB,List.all_eq_true]
 intro r hr
 obtain ⟨x,_,rfl⟩:=List.mem_map.1 hr
 exact hp x
theorem rj {k:IntKind} {l:List Int}:cB (l.map (aG k))=true:=dQ (oS k)
theorem Fi {l:List (Int×List Int)}:cB (l.map an)=true:=dQ ik
theorem Dq {l:List (Int×Int×Int)}:cB (l.map aE)=true:=dQ lP
theorem Fq {l:List Bool}:cB (l.map k7)=true:=dQ nj
end Go.Ab
namespace Go.Ab
section slices
variable {P:Program} {wl:Nat} {c:Bool} {t e:TypeId} {α:Type} {l:List α} {enc:α→List V} {k k':IntKind} {n lo:Int} {H:Hp}
theorem Di (h:∀ x,(enc x).length=aP P e):(l.map enc).all (fun r=>r.length==aP P e)=true:=by
 rw [List.all_eq_true]
 intro r hr
 obtain ⟨x,_,rfl⟩:=List.mem_map.1 hr
 simp [h]
theorem Br (he : ic P t = some e) (hz : (aP P e != 0) = true) (h : ∀ x, (enc x).length = aP P e) :
    db P wl c t (.ro (l.map enc)) none (some (.lit (.int k n))) none H = bif decide (0 ≤ n ∧ n ≤ l.length) then some (.ro ((l.take n.toNat).map enc), H) else none := by
  have hz' : aP P e ≠ 0 := by simpa using hz
  unfold db
  simp only [he, bnd]
  by_cases h0 : 0 ≤ n
  · simp only [h0, if_true, Option.bind_some, true_and]
    by_cases h1 : n ≤ l.length
    · have h2 : n.toNat ≤ l.length := by omega
      simp [h1, h2, hz', Di h, List.map_take]
    · have h2 : ¬ n.toNat ≤ l.length := by omega
      simp [h1, h2]
  · simp [h0]
theorem Bm (he : ic P t = some e) (hz : (aP P e != 0) = true) (h : ∀ x, (enc x).length = aP P e) :
    db P wl c t (.ro (l.map enc)) (some (.lit (.int k n))) none none H = bif decide (0 ≤ n ∧ n ≤ l.length) then some (.ro ((l.drop n.toNat).map enc), H) else none := by
  have hz' : aP P e ≠ 0 := by simpa using hz
  unfold db
  simp only [he, bnd]
  by_cases h0 : 0 ≤ n
  · simp only [h0, if_true, Option.bind_some, true_and]
    by_cases h1 : n ≤ l.length
    · have h2 : n.toNat ≤ l.length := by omega
      simp [h1, h2, hz', Di h, List.map_drop, List.take_of_length_le]
    · have h2 : ¬ n.toNat ≤ l.length := by omega
      simp [h1, h2]
  · simp [h0]
theorem pZ (he : ic P t = some e) (hz : (aP P e != 0) = true) (h : ∀ x, (enc x).length = aP P e) :
    db P wl c t (.ro (l.map enc)) (some (.lit (.int k lo))) (some (.lit (.int k' n))) none H = bif decide (0 ≤ lo ∧ lo ≤ n ∧ n ≤ l.length) then some (.ro (((l.take n.toNat).drop lo.toNat).map enc), H) else none := by
  have hz' : aP P e ≠ 0 := by simpa using hz
  unfold db
  simp only [he, bnd]
  by_cases h0 : 0 ≤ lo
  · by_cases h3 : 0 ≤ n
    · simp only [h0, h3, if_true, Option.bind_some, true_and]
      by_cases h1 : n ≤ l.length
      · have h2 : n.toNat ≤ l.length := by omega
        by_cases h4 : lo ≤ n
        · have h5 : lo.toNat ≤ n.toNat := by omega
          simp [h1, h2, h4, h5, hz', Di h, List.map_take, List.map_drop]
        · have h5 : ¬ lo.toNat ≤ n.toNat := by omega
          simp [h4, h5]
      · have h2 : ¬ n.toNat ≤ l.length := by omega
        simp [h1, h2]
    · have : ¬ (0 ≤ lo ∧ lo ≤ n ∧ n ≤ (l.length : Int)) := by omega
      simp [h3, this]
  · simp [h0]
end slices
end Go.Ab
namespace Go.Ab
end Go.Ab
namespace Go.Ab
def bq {α β:Type} (x:Option α) (F:α→Option β):Option β:=x.bind F
@[congr] theorem Y4 {α β:Type} {x y:Option α} {F:α→Option β} (h:x=y):bq x F=bq y F:=by rw [h]
def sif {β:Type} (c:Bool) (a b:β):β:=bif c then a else b
@[congr] theorem W9 {β:Type} {c d:Bool} {a b:β} (h:c=d):sif c a b=sif d a b:=by rw [h]
theorem lz {β:Type} {a b:β}:sif true a b=a:=rfl
theorem lg {β:Type} {a b:β}:sif false a b=b:=rfl
section
variable {α β γ:Type}
theorem Tu {a:α} {F:α→Option β}:bq (some a) F=F a:=rfl
theorem Qx {F:α→Option β}:bq none F=none:=rfl
theorem Tj {c:Bool} {x y:Option α} {F:α→Option β}:bq (bif c then x else y) F=bif c then bq x F else bq y F:=by cases c <;> rfl
theorem acH {x:Option γ} {f:γ→Option α} {F:α→Option β}:bq (ob x f) F=ob x fun a=>bq (f a) F:=by cases x <;> rfl
theorem aad {c:Bool} {x:Option α} {F:α→Option β}:bq (ck c x) F=ck c (bq x F):=by cases c <;> rfl
theorem Vm {x:Option γ} {f:γ→α} {F:α→Option β}:bq (x.map f) F=ob x fun a=>F (f a):=by cases x <;> rfl
theorem Rv {x:Option γ} {f:γ→Option α} {F:α→Option β}:bq (x.bind f) F=ob x fun a=>bq (f a) F:=by cases x <;> rfl
theorem UX {c:Bool} {x:Option α} {F:α→Option β}:bq (bif c then x else none) F=ck c (bq x F):=by cases c <;> rfl
theorem acW {x:Option γ} {f:γ→Option α} {F:α→Option β}:bq (bq x f) F=bq x fun a=>bq (f a) F:=by cases x <;> rfl
theorem ab7 {x:Option γ} {f:γ→Option α} {F:α→Option β}:ob (ob x f) F=ob x fun a=>ob (f a) F:=by cases x <;> rfl
theorem QF {c:Bool} {x y:Option α} {F:α→Option β}:ob (bif c then x else y) F=bif c then ob x F else ob y F:=by cases c <;> rfl
theorem Zz {c:Bool} {x:Option α} {F:α→Option β}:ob (ck c x) F=ck c (ob x F):=by cases c <;> rfl
theorem UQ {x:Option γ} {f:γ→α} {F:α→Option β}:ob (x.map f) F=ob x fun a=>F (f a):=by cases x <;> rfl
end
section
variable {α:Type} {H:Hp} {K:V→Hp→Res} {k:Hp→Res}
theorem Zx {x:Option α} {f:α→Option V}:bm (ob x f) H K=ob x fun a=>bm (f a) H K:=by cases x <;> rfl
theorem aa4 {x:Option α} {f:α→Option (V×Hp)}:bp (ob x f) K=ob x fun a=>bp (f a) K:=by cases x <;> rfl
theorem ZW {x:Option α} {f:α→Option Hp}:bs (ob x f) k=ob x fun a=>bs (f a) k:=by cases x <;> rfl
theorem QJ {c:Bool} {x y:Option V}:bm (bif c then x else y) H K=bif c then bm x H K else bm y H K:=by cases c <;> rfl
theorem Tg {c:Bool} {x y:Option (V×Hp)}:bp (bif c then x else y) K=bif c then bp x K else bp y K:=by cases c <;> rfl
theorem SD {c:Bool} {x y:Option Hp}:bs (bif c then x else y) k=bif c then bs x k else bs y k:=by cases c <;> rfl
theorem abI {c:Bool} {x:Option V}:bm (ck c x) H K=ck c (bm x H K):=by cases c <;> rfl
theorem acl {c:Bool} {x:Option (V×Hp)}:bp (ck c x) K=ck c (bp x K):=by cases c <;> rfl
theorem Z0 {c:Bool} {x:Option Hp}:bs (ck c x) k=ck c (bs x k):=by cases c <;> rfl
end
def rt (kp:Option (Nat→Bool)) (x:Res):Res:=x.bind fun p=>ko kp p.1 p.2
section rt
variable {kp:Option (Nat→Bool)} {α:Type} {h:Hp}
theorem P5:rt kp none=none:=rfl
theorem Dn {v:V}:rt kp (some (v,h))=ko kp v h:=rfl
theorem Rs {c:Bool} {x y:Res}:rt kp (bif c then x else y)=bif c then rt kp x else rt kp y:=by cases c <;> rfl
theorem Sd {x:Option α} {f:α→Res}:rt kp (ob x f)=ob x fun a=>rt kp (f a):=by cases x <;> rfl
theorem abp {c:Bool} {x:Res}:rt kp (ck c x)=ck c (rt kp x):=by cases c <;> rfl
def rtN (v:V) (H:Hp):Res:=bq (fzR 0 v H) fun q=>sif q.1.pure (some (q.1,[])) (some q)
theorem AK {v:V}:ko none v h=rtN v h:=by
 show (fzR 0 v h).bind _=(fzR 0 v h).bind _
 congr 1
 funext q
 cases hq:q.1.pure <;> simp [sif,hq]
theorem R7:ko none .nil h=some (.ro [],[]):=rfl
theorem PW {c:List V}:ko none (.agg c) h=rtN (.agg c) h:=AK
theorem Qc {c:List V}:ko none (.tup c) h=rtN (.tup c) h:=AK
theorem So {i g l:Nat}:ko none (.own i g l) h=rtN (.own i g l) h:=AK
theorem Q4 {i:Nat}:ko none (.map i) h=some (.map i,h):=rfl
theorem V4 {f:Fn} {a b:List V}:ko none (.fn f a b) h=rtN (.fn f a b) h:=AK
theorem PT {i g r o:Nat}:ko none (.ptr i g r o) h=some (.ptr i g r o,h):=rfl
end rt
section fz
variable {wl:Nat} {H:Hp} {nl:Bool}
theorem RR {vs:List V}:fzR wl (.tup vs) H=bq (i9 wl vs H) fun p=>some (.tup p.1,p.2):=rfl
theorem QU {v:Value}:fzR wl (.lit v) H=some (.lit v,H):=rfl
theorem U0 {r:List (List V)}:fzR wl (.ro r) H=some (.ro r,H):=rfl
theorem ST:fzR wl .nil H=some (.ro [],H):=rfl
theorem Yo {f:Fn} {a b:List V}:fzR wl (.fn f a b) H=some (.fn f a b,H):=rfl
theorem Qf {i g r o:Nat}:fzR wl (.ptr i g r o) H=some (.ptr i g r o,H):=rfl
theorem Se {i:Nat}:fzR wl (.map i) H=some (.map i,H):=rfl
theorem Q2 {i g l:Nat}:fzR wl (.own i g l) H=fzB wl i g l H (H[i]?):=nW
theorem SQ {c:List V}:fzR wl (.agg c) H=bq (fzL wl true c H) fun p=>some (.agg p.1,p.2):=rfl
theorem I6:i9 wl [] H=some ([],H):=rfl
theorem HR {v:Value} {vs:List V}:i9 wl (.lit v::vs) H=bq (i9 wl vs H) fun q=>some (.lit v::q.1,q.2):=rfl
theorem Ly {r:List (List V)} {vs:List V}:i9 wl (.ro r::vs) H=bq (i9 wl vs H) fun q=>some (.ro r::q.1,q.2):=rfl
theorem GA {vs:List V}:i9 wl (.nil::vs) H=bq (i9 wl vs H) fun q=>some (.ro []::q.1,q.2):=rfl
theorem MR {f:Fn} {a b vs:List V}:i9 wl (.fn f a b::vs) H=bq (i9 wl vs H) fun q=>some (.fn f a b::q.1,q.2):=rfl
theorem IT {i g l:Nat} {vs:List V}:i9 wl (.own i g l::vs) H=bq (fzB wl i g l H (H[i]?)) fun p=>bq (i9 wl vs p.2) fun q=>some (p.1::q.1,q.2):=by
 show (fzC wl (.own i g l) H).bind _=_
 rw [nW]
 rfl
theorem Ix {c vs:List V}:i9 wl (.agg c::vs) H=bq (fzL wl true c H) fun p=>bq (i9 wl vs p.2) fun q=>some (.agg p.1::q.1,q.2):=by
 show ((fzL wl true c H).bind _).bind _=_
 cases fzL wl true c H <;> rfl
theorem LG:fzL wl nl [] H=some ([],H):=rfl
theorem Kt {v:Value} {vs:List V}:fzL wl nl (.lit v::vs) H=bq (fzL wl nl vs H) fun q=>some (.lit v::q.1,q.2):=rfl
theorem S4 {r:List (List V)} {vs:List V}:fzL wl nl (.ro r::vs) H=bq (fzL wl nl vs H) fun q=>some (.ro r::q.1,q.2):=rfl
theorem J5 {vs:List V}:fzL wl true (.nil::vs) H=bq (fzL wl true vs H) fun q=>some (.ro []::q.1,q.2):=rfl
theorem Qb {f:Fn} {a b vs:List V}:fzL wl nl (.fn f a b::vs) H=bq (fzL wl nl vs H) fun q=>some (.fn f a b::q.1,q.2):=rfl
theorem MS {i g r o:Nat} {vs:List V}:fzL wl nl (.ptr i g r o::vs) H=bq (fzL wl nl vs H) fun q=>some (.ptr i g r o::q.1,q.2):=rfl
theorem MJ {i g l:Nat} {vs:List V}:fzL wl nl (.own i g l::vs) H=bq (fzB wl i g l H (H[i]?)) fun p=>bq (fzL wl nl vs p.2) fun q=>some (p.1::q.1,q.2):=by
 show (fzC wl (.own i g l) H).bind _=_
 rw [nW]
 rfl
theorem Kj:kK wl [] H=some ([],H):=rfl
theorem MG {v:Value} {vs:List V}:kK wl (.lit v::vs) H=bq (kK wl vs H) fun q=>some (.lit v::q.1,q.2):=rfl
theorem QS {r:List (List V)} {vs:List V}:kK wl (.ro r::vs) H=bq (kK wl vs H) fun q=>some (.ro r::q.1,q.2):=rfl
theorem HP {vs:List V}:kK wl (.nil::vs) H=bq (kK wl vs H) fun q=>some (.nil::q.1,q.2):=rfl
theorem Sx {f:Fn} {a b vs:List V}:kK wl (.fn f a b::vs) H=bq (kK wl vs H) fun q=>some (.fn f a b::q.1,q.2):=rfl
theorem Mq {i:Nat} {vs:List V}:kK wl (.yld i::vs) H=bq (kK wl vs H) fun q=>some (.yld i::q.1,q.2):=rfl
theorem Ke {i:Nat} {vs:List V}:kK wl (.map i::vs) H=bq (kK wl vs H) fun q=>some (.map i::q.1,q.2):=rfl
theorem K9 {i g r o:Nat} {vs:List V}:kK wl (.ptr i g r o::vs) H=bq (kK wl vs H) fun q=>some (.ptr i g r o::q.1,q.2):=rfl
theorem Ms {i g l:Nat} {vs:List V}:kK wl (.own i g l::vs) H=bq (fzB wl i g l H (H[i]?)) fun p=>bq (kK wl vs p.2) fun q=>some (p.1::q.1,q.2):=by
 show (fzC wl (.own i g l) H).bind _=_
 rw [nW]
 rfl
theorem LI {c vs:List V}:kK wl (.agg c::vs) H=bq (fzL wl true c H) fun p=>bq (kK wl vs p.2) fun q=>some (.agg p.1::q.1,q.2):=by
 show ((fzL wl true c H).bind _).bind _=_
 cases fzL wl true c H <;> rfl
theorem adN {i g len e g':Nat} {rs:List (List V)} {lv:Bool}:fzB wl i g len H (some (.rows e rs g' lv))=sif (g==g'&&(cB rs&&Nat.ble wl i)) (ck (decide (len≤rs.length)) (some (.ro (rs.take len),H.set i (.rows e rs g' false)))) none:=by
 show (bif g==g'&&decide (len≤rs.length)&&(cB rs&&Nat.ble wl i) then _ else _)=_
 generalize (g==g')=a
 generalize decide (len≤rs.length)=b
 generalize (cB rs&&Nat.ble wl i)=c
 cases a <;> cases b <;> cases c <;> rfl
end fz
theorem Nz {α:Type} {l:List α} {n:Nat} (h:l.length=n):l.take n=l:=List.take_of_length_le (by omega)
theorem Jf:cB []=true:=rfl
theorem Gh {r:List V} {rs:List (List V)}:cB (r::rs)=(bd r&&cB rs):=rfl
def Ce (n:Nat):Hp→Hp
 | []=>[]
 | b::H=>b.kill n::Ce n H
def ot (n:Nat):Hp→Hp
 | []=>[]
 | b::H=>b.shift n::ot n H
theorem EG {n:Nat}:∀ {H:Hp},H.map (B.kill n)=Ce n H
 | []=>rfl
 | b::H=>by simp [Ce,EG (H:=H)]
theorem pp {n:Nat}:∀ {H:Hp},H.map (B.shift n)=ot n H
 | []=>rfl
 | b::H=>by simp [ot,pp (H:=H)]
theorem P9 {n:Nat} {H:Hp}:bX n H=Ce n (H.take n):=EG
theorem HU {n:Nat}:Ce n []=[]:=rfl
theorem Gk {n:Nat} {b:B} {H:Hp}:Ce n (b::H)=b.kill n::Ce n H:=rfl
theorem Fv {n:Nat}:ot n []=[]:=rfl
theorem Dy {n:Nat} {b:B} {H:Hp}:ot n (b::H)=b.shift n::ot n H:=rfl
theorem Dh {n:Nat} {st:LoopState} {pe:Option Code} {f:FuncId} {ts:List V} {ps:List Tmp} {a b:Code}:B.kill n (.loop ⟨st,pe,f,ts,ps,a,b⟩) = .loop ⟨st,pe,f,ie n ts,ps,a,b⟩:=rfl
def nsh (H:Hp) (v:V) (H2:Hp):Res:=sif (decide (H.length≤H2.length)) (some (v,H2)) none
theorem Pb {H H2:Hp} {v:V}:cA H (v,H2)=nsh H v H2:=by
 unfold cA nsh sif
 by_cases h:H.length≤H2.length
 ·simp [h]
 ·simp [h]
theorem ac7 {n m:Nat}:Nat.ble n m=decide (n≤m):=by
 have h:(Nat.ble n m=true)=(n≤m):=Nat.ble_eq
 cases hb:Nat.ble n m with
 | true=>
  rw [hb] at h
  exact (decide_eq_true (h.mp rfl)).symm
 | false=>
  rw [hb] at h
  exact (decide_eq_false (fun e=>Bool.noConfusion (h.mpr e))).symm
theorem w6 {H:Hp} {c:Bool} {x y:V×Hp}:cA H (sif c x y)=sif c (cA H x) (cA H y):=by cases c <;> rfl
def ldQ (H H':Hp) (q:V×Hp):Res:=cA H (q.1.shift H'.length,bif (q.1.shift H'.length).scal then H else H'++q.2.map (B.shift H'.length))
theorem Om {H H':Hp} {v:V} {h:Hp}:ldQ H H' (v,h)=nsh H (v.shift H'.length) (sif (v.shift H'.length).scal H (H'++ot H'.length h)):=by
 unfold ldQ
 rw [Pb,pp]
 rfl
theorem Tc {H H':Hp} {v:Value} {h:Hp}:ldQ H H' (.lit v,h)=some (.lit v,H):=by
 rw [Om]
 simp [nsh,sif,V.shift,V.scal]
def ldP (H:Hp) (q:V×Hp):Res:=some (q.1.shift H.length,H++q.2.map (B.shift H.length))
theorem Ud {H:Hp} {v:V} {h:Hp}:ldP H (v,h)=some (v.shift H.length,H++ot H.length h):=by
 unfold ldP
 rw [pp]
theorem pF {cx:Cx} {g:FuncId} {args:List V} {H:Hp}:f9 cx g args H=bq (ml cx g args) (ldP H):=by
 unfold f9 ml bq ldP
 cases h:cx.call 0 g args [] with
 | none=>rfl
 | some p=>rfl
theorem If {cx:Cx} {o:Bool} {g:FuncId} {first caps args:List V} {H:Hp} :
  cX cx false o (.fn (.func g) first caps) args H=bq (sif (cx.M.keepArg g) (some (first++args++caps,H)) (kK cx.wl (first++args++caps) H)) fun a=>
   sif (bd a.1) (bq (ml cx g a.1) (ldQ H a.2))
    (bq (cx.call cx.wl g a.1 a.2) fun p=>bq (sif (cx.M.keepRes cx.fid g).isSome (some p) (fzR cx.wl p.1 p.2)) fun q=>cA H (sif q.1.pure (q.1,bX a.2.length q.2) q)):=by
 unfold cX xj
 simp only [Bool.false_eq_true,if_false]
 have e1:(if cx.M.keepArg g=true then some (first++args++caps,H) else kK cx.wl (first++args++caps) H)=sif (cx.M.keepArg g) (some (first++args++caps,H)) (kK cx.wl (first++args++caps) H):=by
  cases cx.M.keepArg g <;> rfl
 rw [e1]
 unfold bq
 cases sif (cx.M.keepArg g) (some (first++args++caps,H)) (kK cx.wl (first++args++caps) H) with
 | none=>rfl
 | some a=>
  simp only [Option.bind_some]
  cases hp:bd a.1 with
  | true=>
   simp only [if_true,lz,pF]
   unfold bq
   cases ml cx g a.1 <;> rfl
  | false=>
   simp only [Bool.false_eq_true,if_false,lg]
   cases cx.call cx.wl g a.1 a.2 with
   | none=>rfl
   | some p=>
    simp only [Option.bind_some]
    have e2:(if (cx.M.keepRes cx.fid g).isSome=true then some p else fzR cx.wl p.1 p.2)=sif (cx.M.keepRes cx.fid g).isSome (some p) (fzR cx.wl p.1 p.2):=by
     cases (cx.M.keepRes cx.fid g).isSome <;> rfl
    rw [e2]
    cases sif (cx.M.keepRes cx.fid g).isSome (some p) (fzR cx.wl p.1 p.2) with
    | none=>rfl
    | some q=>
     simp only [Option.bind_some]
     cases hq:q.1.pure <;> simp [sif]
theorem F7 {cx:Cx} {g:FuncId} {first caps args:List V} {H:Hp} :
  cX cx true true (.fn (.func g) first caps) args H =
   sif (bd (first++args++caps)) (bq (ml cx g (first++args++caps)) (ldP H)) (sif (cx.M.keepArg g) none (bq (kK cx.wl (first++args++caps) H) fun a=>
    sif (bd a.1) (bq (ml cx g a.1) fun q=>bq (ldP a.2 q) fun q=>some (q.1,sif q.1.scal H q.2)) (bq (cx.call a.2.length g a.1 a.2) fun p=>sif p.1.scal (some (p.1,H)) none))):=by
 unfold cX f8
 simp only [if_true,pF]
 cases bd (first++args++caps) with
 | true=>rfl
 | false=>
  simp only [Bool.false_eq_true,if_false,lg]
  cases cx.M.keepArg g with
  | true=>rfl
  | false=>
   simp only [Bool.false_eq_true,if_false,lg]
   unfold bq
   cases kK cx.wl (first++args++caps) H with
   | none=>rfl
   | some a=>
    simp only [Option.bind_some]
    cases bd a.1 with
    | true=>
     simp only [if_true,lz]
     cases ml cx g a.1 <;> rfl
    | false=>
     simp only [Bool.false_eq_true,if_false,lg]
     cases cx.call a.2.length g a.1 a.2 with
     | none=>rfl
     | some p=>
      simp only [Option.bind_some]
      cases hs:p.1.scal <;> simp [sif]
theorem Ft {cx:Cx} {g:FuncId} {first caps args:List V} {H:Hp} :
  cX cx true false (.fn (.func g) first caps) args H=sif (bd (first++args++caps)) (bq (bq (cx.call 0 g (first++args++caps) []) fun p=>ko none p.1 p.2) fun q=>sif q.1.pure (some (q.1,H)) none) none:=by
 unfold cX f8
 simp only [if_true,Bool.false_eq_true,if_false]
 cases bd (first++args++caps) with
 | false=>rfl
 | true=>
  simp only [if_true,lz]
  unfold bq
  cases cx.call 0 g (first++args++caps) [] with
  | none=>rfl
  | some p=>
   simp only [Option.bind_some,AK]
   unfold rtN bq
   cases fzR 0 p.1 p.2 with
   | none=>rfl
   | some q=>
    simp only [Option.bind_some]
    cases hq:q.1.pure <;> simp [sif,hq]
section rounds
variable {P:Program} {M:Mode}
def yB (P:Program) (M:Mode) (k wl id:Nat) (args:List V) (H:Hp):Option B→Res
 | some (.loop l)=>Ac { P,M,fid:=l.fn,round:=true,wl,call:=evF P M k,yld:=evY P M k,n:=k } id l args H
 | _=>none
theorem Qk {k wl id:Nat} {args:List V} {H:Hp}:evY P M (k+1) wl id args H=yB P M k wl id args H (H[id]?):=by
 unfold yB
 simp only [evY]
 generalize H[id]? = b
 cases b with
 | none=>rfl
 | some b=>cases b <;> rfl
theorem Mc {k wl id:Nat} {args:List V} {H:Hp} {pe:Option Code} {f:FuncId} {ts:List V} {ps:List Tmp} {a b:Code} :
  yB P M k wl id args H (some (.loop ⟨.ready,pe,f,ts,ps,a,b⟩))=sif (decide (args.length=ps.length)&&Nat.ble wl id)
   (au { P,M,fid:=f,round:=true,wl,call:=evF P M k,yld:=evY P M k,n:=k } (asK { P,M,fid:=f,round:=true,wl,call:=evF P M k,yld:=evY P M k,n:=k } id H.length b) [.seq a] .norm ⟨dx ts ps args,H⟩) none:=by
 unfold yB Ac
 by_cases h:args.length=ps.length
 ·cases hw:Nat.ble wl id with
  | true=>
   simp only [h,hw,and_self,if_true,decide_true,Bool.and_self,lz]
   show aY _ a none _ _=aY _ a none (au _ _ []) _
   congr 1
  | false=>simp [hw,sif]
 ·simp [h,sif]
def asB (cx:Cx) (id n:Nat) (body:Code) (env:List V) (H:Hp):Option B→Res
 | some (.loop l)=>if l.st = .ready then au cx (bdK id n) [.seq body] .norm ⟨env,H.set id (.loop { l with st := .busy })⟩ else none
 | _=>none
theorem P3 {cx:Cx} {id n:Nat} {body:Code} {env:List V} {H:Hp}:asK cx id n body .norm ⟨env,H⟩=asB cx id n body env H (H[id]?):=by
 unfold asK asB
 rfl
theorem H8 {cx:Cx} {id n:Nat} {body:Code} {env:List V} {H:Hp} {pe:Option Code} {f:FuncId} {ts:List V} {ps:List Tmp} {a b:Code} :
  asB cx id n body env H (some (.loop ⟨.ready,pe,f,ts,ps,a,b⟩))=au cx (bdK id n) [.seq body] .norm ⟨env,H.set id (.loop ⟨.busy,pe,f,ts,ps,a,b⟩)⟩:=rfl
def bdB (id n:Nat) (o:Out) (H:Hp):Option B→Res
 | some (.loop l)=>some (.lit (.bool (dc o).isNone),bX n (H.set id (.loop { l with st:=if (dc o).isNone then .ready else .done,pending:=dc o })))
 | _=>none
theorem PH {id n:Nat} {o:Out} {env:List V} {H:Hp}:bdK id n o ⟨env,H⟩=bdB id n o H (H[id]?):=by
 unfold bdK bdB
 rfl
section
variable {id n:Nat} {H:Hp} {st:LoopState} {pe:Option Code} {f:FuncId} {ts:List V} {ps:List Tmp} {a b:Code}
theorem LO:bdB id n .norm H (some (.loop ⟨st,pe,f,ts,ps,a,b⟩))=some (.lit (.bool true),bX n (H.set id (.loop ⟨.ready,none,f,ts,ps,a,b⟩))):=rfl
theorem Ty:bdB id n .ret H (some (.loop ⟨st,pe,f,ts,ps,a,b⟩))=some (.lit (.bool false),bX n (H.set id (.loop ⟨.done,some .ret,f,ts,ps,a,b⟩))):=rfl
theorem Kv {i:Nat}:bdB id n (.exit i) H (some (.loop ⟨st,pe,f,ts,ps,a,b⟩))=some (.lit (.bool false),bX n (H.set id (.loop ⟨.done,some (.exit i),f,ts,ps,a,b⟩))):=rfl
theorem M3 {i:Nat}:bdB id n (.goto i) H (some (.loop ⟨st,pe,f,ts,ps,a,b⟩))=some (.lit (.bool false),bX n (H.set id (.loop ⟨.done,some (.goto i),f,ts,ps,a,b⟩))):=rfl
def rfB (K:Out→St→Res) (env:List V) (H:Hp):Option B→Res
 | some (.loop l)=>if l.st = .busy then none else
  match l.pending with
  | none=>K .norm ⟨env,H⟩
  | some .ret=>K .ret ⟨env,H⟩
  | some (.exit id)=>K (.exit id) ⟨env,H⟩
  | some (.goto id)=>K (.goto id) ⟨env,H⟩
  | some _=>none
 | _=>none
theorem QY {K:Out→St→Res} {env:List V} {v:V} {h:Hp}:rfK K env n (v,h)=rfB K env (bX n h) (h[n]?):=by
 unfold rfK rfB
 rfl
theorem LB {K:Out→St→Res} {env:List V}:rfB K env H (some (.loop ⟨.ready,none,f,ts,ps,a,b⟩))=K .norm ⟨env,H⟩:=rfl
theorem Hr {K:Out→St→Res} {env:List V}:rfB K env H (some (.loop ⟨.done,none,f,ts,ps,a,b⟩))=K .norm ⟨env,H⟩:=rfl
theorem Qd {K:Out→St→Res} {env:List V}:rfB K env H (some (.loop ⟨.done,some .ret,f,ts,ps,a,b⟩))=K .ret ⟨env,H⟩:=rfl
theorem Np {K:Out→St→Res} {env:List V} {i:Nat}:rfB K env H (some (.loop ⟨.done,some (.exit i),f,ts,ps,a,b⟩))=K (.exit i) ⟨env,H⟩:=rfl
theorem Lb {K:Out→St→Res} {env:List V} {i:Nat}:rfB K env H (some (.loop ⟨.done,some (.goto i),f,ts,ps,a,b⟩))=K (.goto i) ⟨env,H⟩:=rfl
end
def rgC (cx:Cx) (ps:List Tmp) (a b:Code) (K:Out→St→Res) (env:List V) (H:Hp):V→Res
 | .fn (.func g) [] caps=>bq (cx.call cx.wl g (.yld H.length::caps) (H++[.loop ⟨.ready,none,cx.fid,env,ps,a,b⟩])) (rfK K env H.length)
 | _=>none
theorem Wn {cx:Cx} {ps:List Tmp} {a b:Code} {K:Out→St→Res} {env:List V} {H:Hp} {g:FuncId} {caps:List V} :
  rgC cx ps a b K env H (.fn (.func g) [] caps)=bq (cx.call cx.wl g (.yld H.length::caps) (H++[.loop ⟨.ready,none,cx.fid,env,ps,a,b⟩])) (rfK K env H.length):=rfl
theorem KG {cx:Cx} {f:Operand} {ps:Array Tmp} {a b:Code} {K:Out→St→Res} {env:List V} {H:Hp} (hr:cx.round=false) :
  aY cx (.rangeFunc f ps a b) none K ⟨env,H⟩=sif (Nat.ble cx.wl H.length) (bq (evO env f) (rgC cx ps.toList a b K env H)) none:=by
 simp only [aY,hr,Bool.false_or]
 cases hw:Nat.ble cx.wl H.length with
 | false=>rfl
 | true=>
  simp only [Bool.not_true,Bool.false_eq_true,if_false,lz]
  cases hf:evO env f with
  | none=>rfl
  | some v=>
   simp only [bq,Option.bind_some]
   cases v with
   | fn f first caps=>
    cases f with
    | func g=>
     cases first with
     | nil=>
      simp only [rgC]
      unfold bq
      congr 1
     | cons=>rfl
    | _=>rfl
   | _=>rfl
end rounds
end Go.Ab
namespace Go.Ab
def nm:List V→List (Nat×Nat×V)→Option (List V)
 | cells,[]=>some cells
 | cells,(off,size,v)::rest=>
  match v.cells with
  | some vs=>if vs.length=size∧off+vs.length≤cells.length then nm (spl cells off vs) rest else none
  | none=>none
theorem Ni {cells:List V}:nm cells []=some cells:=rfl
theorem GZ {cells:List V} {off size:Nat} {v:V} {rest:List (Nat×Nat×V)}:nm cells ((off,size,v)::rest)=bq v.cells fun vs=>sif (decide (vs.length=size∧off+vs.length≤cells.length)) (nm (spl cells off vs) rest) none:=by
 simp only [nm]
 cases v.cells with
 | none=>rfl
 | some vs=>
  simp only [bq,Option.bind_some]
  by_cases h:vs.length=size∧off+vs.length≤cells.length
  ·rw [if_pos h,decide_eq_true h];rfl
  ·rw [if_neg h,decide_eq_false h];rfl
theorem Ha {wl size:Nat} {rs:List (List V)} {H:Hp}:eG wl size [] rs H=some (rs,H):=rfl
theorem FJ {wl size i:Nat} {v:V} {rest:List (Nat×V)} {rs:List (List V)} {H:Hp}:eG wl size ((i,v)::rest) rs H=bq v.cells fun vs=>bq (fzL wl true vs H) fun p=>sif (decide (i<rs.length∧p.1.length=size)) (eG wl size rest (rs.set i p.1) p.2) none:=by
 simp only [eG]
 cases v.cells with
 | none=>rfl
 | some vs=>
  simp only [bq,Option.bind_some]
  cases fzL wl true vs H with
  | none=>rfl
  | some p=>
   simp only [Option.bind_some]
   by_cases h:i<rs.length∧p.1.length=size
   ·rw [if_pos h,decide_eq_true h];rfl
   ·rw [if_neg h,decide_eq_false h];rfl
theorem G1 {x y:Int}:nu (.int .i64 x) (.int .i64 y)=(x==y):=rfl
theorem FI {k:Value} {v:V}:fW k v []=[(k,v)]:=rfl
theorem DG {k:Value} {v:V} {e:Value×V} {es:List (Value×V)}:fW k v (e::es)=sif (nu k e.1) ((k,v)::es) (e::fW k v es):=by
 simp only [fW]
 cases nu k e.1 <;> rfl
def Kd (kk:IntKind):List (Value×V)→Bool
 | []=>true
 | e::es=>fP kk e.1&&Kd kk es
theorem NO {kk:IntKind}:Kd kk []=true:=rfl
theorem GR {kk:IntKind} {e:Value×V} {es:List (Value×V)}:Kd kk (e::es)=(fP kk e.1&&Kd kk es):=rfl
theorem Cu {x:Int}:fP .i64 (.int .i64 x)=true:=rfl
def inB (wl:Nat) (kk:IntKind) (id:Nat) (n:Int) (v:V) (H:Hp):Option B→Option Hp
 | some (.map es)=>if es.all (fun e=>fP kk e.1)&&true&&Nat.ble wl id then some (H.set id (.map (fW (.int kk n) v es))) else none
 | _=>none
theorem PL {kk:IntKind}:∀ {es:List (Value×V)},es.all (fun e=>fP kk e.1)=Kd kk es
 | []=>rfl
 | e::es=>by simp [Kd,PL (es:=es)]
theorem TP {wl id:Nat} {kk:IntKind} {n:Int} {v:V} {H:Hp} {es:List (Value×V)}:inB wl kk id n v H (some (.map es))=sif (Kd kk es&&Nat.ble wl id) (some (H.set id (.map (fW (.int kk n) v es)))) none:=by
 simp only [inB,PL,Bool.and_true]
 cases Kd kk es&&Nat.ble wl id <;> rfl
def lkB (kk:IntKind) (z:V) (ok:Bool) (n:Int):Option B→Option V
 | some (.map es)=>if es.all (fun e=>fP kk e.1)&&true then some (bif ok then .tup [(fR (.int kk n) z es).1,.lit (.bool (fR (.int kk n) z es).2)] else (fR (.int kk n) z es).1) else none
 | _=>none
def lkO (kk:IntKind) (z:V) (ok:Bool) (n:Int):List (Value×V)→Option V
 | []=>some (sif ok (.tup [z,.lit (.bool false)]) z)
 | e::es=>bif nu (.int kk n) e.1 then some (sif ok (.tup [e.2,.lit (.bool true)]) e.2) else lkO kk z ok n es
theorem Po {kk:IntKind} {z:V} {ok:Bool} {n:Int}:∀ {es:List (Value×V)},some (bif ok then V.tup [(fR (.int kk n) z es).1,.lit (.bool (fR (.int kk n) z es).2)] else (fR (.int kk n) z es).1)=lkO kk z ok n es
 | []=>by cases ok <;> rfl
 | e::es=>by
  simp only [fR,lkO]
  cases nu (.int kk n) e.1 with
  | true=>cases ok <;> rfl
  | false=>exact Po (es:=es)
theorem Te {kk:IntKind} {z:V} {ok:Bool} {n:Int} {es:List (Value×V)}:lkB kk z ok n (some (.map es))=sif (Kd kk es) (lkO kk z ok n es) none:=by
 simp only [lkB,PL,Bool.and_true,Po]
 cases Kd kk es <;> rfl
theorem RU {kk:IntKind} {z:V} {ok:Bool} {n:Int}:lkO kk z ok n []=some (sif ok (.tup [z,.lit (.bool false)]) z):=rfl
theorem Lg {kk:IntKind} {z:V} {ok:Bool} {n:Int} {e:Value×V} {es:List (Value×V)}:lkO kk z ok n (e::es)=bif nu (.int kk n) e.1 then some (sif ok (.tup [e.2,.lit (.bool true)]) e.2) else lkO kk z ok n es:=rfl
def agO:Int→List V→Int→Option V
 | _,[],_=>none
 | i,c::cs,n=>bif n==i then some c else agO (i+1) cs n
theorem QG {i n:Int}:agO i [] n=none:=rfl
theorem Mu {i n:Int} {c:V} {cs:List V}:agO i (c::cs) n=bif n==i then some c else agO (i+1) cs n:=rfl
theorem Ib {p:Bool} {k:IntKind} {a b:Int}:aT (.lit (.bool p)) (.lit (.int k a)) (.lit (.int k b))=some (.lit (.int k (bif p then a else b))):=by cases p <;> rfl
theorem FA {p a b:Bool}:aT (.lit (.bool p)) (.lit (.bool a)) (.lit (.bool b))=some (.lit (.bool (bif p then a else b))):=by cases p <;> rfl
theorem N5 {k:IntKind} {a b:Int}:gC true [.lit (.int k a),.lit (.int k b)]=some (.lit (.int k (bif decide (a<b) then b else a))):=by
 simp only [gC,if_true,cond_true,gt_iff_lt]
 by_cases h:a<b <;> simp [h]
theorem LF {k:IntKind} {a b:Int}:gC false [.lit (.int k a),.lit (.int k b)]=some (.lit (.int k (bif decide (b<a) then b else a))):=by
 simp only [gC,if_true,cond_false]
 by_cases h:b<a <;> simp [h]
theorem Fz {k:IntKind} {a:Int}:[[V.lit (.int k a)]]=[a].map (aG k):=rfl
theorem Cj {k:IntKind} {a b:Int}:[[V.lit (.int k a)],[V.lit (.int k b)]]=[a,b].map (aG k):=rfl
theorem A9 {a b c:Int}:[[V.lit (.int .i64 a),.lit (.int .i64 b),.lit (.int .i64 c)]]=[(a,b,c)].map aE:=rfl
def LC (k:IntKind) (a b:Int):Int:=k.wrap (a*2 ^ (min b.toNat k.bits))
def OX (k:IntKind) (a b:Int):Int:=a.fdiv (2 ^ (min b.toNat k.bits))
def rQ (k:IntKind) (a b:Int):Int:=k.wrap (BitVec.ofInt k.bits a &&& BitVec.ofInt k.bits b).toNat
def orI (k:IntKind) (a b:Int):Int:=k.wrap (BitVec.ofInt k.bits a ||| BitVec.ofInt k.bits b).toNat
section
variable {P:Program} {t:TypeId} {k k':IntKind} {a b:Int}
theorem KO:aq P .shl t (.lit (.int k a)) (.lit (.int k' b))=bif decide (0≤b) then some (.lit (.int k (LC k a b))) else none:=by
 by_cases h:b<0
 ·have:¬ 0≤b:=by omega
  simp [aq,dC,h,this]
 ·have h2:0≤b:=by omega
  simp [aq,dC,h,h2,LC]
theorem Nj:aq P .shr t (.lit (.int k a)) (.lit (.int k' b))=bif decide (0≤b) then some (.lit (.int k (OX k a b))) else none:=by
 by_cases h:b<0
 ·have:¬ 0≤b:=by omega
  simp [aq,dC,h,this]
 ·have h2:0≤b:=by omega
  simp [aq,dC,h,h2,OX]
theorem Lh:aq P .and t (.lit (.int k a)) (.lit (.int k b))=some (.lit (.int k (rQ k a b))):=by simp [aq,dC,rQ]
theorem Rj:aq P .or t (.lit (.int k a)) (.lit (.int k b))=some (.lit (.int k (orI k a b))):=by simp [aq,dC,orI]
end
end Go.Ab
namespace Go.Ab
theorem aeb {g len e g':Nat} {rs:List (List V)} {lv:Bool}:roB g len (some (.rows e rs g' lv))=sif (g==g') (ck (decide (len≤rs.length)) (some (rs.take len))) none:=by
 show (bif g==g'&&decide (len≤rs.length) then _ else _)=_
 generalize (g==g')=a
 generalize decide (len≤rs.length)=b
 cases a <;> cases b <;> rfl
theorem KW {f:Fn} {a b:List V} {H:Hp}:aO (.fn f a b) H=some (.ptr H.length 0 0 0,H++[.box [.fn f a b]]):=by simp [aO,V.cells,V.one,bu]
theorem Ht {i g n:Nat} {H:Hp}:aO (.own i g n) H=some (.ptr H.length 0 0 0,H++[.box [.own i g n]]):=by simp [aO,V.cells,V.one,bu]
theorem HI {i g r o:Nat} {H:Hp}:aO (.ptr i g r o) H=some (.ptr H.length 0 0 0,H++[.box [.ptr i g r o]]):=by simp [aO,V.cells,V.one,bu]
theorem Ri {k:IntKind} {l:List Int}:bS 1 (l.map (aG k))=true:=dA fun _=>rfl
theorem Ku {l:List Bool}:bS 1 (l.map k7)=true:=dA fun _=>rfl
theorem K4 {l:List (Int×List Int)}:bS 2 (l.map an)=true:=dA fun _=>rfl
theorem I4 {l:List (Int×Int×Int)}:bS 3 (l.map aE)=true:=dA fun _=>rfl
theorem Fg {n:Nat}:bS n []=true:=rfl
theorem Q8 {wl e sz bytes id g:Nat} {xs:List (List V)} {H:Hp} {lv:Bool} :
  apB wl e sz bytes id g 0 xs H (some (.rows 0 [] g lv))=sif (Nat.ble wl id) (bif room xs.length bytes then some (.own id (g+1) xs.length,H.set id (.rows sz xs (g+1) lv)) else none) none:=by
 cases hb:Nat.ble wl id <;> cases lv <;> simp [apB,hb,sif,room]
theorem IZ {α:Type} {wl e sz bytes id g len s:Nat} {l m:List α} {enc:α→List V} {H:Hp} :
  apB wl e sz bytes id g len (m.map enc) H (some (.rows s (l.map enc) g true)) =
   sif (Nat.ble wl id) (ck (decide (len≤l.length)) (ck (s==sz||s==0) (bif room (l.take len++m).length bytes then some (.own id (g+1) (l.take len++m).length,H.set id (.rows sz ((l.take len++m).map enc) (g+1) true)) else none))) none:=by
 by_cases h:len≤l.length
 ·have h1:(l.take len++m).length=len+m.length:=by simp [h]
  rw [decide_eq_true h,h1]
  simp only [apB,cd,List.length_map,beq_self_eq_true,Bool.and_true,Bool.true_or,decide_eq_true h,room,List.map_append,List.map_take]
  cases Nat.ble wl id <;> cases (s==sz||s==0) <;> simp [sif,ck]
 ·rw [decide_eq_false h,oG]
  simp [apB,decide_eq_false h,sif]
theorem Hb {α:Type} {l:List α} {enc:α→List V} {n:Nat}:(l.map enc).take n=(l.take n).map enc:=by rw [List.map_take]
theorem Fo {l:List (Int×Int×Int)} {i:Nat} {a b c:Int}:(l.map aE).set i [.lit (.int .i64 a),.lit (.int .i64 b),.lit (.int .i64 c)]=(l.set i (a,b,c)).map aE:=by rw [List.map_set];rfl
theorem G9 {l:List (Int×List Int)} {i:Nat} {a:Int} {b:List Int}:(l.map an).set i [.lit (.int .i64 a),.ro (b.map (aG .i64))]=(l.set i (a,b)).map an:=by rw [List.map_set];rfl
theorem FL {l:List (Int×List Int)} {i:Nat} {a:Int}:(l.map an).set i [.lit (.int .i64 a),.ro []]=(l.set i (a,[])).map an:=by rw [List.map_set];rfl
theorem C0 {a:Int} {b:List Int}:[[V.lit (.int .i64 a),.ro (b.map (aG .i64))]]=[(a,b)].map an:=rfl
theorem AG {a:Int}:[[V.lit (.int .i64 a),.ro []]]=[(a,[])].map an:=rfl
def slB (g len id:Nat) (n:Int) (H:Hp):Option B→Option (V×Hp)
 | some (.rows _ _ g' _)=>if 0≤n then (if n.toNat≤len∧g=g' then some (.own id g n.toNat,H) else none) else none
 | _=>none
theorem Mp {g len id e g':Nat} {n:Int} {H:Hp} {rs:List (List V)} {lv:Bool}:slB g len id n H (some (.rows e rs g' lv))=sif (g==g') (ck (decide (0≤n∧n.toNat≤len)) (some (.own id g n.toNat,H))) none:=by
 unfold slB sif ck
 by_cases h0:0≤n
 ·by_cases h1:n.toNat≤len
  ·by_cases h2:g=g'
   ·simp [h0,h1,h2]
   ·simp [h0,h1,h2,beq_false_of_ne h2]
  ·simp [h0,h1]
 ·simp [h0]
theorem uU {P : Program} {wl : Nat} {c : Bool} {t e : TypeId} {id g len : Nat} {k : IntKind} {n : Int} {H : Hp} (he : ic P t = some e) (hz : (aP P e != 0) = true) :
    db P wl c t (.own id g len) none (some (.lit (.int k n))) none H = slB g len id n H (H[id]?) := by
  have hz' : aP P e ≠ 0 := by simpa using hz
  unfold db slB
  simp only [he, bnd]
  by_cases h0 : 0 ≤ n
  · simp only [h0, if_true, Option.bind_some]
    generalize H[id]? = b
    cases b with
    | none => rfl
    | some b => cases b <;> simp [hz']
  · simp only [h0, if_false, Option.bind_none]
    generalize H[id]? = b
    cases b with
    | none => rfl
    | some b => cases b <;> rfl
end Go.Ab
namespace Go.Ab
end Go.Ab
namespace Go.Ab
theorem Rz {env:List V} {t:Nat}:evO env (.tmp t)=env[t]? := rfl
theorem NZ {env:List V} {f:Nat}:evO env (.func f)=some (.fn (.func f) [] []):=rfl
theorem wP {env vs:List V}:dx env [] vs=env:=by cases vs <;> rfl
theorem rW {env vs:List V} {t:Tmp} {ts:List Tmp} {v:V}:dx env (t::ts) (v::vs)=dx (env.set t v) ts vs:=rfl
end Go.Ab
namespace Go.Ab
theorem Rw {n:Nat}:V.kill n uu=uu:=rfl
end Go.Ab
namespace Go.Ab
def aJ {α:Type} (bytes:Nat) (l:List α):Option (List α):=ck (Nat.ble (l.length*bytes) 70368744177664) (some l)
section clone
variable {P:Program} {t e:TypeId} {α:Type} {enc:α→List V} {sz bytes:Nat}
theorem gn (he:ic P t=some e) (hz:∃ z,ef P e=some z∧a8 (bC z)=true∧((bC z).length==sz)=true) (hs:aP P e=sz) (hg:Db P e=true) (hb:P.bytesOf e=bytes) (hl:∀ x,(enc x).length=sz) (l:List α) :
  fV P t [.ro (l.map enc)] []=ob (aJ bytes l) fun r=>some (.own 1 1 r.length,[.rows 0 [] 0 true,.rows sz (r.map enc) 1 true]):=by
 obtain ⟨z,z1,z2,z3⟩:=hz
 unfold fV
 simp only [he,Option.bind_some,z1,BF,hs,hg,z2,z3,hb,dA hl,Bool.and_true,Bool.true_and,List.length_map,List.length_nil,List.nil_append]
 unfold aJ
 cases Nat.ble (l.length*bytes) 70368744177664 <;> rfl
theorem fm (hl:∀ x,bd (enc x)=true) (l:List α) (g:Nat) :
  rt none (ob (aJ bytes l) fun r=>some (.own 1 1 r.length,[.rows 0 [] 0 true,.rows g (r.map enc) 1 true]))=ob (aJ bytes l) fun r=>some (.ro (r.map enc),[]):=by
 rw [Sd]
 congr 1
 funext r
 rw [Dn]
 exact Nw (enc:=enc) (l:=r) (e:=g) (lv:=true) rfl rfl hl
theorem fu (hl:∀ x,bd (enc x)=true) (l:List α) (g:Nat) :
  rt (some fun _=>true) (ob (aJ bytes l) fun r=>some (.own 1 1 r.length,[.rows 0 [] 0 true,.rows g (r.map enc) 1 true]))=ob (aJ bytes l) fun r=>some (.own 0 0 r.length,[.rows g (r.map enc) 0 true]):=by
 rw [Sd]
 congr 1
 funext r
 have h1:cB (r.map enc)=true:=by
  rw [cB,List.all_eq_true]
  intro y hy
  obtain ⟨x,_,rfl⟩:=List.mem_map.1 hy
  exact hl x
 simp [Dn,ko,F6,oz,h1]
 rw [List.take_of_length_le (by simp)]
end clone
end Go.Ab
namespace Go.Ab
theorem KH {n0 i g r o:Nat} {k:Res}:stO n0 (.ptr i g r o) k=sif (decide (i<n0)) k none:=by
 unfold stO stB GN sif
 simp only [Bool.cond_eq_ite]
theorem Nk {n0 i g l:Nat} {k:Res}:stO n0 (.own i g l) k=sif (decide (i<n0)) k none:=by
 unfold stO stB GN sif
 simp only [Bool.cond_eq_ite]
theorem LN {n0 i:Nat} {k:Res}:stO n0 (.map i) k=sif (decide (i<n0)) k none:=by
 unfold stO stB GN sif
 simp only [Bool.cond_eq_ite]
theorem TK {n0:Nat} {r:List (List V)} {k:Res}:stO n0 (.ro r) k=k:=rfl
theorem Rn {n0:Nat} {r:List V} {k:Res}:stO n0 (.rp r) k=k:=rfl
theorem KU {n0:Nat} {v:Value} {k:Res}:stO n0 (.lit v) k=k:=rfl
theorem PX {n0:Nat} {f:Fn} {a b:List V} {k:Res}:stO n0 (.fn f a b) k=k:=rfl
theorem Lu {n0:Nat} {k:Res}:stO n0 .nil k=k:=rfl
def pB (n:Nat):List (Value×V)→List (Value×V)
 | []=>[]
 | e::es=>(e.1,e.2.shift n)::pB n es
def CZ (n:Nat):List (Value×V)→List (Value×V)
 | []=>[]
 | e::es=>(e.1,e.2.kill n)::CZ n es
theorem EQ {n:Nat}:∀ {es:List (Value×V)},es.map (fun e=>(e.1,e.2.kill n))=CZ n es
 | []=>rfl
 | e::es=>by simp [CZ,EQ (es:=es)]
theorem Bv {n:Nat}:∀ {es:List (Value×V)},es.map (fun e=>(e.1,e.2.shift n))=pB n es
 | []=>rfl
 | e::es=>by simp [pB,Bv (es:=es)]
theorem F3 {n:Nat} {es:List (Value×V)}:B.kill n (.map es) = .map (CZ n es):=by
 rw [← EQ]
 rfl
theorem Cq {n:Nat} {es:List (Value×V)}:B.shift n (.map es) = .map (pB n es):=by
 rw [← Bv]
 rfl
theorem Js {n:Nat}:CZ n []=[]:=rfl
theorem Gc {n:Nat} {e:Value×V} {es:List (Value×V)}:CZ n (e::es)=(e.1,e.2.kill n)::CZ n es:=rfl
theorem FQ {n:Nat}:pB n []=[]:=rfl
theorem BY {n:Nat} {e:Value×V} {es:List (Value×V)}:pB n (e::es)=(e.1,e.2.shift n)::pB n es:=rfl
end Go.Ab
namespace Go.Ab
theorem I2 {H:Hp}:aO .nil H=some (.ptr (H++[B.rows 0 [] 0 true]).length 0 0 0,(H++[B.rows 0 [] 0 true])++[.box [.own H.length 0 0]]):=by simp [aO,V.cells,V.one,bu]
theorem HV {i:Nat} {H:Hp}:aO (.yld i) H=some (.ptr H.length 0 0 0,H++[.box [.yld i]]):=by simp [aO,V.cells,V.one,bu]
theorem JX {i:Nat} {H:Hp}:aO (.map i) H=some (.ptr H.length 0 0 0,H++[.box [.map i]]):=by simp [aO,V.cells,V.one,bu]
theorem M4 {i:Nat} {l:List V} {H:Hp}:bu (.yld i::l) H=(.yld i::(bu l H).1,(bu l H).2):=rfl
theorem L8 {i:Nat} {l:List V} {H:Hp}:bu (.map i::l) H=(.map i::(bu l H).1,(bu l H).2):=rfl
theorem G0 {i:Nat}:V.cells (.yld i)=some [.yld i]:=rfl
theorem Iy {i:Nat}:V.cells (.map i)=some [.map i]:=rfl
end Go.Ab
namespace Go.Ab
open Go
def Ol:List (Nat×V)→Bool
 | []=>true
 | p::l=>p.2.pure&&Ol l
theorem LY:Ol []=true:=rfl
theorem J6 {i:Nat} {v:V} {l:List (Nat×V)}:Ol ((i,v)::l)=(v.pure&&Ol l):=rfl
theorem Tw {l:List (Nat×V)}:bd (l.map (·.2))=Ol l:=by
 induction l with
 | nil=>rfl
 | cons p l ih=>simp only [List.map_cons,bd,Ol,ih]
theorem ow {P:Program} {wl:Nat} {t:TypeId} {len:Nat} {l:List (Nat×V)} {H:Hp} :
  cO P wl t len l H=bq (ck (Ol l) (some ())) fun _=>az P wl t len l H:=by
 unfold cO
 rw [Tw]
 cases Ol l <;> simp [bq,ck]
def ldL (P:Program) (t:TypeId) (off row:Nat):Nat→List (List V)→Option V
 | _,[]=>none
 | i,r::rs=>bif row==i then aR P t (r.drop off) else ldL P t off row (i+1) rs
theorem PY {P:Program} {t:TypeId} {off row i:Nat}:ldL P t off row i []=none:=rfl
theorem KM {P:Program} {t:TypeId} {off row i:Nat} {r:List V} {rs:List (List V)}:ldL P t off row i (r::rs)=bif row==i then aR P t (r.drop off) else ldL P t off row (i+1) rs:=rfl
theorem On {P:Program} {t:TypeId} {off row:Nat}:∀ {rs:List (List V)} {i:Nat},i≤row→ldL P t off row i rs=(rs[row - i]?).bind fun r=>aR P t (r.drop off)
 | [],i,_=>by simp [ldL]
 | r::rs,i,h=>by
  rw [ldL]
  by_cases e:row=i
  ·subst e;simp
  ·have h1:(row==i)=false:=by simp [e]
   have h2:row - i=(row - (i+1))+1:=by omega
   rw [h1,cond_false,On (by omega),h2,List.getElem?_cons_succ]
theorem Qj {P:Program} {t:TypeId} {g row off e g':Nat} {r:List V} {rs:List (List V)} {lv:Bool} :
  ldB P t g row off (some (.rows e (r::rs) g' lv))=sif (g==g') (ldL P t off row 0 (r::rs)) none:=by
 rw [On (Nat.zero_le _),Nat.sub_zero]
 rfl
def Ii (x:Int×Int×Int×Int):List V:=[.lit (.int .i64 x.1),.lit (.int .i64 x.2.1),.lit (.int .i64 x.2.2.1),.lit (.int .i64 x.2.2.2)]
def kA (x:Int×Int×Int×Int×Int×Int×Int):List V:=
 [.lit (.int .i64 x.1),.lit (.int .i64 x.2.1),.lit (.int .i64 x.2.2.1),.lit (.int .u64 x.2.2.2.1),.lit (.int .u64 x.2.2.2.2.1),.lit (.int .u64 x.2.2.2.2.2.1),.lit (.int .i64 x.2.2.2.2.2.2)]
def cU (x:List Int):List V:=[.ro (x.map (aG .i64))]
theorem ma (x:Int×Int×Int×Int×Int×Int×Int):bd (kA x)=true:=rfl
theorem nL (x:List Int):bd (cU x)=true:=by
 have:=rj (k := .i64) (l:=x)
 simp [cU,bd,V.pure,this]
section
variable {lf:List (Int×Int×Int×Int×Int×Int×Int)} {ll:List (List Int)} {n i:Nat} {a b c d e f g:Int} {x:List Int}
theorem BW:cB (lf.map kA)=true:=dQ ma
theorem FH:cB (ll.map cU)=true:=dQ nL
theorem Cl:kf n (lf.map kA)=lf.map kA:=eR ma
theorem Gi:kf n (ll.map cU)=ll.map cU:=eR nL
theorem AY:gJ n (lf.map kA)=lf.map kA:=ee ma
theorem Cz:gJ n (ll.map cU)=ll.map cU:=ee nL
theorem HK:bS 7 (lf.map kA)=true:=dA fun _=>rfl
theorem NQ:bS 1 (ll.map cU)=true:=dA fun _=>rfl
theorem Gw:(lf.map kA).set i [.lit (.int .i64 a),.lit (.int .i64 b),.lit (.int .i64 c),.lit (.int .u64 d),.lit (.int .u64 e),.lit (.int .u64 f),.lit (.int .i64 g)]=(lf.set i (a,b,c,d,e,f,g)).map kA:=by rw [List.map_set];rfl
theorem AO:[[V.lit (.int .i64 a),.lit (.int .i64 b),.lit (.int .i64 c),.lit (.int .u64 d),.lit (.int .u64 e),.lit (.int .u64 f),.lit (.int .i64 g)]]=[(a,b,c,d,e,f,g)].map kA:=rfl
theorem JA:(ll.map cU).set i [.ro (x.map (aG .i64))]=(ll.set i x).map cU:=by rw [List.map_set];rfl
theorem FE:(ll.map cU).set i [.ro []]=(ll.set i []).map cU:=by rw [List.map_set];rfl
theorem DC:[[V.ro (x.map (aG .i64))]]=[x].map cU:=rfl
theorem AF:[[V.ro []]]=[([]:List Int)].map cU:=rfl
theorem FU:List.replicate n [V.lit (.int .i64 a),.lit (.int .i64 b),.lit (.int .i64 c),.lit (.int .u64 d),.lit (.int .u64 e),.lit (.int .u64 f),.lit (.int .i64 g)]=(List.replicate n (a,b,c,d,e,f,g)).map kA:=by rw [List.map_replicate];rfl
end
theorem G4 {k:IntKind} {x y:Int}:nu (.int k x) (.int k y)=(x==y):=by
 cases k <;> rfl
theorem Cc {k:IntKind} {x:Int}:fP k (.int k x)=true:=by
 cases k <;> rfl
theorem IU {cx:Cx} {c o:Bool} {v:Value} {args:List V} {H:Hp}:cX cx c o (.lit v) args H=none:=rfl
end Go.Ab
namespace Go.Ab
section steps
variable {cx:Cx} {K:Out→St→Res} {s:St} {r:Res} {id j n0:Nat} {ops:Array Oper} {a a':List Nat×List Nat} {env:List V} {H:Hp} {o:Oper} {i:Nat} {L:List Nat}
end steps
def apA:List Nat→List Nat→Bool
 | [],_=>true
 | i::l,m => !(inN i m)&&apA l m
where inN:Nat→List Nat→Bool
 | _,[]=>false
 | i,k::m=>i==k||inN i m
theorem PD {i:Nat}:∀ {m:List Nat},apA.inN i m=m.contains i
 | []=>rfl
 | k::m=>by
  rw [apA.inN,PD,List.contains_cons]
theorem OP:∀ {l m:List Nat},po (l,m)=apA l m
 | [],m=>rfl
 | i::l,m=>by
  have:=OP (l:=l) (m:=m)
  unfold po at this ⊢
  simp only [List.all_cons] at this ⊢
  rw [this,apA,PD]
theorem Yg {l m:List Nat} {k:Res}:apt (l,m) k=sif (apA l m) k none:=by
 unfold apt sif
 rw [OP,Bool.cond_eq_ite]
theorem SS {m:List Nat}:apA [] m=true:=rfl
theorem Lf {i:Nat} {l m:List Nat}:apA (i::l) m=(!(apA.inN i m)&&apA l m):=rfl
theorem TG {i:Nat}:apA.inN i []=false:=rfl
theorem Oa {i k:Nat} {m:List Nat}:apA.inN i (k::m)=(i==k||apA.inN i m):=rfl
theorem PI {i g n:Nat} {l m:List Nat}:lgR (.own i g n) (l,m)=(i::l,m):=rfl
theorem Rp {i g x y:Nat} {l m:List Nat}:lgR (.ptr i g x y) (l,m)=(i::l,m):=rfl
theorem RD {i:Nat} {l m:List Nat}:lgR (.map i) (l,m)=(i::l,m):=rfl
theorem Yi {rs:List (List V)} {l m:List Nat}:lgR (.ro rs) (l,m)=(l,m):=rfl
theorem U3 {rs:List V} {l m:List Nat}:lgR (.rp rs) (l,m)=(l,m):=rfl
theorem QI {l m:List Nat}:lgR .nil (l,m)=(l,m):=rfl
theorem Sb {v:Value} {l m:List Nat}:lgR (.lit v) (l,m)=(l,m):=rfl
theorem Tb {i g n:Nat} {l m:List Nat}:lgW (.own i g n) (l,m)=(l,i::m):=rfl
theorem P8 {i g x y:Nat} {l m:List Nat}:lgW (.ptr i g x y) (l,m)=(l,i::m):=rfl
theorem S7 {i:Nat} {l m:List Nat}:lgW (.map i) (l,m)=(l,i::m):=rfl
theorem TI {α:Type} {x:α}:[x].length=1:=rfl
end Go.Ab
set_option maxRecDepth 100000
namespace Go.Ab
def adq:=PLift.up (And.intro (And.intro (And.intro (And.intro (@RY) (@TH)) (And.intro (@Tx) (And.intro (@P4) (@Qh)))) (And.intro (And.intro (@TS) (And.intro (@abs) (@adO))) (And.intro (@adB) (And.intro (@cd) (@oG))))) (And.intro (And.intro (And.intro (@ae) (And.intro (@Q6) (@Tu))) (And.intro (@Qx) (And.intro (@lz) (@lg)))) (And.intro (And.intro (@Tc) (And.intro (@Ib) (@FA))) (And.intro (@Q8) (And.intro (@cond_true.{1}) (@cond_false.{1}))))))
theorem syP:type_of% adq.down:=adq.down
def adt:=PLift.up (And.intro (And.intro (And.intro (And.intro (And.intro (And.intro (And.intro (And.intro (@Hv) (@Wd)) (And.intro (@Xs) (@Vb))) (And.intro (And.intro (@WC) (@Q5)) (And.intro (@YG) (And.intro (@P2) (@Xb))))) (And.intro (And.intro (And.intro (@RS) (@VW)) (And.intro (@Ui) (And.intro (@XJ) (@Tj)))) (And.intro (And.intro (@acH) (@aad)) (And.intro (@Vm) (And.intro (@Rv) (@UX)))))) (And.intro (And.intro (And.intro (And.intro (@acW) (@ab7)) (And.intro (@QF) (@Zz))) (And.intro (And.intro (@UQ) (@Zx)) (And.intro (@aa4) (And.intro (@ZW) (@QJ))))) (And.intro (And.intro (And.intro (@Tg) (@SD)) (And.intro (@abI) (And.intro (@acl) (@Z0)))) (And.intro (And.intro (@P5) (@Dn)) (And.intro (@Rs) (And.intro (@Sd) (@abp))))))) (And.intro (And.intro (And.intro (And.intro (And.intro (@Io) (@La)) (And.intro (@R7) (@PW))) (And.intro (And.intro (@Qc) (@So)) (And.intro (@Q4) (And.intro (@V4) (@PT))))) (And.intro (And.intro (And.intro (@RR) (@QU)) (And.intro (@U0) (And.intro (@ST) (@Yo)))) (And.intro (And.intro (@Qf) (@Se)) (And.intro (@Q2) (And.intro (@SQ) (@I6)))))) (And.intro (And.intro (And.intro (And.intro (@HR) (@Ly)) (And.intro (@GA) (@MR))) (And.intro (And.intro (@IT) (@Ix)) (And.intro (@LG) (And.intro (@Kt) (@S4))))) (And.intro (And.intro (And.intro (@J5) (@Qb)) (And.intro (@MS) (And.intro (@MJ) (@Kj)))) (And.intro (And.intro (@MG) (@QS)) (And.intro (@HP) (And.intro (@Sx) (@Mq)))))))) (And.intro (And.intro (And.intro (And.intro (And.intro (And.intro (@Ke) (@K9)) (And.intro (@Ms) (@LI))) (And.intro (And.intro (@adN) (@adJ)) (And.intro (@ac7) (And.intro (@Hb) (@Nz))))) (And.intro (And.intro (And.intro (@Mp) (@Jf)) (And.intro (@Gh) (And.intro (@rj) (@Fi)))) (And.intro (And.intro (@Dq) (@Fq)) (And.intro (@P9) (And.intro (@HU) (@Gk)))))) (And.intro (And.intro (And.intro (And.intro (@Fv) (@Dy)) (And.intro (@F3) (@Cq))) (And.intro (And.intro (@Js) (@Gc)) (And.intro (@FQ) (And.intro (@BY) (@KH))))) (And.intro (And.intro (And.intro (@Nk) (@LN)) (And.intro (@TK) (And.intro (@Rn) (@KU)))) (And.intro (And.intro (@PX) (@Lu)) (And.intro (@Dh) (And.intro (@Jn) (@Fm))))))) (And.intro (And.intro (And.intro (And.intro (And.intro (@Fy) (@Gr)) (And.intro (@B6) (@Jq))) (And.intro (And.intro (@IW) (@Fk)) (And.intro (@Gg) (And.intro (@Ct) (@Gx))))) (And.intro (And.intro (And.intro (@GD) (@Ci)) (And.intro (@DA) (And.intro (@Ax) (@w6)))) (And.intro (And.intro (@Pb) (@Om)) (And.intro (@Ud) (And.intro (@Rz) (@NZ)))))) (And.intro (And.intro (And.intro (And.intro (@wP) (@rW)) (And.intro (@P3) (@H8))) (And.intro (And.intro (@PH) (@LO)) (And.intro (@Ty) (And.intro (@Kv) (@M3))))) (And.intro (And.intro (And.intro (@QY) (@LB)) (And.intro (@Hr) (And.intro (@Qd) (@Np)))) (And.intro (And.intro (@Lb) (@Ni)) (And.intro (@GZ) (And.intro (@Ha) (@FJ))))))))) (And.intro (And.intro (And.intro (And.intro (And.intro (And.intro (And.intro (@G1) (@FI)) (And.intro (@DG) (@NO))) (And.intro (And.intro (@GR) (@Cu)) (And.intro (@TP) (And.intro (@Te) (@RU))))) (And.intro (And.intro (And.intro (@Lg) (@QG)) (And.intro (@Mu) (And.intro (@Kk) (@M2)))) (And.intro (And.intro (@NE) (@NB)) (And.intro (@KL) (And.intro (@KE) (@Og)))))) (And.intro (And.intro (And.intro (And.intro (@NJ) (@MW)) (And.intro (@N8) (@N9))) (And.intro (And.intro (@G7) (@JS)) (And.intro (@KO) (And.intro (@Nj) (@Lh))))) (And.intro (And.intro (And.intro (@Rj) (@RE)) (And.intro (@TR) (And.intro (@TN) (@N5)))) (And.intro (And.intro (@LF) (@Fl)) (And.intro (@Ga) (And.intro (@GI) (@L6))))))) (And.intro (And.intro (And.intro (And.intro (And.intro (@IC) (@Qq)) (And.intro (@ME) (@GH))) (And.intro (And.intro (@Oe) (@Su)) (And.intro (@MK) (And.intro (@Kh) (@NH))))) (And.intro (And.intro (And.intro (@Hi) (@Gy)) (And.intro (@LZ) (And.intro (@Ih) (@I2)))) (And.intro (And.intro (@HV) (@JX)) (And.intro (@M4) (And.intro (@L8) (@G0)))))) (And.intro (And.intro (And.intro (And.intro (@Iy) (@KW)) (And.intro (@Ht) (@HI))) (And.intro (And.intro (@KD) (@NU)) (And.intro (@S1) (And.intro (@Ob) (@MF))))) (And.intro (And.intro (And.intro (@RF) (@G2)) (And.intro (@I8) (And.intro (@GB) (@K5)))) (And.intro (And.intro (@JR) (@Jm)) (And.intro (@N1) (And.intro (@JQ) (@IH)))))))) (And.intro (And.intro (And.intro (And.intro (And.intro (And.intro (@Le) (@Tn)) (And.intro (@P7) (@Rw))) (And.intro (And.intro (@Lx) (@BF)) (And.intro (@FB) (And.intro (@Gl) (@aeb))))) (And.intro (And.intro (And.intro (@Ri) (@K4)) (And.intro (@I4) (And.intro (@Ku) (@Fg)))) (And.intro (And.intro (@IZ) (@Fo)) (And.intro (@G9) (And.intro (@FL) (@C0)))))) (And.intro (And.intro (And.intro (And.intro (@AG) (@HS)) (And.intro (@Mh) (@J2))) (And.intro (And.intro (@KR) (@Oc)) (And.intro (@Fz) (And.intro (@Cj) (@A9))))) (And.intro (And.intro (And.intro (@List.length_map.{0,0}) (@List.length_cons.{0})) (And.intro (@List.length_nil.{0}) (And.intro (@List.length_replicate.{0}) (@List.length_set.{0})))) (And.intro (And.intro (@List.drop_succ_cons.{0}) (@List.drop_zero.{0})) (And.intro (@List.take_succ_cons.{0}) (And.intro (@List.take_zero.{0}) (@List.set_cons_zero.{0}))))))) (And.intro (And.intro (And.intro (And.intro (And.intro (@List.set_cons_succ.{0}) (@List.nil_append.{0})) (And.intro (@List.cons_append.{0}) (@List.append_nil.{0}))) (And.intro (And.intro (@List.getElem?_cons_zero.{0}) (@List.getElem?_cons_succ.{0})) (And.intro (@List.take_nil.{0}) (And.intro (@Option.map_some.{0,0}) (@Option.map_none.{0,0}))))) (And.intro (And.intro (And.intro (@Option.bind_some.{0,0}) (@Option.bind_none.{0,0})) (And.intro (@Nat.zero_add) (And.intro (@Nat.add_zero) (@Nat.le_refl)))) (And.intro (And.intro (@Bool.and_true) (@Bool.true_and)) (And.intro (@Bool.and_false) (And.intro (@Bool.false_and) (@Bool.or_true)))))) (And.intro (And.intro (And.intro (And.intro (@Bool.or_false) (@Bool.true_or)) (And.intro (@Bool.false_or) (@Bool.not_true))) (And.intro (And.intro (@Bool.not_false) (@beq_self_eq_true.{0})) (And.intro (@bne_self_eq_false.{0}) (And.intro (@decide_true) (@decide_false))))) (And.intro (And.intro (And.intro (@if_true.{1}) (@if_false.{1})) (And.intro (@Bool.false_eq_true) (And.intro (@and_self) (@and_true)))) (And.intro (And.intro (@true_and) (@Option.isSome_some.{0})) (And.intro (@Option.isSome_none.{0}) (And.intro (@Int.cast_ofNat_Int) (@Int.toNat_natCast))))))))))
theorem syA:type_of% adt.down:=adt.down
end Go.Ab
set_option maxRecDepth 100000
namespace Go.Ab
def ac2:=PLift.up (And.intro (And.intro (And.intro (And.intro (And.intro (@ow) (@LY)) (And.intro (@J6) (And.intro (@PY) (@KM)))) (And.intro (And.intro (@Qj) (@BW)) (And.intro (@FH) (And.intro (@Cl) (@Gi))))) (And.intro (And.intro (And.intro (@AY) (@Cz)) (And.intro (@HK) (And.intro (@NQ) (@Gw)))) (And.intro (And.intro (@AO) (@JA)) (And.intro (@FE) (And.intro (@DC) (@AF)))))) (And.intro (And.intro (And.intro (And.intro (@FU) (@G4)) (And.intro (@Cc) (And.intro (@IU) (@Yg)))) (And.intro (And.intro (@SS) (@Lf)) (And.intro (@TG) (And.intro (@Oa) (@PI))))) (And.intro (And.intro (And.intro (@Rp) (@RD)) (And.intro (@Yi) (And.intro (@U3) (@QI)))) (And.intro (And.intro (@Sb) (@Tb)) (And.intro (@P8) (And.intro (@S7) (@TI)))))))
theorem syQ:type_of% ac2.down:=ac2.down
end Go.Ab
set_option linter.unusedVariables false
set_option linter.unusedSimpArgs false
namespace Go.Ab
open Go.Proofs Go.RowKit Go.Shelf Go.Sort Go.Lib
def od:List (List V)→Option (List Int)
 | []=>some []
 | [.lit (.int .i64 n)]::l=>(od l).map (n :: ·)
 | _=>none
theorem uy:∀ {rs:List (List V)} {zs:List Int},od rs=some zs→rs=zs.map fun n=>[V.lit (.int .i64 n)]
 | [],zs,h=>by cases h;rfl
 | r::l,zs,h=>by
  unfold od at h
  split at h
  ·rename_i h2;cases h2
  ·rename_i n l' h2
   cases h2
   cases hl:od l with
   | none=>rw [hl] at h;cases h
   | some z=>rw [hl] at h;cases h;rw [List.map_cons,← uy hl]
  ·cases h
def CN (zs:List Int) (a b:Nat):List Int:=zs.take a++zs.drop b++List.replicate (b - a) 0
def Rx (args:List V) (H:Hp):Option (V×Hp):=
 match args with
 | [.own id g len,.lit (.int .i64 a),.lit (.int .i64 b)]=>
  match H[id]? with
  | some (.rows e rs g' true)=>
   if e=1∧g=g'∧len≤rs.length∧0≤a∧a<b∧b.toNat≤len∧len≤9223372036854775807 then
    (od (rs.take len)).map fun zs=>(.own id g (len - (b.toNat - a.toNat)),H.set id (.rows 1 ((CN zs a.toNat b.toNat).map (fun n=>[V.lit (.int .i64 n)])++rs.drop len) g true))
   else none
  | _=>none
 | _=>none
section
variable {P:Program} {ρ:Ren}
set_option maxHeartbeats 4000000 in
set_option maxRecDepth 1000000 in
theorem SI (L:Lays2.n23 P ρ) {b off c i j:Nat} {d:Array Int} {w:World} (hH:Holds (Value.int .i64) w b off d) (hc:d.size≤c) (hm:d.size≤9223372036854775807) (hij:i<j) (hj:j≤d.size) :
  Calls P (ρ.f 23) #[.slice (some ⟨b,off,none⟩) d.size c,.int .i64 i,.int .i64 j] w fun e w'=>e = .returned (.slice (some ⟨b,off,none⟩) (d.size - (j - i)) c) ∧
   w'=putRow (Value.int .i64) (Sort.ahead w 1) b off (CN d.toList i j).toArray:=by
 have mixed:=L.mixed;have t0:=L.t0;have a0:=L.a0;have z0:=L.z0;have v0:=L.v0;have t3:=L.t3;have a3:=L.a3;have z3:=L.z3;have v3:=L.v3
 have t4:=L.t4;have a4:=L.a4;have z4:=L.z4;have v4:=L.v4;have t22:=L.t22;have a22:=L.a22;have z22:=L.z22;have v22:=L.v22
 obtain ⟨info,hinfo,hz0,hz1,_⟩:=info_parts L.i3
 generalize hns:(d.toList.drop j).map (Value.int .i64)=ns
 have nl:ns.length=d.size - j:=by rw [← hns];simp
 have at_:∀ t,t<d.size - j→ns[t]? = some (Value.int .i64 d[j+t]!):=fun t ht=>by
  rw [← hns,List.getElem?_map,List.getElem?_drop,Array.getElem?_toList,getElem!_pos d (j+t) (by omega),Array.getElem?_eq_getElem (by omega)]
  rfl
 -- where those behind lie
 have src:∃ A:Addr,(if c=j then some (⟨b,off,none⟩:Addr) else some ⟨b,off+j,none⟩)=some A∧Hid (∀ t u,ns[t]? = some u→w.drew.cell? (A.add t)=some u):=by
  rcases Decidable.em (c=j) with e | e
  ·refine ⟨⟨b,off,none⟩,if_pos e,fun t u hu => ?_⟩
   have:=(List.getElem?_eq_some_iff.1 hu).1
   omega
  ·refine ⟨⟨b,off+j,none⟩,if_neg e,fun t u hu => ?_⟩
   have ht:t<d.size - j:=by have:=(List.getElem?_eq_some_iff.1 hu).1;omega
   rw [at_ t ht] at hu
   rw [Addr.add_lit,Nat.add_assoc]
   exact (hH (j+t) (by omega)).1.trans hu
 obtain ⟨A,hA,hsrc⟩:=src
 have one:Hid (ns.length=(d.size - j)*1):=by rw [Nat.mul_one];exact nl
 have cells:Hid (∀ u ∈ ns,u.oneCell'=true):=fun u hu=>by
  rw [← hns] at hu
  obtain ⟨x,_,rfl⟩:=List.mem_map.1 hu
  rfl
 have dest:Hid (∀ t,t<ns.length→(w.drew.cell? ⟨b,off+i*1+t,none⟩).isSome=true∧w.drew.frozen? ⟨b,off+i*1+t,none⟩=false):=fun t ht=>by
  rw [nl] at ht
  rw [Nat.mul_one,Nat.add_assoc]
  obtain ⟨h1,h2⟩:=hH (i+t) (by omega)
  exact ⟨by show (w.cell? _).isSome=true;rw [h1];rfl,h2⟩
 obtain ⟨W,hW⟩:∃ W,W=w.drew.setCells b (off+i*1) ns:=⟨_,rfl⟩
 have hAh:=holds_ahead (Value.int .i64) w 1 b off d hH
 have hP:W=putRow (Value.int .i64) (Sort.ahead w 1) b off (lay d i (d.toList.drop j)):=by
  rw [hW,← hns,Nat.mul_one,← putRow_setCells (Value.int .i64) (Sort.ahead w 1) b off _ d i (by simp;omega),putRow_self (Value.int .i64) (Sort.ahead w 1) b off d hAh]
  rfl
 have hHW:Holds (Value.int .i64) W b off (lay d i (d.toList.drop j)):=by rw [hP];exact holds_putRow (Value.int .i64) _ b off d _ hAh (lay_size _ _ _)
 have wipe:∀ ty,(Builtin.clear_ #[ρ.t 22] ty #[.slice (some ⟨b,off+(i+(d.size - j)),none⟩) (d.size - (i+(d.size - j))) (c - (i+(d.size - j)))]).run P W = .ok (.tuple #[]) (W.setCells b (off+(i+(d.size - j))) (List.replicate (d.size - (i+(d.size - j))) (.int .i64 0))):=fun ty=>by
  refine Lib.run_clear_slice W _ _ ty _ t22 v3 rfl rfl b (off+(i+(d.size - j))) _ _ (by omega) (fun t ht => ?_) (fun t ht => ?_)
  all_goals rw [Nat.add_assoc]
  ·rw [(hHW _ (by rw [lay_size];omega)).1];rfl
  ·exact (hHW _ (by rw [lay_size];omega)).2
 have keep:Aside (W=putRow (Value.int .i64) (Sort.ahead w 1) b off (lay d i (d.toList.drop j))):=hP
 have wIs:Hid (W=w.drew.setCells b (off+i*1) ns):=hW
 have hic:i≤c:=by omega
 have hjc:j≤c:=by omega
 clear hW hP hHW hAh hH at_ hns nl
 go_enter L.f23,Body2.n23_ntmps ρ
 go_wp2_with fail
 go_region_law_o (refine step_append_room rfl (.tmp 22) (.tmp 25) (ρ.t 22) rfl (ρ.t 3) info 1 t22 hinfo hz1 b off i c (by simp [Act.eval,Act.put]) A (d.size - j) (c - j) ns (by simp [Act.eval,Act.put]) one.out hsrc.out cells.out (by omega) dest.out ?_;rw [← wIs.out])
 go_wp2
 go_ret
 refine ⟨by rw [show d.size - (j - i)=i+(d.size - j) by omega];rfl,?_⟩
 unfold CN
 rw [← delete_arr d i j 0 (by omega) hj,← putRow_setCells (Value.int .i64) _ b off _ _ (i+(d.size - j)) (by rw [lay_size];simp;omega),← keep.out,List.map_replicate,show d.size - (i+(d.size - j))=j - i by omega]
theorem EA {zs:List Int} {a b:Nat} (h:a≤b) (hb:b≤zs.length):(CN zs a b).length=zs.length:=by
 unfold CN
 simp
 omega
theorem Ig {w:World} {b k:Nat} {d:Array Int} (h:k≠b):(putRow (Value.int .i64) (Sort.ahead w 1) b 0 d).heap[k]? = w.heap[k]? := by
 show (w.heap.modify b _)[k]? = _
 rw [Array.getElem?_modify,if_neg (fun e=>h e.symm)]
theorem Bw {w:World} {b:Nat} {d:Array Int} {arr:Array Value} {e:TypeId} (h:w.heap[b]? = some (.cells arr e (0,0))):(putRow (Value.int .i64) (Sort.ahead w 1) b 0 d).heap[b]? = some (.cells (putCells (Value.int .i64) 0 d arr) e (0,0)):=by
 show (w.heap.modify b _)[b]? = _
 rw [Array.getElem?_modify,if_pos rfl,h]
 rfl
theorem BR {B0:Nat} {w0 w:World} {R:Ro} {σ:List Sg} {H H':Hp} {v:V} {args:List V} {cargs:Array Value} (L:Lays2.n23 P ρ) (h:Rx args H=some (v,H')) (hI:Inv 0 B0 w0 R σ H w) (hA:bD R σ args cargs):Calls P (ρ.f 23) cargs w (Fs 0 B0 w0 R σ w v H'):=by
 unfold Rx at h
 split at h
 case h_2=>cases h
 rename_i id g len a b
 split at h
 case h_2=>cases h
 rename_i e0 rs g' hb
 split at h
 case isFalse=>cases h
 rename_i hc
 obtain ⟨rfl,rfl,hlen,ha0,hab,hbl,hbig⟩:=hc
 rw [Option.map_eq_some_iff] at h
 obtain ⟨zs,hz,h⟩:=h
 cases h
 have hrs:=uy hz
 have hzl:zs.length=len:=by
  have:=congrArg List.length hrs
  rw [List.length_take,List.length_map] at this
  omega
 obtain ⟨ca,l1,rfl,hr1,hA⟩:=hA.uncons
 obtain ⟨cb,l2,e2,hr2,hA⟩:=hA.uncons
 obtain ⟨cc,l3,e3,hr3,hA⟩:=hA.uncons
 have e4:=hA.nil_inv
 cases hr2
 cases hr3
 obtain ⟨Ad,l,c,s,rfl,hs,hh,hg,hgen⟩:=gN hr1
 obtain ⟨q1,q2,q3,q4,q5,q6⟩:=f7 hI hb hs hh
 obtain ⟨rfl,hn,hsm⟩:=hgen q1.symm
 cases hblk:s.blk with
 | none=>
  have:=q5 hblk
  subst this
  simp at hlen
  omega
 | some b0=>
  obtain ⟨rfl,hlc,hcap⟩:=hsm b0 hblk
  obtain ⟨arr,e,hheap,hsz,hcell,hro⟩:=q6 b0 hblk
  have hB:B0≤b0:=hI.ge id _ s b0 (Nat.zero_le _) hb rfl hs hblk
  have hrow:∀ j (hj:j<zs.length),rs[j]? = some [V.lit (.int .i64 zs[j])]:=fun j hj=>by
   have:(rs.take l)[j]? = some [V.lit (.int .i64 zs[j])]:=by rw [hrs,List.getElem?_map,List.getElem?_eq_getElem hj];rfl
   rw [List.getElem?_take] at this
   split at this
   ·exact this
   ·cases this
  have hcv:∀ j (hj:j<zs.length),arr[j]? = some (.int .i64 zs[j]):=fun j hj=>by
   obtain ⟨cv,h1,h2⟩:=hcell j 0 _ _ (hrow j hj) rfl
   cases h2
   rw [Nat.mul_one,Nat.add_zero] at h1
   exact h1
  have hH:Holds (Value.int .i64) w b0 0 zs.toArray:=fun j hj=>by
   have hj':j<zs.length:=by simpa using hj
   rw [Nat.zero_add]
   refine ⟨?_,?_⟩
   ·rw [getElem!_pos zs.toArray j hj]
    unfold World.cell?
    rw [hheap]
    simpa using hcv j hj'
   ·unfold World.frozen?
    rw [hheap]
    simp
  have el:(Value.slice (some ⟨b0,0,none⟩) l c::l1).toArray = #[.slice (some ⟨b0,0,none⟩) zs.toArray.size c,.int .i64 ((a.toNat:Nat):Int),.int .i64 ((b.toNat:Nat):Int)]:=by
   have e2':l1=Value.int .i64 a::l2:=by simpa using e2
   have e3':l2=Value.int .i64 b::l3:=by simpa using e3
   have e4':l3=[]:=by simpa using e4
   rw [e2',e3',e4',Int.toNat_of_nonneg ha0,Int.toNat_of_nonneg (by omega)]
   simp [hzl]
  rw [el]
  refine (SI L hH (by simpa [hzl] using hlc) (by simpa [hzl] using hbig) (by omega) (by simpa [hzl] using hbl)).mono ?_
  rintro x w' ⟨rfl,rfl⟩
  have hcl:=EA (zs:=zs) (a:=a.toNat) (b:=b.toNat) (by omega) (by omega)
  have hsize:(putRow (Value.int .i64) (Sort.ahead w 1) b0 0 (CN zs a.toNat b.toNat).toArray).heap.size=w.heap.size:=by rw [size_putRow];rfl
  have hset:=hI.set (R':=R) (w':=putRow (Value.int .i64) (Sort.ahead w 1) b0 0 (CN zs a.toNat b.toNat).toArray) (b' := .rows 1 ((CN zs a.toNat b.toNat).map (fun n=>[V.lit (.int .i64 n)])++rs.drop l) g true) (s':=s) hb rfl hs hh (Nat.zero_le _) (nV.refl s) (fun k hk => .inl hk)
   ⟨rfl,rfl,rfl,by rw [hsize];exact Nat.le_refl _,fun k hk=>Ig (by omega)⟩ (by rw [hsize];exact Nat.le_refl _) (fun k _ hk=>Ig (fun e=>hk (by rw [e];exact hblk))) (eX.refl R) (fun _ _ h => .inl h)
   (fun k o u hu hk=>by
    rw [hblk] at hk;cases hk
    have:=(hro o (by simp [hu])).1
    cases this)
   ⟨q1,q2,q3,fun r hr=>by
    rcases List.mem_append.1 hr with hr | hr
    ·obtain ⟨n,_,rfl⟩:=List.mem_map.1 hr
     exact ⟨rfl,rfl⟩
    ·exact q4 r (List.mem_of_mem_drop hr),by
    rw [hblk]
    refine ⟨_,e,Bw hheap,?_,fun i j r x hr hx => ?_,fun o ho => ?_⟩
    ·unfold putCells
     rw [Array.size_mapIdx]
     exact hsz
    ·rw [cT hs]
     by_cases hi:i<zs.length
     ·rw [List.getElem?_append_left (by simp;omega),List.getElem?_map,List.getElem?_eq_getElem (by omega)] at hr
      cases hr
      cases j with
      | succ j=>simp at hx
      | zero=>
       cases hx
       refine ⟨.int .i64 ((CN zs a.toNat b.toNat)[i]'(by omega)), ?_, .lit _⟩
       unfold putCells
       have hai:=hcv i hi
       rw [Nat.mul_one,Nat.add_zero,Array.getElem?_mapIdx,hai]
       simp only [Option.map_some,Nat.zero_le,Nat.zero_add,true_and,List.size_toArray,Nat.sub_zero]
       rw [if_pos (by omega),getElem!_pos _ _ (by simp;omega)]
       simp
     ·rw [List.getElem?_append_right (by simp;omega),List.getElem?_drop] at hr
      have hr':rs[i]? = some r:=by
       rw [← hr]
       congr 1
       simp
       omega
      obtain ⟨cv,h1,h2⟩:=hcell i j r x hr' hx
      refine ⟨cv,?_,h2⟩
      unfold putCells
      rw [Array.getElem?_mapIdx,h1]
      simp only [Option.map_some,Nat.zero_le,Nat.zero_add,true_and,List.size_toArray,Nat.sub_zero]
      rw [if_neg (by omega)]
    ·have:=(hro o ho).1
     cases this⟩
  rw [cT hs] at hset
  refine ⟨R,σ,hset.widen (fun k hk => ?_),?_,by rw [hsize];exact Nat.le_refl _⟩
  ·rw [hblk] at hk;cases hk;exact hB
  ·have e5:zs.toArray.size - (b.toNat - a.toNat)=l - (b.toNat - a.toNat):=by simp [hzl]
   rw [e5]
   refine .own id g (l - (b.toNat - a.toNat)) _ _ c s hs hh (by omega) (fun _=>⟨rfl,fun hz => ?_,fun b1 hb1 => ?_⟩)
   ·rw [hblk] at hz;cases hz
   ·rw [hblk] at hb1;cases hb1
    exact ⟨rfl,by omega,hcap⟩
end
def dlB (id g len:Nat) (a b:Int) (H:Hp):Option B→Option (V×Hp)
 | some (.rows e rs g' true)=>
  if e=1∧g=g'∧len≤rs.length∧0≤a∧a<b∧b.toNat≤len∧len≤9223372036854775807 then
   (od (rs.take len)).map fun zs=>(.own id g (len - (b.toNat - a.toNat)),H.set id (.rows 1 ((CN zs a.toNat b.toNat).map (fun n=>[V.lit (.int .i64 n)])++rs.drop len) g true))
  else none
 | _=>none
theorem Sk {id g len:Nat} {a b:Int} {H:Hp}:Rx [.own id g len,.lit (.int .i64 a),.lit (.int .i64 b)] H=dlB id g len a b H H[id]? := by
 unfold Rx dlB
 rfl
theorem uK:∀ l:List Int,od (l.map (aG .i64))=some l
 | []=>rfl
 | n::l=>by rw [List.map_cons,aG,od,uK l];rfl
theorem K3 {id g len e:Nat} {a b:Int} {H:Hp} {l:List Int}:dlB id g len a b H (some (.rows e (l.map (aG .i64)) g true)) =
  ck (e==1) (ck (decide (len≤l.length∧0≤a∧a<b∧b.toNat≤len∧len≤9223372036854775807)) (some (.own id g (len - (b.toNat - a.toNat)),H.set id (.rows 1 ((CN (l.take len) a.toNat b.toNat++l.drop len).map (aG .i64)) g true)))):=by
 unfold dlB
 dsimp only
 rw [List.length_map,← List.map_take,uK,← List.map_drop]
 by_cases he:e=1
 ·subst he
  rw [beq_self_eq_true,cd]
  by_cases h:len≤l.length∧0≤a∧a<b∧b.toNat≤len∧len≤9223372036854775807
  ·rw [if_pos ⟨rfl,rfl,h⟩,decide_eq_true h,cd,List.map_append]
   rfl
  ·rw [if_neg (fun z=>h z.2.2),decide_eq_false h,oG]
 ·have h1:(e==1)=false:=by simp [he]
  rw [h1,oG,if_neg (fun z=>he z.1)]
theorem Sn {P:Program} {M:Mode} {k:Nat} {f:FuncId} {args:List V} {H:Hp} (ho:M.orc f=some Rx):evF P M (k+1) 0 f args H=Rx args H:=by
 rw [evF,ho]
 rfl
end Go.Ab
namespace Go.Ab
def bL (x:Int×List Int×Int×Int×Int×Int×Int×Int×Int):List V:=
 [.lit (.int .i64 x.1),.ro (x.2.1.map (aG .i64)),.lit (.int .i64 x.2.2.1),.lit (.int .i64 x.2.2.2.1),.lit (.int .i64 x.2.2.2.2.1),.lit (.int .u64 x.2.2.2.2.2.1),.lit (.int .u64 x.2.2.2.2.2.2.1),.lit (.int .u64 x.2.2.2.2.2.2.2.1),.lit (.int .i64 x.2.2.2.2.2.2.2.2)]
def arC (id g row:Nat):List (Int×Nat)→Int→Option V
 | [],_=>none
 | p::l,n=>bif n==p.1 then some (.ptr id g row p.2) else arC id g row l n
theorem PR {id g row:Nat} {n:Int}:arC id g row [] n=none:=rfl
theorem Mt {id g row o:Nat} {n i:Int} {l:List (Int×Nat)}:arC id g row ((i,o)::l) n=bif n==i then some (.ptr id g row o) else arC id g row l n:=rfl
def arL (sz off len:Nat):List (Int×Nat):=(List.range len).map fun j:Nat=>((j:Int),off+j*sz)
theorem C4 {id g row:Nat} {n:Int}:∀ {l:List (Int×Nat)},(∀ p ∈ l,p.1≠n)→arC id g row l n=none
 | [],_=>rfl
 | p::l,h=>by
  rw [arC,show (n==p.1)=false by simp;exact fun e=>h p (List.mem_cons_self ..) e.symm,cond_false]
  exact C4 fun q hq=>h q (List.mem_cons_of_mem _ hq)
theorem OQ {id g row sz off:Nat} {q:Nat}:∀ (l:List Nat),q ∈ l→arC id g row (l.map fun j:Nat=>((j:Int),off+j*sz)) (q:Int)=some (.ptr id g row (off+q*sz))
 | [],h=>by cases h
 | x::l,h=>by
  rw [List.map_cons,arC]
  by_cases e:q=x
  ·subst e;simp
  ·have h2:((q:Int)==(x:Int))=false:=by simp;omega
   rw [h2,cond_false]
   exact OQ l ((List.mem_cons.1 h).resolve_left e)
theorem JD {P:Program} {t e:TypeId} {len sz id g row off:Nat} {k:IntKind} {n:Int} {H:Hp} (h:P.underlying t=some (.array len e)) (hs:aP P e=sz) (hz:sz≠0) :
  ak P t (.ptr id g row off) (.lit (.int k n)) H=arC id g row (arL sz off len) n:=by
 unfold ak
 simp only [h,hs]
 by_cases h0:0≤n
 ·rw [if_pos h0]
  by_cases h1:n<len
  ·rw [if_pos ⟨h1,hz⟩]
   obtain ⟨q,rfl⟩:∃ q:Nat,n=q:=⟨n.toNat,by omega⟩
   rw [arL,OQ (List.range len) (List.mem_range.2 (by omega)),Int.toNat_natCast]
  ·rw [if_neg (fun hh=>h1 hh.1)]
   refine (C4 fun p hp => ?_).symm
   obtain ⟨j,hj,rfl⟩:=List.mem_map.1 hp
   have:=List.mem_range.1 hj
   simp only
   omega
 ·rw [if_neg h0]
  refine (C4 fun p hp => ?_).symm
  obtain ⟨j,hj,rfl⟩:=List.mem_map.1 hp
  simp only
  omega
end Go.Ab
namespace Go.Ab
def aH (x:Int×List (Int×Int×Int)×(Int×Int×Int×Int×Int×Int×Int)×Int×Int):List V:=
 [.lit (.int .i64 x.1),.ro (x.2.1.map aE),.lit (.int .i64 x.2.2.1.1),.lit (.int .i64 x.2.2.1.2.1),.lit (.int .i64 x.2.2.1.2.2.1),.lit (.int .u64 x.2.2.1.2.2.2.1),.lit (.int .u64 x.2.2.1.2.2.2.2.1),.lit (.int .u64 x.2.2.1.2.2.2.2.2.1),.lit (.int .i64 x.2.2.1.2.2.2.2.2.2),.lit (.int .i64 x.2.2.2.1),.lit (.int .i64 x.2.2.2.2)]
mutual
theorem H3 (n:Nat):∀ v:V,v.pure=true→v.kill n=v
 | .lit _,_=>rfl
 | .ro _,_=>rfl
 | .nil,_=>rfl
 | .any,_=>rfl
 | .junk,_=>rfl
 | .agg cs,h=>by rw [V.kill,gt n cs h]
 | .tup cs,h=>by rw [V.kill,gt n cs h]
 | .fn f a b,h=>by
  rw [V.pure,Bool.and_eq_true] at h
  rw [V.kill,gt n a h.1,gt n b h.2]
 | .rp _,_=>rfl
theorem gt (n:Nat):∀ l:List V,bd l=true→ie n l=l
 | [],_=>rfl
 | v::l,h=>by
  rw [bd,Bool.and_eq_true] at h
  rw [ie,H3 n v h.1,gt n l h.2]
end
theorem A4 {n:Nat} {rs:List (List V)}:kf n rs=rs.map (ie n):=by
 unfold kf
 split
 ·rename_i h
  rw [cB,List.all_eq_true] at h
  have:∀ l:List (List V),(∀ x ∈ l,bd x=true)→l.map (ie n)=l:=by
   intro l
   induction l with
   | nil=>intro _;rfl
   | cons r l ih=>intro h;rw [List.map_cons,gt n r (h r (List.mem_cons_self ..)),ih fun x hx=>h x (List.mem_cons_of_mem _ hx)]
  exact (this rs h).symm
 ·rfl
theorem ai {n:Nat} {r:List V} {rs:List (List V)}:kf n (r::rs)=ie n r::kf n rs:=by
 rw [A4,A4,List.map_cons]
theorem ag {k:IntKind} {a:Int} {l:List Int}:[V.lit (.int k a)]::List.map (aG k) l=List.map (aG k) (a::l):=rfl
theorem af {a b c:Int} {l:List (Int×Int×Int)}:[V.lit (.int .i64 a),.lit (.int .i64 b),.lit (.int .i64 c)]::List.map aE l=List.map aE ((a,b,c)::l):=rfl
def adl:=PLift.up (And.intro (And.intro (And.intro (And.intro (And.intro (And.intro @rtN.eq_1 @bd.eq_1) (And.intro @bd.eq_2 @V.pure.eq_1)) (And.intro (And.intro @V.pure.eq_2 @V.pure.eq_3) (And.intro @V.pure.eq_4 @V.pure.eq_5))) (And.intro (And.intro (And.intro @V.pure.eq_6 @V.pure.eq_7) (And.intro @V.pure.eq_8 @V.pure.eq_9)) (And.intro (And.intro @V.pure.eq_10 @V.pure.eq_11) (And.intro @V.pure.eq_12 @V.pure.eq_13)))) (And.intro (And.intro (And.intro (And.intro @nsh.eq_1 @UV.eq_1) (And.intro @UV.eq_2 @UV.eq_3)) (And.intro (And.intro @V.kill.eq_1 @V.kill.eq_2) (And.intro @V.kill.eq_3 @V.kill.eq_4))) (And.intro (And.intro (And.intro @V.kill.eq_5 @V.kill.eq_6) (And.intro @V.kill.eq_7 @V.kill.eq_8)) (And.intro (And.intro @V.kill.eq_9 @V.kill.eq_10) @V.kill.eq_11)))) (And.intro (And.intro (And.intro (And.intro (And.intro @V.kill.eq_12 @V.kill.eq_13) (And.intro @ie.eq_1 @ie.eq_2)) (And.intro (And.intro @spl.eq_1 @spl.eq_2) (And.intro @V.shift.eq_1 @V.shift.eq_2))) (And.intro (And.intro (And.intro @V.shift.eq_3 @V.shift.eq_4) (And.intro @V.shift.eq_5 @V.shift.eq_6)) (And.intro (And.intro @V.shift.eq_7 @V.shift.eq_8) @V.shift.eq_9))) (And.intro (And.intro (And.intro (And.intro @V.shift.eq_10 @V.shift.eq_11) (And.intro @V.shift.eq_12 @V.shift.eq_13)) (And.intro (And.intro @gB.eq_1 @gB.eq_2) (And.intro @V.scal.eq_1 @V.scal.eq_2))) (And.intro (And.intro (And.intro @V.scal.eq_3 @V.scal.eq_4) (And.intro @Dv.eq_1 @Dv.eq_2)) (And.intro (And.intro @aG.eq_1 @k7.eq_1) @aE.eq_1)))))
theorem syD:type_of% adl.down:=adl.down
def adn:=PLift.up (And.intro (And.intro (And.intro @syQ @Ii.eq_1) (And.intro @kA.eq_1 @cU.eq_1)) (And.intro (And.intro @bL.eq_1 @aH.eq_1) (And.intro @PR @Mt)))
theorem syE:type_of% adn.down:=adn.down
end Go.Ab
namespace Go.Ab
open Go
def dg (x:Int×Int×Int):List V:=[.lit (.int .i64 x.1),.lit (.int .i64 x.2.1),.lit (.int .u64 x.2.2)]
def aa5 (x:(Int×Int×Int×Int)×List (Int×List Int)×List Int×List (Int×List (Int×Int×Int)×(Int×Int×Int×Int×Int×Int×Int)×Int×Int)×List (Int×List Int×Int×Int×Int×Int×Int×Int×Int)):List V:=
 [.lit (.int .i64 x.1.1),.lit (.int .i64 x.1.2.1),.lit (.int .i64 x.1.2.2.1),.lit (.int .i64 x.1.2.2.2),.ro (x.2.1.map an),.ro (x.2.2.1.map (aG .u64)),.ro (x.2.2.2.1.map aH),.ro (x.2.2.2.2.map bL)]
theorem nn (x:Int×Int×Int):bd (dg x)=true:=rfl
theorem gm (x:Int×List (Int×Int×Int)×(Int×Int×Int×Int×Int×Int×Int)×Int×Int):bd (aH x)=true:=by
 have h:cB (x.2.1.map aE)=true:=dQ fun _=>rfl
 simp [aH,bd,V.pure,h]
theorem i5 (x:Int×List Int×Int×Int×Int×Int×Int×Int×Int):bd (bL x)=true:=by
 have h:=rj (k := .i64) (l:=x.2.1)
 simp [bL,bd,V.pure,h]
section
variable {lw:List (Int×List (Int×Int×Int)×(Int×Int×Int×Int×Int×Int×Int)×Int×Int)} {ls:List (Int×List Int×Int×Int×Int×Int×Int×Int×Int)} {lp:List (Int×Int×Int)} {n i:Nat} {a b c d e f g p q r:Int} {x:List Int} {y:List (Int×Int×Int)}
theorem Gf:cB (lw.map aH)=true:=dQ gm
theorem Gs:kf n (lw.map aH)=lw.map aH:=eR gm
theorem Dw:gJ n (lw.map aH)=lw.map aH:=ee gm
theorem Nd:bS 11 (lw.map aH)=true:=dA fun _=>rfl
theorem Hg:(lw.map aH).set i [.lit (.int .i64 p),.ro (y.map aE),.lit (.int .i64 a),.lit (.int .i64 b),.lit (.int .i64 c),.lit (.int .u64 d),.lit (.int .u64 e),.lit (.int .u64 f),.lit (.int .i64 g),.lit (.int .i64 q),.lit (.int .i64 r)]=(lw.set i (p,y,(a,b,c,d,e,f,g),q,r)).map aH:=by rw [List.map_set];rfl
theorem DB:[[V.lit (.int .i64 p),.ro (y.map aE),.lit (.int .i64 a),.lit (.int .i64 b),.lit (.int .i64 c),.lit (.int .u64 d),.lit (.int .u64 e),.lit (.int .u64 f),.lit (.int .i64 g),.lit (.int .i64 q),.lit (.int .i64 r)]]=[(p,y,(a,b,c,d,e,f,g),q,r)].map aH:=rfl
theorem AL:[V.lit (.int .i64 p),.ro (y.map aE),.lit (.int .i64 a),.lit (.int .i64 b),.lit (.int .i64 c),.lit (.int .u64 d),.lit (.int .u64 e),.lit (.int .u64 f),.lit (.int .i64 g),.lit (.int .i64 q),.lit (.int .i64 r)]::lw.map aH=((p,y,(a,b,c,d,e,f,g),q,r)::lw).map aH:=rfl
theorem FK:(lw.map aH).set i [.lit (.int .i64 p),.ro [],.lit (.int .i64 a),.lit (.int .i64 b),.lit (.int .i64 c),.lit (.int .u64 d),.lit (.int .u64 e),.lit (.int .u64 f),.lit (.int .i64 g),.lit (.int .i64 q),.lit (.int .i64 r)]=(lw.set i (p,([]:List (Int×Int×Int)),(a,b,c,d,e,f,g),q,r)).map aH:=by rw [List.map_set];rfl
theorem AQ:[[V.lit (.int .i64 p),.ro [],.lit (.int .i64 a),.lit (.int .i64 b),.lit (.int .i64 c),.lit (.int .u64 d),.lit (.int .u64 e),.lit (.int .u64 f),.lit (.int .i64 g),.lit (.int .i64 q),.lit (.int .i64 r)]]=[(p,([]:List (Int×Int×Int)),(a,b,c,d,e,f,g),q,r)].map aH:=rfl
theorem wq:[V.lit (.int .i64 p),.ro [],.lit (.int .i64 a),.lit (.int .i64 b),.lit (.int .i64 c),.lit (.int .u64 d),.lit (.int .u64 e),.lit (.int .u64 f),.lit (.int .i64 g),.lit (.int .i64 q),.lit (.int .i64 r)]::lw.map aH=((p,([]:List (Int×Int×Int)),(a,b,c,d,e,f,g),q,r)::lw).map aH:=rfl
theorem HF:cB (ls.map bL)=true:=dQ i5
theorem Hw:kf n (ls.map bL)=ls.map bL:=eR i5
theorem Gn:gJ n (ls.map bL)=ls.map bL:=ee i5
theorem Sv:bS 9 (ls.map bL)=true:=dA fun _=>rfl
theorem Nq:(ls.map bL).set i [.lit (.int .i64 p),.ro (x.map (aG .i64)),.lit (.int .i64 a),.lit (.int .i64 b),.lit (.int .i64 c),.lit (.int .u64 d),.lit (.int .u64 e),.lit (.int .u64 f),.lit (.int .i64 g)]=(ls.set i (p,x,a,b,c,d,e,f,g)).map bL:=by rw [List.map_set];rfl
theorem FZ:[[V.lit (.int .i64 p),.ro (x.map (aG .i64)),.lit (.int .i64 a),.lit (.int .i64 b),.lit (.int .i64 c),.lit (.int .u64 d),.lit (.int .u64 e),.lit (.int .u64 f),.lit (.int .i64 g)]]=[(p,x,a,b,c,d,e,f,g)].map bL:=rfl
theorem CG:[V.lit (.int .i64 p),.ro (x.map (aG .i64)),.lit (.int .i64 a),.lit (.int .i64 b),.lit (.int .i64 c),.lit (.int .u64 d),.lit (.int .u64 e),.lit (.int .u64 f),.lit (.int .i64 g)]::ls.map bL=((p,x,a,b,c,d,e,f,g)::ls).map bL:=rfl
theorem I5:(ls.map bL).set i [.lit (.int .i64 p),.ro [],.lit (.int .i64 a),.lit (.int .i64 b),.lit (.int .i64 c),.lit (.int .u64 d),.lit (.int .u64 e),.lit (.int .u64 f),.lit (.int .i64 g)]=(ls.set i (p,([]:List Int),a,b,c,d,e,f,g)).map bL:=by rw [List.map_set];rfl
theorem BX:[[V.lit (.int .i64 p),.ro [],.lit (.int .i64 a),.lit (.int .i64 b),.lit (.int .i64 c),.lit (.int .u64 d),.lit (.int .u64 e),.lit (.int .u64 f),.lit (.int .i64 g)]]=[(p,([]:List Int),a,b,c,d,e,f,g)].map bL:=rfl
theorem Bo:[V.lit (.int .i64 p),.ro [],.lit (.int .i64 a),.lit (.int .i64 b),.lit (.int .i64 c),.lit (.int .u64 d),.lit (.int .u64 e),.lit (.int .u64 f),.lit (.int .i64 g)]::ls.map bL=((p,([]:List Int),a,b,c,d,e,f,g)::ls).map bL:=rfl
theorem FV:cB (lp.map dg)=true:=dQ nn
theorem F5:kf n (lp.map dg)=lp.map dg:=eR nn
theorem CL:gJ n (lp.map dg)=lp.map dg:=ee nn
theorem MV:bS 3 (lp.map dg)=true:=dA fun _=>rfl
theorem JF:(lp.map dg).set i [.lit (.int .i64 a),.lit (.int .i64 b),.lit (.int .u64 c)]=(lp.set i (a,b,c)).map dg:=by rw [List.map_set];rfl
theorem Dg:[[V.lit (.int .i64 a),.lit (.int .i64 b),.lit (.int .u64 c)]]=[(a,b,c)].map dg:=rfl
theorem BP:[V.lit (.int .i64 a),.lit (.int .i64 b),.lit (.int .u64 c)]::lp.map dg=((a,b,c)::lp).map dg:=rfl
end
theorem Ru {α:Type} {wl e sz bytes id g len s:Nat} {l:List α} {enc:α→List V} {H:Hp} :
  apB wl e sz bytes id g len [] H (some (.rows s (l.map enc) g true)) =
   sif (Nat.ble wl id) (ck (decide (len≤l.length)) (ck (s==sz||s==0) (bif room (l.take len).length bytes then some (.own id (g+1) (l.take len).length,H.set id (.rows sz ((l.take len).map enc) (g+1) true)) else none))) none:=by
 have h:=IZ (wl:=wl) (e:=e) (sz:=sz) (bytes:=bytes) (id:=id) (g:=g) (len:=len) (s:=s) (l:=l) (m:=[]) (enc:=enc) (H:=H)
 rw [List.append_nil] at h
 exact h
theorem P0 {kp:Nat→Bool} {cs:List V} {h:Hp}:ko (some kp) (.agg cs) h=bq (ua cs h []) fun p=>some (.agg p.1,p.2.2):=by
 unfold ko F6 bq
 dsimp only
 cases ua cs h [] <;> rfl
theorem Jk {H acc:Hp}:ua [] H acc=some ([],H,acc):=rfl
theorem F2 {v:V} {vs:List V} {H acc:Hp}:ua (v::vs) H acc=bq (oz v H acc) fun p=>bq (ua vs p.2.1 p.2.2) fun q=>some (p.1::q.1,q.2.1,q.2.2):=by
 rw [ua]
 unfold bq
 cases oz v H acc with
 | none=>rfl
 | some p=>rfl
theorem GS {v:Value} {H acc:Hp}:oz (.lit v) H acc=some (.lit v,H,acc):=rfl
theorem KZ {r:List (List V)} {H acc:Hp}:oz (.ro r) H acc=some (.ro r,H,acc):=rfl
def hmB (id g len:Nat) (H acc:Hp):Option B→Option (V×Hp×Hp)
 | some (.rows e rs g' live)=>if g=g'∧len≤rs.length∧(live=true∨len=rs.length)∧cB rs=true then some (.own acc.length 0 len,H.set id .dead,acc++[.rows e (rs.take len) 0 live]) else none
 | _=>none
theorem Bi {id g len:Nat} {H acc:Hp}:oz (.own id g len) H acc=hmB id g len H acc H[id]? := by
 unfold oz hmB
 dsimp only
 cases H[id]? with
 | none=>rfl
 | some b=>cases b <;> rfl
theorem wx {α:Type} {enc:α→List V} (hp:∀ x,bd (enc x)=true) {id g len e:Nat} {H acc:Hp} {l:List α}:hmB id g len H acc (some (.rows e (l.map enc) g true))=ck (decide (len≤l.length)) (some (.own acc.length 0 len,H.set id .dead,acc++[.rows e ((l.take len).map enc) 0 true])):=by
 unfold hmB ck
 dsimp only
 rw [List.length_map,dQ hp,List.map_take]
 by_cases h:len≤l.length
 ·rw [if_pos ⟨rfl,h,.inl rfl,rfl⟩,decide_eq_true h]
  rfl
 ·rw [if_neg (fun z=>h z.2.1),decide_eq_false h]
  rfl
theorem Rt {id g e:Nat} {H acc:Hp} {lv:Bool}:hmB id g 0 H acc (some (.rows e [] g lv))=some (.own acc.length 0 0,H.set id .dead,acc++[.rows e [] 0 lv]):=by
 unfold hmB
 dsimp only
 rw [if_pos ⟨rfl,Nat.le_refl _,.inr rfl,rfl⟩]
 rfl
theorem SK {k:IntKind} {id g len e:Nat} {H acc:Hp} {l:List Int}:hmB id g len H acc (some (.rows e (l.map (aG k)) g true))=ck (decide (len≤l.length)) (some (.own acc.length 0 len,H.set id .dead,acc++[.rows e ((l.take len).map (aG k)) 0 true])):=wx fun _=>rfl
theorem SO {kp:Nat→Bool} {id g len:Nat} {h:Hp}:ko (some kp) (.own id g len) h=bq (hmB id g len h [] h[id]?) fun p=>some (p.1,p.2.2):=by
 have e:ko (some kp) (.own id g len) h=(oz (.own id g len) h []).bind fun q=>some (q.1,q.2.2):=rfl
 rw [e,Bi]
 unfold bq
 cases hmB id g len h [] h[id]? <;> rfl
theorem M9 {id g len e:Nat} {H acc:Hp} {l:List (Int×List (Int×Int×Int)×(Int×Int×Int×Int×Int×Int×Int)×Int×Int)}:hmB id g len H acc (some (.rows e (l.map aH) g true))=ck (decide (len≤l.length)) (some (.own acc.length 0 len,H.set id .dead,acc++[.rows e ((l.take len).map aH) 0 true])):=wx gm
theorem Q9 {id g len e:Nat} {H acc:Hp} {l:List (Int×List Int×Int×Int×Int×Int×Int×Int×Int)}:hmB id g len H acc (some (.rows e (l.map bL) g true))=ck (decide (len≤l.length)) (some (.own acc.length 0 len,H.set id .dead,acc++[.rows e ((l.take len).map bL) 0 true])):=wx i5
def adc:=PLift.up (And.intro (And.intro (And.intro (And.intro (And.intro (And.intro @Gf @Gs) @Dw) (And.intro (And.intro @Nd @Hg) @DB)) (And.intro (And.intro (And.intro @AL @FK) @AQ) (And.intro @wq @HF))) (And.intro (And.intro (And.intro (And.intro @Hw @Gn) @Sv) (And.intro @Nq @FZ)) (And.intro (And.intro (And.intro @CG @I5) @BX) (And.intro @Bo @FV)))) (And.intro (And.intro (And.intro (And.intro (And.intro @F5 @CL) @MV) (And.intro @JF @Dg)) (And.intro (And.intro (And.intro @BP @Rt) @SK) (And.intro @SO @Ru))) (And.intro (And.intro (And.intro (And.intro @P0 @Jk) @F2) (And.intro @GS @KZ)) (And.intro (And.intro (And.intro @Bi @M9) @Q9) (And.intro @dg.eq_1 @aa5.eq_1)))))
theorem syW:type_of% adc.down:=adc.down
end Go.Ab
namespace Go.Ab
section
variable {cx:Cx} {K:Out→St→Res} {r:Res} {id j n0:Nat} {ops:Array Oper} {a:List Nat×List Nat} {env:List V} {H:Hp} {o:Oper} {i:Nat} {L:List Nat}
theorem qI (hL:w8 ops=L) (ha:(nc ops).any=false) (v:V) (H':Hp) (h2:fU cx (.region id ops true) (j+1) n0 a K ⟨kF env o.dst v,H'⟩=r) (hj:L[j]? = some i:=by rfl) (ho:ops.toList[i]? = some o:=by rfl) (hg:o.guard=none:=by rfl) (hst:(nc ops).strict i=false:=by kernel_rfl) (h1:opV cx ((nc ops).calm i) ((nc ops).ord i) o.op env H=some (v,H'):=by kernel_rfl):fU cx (.region id ops true) j n0 a K ⟨env,H⟩=r:=go_op1 hL ha hj ho hg (aag hst (aaG h1 h2))
section
variable {gj d:Nat} {b:Bool}
end
end
end Go.Ab
namespace Go.Ab
abbrev bb (b:Bool) (x y:Res):Res:=match b with | true=>x | false=>y
abbrev onO {A:Type} (x:Option A) (k:A→Res):Res:=match x with | some v=>k v | none=>none
abbrev abL (cx:Cx) (b:Builtin) (ts:Array TypeId) (args:List V) (H:Hp) (F:V→Hp→Res):Res:=
 match b with
 | .len=>match ts.toList,args with
  | [t],[x]=>bp (be cx.P t x H) F
  | _,_=>none
 | .append=>match ts.toList,args with
  | [t,u],[s,x]=>bp (ld cx.P cx.wl t u s x H) F
  | _,_=>none
 | .max=>bm (gC true args) H F
 | .min=>bm (gC false args) H F
 | _=>none
abbrev opW (cx:Cx) (calm ord:Bool) (op:Op) (env:List V) (H:Hp) (F:V→Hp→Res):Res:=
 match op with
 | .move x=>onO (evO env x) fun v=>F v H
 | .assign x=>match x with
  | .const c=>onO (some (kw c)) fun v=>match v with | .nil=>bp (some (.own H.length 0 0,H++[.rows 0 [] 0 true])) F | v=>F v H
  | x=>onO (evO env x) fun v=>F v H
 | .pick c a b=>onO (evO env c) fun c=>onO (evO env a) fun a=>onO (evO env b) fun b=>bm (aT c a b) H F
 | .alloc t=>bp (ar cx.P t H) F
 | .box _ x=>onO (evO env x) fun v=>bp (aO v H) F
 | .build t parts=>onO (IV (evO env) parts.toList) fun l=>bm (aZ cx.P t l) H F
 | .buildSlice t len parts=>onO (IV (evO env) parts.toList) fun l=>bb (calm) (bp (cO cx.P cx.wl t len l H) F) (bp (az cx.P cx.wl t len l H) F)
 | .insert t m k v=>onO (evO env m) fun m=>onO (evO env k) fun k=>onO (evO env v) fun v=>bs (dM cx.P cx.wl t m k v H) (F uu)
 | .load t a=>onO (evO env a) fun a=>bm (ab cx.P t a H) H F
 | .store t a v=>onO (evO env a) fun a=>onO (evO env v) fun v=>bs (ah cx.P cx.wl t a v H) (F uu)
 | .nilCheck x=>onO (evO env x) fun x=>bm (aN x H) H F
 | .binOp op t x y _=>onO (evO env x) fun x=>onO (evO env y) fun y=>bm (aq cx.P op t x y) H F
 | .unOp op _ x=>onO (evO env x) fun x=>bm (vUn op x) H F
 | .convert s d x=>onO (evO env x) fun x=>bm (fM cx.P s d x) H F
 | .makeFunc f a b=>onO (wa env a.toList) fun a=>onO (wa env b.toList) fun b=>F (.fn f a b) H
 | .makeMap _ r=>match r with | none=>bp (some (.map H.length,H++[.map []])) F | some _=>none
 | .makeSlice t l c=>onO (evO env l) fun l=>onO (evO env c) fun c=>bp (a7 cx.P t l c H) F
 | .slice t x lo hi mx=>onO (evO env x) fun x=>onO (Jw env lo) fun lo=>onO (Jw env hi) fun hi=>onO (Jw env mx) fun mx=>bp (db cx.P cx.wl calm t x lo hi mx H) F
 | .fieldAddr t x i=>onO (evO env x) fun x=>bm (aa cx.P t x i) H F
 | .field t x i=>onO (evO env x) fun x=>bm (rN cx.P t x i) H F
 | .indexAddr t x i=>onO (evO env x) fun x=>onO (evO env i) fun i=>bm (ak cx.P t x i H) H F
 | .index t x i=>onO (evO env x) fun x=>onO (evO env i) fun i=>bm (E6 cx.P t x i) H F
 | .lookup t m k ok=>onO (evO env m) fun m=>onO (evO env k) fun k=>bm (eU cx.P t m k ok H) H F
 | .extract x i=>onO (evO env x) fun x=>bm (ap x i) H F
 | .call c=>
  match c.callee with
  | .builtin b=>onO (wa env c.args.toList) fun a=>abL cx b c.argTypes a H F
  | .value f=>onO (evO env f) fun f=>onO (wa env c.args.toList) fun a=>bp (cX cx calm ord f a H) F
  | .invoke _ _=>none
 | _=>none
theorem bY {A:Type} {x:Option A} {k:A→Res} {g:A→Option (V×Hp)} {F:V×Hp→Res} (h:∀ v,k v=(g v).bind F):onO x k=(x.bind g).bind F:=by
 cases x with
 | none=>rfl
 | some v=>exact h v
theorem CC {A:Type} {x:Option A} {k:A→Res} {g:A→V×Hp} {F:V×Hp→Res} (h:∀ v,k v=F (g v)):onO x k=(x.map g).bind F:=by
 cases x with
 | none=>rfl
 | some v=>exact h v
theorem Ug {x:Option Hp} {F:V→Hp→Res}:bs x (F uu)=(x.map fun H'=>(V.lit undef,H')).bind fun p=>F p.1 p.2:=by cases x <;> rfl
theorem RG {cx:Cx} {b:Builtin} {ts:Array TypeId} {args:List V} {H:Hp} {F:V→Hp→Res}:abL cx b ts args H F=(GL cx b ts args H).bind fun p=>F p.1 p.2:=by
 unfold abL GL
 generalize ts.toList=l
 cases b with
 | len=>rcases l with _ | ⟨_,_ | _⟩ <;> rcases args with _ | ⟨_,_ | _⟩ <;> rfl
 | append=>rcases l with _ | ⟨_,_ | ⟨_,_ | _⟩⟩ <;> rcases args with _ | ⟨_,_ | ⟨_,_ | _⟩⟩ <;> rfl
 | _=>rfl
theorem UG {cx:Cx} {calm ord:Bool} {op:Op} {env:List V} {H:Hp} {F:V→Hp→Res}:opW cx calm ord op env H F=(opV cx calm ord op env H).bind fun p=>F p.1 p.2:=by
 cases op with
 | assign x=>
  unfold opW opV
  dsimp only
  cases x with
  | const c=>
   dsimp only [evO,onO,Option.map_some,Option.bind_some]
   cases kw c <;> rfl
  | _=>exact CC fun v=>rfl
 | call c=>
  unfold opW opV
  dsimp only
  cases c.callee with
  | builtin b=>exact bY fun a=>RG
  | value f=>exact bY fun f=>bY fun a=>rfl
  | invoke _ _=>rfl
 | buildSlice t len parts=>
  unfold opW opV
  dsimp only
  refine bY fun l => ?_
  cases calm <;> rfl
 | makeMap t r=>
  unfold opW opV
  dsimp only
  cases r <;> rfl
 | _=>
  unfold opW opV
  dsimp only
  first
  | rfl
  | exact bY fun a=>bY fun b=>Ug
  | exact bY fun a=>bY fun b=>bY fun c=>Ug
  | exact CC fun v=>rfl
  | exact bY fun a=>rfl
  | exact bY fun a=>CC fun b=>rfl
  | exact bY fun a=>bY fun b=>rfl
  | exact bY fun a=>bY fun b=>bY fun c=>rfl
  | exact bY fun a=>bY fun b=>bY fun c=>bY fun d=>rfl
inductive Md where
 | E (c:Code) (fs:List Fr) (jn:List Nat)
 | R (o:Out) (fs:List Fr) (jn:List Nat)
 | L (c:Code) (l:Nat) (fs:List Fr) (jn:List Nat)
 | G (c:Code) (j n0:Nat) (a:List Nat×List Nat) (fs:List Fr) (g:Bool) (kn:List (Nat×Nat)) (jn:List Nat)
def ada (cx:Cx) (K:Out→St→Res) (s:St):Md→Res
 | .E c fs _=>au cx K (.seq c::fs) .norm s
 | .R o fs _=>au cx K fs o s
 | .L c l fs _=>rY cx K c l fs s
 | .G c j n0 a fs _ _ _=>fU cx c j n0 a (au cx K fs) s
def lG (i:Nat):Code→Bool
 | .exit j=>j==i
 | .seq a b=>lG i a||lG i b
 | .cond _ a b=>lG i a||lG i b
 | .rangeFunc _ _ a b=>lG i a||lG i b
 | .block _ a=>lG i a
 | .loop a=>lG i a
 | .scope a=>lG i a
 | _=>false
def lJ:Code→Bool
 | .seq a b=>lJ a&&lJ b
 | .cond _ a b=>lJ a||lJ b
 | .exit _=>false
 | .goto _=>false
 | .ret=>false
 | .loop _=>false
 | .block i a=>lJ a||lG i a
 | _=>true
def ia:Code→Nat
 | .region _ ops _=>ops.size
 | .seq a b=>ia a+ia b+1
 | .cond _ a b=>ia a+ia b+1
 | .rangeFunc _ _ a b=>ia a+ia b+1
 | .block _ a=>ia a
 | .scope a=>ia a
 | .loop _=>10
 | _=>0
def atJ (jn:List Nat) (n:Nat):Bool:=match jn with | []=>false | x::_=>x==n
def jnT (jn:List Nat) (n:Nat):List Nat:=bif atJ jn n then jn.tail else jn
def EE (jn:List Nat):List Fr→Nat→Bool
 | [],n=>Nat.ble 3 n
 | .seq c::r,n=>bif atJ jn (r.length+1) then false else bif lJ c then EE jn r (n+ia c) else Nat.ble 3 (n+ia c)
 | _::r,n=>bif atJ jn (r.length+1) then false else EE jn r n
abbrev sxW (n0:Nat) (st:Bool) (op:Op) (env:List V) (x:Res):Res:=
 bb (st) ((match gY op with | none=>x | some y=>match evO env y with | some v=>stO n0 v x | none=>x)) (x)
def abF (d:Nat):List (Nat×Nat)→Option Nat
 | []=>none
 | (e,b)::r=>bif e==d then some b else abF d r
def Qu (d:Nat):List (Nat×Nat)→List (Nat×Nat)
 | []=>[]
 | (e,b)::r=>bif e==d then Qu d r else (e,b)::Qu d r
def knR (d:Option Nat) (kn:List (Nat×Nat)):List (Nat×Nat):=match d with | none=>kn | some d=>Qu d kn
def knS (d:Option Nat) (kn:List (Nat×Nat)):List (Nat×Nat):=match d with | none=>kn | some d=>(d,2)::kn
def wk (cx:Cx) (K:Out→St→Res):Nat→Md→St→Res
 | 0,m,s=>ada cx K s m
 | n+1,m,s=>match m with
  | .E c fs jn=>match c with
   | .skip=>wk cx K n (.R .norm fs jn) s
   | .region id ops draw=>bb (draw) ((bb (wc ops) (wk cx K n (.G (.region id ops true) 0 s.H.length ([],[]) fs false [] jn) s) (none))) (wk cx K n (.G (.region id ops false) 0 s.H.length ([],[]) fs false [] jn) s)
   | .seq a b=>wk cx K n (.E a (.seq b::fs) jn) s
   | .block id a=>wk cx K n (.E a (.block id::fs) jn) s
   | .scope a=>wk cx K n (.E a (.scope a::fs) jn) s
   | .cond v a b=>onO (evO s.env v) fun v=>
    bb (lJ a&&lJ b&&EE jn fs 0) (cnd v (wk cx K n (.E a fs (fs.length::jn)) s) (wk cx K n (.E b fs (fs.length::jn)) s)) (cnd v (wk cx K n (.E a fs jn) s) (wk cx K n (.E b fs jn) s))
   | .exit id=>wk cx K n (.R (.exit id) fs jn) s
   | .goto l=>wk cx K n (.R (.goto l) fs jn) s
   | .ret=>wk cx K n (.R .ret fs jn) s
   | .label _=>wk cx K n (.R .norm fs jn) s
   | .loop a=>itX cx a s.H.length (au cx K fs) cx.n (tidy s.H.length (FO (cx.M.named cx.fid) (gD a ([],[])) false) s)
   | c=>aY cx c none (au cx K fs) s
  | .R o fs jn=>match o with
   | .norm=>bb (atJ jn fs.length) (au cx K fs .norm s) (match fs with
    | []=>K .norm s
    | .seq c::r=>wk cx K n (.E c r jn) s
    | .block _::r=>wk cx K n (.R .norm r jn) s
    | .scope _::r=>wk cx K n (.R .norm r jn) s
    | .scope2 _::r=>wk cx K n (.R .norm r jn) s)
   | .exit i=>match fs with
    | []=>K (.exit i) s
    | .seq _::r=>wk cx K n (.R (.exit i) r (jnT jn fs.length)) s
    | .block id::r=>bb (i==id) (wk cx K n (.R .norm r (jnT jn fs.length)) s) (wk cx K n (.R (.exit i) r (jnT jn fs.length)) s)
    | .scope _::r=>wk cx K n (.R (.exit i) r (jnT jn fs.length)) s
    | .scope2 _::r=>wk cx K n (.R (.exit i) r (jnT jn fs.length)) s
   | .goto l=>match fs with
    | []=>K (.goto l) s
    | .seq _::r=>wk cx K n (.R (.goto l) r (jnT jn fs.length)) s
    | .block _::r=>wk cx K n (.R (.goto l) r (jnT jn fs.length)) s
    | .scope a::r=>bb (bt l a) (wk cx K n (.L a l (.scope2 a::r) (jnT jn fs.length)) s) (wk cx K n (.R (.goto l) r (jnT jn fs.length)) s)
    | .scope2 a::r=>bb (bt l a) (none) (wk cx K n (.R (.goto l) r (jnT jn fs.length)) s)
   | o=>match fs with
    | []=>K o s
    | _::r=>wk cx K n (.R o r (jnT jn fs.length)) s
  | .L c l fs jn=>match c with
   | .seq a b=>bb (bt l a) (wk cx K n (.L a l (.seq b::fs) jn) s) (wk cx K n (.L b l fs jn) s)
   | .label l'=>bb (l'==l) (wk cx K n (.R .norm fs jn) s) (none)
   | c=>rY cx K c l fs s
  | .G c j n0 a fs g kn jn=>match (ki c)[j]? with
   | none=>bb ((gu c).any) (apt a (wk cx K n (.R .norm fs jn) s)) (wk cx K n (.R .norm fs jn) s)
   | some (o,i)=>
    let run:=fun env g kn=>sxW n0 ((gu c).strict i) o.op env (opW cx ((gu c).calm i) ((gu c).ord i) o.op env s.H fun v h=>wk cx K n (.G c (j+1) n0 (D6 (gu c) i o.op env a) fs g (knR o.dst kn) jn) ⟨kF env o.dst v,h⟩)
    let skip:=fun env g kn=>wk cx K n (.G c (j+1) n0 a fs g (knS o.dst kn) jn) ⟨kF env o.dst uu,s.H⟩
    match o.guard with
    | none=>bb (g) (fU cx c j n0 a (au cx K fs) s) (run s.env g kn)
    | some (gj,want)=>match ((DE c)[gj]?).bind (·.dst) with
     | none=>none
     | some d=>match abF d kn with
      | some _=>match s.env[d]? with
       | some (.lit (.bool b))=>bb (b==want) (run (s.env.set d (.lit (.bool b))) g kn) (skip (s.env.set d (.lit (.bool b))) g kn)
       | some (.lit (.tuple _))=>skip s.env g kn
       | _=>none
      | none=>bb g (fU cx c j n0 a (au cx K fs) s)
       (onO s.env[d]? fun v=>bb want
        (gd v (run (s.env.set d (.lit (.bool true))) true ((d,1)::kn)) (skip (s.env.set d (.lit (.bool false))) true ((d,0)::kn)) (fU cx c (j+1) n0 a (au cx K fs) ⟨kF s.env o.dst uu,s.H⟩))
        (gd v (skip (s.env.set d (.lit (.bool true))) true ((d,1)::kn)) (run (s.env.set d (.lit (.bool false))) true ((d,0)::kn)) (fU cx c (j+1) n0 a (au cx K fs) ⟨kF s.env o.dst uu,s.H⟩)))
section
variable {cx:Cx} {K:Out→St→Res} {c:Code} {j n0:Nat} {a:List Nat×List Nat} {s:St} {r:Res}
theorem Ia (h:(ki c)[j]? = none):fU cx c j n0 a K s=if (gu c).any then apt a (K .norm s) else K .norm s:=by
 unfold fU
 rw [List.drop_eq_nil_iff.2 (List.getElem?_eq_none_iff.1 h)]
 rfl
theorem IN {o:Oper} {i:Nat} (h:(ki c)[j]? = some (o,i)):fU cx c j n0 a K s =
  (let run (env:List V):Res:=if dq n0 ((gu c).strict i) o.op env then (opV cx ((gu c).calm i) ((gu c).ord i) o.op env s.H).bind fun p=>fU cx c (j+1) n0 (D6 (gu c) i o.op env a) K ⟨kF env o.dst p.1,p.2⟩ else none
   let skip (env:List V):Res:=fU cx c (j+1) n0 a K ⟨kF env o.dst (.lit undef),s.H⟩
   match o.guard with
   | none=>run s.env
   | some (j,want)=>
    match ((DE c)[j]?).bind (·.dst) with
    | none=>none
    | some d=>
     match s.env[d]? with
     | some (.lit (.bool b))=>CX b want d s.env run skip
     | some (.lit (.tuple _))=>skip s.env
     | _=>none):=by
 obtain ⟨hj,he⟩:=List.getElem?_eq_some_iff.1 h
 unfold fU
 rw [List.drop_eq_getElem_cons hj,he]
 rfl
theorem VC {st:Bool} {op:Op} {env:List V} {x:Res}:sxW n0 st op env x=if dq n0 st op env then x else none:=by
 unfold sxW dq nC
 cases st with
 | false=>rfl
 | true=>
  dsimp only [bb,if_true]
  cases gY op with
  | none=>rfl
  | some y=>
   have h:∀ q:Option V,(match q with | some v=>stO n0 v x | none=>x)=if (match (match q with | some v=>GN v | none=>none) with | some i=>decide (i<n0) | none=>true)=true then x else none:=by
    intro q
    cases q with
    | none=>rfl
    | some v=>rfl
   exact h _
end
theorem Fp (cx:Cx) (K:Out→St→Res):∀ (n:Nat) (m:Md) (s:St),wk cx K n m s=ada cx K s m
 | 0,_,_=>rfl
 | n+1,m,s=>by
  have ih:=Fp cx K n
  cases m with
  | E c fs jn=>
   cases c with
   | skip=>exact ih _ _
   | region id ops draw=>
    cases draw with
    | false=>exact (ih _ _).trans (go_reg0 rfl).symm
    | true=>
     show bb (wc ops) (wk cx K n _ s) none=_
     cases h:wc ops with
     | true=>exact (ih _ _).trans (go_reg1 h rfl).symm
     | false=>
      show none=aY cx (.region id ops true) none (au cx K fs) s
      simp [aY,h]
   | seq a b=>exact (ih _ _).trans (go_seq rfl).symm
   | block id a=>exact (ih _ _).trans (go_block rfl).symm
   | scope a=>exact (ih _ _).trans (go_scope rfl).symm
   | cond v a b=>
    show onO (evO s.env v) _=_
    cases h:evO s.env v with
    | none=>
     show none=aY cx (.cond v a b) none (au cx K fs) s
     simp only [aY,h]
    | some v=>
     refine Eq.trans ?_ (go_cond h rfl rfl).symm
     show bb _ _ _=_
     cases (lJ a&&lJ b&&EE jn fs 0) <;> (simp only [bb,ih];rfl)
   | exit id=>exact ih _ _
   | goto l=>exact ih _ _
   | ret=>exact ih _ _
   | label l=>exact ih _ _
   | loop a=>rfl
   | _=>rfl
  | R o fs jn=>
   cases o with
   | norm=>
    show bb _ _ _=_
    cases atJ jn fs.length with
    | true=>rfl
    | false=>cases fs with
     | nil=>rfl
     | cons f r=>cases f <;> exact ih _ _
   | exit i=>
    cases fs with
    | nil=>rfl
    | cons f r=>cases f with
     | block id=>
      show bb (i==id) _ _=if i=id then _ else _
      by_cases h:i=id
      ·subst h
       rw [beq_self_eq_true,if_pos rfl]
       exact ih _ _
      ·rw [beq_false_of_ne h,if_neg h]
       exact ih _ _
     | _=>exact ih _ _
   | goto l=>
    cases fs with
    | nil=>rfl
    | cons f r=>cases f with
     | scope a=>
      show bb (bt l a) _ _=_
      cases h:bt l a with
      | true=>exact (ih _ _).trans (Dj h rfl).symm
      | false=>exact (ih _ _).trans (BO h rfl).symm
     | scope2 a=>
      show bb (bt l a) _ _=au cx K (.scope2 a::r) (.goto l) s
      cases h:bt l a with
      | true=>simp only [au,h,if_true]
      | false=>exact (ih _ _).trans (xd h rfl).symm
     | _=>exact ih _ _
   | ret=>
    cases fs with
    | nil=>rfl
    | cons f r=>cases f <;> exact ih _ _
  | L c l fs jn=>
   cases c with
   | seq a b=>
    show bb (bt l a) _ _=_
    cases h:bt l a with
    | true=>exact (ih _ _).trans (Tv h rfl).symm
    | false=>exact (ih _ _).trans (N0 h rfl).symm
   | label l'=>
    show bb (l'==l) _ _=aY cx (.label l') (some l) (au cx K fs) s
    cases h:l'==l with
    | true=>simp only [aY,h,if_true];exact ih _ _
    | false=>simp only [aY,h];rfl
   | _=>rfl
  | G c j n0 a fs g kn jn=>
   show (match (ki c)[j]? with | none=>_ | some (o,i)=>_)=fU cx c j n0 a (au cx K fs) s
   cases h:(ki c)[j]? with
   | none=>
    rw [Ia h]
    show bb _ _ _=_
    cases (gu c).any <;> (simp only [bb,ih];rfl)
   | some p=>
    obtain ⟨o,i⟩:=p
    have hrun:∀ env g kn,sxW n0 ((gu c).strict i) o.op env (opW cx ((gu c).calm i) ((gu c).ord i) o.op env s.H fun v h=>wk cx K n (.G c (j+1) n0 (D6 (gu c) i o.op env a) fs g (knR o.dst kn) jn) ⟨kF env o.dst v,h⟩) =
      if dq n0 ((gu c).strict i) o.op env then (opV cx ((gu c).calm i) ((gu c).ord i) o.op env s.H).bind fun p=>fU cx c (j+1) n0 (D6 (gu c) i o.op env a) (au cx K fs) ⟨kF env o.dst p.1,p.2⟩ else none:=by
     intro env g kn
     rw [VC,UG]
     congr 1
     congr 1
     funext p
     exact ih _ _
    have hskip:∀ env g kn,wk cx K n (.G c (j+1) n0 a fs g (knS o.dst kn) jn) ⟨kF env o.dst uu,s.H⟩=fU cx c (j+1) n0 a (au cx K fs) ⟨kF env o.dst (.lit undef),s.H⟩:=fun env g kn=>ih _ _
    rw [IN h]
    dsimp only
    simp only [hrun,hskip]
    cases hg:o.guard with
    | none=>
     cases g with
     | true=>rfl
     | false=>rfl
    | some q=>
     obtain ⟨gj,want⟩:=q
     dsimp only
     cases hd:((DE c)[gj]?).bind (·.dst) with
     | none=>rfl
     | some d=>
      dsimp only
      cases hk:abF d kn with
      | some b=>
       dsimp only
       cases he:s.env[d]? with
       | none=>rfl
       | some v=>
        cases v with
        | lit x=>
         cases x with
         | bool t=>cases t <;> cases want <;> rfl
         | _=>rfl
        | _=>rfl
      | none=>
       cases g with
       | true=>rfl
       | false=>
        dsimp only [bb]
        cases he:s.env[d]? with
        | none=>rfl
        | some v=>
         cases v with
         | lit x=>
          cases x with
          | bool t=>cases t <;> cases want <;> rfl
          | tuple x=>cases want <;> rfl
          | _=>cases want <;> rfl
         | _=>cases want <;> rfl
section
variable {cx:Cx} {K:Out→St→Res} {c:Code} {j n0 n:Nat} {a:List Nat×List Nat} {s:St} {r:Res} {fs:List Fr} {o:Out}
theorem kG (h:wk cx K 999 (.G c j n0 a fs false [] []) s=r:=by kernel_rfl):fU cx c j n0 a (au cx K fs) s=r:=(Fp ..).symm.trans h
theorem kJ (jn:List Nat) (h:wk cx K 999 (.G c j n0 a fs false [] jn) s=r:=by kernel_rfl):fU cx c j n0 a (au cx K fs) s=r:=(Fp ..).symm.trans h
theorem kR (h:wk cx K 999 (.R o fs []) s=r:=by kernel_rfl):au cx K fs o s=r:=(Fp ..).symm.trans h
theorem kI (h:wk cx (eg cx c n0 K n) 999 (.E c [] []) s=r:=by kernel_rfl):itX cx c n0 K (n+1) s=r:=Ns ((Fp ..).symm.trans h)
theorem kB {fn:Func} {args:List V} {H:Hp} (h:wk cx (aA cx.P fn) 999 (.E (am fn) [] []) ⟨args++List.replicate (fn.ntmps - args.length) uu,H⟩=r:=by kernel_rfl) (hb:fn.body=some (am fn):=by rfl):aj cx fn args H=r:=JG hb ((Fp ..).symm.trans h)
end
end Go.Ab
