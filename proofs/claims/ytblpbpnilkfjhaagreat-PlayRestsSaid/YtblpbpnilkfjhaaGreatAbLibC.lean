import Derived.Test.YtblpbpnilkfjhaaGreatAbLibB
import Derived.Shelf.Slices.Delete
set_option linter.unusedVariables false
set_option linter.unusedSimpArgs false
namespace Go.Ab
def al:Code→List Nat→Code
 | c,[]=>c
 | .seq a b,i::p=>if i=0 then al a p else al b p
 | .cond _ a b,i::p=>if i=0 then al a p else al b p
 | .block _ a,_::p=>al a p
 | .loop a,_::p=>al a p
 | .scope a,_::p=>al a p
 | .rangeFunc _ _ a b,i::p=>if i=0 then al a p else al b p
 | c,_=>c
def am (fn:Func):Code:=fn.body.getD .skip
structure Sys where
 P:Program
 orc:FuncId→Option (List V→Hp→Option (V×Hp))
 keepRes:FuncId→FuncId→Option (Nat→Bool)
 keepArg:FuncId→Bool
 call:Nat→FuncId→List V→Hp→Option (V×Hp)
 yld:Nat→Nat→List V→Hp→Option (V×Hp)
inductive Fr where
 | seq (c:Code)
 | block (id:Nat)
 | scope (a:Code)
 | scope2 (a:Code)
def uu:V := .lit undef
abbrev Res:=Option (V×Hp)
def au (cx:Cx) (K:Out→St→Res):List Fr→Out→St→Res
 | [],o,s=>K o s
 | .seq c::fs,o,s=>match o with
  | .norm=>bk cx c none (au cx K fs) s
  | o=>au cx K fs o s
 | .block id::fs,o,s=>match o with
  | .exit id'=>if id'=id then au cx K fs .norm s else au cx K fs (.exit id') s
  | o=>au cx K fs o s
 | .scope a::fs,o,s=>match o with
  | .goto l => if bQ l a then bk cx a (some l) (fun o' s'' => match o' with | .goto l' => if bQ l' a then none else au cx K fs (.goto l') s'' | o' => au cx K fs o' s'') s else au cx K fs (.goto l) s
  | o=>au cx K fs o s
 | .scope2 a::fs,o,s=>match o with
  | .goto l=>if bQ l a then none else au cx K fs (.goto l) s
  | o=>au cx K fs o s
def itX (cx:Cx) (c:Code) (n0:Nat) (K:Out→St→Res) (n:Nat) (s:St):Res:=
 ME (bk cx c none) n0 (cx.M.named cx.fid) (kH c ([],[])) K n s
def eq (cx:Cx) (c:Code) (n0:Nat) (K:Out→St→Res) (n:Nat):Out→St→Res:=fun o s'=>match o with
 | .norm=>itX cx c n0 K n (tidy n0 (KA (cx.M.named cx.fid) (kH c ([],[])) false) s')
 | .ret=>K .ret s'
 | o=>K o (tidy n0 (KA (cx.M.named cx.fid) (kH c ([],[])) true) s')
def F9:Code→Array Oper
 | .region _ ops _=>ops
 | _ => #[]
def ke:Code→Rg
 | .region _ ops draw=>if draw then po ops else Rg.none
 | _=>Rg.none
def ml:Code→List (Oper×Nat)
 | .region _ ops draw=>if draw then aD ops else ops.toList.zipIdx
 | _=>[]
def B5 (ops:Array Oper):List Nat:=(aD ops).map (·.2)
def cK (cx:Cx) (c:Code) (j n0:Nat) (a:List Nat×List Nat) (K:Out→St→Res) (s:St):Res:=
 BS cx n0 (ke c) (F9 c) ((ml c).drop j) a (K .norm) s
def ap (P:Program) (fn:Func):Out→St→Res:=fun o s=>match o with
 | .norm=>(gE P fn.results.toList s).map fun v=>(v,s.H)
 | .ret=>(gE P fn.results.toList s).map fun v=>(v,s.H)
 | _=>none
def bm (x:Option V) (H:Hp) (k:V→Hp→Res):Res:=(x.map fun v=>(v,H)).bind fun p=>k p.1 p.2
def bp (x:Option (V×Hp)) (k:V→Hp→Res):Res:=x.bind fun p=>k p.1 p.2
def bs (x:Option Hp) (k:Hp→Res):Res:=(x.map fun H'=>(V.lit undef,H')).bind fun p=>k p.2
def cnd (c:V) (a b:Res):Res:=match c with
 | .lit (.bool t)=>bif t then a else b
 | _=>none
def gd (c:V) (a b u:Res):Res:=match c with
 | .lit (.bool t)=>bif t then a else b
 | .lit (.tuple _)=>u
 | _=>none
def av (P:Program) (t:TypeId) (H:Hp):Option (V×Hp):=
 (fC P t).bind fun z=>if br (b7 z) then let p:=bH (b7 z) H;some (.ptr p.2.length 0 0 0,p.2++[.box p.1]) else none
def aP (v:V) (H:Hp):Option (V×Hp):=v.cells.bind fun vs=>let p:=bH vs H;some (.ptr p.2.length 0 0 0,p.2++[.box p.1])
def cX (P:Program) (wl:Nat) (t:TypeId) (len:Nat) (l:List (Nat×V)) (H:Hp):Option (V×Hp):=
 if true && !bC (l.map (·.2)) then none else aB P wl t len l H
def a7 (P:Program) (t:TypeId) (x:V) (H:Hp):Option (V×Hp):=if (kP P t).isSome then (uj x H).map fun v=>(v,H) else none
def kQ (P:Program) (wl:Nat) (t u:TypeId) (s x:V) (H:Hp):Option (V×Hp):=if (kP P u).isSome then bv P wl t s x H else none
def apt (a:List Nat×List Nat) (k:Res):Res:=if wK a then k else none
def lgR (v:V) (a:List Nat×List Nat):List Nat×List Nat:=match IK v with | some k=>(k::a.1,a.2) | none=>a
def lgW (v:V) (a:List Nat×List Nat):List Nat×List Nat:=match IK v with | some k=>(a.1,k::a.2) | none=>a
def stB (n0:Nat) (v:V):Bool:=match IK v with | some i=>i<n0 | none=>true
def stO (n0:Nat) (v:V) (k:Res):Res:=if stB n0 v then k else none
def ai3:List (Option V)→Option (List V)
 | []=>some []
 | x::xs=>x.bind fun v=>(ai3 xs).bind fun vs=>some (v::vs)
def ew (l:List (Option V)) (H:Hp):Res:=((ai3 l).bind fun vs=>match vs with | [v]=>some v | vs=>some (.tup vs)).map fun v=>(v,H)
section steps
variable {cx:Cx} {K:Out→St→Res} {fs:List Fr} {s:St} {r:Res}
theorem LY {fn:Func} {args:List V} {H:Hp} {c:Code} (hb:fn.body=some c) (h:au cx (ap cx.P fn) [.seq c] .norm ⟨args++List.replicate (fn.ntmps - args.length) uu,H⟩=r):ak cx fn args H=r:=by
 rw [← h]
 unfold ak
 rw [hb]
 have:(fun o s=>match o with
   | .norm=>(gE cx.P fn.results.toList s).map fun v=>(v,s.H)
   | .ret=>(gE cx.P fn.results.toList s).map fun v=>(v,s.H)
   | _=>none:Out→St→Res)=au cx (ap cx.P fn) []:=by
  funext o s
  cases o <;> rfl
 show bk cx c none _ _=bk cx c none (au cx (ap cx.P fn) []) _
 rw [← this]
 rfl
theorem go_seq {a b:Code} (h:au cx K (.seq a :: .seq b::fs) .norm s=r):au cx K (.seq (.seq a b)::fs) .norm s=r:=by
 rw [← h]
 show bk cx a none _ s=bk cx a none (au cx K (.seq b::fs)) s
 congr 1
theorem go_block {id:Nat} {a:Code} (h:au cx K (.seq a :: .block id::fs) .norm s=r):au cx K (.seq (.block id a)::fs) .norm s=r:=by
 rw [← h]
 show bk cx a none _ s=bk cx a none (au cx K (.block id::fs)) s
 congr 1
theorem go_scope {a:Code} (h:au cx K (.seq a :: .scope a::fs) .norm s=r):au cx K (.seq (.scope a)::fs) .norm s=r:=by
 rw [← h]
 show bk cx a none _ s=bk cx a none (au cx K (.scope a::fs)) s
 congr 1
theorem go_ret (h:au cx K fs .ret s=r):au cx K (.seq .ret::fs) .norm s=r:=h
theorem D7 {a:Code} {l:Nat} (hl:bQ l a=false) (h:au cx K fs (.goto l) s=r):au cx K (.scope a::fs) (.goto l) s=r:=by
 rw [← h]
 simp only [au]
 rw [hl]
 rfl
theorem CP {a:Code} {l:Nat} (hl:bQ l a=false) (h:au cx K fs (.goto l) s=r):au cx K (.scope2 a::fs) (.goto l) s=r:=by
 rw [← h]
 simp only [au]
 rw [hl]
 rfl
def As (cx:Cx) (K:Out→St→Res) (c:Code) (l:Nat) (fs:List Fr) (s:St):Res:=bk cx c (some l) (au cx K fs) s
theorem F6 {a:Code} {l:Nat} (hl:bQ l a=true) (h:As cx K a l (.scope2 a::fs) s=r):au cx K (.scope a::fs) (.goto l) s=r:=by
 rw [← h]
 simp only [au]
 rw [hl]
 simp only [if_true,As]
 congr 1
theorem VK {a b:Code} {l:Nat} (hl:bQ l a=true) (h:As cx K a l (.seq b::fs) s=r):As cx K (.seq a b) l fs s=r:=by
 rw [← h]
 simp only [As,bk,hl,if_true]
 congr 1
theorem PA {a b:Code} {l:Nat} (hl:bQ l a=false) (h:As cx K b l fs s=r):As cx K (.seq a b) l fs s=r:=by
 rw [← h]
 simp [As,bk,hl]
theorem go_cond {c:Operand} {a b:Code} {v:V} {A B:Res} (hc:evO s.env c=some v) (hA:au cx K (.seq a::fs) .norm s=A) (hB:au cx K (.seq b::fs) .norm s=B) :
  au cx K (.seq (.cond c a b)::fs) .norm s=cnd v A B:=by
 rw [← hA,← hB]
 show bk cx (.cond c a b) none (au cx K fs) s=_
 simp only [bk,hc]
 cases v with
 | lit x=>cases x <;> rfl
 | _=>rfl
theorem go_reg0 {id:Nat} {ops:Array Oper} (h:cK cx (.region id ops false) 0 s.H.length ([],[]) (au cx K fs) s=r):au cx K (.seq (.region id ops false)::fs) .norm s=r:=by
 rw [← h]
 show bk cx (.region id ops false) none (au cx K fs) s=_
 simp [bk,cK,ke,F9,ml]
theorem go_reg1 {id:Nat} {ops:Array Oper} (hok:C0 ops=true) (h:cK cx (.region id ops true) 0 s.H.length ([],[]) (au cx K fs) s=r):au cx K (.seq (.region id ops true)::fs) .norm s=r:=by
 rw [← h]
 show bk cx (.region id ops true) none (au cx K fs) s=_
 simp [bk,cK,ke,F9,ml,hok]
section ops
variable {id j n0:Nat} {ops:Array Oper} {a:List Nat×List Nat} {env:List V} {H:Hp} {o:Oper} {i:Nat} {L:List Nat}
theorem aiF (hL:B5 ops=L) (hj:L[j]? = some i) (ho:ops.toList[i]? = some o):(aD ops).drop j=(o,i)::(aD ops).drop (j+1):=by
 subst hL
 simp only [B5,List.getElem?_map,Option.map_eq_some_iff] at hj
 obtain ⟨p,hp,rfl⟩:=hj
 have hm:p ∈ aD ops:=List.mem_of_getElem? hp
 have hz:p ∈ ops.toList.zipIdx:=by
  simp only [aD,List.mem_append,List.mem_filter] at hm
  rcases hm with h | h <;> exact h.1
 have hx:ops.toList[p.2]? = some p.1:=by
  obtain ⟨x,k⟩:=p
  simpa [List.mem_zipIdx_iff_getElem?] using hz
 rw [hx] at ho
 cases ho
 rw [List.getElem?_eq_some_iff] at hp
 obtain ⟨hj,he⟩:=hp
 rw [List.drop_eq_getElem_cons hj,he]
def sx (n0:Nat) (st:Bool) (op:Op) (env:List V) (x:Res):Res:=if eg n0 st op env then x else none
theorem ag0 {st:Bool} {op:Op} {x:Res} (hst:st=false) (h:x=r):sx n0 st op env x=r:=by
 subst hst
 simpa [sx,eg] using h
theorem go_op1 (hL:B5 ops=L) (ha:(po ops).any=false) (hj:L[j]? = some i) (ho:ops.toList[i]? = some o) (hg:o.guard=none)
  (h:sx n0 ((po ops).strict i) o.op env ((opV cx ((po ops).calm i) ((po ops).ord i) o.op env H).bind (fun p=>cK cx (.region id ops true) (j+1) n0 a K ⟨mw env o.dst p.1,p.2⟩))=r):cK cx (.region id ops true) j n0 a K ⟨env,H⟩=r:=by
 rw [← h]
 simp only [cK,ke,F9,ml,if_true,aiF hL hj ho]
 simp only [BS,hg]
 simp [HN,ha,sx]
variable {gj d:Nat} {v:V} {A B C:Res}
end ops
theorem aht {X:Option (V×Hp)} {F:V×Hp→Res} {v:V} {H:Hp} (h1:X=some (v,H)) (h2:F (v,H)=r):X.bind F=r:=by
 subst h1
 exact h2
theorem R8 {c:Code} {n0 n:Nat} (h:au cx (eq cx c n0 K n) [.seq c] .norm s=r):itX cx c n0 K (n+1) s=r:=by
 rw [← h]
 show bk cx c none _ s=bk cx c none (au cx (eq cx c n0 K n) []) s
 congr 1
end steps
end Go.Ab
namespace Go.Ab
section combinators
variable {H:Hp} {K:V→Hp→Res} {k:Hp→Res} {A B C:Res}
@[congr] theorem aeu {x y:Option V} (h:x=y):bm x H K=bm y H K:=by rw [h]
@[congr] theorem aep {x y:Option (V×Hp)} (h:x=y):bp x K=bp y K:=by rw [h]
@[congr] theorem aek {x y:Option Hp} (h:x=y):bs x k=bs y k:=by rw [h]
@[congr] theorem aea {x y:V} (h:x=y):cnd x A B=cnd y A B:=by rw [h]
@[congr] theorem aec {x y:V} (h:x=y):gd x A B C=gd y A B C:=by rw [h]
def ob {α β:Type} (x:Option α) (k:α→Option β):Option β:=x.bind k
def ck {β:Type} (c:Bool) (k:Option β):Option β:=bif c then k else none
theorem YL {v:V}:bm (some v) H K=K v H:=rfl
theorem VB:bm none H K=none:=rfl
theorem Y0 {v:V} {h:Hp}:bp (some (v,h)) K=K v h:=rfl
theorem VX:bp none K=none:=rfl
theorem W6 {h:Hp}:bs (some h) k=k h:=rfl
theorem Yw:bs none k=none:=rfl
theorem abh {α:Type} {x:Option α} {f:α→V}:bm (x.map f) H K=ob x fun a=>K (f a) H:=by cases x <;> rfl
theorem XO {α:Type} {x:Option α} {f:α→Option V}:bm (x.bind f) H K=ob x fun a=>bm (f a) H K:=by cases x <;> rfl
theorem ZG {α:Type} {x:Option α} {f:α→V×Hp}:bp (x.map f) K=ob x fun a=>K (f a).1 (f a).2:=by cases x <;> rfl
theorem U8 {α:Type} {x:Option α} {f:α→Option (V×Hp)}:bp (x.bind f) K=ob x fun a=>bp (f a) K:=by cases x <;> rfl
theorem adu {α:Type} {x:Option α} {f:α→Hp}:bs (x.map f) k=ob x fun a=>k (f a):=by cases x <;> rfl
theorem Vu {α:Type} {x:Option α} {f:α→Option Hp}:bs (x.bind f) k=ob x fun a=>bs (f a) k:=by cases x <;> rfl
theorem aai {c:Bool} {x:Option V}:bm (bif c then x else none) H K=ck c (bm x H K):=by cases c <;> rfl
theorem acM {c:Bool} {x:Option (V×Hp)}:bp (bif c then x else none) K=ck c (bp x K):=by cases c <;> rfl
theorem aaX {c:Bool} {x:Option Hp}:bs (bif c then x else none) k=ck c (bs x k):=by cases c <;> rfl
theorem ae6 {t:Bool}:cnd (.lit (.bool t)) A B=bif t then A else B:=rfl
theorem aj7 {t:Bool}:gd (.lit (.bool t)) A B C=bif t then A else B:=rfl
theorem akk:gd uu A B C=C:=rfl
theorem bA {β:Type} {A:Option β}:ck true A=A:=rfl
theorem ui {β:Type} {A:Option β}:ck false A=none:=rfl
theorem af {α β:Type} {a:α} {f:α→Option β}:ob (some a) f=f a:=rfl
theorem Xi {α β:Type} {f:α→Option β}:ob none f=none:=rfl
end combinators
def idx {α:Type} (l:List α) (i:Int):Option α:=if 0≤i then l[i.toNat]? else none
theorem YA {α:Type} (l:List α) (i:Nat):idx l (i:Int)=l[i]? := by simp [idx]
section ops
variable {P:Program} {t:TypeId} {k k':IntKind} {a b:Int} {x y:V}
theorem P3:aw P .add t (.lit (.int k a)) (.lit (.int k b))=some (.lit (.int k (k.wrap (a+b)))):=by simp [aw,eJ]
theorem Rl:aw P .sub t (.lit (.int k a)) (.lit (.int k b))=some (.lit (.int k (k.wrap (a - b)))):=by simp [aw,eJ]
theorem Qp:aw P .mul t (.lit (.int k a)) (.lit (.int k b))=some (.lit (.int k (k.wrap (a*b)))):=by simp [aw,eJ]
theorem Sp:aw P .eql t (.lit (.int k a)) (.lit (.int k b))=some (.lit (.bool (a==b))):=by simp [aw,eJ]
theorem Sb : aw P .neq t (.lit (.int k a)) (.lit (.int k b)) = some (.lit (.bool (a != b))) := by simp [aw, eJ]
theorem Ph:aw P .lss t (.lit (.int k a)) (.lit (.int k b))=some (.lit (.bool (decide (a<b)))):=by simp [aw,eJ]
theorem P8:aw P .leq t (.lit (.int k a)) (.lit (.int k b))=some (.lit (.bool (decide (a≤b)))):=by simp [aw,eJ]
theorem Rb:aw P .gtr t (.lit (.int k a)) (.lit (.int k b))=some (.lit (.bool (decide (b<a)))):=by simp [aw,eJ]
theorem Rq:aw P .geq t (.lit (.int k a)) (.lit (.int k b))=some (.lit (.bool (decide (b≤a)))):=by simp [aw,eJ]
theorem P0 : aw P .quo t (.lit (.int k a)) (.lit (.int k b)) = bif b != 0 then some (.lit (.int k (k.wrap (a.tdiv b)))) else none := by
  by_cases h : b = 0
  · simp [aw, eJ, h]
  · simp [aw, eJ, h, (bne_iff_ne).2 h]
theorem Q2 : aw P .rem t (.lit (.int k a)) (.lit (.int k b)) = bif b != 0 then some (.lit (.int k (a.tmod b))) else none := by
  by_cases h : b = 0
  · simp [aw, eJ, h]
  · simp [aw, eJ, h, (bne_iff_ne).2 h]
theorem Og {p q:Bool} (h:nT P t=true):aw P .eql t (.lit (.bool p)) (.lit (.bool q))=some (.lit (.bool (p==q))):=by simp [aw,h]
theorem Ob {p q:Bool} (h:nT P t=true):aw P .neq t (.lit (.bool p)) (.lit (.bool q))=some (.lit (.bool (!(p==q)))):=by simp [aw,h]
theorem Yc {p:Bool}:vUn .not (.lit (.bool p))=some (.lit (.bool !p)):=rfl
theorem YC:vUn .neg (.lit (.int k a))=some (.lit (.int k (k.wrap (0 - a)))):=rfl
theorem W5 {p:Bool}:aR (.lit (.bool p)) x y=some (bif p then x else y):=rfl
theorem JA {l:List V}:aq (.tup (x::l)) 0=some x:=rfl
theorem KH {l:List V}:aq (.tup (x::y::l)) 1=some y:=rfl
theorem Kd {z:V} {l:List V}:aq (.tup (x::y::z::l)) 2=some z:=rfl
end ops
def aF (k:IntKind) (n:Int):List V:=[.lit (.int k n)]
def mC (b:Bool):List V:=[.lit (.bool b)]
section mem
variable {P:Program} {t:TypeId} {H:Hp} {wl:Nat}
theorem PW {cs:List V}:ab P t (.rp cs) H=aX P t cs:=rfl
def ldB (P:Program) (t:TypeId) (g row off:Nat):Option B→Option V
 | some (.box cs)=>bif g==0&&row==0 then aX P t (cs.drop off) else none
 | some (.rows _ rs g' _)=>bif g==g' then (rs[row]?).bind fun r=>aX P t (r.drop off) else none
 | _=>none
theorem MA {id g row off:Nat}:ab P t (.ptr id g row off) H=ldB P t g row off (H[id]?):=by
 unfold ab ldB
 dsimp only
 generalize H[id]? = b0
 cases b0 with
 | none=>rfl
 | some b=>cases b <;> simp [Bool.cond_eq_ite]
theorem YG {off:Nat} {cs:List V}:ldB P t 0 0 off (some (.box cs))=aX P t (cs.drop off):=rfl
theorem Qw {α:Type} {l:List α} {enc:α→List V} {g row off e:Nat} {lv:Bool} :
  ldB P t g row off (some (.rows e (l.map enc) g lv))=(l[row]?).bind fun x=>aX P t ((enc x).drop off):=by
 simp [ldB]
 cases l[row]? <;> rfl
def Z0 (P : Program) (wl : Nat) (t : TypeId) (id g row off : Nat) (vs : List V) (H : Hp) : Option B → Option Hp
  | some (.box cs) =>
    bif g == 0 && row == 0 && aW P t != 0 && vs.length == aW P t && decide (off + vs.length ≤ cs.length) then
      some ((bH vs H).2.set id (.box (spl cs off (bH vs H).1)))
    else none
  | some (.rows _ _ _ _) => (fzL wl true vs H).bind fun p =>
    match p.2[id]? with
    | some (.rows e rs g' true) =>
      bif g == g' && aW P t != 0 && vs.length == aW P t then
        (rs[row]?).bind fun r => bif decide (off + p.1.length ≤ r.length) then some (p.2.set id (.rows e (rs.set row (spl r off p.1)) g' true)) else none
      else none
    | _ => none
  | _ => none
theorem Kw {id g row off : Nat} {v : V} : aj P wl t (.ptr id g row off) v H = (v.cells).bind fun vs => bif Nat.ble wl id then Z0 P wl t id g row off vs H (H[id]?) else none := by
  unfold aj
  cases hv : v.cells with
  | none => simp
  | some vs =>
    simp only [Option.bind_some]
    cases hw : Nat.ble wl id with
    | false => simp
    | true =>
      simp only [if_true, cond_true]
      unfold Z0
      generalize H[id]? = b0
      cases b0 with
      | none => rfl
      | some b =>
        cases b with
        | box cs => simp only [Bool.cond_eq_ite, Bool.and_eq_true, beq_iff_eq, bne_iff_ne, decide_eq_true_eq, and_assoc]
        | rows e rs g' lv =>
          simp only
          congr 1
          funext p
          generalize p.2[id]? = b1
          cases b1 with
          | none => rfl
          | some b => 
            cases b with
            | rows e rs g' lv => cases lv <;> simp [Bool.cond_eq_ite, and_assoc]
            | _ => rfl
        | _ => rfl
theorem co {α : Type} {l : List α} {enc : α → List V} {e : TypeId} {k : IntKind} {n : Int} (hu : P.underlying t = some (.slice e)) (hs : ∀ x, (enc x).length = aW P e) (hz : (aW P e != 0) = true) :
    ai P t (.ro (l.map enc)) (.lit (.int k n)) H = (idx l n).map fun x => .rp (enc x) := by
  have hz' : aW P e ≠ 0 := by simpa using hz
  unfold ai idx
  simp only [hu]
  split
  · cases hl : l[n.toNat]? with
    | none => simp [hl]
    | some x => simp [hl, hs, hz']
  · rfl
def ixB (sz g len id:Nat) (n:Int):Option B→Option V
 | some (.rows s _ g' _)=>bif g==g'&&s==sz then bif decide (0≤n∧n.toNat<len) then some (.ptr id g n.toNat 0) else none else none
 | _=>none
theorem bo {id g len : Nat} {e : TypeId} {k : IntKind} {n : Int} (hu : P.underlying t = some (.slice e)) (hz : (aW P e != 0) = true) :
    ai P t (.own id g len) (.lit (.int k n)) H = ixB (aW P e) g len id n (H[id]?) := by
  have hz' : aW P e ≠ 0 := by simpa using hz
  unfold ai ixB
  simp only [hu]
  by_cases hn : 0 ≤ n
  · simp only [hn, if_true, true_and]
    generalize H[id]? = b0
    cases b0 with
    | none => rfl
    | some b =>
      cases b with
      | rows s rs g' lv =>
        simp only [hz', ne_eq, not_false_eq_true, and_true, Bool.cond_eq_ite, Bool.and_eq_true, beq_iff_eq, decide_eq_true_eq]
      | _ => rfl
  · simp only [hn, if_false, false_and, decide_false]
    generalize H[id]? = b0
    cases b0 with
    | none => rfl
    | some b =>
      cases b with
      | rows s rs g' lv => simp
      | _ => rfl
theorem Qt {sz g len id:Nat} {n:Int} {rs:List (List V)} {lv:Bool}:ixB sz g len id n (some (.rows sz rs g lv))=bif decide (0≤n∧n.toNat<len) then some (.ptr id g n.toNat 0) else none:=by
 simp [ixB]
theorem UK {rows:List (List V)}:uj (.ro rows) H=some (.lit (.int .i64 rows.length)):=rfl
theorem Pk:uj .nil H=some (.lit (.int .i64 0)):=rfl
def lnB (g len:Nat):Option B→Option V
 | some (.rows _ _ g' _)=>bif g==g' then some (.lit (.int .i64 len)) else none
 | _=>none
theorem PH {id g len:Nat}:uj (.own id g len) H=lnB g len (H[id]?):=by
 unfold uj lnB
 dsimp only
 generalize H[id]? = b0
 cases b0 with
 | none=>rfl
 | some b=>cases b <;> simp [Bool.cond_eq_ite]
theorem QI {g len e:Nat} {rs:List (List V)} {lv:Bool}:lnB g len (some (.rows e rs g lv))=some (.lit (.int .i64 len)):=by simp [lnB]
theorem EY {v:Value} (h:v.oneCell'=true):aP (.lit v) H=some (.ptr H.length 0 0 0,H++[.box [.lit v]]):=by
 simp [aP,V.cells,V.one,h,bH]
theorem NL {k:IntKind} {n:Int}:aP (.lit (.int k n)) H=some (.ptr H.length 0 0 0,H++[.box [.lit (.int k n)]]):=EY rfl
theorem J3 {b:Bool}:aP (.lit (.bool b)) H=some (.ptr H.length 0 0 0,H++[.box [.lit (.bool b)]]):=EY rfl
theorem Rz {r:List (List V)}:aP (.ro r) H=some (.ptr H.length 0 0 0,H++[.box [.ro r]]):=by simp [aP,V.cells,V.one,bH]
theorem KX {l:List V}:aP (.agg l) H=some (.ptr (bH l H).2.length 0 0 0,(bH l H).2++[.box (bH l H).1]):=by simp [aP,V.cells]
theorem Qb:bH [] H=([],H):=rfl
theorem OT {v:Value} {l:List V}:bH (.lit v::l) H=(.lit v::(bH l H).1,(bH l H).2):=rfl
theorem XV {r:List (List V)} {l:List V}:bH (.ro r::l) H=(.ro r::(bH l H).1,(bH l H).2):=rfl
theorem Sc {i g n:Nat} {l:List V}:bH (.own i g n::l) H=(.own i g n::(bH l H).1,(bH l H).2):=rfl
theorem OW {i g n o:Nat} {l:List V}:bH (.ptr i g n o::l) H=(.ptr i g n o::(bH l H).1,(bH l H).2):=rfl
theorem XL {f:Fn} {a b l:List V}:bH (.fn f a b::l) H=(.fn f a b::(bH l H).1,(bH l H).2):=rfl
theorem N8 {l:List V}:bH (.nil::l) H=(.own H.length 0 0::(bH l (H++[.rows 0 [] 0 true])).1,(bH l (H++[.rows 0 [] 0 true])).2):=rfl
theorem DB {v:Value} (h:v.oneCell'=true):V.cells (.lit v)=some [.lit v]:=by simp [V.cells,V.one,h]
theorem Lo {k:IntKind} {n:Int}:V.cells (.lit (.int k n))=some [.lit (.int k n)]:=DB rfl
theorem J9 {b:Bool}:V.cells (.lit (.bool b))=some [.lit (.bool b)]:=DB rfl
theorem PV {r:List (List V)}:V.cells (.ro r)=some [.ro r]:=rfl
theorem K9 {i g n:Nat}:V.cells (.own i g n)=some [.own i g n]:=rfl
theorem Na {i g n o:Nat}:V.cells (.ptr i g n o)=some [.ptr i g n o]:=rfl
theorem Q7 {f:Fn} {a b:List V}:V.cells (.fn f a b)=some [.fn f a b]:=rfl
theorem NJ:V.cells .nil=some [.nil]:=rfl
theorem LJ {l:List V}:V.cells (.agg l)=some l:=rfl
theorem Qd {id g row off:Nat}:aV (.ptr id g row off) H=(match H[id]? with
  | some (.box _)=>bif g==0 then some (.ptr id g row off) else none
  | some (.rows _ _ g' _)=>bif g==g' then some (.ptr id g row off) else none
  | _=>none):=by
 unfold aV
 dsimp only
 generalize H[id]? = b0
 cases b0 with
 | none=>rfl
 | some b=>cases b <;> simp [Bool.cond_eq_ite]
theorem X8 {f:FuncId} {a b:List V}:aV (.fn (.func f) a b) H=some (.fn (.func f) a b):=rfl
theorem Za {c:List V}:aV (.rp c) H=some (.rp c):=rfl
theorem N4 {cx:Cx} {c:Code} {n0:Nat} {K:Out→St→Res} {n:Nat} {s:St}:eq cx c n0 K n .ret s=K .ret s:=rfl
theorem ZV {v:V}:ew [some v] H=some (v,H):=rfl
theorem ZS {v w:V}:ew [some v,some w] H=some (.tup [v,w],H):=rfl
theorem abk {v w x:V}:ew [some v,some w,some x] H=some (.tup [v,w,x],H):=rfl
end mem
end Go.Ab
namespace Go.Ab
mutual
def V.data:V→Bool
 | .lit _=>true
 | .ro _=>true
 | .nil=>true
 | .agg cs=>kj cs
 | .fn _ a b=>L9 a&&L9 b
 | _=>false
def L9:List V→Bool
 | []=>true
 | v::vs=>v.data&&L9 vs
def kj:List V→Bool
 | []=>true
 | .lit _::vs=>kj vs
 | .ro _::vs=>kj vs
 | _::_=>false
end
theorem lc:∀ {l:List V},kj l=true→bC l=true
 | [],_=>rfl
 | .lit _::vs,h=>by
  have:=lc (l:=vs) (by simpa [kj] using h)
  simp [bC,V.pure,this]
 | .ro _::vs,h=>by
  have:=lc (l:=vs) (by simpa [kj] using h)
  simp [bC,V.pure,this]
 | .nil::_,h | .any::_,h | .junk::_,h | .agg _::_,h | .tup _::_,h | .fn .. :: _,h | .yld _::_,h | .rp _::_,h | .ptr .. :: _,h | .own .. :: _,h | .map _::_,h=>by simp [kj] at h
mutual
theorem LI:∀ {v:V},v.data=true→v.pure=true
 | .lit _,_ | .ro _,_ | .nil,_=>rfl
 | .agg cs,h=>lc h
 | .fn _ a b,h=>by
  simp [V.data] at h
  simp [V.pure,pz h.1,pz h.2]
 | .any,h | .junk,h | .tup _,h | .yld _,h | .rp _,h | .ptr ..,h | .own ..,h | .map _,h=>by simp [V.data] at h
theorem pz:∀ {l:List V},L9 l=true→bC l=true
 | [],_=>rfl
 | v::vs,h=>by
  simp [L9] at h
  simp [bC,LI h.1,pz h.2]
end
def nU (cx:Cx) (g:FuncId) (args:List V):Option (V×Hp):=(cx.call 0 g args []).bind fun p=>lq (cx.M.keepRes cx.fid g) p.1 p.2
section ret
variable {H:Hp}
theorem Pv {v:Value} {h:Hp}:lq none (.lit v) h=some (.lit v,[]):=rfl
def fzB (wl id g len:Nat) (H:Hp):Option B→Option (V×Hp)
 | some (.rows e rs g' _)=>bif g==g'&&decide (len≤rs.length)&&(dj rs&&Nat.ble wl id) then some (.ro (rs.take len),H.set id (.rows e rs g' false)) else none
 | _=>none
theorem ry {wl id g len:Nat}:fzC wl (.own id g len) H=fzB wl id g len H (H[id]?):=by
 unfold fzC fzB
 dsimp only
 generalize H[id]? = b
 cases b with
 | none=>rfl
 | some b=>
  cases b with
  | rows e rs g' lv=>
   by_cases h1:g=g'
   ·by_cases h2:len≤rs.length <;> cases h3:(dj rs&&Nat.ble wl id) <;> simp [h1,h2]
   ·simp [h1,beq_false_of_ne h1]
  | _=>rfl
theorem RH {α:Type} {l:List α} {enc:α→List V} {wl id g e len:Nat} {lv:Bool} (hl:len=l.length) (hp:∀ x,bC (enc x)=true) (hw:Nat.ble wl id=true) :
  fzB wl id g len H (some (.rows e (l.map enc) g lv))=some (.ro (l.map enc),H.set id (.rows e (l.map enc) g false)):=by
 subst hl
 have h1:dj (l.map enc)=true:=by
  rw [dj,List.all_eq_true]
  intro r hr
  obtain ⟨x,_,rfl⟩:=List.mem_map.1 hr
  exact hp x
 have h2:(l.map enc).take l.length=l.map enc:=by rw [List.take_of_length_le];simp
 simp [fzB,h1,hw,h2]
theorem QC {α:Type} {l:List α} {enc:α→List V} {id g e len:Nat} {lv:Bool} {h:Hp} (hb:h[id]? = some (.rows e (l.map enc) g lv)) (hl:len=l.length) (hp:∀ x,bC (enc x)=true) :
  lq none (.own id g len) h=some (.ro (l.map enc),[]):=by
 simp only [lq,fzR,E8,fzA,ry,hb,RH hl hp (by simp:Nat.ble 0 id=true),Option.bind_some,V.pure,if_true]
end ret
section app
variable {P:Program} {wl:Nat} {t:TypeId} {H:Hp}
theorem EA {r:List (List V)}:b9 (.ro r) H=some r:=rfl
theorem J8:b9 .nil H=some []:=rfl
def roB (g len:Nat):Option B→Option (List (List V))
 | some (.rows _ rs g' _)=>bif g==g'&&decide (len≤rs.length) then some (rs.take len) else none
 | _=>none
theorem JT {id g len:Nat}:b9 (.own id g len) H=roB g len (H[id]?):=by
 unfold b9 roB
 dsimp only
 generalize H[id]? = b
 cases b with
 | none=>rfl
 | some b=>cases b <;> simp [Bool.cond_eq_ite]
def apB (wl _e:Nat) (sz bytes id g len:Nat) (xs:List (List V)) (H:Hp):Option B→Option (V×Hp)
 | some (.rows s rs g' live)=>
  bif Nat.ble wl id&&(g==g')&&decide (len≤rs.length)&&(live||len==rs.length)&&(s==sz||s==0)&&decide ((len+xs.length)*bytes≤70368744177664) then
   some (.own id (g+1) (len+xs.length),H.set id (.rows sz (rs.take len++xs) (g+1) live)) else none
 | _=>none
theorem en {e:TypeId} {id g len:Nat} {x:V} (he:kP P t=some e) (hg:Fx P e=true) :
  bv P wl t (.own id g len) x H=(b9 x H).bind fun xs=>bif cg (aW P e) xs then apB wl e (aW P e) (P.bytesOf e) id g len xs H (H[id]?) else none:=by
 unfold bv
 simp only [he]
 cases hr:b9 x H with
 | none=>rfl
 | some xs=>
  simp only [Option.bind_some,hg,Bool.and_true]
  cases cg (aW P e) xs with
  | false=>rfl
  | true=>
   simp only [if_true,cond_true,apB]
   generalize H[id]? = b
   cases b with
   | none=>rfl
   | some b=>
    cases b with
    | rows s rs g' lv=>simp [Bool.cond_eq_ite,and_assoc]
    | _=>rfl
theorem er {e:TypeId} {x:V} (he:kP P t=some e) (hg:Fx P e=true) :
  bv P wl t .nil x H=(b9 x H).bind fun xs=>bif cg (aW P e) xs then bif decide (xs.length*P.bytesOf e≤70368744177664) then some (.own H.length 0 xs.length,H++[.rows (aW P e) xs 0 true]) else none else none:=by
 unfold bv
 simp only [he]
 cases hr:b9 x H with
 | none=>rfl
 | some xs=>
  simp only [Option.bind_some,hg,Bool.and_true]
  cases cg (aW P e) xs with
  | false=>rfl
  | true=>simp [Bool.cond_eq_ite]
theorem eH {α:Type} {l:List α} {enc:α→List V} {sz:Nat} (h:∀ x,(enc x).length=sz):cg sz (l.map enc)=true:=by
 rw [cg,List.all_eq_true]
 intro r hr
 obtain ⟨x,_,rfl⟩:=List.mem_map.1 hr
 simp [h]
def room (n bytes:Nat):Bool:=decide (n*bytes≤70368744177664)
theorem Ct {e : TypeId} {n : Int} {z : Value} {Z : List V} (he : kP P t = some e) (hz : fC P e = some z) (hZ : bn.fzZ (b7 z) = Z) (ho : (br (b7 z) && (b7 z).length == aW P e && aW P e != 0) = true) :
    bn P t (.lit (.int .i64 n)) (.lit (.int .i64 n)) H = bif decide (0 ≤ n ∧ n ≤ 9223372036854775807 ∧ n * P.bytesOf e ≤ 70368744177664) then some (.own H.length 0 n.toNat, H ++ [.rows (aW P e) (List.replicate n.toNat Z) 0 true]) else none := by
  unfold bn
  simp only [he, hz, ho, if_true, hZ, true_and, Bool.cond_eq_ite, decide_eq_true_eq]
end app
theorem gq {α:Type} {l:List α} {enc:α→List V} {n:Nat} (hp:∀ x,bC (enc x)=true):mb n (l.map enc)=l.map enc:=by
 have h1:dj (l.map enc)=true:=by
  rw [dj,List.all_eq_true]
  intro r hr
  obtain ⟨x,_,rfl⟩:=List.mem_map.1 hr
  exact hp x
 simp [mb,h1]
theorem fi {α:Type} {l:List α} {enc:α→List V} {n:Nat} (hp:∀ x,bC (enc x)=true):ku n (l.map enc)=l.map enc:=by
 have h1:dj (l.map enc)=true:=by
  rw [dj,List.all_eq_true]
  intro r hr
  obtain ⟨x,_,rfl⟩:=List.mem_map.1 hr
  exact hp x
 simp [ku,h1]
theorem Jx {n:Nat}:ku n []=[]:=rfl
theorem KR {n:Nat}:mb n []=[]:=rfl
theorem uH (k:IntKind) (x:Int):bC (aF k x)=true:=rfl
theorem rA (x:Bool):bC (mC x)=true:=rfl
theorem lx (x:Int×List Int):bC (an x)=true:=rfl
theorem nR (x:Int×Int×Int):bC (aJ x)=true:=rfl
theorem MU {k:IntKind} {l:List Int} {n:Nat}:mb n (l.map (aF k))=l.map (aF k):=gq (uH k)
theorem JS {l:List Bool} {n:Nat}:mb n (l.map mC)=l.map mC:=gq rA
theorem Jq {l:Tyt} {n:Nat}:mb n (l.map an)=l.map an:=gq lx
theorem Fp {l:Tye} {n:Nat}:mb n (l.map aJ)=l.map aJ:=gq nR
theorem Kv {k:IntKind} {l:List Int} {n:Nat}:ku n (l.map (aF k))=l.map (aF k):=fi (uH k)
theorem FK {l:List Bool} {n:Nat}:ku n (l.map mC)=l.map mC:=fi rA
theorem G0 {l:Tyt} {n:Nat}:ku n (l.map an)=l.map an:=fi lx
theorem DX {l:Tye} {n:Nat}:ku n (l.map aJ)=l.map aJ:=fi nR
theorem JM {n:Nat} {cs:List V}:B.shift n (.box cs) = .box (kM n cs):=rfl
theorem G2 {n e g:Nat} {rs:List (List V)} {l:Bool}:B.shift n (.rows e rs g l) = .rows e (ku n rs) g l:=rfl
theorem MR {n:Nat} {cs:List V}:B.kill n (.box cs) = .box (k7 n cs):=rfl
theorem Kz {n e g:Nat} {rs:List (List V)} {l:Bool}:B.kill n (.rows e rs g l) = .rows e (mb n rs) g l:=rfl
theorem KE {n:Nat}:B.kill n .dead = .dead:=rfl
theorem LS {l:List Bool} {i:Nat} {b:Bool}:(l.map mC).set i [.lit (.bool b)]=(l.set i b).map mC:=by rw [List.map_set];rfl
theorem Px {k:IntKind} {l:List Int} {i:Nat} {b:Int}:(l.map (aF k)).set i [.lit (.int k b)]=(l.set i b).map (aF k):=by rw [List.map_set];rfl
theorem Mi {n:Nat} {b:Bool}:List.replicate n [V.lit (.bool b)]=(List.replicate n b).map mC:=by rw [List.map_replicate];rfl
theorem O6 {k:IntKind} {n:Nat} {b:Int}:List.replicate n [V.lit (.int k b)]=(List.replicate n b).map (aF k):=by rw [List.map_replicate];rfl
theorem OH {α:Type} {l:List α} {f:α→List V} {i:Nat}:(l.map f)[i]? = (l[i]?).map f:=List.getElem?_map
theorem akA {n:Nat}:Nat.ble 0 n=true:=by cases n <;> rfl
theorem P4 (x:Int×List Int):an x=[.lit (.int .i64 x.1),.ro (x.2.map (aF .i64))]:=rfl
theorem MM {keep:Option (Nat→Bool)} {v:Value} {h:Hp}:lq keep (.lit v) h=some (.lit v,[]):=by
 cases keep <;> rfl
theorem Pj {keep:Option (Nat→Bool)} {r:List (List V)} {h:Hp}:lq keep (.ro r) h=some (.ro r,[]):=by
 cases keep <;> rfl
theorem TG {z:Int} (h1 : -9223372036854775808≤z) (h2:z≤9223372036854775807):IntKind.i64.wrap z=z:=by
 simp [IntKind.wrap,IntKind.bits,IntKind.signed]
 omega
end Go.Ab
namespace Go.Ab
def bdK (id n:Nat):Out→St→Res:=fun o s=>match s.H[id]? with
 | some (.loop l)=>some (.lit (.bool (dT o).isNone),bN n (s.H.set id (.loop { l with st:=if (dT o).isNone then .ready else .done,pending:=dT o })))
 | _=>none
def asK (cx:Cx) (id n:Nat) (body:Code):Out→St→Res:=fun o s=>match o with
 | .norm=>match s.H[id]? with
  | some (.loop l)=>if l.st = .ready then au cx (bdK id n) [.seq body] .norm ⟨s.env,s.H.set id (.loop { l with st := .busy })⟩ else none
  | _=>none
 | _=>none
def rfK (K:Out→St→Res) (env:List V) (n:Nat) (p:V×Hp):Res:=
 match p.2[n]? with
 | some (.loop l)=>if l.st = .busy then none else
  match l.pending with
  | none=>K .norm ⟨env,bN n p.2⟩
  | some .ret=>K .ret ⟨env,bN n p.2⟩
  | some (.exit id)=>K (.exit id) ⟨env,bN n p.2⟩
  | some (.goto id)=>K (.goto id) ⟨env,bN n p.2⟩
  | some _=>none
 | _=>none
def Ue {σ α:Type} (step:σ→α→Bool×σ):List α→σ→Bool×σ
 | [],s=>(true,s)
 | x::r,s=>if (step s x).1 then Ue step r (step s x).2 else step s x
end Go.Ab
namespace Go.Ab
theorem bO {α:Type} {l r:List α} {x:α} {i:Nat} (h:l.drop i=x::r):i<l.length∧l[i]? = some x∧l.drop (i+1)=r∧x ∈ l∧l.length=i+1+r.length:=by
 have h0:i<l.length:=by
  have:=congrArg List.length h
  simp at this
  omega
 have h1:l.drop i=l[i]::l.drop (i+1):=List.drop_eq_getElem_cons h0
 rw [h] at h1
 injection h1 with h2 h3
 refine ⟨h0,by rw [List.getElem?_eq_getElem h0,h2],h3.symm,h2 ▸ List.getElem_mem h0,?_⟩
 have:=congrArg List.length h
 simp at this
 omega
theorem cC {α:Type} {l:List α} {i:Nat} (h:l.drop i=[]):l.length≤i:=List.drop_eq_nil_iff.1 h
theorem dS {α:Type} {l:List α} {i:Nat} {x:α} (h:l[i]? = some x):idx l (i:Int)=some x:=by rw [YA,h]
theorem ltT {a b:Int} (h:a<b):decide (a<b)=true:=decide_eq_true h
theorem ltF {a b:Int} (h:b≤a):decide (a<b)=false:=decide_eq_false (by omega)
theorem leT {a b:Int} (h:a≤b):decide (a≤b)=true:=decide_eq_true h
theorem leF {a b:Int} (h:b<a):decide (a≤b)=false:=decide_eq_false (by omega)
theorem fF {k d:Nat} (h:d<k):∃ j,k=j+1:=⟨k - 1,by omega⟩
theorem eQ {i:Nat} (h:i≤9223372036854775806):IntKind.i64.wrap ((i:Int)+1)=((i+1:Nat):Int):=by
 rw [TG (by omega) (by omega)]
 omega
end Go.Ab
namespace Go.Ab
def GR {α:Type} (p:α→Bool):List α→Nat→Int
 | [],_ => -1
 | x::r,i=>if p x then (i:Int) else GR p r (i+1)
theorem nH {α:Type} (p:α→Bool):∀ (l:List α) (i:Nat),decide (0≤GR p l i)=l.any p
 | [],_=>rfl
 | x::r,i=>by
  by_cases h:p x=true
  ·simp [GR,h]
  ·simpa [GR,h] using nH p r (i+1)
end Go.Ab
namespace Go.Ab
theorem akw {n:Nat} (h:n≤30):decide ((30:Int)<n)=false:=decide_eq_false (by omega)
end Go.Ab
namespace Go.Ab
theorem akq {n:Nat} (h:30<n):decide ((30:Int)<n)=true:=decide_eq_true (by omega)
end Go.Ab
namespace Go.Ab
theorem SO {n:Nat}:decide ((n:Int)≤40)=decide (n≤40):=by
 by_cases h:n≤40
 ·rw [decide_eq_true h,decide_eq_true (by omega)]
 ·rw [decide_eq_false h,decide_eq_false (by omega)]
end Go.Ab
namespace Go.Ab
section one
variable {wl e sz bytes id g len s:Nat} {H:Hp} {lv:Bool}
theorem ut {n b:Nat} (h:n*b≤70368744177664):room n b=true:=decide_eq_true h
end one
end Go.Ab
namespace Go.Ab
theorem eX {α:Type} {l:List α} {enc:α→List V} (hp:∀ x,bC (enc x)=true):dj (l.map enc)=true:=by
 rw [dj,List.all_eq_true]
 intro r hr
 obtain ⟨x,_,rfl⟩:=List.mem_map.1 hr
 exact hp x
theorem wL {k:IntKind} {l:List Int}:dj (l.map (aF k))=true:=eX (uH k)
theorem Ke {l:Tyt}:dj (l.map an)=true:=eX lx
theorem FP {l:Tye}:dj (l.map aJ)=true:=eX nR
theorem JN {l:List Bool}:dj (l.map mC)=true:=eX rA
end Go.Ab
namespace Go.Ab
section slices
variable {P:Program} {wl:Nat} {c:Bool} {t e:TypeId} {α:Type} {l:List α} {enc:α→List V} {k k':IntKind} {n lo:Int} {H:Hp}
theorem Cj (h:∀ x,(enc x).length=aW P e):(l.map enc).all (fun r=>r.length==aW P e)=true:=by
 rw [List.all_eq_true]
 intro r hr
 obtain ⟨x,_,rfl⟩:=List.mem_map.1 hr
 simp [h]
theorem oA (he : kP P t = some e) (hz : (aW P e != 0) = true) (h : ∀ x, (enc x).length = aW P e) :
    b8 P wl c t (.ro (l.map enc)) none (some (.lit (.int k n))) none H = bif decide (0 ≤ n ∧ n ≤ l.length) then some (.ro ((l.take n.toNat).map enc), H) else none := by
  have hz' : aW P e ≠ 0 := by simpa using hz
  unfold b8
  simp only [he, bnd]
  by_cases h0 : 0 ≤ n
  · simp only [h0, if_true, Option.bind_some, true_and]
    by_cases h1 : n ≤ l.length
    · have h2 : n.toNat ≤ l.length := by omega
      simp [h1, h2, hz', Cj h, List.map_take]
    · have h2 : ¬ n.toNat ≤ l.length := by omega
      simp [h1, h2]
  · simp [h0]
theorem o8 (he : kP P t = some e) (hz : (aW P e != 0) = true) (h : ∀ x, (enc x).length = aW P e) :
    b8 P wl c t (.ro (l.map enc)) (some (.lit (.int k n))) none none H = bif decide (0 ≤ n ∧ n ≤ l.length) then some (.ro ((l.drop n.toNat).map enc), H) else none := by
  have hz' : aW P e ≠ 0 := by simpa using hz
  unfold b8
  simp only [he, bnd]
  by_cases h0 : 0 ≤ n
  · simp only [h0, if_true, Option.bind_some, true_and]
    by_cases h1 : n ≤ l.length
    · have h2 : n.toNat ≤ l.length := by omega
      simp [h1, h2, hz', Cj h, List.map_drop, List.take_of_length_le]
    · have h2 : ¬ n.toNat ≤ l.length := by omega
      simp [h1, h2]
  · simp [h0]
theorem lX (he : kP P t = some e) (hz : (aW P e != 0) = true) (h : ∀ x, (enc x).length = aW P e) :
    b8 P wl c t (.ro (l.map enc)) (some (.lit (.int k lo))) (some (.lit (.int k' n))) none H = bif decide (0 ≤ lo ∧ lo ≤ n ∧ n ≤ l.length) then some (.ro (((l.take n.toNat).drop lo.toNat).map enc), H) else none := by
  have hz' : aW P e ≠ 0 := by simpa using hz
  unfold b8
  simp only [he, bnd]
  by_cases h0 : 0 ≤ lo
  · by_cases h3 : 0 ≤ n
    · simp only [h0, h3, if_true, Option.bind_some, true_and]
      by_cases h1 : n ≤ l.length
      · have h2 : n.toNat ≤ l.length := by omega
        by_cases h4 : lo ≤ n
        · have h5 : lo.toNat ≤ n.toNat := by omega
          simp [h1, h2, h4, h5, hz', Cj h, List.map_take, List.map_drop]
        · have h5 : ¬ lo.toNat ≤ n.toNat := by omega
          simp [h4, h5]
      · have h2 : ¬ n.toNat ≤ l.length := by omega
        simp [h1, h2]
    · have : ¬ (0 ≤ lo ∧ lo ≤ n ∧ n ≤ (l.length : Int)) := by omega
      simp [h3, this]
  · simp [h0]
end slices
end Go.Ab
namespace Go.Ab
end Go.Ab
namespace Go.Ab
def bq {α β:Type} (x:Option α) (F:α→Option β):Option β:=x.bind F
@[congr] theorem aee {α β:Type} {x y:Option α} {F:α→Option β} (h:x=y):bq x F=bq y F:=by rw [h]
def sif {β:Type} (c:Bool) (a b:β):β:=bif c then a else b
@[congr] theorem Z4 {β:Type} {c d:Bool} {a b:β} (h:c=d):sif c a b=sif d a b:=by rw [h]
theorem nj {β:Type} {a b:β}:sif true a b=a:=rfl
theorem mL {β:Type} {a b:β}:sif false a b=b:=rfl
section
variable {α β γ:Type}
theorem Xq {a:α} {F:α→Option β}:bq (some a) F=F a:=rfl
theorem Wl {F:α→Option β}:bq none F=none:=rfl
theorem Xe {c:Bool} {x y:Option α} {F:α→Option β}:bq (bif c then x else y) F=bif c then bq x F else bq y F:=by cases c <;> rfl
theorem aeV {x:Option γ} {f:γ→Option α} {F:α→Option β}:bq (ob x f) F=ob x fun a=>bq (f a) F:=by cases x <;> rfl
theorem ahO {c:Bool} {x:Option α} {F:α→Option β}:bq (ck c x) F=ck c (bq x F):=by cases c <;> rfl
theorem adL {x:Option γ} {f:γ→α} {F:α→Option β}:bq (x.map f) F=ob x fun a=>F (f a):=by cases x <;> rfl
theorem YX {x:Option γ} {f:γ→Option α} {F:α→Option β}:bq (x.bind f) F=ob x fun a=>bq (f a) F:=by cases x <;> rfl
theorem Zn {c:Bool} {x:Option α} {F:α→Option β}:bq (bif c then x else none) F=ck c (bq x F):=by cases c <;> rfl
theorem ah1 {x:Option γ} {f:γ→Option α} {F:α→Option β}:bq (bq x f) F=bq x fun a=>bq (f a) F:=by cases x <;> rfl
theorem aii {x:Option γ} {f:γ→Option α} {F:α→Option β}:ob (ob x f) F=ob x fun a=>ob (f a) F:=by cases x <;> rfl
theorem Ve {c:Bool} {x y:Option α} {F:α→Option β}:ob (bif c then x else y) F=bif c then ob x F else ob y F:=by cases c <;> rfl
theorem aiq {c:Bool} {x:Option α} {F:α→Option β}:ob (ck c x) F=ck c (ob x F):=by cases c <;> rfl
theorem adO {x:Option γ} {f:γ→α} {F:α→Option β}:ob (x.map f) F=ob x fun a=>F (f a):=by cases x <;> rfl
end
section
variable {α:Type} {H:Hp} {K:V→Hp→Res} {k:Hp→Res}
theorem agT {x:Option α} {f:α→Option V}:bm (ob x f) H K=ob x fun a=>bm (f a) H K:=by cases x <;> rfl
theorem aiN {x:Option α} {f:α→Option (V×Hp)}:bp (ob x f) K=ob x fun a=>bp (f a) K:=by cases x <;> rfl
theorem ais {x:Option α} {f:α→Option Hp}:bs (ob x f) k=ob x fun a=>bs (f a) k:=by cases x <;> rfl
theorem WV {c:Bool} {x y:Option V}:bm (bif c then x else y) H K=bif c then bm x H K else bm y H K:=by cases c <;> rfl
theorem VE {c:Bool} {x y:Option (V×Hp)}:bp (bif c then x else y) K=bif c then bp x K else bp y K:=by cases c <;> rfl
theorem Wg {c:Bool} {x y:Option Hp}:bs (bif c then x else y) k=bif c then bs x k else bs y k:=by cases c <;> rfl
theorem ae9 {c:Bool} {x:Option V}:bm (ck c x) H K=ck c (bm x H K):=by cases c <;> rfl
theorem ahu {c:Bool} {x:Option (V×Hp)}:bp (ck c x) K=ck c (bp x K):=by cases c <;> rfl
theorem ahM {c:Bool} {x:Option Hp}:bs (ck c x) k=ck c (bs x k):=by cases c <;> rfl
end
def rt (kp:Option (Nat→Bool)) (x:Res):Res:=x.bind fun p=>lq kp p.1 p.2
section rt
variable {kp:Option (Nat→Bool)} {α:Type} {h:Hp}
theorem Wy:rt kp none=none:=rfl
theorem G8 {v:V}:rt kp (some (v,h))=lq kp v h:=rfl
theorem XX {c:Bool} {x y:Res}:rt kp (bif c then x else y)=bif c then rt kp x else rt kp y:=by cases c <;> rfl
theorem YP {x:Option α} {f:α→Res}:rt kp (ob x f)=ob x fun a=>rt kp (f a):=by cases x <;> rfl
theorem afK {c:Bool} {x:Res}:rt kp (ck c x)=ck c (rt kp x):=by cases c <;> rfl
def rtN (v:V) (H:Hp):Res:=bq (fzR 0 v H) fun q=>sif q.1.pure (some (q.1,[])) (some q)
theorem DO {v:V}:lq none v h=rtN v h:=by
 show (fzR 0 v h).bind _=(fzR 0 v h).bind _
 congr 1
 funext q
 cases hq:q.1.pure <;> simp [sif,hq]
theorem X5:lq none .nil h=some (.ro [],[]):=rfl
theorem Yq {c:List V}:lq none (.agg c) h=rtN (.agg c) h:=DO
theorem XU {c:List V}:lq none (.tup c) h=rtN (.tup c) h:=DO
theorem UO {i g l:Nat}:lq none (.own i g l) h=rtN (.own i g l) h:=DO
theorem U4 {i:Nat}:lq none (.map i) h=some (.map i,h):=rfl
theorem ada {f:Fn} {a b:List V}:lq none (.fn f a b) h=rtN (.fn f a b) h:=DO
theorem V1 {i g r o:Nat}:lq none (.ptr i g r o) h=some (.ptr i g r o,h):=rfl
end rt
section fz
variable {wl:Nat} {H:Hp} {nl:Bool}
theorem VI {vs:List V}:fzR wl (.tup vs) H=bq (ma wl vs H) fun p=>some (.tup p.1,p.2):=rfl
theorem Vw {v:Value}:fzR wl (.lit v) H=some (.lit v,H):=rfl
theorem ZY {r:List (List V)}:fzR wl (.ro r) H=some (.ro r,H):=rfl
theorem Xn:fzR wl .nil H=some (.ro [],H):=rfl
theorem aaD {f:Fn} {a b:List V}:fzR wl (.fn f a b) H=some (.fn f a b,H):=rfl
theorem WX {i g r o:Nat}:fzR wl (.ptr i g r o) H=some (.ptr i g r o,H):=rfl
theorem WO {i:Nat}:fzR wl (.map i) H=some (.map i,H):=rfl
theorem X2 {i g l:Nat}:fzR wl (.own i g l) H=fzB wl i g l H (H[i]?):=ry
theorem Yv {c:List V}:fzR wl (.agg c) H=bq (fzL wl true c H) fun p=>some (.agg p.1,p.2):=rfl
theorem Lw:ma wl [] H=some ([],H):=rfl
theorem Ma {v:Value} {vs:List V}:ma wl (.lit v::vs) H=bq (ma wl vs H) fun q=>some (.lit v::q.1,q.2):=rfl
theorem RN {r:List (List V)} {vs:List V}:ma wl (.ro r::vs) H=bq (ma wl vs H) fun q=>some (.ro r::q.1,q.2):=rfl
theorem J4 {vs:List V}:ma wl (.nil::vs) H=bq (ma wl vs H) fun q=>some (.ro []::q.1,q.2):=rfl
theorem Qs {f:Fn} {a b vs:List V}:ma wl (.fn f a b::vs) H=bq (ma wl vs H) fun q=>some (.fn f a b::q.1,q.2):=rfl
theorem Nt {i g l:Nat} {vs:List V}:ma wl (.own i g l::vs) H=bq (fzB wl i g l H (H[i]?)) fun p=>bq (ma wl vs p.2) fun q=>some (p.1::q.1,q.2):=by
 show (fzC wl (.own i g l) H).bind _=_
 rw [ry]
 rfl
theorem Nb {c vs:List V}:ma wl (.agg c::vs) H=bq (fzL wl true c H) fun p=>bq (ma wl vs p.2) fun q=>some (.agg p.1::q.1,q.2):=by
 show ((fzL wl true c H).bind _).bind _=_
 cases fzL wl true c H <;> rfl
theorem OP:fzL wl nl [] H=some ([],H):=rfl
theorem Sq {v:Value} {vs:List V}:fzL wl nl (.lit v::vs) H=bq (fzL wl nl vs H) fun q=>some (.lit v::q.1,q.2):=rfl
theorem Yb {r:List (List V)} {vs:List V}:fzL wl nl (.ro r::vs) H=bq (fzL wl nl vs H) fun q=>some (.ro r::q.1,q.2):=rfl
theorem MN {vs:List V}:fzL wl true (.nil::vs) H=bq (fzL wl true vs H) fun q=>some (.ro []::q.1,q.2):=rfl
theorem Wn {f:Fn} {a b vs:List V}:fzL wl nl (.fn f a b::vs) H=bq (fzL wl nl vs H) fun q=>some (.fn f a b::q.1,q.2):=rfl
theorem O8 {i g r o:Nat} {vs:List V}:fzL wl nl (.ptr i g r o::vs) H=bq (fzL wl nl vs H) fun q=>some (.ptr i g r o::q.1,q.2):=rfl
theorem Qm {i g l:Nat} {vs:List V}:fzL wl nl (.own i g l::vs) H=bq (fzB wl i g l H (H[i]?)) fun p=>bq (fzL wl nl vs p.2) fun q=>some (p.1::q.1,q.2):=by
 show (fzC wl (.own i g l) H).bind _=_
 rw [ry]
 rfl
theorem RD:mA wl [] H=some ([],H):=rfl
theorem Qk {v:Value} {vs:List V}:mA wl (.lit v::vs) H=bq (mA wl vs H) fun q=>some (.lit v::q.1,q.2):=rfl
theorem XQ {r:List (List V)} {vs:List V}:mA wl (.ro r::vs) H=bq (mA wl vs H) fun q=>some (.ro r::q.1,q.2):=rfl
theorem LR {vs:List V}:mA wl (.nil::vs) H=bq (mA wl vs H) fun q=>some (.nil::q.1,q.2):=rfl
theorem Yj {f:Fn} {a b vs:List V}:mA wl (.fn f a b::vs) H=bq (mA wl vs H) fun q=>some (.fn f a b::q.1,q.2):=rfl
theorem Q3 {i:Nat} {vs:List V}:mA wl (.yld i::vs) H=bq (mA wl vs H) fun q=>some (.yld i::q.1,q.2):=rfl
theorem OL {i:Nat} {vs:List V}:mA wl (.map i::vs) H=bq (mA wl vs H) fun q=>some (.map i::q.1,q.2):=rfl
theorem Rt {i g r o:Nat} {vs:List V}:mA wl (.ptr i g r o::vs) H=bq (mA wl vs H) fun q=>some (.ptr i g r o::q.1,q.2):=rfl
theorem Pm {i g l:Nat} {vs:List V}:mA wl (.own i g l::vs) H=bq (fzB wl i g l H (H[i]?)) fun p=>bq (mA wl vs p.2) fun q=>some (p.1::q.1,q.2):=by
 show (fzC wl (.own i g l) H).bind _=_
 rw [ry]
 rfl
theorem Sw {c vs:List V}:mA wl (.agg c::vs) H=bq (fzL wl true c H) fun p=>bq (mA wl vs p.2) fun q=>some (.agg p.1::q.1,q.2):=by
 show ((fzL wl true c H).bind _).bind _=_
 cases fzL wl true c H <;> rfl
theorem ajY {i g len e g':Nat} {rs:List (List V)} {lv:Bool}:fzB wl i g len H (some (.rows e rs g' lv))=sif (g==g'&&(dj rs&&Nat.ble wl i)) (ck (decide (len≤rs.length)) (some (.ro (rs.take len),H.set i (.rows e rs g' false)))) none:=by
 show (bif g==g'&&decide (len≤rs.length)&&(dj rs&&Nat.ble wl i) then _ else _)=_
 generalize (g==g')=a
 generalize decide (len≤rs.length)=b
 generalize (dj rs&&Nat.ble wl i)=c
 cases a <;> cases b <;> cases c <;> rfl
end fz
theorem RP {α:Type} {l:List α} {n:Nat} (h:l.length=n):l.take n=l:=List.take_of_length_le (by omega)
theorem Mb:dj []=true:=rfl
theorem JQ {r:List V} {rs:List (List V)}:dj (r::rs)=(bC r&&dj rs):=rfl
def FV (n:Nat):Hp→Hp
 | []=>[]
 | b::H=>b.kill n::FV n H
def rY (n:Nat):Hp→Hp
 | []=>[]
 | b::H=>b.shift n::rY n H
theorem I6 {n:Nat}:∀ {H:Hp},H.map (B.kill n)=FV n H
 | []=>rfl
 | b::H=>by simp [FV,I6 (H:=H)]
theorem Ae {n:Nat}:∀ {H:Hp},H.map (B.shift n)=rY n H
 | []=>rfl
 | b::H=>by simp [rY,Ae (H:=H)]
theorem Wa {n:Nat} {H:Hp}:bN n H=FV n (H.take n):=I6
theorem Lx {n:Nat}:FV n []=[]:=rfl
theorem Jm {n:Nat} {b:B} {H:Hp}:FV n (b::H)=b.kill n::FV n H:=rfl
theorem Ks {n:Nat}:rY n []=[]:=rfl
theorem G9 {n:Nat} {b:B} {H:Hp}:rY n (b::H)=b.shift n::rY n H:=rfl
theorem Gi {n:Nat} {st:LoopState} {pe:Option Code} {f:FuncId} {ts:List V} {ps:List Tmp} {a b:Code}:B.kill n (.loop ⟨st,pe,f,ts,ps,a,b⟩) = .loop ⟨st,pe,f,k7 n ts,ps,a,b⟩:=rfl
def nsh (H:Hp) (v:V) (H2:Hp):Res:=sif (decide (H.length≤H2.length)) (some (v,H2)) none
theorem Ua {H H2:Hp} {v:V}:dl H (v,H2)=nsh H v H2:=by
 unfold dl nsh sif
 by_cases h:H.length≤H2.length
 ·simp [h]
 ·simp [h]
theorem ajk {n m:Nat}:Nat.ble n m=decide (n≤m):=by
 have h:(Nat.ble n m=true)=(n≤m):=Nat.ble_eq
 cases hb:Nat.ble n m with
 | true=>
  rw [hb] at h
  exact (decide_eq_true (h.mp rfl)).symm
 | false=>
  rw [hb] at h
  exact (decide_eq_false (fun e=>Bool.noConfusion (h.mpr e))).symm
theorem B3 {H:Hp} {c:Bool} {x y:V×Hp}:dl H (sif c x y)=sif c (dl H x) (dl H y):=by cases c <;> rfl
def ldQ (H H':Hp) (q:V×Hp):Res:=dl H (q.1.shift H'.length,bif (q.1.shift H'.length).scal then H else H'++q.2.map (B.shift H'.length))
theorem TM {H H':Hp} {v:V} {h:Hp}:ldQ H H' (v,h)=nsh H (v.shift H'.length) (sif (v.shift H'.length).scal H (H'++rY H'.length h)):=by
 unfold ldQ
 rw [Ua,Ae]
 rfl
theorem WJ {H H':Hp} {v:Value} {h:Hp}:ldQ H H' (.lit v,h)=some (.lit v,H):=by
 rw [TM]
 simp [nsh,sif,V.shift,V.scal]
def ldP (H:Hp) (q:V×Hp):Res:=some (q.1.shift H.length,H++q.2.map (B.shift H.length))
theorem aar {H:Hp} {v:V} {h:Hp}:ldP H (v,h)=some (v.shift H.length,H++rY H.length h):=by
 unfold ldP
 rw [Ae]
theorem uL {cx:Cx} {g:FuncId} {args:List V} {H:Hp}:iT cx g args H=bq (nU cx g args) (ldP H):=by
 unfold iT nU bq ldP
 cases h:cx.call 0 g args [] with
 | none=>rfl
 | some p=>rfl
theorem Ml {cx:Cx} {o:Bool} {g:FuncId} {first caps args:List V} {H:Hp} :
  bE cx false o (.fn (.func g) first caps) args H=bq (sif (cx.M.keepArg g) (some (first++args++caps,H)) (mA cx.wl (first++args++caps) H)) fun a=>
   sif (bC a.1) (bq (nU cx g a.1) (ldQ H a.2))
    (bq (cx.call cx.wl g a.1 a.2) fun p=>bq (sif (cx.M.keepRes cx.fid g).isSome (some p) (fzR cx.wl p.1 p.2)) fun q=>dl H (sif q.1.pure (q.1,bN a.2.length q.2) q)):=by
 unfold bE Cd
 simp only [Bool.false_eq_true,if_false]
 have e1:(if cx.M.keepArg g=true then some (first++args++caps,H) else mA cx.wl (first++args++caps) H)=sif (cx.M.keepArg g) (some (first++args++caps,H)) (mA cx.wl (first++args++caps) H):=by
  cases cx.M.keepArg g <;> rfl
 rw [e1]
 unfold bq
 cases sif (cx.M.keepArg g) (some (first++args++caps,H)) (mA cx.wl (first++args++caps) H) with
 | none=>rfl
 | some a=>
  simp only [Option.bind_some]
  cases hp:bC a.1 with
  | true=>
   simp only [if_true,nj,uL]
   unfold bq
   cases nU cx g a.1 <;> rfl
  | false=>
   simp only [Bool.false_eq_true,if_false,mL]
   cases cx.call cx.wl g a.1 a.2 with
   | none=>rfl
   | some p=>
    simp only [Option.bind_some]
    have e2:(if (cx.M.keepRes cx.fid g).isSome=true then some p else fzR cx.wl p.1 p.2)=sif (cx.M.keepRes cx.fid g).isSome (some p) (fzR cx.wl p.1 p.2):=by
     cases (cx.M.keepRes cx.fid g).isSome <;> rfl
    rw [e2]
    cases sif (cx.M.keepRes cx.fid g).isSome (some p) (fzR cx.wl p.1 p.2) with
    | none=>rfl
    | some q=>
     simp only [Option.bind_some]
     cases hq:q.1.pure <;> simp [sif]
theorem Js {cx:Cx} {g:FuncId} {first caps args:List V} {H:Hp} :
  bE cx true true (.fn (.func g) first caps) args H =
   sif (bC (first++args++caps)) (bq (nU cx g (first++args++caps)) (ldP H)) (sif (cx.M.keepArg g) none (bq (mA cx.wl (first++args++caps) H) fun a=>
    sif (bC a.1) (bq (nU cx g a.1) fun q=>bq (ldP a.2 q) fun q=>some (q.1,sif q.1.scal H q.2)) (bq (cx.call a.2.length g a.1 a.2) fun p=>sif p.1.scal (some (p.1,H)) none))):=by
 unfold bE iQ
 simp only [if_true,uL]
 cases bC (first++args++caps) with
 | true=>rfl
 | false=>
  simp only [Bool.false_eq_true,if_false,mL]
  cases cx.M.keepArg g with
  | true=>rfl
  | false=>
   simp only [Bool.false_eq_true,if_false,mL]
   unfold bq
   cases mA cx.wl (first++args++caps) H with
   | none=>rfl
   | some a=>
    simp only [Option.bind_some]
    cases bC a.1 with
    | true=>
     simp only [if_true,nj]
     cases nU cx g a.1 <;> rfl
    | false=>
     simp only [Bool.false_eq_true,if_false,mL]
     cases cx.call a.2.length g a.1 a.2 with
     | none=>rfl
     | some p=>
      simp only [Option.bind_some]
      cases hs:p.1.scal <;> simp [sif]
theorem Kj {cx:Cx} {g:FuncId} {first caps args:List V} {H:Hp} :
  bE cx true false (.fn (.func g) first caps) args H=sif (bC (first++args++caps)) (bq (bq (cx.call 0 g (first++args++caps) []) fun p=>lq none p.1 p.2) fun q=>sif q.1.pure (some (q.1,H)) none) none:=by
 unfold bE iQ
 simp only [if_true,Bool.false_eq_true,if_false]
 cases bC (first++args++caps) with
 | false=>rfl
 | true=>
  simp only [if_true,nj]
  unfold bq
  cases cx.call 0 g (first++args++caps) [] with
  | none=>rfl
  | some p=>
   simp only [Option.bind_some,DO]
   unfold rtN bq
   cases fzR 0 p.1 p.2 with
   | none=>rfl
   | some q=>
    simp only [Option.bind_some]
    cases hq:q.1.pure <;> simp [sif,hq]
section rounds
variable {P:Program} {M:Mode}
def yB (P:Program) (M:Mode) (k wl id:Nat) (args:List V) (H:Hp):Option B→Res
 | some (.loop l)=>EI { P,M,fid:=l.fn,round:=true,wl,call:=evF P M k,yld:=evY P M k,n:=k } id l args H
 | _=>none
theorem Wb {k wl id:Nat} {args:List V} {H:Hp}:evY P M (k+1) wl id args H=yB P M k wl id args H (H[id]?):=by
 unfold yB
 simp only [evY]
 generalize H[id]? = b
 cases b with
 | none=>rfl
 | some b=>cases b <;> rfl
theorem O4 {k wl id:Nat} {args:List V} {H:Hp} {pe:Option Code} {f:FuncId} {ts:List V} {ps:List Tmp} {a b:Code} :
  yB P M k wl id args H (some (.loop ⟨.ready,pe,f,ts,ps,a,b⟩))=sif (decide (args.length=ps.length)&&Nat.ble wl id)
   (au { P,M,fid:=f,round:=true,wl,call:=evF P M k,yld:=evY P M k,n:=k } (asK { P,M,fid:=f,round:=true,wl,call:=evF P M k,yld:=evY P M k,n:=k } id H.length b) [.seq a] .norm ⟨eE ts ps args,H⟩) none:=by
 unfold yB EI
 by_cases h:args.length=ps.length
 ·cases hw:Nat.ble wl id with
  | true=>
   simp only [h,hw,and_self,if_true,decide_true,Bool.and_self,nj]
   show bk _ a none _ _=bk _ a none (au _ _ []) _
   congr 1
  | false=>simp [hw,sif]
 ·simp [h,sif]
def asB (cx:Cx) (id n:Nat) (body:Code) (env:List V) (H:Hp):Option B→Res
 | some (.loop l)=>if l.st = .ready then au cx (bdK id n) [.seq body] .norm ⟨env,H.set id (.loop { l with st := .busy })⟩ else none
 | _=>none
theorem UL {cx:Cx} {id n:Nat} {body:Code} {env:List V} {H:Hp}:asK cx id n body .norm ⟨env,H⟩=asB cx id n body env H (H[id]?):=by
 unfold asK asB
 rfl
theorem Ls {cx:Cx} {id n:Nat} {body:Code} {env:List V} {H:Hp} {pe:Option Code} {f:FuncId} {ts:List V} {ps:List Tmp} {a b:Code} :
  asB cx id n body env H (some (.loop ⟨.ready,pe,f,ts,ps,a,b⟩))=au cx (bdK id n) [.seq body] .norm ⟨env,H.set id (.loop ⟨.busy,pe,f,ts,ps,a,b⟩)⟩:=rfl
def bdB (id n:Nat) (o:Out) (H:Hp):Option B→Res
 | some (.loop l)=>some (.lit (.bool (dT o).isNone),bN n (H.set id (.loop { l with st:=if (dT o).isNone then .ready else .done,pending:=dT o })))
 | _=>none
theorem VS {id n:Nat} {o:Out} {env:List V} {H:Hp}:bdK id n o ⟨env,H⟩=bdB id n o H (H[id]?):=by
 unfold bdK bdB
 rfl
section
variable {id n:Nat} {H:Hp} {st:LoopState} {pe:Option Code} {f:FuncId} {ts:List V} {ps:List Tmp} {a b:Code}
theorem Pg:bdB id n .norm H (some (.loop ⟨st,pe,f,ts,ps,a,b⟩))=some (.lit (.bool true),bN n (H.set id (.loop ⟨.ready,none,f,ts,ps,a,b⟩))):=rfl
theorem Yh:bdB id n .ret H (some (.loop ⟨st,pe,f,ts,ps,a,b⟩))=some (.lit (.bool false),bN n (H.set id (.loop ⟨.done,some .ret,f,ts,ps,a,b⟩))):=rfl
theorem PG {i:Nat}:bdB id n (.exit i) H (some (.loop ⟨st,pe,f,ts,ps,a,b⟩))=some (.lit (.bool false),bN n (H.set id (.loop ⟨.done,some (.exit i),f,ts,ps,a,b⟩))):=rfl
theorem Pd {i:Nat}:bdB id n (.goto i) H (some (.loop ⟨st,pe,f,ts,ps,a,b⟩))=some (.lit (.bool false),bN n (H.set id (.loop ⟨.done,some (.goto i),f,ts,ps,a,b⟩))):=rfl
def rfB (K:Out→St→Res) (env:List V) (H:Hp):Option B→Res
 | some (.loop l)=>if l.st = .busy then none else
  match l.pending with
  | none=>K .norm ⟨env,H⟩
  | some .ret=>K .ret ⟨env,H⟩
  | some (.exit id)=>K (.exit id) ⟨env,H⟩
  | some (.goto id)=>K (.goto id) ⟨env,H⟩
  | some _=>none
 | _=>none
theorem WK {K:Out→St→Res} {env:List V} {v:V} {h:Hp}:rfK K env n (v,h)=rfB K env (bN n h) (h[n]?):=by
 unfold rfK rfB
 rfl
theorem Rp {K:Out→St→Res} {env:List V}:rfB K env H (some (.loop ⟨.ready,none,f,ts,ps,a,b⟩))=K .norm ⟨env,H⟩:=rfl
theorem Of {K:Out→St→Res} {env:List V}:rfB K env H (some (.loop ⟨.done,none,f,ts,ps,a,b⟩))=K .norm ⟨env,H⟩:=rfl
theorem WZ {K:Out→St→Res} {env:List V}:rfB K env H (some (.loop ⟨.done,some .ret,f,ts,ps,a,b⟩))=K .ret ⟨env,H⟩:=rfl
theorem Pt {K:Out→St→Res} {env:List V} {i:Nat}:rfB K env H (some (.loop ⟨.done,some (.exit i),f,ts,ps,a,b⟩))=K (.exit i) ⟨env,H⟩:=rfl
theorem O2 {K:Out→St→Res} {env:List V} {i:Nat}:rfB K env H (some (.loop ⟨.done,some (.goto i),f,ts,ps,a,b⟩))=K (.goto i) ⟨env,H⟩:=rfl
end
def rgC (cx:Cx) (ps:List Tmp) (a b:Code) (K:Out→St→Res) (env:List V) (H:Hp):V→Res
 | .fn (.func g) [] caps=>bq (cx.call cx.wl g (.yld H.length::caps) (H++[.loop ⟨.ready,none,cx.fid,env,ps,a,b⟩])) (rfK K env H.length)
 | _=>none
theorem ZK {cx:Cx} {ps:List Tmp} {a b:Code} {K:Out→St→Res} {env:List V} {H:Hp} {g:FuncId} {caps:List V} :
  rgC cx ps a b K env H (.fn (.func g) [] caps)=bq (cx.call cx.wl g (.yld H.length::caps) (H++[.loop ⟨.ready,none,cx.fid,env,ps,a,b⟩])) (rfK K env H.length):=rfl
theorem Sm {cx:Cx} {f:Operand} {ps:Array Tmp} {a b:Code} {K:Out→St→Res} {env:List V} {H:Hp} (hr:cx.round=false) :
  bk cx (.rangeFunc f ps a b) none K ⟨env,H⟩=sif (Nat.ble cx.wl H.length) (bq (evO env f) (rgC cx ps.toList a b K env H)) none:=by
 simp only [bk,hr,Bool.false_or]
 cases hw:Nat.ble cx.wl H.length with
 | false=>rfl
 | true=>
  simp only [Bool.not_true,Bool.false_eq_true,if_false,nj]
  cases hf:evO env f with
  | none=>rfl
  | some v=>
   simp only [bq,Option.bind_some]
   cases v with
   | fn f first caps=>
    cases f with
    | func g=>
     cases first with
     | nil=>
      simp only [rgC]
      unfold bq
      congr 1
     | cons=>rfl
    | _=>rfl
   | _=>rfl
end rounds
end Go.Ab
namespace Go.Ab
def oK:List V→List (Nat×Nat×V)→Option (List V)
 | cells,[]=>some cells
 | cells,(off,size,v)::rest=>
  match v.cells with
  | some vs=>if vs.length=size∧off+vs.length≤cells.length then oK (spl cells off vs) rest else none
  | none=>none
theorem OU {cells:List V}:oK cells []=some cells:=rfl
theorem Oo {cells:List V} {off size:Nat} {v:V} {rest:List (Nat×Nat×V)}:oK cells ((off,size,v)::rest)=bq v.cells fun vs=>sif (decide (vs.length=size∧off+vs.length≤cells.length)) (oK (spl cells off vs) rest) none:=by
 simp only [oK]
 cases v.cells with
 | none=>rfl
 | some vs=>
  simp only [bq,Option.bind_some]
  by_cases h:vs.length=size∧off+vs.length≤cells.length
  ·rw [if_pos h,decide_eq_true h];rfl
  ·rw [if_neg h,decide_eq_false h];rfl
theorem KQ {wl size:Nat} {rs:List (List V)} {H:Hp}:fI wl size [] rs H=some (rs,H):=rfl
theorem JP {wl size i:Nat} {v:V} {rest:List (Nat×V)} {rs:List (List V)} {H:Hp}:fI wl size ((i,v)::rest) rs H=bq v.cells fun vs=>bq (fzL wl true vs H) fun p=>sif (decide (i<rs.length∧p.1.length=size)) (fI wl size rest (rs.set i p.1) p.2) none:=by
 simp only [fI]
 cases v.cells with
 | none=>rfl
 | some vs=>
  simp only [bq,Option.bind_some]
  cases fzL wl true vs H with
  | none=>rfl
  | some p=>
   simp only [Option.bind_some]
   by_cases h:i<rs.length∧p.1.length=size
   ·rw [if_pos h,decide_eq_true h];rfl
   ·rw [if_neg h,decide_eq_false h];rfl
theorem Od {x y:Int}:pL (.int .i64 x) (.int .i64 y)=(x==y):=rfl
theorem KC {k:Value} {v:V}:iL k v []=[(k,v)]:=rfl
theorem GT {k:Value} {v:V} {e:Value×V} {es:List (Value×V)}:iL k v (e::es)=sif (pL k e.1) ((k,v)::es) (e::iL k v es):=by
 simp only [iL]
 cases pL k e.1 <;> rfl
def Or (kk:IntKind):List (Value×V)→Bool
 | []=>true
 | e::es=>iC kk e.1&&Or kk es
theorem RS {kk:IntKind}:Or kk []=true:=rfl
theorem Lk {kk:IntKind} {e:Value×V} {es:List (Value×V)}:Or kk (e::es)=(iC kk e.1&&Or kk es):=rfl
theorem Ga {x:Int}:iC .i64 (.int .i64 x)=true:=rfl
def inB (wl:Nat) (kk:IntKind) (id:Nat) (n:Int) (v:V) (H:Hp):Option B→Option Hp
 | some (.map es)=>if es.all (fun e=>iC kk e.1)&&true&&Nat.ble wl id then some (H.set id (.map (iL (.int kk n) v es))) else none
 | _=>none
theorem XA {kk:IntKind}:∀ {es:List (Value×V)},es.all (fun e=>iC kk e.1)=Or kk es
 | []=>rfl
 | e::es=>by simp [Or,XA (es:=es)]
theorem Yp {wl id:Nat} {kk:IntKind} {n:Int} {v:V} {H:Hp} {es:List (Value×V)}:inB wl kk id n v H (some (.map es))=sif (Or kk es&&Nat.ble wl id) (some (H.set id (.map (iL (.int kk n) v es)))) none:=by
 simp only [inB,XA,Bool.and_true]
 cases Or kk es&&Nat.ble wl id <;> rfl
def lkB (kk:IntKind) (z:V) (ok:Bool) (n:Int):Option B→Option V
 | some (.map es)=>if es.all (fun e=>iC kk e.1)&&true then some (bif ok then .tup [(iK (.int kk n) z es).1,.lit (.bool (iK (.int kk n) z es).2)] else (iK (.int kk n) z es).1) else none
 | _=>none
def lkO (kk:IntKind) (z:V) (ok:Bool) (n:Int):List (Value×V)→Option V
 | []=>some (sif ok (.tup [z,.lit (.bool false)]) z)
 | e::es=>bif pL (.int kk n) e.1 then some (sif ok (.tup [e.2,.lit (.bool true)]) e.2) else lkO kk z ok n es
theorem SQ {kk:IntKind} {z:V} {ok:Bool} {n:Int}:∀ {es:List (Value×V)},some (bif ok then V.tup [(iK (.int kk n) z es).1,.lit (.bool (iK (.int kk n) z es).2)] else (iK (.int kk n) z es).1)=lkO kk z ok n es
 | []=>by cases ok <;> rfl
 | e::es=>by
  simp only [iK,lkO]
  cases pL (.int kk n) e.1 with
  | true=>cases ok <;> rfl
  | false=>exact SQ (es:=es)
theorem Wk {kk:IntKind} {z:V} {ok:Bool} {n:Int} {es:List (Value×V)}:lkB kk z ok n (some (.map es))=sif (Or kk es) (lkO kk z ok n es) none:=by
 simp only [lkB,XA,Bool.and_true,SQ]
 cases Or kk es <;> rfl
theorem Vk {kk:IntKind} {z:V} {ok:Bool} {n:Int}:lkO kk z ok n []=some (sif ok (.tup [z,.lit (.bool false)]) z):=rfl
theorem QT {kk:IntKind} {z:V} {ok:Bool} {n:Int} {e:Value×V} {es:List (Value×V)}:lkO kk z ok n (e::es)=bif pL (.int kk n) e.1 then some (sif ok (.tup [e.2,.lit (.bool true)]) e.2) else lkO kk z ok n es:=rfl
def agO:Int→List V→Int→Option V
 | _,[],_=>none
 | i,c::cs,n=>bif n==i then some c else agO (i+1) cs n
theorem Vf {i n:Int}:agO i [] n=none:=rfl
theorem Qq {i n:Int} {c:V} {cs:List V}:agO i (c::cs) n=bif n==i then some c else agO (i+1) cs n:=rfl
theorem LM {p:Bool} {k:IntKind} {a b:Int}:aR (.lit (.bool p)) (.lit (.int k a)) (.lit (.int k b))=some (.lit (.int k (bif p then a else b))):=by cases p <;> rfl
theorem JL {p a b:Bool}:aR (.lit (.bool p)) (.lit (.bool a)) (.lit (.bool b))=some (.lit (.bool (bif p then a else b))):=by cases p <;> rfl
theorem Qi {k:IntKind} {a b:Int}:gS true [.lit (.int k a),.lit (.int k b)]=some (.lit (.int k (bif decide (a<b) then b else a))):=by
 simp only [gS,if_true,cond_true,gt_iff_lt]
 by_cases h:a<b <;> simp [h]
theorem P2 {k:IntKind} {a b:Int}:gS false [.lit (.int k a),.lit (.int k b)]=some (.lit (.int k (bif decide (b<a) then b else a))):=by
 simp only [gS,if_true,cond_false]
 by_cases h:b<a <;> simp [h]
theorem Kb {k:IntKind} {a:Int}:[[V.lit (.int k a)]]=[a].map (aF k):=rfl
theorem GB {k:IntKind} {a b:Int}:[[V.lit (.int k a)],[V.lit (.int k b)]]=[a,b].map (aF k):=rfl
theorem EF {a b c:Int}:[[V.lit (.int .i64 a),.lit (.int .i64 b),.lit (.int .i64 c)]]=[(a,b,c)].map aJ:=rfl
def Sa (k:IntKind) (a b:Int):Int:=k.wrap (a*2 ^ (min b.toNat k.bits))
def Tp (k:IntKind) (a b:Int):Int:=a.fdiv (2 ^ (min b.toNat k.bits))
def wa (k:IntKind) (a b:Int):Int:=k.wrap (BitVec.ofInt k.bits a &&& BitVec.ofInt k.bits b).toNat
def orI (k:IntKind) (a b:Int):Int:=k.wrap (BitVec.ofInt k.bits a ||| BitVec.ofInt k.bits b).toNat
section
variable {P:Program} {t:TypeId} {k k':IntKind} {a b:Int}
theorem RW:aw P .shl t (.lit (.int k a)) (.lit (.int k' b))=bif decide (0≤b) then some (.lit (.int k (Sa k a b))) else none:=by
 by_cases h:b<0
 ·have:¬ 0≤b:=by omega
  simp [aw,eJ,h,this]
 ·have h2:0≤b:=by omega
  simp [aw,eJ,h,h2,Sa]
theorem QH:aw P .shr t (.lit (.int k a)) (.lit (.int k' b))=bif decide (0≤b) then some (.lit (.int k (Tp k a b))) else none:=by
 by_cases h:b<0
 ·have:¬ 0≤b:=by omega
  simp [aw,eJ,h,this]
 ·have h2:0≤b:=by omega
  simp [aw,eJ,h,h2,Tp]
theorem Rh:aw P .and t (.lit (.int k a)) (.lit (.int k b))=some (.lit (.int k (wa k a b))):=by simp [aw,eJ,wa]
theorem Yz:aw P .or t (.lit (.int k a)) (.lit (.int k b))=some (.lit (.int k (orI k a b))):=by simp [aw,eJ,orI]
end
end Go.Ab
namespace Go.Ab
theorem akv {g len e g':Nat} {rs:List (List V)} {lv:Bool}:roB g len (some (.rows e rs g' lv))=sif (g==g') (ck (decide (len≤rs.length)) (some (rs.take len))) none:=by
 show (bif g==g'&&decide (len≤rs.length) then _ else _)=_
 generalize (g==g')=a
 generalize decide (len≤rs.length)=b
 cases a <;> cases b <;> rfl
theorem RM {f:Fn} {a b:List V} {H:Hp}:aP (.fn f a b) H=some (.ptr H.length 0 0 0,H++[.box [.fn f a b]]):=by simp [aP,V.cells,V.one,bH]
theorem L3 {i g n:Nat} {H:Hp}:aP (.own i g n) H=some (.ptr H.length 0 0 0,H++[.box [.own i g n]]):=by simp [aP,V.cells,V.one,bH]
theorem N3 {i g r o:Nat} {H:Hp}:aP (.ptr i g r o) H=some (.ptr H.length 0 0 0,H++[.box [.ptr i g r o]]):=by simp [aP,V.cells,V.one,bH]
theorem YZ {k:IntKind} {l:List Int}:cg 1 (l.map (aF k))=true:=eH fun _=>rfl
theorem Ry {l:List Bool}:cg 1 (l.map mC)=true:=eH fun _=>rfl
theorem Qv {l:Tyt}:cg 2 (l.map an)=true:=eH fun _=>rfl
theorem L8 {l:Tye}:cg 3 (l.map aJ)=true:=eH fun _=>rfl
theorem J0 {n:Nat}:cg n []=true:=rfl
theorem Yl {wl e sz bytes id g:Nat} {xs:List (List V)} {H:Hp} {lv:Bool} :
  apB wl e sz bytes id g 0 xs H (some (.rows 0 [] g lv))=sif (Nat.ble wl id) (bif room xs.length bytes then some (.own id (g+1) xs.length,H.set id (.rows sz xs (g+1) lv)) else none) none:=by
 cases hb:Nat.ble wl id <;> cases lv <;> simp [apB,hb,sif,room]
theorem Ld {α:Type} {wl e sz bytes id g len s:Nat} {l m:List α} {enc:α→List V} {H:Hp} :
  apB wl e sz bytes id g len (m.map enc) H (some (.rows s (l.map enc) g true)) =
   sif (Nat.ble wl id) (ck (decide (len≤l.length)) (ck (s==sz||s==0) (bif room (l.take len++m).length bytes then some (.own id (g+1) (l.take len++m).length,H.set id (.rows sz ((l.take len++m).map enc) (g+1) true)) else none))) none:=by
 by_cases h:len≤l.length
 ·have h1:(l.take len++m).length=len+m.length:=by simp [h]
  rw [decide_eq_true h,h1]
  simp only [apB,bA,List.length_map,beq_self_eq_true,Bool.and_true,Bool.true_or,decide_eq_true h,room,List.map_append,List.map_take]
  cases Nat.ble wl id <;> cases (s==sz||s==0) <;> simp [sif,ck]
 ·rw [decide_eq_false h,ui]
  simp [apB,decide_eq_false h,sif]
theorem N1 {α:Type} {l:List α} {enc:α→List V} {n:Nat}:(l.map enc).take n=(l.take n).map enc:=by rw [List.map_take]
theorem Jn {l:Tye} {i:Nat} {a b c:Int}:(l.map aJ).set i [.lit (.int .i64 a),.lit (.int .i64 b),.lit (.int .i64 c)]=(l.set i (a,b,c)).map aJ:=by rw [List.map_set];rfl
theorem LC {l:Tyt} {i:Nat} {a:Int} {b:List Int}:(l.map an).set i [.lit (.int .i64 a),.ro (b.map (aF .i64))]=(l.set i (a,b)).map an:=by rw [List.map_set];rfl
theorem J1 {l:Tyt} {i:Nat} {a:Int}:(l.map an).set i [.lit (.int .i64 a),.ro []]=(l.set i (a,[])).map an:=by rw [List.map_set];rfl
theorem GY {a:Int} {b:List Int}:[[V.lit (.int .i64 a),.ro (b.map (aF .i64))]]=[(a,b)].map an:=rfl
theorem DH {a:Int}:[[V.lit (.int .i64 a),.ro []]]=[(a,[])].map an:=rfl
def slB (g len id:Nat) (n:Int) (H:Hp):Option B→Option (V×Hp)
 | some (.rows _ _ g' _)=>if 0≤n then (if n.toNat≤len∧g=g' then some (.own id g n.toNat,H) else none) else none
 | _=>none
theorem Sl {g len id e g':Nat} {n:Int} {H:Hp} {rs:List (List V)} {lv:Bool}:slB g len id n H (some (.rows e rs g' lv))=sif (g==g') (ck (decide (0≤n∧n.toNat≤len)) (some (.own id g n.toNat,H))) none:=by
 unfold slB sif ck
 by_cases h0:0≤n
 ·by_cases h1:n.toNat≤len
  ·by_cases h2:g=g'
   ·simp [h0,h1,h2]
   ·simp [h0,h1,h2,beq_false_of_ne h2]
  ·simp [h0,h1]
 ·simp [h0]
theorem nc {P : Program} {wl : Nat} {c : Bool} {t e : TypeId} {id g len : Nat} {k : IntKind} {n : Int} {H : Hp} (he : kP P t = some e) (hz : (aW P e != 0) = true) :
    b8 P wl c t (.own id g len) none (some (.lit (.int k n))) none H = slB g len id n H (H[id]?) := by
  have hz' : aW P e ≠ 0 := by simpa using hz
  unfold b8 slB
  simp only [he, bnd]
  by_cases h0 : 0 ≤ n
  · simp only [h0, if_true, Option.bind_some]
    generalize H[id]? = b
    cases b with
    | none => rfl
    | some b => cases b <;> simp [hz']
  · simp only [h0, if_false, Option.bind_none]
    generalize H[id]? = b
    cases b with
    | none => rfl
    | some b => cases b <;> rfl
end Go.Ab
namespace Go.Ab
end Go.Ab
namespace Go.Ab
theorem YM {env:List V} {t:Nat}:evO env (.tmp t)=env[t]? := rfl
theorem OV {env:List V} {f:Nat}:evO env (.func f)=some (.fn (.func f) [] []):=rfl
theorem CQ {env vs:List V}:eE env [] vs=env:=by cases vs <;> rfl
theorem Ar {env vs:List V} {t:Tmp} {ts:List Tmp} {v:V}:eE env (t::ts) (v::vs)=eE (env.set t v) ts vs:=rfl
end Go.Ab
namespace Go.Ab
theorem Xm {n:Nat}:V.kill n uu=uu:=rfl
end Go.Ab
namespace Go.Ab
def aQ {α:Type} (bytes:Nat) (l:List α):Option (List α):=ck (Nat.ble (l.length*bytes) 70368744177664) (some l)
section clone
variable {P:Program} {t e:TypeId} {α:Type} {enc:α→List V} {sz bytes:Nat}
theorem i7 (he:kP P t=some e) (hz:∃ z,fC P e=some z∧br (b7 z)=true∧((b7 z).length==sz)=true) (hs:aW P e=sz) (hg:Fx P e=true) (hb:P.bytesOf e=bytes) (hl:∀ x,(enc x).length=sz) (l:List α) :
  iE P t [.ro (l.map enc)] []=ob (aQ bytes l) fun r=>some (.own 1 1 r.length,[.rows 0 [] 0 true,.rows sz (r.map enc) 1 true]):=by
 obtain ⟨z,z1,z2,z3⟩:=hz
 unfold iE
 simp only [he,Option.bind_some,z1,EA,hs,hg,z2,z3,hb,eH hl,Bool.and_true,Bool.true_and,List.length_map,List.length_nil,List.nil_append]
 unfold aQ
 cases Nat.ble (l.length*bytes) 70368744177664 <;> rfl
theorem gT (hl:∀ x,bC (enc x)=true) (l:List α) (g:Nat) :
  rt none (ob (aQ bytes l) fun r=>some (.own 1 1 r.length,[.rows 0 [] 0 true,.rows g (r.map enc) 1 true]))=ob (aQ bytes l) fun r=>some (.ro (r.map enc),[]):=by
 rw [YP]
 congr 1
 funext r
 rw [G8]
 exact QC (enc:=enc) (l:=r) (e:=g) (lv:=true) rfl rfl hl
theorem gR (hl:∀ x,bC (enc x)=true) (l:List α) (g:Nat) :
  rt (some fun _=>true) (ob (aQ bytes l) fun r=>some (.own 1 1 r.length,[.rows 0 [] 0 true,.rows g (r.map enc) 1 true]))=ob (aQ bytes l) fun r=>some (.own 0 0 r.length,[.rows g (r.map enc) 0 true]):=by
 rw [YP]
 congr 1
 funext r
 have h1:dj (r.map enc)=true:=by
  rw [dj,List.all_eq_true]
  intro y hy
  obtain ⟨x,_,rfl⟩:=List.mem_map.1 hy
  exact hl x
 simp [G8,lq,EJ,oJ,h1]
 rw [List.take_of_length_le (by simp)]
end clone
end Go.Ab
namespace Go.Ab
theorem OD {n0 i g r o:Nat} {k:Res}:stO n0 (.ptr i g r o) k=sif (decide (i<n0)) k none:=by
 unfold stO stB IK sif
 simp only [Bool.cond_eq_ite]
theorem P9 {n0 i g l:Nat} {k:Res}:stO n0 (.own i g l) k=sif (decide (i<n0)) k none:=by
 unfold stO stB IK sif
 simp only [Bool.cond_eq_ite]
theorem Rn {n0 i:Nat} {k:Res}:stO n0 (.map i) k=sif (decide (i<n0)) k none:=by
 unfold stO stB IK sif
 simp only [Bool.cond_eq_ite]
theorem YB {n0:Nat} {r:List (List V)} {k:Res}:stO n0 (.ro r) k=k:=rfl
theorem YI {n0:Nat} {r:List V} {k:Res}:stO n0 (.rp r) k=k:=rfl
theorem QO {n0:Nat} {v:Value} {k:Res}:stO n0 (.lit v) k=k:=rfl
theorem Zd {n0:Nat} {f:Fn} {a b:List V} {k:Res}:stO n0 (.fn f a b) k=k:=rfl
theorem OR {n0:Nat} {k:Res}:stO n0 .nil k=k:=rfl
def we (n:Nat):List (Value×V)→List (Value×V)
 | []=>[]
 | e::es=>(e.1,e.2.shift n)::we n es
def GM (n:Nat):List (Value×V)→List (Value×V)
 | []=>[]
 | e::es=>(e.1,e.2.kill n)::GM n es
theorem IR {n:Nat}:∀ {es:List (Value×V)},es.map (fun e=>(e.1,e.2.kill n))=GM n es
 | []=>rfl
 | e::es=>by simp [GM,IR (es:=es)]
theorem Dm {n:Nat}:∀ {es:List (Value×V)},es.map (fun e=>(e.1,e.2.shift n))=we n es
 | []=>rfl
 | e::es=>by simp [we,Dm (es:=es)]
theorem J6 {n:Nat} {es:List (Value×V)}:B.kill n (.map es) = .map (GM n es):=by
 rw [← IR]
 rfl
theorem GP {n:Nat} {es:List (Value×V)}:B.shift n (.map es) = .map (we n es):=by
 rw [← Dm]
 rfl
theorem NE {n:Nat}:GM n []=[]:=rfl
theorem JB {n:Nat} {e:Value×V} {es:List (Value×V)}:GM n (e::es)=(e.1,e.2.kill n)::GM n es:=rfl
theorem JC {n:Nat}:we n []=[]:=rfl
theorem FB {n:Nat} {e:Value×V} {es:List (Value×V)}:we n (e::es)=(e.1,e.2.shift n)::we n es:=rfl
end Go.Ab
namespace Go.Ab
theorem NQ {H:Hp}:aP .nil H=some (.ptr (H++[B.rows 0 [] 0 true]).length 0 0 0,(H++[B.rows 0 [] 0 true])++[.box [.own H.length 0 0]]):=by simp [aP,V.cells,V.one,bH]
theorem Nv {i:Nat} {H:Hp}:aP (.yld i) H=some (.ptr H.length 0 0 0,H++[.box [.yld i]]):=by simp [aP,V.cells,V.one,bH]
theorem KT {i:Nat} {H:Hp}:aP (.map i) H=some (.ptr H.length 0 0 0,H++[.box [.map i]]):=by simp [aP,V.cells,V.one,bH]
theorem OZ {i:Nat} {l:List V} {H:Hp}:bH (.yld i::l) H=(.yld i::(bH l H).1,(bH l H).2):=rfl
theorem Pf {i:Nat} {l:List V} {H:Hp}:bH (.map i::l) H=(.map i::(bH l H).1,(bH l H).2):=rfl
theorem LO {i:Nat}:V.cells (.yld i)=some [.yld i]:=rfl
theorem MS {i:Nat}:V.cells (.map i)=some [.map i]:=rfl
end Go.Ab
namespace Go.Ab
open Go
def Ut:List (Nat×V)→Bool
 | []=>true
 | p::l=>p.2.pure&&Ut l
theorem Qy:Ut []=true:=rfl
theorem MD {i:Nat} {v:V} {l:List (Nat×V)}:Ut ((i,v)::l)=(v.pure&&Ut l):=rfl
theorem Vy {l:List (Nat×V)}:bC (l.map (·.2))=Ut l:=by
 induction l with
 | nil=>rfl
 | cons p l ih=>simp only [List.map_cons,bC,Ut,ih]
theorem r8 {P:Program} {wl:Nat} {t:TypeId} {len:Nat} {l:List (Nat×V)} {H:Hp} :
  cX P wl t len l H=bq (ck (Ut l) (some ())) fun _=>aB P wl t len l H:=by
 unfold cX
 rw [Vy]
 cases Ut l <;> simp [bq,ck]
def ldL (P:Program) (t:TypeId) (off row:Nat):Nat→List (List V)→Option V
 | _,[]=>none
 | i,r::rs=>bif row==i then aX P t (r.drop off) else ldL P t off row (i+1) rs
theorem Vr {P:Program} {t:TypeId} {off row i:Nat}:ldL P t off row i []=none:=rfl
theorem Qe {P:Program} {t:TypeId} {off row i:Nat} {r:List V} {rs:List (List V)}:ldL P t off row i (r::rs)=bif row==i then aX P t (r.drop off) else ldL P t off row (i+1) rs:=rfl
theorem Uf {P:Program} {t:TypeId} {off row:Nat}:∀ {rs:List (List V)} {i:Nat},i≤row→ldL P t off row i rs=(rs[row - i]?).bind fun r=>aX P t (r.drop off)
 | [],i,_=>by simp [ldL]
 | r::rs,i,h=>by
  rw [ldL]
  by_cases e:row=i
  ·subst e;simp
  ·have h1:(row==i)=false:=by simp [e]
   have h2:row - i=(row - (i+1))+1:=by omega
   rw [h1,cond_false,Uf (by omega),h2,List.getElem?_cons_succ]
theorem Y6 {P:Program} {t:TypeId} {g row off e g':Nat} {r:List V} {rs:List (List V)} {lv:Bool} :
  ldB P t g row off (some (.rows e (r::rs) g' lv))=sif (g==g') (ldL P t off row 0 (r::rs)) none:=by
 rw [Uf (Nat.zero_le _),Nat.sub_zero]
 rfl
def MZ (x:Int×Int×Int×Int):List V:=[.lit (.int .i64 x.1),.lit (.int .i64 x.2.1),.lit (.int .i64 x.2.2.1),.lit (.int .i64 x.2.2.2)]
def mu (x:Int×Int×Int×Int×Int×Int×Int):List V:=
 [.lit (.int .i64 x.1),.lit (.int .i64 x.2.1),.lit (.int .i64 x.2.2.1),.lit (.int .u64 x.2.2.2.1),.lit (.int .u64 x.2.2.2.2.1),.lit (.int .u64 x.2.2.2.2.2.1),.lit (.int .i64 x.2.2.2.2.2.2)]
def eo (x:List Int):List V:=[.ro (x.map (aF .i64))]
theorem nM (x:Int×Int×Int×Int×Int×Int×Int):bC (mu x)=true:=rfl
theorem pJ (x:List Int):bC (eo x)=true:=by
 have:=wL (k := .i64) (l:=x)
 simp [eo,bC,V.pure,this]
section
variable {lf:List (Int×Int×Int×Int×Int×Int×Int)} {ll:List (List Int)} {n i:Nat} {a b c d e f g:Int} {x:List Int}
theorem Gx:dj (lf.map mu)=true:=eX nM
theorem Kl:dj (ll.map eo)=true:=eX pJ
theorem FW:mb n (lf.map mu)=lf.map mu:=gq nM
theorem JZ:mb n (ll.map eo)=ll.map eo:=gq pJ
theorem DF:ku n (lf.map mu)=lf.map mu:=fi nM
theorem FF:ku n (ll.map eo)=ll.map eo:=fi pJ
theorem Me:cg 7 (lf.map mu)=true:=eH fun _=>rfl
theorem PE:cg 1 (ll.map eo)=true:=eH fun _=>rfl
theorem Jw:(lf.map mu).set i [.lit (.int .i64 a),.lit (.int .i64 b),.lit (.int .i64 c),.lit (.int .u64 d),.lit (.int .u64 e),.lit (.int .u64 f),.lit (.int .i64 g)]=(lf.set i (a,b,c,d,e,f,g)).map mu:=by rw [List.map_set];rfl
theorem DS:[[V.lit (.int .i64 a),.lit (.int .i64 b),.lit (.int .i64 c),.lit (.int .u64 d),.lit (.int .u64 e),.lit (.int .u64 f),.lit (.int .i64 g)]]=[(a,b,c,d,e,f,g)].map mu:=rfl
theorem NN:(ll.map eo).set i [.ro (x.map (aF .i64))]=(ll.set i x).map eo:=by rw [List.map_set];rfl
theorem Ju:(ll.map eo).set i [.ro []]=(ll.set i []).map eo:=by rw [List.map_set];rfl
theorem GQ:[[V.ro (x.map (aF .i64))]]=[x].map eo:=rfl
theorem Fh:[[V.ro []]]=[([]:List Int)].map eo:=rfl
theorem JW:List.replicate n [V.lit (.int .i64 a),.lit (.int .i64 b),.lit (.int .i64 c),.lit (.int .u64 d),.lit (.int .u64 e),.lit (.int .u64 f),.lit (.int .i64 g)]=(List.replicate n (a,b,c,d,e,f,g)).map mu:=by rw [List.map_replicate];rfl
end
theorem LF {k:IntKind} {x y:Int}:pL (.int k x) (.int k y)=(x==y):=by
 cases k <;> rfl
theorem FS {k:IntKind} {x:Int}:iC k (.int k x)=true:=by
 cases k <;> rfl
theorem Mc {cx:Cx} {c o:Bool} {v:Value} {args:List V} {H:Hp}:bE cx c o (.lit v) args H=none:=rfl
end Go.Ab
namespace Go.Ab
section steps
variable {cx:Cx} {K:Out→St→Res} {s:St} {r:Res} {id j n0:Nat} {ops:Array Oper} {a a':List Nat×List Nat} {env:List V} {H:Hp} {o:Oper} {i:Nat} {L:List Nat}
end steps
def apA:List Nat→List Nat→Bool
 | [],_=>true
 | i::l,m => !(inN i m)&&apA l m
where inN:Nat→List Nat→Bool
 | _,[]=>false
 | i,k::m=>i==k||inN i m
theorem S2 {i:Nat}:∀ {m:List Nat},apA.inN i m=m.contains i
 | []=>rfl
 | k::m=>by
  rw [apA.inN,S2,List.contains_cons]
theorem Tc:∀ {l m:List Nat},wK (l,m)=apA l m
 | [],m=>rfl
 | i::l,m=>by
  have:=Tc (l:=l) (m:=m)
  unfold wK at this ⊢
  simp only [List.all_cons] at this ⊢
  rw [this,apA,S2]
theorem adi {l m:List Nat} {k:Res}:apt (l,m) k=sif (apA l m) k none:=by
 unfold apt sif
 rw [Tc,Bool.cond_eq_ite]
theorem Yi {m:List Nat}:apA [] m=true:=rfl
theorem OQ {i:Nat} {l m:List Nat}:apA (i::l) m=(!(apA.inN i m)&&apA l m):=rfl
theorem XN {i:Nat}:apA.inN i []=false:=rfl
theorem Q4 {i k:Nat} {m:List Nat}:apA.inN i (k::m)=(i==k||apA.inN i m):=rfl
theorem Wq {i g n:Nat} {l m:List Nat}:lgR (.own i g n) (l,m)=(i::l,m):=rfl
theorem YQ {i g x y:Nat} {l m:List Nat}:lgR (.ptr i g x y) (l,m)=(i::l,m):=rfl
theorem VN {i:Nat} {l m:List Nat}:lgR (.map i) (l,m)=(i::l,m):=rfl
theorem acC {rs:List (List V)} {l m:List Nat}:lgR (.ro rs) (l,m)=(l,m):=rfl
theorem aba {rs:List V} {l m:List Nat}:lgR (.rp rs) (l,m)=(l,m):=rfl
theorem Yu {l m:List Nat}:lgR .nil (l,m)=(l,m):=rfl
theorem VC {v:Value} {l m:List Nat}:lgR (.lit v) (l,m)=(l,m):=rfl
theorem Wv {i g n:Nat} {l m:List Nat}:lgW (.own i g n) (l,m)=(l,i::m):=rfl
theorem VO {i g x y:Nat} {l m:List Nat}:lgW (.ptr i g x y) (l,m)=(l,i::m):=rfl
theorem Xc {i:Nat} {l m:List Nat}:lgW (.map i) (l,m)=(l,i::m):=rfl
theorem Wi {α:Type} {x:α}:[x].length=1:=rfl
end Go.Ab
set_option maxRecDepth 100000
namespace Go.Ab
def ajp:=PLift.up (And.intro (And.intro (And.intro (And.intro (@YL) (@VB)) (And.intro (@Y0) (And.intro (@VX) (@W6)))) (And.intro (And.intro (@Yw) (And.intro (@ae6) (@aj7))) (And.intro (@akk) (And.intro (@bA) (@ui))))) (And.intro (And.intro (And.intro (@af) (And.intro (@Xi) (@Xq))) (And.intro (@Wl) (And.intro (@nj) (@mL)))) (And.intro (And.intro (@WJ) (And.intro (@LM) (@JL))) (And.intro (@Yl) (And.intro (@cond_true.{1}) (@cond_false.{1}))))))
theorem syP:type_of% ajp.down:=ajp.down
def ajJ:=PLift.up (And.intro (And.intro (And.intro (And.intro (And.intro (And.intro (And.intro (And.intro (@N4) (@ZV)) (And.intro (@ZS) (@abk))) (And.intro (And.intro (@abh) (@XO)) (And.intro (@ZG) (And.intro (@U8) (@adu))))) (And.intro (And.intro (And.intro (@Vu) (@aai)) (And.intro (@acM) (And.intro (@aaX) (@Xe)))) (And.intro (And.intro (@aeV) (@ahO)) (And.intro (@adL) (And.intro (@YX) (@Zn)))))) (And.intro (And.intro (And.intro (And.intro (@ah1) (@aii)) (And.intro (@Ve) (@aiq))) (And.intro (And.intro (@adO) (@agT)) (And.intro (@aiN) (And.intro (@ais) (@WV))))) (And.intro (And.intro (And.intro (@VE) (@Wg)) (And.intro (@ae9) (And.intro (@ahu) (@ahM)))) (And.intro (And.intro (@Wy) (@G8)) (And.intro (@XX) (And.intro (@YP) (@afK))))))) (And.intro (And.intro (And.intro (And.intro (And.intro (@MM) (@Pj)) (And.intro (@X5) (@Yq))) (And.intro (And.intro (@XU) (@UO)) (And.intro (@U4) (And.intro (@ada) (@V1))))) (And.intro (And.intro (And.intro (@VI) (@Vw)) (And.intro (@ZY) (And.intro (@Xn) (@aaD)))) (And.intro (And.intro (@WX) (@WO)) (And.intro (@X2) (And.intro (@Yv) (@Lw)))))) (And.intro (And.intro (And.intro (And.intro (@Ma) (@RN)) (And.intro (@J4) (@Qs))) (And.intro (And.intro (@Nt) (@Nb)) (And.intro (@OP) (And.intro (@Sq) (@Yb))))) (And.intro (And.intro (And.intro (@MN) (@Wn)) (And.intro (@O8) (And.intro (@Qm) (@RD)))) (And.intro (And.intro (@Qk) (@XQ)) (And.intro (@LR) (And.intro (@Yj) (@Q3)))))))) (And.intro (And.intro (And.intro (And.intro (And.intro (And.intro (@OL) (@Rt)) (And.intro (@Pm) (@Sw))) (And.intro (And.intro (@ajY) (@akA)) (And.intro (@ajk) (And.intro (@N1) (@RP))))) (And.intro (And.intro (And.intro (@Sl) (@Mb)) (And.intro (@JQ) (And.intro (@wL) (@Ke)))) (And.intro (And.intro (@FP) (@JN)) (And.intro (@Wa) (And.intro (@Lx) (@Jm)))))) (And.intro (And.intro (And.intro (And.intro (@Ks) (@G9)) (And.intro (@J6) (@GP))) (And.intro (And.intro (@NE) (@JB)) (And.intro (@JC) (And.intro (@FB) (@OD))))) (And.intro (And.intro (And.intro (@P9) (@Rn)) (And.intro (@YB) (And.intro (@YI) (@QO)))) (And.intro (And.intro (@Zd) (@OR)) (And.intro (@Gi) (And.intro (@MR) (@Kz))))))) (And.intro (And.intro (And.intro (And.intro (And.intro (@KE) (@JM)) (And.intro (@G2) (@KR))) (And.intro (And.intro (@MU) (@JS)) (And.intro (@Jq) (And.intro (@Fp) (@Jx))))) (And.intro (And.intro (And.intro (@Kv) (@FK)) (And.intro (@G0) (And.intro (@DX) (@B3)))) (And.intro (And.intro (@Ua) (@TM)) (And.intro (@aar) (And.intro (@YM) (@OV)))))) (And.intro (And.intro (And.intro (And.intro (@CQ) (@Ar)) (And.intro (@UL) (@Ls))) (And.intro (And.intro (@VS) (@Pg)) (And.intro (@Yh) (And.intro (@PG) (@Pd))))) (And.intro (And.intro (And.intro (@WK) (@Rp)) (And.intro (@Of) (And.intro (@WZ) (@Pt)))) (And.intro (And.intro (@O2) (@OU)) (And.intro (@Oo) (And.intro (@KQ) (@JP))))))))) (And.intro (And.intro (And.intro (And.intro (And.intro (And.intro (And.intro (@Od) (@KC)) (And.intro (@GT) (@RS))) (And.intro (And.intro (@Lk) (@Ga)) (And.intro (@Yp) (And.intro (@Wk) (@Vk))))) (And.intro (And.intro (And.intro (@QT) (@Vf)) (And.intro (@Qq) (And.intro (@P3) (@Rl)))) (And.intro (And.intro (@Qp) (@Sp)) (And.intro (@Sb) (And.intro (@Ph) (@P8)))))) (And.intro (And.intro (And.intro (And.intro (@Rb) (@Rq)) (And.intro (@P0) (@Q2))) (And.intro (And.intro (@Og) (@Ob)) (And.intro (@RW) (And.intro (@QH) (@Rh))))) (And.intro (And.intro (And.intro (@Yz) (@Yc)) (And.intro (@YC) (And.intro (@W5) (@Qi)))) (And.intro (And.intro (@P2) (@JA)) (And.intro (@KH) (And.intro (@Kd) (@PW))))))) (And.intro (And.intro (And.intro (And.intro (And.intro (@MA) (@YG)) (And.intro (@Qw) (@Kw))) (And.intro (And.intro (@Qt) (@UK)) (And.intro (@Pk) (And.intro (@PH) (@QI))))) (And.intro (And.intro (And.intro (@NL) (@J3)) (And.intro (@Rz) (And.intro (@KX) (@NQ)))) (And.intro (And.intro (@Nv) (@KT)) (And.intro (@OZ) (And.intro (@Pf) (@LO)))))) (And.intro (And.intro (And.intro (And.intro (@MS) (@RM)) (And.intro (@L3) (@N3))) (And.intro (And.intro (@Qb) (@OT)) (And.intro (@XV) (And.intro (@Sc) (@OW))))) (And.intro (And.intro (And.intro (@XL) (@N8)) (And.intro (@Lo) (And.intro (@J9) (@PV)))) (And.intro (And.intro (@K9) (@Na)) (And.intro (@Q7) (And.intro (@NJ) (@LJ)))))))) (And.intro (And.intro (And.intro (And.intro (And.intro (And.intro (@Qd) (@X8)) (And.intro (@Za) (@Xm))) (And.intro (And.intro (@P4) (@EA)) (And.intro (@J8) (And.intro (@JT) (@akv))))) (And.intro (And.intro (And.intro (@YZ) (@Qv)) (And.intro (@L8) (And.intro (@Ry) (@J0)))) (And.intro (And.intro (@Ld) (@Jn)) (And.intro (@LC) (And.intro (@J1) (@GY)))))) (And.intro (And.intro (And.intro (And.intro (@DH) (@LS)) (And.intro (@Px) (@Mi))) (And.intro (And.intro (@O6) (@OH)) (And.intro (@Kb) (And.intro (@GB) (@EF))))) (And.intro (And.intro (And.intro (@List.length_map.{0,0}) (@List.length_cons.{0})) (And.intro (@List.length_nil.{0}) (And.intro (@List.length_replicate.{0}) (@List.length_set.{0})))) (And.intro (And.intro (@List.drop_succ_cons.{0}) (@List.drop_zero.{0})) (And.intro (@List.take_succ_cons.{0}) (And.intro (@List.take_zero.{0}) (@List.set_cons_zero.{0}))))))) (And.intro (And.intro (And.intro (And.intro (And.intro (@List.set_cons_succ.{0}) (@List.nil_append.{0})) (And.intro (@List.cons_append.{0}) (@List.append_nil.{0}))) (And.intro (And.intro (@List.getElem?_cons_zero.{0}) (@List.getElem?_cons_succ.{0})) (And.intro (@List.take_nil.{0}) (And.intro (@Option.map_some.{0,0}) (@Option.map_none.{0,0}))))) (And.intro (And.intro (And.intro (@Option.bind_some.{0,0}) (@Option.bind_none.{0,0})) (And.intro (@Nat.zero_add) (And.intro (@Nat.add_zero) (@Nat.le_refl)))) (And.intro (And.intro (@Bool.and_true) (@Bool.true_and)) (And.intro (@Bool.and_false) (And.intro (@Bool.false_and) (@Bool.or_true)))))) (And.intro (And.intro (And.intro (And.intro (@Bool.or_false) (@Bool.true_or)) (And.intro (@Bool.false_or) (@Bool.not_true))) (And.intro (And.intro (@Bool.not_false) (@beq_self_eq_true.{0})) (And.intro (@bne_self_eq_false.{0}) (And.intro (@decide_true) (@decide_false))))) (And.intro (And.intro (And.intro (@if_true.{1}) (@if_false.{1})) (And.intro (@Bool.false_eq_true) (And.intro (@and_self) (@and_true)))) (And.intro (And.intro (@true_and) (@Option.isSome_some.{0})) (And.intro (@Option.isSome_none.{0}) (And.intro (@Int.cast_ofNat_Int) (@Int.toNat_natCast))))))))))
theorem syA:type_of% ajJ.down:=ajJ.down
end Go.Ab
set_option maxRecDepth 100000
namespace Go.Ab
def ajQ:=PLift.up (And.intro (And.intro (And.intro (And.intro (And.intro (@r8) (@Qy)) (And.intro (@MD) (And.intro (@Vr) (@Qe)))) (And.intro (And.intro (@Y6) (@Gx)) (And.intro (@Kl) (And.intro (@FW) (@JZ))))) (And.intro (And.intro (And.intro (@DF) (@FF)) (And.intro (@Me) (And.intro (@PE) (@Jw)))) (And.intro (And.intro (@DS) (@NN)) (And.intro (@Ju) (And.intro (@GQ) (@Fh)))))) (And.intro (And.intro (And.intro (And.intro (@JW) (@LF)) (And.intro (@FS) (And.intro (@Mc) (@adi)))) (And.intro (And.intro (@Yi) (@OQ)) (And.intro (@XN) (And.intro (@Q4) (@Wq))))) (And.intro (And.intro (And.intro (@YQ) (@VN)) (And.intro (@acC) (And.intro (@aba) (@Yu)))) (And.intro (And.intro (@VC) (@Wv)) (And.intro (@VO) (And.intro (@Xc) (@Wi)))))))
theorem syQ:type_of% ajQ.down:=ajQ.down
end Go.Ab
set_option linter.unusedVariables false
set_option linter.unusedSimpArgs false
namespace Go.Ab
open Go.Proofs Go.RowKit Go.Shelf Go.Sort Go.Lib
def rG:List (List V)→Option (List Int)
 | []=>some []
 | [.lit (.int .i64 n)]::l=>(rG l).map (n :: ·)
 | _=>none
theorem Bs:∀ {rs:List (List V)} {zs:List Int},rG rs=some zs→rs=zs.map fun n=>[V.lit (.int .i64 n)]
 | [],zs,h=>by cases h;rfl
 | r::l,zs,h=>by
  unfold rG at h
  split at h
  ·rename_i h2;cases h2
  ·rename_i n l' h2
   cases h2
   cases hl:rG l with
   | none=>rw [hl] at h;cases h
   | some z=>rw [hl] at h;cases h;rw [List.map_cons,← Bs hl]
  ·cases h
def Hd (zs:List Int) (a b:Nat):List Int:=zs.take a++zs.drop b++List.replicate (b - a) 0
def X1 (args:List V) (H:Hp):Option (V×Hp):=
 match args with
 | [.own id g len,.lit (.int .i64 a),.lit (.int .i64 b)]=>
  match H[id]? with
  | some (.rows e rs g' true)=>
   if e=1∧g=g'∧len≤rs.length∧0≤a∧a<b∧b.toNat≤len∧len≤9223372036854775807 then
    (rG (rs.take len)).map fun zs=>(.own id g (len - (b.toNat - a.toNat)),H.set id (.rows 1 ((Hd zs a.toNat b.toNat).map (fun n=>[V.lit (.int .i64 n)])++rs.drop len) g true))
   else none
  | _=>none
 | _=>none
section
variable {P:Program} {ρ:Ren}
set_option maxHeartbeats 4000000 in
set_option maxRecDepth 1000000 in
theorem Vi (L:Lays2.n23 P ρ) {b off c i j:Nat} {d:Array Int} {w:World} (hH:Holds (Value.int .i64) w b off d) (hc:d.size≤c) (hm:d.size≤9223372036854775807) (hij:i<j) (hj:j≤d.size) :
  Calls P (ρ.f 23) #[.slice (some ⟨b,off,none⟩) d.size c,.int .i64 i,.int .i64 j] w fun e w'=>e = .returned (.slice (some ⟨b,off,none⟩) (d.size - (j - i)) c) ∧
   w'=putRow (Value.int .i64) (Sort.ahead w 1) b off (Hd d.toList i j).toArray:=by
 have mixed:=L.mixed;have t0:=L.t0;have a0:=L.a0;have z0:=L.z0;have v0:=L.v0;have t3:=L.t3;have a3:=L.a3;have z3:=L.z3;have v3:=L.v3
 have t4:=L.t4;have a4:=L.a4;have z4:=L.z4;have v4:=L.v4;have t22:=L.t22;have a22:=L.a22;have z22:=L.z22;have v22:=L.v22
 obtain ⟨info,hinfo,hz0,hz1,_⟩:=info_parts L.i3
 generalize hns:(d.toList.drop j).map (Value.int .i64)=ns
 have nl:ns.length=d.size - j:=by rw [← hns];simp
 have at_:∀ t,t<d.size - j→ns[t]? = some (Value.int .i64 d[j+t]!):=fun t ht=>by
  rw [← hns,List.getElem?_map,List.getElem?_drop,Array.getElem?_toList,getElem!_pos d (j+t) (by omega),Array.getElem?_eq_getElem (by omega)]
  rfl
 -- where those behind lie
 have src:∃ A:Addr,(if c=j then some (⟨b,off,none⟩:Addr) else some ⟨b,off+j,none⟩)=some A∧Hid (∀ t u,ns[t]? = some u→w.drew.cell? (A.add t)=some u):=by
  rcases Decidable.em (c=j) with e | e
  ·refine ⟨⟨b,off,none⟩,if_pos e,fun t u hu => ?_⟩
   have:=(List.getElem?_eq_some_iff.1 hu).1
   omega
  ·refine ⟨⟨b,off+j,none⟩,if_neg e,fun t u hu => ?_⟩
   have ht:t<d.size - j:=by have:=(List.getElem?_eq_some_iff.1 hu).1;omega
   rw [at_ t ht] at hu
   rw [Addr.add_lit,Nat.add_assoc]
   exact (hH (j+t) (by omega)).1.trans hu
 obtain ⟨A,hA,hsrc⟩:=src
 have one:Hid (ns.length=(d.size - j)*1):=by rw [Nat.mul_one];exact nl
 have cells:Hid (∀ u ∈ ns,u.oneCell'=true):=fun u hu=>by
  rw [← hns] at hu
  obtain ⟨x,_,rfl⟩:=List.mem_map.1 hu
  rfl
 have dest:Hid (∀ t,t<ns.length→(w.drew.cell? ⟨b,off+i*1+t,none⟩).isSome=true∧w.drew.frozen? ⟨b,off+i*1+t,none⟩=false):=fun t ht=>by
  rw [nl] at ht
  rw [Nat.mul_one,Nat.add_assoc]
  obtain ⟨h1,h2⟩:=hH (i+t) (by omega)
  exact ⟨by show (w.cell? _).isSome=true;rw [h1];rfl,h2⟩
 obtain ⟨W,hW⟩:∃ W,W=w.drew.setCells b (off+i*1) ns:=⟨_,rfl⟩
 have hAh:=holds_ahead (Value.int .i64) w 1 b off d hH
 have hP:W=putRow (Value.int .i64) (Sort.ahead w 1) b off (lay d i (d.toList.drop j)):=by
  rw [hW,← hns,Nat.mul_one,← putRow_setCells (Value.int .i64) (Sort.ahead w 1) b off _ d i (by simp;omega),putRow_self (Value.int .i64) (Sort.ahead w 1) b off d hAh]
  rfl
 have hHW:Holds (Value.int .i64) W b off (lay d i (d.toList.drop j)):=by rw [hP];exact holds_putRow (Value.int .i64) _ b off d _ hAh (lay_size _ _ _)
 have wipe:∀ ty,(Builtin.clear_ #[ρ.t 22] ty #[.slice (some ⟨b,off+(i+(d.size - j)),none⟩) (d.size - (i+(d.size - j))) (c - (i+(d.size - j)))]).run P W = .ok (.tuple #[]) (W.setCells b (off+(i+(d.size - j))) (List.replicate (d.size - (i+(d.size - j))) (.int .i64 0))):=fun ty=>by
  refine Lib.run_clear_slice W _ _ ty _ t22 v3 rfl rfl b (off+(i+(d.size - j))) _ _ (by omega) (fun t ht => ?_) (fun t ht => ?_)
  all_goals rw [Nat.add_assoc]
  ·rw [(hHW _ (by rw [lay_size];omega)).1];rfl
  ·exact (hHW _ (by rw [lay_size];omega)).2
 have keep:Aside (W=putRow (Value.int .i64) (Sort.ahead w 1) b off (lay d i (d.toList.drop j))):=hP
 have wIs:Hid (W=w.drew.setCells b (off+i*1) ns):=hW
 have hic:i≤c:=by omega
 have hjc:j≤c:=by omega
 clear hW hP hHW hAh hH at_ hns nl
 go_enter L.f23,Body2.n23_ntmps ρ
 go_wp2_with fail
 go_region_law_o (refine step_append_room rfl (.tmp 22) (.tmp 25) (ρ.t 22) rfl (ρ.t 3) info 1 t22 hinfo hz1 b off i c (by simp [Act.eval,Act.put]) A (d.size - j) (c - j) ns (by simp [Act.eval,Act.put]) one.out hsrc.out cells.out (by omega) dest.out ?_;rw [← wIs.out])
 go_wp2
 go_ret
 refine ⟨by rw [show d.size - (j - i)=i+(d.size - j) by omega];rfl,?_⟩
 unfold Hd
 rw [← delete_arr d i j 0 (by omega) hj,← putRow_setCells (Value.int .i64) _ b off _ _ (i+(d.size - j)) (by rw [lay_size];simp;omega),← keep.out,List.map_replicate,show d.size - (i+(d.size - j))=j - i by omega]
theorem HD {zs:List Int} {a b:Nat} (h:a≤b) (hb:b≤zs.length):(Hd zs a b).length=zs.length:=by
 unfold Hd
 simp
 omega
theorem Mg {w:World} {b k:Nat} {d:Array Int} (h:k≠b):(putRow (Value.int .i64) (Sort.ahead w 1) b 0 d).heap[k]? = w.heap[k]? := by
 show (w.heap.modify b _)[k]? = _
 rw [Array.getElem?_modify,if_neg (fun e=>h e.symm)]
theorem DZ {w:World} {b:Nat} {d:Array Int} {arr:Array Value} {e:TypeId} (h:w.heap[b]? = some (.cells arr e (0,0))):(putRow (Value.int .i64) (Sort.ahead w 1) b 0 d).heap[b]? = some (.cells (putCells (Value.int .i64) 0 d arr) e (0,0)):=by
 show (w.heap.modify b _)[b]? = _
 rw [Array.getElem?_modify,if_pos rfl,h]
 rfl
theorem EP {B0:Nat} {w0 w:World} {R:Ro} {σ:List Sg} {H H':Hp} {v:V} {args:List V} {cargs:Array Value} (L:Lays2.n23 P ρ) (h:X1 args H=some (v,H')) (hI:Inv 0 B0 w0 R σ H w) (hA:cd R σ args cargs):Calls P (ρ.f 23) cargs w (Jk 0 B0 w0 R σ w v H'):=by
 unfold X1 at h
 split at h
 case h_2=>cases h
 rename_i id g len a b
 split at h
 case h_2=>cases h
 rename_i e0 rs g' hb
 split at h
 case isFalse=>cases h
 rename_i hc
 obtain ⟨rfl,rfl,hlen,ha0,hab,hbl,hbig⟩:=hc
 rw [Option.map_eq_some_iff] at h
 obtain ⟨zs,hz,h⟩:=h
 cases h
 have hrs:=Bs hz
 have hzl:zs.length=len:=by
  have:=congrArg List.length hrs
  rw [List.length_take,List.length_map] at this
  omega
 obtain ⟨ca,l1,rfl,hr1,hA⟩:=hA.uncons
 obtain ⟨cb,l2,e2,hr2,hA⟩:=hA.uncons
 obtain ⟨cc,l3,e3,hr3,hA⟩:=hA.uncons
 have e4:=hA.nil_inv
 cases hr2
 cases hr3
 obtain ⟨Ad,l,c,s,rfl,hs,hh,hg,hgen⟩:=ks hr1
 obtain ⟨q1,q2,q3,q4,q5,q6⟩:=iO hI hb hs hh
 obtain ⟨rfl,hn,hsm⟩:=hgen q1.symm
 cases hblk:s.blk with
 | none=>
  have:=q5 hblk
  subst this
  simp at hlen
  omega
 | some b0=>
  obtain ⟨rfl,hlc,hcap⟩:=hsm b0 hblk
  obtain ⟨arr,e,hheap,hsz,hcell,hro⟩:=q6 b0 hblk
  have hB:B0≤b0:=hI.ge id _ s b0 (Nat.zero_le _) hb rfl hs hblk
  have hrow:∀ j (hj:j<zs.length),rs[j]? = some [V.lit (.int .i64 zs[j])]:=fun j hj=>by
   have:(rs.take l)[j]? = some [V.lit (.int .i64 zs[j])]:=by rw [hrs,List.getElem?_map,List.getElem?_eq_getElem hj];rfl
   rw [List.getElem?_take] at this
   split at this
   ·exact this
   ·cases this
  have hcv:∀ j (hj:j<zs.length),arr[j]? = some (.int .i64 zs[j]):=fun j hj=>by
   obtain ⟨cv,h1,h2⟩:=hcell j 0 _ _ (hrow j hj) rfl
   cases h2
   rw [Nat.mul_one,Nat.add_zero] at h1
   exact h1
  have hH:Holds (Value.int .i64) w b0 0 zs.toArray:=fun j hj=>by
   have hj':j<zs.length:=by simpa using hj
   rw [Nat.zero_add]
   refine ⟨?_,?_⟩
   ·rw [getElem!_pos zs.toArray j hj]
    unfold World.cell?
    rw [hheap]
    simpa using hcv j hj'
   ·unfold World.frozen?
    rw [hheap]
    simp
  have el:(Value.slice (some ⟨b0,0,none⟩) l c::l1).toArray = #[.slice (some ⟨b0,0,none⟩) zs.toArray.size c,.int .i64 ((a.toNat:Nat):Int),.int .i64 ((b.toNat:Nat):Int)]:=by
   have e2':l1=Value.int .i64 a::l2:=by simpa using e2
   have e3':l2=Value.int .i64 b::l3:=by simpa using e3
   have e4':l3=[]:=by simpa using e4
   rw [e2',e3',e4',Int.toNat_of_nonneg ha0,Int.toNat_of_nonneg (by omega)]
   simp [hzl]
  rw [el]
  refine (Vi L hH (by simpa [hzl] using hlc) (by simpa [hzl] using hbig) (by omega) (by simpa [hzl] using hbl)).mono ?_
  rintro x w' ⟨rfl,rfl⟩
  have hcl:=HD (zs:=zs) (a:=a.toNat) (b:=b.toNat) (by omega) (by omega)
  have hsize:(putRow (Value.int .i64) (Sort.ahead w 1) b0 0 (Hd zs a.toNat b.toNat).toArray).heap.size=w.heap.size:=by rw [size_putRow];rfl
  have hset:=hI.set (R':=R) (w':=putRow (Value.int .i64) (Sort.ahead w 1) b0 0 (Hd zs a.toNat b.toNat).toArray) (b' := .rows 1 ((Hd zs a.toNat b.toNat).map (fun n=>[V.lit (.int .i64 n)])++rs.drop l) g true) (s':=s) hb rfl hs hh (Nat.zero_le _) (pS.refl s) (fun k hk => .inl hk)
   ⟨rfl,rfl,rfl,by rw [hsize];exact Nat.le_refl _,fun k hk=>Mg (by omega)⟩ (by rw [hsize];exact Nat.le_refl _) (fun k _ hk=>Mg (fun e=>hk (by rw [e];exact hblk))) (gl.refl R) (fun _ _ h => .inl h)
   (fun k o u hu hk=>by
    rw [hblk] at hk;cases hk
    have:=(hro o (by simp [hu])).1
    cases this)
   ⟨q1,q2,q3,fun r hr=>by
    rcases List.mem_append.1 hr with hr | hr
    ·obtain ⟨n,_,rfl⟩:=List.mem_map.1 hr
     exact ⟨rfl,rfl⟩
    ·exact q4 r (List.mem_of_mem_drop hr),by
    rw [hblk]
    refine ⟨_,e,DZ hheap,?_,fun i j r x hr hx => ?_,fun o ho => ?_⟩
    ·unfold putCells
     rw [Array.size_mapIdx]
     exact hsz
    ·rw [dG hs]
     by_cases hi:i<zs.length
     ·rw [List.getElem?_append_left (by simp;omega),List.getElem?_map,List.getElem?_eq_getElem (by omega)] at hr
      cases hr
      cases j with
      | succ j=>simp at hx
      | zero=>
       cases hx
       refine ⟨.int .i64 ((Hd zs a.toNat b.toNat)[i]'(by omega)), ?_, .lit _⟩
       unfold putCells
       have hai:=hcv i hi
       rw [Nat.mul_one,Nat.add_zero,Array.getElem?_mapIdx,hai]
       simp only [Option.map_some,Nat.zero_le,Nat.zero_add,true_and,List.size_toArray,Nat.sub_zero]
       rw [if_pos (by omega),getElem!_pos _ _ (by simp;omega)]
       simp
     ·rw [List.getElem?_append_right (by simp;omega),List.getElem?_drop] at hr
      have hr':rs[i]? = some r:=by
       rw [← hr]
       congr 1
       simp
       omega
      obtain ⟨cv,h1,h2⟩:=hcell i j r x hr' hx
      refine ⟨cv,?_,h2⟩
      unfold putCells
      rw [Array.getElem?_mapIdx,h1]
      simp only [Option.map_some,Nat.zero_le,Nat.zero_add,true_and,List.size_toArray,Nat.sub_zero]
      rw [if_neg (by omega)]
    ·have:=(hro o ho).1
     cases this⟩
  rw [dG hs] at hset
  refine ⟨R,σ,hset.widen (fun k hk => ?_),?_,by rw [hsize];exact Nat.le_refl _⟩
  ·rw [hblk] at hk;cases hk;exact hB
  ·have e5:zs.toArray.size - (b.toNat - a.toNat)=l - (b.toNat - a.toNat):=by simp [hzl]
   rw [e5]
   refine .own id g (l - (b.toNat - a.toNat)) _ _ c s hs hh (by omega) (fun _=>⟨rfl,fun hz => ?_,fun b1 hb1 => ?_⟩)
   ·rw [hblk] at hz;cases hz
   ·rw [hblk] at hb1;cases hb1
    exact ⟨rfl,by omega,hcap⟩
end
def dlB (id g len:Nat) (a b:Int) (H:Hp):Option B→Option (V×Hp)
 | some (.rows e rs g' true)=>
  if e=1∧g=g'∧len≤rs.length∧0≤a∧a<b∧b.toNat≤len∧len≤9223372036854775807 then
   (rG (rs.take len)).map fun zs=>(.own id g (len - (b.toNat - a.toNat)),H.set id (.rows 1 ((Hd zs a.toNat b.toNat).map (fun n=>[V.lit (.int .i64 n)])++rs.drop len) g true))
  else none
 | _=>none
theorem Xj {id g len:Nat} {a b:Int} {H:Hp}:X1 [.own id g len,.lit (.int .i64 a),.lit (.int .i64 b)] H=dlB id g len a b H H[id]? := by
 unfold X1 dlB
 rfl
theorem Bj:∀ l:List Int,rG (l.map (aF .i64))=some l
 | []=>rfl
 | n::l=>by rw [List.map_cons,aF,rG,Bj l];rfl
theorem Pp {id g len e:Nat} {a b:Int} {H:Hp} {l:List Int}:dlB id g len a b H (some (.rows e (l.map (aF .i64)) g true)) =
  ck (e==1) (ck (decide (len≤l.length∧0≤a∧a<b∧b.toNat≤len∧len≤9223372036854775807)) (some (.own id g (len - (b.toNat - a.toNat)),H.set id (.rows 1 ((Hd (l.take len) a.toNat b.toNat++l.drop len).map (aF .i64)) g true)))):=by
 unfold dlB
 dsimp only
 rw [List.length_map,← List.map_take,Bj,← List.map_drop]
 by_cases he:e=1
 ·subst he
  rw [beq_self_eq_true,bA]
  by_cases h:len≤l.length∧0≤a∧a<b∧b.toNat≤len∧len≤9223372036854775807
  ·rw [if_pos ⟨rfl,rfl,h⟩,decide_eq_true h,bA,List.map_append]
   rfl
  ·rw [if_neg (fun z=>h z.2.2),decide_eq_false h,ui]
 ·have h1:(e==1)=false:=by simp [he]
  rw [h1,ui,if_neg (fun z=>he z.1)]
theorem Zb {P:Program} {M:Mode} {k:Nat} {f:FuncId} {args:List V} {H:Hp} (ho:M.orc f=some X1):evF P M (k+1) 0 f args H=X1 args H:=by
 rw [evF,ho]
 rfl
end Go.Ab
namespace Go.Ab
def bD (x:Tys):List V:=
 [.lit (.int .i64 x.1),.ro (x.2.1.map (aF .i64)),.lit (.int .i64 x.2.2.1),.lit (.int .i64 x.2.2.2.1),.lit (.int .i64 x.2.2.2.2.1),.lit (.int .u64 x.2.2.2.2.2.1),.lit (.int .u64 x.2.2.2.2.2.2.1),.lit (.int .u64 x.2.2.2.2.2.2.2.1),.lit (.int .i64 x.2.2.2.2.2.2.2.2)]
def arC (id g row:Nat):List (Int×Nat)→Int→Option V
 | [],_=>none
 | p::l,n=>bif n==p.1 then some (.ptr id g row p.2) else arC id g row l n
theorem UU {id g row:Nat} {n:Int}:arC id g row [] n=none:=rfl
theorem SC {id g row o:Nat} {n i:Int} {l:List (Int×Nat)}:arC id g row ((i,o)::l) n=bif n==i then some (.ptr id g row o) else arC id g row l n:=rfl
def arL (sz off len:Nat):List (Int×Nat):=(List.range len).map fun j:Nat=>((j:Int),off+j*sz)
theorem Hf {id g row:Nat} {n:Int}:∀ {l:List (Int×Nat)},(∀ p ∈ l,p.1≠n)→arC id g row l n=none
 | [],_=>rfl
 | p::l,h=>by
  rw [arC,show (n==p.1)=false by simp;exact fun e=>h p (List.mem_cons_self ..) e.symm,cond_false]
  exact Hf fun q hq=>h q (List.mem_cons_of_mem _ hq)
theorem UA {id g row sz off:Nat} {q:Nat}:∀ (l:List Nat),q ∈ l→arC id g row (l.map fun j:Nat=>((j:Int),off+j*sz)) (q:Int)=some (.ptr id g row (off+q*sz))
 | [],h=>by cases h
 | x::l,h=>by
  rw [List.map_cons,arC]
  by_cases e:q=x
  ·subst e;simp
  ·have h2:((q:Int)==(x:Int))=false:=by simp;omega
   rw [h2,cond_false]
   exact UA l ((List.mem_cons.1 h).resolve_left e)
theorem H0 {P:Program} {t e:TypeId} {len sz id g row off:Nat} {k:IntKind} {n:Int} {H:Hp} (h:P.underlying t=some (.array len e)) (hs:aW P e=sz) (hz:sz≠0) :
  ai P t (.ptr id g row off) (.lit (.int k n)) H=arC id g row (arL sz off len) n:=by
 unfold ai
 simp only [h,hs]
 by_cases h0:0≤n
 ·rw [if_pos h0]
  by_cases h1:n<len
  ·rw [if_pos ⟨h1,hz⟩]
   obtain ⟨q,rfl⟩:∃ q:Nat,n=q:=⟨n.toNat,by omega⟩
   rw [arL,UA (List.range len) (List.mem_range.2 (by omega)),Int.toNat_natCast]
  ·rw [if_neg (fun hh=>h1 hh.1)]
   refine (Hf fun p hp => ?_).symm
   obtain ⟨j,hj,rfl⟩:=List.mem_map.1 hp
   have:=List.mem_range.1 hj
   simp only
   omega
 ·rw [if_neg h0]
  refine (Hf fun p hp => ?_).symm
  obtain ⟨j,hj,rfl⟩:=List.mem_map.1 hp
  simp only
  omega
end Go.Ab
namespace Go.Ab
def aK (x:Tyw):List V:=
 [.lit (.int .i64 x.1),.ro (x.2.1.map aJ),.lit (.int .i64 x.2.2.1.1),.lit (.int .i64 x.2.2.1.2.1),.lit (.int .i64 x.2.2.1.2.2.1),.lit (.int .u64 x.2.2.1.2.2.2.1),.lit (.int .u64 x.2.2.1.2.2.2.2.1),.lit (.int .u64 x.2.2.1.2.2.2.2.2.1),.lit (.int .i64 x.2.2.1.2.2.2.2.2.2),.lit (.int .i64 x.2.2.2.1),.lit (.int .i64 x.2.2.2.2)]
mutual
theorem Mq (n:Nat):∀ v:V,v.pure=true→v.kill n=v
 | .lit _,_=>rfl
 | .ro _,_=>rfl
 | .nil,_=>rfl
 | .any,_=>rfl
 | .junk,_=>rfl
 | .agg cs,h=>by rw [V.kill,iZ n cs h]
 | .tup cs,h=>by rw [V.kill,iZ n cs h]
 | .fn f a b,h=>by
  rw [V.pure,Bool.and_eq_true] at h
  rw [V.kill,iZ n a h.1,iZ n b h.2]
 | .rp _,_=>rfl
theorem iZ (n:Nat):∀ l:List V,bC l=true→k7 n l=l
 | [],_=>rfl
 | v::l,h=>by
  rw [bC,Bool.and_eq_true] at h
  rw [k7,Mq n v h.1,iZ n l h.2]
end
theorem El {n:Nat} {rs:List (List V)}:mb n rs=rs.map (k7 n):=by
 unfold mb
 split
 ·rename_i h
  rw [dj,List.all_eq_true] at h
  have:∀ l:List (List V),(∀ x ∈ l,bC x=true)→l.map (k7 n)=l:=by
   intro l
   induction l with
   | nil=>intro _;rfl
   | cons r l ih=>intro h;rw [List.map_cons,iZ n r (h r (List.mem_cons_self ..)),ih fun x hx=>h x (List.mem_cons_of_mem _ hx)]
  exact (this rs h).symm
 ·rfl
theorem ah {n:Nat} {r:List V} {rs:List (List V)}:mb n (r::rs)=k7 n r::mb n rs:=by
 rw [El,El,List.map_cons]
theorem ag {k:IntKind} {a:Int} {l:List Int}:[V.lit (.int k a)]::List.map (aF k) l=List.map (aF k) (a::l):=rfl
theorem ae {a b c:Int} {l:Tye}:[V.lit (.int .i64 a),.lit (.int .i64 b),.lit (.int .i64 c)]::List.map aJ l=List.map aJ ((a,b,c)::l):=rfl
def aiY:=PLift.up (And.intro (And.intro (And.intro (And.intro (And.intro (And.intro @rtN.eq_1 @bC.eq_1) (And.intro @bC.eq_2 @V.pure.eq_1)) (And.intro (And.intro @V.pure.eq_2 @V.pure.eq_3) (And.intro @V.pure.eq_4 @V.pure.eq_5))) (And.intro (And.intro (And.intro @V.pure.eq_6 @V.pure.eq_7) (And.intro @V.pure.eq_8 @V.pure.eq_9)) (And.intro (And.intro @V.pure.eq_10 @V.pure.eq_11) (And.intro @V.pure.eq_12 @V.pure.eq_13)))) (And.intro (And.intro (And.intro (And.intro @nsh.eq_1 @Z0.eq_1) (And.intro @Z0.eq_2 @Z0.eq_3)) (And.intro (And.intro @V.kill.eq_1 @V.kill.eq_2) (And.intro @V.kill.eq_3 @V.kill.eq_4))) (And.intro (And.intro (And.intro @V.kill.eq_5 @V.kill.eq_6) (And.intro @V.kill.eq_7 @V.kill.eq_8)) (And.intro (And.intro @V.kill.eq_9 @V.kill.eq_10) @V.kill.eq_11)))) (And.intro (And.intro (And.intro (And.intro (And.intro @V.kill.eq_12 @V.kill.eq_13) (And.intro @k7.eq_1 @k7.eq_2)) (And.intro (And.intro @spl.eq_1 @spl.eq_2) (And.intro @V.shift.eq_1 @V.shift.eq_2))) (And.intro (And.intro (And.intro @V.shift.eq_3 @V.shift.eq_4) (And.intro @V.shift.eq_5 @V.shift.eq_6)) (And.intro (And.intro @V.shift.eq_7 @V.shift.eq_8) @V.shift.eq_9))) (And.intro (And.intro (And.intro (And.intro @V.shift.eq_10 @V.shift.eq_11) (And.intro @V.shift.eq_12 @V.shift.eq_13)) (And.intro (And.intro @kM.eq_1 @kM.eq_2) (And.intro @V.scal.eq_1 @V.scal.eq_2))) (And.intro (And.intro (And.intro @V.scal.eq_3 @V.scal.eq_4) (And.intro @F8.eq_1 @F8.eq_2)) (And.intro (And.intro @aF.eq_1 @mC.eq_1) @aJ.eq_1)))))
theorem syD:type_of% aiY.down:=aiY.down
def ajq:=PLift.up (And.intro (And.intro (And.intro @syQ @MZ.eq_1) (And.intro @mu.eq_1 @eo.eq_1)) (And.intro (And.intro @bD.eq_1 @aK.eq_1) (And.intro @UU @SC)))
theorem syE:type_of% ajq.down:=ajq.down
end Go.Ab
namespace Go.Ab
open Go
def eP (x:Int×Int×Int):List V:=[.lit (.int .i64 x.1),.lit (.int .i64 x.2.1),.lit (.int .u64 x.2.2)]
def afy (x:Typ):List V:=
 [.lit (.int .i64 x.1.1),.lit (.int .i64 x.1.2.1),.lit (.int .i64 x.1.2.2.1),.lit (.int .i64 x.1.2.2.2),.ro (x.2.1.map an),.ro (x.2.2.1.map (aF .u64)),.ro (x.2.2.2.1.map aK),.ro (x.2.2.2.2.map bD)]
theorem pO (x:Int×Int×Int):bC (eP x)=true:=rfl
theorem iY (x:Tyw):bC (aK x)=true:=by
 have h:dj (x.2.1.map aJ)=true:=eX fun _=>rfl
 simp [aK,bC,V.pure,h]
theorem lh (x:Tys):bC (bD x)=true:=by
 have h:=wL (k := .i64) (l:=x.2.1)
 simp [bD,bC,V.pure,h]
section
variable {lw:List Tyw} {ls:List Tys} {lp:Tye} {n i:Nat} {a b c d e f g p q r:Int} {x:List Int} {y:Tye}
theorem JD:dj (lw.map aK)=true:=eX iY
theorem Jr:mb n (lw.map aK)=lw.map aK:=gq iY
theorem F1:ku n (lw.map aK)=lw.map aK:=fi iY
theorem Ql:cg 11 (lw.map aK)=true:=eH fun _=>rfl
theorem MB:(lw.map aK).set i [.lit (.int .i64 p),.ro (y.map aJ),.lit (.int .i64 a),.lit (.int .i64 b),.lit (.int .i64 c),.lit (.int .u64 d),.lit (.int .u64 e),.lit (.int .u64 f),.lit (.int .i64 g),.lit (.int .i64 q),.lit (.int .i64 r)]=(lw.set i (p,y,(a,b,c,d,e,f,g),q,r)).map aK:=by rw [List.map_set];rfl
theorem G1:[[V.lit (.int .i64 p),.ro (y.map aJ),.lit (.int .i64 a),.lit (.int .i64 b),.lit (.int .i64 c),.lit (.int .u64 d),.lit (.int .u64 e),.lit (.int .u64 f),.lit (.int .i64 g),.lit (.int .i64 q),.lit (.int .i64 r)]]=[(p,y,(a,b,c,d,e,f,g),q,r)].map aK:=rfl
theorem Ek:[V.lit (.int .i64 p),.ro (y.map aJ),.lit (.int .i64 a),.lit (.int .i64 b),.lit (.int .i64 c),.lit (.int .u64 d),.lit (.int .u64 e),.lit (.int .u64 f),.lit (.int .i64 g),.lit (.int .i64 q),.lit (.int .i64 r)]::lw.map aK=((p,y,(a,b,c,d,e,f,g),q,r)::lw).map aK:=rfl
theorem KL:(lw.map aK).set i [.lit (.int .i64 p),.ro [],.lit (.int .i64 a),.lit (.int .i64 b),.lit (.int .i64 c),.lit (.int .u64 d),.lit (.int .u64 e),.lit (.int .u64 f),.lit (.int .i64 g),.lit (.int .i64 q),.lit (.int .i64 r)]=(lw.set i (p,([]:Tye),(a,b,c,d,e,f,g),q,r)).map aK:=by rw [List.map_set];rfl
theorem ET:[[V.lit (.int .i64 p),.ro [],.lit (.int .i64 a),.lit (.int .i64 b),.lit (.int .i64 c),.lit (.int .u64 d),.lit (.int .u64 e),.lit (.int .u64 f),.lit (.int .i64 g),.lit (.int .i64 q),.lit (.int .i64 r)]]=[(p,([]:Tye),(a,b,c,d,e,f,g),q,r)].map aK:=rfl
theorem BX:[V.lit (.int .i64 p),.ro [],.lit (.int .i64 a),.lit (.int .i64 b),.lit (.int .i64 c),.lit (.int .u64 d),.lit (.int .u64 e),.lit (.int .u64 f),.lit (.int .i64 g),.lit (.int .i64 q),.lit (.int .i64 r)]::lw.map aK=((p,([]:Tye),(a,b,c,d,e,f,g),q,r)::lw).map aK:=rfl
theorem K7:dj (ls.map bD)=true:=eX lh
theorem Nu:mb n (ls.map bD)=ls.map bD:=gq lh
theorem JE:ku n (ls.map bD)=ls.map bD:=fi lh
theorem Xw:cg 9 (ls.map bD)=true:=eH fun _=>rfl
theorem QB:(ls.map bD).set i [.lit (.int .i64 p),.ro (x.map (aF .i64)),.lit (.int .i64 a),.lit (.int .i64 b),.lit (.int .i64 c),.lit (.int .u64 d),.lit (.int .u64 e),.lit (.int .u64 f),.lit (.int .i64 g)]=(ls.set i (p,x,a,b,c,d,e,f,g)).map bD:=by rw [List.map_set];rfl
theorem J7:[[V.lit (.int .i64 p),.ro (x.map (aF .i64)),.lit (.int .i64 a),.lit (.int .i64 b),.lit (.int .i64 c),.lit (.int .u64 d),.lit (.int .u64 e),.lit (.int .u64 f),.lit (.int .i64 g)]]=[(p,x,a,b,c,d,e,f,g)].map bD:=rfl
theorem Hm:[V.lit (.int .i64 p),.ro (x.map (aF .i64)),.lit (.int .i64 a),.lit (.int .i64 b),.lit (.int .i64 c),.lit (.int .u64 d),.lit (.int .u64 e),.lit (.int .u64 f),.lit (.int .i64 g)]::ls.map bD=((p,x,a,b,c,d,e,f,g)::ls).map bD:=rfl
theorem KY:(ls.map bD).set i [.lit (.int .i64 p),.ro [],.lit (.int .i64 a),.lit (.int .i64 b),.lit (.int .i64 c),.lit (.int .u64 d),.lit (.int .u64 e),.lit (.int .u64 f),.lit (.int .i64 g)]=(ls.set i (p,([]:List Int),a,b,c,d,e,f,g)).map bD:=by rw [List.map_set];rfl
theorem Fv:[[V.lit (.int .i64 p),.ro [],.lit (.int .i64 a),.lit (.int .i64 b),.lit (.int .i64 c),.lit (.int .u64 d),.lit (.int .u64 e),.lit (.int .u64 f),.lit (.int .i64 g)]]=[(p,([]:List Int),a,b,c,d,e,f,g)].map bD:=rfl
theorem Dk:[V.lit (.int .i64 p),.ro [],.lit (.int .i64 a),.lit (.int .i64 b),.lit (.int .i64 c),.lit (.int .u64 d),.lit (.int .u64 e),.lit (.int .u64 f),.lit (.int .i64 g)]::ls.map bD=((p,([]:List Int),a,b,c,d,e,f,g)::ls).map bD:=rfl
theorem Kh:dj (lp.map eP)=true:=eX pO
theorem JX:mb n (lp.map eP)=lp.map eP:=gq pO
theorem Gs:ku n (lp.map eP)=lp.map eP:=fi pO
theorem Si:cg 3 (lp.map eP)=true:=eH fun _=>rfl
theorem Oc:(lp.map eP).set i [.lit (.int .i64 a),.lit (.int .i64 b),.lit (.int .u64 c)]=(lp.set i (a,b,c)).map eP:=by rw [List.map_set];rfl
theorem G5:[[V.lit (.int .i64 a),.lit (.int .i64 b),.lit (.int .u64 c)]]=[(a,b,c)].map eP:=rfl
theorem DG:[V.lit (.int .i64 a),.lit (.int .i64 b),.lit (.int .u64 c)]::lp.map eP=((a,b,c)::lp).map eP:=rfl
end
theorem UX {α:Type} {wl e sz bytes id g len s:Nat} {l:List α} {enc:α→List V} {H:Hp} :
  apB wl e sz bytes id g len [] H (some (.rows s (l.map enc) g true)) =
   sif (Nat.ble wl id) (ck (decide (len≤l.length)) (ck (s==sz||s==0) (bif room (l.take len).length bytes then some (.own id (g+1) (l.take len).length,H.set id (.rows sz ((l.take len).map enc) (g+1) true)) else none))) none:=by
 have h:=Ld (wl:=wl) (e:=e) (sz:=sz) (bytes:=bytes) (id:=id) (g:=g) (len:=len) (s:=s) (l:=l) (m:=[]) (enc:=enc) (H:=H)
 rw [List.append_nil] at h
 exact h
theorem W9 {kp:Nat→Bool} {cs:List V} {h:Hp}:lq (some kp) (.agg cs) h=bq (ph cs h []) fun p=>some (.agg p.1,p.2.2):=by
 unfold lq EJ bq
 dsimp only
 cases ph cs h [] <;> rfl
theorem M7 {H acc:Hp}:ph [] H acc=some ([],H,acc):=rfl
theorem Kx {v:V} {vs:List V} {H acc:Hp}:ph (v::vs) H acc=bq (oJ v H acc) fun p=>bq (ph vs p.2.1 p.2.2) fun q=>some (p.1::q.1,q.2.1,q.2.2):=by
 rw [ph]
 unfold bq
 cases oJ v H acc with
 | none=>rfl
 | some p=>rfl
theorem M3 {v:Value} {H acc:Hp}:oJ (.lit v) H acc=some (.lit v,H,acc):=rfl
theorem So {r:List (List V)} {H acc:Hp}:oJ (.ro r) H acc=some (.ro r,H,acc):=rfl
def hmB (id g len:Nat) (H acc:Hp):Option B→Option (V×Hp×Hp)
 | some (.rows e rs g' live)=>if g=g'∧len≤rs.length∧(live=true∨len=rs.length)∧dj rs=true then some (.own acc.length 0 len,H.set id .dead,acc++[.rows e (rs.take len) 0 live]) else none
 | _=>none
theorem Dz {id g len:Nat} {H acc:Hp}:oJ (.own id g len) H acc=hmB id g len H acc H[id]? := by
 unfold oJ hmB
 dsimp only
 cases H[id]? with
 | none=>rfl
 | some b=>cases b <;> rfl
theorem ul {α:Type} {enc:α→List V} (hp:∀ x,bC (enc x)=true) {id g len e:Nat} {H acc:Hp} {l:List α}:hmB id g len H acc (some (.rows e (l.map enc) g true))=ck (decide (len≤l.length)) (some (.own acc.length 0 len,H.set id .dead,acc++[.rows e ((l.take len).map enc) 0 true])):=by
 unfold hmB ck
 dsimp only
 rw [List.length_map,eX hp,List.map_take]
 by_cases h:len≤l.length
 ·rw [if_pos ⟨rfl,h,.inl rfl,rfl⟩,decide_eq_true h]
  rfl
 ·rw [if_neg (fun z=>h z.2.1),decide_eq_false h]
  rfl
theorem Xt {id g e:Nat} {H acc:Hp} {lv:Bool}:hmB id g 0 H acc (some (.rows e [] g lv))=some (.own acc.length 0 0,H.set id .dead,acc++[.rows e [] 0 lv]):=by
 unfold hmB
 dsimp only
 rw [if_pos ⟨rfl,Nat.le_refl _,.inr rfl,rfl⟩]
 rfl
theorem WS {k:IntKind} {id g len e:Nat} {H acc:Hp} {l:List Int}:hmB id g len H acc (some (.rows e (l.map (aF k)) g true))=ck (decide (len≤l.length)) (some (.own acc.length 0 len,H.set id .dead,acc++[.rows e ((l.take len).map (aF k)) 0 true])):=ul fun _=>rfl
theorem Xg {kp:Nat→Bool} {id g len:Nat} {h:Hp}:lq (some kp) (.own id g len) h=bq (hmB id g len h [] h[id]?) fun p=>some (p.1,p.2.2):=by
 have e:lq (some kp) (.own id g len) h=(oJ (.own id g len) h []).bind fun q=>some (q.1,q.2.2):=rfl
 rw [e,Dz]
 unfold bq
 cases hmB id g len h [] h[id]? <;> rfl
theorem Sh {id g len e:Nat} {H acc:Hp} {l:List Tyw}:hmB id g len H acc (some (.rows e (l.map aK) g true))=ck (decide (len≤l.length)) (some (.own acc.length 0 len,H.set id .dead,acc++[.rows e ((l.take len).map aK) 0 true])):=ul iY
theorem VT {id g len e:Nat} {H acc:Hp} {l:List Tys}:hmB id g len H acc (some (.rows e (l.map bD) g true))=ck (decide (len≤l.length)) (some (.own acc.length 0 len,H.set id .dead,acc++[.rows e ((l.take len).map bD) 0 true])):=ul lh
def ajh:=PLift.up (And.intro (And.intro (And.intro (And.intro (And.intro (And.intro @JD @Jr) @F1) (And.intro (And.intro @Ql @MB) @G1)) (And.intro (And.intro (And.intro @Ek @KL) @ET) (And.intro @BX @K7))) (And.intro (And.intro (And.intro (And.intro @Nu @JE) @Xw) (And.intro @QB @J7)) (And.intro (And.intro (And.intro @Hm @KY) @Fv) (And.intro @Dk @Kh)))) (And.intro (And.intro (And.intro (And.intro (And.intro @JX @Gs) @Si) (And.intro @Oc @G5)) (And.intro (And.intro (And.intro @DG @Xt) @WS) (And.intro @Xg @UX))) (And.intro (And.intro (And.intro (And.intro @W9 @M7) @Kx) (And.intro @M3 @So)) (And.intro (And.intro (And.intro @Dz @Sh) @VT) (And.intro @eP.eq_1 @afy.eq_1)))))
theorem syW:type_of% ajh.down:=ajh.down
end Go.Ab
namespace Go.Ab
section
variable {cx:Cx} {K:Out→St→Res} {r:Res} {id j n0:Nat} {ops:Array Oper} {a:List Nat×List Nat} {env:List V} {H:Hp} {o:Oper} {i:Nat} {L:List Nat}
theorem qI (hL:B5 ops=L) (ha:(po ops).any=false) (v:V) (H':Hp) (h2:cK cx (.region id ops true) (j+1) n0 a K ⟨mw env o.dst v,H'⟩=r) (hj:L[j]? = some i:=by rfl) (ho:ops.toList[i]? = some o:=by rfl) (hg:o.guard=none:=by rfl) (hst:(po ops).strict i=false:=by kernel_rfl) (h1:opV cx ((po ops).calm i) ((po ops).ord i) o.op env H=some (v,H'):=by kernel_rfl):cK cx (.region id ops true) j n0 a K ⟨env,H⟩=r:=go_op1 hL ha hj ho hg (ag0 hst (aht h1 h2))
section
variable {gj d:Nat} {b:Bool}
end
end
end Go.Ab
namespace Go.Ab
abbrev bb (b:Bool) (x y:Res):Res:=match b with | true=>x | false=>y
abbrev onO {A:Type} (x:Option A) (k:A→Res):Res:=match x with | some v=>k v | none=>none
abbrev afs (cx:Cx) (b:Builtin) (ts:Array TypeId) (args:List V) (H:Hp) (F:V→Hp→Res):Res:=
 match b with
 | .len=>match ts.toList,args with
  | [t],[x]=>bp (a7 cx.P t x H) F
  | _,_=>none
 | .append=>match ts.toList,args with
  | [t,u],[s,x]=>bp (kQ cx.P cx.wl t u s x H) F
  | _,_=>none
 | .max=>bm (gS true args) H F
 | .min=>bm (gS false args) H F
 | _=>none
abbrev opW (cx:Cx) (calm ord:Bool) (op:Op) (env:List V) (H:Hp) (F:V→Hp→Res):Res:=
 match op with
 | .move x=>onO (evO env x) fun v=>F v H
 | .assign x=>match x with
  | .const c=>onO (some (kL c)) fun v=>match v with | .nil=>bp (some (.own H.length 0 0,H++[.rows 0 [] 0 true])) F | v=>F v H
  | x=>onO (evO env x) fun v=>F v H
 | .pick c a b=>onO (evO env c) fun c=>onO (evO env a) fun a=>onO (evO env b) fun b=>bm (aR c a b) H F
 | .alloc t=>bp (av cx.P t H) F
 | .box _ x=>onO (evO env x) fun v=>bp (aP v H) F
 | .build t parts=>onO (Nj (evO env) parts.toList) fun l=>bm (bf cx.P t l) H F
 | .buildSlice t len parts=>onO (Nj (evO env) parts.toList) fun l=>bb (calm) (bp (cX cx.P cx.wl t len l H) F) (bp (aB cx.P cx.wl t len l H) F)
 | .insert t m k v=>onO (evO env m) fun m=>onO (evO env k) fun k=>onO (evO env v) fun v=>bs (fe cx.P cx.wl t m k v H) (F uu)
 | .load t a=>onO (evO env a) fun a=>bm (ab cx.P t a H) H F
 | .store t a v=>onO (evO env a) fun a=>onO (evO env v) fun v=>bs (aj cx.P cx.wl t a v H) (F uu)
 | .nilCheck x=>onO (evO env x) fun x=>bm (aV x H) H F
 | .binOp op t x y _=>onO (evO env x) fun x=>onO (evO env y) fun y=>bm (aw cx.P op t x y) H F
 | .unOp op _ x=>onO (evO env x) fun x=>bm (vUn op x) H F
 | .convert s d x=>onO (evO env x) fun x=>bm (fY cx.P s d x) H F
 | .makeFunc f a b=>onO (Cw env a.toList) fun a=>onO (Cw env b.toList) fun b=>F (.fn f a b) H
 | .makeMap _ r=>match r with | none=>bp (some (.map H.length,H++[.map []])) F | some _=>none
 | .makeSlice t l c=>onO (evO env l) fun l=>onO (evO env c) fun c=>bp (bn cx.P t l c H) F
 | .slice t x lo hi mx=>onO (evO env x) fun x=>onO (Oi env lo) fun lo=>onO (Oi env hi) fun hi=>onO (Oi env mx) fun mx=>bp (b8 cx.P cx.wl calm t x lo hi mx H) F
 | .fieldAddr t x i=>onO (evO env x) fun x=>bm (aa cx.P t x i) H F
 | .field t x i=>onO (evO env x) fun x=>bm (wx cx.P t x i) H F
 | .indexAddr t x i=>onO (evO env x) fun x=>onO (evO env i) fun i=>bm (ai cx.P t x i H) H F
 | .index t x i=>onO (evO env x) fun x=>onO (evO env i) fun i=>bm (HF cx.P t x i) H F
 | .lookup t m k ok=>onO (evO env m) fun m=>onO (evO env k) fun k=>bm (gD cx.P t m k ok H) H F
 | .extract x i=>onO (evO env x) fun x=>bm (aq x i) H F
 | .call c=>
  match c.callee with
  | .builtin b=>onO (Cw env c.args.toList) fun a=>afs cx b c.argTypes a H F
  | .value f=>onO (evO env f) fun f=>onO (Cw env c.args.toList) fun a=>bp (bE cx calm ord f a H) F
  | .invoke _ _=>none
 | _=>none
theorem cO {A:Type} {x:Option A} {k:A→Res} {g:A→Option (V×Hp)} {F:V×Hp→Res} (h:∀ v,k v=(g v).bind F):onO x k=(x.bind g).bind F:=by
 cases x with
 | none=>rfl
 | some v=>exact h v
theorem FO {A:Type} {x:Option A} {k:A→Res} {g:A→V×Hp} {F:V×Hp→Res} (h:∀ v,k v=F (g v)):onO x k=(x.map g).bind F:=by
 cases x with
 | none=>rfl
 | some v=>exact h v
theorem abL {x:Option Hp} {F:V→Hp→Res}:bs x (F uu)=(x.map fun H'=>(V.lit undef,H')).bind fun p=>F p.1 p.2:=by cases x <;> rfl
theorem YK {cx:Cx} {b:Builtin} {ts:Array TypeId} {args:List V} {H:Hp} {F:V→Hp→Res}:afs cx b ts args H F=(KN cx b ts args H).bind fun p=>F p.1 p.2:=by
 unfold afs KN
 generalize ts.toList=l
 cases b with
 | len=>rcases l with _ | ⟨_,_ | _⟩ <;> rcases args with _ | ⟨_,_ | _⟩ <;> rfl
 | append=>rcases l with _ | ⟨_,_ | ⟨_,_ | _⟩⟩ <;> rcases args with _ | ⟨_,_ | ⟨_,_ | _⟩⟩ <;> rfl
 | _=>rfl
theorem adv {cx:Cx} {calm ord:Bool} {op:Op} {env:List V} {H:Hp} {F:V→Hp→Res}:opW cx calm ord op env H F=(opV cx calm ord op env H).bind fun p=>F p.1 p.2:=by
 cases op with
 | assign x=>
  unfold opW opV
  dsimp only
  cases x with
  | const c=>
   dsimp only [evO,onO,Option.map_some,Option.bind_some]
   cases kL c <;> rfl
  | _=>exact FO fun v=>rfl
 | call c=>
  unfold opW opV
  dsimp only
  cases c.callee with
  | builtin b=>exact cO fun a=>YK
  | value f=>exact cO fun f=>cO fun a=>rfl
  | invoke _ _=>rfl
 | buildSlice t len parts=>
  unfold opW opV
  dsimp only
  refine cO fun l => ?_
  cases calm <;> rfl
 | makeMap t r=>
  unfold opW opV
  dsimp only
  cases r <;> rfl
 | _=>
  unfold opW opV
  dsimp only
  first
  | rfl
  | exact cO fun a=>cO fun b=>abL
  | exact cO fun a=>cO fun b=>cO fun c=>abL
  | exact FO fun v=>rfl
  | exact cO fun a=>rfl
  | exact cO fun a=>FO fun b=>rfl
  | exact cO fun a=>cO fun b=>rfl
  | exact cO fun a=>cO fun b=>cO fun c=>rfl
  | exact cO fun a=>cO fun b=>cO fun c=>cO fun d=>rfl
inductive Md where
 | E (c:Code) (fs:List Fr) (jn:List Nat)
 | R (o:Out) (fs:List Fr) (jn:List Nat)
 | L (c:Code) (l:Nat) (fs:List Fr) (jn:List Nat)
 | G (c:Code) (j n0:Nat) (a:List Nat×List Nat) (fs:List Fr) (g:Bool) (kn:List (Nat×Nat)) (jn:List Nat)
def ai4 (cx:Cx) (K:Out→St→Res) (s:St):Md→Res
 | .E c fs _=>au cx K (.seq c::fs) .norm s
 | .R o fs _=>au cx K fs o s
 | .L c l fs _=>As cx K c l fs s
 | .G c j n0 a fs _ _ _=>cK cx c j n0 a (au cx K fs) s
def ny (i:Nat):Code→Bool
 | .exit j=>j==i
 | .seq a b=>ny i a||ny i b
 | .cond _ a b=>ny i a||ny i b
 | .rangeFunc _ _ a b=>ny i a||ny i b
 | .block _ a=>ny i a
 | .loop a=>ny i a
 | .scope a=>ny i a
 | _=>false
def nA:Code→Bool
 | .seq a b=>nA a&&nA b
 | .cond _ a b=>nA a||nA b
 | .exit _=>false
 | .goto _=>false
 | .ret=>false
 | .loop _=>false
 | .block i a=>nA a||ny i a
 | _=>true
def lb:Code→Nat
 | .region _ ops _=>ops.size
 | .seq a b=>lb a+lb b+1
 | .cond _ a b=>lb a+lb b+1
 | .rangeFunc _ _ a b=>lb a+lb b+1
 | .block _ a=>lb a
 | .scope a=>lb a
 | .loop _=>10
 | _=>0
def atJ (jn:List Nat) (n:Nat):Bool:=match jn with | []=>false | x::_=>x==n
def jnT (jn:List Nat) (n:Nat):List Nat:=bif atJ jn n then jn.tail else jn
def Ix (jn:List Nat):List Fr→Nat→Bool
 | [],n=>Nat.ble 3 n
 | .seq c::r,n=>bif atJ jn (r.length+1) then false else bif nA c then Ix jn r (n+lb c) else Nat.ble 3 (n+lb c)
 | _::r,n=>bif atJ jn (r.length+1) then false else Ix jn r n
abbrev sxW (n0:Nat) (st:Bool) (op:Op) (env:List V) (x:Res):Res:=
 bb (st) ((match kZ op with | none=>x | some y=>match evO env y with | some v=>stO n0 v x | none=>x)) (x)
def aeJ (d:Nat):List (Nat×Nat)→Option Nat
 | []=>none
 | (e,b)::r=>bif e==d then some b else aeJ d r
def XF (d:Nat):List (Nat×Nat)→List (Nat×Nat)
 | []=>[]
 | (e,b)::r=>bif e==d then XF d r else (e,b)::XF d r
def knR (d:Option Nat) (kn:List (Nat×Nat)):List (Nat×Nat):=match d with | none=>kn | some d=>XF d kn
def knS (d:Option Nat) (kn:List (Nat×Nat)):List (Nat×Nat):=match d with | none=>kn | some d=>(d,2)::kn
def wk (cx:Cx) (K:Out→St→Res):Nat→Md→St→Res
 | 0,m,s=>ai4 cx K s m
 | n+1,m,s=>match m with
  | .E c fs jn=>match c with
   | .skip=>wk cx K n (.R .norm fs jn) s
   | .region id ops draw=>bb (draw) ((bb (C0 ops) (wk cx K n (.G (.region id ops true) 0 s.H.length ([],[]) fs false [] jn) s) (none))) (wk cx K n (.G (.region id ops false) 0 s.H.length ([],[]) fs false [] jn) s)
   | .seq a b=>wk cx K n (.E a (.seq b::fs) jn) s
   | .block id a=>wk cx K n (.E a (.block id::fs) jn) s
   | .scope a=>wk cx K n (.E a (.scope a::fs) jn) s
   | .cond v a b=>onO (evO s.env v) fun v=>
    bb (nA a&&nA b&&Ix jn fs 0) (cnd v (wk cx K n (.E a fs (fs.length::jn)) s) (wk cx K n (.E b fs (fs.length::jn)) s)) (cnd v (wk cx K n (.E a fs jn) s) (wk cx K n (.E b fs jn) s))
   | .exit id=>wk cx K n (.R (.exit id) fs jn) s
   | .goto l=>wk cx K n (.R (.goto l) fs jn) s
   | .ret=>wk cx K n (.R .ret fs jn) s
   | .label _=>wk cx K n (.R .norm fs jn) s
   | .loop a=>itX cx a s.H.length (au cx K fs) cx.n (tidy s.H.length (KA (cx.M.named cx.fid) (kH a ([],[])) false) s)
   | c=>bk cx c none (au cx K fs) s
  | .R o fs jn=>match o with
   | .norm=>bb (atJ jn fs.length) (au cx K fs .norm s) (match fs with
    | []=>K .norm s
    | .seq c::r=>wk cx K n (.E c r jn) s
    | .block _::r=>wk cx K n (.R .norm r jn) s
    | .scope _::r=>wk cx K n (.R .norm r jn) s
    | .scope2 _::r=>wk cx K n (.R .norm r jn) s)
   | .exit i=>match fs with
    | []=>K (.exit i) s
    | .seq _::r=>wk cx K n (.R (.exit i) r (jnT jn fs.length)) s
    | .block id::r=>bb (i==id) (wk cx K n (.R .norm r (jnT jn fs.length)) s) (wk cx K n (.R (.exit i) r (jnT jn fs.length)) s)
    | .scope _::r=>wk cx K n (.R (.exit i) r (jnT jn fs.length)) s
    | .scope2 _::r=>wk cx K n (.R (.exit i) r (jnT jn fs.length)) s
   | .goto l=>match fs with
    | []=>K (.goto l) s
    | .seq _::r=>wk cx K n (.R (.goto l) r (jnT jn fs.length)) s
    | .block _::r=>wk cx K n (.R (.goto l) r (jnT jn fs.length)) s
    | .scope a::r=>bb (bQ l a) (wk cx K n (.L a l (.scope2 a::r) (jnT jn fs.length)) s) (wk cx K n (.R (.goto l) r (jnT jn fs.length)) s)
    | .scope2 a::r=>bb (bQ l a) (none) (wk cx K n (.R (.goto l) r (jnT jn fs.length)) s)
   | o=>match fs with
    | []=>K o s
    | _::r=>wk cx K n (.R o r (jnT jn fs.length)) s
  | .L c l fs jn=>match c with
   | .seq a b=>bb (bQ l a) (wk cx K n (.L a l (.seq b::fs) jn) s) (wk cx K n (.L b l fs jn) s)
   | .label l'=>bb (l'==l) (wk cx K n (.R .norm fs jn) s) (none)
   | c=>As cx K c l fs s
  | .G c j n0 a fs g kn jn=>match (ml c)[j]? with
   | none=>bb ((ke c).any) (apt a (wk cx K n (.R .norm fs jn) s)) (wk cx K n (.R .norm fs jn) s)
   | some (o,i)=>
    let run:=fun env g kn=>sxW n0 ((ke c).strict i) o.op env (opW cx ((ke c).calm i) ((ke c).ord i) o.op env s.H fun v h=>wk cx K n (.G c (j+1) n0 (HN (ke c) i o.op env a) fs g (knR o.dst kn) jn) ⟨mw env o.dst v,h⟩)
    let skip:=fun env g kn=>wk cx K n (.G c (j+1) n0 a fs g (knS o.dst kn) jn) ⟨mw env o.dst uu,s.H⟩
    match o.guard with
    | none=>bb (g) (cK cx c j n0 a (au cx K fs) s) (run s.env g kn)
    | some (gj,want)=>match ((F9 c)[gj]?).bind (·.dst) with
     | none=>none
     | some d=>match aeJ d kn with
      | some _=>match s.env[d]? with
       | some (.lit (.bool b))=>bb (b==want) (run (s.env.set d (.lit (.bool b))) g kn) (skip (s.env.set d (.lit (.bool b))) g kn)
       | some (.lit (.tuple _))=>skip s.env g kn
       | _=>none
      | none=>bb g (cK cx c j n0 a (au cx K fs) s)
       (onO s.env[d]? fun v=>bb want
        (gd v (run (s.env.set d (.lit (.bool true))) true ((d,1)::kn)) (skip (s.env.set d (.lit (.bool false))) true ((d,0)::kn)) (cK cx c (j+1) n0 a (au cx K fs) ⟨mw s.env o.dst uu,s.H⟩))
        (gd v (skip (s.env.set d (.lit (.bool true))) true ((d,1)::kn)) (run (s.env.set d (.lit (.bool false))) true ((d,0)::kn)) (cK cx c (j+1) n0 a (au cx K fs) ⟨mw s.env o.dst uu,s.H⟩)))
section
variable {cx:Cx} {K:Out→St→Res} {c:Code} {j n0:Nat} {a:List Nat×List Nat} {s:St} {r:Res}
theorem Nx (h:(ml c)[j]? = none):cK cx c j n0 a K s=if (ke c).any then apt a (K .norm s) else K .norm s:=by
 unfold cK
 rw [List.drop_eq_nil_iff.2 (List.getElem?_eq_none_iff.1 h)]
 rfl
theorem NT {o:Oper} {i:Nat} (h:(ml c)[j]? = some (o,i)):cK cx c j n0 a K s =
  (let run (env:List V):Res:=if eg n0 ((ke c).strict i) o.op env then (opV cx ((ke c).calm i) ((ke c).ord i) o.op env s.H).bind fun p=>cK cx c (j+1) n0 (HN (ke c) i o.op env a) K ⟨mw env o.dst p.1,p.2⟩ else none
   let skip (env:List V):Res:=cK cx c (j+1) n0 a K ⟨mw env o.dst (.lit undef),s.H⟩
   match o.guard with
   | none=>run s.env
   | some (j,want)=>
    match ((F9 c)[j]?).bind (·.dst) with
    | none=>none
    | some d=>
     match s.env[d]? with
     | some (.lit (.bool b))=>FJ b want d s.env run skip
     | some (.lit (.tuple _))=>skip s.env
     | _=>none):=by
 obtain ⟨hj,he⟩:=List.getElem?_eq_some_iff.1 h
 unfold cK
 rw [List.drop_eq_getElem_cons hj,he]
 rfl
theorem ZA {st:Bool} {op:Op} {env:List V} {x:Res}:sxW n0 st op env x=if eg n0 st op env then x else none:=by
 unfold sxW eg mO
 cases st with
 | false=>rfl
 | true=>
  dsimp only [bb,if_true]
  cases kZ op with
  | none=>rfl
  | some y=>
   have h:∀ q:Option V,(match q with | some v=>stO n0 v x | none=>x)=if (match (match q with | some v=>IK v | none=>none) with | some i=>decide (i<n0) | none=>true)=true then x else none:=by
    intro q
    cases q with
    | none=>rfl
    | some v=>rfl
   exact h _
end
theorem Ji (cx:Cx) (K:Out→St→Res):∀ (n:Nat) (m:Md) (s:St),wk cx K n m s=ai4 cx K s m
 | 0,_,_=>rfl
 | n+1,m,s=>by
  have ih:=Ji cx K n
  cases m with
  | E c fs jn=>
   cases c with
   | skip=>exact ih _ _
   | region id ops draw=>
    cases draw with
    | false=>exact (ih _ _).trans (go_reg0 rfl).symm
    | true=>
     show bb (C0 ops) (wk cx K n _ s) none=_
     cases h:C0 ops with
     | true=>exact (ih _ _).trans (go_reg1 h rfl).symm
     | false=>
      show none=bk cx (.region id ops true) none (au cx K fs) s
      simp [bk,h]
   | seq a b=>exact (ih _ _).trans (go_seq rfl).symm
   | block id a=>exact (ih _ _).trans (go_block rfl).symm
   | scope a=>exact (ih _ _).trans (go_scope rfl).symm
   | cond v a b=>
    show onO (evO s.env v) _=_
    cases h:evO s.env v with
    | none=>
     show none=bk cx (.cond v a b) none (au cx K fs) s
     simp only [bk,h]
    | some v=>
     refine Eq.trans ?_ (go_cond h rfl rfl).symm
     show bb _ _ _=_
     cases (nA a&&nA b&&Ix jn fs 0) <;> (simp only [bb,ih];rfl)
   | exit id=>exact ih _ _
   | goto l=>exact ih _ _
   | ret=>exact ih _ _
   | label l=>exact ih _ _
   | loop a=>rfl
   | _=>rfl
  | R o fs jn=>
   cases o with
   | norm=>
    show bb _ _ _=_
    cases atJ jn fs.length with
    | true=>rfl
    | false=>cases fs with
     | nil=>rfl
     | cons f r=>cases f <;> exact ih _ _
   | exit i=>
    cases fs with
    | nil=>rfl
    | cons f r=>cases f with
     | block id=>
      show bb (i==id) _ _=if i=id then _ else _
      by_cases h:i=id
      ·subst h
       rw [beq_self_eq_true,if_pos rfl]
       exact ih _ _
      ·rw [beq_false_of_ne h,if_neg h]
       exact ih _ _
     | _=>exact ih _ _
   | goto l=>
    cases fs with
    | nil=>rfl
    | cons f r=>cases f with
     | scope a=>
      show bb (bQ l a) _ _=_
      cases h:bQ l a with
      | true=>exact (ih _ _).trans (F6 h rfl).symm
      | false=>exact (ih _ _).trans (D7 h rfl).symm
     | scope2 a=>
      show bb (bQ l a) _ _=au cx K (.scope2 a::r) (.goto l) s
      cases h:bQ l a with
      | true=>simp only [au,h,if_true]
      | false=>exact (ih _ _).trans (CP h rfl).symm
     | _=>exact ih _ _
   | ret=>
    cases fs with
    | nil=>rfl
    | cons f r=>cases f <;> exact ih _ _
  | L c l fs jn=>
   cases c with
   | seq a b=>
    show bb (bQ l a) _ _=_
    cases h:bQ l a with
    | true=>exact (ih _ _).trans (VK h rfl).symm
    | false=>exact (ih _ _).trans (PA h rfl).symm
   | label l'=>
    show bb (l'==l) _ _=bk cx (.label l') (some l) (au cx K fs) s
    cases h:l'==l with
    | true=>simp only [bk,h,if_true];exact ih _ _
    | false=>simp only [bk,h];rfl
   | _=>rfl
  | G c j n0 a fs g kn jn=>
   show (match (ml c)[j]? with | none=>_ | some (o,i)=>_)=cK cx c j n0 a (au cx K fs) s
   cases h:(ml c)[j]? with
   | none=>
    rw [Nx h]
    show bb _ _ _=_
    cases (ke c).any <;> (simp only [bb,ih];rfl)
   | some p=>
    obtain ⟨o,i⟩:=p
    have hrun:∀ env g kn,sxW n0 ((ke c).strict i) o.op env (opW cx ((ke c).calm i) ((ke c).ord i) o.op env s.H fun v h=>wk cx K n (.G c (j+1) n0 (HN (ke c) i o.op env a) fs g (knR o.dst kn) jn) ⟨mw env o.dst v,h⟩) =
      if eg n0 ((ke c).strict i) o.op env then (opV cx ((ke c).calm i) ((ke c).ord i) o.op env s.H).bind fun p=>cK cx c (j+1) n0 (HN (ke c) i o.op env a) (au cx K fs) ⟨mw env o.dst p.1,p.2⟩ else none:=by
     intro env g kn
     rw [ZA,adv]
     congr 1
     congr 1
     funext p
     exact ih _ _
    have hskip:∀ env g kn,wk cx K n (.G c (j+1) n0 a fs g (knS o.dst kn) jn) ⟨mw env o.dst uu,s.H⟩=cK cx c (j+1) n0 a (au cx K fs) ⟨mw env o.dst (.lit undef),s.H⟩:=fun env g kn=>ih _ _
    rw [NT h]
    dsimp only
    simp only [hrun,hskip]
    cases hg:o.guard with
    | none=>
     cases g with
     | true=>rfl
     | false=>rfl
    | some q=>
     obtain ⟨gj,want⟩:=q
     dsimp only
     cases hd:((F9 c)[gj]?).bind (·.dst) with
     | none=>rfl
     | some d=>
      dsimp only
      cases hk:aeJ d kn with
      | some b=>
       dsimp only
       cases he:s.env[d]? with
       | none=>rfl
       | some v=>
        cases v with
        | lit x=>
         cases x with
         | bool t=>cases t <;> cases want <;> rfl
         | _=>rfl
        | _=>rfl
      | none=>
       cases g with
       | true=>rfl
       | false=>
        dsimp only [bb]
        cases he:s.env[d]? with
        | none=>rfl
        | some v=>
         cases v with
         | lit x=>
          cases x with
          | bool t=>cases t <;> cases want <;> rfl
          | tuple x=>cases want <;> rfl
          | _=>cases want <;> rfl
         | _=>cases want <;> rfl
section
variable {cx:Cx} {K:Out→St→Res} {c:Code} {j n0 n:Nat} {a:List Nat×List Nat} {s:St} {r:Res} {fs:List Fr} {o:Out}
theorem kG (h:wk cx K 999 (.G c j n0 a fs false [] []) s=r:=by kernel_rfl):cK cx c j n0 a (au cx K fs) s=r:=(Ji ..).symm.trans h
theorem kJ (jn:List Nat) (h:wk cx K 999 (.G c j n0 a fs false [] jn) s=r:=by kernel_rfl):cK cx c j n0 a (au cx K fs) s=r:=(Ji ..).symm.trans h
theorem kR (h:wk cx K 999 (.R o fs []) s=r:=by kernel_rfl):au cx K fs o s=r:=(Ji ..).symm.trans h
theorem kI (h:wk cx (eq cx c n0 K n) 999 (.E c [] []) s=r:=by kernel_rfl):itX cx c n0 K (n+1) s=r:=R8 ((Ji ..).symm.trans h)
theorem kB {fn:Func} {args:List V} {H:Hp} (h:wk cx (ap cx.P fn) 999 (.E (am fn) [] []) ⟨args++List.replicate (fn.ntmps - args.length) uu,H⟩=r:=by kernel_rfl) (hb:fn.body=some (am fn):=by rfl):ak cx fn args H=r:=LY hb ((Ji ..).symm.trans h)
end
end Go.Ab
set_option linter.unusedVariables false
set_option linter.unusedSimpArgs false
namespace Go.Ab
theorem un {cs:List V} {i g l:Nat} {H:Hp}:lq (some fun i=>i==1) (.tup [.agg cs,.own i g l]) H=bq (fzL 0 true cs H) fun p=>bq (ph p.1 p.2 []) fun q=>bq (oJ (.own i g l) q.2.1 q.2.2) fun r=>some (.tup [.agg q.1,r.1],r.2.2):=by
 unfold bq
 show ((((fzL 0 true cs H).bind fun p=>some (V.agg p.1,p.2)).bind fun p=>some ([p.1,V.own i g l],p.2)).bind fun p=>(nz p.1 p.2 []).bind fun q=>some (V.tup q.1,q.2.2))=_
 cases fzL 0 true cs H with
 | none=>rfl
 | some p=>
  show ((nz [V.agg p.1,V.own i g l] p.2 []).bind fun q=>some (V.tup q.1,q.2.2))=_
  simp only [nz,EJ]
  dsimp only [Option.bind_some]
  cases ph p.1 p.2 [] with
  | none=>rfl
  | some q=>
   dsimp only [Option.bind_some]
   cases oJ (.own i g l) q.2.1 q.2.2 <;> rfl
theorem ud {cs:List V} {H:Hp}:lq (some fun i=>i==1) (.tup [.agg cs,.nil]) H=bq (fzL 0 true cs H) fun p=>bq (ph p.1 p.2 []) fun q=>some (.tup [.agg q.1,.ro []],q.2.2):=by
 unfold bq
 show ((((fzL 0 true cs H).bind fun p=>some (V.agg p.1,p.2)).bind fun p=>some ([p.1,V.nil],p.2)).bind fun p=>(nz p.1 p.2 []).bind fun q=>some (V.tup q.1,q.2.2))=_
 cases fzL 0 true cs H with
 | none=>rfl
 | some p=>
  show ((nz [V.agg p.1,V.nil] p.2 []).bind fun q=>some (V.tup q.1,q.2.2))=_
  simp only [nz,EJ]
  dsimp only [Option.bind_some]
  cases ph p.1 p.2 [] <;> rfl
theorem pl {id g len e:Nat} {H acc:Hp} {l:Tye}:hmB id g len H acc (some (.rows e (l.map aJ) g true))=ck (decide (len≤l.length)) (some (.own acc.length 0 len,H.set id .dead,acc++[.rows e ((l.take len).map aJ) 0 true])):=ul fun _=>rfl
end Go.Ab
