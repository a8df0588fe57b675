import Derived.Test.YtblpbpnilkfjhaaGreatAbLibB
import Derived.Shelf.Slices.Delete
set_option linter.unusedVariables false
set_option linter.unusedSimpArgs false
namespace Go.Ab
def ai:Code→List Nat→Code
 | c,[]=>c
 | .seq a b,i::p=>if i=0 then ai a p else ai b p
 | .cond _ a b,i::p=>if i=0 then ai a p else ai b p
 | .block _ a,_::p=>ai a p
 | .loop a,_::p=>ai a p
 | .scope a,_::p=>ai a p
 | .rangeFunc _ _ a b,i::p=>if i=0 then ai a p else ai b p
 | c,_=>c
def aj (fn:Func):Code:=fn.body.getD .skip
structure Sys where
 P:Program
 orc:FuncId→Option (List V→Hp→Option (V×Hp))
 keepRes:FuncId→FuncId→Option (Nat→Bool)
 keepArg:FuncId→Bool
 call:Nat→FuncId→List V→Hp→Option (V×Hp)
 yld:Nat→Nat→List V→Hp→Option (V×Hp)
inductive Fr where
 | seq (c:Code)
 | block (id:Nat)
 | scope (a:Code)
 | scope2 (a:Code)
def uu:V := .lit undef
abbrev Res:=Option (V×Hp)
def bF (cx:Cx) (K:Out→St→Res):List Fr→Out→St→Res
 | [],o,s=>K o s
 | .seq c::fs,o,s=>match o with
  | .norm=>be cx c none (bF cx K fs) s
  | o=>bF cx K fs o s
 | .block id::fs,o,s=>match o with
  | .exit id'=>if id'=id then bF cx K fs .norm s else bF cx K fs (.exit id') s
  | o=>bF cx K fs o s
 | .scope a::fs,o,s=>match o with
  | .goto l => if bO l a then be cx a (some l) (fun o' s'' => match o' with | .goto l' => if bO l' a then none else bF cx K fs (.goto l') s'' | o' => bF cx K fs o' s'') s else bF cx K fs (.goto l) s
  | o=>bF cx K fs o s
 | .scope2 a::fs,o,s=>match o with
  | .goto l=>if bO l a then none else bF cx K fs (.goto l) s
  | o=>bF cx K fs o s
def itX (cx:Cx) (c:Code) (n0:Nat) (K:Out→St→Res) (n:Nat) (s:St):Res:=
 RU (be cx c none) n0 (cx.M.named cx.fid) (mg c ([],[])) K n s
def oM (cx:Cx) (c:Code) (n0:Nat) (K:Out→St→Res) (n:Nat):Out→St→Res:=fun o s'=>match o with
 | .norm=>itX cx c n0 K n (tidy n0 (OB (cx.M.named cx.fid) (mg c ([],[])) false) s')
 | .ret=>K .ret s'
 | o=>K o (tidy n0 (OB (cx.M.named cx.fid) (mg c ([],[])) true) s')
def Kc:Code→Array Oper
 | .region _ ops _=>ops
 | _ => #[]
def mt:Code→Rg
 | .region _ ops draw=>if draw then u9 ops else Rg.none
 | _=>Rg.none
def om:Code→List (Oper×Nat)
 | .region _ ops draw=>if draw then aw ops else ops.toList.zipIdx
 | _=>[]
def E4 (ops:Array Oper):List Nat:=(aw ops).map (·.2)
def rh (cx:Cx) (c:Code) (j n0:Nat) (a:List Nat×List Nat) (K:Out→St→Res) (s:St):Res:=
 FX cx n0 (mt c) (Kc c) ((om c).drop j) a (K .norm) s
def a7 (P:Program) (fn:Func):Out→St→Res:=fun o s=>match o with
 | .norm=>(iJ P fn.results.toList s).map fun v=>(v,s.H)
 | .ret=>(iJ P fn.results.toList s).map fun v=>(v,s.H)
 | _=>none
def bm (x:Option V) (H:Hp) (k:V→Hp→Res):Res:=(x.map fun v=>(v,H)).bind fun p=>k p.1 p.2
def bp (x:Option (V×Hp)) (k:V→Hp→Res):Res:=x.bind fun p=>k p.1 p.2
def bs (x:Option Hp) (k:Hp→Res):Res:=(x.map fun H'=>(V.lit undef,H')).bind fun p=>k p.2
def cnd (c:V) (a b:Res):Res:=match c with
 | .lit (.bool t)=>bif t then a else b
 | _=>none
def gd (c:V) (a b u:Res):Res:=match c with
 | .lit (.bool t)=>bif t then a else b
 | .lit (.tuple _)=>u
 | _=>none
def cI (P:Program) (t:TypeId) (H:Hp):Option (V×Hp):=
 (fM P t).bind fun z=>if bg (b8 z) then let p:=bG (b8 z) H;some (.ptr p.2.length 0 0 0,p.2++[.box p.1]) else none
def mc (v:V) (H:Hp):Option (V×Hp):=v.cells.bind fun vs=>let p:=bG vs H;some (.ptr p.2.length 0 0 0,p.2++[.box p.1])
def iG (P:Program) (wl:Nat) (t:TypeId) (len:Nat) (l:List (Nat×V)) (H:Hp):Option (V×Hp):=
 if true && !aW (l.map (·.2)) then none else aL P wl t len l H
def rc (P:Program) (t:TypeId) (x:V) (H:Hp):Option (V×Hp):=if (mF P t).isSome then (AM x H).map fun v=>(v,H) else none
def Ax (P:Program) (wl:Nat) (t u:TypeId) (s x:V) (H:Hp):Option (V×Hp):=if (mF P u).isSome then bA P wl t s x H else none
def apt (a:List Nat×List Nat) (k:Res):Res:=if Bq a then k else none
def lgR (v:V) (a:List Nat×List Nat):List Nat×List Nat:=match KU v with | some k=>(k::a.1,a.2) | none=>a
def lgW (v:V) (a:List Nat×List Nat):List Nat×List Nat:=match KU v with | some k=>(a.1,k::a.2) | none=>a
def stB (n0:Nat) (v:V):Bool:=match KU v with | some i=>i<n0 | none=>true
def stO (n0:Nat) (v:V) (k:Res):Res:=if stB n0 v then k else none
def apc:List (Option V)→Option (List V)
 | []=>some []
 | x::xs=>x.bind fun v=>(apc xs).bind fun vs=>some (v::vs)
def afV (l:List (Option V)) (H:Hp):Res:=((apc l).bind fun vs=>match vs with | [v]=>some v | vs=>some (.tup vs)).map fun v=>(v,H)
section steps
variable {cx:Cx} {K:Out→St→Res} {fs:List Fr} {s:St} {r:Res}
theorem PC {fn:Func} {args:List V} {H:Hp} {c:Code} (hb:fn.body=some c) (h:bF cx (a7 cx.P fn) [.seq c] .norm ⟨args++List.replicate (fn.ntmps - args.length) uu,H⟩=r):C4 cx fn args H=r:=by
 rw [← h]
 unfold C4
 rw [hb]
 have:(fun o s=>match o with
   | .norm=>(iJ cx.P fn.results.toList s).map fun v=>(v,s.H)
   | .ret=>(iJ cx.P fn.results.toList s).map fun v=>(v,s.H)
   | _=>none:Out→St→Res)=bF cx (a7 cx.P fn) []:=by
  funext o s
  cases o <;> rfl
 show be cx c none _ _=be cx c none (bF cx (a7 cx.P fn) []) _
 rw [← this]
 rfl
theorem go_seq {a b:Code} (h:bF cx K (.seq a :: .seq b::fs) .norm s=r):bF cx K (.seq (.seq a b)::fs) .norm s=r:=by
 rw [← h]
 show be cx a none _ s=be cx a none (bF cx K (.seq b::fs)) s
 congr 1
theorem go_block {id:Nat} {a:Code} (h:bF cx K (.seq a :: .block id::fs) .norm s=r):bF cx K (.seq (.block id a)::fs) .norm s=r:=by
 rw [← h]
 show be cx a none _ s=be cx a none (bF cx K (.block id::fs)) s
 congr 1
theorem go_scope {a:Code} (h:bF cx K (.seq a :: .scope a::fs) .norm s=r):bF cx K (.seq (.scope a)::fs) .norm s=r:=by
 rw [← h]
 show be cx a none _ s=be cx a none (bF cx K (.scope a::fs)) s
 congr 1
theorem go_ret (h:bF cx K fs .ret s=r):bF cx K (.seq .ret::fs) .norm s=r:=h
theorem H4 {a:Code} {l:Nat} (hl:bO l a=false) (h:bF cx K fs (.goto l) s=r):bF cx K (.scope a::fs) (.goto l) s=r:=by
 rw [← h]
 simp only [bF]
 rw [hl]
 rfl
theorem EP {a:Code} {l:Nat} (hl:bO l a=false) (h:bF cx K fs (.goto l) s=r):bF cx K (.scope2 a::fs) (.goto l) s=r:=by
 rw [← h]
 simp only [bF]
 rw [hl]
 rfl
def Di (cx:Cx) (K:Out→St→Res) (c:Code) (l:Nat) (fs:List Fr) (s:St):Res:=be cx c (some l) (bF cx K fs) s
theorem JV {a:Code} {l:Nat} (hl:bO l a=true) (h:Di cx K a l (.scope2 a::fs) s=r):bF cx K (.scope a::fs) (.goto l) s=r:=by
 rw [← h]
 simp only [bF]
 rw [hl]
 simp only [if_true,Di]
 congr 1
theorem Y5 {a b:Code} {l:Nat} (hl:bO l a=true) (h:Di cx K a l (.seq b::fs) s=r):Di cx K (.seq a b) l fs s=r:=by
 rw [← h]
 simp only [Di,be,hl,if_true]
 congr 1
theorem TV {a b:Code} {l:Nat} (hl:bO l a=false) (h:Di cx K b l fs s=r):Di cx K (.seq a b) l fs s=r:=by
 rw [← h]
 simp [Di,be,hl]
theorem go_cond {c:Operand} {a b:Code} {v:V} {A B:Res} (hc:evO s.env c=some v) (hA:bF cx K (.seq a::fs) .norm s=A) (hB:bF cx K (.seq b::fs) .norm s=B) :
  bF cx K (.seq (.cond c a b)::fs) .norm s=cnd v A B:=by
 rw [← hA,← hB]
 show be cx (.cond c a b) none (bF cx K fs) s=_
 simp only [be,hc]
 cases v with
 | lit x=>cases x <;> rfl
 | _=>rfl
theorem go_reg0 {id:Nat} {ops:Array Oper} (h:rh cx (.region id ops false) 0 s.H.length ([],[]) (bF cx K fs) s=r):bF cx K (.seq (.region id ops false)::fs) .norm s=r:=by
 rw [← h]
 show be cx (.region id ops false) none (bF cx K fs) s=_
 simp [be,rh,mt,Kc,om]
theorem go_reg1 {id:Nat} {ops:Array Oper} (hok:Fx ops=true) (h:rh cx (.region id ops true) 0 s.H.length ([],[]) (bF cx K fs) s=r):bF cx K (.seq (.region id ops true)::fs) .norm s=r:=by
 rw [← h]
 show be cx (.region id ops true) none (bF cx K fs) s=_
 simp [be,rh,mt,Kc,om,hok]
section ops
variable {id j n0:Nat} {ops:Array Oper} {a:List Nat×List Nat} {env:List V} {H:Hp} {o:Oper} {i:Nat} {L:List Nat}
theorem anT (hL:E4 ops=L) (hj:L[j]? = some i) (ho:ops.toList[i]? = some o):(aw ops).drop j=(o,i)::(aw ops).drop (j+1):=by
 subst hL
 simp only [E4,List.getElem?_map,Option.map_eq_some_iff] at hj
 obtain ⟨p,hp,rfl⟩:=hj
 have hm:p ∈ aw ops:=List.mem_of_getElem? hp
 have hz:p ∈ ops.toList.zipIdx:=by
  simp only [aw,List.mem_append,List.mem_filter] at hm
  rcases hm with h | h <;> exact h.1
 have hx:ops.toList[p.2]? = some p.1:=by
  obtain ⟨x,k⟩:=p
  simpa [List.mem_zipIdx_iff_getElem?] using hz
 rw [hx] at ho
 cases ho
 rw [List.getElem?_eq_some_iff] at hp
 obtain ⟨hj,he⟩:=hp
 rw [List.drop_eq_getElem_cons hj,he]
def sx (n0:Nat) (st:Bool) (op:Op) (env:List V) (x:Res):Res:=if fb n0 st op env then x else none
theorem ail {st:Bool} {op:Op} {x:Res} (hst:st=false) (h:x=r):sx n0 st op env x=r:=by
 subst hst
 simpa [sx,fb] using h
theorem go_op1 (hL:E4 ops=L) (ha:(u9 ops).any=false) (hj:L[j]? = some i) (ho:ops.toList[i]? = some o) (hg:o.guard=none)
  (h:sx n0 ((u9 ops).strict i) o.op env ((opV cx ((u9 ops).calm i) ((u9 ops).ord i) o.op env H).bind (fun p=>rh cx (.region id ops true) (j+1) n0 a K ⟨oL env o.dst p.1,p.2⟩))=r):rh cx (.region id ops true) j n0 a K ⟨env,H⟩=r:=by
 rw [← h]
 simp only [rh,mt,Kc,om,if_true,anT hL hj ho]
 simp only [FX,hg]
 simp [LM,ha,sx]
variable {gj d:Nat} {v:V} {A B C:Res}
end ops
theorem anG {X:Option (V×Hp)} {F:V×Hp→Res} {v:V} {H:Hp} (h1:X=some (v,H)) (h2:F (v,H)=r):X.bind F=r:=by
 subst h1
 exact h2
theorem UB {c:Code} {n0 n:Nat} (h:bF cx (oM cx c n0 K n) [.seq c] .norm s=r):itX cx c n0 K (n+1) s=r:=by
 rw [← h]
 show be cx c none _ s=be cx c none (bF cx (oM cx c n0 K n) []) s
 congr 1
end steps
end Go.Ab
namespace Go.Ab
section combinators
variable {H:Hp} {K:V→Hp→Res} {k:Hp→Res} {A B C:Res}
@[congr] theorem ah8 {x y:Option V} (h:x=y):bm x H K=bm y H K:=by rw [h]
@[congr] theorem ahY {x y:Option (V×Hp)} (h:x=y):bp x K=bp y K:=by rw [h]
@[congr] theorem aic {x y:Option Hp} (h:x=y):bs x k=bs y k:=by rw [h]
@[congr] theorem aep {x y:V} (h:x=y):cnd x A B=cnd y A B:=by rw [h]
@[congr] theorem ahT {x y:V} (h:x=y):gd x A B C=gd y A B C:=by rw [h]
def ob {α β:Type} (x:Option α) (k:α→Option β):Option β:=x.bind k
def ck {β:Type} (c:Bool) (k:Option β):Option β:=bif c then k else none
theorem Yf {v:V}:bm (some v) H K=K v H:=rfl
theorem abW:bm none H K=none:=rfl
theorem aan {v:V} {h:Hp}:bp (some (v,h)) K=K v h:=rfl
theorem YP:bp none K=none:=rfl
theorem abe {h:Hp}:bs (some h) k=k h:=rfl
theorem YA:bs none k=none:=rfl
theorem ae5 {α:Type} {x:Option α} {f:α→V}:bm (x.map f) H K=ob x fun a=>K (f a) H:=by cases x <;> rfl
theorem acO {α:Type} {x:Option α} {f:α→Option V}:bm (x.bind f) H K=ob x fun a=>bm (f a) H K:=by cases x <;> rfl
theorem aeY {α:Type} {x:Option α} {f:α→V×Hp}:bp (x.map f) K=ob x fun a=>K (f a).1 (f a).2:=by cases x <;> rfl
theorem Z7 {α:Type} {x:Option α} {f:α→Option (V×Hp)}:bp (x.bind f) K=ob x fun a=>bp (f a) K:=by cases x <;> rfl
theorem aeD {α:Type} {x:Option α} {f:α→Hp}:bs (x.map f) k=ob x fun a=>k (f a):=by cases x <;> rfl
theorem Y6 {α:Type} {x:Option α} {f:α→Option Hp}:bs (x.bind f) k=ob x fun a=>bs (f a) k:=by cases x <;> rfl
theorem afa {c:Bool} {x:Option V}:bm (bif c then x else none) H K=ck c (bm x H K):=by cases c <;> rfl
theorem adt {c:Bool} {x:Option (V×Hp)}:bp (bif c then x else none) K=ck c (bp x K):=by cases c <;> rfl
theorem agU {c:Bool} {x:Option Hp}:bs (bif c then x else none) k=ck c (bs x k):=by cases c <;> rfl
theorem aoC {t:Bool}:cnd (.lit (.bool t)) A B=bif t then A else B:=rfl
theorem apK {t:Bool}:gd (.lit (.bool t)) A B C=bif t then A else B:=rfl
theorem aqc:gd uu A B C=C:=rfl
theorem bC {β:Type} {A:Option β}:ck true A=A:=rfl
theorem AL {β:Type} {A:Option β}:ck false A=none:=rfl
theorem ab {α β:Type} {a:α} {f:α→Option β}:ob (some a) f=f a:=rfl
theorem abj {α β:Type} {f:α→Option β}:ob none f=none:=rfl
end combinators
def idx {α:Type} (l:List α) (i:Int):Option α:=if 0≤i then l[i.toNat]? else none
theorem abk {α:Type} (l:List α) (i:Nat):idx l (i:Int)=l[i]? := by simp [idx]
section ops
variable {P:Program} {t:TypeId} {k k':IntKind} {a b:Int} {x y:V}
theorem Um:kZ P .add t (.lit (.int k a)) (.lit (.int k b))=some (.lit (.int k (k.wrap (a+b)))):=by simp [kZ,fp]
theorem S5:kZ P .sub t (.lit (.int k a)) (.lit (.int k b))=some (.lit (.int k (k.wrap (a - b)))):=by simp [kZ,fp]
theorem VZ:kZ P .mul t (.lit (.int k a)) (.lit (.int k b))=some (.lit (.int k (k.wrap (a*b)))):=by simp [kZ,fp]
theorem U3:kZ P .eql t (.lit (.int k a)) (.lit (.int k b))=some (.lit (.bool (a==b))):=by simp [kZ,fp]
theorem Vy : kZ P .neq t (.lit (.int k a)) (.lit (.int k b)) = some (.lit (.bool (a != b))) := by simp [kZ, fp]
theorem Tf:kZ P .lss t (.lit (.int k a)) (.lit (.int k b))=some (.lit (.bool (decide (a<b)))):=by simp [kZ,fp]
theorem VC:kZ P .leq t (.lit (.int k a)) (.lit (.int k b))=some (.lit (.bool (decide (a≤b)))):=by simp [kZ,fp]
theorem Up:kZ P .gtr t (.lit (.int k a)) (.lit (.int k b))=some (.lit (.bool (decide (b<a)))):=by simp [kZ,fp]
theorem Sm:kZ P .geq t (.lit (.int k a)) (.lit (.int k b))=some (.lit (.bool (decide (b≤a)))):=by simp [kZ,fp]
theorem U5 : kZ P .quo t (.lit (.int k a)) (.lit (.int k b)) = bif b != 0 then some (.lit (.int k (k.wrap (a.tdiv b)))) else none := by
  by_cases h : b = 0
  · simp [kZ, fp, h]
  · simp [kZ, fp, h, (bne_iff_ne).2 h]
theorem VP : kZ P .rem t (.lit (.int k a)) (.lit (.int k b)) = bif b != 0 then some (.lit (.int k (a.tmod b))) else none := by
  by_cases h : b = 0
  · simp [kZ, fp, h]
  · simp [kZ, fp, h, (bne_iff_ne).2 h]
theorem Pp {p q:Bool} (h:rM P t=true):kZ P .eql t (.lit (.bool p)) (.lit (.bool q))=some (.lit (.bool (p==q))):=by simp [kZ,h]
theorem PP {p q:Bool} (h:rM P t=true):kZ P .neq t (.lit (.bool p)) (.lit (.bool q))=some (.lit (.bool (!(p==q)))):=by simp [kZ,h]
theorem Ze {p:Bool}:vUn .not (.lit (.bool p))=some (.lit (.bool !p)):=rfl
theorem abp:vUn .neg (.lit (.int k a))=some (.lit (.int k (k.wrap (0 - a)))):=rfl
theorem acN {p:Bool}:EY (.lit (.bool p)) x y=some (bif p then x else y):=rfl
theorem N3 {l:List V}:lP (.tup (x::l)) 0=some x:=rfl
theorem Oi {l:List V}:lP (.tup (x::y::l)) 1=some y:=rfl
theorem N8 {z:V} {l:List V}:lP (.tup (x::y::z::l)) 2=some z:=rfl
end ops
def av (k:IntKind) (n:Int):List V:=[.lit (.int k n)]
def fI (b:Bool):List V:=[.lit (.bool b)]
section mem
variable {P:Program} {t:TypeId} {H:Hp} {wl:Nat}
theorem Wv {cs:List V}:o8 P t (.rp cs) H=aS P t cs:=rfl
def ldB (P:Program) (t:TypeId) (g row off:Nat):Option B→Option V
 | some (.box cs)=>bif g==0&&row==0 then aS P t (cs.drop off) else none
 | some (.rows _ rs g' _)=>bif g==g' then (rs[row]?).bind fun r=>aS P t (r.drop off) else none
 | _=>none
theorem R4 {id g row off:Nat}:o8 P t (.ptr id g row off) H=ldB P t g row off (H[id]?):=by
 unfold o8 ldB
 dsimp only
 generalize H[id]? = b0
 cases b0 with
 | none=>rfl
 | some b=>cases b <;> simp [Bool.cond_eq_ite]
theorem aaV {off:Nat} {cs:List V}:ldB P t 0 0 off (some (.box cs))=aS P t (cs.drop off):=rfl
theorem U4 {α:Type} {l:List α} {enc:α→List V} {g row off e:Nat} {lv:Bool} :
  ldB P t g row off (some (.rows e (l.map enc) g lv))=(l[row]?).bind fun x=>aS P t ((enc x).drop off):=by
 simp [ldB]
 cases l[row]? <;> rfl
def Bb (P : Program) (wl : Nat) (t : TypeId) (id g row off : Nat) (vs : List V) (H : Hp) : Option B → Option Hp
  | some (.box cs) =>
    bif g == 0 && row == 0 && aR P t != 0 && vs.length == aR P t && decide (off + vs.length ≤ cs.length) then
      some ((bG vs H).2.set id (.box (spl cs off (bG vs H).1)))
    else none
  | some (.rows _ _ _ _) => (fzL wl true vs H).bind fun p =>
    match p.2[id]? with
    | some (.rows e rs g' true) =>
      bif g == g' && aR P t != 0 && vs.length == aR P t then
        (rs[row]?).bind fun r => bif decide (off + p.1.length ≤ r.length) then some (p.2.set id (.rows e (rs.set row (spl r off p.1)) g' true)) else none
      else none
    | _ => none
  | _ => none
theorem Nx {id g row off : Nat} {v : V} : rx P wl t (.ptr id g row off) v H = (v.cells).bind fun vs => bif Nat.ble wl id then Bb P wl t id g row off vs H (H[id]?) else none := by
  unfold rx
  cases hv : v.cells with
  | none => simp
  | some vs =>
    simp only [Option.bind_some]
    cases hw : Nat.ble wl id with
    | false => simp
    | true =>
      simp only [if_true, cond_true]
      unfold Bb
      generalize H[id]? = b0
      cases b0 with
      | none => rfl
      | some b =>
        cases b with
        | box cs => simp only [Bool.cond_eq_ite, Bool.and_eq_true, beq_iff_eq, bne_iff_ne, decide_eq_true_eq, and_assoc]
        | rows e rs g' lv =>
          simp only
          congr 1
          funext p
          generalize p.2[id]? = b1
          cases b1 with
          | none => rfl
          | some b => 
            cases b with
            | rows e rs g' lv => cases lv <;> simp [Bool.cond_eq_ite, and_assoc]
            | _ => rfl
        | _ => rfl
theorem cd {α : Type} {l : List α} {enc : α → List V} {e : TypeId} {k : IntKind} {n : Int} (hu : P.underlying t = some (.slice e)) (hs : ∀ x, (enc x).length = aR P e) (hz : (aR P e != 0) = true) :
    aA P t (.ro (l.map enc)) (.lit (.int k n)) H = (idx l n).map fun x => .rp (enc x) := by
  have hz' : aR P e ≠ 0 := by simpa using hz
  unfold aA idx
  simp only [hu]
  split
  · cases hl : l[n.toNat]? with
    | none => simp [hl]
    | some x => simp [hl, hs, hz']
  · rfl
def ixB (sz g len id:Nat) (n:Int):Option B→Option V
 | some (.rows s _ g' _)=>bif g==g'&&s==sz then bif decide (0≤n∧n.toNat<len) then some (.ptr id g n.toNat 0) else none else none
 | _=>none
theorem bf {id g len : Nat} {e : TypeId} {k : IntKind} {n : Int} (hu : P.underlying t = some (.slice e)) (hz : (aR P e != 0) = true) :
    aA P t (.own id g len) (.lit (.int k n)) H = ixB (aR P e) g len id n (H[id]?) := by
  have hz' : aR P e ≠ 0 := by simpa using hz
  unfold aA ixB
  simp only [hu]
  by_cases hn : 0 ≤ n
  · simp only [hn, if_true, true_and]
    generalize H[id]? = b0
    cases b0 with
    | none => rfl
    | some b =>
      cases b with
      | rows s rs g' lv =>
        simp only [hz', ne_eq, not_false_eq_true, and_true, Bool.cond_eq_ite, Bool.and_eq_true, beq_iff_eq, decide_eq_true_eq]
      | _ => rfl
  · simp only [hn, if_false, false_and, decide_false]
    generalize H[id]? = b0
    cases b0 with
    | none => rfl
    | some b =>
      cases b with
      | rows s rs g' lv => simp
      | _ => rfl
theorem Sr {sz g len id:Nat} {n:Int} {rs:List (List V)} {lv:Bool}:ixB sz g len id n (some (.rows sz rs g lv))=bif decide (0≤n∧n.toNat<len) then some (.ptr id g n.toNat 0) else none:=by
 simp [ixB]
theorem aax {rows:List (List V)}:AM (.ro rows) H=some (.lit (.int .i64 rows.length)):=rfl
theorem Sy:AM .nil H=some (.lit (.int .i64 0)):=rfl
def lnB (g len:Nat):Option B→Option V
 | some (.rows _ _ g' _)=>bif g==g' then some (.lit (.int .i64 len)) else none
 | _=>none
theorem TE {id g len:Nat}:AM (.own id g len) H=lnB g len (H[id]?):=by
 unfold AM lnB
 dsimp only
 generalize H[id]? = b0
 cases b0 with
 | none=>rfl
 | some b=>cases b <;> simp [Bool.cond_eq_ite]
theorem Vg {g len e:Nat} {rs:List (List V)} {lv:Bool}:lnB g len (some (.rows e rs g lv))=some (.lit (.int .i64 len)):=by simp [lnB]
theorem HG {v:Value} (h:v.oneCell'=true):mc (.lit v) H=some (.ptr H.length 0 0 0,H++[.box [.lit v]]):=by
 simp [mc,V.cells,V.one,h,bG]
theorem RR {k:IntKind} {n:Int}:mc (.lit (.int k n)) H=some (.ptr H.length 0 0 0,H++[.box [.lit (.int k n)]]):=HG rfl
theorem NQ {b:Bool}:mc (.lit (.bool b)) H=some (.ptr H.length 0 0 0,H++[.box [.lit (.bool b)]]):=HG rfl
theorem Ss {r:List (List V)}:mc (.ro r) H=some (.ptr H.length 0 0 0,H++[.box [.ro r]]):=by simp [mc,V.cells,V.one,bG]
theorem Q3 {l:List V}:mc (.agg l) H=some (.ptr (bG l H).2.length 0 0 0,(bG l H).2++[.box (bG l H).1]):=by simp [mc,V.cells]
theorem SV:bG [] H=([],H):=rfl
theorem Ul {v:Value} {l:List V}:bG (.lit v::l) H=(.lit v::(bG l H).1,(bG l H).2):=rfl
theorem aaM {r:List (List V)} {l:List V}:bG (.ro r::l) H=(.ro r::(bG l H).1,(bG l H).2):=rfl
theorem TS {i g n:Nat} {l:List V}:bG (.own i g n::l) H=(.own i g n::(bG l H).1,(bG l H).2):=rfl
theorem VU {i g n o:Nat} {l:List V}:bG (.ptr i g n o::l) H=(.ptr i g n o::(bG l H).1,(bG l H).2):=rfl
theorem Yk {f:Fn} {a b l:List V}:bG (.fn f a b::l) H=(.fn f a b::(bG l H).1,(bG l H).2):=rfl
theorem P1 {l:List V}:bG (.nil::l) H=(.own H.length 0 0::(bG l (H++[.rows 0 [] 0 true])).1,(bG l (H++[.rows 0 [] 0 true])).2):=rfl
theorem Hw {v:Value} (h:v.oneCell'=true):V.cells (.lit v)=some [.lit v]:=by simp [V.cells,V.one,h]
theorem Ph {k:IntKind} {n:Int}:V.cells (.lit (.int k n))=some [.lit (.int k n)]:=Hw rfl
theorem NN {b:Bool}:V.cells (.lit (.bool b))=some [.lit (.bool b)]:=Hw rfl
theorem Wa {r:List (List V)}:V.cells (.ro r)=some [.ro r]:=rfl
theorem OZ {i g n:Nat}:V.cells (.own i g n)=some [.own i g n]:=rfl
theorem Ra {i g n o:Nat}:V.cells (.ptr i g n o)=some [.ptr i g n o]:=rfl
theorem TA {f:Fn} {a b:List V}:V.cells (.fn f a b)=some [.fn f a b]:=rfl
theorem P4:V.cells .nil=some [.nil]:=rfl
theorem Ql {l:List V}:V.cells (.agg l)=some l:=rfl
theorem S7 {id g row off:Nat}:OD (.ptr id g row off) H=(match H[id]? with
  | some (.box _)=>bif g==0 then some (.ptr id g row off) else none
  | some (.rows _ _ g' _)=>bif g==g' then some (.ptr id g row off) else none
  | _=>none):=by
 unfold OD
 dsimp only
 generalize H[id]? = b0
 cases b0 with
 | none=>rfl
 | some b=>cases b <;> simp [Bool.cond_eq_ite]
theorem Yj {f:FuncId} {a b:List V}:OD (.fn (.func f) a b) H=some (.fn (.func f) a b):=rfl
theorem ack {c:List V}:OD (.rp c) H=some (.rp c):=rfl
theorem RS {cx:Cx} {c:Code} {n0:Nat} {K:Out→St→Res} {n:Nat} {s:St}:oM cx c n0 K n .ret s=K .ret s:=rfl
theorem agz {v:V}:afV [some v] H=some (v,H):=rfl
theorem af3 {v w:V}:afV [some v,some w] H=some (.tup [v,w],H):=rfl
theorem adq {v w x:V}:afV [some v,some w,some x] H=some (.tup [v,w,x],H):=rfl
end mem
end Go.Ab
namespace Go.Ab
mutual
def V.data:V→Bool
 | .lit _=>true
 | .ro _=>true
 | .nil=>true
 | .agg cs=>ma cs
 | .fn _ a b=>Qy a&&Qy b
 | _=>false
def Qy:List V→Bool
 | []=>true
 | v::vs=>v.data&&Qy vs
def ma:List V→Bool
 | []=>true
 | .lit _::vs=>ma vs
 | .ro _::vs=>ma vs
 | _::_=>false
end
theorem mT:∀ {l:List V},ma l=true→aW l=true
 | [],_=>rfl
 | .lit _::vs,h=>by
  have:=mT (l:=vs) (by simpa [ma] using h)
  simp [aW,V.pure,this]
 | .ro _::vs,h=>by
  have:=mT (l:=vs) (by simpa [ma] using h)
  simp [aW,V.pure,this]
 | .nil::_,h | .any::_,h | .junk::_,h | .agg _::_,h | .tup _::_,h | .fn .. :: _,h | .yld _::_,h | .rp _::_,h | .ptr .. :: _,h | .own .. :: _,h | .map _::_,h=>by simp [ma] at h
mutual
theorem PX:∀ {v:V},v.data=true→v.pure=true
 | .lit _,_ | .ro _,_ | .nil,_=>rfl
 | .agg cs,h=>mT h
 | .fn _ a b,h=>by
  simp [V.data] at h
  simp [V.pure,wE h.1,wE h.2]
 | .any,h | .junk,h | .tup _,h | .yld _,h | .rp _,h | .ptr ..,h | .own ..,h | .map _,h=>by simp [V.data] at h
theorem wE:∀ {l:List V},Qy l=true→aW l=true
 | [],_=>rfl
 | v::vs,h=>by
  simp [Qy] at h
  simp [aW,PX h.1,wE h.2]
end
def rU (cx:Cx) (g:FuncId) (args:List V):Option (V×Hp):=(cx.call 0 g args []).bind fun p=>nE (cx.M.keepRes cx.fid g) p.1 p.2
section ret
variable {H:Hp}
theorem VR {v:Value} {h:Hp}:nE none (.lit v) h=some (.lit v,[]):=rfl
def fzB (wl id g len:Nat) (H:Hp):Option B→Option (V×Hp)
 | some (.rows e rs g' _)=>bif g==g'&&decide (len≤rs.length)&&(dq rs&&Nat.ble wl id) then some (.ro (rs.take len),H.set id (.rows e rs g' false)) else none
 | _=>none
theorem wH {wl id g len:Nat}:fzC wl (.own id g len) H=fzB wl id g len H (H[id]?):=by
 unfold fzC fzB
 dsimp only
 generalize H[id]? = b
 cases b with
 | none=>rfl
 | some b=>
  cases b with
  | rows e rs g' lv=>
   by_cases h1:g=g'
   ·by_cases h2:len≤rs.length <;> cases h3:(dq rs&&Nat.ble wl id) <;> simp [h1,h2]
   ·simp [h1,beq_false_of_ne h1]
  | _=>rfl
theorem Vf {α:Type} {l:List α} {enc:α→List V} {wl id g e len:Nat} {lv:Bool} (hl:len=l.length) (hp:∀ x,aW (enc x)=true) (hw:Nat.ble wl id=true) :
  fzB wl id g len H (some (.rows e (l.map enc) g lv))=some (.ro (l.map enc),H.set id (.rows e (l.map enc) g false)):=by
 subst hl
 have h1:dq (l.map enc)=true:=by
  rw [dq,List.all_eq_true]
  intro r hr
  obtain ⟨x,_,rfl⟩:=List.mem_map.1 hr
  exact hp x
 have h2:(l.map enc).take l.length=l.map enc:=by rw [List.take_of_length_le];simp
 simp [fzB,h1,hw,h2]
theorem Wd {α:Type} {l:List α} {enc:α→List V} {id g e len:Nat} {lv:Bool} {h:Hp} (hb:h[id]? = some (.rows e (l.map enc) g lv)) (hl:len=l.length) (hp:∀ x,aW (enc x)=true) :
  nE none (.own id g len) h=some (.ro (l.map enc),[]):=by
 simp only [nE,fzR,Gx,fzA,wH,hb,Vf hl hp (by simp:Nat.ble 0 id=true),Option.bind_some,V.pure,if_true]
end ret
section app
variable {P:Program} {wl:Nat} {t:TypeId} {H:Hp}
theorem Hg {r:List (List V)}:bZ (.ro r) H=some r:=rfl
theorem NB:bZ .nil H=some []:=rfl
def roB (g len:Nat):Option B→Option (List (List V))
 | some (.rows _ rs g' _)=>bif g==g'&&decide (len≤rs.length) then some (rs.take len) else none
 | _=>none
theorem Nj {id g len:Nat}:bZ (.own id g len) H=roB g len (H[id]?):=by
 unfold bZ roB
 dsimp only
 generalize H[id]? = b
 cases b with
 | none=>rfl
 | some b=>cases b <;> simp [Bool.cond_eq_ite]
def apB (wl _e:Nat) (sz bytes id g len:Nat) (xs:List (List V)) (H:Hp):Option B→Option (V×Hp)
 | some (.rows s rs g' live)=>
  bif Nat.ble wl id&&(g==g')&&decide (len≤rs.length)&&(live||len==rs.length)&&(s==sz||s==0)&&decide ((len+xs.length)*bytes≤70368744177664) then
   some (.own id (g+1) (len+xs.length),H.set id (.rows sz (rs.take len++xs) (g+1) live)) else none
 | _=>none
theorem eM {e:TypeId} {id g len:Nat} {x:V} (he:mF P t=some e) (hg:JK P e=true) :
  bA P wl t (.own id g len) x H=(bZ x H).bind fun xs=>bif cr (aR P e) xs then apB wl e (aR P e) (P.bytesOf e) id g len xs H (H[id]?) else none:=by
 unfold bA
 simp only [he]
 cases hr:bZ x H with
 | none=>rfl
 | some xs=>
  simp only [Option.bind_some,hg,Bool.and_true]
  cases cr (aR P e) xs with
  | false=>rfl
  | true=>
   simp only [if_true,cond_true,apB]
   generalize H[id]? = b
   cases b with
   | none=>rfl
   | some b=>
    cases b with
    | rows s rs g' lv=>simp [Bool.cond_eq_ite,and_assoc]
    | _=>rfl
theorem eQ {e:TypeId} {x:V} (he:mF P t=some e) (hg:JK P e=true) :
  bA P wl t .nil x H=(bZ x H).bind fun xs=>bif cr (aR P e) xs then bif decide (xs.length*P.bytesOf e≤70368744177664) then some (.own H.length 0 xs.length,H++[.rows (aR P e) xs 0 true]) else none else none:=by
 unfold bA
 simp only [he]
 cases hr:bZ x H with
 | none=>rfl
 | some xs=>
  simp only [Option.bind_some,hg,Bool.and_true]
  cases cr (aR P e) xs with
  | false=>rfl
  | true=>simp [Bool.cond_eq_ite]
theorem fj {α:Type} {l:List α} {enc:α→List V} {sz:Nat} (h:∀ x,(enc x).length=sz):cr sz (l.map enc)=true:=by
 rw [cr,List.all_eq_true]
 intro r hr
 obtain ⟨x,_,rfl⟩:=List.mem_map.1 hr
 simp [h]
def room (n bytes:Nat):Bool:=decide (n*bytes≤70368744177664)
theorem uU {e : TypeId} {n : Int} {z : Value} {Z : List V} (he : mF P t = some e) (hz : fM P e = some z) (hZ : aX.fzZ (b8 z) = Z) (ho : (bg (b8 z) && (b8 z).length == aR P e && aR P e != 0) = true) :
    aX P t (.lit (.int .i64 n)) (.lit (.int .i64 n)) H = bif decide (0 ≤ n ∧ n ≤ 9223372036854775807 ∧ n * P.bytesOf e ≤ 70368744177664) then some (.own H.length 0 n.toNat, H ++ [.rows (aR P e) (List.replicate n.toNat Z) 0 true]) else none := by
  unfold aX
  simp only [he, hz, ho, if_true, hZ, true_and, Bool.cond_eq_ite, decide_eq_true_eq]
end app
theorem ik {α:Type} {l:List α} {enc:α→List V} {n:Nat} (hp:∀ x,aW (enc x)=true):nP n (l.map enc)=l.map enc:=by
 have h1:dq (l.map enc)=true:=by
  rw [dq,List.all_eq_true]
  intro r hr
  obtain ⟨x,_,rfl⟩:=List.mem_map.1 hr
  exact hp x
 simp [nP,h1]
theorem f5 {α:Type} {l:List α} {enc:α→List V} {n:Nat} (hp:∀ x,aW (enc x)=true):ml n (l.map enc)=l.map enc:=by
 have h1:dq (l.map enc)=true:=by
  rw [dq,List.all_eq_true]
  intro r hr
  obtain ⟨x,_,rfl⟩:=List.mem_map.1 hr
  exact hp x
 simp [ml,h1]
theorem M4 {n:Nat}:ml n []=[]:=rfl
theorem O1 {n:Nat}:nP n []=[]:=rfl
theorem B8 (k:IntKind) (x:Int):aW (av k x)=true:=rfl
theorem wA (x:Bool):aW (fI x)=true:=rfl
theorem np (x:Int×List Int):aW (ak x)=true:=rfl
theorem rQ (x:Int×Int×Int):aW (az x)=true:=rfl
theorem Qf {k:IntKind} {l:List Int} {n:Nat}:nP n (l.map (av k))=l.map (av k):=ik (B8 k)
theorem M3 {l:List Bool} {n:Nat}:nP n (l.map fI)=l.map fI:=ik wA
theorem NG {l:Tyt} {n:Nat}:nP n (l.map ak)=l.map ak:=ik np
theorem Jz {l:Tye} {n:Nat}:nP n (l.map az)=l.map az:=ik rQ
theorem NA {k:IntKind} {l:List Int} {n:Nat}:ml n (l.map (av k))=l.map (av k):=f5 (B8 k)
theorem Ki {l:List Bool} {n:Nat}:ml n (l.map fI)=l.map fI:=f5 wA
theorem IW {l:Tyt} {n:Nat}:ml n (l.map ak)=l.map ak:=f5 np
theorem GJ {l:Tye} {n:Nat}:ml n (l.map az)=l.map az:=f5 rQ
theorem Or {n:Nat} {cs:List V}:B.shift n (.box cs) = .box (cX n cs):=rfl
theorem Jt {n e g:Nat} {rs:List (List V)} {l:Bool}:B.shift n (.rows e rs g l) = .rows e (ml n rs) g l:=rfl
theorem Rm {n:Nat} {cs:List V}:B.kill n (.box cs) = .box (eZ n cs):=rfl
theorem Oj {n e g:Nat} {rs:List (List V)} {l:Bool}:B.kill n (.rows e rs g l) = .rows e (nP n rs) g l:=rfl
theorem Nb {n:Nat}:B.kill n .dead = .dead:=rfl
theorem RX {l:List Bool} {i:Nat} {b:Bool}:(l.map fI).set i [.lit (.bool b)]=(l.set i b).map fI:=by rw [List.map_set];rfl
theorem UC {k:IntKind} {l:List Int} {i:Nat} {b:Int}:(l.map (av k)).set i [.lit (.int k b)]=(l.set i b).map (av k):=by rw [List.map_set];rfl
theorem QG {n:Nat} {b:Bool}:List.replicate n [V.lit (.bool b)]=(List.replicate n b).map fI:=by rw [List.map_replicate];rfl
theorem VB {k:IntKind} {n:Nat} {b:Int}:List.replicate n [V.lit (.int k b)]=(List.replicate n b).map (av k):=by rw [List.map_replicate];rfl
theorem U6 {α:Type} {l:List α} {f:α→List V} {i:Nat}:(l.map f)[i]? = (l[i]?).map f:=List.getElem?_map
theorem aqA {n:Nat}:Nat.ble 0 n=true:=by cases n <;> rfl
theorem Wn (x:Int×List Int):ak x=[.lit (.int .i64 x.1),.ro (x.2.map (av .i64))]:=rfl
theorem OX {keep:Option (Nat→Bool)} {v:Value} {h:Hp}:nE keep (.lit v) h=some (.lit v,[]):=by
 cases keep <;> rfl
theorem Tk {keep:Option (Nat→Bool)} {r:List (List V)} {h:Hp}:nE keep (.ro r) h=some (.ro r,[]):=by
 cases keep <;> rfl
theorem XG {z:Int} (h1 : -9223372036854775808≤z) (h2:z≤9223372036854775807):IntKind.i64.wrap z=z:=by
 simp [IntKind.wrap,IntKind.bits,IntKind.signed]
 omega
end Go.Ab
namespace Go.Ab
def bdK (id n:Nat):Out→St→Res:=fun o s=>match s.H[id]? with
 | some (.loop l)=>some (.lit (.bool (ed o).isNone),pX n (s.H.set id (.loop { l with st:=if (ed o).isNone then .ready else .done,pending:=ed o })))
 | _=>none
def asK (cx:Cx) (id n:Nat) (body:Code):Out→St→Res:=fun o s=>match o with
 | .norm=>match s.H[id]? with
  | some (.loop l)=>if l.st = .ready then bF cx (bdK id n) [.seq body] .norm ⟨s.env,s.H.set id (.loop { l with st := .busy })⟩ else none
  | _=>none
 | _=>none
def rfK (K:Out→St→Res) (env:List V) (n:Nat) (p:V×Hp):Res:=
 match p.2[n]? with
 | some (.loop l)=>if l.st = .busy then none else
  match l.pending with
  | none=>K .norm ⟨env,pX n p.2⟩
  | some .ret=>K .ret ⟨env,pX n p.2⟩
  | some (.exit id)=>K (.exit id) ⟨env,pX n p.2⟩
  | some (.goto id)=>K (.goto id) ⟨env,pX n p.2⟩
  | some _=>none
 | _=>none
def Eu {σ α:Type} (step:σ→α→Bool×σ):List α→σ→Bool×σ
 | [],s=>(true,s)
 | x::r,s=>if (step s x).1 then Eu step r (step s x).2 else step s x
end Go.Ab
namespace Go.Ab
theorem cW {α:Type} {l r:List α} {x:α} {i:Nat} (h:l.drop i=x::r):i<l.length∧l[i]? = some x∧l.drop (i+1)=r∧x ∈ l∧l.length=i+1+r.length:=by
 have h0:i<l.length:=by
  have:=congrArg List.length h
  simp at this
  omega
 have h1:l.drop i=l[i]::l.drop (i+1):=List.drop_eq_getElem_cons h0
 rw [h] at h1
 injection h1 with h2 h3
 refine ⟨h0,by rw [List.getElem?_eq_getElem h0,h2],h3.symm,h2 ▸ List.getElem_mem h0,?_⟩
 have:=congrArg List.length h
 simp at this
 omega
theorem eb {α:Type} {l:List α} {i:Nat} (h:l.drop i=[]):l.length≤i:=List.drop_eq_nil_iff.1 h
theorem fO {α:Type} {l:List α} {i:Nat} {x:α} (h:l[i]? = some x):idx l (i:Int)=some x:=by rw [abk,h]
theorem ltT {a b:Int} (h:a<b):decide (a<b)=true:=decide_eq_true h
theorem ltF {a b:Int} (h:b≤a):decide (a<b)=false:=decide_eq_false (by omega)
theorem leT {a b:Int} (h:a≤b):decide (a≤b)=true:=decide_eq_true h
theorem leF {a b:Int} (h:b<a):decide (a≤b)=false:=decide_eq_false (by omega)
theorem iZ {k d:Nat} (h:d<k):∃ j,k=j+1:=⟨k - 1,by omega⟩
theorem gg {i:Nat} (h:i≤9223372036854775806):IntKind.i64.wrap ((i:Int)+1)=((i+1:Nat):Int):=by
 rw [XG (by omega) (by omega)]
 omega
end Go.Ab
namespace Go.Ab
def JE {α:Type} (p:α→Bool):List α→Nat→Int
 | [],_ => -1
 | x::r,i=>if p x then (i:Int) else JE p r (i+1)
theorem mX {α:Type} (p:α→Bool):∀ (l:List α) (i:Nat),decide (0≤JE p l i)=l.any p
 | [],_=>rfl
 | x::r,i=>by
  by_cases h:p x=true
  ·simp [JE,h]
  ·simpa [JE,h] using mX p r (i+1)
end Go.Ab
namespace Go.Ab
theorem ap3 {n:Nat} (h:n≤30):decide ((30:Int)<n)=false:=decide_eq_false (by omega)
end Go.Ab
namespace Go.Ab
theorem aqX {n:Nat} (h:30<n):decide ((30:Int)<n)=true:=decide_eq_true (by omega)
end Go.Ab
namespace Go.Ab
theorem WN {n:Nat}:decide ((n:Int)≤40)=decide (n≤40):=by
 by_cases h:n≤40
 ·rw [decide_eq_true h,decide_eq_true (by omega)]
 ·rw [decide_eq_false h,decide_eq_false (by omega)]
end Go.Ab
namespace Go.Ab
section one
variable {wl e sz bytes id g len s:Nat} {H:Hp} {lv:Bool}
theorem Aw {n b:Nat} (h:n*b≤70368744177664):room n b=true:=decide_eq_true h
end one
end Go.Ab
namespace Go.Ab
theorem fE {α:Type} {l:List α} {enc:α→List V} (hp:∀ x,aW (enc x)=true):dq (l.map enc)=true:=by
 rw [dq,List.all_eq_true]
 intro r hr
 obtain ⟨x,_,rfl⟩:=List.mem_map.1 hr
 exact hp x
theorem A1 {k:IntKind} {l:List Int}:dq (l.map (av k))=true:=fE (B8 k)
theorem Ow {l:Tyt}:dq (l.map ak)=true:=fE np
theorem J2 {l:Tye}:dq (l.map az)=true:=fE rQ
theorem NV {l:List Bool}:dq (l.map fI)=true:=fE wA
end Go.Ab
namespace Go.Ab
section slices
variable {P:Program} {wl:Nat} {c:Bool} {t e:TypeId} {α:Type} {l:List α} {enc:α→List V} {k k':IntKind} {n lo:Int} {H:Hp}
theorem ER (h:∀ x,(enc x).length=aR P e):(l.map enc).all (fun r=>r.length==aR P e)=true:=by
 rw [List.all_eq_true]
 intro r hr
 obtain ⟨x,_,rfl⟩:=List.mem_map.1 hr
 simp [h]
theorem uB (he : mF P t = some e) (hz : (aR P e != 0) = true) (h : ∀ x, (enc x).length = aR P e) :
    cy P wl c t (.ro (l.map enc)) none (some (.lit (.int k n))) none H = bif decide (0 ≤ n ∧ n ≤ l.length) then some (.ro ((l.take n.toNat).map enc), H) else none := by
  have hz' : aR P e ≠ 0 := by simpa using hz
  unfold cy
  simp only [he, bnd]
  by_cases h0 : 0 ≤ n
  · simp only [h0, if_true, Option.bind_some, true_and]
    by_cases h1 : n ≤ l.length
    · have h2 : n.toNat ≤ l.length := by omega
      simp [h1, h2, hz', ER h, List.map_take]
    · have h2 : ¬ n.toNat ≤ l.length := by omega
      simp [h1, h2]
  · simp [h0]
theorem uk (he : mF P t = some e) (hz : (aR P e != 0) = true) (h : ∀ x, (enc x).length = aR P e) :
    cy P wl c t (.ro (l.map enc)) (some (.lit (.int k n))) none none H = bif decide (0 ≤ n ∧ n ≤ l.length) then some (.ro ((l.drop n.toNat).map enc), H) else none := by
  have hz' : aR P e ≠ 0 := by simpa using hz
  unfold cy
  simp only [he, bnd]
  by_cases h0 : 0 ≤ n
  · simp only [h0, if_true, Option.bind_some, true_and]
    by_cases h1 : n ≤ l.length
    · have h2 : n.toNat ≤ l.length := by omega
      simp [h1, h2, hz', ER h, List.map_drop, List.take_of_length_le]
    · have h2 : ¬ n.toNat ≤ l.length := by omega
      simp [h1, h2]
  · simp [h0]
theorem oc (he : mF P t = some e) (hz : (aR P e != 0) = true) (h : ∀ x, (enc x).length = aR P e) :
    cy P wl c t (.ro (l.map enc)) (some (.lit (.int k lo))) (some (.lit (.int k' n))) none H = bif decide (0 ≤ lo ∧ lo ≤ n ∧ n ≤ l.length) then some (.ro (((l.take n.toNat).drop lo.toNat).map enc), H) else none := by
  have hz' : aR P e ≠ 0 := by simpa using hz
  unfold cy
  simp only [he, bnd]
  by_cases h0 : 0 ≤ lo
  · by_cases h3 : 0 ≤ n
    · simp only [h0, h3, if_true, Option.bind_some, true_and]
      by_cases h1 : n ≤ l.length
      · have h2 : n.toNat ≤ l.length := by omega
        by_cases h4 : lo ≤ n
        · have h5 : lo.toNat ≤ n.toNat := by omega
          simp [h1, h2, h4, h5, hz', ER h, List.map_take, List.map_drop]
        · have h5 : ¬ lo.toNat ≤ n.toNat := by omega
          simp [h4, h5]
      · have h2 : ¬ n.toNat ≤ l.length := by omega
        simp [h1, h2]
    · have : ¬ (0 ≤ lo ∧ lo ≤ n ∧ n ≤ (l.length : Int)) := by omega
      simp [h3, this]
  · simp [h0]
end slices
end Go.Ab
namespace Go.Ab
end Go.Ab
namespace Go.Ab
def bq {α β:Type} (x:Option α) (F:α→Option β):Option β:=x.bind F
@[congr] theorem ah6 {α β:Type} {x y:Option α} {F:α→Option β} (h:x=y):bq x F=bq y F:=by rw [h]
def sif {β:Type} (c:Bool) (a b:β):β:=bif c then a else b
@[congr] theorem aeC {β:Type} {c d:Bool} {a b:β} (h:c=d):sif c a b=sif d a b:=by rw [h]
theorem ra {β:Type} {a b:β}:sif true a b=a:=rfl
theorem pm {β:Type} {a b:β}:sif false a b=b:=rfl
section
variable {α β γ:Type}
theorem ZO {a:α} {F:α→Option β}:bq (some a) F=F a:=rfl
theorem YX {F:α→Option β}:bq none F=none:=rfl
theorem aaQ {c:Bool} {x y:Option α} {F:α→Option β}:bq (bif c then x else y) F=bif c then bq x F else bq y F:=by cases c <;> rfl
theorem amb {x:Option γ} {f:γ→Option α} {F:α→Option β}:bq (ob x f) F=ob x fun a=>bq (f a) F:=by cases x <;> rfl
theorem aie {c:Bool} {x:Option α} {F:α→Option β}:bq (ck c x) F=ck c (bq x F):=by cases c <;> rfl
theorem agc {x:Option γ} {f:γ→α} {F:α→Option β}:bq (x.map f) F=ob x fun a=>F (f a):=by cases x <;> rfl
theorem Z2 {x:Option γ} {f:γ→Option α} {F:α→Option β}:bq (x.bind f) F=ob x fun a=>bq (f a) F:=by cases x <;> rfl
theorem afN {c:Bool} {x:Option α} {F:α→Option β}:bq (bif c then x else none) F=ck c (bq x F):=by cases c <;> rfl
theorem ajn {x:Option γ} {f:γ→Option α} {F:α→Option β}:bq (bq x f) F=bq x fun a=>bq (f a) F:=by cases x <;> rfl
theorem anN {x:Option γ} {f:γ→Option α} {F:α→Option β}:ob (ob x f) F=ob x fun a=>ob (f a) F:=by cases x <;> rfl
theorem aaf {c:Bool} {x y:Option α} {F:α→Option β}:ob (bif c then x else y) F=bif c then ob x F else ob y F:=by cases c <;> rfl
theorem aiL {c:Bool} {x:Option α} {F:α→Option β}:ob (ck c x) F=ck c (ob x F):=by cases c <;> rfl
theorem ahf {x:Option γ} {f:γ→α} {F:α→Option β}:ob (x.map f) F=ob x fun a=>F (f a):=by cases x <;> rfl
end
section
variable {α:Type} {H:Hp} {K:V→Hp→Res} {k:Hp→Res}
theorem amm {x:Option α} {f:α→Option V}:bm (ob x f) H K=ob x fun a=>bm (f a) H K:=by cases x <;> rfl
theorem alR {x:Option α} {f:α→Option (V×Hp)}:bp (ob x f) K=ob x fun a=>bp (f a) K:=by cases x <;> rfl
theorem ako {x:Option α} {f:α→Option Hp}:bs (ob x f) k=ob x fun a=>bs (f a) k:=by cases x <;> rfl
theorem X3 {c:Bool} {x y:Option V}:bm (bif c then x else y) H K=bif c then bm x H K else bm y H K:=by cases c <;> rfl
theorem aad {c:Bool} {x y:Option (V×Hp)}:bp (bif c then x else y) K=bif c then bp x K else bp y K:=by cases c <;> rfl
theorem aae {c:Bool} {x y:Option Hp}:bs (bif c then x else y) k=bif c then bs x k else bs y k:=by cases c <;> rfl
theorem aoo {c:Bool} {x:Option V}:bm (ck c x) H K=ck c (bm x H K):=by cases c <;> rfl
theorem aip {c:Bool} {x:Option (V×Hp)}:bp (ck c x) K=ck c (bp x K):=by cases c <;> rfl
theorem aka {c:Bool} {x:Option Hp}:bs (ck c x) k=ck c (bs x k):=by cases c <;> rfl
end
def rt (kp:Option (Nat→Bool)) (x:Res):Res:=x.bind fun p=>nE kp p.1 p.2
section rt
variable {kp:Option (Nat→Bool)} {α:Type} {h:Hp}
theorem aa6:rt kp none=none:=rfl
theorem Ir {v:V}:rt kp (some (v,h))=nE kp v h:=rfl
theorem acJ {c:Bool} {x y:Res}:rt kp (bif c then x else y)=bif c then rt kp x else rt kp y:=by cases c <;> rfl
theorem acQ {x:Option α} {f:α→Res}:rt kp (ob x f)=ob x fun a=>rt kp (f a):=by cases x <;> rfl
theorem ak2 {c:Bool} {x:Res}:rt kp (ck c x)=ck c (rt kp x):=by cases c <;> rfl
def rtN (v:V) (H:Hp):Res:=bq (fzR 0 v H) fun q=>sif q.1.pure (some (q.1,[])) (some q)
theorem H6 {v:V}:nE none v h=rtN v h:=by
 show (fzR 0 v h).bind _=(fzR 0 v h).bind _
 congr 1
 funext q
 cases hq:q.1.pure <;> simp [sif,hq]
theorem aco:nE none .nil h=some (.ro [],[]):=rfl
theorem abu {c:List V}:nE none (.agg c) h=rtN (.agg c) h:=H6
theorem acI {c:List V}:nE none (.tup c) h=rtN (.tup c) h:=H6
theorem abY {i g l:Nat}:nE none (.own i g l) h=rtN (.own i g l) h:=H6
theorem Zz {i:Nat}:nE none (.map i) h=some (.map i,h):=rfl
theorem afO {f:Fn} {a b:List V}:nE none (.fn f a b) h=rtN (.fn f a b) h:=H6
theorem aa1 {i g r o:Nat}:nE none (.ptr i g r o) h=some (.ptr i g r o,h):=rfl
end rt
section fz
variable {wl:Nat} {H:Hp} {nl:Bool}
theorem Zj {vs:List V}:fzR wl (.tup vs) H=bq (nX wl vs H) fun p=>some (.tup p.1,p.2):=rfl
theorem Y2 {v:Value}:fzR wl (.lit v) H=some (.lit v,H):=rfl
theorem ae2 {r:List (List V)}:fzR wl (.ro r) H=some (.ro r,H):=rfl
theorem Yb:fzR wl .nil H=some (.ro [],H):=rfl
theorem agF {f:Fn} {a b:List V}:fzR wl (.fn f a b) H=some (.fn f a b,H):=rfl
theorem abv {i g r o:Nat}:fzR wl (.ptr i g r o) H=some (.ptr i g r o,H):=rfl
theorem Yw {i:Nat}:fzR wl (.map i) H=some (.map i,H):=rfl
theorem YB {i g l:Nat}:fzR wl (.own i g l) H=fzB wl i g l H (H[i]?):=wH
theorem aag {c:List V}:fzR wl (.agg c) H=bq (fzL wl true c H) fun p=>some (.agg p.1,p.2):=rfl
theorem Pt:nX wl [] H=some ([],H):=rfl
theorem Pb {v:Value} {vs:List V}:nX wl (.lit v::vs) H=bq (nX wl vs H) fun q=>some (.lit v::q.1,q.2):=rfl
theorem UK {r:List (List V)} {vs:List V}:nX wl (.ro r::vs) H=bq (nX wl vs H) fun q=>some (.ro r::q.1,q.2):=rfl
theorem OC {vs:List V}:nX wl (.nil::vs) H=bq (nX wl vs H) fun q=>some (.ro []::q.1,q.2):=rfl
theorem U2 {f:Fn} {a b vs:List V}:nX wl (.fn f a b::vs) H=bq (nX wl vs H) fun q=>some (.fn f a b::q.1,q.2):=rfl
theorem Rb {i g l:Nat} {vs:List V}:nX wl (.own i g l::vs) H=bq (fzB wl i g l H (H[i]?)) fun p=>bq (nX wl vs p.2) fun q=>some (p.1::q.1,q.2):=by
 show (fzC wl (.own i g l) H).bind _=_
 rw [wH]
 rfl
theorem QC {c vs:List V}:nX wl (.agg c::vs) H=bq (fzL wl true c H) fun p=>bq (nX wl vs p.2) fun q=>some (.agg p.1::q.1,q.2):=by
 show ((fzL wl true c H).bind _).bind _=_
 cases fzL wl true c H <;> rfl
theorem Vo:fzL wl nl [] H=some ([],H):=rfl
theorem Vw {v:Value} {vs:List V}:fzL wl nl (.lit v::vs) H=bq (fzL wl nl vs H) fun q=>some (.lit v::q.1,q.2):=rfl
theorem aaA {r:List (List V)} {vs:List V}:fzL wl nl (.ro r::vs) H=bq (fzL wl nl vs H) fun q=>some (.ro r::q.1,q.2):=rfl
theorem O0 {vs:List V}:fzL wl true (.nil::vs) H=bq (fzL wl true vs H) fun q=>some (.ro []::q.1,q.2):=rfl
theorem Yu {f:Fn} {a b vs:List V}:fzL wl nl (.fn f a b::vs) H=bq (fzL wl nl vs H) fun q=>some (.fn f a b::q.1,q.2):=rfl
theorem TC {i g r o:Nat} {vs:List V}:fzL wl nl (.ptr i g r o::vs) H=bq (fzL wl nl vs H) fun q=>some (.ptr i g r o::q.1,q.2):=rfl
theorem Tj {i g l:Nat} {vs:List V}:fzL wl nl (.own i g l::vs) H=bq (fzB wl i g l H (H[i]?)) fun p=>bq (fzL wl nl vs p.2) fun q=>some (p.1::q.1,q.2):=by
 show (fzC wl (.own i g l) H).bind _=_
 rw [wH]
 rfl
theorem SL:oN wl [] H=some ([],H):=rfl
theorem Vl {v:Value} {vs:List V}:oN wl (.lit v::vs) H=bq (oN wl vs H) fun q=>some (.lit v::q.1,q.2):=rfl
theorem abX {r:List (List V)} {vs:List V}:oN wl (.ro r::vs) H=bq (oN wl vs H) fun q=>some (.ro r::q.1,q.2):=rfl
theorem Qm {vs:List V}:oN wl (.nil::vs) H=bq (oN wl vs H) fun q=>some (.nil::q.1,q.2):=rfl
theorem aa3 {f:Fn} {a b vs:List V}:oN wl (.fn f a b::vs) H=bq (oN wl vs H) fun q=>some (.fn f a b::q.1,q.2):=rfl
theorem VL {i:Nat} {vs:List V}:oN wl (.yld i::vs) H=bq (oN wl vs H) fun q=>some (.yld i::q.1,q.2):=rfl
theorem T9 {i:Nat} {vs:List V}:oN wl (.map i::vs) H=bq (oN wl vs H) fun q=>some (.map i::q.1,q.2):=rfl
theorem Uc {i g r o:Nat} {vs:List V}:oN wl (.ptr i g r o::vs) H=bq (oN wl vs H) fun q=>some (.ptr i g r o::q.1,q.2):=rfl
theorem TG {i g l:Nat} {vs:List V}:oN wl (.own i g l::vs) H=bq (fzB wl i g l H (H[i]?)) fun p=>bq (oN wl vs p.2) fun q=>some (p.1::q.1,q.2):=by
 show (fzC wl (.own i g l) H).bind _=_
 rw [wH]
 rfl
theorem U1 {c vs:List V}:oN wl (.agg c::vs) H=bq (fzL wl true c H) fun p=>bq (oN wl vs p.2) fun q=>some (.agg p.1::q.1,q.2):=by
 show ((fzL wl true c H).bind _).bind _=_
 cases fzL wl true c H <;> rfl
theorem aqG {i g len e g':Nat} {rs:List (List V)} {lv:Bool}:fzB wl i g len H (some (.rows e rs g' lv))=sif (g==g'&&(dq rs&&Nat.ble wl i)) (ck (decide (len≤rs.length)) (some (.ro (rs.take len),H.set i (.rows e rs g' false)))) none:=by
 show (bif g==g'&&decide (len≤rs.length)&&(dq rs&&Nat.ble wl i) then _ else _)=_
 generalize (g==g')=a
 generalize decide (len≤rs.length)=b
 generalize (dq rs&&Nat.ble wl i)=c
 cases a <;> cases b <;> cases c <;> rfl
end fz
theorem UL {α:Type} {l:List α} {n:Nat} (h:l.length=n):l.take n=l:=List.take_of_length_le (by omega)
theorem Q4:dq []=true:=rfl
theorem N4 {r:List V} {rs:List (List V)}:dq (r::rs)=(aW r&&dq rs):=rfl
def Ku (n:Nat):Hp→Hp
 | []=>[]
 | b::H=>b.kill n::Ku n H
def Ac (n:Nat):Hp→Hp
 | []=>[]
 | b::H=>b.shift n::Ac n H
theorem Lg {n:Nat}:∀ {H:Hp},H.map (B.kill n)=Ku n H
 | []=>rfl
 | b::H=>by simp [Ku,Lg (H:=H)]
theorem CM {n:Nat}:∀ {H:Hp},H.map (B.shift n)=Ac n H
 | []=>rfl
 | b::H=>by simp [Ac,CM (H:=H)]
theorem acv {n:Nat} {H:Hp}:pX n H=Ku n (H.take n):=Lg
theorem Pn {n:Nat}:Ku n []=[]:=rfl
theorem MI {n:Nat} {b:B} {H:Hp}:Ku n (b::H)=b.kill n::Ku n H:=rfl
theorem On {n:Nat}:Ac n []=[]:=rfl
theorem I1 {n:Nat} {b:B} {H:Hp}:Ac n (b::H)=b.shift n::Ac n H:=rfl
theorem Jd {n:Nat} {st:LoopState} {pe:Option Code} {f:FuncId} {ts:List V} {ps:List Tmp} {a b:Code}:B.kill n (.loop ⟨st,pe,f,ts,ps,a,b⟩) = .loop ⟨st,pe,f,eZ n ts,ps,a,b⟩:=rfl
def nsh (H:Hp) (v:V) (H2:Hp):Res:=sif (decide (H.length≤H2.length)) (some (v,H2)) none
theorem Xv {H H2:Hp} {v:V}:dD H (v,H2)=nsh H v H2:=by
 unfold dD nsh sif
 by_cases h:H.length≤H2.length
 ·simp [h]
 ·simp [h]
theorem ao5 {n m:Nat}:Nat.ble n m=decide (n≤m):=by
 have h:(Nat.ble n m=true)=(n≤m):=Nat.ble_eq
 cases hb:Nat.ble n m with
 | true=>
  rw [hb] at h
  exact (decide_eq_true (h.mp rfl)).symm
 | false=>
  rw [hb] at h
  exact (decide_eq_false (fun e=>Bool.noConfusion (h.mpr e))).symm
theorem Gb {H:Hp} {c:Bool} {x y:V×Hp}:dD H (sif c x y)=sif c (dD H x) (dD H y):=by cases c <;> rfl
def ldQ (H H':Hp) (q:V×Hp):Res:=dD H (q.1.shift H'.length,bif (q.1.shift H'.length).scal then H else H'++q.2.map (B.shift H'.length))
theorem Xg {H H':Hp} {v:V} {h:Hp}:ldQ H H' (v,h)=nsh H (v.shift H'.length) (sif (v.shift H'.length).scal H (H'++Ac H'.length h)):=by
 unfold ldQ
 rw [Xv,CM]
 rfl
theorem abD {H H':Hp} {v:Value} {h:Hp}:ldQ H H' (.lit v,h)=some (.lit v,H):=by
 rw [Xg]
 simp [nsh,sif,V.shift,V.scal]
def ldP (H:Hp) (q:V×Hp):Res:=some (q.1.shift H.length,H++q.2.map (B.shift H.length))
theorem agA {H:Hp} {v:V} {h:Hp}:ldP H (v,h)=some (v.shift H.length,H++Ac H.length h):=by
 unfold ldP
 rw [CM]
theorem CV {cx:Cx} {g:FuncId} {args:List V} {H:Hp}:lN cx g args H=bq (rU cx g args) (ldP H):=by
 unfold lN rU bq ldP
 cases h:cx.call 0 g args [] with
 | none=>rfl
 | some p=>rfl
theorem QF {cx:Cx} {o:Bool} {g:FuncId} {first caps args:List V} {H:Hp} :
  nZ cx false o (.fn (.func g) first caps) args H=bq (sif (cx.M.keepArg g) (some (first++args++caps,H)) (oN cx.wl (first++args++caps) H)) fun a=>
   sif (aW a.1) (bq (rU cx g a.1) (ldQ H a.2))
    (bq (cx.call cx.wl g a.1 a.2) fun p=>bq (sif (cx.M.keepRes cx.fid g).isSome (some p) (fzR cx.wl p.1 p.2)) fun q=>dD H (sif q.1.pure (q.1,pX a.2.length q.2) q)):=by
 unfold nZ FF
 simp only [Bool.false_eq_true,if_false]
 have e1:(if cx.M.keepArg g=true then some (first++args++caps,H) else oN cx.wl (first++args++caps) H)=sif (cx.M.keepArg g) (some (first++args++caps,H)) (oN cx.wl (first++args++caps) H):=by
  cases cx.M.keepArg g <;> rfl
 rw [e1]
 unfold bq
 cases sif (cx.M.keepArg g) (some (first++args++caps,H)) (oN cx.wl (first++args++caps) H) with
 | none=>rfl
 | some a=>
  simp only [Option.bind_some]
  cases hp:aW a.1 with
  | true=>
   simp only [if_true,ra,CV]
   unfold bq
   cases rU cx g a.1 <;> rfl
  | false=>
   simp only [Bool.false_eq_true,if_false,pm]
   cases cx.call cx.wl g a.1 a.2 with
   | none=>rfl
   | some p=>
    simp only [Option.bind_some]
    have e2:(if (cx.M.keepRes cx.fid g).isSome=true then some p else fzR cx.wl p.1 p.2)=sif (cx.M.keepRes cx.fid g).isSome (some p) (fzR cx.wl p.1 p.2):=by
     cases (cx.M.keepRes cx.fid g).isSome <;> rfl
    rw [e2]
    cases sif (cx.M.keepRes cx.fid g).isSome (some p) (fzR cx.wl p.1 p.2) with
    | none=>rfl
    | some q=>
     simp only [Option.bind_some]
     cases hq:q.1.pure <;> simp [sif]
theorem Ng {cx:Cx} {g:FuncId} {first caps args:List V} {H:Hp} :
  nZ cx true true (.fn (.func g) first caps) args H =
   sif (aW (first++args++caps)) (bq (rU cx g (first++args++caps)) (ldP H)) (sif (cx.M.keepArg g) none (bq (oN cx.wl (first++args++caps) H) fun a=>
    sif (aW a.1) (bq (rU cx g a.1) fun q=>bq (ldP a.2 q) fun q=>some (q.1,sif q.1.scal H q.2)) (bq (cx.call a.2.length g a.1 a.2) fun p=>sif p.1.scal (some (p.1,H)) none))):=by
 unfold nZ lK
 simp only [if_true,CV]
 cases aW (first++args++caps) with
 | true=>rfl
 | false=>
  simp only [Bool.false_eq_true,if_false,pm]
  cases cx.M.keepArg g with
  | true=>rfl
  | false=>
   simp only [Bool.false_eq_true,if_false,pm]
   unfold bq
   cases oN cx.wl (first++args++caps) H with
   | none=>rfl
   | some a=>
    simp only [Option.bind_some]
    cases aW a.1 with
    | true=>
     simp only [if_true,ra]
     cases rU cx g a.1 <;> rfl
    | false=>
     simp only [Bool.false_eq_true,if_false,pm]
     cases cx.call a.2.length g a.1 a.2 with
     | none=>rfl
     | some p=>
      simp only [Option.bind_some]
      cases hs:p.1.scal <;> simp [sif]
theorem Np {cx:Cx} {g:FuncId} {first caps args:List V} {H:Hp} :
  nZ cx true false (.fn (.func g) first caps) args H=sif (aW (first++args++caps)) (bq (bq (cx.call 0 g (first++args++caps) []) fun p=>nE none p.1 p.2) fun q=>sif q.1.pure (some (q.1,H)) none) none:=by
 unfold nZ lK
 simp only [if_true,Bool.false_eq_true,if_false]
 cases aW (first++args++caps) with
 | false=>rfl
 | true=>
  simp only [if_true,ra]
  unfold bq
  cases cx.call 0 g (first++args++caps) [] with
  | none=>rfl
  | some p=>
   simp only [Option.bind_some,H6]
   unfold rtN bq
   cases fzR 0 p.1 p.2 with
   | none=>rfl
   | some q=>
    simp only [Option.bind_some]
    cases hq:q.1.pure <;> simp [sif,hq]
section rounds
variable {P:Program} {M:Mode}
def yB (P:Program) (M:Mode) (k wl id:Nat) (args:List V) (H:Hp):Option B→Res
 | some (.loop l)=>Hn { P,M,fid:=l.fn,round:=true,wl,call:=evF P M k,yld:=evY P M k,n:=k } id l args H
 | _=>none
theorem aaS {k wl id:Nat} {args:List V} {H:Hp}:evY P M (k+1) wl id args H=yB P M k wl id args H (H[id]?):=by
 unfold yB
 simp only [evY]
 generalize H[id]? = b
 cases b with
 | none=>rfl
 | some b=>cases b <;> rfl
theorem UI {k wl id:Nat} {args:List V} {H:Hp} {pe:Option Code} {f:FuncId} {ts:List V} {ps:List Tmp} {a b:Code} :
  yB P M k wl id args H (some (.loop ⟨.ready,pe,f,ts,ps,a,b⟩))=sif (decide (args.length=ps.length)&&Nat.ble wl id)
   (bF { P,M,fid:=f,round:=true,wl,call:=evF P M k,yld:=evY P M k,n:=k } (asK { P,M,fid:=f,round:=true,wl,call:=evF P M k,yld:=evY P M k,n:=k } id H.length b) [.seq a] .norm ⟨fe ts ps args,H⟩) none:=by
 unfold yB Hn
 by_cases h:args.length=ps.length
 ·cases hw:Nat.ble wl id with
  | true=>
   simp only [h,hw,and_self,if_true,decide_true,Bool.and_self,ra]
   show be _ a none _ _=be _ a none (bF _ _ []) _
   congr 1
  | false=>simp [hw,sif]
 ·simp [h,sif]
def asB (cx:Cx) (id n:Nat) (body:Code) (env:List V) (H:Hp):Option B→Res
 | some (.loop l)=>if l.st = .ready then bF cx (bdK id n) [.seq body] .norm ⟨env,H.set id (.loop { l with st := .busy })⟩ else none
 | _=>none
theorem YV {cx:Cx} {id n:Nat} {body:Code} {env:List V} {H:Hp}:asK cx id n body .norm ⟨env,H⟩=asB cx id n body env H (H[id]?):=by
 unfold asK asB
 rfl
theorem Pu {cx:Cx} {id n:Nat} {body:Code} {env:List V} {H:Hp} {pe:Option Code} {f:FuncId} {ts:List V} {ps:List Tmp} {a b:Code} :
  asB cx id n body env H (some (.loop ⟨.ready,pe,f,ts,ps,a,b⟩))=bF cx (bdK id n) [.seq body] .norm ⟨env,H.set id (.loop ⟨.busy,pe,f,ts,ps,a,b⟩)⟩:=rfl
def bdB (id n:Nat) (o:Out) (H:Hp):Option B→Res
 | some (.loop l)=>some (.lit (.bool (ed o).isNone),pX n (H.set id (.loop { l with st:=if (ed o).isNone then .ready else .done,pending:=ed o })))
 | _=>none
theorem aar {id n:Nat} {o:Out} {env:List V} {H:Hp}:bdK id n o ⟨env,H⟩=bdB id n o H (H[id]?):=by
 unfold bdK bdB
 rfl
section
variable {id n:Nat} {H:Hp} {st:LoopState} {pe:Option Code} {f:FuncId} {ts:List V} {ps:List Tmp} {a b:Code}
theorem Vd:bdB id n .norm H (some (.loop ⟨st,pe,f,ts,ps,a,b⟩))=some (.lit (.bool true),pX n (H.set id (.loop ⟨.ready,none,f,ts,ps,a,b⟩))):=rfl
theorem Ys:bdB id n .ret H (some (.loop ⟨st,pe,f,ts,ps,a,b⟩))=some (.lit (.bool false),pX n (H.set id (.loop ⟨.done,some .ret,f,ts,ps,a,b⟩))):=rfl
theorem Sz {i:Nat}:bdB id n (.exit i) H (some (.loop ⟨st,pe,f,ts,ps,a,b⟩))=some (.lit (.bool false),pX n (H.set id (.loop ⟨.done,some (.exit i),f,ts,ps,a,b⟩))):=rfl
theorem VI {i:Nat}:bdB id n (.goto i) H (some (.loop ⟨st,pe,f,ts,ps,a,b⟩))=some (.lit (.bool false),pX n (H.set id (.loop ⟨.done,some (.goto i),f,ts,ps,a,b⟩))):=rfl
def rfB (K:Out→St→Res) (env:List V) (H:Hp):Option B→Res
 | some (.loop l)=>if l.st = .busy then none else
  match l.pending with
  | none=>K .norm ⟨env,H⟩
  | some .ret=>K .ret ⟨env,H⟩
  | some (.exit id)=>K (.exit id) ⟨env,H⟩
  | some (.goto id)=>K (.goto id) ⟨env,H⟩
  | some _=>none
 | _=>none
theorem XQ {K:Out→St→Res} {env:List V} {v:V} {h:Hp}:rfK K env n (v,h)=rfB K env (pX n h) (h[n]?):=by
 unfold rfK rfB
 rfl
theorem Vp {K:Out→St→Res} {env:List V}:rfB K env H (some (.loop ⟨.ready,none,f,ts,ps,a,b⟩))=K .norm ⟨env,H⟩:=rfl
theorem R6 {K:Out→St→Res} {env:List V}:rfB K env H (some (.loop ⟨.done,none,f,ts,ps,a,b⟩))=K .norm ⟨env,H⟩:=rfl
theorem Y4 {K:Out→St→Res} {env:List V}:rfB K env H (some (.loop ⟨.done,some .ret,f,ts,ps,a,b⟩))=K .ret ⟨env,H⟩:=rfl
theorem V0 {K:Out→St→Res} {env:List V} {i:Nat}:rfB K env H (some (.loop ⟨.done,some (.exit i),f,ts,ps,a,b⟩))=K (.exit i) ⟨env,H⟩:=rfl
theorem Wl {K:Out→St→Res} {env:List V} {i:Nat}:rfB K env H (some (.loop ⟨.done,some (.goto i),f,ts,ps,a,b⟩))=K (.goto i) ⟨env,H⟩:=rfl
end
def rgC (cx:Cx) (ps:List Tmp) (a b:Code) (K:Out→St→Res) (env:List V) (H:Hp):V→Res
 | .fn (.func g) [] caps=>bq (cx.call cx.wl g (.yld H.length::caps) (H++[.loop ⟨.ready,none,cx.fid,env,ps,a,b⟩])) (rfK K env H.length)
 | _=>none
theorem adB {cx:Cx} {ps:List Tmp} {a b:Code} {K:Out→St→Res} {env:List V} {H:Hp} {g:FuncId} {caps:List V} :
  rgC cx ps a b K env H (.fn (.func g) [] caps)=bq (cx.call cx.wl g (.yld H.length::caps) (H++[.loop ⟨.ready,none,cx.fid,env,ps,a,b⟩])) (rfK K env H.length):=rfl
theorem VG {cx:Cx} {f:Operand} {ps:Array Tmp} {a b:Code} {K:Out→St→Res} {env:List V} {H:Hp} (hr:cx.round=false) :
  be cx (.rangeFunc f ps a b) none K ⟨env,H⟩=sif (Nat.ble cx.wl H.length) (bq (evO env f) (rgC cx ps.toList a b K env H)) none:=by
 simp only [be,hr,Bool.false_or]
 cases hw:Nat.ble cx.wl H.length with
 | false=>rfl
 | true=>
  simp only [Bool.not_true,Bool.false_eq_true,if_false,ra]
  cases hf:evO env f with
  | none=>rfl
  | some v=>
   simp only [bq,Option.bind_some]
   cases v with
   | fn f first caps=>
    cases f with
    | func g=>
     cases first with
     | nil=>
      simp only [rgC]
      unfold bq
      congr 1
     | cons=>rfl
    | _=>rfl
   | _=>rfl
end rounds
end Go.Ab
namespace Go.Ab
def uc:List V→List (Nat×Nat×V)→Option (List V)
 | cells,[]=>some cells
 | cells,(off,size,v)::rest=>
  match v.cells with
  | some vs=>if vs.length=size∧off+vs.length≤cells.length then uc (spl cells off vs) rest else none
  | none=>none
theorem Uh {cells:List V}:uc cells []=some cells:=rfl
theorem Qw {cells:List V} {off size:Nat} {v:V} {rest:List (Nat×Nat×V)}:uc cells ((off,size,v)::rest)=bq v.cells fun vs=>sif (decide (vs.length=size∧off+vs.length≤cells.length)) (uc (spl cells off vs) rest) none:=by
 simp only [uc]
 cases v.cells with
 | none=>rfl
 | some vs=>
  simp only [bq,Option.bind_some]
  by_cases h:vs.length=size∧off+vs.length≤cells.length
  ·rw [if_pos h,decide_eq_true h];rfl
  ·rw [if_neg h,decide_eq_false h];rfl
theorem Q0 {wl size:Nat} {rs:List (List V)} {H:Hp}:gf wl size [] rs H=some (rs,H):=rfl
theorem Of {wl size i:Nat} {v:V} {rest:List (Nat×V)} {rs:List (List V)} {H:Hp}:gf wl size ((i,v)::rest) rs H=bq v.cells fun vs=>bq (fzL wl true vs H) fun p=>sif (decide (i<rs.length∧p.1.length=size)) (gf wl size rest (rs.set i p.1) p.2) none:=by
 simp only [gf]
 cases v.cells with
 | none=>rfl
 | some vs=>
  simp only [bq,Option.bind_some]
  cases fzL wl true vs H with
  | none=>rfl
  | some p=>
   simp only [Option.bind_some]
   by_cases h:i<rs.length∧p.1.length=size
   ·rw [if_pos h,decide_eq_true h];rfl
   ·rw [if_neg h,decide_eq_false h];rfl
theorem Qz {x y:Int}:wv (.int .i64 x) (.int .i64 y)=(x==y):=rfl
theorem Oe {k:Value} {v:V}:lJ k v []=[(k,v)]:=rfl
theorem JO {k:Value} {v:V} {e:Value×V} {es:List (Value×V)}:lJ k v (e::es)=sif (wv k e.1) ((k,v)::es) (e::lJ k v es):=by
 simp only [lJ]
 cases wv k e.1 <;> rfl
def Si (kk:IntKind):List (Value×V)→Bool
 | []=>true
 | e::es=>li kk e.1&&Si kk es
theorem TW {kk:IntKind}:Si kk []=true:=rfl
theorem Rw {kk:IntKind} {e:Value×V} {es:List (Value×V)}:Si kk (e::es)=(li kk e.1&&Si kk es):=rfl
theorem Jg {x:Int}:li .i64 (.int .i64 x)=true:=rfl
def inB (wl:Nat) (kk:IntKind) (id:Nat) (n:Int) (v:V) (H:Hp):Option B→Option Hp
 | some (.map es)=>if es.all (fun e=>li kk e.1)&&true&&Nat.ble wl id then some (H.set id (.map (lJ (.int kk n) v es))) else none
 | _=>none
theorem acG {kk:IntKind}:∀ {es:List (Value×V)},es.all (fun e=>li kk e.1)=Si kk es
 | []=>rfl
 | e::es=>by simp [Si,acG (es:=es)]
theorem ZG {wl id:Nat} {kk:IntKind} {n:Int} {v:V} {H:Hp} {es:List (Value×V)}:inB wl kk id n v H (some (.map es))=sif (Si kk es&&Nat.ble wl id) (some (H.set id (.map (lJ (.int kk n) v es)))) none:=by
 simp only [inB,acG,Bool.and_true]
 cases Si kk es&&Nat.ble wl id <;> rfl
def lkB (kk:IntKind) (z:V) (ok:Bool) (n:Int):Option B→Option V
 | some (.map es)=>if es.all (fun e=>li kk e.1)&&true then some (bif ok then .tup [(lH (.int kk n) z es).1,.lit (.bool (lH (.int kk n) z es).2)] else (lH (.int kk n) z es).1) else none
 | _=>none
def lkO (kk:IntKind) (z:V) (ok:Bool) (n:Int):List (Value×V)→Option V
 | []=>some (sif ok (.tup [z,.lit (.bool false)]) z)
 | e::es=>bif wv (.int kk n) e.1 then some (sif ok (.tup [e.2,.lit (.bool true)]) e.2) else lkO kk z ok n es
theorem WW {kk:IntKind} {z:V} {ok:Bool} {n:Int}:∀ {es:List (Value×V)},some (bif ok then V.tup [(lH (.int kk n) z es).1,.lit (.bool (lH (.int kk n) z es).2)] else (lH (.int kk n) z es).1)=lkO kk z ok n es
 | []=>by cases ok <;> rfl
 | e::es=>by
  simp only [lH,lkO]
  cases wv (.int kk n) e.1 with
  | true=>cases ok <;> rfl
  | false=>exact WW (es:=es)
theorem Zf {kk:IntKind} {z:V} {ok:Bool} {n:Int} {es:List (Value×V)}:lkB kk z ok n (some (.map es))=sif (Si kk es) (lkO kk z ok n es) none:=by
 simp only [lkB,acG,Bool.and_true,WW]
 cases Si kk es <;> rfl
theorem abH {kk:IntKind} {z:V} {ok:Bool} {n:Int}:lkO kk z ok n []=some (sif ok (.tup [z,.lit (.bool false)]) z):=rfl
theorem Wj {kk:IntKind} {z:V} {ok:Bool} {n:Int} {e:Value×V} {es:List (Value×V)}:lkO kk z ok n (e::es)=bif wv (.int kk n) e.1 then some (sif ok (.tup [e.2,.lit (.bool true)]) e.2) else lkO kk z ok n es:=rfl
def agO:Int→List V→Int→Option V
 | _,[],_=>none
 | i,c::cs,n=>bif n==i then some c else agO (i+1) cs n
theorem XU {i n:Int}:agO i [] n=none:=rfl
theorem V5 {i n:Int} {c:V} {cs:List V}:agO i (c::cs) n=bif n==i then some c else agO (i+1) cs n:=rfl
theorem Rq {p:Bool} {k:IntKind} {a b:Int}:EY (.lit (.bool p)) (.lit (.int k a)) (.lit (.int k b))=some (.lit (.int k (bif p then a else b))):=by cases p <;> rfl
theorem OH {p a b:Bool}:EY (.lit (.bool p)) (.lit (.bool a)) (.lit (.bool b))=some (.lit (.bool (bif p then a else b))):=by cases p <;> rfl
theorem Wq {k:IntKind} {a b:Int}:lx true [.lit (.int k a),.lit (.int k b)]=some (.lit (.int k (bif decide (a<b) then b else a))):=by
 simp only [lx,if_true,cond_true,gt_iff_lt]
 by_cases h:a<b <;> simp [h]
theorem Uq {k:IntKind} {a b:Int}:lx false [.lit (.int k a),.lit (.int k b)]=some (.lit (.int k (bif decide (b<a) then b else a))):=by
 simp only [lx,if_true,cond_false]
 by_cases h:b<a <;> simp [h]
theorem Ny {k:IntKind} {a:Int}:[[V.lit (.int k a)]]=[a].map (av k):=rfl
theorem Iv {k:IntKind} {a b:Int}:[[V.lit (.int k a)],[V.lit (.int k b)]]=[a,b].map (av k):=rfl
theorem Ig {a b c:Int}:[[V.lit (.int .i64 a),.lit (.int .i64 b),.lit (.int .i64 c)]]=[(a,b,c)].map az:=rfl
def Uy (k:IntKind) (a b:Int):Int:=k.wrap (a*2 ^ (min b.toNat k.bits))
def XE (k:IntKind) (a b:Int):Int:=a.fdiv (2 ^ (min b.toNat k.bits))
def AP (k:IntKind) (a b:Int):Int:=k.wrap (BitVec.ofInt k.bits a &&& BitVec.ofInt k.bits b).toNat
def orI (k:IntKind) (a b:Int):Int:=k.wrap (BitVec.ofInt k.bits a ||| BitVec.ofInt k.bits b).toNat
section
variable {P:Program} {t:TypeId} {k k':IntKind} {a b:Int}
theorem Tp:kZ P .shl t (.lit (.int k a)) (.lit (.int k' b))=bif decide (0≤b) then some (.lit (.int k (Uy k a b))) else none:=by
 by_cases h:b<0
 ·have:¬ 0≤b:=by omega
  simp [kZ,fp,h,this]
 ·have h2:0≤b:=by omega
  simp [kZ,fp,h,h2,Uy]
theorem VK:kZ P .shr t (.lit (.int k a)) (.lit (.int k' b))=bif decide (0≤b) then some (.lit (.int k (XE k a b))) else none:=by
 by_cases h:b<0
 ·have:¬ 0≤b:=by omega
  simp [kZ,fp,h,this]
 ·have h2:0≤b:=by omega
  simp [kZ,fp,h,h2,XE]
theorem TT:kZ P .and t (.lit (.int k a)) (.lit (.int k b))=some (.lit (.int k (AP k a b))):=by simp [kZ,fp,AP]
theorem abi:kZ P .or t (.lit (.int k a)) (.lit (.int k b))=some (.lit (.int k (orI k a b))):=by simp [kZ,fp,orI]
end
end Go.Ab
namespace Go.Ab
theorem aqL {g len e g':Nat} {rs:List (List V)} {lv:Bool}:roB g len (some (.rows e rs g' lv))=sif (g==g') (ck (decide (len≤rs.length)) (some (rs.take len))) none:=by
 show (bif g==g'&&decide (len≤rs.length) then _ else _)=_
 generalize (g==g')=a
 generalize decide (len≤rs.length)=b
 cases a <;> cases b <;> rfl
theorem Tw {f:Fn} {a b:List V} {H:Hp}:mc (.fn f a b) H=some (.ptr H.length 0 0 0,H++[.box [.fn f a b]]):=by simp [mc,V.cells,V.one,bG]
theorem QW {i g n:Nat} {H:Hp}:mc (.own i g n) H=some (.ptr H.length 0 0 0,H++[.box [.own i g n]]):=by simp [mc,V.cells,V.one,bG]
theorem Rr {i g r o:Nat} {H:Hp}:mc (.ptr i g r o) H=some (.ptr H.length 0 0 0,H++[.box [.ptr i g r o]]):=by simp [mc,V.cells,V.one,bG]
theorem aat {k:IntKind} {l:List Int}:cr 1 (l.map (av k))=true:=fj fun _=>rfl
theorem Us {l:List Bool}:cr 1 (l.map fI)=true:=fj fun _=>rfl
theorem Un {l:Tyt}:cr 2 (l.map ak)=true:=fj fun _=>rfl
theorem Qr {l:Tye}:cr 3 (l.map az)=true:=fj fun _=>rfl
theorem NT {n:Nat}:cr n []=true:=rfl
theorem ace {wl e sz bytes id g:Nat} {xs:List (List V)} {H:Hp} {lv:Bool} :
  apB wl e sz bytes id g 0 xs H (some (.rows 0 [] g lv))=sif (Nat.ble wl id) (bif room xs.length bytes then some (.own id (g+1) xs.length,H.set id (.rows sz xs (g+1) lv)) else none) none:=by
 cases hb:Nat.ble wl id <;> cases lv <;> simp [apB,hb,sif,room]
theorem OP {α:Type} {wl e sz bytes id g len s:Nat} {l m:List α} {enc:α→List V} {H:Hp} :
  apB wl e sz bytes id g len (m.map enc) H (some (.rows s (l.map enc) g true)) =
   sif (Nat.ble wl id) (ck (decide (len≤l.length)) (ck (s==sz||s==0) (bif room (l.take len++m).length bytes then some (.own id (g+1) (l.take len++m).length,H.set id (.rows sz ((l.take len++m).map enc) (g+1) true)) else none))) none:=by
 by_cases h:len≤l.length
 ·have h1:(l.take len++m).length=len+m.length:=by simp [h]
  rw [decide_eq_true h,h1]
  simp only [apB,bC,List.length_map,beq_self_eq_true,Bool.and_true,Bool.true_or,decide_eq_true h,room,List.map_append,List.map_take]
  cases Nat.ble wl id <;> cases (s==sz||s==0) <;> simp [sif,ck]
 ·rw [decide_eq_false h,AL]
  simp [apB,decide_eq_false h,sif]
theorem Py {α:Type} {l:List α} {enc:α→List V} {n:Nat}:(l.map enc).take n=(l.take n).map enc:=by rw [List.map_take]
theorem M5 {l:Tye} {i:Nat} {a b c:Int}:(l.map az).set i [.lit (.int .i64 a),.lit (.int .i64 b),.lit (.int .i64 c)]=(l.set i (a,b,c)).map az:=by rw [List.map_set];rfl
theorem P7 {l:Tyt} {i:Nat} {a:Int} {b:List Int}:(l.map ak).set i [.lit (.int .i64 a),.ro (b.map (av .i64))]=(l.set i (a,b)).map ak:=by rw [List.map_set];rfl
theorem Ov {l:Tyt} {i:Nat} {a:Int}:(l.map ak).set i [.lit (.int .i64 a),.ro []]=(l.set i (a,[])).map ak:=by rw [List.map_set];rfl
theorem IA {a:Int} {b:List Int}:[[V.lit (.int .i64 a),.ro (b.map (av .i64))]]=[(a,b)].map ak:=rfl
theorem GP {a:Int}:[[V.lit (.int .i64 a),.ro []]]=[(a,[])].map ak:=rfl
def slB (g len id:Nat) (n:Int) (H:Hp):Option B→Option (V×Hp)
 | some (.rows _ _ g' _)=>if 0≤n then (if n.toNat≤len∧g=g' then some (.own id g n.toNat,H) else none) else none
 | _=>none
theorem TF {g len id e g':Nat} {n:Int} {H:Hp} {rs:List (List V)} {lv:Bool}:slB g len id n H (some (.rows e rs g' lv))=sif (g==g') (ck (decide (0≤n∧n.toNat≤len)) (some (.own id g n.toNat,H))) none:=by
 unfold slB sif ck
 by_cases h0:0≤n
 ·by_cases h1:n.toNat≤len
  ·by_cases h2:g=g'
   ·simp [h0,h1,h2]
   ·simp [h0,h1,h2,beq_false_of_ne h2]
  ·simp [h0,h1]
 ·simp [h0]
theorem pA {P : Program} {wl : Nat} {c : Bool} {t e : TypeId} {id g len : Nat} {k : IntKind} {n : Int} {H : Hp} (he : mF P t = some e) (hz : (aR P e != 0) = true) :
    cy P wl c t (.own id g len) none (some (.lit (.int k n))) none H = slB g len id n H (H[id]?) := by
  have hz' : aR P e ≠ 0 := by simpa using hz
  unfold cy slB
  simp only [he, bnd]
  by_cases h0 : 0 ≤ n
  · simp only [h0, if_true, Option.bind_some]
    generalize H[id]? = b
    cases b with
    | none => rfl
    | some b => cases b <;> simp [hz']
  · simp only [h0, if_false, Option.bind_none]
    generalize H[id]? = b
    cases b with
    | none => rfl
    | some b => cases b <;> rfl
end Go.Ab
namespace Go.Ab
end Go.Ab
namespace Go.Ab
theorem YT {env:List V} {t:Nat}:evO env (.tmp t)=env[t]? := rfl
theorem TY {env:List V} {f:Nat}:evO env (.func f)=some (.fn (.func f) [] []):=rfl
theorem EB {env vs:List V}:fe env [] vs=env:=by cases vs <;> rfl
theorem Df {env vs:List V} {t:Tmp} {ts:List Tmp} {v:V}:fe env (t::ts) (v::vs)=fe (env.set t v) ts vs:=rfl
end Go.Ab
namespace Go.Ab
theorem abK {n:Nat}:V.kill n uu=uu:=rfl
end Go.Ab
namespace Go.Ab
def aN {α:Type} (bytes:Nat) (l:List α):Option (List α):=ck (Nat.ble (l.length*bytes) 70368744177664) (some l)
section clone
variable {P:Program} {t e:TypeId} {α:Type} {enc:α→List V} {sz bytes:Nat}
theorem lV (he:mF P t=some e) (hz:∃ z,fM P e=some z∧bg (b8 z)=true∧((b8 z).length==sz)=true) (hs:aR P e=sz) (hg:JK P e=true) (hb:P.bytesOf e=bytes) (hl:∀ x,(enc x).length=sz) (l:List α) :
  lF P t [.ro (l.map enc)] []=ob (aN bytes l) fun r=>some (.own 1 1 r.length,[.rows 0 [] 0 true,.rows sz (r.map enc) 1 true]):=by
 obtain ⟨z,z1,z2,z3⟩:=hz
 unfold lF
 simp only [he,Option.bind_some,z1,Hg,hs,hg,z2,z3,hb,fj hl,Bool.and_true,Bool.true_and,List.length_map,List.length_nil,List.nil_append]
 unfold aN
 cases Nat.ble (l.length*bytes) 70368744177664 <;> rfl
theorem kv (hl:∀ x,aW (enc x)=true) (l:List α) (g:Nat) :
  rt none (ob (aN bytes l) fun r=>some (.own 1 1 r.length,[.rows 0 [] 0 true,.rows g (r.map enc) 1 true]))=ob (aN bytes l) fun r=>some (.ro (r.map enc),[]):=by
 rw [acQ]
 congr 1
 funext r
 rw [Ir]
 exact Wd (enc:=enc) (l:=r) (e:=g) (lv:=true) rfl rfl hl
theorem i7 (hl:∀ x,aW (enc x)=true) (l:List α) (g:Nat) :
  rt (some fun _=>true) (ob (aN bytes l) fun r=>some (.own 1 1 r.length,[.rows 0 [] 0 true,.rows g (r.map enc) 1 true]))=ob (aN bytes l) fun r=>some (.own 0 0 r.length,[.rows g (r.map enc) 0 true]):=by
 rw [acQ]
 congr 1
 funext r
 have h1:dq (r.map enc)=true:=by
  rw [dq,List.all_eq_true]
  intro y hy
  obtain ⟨x,_,rfl⟩:=List.mem_map.1 hy
  exact hl x
 simp [Ir,nE,Ik,uT,h1]
 rw [List.take_of_length_le (by simp)]
end clone
end Go.Ab
namespace Go.Ab
theorem Uw {n0 i g r o:Nat} {k:Res}:stO n0 (.ptr i g r o) k=sif (decide (i<n0)) k none:=by
 unfold stO stB KU sif
 simp only [Bool.cond_eq_ite]
theorem TX {n0 i g l:Nat} {k:Res}:stO n0 (.own i g l) k=sif (decide (i<n0)) k none:=by
 unfold stO stB KU sif
 simp only [Bool.cond_eq_ite]
theorem Wx {n0 i:Nat} {k:Res}:stO n0 (.map i) k=sif (decide (i<n0)) k none:=by
 unfold stO stB KU sif
 simp only [Bool.cond_eq_ite]
theorem aam {n0:Nat} {r:List (List V)} {k:Res}:stO n0 (.ro r) k=k:=rfl
theorem Zx {n0:Nat} {r:List V} {k:Res}:stO n0 (.rp r) k=k:=rfl
theorem SY {n0:Nat} {v:Value} {k:Res}:stO n0 (.lit v) k=k:=rfl
theorem ZX {n0:Nat} {f:Fn} {a b:List V} {k:Res}:stO n0 (.fn f a b) k=k:=rfl
theorem Wy {n0:Nat} {k:Res}:stO n0 .nil k=k:=rfl
def Bh (n:Nat):List (Value×V)→List (Value×V)
 | []=>[]
 | e::es=>(e.1,e.2.shift n)::Bh n es
def ID (n:Nat):List (Value×V)→List (Value×V)
 | []=>[]
 | e::es=>(e.1,e.2.kill n)::ID n es
theorem Mw {n:Nat}:∀ {es:List (Value×V)},es.map (fun e=>(e.1,e.2.kill n))=ID n es
 | []=>rfl
 | e::es=>by simp [ID,Mw (es:=es)]
theorem GL {n:Nat}:∀ {es:List (Value×V)},es.map (fun e=>(e.1,e.2.shift n))=Bh n es
 | []=>rfl
 | e::es=>by simp [Bh,GL (es:=es)]
theorem OG {n:Nat} {es:List (Value×V)}:B.kill n (.map es) = .map (ID n es):=by
 rw [← Mw]
 rfl
theorem Iu {n:Nat} {es:List (Value×V)}:B.shift n (.map es) = .map (Bh n es):=by
 rw [← GL]
 rfl
theorem QA {n:Nat}:ID n []=[]:=rfl
theorem MM {n:Nat} {e:Value×V} {es:List (Value×V)}:ID n (e::es)=(e.1,e.2.kill n)::ID n es:=rfl
theorem MX {n:Nat}:Bh n []=[]:=rfl
theorem Jo {n:Nat} {e:Value×V} {es:List (Value×V)}:Bh n (e::es)=(e.1,e.2.shift n)::Bh n es:=rfl
end Go.Ab
namespace Go.Ab
theorem Rp {H:Hp}:mc .nil H=some (.ptr (H++[B.rows 0 [] 0 true]).length 0 0 0,(H++[B.rows 0 [] 0 true])++[.box [.own H.length 0 0]]):=by simp [mc,V.cells,V.one,bG]
theorem O5 {i:Nat} {H:Hp}:mc (.yld i) H=some (.ptr H.length 0 0 0,H++[.box [.yld i]]):=by simp [mc,V.cells,V.one,bG]
theorem Pd {i:Nat} {H:Hp}:mc (.map i) H=some (.ptr H.length 0 0 0,H++[.box [.map i]]):=by simp [mc,V.cells,V.one,bG]
theorem Uo {i:Nat} {l:List V} {H:Hp}:bG (.yld i::l) H=(.yld i::(bG l H).1,(bG l H).2):=rfl
theorem Tu {i:Nat} {l:List V} {H:Hp}:bG (.map i::l) H=(.map i::(bG l H).1,(bG l H).2):=rfl
theorem Sd {i:Nat}:V.cells (.yld i)=some [.yld i]:=rfl
theorem Pe {i:Nat}:V.cells (.map i)=some [.map i]:=rfl
end Go.Ab
namespace Go.Ab
open Go
def W5:List (Nat×V)→Bool
 | []=>true
 | p::l=>p.2.pure&&W5 l
theorem S8:W5 []=true:=rfl
theorem RG {i:Nat} {v:V} {l:List (Nat×V)}:W5 ((i,v)::l)=(v.pure&&W5 l):=rfl
theorem abz {l:List (Nat×V)}:aW (l.map (·.2))=W5 l:=by
 induction l with
 | nil=>rfl
 | cons p l ih=>simp only [List.map_cons,aW,W5,ih]
theorem Av {P:Program} {wl:Nat} {t:TypeId} {len:Nat} {l:List (Nat×V)} {H:Hp} :
  iG P wl t len l H=bq (ck (W5 l) (some ())) fun _=>aL P wl t len l H:=by
 unfold iG
 rw [abz]
 cases W5 l <;> simp [bq,ck]
def ldL (P:Program) (t:TypeId) (off row:Nat):Nat→List (List V)→Option V
 | _,[]=>none
 | i,r::rs=>bif row==i then aS P t (r.drop off) else ldL P t off row (i+1) rs
theorem acg {P:Program} {t:TypeId} {off row i:Nat}:ldL P t off row i []=none:=rfl
theorem Uk {P:Program} {t:TypeId} {off row i:Nat} {r:List V} {rs:List (List V)}:ldL P t off row i (r::rs)=bif row==i then aS P t (r.drop off) else ldL P t off row (i+1) rs:=rfl
theorem W6 {P:Program} {t:TypeId} {off row:Nat}:∀ {rs:List (List V)} {i:Nat},i≤row→ldL P t off row i rs=(rs[row - i]?).bind fun r=>aS P t (r.drop off)
 | [],i,_=>by simp [ldL]
 | r::rs,i,h=>by
  rw [ldL]
  by_cases e:row=i
  ·subst e;simp
  ·have h1:(row==i)=false:=by simp [e]
   have h2:row - i=(row - (i+1))+1:=by omega
   rw [h1,cond_false,W6 (by omega),h2,List.getElem?_cons_succ]
theorem Zm {P:Program} {t:TypeId} {g row off e g':Nat} {r:List V} {rs:List (List V)} {lv:Bool} :
  ldB P t g row off (some (.rows e (r::rs) g' lv))=sif (g==g') (ldL P t off row 0 (r::rs)) none:=by
 rw [W6 (Nat.zero_le _),Nat.sub_zero]
 rfl
def mi (x:Int×Int×Int×Int):List V:=[.lit (.int .i64 x.1),.lit (.int .i64 x.2.1),.lit (.int .i64 x.2.2.1),.lit (.int .i64 x.2.2.2)]
def dH (x:Int×Int×Int×Int×Int×Int×Int):List V:=
 [.lit (.int .i64 x.1),.lit (.int .i64 x.2.1),.lit (.int .i64 x.2.2.1),.lit (.int .u64 x.2.2.2.1),.lit (.int .u64 x.2.2.2.2.1),.lit (.int .u64 x.2.2.2.2.2.1),.lit (.int .i64 x.2.2.2.2.2.2)]
def cz (x:List Int):List V:=[.ro (x.map (av .i64))]
theorem rC (x:Int×Int×Int×Int×Int×Int×Int):aW (dH x)=true:=rfl
theorem wu (x:List Int):aW (cz x)=true:=by
 have:=A1 (k := .i64) (l:=x)
 simp [cz,aW,V.pure,this]
section
variable {lf:List (Int×Int×Int×Int×Int×Int×Int)} {ll:List (List Int)} {n i:Nat} {a b c d e f g:Int} {x:List Int}
theorem J0:dq (lf.map dH)=true:=fE rC
theorem Oc:dq (ll.map cz)=true:=fE wu
theorem I9:nP n (lf.map dH)=lf.map dH:=ik rC
theorem MS:nP n (ll.map cz)=ll.map cz:=ik wu
theorem Hc:ml n (lf.map dH)=lf.map dH:=f5 rC
theorem IN:ml n (ll.map cz)=ll.map cz:=f5 wu
theorem P3:cr 7 (lf.map dH)=true:=fj fun _=>rfl
theorem Ti:cr 1 (ll.map cz)=true:=fj fun _=>rfl
theorem Od:(lf.map dH).set i [.lit (.int .i64 a),.lit (.int .i64 b),.lit (.int .i64 c),.lit (.int .u64 d),.lit (.int .u64 e),.lit (.int .u64 f),.lit (.int .i64 g)]=(lf.set i (a,b,c,d,e,f,g)).map dH:=by rw [List.map_set];rfl
theorem Hm:[[V.lit (.int .i64 a),.lit (.int .i64 b),.lit (.int .i64 c),.lit (.int .u64 d),.lit (.int .u64 e),.lit (.int .u64 f),.lit (.int .i64 g)]]=[(a,b,c,d,e,f,g)].map dH:=rfl
theorem RE:(ll.map cz).set i [.ro (x.map (av .i64))]=(ll.set i x).map cz:=by rw [List.map_set];rfl
theorem Om:(ll.map cz).set i [.ro []]=(ll.set i []).map cz:=by rw [List.map_set];rfl
theorem Ji:[[V.ro (x.map (av .i64))]]=[x].map cz:=rfl
theorem G1:[[V.ro []]]=[([]:List Int)].map cz:=rfl
theorem Nv:List.replicate n [V.lit (.int .i64 a),.lit (.int .i64 b),.lit (.int .i64 c),.lit (.int .u64 d),.lit (.int .u64 e),.lit (.int .u64 f),.lit (.int .i64 g)]=(List.replicate n (a,b,c,d,e,f,g)).map dH:=by rw [List.map_replicate];rfl
end
theorem Qt {k:IntKind} {x y:Int}:wv (.int k x) (.int k y)=(x==y):=by
 cases k <;> rfl
theorem I4 {k:IntKind} {x:Int}:li k (.int k x)=true:=by
 cases k <;> rfl
theorem RF {cx:Cx} {c o:Bool} {v:Value} {args:List V} {H:Hp}:nZ cx c o (.lit v) args H=none:=rfl
end Go.Ab
namespace Go.Ab
section steps
variable {cx:Cx} {K:Out→St→Res} {s:St} {r:Res} {id j n0:Nat} {ops:Array Oper} {a a':List Nat×List Nat} {env:List V} {H:Hp} {o:Oper} {i:Nat} {L:List Nat}
end steps
def apA:List Nat→List Nat→Bool
 | [],_=>true
 | i::l,m => !(inN i m)&&apA l m
where inN:Nat→List Nat→Bool
 | _,[]=>false
 | i,k::m=>i==k||inN i m
theorem Xq {i:Nat}:∀ {m:List Nat},apA.inN i m=m.contains i
 | []=>rfl
 | k::m=>by
  rw [apA.inN,Xq,List.contains_cons]
theorem Xp:∀ {l m:List Nat},Bq (l,m)=apA l m
 | [],m=>rfl
 | i::l,m=>by
  have:=Xp (l:=l) (m:=m)
  unfold Bq at this ⊢
  simp only [List.all_cons] at this ⊢
  rw [this,apA,Xq]
theorem afm {l m:List Nat} {k:Res}:apt (l,m) k=sif (apA l m) k none:=by
 unfold apt sif
 rw [Xp,Bool.cond_eq_ite]
theorem aaG {m:List Nat}:apA [] m=true:=rfl
theorem Uu {i:Nat} {l m:List Nat}:apA (i::l) m=(!(apA.inN i m)&&apA l m):=rfl
theorem Yc {i:Nat}:apA.inN i []=false:=rfl
theorem Ty {i k:Nat} {m:List Nat}:apA.inN i (k::m)=(i==k||apA.inN i m):=rfl
theorem aay {i g n:Nat} {l m:List Nat}:lgR (.own i g n) (l,m)=(i::l,m):=rfl
theorem aaF {i g x y:Nat} {l m:List Nat}:lgR (.ptr i g x y) (l,m)=(i::l,m):=rfl
theorem abR {i:Nat} {l m:List Nat}:lgR (.map i) (l,m)=(i::l,m):=rfl
theorem ahD {rs:List (List V)} {l m:List Nat}:lgR (.ro rs) (l,m)=(l,m):=rfl
theorem afZ {rs:List V} {l m:List Nat}:lgR (.rp rs) (l,m)=(l,m):=rfl
theorem aap {l m:List Nat}:lgR .nil (l,m)=(l,m):=rfl
theorem acH {v:Value} {l m:List Nat}:lgR (.lit v) (l,m)=(l,m):=rfl
theorem Yp {i g n:Nat} {l m:List Nat}:lgW (.own i g n) (l,m)=(l,i::m):=rfl
theorem aaI {i g x y:Nat} {l m:List Nat}:lgW (.ptr i g x y) (l,m)=(l,i::m):=rfl
theorem YR {i:Nat} {l m:List Nat}:lgW (.map i) (l,m)=(l,i::m):=rfl
theorem Z4 {α:Type} {x:α}:[x].length=1:=rfl
end Go.Ab
set_option maxRecDepth 100000
namespace Go.Ab
def apv:=PLift.up (aI (aI (aI (aI @Yf @abW) (aI @aan (aI @YP @abe))) (aI (aI @YA (aI @aoC @apK)) (aI @aqc (aI @bC @AL)))) (aI (aI (aI @ab (aI @abj @ZO)) (aI @YX (aI @ra @pm))) (aI (aI @abD (aI @Rq @OH)) (aI @ace (aI @cond_true.{1} @cond_false.{1})))))
theorem syP:type_of% apv.down:=apv.down
def apF:=PLift.up (aI (aI (aI (aI (aI (aI (aI (aI @RS @agz) (aI @af3 @adq)) (aI (aI @ae5 @acO) (aI @aeY (aI @Z7 @aeD)))) (aI (aI (aI @Y6 @afa) (aI @adt (aI @agU @aaQ))) (aI (aI @amb @aie) (aI @agc (aI @Z2 @afN))))) (aI (aI (aI (aI @ajn @anN) (aI @aaf @aiL)) (aI (aI @ahf @amm) (aI @alR (aI @ako @X3)))) (aI (aI (aI @aad @aae) (aI @aoo (aI @aip @aka))) (aI (aI @aa6 @Ir) (aI @acJ (aI @acQ @ak2)))))) (aI (aI (aI (aI (aI @OX @Tk) (aI @aco @abu)) (aI (aI @acI @abY) (aI @Zz (aI @afO @aa1)))) (aI (aI (aI @Zj @Y2) (aI @ae2 (aI @Yb @agF))) (aI (aI @abv @Yw) (aI @YB (aI @aag @Pt))))) (aI (aI (aI (aI @Pb @UK) (aI @OC @U2)) (aI (aI @Rb @QC) (aI @Vo (aI @Vw @aaA)))) (aI (aI (aI @O0 @Yu) (aI @TC (aI @Tj @SL))) (aI (aI @Vl @abX) (aI @Qm (aI @aa3 @VL))))))) (aI (aI (aI (aI (aI (aI @T9 @Uc) (aI @TG @U1)) (aI (aI @aqG @aqA) (aI @ao5 (aI @Py @UL)))) (aI (aI (aI @TF @Q4) (aI @N4 (aI @A1 @Ow))) (aI (aI @J2 @NV) (aI @acv (aI @Pn @MI))))) (aI (aI (aI (aI @On @I1) (aI @OG @Iu)) (aI (aI @QA @MM) (aI @MX (aI @Jo @Uw)))) (aI (aI (aI @TX @Wx) (aI @aam (aI @Zx @SY))) (aI (aI @ZX @Wy) (aI @Jd (aI @Rm @Oj)))))) (aI (aI (aI (aI (aI @Nb @Or) (aI @Jt @O1)) (aI (aI @Qf @M3) (aI @NG (aI @Jz @M4)))) (aI (aI (aI @NA @Ki) (aI @IW (aI @GJ @Gb))) (aI (aI @Xv @Xg) (aI @agA (aI @YT @TY))))) (aI (aI (aI (aI @EB @Df) (aI @YV @Pu)) (aI (aI @aar @Vd) (aI @Ys (aI @Sz @VI)))) (aI (aI (aI @XQ @Vp) (aI @R6 (aI @Y4 @V0))) (aI (aI @Wl @Uh) (aI @Qw (aI @Q0 @Of)))))))) (aI (aI (aI (aI (aI (aI (aI @Qz @Oe) (aI @JO @TW)) (aI (aI @Rw @Jg) (aI @ZG (aI @Zf @abH)))) (aI (aI (aI @Wj @XU) (aI @V5 (aI @Um @S5))) (aI (aI @VZ @U3) (aI @Vy (aI @Tf @VC))))) (aI (aI (aI (aI @Up @Sm) (aI @U5 @VP)) (aI (aI @Pp @PP) (aI @Tp (aI @VK @TT)))) (aI (aI (aI @abi @Ze) (aI @abp (aI @acN @Wq))) (aI (aI @Uq @N3) (aI @Oi (aI @N8 @Wv)))))) (aI (aI (aI (aI (aI @R4 @aaV) (aI @U4 @Nx)) (aI (aI @Sr @aax) (aI @Sy (aI @TE @Vg)))) (aI (aI (aI @RR @NQ) (aI @Ss (aI @Q3 @Rp))) (aI (aI @O5 @Pd) (aI @Uo (aI @Tu @Sd))))) (aI (aI (aI (aI @Pe @Tw) (aI @QW @Rr)) (aI (aI @SV @Ul) (aI @aaM (aI @TS @VU)))) (aI (aI (aI @Yk @P1) (aI @Ph (aI @NN @Wa))) (aI (aI @OZ @Ra) (aI @TA (aI @P4 @Ql))))))) (aI (aI (aI (aI (aI (aI @S7 @Yj) (aI @ack @abK)) (aI (aI @Wn @Hg) (aI @NB (aI @Nj @aqL)))) (aI (aI (aI @aat @Un) (aI @Qr (aI @Us @NT))) (aI (aI @OP @M5) (aI @P7 (aI @Ov @IA))))) (aI (aI (aI (aI @GP @RX) (aI @UC @QG)) (aI (aI @VB @U6) (aI @Ny (aI @Iv @Ig)))) (aI (aI (aI @List.length_map.{0,0} @List.length_cons.{0}) (aI @List.length_nil.{0} (aI @List.length_replicate.{0} @List.length_set.{0}))) (aI (aI @List.drop_succ_cons.{0} @List.drop_zero.{0}) (aI @List.take_succ_cons.{0} (aI @List.take_zero.{0} @List.set_cons_zero.{0})))))) (aI (aI (aI (aI (aI @List.set_cons_succ.{0} @List.nil_append.{0}) (aI @List.cons_append.{0} @List.append_nil.{0})) (aI (aI @List.getElem?_cons_zero.{0} @List.getElem?_cons_succ.{0}) (aI @List.take_nil.{0} (aI @Option.map_some.{0,0} @Option.map_none.{0,0})))) (aI (aI (aI @Option.bind_some.{0,0} @Option.bind_none.{0,0}) (aI @Nat.zero_add (aI @Nat.add_zero @Nat.le_refl))) (aI (aI @Bool.and_true @Bool.true_and) (aI @Bool.and_false (aI @Bool.false_and @Bool.or_true))))) (aI (aI (aI (aI @Bool.or_false @Bool.true_or) (aI @Bool.false_or @Bool.not_true)) (aI (aI @Bool.not_false @beq_self_eq_true.{0}) (aI @bne_self_eq_false.{0} (aI @decide_true @decide_false)))) (aI (aI (aI @if_true.{1} @if_false.{1}) (aI @Bool.false_eq_true (aI @and_self @and_true))) (aI (aI @true_and @Option.isSome_some.{0}) (aI @Option.isSome_none.{0} (aI @Int.cast_ofNat_Int @Int.toNat_natCast)))))))))
theorem syA:type_of% apF.down:=apF.down
end Go.Ab
set_option maxRecDepth 100000
namespace Go.Ab
def apq:=PLift.up (aI (aI (aI (aI (aI @Av @S8) (aI @RG (aI @acg @Uk))) (aI (aI @Zm @J0) (aI @Oc (aI @I9 @MS)))) (aI (aI (aI @Hc @IN) (aI @P3 (aI @Ti @Od))) (aI (aI @Hm @RE) (aI @Om (aI @Ji @G1))))) (aI (aI (aI (aI @Nv @Qt) (aI @I4 (aI @RF @afm))) (aI (aI @aaG @Uu) (aI @Yc (aI @Ty @aay)))) (aI (aI (aI @aaF @abR) (aI @ahD (aI @afZ @aap))) (aI (aI @acH @Yp) (aI @aaI (aI @YR @Z4))))))
theorem syQ:type_of% apq.down:=apq.down
end Go.Ab
set_option linter.unusedVariables false
set_option linter.unusedSimpArgs false
namespace Go.Ab
open Go.Proofs Go.RowKit Go.Shelf Go.Sort Go.Lib
def Aj:List (List V)→Option (List Int)
 | []=>some []
 | [.lit (.int .i64 n)]::l=>(Aj l).map (n :: ·)
 | _=>none
theorem D1:∀ {rs:List (List V)} {zs:List Int},Aj rs=some zs→rs=zs.map fun n=>[V.lit (.int .i64 n)]
 | [],zs,h=>by cases h;rfl
 | r::l,zs,h=>by
  unfold Aj at h
  split at h
  ·rename_i h2;cases h2
  ·rename_i n l' h2
   cases h2
   cases hl:Aj l with
   | none=>rw [hl] at h;cases h
   | some z=>rw [hl] at h;cases h;rw [List.map_cons,← D1 hl]
  ·cases h
def Ge (zs:List Int) (a b:Nat):List Int:=zs.take a++zs.drop b++List.replicate (b - a) 0
def YQ (args:List V) (H:Hp):Option (V×Hp):=
 match args with
 | [.own id g len,.lit (.int .i64 a),.lit (.int .i64 b)]=>
  match H[id]? with
  | some (.rows e rs g' true)=>
   if e=1∧g=g'∧len≤rs.length∧0≤a∧a<b∧b.toNat≤len∧len≤9223372036854775807 then
    (Aj (rs.take len)).map fun zs=>(.own id g (len - (b.toNat - a.toNat)),H.set id (.rows 1 ((Ge zs a.toNat b.toNat).map (fun n=>[V.lit (.int .i64 n)])++rs.drop len) g true))
   else none
  | _=>none
 | _=>none
section
variable {P:Program} {ρ:Ren}
set_option maxHeartbeats 4000000 in
set_option maxRecDepth 1000000 in
theorem X5 (L:Lays2.n23 P ρ) {b off c i j:Nat} {d:Array Int} {w:World} (hH:Holds (Value.int .i64) w b off d) (hc:d.size≤c) (hm:d.size≤9223372036854775807) (hij:i<j) (hj:j≤d.size) :
  Calls P (ρ.f 23) #[.slice (some ⟨b,off,none⟩) d.size c,.int .i64 i,.int .i64 j] w fun e w'=>e = .returned (.slice (some ⟨b,off,none⟩) (d.size - (j - i)) c) ∧
   w'=putRow (Value.int .i64) (Sort.ahead w 1) b off (Ge d.toList i j).toArray:=by
 have mixed:=L.mixed;have t0:=L.t0;have a0:=L.a0;have z0:=L.z0;have v0:=L.v0;have t3:=L.t3;have a3:=L.a3;have z3:=L.z3;have v3:=L.v3
 have t4:=L.t4;have a4:=L.a4;have z4:=L.z4;have v4:=L.v4;have t22:=L.t22;have a22:=L.a22;have z22:=L.z22;have v22:=L.v22
 obtain ⟨info,hinfo,hz0,hz1,_⟩:=info_parts L.i3
 generalize hns:(d.toList.drop j).map (Value.int .i64)=ns
 have nl:ns.length=d.size - j:=by rw [← hns];simp
 have at_:∀ t,t<d.size - j→ns[t]? = some (Value.int .i64 d[j+t]!):=fun t ht=>by
  rw [← hns,List.getElem?_map,List.getElem?_drop,Array.getElem?_toList,getElem!_pos d (j+t) (by omega),Array.getElem?_eq_getElem (by omega)]
  rfl
 -- where those behind lie
 have src:∃ A:Addr,(if c=j then some (⟨b,off,none⟩:Addr) else some ⟨b,off+j,none⟩)=some A∧Hid (∀ t u,ns[t]? = some u→w.drew.cell? (A.add t)=some u):=by
  rcases Decidable.em (c=j) with e | e
  ·refine ⟨⟨b,off,none⟩,if_pos e,fun t u hu => ?_⟩
   have:=(List.getElem?_eq_some_iff.1 hu).1
   omega
  ·refine ⟨⟨b,off+j,none⟩,if_neg e,fun t u hu => ?_⟩
   have ht:t<d.size - j:=by have:=(List.getElem?_eq_some_iff.1 hu).1;omega
   rw [at_ t ht] at hu
   rw [Addr.add_lit,Nat.add_assoc]
   exact (hH (j+t) (by omega)).1.trans hu
 obtain ⟨A,hA,hsrc⟩:=src
 have one:Hid (ns.length=(d.size - j)*1):=by rw [Nat.mul_one];exact nl
 have cells:Hid (∀ u ∈ ns,u.oneCell'=true):=fun u hu=>by
  rw [← hns] at hu
  obtain ⟨x,_,rfl⟩:=List.mem_map.1 hu
  rfl
 have dest:Hid (∀ t,t<ns.length→(w.drew.cell? ⟨b,off+i*1+t,none⟩).isSome=true∧w.drew.frozen? ⟨b,off+i*1+t,none⟩=false):=fun t ht=>by
  rw [nl] at ht
  rw [Nat.mul_one,Nat.add_assoc]
  obtain ⟨h1,h2⟩:=hH (i+t) (by omega)
  exact ⟨by show (w.cell? _).isSome=true;rw [h1];rfl,h2⟩
 obtain ⟨W,hW⟩:∃ W,W=w.drew.setCells b (off+i*1) ns:=⟨_,rfl⟩
 have hAh:=holds_ahead (Value.int .i64) w 1 b off d hH
 have hP:W=putRow (Value.int .i64) (Sort.ahead w 1) b off (lay d i (d.toList.drop j)):=by
  rw [hW,← hns,Nat.mul_one,← putRow_setCells (Value.int .i64) (Sort.ahead w 1) b off _ d i (by simp;omega),putRow_self (Value.int .i64) (Sort.ahead w 1) b off d hAh]
  rfl
 have hHW:Holds (Value.int .i64) W b off (lay d i (d.toList.drop j)):=by rw [hP];exact holds_putRow (Value.int .i64) _ b off d _ hAh (lay_size _ _ _)
 have wipe:∀ ty,(Builtin.clear_ #[ρ.t 22] ty #[.slice (some ⟨b,off+(i+(d.size - j)),none⟩) (d.size - (i+(d.size - j))) (c - (i+(d.size - j)))]).run P W = .ok (.tuple #[]) (W.setCells b (off+(i+(d.size - j))) (List.replicate (d.size - (i+(d.size - j))) (.int .i64 0))):=fun ty=>by
  refine Lib.run_clear_slice W _ _ ty _ t22 v3 rfl rfl b (off+(i+(d.size - j))) _ _ (by omega) (fun t ht => ?_) (fun t ht => ?_)
  all_goals rw [Nat.add_assoc]
  ·rw [(hHW _ (by rw [lay_size];omega)).1];rfl
  ·exact (hHW _ (by rw [lay_size];omega)).2
 have keep:Aside (W=putRow (Value.int .i64) (Sort.ahead w 1) b off (lay d i (d.toList.drop j))):=hP
 have wIs:Hid (W=w.drew.setCells b (off+i*1) ns):=hW
 have hic:i≤c:=by omega
 have hjc:j≤c:=by omega
 clear hW hP hHW hAh hH at_ hns nl
 go_enter L.f23,Body2.n23_ntmps ρ
 go_wp2_with fail
 go_region_law_o (refine step_append_room rfl (.tmp 22) (.tmp 25) (ρ.t 22) rfl (ρ.t 3) info 1 t22 hinfo hz1 b off i c (by simp [Act.eval,Act.put]) A (d.size - j) (c - j) ns (by simp [Act.eval,Act.put]) one.out hsrc.out cells.out (by omega) dest.out ?_;rw [← wIs.out])
 go_wp2
 go_ret
 refine ⟨by rw [show d.size - (j - i)=i+(d.size - j) by omega];rfl,?_⟩
 unfold Ge
 rw [← delete_arr d i j 0 (by omega) hj,← putRow_setCells (Value.int .i64) _ b off _ _ (i+(d.size - j)) (by rw [lay_size];simp;omega),← keep.out,List.map_replicate,show d.size - (i+(d.size - j))=j - i by omega]
theorem Mp {zs:List Int} {a b:Nat} (h:a≤b) (hb:b≤zs.length):(Ge zs a b).length=zs.length:=by
 unfold Ge
 simp
 omega
theorem QD {w:World} {b k:Nat} {d:Array Int} (h:k≠b):(putRow (Value.int .i64) (Sort.ahead w 1) b 0 d).heap[k]? = w.heap[k]? := by
 show (w.heap.modify b _)[k]? = _
 rw [Array.getElem?_modify,if_neg (fun e=>h e.symm)]
theorem GK {w:World} {b:Nat} {d:Array Int} {arr:Array Value} {e:TypeId} (h:w.heap[b]? = some (.cells arr e (0,0))):(putRow (Value.int .i64) (Sort.ahead w 1) b 0 d).heap[b]? = some (.cells (putCells (Value.int .i64) 0 d arr) e (0,0)):=by
 show (w.heap.modify b _)[b]? = _
 rw [Array.getElem?_modify,if_pos rfl,h]
 rfl
theorem Hj {B0:Nat} {w0 w:World} {R:Ro} {σ:List Sg} {H H':Hp} {v:V} {args:List V} {cargs:Array Value} (L:Lays2.n23 P ρ) (h:YQ args H=some (v,H')) (hI:Inv 0 B0 w0 R σ H w) (hA:b7 R σ args cargs):Calls P (ρ.f 23) cargs w (Ni 0 B0 w0 R σ w v H'):=by
 unfold YQ at h
 split at h
 case h_2=>cases h
 rename_i id g len a b
 split at h
 case h_2=>cases h
 rename_i e0 rs g' hb
 split at h
 case isFalse=>cases h
 rename_i hc
 obtain ⟨rfl,rfl,hlen,ha0,hab,hbl,hbig⟩:=hc
 rw [Option.map_eq_some_iff] at h
 obtain ⟨zs,hz,h⟩:=h
 cases h
 have hrs:=D1 hz
 have hzl:zs.length=len:=by
  have:=congrArg List.length hrs
  rw [List.length_take,List.length_map] at this
  omega
 obtain ⟨ca,l1,rfl,hr1,hA⟩:=hA.uncons
 obtain ⟨cb,l2,e2,hr2,hA⟩:=hA.uncons
 obtain ⟨cc,l3,e3,hr3,hA⟩:=hA.uncons
 have e4:=hA.nil_inv
 cases hr2
 cases hr3
 obtain ⟨Ad,l,c,s,rfl,hs,hh,hg,hgen⟩:=mC hr1
 obtain ⟨q1,q2,q3,q4,q5,q6⟩:=lO hI hb hs hh
 obtain ⟨rfl,hn,hsm⟩:=hgen q1.symm
 cases hblk:s.blk with
 | none=>
  have:=q5 hblk
  subst this
  simp at hlen
  omega
 | some b0=>
  obtain ⟨rfl,hlc,hcap⟩:=hsm b0 hblk
  obtain ⟨arr,e,hheap,hsz,hcell,hro⟩:=q6 b0 hblk
  have hB:B0≤b0:=hI.ge id _ s b0 (Nat.zero_le _) hb rfl hs hblk
  have hrow:∀ j (hj:j<zs.length),rs[j]? = some [V.lit (.int .i64 zs[j])]:=fun j hj=>by
   have:(rs.take l)[j]? = some [V.lit (.int .i64 zs[j])]:=by rw [hrs,List.getElem?_map,List.getElem?_eq_getElem hj];rfl
   rw [List.getElem?_take] at this
   split at this
   ·exact this
   ·cases this
  have hcv:∀ j (hj:j<zs.length),arr[j]? = some (.int .i64 zs[j]):=fun j hj=>by
   obtain ⟨cv,h1,h2⟩:=hcell j 0 _ _ (hrow j hj) rfl
   cases h2
   rw [Nat.mul_one,Nat.add_zero] at h1
   exact h1
  have hH:Holds (Value.int .i64) w b0 0 zs.toArray:=fun j hj=>by
   have hj':j<zs.length:=by simpa using hj
   rw [Nat.zero_add]
   refine ⟨?_,?_⟩
   ·rw [getElem!_pos zs.toArray j hj]
    unfold World.cell?
    rw [hheap]
    simpa using hcv j hj'
   ·unfold World.frozen?
    rw [hheap]
    simp
  have el:(Value.slice (some ⟨b0,0,none⟩) l c::l1).toArray = #[.slice (some ⟨b0,0,none⟩) zs.toArray.size c,.int .i64 ((a.toNat:Nat):Int),.int .i64 ((b.toNat:Nat):Int)]:=by
   have e2':l1=Value.int .i64 a::l2:=by simpa using e2
   have e3':l2=Value.int .i64 b::l3:=by simpa using e3
   have e4':l3=[]:=by simpa using e4
   rw [e2',e3',e4',Int.toNat_of_nonneg ha0,Int.toNat_of_nonneg (by omega)]
   simp [hzl]
  rw [el]
  refine (X5 L hH (by simpa [hzl] using hlc) (by simpa [hzl] using hbig) (by omega) (by simpa [hzl] using hbl)).mono ?_
  rintro x w' ⟨rfl,rfl⟩
  have hcl:=Mp (zs:=zs) (a:=a.toNat) (b:=b.toNat) (by omega) (by omega)
  have hsize:(putRow (Value.int .i64) (Sort.ahead w 1) b0 0 (Ge zs a.toNat b.toNat).toArray).heap.size=w.heap.size:=by rw [size_putRow];rfl
  have hset:=hI.set (R':=R) (w':=putRow (Value.int .i64) (Sort.ahead w 1) b0 0 (Ge zs a.toNat b.toNat).toArray) (b' := .rows 1 ((Ge zs a.toNat b.toNat).map (fun n=>[V.lit (.int .i64 n)])++rs.drop l) g true) (s':=s) hb rfl hs hh (Nat.zero_le _) (wQ.refl s) (fun k hk => .inl hk)
   ⟨rfl,rfl,rfl,by rw [hsize];exact Nat.le_refl _,fun k hk=>QD (by omega)⟩ (by rw [hsize];exact Nat.le_refl _) (fun k _ hk=>QD (fun e=>hk (by rw [e];exact hblk))) (iz.refl R) (fun _ _ h => .inl h)
   (fun k o u hu hk=>by
    rw [hblk] at hk;cases hk
    have:=(hro o (by simp [hu])).1
    cases this)
   ⟨q1,q2,q3,fun r hr=>by
    rcases List.mem_append.1 hr with hr | hr
    ·obtain ⟨n,_,rfl⟩:=List.mem_map.1 hr
     exact ⟨rfl,rfl⟩
    ·exact q4 r (List.mem_of_mem_drop hr),by
    rw [hblk]
    refine ⟨_,e,GK hheap,?_,fun i j r x hr hx => ?_,fun o ho => ?_⟩
    ·unfold putCells
     rw [Array.size_mapIdx]
     exact hsz
    ·rw [dY hs]
     by_cases hi:i<zs.length
     ·rw [List.getElem?_append_left (by simp;omega),List.getElem?_map,List.getElem?_eq_getElem (by omega)] at hr
      cases hr
      cases j with
      | succ j=>simp at hx
      | zero=>
       cases hx
       refine ⟨.int .i64 ((Ge zs a.toNat b.toNat)[i]'(by omega)), ?_, .lit _⟩
       unfold putCells
       have hai:=hcv i hi
       rw [Nat.mul_one,Nat.add_zero,Array.getElem?_mapIdx,hai]
       simp only [Option.map_some,Nat.zero_le,Nat.zero_add,true_and,List.size_toArray,Nat.sub_zero]
       rw [if_pos (by omega),getElem!_pos _ _ (by simp;omega)]
       simp
     ·rw [List.getElem?_append_right (by simp;omega),List.getElem?_drop] at hr
      have hr':rs[i]? = some r:=by
       rw [← hr]
       congr 1
       simp
       omega
      obtain ⟨cv,h1,h2⟩:=hcell i j r x hr' hx
      refine ⟨cv,?_,h2⟩
      unfold putCells
      rw [Array.getElem?_mapIdx,h1]
      simp only [Option.map_some,Nat.zero_le,Nat.zero_add,true_and,List.size_toArray,Nat.sub_zero]
      rw [if_neg (by omega)]
    ·have:=(hro o ho).1
     cases this⟩
  rw [dY hs] at hset
  refine ⟨R,σ,hset.widen (fun k hk => ?_),?_,by rw [hsize];exact Nat.le_refl _⟩
  ·rw [hblk] at hk;cases hk;exact hB
  ·have e5:zs.toArray.size - (b.toNat - a.toNat)=l - (b.toNat - a.toNat):=by simp [hzl]
   rw [e5]
   refine .own id g (l - (b.toNat - a.toNat)) _ _ c s hs hh (by omega) (fun _=>⟨rfl,fun hz => ?_,fun b1 hb1 => ?_⟩)
   ·rw [hblk] at hz;cases hz
   ·rw [hblk] at hb1;cases hb1
    exact ⟨rfl,by omega,hcap⟩
end
def dlB (id g len:Nat) (a b:Int) (H:Hp):Option B→Option (V×Hp)
 | some (.rows e rs g' true)=>
  if e=1∧g=g'∧len≤rs.length∧0≤a∧a<b∧b.toNat≤len∧len≤9223372036854775807 then
   (Aj (rs.take len)).map fun zs=>(.own id g (len - (b.toNat - a.toNat)),H.set id (.rows 1 ((Ge zs a.toNat b.toNat).map (fun n=>[V.lit (.int .i64 n)])++rs.drop len) g true))
  else none
 | _=>none
theorem aaZ {id g len:Nat} {a b:Int} {H:Hp}:YQ [.own id g len,.lit (.int .i64 a),.lit (.int .i64 b)] H=dlB id g len a b H H[id]? := by
 unfold YQ dlB
 rfl
theorem DY:∀ l:List Int,Aj (l.map (av .i64))=some l
 | []=>rfl
 | n::l=>by rw [List.map_cons,av,Aj,DY l];rfl
theorem cZ {id g len e:Nat} {a b:Int} {H:Hp} {l:List Int}:dlB id g len a b H (some (.rows e (l.map (av .i64)) g true)) =
  ck (e==1) (ck (decide (len≤l.length∧0≤a∧a<b∧b.toNat≤len∧len≤9223372036854775807)) (some (.own id g (len - (b.toNat - a.toNat)),H.set id (.rows 1 ((Ge (l.take len) a.toNat b.toNat++l.drop len).map (av .i64)) g true)))):=by
 unfold dlB
 dsimp only
 rw [List.length_map,← List.map_take,DY,← List.map_drop]
 by_cases he:e=1
 ·subst he
  rw [beq_self_eq_true,bC]
  by_cases h:len≤l.length∧0≤a∧a<b∧b.toNat≤len∧len≤9223372036854775807
  ·rw [if_pos ⟨rfl,rfl,h⟩,decide_eq_true h,bC,List.map_append]
   rfl
  ·rw [if_neg (fun z=>h z.2.2),decide_eq_false h,AL]
 ·have h1:(e==1)=false:=by simp [he]
  rw [h1,AL,if_neg (fun z=>he z.1)]
theorem Yg {P:Program} {M:Mode} {k:Nat} {f:FuncId} {args:List V} {H:Hp} (ho:M.orc f=some YQ):evF P M (k+1) 0 f args H=YQ args H:=by
 rw [evF,ho]
 rfl
end Go.Ab
namespace Go.Ab
def bn (x:Tys):List V:=
 [.lit (.int .i64 x.1),.ro (x.2.1.map (av .i64)),.lit (.int .i64 x.2.2.1),.lit (.int .i64 x.2.2.2.1),.lit (.int .i64 x.2.2.2.2.1),.lit (.int .u64 x.2.2.2.2.2.1),.lit (.int .u64 x.2.2.2.2.2.2.1),.lit (.int .u64 x.2.2.2.2.2.2.2.1),.lit (.int .i64 x.2.2.2.2.2.2.2.2)]
def arC (id g row:Nat):List (Int×Nat)→Int→Option V
 | [],_=>none
 | p::l,n=>bif n==p.1 then some (.ptr id g row p.2) else arC id g row l n
theorem eU {id g row:Nat} {n:Int}:arC id g row [] n=none:=rfl
theorem da {id g row o:Nat} {n i:Int} {l:List (Int×Nat)}:arC id g row ((i,o)::l) n=bif n==i then some (.ptr id g row o) else arC id g row l n:=rfl
def arL (sz off len:Nat):List (Int×Nat):=(List.range len).map fun j:Nat=>((j:Int),off+j*sz)
theorem JC {id g row:Nat} {n:Int}:∀ {l:List (Int×Nat)},(∀ p ∈ l,p.1≠n)→arC id g row l n=none
 | [],_=>rfl
 | p::l,h=>by
  rw [arC,show (n==p.1)=false by simp;exact fun e=>h p (List.mem_cons_self ..) e.symm,cond_false]
  exact JC fun q hq=>h q (List.mem_cons_of_mem _ hq)
theorem WL {id g row sz off:Nat} {q:Nat}:∀ (l:List Nat),q ∈ l→arC id g row (l.map fun j:Nat=>((j:Int),off+j*sz)) (q:Int)=some (.ptr id g row (off+q*sz))
 | [],h=>by cases h
 | x::l,h=>by
  rw [List.map_cons,arC]
  by_cases e:q=x
  ·subst e;simp
  ·have h2:((q:Int)==(x:Int))=false:=by simp;omega
   rw [h2,cond_false]
   exact WL l ((List.mem_cons.1 h).resolve_left e)
theorem Ml {P:Program} {t e:TypeId} {len sz id g row off:Nat} {k:IntKind} {n:Int} {H:Hp} (h:P.underlying t=some (.array len e)) (hs:aR P e=sz) (hz:sz≠0) :
  aA P t (.ptr id g row off) (.lit (.int k n)) H=arC id g row (arL sz off len) n:=by
 unfold aA
 simp only [h,hs]
 by_cases h0:0≤n
 ·rw [if_pos h0]
  by_cases h1:n<len
  ·rw [if_pos ⟨h1,hz⟩]
   obtain ⟨q,rfl⟩:∃ q:Nat,n=q:=⟨n.toNat,by omega⟩
   rw [arL,WL (List.range len) (List.mem_range.2 (by omega)),Int.toNat_natCast]
  ·rw [if_neg (fun hh=>h1 hh.1)]
   refine (JC fun p hp => ?_).symm
   obtain ⟨j,hj,rfl⟩:=List.mem_map.1 hp
   have:=List.mem_range.1 hj
   simp only
   omega
 ·rw [if_neg h0]
  refine (JC fun p hp => ?_).symm
  obtain ⟨j,hj,rfl⟩:=List.mem_map.1 hp
  simp only
  omega
end Go.Ab
namespace Go.Ab
def aF (x:Tyw):List V:=
 [.lit (.int .i64 x.1),.ro (x.2.1.map az),.lit (.int .i64 x.2.2.1.1),.lit (.int .i64 x.2.2.1.2.1),.lit (.int .i64 x.2.2.1.2.2.1),.lit (.int .u64 x.2.2.1.2.2.2.1),.lit (.int .u64 x.2.2.1.2.2.2.2.1),.lit (.int .u64 x.2.2.1.2.2.2.2.2.1),.lit (.int .i64 x.2.2.1.2.2.2.2.2.2),.lit (.int .i64 x.2.2.2.1),.lit (.int .i64 x.2.2.2.2)]
mutual
theorem Rs (n:Nat):∀ v:V,v.pure=true→v.kill n=v
 | .lit _,_=>rfl
 | .ro _,_=>rfl
 | .nil,_=>rfl
 | .any,_=>rfl
 | .junk,_=>rfl
 | .agg cs,h=>by rw [V.kill,lR n cs h]
 | .tup cs,h=>by rw [V.kill,lR n cs h]
 | .fn f a b,h=>by
  rw [V.pure,Bool.and_eq_true] at h
  rw [V.kill,lR n a h.1,lR n b h.2]
 | .rp _,_=>rfl
theorem lR (n:Nat):∀ l:List V,aW l=true→eZ n l=l
 | [],_=>rfl
 | v::l,h=>by
  rw [aW,Bool.and_eq_true] at h
  rw [eZ,Rs n v h.1,lR n l h.2]
end
theorem Hx {n:Nat} {rs:List (List V)}:nP n rs=rs.map (eZ n):=by
 unfold nP
 split
 ·rename_i h
  rw [dq,List.all_eq_true] at h
  have:∀ l:List (List V),(∀ x ∈ l,aW x=true)→l.map (eZ n)=l:=by
   intro l
   induction l with
   | nil=>intro _;rfl
   | cons r l ih=>intro h;rw [List.map_cons,lR n r (h r (List.mem_cons_self ..)),ih fun x hx=>h x (List.mem_cons_of_mem _ hx)]
  exact (this rs h).symm
 ·rfl
theorem af {n:Nat} {r:List V} {rs:List (List V)}:nP n (r::rs)=eZ n r::nP n rs:=by
 rw [Hx,Hx,List.map_cons]
theorem ae {k:IntKind} {a:Int} {l:List Int}:[V.lit (.int k a)]::List.map (av k) l=List.map (av k) (a::l):=rfl
theorem aa {a b c:Int} {l:Tye}:[V.lit (.int .i64 a),.lit (.int .i64 b),.lit (.int .i64 c)]::List.map az l=List.map az ((a,b,c)::l):=rfl
def ao9:=PLift.up (aI (aI (aI (aI (aI (aI @rtN.eq_1 @aW.eq_1) (aI @aW.eq_2 @V.pure.eq_1)) (aI (aI @V.pure.eq_2 @V.pure.eq_3) (aI @V.pure.eq_4 @V.pure.eq_5))) (aI (aI (aI @V.pure.eq_6 @V.pure.eq_7) (aI @V.pure.eq_8 @V.pure.eq_9)) (aI (aI @V.pure.eq_10 @V.pure.eq_11) (aI @V.pure.eq_12 @V.pure.eq_13)))) (aI (aI (aI (aI @nsh.eq_1 @Bb.eq_1) (aI @Bb.eq_2 @Bb.eq_3)) (aI (aI @V.kill.eq_1 @V.kill.eq_2) (aI @V.kill.eq_3 @V.kill.eq_4))) (aI (aI (aI @V.kill.eq_5 @V.kill.eq_6) (aI @V.kill.eq_7 @V.kill.eq_8)) (aI (aI @V.kill.eq_9 @V.kill.eq_10) @V.kill.eq_11)))) (aI (aI (aI (aI (aI @V.kill.eq_12 @V.kill.eq_13) (aI @eZ.eq_1 @eZ.eq_2)) (aI (aI @spl.eq_1 @spl.eq_2) (aI @V.shift.eq_1 @V.shift.eq_2))) (aI (aI (aI @V.shift.eq_3 @V.shift.eq_4) (aI @V.shift.eq_5 @V.shift.eq_6)) (aI (aI @V.shift.eq_7 @V.shift.eq_8) @V.shift.eq_9))) (aI (aI (aI (aI @V.shift.eq_10 @V.shift.eq_11) (aI @V.shift.eq_12 @V.shift.eq_13)) (aI (aI @cX.eq_1 @cX.eq_2) (aI @V.scal.eq_1 @V.scal.eq_2))) (aI (aI (aI @V.scal.eq_3 @V.scal.eq_4) (aI @lz.eq_1 @lz.eq_2)) (aI (aI @av.eq_1 @fI.eq_1) @az.eq_1)))))
theorem syD:type_of% ao9.down:=ao9.down
def ao3:=PLift.up (aI (aI (aI @syQ @mi.eq_1) (aI @dH.eq_1 @cz.eq_1)) (aI (aI @bn.eq_1 @aF.eq_1) (aI @eU @da)))
theorem syE:type_of% ao3.down:=ao3.down
end Go.Ab
namespace Go.Ab
open Go
def gT (x:Int×Int×Int):List V:=[.lit (.int .i64 x.1),.lit (.int .i64 x.2.1),.lit (.int .u64 x.2.2)]
def alj (x:Typ):List V:=
 [.lit (.int .i64 x.1.1),.lit (.int .i64 x.1.2.1),.lit (.int .i64 x.1.2.2.1),.lit (.int .i64 x.1.2.2.2),.ro (x.2.1.map ak),.ro (x.2.2.1.map (av .u64)),.ro (x.2.2.2.1.map aF),.ro (x.2.2.2.2.map bn)]
theorem wV (x:Int×Int×Int):aW (gT x)=true:=rfl
theorem l8 (x:Tyw):aW (aF x)=true:=by
 have h:dq (x.2.1.map az)=true:=fE fun _=>rfl
 simp [aF,aW,V.pure,h]
theorem m7 (x:Tys):aW (bn x)=true:=by
 have h:=A1 (k := .i64) (l:=x.2.1)
 simp [bn,aW,V.pure,h]
section
variable {lw:List Tyw} {ls:List Tys} {lp:Tye} {n i:Nat} {a b c d e f g p q r:Int} {x:List Int} {y:Tye}
theorem NS:dq (lw.map aF)=true:=fE l8
theorem MK:nP n (lw.map aF)=lw.map aF:=ik l8
theorem I2:ml n (lw.map aF)=lw.map aF:=f5 l8
theorem T6:cr 11 (lw.map aF)=true:=fj fun _=>rfl
theorem PE:(lw.map aF).set i [.lit (.int .i64 p),.ro (y.map az),.lit (.int .i64 a),.lit (.int .i64 b),.lit (.int .i64 c),.lit (.int .u64 d),.lit (.int .u64 e),.lit (.int .u64 f),.lit (.int .i64 g),.lit (.int .i64 q),.lit (.int .i64 r)]=(lw.set i (p,y,(a,b,c,d,e,f,g),q,r)).map aF:=by rw [List.map_set];rfl
theorem I0:[[V.lit (.int .i64 p),.ro (y.map az),.lit (.int .i64 a),.lit (.int .i64 b),.lit (.int .i64 c),.lit (.int .u64 d),.lit (.int .u64 e),.lit (.int .u64 f),.lit (.int .i64 g),.lit (.int .i64 q),.lit (.int .i64 r)]]=[(p,y,(a,b,c,d,e,f,g),q,r)].map aF:=rfl
theorem HO:[V.lit (.int .i64 p),.ro (y.map az),.lit (.int .i64 a),.lit (.int .i64 b),.lit (.int .i64 c),.lit (.int .u64 d),.lit (.int .u64 e),.lit (.int .u64 f),.lit (.int .i64 g),.lit (.int .i64 q),.lit (.int .i64 r)]::lw.map aF=((p,y,(a,b,c,d,e,f,g),q,r)::lw).map aF:=rfl
theorem NU:(lw.map aF).set i [.lit (.int .i64 p),.ro [],.lit (.int .i64 a),.lit (.int .i64 b),.lit (.int .i64 c),.lit (.int .u64 d),.lit (.int .u64 e),.lit (.int .u64 f),.lit (.int .i64 g),.lit (.int .i64 q),.lit (.int .i64 r)]=(lw.set i (p,([]:Tye),(a,b,c,d,e,f,g),q,r)).map aF:=by rw [List.map_set];rfl
theorem GY:[[V.lit (.int .i64 p),.ro [],.lit (.int .i64 a),.lit (.int .i64 b),.lit (.int .i64 c),.lit (.int .u64 d),.lit (.int .u64 e),.lit (.int .u64 f),.lit (.int .i64 g),.lit (.int .i64 q),.lit (.int .i64 r)]]=[(p,([]:Tye),(a,b,c,d,e,f,g),q,r)].map aF:=rfl
theorem Fl:[V.lit (.int .i64 p),.ro [],.lit (.int .i64 a),.lit (.int .i64 b),.lit (.int .i64 c),.lit (.int .u64 d),.lit (.int .u64 e),.lit (.int .u64 f),.lit (.int .i64 g),.lit (.int .i64 q),.lit (.int .i64 r)]::lw.map aF=((p,([]:Tye),(a,b,c,d,e,f,g),q,r)::lw).map aF:=rfl
theorem Sb:dq (ls.map bn)=true:=fE m7
theorem PL:nP n (ls.map bn)=ls.map bn:=ik m7
theorem Og:ml n (ls.map bn)=ls.map bn:=f5 m7
theorem XS:cr 9 (ls.map bn)=true:=fj fun _=>rfl
theorem SG:(ls.map bn).set i [.lit (.int .i64 p),.ro (x.map (av .i64)),.lit (.int .i64 a),.lit (.int .i64 b),.lit (.int .i64 c),.lit (.int .u64 d),.lit (.int .u64 e),.lit (.int .u64 f),.lit (.int .i64 g)]=(ls.set i (p,x,a,b,c,d,e,f,g)).map bn:=by rw [List.map_set];rfl
theorem MP:[[V.lit (.int .i64 p),.ro (x.map (av .i64)),.lit (.int .i64 a),.lit (.int .i64 b),.lit (.int .i64 c),.lit (.int .u64 d),.lit (.int .u64 e),.lit (.int .u64 f),.lit (.int .i64 g)]]=[(p,x,a,b,c,d,e,f,g)].map bn:=rfl
theorem IR:[V.lit (.int .i64 p),.ro (x.map (av .i64)),.lit (.int .i64 a),.lit (.int .i64 b),.lit (.int .i64 c),.lit (.int .u64 d),.lit (.int .u64 e),.lit (.int .u64 f),.lit (.int .i64 g)]::ls.map bn=((p,x,a,b,c,d,e,f,g)::ls).map bn:=rfl
theorem Pj:(ls.map bn).set i [.lit (.int .i64 p),.ro [],.lit (.int .i64 a),.lit (.int .i64 b),.lit (.int .i64 c),.lit (.int .u64 d),.lit (.int .u64 e),.lit (.int .u64 f),.lit (.int .i64 g)]=(ls.set i (p,([]:List Int),a,b,c,d,e,f,g)).map bn:=by rw [List.map_set];rfl
theorem IL:[[V.lit (.int .i64 p),.ro [],.lit (.int .i64 a),.lit (.int .i64 b),.lit (.int .i64 c),.lit (.int .u64 d),.lit (.int .u64 e),.lit (.int .u64 f),.lit (.int .i64 g)]]=[(p,([]:List Int),a,b,c,d,e,f,g)].map bn:=rfl
theorem Gk:[V.lit (.int .i64 p),.ro [],.lit (.int .i64 a),.lit (.int .i64 b),.lit (.int .i64 c),.lit (.int .u64 d),.lit (.int .u64 e),.lit (.int .u64 f),.lit (.int .i64 g)]::ls.map bn=((p,([]:List Int),a,b,c,d,e,f,g)::ls).map bn:=rfl
theorem M2:dq (lp.map gT)=true:=fE wV
theorem Nk:nP n (lp.map gT)=lp.map gT:=ik wV
theorem JA:ml n (lp.map gT)=lp.map gT:=f5 wV
theorem Vt:cr 3 (lp.map gT)=true:=fj fun _=>rfl
theorem Q7:(lp.map gT).set i [.lit (.int .i64 a),.lit (.int .i64 b),.lit (.int .u64 c)]=(lp.set i (a,b,c)).map gT:=by rw [List.map_set];rfl
theorem JL:[[V.lit (.int .i64 a),.lit (.int .i64 b),.lit (.int .u64 c)]]=[(a,b,c)].map gT:=rfl
theorem HU:[V.lit (.int .i64 a),.lit (.int .i64 b),.lit (.int .u64 c)]::lp.map gT=((a,b,c)::lp).map gT:=rfl
end
theorem abx {α:Type} {wl e sz bytes id g len s:Nat} {l:List α} {enc:α→List V} {H:Hp} :
  apB wl e sz bytes id g len [] H (some (.rows s (l.map enc) g true)) =
   sif (Nat.ble wl id) (ck (decide (len≤l.length)) (ck (s==sz||s==0) (bif room (l.take len).length bytes then some (.own id (g+1) (l.take len).length,H.set id (.rows sz ((l.take len).map enc) (g+1) true)) else none))) none:=by
 have h:=OP (wl:=wl) (e:=e) (sz:=sz) (bytes:=bytes) (id:=id) (g:=g) (len:=len) (s:=s) (l:=l) (m:=[]) (enc:=enc) (H:=H)
 rw [List.append_nil] at h
 exact h
theorem ZN {kp:Nat→Bool} {cs:List V} {h:Hp}:nE (some kp) (.agg cs) h=bq (uC cs h []) fun p=>some (.agg p.1,p.2.2):=by
 unfold nE Ik bq
 dsimp only
 cases uC cs h [] <;> rfl
theorem QH {H acc:Hp}:uC [] H acc=some ([],H,acc):=rfl
theorem M1 {v:V} {vs:List V} {H acc:Hp}:uC (v::vs) H acc=bq (uT v H acc) fun p=>bq (uC vs p.2.1 p.2.2) fun q=>some (p.1::q.1,q.2.1,q.2.2):=by
 rw [uC]
 unfold bq
 cases uT v H acc with
 | none=>rfl
 | some p=>rfl
theorem QX {v:Value} {H acc:Hp}:uT (.lit v) H acc=some (.lit v,H,acc):=rfl
theorem UD {r:List (List V)} {H acc:Hp}:uT (.ro r) H acc=some (.ro r,H,acc):=rfl
def hmB (id g len:Nat) (H acc:Hp):Option B→Option (V×Hp×Hp)
 | some (.rows e rs g' live)=>if g=g'∧len≤rs.length∧(live=true∨len=rs.length)∧dq rs=true then some (.own acc.length 0 len,H.set id .dead,acc++[.rows e (rs.take len) 0 live]) else none
 | _=>none
theorem Gm {id g len:Nat} {H acc:Hp}:uT (.own id g len) H acc=hmB id g len H acc H[id]? := by
 unfold uT hmB
 dsimp only
 cases H[id]? with
 | none=>rfl
 | some b=>cases b <;> rfl
theorem AO {α:Type} {enc:α→List V} (hp:∀ x,aW (enc x)=true) {id g len e:Nat} {H acc:Hp} {l:List α}:hmB id g len H acc (some (.rows e (l.map enc) g true))=ck (decide (len≤l.length)) (some (.own acc.length 0 len,H.set id .dead,acc++[.rows e ((l.take len).map enc) 0 true])):=by
 unfold hmB ck
 dsimp only
 rw [List.length_map,fE hp,List.map_take]
 by_cases h:len≤l.length
 ·rw [if_pos ⟨rfl,h,.inl rfl,rfl⟩,decide_eq_true h]
  rfl
 ·rw [if_neg (fun z=>h z.2.1),decide_eq_false h]
  rfl
theorem aaU {id g e:Nat} {H acc:Hp} {lv:Bool}:hmB id g 0 H acc (some (.rows e [] g lv))=some (.own acc.length 0 0,H.set id .dead,acc++[.rows e [] 0 lv]):=by
 unfold hmB
 dsimp only
 rw [if_pos ⟨rfl,Nat.le_refl _,.inr rfl,rfl⟩]
 rfl
theorem aci {k:IntKind} {id g len e:Nat} {H acc:Hp} {l:List Int}:hmB id g len H acc (some (.rows e (l.map (av k)) g true))=ck (decide (len≤l.length)) (some (.own acc.length 0 len,H.set id .dead,acc++[.rows e ((l.take len).map (av k)) 0 true])):=AO fun _=>rfl
theorem acB {kp:Nat→Bool} {id g len:Nat} {h:Hp}:nE (some kp) (.own id g len) h=bq (hmB id g len h [] h[id]?) fun p=>some (p.1,p.2.2):=by
 have e:nE (some kp) (.own id g len) h=(uT (.own id g len) h []).bind fun q=>some (q.1,q.2.2):=rfl
 rw [e,Gm]
 unfold bq
 cases hmB id g len h [] h[id]? <;> rfl
theorem Ui {id g len e:Nat} {H acc:Hp} {l:List Tyw}:hmB id g len H acc (some (.rows e (l.map aF) g true))=ck (decide (len≤l.length)) (some (.own acc.length 0 len,H.set id .dead,acc++[.rows e ((l.take len).map aF) 0 true])):=AO l8
theorem Za {id g len e:Nat} {H acc:Hp} {l:List Tys}:hmB id g len H acc (some (.rows e (l.map bn) g true))=ck (decide (len≤l.length)) (some (.own acc.length 0 len,H.set id .dead,acc++[.rows e ((l.take len).map bn) 0 true])):=AO m7
def apd:=PLift.up (aI (aI (aI (aI (aI (aI @NS @MK) @I2) (aI (aI @T6 @PE) @I0)) (aI (aI (aI @HO @NU) @GY) (aI @Fl @Sb))) (aI (aI (aI (aI @PL @Og) @XS) (aI @SG @MP)) (aI (aI (aI @IR @Pj) @IL) (aI @Gk @M2)))) (aI (aI (aI (aI (aI @Nk @JA) @Vt) (aI @Q7 @JL)) (aI (aI (aI @HU @aaU) @aci) (aI @acB @abx))) (aI (aI (aI (aI @ZN @QH) @M1) (aI @QX @UD)) (aI (aI (aI @Gm @Ui) @Za) (aI @gT.eq_1 @alj.eq_1)))))
theorem syW:type_of% apd.down:=apd.down
end Go.Ab
namespace Go.Ab
section
variable {cx:Cx} {K:Out→St→Res} {r:Res} {id j n0:Nat} {ops:Array Oper} {a:List Nat×List Nat} {env:List V} {H:Hp} {o:Oper} {i:Nat} {L:List Nat}
theorem qI (hL:E4 ops=L) (ha:(u9 ops).any=false) (v:V) (H':Hp) (h2:rh cx (.region id ops true) (j+1) n0 a K ⟨oL env o.dst v,H'⟩=r) (hj:L[j]? = some i:=by rfl) (ho:ops.toList[i]? = some o:=by rfl) (hg:o.guard=none:=by rfl) (hst:(u9 ops).strict i=false:=by kernel_rfl) (h1:opV cx ((u9 ops).calm i) ((u9 ops).ord i) o.op env H=some (v,H'):=by kernel_rfl):rh cx (.region id ops true) j n0 a K ⟨env,H⟩=r:=go_op1 hL ha hj ho hg (ail hst (anG h1 h2))
section
variable {gj d:Nat} {b:Bool}
end
end
end Go.Ab
namespace Go.Ab
abbrev bb (b:Bool) (x y:Res):Res:=match b with | true=>x | false=>y
abbrev onO {A:Type} (x:Option A) (k:A→Res):Res:=match x with | some v=>k v | none=>none
abbrev aoP (cx:Cx) (b:Builtin) (ts:Array TypeId) (args:List V) (H:Hp) (F:V→Hp→Res):Res:=
 match b with
 | .len=>match ts.toList,args with
  | [t],[x]=>bp (rc cx.P t x H) F
  | _,_=>none
 | .append=>match ts.toList,args with
  | [t,u],[s,x]=>bp (Ax cx.P cx.wl t u s x H) F
  | _,_=>none
 | .max=>bm (lx true args) H F
 | .min=>bm (lx false args) H F
 | _=>none
abbrev opW (cx:Cx) (calm ord:Bool) (op:Op) (env:List V) (H:Hp) (F:V→Hp→Res):Res:=
 match op with
 | .move x=>onO (evO env x) fun v=>F v H
 | .assign x=>match x with
  | .const c=>onO (some (f9 c)) fun v=>match v with | .nil=>bp (some (.own H.length 0 0,H++[.rows 0 [] 0 true])) F | v=>F v H
  | x=>onO (evO env x) fun v=>F v H
 | .pick c a b=>onO (evO env c) fun c=>onO (evO env a) fun a=>onO (evO env b) fun b=>bm (EY c a b) H F
 | .alloc t=>bp (cI cx.P t H) F
 | .box _ x=>onO (evO env x) fun v=>bp (mc v H) F
 | .build t parts=>onO (Pw (evO env) parts.toList) fun l=>bm (dn cx.P t l) H F
 | .buildSlice t len parts=>onO (Pw (evO env) parts.toList) fun l=>bb (calm) (bp (iG cx.P cx.wl t len l H) F) (bp (aL cx.P cx.wl t len l H) F)
 | .insert t m k v=>onO (evO env m) fun m=>onO (evO env k) fun k=>onO (evO env v) fun v=>bs (lg cx.P cx.wl t m k v H) (F uu)
 | .load t a=>onO (evO env a) fun a=>bm (o8 cx.P t a H) H F
 | .store t a v=>onO (evO env a) fun a=>onO (evO env v) fun v=>bs (rx cx.P cx.wl t a v H) (F uu)
 | .nilCheck x=>onO (evO env x) fun x=>bm (OD x H) H F
 | .binOp op t x y _=>onO (evO env x) fun x=>onO (evO env y) fun y=>bm (kZ cx.P op t x y) H F
 | .unOp op _ x=>onO (evO env x) fun x=>bm (vUn op x) H F
 | .convert s d x=>onO (evO env x) fun x=>bm (C5 cx.P s d x) H F
 | .makeFunc f a b=>onO (ES env a.toList) fun a=>onO (ES env b.toList) fun b=>F (.fn f a b) H
 | .makeMap _ r=>match r with | none=>bp (some (.map H.length,H++[.map []])) F | some _=>none
 | .makeSlice t l c=>onO (evO env l) fun l=>onO (evO env c) fun c=>bp (aX cx.P t l c H) F
 | .slice t x lo hi mx=>onO (evO env x) fun x=>onO (O3 env lo) fun lo=>onO (O3 env hi) fun hi=>onO (O3 env mx) fun mx=>bp (cy cx.P cx.wl calm t x lo hi mx H) F
 | .fieldAddr t x i=>onO (evO env x) fun x=>bm (ag cx.P t x i) H F
 | .field t x i=>onO (evO env x) fun x=>bm (Bc cx.P t x i) H F
 | .indexAddr t x i=>onO (evO env x) fun x=>onO (evO env i) fun i=>bm (aA cx.P t x i H) H F
 | .index t x i=>onO (evO env x) fun x=>onO (evO env i) fun i=>bm (Do cx.P t x i) H F
 | .lookup t m k ok=>onO (evO env m) fun m=>onO (evO env k) fun k=>bm (kq cx.P t m k ok H) H F
 | .extract x i=>onO (evO env x) fun x=>bm (lP x i) H F
 | .call c=>
  match c.callee with
  | .builtin b=>onO (ES env c.args.toList) fun a=>aoP cx b c.argTypes a H F
  | .value f=>onO (evO env f) fun f=>onO (ES env c.args.toList) fun a=>bp (nZ cx calm ord f a H) F
  | .invoke _ _=>none
 | _=>none
theorem cQ {A:Type} {x:Option A} {k:A→Res} {g:A→Option (V×Hp)} {F:V×Hp→Res} (h:∀ v,k v=(g v).bind F):onO x k=(x.bind g).bind F:=by
 cases x with
 | none=>rfl
 | some v=>exact h v
theorem J4 {A:Type} {x:Option A} {k:A→Res} {g:A→V×Hp} {F:V×Hp→Res} (h:∀ v,k v=F (g v)):onO x k=(x.map g).bind F:=by
 cases x with
 | none=>rfl
 | some v=>exact h v
theorem adX {x:Option Hp} {F:V→Hp→Res}:bs x (F uu)=(x.map fun H'=>(V.lit undef,H')).bind fun p=>F p.1 p.2:=by cases x <;> rfl
theorem acd {cx:Cx} {b:Builtin} {ts:Array TypeId} {args:List V} {H:Hp} {F:V→Hp→Res}:aoP cx b ts args H F=(OJ cx b ts args H).bind fun p=>F p.1 p.2:=by
 unfold aoP OJ
 generalize ts.toList=l
 cases b with
 | len=>rcases l with _ | ⟨_,_ | _⟩ <;> rcases args with _ | ⟨_,_ | _⟩ <;> rfl
 | append=>rcases l with _ | ⟨_,_ | ⟨_,_ | _⟩⟩ <;> rcases args with _ | ⟨_,_ | ⟨_,_ | _⟩⟩ <;> rfl
 | _=>rfl
theorem aex {cx:Cx} {calm ord:Bool} {op:Op} {env:List V} {H:Hp} {F:V→Hp→Res}:opW cx calm ord op env H F=(opV cx calm ord op env H).bind fun p=>F p.1 p.2:=by
 cases op with
 | assign x=>
  unfold opW opV
  dsimp only
  cases x with
  | const c=>
   dsimp only [evO,onO,Option.map_some,Option.bind_some]
   cases f9 c <;> rfl
  | _=>exact J4 fun v=>rfl
 | call c=>
  unfold opW opV
  dsimp only
  cases c.callee with
  | builtin b=>exact cQ fun a=>acd
  | value f=>exact cQ fun f=>cQ fun a=>rfl
  | invoke _ _=>rfl
 | buildSlice t len parts=>
  unfold opW opV
  dsimp only
  refine cQ fun l => ?_
  cases calm <;> rfl
 | makeMap t r=>
  unfold opW opV
  dsimp only
  cases r <;> rfl
 | _=>
  unfold opW opV
  dsimp only
  first
  | rfl
  | exact cQ fun a=>cQ fun b=>adX
  | exact cQ fun a=>cQ fun b=>cQ fun c=>adX
  | exact J4 fun v=>rfl
  | exact cQ fun a=>rfl
  | exact cQ fun a=>J4 fun b=>rfl
  | exact cQ fun a=>cQ fun b=>rfl
  | exact cQ fun a=>cQ fun b=>cQ fun c=>rfl
  | exact cQ fun a=>cQ fun b=>cQ fun c=>cQ fun d=>rfl
inductive Md where
 | E (c:Code) (fs:List Fr) (jn:List Nat)
 | R (o:Out) (fs:List Fr) (jn:List Nat)
 | L (c:Code) (l:Nat) (fs:List Fr) (jn:List Nat)
 | G (c:Code) (j n0:Nat) (a:List Nat×List Nat) (fs:List Fr) (g:Bool) (kn:List (Nat×Nat)) (jn:List Nat)
def aoY (cx:Cx) (K:Out→St→Res) (s:St):Md→Res
 | .E c fs _=>bF cx K (.seq c::fs) .norm s
 | .R o fs _=>bF cx K fs o s
 | .L c l fs _=>Di cx K c l fs s
 | .G c j n0 a fs _ _ _=>rh cx c j n0 a (bF cx K fs) s
def rj (i:Nat):Code→Bool
 | .exit j=>j==i
 | .seq a b=>rj i a||rj i b
 | .cond _ a b=>rj i a||rj i b
 | .rangeFunc _ _ a b=>rj i a||rj i b
 | .block _ a=>rj i a
 | .loop a=>rj i a
 | .scope a=>rj i a
 | _=>false
def rk:Code→Bool
 | .seq a b=>rk a&&rk b
 | .cond _ a b=>rk a||rk b
 | .exit _=>false
 | .goto _=>false
 | .ret=>false
 | .loop _=>false
 | .block i a=>rk a||rj i a
 | _=>true
def mY:Code→Nat
 | .region _ ops _=>ops.size
 | .seq a b=>mY a+mY b+1
 | .cond _ a b=>mY a+mY b+1
 | .rangeFunc _ _ a b=>mY a+mY b+1
 | .block _ a=>mY a
 | .scope a=>mY a
 | .loop _=>10
 | _=>0
def atJ (jn:List Nat) (n:Nat):Bool:=match jn with | []=>false | x::_=>x==n
def jnT (jn:List Nat) (n:Nat):List Nat:=bif atJ jn n then jn.tail else jn
def Mq (jn:List Nat):List Fr→Nat→Bool
 | [],n=>Nat.ble 3 n
 | .seq c::r,n=>bif atJ jn (r.length+1) then false else bif rk c then Mq jn r (n+mY c) else Nat.ble 3 (n+mY c)
 | _::r,n=>bif atJ jn (r.length+1) then false else Mq jn r n
abbrev sxW (n0:Nat) (st:Bool) (op:Op) (env:List V) (x:Res):Res:=
 bb (st) ((match mL op with | none=>x | some y=>match evO env y with | some v=>stO n0 v x | none=>x)) (x)
def anL (d:Nat):List (Nat×Nat)→Option Nat
 | []=>none
 | (e,b)::r=>bif e==d then some b else anL d r
def Yo (d:Nat):List (Nat×Nat)→List (Nat×Nat)
 | []=>[]
 | (e,b)::r=>bif e==d then Yo d r else (e,b)::Yo d r
def knR (d:Option Nat) (kn:List (Nat×Nat)):List (Nat×Nat):=match d with | none=>kn | some d=>Yo d kn
def knS (d:Option Nat) (kn:List (Nat×Nat)):List (Nat×Nat):=match d with | none=>kn | some d=>(d,2)::kn
def wk (cx:Cx) (K:Out→St→Res):Nat→Md→St→Res
 | 0,m,s=>aoY cx K s m
 | n+1,m,s=>match m with
  | .E c fs jn=>match c with
   | .skip=>wk cx K n (.R .norm fs jn) s
   | .region id ops draw=>bb (draw) ((bb (Fx ops) (wk cx K n (.G (.region id ops true) 0 s.H.length ([],[]) fs false [] jn) s) (none))) (wk cx K n (.G (.region id ops false) 0 s.H.length ([],[]) fs false [] jn) s)
   | .seq a b=>wk cx K n (.E a (.seq b::fs) jn) s
   | .block id a=>wk cx K n (.E a (.block id::fs) jn) s
   | .scope a=>wk cx K n (.E a (.scope a::fs) jn) s
   | .cond v a b=>onO (evO s.env v) fun v=>
    bb (rk a&&rk b&&Mq jn fs 0) (cnd v (wk cx K n (.E a fs (fs.length::jn)) s) (wk cx K n (.E b fs (fs.length::jn)) s)) (cnd v (wk cx K n (.E a fs jn) s) (wk cx K n (.E b fs jn) s))
   | .exit id=>wk cx K n (.R (.exit id) fs jn) s
   | .goto l=>wk cx K n (.R (.goto l) fs jn) s
   | .ret=>wk cx K n (.R .ret fs jn) s
   | .label _=>wk cx K n (.R .norm fs jn) s
   | .loop a=>itX cx a s.H.length (bF cx K fs) cx.n (tidy s.H.length (OB (cx.M.named cx.fid) (mg a ([],[])) false) s)
   | c=>be cx c none (bF cx K fs) s
  | .R o fs jn=>match o with
   | .norm=>bb (atJ jn fs.length) (bF cx K fs .norm s) (match fs with
    | []=>K .norm s
    | .seq c::r=>wk cx K n (.E c r jn) s
    | .block _::r=>wk cx K n (.R .norm r jn) s
    | .scope _::r=>wk cx K n (.R .norm r jn) s
    | .scope2 _::r=>wk cx K n (.R .norm r jn) s)
   | .exit i=>match fs with
    | []=>K (.exit i) s
    | .seq _::r=>wk cx K n (.R (.exit i) r (jnT jn fs.length)) s
    | .block id::r=>bb (i==id) (wk cx K n (.R .norm r (jnT jn fs.length)) s) (wk cx K n (.R (.exit i) r (jnT jn fs.length)) s)
    | .scope _::r=>wk cx K n (.R (.exit i) r (jnT jn fs.length)) s
    | .scope2 _::r=>wk cx K n (.R (.exit i) r (jnT jn fs.length)) s
   | .goto l=>match fs with
    | []=>K (.goto l) s
    | .seq _::r=>wk cx K n (.R (.goto l) r (jnT jn fs.length)) s
    | .block _::r=>wk cx K n (.R (.goto l) r (jnT jn fs.length)) s
    | .scope a::r=>bb (bO l a) (wk cx K n (.L a l (.scope2 a::r) (jnT jn fs.length)) s) (wk cx K n (.R (.goto l) r (jnT jn fs.length)) s)
    | .scope2 a::r=>bb (bO l a) (none) (wk cx K n (.R (.goto l) r (jnT jn fs.length)) s)
   | o=>match fs with
    | []=>K o s
    | _::r=>wk cx K n (.R o r (jnT jn fs.length)) s
  | .L c l fs jn=>match c with
   | .seq a b=>bb (bO l a) (wk cx K n (.L a l (.seq b::fs) jn) s) (wk cx K n (.L b l fs jn) s)
   | .label l'=>bb (l'==l) (wk cx K n (.R .norm fs jn) s) (none)
   | c=>Di cx K c l fs s
  | .G c j n0 a fs g kn jn=>match (om c)[j]? with
   | none=>bb ((mt c).any) (apt a (wk cx K n (.R .norm fs jn) s)) (wk cx K n (.R .norm fs jn) s)
   | some (o,i)=>
    let run:=fun env g kn=>sxW n0 ((mt c).strict i) o.op env (opW cx ((mt c).calm i) ((mt c).ord i) o.op env s.H fun v h=>wk cx K n (.G c (j+1) n0 (LM (mt c) i o.op env a) fs g (knR o.dst kn) jn) ⟨oL env o.dst v,h⟩)
    let skip:=fun env g kn=>wk cx K n (.G c (j+1) n0 a fs g (knS o.dst kn) jn) ⟨oL env o.dst uu,s.H⟩
    match o.guard with
    | none=>bb (g) (rh cx c j n0 a (bF cx K fs) s) (run s.env g kn)
    | some (gj,want)=>match ((Kc c)[gj]?).bind (·.dst) with
     | none=>none
     | some d=>match anL d kn with
      | some _=>match s.env[d]? with
       | some (.lit (.bool b))=>bb (b==want) (run (s.env.set d (.lit (.bool b))) g kn) (skip (s.env.set d (.lit (.bool b))) g kn)
       | some (.lit (.tuple _))=>skip s.env g kn
       | _=>none
      | none=>bb g (rh cx c j n0 a (bF cx K fs) s)
       (onO s.env[d]? fun v=>bb want
        (gd v (run (s.env.set d (.lit (.bool true))) true ((d,1)::kn)) (skip (s.env.set d (.lit (.bool false))) true ((d,0)::kn)) (rh cx c (j+1) n0 a (bF cx K fs) ⟨oL s.env o.dst uu,s.H⟩))
        (gd v (skip (s.env.set d (.lit (.bool true))) true ((d,1)::kn)) (run (s.env.set d (.lit (.bool false))) true ((d,0)::kn)) (rh cx c (j+1) n0 a (bF cx K fs) ⟨oL s.env o.dst uu,s.H⟩)))
section
variable {cx:Cx} {K:Out→St→Res} {c:Code} {j n0:Nat} {a:List Nat×List Nat} {s:St} {r:Res}
theorem R8 (h:(om c)[j]? = none):rh cx c j n0 a K s=if (mt c).any then apt a (K .norm s) else K .norm s:=by
 unfold rh
 rw [List.drop_eq_nil_iff.2 (List.getElem?_eq_none_iff.1 h)]
 rfl
theorem QP {o:Oper} {i:Nat} (h:(om c)[j]? = some (o,i)):rh cx c j n0 a K s =
  (let run (env:List V):Res:=if fb n0 ((mt c).strict i) o.op env then (opV cx ((mt c).calm i) ((mt c).ord i) o.op env s.H).bind fun p=>rh cx c (j+1) n0 (LM (mt c) i o.op env a) K ⟨oL env o.dst p.1,p.2⟩ else none
   let skip (env:List V):Res:=rh cx c (j+1) n0 a K ⟨oL env o.dst (.lit undef),s.H⟩
   match o.guard with
   | none=>run s.env
   | some (j,want)=>
    match ((Kc c)[j]?).bind (·.dst) with
    | none=>none
    | some d=>
     match s.env[d]? with
     | some (.lit (.bool b))=>JD b want d s.env run skip
     | some (.lit (.tuple _))=>skip s.env
     | _=>none):=by
 obtain ⟨hj,he⟩:=List.getElem?_eq_some_iff.1 h
 unfold rh
 rw [List.drop_eq_getElem_cons hj,he]
 rfl
theorem agx {st:Bool} {op:Op} {env:List V} {x:Res}:sxW n0 st op env x=if fb n0 st op env then x else none:=by
 unfold sxW fb oZ
 cases st with
 | false=>rfl
 | true=>
  dsimp only [bb,if_true]
  cases mL op with
  | none=>rfl
  | some y=>
   have h:∀ q:Option V,(match q with | some v=>stO n0 v x | none=>x)=if (match (match q with | some v=>KU v | none=>none) with | some i=>decide (i<n0) | none=>true)=true then x else none:=by
    intro q
    cases q with
    | none=>rfl
    | some v=>rfl
   exact h _
end
theorem NY (cx:Cx) (K:Out→St→Res):∀ (n:Nat) (m:Md) (s:St),wk cx K n m s=aoY cx K s m
 | 0,_,_=>rfl
 | n+1,m,s=>by
  have ih:=NY cx K n
  cases m with
  | E c fs jn=>
   cases c with
   | skip=>exact ih _ _
   | region id ops draw=>
    cases draw with
    | false=>exact (ih _ _).trans (go_reg0 rfl).symm
    | true=>
     show bb (Fx ops) (wk cx K n _ s) none=_
     cases h:Fx ops with
     | true=>exact (ih _ _).trans (go_reg1 h rfl).symm
     | false=>
      show none=be cx (.region id ops true) none (bF cx K fs) s
      simp [be,h]
   | seq a b=>exact (ih _ _).trans (go_seq rfl).symm
   | block id a=>exact (ih _ _).trans (go_block rfl).symm
   | scope a=>exact (ih _ _).trans (go_scope rfl).symm
   | cond v a b=>
    show onO (evO s.env v) _=_
    cases h:evO s.env v with
    | none=>
     show none=be cx (.cond v a b) none (bF cx K fs) s
     simp only [be,h]
    | some v=>
     refine Eq.trans ?_ (go_cond h rfl rfl).symm
     show bb _ _ _=_
     cases (rk a&&rk b&&Mq jn fs 0) <;> (simp only [bb,ih];rfl)
   | exit id=>exact ih _ _
   | goto l=>exact ih _ _
   | ret=>exact ih _ _
   | label l=>exact ih _ _
   | loop a=>rfl
   | _=>rfl
  | R o fs jn=>
   cases o with
   | norm=>
    show bb _ _ _=_
    cases atJ jn fs.length with
    | true=>rfl
    | false=>cases fs with
     | nil=>rfl
     | cons f r=>cases f <;> exact ih _ _
   | exit i=>
    cases fs with
    | nil=>rfl
    | cons f r=>cases f with
     | block id=>
      show bb (i==id) _ _=if i=id then _ else _
      by_cases h:i=id
      ·subst h
       rw [beq_self_eq_true,if_pos rfl]
       exact ih _ _
      ·rw [beq_false_of_ne h,if_neg h]
       exact ih _ _
     | _=>exact ih _ _
   | goto l=>
    cases fs with
    | nil=>rfl
    | cons f r=>cases f with
     | scope a=>
      show bb (bO l a) _ _=_
      cases h:bO l a with
      | true=>exact (ih _ _).trans (JV h rfl).symm
      | false=>exact (ih _ _).trans (H4 h rfl).symm
     | scope2 a=>
      show bb (bO l a) _ _=bF cx K (.scope2 a::r) (.goto l) s
      cases h:bO l a with
      | true=>simp only [bF,h,if_true]
      | false=>exact (ih _ _).trans (EP h rfl).symm
     | _=>exact ih _ _
   | ret=>
    cases fs with
    | nil=>rfl
    | cons f r=>cases f <;> exact ih _ _
  | L c l fs jn=>
   cases c with
   | seq a b=>
    show bb (bO l a) _ _=_
    cases h:bO l a with
    | true=>exact (ih _ _).trans (Y5 h rfl).symm
    | false=>exact (ih _ _).trans (TV h rfl).symm
   | label l'=>
    show bb (l'==l) _ _=be cx (.label l') (some l) (bF cx K fs) s
    cases h:l'==l with
    | true=>simp only [be,h,if_true];exact ih _ _
    | false=>simp only [be,h];rfl
   | _=>rfl
  | G c j n0 a fs g kn jn=>
   show (match (om c)[j]? with | none=>_ | some (o,i)=>_)=rh cx c j n0 a (bF cx K fs) s
   cases h:(om c)[j]? with
   | none=>
    rw [R8 h]
    show bb _ _ _=_
    cases (mt c).any <;> (simp only [bb,ih];rfl)
   | some p=>
    obtain ⟨o,i⟩:=p
    have hrun:∀ env g kn,sxW n0 ((mt c).strict i) o.op env (opW cx ((mt c).calm i) ((mt c).ord i) o.op env s.H fun v h=>wk cx K n (.G c (j+1) n0 (LM (mt c) i o.op env a) fs g (knR o.dst kn) jn) ⟨oL env o.dst v,h⟩) =
      if fb n0 ((mt c).strict i) o.op env then (opV cx ((mt c).calm i) ((mt c).ord i) o.op env s.H).bind fun p=>rh cx c (j+1) n0 (LM (mt c) i o.op env a) (bF cx K fs) ⟨oL env o.dst p.1,p.2⟩ else none:=by
     intro env g kn
     rw [agx,aex]
     congr 1
     congr 1
     funext p
     exact ih _ _
    have hskip:∀ env g kn,wk cx K n (.G c (j+1) n0 a fs g (knS o.dst kn) jn) ⟨oL env o.dst uu,s.H⟩=rh cx c (j+1) n0 a (bF cx K fs) ⟨oL env o.dst (.lit undef),s.H⟩:=fun env g kn=>ih _ _
    rw [QP h]
    dsimp only
    simp only [hrun,hskip]
    cases hg:o.guard with
    | none=>
     cases g with
     | true=>rfl
     | false=>rfl
    | some q=>
     obtain ⟨gj,want⟩:=q
     dsimp only
     cases hd:((Kc c)[gj]?).bind (·.dst) with
     | none=>rfl
     | some d=>
      dsimp only
      cases hk:anL d kn with
      | some b=>
       dsimp only
       cases he:s.env[d]? with
       | none=>rfl
       | some v=>
        cases v with
        | lit x=>
         cases x with
         | bool t=>cases t <;> cases want <;> rfl
         | _=>rfl
        | _=>rfl
      | none=>
       cases g with
       | true=>rfl
       | false=>
        dsimp only [bb]
        cases he:s.env[d]? with
        | none=>rfl
        | some v=>
         cases v with
         | lit x=>
          cases x with
          | bool t=>cases t <;> cases want <;> rfl
          | tuple x=>cases want <;> rfl
          | _=>cases want <;> rfl
         | _=>cases want <;> rfl
section
variable {cx:Cx} {K:Out→St→Res} {c:Code} {j n0 n:Nat} {a:List Nat×List Nat} {s:St} {r:Res} {fs:List Fr} {o:Out}
theorem kG (h:wk cx K 999 (.G c j n0 a fs false [] []) s=r:=by kernel_rfl):rh cx c j n0 a (bF cx K fs) s=r:=(NY ..).symm.trans h
theorem kJ (jn:List Nat) (h:wk cx K 999 (.G c j n0 a fs false [] jn) s=r:=by kernel_rfl):rh cx c j n0 a (bF cx K fs) s=r:=(NY ..).symm.trans h
theorem kR (h:wk cx K 999 (.R o fs []) s=r:=by kernel_rfl):bF cx K fs o s=r:=(NY ..).symm.trans h
theorem kI (h:wk cx (oM cx c n0 K n) 999 (.E c [] []) s=r:=by kernel_rfl):itX cx c n0 K (n+1) s=r:=UB ((NY ..).symm.trans h)
theorem kB {fn:Func} {args:List V} {H:Hp} (h:wk cx (a7 cx.P fn) 999 (.E (aj fn) [] []) ⟨args++List.replicate (fn.ntmps - args.length) uu,H⟩=r:=by kernel_rfl) (hb:fn.body=some (aj fn):=by rfl):C4 cx fn args H=r:=PC hb ((NY ..).symm.trans h)
end
end Go.Ab
namespace Go.Ab
universe u v
inductive I where
 | ld (t x d:Nat)
 | ex (x i d:Nat)
 | bo (o:BinOp) (t x y d:Nat)
 | un (o:UnOp) (x d:Nat)
 | cv (a b x d:Nat)
 | fa (t x i d:Nat)
 | fi (t x i d:Nat)
 | ia (t x i d:Nat)
 | ix (t x i d:Nat)
 | lk (t m x:Nat) (ok:Bool) (d:Nat)
 | pk (c a b d:Nat)
 | bu (t:Nat) (l:List (Nat×Nat)) (d:Nat)
 | nk (x d:Nat)
 | mm (b:Bool) (l:List Nat) (d:Nat)
 | bx (x d:Nat)
 | al (t d:Nat)
 | nl (d:Nat)
 | bS (c:Bool) (t len:Nat) (l:List (Nat×Nat)) (d:Nat)
 | mk (d:Nat)
 | ms (t a b d:Nat)
 | sl (c:Bool) (t x:Nat) (lo hi mx:Nat) (d:Nat)
 | le (t x d:Nat)
 | ap (t u a x d:Nat)
 | ca (c o:Bool) (f:Nat) (l:List Nat) (d:Nat)
 | st (t a v:Nat)
 | is (t m x v:Nat)
 | mv (x d:Nat)
 | fn (f:Nat) (a b:List Nat) (d:Nat)
 | no
 | rg
 | so (x:Nat)
 | lr (x:Nat)
 | lw (x:Nat)
 | pt
 | cn (x:Nat) (a b:List I)
 | gd (x:Nat) (a b c:List I)
 | rv (x:Nat)
 | rt (l:List Nat)
 | ro (l:List (Option Nat×Nat))
 | sg (c:Code) (j:Nat) (f:List Fr)
 | sh (c:Code) (j:Nat)
 | lo (c:Code) (m:List Nat) (f:List Fr)
 | ln (c:Code) (m:List Nat)
 | nx (c:Code) (m:List Nat)
 | kt (o:Out) (m:List Nat)
 | kf (o:Out)
 | jn (f:List Fr)
 | rf (c:Code) (f:List Fr)
 | rn (c:Code)
abbrev hi {A:Sort u} {B:Sort v} (_:A) (b:B):B:=b
def gt (e:List V) (i:Nat) (F:V→Res):Res:=hi @wk (onO e[i]? F)
def gts (e:List V):List Nat→(List V→Res)→Res
 | [],F=>hi @wk (F [])
 | i::r,F=>gt e i fun v=>gts e r fun l=>F (v::l)
def gtp (e:List V):List (Nat×Nat)→(List (Nat×V)→Res)→Res
 | [],F=>hi @wk (F [])
 | p::r,F=>gt e p.2 fun v=>gtp e r fun l=>F ((p.1,v)::l)
def gto (e:List V) (i:Nat) (F:Option V→Res):Res:=hi @wk (match i with
 | 0=>F none
 | i+1=>gt e (i+1) fun v=>F (some v))
def s1 (l:List V) (d:Nat) (v:V) (F:List V→Res):Res:=hi @wk (F (l.set d v))
def sE (e:List V) (d:Nat) (v:V) (F:List V→Res):Res:=hi @wk (match d with
 | 0=>F e
 | d+1=>s1 e (d+1) v F)
def dR:Nat→List V→(List V→Res)→Res
 | 0,e,F=>hi @wk (F e)
 | n+1,e,F=>match e with
  | []=>F []
  | _::l=>dR n l F
def kM (b:Bool) (n:Nat):List Nat→List V→(List V→Res)→Res
 | _,[],F=>hi @wk (F [])
 | [],a::l,F=>kM b n [] l fun r=>F ((match b with | true => .junk | false=>V.kill n a)::r)
 | j::m,a::l,F=>match j with
  | 0=>match m with
   | []=>kM (!b) n [] l fun r=>F ((match !b with | true => .junk | false=>V.kill n a)::r)
   | i::m'=>match i with
    | 0=>F []
    | i+1=>kM (!b) n (i::m') l fun r=>F ((match !b with | true => .junk | false=>V.kill n a)::r)
  | j+1=>kM b n (j::m) l fun r=>F ((match b with | true => .junk | false=>V.kill n a)::r)
inductive Cn where
 | u
 | b (x:Bool)
 | i (x:Int)
 | f (x:Nat)
 | v (x:V)
def aps:List Cn→List V→(List V→Res)→Res
 | [],l,F=>hi @wk (F l)
 | c::r,l,F=>aps r l fun x=>F ((match c with
  | .u=>uu
  | .b y => .lit (.bool y)
  | .i y => .lit (.int .i64 y)
  | .f y => .fn (.func y) [] []
  | .v y=>y)::x)
def rep:Nat→(List V→Res)→Res
 | 0,F=>hi @wk (F [])
 | n+1,F=>rep n fun l=>F (uu::l)
def ini:List V→Nat→(List V→Res)→Res
 | [],n,F=>rep n F
 | c::r,n,F=>ini r n fun x=>F (c::x)
def roL (P:Program) (e:List V) (h:Hp):List (Option Nat×Nat)→(List (Option V)→Res)→Res
 | [],F=>hi @wk (F [])
 | p::r,F=>gt e p.2 fun v=>roL P e h r fun l=>F ((match p.1 with | none=>some v | some t=>o8 P t v h)::l)
section
variable (P:Program) (wl:Nat) (cx:Cx) (K:Out→St→Res) (k n:Nat) (N:Nat) (K':Out→St→Res) (n':Nat)
def rI:(fu:Nat)→(z:Nat)→(a:List Nat×List Nat)→List I→List V→Hp→Res
 | 0,_,_,_,_,_=>none
 | fu+1,z,a,p,e,h=>match p with
  | []=>none
  | i::r=>match i with
   | .ld t x d=>gt e x fun x=>bm (o8 P t x h) h fun v h=>sE e d v fun e=>rI fu z a r e h
   | .ex x i d=>gt e x fun x=>bm (lP x i) h fun v h=>sE e d v fun e=>rI fu z a r e h
   | .bo o t x y d=>gt e x fun x=>gt e y fun y=>bm (kZ P o t x y) h fun v h=>sE e d v fun e=>rI fu z a r e h
   | .un o x d=>gt e x fun x=>bm (vUn o x) h fun v h=>sE e d v fun e=>rI fu z a r e h
   | .cv s t x d=>gt e x fun x=>bm (C5 P s t x) h fun v h=>sE e d v fun e=>rI fu z a r e h
   | .fa t x i d=>gt e x fun x=>bm (ag P t x i) h fun v h=>sE e d v fun e=>rI fu z a r e h
   | .fi t x i d=>gt e x fun x=>bm (Bc P t x i) h fun v h=>sE e d v fun e=>rI fu z a r e h
   | .ia t x i d=>gt e x fun x=>gt e i fun i=>bm (aA P t x i h) h fun v h=>sE e d v fun e=>rI fu z a r e h
   | .ix t x i d=>gt e x fun x=>gt e i fun i=>bm (Do P t x i) h fun v h=>sE e d v fun e=>rI fu z a r e h
   | .lk t m x ok d=>gt e m fun m=>gt e x fun x=>bm (kq P t m x ok h) h fun v h=>sE e d v fun e=>rI fu z a r e h
   | .pk c x y d=>gt e c fun c=>gt e x fun x=>gt e y fun y=>bm (EY c x y) h fun v h=>sE e d v fun e=>rI fu z a r e h
   | .bu t l d=>gtp e l fun l=>bm (dn P t l) h fun v h=>sE e d v fun e=>rI fu z a r e h
   | .nk x d=>gt e x fun x=>bm (OD x h) h fun v h=>sE e d v fun e=>rI fu z a r e h
   | .mm b l d=>gts e l fun l=>bm (lx b l) h fun v h=>sE e d v fun e=>rI fu z a r e h
   | .bx x d=>gt e x fun x=>bp (mc x h) fun v h=>sE e d v fun e=>rI fu z a r e h
   | .al t d=>bp (cI P t h) fun v h=>sE e d v fun e=>rI fu z a r e h
   | .nl d=>bp (some (.own h.length 0 0,h++[.rows 0 [] 0 true])) fun v h=>sE e d v fun e=>rI fu z a r e h
   | .bS c t len l d=>gtp e l fun l=>bp (match c with | true=>iG P wl t len l h | false=>aL P wl t len l h) fun v h=>sE e d v fun e=>rI fu z a r e h
   | .mk d=>bp (some (.map h.length,h++[.map []])) fun v h=>sE e d v fun e=>rI fu z a r e h
   | .ms t x y d=>gt e x fun x=>gt e y fun y=>bp (aX P t x y h) fun v h=>sE e d v fun e=>rI fu z a r e h
   | .sl c t x lo hi mx d=>gt e x fun x=>gto e lo fun lo=>gto e hi fun hi=>gto e mx fun mx=>bp (cy P wl c t x lo hi mx h) fun v h=>sE e d v fun e=>rI fu z a r e h
   | .le t x d=>gt e x fun x=>bp (rc P t x h) fun v h=>sE e d v fun e=>rI fu z a r e h
   | .ap t u x y d=>gt e x fun x=>gt e y fun y=>bp (Ax P wl t u x y h) fun v h=>sE e d v fun e=>rI fu z a r e h
   | .ca c o f l d=>gt e f fun f=>gts e l fun l=>bp (nZ cx c o f l h) fun v h=>sE e d v fun e=>rI fu z a r e h
   | .st t x v=>gt e x fun x=>gt e v fun v=>bs (rx P wl t x v h) fun h=>rI fu z a r e h
   | .is t m x v=>gt e m fun m=>gt e x fun x=>gt e v fun v=>bs (lg P wl t m x v h) fun h=>rI fu z a r e h
   | .mv x d=>gt e x fun v=>sE e d v fun e=>rI fu z a r e h
   | .fn f x y d=>gts e x fun x=>gts e y fun y=>sE e d (.fn (.func f) x y) fun e=>rI fu z a r e h
   | .no=>none
   | .rg=>rI fu h.length ([],[]) r e h
   | .so x=>gt e x fun x=>stO z x (rI fu z a r e h)
   | .lr x=>gt e x fun x=>rI fu z (lgR x a) r e h
   | .lw x=>gt e x fun x=>rI fu z (lgW x a) r e h
   | .pt=>apt a (rI fu z a r e h)
   | .cn x p q=>gt e x fun x=>cnd x (rI fu z a p e h) (rI fu z a q e h)
   | .gd x p q c=>gt e x fun x=>Go.Ab.gd x (rI fu z a p e h) (rI fu z a q e h) (rI fu z a c e h)
   | .rv x=>gt e x fun v=>some (v,h)
   | .rt l=>gts e l fun l=>some (.tup l,h)
   | .ro l=>roL P e h l fun l=>afV l h
   | .sg c j f=>dR n e fun l=>rh cx c j z a (bF cx K f) ⟨l,h⟩
   | .sh c j=>dR n e fun l=>rh cx c j z a K ⟨l,h⟩
   | .lo c m f=>dR n e fun l=>kM false h.length m l fun l=>itX cx c h.length (bF cx K f) k ⟨l,pX h.length h⟩
   | .ln c m=>dR n e fun l=>kM false h.length m l fun l=>itX cx c h.length K k ⟨l,pX h.length h⟩
   | .nx c m=>dR n e fun l=>kM false N m l fun l=>itX cx c N K' n' ⟨l,pX N h⟩
   | .kt o m=>dR n e fun l=>kM false N m l fun l=>K' o ⟨l,pX N h⟩
   | .kf o=>dR n e fun l=>K' o ⟨l,h⟩
   | .jn f=>dR n e fun l=>bF cx K f .norm ⟨l,h⟩
   | .rf c f=>dR n e fun l=>be cx c none (bF cx K f) ⟨l,h⟩
   | .rn c=>dR n e fun l=>be cx c none K ⟨l,h⟩
end
section
variable {P:Program} {wl:Nat} {cx:Cx} {K:Out→St→Res} {k n N:Nat} {K':Out→St→Res} {n' fu z:Nat} {a:List Nat×List Nat} {r:List I} {e:List V} {h:Hp}
theorem aks (t:Nat) (x:Nat) (d:Nat):rI P wl cx K k n N K' n' (fu+1) z a (.ld t x d::r) e h=gt e x fun x=>bm (o8 P t x h) h fun v h=>sE e d v fun e=>rI P wl cx K k n N K' n' fu z a r e h:=rfl
theorem alo (x:Nat) (i:Nat) (d:Nat):rI P wl cx K k n N K' n' (fu+1) z a (.ex x i d::r) e h=gt e x fun x=>bm (lP x i) h fun v h=>sE e d v fun e=>rI P wl cx K k n N K' n' fu z a r e h:=rfl
theorem amv (o:BinOp) (t:Nat) (x:Nat) (y:Nat) (d:Nat):rI P wl cx K k n N K' n' (fu+1) z a (.bo o t x y d::r) e h=gt e x fun x=>gt e y fun y=>bm (kZ P o t x y) h fun v h=>sE e d v fun e=>rI P wl cx K k n N K' n' fu z a r e h:=rfl
theorem ajg (o:UnOp) (x:Nat) (d:Nat):rI P wl cx K k n N K' n' (fu+1) z a (.un o x d::r) e h=gt e x fun x=>bm (vUn o x) h fun v h=>sE e d v fun e=>rI P wl cx K k n N K' n' fu z a r e h:=rfl
theorem an6 (s:Nat) (t:Nat) (x:Nat) (d:Nat):rI P wl cx K k n N K' n' (fu+1) z a (.cv s t x d::r) e h=gt e x fun x=>bm (C5 P s t x) h fun v h=>sE e d v fun e=>rI P wl cx K k n N K' n' fu z a r e h:=rfl
theorem ak9 (t:Nat) (x:Nat) (i:Nat) (d:Nat):rI P wl cx K k n N K' n' (fu+1) z a (.fa t x i d::r) e h=gt e x fun x=>bm (ag P t x i) h fun v h=>sE e d v fun e=>rI P wl cx K k n N K' n' fu z a r e h:=rfl
theorem amu (t:Nat) (x:Nat) (i:Nat) (d:Nat):rI P wl cx K k n N K' n' (fu+1) z a (.fi t x i d::r) e h=gt e x fun x=>bm (Bc P t x i) h fun v h=>sE e d v fun e=>rI P wl cx K k n N K' n' fu z a r e h:=rfl
theorem alW (t:Nat) (x:Nat) (i:Nat) (d:Nat):rI P wl cx K k n N K' n' (fu+1) z a (.ia t x i d::r) e h=gt e x fun x=>gt e i fun i=>bm (aA P t x i h) h fun v h=>sE e d v fun e=>rI P wl cx K k n N K' n' fu z a r e h:=rfl
theorem an4 (t:Nat) (x:Nat) (i:Nat) (d:Nat):rI P wl cx K k n N K' n' (fu+1) z a (.ix t x i d::r) e h=gt e x fun x=>gt e i fun i=>bm (Do P t x i) h fun v h=>sE e d v fun e=>rI P wl cx K k n N K' n' fu z a r e h:=rfl
theorem ajy (t:Nat) (m:Nat) (x:Nat) (ok:Bool) (d:Nat):rI P wl cx K k n N K' n' (fu+1) z a (.lk t m x ok d::r) e h=gt e m fun m=>gt e x fun x=>bm (kq P t m x ok h) h fun v h=>sE e d v fun e=>rI P wl cx K k n N K' n' fu z a r e h:=rfl
theorem aj1 (c:Nat) (x:Nat) (y:Nat) (d:Nat):rI P wl cx K k n N K' n' (fu+1) z a (.pk c x y d::r) e h=gt e c fun c=>gt e x fun x=>gt e y fun y=>bm (EY c x y) h fun v h=>sE e d v fun e=>rI P wl cx K k n N K' n' fu z a r e h:=rfl
theorem an7 (t:Nat) (l:List (Nat×Nat)) (d:Nat):rI P wl cx K k n N K' n' (fu+1) z a (.bu t l d::r) e h=gtp e l fun l=>bm (dn P t l) h fun v h=>sE e d v fun e=>rI P wl cx K k n N K' n' fu z a r e h:=rfl
theorem amo (x:Nat) (d:Nat):rI P wl cx K k n N K' n' (fu+1) z a (.nk x d::r) e h=gt e x fun x=>bm (OD x h) h fun v h=>sE e d v fun e=>rI P wl cx K k n N K' n' fu z a r e h:=rfl
theorem am4 (b:Bool) (l:List Nat) (d:Nat):rI P wl cx K k n N K' n' (fu+1) z a (.mm b l d::r) e h=gts e l fun l=>bm (lx b l) h fun v h=>sE e d v fun e=>rI P wl cx K k n N K' n' fu z a r e h:=rfl
theorem amk (x:Nat) (d:Nat):rI P wl cx K k n N K' n' (fu+1) z a (.bx x d::r) e h=gt e x fun x=>bp (mc x h) fun v h=>sE e d v fun e=>rI P wl cx K k n N K' n' fu z a r e h:=rfl
theorem alG (t:Nat) (d:Nat):rI P wl cx K k n N K' n' (fu+1) z a (.al t d::r) e h=bp (cI P t h) fun v h=>sE e d v fun e=>rI P wl cx K k n N K' n' fu z a r e h:=rfl
theorem aoG (d:Nat):rI P wl cx K k n N K' n' (fu+1) z a (.nl d::r) e h=bp (some (.own h.length 0 0,h++[.rows 0 [] 0 true])) fun v h=>sE e d v fun e=>rI P wl cx K k n N K' n' fu z a r e h:=rfl
theorem N9 (t:Nat) (len:Nat) (l:List (Nat×Nat)) (d:Nat):rI P wl cx K k n N K' n' (fu+1) z a (.bS true t len l d::r) e h=gtp e l fun l=>bp (iG P wl t len l h) fun v h=>sE e d v fun e=>rI P wl cx K k n N K' n' fu z a r e h:=rfl
theorem Kg (t:Nat) (len:Nat) (l:List (Nat×Nat)) (d:Nat):rI P wl cx K k n N K' n' (fu+1) z a (.bS false t len l d::r) e h=gtp e l fun l=>bp (aL P wl t len l h) fun v h=>sE e d v fun e=>rI P wl cx K k n N K' n' fu z a r e h:=rfl
theorem aik (d:Nat):rI P wl cx K k n N K' n' (fu+1) z a (.mk d::r) e h=bp (some (.map h.length,h++[.map []])) fun v h=>sE e d v fun e=>rI P wl cx K k n N K' n' fu z a r e h:=rfl
theorem ake (t:Nat) (x:Nat) (y:Nat) (d:Nat):rI P wl cx K k n N K' n' (fu+1) z a (.ms t x y d::r) e h=gt e x fun x=>gt e y fun y=>bp (aX P t x y h) fun v h=>sE e d v fun e=>rI P wl cx K k n N K' n' fu z a r e h:=rfl
theorem alc (c:Bool) (t:Nat) (x:Nat) (lo:Nat) (hi:Nat) (mx:Nat) (d:Nat):rI P wl cx K k n N K' n' (fu+1) z a (.sl c t x lo hi mx d::r) e h=gt e x fun x=>gto e lo fun lo=>gto e hi fun hi=>gto e mx fun mx=>bp (cy P wl c t x lo hi mx h) fun v h=>sE e d v fun e=>rI P wl cx K k n N K' n' fu z a r e h:=rfl
theorem aod (t:Nat) (x:Nat) (d:Nat):rI P wl cx K k n N K' n' (fu+1) z a (.le t x d::r) e h=gt e x fun x=>bp (rc P t x h) fun v h=>sE e d v fun e=>rI P wl cx K k n N K' n' fu z a r e h:=rfl
theorem amW (t:Nat) (u:Nat) (x:Nat) (y:Nat) (d:Nat):rI P wl cx K k n N K' n' (fu+1) z a (.ap t u x y d::r) e h=gt e x fun x=>gt e y fun y=>bp (Ax P wl t u x y h) fun v h=>sE e d v fun e=>rI P wl cx K k n N K' n' fu z a r e h:=rfl
theorem anz (c:Bool) (o:Bool) (f:Nat) (l:List Nat) (d:Nat):rI P wl cx K k n N K' n' (fu+1) z a (.ca c o f l d::r) e h=gt e f fun f=>gts e l fun l=>bp (nZ cx c o f l h) fun v h=>sE e d v fun e=>rI P wl cx K k n N K' n' fu z a r e h:=rfl
theorem anP (t:Nat) (x:Nat) (v:Nat):rI P wl cx K k n N K' n' (fu+1) z a (.st t x v::r) e h=gt e x fun x=>gt e v fun v=>bs (rx P wl t x v h) fun h=>rI P wl cx K k n N K' n' fu z a r e h:=rfl
theorem akX (t:Nat) (m:Nat) (x:Nat) (v:Nat):rI P wl cx K k n N K' n' (fu+1) z a (.is t m x v::r) e h=gt e m fun m=>gt e x fun x=>gt e v fun v=>bs (lg P wl t m x v h) fun h=>rI P wl cx K k n N K' n' fu z a r e h:=rfl
theorem am2 (x:Nat) (d:Nat):rI P wl cx K k n N K' n' (fu+1) z a (.mv x d::r) e h=gt e x fun v=>sE e d v fun e=>rI P wl cx K k n N K' n' fu z a r e h:=rfl
theorem akp (f:Nat) (x:List Nat) (y:List Nat) (d:Nat):rI P wl cx K k n N K' n' (fu+1) z a (.fn f x y d::r) e h=gts e x fun x=>gts e y fun y=>sE e d (.fn (.func f) x y) fun e=>rI P wl cx K k n N K' n' fu z a r e h:=rfl
theorem amz  : rI P wl cx K k n N K' n' (fu+1) z a (.no::r) e h=none:=rfl
theorem amy  : rI P wl cx K k n N K' n' (fu+1) z a (.rg::r) e h=rI P wl cx K k n N K' n' fu h.length ([],[]) r e h:=rfl
theorem akH (x:Nat):rI P wl cx K k n N K' n' (fu+1) z a (.so x::r) e h=gt e x fun x=>stO z x (rI P wl cx K k n N K' n' fu z a r e h):=rfl
theorem akR (x:Nat):rI P wl cx K k n N K' n' (fu+1) z a (.lr x::r) e h=gt e x fun x=>rI P wl cx K k n N K' n' fu z (lgR x a) r e h:=rfl
theorem aog (x:Nat):rI P wl cx K k n N K' n' (fu+1) z a (.lw x::r) e h=gt e x fun x=>rI P wl cx K k n N K' n' fu z (lgW x a) r e h:=rfl
theorem amR  : rI P wl cx K k n N K' n' (fu+1) z a (.pt::r) e h=apt a (rI P wl cx K k n N K' n' fu z a r e h):=rfl
theorem aku (x:Nat) (p:List I) (q:List I):rI P wl cx K k n N K' n' (fu+1) z a (.cn x p q::r) e h=gt e x fun x=>cnd x (rI P wl cx K k n N K' n' fu z a p e h) (rI P wl cx K k n N K' n' fu z a q e h):=rfl
theorem akn (x:Nat) (p:List I) (q:List I) (c:List I):rI P wl cx K k n N K' n' (fu+1) z a (.gd x p q c::r) e h=gt e x fun x=>Go.Ab.gd x (rI P wl cx K k n N K' n' fu z a p e h) (rI P wl cx K k n N K' n' fu z a q e h) (rI P wl cx K k n N K' n' fu z a c e h):=rfl
theorem akt (x:Nat):rI P wl cx K k n N K' n' (fu+1) z a (.rv x::r) e h=gt e x fun v=>some (v,h):=rfl
theorem anw (l:List Nat):rI P wl cx K k n N K' n' (fu+1) z a (.rt l::r) e h=gts e l fun l=>some (.tup l,h):=rfl
theorem aiU (l:List (Option Nat×Nat)):rI P wl cx K k n N K' n' (fu+1) z a (.ro l::r) e h=roL P e h l fun l=>afV l h:=rfl
theorem alN (c:Code) (j:Nat) (f:List Fr):rI P wl cx K k n N K' n' (fu+1) z a (.sg c j f::r) e h=dR n e fun l=>rh cx c j z a (bF cx K f) ⟨l,h⟩:=rfl
theorem akr (c:Code) (j:Nat):rI P wl cx K k n N K' n' (fu+1) z a (.sh c j::r) e h=dR n e fun l=>rh cx c j z a K ⟨l,h⟩:=rfl
theorem al6 (c:Code) (m:List Nat) (f:List Fr):rI P wl cx K k n N K' n' (fu+1) z a (.lo c m f::r) e h=dR n e fun l=>kM false h.length m l fun l=>itX cx c h.length (bF cx K f) k ⟨l,pX h.length h⟩:=rfl
theorem aj2 (c:Code) (m:List Nat):rI P wl cx K k n N K' n' (fu+1) z a (.ln c m::r) e h=dR n e fun l=>kM false h.length m l fun l=>itX cx c h.length K k ⟨l,pX h.length h⟩:=rfl
theorem ajx (c:Code) (m:List Nat):rI P wl cx K k n N K' n' (fu+1) z a (.nx c m::r) e h=dR n e fun l=>kM false N m l fun l=>itX cx c N K' n' ⟨l,pX N h⟩:=rfl
theorem ame (o:Out) (m:List Nat):rI P wl cx K k n N K' n' (fu+1) z a (.kt o m::r) e h=dR n e fun l=>kM false N m l fun l=>K' o ⟨l,pX N h⟩:=rfl
theorem amA (o:Out):rI P wl cx K k n N K' n' (fu+1) z a (.kf o::r) e h=dR n e fun l=>K' o ⟨l,h⟩:=rfl
theorem anS (f:List Fr):rI P wl cx K k n N K' n' (fu+1) z a (.jn f::r) e h=dR n e fun l=>bF cx K f .norm ⟨l,h⟩:=rfl
theorem ajP (c:Code) (f:List Fr):rI P wl cx K k n N K' n' (fu+1) z a (.rf c f::r) e h=dR n e fun l=>be cx c none (bF cx K f) ⟨l,h⟩:=rfl
theorem aob (c:Code):rI P wl cx K k n N K' n' (fu+1) z a (.rn c::r) e h=dR n e fun l=>be cx c none K ⟨l,h⟩:=rfl
end
section
variable {v w:V} {l m:List V} {i j n:Nat} {F:V→Res} {G:List V→Res} {J:List (Nat×V)→Res} {O:Option V→Res} {Q:List (Option V)→Res} {q:List Nat} {P:Program} {h:Hp} {t:Nat}
theorem apT:gt (v::l) 0 F=F v:=rfl
theorem aqo:gt (v::l) (i+1) F=gt l i F:=rfl
theorem aky:gts l [] G=G []:=rfl
theorem ajQ:gts l (i::q) G=gt l i fun v=>gts l q fun l=>G (v::l):=rfl
theorem aoh:gtp l [] J=J []:=rfl
theorem ajz {p:List (Nat×Nat)}:gtp l ((j,i)::p) J=gt l i fun v=>gtp l p fun l=>J ((j,v)::l):=rfl
theorem anZ:gto l 0 O=O none:=rfl
theorem aoj:gto l (i+1) O=gt l (i+1) fun v=>O (some v):=rfl
theorem aq2:s1 (v::l) 0 w G=G (w::l):=rfl
theorem aqW:s1 (v::l) (i+1) w G=s1 l i w fun m=>G (v::m):=rfl
theorem ap4:sE l 0 w G=G l:=rfl
theorem aqt:sE l (i+1) w G=s1 l (i+1) w G:=rfl
theorem aqP:dR 0 l G=G l:=rfl
theorem aqe:dR (i+1) (v::l) G=dR i l G:=rfl
theorem arh {b:Bool}:kM b n [] [] G=G []:=rfl
theorem aq6 {b:Bool}:kM b n (i::q) [] G=G []:=rfl
theorem aqH:kM false n [] (v::l) G=kM false n [] l fun r=>G (V.kill n v::r):=rfl
theorem apY:kM true n [] (v::l) G=kM true n [] l fun r=>G (.junk::r):=rfl
theorem aqF:kM false n ((i+1)::q) (v::l) G=kM false n (i::q) l fun r=>G (V.kill n v::r):=rfl
theorem aqa:kM true n ((i+1)::q) (v::l) G=kM true n (i::q) l fun r=>G (.junk::r):=rfl
theorem aqi:kM false n (0::(i+1)::q) (v::l) G=kM true n (i::q) l fun r=>G (.junk::r):=rfl
theorem ap2:kM true n (0::(i+1)::q) (v::l) G=kM false n (i::q) l fun r=>G (V.kill n v::r):=rfl
theorem aqK:kM false n [0] (v::l) G=kM true n [] l fun r=>G (.junk::r):=rfl
theorem aqQ:kM true n [0] (v::l) G=kM false n [] l fun r=>G (V.kill n v::r):=rfl
theorem alr:aps [] l G=G l:=rfl
theorem al4 {c:List Cn}:aps (.u::c) l G=aps c l fun x=>G (uu::x):=rfl
theorem an0 {c:List Cn} {y:Bool}:aps (.b y::c) l G=aps c l fun x=>G (.lit (.bool y)::x):=rfl
theorem ajI {c:List Cn} {y:Int}:aps (.i y::c) l G=aps c l fun x=>G (.lit (.int .i64 y)::x):=rfl
theorem ajU {c:List Cn}:aps (.f i::c) l G=aps c l fun x=>G (.fn (.func i) [] []::x):=rfl
theorem alF {c:List Cn}:aps (.v v::c) l G=aps c l fun x=>G (v::x):=rfl
theorem am5:rep 0 G=G []:=rfl
theorem alU:rep (n+1) G=rep n fun l=>G (uu::l):=rfl
theorem ajS:ini [] n G=rep n G:=rfl
theorem aoK:ini (v::l) n G=ini l n fun x=>G (v::x):=rfl
theorem ajY:roL P l h [] Q=Q []:=rfl
theorem ajr {p:List (Option Nat×Nat)}:roL P l h ((none,i)::p) Q=gt l i fun v=>roL P l h p fun l=>Q (some v::l):=rfl
theorem aln {p:List (Option Nat×Nat)}:roL P l h ((some t,i)::p) Q=gt l i fun v=>roL P l h p fun l=>Q (o8 P t v h::l):=rfl
end
def aoS:=PLift.up (aI (aI (aI (aI (aI (aI @aks @alo) (aI @amv (aI @ajg @an6))) (aI (aI @ak9 @amu) (aI @alW (aI @an4 @ajy)))) (aI (aI (aI @aj1 @an7) (aI @amo (aI @am4 @amk))) (aI (aI @alG (aI @aoG @N9)) (aI @Kg (aI @aik @ake))))) (aI (aI (aI (aI @alc @aod) (aI @amW (aI @anz @anP))) (aI (aI @akX (aI @am2 @akp)) (aI @amz (aI @amy @akH)))) (aI (aI (aI @akR @aog) (aI @amR (aI @aku @akn))) (aI (aI @akt (aI @anw @aiU)) (aI @alN (aI @akr @al6)))))) (aI (aI (aI (aI (aI @aj2 @ajx) (aI @ame (aI @amA @anS))) (aI (aI @ajP (aI @aob @apT)) (aI @aqo (aI @aky @ajQ)))) (aI (aI (aI @aoh @ajz) (aI @anZ (aI @aoj @aq2))) (aI (aI @aqW (aI @ap4 @aqt)) (aI @aqP (aI @aqe @arh))))) (aI (aI (aI (aI @aq6 @aqH) (aI @apY (aI @aqF @aqa))) (aI (aI @aqi (aI @ap2 @aqK)) (aI @aqQ (aI @alr @al4)))) (aI (aI (aI @an0 @ajI) (aI @ajU (aI @alF @am5))) (aI (aI @alU (aI @ajS @aoK)) (aI @ajY (aI @ajr @aln)))))))
theorem syI:type_of% aoS.down:=aoS.down
end Go.Ab
set_option linter.unusedVariables false
set_option linter.unusedSimpArgs false
namespace Go.Ab
theorem AR {cs:List V} {i g l:Nat} {H:Hp}:nE (some fun i=>i==1) (.tup [.agg cs,.own i g l]) H=bq (fzL 0 true cs H) fun p=>bq (uC p.1 p.2 []) fun q=>bq (uT (.own i g l) q.2.1 q.2.2) fun r=>some (.tup [.agg q.1,r.1],r.2.2):=by
 unfold bq
 show ((((fzL 0 true cs H).bind fun p=>some (V.agg p.1,p.2)).bind fun p=>some ([p.1,V.own i g l],p.2)).bind fun p=>(rr p.1 p.2 []).bind fun q=>some (V.tup q.1,q.2.2))=_
 cases fzL 0 true cs H with
 | none=>rfl
 | some p=>
  show ((rr [V.agg p.1,V.own i g l] p.2 []).bind fun q=>some (V.tup q.1,q.2.2))=_
  simp only [rr,Ik]
  dsimp only [Option.bind_some]
  cases uC p.1 p.2 [] with
  | none=>rfl
  | some q=>
   dsimp only [Option.bind_some]
   cases uT (.own i g l) q.2.1 q.2.2 <;> rfl
theorem AT {cs:List V} {H:Hp}:nE (some fun i=>i==1) (.tup [.agg cs,.nil]) H=bq (fzL 0 true cs H) fun p=>bq (uC p.1 p.2 []) fun q=>some (.tup [.agg q.1,.ro []],q.2.2):=by
 unfold bq
 show ((((fzL 0 true cs H).bind fun p=>some (V.agg p.1,p.2)).bind fun p=>some ([p.1,V.nil],p.2)).bind fun p=>(rr p.1 p.2 []).bind fun q=>some (V.tup q.1,q.2.2))=_
 cases fzL 0 true cs H with
 | none=>rfl
 | some p=>
  show ((rr [V.agg p.1,V.nil] p.2 []).bind fun q=>some (V.tup q.1,q.2.2))=_
  simp only [rr,Ik]
  dsimp only [Option.bind_some]
  cases uC p.1 p.2 [] <;> rfl
theorem u6 {id g len e:Nat} {H acc:Hp} {l:Tye}:hmB id g len H acc (some (.rows e (l.map az) g true))=ck (decide (len≤l.length)) (some (.own acc.length 0 len,H.set id .dead,acc++[.rows e ((l.take len).map az) 0 true])):=AO fun _=>rfl
end Go.Ab
