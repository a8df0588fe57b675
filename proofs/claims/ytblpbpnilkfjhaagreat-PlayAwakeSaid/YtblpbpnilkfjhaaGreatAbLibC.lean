import Derived.Test.YtblpbpnilkfjhaaGreatAbLibB
import Derived.Shelf.Slices.Delete
set_option linter.unusedVariables false
set_option linter.unusedSimpArgs false
namespace Go.Ab
def al:Code→List Nat→Code
 | c,[]=>c
 | .seq a b,i::p=>if i=0 then al a p else al b p
 | .cond _ a b,i::p=>if i=0 then al a p else al b p
 | .block _ a,_::p=>al a p
 | .loop a,_::p=>al a p
 | .scope a,_::p=>al a p
 | .rangeFunc _ _ a b,i::p=>if i=0 then al a p else al b p
 | c,_=>c
def an (fn:Func):Code:=fn.body.getD .skip
structure Sys where
 P:Program
 orc:FuncId→Option (List V→Hp→Option (V×Hp))
 keepRes:FuncId→FuncId→Option (Nat→Bool)
 keepArg:FuncId→Bool
 call:Nat→FuncId→List V→Hp→Option (V×Hp)
 yld:Nat→Nat→List V→Hp→Option (V×Hp)
inductive Fr where
 | seq (c:Code)
 | block (id:Nat)
 | scope (a:Code)
 | scope2 (a:Code)
def uu:V := .lit undef
abbrev Res:=Option (V×Hp)
def aw (cx:Cx) (K:Out→St→Res):List Fr→Out→St→Res
 | [],o,s=>K o s
 | .seq c::fs,o,s=>match o with
  | .norm=>bd cx c none (aw cx K fs) s
  | o=>aw cx K fs o s
 | .block id::fs,o,s=>match o with
  | .exit id'=>if id'=id then aw cx K fs .norm s else aw cx K fs (.exit id') s
  | o=>aw cx K fs o s
 | .scope a::fs,o,s=>match o with
  | .goto l => if bH l a then bd cx a (some l) (fun o' s'' => match o' with | .goto l' => if bH l' a then none else aw cx K fs (.goto l') s'' | o' => aw cx K fs o' s'') s else aw cx K fs (.goto l) s
  | o=>aw cx K fs o s
 | .scope2 a::fs,o,s=>match o with
  | .goto l=>if bH l a then none else aw cx K fs (.goto l) s
  | o=>aw cx K fs o s
def itX (cx:Cx) (c:Code) (n0:Nat) (K:Out→St→Res) (n:Nat) (s:St):Res:=
 Nt (bd cx c none) n0 (cx.M.named cx.fid) (kz c ([],[])) K n s
def eg (cx:Cx) (c:Code) (n0:Nat) (K:Out→St→Res) (n:Nat):Out→St→Res:=fun o s'=>match o with
 | .norm=>itX cx c n0 K n (tidy n0 (JS (cx.M.named cx.fid) (kz c ([],[])) false) s')
 | .ret=>K .ret s'
 | o=>K o (tidy n0 (JS (cx.M.named cx.fid) (kz c ([],[])) true) s')
def Hg:Code→Array Oper
 | .region _ ops _=>ops
 | _ => #[]
def kj:Code→Rg
 | .region _ ops draw=>if draw then pZ ops else Rg.none
 | _=>Rg.none
def mC:Code→List (Oper×Nat)
 | .region _ ops draw=>if draw then aC ops else ops.toList.zipIdx
 | _=>[]
def DU (ops:Array Oper):List Nat:=(aC ops).map (·.2)
def dK (cx:Cx) (c:Code) (j n0:Nat) (a:List Nat×List Nat) (K:Out→St→Res) (s:St):Res:=
 Da cx n0 (kj c) (Hg c) ((mC c).drop j) a (K .norm) s
def av (P:Program) (fn:Func):Out→St→Res:=fun o s=>match o with
 | .norm=>(gm P fn.results.toList s).map fun v=>(v,s.H)
 | .ret=>(gm P fn.results.toList s).map fun v=>(v,s.H)
 | _=>none
def bm (x:Option V) (H:Hp) (k:V→Hp→Res):Res:=(x.map fun v=>(v,H)).bind fun p=>k p.1 p.2
def bp (x:Option (V×Hp)) (k:V→Hp→Res):Res:=x.bind fun p=>k p.1 p.2
def bs (x:Option Hp) (k:Hp→Res):Res:=(x.map fun H'=>(V.lit undef,H')).bind fun p=>k p.2
def cnd (c:V) (a b:Res):Res:=match c with
 | .lit (.bool t)=>bif t then a else b
 | _=>none
def gd (c:V) (a b u:Res):Res:=match c with
 | .lit (.bool t)=>bif t then a else b
 | .lit (.tuple _)=>u
 | _=>none
def az (P:Program) (t:TypeId) (H:Hp):Option (V×Hp):=
 (fD P t).bind fun z=>if bk (bX z) then let p:=bN (bX z) H;some (.ptr p.2.length 0 0 0,p.2++[.box p.1]) else none
def aQ (v:V) (H:Hp):Option (V×Hp):=v.cells.bind fun vs=>let p:=bN vs H;some (.ptr p.2.length 0 0 0,p.2++[.box p.1])
def cZ (P:Program) (wl:Nat) (t:TypeId) (len:Nat) (l:List (Nat×V)) (H:Hp):Option (V×Hp):=
 if true && !bE (l.map (·.2)) then none else aF P wl t len l H
def bh (P:Program) (t:TypeId) (x:V) (H:Hp):Option (V×Hp):=if (mE P t).isSome then (uN x H).map fun v=>(v,H) else none
def kS (P:Program) (wl:Nat) (t u:TypeId) (s x:V) (H:Hp):Option (V×Hp):=if (mE P u).isSome then cR P wl t s x H else none
def apt (a:List Nat×List Nat) (k:Res):Res:=if wT a then k else none
def lgR (v:V) (a:List Nat×List Nat):List Nat×List Nat:=match K5 v with | some k=>(k::a.1,a.2) | none=>a
def lgW (v:V) (a:List Nat×List Nat):List Nat×List Nat:=match K5 v with | some k=>(a.1,k::a.2) | none=>a
def stB (n0:Nat) (v:V):Bool:=match K5 v with | some i=>i<n0 | none=>true
def stO (n0:Nat) (v:V) (k:Res):Res:=if stB n0 v then k else none
def ahT:List (Option V)→Option (List V)
 | []=>some []
 | x::xs=>x.bind fun v=>(ahT xs).bind fun vs=>some (v::vs)
def ew (l:List (Option V)) (H:Hp):Res:=((ahT l).bind fun vs=>match vs with | [v]=>some v | vs=>some (.tup vs)).map fun v=>(v,H)
section steps
variable {cx:Cx} {K:Out→St→Res} {fs:List Fr} {s:St} {r:Res}
theorem Ls {fn:Func} {args:List V} {H:Hp} {c:Code} (hb:fn.body=some c) (h:aw cx (av cx.P fn) [.seq c] .norm ⟨args++List.replicate (fn.ntmps - args.length) uu,H⟩=r):ak cx fn args H=r:=by
 rw [← h]
 unfold ak
 rw [hb]
 have:(fun o s=>match o with
   | .norm=>(gm cx.P fn.results.toList s).map fun v=>(v,s.H)
   | .ret=>(gm cx.P fn.results.toList s).map fun v=>(v,s.H)
   | _=>none:Out→St→Res)=aw cx (av cx.P fn) []:=by
  funext o s
  cases o <;> rfl
 show bd cx c none _ _=bd cx c none (aw cx (av cx.P fn) []) _
 rw [← this]
 rfl
theorem go_seq {a b:Code} (h:aw cx K (.seq a :: .seq b::fs) .norm s=r):aw cx K (.seq (.seq a b)::fs) .norm s=r:=by
 rw [← h]
 show bd cx a none _ s=bd cx a none (aw cx K (.seq b::fs)) s
 congr 1
theorem go_block {id:Nat} {a:Code} (h:aw cx K (.seq a :: .block id::fs) .norm s=r):aw cx K (.seq (.block id a)::fs) .norm s=r:=by
 rw [← h]
 show bd cx a none _ s=bd cx a none (aw cx K (.block id::fs)) s
 congr 1
theorem go_scope {a:Code} (h:aw cx K (.seq a :: .scope a::fs) .norm s=r):aw cx K (.seq (.scope a)::fs) .norm s=r:=by
 rw [← h]
 show bd cx a none _ s=bd cx a none (aw cx K (.scope a::fs)) s
 congr 1
theorem go_ret (h:aw cx K fs .ret s=r):aw cx K (.seq .ret::fs) .norm s=r:=h
theorem FC {a:Code} {l:Nat} (hl:bH l a=false) (h:aw cx K fs (.goto l) s=r):aw cx K (.scope a::fs) (.goto l) s=r:=by
 rw [← h]
 simp only [aw]
 rw [hl]
 rfl
theorem Dg {a:Code} {l:Nat} (hl:bH l a=false) (h:aw cx K fs (.goto l) s=r):aw cx K (.scope2 a::fs) (.goto l) s=r:=by
 rw [← h]
 simp only [aw]
 rw [hl]
 rfl
def Bc (cx:Cx) (K:Out→St→Res) (c:Code) (l:Nat) (fs:List Fr) (s:St):Res:=bd cx c (some l) (aw cx K fs) s
theorem HC {a:Code} {l:Nat} (hl:bH l a=true) (h:Bc cx K a l (.scope2 a::fs) s=r):aw cx K (.scope a::fs) (.goto l) s=r:=by
 rw [← h]
 simp only [aw]
 rw [hl]
 simp only [if_true,Bc]
 congr 1
theorem VA {a b:Code} {l:Nat} (hl:bH l a=true) (h:Bc cx K a l (.seq b::fs) s=r):Bc cx K (.seq a b) l fs s=r:=by
 rw [← h]
 simp only [Bc,bd,hl,if_true]
 congr 1
theorem Rw {a b:Code} {l:Nat} (hl:bH l a=false) (h:Bc cx K b l fs s=r):Bc cx K (.seq a b) l fs s=r:=by
 rw [← h]
 simp [Bc,bd,hl]
theorem go_cond {c:Operand} {a b:Code} {v:V} {A B:Res} (hc:evO s.env c=some v) (hA:aw cx K (.seq a::fs) .norm s=A) (hB:aw cx K (.seq b::fs) .norm s=B) :
  aw cx K (.seq (.cond c a b)::fs) .norm s=cnd v A B:=by
 rw [← hA,← hB]
 show bd cx (.cond c a b) none (aw cx K fs) s=_
 simp only [bd,hc]
 cases v with
 | lit x=>cases x <;> rfl
 | _=>rfl
theorem go_reg0 {id:Nat} {ops:Array Oper} (h:dK cx (.region id ops false) 0 s.H.length ([],[]) (aw cx K fs) s=r):aw cx K (.seq (.region id ops false)::fs) .norm s=r:=by
 rw [← h]
 show bd cx (.region id ops false) none (aw cx K fs) s=_
 simp [bd,dK,kj,Hg,mC]
theorem go_reg1 {id:Nat} {ops:Array Oper} (hok:C8 ops=true) (h:dK cx (.region id ops true) 0 s.H.length ([],[]) (aw cx K fs) s=r):aw cx K (.seq (.region id ops true)::fs) .norm s=r:=by
 rw [← h]
 show bd cx (.region id ops true) none (aw cx K fs) s=_
 simp [bd,dK,kj,Hg,mC,hok]
section ops
variable {id j n0:Nat} {ops:Array Oper} {a:List Nat×List Nat} {env:List V} {H:Hp} {o:Oper} {i:Nat} {L:List Nat}
theorem ae4 (hL:DU ops=L) (hj:L[j]? = some i) (ho:ops.toList[i]? = some o):(aC ops).drop j=(o,i)::(aC ops).drop (j+1):=by
 subst hL
 simp only [DU,List.getElem?_map,Option.map_eq_some_iff] at hj
 obtain ⟨p,hp,rfl⟩:=hj
 have hm:p ∈ aC ops:=List.mem_of_getElem? hp
 have hz:p ∈ ops.toList.zipIdx:=by
  simp only [aC,List.mem_append,List.mem_filter] at hm
  rcases hm with h | h <;> exact h.1
 have hx:ops.toList[p.2]? = some p.1:=by
  obtain ⟨x,k⟩:=p
  simpa [List.mem_zipIdx_iff_getElem?] using hz
 rw [hx] at ho
 cases ho
 rw [List.getElem?_eq_some_iff] at hp
 obtain ⟨hj,he⟩:=hp
 rw [List.drop_eq_getElem_cons hj,he]
def sx (n0:Nat) (st:Bool) (op:Op) (env:List V) (x:Res):Res:=if eo n0 st op env then x else none
theorem agc {st:Bool} {op:Op} {x:Res} (hst:st=false) (h:x=r):sx n0 st op env x=r:=by
 subst hst
 simpa [sx,eo] using h
theorem go_op1 (hL:DU ops=L) (ha:(pZ ops).any=false) (hj:L[j]? = some i) (ho:ops.toList[i]? = some o) (hg:o.guard=none)
  (h:sx n0 ((pZ ops).strict i) o.op env ((opV cx ((pZ ops).calm i) ((pZ ops).ord i) o.op env H).bind (fun p=>dK cx (.region id ops true) (j+1) n0 a K ⟨mN env o.dst p.1,p.2⟩))=r):dK cx (.region id ops true) j n0 a K ⟨env,H⟩=r:=by
 rw [← h]
 simp only [dK,kj,Hg,mC,if_true,ae4 hL hj ho]
 simp only [Da,hg]
 simp [H7,ha,sx]
variable {gj d:Nat} {v:V} {A B C:Res}
end ops
theorem afA {X:Option (V×Hp)} {F:V×Hp→Res} {v:V} {H:Hp} (h1:X=some (v,H)) (h2:F (v,H)=r):X.bind F=r:=by
 subst h1
 exact h2
theorem QL {c:Code} {n0 n:Nat} (h:aw cx (eg cx c n0 K n) [.seq c] .norm s=r):itX cx c n0 K (n+1) s=r:=by
 rw [← h]
 show bd cx c none _ s=bd cx c none (aw cx (eg cx c n0 K n) []) s
 congr 1
end steps
end Go.Ab
namespace Go.Ab
section combinators
variable {H:Hp} {K:V→Hp→Res} {k:Hp→Res} {A B C:Res}
@[congr] theorem ac6 {x y:Option V} (h:x=y):bm x H K=bm y H K:=by rw [h]
@[congr] theorem ac8 {x y:Option (V×Hp)} (h:x=y):bp x K=bp y K:=by rw [h]
@[congr] theorem ac1 {x y:Option Hp} (h:x=y):bs x k=bs y k:=by rw [h]
@[congr] theorem aaF {x y:V} (h:x=y):cnd x A B=cnd y A B:=by rw [h]
@[congr] theorem adf {x y:V} (h:x=y):gd x A B C=gd y A B C:=by rw [h]
def ob {α β:Type} (x:Option α) (k:α→Option β):Option β:=x.bind k
def ck {β:Type} (c:Bool) (k:Option β):Option β:=bif c then k else none
theorem WH {v:V}:bm (some v) H K=K v H:=rfl
theorem WT:bm none H K=none:=rfl
theorem UN {v:V} {h:Hp}:bp (some (v,h)) K=K v h:=rfl
theorem Wr:bp none K=none:=rfl
theorem U2 {h:Hp}:bs (some h) k=k h:=rfl
theorem Ww:bs none k=none:=rfl
theorem acR {α:Type} {x:Option α} {f:α→V}:bm (x.map f) H K=ob x fun a=>K (f a) H:=by cases x <;> rfl
theorem WG {α:Type} {x:Option α} {f:α→Option V}:bm (x.bind f) H K=ob x fun a=>bm (f a) H K:=by cases x <;> rfl
theorem WZ {α:Type} {x:Option α} {f:α→Option (V×Hp)}:bp (x.bind f) K=ob x fun a=>bp (f a) K:=by cases x <;> rfl
theorem Xf {α:Type} {x:Option α} {f:α→Option Hp}:bs (x.bind f) k=ob x fun a=>bs (f a) k:=by cases x <;> rfl
theorem af9 {t:Bool}:cnd (.lit (.bool t)) A B=bif t then A else B:=rfl
theorem aid {t:Bool}:gd (.lit (.bool t)) A B C=bif t then A else B:=rfl
theorem cf {β:Type} {A:Option β}:ck true A=A:=rfl
theorem Dz {β:Type} {A:Option β}:ck false A=none:=rfl
theorem af {α β:Type} {a:α} {f:α→Option β}:ob (some a) f=f a:=rfl
theorem UO {α β:Type} {f:α→Option β}:ob none f=none:=rfl
end combinators
def idx {α:Type} (l:List α) (i:Int):Option α:=if 0≤i then l[i.toNat]? else none
theorem X2 {α:Type} (l:List α) (i:Nat):idx l (i:Int)=l[i]? := by simp [idx]
section ops
variable {P:Program} {t:TypeId} {k k':IntKind} {a b:Int} {x y:V}
theorem Rb:aA P .add t (.lit (.int k a)) (.lit (.int k b))=some (.lit (.int k (k.wrap (a+b)))):=by simp [aA,eH]
theorem Pj:aA P .sub t (.lit (.int k a)) (.lit (.int k b))=some (.lit (.int k (k.wrap (a - b)))):=by simp [aA,eH]
theorem R8:aA P .mul t (.lit (.int k a)) (.lit (.int k b))=some (.lit (.int k (k.wrap (a*b)))):=by simp [aA,eH]
theorem PP:aA P .eql t (.lit (.int k a)) (.lit (.int k b))=some (.lit (.bool (a==b))):=by simp [aA,eH]
theorem QK : aA P .neq t (.lit (.int k a)) (.lit (.int k b)) = some (.lit (.bool (a != b))) := by simp [aA, eH]
theorem Sj:aA P .lss t (.lit (.int k a)) (.lit (.int k b))=some (.lit (.bool (decide (a<b)))):=by simp [aA,eH]
theorem RX:aA P .leq t (.lit (.int k a)) (.lit (.int k b))=some (.lit (.bool (decide (a≤b)))):=by simp [aA,eH]
theorem Re:aA P .gtr t (.lit (.int k a)) (.lit (.int k b))=some (.lit (.bool (decide (b<a)))):=by simp [aA,eH]
theorem QC:aA P .geq t (.lit (.int k a)) (.lit (.int k b))=some (.lit (.bool (decide (b≤a)))):=by simp [aA,eH]
theorem PG : aA P .quo t (.lit (.int k a)) (.lit (.int k b)) = bif b != 0 then some (.lit (.int k (k.wrap (a.tdiv b)))) else none := by
  by_cases h : b = 0
  · simp [aA, eH, h]
  · simp [aA, eH, h, (bne_iff_ne).2 h]
theorem R7 : aA P .rem t (.lit (.int k a)) (.lit (.int k b)) = bif b != 0 then some (.lit (.int k (a.tmod b))) else none := by
  by_cases h : b = 0
  · simp [aA, eH, h]
  · simp [aA, eH, h, (bne_iff_ne).2 h]
theorem V8 {p:Bool}:vUn .not (.lit (.bool p))=some (.lit (.bool !p)):=rfl
theorem Xx {p:Bool}:aS (.lit (.bool p)) x y=some (bif p then x else y):=rfl
theorem Kj {l:List V}:ar (.tup (x::l)) 0=some x:=rfl
theorem JI {l:List V}:ar (.tup (x::y::l)) 1=some y:=rfl
theorem JL {z:V} {l:List V}:ar (.tup (x::y::z::l)) 2=some z:=rfl
end ops
def aG (k:IntKind) (n:Int):List V:=[.lit (.int k n)]
def Bi (b:Bool):List V:=[.lit (.bool b)]
section mem
variable {P:Program} {t:TypeId} {H:Hp} {wl:Nat}
theorem PR {cs:List V}:ab P t (.rp cs) H=aW P t cs:=rfl
def ldB (P:Program) (t:TypeId) (g row off:Nat):Option B→Option V
 | some (.box cs)=>bif g==0&&row==0 then aW P t (cs.drop off) else none
 | some (.rows _ rs g' _)=>bif g==g' then (rs[row]?).bind fun r=>aW P t (r.drop off) else none
 | _=>none
theorem Ms {id g row off:Nat}:ab P t (.ptr id g row off) H=ldB P t g row off (H[id]?):=by
 unfold ab ldB
 dsimp only
 generalize H[id]? = b0
 cases b0 with
 | none=>rfl
 | some b=>cases b <;> simp [Bool.cond_eq_ite]
theorem W7 {off:Nat} {cs:List V}:ldB P t 0 0 off (some (.box cs))=aW P t (cs.drop off):=rfl
theorem QJ {α:Type} {l:List α} {enc:α→List V} {g row off e:Nat} {lv:Bool} :
  ldB P t g row off (some (.rows e (l.map enc) g lv))=(l[row]?).bind fun x=>aW P t ((enc x).drop off):=by
 simp [ldB]
 cases l[row]? <;> rfl
def acY (P : Program) (wl : Nat) (t : TypeId) (id g row off : Nat) (vs : List V) (H : Hp) : Option B → Option Hp
  | some (.box cs) =>
    bif g == 0 && row == 0 && aZ P t != 0 && vs.length == aZ P t && decide (off + vs.length ≤ cs.length) then
      some ((bN vs H).2.set id (.box (spl cs off (bN vs H).1)))
    else none
  | some (.rows _ _ _ _) => (fzL wl true vs H).bind fun p =>
    match p.2[id]? with
    | some (.rows e rs g' true) =>
      bif g == g' && aZ P t != 0 && vs.length == aZ P t then
        (rs[row]?).bind fun r => bif decide (off + p.1.length ≤ r.length) then some (p.2.set id (.rows e (rs.set row (spl r off p.1)) g' true)) else none
      else none
    | _ => none
  | _ => none
theorem KZ {id g row off : Nat} {v : V} : ai P wl t (.ptr id g row off) v H = (v.cells).bind fun vs => bif Nat.ble wl id then acY P wl t id g row off vs H (H[id]?) else none := by
  unfold ai
  cases hv : v.cells with
  | none => simp
  | some vs =>
    simp only [Option.bind_some]
    cases hw : Nat.ble wl id with
    | false => simp
    | true =>
      simp only [if_true, cond_true]
      unfold acY
      generalize H[id]? = b0
      cases b0 with
      | none => rfl
      | some b =>
        cases b with
        | box cs => simp only [Bool.cond_eq_ite, Bool.and_eq_true, beq_iff_eq, bne_iff_ne, decide_eq_true_eq, and_assoc]
        | rows e rs g' lv =>
          simp only
          congr 1
          funext p
          generalize p.2[id]? = b1
          cases b1 with
          | none => rfl
          | some b => 
            cases b with
            | rows e rs g' lv => cases lv <;> simp [Bool.cond_eq_ite, and_assoc]
            | _ => rfl
        | _ => rfl
theorem cE {α : Type} {l : List α} {enc : α → List V} {e : TypeId} {k : IntKind} {n : Int} (hu : P.underlying t = some (.slice e)) (hs : ∀ x, (enc x).length = aZ P e) (hz : (aZ P e != 0) = true) :
    am P t (.ro (l.map enc)) (.lit (.int k n)) H = (idx l n).map fun x => .rp (enc x) := by
  have hz' : aZ P e ≠ 0 := by simpa using hz
  unfold am idx
  simp only [hu]
  split
  · cases hl : l[n.toNat]? with
    | none => simp [hl]
    | some x => simp [hl, hs, hz']
  · rfl
def ixB (sz g len id:Nat) (n:Int):Option B→Option V
 | some (.rows s _ g' _)=>bif g==g'&&s==sz then bif decide (0≤n∧n.toNat<len) then some (.ptr id g n.toNat 0) else none else none
 | _=>none
theorem cB {id g len : Nat} {e : TypeId} {k : IntKind} {n : Int} (hu : P.underlying t = some (.slice e)) (hz : (aZ P e != 0) = true) :
    am P t (.own id g len) (.lit (.int k n)) H = ixB (aZ P e) g len id n (H[id]?) := by
  have hz' : aZ P e ≠ 0 := by simpa using hz
  unfold am ixB
  simp only [hu]
  by_cases hn : 0 ≤ n
  · simp only [hn, if_true, true_and]
    generalize H[id]? = b0
    cases b0 with
    | none => rfl
    | some b =>
      cases b with
      | rows s rs g' lv =>
        simp only [hz', ne_eq, not_false_eq_true, and_true, Bool.cond_eq_ite, Bool.and_eq_true, beq_iff_eq, decide_eq_true_eq]
      | _ => rfl
  · simp only [hn, if_false, false_and, decide_false]
    generalize H[id]? = b0
    cases b0 with
    | none => rfl
    | some b =>
      cases b with
      | rows s rs g' lv => simp
      | _ => rfl
theorem Se {sz g len id:Nat} {n:Int} {rs:List (List V)} {lv:Bool}:ixB sz g len id n (some (.rows sz rs g lv))=bif decide (0≤n∧n.toNat<len) then some (.ptr id g n.toNat 0) else none:=by
 simp [ixB]
theorem VT {rows:List (List V)}:uN (.ro rows) H=some (.lit (.int .i64 rows.length)):=rfl
theorem Qb:uN .nil H=some (.lit (.int .i64 0)):=rfl
def lnB (g len:Nat):Option B→Option V
 | some (.rows _ _ g' _)=>bif g==g' then some (.lit (.int .i64 len)) else none
 | _=>none
theorem Rz {id g len:Nat}:uN (.own id g len) H=lnB g len (H[id]?):=by
 unfold uN lnB
 dsimp only
 generalize H[id]? = b0
 cases b0 with
 | none=>rfl
 | some b=>cases b <;> simp [Bool.cond_eq_ite]
theorem PE {g len e:Nat} {rs:List (List V)} {lv:Bool}:lnB g len (some (.rows e rs g lv))=some (.lit (.int .i64 len)):=by simp [lnB]
theorem LE {v:Value} (h:v.oneCell'=true):aQ (.lit v) H=some (.ptr H.length 0 0 0,H++[.box [.lit v]]):=by
 simp [aQ,V.cells,V.one,h,bN]
theorem Ml {k:IntKind} {n:Int}:aQ (.lit (.int k n)) H=some (.ptr H.length 0 0 0,H++[.box [.lit (.int k n)]]):=LE rfl
theorem Rx {r:List (List V)}:aQ (.ro r) H=some (.ptr H.length 0 0 0,H++[.box [.ro r]]):=by simp [aQ,V.cells,V.one,bN]
theorem OP {l:List V}:aQ (.agg l) H=some (.ptr (bN l H).2.length 0 0 0,(bN l H).2++[.box (bN l H).1]):=by simp [aQ,V.cells]
theorem Sp:bN [] H=([],H):=rfl
theorem Sl {v:Value} {l:List V}:bN (.lit v::l) H=(.lit v::(bN l H).1,(bN l H).2):=rfl
theorem XE {r:List (List V)} {l:List V}:bN (.ro r::l) H=(.ro r::(bN l H).1,(bN l H).2):=rfl
theorem O5 {i g n:Nat} {l:List V}:bN (.own i g n::l) H=(.own i g n::(bN l H).1,(bN l H).2):=rfl
theorem Ve {f:Fn} {a b l:List V}:bN (.fn f a b::l) H=(.fn f a b::(bN l H).1,(bN l H).2):=rfl
theorem OC {l:List V}:bN (.nil::l) H=(.own H.length 0 0::(bN l (H++[.rows 0 [] 0 true])).1,(bN l (H++[.rows 0 [] 0 true])).2):=rfl
theorem Fi {v:Value} (h:v.oneCell'=true):V.cells (.lit v)=some [.lit v]:=by simp [V.cells,V.one,h]
theorem LZ {k:IntKind} {n:Int}:V.cells (.lit (.int k n))=some [.lit (.int k n)]:=Fi rfl
theorem Kz {b:Bool}:V.cells (.lit (.bool b))=some [.lit (.bool b)]:=Fi rfl
theorem Pq {r:List (List V)}:V.cells (.ro r)=some [.ro r]:=rfl
theorem NI {i g n:Nat}:V.cells (.own i g n)=some [.own i g n]:=rfl
theorem Qo {f:Fn} {a b:List V}:V.cells (.fn f a b)=some [.fn f a b]:=rfl
theorem N3 {l:List V}:V.cells (.agg l)=some l:=rfl
theorem Su {id g row off:Nat}:aU (.ptr id g row off) H=(match H[id]? with
  | some (.box _)=>bif g==0 then some (.ptr id g row off) else none
  | some (.rows _ _ g' _)=>bif g==g' then some (.ptr id g row off) else none
  | _=>none):=by
 unfold aU
 dsimp only
 generalize H[id]? = b0
 cases b0 with
 | none=>rfl
 | some b=>cases b <;> simp [Bool.cond_eq_ite]
theorem LP {cx:Cx} {c:Code} {n0:Nat} {K:Out→St→Res} {n:Nat} {s:St}:eg cx c n0 K n .ret s=K .ret s:=rfl
theorem ace {v:V}:ew [some v] H=some (v,H):=rfl
theorem aab {v w:V}:ew [some v,some w] H=some (.tup [v,w],H):=rfl
theorem ZQ {v w x:V}:ew [some v,some w,some x] H=some (.tup [v,w,x],H):=rfl
end mem
end Go.Ab
namespace Go.Ab
mutual
def V.data:V→Bool
 | .lit _=>true
 | .ro _=>true
 | .nil=>true
 | .agg cs=>kx cs
 | .fn _ a b=>LC a&&LC b
 | _=>false
def LC:List V→Bool
 | []=>true
 | v::vs=>v.data&&LC vs
def kx:List V→Bool
 | []=>true
 | .lit _::vs=>kx vs
 | .ro _::vs=>kx vs
 | _::_=>false
end
theorem lm:∀ {l:List V},kx l=true→bE l=true
 | [],_=>rfl
 | .lit _::vs,h=>by
  have:=lm (l:=vs) (by simpa [kx] using h)
  simp [bE,V.pure,this]
 | .ro _::vs,h=>by
  have:=lm (l:=vs) (by simpa [kx] using h)
  simp [bE,V.pure,this]
 | .nil::_,h | .any::_,h | .junk::_,h | .agg _::_,h | .tup _::_,h | .fn .. :: _,h | .yld _::_,h | .rp _::_,h | .ptr .. :: _,h | .own .. :: _,h | .map _::_,h=>by simp [kx] at h
mutual
theorem NB:∀ {v:V},v.data=true→v.pure=true
 | .lit _,_ | .ro _,_ | .nil,_=>rfl
 | .agg cs,h=>lm h
 | .fn _ a b,h=>by
  simp [V.data] at h
  simp [V.pure,rG h.1,rG h.2]
 | .any,h | .junk,h | .tup _,h | .yld _,h | .rp _,h | .ptr ..,h | .own ..,h | .map _,h=>by simp [V.data] at h
theorem rG:∀ {l:List V},LC l=true→bE l=true
 | [],_=>rfl
 | v::vs,h=>by
  simp [LC] at h
  simp [bE,NB h.1,rG h.2]
end
def oN (cx:Cx) (g:FuncId) (args:List V):Option (V×Hp):=(cx.call 0 g args []).bind fun p=>mM (cx.M.keepRes cx.fid g) p.1 p.2
section ret
variable {H:Hp}
theorem RD {v:Value} {h:Hp}:mM none (.lit v) h=some (.lit v,[]):=rfl
def fzB (wl id g len:Nat) (H:Hp):Option B→Option (V×Hp)
 | some (.rows e rs g' _)=>bif g==g'&&decide (len≤rs.length)&&(dI rs&&Nat.ble wl id) then some (.ro (rs.take len),H.set id (.rows e rs g' false)) else none
 | _=>none
theorem rh {wl id g len:Nat}:fzC wl (.own id g len) H=fzB wl id g len H (H[id]?):=by
 unfold fzC fzB
 dsimp only
 generalize H[id]? = b
 cases b with
 | none=>rfl
 | some b=>
  cases b with
  | rows e rs g' lv=>
   by_cases h1:g=g'
   ·by_cases h2:len≤rs.length <;> cases h3:(dI rs&&Nat.ble wl id) <;> simp [h1,h2]
   ·simp [h1,beq_false_of_ne h1]
  | _=>rfl
theorem Qh {α:Type} {l:List α} {enc:α→List V} {wl id g e len:Nat} {lv:Bool} (hl:len=l.length) (hp:∀ x,bE (enc x)=true) (hw:Nat.ble wl id=true) :
  fzB wl id g len H (some (.rows e (l.map enc) g lv))=some (.ro (l.map enc),H.set id (.rows e (l.map enc) g false)):=by
 subst hl
 have h1:dI (l.map enc)=true:=by
  rw [dI,List.all_eq_true]
  intro r hr
  obtain ⟨x,_,rfl⟩:=List.mem_map.1 hr
  exact hp x
 have h2:(l.map enc).take l.length=l.map enc:=by rw [List.take_of_length_le];simp
 simp [fzB,h1,hw,h2]
theorem PV {α:Type} {l:List α} {enc:α→List V} {id g e len:Nat} {lv:Bool} {h:Hp} (hb:h[id]? = some (.rows e (l.map enc) g lv)) (hl:len=l.length) (hp:∀ x,bE (enc x)=true) :
  mM none (.own id g len) h=some (.ro (l.map enc),[]):=by
 simp only [mM,fzR,EL,fzA,rh,hb,Qh hl hp (by simp:Nat.ble 0 id=true),Option.bind_some,V.pure,if_true]
end ret
section app
variable {P:Program} {wl:Nat} {t:TypeId} {H:Hp}
theorem EC {r:List (List V)}:dR (.ro r) H=some r:=rfl
def roB (g len:Nat):Option B→Option (List (List V))
 | some (.rows _ rs g' _)=>bif g==g'&&decide (len≤rs.length) then some (rs.take len) else none
 | _=>none
theorem Ku {id g len:Nat}:dR (.own id g len) H=roB g len (H[id]?):=by
 unfold dR roB
 dsimp only
 generalize H[id]? = b
 cases b with
 | none=>rfl
 | some b=>cases b <;> simp [Bool.cond_eq_ite]
def apB (wl _e:Nat) (sz bytes id g len:Nat) (xs:List (List V)) (H:Hp):Option B→Option (V×Hp)
 | some (.rows s rs g' live)=>
  bif Nat.ble wl id&&(g==g')&&decide (len≤rs.length)&&(live||len==rs.length)&&(s==sz||s==0)&&decide ((len+xs.length)*bytes≤70368744177664) then
   some (.own id (g+1) (len+xs.length),H.set id (.rows sz (rs.take len++xs) (g+1) live)) else none
 | _=>none
theorem eP {e:TypeId} {id g len:Nat} {x:V} (he:mE P t=some e) (hg:KA P e=true) :
  cR P wl t (.own id g len) x H=(dR x H).bind fun xs=>bif eN (aZ P e) xs then apB wl e (aZ P e) (P.bytesOf e) id g len xs H (H[id]?) else none:=by
 unfold cR
 simp only [he]
 cases hr:dR x H with
 | none=>rfl
 | some xs=>
  simp only [Option.bind_some,hg,Bool.and_true]
  cases eN (aZ P e) xs with
  | false=>rfl
  | true=>
   simp only [if_true,cond_true,apB]
   generalize H[id]? = b
   cases b with
   | none=>rfl
   | some b=>
    cases b with
    | rows s rs g' lv=>simp [Bool.cond_eq_ite,and_assoc]
    | _=>rfl
theorem iQ {α:Type} {l:List α} {enc:α→List V} {sz:Nat} (h:∀ x,(enc x).length=sz):eN sz (l.map enc)=true:=by
 rw [eN,List.all_eq_true]
 intro r hr
 obtain ⟨x,_,rfl⟩:=List.mem_map.1 hr
 simp [h]
def room (n bytes:Nat):Bool:=decide (n*bytes≤70368744177664)
theorem Dt {e : TypeId} {n : Int} {z : Value} {Z : List V} (he : mE P t = some e) (hz : fD P e = some z) (hZ : bg.fzZ (bX z) = Z) (ho : (bk (bX z) && (bX z).length == aZ P e && aZ P e != 0) = true) :
    bg P t (.lit (.int .i64 n)) (.lit (.int .i64 n)) H = bif decide (0 ≤ n ∧ n ≤ 9223372036854775807 ∧ n * P.bytesOf e ≤ 70368744177664) then some (.own H.length 0 n.toNat, H ++ [.rows (aZ P e) (List.replicate n.toNat Z) 0 true]) else none := by
  unfold bg
  simp only [he, hz, ho, if_true, hZ, true_and, Bool.cond_eq_ite, decide_eq_true_eq]
end app
theorem kM {α:Type} {l:List α} {enc:α→List V} {n:Nat} (hp:∀ x,bE (enc x)=true):ni n (l.map enc)=l.map enc:=by
 have h1:dI (l.map enc)=true:=by
  rw [dI,List.all_eq_true]
  intro r hr
  obtain ⟨x,_,rfl⟩:=List.mem_map.1 hr
  exact hp x
 simp [ni,h1]
theorem ma {α:Type} {l:List α} {enc:α→List V} {n:Nat} (hp:∀ x,bE (enc x)=true):nm n (l.map enc)=l.map enc:=by
 have h1:dI (l.map enc)=true:=by
  rw [dI,List.all_eq_true]
  intro r hr
  obtain ⟨x,_,rfl⟩:=List.mem_map.1 hr
  exact hp x
 simp [nm,h1]
theorem KM {n:Nat}:nm n []=[]:=rfl
theorem Ny {n:Nat}:ni n []=[]:=rfl
theorem wo (k:IntKind) (x:Int):bE (aG k x)=true:=rfl
theorem KC (x:Bool):bE (Bi x)=true:=rfl
theorem nF (x:Int×List Int):bE (ao x)=true:=rfl
theorem ou (x:Int×Int×Int):bE (aX x)=true:=rfl
theorem OF {k:IntKind} {l:List Int} {n:Nat}:ni n (l.map (aG k))=l.map (aG k):=kM (wo k)
theorem JH {l:List Bool} {n:Nat}:ni n (l.map Bi)=l.map Bi:=kM KC
theorem KX {l:Tyt} {n:Nat}:ni n (l.map ao)=l.map ao:=kM nF
theorem Ht {l:Tye} {n:Nat}:ni n (l.map aX)=l.map aX:=kM ou
theorem JW {k:IntKind} {l:List Int} {n:Nat}:nm n (l.map (aG k))=l.map (aG k):=ma (wo k)
theorem HF {l:Tyt} {n:Nat}:nm n (l.map ao)=l.map ao:=ma nF
theorem Fh {l:Tye} {n:Nat}:nm n (l.map aX)=l.map aX:=ma ou
theorem J3 {n:Nat} {cs:List V}:B.shift n (.box cs) = .box (kP n cs):=rfl
theorem G6 {n e g:Nat} {rs:List (List V)} {l:Bool}:B.shift n (.rows e rs g l) = .rows e (nm n rs) g l:=rfl
theorem L9 {n:Nat} {cs:List V}:B.kill n (.box cs) = .box (ln n cs):=rfl
theorem Ks {n e g:Nat} {rs:List (List V)} {l:Bool}:B.kill n (.rows e rs g l) = .rows e (ni n rs) g l:=rfl
theorem NZ {l:List Bool} {i:Nat} {b:Bool}:(l.map Bi).set i [.lit (.bool b)]=(l.set i b).map Bi:=by rw [List.map_set];rfl
theorem Sq {k:IntKind} {l:List Int} {i:Nat} {b:Int}:(l.map (aG k)).set i [.lit (.int k b)]=(l.set i b).map (aG k):=by rw [List.map_set];rfl
theorem OM {n:Nat} {b:Bool}:List.replicate n [V.lit (.bool b)]=(List.replicate n b).map Bi:=by rw [List.map_replicate];rfl
theorem PY {α:Type} {l:List α} {f:α→List V} {i:Nat}:(l.map f)[i]? = (l[i]?).map f:=List.getElem?_map
theorem Qp (x:Int×List Int):ao x=[.lit (.int .i64 x.1),.ro (x.2.map (aG .i64))]:=rfl
theorem OL {keep:Option (Nat→Bool)} {v:Value} {h:Hp}:mM keep (.lit v) h=some (.lit v,[]):=by
 cases keep <;> rfl
theorem Sv {keep:Option (Nat→Bool)} {r:List (List V)} {h:Hp}:mM keep (.ro r) h=some (.ro r,[]):=by
 cases keep <;> rfl
theorem SP {z:Int} (h1 : -9223372036854775808≤z) (h2:z≤9223372036854775807):IntKind.i64.wrap z=z:=by
 simp [IntKind.wrap,IntKind.bits,IntKind.signed]
 omega
end Go.Ab
namespace Go.Ab
def bdK (id n:Nat):Out→St→Res:=fun o s=>match s.H[id]? with
 | some (.loop l)=>some (.lit (.bool (dP o).isNone),bR n (s.H.set id (.loop { l with st:=if (dP o).isNone then .ready else .done,pending:=dP o })))
 | _=>none
def asK (cx:Cx) (id n:Nat) (body:Code):Out→St→Res:=fun o s=>match o with
 | .norm=>match s.H[id]? with
  | some (.loop l)=>if l.st = .ready then aw cx (bdK id n) [.seq body] .norm ⟨s.env,s.H.set id (.loop { l with st := .busy })⟩ else none
  | _=>none
 | _=>none
def rfK (K:Out→St→Res) (env:List V) (n:Nat) (p:V×Hp):Res:=
 match p.2[n]? with
 | some (.loop l)=>if l.st = .busy then none else
  match l.pending with
  | none=>K .norm ⟨env,bR n p.2⟩
  | some .ret=>K .ret ⟨env,bR n p.2⟩
  | some (.exit id)=>K (.exit id) ⟨env,bR n p.2⟩
  | some (.goto id)=>K (.goto id) ⟨env,bR n p.2⟩
  | some _=>none
 | _=>none
def T8 {σ α:Type} (step:σ→α→Bool×σ):List α→σ→Bool×σ
 | [],s=>(true,s)
 | x::r,s=>if (step s x).1 then T8 step r (step s x).2 else step s x
end Go.Ab
namespace Go.Ab
theorem cU {α:Type} {l r:List α} {x:α} {i:Nat} (h:l.drop i=x::r):i<l.length∧l[i]? = some x∧l.drop (i+1)=r∧x ∈ l∧l.length=i+1+r.length:=by
 have h0:i<l.length:=by
  have:=congrArg List.length h
  simp at this
  omega
 have h1:l.drop i=l[i]::l.drop (i+1):=List.drop_eq_getElem_cons h0
 rw [h] at h1
 injection h1 with h2 h3
 refine ⟨h0,by rw [List.getElem?_eq_getElem h0,h2],h3.symm,h2 ▸ List.getElem_mem h0,?_⟩
 have:=congrArg List.length h
 simp at this
 omega
theorem dN {α:Type} {l:List α} {i:Nat} (h:l.drop i=[]):l.length≤i:=List.drop_eq_nil_iff.1 h
theorem f6 {α:Type} {l:List α} {i:Nat} {x:α} (h:l[i]? = some x):idx l (i:Int)=some x:=by rw [X2,h]
theorem ltT {a b:Int} (h:a<b):decide (a<b)=true:=decide_eq_true h
theorem ltF {a b:Int} (h:b≤a):decide (a<b)=false:=decide_eq_false (by omega)
theorem leT {a b:Int} (h:a≤b):decide (a≤b)=true:=decide_eq_true h
theorem leF {a b:Int} (h:b<a):decide (a≤b)=false:=decide_eq_false (by omega)
theorem ir {k d:Nat} (h:d<k):∃ j,k=j+1:=⟨k - 1,by omega⟩
theorem gH {i:Nat} (h:i≤9223372036854775806):IntKind.i64.wrap ((i:Int)+1)=((i+1:Nat):Int):=by
 rw [SP (by omega) (by omega)]
 omega
end Go.Ab
namespace Go.Ab
def If {α:Type} (p:α→Bool):List α→Nat→Int
 | [],_ => -1
 | x::r,i=>if p x then (i:Int) else If p r (i+1)
theorem ua {α:Type} (p:α→Bool):∀ (l:List α) (i:Nat),decide (0≤If p l i)=l.any p
 | [],_=>rfl
 | x::r,i=>by
  by_cases h:p x=true
  ·simp [If,h]
  ·simpa [If,h] using ua p r (i+1)
end Go.Ab
namespace Go.Ab
theorem aiB {n:Nat} (h:n≤30):decide ((30:Int)<n)=false:=decide_eq_false (by omega)
end Go.Ab
namespace Go.Ab
theorem aiJ {n:Nat} (h:30<n):decide ((30:Int)<n)=true:=decide_eq_true (by omega)
end Go.Ab
namespace Go.Ab
theorem SG {n:Nat}:decide ((n:Int)≤40)=decide (n≤40):=by
 by_cases h:n≤40
 ·rw [decide_eq_true h,decide_eq_true (by omega)]
 ·rw [decide_eq_false h,decide_eq_false (by omega)]
end Go.Ab
namespace Go.Ab
section one
variable {wl e sz bytes id g len s:Nat} {H:Hp} {lv:Bool}
theorem C2 {n b:Nat} (h:n*b≤70368744177664):room n b=true:=decide_eq_true h
end one
end Go.Ab
namespace Go.Ab
theorem gD {α:Type} {l:List α} {enc:α→List V} (hp:∀ x,bE (enc x)=true):dI (l.map enc)=true:=by
 rw [dI,List.all_eq_true]
 intro r hr
 obtain ⟨x,_,rfl⟩:=List.mem_map.1 hr
 exact hp x
theorem wV {k:IntKind} {l:List Int}:dI (l.map (aG k))=true:=gD (wo k)
theorem KV {l:Tyt}:dI (l.map ao)=true:=gD nF
theorem Hk {l:Tye}:dI (l.map aX)=true:=gD ou
end Go.Ab
namespace Go.Ab
section slices
variable {P:Program} {wl:Nat} {c:Bool} {t e:TypeId} {α:Type} {l:List α} {enc:α→List V} {k k':IntKind} {n lo:Int} {H:Hp}
theorem Od (h:∀ x,(enc x).length=aZ P e):(l.map enc).all (fun r=>r.length==aZ P e)=true:=by
 rw [List.all_eq_true]
 intro r hr
 obtain ⟨x,_,rfl⟩:=List.mem_map.1 hr
 simp [h]
theorem FO (he : mE P t = some e) (hz : (aZ P e != 0) = true) (h : ∀ x, (enc x).length = aZ P e) :
    eU P wl c t (.ro (l.map enc)) (some (.lit (.int k n))) none none H = bif decide (0 ≤ n ∧ n ≤ l.length) then some (.ro ((l.drop n.toNat).map enc), H) else none := by
  have hz' : aZ P e ≠ 0 := by simpa using hz
  unfold eU
  simp only [he, bnd]
  by_cases h0 : 0 ≤ n
  · simp only [h0, if_true, Option.bind_some, true_and]
    by_cases h1 : n ≤ l.length
    · have h2 : n.toNat ≤ l.length := by omega
      simp [h1, h2, hz', Od h, List.map_drop, List.take_of_length_le]
    · have h2 : ¬ n.toNat ≤ l.length := by omega
      simp [h1, h2]
  · simp [h0]
end slices
end Go.Ab
namespace Go.Ab
end Go.Ab
namespace Go.Ab
def bq {α β:Type} (x:Option α) (F:α→Option β):Option β:=x.bind F
@[congr] theorem ac4 {α β:Type} {x y:Option α} {F:α→Option β} (h:x=y):bq x F=bq y F:=by rw [h]
def sif {β:Type} (c:Bool) (a b:β):β:=bif c then a else b
@[congr] theorem aaW {β:Type} {c d:Bool} {a b:β} (h:c=d):sif c a b=sif d a b:=by rw [h]
theorem pJ {β:Type} {a b:β}:sif true a b=a:=rfl
theorem m6 {β:Type} {a b:β}:sif false a b=b:=rfl
section
variable {α β γ:Type}
theorem VQ {a:α} {F:α→Option β}:bq (some a) F=F a:=rfl
theorem V9 {F:α→Option β}:bq none F=none:=rfl
theorem Vi {c:Bool} {x y:Option α} {F:α→Option β}:bq (bif c then x else y) F=bif c then bq x F else bq y F:=by cases c <;> rfl
theorem agP {x:Option γ} {f:γ→Option α} {F:α→Option β}:bq (ob x f) F=ob x fun a=>bq (f a) F:=by cases x <;> rfl
theorem aeW {c:Bool} {x:Option α} {F:α→Option β}:bq (ck c x) F=ck c (bq x F):=by cases c <;> rfl
theorem agK {x:Option γ} {f:γ→Option α} {F:α→Option β}:bq (bq x f) F=bq x fun a=>bq (f a) F:=by cases x <;> rfl
theorem afS {x:Option γ} {f:γ→Option α} {F:α→Option β}:ob (ob x f) F=ob x fun a=>ob (f a) F:=by cases x <;> rfl
theorem Xg {c:Bool} {x y:Option α} {F:α→Option β}:ob (bif c then x else y) F=bif c then ob x F else ob y F:=by cases c <;> rfl
theorem ad3 {c:Bool} {x:Option α} {F:α→Option β}:ob (ck c x) F=ck c (ob x F):=by cases c <;> rfl
theorem abq {x:Option γ} {f:γ→α} {F:α→Option β}:ob (x.map f) F=ob x fun a=>F (f a):=by cases x <;> rfl
end
section
variable {α:Type} {H:Hp} {K:V→Hp→Res} {k:Hp→Res}
theorem agC {x:Option α} {f:α→Option (V×Hp)}:bp (ob x f) K=ob x fun a=>bp (f a) K:=by cases x <;> rfl
theorem Vq {c:Bool} {x y:Option V}:bm (bif c then x else y) H K=bif c then bm x H K else bm y H K:=by cases c <;> rfl
theorem VD {c:Bool} {x y:Option (V×Hp)}:bp (bif c then x else y) K=bif c then bp x K else bp y K:=by cases c <;> rfl
theorem XN {c:Bool} {x y:Option Hp}:bs (bif c then x else y) k=bif c then bs x k else bs y k:=by cases c <;> rfl
theorem aeE {c:Bool} {x:Option (V×Hp)}:bp (ck c x) K=ck c (bp x K):=by cases c <;> rfl
end
def rt (kp:Option (Nat→Bool)) (x:Res):Res:=x.bind fun p=>mM kp p.1 p.2
section rt
variable {kp:Option (Nat→Bool)} {α:Type} {h:Hp}
theorem Xm:rt kp none=none:=rfl
theorem Hi {v:V}:rt kp (some (v,h))=mM kp v h:=rfl
theorem VE {c:Bool} {x y:Res}:rt kp (bif c then x else y)=bif c then rt kp x else rt kp y:=by cases c <;> rfl
theorem XC {x:Option α} {f:α→Res}:rt kp (ob x f)=ob x fun a=>rt kp (f a):=by cases x <;> rfl
theorem adS {c:Bool} {x:Res}:rt kp (ck c x)=ck c (rt kp x):=by cases c <;> rfl
def rtN (v:V) (H:Hp):Res:=bq (fzR 0 v H) fun q=>sif q.1.pure (some (q.1,[])) (some q)
theorem Im {v:V}:mM none v h=rtN v h:=by
 show (fzR 0 v h).bind _=(fzR 0 v h).bind _
 congr 1
 funext q
 cases hq:q.1.pure <;> simp [sif,hq]
theorem Vr {c:List V}:mM none (.agg c) h=rtN (.agg c) h:=Im
theorem Xt {c:List V}:mM none (.tup c) h=rtN (.tup c) h:=Im
theorem WV {i g l:Nat}:mM none (.own i g l) h=rtN (.own i g l) h:=Im
theorem Xy {i:Nat}:mM none (.map i) h=some (.map i,h):=rfl
theorem acJ {f:Fn} {a b:List V}:mM none (.fn f a b) h=rtN (.fn f a b) h:=Im
end rt
section fz
variable {wl:Nat} {H:Hp} {nl:Bool}
theorem XV {vs:List V}:fzR wl (.tup vs) H=bq (oA wl vs H) fun p=>some (.tup p.1,p.2):=rfl
theorem W6 {v:Value}:fzR wl (.lit v) H=some (.lit v,H):=rfl
theorem abi {r:List (List V)}:fzR wl (.ro r) H=some (.ro r,H):=rfl
theorem abr {f:Fn} {a b:List V}:fzR wl (.fn f a b) H=some (.fn f a b,H):=rfl
theorem Xk {i g l:Nat}:fzR wl (.own i g l) H=fzB wl i g l H (H[i]?):=rh
theorem Vg {c:List V}:fzR wl (.agg c) H=bq (fzL wl true c H) fun p=>some (.agg p.1,p.2):=rfl
theorem MO:oA wl [] H=some ([],H):=rfl
theorem NW {v:Value} {vs:List V}:oA wl (.lit v::vs) H=bq (oA wl vs H) fun q=>some (.lit v::q.1,q.2):=rfl
theorem Qd {r:List (List V)} {vs:List V}:oA wl (.ro r::vs) H=bq (oA wl vs H) fun q=>some (.ro r::q.1,q.2):=rfl
theorem Oj {i g l:Nat} {vs:List V}:oA wl (.own i g l::vs) H=bq (fzB wl i g l H (H[i]?)) fun p=>bq (oA wl vs p.2) fun q=>some (p.1::q.1,q.2):=by
 show (fzC wl (.own i g l) H).bind _=_
 rw [rh]
 rfl
theorem On {c vs:List V}:oA wl (.agg c::vs) H=bq (fzL wl true c H) fun p=>bq (oA wl vs p.2) fun q=>some (.agg p.1::q.1,q.2):=by
 show ((fzL wl true c H).bind _).bind _=_
 cases fzL wl true c H <;> rfl
theorem Rk:fzL wl nl [] H=some ([],H):=rfl
theorem Ri {v:Value} {vs:List V}:fzL wl nl (.lit v::vs) H=bq (fzL wl nl vs H) fun q=>some (.lit v::q.1,q.2):=rfl
theorem Wj {r:List (List V)} {vs:List V}:fzL wl nl (.ro r::vs) H=bq (fzL wl nl vs H) fun q=>some (.ro r::q.1,q.2):=rfl
theorem OK {vs:List V}:fzL wl true (.nil::vs) H=bq (fzL wl true vs H) fun q=>some (.ro []::q.1,q.2):=rfl
theorem V4 {f:Fn} {a b vs:List V}:fzL wl nl (.fn f a b::vs) H=bq (fzL wl nl vs H) fun q=>some (.fn f a b::q.1,q.2):=rfl
theorem Qn {i g l:Nat} {vs:List V}:fzL wl nl (.own i g l::vs) H=bq (fzB wl i g l H (H[i]?)) fun p=>bq (fzL wl nl vs p.2) fun q=>some (p.1::q.1,q.2):=by
 show (fzC wl (.own i g l) H).bind _=_
 rw [rh]
 rfl
theorem RN:nS wl [] H=some ([],H):=rfl
theorem QE {v:Value} {vs:List V}:nS wl (.lit v::vs) H=bq (nS wl vs H) fun q=>some (.lit v::q.1,q.2):=rfl
theorem Wx {r:List (List V)} {vs:List V}:nS wl (.ro r::vs) H=bq (nS wl vs H) fun q=>some (.ro r::q.1,q.2):=rfl
theorem Mn {vs:List V}:nS wl (.nil::vs) H=bq (nS wl vs H) fun q=>some (.nil::q.1,q.2):=rfl
theorem Vm {f:Fn} {a b vs:List V}:nS wl (.fn f a b::vs) H=bq (nS wl vs H) fun q=>some (.fn f a b::q.1,q.2):=rfl
theorem Qm {i g r o:Nat} {vs:List V}:nS wl (.ptr i g r o::vs) H=bq (nS wl vs H) fun q=>some (.ptr i g r o::q.1,q.2):=rfl
theorem Qc {i g l:Nat} {vs:List V}:nS wl (.own i g l::vs) H=bq (fzB wl i g l H (H[i]?)) fun p=>bq (nS wl vs p.2) fun q=>some (p.1::q.1,q.2):=by
 show (fzC wl (.own i g l) H).bind _=_
 rw [rh]
 rfl
theorem R4 {c vs:List V}:nS wl (.agg c::vs) H=bq (fzL wl true c H) fun p=>bq (nS wl vs p.2) fun q=>some (.agg p.1::q.1,q.2):=by
 show ((fzL wl true c H).bind _).bind _=_
 cases fzL wl true c H <;> rfl
theorem aim {i g len e g':Nat} {rs:List (List V)} {lv:Bool}:fzB wl i g len H (some (.rows e rs g' lv))=sif (g==g'&&(dI rs&&Nat.ble wl i)) (ck (decide (len≤rs.length)) (some (.ro (rs.take len),H.set i (.rows e rs g' false)))) none:=by
 show (bif g==g'&&decide (len≤rs.length)&&(dI rs&&Nat.ble wl i) then _ else _)=_
 generalize (g==g')=a
 generalize decide (len≤rs.length)=b
 generalize (dI rs&&Nat.ble wl i)=c
 cases a <;> cases b <;> cases c <;> rfl
end fz
theorem Sm {α:Type} {l:List α} {n:Nat} (h:l.length=n):l.take n=l:=List.take_of_length_le (by omega)
theorem M3:dI []=true:=rfl
def Gd (n:Nat):Hp→Hp
 | []=>[]
 | b::H=>b.kill n::Gd n H
def uk (n:Nat):Hp→Hp
 | []=>[]
 | b::H=>b.shift n::uk n H
theorem IN {n:Nat}:∀ {H:Hp},H.map (B.kill n)=Gd n H
 | []=>rfl
 | b::H=>by simp [Gd,IN (H:=H)]
theorem wH {n:Nat}:∀ {H:Hp},H.map (B.shift n)=uk n H
 | []=>rfl
 | b::H=>by simp [uk,wH (H:=H)]
theorem Xj {n:Nat} {H:Hp}:bR n H=Gd n (H.take n):=IN
theorem LJ {n:Nat}:Gd n []=[]:=rfl
theorem Kw {n:Nat} {b:B} {H:Hp}:Gd n (b::H)=b.kill n::Gd n H:=rfl
theorem JK {n:Nat}:uk n []=[]:=rfl
theorem Hw {n:Nat} {b:B} {H:Hp}:uk n (b::H)=b.shift n::uk n H:=rfl
theorem Gt {n:Nat} {st:LoopState} {pe:Option Code} {f:FuncId} {ts:List V} {ps:List Tmp} {a b:Code}:B.kill n (.loop ⟨st,pe,f,ts,ps,a,b⟩) = .loop ⟨st,pe,f,ln n ts,ps,a,b⟩:=rfl
def nsh (H:Hp) (v:V) (H2:Hp):Res:=sif (decide (H.length≤H2.length)) (some (v,H2)) none
theorem Td {H H2:Hp} {v:V}:dj H (v,H2)=nsh H v H2:=by
 unfold dj nsh sif
 by_cases h:H.length≤H2.length
 ·simp [h]
 ·simp [h]
theorem ahd {n m:Nat}:Nat.ble n m=decide (n≤m):=by
 have h:(Nat.ble n m=true)=(n≤m):=Nat.ble_eq
 cases hb:Nat.ble n m with
 | true=>
  rw [hb] at h
  exact (decide_eq_true (h.mp rfl)).symm
 | false=>
  rw [hb] at h
  exact (decide_eq_false (fun e=>Bool.noConfusion (h.mpr e))).symm
theorem DI {H:Hp} {c:Bool} {x y:V×Hp}:dj H (sif c x y)=sif c (dj H x) (dj H y):=by cases c <;> rfl
def ldQ (H H':Hp) (q:V×Hp):Res:=dj H (q.1.shift H'.length,bif (q.1.shift H'.length).scal then H else H'++q.2.map (B.shift H'.length))
theorem TI {H H':Hp} {v:V} {h:Hp}:ldQ H H' (v,h)=nsh H (v.shift H'.length) (sif (v.shift H'.length).scal H (H'++uk H'.length h)):=by
 unfold ldQ
 rw [Td,wH]
 rfl
theorem WA {H H':Hp} {v:Value} {h:Hp}:ldQ H H' (.lit v,h)=some (.lit v,H):=by
 rw [TI]
 simp [nsh,sif,V.shift,V.scal]
def ldP (H:Hp) (q:V×Hp):Res:=some (q.1.shift H.length,H++q.2.map (B.shift H.length))
theorem ab0 {H:Hp} {v:V} {h:Hp}:ldP H (v,h)=some (v.shift H.length,H++uk H.length h):=by
 unfold ldP
 rw [wH]
theorem AO {cx:Cx} {g:FuncId} {args:List V} {H:Hp}:iM cx g args H=bq (oN cx g args) (ldP H):=by
 unfold iM oN bq ldP
 cases h:cx.call 0 g args [] with
 | none=>rfl
 | some p=>rfl
theorem Ly {cx:Cx} {o:Bool} {g:FuncId} {first caps args:List V} {H:Hp} :
  bG cx false o (.fn (.func g) first caps) args H=bq (sif (cx.M.keepArg g) (some (first++args++caps,H)) (nS cx.wl (first++args++caps) H)) fun a=>
   sif (bE a.1) (bq (oN cx g a.1) (ldQ H a.2))
    (bq (cx.call cx.wl g a.1 a.2) fun p=>bq (sif (cx.M.keepRes cx.fid g).isSome (some p) (fzR cx.wl p.1 p.2)) fun q=>dj H (sif q.1.pure (q.1,bR a.2.length q.2) q)):=by
 unfold bG C5
 simp only [Bool.false_eq_true,if_false]
 have e1:(if cx.M.keepArg g=true then some (first++args++caps,H) else nS cx.wl (first++args++caps) H)=sif (cx.M.keepArg g) (some (first++args++caps,H)) (nS cx.wl (first++args++caps) H):=by
  cases cx.M.keepArg g <;> rfl
 rw [e1]
 unfold bq
 cases sif (cx.M.keepArg g) (some (first++args++caps,H)) (nS cx.wl (first++args++caps) H) with
 | none=>rfl
 | some a=>
  simp only [Option.bind_some]
  cases hp:bE a.1 with
  | true=>
   simp only [if_true,pJ,AO]
   unfold bq
   cases oN cx g a.1 <;> rfl
  | false=>
   simp only [Bool.false_eq_true,if_false,m6]
   cases cx.call cx.wl g a.1 a.2 with
   | none=>rfl
   | some p=>
    simp only [Option.bind_some]
    have e2:(if (cx.M.keepRes cx.fid g).isSome=true then some p else fzR cx.wl p.1 p.2)=sif (cx.M.keepRes cx.fid g).isSome (some p) (fzR cx.wl p.1 p.2):=by
     cases (cx.M.keepRes cx.fid g).isSome <;> rfl
    rw [e2]
    cases sif (cx.M.keepRes cx.fid g).isSome (some p) (fzR cx.wl p.1 p.2) with
    | none=>rfl
    | some q=>
     simp only [Option.bind_some]
     cases hq:q.1.pure <;> simp [sif]
theorem JU {cx:Cx} {g:FuncId} {first caps args:List V} {H:Hp} :
  bG cx true true (.fn (.func g) first caps) args H =
   sif (bE (first++args++caps)) (bq (oN cx g (first++args++caps)) (ldP H)) (sif (cx.M.keepArg g) none (bq (nS cx.wl (first++args++caps) H) fun a=>
    sif (bE a.1) (bq (oN cx g a.1) fun q=>bq (ldP a.2 q) fun q=>some (q.1,sif q.1.scal H q.2)) (bq (cx.call a.2.length g a.1 a.2) fun p=>sif p.1.scal (some (p.1,H)) none))):=by
 unfold bG kZ
 simp only [if_true,AO]
 cases bE (first++args++caps) with
 | true=>rfl
 | false=>
  simp only [Bool.false_eq_true,if_false,m6]
  cases cx.M.keepArg g with
  | true=>rfl
  | false=>
   simp only [Bool.false_eq_true,if_false,m6]
   unfold bq
   cases nS cx.wl (first++args++caps) H with
   | none=>rfl
   | some a=>
    simp only [Option.bind_some]
    cases bE a.1 with
    | true=>
     simp only [if_true,pJ]
     cases oN cx g a.1 <;> rfl
    | false=>
     simp only [Bool.false_eq_true,if_false,m6]
     cases cx.call a.2.length g a.1 a.2 with
     | none=>rfl
     | some p=>
      simp only [Option.bind_some]
      cases hs:p.1.scal <;> simp [sif]
section rounds
variable {P:Program} {M:Mode}
def yB (P:Program) (M:Mode) (k wl id:Nat) (args:List V) (H:Hp):Option B→Res
 | some (.loop l)=>FS { P,M,fid:=l.fn,round:=true,wl,call:=evF P M k,yld:=evY P M k,n:=k } id l args H
 | _=>none
theorem XR {k wl id:Nat} {args:List V} {H:Hp}:evY P M (k+1) wl id args H=yB P M k wl id args H (H[id]?):=by
 unfold yB
 simp only [evY]
 generalize H[id]? = b
 cases b with
 | none=>rfl
 | some b=>cases b <;> rfl
theorem OZ {k wl id:Nat} {args:List V} {H:Hp} {pe:Option Code} {f:FuncId} {ts:List V} {ps:List Tmp} {a b:Code} :
  yB P M k wl id args H (some (.loop ⟨.ready,pe,f,ts,ps,a,b⟩))=sif (decide (args.length=ps.length)&&Nat.ble wl id)
   (aw { P,M,fid:=f,round:=true,wl,call:=evF P M k,yld:=evY P M k,n:=k } (asK { P,M,fid:=f,round:=true,wl,call:=evF P M k,yld:=evY P M k,n:=k } id H.length b) [.seq a] .norm ⟨ez ts ps args,H⟩) none:=by
 unfold yB FS
 by_cases h:args.length=ps.length
 ·cases hw:Nat.ble wl id with
  | true=>
   simp only [h,hw,and_self,if_true,decide_true,Bool.and_self,pJ]
   show bd _ a none _ _=bd _ a none (aw _ _ []) _
   congr 1
  | false=>simp [hw,sif]
 ·simp [h,sif]
def asB (cx:Cx) (id n:Nat) (body:Code) (env:List V) (H:Hp):Option B→Res
 | some (.loop l)=>if l.st = .ready then aw cx (bdK id n) [.seq body] .norm ⟨env,H.set id (.loop { l with st := .busy })⟩ else none
 | _=>none
theorem XH {cx:Cx} {id n:Nat} {body:Code} {env:List V} {H:Hp}:asK cx id n body .norm ⟨env,H⟩=asB cx id n body env H (H[id]?):=by
 unfold asK asB
 rfl
theorem OJ {cx:Cx} {id n:Nat} {body:Code} {env:List V} {H:Hp} {pe:Option Code} {f:FuncId} {ts:List V} {ps:List Tmp} {a b:Code} :
  asB cx id n body env H (some (.loop ⟨.ready,pe,f,ts,ps,a,b⟩))=aw cx (bdK id n) [.seq body] .norm ⟨env,H.set id (.loop ⟨.busy,pe,f,ts,ps,a,b⟩)⟩:=rfl
def bdB (id n:Nat) (o:Out) (H:Hp):Option B→Res
 | some (.loop l)=>some (.lit (.bool (dP o).isNone),bR n (H.set id (.loop { l with st:=if (dP o).isNone then .ready else .done,pending:=dP o })))
 | _=>none
theorem U8 {id n:Nat} {o:Out} {env:List V} {H:Hp}:bdK id n o ⟨env,H⟩=bdB id n o H (H[id]?):=by
 unfold bdK bdB
 rfl
section
variable {id n:Nat} {H:Hp} {st:LoopState} {pe:Option Code} {f:FuncId} {ts:List V} {ps:List Tmp} {a b:Code}
theorem Qx:bdB id n .norm H (some (.loop ⟨st,pe,f,ts,ps,a,b⟩))=some (.lit (.bool true),bR n (H.set id (.loop ⟨.ready,none,f,ts,ps,a,b⟩))):=rfl
theorem Xb:bdB id n .ret H (some (.loop ⟨st,pe,f,ts,ps,a,b⟩))=some (.lit (.bool false),bR n (H.set id (.loop ⟨.done,some .ret,f,ts,ps,a,b⟩))):=rfl
theorem P8 {i:Nat}:bdB id n (.exit i) H (some (.loop ⟨st,pe,f,ts,ps,a,b⟩))=some (.lit (.bool false),bR n (H.set id (.loop ⟨.done,some (.exit i),f,ts,ps,a,b⟩))):=rfl
def rfB (K:Out→St→Res) (env:List V) (H:Hp):Option B→Res
 | some (.loop l)=>if l.st = .busy then none else
  match l.pending with
  | none=>K .norm ⟨env,H⟩
  | some .ret=>K .ret ⟨env,H⟩
  | some (.exit id)=>K (.exit id) ⟨env,H⟩
  | some (.goto id)=>K (.goto id) ⟨env,H⟩
  | some _=>none
 | _=>none
theorem Yb {K:Out→St→Res} {env:List V} {v:V} {h:Hp}:rfK K env n (v,h)=rfB K env (bR n h) (h[n]?):=by
 unfold rfK rfB
 rfl
theorem RS {K:Out→St→Res} {env:List V}:rfB K env H (some (.loop ⟨.ready,none,f,ts,ps,a,b⟩))=K .norm ⟨env,H⟩:=rfl
theorem UH {K:Out→St→Res} {env:List V}:rfB K env H (some (.loop ⟨.done,some .ret,f,ts,ps,a,b⟩))=K .ret ⟨env,H⟩:=rfl
theorem Pk {K:Out→St→Res} {env:List V} {i:Nat}:rfB K env H (some (.loop ⟨.done,some (.exit i),f,ts,ps,a,b⟩))=K (.exit i) ⟨env,H⟩:=rfl
end
def rgC (cx:Cx) (ps:List Tmp) (a b:Code) (K:Out→St→Res) (env:List V) (H:Hp):V→Res
 | .fn (.func g) [] caps=>bq (cx.call cx.wl g (.yld H.length::caps) (H++[.loop ⟨.ready,none,cx.fid,env,ps,a,b⟩])) (rfK K env H.length)
 | _=>none
theorem aaL {cx:Cx} {ps:List Tmp} {a b:Code} {K:Out→St→Res} {env:List V} {H:Hp} {g:FuncId} {caps:List V} :
  rgC cx ps a b K env H (.fn (.func g) [] caps)=bq (cx.call cx.wl g (.yld H.length::caps) (H++[.loop ⟨.ready,none,cx.fid,env,ps,a,b⟩])) (rfK K env H.length):=rfl
theorem Q6 {cx:Cx} {f:Operand} {ps:Array Tmp} {a b:Code} {K:Out→St→Res} {env:List V} {H:Hp} (hr:cx.round=false) :
  bd cx (.rangeFunc f ps a b) none K ⟨env,H⟩=sif (Nat.ble cx.wl H.length) (bq (evO env f) (rgC cx ps.toList a b K env H)) none:=by
 simp only [bd,hr,Bool.false_or]
 cases hw:Nat.ble cx.wl H.length with
 | false=>rfl
 | true=>
  simp only [Bool.not_true,Bool.false_eq_true,if_false,pJ]
  cases hf:evO env f with
  | none=>rfl
  | some v=>
   simp only [bq,Option.bind_some]
   cases v with
   | fn f first caps=>
    cases f with
    | func g=>
     cases first with
     | nil=>
      simp only [rgC]
      unfold bq
      congr 1
     | cons=>rfl
    | _=>rfl
   | _=>rfl
end rounds
end Go.Ab
namespace Go.Ab
def ub:List V→List (Nat×Nat×V)→Option (List V)
 | cells,[]=>some cells
 | cells,(off,size,v)::rest=>
  match v.cells with
  | some vs=>if vs.length=size∧off+vs.length≤cells.length then ub (spl cells off vs) rest else none
  | none=>none
theorem PN {cells:List V}:ub cells []=some cells:=rfl
theorem MZ {cells:List V} {off size:Nat} {v:V} {rest:List (Nat×Nat×V)}:ub cells ((off,size,v)::rest)=bq v.cells fun vs=>sif (decide (vs.length=size∧off+vs.length≤cells.length)) (ub (spl cells off vs) rest) none:=by
 simp only [ub]
 cases v.cells with
 | none=>rfl
 | some vs=>
  simp only [bq,Option.bind_some]
  by_cases h:vs.length=size∧off+vs.length≤cells.length
  ·rw [if_pos h,decide_eq_true h];rfl
  ·rw [if_neg h,decide_eq_false h];rfl
theorem M1 {wl size:Nat} {rs:List (List V)} {H:Hp}:ig wl size [] rs H=some (rs,H):=rfl
theorem Kt {wl size i:Nat} {v:V} {rest:List (Nat×V)} {rs:List (List V)} {H:Hp}:ig wl size ((i,v)::rest) rs H=bq v.cells fun vs=>bq (fzL wl true vs H) fun p=>sif (decide (i<rs.length∧p.1.length=size)) (ig wl size rest (rs.set i p.1) p.2) none:=by
 simp only [ig]
 cases v.cells with
 | none=>rfl
 | some vs=>
  simp only [bq,Option.bind_some]
  cases fzL wl true vs H with
  | none=>rfl
  | some p=>
   simp only [Option.bind_some]
   by_cases h:i<rs.length∧p.1.length=size
   ·rw [if_pos h,decide_eq_true h];rfl
   ·rw [if_neg h,decide_eq_false h];rfl
theorem KI {k:Value} {v:V}:iH k v []=[(k,v)]:=rfl
theorem GF {k:Value} {v:V} {e:Value×V} {es:List (Value×V)}:iH k v (e::es)=sif (uC k e.1) ((k,v)::es) (e::iH k v es):=by
 simp only [iH]
 cases uC k e.1 <;> rfl
def OW (kk:IntKind):List (Value×V)→Bool
 | []=>true
 | e::es=>ku kk e.1&&OW kk es
theorem Rj {kk:IntKind}:OW kk []=true:=rfl
theorem NY {kk:IntKind} {e:Value×V} {es:List (Value×V)}:OW kk (e::es)=(ku kk e.1&&OW kk es):=rfl
def inB (wl:Nat) (kk:IntKind) (id:Nat) (n:Int) (v:V) (H:Hp):Option B→Option Hp
 | some (.map es)=>if es.all (fun e=>ku kk e.1)&&true&&Nat.ble wl id then some (H.set id (.map (iH (.int kk n) v es))) else none
 | _=>none
theorem Xp {kk:IntKind}:∀ {es:List (Value×V)},es.all (fun e=>ku kk e.1)=OW kk es
 | []=>rfl
 | e::es=>by simp [OW,Xp (es:=es)]
theorem UA {wl id:Nat} {kk:IntKind} {n:Int} {v:V} {H:Hp} {es:List (Value×V)}:inB wl kk id n v H (some (.map es))=sif (OW kk es&&Nat.ble wl id) (some (H.set id (.map (iH (.int kk n) v es)))) none:=by
 simp only [inB,Xp,Bool.and_true]
 cases OW kk es&&Nat.ble wl id <;> rfl
def lkB (kk:IntKind) (z:V) (ok:Bool) (n:Int):Option B→Option V
 | some (.map es)=>if es.all (fun e=>ku kk e.1)&&true then some (bif ok then .tup [(iE (.int kk n) z es).1,.lit (.bool (iE (.int kk n) z es).2)] else (iE (.int kk n) z es).1) else none
 | _=>none
def lkO (kk:IntKind) (z:V) (ok:Bool) (n:Int):List (Value×V)→Option V
 | []=>some (sif ok (.tup [z,.lit (.bool false)]) z)
 | e::es=>bif uC (.int kk n) e.1 then some (sif ok (.tup [e.2,.lit (.bool true)]) e.2) else lkO kk z ok n es
theorem SX {kk:IntKind} {z:V} {ok:Bool} {n:Int}:∀ {es:List (Value×V)},some (bif ok then V.tup [(iE (.int kk n) z es).1,.lit (.bool (iE (.int kk n) z es).2)] else (iE (.int kk n) z es).1)=lkO kk z ok n es
 | []=>by cases ok <;> rfl
 | e::es=>by
  simp only [iE,lkO]
  cases uC (.int kk n) e.1 with
  | true=>cases ok <;> rfl
  | false=>exact SX (es:=es)
theorem VK {kk:IntKind} {z:V} {ok:Bool} {n:Int} {es:List (Value×V)}:lkB kk z ok n (some (.map es))=sif (OW kk es) (lkO kk z ok n es) none:=by
 simp only [lkB,Xp,Bool.and_true,SX]
 cases OW kk es <;> rfl
theorem WY {kk:IntKind} {z:V} {ok:Bool} {n:Int}:lkO kk z ok n []=some (sif ok (.tup [z,.lit (.bool false)]) z):=rfl
theorem Pd {kk:IntKind} {z:V} {ok:Bool} {n:Int} {e:Value×V} {es:List (Value×V)}:lkO kk z ok n (e::es)=bif uC (.int kk n) e.1 then some (sif ok (.tup [e.2,.lit (.bool true)]) e.2) else lkO kk z ok n es:=rfl
theorem KP {p a b:Bool}:aS (.lit (.bool p)) (.lit (.bool a)) (.lit (.bool b))=some (.lit (.bool (bif p then a else b))):=by cases p <;> rfl
theorem PL {k:IntKind} {a b:Int}:gU true [.lit (.int k a),.lit (.int k b)]=some (.lit (.int k (bif decide (a<b) then b else a))):=by
 simp only [gU,if_true,cond_true,gt_iff_lt]
 by_cases h:a<b <;> simp [h]
theorem QP {k:IntKind} {a b:Int}:gU false [.lit (.int k a),.lit (.int k b)]=some (.lit (.int k (bif decide (b<a) then b else a))):=by
 simp only [gU,if_true,cond_false]
 by_cases h:b<a <;> simp [h]
theorem Kv {k:IntKind} {a:Int}:[[V.lit (.int k a)]]=[a].map (aG k):=rfl
theorem EH {a b c:Int}:[[V.lit (.int .i64 a),.lit (.int .i64 b),.lit (.int .i64 c)]]=[(a,b,c)].map aX:=rfl
def P6 (k:IntKind) (a b:Int):Int:=k.wrap (a*2 ^ (min b.toNat k.bits))
def Tv (k:IntKind) (a b:Int):Int:=a.fdiv (2 ^ (min b.toNat k.bits))
def uM (k:IntKind) (a b:Int):Int:=k.wrap (BitVec.ofInt k.bits a &&& BitVec.ofInt k.bits b).toNat
def orI (k:IntKind) (a b:Int):Int:=k.wrap (BitVec.ofInt k.bits a ||| BitVec.ofInt k.bits b).toNat
section
variable {P:Program} {t:TypeId} {k k':IntKind} {a b:Int}
theorem So:aA P .shl t (.lit (.int k a)) (.lit (.int k' b))=bif decide (0≤b) then some (.lit (.int k (P6 k a b))) else none:=by
 by_cases h:b<0
 ·have:¬ 0≤b:=by omega
  simp [aA,eH,h,this]
 ·have h2:0≤b:=by omega
  simp [aA,eH,h,h2,P6]
theorem Rv:aA P .shr t (.lit (.int k a)) (.lit (.int k' b))=bif decide (0≤b) then some (.lit (.int k (Tv k a b))) else none:=by
 by_cases h:b<0
 ·have:¬ 0≤b:=by omega
  simp [aA,eH,h,this]
 ·have h2:0≤b:=by omega
  simp [aA,eH,h,h2,Tv]
theorem Qw:aA P .and t (.lit (.int k a)) (.lit (.int k b))=some (.lit (.int k (uM k a b))):=by simp [aA,eH,uM]
theorem Vj:aA P .or t (.lit (.int k a)) (.lit (.int k b))=some (.lit (.int k (orI k a b))):=by simp [aA,eH,orI]
end
end Go.Ab
namespace Go.Ab
theorem ah4 {g len e g':Nat} {rs:List (List V)} {lv:Bool}:roB g len (some (.rows e rs g' lv))=sif (g==g') (ck (decide (len≤rs.length)) (some (rs.take len))) none:=by
 show (bif g==g'&&decide (len≤rs.length) then _ else _)=_
 generalize (g==g')=a
 generalize decide (len≤rs.length)=b
 cases a <;> cases b <;> rfl
theorem Nv {i g r o:Nat} {H:Hp}:aQ (.ptr i g r o) H=some (.ptr H.length 0 0 0,H++[.box [.ptr i g r o]]):=by simp [aQ,V.cells,V.one,bN]
theorem Xz {k:IntKind} {l:List Int}:eN 1 (l.map (aG k))=true:=iQ fun _=>rfl
theorem LD {l:Tye}:eN 3 (l.map aX)=true:=iQ fun _=>rfl
theorem KH {n:Nat}:eN n []=true:=rfl
theorem XT {wl e sz bytes id g:Nat} {xs:List (List V)} {H:Hp} {lv:Bool} :
  apB wl e sz bytes id g 0 xs H (some (.rows 0 [] g lv))=sif (Nat.ble wl id) (bif room xs.length bytes then some (.own id (g+1) xs.length,H.set id (.rows sz xs (g+1) lv)) else none) none:=by
 cases hb:Nat.ble wl id <;> cases lv <;> simp [apB,hb,sif,room]
theorem N2 {α:Type} {wl e sz bytes id g len s:Nat} {l m:List α} {enc:α→List V} {H:Hp} :
  apB wl e sz bytes id g len (m.map enc) H (some (.rows s (l.map enc) g true)) =
   sif (Nat.ble wl id) (ck (decide (len≤l.length)) (ck (s==sz||s==0) (bif room (l.take len++m).length bytes then some (.own id (g+1) (l.take len++m).length,H.set id (.rows sz ((l.take len++m).map enc) (g+1) true)) else none))) none:=by
 by_cases h:len≤l.length
 ·have h1:(l.take len++m).length=len+m.length:=by simp [h]
  rw [decide_eq_true h,h1]
  simp only [apB,cf,List.length_map,beq_self_eq_true,Bool.and_true,Bool.true_or,decide_eq_true h,room,List.map_append,List.map_take]
  cases Nat.ble wl id <;> cases (s==sz||s==0) <;> simp [sif,ck]
 ·rw [decide_eq_false h,Dz]
  simp [apB,decide_eq_false h,sif]
theorem OD {α:Type} {l:List α} {enc:α→List V} {n:Nat}:(l.map enc).take n=(l.take n).map enc:=by rw [List.map_take]
theorem Kx {l:Tye} {i:Nat} {a b c:Int}:(l.map aX).set i [.lit (.int .i64 a),.lit (.int .i64 b),.lit (.int .i64 c)]=(l.set i (a,b,c)).map aX:=by rw [List.map_set];rfl
theorem Lv {l:Tyt} {i:Nat} {a:Int} {b:List Int}:(l.map ao).set i [.lit (.int .i64 a),.ro (b.map (aG .i64))]=(l.set i (a,b)).map ao:=by rw [List.map_set];rfl
theorem KS {l:Tyt} {i:Nat} {a:Int}:(l.map ao).set i [.lit (.int .i64 a),.ro []]=(l.set i (a,[])).map ao:=by rw [List.map_set];rfl
theorem Fl {a:Int}:[[V.lit (.int .i64 a),.ro []]]=[(a,[])].map ao:=rfl
def slB (g len id:Nat) (n:Int) (H:Hp):Option B→Option (V×Hp)
 | some (.rows _ _ g' _)=>if 0≤n then (if n.toNat≤len∧g=g' then some (.own id g n.toNat,H) else none) else none
 | _=>none
theorem RV {g len id e g':Nat} {n:Int} {H:Hp} {rs:List (List V)} {lv:Bool}:slB g len id n H (some (.rows e rs g' lv))=sif (g==g') (ck (decide (0≤n∧n.toNat≤len)) (some (.own id g n.toNat,H))) none:=by
 unfold slB sif ck
 by_cases h0:0≤n
 ·by_cases h1:n.toNat≤len
  ·by_cases h2:g=g'
   ·simp [h0,h1,h2]
   ·simp [h0,h1,h2,beq_false_of_ne h2]
  ·simp [h0,h1]
 ·simp [h0]
theorem J7 {P : Program} {wl : Nat} {c : Bool} {t e : TypeId} {id g len : Nat} {k : IntKind} {n : Int} {H : Hp} (he : mE P t = some e) (hz : (aZ P e != 0) = true) :
    eU P wl c t (.own id g len) none (some (.lit (.int k n))) none H = slB g len id n H (H[id]?) := by
  have hz' : aZ P e ≠ 0 := by simpa using hz
  unfold eU slB
  simp only [he, bnd]
  by_cases h0 : 0 ≤ n
  · simp only [h0, if_true, Option.bind_some]
    generalize H[id]? = b
    cases b with
    | none => rfl
    | some b => cases b <;> simp [hz']
  · simp only [h0, if_false, Option.bind_none]
    generalize H[id]? = b
    cases b with
    | none => rfl
    | some b => cases b <;> rfl
end Go.Ab
namespace Go.Ab
end Go.Ab
namespace Go.Ab
theorem W2 {env:List V} {t:Nat}:evO env (.tmp t)=env[t]? := rfl
theorem Co {env vs:List V}:ez env [] vs=env:=by cases vs <;> rfl
theorem Bf {env vs:List V} {t:Tmp} {ts:List Tmp} {v:V}:ez env (t::ts) (v::vs)=ez (env.set t v) ts vs:=rfl
end Go.Ab
namespace Go.Ab
theorem UW {n:Nat}:V.kill n uu=uu:=rfl
end Go.Ab
namespace Go.Ab
def aO {α:Type} (bytes:Nat) (l:List α):Option (List α):=ck (Nat.ble (l.length*bytes) 70368744177664) (some l)
section clone
variable {P:Program} {t e:TypeId} {α:Type} {enc:α→List V} {sz bytes:Nat}
theorem iP (he:mE P t=some e) (hz:∃ z,fD P e=some z∧bk (bX z)=true∧((bX z).length==sz)=true) (hs:aZ P e=sz) (hg:KA P e=true) (hb:P.bytesOf e=bytes) (hl:∀ x,(enc x).length=sz) (l:List α) :
  iG P t [.ro (l.map enc)] []=ob (aO bytes l) fun r=>some (.own 1 1 r.length,[.rows 0 [] 0 true,.rows sz (r.map enc) 1 true]):=by
 obtain ⟨z,z1,z2,z3⟩:=hz
 unfold iG
 simp only [he,Option.bind_some,z1,EC,hs,hg,z2,z3,hb,iQ hl,Bool.and_true,Bool.true_and,List.length_map,List.length_nil,List.nil_append]
 unfold aO
 cases Nat.ble (l.length*bytes) 70368744177664 <;> rfl
theorem oM (hl:∀ x,bE (enc x)=true) (l:List α) (g:Nat) :
  rt none (ob (aO bytes l) fun r=>some (.own 1 1 r.length,[.rows 0 [] 0 true,.rows g (r.map enc) 1 true]))=ob (aO bytes l) fun r=>some (.ro (r.map enc),[]):=by
 rw [XC]
 congr 1
 funext r
 rw [Hi]
 exact PV (enc:=enc) (l:=r) (e:=g) (lv:=true) rfl rfl hl
theorem kO (hl:∀ x,bE (enc x)=true) (l:List α) (g:Nat) :
  rt (some fun _=>true) (ob (aO bytes l) fun r=>some (.own 1 1 r.length,[.rows 0 [] 0 true,.rows g (r.map enc) 1 true]))=ob (aO bytes l) fun r=>some (.own 0 0 r.length,[.rows g (r.map enc) 0 true]):=by
 rw [XC]
 congr 1
 funext r
 have h1:dI (r.map enc)=true:=by
  rw [dI,List.all_eq_true]
  intro y hy
  obtain ⟨x,_,rfl⟩:=List.mem_map.1 hy
  exact hl x
 simp [Hi,mM,FH,pF,h1]
 rw [List.take_of_length_le (by simp)]
end clone
end Go.Ab
namespace Go.Ab
theorem Qu {n0 i g r o:Nat} {k:Res}:stO n0 (.ptr i g r o) k=sif (decide (i<n0)) k none:=by
 unfold stO stB K5 sif
 simp only [Bool.cond_eq_ite]
def An (n:Nat):List (Value×V)→List (Value×V)
 | []=>[]
 | e::es=>(e.1,e.2.shift n)::An n es
def Hn (n:Nat):List (Value×V)→List (Value×V)
 | []=>[]
 | e::es=>(e.1,e.2.kill n)::Hn n es
theorem Jc {n:Nat}:∀ {es:List (Value×V)},es.map (fun e=>(e.1,e.2.kill n))=Hn n es
 | []=>rfl
 | e::es=>by simp [Hn,Jc (es:=es)]
theorem Fb {n:Nat}:∀ {es:List (Value×V)},es.map (fun e=>(e.1,e.2.shift n))=An n es
 | []=>rfl
 | e::es=>by simp [An,Fb (es:=es)]
theorem Kk {n:Nat} {es:List (Value×V)}:B.kill n (.map es) = .map (Hn n es):=by
 rw [← Jc]
 rfl
theorem GN {n:Nat} {es:List (Value×V)}:B.shift n (.map es) = .map (An n es):=by
 rw [← Fb]
 rfl
theorem N6 {n:Nat}:Hn n []=[]:=rfl
theorem KL {n:Nat} {e:Value×V} {es:List (Value×V)}:Hn n (e::es)=(e.1,e.2.kill n)::Hn n es:=rfl
theorem Kh {n:Nat}:An n []=[]:=rfl
theorem Gk {n:Nat} {e:Value×V} {es:List (Value×V)}:An n (e::es)=(e.1,e.2.shift n)::An n es:=rfl
end Go.Ab
namespace Go.Ab
end Go.Ab
namespace Go.Ab
open Go
def Un:List (Nat×V)→Bool
 | []=>true
 | p::l=>p.2.pure&&Un l
theorem RE:Un []=true:=rfl
theorem MS {i:Nat} {v:V} {l:List (Nat×V)}:Un ((i,v)::l)=(v.pure&&Un l):=rfl
theorem XW {l:List (Nat×V)}:bE (l.map (·.2))=Un l:=by
 induction l with
 | nil=>rfl
 | cons p l ih=>simp only [List.map_cons,bE,Un,ih]
theorem uB {P:Program} {wl:Nat} {t:TypeId} {len:Nat} {l:List (Nat×V)} {H:Hp} :
  cZ P wl t len l H=bq (ck (Un l) (some ())) fun _=>aF P wl t len l H:=by
 unfold cZ
 rw [XW]
 cases Un l <;> simp [bq,ck]
def ldL (P:Program) (t:TypeId) (off row:Nat):Nat→List (List V)→Option V
 | _,[]=>none
 | i,r::rs=>bif row==i then aW P t (r.drop off) else ldL P t off row (i+1) rs
theorem UL {P:Program} {t:TypeId} {off row i:Nat}:ldL P t off row i []=none:=rfl
theorem PD {P:Program} {t:TypeId} {off row i:Nat} {r:List V} {rs:List (List V)}:ldL P t off row i (r::rs)=bif row==i then aW P t (r.drop off) else ldL P t off row (i+1) rs:=rfl
theorem Um {P:Program} {t:TypeId} {off row:Nat}:∀ {rs:List (List V)} {i:Nat},i≤row→ldL P t off row i rs=(rs[row - i]?).bind fun r=>aW P t (r.drop off)
 | [],i,_=>by simp [ldL]
 | r::rs,i,h=>by
  rw [ldL]
  by_cases e:row=i
  ·subst e;simp
  ·have h1:(row==i)=false:=by simp [e]
   have h2:row - i=(row - (i+1))+1:=by omega
   rw [h1,cond_false,Um (by omega),h2,List.getElem?_cons_succ]
theorem Yf {P:Program} {t:TypeId} {g row off e g':Nat} {r:List V} {rs:List (List V)} {lv:Bool} :
  ldB P t g row off (some (.rows e (r::rs) g' lv))=sif (g==g') (ldL P t off row 0 (r::rs)) none:=by
 rw [Um (Nat.zero_le _),Nat.sub_zero]
 rfl
def Px (x:Int×Int×Int×Int):List V:=[.lit (.int .i64 x.1),.lit (.int .i64 x.2.1),.lit (.int .i64 x.2.2.1),.lit (.int .i64 x.2.2.2)]
def fT (x:List Int):List V:=[.ro (x.map (aG .i64))]
theorem K0 (x:List Int):bE (fT x)=true:=by
 have:=wV (k := .i64) (l:=x)
 simp [fT,bE,V.pure,this]
section
variable {lf:List (Int×Int×Int×Int×Int×Int×Int)} {ll:List (List Int)} {n i:Nat} {a b c d e f g:Int} {x:List Int}
theorem JR:dI (ll.map fT)=true:=gD K0
theorem Nx:(ll.map fT).set i [.ro (x.map (aG .i64))]=(ll.set i x).map fT:=by rw [List.map_set];rfl
theorem EY:[[V.ro []]]=[([]:List Int)].map fT:=rfl
end
theorem LL {k:IntKind} {x y:Int}:uC (.int k x) (.int k y)=(x==y):=by
 cases k <;> rfl
theorem Hq {k:IntKind} {x:Int}:ku k (.int k x)=true:=by
 cases k <;> rfl
theorem Nb {cx:Cx} {c o:Bool} {v:Value} {args:List V} {H:Hp}:bG cx c o (.lit v) args H=none:=rfl
end Go.Ab
namespace Go.Ab
section steps
variable {cx:Cx} {K:Out→St→Res} {s:St} {r:Res} {id j n0:Nat} {ops:Array Oper} {a a':List Nat×List Nat} {env:List V} {H:Hp} {o:Oper} {i:Nat} {L:List Nat}
end steps
def apA:List Nat→List Nat→Bool
 | [],_=>true
 | i::l,m => !(inN i m)&&apA l m
where inN:Nat→List Nat→Bool
 | _,[]=>false
 | i,k::m=>i==k||inN i m
theorem TJ {i:Nat}:∀ {m:List Nat},apA.inN i m=m.contains i
 | []=>rfl
 | k::m=>by
  rw [apA.inN,TJ,List.contains_cons]
theorem SK:∀ {l m:List Nat},wT (l,m)=apA l m
 | [],m=>rfl
 | i::l,m=>by
  have:=SK (l:=l) (m:=m)
  unfold wT at this ⊢
  simp only [List.all_cons] at this ⊢
  rw [this,apA,TJ]
theorem ZK {l m:List Nat} {k:Res}:apt (l,m) k=sif (apA l m) k none:=by
 unfold apt sif
 rw [SK,Bool.cond_eq_ite]
theorem UK {m:List Nat}:apA [] m=true:=rfl
theorem Sx {i:Nat} {l m:List Nat}:apA (i::l) m=(!(apA.inN i m)&&apA l m):=rfl
theorem WM {i:Nat}:apA.inN i []=false:=rfl
theorem Rn {i k:Nat} {m:List Nat}:apA.inN i (k::m)=(i==k||apA.inN i m):=rfl
theorem UT {i g x y:Nat} {l m:List Nat}:lgR (.ptr i g x y) (l,m)=(i::l,m):=rfl
theorem Vb {i g n:Nat} {l m:List Nat}:lgW (.own i g n) (l,m)=(l,i::m):=rfl
theorem WE {i g x y:Nat} {l m:List Nat}:lgW (.ptr i g x y) (l,m)=(l,i::m):=rfl
end Go.Ab
set_option maxRecDepth 100000
namespace Go.Ab
def ahQ:=PLift.up (aI (aI (aI (aI @WH @WT) (aI @UN (aI @Wr @U2))) (aI (aI @Ww (aI @af9 @aid)) @cf)) (aI (aI (aI @af (aI @UO @VQ)) (aI @V9 (aI @pJ @m6))) (aI (aI @WA @KP) (aI @XT (aI @cond_true.{1} @cond_false.{1})))))
theorem syP:type_of% ahQ.down:=ahQ.down
def ahc:=PLift.up (aI (aI (aI (aI (aI (aI (aI (aI @LP @ace) (aI @aab @ZQ)) (aI (aI @acR @WG) @WZ)) (aI (aI @Xf @Vi) (aI @agP @aeW))) (aI (aI (aI (aI @agK @afS) (aI @Xg @ad3)) (aI @abq (aI @agC @Vq))) (aI (aI (aI @VD @XN) @aeE) (aI (aI @Xm @Hi) (aI @VE (aI @XC @adS)))))) (aI (aI (aI (aI (aI @OL @Sv) @Vr) (aI (aI @Xt @WV) (aI @Xy @acJ))) (aI (aI (aI @XV @W6) (aI @abi @abr)) (aI @Xk (aI @Vg @MO)))) (aI (aI (aI @NW @Qd) (aI (aI @Oj @On) (aI @Rk (aI @Ri @Wj)))) (aI (aI (aI @OK @V4) (aI @Qn @RN)) (aI (aI @QE @Wx) (aI @Mn @Vm)))))) (aI (aI (aI (aI (aI @Qm (aI @Qc @R4)) (aI @aim (aI @ahd (aI @OD @Sm)))) (aI (aI (aI @RV @M3) (aI @wV @KV)) (aI @Hk (aI @Xj (aI @LJ @Kw))))) (aI (aI (aI (aI @JK @Hw) (aI @Kk @GN)) (aI (aI @N6 @KL) (aI @Kh (aI @Gk @Qu)))) (aI @Gt (aI @L9 @Ks)))) (aI (aI (aI (aI @J3 (aI @G6 @Ny)) (aI (aI @OF @JH) (aI @KX (aI @Ht @KM)))) (aI (aI @JW (aI @HF (aI @Fh @DI))) (aI (aI @Td @TI) (aI @ab0 @W2)))) (aI (aI (aI (aI @Co @Bf) (aI @XH @OJ)) (aI (aI @U8 @Qx) (aI @Xb @P8))) (aI (aI (aI @Yb @RS) (aI @UH @Pk)) (aI @PN (aI @MZ (aI @M1 @Kt)))))))) (aI (aI (aI (aI (aI (aI @KI (aI @GF @Rj)) (aI @NY (aI @UA (aI @VK @WY)))) (aI (aI @Pd (aI @Rb @Pj)) (aI (aI @R8 @PP) (aI @QK (aI @Sj @RX))))) (aI (aI (aI (aI @Re @QC) (aI @PG @R7)) (aI @So (aI @Rv @Qw))) (aI (aI (aI @Vj @V8) (aI @Xx @PL)) (aI (aI @QP @Kj) (aI @JI (aI @JL @PR)))))) (aI (aI (aI (aI (aI @Ms @W7) (aI @QJ @KZ)) (aI (aI @Se @VT) (aI @Qb (aI @Rz @PE)))) (aI @Ml (aI @Rx @OP))) (aI (aI @Nv (aI (aI @Sp @Sl) (aI @XE @O5))) (aI (aI (aI @Ve @OC) (aI @LZ (aI @Kz @Pq))) (aI @NI (aI @Qo @N3)))))) (aI (aI (aI (aI (aI @Su @UW) (aI (aI @Qp @EC) (aI @Ku @ah4))) (aI (aI @Xz (aI @LD @KH)) (aI (aI @N2 @Kx) (aI @Lv @KS)))) (aI (aI (aI (aI @Fl @NZ) (aI @Sq @OM)) (aI @PY (aI @Kv @EH))) (aI (aI (aI @List.length_map.{0,0} @List.length_cons.{0}) (aI @List.length_nil.{0} @List.length_set.{0})) (aI (aI @List.drop_succ_cons.{0} @List.drop_zero.{0}) (aI @List.take_succ_cons.{0} (aI @List.take_zero.{0} @List.set_cons_zero.{0})))))) (aI (aI (aI (aI (aI @List.set_cons_succ.{0} @List.nil_append.{0}) (aI @List.cons_append.{0} @List.append_nil.{0})) (aI (aI @List.getElem?_cons_zero.{0} @List.getElem?_cons_succ.{0}) @Option.map_some.{0,0})) (aI (aI @Option.bind_some.{0,0} (aI @Nat.zero_add (aI @Nat.add_zero @Nat.le_refl))) (aI (aI @Bool.and_true @Bool.true_and) (aI @Bool.and_false (aI @Bool.false_and @Bool.or_true))))) (aI (aI (aI @Bool.or_false @Bool.not_true) (aI (aI @Bool.not_false @beq_self_eq_true.{0}) (aI @decide_true @decide_false))) (aI (aI (aI @if_true.{1} @if_false.{1}) @and_self) (aI (aI @true_and @Option.isSome_some.{0}) (aI @Option.isSome_none.{0} (aI @Int.cast_ofNat_Int @Int.toNat_natCast)))))))))
theorem syA:type_of% ahc.down:=ahc.down
end Go.Ab
set_option maxRecDepth 100000
namespace Go.Ab
def ahi:=PLift.up (aI (aI (aI (aI (aI @uB @RE) (aI @MS (aI @UL @PD))) (aI @Yf @JR)) (aI @Nx @EY)) (aI (aI (aI @LL (aI @Hq (aI @Nb @ZK))) (aI (aI @UK @Sx) (aI @WM @Rn))) (aI @UT (aI @Vb @WE))))
theorem syQ:type_of% ahi.down:=ahi.down
end Go.Ab
set_option linter.unusedVariables false
set_option linter.unusedSimpArgs false
namespace Go.Ab
open Go.Proofs Go.RowKit Go.Shelf Go.Sort Go.Lib
def uj:List (List V)→Option (List Int)
 | []=>some []
 | [.lit (.int .i64 n)]::l=>(uj l).map (n :: ·)
 | _=>none
theorem BR:∀ {rs:List (List V)} {zs:List Int},uj rs=some zs→rs=zs.map fun n=>[V.lit (.int .i64 n)]
 | [],zs,h=>by cases h;rfl
 | r::l,zs,h=>by
  unfold uj at h
  split at h
  ·rename_i h2;cases h2
  ·rename_i n l' h2
   cases h2
   cases hl:uj l with
   | none=>rw [hl] at h;cases h
   | some z=>rw [hl] at h;cases h;rw [List.map_cons,← BR hl]
  ·cases h
def D4 (zs:List Int) (a b:Nat):List Int:=zs.take a++zs.drop b++List.replicate (b - a) 0
def Xn (args:List V) (H:Hp):Option (V×Hp):=
 match args with
 | [.own id g len,.lit (.int .i64 a),.lit (.int .i64 b)]=>
  match H[id]? with
  | some (.rows e rs g' true)=>
   if e=1∧g=g'∧len≤rs.length∧0≤a∧a<b∧b.toNat≤len∧len≤9223372036854775807 then
    (uj (rs.take len)).map fun zs=>(.own id g (len - (b.toNat - a.toNat)),H.set id (.rows 1 ((D4 zs a.toNat b.toNat).map (fun n=>[V.lit (.int .i64 n)])++rs.drop len) g true))
   else none
  | _=>none
 | _=>none
section
variable {P:Program} {ρ:Ren}
set_option maxHeartbeats 4000000 in
set_option maxRecDepth 1000000 in
theorem X6 (L:Lays2.n23 P ρ) {b off c i j:Nat} {d:Array Int} {w:World} (hH:Holds (Value.int .i64) w b off d) (hc:d.size≤c) (hm:d.size≤9223372036854775807) (hij:i<j) (hj:j≤d.size) :
  Calls P (ρ.f 23) #[.slice (some ⟨b,off,none⟩) d.size c,.int .i64 i,.int .i64 j] w fun e w'=>e = .returned (.slice (some ⟨b,off,none⟩) (d.size - (j - i)) c) ∧
   w'=putRow (Value.int .i64) (Sort.ahead w 1) b off (D4 d.toList i j).toArray:=by
 have mixed:=L.mixed;have t0:=L.t0;have a0:=L.a0;have z0:=L.z0;have v0:=L.v0;have t3:=L.t3;have a3:=L.a3;have z3:=L.z3;have v3:=L.v3
 have t4:=L.t4;have a4:=L.a4;have z4:=L.z4;have v4:=L.v4;have t22:=L.t22;have a22:=L.a22;have z22:=L.z22;have v22:=L.v22
 obtain ⟨info,hinfo,hz0,hz1,_⟩:=info_parts L.i3
 generalize hns:(d.toList.drop j).map (Value.int .i64)=ns
 have nl:ns.length=d.size - j:=by rw [← hns];simp
 have at_:∀ t,t<d.size - j→ns[t]? = some (Value.int .i64 d[j+t]!):=fun t ht=>by
  rw [← hns,List.getElem?_map,List.getElem?_drop,Array.getElem?_toList,getElem!_pos d (j+t) (by omega),Array.getElem?_eq_getElem (by omega)]
  rfl
 -- where those behind lie
 have src:∃ A:Addr,(if c=j then some (⟨b,off,none⟩:Addr) else some ⟨b,off+j,none⟩)=some A∧Hid (∀ t u,ns[t]? = some u→w.drew.cell? (A.add t)=some u):=by
  rcases Decidable.em (c=j) with e | e
  ·refine ⟨⟨b,off,none⟩,if_pos e,fun t u hu => ?_⟩
   have:=(List.getElem?_eq_some_iff.1 hu).1
   omega
  ·refine ⟨⟨b,off+j,none⟩,if_neg e,fun t u hu => ?_⟩
   have ht:t<d.size - j:=by have:=(List.getElem?_eq_some_iff.1 hu).1;omega
   rw [at_ t ht] at hu
   rw [Addr.add_lit,Nat.add_assoc]
   exact (hH (j+t) (by omega)).1.trans hu
 obtain ⟨A,hA,hsrc⟩:=src
 have one:Hid (ns.length=(d.size - j)*1):=by rw [Nat.mul_one];exact nl
 have cells:Hid (∀ u ∈ ns,u.oneCell'=true):=fun u hu=>by
  rw [← hns] at hu
  obtain ⟨x,_,rfl⟩:=List.mem_map.1 hu
  rfl
 have dest:Hid (∀ t,t<ns.length→(w.drew.cell? ⟨b,off+i*1+t,none⟩).isSome=true∧w.drew.frozen? ⟨b,off+i*1+t,none⟩=false):=fun t ht=>by
  rw [nl] at ht
  rw [Nat.mul_one,Nat.add_assoc]
  obtain ⟨h1,h2⟩:=hH (i+t) (by omega)
  exact ⟨by show (w.cell? _).isSome=true;rw [h1];rfl,h2⟩
 obtain ⟨W,hW⟩:∃ W,W=w.drew.setCells b (off+i*1) ns:=⟨_,rfl⟩
 have hAh:=holds_ahead (Value.int .i64) w 1 b off d hH
 have hP:W=putRow (Value.int .i64) (Sort.ahead w 1) b off (lay d i (d.toList.drop j)):=by
  rw [hW,← hns,Nat.mul_one,← putRow_setCells (Value.int .i64) (Sort.ahead w 1) b off _ d i (by simp;omega),putRow_self (Value.int .i64) (Sort.ahead w 1) b off d hAh]
  rfl
 have hHW:Holds (Value.int .i64) W b off (lay d i (d.toList.drop j)):=by rw [hP];exact holds_putRow (Value.int .i64) _ b off d _ hAh (lay_size _ _ _)
 have wipe:∀ ty,(Builtin.clear_ #[ρ.t 22] ty #[.slice (some ⟨b,off+(i+(d.size - j)),none⟩) (d.size - (i+(d.size - j))) (c - (i+(d.size - j)))]).run P W = .ok (.tuple #[]) (W.setCells b (off+(i+(d.size - j))) (List.replicate (d.size - (i+(d.size - j))) (.int .i64 0))):=fun ty=>by
  refine Lib.run_clear_slice W _ _ ty _ t22 v3 rfl rfl b (off+(i+(d.size - j))) _ _ (by omega) (fun t ht => ?_) (fun t ht => ?_)
  all_goals rw [Nat.add_assoc]
  ·rw [(hHW _ (by rw [lay_size];omega)).1];rfl
  ·exact (hHW _ (by rw [lay_size];omega)).2
 have keep:Aside (W=putRow (Value.int .i64) (Sort.ahead w 1) b off (lay d i (d.toList.drop j))):=hP
 have wIs:Hid (W=w.drew.setCells b (off+i*1) ns):=hW
 have hic:i≤c:=by omega
 have hjc:j≤c:=by omega
 clear hW hP hHW hAh hH at_ hns nl
 go_enter L.f23,Body2.n23_ntmps ρ
 go_wp2_with fail
 go_region_law_o (refine step_append_room rfl (.tmp 22) (.tmp 25) (ρ.t 22) rfl (ρ.t 3) info 1 t22 hinfo hz1 b off i c (by simp [Act.eval,Act.put]) A (d.size - j) (c - j) ns (by simp [Act.eval,Act.put]) one.out hsrc.out cells.out (by omega) dest.out ?_;rw [← wIs.out])
 go_wp2
 go_ret
 refine ⟨by rw [show d.size - (j - i)=i+(d.size - j) by omega];rfl,?_⟩
 unfold D4
 rw [← delete_arr d i j 0 (by omega) hj,← putRow_setCells (Value.int .i64) _ b off _ _ (i+(d.size - j)) (by rw [lay_size];simp;omega),← keep.out,List.map_replicate,show d.size - (i+(d.size - j))=j - i by omega]
theorem I9 {zs:List Int} {a b:Nat} (h:a≤b) (hb:b≤zs.length):(D4 zs a b).length=zs.length:=by
 unfold D4
 simp
 omega
theorem LS {w:World} {b k:Nat} {d:Array Int} (h:k≠b):(putRow (Value.int .i64) (Sort.ahead w 1) b 0 d).heap[k]? = w.heap[k]? := by
 show (w.heap.modify b _)[k]? = _
 rw [Array.getElem?_modify,if_neg (fun e=>h e.symm)]
theorem E0 {w:World} {b:Nat} {d:Array Int} {arr:Array Value} {e:TypeId} (h:w.heap[b]? = some (.cells arr e (0,0))):(putRow (Value.int .i64) (Sort.ahead w 1) b 0 d).heap[b]? = some (.cells (putCells (Value.int .i64) 0 d arr) e (0,0)):=by
 show (w.heap.modify b _)[b]? = _
 rw [Array.getElem?_modify,if_pos rfl,h]
 rfl
theorem Fx {B0:Nat} {w0 w:World} {R:Ro} {σ:List Sg} {H H':Hp} {v:V} {args:List V} {cargs:Array Value} (L:Lays2.n23 P ρ) (h:Xn args H=some (v,H')) (hI:Inv 0 B0 w0 R σ H w) (hA:bW R σ args cargs):Calls P (ρ.f 23) cargs w (JG 0 B0 w0 R σ w v H'):=by
 unfold Xn at h
 split at h
 case h_2=>cases h
 rename_i id g len a b
 split at h
 case h_2=>cases h
 rename_i e0 rs g' hb
 split at h
 case isFalse=>cases h
 rename_i hc
 obtain ⟨rfl,rfl,hlen,ha0,hab,hbl,hbig⟩:=hc
 rw [Option.map_eq_some_iff] at h
 obtain ⟨zs,hz,h⟩:=h
 cases h
 have hrs:=BR hz
 have hzl:zs.length=len:=by
  have:=congrArg List.length hrs
  rw [List.length_take,List.length_map] at this
  omega
 obtain ⟨ca,l1,rfl,hr1,hA⟩:=hA.uncons
 obtain ⟨cb,l2,e2,hr2,hA⟩:=hA.uncons
 obtain ⟨cc,l3,e3,hr3,hA⟩:=hA.uncons
 have e4:=hA.nil_inv
 cases hr2
 cases hr3
 obtain ⟨Ad,l,c,s,rfl,hs,hh,hg,hgen⟩:=kL hr1
 obtain ⟨q1,q2,q3,q4,q5,q6⟩:=iI hI hb hs hh
 obtain ⟨rfl,hn,hsm⟩:=hgen q1.symm
 cases hblk:s.blk with
 | none=>
  have:=q5 hblk
  subst this
  simp at hlen
  omega
 | some b0=>
  obtain ⟨rfl,hlc,hcap⟩:=hsm b0 hblk
  obtain ⟨arr,e,hheap,hsz,hcell,hro⟩:=q6 b0 hblk
  have hB:B0≤b0:=hI.ge id _ s b0 (Nat.zero_le _) hb rfl hs hblk
  have hrow:∀ j (hj:j<zs.length),rs[j]? = some [V.lit (.int .i64 zs[j])]:=fun j hj=>by
   have:(rs.take l)[j]? = some [V.lit (.int .i64 zs[j])]:=by rw [hrs,List.getElem?_map,List.getElem?_eq_getElem hj];rfl
   rw [List.getElem?_take] at this
   split at this
   ·exact this
   ·cases this
  have hcv:∀ j (hj:j<zs.length),arr[j]? = some (.int .i64 zs[j]):=fun j hj=>by
   obtain ⟨cv,h1,h2⟩:=hcell j 0 _ _ (hrow j hj) rfl
   cases h2
   rw [Nat.mul_one,Nat.add_zero] at h1
   exact h1
  have hH:Holds (Value.int .i64) w b0 0 zs.toArray:=fun j hj=>by
   have hj':j<zs.length:=by simpa using hj
   rw [Nat.zero_add]
   refine ⟨?_,?_⟩
   ·rw [getElem!_pos zs.toArray j hj]
    unfold World.cell?
    rw [hheap]
    simpa using hcv j hj'
   ·unfold World.frozen?
    rw [hheap]
    simp
  have el:(Value.slice (some ⟨b0,0,none⟩) l c::l1).toArray = #[.slice (some ⟨b0,0,none⟩) zs.toArray.size c,.int .i64 ((a.toNat:Nat):Int),.int .i64 ((b.toNat:Nat):Int)]:=by
   have e2':l1=Value.int .i64 a::l2:=by simpa using e2
   have e3':l2=Value.int .i64 b::l3:=by simpa using e3
   have e4':l3=[]:=by simpa using e4
   rw [e2',e3',e4',Int.toNat_of_nonneg ha0,Int.toNat_of_nonneg (by omega)]
   simp [hzl]
  rw [el]
  refine (X6 L hH (by simpa [hzl] using hlc) (by simpa [hzl] using hbig) (by omega) (by simpa [hzl] using hbl)).mono ?_
  rintro x w' ⟨rfl,rfl⟩
  have hcl:=I9 (zs:=zs) (a:=a.toNat) (b:=b.toNat) (by omega) (by omega)
  have hsize:(putRow (Value.int .i64) (Sort.ahead w 1) b0 0 (D4 zs a.toNat b.toNat).toArray).heap.size=w.heap.size:=by rw [size_putRow];rfl
  have hset:=hI.set (R':=R) (w':=putRow (Value.int .i64) (Sort.ahead w 1) b0 0 (D4 zs a.toNat b.toNat).toArray) (b' := .rows 1 ((D4 zs a.toNat b.toNat).map (fun n=>[V.lit (.int .i64 n)])++rs.drop l) g true) (s':=s) hb rfl hs hh (Nat.zero_le _) (rX.refl s) (fun k hk => .inl hk)
   ⟨rfl,rfl,rfl,by rw [hsize];exact Nat.le_refl _,fun k hk=>LS (by omega)⟩ (by rw [hsize];exact Nat.le_refl _) (fun k _ hk=>LS (fun e=>hk (by rw [e];exact hblk))) (gF.refl R) (fun _ _ h => .inl h)
   (fun k o u hu hk=>by
    rw [hblk] at hk;cases hk
    have:=(hro o (by simp [hu])).1
    cases this)
   ⟨q1,q2,q3,fun r hr=>by
    rcases List.mem_append.1 hr with hr | hr
    ·obtain ⟨n,_,rfl⟩:=List.mem_map.1 hr
     exact ⟨rfl,rfl⟩
    ·exact q4 r (List.mem_of_mem_drop hr),by
    rw [hblk]
    refine ⟨_,e,E0 hheap,?_,fun i j r x hr hx => ?_,fun o ho => ?_⟩
    ·unfold putCells
     rw [Array.size_mapIdx]
     exact hsz
    ·rw [dJ hs]
     by_cases hi:i<zs.length
     ·rw [List.getElem?_append_left (by simp;omega),List.getElem?_map,List.getElem?_eq_getElem (by omega)] at hr
      cases hr
      cases j with
      | succ j=>simp at hx
      | zero=>
       cases hx
       refine ⟨.int .i64 ((D4 zs a.toNat b.toNat)[i]'(by omega)), ?_, .lit _⟩
       unfold putCells
       have hai:=hcv i hi
       rw [Nat.mul_one,Nat.add_zero,Array.getElem?_mapIdx,hai]
       simp only [Option.map_some,Nat.zero_le,Nat.zero_add,true_and,List.size_toArray,Nat.sub_zero]
       rw [if_pos (by omega),getElem!_pos _ _ (by simp;omega)]
       simp
     ·rw [List.getElem?_append_right (by simp;omega),List.getElem?_drop] at hr
      have hr':rs[i]? = some r:=by
       rw [← hr]
       congr 1
       simp
       omega
      obtain ⟨cv,h1,h2⟩:=hcell i j r x hr' hx
      refine ⟨cv,?_,h2⟩
      unfold putCells
      rw [Array.getElem?_mapIdx,h1]
      simp only [Option.map_some,Nat.zero_le,Nat.zero_add,true_and,List.size_toArray,Nat.sub_zero]
      rw [if_neg (by omega)]
    ·have:=(hro o ho).1
     cases this⟩
  rw [dJ hs] at hset
  refine ⟨R,σ,hset.widen (fun k hk => ?_),?_,by rw [hsize];exact Nat.le_refl _⟩
  ·rw [hblk] at hk;cases hk;exact hB
  ·have e5:zs.toArray.size - (b.toNat - a.toNat)=l - (b.toNat - a.toNat):=by simp [hzl]
   rw [e5]
   refine .own id g (l - (b.toNat - a.toNat)) _ _ c s hs hh (by omega) (fun _=>⟨rfl,fun hz => ?_,fun b1 hb1 => ?_⟩)
   ·rw [hblk] at hz;cases hz
   ·rw [hblk] at hb1;cases hb1
    exact ⟨rfl,by omega,hcap⟩
end
def dlB (id g len:Nat) (a b:Int) (H:Hp):Option B→Option (V×Hp)
 | some (.rows e rs g' true)=>
  if e=1∧g=g'∧len≤rs.length∧0≤a∧a<b∧b.toNat≤len∧len≤9223372036854775807 then
   (uj (rs.take len)).map fun zs=>(.own id g (len - (b.toNat - a.toNat)),H.set id (.rows 1 ((D4 zs a.toNat b.toNat).map (fun n=>[V.lit (.int .i64 n)])++rs.drop len) g true))
  else none
 | _=>none
theorem Xo {id g len:Nat} {a b:Int} {H:Hp}:Xn [.own id g len,.lit (.int .i64 a),.lit (.int .i64 b)] H=dlB id g len a b H H[id]? := by
 unfold Xn dlB
 rfl
theorem BA:∀ l:List Int,uj (l.map (aG .i64))=some l
 | []=>rfl
 | n::l=>by rw [List.map_cons,aG,uj,BA l];rfl
theorem Pm {id g len e:Nat} {a b:Int} {H:Hp} {l:List Int}:dlB id g len a b H (some (.rows e (l.map (aG .i64)) g true)) =
  ck (e==1) (ck (decide (len≤l.length∧0≤a∧a<b∧b.toNat≤len∧len≤9223372036854775807)) (some (.own id g (len - (b.toNat - a.toNat)),H.set id (.rows 1 ((D4 (l.take len) a.toNat b.toNat++l.drop len).map (aG .i64)) g true)))):=by
 unfold dlB
 dsimp only
 rw [List.length_map,← List.map_take,BA,← List.map_drop]
 by_cases he:e=1
 ·subst he
  rw [beq_self_eq_true,cf]
  by_cases h:len≤l.length∧0≤a∧a<b∧b.toNat≤len∧len≤9223372036854775807
  ·rw [if_pos ⟨rfl,rfl,h⟩,decide_eq_true h,cf,List.map_append]
   rfl
  ·rw [if_neg (fun z=>h z.2.2),decide_eq_false h,Dz]
 ·have h1:(e==1)=false:=by simp [he]
  rw [h1,Dz,if_neg (fun z=>he z.1)]
theorem Wy {P:Program} {M:Mode} {k:Nat} {f:FuncId} {args:List V} {H:Hp} (ho:M.orc f=some Xn):evF P M (k+1) 0 f args H=Xn args H:=by
 rw [evF,ho]
 rfl
end Go.Ab
namespace Go.Ab
def bD (x:Tys):List V:=
 [.lit (.int .i64 x.1),.ro (x.2.1.map (aG .i64)),.lit (.int .i64 x.2.2.1),.lit (.int .i64 x.2.2.2.1),.lit (.int .i64 x.2.2.2.2.1),.lit (.int .u64 x.2.2.2.2.2.1),.lit (.int .u64 x.2.2.2.2.2.2.1),.lit (.int .u64 x.2.2.2.2.2.2.2.1),.lit (.int .i64 x.2.2.2.2.2.2.2.2)]
def arC (id g row:Nat):List (Int×Nat)→Int→Option V
 | [],_=>none
 | p::l,n=>bif n==p.1 then some (.ptr id g row p.2) else arC id g row l n
theorem Vn {id g row:Nat} {n:Int}:arC id g row [] n=none:=rfl
theorem Ql {id g row o:Nat} {n i:Int} {l:List (Int×Nat)}:arC id g row ((i,o)::l) n=bif n==i then some (.ptr id g row o) else arC id g row l n:=rfl
def arL (sz off len:Nat):List (Int×Nat):=(List.range len).map fun j:Nat=>((j:Int),off+j*sz)
theorem Gs {id g row:Nat} {n:Int}:∀ {l:List (Int×Nat)},(∀ p ∈ l,p.1≠n)→arC id g row l n=none
 | [],_=>rfl
 | p::l,h=>by
  rw [arC,show (n==p.1)=false by simp;exact fun e=>h p (List.mem_cons_self ..) e.symm,cond_false]
  exact Gs fun q hq=>h q (List.mem_cons_of_mem _ hq)
theorem S6 {id g row sz off:Nat} {q:Nat}:∀ (l:List Nat),q ∈ l→arC id g row (l.map fun j:Nat=>((j:Int),off+j*sz)) (q:Int)=some (.ptr id g row (off+q*sz))
 | [],h=>by cases h
 | x::l,h=>by
  rw [List.map_cons,arC]
  by_cases e:q=x
  ·subst e;simp
  ·have h2:((q:Int)==(x:Int))=false:=by simp;omega
   rw [h2,cond_false]
   exact S6 l ((List.mem_cons.1 h).resolve_left e)
theorem JB {P:Program} {t e:TypeId} {len sz id g row off:Nat} {k:IntKind} {n:Int} {H:Hp} (h:P.underlying t=some (.array len e)) (hs:aZ P e=sz) (hz:sz≠0) :
  am P t (.ptr id g row off) (.lit (.int k n)) H=arC id g row (arL sz off len) n:=by
 unfold am
 simp only [h,hs]
 by_cases h0:0≤n
 ·rw [if_pos h0]
  by_cases h1:n<len
  ·rw [if_pos ⟨h1,hz⟩]
   obtain ⟨q,rfl⟩:∃ q:Nat,n=q:=⟨n.toNat,by omega⟩
   rw [arL,S6 (List.range len) (List.mem_range.2 (by omega)),Int.toNat_natCast]
  ·rw [if_neg (fun hh=>h1 hh.1)]
   refine (Gs fun p hp => ?_).symm
   obtain ⟨j,hj,rfl⟩:=List.mem_map.1 hp
   have:=List.mem_range.1 hj
   simp only
   omega
 ·rw [if_neg h0]
  refine (Gs fun p hp => ?_).symm
  obtain ⟨j,hj,rfl⟩:=List.mem_map.1 hp
  simp only
  omega
end Go.Ab
namespace Go.Ab
def aM (x:Tyw):List V:=
 [.lit (.int .i64 x.1),.ro (x.2.1.map aX),.lit (.int .i64 x.2.2.1.1),.lit (.int .i64 x.2.2.1.2.1),.lit (.int .i64 x.2.2.1.2.2.1),.lit (.int .u64 x.2.2.1.2.2.2.1),.lit (.int .u64 x.2.2.1.2.2.2.2.1),.lit (.int .u64 x.2.2.1.2.2.2.2.2.1),.lit (.int .i64 x.2.2.1.2.2.2.2.2.2),.lit (.int .i64 x.2.2.2.1),.lit (.int .i64 x.2.2.2.2)]
mutual
theorem K8 (n:Nat):∀ v:V,v.pure=true→v.kill n=v
 | .lit _,_=>rfl
 | .ro _,_=>rfl
 | .nil,_=>rfl
 | .any,_=>rfl
 | .junk,_=>rfl
 | .agg cs,h=>by rw [V.kill,iU n cs h]
 | .tup cs,h=>by rw [V.kill,iU n cs h]
 | .fn f a b,h=>by
  rw [V.pure,Bool.and_eq_true] at h
  rw [V.kill,iU n a h.1,iU n b h.2]
 | .rp _,_=>rfl
theorem iU (n:Nat):∀ l:List V,bE l=true→ln n l=l
 | [],_=>rfl
 | v::l,h=>by
  rw [bE,Bool.and_eq_true] at h
  rw [ln,K8 n v h.1,iU n l h.2]
end
theorem FL {n:Nat} {rs:List (List V)}:ni n rs=rs.map (ln n):=by
 unfold ni
 split
 ·rename_i h
  rw [dI,List.all_eq_true] at h
  have:∀ l:List (List V),(∀ x ∈ l,bE x=true)→l.map (ln n)=l:=by
   intro l
   induction l with
   | nil=>intro _;rfl
   | cons r l ih=>intro h;rw [List.map_cons,iU n r (h r (List.mem_cons_self ..)),ih fun x hx=>h x (List.mem_cons_of_mem _ hx)]
  exact (this rs h).symm
 ·rfl
theorem ah {n:Nat} {r:List V} {rs:List (List V)}:ni n (r::rs)=ln n r::ni n rs:=by
 rw [FL,FL,List.map_cons]
theorem ag {k:IntKind} {a:Int} {l:List Int}:[V.lit (.int k a)]::List.map (aG k) l=List.map (aG k) (a::l):=rfl
theorem ae {a b c:Int} {l:Tye}:[V.lit (.int .i64 a),.lit (.int .i64 b),.lit (.int .i64 c)]::List.map aX l=List.map aX ((a,b,c)::l):=rfl
def ahs:=PLift.up (aI (aI (aI (aI (aI (aI @rtN.eq_1 @bE.eq_1) (aI @bE.eq_2 @V.pure.eq_1)) (aI @V.pure.eq_2 @V.pure.eq_3)) (aI (aI (aI @V.pure.eq_6 @V.pure.eq_7) @V.pure.eq_8) (aI @V.pure.eq_11 @V.pure.eq_12))) (aI (aI (aI (aI @nsh.eq_1 @acY.eq_1) @acY.eq_2) (aI (aI @V.kill.eq_1 @V.kill.eq_2) @V.kill.eq_3)) (aI (aI (aI @V.kill.eq_5 @V.kill.eq_6) (aI @V.kill.eq_7 @V.kill.eq_8)) (aI (aI @V.kill.eq_9 @V.kill.eq_10) @V.kill.eq_11)))) (aI (aI (aI (aI @V.kill.eq_12 (aI @ln.eq_1 @ln.eq_2)) (aI (aI @spl.eq_1 @spl.eq_2) (aI @V.shift.eq_1 @V.shift.eq_2))) (aI @V.shift.eq_6 (aI @V.shift.eq_7 @V.shift.eq_8))) (aI (aI (aI @V.shift.eq_11 (aI @V.shift.eq_12 @V.shift.eq_13)) (aI (aI @kP.eq_1 @kP.eq_2) (aI @V.scal.eq_1 @V.scal.eq_2))) (aI (aI (aI @V.scal.eq_3 @V.scal.eq_4) (aI @G8.eq_1 @G8.eq_2)) (aI (aI @aG.eq_1 @Bi.eq_1) @aX.eq_1)))))
theorem syD:type_of% ahs.down:=ahs.down
def ahn:=PLift.up (aI (aI @syQ @fT.eq_1) (aI (aI @bD.eq_1 @aM.eq_1) (aI @Vn @Ql)))
theorem syE:type_of% ahn.down:=ahn.down
end Go.Ab
namespace Go.Ab
open Go
def fi (x:Int×Int×Int):List V:=[.lit (.int .i64 x.1),.lit (.int .i64 x.2.1),.lit (.int .u64 x.2.2)]
theorem BU (x:Int×Int×Int):bE (fi x)=true:=rfl
theorem lI (x:Tyw):bE (aM x)=true:=by
 have h:dI (x.2.1.map aX)=true:=gD fun _=>rfl
 simp [aM,bE,V.pure,h]
theorem nd (x:Tys):bE (bD x)=true:=by
 have h:=wV (k := .i64) (l:=x.2.1)
 simp [bD,bE,V.pure,h]
section
variable {lw:List Tyw} {ls:List Tys} {lp:Tye} {n i:Nat} {a b c d e f g p q r:Int} {x:List Int} {y:Tye}
theorem Kf:dI (lw.map aM)=true:=gD lI
theorem JP:ni n (lw.map aM)=lw.map aM:=kM lI
theorem Ge:nm n (lw.map aM)=lw.map aM:=ma lI
theorem Q9:eN 11 (lw.map aM)=true:=iQ fun _=>rfl
theorem M6:(lw.map aM).set i [.lit (.int .i64 p),.ro (y.map aX),.lit (.int .i64 a),.lit (.int .i64 b),.lit (.int .i64 c),.lit (.int .u64 d),.lit (.int .u64 e),.lit (.int .u64 f),.lit (.int .i64 g),.lit (.int .i64 q),.lit (.int .i64 r)]=(lw.set i (p,y,(a,b,c,d,e,f,g),q,r)).map aM:=by rw [List.map_set];rfl
theorem D9:[[V.lit (.int .i64 p),.ro [],.lit (.int .i64 a),.lit (.int .i64 b),.lit (.int .i64 c),.lit (.int .u64 d),.lit (.int .u64 e),.lit (.int .u64 f),.lit (.int .i64 g),.lit (.int .i64 q),.lit (.int .i64 r)]]=[(p,([]:Tye),(a,b,c,d,e,f,g),q,r)].map aM:=rfl
theorem Lw:dI (ls.map bD)=true:=gD nd
theorem LO:ni n (ls.map bD)=ls.map bD:=kM nd
theorem KO:nm n (ls.map bD)=ls.map bD:=ma nd
theorem Vv:eN 9 (ls.map bD)=true:=iQ fun _=>rfl
theorem Qv:(ls.map bD).set i [.lit (.int .i64 p),.ro (x.map (aG .i64)),.lit (.int .i64 a),.lit (.int .i64 b),.lit (.int .i64 c),.lit (.int .u64 d),.lit (.int .u64 e),.lit (.int .u64 f),.lit (.int .i64 g)]=(ls.set i (p,x,a,b,c,d,e,f,g)).map bD:=by rw [List.map_set];rfl
theorem HP:[[V.lit (.int .i64 p),.ro [],.lit (.int .i64 a),.lit (.int .i64 b),.lit (.int .i64 c),.lit (.int .u64 d),.lit (.int .u64 e),.lit (.int .u64 f),.lit (.int .i64 g)]]=[(p,([]:List Int),a,b,c,d,e,f,g)].map bD:=rfl
theorem K1:dI (lp.map fi)=true:=gD BU
theorem J4:ni n (lp.map fi)=lp.map fi:=kM BU
theorem Qe:eN 3 (lp.map fi)=true:=iQ fun _=>rfl
theorem K9:(lp.map fi).set i [.lit (.int .i64 a),.lit (.int .i64 b),.lit (.int .u64 c)]=(lp.set i (a,b,c)).map fi:=by rw [List.map_set];rfl
theorem HK:[[V.lit (.int .i64 a),.lit (.int .i64 b),.lit (.int .u64 c)]]=[(a,b,c)].map fi:=rfl
end
theorem Vz {α:Type} {wl e sz bytes id g len s:Nat} {l:List α} {enc:α→List V} {H:Hp} :
  apB wl e sz bytes id g len [] H (some (.rows s (l.map enc) g true)) =
   sif (Nat.ble wl id) (ck (decide (len≤l.length)) (ck (s==sz||s==0) (bif room (l.take len).length bytes then some (.own id (g+1) (l.take len).length,H.set id (.rows sz ((l.take len).map enc) (g+1) true)) else none))) none:=by
 have h:=N2 (wl:=wl) (e:=e) (sz:=sz) (bytes:=bytes) (id:=id) (g:=g) (len:=len) (s:=s) (l:=l) (m:=[]) (enc:=enc) (H:=H)
 rw [List.append_nil] at h
 exact h
theorem XJ {kp:Nat→Bool} {cs:List V} {h:Hp}:mM (some kp) (.agg cs) h=bq (pt cs h []) fun p=>some (.agg p.1,p.2.2):=by
 unfold mM FH bq
 dsimp only
 cases pt cs h [] <;> rfl
theorem NH {H acc:Hp}:pt [] H acc=some ([],H,acc):=rfl
theorem J8 {v:V} {vs:List V} {H acc:Hp}:pt (v::vs) H acc=bq (pF v H acc) fun p=>bq (pt vs p.2.1 p.2.2) fun q=>some (p.1::q.1,q.2.1,q.2.2):=by
 rw [pt]
 unfold bq
 cases pF v H acc with
 | none=>rfl
 | some p=>rfl
theorem MB {v:Value} {H acc:Hp}:pF (.lit v) H acc=some (.lit v,H,acc):=rfl
theorem O9 {r:List (List V)} {H acc:Hp}:pF (.ro r) H acc=some (.ro r,H,acc):=rfl
def hmB (id g len:Nat) (H acc:Hp):Option B→Option (V×Hp×Hp)
 | some (.rows e rs g' live)=>if g=g'∧len≤rs.length∧(live=true∨len=rs.length)∧dI rs=true then some (.own acc.length 0 len,H.set id .dead,acc++[.rows e (rs.take len) 0 live]) else none
 | _=>none
theorem FD {id g len:Nat} {H acc:Hp}:pF (.own id g len) H acc=hmB id g len H acc H[id]? := by
 unfold pF hmB
 dsimp only
 cases H[id]? with
 | none=>rfl
 | some b=>cases b <;> rfl
theorem uT {α:Type} {enc:α→List V} (hp:∀ x,bE (enc x)=true) {id g len e:Nat} {H acc:Hp} {l:List α}:hmB id g len H acc (some (.rows e (l.map enc) g true))=ck (decide (len≤l.length)) (some (.own acc.length 0 len,H.set id .dead,acc++[.rows e ((l.take len).map enc) 0 true])):=by
 unfold hmB ck
 dsimp only
 rw [List.length_map,gD hp,List.map_take]
 by_cases h:len≤l.length
 ·rw [if_pos ⟨rfl,h,.inl rfl,rfl⟩,decide_eq_true h]
  rfl
 ·rw [if_neg (fun z=>h z.2.1),decide_eq_false h]
  rfl
theorem UR {id g e:Nat} {H acc:Hp} {lv:Bool}:hmB id g 0 H acc (some (.rows e [] g lv))=some (.own acc.length 0 0,H.set id .dead,acc++[.rows e [] 0 lv]):=by
 unfold hmB
 dsimp only
 rw [if_pos ⟨rfl,Nat.le_refl _,.inr rfl,rfl⟩]
 rfl
theorem Wo {k:IntKind} {id g len e:Nat} {H acc:Hp} {l:List Int}:hmB id g len H acc (some (.rows e (l.map (aG k)) g true))=ck (decide (len≤l.length)) (some (.own acc.length 0 len,H.set id .dead,acc++[.rows e ((l.take len).map (aG k)) 0 true])):=uT fun _=>rfl
theorem VP {kp:Nat→Bool} {id g len:Nat} {h:Hp}:mM (some kp) (.own id g len) h=bq (hmB id g len h [] h[id]?) fun p=>some (p.1,p.2.2):=by
 have e:mM (some kp) (.own id g len) h=(pF (.own id g len) h []).bind fun q=>some (q.1,q.2.2):=rfl
 rw [e,FD]
 unfold bq
 cases hmB id g len h [] h[id]? <;> rfl
theorem QX {id g len e:Nat} {H acc:Hp} {l:List Tyw}:hmB id g len H acc (some (.rows e (l.map aM) g true))=ck (decide (len≤l.length)) (some (.own acc.length 0 len,H.set id .dead,acc++[.rows e ((l.take len).map aM) 0 true])):=uT lI
theorem U4 {id g len e:Nat} {H acc:Hp} {l:List Tys}:hmB id g len H acc (some (.rows e (l.map bD) g true))=ck (decide (len≤l.length)) (some (.own acc.length 0 len,H.set id .dead,acc++[.rows e ((l.take len).map bD) 0 true])):=uT nd
def ahz:=PLift.up (aI (aI (aI (aI (aI (aI @Kf @JP) @Ge) (aI @Q9 @M6)) (aI @D9 @Lw)) (aI (aI (aI (aI @LO @KO) @Vv) @Qv) (aI @HP @K1))) (aI (aI (aI (aI @J4 @Qe) (aI @K9 @HK)) (aI (aI @UR @Wo) (aI @VP @Vz))) (aI (aI (aI (aI @XJ @NH) @J8) (aI @MB @O9)) (aI (aI (aI @FD @QX) @U4) @fi.eq_1))))
theorem syW:type_of% ahz.down:=ahz.down
end Go.Ab
namespace Go.Ab
section
variable {cx:Cx} {K:Out→St→Res} {r:Res} {id j n0:Nat} {ops:Array Oper} {a:List Nat×List Nat} {env:List V} {H:Hp} {o:Oper} {i:Nat} {L:List Nat}
theorem qI (hL:DU ops=L) (ha:(pZ ops).any=false) (v:V) (H':Hp) (h2:dK cx (.region id ops true) (j+1) n0 a K ⟨mN env o.dst v,H'⟩=r) (hj:L[j]? = some i:=by rfl) (ho:ops.toList[i]? = some o:=by rfl) (hg:o.guard=none:=by rfl) (hst:(pZ ops).strict i=false:=by kernel_rfl) (h1:opV cx ((pZ ops).calm i) ((pZ ops).ord i) o.op env H=some (v,H'):=by kernel_rfl):dK cx (.region id ops true) j n0 a K ⟨env,H⟩=r:=go_op1 hL ha hj ho hg (agc hst (afA h1 h2))
section
variable {gj d:Nat} {b:Bool}
end
end
end Go.Ab
namespace Go.Ab
abbrev bb (b:Bool) (x y:Res):Res:=match b with | true=>x | false=>y
abbrev onO {A:Type} (x:Option A) (k:A→Res):Res:=match x with | some v=>k v | none=>none
abbrev aer (cx:Cx) (b:Builtin) (ts:Array TypeId) (args:List V) (H:Hp) (F:V→Hp→Res):Res:=
 match b with
 | .len=>match ts.toList,args with
  | [t],[x]=>bp (bh cx.P t x H) F
  | _,_=>none
 | .append=>match ts.toList,args with
  | [t,u],[s,x]=>bp (kS cx.P cx.wl t u s x H) F
  | _,_=>none
 | .max=>bm (gU true args) H F
 | .min=>bm (gU false args) H F
 | _=>none
abbrev opW (cx:Cx) (calm ord:Bool) (op:Op) (env:List V) (H:Hp) (F:V→Hp→Res):Res:=
 match op with
 | .move x=>onO (evO env x) fun v=>F v H
 | .assign x=>match x with
  | .const c=>onO (some (kN c)) fun v=>match v with | .nil=>bp (some (.own H.length 0 0,H++[.rows 0 [] 0 true])) F | v=>F v H
  | x=>onO (evO env x) fun v=>F v H
 | .pick c a b=>onO (evO env c) fun c=>onO (evO env a) fun a=>onO (evO env b) fun b=>bm (aS c a b) H F
 | .alloc t=>bp (az cx.P t H) F
 | .box _ x=>onO (evO env x) fun v=>bp (aQ v H) F
 | .build t parts=>onO (Lz (evO env) parts.toList) fun l=>bm (be cx.P t l) H F
 | .buildSlice t len parts=>onO (Lz (evO env) parts.toList) fun l=>bb (calm) (bp (cZ cx.P cx.wl t len l H) F) (bp (aF cx.P cx.wl t len l H) F)
 | .insert t m k v=>onO (evO env m) fun m=>onO (evO env k) fun k=>onO (evO env v) fun v=>bs (eX cx.P cx.wl t m k v H) (F uu)
 | .load t a=>onO (evO env a) fun a=>bm (ab cx.P t a H) H F
 | .store t a v=>onO (evO env a) fun a=>onO (evO env v) fun v=>bs (ai cx.P cx.wl t a v H) (F uu)
 | .nilCheck x=>onO (evO env x) fun x=>bm (aU x H) H F
 | .binOp op t x y _=>onO (evO env x) fun x=>onO (evO env y) fun y=>bm (aA cx.P op t x y) H F
 | .unOp op _ x=>onO (evO env x) fun x=>bm (vUn op x) H F
 | .convert s d x=>onO (evO env x) fun x=>bm (fL cx.P s d x) H F
 | .makeFunc f a b=>onO (Dr env a.toList) fun a=>onO (Dr env b.toList) fun b=>F (.fn f a b) H
 | .makeMap _ r=>match r with | none=>bp (some (.map H.length,H++[.map []])) F | some _=>none
 | .makeSlice t l c=>onO (evO env l) fun l=>onO (evO env c) fun c=>bp (bg cx.P t l c H) F
 | .slice t x lo hi mx=>onO (evO env x) fun x=>onO (Lt env lo) fun lo=>onO (Lt env hi) fun hi=>onO (Lt env mx) fun mx=>bp (eU cx.P cx.wl calm t x lo hi mx H) F
 | .fieldAddr t x i=>onO (evO env x) fun x=>bm (aa cx.P t x i) H F
 | .field t x i=>onO (evO env x) fun x=>bm (AS cx.P t x i) H F
 | .indexAddr t x i=>onO (evO env x) fun x=>onO (evO env i) fun i=>bm (am cx.P t x i H) H F
 | .index t x i=>onO (evO env x) fun x=>onO (evO env i) fun i=>bm (Jz cx.P t x i) H F
 | .lookup t m k ok=>onO (evO env m) fun m=>onO (evO env k) fun k=>bm (gG cx.P t m k ok H) H F
 | .extract x i=>onO (evO env x) fun x=>bm (ar x i) H F
 | .call c=>
  match c.callee with
  | .builtin b=>onO (Dr env c.args.toList) fun a=>aer cx b c.argTypes a H F
  | .value f=>onO (evO env f) fun f=>onO (Dr env c.args.toList) fun a=>bp (bG cx calm ord f a H) F
  | .invoke _ _=>none
 | _=>none
theorem cM {A:Type} {x:Option A} {k:A→Res} {g:A→Option (V×Hp)} {F:V×Hp→Res} (h:∀ v,k v=(g v).bind F):onO x k=(x.bind g).bind F:=by
 cases x with
 | none=>rfl
 | some v=>exact h v
theorem G0 {A:Type} {x:Option A} {k:A→Res} {g:A→V×Hp} {F:V×Hp→Res} (h:∀ v,k v=F (g v)):onO x k=(x.map g).bind F:=by
 cases x with
 | none=>rfl
 | some v=>exact h v
theorem Zz {x:Option Hp} {F:V→Hp→Res}:bs x (F uu)=(x.map fun H'=>(V.lit undef,H')).bind fun p=>F p.1 p.2:=by cases x <;> rfl
theorem W8 {cx:Cx} {b:Builtin} {ts:Array TypeId} {args:List V} {H:Hp} {F:V→Hp→Res}:aer cx b ts args H F=(K4 cx b ts args H).bind fun p=>F p.1 p.2:=by
 unfold aer K4
 generalize ts.toList=l
 cases b with
 | len=>rcases l with _ | ⟨_,_ | _⟩ <;> rcases args with _ | ⟨_,_ | _⟩ <;> rfl
 | append=>rcases l with _ | ⟨_,_ | ⟨_,_ | _⟩⟩ <;> rcases args with _ | ⟨_,_ | ⟨_,_ | _⟩⟩ <;> rfl
 | _=>rfl
theorem YY {cx:Cx} {calm ord:Bool} {op:Op} {env:List V} {H:Hp} {F:V→Hp→Res}:opW cx calm ord op env H F=(opV cx calm ord op env H).bind fun p=>F p.1 p.2:=by
 cases op with
 | assign x=>
  unfold opW opV
  dsimp only
  cases x with
  | const c=>
   dsimp only [evO,onO,Option.map_some,Option.bind_some]
   cases kN c <;> rfl
  | _=>exact G0 fun v=>rfl
 | call c=>
  unfold opW opV
  dsimp only
  cases c.callee with
  | builtin b=>exact cM fun a=>W8
  | value f=>exact cM fun f=>cM fun a=>rfl
  | invoke _ _=>rfl
 | buildSlice t len parts=>
  unfold opW opV
  dsimp only
  refine cM fun l => ?_
  cases calm <;> rfl
 | makeMap t r=>
  unfold opW opV
  dsimp only
  cases r <;> rfl
 | _=>
  unfold opW opV
  dsimp only
  first
  | rfl
  | exact cM fun a=>cM fun b=>Zz
  | exact cM fun a=>cM fun b=>cM fun c=>Zz
  | exact G0 fun v=>rfl
  | exact cM fun a=>rfl
  | exact cM fun a=>G0 fun b=>rfl
  | exact cM fun a=>cM fun b=>rfl
  | exact cM fun a=>cM fun b=>cM fun c=>rfl
  | exact cM fun a=>cM fun b=>cM fun c=>cM fun d=>rfl
inductive Md where
 | E (c:Code) (fs:List Fr) (jn:List Nat)
 | R (o:Out) (fs:List Fr) (jn:List Nat)
 | L (c:Code) (l:Nat) (fs:List Fr) (jn:List Nat)
 | G (c:Code) (j n0:Nat) (a:List Nat×List Nat) (fs:List Fr) (g:Bool) (kn:List (Nat×Nat)) (jn:List Nat)
def ahU (cx:Cx) (K:Out→St→Res) (s:St):Md→Res
 | .E c fs _=>aw cx K (.seq c::fs) .norm s
 | .R o fs _=>aw cx K fs o s
 | .L c l fs _=>Bc cx K c l fs s
 | .G c j n0 a fs _ _ _=>dK cx c j n0 a (aw cx K fs) s
def nU (i:Nat):Code→Bool
 | .exit j=>j==i
 | .seq a b=>nU i a||nU i b
 | .cond _ a b=>nU i a||nU i b
 | .rangeFunc _ _ a b=>nU i a||nU i b
 | .block _ a=>nU i a
 | .loop a=>nU i a
 | .scope a=>nU i a
 | _=>false
def nV:Code→Bool
 | .seq a b=>nV a&&nV b
 | .cond _ a b=>nV a||nV b
 | .exit _=>false
 | .goto _=>false
 | .ret=>false
 | .loop _=>false
 | .block i a=>nV a||nU i a
 | _=>true
def lq:Code→Nat
 | .region _ ops _=>ops.size
 | .seq a b=>lq a+lq b+1
 | .cond _ a b=>lq a+lq b+1
 | .rangeFunc _ _ a b=>lq a+lq b+1
 | .block _ a=>lq a
 | .scope a=>lq a
 | .loop _=>10
 | _=>0
def atJ (jn:List Nat) (n:Nat):Bool:=match jn with | []=>false | x::_=>x==n
def jnT (jn:List Nat) (n:Nat):List Nat:=bif atJ jn n then jn.tail else jn
def I2 (jn:List Nat):List Fr→Nat→Bool
 | [],n=>Nat.ble 3 n
 | .seq c::r,n=>bif atJ jn (r.length+1) then false else bif nV c then I2 jn r (n+lq c) else Nat.ble 3 (n+lq c)
 | _::r,n=>bif atJ jn (r.length+1) then false else I2 jn r n
abbrev sxW (n0:Nat) (st:Bool) (op:Op) (env:List V) (x:Res):Res:=
 bb (st) ((match lb op with | none=>x | some y=>match evO env y with | some v=>stO n0 v x | none=>x)) (x)
def ag8 (d:Nat):List (Nat×Nat)→Option Nat
 | []=>none
 | (e,b)::r=>bif e==d then some b else ag8 d r
def Ye (d:Nat):List (Nat×Nat)→List (Nat×Nat)
 | []=>[]
 | (e,b)::r=>bif e==d then Ye d r else (e,b)::Ye d r
def knR (d:Option Nat) (kn:List (Nat×Nat)):List (Nat×Nat):=match d with | none=>kn | some d=>Ye d kn
def knS (d:Option Nat) (kn:List (Nat×Nat)):List (Nat×Nat):=match d with | none=>kn | some d=>(d,2)::kn
def wk (cx:Cx) (K:Out→St→Res):Nat→Md→St→Res
 | 0,m,s=>ahU cx K s m
 | n+1,m,s=>match m with
  | .E c fs jn=>match c with
   | .skip=>wk cx K n (.R .norm fs jn) s
   | .region id ops draw=>bb (draw) ((bb (C8 ops) (wk cx K n (.G (.region id ops true) 0 s.H.length ([],[]) fs false [] jn) s) (none))) (wk cx K n (.G (.region id ops false) 0 s.H.length ([],[]) fs false [] jn) s)
   | .seq a b=>wk cx K n (.E a (.seq b::fs) jn) s
   | .block id a=>wk cx K n (.E a (.block id::fs) jn) s
   | .scope a=>wk cx K n (.E a (.scope a::fs) jn) s
   | .cond v a b=>onO (evO s.env v) fun v=>
    bb (nV a&&nV b&&I2 jn fs 0) (cnd v (wk cx K n (.E a fs (fs.length::jn)) s) (wk cx K n (.E b fs (fs.length::jn)) s)) (cnd v (wk cx K n (.E a fs jn) s) (wk cx K n (.E b fs jn) s))
   | .exit id=>wk cx K n (.R (.exit id) fs jn) s
   | .goto l=>wk cx K n (.R (.goto l) fs jn) s
   | .ret=>wk cx K n (.R .ret fs jn) s
   | .label _=>wk cx K n (.R .norm fs jn) s
   | .loop a=>itX cx a s.H.length (aw cx K fs) cx.n (tidy s.H.length (JS (cx.M.named cx.fid) (kz a ([],[])) false) s)
   | c=>bd cx c none (aw cx K fs) s
  | .R o fs jn=>match o with
   | .norm=>bb (atJ jn fs.length) (aw cx K fs .norm s) (match fs with
    | []=>K .norm s
    | .seq c::r=>wk cx K n (.E c r jn) s
    | .block _::r=>wk cx K n (.R .norm r jn) s
    | .scope _::r=>wk cx K n (.R .norm r jn) s
    | .scope2 _::r=>wk cx K n (.R .norm r jn) s)
   | .exit i=>match fs with
    | []=>K (.exit i) s
    | .seq _::r=>wk cx K n (.R (.exit i) r (jnT jn fs.length)) s
    | .block id::r=>bb (i==id) (wk cx K n (.R .norm r (jnT jn fs.length)) s) (wk cx K n (.R (.exit i) r (jnT jn fs.length)) s)
    | .scope _::r=>wk cx K n (.R (.exit i) r (jnT jn fs.length)) s
    | .scope2 _::r=>wk cx K n (.R (.exit i) r (jnT jn fs.length)) s
   | .goto l=>match fs with
    | []=>K (.goto l) s
    | .seq _::r=>wk cx K n (.R (.goto l) r (jnT jn fs.length)) s
    | .block _::r=>wk cx K n (.R (.goto l) r (jnT jn fs.length)) s
    | .scope a::r=>bb (bH l a) (wk cx K n (.L a l (.scope2 a::r) (jnT jn fs.length)) s) (wk cx K n (.R (.goto l) r (jnT jn fs.length)) s)
    | .scope2 a::r=>bb (bH l a) (none) (wk cx K n (.R (.goto l) r (jnT jn fs.length)) s)
   | o=>match fs with
    | []=>K o s
    | _::r=>wk cx K n (.R o r (jnT jn fs.length)) s
  | .L c l fs jn=>match c with
   | .seq a b=>bb (bH l a) (wk cx K n (.L a l (.seq b::fs) jn) s) (wk cx K n (.L b l fs jn) s)
   | .label l'=>bb (l'==l) (wk cx K n (.R .norm fs jn) s) (none)
   | c=>Bc cx K c l fs s
  | .G c j n0 a fs g kn jn=>match (mC c)[j]? with
   | none=>bb ((kj c).any) (apt a (wk cx K n (.R .norm fs jn) s)) (wk cx K n (.R .norm fs jn) s)
   | some (o,i)=>
    let run:=fun env g kn=>sxW n0 ((kj c).strict i) o.op env (opW cx ((kj c).calm i) ((kj c).ord i) o.op env s.H fun v h=>wk cx K n (.G c (j+1) n0 (H7 (kj c) i o.op env a) fs g (knR o.dst kn) jn) ⟨mN env o.dst v,h⟩)
    let skip:=fun env g kn=>wk cx K n (.G c (j+1) n0 a fs g (knS o.dst kn) jn) ⟨mN env o.dst uu,s.H⟩
    match o.guard with
    | none=>bb (g) (dK cx c j n0 a (aw cx K fs) s) (run s.env g kn)
    | some (gj,want)=>match ((Hg c)[gj]?).bind (·.dst) with
     | none=>none
     | some d=>match ag8 d kn with
      | some _=>match s.env[d]? with
       | some (.lit (.bool b))=>bb (b==want) (run (s.env.set d (.lit (.bool b))) g kn) (skip (s.env.set d (.lit (.bool b))) g kn)
       | some (.lit (.tuple _))=>skip s.env g kn
       | _=>none
      | none=>bb g (dK cx c j n0 a (aw cx K fs) s)
       (onO s.env[d]? fun v=>bb want
        (gd v (run (s.env.set d (.lit (.bool true))) true ((d,1)::kn)) (skip (s.env.set d (.lit (.bool false))) true ((d,0)::kn)) (dK cx c (j+1) n0 a (aw cx K fs) ⟨mN s.env o.dst uu,s.H⟩))
        (gd v (skip (s.env.set d (.lit (.bool true))) true ((d,1)::kn)) (run (s.env.set d (.lit (.bool false))) true ((d,0)::kn)) (dK cx c (j+1) n0 a (aw cx K fs) ⟨mN s.env o.dst uu,s.H⟩)))
section
variable {cx:Cx} {K:Out→St→Res} {c:Code} {j n0:Nat} {a:List Nat×List Nat} {s:St} {r:Res}
theorem Oo (h:(mC c)[j]? = none):dK cx c j n0 a K s=if (kj c).any then apt a (K .norm s) else K .norm s:=by
 unfold dK
 rw [List.drop_eq_nil_iff.2 (List.getElem?_eq_none_iff.1 h)]
 rfl
theorem Mq {o:Oper} {i:Nat} (h:(mC c)[j]? = some (o,i)):dK cx c j n0 a K s =
  (let run (env:List V):Res:=if eo n0 ((kj c).strict i) o.op env then (opV cx ((kj c).calm i) ((kj c).ord i) o.op env s.H).bind fun p=>dK cx c (j+1) n0 (H7 (kj c) i o.op env a) K ⟨mN env o.dst p.1,p.2⟩ else none
   let skip (env:List V):Res:=dK cx c (j+1) n0 a K ⟨mN env o.dst (.lit undef),s.H⟩
   match o.guard with
   | none=>run s.env
   | some (j,want)=>
    match ((Hg c)[j]?).bind (·.dst) with
    | none=>none
    | some d=>
     match s.env[d]? with
     | some (.lit (.bool b))=>G9 b want d s.env run skip
     | some (.lit (.tuple _))=>skip s.env
     | _=>none):=by
 obtain ⟨hj,he⟩:=List.getElem?_eq_some_iff.1 h
 unfold dK
 rw [List.drop_eq_getElem_cons hj,he]
 rfl
theorem aaO {st:Bool} {op:Op} {env:List V} {x:Res}:sxW n0 st op env x=if eo n0 st op env then x else none:=by
 unfold sxW eo mR
 cases st with
 | false=>rfl
 | true=>
  dsimp only [bb,if_true]
  cases lb op with
  | none=>rfl
  | some y=>
   have h:∀ q:Option V,(match q with | some v=>stO n0 v x | none=>x)=if (match (match q with | some v=>K5 v | none=>none) with | some i=>decide (i<n0) | none=>true)=true then x else none:=by
    intro q
    cases q with
    | none=>rfl
    | some v=>rfl
   exact h _
end
theorem J1 (cx:Cx) (K:Out→St→Res):∀ (n:Nat) (m:Md) (s:St),wk cx K n m s=ahU cx K s m
 | 0,_,_=>rfl
 | n+1,m,s=>by
  have ih:=J1 cx K n
  cases m with
  | E c fs jn=>
   cases c with
   | skip=>exact ih _ _
   | region id ops draw=>
    cases draw with
    | false=>exact (ih _ _).trans (go_reg0 rfl).symm
    | true=>
     show bb (C8 ops) (wk cx K n _ s) none=_
     cases h:C8 ops with
     | true=>exact (ih _ _).trans (go_reg1 h rfl).symm
     | false=>
      show none=bd cx (.region id ops true) none (aw cx K fs) s
      simp [bd,h]
   | seq a b=>exact (ih _ _).trans (go_seq rfl).symm
   | block id a=>exact (ih _ _).trans (go_block rfl).symm
   | scope a=>exact (ih _ _).trans (go_scope rfl).symm
   | cond v a b=>
    show onO (evO s.env v) _=_
    cases h:evO s.env v with
    | none=>
     show none=bd cx (.cond v a b) none (aw cx K fs) s
     simp only [bd,h]
    | some v=>
     refine Eq.trans ?_ (go_cond h rfl rfl).symm
     show bb _ _ _=_
     cases (nV a&&nV b&&I2 jn fs 0) <;> (simp only [bb,ih];rfl)
   | exit id=>exact ih _ _
   | goto l=>exact ih _ _
   | ret=>exact ih _ _
   | label l=>exact ih _ _
   | loop a=>rfl
   | _=>rfl
  | R o fs jn=>
   cases o with
   | norm=>
    show bb _ _ _=_
    cases atJ jn fs.length with
    | true=>rfl
    | false=>cases fs with
     | nil=>rfl
     | cons f r=>cases f <;> exact ih _ _
   | exit i=>
    cases fs with
    | nil=>rfl
    | cons f r=>cases f with
     | block id=>
      show bb (i==id) _ _=if i=id then _ else _
      by_cases h:i=id
      ·subst h
       rw [beq_self_eq_true,if_pos rfl]
       exact ih _ _
      ·rw [beq_false_of_ne h,if_neg h]
       exact ih _ _
     | _=>exact ih _ _
   | goto l=>
    cases fs with
    | nil=>rfl
    | cons f r=>cases f with
     | scope a=>
      show bb (bH l a) _ _=_
      cases h:bH l a with
      | true=>exact (ih _ _).trans (HC h rfl).symm
      | false=>exact (ih _ _).trans (FC h rfl).symm
     | scope2 a=>
      show bb (bH l a) _ _=aw cx K (.scope2 a::r) (.goto l) s
      cases h:bH l a with
      | true=>simp only [aw,h,if_true]
      | false=>exact (ih _ _).trans (Dg h rfl).symm
     | _=>exact ih _ _
   | ret=>
    cases fs with
    | nil=>rfl
    | cons f r=>cases f <;> exact ih _ _
  | L c l fs jn=>
   cases c with
   | seq a b=>
    show bb (bH l a) _ _=_
    cases h:bH l a with
    | true=>exact (ih _ _).trans (VA h rfl).symm
    | false=>exact (ih _ _).trans (Rw h rfl).symm
   | label l'=>
    show bb (l'==l) _ _=bd cx (.label l') (some l) (aw cx K fs) s
    cases h:l'==l with
    | true=>simp only [bd,h,if_true];exact ih _ _
    | false=>simp only [bd,h];rfl
   | _=>rfl
  | G c j n0 a fs g kn jn=>
   show (match (mC c)[j]? with | none=>_ | some (o,i)=>_)=dK cx c j n0 a (aw cx K fs) s
   cases h:(mC c)[j]? with
   | none=>
    rw [Oo h]
    show bb _ _ _=_
    cases (kj c).any <;> (simp only [bb,ih];rfl)
   | some p=>
    obtain ⟨o,i⟩:=p
    have hrun:∀ env g kn,sxW n0 ((kj c).strict i) o.op env (opW cx ((kj c).calm i) ((kj c).ord i) o.op env s.H fun v h=>wk cx K n (.G c (j+1) n0 (H7 (kj c) i o.op env a) fs g (knR o.dst kn) jn) ⟨mN env o.dst v,h⟩) =
      if eo n0 ((kj c).strict i) o.op env then (opV cx ((kj c).calm i) ((kj c).ord i) o.op env s.H).bind fun p=>dK cx c (j+1) n0 (H7 (kj c) i o.op env a) (aw cx K fs) ⟨mN env o.dst p.1,p.2⟩ else none:=by
     intro env g kn
     rw [aaO,YY]
     congr 1
     congr 1
     funext p
     exact ih _ _
    have hskip:∀ env g kn,wk cx K n (.G c (j+1) n0 a fs g (knS o.dst kn) jn) ⟨mN env o.dst uu,s.H⟩=dK cx c (j+1) n0 a (aw cx K fs) ⟨mN env o.dst (.lit undef),s.H⟩:=fun env g kn=>ih _ _
    rw [Mq h]
    dsimp only
    simp only [hrun,hskip]
    cases hg:o.guard with
    | none=>
     cases g with
     | true=>rfl
     | false=>rfl
    | some q=>
     obtain ⟨gj,want⟩:=q
     dsimp only
     cases hd:((Hg c)[gj]?).bind (·.dst) with
     | none=>rfl
     | some d=>
      dsimp only
      cases hk:ag8 d kn with
      | some b=>
       dsimp only
       cases he:s.env[d]? with
       | none=>rfl
       | some v=>
        cases v with
        | lit x=>
         cases x with
         | bool t=>cases t <;> cases want <;> rfl
         | _=>rfl
        | _=>rfl
      | none=>
       cases g with
       | true=>rfl
       | false=>
        dsimp only [bb]
        cases he:s.env[d]? with
        | none=>rfl
        | some v=>
         cases v with
         | lit x=>
          cases x with
          | bool t=>cases t <;> cases want <;> rfl
          | tuple x=>cases want <;> rfl
          | _=>cases want <;> rfl
         | _=>cases want <;> rfl
section
variable {cx:Cx} {K:Out→St→Res} {c:Code} {j n0 n:Nat} {a:List Nat×List Nat} {s:St} {r:Res} {fs:List Fr} {o:Out}
theorem kG (h:wk cx K 999 (.G c j n0 a fs false [] []) s=r:=by kernel_rfl):dK cx c j n0 a (aw cx K fs) s=r:=(J1 ..).symm.trans h
theorem kJ (jn:List Nat) (h:wk cx K 999 (.G c j n0 a fs false [] jn) s=r:=by kernel_rfl):dK cx c j n0 a (aw cx K fs) s=r:=(J1 ..).symm.trans h
theorem kR (h:wk cx K 999 (.R o fs []) s=r:=by kernel_rfl):aw cx K fs o s=r:=(J1 ..).symm.trans h
theorem kI (h:wk cx (eg cx c n0 K n) 999 (.E c [] []) s=r:=by kernel_rfl):itX cx c n0 K (n+1) s=r:=QL ((J1 ..).symm.trans h)
theorem kB {fn:Func} {args:List V} {H:Hp} (h:wk cx (av cx.P fn) 999 (.E (an fn) [] []) ⟨args++List.replicate (fn.ntmps - args.length) uu,H⟩=r:=by kernel_rfl) (hb:fn.body=some (an fn):=by rfl):ak cx fn args H=r:=Ls hb ((J1 ..).symm.trans h)
end
end Go.Ab
set_option linter.unusedVariables false
set_option linter.unusedSimpArgs false
namespace Go.Ab
theorem uU {cs:List V} {i g l:Nat} {H:Hp}:mM (some fun i=>i==1) (.tup [.agg cs,.own i g l]) H=bq (fzL 0 true cs H) fun p=>bq (pt p.1 p.2 []) fun q=>bq (pF (.own i g l) q.2.1 q.2.2) fun r=>some (.tup [.agg q.1,r.1],r.2.2):=by
 unfold bq
 show ((((fzL 0 true cs H).bind fun p=>some (V.agg p.1,p.2)).bind fun p=>some ([p.1,V.own i g l],p.2)).bind fun p=>(nT p.1 p.2 []).bind fun q=>some (V.tup q.1,q.2.2))=_
 cases fzL 0 true cs H with
 | none=>rfl
 | some p=>
  show ((nT [V.agg p.1,V.own i g l] p.2 []).bind fun q=>some (V.tup q.1,q.2.2))=_
  simp only [nT,FH]
  dsimp only [Option.bind_some]
  cases pt p.1 p.2 [] with
  | none=>rfl
  | some q=>
   dsimp only [Option.bind_some]
   cases pF (.own i g l) q.2.1 q.2.2 <;> rfl
theorem uL {cs:List V} {H:Hp}:mM (some fun i=>i==1) (.tup [.agg cs,.nil]) H=bq (fzL 0 true cs H) fun p=>bq (pt p.1 p.2 []) fun q=>some (.tup [.agg q.1,.ro []],q.2.2):=by
 unfold bq
 show ((((fzL 0 true cs H).bind fun p=>some (V.agg p.1,p.2)).bind fun p=>some ([p.1,V.nil],p.2)).bind fun p=>(nT p.1 p.2 []).bind fun q=>some (V.tup q.1,q.2.2))=_
 cases fzL 0 true cs H with
 | none=>rfl
 | some p=>
  show ((nT [V.agg p.1,V.nil] p.2 []).bind fun q=>some (V.tup q.1,q.2.2))=_
  simp only [nT,FH]
  dsimp only [Option.bind_some]
  cases pt p.1 p.2 [] <;> rfl
theorem pM {id g len e:Nat} {H acc:Hp} {l:Tye}:hmB id g len H acc (some (.rows e (l.map aX) g true))=ck (decide (len≤l.length)) (some (.own acc.length 0 len,H.set id .dead,acc++[.rows e ((l.take len).map aX) 0 true])):=uT fun _=>rfl
end Go.Ab
