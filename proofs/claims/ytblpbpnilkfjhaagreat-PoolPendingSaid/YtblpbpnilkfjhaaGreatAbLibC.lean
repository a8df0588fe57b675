import Derived.Test.YtblpbpnilkfjhaaGreatAbLibB
import Derived.Shelf.Slices.Delete
set_option linter.unusedVariables false
set_option linter.unusedSimpArgs false
namespace Go.Ab
def am:Code→List Nat→Code
 | c,[]=>c
 | .seq a b,i::p=>if i=0 then am a p else am b p
 | .cond _ a b,i::p=>if i=0 then am a p else am b p
 | .block _ a,_::p=>am a p
 | .loop a,_::p=>am a p
 | .scope a,_::p=>am a p
 | .rangeFunc _ _ a b,i::p=>if i=0 then am a p else am b p
 | c,_=>c
def an (fn:Func):Code:=fn.body.getD .skip
structure Sys where
 P:Program
 orc:FuncId→Option (List V→Hp→Option (V×Hp))
 keepRes:FuncId→FuncId→Option (Nat→Bool)
 keepArg:FuncId→Bool
 call:Nat→FuncId→List V→Hp→Option (V×Hp)
 yld:Nat→Nat→List V→Hp→Option (V×Hp)
inductive Fr where
 | seq (c:Code)
 | block (id:Nat)
 | scope (a:Code)
 | scope2 (a:Code)
def uu:V := .lit undef
abbrev Res:=Option (V×Hp)
def av (cx:Cx) (K:Out→St→Res):List Fr→Out→St→Res
 | [],o,s=>K o s
 | .seq c::fs,o,s=>match o with
  | .norm=>a9 cx c none (av cx K fs) s
  | o=>av cx K fs o s
 | .block id::fs,o,s=>match o with
  | .exit id'=>if id'=id then av cx K fs .norm s else av cx K fs (.exit id') s
  | o=>av cx K fs o s
 | .scope a::fs,o,s=>match o with
  | .goto l => if bB l a then a9 cx a (some l) (fun o' s'' => match o' with | .goto l' => if bB l' a then none else av cx K fs (.goto l') s'' | o' => av cx K fs o' s'') s else av cx K fs (.goto l) s
  | o=>av cx K fs o s
 | .scope2 a::fs,o,s=>match o with
  | .goto l=>if bB l a then none else av cx K fs (.goto l) s
  | o=>av cx K fs o s
def itX (cx:Cx) (c:Code) (n0:Nat) (K:Out→St→Res) (n:Nat) (s:St):Res:=
 J1 (a9 cx c none) n0 (cx.M.named cx.fid) (iY c ([],[])) K n s
def dc (cx:Cx) (c:Code) (n0:Nat) (K:Out→St→Res) (n:Nat):Out→St→Res:=fun o s'=>match o with
 | .norm=>itX cx c n0 K n (tidy n0 (Jk (cx.M.named cx.fid) (iY c ([],[])) false) s')
 | .ret=>K .ret s'
 | o=>K o (tidy n0 (Jk (cx.M.named cx.fid) (iY c ([],[])) true) s')
def GK:Code→Array Oper
 | .region _ ops _=>ops
 | _ => #[]
def iL:Code→Rg
 | .region _ ops draw=>if draw then pp ops else Rg.none
 | _=>Rg.none
def lV:Code→List (Oper×Nat)
 | .region _ ops draw=>if draw then aB ops else ops.toList.zipIdx
 | _=>[]
def BS (ops:Array Oper):List Nat:=(aB ops).map (·.2)
def fV (cx:Cx) (c:Code) (j n0:Nat) (a:List Nat×List Nat) (K:Out→St→Res) (s:St):Res:=
 Cj cx n0 (iL c) (GK c) ((lV c).drop j) a (K .norm) s
def aD (P:Program) (fn:Func):Out→St→Res:=fun o s=>match o with
 | .norm=>(fJ P fn.results.toList s).map fun v=>(v,s.H)
 | .ret=>(fJ P fn.results.toList s).map fun v=>(v,s.H)
 | _=>none
def bm (x:Option V) (H:Hp) (k:V→Hp→Res):Res:=(x.map fun v=>(v,H)).bind fun p=>k p.1 p.2
def bp (x:Option (V×Hp)) (k:V→Hp→Res):Res:=x.bind fun p=>k p.1 p.2
def bs (x:Option Hp) (k:Hp→Res):Res:=(x.map fun H'=>(V.lit undef,H')).bind fun p=>k p.2
def cnd (c:V) (a b:Res):Res:=match c with
 | .lit (.bool t)=>bif t then a else b
 | _=>none
def gd (c:V) (a b u:Res):Res:=match c with
 | .lit (.bool t)=>bif t then a else b
 | .lit (.tuple _)=>u
 | _=>none
def aA (P:Program) (t:TypeId) (H:Hp):Option (V×Hp):=
 (eQ P t).bind fun z=>if be (bI z) then let p:=bK (bI z) H;some (.ptr p.2.length 0 0 0,p.2++[.box p.1]) else none
def aU (v:V) (H:Hp):Option (V×Hp):=v.cells.bind fun vs=>let p:=bK vs H;some (.ptr p.2.length 0 0 0,p.2++[.box p.1])
def cW (P:Program) (wl:Nat) (t:TypeId) (len:Nat) (l:List (Nat×V)) (H:Hp):Option (V×Hp):=
 if true && !bC (l.map (·.2)) then none else aK P wl t len l H
def bw (P:Program) (t:TypeId) (x:V) (H:Hp):Option (V×Hp):=if (mn P t).isSome then (Ac x H).map fun v=>(v,H) else none
def ng (P:Program) (wl:Nat) (t u:TypeId) (s x:V) (H:Hp):Option (V×Hp):=if (mn P u).isSome then cN P wl t s x H else none
def apt (a:List Nat×List Nat) (k:Res):Res:=if uI a then k else none
def lgR (v:V) (a:List Nat×List Nat):List Nat×List Nat:=match JY v with | some k=>(k::a.1,a.2) | none=>a
def lgW (v:V) (a:List Nat×List Nat):List Nat×List Nat:=match JY v with | some k=>(a.1,k::a.2) | none=>a
def stB (n0:Nat) (v:V):Bool:=match JY v with | some i=>i<n0 | none=>true
def stO (n0:Nat) (v:V) (k:Res):Res:=if stB n0 v then k else none
def afk:List (Option V)→Option (List V)
 | []=>some []
 | x::xs=>x.bind fun v=>(afk xs).bind fun vs=>some (v::vs)
def eg (l:List (Option V)) (H:Hp):Res:=((afk l).bind fun vs=>match vs with | [v]=>some v | vs=>some (.tup vs)).map fun v=>(v,H)
section steps
variable {cx:Cx} {K:Out→St→Res} {fs:List Fr} {s:St} {r:Res}
theorem M2 {fn:Func} {args:List V} {H:Hp} {c:Code} (hb:fn.body=some c) (h:av cx (aD cx.P fn) [.seq c] .norm ⟨args++List.replicate (fn.ntmps - args.length) uu,H⟩=r):ak cx fn args H=r:=by
 rw [← h]
 unfold ak
 rw [hb]
 have:(fun o s=>match o with
   | .norm=>(fJ cx.P fn.results.toList s).map fun v=>(v,s.H)
   | .ret=>(fJ cx.P fn.results.toList s).map fun v=>(v,s.H)
   | _=>none:Out→St→Res)=av cx (aD cx.P fn) []:=by
  funext o s
  cases o <;> rfl
 show a9 cx c none _ _=a9 cx c none (av cx (aD cx.P fn) []) _
 rw [← this]
 rfl
theorem go_seq {a b:Code} (h:av cx K (.seq a :: .seq b::fs) .norm s=r):av cx K (.seq (.seq a b)::fs) .norm s=r:=by
 rw [← h]
 show a9 cx a none _ s=a9 cx a none (av cx K (.seq b::fs)) s
 congr 1
theorem go_block {id:Nat} {a:Code} (h:av cx K (.seq a :: .block id::fs) .norm s=r):av cx K (.seq (.block id a)::fs) .norm s=r:=by
 rw [← h]
 show a9 cx a none _ s=a9 cx a none (av cx K (.block id::fs)) s
 congr 1
theorem go_scope {a:Code} (h:av cx K (.seq a :: .scope a::fs) .norm s=r):av cx K (.seq (.scope a)::fs) .norm s=r:=by
 rw [← h]
 show a9 cx a none _ s=a9 cx a none (av cx K (.scope a::fs)) s
 congr 1
theorem go_ret (h:av cx K fs .ret s=r):av cx K (.seq .ret::fs) .norm s=r:=h
theorem C4 {a:Code} {l:Nat} (hl:bB l a=false) (h:av cx K fs (.goto l) s=r):av cx K (.scope a::fs) (.goto l) s=r:=by
 rw [← h]
 simp only [av]
 rw [hl]
 rfl
theorem CC {a:Code} {l:Nat} (hl:bB l a=false) (h:av cx K fs (.goto l) s=r):av cx K (.scope2 a::fs) (.goto l) s=r:=by
 rw [← h]
 simp only [av]
 rw [hl]
 rfl
def Ap (cx:Cx) (K:Out→St→Res) (c:Code) (l:Nat) (fs:List Fr) (s:St):Res:=a9 cx c (some l) (av cx K fs) s
theorem FS {a:Code} {l:Nat} (hl:bB l a=true) (h:Ap cx K a l (.scope2 a::fs) s=r):av cx K (.scope a::fs) (.goto l) s=r:=by
 rw [← h]
 simp only [av]
 rw [hl]
 simp only [if_true,Ap]
 congr 1
theorem We {a b:Code} {l:Nat} (hl:bB l a=true) (h:Ap cx K a l (.seq b::fs) s=r):Ap cx K (.seq a b) l fs s=r:=by
 rw [← h]
 simp only [Ap,a9,hl,if_true]
 congr 1
theorem PU {a b:Code} {l:Nat} (hl:bB l a=false) (h:Ap cx K b l fs s=r):Ap cx K (.seq a b) l fs s=r:=by
 rw [← h]
 simp [Ap,a9,hl]
theorem go_cond {c:Operand} {a b:Code} {v:V} {A B:Res} (hc:evO s.env c=some v) (hA:av cx K (.seq a::fs) .norm s=A) (hB:av cx K (.seq b::fs) .norm s=B) :
  av cx K (.seq (.cond c a b)::fs) .norm s=cnd v A B:=by
 rw [← hA,← hB]
 show a9 cx (.cond c a b) none (av cx K fs) s=_
 simp only [a9,hc]
 cases v with
 | lit x=>cases x <;> rfl
 | _=>rfl
theorem go_reg0 {id:Nat} {ops:Array Oper} (h:fV cx (.region id ops false) 0 s.H.length ([],[]) (av cx K fs) s=r):av cx K (.seq (.region id ops false)::fs) .norm s=r:=by
 rw [← h]
 show a9 cx (.region id ops false) none (av cx K fs) s=_
 simp [a9,fV,iL,GK,lV]
theorem go_reg1 {id:Nat} {ops:Array Oper} (hok:BI ops=true) (h:fV cx (.region id ops true) 0 s.H.length ([],[]) (av cx K fs) s=r):av cx K (.seq (.region id ops true)::fs) .norm s=r:=by
 rw [← h]
 show a9 cx (.region id ops true) none (av cx K fs) s=_
 simp [a9,fV,iL,GK,lV,hok]
section ops
variable {id j n0:Nat} {ops:Array Oper} {a:List Nat×List Nat} {env:List V} {H:Hp} {o:Oper} {i:Nat} {L:List Nat}
theorem ac9 (hL:BS ops=L) (hj:L[j]? = some i) (ho:ops.toList[i]? = some o):(aB ops).drop j=(o,i)::(aB ops).drop (j+1):=by
 subst hL
 simp only [BS,List.getElem?_map,Option.map_eq_some_iff] at hj
 obtain ⟨p,hp,rfl⟩:=hj
 have hm:p ∈ aB ops:=List.mem_of_getElem? hp
 have hz:p ∈ ops.toList.zipIdx:=by
  simp only [aB,List.mem_append,List.mem_filter] at hm
  rcases hm with h | h <;> exact h.1
 have hx:ops.toList[p.2]? = some p.1:=by
  obtain ⟨x,k⟩:=p
  simpa [List.mem_zipIdx_iff_getElem?] using hz
 rw [hx] at ho
 cases ho
 rw [List.getElem?_eq_some_iff] at hp
 obtain ⟨hj,he⟩:=hp
 rw [List.drop_eq_getElem_cons hj,he]
def sx (n0:Nat) (st:Bool) (op:Op) (env:List V) (x:Res):Res:=if dI n0 st op env then x else none
theorem ae7 {st:Bool} {op:Op} {x:Res} (hst:st=false) (h:x=r):sx n0 st op env x=r:=by
 subst hst
 simpa [sx,dI] using h
theorem go_op1 (hL:BS ops=L) (ha:(pp ops).any=false) (hj:L[j]? = some i) (ho:ops.toList[i]? = some o) (hg:o.guard=none)
  (h:sx n0 ((pp ops).strict i) o.op env ((opV cx ((pp ops).calm i) ((pp ops).ord i) o.op env H).bind (fun p=>fV cx (.region id ops true) (j+1) n0 a K ⟨ml env o.dst p.1,p.2⟩))=r):fV cx (.region id ops true) j n0 a K ⟨env,H⟩=r:=by
 rw [← h]
 simp only [fV,iL,GK,lV,if_true,ac9 hL hj ho]
 simp only [Cj,hg]
 simp [Hr,ha,sx]
variable {gj d:Nat} {v:V} {A B C:Res}
end ops
theorem adg {X:Option (V×Hp)} {F:V×Hp→Res} {v:V} {H:Hp} (h1:X=some (v,H)) (h2:F (v,H)=r):X.bind F=r:=by
 subst h1
 exact h2
theorem Pg {c:Code} {n0 n:Nat} (h:av cx (dc cx c n0 K n) [.seq c] .norm s=r):itX cx c n0 K (n+1) s=r:=by
 rw [← h]
 show a9 cx c none _ s=a9 cx c none (av cx (dc cx c n0 K n) []) s
 congr 1
end steps
end Go.Ab
namespace Go.Ab
section combinators
variable {H:Hp} {K:V→Hp→Res} {k:Hp→Res} {A B C:Res}
@[congr] theorem abG {x y:Option V} (h:x=y):bm x H K=bm y H K:=by rw [h]
@[congr] theorem abH {x y:Option (V×Hp)} (h:x=y):bp x K=bp y K:=by rw [h]
@[congr] theorem abn {x y:Option Hp} (h:x=y):bs x k=bs y k:=by rw [h]
@[congr] theorem aaj {x y:V} (h:x=y):cnd x A B=cnd y A B:=by rw [h]
@[congr] theorem abC {x y:V} (h:x=y):gd x A B C=gd y A B C:=by rw [h]
def ob {α β:Type} (x:Option α) (k:α→Option β):Option β:=x.bind k
def ck {β:Type} (c:Bool) (k:Option β):Option β:=bif c then k else none
theorem Ty {v:V}:bm (some v) H K=K v H:=rfl
theorem TS:bm none H K=none:=rfl
theorem Vx {v:V} {h:Hp}:bp (some (v,h)) K=K v h:=rfl
theorem TD:bp none K=none:=rfl
theorem UV {h:Hp}:bs (some h) k=k h:=rfl
theorem Wc:bs none k=none:=rfl
theorem aaw {α:Type} {x:Option α} {f:α→V}:bm (x.map f) H K=ob x fun a=>K (f a) H:=by cases x <;> rfl
theorem Uw {α:Type} {x:Option α} {f:α→Option V}:bm (x.bind f) H K=ob x fun a=>bm (f a) H K:=by cases x <;> rfl
theorem TO {α:Type} {x:Option α} {f:α→Option (V×Hp)}:bp (x.bind f) K=ob x fun a=>bp (f a) K:=by cases x <;> rfl
theorem VN {α:Type} {x:Option α} {f:α→Option Hp}:bs (x.bind f) k=ob x fun a=>bs (f a) k:=by cases x <;> rfl
theorem abO {t:Bool}:cnd (.lit (.bool t)) A B=bif t then A else B:=rfl
theorem afS {t:Bool}:gd (.lit (.bool t)) A B C=bif t then A else B:=rfl
theorem cq {β:Type} {A:Option β}:ck true A=A:=rfl
theorem Cf {β:Type} {A:Option β}:ck false A=none:=rfl
theorem ae {α β:Type} {a:α} {f:α→Option β}:ob (some a) f=f a:=rfl
theorem T5 {α β:Type} {f:α→Option β}:ob none f=none:=rfl
end combinators
def idx {α:Type} (l:List α) (i:Int):Option α:=if 0≤i then l[i.toNat]? else none
theorem Wh {α:Type} (l:List α) (i:Nat):idx l (i:Int)=l[i]? := by simp [idx]
section ops
variable {P:Program} {t:TypeId} {k k':IntKind} {a b:Int} {x y:V}
theorem Py:az P .add t (.lit (.int k a)) (.lit (.int k b))=some (.lit (.int k (k.wrap (a+b)))):=by simp [az,ee]
theorem OI:az P .sub t (.lit (.int k a)) (.lit (.int k b))=some (.lit (.int k (k.wrap (a - b)))):=by simp [az,ee]
theorem O3:az P .mul t (.lit (.int k a)) (.lit (.int k b))=some (.lit (.int k (k.wrap (a*b)))):=by simp [az,ee]
theorem Q4:az P .eql t (.lit (.int k a)) (.lit (.int k b))=some (.lit (.bool (a==b))):=by simp [az,ee]
theorem OZ : az P .neq t (.lit (.int k a)) (.lit (.int k b)) = some (.lit (.bool (a != b))) := by simp [az, ee]
theorem Ox:az P .lss t (.lit (.int k a)) (.lit (.int k b))=some (.lit (.bool (decide (a<b)))):=by simp [az,ee]
theorem Ol:az P .leq t (.lit (.int k a)) (.lit (.int k b))=some (.lit (.bool (decide (a≤b)))):=by simp [az,ee]
theorem NH:az P .gtr t (.lit (.int k a)) (.lit (.int k b))=some (.lit (.bool (decide (b<a)))):=by simp [az,ee]
theorem Pt:az P .geq t (.lit (.int k a)) (.lit (.int k b))=some (.lit (.bool (decide (b≤a)))):=by simp [az,ee]
theorem Qr : az P .quo t (.lit (.int k a)) (.lit (.int k b)) = bif b != 0 then some (.lit (.int k (k.wrap (a.tdiv b)))) else none := by
  by_cases h : b = 0
  · simp [az, ee, h]
  · simp [az, ee, h, (bne_iff_ne).2 h]
theorem QM : az P .rem t (.lit (.int k a)) (.lit (.int k b)) = bif b != 0 then some (.lit (.int k (a.tmod b))) else none := by
  by_cases h : b = 0
  · simp [az, ee, h]
  · simp [az, ee, h, (bne_iff_ne).2 h]
theorem Tm {p:Bool}:vUn .not (.lit (.bool p))=some (.lit (.bool !p)):=rfl
theorem UP {p:Bool}:aT (.lit (.bool p)) x y=some (bif p then x else y):=rfl
theorem Jw {l:List V}:ar (.tup (x::l)) 0=some x:=rfl
theorem Js {l:List V}:ar (.tup (x::y::l)) 1=some y:=rfl
theorem Jh {z:V} {l:List V}:ar (.tup (x::y::z::l)) 2=some z:=rfl
end ops
def aQ (k:IntKind) (n:Int):List V:=[.lit (.int k n)]
def Ai (b:Bool):List V:=[.lit (.bool b)]
section mem
variable {P:Program} {t:TypeId} {H:Hp} {wl:Nat}
theorem NJ {cs:List V}:ab P t (.rp cs) H=aS P t cs:=rfl
def ldB (P:Program) (t:TypeId) (g row off:Nat):Option B→Option V
 | some (.box cs)=>bif g==0&&row==0 then aS P t (cs.drop off) else none
 | some (.rows _ rs g' _)=>bif g==g' then (rs[row]?).bind fun r=>aS P t (r.drop off) else none
 | _=>none
theorem KU {id g row off:Nat}:ab P t (.ptr id g row off) H=ldB P t g row off (H[id]?):=by
 unfold ab ldB
 dsimp only
 generalize H[id]? = b0
 cases b0 with
 | none=>rfl
 | some b=>cases b <;> simp [Bool.cond_eq_ite]
theorem Ti {off:Nat} {cs:List V}:ldB P t 0 0 off (some (.box cs))=aS P t (cs.drop off):=rfl
theorem PF {α:Type} {l:List α} {enc:α→List V} {g row off e:Nat} {lv:Bool} :
  ldB P t g row off (some (.rows e (l.map enc) g lv))=(l[row]?).bind fun x=>aS P t ((enc x).drop off):=by
 simp [ldB]
 cases l[row]? <;> rfl
def abj (P : Program) (wl : Nat) (t : TypeId) (id g row off : Nat) (vs : List V) (H : Hp) : Option B → Option Hp
  | some (.box cs) =>
    bif g == 0 && row == 0 && aW P t != 0 && vs.length == aW P t && decide (off + vs.length ≤ cs.length) then
      some ((bK vs H).2.set id (.box (spl cs off (bK vs H).1)))
    else none
  | some (.rows _ _ _ _) => (fzL wl true vs H).bind fun p =>
    match p.2[id]? with
    | some (.rows e rs g' true) =>
      bif g == g' && aW P t != 0 && vs.length == aW P t then
        (rs[row]?).bind fun r => bif decide (off + p.1.length ≤ r.length) then some (p.2.set id (.rows e (rs.set row (spl r off p.1)) g' true)) else none
      else none
    | _ => none
  | _ => none
theorem IZ {id g row off : Nat} {v : V} : ai P wl t (.ptr id g row off) v H = (v.cells).bind fun vs => bif Nat.ble wl id then abj P wl t id g row off vs H (H[id]?) else none := by
  unfold ai
  cases hv : v.cells with
  | none => simp
  | some vs =>
    simp only [Option.bind_some]
    cases hw : Nat.ble wl id with
    | false => simp
    | true =>
      simp only [if_true, cond_true]
      unfold abj
      generalize H[id]? = b0
      cases b0 with
      | none => rfl
      | some b =>
        cases b with
        | box cs => simp only [Bool.cond_eq_ite, Bool.and_eq_true, beq_iff_eq, bne_iff_ne, decide_eq_true_eq, and_assoc]
        | rows e rs g' lv =>
          simp only
          congr 1
          funext p
          generalize p.2[id]? = b1
          cases b1 with
          | none => rfl
          | some b => 
            cases b with
            | rows e rs g' lv => cases lv <;> simp [Bool.cond_eq_ite, and_assoc]
            | _ => rfl
        | _ => rfl
theorem cy {α : Type} {l : List α} {enc : α → List V} {e : TypeId} {k : IntKind} {n : Int} (hu : P.underlying t = some (.slice e)) (hs : ∀ x, (enc x).length = aW P e) (hz : (aW P e != 0) = true) :
    al P t (.ro (l.map enc)) (.lit (.int k n)) H = (idx l n).map fun x => .rp (enc x) := by
  have hz' : aW P e ≠ 0 := by simpa using hz
  unfold al idx
  simp only [hu]
  split
  · cases hl : l[n.toNat]? with
    | none => simp [hl]
    | some x => simp [hl, hs, hz']
  · rfl
def ixB (sz g len id:Nat) (n:Int):Option B→Option V
 | some (.rows s _ g' _)=>bif g==g'&&s==sz then bif decide (0≤n∧n.toNat<len) then some (.ptr id g n.toNat 0) else none else none
 | _=>none
theorem b7 {id g len : Nat} {e : TypeId} {k : IntKind} {n : Int} (hu : P.underlying t = some (.slice e)) (hz : (aW P e != 0) = true) :
    al P t (.own id g len) (.lit (.int k n)) H = ixB (aW P e) g len id n (H[id]?) := by
  have hz' : aW P e ≠ 0 := by simpa using hz
  unfold al ixB
  simp only [hu]
  by_cases hn : 0 ≤ n
  · simp only [hn, if_true, true_and]
    generalize H[id]? = b0
    cases b0 with
    | none => rfl
    | some b =>
      cases b with
      | rows s rs g' lv =>
        simp only [hz', ne_eq, not_false_eq_true, and_true, Bool.cond_eq_ite, Bool.and_eq_true, beq_iff_eq, decide_eq_true_eq]
      | _ => rfl
  · simp only [hn, if_false, false_and, decide_false]
    generalize H[id]? = b0
    cases b0 with
    | none => rfl
    | some b =>
      cases b with
      | rows s rs g' lv => simp
      | _ => rfl
theorem NQ {sz g len id:Nat} {n:Int} {rs:List (List V)} {lv:Bool}:ixB sz g len id n (some (.rows sz rs g lv))=bif decide (0≤n∧n.toNat<len) then some (.ptr id g n.toNat 0) else none:=by
 simp [ixB]
theorem TP {rows:List (List V)}:Ac (.ro rows) H=some (.lit (.int .i64 rows.length)):=rfl
def lnB (g len:Nat):Option B→Option V
 | some (.rows _ _ g' _)=>bif g==g' then some (.lit (.int .i64 len)) else none
 | _=>none
theorem Qz {id g len:Nat}:Ac (.own id g len) H=lnB g len (H[id]?):=by
 unfold Ac lnB
 dsimp only
 generalize H[id]? = b0
 cases b0 with
 | none=>rfl
 | some b=>cases b <;> simp [Bool.cond_eq_ite]
theorem QL {g len e:Nat} {rs:List (List V)} {lv:Bool}:lnB g len (some (.rows e rs g lv))=some (.lit (.int .i64 len)):=by simp [lnB]
theorem KN {v:Value} (h:v.oneCell'=true):aU (.lit v) H=some (.ptr H.length 0 0 0,H++[.box [.lit v]]):=by
 simp [aU,V.cells,V.one,h,bK]
theorem Nr {k:IntKind} {n:Int}:aU (.lit (.int k n)) H=some (.ptr H.length 0 0 0,H++[.box [.lit (.int k n)]]):=KN rfl
theorem Qy {r:List (List V)}:aU (.ro r) H=some (.ptr H.length 0 0 0,H++[.box [.ro r]]):=by simp [aU,V.cells,V.one,bK]
theorem MM {l:List V}:aU (.agg l) H=some (.ptr (bK l H).2.length 0 0 0,(bK l H).2++[.box (bK l H).1]):=by simp [aU,V.cells]
theorem OQ:bK [] H=([],H):=rfl
theorem Oq {v:Value} {l:List V}:bK (.lit v::l) H=(.lit v::(bK l H).1,(bK l H).2):=rfl
theorem T3 {r:List (List V)} {l:List V}:bK (.ro r::l) H=(.ro r::(bK l H).1,(bK l H).2):=rfl
theorem N2 {i g n:Nat} {l:List V}:bK (.own i g n::l) H=(.own i g n::(bK l H).1,(bK l H).2):=rfl
theorem Wn {f:Fn} {a b l:List V}:bK (.fn f a b::l) H=(.fn f a b::(bK l H).1,(bK l H).2):=rfl
theorem K4 {l:List V}:bK (.nil::l) H=(.own H.length 0 0::(bK l (H++[.rows 0 [] 0 true])).1,(bK l (H++[.rows 0 [] 0 true])).2):=rfl
theorem ET {v:Value} (h:v.oneCell'=true):V.cells (.lit v)=some [.lit v]:=by simp [V.cells,V.one,h]
theorem LH {k:IntKind} {n:Int}:V.cells (.lit (.int k n))=some [.lit (.int k n)]:=ET rfl
theorem IU {b:Bool}:V.cells (.lit (.bool b))=some [.lit (.bool b)]:=ET rfl
theorem QG {r:List (List V)}:V.cells (.ro r)=some [.ro r]:=rfl
theorem Kn {i g n:Nat}:V.cells (.own i g n)=some [.own i g n]:=rfl
theorem P7 {f:Fn} {a b:List V}:V.cells (.fn f a b)=some [.fn f a b]:=rfl
theorem LO {l:List V}:V.cells (.agg l)=some l:=rfl
theorem NZ {id g row off:Nat}:aN (.ptr id g row off) H=(match H[id]? with
  | some (.box _)=>bif g==0 then some (.ptr id g row off) else none
  | some (.rows _ _ g' _)=>bif g==g' then some (.ptr id g row off) else none
  | _=>none):=by
 unfold aN
 dsimp only
 generalize H[id]? = b0
 cases b0 with
 | none=>rfl
 | some b=>cases b <;> simp [Bool.cond_eq_ite]
theorem MX {cx:Cx} {c:Code} {n0:Nat} {K:Out→St→Res} {n:Nat} {s:St}:dc cx c n0 K n .ret s=K .ret s:=rfl
theorem Yu {v:V}:eg [some v] H=some (v,H):=rfl
theorem XQ {v w:V}:eg [some v,some w] H=some (.tup [v,w],H):=rfl
theorem WQ {v w x:V}:eg [some v,some w,some x] H=some (.tup [v,w,x],H):=rfl
end mem
end Go.Ab
namespace Go.Ab
mutual
def V.data:V→Bool
 | .lit _=>true
 | .ro _=>true
 | .nil=>true
 | .agg cs=>iH cs
 | .fn _ a b=>Lq a&&Lq b
 | _=>false
def Lq:List V→Bool
 | []=>true
 | v::vs=>v.data&&Lq vs
def iH:List V→Bool
 | []=>true
 | .lit _::vs=>iH vs
 | .ro _::vs=>iH vs
 | _::_=>false
end
theorem kD:∀ {l:List V},iH l=true→bC l=true
 | [],_=>rfl
 | .lit _::vs,h=>by
  have:=kD (l:=vs) (by simpa [iH] using h)
  simp [bC,V.pure,this]
 | .ro _::vs,h=>by
  have:=kD (l:=vs) (by simpa [iH] using h)
  simp [bC,V.pure,this]
 | .nil::_,h | .any::_,h | .junk::_,h | .agg _::_,h | .tup _::_,h | .fn .. :: _,h | .yld _::_,h | .rp _::_,h | .ptr .. :: _,h | .own .. :: _,h | .map _::_,h=>by simp [iH] at h
mutual
theorem K3:∀ {v:V},v.data=true→v.pure=true
 | .lit _,_ | .ro _,_ | .nil,_=>rfl
 | .agg cs,h=>kD h
 | .fn _ a b,h=>by
  simp [V.data] at h
  simp [V.pure,pF h.1,pF h.2]
 | .any,h | .junk,h | .tup _,h | .yld _,h | .rp _,h | .ptr ..,h | .own ..,h | .map _,h=>by simp [V.data] at h
theorem pF:∀ {l:List V},Lq l=true→bC l=true
 | [],_=>rfl
 | v::vs,h=>by
  simp [Lq] at h
  simp [bC,K3 h.1,pF h.2]
end
def nI (cx:Cx) (g:FuncId) (args:List V):Option (V×Hp):=(cx.call 0 g args []).bind fun p=>mo (cx.M.keepRes cx.fid g) p.1 p.2
section ret
variable {H:Hp}
theorem NK {v:Value} {h:Hp}:mo none (.lit v) h=some (.lit v,[]):=rfl
def fzB (wl id g len:Nat) (H:Hp):Option B→Option (V×Hp)
 | some (.rows e rs g' _)=>bif g==g'&&decide (len≤rs.length)&&(dn rs&&Nat.ble wl id) then some (.ro (rs.take len),H.set id (.rows e rs g' false)) else none
 | _=>none
theorem pD {wl id g len:Nat}:fzC wl (.own id g len) H=fzB wl id g len H (H[id]?):=by
 unfold fzC fzB
 dsimp only
 generalize H[id]? = b
 cases b with
 | none=>rfl
 | some b=>
  cases b with
  | rows e rs g' lv=>
   by_cases h1:g=g'
   ·by_cases h2:len≤rs.length <;> cases h3:(dn rs&&Nat.ble wl id) <;> simp [h1,h2]
   ·simp [h1,beq_false_of_ne h1]
  | _=>rfl
theorem PX {α:Type} {l:List α} {enc:α→List V} {wl id g e len:Nat} {lv:Bool} (hl:len=l.length) (hp:∀ x,bC (enc x)=true) (hw:Nat.ble wl id=true) :
  fzB wl id g len H (some (.rows e (l.map enc) g lv))=some (.ro (l.map enc),H.set id (.rows e (l.map enc) g false)):=by
 subst hl
 have h1:dn (l.map enc)=true:=by
  rw [dn,List.all_eq_true]
  intro r hr
  obtain ⟨x,_,rfl⟩:=List.mem_map.1 hr
  exact hp x
 have h2:(l.map enc).take l.length=l.map enc:=by rw [List.take_of_length_le];simp
 simp [fzB,h1,hw,h2]
theorem QW {α:Type} {l:List α} {enc:α→List V} {id g e len:Nat} {lv:Bool} {h:Hp} (hb:h[id]? = some (.rows e (l.map enc) g lv)) (hl:len=l.length) (hp:∀ x,bC (enc x)=true) :
  mo none (.own id g len) h=some (.ro (l.map enc),[]):=by
 simp only [mo,fzR,DG,fzA,pD,hb,PX hl hp (by simp:Nat.ble 0 id=true),Option.bind_some,V.pure,if_true]
end ret
section app
variable {P:Program} {wl:Nat} {t:TypeId} {H:Hp}
theorem EY {r:List (List V)}:dG (.ro r) H=some r:=rfl
def roB (g len:Nat):Option B→Option (List (List V))
 | some (.rows _ rs g' _)=>bif g==g'&&decide (len≤rs.length) then some (rs.take len) else none
 | _=>none
theorem JQ {id g len:Nat}:dG (.own id g len) H=roB g len (H[id]?):=by
 unfold dG roB
 dsimp only
 generalize H[id]? = b
 cases b with
 | none=>rfl
 | some b=>cases b <;> simp [Bool.cond_eq_ite]
def apB (wl _e:Nat) (sz bytes id g len:Nat) (xs:List (List V)) (H:Hp):Option B→Option (V×Hp)
 | some (.rows s rs g' live)=>
  bif Nat.ble wl id&&(g==g')&&decide (len≤rs.length)&&(live||len==rs.length)&&(s==sz||s==0)&&decide ((len+xs.length)*bytes≤70368744177664) then
   some (.own id (g+1) (len+xs.length),H.set id (.rows sz (rs.take len++xs) (g+1) live)) else none
 | _=>none
theorem fu {e:TypeId} {id g len:Nat} {x:V} (he:mn P t=some e) (hg:I9 P e=true) :
  cN P wl t (.own id g len) x H=(dG x H).bind fun xs=>bif fb (aW P e) xs then apB wl e (aW P e) (P.bytesOf e) id g len xs H (H[id]?) else none:=by
 unfold cN
 simp only [he]
 cases hr:dG x H with
 | none=>rfl
 | some xs=>
  simp only [Option.bind_some,hg,Bool.and_true]
  cases fb (aW P e) xs with
  | false=>rfl
  | true=>
   simp only [if_true,cond_true,apB]
   generalize H[id]? = b
   cases b with
   | none=>rfl
   | some b=>
    cases b with
    | rows s rs g' lv=>simp [Bool.cond_eq_ite,and_assoc]
    | _=>rfl
theorem lM {α:Type} {l:List α} {enc:α→List V} {sz:Nat} (h:∀ x,(enc x).length=sz):fb sz (l.map enc)=true:=by
 rw [fb,List.all_eq_true]
 intro r hr
 obtain ⟨x,_,rfl⟩:=List.mem_map.1 hr
 simp [h]
def room (n bytes:Nat):Bool:=decide (n*bytes≤70368744177664)
theorem BM {e : TypeId} {n : Int} {z : Value} {Z : List V} (he : mn P t = some e) (hz : eQ P e = some z) (hZ : ba.fzZ (bI z) = Z) (ho : (be (bI z) && (bI z).length == aW P e && aW P e != 0) = true) :
    ba P t (.lit (.int .i64 n)) (.lit (.int .i64 n)) H = bif decide (0 ≤ n ∧ n ≤ 9223372036854775807 ∧ n * P.bytesOf e ≤ 70368744177664) then some (.own H.length 0 n.toNat, H ++ [.rows (aW P e) (List.replicate n.toNat Z) 0 true]) else none := by
  unfold ba
  simp only [he, hz, ho, if_true, hZ, true_and, Bool.cond_eq_ite, decide_eq_true_eq]
end app
theorem kT {α:Type} {l:List α} {enc:α→List V} {n:Nat} (hp:∀ x,bC (enc x)=true):nd n (l.map enc)=l.map enc:=by
 have h1:dn (l.map enc)=true:=by
  rw [dn,List.all_eq_true]
  intro r hr
  obtain ⟨x,_,rfl⟩:=List.mem_map.1 hr
  exact hp x
 simp [nd,h1]
theorem lO {α:Type} {l:List α} {enc:α→List V} {n:Nat} (hp:∀ x,bC (enc x)=true):mK n (l.map enc)=l.map enc:=by
 have h1:dn (l.map enc)=true:=by
  rw [dn,List.all_eq_true]
  intro r hr
  obtain ⟨x,_,rfl⟩:=List.mem_map.1 hr
  exact hp x
 simp [mK,h1]
theorem IV {n:Nat}:mK n []=[]:=rfl
theorem K6 {n:Nat}:nd n []=[]:=rfl
theorem uT (k:IntKind) (x:Int):bC (aQ k x)=true:=rfl
theorem Jg (x:Bool):bC (Ai x)=true:=rfl
theorem mZ (x:Int×List Int):bC (ap x)=true:=rfl
theorem nW (x:Int×Int×Int):bC (a8 x)=true:=rfl
theorem KS {k:IntKind} {l:List Int} {n:Nat}:nd n (l.map (aQ k))=l.map (aQ k):=kT (uT k)
theorem Jn {l:List Bool} {n:Nat}:nd n (l.map Ai)=l.map Ai:=kT Jg
theorem JH {l:Tyt} {n:Nat}:nd n (l.map ap)=l.map ap:=kT mZ
theorem FK {l:Tye} {n:Nat}:nd n (l.map a8)=l.map a8:=kT nW
theorem Jc {k:IntKind} {l:List Int} {n:Nat}:mK n (l.map (aQ k))=l.map (aQ k):=lO (uT k)
theorem Fv {l:Tyt} {n:Nat}:mK n (l.map ap)=l.map ap:=lO mZ
theorem C6 {l:Tye} {n:Nat}:mK n (l.map a8)=l.map a8:=lO nW
theorem JK {n:Nat} {cs:List V}:B.shift n (.box cs) = .box (iU n cs):=rfl
theorem GC {n e g:Nat} {rs:List (List V)} {l:Bool}:B.shift n (.rows e rs g l) = .rows e (mK n rs) g l:=rfl
theorem J2 {n:Nat} {cs:List V}:B.kill n (.box cs) = .box (kE n cs):=rfl
theorem IP {n e g:Nat} {rs:List (List V)} {l:Bool}:B.kill n (.rows e rs g l) = .rows e (nd n rs) g l:=rfl
theorem Mz {l:List Bool} {i:Nat} {b:Bool}:(l.map Ai).set i [.lit (.bool b)]=(l.set i b).map Ai:=by rw [List.map_set];rfl
theorem Oy {k:IntKind} {l:List Int} {i:Nat} {b:Int}:(l.map (aQ k)).set i [.lit (.int k b)]=(l.set i b).map (aQ k):=by rw [List.map_set];rfl
theorem Mi {n:Nat} {b:Bool}:List.replicate n [V.lit (.bool b)]=(List.replicate n b).map Ai:=by rw [List.map_replicate];rfl
theorem P1 {α:Type} {l:List α} {f:α→List V} {i:Nat}:(l.map f)[i]? = (l[i]?).map f:=List.getElem?_map
theorem QV (x:Int×List Int):ap x=[.lit (.int .i64 x.1),.ro (x.2.map (aQ .i64))]:=rfl
theorem L4 {keep:Option (Nat→Bool)} {v:Value} {h:Hp}:mo keep (.lit v) h=some (.lit v,[]):=by
 cases keep <;> rfl
theorem NO {keep:Option (Nat→Bool)} {r:List (List V)} {h:Hp}:mo keep (.ro r) h=some (.ro r,[]):=by
 cases keep <;> rfl
theorem Lc {z:Int} (h1 : -9223372036854775808≤z) (h2:z≤9223372036854775807):IntKind.i64.wrap z=z:=by
 simp [IntKind.wrap,IntKind.bits,IntKind.signed]
 omega
end Go.Ab
namespace Go.Ab
def bdK (id n:Nat):Out→St→Res:=fun o s=>match s.H[id]? with
 | some (.loop l)=>some (.lit (.bool (dw o).isNone),co n (s.H.set id (.loop { l with st:=if (dw o).isNone then .ready else .done,pending:=dw o })))
 | _=>none
def asK (cx:Cx) (id n:Nat) (body:Code):Out→St→Res:=fun o s=>match o with
 | .norm=>match s.H[id]? with
  | some (.loop l)=>if l.st = .ready then av cx (bdK id n) [.seq body] .norm ⟨s.env,s.H.set id (.loop { l with st := .busy })⟩ else none
  | _=>none
 | _=>none
def rfK (K:Out→St→Res) (env:List V) (n:Nat) (p:V×Hp):Res:=
 match p.2[n]? with
 | some (.loop l)=>if l.st = .busy then none else
  match l.pending with
  | none=>K .norm ⟨env,co n p.2⟩
  | some .ret=>K .ret ⟨env,co n p.2⟩
  | some (.exit id)=>K (.exit id) ⟨env,co n p.2⟩
  | some (.goto id)=>K (.goto id) ⟨env,co n p.2⟩
  | some _=>none
 | _=>none
def B5 {σ α:Type} (step:σ→α→Bool×σ):List α→σ→Bool×σ
 | [],s=>(true,s)
 | x::r,s=>if (step s x).1 then B5 step r (step s x).2 else step s x
end Go.Ab
namespace Go.Ab
theorem ct {α:Type} {l r:List α} {x:α} {i:Nat} (h:l.drop i=x::r):i<l.length∧l[i]? = some x∧l.drop (i+1)=r∧x ∈ l∧l.length=i+1+r.length:=by
 have h0:i<l.length:=by
  have:=congrArg List.length h
  simp at this
  omega
 have h1:l.drop i=l[i]::l.drop (i+1):=List.drop_eq_getElem_cons h0
 rw [h] at h1
 injection h1 with h2 h3
 refine ⟨h0,by rw [List.getElem?_eq_getElem h0,h2],h3.symm,h2 ▸ List.getElem_mem h0,?_⟩
 have:=congrArg List.length h
 simp at this
 omega
theorem dq {α:Type} {l:List α} {i:Nat} (h:l.drop i=[]):l.length≤i:=List.drop_eq_nil_iff.1 h
theorem fZ {α:Type} {l:List α} {i:Nat} {x:α} (h:l[i]? = some x):idx l (i:Int)=some x:=by rw [Wh,h]
theorem ltT {a b:Int} (h:a<b):decide (a<b)=true:=decide_eq_true h
theorem ltF {a b:Int} (h:b≤a):decide (a<b)=false:=decide_eq_false (by omega)
theorem leT {a b:Int} (h:a≤b):decide (a≤b)=true:=decide_eq_true h
theorem leF {a b:Int} (h:b<a):decide (a≤b)=false:=decide_eq_false (by omega)
theorem ib {k d:Nat} (h:d<k):∃ j,k=j+1:=⟨k - 1,by omega⟩
theorem gP {i:Nat} (h:i≤9223372036854775806):IntKind.i64.wrap ((i:Int)+1)=((i+1:Nat):Int):=by
 rw [Lc (by omega) (by omega)]
 omega
end Go.Ab
namespace Go.Ab
def IX {α:Type} (p:α→Bool):List α→Nat→Int
 | [],_ => -1
 | x::r,i=>if p x then (i:Int) else IX p r (i+1)
theorem wP {α:Type} (p:α→Bool):∀ (l:List α) (i:Nat),decide (0≤IX p l i)=l.any p
 | [],_=>rfl
 | x::r,i=>by
  by_cases h:p x=true
  ·simp [IX,h]
  ·simpa [IX,h] using wP p r (i+1)
end Go.Ab
namespace Go.Ab
theorem aga {n:Nat} (h:n≤30):decide ((30:Int)<n)=false:=decide_eq_false (by omega)
end Go.Ab
namespace Go.Ab
theorem af8 {n:Nat} (h:30<n):decide ((30:Int)<n)=true:=decide_eq_true (by omega)
end Go.Ab
namespace Go.Ab
theorem RQ {n:Nat}:decide ((n:Int)≤40)=decide (n≤40):=by
 by_cases h:n≤40
 ·rw [decide_eq_true h,decide_eq_true (by omega)]
 ·rw [decide_eq_false h,decide_eq_false (by omega)]
end Go.Ab
namespace Go.Ab
section one
variable {wl e sz bytes id g len s:Nat} {H:Hp} {lv:Bool}
theorem Fj {n b:Nat} (h:n*b≤70368744177664):room n b=true:=decide_eq_true h
end one
end Go.Ab
namespace Go.Ab
theorem gD {α:Type} {l:List α} {enc:α→List V} (hp:∀ x,bC (enc x)=true):dn (l.map enc)=true:=by
 rw [dn,List.all_eq_true]
 intro r hr
 obtain ⟨x,_,rfl⟩:=List.mem_map.1 hr
 exact hp x
theorem EU {k:IntKind} {l:List Int}:dn (l.map (aQ k))=true:=gD (uT k)
theorem JN {l:Tyt}:dn (l.map ap)=true:=gD mZ
theorem Ge {l:Tye}:dn (l.map a8)=true:=gD nW
end Go.Ab
namespace Go.Ab
section slices
variable {P:Program} {wl:Nat} {c:Bool} {t e:TypeId} {α:Type} {l:List α} {enc:α→List V} {k k':IntKind} {n lo:Int} {H:Hp}
theorem V0 (h:∀ x,(enc x).length=aW P e):(l.map enc).all (fun r=>r.length==aW P e)=true:=by
 rw [List.all_eq_true]
 intro r hr
 obtain ⟨x,_,rfl⟩:=List.mem_map.1 hr
 simp [h]
theorem LX (he : mn P t = some e) (hz : (aW P e != 0) = true) (h : ∀ x, (enc x).length = aW P e) :
    gC P wl c t (.ro (l.map enc)) (some (.lit (.int k n))) none none H = bif decide (0 ≤ n ∧ n ≤ l.length) then some (.ro ((l.drop n.toNat).map enc), H) else none := by
  have hz' : aW P e ≠ 0 := by simpa using hz
  unfold gC
  simp only [he, bnd]
  by_cases h0 : 0 ≤ n
  · simp only [h0, if_true, Option.bind_some, true_and]
    by_cases h1 : n ≤ l.length
    · have h2 : n.toNat ≤ l.length := by omega
      simp [h1, h2, hz', V0 h, List.map_drop, List.take_of_length_le]
    · have h2 : ¬ n.toNat ≤ l.length := by omega
      simp [h1, h2]
  · simp [h0]
end slices
end Go.Ab
namespace Go.Ab
end Go.Ab
namespace Go.Ab
def bq {α β:Type} (x:Option α) (F:α→Option β):Option β:=x.bind F
@[congr] theorem abF {α β:Type} {x y:Option α} {F:α→Option β} (h:x=y):bq x F=bq y F:=by rw [h]
def sif {β:Type} (c:Bool) (a b:β):β:=bif c then a else b
@[congr] theorem Xr {β:Type} {c d:Bool} {a b:β} (h:c=d):sif c a b=sif d a b:=by rw [h]
theorem oj {β:Type} {a b:β}:sif true a b=a:=rfl
theorem mJ {β:Type} {a b:β}:sif false a b=b:=rfl
section
variable {α β γ:Type}
theorem Vw {a:α} {F:α→Option β}:bq (some a) F=F a:=rfl
theorem Vh {F:α→Option β}:bq none F=none:=rfl
theorem Vq {c:Bool} {x y:Option α} {F:α→Option β}:bq (bif c then x else y) F=bif c then bq x F else bq y F:=by cases c <;> rfl
theorem adk {x:Option γ} {f:γ→Option α} {F:α→Option β}:bq (ob x f) F=ob x fun a=>bq (f a) F:=by cases x <;> rfl
theorem aen {c:Bool} {x:Option α} {F:α→Option β}:bq (ck c x) F=ck c (bq x F):=by cases c <;> rfl
theorem adB {x:Option γ} {f:γ→Option α} {F:α→Option β}:bq (bq x f) F=bq x fun a=>bq (f a) F:=by cases x <;> rfl
theorem aex {x:Option γ} {f:γ→Option α} {F:α→Option β}:ob (ob x f) F=ob x fun a=>ob (f a) F:=by cases x <;> rfl
theorem VI {c:Bool} {x y:Option α} {F:α→Option β}:ob (bif c then x else y) F=bif c then ob x F else ob y F:=by cases c <;> rfl
theorem aeD {c:Bool} {x:Option α} {F:α→Option β}:ob (ck c x) F=ck c (ob x F):=by cases c <;> rfl
theorem aaI {x:Option γ} {f:γ→α} {F:α→Option β}:ob (x.map f) F=ob x fun a=>F (f a):=by cases x <;> rfl
end
section
variable {α:Type} {H:Hp} {K:V→Hp→Res} {k:Hp→Res}
theorem ab7 {x:Option α} {f:α→Option (V×Hp)}:bp (ob x f) K=ob x fun a=>bp (f a) K:=by cases x <;> rfl
theorem U4 {c:Bool} {x y:Option V}:bm (bif c then x else y) H K=bif c then bm x H K else bm y H K:=by cases c <;> rfl
theorem S2 {c:Bool} {x y:Option (V×Hp)}:bp (bif c then x else y) K=bif c then bp x K else bp y K:=by cases c <;> rfl
theorem UK {c:Bool} {x y:Option Hp}:bs (bif c then x else y) k=bif c then bs x k else bs y k:=by cases c <;> rfl
theorem ae5 {c:Bool} {x:Option (V×Hp)}:bp (ck c x) K=ck c (bp x K):=by cases c <;> rfl
end
def rt (kp:Option (Nat→Bool)) (x:Res):Res:=x.bind fun p=>mo kp p.1 p.2
section rt
variable {kp:Option (Nat→Bool)} {α:Type} {h:Hp}
theorem UX:rt kp none=none:=rfl
theorem Fl {v:V}:rt kp (some (v,h))=mo kp v h:=rfl
theorem Wg {c:Bool} {x y:Res}:rt kp (bif c then x else y)=bif c then rt kp x else rt kp y:=by cases c <;> rfl
theorem V3 {x:Option α} {f:α→Res}:rt kp (ob x f)=ob x fun a=>rt kp (f a):=by cases x <;> rfl
theorem adj {c:Bool} {x:Res}:rt kp (ck c x)=ck c (rt kp x):=by cases c <;> rfl
def rtN (v:V) (H:Hp):Res:=bq (fzR 0 v H) fun q=>sif q.1.pure (some (q.1,[])) (some q)
theorem HD {v:V}:mo none v h=rtN v h:=by
 show (fzR 0 v h).bind _=(fzR 0 v h).bind _
 congr 1
 funext q
 cases hq:q.1.pure <;> simp [sif,hq]
theorem U6 {c:List V}:mo none (.agg c) h=rtN (.agg c) h:=HD
theorem T0 {c:List V}:mo none (.tup c) h=rtN (.tup c) h:=HD
theorem Vz {i g l:Nat}:mo none (.own i g l) h=rtN (.own i g l) h:=HD
theorem VF {i:Nat}:mo none (.map i) h=some (.map i,h):=rfl
theorem W5 {f:Fn} {a b:List V}:mo none (.fn f a b) h=rtN (.fn f a b) h:=HD
end rt
section fz
variable {wl:Nat} {H:Hp} {nl:Bool}
theorem VE {vs:List V}:fzR wl (.tup vs) H=bq (oc wl vs H) fun p=>some (.tup p.1,p.2):=rfl
theorem SQ {v:Value}:fzR wl (.lit v) H=some (.lit v,H):=rfl
theorem WJ {r:List (List V)}:fzR wl (.ro r) H=some (.ro r,H):=rfl
theorem Ze {f:Fn} {a b:List V}:fzR wl (.fn f a b) H=some (.fn f a b,H):=rfl
theorem T7 {i g l:Nat}:fzR wl (.own i g l) H=fzB wl i g l H (H[i]?):=pD
theorem UW {c:List V}:fzR wl (.agg c) H=bq (fzL wl true c H) fun p=>some (.agg p.1,p.2):=rfl
theorem Lk:oc wl [] H=some ([],H):=rfl
theorem NC {v:Value} {vs:List V}:oc wl (.lit v::vs) H=bq (oc wl vs H) fun q=>some (.lit v::q.1,q.2):=rfl
theorem PE {r:List (List V)} {vs:List V}:oc wl (.ro r::vs) H=bq (oc wl vs H) fun q=>some (.ro r::q.1,q.2):=rfl
theorem Ms {i g l:Nat} {vs:List V}:oc wl (.own i g l::vs) H=bq (fzB wl i g l H (H[i]?)) fun p=>bq (oc wl vs p.2) fun q=>some (p.1::q.1,q.2):=by
 show (fzC wl (.own i g l) H).bind _=_
 rw [pD]
 rfl
theorem LL {c vs:List V}:oc wl (.agg c::vs) H=bq (fzL wl true c H) fun p=>bq (oc wl vs p.2) fun q=>some (.agg p.1::q.1,q.2):=by
 show ((fzL wl true c H).bind _).bind _=_
 cases fzL wl true c H <;> rfl
theorem Pk:fzL wl nl [] H=some ([],H):=rfl
theorem P3 {v:Value} {vs:List V}:fzL wl nl (.lit v::vs) H=bq (fzL wl nl vs H) fun q=>some (.lit v::q.1,q.2):=rfl
theorem Us {r:List (List V)} {vs:List V}:fzL wl nl (.ro r::vs) H=bq (fzL wl nl vs H) fun q=>some (.ro r::q.1,q.2):=rfl
theorem UR {f:Fn} {a b vs:List V}:fzL wl nl (.fn f a b::vs) H=bq (fzL wl nl vs H) fun q=>some (.fn f a b::q.1,q.2):=rfl
theorem OO {i g l:Nat} {vs:List V}:fzL wl nl (.own i g l::vs) H=bq (fzB wl i g l H (H[i]?)) fun p=>bq (fzL wl nl vs p.2) fun q=>some (p.1::q.1,q.2):=by
 show (fzC wl (.own i g l) H).bind _=_
 rw [pD]
 rfl
theorem QZ:nt wl [] H=some ([],H):=rfl
theorem QA {v:Value} {vs:List V}:nt wl (.lit v::vs) H=bq (nt wl vs H) fun q=>some (.lit v::q.1,q.2):=rfl
theorem UD {r:List (List V)} {vs:List V}:nt wl (.ro r::vs) H=bq (nt wl vs H) fun q=>some (.ro r::q.1,q.2):=rfl
theorem Lh {vs:List V}:nt wl (.nil::vs) H=bq (nt wl vs H) fun q=>some (.nil::q.1,q.2):=rfl
theorem V8 {f:Fn} {a b vs:List V}:nt wl (.fn f a b::vs) H=bq (nt wl vs H) fun q=>some (.fn f a b::q.1,q.2):=rfl
theorem Ql {i g r o:Nat} {vs:List V}:nt wl (.ptr i g r o::vs) H=bq (nt wl vs H) fun q=>some (.ptr i g r o::q.1,q.2):=rfl
theorem Q1 {i g l:Nat} {vs:List V}:nt wl (.own i g l::vs) H=bq (fzB wl i g l H (H[i]?)) fun p=>bq (nt wl vs p.2) fun q=>some (p.1::q.1,q.2):=by
 show (fzC wl (.own i g l) H).bind _=_
 rw [pD]
 rfl
theorem O4 {c vs:List V}:nt wl (.agg c::vs) H=bq (fzL wl true c H) fun p=>bq (nt wl vs p.2) fun q=>some (.agg p.1::q.1,q.2):=by
 show ((fzL wl true c H).bind _).bind _=_
 cases fzL wl true c H <;> rfl
theorem af2 {i g len e g':Nat} {rs:List (List V)} {lv:Bool}:fzB wl i g len H (some (.rows e rs g' lv))=sif (g==g'&&(dn rs&&Nat.ble wl i)) (ck (decide (len≤rs.length)) (some (.ro (rs.take len),H.set i (.rows e rs g' false)))) none:=by
 show (bif g==g'&&decide (len≤rs.length)&&(dn rs&&Nat.ble wl i) then _ else _)=_
 generalize (g==g')=a
 generalize decide (len≤rs.length)=b
 generalize (dn rs&&Nat.ble wl i)=c
 cases a <;> cases b <;> cases c <;> rfl
end fz
theorem Qp {α:Type} {l:List α} {n:Nat} (h:l.length=n):l.take n=l:=List.take_of_length_le (by omega)
theorem Mq:dn []=true:=rfl
def FW (n:Nat):Hp→Hp
 | []=>[]
 | b::H=>b.kill n::FW n H
def rv (n:Nat):Hp→Hp
 | []=>[]
 | b::H=>b.shift n::rv n H
theorem Hz {n:Nat}:∀ {H:Hp},H.map (B.kill n)=FW n H
 | []=>rfl
 | b::H=>by simp [FW,Hz (H:=H)]
theorem wo {n:Nat}:∀ {H:Hp},H.map (B.shift n)=rv n H
 | []=>rfl
 | b::H=>by simp [rv,wo (H:=H)]
theorem Vp {n:Nat} {H:Hp}:co n H=FW n (H.take n):=Hz
theorem Kf {n:Nat}:FW n []=[]:=rfl
theorem I5 {n:Nat} {b:B} {H:Hp}:FW n (b::H)=b.kill n::FW n H:=rfl
theorem JR {n:Nat}:rv n []=[]:=rfl
theorem Gw {n:Nat} {b:B} {H:Hp}:rv n (b::H)=b.shift n::rv n H:=rfl
theorem Ga {n:Nat} {st:LoopState} {pe:Option Code} {f:FuncId} {ts:List V} {ps:List Tmp} {a b:Code}:B.kill n (.loop ⟨st,pe,f,ts,ps,a,b⟩) = .loop ⟨st,pe,f,kE n ts,ps,a,b⟩:=rfl
def nsh (H:Hp) (v:V) (H2:Hp):Res:=sif (decide (H.length≤H2.length)) (some (v,H2)) none
theorem RJ {H H2:Hp} {v:V}:cP H (v,H2)=nsh H v H2:=by
 unfold cP nsh sif
 by_cases h:H.length≤H2.length
 ·simp [h]
 ·simp [h]
theorem afr {n m:Nat}:Nat.ble n m=decide (n≤m):=by
 have h:(Nat.ble n m=true)=(n≤m):=Nat.ble_eq
 cases hb:Nat.ble n m with
 | true=>
  rw [hb] at h
  exact (decide_eq_true (h.mp rfl)).symm
 | false=>
  rw [hb] at h
  exact (decide_eq_false (fun e=>Bool.noConfusion (h.mpr e))).symm
theorem CG {H:Hp} {c:Bool} {x y:V×Hp}:cP H (sif c x y)=sif c (cP H x) (cP H y):=by cases c <;> rfl
def ldQ (H H':Hp) (q:V×Hp):Res:=cP H (q.1.shift H'.length,bif (q.1.shift H'.length).scal then H else H'++q.2.map (B.shift H'.length))
theorem Rq {H H':Hp} {v:V} {h:Hp}:ldQ H H' (v,h)=nsh H (v.shift H'.length) (sif (v.shift H'.length).scal H (H'++rv H'.length h)):=by
 unfold ldQ
 rw [RJ,wo]
 rfl
theorem UE {H H':Hp} {v:Value} {h:Hp}:ldQ H H' (.lit v,h)=some (.lit v,H):=by
 rw [Rq]
 simp [nsh,sif,V.shift,V.scal]
def ldP (H:Hp) (q:V×Hp):Res:=some (q.1.shift H.length,H++q.2.map (B.shift H.length))
theorem XK {H:Hp} {v:V} {h:Hp}:ldP H (v,h)=some (v.shift H.length,H++rv H.length h):=by
 unfold ldP
 rw [wo]
theorem wQ {cx:Cx} {g:FuncId} {args:List V} {H:Hp}:ia cx g args H=bq (nI cx g args) (ldP H):=by
 unfold ia nI bq ldP
 cases h:cx.call 0 g args [] with
 | none=>rfl
 | some p=>rfl
theorem Lv {cx:Cx} {o:Bool} {g:FuncId} {first caps args:List V} {H:Hp} :
  dW cx false o (.fn (.func g) first caps) args H=bq (sif (cx.M.keepArg g) (some (first++args++caps,H)) (nt cx.wl (first++args++caps) H)) fun a=>
   sif (bC a.1) (bq (nI cx g a.1) (ldQ H a.2))
    (bq (cx.call cx.wl g a.1 a.2) fun p=>bq (sif (cx.M.keepRes cx.fid g).isSome (some p) (fzR cx.wl p.1 p.2)) fun q=>cP H (sif q.1.pure (q.1,co a.2.length q.2) q)):=by
 unfold dW Ci
 simp only [Bool.false_eq_true,if_false]
 have e1:(if cx.M.keepArg g=true then some (first++args++caps,H) else nt cx.wl (first++args++caps) H)=sif (cx.M.keepArg g) (some (first++args++caps,H)) (nt cx.wl (first++args++caps) H):=by
  cases cx.M.keepArg g <;> rfl
 rw [e1]
 unfold bq
 cases sif (cx.M.keepArg g) (some (first++args++caps,H)) (nt cx.wl (first++args++caps) H) with
 | none=>rfl
 | some a=>
  simp only [Option.bind_some]
  cases hp:bC a.1 with
  | true=>
   simp only [if_true,oj,wQ]
   unfold bq
   cases nI cx g a.1 <;> rfl
  | false=>
   simp only [Bool.false_eq_true,if_false,mJ]
   cases cx.call cx.wl g a.1 a.2 with
   | none=>rfl
   | some p=>
    simp only [Option.bind_some]
    have e2:(if (cx.M.keepRes cx.fid g).isSome=true then some p else fzR cx.wl p.1 p.2)=sif (cx.M.keepRes cx.fid g).isSome (some p) (fzR cx.wl p.1 p.2):=by
     cases (cx.M.keepRes cx.fid g).isSome <;> rfl
    rw [e2]
    cases sif (cx.M.keepRes cx.fid g).isSome (some p) (fzR cx.wl p.1 p.2) with
    | none=>rfl
    | some q=>
     simp only [Option.bind_some]
     cases hq:q.1.pure <;> simp [sif]
theorem ID {cx:Cx} {g:FuncId} {first caps args:List V} {H:Hp} :
  dW cx true true (.fn (.func g) first caps) args H =
   sif (bC (first++args++caps)) (bq (nI cx g (first++args++caps)) (ldP H)) (sif (cx.M.keepArg g) none (bq (nt cx.wl (first++args++caps) H) fun a=>
    sif (bC a.1) (bq (nI cx g a.1) fun q=>bq (ldP a.2 q) fun q=>some (q.1,sif q.1.scal H q.2)) (bq (cx.call a.2.length g a.1 a.2) fun p=>sif p.1.scal (some (p.1,H)) none))):=by
 unfold dW kr
 simp only [if_true,wQ]
 cases bC (first++args++caps) with
 | true=>rfl
 | false=>
  simp only [Bool.false_eq_true,if_false,mJ]
  cases cx.M.keepArg g with
  | true=>rfl
  | false=>
   simp only [Bool.false_eq_true,if_false,mJ]
   unfold bq
   cases nt cx.wl (first++args++caps) H with
   | none=>rfl
   | some a=>
    simp only [Option.bind_some]
    cases bC a.1 with
    | true=>
     simp only [if_true,oj]
     cases nI cx g a.1 <;> rfl
    | false=>
     simp only [Bool.false_eq_true,if_false,mJ]
     cases cx.call a.2.length g a.1 a.2 with
     | none=>rfl
     | some p=>
      simp only [Option.bind_some]
      cases hs:p.1.scal <;> simp [sif]
section rounds
variable {P:Program} {M:Mode}
def yB (P:Program) (M:Mode) (k wl id:Nat) (args:List V) (H:Hp):Option B→Res
 | some (.loop l)=>D1 { P,M,fid:=l.fn,round:=true,wl,call:=evF P M k,yld:=evY P M k,n:=k } id l args H
 | _=>none
theorem VD {k wl id:Nat} {args:List V} {H:Hp}:evY P M (k+1) wl id args H=yB P M k wl id args H (H[id]?):=by
 unfold yB
 simp only [evY]
 generalize H[id]? = b
 cases b with
 | none=>rfl
 | some b=>cases b <;> rfl
theorem Od {k wl id:Nat} {args:List V} {H:Hp} {pe:Option Code} {f:FuncId} {ts:List V} {ps:List Tmp} {a b:Code} :
  yB P M k wl id args H (some (.loop ⟨.ready,pe,f,ts,ps,a,b⟩))=sif (decide (args.length=ps.length)&&Nat.ble wl id)
   (av { P,M,fid:=f,round:=true,wl,call:=evF P M k,yld:=evY P M k,n:=k } (asK { P,M,fid:=f,round:=true,wl,call:=evF P M k,yld:=evY P M k,n:=k } id H.length b) [.seq a] .norm ⟨dR ts ps args,H⟩) none:=by
 unfold yB D1
 by_cases h:args.length=ps.length
 ·cases hw:Nat.ble wl id with
  | true=>
   simp only [h,hw,and_self,if_true,decide_true,Bool.and_self,oj]
   show a9 _ a none _ _=a9 _ a none (av _ _ []) _
   congr 1
  | false=>simp [hw,sif]
 ·simp [h,sif]
def asB (cx:Cx) (id n:Nat) (body:Code) (env:List V) (H:Hp):Option B→Res
 | some (.loop l)=>if l.st = .ready then av cx (bdK id n) [.seq body] .norm ⟨env,H.set id (.loop { l with st := .busy })⟩ else none
 | _=>none
theorem Up {cx:Cx} {id n:Nat} {body:Code} {env:List V} {H:Hp}:asK cx id n body .norm ⟨env,H⟩=asB cx id n body env H (H[id]?):=by
 unfold asK asB
 rfl
theorem J7 {cx:Cx} {id n:Nat} {body:Code} {env:List V} {H:Hp} {pe:Option Code} {f:FuncId} {ts:List V} {ps:List Tmp} {a b:Code} :
  asB cx id n body env H (some (.loop ⟨.ready,pe,f,ts,ps,a,b⟩))=av cx (bdK id n) [.seq body] .norm ⟨env,H.set id (.loop ⟨.busy,pe,f,ts,ps,a,b⟩)⟩:=rfl
def bdB (id n:Nat) (o:Out) (H:Hp):Option B→Res
 | some (.loop l)=>some (.lit (.bool (dw o).isNone),co n (H.set id (.loop { l with st:=if (dw o).isNone then .ready else .done,pending:=dw o })))
 | _=>none
theorem Uh {id n:Nat} {o:Out} {env:List V} {H:Hp}:bdK id n o ⟨env,H⟩=bdB id n o H (H[id]?):=by
 unfold bdK bdB
 rfl
section
variable {id n:Nat} {H:Hp} {st:LoopState} {pe:Option Code} {f:FuncId} {ts:List V} {ps:List Tmp} {a b:Code}
theorem QO:bdB id n .norm H (some (.loop ⟨st,pe,f,ts,ps,a,b⟩))=some (.lit (.bool true),co n (H.set id (.loop ⟨.ready,none,f,ts,ps,a,b⟩))):=rfl
theorem TU:bdB id n .ret H (some (.loop ⟨st,pe,f,ts,ps,a,b⟩))=some (.lit (.bool false),co n (H.set id (.loop ⟨.done,some .ret,f,ts,ps,a,b⟩))):=rfl
def rfB (K:Out→St→Res) (env:List V) (H:Hp):Option B→Res
 | some (.loop l)=>if l.st = .busy then none else
  match l.pending with
  | none=>K .norm ⟨env,H⟩
  | some .ret=>K .ret ⟨env,H⟩
  | some (.exit id)=>K (.exit id) ⟨env,H⟩
  | some (.goto id)=>K (.goto id) ⟨env,H⟩
  | some _=>none
 | _=>none
theorem UJ {K:Out→St→Res} {env:List V} {v:V} {h:Hp}:rfK K env n (v,h)=rfB K env (co n h) (h[n]?):=by
 unfold rfK rfB
 rfl
theorem Qu {K:Out→St→Res} {env:List V}:rfB K env H (some (.loop ⟨.ready,none,f,ts,ps,a,b⟩))=K .norm ⟨env,H⟩:=rfl
theorem Tk {K:Out→St→Res} {env:List V}:rfB K env H (some (.loop ⟨.done,some .ret,f,ts,ps,a,b⟩))=K .ret ⟨env,H⟩:=rfl
end
def rgC (cx:Cx) (ps:List Tmp) (a b:Code) (K:Out→St→Res) (env:List V) (H:Hp):V→Res
 | .fn (.func g) [] caps=>bq (cx.call cx.wl g (.yld H.length::caps) (H++[.loop ⟨.ready,none,cx.fid,env,ps,a,b⟩])) (rfK K env H.length)
 | _=>none
theorem X6 {cx:Cx} {ps:List Tmp} {a b:Code} {K:Out→St→Res} {env:List V} {H:Hp} {g:FuncId} {caps:List V} :
  rgC cx ps a b K env H (.fn (.func g) [] caps)=bq (cx.call cx.wl g (.yld H.length::caps) (H++[.loop ⟨.ready,none,cx.fid,env,ps,a,b⟩])) (rfK K env H.length):=rfl
theorem OW {cx:Cx} {f:Operand} {ps:Array Tmp} {a b:Code} {K:Out→St→Res} {env:List V} {H:Hp} (hr:cx.round=false) :
  a9 cx (.rangeFunc f ps a b) none K ⟨env,H⟩=sif (Nat.ble cx.wl H.length) (bq (evO env f) (rgC cx ps.toList a b K env H)) none:=by
 simp only [a9,hr,Bool.false_or]
 cases hw:Nat.ble cx.wl H.length with
 | false=>rfl
 | true=>
  simp only [Bool.not_true,Bool.false_eq_true,if_false,oj]
  cases hf:evO env f with
  | none=>rfl
  | some v=>
   simp only [bq,Option.bind_some]
   cases v with
   | fn f first caps=>
    cases f with
    | func g=>
     cases first with
     | nil=>
      simp only [rgC]
      unfold bq
      congr 1
     | cons=>rfl
    | _=>rfl
   | _=>rfl
end rounds
end Go.Ab
namespace Go.Ab
def pW:List V→List (Nat×Nat×V)→Option (List V)
 | cells,[]=>some cells
 | cells,(off,size,v)::rest=>
  match v.cells with
  | some vs=>if vs.length=size∧off+vs.length≤cells.length then pW (spl cells off vs) rest else none
  | none=>none
theorem PZ {cells:List V}:pW cells []=some cells:=rfl
theorem Nq {cells:List V} {off size:Nat} {v:V} {rest:List (Nat×Nat×V)}:pW cells ((off,size,v)::rest)=bq v.cells fun vs=>sif (decide (vs.length=size∧off+vs.length≤cells.length)) (pW (spl cells off vs) rest) none:=by
 simp only [pW]
 cases v.cells with
 | none=>rfl
 | some vs=>
  simp only [bq,Option.bind_some]
  by_cases h:vs.length=size∧off+vs.length≤cells.length
  ·rw [if_pos h,decide_eq_true h];rfl
  ·rw [if_neg h,decide_eq_false h];rfl
theorem MY {wl size:Nat} {rs:List (List V)} {H:Hp}:gL wl size [] rs H=some (rs,H):=rfl
theorem JP {wl size i:Nat} {v:V} {rest:List (Nat×V)} {rs:List (List V)} {H:Hp}:gL wl size ((i,v)::rest) rs H=bq v.cells fun vs=>bq (fzL wl true vs H) fun p=>sif (decide (i<rs.length∧p.1.length=size)) (gL wl size rest (rs.set i p.1) p.2) none:=by
 simp only [gL]
 cases v.cells with
 | none=>rfl
 | some vs=>
  simp only [bq,Option.bind_some]
  cases fzL wl true vs H with
  | none=>rfl
  | some p=>
   simp only [Option.bind_some]
   by_cases h:i<rs.length∧p.1.length=size
   ·rw [if_pos h,decide_eq_true h];rfl
   ·rw [if_neg h,decide_eq_false h];rfl
theorem I4 {k:Value} {v:V}:gZ k v []=[(k,v)]:=rfl
theorem FB {k:Value} {v:V} {e:Value×V} {es:List (Value×V)}:gZ k v (e::es)=sif (rQ k e.1) ((k,v)::es) (e::gZ k v es):=by
 simp only [gZ]
 cases rQ k e.1 <;> rfl
def NE (kk:IntKind):List (Value×V)→Bool
 | []=>true
 | e::es=>iV kk e.1&&NE kk es
theorem Po {kk:IntKind}:NE kk []=true:=rfl
theorem Nc {kk:IntKind} {e:Value×V} {es:List (Value×V)}:NE kk (e::es)=(iV kk e.1&&NE kk es):=rfl
def inB (wl:Nat) (kk:IntKind) (id:Nat) (n:Int) (v:V) (H:Hp):Option B→Option Hp
 | some (.map es)=>if es.all (fun e=>iV kk e.1)&&true&&Nat.ble wl id then some (H.set id (.map (gZ (.int kk n) v es))) else none
 | _=>none
theorem TF {kk:IntKind}:∀ {es:List (Value×V)},es.all (fun e=>iV kk e.1)=NE kk es
 | []=>rfl
 | e::es=>by simp [NE,TF (es:=es)]
theorem VW {wl id:Nat} {kk:IntKind} {n:Int} {v:V} {H:Hp} {es:List (Value×V)}:inB wl kk id n v H (some (.map es))=sif (NE kk es&&Nat.ble wl id) (some (H.set id (.map (gZ (.int kk n) v es)))) none:=by
 simp only [inB,TF,Bool.and_true]
 cases NE kk es&&Nat.ble wl id <;> rfl
def lkB (kk:IntKind) (z:V) (ok:Bool) (n:Int):Option B→Option V
 | some (.map es)=>if es.all (fun e=>iV kk e.1)&&true then some (bif ok then .tup [(gY (.int kk n) z es).1,.lit (.bool (gY (.int kk n) z es).2)] else (gY (.int kk n) z es).1) else none
 | _=>none
def lkO (kk:IntKind) (z:V) (ok:Bool) (n:Int):List (Value×V)→Option V
 | []=>some (sif ok (.tup [z,.lit (.bool false)]) z)
 | e::es=>bif rQ (.int kk n) e.1 then some (sif ok (.tup [e.2,.lit (.bool true)]) e.2) else lkO kk z ok n es
theorem R4 {kk:IntKind} {z:V} {ok:Bool} {n:Int}:∀ {es:List (Value×V)},some (bif ok then V.tup [(gY (.int kk n) z es).1,.lit (.bool (gY (.int kk n) z es).2)] else (gY (.int kk n) z es).1)=lkO kk z ok n es
 | []=>by cases ok <;> rfl
 | e::es=>by
  simp only [gY,lkO]
  cases rQ (.int kk n) e.1 with
  | true=>cases ok <;> rfl
  | false=>exact R4 (es:=es)
theorem Wu {kk:IntKind} {z:V} {ok:Bool} {n:Int} {es:List (Value×V)}:lkB kk z ok n (some (.map es))=sif (NE kk es) (lkO kk z ok n es) none:=by
 simp only [lkB,TF,Bool.and_true,R4]
 cases NE kk es <;> rfl
theorem Tl {kk:IntKind} {z:V} {ok:Bool} {n:Int}:lkO kk z ok n []=some (sif ok (.tup [z,.lit (.bool false)]) z):=rfl
theorem PN {kk:IntKind} {z:V} {ok:Bool} {n:Int} {e:Value×V} {es:List (Value×V)}:lkO kk z ok n (e::es)=bif rQ (.int kk n) e.1 then some (sif ok (.tup [e.2,.lit (.bool true)]) e.2) else lkO kk z ok n es:=rfl
theorem IS {p a b:Bool}:aT (.lit (.bool p)) (.lit (.bool a)) (.lit (.bool b))=some (.lit (.bool (bif p then a else b))):=by cases p <;> rfl
theorem Oi {k:IntKind} {a b:Int}:l8 true [.lit (.int k a),.lit (.int k b)]=some (.lit (.int k (bif decide (a<b) then b else a))):=by
 simp only [l8,if_true,cond_true,gt_iff_lt]
 by_cases h:a<b <;> simp [h]
theorem JA {k:IntKind} {a:Int}:[[V.lit (.int k a)]]=[a].map (aQ k):=rfl
theorem Dn {a b c:Int}:[[V.lit (.int .i64 a),.lit (.int .i64 b),.lit (.int .i64 c)]]=[(a,b,c)].map a8:=rfl
def P4 (k:IntKind) (a b:Int):Int:=k.wrap (a*2 ^ (min b.toNat k.bits))
def RD (k:IntKind) (a b:Int):Int:=a.fdiv (2 ^ (min b.toNat k.bits))
def r8 (k:IntKind) (a b:Int):Int:=k.wrap (BitVec.ofInt k.bits a &&& BitVec.ofInt k.bits b).toNat
def orI (k:IntKind) (a b:Int):Int:=k.wrap (BitVec.ofInt k.bits a ||| BitVec.ofInt k.bits b).toNat
section
variable {P:Program} {t:TypeId} {k k':IntKind} {a b:Int}
theorem P5:az P .shl t (.lit (.int k a)) (.lit (.int k' b))=bif decide (0≤b) then some (.lit (.int k (P4 k a b))) else none:=by
 by_cases h:b<0
 ·have:¬ 0≤b:=by omega
  simp [az,ee,h,this]
 ·have h2:0≤b:=by omega
  simp [az,ee,h,h2,P4]
theorem Pm:az P .shr t (.lit (.int k a)) (.lit (.int k' b))=bif decide (0≤b) then some (.lit (.int k (RD k a b))) else none:=by
 by_cases h:b<0
 ·have:¬ 0≤b:=by omega
  simp [az,ee,h,this]
 ·have h2:0≤b:=by omega
  simp [az,ee,h,h2,RD]
theorem Qs:az P .and t (.lit (.int k a)) (.lit (.int k b))=some (.lit (.int k (r8 k a b))):=by simp [az,ee,r8]
theorem TV:az P .or t (.lit (.int k a)) (.lit (.int k b))=some (.lit (.int k (orI k a b))):=by simp [az,ee,orI]
end
end Go.Ab
namespace Go.Ab
theorem afR {g len e g':Nat} {rs:List (List V)} {lv:Bool}:roB g len (some (.rows e rs g' lv))=sif (g==g') (ck (decide (len≤rs.length)) (some (rs.take len))) none:=by
 show (bif g==g'&&decide (len≤rs.length) then _ else _)=_
 generalize (g==g')=a
 generalize decide (len≤rs.length)=b
 cases a <;> cases b <;> rfl
theorem Kd {i g r o:Nat} {H:Hp}:aU (.ptr i g r o) H=some (.ptr H.length 0 0 0,H++[.box [.ptr i g r o]]):=by simp [aU,V.cells,V.one,bK]
theorem VK {k:IntKind} {l:List Int}:fb 1 (l.map (aQ k))=true:=lM fun _=>rfl
theorem Mr {l:Tye}:fb 3 (l.map a8)=true:=lM fun _=>rfl
theorem IW {n:Nat}:fb n []=true:=rfl
theorem Wj {wl e sz bytes id g:Nat} {xs:List (List V)} {H:Hp} {lv:Bool} :
  apB wl e sz bytes id g 0 xs H (some (.rows 0 [] g lv))=sif (Nat.ble wl id) (bif room xs.length bytes then some (.own id (g+1) xs.length,H.set id (.rows sz xs (g+1) lv)) else none) none:=by
 cases hb:Nat.ble wl id <;> cases lv <;> simp [apB,hb,sif,room]
theorem KI {α:Type} {wl e sz bytes id g len s:Nat} {l m:List α} {enc:α→List V} {H:Hp} :
  apB wl e sz bytes id g len (m.map enc) H (some (.rows s (l.map enc) g true)) =
   sif (Nat.ble wl id) (ck (decide (len≤l.length)) (ck (s==sz||s==0) (bif room (l.take len++m).length bytes then some (.own id (g+1) (l.take len++m).length,H.set id (.rows sz ((l.take len++m).map enc) (g+1) true)) else none))) none:=by
 by_cases h:len≤l.length
 ·have h1:(l.take len++m).length=len+m.length:=by simp [h]
  rw [decide_eq_true h,h1]
  simp only [apB,cq,List.length_map,beq_self_eq_true,Bool.and_true,Bool.true_or,decide_eq_true h,room,List.map_append,List.map_take]
  cases Nat.ble wl id <;> cases (s==sz||s==0) <;> simp [sif,ck]
 ·rw [decide_eq_false h,Cf]
  simp [apB,decide_eq_false h,sif]
theorem LZ {α:Type} {l:List α} {enc:α→List V} {n:Nat}:(l.map enc).take n=(l.take n).map enc:=by rw [List.map_take]
theorem IK {l:Tye} {i:Nat} {a b c:Int}:(l.map a8).set i [.lit (.int .i64 a),.lit (.int .i64 b),.lit (.int .i64 c)]=(l.set i (a,b,c)).map a8:=by rw [List.map_set];rfl
theorem KQ {l:Tyt} {i:Nat} {a:Int} {b:List Int}:(l.map ap).set i [.lit (.int .i64 a),.ro (b.map (aQ .i64))]=(l.set i (a,b)).map ap:=by rw [List.map_set];rfl
def slB (g len id:Nat) (n:Int) (H:Hp):Option B→Option (V×Hp)
 | some (.rows _ _ g' _)=>if 0≤n then (if n.toNat≤len∧g=g' then some (.own id g n.toNat,H) else none) else none
 | _=>none
theorem O6 {g len id e g':Nat} {n:Int} {H:Hp} {rs:List (List V)} {lv:Bool}:slB g len id n H (some (.rows e rs g' lv))=sif (g==g') (ck (decide (0≤n∧n.toNat≤len)) (some (.own id g n.toNat,H))) none:=by
 unfold slB sif ck
 by_cases h0:0≤n
 ·by_cases h1:n.toNat≤len
  ·by_cases h2:g=g'
   ·simp [h0,h1,h2]
   ·simp [h0,h1,h2,beq_false_of_ne h2]
  ·simp [h0,h1]
 ·simp [h0]
theorem Jp {P : Program} {wl : Nat} {c : Bool} {t e : TypeId} {id g len : Nat} {k : IntKind} {n : Int} {H : Hp} (he : mn P t = some e) (hz : (aW P e != 0) = true) :
    gC P wl c t (.own id g len) none (some (.lit (.int k n))) none H = slB g len id n H (H[id]?) := by
  have hz' : aW P e ≠ 0 := by simpa using hz
  unfold gC slB
  simp only [he, bnd]
  by_cases h0 : 0 ≤ n
  · simp only [h0, if_true, Option.bind_some]
    generalize H[id]? = b
    cases b with
    | none => rfl
    | some b => cases b <;> simp [hz']
  · simp only [h0, if_false, Option.bind_none]
    generalize H[id]? = b
    cases b with
    | none => rfl
    | some b => cases b <;> rfl
end Go.Ab
namespace Go.Ab
end Go.Ab
namespace Go.Ab
theorem Tb {env:List V} {t:Nat}:evO env (.tmp t)=env[t]? := rfl
theorem Cv {env vs:List V}:dR env [] vs=env:=by cases vs <;> rfl
theorem Am {env vs:List V} {t:Tmp} {ts:List Tmp} {v:V}:dR env (t::ts) (v::vs)=dR (env.set t v) ts vs:=rfl
end Go.Ab
namespace Go.Ab
theorem Tq {n:Nat}:V.kill n uu=uu:=rfl
end Go.Ab
namespace Go.Ab
def aP {α:Type} (bytes:Nat) (l:List α):Option (List α):=ck (Nat.ble (l.length*bytes) 70368744177664) (some l)
section clone
variable {P:Program} {t e:TypeId} {α:Type} {enc:α→List V} {sz bytes:Nat}
theorem ix (he:mn P t=some e) (hz:∃ z,eQ P e=some z∧be (bI z)=true∧((bI z).length==sz)=true) (hs:aW P e=sz) (hg:I9 P e=true) (hb:P.bytesOf e=bytes) (hl:∀ x,(enc x).length=sz) (l:List α) :
  gW P t [.ro (l.map enc)] []=ob (aP bytes l) fun r=>some (.own 1 1 r.length,[.rows 0 [] 0 true,.rows sz (r.map enc) 1 true]):=by
 obtain ⟨z,z1,z2,z3⟩:=hz
 unfold gW
 simp only [he,Option.bind_some,z1,EY,hs,hg,z2,z3,hb,lM hl,Bool.and_true,Bool.true_and,List.length_map,List.length_nil,List.nil_append]
 unfold aP
 cases Nat.ble (l.length*bytes) 70368744177664 <;> rfl
theorem nC (hl:∀ x,bC (enc x)=true) (l:List α) (g:Nat) :
  rt none (ob (aP bytes l) fun r=>some (.own 1 1 r.length,[.rows 0 [] 0 true,.rows g (r.map enc) 1 true]))=ob (aP bytes l) fun r=>some (.ro (r.map enc),[]):=by
 rw [V3]
 congr 1
 funext r
 rw [Fl]
 exact QW (enc:=enc) (l:=r) (e:=g) (lv:=true) rfl rfl hl
theorem iW (hl:∀ x,bC (enc x)=true) (l:List α) (g:Nat) :
  rt (some fun _=>true) (ob (aP bytes l) fun r=>some (.own 1 1 r.length,[.rows 0 [] 0 true,.rows g (r.map enc) 1 true]))=ob (aP bytes l) fun r=>some (.own 0 0 r.length,[.rows g (r.map enc) 0 true]):=by
 rw [V3]
 congr 1
 funext r
 have h1:dn (r.map enc)=true:=by
  rw [dn,List.all_eq_true]
  intro y hy
  obtain ⟨x,_,rfl⟩:=List.mem_map.1 hy
  exact hl x
 simp [Fl,mo,IR,rL,h1]
 rw [List.take_of_length_le (by simp)]
end clone
end Go.Ab
namespace Go.Ab
theorem Pa {n0 i g r o:Nat} {k:Res}:stO n0 (.ptr i g r o) k=sif (decide (i<n0)) k none:=by
 unfold stO stB JY sif
 simp only [Bool.cond_eq_ite]
def uE (n:Nat):List (Value×V)→List (Value×V)
 | []=>[]
 | e::es=>(e.1,e.2.shift n)::uE n es
def F9 (n:Nat):List (Value×V)→List (Value×V)
 | []=>[]
 | e::es=>(e.1,e.2.kill n)::F9 n es
theorem Hw {n:Nat}:∀ {es:List (Value×V)},es.map (fun e=>(e.1,e.2.kill n))=F9 n es
 | []=>rfl
 | e::es=>by simp [F9,Hw (es:=es)]
theorem Ez {n:Nat}:∀ {es:List (Value×V)},es.map (fun e=>(e.1,e.2.shift n))=uE n es
 | []=>rfl
 | e::es=>by simp [uE,Ez (es:=es)]
theorem JG {n:Nat} {es:List (Value×V)}:B.kill n (.map es) = .map (F9 n es):=by
 rw [← Hw]
 rfl
theorem Gc {n:Nat} {es:List (Value×V)}:B.shift n (.map es) = .map (uE n es):=by
 rw [← Ez]
 rfl
theorem Li {n:Nat}:F9 n []=[]:=rfl
theorem IL {n:Nat} {e:Value×V} {es:List (Value×V)}:F9 n (e::es)=(e.1,e.2.kill n)::F9 n es:=rfl
theorem IE {n:Nat}:uE n []=[]:=rfl
theorem Gf {n:Nat} {e:Value×V} {es:List (Value×V)}:uE n (e::es)=(e.1,e.2.shift n)::uE n es:=rfl
end Go.Ab
namespace Go.Ab
end Go.Ab
namespace Go.Ab
open Go
def Ry:List (Nat×V)→Bool
 | []=>true
 | p::l=>p.2.pure&&Ry l
theorem PV:Ry []=true:=rfl
theorem MO {i:Nat} {v:V} {l:List (Nat×V)}:Ry ((i,v)::l)=(v.pure&&Ry l):=rfl
theorem T2 {l:List (Nat×V)}:bC (l.map (·.2))=Ry l:=by
 induction l with
 | nil=>rfl
 | cons p l ih=>simp only [List.map_cons,bC,Ry,ih]
theorem rT {P:Program} {wl:Nat} {t:TypeId} {len:Nat} {l:List (Nat×V)} {H:Hp} :
  cW P wl t len l H=bq (ck (Ry l) (some ())) fun _=>aK P wl t len l H:=by
 unfold cW
 rw [T2]
 cases Ry l <;> simp [bq,ck]
def ldL (P:Program) (t:TypeId) (off row:Nat):Nat→List (List V)→Option V
 | _,[]=>none
 | i,r::rs=>bif row==i then aS P t (r.drop off) else ldL P t off row (i+1) rs
theorem VG {P:Program} {t:TypeId} {off row i:Nat}:ldL P t off row i []=none:=rfl
theorem QI {P:Program} {t:TypeId} {off row i:Nat} {r:List V} {rs:List (List V)}:ldL P t off row i (r::rs)=bif row==i then aS P t (r.drop off) else ldL P t off row (i+1) rs:=rfl
theorem Q6 {P:Program} {t:TypeId} {off row:Nat}:∀ {rs:List (List V)} {i:Nat},i≤row→ldL P t off row i rs=(rs[row - i]?).bind fun r=>aS P t (r.drop off)
 | [],i,_=>by simp [ldL]
 | r::rs,i,h=>by
  rw [ldL]
  by_cases e:row=i
  ·subst e;simp
  ·have h1:(row==i)=false:=by simp [e]
   have h2:row - i=(row - (i+1))+1:=by omega
   rw [h1,cond_false,Q6 (by omega),h2,List.getElem?_cons_succ]
theorem Vs {P:Program} {t:TypeId} {g row off e g':Nat} {r:List V} {rs:List (List V)} {lv:Bool} :
  ldB P t g row off (some (.rows e (r::rs) g' lv))=sif (g==g') (ldL P t off row 0 (r::rs)) none:=by
 rw [Q6 (Nat.zero_le _),Nat.sub_zero]
 rfl
def PC (x:Int×Int×Int×Int):List V:=[.lit (.int .i64 x.1),.lit (.int .i64 x.2.1),.lit (.int .i64 x.2.2.1),.lit (.int .i64 x.2.2.2)]
def fQ (x:List Int):List V:=[.ro (x.map (aQ .i64))]
section
variable {lf:List (Int×Int×Int×Int×Int×Int×Int)} {ll:List (List Int)} {n i:Nat} {a b c d e f g:Int} {x:List Int}
end
theorem Kq {k:IntKind} {x y:Int}:rQ (.int k x) (.int k y)=(x==y):=by
 cases k <;> rfl
theorem FC {k:IntKind} {x:Int}:iV k (.int k x)=true:=by
 cases k <;> rfl
theorem LF {cx:Cx} {c o:Bool} {v:Value} {args:List V} {H:Hp}:dW cx c o (.lit v) args H=none:=rfl
end Go.Ab
namespace Go.Ab
section steps
variable {cx:Cx} {K:Out→St→Res} {s:St} {r:Res} {id j n0:Nat} {ops:Array Oper} {a a':List Nat×List Nat} {env:List V} {H:Hp} {o:Oper} {i:Nat} {L:List Nat}
end steps
def apA:List Nat→List Nat→Bool
 | [],_=>true
 | i::l,m => !(inN i m)&&apA l m
where inN:Nat→List Nat→Bool
 | _,[]=>false
 | i,k::m=>i==k||inN i m
theorem R6 {i:Nat}:∀ {m:List Nat},apA.inN i m=m.contains i
 | []=>rfl
 | k::m=>by
  rw [apA.inN,R6,List.contains_cons]
theorem Sm:∀ {l m:List Nat},uI (l,m)=apA l m
 | [],m=>rfl
 | i::l,m=>by
  have:=Sm (l:=l) (m:=m)
  unfold uI at this ⊢
  simp only [List.all_cons] at this ⊢
  rw [this,apA,R6]
theorem Zh {l m:List Nat} {k:Res}:apt (l,m) k=sif (apA l m) k none:=by
 unfold apt sif
 rw [Sm,Bool.cond_eq_ite]
theorem U7 {m:List Nat}:apA [] m=true:=rfl
theorem QE {i:Nat} {l m:List Nat}:apA (i::l) m=(!(apA.inN i m)&&apA l m):=rfl
theorem TQ {i:Nat}:apA.inN i []=false:=rfl
theorem QP {i k:Nat} {m:List Nat}:apA.inN i (k::m)=(i==k||apA.inN i m):=rfl
theorem UF {i g x y:Nat} {l m:List Nat}:lgR (.ptr i g x y) (l,m)=(i::l,m):=rfl
theorem Um {i g x y:Nat} {l m:List Nat}:lgW (.ptr i g x y) (l,m)=(l,i::m):=rfl
end Go.Ab
set_option maxRecDepth 100000
namespace Go.Ab
def afE:=PLift.up (aI (aI (aI (aI @Ty @TS) (aI @Vx (aI @TD @UV))) (aI (aI @Wc (aI @abO @afS)) @cq)) (aI (aI (aI @ae (aI @T5 @Vw)) (aI @Vh (aI @oj @mJ))) (aI (aI @UE @IS) (aI @Wj (aI @cond_true.{1} @cond_false.{1})))))
theorem syP:type_of% afE.down:=afE.down
def afG:=PLift.up (aI (aI (aI (aI (aI (aI (aI (aI @MX @Yu) (aI @XQ @WQ)) (aI (aI @aaw @Uw) @TO)) (aI (aI @VN @Vq) (aI @adk @aen))) (aI (aI (aI (aI @adB @aex) (aI @VI @aeD)) (aI @aaI (aI @ab7 @U4))) (aI (aI (aI @S2 @UK) @ae5) (aI (aI @UX @Fl) (aI @Wg (aI @V3 @adj)))))) (aI (aI (aI (aI (aI @L4 @NO) @U6) (aI (aI @T0 @Vz) (aI @VF @W5))) (aI (aI (aI @VE @SQ) (aI @WJ @Ze)) (aI @T7 (aI @UW @Lk)))) (aI (aI (aI @NC @PE) (aI (aI @Ms @LL) (aI @Pk (aI @P3 @Us)))) (aI (aI @UR (aI @OO @QZ)) (aI (aI @QA @UD) (aI @Lh @V8)))))) (aI (aI (aI (aI (aI @Ql (aI @Q1 @O4)) (aI @af2 (aI @afr (aI @LZ @Qp)))) (aI (aI (aI @O6 @Mq) (aI @EU @JN)) (aI @Ge (aI @Vp (aI @Kf @I5))))) (aI (aI (aI (aI @JR @Gw) (aI @JG @Gc)) (aI (aI @Li @IL) (aI @IE (aI @Gf @Pa)))) (aI @Ga (aI @J2 @IP)))) (aI (aI (aI (aI @JK (aI @GC @K6)) (aI (aI @KS @Jn) (aI @JH (aI @FK @IV)))) (aI (aI @Jc (aI @Fv (aI @C6 @CG))) (aI (aI @RJ @Rq) (aI @XK @Tb)))) (aI (aI (aI (aI @Cv @Am) (aI @Up @J7)) (aI (aI @Uh @QO) @TU)) (aI (aI (aI @UJ @Qu) @Tk) (aI @PZ (aI @Nq (aI @MY @JP)))))))) (aI (aI (aI (aI (aI (aI @I4 (aI @FB @Po)) (aI @Nc (aI @VW (aI @Wu @Tl)))) (aI (aI @PN (aI @Py @OI)) (aI (aI @O3 @Q4) (aI @OZ (aI @Ox @Ol))))) (aI (aI (aI (aI @NH @Pt) (aI @Qr @QM)) (aI @P5 (aI @Pm @Qs))) (aI (aI (aI @TV @Tm) (aI @UP @Oi)) (aI @Jw (aI @Js (aI @Jh @NJ)))))) (aI (aI (aI (aI (aI @KU @Ti) (aI @PF @IZ)) (aI (aI @NQ @TP) (aI @Qz @QL))) (aI @Nr (aI @Qy @MM))) (aI (aI @Kd (aI (aI @OQ @Oq) (aI @T3 @N2))) (aI (aI (aI @Wn @K4) (aI @LH (aI @IU @QG))) (aI @Kn (aI @P7 @LO)))))) (aI (aI (aI (aI (aI @NZ @Tq) (aI (aI @QV @EY) (aI @JQ @afR))) (aI (aI @VK (aI @Mr @IW)) (aI (aI @KI @IK) @KQ))) (aI (aI (aI @Mz (aI @Oy @Mi)) (aI @P1 (aI @JA @Dn))) (aI (aI (aI @List.length_map.{0,0} @List.length_cons.{0}) (aI @List.length_nil.{0} @List.length_set.{0})) (aI (aI @List.drop_succ_cons.{0} @List.drop_zero.{0}) (aI @List.take_succ_cons.{0} (aI @List.take_zero.{0} @List.set_cons_zero.{0})))))) (aI (aI (aI (aI (aI @List.set_cons_succ.{0} @List.nil_append.{0}) (aI @List.cons_append.{0} @List.append_nil.{0})) (aI (aI @List.getElem?_cons_zero.{0} @List.getElem?_cons_succ.{0}) @Option.map_some.{0,0})) (aI (aI @Option.bind_some.{0,0} (aI @Nat.zero_add (aI @Nat.add_zero @Nat.le_refl))) (aI (aI @Bool.and_true @Bool.true_and) (aI @Bool.and_false (aI @Bool.false_and @Bool.or_true))))) (aI (aI (aI @Bool.or_false @Bool.not_true) (aI (aI @Bool.not_false @beq_self_eq_true.{0}) (aI @decide_true @decide_false))) (aI (aI (aI @if_true.{1} @if_false.{1}) @and_self) (aI (aI @true_and @Option.isSome_some.{0}) (aI @Option.isSome_none.{0} (aI @Int.cast_ofNat_Int @Int.toNat_natCast)))))))))
theorem syA:type_of% afG.down:=afG.down
end Go.Ab
set_option maxRecDepth 100000
namespace Go.Ab
def afy:=PLift.up (aI (aI (aI (aI @rT @PV) (aI @MO (aI @VG @QI))) @Vs) (aI (aI (aI @Kq (aI @FC (aI @LF @Zh))) (aI (aI @U7 @QE) (aI @TQ @QP))) (aI @UF @Um)))
theorem syQ:type_of% afy.down:=afy.down
end Go.Ab
set_option linter.unusedVariables false
set_option linter.unusedSimpArgs false
namespace Go.Ab
open Go.Proofs Go.RowKit Go.Shelf Go.Sort Go.Lib
def rG:List (List V)→Option (List Int)
 | []=>some []
 | [.lit (.int .i64 n)]::l=>(rG l).map (n :: ·)
 | _=>none
theorem A7:∀ {rs:List (List V)} {zs:List Int},rG rs=some zs→rs=zs.map fun n=>[V.lit (.int .i64 n)]
 | [],zs,h=>by cases h;rfl
 | r::l,zs,h=>by
  unfold rG at h
  split at h
  ·rename_i h2;cases h2
  ·rename_i n l' h2
   cases h2
   cases hl:rG l with
   | none=>rw [hl] at h;cases h
   | some z=>rw [hl] at h;cases h;rw [List.map_cons,← A7 hl]
  ·cases h
def Dx (zs:List Int) (a b:Nat):List Int:=zs.take a++zs.drop b++List.replicate (b - a) 0
def Uz (args:List V) (H:Hp):Option (V×Hp):=
 match args with
 | [.own id g len,.lit (.int .i64 a),.lit (.int .i64 b)]=>
  match H[id]? with
  | some (.rows e rs g' true)=>
   if e=1∧g=g'∧len≤rs.length∧0≤a∧a<b∧b.toNat≤len∧len≤9223372036854775807 then
    (rG (rs.take len)).map fun zs=>(.own id g (len - (b.toNat - a.toNat)),H.set id (.rows 1 ((Dx zs a.toNat b.toNat).map (fun n=>[V.lit (.int .i64 n)])++rs.drop len) g true))
   else none
  | _=>none
 | _=>none
section
variable {P:Program} {ρ:Ren}
set_option maxHeartbeats 4000000 in
set_option maxRecDepth 1000000 in
theorem VQ (L:Lays2.n23 P ρ) {b off c i j:Nat} {d:Array Int} {w:World} (hH:Holds (Value.int .i64) w b off d) (hc:d.size≤c) (hm:d.size≤9223372036854775807) (hij:i<j) (hj:j≤d.size) :
  Calls P (ρ.f 23) #[.slice (some ⟨b,off,none⟩) d.size c,.int .i64 i,.int .i64 j] w fun e w'=>e = .returned (.slice (some ⟨b,off,none⟩) (d.size - (j - i)) c) ∧
   w'=putRow (Value.int .i64) (Sort.ahead w 1) b off (Dx d.toList i j).toArray:=by
 have mixed:=L.mixed;have t0:=L.t0;have a0:=L.a0;have z0:=L.z0;have v0:=L.v0;have t3:=L.t3;have a3:=L.a3;have z3:=L.z3;have v3:=L.v3
 have t4:=L.t4;have a4:=L.a4;have z4:=L.z4;have v4:=L.v4;have t22:=L.t22;have a22:=L.a22;have z22:=L.z22;have v22:=L.v22
 obtain ⟨info,hinfo,hz0,hz1,_⟩:=info_parts L.i3
 generalize hns:(d.toList.drop j).map (Value.int .i64)=ns
 have nl:ns.length=d.size - j:=by rw [← hns];simp
 have at_:∀ t,t<d.size - j→ns[t]? = some (Value.int .i64 d[j+t]!):=fun t ht=>by
  rw [← hns,List.getElem?_map,List.getElem?_drop,Array.getElem?_toList,getElem!_pos d (j+t) (by omega),Array.getElem?_eq_getElem (by omega)]
  rfl
 -- where those behind lie
 have src:∃ A:Addr,(if c=j then some (⟨b,off,none⟩:Addr) else some ⟨b,off+j,none⟩)=some A∧Hid (∀ t u,ns[t]? = some u→w.drew.cell? (A.add t)=some u):=by
  rcases Decidable.em (c=j) with e | e
  ·refine ⟨⟨b,off,none⟩,if_pos e,fun t u hu => ?_⟩
   have:=(List.getElem?_eq_some_iff.1 hu).1
   omega
  ·refine ⟨⟨b,off+j,none⟩,if_neg e,fun t u hu => ?_⟩
   have ht:t<d.size - j:=by have:=(List.getElem?_eq_some_iff.1 hu).1;omega
   rw [at_ t ht] at hu
   rw [Addr.add_lit,Nat.add_assoc]
   exact (hH (j+t) (by omega)).1.trans hu
 obtain ⟨A,hA,hsrc⟩:=src
 have one:Hid (ns.length=(d.size - j)*1):=by rw [Nat.mul_one];exact nl
 have cells:Hid (∀ u ∈ ns,u.oneCell'=true):=fun u hu=>by
  rw [← hns] at hu
  obtain ⟨x,_,rfl⟩:=List.mem_map.1 hu
  rfl
 have dest:Hid (∀ t,t<ns.length→(w.drew.cell? ⟨b,off+i*1+t,none⟩).isSome=true∧w.drew.frozen? ⟨b,off+i*1+t,none⟩=false):=fun t ht=>by
  rw [nl] at ht
  rw [Nat.mul_one,Nat.add_assoc]
  obtain ⟨h1,h2⟩:=hH (i+t) (by omega)
  exact ⟨by show (w.cell? _).isSome=true;rw [h1];rfl,h2⟩
 obtain ⟨W,hW⟩:∃ W,W=w.drew.setCells b (off+i*1) ns:=⟨_,rfl⟩
 have hAh:=holds_ahead (Value.int .i64) w 1 b off d hH
 have hP:W=putRow (Value.int .i64) (Sort.ahead w 1) b off (lay d i (d.toList.drop j)):=by
  rw [hW,← hns,Nat.mul_one,← putRow_setCells (Value.int .i64) (Sort.ahead w 1) b off _ d i (by simp;omega),putRow_self (Value.int .i64) (Sort.ahead w 1) b off d hAh]
  rfl
 have hHW:Holds (Value.int .i64) W b off (lay d i (d.toList.drop j)):=by rw [hP];exact holds_putRow (Value.int .i64) _ b off d _ hAh (lay_size _ _ _)
 have wipe:∀ ty,(Builtin.clear_ #[ρ.t 22] ty #[.slice (some ⟨b,off+(i+(d.size - j)),none⟩) (d.size - (i+(d.size - j))) (c - (i+(d.size - j)))]).run P W = .ok (.tuple #[]) (W.setCells b (off+(i+(d.size - j))) (List.replicate (d.size - (i+(d.size - j))) (.int .i64 0))):=fun ty=>by
  refine Lib.run_clear_slice W _ _ ty _ t22 v3 rfl rfl b (off+(i+(d.size - j))) _ _ (by omega) (fun t ht => ?_) (fun t ht => ?_)
  all_goals rw [Nat.add_assoc]
  ·rw [(hHW _ (by rw [lay_size];omega)).1];rfl
  ·exact (hHW _ (by rw [lay_size];omega)).2
 have keep:Aside (W=putRow (Value.int .i64) (Sort.ahead w 1) b off (lay d i (d.toList.drop j))):=hP
 have wIs:Hid (W=w.drew.setCells b (off+i*1) ns):=hW
 have hic:i≤c:=by omega
 have hjc:j≤c:=by omega
 clear hW hP hHW hAh hH at_ hns nl
 go_enter L.f23,Body2.n23_ntmps ρ
 go_wp2_with fail
 go_region_law_o (refine step_append_room rfl (.tmp 22) (.tmp 25) (ρ.t 22) rfl (ρ.t 3) info 1 t22 hinfo hz1 b off i c (by simp [Act.eval,Act.put]) A (d.size - j) (c - j) ns (by simp [Act.eval,Act.put]) one.out hsrc.out cells.out (by omega) dest.out ?_;rw [← wIs.out])
 go_wp2
 go_ret
 refine ⟨by rw [show d.size - (j - i)=i+(d.size - j) by omega];rfl,?_⟩
 unfold Dx
 rw [← delete_arr d i j 0 (by omega) hj,← putRow_setCells (Value.int .i64) _ b off _ _ (i+(d.size - j)) (by rw [lay_size];simp;omega),← keep.out,List.map_replicate,show d.size - (i+(d.size - j))=j - i by omega]
theorem HS {zs:List Int} {a b:Nat} (h:a≤b) (hb:b≤zs.length):(Dx zs a b).length=zs.length:=by
 unfold Dx
 simp
 omega
theorem L3 {w:World} {b k:Nat} {d:Array Int} (h:k≠b):(putRow (Value.int .i64) (Sort.ahead w 1) b 0 d).heap[k]? = w.heap[k]? := by
 show (w.heap.modify b _)[k]? = _
 rw [Array.getElem?_modify,if_neg (fun e=>h e.symm)]
theorem EA {w:World} {b:Nat} {d:Array Int} {arr:Array Value} {e:TypeId} (h:w.heap[b]? = some (.cells arr e (0,0))):(putRow (Value.int .i64) (Sort.ahead w 1) b 0 d).heap[b]? = some (.cells (putCells (Value.int .i64) 0 d arr) e (0,0)):=by
 show (w.heap.modify b _)[b]? = _
 rw [Array.getElem?_modify,if_pos rfl,h]
 rfl
theorem Dw {B0:Nat} {w0 w:World} {R:Ro} {σ:List Sg} {H H':Hp} {v:V} {args:List V} {cargs:Array Value} (L:Lays2.n23 P ρ) (h:Uz args H=some (v,H')) (hI:Inv 0 B0 w0 R σ H w) (hA:bJ R σ args cargs):Calls P (ρ.f 23) cargs w (IY 0 B0 w0 R σ w v H'):=by
 unfold Uz at h
 split at h
 case h_2=>cases h
 rename_i id g len a b
 split at h
 case h_2=>cases h
 rename_i e0 rs g' hb
 split at h
 case isFalse=>cases h
 rename_i hc
 obtain ⟨rfl,rfl,hlen,ha0,hab,hbl,hbig⟩:=hc
 rw [Option.map_eq_some_iff] at h
 obtain ⟨zs,hz,h⟩:=h
 cases h
 have hrs:=A7 hz
 have hzl:zs.length=len:=by
  have:=congrArg List.length hrs
  rw [List.length_take,List.length_map] at this
  omega
 obtain ⟨ca,l1,rfl,hr1,hA⟩:=hA.uncons
 obtain ⟨cb,l2,e2,hr2,hA⟩:=hA.uncons
 obtain ⟨cc,l3,e3,hr3,hA⟩:=hA.uncons
 have e4:=hA.nil_inv
 cases hr2
 cases hr3
 obtain ⟨Ad,l,c,s,rfl,hs,hh,hg,hgen⟩:=i7 hr1
 obtain ⟨q1,q2,q3,q4,q5,q6⟩:=ij hI hb hs hh
 obtain ⟨rfl,hn,hsm⟩:=hgen q1.symm
 cases hblk:s.blk with
 | none=>
  have:=q5 hblk
  subst this
  simp at hlen
  omega
 | some b0=>
  obtain ⟨rfl,hlc,hcap⟩:=hsm b0 hblk
  obtain ⟨arr,e,hheap,hsz,hcell,hro⟩:=q6 b0 hblk
  have hB:B0≤b0:=hI.ge id _ s b0 (Nat.zero_le _) hb rfl hs hblk
  have hrow:∀ j (hj:j<zs.length),rs[j]? = some [V.lit (.int .i64 zs[j])]:=fun j hj=>by
   have:(rs.take l)[j]? = some [V.lit (.int .i64 zs[j])]:=by rw [hrs,List.getElem?_map,List.getElem?_eq_getElem hj];rfl
   rw [List.getElem?_take] at this
   split at this
   ·exact this
   ·cases this
  have hcv:∀ j (hj:j<zs.length),arr[j]? = some (.int .i64 zs[j]):=fun j hj=>by
   obtain ⟨cv,h1,h2⟩:=hcell j 0 _ _ (hrow j hj) rfl
   cases h2
   rw [Nat.mul_one,Nat.add_zero] at h1
   exact h1
  have hH:Holds (Value.int .i64) w b0 0 zs.toArray:=fun j hj=>by
   have hj':j<zs.length:=by simpa using hj
   rw [Nat.zero_add]
   refine ⟨?_,?_⟩
   ·rw [getElem!_pos zs.toArray j hj]
    unfold World.cell?
    rw [hheap]
    simpa using hcv j hj'
   ·unfold World.frozen?
    rw [hheap]
    simp
  have el:(Value.slice (some ⟨b0,0,none⟩) l c::l1).toArray = #[.slice (some ⟨b0,0,none⟩) zs.toArray.size c,.int .i64 ((a.toNat:Nat):Int),.int .i64 ((b.toNat:Nat):Int)]:=by
   have e2':l1=Value.int .i64 a::l2:=by simpa using e2
   have e3':l2=Value.int .i64 b::l3:=by simpa using e3
   have e4':l3=[]:=by simpa using e4
   rw [e2',e3',e4',Int.toNat_of_nonneg ha0,Int.toNat_of_nonneg (by omega)]
   simp [hzl]
  rw [el]
  refine (VQ L hH (by simpa [hzl] using hlc) (by simpa [hzl] using hbig) (by omega) (by simpa [hzl] using hbl)).mono ?_
  rintro x w' ⟨rfl,rfl⟩
  have hcl:=HS (zs:=zs) (a:=a.toNat) (b:=b.toNat) (by omega) (by omega)
  have hsize:(putRow (Value.int .i64) (Sort.ahead w 1) b0 0 (Dx zs a.toNat b.toNat).toArray).heap.size=w.heap.size:=by rw [size_putRow];rfl
  have hset:=hI.set (R':=R) (w':=putRow (Value.int .i64) (Sort.ahead w 1) b0 0 (Dx zs a.toNat b.toNat).toArray) (b' := .rows 1 ((Dx zs a.toNat b.toNat).map (fun n=>[V.lit (.int .i64 n)])++rs.drop l) g true) (s':=s) hb rfl hs hh (Nat.zero_le _) (pB.refl s) (fun k hk => .inl hk)
   ⟨rfl,rfl,rfl,by rw [hsize];exact Nat.le_refl _,fun k hk=>L3 (by omega)⟩ (by rw [hsize];exact Nat.le_refl _) (fun k _ hk=>L3 (fun e=>hk (by rw [e];exact hblk))) (fP.refl R) (fun _ _ h => .inl h)
   (fun k o u hu hk=>by
    rw [hblk] at hk;cases hk
    have:=(hro o (by simp [hu])).1
    cases this)
   ⟨q1,q2,q3,fun r hr=>by
    rcases List.mem_append.1 hr with hr | hr
    ·obtain ⟨n,_,rfl⟩:=List.mem_map.1 hr
     exact ⟨rfl,rfl⟩
    ·exact q4 r (List.mem_of_mem_drop hr),by
    rw [hblk]
    refine ⟨_,e,EA hheap,?_,fun i j r x hr hx => ?_,fun o ho => ?_⟩
    ·unfold putCells
     rw [Array.size_mapIdx]
     exact hsz
    ·rw [di hs]
     by_cases hi:i<zs.length
     ·rw [List.getElem?_append_left (by simp;omega),List.getElem?_map,List.getElem?_eq_getElem (by omega)] at hr
      cases hr
      cases j with
      | succ j=>simp at hx
      | zero=>
       cases hx
       refine ⟨.int .i64 ((Dx zs a.toNat b.toNat)[i]'(by omega)), ?_, .lit _⟩
       unfold putCells
       have hai:=hcv i hi
       rw [Nat.mul_one,Nat.add_zero,Array.getElem?_mapIdx,hai]
       simp only [Option.map_some,Nat.zero_le,Nat.zero_add,true_and,List.size_toArray,Nat.sub_zero]
       rw [if_pos (by omega),getElem!_pos _ _ (by simp;omega)]
       simp
     ·rw [List.getElem?_append_right (by simp;omega),List.getElem?_drop] at hr
      have hr':rs[i]? = some r:=by
       rw [← hr]
       congr 1
       simp
       omega
      obtain ⟨cv,h1,h2⟩:=hcell i j r x hr' hx
      refine ⟨cv,?_,h2⟩
      unfold putCells
      rw [Array.getElem?_mapIdx,h1]
      simp only [Option.map_some,Nat.zero_le,Nat.zero_add,true_and,List.size_toArray,Nat.sub_zero]
      rw [if_neg (by omega)]
    ·have:=(hro o ho).1
     cases this⟩
  rw [di hs] at hset
  refine ⟨R,σ,hset.widen (fun k hk => ?_),?_,by rw [hsize];exact Nat.le_refl _⟩
  ·rw [hblk] at hk;cases hk;exact hB
  ·have e5:zs.toArray.size - (b.toNat - a.toNat)=l - (b.toNat - a.toNat):=by simp [hzl]
   rw [e5]
   refine .own id g (l - (b.toNat - a.toNat)) _ _ c s hs hh (by omega) (fun _=>⟨rfl,fun hz => ?_,fun b1 hb1 => ?_⟩)
   ·rw [hblk] at hz;cases hz
   ·rw [hblk] at hb1;cases hb1
    exact ⟨rfl,by omega,hcap⟩
end
def dlB (id g len:Nat) (a b:Int) (H:Hp):Option B→Option (V×Hp)
 | some (.rows e rs g' true)=>
  if e=1∧g=g'∧len≤rs.length∧0≤a∧a<b∧b.toNat≤len∧len≤9223372036854775807 then
   (rG (rs.take len)).map fun zs=>(.own id g (len - (b.toNat - a.toNat)),H.set id (.rows 1 ((Dx zs a.toNat b.toNat).map (fun n=>[V.lit (.int .i64 n)])++rs.drop len) g true))
  else none
 | _=>none
theorem Tv {id g len:Nat} {a b:Int} {H:Hp}:Uz [.own id g len,.lit (.int .i64 a),.lit (.int .i64 b)] H=dlB id g len a b H H[id]? := by
 unfold Uz dlB
 rfl
theorem AJ:∀ l:List Int,rG (l.map (aQ .i64))=some l
 | []=>rfl
 | n::l=>by rw [List.map_cons,aQ,rG,AJ l];rfl
theorem NR {id g len e:Nat} {a b:Int} {H:Hp} {l:List Int}:dlB id g len a b H (some (.rows e (l.map (aQ .i64)) g true)) =
  ck (e==1) (ck (decide (len≤l.length∧0≤a∧a<b∧b.toNat≤len∧len≤9223372036854775807)) (some (.own id g (len - (b.toNat - a.toNat)),H.set id (.rows 1 ((Dx (l.take len) a.toNat b.toNat++l.drop len).map (aQ .i64)) g true)))):=by
 unfold dlB
 dsimp only
 rw [List.length_map,← List.map_take,AJ,← List.map_drop]
 by_cases he:e=1
 ·subst he
  rw [beq_self_eq_true,cq]
  by_cases h:len≤l.length∧0≤a∧a<b∧b.toNat≤len∧len≤9223372036854775807
  ·rw [if_pos ⟨rfl,rfl,h⟩,decide_eq_true h,cq,List.map_append]
   rfl
  ·rw [if_neg (fun z=>h z.2.2),decide_eq_false h,Cf]
 ·have h1:(e==1)=false:=by simp [he]
  rw [h1,Cf,if_neg (fun z=>he z.1)]
theorem Uv {P:Program} {M:Mode} {k:Nat} {f:FuncId} {args:List V} {H:Hp} (ho:M.orc f=some Uz):evF P M (k+1) 0 f args H=Uz args H:=by
 rw [evF,ho]
 rfl
end Go.Ab
namespace Go.Ab
def dh (x:Tys):List V:=
 [.lit (.int .i64 x.1),.ro (x.2.1.map (aQ .i64)),.lit (.int .i64 x.2.2.1),.lit (.int .i64 x.2.2.2.1),.lit (.int .i64 x.2.2.2.2.1),.lit (.int .u64 x.2.2.2.2.2.1),.lit (.int .u64 x.2.2.2.2.2.2.1),.lit (.int .u64 x.2.2.2.2.2.2.2.1),.lit (.int .i64 x.2.2.2.2.2.2.2.2)]
def arC (id g row:Nat):List (Int×Nat)→Int→Option V
 | [],_=>none
 | p::l,n=>bif n==p.1 then some (.ptr id g row p.2) else arC id g row l n
theorem Tc {id g row:Nat} {n:Int}:arC id g row [] n=none:=rfl
theorem O5 {id g row o:Nat} {n i:Int} {l:List (Int×Nat)}:arC id g row ((i,o)::l) n=bif n==i then some (.ptr id g row o) else arC id g row l n:=rfl
def arL (sz off len:Nat):List (Int×Nat):=(List.range len).map fun j:Nat=>((j:Int),off+j*sz)
theorem FA {id g row:Nat} {n:Int}:∀ {l:List (Int×Nat)},(∀ p ∈ l,p.1≠n)→arC id g row l n=none
 | [],_=>rfl
 | p::l,h=>by
  rw [arC,show (n==p.1)=false by simp;exact fun e=>h p (List.mem_cons_self ..) e.symm,cond_false]
  exact FA fun q hq=>h q (List.mem_cons_of_mem _ hq)
theorem Sz {id g row sz off:Nat} {q:Nat}:∀ (l:List Nat),q ∈ l→arC id g row (l.map fun j:Nat=>((j:Int),off+j*sz)) (q:Int)=some (.ptr id g row (off+q*sz))
 | [],h=>by cases h
 | x::l,h=>by
  rw [List.map_cons,arC]
  by_cases e:q=x
  ·subst e;simp
  ·have h2:((q:Int)==(x:Int))=false:=by simp;omega
   rw [h2,cond_false]
   exact Sz l ((List.mem_cons.1 h).resolve_left e)
theorem MA {P:Program} {t e:TypeId} {len sz id g row off:Nat} {k:IntKind} {n:Int} {H:Hp} (h:P.underlying t=some (.array len e)) (hs:aW P e=sz) (hz:sz≠0) :
  al P t (.ptr id g row off) (.lit (.int k n)) H=arC id g row (arL sz off len) n:=by
 unfold al
 simp only [h,hs]
 by_cases h0:0≤n
 ·rw [if_pos h0]
  by_cases h1:n<len
  ·rw [if_pos ⟨h1,hz⟩]
   obtain ⟨q,rfl⟩:∃ q:Nat,n=q:=⟨n.toNat,by omega⟩
   rw [arL,Sz (List.range len) (List.mem_range.2 (by omega)),Int.toNat_natCast]
  ·rw [if_neg (fun hh=>h1 hh.1)]
   refine (FA fun p hp => ?_).symm
   obtain ⟨j,hj,rfl⟩:=List.mem_map.1 hp
   have:=List.mem_range.1 hj
   simp only
   omega
 ·rw [if_neg h0]
  refine (FA fun p hp => ?_).symm
  obtain ⟨j,hj,rfl⟩:=List.mem_map.1 hp
  simp only
  omega
end Go.Ab
namespace Go.Ab
def aZ (x:Tyw):List V:=
 [.lit (.int .i64 x.1),.ro (x.2.1.map a8),.lit (.int .i64 x.2.2.1.1),.lit (.int .i64 x.2.2.1.2.1),.lit (.int .i64 x.2.2.1.2.2.1),.lit (.int .u64 x.2.2.1.2.2.2.1),.lit (.int .u64 x.2.2.1.2.2.2.2.1),.lit (.int .u64 x.2.2.1.2.2.2.2.2.1),.lit (.int .i64 x.2.2.1.2.2.2.2.2.2),.lit (.int .i64 x.2.2.2.1),.lit (.int .i64 x.2.2.2.2)]
mutual
theorem LS (n:Nat):∀ v:V,v.pure=true→v.kill n=v
 | .lit _,_=>rfl
 | .ro _,_=>rfl
 | .nil,_=>rfl
 | .any,_=>rfl
 | .junk,_=>rfl
 | .agg cs,h=>by rw [V.kill,ik n cs h]
 | .tup cs,h=>by rw [V.kill,ik n cs h]
 | .fn f a b,h=>by
  rw [V.pure,Bool.and_eq_true] at h
  rw [V.kill,ik n a h.1,ik n b h.2]
 | .rp _,_=>rfl
theorem ik (n:Nat):∀ l:List V,bC l=true→kE n l=l
 | [],_=>rfl
 | v::l,h=>by
  rw [bC,Bool.and_eq_true] at h
  rw [kE,LS n v h.1,ik n l h.2]
end
theorem E0 {n:Nat} {rs:List (List V)}:nd n rs=rs.map (kE n):=by
 unfold nd
 split
 ·rename_i h
  rw [dn,List.all_eq_true] at h
  have:∀ l:List (List V),(∀ x ∈ l,bC x=true)→l.map (kE n)=l:=by
   intro l
   induction l with
   | nil=>intro _;rfl
   | cons r l ih=>intro h;rw [List.map_cons,ik n r (h r (List.mem_cons_self ..)),ih fun x hx=>h x (List.mem_cons_of_mem _ hx)]
  exact (this rs h).symm
 ·rfl
theorem aj {n:Nat} {r:List V} {rs:List (List V)}:nd n (r::rs)=kE n r::nd n rs:=by
 rw [E0,E0,List.map_cons]
theorem ag {k:IntKind} {a:Int} {l:List Int}:[V.lit (.int k a)]::List.map (aQ k) l=List.map (aQ k) (a::l):=rfl
theorem af {a b c:Int} {l:Tye}:[V.lit (.int .i64 a),.lit (.int .i64 b),.lit (.int .i64 c)]::List.map a8 l=List.map a8 ((a,b,c)::l):=rfl
def afm:=PLift.up (aI (aI (aI (aI (aI (aI @rtN.eq_1 @bC.eq_1) (aI @bC.eq_2 @V.pure.eq_1)) (aI @V.pure.eq_2 @V.pure.eq_3)) (aI (aI (aI @V.pure.eq_6 @V.pure.eq_7) @V.pure.eq_8) (aI @V.pure.eq_11 @V.pure.eq_12))) (aI (aI (aI (aI @nsh.eq_1 @abj.eq_1) @abj.eq_2) (aI (aI @V.kill.eq_1 @V.kill.eq_2) (aI @V.kill.eq_3 @V.kill.eq_4))) (aI (aI (aI @V.kill.eq_5 @V.kill.eq_6) (aI @V.kill.eq_7 @V.kill.eq_8)) (aI (aI @V.kill.eq_9 @V.kill.eq_10) @V.kill.eq_11)))) (aI (aI (aI (aI @V.kill.eq_12 (aI @kE.eq_1 @kE.eq_2)) (aI (aI @spl.eq_1 @spl.eq_2) (aI @V.shift.eq_1 @V.shift.eq_2))) (aI @V.shift.eq_6 (aI @V.shift.eq_7 @V.shift.eq_8))) (aI (aI (aI @V.shift.eq_11 (aI @V.shift.eq_12 @V.shift.eq_13)) (aI (aI @iU.eq_1 @iU.eq_2) (aI @V.scal.eq_1 @V.scal.eq_2))) (aI (aI (aI @V.scal.eq_3 @V.scal.eq_4) (aI @E8.eq_1 @E8.eq_2)) (aI (aI @aQ.eq_1 @Ai.eq_1) @a8.eq_1)))))
theorem syD:type_of% afm.down:=afm.down
def afs:=PLift.up (aI (aI @syQ @fQ.eq_1) (aI (aI @dh.eq_1 @aZ.eq_1) (aI @Tc @O5)))
theorem syE:type_of% afs.down:=afs.down
end Go.Ab
namespace Go.Ab
open Go
def ga (x:Int×Int×Int):List V:=[.lit (.int .i64 x.1),.lit (.int .i64 x.2.1),.lit (.int .u64 x.2.2)]
theorem Jl (x:Int×Int×Int):bC (ga x)=true:=rfl
theorem lG (x:Tyw):bC (aZ x)=true:=by
 have h:dn (x.2.1.map a8)=true:=gD fun _=>rfl
 simp [aZ,bC,V.pure,h]
theorem mE (x:Tys):bC (dh x)=true:=by
 have h:=EU (k := .i64) (l:=x.2.1)
 simp [dh,bC,V.pure,h]
section
variable {lw:List Tyw} {ls:List Tys} {lp:Tye} {n i:Nat} {a b c d e f g p q r:Int} {x:List Int} {y:Tye}
theorem JM:dn (lw.map aZ)=true:=gD lG
theorem Jm:nd n (lw.map aZ)=lw.map aZ:=kT lG
theorem Gs:mK n (lw.map aZ)=lw.map aZ:=lO lG
theorem OH:fb 11 (lw.map aZ)=true:=lM fun _=>rfl
theorem ME:(lw.map aZ).set i [.lit (.int .i64 p),.ro (y.map a8),.lit (.int .i64 a),.lit (.int .i64 b),.lit (.int .i64 c),.lit (.int .u64 d),.lit (.int .u64 e),.lit (.int .u64 f),.lit (.int .i64 g),.lit (.int .i64 q),.lit (.int .i64 r)]=(lw.set i (p,y,(a,b,c,d,e,f,g),q,r)).map aZ:=by rw [List.map_set];rfl
theorem E1:[[V.lit (.int .i64 p),.ro [],.lit (.int .i64 a),.lit (.int .i64 b),.lit (.int .i64 c),.lit (.int .u64 d),.lit (.int .u64 e),.lit (.int .u64 f),.lit (.int .i64 g),.lit (.int .i64 q),.lit (.int .i64 r)]]=[(p,([]:Tye),(a,b,c,d,e,f,g),q,r)].map aZ:=rfl
theorem Ls:dn (ls.map dh)=true:=gD mE
theorem LD:nd n (ls.map dh)=ls.map dh:=kT mE
theorem JC:mK n (ls.map dh)=ls.map dh:=lO mE
theorem Uf:fb 9 (ls.map dh)=true:=lM fun _=>rfl
theorem QF:(ls.map dh).set i [.lit (.int .i64 p),.ro (x.map (aQ .i64)),.lit (.int .i64 a),.lit (.int .i64 b),.lit (.int .i64 c),.lit (.int .u64 d),.lit (.int .u64 e),.lit (.int .u64 f),.lit (.int .i64 g)]=(ls.set i (p,x,a,b,c,d,e,f,g)).map dh:=by rw [List.map_set];rfl
theorem FZ:[[V.lit (.int .i64 p),.ro [],.lit (.int .i64 a),.lit (.int .i64 b),.lit (.int .i64 c),.lit (.int .u64 d),.lit (.int .u64 e),.lit (.int .u64 f),.lit (.int .i64 g)]]=[(p,([]:List Int),a,b,c,d,e,f,g)].map dh:=rfl
theorem I3:dn (lp.map ga)=true:=gD Jl
theorem Mm:(lp.map ga).set i [.lit (.int .i64 a),.lit (.int .i64 b),.lit (.int .u64 c)]=(lp.set i (a,b,c)).map ga:=by rw [List.map_set];rfl
theorem FV:[[V.lit (.int .i64 a),.lit (.int .i64 b),.lit (.int .u64 c)]]=[(a,b,c)].map ga:=rfl
theorem EO:[V.lit (.int .i64 a),.lit (.int .i64 b),.lit (.int .u64 c)]::lp.map ga=((a,b,c)::lp).map ga:=rfl
end
theorem V4 {α:Type} {wl e sz bytes id g len s:Nat} {l:List α} {enc:α→List V} {H:Hp} :
  apB wl e sz bytes id g len [] H (some (.rows s (l.map enc) g true)) =
   sif (Nat.ble wl id) (ck (decide (len≤l.length)) (ck (s==sz||s==0) (bif room (l.take len).length bytes then some (.own id (g+1) (l.take len).length,H.set id (.rows sz ((l.take len).map enc) (g+1) true)) else none))) none:=by
 have h:=KI (wl:=wl) (e:=e) (sz:=sz) (bytes:=bytes) (id:=id) (g:=g) (len:=len) (s:=s) (l:=l) (m:=[]) (enc:=enc) (H:=H)
 rw [List.append_nil] at h
 exact h
theorem SZ {kp:Nat→Bool} {cs:List V} {h:Hp}:mo (some kp) (.agg cs) h=bq (An cs h []) fun p=>some (.agg p.1,p.2.2):=by
 unfold mo IR bq
 dsimp only
 cases An cs h [] <;> rfl
theorem Kc {H acc:Hp}:An [] H acc=some ([],H,acc):=rfl
theorem IH {v:V} {vs:List V} {H acc:Hp}:An (v::vs) H acc=bq (rL v H acc) fun p=>bq (An vs p.2.1 p.2.2) fun q=>some (p.1::q.1,q.2.1,q.2.2):=by
 rw [An]
 unfold bq
 cases rL v H acc with
 | none=>rfl
 | some p=>rfl
theorem KT {v:Value} {H acc:Hp}:rL (.lit v) H acc=some (.lit v,H,acc):=rfl
theorem PL {r:List (List V)} {H acc:Hp}:rL (.ro r) H acc=some (.ro r,H,acc):=rfl
def hmB (id g len:Nat) (H acc:Hp):Option B→Option (V×Hp×Hp)
 | some (.rows e rs g' live)=>if g=g'∧len≤rs.length∧(live=true∨len=rs.length)∧dn rs=true then some (.own acc.length 0 len,H.set id .dead,acc++[.rows e (rs.take len) 0 live]) else none
 | _=>none
theorem DL {id g len:Nat} {H acc:Hp}:rL (.own id g len) H acc=hmB id g len H acc H[id]? := by
 unfold rL hmB
 dsimp only
 cases H[id]? with
 | none=>rfl
 | some b=>cases b <;> rfl
theorem Cw {α:Type} {enc:α→List V} (hp:∀ x,bC (enc x)=true) {id g len e:Nat} {H acc:Hp} {l:List α}:hmB id g len H acc (some (.rows e (l.map enc) g true))=ck (decide (len≤l.length)) (some (.own acc.length 0 len,H.set id .dead,acc++[.rows e ((l.take len).map enc) 0 true])):=by
 unfold hmB ck
 dsimp only
 rw [List.length_map,gD hp,List.map_take]
 by_cases h:len≤l.length
 ·rw [if_pos ⟨rfl,h,.inl rfl,rfl⟩,decide_eq_true h]
  rfl
 ·rw [if_neg (fun z=>h z.2.1),decide_eq_false h]
  rfl
theorem S3 {id g e:Nat} {H acc:Hp} {lv:Bool}:hmB id g 0 H acc (some (.rows e [] g lv))=some (.own acc.length 0 0,H.set id .dead,acc++[.rows e [] 0 lv]):=by
 unfold hmB
 dsimp only
 rw [if_pos ⟨rfl,Nat.le_refl _,.inr rfl,rfl⟩]
 rfl
theorem Vj {k:IntKind} {id g len e:Nat} {H acc:Hp} {l:List Int}:hmB id g len H acc (some (.rows e (l.map (aQ k)) g true))=ck (decide (len≤l.length)) (some (.own acc.length 0 len,H.set id .dead,acc++[.rows e ((l.take len).map (aQ k)) 0 true])):=Cw fun _=>rfl
theorem TX {kp:Nat→Bool} {id g len:Nat} {h:Hp}:mo (some kp) (.own id g len) h=bq (hmB id g len h [] h[id]?) fun p=>some (p.1,p.2.2):=by
 have e:mo (some kp) (.own id g len) h=(rL (.own id g len) h []).bind fun q=>some (q.1,q.2.2):=rfl
 rw [e,DL]
 unfold bq
 cases hmB id g len h [] h[id]? <;> rfl
theorem Ob {id g len e:Nat} {H acc:Hp} {l:List Tyw}:hmB id g len H acc (some (.rows e (l.map aZ) g true))=ck (decide (len≤l.length)) (some (.own acc.length 0 len,H.set id .dead,acc++[.rows e ((l.take len).map aZ) 0 true])):=Cw lG
theorem UA {id g len e:Nat} {H acc:Hp} {l:List Tys}:hmB id g len H acc (some (.rows e (l.map dh) g true))=ck (decide (len≤l.length)) (some (.own acc.length 0 len,H.set id .dead,acc++[.rows e ((l.take len).map dh) 0 true])):=Cw mE
def afL:=PLift.up (aI (aI (aI (aI (aI (aI @JM @Jm) @Gs) (aI @OH @ME)) (aI @E1 @Ls)) (aI (aI (aI (aI @LD @JC) @Uf) @QF) (aI @FZ @I3))) (aI (aI (aI @Mm @FV) (aI (aI (aI @EO @S3) @Vj) (aI @TX @V4))) (aI (aI (aI (aI @SZ @Kc) @IH) (aI @KT @PL)) (aI (aI (aI @DL @Ob) @UA) @ga.eq_1))))
theorem syW:type_of% afL.down:=afL.down
end Go.Ab
namespace Go.Ab
section
variable {cx:Cx} {K:Out→St→Res} {r:Res} {id j n0:Nat} {ops:Array Oper} {a:List Nat×List Nat} {env:List V} {H:Hp} {o:Oper} {i:Nat} {L:List Nat}
theorem qI (hL:BS ops=L) (ha:(pp ops).any=false) (v:V) (H':Hp) (h2:fV cx (.region id ops true) (j+1) n0 a K ⟨ml env o.dst v,H'⟩=r) (hj:L[j]? = some i:=by rfl) (ho:ops.toList[i]? = some o:=by rfl) (hg:o.guard=none:=by rfl) (hst:(pp ops).strict i=false:=by kernel_rfl) (h1:opV cx ((pp ops).calm i) ((pp ops).ord i) o.op env H=some (v,H'):=by kernel_rfl):fV cx (.region id ops true) j n0 a K ⟨env,H⟩=r:=go_op1 hL ha hj ho hg (ae7 hst (adg h1 h2))
section
variable {gj d:Nat} {b:Bool}
end
end
end Go.Ab
namespace Go.Ab
abbrev bb (b:Bool) (x y:Res):Res:=match b with | true=>x | false=>y
abbrev onO {A:Type} (x:Option A) (k:A→Res):Res:=match x with | some v=>k v | none=>none
abbrev ad5 (cx:Cx) (b:Builtin) (ts:Array TypeId) (args:List V) (H:Hp) (F:V→Hp→Res):Res:=
 match b with
 | .len=>match ts.toList,args with
  | [t],[x]=>bp (bw cx.P t x H) F
  | _,_=>none
 | .append=>match ts.toList,args with
  | [t,u],[s,x]=>bp (ng cx.P cx.wl t u s x H) F
  | _,_=>none
 | .max=>bm (l8 true args) H F
 | .min=>bm (l8 false args) H F
 | _=>none
abbrev opW (cx:Cx) (calm ord:Bool) (op:Op) (env:List V) (H:Hp) (F:V→Hp→Res):Res:=
 match op with
 | .move x=>onO (evO env x) fun v=>F v H
 | .assign x=>match x with
  | .const c=>onO (some (ku c)) fun v=>match v with | .nil=>bp (some (.own H.length 0 0,H++[.rows 0 [] 0 true])) F | v=>F v H
  | x=>onO (evO env x) fun v=>F v H
 | .pick c a b=>onO (evO env c) fun c=>onO (evO env a) fun a=>onO (evO env b) fun b=>bm (aT c a b) H F
 | .alloc t=>bp (aA cx.P t H) F
 | .box _ x=>onO (evO env x) fun v=>bp (aU v H) F
 | .build t parts=>onO (Ne (evO env) parts.toList) fun l=>bm (bc cx.P t l) H F
 | .buildSlice t len parts=>onO (Ne (evO env) parts.toList) fun l=>bb (calm) (bp (cW cx.P cx.wl t len l H) F) (bp (aK cx.P cx.wl t len l H) F)
 | .insert t m k v=>onO (evO env m) fun m=>onO (evO env k) fun k=>onO (evO env v) fun v=>bs (ej cx.P cx.wl t m k v H) (F uu)
 | .load t a=>onO (evO env a) fun a=>bm (ab cx.P t a H) H F
 | .store t a v=>onO (evO env a) fun a=>onO (evO env v) fun v=>bs (ai cx.P cx.wl t a v H) (F uu)
 | .nilCheck x=>onO (evO env x) fun x=>bm (aN x H) H F
 | .binOp op t x y _=>onO (evO env x) fun x=>onO (evO env y) fun y=>bm (az cx.P op t x y) H F
 | .unOp op _ x=>onO (evO env x) fun x=>bm (vUn op x) H F
 | .convert s d x=>onO (evO env x) fun x=>bm (gB cx.P s d x) H F
 | .makeFunc f a b=>onO (Bv env a.toList) fun a=>onO (Bv env b.toList) fun b=>F (.fn f a b) H
 | .makeMap _ r=>match r with | none=>bp (some (.map H.length,H++[.map []])) F | some _=>none
 | .makeSlice t l c=>onO (evO env l) fun l=>onO (evO env c) fun c=>bp (ba cx.P t l c H) F
 | .slice t x lo hi mx=>onO (evO env x) fun x=>onO (Kl env lo) fun lo=>onO (Kl env hi) fun hi=>onO (Kl env mx) fun mx=>bp (gC cx.P cx.wl calm t x lo hi mx H) F
 | .fieldAddr t x i=>onO (evO env x) fun x=>bm (aa cx.P t x i) H F
 | .field t x i=>onO (evO env x) fun x=>bm (wj cx.P t x i) H F
 | .indexAddr t x i=>onO (evO env x) fun x=>onO (evO env i) fun i=>bm (al cx.P t x i H) H F
 | .index t x i=>onO (evO env x) fun x=>onO (evO env i) fun i=>bm (Hn cx.P t x i) H F
 | .lookup t m k ok=>onO (evO env m) fun m=>onO (evO env k) fun k=>bm (fH cx.P t m k ok H) H F
 | .extract x i=>onO (evO env x) fun x=>bm (ar x i) H F
 | .call c=>
  match c.callee with
  | .builtin b=>onO (Bv env c.args.toList) fun a=>ad5 cx b c.argTypes a H F
  | .value f=>onO (evO env f) fun f=>onO (Bv env c.args.toList) fun a=>bp (dW cx calm ord f a H) F
  | .invoke _ _=>none
 | _=>none
theorem b9 {A:Type} {x:Option A} {k:A→Res} {g:A→Option (V×Hp)} {F:V×Hp→Res} (h:∀ v,k v=(g v).bind F):onO x k=(x.bind g).bind F:=by
 cases x with
 | none=>rfl
 | some v=>exact h v
theorem Gv {A:Type} {x:Option A} {k:A→Res} {g:A→V×Hp} {F:V×Hp→Res} (h:∀ v,k v=F (g v)):onO x k=(x.map g).bind F:=by
 cases x with
 | none=>rfl
 | some v=>exact h v
theorem Y3 {x:Option Hp} {F:V→Hp→Res}:bs x (F uu)=(x.map fun H'=>(V.lit undef,H')).bind fun p=>F p.1 p.2:=by cases x <;> rfl
theorem Uo {cx:Cx} {b:Builtin} {ts:Array TypeId} {args:List V} {H:Hp} {F:V→Hp→Res}:ad5 cx b ts args H F=(JZ cx b ts args H).bind fun p=>F p.1 p.2:=by
 unfold ad5 JZ
 generalize ts.toList=l
 cases b with
 | len=>rcases l with _ | ⟨_,_ | _⟩ <;> rcases args with _ | ⟨_,_ | _⟩ <;> rfl
 | append=>rcases l with _ | ⟨_,_ | ⟨_,_ | _⟩⟩ <;> rcases args with _ | ⟨_,_ | ⟨_,_ | _⟩⟩ <;> rfl
 | _=>rfl
theorem WN {cx:Cx} {calm ord:Bool} {op:Op} {env:List V} {H:Hp} {F:V→Hp→Res}:opW cx calm ord op env H F=(opV cx calm ord op env H).bind fun p=>F p.1 p.2:=by
 cases op with
 | assign x=>
  unfold opW opV
  dsimp only
  cases x with
  | const c=>
   dsimp only [evO,onO,Option.map_some,Option.bind_some]
   cases ku c <;> rfl
  | _=>exact Gv fun v=>rfl
 | call c=>
  unfold opW opV
  dsimp only
  cases c.callee with
  | builtin b=>exact b9 fun a=>Uo
  | value f=>exact b9 fun f=>b9 fun a=>rfl
  | invoke _ _=>rfl
 | buildSlice t len parts=>
  unfold opW opV
  dsimp only
  refine b9 fun l => ?_
  cases calm <;> rfl
 | makeMap t r=>
  unfold opW opV
  dsimp only
  cases r <;> rfl
 | _=>
  unfold opW opV
  dsimp only
  first
  | rfl
  | exact b9 fun a=>b9 fun b=>Y3
  | exact b9 fun a=>b9 fun b=>b9 fun c=>Y3
  | exact Gv fun v=>rfl
  | exact b9 fun a=>rfl
  | exact b9 fun a=>Gv fun b=>rfl
  | exact b9 fun a=>b9 fun b=>rfl
  | exact b9 fun a=>b9 fun b=>b9 fun c=>rfl
  | exact b9 fun a=>b9 fun b=>b9 fun c=>b9 fun d=>rfl
inductive Md where
 | E (c:Code) (fs:List Fr) (jn:List Nat)
 | R (o:Out) (fs:List Fr) (jn:List Nat)
 | L (c:Code) (l:Nat) (fs:List Fr) (jn:List Nat)
 | G (c:Code) (j n0:Nat) (a:List Nat×List Nat) (fs:List Fr) (g:Bool) (kn:List (Nat×Nat)) (jn:List Nat)
def afu (cx:Cx) (K:Out→St→Res) (s:St):Md→Res
 | .E c fs _=>av cx K (.seq c::fs) .norm s
 | .R o fs _=>av cx K fs o s
 | .L c l fs _=>Ap cx K c l fs s
 | .G c j n0 a fs _ _ _=>fV cx c j n0 a (av cx K fs) s
def nq (i:Nat):Code→Bool
 | .exit j=>j==i
 | .seq a b=>nq i a||nq i b
 | .cond _ a b=>nq i a||nq i b
 | .rangeFunc _ _ a b=>nq i a||nq i b
 | .block _ a=>nq i a
 | .loop a=>nq i a
 | .scope a=>nq i a
 | _=>false
def np:Code→Bool
 | .seq a b=>np a&&np b
 | .cond _ a b=>np a||np b
 | .exit _=>false
 | .goto _=>false
 | .ret=>false
 | .loop _=>false
 | .block i a=>np a||nq i a
 | _=>true
def kA:Code→Nat
 | .region _ ops _=>ops.size
 | .seq a b=>kA a+kA b+1
 | .cond _ a b=>kA a+kA b+1
 | .rangeFunc _ _ a b=>kA a+kA b+1
 | .block _ a=>kA a
 | .scope a=>kA a
 | .loop _=>10
 | _=>0
def atJ (jn:List Nat) (n:Nat):Bool:=match jn with | []=>false | x::_=>x==n
def jnT (jn:List Nat) (n:Nat):List Nat:=bif atJ jn n then jn.tail else jn
def H4 (jn:List Nat):List Fr→Nat→Bool
 | [],n=>Nat.ble 3 n
 | .seq c::r,n=>bif atJ jn (r.length+1) then false else bif np c then H4 jn r (n+kA c) else Nat.ble 3 (n+kA c)
 | _::r,n=>bif atJ jn (r.length+1) then false else H4 jn r n
abbrev sxW (n0:Nat) (st:Bool) (op:Op) (env:List V) (x:Res):Res:=
 bb (st) ((match ky op with | none=>x | some y=>match evO env y with | some v=>stO n0 v x | none=>x)) (x)
def ab8 (d:Nat):List (Nat×Nat)→Option Nat
 | []=>none
 | (e,b)::r=>bif e==d then some b else ab8 d r
def SP (d:Nat):List (Nat×Nat)→List (Nat×Nat)
 | []=>[]
 | (e,b)::r=>bif e==d then SP d r else (e,b)::SP d r
def knR (d:Option Nat) (kn:List (Nat×Nat)):List (Nat×Nat):=match d with | none=>kn | some d=>SP d kn
def knS (d:Option Nat) (kn:List (Nat×Nat)):List (Nat×Nat):=match d with | none=>kn | some d=>(d,2)::kn
def wk (cx:Cx) (K:Out→St→Res):Nat→Md→St→Res
 | 0,m,s=>afu cx K s m
 | n+1,m,s=>match m with
  | .E c fs jn=>match c with
   | .skip=>wk cx K n (.R .norm fs jn) s
   | .region id ops draw=>bb (draw) ((bb (BI ops) (wk cx K n (.G (.region id ops true) 0 s.H.length ([],[]) fs false [] jn) s) (none))) (wk cx K n (.G (.region id ops false) 0 s.H.length ([],[]) fs false [] jn) s)
   | .seq a b=>wk cx K n (.E a (.seq b::fs) jn) s
   | .block id a=>wk cx K n (.E a (.block id::fs) jn) s
   | .scope a=>wk cx K n (.E a (.scope a::fs) jn) s
   | .cond v a b=>onO (evO s.env v) fun v=>
    bb (np a&&np b&&H4 jn fs 0) (cnd v (wk cx K n (.E a fs (fs.length::jn)) s) (wk cx K n (.E b fs (fs.length::jn)) s)) (cnd v (wk cx K n (.E a fs jn) s) (wk cx K n (.E b fs jn) s))
   | .exit id=>wk cx K n (.R (.exit id) fs jn) s
   | .goto l=>wk cx K n (.R (.goto l) fs jn) s
   | .ret=>wk cx K n (.R .ret fs jn) s
   | .label _=>wk cx K n (.R .norm fs jn) s
   | .loop a=>itX cx a s.H.length (av cx K fs) cx.n (tidy s.H.length (Jk (cx.M.named cx.fid) (iY a ([],[])) false) s)
   | c=>a9 cx c none (av cx K fs) s
  | .R o fs jn=>match o with
   | .norm=>bb (atJ jn fs.length) (av cx K fs .norm s) (match fs with
    | []=>K .norm s
    | .seq c::r=>wk cx K n (.E c r jn) s
    | .block _::r=>wk cx K n (.R .norm r jn) s
    | .scope _::r=>wk cx K n (.R .norm r jn) s
    | .scope2 _::r=>wk cx K n (.R .norm r jn) s)
   | .exit i=>match fs with
    | []=>K (.exit i) s
    | .seq _::r=>wk cx K n (.R (.exit i) r (jnT jn fs.length)) s
    | .block id::r=>bb (i==id) (wk cx K n (.R .norm r (jnT jn fs.length)) s) (wk cx K n (.R (.exit i) r (jnT jn fs.length)) s)
    | .scope _::r=>wk cx K n (.R (.exit i) r (jnT jn fs.length)) s
    | .scope2 _::r=>wk cx K n (.R (.exit i) r (jnT jn fs.length)) s
   | .goto l=>match fs with
    | []=>K (.goto l) s
    | .seq _::r=>wk cx K n (.R (.goto l) r (jnT jn fs.length)) s
    | .block _::r=>wk cx K n (.R (.goto l) r (jnT jn fs.length)) s
    | .scope a::r=>bb (bB l a) (wk cx K n (.L a l (.scope2 a::r) (jnT jn fs.length)) s) (wk cx K n (.R (.goto l) r (jnT jn fs.length)) s)
    | .scope2 a::r=>bb (bB l a) (none) (wk cx K n (.R (.goto l) r (jnT jn fs.length)) s)
   | o=>match fs with
    | []=>K o s
    | _::r=>wk cx K n (.R o r (jnT jn fs.length)) s
  | .L c l fs jn=>match c with
   | .seq a b=>bb (bB l a) (wk cx K n (.L a l (.seq b::fs) jn) s) (wk cx K n (.L b l fs jn) s)
   | .label l'=>bb (l'==l) (wk cx K n (.R .norm fs jn) s) (none)
   | c=>Ap cx K c l fs s
  | .G c j n0 a fs g kn jn=>match (lV c)[j]? with
   | none=>bb ((iL c).any) (apt a (wk cx K n (.R .norm fs jn) s)) (wk cx K n (.R .norm fs jn) s)
   | some (o,i)=>
    let run:=fun env g kn=>sxW n0 ((iL c).strict i) o.op env (opW cx ((iL c).calm i) ((iL c).ord i) o.op env s.H fun v h=>wk cx K n (.G c (j+1) n0 (Hr (iL c) i o.op env a) fs g (knR o.dst kn) jn) ⟨ml env o.dst v,h⟩)
    let skip:=fun env g kn=>wk cx K n (.G c (j+1) n0 a fs g (knS o.dst kn) jn) ⟨ml env o.dst uu,s.H⟩
    match o.guard with
    | none=>bb (g) (fV cx c j n0 a (av cx K fs) s) (run s.env g kn)
    | some (gj,want)=>match ((GK c)[gj]?).bind (·.dst) with
     | none=>none
     | some d=>match ab8 d kn with
      | some _=>match s.env[d]? with
       | some (.lit (.bool b))=>bb (b==want) (run (s.env.set d (.lit (.bool b))) g kn) (skip (s.env.set d (.lit (.bool b))) g kn)
       | some (.lit (.tuple _))=>skip s.env g kn
       | _=>none
      | none=>bb g (fV cx c j n0 a (av cx K fs) s)
       (onO s.env[d]? fun v=>bb want
        (gd v (run (s.env.set d (.lit (.bool true))) true ((d,1)::kn)) (skip (s.env.set d (.lit (.bool false))) true ((d,0)::kn)) (fV cx c (j+1) n0 a (av cx K fs) ⟨ml s.env o.dst uu,s.H⟩))
        (gd v (skip (s.env.set d (.lit (.bool true))) true ((d,1)::kn)) (run (s.env.set d (.lit (.bool false))) true ((d,0)::kn)) (fV cx c (j+1) n0 a (av cx K fs) ⟨ml s.env o.dst uu,s.H⟩)))
section
variable {cx:Cx} {K:Out→St→Res} {c:Code} {j n0:Nat} {a:List Nat×List Nat} {s:St} {r:Res}
theorem Mp (h:(lV c)[j]? = none):fV cx c j n0 a K s=if (iL c).any then apt a (K .norm s) else K .norm s:=by
 unfold fV
 rw [List.drop_eq_nil_iff.2 (List.getElem?_eq_none_iff.1 h)]
 rfl
theorem KW {o:Oper} {i:Nat} (h:(lV c)[j]? = some (o,i)):fV cx c j n0 a K s =
  (let run (env:List V):Res:=if dI n0 ((iL c).strict i) o.op env then (opV cx ((iL c).calm i) ((iL c).ord i) o.op env s.H).bind fun p=>fV cx c (j+1) n0 (Hr (iL c) i o.op env a) K ⟨ml env o.dst p.1,p.2⟩ else none
   let skip (env:List V):Res:=fV cx c (j+1) n0 a K ⟨ml env o.dst (.lit undef),s.H⟩
   match o.guard with
   | none=>run s.env
   | some (j,want)=>
    match ((GK c)[j]?).bind (·.dst) with
    | none=>none
    | some d=>
     match s.env[d]? with
     | some (.lit (.bool b))=>Gy b want d s.env run skip
     | some (.lit (.tuple _))=>skip s.env
     | _=>none):=by
 obtain ⟨hj,he⟩:=List.getElem?_eq_some_iff.1 h
 unfold fV
 rw [List.drop_eq_getElem_cons hj,he]
 rfl
theorem YU {st:Bool} {op:Op} {env:List V} {x:Res}:sxW n0 st op env x=if dI n0 st op env then x else none:=by
 unfold sxW dI mF
 cases st with
 | false=>rfl
 | true=>
  dsimp only [bb,if_true]
  cases ky op with
  | none=>rfl
  | some y=>
   have h:∀ q:Option V,(match q with | some v=>stO n0 v x | none=>x)=if (match (match q with | some v=>JY v | none=>none) with | some i=>decide (i<n0) | none=>true)=true then x else none:=by
    intro q
    cases q with
    | none=>rfl
    | some v=>rfl
   exact h _
end
theorem Jb (cx:Cx) (K:Out→St→Res):∀ (n:Nat) (m:Md) (s:St),wk cx K n m s=afu cx K s m
 | 0,_,_=>rfl
 | n+1,m,s=>by
  have ih:=Jb cx K n
  cases m with
  | E c fs jn=>
   cases c with
   | skip=>exact ih _ _
   | region id ops draw=>
    cases draw with
    | false=>exact (ih _ _).trans (go_reg0 rfl).symm
    | true=>
     show bb (BI ops) (wk cx K n _ s) none=_
     cases h:BI ops with
     | true=>exact (ih _ _).trans (go_reg1 h rfl).symm
     | false=>
      show none=a9 cx (.region id ops true) none (av cx K fs) s
      simp [a9,h]
   | seq a b=>exact (ih _ _).trans (go_seq rfl).symm
   | block id a=>exact (ih _ _).trans (go_block rfl).symm
   | scope a=>exact (ih _ _).trans (go_scope rfl).symm
   | cond v a b=>
    show onO (evO s.env v) _=_
    cases h:evO s.env v with
    | none=>
     show none=a9 cx (.cond v a b) none (av cx K fs) s
     simp only [a9,h]
    | some v=>
     refine Eq.trans ?_ (go_cond h rfl rfl).symm
     show bb _ _ _=_
     cases (np a&&np b&&H4 jn fs 0) <;> (simp only [bb,ih];rfl)
   | exit id=>exact ih _ _
   | goto l=>exact ih _ _
   | ret=>exact ih _ _
   | label l=>exact ih _ _
   | loop a=>rfl
   | _=>rfl
  | R o fs jn=>
   cases o with
   | norm=>
    show bb _ _ _=_
    cases atJ jn fs.length with
    | true=>rfl
    | false=>cases fs with
     | nil=>rfl
     | cons f r=>cases f <;> exact ih _ _
   | exit i=>
    cases fs with
    | nil=>rfl
    | cons f r=>cases f with
     | block id=>
      show bb (i==id) _ _=if i=id then _ else _
      by_cases h:i=id
      ·subst h
       rw [beq_self_eq_true,if_pos rfl]
       exact ih _ _
      ·rw [beq_false_of_ne h,if_neg h]
       exact ih _ _
     | _=>exact ih _ _
   | goto l=>
    cases fs with
    | nil=>rfl
    | cons f r=>cases f with
     | scope a=>
      show bb (bB l a) _ _=_
      cases h:bB l a with
      | true=>exact (ih _ _).trans (FS h rfl).symm
      | false=>exact (ih _ _).trans (C4 h rfl).symm
     | scope2 a=>
      show bb (bB l a) _ _=av cx K (.scope2 a::r) (.goto l) s
      cases h:bB l a with
      | true=>simp only [av,h,if_true]
      | false=>exact (ih _ _).trans (CC h rfl).symm
     | _=>exact ih _ _
   | ret=>
    cases fs with
    | nil=>rfl
    | cons f r=>cases f <;> exact ih _ _
  | L c l fs jn=>
   cases c with
   | seq a b=>
    show bb (bB l a) _ _=_
    cases h:bB l a with
    | true=>exact (ih _ _).trans (We h rfl).symm
    | false=>exact (ih _ _).trans (PU h rfl).symm
   | label l'=>
    show bb (l'==l) _ _=a9 cx (.label l') (some l) (av cx K fs) s
    cases h:l'==l with
    | true=>simp only [a9,h,if_true];exact ih _ _
    | false=>simp only [a9,h];rfl
   | _=>rfl
  | G c j n0 a fs g kn jn=>
   show (match (lV c)[j]? with | none=>_ | some (o,i)=>_)=fV cx c j n0 a (av cx K fs) s
   cases h:(lV c)[j]? with
   | none=>
    rw [Mp h]
    show bb _ _ _=_
    cases (iL c).any <;> (simp only [bb,ih];rfl)
   | some p=>
    obtain ⟨o,i⟩:=p
    have hrun:∀ env g kn,sxW n0 ((iL c).strict i) o.op env (opW cx ((iL c).calm i) ((iL c).ord i) o.op env s.H fun v h=>wk cx K n (.G c (j+1) n0 (Hr (iL c) i o.op env a) fs g (knR o.dst kn) jn) ⟨ml env o.dst v,h⟩) =
      if dI n0 ((iL c).strict i) o.op env then (opV cx ((iL c).calm i) ((iL c).ord i) o.op env s.H).bind fun p=>fV cx c (j+1) n0 (Hr (iL c) i o.op env a) (av cx K fs) ⟨ml env o.dst p.1,p.2⟩ else none:=by
     intro env g kn
     rw [YU,WN]
     congr 1
     congr 1
     funext p
     exact ih _ _
    have hskip:∀ env g kn,wk cx K n (.G c (j+1) n0 a fs g (knS o.dst kn) jn) ⟨ml env o.dst uu,s.H⟩=fV cx c (j+1) n0 a (av cx K fs) ⟨ml env o.dst (.lit undef),s.H⟩:=fun env g kn=>ih _ _
    rw [KW h]
    dsimp only
    simp only [hrun,hskip]
    cases hg:o.guard with
    | none=>
     cases g with
     | true=>rfl
     | false=>rfl
    | some q=>
     obtain ⟨gj,want⟩:=q
     dsimp only
     cases hd:((GK c)[gj]?).bind (·.dst) with
     | none=>rfl
     | some d=>
      dsimp only
      cases hk:ab8 d kn with
      | some b=>
       dsimp only
       cases he:s.env[d]? with
       | none=>rfl
       | some v=>
        cases v with
        | lit x=>
         cases x with
         | bool t=>cases t <;> cases want <;> rfl
         | _=>rfl
        | _=>rfl
      | none=>
       cases g with
       | true=>rfl
       | false=>
        dsimp only [bb]
        cases he:s.env[d]? with
        | none=>rfl
        | some v=>
         cases v with
         | lit x=>
          cases x with
          | bool t=>cases t <;> cases want <;> rfl
          | tuple x=>cases want <;> rfl
          | _=>cases want <;> rfl
         | _=>cases want <;> rfl
section
variable {cx:Cx} {K:Out→St→Res} {c:Code} {j n0 n:Nat} {a:List Nat×List Nat} {s:St} {r:Res} {fs:List Fr} {o:Out}
theorem kG (h:wk cx K 999 (.G c j n0 a fs false [] []) s=r:=by kernel_rfl):fV cx c j n0 a (av cx K fs) s=r:=(Jb ..).symm.trans h
theorem kJ (jn:List Nat) (h:wk cx K 999 (.G c j n0 a fs false [] jn) s=r:=by kernel_rfl):fV cx c j n0 a (av cx K fs) s=r:=(Jb ..).symm.trans h
theorem kR (h:wk cx K 999 (.R o fs []) s=r:=by kernel_rfl):av cx K fs o s=r:=(Jb ..).symm.trans h
theorem kI (h:wk cx (dc cx c n0 K n) 999 (.E c [] []) s=r:=by kernel_rfl):itX cx c n0 K (n+1) s=r:=Pg ((Jb ..).symm.trans h)
theorem kB {fn:Func} {args:List V} {H:Hp} (h:wk cx (aD cx.P fn) 999 (.E (an fn) [] []) ⟨args++List.replicate (fn.ntmps - args.length) uu,H⟩=r:=by kernel_rfl) (hb:fn.body=some (an fn):=by rfl):ak cx fn args H=r:=M2 hb ((Jb ..).symm.trans h)
end
end Go.Ab
