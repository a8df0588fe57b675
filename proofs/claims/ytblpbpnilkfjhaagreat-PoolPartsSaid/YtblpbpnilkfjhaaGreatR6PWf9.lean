import Derived.Test.YtblpbpnilkfjhaaGreatR6PP
set_option linter.unusedVariables false
set_option linter.unusedSimpArgs false
namespace Go.Ab
open Go.WideShapes
structure PoolOk (p:PB):Prop where
 c:IY p.1
 t:Wt p.2.1
 m:Wm p.2.2.1
 w:∀ x ∈ p.2.2.2.1,H6 x
 s:∀ x ∈ p.2.2.2.2,Tg x
 wl:p.2.2.2.1.length≤9223372036854775807
 sl:p.2.2.2.2.length≤9223372036854775807
theorem uk {P:Program} {t e:TypeId} {α:Type} {enc:α→List V} {Q:α→Prop} {vs:List V} (ht:P.underlying t=some (.slice e)) (he:∀ r,Shape P e r→∃ a,r=enc a∧Q a) (h:Shape P t vs):∃ l:List α,vs=[.ro (l.map enc)]∧(∀ a ∈ l,Q a)∧l.length≤maxLen:=by
 obtain ⟨rows,rfl,hr,hm⟩:=gq ht h
 obtain ⟨l,rfl,hl⟩:=gk (enc:=enc) (Q:=Q) (fun r h=>he r (hr r h))
 exact ⟨l,rfl,hl,by simpa using hm⟩
theorem Gf {P:Program} {t:TypeId} {e0 e1 e2 e3 e4:Field} {vs:List V} (he:P.underlying t=some (.struct #[e0,e1,e2,e3,e4])) (p0:e0.offset=0) (p1:e1.offset=4) (p2:e2.offset=5) (p3:e3.offset=6) (p4:e4.offset=7)
  (c0:P.cellsOf e0.type=4) (c1:P.cellsOf e1.type=1) (c2:P.cellsOf e2.type=1) (c3:P.cellsOf e3.type=1) (c4:P.cellsOf e4.type=1) (ct:P.cellsOf t=8)
  (s0:∀ vs,Shape P e0.type vs→∃ x,vs=KN x∧IY x) (s1:∀ vs,Shape P e1.type vs→∃ l,vs=[Or l]∧Wt l) (s2:∀ vs,Shape P e2.type vs→∃ l,vs=[TC .u64 l]∧Wm l)
  (s3:∀ vs,Shape P e3.type vs→∃ l:List WB,vs=[.ro (l.map aY)]∧(∀ x ∈ l,H6 x)∧l.length≤maxLen) (s4:∀ vs,Shape P e4.type vs→∃ l:List SB,vs=[.ro (l.map cG)]∧(∀ x ∈ l,Tg x)∧l.length≤maxLen) (h:Shape P t vs):∃ x:PB,vs=J1 x∧PoolOk x:=by
 obtain ⟨a,b⟩:=dl he h
 have b0:=b 0 e0 rfl
 rw [p0,c0,List.drop_zero] at b0
 have b1:=b 1 e1 rfl
 rw [p1,c1] at b1
 have b2:=b 2 e2 rfl
 rw [p2,c2] at b2
 have b3:=b 3 e3 rfl
 rw [p3,c3] at b3
 have b4:=b 4 e4 rfl
 rw [p4,c4] at b4
 rw [ct] at a
 obtain ⟨c,z0,w0⟩:=s0 _ b0
 obtain ⟨l1,z1,w1⟩:=s1 _ b1
 obtain ⟨l2,z2,w2⟩:=s2 _ b2
 obtain ⟨l3,z3,w3,m3⟩:=s3 _ b3
 obtain ⟨l4,z4,w4,m4⟩:=s4 _ b4
 match vs,a with
 | [x0,x1,x2,x3,x4,x5,x6,x7],_=>
  simp at z0 z1 z2 z3 z4
  subst z1 z2 z3 z4
  refine ⟨(c,l1,l2,l3,l4),?_,w0,w1,w2,w3,w4,Rw m3,Rw m4⟩
  unfold KN at z0
  simp only [List.cons.injEq,and_true] at z0
  obtain ⟨y0,y1,y2,y3⟩:=z0
  subst y0 y1 y2 y3
  rfl
theorem En {f:FR} (h:uQ f):Wf f:=⟨xD h.2.2.2.1,xD h.2.2.2.2.1,xD h.2.2.2.2.2.1⟩
theorem PoolOk.good {p:PB} (h:PoolOk p) (ht:FwT p.2.1) (hw:∀ x ∈ p.2.2.2.1,x.2.1.length≤40) (hs:∀ x ∈ p.2.2.2.2,x.2.1.length≤60):Good 40 p:=
 ⟨ht,by have:=ht.len;omega,h.m,fun x hx=>⟨En (h.w x hx).2.2.2.1,hw x hx,(Zg (h.w x hx).2.2.2.2.1).2⟩,fun x hx=>⟨En (h.s x hx).2.2.2,by have:=hs x hx;omega⟩⟩
end Go.Ab
