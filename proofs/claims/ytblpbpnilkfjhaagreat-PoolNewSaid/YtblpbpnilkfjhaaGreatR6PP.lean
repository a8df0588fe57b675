import Derived.Test.YtblpbpnilkfjhaaGreatAbLibC
import Derived.Test.YtblpbpnilkfjhaaGreatR6GX
import Derived.WideShapes
import Derived.Test.YtblpbpnilkfjhaaGreatR6GY
import Derived.Test.YtblpbpnilkfjhaaGreatR6GZ
set_option linter.unusedVariables false
set_option linter.unusedSimpArgs false
set_option linter.unusedVariables false
namespace Go.Ab
def nJ (x:Int×List Int):Bool:=decide (x.1<0)||decide (20<x.1)
def rn:Nat→Tyt→List (Int×Int)
 | _,[]=>[]
 | i,x::r=>x.2.map (fun k=>(k,(i:Int)))++rn (i+1) r
def AR (n:Nat) (had:List Bool) (q:Int×Int):Bool:=decide (q.1≤q.2)||decide ((n:Int)≤q.1)||(had[q.1.toNat]?).getD true
abbrev TR (n:Nat) := { h:List Bool // h.length=n }
def iT (n:Nat) (had:TR n) (q:Int×Int):Bool×TR n:=
 if AR n had.1 q then (false,had) else (true,⟨had.1.set q.1.toNat true,by simp [had.2]⟩)
def Cq (n:Nat):TR n:=⟨List.replicate n false,by simp⟩
def Dm (t:Tyt):Bool:=decide (t.length≤30) && !(t.any nJ)&&(TT (iT t.length) (rn 0 t) (Cq t.length)).1
structure Wt (t:Tyt):Prop where
 len:t.length≤9223372036854775807
 kids:∀ x ∈ t,x.2.length≤9223372036854775807
def U5 (t:Tyt):Bool:=(t.take 41).all (fun x=>decide (x.2.length≤40))&&decide (t.length≤40)
theorem TP {t:Tyt} (h1:Dm t=true):t.length≤30:=by
 unfold Dm at h1
 simp only [Bool.and_eq_true,decide_eq_true_eq] at h1
 exact h1.1.1
theorem DT {α:Type} {l:List α} {F:Nat→Int→Option Int} (p:α→Bool)
  (h0:∀ n,F (n+1) (l.length:Int)=some (-1))
  (h1:∀ n (i:Nat) x,i<l.length→l[i]? = some x→F (n+1) (i:Int)=bif p x then some (i:Int) else F n ((i+1:Nat):Int))
  (n:Nat) (hn:l.length<n):F n 0=some (Cn p l 0):=by
 have key:∀ r i n,l.drop i=r→i≤l.length→r.length<n→F n (i:Int)=some (Cn p r i):=by
  intro r
  induction r with
  | nil=>
   intro i n hr hi hn
   obtain ⟨n,rfl⟩:=gJ hn
   have:i=l.length:=by have:=dX hr;omega
   subst this
   rw [h0]
   rfl
  | cons x r ih=>
   intro i n hr hi hn
   obtain ⟨n,rfl⟩:=gJ hn
   obtain ⟨a,b,c,d,e⟩:=dc hr
   rw [h1 n i x a b]
   simp only [Cn]
   cases p x with
   | true=>rfl
   | false=>exact ih (i+1) n c (by omega) (by simp only [List.length_cons] at hn;omega)
 have:=key l 0 n rfl (Nat.zero_le _) hn
 simpa using this
theorem YE (x y : Int) : (x != y) = !decide (x = y) := by by_cases h : x = y <;> simp [h]
theorem L1 (x y:Int):(x==y)=decide (x=y):=by by_cases h:x=y <;> simp [h]
theorem oj {α:Type} (l:List α):decide ((l.length:Int)<(l.length:Int))=false:=decide_eq_false (by omega)
theorem ltN {i n:Nat} (h:i<n):decide ((i:Int)<(n:Int))=true:=decide_eq_true (by omega)
theorem kP {z:Int} (h : -9223372036854775808≤z∧z≤9223372036854775807):IntKind.i64.wrap z=z:=JV h.1 h.2
end Go.Ab
set_option linter.unusedVariables false
namespace Go.Ab
open Go
abbrev CF:=Int×Int×Int×Int
abbrev FR:=Int×Int×Int×Int×Int×Int×Int
def ku (c:CF):Bool:=decide (1≤c.1∧c.1≤8∧(c.2.1=1∨c.2.1=2∨c.2.1=4∨c.2.1=8∨c.2.1=16)∧1≤c.2.2.1∧c.2.2.1≤16∧0≤c.2.2.2∧c.2.2.2≤4)
def C5 (c:CF) (w:Int):Int:=6+2*c.2.2.1+w*(3+c.2.1)
def eo (c:CF):Int:=if ku c=true then C5 c c.1 else 0
def kx (c:CF) (w:Int):Int:=if ku c=true∧0≤w∧w<c.1 then C5 c w+2 else -1
def bX (m:List Int) (i:Int):Int:=if 0≤i then (m[i.toNat]?).getD 0 else 0
def ms (m:List Int) (i v:Int):List Int:=if 0≤i then m.set i.toNat v else m
def YP (m:List Int) (i old new:Int):List Int×Bool:=if 0≤i∧i<m.length∧bX m i=old then (ms m i new,true) else (m,false)
def mkB (e:Int):Int:=e%65536
def Kj (x w:Int):Bool:=decide (x/2 ^ w.toNat%2=1)
def S0 (f:FR):Bool:=f.2.2.2.2.2.2 !=0
def Cp (f:FR):Bool:=decide (f.1=5∧f.2.2.2.2.2.2=0∧f.2.1=3)
structure Wm (m:List Int):Prop where
 len:m.length≤9223372036854775807
 num:∀ x ∈ m,0≤x∧x≤18446744073709551615
theorem Yb {z:Int} (h0:0≤z) (h1:z≤18446744073709551615):IntKind.u64.wrap z=z:=by
 simp [IntKind.wrap,IntKind.bits,IntKind.signed]
 omega
theorem adR {a b:Nat} (ha:a<18446744073709551616) (hb:b<18446744073709551616):Ah .u64 (a:Int) (b:Int)=((a &&& b:Nat):Int):=by
 unfold Ah
 have h:(BitVec.ofInt IntKind.u64.bits (a:Int) &&& BitVec.ofInt IntKind.u64.bits (b:Int)).toNat=a &&& b:=by
  rw [BitVec.toNat_and]
  have e:IntKind.u64.bits=64:=rfl
  rw [e]
  simp only [BitVec.ofInt_natCast,BitVec.toNat_ofNat]
  rw [Nat.mod_eq_of_lt (by omega),Nat.mod_eq_of_lt (by omega)]
 rw [h]
 have:a &&& b≤a:=Nat.and_le_left
 exact Yb (by omega) (by omega)
end Go.Ab
set_option maxRecDepth 100000
set_option linter.unusedVariables false
namespace Go.Ab
theorem cw {c:CF} (h:ku c=true):1≤c.1∧c.1≤8∧(c.2.1=1∨c.2.1=2∨c.2.1=4∨c.2.1=8∨c.2.1=16)∧1≤c.2.2.1∧c.2.2.1≤16∧0≤c.2.2.2∧c.2.2.2≤4:=by
 unfold ku at h
 exact of_decide_eq_true h
theorem fK {c:CF} (h:ku c=true) {w:Int} (h0:0≤w) (h1:w≤8):8≤C5 c w∧C5 c w≤190∧w*(3+c.2.1)≤152∧0≤w*(3+c.2.1):=by
 obtain ⟨_,_,hD,_,_,_,_⟩:=cw h
 have a:0≤w*(3+c.2.1):=Int.mul_nonneg h0 (by omega)
 have b:w*(3+c.2.1)≤8*19:=Int.mul_le_mul h1 (by omega) (by omega) (by omega)
 unfold C5
 omega
theorem Xo (a b c:Int):dH a b c=some (decide (b≤a∧a≤c)):=by
 unfold dH
 by_cases h:b≤a
 ·simp [h]
 ·simp [h]
theorem ZG {D:Int} (h1:1≤D) (h2:D≤16):(Ah IntKind.i64 D (IntKind.i64.wrap (D - 1))==0)=decide (D=1∨D=2∨D=4∨D=8∨D=16):=by
 have:D=1∨D=2∨D=3∨D=4∨D=5∨D=6∨D=7∨D=8∨D=9∨D=10∨D=11∨D=12∨D=13∨D=14∨D=15∨D=16:=by omega
 rcases this with rfl | rfl | rfl | rfl | rfl | rfl | rfl | rfl | rfl | rfl | rfl | rfl | rfl | rfl | rfl | rfl <;> decide +kernel
theorem gU (c:CF):bK c=some (ku c):=by
 obtain ⟨W,D,I,S⟩:=c
 unfold bK ku
 simp only [Xo,ar]
 by_cases h1:1≤W∧W≤8
 ·rw [decide_eq_true h1,cond_true]
  by_cases h2:1≤D∧D≤16
  ·rw [decide_eq_true h2,cond_true,ZG h2.1 h2.2]
   by_cases h3:D=1∨D=2∨D=4∨D=8∨D=16
   ·rw [decide_eq_true h3,cond_true]
    by_cases h4:1≤I∧I≤16
    ·rw [decide_eq_true h4,cond_true]
     congr 1
     apply decide_eq_decide.2
     omega
    ·rw [decide_eq_false h4,cond_false]
     symm
     congr 1
     apply decide_eq_false
     omega
   ·rw [decide_eq_false h3,cond_false]
    symm
    congr 1
    apply decide_eq_false
    omega
  ·rw [decide_eq_false h2,cond_false]
   symm
   congr 1
   apply decide_eq_false
   omega
 ·rw [decide_eq_false h1,cond_false]
  symm
  congr 1
  apply decide_eq_false
  omega
theorem BE {c:CF} (h:ku c=true) {w:Int} (h0:0≤w) (h1:w≤8):dZ c w=some (C5 c w):=by
 have ht:=fK h h0 h1
 have hm:=cw h
 obtain ⟨W,D,I,S⟩:=c
 simp only [C5] at ht hm ⊢
 unfold dZ
 simp only
 rw [kP (z:=2*I) (by omega),kP (z:=6+2*I) (by omega),kP (z:=3+D) (by omega),kP (z:=w*(3+D)) (by omega),kP (by omega)]
theorem EF (c:CF):cO c=some (eo c):=by
 unfold cO eo
 try simp only [Prod.eta]
 rw [gU,ar]
 cases h:ku c with
 | false=>rfl
 | true=>
  have hm:=cw h
  rw [Bool.not_true,cond_false,if_pos rfl,BE h (by omega) (by omega),ar]
theorem Vk (f:FR):aE f=some (S0 f):=rfl
theorem UH (c:CF) (w:Int):eh c w=some (kx c w):=by
 unfold eh kx
 try simp only [Prod.eta]
 rw [gU,ar]
 cases h:ku c with
 | false=>simp
 | true=>
  have hm:=cw h
  rw [Bool.not_true,cond_false,kP (by omega),Xo,ar]
  by_cases h1:0≤w∧w≤c.1 - 1
  ·have ht:=fK h h1.1 (by omega)
   rw [decide_eq_true h1,Bool.not_true,cond_false,BE h (by omega) (by omega),ar,kP (by omega),if_pos ⟨rfl,by omega,by omega⟩]
  ·rw [decide_eq_false h1,Bool.not_false,cond_true,if_neg (by omega)]
theorem adK (m:List Int) (i:Int):fC m i=some (decide (0≤i∧i<m.length)):=by
 unfold fC
 by_cases h:0≤i
 ·simp [h]
 ·simp [h]
theorem Px {m:List Int} {i:Int} (h:0≤i∧i<m.length):idx m i=some (bX m i)∧m[i.toNat]? = some (bX m i):=by
 have h2:i.toNat<m.length:=by omega
 rw [idx,if_pos h.1,bX,if_pos h.1,List.getElem?_eq_getElem h2]
 exact ⟨rfl,rfl⟩
theorem MG {m:List Int} {i:Int} (h:¬ (0≤i∧i<m.length)):bX m i=0:=by
 unfold bX
 split
 ·rw [List.getElem?_eq_none (by omega)]
  rfl
 ·rfl
theorem rA {m:List Int} {i v:Int}:(ms m i v).length=m.length:=by
 unfold ms
 split <;> simp
theorem Wm.set {m:List Int} (h:Wm m) (i:Int) {v:Int} (h0:0≤v) (h1:v≤18446744073709551615):Wm (ms m i v):=by
 refine ⟨by rw [rA];exact h.len,fun x hx => ?_⟩
 unfold ms at hx
 split at hx
 ·rcases List.mem_or_eq_of_mem_set hx with hx | rfl
  ·exact h.num x hx
  ·exact ⟨h0,h1⟩
 ·exact h.num x hx
theorem Wm.cas {m:List Int} (h:Wm m) (i o:Int) {v:Int} (h0:0≤v) (h1:v≤18446744073709551615):Wm (YP m i o v).1:=by
 unfold YP
 split
 ·exact h.set i h0 h1
 ·exact h
theorem pm (m:List Int) (i:Int):aD m i=some (bX m i):=by
 unfold aD
 rw [adK,ar]
 by_cases h:0≤i∧i<m.length
 ·rw [decide_eq_true h,Bool.not_true,cond_false,(Px h).1,ar]
 ·rw [decide_eq_false h,Bool.not_false,cond_true,MG h]
theorem uT {α:Type} {b:Nat} {l:List α} (h:l.length*b≤70368744177664):aQ b l=some l:=by
 unfold aQ
 have:Nat.ble (l.length*b) 70368744177664=true:=Nat.ble_eq_true_of_le h
 rw [this,fe]
section
variable {m:List Int} (hl:m.length≤1000)
include hl
end
def Wf (f:FR):Prop:=(0≤f.2.2.2.1∧f.2.2.2.1≤18446744073709551615)∧(0≤f.2.2.2.2.1∧f.2.2.2.2.1≤18446744073709551615)∧(0≤f.2.2.2.2.2.1∧f.2.2.2.2.2.1≤18446744073709551615)
end Go.Ab
set_option linter.unusedVariables false
namespace Go.Ab
structure OkB (c:CF) (m:List Int) (w:Int):Prop where
 may:ku c=true
 len:(m.length:Int)=eo c
 low:0≤w
 high:w<c.1
theorem OkB.size {c:CF} {m:List Int} {w:Int} (h:OkB c m w):(m.length:Int)=C5 c c.1∧12≤m.length∧m.length≤190:=by
 have hm:=cw h.may
 have ht:=fK h.may (w:=c.1) (by omega) (by omega)
 have hl:=h.len
 rw [eo,if_pos h.may] at hl
 obtain ⟨W,D,I,S⟩:=c
 simp only [C5] at *
 have:1*(3+D)≤W*(3+D):=Int.mul_le_mul_of_nonneg_right (by omega) (by omega)
 omega
theorem OkB.store {c:CF} {m:List Int} {w:Int} (h:OkB c m w) (i v:Int):OkB c (ms m i v) w:=⟨h.may,by rw [rA];exact h.len,h.low,h.high⟩
section
variable {c:CF} {m:List Int} {w a3 a4 a5:Int} (h:OkB c m w)
include h
end
theorem wf0 {op pc w:Int} {r:Int}:Wf (op,pc,w,0,0,0,r):=by simp [Wf]
end Go.Ab
set_option linter.unusedVariables false
namespace Go.Ab
def MA (f:FR) (w:Int):Bool := !(S0 f)&&decide (f.2.1=2∧0≤w∧w<16)&&(decide (f.1=6∧f.2.2.2.2.2.1=w)||(decide (f.1=7)&&Kj f.2.2.2.2.2.1 w))
end Go.Ab
set_option linter.unusedVariables false
namespace Go.Ab
end Go.Ab
namespace Go.Ab
open Go.WideShapes
theorem p8:maxLen≤9223372036854775807:=by decide
theorem ZO {l:Tyt} (hm:l.length≤maxLen) (h:∀ x ∈ l,i64 x.1∧(∀ n ∈ x.2,i64 n)∧x.2.length≤maxLen):Wt l:=
 ⟨Nat.le_trans hm p8,fun x hx=>Nat.le_trans (h x hx).2.2 p8⟩
theorem Xv {α:Type} {l:List α} (hm:l.length≤maxLen):l.length≤9223372036854775807:=Nat.le_trans hm p8
theorem GW {P:Program} {w:World} {r:Reach} {base:Nat} {t:TypeId} {v:Value} {fs:Array Field} (ht:P.underlying t=some (.struct fs)) (h:Value.okWide P w r base t v):∃ cs,v = .agg cs:=by
 simp only [Value.okWide,ht] at h
 cases v <;> simp_all
theorem Cells.agg {w:World} {cs:Array Value} {vs:List V} (c:Cells w (Value.agg cs).cells.toList vs):RelV (Nr w) [] (.agg vs) (.agg cs):=by
 have hl:vs.length=cs.toList.length:=c.len
 refine .agg vs cs (by simpa using hl.symm) c.ones fun i x hx => ?_
 have hi:i<vs.length:=(List.getElem?_eq_some_iff.1 hx).1
 have hi2:i<cs.size:=by rw [hl] at hi;simpa using hi
 have h1:cs.toList[i]? = some cs[i]:=by simp [hi2]
 have:=c.rel i x cs[i] hx h1
 simpa [Array.getD,hi2] using this
end Go.Ab
namespace Go.Ab
open Go.WideShapes
def u64 (n:Int):Prop:=(Lit.int .u64 n).wf=true
def OT (c:Int×Int×Int×Int):Prop:=i64 c.1∧i64 c.2.1∧i64 c.2.2.1∧i64 c.2.2.2
theorem Gg {P:Program} {t ti:TypeId} {f0 f1 f2 f3:Field} {vs:List V} (he:P.underlying t=some (.struct #[f0,f1,f2,f3])) (h0:f0.type=ti) (h1:f1.type=ti) (h2:f2.type=ti) (h3:f3.type=ti) (o0:f0.offset=0) (o1:f1.offset=1) (o2:f2.offset=2) (o3:f3.offset=3) (hi:P.underlying ti=some (.int .i64)) (ci:P.cellsOf ti=1) (ce:P.cellsOf t=4) (h:Shape P t vs) :
  ∃ x:Int×Int×Int×Int,vs=JO x∧OT x:=by
 obtain ⟨a,b⟩:=oa he h
 have s0:=b 0 f0 rfl
 rw [h0,o0,ci,List.drop_zero] at s0
 have s1:=b 1 f1 rfl
 rw [h1,o1,ci] at s1
 have s2:=b 2 f2 rfl
 rw [h2,o2,ci] at s2
 have s3:=b 3 f3 rfl
 rw [h3,o3,ci] at s3
 rw [ce] at a
 obtain ⟨n0,e0,w0⟩:=ij hi s0
 obtain ⟨n1,e1,w1⟩:=ij hi s1
 obtain ⟨n2,e2,w2⟩:=ij hi s2
 obtain ⟨n3,e3,w3⟩:=ij hi s3
 match vs,a with
 | [x0,x1,x2,x3],_=>
  simp at e0 e1 e2 e3
  subst e0 e1 e2 e3
  exact ⟨(n0,n1,n2,n3),rfl,w0,w1,w2,w3⟩
theorem Dk {P:Program} {t s i:TypeId} {vs:List V} (ht:P.underlying t=some (.slice s)) (hs:P.underlying s=some (.slice i)) (hi:P.underlying i=some (.int .i64)) (h:Shape P t vs) :
  ∃ l:List (List Int),vs=[.ro (l.map cX)]∧(∀ x ∈ l,(∀ n ∈ x,i64 n)∧x.length≤maxLen)∧l.length≤maxLen:=by
 obtain ⟨rows,rfl,hr,hm⟩:=mo ht h
 obtain ⟨l,rfl,hl⟩:=lg (enc:=cX) (Q:=fun x=>(∀ n ∈ x,i64 n)∧x.length≤maxLen) (rows:=rows) (fun r hx=>by
  obtain ⟨l,e,w,m⟩:=ub hs hi (hr r hx)
  exact ⟨l,e,w,m⟩)
 exact ⟨l,rfl,hl,by simpa using hm⟩
end Go.Ab
namespace Go.Ab
open Go.WideShapes
end Go.Ab
set_option linter.unusedVariables false
namespace Go.Ab
end Go.Ab
set_option linter.unusedVariables false
namespace Go.Ab
def Z0 (c:CF) (x:Int):Int:=if ku c=true then 6+x%c.2.2.1 else -1
def abC (c:CF) (x:Int):Int:=if ku c=true then 6+c.2.2.1+x%c.2.2.1 else -1
def GX (a b:Int):Int:=IntKind.i64.wrap (IntKind.u64.wrap (a - b))
abbrev SB:=Int×List Int×FR
def Nn:FR:=(0,0,0,0,0,0,0)
def One (m m':List Int):Prop:=∃ i v,m'=ms m i v
theorem One.same (m:List Int):One m m:=⟨-1,0,by unfold ms;rw [if_neg (by decide)]⟩
theorem One.store (m:List Int) (i v:Int):One m (ms m i v):=⟨i,v,rfl⟩
theorem One.cas (m:List Int) (i o v:Int):One m (YP m i o v).1:=by
 unfold YP
 split
 ·exact One.store m i v
 ·exact One.same m
theorem One.len {m m':List Int} (h:One m m'):m'.length=m.length:=by
 obtain ⟨i,v,rfl⟩:=h
 exact rA
end Go.Ab
set_option linter.unusedVariables false
namespace Go.Ab
structure InvA (c:CF) (a:Nat) (m:List Int):Prop where
 wm:Wm m
 may:ku c=true
 len:(m.length:Int)=eo c
 l0:bX m 0=a
 l1:bX m 1=0
 mask:mkB (bX m 2)=0
 l3:bX m 3=0
 l5:bX m 5=a
 sq:∀ j:Nat,(j:Int)<c.2.2.1→bX m (6+j)=if j<a then 1 else 0
 le:(a:Int)≤c.2.2.1
section
variable {c:CF} {t:Tyt} {m:List Int} {l:List Int} {F:FR}
end
section
variable {c:CF} {m:List Int} {w v X Y:Int} (hmay:ku c=true) (hlen:(m.length:Int)=eo c)
include hmay hlen
end
end Go.Ab
set_option linter.unusedVariables false
namespace Go.Ab
structure May (t:Tyt):Prop where
 len:t.length≤30
 work:∀ x ∈ t,0≤x.1∧x.1≤20
 kids:∀ q ∈ rn 0 t,0≤q.2∧q.2<q.1∧q.1<t.length
 once:((rn 0 t).map (·.1)).Nodup
end Go.Ab
set_option maxRecDepth 100000
set_option linter.unusedVariables false
namespace Go.Ab
theorem WN (x:Int×List Int):eu x=some (nJ x):=by
 unfold eu nJ
 cases decide (x.1<0) <;> rfl
section
variable (k:Nat) (hk:9223372036854775808≤k)
include hk
theorem Rk (t:Tyt) (ht:Wt t):cT k t=some (U5 t):=by
 have hlen:=ht.len
 have key:∀ r i n,t.drop i=r→i≤t.length→r.length<n→br k t n (i:Int)=some ((r.take (41 - i)).all (fun x=>decide (x.2.length≤40))&&decide (t.length≤40)):=by
  intro r
  induction r with
  | nil=>
   intro i n hr hi hn
   obtain ⟨n,rfl⟩:=gJ hn
   have:i=t.length:=by have:=dX hr;omega
   subst this
   rw [br,oj,cond_false,OR]
   simp
  | cons x r ih=>
   intro i n hr hi hn
   obtain ⟨n,rfl⟩:=gJ hn
   obtain ⟨a,b,c,d,e⟩:=dc hr
   rw [br,ltN a,cond_true]
   by_cases h:i≤40
   ·rw [leT (show (i:Int)≤40 by omega),cond_true,fj b,ar]
    have e1:41 - i=(41 - (i+1))+1:=by omega
    rw [e1,List.take_succ_cons,List.all_cons]
    by_cases h2:x.2.length≤40
    ·rw [ltF (show ((x.2.length:Nat):Int)≤40 by omega),cond_false,fL (by omega),ih (i+1) n c (by omega) (by simp only [List.length_cons] at hn;omega),decide_eq_true h2,Bool.true_and]
    ·rw [ltT (show (40:Int)<(x.2.length:Nat) by omega),cond_true,decide_eq_false h2]
     rfl
   ·rw [leF (show (40:Int)<i by omega),cond_false,OR]
    have e1:41 - i=0:=by omega
    rw [e1]
    simp
 have:=key t 0 k rfl (Nat.zero_le _) (by omega)
 rw [cT]
 simpa [U5] using this
theorem Tb (t:Tyt) (ht:Wt t):aJ k t=some (t.any nJ):=by
 have hlen:=ht.len
 rw [aJ,aY]
 rw [DT (F:=fun n i=>aC (k+8) t n i) (l:=t) nJ ?_ ?_ _ (by omega)]
 ·rw [ar,lW]
 ·intro n
  simp only [aC,oj,cond_false]
 ·intro n i x hi hx
  simp only [aC,ltN hi,cond_true,fj hx,ar,WN,Prod.eta]
  rw [fL (by omega)]
theorem JF (t:Tyt) (ht:Wt t):cF k t=some (Dm t):=by
 have hlen:=ht.len
 rw [cF,Tb k hk t ht,ar]
 unfold Dm
 by_cases h1:t.length≤30
 ·rw [aea h1,cond_false,decide_eq_true h1]
  cases h2:t.any nJ with
  | true=>rfl
  | false=>
   have h3:decide ((0:Int)≤(t.length:Int)∧(t.length:Int)≤9223372036854775807∧(t.length:Int)*1≤70368744177664)=true:=by simp;omega
   rw [h3,cond_false,cond_true]
   -- one task's kids
   have inner:∀ (x:Int×List Int) (hx:x ∈ t) (i:Nat) (hi:i<t.length) (o:Int→List Bool→Option Bool) (R:List (Int×Int)) (n0:Nat)
     (ho:∀ had:TR t.length,o ((i+1:Nat):Int) had.1=some (TT (iT t.length) R had).1),
     ∀ r j n (had:TR t.length),x.2.drop j=r→r.length<n →
      cI k t o n x.2 (x.2.length:Int) (j:Int) had.1 (i:Int)=some (TT (iT t.length) (r.map (fun q=>(q,(i:Int)))++R) had).1:=by
    intro x hx i hi o R n0 ho r
    have hxl:=ht.kids x hx
    induction r with
    | nil=>
     intro j n had hr hn
     obtain ⟨n,rfl⟩:=gJ hn
     have hj:=dX hr
     rw [cI,ltF (by omega),cond_false,fL (by omega),ho]
     rfl
    | cons q r ih=>
     intro j n had hr hn
     obtain ⟨n,rfl⟩:=gJ hn
     obtain ⟨a,b,c,d,e⟩:=dc hr
     have hb:=had.2
     rw [cI,ltN a,cond_true,fj b,ar,List.map_cons,List.cons_append,TT]
     by_cases h1:q≤(i:Int)
     ·rw [leT h1,cond_true]
      simp [iT,AR,leT h1]
     ·rw [leF (show (i:Int)<q by omega),cond_false]
      by_cases h2:(t.length:Int)≤q
      ·rw [leT h2,cond_true]
       simp [iT,AR,leT h2]
      ·rw [leF (show q<(t.length:Int) by omega),cond_false]
       have h5:decide ((0:Int)≤q∧q.toNat<t.length)=true:=by simp;omega
       have h3:q.toNat<had.1.length:=by rw [hb];omega
       have h4:had.1[q.toNat]? = some had.1[q.toNat]:=List.getElem?_eq_getElem h3
       rw [h5,cond_true,h4,ar,cond_true,ar,fL (by omega)]
       cases hh:had.1[q.toNat] with
       | true=>simp [iT,AR,leF (show (i:Int)<q by omega),leF (show q<(t.length:Int) by omega),h4,hh]
       | false=>
        rw [cond_false]
        have e1:iT t.length had (q,(i:Int))=(true,⟨had.1.set q.toNat true,by simp [had.2]⟩):=by
         simp [iT,AR,leF (show (i:Int)<q by omega),leF (show q<(t.length:Int) by omega),h4,hh]
        rw [e1]
        simp only [if_true]
        exact ih (j+1) n ⟨had.1.set q.toNat true,by simp [had.2]⟩ c (by simp only [List.length_cons] at hn;omega)
   have outer:∀ r i n (had:TR t.length),t.drop i=r→i≤t.length→r.length<n→bP k t n (i:Int) had.1=some (TT (iT t.length) (rn i r) had).1:=by
    intro r
    induction r with
    | nil=>
     intro i n had hr hi hn
     obtain ⟨n,rfl⟩:=gJ hn
     have:=dX hr
     rw [bP,ltF (by omega),cond_false]
     rfl
    | cons x r ih=>
     intro i n had hr hi hn
     obtain ⟨n,rfl⟩:=gJ hn
     obtain ⟨a,b,c,d,e⟩:=dc hr
     have hxl:=ht.kids x d
     rw [bP,ltN a,cond_true,fj b,ar,rn]
     have:=inner x d i a (fun s47 s56=>bP k t n s47 s56) (rn (i+1) r) n (fun had=>ih (i+1) n had c (by omega) (by simp only [List.length_cons] at hn;omega)) x.2 0 (k+17) had rfl (by omega)
     simpa using this
   have:=outer t 0 (k+17) (Cq t.length) rfl (Nat.zero_le _) (by omega)
   simpa [Cq] using this
 ·rw [adY (by omega),cond_true,decide_eq_false h1]
  rfl
end
end Go.Ab
set_option linter.unusedVariables false
namespace Go.Ab
theorem Se (z:Int):IntKind.u64.wrap z=z%18446744073709551616:=by simp [IntKind.wrap,IntKind.bits,IntKind.signed]
theorem Ur (a b:Int):dE a b=some (GX a b):=rfl
theorem KF {c:CF} (h:ku c=true):12≤eo c∧eo c≤190:=by
 have hm:=cw h
 have:=fK h (w:=c.1) (by omega) (by omega)
 unfold eo
 rw [if_pos h]
 have e:C5 c c.1=6+2*c.2.2.1+c.1*(3+c.2.1):=rfl
 have h3:1*(3+c.2.1)≤c.1*(3+c.2.1):=Int.mul_le_mul_of_nonneg_right (by omega) (by omega)
 omega
end Go.Ab
set_option linter.unusedVariables false
namespace Go.Ab
def onW (c:CF) (w x:Int):Int:=if ku c=true∧0≤w∧w<c.1 then C5 c w+x else -1
def OA (c:CF) (w:Int):Int:=onW c w 0
def RN (c:CF) (w:Int):Int:=onW c w 1
def Hn (c:CF) (w x:Int):Int:=onW c w (3+Ah .u64 x (c.2.1 - 1))
theorem Dq {x D:Int} (h0:0≤x) (h1:x≤18446744073709551615) (hD:1≤D) (hE:D≤16):0≤Ah .u64 x (D - 1)∧Ah .u64 x (D - 1)≤D - 1:=by
 obtain ⟨a,rfl⟩:=Int.eq_ofNat_of_zero_le h0
 obtain ⟨b,hb⟩:∃ b:Nat,D - 1=(b:Int):=⟨(D - 1).toNat,by omega⟩
 rw [hb,adR (by omega) (by omega)]
 have:=Nat.and_le_right (n:=a) (m:=b)
 omega
theorem YW (c:CF) (w:Int):eV c w=some (OA c w):=by
 unfold eV OA onW
 try simp only [Prod.eta]
 rw [gU,ar]
 cases h:ku c with
 | false=>simp
 | true=>
  have hm:=cw h
  rw [Bool.not_true,cond_false,kP (by omega),Xo,ar]
  by_cases h1:0≤w∧w≤c.1 - 1
  ·have ht:=fK h h1.1 (by omega)
   rw [decide_eq_true h1,Bool.not_true,cond_false,BE h (by omega) (by omega),ar,if_pos ⟨rfl,by omega,by omega⟩,Int.add_zero]
  ·rw [decide_eq_false h1,Bool.not_false,cond_true,if_neg (by omega)]
theorem ZQ (c:CF) (w:Int):cC c w=some (RN c w):=by
 unfold cC RN onW
 try simp only [Prod.eta]
 rw [gU,ar]
 cases h:ku c with
 | false=>simp
 | true=>
  have hm:=cw h
  rw [Bool.not_true,cond_false,kP (by omega),Xo,ar]
  by_cases h1:0≤w∧w≤c.1 - 1
  ·have ht:=fK h h1.1 (by omega)
   rw [decide_eq_true h1,Bool.not_true,cond_false,BE h (by omega) (by omega),ar,kP (by omega),if_pos ⟨rfl,by omega,by omega⟩]
  ·rw [decide_eq_false h1,Bool.not_false,cond_true,if_neg (by omega)]
theorem VH (c:CF) (w:Int) {x:Int} (h0:0≤x) (hx:x≤18446744073709551615):eR c w x=some (Hn c w x):=by
 unfold eR Hn onW
 try simp only [Prod.eta]
 rw [gU,ar]
 cases h:ku c with
 | false=>simp
 | true=>
  have hm:=cw h
  rw [Bool.not_true,cond_false,kP (z:=c.1 - 1) (by omega),Xo,ar]
  by_cases h1:0≤w∧w≤c.1 - 1
  ·have ht:=fK h h1.1 (by omega)
   have ha:=Dq h0 hx (show 1≤c.2.1 by omega) (by omega)
   rw [decide_eq_true h1,Bool.not_true,cond_false,BE h (by omega) (by omega),ar,if_pos ⟨rfl,by omega,by omega⟩,kP (z:=c.2.1 - 1) (by omega),Yb (z:=c.2.1 - 1) (by omega) (by omega),kP (z:=Ah .u64 x (c.2.1 - 1)) (by omega),kP (z:=C5 c w+3) (by omega),kP (by omega),Int.add_assoc]
  ·rw [decide_eq_false h1,Bool.not_false,cond_true,if_neg (by omega)]
section
variable (k:Nat) (c:CF) (m:List Int) (a2 a3 a4 a5:Int) (n:Nat) {x:List Int} (p q:Int)
end
section
variable (c:CF) {m:List Int} (hm:Wm m) (hl:m.length≤1000) {f:FR} (hf:Wf f)
include hm hl hf
end
end Go.Ab
set_option maxRecDepth 100000
set_option linter.unusedVariables false
namespace Go.Ab
structure FwT (t:Tyt):Prop where
 len:t.length≤40
 kids:∀ x ∈ t,x.2.length≤40
theorem V2 {t:Tyt} (h:U5 t=true):FwT t:=by
 simp only [U5,Bool.and_eq_true,decide_eq_true_eq,List.all_eq_true] at h
 refine ⟨h.2,fun x hx=>h.1 x ?_⟩
 rwa [List.take_of_length_le (by omega)]
theorem FwT.wt {t:Tyt} (h:FwT t):Wt t:=⟨by have:=h.len;omega,fun x hx=>by have:=h.kids x hx;omega⟩
def GY (t:Tyt) (q:Int):Int×List Int:=(t[q.toNat]?).getD (0,[])
def AD (t:Tyt) (x:Int×Int×Int):Bool:=
 decide (0≤x.1)&&decide (x.1<t.length)&&(decide (0≤x.2.1)&&decide (x.2.1≤(GY t x.1).1))&&(decide (0≤x.2.2)&&decide (x.2.2≤((GY t x.1).2.length:Int))) &&
  !(decide (x.2.1<(GY t x.1).1)&&decide (0<x.2.2))
def pJ (t:Tyt) (s:Tye):Bool:=Dm t&&s.all (AD t)
theorem Q2 {t:Tyt} {q:Int} (h0:0≤q) (h1:q<t.length):idx t q=some (GY t q):=by
 rw [idx,if_pos h0,GY,List.getElem?_eq_getElem (by omega)]
 rfl
theorem aan (a b:Int):eQ a b=some (decide (0≤a)&&decide (a≤b)):=by
 rw [eQ]
 cases decide ((0:Int)≤a) <;> rfl
section
variable (k:Nat) (hk:9223372036854775808≤k)
include hk
theorem XR (t:Tyt) (ht:Wt t) (s:Tye) (hs:s.length≤9223372036854775807):eF k t s=some (pJ t s):=by
 have hlen:=ht.len
 rw [eF,JF k hk t ht,ar,pJ]
 cases hm:Dm t with
 | false=>rfl
 | true=>
  have h30:=TP hm
  rw [cond_true,DT (F:=fun n i=>bJ k n s (s.length:Int) t i) (l:=s) (fun x => !AD t x) ?_ ?_ _ (by omega),ar,lW]
  ·rw [List.all_eq_not_any_not,Bool.true_and]
  ·intro n
   simp only [bJ,oj,cond_false]
  ·intro n i x hi hx
   simp only [bJ,ltN hi,cond_true,fj hx,ar,aan]
   rw [fL (by omega),kP (z:=(t.length:Int) - 1) (by omega)]
   have e0:decide (x.1≤(t.length:Int) - 1)=decide (x.1<(t.length:Int)):=by
    by_cases h:x.1<(t.length:Int)
    ·rw [decide_eq_true h,decide_eq_true (by omega)]
    ·rw [decide_eq_false h,decide_eq_false (by omega)]
   rw [e0]
   unfold AD
   by_cases h0:0≤x.1
   ·by_cases h1:x.1<(t.length:Int)
    ·rw [leT h0,ltT h1,Q2 h0 h1,ar]
     simp only [Bool.and_self,Bool.not_true,cond_false,Bool.true_and]
     cases (decide (0≤x.2.1)&&decide (x.2.1≤(GY t x.1).1)) with
     | false=>rfl
     | true=>
      cases (decide (0≤x.2.2)&&decide (x.2.2≤((GY t x.1).2.length:Int))) with
      | false=>rfl
      | true=>
       cases decide (x.2.1<(GY t x.1).1) with
       | false=>rfl
       | true=>cases decide (0<x.2.2) <;> rfl
    ·rw [ltF (show (t.length:Int)≤x.1 by omega)]
     simp
   ·rw [leF (show x.1<0 by omega)]
    simp
end
structure It (t:Tyt) (x:Int×Int×Int):Prop where
 h0:0≤x.1
 h1:x.1<t.length
 d0:0≤x.2.1
 d1:x.2.1≤(GY t x.1).1
 c0:0≤x.2.2
 c1:x.2.2≤((GY t x.1).2.length:Int)
 z:x.2.1<(GY t x.1).1→x.2.2=0
theorem Us {t:Tyt} {x:Int×Int×Int}:AD t x=true↔It t x:=by
 simp only [AD,Bool.and_eq_true,decide_eq_true_eq,Bool.not_eq_true',Bool.and_eq_false_iff,decide_eq_false_iff_not]
 constructor
 ·rintro ⟨⟨⟨⟨a,b⟩,c,d⟩,e,f⟩,g⟩
  exact ⟨a,b,c,d,e,f,fun h=>by rcases g with g | g <;> omega⟩
 ·rintro ⟨a,b,c,d,e,f,g⟩
  refine ⟨⟨⟨⟨a,b⟩,c,d⟩,e,f⟩,?_⟩
  by_cases h:x.2.1<(GY t x.1).1
  ·exact .inr (by have:=g h;omega)
  ·exact .inl h
theorem IV {t:Tyt} {r:Tye}:pJ t r=true↔Dm t=true∧(∀ y ∈ r,It t y):=by
 simp only [pJ,Bool.and_eq_true,List.all_eq_true,Us]
section
variable (k:Nat) (hk:9223372036854775808≤k)
include hk
end
end Go.Ab
set_option linter.unusedVariables false
namespace Go.Ab
abbrev WB:=Int×Tye×FR×Int×Int
def Yr (op w v:Int):FR:=(op,0,w,v,0,0,0)
def pL (c:CF) (t:Tyt) (m:List Int) (w:Int) (x:WB):Bool:=ku c&&decide ((m.length:Int)=eo c)&&Dm t&&decide (0≤w∧w<c.1∧0≤x.1∧x.1<16)&&pJ t x.2.1
theorem SU {k:Nat} (hk:9223372036854775808≤k) (c:CF) {t:Tyt} (ht:Wt t) (m:List Int) (w:Int) (x:WB) (hs:x.2.1.length≤9000):gf k c t m w x=some (pL c t m w x):=by
 unfold gf pL
 simp only [Prod.eta,gU,EF,ar]
 rw [JF (k+4) (by omega) t ht,XR (k+3) (by omega) t ht x.2.1 (by omega)]
 cases hm:ku c with
 | false=>rfl
 | true=>
  rw [cond_true,L1,Bool.true_and]
  by_cases h1:(m.length:Int)=eo c
  ·rw [decide_eq_true h1,cond_true,Bool.true_and,ar]
   cases ht2:Dm t with
   | false=>rfl
   | true=>
    rw [cond_true,Bool.true_and]
    by_cases h2:0≤w
    ·rw [leT h2,cond_true]
     by_cases h3:w<c.1
     ·rw [ltT h3,cond_true]
      by_cases h4:0≤x.1
      ·rw [leT h4,cond_true]
       by_cases h5:x.1<16
       ·rw [ltT h5,cond_true,ar,decide_eq_true ⟨h2,h3,h4,h5⟩,Bool.true_and]
       ·rw [ltF (by omega),cond_false,decide_eq_false (by omega)];rfl
      ·rw [leF (by omega),cond_false,decide_eq_false (by omega)];rfl
     ·rw [ltF (by omega),cond_false,decide_eq_false (by omega)];rfl
    ·rw [leF (by omega),cond_false,decide_eq_false (by omega)];rfl
  ·rw [decide_eq_false h1,cond_false]
   rfl
theorem TG (w:Int):lj w=some (0,[],Yr 1 w 0,0,0):=rfl
end Go.Ab
set_option linter.unusedVariables false
set_option linter.unusedSimpArgs false
set_option maxRecDepth 100000
set_option maxHeartbeats 4000000
namespace Go.Ab
theorem b6 (op w v:Int):aG op w v=some (Yr op w v):=rfl
section
variable {k:Nat} (hk:9223372036854779000≤k) (c:CF) {t:Tyt} (ht:Wt t) {m:List Int} (hm:Wm m) (hl:m.length≤1000) (w:Int) {x:WB} (hf:Wf x.2.2.1) (hs:x.2.1.length≤9000) (hsp:x.2.2.2.1≤9223372036854775807) {d:Int} (hd:0≤d∧d≤18446744073709551615)
include hk ht hm hl hf hs hsp hd
end
end Go.Ab
set_option linter.unusedVariables false
namespace Go.Ab
end Go.Ab
set_option linter.unusedVariables false
namespace Go.Ab
section
variable {c:CF} {t:Tyt} {m:List Int} {w:Int} {x:WB} {d:Int}
theorem RI (h:pL c t m w x=true):ku c=true∧(m.length:Int)=eo c∧Dm t=true∧(0≤w∧w<c.1∧0≤x.1∧x.1<16)∧pJ t x.2.1=true:=by
 unfold pL at h
 simp only [Bool.and_eq_true,decide_eq_true_eq] at h
 exact ⟨h.1.1.1.1,h.1.1.1.2,h.1.1.2,h.1.2,h.2⟩
theorem S1 (h1:ku c=true) (h2:(m.length:Int)=eo c) (h3:Dm t=true) (h4:0≤w∧w<c.1∧0≤x.1∧x.1<16) (h5:pJ t x.2.1=true):pL c t m w x=true:=by
 unfold pL
 rw [h1,h3,h5,decide_eq_true h2,decide_eq_true h4]
 rfl
end
end Go.Ab
set_option linter.unusedVariables false
namespace Go.Ab
section
variable {c:CF} {m:List Int} {f:FR} {j:Int} (hj:j=0∨j=1∨j=3)
include hj
section
variable (hf:Wf f)
include hf
end
end
section
variable {c:CF} {t:Tyt} {m:List Int} {w:Int} {x:WB} {d:Int}
end
end Go.Ab
set_option linter.unusedVariables false
namespace Go.Ab
end Go.Ab
set_option linter.unusedVariables false
namespace Go.Ab
abbrev PB:=CF×Tyt×List Int×List WB×List SB
abbrev PK:=Int×Int×Int
def BO (t:Tyt) (x:SB):Bool:=decide (0≤x.1∧x.1<6)&&x.2.1.all (fun r=>decide (0≤r∧r<t.length))&&(decide (x.1=0)||decide (x.2.1≠[]))
def AO (c:CF) (t:Tyt) (m:List Int):Nat→List WB→Bool
 | _,[]=>true
 | i,x::l=>pL c t m i x&&AO c t m (i+1) l
def oE (p:PB):Bool:=ku p.1&&decide ((p.2.2.2.1.length:Int)=p.1.1∧p.2.2.2.2.length≤3)&&AO p.1 p.2.1 p.2.2.1 0 p.2.2.2.1&&p.2.2.2.2.all (BO p.2.1)
structure WOk (n:Nat) (x:WB):Prop where
 f:Wf x.2.2.1
 s:x.2.1.length≤n
 sp:x.2.2.2.1≤9223372036854775807
structure SOk (x:SB):Prop where
 f:Wf x.2.2
 s:x.2.1.length≤1000
theorem Hm (a:Int):0≤IntKind.u64.wrap a∧IntKind.u64.wrap a≤18446744073709551615:=by
 rw [Se]
 omega
section
variable {c:CF} {t:Tyt} {m:List Int} {w:Int} {x:WB} {d:Int} {n:Nat}
end
section
variable {c:CF} {t:Tyt} {m:List Int} {i:Int} {x:SB}
end
structure Good (n:Nat) (p:PB):Prop where
 t:FwT p.2.1
 tl:p.2.1.length≤1000
 m:Wm p.2.2.1
 w:∀ x ∈ p.2.2.2.1,WOk n x
 s:∀ x ∈ p.2.2.2.2,SOk x
theorem ru {c:CF} {t:Tyt} {m:List Int}:∀ {l:List WB} {i:Nat},AO c t m i l=true↔∀ (j:Nat) x,l[j]? = some x→pL c t m ((i+j:Nat):Int) x=true
 | [],i=>by simp [AO]
 | y::l,i=>by
  rw [AO,Bool.and_eq_true,ru (l:=l)]
  constructor
  ·intro h j x hx
   cases j with
   | zero=>cases hx;exact h.1
   | succ j=>
    have:=h.2 j x hx
    rw [show i+(j+1)=i+1+j by omega]
    exact this
  ·intro h
   refine ⟨h 0 y rfl,fun j x hx => ?_⟩
   have:=h (j+1) x hx
   rw [show i+1+j=i+(j+1) by omega]
   exact this
theorem DW {p:PB} (h:oE p=true):ku p.1=true∧(p.2.2.2.1.length:Int)=p.1.1∧p.2.2.2.2.length≤3∧(∀ (j:Nat) x,p.2.2.2.1[j]? = some x→pL p.1 p.2.1 p.2.2.1 (j:Int) x=true)∧(∀ x ∈ p.2.2.2.2,BO p.2.1 x=true):=by
 unfold oE at h
 simp only [Bool.and_eq_true,decide_eq_true_eq,List.all_eq_true] at h
 refine ⟨h.1.1.1,h.1.1.2.1,h.1.1.2.2,fun j x hx => ?_,h.2⟩
 have:=ru.1 h.1.2 j x hx
 rw [Nat.zero_add] at this
 exact this
theorem RS {p:PB} (h1:ku p.1=true) (h2:(p.2.2.2.1.length:Int)=p.1.1) (h3:p.2.2.2.2.length≤3) (h4:∀ (j:Nat) x,p.2.2.2.1[j]? = some x→pL p.1 p.2.1 p.2.2.1 (j:Int) x=true) (h5:∀ x ∈ p.2.2.2.2,BO p.2.1 x=true):oE p=true:=by
 unfold oE
 simp only [Bool.and_eq_true,decide_eq_true_eq,List.all_eq_true]
 refine ⟨⟨⟨h1,h2,h3⟩,ru.2 fun j x hx => ?_⟩,h5⟩
 rw [Nat.zero_add]
 exact h4 j x hx
end Go.Ab
set_option linter.unusedVariables false
set_option linter.unusedSimpArgs false
namespace Go.Ab
theorem Fq {α:Type}:∀ {l:List α} {i:Nat} {x:α},l[i]? = some x→l.set i x=l
 | [],_,_,h=>by cases h
 | a::l,0,x,h=>by cases h;rfl
 | a::l,i+1,x,h=>by rw [List.set_cons_succ,Fq (l:=l) (by simpa using h)]
theorem adX {i n:Nat} (h:i<n):decide ((0:Int)≤(i:Int)∧(i:Int).toNat<n)=true:=decide_eq_true ⟨by omega,by omega⟩
theorem SP (k:Nat) (hk:1000≤k) {t:Tyt} (ht:FwT t):dL k t=some t:=by
 have hl:=ht.len
 unfold dL
 rw [uT (by omega),ar]
 have key:∀ (r:Tyt) (q n:Nat),t.drop q=r→q≤t.length→r.length<n→cH k t n t (t.length:Int) (q:Int) t=some t:=by
  intro r
  induction r with
  | nil=>
   intro q n hr hq hn
   obtain ⟨n,rfl⟩:=gJ hn
   have:=dX hr
   rw [cH,ltF (by omega),cond_false,decide_eq_true (Nat.le_refl _),fe,List.take_length]
  | cons v r ih=>
   intro q n hr hq hn
   obtain ⟨n,rfl⟩:=gJ hn
   obtain ⟨h0,h1,h2,_,h4⟩:=dc hr
   have hv:=ht.kids v (List.mem_of_getElem? h1)
   rw [cH,ltN h0,cond_true,adX h0,cond_true,Int.toNat_natCast,h1,ar,uT (by omega),ar,cond_true,ar,fL (by omega),Fq h1]
   exact ih (q+1) n h2 (by omega) (by simp only [List.length_cons] at hn;omega)
 have:=key t 0 (k+1) rfl (Nat.zero_le _) (by omega)
 simpa using this
theorem aaJ (k n:Nat) {t:Tyt} {l:List Int} (hl:l.length≤1000) (hn:l.length<n):bU k n l (l.length:Int) t 0=some (Cn (fun r => !decide (0≤r∧r<(t.length:Int))) l 0):=by
 refine DT (F:=fun n i=>bU k n l (l.length:Int) t i) (l:=l) _ ?_ ?_ n hn
 ·intro n
  simp only [bU,oj,cond_false]
 ·intro n i x hi hx
  simp only [bU,ltN hi,cond_true,fj hx,ar]
  rw [fL (by omega)]
  by_cases h0:x<0
  ·rw [ltT h0,cond_true,decide_eq_false (by omega)]
   rfl
  ·rw [ltF (by omega),cond_false]
   by_cases h1:(t.length:Int)≤x
   ·rw [leT h1,cond_true,decide_eq_false (by omega)]
    rfl
   ·rw [leF (by omega),cond_false,decide_eq_true (by omega)]
    rfl
theorem Vg (k n:Nat) (hk:1000≤k) {t:Tyt} {S:List SB} (hS:S.length≤1000) (hr:∀ x ∈ S,x.2.1.length≤1000) (hn:S.length<n):bC k n S (S.length:Int) t 0=some (Cn (fun x => !BO t x) S 0):=by
 refine DT (F:=fun n i=>bC k n S (S.length:Int) t i) (l:=S) _ ?_ ?_ n hn
 ·intro n
  simp only [bC,oj,cond_false]
 ·intro n i x hi hx
  have hx':=hr x (List.mem_of_getElem? hx)
  have ho:=aaJ k (k+29) (t:=t) hx' (by omega)
  simp only [bC,ltN hi,cond_true,fj hx,ar,ho,lW]
  rw [fL (by omega)]
  have e:BO t x=(decide (0≤x.1∧x.1<6) && !(x.2.1.any fun r => !decide (0≤r∧r<(t.length:Int)))&&(decide (x.1=0)||decide (x.2.1≠[]))):=by
   unfold BO
   rw [List.all_eq_not_any_not]
  rw [e,YE,L1]
  by_cases h0:x.1<0
  ·rw [ltT h0,cond_true,decide_eq_false (show ¬ (0≤x.1∧x.1<6) by omega)]
   rfl
  ·rw [ltF (by omega),cond_false]
   by_cases h6:6≤x.1
   ·rw [leT h6,cond_true,decide_eq_false (show ¬ (0≤x.1∧x.1<6) by omega)]
    rfl
   ·rw [leF (by omega),cond_false,decide_eq_true (show 0≤x.1∧x.1<6 by omega)]
    cases (x.2.1.any fun r => !decide (0≤r∧r<(t.length:Int))) with
    | true=>rfl
    | false=>
     rw [cond_false]
     by_cases hz:x.1=0
     ·rw [decide_eq_true hz]
      rfl
     ·rw [decide_eq_false hz,Bool.not_false,cond_true]
      by_cases hn:x.2.1=[]
      ·rw [hn]
       rfl
      ·have hl:¬ ((x.2.1.length:Int)=0):=by
        intro h
        exact hn (List.length_eq_zero_iff.1 (by omega))
       rw [decide_eq_false hl,decide_eq_true hn]
       rfl
section
variable {k:Nat} (hk:9223372036854779000≤k) {p:PB} (ht:Wt p.2.1) (hw:∀ x ∈ p.2.2.2.1,x.2.1.length≤9000) (hs:∀ x ∈ p.2.2.2.2,x.2.1.length≤1000)
include hk ht hw hs
theorem JI:ej k p=some (oE p):=by
 unfold ej oE
 simp only [Prod.eta,gU,ar]
 cases hm:ku p.1 with
 | false=>rfl
 | true=>
  have hc:=cw hm
  rw [Bool.not_true,cond_false,Bool.true_and,YE]
  by_cases h1:(p.2.2.2.1.length:Int)=p.1.1
  ·rw [decide_eq_true h1,Bool.not_true,cond_false]
   by_cases h3:(3:Int)<p.2.2.2.2.length
   ·rw [ltT h3,cond_true,decide_eq_false (by omega)]
    rfl
   ·rw [ltF (by omega),cond_false,decide_eq_true ⟨h1,by omega⟩,Bool.true_and]
    have key:∀ (r:List WB) (q n:Nat),p.2.2.2.1.drop q=r→q≤p.2.2.2.1.length→r.length<n→du k p n (q:Int)=some (AO p.1 p.2.1 p.2.2.1 q r&&p.2.2.2.2.all (BO p.2.1)):=by
     intro r
     induction r with
     | nil=>
      intro q n hr hq hn
      obtain ⟨n,rfl⟩:=gJ hn
      have:=dX hr
      rw [du,ltF (by omega),cond_false,Vg k (k+32) (by omega) (by omega) hs (by omega),ar,lW,AO,Bool.true_and,List.all_eq_not_any_not]
     | cons v r ih=>
      intro q n hr hq hn
      obtain ⟨n,rfl⟩:=gJ hn
      obtain ⟨h0,h1',h2,_,h4⟩:=dc hr
      have hv:=hw v (List.mem_of_getElem? h1')
      rw [du,ltN h0,cond_true,fj h1',ar]
      try simp only [Prod.eta]
      rw [SU (by omega) p.1 ht p.2.2.1 (q:Int) v hv,ar,AO,fL (by omega),ih (q+1) n h2 (by omega) (by simp only [List.length_cons] at hn;omega)]
      cases pL p.1 p.2.1 p.2.2.1 (q:Int) v <;> rfl
    have:=key p.2.2.2.1 0 (k+33) rfl (Nat.zero_le _) (by omega)
    simpa using this
  ·rw [decide_eq_false h1,Bool.not_false,cond_true,decide_eq_false (fun h=>h1 h.1)]
   rfl
end
def Wp (l:List PK):Prop:=∀ x ∈ l,0≤x.2.2∧x.2.2≤18446744073709551615
section
variable {k:Nat} (hk:9223372036854779000≤k) {p0:PB} {l:List PK} (hl:l.length≤1000) (hd:Wp l)
include hk hl hd
end
end Go.Ab
set_option linter.unusedVariables false
set_option linter.unusedSimpArgs false
namespace Go.Ab
theorem Iw (n:Nat) (i:Int):bX (List.replicate n 0) i=0:=by
 unfold bX
 split
 ·rw [List.getElem?_replicate]
  split <;> rfl
 ·rfl
theorem abT {k:Nat} (hk:1000≤k) (c:CF):iD k c=some (List.replicate (eo c).toNat 0):=by
 have hs:0≤eo c∧eo c≤190:=by
  unfold eo
  split
  ·rename_i h
   have hm:=cw h
   have:=fK h (w:=c.1) (by omega) (by omega)
   omega
  ·omega
 have key:∀ (d i n t:Nat),(t=0∨t=1)→i+d=(eo c).toNat→d<n→dR k c n (eo c) (List.replicate i 0) (i:Int) t=some (List.replicate (eo c).toNat 0):=by
  intro d
  induction d with
  | zero=>
   intro i n t ht hi hn
   obtain ⟨n,rfl⟩:=gJ hn
   rw [dR,ltF (by omega),cond_false]
   rw [show i=(eo c).toNat by omega]
  | succ d ih=>
   intro i n t ht hi hn
   obtain ⟨n,rfl⟩:=gJ hn
   have h1:(t==1||t==0)=true:=by rcases ht with rfl | rfl <;> rfl
   rw [dR,ltT (by omega),cond_true,h1,fe,GB (by simp;omega),cond_true,fL (by omega)]
   have:=ih (i+1) n 1 (.inr rfl) (by omega) (by omega)
   rw [List.replicate_succ'] at this
   exact this
 unfold iD
 simp only [Prod.eta,EF,ar]
 exact key (eo c).toNat 0 (k+3) 0 (.inl rfl) (by omega) (by omega)
theorem U7 {l:List Int} (h:l.length≤1000):fE l=some (0,l,Nn):=by
 unfold fE
 rw [uT (by omega),ar]
 rfl
theorem D7 {α:Type} (p:α→Bool):∀ (l:List α) (i:Nat),Cn p l i = -1∨∃ (j:Nat) (x:α),Cn p l i=((i+j:Nat):Int)∧l[j]? = some x∧p x=true
 | [],_ => .inl rfl
 | x::r,i=>by
  rw [Cn]
  by_cases h:p x=true
  ·rw [if_pos h]
   exact .inr ⟨0,x,rfl,rfl,h⟩
  ·rw [if_neg h]
   rcases D7 p r (i+1) with e | ⟨j,y,e,h1,h2⟩
   ·exact .inl e
   ·refine .inr ⟨j+1,y,?_,h1,h2⟩
    rw [e]
    congr 1
    omega
theorem TK (k:Nat) {l:List Int} (hl:l.length≤1000) (hk:1001≤k) (v:Int):cR k l v=some (Cn (fun y=>v==y) l 0):=by
 unfold cR
 refine DT (F:=fun n i=>bl k l v n i) (l:=l) _ ?_ ?_ k (by omega)
 ·intro n
  simp only [bl,oj,cond_false]
 ·intro n i y hi hy
  simp only [bl,ltN hi,cond_true,fj hy,ar]
  rw [fL (by omega)]
theorem X2 {k:Nat} (hk:9223372036854775808≤k) {t:Tyt} (ht:FwT t) (q:Int):∃ z,dQ k t q=some z:=by
 have hlen:=ht.len
 unfold dQ
 rw [JF k hk t ht.wt,ar]
 cases Dm t with
 | false=>exact ⟨_,rfl⟩
 | true=>
  rw [cond_true]
  have inner:∀ (i:Nat),i<t.length→∀ (o:Int→Option Int),(∃ z,o ((i+1:Nat):Int)=some z)→∀ (K:List Int),K.length≤40→∀ (r:List Int) (j n:Nat),K.drop j=r→j≤K.length→r.length<n→∃ z,bT k t q o n K (K.length:Int) (j:Int) (i:Int)=some z:=by
   intro i hi o ho K hK r
   induction r with
   | nil=>
    intro j n hr hj hn
    obtain ⟨n,rfl⟩:=gJ hn
    have:=dX hr
    rw [bT,ltF (by omega),cond_false,fL (by omega)]
    exact ho
   | cons x r ih=>
    intro j n hr hj hn
    obtain ⟨n,rfl⟩:=gJ hn
    obtain ⟨h0,h1,h2,_,h4⟩:=dc hr
    rw [bT,ltN h0,cond_true,fj h1,ar]
    cases x==q with
    | true=>exact ⟨_,rfl⟩
    | false=>
     rw [cond_false,fL (by omega)]
     exact ih (j+1) n h2 (by omega) (by simp only [List.length_cons] at hn;omega)
  have outer:∀ (r:Tyt) (i n:Nat),t.drop i=r→i≤t.length→r.length<n→∃ z,bv k t q n (i:Int)=some z:=by
   intro r
   induction r with
   | nil=>
    intro i n hr hi hn
    obtain ⟨n,rfl⟩:=gJ hn
    have:=dX hr
    rw [bv,ltF (by omega),cond_false]
    exact ⟨_,rfl⟩
   | cons x r ih=>
    intro i n hr hi hn
    obtain ⟨n,rfl⟩:=gJ hn
    obtain ⟨h0,h1,h2,_,h4⟩:=dc hr
    have hx:=ht.kids x (List.mem_of_getElem? h1)
    rw [bv,ltN h0,cond_true,fj h1,ar]
    exact inner i h0 _ (ih (i+1) n h2 (by omega) (by simp only [List.length_cons] at hn;omega)) x.2 hx x.2 0 (k+18) rfl (Nat.zero_le _) (by omega)
  exact outer t 0 (k+18) rfl (Nat.zero_le _) (by omega)
theorem RQ {k:Nat} (hk:9223372036854775808≤k) {t:Tyt} (ht:FwT t):∀ (d i n g e:Nat) (L:List Int),i+d=t.length→d<n→L.length≤i→(e=0∨e=1)→(L≠[]→e=1)→(∀ r ∈ L,0≤r∧r<(t.length:Int))→L.Nodup∧(∀ r ∈ L,r<(i:Int)) →
  ∃ g' L' e',bu k n t (t.length:Int) g L (i:Int) e=some (g',L',e')∧L'.length≤t.length∧(L'≠[]→e'=1)∧(∀ r ∈ L',0≤r∧r<(t.length:Int))∧L'.Nodup:=by
 have hlen:=ht.len
 intro d
 induction d with
 | zero=>
  intro i n g e L hi hn hL he hne hr hd
  obtain ⟨n,rfl⟩:=gJ hn
  rw [bu,ltF (by omega),cond_false]
  exact ⟨g,L,e,rfl,by omega,hne,hr,hd.1⟩
 | succ d ih=>
  intro i n g e L hi hn hL he hne hr hd
  obtain ⟨n,rfl⟩:=gJ hn
  obtain ⟨z,hz⟩:=X2 hk ht (i:Int)
  rw [bu,ltT (by omega),cond_true,hz,ar,fL (by omega)]
  cases z == -1 with
  | true=>
   have he1:(e==1||e==0)=true:=by rcases he with rfl | rfl <;> rfl
   rw [cond_true,he1,fe,GB (by simp;omega),cond_true]
   refine ih (i+1) n (g+1) 1 (L++[(i:Int)]) (by omega) (by omega) (by simp;omega) (.inr rfl) (fun _=>rfl) (fun r hr' => ?_) ⟨?_,fun r hr' => ?_⟩
   ·rcases List.mem_append.1 hr' with h | h
    ·exact hr r h
    ·rw [List.mem_singleton.1 h];omega
   ·refine List.nodup_append.2 ⟨hd.1,by simp,fun a ha b hb => ?_⟩
    have:=hd.2 a ha
    rw [List.mem_singleton.1 hb]
    omega
   ·rcases List.mem_append.1 hr' with h | h
    ·have:=hd.2 r h
     omega
    ·rw [List.mem_singleton.1 h];omega
  | false=>
   rw [cond_false]
   exact ih (i+1) n g e L (by omega) (by omega) (by omega) he hne hr ⟨hd.1,fun r h=>by have:=hd.2 r h;omega⟩
def HS (w:Nat):WB:=(0,[],Yr 1 (w:Int) 0,0,0)
def iB (n:Nat):List WB:=(List.range n).map HS
def ia (roots:List (List Int)):List SB:=roots.map fun l=>(0,l,Nn)
def mU (c:CF) (t:Tyt) (roots:List (List Int)):PB:=(c,t,List.replicate (eo c).toNat 0,iB c.1.toNat,ia roots)
def Kt:PB:=((0,0,0,0),[],[],[],[])
section
variable {k:Nat} (hk:9223372036854779000≤k) (c:CF) (t:Tyt) (ht:t.length≤40) (roots:List (List Int))
include hk ht
theorem JR (o0:Tyt→List Int→Nat→List WB→Int→List SB→Nat→Nat→List Int→Option (PB×Bool)) (t':Tyt) (m:List Int) (W:List WB) (i0:Int) (S:List SB) (C x:List Int) (hx:x.length≤1000) (hS:S.length≤100) (e:Nat) (he:e=9∨e=0) :
  ∀ (r:List Int) (q n len z:Nat) (L:List Int),x.drop q=r→q≤x.length→r.length<n→len≤L.length→L.length≤40→(0<len→z=1)→(∀ y ∈ L.take len,0≤y∧y<(t.length:Int))→(∀ y ∈ x.take q,0≤y∧y<(t.length:Int))→(C++(x.take q++L.take len)).Nodup →
  cz k c t roots o0 n x t' m (x.length:Int) z W len (q:Int) L i0 S e=some (Kt,false) ∨
  ∃ (len' z':Nat) (L':List Int),len'≤L'.length∧L'.length≤40∧(0<len'→z'=1)∧(∀ y ∈ L'.take len',0≤y∧y<(t.length:Int))∧(∀ y ∈ x,0≤y∧y<(t.length:Int))∧(C++(x++L'.take len')).Nodup ∧
   cz k c t roots o0 n x t' m (x.length:Int) z W len (q:Int) L i0 S e=o0 t' m z' W (IntKind.i64.wrap (i0+1)) (S++[(0,x,Nn)]) 9 len' L':=by
 have _h:=ht
 intro r
 induction r with
 | nil=>
  intro q n len z L hr hq hn hlen hL hz hy hxq hd
  obtain ⟨n,rfl⟩:=gJ hn
  have:=dX hr
  have he1:(e==9||e==0)=true:=by rcases he with rfl | rfl <;> rfl
  refine .inr ⟨len,z,L,hlen,hL,hz,hy,?_,?_,?_⟩
  ·rw [List.take_of_length_le (by omega)] at hxq
   exact hxq
  ·rw [List.take_of_length_le (by omega)] at hd
   exact hd
  ·rw [cz,ltF (by omega),cond_false,U7 hx,ar,he1,fe]
   rw [GB (by simp;omega),cond_true]
 | cons v r ih=>
  intro q n len z L hr hq hn hlen hL hz hy hxq hd
  obtain ⟨n,rfl⟩:=gJ hn
  obtain ⟨h0,h1,h2,_,h4⟩:=dc hr
  simp only [List.length_cons] at hn
  rw [cz,ltN h0,cond_true,fj h1,ar,decide_eq_true hlen,fe,TK (k+20) (by rw [List.length_take];omega) (by omega) v,ar]
  rcases D7 (fun y=>v==y) (L.take len) 0 with e1 | ⟨j,y,e1,hj,hvy⟩
  ·rw [e1]
   exact .inl rfl
  ·have hvy':v=y:=by simpa using hvy
   have hjl:j<len:=by
    have:=(List.getElem?_eq_some_iff.1 hj).1
    rw [List.length_take] at this
    omega
   have hyr:=hy y (List.mem_of_getElem? hj)
   rw [e1,Nat.zero_add,ltF (by omega),cond_false,hz (by omega),show ((1:Nat)==1)=true from rfl,fe,fL (by omega),Int.toNat_natCast,Int.toNat_natCast,decide_eq_true (show len≤L.length∧(0:Int)≤(j:Int)∧(j:Int)<((j+1:Nat):Int)∧j+1≤len∧len≤9223372036854775807 by omega),fe,fL (by omega),show len - (j+1 - j)=len - 1 by omega]
   have hc1:(B4 (L.take len) j (j+1)).length=len:=by
    rw [EU (by omega) (by rw [List.length_take];omega),List.length_take]
    omega
   have hc2:(B4 (L.take len) j (j+1)++L.drop len).length=L.length:=by
    rw [List.length_append,hc1,List.length_drop]
    omega
   refine ih (q+1) n (len - 1) 1 _ h2 (by omega) (by omega) (by rw [hc2];omega) (by rw [hc2];exact hL) (fun _=>rfl) ?_ ?_ ?_
   ·intro y' hy'
    rw [List.take_append_of_le_length (by rw [hc1];omega)] at hy'
    unfold B4 at hy'
    rw [List.take_append_of_le_length (by simp;omega)] at hy'
    rcases List.mem_append.1 (List.mem_of_mem_take hy') with h | h
    ·exact hy y' (List.mem_of_mem_take h)
    ·exact hy y' (List.mem_of_mem_drop h)
   ·intro y' hy'
    rw [List.take_add_one,h1] at hy'
    rcases List.mem_append.1 hy' with h | h
    ·exact hxq y' h
    ·rw [show y'=v by simpa using h,hvy']
     exact hyr
   ·have hsp:L.take len=(L.take len).take j++y::(L.take len).drop (j+1):=by
     have:=List.take_append_drop j (L.take len)
     rw [List.drop_eq_getElem_cons (by rw [List.length_take];omega)] at this
     have hg : (L.take len)[j]'(by rw [List.length_take]; omega) = y := by
      have:=List.getElem?_eq_getElem (l:=L.take len) (i:=j) (by rw [List.length_take];omega)
      rw [hj] at this
      exact (Option.some.inj this).symm
     rw [hg] at this
     exact this.symm
    have ht1:(B4 (L.take len) j (j+1)++L.drop len).take (len - 1)=(L.take len).take j++(L.take len).drop (j+1):=by
     rw [List.take_append_of_le_length (by rw [hc1];omega)]
     unfold B4
     rw [List.take_append_of_le_length (by simp;omega),List.take_of_length_le (by simp;omega)]
    rw [ht1,List.take_add_one,h1]
    rw [hsp] at hd
    refine (List.Perm.nodup_iff ?_).1 hd
    refine List.Perm.append_left C ?_
    rw [List.append_assoc]
    refine List.Perm.append_left _ ?_
    rw [hvy']
    exact List.perm_middle
theorem Jy (hR:roots.length≤3) (hr:∀ l ∈ roots,l.length≤1000) (W:List WB):∀ (r:List (List Int)) (q n len z e:Nat) (L:List Int) (t':Tyt) (m:List Int),roots.drop q=r→q≤roots.length→r.length<n→len≤L.length→L.length≤40→(0<len→z=1)→(e=9∨e=0)→(∀ y ∈ L.take len,0≤y∧y<(t.length:Int))→(∀ l ∈ roots.take q,∀ y ∈ l,0≤y∧y<(t.length:Int))→((roots.take q).flatten++L.take len).Nodup →
  bR k c t roots n t' m z W (q:Int) (ia (roots.take q)) e len L=some (Kt,false) ∨
  bR k c t roots n t' m z W (q:Int) (ia (roots.take q)) e len L=some ((c,t',m,W,ia roots),true)∧(∀ l ∈ roots,∀ y ∈ l,0≤y∧y<(t.length:Int))∧roots.flatten.Nodup:=by
 intro r
 induction r with
 | nil=>
  intro q n len z e L t' m hq' hq hn hlen hL hz he hy hxq hd
  obtain ⟨n,rfl⟩:=gJ hn
  have:=dX hq'
  rw [List.take_of_length_le (by omega)] at hxq hd ⊢
  rw [bR,ltF (by omega),cond_false]
  exact .inr ⟨rfl,hxq,(List.nodup_append.1 hd).1⟩
 | cons v r ih=>
  intro q n len z e L t' m hq' hq hn hlen hL hz he hy hxq hd
  obtain ⟨n,rfl⟩:=gJ hn
  obtain ⟨h0,h1,h2,_,h4⟩:=dc hq'
  simp only [List.length_cons] at hn
  have hv:=hr v (List.mem_of_getElem? h1)
  have hSl:(ia (roots.take q)).length≤100:=by unfold ia;rw [List.length_map,List.length_take];omega
  rw [bR,ltN h0,cond_true,fj h1,ar]
  rcases JR hk c t ht roots (fun s62 s63 s64 s77 s113 s115 s116 s135 s138=>bR k c t roots n s62 s63 s64 s77 s113 s115 s116 s135 s138) t' m W (q:Int) (ia (roots.take q)) (roots.take q).flatten v hv hSl e he v 0 (k+21) len z L rfl (Nat.zero_le _) (by omega) hlen hL hz hy (by simp) (by simpa using hd) with h | ⟨len',z',L',g1,g2,g3,g4,g5,gd,g6⟩
  ·exact .inl h
  ·have hs:ia (roots.take q)++[(0,v,Nn)]=ia (roots.take (q+1)):=by
    unfold ia
    rw [List.take_add_one,h1,List.map_append]
    rfl
   rw [hs,fL (by omega)] at g6
   have:=ih (q+1) n len' z' 9 L' t' m h2 (by omega) (by omega) g1 g2 g3 (.inl rfl) g4 (fun l hl=>by
    rw [List.take_add_one,h1] at hl
    rcases List.mem_append.1 hl with h | h
    ·exact hxq l h
    ·rw [show l=v by simpa using h]
     exact g5) (by
    rw [List.take_add_one,h1,List.flatten_append]
    simpa [List.append_assoc] using gd)
   have g6':cz k c t roots (fun s62 s63 s64 s77 s113 s115 s116 s135 s138=>bR k c t roots n s62 s63 s64 s77 s113 s115 s116 s135 s138) (k+21) v t' m (v.length:Int) z W len 0 L (q:Int) (ia (roots.take q)) e=_:=g6
   rw [g6']
   exact this
theorem L8 (hR:roots.length≤3) (hr:∀ l ∈ roots,l.length≤1000) (hc:0≤c.1∧c.1≤8) (t':Tyt) (m L:List Int) (z:Nat) (hL:L.length≤40) (hz:L≠[]→z=1) (hy:∀ y ∈ L,0≤y∧y<(t.length:Int)) (hd:L.Nodup):∀ (d i n e:Nat),(i:Int)+d=c.1→d<n→(e=11∨e=0) →
  cA k c t roots n t' m L z (i:Int) (iB i) e=some (Kt,false) ∨
  cA k c t roots n t' m L z (i:Int) (iB i) e=some ((c,t',m,iB c.1.toNat,ia roots),true)∧(∀ l ∈ roots,∀ y ∈ l,0≤y∧y<(t.length:Int))∧roots.flatten.Nodup:=by
 intro d
 induction d with
 | zero=>
  intro i n e hi hn he
  obtain ⟨n,rfl⟩:=gJ hn
  rw [cA,ltF (by omega),cond_false,show c.1.toNat=i by omega]
  exact Jy hk c t ht roots hR hr (iB i) roots 0 (k+21) L.length z 0 L t' m rfl (Nat.zero_le _) (by omega) (Nat.le_refl _) hL (fun h=>hz (fun e=>by rw [e] at h;cases h)) (.inr rfl) (by rw [List.take_length];exact hy) (by simp) (by simpa using hd)
 | succ d ih=>
  intro i n e hi hn he
  obtain ⟨n,rfl⟩:=gJ hn
  have he1:(e==11||e==0)=true:=by rcases he with rfl | rfl <;> rfl
  rw [cA,ltT (by omega),cond_true,TG,ar,he1,fe]
  rw [GB (by rw [List.length_append];unfold iB;simp;omega),cond_true,fL (by omega)]
  have hw:iB i++[HS i]=iB (i+1):=by
   unfold iB
   rw [List.range_succ,List.map_append]
   rfl
  have:=ih (i+1) n 11 (by omega) (by omega) (.inl rfl)
  rw [← hw] at this
  exact this
end
theorem J6 {k:Nat} (hk:9223372036854779000≤k) (c:CF) {t:Tyt} (ht:FwT t) {roots:List (List Int)} (hr:∀ l ∈ roots,l.length≤1000) :
  fq k c t roots=some (Kt,false)∨fq k c t roots=some (mU c t roots,true)∧ku c=true∧Dm t=true∧roots.length≤3∧(∀ l ∈ roots,∀ y ∈ l,0≤y∧y<(t.length:Int))∧roots.flatten.Nodup:=by
 unfold fq
 try simp only [Prod.eta]
 rw [gU,ar]
 cases hm:ku c with
 | false=>exact .inl rfl
 | true=>
  have hc:=cw hm
  rw [Bool.not_true,cond_false,JF _ (by omega) t ht.wt,ar]
  cases ht2:Dm t with
  | false=>exact .inl rfl
  | true=>
   rw [Bool.not_true,cond_false]
   by_cases h3:(3:Int)<roots.length
   ·rw [ltT h3]
    exact .inl rfl
   ·obtain ⟨g',L',e',h1,h2,h4,h5,h6⟩:=RQ (k:=k) (by omega) ht t.length 0 (k+20) 0 0 [] (by omega) (by have:=ht.len;omega) (Nat.zero_le _) (.inl rfl) (fun h=>absurd rfl h) (by simp) ⟨List.nodup_nil,by simp⟩
    rw [ltF (by omega),cond_false,JF _ (by omega) t ht.wt,ar,ht2,Bool.not_true,cond_false]
    refine (show _∨_ from ?_)
    have h1':bu k (k+20) t (t.length:Int) 0 [] 0 0=some (g',L',e'):=h1
    rw [h1',ar,SP _ (by omega) ht,ar,abT (by omega),ar]
    have hl:=ht.len
    rcases L8 (k:=k) hk c t ht.len roots (by omega) hr (by omega) t (List.replicate (eo c).toNat 0) L' e' (by omega) h4 h5 h6 c.1.toNat 0 (k+21) 0 (by omega) (by omega) (.inr rfl) with h | ⟨h,h'⟩
    ·exact .inl h
    ·exact .inr ⟨h,rfl,rfl,by omega,h'⟩
end Go.Ab
set_option linter.unusedVariables false
namespace Go.Ab
theorem XM {k:Nat} (hk:9223372036854775808≤k) {l:List (List Int)} (hl:l.length≤9223372036854775807):∃ b,bS k l=some b∧(b=true→l.length≤10∧∀ x ∈ l,x.length≤60):=by
 unfold bS
 have key:∀ (r:List (List Int)) (q n:Nat),l.drop q=r→q≤l.length→r.length<n→(∀ x ∈ l.take q,x.length≤60)→∃ b,aW k l n (q:Int)=some b∧(b=true→l.length≤10∧∀ x ∈ l,x.length≤60):=by
  intro r
  induction r with
  | nil=>
   intro q n hr hq hn hx
   obtain ⟨n,rfl⟩:=gJ hn
   have:=dX hr
   rw [List.take_of_length_le (by omega)] at hx
   rw [aW,ltF (by omega),cond_false]
   refine ⟨_,rfl,fun h=>⟨?_,hx⟩⟩
   have:=of_decide_eq_true h
   omega
  | cons v r ih=>
   intro q n hr hq hn hx
   obtain ⟨n,rfl⟩:=gJ hn
   obtain ⟨h0,h1,h2,_,h4⟩:=dc hr
   rw [aW,ltN h0,cond_true]
   by_cases hq10:(q:Int)≤10
   ·rw [leT hq10,cond_true,fj h1,ar]
    by_cases h60:(60:Int)<v.length
    ·rw [ltT h60,cond_true]
     exact ⟨_,rfl,fun h=>by cases h⟩
    ·rw [ltF (by omega),cond_false,fL (by omega)]
     refine ih (q+1) n h2 (by omega) (by simp only [List.length_cons] at hn;omega) fun x hx' => ?_
     rw [List.take_add_one,h1] at hx'
     rcases List.mem_append.1 hx' with h | h
     ·exact hx x h
     ·rw [show x=v by simpa using h];omega
   ·rw [leF (by omega),cond_false]
    refine ⟨_,rfl,fun h => ?_⟩
    have:=of_decide_eq_true h
    omega
 exact key l 0 k rfl (Nat.zero_le _) (by omega) (by simp)
theorem TO {c:CF} {t:Tyt} {roots:List (List Int)} (hc:ku c=true) (ht:Dm t=true) (hR:roots.length≤3) (hr:∀ l ∈ roots,∀ y ∈ l,0≤y∧y<(t.length:Int)):oE (mU c t roots)=true:=by
 have hm:=cw hc
 have hs:=KF hc
 refine RS hc ?_ ?_ (fun j x hx => ?_) (fun x hx => ?_)
 ·show ((iB c.1.toNat).length:Int)=c.1
  unfold iB
  rw [List.length_map,List.length_range]
  omega
 ·show (ia roots).length≤3
  unfold ia
  rw [List.length_map]
  exact hR
 ·have hx':(iB c.1.toNat)[j]? = some x:=hx
  unfold iB at hx'
  rw [List.getElem?_map,Option.map_eq_some_iff] at hx'
  obtain ⟨i,hi,rfl⟩:=hx'
  obtain ⟨hj,rfl⟩:=List.getElem?_eq_some_iff.1 hi
  rw [List.length_range] at hj
  rw [List.getElem_range]
  refine S1 hc ?_ ht ⟨by omega,by show (j:Int)<c.1;omega,Int.le_refl 0,(show (0:Int)<16 by decide)⟩ (IV.2 ⟨ht,fun y hy=>absurd hy (by simp [HS])⟩)
  show ((List.replicate (eo c).toNat (0:Int)).length:Int)=eo c
  rw [List.length_replicate]
  omega
 ·have hx':x ∈ ia roots:=hx
  unfold ia at hx'
  obtain ⟨l,hl,rfl⟩:=List.mem_map.1 hx'
  unfold BO
  simp only [Bool.and_eq_true,List.all_eq_true,decide_eq_true_eq,Bool.or_eq_true]
  exact ⟨⟨by decide,hr l hl⟩,.inl (by trivial)⟩
theorem Fh {c:CF} {t:Tyt} {roots:List (List Int)} (ht:FwT t) (hr:∀ l ∈ roots,l.length≤60):Good 0 (mU c t roots):=by
 have z:(0:Int)≤0∧(0:Int)≤18446744073709551615:=by decide
 refine ⟨ht,by have:=ht.len;show t.length≤1000;omega,?_,fun x hx => ?_,fun x hx => ?_⟩
 ·refine ⟨?_,fun v hv => ?_⟩
  ·show (List.replicate (eo c).toNat (0:Int)).length≤_
   rw [List.length_replicate]
   have:eo c≤190:=by
    unfold eo
    split
    ·rename_i h
     have hm:=cw h
     have:=fK h (w:=c.1) (by omega) (by omega)
     omega
    ·omega
   omega
  ·rw [List.eq_of_mem_replicate hv]
   exact z
 ·have hx':x ∈ iB c.1.toNat:=hx
  unfold iB at hx'
  obtain ⟨i,_,rfl⟩:=List.mem_map.1 hx'
  exact ⟨⟨z,z,z⟩,Nat.le_refl _,by show (0:Int)≤9223372036854775807;decide⟩
 ·have hx':x ∈ ia roots:=hx
  unfold ia at hx'
  obtain ⟨l,hl,rfl⟩:=List.mem_map.1 hx'
  exact ⟨⟨z,z,z⟩,by have:=hr l hl;show l.length≤1000;omega⟩
end Go.Ab
set_option linter.unusedVariables false
namespace Go.Ab
def Zn:FR:=(-1,0,0,0,0,0,0)
structure Pl where
 m:List Int
 left:List (List Int)
 cur:List FR
 over:List FR
def Z1 (m:List Int) (w:Int):Nat:=if Kj (bX m 2) w=true then 1 else 0
def W7 (f:FR) (w:Int):Nat:=if MA f w=true then 1 else 0
def Yu (l:List FR) (w:Int):Nat:=l.countP fun f=>MA f w
def PY (c:CF) (m:List Int) (w:Int):Nat:=if bX m (kx c w)=0 then 0 else 1
def w3B (f:FR):Nat:=if f.1=5∧3≤f.2.1 then 1 else 0
def w4B (f:FR):Prop:=f.1=5∧f.2.1=4
def ads (x:Int):Prop:=0≤x∧x≤18446744073709551615
def adh (n:Nat) (i:Nat) (f:FR):Prop:=
 f=Zn∨∃ op pc X Y:Int,f=(op,pc,(i:Int),0,X,Y,0)∧ads X∧ads Y ∧
  ((op=5∧0≤pc∧pc≤4)∨(op=6∧0≤pc∧pc≤2∧(pc=2→Y<n))∨(op=7∧0≤pc∧pc≤2∧(pc=2→0<Y∧Y<65536∧∀ j:Nat,n≤j→j<16→Kj Y j=false)))
structure OkP (c:CF) (n:Nat) (m:List Int) (l:List FR):Prop where
 wm:Wm m
 may:ku c=true
 cn:c.1=n
 len:(m.length:Int)=eo c
 clen:l.length=n
 frm:∀ i f,l[i]? = some f→adh n i f
 low:∀ j:Nat,n≤j→j<16→Kj (bX m 2) j=false
 par:∀ w:Nat,w<n→bX m (kx c w)=0∨bX m (kx c w)=1
 sgn:∀ (w:Nat) f,l[w]? = some f→Z1 m w+Yu l w+PY c m w=w3B f
 end4:∀ (w:Nat) f,l[w]? = some f→w4B f→PY c m w=1
theorem Nm {l:List FR} {i:Nat} {f g:FR} (hf:l[i]? = some f) (w:Int):Yu (l.set i g) w+W7 f w=Yu l w+W7 g w:=by
 obtain ⟨hi,rfl⟩:=List.getElem?_eq_some_iff.1 hf
 have hle:l[i] ∈ l:=List.getElem_mem _
 unfold Yu W7
 rw [List.countP_set hi]
 by_cases h:MA l[i] w=true
 ·have:0<l.countP fun f=>MA f w:=List.countP_pos_iff.2 ⟨_,hle,h⟩
  simp only [h,if_true]
  omega
 ·simp only [h,if_false]
  simp
theorem OkP.step {c:CF} {n:Nat} {m m':List Int} {l:List FR} (h:OkP c n m l) {i:Nat} {f g:FR} (hf:l[i]? = some f) (wm:Wm m') (len:m'.length=m.length) (hg:adh n i g)
  (low:∀ j:Nat,n≤j→j<16→Kj (bX m' 2) j=false) (par:∀ w:Nat,w<n→bX m' (kx c w)=0∨bX m' (kx c w)=1)
  (sg:∀ w:Nat,w<n→Z1 m' w+W7 g w+PY c m' w+(if w=i then w3B f else 0)=Z1 m w+W7 f w+PY c m w+(if w=i then w3B g else 0))
  (e4:w4B g→PY c m' i=1) (e5:∀ w:Nat,w<n→w≠i→PY c m w=1→PY c m' w=1):OkP c n m' (l.set i g):=by
 have hi:i<l.length:=(List.getElem?_eq_some_iff.1 hf).1
 have key:∀ (w:Nat) (x:FR),(l.set i g)[w]? = some x→w<n∧((w=i∧x=g)∨(w≠i∧l[w]? = some x)):=by
  intro w x hx
  have hw:=(List.getElem?_eq_some_iff.1 hx).1
  rw [List.length_set,h.clen] at hw
  refine ⟨hw,?_⟩
  by_cases e:w=i
  ·subst e
   rw [List.getElem?_set_self hi] at hx
   exact .inl ⟨rfl,(Option.some.inj hx).symm⟩
  ·rw [List.getElem?_set_ne (by omega)] at hx
   exact .inr ⟨e,hx⟩
 refine ⟨wm,h.may,h.cn,by rw [len];exact h.len,by rw [List.length_set];exact h.clen,?_,low,par,?_,?_⟩
 ·intro w x hx
  rcases key w x hx with ⟨_,⟨rfl,rfl⟩ | ⟨_,hx⟩⟩
  ·exact hg
  ·exact h.frm w x hx
 ·intro w x hx
  have ho:=Nm (g:=g) hf (w:Int)
  rcases key w x hx with ⟨hw,⟨rfl,rfl⟩ | ⟨e,hx⟩⟩
  ·have h1:=h.sgn w f hf
   have h2:=sg w hw
   rw [if_pos rfl,if_pos rfl] at h2
   omega
  ·have h1:=h.sgn w x hx
   have h2:=sg w hw
   rw [if_neg e,if_neg e] at h2
   omega
 ·intro w x hx hx4
  rcases key w x hx with ⟨hw,⟨rfl,rfl⟩ | ⟨e,hx⟩⟩
  ·exact e4 hx4
  ·exact e5 w hw e (h.end4 w x hx hx4)
section
variable {c:CF} {m:List Int} {i a5 X:Int} (hmay:ku c=true) (hlen:(m.length:Int)=eo c)
include hmay hlen
end
end Go.Ab
set_option linter.unusedVariables false
namespace Go.Ab
structure Adr (c:CF) (j:Int):Prop where
 on:∀ w x,x=0∨x=1→onW c w x≠j
 slot:∀ w x,0≤x→x≤18446744073709551615→Hn c w x≠j
 seq:∀ x,Z0 c x≠j
 val:∀ x,abC c x≠j
 n0:(0:Int)≠j
 n1:(1:Int)≠j
 n3:(3:Int)≠j
 n4:(4:Int)≠j
 n5:(5:Int)≠j
theorem Pf {a b D x y:Int} (hD:D=1∨D=2∨D=4∨D=8∨D=16) (hx:0≤x∧x<3+D) (hy:0≤y∧y<3+D) (h:x≠y):a*(3+D)+x≠b*(3+D)+y:=by
 rcases hD with rfl | rfl | rfl | rfl | rfl <;> omega
theorem adT {c:CF}:Adr c 2:=by
 refine ⟨fun w x hx => ?_,fun w x h0 h1 => ?_,fun x => ?_,fun x => ?_,by decide,by decide,by decide,by decide,by decide⟩
 ·unfold onW
  split
  ·rename_i h
   have hm:=cw h.1
   have:=fK h.1 h.2.1 (by omega)
   omega
  ·omega
 ·unfold Hn onW
  split
  ·rename_i h
   have hm:=cw h.1
   have:=fK h.1 h.2.1 (by omega)
   have:=Dq h0 h1 (show 1≤c.2.1 by omega) (by omega)
   omega
  ·omega
 ·unfold Z0
  split
  ·rename_i h
   have:=cw h
   have:=Int.emod_nonneg x (show c.2.2.1≠0 by omega)
   omega
  ·omega
 ·unfold abC
  split
  ·rename_i h
   have:=cw h
   have:=Int.emod_nonneg x (show c.2.2.1≠0 by omega)
   omega
  ·omega
theorem ad0 {c:CF} {v:Int} (hc:ku c=true) (h0:0≤v) (h1:v<c.1):Adr c (kx c v):=by
 have hp:kx c v=6+2*c.2.2.1+(v*(3+c.2.1)+2):=by
  unfold kx
  rw [if_pos ⟨hc,h0,h1⟩,C5]
  omega
 have hm:=cw hc
 have ht:=fK hc h0 (by omega)
 rw [hp]
 refine ⟨fun w x hx => ?_,fun w x g0 g1 => ?_,fun x => ?_,fun x => ?_,by omega,by omega,by omega,by omega,by omega⟩
 ·unfold onW
  split
  ·have:=Pf (a:=w) (b:=v) hm.2.2.1 (x:=x) (y:=2) (by omega) (by omega) (by omega)
   unfold C5
   omega
  ·omega
 ·unfold Hn onW
  split
  ·have ha:=Dq g0 g1 (show 1≤c.2.1 by omega) (by omega)
   have:=Pf (a:=w) (b:=v) hm.2.2.1 (x:=3+Ah .u64 x (c.2.1 - 1)) (y:=2) (by omega) (by omega) (by omega)
   unfold C5
   omega
  ·omega
 ·unfold Z0
  rw [if_pos hc]
  have a:=Int.emod_lt_of_pos x (show 0<c.2.2.1 by omega)
  have b:0≤v*(3+c.2.1):=ht.2.2.2
  generalize x%c.2.2.1=g at a ⊢
  omega
 ·unfold abC
  rw [if_pos hc]
  have a:=Int.emod_lt_of_pos x (show 0<c.2.2.1 by omega)
  have b:0≤v*(3+c.2.1):=ht.2.2.2
  generalize x%c.2.2.1=g at a ⊢
  omega
section
variable {c:CF} {m:List Int} {f:FR} {j:Int} (hj:Adr c j) (hf:Wf f)
include hj hf
end
section
variable {c:CF} {m:List Int} {f:FR}
end
def pkW (x:WB):Prop:=x.1=8∧3≤x.2.2.1.2.1
def owF (f:FR) (v:Int):Prop:=f.2.1=2∧f.2.2.2.2.2.1=v
def owW (x:WB) (v:Int):Prop:=x.1=14∧owF x.2.2.1 v
def owS (x:SB) (v:Int):Prop:=x.1=4∧owF x.2.2 v
def Fwk (n w:Int) (x:WB):Prop:=
 (x.1=0∨x.1=2∨x.1=3∨x.1=11∨x.1=12→x.2.2.1.1<5)∧(x.1=5→x.2.2.1=Yr 5 w 0) ∧
 (x.1=6∨x.1=7→x.2.2.1.1=5∧x.2.2.1.2.1=1∧x.2.2.1.2.2.1=w∧x.2.2.1.2.2.2.2.2.2=0) ∧
 (x.1=8→x.2.2.1.1=5∧(0≤x.2.2.1.2.1∧x.2.2.1.2.1≤4)∧x.2.2.1.2.2.1=w∧x.2.2.1.2.2.2.2.2.2=0) ∧
 (x.1=14→x.2.2.1.1=6∧(0≤x.2.2.1.2.1∧x.2.2.1.2.1≤2)∧x.2.2.1.2.2.2.2.2.2=0∧(x.2.2.1.2.1=2→x.2.2.1.2.2.2.2.2.1<n))
def Fsb (n:Int) (x:SB):Prop:=
 (x.1=2→x.2.2.1<5)∧(x.1=4→x.2.2.1=6∧(0≤x.2.2.2.1∧x.2.2.2.1≤2)∧x.2.2.2.2.2.2.2.2=0∧(x.2.2.2.1=2→x.2.2.2.2.2.2.2.1<n))
def acJ (n:Int) (m:List Int):Prop:=∀ j:Int,n≤j→j<16→Kj (bX m 2) j=false
structure Ef (c:CF) (m m':List Int) (pk0 pk1:Prop) (me:Int) (ow0 ow1:Int→Prop):Prop where
 low:acJ c.1 m→acJ c.1 m'
 bit:∀ v,0≤v→v<c.1→Kj (bX m 2) v=true→Kj (bX m' 2) v=true∨ow1 v
 par:∀ v,0≤v→v<c.1→bX m (kx c v)≠0→bX m' (kx c v)≠0∨v=me∧¬ pk1
 owe:∀ v,0≤v→v<c.1→ow0 v→ow1 v∨bX m' (kx c v)≠0
 new:pk1→pk0∨Kj (bX m' 2) me=true∨bX m' (kx c me)≠0
section
variable {c:CF} {m m':List Int} {pk0 pk1:Prop} {me:Int} {ow0 ow1:Int→Prop}
theorem Ef.calm (hc:ku c=true) (h:∀ j,Adr c j→bX m' j=bX m j) (ho:∀ v,ow0 v→ow1 v) (hp:pk1→pk0):Ef c m m' pk0 pk1 me ow0 ow1:=by
 have h2:=h 2 adT
 refine ⟨fun hl j h0 h1=>by rw [h2];exact hl j h0 h1,fun v _ _ hb => .inl (by rw [h2];exact hb),fun v h0 h1 hb => .inl (by rw [h _ (ad0 hc h0 h1)];exact hb),fun v _ _ hv => .inl (ho v hv),fun h => .inl (hp h)⟩
theorem Ef.same (ho:∀ v,ow0 v→ow1 v) (hp:pk1→pk0):Ef c m m pk0 pk1 me ow0 ow1:=
 ⟨fun hl=>hl,fun v _ _ hb => .inl hb,fun v _ _ hb => .inl hb,fun v _ _ hv => .inl (ho v hv),fun h => .inl (hp h)⟩
end
section
variable {c:CF} {m:List Int} {f:FR} (hc:ku c=true) (hl:(m.length:Int)=eo c) (hm:Wm m) (hf:Wf f)
include hc hl hm hf
end
end Go.Ab
set_option linter.unusedVariables false
namespace Go.Ab
section
variable {n w:Int} {x:WB}
end
theorem Ef.mono {c:CF} {m m':List Int} {p0 p1 q0 q1:Prop} {me:Int} {a0 a1 b0 b1:Int→Prop} (h:Ef c m m' p0 p1 me a0 a1) (h1:q1→p1) (h0:p0→q0) (ha:∀ v,b0 v→a0 v) (hb:∀ v,a1 v→b1 v):Ef c m m' q0 q1 me b0 b1:=
 ⟨h.low,fun v g0 g1 hv=>(h.bit v g0 g1 hv).imp id (hb v),fun v g0 g1 hv=>(h.par v g0 g1 hv).imp id fun e=>⟨e.1,fun q=>e.2 (h1 q)⟩,fun v g0 g1 hv=>(h.owe v g0 g1 (ha v hv)).imp (hb v) id,fun q=>(h.new (h1 q)).imp h0 id⟩
section
variable {c:CF} {t:Tyt} {m:List Int} {w:Int} {x:WB} {d:Int}
end
section
variable {c:CF} {t:Tyt} {m:List Int} {i:Int} {x:SB}
end
def aep (W:List WB) (S:List SB) (v:Int):Prop:=(∃ y ∈ W,owW y v)∨∃ y ∈ S,owS y v
structure Sgn (p:PB):Prop where
 w:∀ (i:Nat) x,p.2.2.2.1[i]? = some x→Fwk p.1.1 i x
 s:∀ x ∈ p.2.2.2.2,Fsb p.1.1 x
 low:acJ p.1.1 p.2.2.1
 sg:∀ (i:Nat) x,p.2.2.2.1[i]? = some x→pkW x→Kj (bX p.2.2.1 2) i=true∨bX p.2.2.1 (kx p.1 i)≠0∨aep p.2.2.2.1 p.2.2.2.2 i
end Go.Ab
set_option linter.unusedVariables false
set_option linter.unusedSimpArgs false
namespace Go.Ab
theorem Gs (f:FR):eX f=some (Cp f):=by
 obtain ⟨a0,a1,a2,a3,a4,a5,a6⟩:=f
 unfold eX Cp
 simp only [Vk,ar,S0,L1]
 by_cases h1:a0=5
 ·by_cases h2:a6=0
  ·simp [h1,h2]
  ·have:(a6 !=0)=true:=by simp [h2]
   simp [h1,h2,this]
 ·simp [h1]
def YU (x:WB):Bool:=decide (x.1=8)&&Cp x.2.2.1
theorem F1 (x:WB):eU x=some (YU x):=by
 unfold eU YU
 try simp only [Prod.eta]
 rw [Gs,ar,L1]
 by_cases h:x.1=8
 ·rw [decide_eq_true h,cond_true,Bool.true_and]
 ·rw [decide_eq_false h,cond_false,Bool.false_and]
end Go.Ab
set_option linter.unusedVariables false
namespace Go.Ab
def neD (c:CF) (m:List Int) (v:Int):Prop:=0<GX (bX m (RN c v)) (bX m (OA c v))∧GX (bX m (RN c v)) (bX m (OA c v))≤c.2.1
theorem Pz {k:Nat} (hk:1000≤k) (c:CF) (m:List Int) (v:Int):∃ l b,gu k c m v=some (l,b)∧l.length≤16∧(l=[]∨neD c m v):=by
 unfold gu
 try simp only [Prod.eta]
 rw [gU,ar]
 cases hm:ku c with
 | false=>exact ⟨_,_,rfl,by simp,.inl rfl⟩
 | true=>
  have hc:=cw hm
  rw [Bool.not_true,cond_false,EF,ar]
  cases hb:((m.length:Int)!=eo c) with
  | true=>exact ⟨_,_,rfl,by simp,.inl rfl⟩
  | false=>
   rw [cond_false]
   by_cases h0:v<0
   ·rw [ltT h0]
    exact ⟨_,_,rfl,by simp,.inl rfl⟩
   rw [ltF (by omega),cond_false]
   by_cases h1:c.1≤v
   ·rw [leT h1]
    exact ⟨_,_,rfl,by simp,.inl rfl⟩
   rw [leF (by omega),cond_false,YW,ar,pm,ar,ZQ,ar,pm,ar,Ur,ar]
   by_cases h2:GX (bX m (RN c v)) (bX m (OA c v))<0
   ·rw [ltT h2]
    exact ⟨_,_,rfl,by simp,.inl rfl⟩
   rw [ltF (by omega),cond_false]
   by_cases h3:c.2.1<GX (bX m (RN c v)) (bX m (OA c v))
   ·rw [ltT h3]
    exact ⟨_,_,rfl,by simp,.inl rfl⟩
   rw [ltF (by omega),cond_false]
   generalize hn:GX (bX m (RN c v)) (bX m (OA c v))=n at h2 h3
   have key:∀ (d f i:Nat) (acc:List Int) (e:Nat),(i:Int)+d=n→d<f→acc.length=i→(e=1∨e=0)→∃ l,cU k c m v f (bX m (OA c v)) n acc (i:Int) e=some (l,true)∧(l.length:Int)=n:=by
    intro d
    induction d with
    | zero=>
     intro f i acc e hi hf ha he
     obtain ⟨f,rfl⟩:=gJ hf
     rw [cU,ltF (by omega),cond_false]
     exact ⟨acc,rfl,by omega⟩
    | succ d ih=>
     intro f i acc e hi hf ha he
     obtain ⟨f,rfl⟩:=gJ hf
     have hes:(e==1||e==0)=true:=by rcases he with rfl | rfl <;> rfl
     rw [cU,ltT (by omega),cond_true]
     simp only [Prod.eta]
     rw [VH _ _ (Hm _).1 (Hm _).2,ar,pm,ar,hes,fe,GB (by rw [List.length_append];simp;omega),cond_true,fL (by omega)]
     exact ih f (i+1) _ 1 (by omega) (by omega) (by rw [List.length_append];simp;omega) (.inl rfl)
   obtain ⟨l,hl,hll⟩:=key n.toNat (k+12) 0 [] 0 (by omega) (by omega) rfl (.inr rfl)
   refine ⟨l,true,hl,by omega,?_⟩
   by_cases hz:n=0
   ·exact .inl (List.length_eq_zero_iff.1 (by omega))
   ·refine .inr ?_
    unfold neD
    rw [hn]
    omega
theorem Ri (a b:Int):IntKind.i64.wrap (GX a b)=GX a b:=by
 unfold GX
 simp [IntKind.wrap,IntKind.bits,IntKind.signed]
 omega
theorem KV {k:Nat} (hk:9223372036854779000≤k) {p:PB} (ht:Wt p.2.1) (hw:∀ x ∈ p.2.2.2.1,x.2.1.length≤9000) (hs:∀ x ∈ p.2.2.2.2,x.2.1.length≤1000) (hm:oE p=true) :
  ∃ z,dp k p=some z∧((∀ v:Int,0≤v→v<p.1.1→¬ neD p.1 p.2.2.1 v)→z=GX (bX p.2.2.1 5) (bX p.2.2.1 4)):=by
 obtain ⟨m1,m2,m3,m4,m5⟩:=DW hm
 have hc:=cw m1
 unfold dp
 rw [JI hk ht hw hs,hm,ar,Bool.not_true,cond_false]
 have hlen:fI p.1 p.2.2.1=some (GX (bX p.2.2.1 5) (bX p.2.2.1 4)):=by
  have h0:0<p.2.2.2.1.length:=by omega
  have hsz:=(RI (m4 0 _ (List.getElem?_eq_getElem h0))).2.1
  unfold fI ik
  try simp only [Prod.eta]
  rw [gU,ar,m1,cond_true,EF,ar,L1,decide_eq_true hsz,ar,Bool.not_true,cond_false,pm,ar,pm,ar,Ur,ar]
 rw [hlen,ar]
 have key:∀ (d f i:Nat) (z:Int),(i:Int)+d=p.1.1→d<f→∃ z',ct k p f z (i:Int)=some z'∧((∀ v:Int,(i:Int)≤v→v<p.1.1→¬ neD p.1 p.2.2.1 v)→IntKind.i64.wrap z=z→z'=z):=by
  intro d
  induction d with
  | zero=>
   intro f i z hi hf
   obtain ⟨f,rfl⟩:=gJ hf
   rw [ct,ltF (by omega),cond_false]
   exact ⟨z,rfl,fun _ _=>rfl⟩
  | succ d ih=>
   intro f i z hi hf
   obtain ⟨f,rfl⟩:=gJ hf
   obtain ⟨l,b,hl,hl16,hne⟩:=Pz (k:=k+22) (by omega) p.1 p.2.2.1 (i:Int)
   rw [ct,ltT (by omega),cond_true]
   simp only [Prod.eta]
   rw [hl,ar,fL (by omega)]
   obtain ⟨z',h1,h2⟩:=ih f (i+1) (IntKind.i64.wrap (z+(l.length:Int))) (by omega) (by omega)
   refine ⟨z',h1,fun hv hz => ?_⟩
   rcases hne with rfl | hne
   ·have e:IntKind.i64.wrap (z+(([]:List Int).length:Int))=z:=by simpa using hz
    rw [e] at h2
    exact h2 (fun v a b=>hv v (by omega) b) hz
   ·exact absurd hne (hv i (Int.le_refl _) (by omega))
 obtain ⟨z,h1,h2⟩:=key p.1.1.toNat (k+35) 0 (GX (bX p.2.2.1 5) (bX p.2.2.1 4)) (by omega) (by omega)
 exact ⟨z,h1,fun hv=>h2 hv (Ri _ _)⟩
end Go.Ab
set_option linter.unusedVariables false
set_option linter.unusedSimpArgs false
namespace Go.Ab
def Wby (l:List Int):Prop:=∀ x ∈ l,0≤x∧x≤255
section
variable {k:Nat} (hk:10000≤k) {b:List Int} (hb:Wby b) (hl:b.length≤2000)
include hk hb hl
end
section
variable {k:Nat} (hk:100≤k) {w s:Nat} (hw:w≤20) (hs:s≤20) (d:Int)
include hk hw hs
end
def AC (c:CF) (m:List Int):Nat→List WB→Bool
 | _,[]=>true
 | i,x::l=>YU x&&decide (bX m (kx c i)=0)&&AC c m (i+1) l
def SZ (p:PB):Bool:=oE p && !(p.2.2.2.2.any fun x => !decide (x.1=0))&&AC p.1 p.2.2.1 0 p.2.2.2.1
def Mc (p:PB):Bool:=SZ p&&decide (bX p.2.2.1 0=0) && !(p.2.2.2.2.any fun x=>decide (0<(x.2.1.length:Int)))
theorem PD (x:SB):eT x=some (!decide (x.1=0)):=by
 unfold eT
 rw [YE]
theorem QL (k:Nat) (hk:100≤k) {S:List SB} (hS:S.length≤20):aN k S=some (S.any fun x => !decide (x.1=0)):=by
 unfold aN ba
 have h:az (k+8) S (k+8+8) 0=some (Cn (fun x => !decide (x.1=0)) S 0):=by
  refine DT (F:=fun n i=>az (k+8) S n i) (l:=S) _ ?_ ?_ _ (by omega)
  ·intro n
   simp only [az,oj,cond_false]
  ·intro n i x hi hx
   simp only [az,ltN hi,cond_true,fj hx,ar,Prod.eta,PD]
   rw [fL (by omega)]
 rw [h,ar,lW]
theorem Pp (k:Nat) (hk:100≤k) {S:List SB} (hS:S.length≤20):aK k S=some (S.any fun x=>decide (0<(x.2.1.length:Int))):=by
 unfold aK aX
 have h:av (k+8) S (k+8+8) 0=some (Cn (fun x=>decide (0<(x.2.1.length:Int))) S 0):=by
  refine DT (F:=fun n i=>av (k+8) S n i) (l:=S) _ ?_ ?_ _ (by omega)
  ·intro n
   simp only [av,oj,cond_false]
  ·intro n i x hi hx
   simp only [av,ltN hi,cond_true,fj hx,ar,fb]
   rw [fL (by omega)]
 rw [h,ar,lW]
section
variable {k:Nat} (hk:9223372036854779000≤k) {p:PB} (ht:Wt p.2.1) (hw:∀ x ∈ p.2.2.2.1,x.2.1.length≤9000) (hs:∀ x ∈ p.2.2.2.2,x.2.1.length≤1000)
include hk ht hw hs
theorem EQ:dm k p=some (SZ p):=by
 unfold dm SZ
 rw [JI hk ht hw hs,ar]
 cases hm:oE p with
 | false=>rfl
 | true=>
  obtain ⟨h1,h2,h3,h4,h5⟩:=DW hm
  have hc:=cw h1
  rw [Bool.not_true,cond_false,QL _ (by omega) (by omega),ar]
  cases p.2.2.2.2.any fun x => !decide (x.1=0) with
  | true=>rfl
  | false=>
   rw [cond_false,Bool.not_false,Bool.and_true,Bool.true_and]
   have key:∀ (r:List WB) (q n:Nat),p.2.2.2.1.drop q=r→q≤p.2.2.2.1.length→r.length<n→cr k p n (q:Int)=some (AC p.1 p.2.2.1 q r):=by
    intro r
    induction r with
    | nil=>
     intro q n hr hq hn
     obtain ⟨n,rfl⟩:=gJ hn
     have:=dX hr
     rw [cr,ltF (by omega),cond_false,AC]
    | cons v r ih=>
     intro q n hr hq hn
     obtain ⟨n,rfl⟩:=gJ hn
     obtain ⟨g0,g1,g2,_,g4⟩:=dc hr
     have hlay:eh p.1 (q:Int)=some (kx p.1 (q:Int)):=UH p.1 _
     rw [cr,ltN g0,cond_true,fj g1,ar]
     simp only [Prod.eta,F1,ar,hlay,pm]
     rw [AC,fL (by omega),ih (q+1) n g2 (by omega) (by simp only [List.length_cons] at hn;omega),YE]
     cases YU v with
     | false=>rfl
     | true=>
      by_cases h:bX p.2.2.1 (kx p.1 q)=0
      ·rw [decide_eq_true h];rfl
      ·rw [decide_eq_false h];rfl
   have:=key p.2.2.2.1 0 (k+35) rfl (Nat.zero_le _) (by omega)
   exact this
theorem NM:eb k p=some (Mc p):=by
 unfold eb Mc
 rw [EQ hk ht hw hs,ar]
 cases ha:SZ p with
 | false=>rfl
 | true=>
  have hm:oE p=true:=by
   unfold SZ at ha
   simp only [Bool.and_eq_true] at ha
   exact ha.1.1
  obtain ⟨h1,h2,h3,h4,h5⟩:=DW hm
  rw [cond_true,pm,ar,L1]
  by_cases h:bX p.2.2.1 0=0
  ·rw [decide_eq_true h,cond_true,Pp _ (by omega) (by omega),ar]
   rfl
  ·rw [decide_eq_false h]
   rfl
end
end Go.Ab
namespace Go.Ab
open Go.WideShapes
structure Ll (l:List (List Int)):Prop where
 len:l.length≤9223372036854775807
 each:∀ x ∈ l,x.length≤9223372036854775807
theorem aaj {l:List (List Int)} (hm:l.length≤maxLen) (h:∀ x ∈ l,(∀ n ∈ x,i64 n)∧x.length≤maxLen):Ll l:=⟨Xv hm,fun x hx=>Xv (h x hx).2⟩
end Go.Ab
namespace Go.Ab
open Go.WideShapes
end Go.Ab
namespace Go.Ab
open Go.WideShapes
end Go.Ab
namespace Go.Ab
open Go.WideShapes
end Go.Ab
