import Derived.Test.YtblpbpnilkfjhaaGreatAbLibC
import Derived.Test.YtblpbpnilkfjhaaGreatR6G0A
import Derived.WideShapes
set_option linter.unusedVariables false
set_option linter.unusedSimpArgs false
set_option linter.unusedVariables false
namespace Go.Ab
def r9 (x:Int×List Int):Bool:=decide (x.1<0)||decide (20<x.1)
def d8:Nat→Tyt→List (Int×Int)
 | _,[]=>[]
 | i,x::r=>x.2.map (fun k=>(k,(i:Int)))++d8 (i+1) r
def By (n:Nat) (had:List Bool) (q:Int×Int):Bool:=decide (q.1≤q.2)||decide ((n:Int)≤q.1)||(had[q.1.toNat]?).getD true
abbrev Zg (n:Nat) := { h:List Bool // h.length=n }
def gA (n:Nat) (had:Zg n) (q:Int×Int):Bool×Zg n:=
 if By n had.1 q then (false,had) else (true,⟨had.1.set q.1.toNat true,by simp [had.2]⟩)
def Kw (n:Nat):Zg n:=⟨List.replicate n false,by simp⟩
def ow (t:Tyt):Bool:=decide (t.length≤30) && !(t.any r9)&&(Eu (gA t.length) (d8 0 t) (Kw t.length)).1
structure Wt (t:Tyt):Prop where
 len:t.length≤9223372036854775807
 kids:∀ x ∈ t,x.2.length≤9223372036854775807
def lh (k:Int) (r:Int) (q:Int×Int):Bool×Int:=if q.1=k then (false,q.2) else (true,r)
def dr (t:Tyt) (k:Int):Int:=
 if ow t then (if (Eu (lh k) (d8 0 t) 0).1 then -1 else (Eu (lh k) (d8 0 t) 0).2) else -1
def afg (t:Tyt):Bool:=(t.take 41).all (fun x=>decide (x.2.length≤40))&&decide (t.length≤40)
def r5 (n:Int):Bool:=(n==1)||(n==2)
def acY (n:Int):Bool:=decide (n<0)||decide (3<n)
def Fq (s:List Int):Bool := !(s.any r5)
def iT (t:Tyt) (s:List Int):Bool:=ow t&&(s.length==t.length) && !(s.any acY)
def B3 (t:Tyt) (s:List Int) (kind q:Int):Option Int:=
 let at_:=(s[q.toNat]?).getD 0
 let up:=dr t q
 if kind=0 then (if at_=0∧up<0 then some 1 else none)
 else if kind=1 then (if at_=0∧up<0 then some 0 else none)
 else if kind=3 then (if at_=0∧0≤up∧s[up.toNat]? = some 2 then some 1 else none)
 else if kind=2 then (if at_=1 then some 2 else none)
 else if kind=4 then (if at_=2∧((((t[q.toNat]?).getD (0,[])).2.any fun i=>(idx s i).getD 1==0)=false) then some 3 else none)
 else none
def gD (t:Tyt) (s:List Int) (e:Int×Int×Int):List Int×Bool:=
 if iT t s=false then (s,false)
 else if e.1=5 then (s,Fq s)
 else if e.2.1<0∨(t.length:Int)≤e.2.1 then (s,false)
 else match B3 t s e.1 e.2.1 with
  | some n=>(s.set e.2.1.toNat n,true)
  | none=>(s,false)
def Mk (t:Tyt):List Int:=if ow t then List.replicate t.length (0:Int) else []
def Gc (t:Tyt):Tye→List Int→List Int×Bool
 | [],s=>(s,true)
 | e::l,s=>if (gD t s e).2=true then Gc t l (gD t s e).1 else ((gD t s e).1,false)
def Ue (t:Tyt) (l:Tye):List Int×Bool:=Gc t l (Mk t)
theorem BM {t:Tyt} (h1:ow t=true):t.length≤30:=by
 unfold ow at h1
 simp only [Bool.and_eq_true,decide_eq_true_eq] at h1
 exact h1.1.1
theorem Dk {α:Type} {l:List α} {F:Nat→Int→Option Int} (p:α→Bool)
  (h0:∀ n,F (n+1) (l.length:Int)=some (-1))
  (h1:∀ n (i:Nat) x,i<l.length→l[i]? = some x→F (n+1) (i:Int)=bif p x then some (i:Int) else F n ((i+1:Nat):Int))
  (n:Nat) (hn:l.length<n):F n 0=some (JE p l 0):=by
 have key:∀ r i n,l.drop i=r→i≤l.length→r.length<n→F n (i:Int)=some (JE p r i):=by
  intro r
  induction r with
  | nil=>
   intro i n hr hi hn
   obtain ⟨n,rfl⟩:=iZ hn
   have:i=l.length:=by have:=eb hr;omega
   subst this
   rw [h0]
   rfl
  | cons x r ih=>
   intro i n hr hi hn
   obtain ⟨n,rfl⟩:=iZ hn
   obtain ⟨a,b,c,d,e⟩:=cW hr
   rw [h1 n i x a b]
   simp only [JE]
   cases p x with
   | true=>rfl
   | false=>exact ih (i+1) n c (by omega) (by simp only [List.length_cons] at hn;omega)
 have:=key l 0 n rfl (Nat.zero_le _) hn
 simpa using this
theorem E3 (x y : Int) : (x != y) = !decide (x = y) := by by_cases h : x = y <;> simp [h]
theorem nM (x y:Int):(x==y)=decide (x=y):=by by_cases h:x=y <;> simp [h]
theorem pp {α:Type} (l:List α):decide ((l.length:Int)<(l.length:Int))=false:=decide_eq_false (by omega)
theorem ltN {i n:Nat} (h:i<n):decide ((i:Int)<(n:Int))=true:=decide_eq_true (by omega)
theorem fx {z:Int} (h : -9223372036854775808≤z∧z≤9223372036854775807):IntKind.i64.wrap z=z:=XG h.1 h.2
theorem ajt {α β:Type} {a:List α} {b:List β}:((a.length:Int)==(b.length:Int))=decide (a.length=b.length):=by
 by_cases h:a.length=b.length
 ·simp [h]
 ·have:(a.length:Int)≠(b.length:Int):=by omega
  simp [h,this]
end Go.Ab
set_option linter.unusedVariables false
namespace Go.Ab
open Go
abbrev CF:=Int×Int×Int×Int
abbrev FR:=Int×Int×Int×Int×Int×Int×Int
def dl (c:CF):Bool:=decide (1≤c.1∧c.1≤8∧(c.2.1=1∨c.2.1=2∨c.2.1=4∨c.2.1=8∨c.2.1=16)∧1≤c.2.2.1∧c.2.2.1≤16∧0≤c.2.2.2∧c.2.2.2≤4)
def AD (c:CF) (w:Int):Int:=6+2*c.2.2.1+w*(3+c.2.1)
def bN (c:CF):Int:=if dl c=true then AD c c.1 else 0
def f6 (c:CF) (w:Int):Int:=if dl c=true∧0≤w∧w<c.1 then AD c w+2 else -1
def ah (m:List Int) (i:Int):Int:=if 0≤i then (m[i.toNat]?).getD 0 else 0
def ao (m:List Int) (i v:Int):List Int:=if 0≤i then m.set i.toNat v else m
def ub (m:List Int) (i old new:Int):List Int×Bool:=if 0≤i∧i<m.length∧ah m i=old then (ao m i new,true) else (m,false)
def epB (e:Int):Int:=e/65536
def mkB (e:Int):Int:=e%65536
def uE (x w:Int):Bool:=decide (x/2 ^ w.toNat%2=1)
def PO (e w:Int):Int:=if 0≤w∧w<16∧uE e w=false then e+2 ^ w.toNat else e
def ej (f:FR):Bool:=f.2.2.2.2.2.2 !=0
def fw (f:FR) (res val:Int):FR:=(f.1,0,f.2.2.1,val,0,0,res)
def uO (c:CF) (m:List Int) (f:FR) (op pcs:Int):Bool:=dl c&&decide ((m.length:Int)=bN c)&&decide (f.2.2.2.2.2.2=0∧0≤f.2.2.1∧f.2.2.1<c.1∧f.1=op∧0≤f.2.1∧f.2.1<pcs)
def Co (c:CF) (m:List Int) (f:FR):List Int×FR:=
 if uO c m f 5 5=false then (m,f)
 else if f.2.1=0 then (m,f.1,1,f.2.2.1,f.2.2.2.1,ah m 2,f.2.2.2.2.2)
 else if f.2.1=1 then (if epB (ah m 2)=epB f.2.2.2.2.1 then (m,f.1,2,f.2.2.1,f.2.2.2.1,f.2.2.2.2.1,ah m 2,f.2.2.2.2.2.2) else (m,fw f 4 0))
 else if f.2.1=2 then (let r:=ub m 2 f.2.2.2.2.2.1 (PO f.2.2.2.2.2.1 f.2.2.1);(r.1,f.1,if r.2=true then 3 else 1,f.2.2))
 else if f.2.1=3 then (let y:=ah m (f6 c f.2.2.1);(m,f.1,if y=0 then 3 else 4,f.2.2.1,f.2.2.2.1,f.2.2.2.2.1,y,f.2.2.2.2.2.2))
 else (ao m (f6 c f.2.2.1) 0,fw f 1 0)
def Jy (f:FR):Bool:=decide (f.1=5∧f.2.2.2.2.2.2=0∧f.2.1=3)
structure Wm (m:List Int):Prop where
 len:m.length≤9223372036854775807
 num:∀ x ∈ m,0≤x∧x≤18446744073709551615
theorem mG {z:Int} (h0:0≤z) (h1:z≤18446744073709551615):IntKind.u64.wrap z=z:=by
 simp [IntKind.wrap,IntKind.bits,IntKind.signed]
 omega
theorem Ud {a b:Nat} (ha:a<18446744073709551616) (hb:b<18446744073709551616):AP .u64 (a:Int) (b:Int)=((a &&& b:Nat):Int):=by
 unfold AP
 have h:(BitVec.ofInt IntKind.u64.bits (a:Int) &&& BitVec.ofInt IntKind.u64.bits (b:Int)).toNat=a &&& b:=by
  rw [BitVec.toNat_and]
  have e:IntKind.u64.bits=64:=rfl
  rw [e]
  simp only [BitVec.ofInt_natCast,BitVec.toNat_ofNat]
  rw [Nat.mod_eq_of_lt (by omega),Nat.mod_eq_of_lt (by omega)]
 rw [h]
 have:a &&& b≤a:=Nat.and_le_left
 exact mG (by omega) (by omega)
theorem orU {a b:Nat} (ha:a<18446744073709551616) (hb:b<18446744073709551616):orI .u64 (a:Int) (b:Int)=((a ||| b:Nat):Int):=by
 unfold orI
 have h:(BitVec.ofInt IntKind.u64.bits (a:Int) ||| BitVec.ofInt IntKind.u64.bits (b:Int)).toNat=a ||| b:=by
  rw [BitVec.toNat_or]
  have e:IntKind.u64.bits=64:=rfl
  rw [e]
  simp only [BitVec.ofInt_natCast,BitVec.toNat_ofNat]
  rw [Nat.mod_eq_of_lt (by omega),Nat.mod_eq_of_lt (by omega)]
 rw [h]
 have:a ||| b<2 ^ 64:=Nat.or_lt_two_pow (by omega) (by omega)
 exact mG (by omega) (by omega)
theorem Xz {e:Int} (h0:0≤e) (h1:e≤18446744073709551615):AP .u64 e 65535=mkB e:=by
 obtain ⟨n,rfl⟩:∃ n:Nat,e=n:=⟨e.toNat,by omega⟩
 have:=Ud (a:=n) (b:=65535) (by omega) (by omega)
 have h2:((65535:Nat):Int)=65535:=rfl
 rw [h2] at this
 rw [this,mkB]
 have h3:n &&& 65535=n%65536:=Nat.and_two_pow_sub_one_eq_mod n 16
 rw [h3]
 omega
theorem aeu {e w:Int} (h0:0≤e) (hw:0≤w) (hw2:w≤64):XE .u64 e w=e/2 ^ w.toNat:=by
 unfold XE
 have e1:IntKind.u64.bits=64:=rfl
 rw [e1]
 have:min w.toNat 64=w.toNat:=by omega
 rw [this,Int.fdiv_eq_ediv_of_nonneg _ (Int.le_of_lt (Int.pow_pos (by decide)))]
theorem XW {e:Int} (h0:0≤e):XE .u64 e 16=epB e:=by
 rw [aeu h0 (by decide) (by decide)]
 rfl
theorem akU {x:Int} (h0:0≤x) (h1:x≤18446744073709551615):AP .u64 x 1=x%2:=by
 obtain ⟨n,rfl⟩:∃ n:Nat,x=n:=⟨x.toNat,by omega⟩
 have:=Ud (a:=n) (b:=1) (by omega) (by omega)
 have h2:((1:Nat):Int)=1:=rfl
 rw [h2] at this
 rw [this,Nat.and_one_is_mod]
 omega
theorem YK {x w:Int} (h0:0≤x) (h1:x≤18446744073709551615):0≤x/2 ^ w.toNat∧x/2 ^ w.toNat≤18446744073709551615:=by
 have hp:(0:Int)<2 ^ w.toNat:=Int.pow_pos (by decide)
 have:=Int.ediv_nonneg h0 (Int.le_of_lt hp)
 have:=Int.ediv_le_self (2 ^ w.toNat) h0
 omega
theorem aoz {x w:Int} (h0:0≤x) (h1:x≤18446744073709551615) (hw:0≤w) (hw2:w≤64):(AP .u64 (XE .u64 x w) 1==1)=uE x w:=by
 have:=YK (w:=w) h0 h1
 rw [aeu h0 hw hw2,akU this.1 this.2,uE,nM]
theorem anF {w:Int} (hw:0≤w) (hw2:w<64):Uy .u64 1 w=2 ^ w.toNat:=by
 unfold Uy
 have e1:IntKind.u64.bits=64:=rfl
 rw [e1]
 have:min w.toNat 64=w.toNat:=by omega
 rw [this,Int.one_mul]
 have h1:(2:Nat) ^ w.toNat≤2 ^ 63:=Nat.pow_le_pow_right (by decide) (by omega)
 have h2:((2 ^ w.toNat:Nat):Int)=(2:Int) ^ w.toNat:=by rw [Int.natCast_pow];rfl
 have h3:(0:Int)<2 ^ w.toNat:=Int.pow_pos (by decide)
 exact mG (by omega) (by omega)
theorem aeR {e w:Int} (h0:0≤e) (h1:e≤18446744073709551615) (hw:0≤w) (hw2:w<16):orI .u64 e (2 ^ w.toNat)=PO e w:=by
 obtain ⟨n,rfl⟩:∃ n:Nat,e=n:=⟨e.toNat,by omega⟩
 have hp:(2:Nat) ^ w.toNat≤2 ^ 15:=Nat.pow_le_pow_right (by decide) (by omega)
 have h2:((2 ^ w.toNat:Nat):Int)=(2:Int) ^ w.toNat:=by rw [Int.natCast_pow];rfl
 rw [← h2,orU (by omega) (by omega)]
 have hb:uE (n:Int) w=n.testBit w.toNat:=by
  rw [uE,Nat.testBit_eq_decide_div_mod_eq,← h2]
  have:((n:Int)/((2 ^ w.toNat:Nat):Int))%2=((n/2 ^ w.toNat%2:Nat):Int):=by rw [Int.natCast_emod,Int.natCast_ediv];rfl
  rw [this]
  congr 1
  apply propext
  omega
 unfold PO
 cases ht:n.testBit w.toNat with
 | true=>
  rw [hb,ht,if_neg (by simp)]
  congr 1
  apply Nat.eq_of_testBit_eq
  intro i
  rw [Nat.testBit_or,Nat.testBit_two_pow]
  by_cases hi:w.toNat=i
  ·subst hi;simp [ht]
  ·simp [hi]
 | false=>
  rw [hb,ht,if_pos ⟨hw,hw2,rfl⟩,← h2]
  have h3:(BitVec.ofNat 80 n) &&& (BitVec.ofNat 80 (2 ^ w.toNat))=0#80:=by
   apply BitVec.eq_of_toNat_eq
   rw [BitVec.toNat_and]
   simp only [BitVec.toNat_ofNat]
   rw [Nat.mod_eq_of_lt (by omega),Nat.mod_eq_of_lt (by omega),Nat.zero_mod]
   apply Nat.eq_of_testBit_eq
   intro i
   rw [Nat.testBit_and,Nat.testBit_two_pow,Nat.zero_testBit]
   by_cases hi:w.toNat=i
   ·subst hi;simp [ht]
   ·simp [hi]
  have h4:=congrArg BitVec.toNat (BitVec.add_eq_or_of_and_eq_zero _ _ h3)
  rw [BitVec.toNat_add,BitVec.toNat_or] at h4
  simp only [BitVec.toNat_ofNat] at h4
  rw [Nat.mod_eq_of_lt (show n<2 ^ 80 by omega),Nat.mod_eq_of_lt (show 2 ^ w.toNat<2 ^ 80 by omega),Nat.mod_eq_of_lt (show n+2 ^ w.toNat<2 ^ 80 by omega)] at h4
  rw [← h4]
  omega
theorem cB {m:List Int} (hm:Wm m) (i:Int):0≤ah m i∧ah m i≤18446744073709551615:=by
 unfold ah
 split
 ·cases h:m[i.toNat]? with
  | none=>simp
  | some x=>exact hm.num x (List.mem_of_getElem? h)
 ·omega
theorem YW {e w:Int} (h0:0≤e) (h1:e≤18446744073709551615):0≤PO e w∧PO e w≤18446744073709551615:=by
 unfold PO
 split
 ·rename_i h
  have hs:=aeR h0 h1 h.1 h.2.1
  unfold PO at hs
  rw [if_pos h] at hs
  rw [← hs]
  obtain ⟨n,rfl⟩:∃ n:Nat,e=n:=⟨e.toNat,by omega⟩
  have hp:(2:Nat) ^ w.toNat≤2 ^ 15:=Nat.pow_le_pow_right (by decide) (by omega)
  have h2:((2 ^ w.toNat:Nat):Int)=(2:Int) ^ w.toNat:=by rw [Int.natCast_pow];rfl
  rw [← h2,orU (by omega) (by omega)]
  have:n ||| 2 ^ w.toNat<2 ^ 64:=Nat.or_lt_two_pow (by omega) (by omega)
  omega
 ·omega
end Go.Ab
set_option maxRecDepth 100000
set_option linter.unusedVariables false
namespace Go.Ab
theorem aC {c:CF} (h:dl c=true):1≤c.1∧c.1≤8∧(c.2.1=1∨c.2.1=2∨c.2.1=4∨c.2.1=8∨c.2.1=16)∧1≤c.2.2.1∧c.2.2.1≤16∧0≤c.2.2.2∧c.2.2.2≤4:=by
 unfold dl at h
 exact of_decide_eq_true h
theorem dV {c:CF} (h:dl c=true) {w:Int} (h0:0≤w) (h1:w≤8):8≤AD c w∧AD c w≤190∧w*(3+c.2.1)≤152∧0≤w*(3+c.2.1):=by
 obtain ⟨_,_,hD,_,_,_,_⟩:=aC h
 have a:0≤w*(3+c.2.1):=Int.mul_nonneg h0 (by omega)
 have b:w*(3+c.2.1)≤8*19:=Int.mul_le_mul h1 (by omega) (by omega) (by omega)
 unfold AD
 omega
theorem ab4 (a b c:Int):fq a b c=some (decide (b≤a∧a≤c)):=by
 unfold fq
 by_cases h:b≤a
 ·simp [h]
 ·simp [h]
theorem alz {D:Int} (h1:1≤D) (h2:D≤16):(AP IntKind.i64 D (IntKind.i64.wrap (D - 1))==0)=decide (D=1∨D=2∨D=4∨D=8∨D=16):=by
 have:D=1∨D=2∨D=3∨D=4∨D=5∨D=6∨D=7∨D=8∨D=9∨D=10∨D=11∨D=12∨D=13∨D=14∨D=15∨D=16:=by omega
 rcases this with rfl | rfl | rfl | rfl | rfl | rfl | rfl | rfl | rfl | rfl | rfl | rfl | rfl | rfl | rfl | rfl <;> decide +kernel
theorem ij (c:CF):cg c=some (dl c):=by
 obtain ⟨W,D,I,S⟩:=c
 unfold cg dl
 simp only [ab4,ab]
 by_cases h1:1≤W∧W≤8
 ·rw [decide_eq_true h1,cond_true]
  by_cases h2:1≤D∧D≤16
  ·rw [decide_eq_true h2,cond_true,alz h2.1 h2.2]
   by_cases h3:D=1∨D=2∨D=4∨D=8∨D=16
   ·rw [decide_eq_true h3,cond_true]
    by_cases h4:1≤I∧I≤16
    ·rw [decide_eq_true h4,cond_true]
     congr 1
     apply decide_eq_decide.2
     omega
    ·rw [decide_eq_false h4,cond_false]
     symm
     congr 1
     apply decide_eq_false
     omega
   ·rw [decide_eq_false h3,cond_false]
    symm
    congr 1
    apply decide_eq_false
    omega
  ·rw [decide_eq_false h2,cond_false]
   symm
   congr 1
   apply decide_eq_false
   omega
 ·rw [decide_eq_false h1,cond_false]
  symm
  congr 1
  apply decide_eq_false
  omega
theorem Hd {c:CF} (h:dl c=true) {w:Int} (h0:0≤w) (h1:w≤8):f7 c w=some (AD c w):=by
 have ht:=dV h h0 h1
 have hm:=aC h
 obtain ⟨W,D,I,S⟩:=c
 simp only [AD] at ht hm ⊢
 unfold f7
 simp only
 rw [fx (z:=2*I) (by omega),fx (z:=6+2*I) (by omega),fx (z:=3+D) (by omega),fx (z:=w*(3+D)) (by omega),fx (by omega)]
theorem DT (c:CF):ez c=some (bN c):=by
 unfold ez bN
 try simp only [Prod.eta]
 rw [ij,ab]
 cases h:dl c with
 | false=>rfl
 | true=>
  have hm:=aC h
  rw [Bool.not_true,cond_false,if_pos rfl,Hd h (by omega) (by omega),ab]
theorem mZ (f:FR):aM f=some (ej f):=rfl
theorem lG (f:FR) (r v:Int):aU f r v=some (fw f r v):=rfl
theorem Lb (c : CF) (m : List Int) (f : FR) (op pcs : Int) : fK c m f op pcs = some (uO c m f op pcs) := by
  obtain ⟨a0, a1, a2, a3, a4, a5, a6⟩ := f
  unfold fK uO
  try simp only [Prod.eta]
  rw [ij, ab]
  cases h : dl c with
  | false => rfl
  | true =>
    rw [cond_true, DT, ab, nM]
    by_cases h1 : (m.length : Int) = bN c
    · rw [decide_eq_true h1, cond_true, mZ, ab, ej]
      simp only
      by_cases h2 : a6 = 0
      · subst h2
        have e : (!((0 : Int) != 0)) = true := rfl
        rw [e, cond_true]
        by_cases h3 : 0 ≤ a2
        · rw [leT h3, cond_true]
          by_cases h4 : a2 < c.1
          · rw [ltT h4, cond_true, nM]
            by_cases h5 : a0 = op
            · rw [decide_eq_true h5, cond_true]
              by_cases h6 : 0 ≤ a1
              · rw [leT h6, cond_true]
                simp [h3, h4, h5, h6]
              · rw [leF (by omega), cond_false]
                simp [h6]
            · rw [decide_eq_false h5, cond_false]
              simp [h5]
          · rw [ltF (by omega), cond_false]
            simp [h4]
        · rw [leF (by omega), cond_false]
          simp [h3]
      · have e : (!(a6 != 0)) = false := by simp [h2]
        rw [e, cond_false]
        simp [h2]
    · rw [decide_eq_false h1, cond_false]
      simp
theorem KT (c:CF) (w:Int):fX c w=some (f6 c w):=by
 unfold fX f6
 try simp only [Prod.eta]
 rw [ij,ab]
 cases h:dl c with
 | false=>simp
 | true=>
  have hm:=aC h
  rw [Bool.not_true,cond_false,fx (by omega),ab4,ab]
  by_cases h1:0≤w∧w≤c.1 - 1
  ·have ht:=dV h h1.1 (by omega)
   rw [decide_eq_true h1,Bool.not_true,cond_false,Hd h (by omega) (by omega),ab,fx (by omega),if_pos ⟨rfl,by omega,by omega⟩]
  ·rw [decide_eq_false h1,Bool.not_false,cond_true,if_neg (by omega)]
theorem ahP (m:List Int) (i:Int):kO m i=some (decide (0≤i∧i<m.length)):=by
 unfold kO
 by_cases h:0≤i
 ·simp [h]
 ·simp [h]
theorem nW {m:List Int} {i:Int} (h:0≤i∧i<m.length):idx m i=some (ah m i)∧m[i.toNat]? = some (ah m i):=by
 have h2:i.toNat<m.length:=by omega
 rw [idx,if_pos h.1,ah,if_pos h.1,List.getElem?_eq_getElem h2]
 exact ⟨rfl,rfl⟩
theorem SI {m:List Int} {i:Int} (h:¬ (0≤i∧i<m.length)):ah m i=0:=by
 unfold ah
 split
 ·rw [List.getElem?_eq_none (by omega)]
  rfl
 ·rfl
theorem Qd {m:List Int} {i v:Int} (h:¬ (0≤i∧i<m.length)):ao m i v=m:=by
 unfold ao
 split
 ·rw [List.set_eq_of_length_le (by omega)]
 ·rfl
theorem kU {m:List Int} {i v:Int}:(ao m i v).length=m.length:=by
 unfold ao
 split <;> simp
theorem Wm.set {m:List Int} (h:Wm m) (i:Int) {v:Int} (h0:0≤v) (h1:v≤18446744073709551615):Wm (ao m i v):=by
 refine ⟨by rw [kU];exact h.len,fun x hx => ?_⟩
 unfold ao at hx
 split at hx
 ·rcases List.mem_or_eq_of_mem_set hx with hx | rfl
  ·exact h.num x hx
  ·exact ⟨h0,h1⟩
 ·exact h.num x hx
theorem Wm.cas {m:List Int} (h:Wm m) (i o:Int) {v:Int} (h0:0≤v) (h1:v≤18446744073709551615):Wm (ub m i o v).1:=by
 unfold ub
 split
 ·exact h.set i h0 h1
 ·exact h
theorem ff (m:List Int) (i:Int):aJ m i=some (ah m i):=by
 unfold aJ
 rw [ahP,ab]
 by_cases h:0≤i∧i<m.length
 ·rw [decide_eq_true h,Bool.not_true,cond_false,(nW h).1,ab]
 ·rw [decide_eq_false h,Bool.not_false,cond_true,SI h]
theorem bH {α:Type} {b:Nat} {l:List α} (h:l.length*b≤70368744177664):aN b l=some l:=by
 unfold aN
 have:Nat.ble (l.length*b) 70368744177664=true:=Nat.ble_eq_true_of_le h
 rw [this,bC]
section
variable {m:List Int} (hl:m.length≤1000)
include hl
theorem mA (i v:Int):bB m i v=some (ao m i v):=by
 unfold bB
 rw [bH (by omega),ab,ahP,ab]
 by_cases h:0≤i∧i<m.length
 ·rw [decide_eq_true h,Bool.not_true,cond_false,(nW h).1,ab,decide_eq_true (by omega),cond_true,(nW h).2,ab,ab,ao,if_pos h.1]
 ·rw [decide_eq_false h,Bool.not_false,cond_true,Qd h]
theorem JP (i o v:Int):dJ m i o v=some (ub m i o v):=by
 unfold dJ ub
 rw [bH (by omega),ab,ahP,ab]
 by_cases h:0≤i∧i<m.length
 ·rw [decide_eq_true h,Bool.not_true,cond_false,(nW h).1,ab,E3]
  by_cases h2:ah m i=o
  ·rw [decide_eq_true h2,Bool.not_true,cond_false,decide_eq_true (by omega),cond_true,(nW h).2,ab,ab,if_pos ⟨h.1,h.2,h2⟩,ao,if_pos h.1]
  ·rw [decide_eq_false h2,Bool.not_false,cond_true,decide_eq_true (by omega),cond_true,(nW h).2,ab,ab,if_neg (fun hh=>h2 hh.2.2)]
   have:=(nW h).2
   rw [List.getElem?_eq_some_iff] at this
   obtain ⟨h3,h4⟩:=this
   rw [← h4,List.set_getElem_self]
 ·rw [decide_eq_false h,Bool.not_false,cond_true,if_neg (fun hh=>h ⟨hh.1,hh.2.1⟩)]
end
theorem aiO {e w:Int} (h0:0≤e) (h1:e≤18446744073709551615):m8 e w=some (PO e w):=by
 unfold m8
 by_cases h2:w<0
 ·rw [ltT h2,cond_true,PO,if_neg (by omega)]
 ·rw [ltF (by omega),cond_false]
  by_cases h3:16≤w
  ·rw [leT h3,cond_true,PO,if_neg (by omega)]
  ·rw [leF (by omega),cond_false,leT (by omega),cond_true,anF (by omega) (by omega),aeR h0 h1 (by omega) (by omega)]
theorem Es {e:Int} (h0:0≤e):eG e=some (epB e):=by
 unfold eG
 rw [XW h0]
theorem DZ {e:Int} (h0:0≤e) (h1:e≤18446744073709551615):dx e=some (mkB e):=by
 unfold dx
 rw [Xz h0 h1]
def Wf (f:FR):Prop:=(0≤f.2.2.2.1∧f.2.2.2.1≤18446744073709551615)∧(0≤f.2.2.2.2.1∧f.2.2.2.2.1≤18446744073709551615)∧(0≤f.2.2.2.2.2.1∧f.2.2.2.2.2.1≤18446744073709551615)
theorem EQ {c:CF} {m:List Int} {f:FR} {op pcs:Int} (h:uO c m f op pcs=true):dl c=true∧(m.length:Int)=bN c∧f.2.2.2.2.2.2=0∧0≤f.2.2.1∧f.2.2.1<c.1∧f.1=op∧0≤f.2.1∧f.2.1<pcs:=by
 unfold uO at h
 rw [Bool.and_eq_true,Bool.and_eq_true,decide_eq_true_eq,decide_eq_true_eq] at h
 exact ⟨h.1.1,h.1.2,h.2⟩
theorem abQ (c:CF) {m:List Int} (hm:Wm m) (hl:m.length≤1000) {f:FR} (hf:Wf f):mb c m f=some (Co c m f):=by
 have hr:=cB hm 2
 unfold mb Co
 try simp only [Prod.eta]
 rw [bH (by omega),ab,Lb,ab]
 cases h:uO c m f 5 5 with
 | false=>rfl
 | true=>
  obtain ⟨_,_,h6,h2,h2',h0,h1,h1'⟩:=EQ h
  rw [cond_true,if_neg (by simp)]
  obtain ⟨a0,a1,a2,a3,a4,a5,a6⟩:=f
  simp only at h6 h2 h2' h0 h1 h1' ⊢
  have e:decide (0≤a1∧a1.toNat<5)=true:=by rw [decide_eq_true_eq];omega
  rw [e,cond_true]
  obtain ⟨_,w4,w5⟩:=hf
  simp only at w4 w5
  have hp:a1=0∨a1=1∨a1=2∨a1=3∨a1=4:=by omega
  rcases hp with rfl | rfl | rfl | rfl | rfl
  ·simp [ff,ab]
  ·simp only [ff,ab,Es hr.1,Es w4.1,E3,lG]
   by_cases h5:epB (ah m 2)=epB a4
   ·simp [h5]
   ·simp [h5,fw]
  ·simp only [aiO w5.1 w5.2,ab,JP hl]
   cases hc:(ub m 2 a5 (PO a5 a2)).2 <;> simp [hc]
  ·simp only [KT,ff,ab,E3]
   by_cases h5:ah m (f6 c a2)=0
   ·simp [h5]
   ·simp [h5]
  ·simp only [KT,ab,mA hl,lG]
   simp [fw]
end Go.Ab
set_option linter.unusedVariables false
namespace Go.Ab
theorem eh {m:List Int} {i:Int} (v:Int) (h0:0≤i) (h1:i<m.length):ah (ao m i v) i=v:=by
 unfold ah ao
 rw [if_pos h0,if_pos h0,List.getElem?_set_self (by omega)]
 rfl
theorem aE {m:List Int} {i j:Int} (v:Int) (h:i≠j):ah (ao m i v) j=ah m j:=by
 unfold ah ao
 by_cases h0:0≤i
 ·by_cases h1:0≤j
  ·rw [if_pos h1,if_pos h0,List.getElem?_set_ne (by omega),if_pos h1]
  ·rw [if_neg h1,if_neg h1]
 ·rw [if_neg h0]
structure OkB (c:CF) (m:List Int) (w:Int):Prop where
 may:dl c=true
 len:(m.length:Int)=bN c
 low:0≤w
 high:w<c.1
theorem OkB.size {c:CF} {m:List Int} {w:Int} (h:OkB c m w):(m.length:Int)=AD c c.1∧12≤m.length∧m.length≤190:=by
 have hm:=aC h.may
 have ht:=dV h.may (w:=c.1) (by omega) (by omega)
 have hl:=h.len
 rw [bN,if_pos h.may] at hl
 obtain ⟨W,D,I,S⟩:=c
 simp only [AD] at *
 have:1*(3+D)≤W*(3+D):=Int.mul_le_mul_of_nonneg_right (by omega) (by omega)
 omega
theorem OkB.park {c:CF} {m:List Int} {w:Int} (h:OkB c m w):f6 c w=AD c w+2∧2<f6 c w∧f6 c w<m.length:=by
 have hm:=aC h.may
 have hs:=h.size
 have hl:=h.low
 have hh:=h.high
 have e:f6 c w=AD c w+2:=by rw [f6,if_pos ⟨h.may,h.low,h.high⟩]
 have ht:=dV h.may hl (by omega)
 rw [e]
 obtain ⟨W,D,I,S⟩:=c
 simp only [AD] at *
 have h2:(w+1)*(3+D)≤W*(3+D):=Int.mul_le_mul_of_nonneg_right (by omega) (by omega)
 have h3:(w+1)*(3+D)=w*(3+D)+(3+D):=by rw [Int.add_mul,Int.one_mul]
 exact ⟨trivial,by omega,by omega⟩
theorem OkB.store {c:CF} {m:List Int} {w:Int} (h:OkB c m w) (i v:Int):OkB c (ao m i v) w:=⟨h.may,by rw [kU];exact h.len,h.low,h.high⟩
section
variable {c:CF} {m:List Int} {w a3 a4 a5:Int} (h:OkB c m w)
include h
end
theorem acC (n:Nat) {w:Int} (hw:0≤w):uE (n:Int) w=n.testBit w.toNat:=by
 have h2:((2 ^ w.toNat:Nat):Int)=(2:Int) ^ w.toNat:=by rw [Int.natCast_pow];rfl
 rw [uE,Nat.testBit_eq_decide_div_mod_eq,← h2]
 have:((n:Int)/((2 ^ w.toNat:Nat):Int))%2=((n/2 ^ w.toNat%2:Nat):Int):=by rw [Int.natCast_emod,Int.natCast_ediv];rfl
 rw [this]
 congr 1
 apply propext
 omega
theorem aa9 (op w:Int):aK op w 0=some (op,0,w,0,0,0,0):=rfl
theorem wf0 {op pc w:Int} {r:Int}:Wf (op,pc,w,0,0,0,r):=by simp [Wf]
end Go.Ab
set_option linter.unusedVariables false
namespace Go.Ab
def Gz (e m:Int):Int:=e%281474976710656*65536+m%65536
def Sj (x:Int):Nat→Nat→Int
 | _,0 => -1
 | i,d+1=>if uE x i=true then (i:Int) else Sj x (i+1) d
def Io (x:Int):Int:=Sj x 0 16
def U7 (x:Int):Int:=if Io x<0 then 0 else x - 2 ^ (Io x).toNat
def abc (x:Int):Int:=Gz (epB x+1) (U7 (mkB x))
def abN (x:Int):Int:=Gz (epB x+1) 0
def Oo (c:CF) (m:List Int) (w:Int):List Int:=ao m (f6 c w) 1
def GN (c:CF) (m:List Int) (f:FR):Bool:=decide (f.1=6∨f.1=7)&&dl c&&decide ((m.length:Int)=bN c)&&decide (f.2.2.2.2.2.2=0∧0≤f.2.1∧f.2.1≤2)
def Aq (c:CF) (m:List Int) (f:FR):List Int×FR:=
 if GN c m f=false then (m,f)
 else if f.2.1=0 then (m,f.1,1,f.2.2.1,f.2.2.2.1,ah m 2,f.2.2.2.2.2)
 else if f.2.1=1 then
  (if ah m 2=f.2.2.2.2.1 then
   (ao m 2 (if f.1=6 then abc f.2.2.2.2.1 else abN f.2.2.2.2.1),
    if mkB f.2.2.2.2.1=0 then fw f 3 0 else (f.1,2,f.2.2.1,f.2.2.2.1,f.2.2.2.2.1,(if f.1=6 then (if Io (mkB f.2.2.2.2.1)<0 then 0 else Io (mkB f.2.2.2.2.1)) else mkB f.2.2.2.2.1),f.2.2.2.2.2.2))
  else (m,f.1,0,f.2.2))
 else if f.1=6 then (Oo c m (if f.2.2.2.2.2.1<8 then f.2.2.2.2.2.1 else -1),fw f 1 f.2.2.2.2.2.1)
 else (Oo c m (Io f.2.2.2.2.2.1),if U7 (mkB f.2.2.2.2.2.1)=0 then fw f 1 (mkB f.2.2.2.2.1) else (f.1,2,f.2.2.1,f.2.2.2.1,f.2.2.2.2.1,U7 (mkB f.2.2.2.2.2.1),f.2.2.2.2.2.2))
def UZ (f:FR) (w:Int):Bool := !(ej f)&&decide (f.2.1=2∧0≤w∧w<16)&&(decide (f.1=6∧f.2.2.2.2.2.1=w)||(decide (f.1=7)&&uE f.2.2.2.2.2.1 w))
theorem Dr (x:Int):∀ (d i:Nat),(Sj x i d = -1∧∀ j:Nat,i≤j→j<i+d→uE x j=false)∨(∃ j:Nat,Sj x i d=j∧i≤j∧j<i+d∧uE x j=true∧∀ l:Nat,i≤l→l<j→uE x l=false)
 | 0,i => .inl ⟨rfl,fun j h1 h2=>by omega⟩
 | d+1,i=>by
  by_cases h:uE x i=true
  ·exact .inr ⟨i,by rw [Sj,if_pos h],by omega,by omega,h,fun l h1 h2=>by omega⟩
  ·have e:Sj x i (d+1)=Sj x (i+1) d:=by rw [Sj,if_neg h]
   rw [e]
   rcases Dr x d (i+1) with ⟨h1,h2⟩ | ⟨j,h1,h2,h3,h4,h5⟩
   ·refine .inl ⟨h1,fun j h3 h4 => ?_⟩
    by_cases e2:i=j
    ·subst e2;simpa using h
    ·exact h2 j (by omega) (by omega)
   ·refine .inr ⟨j,h1,by omega,by omega,h4,fun l h6 h7 => ?_⟩
    by_cases e2:i=l
    ·subst e2;simpa using h
    ·exact h5 l (by omega) h7
theorem Gj (x:Int):(Io x = -1∧∀ j:Nat,j<16→uE x j=false)∨(∃ j:Nat,Io x=j∧j<16∧uE x j=true∧∀ l:Nat,l<j→uE x l=false):=by
 rcases Dr x 16 0 with ⟨h1,h2⟩ | ⟨j,h1,h2,h3,h4,h5⟩
 ·exact .inl ⟨h1,fun j h=>h2 j (by omega) (by omega)⟩
 ·exact .inr ⟨j,h1,by omega,h4,fun l h=>h5 l (by omega) h⟩
theorem ZR {a w:Nat}:(2 ^ (w+1)*a+2 ^ w) &&& (2 ^ (w+1)*a+(2 ^ w - 1))=2 ^ (w+1)*a:=by
 have hp:0<2 ^ w:=Nat.pow_pos (by decide)
 have hs:2 ^ (w+1)=2*2 ^ w:=by rw [Nat.pow_succ,Nat.mul_comm]
 apply Nat.eq_of_testBit_eq
 intro j
 have e0:2 ^ (w+1)*a=2 ^ (w+1)*a+0:=rfl
 rw [Nat.testBit_and,Nat.testBit_two_pow_mul_add a (by omega),Nat.testBit_two_pow_mul_add a (by omega),e0,Nat.testBit_two_pow_mul_add a (by omega)]
 by_cases h:j<w+1
 ·rw [if_pos h,if_pos h,if_pos h,Nat.testBit_two_pow,Nat.testBit_two_pow_sub_one,Nat.zero_testBit]
  by_cases h2:w=j
  ·subst h2;simp
  ·simp [h2]
 ·rw [if_neg h,if_neg h,if_neg h,Bool.and_self]
theorem Gw {x:Int} (h0:0≤x) (h1:x<65536):(x=0∧Io x = -1)∨(∃ a w:Nat,x=((2 ^ (w+1)*a+2 ^ w:Nat):Int)∧Io x=w∧w<16):=by
 obtain ⟨n,rfl⟩:∃ n:Nat,x=n:=⟨x.toNat,by omega⟩
 have hb:∀ j:Nat,uE (n:Int) (j:Int)=n.testBit j:=fun j=>acC n (by omega)
 rcases Gj (n:Int) with ⟨h2,h3⟩ | ⟨w,h2,h3,h4,h5⟩
 ·refine .inl ⟨?_,h2⟩
  have:n=0:=by
   apply Nat.eq_of_testBit_eq
   intro j
   rw [Nat.zero_testBit]
   by_cases hj:j<16
   ·rw [← hb];exact h3 j hj
   ·exact Nat.testBit_lt_two_pow (Nat.lt_of_lt_of_le (show n<2 ^ 16 by omega) (Nat.pow_le_pow_right (by decide) (by omega)))
  omega
 ·refine .inr ⟨n/2 ^ (w+1),w,?_,h2,h3⟩
  congr 1
  have hm:n%2 ^ (w+1)=2 ^ w:=by
   apply Nat.eq_of_testBit_eq
   intro j
   rw [Nat.testBit_mod_two_pow,Nat.testBit_two_pow]
   by_cases hj:j<w
   ·have:=h5 j hj
    rw [hb] at this
    have h6:¬ w=j:=by omega
    simp [this,h6]
   ·by_cases hj2:w=j
    ·subst hj2
     rw [hb] at h4
     simp [h4]
    ·have h6:¬ j<w+1:=by omega
     simp [h6,hj2]
  have:=Nat.div_add_mod n (2 ^ (w+1))
  omega
theorem ahC {x:Int} (h0:0≤x) (h1:x<65536):AP .u64 x (IntKind.u64.wrap (x - 1))=U7 x:=by
 unfold U7
 rcases Gw h0 h1 with ⟨rfl,h2⟩ | ⟨a,w,rfl,h2,h3⟩
 ·rw [h2]
  decide +kernel
 ·have hp:0<2 ^ w:=Nat.pow_pos (by decide)
  have e:((2 ^ (w+1)*a+2 ^ w:Nat):Int) - 1=((2 ^ (w+1)*a+(2 ^ w - 1):Nat):Int):=by
   generalize 2 ^ (w+1)*a=y
   generalize 2 ^ w=z at hp
   omega
  rw [h2,if_neg (by omega),Int.toNat_natCast,e]
  have hlt:2 ^ (w+1)*a+2 ^ w<65536:=by omega
  rw [mG (by omega) (by generalize 2 ^ (w+1)*a=y at hlt ⊢;generalize 2 ^ w=z at hlt ⊢;omega),Ud (by omega) (by generalize 2 ^ (w+1)*a=y at hlt ⊢;generalize 2 ^ w=z at hlt ⊢;omega),ZR]
  have hw:((2 ^ w:Nat):Int)=(2:Int) ^ w:=by rw [Int.natCast_pow];rfl
  rw [← hw]
  generalize 2 ^ (w+1)*a=y
  generalize (2:Nat) ^ w=z
  omega
theorem Rx {x:Int} (h0:0≤x) (h1:x<65536):0≤U7 x∧U7 x≤x:=by
 unfold U7
 rcases Gw h0 h1 with ⟨rfl,h2⟩ | ⟨a,w,rfl,h2,h3⟩
 ·rw [h2];decide
 ·rw [h2,if_neg (by omega),Int.toNat_natCast]
  have hw:((2 ^ w:Nat):Int)=(2:Int) ^ w:=by rw [Int.natCast_pow];rfl
  rw [← hw]
  generalize 2 ^ (w+1)*a=y
  generalize (2:Nat) ^ w=z
  omega
theorem agB {e m:Int} (h0:0≤e) (m0:0≤m) (m1:m≤18446744073709551615):orI .u64 (Uy .u64 e 16) (AP .u64 m 65535)=Gz e m:=by
 rw [Xz m0 m1]
 have hs:Uy .u64 e 16=((2 ^ 16*(e.toNat%281474976710656):Nat):Int):=by
  unfold Uy
  have e1:min (16:Int).toNat IntKind.u64.bits=16:=by decide
  rw [e1]
  simp [IntKind.wrap,IntKind.bits,IntKind.signed]
  omega
 have hm:mkB m=((m.toNat%65536:Nat):Int):=by unfold mkB;omega
 rw [hs,hm,orU (by omega) (by omega),← Nat.two_pow_add_eq_or_of_lt (by omega),Gz]
 omega
end Go.Ab
set_option linter.unusedVariables false
namespace Go.Ab
theorem Dn (c : CF) (m : List Int) (a1 a6 : Int) : (bif dl c then bif decide ((m.length : Int) = bN c) then bif !(a6 != 0) then bif decide (0 ≤ a1) then some (decide (a1 ≤ 2)) else some false else some false else some false else some false)
    = some (dl c && decide ((m.length : Int) = bN c) && decide (a6 = 0 ∧ 0 ≤ a1 ∧ a1 ≤ 2)) := by
  cases dl c with
  | false => rfl
  | true =>
    rw [cond_true]
    by_cases h1 : (m.length : Int) = bN c
    · rw [decide_eq_true h1, cond_true]
      by_cases h2 : a6 = 0
      · by_cases h3 : 0 ≤ a1
        · simp [h2, h3]
        · simp [h2, h3]
      · have : (a6 != 0) = true := by simp [h2]
        simp [h2, this]
    · rw [decide_eq_false h1]
      rfl
theorem X4 (c:CF) (m:List Int) (f:FR):mu c m f=some (GN c m f):=by
 obtain ⟨a0,a1,a2,a3,a4,a5,a6⟩:=f
 unfold mu GN
 simp only [Prod.eta,nM,ij,DT,mZ,ab,ej]
 by_cases h1:a0=6
 ·rw [decide_eq_true h1,cond_true,Dn,decide_eq_true (show a0=6∨a0=7 from .inl h1),Bool.true_and]
 ·rw [decide_eq_false h1,cond_false]
  by_cases h2:a0=7
  ·rw [decide_eq_true h2,cond_true,Dn,decide_eq_true (show a0=6∨a0=7 from .inr h2),Bool.true_and]
  ·rw [decide_eq_false h2,cond_false,decide_eq_false (by omega)]
   rfl
theorem MB {e:Int} (h0:0≤e):0≤mkB e∧mkB e<65536:=by unfold mkB;omega
theorem Xx {e:Int} (h0:0≤e) (h1:e≤18446744073709551615):0≤epB e∧epB e≤281474976710655:=by unfold epB;omega
theorem Xb {e m:Int} (h0:0≤e) (m0:0≤m) (m1:m≤18446744073709551615):iW e m=some (Gz e m):=by
 unfold iW
 rw [agB h0 m0 m1]
theorem AW (e m:Int):0≤Gz e m∧Gz e m≤18446744073709551615:=by unfold Gz;omega
theorem PI (x:Int) : -1≤Io x∧Io x<16:=by
 rcases Gj x with ⟨h,_⟩ | ⟨j,h,h2,_⟩ <;> omega
theorem Lo {k:Nat} (hk:100≤k) {x:Int} (h0:0≤x) (h1:x≤18446744073709551615):iO k x=some (Io x):=by
 have key:∀ (d i n:Nat),i+d=16→d<n→cT k x n (i:Int)=some (Sj x i d):=by
  intro d
  induction d with
  | zero=>
   intro i n hi hn
   obtain ⟨n,rfl⟩:=iZ hn
   rw [cT,ltF (by omega),cond_false]
   rfl
  | succ d ih=>
   intro i n hi hn
   obtain ⟨n,rfl⟩:=iZ hn
   rw [cT,ltT (by omega),cond_true,leT (by omega),cond_true,aoz h0 h1 (by omega) (by omega),Sj]
   cases hb:uE x i with
   | true=>rw [cond_true,if_pos rfl]
   | false=>rw [cond_false,if_neg (by simp),gg (by omega),ih (i+1) n (by omega) (by omega)]
 exact key 16 0 (k+9) rfl (by omega)
theorem adW {k:Nat} (hk:100≤k) {e:Int} (h0:0≤e) (h1:e≤18446744073709551615):mo k e=some (abc e,Io (mkB e)):=by
 have hm:=MB h0
 have he:=Xx h0 h1
 have hc:=Rx hm.1 hm.2
 unfold mo
 rw [DZ h0 h1,ab,Es h0,ab,mG (z:=epB e+1) (by omega) (by omega),ahC hm.1 hm.2,Xb (by omega) hc.1 (by omega),ab,Lo hk hm.1 (by omega),ab]
 rfl
theorem adQ {e:Int} (h0:0≤e) (h1:e≤18446744073709551615):mn e=some (abN e):=by
 have he:=Xx h0 h1
 unfold mn
 rw [Es h0,ab,mG (z:=epB e+1) (by omega) (by omega),Xb (by omega) (by decide) (by decide),ab]
 rfl
theorem Tm {k:Nat} (hk:100≤k) {e:Int} (h0:0≤e) (h1:e≤18446744073709551615):gk k e=some (abc e,if Io (mkB e)<0 then 0 else Io (mkB e)):=by
 have hl:=PI (mkB e)
 unfold gk
 rw [adW hk h0 h1,ab]
 simp only
 by_cases h:Io (mkB e)<0
 ·rw [ltT h,cond_true,if_pos h];rfl
 ·rw [ltF (by omega),cond_false,if_neg h,mG (by omega) (by omega)]
theorem SD {e:Int} (h0:0≤e) (h1:e≤18446744073709551615):gm e=some (abN e,mkB e):=by
 unfold gm
 rw [adQ h0 h1,ab,DZ h0 h1,ab]
theorem PW {k:Nat} (hk:100≤k) (c:CF) {m:List Int} (hl:m.length≤1000) (w:Int):gB k c m [w]=some (Oo c m w):=by
 unfold gB
 obtain ⟨k,rfl⟩:∃ j,k=j+2:=⟨k - 2,by omega⟩
 have f1:∀ k:Nat,k+2+12=(k+12+1)+1:=fun k=>rfl
 have i1:IntKind.i64.wrap (0+1)=1:=by decide
 have x0:idx [w] 0=some w:=rfl
 rw [f1,fl,ltT (by simp),cond_true,x0,ab]
 try simp only [Prod.eta]
 rw [KT,ab,mA hl,ab,i1,fl,ltF (by simp),cond_false]
 rfl
theorem acM {k:Nat} (hk:1000≤k) (c:CF) {m:List Int} (hm:Wm m) (hl:m.length≤1000) {f:FR} (hf:Wf f):kj k c m f=some (Aq c m f):=by
 have hr:=cB hm 2
 unfold kj Aq
 try simp only [Prod.eta]
 rw [bH (by omega),ab,X4,ab]
 cases h:GN c m f with
 | false=>rfl
 | true=>
  rw [Bool.not_true,cond_false,if_neg (by simp)]
  obtain ⟨a0,a1,a2,a3,a4,a5,a6⟩:=f
  obtain ⟨_,w4,w5⟩:=hf
  simp only at w4 w5
  unfold GN at h
  rw [Bool.and_eq_true,Bool.and_eq_true,Bool.and_eq_true,decide_eq_true_eq,decide_eq_true_eq,decide_eq_true_eq] at h
  obtain ⟨⟨⟨h0,hmay⟩,hlen⟩,h6,h1,h2⟩:=h
  simp only at h0 h6 h1 h2 ⊢
  have hlen2:(2:Int)<m.length:=by
   have hmc:=aC hmay
   have ok:OkB c m 0:=⟨hmay,hlen,by decide,by omega⟩
   have:=ok.size
   omega
  by_cases p0:a1=0
  ·subst p0
   simp [ff,ab]
  ·by_cases p1:a1=1
   ·subst p1
    have e1:∀ v,ub m 2 a4 v=if ah m 2=a4 then (ao m 2 v,true) else (m,false):=by
     intro v
     unfold ub
     by_cases hh:ah m 2=a4
     ·rw [if_pos hh,if_pos ⟨by decide,hlen2,hh⟩]
     ·rw [if_neg hh,if_neg (fun x=>hh x.2.2)]
    rcases h0 with rfl | rfl
    ·simp only [nM,decide_eq_true rfl,decide_eq_false p0,cond_true,cond_false,Tm (k:=k+2) (by omega) w4.1 w4.2,ab,JP hl,e1,DZ w4.1 w4.2,lG]
     by_cases hh:ah m 2=a4
     ·by_cases h3:mkB a4=0
      ·simp [hh,h3,fw]
      ·simp [hh,h3]
     ·simp [hh]
    ·simp only [nM,decide_eq_true rfl,decide_eq_false p0,decide_eq_false (show ¬ ((7:Int)=6) by decide),cond_true,cond_false,SD w4.1 w4.2,ab,JP hl,e1,DZ w4.1 w4.2,lG]
     by_cases hh:ah m 2=a4
     ·by_cases h3:mkB a4=0
      ·simp [hh,h3,fw]
      ·simp [hh,h3]
     ·simp [hh]
   ·rcases h0 with rfl | rfl
    ·simp only [nM,decide_eq_true rfl,decide_eq_false p0,decide_eq_false p1,cond_true,cond_false]
     by_cases h3:a5<8
     ·rw [ltT h3,cond_true,PW (by omega) c hl,ab,lG,ab,fx (by omega)]
      simp [p0,p1,h3,fw]
     ·rw [ltF (by omega),cond_false,PW (by omega) c hl,ab,lG,ab]
      simp [p0,p1,h3,fw]
    ·have hk5:=MB w5.1
     simp only [nM,decide_eq_false (show ¬ ((7:Int)=6) by decide),decide_eq_false p0,decide_eq_false p1,cond_false]
     rw [Lo (by omega) w5.1 w5.2,ab,PW (by omega) c hl,ab,DZ w5.1 w5.2,ab,ahC hk5.1 hk5.2,DZ w4.1 w4.2,ab]
     simp only [lG,ab]
     by_cases h3:U7 (mkB a5)=0
     ·simp [p0,p1,h3,fw]
     ·have h4:mkB a5≠0:=fun e=>h3 (by rw [e];decide)
      simp [p0,p1,h3,h4]
      omega
end Go.Ab
namespace Go.Ab
open Go.WideShapes
theorem B9:maxLen≤9223372036854775807:=by decide
theorem ajf {l:Tyt} (hm:l.length≤maxLen) (h:∀ x ∈ l,i64 x.1∧(∀ n ∈ x.2,i64 n)∧x.2.length≤maxLen):Wt l:=
 ⟨Nat.le_trans hm B9,fun x hx=>Nat.le_trans (h x hx).2.2 B9⟩
theorem af2 {α:Type} {l:List α} (hm:l.length≤maxLen):l.length≤9223372036854775807:=Nat.le_trans hm B9
theorem M6 {P:Program} {w:World} {r:Reach} {base:Nat} {t:TypeId} {v:Value} {fs:Array Field} (ht:P.underlying t=some (.struct fs)) (h:Value.okWide P w r base t v):∃ cs,v = .agg cs:=by
 simp only [Value.okWide,ht] at h
 cases v <;> simp_all
theorem Cells.agg {w:World} {cs:Array Value} {vs:List V} (c:Cells w (Value.agg cs).cells.toList vs):RelV (Va w) [] (.agg vs) (.agg cs):=by
 have hl:vs.length=cs.toList.length:=c.len
 refine .agg vs cs (by simpa using hl.symm) c.ones fun i x hx => ?_
 have hi:i<vs.length:=(List.getElem?_eq_some_iff.1 hx).1
 have hi2:i<cs.size:=by rw [hl] at hi;simpa using hi
 have h1:cs.toList[i]? = some cs[i]:=by simp [hi2]
 have:=c.rel i x cs[i] hx h1
 simpa [Array.getD,hi2] using this
end Go.Ab
namespace Go.Ab
open Go.WideShapes
def u64 (n:Int):Prop:=(Lit.int .u64 n).wf=true
def Xr (c:Int×Int×Int×Int):Prop:=i64 c.1∧i64 c.2.1∧i64 c.2.2.1∧i64 c.2.2.2
theorem Oz {P:Program} {t ti:TypeId} {f0 f1 f2 f3:Field} {vs:List V} (he:P.underlying t=some (.struct #[f0,f1,f2,f3])) (h0:f0.type=ti) (h1:f1.type=ti) (h2:f2.type=ti) (h3:f3.type=ti) (o0:f0.offset=0) (o1:f1.offset=1) (o2:f2.offset=2) (o3:f3.offset=3) (hi:P.underlying ti=some (.int .i64)) (ci:P.cellsOf ti=1) (ce:P.cellsOf t=4) (h:Shape P t vs) :
  ∃ x:Int×Int×Int×Int,vs=mi x∧Xr x:=by
 obtain ⟨a,b⟩:=Af he h
 have s0:=b 0 f0 rfl
 rw [h0,o0,ci,List.drop_zero] at s0
 have s1:=b 1 f1 rfl
 rw [h1,o1,ci] at s1
 have s2:=b 2 f2 rfl
 rw [h2,o2,ci] at s2
 have s3:=b 3 f3 rfl
 rw [h3,o3,ci] at s3
 rw [ce] at a
 obtain ⟨n0,e0,w0⟩:=nC hi s0
 obtain ⟨n1,e1,w1⟩:=nC hi s1
 obtain ⟨n2,e2,w2⟩:=nC hi s2
 obtain ⟨n3,e3,w3⟩:=nC hi s3
 match vs,a with
 | [x0,x1,x2,x3],_=>
  simp at e0 e1 e2 e3
  subst e0 e1 e2 e3
  exact ⟨(n0,n1,n2,n3),rfl,w0,w1,w2,w3⟩
theorem IC {P:Program} {t s i:TypeId} {vs:List V} (ht:P.underlying t=some (.slice s)) (hs:P.underlying s=some (.slice i)) (hi:P.underlying i=some (.int .i64)) (h:Shape P t vs) :
  ∃ l:List (List Int),vs=[.ro (l.map cz)]∧(∀ x ∈ l,(∀ n ∈ x,i64 n)∧x.length≤maxLen)∧l.length≤maxLen:=by
 obtain ⟨rows,rfl,hr,hm⟩:=rL ht h
 obtain ⟨l,rfl,hl⟩:=pC (enc:=cz) (Q:=fun x=>(∀ n ∈ x,i64 n)∧x.length≤maxLen) (rows:=rows) (fun r hx=>by
  obtain ⟨l,e,w,m⟩:=wy hs hi (hr r hx)
  exact ⟨l,e,w,m⟩)
 exact ⟨l,rfl,hl,by simpa using hm⟩
end Go.Ab
namespace Go.Ab
open Go.WideShapes
end Go.Ab
set_option linter.unusedVariables false
namespace Go.Ab
end Go.Ab
set_option linter.unusedVariables false
namespace Go.Ab
def nH (c:CF) (x:Int):Int:=if dl c=true then 6+x%c.2.2.1 else -1
def CY (c:CF) (x:Int):Int:=if dl c=true then 6+c.2.2.1+x%c.2.2.1 else -1
def Db (c:CF) (x:Int):Int:=x/c.2.2.1*2%18446744073709551616
def wG (a b:Int):Int:=IntKind.i64.wrap (IntKind.u64.wrap (a - b))
def fG (a b:Int):Int:=(a+b)%18446744073709551616
def ry (c:CF) (m:List Int) (f:FR) (op:Int):Bool:=dl c&&decide ((m.length:Int)=bN c)&&decide (f.2.2.2.2.2.2=0∧f.1=op∧0≤f.2.1∧f.2.1<5)
def lb (c:CF) (m:List Int) (f:FR):List Int×FR:=
 if ry c m f 3=false then (m,f)
 else if f.2.1=0 then (m,f.1,1,f.2.2.1,f.2.2.2.1,ah m 5,f.2.2.2.2.2)
 else if f.2.1=1 then
  (if ah m (nH c f.2.2.2.2.1)=Db c f.2.2.2.2.1 then (m,f.1,2,f.2.2.1,f.2.2.2.1,f.2.2.2.2.1,ah m (nH c f.2.2.2.2.1),f.2.2.2.2.2.2)
  else if wG (ah m (nH c f.2.2.2.2.1)) (Db c f.2.2.2.2.1)<0 then (m,fw f 2 f.2.2.2.1)
  else (m,f.1,0,f.2.2.1,f.2.2.2.1,f.2.2.2.2.1,ah m (nH c f.2.2.2.2.1),f.2.2.2.2.2.2))
 else if f.2.1=2 then (let r:=ub m 5 f.2.2.2.2.1 (fG f.2.2.2.2.1 1);(r.1,f.1,if r.2=true then 3 else 0,f.2.2))
 else if f.2.1=3 then (ao m (CY c f.2.2.2.2.1) f.2.2.2.1,f.1,4,f.2.2)
 else (ao m (nH c f.2.2.2.2.1) (fG (Db c f.2.2.2.2.1) 1),fw f 1 f.2.2.2.1)
def C9 (c:CF) (x:Int):Int:=fG (Db c x) 1
def lZ (c:CF) (m:List Int) (f:FR):List Int×FR:=
 if ry c m f 4=false then (m,f)
 else if f.2.1=0 then (m,f.1,1,f.2.2.1,f.2.2.2.1,ah m 4,f.2.2.2.2.2)
 else if f.2.1=1 then
  (if wG (ah m (nH c f.2.2.2.2.1)) (C9 c f.2.2.2.2.1)=0 then (m,f.1,2,f.2.2.1,f.2.2.2.1,f.2.2.2.2.1,ah m (nH c f.2.2.2.2.1),f.2.2.2.2.2.2)
  else if wG (ah m (nH c f.2.2.2.2.1)) (C9 c f.2.2.2.2.1)<0 then (m,fw f 3 0)
  else (m,f.1,0,f.2.2.1,f.2.2.2.1,f.2.2.2.2.1,ah m (nH c f.2.2.2.2.1),f.2.2.2.2.2.2))
 else if f.2.1=2 then (let r:=ub m 4 f.2.2.2.2.1 (fG f.2.2.2.2.1 1);(r.1,f.1,if r.2=true then 3 else 0,f.2.2))
 else if f.2.1=3 then (m,f.1,4,f.2.2.1,ah m (CY c f.2.2.2.2.1),f.2.2.2.2)
 else (ao m (nH c f.2.2.2.2.1) (fG (C9 c f.2.2.2.2.1) 1),fw f 1 f.2.2.2.1)
def CZ (c:CF) (m:List Int) (f:FR):List Int×FR:=if f.1=3 then lb c m f else if f.1=4 then lZ c m f else (m,f)
def Jl (c:CF) (m:List Int) (f:FR):List Int×FR:=if f.1=5 then Co c m f else if f.1=6∨f.1=7 then Aq c m f else (m,f)
def lj (c:CF) (m:List Int) (f:FR):List Int×FR:=if f.1=3∨f.1=4 then CZ c m f else Jl c m f
abbrev SB:=Int×List Int×FR
def dw:FR:=(0,0,0,0,0,0,0)
abbrev EV:=Int×Int×Int
def iS (l:List Int):Int:=l.headD 0
def Az (c:CF) (t:Tyt) (m:List Int) (x:SB):Bool:=dl c&&decide ((m.length:Int)=bN c)&&ow t&&decide (0≤x.1∧x.1<6∧x.2.1≠[]∧0≤iS x.2.1∧iS x.2.1<t.length)
def gO (c:CF) (t:Tyt) (m:List Int) (i:Int) (x:SB):List Int×SB×List EV:=
 if Az c t m x=false then (m,x,[])
 else if x.1=0 then (if ah m 3≠0 then (m,(0,x.2.1.tail,dw),[(1,iS x.2.1,i)]) else (m,(1,x.2),[]))
 else if x.1=1 then (ao m 0 (fG (ah m 0) 1),(2,x.2.1,(3,0,i,iS x.2.1,0,0,0)),[])
 else if x.1=2 then (let r:=lj c m x.2.2;
  if ej r.2=false then (r.1,(2,x.2.1,r.2),[]) else if r.2.2.2.2.2.2.2=2 then (r.1,(5,x.2.1,r.2),[]) else (r.1,(3,x.2.1,r.2),[(0,iS x.2.1,i)]))
 else if x.1=3 then (if ah m 1≠0 then (m,(0,x.2.1.tail,dw),[]) else (m,(4,x.2.1,(6,0,i,0,0,0,0)),[]))
 else if x.1=4 then (let r:=lj c m x.2.2;if ej r.2=true then (r.1,(0,x.2.1.tail,dw),[]) else (r.1,(4,x.2.1,r.2),[]))
 else (ao m 0 (fG (ah m 0) 18446744073709551615),(0,x.2.1.tail,dw),if ah m 0=1 then [(1,iS x.2.1,i),(5,0,i)] else [(1,iS x.2.1,i)])
def One (m m':List Int):Prop:=∃ i v,m'=ao m i v
theorem One.same (m:List Int):One m m:=⟨-1,0,by unfold ao;rw [if_neg (by decide)]⟩
theorem One.store (m:List Int) (i v:Int):One m (ao m i v):=⟨i,v,rfl⟩
theorem One.cas (m:List Int) (i o v:Int):One m (ub m i o v).1:=by
 unfold ub
 split
 ·exact One.store m i v
 ·exact One.same m
theorem One.len {m m':List Int} (h:One m m'):m'.length=m.length:=by
 obtain ⟨i,v,rfl⟩:=h
 exact kU
theorem abr (c:CF) (m:List Int) (f:FR):One m (lb c m f).1:=by
 unfold lb
 repeat' split
 all_goals first | exact One.same m | exact One.store m _ _ | exact One.cas m _ _ _
theorem ZJ (c:CF) (m:List Int) (f:FR):One m (lZ c m f).1:=by
 unfold lZ
 repeat' split
 all_goals first | exact One.same m | exact One.store m _ _ | exact One.cas m _ _ _
theorem WE (c:CF) (m:List Int) (f:FR):One m (Co c m f).1:=by
 unfold Co
 repeat' split
 all_goals first | exact One.same m | exact One.store m _ _ | exact One.cas m _ _ _
theorem T8 (c:CF) (m:List Int) (f:FR):One m (Aq c m f).1:=by
 unfold Aq Oo
 repeat' split
 all_goals first | exact One.same m | (dsimp only;exact One.store m _ _)
theorem K8 (c:CF) (m:List Int) (f:FR):One m (lj c m f).1:=by
 unfold lj CZ Jl
 repeat' split
 all_goals first | exact One.same m | exact abr c m f | exact ZJ c m f | exact WE c m f | exact T8 c m f
end Go.Ab
set_option linter.unusedVariables false
namespace Go.Ab
structure InvA (c:CF) (a:Nat) (m:List Int):Prop where
 wm:Wm m
 may:dl c=true
 len:(m.length:Int)=bN c
 l0:ah m 0=a
 l1:ah m 1=0
 mask:mkB (ah m 2)=0
 l3:ah m 3=0
 l5:ah m 5=a
 sq:∀ j:Nat,(j:Int)<c.2.2.1→ah m (6+j)=if j<a then 1 else 0
 le:(a:Int)≤c.2.2.1
section
variable {c:CF} {t:Tyt} {m:List Int} {l:List Int} {F:FR}
end
section
variable {c:CF} {m:List Int} {w v X Y:Int} (hmay:dl c=true) (hlen:(m.length:Int)=bN c)
include hmay hlen
end
end Go.Ab
set_option linter.unusedVariables false
namespace Go.Ab
theorem nB {q i:Int}:∀ {t:Tyt} {s:Nat},(q,i) ∈ d8 s t↔∃ n x,t[n]? = some x∧q ∈ x.2∧i=((s+n:Nat):Int)
 | [],s=>by simp [d8]
 | x::t,s=>by
  simp only [d8,List.mem_append,List.mem_map,Prod.mk.injEq,nB (t:=t) (s:=s+1)]
  constructor
  ·rintro (⟨a,ha,rfl,rfl⟩ | ⟨n,y,hy,hq,rfl⟩)
   ·exact ⟨0,x,rfl,ha,by simp⟩
   ·exact ⟨n+1,y,by simpa using hy,hq,by omega⟩
  ·rintro ⟨n,y,hy,hq,rfl⟩
   cases n with
   | zero=>
    simp at hy
    subst hy
    exact .inl ⟨q,hq,rfl,by simp⟩
   | succ n=>exact .inr ⟨n,y,by simpa using hy,hq,by omega⟩
theorem Mv (n:Nat):∀ (l:List (Int×Int)) (had:Zg n),(∀ q ∈ l,0≤q.2)→(Eu (gA n) l had).1=true →
  (∀ q ∈ l,q.2<q.1∧q.1<n∧had.1[q.1.toNat]? = some false)∧(l.map (·.1)).Nodup
 | [],had,_,_=>by simp
 | q::l,had,h0,h=>by
  simp only [Eu] at h
  have hq0:=h0 q (by simp)
  cases hb:By n had.1 q with
  | true=>simp [gA,hb] at h
  | false=>
   have e1:(gA n had q).1=true:=by simp [gA,hb]
   have e2:(gA n had q).2.1=had.1.set q.1.toNat true:=by simp [gA,hb]
   rw [e1,if_pos rfl] at h
   obtain ⟨a,b⟩:=Mv n l _ (fun x hx=>h0 x (by simp [hx])) h
   simp only [By,Bool.or_eq_false_iff,decide_eq_false_iff_not] at hb
   obtain ⟨⟨h1,h2⟩,h3⟩:=hb
   have h4:q.1.toNat<had.1.length:=by rw [had.2];omega
   have h5:had.1[q.1.toNat]? = some false:=by
    rw [List.getElem?_eq_getElem h4] at h3 ⊢
    simpa using h3
   rw [e2] at a
   have h6:∀ x ∈ l,x.1≠q.1:=by
    intro x hx e
    have:=(a x hx).2.2
    rw [e,List.getElem?_set_self h4] at this
    cases this
   refine ⟨?_,?_⟩
   ·intro x hx
    rcases List.mem_cons.1 hx with rfl | hx
    ·exact ⟨by omega,by omega,h5⟩
    ·obtain ⟨u,v,w⟩:=a x hx
     refine ⟨u,v,?_⟩
     have hx0:=h0 x (by simp [hx])
     rwa [List.getElem?_set_ne (by have:=h6 x hx;omega)] at w
   ·rw [List.map_cons,List.nodup_cons]
    refine ⟨?_,b⟩
    intro hm
    obtain ⟨x,hx,e⟩:=List.mem_map.1 hm
    exact h6 x hx e
structure May (t:Tyt):Prop where
 len:t.length≤30
 work:∀ x ∈ t,0≤x.1∧x.1≤20
 kids:∀ q ∈ d8 0 t,0≤q.2∧q.2<q.1∧q.1<t.length
 once:((d8 0 t).map (·.1)).Nodup
theorem uD {t:Tyt} {s:Nat} (q) (h:q ∈ d8 s t):0≤q.2:=by
 obtain ⟨a,b⟩:=q
 obtain ⟨n,x,_,_,rfl⟩:=nB.1 h
 simp
 omega
theorem CK {t:Tyt} (h:ow t=true):May t:=by
 unfold ow at h
 simp only [Bool.and_eq_true,decide_eq_true_eq,Bool.not_eq_true'] at h
 obtain ⟨⟨h1,h2⟩,h3⟩:=h
 obtain ⟨a,b⟩:=Mv t.length _ _ uD h3
 refine ⟨h1,?_,fun q hq=>⟨uD q hq,(a q hq).1,(a q hq).2.1⟩,b⟩
 intro x hx
 have:=List.any_eq_false.1 h2 x hx
 simp only [r9,Bool.or_eq_true,decide_eq_true_eq,not_or] at this
 omega
theorem Il {α β:Type} {f:α→β}:∀ {l:List α},(l.map f).Nodup→∀ {a b:α},a ∈ l→b ∈ l→f a=f b→a=b
 | [],_,a,b,ha,_,_=>by simp at ha
 | x::l,h,a,b,ha,hb,e=>by
  rw [List.map_cons,List.nodup_cons] at h
  rcases List.mem_cons.1 ha with ha1 | ha1 <;> rcases List.mem_cons.1 hb with hb1 | hb1
  ·rw [ha1,hb1]
  ·exact absurd (show f x ∈ l.map f from List.mem_map.2 ⟨b,hb1,by rw [← e,ha1]⟩) h.1
  ·exact absurd (show f x ∈ l.map f from List.mem_map.2 ⟨a,ha1,by rw [e,hb1]⟩) h.1
  ·exact Il h.2 ha1 hb1 e
theorem II (p:Int):∀ (l:List (Int×Int)) (r:Int),Eu (lh p) l r=match l.find? (fun q=>q.1==p) with | some q=>(false,q.2) | none=>(true,r)
 | [],r=>rfl
 | q::l,r=>by
  simp only [Eu,lh,List.find?_cons]
  by_cases h:q.1=p
  ·simp [h]
  ·simp [h,beq_false_of_ne h,II p l r]
theorem JZ {t:Tyt} {p:Int} (hm:ow t=true) (h:∀ q ∈ d8 0 t,q.1≠p):dr t p = -1:=by
 have:(d8 0 t).find? (fun q=>q.1==p)=none:=by
  rw [List.find?_eq_none]
  intro q hq
  simpa using h q hq
 rw [dr,if_pos hm,II,this]
 rfl
theorem BA {t:Tyt} {p o:Int} (hm:ow t=true) (h:(p,o) ∈ d8 0 t):dr t p=o:=by
 have hM:=CK hm
 cases hf:(d8 0 t).find? (fun q=>q.1==p) with
 | none=>
  rw [List.find?_eq_none] at hf
  have:=hf _ h
  simp at this
 | some q=>
  have h1:=List.mem_of_find?_eq_some hf
  have h2:=List.find?_some hf
  simp only [beq_iff_eq] at h2
  have h3:q=(p,o):=by
   have hn:=hM.once
   exact Il hn h1 h h2
  rw [dr,if_pos hm,II,hf,h3]
  rfl
theorem Gf {t:Tyt} (p:Int) (hm:ow t=true):(dr t p = -1∧∀ q ∈ d8 0 t,q.1≠p)∨(∃ o,(p,o) ∈ d8 0 t∧dr t p=o):=by
 by_cases h:∃ o,(p,o) ∈ d8 0 t
 ·obtain ⟨o,ho⟩:=h
  exact .inr ⟨o,ho,BA hm ho⟩
 ·have:∀ q ∈ d8 0 t,q.1≠p:=fun q hq e=>h ⟨q.2,by rw [← e];exact hq⟩
  exact .inl ⟨JZ hm this,this⟩
end Go.Ab
set_option maxRecDepth 100000
set_option linter.unusedVariables false
namespace Go.Ab
theorem aeU (x:Int×List Int):gn x=some (r9 x):=by
 unfold gn r9
 cases decide (x.1<0) <;> rfl
section
variable (k:Nat) (hk:9223372036854775808≤k)
include hk
theorem aaY (t:Tyt) (ht:Wt t):dU k t=some (afg t):=by
 have hlen:=ht.len
 have key:∀ r i n,t.drop i=r→i≤t.length→r.length<n→bK k t n (i:Int)=some ((r.take (41 - i)).all (fun x=>decide (x.2.length≤40))&&decide (t.length≤40)):=by
  intro r
  induction r with
  | nil=>
   intro i n hr hi hn
   obtain ⟨n,rfl⟩:=iZ hn
   have:i=t.length:=by have:=eb hr;omega
   subst this
   rw [bK,pp,cond_false,WN]
   simp
  | cons x r ih=>
   intro i n hr hi hn
   obtain ⟨n,rfl⟩:=iZ hn
   obtain ⟨a,b,c,d,e⟩:=cW hr
   rw [bK,ltN a,cond_true]
   by_cases h:i≤40
   ·rw [leT (show (i:Int)≤40 by omega),cond_true,fO b,ab]
    have e1:41 - i=(41 - (i+1))+1:=by omega
    rw [e1,List.take_succ_cons,List.all_cons]
    by_cases h2:x.2.length≤40
    ·rw [ltF (show ((x.2.length:Nat):Int)≤40 by omega),cond_false,gg (by omega),ih (i+1) n c (by omega) (by simp only [List.length_cons] at hn;omega),decide_eq_true h2,Bool.true_and]
    ·rw [ltT (show (40:Int)<(x.2.length:Nat) by omega),cond_true,decide_eq_false h2]
     rfl
   ·rw [leF (show (40:Int)<i by omega),cond_false,WN]
    have e1:41 - i=0:=by omega
    rw [e1]
    simp
 have:=key t 0 k rfl (Nat.zero_le _) (by omega)
 rw [dU]
 simpa [afg] using this
theorem Z0 (t:Tyt) (ht:Wt t):aO k t=some (t.any r9):=by
 have hlen:=ht.len
 rw [aO,aY]
 rw [Dk (F:=fun n i=>aB (k+8) t n i) (l:=t) r9 ?_ ?_ _ (by omega)]
 ·rw [ab,mX]
 ·intro n
  simp only [aB,pp,cond_false]
 ·intro n i x hi hx
  simp only [aB,ltN hi,cond_true,fO hx,ab,aeU,Prod.eta]
  rw [gg (by omega)]
theorem FM (t:Tyt) (ht:Wt t):bW k t=some (ow t):=by
 have hlen:=ht.len
 rw [bW,Z0 k hk t ht,ab]
 unfold ow
 by_cases h1:t.length≤30
 ·rw [ap3 h1,cond_false,decide_eq_true h1]
  cases h2:t.any r9 with
  | true=>rfl
  | false=>
   have h3:decide ((0:Int)≤(t.length:Int)∧(t.length:Int)≤9223372036854775807∧(t.length:Int)*1≤70368744177664)=true:=by simp;omega
   rw [h3,cond_false,cond_true]
   -- one task's kids
   have inner:∀ (x:Int×List Int) (hx:x ∈ t) (i:Nat) (hi:i<t.length) (o:Int→List Bool→Option Bool) (R:List (Int×Int)) (n0:Nat)
     (ho:∀ had:Zg t.length,o ((i+1:Nat):Int) had.1=some (Eu (gA t.length) R had).1),
     ∀ r j n (had:Zg t.length),x.2.drop j=r→r.length<n →
      dv k t o n x.2 (x.2.length:Int) (j:Int) had.1 (i:Int)=some (Eu (gA t.length) (r.map (fun q=>(q,(i:Int)))++R) had).1:=by
    intro x hx i hi o R n0 ho r
    have hxl:=ht.kids x hx
    induction r with
    | nil=>
     intro j n had hr hn
     obtain ⟨n,rfl⟩:=iZ hn
     have hj:=eb hr
     rw [dv,ltF (by omega),cond_false,gg (by omega),ho]
     rfl
    | cons q r ih=>
     intro j n had hr hn
     obtain ⟨n,rfl⟩:=iZ hn
     obtain ⟨a,b,c,d,e⟩:=cW hr
     have hb:=had.2
     rw [dv,ltN a,cond_true,fO b,ab,List.map_cons,List.cons_append,Eu]
     by_cases h1:q≤(i:Int)
     ·rw [leT h1,cond_true]
      simp [gA,By,leT h1]
     ·rw [leF (show (i:Int)<q by omega),cond_false]
      by_cases h2:(t.length:Int)≤q
      ·rw [leT h2,cond_true]
       simp [gA,By,leT h2]
      ·rw [leF (show q<(t.length:Int) by omega),cond_false]
       have h5:decide ((0:Int)≤q∧q.toNat<t.length)=true:=by simp;omega
       have h3:q.toNat<had.1.length:=by rw [hb];omega
       have h4:had.1[q.toNat]? = some had.1[q.toNat]:=List.getElem?_eq_getElem h3
       rw [h5,cond_true,h4,ab,cond_true,ab,gg (by omega)]
       cases hh:had.1[q.toNat] with
       | true=>simp [gA,By,leF (show (i:Int)<q by omega),leF (show q<(t.length:Int) by omega),h4,hh]
       | false=>
        rw [cond_false]
        have e1:gA t.length had (q,(i:Int))=(true,⟨had.1.set q.toNat true,by simp [had.2]⟩):=by
         simp [gA,By,leF (show (i:Int)<q by omega),leF (show q<(t.length:Int) by omega),h4,hh]
        rw [e1]
        simp only [if_true]
        exact ih (j+1) n ⟨had.1.set q.toNat true,by simp [had.2]⟩ c (by simp only [List.length_cons] at hn;omega)
   have outer:∀ r i n (had:Zg t.length),t.drop i=r→i≤t.length→r.length<n→cp k t n (i:Int) had.1=some (Eu (gA t.length) (d8 i r) had).1:=by
    intro r
    induction r with
    | nil=>
     intro i n had hr hi hn
     obtain ⟨n,rfl⟩:=iZ hn
     have:=eb hr
     rw [cp,ltF (by omega),cond_false]
     rfl
    | cons x r ih=>
     intro i n had hr hi hn
     obtain ⟨n,rfl⟩:=iZ hn
     obtain ⟨a,b,c,d,e⟩:=cW hr
     have hxl:=ht.kids x d
     rw [cp,ltN a,cond_true,fO b,ab,d8]
     have:=inner x d i a (fun s47 s56=>cp k t n s47 s56) (d8 (i+1) r) n (fun had=>ih (i+1) n had c (by omega) (by simp only [List.length_cons] at hn;omega)) x.2 0 (k+17) had rfl (by omega)
     simpa using this
   have:=outer t 0 (k+17) (Kw t.length) rfl (Nat.zero_le _) (by omega)
   simpa [Kw] using this
 ·rw [aqX (by omega),cond_true,decide_eq_false h1]
  rfl
end
end Go.Ab
set_option linter.unusedVariables false
namespace Go.Ab
theorem ky (z:Int):IntKind.u64.wrap z=z%18446744073709551616:=by simp [IntKind.wrap,IntKind.bits,IntKind.signed]
theorem LP {c:CF} {x:Int} (h0:0≤x) (h1:x≤18446744073709551615):kN c x=some (nH c x):=by
 unfold kN nH
 simp only [Prod.eta,ij,ab]
 cases hm:dl c with
 | false=>rfl
 | true=>
  have hc:=aC hm
  have hi:IntKind.u64.wrap c.2.2.1=c.2.2.1:=mG (by omega) (by omega)
  have h3:=Int.emod_lt_of_pos x (show 0<c.2.2.1 by omega)
  have h4:=Int.emod_nonneg x (show c.2.2.1≠0 by omega)
  have e1:IntKind.i64.wrap (c.1 - 1)=c.1 - 1:=by rw [IntKind.wrap_i64];omega
  rw [Bool.not_true,cond_false,ab4,ab,e1,decide_eq_true (by omega),Bool.not_true,cond_false,hi,E3,decide_eq_false (by omega),Bool.not_false,cond_true,if_pos rfl,Int.tmod_eq_emod_of_nonneg h0]
  have e2:IntKind.i64.wrap (x%c.2.2.1)=x%c.2.2.1:=by rw [IntKind.wrap_i64];omega
  rw [e2,IntKind.wrap_i64]
  congr 1
  omega
theorem WI {c:CF} {x:Int} (h0:0≤x) (h1:x≤18446744073709551615):nA c x=some (CY c x):=by
 unfold nA CY
 simp only [Prod.eta,ij,ab]
 cases hm:dl c with
 | false=>rfl
 | true=>
  have hc:=aC hm
  have hi:IntKind.u64.wrap c.2.2.1=c.2.2.1:=mG (by omega) (by omega)
  have h3:=Int.emod_lt_of_pos x (show 0<c.2.2.1 by omega)
  have h4:=Int.emod_nonneg x (show c.2.2.1≠0 by omega)
  have e1:IntKind.i64.wrap (c.1 - 1)=c.1 - 1:=by rw [IntKind.wrap_i64];omega
  rw [Bool.not_true,cond_false,ab4,ab,e1,decide_eq_true (by omega),Bool.not_true,cond_false,hi,E3,decide_eq_false (by omega),Bool.not_false,cond_true,if_pos rfl,Int.tmod_eq_emod_of_nonneg h0]
  have e2:IntKind.i64.wrap (x%c.2.2.1)=x%c.2.2.1:=by rw [IntKind.wrap_i64];omega
  have e3:IntKind.i64.wrap (6+c.2.2.1)=6+c.2.2.1:=by rw [IntKind.wrap_i64];omega
  rw [e2,e3,IntKind.wrap_i64]
  congr 1
  omega
theorem Qx {c:CF} {x:Int} (hm:dl c=true) (h0:0≤x) (h1:x≤18446744073709551615):IntKind.u64.wrap (IntKind.u64.wrap (x.tdiv (IntKind.u64.wrap c.2.2.1))*2)=Db c x:=by
 have hc:=aC hm
 have hi:IntKind.u64.wrap c.2.2.1=c.2.2.1:=mG (by omega) (by omega)
 have h3:0≤x/c.2.2.1:=Int.ediv_nonneg h0 (by omega)
 have h4:x/c.2.2.1≤x:=Int.ediv_le_self _ h0
 rw [hi,Int.tdiv_eq_ediv_of_nonneg h0,mG h3 (by omega),ky]
 rfl
theorem CC (a b:Int):IntKind.u64.wrap (a+b)=fG a b:=by rw [ky];rfl
theorem iA (a b:Int):0≤fG a b∧fG a b≤18446744073709551615:=by unfold fG;omega
theorem ne0 {c:CF} (hm:dl c=true):(IntKind.u64.wrap c.2.2.1 !=0)=true:=by
 have hc:=aC hm
 rw [mG (by omega) (by omega),E3,decide_eq_false (by omega)]
 rfl
theorem Xj {c:CF} {x:Int} (hm:dl c=true) (h0:0≤x) (h1:x≤18446744073709551615):lW c x=some (C9 c x):=by
 unfold lW C9
 rw [ne0 hm,cond_true,Qx hm h0 h1,CC]
theorem QK (a b:Int):fU a b=some (wG a b):=rfl
theorem Qn (c:CF) (m:List Int) (f:FR) (op:Int):lT c m f op=some (ry c m f op):=by
 unfold lT pz ry
 simp only [Prod.eta,ij,DT,mZ,ab]
 cases hm:dl c with
 | false=>rfl
 | true=>
  rw [cond_true,ab,nM,Bool.true_and]
  by_cases h1:(m.length:Int)=bN c
  ·rw [decide_eq_true h1,cond_true,Bool.true_and]
   unfold ej
   rw [E3,Bool.not_not,nM]
   by_cases h2:f.2.2.2.2.2.2=0
   ·rw [decide_eq_true h2,cond_true]
    by_cases h3:f.1=op
    ·rw [decide_eq_true h3,cond_true]
     by_cases h4:0≤f.2.1
     ·rw [leT h4,cond_true]
      congr 1
      simp [h2,h3,h4]
     ·rw [leF (by omega),cond_false]
      simp [h4]
    ·rw [decide_eq_false h3,cond_false]
     simp [h3]
   ·rw [decide_eq_false h2,cond_false]
    simp [h2]
  ·rw [decide_eq_false h1,cond_false]
   rfl
theorem LL {c:CF} {m:List Int} {f:FR} {op:Int} (h:ry c m f op=true):dl c=true∧(m.length:Int)=bN c∧f.2.2.2.2.2.2=0∧f.1=op∧0≤f.2.1∧f.2.1<5:=by
 unfold ry at h
 rw [Bool.and_eq_true,Bool.and_eq_true,decide_eq_true_eq,decide_eq_true_eq] at h
 exact ⟨h.1.1,h.1.2,h.2⟩
theorem Pa (c:CF) {m:List Int} (hm:Wm m) (hl:m.length≤1000) {f:FR} (hf:Wf f):m6 c m f=some (lb c m f):=by
 unfold m6 lb
 try simp only [Prod.eta]
 rw [bH (by omega),ab,Qn,ab]
 cases h:ry c m f 3 with
 | false=>rfl
 | true=>
  obtain ⟨hmay,_,h6,h0,h1,h1'⟩:=LL h
  rw [Bool.not_true,cond_false,if_neg (by simp)]
  obtain ⟨a0,a1,a2,a3,a4,a5,a6⟩:=f
  simp only at h6 h0 h1 h1' ⊢
  have e:decide (0≤a1∧a1.toNat<5)=true:=by rw [decide_eq_true_eq];omega
  rw [e,cond_true]
  obtain ⟨w3,w4,w5⟩:=hf
  simp only at w3 w4 w5
  rcases (show a1=0∨a1=1∨a1=2∨a1=3∨a1=4 by omega) with rfl | rfl | rfl | rfl | rfl
  ·simp [ff,ab]
  ·simp only [LP w4.1 w4.2,ff,ab,ne0 hmay,Qx hmay w4.1 w4.2,QK,lG,nM,cond_true]
   by_cases h5:ah m (nH c a4)=Db c a4
   ·simp [h5]
   ·by_cases h7:wG (ah m (nH c a4)) (Db c a4)<0
    ·simp [h5,h7,fw]
    ·simp [h5,h7]
  ·simp only [CC,JP hl,ab]
   cases hc:(ub m 5 a4 (fG a4 1)).2 <;> simp [hc]
  ·simp only [WI w4.1 w4.2,mA hl,ab]
   simp
  ·simp only [LP w4.1 w4.2,ne0 hmay,Qx hmay w4.1 w4.2,CC,mA hl,ab,lG,cond_true]
   simp [fw]
theorem OR (c:CF) {m:List Int} (hm:Wm m) (hl:m.length≤1000) {f:FR} (hf:Wf f):nI c m f=some (lZ c m f):=by
 unfold nI lZ
 try simp only [Prod.eta]
 rw [bH (by omega),ab,Qn,ab]
 cases h:ry c m f 4 with
 | false=>rfl
 | true=>
  obtain ⟨hmay,_,h6,h0,h1,h1'⟩:=LL h
  rw [Bool.not_true,cond_false,if_neg (by simp)]
  obtain ⟨a0,a1,a2,a3,a4,a5,a6⟩:=f
  simp only at h6 h0 h1 h1' ⊢
  obtain ⟨w3,w4,w5⟩:=hf
  simp only at w3 w4 w5
  rcases (show a1=0∨a1=1∨a1=2∨a1=3∨a1=4 by omega) with rfl | rfl | rfl | rfl | rfl
  ·simp [ff,ab]
  ·simp only [LP w4.1 w4.2,ff,ab,Xj hmay w4.1 w4.2,QK,lG,nM]
   by_cases h5:wG (ah m (nH c a4)) (C9 c a4)=0
   ·simp [h5]
   ·by_cases h7:wG (ah m (nH c a4)) (C9 c a4)<0
    ·simp [h5,h7,fw]
    ·simp [h5,h7]
  ·simp only [CC,JP hl,ab]
   cases hc:(ub m 4 a4 (fG a4 1)).2 <;> simp [hc]
  ·simp only [WI w4.1 w4.2,ff,ab]
   simp
  ·simp only [LP w4.1 w4.2,Xj hmay w4.1 w4.2,CC,mA hl,ab,lG]
   simp [fw]
theorem HE (c:CF) {m:List Int} (hm:Wm m) (hl:m.length≤1000) {f:FR} (hf:Wf f):bD c m f=some (CZ c m f):=by
 unfold bD CZ
 simp only [Prod.eta,Pa c hm hl hf,OR c hm hl hf,ab,nM]
 by_cases h3:f.1=3
 ·simp [h3]
 ·by_cases h4:f.1=4
  ·simp [h4]
  ·simp [h3,h4,bH (b:=8) (l:=m) (by omega),ab]
theorem Hl {k:Nat} (hk:1000≤k) (c:CF) {m:List Int} (hm:Wm m) (hl:m.length≤1000) {f:FR} (hf:Wf f):ct k c m f=some (Jl c m f):=by
 unfold ct Jl
 simp only [Prod.eta,abQ c hm hl hf,acM hk c hm hl hf,ab,nM]
 by_cases h5:f.1=5
 ·rw [decide_eq_true h5,cond_true,if_pos h5]
 ·rw [decide_eq_false h5,cond_false,if_neg h5]
  by_cases h6:f.1=6
  ·rw [decide_eq_true h6,cond_true,cond_true,if_pos (.inl h6)]
  ·rw [decide_eq_false h6,cond_false]
   by_cases h7:f.1=7
   ·rw [decide_eq_true h7,cond_true,if_pos (.inr h7)]
   ·rw [decide_eq_false h7,cond_false,if_neg (by omega),bH (by omega),ab]
theorem ae8 {m:List Int} (hl:m.length≤1000) (i v:Int):dI m i v=some (if 0≤i∧i<m.length then (ao m i (fG (ah m i) v),ah m i) else (m,0)):=by
 unfold dI
 rw [bH (by omega),ab,ahP,ab]
 by_cases h:0≤i∧i<m.length
 ·have hd:decide (0≤i∧i.toNat<m.length)=true:=decide_eq_true (by omega)
  rw [decide_eq_true h,Bool.not_true,cond_false,(nW h).1,ab,hd,cond_true,(nW h).2,ab,ab,if_pos h,CC]
  unfold ao
  rw [if_pos h.1]
 ·rw [decide_eq_false h,Bool.not_false,cond_true,if_neg h]
theorem Xa {k:Nat} (hk:9223372036854775808≤k) (c:CF) {t:Tyt} (ht:Wt t) (m:List Int) (x:SB):fC k c t m x=some (Az c t m x):=by
 unfold fC Az
 simp only [Prod.eta,ij,DT,ab]
 rw [FM (k+4) (by omega) t ht]
 cases hm:dl c with
 | false=>rfl
 | true=>
  rw [cond_true,nM,Bool.true_and]
  by_cases h1:(m.length:Int)=bN c
  ·rw [decide_eq_true h1,cond_true,Bool.true_and,ab]
   cases ht2:ow t with
   | false=>rfl
   | true=>
    rw [cond_true,Bool.true_and]
    by_cases h2:0≤x.1
    ·rw [leT h2,cond_true]
     by_cases h3:x.1<6
     ·rw [ltT h3,cond_true]
      cases hl:x.2.1 with
      | nil=>simp
      | cons r rest=>
       have h0:idx (r::rest) 0=some r:=rfl
       rw [ltT (by simp),cond_true,h0,ab,ab]
       by_cases h4:0≤r
       ·rw [leT h4,cond_true]
        congr 1
        simp [h2,h3,iS,h4]
       ·rw [leF (by omega),cond_false]
        simp [iS,h4]
     ·rw [ltF (by omega),cond_false]
      simp [h3]
    ·rw [leF (by omega),cond_false]
     simp [h2]
  ·rw [decide_eq_false h1,cond_false]
   rfl
theorem A5 {c:CF} {t:Tyt} {m:List Int} {x:SB} (h:Az c t m x=true):dl c=true∧(m.length:Int)=bN c∧ow t=true∧0≤x.1∧x.1<6∧∃ r rest,x.2.1=r::rest∧0≤r∧r<t.length:=by
 unfold Az at h
 simp only [Bool.and_eq_true,decide_eq_true_eq] at h
 obtain ⟨⟨⟨h1,h2⟩,h3⟩,h4,h5,h6,h7,h8⟩:=h
 cases hx:x.2.1 with
 | nil=>exact absurd hx h6
 | cons r rest=>
  rw [hx] at h7 h8
  exact ⟨h1,h2,h3,h4,h5,r,rest,rfl,h7,h8⟩
theorem ut {c:CF} (h:dl c=true):12≤bN c∧bN c≤190:=by
 have hm:=aC h
 have:=dV h (w:=c.1) (by omega) (by omega)
 unfold bN
 rw [if_pos h]
 have e:AD c c.1=6+2*c.2.2.1+c.1*(3+c.2.1):=rfl
 have h3:1*(3+c.2.1)≤c.1*(3+c.2.1):=Int.mul_le_mul_of_nonneg_right (by omega) (by omega)
 omega
theorem Yx {k:Nat} (hk:9223372036854775808≤k) (c:CF) {t:Tyt} (ht:Wt t) {m:List Int} (hm:Wm m) (hl:m.length≤1000) (i:Int) {x:SB} (hf:Wf x.2.2) (hr:x.2.1.length≤1000) (ht2:t.length≤1000):fS k c t m i x=some (gO c t m i x):=by
 unfold fS gO
 try simp only [Prod.eta]
 rw [bH (by omega),ab,bH (by omega),ab,Xa (by omega) c ht,ab]
 cases hmay:Az c t m x with
 | false=>rfl
 | true=>
  rw [Bool.not_true,cond_false,if_neg (by simp)]
  obtain ⟨h1,h2,h3,h4,h5,r,rest,hx,h6,h7⟩:=A5 hmay
  have hsz:=ut h1
  obtain ⟨pc,roots,F⟩:=x
  simp only at hx h4 h5 hf hr ⊢
  subst hx
  have hi0:idx (r::rest) 0=some r:=rfl
  have hroom:room 1 24=true:=rfl
  have hroom2:room 2 24=true:=rfl
  have hd:decide ((1:Int)≤((r::rest).length:Int))=true:=decide_eq_true (by simp;omega)
  have hdr:List.drop (Int.toNat 1) (r::rest)=rest:=rfl
  have hh:iS (r::rest)=r:=rfl
  have hur:IntKind.u64.wrap r=r:=mG h6 (by omega)
  have htl:(r::rest).tail=rest:=rfl
  rw [hi0,ab]
  simp only [HE c hm hl hf,Hl (k:=k+20) (by omega) c hm hl hf,ff,ae8 hl,ab,mZ,aa9,hroom,hroom2,hd,hdr,hh,htl,cond_true,hur,nM,E3]
  have hb:∀ op w v:Int,aK op w v=some (op,0,w,v,0,0,0):=fun _ _ _=>rfl
  simp only [hb,ab]
  have hin:(0:Int)≤0∧(0:Int)<m.length:=by omega
  have hcall:lj c m F=if F.1=3∨F.1=4 then CZ c m F else Jl c m F:=rfl
  rcases (show pc=0∨pc=1∨pc=2∨pc=3∨pc=4∨pc=5 by omega) with rfl | rfl | rfl | rfl | rfl | rfl
  ·by_cases h:ah m 3=0
   ·simp [h]
   ·simp [h,dw]
  ·simp only [if_pos hin]
   simp
  ·by_cases e3:F.1=3
   ·have ec:lj c m F=CZ c m F:=by rw [hcall,if_pos (.inl e3)]
    rw [ec]
    cases ho:ej (CZ c m F).2 with
    | false=>simp [e3,ho]
    | true=>
     by_cases h8:(CZ c m F).2.2.2.2.2.2.2=2
     ·simp [e3,ho,h8]
     ·simp [e3,ho,h8]
   ·by_cases e4:F.1=4
    ·have ec:lj c m F=CZ c m F:=by rw [hcall,if_pos (.inr e4)]
     rw [ec]
     cases ho:ej (CZ c m F).2 with
     | false=>simp [e4,ho]
     | true=>
      by_cases h8:(CZ c m F).2.2.2.2.2.2.2=2
      ·simp [e4,ho,h8]
      ·simp [e4,ho,h8]
    ·have ec:lj c m F=Jl c m F:=by rw [hcall,if_neg (by omega)]
     rw [ec]
     cases ho:ej (Jl c m F).2 with
     | false=>simp [e3,e4,ho]
     | true=>
      by_cases h8:(Jl c m F).2.2.2.2.2.2.2=2
      ·simp [e3,e4,ho,h8]
      ·simp [e3,e4,ho,h8]
  ·by_cases h:ah m 1=0
   ·simp [h]
   ·simp [h,dw]
  ·by_cases e3:F.1=3
   ·have ec:lj c m F=CZ c m F:=by rw [hcall,if_pos (.inl e3)]
    rw [ec]
    cases ho:ej (CZ c m F).2 with
    | false=>simp [e3,ho]
    | true=>simp [e3,ho,dw]
   ·by_cases e4:F.1=4
    ·have ec:lj c m F=CZ c m F:=by rw [hcall,if_pos (.inr e4)]
     rw [ec]
     cases ho:ej (CZ c m F).2 with
     | false=>simp [e4,ho]
     | true=>simp [e4,ho,dw]
    ·have ec:lj c m F=Jl c m F:=by rw [hcall,if_neg (by omega)]
     rw [ec]
     cases ho:ej (Jl c m F).2 with
     | false=>simp [e3,e4,ho]
     | true=>simp [e3,e4,ho,dw]
  ·simp only [if_pos hin]
   by_cases h:ah m 0=1
   ·simp [h,dw,hroom2]
   ·simp [h,dw]
end Go.Ab
set_option linter.unusedVariables false
namespace Go.Ab
def onW (c:CF) (w x:Int):Int:=if dl c=true∧0≤w∧w<c.1 then AD c w+x else -1
def Iq (c:CF) (w:Int):Int:=onW c w 0
def I7 (c:CF) (w:Int):Int:=onW c w 1
def rS (c:CF) (w x:Int):Int:=onW c w (3+AP .u64 x (c.2.1 - 1))
def OS (a b:Int):Int:=(a - b)%18446744073709551616
def eO (c:CF) (m:List Int) (f:FR):List Int×FR:=
 if uO c m f 0 4=false then (m,f)
 else if f.2.1=0 then (m,f.1,1,f.2.2.1,f.2.2.2.1,ah m (I7 c f.2.2.1),f.2.2.2.2.2)
 else if f.2.1=1 then (if c.2.1≤OS f.2.2.2.2.1 (ah m (Iq c f.2.2.1)) then (m,fw f 2 f.2.2.2.1) else (m,f.1,2,f.2.2.1,f.2.2.2.1,f.2.2.2.2.1,ah m (Iq c f.2.2.1),f.2.2.2.2.2.2))
 else if f.2.1=2 then (ao m (rS c f.2.2.1 f.2.2.2.2.1) f.2.2.2.1,f.1,3,f.2.2)
 else (ao m (I7 c f.2.2.1) (fG f.2.2.2.2.1 1),fw f 1 f.2.2.2.1)
def k7 (c:CF) (m:List Int) (f:FR):List Int×FR:=
 if uO c m f 1 7=false then (m,f)
 else if f.2.1=0 then (m,f.1,1,f.2.2.1,f.2.2.2.1,OS (ah m (I7 c f.2.2.1)) 1,f.2.2.2.2.2)
 else if f.2.1=1 then (ao m (I7 c f.2.2.1) f.2.2.2.2.1,f.1,2,f.2.2)
 else if f.2.1=2 then (m,f.1,if wG f.2.2.2.2.1 (ah m (Iq c f.2.2.1))<0 then 6 else 3,f.2.2.1,f.2.2.2.1,f.2.2.2.2.1,ah m (Iq c f.2.2.1),f.2.2.2.2.2.2)
 else if f.2.1=3 then (if f.2.2.2.2.1≠f.2.2.2.2.2.1 then (m,fw f 1 (ah m (rS c f.2.2.1 f.2.2.2.2.1))) else (m,f.1,4,f.2.2.1,ah m (rS c f.2.2.1 f.2.2.2.2.1),f.2.2.2.2))
 else if f.2.1=4 then (let r:=ub m (Iq c f.2.2.1) f.2.2.2.2.2.1 (fG f.2.2.2.2.2.1 1);(r.1,f.1,if r.2=true then 5 else 6,f.2.2))
 else if f.2.1=5 then (ao m (I7 c f.2.2.1) (fG f.2.2.2.2.1 1),fw f 1 f.2.2.2.1)
 else (ao m (I7 c f.2.2.1) (fG f.2.2.2.2.1 1),fw f 3 0)
def br (c:CF) (m:List Int) (f:FR):List Int×FR:=
 if uO c m f 2 4=false then (m,f)
 else if f.2.1=0 then (m,f.1,1,f.2.2.1,f.2.2.2.1,f.2.2.2.2.1,ah m (Iq c f.2.2.1),f.2.2.2.2.2.2)
 else if f.2.1=1 then (if wG (ah m (I7 c f.2.2.1)) f.2.2.2.2.2.1≤0 then (m,fw f 3 0) else (m,f.1,2,f.2.2.1,f.2.2.2.1,ah m (I7 c f.2.2.1),f.2.2.2.2.2))
 else if f.2.1=2 then (m,f.1,3,f.2.2.1,ah m (rS c f.2.2.1 f.2.2.2.2.2.1),f.2.2.2.2)
 else (let r:=ub m (Iq c f.2.2.1) f.2.2.2.2.2.1 (fG f.2.2.2.2.2.1 1);if r.2=true then (r.1,fw f 1 f.2.2.2.1) else (r.1,fw f 4 0))
def C0 (c:CF) (m:List Int) (f:FR):List Int×FR:=if f.1=0 then eO c m f else if f.1=1 then k7 c m f else if f.1=2 then br c m f else (m,f)
def dF (c:CF) (m:List Int) (f:FR):List Int×FR:=if f.1=0∨f.1=1∨f.1=2 then C0 c m f else lj c m f
theorem adK (a b:Int):IntKind.u64.wrap (a - b)=OS a b:=by rw [ky];rfl
theorem Vs (a b:Int):0≤OS a b∧OS a b≤18446744073709551615:=by unfold OS;omega
theorem FN {x D:Int} (h0:0≤x) (h1:x≤18446744073709551615) (hD:1≤D) (hE:D≤16):0≤AP .u64 x (D - 1)∧AP .u64 x (D - 1)≤D - 1:=by
 obtain ⟨a,rfl⟩:=Int.eq_ofNat_of_zero_le h0
 obtain ⟨b,hb⟩:∃ b:Nat,D - 1=(b:Int):=⟨(D - 1).toNat,by omega⟩
 rw [hb,Ud (by omega) (by omega)]
 have:=Nat.and_le_right (n:=a) (m:=b)
 omega
theorem Ts (c:CF) (w:Int):kS c w=some (Iq c w):=by
 unfold kS Iq onW
 try simp only [Prod.eta]
 rw [ij,ab]
 cases h:dl c with
 | false=>simp
 | true=>
  have hm:=aC h
  rw [Bool.not_true,cond_false,fx (by omega),ab4,ab]
  by_cases h1:0≤w∧w≤c.1 - 1
  ·have ht:=dV h h1.1 (by omega)
   rw [decide_eq_true h1,Bool.not_true,cond_false,Hd h (by omega) (by omega),ab,if_pos ⟨rfl,by omega,by omega⟩,Int.add_zero]
  ·rw [decide_eq_false h1,Bool.not_false,cond_true,if_neg (by omega)]
theorem RQ (c:CF) (w:Int):dQ c w=some (I7 c w):=by
 unfold dQ I7 onW
 try simp only [Prod.eta]
 rw [ij,ab]
 cases h:dl c with
 | false=>simp
 | true=>
  have hm:=aC h
  rw [Bool.not_true,cond_false,fx (by omega),ab4,ab]
  by_cases h1:0≤w∧w≤c.1 - 1
  ·have ht:=dV h h1.1 (by omega)
   rw [decide_eq_true h1,Bool.not_true,cond_false,Hd h (by omega) (by omega),ab,fx (by omega),if_pos ⟨rfl,by omega,by omega⟩]
  ·rw [decide_eq_false h1,Bool.not_false,cond_true,if_neg (by omega)]
theorem Qg (c:CF) (w:Int) {x:Int} (h0:0≤x) (hx:x≤18446744073709551615):gP c w x=some (rS c w x):=by
 unfold gP rS onW
 try simp only [Prod.eta]
 rw [ij,ab]
 cases h:dl c with
 | false=>simp
 | true=>
  have hm:=aC h
  rw [Bool.not_true,cond_false,fx (z:=c.1 - 1) (by omega),ab4,ab]
  by_cases h1:0≤w∧w≤c.1 - 1
  ·have ht:=dV h h1.1 (by omega)
   have ha:=FN h0 hx (show 1≤c.2.1 by omega) (by omega)
   rw [decide_eq_true h1,Bool.not_true,cond_false,Hd h (by omega) (by omega),ab,if_pos ⟨rfl,by omega,by omega⟩,fx (z:=c.2.1 - 1) (by omega),mG (z:=c.2.1 - 1) (by omega) (by omega),fx (z:=AP .u64 x (c.2.1 - 1)) (by omega),fx (z:=AD c w+3) (by omega),fx (by omega),Int.add_assoc]
  ·rw [decide_eq_false h1,Bool.not_false,cond_true,if_neg (by omega)]
section
variable (k:Nat) (c:CF) (m:List Int) (a2 a3 a4 a5:Int) (n:Nat) {x:List Int} (p q:Int)
theorem aeg:an k c m (2,1,a2,a3,a4,a5,0) (n+1) x p q 0=an k c m (2,1,a2,a3,a4,a5,0) n x p q 1:=by
 rw [an]
 rfl
theorem aeG:an k c m (2,2,a2,a3,a4,a5,0) (n+1) x p q 0=an k c m (2,2,a2,a3,a4,a5,0) n x p q 1:=by
 rw [an]
 rfl
theorem afr:an k c m (2,2,a2,a3,a4,a5,0) (n+1) x p q 1=an k c m (2,2,a2,a3,a4,a5,0) n x p q 2:=by
 rw [an]
 rfl
theorem afQ:an k c m (2,3,a2,a3,a4,a5,0) (n+1) x p q 0=an k c m (2,3,a2,a3,a4,a5,0) n x p q 1:=by
 rw [an]
 rfl
theorem agH:an k c m (2,3,a2,a3,a4,a5,0) (n+1) x p q 1=an k c m (2,3,a2,a3,a4,a5,0) n x p q 2:=by
 rw [an]
 rfl
theorem agb:an k c m (2,3,a2,a3,a4,a5,0) (n+1) x p q 2=an k c m (2,3,a2,a3,a4,a5,0) n x p q 3:=by
 rw [an]
 rfl
theorem afw:an k c m (2,0,a2,a3,a4,a5,0) (n+1) x p q 0=some (x,(2,1,a2,a3,a4,ah x p,0)):=by
 have e:an k c m (2,0,a2,a3,a4,a5,0) (n+1) x p q 0=ob (aJ x p) fun r=>some (x,(2,1,a2,a3,a4,r,0)):=by
  rw [an]
  rfl
 rw [e,ff,ab]
theorem agv:an k c m (2,1,a2,a3,a4,a5,0) (n+1) x p q 1=some (if wG (ah x q) a5≤0 then (x,(2,0,a2,0,0,0,3)) else (x,(2,2,a2,a3,ah x q,a5,0))):=by
 have e:an k c m (2,1,a2,a3,a4,a5,0) (n+1) x p q 1=ob (aJ x q) fun r=>ob (fU r a5) fun y=>bif decide (y≤0) then some (x,(2,0,a2,0,0,0,3)) else some (x,(2,2,a2,a3,r,a5,0)):=by
  rw [an]
  rfl
 rw [e,ff,ab,QK,ab]
 by_cases h:wG (ah x q) a5≤0
 ·rw [leT h,cond_true,if_pos h]
 ·rw [leF (by omega),cond_false,if_neg h]
theorem ae7 (h0:0≤a5) (h1:a5≤18446744073709551615):an k c m (2,2,a2,a3,a4,a5,0) (n+1) x p q 2=some (x,(2,3,a2,ah x (rS c a2 a5),a4,a5,0)):=by
 have e:an k c m (2,2,a2,a3,a4,a5,0) (n+1) x p q 2=ob (gP c a2 a5) fun s=>ob (aJ x s) fun r=>some (x,(2,3,a2,r,a4,a5,0)):=by
  rw [an]
  rfl
 rw [e,Qg c a2 h0 h1,ab,ff,ab]
theorem ahG (hl:x.length≤1000):an k c m (2,3,a2,a3,a4,a5,0) (n+1) x p q 3=some (if (ub x p a5 (fG a5 1)).2=true then ((ub x p a5 (fG a5 1)).1,(2,0,a2,a3,0,0,1)) else ((ub x p a5 (fG a5 1)).1,(2,0,a2,0,0,0,4))):=by
 have e:an k c m (2,3,a2,a3,a4,a5,0) (n+1) x p q 3=ob (dJ x p a5 (IntKind.u64.wrap (a5+1))) fun r=>bif r.2 then some (r.1,(2,0,a2,a3,0,0,1)) else some (r.1,(2,0,a2,0,0,0,4)):=by
  rw [an]
  rfl
 rw [e,CC,JP hl,ab]
 cases (ub x p a5 (fG a5 1)).2 <;> rfl
end
section
variable (c:CF) {m:List Int} (hm:Wm m) (hl:m.length≤1000) {f:FR} (hf:Wf f)
include hm hl hf
theorem Nu:my c m f=some (eO c m f):=by
 have _h:=hm
 unfold my eO
 try simp only [Prod.eta]
 rw [bH (by omega),ab,Lb,ab]
 cases h:uO c m f 0 4 with
 | false=>rfl
 | true=>
  obtain ⟨hmay,_,h6,h2,h2',h0,h1,h1'⟩:=EQ h
  have hc:=aC hmay
  rw [cond_true,if_neg (by simp)]
  obtain ⟨a0,a1,a2,a3,a4,a5,a6⟩:=f
  simp only at h6 h2 h2' h0 h1 h1' ⊢
  obtain ⟨w3,w4,w5⟩:=hf
  simp only at w3 w4 w5
  rcases (show a1=0∨a1=1∨a1=2∨a1=3 by omega) with rfl | rfl | rfl | rfl
  ·simp [RQ,ff,ab]
  ·simp only [Ts,ff,ab,lG,adK,mG (z:=c.2.1) (by omega) (by omega)]
   by_cases h5:c.2.1≤OS a4 (ah m (Iq c a2))
   ·simp [h5,fw]
   ·simp [h5]
  ·simp only [Qg c a2 w4.1 w4.2,mA hl,ab]
   simp
  ·simp only [RQ,mA hl,ab,lG,CC]
   simp [fw]
theorem OO:nu c m f=some (k7 c m f):=by
 have _h:=hm
 unfold nu k7
 try simp only [Prod.eta]
 rw [bH (by omega),ab,Lb,ab]
 cases h:uO c m f 1 7 with
 | false=>rfl
 | true=>
  obtain ⟨hmay,_,h6,h2,h2',h0,h1,h1'⟩:=EQ h
  rw [Bool.not_true,cond_false,if_neg (by simp)]
  obtain ⟨a0,a1,a2,a3,a4,a5,a6⟩:=f
  simp only at h6 h2 h2' h0 h1 h1' ⊢
  obtain ⟨w3,w4,w5⟩:=hf
  simp only at w3 w4 w5
  rw [Ts,ab,RQ,ab]
  have hw:∀ z:Int,0≤z→z≤100→IntKind.i64.wrap (z+1)=z+1:=fun z _ _=>fx (by omega)
  rcases (show a1=0∨a1=1∨a1=2∨a1=3∨a1=4∨a1=5∨a1=6 by omega) with rfl | rfl | rfl | rfl | rfl | rfl | rfl
  ·rw [hw 0 (by decide) (by decide)]
   simp [ff,ab,adK]
  ·rw [hw 1 (by decide) (by decide)]
   simp [mA hl,ab]
  ·rw [hw 2 (by decide) (by decide)]
   simp only [ff,ab,QK]
   by_cases h5:wG a4 (ah m (Iq c a2))<0
   ·simp [h5]
   ·simp [h5]
  ·rw [hw 3 (by decide) (by decide)]
   simp only [Qg c a2 w4.1 w4.2,ff,ab,lG,E3]
   by_cases h5:a4=a5
   ·simp [h5]
   ·simp [h5,fw]
  ·rw [hw 4 (by decide) (by decide)]
   simp only [CC,JP hl,ab]
   cases hc:(ub m (Iq c a2) a5 (fG a5 1)).2 <;> simp [hc]
  ·simp only [CC,mA hl,ab,lG]
   simp [fw]
  ·simp only [CC,mA hl,ab,lG]
   simp [fw]
theorem Kf (k:Nat):kH k c m f=some (br c m f):=by
 have _h:=hm
 unfold kH br
 try simp only [Prod.eta]
 rw [bH (by omega),ab,Lb,ab]
 cases h:uO c m f 2 4 with
 | false=>rfl
 | true=>
  obtain ⟨hmay,_,h6,h2,h2',h0,h1,h1'⟩:=EQ h
  rw [Bool.not_true,cond_false,if_neg (by simp)]
  obtain ⟨a0,a1,a2,a3,a4,a5,a6⟩:=f
  simp only at h6 h2 h2' h0 h1 h1' ⊢
  obtain ⟨w3,w4,w5⟩:=hf
  simp only at w3 w4 w5
  subst h6
  subst h0
  rw [Ts,ab,RQ,ab]
  rcases (show a1=0∨a1=1∨a1=2∨a1=3 by omega) with rfl | rfl | rfl | rfl
  ·rw [if_pos rfl]
   exact afw k c m a2 a3 a4 a5 (k+22) _ _
  ·rw [if_neg (by decide),if_pos rfl]
   exact (aeg k c m a2 a3 a4 a5 (k+22) _ _).trans (agv k c m a2 a3 a4 a5 (k+21) _ _)
  ·rw [if_neg (by decide),if_neg (by decide),if_pos rfl]
   exact (aeG k c m a2 a3 a4 a5 (k+22) _ _).trans ((afr k c m a2 a3 a4 a5 (k+21) _ _).trans (ae7 k c m a2 a3 a4 a5 (k+20) _ _ w5.1 w5.2))
  ·rw [if_neg (by decide),if_neg (by decide),if_neg (by decide)]
   exact (afQ k c m a2 a3 a4 a5 (k+22) _ _).trans ((agH k c m a2 a3 a4 a5 (k+21) _ _).trans ((agb k c m a2 a3 a4 a5 (k+20) _ _).trans (ahG k c m a2 a3 a4 a5 (k+19) _ _ hl)))
theorem Oq (k:Nat):fB k c m f=some (C0 c m f):=by
 unfold fB C0
 simp only [Prod.eta,Nu c hm hl hf,OO c hm hl hf,Kf c hm hl hf,ab,nM]
 by_cases h0:f.1=0
 ·simp [h0]
 ·by_cases h1:f.1=1
  ·simp [h1]
  ·by_cases h2:f.1=2
   ·simp [h2]
   ·simp [h0,h1,h2,bH (b:=8) (l:=m) (by omega),ab]
end
end Go.Ab
set_option maxRecDepth 100000
set_option linter.unusedVariables false
namespace Go.Ab
structure FwT (t:Tyt):Prop where
 len:t.length≤40
 kids:∀ x ∈ t,x.2.length≤40
theorem af6 {t:Tyt} (h:afg t=true):FwT t:=by
 simp only [afg,Bool.and_eq_true,decide_eq_true_eq,List.all_eq_true] at h
 refine ⟨h.2,fun x hx=>h.1 x ?_⟩
 rwa [List.take_of_length_le (by omega)]
theorem FwT.wt {t:Tyt} (h:FwT t):Wt t:=⟨by have:=h.len;omega,fun x hx=>by have:=h.kids x hx;omega⟩
def nR (t:Tyt) (q:Int):Int×List Int:=(t[q.toNat]?).getD (0,[])
def GB (t:Tyt) (x:Int×Int×Int):Bool:=
 decide (0≤x.1)&&decide (x.1<t.length)&&(decide (0≤x.2.1)&&decide (x.2.1≤(nR t x.1).1))&&(decide (0≤x.2.2)&&decide (x.2.2≤((nR t x.1).2.length:Int))) &&
  !(decide (x.2.1<(nR t x.1).1)&&decide (0<x.2.2))
def cG (t:Tyt) (s:Tye):Bool:=ow t&&s.all (GB t)
theorem Qi {t:Tyt} {q:Int} (h0:0≤q) (h1:q<t.length):idx t q=some (nR t q):=by
 rw [idx,if_pos h0,nR,List.getElem?_eq_getElem (by omega)]
 rfl
theorem Fb {t:Tyt} {q:Int} (h0:0≤q) (h1:q<t.length):nR t q ∈ t:=by
 rw [nR,List.getElem?_eq_getElem (show q.toNat<t.length by omega)]
 exact List.getElem_mem _
theorem Jh {α:Type} (b:Nat) (l:List α) (h:l.length*b≤70368744177664):aN b l=some l:=by
 unfold aN
 rw [ao5,decide_eq_true h,bC]
theorem agC (a b:Int):gL a b=some (decide (0≤a)&&decide (a≤b)):=by
 rw [gL]
 cases decide ((0:Int)≤a) <;> rfl
section
variable (k:Nat) (hk:9223372036854775808≤k)
include hk
theorem Q1 (t:Tyt) (ht:Wt t) (s:Tye) (hs:s.length≤9223372036854775807):gw k t s=some (cG t s):=by
 have hlen:=ht.len
 rw [gw,FM k hk t ht,ab,cG]
 cases hm:ow t with
 | false=>rfl
 | true=>
  have h30:=BM hm
  rw [cond_true,Dk (F:=fun n i=>bY k n s (s.length:Int) t i) (l:=s) (fun x => !GB t x) ?_ ?_ _ (by omega),ab,mX]
  ·rw [List.all_eq_not_any_not,Bool.true_and]
  ·intro n
   simp only [bY,pp,cond_false]
  ·intro n i x hi hx
   simp only [bY,ltN hi,cond_true,fO hx,ab,agC]
   rw [gg (by omega),fx (z:=(t.length:Int) - 1) (by omega)]
   have e0:decide (x.1≤(t.length:Int) - 1)=decide (x.1<(t.length:Int)):=by
    by_cases h:x.1<(t.length:Int)
    ·rw [decide_eq_true h,decide_eq_true (by omega)]
    ·rw [decide_eq_false h,decide_eq_false (by omega)]
   rw [e0]
   unfold GB
   by_cases h0:0≤x.1
   ·by_cases h1:x.1<(t.length:Int)
    ·rw [leT h0,ltT h1,Qi h0 h1,ab]
     simp only [Bool.and_self,Bool.not_true,cond_false,Bool.true_and]
     cases (decide (0≤x.2.1)&&decide (x.2.1≤(nR t x.1).1)) with
     | false=>rfl
     | true=>
      cases (decide (0≤x.2.2)&&decide (x.2.2≤((nR t x.1).2.length:Int))) with
      | false=>rfl
      | true=>
       cases decide (x.2.1<(nR t x.1).1) with
       | false=>rfl
       | true=>cases decide (0<x.2.2) <;> rfl
    ·rw [ltF (show (t.length:Int)≤x.1 by omega)]
     simp
   ·rw [leF (show x.1<0 by omega)]
    simp
end
def ea (t:Tyt) (s:Tye):Int×Int:=
 match s.getLast? with
 | none=>(0,0)
 | some x=>if cG t s=false then (0,0) else if x.2.1<(nR t x.1).1 then (1,x.1) else if x.2.2<((nR t x.1).2.length:Int) then (2,((nR t x.1).2[x.2.2.toNat]?).getD 0) else (3,x.1)
def doB (t:Tyt) (s:Tye):Tye:=
 match s.getLast? with
 | none=>s
 | some x=>if cG t s=false then s else if x.2.1<(nR t x.1).1 then s.dropLast++[(x.1,x.2.1+1,x.2.2)] else if x.2.2<((nR t x.1).2.length:Int) then s.dropLast++[(x.1,x.2.1,x.2.2+1)] else s.dropLast
def iU (t:Tyt) (s:Tye) (q:Int):Tye:=
 if cG t s=true∧0≤q∧q<t.length then s++[(q,0,0)] else s
def RN (t:Tyt) (x:Int×Int×Int):Int:=(nR t x.1).1 - x.2.1+((nR t x.1).2.length:Int) - x.2.2+1
def Nw (t:Tyt) (s:Tye):Int:=if cG t s=true then (s.map (RN t)).sum else 0
theorem l9 {α:Type} (s:List α):s=[]∨∃ r x,s=r++[x]:=by
 rcases List.eq_nil_or_concat s with h | ⟨r,x,h⟩
 ·exact .inl h
 ·exact .inr ⟨r,x,by rw [h,List.concat_eq_append]⟩
theorem K2 {α:Type} (r:List α) (x:α):(((r++[x]).length:Nat):Int) - 1=(r.length:Int):=by simp
theorem KD {α:Type} (r:List α) (x:α):(r++[x])[r.length]? = some x:=by simp
theorem SJ {α:Type} (r:List α) (x y:α):(r++[x]).set r.length y=r++[y]:=by simp
theorem Qa {α:Type} (r:List α) (x:α):(r++[x]).take r.length=r:=by simp
theorem pJ (t:Tyt) (r:Tye) (x:Int×Int×Int):ea t (r++[x])=if cG t (r++[x])=false then (0,0) else if x.2.1<(nR t x.1).1 then (1,x.1) else if x.2.2<((nR t x.1).2.length:Int) then (2,((nR t x.1).2[x.2.2.toNat]?).getD 0) else (3,x.1):=by
 simp [ea]
theorem AE (t:Tyt) (r:Tye) (x:Int×Int×Int):doB t (r++[x])=if cG t (r++[x])=false then r++[x] else if x.2.1<(nR t x.1).1 then r++[(x.1,x.2.1+1,x.2.2)] else if x.2.2<((nR t x.1).2.length:Int) then r++[(x.1,x.2.1,x.2.2+1)] else r:=by
 simp [doB]
theorem Z6 (t:Tyt) (s:Tye):(doB t s).length≤s.length:=by
 rcases l9 s with rfl | ⟨r,x,rfl⟩
 ·simp [doB]
 ·rw [AE]
  split
  ·exact Nat.le_refl _
  ·split
   ·simp
   ·split <;> simp
theorem MU (t:Tyt) (s:Tye) (q:Int):(iU t s q).length≤s.length+1:=by
 unfold iU
 split <;> simp
structure It (t:Tyt) (x:Int×Int×Int):Prop where
 h0:0≤x.1
 h1:x.1<t.length
 d0:0≤x.2.1
 d1:x.2.1≤(nR t x.1).1
 c0:0≤x.2.2
 c1:x.2.2≤((nR t x.1).2.length:Int)
 z:x.2.1<(nR t x.1).1→x.2.2=0
theorem KL {t:Tyt} {x:Int×Int×Int}:GB t x=true↔It t x:=by
 simp only [GB,Bool.and_eq_true,decide_eq_true_eq,Bool.not_eq_true',Bool.and_eq_false_iff,decide_eq_false_iff_not]
 constructor
 ·rintro ⟨⟨⟨⟨a,b⟩,c,d⟩,e,f⟩,g⟩
  exact ⟨a,b,c,d,e,f,fun h=>by rcases g with g | g <;> omega⟩
 ·rintro ⟨a,b,c,d,e,f,g⟩
  refine ⟨⟨⟨⟨a,b⟩,c,d⟩,e,f⟩,?_⟩
  by_cases h:x.2.1<(nR t x.1).1
  ·exact .inr (by have:=g h;omega)
  ·exact .inl h
theorem ko {t:Tyt} {r:Tye} {x:Int×Int×Int}:cG t (r++[x])=true↔ow t=true∧(∀ y ∈ r,It t y)∧It t x:=by
 simp only [cG,Bool.and_eq_true,List.all_eq_true,List.mem_append,List.mem_singleton,KL]
 constructor
 ·rintro ⟨a,b⟩
  exact ⟨a,fun y hy=>b y (.inl hy),b x (.inr rfl)⟩
 ·rintro ⟨a,b,c⟩
  refine ⟨a,fun y hy => ?_⟩
  rcases hy with h | rfl
  ·exact b y h
  ·exact c
theorem nL {t:Tyt} {r:Tye}:cG t r=true↔ow t=true∧(∀ y ∈ r,It t y):=by
 simp only [cG,Bool.and_eq_true,List.all_eq_true,KL]
section
variable (k:Nat) (hk:9223372036854775808≤k)
include hk
theorem Qv (t:Tyt) (ht:Wt t) (s:Tye) (hs:s.length≤1048576):eH k t s=some (ea t s):=by
 rw [eH]
 rcases l9 s with rfl | ⟨r,x,rfl⟩
 ·rfl
 ·have hr:r.length+1≤1048576:=by simpa using hs
  have e1:((((r++[x]).length:Nat):Int)==0)=false:=by simp;omega
  rw [e1,cond_false,Q1 k hk t ht _ (by omega),ab,pJ]
  cases h:cG t (r++[x]) with
  | false=>rfl
  | true=>
   obtain ⟨hm,hr',hx⟩:=ko.1 h
   have hl:=ht.kids _ (Fb hx.h0 hx.h1)
   rw [Bool.not_true,cond_false,K2,fx (by omega),fO (KD r x),ab,Qi hx.h0 hx.h1,ab,if_neg (show ¬ (true=false) by simp)]
   by_cases h1:x.2.1<(nR t x.1).1
   ·rw [ltT h1,cond_true,if_pos h1]
   ·rw [ltF (by omega),cond_false,if_neg h1]
    by_cases h2:x.2.2<((nR t x.1).2.length:Int)
    ·have:=hx.c0
     rw [ltT h2,cond_true,if_pos h2,idx,if_pos hx.c0,List.getElem?_eq_getElem (by omega),ab]
     rfl
    ·rw [ltF (by omega),cond_false,if_neg h2]
theorem aj4 (t:Tyt) (ht:Wt t) (s:Tye) (hs:s.length≤1048576):gQ k t s=some (doB t s):=by
 rw [gQ,Jh _ _ (by omega),ab,Qv k hk t ht s hs,ab]
 rcases l9 s with rfl | ⟨r,x,rfl⟩
 ·rfl
 ·have hr:r.length+1≤1048576:=by simpa using hs
  rw [K2,fx (by omega),pJ,AE,Int.toNat_natCast,KD,Qa]
  simp only [SJ,ab]
  have e1:decide ((0:Int)≤(r.length:Int)∧r.length<(r++[x]).length)=true:=by simp
  have e2:decide ((0:Int)≤(r.length:Int)∧r.length≤(r++[x]).length)=true:=by simp
  have e3:decide (r.length≤(r++[x]).length)=true:=by simp
  rw [e1,e2,e3]
  cases h:cG t (r++[x]) with
  | false=>rfl
  | true=>
   obtain ⟨hm,hr',hx⟩:=ko.1 h
   have hw:=(CK hm).work _ (Fb hx.h0 hx.h1)
   have hl:=ht.kids _ (Fb hx.h0 hx.h1)
   have:=hx.d0
   have:=hx.c0
   rw [if_neg (show ¬ (true=false) by simp),if_neg (show ¬ (true=false) by simp)]
   by_cases h1:x.2.1<(nR t x.1).1
   ·rw [if_pos h1,if_pos h1]
    simp only [beq_self_eq_true,cond_true]
    rw [fx (by omega)]
   ·rw [if_neg h1,if_neg h1]
    by_cases h2:x.2.2<((nR t x.1).2.length:Int)
    ·rw [if_pos h2,if_pos h2]
     simp only [Int.reduceBEq,cond_true,cond_false]
     rw [fx (by omega)]
    ·rw [if_neg h2,if_neg h2]
     rfl
theorem WC (t:Tyt) (ht:Wt t) (s:Tye) (hs:s.length≤1048576) (q:Int):dL k t s q=some (iU t s q):=by
 have hlen:=ht.len
 rw [dL,Jh _ _ (by omega),ab,Q1 k hk t ht s (by omega),ab,iU]
 cases h:cG t s with
 | false=>simp
 | true=>
  have h30:=BM (nL.1 h).1
  rw [Bool.not_true,cond_false,agC,ab,fx (by omega)]
  by_cases h0:0≤q
  ·by_cases h1:q<t.length
   ·have e2:room (s++[(q,(0:Int),(0:Int))]).length 24=true:=Aw (by simp;omega)
    rw [leT h0,leT (show q≤(t.length:Int) - 1 by omega),Bool.and_self,Bool.not_true,cond_false,e2,cond_true,if_pos ⟨rfl,h0,h1⟩]
   ·rw [leF (show (t.length:Int) - 1<q by omega),if_neg (by omega)]
    simp
  ·rw [leF (show q<0 by omega),if_neg (by omega)]
   simp
end
theorem agf {t:Tyt} {q:Int} (hm:ow t=true) (h0:0≤q) (h1:q<t.length):It t (q,0,0):=
 ⟨h0,h1,by simp,((CK hm).work _ (Fb h0 h1)).1,by simp,by simp,fun _=>rfl⟩
theorem CJ {t:Tyt} {r:Tye} {x:Int×Int×Int} (h:cG t (r++[x])=true):Nw t (r++[x])=Nw t r+RN t x:=by
 obtain ⟨a,b,c⟩:=ko.1 h
 rw [Nw,if_pos h,Nw,if_pos (nL.2 ⟨a,b⟩),List.map_append,List.sum_append]
 simp
theorem To {t:Tyt} {r:Tye} {x:Int×Int×Int} (h:cG t (r++[x])=true):cG t (doB t (r++[x]))=true∧Nw t (doB t (r++[x]))=Nw t (r++[x]) - 1:=by
 obtain ⟨a,b,c⟩:=ko.1 h
 obtain ⟨q0,q1,q2,q3,q4,q5,q6⟩:=c
 rw [CJ h,AE,if_neg (by simp [h])]
 split
 ·rename_i h1
  have h2:cG t (r++[(x.1,x.2.1+1,x.2.2)])=true:=ko.2 ⟨a,b,⟨q0,q1,by simp only;omega,by simp only;omega,q4,q5,fun _=>q6 h1⟩⟩
  refine ⟨h2,?_⟩
  rw [CJ h2]
  unfold RN
  simp only
  omega
 ·rename_i h1
  split
  ·rename_i h3
   have h2:cG t (r++[(x.1,x.2.1,x.2.2+1)])=true:=ko.2 ⟨a,b,⟨q0,q1,q2,q3,by simp only;omega,by simp only;omega,fun h=>absurd h h1⟩⟩
   refine ⟨h2,?_⟩
   rw [CJ h2]
   unfold RN
   simp only
   omega
  ·rename_i h3
   refine ⟨nL.2 ⟨a,b⟩,?_⟩
   unfold RN
   omega
end Go.Ab
set_option linter.unusedVariables false
namespace Go.Ab
abbrev WB:=Int×Tye×FR×Int×Int
def Ap (op w v:Int):FR:=(op,0,w,v,0,0,0)
def eC (c:CF) (t:Tyt) (m:List Int) (w:Int) (x:WB):Bool:=dl c&&decide ((m.length:Int)=bN c)&&ow t&&decide (0≤w∧w<c.1∧0≤x.1∧x.1<16)&&cG t x.2.1
def Dc (d w W:Int):Int:=if W<2∨w<0∨W≤w then -1 else (w+1+d%(W - 1))%W
def toW (pc:Int) (x:WB):WB:=(pc,x.2.1,dw,x.2.2.2)
def lq (pc op w v:Int) (x:WB):WB:=(pc,x.2.1,Ap op w v,x.2.2.2)
def BV:Int:=18446744073709551615
def OK (v:Int):Int:=IntKind.i64.wrap v
abbrev WR:=List Int×WB×List EV
def JS (c:CF) (t:Tyt) (m:List Int) (w:Int) (x:WB):WR:=
 let r:=dF c m x.2.2.1
 if ej r.2=false then (r.1,(x.1,x.2.1,r.2,x.2.2.2),[])
 else if r.2.2.2.2.2.2.2≠1 then (r.1,toW 1 x,[])
 else (r.1,(9,iU t x.2.1 (OK r.2.2.2.2.1),dw,x.2.2.2),[(2,OK r.2.2.2.2.1,w)])
def Ay (c:CF) (m:List Int) (w:Int) (x:WB):WR:=(ao m 1 (fG (ah m 1) 1),(2,x.2.1,Ap 4 w 0,c.2.2.2,x.2.2.2.2),[])
def oa (c:CF) (m:List Int) (w:Int) (x:WB) (d:Int):WR:=
 let r:=dF c m x.2.2.1
 if ej r.2=false then (r.1,(x.1,x.2.1,r.2,x.2.2.2),[])
 else if r.2.2.2.2.2.2.2=1 then (r.1,(4,x.2.1,r.2,x.2.2.2),[])
 else if x.1=2∧0≤Dc d w c.1 then (r.1,lq 3 2 (Dc d w c.1) 0 x,[])
 else if x.2.2.2.1≤0 then (r.1,lq 5 5 w 0 x,[])
 else (r.1,(2,x.2.1,Ap 4 w 0,x.2.2.2.1 - 1,x.2.2.2.2),[])
def mf (t:Tyt) (m:List Int) (w:Int) (x:WB):WR:=
 (ao m 1 (fG (ah m 1) BV),(if ah m 1=1 then 14 else 9,iU t x.2.1 (OK x.2.2.1.2.2.2.1),if ah m 1=1 then Ap 6 w 0 else dw,x.2.2.2),[(2,OK x.2.2.1.2.2.2.1,w)])
def wC (c:CF) (m:List Int) (x:WB):WR:=let r:=dF c m x.2.2.1;(r.1,(6,x.2.1,r.2,x.2.2.2),[])
def oC (m:List Int) (x:WB):WR:=(ao m 1 (fG (ah m 1) BV),(7,x.2.1,x.2.2.1,x.2.2.2.1,0),[])
def Fu (f:FR) (v:Int):FR:=(f.1,f.2.1,f.2.2.1,v,f.2.2.2.2)
def fg (c:CF) (m:List Int) (x:WB):WR:=
 let k:=x.2.2.2.2
 let most:=2+2*c.1
 let v:=(k - 2)/2
 if k<0∨most≤k then (m,(8,x.2.1,Fu x.2.2.1 0,x.2.2.2.1,0),[])
 else
  let f:=if k=0 then Fu x.2.2.1 (ah m 4) else if k=1 then x.2.2.1 else if k%2=0 then Fu x.2.2.1 (ah m (Iq c v)) else x.2.2.1
  let some:=if k=0 then false else if k=1 then decide (ah m 5≠f.2.2.2.1) else if k%2=0 then false else decide (0<wG (ah m (I7 c v)) f.2.2.2.1)
  if some=true then (m,toW 1 x,[])
  else if k+1=most then (m,(8,x.2.1,Fu f 0,x.2.2.2.1,0),[])
  else (m,(7,x.2.1,f,x.2.2.2.1,k+1),[])
def gZ (c:CF) (m:List Int) (x:WB):WR:=let r:=dF c m x.2.2.1;if ej r.2=true then (r.1,toW 1 x,[]) else (r.1,(x.1,x.2.1,r.2,x.2.2.2),[])
def K1 (t:Tyt) (m:List Int) (w:Int) (x:WB):WR:=
 let a:=ea t x.2.1
 if a.1=1 then (m,(x.1,doB t x.2.1,x.2.2),[]) else if a.1=2 then (m,(10,x.2),[]) else if a.1=3 then (m,(15,x.2),[]) else (m,lq 0 1 w 0 x,[])
def ux (t:Tyt) (m:List Int) (w:Int) (x:WB):WR:=
 let a:=ea t x.2.1
 if a.1≠2 then (m,toW 9 x,[]) else (ao m 0 (fG (ah m 0) 1),(11,doB t x.2.1,Ap 0 w (IntKind.u64.wrap a.2),x.2.2.2),[(3,a.2,w)])
def ua (c:CF) (m:List Int) (w:Int) (x:WB):WR:=
 let r:=dF c m x.2.2.1
 if ej r.2=false then (r.1,(x.1,x.2.1,r.2,x.2.2.2),[]) else if r.2.2.2.2.2.2.2=2 then (r.1,lq 12 3 w r.2.2.2.2.1 x,[]) else (r.1,toW 13 x,[])
def rW (c:CF) (t:Tyt) (m:List Int) (w:Int) (x:WB):WR:=
 let r:=dF c m x.2.2.1
 if ej r.2=false then (r.1,(x.1,x.2.1,r.2,x.2.2.2),[])
 else if r.2.2.2.2.2.2.2=2 then (r.1,(9,iU t x.2.1 (OK r.2.2.2.2.1),dw,x.2.2.2),[(2,OK r.2.2.2.2.1,w)]) else (r.1,toW 13 x,[])
def Ke (m:List Int) (w:Int) (x:WB):WR:=if ah m 1=0 then (m,lq 14 6 w 0 x,[]) else (m,toW 9 x,[])
def uj (c:CF) (m:List Int) (x:WB):WR:=let r:=dF c m x.2.2.1;if ej r.2=true then (r.1,toW 9 x,[]) else (r.1,(x.1,x.2.1,r.2,x.2.2.2),[])
def ui (t:Tyt) (m:List Int) (w:Int) (x:WB):WR:=
 let a:=ea t x.2.1
 if a.1≠3 then (m,toW 9 x,[])
 else (ao m 0 (fG (ah m 0) BV),(if doB t x.2.1=[] then (0,[],Ap 1 w 0,x.2.2.2) else (9,doB t x.2.1,dw,x.2.2.2)),if ah m 0=1 then [(4,a.2,w),(5,0,w)] else [(4,a.2,w)])
def bw (c:CF) (t:Tyt) (m:List Int) (w:Int) (x:WB) (d:Int):WR:=
 if eC c t m w x=false then (m,x,[])
 else if x.1=0 then JS c t m w x else if x.1=1 then Ay c m w x else if x.1=2∨x.1=3 then oa c m w x d else if x.1=4 then mf t m w x
 else if x.1=5 then wC c m x else if x.1=6 then oC m x else if x.1=7 then fg c m x else if x.1=8 then gZ c m x
 else if x.1=9 then K1 t m w x else if x.1=10 then ux t m w x else if x.1=11 then ua c m w x else if x.1=12 then rW c t m w x
 else if x.1=13 then Ke m w x else if x.1=14 then uj c m x else ui t m w x
theorem ael {d w W:Int} (hd:0≤d∧d≤18446744073709551615) (hW:W≤8):f4 d w W=some (Dc d w W):=by
 unfold f4 Dc
 by_cases h2:W<2
 ·rw [ltT h2,cond_true,if_pos (.inl h2)]
 ·rw [ltF (by omega),cond_false]
  unfold cM
  by_cases h0:0≤w
  ·rw [leT h0,cond_true]
   by_cases h1:w<W
   ·rw [ltT h1,ab,Bool.not_true,cond_false,if_neg (by omega),mG (z:=W) (by omega) (by omega),mG (z:=W - 1) (by omega) (by omega),mG (z:=w) (by omega) (by omega),mG (z:=w+1) (by omega) (by omega),E3,decide_eq_false (by omega),Bool.not_false,cond_true,E3,decide_eq_false (by omega),Bool.not_false,cond_true,Int.tmod_eq_emod_of_nonneg hd.1]
    have e1:=Int.emod_nonneg d (show W - 1≠0 by omega)
    have e2:=Int.emod_lt_of_pos d (show 0<W - 1 by omega)
    have e3:=Int.emod_nonneg (w+1+d%(W - 1)) (show W≠0 by omega)
    have e4:=Int.emod_lt_of_pos (w+1+d%(W - 1)) (show 0<W by omega)
    rw [mG (by omega) (by omega),Int.tmod_eq_emod_of_nonneg (by omega),fx (by omega)]
   ·rw [ltF (by omega),ab,Bool.not_false,cond_true,if_pos (by omega)]
  ·rw [leF (by omega),cond_false,ab,Bool.not_false,cond_true,if_pos (by omega)]
theorem Rc {k:Nat} (hk:9223372036854775808≤k) (c:CF) {t:Tyt} (ht:Wt t) (m:List Int) (w:Int) (x:WB) (hs:x.2.1.length≤9000):lX k c t m w x=some (eC c t m w x):=by
 unfold lX eC
 simp only [Prod.eta,ij,DT,ab]
 rw [FM (k+4) (by omega) t ht,Q1 (k+3) (by omega) t ht x.2.1 (by omega)]
 cases hm:dl c with
 | false=>rfl
 | true=>
  rw [cond_true,nM,Bool.true_and]
  by_cases h1:(m.length:Int)=bN c
  ·rw [decide_eq_true h1,cond_true,Bool.true_and,ab]
   cases ht2:ow t with
   | false=>rfl
   | true=>
    rw [cond_true,Bool.true_and]
    by_cases h2:0≤w
    ·rw [leT h2,cond_true]
     by_cases h3:w<c.1
     ·rw [ltT h3,cond_true]
      by_cases h4:0≤x.1
      ·rw [leT h4,cond_true]
       by_cases h5:x.1<16
       ·rw [ltT h5,cond_true,ab,decide_eq_true ⟨h2,h3,h4,h5⟩,Bool.true_and]
       ·rw [ltF (by omega),cond_false,decide_eq_false (by omega)];rfl
      ·rw [leF (by omega),cond_false,decide_eq_false (by omega)];rfl
     ·rw [ltF (by omega),cond_false,decide_eq_false (by omega)];rfl
    ·rw [leF (by omega),cond_false,decide_eq_false (by omega)];rfl
  ·rw [decide_eq_false h1,cond_false]
   rfl
theorem abZ (w:Int):pN w=some (0,[],Ap 1 w 0,0,0):=rfl
end Go.Ab
set_option linter.unusedVariables false
set_option linter.unusedSimpArgs false
set_option maxRecDepth 100000
set_option maxHeartbeats 4000000
namespace Go.Ab
theorem b6 (op w v:Int):aK op w v=some (Ap op w v):=rfl
theorem GM:room 1 24=true:=rfl
theorem ahL:room 2 24=true:=rfl
theorem AF {a b:Int} (h:a=b):(a==b)=true:=by simp [h]
theorem bQ {a b:Int} (h:a≠b):(a==b)=false:=by simp [h]
theorem Ou (c:CF) (m:List Int) (f:FR):(C0 c m f=dF c m f∧((f.1==0)=true∨(f.1==0)=false∧((f.1==1)=true∨(f.1==1)=false∧(f.1==2)=true)))∨(CZ c m f=dF c m f∧(f.1==0)=false∧(f.1==1)=false∧(f.1==2)=false∧((f.1==3)=true∨(f.1==3)=false∧(f.1==4)=true))∨(Jl c m f=dF c m f∧(f.1==0)=false∧(f.1==1)=false∧(f.1==2)=false∧(f.1==3)=false∧(f.1==4)=false):=by
 unfold dF lj
 simp only [nM,decide_eq_true_eq,decide_eq_false_iff_not]
 by_cases h:f.1=0∨f.1=1∨f.1=2
 ·rw [if_pos h];exact .inl ⟨rfl,by omega⟩
 ·rw [if_neg h]
  by_cases g:f.1=3∨f.1=4
  ·rw [if_pos g];exact .inr (.inl ⟨rfl,by omega⟩)
  ·rw [if_neg g];exact .inr (.inr ⟨rfl,by omega⟩)
section
variable {k:Nat} (hk:9223372036854779000≤k) (c:CF) {t:Tyt} (ht:Wt t) {m:List Int} (hm:Wm m) (hl:m.length≤1000) (w:Int) {x:WB} (hf:Wf x.2.2.1) (hs:x.2.1.length≤9000) (hsp:x.2.2.2.1≤9223372036854775807) {d:Int} (hd:0≤d∧d≤18446744073709551615)
include hk ht hm hl hf hs hsp hd
theorem aa4 {β:Type} (K:List Int×FR→Option β):Bp k c m x.2.2.1 K=K (dF c m x.2.2.1):=by
 have _h:=And.intro hsp hd
 have _h2:=And.intro ht hs
 have hdk:=Oq c hm hl hf (k+31)
 have hij:=HE c hm hl hf
 have hev:=Hl (k:=k+40) (by omega) c hm hl hf
 unfold Bp
 rcases Ou c m x.2.2.1 with ⟨h,e | ⟨e,e1 | e1⟩⟩ | ⟨h,e,e1,e2,e3 | e3⟩ | ⟨h,e⟩
 all_goals simp only [*,cond_true,cond_false,ab]
theorem T3:iY k c t m w x d=some (bw c t m w x d):=by
 have _h1:=hsp
 have _h2:=hd
 unfold iY
 try simp only [Prod.eta]
 rw [bH (by omega),ab,bH (by omega),ab,Rc (by omega) c ht m w x hs,ab]
 cases hmay:eC c t m w x with
 | false=>
  unfold bw
  rw [hmay]
  rfl
 | true=>
  rw [Bool.not_true,cond_false]
  have hb:dl c=true∧(m.length:Int)=bN c∧0≤w∧w<c.1∧0≤x.1∧x.1<16:=by
   unfold eC at hmay
   simp only [Bool.and_eq_true,decide_eq_true_eq] at hmay
   exact ⟨hmay.1.1.1.1,hmay.1.1.1.2,hmay.1.2⟩
  obtain ⟨hmc,hlen,hw0,hw1,hp0,hp1⟩:=hb
  have hc:=aC hmc
  have hsz:=ut hmc
  have hadd:∀ i v:Int,0≤i→i<2→dI m i v=some (ao m i (fG (ah m i) v),ah m i):=fun i v h0 h1=>by rw [ae8 hl,if_pos (by omega)]
  have hcg:=fun K=>aa4 (k:=k) (β:=List Int×WB×List EV) hk c ht hm hl hf hs hsp hd K
  have hst:=fun q=>WC (k+36) (by omega) t ht x.2.1 (by omega) q
  have hdo:=aj4 (k+36) (by omega) t ht x.2.1 (by omega)
  have hnx:=Qv (k+37) (by omega) t ht x.2.1 (by omega)
  have hvi:=ael (w:=w) (W:=c.1) hd (by omega)
  rcases (show x.1=0∨x.1=1∨x.1=2∨x.1=3∨x.1=4∨x.1=5∨x.1=6∨x.1=7∨x.1=8∨x.1=9∨x.1=10∨x.1=11∨x.1=12∨x.1=13∨x.1=14∨x.1=15 by omega) with hp | hp | hp | hp | hp | hp | hp | hp | hp | hp | hp | hp | hp | hp | hp | hp
  ·have hW:bw c t m w x d=JS c t m w x:=by unfold bw;rw [hmay];simp [hp]
   rw [hW]
   rw [AF hp,cond_true]
   unfold JS
   rw [hcg]
   simp only [cond_true,cond_false,ab,mZ,Prod.eta,b6]
   generalize dF c m x.2.2.1=r
   cases ho:ej r.2 with
   | false=>simp [ho,hp]
   | true=>
    by_cases h9:r.2.2.2.2.2.2.2=1
    ·simp [ho,h9,hst,ab,GM,dw,OK]
    ·have q9:(r.2.2.2.2.2.2.2 !=1)=true:=by simp [h9]
     simp [ho,h9,q9,toW,dw]
  ·have hW:bw c t m w x d=Ay c m w x:=by unfold bw;rw [hmay];simp [hp]
   rw [hW]
   rw [bQ (show x.1≠0 by omega),cond_false,AF hp,cond_true]
   rw [hadd 1 1 (by decide) (by decide),ab,b6,ab]
   rfl
  ·have hW:bw c t m w x d=oa c m w x d:=by unfold bw;rw [hmay];simp [hp]
   rw [hW]
   rw [bQ (show x.1≠0 by omega),cond_false,bQ (show x.1≠1 by omega),cond_false,AF hp,cond_true]
   rw [hvi,ab]
   unfold oa
   rw [hcg]
   simp only [cond_true,cond_false,ab,mZ,Prod.eta,b6,AF hp]
   generalize dF c m x.2.2.1=r
   cases ho:ej r.2 with
   | false=>simp [ho,hp]
   | true=>
    by_cases h9:r.2.2.2.2.2.2.2=1
    ·simp [ho,h9]
    ·have q9:=bQ h9
     by_cases h8:0≤Dc d w c.1
     ·simp [ho,h9,q9,hp,h8,lq]
     ·by_cases h7:x.2.2.2.1≤0
      ·simp [ho,h9,q9,hp,h8,h7,lq]
      ·rw [fx (z:=x.2.2.2.1 - 1) (by omega)]
       simp [ho,h9,q9,hp,h8,h7,lq]
  ·have hW:bw c t m w x d=oa c m w x d:=by unfold bw;rw [hmay];simp [hp]
   rw [hW]
   rw [bQ (show x.1≠0 by omega),cond_false,bQ (show x.1≠1 by omega),cond_false,bQ (show x.1≠2 by omega),cond_false,AF hp,cond_true]
   rw [hvi,ab]
   unfold oa
   rw [hcg]
   simp only [cond_true,cond_false,ab,mZ,Prod.eta,b6,bQ (show x.1≠2 by omega)]
   generalize dF c m x.2.2.1=r
   cases ho:ej r.2 with
   | false=>simp [ho,hp]
   | true=>
    by_cases h9:r.2.2.2.2.2.2.2=1
    ·simp [ho,h9]
    ·have q9:=bQ h9
     by_cases h7:x.2.2.2.1≤0
     ·simp [ho,h9,q9,hp,h7,lq]
     ·rw [fx (z:=x.2.2.2.1 - 1) (by omega)]
      simp [ho,h9,q9,hp,h7,lq]
  ·have hW:bw c t m w x d=mf t m w x:=by unfold bw;rw [hmay];simp [hp]
   rw [hW]
   rw [bQ (show x.1≠0 by omega),cond_false,bQ (show x.1≠1 by omega),cond_false,bQ (show x.1≠2 by omega),cond_false,bQ (show x.1≠3 by omega),cond_false,AF hp,cond_true]
   rw [hadd 1 _ (by decide) (by decide),ab,b6,ab,hst,ab,ab,GM,cond_true,cond_true,nM]
   by_cases h9:ah m 1=1
   ·simp [mf,h9,BV,OK]
   ·simp [mf,h9,BV,OK,dw]
  ·have hW:bw c t m w x d=wC c m x:=by unfold bw;rw [hmay];simp [hp]
   rw [hW]
   rw [bQ (show x.1≠0 by omega),cond_false,bQ (show x.1≠1 by omega),cond_false,bQ (show x.1≠2 by omega),cond_false,bQ (show x.1≠3 by omega),cond_false,bQ (show x.1≠4 by omega),cond_false,AF hp,cond_true]
   unfold wC
   rw [hcg]
   simp only [cond_true,cond_false,ab,mZ,Prod.eta,b6]
  ·have hW:bw c t m w x d=oC m x:=by unfold bw;rw [hmay];simp [hp]
   rw [hW]
   rw [bQ (show x.1≠0 by omega),cond_false,bQ (show x.1≠1 by omega),cond_false,bQ (show x.1≠2 by omega),cond_false,bQ (show x.1≠3 by omega),cond_false,bQ (show x.1≠4 by omega),cond_false,bQ (show x.1≠5 by omega),cond_false,AF hp,cond_true]
   rw [hadd 1 _ (by decide) (by decide),ab]
   rfl
  ·have hW:bw c t m w x d=fg c m x:=by unfold bw;rw [hmay];simp [hp]
   rw [hW]
   rw [bQ (show x.1≠0 by omega),cond_false,bQ (show x.1≠1 by omega),cond_false,bQ (show x.1≠2 by omega),cond_false,bQ (show x.1≠3 by omega),cond_false,bQ (show x.1≠4 by omega),cond_false,bQ (show x.1≠5 by omega),cond_false,bQ (show x.1≠6 by omega),cond_false,AF hp,cond_true]
   have hM:IntKind.i64.wrap (2+IntKind.i64.wrap (2*c.1))=2+2*c.1:=by rw [fx (z:=2*c.1) (by omega),fx (by omega)]
   rw [hM]
   by_cases h1:x.2.2.2.2<0
   ·rw [ltT h1,cond_true]
    simp only [fg,if_pos (show x.2.2.2.2<0∨2+2*c.1≤x.2.2.2.2 from .inl h1),Fu]
   ·rw [ltF (by omega),cond_false]
    by_cases h2:2+2*c.1≤x.2.2.2.2
    ·rw [leT h2,cond_true]
     simp only [fg,if_pos (show x.2.2.2.2<0∨2+2*c.1≤x.2.2.2.2 from .inr h2),Fu]
    ·rw [leF (by omega),cond_false,fx (z:=x.2.2.2.2+1) (by omega)]
     have hn:¬ (x.2.2.2.2<0∨2+2*c.1≤x.2.2.2.2):=by omega
     by_cases e0:x.2.2.2.2=0
     ·rw [AF e0,cond_true,ff,ab]
      by_cases h5:x.2.2.2.2+1=2+2*c.1
      ·rw [AF h5,cond_true]
       simp only [fg,if_neg hn,if_pos e0,Bool.false_eq_true,if_false,if_pos h5,Fu]
      ·rw [bQ h5,cond_false]
       simp only [fg,if_neg hn,if_pos e0,Bool.false_eq_true,if_false,if_neg h5,Fu,hp]
     ·rw [bQ e0,cond_false]
      by_cases e1:x.2.2.2.2=1
      ·rw [AF e1,cond_true,ff,ab,E3]
       by_cases h9:ah m 5=x.2.2.1.2.2.2.1
       ·rw [decide_eq_true h9,Bool.not_true,cond_false]
        skip
        by_cases h5:x.2.2.2.2+1=2+2*c.1
        ·rw [AF h5,cond_true]
         simp only [fg,if_neg hn,if_neg e0,if_pos e1,h9,ne_eq,not_true_eq_false,decide_false,Bool.false_eq_true,if_false,if_pos h5,Fu]
        ·rw [bQ h5,cond_false]
         simp only [fg,if_neg hn,if_neg e0,if_pos e1,h9,ne_eq,not_true_eq_false,decide_false,Bool.false_eq_true,if_false,if_neg h5,Fu,hp]
       ·rw [decide_eq_false h9,Bool.not_false,cond_true]
        simp only [fg,if_neg hn,if_neg e0,if_pos e1,h9,ne_eq,not_false_eq_true,decide_true,if_true,toW,dw]
      ·rw [bQ e1,cond_false,Int.tmod_eq_emod_of_nonneg (by omega),fx (z:=x.2.2.2.2 - 2) (by omega),Int.tdiv_eq_ediv_of_nonneg (by omega),fx (z:=(x.2.2.2.2 - 2)/2) (by omega)]
       by_cases e2:x.2.2.2.2%2=0
       ·rw [AF e2,cond_true,Ts,ab,ff,ab]
        skip
        by_cases h5:x.2.2.2.2+1=2+2*c.1
        ·rw [AF h5,cond_true]
         simp only [fg,if_neg hn,if_neg e0,if_neg e1,if_pos e2,Bool.false_eq_true,if_false,if_pos h5,Fu]
        ·rw [bQ h5,cond_false]
         simp only [fg,if_neg hn,if_neg e0,if_neg e1,if_pos e2,Bool.false_eq_true,if_false,if_neg h5,Fu,hp]
       ·rw [bQ e2,cond_false,RQ,ab,ff,ab,QK,ab]
        by_cases h9:0<wG (ah m (I7 c ((x.2.2.2.2 - 2)/2))) x.2.2.1.2.2.2.1
        ·rw [ltT h9,cond_true]
         simp only [fg,if_neg hn,if_neg e0,if_neg e1,if_neg e2,h9,decide_true,if_true,toW,dw]
        ·rw [ltF (by omega),cond_false]
         skip
         by_cases h5:x.2.2.2.2+1=2+2*c.1
         ·rw [AF h5,cond_true]
          simp only [fg,if_neg hn,if_neg e0,if_neg e1,if_neg e2,h9,decide_false,Bool.false_eq_true,if_false,if_pos h5,Fu]
         ·rw [bQ h5,cond_false]
          simp only [fg,if_neg hn,if_neg e0,if_neg e1,if_neg e2,h9,decide_false,Bool.false_eq_true,if_false,if_neg h5,Fu,hp]
  ·have hW:bw c t m w x d=gZ c m x:=by unfold bw;rw [hmay];simp [hp]
   rw [hW]
   rw [bQ (show x.1≠0 by omega),cond_false,bQ (show x.1≠1 by omega),cond_false,bQ (show x.1≠2 by omega),cond_false,bQ (show x.1≠3 by omega),cond_false,bQ (show x.1≠4 by omega),cond_false,bQ (show x.1≠5 by omega),cond_false,bQ (show x.1≠6 by omega),cond_false,bQ (show x.1≠7 by omega),cond_false,AF hp,cond_true]
   unfold gZ
   rw [hcg]
   simp only [cond_true,cond_false,ab,mZ,Prod.eta,b6]
   generalize dF c m x.2.2.1=r
   cases ho:ej r.2 <;> simp [ho,hp,toW,dw]
  ·have hW:bw c t m w x d=K1 t m w x:=by unfold bw;rw [hmay];simp [hp]
   rw [hW]
   rw [bQ (show x.1≠0 by omega),cond_false,bQ (show x.1≠1 by omega),cond_false,bQ (show x.1≠2 by omega),cond_false,bQ (show x.1≠3 by omega),cond_false,bQ (show x.1≠4 by omega),cond_false,bQ (show x.1≠5 by omega),cond_false,bQ (show x.1≠6 by omega),cond_false,bQ (show x.1≠7 by omega),cond_false,bQ (show x.1≠8 by omega),cond_false,AF hp,cond_true]
   rw [hnx,ab,nM,nM,nM,hdo,ab,b6,ab]
   unfold K1
   by_cases h1:(ea t x.2.1).1=1
   ·simp [h1,hp]
   ·by_cases h2:(ea t x.2.1).1=2
    ·simp [h2]
    ·by_cases h3:(ea t x.2.1).1=3
     ·simp [h3]
     ·simp [h1,h2,h3,lq]
  ·have hW:bw c t m w x d=ux t m w x:=by unfold bw;rw [hmay];simp [hp]
   rw [hW]
   rw [bQ (show x.1≠0 by omega),cond_false,bQ (show x.1≠1 by omega),cond_false,bQ (show x.1≠2 by omega),cond_false,bQ (show x.1≠3 by omega),cond_false,bQ (show x.1≠4 by omega),cond_false,bQ (show x.1≠5 by omega),cond_false,bQ (show x.1≠6 by omega),cond_false,bQ (show x.1≠7 by omega),cond_false,bQ (show x.1≠8 by omega),cond_false,bQ (show x.1≠9 by omega),cond_false,AF hp,cond_true]
   rw [hnx,ab,E3,hadd 0 _ (by decide) (by decide),ab,GM,cond_true,hdo,ab,b6,ab]
   unfold ux
   by_cases h2:(ea t x.2.1).1=2
   ·simp [h2]
   ·simp [h2,toW,dw]
  ·have hW:bw c t m w x d=ua c m w x:=by unfold bw;rw [hmay];simp [hp]
   rw [hW]
   rw [bQ (show x.1≠0 by omega),cond_false,bQ (show x.1≠1 by omega),cond_false,bQ (show x.1≠2 by omega),cond_false,bQ (show x.1≠3 by omega),cond_false,bQ (show x.1≠4 by omega),cond_false,bQ (show x.1≠5 by omega),cond_false,bQ (show x.1≠6 by omega),cond_false,bQ (show x.1≠7 by omega),cond_false,bQ (show x.1≠8 by omega),cond_false,bQ (show x.1≠9 by omega),cond_false,bQ (show x.1≠10 by omega),cond_false,AF hp,cond_true]
   unfold ua
   rw [hcg]
   simp only [cond_true,cond_false,ab,mZ,Prod.eta,b6]
   generalize dF c m x.2.2.1=r
   cases ho:ej r.2 with
   | false=>simp [ho,hp]
   | true=>
    by_cases h9:r.2.2.2.2.2.2.2=2
    ·simp [ho,h9,lq]
    ·have q9:=bQ h9
     simp [ho,h9,q9,toW,dw]
  ·have hW:bw c t m w x d=rW c t m w x:=by unfold bw;rw [hmay];simp [hp]
   rw [hW]
   rw [bQ (show x.1≠0 by omega),cond_false,bQ (show x.1≠1 by omega),cond_false,bQ (show x.1≠2 by omega),cond_false,bQ (show x.1≠3 by omega),cond_false,bQ (show x.1≠4 by omega),cond_false,bQ (show x.1≠5 by omega),cond_false,bQ (show x.1≠6 by omega),cond_false,bQ (show x.1≠7 by omega),cond_false,bQ (show x.1≠8 by omega),cond_false,bQ (show x.1≠9 by omega),cond_false,bQ (show x.1≠10 by omega),cond_false,bQ (show x.1≠11 by omega),cond_false,AF hp,cond_true]
   unfold rW
   rw [hcg]
   simp only [cond_true,cond_false,ab,mZ,Prod.eta,b6]
   generalize dF c m x.2.2.1=r
   cases ho:ej r.2 with
   | false=>simp [ho,hp]
   | true=>
    by_cases h9:r.2.2.2.2.2.2.2=2
    ·simp [ho,h9,hst,ab,GM,dw,OK]
    ·have q9:=bQ h9
     simp [ho,h9,q9,toW,dw]
  ·have hW:bw c t m w x d=Ke m w x:=by unfold bw;rw [hmay];simp [hp]
   rw [hW]
   rw [bQ (show x.1≠0 by omega),cond_false,bQ (show x.1≠1 by omega),cond_false,bQ (show x.1≠2 by omega),cond_false,bQ (show x.1≠3 by omega),cond_false,bQ (show x.1≠4 by omega),cond_false,bQ (show x.1≠5 by omega),cond_false,bQ (show x.1≠6 by omega),cond_false,bQ (show x.1≠7 by omega),cond_false,bQ (show x.1≠8 by omega),cond_false,bQ (show x.1≠9 by omega),cond_false,bQ (show x.1≠10 by omega),cond_false,bQ (show x.1≠11 by omega),cond_false,bQ (show x.1≠12 by omega),cond_false,AF hp,cond_true]
   rw [ff,ab,nM,b6,ab]
   by_cases h9:ah m 1=0
   ·simp [Ke,h9,lq]
   ·simp [Ke,h9,toW,dw]
  ·have hW:bw c t m w x d=uj c m x:=by unfold bw;rw [hmay];simp [hp]
   rw [hW]
   rw [bQ (show x.1≠0 by omega),cond_false,bQ (show x.1≠1 by omega),cond_false,bQ (show x.1≠2 by omega),cond_false,bQ (show x.1≠3 by omega),cond_false,bQ (show x.1≠4 by omega),cond_false,bQ (show x.1≠5 by omega),cond_false,bQ (show x.1≠6 by omega),cond_false,bQ (show x.1≠7 by omega),cond_false,bQ (show x.1≠8 by omega),cond_false,bQ (show x.1≠9 by omega),cond_false,bQ (show x.1≠10 by omega),cond_false,bQ (show x.1≠11 by omega),cond_false,bQ (show x.1≠12 by omega),cond_false,bQ (show x.1≠13 by omega),cond_false,AF hp,cond_true]
   unfold uj
   rw [hcg]
   simp only [cond_true,cond_false,ab,mZ,Prod.eta,b6]
   generalize dF c m x.2.2.1=r
   cases ho:ej r.2 <;> simp [ho,hp,toW,dw]
  ·have hW:bw c t m w x d=ui t m w x:=by unfold bw;rw [hmay];simp [hp]
   rw [hW]
   rw [bQ (show x.1≠0 by omega),cond_false,bQ (show x.1≠1 by omega),cond_false,bQ (show x.1≠2 by omega),cond_false,bQ (show x.1≠3 by omega),cond_false,bQ (show x.1≠4 by omega),cond_false,bQ (show x.1≠5 by omega),cond_false,bQ (show x.1≠6 by omega),cond_false,bQ (show x.1≠7 by omega),cond_false,bQ (show x.1≠8 by omega),cond_false,bQ (show x.1≠9 by omega),cond_false,bQ (show x.1≠10 by omega),cond_false,bQ (show x.1≠11 by omega),cond_false,bQ (show x.1≠12 by omega),cond_false,bQ (show x.1≠13 by omega),cond_false,bQ (show x.1≠14 by omega),cond_false,AF hp,cond_true]
   simp only [hnx,ab,E3,hadd 0 _ (by decide) (by decide),GM,ahL,cond_true,hdo,b6,nM]
   unfold ui
   by_cases h3:(ea t x.2.1).1=3
   ·by_cases h1:ah m 0=1
    ·by_cases h2:doB t x.2.1=[]
     ·simp [h3,h1,h2,BV]
     ·have h4:¬ (((doB t x.2.1).length:Int)=0):=by simp [h2]
      simp [h3,h1,h2,h4,BV,dw]
    ·by_cases h2:doB t x.2.1=[]
     ·simp [h3,h1,h2,BV]
     ·have h4:¬ (((doB t x.2.1).length:Int)=0):=by simp [h2]
      simp [h3,h1,h2,h4,BV,dw]
   ·simp [h3,toW,dw]
end
end Go.Ab
set_option linter.unusedVariables false
namespace Go.Ab
theorem kE {c:CF} {t:Tyt} {m:List Int} {w:Int} {x:WB} {d:Int} {P:WR→Prop} (hs:eC c t m w x=false→P (m,x,[])) (p0:eC c t m w x=true→x.1=0→P (JS c t m w x)) (p1:eC c t m w x=true→x.1=1→P (Ay c m w x)) (p2:eC c t m w x=true→x.1=2∨x.1=3→P (oa c m w x d)) (p4:eC c t m w x=true→x.1=4→P (mf t m w x)) (p5:eC c t m w x=true→x.1=5→P (wC c m x)) (p6:eC c t m w x=true→x.1=6→P (oC m x)) (p7:eC c t m w x=true→x.1=7→P (fg c m x)) (p8:eC c t m w x=true→x.1=8→P (gZ c m x)) (p9:eC c t m w x=true→x.1=9→P (K1 t m w x)) (p10:eC c t m w x=true→x.1=10→P (ux t m w x)) (p11:eC c t m w x=true→x.1=11→P (ua c m w x)) (p12:eC c t m w x=true→x.1=12→P (rW c t m w x)) (p13:eC c t m w x=true→x.1=13→P (Ke m w x)) (p14:eC c t m w x=true→x.1=14→P (uj c m x)) (p15:eC c t m w x=true→x.1=15→P (ui t m w x)):P (bw c t m w x d):=by
 unfold bw
 by_cases hm:eC c t m w x=false
 ·rw [if_pos hm];exact hs hm
 rw [if_neg hm]
 have hm':eC c t m w x=true:=by simpa using hm
 have hb:0≤x.1∧x.1<16:=by
  unfold eC at hm'
  simp only [Bool.and_eq_true,decide_eq_true_eq] at hm'
  exact hm'.1.2.2.2
 by_cases e0:x.1=0
 ·rw [if_pos e0];exact p0 hm' e0
 rw [if_neg e0]
 by_cases e1:x.1=1
 ·rw [if_pos e1];exact p1 hm' e1
 rw [if_neg e1]
 by_cases e2:x.1=2∨x.1=3
 ·rw [if_pos e2];exact p2 hm' e2
 rw [if_neg e2]
 by_cases e4:x.1=4
 ·rw [if_pos e4];exact p4 hm' e4
 rw [if_neg e4]
 by_cases e5:x.1=5
 ·rw [if_pos e5];exact p5 hm' e5
 rw [if_neg e5]
 by_cases e6:x.1=6
 ·rw [if_pos e6];exact p6 hm' e6
 rw [if_neg e6]
 by_cases e7:x.1=7
 ·rw [if_pos e7];exact p7 hm' e7
 rw [if_neg e7]
 by_cases e8:x.1=8
 ·rw [if_pos e8];exact p8 hm' e8
 rw [if_neg e8]
 by_cases e9:x.1=9
 ·rw [if_pos e9];exact p9 hm' e9
 rw [if_neg e9]
 by_cases e10:x.1=10
 ·rw [if_pos e10];exact p10 hm' e10
 rw [if_neg e10]
 by_cases e11:x.1=11
 ·rw [if_pos e11];exact p11 hm' e11
 rw [if_neg e11]
 by_cases e12:x.1=12
 ·rw [if_pos e12];exact p12 hm' e12
 rw [if_neg e12]
 by_cases e13:x.1=13
 ·rw [if_pos e13];exact p13 hm' e13
 rw [if_neg e13]
 by_cases e14:x.1=14
 ·rw [if_pos e14];exact p14 hm' e14
 rw [if_neg e14]
 exact p15 hm' (by omega)
end Go.Ab
set_option linter.unusedVariables false
namespace Go.Ab
theorem Ug (c:CF) (m:List Int) (f:FR):One m (eO c m f).1:=by
 unfold eO
 repeat' split
 all_goals first | exact One.same m | exact One.store m _ _ | exact One.cas m _ _ _
theorem ZY (c:CF) (m:List Int) (f:FR):One m (k7 c m f).1:=by
 unfold k7
 repeat' split
 all_goals first | exact One.same m | exact One.store m _ _ | exact One.cas m _ _ _
theorem O6 (c:CF) (m:List Int) (f:FR):One m (br c m f).1:=by
 unfold br
 dsimp only
 repeat' split
 all_goals first | exact One.same m | exact One.store m _ _ | exact One.cas m _ _ _
theorem Po (c:CF) (m:List Int) (f:FR):One m (dF c m f).1:=by
 unfold dF C0
 repeat' split
 all_goals first | exact One.same m | exact Ug c m f | exact ZY c m f | exact O6 c m f | exact K8 c m f
section
variable {c:CF} {t:Tyt} {m:List Int} {w:Int} {x:WB} {d:Int}
theorem Ga:One m (bw c t m w x d).1:=by
 refine kE (P:=fun r=>One m r.1) (fun _=>One.same m) ?_ ?_ ?_ ?_ ?_ ?_ ?_ ?_ ?_ ?_ ?_ ?_ ?_ ?_ ?_
 all_goals intro _ _
 all_goals dsimp only [JS,Ay,oa,mf,wC,oC,fg,gZ,K1,ux,ua,rW,Ke,uj,ui]
 all_goals repeat' split
 all_goals (try dsimp only)
 all_goals first | exact One.same m | exact One.store m _ _ | exact Po c m _
theorem UE:(bw c t m w x d).2.2.length≤2:=by
 refine kE (P:=fun r=>r.2.2.length≤2) (fun _=>Nat.zero_le _) ?_ ?_ ?_ ?_ ?_ ?_ ?_ ?_ ?_ ?_ ?_ ?_ ?_ ?_ ?_
 all_goals intro _ _
 all_goals dsimp only [JS,Ay,oa,mf,wC,oC,fg,gZ,K1,ux,ua,rW,Ke,uj,ui]
 all_goals repeat' split
 all_goals simp
theorem O8:(bw c t m w x d).2.1.2.1.length≤x.2.1.length+1:=by
 have h1:=fun q=>MU t x.2.1 q
 have h2:=Z6 t x.2.1
 refine kE (P:=fun r=>r.2.1.2.1.length≤x.2.1.length+1) (fun _=>Nat.le_succ _) ?_ ?_ ?_ ?_ ?_ ?_ ?_ ?_ ?_ ?_ ?_ ?_ ?_ ?_ ?_
 all_goals intro _ _
 all_goals dsimp only [JS,Ay,oa,mf,wC,oC,fg,gZ,K1,ux,ua,rW,Ke,uj,ui,toW,lq]
 all_goals repeat' split
 all_goals first | exact Nat.le_succ _ | exact h1 _ | (dsimp only;omega) | simp
theorem Jf {s:Tye} (h:cG t s=true) (q:Int):cG t (iU t s q)=true:=by
 unfold iU
 split
 ·rename_i g
  have:=nL.1 h
  exact ko.2 ⟨this.1,this.2,agf this.1 g.2.1 g.2.2⟩
 ·exact h
theorem aaa {s:Tye} (h:cG t s=true):cG t (doB t s)=true:=by
 rcases l9 s with rfl | ⟨r,y,rfl⟩
 ·exact h
 ·exact (To h).1
theorem IS (h:eC c t m w x=true):dl c=true∧(m.length:Int)=bN c∧ow t=true∧(0≤w∧w<c.1∧0≤x.1∧x.1<16)∧cG t x.2.1=true:=by
 unfold eC at h
 simp only [Bool.and_eq_true,decide_eq_true_eq] at h
 exact ⟨h.1.1.1.1,h.1.1.1.2,h.1.1.2,h.1.2,h.2⟩
theorem PD (h1:dl c=true) (h2:(m.length:Int)=bN c) (h3:ow t=true) (h4:0≤w∧w<c.1∧0≤x.1∧x.1<16) (h5:cG t x.2.1=true):eC c t m w x=true:=by
 unfold eC
 rw [h1,h3,h5,decide_eq_true h2,decide_eq_true h4]
 rfl
theorem Sl (h:eC c t m w x=true):eC c t (bw c t m w x d).1 w (bw c t m w x d).2.1=true:=by
 obtain ⟨h1,h2,h3,h4,h5⟩:=IS h
 have hl:=(Ga (c:=c) (t:=t) (m:=m) (w:=w) (x:=x) (d:=d)).len
 have key:0≤(bw c t m w x d).2.1.1∧(bw c t m w x d).2.1.1<16∧cG t (bw c t m w x d).2.1.2.1=true:=by
  have g1:=Jf h5
  have g2:=aaa h5
  have g3:cG t []=true:=nL.2 ⟨h3,fun y hy=>absurd hy (by simp)⟩
  refine kE (P:=fun r=>0≤r.2.1.1∧r.2.1.1<16∧cG t r.2.1.2.1=true) (fun _=>⟨h4.2.2.1,h4.2.2.2,h5⟩) ?_ ?_ ?_ ?_ ?_ ?_ ?_ ?_ ?_ ?_ ?_ ?_ ?_ ?_ ?_
  all_goals intro _ _
  all_goals dsimp only [JS,Ay,oa,mf,wC,oC,fg,gZ,K1,ux,ua,rW,Ke,uj,ui,toW,lq]
  all_goals repeat' split
  all_goals refine ⟨?_,?_,?_⟩
  all_goals (try dsimp only)
  all_goals first | omega | exact h5 | exact g1 _ | exact g2 | exact g3
 exact PD h1 (by rw [hl];exact h2) h3 ⟨h4.1,h4.2.1,key.1,key.2.1⟩ key.2.2
theorem VF {w W:Int}:0≤Dc d w W↔¬ (W<2∨w<0∨W≤w):=by
 unfold Dc
 split
 ·rename_i h
  exact ⟨fun g=>absurd g (by decide),fun g=>absurd h g⟩
 ·rename_i h
  exact ⟨fun _=>h,fun _=>Int.emod_nonneg _ (by omega)⟩
end
end Go.Ab
set_option linter.unusedVariables false
namespace Go.Ab
section
variable {c:CF} {m:List Int} {f:FR} {j:Int} (hj:j=0∨j=1∨j=3)
include hj
theorem mH {w x:Int} (hx:0≤x):onW c w x≠j:=by
 unfold onW
 split
 ·rename_i h
  have hm:=aC h.1
  have:=dV h.1 h.2.1 (by omega)
  omega
 ·omega
theorem rZ {w x:Int} (h0:0≤x) (h1:x≤18446744073709551615):rS c w x≠j:=by
 unfold rS onW
 split
 ·rename_i h
  have hm:=aC h.1
  have:=dV h.1 h.2.1 (by omega)
  have:=FN h0 h1 (show 1≤c.2.1 by omega) (by omega)
  omega
 ·omega
theorem BO (x:Int):nH c x≠j:=by
 unfold nH
 split
 ·rename_i h
  have:=aC h
  have:=Int.emod_nonneg x (show c.2.2.1≠0 by omega)
  omega
 ·omega
theorem Cz (x:Int):CY c x≠j:=by
 unfold CY
 split
 ·rename_i h
  have:=aC h
  have:=Int.emod_nonneg x (show c.2.2.1≠0 by omega)
  omega
 ·omega
theorem rN (w:Int):f6 c w≠j:=by
 unfold f6
 split
 ·rename_i h
  have hm:=aC h.1
  have:=dV h.1 h.2.1 (by omega)
  omega
 ·omega
omit hj in
theorem ks {i v:Int} (h:i≠j):ah (ao m i v) j=ah m j:=aE v h
omit hj in
theorem kc {i o v:Int} (h:i≠j):ah (ub m i o v).1 j=ah m j:=by
 unfold ub
 split
 ·exact ks h
 ·rfl
section
variable (hf:Wf f)
include hf
theorem RZ:ah (eO c m f).1 j=ah m j:=by
 have w4:=hf.2.1
 have _h:=hj
 unfold eO
 try dsimp only
 repeat' split
 all_goals first | rfl | exact ks (BO hj _) | exact ks (Cz hj _) | exact ks (rN hj _) | exact ks (mH hj (by decide)) | exact kc (mH hj (by decide)) | exact ks (rZ hj w4.1 w4.2) | exact kc (show (2:Int)≠j by omega) | exact kc (show (4:Int)≠j by omega) | exact kc (show (5:Int)≠j by omega) | exact ks (show (2:Int)≠j by omega)
theorem VV:ah (k7 c m f).1 j=ah m j:=by
 have w4:=hf.2.1
 have _h:=hj
 unfold k7
 try dsimp only
 repeat' split
 all_goals first | rfl | exact ks (BO hj _) | exact ks (Cz hj _) | exact ks (rN hj _) | exact ks (mH hj (by decide)) | exact kc (mH hj (by decide)) | exact ks (rZ hj w4.1 w4.2) | exact kc (show (2:Int)≠j by omega) | exact kc (show (4:Int)≠j by omega) | exact kc (show (5:Int)≠j by omega) | exact ks (show (2:Int)≠j by omega)
theorem Nh:ah (br c m f).1 j=ah m j:=by
 have w4:=hf.2.1
 have _h:=hj
 unfold br
 try dsimp only
 repeat' split
 all_goals first | rfl | exact ks (BO hj _) | exact ks (Cz hj _) | exact ks (rN hj _) | exact ks (mH hj (by decide)) | exact kc (mH hj (by decide)) | exact ks (rZ hj w4.1 w4.2) | exact kc (show (2:Int)≠j by omega) | exact kc (show (4:Int)≠j by omega) | exact kc (show (5:Int)≠j by omega) | exact ks (show (2:Int)≠j by omega)
theorem KC:ah (lb c m f).1 j=ah m j:=by
 have w4:=hf.2.1
 have _h:=hj
 unfold lb
 try dsimp only
 repeat' split
 all_goals first | rfl | exact ks (BO hj _) | exact ks (Cz hj _) | exact ks (rN hj _) | exact ks (mH hj (by decide)) | exact kc (mH hj (by decide)) | exact ks (rZ hj w4.1 w4.2) | exact kc (show (2:Int)≠j by omega) | exact kc (show (4:Int)≠j by omega) | exact kc (show (5:Int)≠j by omega) | exact ks (show (2:Int)≠j by omega)
theorem L4:ah (lZ c m f).1 j=ah m j:=by
 have w4:=hf.2.1
 have _h:=hj
 unfold lZ
 try dsimp only
 repeat' split
 all_goals first | rfl | exact ks (BO hj _) | exact ks (Cz hj _) | exact ks (rN hj _) | exact ks (mH hj (by decide)) | exact kc (mH hj (by decide)) | exact ks (rZ hj w4.1 w4.2) | exact kc (show (2:Int)≠j by omega) | exact kc (show (4:Int)≠j by omega) | exact kc (show (5:Int)≠j by omega) | exact ks (show (2:Int)≠j by omega)
theorem HZ:ah (Co c m f).1 j=ah m j:=by
 have w4:=hf.2.1
 have _h:=hj
 unfold Co
 try dsimp only
 repeat' split
 all_goals first | rfl | exact ks (BO hj _) | exact ks (Cz hj _) | exact ks (rN hj _) | exact ks (mH hj (by decide)) | exact kc (mH hj (by decide)) | exact ks (rZ hj w4.1 w4.2) | exact kc (show (2:Int)≠j by omega) | exact kc (show (4:Int)≠j by omega) | exact kc (show (5:Int)≠j by omega) | exact ks (show (2:Int)≠j by omega)
theorem GO:ah (Aq c m f).1 j=ah m j:=by
 have w4:=hf.2.1
 have _h:=hj
 unfold Aq Oo
 try dsimp only
 repeat' split
 all_goals first | rfl | exact ks (BO hj _) | exact ks (Cz hj _) | exact ks (rN hj _) | exact ks (mH hj (by decide)) | exact kc (mH hj (by decide)) | exact ks (rZ hj w4.1 w4.2) | exact kc (show (2:Int)≠j by omega) | exact kc (show (4:Int)≠j by omega) | exact kc (show (5:Int)≠j by omega) | exact ks (show (2:Int)≠j by omega)
theorem ML:ah (dF c m f).1 j=ah m j:=by
 unfold dF C0 lj CZ Jl
 repeat' split
 all_goals first | with_reducible rfl | with_reducible exact RZ hj hf | with_reducible exact VV hj hf | with_reducible exact Nh hj hf | with_reducible exact KC hj hf | with_reducible exact L4 hj hf | with_reducible exact HZ hj hf | with_reducible exact GO hj hf
end
end
def IH:List EV→Int×Bool→Int×Bool
 | [],s=>s
 | e::l,s=>IH l (if e.1=3 then IntKind.u64.wrap (s.1+1) else if e.1=4 then IntKind.u64.wrap (s.1 - 1) else s.1,s.2||decide (e.1=5))
theorem V6 (s:Int):fG s BV=IntKind.u64.wrap (s - 1):=by
 rw [ky]
 unfold fG BV
 omega
theorem aoM (s:Int):fG s 1=IntKind.u64.wrap (s+1):=by
 rw [ky]
 rfl
section
variable {c:CF} {t:Tyt} {m:List Int} {w:Int} {x:WB} {d:Int}
theorem PH (hm:Wm m) (hl:2≤m.length) (hf:Wf x.2.2.1):ah (bw c t m w x d).1 0=(IH (bw c t m w x d).2.2 (ah m 0,false)).1∧((IH (bw c t m w x d).2.2 (ah m 0,false)).2=true↔ah m 0=1∧(IH (bw c t m w x d).2.2 (ah m 0,false)).1=0):=by
 have hk:=ML (c:=c) (m:=m) (f:=x.2.2.1) (j:=0) (by decide) hf
 have hs:∀ v,ah (ao m 0 v) 0=v:=fun v=>eh v (by decide) (by omega)
 have h1:∀ v,ah (ao m 1 v) 0=ah m 0:=fun v=>ks (by decide)
 have z:∀ {l:List EV},(l=[]∨∃ a b,l=[(2,a,b)])→ah m 0=(IH l (ah m 0,false)).1∧((IH l (ah m 0,false)).2=true↔ah m 0=1∧(IH l (ah m 0,false)).1=0):=fun h=>by
  rcases h with rfl | ⟨a,b,rfl⟩
  ·refine ⟨rfl,?_⟩
   dsimp only [IH]
   exact ⟨fun g=>(by cases g),fun g=>absurd g.2 (by omega)⟩
  ·refine ⟨rfl,?_⟩
   dsimp only [IH]
   exact ⟨fun g=>(by cases g),fun g=>absurd g.2 (by rw [if_neg (by decide),if_neg (by decide)];omega)⟩
 have hr:=cB hm 0
 refine kE (P:=fun r=>ah r.1 0=(IH r.2.2 (ah m 0,false)).1∧((IH r.2.2 (ah m 0,false)).2=true↔ah m 0=1∧(IH r.2.2 (ah m 0,false)).1=0)) (fun _=>z (.inl rfl)) ?_ ?_ ?_ ?_ ?_ ?_ ?_ ?_ ?_ ?_ ?_ ?_ ?_ ?_ ?_
 all_goals intro _ hp
 ·unfold JS
  dsimp only
  repeat' split
  all_goals (dsimp only;rw [hk];exact z (by first | exact .inl rfl | exact .inr ⟨_,_,rfl⟩))
 ·unfold Ay
  dsimp only
  rw [h1]
  exact z (.inl rfl)
 ·unfold oa
  dsimp only
  repeat' split
  all_goals (dsimp only;rw [hk];exact z (.inl rfl))
 ·unfold mf
  dsimp only
  rw [h1]
  exact z (.inr ⟨_,_,rfl⟩)
 ·unfold wC
  dsimp only
  rw [hk]
  exact z (.inl rfl)
 ·unfold oC
  dsimp only
  rw [h1]
  exact z (.inl rfl)
 ·unfold fg
  dsimp only
  repeat' split
  all_goals (dsimp only;exact z (.inl rfl))
 ·unfold gZ
  dsimp only
  split
  all_goals (dsimp only;rw [hk];exact z (.inl rfl))
 ·unfold K1
  dsimp only
  repeat' split
  all_goals (dsimp only;exact z (.inl rfl))
 ·unfold ux
  dsimp only
  split
  ·exact z (.inl rfl)
  ·dsimp only
   rw [hs,aoM]
   dsimp only [IH]
   rw [if_pos rfl]
   refine ⟨rfl,fun g=>(by cases g),fun g => ?_⟩
   have:=g.2
   rw [g.1] at this
   exact absurd this (by decide)
 ·unfold ua
  dsimp only
  repeat' split
  all_goals (dsimp only;rw [hk];exact z (.inl rfl))
 ·unfold rW
  dsimp only
  repeat' split
  all_goals (dsimp only;rw [hk];exact z (by first | exact .inl rfl | exact .inr ⟨_,_,rfl⟩))
 ·unfold Ke
  split
  all_goals exact z (.inl rfl)
 ·unfold uj
  dsimp only
  split
  all_goals (dsimp only;rw [hk];exact z (.inl rfl))
 ·unfold ui
  dsimp only
  split
  ·exact z (.inl rfl)
  ·dsimp only
   rw [hs,V6]
   by_cases h:ah m 0=1
   ·rw [if_pos h,h]
    refine ⟨rfl,fun _=>⟨rfl,rfl⟩,fun _=>rfl⟩
   ·rw [if_neg h]
    refine ⟨rfl,fun g=>(by cases g),fun g=>absurd g.1 h⟩
end
end Go.Ab
set_option linter.unusedVariables false
namespace Go.Ab
theorem Mf {c:CF} {m:List Int} {f:FR} (hm:Wm m) (hf:Wf f):Wm (Aq c m f).1∧Wf (Aq c m f).2∧(Aq c m f).1.length=m.length:=by
 have hr:=cB hm 2
 obtain ⟨w3,w4,w5⟩:=hf
 have hk4:=MB w4.1
 have hk5:=MB w5.1
 have hc5:=Rx hk5.1 hk5.2
 unfold Aq
 split
 ·exact ⟨hm,⟨w3,w4,w5⟩,rfl⟩
 ·split
  ·exact ⟨hm,⟨w3,hr,w5⟩,rfl⟩
  ·split
   ·split
    ·refine ⟨hm.set 2 ?_ ?_,?_,(by simp only [];exact kU)⟩
     ·split
      ·exact (AW _ _).1
      ·exact (AW _ _).1
     ·split
      ·exact (AW _ _).2
      ·exact (AW _ _).2
     ·have hl:=PI (mkB f.2.2.2.2.1)
      simp only []
      by_cases hz:mkB f.2.2.2.2.1=0
      ·rw [if_pos hz]
       exact ⟨by simp [fw],by simp [fw],by simp [fw]⟩
      ·rw [if_neg hz]
       refine ⟨w3,w4,?_⟩
       simp only
       split
       ·split <;> omega
       ·omega
    ·exact ⟨hm,⟨w3,w4,w5⟩,rfl⟩
   ·split
    ·exact ⟨hm.set _ (by decide) (by decide),⟨w5,by simp [fw],by simp [fw]⟩,(by simp only [];exact kU)⟩
    ·refine ⟨hm.set _ (by decide) (by decide),?_,(by simp only [];exact kU)⟩
     split
     ·exact ⟨by simp [fw];omega,by simp [fw],by simp [fw]⟩
     ·exact ⟨w3,w4,by simp only;omega⟩
theorem Zn {c:CF} {m:List Int} {f:FR} (hm:Wm m) (hf:Wf f):Wm (Co c m f).1∧Wf (Co c m f).2:=by
 have hr:=cB hm 2
 obtain ⟨w3,w4,w5⟩:=hf
 have hs:=YW (w:=f.2.2.1) w5.1 w5.2
 unfold Co
 dsimp only
 split
 ·exact ⟨hm,w3,w4,w5⟩
 ·split
  ·exact ⟨hm,w3,hr,w5⟩
  ·split
   ·split
    ·exact ⟨hm,w3,w4,hr⟩
    ·exact ⟨hm,by simp [fw,Wf]⟩
   ·split
    ·exact ⟨hm.cas _ _ hs.1 hs.2,w3,w4,w5⟩
    ·split
     ·exact ⟨hm,w3,w4,cB hm _⟩
     ·exact ⟨hm.set _ (by decide) (by decide),by simp [fw,Wf]⟩
theorem agm {c:CF} {m:List Int} {f:FR} (hm:Wm m) (hf:Wf f):Wm (lb c m f).1∧Wf (lb c m f).2:=by
 obtain ⟨w3,w4,w5⟩:=hf
 have ha:=iA f.2.2.2.2.1 1
 have hb:=iA (Db c f.2.2.2.2.1) 1
 unfold lb
 dsimp only
 split
 ·exact ⟨hm,w3,w4,w5⟩
 ·split
  ·exact ⟨hm,w3,cB hm 5,w5⟩
  ·split
   ·split
    ·exact ⟨hm,w3,w4,cB hm _⟩
    ·split
     ·exact ⟨hm,w3,by simp [fw],by simp [fw]⟩
     ·exact ⟨hm,w3,w4,cB hm _⟩
   ·split
    ·exact ⟨hm.cas _ _ ha.1 ha.2,w3,w4,w5⟩
    ·split
     ·exact ⟨hm.set _ w3.1 w3.2,w3,w4,w5⟩
     ·exact ⟨hm.set _ hb.1 hb.2,w3,by simp [fw],by simp [fw]⟩
theorem adS {c:CF} {m:List Int} {f:FR} (hm:Wm m) (hf:Wf f):Wm (lZ c m f).1∧Wf (lZ c m f).2:=by
 obtain ⟨w3,w4,w5⟩:=hf
 have ha:=iA f.2.2.2.2.1 1
 have hb:=iA (C9 c f.2.2.2.2.1) 1
 unfold lZ
 dsimp only
 split
 ·exact ⟨hm,w3,w4,w5⟩
 ·split
  ·exact ⟨hm,w3,cB hm 4,w5⟩
  ·split
   ·split
    ·exact ⟨hm,w3,w4,cB hm _⟩
    ·split
     ·exact ⟨hm,by simp [fw],by simp [fw],by simp [fw]⟩
     ·exact ⟨hm,w3,w4,cB hm _⟩
   ·split
    ·exact ⟨hm.cas _ _ ha.1 ha.2,w3,w4,w5⟩
    ·split
     ·exact ⟨hm,cB hm _,w4,w5⟩
     ·exact ⟨hm.set _ hb.1 hb.2,w3,by simp [fw],by simp [fw]⟩
theorem OL {c:CF} {m:List Int} {f:FR} (hm:Wm m) (hf:Wf f):Wm (lj c m f).1∧Wf (lj c m f).2:=by
 unfold lj CZ Jl
 repeat' split
 all_goals first | exact agm hm hf | exact adS hm hf | exact Zn hm hf | exact ⟨(Mf hm hf).1,(Mf hm hf).2.1⟩ | exact ⟨hm,hf⟩
theorem W1 {c:CF} {t:Tyt} {m:List Int} {i:Int} {x:SB} (hm:Wm m) (hf:Wf x.2.2) (ht:t.length≤1000):Wm (gO c t m i x).1∧Wf (gO c t m i x).2.1.2.2:=by
 have hc:=OL (c:=c) hm hf
 have hz:Wf dw:=by simp [Wf,dw]
 have h1:=iA (ah m 0) 1
 have h2:=iA (ah m 0) 18446744073709551615
 cases hmay:Az c t m x with
 | false=>
  have e:gO c t m i x=(m,x,[]):=by unfold gO;rw [hmay,if_pos rfl]
  rw [e]
  exact ⟨hm,hf⟩
 | true=>
  obtain ⟨_,_,_,_,_,r,rest,hx,h6,h7⟩:=A5 hmay
  have hh:iS x.2.1=r:=by rw [hx];rfl
  unfold gO
  rw [hmay,if_neg (by simp),hh]
  dsimp only
  have h3:Wf (3,0,i,r,0,0,0):=⟨⟨h6,by simp only;omega⟩,by simp,by simp⟩
  have h4:Wf (6,0,i,0,0,0,0):=by simp [Wf]
  repeat' split
  all_goals first | exact ⟨hm,hf⟩ | exact ⟨hm,hz⟩ | exact ⟨hm,h4⟩ | exact ⟨hm.set 0 h1.1 h1.2,h3⟩ | exact hc | exact ⟨hc.1,hz⟩ | exact ⟨hm.set 0 h2.1 h2.2,hz⟩
end Go.Ab
set_option linter.unusedVariables false
namespace Go.Ab
abbrev PB:=CF×Tyt×List Int×List WB×List SB
abbrev PK:=Int×Int×Int
def Cw (t:Tyt) (x:SB):Bool:=decide (0≤x.1∧x.1<6)&&x.2.1.all (fun r=>decide (0≤r∧r<t.length))&&(decide (x.1=0)||decide (x.2.1≠[]))
def Ht (c:CF) (t:Tyt) (m:List Int):Nat→List WB→Bool
 | _,[]=>true
 | i,x::l=>eC c t m i x&&Ht c t m (i+1) l
def fy (p:PB):Bool:=dl p.1&&decide ((p.2.2.2.1.length:Int)=p.1.1∧p.2.2.2.2.length≤3)&&Ht p.1 p.2.1 p.2.2.1 0 p.2.2.2.1&&p.2.2.2.2.all (Cw p.2.1)
def Dg (k:PK) (w s:Int):Bool:=decide (k.1=0∧0≤k.2.1∧k.2.1<w∨k.1=1∧0≤k.2.1∧k.2.1<s∨k.1=2∨k.1=3)
def gh (p:PB) (k:PK):PB×List EV:=
 if k.1=0 then match p.2.2.2.1[k.2.1.toNat]? with
  | some x=>((p.1,p.2.1,(bw p.1 p.2.1 p.2.2.1 k.2.1 x k.2.2).1,p.2.2.2.1.set k.2.1.toNat (bw p.1 p.2.1 p.2.2.1 k.2.1 x k.2.2).2.1,p.2.2.2.2),(bw p.1 p.2.1 p.2.2.1 k.2.1 x k.2.2).2.2)
  | none=>(p,[])
 else if k.1=1 then match p.2.2.2.2[k.2.1.toNat]? with
  | some x=>if Az p.1 p.2.1 p.2.2.1 x=true then ((p.1,p.2.1,(gO p.1 p.2.1 p.2.2.1 k.2.1 x).1,p.2.2.2.1,p.2.2.2.2.set k.2.1.toNat (gO p.1 p.2.1 p.2.2.1 k.2.1 x).2.1),(gO p.1 p.2.1 p.2.2.1 k.2.1 x).2.2) else (p,[])
  | none=>(p,[])
 else if k.1=2 then ((p.1,p.2.1,ao p.2.2.1 3 1,p.2.2.2.1,p.2.2.2.2),[])
 else (p,[])
def oU (p:PB):List PK→PB×List EV
 | []=>(p,[])
 | k::l=>if Dg k p.1.1 p.2.2.2.2.length=true then ((oU (gh p k).1 l).1,(gh p k).2++(oU (gh p k).1 l).2) else oU p l
def ahQ (p:PB) (l:List PK):PB×List EV:=if fy p=true then oU p l else (p,[])
theorem Yh {c:CF} {m:List Int} {f:FR} (hm:Wm m) (hf:Wf f):Wm (eO c m f).1∧Wf (eO c m f).2:=by
 have hl:=fun i=>cB hm i
 obtain ⟨w3,w4,w5⟩:=hf
 have ha:=iA f.2.2.2.2.1 1
 unfold eO
 repeat' split
 ·exact ⟨hm,w3,w4,w5⟩
 ·exact ⟨hm,w3,hl _,w5⟩
 ·exact ⟨hm,w3,by simp [fw],by simp [fw]⟩
 ·exact ⟨hm,w3,w4,hl _⟩
 ·exact ⟨hm.set _ w3.1 w3.2,w3,w4,w5⟩
 ·exact ⟨hm.set _ ha.1 ha.2,w3,by simp [fw],by simp [fw]⟩
theorem adT {c:CF} {m:List Int} {f:FR} (hm:Wm m) (hf:Wf f):Wm (k7 c m f).1∧Wf (k7 c m f).2:=by
 have hl:=fun i=>cB hm i
 obtain ⟨w3,w4,w5⟩:=hf
 have ha:=iA f.2.2.2.2.1 1
 have hb:=iA f.2.2.2.2.2.1 1
 have hs:=fun a b=>Vs a b
 unfold k7
 dsimp only
 split
 ·exact ⟨hm,w3,w4,w5⟩
 split
 ·exact ⟨hm,w3,hs _ _,w5⟩
 split
 ·exact ⟨hm.set _ w4.1 w4.2,w3,w4,w5⟩
 split
 ·exact ⟨hm,w3,w4,hl _⟩
 split
 ·split
  ·exact ⟨hm,hl _,by simp [fw],by simp [fw]⟩
  ·exact ⟨hm,hl _,w4,w5⟩
 split
 ·exact ⟨hm.cas _ _ hb.1 hb.2,w3,w4,w5⟩
 split
 ·exact ⟨hm.set _ ha.1 ha.2,w3,by simp [fw],by simp [fw]⟩
 ·exact ⟨hm.set _ ha.1 ha.2,by simp [fw],by simp [fw],by simp [fw]⟩
theorem Tv {c:CF} {m:List Int} {f:FR} (hm:Wm m) (hf:Wf f):Wm (br c m f).1∧Wf (br c m f).2:=by
 have hl:=fun i=>cB hm i
 obtain ⟨w3,w4,w5⟩:=hf
 have hb:=iA f.2.2.2.2.2.1 1
 unfold br
 dsimp only
 split
 ·exact ⟨hm,w3,w4,w5⟩
 split
 ·exact ⟨hm,w3,w4,hl _⟩
 split
 ·split
  ·exact ⟨hm,by simp [fw],by simp [fw],by simp [fw]⟩
  ·exact ⟨hm,w3,hl _,w5⟩
 split
 ·exact ⟨hm,hl _,w4,w5⟩
 split
 ·exact ⟨hm.cas _ _ hb.1 hb.2,w3,by simp [fw],by simp [fw]⟩
 ·exact ⟨hm.cas _ _ hb.1 hb.2,by simp [fw],by simp [fw],by simp [fw]⟩
theorem Li {c:CF} {m:List Int} {f:FR} (hm:Wm m) (hf:Wf f):Wm (dF c m f).1∧Wf (dF c m f).2:=by
 unfold dF C0
 split
 ·split
  ·exact Yh hm hf
  ·split
   ·exact adT hm hf
   ·split
    ·exact Tv hm hf
    ·exact ⟨hm,hf⟩
 ·exact OL hm hf
structure WOk (n:Nat) (x:WB):Prop where
 f:Wf x.2.2.1
 s:x.2.1.length≤n
 sp:x.2.2.2.1≤9223372036854775807
structure SOk (x:SB):Prop where
 f:Wf x.2.2
 s:x.2.1.length≤1000
theorem ZA (a:Int):0≤IntKind.u64.wrap a∧IntKind.u64.wrap a≤18446744073709551615:=by
 rw [ky]
 omega
section
variable {c:CF} {t:Tyt} {m:List Int} {w:Int} {x:WB} {d:Int} {n:Nat}
theorem ab0 (hm:Wm m) (hf:Wf x.2.2.1):Wm (bw c t m w x d).1:=by
 have h1:=(Li (c:=c) hm hf).1
 have h2:=fun a b=>iA a b
 refine kE (P:=fun r=>Wm r.1) (fun _=>hm) ?_ ?_ ?_ ?_ ?_ ?_ ?_ ?_ ?_ ?_ ?_ ?_ ?_ ?_ ?_
 all_goals intro _ _
 all_goals dsimp only [JS,Ay,oa,mf,wC,oC,fg,gZ,K1,ux,ua,rW,Ke,uj,ui]
 all_goals repeat' split
 all_goals (try dsimp only)
 all_goals first | exact hm | exact h1 | exact hm.set _ (h2 _ _).1 (h2 _ _).2
theorem Y0 (hm:Wm m) (hf:Wf x.2.2.1):Wf (bw c t m w x d).2.1.2.2.1:=by
 have h1:=(Li (c:=c) hm hf).2
 have h2:=fun i=>cB hm i
 have h3:=fun a=>ZA a
 have z:Wf dw:=by simp [Wf,dw]
 have zr:(0:Int)≤0∧(0:Int)≤18446744073709551615:=by decide
 have b:∀ op w,Wf (Ap op w 0):=fun op w=>by simp [Wf,Ap]
 have b2:∀ op w v,0≤v∧v≤18446744073709551615→Wf (Ap op w v):=fun op w v h=>⟨h,by simp [Ap],by simp [Ap]⟩
 obtain ⟨w3,w4,w5⟩:=hf
 refine kE (P:=fun r=>Wf r.2.1.2.2.1) (fun _=>⟨w3,w4,w5⟩) ?_ ?_ ?_ ?_ ?_ ?_ ?_ ?_ ?_ ?_ ?_ ?_ ?_ ?_ ?_
 all_goals intro _ _
 all_goals dsimp only [JS,Ay,oa,mf,wC,oC,fg,gZ,K1,ux,ua,rW,Ke,uj,ui,toW,lq,Fu]
 all_goals repeat' split
 all_goals (try dsimp only)
 all_goals first | exact h1 | exact z | exact b _ _ | exact b2 _ _ _ (h3 _) | exact b2 _ _ _ h1.1 | exact ⟨w3,w4,w5⟩ | exact ⟨h2 _,w4,w5⟩ | exact ⟨h2 4,w4,w5⟩ | exact ⟨zr,w4,w5⟩
theorem abJ (hc:dl c=true) (hs:x.2.2.2.1≤9223372036854775807):(bw c t m w x d).2.1.2.2.2.1≤9223372036854775807:=by
 have h4:=aC hc
 refine kE (P:=fun r=>r.2.1.2.2.2.1≤9223372036854775807) (fun _=>hs) ?_ ?_ ?_ ?_ ?_ ?_ ?_ ?_ ?_ ?_ ?_ ?_ ?_ ?_ ?_
 all_goals intro _ _
 all_goals dsimp only [JS,Ay,oa,mf,wC,oC,fg,gZ,K1,ux,ua,rW,Ke,uj,ui,toW,lq]
 all_goals repeat' split
 all_goals (try dsimp only)
 all_goals omega
theorem acj (hc:dl c=true) (hm:Wm m) (h:WOk n x):WOk (n+1) (bw c t m w x d).2.1:=
 ⟨Y0 hm h.f,by have:=O8 (c:=c) (t:=t) (m:=m) (w:=w) (x:=x) (d:=d);have:=h.s;omega,abJ hc h.sp⟩
end
section
variable {c:CF} {t:Tyt} {m:List Int} {i:Int} {x:SB}
theorem V1:One m (gO c t m i x).1:=by
 unfold gO
 dsimp only
 repeat' split
 all_goals first | exact One.same m | exact One.store m _ _ | (dsimp only;exact One.store m _ _) | exact K8 c m _
theorem L0:(gO c t m i x).1.length=m.length:=V1.len
theorem wx:(gO c t m i x).2.1.2.1=x.2.1∨(gO c t m i x).2.1.2.1=x.2.1.tail∧(gO c t m i x).2.1.1=0:=by
 unfold gO
 dsimp only
 repeat' split
 all_goals first | exact .inl rfl | exact .inr ⟨rfl,rfl⟩
theorem Tz:(gO c t m i x).2.2.length≤2:=by
 unfold gO
 dsimp only
 repeat' split
 all_goals simp
theorem ac8 (h:0≤x.1∧x.1<6):0≤(gO c t m i x).2.1.1∧(gO c t m i x).2.1.1<6:=by
 unfold gO
 dsimp only
 repeat' split
 all_goals (try dsimp only)
 all_goals omega
theorem abh (h:Cw t x=true) (hm:Az c t m x=true):Cw t (gO c t m i x).2.1=true:=by
 unfold Cw at h ⊢
 simp only [Bool.and_eq_true,decide_eq_true_eq,List.all_eq_true,Bool.or_eq_true] at h ⊢
 obtain ⟨_,_,_,h4,h5,r,rest,hx,h6,h7⟩:=A5 hm
 refine ⟨⟨ac8 h.1.1,fun y hy => ?_⟩,?_⟩
 ·rcases wx (c:=c) (t:=t) (m:=m) (i:=i) (x:=x) with e | e
  ·rw [e] at hy;exact h.1.2 y hy
  ·rw [e.1] at hy;exact h.1.2 y (List.mem_of_mem_tail hy)
 ·rcases wx (c:=c) (t:=t) (m:=m) (i:=i) (x:=x) with e | e
  ·refine .inr ?_
   rw [e,hx]
   simp
  ·exact .inl e.2
theorem ae0 (hm:Wm m) (ht:t.length≤1000) (h:SOk x):SOk (gO c t m i x).2.1:=by
 refine ⟨(W1 hm h.f ht).2,?_⟩
 have:=h.s
 rcases wx (c:=c) (t:=t) (m:=m) (i:=i) (x:=x) with e | e
 ·rw [e];exact h.s
 ·rw [e.1,List.length_tail];omega
end
structure Good (n:Nat) (p:PB):Prop where
 t:FwT p.2.1
 tl:p.2.1.length≤1000
 m:Wm p.2.2.1
 w:∀ x ∈ p.2.2.2.1,WOk n x
 s:∀ x ∈ p.2.2.2.2,SOk x
theorem A9 {c:CF} {t:Tyt} {m:List Int}:∀ {l:List WB} {i:Nat},Ht c t m i l=true↔∀ (j:Nat) x,l[j]? = some x→eC c t m ((i+j:Nat):Int) x=true
 | [],i=>by simp [Ht]
 | y::l,i=>by
  rw [Ht,Bool.and_eq_true,A9 (l:=l)]
  constructor
  ·intro h j x hx
   cases j with
   | zero=>cases hx;exact h.1
   | succ j=>
    have:=h.2 j x hx
    rw [show i+(j+1)=i+1+j by omega]
    exact this
  ·intro h
   refine ⟨h 0 y rfl,fun j x hx => ?_⟩
   have:=h (j+1) x hx
   rw [show i+1+j=i+(j+1) by omega]
   exact this
theorem CE {c:CF} {t:Tyt} {m m':List Int} {w:Int} {x:WB} (h:m'.length=m.length):eC c t m' w x=eC c t m w x:=by
 unfold eC
 rw [h]
theorem ou {p:PB} (h:fy p=true):dl p.1=true∧(p.2.2.2.1.length:Int)=p.1.1∧p.2.2.2.2.length≤3∧(∀ (j:Nat) x,p.2.2.2.1[j]? = some x→eC p.1 p.2.1 p.2.2.1 (j:Int) x=true)∧(∀ x ∈ p.2.2.2.2,Cw p.2.1 x=true):=by
 unfold fy at h
 simp only [Bool.and_eq_true,decide_eq_true_eq,List.all_eq_true] at h
 refine ⟨h.1.1.1,h.1.1.2.1,h.1.1.2.2,fun j x hx => ?_,h.2⟩
 have:=A9.1 h.1.2 j x hx
 rw [Nat.zero_add] at this
 exact this
theorem FV {p:PB} (h1:dl p.1=true) (h2:(p.2.2.2.1.length:Int)=p.1.1) (h3:p.2.2.2.2.length≤3) (h4:∀ (j:Nat) x,p.2.2.2.1[j]? = some x→eC p.1 p.2.1 p.2.2.1 (j:Int) x=true) (h5:∀ x ∈ p.2.2.2.2,Cw p.2.1 x=true):fy p=true:=by
 unfold fy
 simp only [Bool.and_eq_true,decide_eq_true_eq,List.all_eq_true]
 refine ⟨⟨⟨h1,h2,h3⟩,A9.2 fun j x hx => ?_⟩,h5⟩
 rw [Nat.zero_add]
 exact h4 j x hx
theorem IB {α:Type} {l:List α} {i:Nat} {y x:α} (h:x ∈ l.set i y):x ∈ l∨x=y:=by
 rcases List.mem_or_eq_of_mem_set h with h | h
 ·exact .inl h
 ·exact .inr h
theorem pP {p:PB} {k:PK} {P:PB×List EV→Prop} (h0:P (p,[]))
  (hw:∀ x,p.2.2.2.1[k.2.1.toNat]? = some x→k.1=0→P ((p.1,p.2.1,(bw p.1 p.2.1 p.2.2.1 k.2.1 x k.2.2).1,p.2.2.2.1.set k.2.1.toNat (bw p.1 p.2.1 p.2.2.1 k.2.1 x k.2.2).2.1,p.2.2.2.2),(bw p.1 p.2.1 p.2.2.1 k.2.1 x k.2.2).2.2))
  (hs:∀ x,p.2.2.2.2[k.2.1.toNat]? = some x→Az p.1 p.2.1 p.2.2.1 x=true→P ((p.1,p.2.1,(gO p.1 p.2.1 p.2.2.1 k.2.1 x).1,p.2.2.2.1,p.2.2.2.2.set k.2.1.toNat (gO p.1 p.2.1 p.2.2.1 k.2.1 x).2.1),(gO p.1 p.2.1 p.2.2.1 k.2.1 x).2.2))
  (hc:P ((p.1,p.2.1,ao p.2.2.1 3 1,p.2.2.2.1,p.2.2.2.2),[])):P (gh p k):=by
 unfold gh
 split
 ·rename_i e
  split
  ·rename_i x hx;exact hw x hx e
  ·exact h0
 ·split
  ·split
   ·rename_i x hx
    split
    ·rename_i hm;exact hs x hx hm
    ·exact h0
   ·exact h0
  ·split
   ·exact hc
   ·exact h0
theorem SF {p:PB} {k:PK}:(gh p k).1.2.2.1.length=p.2.2.1.length:=by
 refine pP (P:=fun r=>r.1.2.2.1.length=p.2.2.1.length) rfl (fun x _ _=>Ga.len) (fun x _ _=>L0) (show (ao p.2.2.1 3 1).length=p.2.2.1.length from kU)
theorem Bi {p:PB} {k:PK}:(gh p k).1.1=p.1∧(gh p k).1.2.1=p.2.1∧(gh p k).1.2.2.2.1.length=p.2.2.2.1.length∧(gh p k).1.2.2.2.2.length=p.2.2.2.2.length:=by
 refine pP (P:=fun r=>r.1.1=p.1∧r.1.2.1=p.2.1∧r.1.2.2.2.1.length=p.2.2.2.1.length∧r.1.2.2.2.2.length=p.2.2.2.2.length) ⟨rfl,rfl,rfl,rfl⟩ (fun x _ _=>⟨rfl,rfl,List.length_set,rfl⟩) (fun x _ _=>⟨rfl,rfl,rfl,List.length_set⟩) ⟨rfl,rfl,rfl,rfl⟩
theorem L9 {p:PB} {k:PK}:(gh p k).2.length≤2:=
 pP (P:=fun r=>r.2.length≤2) (Nat.zero_le _) (fun x _ _=>UE) (fun x _ _=>Tz) (Nat.zero_le _)
theorem Ci {n:Nat} {p:PB} {k:PK} (h:Good n p) (hc:dl p.1=true):Good (n+1) (gh p k).1:=by
 have up:∀ x ∈ p.2.2.2.1,WOk (n+1) x:=fun x hx=>⟨(h.w x hx).f,Nat.le_succ_of_le (h.w x hx).s,(h.w x hx).sp⟩
 refine pP (P:=fun r=>Good (n+1) r.1) ⟨h.t,h.tl,h.m,up,h.s⟩ (fun x hx _ => ?_) (fun x hx _ => ?_) ⟨h.t,h.tl,show Wm (ao p.2.2.1 3 1) from h.m.set 3 (by decide) (by decide),up,h.s⟩
 ·have hx':=h.w x (List.mem_of_getElem? hx)
  refine ⟨h.t,h.tl,ab0 h.m hx'.f,fun y hy => ?_,h.s⟩
  rcases IB hy with hy | rfl
  ·exact up y hy
  ·exact acj hc h.m hx'
 ·have hx':=h.s x (List.mem_of_getElem? hx)
  refine ⟨h.t,h.tl,(W1 h.m hx'.f h.tl).1,up,fun y hy => ?_⟩
  rcases IB hy with hy | rfl
  ·exact h.s y hy
  ·exact ae0 h.m h.tl hx'
theorem AQ {p:PB} {k:PK} (h:fy p=true) (hk:Dg k p.1.1 p.2.2.2.2.length=true):fy (gh p k).1=true:=by
 obtain ⟨h1,h2,h3,h4,h5⟩:=ou h
 refine pP (P:=fun r=>fy r.1=true) h (fun x hx hk0 => ?_) (fun x hx hm => ?_) ?_
 ·have h0:0≤k.2.1:=by
   unfold Dg at hk
   rw [decide_eq_true_eq] at hk
   omega
  have hkk:((k.2.1.toNat:Nat):Int)=k.2.1:=by omega
  refine FV h1 (by dsimp only;rw [List.length_set];exact h2) h3 (fun j y hy => ?_) h5
  dsimp only at hy ⊢
  rw [List.getElem?_set] at hy
  split at hy
  ·rename_i e
   split at hy
   ·cases hy
    subst e
    rw [hkk]
    have:=h4 _ x hx
    rw [hkk] at this
    exact Sl this
   ·cases hy
  ·rw [CE Ga.len]
   exact h4 j y hy
 ·refine FV h1 h2 (by dsimp only;rw [List.length_set];exact h3) (fun j y hy => ?_) fun y hy => ?_
  ·dsimp only
   rw [CE L0]
   exact h4 j y hy
  ·rcases IB hy with hy | rfl
   ·exact h5 y hy
   ·exact abh (h5 x (List.mem_of_getElem? hx)) hm
 ·refine FV h1 h2 h3 (fun j y hy => ?_) h5
  dsimp only
  rw [CE kU]
  exact h4 j y hy
theorem IF {P:PB→Prop} (hs:∀ p k,fy p=true→Dg k p.1.1 p.2.2.2.2.length=true→P p→P (gh p k).1):∀ {l:List PK} {p:PB},fy p=true→P p→P (oU p l).1∧fy (oU p l).1=true
 | [],p,h,hp=>⟨hp,h⟩
 | k::l,p,h,hp=>by
  rw [oU]
  split
  ·rename_i hk
   exact IF hs (AQ h hk) (hs p k h hk hp)
  ·exact IF hs h hp
end Go.Ab
set_option linter.unusedVariables false
set_option linter.unusedSimpArgs false
namespace Go.Ab
theorem Is (n w:Int):cM n w=some (decide (0≤n∧n<w)):=by
 unfold cM
 by_cases h0:0≤n
 ·rw [leT h0,cond_true]
  by_cases h1:n<w
  ·rw [ltT h1,decide_eq_true ⟨h0,h1⟩]
  ·rw [ltF (by omega),decide_eq_false (by omega)]
 ·rw [leF (by omega),cond_false,decide_eq_false (by omega)]
theorem ab6 (k:PK) (w s:Int):kA k w s=some (Dg k w s):=by
 unfold kA Dg
 simp only [Is,ab,nM]
 by_cases h0:k.1=0
 ·by_cases hb:0≤k.2.1∧k.2.1<w
  ·simp [h0,hb]
  ·simp [h0,hb]
 ·by_cases h1:k.1=1
  ·by_cases hb:0≤k.2.1∧k.2.1<s
   ·simp [h1,hb]
   ·simp [h1,hb]
  ·by_cases h2:k.1=2
   ·simp [h2]
   ·simp [h0,h1,h2]
theorem AU {α:Type}:∀ {l:List α} {i:Nat} {x:α},l[i]? = some x→l.set i x=l
 | [],_,_,h=>by cases h
 | a::l,0,x,h=>by cases h;rfl
 | a::l,i+1,x,h=>by rw [List.set_cons_succ,AU (l:=l) (by simpa using h)]
theorem akS {i n:Nat} (h:i<n):decide ((0:Int)≤(i:Int)∧(i:Int).toNat<n)=true:=decide_eq_true ⟨by omega,by omega⟩
theorem Ix (k:Nat) (hk:1000≤k) {t:Tyt} (ht:FwT t):dO k t=some t:=by
 have hl:=ht.len
 unfold dO
 rw [bH (by omega),ab]
 have key:∀ (r:Tyt) (q n:Nat),t.drop q=r→q≤t.length→r.length<n→dp k t n t (t.length:Int) (q:Int) t=some t:=by
  intro r
  induction r with
  | nil=>
   intro q n hr hq hn
   obtain ⟨n,rfl⟩:=iZ hn
   have:=eb hr
   rw [dp,ltF (by omega),cond_false,decide_eq_true (Nat.le_refl _),bC,List.take_length]
  | cons v r ih=>
   intro q n hr hq hn
   obtain ⟨n,rfl⟩:=iZ hn
   obtain ⟨h0,h1,h2,_,h4⟩:=cW hr
   have hv:=ht.kids v (List.mem_of_getElem? h1)
   rw [dp,ltN h0,cond_true,akS h0,cond_true,Int.toNat_natCast,h1,ab,bH (by omega),ab,cond_true,ab,gg (by omega),AU h1]
   exact ih (q+1) n h2 (by omega) (by simp only [List.length_cons] at hn;omega)
 have:=key t 0 (k+1) rfl (Nat.zero_le _) (by omega)
 simpa using this
theorem ani (k n:Nat) {t:Tyt} {l:List Int} (hl:l.length≤1000) (hn:l.length<n):cw k n l (l.length:Int) t 0=some (JE (fun r => !decide (0≤r∧r<(t.length:Int))) l 0):=by
 refine Dk (F:=fun n i=>cw k n l (l.length:Int) t i) (l:=l) _ ?_ ?_ n hn
 ·intro n
  simp only [cw,pp,cond_false]
 ·intro n i x hi hx
  simp only [cw,ltN hi,cond_true,fO hx,ab]
  rw [gg (by omega)]
  by_cases h0:x<0
  ·rw [ltT h0,cond_true,decide_eq_false (by omega)]
   rfl
  ·rw [ltF (by omega),cond_false]
   by_cases h1:(t.length:Int)≤x
   ·rw [leT h1,cond_true,decide_eq_false (by omega)]
    rfl
   ·rw [leF (by omega),cond_false,decide_eq_true (by omega)]
    rfl
theorem adp (k n:Nat) (hk:1000≤k) {t:Tyt} {S:List SB} (hS:S.length≤1000) (hr:∀ x ∈ S,x.2.1.length≤1000) (hn:S.length<n):bU k n S (S.length:Int) t 0=some (JE (fun x => !Cw t x) S 0):=by
 refine Dk (F:=fun n i=>bU k n S (S.length:Int) t i) (l:=S) _ ?_ ?_ n hn
 ·intro n
  simp only [bU,pp,cond_false]
 ·intro n i x hi hx
  have hx':=hr x (List.mem_of_getElem? hx)
  have ho:=ani k (k+29) (t:=t) hx' (by omega)
  simp only [bU,ltN hi,cond_true,fO hx,ab,ho,mX]
  rw [gg (by omega)]
  have e:Cw t x=(decide (0≤x.1∧x.1<6) && !(x.2.1.any fun r => !decide (0≤r∧r<(t.length:Int)))&&(decide (x.1=0)||decide (x.2.1≠[]))):=by
   unfold Cw
   rw [List.all_eq_not_any_not]
  rw [e,E3,nM]
  by_cases h0:x.1<0
  ·rw [ltT h0,cond_true,decide_eq_false (show ¬ (0≤x.1∧x.1<6) by omega)]
   rfl
  ·rw [ltF (by omega),cond_false]
   by_cases h6:6≤x.1
   ·rw [leT h6,cond_true,decide_eq_false (show ¬ (0≤x.1∧x.1<6) by omega)]
    rfl
   ·rw [leF (by omega),cond_false,decide_eq_true (show 0≤x.1∧x.1<6 by omega)]
    cases (x.2.1.any fun r => !decide (0≤r∧r<(t.length:Int))) with
    | true=>rfl
    | false=>
     rw [cond_false]
     by_cases hz:x.1=0
     ·rw [decide_eq_true hz]
      rfl
     ·rw [decide_eq_false hz,Bool.not_false,cond_true]
      by_cases hn:x.2.1=[]
      ·rw [hn]
       rfl
      ·have hl:¬ ((x.2.1.length:Int)=0):=by
        intro h
        exact hn (List.length_eq_zero_iff.1 (by omega))
       rw [decide_eq_false hl,decide_eq_true hn]
       rfl
section
variable {k:Nat} (hk:9223372036854779000≤k) {p:PB} (ht:Wt p.2.1) (hw:∀ x ∈ p.2.2.2.1,x.2.1.length≤9000) (hs:∀ x ∈ p.2.2.2.2,x.2.1.length≤1000)
include hk ht hw hs
theorem Ky:fh k p=some (fy p):=by
 unfold fh fy
 simp only [Prod.eta,ij,ab]
 cases hm:dl p.1 with
 | false=>rfl
 | true=>
  have hc:=aC hm
  rw [Bool.not_true,cond_false,Bool.true_and,E3]
  by_cases h1:(p.2.2.2.1.length:Int)=p.1.1
  ·rw [decide_eq_true h1,Bool.not_true,cond_false]
   by_cases h3:(3:Int)<p.2.2.2.2.length
   ·rw [ltT h3,cond_true,decide_eq_false (by omega)]
    rfl
   ·rw [ltF (by omega),cond_false,decide_eq_true ⟨h1,by omega⟩,Bool.true_and]
    have key:∀ (r:List WB) (q n:Nat),p.2.2.2.1.drop q=r→q≤p.2.2.2.1.length→r.length<n→eP k p n (q:Int)=some (Ht p.1 p.2.1 p.2.2.1 q r&&p.2.2.2.2.all (Cw p.2.1)):=by
     intro r
     induction r with
     | nil=>
      intro q n hr hq hn
      obtain ⟨n,rfl⟩:=iZ hn
      have:=eb hr
      rw [eP,ltF (by omega),cond_false,adp k (k+32) (by omega) (by omega) hs (by omega),ab,mX,Ht,Bool.true_and,List.all_eq_not_any_not]
     | cons v r ih=>
      intro q n hr hq hn
      obtain ⟨n,rfl⟩:=iZ hn
      obtain ⟨h0,h1',h2,_,h4⟩:=cW hr
      have hv:=hw v (List.mem_of_getElem? h1')
      rw [eP,ltN h0,cond_true,fO h1',ab]
      try simp only [Prod.eta]
      rw [Rc (by omega) p.1 ht p.2.2.1 (q:Int) v hv,ab,Ht,gg (by omega),ih (q+1) n h2 (by omega) (by simp only [List.length_cons] at hn;omega)]
      cases eC p.1 p.2.1 p.2.2.1 (q:Int) v <;> rfl
    have:=key p.2.2.2.1 0 (k+33) rfl (Nat.zero_le _) (by omega)
    simpa using this
  ·rw [decide_eq_false h1,Bool.not_false,cond_true,decide_eq_false (fun h=>h1 h.1)]
   rfl
end
theorem PY (k:Nat) (c1 c2 c3 c4:Int) (t:Tyt) (m:List Int) (W:List WB) {S:List SB} (hS:S.length≤1000) (hr:∀ x ∈ S,x.2.1.length≤1000):∀ (r:List SB) (q n:Nat),S.drop q=r→q≤S.length→r.length<n →
  cU k n c1 c2 c3 c4 t m W S (S.length:Int) W (q:Int) S=some (c1,c2,c3,c4,t,m,W,S,W,S):=by
 intro r
 induction r with
 | nil=>
  intro q n hr hq hn
  obtain ⟨n,rfl⟩:=iZ hn
  have:=eb hr
  rw [cU,ltF (by omega),cond_false]
 | cons v r ih=>
  intro q n hr' hq hn
  obtain ⟨n,rfl⟩:=iZ hn
  obtain ⟨h0,h1,h2,_,h4⟩:=cW hr'
  have hv:=hr v (List.mem_of_getElem? h1)
  rw [cU,ltN h0,cond_true,akS h0,cond_true,Int.toNat_natCast,h1,ab,bH (by omega),ab,cond_true,ab,gg (by omega)]
  try simp only [Prod.eta]
  rw [AU h1]
  exact ih (q+1) n h2 (by omega) (by simp only [List.length_cons] at hn;omega)
theorem Lt (k:Nat) (hk:1000≤k) (c1 c2 c3 c4:Int) (t:Tyt) (m:List Int) {W:List WB} {S:List SB} (hW:W.length≤1000) (hw:∀ x ∈ W,x.2.1.length≤9000) (hS:S.length≤1000) (hs:∀ x ∈ S,x.2.1.length≤1000):∀ (r:List WB) (q n:Nat),W.drop q=r→q≤W.length→r.length<n →
  bV k n c1 c2 c3 c4 t m W S (W.length:Int) (q:Int) W=some (c1,c2,c3,c4,t,m,W,S,W,S):=by
 intro r
 induction r with
 | nil=>
  intro q n hr hq hn
  obtain ⟨n,rfl⟩:=iZ hn
  have:=eb hr
  rw [bV,ltF (by omega),cond_false]
  exact PY k c1 c2 c3 c4 t m W hS hs S 0 (k+61) rfl (Nat.zero_le _) (by omega)
 | cons v r ih=>
  intro q n hr' hq hn
  obtain ⟨n,rfl⟩:=iZ hn
  obtain ⟨h0,h1,h2,_,h4⟩:=cW hr'
  have hv:=hw v (List.mem_of_getElem? h1)
  rw [bV,ltN h0,cond_true,akS h0,cond_true,Int.toNat_natCast,h1,ab,bH (by omega),ab,cond_true,ab,gg (by omega)]
  try simp only [Prod.eta]
  rw [AU h1]
  exact ih (q+1) n h2 (by omega) (by simp only [List.length_cons] at hn;omega)
def Wp (l:List PK):Prop:=∀ x ∈ l,0≤x.2.2∧x.2.2≤18446744073709551615
section
variable {k:Nat} (hk:9223372036854779000≤k) {p0:PB} {l:List PK} (hl:l.length≤1000) (hd:Wp l)
include hk hl hd
theorem Ut:∀ (r:List PK) (q n N:Nat) (p:PB) (W0:List WB) (S0:List SB) (evs:List EV) (e:Nat),l.drop q=r→q≤l.length→r.length<n→(e=3∨e=0)→p.1=p0.1→p.2.2.2.2.length=p0.2.2.2.2.length→W0.length=p.2.2.2.1.length→S0.length=p.2.2.2.2.length→Good N p→fy p=true→N+r.length≤9000→evs.length+2*r.length≤4000 →
  bh k p0 l n p.1.1 p.1.2.1 p.1.2.2.1 p.1.2.2.2 p.2.1 W0 S0 p.2.2.2.1 p.2.2.2.2 evs (q:Int) p.2.2.1 e=some ((oU p r).1,evs++(oU p r).2):=by
 intro r
 induction r with
 | nil=>
  intro q n N p W0 S0 evs e hr hq hn he hc hS hW0 hS0 hg hm hN hE
  obtain ⟨n,rfl⟩:=iZ hn
  have:=eb hr
  rw [bh,ltF (by omega),cond_false,decide_eq_true (by omega),bC,decide_eq_true (by omega),bC,hW0,hS0,List.take_length,List.take_length,oU,List.append_nil]
 | cons v r ih=>
  intro q n N p W0 S0 evs e hr hq hn he hc hS hW0 hS0 hg hm hN hE
  obtain ⟨n,rfl⟩:=iZ hn
  obtain ⟨h0,h1,h2,_,h4⟩:=cW hr
  have hv:=hd v (List.mem_of_getElem? h1)
  obtain ⟨m1,m2,m3,m4,m5⟩:=ou hm
  have hcc:=aC m1
  simp only [List.length_cons] at hn hN hE
  have hml:p.2.2.1.length≤1000:=by
   have hW1:0<p.2.2.2.1.length:=by omega
   have:=(IS (m4 0 _ (List.getElem?_eq_getElem hW1))).2.1
   have:=ut m1
   omega
  have hes:(e==3||e==0)=true:=by rcases he with rfl | rfl <;> rfl
  have next:∀ (evs':List EV) (p':PB),p'.1=p.1→p'.2.1=p.2.1→p'.2.2.2.1.length=p.2.2.2.1.length→p'.2.2.2.2.length=p.2.2.2.2.length→Good (N+1) p'→fy p'=true→evs'.length≤evs.length+2→∀ e',(e'=3∨e'=0) →
    bh k p0 l n p.1.1 p.1.2.1 p.1.2.2.1 p.1.2.2.2 p.2.1 W0 S0 p'.2.2.2.1 p'.2.2.2.2 evs' ((q+1:Nat):Int) p'.2.2.1 e'=some ((oU p' r).1,evs'++(oU p' r).2):=fun evs' p' g1 g2 g3 g4 g5 g6 g7 e' he'=>by
   have:=ih (q+1) n (N+1) p' W0 S0 evs' e' h2 (by omega) (by omega) he' (by rw [g1,hc]) (by omega) (by omega) (by omega) g5 g6 (by omega) (by omega)
   rw [g1,g2] at this
   exact this
  have hw:IntKind.i64.wrap ((q:Int)+1)=((q+1:Nat):Int):=gg (by omega)
  have up:Good (N+1) p:=⟨hg.t,hg.tl,hg.m,fun x hx=>⟨(hg.w x hx).f,Nat.le_succ_of_le (hg.w x hx).s,(hg.w x hx).sp⟩,hg.s⟩
  rw [bh,ltN h0,cond_true,fO h1,ab]
  simp only [Prod.eta,hw]
  rw [ab6,ab,oU,← hc,← hS]
  cases hf:Dg v p.1.1 p.2.2.2.2.length with
  | false=>
   rw [cond_false,if_neg (by simp)]
   exact next evs p rfl rfl rfl rfl up hm (by omega) e he
  | true=>
   have st:=Bi (p:=p) (k:=v)
   have sg:=Ci (k:=v) hg m1
   have sm:=AQ hm hf
   have se:=L9 (p:=p) (k:=v)
   have nx:=fun e' he'=>next (evs++(gh p v).2) (gh p v).1 st.1 st.2.1 st.2.2.1 st.2.2.2 sg sm (by rw [List.length_append];omega) e' he'
   have hroom:room (evs++(gh p v).2).length 24=true:=Aw (by rw [List.length_append];omega)
   have hroom0:room evs.length 24=true:=Aw (by omega)
   rw [cond_true,if_pos rfl]
   simp only [← List.append_assoc]
   have hfit:=hf
   unfold Dg at hfit
   rw [decide_eq_true_eq] at hfit
   by_cases k0:v.1=0
   ·have hb:0≤v.2.1∧v.2.1<p.1.1:=by omega
    have hi:v.2.1.toNat<p.2.2.2.1.length:=by omega
    have hx:=List.getElem?_eq_getElem hi
    have hdec:decide (0≤v.2.1∧v.2.1.toNat<W0.length)=true:=decide_eq_true ⟨hb.1,by omega⟩
    generalize p.2.2.2.1[v.2.1.toNat]=x at hx
    have hxo:=hg.w x (List.mem_of_getElem? hx)
    have es:gh p v=((p.1,p.2.1,(bw p.1 p.2.1 p.2.2.1 v.2.1 x v.2.2).1,p.2.2.2.1.set v.2.1.toNat (bw p.1 p.2.1 p.2.2.1 v.2.1 x v.2.2).2.1,p.2.2.2.2),(bw p.1 p.2.1 p.2.2.1 v.2.1 x v.2.2).2.2):=by
     unfold gh
     rw [if_pos k0,hx]
    rw [nM,decide_eq_true k0,cond_true,hdec,cond_true,hx,ab]
    try simp only [Prod.eta]
    rw [T3 (by omega) p.1 hg.t.wt hg.m hml v.2.1 hxo.f (by have:=hxo.s;omega) (by have:=hxo.sp;omega) hv,ab,cond_true,ab,hes,bC]
    rw [es] at nx hroom ⊢
    rw [hroom,cond_true]
    exact nx 3 (.inl rfl)
   ·rw [nM,decide_eq_false k0,cond_false]
    by_cases k1:v.1=1
    ·have hb:0≤v.2.1∧v.2.1<(p.2.2.2.2.length:Int):=by omega
     have hi:v.2.1.toNat<p.2.2.2.2.length:=by omega
     have hx:=List.getElem?_eq_getElem hi
     have hdec:decide (0≤v.2.1∧v.2.1.toNat<S0.length)=true:=decide_eq_true ⟨hb.1,by omega⟩
     generalize p.2.2.2.2[v.2.1.toNat]=x at hx
     have hxo:=hg.s x (List.mem_of_getElem? hx)
     rw [nM,decide_eq_true k1,cond_true,hdec,cond_true,hx,ab]
     try simp only [Prod.eta]
     rw [Xa (by omega) p.1 hg.t.wt,ab]
     cases hsm:Az p.1 p.2.1 p.2.2.1 x with
     | false=>
      have es:gh p v=(p,[]):=by
       unfold gh
       rw [if_neg k0,if_pos k1,hx]
       dsimp only
       rw [hsm,if_neg (by simp)]
      rw [es] at nx ⊢
      rw [cond_false,hes,bC,hroom0,cond_true]
      have:=nx 3 (.inl rfl)
      rw [List.append_nil] at this ⊢
      exact this
     | true=>
      have es:gh p v=((p.1,p.2.1,(gO p.1 p.2.1 p.2.2.1 v.2.1 x).1,p.2.2.2.1,p.2.2.2.2.set v.2.1.toNat (gO p.1 p.2.1 p.2.2.1 v.2.1 x).2.1),(gO p.1 p.2.1 p.2.2.1 v.2.1 x).2.2):=by
       unfold gh
       rw [if_neg k0,if_pos k1,hx]
       dsimp only
       rw [hsm,if_pos rfl]
      rw [cond_true,cond_true,ab]
      rw [Yx (by omega) p.1 hg.t.wt hg.m hml v.2.1 hxo.f hxo.s hg.tl,ab,cond_true,ab,hes,bC]
      rw [es] at nx hroom ⊢
      rw [hroom,cond_true]
      exact nx 3 (.inl rfl)
    ·rw [nM,decide_eq_false k1,cond_false]
     by_cases k2:v.1=2
     ·have es:gh p v=((p.1,p.2.1,ao p.2.2.1 3 1,p.2.2.2.1,p.2.2.2.2),[]):=by
       unfold gh
       rw [if_neg k0,if_neg k1,if_pos k2]
      rw [nM,decide_eq_true k2,cond_true,mA hml,ab,hes,bC,hroom0,cond_true]
      rw [es] at nx ⊢
      have:=nx 3 (.inl rfl)
      rw [List.append_nil] at this ⊢
      exact this
     ·have es:gh p v=(p,[]):=by
       unfold gh
       rw [if_neg k0,if_neg k1,if_neg k2]
      rw [nM,decide_eq_false k2,cond_false,hes,bC,hroom0,cond_true]
      rw [es] at nx ⊢
      have:=nx 3 (.inl rfl)
      rw [List.append_nil] at this ⊢
      exact this
theorem aea {N:Nat} (hg:Good N p0) (hW:p0.2.2.2.1.length≤20) (hS:p0.2.2.2.2.length≤20) (hml:p0.2.2.1.length≤1000) (hN:N+l.length≤9000):ku k p0 l=some (ahQ p0 l):=by
 have hw:∀ x ∈ p0.2.2.2.1,x.2.1.length≤9000:=fun x hx=>by have:=(hg.w x hx).s;omega
 have hs:∀ x ∈ p0.2.2.2.2,x.2.1.length≤1000:=fun x hx=>(hg.s x hx).s
 unfold ku ahQ
 try simp only [Prod.eta]
 rw [Ix _ (by omega) hg.t,ab,bH (by omega),ab,bH (by omega),ab,bH (by omega),ab]
 have ho:=Lt k (by omega) p0.1.1 p0.1.2.1 p0.1.2.2.1 p0.1.2.2.2 p0.2.1 p0.2.2.1 (by omega) hw (by omega) hs p0.2.2.2.1 0 (k+61) rfl (Nat.zero_le _) (by omega)
 refine (congrArg (fun z=>ob z _) ho).trans ?_
 rw [ab]
 dsimp only
 rw [decide_eq_true (Nat.le_refl _),bC,decide_eq_true (Nat.le_refl _),bC,Ky (by omega) hg.t.wt hw hs,ab,List.take_length,List.take_length,decide_eq_true (Nat.le_refl _),decide_eq_true (Nat.le_refl _)]
 cases hm:fy p0 with
 | false=>
  rw [Bool.not_false,cond_true,bC,bC,if_neg (by simp),List.take_length,List.take_length]
 | true=>
  rw [Bool.not_true,cond_false,if_pos rfl]
  exact Ut hk hl hd l 0 (k+62) N p0 p0.2.2.2.1 p0.2.2.2.2 [] 0 rfl (Nat.zero_le _) (by omega) (.inr rfl) rfl rfl rfl rfl hg hm hN (by simp;omega)
end
end Go.Ab
set_option linter.unusedVariables false
set_option linter.unusedSimpArgs false
namespace Go.Ab
theorem OU (n:Nat) (i:Int):ah (List.replicate n 0) i=0:=by
 unfold ah
 split
 ·rw [List.getElem?_replicate]
  split <;> rfl
 ·rfl
theorem anr {k:Nat} (hk:1000≤k) (c:CF):ng k c=some (List.replicate (bN c).toNat 0):=by
 have hs:0≤bN c∧bN c≤190:=by
  unfold bN
  split
  ·rename_i h
   have hm:=aC h
   have:=dV h (w:=c.1) (by omega) (by omega)
   omega
  ·omega
 have key:∀ (d i n t:Nat),(t=0∨t=1)→i+d=(bN c).toNat→d<n→fL k c n (bN c) (List.replicate i 0) (i:Int) t=some (List.replicate (bN c).toNat 0):=by
  intro d
  induction d with
  | zero=>
   intro i n t ht hi hn
   obtain ⟨n,rfl⟩:=iZ hn
   rw [fL,ltF (by omega),cond_false]
   rw [show i=(bN c).toNat by omega]
  | succ d ih=>
   intro i n t ht hi hn
   obtain ⟨n,rfl⟩:=iZ hn
   have h1:(t==1||t==0)=true:=by rcases ht with rfl | rfl <;> rfl
   rw [fL,ltT (by omega),cond_true,h1,bC,Aw (by simp;omega),cond_true,gg (by omega)]
   have:=ih (i+1) n 1 (.inr rfl) (by omega) (by omega)
   rw [List.replicate_succ'] at this
   exact this
 unfold ng
 simp only [Prod.eta,DT,ab]
 exact key (bN c).toNat 0 (k+3) 0 (.inl rfl) (by omega) (by omega)
theorem afe {l:List Int} (h:l.length≤1000):kX l=some (0,l,dw):=by
 unfold kX
 rw [bH (by omega),ab]
 rfl
theorem K5 {α:Type} (p:α→Bool):∀ (l:List α) (i:Nat),JE p l i = -1∨∃ (j:Nat) (x:α),JE p l i=((i+j:Nat):Int)∧l[j]? = some x∧p x=true
 | [],_ => .inl rfl
 | x::r,i=>by
  rw [JE]
  by_cases h:p x=true
  ·rw [if_pos h]
   exact .inr ⟨0,x,rfl,rfl,h⟩
  ·rw [if_neg h]
   rcases K5 p r (i+1) with e | ⟨j,y,e,h1,h2⟩
   ·exact .inl e
   ·refine .inr ⟨j+1,y,?_,h1,h2⟩
    rw [e]
    congr 1
    omega
theorem aaB (k:Nat) {l:List Int} (hl:l.length≤1000) (hk:1001≤k) (v:Int):dP k l v=some (JE (fun y=>v==y) l 0):=by
 unfold dP
 refine Dk (F:=fun n i=>bI k l v n i) (l:=l) _ ?_ ?_ k (by omega)
 ·intro n
  simp only [bI,pp,cond_false]
 ·intro n i y hi hy
  simp only [bI,ltN hi,cond_true,fO hy,ab]
  rw [gg (by omega)]
def RtB (t:Tyt) (y:Int):Prop:=(0≤y∧y<(t.length:Int))∧dr t y = -1
section
variable (k:Nat) (hk:9223372036854775808≤k)
include hk
theorem HD (t:Tyt) (ht:Wt t) (q:Int):eo k t q=some (dr t q):=by
 have hlen:=ht.len
 rw [eo,FM k hk t ht,ab]
 unfold dr
 cases hm:ow t with
 | false=>rfl
 | true=>
  rw [cond_true,if_pos rfl]
  have inner:∀ (x:Int×List Int) (hx:x ∈ t) (i:Nat) (hi:i<t.length) (o:Int→Option Int) (R:List (Int×Int)) (z:Int)
    (ho:o ((i+1:Nat):Int)=some (if (Eu (lh q) R z).1 then -1 else (Eu (lh q) R z).2)),
    ∀ r j n,x.2.drop j=r→r.length<n →
     co k t q o n x.2 (x.2.length:Int) (j:Int) (i:Int)=some (if (Eu (lh q) (r.map (fun p=>(p,(i:Int)))++R) z).1 then -1 else (Eu (lh q) (r.map (fun p=>(p,(i:Int)))++R) z).2):=by
   intro x hx i hi o R z ho r
   have hxl:=ht.kids x hx
   induction r with
   | nil=>
    intro j n hr hn
    obtain ⟨n,rfl⟩:=iZ hn
    have hj:=eb hr
    rw [co,ltF (by omega),cond_false,gg (by omega),ho]
    rfl
   | cons p r ih=>
    intro j n hr hn
    obtain ⟨n,rfl⟩:=iZ hn
    obtain ⟨a,b,c,d,e⟩:=cW hr
    rw [co,ltN a,cond_true,fO b,ab,List.map_cons,List.cons_append,Eu,nM]
    by_cases h1:p=q
    ·simp [h1,lh]
    ·rw [decide_eq_false h1,cond_false,gg (by omega),ih (j+1) n c (by simp only [List.length_cons] at hn;omega)]
     simp [lh,h1]
     -- the number handed on is not changed
  have outer:∀ r i n (z:Int),t.drop i=r→i≤t.length→r.length<n→bE k t q n (i:Int)=some (if (Eu (lh q) (d8 i r) z).1 then -1 else (Eu (lh q) (d8 i r) z).2):=by
   intro r
   induction r with
   | nil=>
    intro i n z hr hi hn
    obtain ⟨n,rfl⟩:=iZ hn
    have:=eb hr
    rw [bE,ltF (by omega),cond_false]
    rfl
   | cons x r ih=>
    intro i n z hr hi hn
    obtain ⟨n,rfl⟩:=iZ hn
    obtain ⟨a,b,c,d,e⟩:=cW hr
    have hxl:=ht.kids x d
    rw [bE,ltN a,cond_true,fO b,ab,d8]
    have:=inner x d i a (fun s=>bE k t q n s) (d8 (i+1) r) z (ih (i+1) n z c (by omega) (by simp only [List.length_cons] at hn;omega)) x.2 0 (k+18) rfl (by omega)
    simpa using this
  have:=outer t 0 (k+18) 0 rfl (Nat.zero_le _) (by omega)
  simpa using this
end
theorem ZK {k:Nat} (hk:9223372036854775808≤k) {t:Tyt} (ht:FwT t):∀ (d i n g e:Nat) (L:List Int),i+d=t.length→d<n→L.length≤i→(e=0∨e=1)→(L≠[]→e=1)→(∀ r ∈ L,RtB t r)→L.Nodup∧(∀ r ∈ L,r<(i:Int)) →
  ∃ g' L' e',bL k n t (t.length:Int) g L (i:Int) e=some (g',L',e')∧L'.length≤t.length∧(L'≠[]→e'=1)∧(∀ r ∈ L',RtB t r)∧L'.Nodup:=by
 have hlen:=ht.len
 intro d
 induction d with
 | zero=>
  intro i n g e L hi hn hL he hne hr hd
  obtain ⟨n,rfl⟩:=iZ hn
  rw [bL,ltF (by omega),cond_false]
  exact ⟨g,L,e,rfl,by omega,hne,hr,hd.1⟩
 | succ d ih=>
  intro i n g e L hi hn hL he hne hr hd
  obtain ⟨n,rfl⟩:=iZ hn
  rw [bL,ltT (by omega),cond_true,HD k hk t ht.wt,ab,gg (by omega)]
  cases hz:dr t (i:Int) == -1 with
  | true=>
   have he1:(e==1||e==0)=true:=by rcases he with rfl | rfl <;> rfl
   rw [cond_true,he1,bC,Aw (by simp;omega),cond_true]
   refine ih (i+1) n (g+1) 1 (L++[(i:Int)]) (by omega) (by omega) (by simp;omega) (.inr rfl) (fun _=>rfl) (fun r hr' => ?_) ⟨?_,fun r hr' => ?_⟩
   ·rcases List.mem_append.1 hr' with h | h
    ·exact hr r h
    ·rw [List.mem_singleton.1 h]
     exact ⟨by omega,by simpa using hz⟩
   ·refine List.nodup_append.2 ⟨hd.1,by simp,fun a ha b hb => ?_⟩
    have:=hd.2 a ha
    rw [List.mem_singleton.1 hb]
    omega
   ·rcases List.mem_append.1 hr' with h | h
    ·have:=hd.2 r h
     omega
    ·rw [List.mem_singleton.1 h];omega
  | false=>
   rw [cond_false]
   exact ih (i+1) n g e L (by omega) (by omega) (by omega) he hne hr ⟨hd.1,fun r h=>by have:=hd.2 r h;omega⟩
def Gl (w:Nat):WB:=(0,[],Ap 1 (w:Int) 0,0,0)
def m9 (n:Nat):List WB:=(List.range n).map Gl
def ly (roots:List (List Int)):List SB:=roots.map fun l=>(0,l,dw)
def F3 (c:CF) (t:Tyt) (roots:List (List Int)):PB:=(c,t,List.replicate (bN c).toNat 0,m9 c.1.toNat,ly roots)
def PM:PB:=((0,0,0,0),[],[],[],[])
section
variable {k:Nat} (hk:9223372036854779000≤k) (c:CF) (t:Tyt) (ht:t.length≤40) (roots:List (List Int))
include hk ht
theorem OY (o0:Tyt→List Int→Nat→List WB→Int→List SB→Nat→Nat→List Int→Option (PB×Bool)) (t':Tyt) (m:List Int) (W:List WB) (i0:Int) (S:List SB) (C x:List Int) (hx:x.length≤1000) (hS:S.length≤100) (e:Nat) (he:e=9∨e=0) :
  ∀ (r:List Int) (q n len z:Nat) (L:List Int),x.drop q=r→q≤x.length→r.length<n→len≤L.length→L.length≤40→(0<len→z=1)→(∀ y ∈ L.take len,RtB t y)→(∀ y ∈ x.take q,RtB t y)→(C++(x.take q++L.take len)).Nodup →
  dd k c t roots o0 n x t' m (x.length:Int) z W len (q:Int) L i0 S e=some (PM,false) ∨
  ∃ (len' z':Nat) (L':List Int),len'≤L'.length∧L'.length≤40∧(0<len'→z'=1)∧(∀ y ∈ L'.take len',RtB t y)∧(∀ y ∈ x,RtB t y)∧(C++(x++L'.take len')).Nodup ∧
   dd k c t roots o0 n x t' m (x.length:Int) z W len (q:Int) L i0 S e=o0 t' m z' W (IntKind.i64.wrap (i0+1)) (S++[(0,x,dw)]) 9 len' L':=by
 have _h:=ht
 intro r
 induction r with
 | nil=>
  intro q n len z L hr hq hn hlen hL hz hy hxq hd
  obtain ⟨n,rfl⟩:=iZ hn
  have:=eb hr
  have he1:(e==9||e==0)=true:=by rcases he with rfl | rfl <;> rfl
  refine .inr ⟨len,z,L,hlen,hL,hz,hy,?_,?_,?_⟩
  ·rw [List.take_of_length_le (by omega)] at hxq
   exact hxq
  ·rw [List.take_of_length_le (by omega)] at hd
   exact hd
  ·rw [dd,ltF (by omega),cond_false,afe hx,ab,he1,bC]
   rw [Aw (by simp;omega),cond_true]
 | cons v r ih=>
  intro q n len z L hr hq hn hlen hL hz hy hxq hd
  obtain ⟨n,rfl⟩:=iZ hn
  obtain ⟨h0,h1,h2,_,h4⟩:=cW hr
  simp only [List.length_cons] at hn
  rw [dd,ltN h0,cond_true,fO h1,ab,decide_eq_true hlen,bC,aaB (k+20) (by rw [List.length_take];omega) (by omega) v,ab]
  rcases K5 (fun y=>v==y) (L.take len) 0 with e1 | ⟨j,y,e1,hj,hvy⟩
  ·rw [e1]
   exact .inl rfl
  ·have hvy':v=y:=by simpa using hvy
   have hjl:j<len:=by
    have:=(List.getElem?_eq_some_iff.1 hj).1
    rw [List.length_take] at this
    omega
   have hyr:=hy y (List.mem_of_getElem? hj)
   rw [e1,Nat.zero_add,ltF (by omega),cond_false,hz (by omega),show ((1:Nat)==1)=true from rfl,bC,gg (by omega),Int.toNat_natCast,Int.toNat_natCast,decide_eq_true (show len≤L.length∧(0:Int)≤(j:Int)∧(j:Int)<((j+1:Nat):Int)∧j+1≤len∧len≤9223372036854775807 by omega),bC,gg (by omega),show len - (j+1 - j)=len - 1 by omega]
   have hc1:(Ge (L.take len) j (j+1)).length=len:=by
    rw [Mp (by omega) (by rw [List.length_take];omega),List.length_take]
    omega
   have hc2:(Ge (L.take len) j (j+1)++L.drop len).length=L.length:=by
    rw [List.length_append,hc1,List.length_drop]
    omega
   refine ih (q+1) n (len - 1) 1 _ h2 (by omega) (by omega) (by rw [hc2];omega) (by rw [hc2];exact hL) (fun _=>rfl) ?_ ?_ ?_
   ·intro y' hy'
    rw [List.take_append_of_le_length (by rw [hc1];omega)] at hy'
    unfold Ge at hy'
    rw [List.take_append_of_le_length (by simp;omega)] at hy'
    rcases List.mem_append.1 (List.mem_of_mem_take hy') with h | h
    ·exact hy y' (List.mem_of_mem_take h)
    ·exact hy y' (List.mem_of_mem_drop h)
   ·intro y' hy'
    rw [List.take_add_one,h1] at hy'
    rcases List.mem_append.1 hy' with h | h
    ·exact hxq y' h
    ·rw [show y'=v by simpa using h,hvy']
     exact hyr
   ·have hsp:L.take len=(L.take len).take j++y::(L.take len).drop (j+1):=by
     have:=List.take_append_drop j (L.take len)
     rw [List.drop_eq_getElem_cons (by rw [List.length_take];omega)] at this
     have hg : (L.take len)[j]'(by rw [List.length_take]; omega) = y := by
      have:=List.getElem?_eq_getElem (l:=L.take len) (i:=j) (by rw [List.length_take];omega)
      rw [hj] at this
      exact (Option.some.inj this).symm
     rw [hg] at this
     exact this.symm
    have ht1:(Ge (L.take len) j (j+1)++L.drop len).take (len - 1)=(L.take len).take j++(L.take len).drop (j+1):=by
     rw [List.take_append_of_le_length (by rw [hc1];omega)]
     unfold Ge
     rw [List.take_append_of_le_length (by simp;omega),List.take_of_length_le (by simp;omega)]
    rw [ht1,List.take_add_one,h1]
    rw [hsp] at hd
    refine (List.Perm.nodup_iff ?_).1 hd
    refine List.Perm.append_left C ?_
    rw [List.append_assoc]
    refine List.Perm.append_left _ ?_
    rw [hvy']
    exact List.perm_middle
theorem OW (hR:roots.length≤3) (hr:∀ l ∈ roots,l.length≤1000) (W:List WB):∀ (r:List (List Int)) (q n len z e:Nat) (L:List Int) (t':Tyt) (m:List Int),roots.drop q=r→q≤roots.length→r.length<n→len≤L.length→L.length≤40→(0<len→z=1)→(e=9∨e=0)→(∀ y ∈ L.take len,RtB t y)→(∀ l ∈ roots.take q,∀ y ∈ l,RtB t y)→((roots.take q).flatten++L.take len).Nodup →
  cf k c t roots n t' m z W (q:Int) (ly (roots.take q)) e len L=some (PM,false) ∨
  cf k c t roots n t' m z W (q:Int) (ly (roots.take q)) e len L=some ((c,t',m,W,ly roots),true)∧(∀ l ∈ roots,∀ y ∈ l,RtB t y)∧roots.flatten.Nodup:=by
 intro r
 induction r with
 | nil=>
  intro q n len z e L t' m hq' hq hn hlen hL hz he hy hxq hd
  obtain ⟨n,rfl⟩:=iZ hn
  have:=eb hq'
  rw [List.take_of_length_le (by omega)] at hxq hd ⊢
  rw [cf,ltF (by omega),cond_false]
  exact .inr ⟨rfl,hxq,(List.nodup_append.1 hd).1⟩
 | cons v r ih=>
  intro q n len z e L t' m hq' hq hn hlen hL hz he hy hxq hd
  obtain ⟨n,rfl⟩:=iZ hn
  obtain ⟨h0,h1,h2,_,h4⟩:=cW hq'
  simp only [List.length_cons] at hn
  have hv:=hr v (List.mem_of_getElem? h1)
  have hSl:(ly (roots.take q)).length≤100:=by unfold ly;rw [List.length_map,List.length_take];omega
  rw [cf,ltN h0,cond_true,fO h1,ab]
  rcases OY hk c t ht roots (fun s62 s63 s64 s77 s113 s115 s116 s135 s138=>cf k c t roots n s62 s63 s64 s77 s113 s115 s116 s135 s138) t' m W (q:Int) (ly (roots.take q)) (roots.take q).flatten v hv hSl e he v 0 (k+21) len z L rfl (Nat.zero_le _) (by omega) hlen hL hz hy (by simp) (by simpa using hd) with h | ⟨len',z',L',g1,g2,g3,g4,g5,gd,g6⟩
  ·exact .inl h
  ·have hs:ly (roots.take q)++[(0,v,dw)]=ly (roots.take (q+1)):=by
    unfold ly
    rw [List.take_add_one,h1,List.map_append]
    rfl
   rw [hs,gg (by omega)] at g6
   have:=ih (q+1) n len' z' 9 L' t' m h2 (by omega) (by omega) g1 g2 g3 (.inl rfl) g4 (fun l hl=>by
    rw [List.take_add_one,h1] at hl
    rcases List.mem_append.1 hl with h | h
    ·exact hxq l h
    ·rw [show l=v by simpa using h]
     exact g5) (by
    rw [List.take_add_one,h1,List.flatten_append]
    simpa [List.append_assoc] using gd)
   have g6':dd k c t roots (fun s62 s63 s64 s77 s113 s115 s116 s135 s138=>cf k c t roots n s62 s63 s64 s77 s113 s115 s116 s135 s138) (k+21) v t' m (v.length:Int) z W len 0 L (q:Int) (ly (roots.take q)) e=_:=g6
   rw [g6']
   exact this
theorem SA (hR:roots.length≤3) (hr:∀ l ∈ roots,l.length≤1000) (hc:0≤c.1∧c.1≤8) (t':Tyt) (m L:List Int) (z:Nat) (hL:L.length≤40) (hz:L≠[]→z=1) (hy:∀ y ∈ L,RtB t y) (hd:L.Nodup):∀ (d i n e:Nat),(i:Int)+d=c.1→d<n→(e=11∨e=0) →
  di k c t roots n t' m L z (i:Int) (m9 i) e=some (PM,false) ∨
  di k c t roots n t' m L z (i:Int) (m9 i) e=some ((c,t',m,m9 c.1.toNat,ly roots),true)∧(∀ l ∈ roots,∀ y ∈ l,RtB t y)∧roots.flatten.Nodup:=by
 intro d
 induction d with
 | zero=>
  intro i n e hi hn he
  obtain ⟨n,rfl⟩:=iZ hn
  rw [di,ltF (by omega),cond_false,show c.1.toNat=i by omega]
  exact OW hk c t ht roots hR hr (m9 i) roots 0 (k+21) L.length z 0 L t' m rfl (Nat.zero_le _) (by omega) (Nat.le_refl _) hL (fun h=>hz (fun e=>by rw [e] at h;cases h)) (.inr rfl) (by rw [List.take_length];exact hy) (by simp) (by simpa using hd)
 | succ d ih=>
  intro i n e hi hn he
  obtain ⟨n,rfl⟩:=iZ hn
  have he1:(e==11||e==0)=true:=by rcases he with rfl | rfl <;> rfl
  rw [di,ltT (by omega),cond_true,abZ,ab,he1,bC]
  rw [Aw (by rw [List.length_append];unfold m9;simp;omega),cond_true,gg (by omega)]
  have hw:m9 i++[Gl i]=m9 (i+1):=by
   unfold m9
   rw [List.range_succ,List.map_append]
   rfl
  have:=ih (i+1) n 11 (by omega) (by omega) (.inl rfl)
  rw [← hw] at this
  exact this
end
theorem YN {k:Nat} (hk:9223372036854779000≤k) (c:CF) {t:Tyt} (ht:FwT t) {roots:List (List Int)} (hr:∀ l ∈ roots,l.length≤1000) :
  lY k c t roots=some (PM,false)∨lY k c t roots=some (F3 c t roots,true)∧dl c=true∧ow t=true∧roots.length≤3∧(∀ l ∈ roots,∀ y ∈ l,RtB t y)∧roots.flatten.Nodup:=by
 unfold lY
 try simp only [Prod.eta]
 rw [ij,ab]
 cases hm:dl c with
 | false=>exact .inl rfl
 | true=>
  have hc:=aC hm
  rw [Bool.not_true,cond_false,FM _ (by omega) t ht.wt,ab]
  cases ht2:ow t with
  | false=>exact .inl rfl
  | true=>
   rw [Bool.not_true,cond_false]
   by_cases h3:(3:Int)<roots.length
   ·rw [ltT h3]
    exact .inl rfl
   ·obtain ⟨g',L',e',h1,h2,h4,h5,h6⟩:=ZK (k:=k) (by omega) ht t.length 0 (k+20) 0 0 [] (by omega) (by have:=ht.len;omega) (Nat.zero_le _) (.inl rfl) (fun h=>absurd rfl h) (by simp) ⟨List.nodup_nil,by simp⟩
    rw [ltF (by omega),cond_false,FM _ (by omega) t ht.wt,ab,ht2,Bool.not_true,cond_false]
    refine (show _∨_ from ?_)
    have h1':bL k (k+20) t (t.length:Int) 0 [] 0 0=some (g',L',e'):=h1
    rw [h1',ab,Ix _ (by omega) ht,ab,anr (by omega),ab]
    have hl:=ht.len
    rcases SA (k:=k) hk c t ht.len roots (by omega) hr (by omega) t (List.replicate (bN c).toNat 0) L' e' (by omega) h4 h5 h6 c.1.toNat 0 (k+21) 0 (by omega) (by omega) (.inr rfl) with h | ⟨h,h'⟩
    ·exact .inl h
    ·exact .inr ⟨h,rfl,rfl,by omega,h'⟩
end Go.Ab
set_option linter.unusedVariables false
namespace Go.Ab
theorem af0 {k:Nat} (hk:9223372036854775808≤k) {l:List (List Int)} (hl:l.length≤9223372036854775807):∃ b,cq k l=some b∧(b=true→l.length≤10∧∀ x ∈ l,x.length≤60):=by
 unfold cq
 have key:∀ (r:List (List Int)) (q n:Nat),l.drop q=r→q≤l.length→r.length<n→(∀ x ∈ l.take q,x.length≤60)→∃ b,aV k l n (q:Int)=some b∧(b=true→l.length≤10∧∀ x ∈ l,x.length≤60):=by
  intro r
  induction r with
  | nil=>
   intro q n hr hq hn hx
   obtain ⟨n,rfl⟩:=iZ hn
   have:=eb hr
   rw [List.take_of_length_le (by omega)] at hx
   rw [aV,ltF (by omega),cond_false]
   refine ⟨_,rfl,fun h=>⟨?_,hx⟩⟩
   have:=of_decide_eq_true h
   omega
  | cons v r ih=>
   intro q n hr hq hn hx
   obtain ⟨n,rfl⟩:=iZ hn
   obtain ⟨h0,h1,h2,_,h4⟩:=cW hr
   rw [aV,ltN h0,cond_true]
   by_cases hq10:(q:Int)≤10
   ·rw [leT hq10,cond_true,fO h1,ab]
    by_cases h60:(60:Int)<v.length
    ·rw [ltT h60,cond_true]
     exact ⟨_,rfl,fun h=>by cases h⟩
    ·rw [ltF (by omega),cond_false,gg (by omega)]
     refine ih (q+1) n h2 (by omega) (by simp only [List.length_cons] at hn;omega) fun x hx' => ?_
     rw [List.take_add_one,h1] at hx'
     rcases List.mem_append.1 hx' with h | h
     ·exact hx x h
     ·rw [show x=v by simpa using h];omega
   ·rw [leF (by omega),cond_false]
    refine ⟨_,rfl,fun h => ?_⟩
    have:=of_decide_eq_true h
    omega
 exact key l 0 k rfl (Nat.zero_le _) (by omega) (by simp)
theorem pF:∀ {l:List PK} {n:Nat} {p:PB},Good n p→fy p=true→Good (n+l.length) (oU p l).1
 | [],n,p,h,_=>h
 | k::l,n,p,h,hm=>by
  rw [oU]
  split
  ·rename_i hk
   have:=pF (l:=l) (Ci (k:=k) h (ou hm).1) (AQ hm hk)
   rw [List.length_cons,show n+(l.length+1)=n+1+l.length by omega]
   exact this
  ·have:=pF (l:=l) h hm
   rw [List.length_cons]
   exact ⟨this.t,this.tl,this.m,fun x hx=>⟨(this.w x hx).f,by have:=(this.w x hx).s;omega,(this.w x hx).sp⟩,this.s⟩
theorem EC {l:List PK} {p:PB} (hm:fy p=true):fy (oU p l).1=true:=
 (IF (P:=fun _=>True) (fun _ _ _ _ _=>trivial) hm trivial).2
theorem uw:∀ {l:List PK} {p:PB},(oU p l).1.1=p.1∧(oU p l).1.2.1=p.2.1∧(oU p l).1.2.2.2.1.length=p.2.2.2.1.length∧(oU p l).1.2.2.2.2.length=p.2.2.2.2.length∧(oU p l).1.2.2.1.length=p.2.2.1.length
 | [],p=>⟨rfl,rfl,rfl,rfl,rfl⟩
 | k::l,p=>by
  rw [oU]
  split
  ·obtain ⟨a1,a2,a3,a4,a5⟩:=uw (l:=l) (p:=(gh p k).1)
   obtain ⟨b1,b2,b3,b4⟩:=Bi (p:=p) (k:=k)
   have b5:=SF (p:=p) (k:=k)
   exact ⟨a1.trans b1,a2.trans b2,a3.trans b3,a4.trans b4,a5.trans b5⟩
  ·exact uw
theorem Cc:∀ {l:List PK} {p:PB},(oU p l).2.length≤2*l.length
 | [],p=>Nat.le_refl _
 | k::l,p=>by
  rw [oU]
  split
  ·have:=Cc (l:=l) (p:=(gh p k).1)
   have:=L9 (p:=p) (k:=k)
   simp only [List.length_append,List.length_cons]
   omega
  ·have:=Cc (l:=l) (p:=p)
   simp only [List.length_cons]
   omega
theorem pB {p:PB} (h:fy p=true):p.2.2.2.1.length≤8∧p.2.2.2.2.length≤3∧12≤p.2.2.1.length∧p.2.2.1.length≤190:=by
 obtain ⟨m1,m2,m3,m4,_⟩:=ou h
 have hc:=aC m1
 have:=(IS (m4 0 _ (List.getElem?_eq_getElem (show 0<p.2.2.2.1.length by omega)))).2.1
 have:=ut m1
 omega
theorem Rv {c:CF} {t:Tyt} {roots:List (List Int)} (hc:dl c=true) (ht:ow t=true) (hR:roots.length≤3) (hr:∀ l ∈ roots,∀ y ∈ l,0≤y∧y<(t.length:Int)):fy (F3 c t roots)=true:=by
 have hm:=aC hc
 have hs:=ut hc
 refine FV hc ?_ ?_ (fun j x hx => ?_) (fun x hx => ?_)
 ·show ((m9 c.1.toNat).length:Int)=c.1
  unfold m9
  rw [List.length_map,List.length_range]
  omega
 ·show (ly roots).length≤3
  unfold ly
  rw [List.length_map]
  exact hR
 ·have hx':(m9 c.1.toNat)[j]? = some x:=hx
  unfold m9 at hx'
  rw [List.getElem?_map,Option.map_eq_some_iff] at hx'
  obtain ⟨i,hi,rfl⟩:=hx'
  obtain ⟨hj,rfl⟩:=List.getElem?_eq_some_iff.1 hi
  rw [List.length_range] at hj
  rw [List.getElem_range]
  refine PD hc ?_ ht ⟨by omega,by show (j:Int)<c.1;omega,Int.le_refl 0,(show (0:Int)<16 by decide)⟩ (nL.2 ⟨ht,fun y hy=>absurd hy (by simp [Gl])⟩)
  show ((List.replicate (bN c).toNat (0:Int)).length:Int)=bN c
  rw [List.length_replicate]
  omega
 ·have hx':x ∈ ly roots:=hx
  unfold ly at hx'
  obtain ⟨l,hl,rfl⟩:=List.mem_map.1 hx'
  unfold Cw
  simp only [Bool.and_eq_true,List.all_eq_true,decide_eq_true_eq,Bool.or_eq_true]
  exact ⟨⟨by decide,hr l hl⟩,.inl (by trivial)⟩
theorem Ly {c:CF} {t:Tyt} {roots:List (List Int)} (ht:FwT t) (hr:∀ l ∈ roots,l.length≤60):Good 0 (F3 c t roots):=by
 have z:(0:Int)≤0∧(0:Int)≤18446744073709551615:=by decide
 refine ⟨ht,by have:=ht.len;show t.length≤1000;omega,?_,fun x hx => ?_,fun x hx => ?_⟩
 ·refine ⟨?_,fun v hv => ?_⟩
  ·show (List.replicate (bN c).toNat (0:Int)).length≤_
   rw [List.length_replicate]
   have:bN c≤190:=by
    unfold bN
    split
    ·rename_i h
     have hm:=aC h
     have:=dV h (w:=c.1) (by omega) (by omega)
     omega
    ·omega
   omega
  ·rw [List.eq_of_mem_replicate hv]
   exact z
 ·have hx':x ∈ m9 c.1.toNat:=hx
  unfold m9 at hx'
  obtain ⟨i,_,rfl⟩:=List.mem_map.1 hx'
  exact ⟨⟨z,z,z⟩,Nat.le_refl _,by show (0:Int)≤9223372036854775807;decide⟩
 ·have hx':x ∈ ly roots:=hx
  unfold ly at hx'
  obtain ⟨l,hl,rfl⟩:=List.mem_map.1 hx'
  exact ⟨⟨z,z,z⟩,by have:=hr l hl;show l.length≤1000;omega⟩
end Go.Ab
set_option linter.unusedVariables false
namespace Go.Ab
def ajL:FR:=(-1,0,0,0,0,0,0)
structure Pl where
 m:List Int
 left:List (List Int)
 cur:List FR
 over:List FR
def aig (m:List Int) (w:Int):Nat:=if uE (ah m 2) w=true then 1 else 0
def ads (f:FR) (w:Int):Nat:=if UZ f w=true then 1 else 0
def ahS (l:List FR) (w:Int):Nat:=l.countP fun f=>UZ f w
def X6 (c:CF) (m:List Int) (w:Int):Nat:=if ah m (f6 c w)=0 then 0 else 1
def w3B (f:FR):Nat:=if f.1=5∧3≤f.2.1 then 1 else 0
def w4B (f:FR):Prop:=f.1=5∧f.2.1=4
def apo (x:Int):Prop:=0≤x∧x≤18446744073709551615
def apG (n:Nat) (i:Nat) (f:FR):Prop:=
 f=ajL∨∃ op pc X Y:Int,f=(op,pc,(i:Int),0,X,Y,0)∧apo X∧apo Y ∧
  ((op=5∧0≤pc∧pc≤4)∨(op=6∧0≤pc∧pc≤2∧(pc=2→Y<n))∨(op=7∧0≤pc∧pc≤2∧(pc=2→0<Y∧Y<65536∧∀ j:Nat,n≤j→j<16→uE Y j=false)))
structure OkP (c:CF) (n:Nat) (m:List Int) (l:List FR):Prop where
 wm:Wm m
 may:dl c=true
 cn:c.1=n
 len:(m.length:Int)=bN c
 clen:l.length=n
 frm:∀ i f,l[i]? = some f→apG n i f
 low:∀ j:Nat,n≤j→j<16→uE (ah m 2) j=false
 par:∀ w:Nat,w<n→ah m (f6 c w)=0∨ah m (f6 c w)=1
 sgn:∀ (w:Nat) f,l[w]? = some f→aig m w+ahS l w+X6 c m w=w3B f
 end4:∀ (w:Nat) f,l[w]? = some f→w4B f→X6 c m w=1
theorem T5 {l:List FR} {i:Nat} {f g:FR} (hf:l[i]? = some f) (w:Int):ahS (l.set i g) w+ads f w=ahS l w+ads g w:=by
 obtain ⟨hi,rfl⟩:=List.getElem?_eq_some_iff.1 hf
 have hle:l[i] ∈ l:=List.getElem_mem _
 unfold ahS ads
 rw [List.countP_set hi]
 by_cases h:UZ l[i] w=true
 ·have:0<l.countP fun f=>UZ f w:=List.countP_pos_iff.2 ⟨_,hle,h⟩
  simp only [h,if_true]
  omega
 ·simp only [h,if_false]
  simp
theorem OkP.step {c:CF} {n:Nat} {m m':List Int} {l:List FR} (h:OkP c n m l) {i:Nat} {f g:FR} (hf:l[i]? = some f) (wm:Wm m') (len:m'.length=m.length) (hg:apG n i g)
  (low:∀ j:Nat,n≤j→j<16→uE (ah m' 2) j=false) (par:∀ w:Nat,w<n→ah m' (f6 c w)=0∨ah m' (f6 c w)=1)
  (sg:∀ w:Nat,w<n→aig m' w+ads g w+X6 c m' w+(if w=i then w3B f else 0)=aig m w+ads f w+X6 c m w+(if w=i then w3B g else 0))
  (e4:w4B g→X6 c m' i=1) (e5:∀ w:Nat,w<n→w≠i→X6 c m w=1→X6 c m' w=1):OkP c n m' (l.set i g):=by
 have hi:i<l.length:=(List.getElem?_eq_some_iff.1 hf).1
 have key:∀ (w:Nat) (x:FR),(l.set i g)[w]? = some x→w<n∧((w=i∧x=g)∨(w≠i∧l[w]? = some x)):=by
  intro w x hx
  have hw:=(List.getElem?_eq_some_iff.1 hx).1
  rw [List.length_set,h.clen] at hw
  refine ⟨hw,?_⟩
  by_cases e:w=i
  ·subst e
   rw [List.getElem?_set_self hi] at hx
   exact .inl ⟨rfl,(Option.some.inj hx).symm⟩
  ·rw [List.getElem?_set_ne (by omega)] at hx
   exact .inr ⟨e,hx⟩
 refine ⟨wm,h.may,h.cn,by rw [len];exact h.len,by rw [List.length_set];exact h.clen,?_,low,par,?_,?_⟩
 ·intro w x hx
  rcases key w x hx with ⟨_,⟨rfl,rfl⟩ | ⟨_,hx⟩⟩
  ·exact hg
  ·exact h.frm w x hx
 ·intro w x hx
  have ho:=T5 (g:=g) hf (w:Int)
  rcases key w x hx with ⟨hw,⟨rfl,rfl⟩ | ⟨e,hx⟩⟩
  ·have h1:=h.sgn w f hf
   have h2:=sg w hw
   rw [if_pos rfl,if_pos rfl] at h2
   omega
  ·have h1:=h.sgn w x hx
   have h2:=sg w hw
   rw [if_neg e,if_neg e] at h2
   omega
 ·intro w x hx hx4
  rcases key w x hx with ⟨hw,⟨rfl,rfl⟩ | ⟨e,hx⟩⟩
  ·exact e4 hx4
  ·exact e5 w hw e (h.end4 w x hx hx4)
section
variable {c:CF} {m:List Int} {i a5 X:Int} (hmay:dl c=true) (hlen:(m.length:Int)=bN c)
include hmay hlen
end
end Go.Ab
set_option linter.unusedVariables false
namespace Go.Ab
structure Adr (c:CF) (j:Int):Prop where
 on:∀ w x,x=0∨x=1→onW c w x≠j
 slot:∀ w x,0≤x→x≤18446744073709551615→rS c w x≠j
 seq:∀ x,nH c x≠j
 val:∀ x,CY c x≠j
 n0:(0:Int)≠j
 n1:(1:Int)≠j
 n3:(3:Int)≠j
 n4:(4:Int)≠j
 n5:(5:Int)≠j
theorem Xd {a b D x y:Int} (hD:D=1∨D=2∨D=4∨D=8∨D=16) (hx:0≤x∧x<3+D) (hy:0≤y∧y<3+D) (h:x≠y):a*(3+D)+x≠b*(3+D)+y:=by
 rcases hD with rfl | rfl | rfl | rfl | rfl <;> omega
theorem aqr {c:CF}:Adr c 2:=by
 refine ⟨fun w x hx => ?_,fun w x h0 h1 => ?_,fun x => ?_,fun x => ?_,by decide,by decide,by decide,by decide,by decide⟩
 ·unfold onW
  split
  ·rename_i h
   have hm:=aC h.1
   have:=dV h.1 h.2.1 (by omega)
   omega
  ·omega
 ·unfold rS onW
  split
  ·rename_i h
   have hm:=aC h.1
   have:=dV h.1 h.2.1 (by omega)
   have:=FN h0 h1 (show 1≤c.2.1 by omega) (by omega)
   omega
  ·omega
 ·unfold nH
  split
  ·rename_i h
   have:=aC h
   have:=Int.emod_nonneg x (show c.2.2.1≠0 by omega)
   omega
  ·omega
 ·unfold CY
  split
  ·rename_i h
   have:=aC h
   have:=Int.emod_nonneg x (show c.2.2.1≠0 by omega)
   omega
  ·omega
theorem apS {c:CF} {v:Int} (hc:dl c=true) (h0:0≤v) (h1:v<c.1):Adr c (f6 c v):=by
 have hp:f6 c v=6+2*c.2.2.1+(v*(3+c.2.1)+2):=by
  unfold f6
  rw [if_pos ⟨hc,h0,h1⟩,AD]
  omega
 have hm:=aC hc
 have ht:=dV hc h0 (by omega)
 rw [hp]
 refine ⟨fun w x hx => ?_,fun w x g0 g1 => ?_,fun x => ?_,fun x => ?_,by omega,by omega,by omega,by omega,by omega⟩
 ·unfold onW
  split
  ·have:=Xd (a:=w) (b:=v) hm.2.2.1 (x:=x) (y:=2) (by omega) (by omega) (by omega)
   unfold AD
   omega
  ·omega
 ·unfold rS onW
  split
  ·have ha:=FN g0 g1 (show 1≤c.2.1 by omega) (by omega)
   have:=Xd (a:=w) (b:=v) hm.2.2.1 (x:=3+AP .u64 x (c.2.1 - 1)) (y:=2) (by omega) (by omega) (by omega)
   unfold AD
   omega
  ·omega
 ·unfold nH
  rw [if_pos hc]
  have a:=Int.emod_lt_of_pos x (show 0<c.2.2.1 by omega)
  have b:0≤v*(3+c.2.1):=ht.2.2.2
  generalize x%c.2.2.1=g at a ⊢
  omega
 ·unfold CY
  rw [if_pos hc]
  have a:=Int.emod_lt_of_pos x (show 0<c.2.2.1 by omega)
  have b:0≤v*(3+c.2.1):=ht.2.2.2
  generalize x%c.2.2.1=g at a ⊢
  omega
section
variable {c:CF} {m:List Int} {f:FR} {j:Int} (hj:Adr c j) (hf:Wf f)
include hj hf
end
section
variable {c:CF} {m:List Int} {f:FR}
end
def pkW (x:WB):Prop:=x.1=8∧3≤x.2.2.1.2.1
def owF (f:FR) (v:Int):Prop:=f.2.1=2∧f.2.2.2.2.2.1=v
def owW (x:WB) (v:Int):Prop:=x.1=14∧owF x.2.2.1 v
def owS (x:SB) (v:Int):Prop:=x.1=4∧owF x.2.2 v
def Fwk (n w:Int) (x:WB):Prop:=
 (x.1=0∨x.1=2∨x.1=3∨x.1=11∨x.1=12→x.2.2.1.1<5)∧(x.1=5→x.2.2.1=Ap 5 w 0) ∧
 (x.1=6∨x.1=7→x.2.2.1.1=5∧x.2.2.1.2.1=1∧x.2.2.1.2.2.1=w∧x.2.2.1.2.2.2.2.2.2=0) ∧
 (x.1=8→x.2.2.1.1=5∧(0≤x.2.2.1.2.1∧x.2.2.1.2.1≤4)∧x.2.2.1.2.2.1=w∧x.2.2.1.2.2.2.2.2.2=0) ∧
 (x.1=14→x.2.2.1.1=6∧(0≤x.2.2.1.2.1∧x.2.2.1.2.1≤2)∧x.2.2.1.2.2.2.2.2.2=0∧(x.2.2.1.2.1=2→x.2.2.1.2.2.2.2.2.1<n))
def Fsb (n:Int) (x:SB):Prop:=
 (x.1=2→x.2.2.1<5)∧(x.1=4→x.2.2.1=6∧(0≤x.2.2.2.1∧x.2.2.2.1≤2)∧x.2.2.2.2.2.2.2.2=0∧(x.2.2.2.1=2→x.2.2.2.2.2.2.2.1<n))
def alY (n:Int) (m:List Int):Prop:=∀ j:Int,n≤j→j<16→uE (ah m 2) j=false
structure Ef (c:CF) (m m':List Int) (pk0 pk1:Prop) (me:Int) (ow0 ow1:Int→Prop):Prop where
 low:alY c.1 m→alY c.1 m'
 bit:∀ v,0≤v→v<c.1→uE (ah m 2) v=true→uE (ah m' 2) v=true∨ow1 v
 par:∀ v,0≤v→v<c.1→ah m (f6 c v)≠0→ah m' (f6 c v)≠0∨v=me∧¬ pk1
 owe:∀ v,0≤v→v<c.1→ow0 v→ow1 v∨ah m' (f6 c v)≠0
 new:pk1→pk0∨uE (ah m' 2) me=true∨ah m' (f6 c me)≠0
section
variable {c:CF} {m m':List Int} {pk0 pk1:Prop} {me:Int} {ow0 ow1:Int→Prop}
theorem Ef.calm (hc:dl c=true) (h:∀ j,Adr c j→ah m' j=ah m j) (ho:∀ v,ow0 v→ow1 v) (hp:pk1→pk0):Ef c m m' pk0 pk1 me ow0 ow1:=by
 have h2:=h 2 aqr
 refine ⟨fun hl j h0 h1=>by rw [h2];exact hl j h0 h1,fun v _ _ hb => .inl (by rw [h2];exact hb),fun v h0 h1 hb => .inl (by rw [h _ (apS hc h0 h1)];exact hb),fun v _ _ hv => .inl (ho v hv),fun h => .inl (hp h)⟩
theorem Ef.same (ho:∀ v,ow0 v→ow1 v) (hp:pk1→pk0):Ef c m m pk0 pk1 me ow0 ow1:=
 ⟨fun hl=>hl,fun v _ _ hb => .inl hb,fun v _ _ hb => .inl hb,fun v _ _ hv => .inl (ho v hv),fun h => .inl (hp h)⟩
end
section
variable {c:CF} {m:List Int} {f:FR} (hc:dl c=true) (hl:(m.length:Int)=bN c) (hm:Wm m) (hf:Wf f)
include hc hl hm hf
end
end Go.Ab
set_option linter.unusedVariables false
namespace Go.Ab
section
variable {n w:Int} {x:WB}
end
theorem Ef.mono {c:CF} {m m':List Int} {p0 p1 q0 q1:Prop} {me:Int} {a0 a1 b0 b1:Int→Prop} (h:Ef c m m' p0 p1 me a0 a1) (h1:q1→p1) (h0:p0→q0) (ha:∀ v,b0 v→a0 v) (hb:∀ v,a1 v→b1 v):Ef c m m' q0 q1 me b0 b1:=
 ⟨h.low,fun v g0 g1 hv=>(h.bit v g0 g1 hv).imp id (hb v),fun v g0 g1 hv=>(h.par v g0 g1 hv).imp id fun e=>⟨e.1,fun q=>e.2 (h1 q)⟩,fun v g0 g1 hv=>(h.owe v g0 g1 (ha v hv)).imp (hb v) id,fun q=>(h.new (h1 q)).imp h0 id⟩
section
variable {c:CF} {t:Tyt} {m:List Int} {w:Int} {x:WB} {d:Int}
end
section
variable {c:CF} {t:Tyt} {m:List Int} {i:Int} {x:SB}
end
def aqE (W:List WB) (S:List SB) (v:Int):Prop:=(∃ y ∈ W,owW y v)∨∃ y ∈ S,owS y v
structure Sgn (p:PB):Prop where
 w:∀ (i:Nat) x,p.2.2.2.1[i]? = some x→Fwk p.1.1 i x
 s:∀ x ∈ p.2.2.2.2,Fsb p.1.1 x
 low:alY p.1.1 p.2.2.1
 sg:∀ (i:Nat) x,p.2.2.2.1[i]? = some x→pkW x→uE (ah p.2.2.1 2) i=true∨ah p.2.2.1 (f6 p.1 i)≠0∨aqE p.2.2.2.1 p.2.2.2.2 i
end Go.Ab
set_option linter.unusedVariables false
set_option linter.unusedSimpArgs false
namespace Go.Ab
theorem Oh (f:FR):iM f=some (Jy f):=by
 obtain ⟨a0,a1,a2,a3,a4,a5,a6⟩:=f
 unfold iM Jy
 simp only [mZ,ab,ej,nM]
 by_cases h1:a0=5
 ·by_cases h2:a6=0
  ·simp [h1,h2]
  ·have:(a6 !=0)=true:=by simp [h2]
   simp [h1,h2,this]
 ·simp [h1]
def ah9 (x:WB):Bool:=decide (x.1=8)&&Jy x.2.2.1
theorem Nq (x:WB):ib x=some (ah9 x):=by
 unfold ib ah9
 try simp only [Prod.eta]
 rw [Oh,ab,nM]
 by_cases h:x.1=8
 ·rw [decide_eq_true h,cond_true,Bool.true_and]
 ·rw [decide_eq_false h,cond_false,Bool.false_and]
end Go.Ab
