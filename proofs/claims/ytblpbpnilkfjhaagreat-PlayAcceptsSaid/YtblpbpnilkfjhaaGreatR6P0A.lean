import Derived.Test.YtblpbpnilkfjhaaGreatAbLibC
import Derived.Test.YtblpbpnilkfjhaaGreatR6G0A
import Derived.WideShapes
set_option linter.unusedVariables false
set_option linter.unusedSimpArgs false
set_option linter.unusedVariables false
namespace Go.Ab
def rV (x:Int×List Int):Bool:=decide (x.1<0)||decide (20<x.1)
def d9:Nat→Tyt→List (Int×Int)
 | _,[]=>[]
 | i,x::r=>x.2.map (fun k=>(k,(i:Int)))++d9 (i+1) r
def Bf (n:Nat) (had:List Bool) (q:Int×Int):Bool:=decide (q.1≤q.2)||decide ((n:Int)≤q.1)||(had[q.1.toNat]?).getD true
abbrev aaM (n:Nat) := { h:List Bool // h.length=n }
def gI (n:Nat) (had:aaM n) (q:Int×Int):Bool×aaM n:=
 if Bf n had.1 q then (false,had) else (true,⟨had.1.set q.1.toNat true,by simp [had.2]⟩)
def JO (n:Nat):aaM n:=⟨List.replicate n false,by simp⟩
def nQ (t:Tyt):Bool:=decide (t.length≤30) && !(t.any rV)&&(Fj (gI t.length) (d9 0 t) (JO t.length)).1
structure Wt (t:Tyt):Prop where
 len:t.length≤9223372036854775807
 kids:∀ x ∈ t,x.2.length≤9223372036854775807
def lh (k:Int) (r:Int) (q:Int×Int):Bool×Int:=if q.1=k then (false,q.2) else (true,r)
def dE (t:Tyt) (k:Int):Int:=
 if nQ t then (if (Fj (lh k) (d9 0 t) 0).1 then -1 else (Fj (lh k) (d9 0 t) 0).2) else -1
def adW (t:Tyt):Bool:=(t.take 41).all (fun x=>decide (x.2.length≤40))&&decide (t.length≤40)
def rT (n:Int):Bool:=(n==1)||(n==2)
def ac0 (n:Int):Bool:=decide (n<0)||decide (3<n)
def FH (s:List Int):Bool := !(s.any rT)
def iT (t:Tyt) (s:List Int):Bool:=nQ t&&(s.length==t.length) && !(s.any ac0)
def CR (t:Tyt) (s:List Int) (kind q:Int):Option Int:=
 let at_:=(s[q.toNat]?).getD 0
 let up:=dE t q
 if kind=0 then (if at_=0∧up<0 then some 1 else none)
 else if kind=1 then (if at_=0∧up<0 then some 0 else none)
 else if kind=3 then (if at_=0∧0≤up∧s[up.toNat]? = some 2 then some 1 else none)
 else if kind=2 then (if at_=1 then some 2 else none)
 else if kind=4 then (if at_=2∧((((t[q.toNat]?).getD (0,[])).2.any fun i=>(idx s i).getD 1==0)=false) then some 3 else none)
 else none
def gE (t:Tyt) (s:List Int) (e:Int×Int×Int):List Int×Bool:=
 if iT t s=false then (s,false)
 else if e.1=5 then (s,FH s)
 else if e.2.1<0∨(t.length:Int)≤e.2.1 then (s,false)
 else match CR t s e.1 e.2.1 with
  | some n=>(s.set e.2.1.toNat n,true)
  | none=>(s,false)
def KO (t:Tyt):List Int:=if nQ t then List.replicate t.length (0:Int) else []
def Gc (t:Tyt):Tye→List Int→List Int×Bool
 | [],s=>(s,true)
 | e::l,s=>if (gE t s e).2=true then Gc t l (gE t s e).1 else ((gE t s e).1,false)
def VZ (t:Tyt) (l:Tye):List Int×Bool:=Gc t l (KO t)
theorem CC {t:Tyt} (h1:nQ t=true):t.length≤30:=by
 unfold nQ at h1
 simp only [Bool.and_eq_true,decide_eq_true_eq] at h1
 exact h1.1.1
theorem C4 {α:Type} {l:List α} {F:Nat→Int→Option Int} (p:α→Bool)
  (h0:∀ n,F (n+1) (l.length:Int)=some (-1))
  (h1:∀ n (i:Nat) x,i<l.length→l[i]? = some x→F (n+1) (i:Int)=bif p x then some (i:Int) else F n ((i+1:Nat):Int))
  (n:Nat) (hn:l.length<n):F n 0=some (Jo p l 0):=by
 have key:∀ r i n,l.drop i=r→i≤l.length→r.length<n→F n (i:Int)=some (Jo p r i):=by
  intro r
  induction r with
  | nil=>
   intro i n hr hi hn
   obtain ⟨n,rfl⟩:=ki hn
   have:i=l.length:=by have:=eb hr;omega
   subst this
   rw [h0]
   rfl
  | cons x r ih=>
   intro i n hr hi hn
   obtain ⟨n,rfl⟩:=ki hn
   obtain ⟨a,b,c,d,e⟩:=cX hr
   rw [h1 n i x a b]
   simp only [Jo]
   cases p x with
   | true=>rfl
   | false=>exact ih (i+1) n c (by omega) (by simp only [List.length_cons] at hn;omega)
 have:=key l 0 n rfl (Nat.zero_le _) hn
 simpa using this
theorem E0 (x y : Int) : (x != y) = !decide (x = y) := by by_cases h : x = y <;> simp [h]
theorem nM (x y:Int):(x==y)=decide (x=y):=by by_cases h:x=y <;> simp [h]
theorem pd {α:Type} (l:List α):decide ((l.length:Int)<(l.length:Int))=false:=decide_eq_false (by omega)
theorem ltN {i n:Nat} (h:i<n):decide ((i:Int)<(n:Int))=true:=decide_eq_true (by omega)
theorem fw {z:Int} (h : -9223372036854775808≤z∧z≤9223372036854775807):IntKind.i64.wrap z=z:=WI h.1 h.2
theorem aiz {α β:Type} {a:List α} {b:List β}:((a.length:Int)==(b.length:Int))=decide (a.length=b.length):=by
 by_cases h:a.length=b.length
 ·simp [h]
 ·have:(a.length:Int)≠(b.length:Int):=by omega
  simp [h,this]
end Go.Ab
set_option linter.unusedVariables false
namespace Go.Ab
open Go
abbrev CF:=Int×Int×Int×Int
abbrev FR:=Int×Int×Int×Int×Int×Int×Int
def dj (c:CF):Bool:=decide (1≤c.1∧c.1≤8∧(c.2.1=1∨c.2.1=2∨c.2.1=4∨c.2.1=8∨c.2.1=16)∧1≤c.2.2.1∧c.2.2.1≤16∧0≤c.2.2.2∧c.2.2.2≤4)
def AK (c:CF) (w:Int):Int:=6+2*c.2.2.1+w*(3+c.2.1)
def bN (c:CF):Int:=if dj c=true then AK c c.1 else 0
def f6 (c:CF) (w:Int):Int:=if dj c=true∧0≤w∧w<c.1 then AK c w+2 else -1
def ah (m:List Int) (i:Int):Int:=if 0≤i then (m[i.toNat]?).getD 0 else 0
def ar (m:List Int) (i v:Int):List Int:=if 0≤i then m.set i.toNat v else m
def uc (m:List Int) (i old new:Int):List Int×Bool:=if 0≤i∧i<m.length∧ah m i=old then (ar m i new,true) else (m,false)
def epB (e:Int):Int:=e/65536
def mkB (e:Int):Int:=e%65536
def uH (x w:Int):Bool:=decide (x/2 ^ w.toNat%2=1)
def Pd (e w:Int):Int:=if 0≤w∧w<16∧uH e w=false then e+2 ^ w.toNat else e
def ew (f:FR):Bool:=f.2.2.2.2.2.2 !=0
def fy (f:FR) (res val:Int):FR:=(f.1,0,f.2.2.1,val,0,0,res)
def uJ (c:CF) (m:List Int) (f:FR) (op pcs:Int):Bool:=dj c&&decide ((m.length:Int)=bN c)&&decide (f.2.2.2.2.2.2=0∧0≤f.2.2.1∧f.2.2.1<c.1∧f.1=op∧0≤f.2.1∧f.2.1<pcs)
def CN (c:CF) (m:List Int) (f:FR):List Int×FR:=
 if uJ c m f 5 5=false then (m,f)
 else if f.2.1=0 then (m,f.1,1,f.2.2.1,f.2.2.2.1,ah m 2,f.2.2.2.2.2)
 else if f.2.1=1 then (if epB (ah m 2)=epB f.2.2.2.2.1 then (m,f.1,2,f.2.2.1,f.2.2.2.1,f.2.2.2.2.1,ah m 2,f.2.2.2.2.2.2) else (m,fy f 4 0))
 else if f.2.1=2 then (let r:=uc m 2 f.2.2.2.2.2.1 (Pd f.2.2.2.2.2.1 f.2.2.1);(r.1,f.1,if r.2=true then 3 else 1,f.2.2))
 else if f.2.1=3 then (let y:=ah m (f6 c f.2.2.1);(m,f.1,if y=0 then 3 else 4,f.2.2.1,f.2.2.2.1,f.2.2.2.2.1,y,f.2.2.2.2.2.2))
 else (ar m (f6 c f.2.2.1) 0,fy f 1 0)
def JR (f:FR):Bool:=decide (f.1=5∧f.2.2.2.2.2.2=0∧f.2.1=3)
structure Wm (m:List Int):Prop where
 len:m.length≤9223372036854775807
 num:∀ x ∈ m,0≤x∧x≤18446744073709551615
theorem mF {z:Int} (h0:0≤z) (h1:z≤18446744073709551615):IntKind.u64.wrap z=z:=by
 simp [IntKind.wrap,IntKind.bits,IntKind.signed]
 omega
theorem VB {a b:Nat} (ha:a<18446744073709551616) (hb:b<18446744073709551616):AS .u64 (a:Int) (b:Int)=((a &&& b:Nat):Int):=by
 unfold AS
 have h:(BitVec.ofInt IntKind.u64.bits (a:Int) &&& BitVec.ofInt IntKind.u64.bits (b:Int)).toNat=a &&& b:=by
  rw [BitVec.toNat_and]
  have e:IntKind.u64.bits=64:=rfl
  rw [e]
  simp only [BitVec.ofInt_natCast,BitVec.toNat_ofNat]
  rw [Nat.mod_eq_of_lt (by omega),Nat.mod_eq_of_lt (by omega)]
 rw [h]
 have:a &&& b≤a:=Nat.and_le_left
 exact mF (by omega) (by omega)
theorem orU {a b:Nat} (ha:a<18446744073709551616) (hb:b<18446744073709551616):orI .u64 (a:Int) (b:Int)=((a ||| b:Nat):Int):=by
 unfold orI
 have h:(BitVec.ofInt IntKind.u64.bits (a:Int) ||| BitVec.ofInt IntKind.u64.bits (b:Int)).toNat=a ||| b:=by
  rw [BitVec.toNat_or]
  have e:IntKind.u64.bits=64:=rfl
  rw [e]
  simp only [BitVec.ofInt_natCast,BitVec.toNat_ofNat]
  rw [Nat.mod_eq_of_lt (by omega),Nat.mod_eq_of_lt (by omega)]
 rw [h]
 have:a ||| b<2 ^ 64:=Nat.or_lt_two_pow (by omega) (by omega)
 exact mF (by omega) (by omega)
theorem XL {e:Int} (h0:0≤e) (h1:e≤18446744073709551615):AS .u64 e 65535=mkB e:=by
 obtain ⟨n,rfl⟩:∃ n:Nat,e=n:=⟨e.toNat,by omega⟩
 have:=VB (a:=n) (b:=65535) (by omega) (by omega)
 have h2:((65535:Nat):Int)=65535:=rfl
 rw [h2] at this
 rw [this,mkB]
 have h3:n &&& 65535=n%65536:=Nat.and_two_pow_sub_one_eq_mod n 16
 rw [h3]
 omega
theorem ado {e w:Int} (h0:0≤e) (hw:0≤w) (hw2:w≤64):XA .u64 e w=e/2 ^ w.toNat:=by
 unfold XA
 have e1:IntKind.u64.bits=64:=rfl
 rw [e1]
 have:min w.toNat 64=w.toNat:=by omega
 rw [this,Int.fdiv_eq_ediv_of_nonneg _ (Int.le_of_lt (Int.pow_pos (by decide)))]
theorem aa1 {e:Int} (h0:0≤e):XA .u64 e 16=epB e:=by
 rw [ado h0 (by decide) (by decide)]
 rfl
theorem aon {x:Int} (h0:0≤x) (h1:x≤18446744073709551615):AS .u64 x 1=x%2:=by
 obtain ⟨n,rfl⟩:∃ n:Nat,x=n:=⟨x.toNat,by omega⟩
 have:=VB (a:=n) (b:=1) (by omega) (by omega)
 have h2:((1:Nat):Int)=1:=rfl
 rw [h2] at this
 rw [this,Nat.and_one_is_mod]
 omega
theorem aa0 {x w:Int} (h0:0≤x) (h1:x≤18446744073709551615):0≤x/2 ^ w.toNat∧x/2 ^ w.toNat≤18446744073709551615:=by
 have hp:(0:Int)<2 ^ w.toNat:=Int.pow_pos (by decide)
 have:=Int.ediv_nonneg h0 (Int.le_of_lt hp)
 have:=Int.ediv_le_self (2 ^ w.toNat) h0
 omega
theorem anK {x w:Int} (h0:0≤x) (h1:x≤18446744073709551615) (hw:0≤w) (hw2:w≤64):(AS .u64 (XA .u64 x w) 1==1)=uH x w:=by
 have:=aa0 (w:=w) h0 h1
 rw [ado h0 hw hw2,aon this.1 this.2,uH,nM]
theorem aj7 {w:Int} (hw:0≤w) (hw2:w<64):Ss .u64 1 w=2 ^ w.toNat:=by
 unfold Ss
 have e1:IntKind.u64.bits=64:=rfl
 rw [e1]
 have:min w.toNat 64=w.toNat:=by omega
 rw [this,Int.one_mul]
 have h1:(2:Nat) ^ w.toNat≤2 ^ 63:=Nat.pow_le_pow_right (by decide) (by omega)
 have h2:((2 ^ w.toNat:Nat):Int)=(2:Int) ^ w.toNat:=by rw [Int.natCast_pow];rfl
 have h3:(0:Int)<2 ^ w.toNat:=Int.pow_pos (by decide)
 exact mF (by omega) (by omega)
theorem adv {e w:Int} (h0:0≤e) (h1:e≤18446744073709551615) (hw:0≤w) (hw2:w<16):orI .u64 e (2 ^ w.toNat)=Pd e w:=by
 obtain ⟨n,rfl⟩:∃ n:Nat,e=n:=⟨e.toNat,by omega⟩
 have hp:(2:Nat) ^ w.toNat≤2 ^ 15:=Nat.pow_le_pow_right (by decide) (by omega)
 have h2:((2 ^ w.toNat:Nat):Int)=(2:Int) ^ w.toNat:=by rw [Int.natCast_pow];rfl
 rw [← h2,orU (by omega) (by omega)]
 have hb:uH (n:Int) w=n.testBit w.toNat:=by
  rw [uH,Nat.testBit_eq_decide_div_mod_eq,← h2]
  have:((n:Int)/((2 ^ w.toNat:Nat):Int))%2=((n/2 ^ w.toNat%2:Nat):Int):=by rw [Int.natCast_emod,Int.natCast_ediv];rfl
  rw [this]
  congr 1
  apply propext
  omega
 unfold Pd
 cases ht:n.testBit w.toNat with
 | true=>
  rw [hb,ht,if_neg (by simp)]
  congr 1
  apply Nat.eq_of_testBit_eq
  intro i
  rw [Nat.testBit_or,Nat.testBit_two_pow]
  by_cases hi:w.toNat=i
  ·subst hi;simp [ht]
  ·simp [hi]
 | false=>
  rw [hb,ht,if_pos ⟨hw,hw2,rfl⟩,← h2]
  have h3:(BitVec.ofNat 80 n) &&& (BitVec.ofNat 80 (2 ^ w.toNat))=0#80:=by
   apply BitVec.eq_of_toNat_eq
   rw [BitVec.toNat_and]
   simp only [BitVec.toNat_ofNat]
   rw [Nat.mod_eq_of_lt (by omega),Nat.mod_eq_of_lt (by omega),Nat.zero_mod]
   apply Nat.eq_of_testBit_eq
   intro i
   rw [Nat.testBit_and,Nat.testBit_two_pow,Nat.zero_testBit]
   by_cases hi:w.toNat=i
   ·subst hi;simp [ht]
   ·simp [hi]
  have h4:=congrArg BitVec.toNat (BitVec.add_eq_or_of_and_eq_zero _ _ h3)
  rw [BitVec.toNat_add,BitVec.toNat_or] at h4
  simp only [BitVec.toNat_ofNat] at h4
  rw [Nat.mod_eq_of_lt (show n<2 ^ 80 by omega),Nat.mod_eq_of_lt (show 2 ^ w.toNat<2 ^ 80 by omega),Nat.mod_eq_of_lt (show n+2 ^ w.toNat<2 ^ 80 by omega)] at h4
  rw [← h4]
  omega
theorem cC {m:List Int} (hm:Wm m) (i:Int):0≤ah m i∧ah m i≤18446744073709551615:=by
 unfold ah
 split
 ·cases h:m[i.toNat]? with
  | none=>simp
  | some x=>exact hm.num x (List.mem_of_getElem? h)
 ·omega
theorem Y5 {e w:Int} (h0:0≤e) (h1:e≤18446744073709551615):0≤Pd e w∧Pd e w≤18446744073709551615:=by
 unfold Pd
 split
 ·rename_i h
  have hs:=adv h0 h1 h.1 h.2.1
  unfold Pd at hs
  rw [if_pos h] at hs
  rw [← hs]
  obtain ⟨n,rfl⟩:∃ n:Nat,e=n:=⟨e.toNat,by omega⟩
  have hp:(2:Nat) ^ w.toNat≤2 ^ 15:=Nat.pow_le_pow_right (by decide) (by omega)
  have h2:((2 ^ w.toNat:Nat):Int)=(2:Int) ^ w.toNat:=by rw [Int.natCast_pow];rfl
  rw [← h2,orU (by omega) (by omega)]
  have:n ||| 2 ^ w.toNat<2 ^ 64:=Nat.or_lt_two_pow (by omega) (by omega)
  omega
 ·omega
end Go.Ab
set_option maxRecDepth 100000
set_option linter.unusedVariables false
namespace Go.Ab
theorem aC {c:CF} (h:dj c=true):1≤c.1∧c.1≤8∧(c.2.1=1∨c.2.1=2∨c.2.1=4∨c.2.1=8∨c.2.1=16)∧1≤c.2.2.1∧c.2.2.1≤16∧0≤c.2.2.2∧c.2.2.2≤4:=by
 unfold dj at h
 exact of_decide_eq_true h
theorem dX {c:CF} (h:dj c=true) {w:Int} (h0:0≤w) (h1:w≤8):8≤AK c w∧AK c w≤190∧w*(3+c.2.1)≤152∧0≤w*(3+c.2.1):=by
 obtain ⟨_,_,hD,_,_,_,_⟩:=aC h
 have a:0≤w*(3+c.2.1):=Int.mul_nonneg h0 (by omega)
 have b:w*(3+c.2.1)≤8*19:=Int.mul_le_mul h1 (by omega) (by omega) (by omega)
 unfold AK
 omega
theorem abE (a b c:Int):ft a b c=some (decide (b≤a∧a≤c)):=by
 unfold ft
 by_cases h:b≤a
 ·simp [h]
 ·simp [h]
theorem ak3 {D:Int} (h1:1≤D) (h2:D≤16):(AS IntKind.i64 D (IntKind.i64.wrap (D - 1))==0)=decide (D=1∨D=2∨D=4∨D=8∨D=16):=by
 have:D=1∨D=2∨D=3∨D=4∨D=5∨D=6∨D=7∨D=8∨D=9∨D=10∨D=11∨D=12∨D=13∨D=14∨D=15∨D=16:=by omega
 rcases this with rfl | rfl | rfl | rfl | rfl | rfl | rfl | rfl | rfl | rfl | rfl | rfl | rfl | rfl | rfl | rfl <;> decide +kernel
theorem iM (c:CF):b9 c=some (dj c):=by
 obtain ⟨W,D,I,S⟩:=c
 unfold b9 dj
 simp only [abE,ab]
 by_cases h1:1≤W∧W≤8
 ·rw [decide_eq_true h1,cond_true]
  by_cases h2:1≤D∧D≤16
  ·rw [decide_eq_true h2,cond_true,ak3 h2.1 h2.2]
   by_cases h3:D=1∨D=2∨D=4∨D=8∨D=16
   ·rw [decide_eq_true h3,cond_true]
    by_cases h4:1≤I∧I≤16
    ·rw [decide_eq_true h4,cond_true]
     congr 1
     apply decide_eq_decide.2
     omega
    ·rw [decide_eq_false h4,cond_false]
     symm
     congr 1
     apply decide_eq_false
     omega
   ·rw [decide_eq_false h3,cond_false]
    symm
    congr 1
    apply decide_eq_false
    omega
  ·rw [decide_eq_false h2,cond_false]
   symm
   congr 1
   apply decide_eq_false
   omega
 ·rw [decide_eq_false h1,cond_false]
  symm
  congr 1
  apply decide_eq_false
  omega
theorem Gg {c:CF} (h:dj c=true) {w:Int} (h0:0≤w) (h1:w≤8):fZ c w=some (AK c w):=by
 have ht:=dX h h0 h1
 have hm:=aC h
 obtain ⟨W,D,I,S⟩:=c
 simp only [AK] at ht hm ⊢
 unfold fZ
 simp only
 rw [fw (z:=2*I) (by omega),fw (z:=6+2*I) (by omega),fw (z:=3+D) (by omega),fw (z:=w*(3+D)) (by omega),fw (by omega)]
theorem D7 (c:CF):ef c=some (bN c):=by
 unfold ef bN
 try simp only [Prod.eta]
 rw [iM,ab]
 cases h:dj c with
 | false=>rfl
 | true=>
  have hm:=aC h
  rw [Bool.not_true,cond_false,if_pos rfl,Gg h (by omega) (by omega),ab]
theorem m7 (f:FR):aM f=some (ew f):=rfl
theorem lC (f:FR) (r v:Int):aU f r v=some (fy f r v):=rfl
theorem Ly (c : CF) (m : List Int) (f : FR) (op pcs : Int) : fM c m f op pcs = some (uJ c m f op pcs) := by
  obtain ⟨a0, a1, a2, a3, a4, a5, a6⟩ := f
  unfold fM uJ
  try simp only [Prod.eta]
  rw [iM, ab]
  cases h : dj c with
  | false => rfl
  | true =>
    rw [cond_true, D7, ab, nM]
    by_cases h1 : (m.length : Int) = bN c
    · rw [decide_eq_true h1, cond_true, m7, ab, ew]
      simp only
      by_cases h2 : a6 = 0
      · subst h2
        have e : (!((0 : Int) != 0)) = true := rfl
        rw [e, cond_true]
        by_cases h3 : 0 ≤ a2
        · rw [leT h3, cond_true]
          by_cases h4 : a2 < c.1
          · rw [ltT h4, cond_true, nM]
            by_cases h5 : a0 = op
            · rw [decide_eq_true h5, cond_true]
              by_cases h6 : 0 ≤ a1
              · rw [leT h6, cond_true]
                simp [h3, h4, h5, h6]
              · rw [leF (by omega), cond_false]
                simp [h6]
            · rw [decide_eq_false h5, cond_false]
              simp [h5]
          · rw [ltF (by omega), cond_false]
            simp [h4]
        · rw [leF (by omega), cond_false]
          simp [h3]
      · have e : (!(a6 != 0)) = false := by simp [h2]
        rw [e, cond_false]
        simp [h2]
    · rw [decide_eq_false h1, cond_false]
      simp
theorem Lx (c:CF) (w:Int):fX c w=some (f6 c w):=by
 unfold fX f6
 try simp only [Prod.eta]
 rw [iM,ab]
 cases h:dj c with
 | false=>simp
 | true=>
  have hm:=aC h
  rw [Bool.not_true,cond_false,fw (by omega),abE,ab]
  by_cases h1:0≤w∧w≤c.1 - 1
  ·have ht:=dX h h1.1 (by omega)
   rw [decide_eq_true h1,Bool.not_true,cond_false,Gg h (by omega) (by omega),ab,fw (by omega),if_pos ⟨rfl,by omega,by omega⟩]
  ·rw [decide_eq_false h1,Bool.not_false,cond_true,if_neg (by omega)]
theorem aib (m:List Int) (i:Int):kF m i=some (decide (0≤i∧i<m.length)):=by
 unfold kF
 by_cases h:0≤i
 ·simp [h]
 ·simp [h]
theorem oi {m:List Int} {i:Int} (h:0≤i∧i<m.length):idx m i=some (ah m i)∧m[i.toNat]? = some (ah m i):=by
 have h2:i.toNat<m.length:=by omega
 rw [idx,if_pos h.1,ah,if_pos h.1,List.getElem?_eq_getElem h2]
 exact ⟨rfl,rfl⟩
theorem Uq {m:List Int} {i:Int} (h:¬ (0≤i∧i<m.length)):ah m i=0:=by
 unfold ah
 split
 ·rw [List.getElem?_eq_none (by omega)]
  rfl
 ·rfl
theorem Qu {m:List Int} {i v:Int} (h:¬ (0≤i∧i<m.length)):ar m i v=m:=by
 unfold ar
 split
 ·rw [List.set_eq_of_length_le (by omega)]
 ·rfl
theorem kH {m:List Int} {i v:Int}:(ar m i v).length=m.length:=by
 unfold ar
 split <;> simp
theorem Wm.set {m:List Int} (h:Wm m) (i:Int) {v:Int} (h0:0≤v) (h1:v≤18446744073709551615):Wm (ar m i v):=by
 refine ⟨by rw [kH];exact h.len,fun x hx => ?_⟩
 unfold ar at hx
 split at hx
 ·rcases List.mem_or_eq_of_mem_set hx with hx | rfl
  ·exact h.num x hx
  ·exact ⟨h0,h1⟩
 ·exact h.num x hx
theorem Wm.cas {m:List Int} (h:Wm m) (i o:Int) {v:Int} (h0:0≤v) (h1:v≤18446744073709551615):Wm (uc m i o v).1:=by
 unfold uc
 split
 ·exact h.set i h0 h1
 ·exact h
theorem ff (m:List Int) (i:Int):aJ m i=some (ah m i):=by
 unfold aJ
 rw [aib,ab]
 by_cases h:0≤i∧i<m.length
 ·rw [decide_eq_true h,Bool.not_true,cond_false,(oi h).1,ab]
 ·rw [decide_eq_false h,Bool.not_false,cond_true,Uq h]
theorem bH {α:Type} {b:Nat} {l:List α} (h:l.length*b≤70368744177664):aN b l=some l:=by
 unfold aN
 have:Nat.ble (l.length*b) 70368744177664=true:=Nat.ble_eq_true_of_le h
 rw [this,bC]
section
variable {m:List Int} (hl:m.length≤1000)
include hl
theorem mh (i v:Int):bB m i v=some (ar m i v):=by
 unfold bB
 rw [bH (by omega),ab,aib,ab]
 by_cases h:0≤i∧i<m.length
 ·rw [decide_eq_true h,Bool.not_true,cond_false,(oi h).1,ab,decide_eq_true (by omega),cond_true,(oi h).2,ab,ab,ar,if_pos h.1]
 ·rw [decide_eq_false h,Bool.not_false,cond_true,Qu h]
theorem Kr (i o v:Int):dJ m i o v=some (uc m i o v):=by
 unfold dJ uc
 rw [bH (by omega),ab,aib,ab]
 by_cases h:0≤i∧i<m.length
 ·rw [decide_eq_true h,Bool.not_true,cond_false,(oi h).1,ab,E0]
  by_cases h2:ah m i=o
  ·rw [decide_eq_true h2,Bool.not_true,cond_false,decide_eq_true (by omega),cond_true,(oi h).2,ab,ab,if_pos ⟨h.1,h.2,h2⟩,ar,if_pos h.1]
  ·rw [decide_eq_false h2,Bool.not_false,cond_true,decide_eq_true (by omega),cond_true,(oi h).2,ab,ab,if_neg (fun hh=>h2 hh.2.2)]
   have:=(oi h).2
   rw [List.getElem?_eq_some_iff] at this
   obtain ⟨h3,h4⟩:=this
   rw [← h4,List.set_getElem_self]
 ·rw [decide_eq_false h,Bool.not_false,cond_true,if_neg (fun hh=>h ⟨hh.1,hh.2.1⟩)]
end
theorem amA {e w:Int} (h0:0≤e) (h1:e≤18446744073709551615):nL e w=some (Pd e w):=by
 unfold nL
 by_cases h2:w<0
 ·rw [ltT h2,cond_true,Pd,if_neg (by omega)]
 ·rw [ltF (by omega),cond_false]
  by_cases h3:16≤w
  ·rw [leT h3,cond_true,Pd,if_neg (by omega)]
  ·rw [leF (by omega),cond_false,leT (by omega),cond_true,aj7 (by omega) (by omega),adv h0 h1 (by omega) (by omega)]
theorem EN {e:Int} (h0:0≤e):eH e=some (epB e):=by
 unfold eH
 rw [aa1 h0]
theorem Dw {e:Int} (h0:0≤e) (h1:e≤18446744073709551615):dp e=some (mkB e):=by
 unfold dp
 rw [XL h0 h1]
def Wf (f:FR):Prop:=(0≤f.2.2.2.1∧f.2.2.2.1≤18446744073709551615)∧(0≤f.2.2.2.2.1∧f.2.2.2.2.1≤18446744073709551615)∧(0≤f.2.2.2.2.2.1∧f.2.2.2.2.2.1≤18446744073709551615)
theorem FT {c:CF} {m:List Int} {f:FR} {op pcs:Int} (h:uJ c m f op pcs=true):dj c=true∧(m.length:Int)=bN c∧f.2.2.2.2.2.2=0∧0≤f.2.2.1∧f.2.2.1<c.1∧f.1=op∧0≤f.2.1∧f.2.1<pcs:=by
 unfold uJ at h
 rw [Bool.and_eq_true,Bool.and_eq_true,decide_eq_true_eq,decide_eq_true_eq] at h
 exact ⟨h.1.1,h.1.2,h.2⟩
theorem abf (c:CF) {m:List Int} (hm:Wm m) (hl:m.length≤1000) {f:FR} (hf:Wf f):mr c m f=some (CN c m f):=by
 have hr:=cC hm 2
 unfold mr CN
 try simp only [Prod.eta]
 rw [bH (by omega),ab,Ly,ab]
 cases h:uJ c m f 5 5 with
 | false=>rfl
 | true=>
  obtain ⟨_,_,h6,h2,h2',h0,h1,h1'⟩:=FT h
  rw [cond_true,if_neg (by simp)]
  obtain ⟨a0,a1,a2,a3,a4,a5,a6⟩:=f
  simp only at h6 h2 h2' h0 h1 h1' ⊢
  have e:decide (0≤a1∧a1.toNat<5)=true:=by rw [decide_eq_true_eq];omega
  rw [e,cond_true]
  obtain ⟨_,w4,w5⟩:=hf
  simp only at w4 w5
  have hp:a1=0∨a1=1∨a1=2∨a1=3∨a1=4:=by omega
  rcases hp with rfl | rfl | rfl | rfl | rfl
  ·simp [ff,ab]
  ·simp only [ff,ab,EN hr.1,EN w4.1,E0,lC]
   by_cases h5:epB (ah m 2)=epB a4
   ·simp [h5]
   ·simp [h5,fy]
  ·simp only [amA w5.1 w5.2,ab,Kr hl]
   cases hc:(uc m 2 a5 (Pd a5 a2)).2 <;> simp [hc]
  ·simp only [Lx,ff,ab,E0]
   by_cases h5:ah m (f6 c a2)=0
   ·simp [h5]
   ·simp [h5]
  ·simp only [Lx,ab,mh hl,lC]
   simp [fy]
end Go.Ab
set_option linter.unusedVariables false
namespace Go.Ab
theorem ee {m:List Int} {i:Int} (v:Int) (h0:0≤i) (h1:i<m.length):ah (ar m i v) i=v:=by
 unfold ah ar
 rw [if_pos h0,if_pos h0,List.getElem?_set_self (by omega)]
 rfl
theorem aE {m:List Int} {i j:Int} (v:Int) (h:i≠j):ah (ar m i v) j=ah m j:=by
 unfold ah ar
 by_cases h0:0≤i
 ·by_cases h1:0≤j
  ·rw [if_pos h1,if_pos h0,List.getElem?_set_ne (by omega),if_pos h1]
  ·rw [if_neg h1,if_neg h1]
 ·rw [if_neg h0]
structure OkB (c:CF) (m:List Int) (w:Int):Prop where
 may:dj c=true
 len:(m.length:Int)=bN c
 low:0≤w
 high:w<c.1
theorem OkB.size {c:CF} {m:List Int} {w:Int} (h:OkB c m w):(m.length:Int)=AK c c.1∧12≤m.length∧m.length≤190:=by
 have hm:=aC h.may
 have ht:=dX h.may (w:=c.1) (by omega) (by omega)
 have hl:=h.len
 rw [bN,if_pos h.may] at hl
 obtain ⟨W,D,I,S⟩:=c
 simp only [AK] at *
 have:1*(3+D)≤W*(3+D):=Int.mul_le_mul_of_nonneg_right (by omega) (by omega)
 omega
theorem OkB.park {c:CF} {m:List Int} {w:Int} (h:OkB c m w):f6 c w=AK c w+2∧2<f6 c w∧f6 c w<m.length:=by
 have hm:=aC h.may
 have hs:=h.size
 have hl:=h.low
 have hh:=h.high
 have e:f6 c w=AK c w+2:=by rw [f6,if_pos ⟨h.may,h.low,h.high⟩]
 have ht:=dX h.may hl (by omega)
 rw [e]
 obtain ⟨W,D,I,S⟩:=c
 simp only [AK] at *
 have h2:(w+1)*(3+D)≤W*(3+D):=Int.mul_le_mul_of_nonneg_right (by omega) (by omega)
 have h3:(w+1)*(3+D)=w*(3+D)+(3+D):=by rw [Int.add_mul,Int.one_mul]
 exact ⟨trivial,by omega,by omega⟩
theorem OkB.store {c:CF} {m:List Int} {w:Int} (h:OkB c m w) (i v:Int):OkB c (ar m i v) w:=⟨h.may,by rw [kH];exact h.len,h.low,h.high⟩
section
variable {c:CF} {m:List Int} {w a3 a4 a5:Int} (h:OkB c m w)
include h
end
theorem ZO (n:Nat) {w:Int} (hw:0≤w):uH (n:Int) w=n.testBit w.toNat:=by
 have h2:((2 ^ w.toNat:Nat):Int)=(2:Int) ^ w.toNat:=by rw [Int.natCast_pow];rfl
 rw [uH,Nat.testBit_eq_decide_div_mod_eq,← h2]
 have:((n:Int)/((2 ^ w.toNat:Nat):Int))%2=((n/2 ^ w.toNat%2:Nat):Int):=by rw [Int.natCast_emod,Int.natCast_ediv];rfl
 rw [this]
 congr 1
 apply propext
 omega
theorem abo (op w:Int):aK op w 0=some (op,0,w,0,0,0,0):=rfl
theorem wf0 {op pc w:Int} {r:Int}:Wf (op,pc,w,0,0,0,r):=by simp [Wf]
end Go.Ab
set_option linter.unusedVariables false
namespace Go.Ab
def HC (e m:Int):Int:=e%281474976710656*65536+m%65536
def Si (x:Int):Nat→Nat→Int
 | _,0 => -1
 | i,d+1=>if uH x i=true then (i:Int) else Si x (i+1) d
def Ip (x:Int):Int:=Si x 0 16
def Wx (x:Int):Int:=if Ip x<0 then 0 else x - 2 ^ (Ip x).toNat
def aae (x:Int):Int:=HC (epB x+1) (Wx (mkB x))
def Zm (x:Int):Int:=HC (epB x+1) 0
def NJ (c:CF) (m:List Int) (w:Int):List Int:=ar m (f6 c w) 1
def Hk (c:CF) (m:List Int) (f:FR):Bool:=decide (f.1=6∨f.1=7)&&dj c&&decide ((m.length:Int)=bN c)&&decide (f.2.2.2.2.2.2=0∧0≤f.2.1∧f.2.1≤2)
def AA (c:CF) (m:List Int) (f:FR):List Int×FR:=
 if Hk c m f=false then (m,f)
 else if f.2.1=0 then (m,f.1,1,f.2.2.1,f.2.2.2.1,ah m 2,f.2.2.2.2.2)
 else if f.2.1=1 then
  (if ah m 2=f.2.2.2.2.1 then
   (ar m 2 (if f.1=6 then aae f.2.2.2.2.1 else Zm f.2.2.2.2.1),
    if mkB f.2.2.2.2.1=0 then fy f 3 0 else (f.1,2,f.2.2.1,f.2.2.2.1,f.2.2.2.2.1,(if f.1=6 then (if Ip (mkB f.2.2.2.2.1)<0 then 0 else Ip (mkB f.2.2.2.2.1)) else mkB f.2.2.2.2.1),f.2.2.2.2.2.2))
  else (m,f.1,0,f.2.2))
 else if f.1=6 then (NJ c m (if f.2.2.2.2.2.1<8 then f.2.2.2.2.2.1 else -1),fy f 1 f.2.2.2.2.2.1)
 else (NJ c m (Ip f.2.2.2.2.2.1),if Wx (mkB f.2.2.2.2.2.1)=0 then fy f 1 (mkB f.2.2.2.2.1) else (f.1,2,f.2.2.1,f.2.2.2.1,f.2.2.2.2.1,Wx (mkB f.2.2.2.2.2.1),f.2.2.2.2.2.2))
def Vo (f:FR) (w:Int):Bool := !(ew f)&&decide (f.2.1=2∧0≤w∧w<16)&&(decide (f.1=6∧f.2.2.2.2.2.1=w)||(decide (f.1=7)&&uH f.2.2.2.2.2.1 w))
theorem DT (x:Int):∀ (d i:Nat),(Si x i d = -1∧∀ j:Nat,i≤j→j<i+d→uH x j=false)∨(∃ j:Nat,Si x i d=j∧i≤j∧j<i+d∧uH x j=true∧∀ l:Nat,i≤l→l<j→uH x l=false)
 | 0,i => .inl ⟨rfl,fun j h1 h2=>by omega⟩
 | d+1,i=>by
  by_cases h:uH x i=true
  ·exact .inr ⟨i,by rw [Si,if_pos h],by omega,by omega,h,fun l h1 h2=>by omega⟩
  ·have e:Si x i (d+1)=Si x (i+1) d:=by rw [Si,if_neg h]
   rw [e]
   rcases DT x d (i+1) with ⟨h1,h2⟩ | ⟨j,h1,h2,h3,h4,h5⟩
   ·refine .inl ⟨h1,fun j h3 h4 => ?_⟩
    by_cases e2:i=j
    ·subst e2;simpa using h
    ·exact h2 j (by omega) (by omega)
   ·refine .inr ⟨j,h1,by omega,by omega,h4,fun l h6 h7 => ?_⟩
    by_cases e2:i=l
    ·subst e2;simpa using h
    ·exact h5 l (by omega) h7
theorem Hi (x:Int):(Ip x = -1∧∀ j:Nat,j<16→uH x j=false)∨(∃ j:Nat,Ip x=j∧j<16∧uH x j=true∧∀ l:Nat,l<j→uH x l=false):=by
 rcases DT x 16 0 with ⟨h1,h2⟩ | ⟨j,h1,h2,h3,h4,h5⟩
 ·exact .inl ⟨h1,fun j h=>h2 j (by omega) (by omega)⟩
 ·exact .inr ⟨j,h1,by omega,h4,fun l h=>h5 l (by omega) h⟩
theorem aaX {a w:Nat}:(2 ^ (w+1)*a+2 ^ w) &&& (2 ^ (w+1)*a+(2 ^ w - 1))=2 ^ (w+1)*a:=by
 have hp:0<2 ^ w:=Nat.pow_pos (by decide)
 have hs:2 ^ (w+1)=2*2 ^ w:=by rw [Nat.pow_succ,Nat.mul_comm]
 apply Nat.eq_of_testBit_eq
 intro j
 have e0:2 ^ (w+1)*a=2 ^ (w+1)*a+0:=rfl
 rw [Nat.testBit_and,Nat.testBit_two_pow_mul_add a (by omega),Nat.testBit_two_pow_mul_add a (by omega),e0,Nat.testBit_two_pow_mul_add a (by omega)]
 by_cases h:j<w+1
 ·rw [if_pos h,if_pos h,if_pos h,Nat.testBit_two_pow,Nat.testBit_two_pow_sub_one,Nat.zero_testBit]
  by_cases h2:w=j
  ·subst h2;simp
  ·simp [h2]
 ·rw [if_neg h,if_neg h,if_neg h,Bool.and_self]
theorem Ig {x:Int} (h0:0≤x) (h1:x<65536):(x=0∧Ip x = -1)∨(∃ a w:Nat,x=((2 ^ (w+1)*a+2 ^ w:Nat):Int)∧Ip x=w∧w<16):=by
 obtain ⟨n,rfl⟩:∃ n:Nat,x=n:=⟨x.toNat,by omega⟩
 have hb:∀ j:Nat,uH (n:Int) (j:Int)=n.testBit j:=fun j=>ZO n (by omega)
 rcases Hi (n:Int) with ⟨h2,h3⟩ | ⟨w,h2,h3,h4,h5⟩
 ·refine .inl ⟨?_,h2⟩
  have:n=0:=by
   apply Nat.eq_of_testBit_eq
   intro j
   rw [Nat.zero_testBit]
   by_cases hj:j<16
   ·rw [← hb];exact h3 j hj
   ·exact Nat.testBit_lt_two_pow (Nat.lt_of_lt_of_le (show n<2 ^ 16 by omega) (Nat.pow_le_pow_right (by decide) (by omega)))
  omega
 ·refine .inr ⟨n/2 ^ (w+1),w,?_,h2,h3⟩
  congr 1
  have hm:n%2 ^ (w+1)=2 ^ w:=by
   apply Nat.eq_of_testBit_eq
   intro j
   rw [Nat.testBit_mod_two_pow,Nat.testBit_two_pow]
   by_cases hj:j<w
   ·have:=h5 j hj
    rw [hb] at this
    have h6:¬ w=j:=by omega
    simp [this,h6]
   ·by_cases hj2:w=j
    ·subst hj2
     rw [hb] at h4
     simp [h4]
    ·have h6:¬ j<w+1:=by omega
     simp [h6,hj2]
  have:=Nat.div_add_mod n (2 ^ (w+1))
  omega
theorem afF {x:Int} (h0:0≤x) (h1:x<65536):AS .u64 x (IntKind.u64.wrap (x - 1))=Wx x:=by
 unfold Wx
 rcases Ig h0 h1 with ⟨rfl,h2⟩ | ⟨a,w,rfl,h2,h3⟩
 ·rw [h2]
  decide +kernel
 ·have hp:0<2 ^ w:=Nat.pow_pos (by decide)
  have e:((2 ^ (w+1)*a+2 ^ w:Nat):Int) - 1=((2 ^ (w+1)*a+(2 ^ w - 1):Nat):Int):=by
   generalize 2 ^ (w+1)*a=y
   generalize 2 ^ w=z at hp
   omega
  rw [h2,if_neg (by omega),Int.toNat_natCast,e]
  have hlt:2 ^ (w+1)*a+2 ^ w<65536:=by omega
  rw [mF (by omega) (by generalize 2 ^ (w+1)*a=y at hlt ⊢;generalize 2 ^ w=z at hlt ⊢;omega),VB (by omega) (by generalize 2 ^ (w+1)*a=y at hlt ⊢;generalize 2 ^ w=z at hlt ⊢;omega),aaX]
  have hw:((2 ^ w:Nat):Int)=(2:Int) ^ w:=by rw [Int.natCast_pow];rfl
  rw [← hw]
  generalize 2 ^ (w+1)*a=y
  generalize (2:Nat) ^ w=z
  omega
theorem Qh {x:Int} (h0:0≤x) (h1:x<65536):0≤Wx x∧Wx x≤x:=by
 unfold Wx
 rcases Ig h0 h1 with ⟨rfl,h2⟩ | ⟨a,w,rfl,h2,h3⟩
 ·rw [h2];decide
 ·rw [h2,if_neg (by omega),Int.toNat_natCast]
  have hw:((2 ^ w:Nat):Int)=(2:Int) ^ w:=by rw [Int.natCast_pow];rfl
  rw [← hw]
  generalize 2 ^ (w+1)*a=y
  generalize (2:Nat) ^ w=z
  omega
theorem aej {e m:Int} (h0:0≤e) (m0:0≤m) (m1:m≤18446744073709551615):orI .u64 (Ss .u64 e 16) (AS .u64 m 65535)=HC e m:=by
 rw [XL m0 m1]
 have hs:Ss .u64 e 16=((2 ^ 16*(e.toNat%281474976710656):Nat):Int):=by
  unfold Ss
  have e1:min (16:Int).toNat IntKind.u64.bits=16:=by decide
  rw [e1]
  simp [IntKind.wrap,IntKind.bits,IntKind.signed]
  omega
 have hm:mkB m=((m.toNat%65536:Nat):Int):=by unfold mkB;omega
 rw [hs,hm,orU (by omega) (by omega),← Nat.two_pow_add_eq_or_of_lt (by omega),HC]
 omega
end Go.Ab
set_option linter.unusedVariables false
namespace Go.Ab
theorem Do (c : CF) (m : List Int) (a1 a6 : Int) : (bif dj c then bif decide ((m.length : Int) = bN c) then bif !(a6 != 0) then bif decide (0 ≤ a1) then some (decide (a1 ≤ 2)) else some false else some false else some false else some false)
    = some (dj c && decide ((m.length : Int) = bN c) && decide (a6 = 0 ∧ 0 ≤ a1 ∧ a1 ≤ 2)) := by
  cases dj c with
  | false => rfl
  | true =>
    rw [cond_true]
    by_cases h1 : (m.length : Int) = bN c
    · rw [decide_eq_true h1, cond_true]
      by_cases h2 : a6 = 0
      · by_cases h3 : 0 ≤ a1
        · simp [h2, h3]
        · simp [h2, h3]
      · have : (a6 != 0) = true := by simp [h2]
        simp [h2, this]
    · rw [decide_eq_false h1]
      rfl
theorem XU (c:CF) (m:List Int) (f:FR):mA c m f=some (Hk c m f):=by
 obtain ⟨a0,a1,a2,a3,a4,a5,a6⟩:=f
 unfold mA Hk
 simp only [Prod.eta,nM,iM,D7,m7,ab,ew]
 by_cases h1:a0=6
 ·rw [decide_eq_true h1,cond_true,Do,decide_eq_true (show a0=6∨a0=7 from .inl h1),Bool.true_and]
 ·rw [decide_eq_false h1,cond_false]
  by_cases h2:a0=7
  ·rw [decide_eq_true h2,cond_true,Do,decide_eq_true (show a0=6∨a0=7 from .inr h2),Bool.true_and]
  ·rw [decide_eq_false h2,cond_false,decide_eq_false (by omega)]
   rfl
theorem Lk {e:Int} (h0:0≤e):0≤mkB e∧mkB e<65536:=by unfold mkB;omega
theorem WJ {e:Int} (h0:0≤e) (h1:e≤18446744073709551615):0≤epB e∧epB e≤281474976710655:=by unfold epB;omega
theorem W9 {e m:Int} (h0:0≤e) (m0:0≤m) (m1:m≤18446744073709551615):iX e m=some (HC e m):=by
 unfold iX
 rw [aej h0 m0 m1]
theorem AO (e m:Int):0≤HC e m∧HC e m≤18446744073709551615:=by unfold HC;omega
theorem R9 (x:Int) : -1≤Ip x∧Ip x<16:=by
 rcases Hi x with ⟨h,_⟩ | ⟨j,h,h2,_⟩ <;> omega
theorem LN {k:Nat} (hk:100≤k) {x:Int} (h0:0≤x) (h1:x≤18446744073709551615):gW k x=some (Ip x):=by
 have key:∀ (d i n:Nat),i+d=16→d<n→cT k x n (i:Int)=some (Si x i d):=by
  intro d
  induction d with
  | zero=>
   intro i n hi hn
   obtain ⟨n,rfl⟩:=ki hn
   rw [cT,ltF (by omega),cond_false]
   rfl
  | succ d ih=>
   intro i n hi hn
   obtain ⟨n,rfl⟩:=ki hn
   rw [cT,ltT (by omega),cond_true,leT (by omega),cond_true,anK h0 h1 (by omega) (by omega),Si]
   cases hb:uH x i with
   | true=>rw [cond_true,if_pos rfl]
   | false=>rw [cond_false,if_neg (by simp),ga (by omega),ih (i+1) n (by omega) (by omega)]
 exact key 16 0 (k+9) rfl (by omega)
theorem aeo {k:Nat} (hk:100≤k) {e:Int} (h0:0≤e) (h1:e≤18446744073709551615):mj k e=some (aae e,Ip (mkB e)):=by
 have hm:=Lk h0
 have he:=WJ h0 h1
 have hc:=Qh hm.1 hm.2
 unfold mj
 rw [Dw h0 h1,ab,EN h0,ab,mF (z:=epB e+1) (by omega) (by omega),afF hm.1 hm.2,W9 (by omega) hc.1 (by omega),ab,LN hk hm.1 (by omega),ab]
 rfl
theorem agJ {e:Int} (h0:0≤e) (h1:e≤18446744073709551615):mu e=some (Zm e):=by
 have he:=WJ h0 h1
 unfold mu
 rw [EN h0,ab,mF (z:=epB e+1) (by omega) (by omega),W9 (by omega) (by decide) (by decide),ab]
 rfl
theorem SI {k:Nat} (hk:100≤k) {e:Int} (h0:0≤e) (h1:e≤18446744073709551615):gl k e=some (aae e,if Ip (mkB e)<0 then 0 else Ip (mkB e)):=by
 have hl:=R9 (mkB e)
 unfold gl
 rw [aeo hk h0 h1,ab]
 simp only
 by_cases h:Ip (mkB e)<0
 ·rw [ltT h,cond_true,if_pos h];rfl
 ·rw [ltF (by omega),cond_false,if_neg h,mF (by omega) (by omega)]
theorem Wq {e:Int} (h0:0≤e) (h1:e≤18446744073709551615):gi e=some (Zm e,mkB e):=by
 unfold gi
 rw [agJ h0 h1,ab,Dw h0 h1,ab]
theorem Rn {k:Nat} (hk:100≤k) (c:CF) {m:List Int} (hl:m.length≤1000) (w:Int):gz k c m [w]=some (NJ c m w):=by
 unfold gz
 obtain ⟨k,rfl⟩:∃ j,k=j+2:=⟨k - 2,by omega⟩
 have f1:∀ k:Nat,k+2+12=(k+12+1)+1:=fun k=>rfl
 have i1:IntKind.i64.wrap (0+1)=1:=by decide
 have x0:idx [w] 0=some w:=rfl
 rw [f1,fh,ltT (by simp),cond_true,x0,ab]
 try simp only [Prod.eta]
 rw [Lx,ab,mh hl,ab,i1,fh,ltF (by simp),cond_false]
 rfl
theorem abv {k:Nat} (hk:1000≤k) (c:CF) {m:List Int} (hm:Wm m) (hl:m.length≤1000) {f:FR} (hf:Wf f):iY k c m f=some (AA c m f):=by
 have hr:=cC hm 2
 unfold iY AA
 try simp only [Prod.eta]
 rw [bH (by omega),ab,XU,ab]
 cases h:Hk c m f with
 | false=>rfl
 | true=>
  rw [Bool.not_true,cond_false,if_neg (by simp)]
  obtain ⟨a0,a1,a2,a3,a4,a5,a6⟩:=f
  obtain ⟨_,w4,w5⟩:=hf
  simp only at w4 w5
  unfold Hk at h
  rw [Bool.and_eq_true,Bool.and_eq_true,Bool.and_eq_true,decide_eq_true_eq,decide_eq_true_eq,decide_eq_true_eq] at h
  obtain ⟨⟨⟨h0,hmay⟩,hlen⟩,h6,h1,h2⟩:=h
  simp only at h0 h6 h1 h2 ⊢
  have hlen2:(2:Int)<m.length:=by
   have hmc:=aC hmay
   have ok:OkB c m 0:=⟨hmay,hlen,by decide,by omega⟩
   have:=ok.size
   omega
  by_cases p0:a1=0
  ·subst p0
   simp [ff,ab]
  ·by_cases p1:a1=1
   ·subst p1
    have e1:∀ v,uc m 2 a4 v=if ah m 2=a4 then (ar m 2 v,true) else (m,false):=by
     intro v
     unfold uc
     by_cases hh:ah m 2=a4
     ·rw [if_pos hh,if_pos ⟨by decide,hlen2,hh⟩]
     ·rw [if_neg hh,if_neg (fun x=>hh x.2.2)]
    rcases h0 with rfl | rfl
    ·simp only [nM,decide_eq_true rfl,decide_eq_false p0,cond_true,cond_false,SI (k:=k+2) (by omega) w4.1 w4.2,ab,Kr hl,e1,Dw w4.1 w4.2,lC]
     by_cases hh:ah m 2=a4
     ·by_cases h3:mkB a4=0
      ·simp [hh,h3,fy]
      ·simp [hh,h3]
     ·simp [hh]
    ·simp only [nM,decide_eq_true rfl,decide_eq_false p0,decide_eq_false (show ¬ ((7:Int)=6) by decide),cond_true,cond_false,Wq w4.1 w4.2,ab,Kr hl,e1,Dw w4.1 w4.2,lC]
     by_cases hh:ah m 2=a4
     ·by_cases h3:mkB a4=0
      ·simp [hh,h3,fy]
      ·simp [hh,h3]
     ·simp [hh]
   ·rcases h0 with rfl | rfl
    ·simp only [nM,decide_eq_true rfl,decide_eq_false p0,decide_eq_false p1,cond_true,cond_false]
     by_cases h3:a5<8
     ·rw [ltT h3,cond_true,Rn (by omega) c hl,ab,lC,ab,fw (by omega)]
      simp [p0,p1,h3,fy]
     ·rw [ltF (by omega),cond_false,Rn (by omega) c hl,ab,lC,ab]
      simp [p0,p1,h3,fy]
    ·have hk5:=Lk w5.1
     simp only [nM,decide_eq_false (show ¬ ((7:Int)=6) by decide),decide_eq_false p0,decide_eq_false p1,cond_false]
     rw [LN (by omega) w5.1 w5.2,ab,Rn (by omega) c hl,ab,Dw w5.1 w5.2,ab,afF hk5.1 hk5.2,Dw w4.1 w4.2,ab]
     simp only [lC,ab]
     by_cases h3:Wx (mkB a5)=0
     ·simp [p0,p1,h3,fy]
     ·have h4:mkB a5≠0:=fun e=>h3 (by rw [e];decide)
      simp [p0,p1,h3,h4]
      omega
end Go.Ab
namespace Go.Ab
open Go.WideShapes
theorem CI:maxLen≤9223372036854775807:=by decide
theorem ajn {l:Tyt} (hm:l.length≤maxLen) (h:∀ x ∈ l,i64 x.1∧(∀ n ∈ x.2,i64 n)∧x.2.length≤maxLen):Wt l:=
 ⟨Nat.le_trans hm CI,fun x hx=>Nat.le_trans (h x hx).2.2 CI⟩
theorem aeK {α:Type} {l:List α} (hm:l.length≤maxLen):l.length≤9223372036854775807:=Nat.le_trans hm CI
theorem NO {P:Program} {w:World} {r:Reach} {base:Nat} {t:TypeId} {v:Value} {fs:Array Field} (ht:P.underlying t=some (.struct fs)) (h:Value.okWide P w r base t v):∃ cs,v = .agg cs:=by
 simp only [Value.okWide,ht] at h
 cases v <;> simp_all
theorem Cells.agg {w:World} {cs:Array Value} {vs:List V} (c:Cells w (Value.agg cs).cells.toList vs):RelV (UX w) [] (.agg vs) (.agg cs):=by
 have hl:vs.length=cs.toList.length:=c.len
 refine .agg vs cs (by simpa using hl.symm) c.ones fun i x hx => ?_
 have hi:i<vs.length:=(List.getElem?_eq_some_iff.1 hx).1
 have hi2:i<cs.size:=by rw [hl] at hi;simpa using hi
 have h1:cs.toList[i]? = some cs[i]:=by simp [hi2]
 have:=c.rel i x cs[i] hx h1
 simpa [Array.getD,hi2] using this
end Go.Ab
namespace Go.Ab
open Go.WideShapes
def u64 (n:Int):Prop:=(Lit.int .u64 n).wf=true
def Xc (c:Int×Int×Int×Int):Prop:=i64 c.1∧i64 c.2.1∧i64 c.2.2.1∧i64 c.2.2.2
theorem M5 {P:Program} {t ti:TypeId} {f0 f1 f2 f3:Field} {vs:List V} (he:P.underlying t=some (.struct #[f0,f1,f2,f3])) (h0:f0.type=ti) (h1:f1.type=ti) (h2:f2.type=ti) (h3:f3.type=ti) (o0:f0.offset=0) (o1:f1.offset=1) (o2:f2.offset=2) (o3:f3.offset=3) (hi:P.underlying ti=some (.int .i64)) (ci:P.cellsOf ti=1) (ce:P.cellsOf t=4) (h:Shape P t vs) :
  ∃ x:Int×Int×Int×Int,vs=mi x∧Xc x:=by
 obtain ⟨a,b⟩:=Ak he h
 have s0:=b 0 f0 rfl
 rw [h0,o0,ci,List.drop_zero] at s0
 have s1:=b 1 f1 rfl
 rw [h1,o1,ci] at s1
 have s2:=b 2 f2 rfl
 rw [h2,o2,ci] at s2
 have s3:=b 3 f3 rfl
 rw [h3,o3,ci] at s3
 rw [ce] at a
 obtain ⟨n0,e0,w0⟩:=nF hi s0
 obtain ⟨n1,e1,w1⟩:=nF hi s1
 obtain ⟨n2,e2,w2⟩:=nF hi s2
 obtain ⟨n3,e3,w3⟩:=nF hi s3
 match vs,a with
 | [x0,x1,x2,x3],_=>
  simp at e0 e1 e2 e3
  subst e0 e1 e2 e3
  exact ⟨(n0,n1,n2,n3),rfl,w0,w1,w2,w3⟩
theorem JZ {P:Program} {t s i:TypeId} {vs:List V} (ht:P.underlying t=some (.slice s)) (hs:P.underlying s=some (.slice i)) (hi:P.underlying i=some (.int .i64)) (h:Shape P t vs) :
  ∃ l:List (List Int),vs=[.ro (l.map cz)]∧(∀ x ∈ l,(∀ n ∈ x,i64 n)∧x.length≤maxLen)∧l.length≤maxLen:=by
 obtain ⟨rows,rfl,hr,hm⟩:=rW ht h
 obtain ⟨l,rfl,hl⟩:=pD (enc:=cz) (Q:=fun x=>(∀ n ∈ x,i64 n)∧x.length≤maxLen) (rows:=rows) (fun r hx=>by
  obtain ⟨l,e,w,m⟩:=wL hs hi (hr r hx)
  exact ⟨l,e,w,m⟩)
 exact ⟨l,rfl,hl,by simpa using hm⟩
end Go.Ab
namespace Go.Ab
open Go.WideShapes
end Go.Ab
set_option linter.unusedVariables false
namespace Go.Ab
end Go.Ab
set_option linter.unusedVariables false
namespace Go.Ab
def nA (c:CF) (x:Int):Int:=if dj c=true then 6+x%c.2.2.1 else -1
def CY (c:CF) (x:Int):Int:=if dj c=true then 6+c.2.2.1+x%c.2.2.1 else -1
def Dd (c:CF) (x:Int):Int:=x/c.2.2.1*2%18446744073709551616
def wC (a b:Int):Int:=IntKind.i64.wrap (IntKind.u64.wrap (a - b))
def fG (a b:Int):Int:=(a+b)%18446744073709551616
def rj (c:CF) (m:List Int) (f:FR) (op:Int):Bool:=dj c&&decide ((m.length:Int)=bN c)&&decide (f.2.2.2.2.2.2=0∧f.1=op∧0≤f.2.1∧f.2.1<5)
def kZ (c:CF) (m:List Int) (f:FR):List Int×FR:=
 if rj c m f 3=false then (m,f)
 else if f.2.1=0 then (m,f.1,1,f.2.2.1,f.2.2.2.1,ah m 5,f.2.2.2.2.2)
 else if f.2.1=1 then
  (if ah m (nA c f.2.2.2.2.1)=Dd c f.2.2.2.2.1 then (m,f.1,2,f.2.2.1,f.2.2.2.1,f.2.2.2.2.1,ah m (nA c f.2.2.2.2.1),f.2.2.2.2.2.2)
  else if wC (ah m (nA c f.2.2.2.2.1)) (Dd c f.2.2.2.2.1)<0 then (m,fy f 2 f.2.2.2.1)
  else (m,f.1,0,f.2.2.1,f.2.2.2.1,f.2.2.2.2.1,ah m (nA c f.2.2.2.2.1),f.2.2.2.2.2.2))
 else if f.2.1=2 then (let r:=uc m 5 f.2.2.2.2.1 (fG f.2.2.2.2.1 1);(r.1,f.1,if r.2=true then 3 else 0,f.2.2))
 else if f.2.1=3 then (ar m (CY c f.2.2.2.2.1) f.2.2.2.1,f.1,4,f.2.2)
 else (ar m (nA c f.2.2.2.2.1) (fG (Dd c f.2.2.2.2.1) 1),fy f 1 f.2.2.2.1)
def Dk (c:CF) (x:Int):Int:=fG (Dd c x) 1
def lZ (c:CF) (m:List Int) (f:FR):List Int×FR:=
 if rj c m f 4=false then (m,f)
 else if f.2.1=0 then (m,f.1,1,f.2.2.1,f.2.2.2.1,ah m 4,f.2.2.2.2.2)
 else if f.2.1=1 then
  (if wC (ah m (nA c f.2.2.2.2.1)) (Dk c f.2.2.2.2.1)=0 then (m,f.1,2,f.2.2.1,f.2.2.2.1,f.2.2.2.2.1,ah m (nA c f.2.2.2.2.1),f.2.2.2.2.2.2)
  else if wC (ah m (nA c f.2.2.2.2.1)) (Dk c f.2.2.2.2.1)<0 then (m,fy f 3 0)
  else (m,f.1,0,f.2.2.1,f.2.2.2.1,f.2.2.2.2.1,ah m (nA c f.2.2.2.2.1),f.2.2.2.2.2.2))
 else if f.2.1=2 then (let r:=uc m 4 f.2.2.2.2.1 (fG f.2.2.2.2.1 1);(r.1,f.1,if r.2=true then 3 else 0,f.2.2))
 else if f.2.1=3 then (m,f.1,4,f.2.2.1,ah m (CY c f.2.2.2.2.1),f.2.2.2.2)
 else (ar m (nA c f.2.2.2.2.1) (fG (Dk c f.2.2.2.2.1) 1),fy f 1 f.2.2.2.1)
def CZ (c:CF) (m:List Int) (f:FR):List Int×FR:=if f.1=3 then kZ c m f else if f.1=4 then lZ c m f else (m,f)
def Kf (c:CF) (m:List Int) (f:FR):List Int×FR:=if f.1=5 then CN c m f else if f.1=6∨f.1=7 then AA c m f else (m,f)
def lm (c:CF) (m:List Int) (f:FR):List Int×FR:=if f.1=3∨f.1=4 then CZ c m f else Kf c m f
abbrev SB:=Int×List Int×FR
def dx:FR:=(0,0,0,0,0,0,0)
abbrev EV:=Int×Int×Int
def iS (l:List Int):Int:=l.headD 0
def Au (c:CF) (t:Tyt) (m:List Int) (x:SB):Bool:=dj c&&decide ((m.length:Int)=bN c)&&nQ t&&decide (0≤x.1∧x.1<6∧x.2.1≠[]∧0≤iS x.2.1∧iS x.2.1<t.length)
def gR (c:CF) (t:Tyt) (m:List Int) (i:Int) (x:SB):List Int×SB×List EV:=
 if Au c t m x=false then (m,x,[])
 else if x.1=0 then (if ah m 3≠0 then (m,(0,x.2.1.tail,dx),[(1,iS x.2.1,i)]) else (m,(1,x.2),[]))
 else if x.1=1 then (ar m 0 (fG (ah m 0) 1),(2,x.2.1,(3,0,i,iS x.2.1,0,0,0)),[])
 else if x.1=2 then (let r:=lm c m x.2.2;
  if ew r.2=false then (r.1,(2,x.2.1,r.2),[]) else if r.2.2.2.2.2.2.2=2 then (r.1,(5,x.2.1,r.2),[]) else (r.1,(3,x.2.1,r.2),[(0,iS x.2.1,i)]))
 else if x.1=3 then (if ah m 1≠0 then (m,(0,x.2.1.tail,dx),[]) else (m,(4,x.2.1,(6,0,i,0,0,0,0)),[]))
 else if x.1=4 then (let r:=lm c m x.2.2;if ew r.2=true then (r.1,(0,x.2.1.tail,dx),[]) else (r.1,(4,x.2.1,r.2),[]))
 else (ar m 0 (fG (ah m 0) 18446744073709551615),(0,x.2.1.tail,dx),if ah m 0=1 then [(1,iS x.2.1,i),(5,0,i)] else [(1,iS x.2.1,i)])
def One (m m':List Int):Prop:=∃ i v,m'=ar m i v
theorem One.same (m:List Int):One m m:=⟨-1,0,by unfold ar;rw [if_neg (by decide)]⟩
theorem One.store (m:List Int) (i v:Int):One m (ar m i v):=⟨i,v,rfl⟩
theorem One.cas (m:List Int) (i o v:Int):One m (uc m i o v).1:=by
 unfold uc
 split
 ·exact One.store m i v
 ·exact One.same m
theorem One.len {m m':List Int} (h:One m m'):m'.length=m.length:=by
 obtain ⟨i,v,rfl⟩:=h
 exact kH
theorem Z9 (c:CF) (m:List Int) (f:FR):One m (kZ c m f).1:=by
 unfold kZ
 repeat' split
 all_goals first | exact One.same m | exact One.store m _ _ | exact One.cas m _ _ _
theorem acA (c:CF) (m:List Int) (f:FR):One m (lZ c m f).1:=by
 unfold lZ
 repeat' split
 all_goals first | exact One.same m | exact One.store m _ _ | exact One.cas m _ _ _
theorem VT (c:CF) (m:List Int) (f:FR):One m (CN c m f).1:=by
 unfold CN
 repeat' split
 all_goals first | exact One.same m | exact One.store m _ _ | exact One.cas m _ _ _
theorem UB (c:CF) (m:List Int) (f:FR):One m (AA c m f).1:=by
 unfold AA NJ
 repeat' split
 all_goals first | exact One.same m | (dsimp only;exact One.store m _ _)
theorem KJ (c:CF) (m:List Int) (f:FR):One m (lm c m f).1:=by
 unfold lm CZ Kf
 repeat' split
 all_goals first | exact One.same m | exact Z9 c m f | exact acA c m f | exact VT c m f | exact UB c m f
end Go.Ab
set_option linter.unusedVariables false
namespace Go.Ab
structure InvA (c:CF) (a:Nat) (m:List Int):Prop where
 wm:Wm m
 may:dj c=true
 len:(m.length:Int)=bN c
 l0:ah m 0=a
 l1:ah m 1=0
 mask:mkB (ah m 2)=0
 l3:ah m 3=0
 l5:ah m 5=a
 sq:∀ j:Nat,(j:Int)<c.2.2.1→ah m (6+j)=if j<a then 1 else 0
 le:(a:Int)≤c.2.2.1
section
variable {c:CF} {t:Tyt} {m:List Int} {l:List Int} {F:FR}
end
section
variable {c:CF} {m:List Int} {w v X Y:Int} (hmay:dj c=true) (hlen:(m.length:Int)=bN c)
include hmay hlen
end
end Go.Ab
set_option linter.unusedVariables false
namespace Go.Ab
theorem ng {q i:Int}:∀ {t:Tyt} {s:Nat},(q,i) ∈ d9 s t↔∃ n x,t[n]? = some x∧q ∈ x.2∧i=((s+n:Nat):Int)
 | [],s=>by simp [d9]
 | x::t,s=>by
  simp only [d9,List.mem_append,List.mem_map,Prod.mk.injEq,ng (t:=t) (s:=s+1)]
  constructor
  ·rintro (⟨a,ha,rfl,rfl⟩ | ⟨n,y,hy,hq,rfl⟩)
   ·exact ⟨0,x,rfl,ha,by simp⟩
   ·exact ⟨n+1,y,by simpa using hy,hq,by omega⟩
  ·rintro ⟨n,y,hy,hq,rfl⟩
   cases n with
   | zero=>
    simp at hy
    subst hy
    exact .inl ⟨q,hq,rfl,by simp⟩
   | succ n=>exact .inr ⟨n,y,by simpa using hy,hq,by omega⟩
theorem Mp (n:Nat):∀ (l:List (Int×Int)) (had:aaM n),(∀ q ∈ l,0≤q.2)→(Fj (gI n) l had).1=true →
  (∀ q ∈ l,q.2<q.1∧q.1<n∧had.1[q.1.toNat]? = some false)∧(l.map (·.1)).Nodup
 | [],had,_,_=>by simp
 | q::l,had,h0,h=>by
  simp only [Fj] at h
  have hq0:=h0 q (by simp)
  cases hb:Bf n had.1 q with
  | true=>simp [gI,hb] at h
  | false=>
   have e1:(gI n had q).1=true:=by simp [gI,hb]
   have e2:(gI n had q).2.1=had.1.set q.1.toNat true:=by simp [gI,hb]
   rw [e1,if_pos rfl] at h
   obtain ⟨a,b⟩:=Mp n l _ (fun x hx=>h0 x (by simp [hx])) h
   simp only [Bf,Bool.or_eq_false_iff,decide_eq_false_iff_not] at hb
   obtain ⟨⟨h1,h2⟩,h3⟩:=hb
   have h4:q.1.toNat<had.1.length:=by rw [had.2];omega
   have h5:had.1[q.1.toNat]? = some false:=by
    rw [List.getElem?_eq_getElem h4] at h3 ⊢
    simpa using h3
   rw [e2] at a
   have h6:∀ x ∈ l,x.1≠q.1:=by
    intro x hx e
    have:=(a x hx).2.2
    rw [e,List.getElem?_set_self h4] at this
    cases this
   refine ⟨?_,?_⟩
   ·intro x hx
    rcases List.mem_cons.1 hx with rfl | hx
    ·exact ⟨by omega,by omega,h5⟩
    ·obtain ⟨u,v,w⟩:=a x hx
     refine ⟨u,v,?_⟩
     have hx0:=h0 x (by simp [hx])
     rwa [List.getElem?_set_ne (by have:=h6 x hx;omega)] at w
   ·rw [List.map_cons,List.nodup_cons]
    refine ⟨?_,b⟩
    intro hm
    obtain ⟨x,hx,e⟩:=List.mem_map.1 hm
    exact h6 x hx e
structure May (t:Tyt):Prop where
 len:t.length≤30
 work:∀ x ∈ t,0≤x.1∧x.1≤20
 kids:∀ q ∈ d9 0 t,0≤q.2∧q.2<q.1∧q.1<t.length
 once:((d9 0 t).map (·.1)).Nodup
theorem uA {t:Tyt} {s:Nat} (q) (h:q ∈ d9 s t):0≤q.2:=by
 obtain ⟨a,b⟩:=q
 obtain ⟨n,x,_,_,rfl⟩:=ng.1 h
 simp
 omega
theorem B4 {t:Tyt} (h:nQ t=true):May t:=by
 unfold nQ at h
 simp only [Bool.and_eq_true,decide_eq_true_eq,Bool.not_eq_true'] at h
 obtain ⟨⟨h1,h2⟩,h3⟩:=h
 obtain ⟨a,b⟩:=Mp t.length _ _ uA h3
 refine ⟨h1,?_,fun q hq=>⟨uA q hq,(a q hq).1,(a q hq).2.1⟩,b⟩
 intro x hx
 have:=List.any_eq_false.1 h2 x hx
 simp only [rV,Bool.or_eq_true,decide_eq_true_eq,not_or] at this
 omega
theorem GY {α β:Type} {f:α→β}:∀ {l:List α},(l.map f).Nodup→∀ {a b:α},a ∈ l→b ∈ l→f a=f b→a=b
 | [],_,a,b,ha,_,_=>by simp at ha
 | x::l,h,a,b,ha,hb,e=>by
  rw [List.map_cons,List.nodup_cons] at h
  rcases List.mem_cons.1 ha with ha1 | ha1 <;> rcases List.mem_cons.1 hb with hb1 | hb1
  ·rw [ha1,hb1]
  ·exact absurd (show f x ∈ l.map f from List.mem_map.2 ⟨b,hb1,by rw [← e,ha1]⟩) h.1
  ·exact absurd (show f x ∈ l.map f from List.mem_map.2 ⟨a,ha1,by rw [e,hb1]⟩) h.1
  ·exact GY h.2 ha1 hb1 e
theorem IE (p:Int):∀ (l:List (Int×Int)) (r:Int),Fj (lh p) l r=match l.find? (fun q=>q.1==p) with | some q=>(false,q.2) | none=>(true,r)
 | [],r=>rfl
 | q::l,r=>by
  simp only [Fj,lh,List.find?_cons]
  by_cases h:q.1=p
  ·simp [h]
  ·simp [h,beq_false_of_ne h,IE p l r]
theorem I2 {t:Tyt} {p:Int} (hm:nQ t=true) (h:∀ q ∈ d9 0 t,q.1≠p):dE t p = -1:=by
 have:(d9 0 t).find? (fun q=>q.1==p)=none:=by
  rw [List.find?_eq_none]
  intro q hq
  simpa using h q hq
 rw [dE,if_pos hm,IE,this]
 rfl
theorem CL {t:Tyt} {p o:Int} (hm:nQ t=true) (h:(p,o) ∈ d9 0 t):dE t p=o:=by
 have hM:=B4 hm
 cases hf:(d9 0 t).find? (fun q=>q.1==p) with
 | none=>
  rw [List.find?_eq_none] at hf
  have:=hf _ h
  simp at this
 | some q=>
  have h1:=List.mem_of_find?_eq_some hf
  have h2:=List.find?_some hf
  simp only [beq_iff_eq] at h2
  have h3:q=(p,o):=by
   have hn:=hM.once
   exact GY hn h1 h h2
  rw [dE,if_pos hm,IE,hf,h3]
  rfl
theorem H9 {t:Tyt} (p:Int) (hm:nQ t=true):(dE t p = -1∧∀ q ∈ d9 0 t,q.1≠p)∨(∃ o,(p,o) ∈ d9 0 t∧dE t p=o):=by
 by_cases h:∃ o,(p,o) ∈ d9 0 t
 ·obtain ⟨o,ho⟩:=h
  exact .inr ⟨o,ho,CL hm ho⟩
 ·have:∀ q ∈ d9 0 t,q.1≠p:=fun q hq e=>h ⟨q.2,by rw [← e];exact hq⟩
  exact .inl ⟨I2 hm this,this⟩
end Go.Ab
set_option maxRecDepth 100000
set_option linter.unusedVariables false
namespace Go.Ab
theorem ads (x:Int×List Int):gn x=some (rV x):=by
 unfold gn rV
 cases decide (x.1<0) <;> rfl
section
variable (k:Nat) (hk:9223372036854775808≤k)
include hk
theorem aa4 (t:Tyt) (ht:Wt t):dM k t=some (adW t):=by
 have hlen:=ht.len
 have key:∀ r i n,t.drop i=r→i≤t.length→r.length<n→bJ k t n (i:Int)=some ((r.take (41 - i)).all (fun x=>decide (x.2.length≤40))&&decide (t.length≤40)):=by
  intro r
  induction r with
  | nil=>
   intro i n hr hi hn
   obtain ⟨n,rfl⟩:=ki hn
   have:i=t.length:=by have:=eb hr;omega
   subst this
   rw [bJ,pd,cond_false,Xt]
   simp
  | cons x r ih=>
   intro i n hr hi hn
   obtain ⟨n,rfl⟩:=ki hn
   obtain ⟨a,b,c,d,e⟩:=cX hr
   rw [bJ,ltN a,cond_true]
   by_cases h:i≤40
   ·rw [leT (show (i:Int)≤40 by omega),cond_true,fA b,ab]
    have e1:41 - i=(41 - (i+1))+1:=by omega
    rw [e1,List.take_succ_cons,List.all_cons]
    by_cases h2:x.2.length≤40
    ·rw [ltF (show ((x.2.length:Nat):Int)≤40 by omega),cond_false,ga (by omega),ih (i+1) n c (by omega) (by simp only [List.length_cons] at hn;omega),decide_eq_true h2,Bool.true_and]
    ·rw [ltT (show (40:Int)<(x.2.length:Nat) by omega),cond_true,decide_eq_false h2]
     rfl
   ·rw [leF (show (40:Int)<i by omega),cond_false,Xt]
    have e1:41 - i=0:=by omega
    rw [e1]
    simp
 have:=key t 0 k rfl (Nat.zero_le _) (by omega)
 rw [dM]
 simpa [adW] using this
theorem X2 (t:Tyt) (ht:Wt t):aO k t=some (t.any rV):=by
 have hlen:=ht.len
 rw [aO,aY]
 rw [C4 (F:=fun n i=>aB (k+8) t n i) (l:=t) rV ?_ ?_ _ (by omega)]
 ·rw [ab,mV]
 ·intro n
  simp only [aB,pd,cond_false]
 ·intro n i x hi hx
  simp only [aB,ltN hi,cond_true,fA hx,ab,ads,Prod.eta]
  rw [ga (by omega)]
theorem EW (t:Tyt) (ht:Wt t):bX k t=some (nQ t):=by
 have hlen:=ht.len
 rw [bX,X2 k hk t ht,ab]
 unfold nQ
 by_cases h1:t.length≤30
 ·rw [ard h1,cond_false,decide_eq_true h1]
  cases h2:t.any rV with
  | true=>rfl
  | false=>
   have h3:decide ((0:Int)≤(t.length:Int)∧(t.length:Int)≤9223372036854775807∧(t.length:Int)*1≤70368744177664)=true:=by simp;omega
   rw [h3,cond_false,cond_true]
   -- one task's kids
   have inner:∀ (x:Int×List Int) (hx:x ∈ t) (i:Nat) (hi:i<t.length) (o:Int→List Bool→Option Bool) (R:List (Int×Int)) (n0:Nat)
     (ho:∀ had:aaM t.length,o ((i+1:Nat):Int) had.1=some (Fj (gI t.length) R had).1),
     ∀ r j n (had:aaM t.length),x.2.drop j=r→r.length<n →
      dz k t o n x.2 (x.2.length:Int) (j:Int) had.1 (i:Int)=some (Fj (gI t.length) (r.map (fun q=>(q,(i:Int)))++R) had).1:=by
    intro x hx i hi o R n0 ho r
    have hxl:=ht.kids x hx
    induction r with
    | nil=>
     intro j n had hr hn
     obtain ⟨n,rfl⟩:=ki hn
     have hj:=eb hr
     rw [dz,ltF (by omega),cond_false,ga (by omega),ho]
     rfl
    | cons q r ih=>
     intro j n had hr hn
     obtain ⟨n,rfl⟩:=ki hn
     obtain ⟨a,b,c,d,e⟩:=cX hr
     have hb:=had.2
     rw [dz,ltN a,cond_true,fA b,ab,List.map_cons,List.cons_append,Fj]
     by_cases h1:q≤(i:Int)
     ·rw [leT h1,cond_true]
      simp [gI,Bf,leT h1]
     ·rw [leF (show (i:Int)<q by omega),cond_false]
      by_cases h2:(t.length:Int)≤q
      ·rw [leT h2,cond_true]
       simp [gI,Bf,leT h2]
      ·rw [leF (show q<(t.length:Int) by omega),cond_false]
       have h5:decide ((0:Int)≤q∧q.toNat<t.length)=true:=by simp;omega
       have h3:q.toNat<had.1.length:=by rw [hb];omega
       have h4:had.1[q.toNat]? = some had.1[q.toNat]:=List.getElem?_eq_getElem h3
       rw [h5,cond_true,h4,ab,cond_true,ab,ga (by omega)]
       cases hh:had.1[q.toNat] with
       | true=>simp [gI,Bf,leF (show (i:Int)<q by omega),leF (show q<(t.length:Int) by omega),h4,hh]
       | false=>
        rw [cond_false]
        have e1:gI t.length had (q,(i:Int))=(true,⟨had.1.set q.toNat true,by simp [had.2]⟩):=by
         simp [gI,Bf,leF (show (i:Int)<q by omega),leF (show q<(t.length:Int) by omega),h4,hh]
        rw [e1]
        simp only [if_true]
        exact ih (j+1) n ⟨had.1.set q.toNat true,by simp [had.2]⟩ c (by simp only [List.length_cons] at hn;omega)
   have outer:∀ r i n (had:aaM t.length),t.drop i=r→i≤t.length→r.length<n→co k t n (i:Int) had.1=some (Fj (gI t.length) (d9 i r) had).1:=by
    intro r
    induction r with
    | nil=>
     intro i n had hr hi hn
     obtain ⟨n,rfl⟩:=ki hn
     have:=eb hr
     rw [co,ltF (by omega),cond_false]
     rfl
    | cons x r ih=>
     intro i n had hr hi hn
     obtain ⟨n,rfl⟩:=ki hn
     obtain ⟨a,b,c,d,e⟩:=cX hr
     have hxl:=ht.kids x d
     rw [co,ltN a,cond_true,fA b,ab,d9]
     have:=inner x d i a (fun s47 s56=>co k t n s47 s56) (d9 (i+1) r) n (fun had=>ih (i+1) n had c (by omega) (by simp only [List.length_cons] at hn;omega)) x.2 0 (k+17) had rfl (by omega)
     simpa using this
   have:=outer t 0 (k+17) (JO t.length) rfl (Nat.zero_le _) (by omega)
   simpa [JO] using this
 ·rw [apT (by omega),cond_true,decide_eq_false h1]
  rfl
end
end Go.Ab
set_option linter.unusedVariables false
namespace Go.Ab
theorem kg (z:Int):IntKind.u64.wrap z=z%18446744073709551616:=by simp [IntKind.wrap,IntKind.bits,IntKind.signed]
theorem Lt {c:CF} {x:Int} (h0:0≤x) (h1:x≤18446744073709551615):kQ c x=some (nA c x):=by
 unfold kQ nA
 simp only [Prod.eta,iM,ab]
 cases hm:dj c with
 | false=>rfl
 | true=>
  have hc:=aC hm
  have hi:IntKind.u64.wrap c.2.2.1=c.2.2.1:=mF (by omega) (by omega)
  have h3:=Int.emod_lt_of_pos x (show 0<c.2.2.1 by omega)
  have h4:=Int.emod_nonneg x (show c.2.2.1≠0 by omega)
  have e1:IntKind.i64.wrap (c.1 - 1)=c.1 - 1:=by rw [IntKind.wrap_i64];omega
  rw [Bool.not_true,cond_false,abE,ab,e1,decide_eq_true (by omega),Bool.not_true,cond_false,hi,E0,decide_eq_false (by omega),Bool.not_false,cond_true,if_pos rfl,Int.tmod_eq_emod_of_nonneg h0]
  have e2:IntKind.i64.wrap (x%c.2.2.1)=x%c.2.2.1:=by rw [IntKind.wrap_i64];omega
  rw [e2,IntKind.wrap_i64]
  congr 1
  omega
theorem W7 {c:CF} {x:Int} (h0:0≤x) (h1:x≤18446744073709551615):ny c x=some (CY c x):=by
 unfold ny CY
 simp only [Prod.eta,iM,ab]
 cases hm:dj c with
 | false=>rfl
 | true=>
  have hc:=aC hm
  have hi:IntKind.u64.wrap c.2.2.1=c.2.2.1:=mF (by omega) (by omega)
  have h3:=Int.emod_lt_of_pos x (show 0<c.2.2.1 by omega)
  have h4:=Int.emod_nonneg x (show c.2.2.1≠0 by omega)
  have e1:IntKind.i64.wrap (c.1 - 1)=c.1 - 1:=by rw [IntKind.wrap_i64];omega
  rw [Bool.not_true,cond_false,abE,ab,e1,decide_eq_true (by omega),Bool.not_true,cond_false,hi,E0,decide_eq_false (by omega),Bool.not_false,cond_true,if_pos rfl,Int.tmod_eq_emod_of_nonneg h0]
  have e2:IntKind.i64.wrap (x%c.2.2.1)=x%c.2.2.1:=by rw [IntKind.wrap_i64];omega
  have e3:IntKind.i64.wrap (6+c.2.2.1)=6+c.2.2.1:=by rw [IntKind.wrap_i64];omega
  rw [e2,e3,IntKind.wrap_i64]
  congr 1
  omega
theorem QH {c:CF} {x:Int} (hm:dj c=true) (h0:0≤x) (h1:x≤18446744073709551615):IntKind.u64.wrap (IntKind.u64.wrap (x.tdiv (IntKind.u64.wrap c.2.2.1))*2)=Dd c x:=by
 have hc:=aC hm
 have hi:IntKind.u64.wrap c.2.2.1=c.2.2.1:=mF (by omega) (by omega)
 have h3:0≤x/c.2.2.1:=Int.ediv_nonneg h0 (by omega)
 have h4:x/c.2.2.1≤x:=Int.ediv_le_self _ h0
 rw [hi,Int.tdiv_eq_ediv_of_nonneg h0,mF h3 (by omega),kg]
 rfl
theorem BS (a b:Int):IntKind.u64.wrap (a+b)=fG a b:=by rw [kg];rfl
theorem gV (a b:Int):0≤fG a b∧fG a b≤18446744073709551615:=by unfold fG;omega
theorem ne0 {c:CF} (hm:dj c=true):(IntKind.u64.wrap c.2.2.1 !=0)=true:=by
 have hc:=aC hm
 rw [mF (by omega) (by omega),E0,decide_eq_false (by omega)]
 rfl
theorem Xf {c:CF} {x:Int} (hm:dj c=true) (h0:0≤x) (h1:x≤18446744073709551615):lW c x=some (Dk c x):=by
 unfold lW Dk
 rw [ne0 hm,cond_true,QH hm h0 h1,BS]
theorem Pr (a b:Int):f7 a b=some (wC a b):=rfl
theorem Qo (c:CF) (m:List Int) (f:FR) (op:Int):l9 c m f op=some (rj c m f op):=by
 unfold l9 pF rj
 simp only [Prod.eta,iM,D7,m7,ab]
 cases hm:dj c with
 | false=>rfl
 | true=>
  rw [cond_true,ab,nM,Bool.true_and]
  by_cases h1:(m.length:Int)=bN c
  ·rw [decide_eq_true h1,cond_true,Bool.true_and]
   unfold ew
   rw [E0,Bool.not_not,nM]
   by_cases h2:f.2.2.2.2.2.2=0
   ·rw [decide_eq_true h2,cond_true]
    by_cases h3:f.1=op
    ·rw [decide_eq_true h3,cond_true]
     by_cases h4:0≤f.2.1
     ·rw [leT h4,cond_true]
      congr 1
      simp [h2,h3,h4]
     ·rw [leF (by omega),cond_false]
      simp [h4]
    ·rw [decide_eq_false h3,cond_false]
     simp [h3]
   ·rw [decide_eq_false h2,cond_false]
    simp [h2]
  ·rw [decide_eq_false h1,cond_false]
   rfl
theorem Lc {c:CF} {m:List Int} {f:FR} {op:Int} (h:rj c m f op=true):dj c=true∧(m.length:Int)=bN c∧f.2.2.2.2.2.2=0∧f.1=op∧0≤f.2.1∧f.2.1<5:=by
 unfold rj at h
 rw [Bool.and_eq_true,Bool.and_eq_true,decide_eq_true_eq,decide_eq_true_eq] at h
 exact ⟨h.1.1,h.1.2,h.2⟩
theorem QA (c:CF) {m:List Int} (hm:Wm m) (hl:m.length≤1000) {f:FR} (hf:Wf f):nt c m f=some (kZ c m f):=by
 unfold nt kZ
 try simp only [Prod.eta]
 rw [bH (by omega),ab,Qo,ab]
 cases h:rj c m f 3 with
 | false=>rfl
 | true=>
  obtain ⟨hmay,_,h6,h0,h1,h1'⟩:=Lc h
  rw [Bool.not_true,cond_false,if_neg (by simp)]
  obtain ⟨a0,a1,a2,a3,a4,a5,a6⟩:=f
  simp only at h6 h0 h1 h1' ⊢
  have e:decide (0≤a1∧a1.toNat<5)=true:=by rw [decide_eq_true_eq];omega
  rw [e,cond_true]
  obtain ⟨w3,w4,w5⟩:=hf
  simp only at w3 w4 w5
  rcases (show a1=0∨a1=1∨a1=2∨a1=3∨a1=4 by omega) with rfl | rfl | rfl | rfl | rfl
  ·simp [ff,ab]
  ·simp only [Lt w4.1 w4.2,ff,ab,ne0 hmay,QH hmay w4.1 w4.2,Pr,lC,nM,cond_true]
   by_cases h5:ah m (nA c a4)=Dd c a4
   ·simp [h5]
   ·by_cases h7:wC (ah m (nA c a4)) (Dd c a4)<0
    ·simp [h5,h7,fy]
    ·simp [h5,h7]
  ·simp only [BS,Kr hl,ab]
   cases hc:(uc m 5 a4 (fG a4 1)).2 <;> simp [hc]
  ·simp only [W7 w4.1 w4.2,mh hl,ab]
   simp
  ·simp only [Lt w4.1 w4.2,ne0 hmay,QH hmay w4.1 w4.2,BS,mh hl,ab,lC,cond_true]
   simp [fy]
theorem OO (c:CF) {m:List Int} (hm:Wm m) (hl:m.length≤1000) {f:FR} (hf:Wf f):nB c m f=some (lZ c m f):=by
 unfold nB lZ
 try simp only [Prod.eta]
 rw [bH (by omega),ab,Qo,ab]
 cases h:rj c m f 4 with
 | false=>rfl
 | true=>
  obtain ⟨hmay,_,h6,h0,h1,h1'⟩:=Lc h
  rw [Bool.not_true,cond_false,if_neg (by simp)]
  obtain ⟨a0,a1,a2,a3,a4,a5,a6⟩:=f
  simp only at h6 h0 h1 h1' ⊢
  obtain ⟨w3,w4,w5⟩:=hf
  simp only at w3 w4 w5
  rcases (show a1=0∨a1=1∨a1=2∨a1=3∨a1=4 by omega) with rfl | rfl | rfl | rfl | rfl
  ·simp [ff,ab]
  ·simp only [Lt w4.1 w4.2,ff,ab,Xf hmay w4.1 w4.2,Pr,lC,nM]
   by_cases h5:wC (ah m (nA c a4)) (Dk c a4)=0
   ·simp [h5]
   ·by_cases h7:wC (ah m (nA c a4)) (Dk c a4)<0
    ·simp [h5,h7,fy]
    ·simp [h5,h7]
  ·simp only [BS,Kr hl,ab]
   cases hc:(uc m 4 a4 (fG a4 1)).2 <;> simp [hc]
  ·simp only [W7 w4.1 w4.2,ff,ab]
   simp
  ·simp only [Lt w4.1 w4.2,Xf hmay w4.1 w4.2,BS,mh hl,ab,lC]
   simp [fy]
theorem Gd (c:CF) {m:List Int} (hm:Wm m) (hl:m.length≤1000) {f:FR} (hf:Wf f):bE c m f=some (CZ c m f):=by
 unfold bE CZ
 simp only [Prod.eta,QA c hm hl hf,OO c hm hl hf,ab,nM]
 by_cases h3:f.1=3
 ·simp [h3]
 ·by_cases h4:f.1=4
  ·simp [h4]
  ·simp [h3,h4,bH (b:=8) (l:=m) (by omega),ab]
theorem HW {k:Nat} (hk:1000≤k) (c:CF) {m:List Int} (hm:Wm m) (hl:m.length≤1000) {f:FR} (hf:Wf f):cu k c m f=some (Kf c m f):=by
 unfold cu Kf
 simp only [Prod.eta,abf c hm hl hf,abv hk c hm hl hf,ab,nM]
 by_cases h5:f.1=5
 ·rw [decide_eq_true h5,cond_true,if_pos h5]
 ·rw [decide_eq_false h5,cond_false,if_neg h5]
  by_cases h6:f.1=6
  ·rw [decide_eq_true h6,cond_true,cond_true,if_pos (.inl h6)]
  ·rw [decide_eq_false h6,cond_false]
   by_cases h7:f.1=7
   ·rw [decide_eq_true h7,cond_true,if_pos (.inr h7)]
   ·rw [decide_eq_false h7,cond_false,if_neg (by omega),bH (by omega),ab]
theorem agU {m:List Int} (hl:m.length≤1000) (i v:Int):dI m i v=some (if 0≤i∧i<m.length then (ar m i (fG (ah m i) v),ah m i) else (m,0)):=by
 unfold dI
 rw [bH (by omega),ab,aib,ab]
 by_cases h:0≤i∧i<m.length
 ·have hd:decide (0≤i∧i.toNat<m.length)=true:=decide_eq_true (by omega)
  rw [decide_eq_true h,Bool.not_true,cond_false,(oi h).1,ab,hd,cond_true,(oi h).2,ab,ab,if_pos h,BS]
  unfold ar
  rw [if_pos h.1]
 ·rw [decide_eq_false h,Bool.not_false,cond_true,if_neg h]
theorem WS {k:Nat} (hk:9223372036854775808≤k) (c:CF) {t:Tyt} (ht:Wt t) (m:List Int) (x:SB):fE k c t m x=some (Au c t m x):=by
 unfold fE Au
 simp only [Prod.eta,iM,D7,ab]
 rw [EW (k+4) (by omega) t ht]
 cases hm:dj c with
 | false=>rfl
 | true=>
  rw [cond_true,nM,Bool.true_and]
  by_cases h1:(m.length:Int)=bN c
  ·rw [decide_eq_true h1,cond_true,Bool.true_and,ab]
   cases ht2:nQ t with
   | false=>rfl
   | true=>
    rw [cond_true,Bool.true_and]
    by_cases h2:0≤x.1
    ·rw [leT h2,cond_true]
     by_cases h3:x.1<6
     ·rw [ltT h3,cond_true]
      cases hl:x.2.1 with
      | nil=>simp
      | cons r rest=>
       have h0:idx (r::rest) 0=some r:=rfl
       rw [ltT (by simp),cond_true,h0,ab,ab]
       by_cases h4:0≤r
       ·rw [leT h4,cond_true]
        congr 1
        simp [h2,h3,iS,h4]
       ·rw [leF (by omega),cond_false]
        simp [iS,h4]
     ·rw [ltF (by omega),cond_false]
      simp [h3]
    ·rw [leF (by omega),cond_false]
     simp [h2]
  ·rw [decide_eq_false h1,cond_false]
   rfl
theorem Co {c:CF} {t:Tyt} {m:List Int} {x:SB} (h:Au c t m x=true):dj c=true∧(m.length:Int)=bN c∧nQ t=true∧0≤x.1∧x.1<6∧∃ r rest,x.2.1=r::rest∧0≤r∧r<t.length:=by
 unfold Au at h
 simp only [Bool.and_eq_true,decide_eq_true_eq] at h
 obtain ⟨⟨⟨h1,h2⟩,h3⟩,h4,h5,h6,h7,h8⟩:=h
 cases hx:x.2.1 with
 | nil=>exact absurd hx h6
 | cons r rest=>
  rw [hx] at h7 h8
  exact ⟨h1,h2,h3,h4,h5,r,rest,rfl,h7,h8⟩
theorem uY {c:CF} (h:dj c=true):12≤bN c∧bN c≤190:=by
 have hm:=aC h
 have:=dX h (w:=c.1) (by omega) (by omega)
 unfold bN
 rw [if_pos h]
 have e:AK c c.1=6+2*c.2.2.1+c.1*(3+c.2.1):=rfl
 have h3:1*(3+c.2.1)≤c.1*(3+c.2.1):=Int.mul_le_mul_of_nonneg_right (by omega) (by omega)
 omega
theorem abR {k:Nat} (hk:9223372036854775808≤k) (c:CF) {t:Tyt} (ht:Wt t) {m:List Int} (hm:Wm m) (hl:m.length≤1000) (i:Int) {x:SB} (hf:Wf x.2.2) (hr:x.2.1.length≤1000) (ht2:t.length≤1000):f4 k c t m i x=some (gR c t m i x):=by
 unfold f4 gR
 try simp only [Prod.eta]
 rw [bH (by omega),ab,bH (by omega),ab,WS (by omega) c ht,ab]
 cases hmay:Au c t m x with
 | false=>rfl
 | true=>
  rw [Bool.not_true,cond_false,if_neg (by simp)]
  obtain ⟨h1,h2,h3,h4,h5,r,rest,hx,h6,h7⟩:=Co hmay
  have hsz:=uY h1
  obtain ⟨pc,roots,F⟩:=x
  simp only at hx h4 h5 hf hr ⊢
  subst hx
  have hi0:idx (r::rest) 0=some r:=rfl
  have hroom:room 1 24=true:=rfl
  have hroom2:room 2 24=true:=rfl
  have hd:decide ((1:Int)≤((r::rest).length:Int))=true:=decide_eq_true (by simp;omega)
  have hdr:List.drop (Int.toNat 1) (r::rest)=rest:=rfl
  have hh:iS (r::rest)=r:=rfl
  have hur:IntKind.u64.wrap r=r:=mF h6 (by omega)
  have htl:(r::rest).tail=rest:=rfl
  rw [hi0,ab]
  simp only [Gd c hm hl hf,HW (k:=k+20) (by omega) c hm hl hf,ff,agU hl,ab,m7,abo,hroom,hroom2,hd,hdr,hh,htl,cond_true,hur,nM,E0]
  have hb:∀ op w v:Int,aK op w v=some (op,0,w,v,0,0,0):=fun _ _ _=>rfl
  simp only [hb,ab]
  have hin:(0:Int)≤0∧(0:Int)<m.length:=by omega
  have hcall:lm c m F=if F.1=3∨F.1=4 then CZ c m F else Kf c m F:=rfl
  rcases (show pc=0∨pc=1∨pc=2∨pc=3∨pc=4∨pc=5 by omega) with rfl | rfl | rfl | rfl | rfl | rfl
  ·by_cases h:ah m 3=0
   ·simp [h]
   ·simp [h,dx]
  ·simp only [if_pos hin]
   simp
  ·by_cases e3:F.1=3
   ·have ec:lm c m F=CZ c m F:=by rw [hcall,if_pos (.inl e3)]
    rw [ec]
    cases ho:ew (CZ c m F).2 with
    | false=>simp [e3,ho]
    | true=>
     by_cases h8:(CZ c m F).2.2.2.2.2.2.2=2
     ·simp [e3,ho,h8]
     ·simp [e3,ho,h8]
   ·by_cases e4:F.1=4
    ·have ec:lm c m F=CZ c m F:=by rw [hcall,if_pos (.inr e4)]
     rw [ec]
     cases ho:ew (CZ c m F).2 with
     | false=>simp [e4,ho]
     | true=>
      by_cases h8:(CZ c m F).2.2.2.2.2.2.2=2
      ·simp [e4,ho,h8]
      ·simp [e4,ho,h8]
    ·have ec:lm c m F=Kf c m F:=by rw [hcall,if_neg (by omega)]
     rw [ec]
     cases ho:ew (Kf c m F).2 with
     | false=>simp [e3,e4,ho]
     | true=>
      by_cases h8:(Kf c m F).2.2.2.2.2.2.2=2
      ·simp [e3,e4,ho,h8]
      ·simp [e3,e4,ho,h8]
  ·by_cases h:ah m 1=0
   ·simp [h]
   ·simp [h,dx]
  ·by_cases e3:F.1=3
   ·have ec:lm c m F=CZ c m F:=by rw [hcall,if_pos (.inl e3)]
    rw [ec]
    cases ho:ew (CZ c m F).2 with
    | false=>simp [e3,ho]
    | true=>simp [e3,ho,dx]
   ·by_cases e4:F.1=4
    ·have ec:lm c m F=CZ c m F:=by rw [hcall,if_pos (.inr e4)]
     rw [ec]
     cases ho:ew (CZ c m F).2 with
     | false=>simp [e4,ho]
     | true=>simp [e4,ho,dx]
    ·have ec:lm c m F=Kf c m F:=by rw [hcall,if_neg (by omega)]
     rw [ec]
     cases ho:ew (Kf c m F).2 with
     | false=>simp [e3,e4,ho]
     | true=>simp [e3,e4,ho,dx]
  ·simp only [if_pos hin]
   by_cases h:ah m 0=1
   ·simp [h,dx,hroom2]
   ·simp [h,dx]
end Go.Ab
set_option linter.unusedVariables false
namespace Go.Ab
def onW (c:CF) (w x:Int):Int:=if dj c=true∧0≤w∧w<c.1 then AK c w+x else -1
def Iq (c:CF) (w:Int):Int:=onW c w 0
def Ke (c:CF) (w:Int):Int:=onW c w 1
def r9 (c:CF) (w x:Int):Int:=onW c w (3+AS .u64 x (c.2.1 - 1))
def Rp (a b:Int):Int:=(a - b)%18446744073709551616
def eN (c:CF) (m:List Int) (f:FR):List Int×FR:=
 if uJ c m f 0 4=false then (m,f)
 else if f.2.1=0 then (m,f.1,1,f.2.2.1,f.2.2.2.1,ah m (Ke c f.2.2.1),f.2.2.2.2.2)
 else if f.2.1=1 then (if c.2.1≤Rp f.2.2.2.2.1 (ah m (Iq c f.2.2.1)) then (m,fy f 2 f.2.2.2.1) else (m,f.1,2,f.2.2.1,f.2.2.2.1,f.2.2.2.2.1,ah m (Iq c f.2.2.1),f.2.2.2.2.2.2))
 else if f.2.1=2 then (ar m (r9 c f.2.2.1 f.2.2.2.2.1) f.2.2.2.1,f.1,3,f.2.2)
 else (ar m (Ke c f.2.2.1) (fG f.2.2.2.2.1 1),fy f 1 f.2.2.2.1)
def lb (c:CF) (m:List Int) (f:FR):List Int×FR:=
 if uJ c m f 1 7=false then (m,f)
 else if f.2.1=0 then (m,f.1,1,f.2.2.1,f.2.2.2.1,Rp (ah m (Ke c f.2.2.1)) 1,f.2.2.2.2.2)
 else if f.2.1=1 then (ar m (Ke c f.2.2.1) f.2.2.2.2.1,f.1,2,f.2.2)
 else if f.2.1=2 then (m,f.1,if wC f.2.2.2.2.1 (ah m (Iq c f.2.2.1))<0 then 6 else 3,f.2.2.1,f.2.2.2.1,f.2.2.2.2.1,ah m (Iq c f.2.2.1),f.2.2.2.2.2.2)
 else if f.2.1=3 then (if f.2.2.2.2.1≠f.2.2.2.2.2.1 then (m,fy f 1 (ah m (r9 c f.2.2.1 f.2.2.2.2.1))) else (m,f.1,4,f.2.2.1,ah m (r9 c f.2.2.1 f.2.2.2.2.1),f.2.2.2.2))
 else if f.2.1=4 then (let r:=uc m (Iq c f.2.2.1) f.2.2.2.2.2.1 (fG f.2.2.2.2.2.1 1);(r.1,f.1,if r.2=true then 5 else 6,f.2.2))
 else if f.2.1=5 then (ar m (Ke c f.2.2.1) (fG f.2.2.2.2.1 1),fy f 1 f.2.2.2.1)
 else (ar m (Ke c f.2.2.1) (fG f.2.2.2.2.1 1),fy f 3 0)
def bv (c:CF) (m:List Int) (f:FR):List Int×FR:=
 if uJ c m f 2 4=false then (m,f)
 else if f.2.1=0 then (m,f.1,1,f.2.2.1,f.2.2.2.1,f.2.2.2.2.1,ah m (Iq c f.2.2.1),f.2.2.2.2.2.2)
 else if f.2.1=1 then (if wC (ah m (Ke c f.2.2.1)) f.2.2.2.2.2.1≤0 then (m,fy f 3 0) else (m,f.1,2,f.2.2.1,f.2.2.2.1,ah m (Ke c f.2.2.1),f.2.2.2.2.2))
 else if f.2.1=2 then (m,f.1,3,f.2.2.1,ah m (r9 c f.2.2.1 f.2.2.2.2.2.1),f.2.2.2.2)
 else (let r:=uc m (Iq c f.2.2.1) f.2.2.2.2.2.1 (fG f.2.2.2.2.2.1 1);if r.2=true then (r.1,fy f 1 f.2.2.2.1) else (r.1,fy f 4 0))
def C7 (c:CF) (m:List Int) (f:FR):List Int×FR:=if f.1=0 then eN c m f else if f.1=1 then lb c m f else if f.1=2 then bv c m f else (m,f)
def dG (c:CF) (m:List Int) (f:FR):List Int×FR:=if f.1=0∨f.1=1∨f.1=2 then C7 c m f else lm c m f
theorem adb (a b:Int):IntKind.u64.wrap (a - b)=Rp a b:=by rw [kg];rfl
theorem Vu (a b:Int):0≤Rp a b∧Rp a b≤18446744073709551615:=by unfold Rp;omega
theorem Fy {x D:Int} (h0:0≤x) (h1:x≤18446744073709551615) (hD:1≤D) (hE:D≤16):0≤AS .u64 x (D - 1)∧AS .u64 x (D - 1)≤D - 1:=by
 obtain ⟨a,rfl⟩:=Int.eq_ofNat_of_zero_le h0
 obtain ⟨b,hb⟩:∃ b:Nat,D - 1=(b:Int):=⟨(D - 1).toNat,by omega⟩
 rw [hb,VB (by omega) (by omega)]
 have:=Nat.and_le_right (n:=a) (m:=b)
 omega
theorem SS (c:CF) (w:Int):kL c w=some (Iq c w):=by
 unfold kL Iq onW
 try simp only [Prod.eta]
 rw [iM,ab]
 cases h:dj c with
 | false=>simp
 | true=>
  have hm:=aC h
  rw [Bool.not_true,cond_false,fw (by omega),abE,ab]
  by_cases h1:0≤w∧w≤c.1 - 1
  ·have ht:=dX h h1.1 (by omega)
   rw [decide_eq_true h1,Bool.not_true,cond_false,Gg h (by omega) (by omega),ab,if_pos ⟨rfl,by omega,by omega⟩,Int.add_zero]
  ·rw [decide_eq_false h1,Bool.not_false,cond_true,if_neg (by omega)]
theorem Pf (c:CF) (w:Int):dL c w=some (Ke c w):=by
 unfold dL Ke onW
 try simp only [Prod.eta]
 rw [iM,ab]
 cases h:dj c with
 | false=>simp
 | true=>
  have hm:=aC h
  rw [Bool.not_true,cond_false,fw (by omega),abE,ab]
  by_cases h1:0≤w∧w≤c.1 - 1
  ·have ht:=dX h h1.1 (by omega)
   rw [decide_eq_true h1,Bool.not_true,cond_false,Gg h (by omega) (by omega),ab,fw (by omega),if_pos ⟨rfl,by omega,by omega⟩]
  ·rw [decide_eq_false h1,Bool.not_false,cond_true,if_neg (by omega)]
theorem Qq (c:CF) (w:Int) {x:Int} (h0:0≤x) (hx:x≤18446744073709551615):gK c w x=some (r9 c w x):=by
 unfold gK r9 onW
 try simp only [Prod.eta]
 rw [iM,ab]
 cases h:dj c with
 | false=>simp
 | true=>
  have hm:=aC h
  rw [Bool.not_true,cond_false,fw (z:=c.1 - 1) (by omega),abE,ab]
  by_cases h1:0≤w∧w≤c.1 - 1
  ·have ht:=dX h h1.1 (by omega)
   have ha:=Fy h0 hx (show 1≤c.2.1 by omega) (by omega)
   rw [decide_eq_true h1,Bool.not_true,cond_false,Gg h (by omega) (by omega),ab,if_pos ⟨rfl,by omega,by omega⟩,fw (z:=c.2.1 - 1) (by omega),mF (z:=c.2.1 - 1) (by omega) (by omega),fw (z:=AS .u64 x (c.2.1 - 1)) (by omega),fw (z:=AK c w+3) (by omega),fw (by omega),Int.add_assoc]
  ·rw [decide_eq_false h1,Bool.not_false,cond_true,if_neg (by omega)]
section
variable (k:Nat) (c:CF) (m:List Int) (a2 a3 a4 a5:Int) (n:Nat) {x:List Int} (p q:Int)
theorem aeY:an k c m (2,1,a2,a3,a4,a5,0) (n+1) x p q 0=an k c m (2,1,a2,a3,a4,a5,0) n x p q 1:=by
 rw [an]
 rfl
theorem agx:an k c m (2,2,a2,a3,a4,a5,0) (n+1) x p q 0=an k c m (2,2,a2,a3,a4,a5,0) n x p q 1:=by
 rw [an]
 rfl
theorem aga:an k c m (2,2,a2,a3,a4,a5,0) (n+1) x p q 1=an k c m (2,2,a2,a3,a4,a5,0) n x p q 2:=by
 rw [an]
 rfl
theorem agq:an k c m (2,3,a2,a3,a4,a5,0) (n+1) x p q 0=an k c m (2,3,a2,a3,a4,a5,0) n x p q 1:=by
 rw [an]
 rfl
theorem ac9:an k c m (2,3,a2,a3,a4,a5,0) (n+1) x p q 1=an k c m (2,3,a2,a3,a4,a5,0) n x p q 2:=by
 rw [an]
 rfl
theorem ahF:an k c m (2,3,a2,a3,a4,a5,0) (n+1) x p q 2=an k c m (2,3,a2,a3,a4,a5,0) n x p q 3:=by
 rw [an]
 rfl
theorem aha:an k c m (2,0,a2,a3,a4,a5,0) (n+1) x p q 0=some (x,(2,1,a2,a3,a4,ah x p,0)):=by
 have e:an k c m (2,0,a2,a3,a4,a5,0) (n+1) x p q 0=ob (aJ x p) fun r=>some (x,(2,1,a2,a3,a4,r,0)):=by
  rw [an]
  rfl
 rw [e,ff,ab]
theorem af2:an k c m (2,1,a2,a3,a4,a5,0) (n+1) x p q 1=some (if wC (ah x q) a5≤0 then (x,(2,0,a2,0,0,0,3)) else (x,(2,2,a2,a3,ah x q,a5,0))):=by
 have e:an k c m (2,1,a2,a3,a4,a5,0) (n+1) x p q 1=ob (aJ x q) fun r=>ob (f7 r a5) fun y=>bif decide (y≤0) then some (x,(2,0,a2,0,0,0,3)) else some (x,(2,2,a2,a3,r,a5,0)):=by
  rw [an]
  rfl
 rw [e,ff,ab,Pr,ab]
 by_cases h:wC (ah x q) a5≤0
 ·rw [leT h,cond_true,if_pos h]
 ·rw [leF (by omega),cond_false,if_neg h]
theorem af3 (h0:0≤a5) (h1:a5≤18446744073709551615):an k c m (2,2,a2,a3,a4,a5,0) (n+1) x p q 2=some (x,(2,3,a2,ah x (r9 c a2 a5),a4,a5,0)):=by
 have e:an k c m (2,2,a2,a3,a4,a5,0) (n+1) x p q 2=ob (gK c a2 a5) fun s=>ob (aJ x s) fun r=>some (x,(2,3,a2,r,a4,a5,0)):=by
  rw [an]
  rfl
 rw [e,Qq c a2 h0 h1,ab,ff,ab]
theorem aet (hl:x.length≤1000):an k c m (2,3,a2,a3,a4,a5,0) (n+1) x p q 3=some (if (uc x p a5 (fG a5 1)).2=true then ((uc x p a5 (fG a5 1)).1,(2,0,a2,a3,0,0,1)) else ((uc x p a5 (fG a5 1)).1,(2,0,a2,0,0,0,4))):=by
 have e:an k c m (2,3,a2,a3,a4,a5,0) (n+1) x p q 3=ob (dJ x p a5 (IntKind.u64.wrap (a5+1))) fun r=>bif r.2 then some (r.1,(2,0,a2,a3,0,0,1)) else some (r.1,(2,0,a2,0,0,0,4)):=by
  rw [an]
  rfl
 rw [e,BS,Kr hl,ab]
 cases (uc x p a5 (fG a5 1)).2 <;> rfl
end
section
variable (c:CF) {m:List Int} (hm:Wm m) (hl:m.length≤1000) {f:FR} (hf:Wf f)
include hm hl hf
theorem Na:ma c m f=some (eN c m f):=by
 have _h:=hm
 unfold ma eN
 try simp only [Prod.eta]
 rw [bH (by omega),ab,Ly,ab]
 cases h:uJ c m f 0 4 with
 | false=>rfl
 | true=>
  obtain ⟨hmay,_,h6,h2,h2',h0,h1,h1'⟩:=FT h
  have hc:=aC hmay
  rw [cond_true,if_neg (by simp)]
  obtain ⟨a0,a1,a2,a3,a4,a5,a6⟩:=f
  simp only at h6 h2 h2' h0 h1 h1' ⊢
  obtain ⟨w3,w4,w5⟩:=hf
  simp only at w3 w4 w5
  rcases (show a1=0∨a1=1∨a1=2∨a1=3 by omega) with rfl | rfl | rfl | rfl
  ·simp [Pf,ff,ab]
  ·simp only [SS,ff,ab,lC,adb,mF (z:=c.2.1) (by omega) (by omega)]
   by_cases h5:c.2.1≤Rp a4 (ah m (Iq c a2))
   ·simp [h5,fy]
   ·simp [h5]
  ·simp only [Qq c a2 w4.1 w4.2,mh hl,ab]
   simp
  ·simp only [Pf,mh hl,ab,lC,BS]
   simp [fy]
theorem PQ:m9 c m f=some (lb c m f):=by
 have _h:=hm
 unfold m9 lb
 try simp only [Prod.eta]
 rw [bH (by omega),ab,Ly,ab]
 cases h:uJ c m f 1 7 with
 | false=>rfl
 | true=>
  obtain ⟨hmay,_,h6,h2,h2',h0,h1,h1'⟩:=FT h
  rw [Bool.not_true,cond_false,if_neg (by simp)]
  obtain ⟨a0,a1,a2,a3,a4,a5,a6⟩:=f
  simp only at h6 h2 h2' h0 h1 h1' ⊢
  obtain ⟨w3,w4,w5⟩:=hf
  simp only at w3 w4 w5
  rw [SS,ab,Pf,ab]
  have hw:∀ z:Int,0≤z→z≤100→IntKind.i64.wrap (z+1)=z+1:=fun z _ _=>fw (by omega)
  rcases (show a1=0∨a1=1∨a1=2∨a1=3∨a1=4∨a1=5∨a1=6 by omega) with rfl | rfl | rfl | rfl | rfl | rfl | rfl
  ·rw [hw 0 (by decide) (by decide)]
   simp [ff,ab,adb]
  ·rw [hw 1 (by decide) (by decide)]
   simp [mh hl,ab]
  ·rw [hw 2 (by decide) (by decide)]
   simp only [ff,ab,Pr]
   by_cases h5:wC a4 (ah m (Iq c a2))<0
   ·simp [h5]
   ·simp [h5]
  ·rw [hw 3 (by decide) (by decide)]
   simp only [Qq c a2 w4.1 w4.2,ff,ab,lC,E0]
   by_cases h5:a4=a5
   ·simp [h5]
   ·simp [h5,fy]
  ·rw [hw 4 (by decide) (by decide)]
   simp only [BS,Kr hl,ab]
   cases hc:(uc m (Iq c a2) a5 (fG a5 1)).2 <;> simp [hc]
  ·simp only [BS,mh hl,ab,lC]
   simp [fy]
  ·simp only [BS,mh hl,ab,lC]
   simp [fy]
theorem J0 (k:Nat):kO k c m f=some (bv c m f):=by
 have _h:=hm
 unfold kO bv
 try simp only [Prod.eta]
 rw [bH (by omega),ab,Ly,ab]
 cases h:uJ c m f 2 4 with
 | false=>rfl
 | true=>
  obtain ⟨hmay,_,h6,h2,h2',h0,h1,h1'⟩:=FT h
  rw [Bool.not_true,cond_false,if_neg (by simp)]
  obtain ⟨a0,a1,a2,a3,a4,a5,a6⟩:=f
  simp only at h6 h2 h2' h0 h1 h1' ⊢
  obtain ⟨w3,w4,w5⟩:=hf
  simp only at w3 w4 w5
  subst h6
  subst h0
  rw [SS,ab,Pf,ab]
  rcases (show a1=0∨a1=1∨a1=2∨a1=3 by omega) with rfl | rfl | rfl | rfl
  ·rw [if_pos rfl]
   exact aha k c m a2 a3 a4 a5 (k+22) _ _
  ·rw [if_neg (by decide),if_pos rfl]
   exact (aeY k c m a2 a3 a4 a5 (k+22) _ _).trans (af2 k c m a2 a3 a4 a5 (k+21) _ _)
  ·rw [if_neg (by decide),if_neg (by decide),if_pos rfl]
   exact (agx k c m a2 a3 a4 a5 (k+22) _ _).trans ((aga k c m a2 a3 a4 a5 (k+21) _ _).trans (af3 k c m a2 a3 a4 a5 (k+20) _ _ w5.1 w5.2))
  ·rw [if_neg (by decide),if_neg (by decide),if_neg (by decide)]
   exact (agq k c m a2 a3 a4 a5 (k+22) _ _).trans ((ac9 k c m a2 a3 a4 a5 (k+21) _ _).trans ((ahF k c m a2 a3 a4 a5 (k+20) _ _).trans (aet k c m a2 a3 a4 a5 (k+19) _ _ hl)))
theorem Ot (k:Nat):fB k c m f=some (C7 c m f):=by
 unfold fB C7
 simp only [Prod.eta,Na c hm hl hf,PQ c hm hl hf,J0 c hm hl hf,ab,nM]
 by_cases h0:f.1=0
 ·simp [h0]
 ·by_cases h1:f.1=1
  ·simp [h1]
  ·by_cases h2:f.1=2
   ·simp [h2]
   ·simp [h0,h1,h2,bH (b:=8) (l:=m) (by omega),ab]
end
end Go.Ab
set_option maxRecDepth 100000
set_option linter.unusedVariables false
namespace Go.Ab
structure FwT (t:Tyt):Prop where
 len:t.length≤40
 kids:∀ x ∈ t,x.2.length≤40
theorem adq {t:Tyt} (h:adW t=true):FwT t:=by
 simp only [adW,Bool.and_eq_true,decide_eq_true_eq,List.all_eq_true] at h
 refine ⟨h.2,fun x hx=>h.1 x ?_⟩
 rwa [List.take_of_length_le (by omega)]
theorem FwT.wt {t:Tyt} (h:FwT t):Wt t:=⟨by have:=h.len;omega,fun x hx=>by have:=h.kids x hx;omega⟩
def nY (t:Tyt) (q:Int):Int×List Int:=(t[q.toNat]?).getD (0,[])
def Hy (t:Tyt) (x:Int×Int×Int):Bool:=
 decide (0≤x.1)&&decide (x.1<t.length)&&(decide (0≤x.2.1)&&decide (x.2.1≤(nY t x.1).1))&&(decide (0≤x.2.2)&&decide (x.2.2≤((nY t x.1).2.length:Int))) &&
  !(decide (x.2.1<(nY t x.1).1)&&decide (0<x.2.2))
def cG (t:Tyt) (s:Tye):Bool:=nQ t&&s.all (Hy t)
theorem Qw {t:Tyt} {q:Int} (h0:0≤q) (h1:q<t.length):idx t q=some (nY t q):=by
 rw [idx,if_pos h0,nY,List.getElem?_eq_getElem (by omega)]
 rfl
theorem Ft {t:Tyt} {q:Int} (h0:0≤q) (h1:q<t.length):nY t q ∈ t:=by
 rw [nY,List.getElem?_eq_getElem (show q.toNat<t.length by omega)]
 exact List.getElem_mem _
theorem Kh {α:Type} (b:Nat) (l:List α) (h:l.length*b≤70368744177664):aN b l=some l:=by
 unfold aN
 rw [apG,decide_eq_true h,bC]
theorem agA (a b:Int):gP a b=some (decide (0≤a)&&decide (a≤b)):=by
 rw [gP]
 cases decide ((0:Int)≤a) <;> rfl
section
variable (k:Nat) (hk:9223372036854775808≤k)
include hk
theorem RN (t:Tyt) (ht:Wt t) (s:Tye) (hs:s.length≤9223372036854775807):gw k t s=some (cG t s):=by
 have hlen:=ht.len
 rw [gw,EW k hk t ht,ab,cG]
 cases hm:nQ t with
 | false=>rfl
 | true=>
  have h30:=CC hm
  rw [cond_true,C4 (F:=fun n i=>bY k n s (s.length:Int) t i) (l:=s) (fun x => !Hy t x) ?_ ?_ _ (by omega),ab,mV]
  ·rw [List.all_eq_not_any_not,Bool.true_and]
  ·intro n
   simp only [bY,pd,cond_false]
  ·intro n i x hi hx
   simp only [bY,ltN hi,cond_true,fA hx,ab,agA]
   rw [ga (by omega),fw (z:=(t.length:Int) - 1) (by omega)]
   have e0:decide (x.1≤(t.length:Int) - 1)=decide (x.1<(t.length:Int)):=by
    by_cases h:x.1<(t.length:Int)
    ·rw [decide_eq_true h,decide_eq_true (by omega)]
    ·rw [decide_eq_false h,decide_eq_false (by omega)]
   rw [e0]
   unfold Hy
   by_cases h0:0≤x.1
   ·by_cases h1:x.1<(t.length:Int)
    ·rw [leT h0,ltT h1,Qw h0 h1,ab]
     simp only [Bool.and_self,Bool.not_true,cond_false,Bool.true_and]
     cases (decide (0≤x.2.1)&&decide (x.2.1≤(nY t x.1).1)) with
     | false=>rfl
     | true=>
      cases (decide (0≤x.2.2)&&decide (x.2.2≤((nY t x.1).2.length:Int))) with
      | false=>rfl
      | true=>
       cases decide (x.2.1<(nY t x.1).1) with
       | false=>rfl
       | true=>cases decide (0<x.2.2) <;> rfl
    ·rw [ltF (show (t.length:Int)≤x.1 by omega)]
     simp
   ·rw [leF (show x.1<0 by omega)]
    simp
end
def ea (t:Tyt) (s:Tye):Int×Int:=
 match s.getLast? with
 | none=>(0,0)
 | some x=>if cG t s=false then (0,0) else if x.2.1<(nY t x.1).1 then (1,x.1) else if x.2.2<((nY t x.1).2.length:Int) then (2,((nY t x.1).2[x.2.2.toNat]?).getD 0) else (3,x.1)
def doB (t:Tyt) (s:Tye):Tye:=
 match s.getLast? with
 | none=>s
 | some x=>if cG t s=false then s else if x.2.1<(nY t x.1).1 then s.dropLast++[(x.1,x.2.1+1,x.2.2)] else if x.2.2<((nY t x.1).2.length:Int) then s.dropLast++[(x.1,x.2.1,x.2.2+1)] else s.dropLast
def iU (t:Tyt) (s:Tye) (q:Int):Tye:=
 if cG t s=true∧0≤q∧q<t.length then s++[(q,0,0)] else s
def Q4 (t:Tyt) (x:Int×Int×Int):Int:=(nY t x.1).1 - x.2.1+((nY t x.1).2.length:Int) - x.2.2+1
def Nu (t:Tyt) (s:Tye):Int:=if cG t s=true then (s.map (Q4 t)).sum else 0
theorem lQ {α:Type} (s:List α):s=[]∨∃ r x,s=r++[x]:=by
 rcases List.eq_nil_or_concat s with h | ⟨r,x,h⟩
 ·exact .inl h
 ·exact .inr ⟨r,x,by rw [h,List.concat_eq_append]⟩
theorem K3 {α:Type} (r:List α) (x:α):(((r++[x]).length:Nat):Int) - 1=(r.length:Int):=by simp
theorem KZ {α:Type} (r:List α) (x:α):(r++[x])[r.length]? = some x:=by simp
theorem UM {α:Type} (r:List α) (x y:α):(r++[x]).set r.length y=r++[y]:=by simp
theorem Pt {α:Type} (r:List α) (x:α):(r++[x]).take r.length=r:=by simp
theorem pI (t:Tyt) (r:Tye) (x:Int×Int×Int):ea t (r++[x])=if cG t (r++[x])=false then (0,0) else if x.2.1<(nY t x.1).1 then (1,x.1) else if x.2.2<((nY t x.1).2.length:Int) then (2,((nY t x.1).2[x.2.2.toNat]?).getD 0) else (3,x.1):=by
 simp [ea]
theorem AQ (t:Tyt) (r:Tye) (x:Int×Int×Int):doB t (r++[x])=if cG t (r++[x])=false then r++[x] else if x.2.1<(nY t x.1).1 then r++[(x.1,x.2.1+1,x.2.2)] else if x.2.2<((nY t x.1).2.length:Int) then r++[(x.1,x.2.1,x.2.2+1)] else r:=by
 simp [doB]
theorem ab8 (t:Tyt) (s:Tye):(doB t s).length≤s.length:=by
 rcases lQ s with rfl | ⟨r,x,rfl⟩
 ·simp [doB]
 ·rw [AQ]
  split
  ·exact Nat.le_refl _
  ·split
   ·simp
   ·split <;> simp
theorem NE (t:Tyt) (s:Tye) (q:Int):(iU t s q).length≤s.length+1:=by
 unfold iU
 split <;> simp
structure It (t:Tyt) (x:Int×Int×Int):Prop where
 h0:0≤x.1
 h1:x.1<t.length
 d0:0≤x.2.1
 d1:x.2.1≤(nY t x.1).1
 c0:0≤x.2.2
 c1:x.2.2≤((nY t x.1).2.length:Int)
 z:x.2.1<(nY t x.1).1→x.2.2=0
theorem ME {t:Tyt} {x:Int×Int×Int}:Hy t x=true↔It t x:=by
 simp only [Hy,Bool.and_eq_true,decide_eq_true_eq,Bool.not_eq_true',Bool.and_eq_false_iff,decide_eq_false_iff_not]
 constructor
 ·rintro ⟨⟨⟨⟨a,b⟩,c,d⟩,e,f⟩,g⟩
  exact ⟨a,b,c,d,e,f,fun h=>by rcases g with g | g <;> omega⟩
 ·rintro ⟨a,b,c,d,e,f,g⟩
  refine ⟨⟨⟨⟨a,b⟩,c,d⟩,e,f⟩,?_⟩
  by_cases h:x.2.1<(nY t x.1).1
  ·exact .inr (by have:=g h;omega)
  ·exact .inl h
theorem iV {t:Tyt} {r:Tye} {x:Int×Int×Int}:cG t (r++[x])=true↔nQ t=true∧(∀ y ∈ r,It t y)∧It t x:=by
 simp only [cG,Bool.and_eq_true,List.all_eq_true,List.mem_append,List.mem_singleton,ME]
 constructor
 ·rintro ⟨a,b⟩
  exact ⟨a,fun y hy=>b y (.inl hy),b x (.inr rfl)⟩
 ·rintro ⟨a,b,c⟩
  refine ⟨a,fun y hy => ?_⟩
  rcases hy with h | rfl
  ·exact b y h
  ·exact c
theorem nJ {t:Tyt} {r:Tye}:cG t r=true↔nQ t=true∧(∀ y ∈ r,It t y):=by
 simp only [cG,Bool.and_eq_true,List.all_eq_true,ME]
section
variable (k:Nat) (hk:9223372036854775808≤k)
include hk
theorem O5 (t:Tyt) (ht:Wt t) (s:Tye) (hs:s.length≤1048576):eF k t s=some (ea t s):=by
 rw [eF]
 rcases lQ s with rfl | ⟨r,x,rfl⟩
 ·rfl
 ·have hr:r.length+1≤1048576:=by simpa using hs
  have e1:((((r++[x]).length:Nat):Int)==0)=false:=by simp;omega
  rw [e1,cond_false,RN k hk t ht _ (by omega),ab,pI]
  cases h:cG t (r++[x]) with
  | false=>rfl
  | true=>
   obtain ⟨hm,hr',hx⟩:=iV.1 h
   have hl:=ht.kids _ (Ft hx.h0 hx.h1)
   rw [Bool.not_true,cond_false,K3,fw (by omega),fA (KZ r x),ab,Qw hx.h0 hx.h1,ab,if_neg (show ¬ (true=false) by simp)]
   by_cases h1:x.2.1<(nY t x.1).1
   ·rw [ltT h1,cond_true,if_pos h1]
   ·rw [ltF (by omega),cond_false,if_neg h1]
    by_cases h2:x.2.2<((nY t x.1).2.length:Int)
    ·have:=hx.c0
     rw [ltT h2,cond_true,if_pos h2,idx,if_pos hx.c0,List.getElem?_eq_getElem (by omega),ab]
     rfl
    ·rw [ltF (by omega),cond_false,if_neg h2]
theorem anu (t:Tyt) (ht:Wt t) (s:Tye) (hs:s.length≤1048576):gS k t s=some (doB t s):=by
 rw [gS,Kh _ _ (by omega),ab,O5 k hk t ht s hs,ab]
 rcases lQ s with rfl | ⟨r,x,rfl⟩
 ·rfl
 ·have hr:r.length+1≤1048576:=by simpa using hs
  rw [K3,fw (by omega),pI,AQ,Int.toNat_natCast,KZ,Pt]
  simp only [UM,ab]
  have e1:decide ((0:Int)≤(r.length:Int)∧r.length<(r++[x]).length)=true:=by simp
  have e2:decide ((0:Int)≤(r.length:Int)∧r.length≤(r++[x]).length)=true:=by simp
  have e3:decide (r.length≤(r++[x]).length)=true:=by simp
  rw [e1,e2,e3]
  cases h:cG t (r++[x]) with
  | false=>rfl
  | true=>
   obtain ⟨hm,hr',hx⟩:=iV.1 h
   have hw:=(B4 hm).work _ (Ft hx.h0 hx.h1)
   have hl:=ht.kids _ (Ft hx.h0 hx.h1)
   have:=hx.d0
   have:=hx.c0
   rw [if_neg (show ¬ (true=false) by simp),if_neg (show ¬ (true=false) by simp)]
   by_cases h1:x.2.1<(nY t x.1).1
   ·rw [if_pos h1,if_pos h1]
    simp only [beq_self_eq_true,cond_true]
    rw [fw (by omega)]
   ·rw [if_neg h1,if_neg h1]
    by_cases h2:x.2.2<((nY t x.1).2.length:Int)
    ·rw [if_pos h2,if_pos h2]
     simp only [Int.reduceBEq,cond_true,cond_false]
     rw [fw (by omega)]
    ·rw [if_neg h2,if_neg h2]
     rfl
theorem Sz (t:Tyt) (ht:Wt t) (s:Tye) (hs:s.length≤1048576) (q:Int):dU k t s q=some (iU t s q):=by
 have hlen:=ht.len
 rw [dU,Kh _ _ (by omega),ab,RN k hk t ht s (by omega),ab,iU]
 cases h:cG t s with
 | false=>simp
 | true=>
  have h30:=CC (nJ.1 h).1
  rw [Bool.not_true,cond_false,agA,ab,fw (by omega)]
  by_cases h0:0≤q
  ·by_cases h1:q<t.length
   ·have e2:room (s++[(q,(0:Int),(0:Int))]).length 24=true:=As (by simp;omega)
    rw [leT h0,leT (show q≤(t.length:Int) - 1 by omega),Bool.and_self,Bool.not_true,cond_false,e2,cond_true,if_pos ⟨rfl,h0,h1⟩]
   ·rw [leF (show (t.length:Int) - 1<q by omega),if_neg (by omega)]
    simp
  ·rw [leF (show q<0 by omega),if_neg (by omega)]
   simp
end
theorem aex {t:Tyt} {q:Int} (hm:nQ t=true) (h0:0≤q) (h1:q<t.length):It t (q,0,0):=
 ⟨h0,h1,by simp,((B4 hm).work _ (Ft h0 h1)).1,by simp,by simp,fun _=>rfl⟩
theorem BX {t:Tyt} {r:Tye} {x:Int×Int×Int} (h:cG t (r++[x])=true):Nu t (r++[x])=Nu t r+Q4 t x:=by
 obtain ⟨a,b,c⟩:=iV.1 h
 rw [Nu,if_pos h,Nu,if_pos (nJ.2 ⟨a,b⟩),List.map_append,List.sum_append]
 simp
theorem Um {t:Tyt} {r:Tye} {x:Int×Int×Int} (h:cG t (r++[x])=true):cG t (doB t (r++[x]))=true∧Nu t (doB t (r++[x]))=Nu t (r++[x]) - 1:=by
 obtain ⟨a,b,c⟩:=iV.1 h
 obtain ⟨q0,q1,q2,q3,q4,q5,q6⟩:=c
 rw [BX h,AQ,if_neg (by simp [h])]
 split
 ·rename_i h1
  have h2:cG t (r++[(x.1,x.2.1+1,x.2.2)])=true:=iV.2 ⟨a,b,⟨q0,q1,by simp only;omega,by simp only;omega,q4,q5,fun _=>q6 h1⟩⟩
  refine ⟨h2,?_⟩
  rw [BX h2]
  unfold Q4
  simp only
  omega
 ·rename_i h1
  split
  ·rename_i h3
   have h2:cG t (r++[(x.1,x.2.1,x.2.2+1)])=true:=iV.2 ⟨a,b,⟨q0,q1,q2,q3,by simp only;omega,by simp only;omega,fun h=>absurd h h1⟩⟩
   refine ⟨h2,?_⟩
   rw [BX h2]
   unfold Q4
   simp only
   omega
  ·rename_i h3
   refine ⟨nJ.2 ⟨a,b⟩,?_⟩
   unfold Q4
   omega
end Go.Ab
set_option linter.unusedVariables false
namespace Go.Ab
abbrev WB:=Int×Tye×FR×Int×Int
def AB (op w v:Int):FR:=(op,0,w,v,0,0,0)
def eA (c:CF) (t:Tyt) (m:List Int) (w:Int) (x:WB):Bool:=dj c&&decide ((m.length:Int)=bN c)&&nQ t&&decide (0≤w∧w<c.1∧0≤x.1∧x.1<16)&&cG t x.2.1
def Df (d w W:Int):Int:=if W<2∨w<0∨W≤w then -1 else (w+1+d%(W - 1))%W
def toW (pc:Int) (x:WB):WB:=(pc,x.2.1,dx,x.2.2.2)
def lq (pc op w v:Int) (x:WB):WB:=(pc,x.2.1,AB op w v,x.2.2.2)
def Bo:Int:=18446744073709551615
def OI (v:Int):Int:=IntKind.i64.wrap v
abbrev WR:=List Int×WB×List EV
def IQ (c:CF) (t:Tyt) (m:List Int) (w:Int) (x:WB):WR:=
 let r:=dG c m x.2.2.1
 if ew r.2=false then (r.1,(x.1,x.2.1,r.2,x.2.2.2),[])
 else if r.2.2.2.2.2.2.2≠1 then (r.1,toW 1 x,[])
 else (r.1,(9,iU t x.2.1 (OI r.2.2.2.2.1),dx,x.2.2.2),[(2,OI r.2.2.2.2.1,w)])
def Ax (c:CF) (m:List Int) (w:Int) (x:WB):WR:=(ar m 1 (fG (ah m 1) 1),(2,x.2.1,AB 4 w 0,c.2.2.2,x.2.2.2.2),[])
def oo (c:CF) (m:List Int) (w:Int) (x:WB) (d:Int):WR:=
 let r:=dG c m x.2.2.1
 if ew r.2=false then (r.1,(x.1,x.2.1,r.2,x.2.2.2),[])
 else if r.2.2.2.2.2.2.2=1 then (r.1,(4,x.2.1,r.2,x.2.2.2),[])
 else if x.1=2∧0≤Df d w c.1 then (r.1,lq 3 2 (Df d w c.1) 0 x,[])
 else if x.2.2.2.1≤0 then (r.1,lq 5 5 w 0 x,[])
 else (r.1,(2,x.2.1,AB 4 w 0,x.2.2.2.1 - 1,x.2.2.2.2),[])
def ml (t:Tyt) (m:List Int) (w:Int) (x:WB):WR:=
 (ar m 1 (fG (ah m 1) Bo),(if ah m 1=1 then 14 else 9,iU t x.2.1 (OI x.2.2.1.2.2.2.1),if ah m 1=1 then AB 6 w 0 else dx,x.2.2.2),[(2,OI x.2.2.1.2.2.2.1,w)])
def wT (c:CF) (m:List Int) (x:WB):WR:=let r:=dG c m x.2.2.1;(r.1,(6,x.2.1,r.2,x.2.2.2),[])
def oF (m:List Int) (x:WB):WR:=(ar m 1 (fG (ah m 1) Bo),(7,x.2.1,x.2.2.1,x.2.2.2.1,0),[])
def Fx (f:FR) (v:Int):FR:=(f.1,f.2.1,f.2.2.1,v,f.2.2.2.2)
def fc (c:CF) (m:List Int) (x:WB):WR:=
 let k:=x.2.2.2.2
 let most:=2+2*c.1
 let v:=(k - 2)/2
 if k<0∨most≤k then (m,(8,x.2.1,Fx x.2.2.1 0,x.2.2.2.1,0),[])
 else
  let f:=if k=0 then Fx x.2.2.1 (ah m 4) else if k=1 then x.2.2.1 else if k%2=0 then Fx x.2.2.1 (ah m (Iq c v)) else x.2.2.1
  let some:=if k=0 then false else if k=1 then decide (ah m 5≠f.2.2.2.1) else if k%2=0 then false else decide (0<wC (ah m (Ke c v)) f.2.2.2.1)
  if some=true then (m,toW 1 x,[])
  else if k+1=most then (m,(8,x.2.1,Fx f 0,x.2.2.2.1,0),[])
  else (m,(7,x.2.1,f,x.2.2.2.1,k+1),[])
def gU (c:CF) (m:List Int) (x:WB):WR:=let r:=dG c m x.2.2.1;if ew r.2=true then (r.1,toW 1 x,[]) else (r.1,(x.1,x.2.1,r.2,x.2.2.2),[])
def K9 (t:Tyt) (m:List Int) (w:Int) (x:WB):WR:=
 let a:=ea t x.2.1
 if a.1=1 then (m,(x.1,doB t x.2.1,x.2.2),[]) else if a.1=2 then (m,(10,x.2),[]) else if a.1=3 then (m,(15,x.2),[]) else (m,lq 0 1 w 0 x,[])
def u3 (t:Tyt) (m:List Int) (w:Int) (x:WB):WR:=
 let a:=ea t x.2.1
 if a.1≠2 then (m,toW 9 x,[]) else (ar m 0 (fG (ah m 0) 1),(11,doB t x.2.1,AB 0 w (IntKind.u64.wrap a.2),x.2.2.2),[(3,a.2,w)])
def rX (c:CF) (m:List Int) (w:Int) (x:WB):WR:=
 let r:=dG c m x.2.2.1
 if ew r.2=false then (r.1,(x.1,x.2.1,r.2,x.2.2.2),[]) else if r.2.2.2.2.2.2.2=2 then (r.1,lq 12 3 w r.2.2.2.2.1 x,[]) else (r.1,toW 13 x,[])
def rS (c:CF) (t:Tyt) (m:List Int) (w:Int) (x:WB):WR:=
 let r:=dG c m x.2.2.1
 if ew r.2=false then (r.1,(x.1,x.2.1,r.2,x.2.2.2),[])
 else if r.2.2.2.2.2.2.2=2 then (r.1,(9,iU t x.2.1 (OI r.2.2.2.2.1),dx,x.2.2.2),[(2,OI r.2.2.2.2.1,w)]) else (r.1,toW 13 x,[])
def IX (m:List Int) (w:Int) (x:WB):WR:=if ah m 1=0 then (m,lq 14 6 w 0 x,[]) else (m,toW 9 x,[])
def uq (c:CF) (m:List Int) (x:WB):WR:=let r:=dG c m x.2.2.1;if ew r.2=true then (r.1,toW 9 x,[]) else (r.1,(x.1,x.2.1,r.2,x.2.2.2),[])
def uE (t:Tyt) (m:List Int) (w:Int) (x:WB):WR:=
 let a:=ea t x.2.1
 if a.1≠3 then (m,toW 9 x,[])
 else (ar m 0 (fG (ah m 0) Bo),(if doB t x.2.1=[] then (0,[],AB 1 w 0,x.2.2.2) else (9,doB t x.2.1,dx,x.2.2.2)),if ah m 0=1 then [(4,a.2,w),(5,0,w)] else [(4,a.2,w)])
def br (c:CF) (t:Tyt) (m:List Int) (w:Int) (x:WB) (d:Int):WR:=
 if eA c t m w x=false then (m,x,[])
 else if x.1=0 then IQ c t m w x else if x.1=1 then Ax c m w x else if x.1=2∨x.1=3 then oo c m w x d else if x.1=4 then ml t m w x
 else if x.1=5 then wT c m x else if x.1=6 then oF m x else if x.1=7 then fc c m x else if x.1=8 then gU c m x
 else if x.1=9 then K9 t m w x else if x.1=10 then u3 t m w x else if x.1=11 then rX c m w x else if x.1=12 then rS c t m w x
 else if x.1=13 then IX m w x else if x.1=14 then uq c m x else uE t m w x
theorem agw {d w W:Int} (hd:0≤d∧d≤18446744073709551615) (hW:W≤8):fW d w W=some (Df d w W):=by
 unfold fW Df
 by_cases h2:W<2
 ·rw [ltT h2,cond_true,if_pos (.inl h2)]
 ·rw [ltF (by omega),cond_false]
  unfold cM
  by_cases h0:0≤w
  ·rw [leT h0,cond_true]
   by_cases h1:w<W
   ·rw [ltT h1,ab,Bool.not_true,cond_false,if_neg (by omega),mF (z:=W) (by omega) (by omega),mF (z:=W - 1) (by omega) (by omega),mF (z:=w) (by omega) (by omega),mF (z:=w+1) (by omega) (by omega),E0,decide_eq_false (by omega),Bool.not_false,cond_true,E0,decide_eq_false (by omega),Bool.not_false,cond_true,Int.tmod_eq_emod_of_nonneg hd.1]
    have e1:=Int.emod_nonneg d (show W - 1≠0 by omega)
    have e2:=Int.emod_lt_of_pos d (show 0<W - 1 by omega)
    have e3:=Int.emod_nonneg (w+1+d%(W - 1)) (show W≠0 by omega)
    have e4:=Int.emod_lt_of_pos (w+1+d%(W - 1)) (show 0<W by omega)
    rw [mF (by omega) (by omega),Int.tmod_eq_emod_of_nonneg (by omega),fw (by omega)]
   ·rw [ltF (by omega),ab,Bool.not_false,cond_true,if_pos (by omega)]
  ·rw [leF (by omega),cond_false,ab,Bool.not_false,cond_true,if_pos (by omega)]
theorem Qc {k:Nat} (hk:9223372036854775808≤k) (c:CF) {t:Tyt} (ht:Wt t) (m:List Int) (w:Int) (x:WB) (hs:x.2.1.length≤9000):lV k c t m w x=some (eA c t m w x):=by
 unfold lV eA
 simp only [Prod.eta,iM,D7,ab]
 rw [EW (k+4) (by omega) t ht,RN (k+3) (by omega) t ht x.2.1 (by omega)]
 cases hm:dj c with
 | false=>rfl
 | true=>
  rw [cond_true,nM,Bool.true_and]
  by_cases h1:(m.length:Int)=bN c
  ·rw [decide_eq_true h1,cond_true,Bool.true_and,ab]
   cases ht2:nQ t with
   | false=>rfl
   | true=>
    rw [cond_true,Bool.true_and]
    by_cases h2:0≤w
    ·rw [leT h2,cond_true]
     by_cases h3:w<c.1
     ·rw [ltT h3,cond_true]
      by_cases h4:0≤x.1
      ·rw [leT h4,cond_true]
       by_cases h5:x.1<16
       ·rw [ltT h5,cond_true,ab,decide_eq_true ⟨h2,h3,h4,h5⟩,Bool.true_and]
       ·rw [ltF (by omega),cond_false,decide_eq_false (by omega)];rfl
      ·rw [leF (by omega),cond_false,decide_eq_false (by omega)];rfl
     ·rw [ltF (by omega),cond_false,decide_eq_false (by omega)];rfl
    ·rw [leF (by omega),cond_false,decide_eq_false (by omega)];rfl
  ·rw [decide_eq_false h1,cond_false]
   rfl
theorem aak (w:Int):pV w=some (0,[],AB 1 w 0,0,0):=rfl
end Go.Ab
set_option linter.unusedVariables false
set_option linter.unusedSimpArgs false
set_option maxRecDepth 100000
set_option maxHeartbeats 4000000
namespace Go.Ab
theorem b6 (op w v:Int):aK op w v=some (AB op w v):=rfl
theorem Ge:room 1 24=true:=rfl
theorem aer:room 2 24=true:=rfl
theorem AW {a b:Int} (h:a=b):(a==b)=true:=by simp [h]
theorem bQ {a b:Int} (h:a≠b):(a==b)=false:=by simp [h]
theorem Oe (c:CF) (m:List Int) (f:FR):(C7 c m f=dG c m f∧((f.1==0)=true∨(f.1==0)=false∧((f.1==1)=true∨(f.1==1)=false∧(f.1==2)=true)))∨(CZ c m f=dG c m f∧(f.1==0)=false∧(f.1==1)=false∧(f.1==2)=false∧((f.1==3)=true∨(f.1==3)=false∧(f.1==4)=true))∨(Kf c m f=dG c m f∧(f.1==0)=false∧(f.1==1)=false∧(f.1==2)=false∧(f.1==3)=false∧(f.1==4)=false):=by
 unfold dG lm
 simp only [nM,decide_eq_true_eq,decide_eq_false_iff_not]
 by_cases h:f.1=0∨f.1=1∨f.1=2
 ·rw [if_pos h];exact .inl ⟨rfl,by omega⟩
 ·rw [if_neg h]
  by_cases g:f.1=3∨f.1=4
  ·rw [if_pos g];exact .inr (.inl ⟨rfl,by omega⟩)
  ·rw [if_neg g];exact .inr (.inr ⟨rfl,by omega⟩)
section
variable {k:Nat} (hk:9223372036854779000≤k) (c:CF) {t:Tyt} (ht:Wt t) {m:List Int} (hm:Wm m) (hl:m.length≤1000) (w:Int) {x:WB} (hf:Wf x.2.2.1) (hs:x.2.1.length≤9000) (hsp:x.2.2.2.1≤9223372036854775807) {d:Int} (hd:0≤d∧d≤18446744073709551615)
include hk ht hm hl hf hs hsp hd
theorem Z8 {β:Type} (K:List Int×FR→Option β):Cm k c m x.2.2.1 K=K (dG c m x.2.2.1):=by
 have _h:=And.intro hsp hd
 have _h2:=And.intro ht hs
 have hdk:=Ot c hm hl hf (k+31)
 have hij:=Gd c hm hl hf
 have hev:=HW (k:=k+40) (by omega) c hm hl hf
 unfold Cm
 rcases Oe c m x.2.2.1 with ⟨h,e | ⟨e,e1 | e1⟩⟩ | ⟨h,e,e1,e2,e3 | e3⟩ | ⟨h,e⟩
 all_goals simp only [*,cond_true,cond_false,ab]
theorem Ti:iZ k c t m w x d=some (br c t m w x d):=by
 have _h1:=hsp
 have _h2:=hd
 unfold iZ
 try simp only [Prod.eta]
 rw [bH (by omega),ab,bH (by omega),ab,Qc (by omega) c ht m w x hs,ab]
 cases hmay:eA c t m w x with
 | false=>
  unfold br
  rw [hmay]
  rfl
 | true=>
  rw [Bool.not_true,cond_false]
  have hb:dj c=true∧(m.length:Int)=bN c∧0≤w∧w<c.1∧0≤x.1∧x.1<16:=by
   unfold eA at hmay
   simp only [Bool.and_eq_true,decide_eq_true_eq] at hmay
   exact ⟨hmay.1.1.1.1,hmay.1.1.1.2,hmay.1.2⟩
  obtain ⟨hmc,hlen,hw0,hw1,hp0,hp1⟩:=hb
  have hc:=aC hmc
  have hsz:=uY hmc
  have hadd:∀ i v:Int,0≤i→i<2→dI m i v=some (ar m i (fG (ah m i) v),ah m i):=fun i v h0 h1=>by rw [agU hl,if_pos (by omega)]
  have hcg:=fun K=>Z8 (k:=k) (β:=List Int×WB×List EV) hk c ht hm hl hf hs hsp hd K
  have hst:=fun q=>Sz (k+36) (by omega) t ht x.2.1 (by omega) q
  have hdo:=anu (k+36) (by omega) t ht x.2.1 (by omega)
  have hnx:=O5 (k+37) (by omega) t ht x.2.1 (by omega)
  have hvi:=agw (w:=w) (W:=c.1) hd (by omega)
  rcases (show x.1=0∨x.1=1∨x.1=2∨x.1=3∨x.1=4∨x.1=5∨x.1=6∨x.1=7∨x.1=8∨x.1=9∨x.1=10∨x.1=11∨x.1=12∨x.1=13∨x.1=14∨x.1=15 by omega) with hp | hp | hp | hp | hp | hp | hp | hp | hp | hp | hp | hp | hp | hp | hp | hp
  ·have hW:br c t m w x d=IQ c t m w x:=by unfold br;rw [hmay];simp [hp]
   rw [hW]
   rw [AW hp,cond_true]
   unfold IQ
   rw [hcg]
   simp only [cond_true,cond_false,ab,m7,Prod.eta,b6]
   generalize dG c m x.2.2.1=r
   cases ho:ew r.2 with
   | false=>simp [ho,hp]
   | true=>
    by_cases h9:r.2.2.2.2.2.2.2=1
    ·simp [ho,h9,hst,ab,Ge,dx,OI]
    ·have q9:(r.2.2.2.2.2.2.2 !=1)=true:=by simp [h9]
     simp [ho,h9,q9,toW,dx]
  ·have hW:br c t m w x d=Ax c m w x:=by unfold br;rw [hmay];simp [hp]
   rw [hW]
   rw [bQ (show x.1≠0 by omega),cond_false,AW hp,cond_true]
   rw [hadd 1 1 (by decide) (by decide),ab,b6,ab]
   rfl
  ·have hW:br c t m w x d=oo c m w x d:=by unfold br;rw [hmay];simp [hp]
   rw [hW]
   rw [bQ (show x.1≠0 by omega),cond_false,bQ (show x.1≠1 by omega),cond_false,AW hp,cond_true]
   rw [hvi,ab]
   unfold oo
   rw [hcg]
   simp only [cond_true,cond_false,ab,m7,Prod.eta,b6,AW hp]
   generalize dG c m x.2.2.1=r
   cases ho:ew r.2 with
   | false=>simp [ho,hp]
   | true=>
    by_cases h9:r.2.2.2.2.2.2.2=1
    ·simp [ho,h9]
    ·have q9:=bQ h9
     by_cases h8:0≤Df d w c.1
     ·simp [ho,h9,q9,hp,h8,lq]
     ·by_cases h7:x.2.2.2.1≤0
      ·simp [ho,h9,q9,hp,h8,h7,lq]
      ·rw [fw (z:=x.2.2.2.1 - 1) (by omega)]
       simp [ho,h9,q9,hp,h8,h7,lq]
  ·have hW:br c t m w x d=oo c m w x d:=by unfold br;rw [hmay];simp [hp]
   rw [hW]
   rw [bQ (show x.1≠0 by omega),cond_false,bQ (show x.1≠1 by omega),cond_false,bQ (show x.1≠2 by omega),cond_false,AW hp,cond_true]
   rw [hvi,ab]
   unfold oo
   rw [hcg]
   simp only [cond_true,cond_false,ab,m7,Prod.eta,b6,bQ (show x.1≠2 by omega)]
   generalize dG c m x.2.2.1=r
   cases ho:ew r.2 with
   | false=>simp [ho,hp]
   | true=>
    by_cases h9:r.2.2.2.2.2.2.2=1
    ·simp [ho,h9]
    ·have q9:=bQ h9
     by_cases h7:x.2.2.2.1≤0
     ·simp [ho,h9,q9,hp,h7,lq]
     ·rw [fw (z:=x.2.2.2.1 - 1) (by omega)]
      simp [ho,h9,q9,hp,h7,lq]
  ·have hW:br c t m w x d=ml t m w x:=by unfold br;rw [hmay];simp [hp]
   rw [hW]
   rw [bQ (show x.1≠0 by omega),cond_false,bQ (show x.1≠1 by omega),cond_false,bQ (show x.1≠2 by omega),cond_false,bQ (show x.1≠3 by omega),cond_false,AW hp,cond_true]
   rw [hadd 1 _ (by decide) (by decide),ab,b6,ab,hst,ab,ab,Ge,cond_true,cond_true,nM]
   by_cases h9:ah m 1=1
   ·simp [ml,h9,Bo,OI]
   ·simp [ml,h9,Bo,OI,dx]
  ·have hW:br c t m w x d=wT c m x:=by unfold br;rw [hmay];simp [hp]
   rw [hW]
   rw [bQ (show x.1≠0 by omega),cond_false,bQ (show x.1≠1 by omega),cond_false,bQ (show x.1≠2 by omega),cond_false,bQ (show x.1≠3 by omega),cond_false,bQ (show x.1≠4 by omega),cond_false,AW hp,cond_true]
   unfold wT
   rw [hcg]
   simp only [cond_true,cond_false,ab,m7,Prod.eta,b6]
  ·have hW:br c t m w x d=oF m x:=by unfold br;rw [hmay];simp [hp]
   rw [hW]
   rw [bQ (show x.1≠0 by omega),cond_false,bQ (show x.1≠1 by omega),cond_false,bQ (show x.1≠2 by omega),cond_false,bQ (show x.1≠3 by omega),cond_false,bQ (show x.1≠4 by omega),cond_false,bQ (show x.1≠5 by omega),cond_false,AW hp,cond_true]
   rw [hadd 1 _ (by decide) (by decide),ab]
   rfl
  ·have hW:br c t m w x d=fc c m x:=by unfold br;rw [hmay];simp [hp]
   rw [hW]
   rw [bQ (show x.1≠0 by omega),cond_false,bQ (show x.1≠1 by omega),cond_false,bQ (show x.1≠2 by omega),cond_false,bQ (show x.1≠3 by omega),cond_false,bQ (show x.1≠4 by omega),cond_false,bQ (show x.1≠5 by omega),cond_false,bQ (show x.1≠6 by omega),cond_false,AW hp,cond_true]
   have hM:IntKind.i64.wrap (2+IntKind.i64.wrap (2*c.1))=2+2*c.1:=by rw [fw (z:=2*c.1) (by omega),fw (by omega)]
   rw [hM]
   by_cases h1:x.2.2.2.2<0
   ·rw [ltT h1,cond_true]
    simp only [fc,if_pos (show x.2.2.2.2<0∨2+2*c.1≤x.2.2.2.2 from .inl h1),Fx]
   ·rw [ltF (by omega),cond_false]
    by_cases h2:2+2*c.1≤x.2.2.2.2
    ·rw [leT h2,cond_true]
     simp only [fc,if_pos (show x.2.2.2.2<0∨2+2*c.1≤x.2.2.2.2 from .inr h2),Fx]
    ·rw [leF (by omega),cond_false,fw (z:=x.2.2.2.2+1) (by omega)]
     have hn:¬ (x.2.2.2.2<0∨2+2*c.1≤x.2.2.2.2):=by omega
     by_cases e0:x.2.2.2.2=0
     ·rw [AW e0,cond_true,ff,ab]
      by_cases h5:x.2.2.2.2+1=2+2*c.1
      ·rw [AW h5,cond_true]
       simp only [fc,if_neg hn,if_pos e0,Bool.false_eq_true,if_false,if_pos h5,Fx]
      ·rw [bQ h5,cond_false]
       simp only [fc,if_neg hn,if_pos e0,Bool.false_eq_true,if_false,if_neg h5,Fx,hp]
     ·rw [bQ e0,cond_false]
      by_cases e1:x.2.2.2.2=1
      ·rw [AW e1,cond_true,ff,ab,E0]
       by_cases h9:ah m 5=x.2.2.1.2.2.2.1
       ·rw [decide_eq_true h9,Bool.not_true,cond_false]
        skip
        by_cases h5:x.2.2.2.2+1=2+2*c.1
        ·rw [AW h5,cond_true]
         simp only [fc,if_neg hn,if_neg e0,if_pos e1,h9,ne_eq,not_true_eq_false,decide_false,Bool.false_eq_true,if_false,if_pos h5,Fx]
        ·rw [bQ h5,cond_false]
         simp only [fc,if_neg hn,if_neg e0,if_pos e1,h9,ne_eq,not_true_eq_false,decide_false,Bool.false_eq_true,if_false,if_neg h5,Fx,hp]
       ·rw [decide_eq_false h9,Bool.not_false,cond_true]
        simp only [fc,if_neg hn,if_neg e0,if_pos e1,h9,ne_eq,not_false_eq_true,decide_true,if_true,toW,dx]
      ·rw [bQ e1,cond_false,Int.tmod_eq_emod_of_nonneg (by omega),fw (z:=x.2.2.2.2 - 2) (by omega),Int.tdiv_eq_ediv_of_nonneg (by omega),fw (z:=(x.2.2.2.2 - 2)/2) (by omega)]
       by_cases e2:x.2.2.2.2%2=0
       ·rw [AW e2,cond_true,SS,ab,ff,ab]
        skip
        by_cases h5:x.2.2.2.2+1=2+2*c.1
        ·rw [AW h5,cond_true]
         simp only [fc,if_neg hn,if_neg e0,if_neg e1,if_pos e2,Bool.false_eq_true,if_false,if_pos h5,Fx]
        ·rw [bQ h5,cond_false]
         simp only [fc,if_neg hn,if_neg e0,if_neg e1,if_pos e2,Bool.false_eq_true,if_false,if_neg h5,Fx,hp]
       ·rw [bQ e2,cond_false,Pf,ab,ff,ab,Pr,ab]
        by_cases h9:0<wC (ah m (Ke c ((x.2.2.2.2 - 2)/2))) x.2.2.1.2.2.2.1
        ·rw [ltT h9,cond_true]
         simp only [fc,if_neg hn,if_neg e0,if_neg e1,if_neg e2,h9,decide_true,if_true,toW,dx]
        ·rw [ltF (by omega),cond_false]
         skip
         by_cases h5:x.2.2.2.2+1=2+2*c.1
         ·rw [AW h5,cond_true]
          simp only [fc,if_neg hn,if_neg e0,if_neg e1,if_neg e2,h9,decide_false,Bool.false_eq_true,if_false,if_pos h5,Fx]
         ·rw [bQ h5,cond_false]
          simp only [fc,if_neg hn,if_neg e0,if_neg e1,if_neg e2,h9,decide_false,Bool.false_eq_true,if_false,if_neg h5,Fx,hp]
  ·have hW:br c t m w x d=gU c m x:=by unfold br;rw [hmay];simp [hp]
   rw [hW]
   rw [bQ (show x.1≠0 by omega),cond_false,bQ (show x.1≠1 by omega),cond_false,bQ (show x.1≠2 by omega),cond_false,bQ (show x.1≠3 by omega),cond_false,bQ (show x.1≠4 by omega),cond_false,bQ (show x.1≠5 by omega),cond_false,bQ (show x.1≠6 by omega),cond_false,bQ (show x.1≠7 by omega),cond_false,AW hp,cond_true]
   unfold gU
   rw [hcg]
   simp only [cond_true,cond_false,ab,m7,Prod.eta,b6]
   generalize dG c m x.2.2.1=r
   cases ho:ew r.2 <;> simp [ho,hp,toW,dx]
  ·have hW:br c t m w x d=K9 t m w x:=by unfold br;rw [hmay];simp [hp]
   rw [hW]
   rw [bQ (show x.1≠0 by omega),cond_false,bQ (show x.1≠1 by omega),cond_false,bQ (show x.1≠2 by omega),cond_false,bQ (show x.1≠3 by omega),cond_false,bQ (show x.1≠4 by omega),cond_false,bQ (show x.1≠5 by omega),cond_false,bQ (show x.1≠6 by omega),cond_false,bQ (show x.1≠7 by omega),cond_false,bQ (show x.1≠8 by omega),cond_false,AW hp,cond_true]
   rw [hnx,ab,nM,nM,nM,hdo,ab,b6,ab]
   unfold K9
   by_cases h1:(ea t x.2.1).1=1
   ·simp [h1,hp]
   ·by_cases h2:(ea t x.2.1).1=2
    ·simp [h2]
    ·by_cases h3:(ea t x.2.1).1=3
     ·simp [h3]
     ·simp [h1,h2,h3,lq]
  ·have hW:br c t m w x d=u3 t m w x:=by unfold br;rw [hmay];simp [hp]
   rw [hW]
   rw [bQ (show x.1≠0 by omega),cond_false,bQ (show x.1≠1 by omega),cond_false,bQ (show x.1≠2 by omega),cond_false,bQ (show x.1≠3 by omega),cond_false,bQ (show x.1≠4 by omega),cond_false,bQ (show x.1≠5 by omega),cond_false,bQ (show x.1≠6 by omega),cond_false,bQ (show x.1≠7 by omega),cond_false,bQ (show x.1≠8 by omega),cond_false,bQ (show x.1≠9 by omega),cond_false,AW hp,cond_true]
   rw [hnx,ab,E0,hadd 0 _ (by decide) (by decide),ab,Ge,cond_true,hdo,ab,b6,ab]
   unfold u3
   by_cases h2:(ea t x.2.1).1=2
   ·simp [h2]
   ·simp [h2,toW,dx]
  ·have hW:br c t m w x d=rX c m w x:=by unfold br;rw [hmay];simp [hp]
   rw [hW]
   rw [bQ (show x.1≠0 by omega),cond_false,bQ (show x.1≠1 by omega),cond_false,bQ (show x.1≠2 by omega),cond_false,bQ (show x.1≠3 by omega),cond_false,bQ (show x.1≠4 by omega),cond_false,bQ (show x.1≠5 by omega),cond_false,bQ (show x.1≠6 by omega),cond_false,bQ (show x.1≠7 by omega),cond_false,bQ (show x.1≠8 by omega),cond_false,bQ (show x.1≠9 by omega),cond_false,bQ (show x.1≠10 by omega),cond_false,AW hp,cond_true]
   unfold rX
   rw [hcg]
   simp only [cond_true,cond_false,ab,m7,Prod.eta,b6]
   generalize dG c m x.2.2.1=r
   cases ho:ew r.2 with
   | false=>simp [ho,hp]
   | true=>
    by_cases h9:r.2.2.2.2.2.2.2=2
    ·simp [ho,h9,lq]
    ·have q9:=bQ h9
     simp [ho,h9,q9,toW,dx]
  ·have hW:br c t m w x d=rS c t m w x:=by unfold br;rw [hmay];simp [hp]
   rw [hW]
   rw [bQ (show x.1≠0 by omega),cond_false,bQ (show x.1≠1 by omega),cond_false,bQ (show x.1≠2 by omega),cond_false,bQ (show x.1≠3 by omega),cond_false,bQ (show x.1≠4 by omega),cond_false,bQ (show x.1≠5 by omega),cond_false,bQ (show x.1≠6 by omega),cond_false,bQ (show x.1≠7 by omega),cond_false,bQ (show x.1≠8 by omega),cond_false,bQ (show x.1≠9 by omega),cond_false,bQ (show x.1≠10 by omega),cond_false,bQ (show x.1≠11 by omega),cond_false,AW hp,cond_true]
   unfold rS
   rw [hcg]
   simp only [cond_true,cond_false,ab,m7,Prod.eta,b6]
   generalize dG c m x.2.2.1=r
   cases ho:ew r.2 with
   | false=>simp [ho,hp]
   | true=>
    by_cases h9:r.2.2.2.2.2.2.2=2
    ·simp [ho,h9,hst,ab,Ge,dx,OI]
    ·have q9:=bQ h9
     simp [ho,h9,q9,toW,dx]
  ·have hW:br c t m w x d=IX m w x:=by unfold br;rw [hmay];simp [hp]
   rw [hW]
   rw [bQ (show x.1≠0 by omega),cond_false,bQ (show x.1≠1 by omega),cond_false,bQ (show x.1≠2 by omega),cond_false,bQ (show x.1≠3 by omega),cond_false,bQ (show x.1≠4 by omega),cond_false,bQ (show x.1≠5 by omega),cond_false,bQ (show x.1≠6 by omega),cond_false,bQ (show x.1≠7 by omega),cond_false,bQ (show x.1≠8 by omega),cond_false,bQ (show x.1≠9 by omega),cond_false,bQ (show x.1≠10 by omega),cond_false,bQ (show x.1≠11 by omega),cond_false,bQ (show x.1≠12 by omega),cond_false,AW hp,cond_true]
   rw [ff,ab,nM,b6,ab]
   by_cases h9:ah m 1=0
   ·simp [IX,h9,lq]
   ·simp [IX,h9,toW,dx]
  ·have hW:br c t m w x d=uq c m x:=by unfold br;rw [hmay];simp [hp]
   rw [hW]
   rw [bQ (show x.1≠0 by omega),cond_false,bQ (show x.1≠1 by omega),cond_false,bQ (show x.1≠2 by omega),cond_false,bQ (show x.1≠3 by omega),cond_false,bQ (show x.1≠4 by omega),cond_false,bQ (show x.1≠5 by omega),cond_false,bQ (show x.1≠6 by omega),cond_false,bQ (show x.1≠7 by omega),cond_false,bQ (show x.1≠8 by omega),cond_false,bQ (show x.1≠9 by omega),cond_false,bQ (show x.1≠10 by omega),cond_false,bQ (show x.1≠11 by omega),cond_false,bQ (show x.1≠12 by omega),cond_false,bQ (show x.1≠13 by omega),cond_false,AW hp,cond_true]
   unfold uq
   rw [hcg]
   simp only [cond_true,cond_false,ab,m7,Prod.eta,b6]
   generalize dG c m x.2.2.1=r
   cases ho:ew r.2 <;> simp [ho,hp,toW,dx]
  ·have hW:br c t m w x d=uE t m w x:=by unfold br;rw [hmay];simp [hp]
   rw [hW]
   rw [bQ (show x.1≠0 by omega),cond_false,bQ (show x.1≠1 by omega),cond_false,bQ (show x.1≠2 by omega),cond_false,bQ (show x.1≠3 by omega),cond_false,bQ (show x.1≠4 by omega),cond_false,bQ (show x.1≠5 by omega),cond_false,bQ (show x.1≠6 by omega),cond_false,bQ (show x.1≠7 by omega),cond_false,bQ (show x.1≠8 by omega),cond_false,bQ (show x.1≠9 by omega),cond_false,bQ (show x.1≠10 by omega),cond_false,bQ (show x.1≠11 by omega),cond_false,bQ (show x.1≠12 by omega),cond_false,bQ (show x.1≠13 by omega),cond_false,bQ (show x.1≠14 by omega),cond_false,AW hp,cond_true]
   simp only [hnx,ab,E0,hadd 0 _ (by decide) (by decide),Ge,aer,cond_true,hdo,b6,nM]
   unfold uE
   by_cases h3:(ea t x.2.1).1=3
   ·by_cases h1:ah m 0=1
    ·by_cases h2:doB t x.2.1=[]
     ·simp [h3,h1,h2,Bo]
     ·have h4:¬ (((doB t x.2.1).length:Int)=0):=by simp [h2]
      simp [h3,h1,h2,h4,Bo,dx]
    ·by_cases h2:doB t x.2.1=[]
     ·simp [h3,h1,h2,Bo]
     ·have h4:¬ (((doB t x.2.1).length:Int)=0):=by simp [h2]
      simp [h3,h1,h2,h4,Bo,dx]
   ·simp [h3,toW,dx]
end
end Go.Ab
set_option linter.unusedVariables false
namespace Go.Ab
theorem kC {c:CF} {t:Tyt} {m:List Int} {w:Int} {x:WB} {d:Int} {P:WR→Prop} (hs:eA c t m w x=false→P (m,x,[])) (p0:eA c t m w x=true→x.1=0→P (IQ c t m w x)) (p1:eA c t m w x=true→x.1=1→P (Ax c m w x)) (p2:eA c t m w x=true→x.1=2∨x.1=3→P (oo c m w x d)) (p4:eA c t m w x=true→x.1=4→P (ml t m w x)) (p5:eA c t m w x=true→x.1=5→P (wT c m x)) (p6:eA c t m w x=true→x.1=6→P (oF m x)) (p7:eA c t m w x=true→x.1=7→P (fc c m x)) (p8:eA c t m w x=true→x.1=8→P (gU c m x)) (p9:eA c t m w x=true→x.1=9→P (K9 t m w x)) (p10:eA c t m w x=true→x.1=10→P (u3 t m w x)) (p11:eA c t m w x=true→x.1=11→P (rX c m w x)) (p12:eA c t m w x=true→x.1=12→P (rS c t m w x)) (p13:eA c t m w x=true→x.1=13→P (IX m w x)) (p14:eA c t m w x=true→x.1=14→P (uq c m x)) (p15:eA c t m w x=true→x.1=15→P (uE t m w x)):P (br c t m w x d):=by
 unfold br
 by_cases hm:eA c t m w x=false
 ·rw [if_pos hm];exact hs hm
 rw [if_neg hm]
 have hm':eA c t m w x=true:=by simpa using hm
 have hb:0≤x.1∧x.1<16:=by
  unfold eA at hm'
  simp only [Bool.and_eq_true,decide_eq_true_eq] at hm'
  exact hm'.1.2.2.2
 by_cases e0:x.1=0
 ·rw [if_pos e0];exact p0 hm' e0
 rw [if_neg e0]
 by_cases e1:x.1=1
 ·rw [if_pos e1];exact p1 hm' e1
 rw [if_neg e1]
 by_cases e2:x.1=2∨x.1=3
 ·rw [if_pos e2];exact p2 hm' e2
 rw [if_neg e2]
 by_cases e4:x.1=4
 ·rw [if_pos e4];exact p4 hm' e4
 rw [if_neg e4]
 by_cases e5:x.1=5
 ·rw [if_pos e5];exact p5 hm' e5
 rw [if_neg e5]
 by_cases e6:x.1=6
 ·rw [if_pos e6];exact p6 hm' e6
 rw [if_neg e6]
 by_cases e7:x.1=7
 ·rw [if_pos e7];exact p7 hm' e7
 rw [if_neg e7]
 by_cases e8:x.1=8
 ·rw [if_pos e8];exact p8 hm' e8
 rw [if_neg e8]
 by_cases e9:x.1=9
 ·rw [if_pos e9];exact p9 hm' e9
 rw [if_neg e9]
 by_cases e10:x.1=10
 ·rw [if_pos e10];exact p10 hm' e10
 rw [if_neg e10]
 by_cases e11:x.1=11
 ·rw [if_pos e11];exact p11 hm' e11
 rw [if_neg e11]
 by_cases e12:x.1=12
 ·rw [if_pos e12];exact p12 hm' e12
 rw [if_neg e12]
 by_cases e13:x.1=13
 ·rw [if_pos e13];exact p13 hm' e13
 rw [if_neg e13]
 by_cases e14:x.1=14
 ·rw [if_pos e14];exact p14 hm' e14
 rw [if_neg e14]
 exact p15 hm' (by omega)
end Go.Ab
set_option linter.unusedVariables false
namespace Go.Ab
theorem UR (c:CF) (m:List Int) (f:FR):One m (eN c m f).1:=by
 unfold eN
 repeat' split
 all_goals first | exact One.same m | exact One.store m _ _ | exact One.cas m _ _ _
theorem aaZ (c:CF) (m:List Int) (f:FR):One m (lb c m f).1:=by
 unfold lb
 repeat' split
 all_goals first | exact One.same m | exact One.store m _ _ | exact One.cas m _ _ _
theorem Rl (c:CF) (m:List Int) (f:FR):One m (bv c m f).1:=by
 unfold bv
 dsimp only
 repeat' split
 all_goals first | exact One.same m | exact One.store m _ _ | exact One.cas m _ _ _
theorem Se (c:CF) (m:List Int) (f:FR):One m (dG c m f).1:=by
 unfold dG C7
 repeat' split
 all_goals first | exact One.same m | exact UR c m f | exact aaZ c m f | exact Rl c m f | exact KJ c m f
section
variable {c:CF} {t:Tyt} {m:List Int} {w:Int} {x:WB} {d:Int}
theorem Eu:One m (br c t m w x d).1:=by
 refine kC (P:=fun r=>One m r.1) (fun _=>One.same m) ?_ ?_ ?_ ?_ ?_ ?_ ?_ ?_ ?_ ?_ ?_ ?_ ?_ ?_ ?_
 all_goals intro _ _
 all_goals dsimp only [IQ,Ax,oo,ml,wT,oF,fc,gU,K9,u3,rX,rS,IX,uq,uE]
 all_goals repeat' split
 all_goals (try dsimp only)
 all_goals first | exact One.same m | exact One.store m _ _ | exact Se c m _
theorem Us:(br c t m w x d).2.2.length≤2:=by
 refine kC (P:=fun r=>r.2.2.length≤2) (fun _=>Nat.zero_le _) ?_ ?_ ?_ ?_ ?_ ?_ ?_ ?_ ?_ ?_ ?_ ?_ ?_ ?_ ?_
 all_goals intro _ _
 all_goals dsimp only [IQ,Ax,oo,ml,wT,oF,fc,gU,K9,u3,rX,rS,IX,uq,uE]
 all_goals repeat' split
 all_goals simp
theorem QC:(br c t m w x d).2.1.2.1.length≤x.2.1.length+1:=by
 have h1:=fun q=>NE t x.2.1 q
 have h2:=ab8 t x.2.1
 refine kC (P:=fun r=>r.2.1.2.1.length≤x.2.1.length+1) (fun _=>Nat.le_succ _) ?_ ?_ ?_ ?_ ?_ ?_ ?_ ?_ ?_ ?_ ?_ ?_ ?_ ?_ ?_
 all_goals intro _ _
 all_goals dsimp only [IQ,Ax,oo,ml,wT,oF,fc,gU,K9,u3,rX,rS,IX,uq,uE,toW,lq]
 all_goals repeat' split
 all_goals first | exact Nat.le_succ _ | exact h1 _ | (dsimp only;omega) | simp
theorem Jl {s:Tye} (h:cG t s=true) (q:Int):cG t (iU t s q)=true:=by
 unfold iU
 split
 ·rename_i g
  have:=nJ.1 h
  exact iV.2 ⟨this.1,this.2,aex this.1 g.2.1 g.2.2⟩
 ·exact h
theorem acu {s:Tye} (h:cG t s=true):cG t (doB t s)=true:=by
 rcases lQ s with rfl | ⟨r,y,rfl⟩
 ·exact h
 ·exact (Um h).1
theorem Jh (h:eA c t m w x=true):dj c=true∧(m.length:Int)=bN c∧nQ t=true∧(0≤w∧w<c.1∧0≤x.1∧x.1<16)∧cG t x.2.1=true:=by
 unfold eA at h
 simp only [Bool.and_eq_true,decide_eq_true_eq] at h
 exact ⟨h.1.1.1.1,h.1.1.1.2,h.1.1.2,h.1.2,h.2⟩
theorem QJ (h1:dj c=true) (h2:(m.length:Int)=bN c) (h3:nQ t=true) (h4:0≤w∧w<c.1∧0≤x.1∧x.1<16) (h5:cG t x.2.1=true):eA c t m w x=true:=by
 unfold eA
 rw [h1,h3,h5,decide_eq_true h2,decide_eq_true h4]
 rfl
theorem UV (h:eA c t m w x=true):eA c t (br c t m w x d).1 w (br c t m w x d).2.1=true:=by
 obtain ⟨h1,h2,h3,h4,h5⟩:=Jh h
 have hl:=(Eu (c:=c) (t:=t) (m:=m) (w:=w) (x:=x) (d:=d)).len
 have key:0≤(br c t m w x d).2.1.1∧(br c t m w x d).2.1.1<16∧cG t (br c t m w x d).2.1.2.1=true:=by
  have g1:=Jl h5
  have g2:=acu h5
  have g3:cG t []=true:=nJ.2 ⟨h3,fun y hy=>absurd hy (by simp)⟩
  refine kC (P:=fun r=>0≤r.2.1.1∧r.2.1.1<16∧cG t r.2.1.2.1=true) (fun _=>⟨h4.2.2.1,h4.2.2.2,h5⟩) ?_ ?_ ?_ ?_ ?_ ?_ ?_ ?_ ?_ ?_ ?_ ?_ ?_ ?_ ?_
  all_goals intro _ _
  all_goals dsimp only [IQ,Ax,oo,ml,wT,oF,fc,gU,K9,u3,rX,rS,IX,uq,uE,toW,lq]
  all_goals repeat' split
  all_goals refine ⟨?_,?_,?_⟩
  all_goals (try dsimp only)
  all_goals first | omega | exact h5 | exact g1 _ | exact g2 | exact g3
 exact QJ h1 (by rw [hl];exact h2) h3 ⟨h4.1,h4.2.1,key.1,key.2.1⟩ key.2.2
theorem SG {w W:Int}:0≤Df d w W↔¬ (W<2∨w<0∨W≤w):=by
 unfold Df
 split
 ·rename_i h
  exact ⟨fun g=>absurd g (by decide),fun g=>absurd h g⟩
 ·rename_i h
  exact ⟨fun _=>h,fun _=>Int.emod_nonneg _ (by omega)⟩
end
end Go.Ab
set_option linter.unusedVariables false
namespace Go.Ab
section
variable {c:CF} {m:List Int} {f:FR} {j:Int} (hj:j=0∨j=1∨j=3)
include hj
theorem mM {w x:Int} (hx:0≤x):onW c w x≠j:=by
 unfold onW
 split
 ·rename_i h
  have hm:=aC h.1
  have:=dX h.1 h.2.1 (by omega)
  omega
 ·omega
theorem ua {w x:Int} (h0:0≤x) (h1:x≤18446744073709551615):r9 c w x≠j:=by
 unfold r9 onW
 split
 ·rename_i h
  have hm:=aC h.1
  have:=dX h.1 h.2.1 (by omega)
  have:=Fy h0 h1 (show 1≤c.2.1 by omega) (by omega)
  omega
 ·omega
theorem Bp (x:Int):nA c x≠j:=by
 unfold nA
 split
 ·rename_i h
  have:=aC h
  have:=Int.emod_nonneg x (show c.2.2.1≠0 by omega)
  omega
 ·omega
theorem Cj (x:Int):CY c x≠j:=by
 unfold CY
 split
 ·rename_i h
  have:=aC h
  have:=Int.emod_nonneg x (show c.2.2.1≠0 by omega)
  omega
 ·omega
theorem r6 (w:Int):f6 c w≠j:=by
 unfold f6
 split
 ·rename_i h
  have hm:=aC h.1
  have:=dX h.1 h.2.1 (by omega)
  omega
 ·omega
omit hj in
theorem ks {i v:Int} (h:i≠j):ah (ar m i v) j=ah m j:=aE v h
omit hj in
theorem kc {i o v:Int} (h:i≠j):ah (uc m i o v).1 j=ah m j:=by
 unfold uc
 split
 ·exact ks h
 ·rfl
section
variable (hf:Wf f)
include hf
theorem Rf:ah (eN c m f).1 j=ah m j:=by
 have w4:=hf.2.1
 have _h:=hj
 unfold eN
 try dsimp only
 repeat' split
 all_goals first | rfl | exact ks (Bp hj _) | exact ks (Cj hj _) | exact ks (r6 hj _) | exact ks (mM hj (by decide)) | exact kc (mM hj (by decide)) | exact ks (ua hj w4.1 w4.2) | exact kc (show (2:Int)≠j by omega) | exact kc (show (4:Int)≠j by omega) | exact kc (show (5:Int)≠j by omega) | exact ks (show (2:Int)≠j by omega)
theorem TG:ah (lb c m f).1 j=ah m j:=by
 have w4:=hf.2.1
 have _h:=hj
 unfold lb
 try dsimp only
 repeat' split
 all_goals first | rfl | exact ks (Bp hj _) | exact ks (Cj hj _) | exact ks (r6 hj _) | exact ks (mM hj (by decide)) | exact kc (mM hj (by decide)) | exact ks (ua hj w4.1 w4.2) | exact kc (show (2:Int)≠j by omega) | exact kc (show (4:Int)≠j by omega) | exact kc (show (5:Int)≠j by omega) | exact ks (show (2:Int)≠j by omega)
theorem Nz:ah (bv c m f).1 j=ah m j:=by
 have w4:=hf.2.1
 have _h:=hj
 unfold bv
 try dsimp only
 repeat' split
 all_goals first | rfl | exact ks (Bp hj _) | exact ks (Cj hj _) | exact ks (r6 hj _) | exact ks (mM hj (by decide)) | exact kc (mM hj (by decide)) | exact ks (ua hj w4.1 w4.2) | exact kc (show (2:Int)≠j by omega) | exact kc (show (4:Int)≠j by omega) | exact kc (show (5:Int)≠j by omega) | exact ks (show (2:Int)≠j by omega)
theorem LG:ah (kZ c m f).1 j=ah m j:=by
 have w4:=hf.2.1
 have _h:=hj
 unfold kZ
 try dsimp only
 repeat' split
 all_goals first | rfl | exact ks (Bp hj _) | exact ks (Cj hj _) | exact ks (r6 hj _) | exact ks (mM hj (by decide)) | exact kc (mM hj (by decide)) | exact ks (ua hj w4.1 w4.2) | exact kc (show (2:Int)≠j by omega) | exact kc (show (4:Int)≠j by omega) | exact kc (show (5:Int)≠j by omega) | exact ks (show (2:Int)≠j by omega)
theorem Lj:ah (lZ c m f).1 j=ah m j:=by
 have w4:=hf.2.1
 have _h:=hj
 unfold lZ
 try dsimp only
 repeat' split
 all_goals first | rfl | exact ks (Bp hj _) | exact ks (Cj hj _) | exact ks (r6 hj _) | exact ks (mM hj (by decide)) | exact kc (mM hj (by decide)) | exact ks (ua hj w4.1 w4.2) | exact kc (show (2:Int)≠j by omega) | exact kc (show (4:Int)≠j by omega) | exact kc (show (5:Int)≠j by omega) | exact ks (show (2:Int)≠j by omega)
theorem HY:ah (CN c m f).1 j=ah m j:=by
 have w4:=hf.2.1
 have _h:=hj
 unfold CN
 try dsimp only
 repeat' split
 all_goals first | rfl | exact ks (Bp hj _) | exact ks (Cj hj _) | exact ks (r6 hj _) | exact ks (mM hj (by decide)) | exact kc (mM hj (by decide)) | exact ks (ua hj w4.1 w4.2) | exact kc (show (2:Int)≠j by omega) | exact kc (show (4:Int)≠j by omega) | exact kc (show (5:Int)≠j by omega) | exact ks (show (2:Int)≠j by omega)
theorem GJ:ah (AA c m f).1 j=ah m j:=by
 have w4:=hf.2.1
 have _h:=hj
 unfold AA NJ
 try dsimp only
 repeat' split
 all_goals first | rfl | exact ks (Bp hj _) | exact ks (Cj hj _) | exact ks (r6 hj _) | exact ks (mM hj (by decide)) | exact kc (mM hj (by decide)) | exact ks (ua hj w4.1 w4.2) | exact kc (show (2:Int)≠j by omega) | exact kc (show (4:Int)≠j by omega) | exact kc (show (5:Int)≠j by omega) | exact ks (show (2:Int)≠j by omega)
theorem MO:ah (dG c m f).1 j=ah m j:=by
 unfold dG C7 lm CZ Kf
 repeat' split
 all_goals first | with_reducible rfl | with_reducible exact Rf hj hf | with_reducible exact TG hj hf | with_reducible exact Nz hj hf | with_reducible exact LG hj hf | with_reducible exact Lj hj hf | with_reducible exact HY hj hf | with_reducible exact GJ hj hf
end
end
def Ki:List EV→Int×Bool→Int×Bool
 | [],s=>s
 | e::l,s=>Ki l (if e.1=3 then IntKind.u64.wrap (s.1+1) else if e.1=4 then IntKind.u64.wrap (s.1 - 1) else s.1,s.2||decide (e.1=5))
theorem S5 (s:Int):fG s Bo=IntKind.u64.wrap (s - 1):=by
 rw [kg]
 unfold fG Bo
 omega
theorem aj0 (s:Int):fG s 1=IntKind.u64.wrap (s+1):=by
 rw [kg]
 rfl
section
variable {c:CF} {t:Tyt} {m:List Int} {w:Int} {x:WB} {d:Int}
theorem Sb (hm:Wm m) (hl:2≤m.length) (hf:Wf x.2.2.1):ah (br c t m w x d).1 0=(Ki (br c t m w x d).2.2 (ah m 0,false)).1∧((Ki (br c t m w x d).2.2 (ah m 0,false)).2=true↔ah m 0=1∧(Ki (br c t m w x d).2.2 (ah m 0,false)).1=0):=by
 have hk:=MO (c:=c) (m:=m) (f:=x.2.2.1) (j:=0) (by decide) hf
 have hs:∀ v,ah (ar m 0 v) 0=v:=fun v=>ee v (by decide) (by omega)
 have h1:∀ v,ah (ar m 1 v) 0=ah m 0:=fun v=>ks (by decide)
 have z:∀ {l:List EV},(l=[]∨∃ a b,l=[(2,a,b)])→ah m 0=(Ki l (ah m 0,false)).1∧((Ki l (ah m 0,false)).2=true↔ah m 0=1∧(Ki l (ah m 0,false)).1=0):=fun h=>by
  rcases h with rfl | ⟨a,b,rfl⟩
  ·refine ⟨rfl,?_⟩
   dsimp only [Ki]
   exact ⟨fun g=>(by cases g),fun g=>absurd g.2 (by omega)⟩
  ·refine ⟨rfl,?_⟩
   dsimp only [Ki]
   exact ⟨fun g=>(by cases g),fun g=>absurd g.2 (by rw [if_neg (by decide),if_neg (by decide)];omega)⟩
 have hr:=cC hm 0
 refine kC (P:=fun r=>ah r.1 0=(Ki r.2.2 (ah m 0,false)).1∧((Ki r.2.2 (ah m 0,false)).2=true↔ah m 0=1∧(Ki r.2.2 (ah m 0,false)).1=0)) (fun _=>z (.inl rfl)) ?_ ?_ ?_ ?_ ?_ ?_ ?_ ?_ ?_ ?_ ?_ ?_ ?_ ?_ ?_
 all_goals intro _ hp
 ·unfold IQ
  dsimp only
  repeat' split
  all_goals (dsimp only;rw [hk];exact z (by first | exact .inl rfl | exact .inr ⟨_,_,rfl⟩))
 ·unfold Ax
  dsimp only
  rw [h1]
  exact z (.inl rfl)
 ·unfold oo
  dsimp only
  repeat' split
  all_goals (dsimp only;rw [hk];exact z (.inl rfl))
 ·unfold ml
  dsimp only
  rw [h1]
  exact z (.inr ⟨_,_,rfl⟩)
 ·unfold wT
  dsimp only
  rw [hk]
  exact z (.inl rfl)
 ·unfold oF
  dsimp only
  rw [h1]
  exact z (.inl rfl)
 ·unfold fc
  dsimp only
  repeat' split
  all_goals (dsimp only;exact z (.inl rfl))
 ·unfold gU
  dsimp only
  split
  all_goals (dsimp only;rw [hk];exact z (.inl rfl))
 ·unfold K9
  dsimp only
  repeat' split
  all_goals (dsimp only;exact z (.inl rfl))
 ·unfold u3
  dsimp only
  split
  ·exact z (.inl rfl)
  ·dsimp only
   rw [hs,aj0]
   dsimp only [Ki]
   rw [if_pos rfl]
   refine ⟨rfl,fun g=>(by cases g),fun g => ?_⟩
   have:=g.2
   rw [g.1] at this
   exact absurd this (by decide)
 ·unfold rX
  dsimp only
  repeat' split
  all_goals (dsimp only;rw [hk];exact z (.inl rfl))
 ·unfold rS
  dsimp only
  repeat' split
  all_goals (dsimp only;rw [hk];exact z (by first | exact .inl rfl | exact .inr ⟨_,_,rfl⟩))
 ·unfold IX
  split
  all_goals exact z (.inl rfl)
 ·unfold uq
  dsimp only
  split
  all_goals (dsimp only;rw [hk];exact z (.inl rfl))
 ·unfold uE
  dsimp only
  split
  ·exact z (.inl rfl)
  ·dsimp only
   rw [hs,S5]
   by_cases h:ah m 0=1
   ·rw [if_pos h,h]
    refine ⟨rfl,fun _=>⟨rfl,rfl⟩,fun _=>rfl⟩
   ·rw [if_neg h]
    refine ⟨rfl,fun g=>(by cases g),fun g=>absurd g.1 h⟩
end
end Go.Ab
set_option linter.unusedVariables false
namespace Go.Ab
theorem Mg {c:CF} {m:List Int} {f:FR} (hm:Wm m) (hf:Wf f):Wm (AA c m f).1∧Wf (AA c m f).2∧(AA c m f).1.length=m.length:=by
 have hr:=cC hm 2
 obtain ⟨w3,w4,w5⟩:=hf
 have hk4:=Lk w4.1
 have hk5:=Lk w5.1
 have hc5:=Qh hk5.1 hk5.2
 unfold AA
 split
 ·exact ⟨hm,⟨w3,w4,w5⟩,rfl⟩
 ·split
  ·exact ⟨hm,⟨w3,hr,w5⟩,rfl⟩
  ·split
   ·split
    ·refine ⟨hm.set 2 ?_ ?_,?_,(by simp only [];exact kH)⟩
     ·split
      ·exact (AO _ _).1
      ·exact (AO _ _).1
     ·split
      ·exact (AO _ _).2
      ·exact (AO _ _).2
     ·have hl:=R9 (mkB f.2.2.2.2.1)
      simp only []
      by_cases hz:mkB f.2.2.2.2.1=0
      ·rw [if_pos hz]
       exact ⟨by simp [fy],by simp [fy],by simp [fy]⟩
      ·rw [if_neg hz]
       refine ⟨w3,w4,?_⟩
       simp only
       split
       ·split <;> omega
       ·omega
    ·exact ⟨hm,⟨w3,w4,w5⟩,rfl⟩
   ·split
    ·exact ⟨hm.set _ (by decide) (by decide),⟨w5,by simp [fy],by simp [fy]⟩,(by simp only [];exact kH)⟩
    ·refine ⟨hm.set _ (by decide) (by decide),?_,(by simp only [];exact kH)⟩
     split
     ·exact ⟨by simp [fy];omega,by simp [fy],by simp [fy]⟩
     ·exact ⟨w3,w4,by simp only;omega⟩
theorem aaI {c:CF} {m:List Int} {f:FR} (hm:Wm m) (hf:Wf f):Wm (CN c m f).1∧Wf (CN c m f).2:=by
 have hr:=cC hm 2
 obtain ⟨w3,w4,w5⟩:=hf
 have hs:=Y5 (w:=f.2.2.1) w5.1 w5.2
 unfold CN
 dsimp only
 split
 ·exact ⟨hm,w3,w4,w5⟩
 ·split
  ·exact ⟨hm,w3,hr,w5⟩
  ·split
   ·split
    ·exact ⟨hm,w3,w4,hr⟩
    ·exact ⟨hm,by simp [fy,Wf]⟩
   ·split
    ·exact ⟨hm.cas _ _ hs.1 hs.2,w3,w4,w5⟩
    ·split
     ·exact ⟨hm,w3,w4,cC hm _⟩
     ·exact ⟨hm.set _ (by decide) (by decide),by simp [fy,Wf]⟩
theorem agL {c:CF} {m:List Int} {f:FR} (hm:Wm m) (hf:Wf f):Wm (kZ c m f).1∧Wf (kZ c m f).2:=by
 obtain ⟨w3,w4,w5⟩:=hf
 have ha:=gV f.2.2.2.2.1 1
 have hb:=gV (Dd c f.2.2.2.2.1) 1
 unfold kZ
 dsimp only
 split
 ·exact ⟨hm,w3,w4,w5⟩
 ·split
  ·exact ⟨hm,w3,cC hm 5,w5⟩
  ·split
   ·split
    ·exact ⟨hm,w3,w4,cC hm _⟩
    ·split
     ·exact ⟨hm,w3,by simp [fy],by simp [fy]⟩
     ·exact ⟨hm,w3,w4,cC hm _⟩
   ·split
    ·exact ⟨hm.cas _ _ ha.1 ha.2,w3,w4,w5⟩
    ·split
     ·exact ⟨hm.set _ w3.1 w3.2,w3,w4,w5⟩
     ·exact ⟨hm.set _ hb.1 hb.2,w3,by simp [fy],by simp [fy]⟩
theorem afo {c:CF} {m:List Int} {f:FR} (hm:Wm m) (hf:Wf f):Wm (lZ c m f).1∧Wf (lZ c m f).2:=by
 obtain ⟨w3,w4,w5⟩:=hf
 have ha:=gV f.2.2.2.2.1 1
 have hb:=gV (Dk c f.2.2.2.2.1) 1
 unfold lZ
 dsimp only
 split
 ·exact ⟨hm,w3,w4,w5⟩
 ·split
  ·exact ⟨hm,w3,cC hm 4,w5⟩
  ·split
   ·split
    ·exact ⟨hm,w3,w4,cC hm _⟩
    ·split
     ·exact ⟨hm,by simp [fy],by simp [fy],by simp [fy]⟩
     ·exact ⟨hm,w3,w4,cC hm _⟩
   ·split
    ·exact ⟨hm.cas _ _ ha.1 ha.2,w3,w4,w5⟩
    ·split
     ·exact ⟨hm,cC hm _,w4,w5⟩
     ·exact ⟨hm.set _ hb.1 hb.2,w3,by simp [fy],by simp [fy]⟩
theorem RP {c:CF} {m:List Int} {f:FR} (hm:Wm m) (hf:Wf f):Wm (lm c m f).1∧Wf (lm c m f).2:=by
 unfold lm CZ Kf
 repeat' split
 all_goals first | exact agL hm hf | exact afo hm hf | exact aaI hm hf | exact ⟨(Mg hm hf).1,(Mg hm hf).2.1⟩ | exact ⟨hm,hf⟩
theorem Xu {c:CF} {t:Tyt} {m:List Int} {i:Int} {x:SB} (hm:Wm m) (hf:Wf x.2.2) (ht:t.length≤1000):Wm (gR c t m i x).1∧Wf (gR c t m i x).2.1.2.2:=by
 have hc:=RP (c:=c) hm hf
 have hz:Wf dx:=by simp [Wf,dx]
 have h1:=gV (ah m 0) 1
 have h2:=gV (ah m 0) 18446744073709551615
 cases hmay:Au c t m x with
 | false=>
  have e:gR c t m i x=(m,x,[]):=by unfold gR;rw [hmay,if_pos rfl]
  rw [e]
  exact ⟨hm,hf⟩
 | true=>
  obtain ⟨_,_,_,_,_,r,rest,hx,h6,h7⟩:=Co hmay
  have hh:iS x.2.1=r:=by rw [hx];rfl
  unfold gR
  rw [hmay,if_neg (by simp),hh]
  dsimp only
  have h3:Wf (3,0,i,r,0,0,0):=⟨⟨h6,by simp only;omega⟩,by simp,by simp⟩
  have h4:Wf (6,0,i,0,0,0,0):=by simp [Wf]
  repeat' split
  all_goals first | exact ⟨hm,hf⟩ | exact ⟨hm,hz⟩ | exact ⟨hm,h4⟩ | exact ⟨hm.set 0 h1.1 h1.2,h3⟩ | exact hc | exact ⟨hc.1,hz⟩ | exact ⟨hm.set 0 h2.1 h2.2,hz⟩
end Go.Ab
set_option linter.unusedVariables false
namespace Go.Ab
abbrev PB:=CF×Tyt×List Int×List WB×List SB
abbrev PK:=Int×Int×Int
def Ce (t:Tyt) (x:SB):Bool:=decide (0≤x.1∧x.1<6)&&x.2.1.all (fun r=>decide (0≤r∧r<t.length))&&(decide (x.1=0)||decide (x.2.1≠[]))
def Ht (c:CF) (t:Tyt) (m:List Int):Nat→List WB→Bool
 | _,[]=>true
 | i,x::l=>eA c t m i x&&Ht c t m (i+1) l
def fx (p:PB):Bool:=dj p.1&&decide ((p.2.2.2.1.length:Int)=p.1.1∧p.2.2.2.2.length≤3)&&Ht p.1 p.2.1 p.2.2.1 0 p.2.2.2.1&&p.2.2.2.2.all (Ce p.2.1)
def Db (k:PK) (w s:Int):Bool:=decide (k.1=0∧0≤k.2.1∧k.2.1<w∨k.1=1∧0≤k.2.1∧k.2.1<s∨k.1=2∨k.1=3)
def gg (p:PB) (k:PK):PB×List EV:=
 if k.1=0 then match p.2.2.2.1[k.2.1.toNat]? with
  | some x=>((p.1,p.2.1,(br p.1 p.2.1 p.2.2.1 k.2.1 x k.2.2).1,p.2.2.2.1.set k.2.1.toNat (br p.1 p.2.1 p.2.2.1 k.2.1 x k.2.2).2.1,p.2.2.2.2),(br p.1 p.2.1 p.2.2.1 k.2.1 x k.2.2).2.2)
  | none=>(p,[])
 else if k.1=1 then match p.2.2.2.2[k.2.1.toNat]? with
  | some x=>if Au p.1 p.2.1 p.2.2.1 x=true then ((p.1,p.2.1,(gR p.1 p.2.1 p.2.2.1 k.2.1 x).1,p.2.2.2.1,p.2.2.2.2.set k.2.1.toNat (gR p.1 p.2.1 p.2.2.1 k.2.1 x).2.1),(gR p.1 p.2.1 p.2.2.1 k.2.1 x).2.2) else (p,[])
  | none=>(p,[])
 else if k.1=2 then ((p.1,p.2.1,ar p.2.2.1 3 1,p.2.2.2.1,p.2.2.2.2),[])
 else (p,[])
def oY (p:PB):List PK→PB×List EV
 | []=>(p,[])
 | k::l=>if Db k p.1.1 p.2.2.2.2.length=true then ((oY (gg p k).1 l).1,(gg p k).2++(oY (gg p k).1 l).2) else oY p l
def ahV (p:PB) (l:List PK):PB×List EV:=if fx p=true then oY p l else (p,[])
theorem Zq {c:CF} {m:List Int} {f:FR} (hm:Wm m) (hf:Wf f):Wm (eN c m f).1∧Wf (eN c m f).2:=by
 have hl:=fun i=>cC hm i
 obtain ⟨w3,w4,w5⟩:=hf
 have ha:=gV f.2.2.2.2.1 1
 unfold eN
 repeat' split
 ·exact ⟨hm,w3,w4,w5⟩
 ·exact ⟨hm,w3,hl _,w5⟩
 ·exact ⟨hm,w3,by simp [fy],by simp [fy]⟩
 ·exact ⟨hm,w3,w4,hl _⟩
 ·exact ⟨hm.set _ w3.1 w3.2,w3,w4,w5⟩
 ·exact ⟨hm.set _ ha.1 ha.2,w3,by simp [fy],by simp [fy]⟩
theorem adN {c:CF} {m:List Int} {f:FR} (hm:Wm m) (hf:Wf f):Wm (lb c m f).1∧Wf (lb c m f).2:=by
 have hl:=fun i=>cC hm i
 obtain ⟨w3,w4,w5⟩:=hf
 have ha:=gV f.2.2.2.2.1 1
 have hb:=gV f.2.2.2.2.2.1 1
 have hs:=fun a b=>Vu a b
 unfold lb
 dsimp only
 split
 ·exact ⟨hm,w3,w4,w5⟩
 split
 ·exact ⟨hm,w3,hs _ _,w5⟩
 split
 ·exact ⟨hm.set _ w4.1 w4.2,w3,w4,w5⟩
 split
 ·exact ⟨hm,w3,w4,hl _⟩
 split
 ·split
  ·exact ⟨hm,hl _,by simp [fy],by simp [fy]⟩
  ·exact ⟨hm,hl _,w4,w5⟩
 split
 ·exact ⟨hm.cas _ _ hb.1 hb.2,w3,w4,w5⟩
 split
 ·exact ⟨hm.set _ ha.1 ha.2,w3,by simp [fy],by simp [fy]⟩
 ·exact ⟨hm.set _ ha.1 ha.2,by simp [fy],by simp [fy],by simp [fy]⟩
theorem Uc {c:CF} {m:List Int} {f:FR} (hm:Wm m) (hf:Wf f):Wm (bv c m f).1∧Wf (bv c m f).2:=by
 have hl:=fun i=>cC hm i
 obtain ⟨w3,w4,w5⟩:=hf
 have hb:=gV f.2.2.2.2.2.1 1
 unfold bv
 dsimp only
 split
 ·exact ⟨hm,w3,w4,w5⟩
 split
 ·exact ⟨hm,w3,w4,hl _⟩
 split
 ·split
  ·exact ⟨hm,by simp [fy],by simp [fy],by simp [fy]⟩
  ·exact ⟨hm,w3,hl _,w5⟩
 split
 ·exact ⟨hm,hl _,w4,w5⟩
 split
 ·exact ⟨hm.cas _ _ hb.1 hb.2,w3,by simp [fy],by simp [fy]⟩
 ·exact ⟨hm.cas _ _ hb.1 hb.2,by simp [fy],by simp [fy],by simp [fy]⟩
theorem KQ {c:CF} {m:List Int} {f:FR} (hm:Wm m) (hf:Wf f):Wm (dG c m f).1∧Wf (dG c m f).2:=by
 unfold dG C7
 split
 ·split
  ·exact Zq hm hf
  ·split
   ·exact adN hm hf
   ·split
    ·exact Uc hm hf
    ·exact ⟨hm,hf⟩
 ·exact RP hm hf
structure WOk (n:Nat) (x:WB):Prop where
 f:Wf x.2.2.1
 s:x.2.1.length≤n
 sp:x.2.2.2.1≤9223372036854775807
structure SOk (x:SB):Prop where
 f:Wf x.2.2
 s:x.2.1.length≤1000
theorem abV (a:Int):0≤IntKind.u64.wrap a∧IntKind.u64.wrap a≤18446744073709551615:=by
 rw [kg]
 omega
section
variable {c:CF} {t:Tyt} {m:List Int} {w:Int} {x:WB} {d:Int} {n:Nat}
theorem ZX (hm:Wm m) (hf:Wf x.2.2.1):Wm (br c t m w x d).1:=by
 have h1:=(KQ (c:=c) hm hf).1
 have h2:=fun a b=>gV a b
 refine kC (P:=fun r=>Wm r.1) (fun _=>hm) ?_ ?_ ?_ ?_ ?_ ?_ ?_ ?_ ?_ ?_ ?_ ?_ ?_ ?_ ?_
 all_goals intro _ _
 all_goals dsimp only [IQ,Ax,oo,ml,wT,oF,fc,gU,K9,u3,rX,rS,IX,uq,uE]
 all_goals repeat' split
 all_goals (try dsimp only)
 all_goals first | exact hm | exact h1 | exact hm.set _ (h2 _ _).1 (h2 _ _).2
theorem abN (hm:Wm m) (hf:Wf x.2.2.1):Wf (br c t m w x d).2.1.2.2.1:=by
 have h1:=(KQ (c:=c) hm hf).2
 have h2:=fun i=>cC hm i
 have h3:=fun a=>abV a
 have z:Wf dx:=by simp [Wf,dx]
 have zr:(0:Int)≤0∧(0:Int)≤18446744073709551615:=by decide
 have b:∀ op w,Wf (AB op w 0):=fun op w=>by simp [Wf,AB]
 have b2:∀ op w v,0≤v∧v≤18446744073709551615→Wf (AB op w v):=fun op w v h=>⟨h,by simp [AB],by simp [AB]⟩
 obtain ⟨w3,w4,w5⟩:=hf
 refine kC (P:=fun r=>Wf r.2.1.2.2.1) (fun _=>⟨w3,w4,w5⟩) ?_ ?_ ?_ ?_ ?_ ?_ ?_ ?_ ?_ ?_ ?_ ?_ ?_ ?_ ?_
 all_goals intro _ _
 all_goals dsimp only [IQ,Ax,oo,ml,wT,oF,fc,gU,K9,u3,rX,rS,IX,uq,uE,toW,lq,Fx]
 all_goals repeat' split
 all_goals (try dsimp only)
 all_goals first | exact h1 | exact z | exact b _ _ | exact b2 _ _ _ (h3 _) | exact b2 _ _ _ h1.1 | exact ⟨w3,w4,w5⟩ | exact ⟨h2 _,w4,w5⟩ | exact ⟨h2 4,w4,w5⟩ | exact ⟨zr,w4,w5⟩
theorem ZA (hc:dj c=true) (hs:x.2.2.2.1≤9223372036854775807):(br c t m w x d).2.1.2.2.2.1≤9223372036854775807:=by
 have h4:=aC hc
 refine kC (P:=fun r=>r.2.1.2.2.2.1≤9223372036854775807) (fun _=>hs) ?_ ?_ ?_ ?_ ?_ ?_ ?_ ?_ ?_ ?_ ?_ ?_ ?_ ?_ ?_
 all_goals intro _ _
 all_goals dsimp only [IQ,Ax,oo,ml,wT,oF,fc,gU,K9,u3,rX,rS,IX,uq,uE,toW,lq]
 all_goals repeat' split
 all_goals (try dsimp only)
 all_goals omega
theorem Yi (hc:dj c=true) (hm:Wm m) (h:WOk n x):WOk (n+1) (br c t m w x d).2.1:=
 ⟨abN hm h.f,by have:=QC (c:=c) (t:=t) (m:=m) (w:=w) (x:=x) (d:=d);have:=h.s;omega,ZA hc h.sp⟩
end
section
variable {c:CF} {t:Tyt} {m:List Int} {i:Int} {x:SB}
theorem S3:One m (gR c t m i x).1:=by
 unfold gR
 dsimp only
 repeat' split
 all_goals first | exact One.same m | exact One.store m _ _ | (dsimp only;exact One.store m _ _) | exact KJ c m _
theorem Lv:(gR c t m i x).1.length=m.length:=S3.len
theorem wA:(gR c t m i x).2.1.2.1=x.2.1∨(gR c t m i x).2.1.2.1=x.2.1.tail∧(gR c t m i x).2.1.1=0:=by
 unfold gR
 dsimp only
 repeat' split
 all_goals first | exact .inl rfl | exact .inr ⟨rfl,rfl⟩
theorem So:(gR c t m i x).2.2.length≤2:=by
 unfold gR
 dsimp only
 repeat' split
 all_goals simp
theorem aht (h:0≤x.1∧x.1<6):0≤(gR c t m i x).2.1.1∧(gR c t m i x).2.1.1<6:=by
 unfold gR
 dsimp only
 repeat' split
 all_goals (try dsimp only)
 all_goals omega
theorem Ys (h:Ce t x=true) (hm:Au c t m x=true):Ce t (gR c t m i x).2.1=true:=by
 unfold Ce at h ⊢
 simp only [Bool.and_eq_true,decide_eq_true_eq,List.all_eq_true,Bool.or_eq_true] at h ⊢
 obtain ⟨_,_,_,h4,h5,r,rest,hx,h6,h7⟩:=Co hm
 refine ⟨⟨aht h.1.1,fun y hy => ?_⟩,?_⟩
 ·rcases wA (c:=c) (t:=t) (m:=m) (i:=i) (x:=x) with e | e
  ·rw [e] at hy;exact h.1.2 y hy
  ·rw [e.1] at hy;exact h.1.2 y (List.mem_of_mem_tail hy)
 ·rcases wA (c:=c) (t:=t) (m:=m) (i:=i) (x:=x) with e | e
  ·refine .inr ?_
   rw [e,hx]
   simp
  ·exact .inl e.2
theorem afV (hm:Wm m) (ht:t.length≤1000) (h:SOk x):SOk (gR c t m i x).2.1:=by
 refine ⟨(Xu hm h.f ht).2,?_⟩
 have:=h.s
 rcases wA (c:=c) (t:=t) (m:=m) (i:=i) (x:=x) with e | e
 ·rw [e];exact h.s
 ·rw [e.1,List.length_tail];omega
end
structure Good (n:Nat) (p:PB):Prop where
 t:FwT p.2.1
 tl:p.2.1.length≤1000
 m:Wm p.2.2.1
 w:∀ x ∈ p.2.2.2.1,WOk n x
 s:∀ x ∈ p.2.2.2.2,SOk x
theorem BJ {c:CF} {t:Tyt} {m:List Int}:∀ {l:List WB} {i:Nat},Ht c t m i l=true↔∀ (j:Nat) x,l[j]? = some x→eA c t m ((i+j:Nat):Int) x=true
 | [],i=>by simp [Ht]
 | y::l,i=>by
  rw [Ht,Bool.and_eq_true,BJ (l:=l)]
  constructor
  ·intro h j x hx
   cases j with
   | zero=>cases hx;exact h.1
   | succ j=>
    have:=h.2 j x hx
    rw [show i+(j+1)=i+1+j by omega]
    exact this
  ·intro h
   refine ⟨h 0 y rfl,fun j x hx => ?_⟩
   have:=h (j+1) x hx
   rw [show i+1+j=i+(j+1) by omega]
   exact this
theorem Ca {c:CF} {t:Tyt} {m m':List Int} {w:Int} {x:WB} (h:m'.length=m.length):eA c t m' w x=eA c t m w x:=by
 unfold eA
 rw [h]
theorem oh {p:PB} (h:fx p=true):dj p.1=true∧(p.2.2.2.1.length:Int)=p.1.1∧p.2.2.2.2.length≤3∧(∀ (j:Nat) x,p.2.2.2.1[j]? = some x→eA p.1 p.2.1 p.2.2.1 (j:Int) x=true)∧(∀ x ∈ p.2.2.2.2,Ce p.2.1 x=true):=by
 unfold fx at h
 simp only [Bool.and_eq_true,decide_eq_true_eq,List.all_eq_true] at h
 refine ⟨h.1.1.1,h.1.1.2.1,h.1.1.2.2,fun j x hx => ?_,h.2⟩
 have:=BJ.1 h.1.2 j x hx
 rw [Nat.zero_add] at this
 exact this
theorem Ff {p:PB} (h1:dj p.1=true) (h2:(p.2.2.2.1.length:Int)=p.1.1) (h3:p.2.2.2.2.length≤3) (h4:∀ (j:Nat) x,p.2.2.2.1[j]? = some x→eA p.1 p.2.1 p.2.2.1 (j:Int) x=true) (h5:∀ x ∈ p.2.2.2.2,Ce p.2.1 x=true):fx p=true:=by
 unfold fx
 simp only [Bool.and_eq_true,decide_eq_true_eq,List.all_eq_true]
 refine ⟨⟨⟨h1,h2,h3⟩,BJ.2 fun j x hx => ?_⟩,h5⟩
 rw [Nat.zero_add]
 exact h4 j x hx
theorem IS {α:Type} {l:List α} {i:Nat} {y x:α} (h:x ∈ l.set i y):x ∈ l∨x=y:=by
 rcases List.mem_or_eq_of_mem_set h with h | h
 ·exact .inl h
 ·exact .inr h
theorem pY {p:PB} {k:PK} {P:PB×List EV→Prop} (h0:P (p,[]))
  (hw:∀ x,p.2.2.2.1[k.2.1.toNat]? = some x→k.1=0→P ((p.1,p.2.1,(br p.1 p.2.1 p.2.2.1 k.2.1 x k.2.2).1,p.2.2.2.1.set k.2.1.toNat (br p.1 p.2.1 p.2.2.1 k.2.1 x k.2.2).2.1,p.2.2.2.2),(br p.1 p.2.1 p.2.2.1 k.2.1 x k.2.2).2.2))
  (hs:∀ x,p.2.2.2.2[k.2.1.toNat]? = some x→Au p.1 p.2.1 p.2.2.1 x=true→P ((p.1,p.2.1,(gR p.1 p.2.1 p.2.2.1 k.2.1 x).1,p.2.2.2.1,p.2.2.2.2.set k.2.1.toNat (gR p.1 p.2.1 p.2.2.1 k.2.1 x).2.1),(gR p.1 p.2.1 p.2.2.1 k.2.1 x).2.2))
  (hc:P ((p.1,p.2.1,ar p.2.2.1 3 1,p.2.2.2.1,p.2.2.2.2),[])):P (gg p k):=by
 unfold gg
 split
 ·rename_i e
  split
  ·rename_i x hx;exact hw x hx e
  ·exact h0
 ·split
  ·split
   ·rename_i x hx
    split
    ·rename_i hm;exact hs x hx hm
    ·exact h0
   ·exact h0
  ·split
   ·exact hc
   ·exact h0
theorem Uu {p:PB} {k:PK}:(gg p k).1.2.2.1.length=p.2.2.1.length:=by
 refine pY (P:=fun r=>r.1.2.2.1.length=p.2.2.1.length) rfl (fun x _ _=>Eu.len) (fun x _ _=>Lv) (show (ar p.2.2.1 3 1).length=p.2.2.1.length from kH)
theorem Cy {p:PB} {k:PK}:(gg p k).1.1=p.1∧(gg p k).1.2.1=p.2.1∧(gg p k).1.2.2.2.1.length=p.2.2.2.1.length∧(gg p k).1.2.2.2.2.length=p.2.2.2.2.length:=by
 refine pY (P:=fun r=>r.1.1=p.1∧r.1.2.1=p.2.1∧r.1.2.2.2.1.length=p.2.2.2.1.length∧r.1.2.2.2.2.length=p.2.2.2.2.length) ⟨rfl,rfl,rfl,rfl⟩ (fun x _ _=>⟨rfl,rfl,List.length_set,rfl⟩) (fun x _ _=>⟨rfl,rfl,rfl,List.length_set⟩) ⟨rfl,rfl,rfl,rfl⟩
theorem Mb {p:PB} {k:PK}:(gg p k).2.length≤2:=
 pY (P:=fun r=>r.2.length≤2) (Nat.zero_le _) (fun x _ _=>Us) (fun x _ _=>So) (Nat.zero_le _)
theorem Cb {n:Nat} {p:PB} {k:PK} (h:Good n p) (hc:dj p.1=true):Good (n+1) (gg p k).1:=by
 have up:∀ x ∈ p.2.2.2.1,WOk (n+1) x:=fun x hx=>⟨(h.w x hx).f,Nat.le_succ_of_le (h.w x hx).s,(h.w x hx).sp⟩
 refine pY (P:=fun r=>Good (n+1) r.1) ⟨h.t,h.tl,h.m,up,h.s⟩ (fun x hx _ => ?_) (fun x hx _ => ?_) ⟨h.t,h.tl,show Wm (ar p.2.2.1 3 1) from h.m.set 3 (by decide) (by decide),up,h.s⟩
 ·have hx':=h.w x (List.mem_of_getElem? hx)
  refine ⟨h.t,h.tl,ZX h.m hx'.f,fun y hy => ?_,h.s⟩
  rcases IS hy with hy | rfl
  ·exact up y hy
  ·exact Yi hc h.m hx'
 ·have hx':=h.s x (List.mem_of_getElem? hx)
  refine ⟨h.t,h.tl,(Xu h.m hx'.f h.tl).1,up,fun y hy => ?_⟩
  rcases IS hy with hy | rfl
  ·exact h.s y hy
  ·exact afV h.m h.tl hx'
theorem AD {p:PB} {k:PK} (h:fx p=true) (hk:Db k p.1.1 p.2.2.2.2.length=true):fx (gg p k).1=true:=by
 obtain ⟨h1,h2,h3,h4,h5⟩:=oh h
 refine pY (P:=fun r=>fx r.1=true) h (fun x hx hk0 => ?_) (fun x hx hm => ?_) ?_
 ·have h0:0≤k.2.1:=by
   unfold Db at hk
   rw [decide_eq_true_eq] at hk
   omega
  have hkk:((k.2.1.toNat:Nat):Int)=k.2.1:=by omega
  refine Ff h1 (by dsimp only;rw [List.length_set];exact h2) h3 (fun j y hy => ?_) h5
  dsimp only at hy ⊢
  rw [List.getElem?_set] at hy
  split at hy
  ·rename_i e
   split at hy
   ·cases hy
    subst e
    rw [hkk]
    have:=h4 _ x hx
    rw [hkk] at this
    exact UV this
   ·cases hy
  ·rw [Ca Eu.len]
   exact h4 j y hy
 ·refine Ff h1 h2 (by dsimp only;rw [List.length_set];exact h3) (fun j y hy => ?_) fun y hy => ?_
  ·dsimp only
   rw [Ca Lv]
   exact h4 j y hy
  ·rcases IS hy with hy | rfl
   ·exact h5 y hy
   ·exact Ys (h5 x (List.mem_of_getElem? hx)) hm
 ·refine Ff h1 h2 h3 (fun j y hy => ?_) h5
  dsimp only
  rw [Ca kH]
  exact h4 j y hy
theorem JP {P:PB→Prop} (hs:∀ p k,fx p=true→Db k p.1.1 p.2.2.2.2.length=true→P p→P (gg p k).1):∀ {l:List PK} {p:PB},fx p=true→P p→P (oY p l).1∧fx (oY p l).1=true
 | [],p,h,hp=>⟨hp,h⟩
 | k::l,p,h,hp=>by
  rw [oY]
  split
  ·rename_i hk
   exact JP hs (AD h hk) (hs p k h hk hp)
  ·exact JP hs h hp
end Go.Ab
set_option linter.unusedVariables false
set_option linter.unusedSimpArgs false
namespace Go.Ab
theorem I4 (n w:Int):cM n w=some (decide (0≤n∧n<w)):=by
 unfold cM
 by_cases h0:0≤n
 ·rw [leT h0,cond_true]
  by_cases h1:n<w
  ·rw [ltT h1,decide_eq_true ⟨h0,h1⟩]
  ·rw [ltF (by omega),decide_eq_false (by omega)]
 ·rw [leF (by omega),cond_false,decide_eq_false (by omega)]
theorem aa2 (k:PK) (w s:Int):kq k w s=some (Db k w s):=by
 unfold kq Db
 simp only [I4,ab,nM]
 by_cases h0:k.1=0
 ·by_cases hb:0≤k.2.1∧k.2.1<w
  ·simp [h0,hb]
  ·simp [h0,hb]
 ·by_cases h1:k.1=1
  ·by_cases hb:0≤k.2.1∧k.2.1<s
   ·simp [h1,hb]
   ·simp [h1,hb]
  ·by_cases h2:k.1=2
   ·simp [h2]
   ·simp [h0,h1,h2]
theorem AG {α:Type}:∀ {l:List α} {i:Nat} {x:α},l[i]? = some x→l.set i x=l
 | [],_,_,h=>by cases h
 | a::l,0,x,h=>by cases h;rfl
 | a::l,i+1,x,h=>by rw [List.set_cons_succ,AG (l:=l) (by simpa using h)]
theorem amS {i n:Nat} (h:i<n):decide ((0:Int)≤(i:Int)∧(i:Int).toNat<n)=true:=decide_eq_true ⟨by omega,by omega⟩
theorem I7 (k:Nat) (hk:1000≤k) {t:Tyt} (ht:FwT t):dK k t=some t:=by
 have hl:=ht.len
 unfold dK
 rw [bH (by omega),ab]
 have key:∀ (r:Tyt) (q n:Nat),t.drop q=r→q≤t.length→r.length<n→dw k t n t (t.length:Int) (q:Int) t=some t:=by
  intro r
  induction r with
  | nil=>
   intro q n hr hq hn
   obtain ⟨n,rfl⟩:=ki hn
   have:=eb hr
   rw [dw,ltF (by omega),cond_false,decide_eq_true (Nat.le_refl _),bC,List.take_length]
  | cons v r ih=>
   intro q n hr hq hn
   obtain ⟨n,rfl⟩:=ki hn
   obtain ⟨h0,h1,h2,_,h4⟩:=cX hr
   have hv:=ht.kids v (List.mem_of_getElem? h1)
   rw [dw,ltN h0,cond_true,amS h0,cond_true,Int.toNat_natCast,h1,ab,bH (by omega),ab,cond_true,ab,ga (by omega),AG h1]
   exact ih (q+1) n h2 (by omega) (by simp only [List.length_cons] at hn;omega)
 have:=key t 0 (k+1) rfl (Nat.zero_le _) (by omega)
 simpa using this
theorem aor (k n:Nat) {t:Tyt} {l:List Int} (hl:l.length≤1000) (hn:l.length<n):cy k n l (l.length:Int) t 0=some (Jo (fun r => !decide (0≤r∧r<(t.length:Int))) l 0):=by
 refine C4 (F:=fun n i=>cy k n l (l.length:Int) t i) (l:=l) _ ?_ ?_ n hn
 ·intro n
  simp only [cy,pd,cond_false]
 ·intro n i x hi hx
  simp only [cy,ltN hi,cond_true,fA hx,ab]
  rw [ga (by omega)]
  by_cases h0:x<0
  ·rw [ltT h0,cond_true,decide_eq_false (by omega)]
   rfl
  ·rw [ltF (by omega),cond_false]
   by_cases h1:(t.length:Int)≤x
   ·rw [leT h1,cond_true,decide_eq_false (by omega)]
    rfl
   ·rw [leF (by omega),cond_false,decide_eq_true (by omega)]
    rfl
theorem afD (k n:Nat) (hk:1000≤k) {t:Tyt} {S:List SB} (hS:S.length≤1000) (hr:∀ x ∈ S,x.2.1.length≤1000) (hn:S.length<n):bU k n S (S.length:Int) t 0=some (Jo (fun x => !Ce t x) S 0):=by
 refine C4 (F:=fun n i=>bU k n S (S.length:Int) t i) (l:=S) _ ?_ ?_ n hn
 ·intro n
  simp only [bU,pd,cond_false]
 ·intro n i x hi hx
  have hx':=hr x (List.mem_of_getElem? hx)
  have ho:=aor k (k+29) (t:=t) hx' (by omega)
  simp only [bU,ltN hi,cond_true,fA hx,ab,ho,mV]
  rw [ga (by omega)]
  have e:Ce t x=(decide (0≤x.1∧x.1<6) && !(x.2.1.any fun r => !decide (0≤r∧r<(t.length:Int)))&&(decide (x.1=0)||decide (x.2.1≠[]))):=by
   unfold Ce
   rw [List.all_eq_not_any_not]
  rw [e,E0,nM]
  by_cases h0:x.1<0
  ·rw [ltT h0,cond_true,decide_eq_false (show ¬ (0≤x.1∧x.1<6) by omega)]
   rfl
  ·rw [ltF (by omega),cond_false]
   by_cases h6:6≤x.1
   ·rw [leT h6,cond_true,decide_eq_false (show ¬ (0≤x.1∧x.1<6) by omega)]
    rfl
   ·rw [leF (by omega),cond_false,decide_eq_true (show 0≤x.1∧x.1<6 by omega)]
    cases (x.2.1.any fun r => !decide (0≤r∧r<(t.length:Int))) with
    | true=>rfl
    | false=>
     rw [cond_false]
     by_cases hz:x.1=0
     ·rw [decide_eq_true hz]
      rfl
     ·rw [decide_eq_false hz,Bool.not_false,cond_true]
      by_cases hn:x.2.1=[]
      ·rw [hn]
       rfl
      ·have hl:¬ ((x.2.1.length:Int)=0):=by
        intro h
        exact hn (List.length_eq_zero_iff.1 (by omega))
       rw [decide_eq_false hl,decide_eq_true hn]
       rfl
section
variable {k:Nat} (hk:9223372036854779000≤k) {p:PB} (ht:Wt p.2.1) (hw:∀ x ∈ p.2.2.2.1,x.2.1.length≤9000) (hs:∀ x ∈ p.2.2.2.2,x.2.1.length≤1000)
include hk ht hw hs
theorem LY:fk k p=some (fx p):=by
 unfold fk fx
 simp only [Prod.eta,iM,ab]
 cases hm:dj p.1 with
 | false=>rfl
 | true=>
  have hc:=aC hm
  rw [Bool.not_true,cond_false,Bool.true_and,E0]
  by_cases h1:(p.2.2.2.1.length:Int)=p.1.1
  ·rw [decide_eq_true h1,Bool.not_true,cond_false]
   by_cases h3:(3:Int)<p.2.2.2.2.length
   ·rw [ltT h3,cond_true,decide_eq_false (by omega)]
    rfl
   ·rw [ltF (by omega),cond_false,decide_eq_true ⟨h1,by omega⟩,Bool.true_and]
    have key:∀ (r:List WB) (q n:Nat),p.2.2.2.1.drop q=r→q≤p.2.2.2.1.length→r.length<n→eY k p n (q:Int)=some (Ht p.1 p.2.1 p.2.2.1 q r&&p.2.2.2.2.all (Ce p.2.1)):=by
     intro r
     induction r with
     | nil=>
      intro q n hr hq hn
      obtain ⟨n,rfl⟩:=ki hn
      have:=eb hr
      rw [eY,ltF (by omega),cond_false,afD k (k+32) (by omega) (by omega) hs (by omega),ab,mV,Ht,Bool.true_and,List.all_eq_not_any_not]
     | cons v r ih=>
      intro q n hr hq hn
      obtain ⟨n,rfl⟩:=ki hn
      obtain ⟨h0,h1',h2,_,h4⟩:=cX hr
      have hv:=hw v (List.mem_of_getElem? h1')
      rw [eY,ltN h0,cond_true,fA h1',ab]
      try simp only [Prod.eta]
      rw [Qc (by omega) p.1 ht p.2.2.1 (q:Int) v hv,ab,Ht,ga (by omega),ih (q+1) n h2 (by omega) (by simp only [List.length_cons] at hn;omega)]
      cases eA p.1 p.2.1 p.2.2.1 (q:Int) v <;> rfl
    have:=key p.2.2.2.1 0 (k+33) rfl (Nat.zero_le _) (by omega)
    simpa using this
  ·rw [decide_eq_false h1,Bool.not_false,cond_true,decide_eq_false (fun h=>h1 h.1)]
   rfl
end
theorem QD (k:Nat) (c1 c2 c3 c4:Int) (t:Tyt) (m:List Int) (W:List WB) {S:List SB} (hS:S.length≤1000) (hr:∀ x ∈ S,x.2.1.length≤1000):∀ (r:List SB) (q n:Nat),S.drop q=r→q≤S.length→r.length<n →
  cU k n c1 c2 c3 c4 t m W S (S.length:Int) W (q:Int) S=some (c1,c2,c3,c4,t,m,W,S,W,S):=by
 intro r
 induction r with
 | nil=>
  intro q n hr hq hn
  obtain ⟨n,rfl⟩:=ki hn
  have:=eb hr
  rw [cU,ltF (by omega),cond_false]
 | cons v r ih=>
  intro q n hr' hq hn
  obtain ⟨n,rfl⟩:=ki hn
  obtain ⟨h0,h1,h2,_,h4⟩:=cX hr'
  have hv:=hr v (List.mem_of_getElem? h1)
  rw [cU,ltN h0,cond_true,amS h0,cond_true,Int.toNat_natCast,h1,ab,bH (by omega),ab,cond_true,ab,ga (by omega)]
  try simp only [Prod.eta]
  rw [AG h1]
  exact ih (q+1) n h2 (by omega) (by simp only [List.length_cons] at hn;omega)
theorem LL (k:Nat) (hk:1000≤k) (c1 c2 c3 c4:Int) (t:Tyt) (m:List Int) {W:List WB} {S:List SB} (hW:W.length≤1000) (hw:∀ x ∈ W,x.2.1.length≤9000) (hS:S.length≤1000) (hs:∀ x ∈ S,x.2.1.length≤1000):∀ (r:List WB) (q n:Nat),W.drop q=r→q≤W.length→r.length<n →
  bV k n c1 c2 c3 c4 t m W S (W.length:Int) (q:Int) W=some (c1,c2,c3,c4,t,m,W,S,W,S):=by
 intro r
 induction r with
 | nil=>
  intro q n hr hq hn
  obtain ⟨n,rfl⟩:=ki hn
  have:=eb hr
  rw [bV,ltF (by omega),cond_false]
  exact QD k c1 c2 c3 c4 t m W hS hs S 0 (k+61) rfl (Nat.zero_le _) (by omega)
 | cons v r ih=>
  intro q n hr' hq hn
  obtain ⟨n,rfl⟩:=ki hn
  obtain ⟨h0,h1,h2,_,h4⟩:=cX hr'
  have hv:=hw v (List.mem_of_getElem? h1)
  rw [bV,ltN h0,cond_true,amS h0,cond_true,Int.toNat_natCast,h1,ab,bH (by omega),ab,cond_true,ab,ga (by omega)]
  try simp only [Prod.eta]
  rw [AG h1]
  exact ih (q+1) n h2 (by omega) (by simp only [List.length_cons] at hn;omega)
def Wp (l:List PK):Prop:=∀ x ∈ l,0≤x.2.2∧x.2.2≤18446744073709551615
section
variable {k:Nat} (hk:9223372036854779000≤k) {p0:PB} {l:List PK} (hl:l.length≤1000) (hd:Wp l)
include hk hl hd
theorem S6:∀ (r:List PK) (q n N:Nat) (p:PB) (W0:List WB) (S0:List SB) (evs:List EV) (e:Nat),l.drop q=r→q≤l.length→r.length<n→(e=3∨e=0)→p.1=p0.1→p.2.2.2.2.length=p0.2.2.2.2.length→W0.length=p.2.2.2.1.length→S0.length=p.2.2.2.2.length→Good N p→fx p=true→N+r.length≤9000→evs.length+2*r.length≤4000 →
  bh k p0 l n p.1.1 p.1.2.1 p.1.2.2.1 p.1.2.2.2 p.2.1 W0 S0 p.2.2.2.1 p.2.2.2.2 evs (q:Int) p.2.2.1 e=some ((oY p r).1,evs++(oY p r).2):=by
 intro r
 induction r with
 | nil=>
  intro q n N p W0 S0 evs e hr hq hn he hc hS hW0 hS0 hg hm hN hE
  obtain ⟨n,rfl⟩:=ki hn
  have:=eb hr
  rw [bh,ltF (by omega),cond_false,decide_eq_true (by omega),bC,decide_eq_true (by omega),bC,hW0,hS0,List.take_length,List.take_length,oY,List.append_nil]
 | cons v r ih=>
  intro q n N p W0 S0 evs e hr hq hn he hc hS hW0 hS0 hg hm hN hE
  obtain ⟨n,rfl⟩:=ki hn
  obtain ⟨h0,h1,h2,_,h4⟩:=cX hr
  have hv:=hd v (List.mem_of_getElem? h1)
  obtain ⟨m1,m2,m3,m4,m5⟩:=oh hm
  have hcc:=aC m1
  simp only [List.length_cons] at hn hN hE
  have hml:p.2.2.1.length≤1000:=by
   have hW1:0<p.2.2.2.1.length:=by omega
   have:=(Jh (m4 0 _ (List.getElem?_eq_getElem hW1))).2.1
   have:=uY m1
   omega
  have hes:(e==3||e==0)=true:=by rcases he with rfl | rfl <;> rfl
  have next:∀ (evs':List EV) (p':PB),p'.1=p.1→p'.2.1=p.2.1→p'.2.2.2.1.length=p.2.2.2.1.length→p'.2.2.2.2.length=p.2.2.2.2.length→Good (N+1) p'→fx p'=true→evs'.length≤evs.length+2→∀ e',(e'=3∨e'=0) →
    bh k p0 l n p.1.1 p.1.2.1 p.1.2.2.1 p.1.2.2.2 p.2.1 W0 S0 p'.2.2.2.1 p'.2.2.2.2 evs' ((q+1:Nat):Int) p'.2.2.1 e'=some ((oY p' r).1,evs'++(oY p' r).2):=fun evs' p' g1 g2 g3 g4 g5 g6 g7 e' he'=>by
   have:=ih (q+1) n (N+1) p' W0 S0 evs' e' h2 (by omega) (by omega) he' (by rw [g1,hc]) (by omega) (by omega) (by omega) g5 g6 (by omega) (by omega)
   rw [g1,g2] at this
   exact this
  have hw:IntKind.i64.wrap ((q:Int)+1)=((q+1:Nat):Int):=ga (by omega)
  have up:Good (N+1) p:=⟨hg.t,hg.tl,hg.m,fun x hx=>⟨(hg.w x hx).f,Nat.le_succ_of_le (hg.w x hx).s,(hg.w x hx).sp⟩,hg.s⟩
  rw [bh,ltN h0,cond_true,fA h1,ab]
  simp only [Prod.eta,hw]
  rw [aa2,ab,oY,← hc,← hS]
  cases hf:Db v p.1.1 p.2.2.2.2.length with
  | false=>
   rw [cond_false,if_neg (by simp)]
   exact next evs p rfl rfl rfl rfl up hm (by omega) e he
  | true=>
   have st:=Cy (p:=p) (k:=v)
   have sg:=Cb (k:=v) hg m1
   have sm:=AD hm hf
   have se:=Mb (p:=p) (k:=v)
   have nx:=fun e' he'=>next (evs++(gg p v).2) (gg p v).1 st.1 st.2.1 st.2.2.1 st.2.2.2 sg sm (by rw [List.length_append];omega) e' he'
   have hroom:room (evs++(gg p v).2).length 24=true:=As (by rw [List.length_append];omega)
   have hroom0:room evs.length 24=true:=As (by omega)
   rw [cond_true,if_pos rfl]
   simp only [← List.append_assoc]
   have hfit:=hf
   unfold Db at hfit
   rw [decide_eq_true_eq] at hfit
   by_cases k0:v.1=0
   ·have hb:0≤v.2.1∧v.2.1<p.1.1:=by omega
    have hi:v.2.1.toNat<p.2.2.2.1.length:=by omega
    have hx:=List.getElem?_eq_getElem hi
    have hdec:decide (0≤v.2.1∧v.2.1.toNat<W0.length)=true:=decide_eq_true ⟨hb.1,by omega⟩
    generalize p.2.2.2.1[v.2.1.toNat]=x at hx
    have hxo:=hg.w x (List.mem_of_getElem? hx)
    have es:gg p v=((p.1,p.2.1,(br p.1 p.2.1 p.2.2.1 v.2.1 x v.2.2).1,p.2.2.2.1.set v.2.1.toNat (br p.1 p.2.1 p.2.2.1 v.2.1 x v.2.2).2.1,p.2.2.2.2),(br p.1 p.2.1 p.2.2.1 v.2.1 x v.2.2).2.2):=by
     unfold gg
     rw [if_pos k0,hx]
    rw [nM,decide_eq_true k0,cond_true,hdec,cond_true,hx,ab]
    try simp only [Prod.eta]
    rw [Ti (by omega) p.1 hg.t.wt hg.m hml v.2.1 hxo.f (by have:=hxo.s;omega) (by have:=hxo.sp;omega) hv,ab,cond_true,ab,hes,bC]
    rw [es] at nx hroom ⊢
    rw [hroom,cond_true]
    exact nx 3 (.inl rfl)
   ·rw [nM,decide_eq_false k0,cond_false]
    by_cases k1:v.1=1
    ·have hb:0≤v.2.1∧v.2.1<(p.2.2.2.2.length:Int):=by omega
     have hi:v.2.1.toNat<p.2.2.2.2.length:=by omega
     have hx:=List.getElem?_eq_getElem hi
     have hdec:decide (0≤v.2.1∧v.2.1.toNat<S0.length)=true:=decide_eq_true ⟨hb.1,by omega⟩
     generalize p.2.2.2.2[v.2.1.toNat]=x at hx
     have hxo:=hg.s x (List.mem_of_getElem? hx)
     rw [nM,decide_eq_true k1,cond_true,hdec,cond_true,hx,ab]
     try simp only [Prod.eta]
     rw [WS (by omega) p.1 hg.t.wt,ab]
     cases hsm:Au p.1 p.2.1 p.2.2.1 x with
     | false=>
      have es:gg p v=(p,[]):=by
       unfold gg
       rw [if_neg k0,if_pos k1,hx]
       dsimp only
       rw [hsm,if_neg (by simp)]
      rw [es] at nx ⊢
      rw [cond_false,hes,bC,hroom0,cond_true]
      have:=nx 3 (.inl rfl)
      rw [List.append_nil] at this ⊢
      exact this
     | true=>
      have es:gg p v=((p.1,p.2.1,(gR p.1 p.2.1 p.2.2.1 v.2.1 x).1,p.2.2.2.1,p.2.2.2.2.set v.2.1.toNat (gR p.1 p.2.1 p.2.2.1 v.2.1 x).2.1),(gR p.1 p.2.1 p.2.2.1 v.2.1 x).2.2):=by
       unfold gg
       rw [if_neg k0,if_pos k1,hx]
       dsimp only
       rw [hsm,if_pos rfl]
      rw [cond_true,cond_true,ab]
      rw [abR (by omega) p.1 hg.t.wt hg.m hml v.2.1 hxo.f hxo.s hg.tl,ab,cond_true,ab,hes,bC]
      rw [es] at nx hroom ⊢
      rw [hroom,cond_true]
      exact nx 3 (.inl rfl)
    ·rw [nM,decide_eq_false k1,cond_false]
     by_cases k2:v.1=2
     ·have es:gg p v=((p.1,p.2.1,ar p.2.2.1 3 1,p.2.2.2.1,p.2.2.2.2),[]):=by
       unfold gg
       rw [if_neg k0,if_neg k1,if_pos k2]
      rw [nM,decide_eq_true k2,cond_true,mh hml,ab,hes,bC,hroom0,cond_true]
      rw [es] at nx ⊢
      have:=nx 3 (.inl rfl)
      rw [List.append_nil] at this ⊢
      exact this
     ·have es:gg p v=(p,[]):=by
       unfold gg
       rw [if_neg k0,if_neg k1,if_neg k2]
      rw [nM,decide_eq_false k2,cond_false,hes,bC,hroom0,cond_true]
      rw [es] at nx ⊢
      have:=nx 3 (.inl rfl)
      rw [List.append_nil] at this ⊢
      exact this
theorem aeq {N:Nat} (hg:Good N p0) (hW:p0.2.2.2.1.length≤20) (hS:p0.2.2.2.2.length≤20) (hml:p0.2.2.1.length≤1000) (hN:N+l.length≤9000):kz k p0 l=some (ahV p0 l):=by
 have hw:∀ x ∈ p0.2.2.2.1,x.2.1.length≤9000:=fun x hx=>by have:=(hg.w x hx).s;omega
 have hs:∀ x ∈ p0.2.2.2.2,x.2.1.length≤1000:=fun x hx=>(hg.s x hx).s
 unfold kz ahV
 try simp only [Prod.eta]
 rw [I7 _ (by omega) hg.t,ab,bH (by omega),ab,bH (by omega),ab,bH (by omega),ab]
 have ho:=LL k (by omega) p0.1.1 p0.1.2.1 p0.1.2.2.1 p0.1.2.2.2 p0.2.1 p0.2.2.1 (by omega) hw (by omega) hs p0.2.2.2.1 0 (k+61) rfl (Nat.zero_le _) (by omega)
 refine (congrArg (fun z=>ob z _) ho).trans ?_
 rw [ab]
 dsimp only
 rw [decide_eq_true (Nat.le_refl _),bC,decide_eq_true (Nat.le_refl _),bC,LY (by omega) hg.t.wt hw hs,ab,List.take_length,List.take_length,decide_eq_true (Nat.le_refl _),decide_eq_true (Nat.le_refl _)]
 cases hm:fx p0 with
 | false=>
  rw [Bool.not_false,cond_true,bC,bC,if_neg (by simp),List.take_length,List.take_length]
 | true=>
  rw [Bool.not_true,cond_false,if_pos rfl]
  exact S6 hk hl hd l 0 (k+62) N p0 p0.2.2.2.1 p0.2.2.2.2 [] 0 rfl (Nat.zero_le _) (by omega) (.inr rfl) rfl rfl rfl rfl hg hm hN (by simp;omega)
end
end Go.Ab
set_option linter.unusedVariables false
set_option linter.unusedSimpArgs false
namespace Go.Ab
theorem Rb (n:Nat) (i:Int):ah (List.replicate n 0) i=0:=by
 unfold ah
 split
 ·rw [List.getElem?_replicate]
  split <;> rfl
 ·rfl
theorem amJ {k:Nat} (hk:1000≤k) (c:CF):nm k c=some (List.replicate (bN c).toNat 0):=by
 have hs:0≤bN c∧bN c≤190:=by
  unfold bN
  split
  ·rename_i h
   have hm:=aC h
   have:=dX h (w:=c.1) (by omega) (by omega)
   omega
  ·omega
 have key:∀ (d i n t:Nat),(t=0∨t=1)→i+d=(bN c).toNat→d<n→fK k c n (bN c) (List.replicate i 0) (i:Int) t=some (List.replicate (bN c).toNat 0):=by
  intro d
  induction d with
  | zero=>
   intro i n t ht hi hn
   obtain ⟨n,rfl⟩:=ki hn
   rw [fK,ltF (by omega),cond_false]
   rw [show i=(bN c).toNat by omega]
  | succ d ih=>
   intro i n t ht hi hn
   obtain ⟨n,rfl⟩:=ki hn
   have h1:(t==1||t==0)=true:=by rcases ht with rfl | rfl <;> rfl
   rw [fK,ltT (by omega),cond_true,h1,bC,As (by simp;omega),cond_true,ga (by omega)]
   have:=ih (i+1) n 1 (.inr rfl) (by omega) (by omega)
   rw [List.replicate_succ'] at this
   exact this
 unfold nm
 simp only [Prod.eta,D7,ab]
 exact key (bN c).toNat 0 (k+3) 0 (.inl rfl) (by omega) (by omega)
theorem adf {l:List Int} (h:l.length≤1000):kP l=some (0,l,dx):=by
 unfold kP
 rw [bH (by omega),ab]
 rfl
theorem Lr {α:Type} (p:α→Bool):∀ (l:List α) (i:Nat),Jo p l i = -1∨∃ (j:Nat) (x:α),Jo p l i=((i+j:Nat):Int)∧l[j]? = some x∧p x=true
 | [],_ => .inl rfl
 | x::r,i=>by
  rw [Jo]
  by_cases h:p x=true
  ·rw [if_pos h]
   exact .inr ⟨0,x,rfl,rfl,h⟩
  ·rw [if_neg h]
   rcases Lr p r (i+1) with e | ⟨j,y,e,h1,h2⟩
   ·exact .inl e
   ·refine .inr ⟨j+1,y,?_,h1,h2⟩
    rw [e]
    congr 1
    omega
theorem Zh (k:Nat) {l:List Int} (hl:l.length≤1000) (hk:1001≤k) (v:Int):dP k l v=some (Jo (fun y=>v==y) l 0):=by
 unfold dP
 refine C4 (F:=fun n i=>bK k l v n i) (l:=l) _ ?_ ?_ k (by omega)
 ·intro n
  simp only [bK,pd,cond_false]
 ·intro n i y hi hy
  simp only [bK,ltN hi,cond_true,fA hy,ab]
  rw [ga (by omega)]
def RtB (t:Tyt) (y:Int):Prop:=(0≤y∧y<(t.length:Int))∧dE t y = -1
section
variable (k:Nat) (hk:9223372036854775808≤k)
include hk
theorem Hr (t:Tyt) (ht:Wt t) (q:Int):eo k t q=some (dE t q):=by
 have hlen:=ht.len
 rw [eo,EW k hk t ht,ab]
 unfold dE
 cases hm:nQ t with
 | false=>rfl
 | true=>
  rw [cond_true,if_pos rfl]
  have inner:∀ (x:Int×List Int) (hx:x ∈ t) (i:Nat) (hi:i<t.length) (o:Int→Option Int) (R:List (Int×Int)) (z:Int)
    (ho:o ((i+1:Nat):Int)=some (if (Fj (lh q) R z).1 then -1 else (Fj (lh q) R z).2)),
    ∀ r j n,x.2.drop j=r→r.length<n →
     cf k t q o n x.2 (x.2.length:Int) (j:Int) (i:Int)=some (if (Fj (lh q) (r.map (fun p=>(p,(i:Int)))++R) z).1 then -1 else (Fj (lh q) (r.map (fun p=>(p,(i:Int)))++R) z).2):=by
   intro x hx i hi o R z ho r
   have hxl:=ht.kids x hx
   induction r with
   | nil=>
    intro j n hr hn
    obtain ⟨n,rfl⟩:=ki hn
    have hj:=eb hr
    rw [cf,ltF (by omega),cond_false,ga (by omega),ho]
    rfl
   | cons p r ih=>
    intro j n hr hn
    obtain ⟨n,rfl⟩:=ki hn
    obtain ⟨a,b,c,d,e⟩:=cX hr
    rw [cf,ltN a,cond_true,fA b,ab,List.map_cons,List.cons_append,Fj,nM]
    by_cases h1:p=q
    ·simp [h1,lh]
    ·rw [decide_eq_false h1,cond_false,ga (by omega),ih (j+1) n c (by simp only [List.length_cons] at hn;omega)]
     simp [lh,h1]
     -- the number handed on is not changed
  have outer:∀ r i n (z:Int),t.drop i=r→i≤t.length→r.length<n→bD k t q n (i:Int)=some (if (Fj (lh q) (d9 i r) z).1 then -1 else (Fj (lh q) (d9 i r) z).2):=by
   intro r
   induction r with
   | nil=>
    intro i n z hr hi hn
    obtain ⟨n,rfl⟩:=ki hn
    have:=eb hr
    rw [bD,ltF (by omega),cond_false]
    rfl
   | cons x r ih=>
    intro i n z hr hi hn
    obtain ⟨n,rfl⟩:=ki hn
    obtain ⟨a,b,c,d,e⟩:=cX hr
    have hxl:=ht.kids x d
    rw [bD,ltN a,cond_true,fA b,ab,d9]
    have:=inner x d i a (fun s=>bD k t q n s) (d9 (i+1) r) z (ih (i+1) n z c (by omega) (by simp only [List.length_cons] at hn;omega)) x.2 0 (k+18) rfl (by omega)
    simpa using this
  have:=outer t 0 (k+18) 0 rfl (Nat.zero_le _) (by omega)
  simpa using this
end
theorem Z3 {k:Nat} (hk:9223372036854775808≤k) {t:Tyt} (ht:FwT t):∀ (d i n g e:Nat) (L:List Int),i+d=t.length→d<n→L.length≤i→(e=0∨e=1)→(L≠[]→e=1)→(∀ r ∈ L,RtB t r)→L.Nodup∧(∀ r ∈ L,r<(i:Int)) →
  ∃ g' L' e',bL k n t (t.length:Int) g L (i:Int) e=some (g',L',e')∧L'.length≤t.length∧(L'≠[]→e'=1)∧(∀ r ∈ L',RtB t r)∧L'.Nodup:=by
 have hlen:=ht.len
 intro d
 induction d with
 | zero=>
  intro i n g e L hi hn hL he hne hr hd
  obtain ⟨n,rfl⟩:=ki hn
  rw [bL,ltF (by omega),cond_false]
  exact ⟨g,L,e,rfl,by omega,hne,hr,hd.1⟩
 | succ d ih=>
  intro i n g e L hi hn hL he hne hr hd
  obtain ⟨n,rfl⟩:=ki hn
  rw [bL,ltT (by omega),cond_true,Hr k hk t ht.wt,ab,ga (by omega)]
  cases hz:dE t (i:Int) == -1 with
  | true=>
   have he1:(e==1||e==0)=true:=by rcases he with rfl | rfl <;> rfl
   rw [cond_true,he1,bC,As (by simp;omega),cond_true]
   refine ih (i+1) n (g+1) 1 (L++[(i:Int)]) (by omega) (by omega) (by simp;omega) (.inr rfl) (fun _=>rfl) (fun r hr' => ?_) ⟨?_,fun r hr' => ?_⟩
   ·rcases List.mem_append.1 hr' with h | h
    ·exact hr r h
    ·rw [List.mem_singleton.1 h]
     exact ⟨by omega,by simpa using hz⟩
   ·refine List.nodup_append.2 ⟨hd.1,by simp,fun a ha b hb => ?_⟩
    have:=hd.2 a ha
    rw [List.mem_singleton.1 hb]
    omega
   ·rcases List.mem_append.1 hr' with h | h
    ·have:=hd.2 r h
     omega
    ·rw [List.mem_singleton.1 h];omega
  | false=>
   rw [cond_false]
   exact ih (i+1) n g e L (by omega) (by omega) (by omega) he hne hr ⟨hd.1,fun r h=>by have:=hd.2 r h;omega⟩
def GH (w:Nat):WB:=(0,[],AB 1 (w:Int) 0,0,0)
def nI (n:Nat):List WB:=(List.range n).map GH
def lc (roots:List (List Int)):List SB:=roots.map fun l=>(0,l,dx)
def Fh (c:CF) (t:Tyt) (roots:List (List Int)):PB:=(c,t,List.replicate (bN c).toNat 0,nI c.1.toNat,lc roots)
def QN:PB:=((0,0,0,0),[],[],[],[])
section
variable {k:Nat} (hk:9223372036854779000≤k) (c:CF) (t:Tyt) (ht:t.length≤40) (roots:List (List Int))
include hk ht
theorem P9 (o0:Tyt→List Int→Nat→List WB→Int→List SB→Nat→Nat→List Int→Option (PB×Bool)) (t':Tyt) (m:List Int) (W:List WB) (i0:Int) (S:List SB) (C x:List Int) (hx:x.length≤1000) (hS:S.length≤100) (e:Nat) (he:e=9∨e=0) :
  ∀ (r:List Int) (q n len z:Nat) (L:List Int),x.drop q=r→q≤x.length→r.length<n→len≤L.length→L.length≤40→(0<len→z=1)→(∀ y ∈ L.take len,RtB t y)→(∀ y ∈ x.take q,RtB t y)→(C++(x.take q++L.take len)).Nodup →
  cZ k c t roots o0 n x t' m (x.length:Int) z W len (q:Int) L i0 S e=some (QN,false) ∨
  ∃ (len' z':Nat) (L':List Int),len'≤L'.length∧L'.length≤40∧(0<len'→z'=1)∧(∀ y ∈ L'.take len',RtB t y)∧(∀ y ∈ x,RtB t y)∧(C++(x++L'.take len')).Nodup ∧
   cZ k c t roots o0 n x t' m (x.length:Int) z W len (q:Int) L i0 S e=o0 t' m z' W (IntKind.i64.wrap (i0+1)) (S++[(0,x,dx)]) 9 len' L':=by
 have _h:=ht
 intro r
 induction r with
 | nil=>
  intro q n len z L hr hq hn hlen hL hz hy hxq hd
  obtain ⟨n,rfl⟩:=ki hn
  have:=eb hr
  have he1:(e==9||e==0)=true:=by rcases he with rfl | rfl <;> rfl
  refine .inr ⟨len,z,L,hlen,hL,hz,hy,?_,?_,?_⟩
  ·rw [List.take_of_length_le (by omega)] at hxq
   exact hxq
  ·rw [List.take_of_length_le (by omega)] at hd
   exact hd
  ·rw [cZ,ltF (by omega),cond_false,adf hx,ab,he1,bC]
   rw [As (by simp;omega),cond_true]
 | cons v r ih=>
  intro q n len z L hr hq hn hlen hL hz hy hxq hd
  obtain ⟨n,rfl⟩:=ki hn
  obtain ⟨h0,h1,h2,_,h4⟩:=cX hr
  simp only [List.length_cons] at hn
  rw [cZ,ltN h0,cond_true,fA h1,ab,decide_eq_true hlen,bC,Zh (k+20) (by rw [List.length_take];omega) (by omega) v,ab]
  rcases Lr (fun y=>v==y) (L.take len) 0 with e1 | ⟨j,y,e1,hj,hvy⟩
  ·rw [e1]
   exact .inl rfl
  ·have hvy':v=y:=by simpa using hvy
   have hjl:j<len:=by
    have:=(List.getElem?_eq_some_iff.1 hj).1
    rw [List.length_take] at this
    omega
   have hyr:=hy y (List.mem_of_getElem? hj)
   rw [e1,Nat.zero_add,ltF (by omega),cond_false,hz (by omega),show ((1:Nat)==1)=true from rfl,bC,ga (by omega),Int.toNat_natCast,Int.toNat_natCast,decide_eq_true (show len≤L.length∧(0:Int)≤(j:Int)∧(j:Int)<((j+1:Nat):Int)∧j+1≤len∧len≤9223372036854775807 by omega),bC,ga (by omega),show len - (j+1 - j)=len - 1 by omega]
   have hc1:(H5 (L.take len) j (j+1)).length=len:=by
    rw [KW (by omega) (by rw [List.length_take];omega),List.length_take]
    omega
   have hc2:(H5 (L.take len) j (j+1)++L.drop len).length=L.length:=by
    rw [List.length_append,hc1,List.length_drop]
    omega
   refine ih (q+1) n (len - 1) 1 _ h2 (by omega) (by omega) (by rw [hc2];omega) (by rw [hc2];exact hL) (fun _=>rfl) ?_ ?_ ?_
   ·intro y' hy'
    rw [List.take_append_of_le_length (by rw [hc1];omega)] at hy'
    unfold H5 at hy'
    rw [List.take_append_of_le_length (by simp;omega)] at hy'
    rcases List.mem_append.1 (List.mem_of_mem_take hy') with h | h
    ·exact hy y' (List.mem_of_mem_take h)
    ·exact hy y' (List.mem_of_mem_drop h)
   ·intro y' hy'
    rw [List.take_add_one,h1] at hy'
    rcases List.mem_append.1 hy' with h | h
    ·exact hxq y' h
    ·rw [show y'=v by simpa using h,hvy']
     exact hyr
   ·have hsp:L.take len=(L.take len).take j++y::(L.take len).drop (j+1):=by
     have:=List.take_append_drop j (L.take len)
     rw [List.drop_eq_getElem_cons (by rw [List.length_take];omega)] at this
     have hg : (L.take len)[j]'(by rw [List.length_take]; omega) = y := by
      have:=List.getElem?_eq_getElem (l:=L.take len) (i:=j) (by rw [List.length_take];omega)
      rw [hj] at this
      exact (Option.some.inj this).symm
     rw [hg] at this
     exact this.symm
    have ht1:(H5 (L.take len) j (j+1)++L.drop len).take (len - 1)=(L.take len).take j++(L.take len).drop (j+1):=by
     rw [List.take_append_of_le_length (by rw [hc1];omega)]
     unfold H5
     rw [List.take_append_of_le_length (by simp;omega),List.take_of_length_le (by simp;omega)]
    rw [ht1,List.take_add_one,h1]
    rw [hsp] at hd
    refine (List.Perm.nodup_iff ?_).1 hd
    refine List.Perm.append_left C ?_
    rw [List.append_assoc]
    refine List.Perm.append_left _ ?_
    rw [hvy']
    exact List.perm_middle
theorem QM (hR:roots.length≤3) (hr:∀ l ∈ roots,l.length≤1000) (W:List WB):∀ (r:List (List Int)) (q n len z e:Nat) (L:List Int) (t':Tyt) (m:List Int),roots.drop q=r→q≤roots.length→r.length<n→len≤L.length→L.length≤40→(0<len→z=1)→(e=9∨e=0)→(∀ y ∈ L.take len,RtB t y)→(∀ l ∈ roots.take q,∀ y ∈ l,RtB t y)→((roots.take q).flatten++L.take len).Nodup →
  cr k c t roots n t' m z W (q:Int) (lc (roots.take q)) e len L=some (QN,false) ∨
  cr k c t roots n t' m z W (q:Int) (lc (roots.take q)) e len L=some ((c,t',m,W,lc roots),true)∧(∀ l ∈ roots,∀ y ∈ l,RtB t y)∧roots.flatten.Nodup:=by
 intro r
 induction r with
 | nil=>
  intro q n len z e L t' m hq' hq hn hlen hL hz he hy hxq hd
  obtain ⟨n,rfl⟩:=ki hn
  have:=eb hq'
  rw [List.take_of_length_le (by omega)] at hxq hd ⊢
  rw [cr,ltF (by omega),cond_false]
  exact .inr ⟨rfl,hxq,(List.nodup_append.1 hd).1⟩
 | cons v r ih=>
  intro q n len z e L t' m hq' hq hn hlen hL hz he hy hxq hd
  obtain ⟨n,rfl⟩:=ki hn
  obtain ⟨h0,h1,h2,_,h4⟩:=cX hq'
  simp only [List.length_cons] at hn
  have hv:=hr v (List.mem_of_getElem? h1)
  have hSl:(lc (roots.take q)).length≤100:=by unfold lc;rw [List.length_map,List.length_take];omega
  rw [cr,ltN h0,cond_true,fA h1,ab]
  rcases P9 hk c t ht roots (fun s62 s63 s64 s77 s113 s115 s116 s135 s138=>cr k c t roots n s62 s63 s64 s77 s113 s115 s116 s135 s138) t' m W (q:Int) (lc (roots.take q)) (roots.take q).flatten v hv hSl e he v 0 (k+21) len z L rfl (Nat.zero_le _) (by omega) hlen hL hz hy (by simp) (by simpa using hd) with h | ⟨len',z',L',g1,g2,g3,g4,g5,gd,g6⟩
  ·exact .inl h
  ·have hs:lc (roots.take q)++[(0,v,dx)]=lc (roots.take (q+1)):=by
    unfold lc
    rw [List.take_add_one,h1,List.map_append]
    rfl
   rw [hs,ga (by omega)] at g6
   have:=ih (q+1) n len' z' 9 L' t' m h2 (by omega) (by omega) g1 g2 g3 (.inl rfl) g4 (fun l hl=>by
    rw [List.take_add_one,h1] at hl
    rcases List.mem_append.1 hl with h | h
    ·exact hxq l h
    ·rw [show l=v by simpa using h]
     exact g5) (by
    rw [List.take_add_one,h1,List.flatten_append]
    simpa [List.append_assoc] using gd)
   have g6':cZ k c t roots (fun s62 s63 s64 s77 s113 s115 s116 s135 s138=>cr k c t roots n s62 s63 s64 s77 s113 s115 s116 s135 s138) (k+21) v t' m (v.length:Int) z W len 0 L (q:Int) (lc (roots.take q)) e=_:=g6
   rw [g6']
   exact this
theorem Tm (hR:roots.length≤3) (hr:∀ l ∈ roots,l.length≤1000) (hc:0≤c.1∧c.1≤8) (t':Tyt) (m L:List Int) (z:Nat) (hL:L.length≤40) (hz:L≠[]→z=1) (hy:∀ y ∈ L,RtB t y) (hd:L.Nodup):∀ (d i n e:Nat),(i:Int)+d=c.1→d<n→(e=11∨e=0) →
  dc k c t roots n t' m L z (i:Int) (nI i) e=some (QN,false) ∨
  dc k c t roots n t' m L z (i:Int) (nI i) e=some ((c,t',m,nI c.1.toNat,lc roots),true)∧(∀ l ∈ roots,∀ y ∈ l,RtB t y)∧roots.flatten.Nodup:=by
 intro d
 induction d with
 | zero=>
  intro i n e hi hn he
  obtain ⟨n,rfl⟩:=ki hn
  rw [dc,ltF (by omega),cond_false,show c.1.toNat=i by omega]
  exact QM hk c t ht roots hR hr (nI i) roots 0 (k+21) L.length z 0 L t' m rfl (Nat.zero_le _) (by omega) (Nat.le_refl _) hL (fun h=>hz (fun e=>by rw [e] at h;cases h)) (.inr rfl) (by rw [List.take_length];exact hy) (by simp) (by simpa using hd)
 | succ d ih=>
  intro i n e hi hn he
  obtain ⟨n,rfl⟩:=ki hn
  have he1:(e==11||e==0)=true:=by rcases he with rfl | rfl <;> rfl
  rw [dc,ltT (by omega),cond_true,aak,ab,he1,bC]
  rw [As (by rw [List.length_append];unfold nI;simp;omega),cond_true,ga (by omega)]
  have hw:nI i++[GH i]=nI (i+1):=by
   unfold nI
   rw [List.range_succ,List.map_append]
   rfl
  have:=ih (i+1) n 11 (by omega) (by omega) (.inl rfl)
  rw [← hw] at this
  exact this
end
theorem aaO {k:Nat} (hk:9223372036854779000≤k) (c:CF) {t:Tyt} (ht:FwT t) {roots:List (List Int)} (hr:∀ l ∈ roots,l.length≤1000) :
  lX k c t roots=some (QN,false)∨lX k c t roots=some (Fh c t roots,true)∧dj c=true∧nQ t=true∧roots.length≤3∧(∀ l ∈ roots,∀ y ∈ l,RtB t y)∧roots.flatten.Nodup:=by
 unfold lX
 try simp only [Prod.eta]
 rw [iM,ab]
 cases hm:dj c with
 | false=>exact .inl rfl
 | true=>
  have hc:=aC hm
  rw [Bool.not_true,cond_false,EW _ (by omega) t ht.wt,ab]
  cases ht2:nQ t with
  | false=>exact .inl rfl
  | true=>
   rw [Bool.not_true,cond_false]
   by_cases h3:(3:Int)<roots.length
   ·rw [ltT h3]
    exact .inl rfl
   ·obtain ⟨g',L',e',h1,h2,h4,h5,h6⟩:=Z3 (k:=k) (by omega) ht t.length 0 (k+20) 0 0 [] (by omega) (by have:=ht.len;omega) (Nat.zero_le _) (.inl rfl) (fun h=>absurd rfl h) (by simp) ⟨List.nodup_nil,by simp⟩
    rw [ltF (by omega),cond_false,EW _ (by omega) t ht.wt,ab,ht2,Bool.not_true,cond_false]
    refine (show _∨_ from ?_)
    have h1':bL k (k+20) t (t.length:Int) 0 [] 0 0=some (g',L',e'):=h1
    rw [h1',ab,I7 _ (by omega) ht,ab,amJ (by omega),ab]
    have hl:=ht.len
    rcases Tm (k:=k) hk c t ht.len roots (by omega) hr (by omega) t (List.replicate (bN c).toNat 0) L' e' (by omega) h4 h5 h6 c.1.toNat 0 (k+21) 0 (by omega) (by omega) (.inr rfl) with h | ⟨h,h'⟩
    ·exact .inl h
    ·exact .inr ⟨h,rfl,rfl,by omega,h'⟩
end Go.Ab
set_option linter.unusedVariables false
namespace Go.Ab
theorem aeJ {k:Nat} (hk:9223372036854775808≤k) {l:List (List Int)} (hl:l.length≤9223372036854775807):∃ b,cj k l=some b∧(b=true→l.length≤10∧∀ x ∈ l,x.length≤60):=by
 unfold cj
 have key:∀ (r:List (List Int)) (q n:Nat),l.drop q=r→q≤l.length→r.length<n→(∀ x ∈ l.take q,x.length≤60)→∃ b,aW k l n (q:Int)=some b∧(b=true→l.length≤10∧∀ x ∈ l,x.length≤60):=by
  intro r
  induction r with
  | nil=>
   intro q n hr hq hn hx
   obtain ⟨n,rfl⟩:=ki hn
   have:=eb hr
   rw [List.take_of_length_le (by omega)] at hx
   rw [aW,ltF (by omega),cond_false]
   refine ⟨_,rfl,fun h=>⟨?_,hx⟩⟩
   have:=of_decide_eq_true h
   omega
  | cons v r ih=>
   intro q n hr hq hn hx
   obtain ⟨n,rfl⟩:=ki hn
   obtain ⟨h0,h1,h2,_,h4⟩:=cX hr
   rw [aW,ltN h0,cond_true]
   by_cases hq10:(q:Int)≤10
   ·rw [leT hq10,cond_true,fA h1,ab]
    by_cases h60:(60:Int)<v.length
    ·rw [ltT h60,cond_true]
     exact ⟨_,rfl,fun h=>by cases h⟩
    ·rw [ltF (by omega),cond_false,ga (by omega)]
     refine ih (q+1) n h2 (by omega) (by simp only [List.length_cons] at hn;omega) fun x hx' => ?_
     rw [List.take_add_one,h1] at hx'
     rcases List.mem_append.1 hx' with h | h
     ·exact hx x h
     ·rw [show x=v by simpa using h];omega
   ·rw [leF (by omega),cond_false]
    refine ⟨_,rfl,fun h => ?_⟩
    have:=of_decide_eq_true h
    omega
 exact key l 0 k rfl (Nat.zero_le _) (by omega) (by simp)
theorem pG:∀ {l:List PK} {n:Nat} {p:PB},Good n p→fx p=true→Good (n+l.length) (oY p l).1
 | [],n,p,h,_=>h
 | k::l,n,p,h,hm=>by
  rw [oY]
  split
  ·rename_i hk
   have:=pG (l:=l) (Cb (k:=k) h (oh hm).1) (AD hm hk)
   rw [List.length_cons,show n+(l.length+1)=n+1+l.length by omega]
   exact this
  ·have:=pG (l:=l) h hm
   rw [List.length_cons]
   exact ⟨this.t,this.tl,this.m,fun x hx=>⟨(this.w x hx).f,by have:=(this.w x hx).s;omega,(this.w x hx).sp⟩,this.s⟩
theorem EJ {l:List PK} {p:PB} (hm:fx p=true):fx (oY p l).1=true:=
 (JP (P:=fun _=>True) (fun _ _ _ _ _=>trivial) hm trivial).2
theorem u6:∀ {l:List PK} {p:PB},(oY p l).1.1=p.1∧(oY p l).1.2.1=p.2.1∧(oY p l).1.2.2.2.1.length=p.2.2.2.1.length∧(oY p l).1.2.2.2.2.length=p.2.2.2.2.length∧(oY p l).1.2.2.1.length=p.2.2.1.length
 | [],p=>⟨rfl,rfl,rfl,rfl,rfl⟩
 | k::l,p=>by
  rw [oY]
  split
  ·obtain ⟨a1,a2,a3,a4,a5⟩:=u6 (l:=l) (p:=(gg p k).1)
   obtain ⟨b1,b2,b3,b4⟩:=Cy (p:=p) (k:=k)
   have b5:=Uu (p:=p) (k:=k)
   exact ⟨a1.trans b1,a2.trans b2,a3.trans b3,a4.trans b4,a5.trans b5⟩
  ·exact u6
theorem BD:∀ {l:List PK} {p:PB},(oY p l).2.length≤2*l.length
 | [],p=>Nat.le_refl _
 | k::l,p=>by
  rw [oY]
  split
  ·have:=BD (l:=l) (p:=(gg p k).1)
   have:=Mb (p:=p) (k:=k)
   simp only [List.length_append,List.length_cons]
   omega
  ·have:=BD (l:=l) (p:=p)
   simp only [List.length_cons]
   omega
theorem pW {p:PB} (h:fx p=true):p.2.2.2.1.length≤8∧p.2.2.2.2.length≤3∧12≤p.2.2.1.length∧p.2.2.1.length≤190:=by
 obtain ⟨m1,m2,m3,m4,_⟩:=oh h
 have hc:=aC m1
 have:=(Jh (m4 0 _ (List.getElem?_eq_getElem (show 0<p.2.2.2.1.length by omega)))).2.1
 have:=uY m1
 omega
theorem P4 {c:CF} {t:Tyt} {roots:List (List Int)} (hc:dj c=true) (ht:nQ t=true) (hR:roots.length≤3) (hr:∀ l ∈ roots,∀ y ∈ l,0≤y∧y<(t.length:Int)):fx (Fh c t roots)=true:=by
 have hm:=aC hc
 have hs:=uY hc
 refine Ff hc ?_ ?_ (fun j x hx => ?_) (fun x hx => ?_)
 ·show ((nI c.1.toNat).length:Int)=c.1
  unfold nI
  rw [List.length_map,List.length_range]
  omega
 ·show (lc roots).length≤3
  unfold lc
  rw [List.length_map]
  exact hR
 ·have hx':(nI c.1.toNat)[j]? = some x:=hx
  unfold nI at hx'
  rw [List.getElem?_map,Option.map_eq_some_iff] at hx'
  obtain ⟨i,hi,rfl⟩:=hx'
  obtain ⟨hj,rfl⟩:=List.getElem?_eq_some_iff.1 hi
  rw [List.length_range] at hj
  rw [List.getElem_range]
  refine QJ hc ?_ ht ⟨by omega,by show (j:Int)<c.1;omega,Int.le_refl 0,(show (0:Int)<16 by decide)⟩ (nJ.2 ⟨ht,fun y hy=>absurd hy (by simp [GH])⟩)
  show ((List.replicate (bN c).toNat (0:Int)).length:Int)=bN c
  rw [List.length_replicate]
  omega
 ·have hx':x ∈ lc roots:=hx
  unfold lc at hx'
  obtain ⟨l,hl,rfl⟩:=List.mem_map.1 hx'
  unfold Ce
  simp only [Bool.and_eq_true,List.all_eq_true,decide_eq_true_eq,Bool.or_eq_true]
  exact ⟨⟨by decide,hr l hl⟩,.inl (by trivial)⟩
theorem Mi {c:CF} {t:Tyt} {roots:List (List Int)} (ht:FwT t) (hr:∀ l ∈ roots,l.length≤60):Good 0 (Fh c t roots):=by
 have z:(0:Int)≤0∧(0:Int)≤18446744073709551615:=by decide
 refine ⟨ht,by have:=ht.len;show t.length≤1000;omega,?_,fun x hx => ?_,fun x hx => ?_⟩
 ·refine ⟨?_,fun v hv => ?_⟩
  ·show (List.replicate (bN c).toNat (0:Int)).length≤_
   rw [List.length_replicate]
   have:bN c≤190:=by
    unfold bN
    split
    ·rename_i h
     have hm:=aC h
     have:=dX h (w:=c.1) (by omega) (by omega)
     omega
    ·omega
   omega
  ·rw [List.eq_of_mem_replicate hv]
   exact z
 ·have hx':x ∈ nI c.1.toNat:=hx
  unfold nI at hx'
  obtain ⟨i,_,rfl⟩:=List.mem_map.1 hx'
  exact ⟨⟨z,z,z⟩,Nat.le_refl _,by show (0:Int)≤9223372036854775807;decide⟩
 ·have hx':x ∈ lc roots:=hx
  unfold lc at hx'
  obtain ⟨l,hl,rfl⟩:=List.mem_map.1 hx'
  exact ⟨⟨z,z,z⟩,by have:=hr l hl;show l.length≤1000;omega⟩
end Go.Ab
set_option linter.unusedVariables false
namespace Go.Ab
def al1:FR:=(-1,0,0,0,0,0,0)
structure Pl where
 m:List Int
 left:List (List Int)
 cur:List FR
 over:List FR
def ak1 (m:List Int) (w:Int):Nat:=if uH (ah m 2) w=true then 1 else 0
def agH (f:FR) (w:Int):Nat:=if Vo f w=true then 1 else 0
def ahP (l:List FR) (w:Int):Nat:=l.countP fun f=>Vo f w
def XX (c:CF) (m:List Int) (w:Int):Nat:=if ah m (f6 c w)=0 then 0 else 1
def w3B (f:FR):Nat:=if f.1=5∧3≤f.2.1 then 1 else 0
def w4B (f:FR):Prop:=f.1=5∧f.2.1=4
def ao6 (x:Int):Prop:=0≤x∧x≤18446744073709551615
def apz (n:Nat) (i:Nat) (f:FR):Prop:=
 f=al1∨∃ op pc X Y:Int,f=(op,pc,(i:Int),0,X,Y,0)∧ao6 X∧ao6 Y ∧
  ((op=5∧0≤pc∧pc≤4)∨(op=6∧0≤pc∧pc≤2∧(pc=2→Y<n))∨(op=7∧0≤pc∧pc≤2∧(pc=2→0<Y∧Y<65536∧∀ j:Nat,n≤j→j<16→uH Y j=false)))
structure OkP (c:CF) (n:Nat) (m:List Int) (l:List FR):Prop where
 wm:Wm m
 may:dj c=true
 cn:c.1=n
 len:(m.length:Int)=bN c
 clen:l.length=n
 frm:∀ i f,l[i]? = some f→apz n i f
 low:∀ j:Nat,n≤j→j<16→uH (ah m 2) j=false
 par:∀ w:Nat,w<n→ah m (f6 c w)=0∨ah m (f6 c w)=1
 sgn:∀ (w:Nat) f,l[w]? = some f→ak1 m w+ahP l w+XX c m w=w3B f
 end4:∀ (w:Nat) f,l[w]? = some f→w4B f→XX c m w=1
theorem Uo {l:List FR} {i:Nat} {f g:FR} (hf:l[i]? = some f) (w:Int):ahP (l.set i g) w+agH f w=ahP l w+agH g w:=by
 obtain ⟨hi,rfl⟩:=List.getElem?_eq_some_iff.1 hf
 have hle:l[i] ∈ l:=List.getElem_mem _
 unfold ahP agH
 rw [List.countP_set hi]
 by_cases h:Vo l[i] w=true
 ·have:0<l.countP fun f=>Vo f w:=List.countP_pos_iff.2 ⟨_,hle,h⟩
  simp only [h,if_true]
  omega
 ·simp only [h,if_false]
  simp
theorem OkP.step {c:CF} {n:Nat} {m m':List Int} {l:List FR} (h:OkP c n m l) {i:Nat} {f g:FR} (hf:l[i]? = some f) (wm:Wm m') (len:m'.length=m.length) (hg:apz n i g)
  (low:∀ j:Nat,n≤j→j<16→uH (ah m' 2) j=false) (par:∀ w:Nat,w<n→ah m' (f6 c w)=0∨ah m' (f6 c w)=1)
  (sg:∀ w:Nat,w<n→ak1 m' w+agH g w+XX c m' w+(if w=i then w3B f else 0)=ak1 m w+agH f w+XX c m w+(if w=i then w3B g else 0))
  (e4:w4B g→XX c m' i=1) (e5:∀ w:Nat,w<n→w≠i→XX c m w=1→XX c m' w=1):OkP c n m' (l.set i g):=by
 have hi:i<l.length:=(List.getElem?_eq_some_iff.1 hf).1
 have key:∀ (w:Nat) (x:FR),(l.set i g)[w]? = some x→w<n∧((w=i∧x=g)∨(w≠i∧l[w]? = some x)):=by
  intro w x hx
  have hw:=(List.getElem?_eq_some_iff.1 hx).1
  rw [List.length_set,h.clen] at hw
  refine ⟨hw,?_⟩
  by_cases e:w=i
  ·subst e
   rw [List.getElem?_set_self hi] at hx
   exact .inl ⟨rfl,(Option.some.inj hx).symm⟩
  ·rw [List.getElem?_set_ne (by omega)] at hx
   exact .inr ⟨e,hx⟩
 refine ⟨wm,h.may,h.cn,by rw [len];exact h.len,by rw [List.length_set];exact h.clen,?_,low,par,?_,?_⟩
 ·intro w x hx
  rcases key w x hx with ⟨_,⟨rfl,rfl⟩ | ⟨_,hx⟩⟩
  ·exact hg
  ·exact h.frm w x hx
 ·intro w x hx
  have ho:=Uo (g:=g) hf (w:Int)
  rcases key w x hx with ⟨hw,⟨rfl,rfl⟩ | ⟨e,hx⟩⟩
  ·have h1:=h.sgn w f hf
   have h2:=sg w hw
   rw [if_pos rfl,if_pos rfl] at h2
   omega
  ·have h1:=h.sgn w x hx
   have h2:=sg w hw
   rw [if_neg e,if_neg e] at h2
   omega
 ·intro w x hx hx4
  rcases key w x hx with ⟨hw,⟨rfl,rfl⟩ | ⟨e,hx⟩⟩
  ·exact e4 hx4
  ·exact e5 w hw e (h.end4 w x hx hx4)
section
variable {c:CF} {m:List Int} {i a5 X:Int} (hmay:dj c=true) (hlen:(m.length:Int)=bN c)
include hmay hlen
end
end Go.Ab
set_option linter.unusedVariables false
namespace Go.Ab
structure Adr (c:CF) (j:Int):Prop where
 on:∀ w x,x=0∨x=1→onW c w x≠j
 slot:∀ w x,0≤x→x≤18446744073709551615→r9 c w x≠j
 seq:∀ x,nA c x≠j
 val:∀ x,CY c x≠j
 n0:(0:Int)≠j
 n1:(1:Int)≠j
 n3:(3:Int)≠j
 n4:(4:Int)≠j
 n5:(5:Int)≠j
theorem WN {a b D x y:Int} (hD:D=1∨D=2∨D=4∨D=8∨D=16) (hx:0≤x∧x<3+D) (hy:0≤y∧y<3+D) (h:x≠y):a*(3+D)+x≠b*(3+D)+y:=by
 rcases hD with rfl | rfl | rfl | rfl | rfl <;> omega
theorem aqh {c:CF}:Adr c 2:=by
 refine ⟨fun w x hx => ?_,fun w x h0 h1 => ?_,fun x => ?_,fun x => ?_,by decide,by decide,by decide,by decide,by decide⟩
 ·unfold onW
  split
  ·rename_i h
   have hm:=aC h.1
   have:=dX h.1 h.2.1 (by omega)
   omega
  ·omega
 ·unfold r9 onW
  split
  ·rename_i h
   have hm:=aC h.1
   have:=dX h.1 h.2.1 (by omega)
   have:=Fy h0 h1 (show 1≤c.2.1 by omega) (by omega)
   omega
  ·omega
 ·unfold nA
  split
  ·rename_i h
   have:=aC h
   have:=Int.emod_nonneg x (show c.2.2.1≠0 by omega)
   omega
  ·omega
 ·unfold CY
  split
  ·rename_i h
   have:=aC h
   have:=Int.emod_nonneg x (show c.2.2.1≠0 by omega)
   omega
  ·omega
theorem apU {c:CF} {v:Int} (hc:dj c=true) (h0:0≤v) (h1:v<c.1):Adr c (f6 c v):=by
 have hp:f6 c v=6+2*c.2.2.1+(v*(3+c.2.1)+2):=by
  unfold f6
  rw [if_pos ⟨hc,h0,h1⟩,AK]
  omega
 have hm:=aC hc
 have ht:=dX hc h0 (by omega)
 rw [hp]
 refine ⟨fun w x hx => ?_,fun w x g0 g1 => ?_,fun x => ?_,fun x => ?_,by omega,by omega,by omega,by omega,by omega⟩
 ·unfold onW
  split
  ·have:=WN (a:=w) (b:=v) hm.2.2.1 (x:=x) (y:=2) (by omega) (by omega) (by omega)
   unfold AK
   omega
  ·omega
 ·unfold r9 onW
  split
  ·have ha:=Fy g0 g1 (show 1≤c.2.1 by omega) (by omega)
   have:=WN (a:=w) (b:=v) hm.2.2.1 (x:=3+AS .u64 x (c.2.1 - 1)) (y:=2) (by omega) (by omega) (by omega)
   unfold AK
   omega
  ·omega
 ·unfold nA
  rw [if_pos hc]
  have a:=Int.emod_lt_of_pos x (show 0<c.2.2.1 by omega)
  have b:0≤v*(3+c.2.1):=ht.2.2.2
  generalize x%c.2.2.1=g at a ⊢
  omega
 ·unfold CY
  rw [if_pos hc]
  have a:=Int.emod_lt_of_pos x (show 0<c.2.2.1 by omega)
  have b:0≤v*(3+c.2.1):=ht.2.2.2
  generalize x%c.2.2.1=g at a ⊢
  omega
section
variable {c:CF} {m:List Int} {f:FR} {j:Int} (hj:Adr c j) (hf:Wf f)
include hj hf
end
section
variable {c:CF} {m:List Int} {f:FR}
end
def pkW (x:WB):Prop:=x.1=8∧3≤x.2.2.1.2.1
def owF (f:FR) (v:Int):Prop:=f.2.1=2∧f.2.2.2.2.2.1=v
def owW (x:WB) (v:Int):Prop:=x.1=14∧owF x.2.2.1 v
def owS (x:SB) (v:Int):Prop:=x.1=4∧owF x.2.2 v
def Fwk (n w:Int) (x:WB):Prop:=
 (x.1=0∨x.1=2∨x.1=3∨x.1=11∨x.1=12→x.2.2.1.1<5)∧(x.1=5→x.2.2.1=AB 5 w 0) ∧
 (x.1=6∨x.1=7→x.2.2.1.1=5∧x.2.2.1.2.1=1∧x.2.2.1.2.2.1=w∧x.2.2.1.2.2.2.2.2.2=0) ∧
 (x.1=8→x.2.2.1.1=5∧(0≤x.2.2.1.2.1∧x.2.2.1.2.1≤4)∧x.2.2.1.2.2.1=w∧x.2.2.1.2.2.2.2.2.2=0) ∧
 (x.1=14→x.2.2.1.1=6∧(0≤x.2.2.1.2.1∧x.2.2.1.2.1≤2)∧x.2.2.1.2.2.2.2.2.2=0∧(x.2.2.1.2.1=2→x.2.2.1.2.2.2.2.2.1<n))
def Fsb (n:Int) (x:SB):Prop:=
 (x.1=2→x.2.2.1<5)∧(x.1=4→x.2.2.1=6∧(0≤x.2.2.2.1∧x.2.2.2.1≤2)∧x.2.2.2.2.2.2.2.2=0∧(x.2.2.2.1=2→x.2.2.2.2.2.2.2.1<n))
def amd (n:Int) (m:List Int):Prop:=∀ j:Int,n≤j→j<16→uH (ah m 2) j=false
structure Ef (c:CF) (m m':List Int) (pk0 pk1:Prop) (me:Int) (ow0 ow1:Int→Prop):Prop where
 low:amd c.1 m→amd c.1 m'
 bit:∀ v,0≤v→v<c.1→uH (ah m 2) v=true→uH (ah m' 2) v=true∨ow1 v
 par:∀ v,0≤v→v<c.1→ah m (f6 c v)≠0→ah m' (f6 c v)≠0∨v=me∧¬ pk1
 owe:∀ v,0≤v→v<c.1→ow0 v→ow1 v∨ah m' (f6 c v)≠0
 new:pk1→pk0∨uH (ah m' 2) me=true∨ah m' (f6 c me)≠0
section
variable {c:CF} {m m':List Int} {pk0 pk1:Prop} {me:Int} {ow0 ow1:Int→Prop}
theorem Ef.calm (hc:dj c=true) (h:∀ j,Adr c j→ah m' j=ah m j) (ho:∀ v,ow0 v→ow1 v) (hp:pk1→pk0):Ef c m m' pk0 pk1 me ow0 ow1:=by
 have h2:=h 2 aqh
 refine ⟨fun hl j h0 h1=>by rw [h2];exact hl j h0 h1,fun v _ _ hb => .inl (by rw [h2];exact hb),fun v h0 h1 hb => .inl (by rw [h _ (apU hc h0 h1)];exact hb),fun v _ _ hv => .inl (ho v hv),fun h => .inl (hp h)⟩
theorem Ef.same (ho:∀ v,ow0 v→ow1 v) (hp:pk1→pk0):Ef c m m pk0 pk1 me ow0 ow1:=
 ⟨fun hl=>hl,fun v _ _ hb => .inl hb,fun v _ _ hb => .inl hb,fun v _ _ hv => .inl (ho v hv),fun h => .inl (hp h)⟩
end
section
variable {c:CF} {m:List Int} {f:FR} (hc:dj c=true) (hl:(m.length:Int)=bN c) (hm:Wm m) (hf:Wf f)
include hc hl hm hf
end
end Go.Ab
set_option linter.unusedVariables false
namespace Go.Ab
section
variable {n w:Int} {x:WB}
end
theorem Ef.mono {c:CF} {m m':List Int} {p0 p1 q0 q1:Prop} {me:Int} {a0 a1 b0 b1:Int→Prop} (h:Ef c m m' p0 p1 me a0 a1) (h1:q1→p1) (h0:p0→q0) (ha:∀ v,b0 v→a0 v) (hb:∀ v,a1 v→b1 v):Ef c m m' q0 q1 me b0 b1:=
 ⟨h.low,fun v g0 g1 hv=>(h.bit v g0 g1 hv).imp id (hb v),fun v g0 g1 hv=>(h.par v g0 g1 hv).imp id fun e=>⟨e.1,fun q=>e.2 (h1 q)⟩,fun v g0 g1 hv=>(h.owe v g0 g1 (ha v hv)).imp (hb v) id,fun q=>(h.new (h1 q)).imp h0 id⟩
section
variable {c:CF} {t:Tyt} {m:List Int} {w:Int} {x:WB} {d:Int}
end
section
variable {c:CF} {t:Tyt} {m:List Int} {i:Int} {x:SB}
end
def aqM (W:List WB) (S:List SB) (v:Int):Prop:=(∃ y ∈ W,owW y v)∨∃ y ∈ S,owS y v
structure Sgn (p:PB):Prop where
 w:∀ (i:Nat) x,p.2.2.2.1[i]? = some x→Fwk p.1.1 i x
 s:∀ x ∈ p.2.2.2.2,Fsb p.1.1 x
 low:amd p.1.1 p.2.2.1
 sg:∀ (i:Nat) x,p.2.2.2.1[i]? = some x→pkW x→uH (ah p.2.2.1 2) i=true∨ah p.2.2.1 (f6 p.1 i)≠0∨aqM p.2.2.2.1 p.2.2.2.2 i
end Go.Ab
set_option linter.unusedVariables false
set_option linter.unusedSimpArgs false
namespace Go.Ab
theorem Ox (f:FR):ii f=some (JR f):=by
 obtain ⟨a0,a1,a2,a3,a4,a5,a6⟩:=f
 unfold ii JR
 simp only [m7,ab,ew,nM]
 by_cases h1:a0=5
 ·by_cases h2:a6=0
  ·simp [h1,h2]
  ·have:(a6 !=0)=true:=by simp [h2]
   simp [h1,h2,this]
 ·simp [h1]
def ah7 (x:WB):Bool:=decide (x.1=8)&&JR x.2.2.1
theorem NG (x:WB):iv x=some (ah7 x):=by
 unfold iv ah7
 try simp only [Prod.eta]
 rw [Ox,ab,nM]
 by_cases h:x.1=8
 ·rw [decide_eq_true h,cond_true,Bool.true_and]
 ·rw [decide_eq_false h,cond_false,Bool.false_and]
end Go.Ab
