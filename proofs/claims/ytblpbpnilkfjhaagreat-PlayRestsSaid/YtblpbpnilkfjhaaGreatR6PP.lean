import Derived.Test.YtblpbpnilkfjhaaGreatAbLibC
import Derived.Test.YtblpbpnilkfjhaaGreatR6GX
import Derived.WideShapes
import Derived.Test.YtblpbpnilkfjhaaGreatR6GY
import Derived.Test.YtblpbpnilkfjhaaGreatR6GZ
set_option linter.unusedVariables false
set_option linter.unusedSimpArgs false
set_option linter.unusedVariables false
namespace Go.Ab
def nL (x:Int×List Int):Bool:=decide (x.1<0)||decide (20<x.1)
def mE:Nat→Tyt→List (Int×Int)
 | _,[]=>[]
 | i,x::r=>x.2.map (fun k=>(k,(i:Int)))++mE (i+1) r
def uD (n:Nat) (had:List Bool) (q:Int×Int):Bool:=decide (q.1≤q.2)||decide ((n:Int)≤q.1)||(had[q.1.toNat]?).getD true
abbrev Vv (n:Nat) := { h:List Bool // h.length=n }
def fU (n:Nat) (had:Vv n) (q:Int×Int):Bool×Vv n:=
 if uD n had.1 q then (false,had) else (true,⟨had.1.set q.1.toNat true,by simp [had.2]⟩)
def GJ (n:Nat):Vv n:=⟨List.replicate n false,by simp⟩
def wM (t:Tyt):Bool:=decide (t.length≤30) && !(t.any nL)&&(Ue (fU t.length) (mE 0 t) (GJ t.length)).1
structure Wt (t:Tyt):Prop where
 len:t.length≤9223372036854775807
 kids:∀ x ∈ t,x.2.length≤9223372036854775807
def aaM (t:Tyt):Bool:=(t.take 41).all (fun x=>decide (x.2.length≤40))&&decide (t.length≤40)
theorem K2 {t:Tyt} (h1:wM t=true):t.length≤30:=by
 unfold wM at h1
 simp only [Bool.and_eq_true,decide_eq_true_eq] at h1
 exact h1.1.1
theorem Ha {α:Type} {l:List α} {F:Nat→Int→Option Int} (p:α→Bool)
  (h0:∀ n,F (n+1) (l.length:Int)=some (-1))
  (h1:∀ n (i:Nat) x,i<l.length→l[i]? = some x→F (n+1) (i:Int)=bif p x then some (i:Int) else F n ((i+1:Nat):Int))
  (n:Nat) (hn:l.length<n):F n 0=some (GR p l 0):=by
 have key:∀ r i n,l.drop i=r→i≤l.length→r.length<n→F n (i:Int)=some (GR p r i):=by
  intro r
  induction r with
  | nil=>
   intro i n hr hi hn
   obtain ⟨n,rfl⟩:=fF hn
   have:i=l.length:=by have:=cC hr;omega
   subst this
   rw [h0]
   rfl
  | cons x r ih=>
   intro i n hr hi hn
   obtain ⟨n,rfl⟩:=fF hn
   obtain ⟨a,b,c,d,e⟩:=bO hr
   rw [h1 n i x a b]
   simp only [GR]
   cases p x with
   | true=>rfl
   | false=>exact ih (i+1) n c (by omega) (by simp only [List.length_cons] at hn;omega)
 have:=key l 0 n rfl (Nat.zero_le _) hn
 simpa using this
theorem agB {α:Type} [DecidableEq α] {a b:List α} {F:Nat→Int→Option Bool} (hlen:a.length=b.length)
  (h0:∀ n,F (n+1) (a.length:Int)=some true)
  (h1:∀ n (i:Nat) x y,i<a.length→a[i]? = some x→b[i]? = some y→F (n+1) (i:Int)=bif decide (x=y) then F n ((i+1:Nat):Int) else some false)
  (n:Nat) (hn:a.length<n):F n 0=some (decide (a=b)):=by
 have key:∀ r i n,a.drop i=r→i≤a.length→r.length<n→F n (i:Int)=some (decide (r=b.drop i)):=by
  intro r
  induction r with
  | nil=>
   intro i n hr hi hn
   obtain ⟨n,rfl⟩:=fF hn
   have:i=a.length:=by have:=cC hr;omega
   subst this
   rw [h0]
   have:b.drop a.length=[]:=by rw [List.drop_eq_nil_iff];omega
   rw [this]
   rfl
  | cons x r ih=>
   intro i n hr hi hn
   obtain ⟨n,rfl⟩:=fF hn
   obtain ⟨h2,h3,h4,h5,h6⟩:=bO hr
   have hb:i<b.length:=by omega
   have hy:b[i]? = some b[i]:=List.getElem?_eq_getElem hb
   rw [h1 n i x b[i] h2 h3 hy]
   have hd:b.drop i=b[i]::b.drop (i+1):=List.drop_eq_getElem_cons hb
   rw [hd,ih (i+1) n h4 (by omega) (by simp only [List.length_cons] at hn;omega)]
   generalize b[i]=y
   generalize b.drop (i+1)=d
   by_cases e:x=y
   ·simp [e]
   ·simp [e]
 have:=key a 0 n rfl (Nat.zero_le _) hn
 simpa using this
theorem Cu (x y : Int) : (x != y) = !decide (x = y) := by by_cases h : x = y <;> simp [h]
theorem ms (x y:Int):(x==y)=decide (x=y):=by by_cases h:x=y <;> simp [h]
theorem oU {α:Type} (l:List α):decide ((l.length:Int)<(l.length:Int))=false:=decide_eq_false (by omega)
theorem ltN {i n:Nat} (h:i<n):decide ((i:Int)<(n:Int))=true:=decide_eq_true (by omega)
theorem eR {z:Int} (h : -9223372036854775808≤z∧z≤9223372036854775807):IntKind.i64.wrap z=z:=TG h.1 h.2
theorem Nd {α β:Type} {a:List α} {b:List β}:((a.length:Int)!=(b.length:Int)) = !decide (a.length=b.length):=by
 by_cases h:a.length=b.length
 ·simp [h]
 ·have:(a.length:Int)≠(b.length:Int):=by omega
  simp [h,this]
end Go.Ab
set_option linter.unusedVariables false
namespace Go.Ab
open Go
abbrev CF:=Int×Int×Int×Int
abbrev FR:=Int×Int×Int×Int×Int×Int×Int
def gC (c:CF):Bool:=decide (1≤c.1∧c.1≤8∧(c.2.1=1∨c.2.1=2∨c.2.1=4∨c.2.1=8∨c.2.1=16)∧1≤c.2.2.1∧c.2.2.1≤16∧0≤c.2.2.2∧c.2.2.2≤4)
def Fs (c:CF) (w:Int):Int:=6+2*c.2.2.1+w*(3+c.2.1)
def dr (c:CF):Int:=if gC c=true then Fs c c.1 else 0
def io (c:CF) (w:Int):Int:=if gC c=true∧0≤w∧w<c.1 then Fs c w+2 else -1
def aO (m:List Int) (i:Int):Int:=if 0≤i then (m[i.toNat]?).getD 0 else 0
def bW (m:List Int) (i v:Int):List Int:=if 0≤i then m.set i.toNat v else m
def Au (m:List Int) (i old new:Int):List Int×Bool:=if 0≤i∧i<m.length∧aO m i=old then (bW m i new,true) else (m,false)
def epB (e:Int):Int:=e/65536
def mkB (e:Int):Int:=e%65536
def pW (x w:Int):Bool:=decide (x/2 ^ w.toNat%2=1)
def M9 (e w:Int):Int:=if 0≤w∧w<16∧pW e w=false then e+2 ^ w.toNat else e
def go (f:FR):Bool:=f.2.2.2.2.2.2 !=0
def eT (f:FR) (res val:Int):FR:=(f.1,0,f.2.2.1,val,0,0,res)
def og (c:CF) (m:List Int) (f:FR) (op pcs:Int):Bool:=gC c&&decide ((m.length:Int)=dr c)&&decide (f.2.2.2.2.2.2=0∧0≤f.2.2.1∧f.2.2.1<c.1∧f.1=op∧0≤f.2.1∧f.2.1<pcs)
def r5 (c:CF) (m:List Int) (f:FR):List Int×FR:=
 if og c m f 5 5=false then (m,f)
 else if f.2.1=0 then (m,f.1,1,f.2.2.1,f.2.2.2.1,aO m 2,f.2.2.2.2.2)
 else if f.2.1=1 then (if epB (aO m 2)=epB f.2.2.2.2.1 then (m,f.1,2,f.2.2.1,f.2.2.2.1,f.2.2.2.2.1,aO m 2,f.2.2.2.2.2.2) else (m,eT f 4 0))
 else if f.2.1=2 then (let r:=Au m 2 f.2.2.2.2.2.1 (M9 f.2.2.2.2.2.1 f.2.2.1);(r.1,f.1,if r.2=true then 3 else 1,f.2.2))
 else if f.2.1=3 then (let y:=aO m (io c f.2.2.1);(m,f.1,if y=0 then 3 else 4,f.2.2.1,f.2.2.2.1,f.2.2.2.2.1,y,f.2.2.2.2.2.2))
 else (bW m (io c f.2.2.1) 0,eT f 1 0)
def Ak (f:FR):Bool:=decide (f.1=5∧f.2.2.2.2.2.2=0∧f.2.1=3)
structure Wm (m:List Int):Prop where
 len:m.length≤9223372036854775807
 num:∀ x ∈ m,0≤x∧x≤18446744073709551615
theorem kO {z:Int} (h0:0≤z) (h1:z≤18446744073709551615):IntKind.u64.wrap z=z:=by
 simp [IntKind.wrap,IntKind.bits,IntKind.signed]
 omega
theorem aex {a b:Nat} (ha:a<18446744073709551616) (hb:b<18446744073709551616):wa .u64 (a:Int) (b:Int)=((a &&& b:Nat):Int):=by
 unfold wa
 have h:(BitVec.ofInt IntKind.u64.bits (a:Int) &&& BitVec.ofInt IntKind.u64.bits (b:Int)).toNat=a &&& b:=by
  rw [BitVec.toNat_and]
  have e:IntKind.u64.bits=64:=rfl
  rw [e]
  simp only [BitVec.ofInt_natCast,BitVec.toNat_ofNat]
  rw [Nat.mod_eq_of_lt (by omega),Nat.mod_eq_of_lt (by omega)]
 rw [h]
 have:a &&& b≤a:=Nat.and_le_left
 exact kO (by omega) (by omega)
theorem orU {a b:Nat} (ha:a<18446744073709551616) (hb:b<18446744073709551616):orI .u64 (a:Int) (b:Int)=((a ||| b:Nat):Int):=by
 unfold orI
 have h:(BitVec.ofInt IntKind.u64.bits (a:Int) ||| BitVec.ofInt IntKind.u64.bits (b:Int)).toNat=a ||| b:=by
  rw [BitVec.toNat_or]
  have e:IntKind.u64.bits=64:=rfl
  rw [e]
  simp only [BitVec.ofInt_natCast,BitVec.toNat_ofNat]
  rw [Nat.mod_eq_of_lt (by omega),Nat.mod_eq_of_lt (by omega)]
 rw [h]
 have:a ||| b<2 ^ 64:=Nat.or_lt_two_pow (by omega) (by omega)
 exact kO (by omega) (by omega)
theorem To {e:Int} (h0:0≤e) (h1:e≤18446744073709551615):wa .u64 e 65535=mkB e:=by
 obtain ⟨n,rfl⟩:∃ n:Nat,e=n:=⟨e.toNat,by omega⟩
 have:=aex (a:=n) (b:=65535) (by omega) (by omega)
 have h2:((65535:Nat):Int)=65535:=rfl
 rw [h2] at this
 rw [this,mkB]
 have h3:n &&& 65535=n%65536:=Nat.and_two_pow_sub_one_eq_mod n 16
 rw [h3]
 omega
theorem ZC {e w:Int} (h0:0≤e) (hw:0≤w) (hw2:w≤64):Tp .u64 e w=e/2 ^ w.toNat:=by
 unfold Tp
 have e1:IntKind.u64.bits=64:=rfl
 rw [e1]
 have:min w.toNat 64=w.toNat:=by omega
 rw [this,Int.fdiv_eq_ediv_of_nonneg _ (Int.le_of_lt (Int.pow_pos (by decide)))]
theorem WW {e:Int} (h0:0≤e):Tp .u64 e 16=epB e:=by
 rw [ZC h0 (by decide) (by decide)]
 rfl
theorem afV {x:Int} (h0:0≤x) (h1:x≤18446744073709551615):wa .u64 x 1=x%2:=by
 obtain ⟨n,rfl⟩:∃ n:Nat,x=n:=⟨x.toNat,by omega⟩
 have:=aex (a:=n) (b:=1) (by omega) (by omega)
 have h2:((1:Nat):Int)=1:=rfl
 rw [h2] at this
 rw [this,Nat.and_one_is_mod]
 omega
theorem XR {x w:Int} (h0:0≤x) (h1:x≤18446744073709551615):0≤x/2 ^ w.toNat∧x/2 ^ w.toNat≤18446744073709551615:=by
 have hp:(0:Int)<2 ^ w.toNat:=Int.pow_pos (by decide)
 have:=Int.ediv_nonneg h0 (Int.le_of_lt hp)
 have:=Int.ediv_le_self (2 ^ w.toNat) h0
 omega
theorem aiI {x w:Int} (h0:0≤x) (h1:x≤18446744073709551615) (hw:0≤w) (hw2:w≤64):(wa .u64 (Tp .u64 x w) 1==1)=pW x w:=by
 have:=XR (w:=w) h0 h1
 rw [ZC h0 hw hw2,afV this.1 this.2,pW,ms]
theorem ahE {w:Int} (hw:0≤w) (hw2:w<64):Sa .u64 1 w=2 ^ w.toNat:=by
 unfold Sa
 have e1:IntKind.u64.bits=64:=rfl
 rw [e1]
 have:min w.toNat 64=w.toNat:=by omega
 rw [this,Int.one_mul]
 have h1:(2:Nat) ^ w.toNat≤2 ^ 63:=Nat.pow_le_pow_right (by decide) (by omega)
 have h2:((2 ^ w.toNat:Nat):Int)=(2:Int) ^ w.toNat:=by rw [Int.natCast_pow];rfl
 have h3:(0:Int)<2 ^ w.toNat:=Int.pow_pos (by decide)
 exact kO (by omega) (by omega)
theorem aac {e w:Int} (h0:0≤e) (h1:e≤18446744073709551615) (hw:0≤w) (hw2:w<16):orI .u64 e (2 ^ w.toNat)=M9 e w:=by
 obtain ⟨n,rfl⟩:∃ n:Nat,e=n:=⟨e.toNat,by omega⟩
 have hp:(2:Nat) ^ w.toNat≤2 ^ 15:=Nat.pow_le_pow_right (by decide) (by omega)
 have h2:((2 ^ w.toNat:Nat):Int)=(2:Int) ^ w.toNat:=by rw [Int.natCast_pow];rfl
 rw [← h2,orU (by omega) (by omega)]
 have hb:pW (n:Int) w=n.testBit w.toNat:=by
  rw [pW,Nat.testBit_eq_decide_div_mod_eq,← h2]
  have:((n:Int)/((2 ^ w.toNat:Nat):Int))%2=((n/2 ^ w.toNat%2:Nat):Int):=by rw [Int.natCast_emod,Int.natCast_ediv];rfl
  rw [this]
  congr 1
  apply propext
  omega
 unfold M9
 cases ht:n.testBit w.toNat with
 | true=>
  rw [hb,ht,if_neg (by simp)]
  congr 1
  apply Nat.eq_of_testBit_eq
  intro i
  rw [Nat.testBit_or,Nat.testBit_two_pow]
  by_cases hi:w.toNat=i
  ·subst hi;simp [ht]
  ·simp [hi]
 | false=>
  rw [hb,ht,if_pos ⟨hw,hw2,rfl⟩,← h2]
  have h3:(BitVec.ofNat 80 n) &&& (BitVec.ofNat 80 (2 ^ w.toNat))=0#80:=by
   apply BitVec.eq_of_toNat_eq
   rw [BitVec.toNat_and]
   simp only [BitVec.toNat_ofNat]
   rw [Nat.mod_eq_of_lt (by omega),Nat.mod_eq_of_lt (by omega),Nat.zero_mod]
   apply Nat.eq_of_testBit_eq
   intro i
   rw [Nat.testBit_and,Nat.testBit_two_pow,Nat.zero_testBit]
   by_cases hi:w.toNat=i
   ·subst hi;simp [ht]
   ·simp [hi]
  have h4:=congrArg BitVec.toNat (BitVec.add_eq_or_of_and_eq_zero _ _ h3)
  rw [BitVec.toNat_add,BitVec.toNat_or] at h4
  simp only [BitVec.toNat_ofNat] at h4
  rw [Nat.mod_eq_of_lt (show n<2 ^ 80 by omega),Nat.mod_eq_of_lt (show 2 ^ w.toNat<2 ^ 80 by omega),Nat.mod_eq_of_lt (show n+2 ^ w.toNat<2 ^ 80 by omega)] at h4
  rw [← h4]
  omega
theorem dL {m:List Int} (hm:Wm m) (i:Int):0≤aO m i∧aO m i≤18446744073709551615:=by
 unfold aO
 split
 ·cases h:m[i.toNat]? with
  | none=>simp
  | some x=>exact hm.num x (List.mem_of_getElem? h)
 ·omega
theorem Yg {e w:Int} (h0:0≤e) (h1:e≤18446744073709551615):0≤M9 e w∧M9 e w≤18446744073709551615:=by
 unfold M9
 split
 ·rename_i h
  have hs:=aac h0 h1 h.1 h.2.1
  unfold M9 at hs
  rw [if_pos h] at hs
  rw [← hs]
  obtain ⟨n,rfl⟩:∃ n:Nat,e=n:=⟨e.toNat,by omega⟩
  have hp:(2:Nat) ^ w.toNat≤2 ^ 15:=Nat.pow_le_pow_right (by decide) (by omega)
  have h2:((2 ^ w.toNat:Nat):Int)=(2:Int) ^ w.toNat:=by rw [Int.natCast_pow];rfl
  rw [← h2,orU (by omega) (by omega)]
  have:n ||| 2 ^ w.toNat<2 ^ 64:=Nat.or_lt_two_pow (by omega) (by omega)
  omega
 ·omega
end Go.Ab
set_option maxRecDepth 100000
set_option linter.unusedVariables false
namespace Go.Ab
theorem bT {c:CF} (h:gC c=true):1≤c.1∧c.1≤8∧(c.2.1=1∨c.2.1=2∨c.2.1=4∨c.2.1=8∨c.2.1=16)∧1≤c.2.2.1∧c.2.2.1≤16∧0≤c.2.2.2∧c.2.2.2≤4:=by
 unfold gC at h
 exact of_decide_eq_true h
theorem iA {c:CF} (h:gC c=true) {w:Int} (h0:0≤w) (h1:w≤8):8≤Fs c w∧Fs c w≤190∧w*(3+c.2.1)≤152∧0≤w*(3+c.2.1):=by
 obtain ⟨_,_,hD,_,_,_,_⟩:=bT h
 have a:0≤w*(3+c.2.1):=Int.mul_nonneg h0 (by omega)
 have b:w*(3+c.2.1)≤8*19:=Int.mul_le_mul h1 (by omega) (by omega) (by omega)
 unfold Fs
 omega
theorem WM (a b c:Int):eM a b c=some (decide (b≤a∧a≤c)):=by
 unfold eM
 by_cases h:b≤a
 ·simp [h]
 ·simp [h]
theorem aeD {D:Int} (h1:1≤D) (h2:D≤16):(wa IntKind.i64 D (IntKind.i64.wrap (D - 1))==0)=decide (D=1∨D=2∨D=4∨D=8∨D=16):=by
 have:D=1∨D=2∨D=3∨D=4∨D=5∨D=6∨D=7∨D=8∨D=9∨D=10∨D=11∨D=12∨D=13∨D=14∨D=15∨D=16:=by omega
 rcases this with rfl | rfl | rfl | rfl | rfl | rfl | rfl | rfl | rfl | rfl | rfl | rfl | rfl | rfl | rfl | rfl <;> decide +kernel
theorem gi (c:CF):cw c=some (gC c):=by
 obtain ⟨W,D,I,S⟩:=c
 unfold cw gC
 simp only [WM,af]
 by_cases h1:1≤W∧W≤8
 ·rw [decide_eq_true h1,cond_true]
  by_cases h2:1≤D∧D≤16
  ·rw [decide_eq_true h2,cond_true,aeD h2.1 h2.2]
   by_cases h3:D=1∨D=2∨D=4∨D=8∨D=16
   ·rw [decide_eq_true h3,cond_true]
    by_cases h4:1≤I∧I≤16
    ·rw [decide_eq_true h4,cond_true]
     congr 1
     apply decide_eq_decide.2
     omega
    ·rw [decide_eq_false h4,cond_false]
     symm
     congr 1
     apply decide_eq_false
     omega
   ·rw [decide_eq_false h3,cond_false]
    symm
    congr 1
    apply decide_eq_false
    omega
  ·rw [decide_eq_false h2,cond_false]
   symm
   congr 1
   apply decide_eq_false
   omega
 ·rw [decide_eq_false h1,cond_false]
  symm
  congr 1
  apply decide_eq_false
  omega
theorem E3 {c:CF} (h:gC c=true) {w:Int} (h0:0≤w) (h1:w≤8):fA c w=some (Fs c w):=by
 have ht:=iA h h0 h1
 have hm:=bT h
 obtain ⟨W,D,I,S⟩:=c
 simp only [Fs] at ht hm ⊢
 unfold fA
 simp only
 rw [eR (z:=2*I) (by omega),eR (z:=6+2*I) (by omega),eR (z:=3+D) (by omega),eR (z:=w*(3+D)) (by omega),eR (by omega)]
theorem Bi (c:CF):dM c=some (dr c):=by
 unfold dM dr
 try simp only [Prod.eta]
 rw [gi,af]
 cases h:gC c with
 | false=>rfl
 | true=>
  have hm:=bT h
  rw [Bool.not_true,cond_false,if_pos rfl,E3 h (by omega) (by omega),af]
theorem lG (f:FR):aN f=some (go f):=rfl
theorem iM (f:FR) (r v:Int):a9 f r v=some (eT f r v):=rfl
theorem HM (c : CF) (m : List Int) (f : FR) (op pcs : Int) : eZ c m f op pcs = some (og c m f op pcs) := by
  obtain ⟨a0, a1, a2, a3, a4, a5, a6⟩ := f
  unfold eZ og
  try simp only [Prod.eta]
  rw [gi, af]
  cases h : gC c with
  | false => rfl
  | true =>
    rw [cond_true, Bi, af, ms]
    by_cases h1 : (m.length : Int) = dr c
    · rw [decide_eq_true h1, cond_true, lG, af, go]
      simp only
      by_cases h2 : a6 = 0
      · subst h2
        have e : (!((0 : Int) != 0)) = true := rfl
        rw [e, cond_true]
        by_cases h3 : 0 ≤ a2
        · rw [leT h3, cond_true]
          by_cases h4 : a2 < c.1
          · rw [ltT h4, cond_true, ms]
            by_cases h5 : a0 = op
            · rw [decide_eq_true h5, cond_true]
              by_cases h6 : 0 ≤ a1
              · rw [leT h6, cond_true]
                simp [h3, h4, h5, h6]
              · rw [leF (by omega), cond_false]
                simp [h6]
            · rw [decide_eq_false h5, cond_false]
              simp [h5]
          · rw [ltF (by omega), cond_false]
            simp [h4]
        · rw [leF (by omega), cond_false]
          simp [h3]
      · have e : (!(a6 != 0)) = false := by simp [h2]
        rw [e, cond_false]
        simp [h2]
    · rw [decide_eq_false h1, cond_false]
      simp
theorem HU (c:CF) (w:Int):fp c w=some (io c w):=by
 unfold fp io
 try simp only [Prod.eta]
 rw [gi,af]
 cases h:gC c with
 | false=>simp
 | true=>
  have hm:=bT h
  rw [Bool.not_true,cond_false,eR (by omega),WM,af]
  by_cases h1:0≤w∧w≤c.1 - 1
  ·have ht:=iA h h1.1 (by omega)
   rw [decide_eq_true h1,Bool.not_true,cond_false,E3 h (by omega) (by omega),af,eR (by omega),if_pos ⟨rfl,by omega,by omega⟩]
  ·rw [decide_eq_false h1,Bool.not_false,cond_true,if_neg (by omega)]
theorem aev (m:List Int) (i:Int):ip m i=some (decide (0≤i∧i<m.length)):=by
 unfold ip
 by_cases h:0≤i
 ·simp [h]
 ·simp [h]
theorem mj {m:List Int} {i:Int} (h:0≤i∧i<m.length):idx m i=some (aO m i)∧m[i.toNat]? = some (aO m i):=by
 have h2:i.toNat<m.length:=by omega
 rw [idx,if_pos h.1,aO,if_pos h.1,List.getElem?_eq_getElem h2]
 exact ⟨rfl,rfl⟩
theorem Pq {m:List Int} {i:Int} (h:¬ (0≤i∧i<m.length)):aO m i=0:=by
 unfold aO
 split
 ·rw [List.getElem?_eq_none (by omega)]
  rfl
 ·rfl
theorem M0 {m:List Int} {i v:Int} (h:¬ (0≤i∧i<m.length)):bW m i v=m:=by
 unfold bW
 split
 ·rw [List.set_eq_of_length_le (by omega)]
 ·rfl
theorem ig {m:List Int} {i v:Int}:(bW m i v).length=m.length:=by
 unfold bW
 split <;> simp
theorem Wm.set {m:List Int} (h:Wm m) (i:Int) {v:Int} (h0:0≤v) (h1:v≤18446744073709551615):Wm (bW m i v):=by
 refine ⟨by rw [ig];exact h.len,fun x hx => ?_⟩
 unfold bW at hx
 split at hx
 ·rcases List.mem_or_eq_of_mem_set hx with hx | rfl
  ·exact h.num x hx
  ·exact ⟨h0,h1⟩
 ·exact h.num x hx
theorem Wm.cas {m:List Int} (h:Wm m) (i o:Int) {v:Int} (h0:0≤v) (h1:v≤18446744073709551615):Wm (Au m i o v).1:=by
 unfold Au
 split
 ·exact h.set i h0 h1
 ·exact h
theorem eB (m:List Int) (i:Int):aL m i=some (aO m i):=by
 unfold aL
 rw [aev,af]
 by_cases h:0≤i∧i<m.length
 ·rw [decide_eq_true h,Bool.not_true,cond_false,(mj h).1,af]
 ·rw [decide_eq_false h,Bool.not_false,cond_true,Pq h]
theorem bF {α:Type} {b:Nat} {l:List α} (h:l.length*b≤70368744177664):aQ b l=some l:=by
 unfold aQ
 have:Nat.ble (l.length*b) 70368744177664=true:=Nat.ble_eq_true_of_le h
 rw [this,bA]
section
variable {m:List Int} (hl:m.length≤1000)
include hl
theorem kz (i v:Int):bw m i v=some (bW m i v):=by
 unfold bw
 rw [bF (by omega),af,aev,af]
 by_cases h:0≤i∧i<m.length
 ·rw [decide_eq_true h,Bool.not_true,cond_false,(mj h).1,af,decide_eq_true (by omega),cond_true,(mj h).2,af,af,bW,if_pos h.1]
 ·rw [decide_eq_false h,Bool.not_false,cond_true,M0 h]
theorem G3 (i o v:Int):dv m i o v=some (Au m i o v):=by
 unfold dv Au
 rw [bF (by omega),af,aev,af]
 by_cases h:0≤i∧i<m.length
 ·rw [decide_eq_true h,Bool.not_true,cond_false,(mj h).1,af,Cu]
  by_cases h2:aO m i=o
  ·rw [decide_eq_true h2,Bool.not_true,cond_false,decide_eq_true (by omega),cond_true,(mj h).2,af,af,if_pos ⟨h.1,h.2,h2⟩,bW,if_pos h.1]
  ·rw [decide_eq_false h2,Bool.not_false,cond_true,decide_eq_true (by omega),cond_true,(mj h).2,af,af,if_neg (fun hh=>h2 hh.2.2)]
   have:=(mj h).2
   rw [List.getElem?_eq_some_iff] at this
   obtain ⟨h3,h4⟩:=this
   rw [← h4,List.set_getElem_self]
 ·rw [decide_eq_false h,Bool.not_false,cond_true,if_neg (fun hh=>h ⟨hh.1,hh.2.1⟩)]
end
theorem agU {e w:Int} (h0:0≤e) (h1:e≤18446744073709551615):lu e w=some (M9 e w):=by
 unfold lu
 by_cases h2:w<0
 ·rw [ltT h2,cond_true,M9,if_neg (by omega)]
 ·rw [ltF (by omega),cond_false]
  by_cases h3:16≤w
  ·rw [leT h3,cond_true,M9,if_neg (by omega)]
  ·rw [leF (by omega),cond_false,leT (by omega),cond_true,ahE (by omega) (by omega),aac h0 h1 (by omega) (by omega)]
theorem Ci {e:Int} (h0:0≤e):dZ e=some (epB e):=by
 unfold dZ
 rw [WW h0]
theorem AL {e:Int} (h0:0≤e) (h1:e≤18446744073709551615):dp e=some (mkB e):=by
 unfold dp
 rw [To h0 h1]
def Wf (f:FR):Prop:=(0≤f.2.2.2.1∧f.2.2.2.1≤18446744073709551615)∧(0≤f.2.2.2.2.1∧f.2.2.2.2.1≤18446744073709551615)∧(0≤f.2.2.2.2.2.1∧f.2.2.2.2.2.1≤18446744073709551615)
theorem Ch {c:CF} {m:List Int} {f:FR} {op pcs:Int} (h:og c m f op pcs=true):gC c=true∧(m.length:Int)=dr c∧f.2.2.2.2.2.2=0∧0≤f.2.2.1∧f.2.2.1<c.1∧f.1=op∧0≤f.2.1∧f.2.1<pcs:=by
 unfold og at h
 rw [Bool.and_eq_true,Bool.and_eq_true,decide_eq_true_eq,decide_eq_true_eq] at h
 exact ⟨h.1.1,h.1.2,h.2⟩
theorem W7 (c:CF) {m:List Int} (hm:Wm m) (hl:m.length≤1000) {f:FR} (hf:Wf f):kC c m f=some (r5 c m f):=by
 have hr:=dL hm 2
 unfold kC r5
 try simp only [Prod.eta]
 rw [bF (by omega),af,HM,af]
 cases h:og c m f 5 5 with
 | false=>rfl
 | true=>
  obtain ⟨_,_,h6,h2,h2',h0,h1,h1'⟩:=Ch h
  rw [cond_true,if_neg (by simp)]
  obtain ⟨a0,a1,a2,a3,a4,a5,a6⟩:=f
  simp only at h6 h2 h2' h0 h1 h1' ⊢
  have e:decide (0≤a1∧a1.toNat<5)=true:=by rw [decide_eq_true_eq];omega
  rw [e,cond_true]
  obtain ⟨_,w4,w5⟩:=hf
  simp only at w4 w5
  have hp:a1=0∨a1=1∨a1=2∨a1=3∨a1=4:=by omega
  rcases hp with rfl | rfl | rfl | rfl | rfl
  ·simp [eB,af]
  ·simp only [eB,af,Ci hr.1,Ci w4.1,Cu,iM]
   by_cases h5:epB (aO m 2)=epB a4
   ·simp [h5]
   ·simp [h5,eT]
  ·simp only [agU w5.1 w5.2,af,G3 hl]
   cases hc:(Au m 2 a5 (M9 a5 a2)).2 <;> simp [hc]
  ·simp only [HU,eB,af,Cu]
   by_cases h5:aO m (io c a2)=0
   ·simp [h5]
   ·simp [h5]
  ·simp only [HU,af,kz hl,iM]
   simp [eT]
end Go.Ab
set_option linter.unusedVariables false
namespace Go.Ab
theorem oP {m:List Int} {i j:Int} (v:Int) (h:i≠j):aO (bW m i v) j=aO m j:=by
 unfold aO bW
 by_cases h0:0≤i
 ·by_cases h1:0≤j
  ·rw [if_pos h1,if_pos h0,List.getElem?_set_ne (by omega),if_pos h1]
  ·rw [if_neg h1,if_neg h1]
 ·rw [if_neg h0]
structure OkB (c:CF) (m:List Int) (w:Int):Prop where
 may:gC c=true
 len:(m.length:Int)=dr c
 low:0≤w
 high:w<c.1
theorem OkB.size {c:CF} {m:List Int} {w:Int} (h:OkB c m w):(m.length:Int)=Fs c c.1∧12≤m.length∧m.length≤190:=by
 have hm:=bT h.may
 have ht:=iA h.may (w:=c.1) (by omega) (by omega)
 have hl:=h.len
 rw [dr,if_pos h.may] at hl
 obtain ⟨W,D,I,S⟩:=c
 simp only [Fs] at *
 have:1*(3+D)≤W*(3+D):=Int.mul_le_mul_of_nonneg_right (by omega) (by omega)
 omega
theorem OkB.store {c:CF} {m:List Int} {w:Int} (h:OkB c m w) (i v:Int):OkB c (bW m i v) w:=⟨h.may,by rw [ig];exact h.len,h.low,h.high⟩
section
variable {c:CF} {m:List Int} {w a3 a4 a5:Int} (h:OkB c m w)
include h
end
theorem Wc (n:Nat) {w:Int} (hw:0≤w):pW (n:Int) w=n.testBit w.toNat:=by
 have h2:((2 ^ w.toNat:Nat):Int)=(2:Int) ^ w.toNat:=by rw [Int.natCast_pow];rfl
 rw [pW,Nat.testBit_eq_decide_div_mod_eq,← h2]
 have:((n:Int)/((2 ^ w.toNat:Nat):Int))%2=((n/2 ^ w.toNat%2:Nat):Int):=by rw [Int.natCast_emod,Int.natCast_ediv];rfl
 rw [this]
 congr 1
 apply propext
 omega
theorem XD (op w:Int):aM op w 0=some (op,0,w,0,0,0,0):=rfl
theorem wf0 {op pc w:Int} {r:Int}:Wf (op,pc,w,0,0,0,r):=by simp [Wf]
end Go.Ab
set_option linter.unusedVariables false
namespace Go.Ab
def Dy (e m:Int):Int:=e%281474976710656*65536+m%65536
def Ou (x:Int):Nat→Nat→Int
 | _,0 => -1
 | i,d+1=>if pW x i=true then (i:Int) else Ou x (i+1) d
def Fm (x:Int):Int:=Ou x 0 16
def QG (x:Int):Int:=if Fm x<0 then 0 else x - 2 ^ (Fm x).toNat
def Y4 (x:Int):Int:=Dy (epB x+1) (QG (mkB x))
def V0 (x:Int):Int:=Dy (epB x+1) 0
def Rc (c:CF) (m:List Int) (w:Int):List Int:=bW m (io c w) 1
def Ew (c:CF) (m:List Int) (f:FR):Bool:=decide (f.1=6∨f.1=7)&&gC c&&decide ((m.length:Int)=dr c)&&decide (f.2.2.2.2.2.2=0∧0≤f.2.1∧f.2.1≤2)
def BR (c:CF) (m:List Int) (f:FR):List Int×FR:=
 if Ew c m f=false then (m,f)
 else if f.2.1=0 then (m,f.1,1,f.2.2.1,f.2.2.2.1,aO m 2,f.2.2.2.2.2)
 else if f.2.1=1 then
  (if aO m 2=f.2.2.2.2.1 then
   (bW m 2 (if f.1=6 then Y4 f.2.2.2.2.1 else V0 f.2.2.2.2.1),
    if mkB f.2.2.2.2.1=0 then eT f 3 0 else (f.1,2,f.2.2.1,f.2.2.2.1,f.2.2.2.2.1,(if f.1=6 then (if Fm (mkB f.2.2.2.2.1)<0 then 0 else Fm (mkB f.2.2.2.2.1)) else mkB f.2.2.2.2.1),f.2.2.2.2.2.2))
  else (m,f.1,0,f.2.2))
 else if f.1=6 then (Rc c m (if f.2.2.2.2.2.1<8 then f.2.2.2.2.2.1 else -1),eT f 1 f.2.2.2.2.2.1)
 else (Rc c m (Fm f.2.2.2.2.2.1),if QG (mkB f.2.2.2.2.2.1)=0 then eT f 1 (mkB f.2.2.2.2.1) else (f.1,2,f.2.2.1,f.2.2.2.1,f.2.2.2.2.1,QG (mkB f.2.2.2.2.2.1),f.2.2.2.2.2.2))
def RG (f:FR) (w:Int):Bool := !(go f)&&decide (f.2.1=2∧0≤w∧w<16)&&(decide (f.1=6∧f.2.2.2.2.2.1=w)||(decide (f.1=7)&&pW f.2.2.2.2.2.1 w))
theorem Bz (x:Int):∀ (d i:Nat),(Ou x i d = -1∧∀ j:Nat,i≤j→j<i+d→pW x j=false)∨(∃ j:Nat,Ou x i d=j∧i≤j∧j<i+d∧pW x j=true∧∀ l:Nat,i≤l→l<j→pW x l=false)
 | 0,i => .inl ⟨rfl,fun j h1 h2=>by omega⟩
 | d+1,i=>by
  by_cases h:pW x i=true
  ·exact .inr ⟨i,by rw [Ou,if_pos h],by omega,by omega,h,fun l h1 h2=>by omega⟩
  ·have e:Ou x i (d+1)=Ou x (i+1) d:=by rw [Ou,if_neg h]
   rw [e]
   rcases Bz x d (i+1) with ⟨h1,h2⟩ | ⟨j,h1,h2,h3,h4,h5⟩
   ·refine .inl ⟨h1,fun j h3 h4 => ?_⟩
    by_cases e2:i=j
    ·subst e2;simpa using h
    ·exact h2 j (by omega) (by omega)
   ·refine .inr ⟨j,h1,by omega,by omega,h4,fun l h6 h7 => ?_⟩
    by_cases e2:i=l
    ·subst e2;simpa using h
    ·exact h5 l (by omega) h7
theorem Dg (x:Int):(Fm x = -1∧∀ j:Nat,j<16→pW x j=false)∨(∃ j:Nat,Fm x=j∧j<16∧pW x j=true∧∀ l:Nat,l<j→pW x l=false):=by
 rcases Bz x 16 0 with ⟨h1,h2⟩ | ⟨j,h1,h2,h3,h4,h5⟩
 ·exact .inl ⟨h1,fun j h=>h2 j (by omega) (by omega)⟩
 ·exact .inr ⟨j,h1,by omega,h4,fun l h=>h5 l (by omega) h⟩
theorem Xl {a w:Nat}:(2 ^ (w+1)*a+2 ^ w) &&& (2 ^ (w+1)*a+(2 ^ w - 1))=2 ^ (w+1)*a:=by
 have hp:0<2 ^ w:=Nat.pow_pos (by decide)
 have hs:2 ^ (w+1)=2*2 ^ w:=by rw [Nat.pow_succ,Nat.mul_comm]
 apply Nat.eq_of_testBit_eq
 intro j
 have e0:2 ^ (w+1)*a=2 ^ (w+1)*a+0:=rfl
 rw [Nat.testBit_and,Nat.testBit_two_pow_mul_add a (by omega),Nat.testBit_two_pow_mul_add a (by omega),e0,Nat.testBit_two_pow_mul_add a (by omega)]
 by_cases h:j<w+1
 ·rw [if_pos h,if_pos h,if_pos h,Nat.testBit_two_pow,Nat.testBit_two_pow_sub_one,Nat.zero_testBit]
  by_cases h2:w=j
  ·subst h2;simp
  ·simp [h2]
 ·rw [if_neg h,if_neg h,if_neg h,Bool.and_self]
theorem Ev {x:Int} (h0:0≤x) (h1:x<65536):(x=0∧Fm x = -1)∨(∃ a w:Nat,x=((2 ^ (w+1)*a+2 ^ w:Nat):Int)∧Fm x=w∧w<16):=by
 obtain ⟨n,rfl⟩:∃ n:Nat,x=n:=⟨x.toNat,by omega⟩
 have hb:∀ j:Nat,pW (n:Int) (j:Int)=n.testBit j:=fun j=>Wc n (by omega)
 rcases Dg (n:Int) with ⟨h2,h3⟩ | ⟨w,h2,h3,h4,h5⟩
 ·refine .inl ⟨?_,h2⟩
  have:n=0:=by
   apply Nat.eq_of_testBit_eq
   intro j
   rw [Nat.zero_testBit]
   by_cases hj:j<16
   ·rw [← hb];exact h3 j hj
   ·exact Nat.testBit_lt_two_pow (Nat.lt_of_lt_of_le (show n<2 ^ 16 by omega) (Nat.pow_le_pow_right (by decide) (by omega)))
  omega
 ·refine .inr ⟨n/2 ^ (w+1),w,?_,h2,h3⟩
  congr 1
  have hm:n%2 ^ (w+1)=2 ^ w:=by
   apply Nat.eq_of_testBit_eq
   intro j
   rw [Nat.testBit_mod_two_pow,Nat.testBit_two_pow]
   by_cases hj:j<w
   ·have:=h5 j hj
    rw [hb] at this
    have h6:¬ w=j:=by omega
    simp [this,h6]
   ·by_cases hj2:w=j
    ·subst hj2
     rw [hb] at h4
     simp [h4]
    ·have h6:¬ j<w+1:=by omega
     simp [h6,hj2]
  have:=Nat.div_add_mod n (2 ^ (w+1))
  omega
theorem aca {x:Int} (h0:0≤x) (h1:x<65536):wa .u64 x (IntKind.u64.wrap (x - 1))=QG x:=by
 unfold QG
 rcases Ev h0 h1 with ⟨rfl,h2⟩ | ⟨a,w,rfl,h2,h3⟩
 ·rw [h2]
  decide +kernel
 ·have hp:0<2 ^ w:=Nat.pow_pos (by decide)
  have e:((2 ^ (w+1)*a+2 ^ w:Nat):Int) - 1=((2 ^ (w+1)*a+(2 ^ w - 1):Nat):Int):=by
   generalize 2 ^ (w+1)*a=y
   generalize 2 ^ w=z at hp
   omega
  rw [h2,if_neg (by omega),Int.toNat_natCast,e]
  have hlt:2 ^ (w+1)*a+2 ^ w<65536:=by omega
  rw [kO (by omega) (by generalize 2 ^ (w+1)*a=y at hlt ⊢;generalize 2 ^ w=z at hlt ⊢;omega),aex (by omega) (by generalize 2 ^ (w+1)*a=y at hlt ⊢;generalize 2 ^ w=z at hlt ⊢;omega),Xl]
  have hw:((2 ^ w:Nat):Int)=(2:Int) ^ w:=by rw [Int.natCast_pow];rfl
  rw [← hw]
  generalize 2 ^ (w+1)*a=y
  generalize (2:Nat) ^ w=z
  omega
theorem NV {x:Int} (h0:0≤x) (h1:x<65536):0≤QG x∧QG x≤x:=by
 unfold QG
 rcases Ev h0 h1 with ⟨rfl,h2⟩ | ⟨a,w,rfl,h2,h3⟩
 ·rw [h2];decide
 ·rw [h2,if_neg (by omega),Int.toNat_natCast]
  have hw:((2 ^ w:Nat):Int)=(2:Int) ^ w:=by rw [Int.natCast_pow];rfl
  rw [← hw]
  generalize 2 ^ (w+1)*a=y
  generalize (2:Nat) ^ w=z
  omega
theorem ad3 {e m:Int} (h0:0≤e) (m0:0≤m) (m1:m≤18446744073709551615):orI .u64 (Sa .u64 e 16) (wa .u64 m 65535)=Dy e m:=by
 rw [To m0 m1]
 have hs:Sa .u64 e 16=((2 ^ 16*(e.toNat%281474976710656):Nat):Int):=by
  unfold Sa
  have e1:min (16:Int).toNat IntKind.u64.bits=16:=by decide
  rw [e1]
  simp [IntKind.wrap,IntKind.bits,IntKind.signed]
  omega
 have hm:mkB m=((m.toNat%65536:Nat):Int):=by unfold mkB;omega
 rw [hs,hm,orU (by omega) (by omega),← Nat.two_pow_add_eq_or_of_lt (by omega),Dy]
 omega
end Go.Ab
set_option linter.unusedVariables false
namespace Go.Ab
theorem Bx (c : CF) (m : List Int) (a1 a6 : Int) : (bif gC c then bif decide ((m.length : Int) = dr c) then bif !(a6 != 0) then bif decide (0 ≤ a1) then some (decide (a1 ≤ 2)) else some false else some false else some false else some false)
    = some (gC c && decide ((m.length : Int) = dr c) && decide (a6 = 0 ∧ 0 ≤ a1 ∧ a1 ≤ 2)) := by
  cases gC c with
  | false => rfl
  | true =>
    rw [cond_true]
    by_cases h1 : (m.length : Int) = dr c
    · rw [decide_eq_true h1, cond_true]
      by_cases h2 : a6 = 0
      · by_cases h3 : 0 ≤ a1
        · simp [h2, h3]
        · simp [h2, h3]
      · have : (a6 != 0) = true := by simp [h2]
        simp [h2, this]
    · rw [decide_eq_false h1]
      rfl
theorem VF (c:CF) (m:List Int) (f:FR):ki c m f=some (Ew c m f):=by
 obtain ⟨a0,a1,a2,a3,a4,a5,a6⟩:=f
 unfold ki Ew
 simp only [Prod.eta,ms,gi,Bi,lG,af,go]
 by_cases h1:a0=6
 ·rw [decide_eq_true h1,cond_true,Bx,decide_eq_true (show a0=6∨a0=7 from .inl h1),Bool.true_and]
 ·rw [decide_eq_false h1,cond_false]
  by_cases h2:a0=7
  ·rw [decide_eq_true h2,cond_true,Bx,decide_eq_true (show a0=6∨a0=7 from .inr h2),Bool.true_and]
  ·rw [decide_eq_false h2,cond_false,decide_eq_false (by omega)]
   rfl
theorem Iu {e:Int} (h0:0≤e):0≤mkB e∧mkB e<65536:=by unfold mkB;omega
theorem S5 {e:Int} (h0:0≤e) (h1:e≤18446744073709551615):0≤epB e∧epB e≤281474976710655:=by unfold epB;omega
theorem Ub {e m:Int} (h0:0≤e) (m0:0≤m) (m1:m≤18446744073709551615):gU e m=some (Dy e m):=by
 unfold gU
 rw [ad3 h0 m0 m1]
theorem ug (e m:Int):0≤Dy e m∧Dy e m≤18446744073709551615:=by unfold Dy;omega
theorem Oh (x:Int) : -1≤Fm x∧Fm x<16:=by
 rcases Dg x with ⟨h,_⟩ | ⟨j,h,h2,_⟩ <;> omega
theorem Hr {k:Nat} (hk:100≤k) {x:Int} (h0:0≤x) (h1:x≤18446744073709551615):gB k x=some (Fm x):=by
 have key:∀ (d i n:Nat),i+d=16→d<n→cT k x n (i:Int)=some (Ou x i d):=by
  intro d
  induction d with
  | zero=>
   intro i n hi hn
   obtain ⟨n,rfl⟩:=fF hn
   rw [cT,ltF (by omega),cond_false]
   rfl
  | succ d ih=>
   intro i n hi hn
   obtain ⟨n,rfl⟩:=fF hn
   rw [cT,ltT (by omega),cond_true,leT (by omega),cond_true,aiI h0 h1 (by omega) (by omega),Ou]
   cases hb:pW x i with
   | true=>rw [cond_true,if_pos rfl]
   | false=>rw [cond_false,if_neg (by simp),eQ (by omega),ih (i+1) n (by omega) (by omega)]
 exact key 16 0 (k+9) rfl (by omega)
theorem abf {k:Nat} (hk:100≤k) {e:Int} (h0:0≤e) (h1:e≤18446744073709551615):kE k e=some (Y4 e,Fm (mkB e)):=by
 have hm:=Iu h0
 have he:=S5 h0 h1
 have hc:=NV hm.1 hm.2
 unfold kE
 rw [AL h0 h1,af,Ci h0,af,kO (z:=epB e+1) (by omega) (by omega),aca hm.1 hm.2,Ub (by omega) hc.1 (by omega),af,Hr hk hm.1 (by omega),af]
 rfl
theorem Z6 {e:Int} (h0:0≤e) (h1:e≤18446744073709551615):kF e=some (V0 e):=by
 have he:=S5 h0 h1
 unfold kF
 rw [Ci h0,af,kO (z:=epB e+1) (by omega) (by omega),Ub (by omega) (by decide) (by decide),af]
 rfl
theorem Qo {k:Nat} (hk:100≤k) {e:Int} (h0:0≤e) (h1:e≤18446744073709551615):fP k e=some (Y4 e,if Fm (mkB e)<0 then 0 else Fm (mkB e)):=by
 have hl:=Oh (mkB e)
 unfold fP
 rw [abf hk h0 h1,af]
 simp only
 by_cases h:Fm (mkB e)<0
 ·rw [ltT h,cond_true,if_pos h];rfl
 ·rw [ltF (by omega),cond_false,if_neg h,kO (by omega) (by omega)]
theorem QN {e:Int} (h0:0≤e) (h1:e≤18446744073709551615):fL e=some (V0 e,mkB e):=by
 unfold fL
 rw [Z6 h0 h1,af,AL h0 h1,af]
theorem Nm {k:Nat} (hk:100≤k) (c:CF) {m:List Int} (hl:m.length≤1000) (w:Int):fS k c m [w]=some (Rc c m w):=by
 unfold fS
 obtain ⟨k,rfl⟩:∃ j,k=j+2:=⟨k - 2,by omega⟩
 have f1:∀ k:Nat,k+2+12=(k+12+1)+1:=fun k=>rfl
 have i1:IntKind.i64.wrap (0+1)=1:=by decide
 have x0:idx [w] 0=some w:=rfl
 rw [f1,eG,ltT (by simp),cond_true,x0,af]
 try simp only [Prod.eta]
 rw [HU,af,kz hl,af,i1,eG,ltF (by simp),cond_false]
 rfl
theorem YE {k:Nat} (hk:1000≤k) (c:CF) {m:List Int} (hm:Wm m) (hl:m.length≤1000) {f:FR} (hf:Wf f):gL k c m f=some (BR c m f):=by
 have hr:=dL hm 2
 unfold gL BR
 try simp only [Prod.eta]
 rw [bF (by omega),af,VF,af]
 cases h:Ew c m f with
 | false=>rfl
 | true=>
  rw [Bool.not_true,cond_false,if_neg (by simp)]
  obtain ⟨a0,a1,a2,a3,a4,a5,a6⟩:=f
  obtain ⟨_,w4,w5⟩:=hf
  simp only at w4 w5
  unfold Ew at h
  rw [Bool.and_eq_true,Bool.and_eq_true,Bool.and_eq_true,decide_eq_true_eq,decide_eq_true_eq,decide_eq_true_eq] at h
  obtain ⟨⟨⟨h0,hmay⟩,hlen⟩,h6,h1,h2⟩:=h
  simp only at h0 h6 h1 h2 ⊢
  have hlen2:(2:Int)<m.length:=by
   have hmc:=bT hmay
   have ok:OkB c m 0:=⟨hmay,hlen,by decide,by omega⟩
   have:=ok.size
   omega
  by_cases p0:a1=0
  ·subst p0
   simp [eB,af]
  ·by_cases p1:a1=1
   ·subst p1
    have e1:∀ v,Au m 2 a4 v=if aO m 2=a4 then (bW m 2 v,true) else (m,false):=by
     intro v
     unfold Au
     by_cases hh:aO m 2=a4
     ·rw [if_pos hh,if_pos ⟨by decide,hlen2,hh⟩]
     ·rw [if_neg hh,if_neg (fun x=>hh x.2.2)]
    rcases h0 with rfl | rfl
    ·simp only [ms,decide_eq_true rfl,decide_eq_false p0,cond_true,cond_false,Qo (k:=k+2) (by omega) w4.1 w4.2,af,G3 hl,e1,AL w4.1 w4.2,iM]
     by_cases hh:aO m 2=a4
     ·by_cases h3:mkB a4=0
      ·simp [hh,h3,eT]
      ·simp [hh,h3]
     ·simp [hh]
    ·simp only [ms,decide_eq_true rfl,decide_eq_false p0,decide_eq_false (show ¬ ((7:Int)=6) by decide),cond_true,cond_false,QN w4.1 w4.2,af,G3 hl,e1,AL w4.1 w4.2,iM]
     by_cases hh:aO m 2=a4
     ·by_cases h3:mkB a4=0
      ·simp [hh,h3,eT]
      ·simp [hh,h3]
     ·simp [hh]
   ·rcases h0 with rfl | rfl
    ·simp only [ms,decide_eq_true rfl,decide_eq_false p0,decide_eq_false p1,cond_true,cond_false]
     by_cases h3:a5<8
     ·rw [ltT h3,cond_true,Nm (by omega) c hl,af,iM,af,eR (by omega)]
      simp [p0,p1,h3,eT]
     ·rw [ltF (by omega),cond_false,Nm (by omega) c hl,af,iM,af]
      simp [p0,p1,h3,eT]
    ·have hk5:=Iu w5.1
     simp only [ms,decide_eq_false (show ¬ ((7:Int)=6) by decide),decide_eq_false p0,decide_eq_false p1,cond_false]
     rw [Hr (by omega) w5.1 w5.2,af,Nm (by omega) c hl,af,AL w5.1 w5.2,af,aca hk5.1 hk5.2,AL w4.1 w4.2,af]
     simp only [iM,af]
     by_cases h3:QG (mkB a5)=0
     ·simp [p0,p1,h3,eT]
     ·have h4:mkB a5≠0:=fun e=>h3 (by rw [e];decide)
      simp [p0,p1,h3,h4]
      omega
end Go.Ab
namespace Go.Ab
open Go.WideShapes
theorem uZ:maxLen≤9223372036854775807:=by decide
theorem aeX {l:Tyt} (hm:l.length≤maxLen) (h:∀ x ∈ l,i64 x.1∧(∀ n ∈ x.2,i64 n)∧x.2.length≤maxLen):Wt l:=
 ⟨Nat.le_trans hm uZ,fun x hx=>Nat.le_trans (h x hx).2.2 uZ⟩
theorem abJ {α:Type} {l:List α} (hm:l.length≤maxLen):l.length≤9223372036854775807:=Nat.le_trans hm uZ
theorem JH {P:Program} {w:World} {r:Reach} {base:Nat} {t:TypeId} {v:Value} {fs:Array Field} (ht:P.underlying t=some (.struct fs)) (h:Value.okWide P w r base t v):∃ cs,v = .agg cs:=by
 simp only [Value.okWide,ht] at h
 cases v <;> simp_all
theorem Cells.agg {w:World} {cs:Array Value} {vs:List V} (c:Cells w (Value.agg cs).cells.toList vs):RelV (OO w) [] (.agg vs) (.agg cs):=by
 have hl:vs.length=cs.toList.length:=c.len
 refine .agg vs cs (by simpa using hl.symm) c.ones fun i x hx => ?_
 have hi:i<vs.length:=(List.getElem?_eq_some_iff.1 hx).1
 have hi2:i<cs.size:=by rw [hl] at hi;simpa using hi
 have h1:cs.toList[i]? = some cs[i]:=by simp [hi2]
 have:=c.rel i x cs[i] hx h1
 simpa [Array.getD,hi2] using this
end Go.Ab
namespace Go.Ab
open Go.WideShapes
def u64 (n:Int):Prop:=(Lit.int .u64 n).wf=true
def Uo (c:Int×Int×Int×Int):Prop:=i64 c.1∧i64 c.2.1∧i64 c.2.2.1∧i64 c.2.2.2
theorem JU {P:Program} {t ti:TypeId} {f0 f1 f2 f3:Field} {vs:List V} (he:P.underlying t=some (.struct #[f0,f1,f2,f3])) (h0:f0.type=ti) (h1:f1.type=ti) (h2:f2.type=ti) (h3:f3.type=ti) (o0:f0.offset=0) (o1:f1.offset=1) (o2:f2.offset=2) (o3:f3.offset=3) (hi:P.underlying ti=some (.int .i64)) (ci:P.cellsOf ti=1) (ce:P.cellsOf t=4) (h:Shape P t vs) :
  ∃ x:Int×Int×Int×Int,vs=MZ x∧Uo x:=by
 obtain ⟨a,b⟩:=mI he h
 have s0:=b 0 f0 rfl
 rw [h0,o0,ci,List.drop_zero] at s0
 have s1:=b 1 f1 rfl
 rw [h1,o1,ci] at s1
 have s2:=b 2 f2 rfl
 rw [h2,o2,ci] at s2
 have s3:=b 3 f3 rfl
 rw [h3,o3,ci] at s3
 rw [ce] at a
 obtain ⟨n0,e0,w0⟩:=gg hi s0
 obtain ⟨n1,e1,w1⟩:=gg hi s1
 obtain ⟨n2,e2,w2⟩:=gg hi s2
 obtain ⟨n3,e3,w3⟩:=gg hi s3
 match vs,a with
 | [x0,x1,x2,x3],_=>
  simp at e0 e1 e2 e3
  subst e0 e1 e2 e3
  exact ⟨(n0,n1,n2,n3),rfl,w0,w1,w2,w3⟩
theorem GU {P:Program} {t s i:TypeId} {vs:List V} (ht:P.underlying t=some (.slice s)) (hs:P.underlying s=some (.slice i)) (hi:P.underlying i=some (.int .i64)) (h:Shape P t vs) :
  ∃ l:List (List Int),vs=[.ro (l.map eo)]∧(∀ x ∈ l,(∀ n ∈ x,i64 n)∧x.length≤maxLen)∧l.length≤maxLen:=by
 obtain ⟨rows,rfl,hr,hm⟩:=mm ht h
 obtain ⟨l,rfl,hl⟩:=lP (enc:=eo) (Q:=fun x=>(∀ n ∈ x,i64 n)∧x.length≤maxLen) (rows:=rows) (fun r hx=>by
  obtain ⟨l,e,w,m⟩:=pt hs hi (hr r hx)
  exact ⟨l,e,w,m⟩)
 exact ⟨l,rfl,hl,by simpa using hm⟩
theorem ach {n:Int} (h:u64 n):0≤n∧n≤18446744073709551615:=by
 have h1:IntKind.min .u64=0:=by decide
 have h2:IntKind.max .u64=18446744073709551615:=by decide
 simpa [u64,Lit.wf,h1,h2] using h
end Go.Ab
namespace Go.Ab
open Go.WideShapes
end Go.Ab
set_option linter.unusedVariables false
namespace Go.Ab
end Go.Ab
set_option linter.unusedVariables false
namespace Go.Ab
def BN (c:CF) (x:Int):Int:=if gC c=true then 6+x%c.2.2.1 else -1
def WQ (c:CF) (x:Int):Int:=if gC c=true then 6+c.2.2.1+x%c.2.2.1 else -1
def Dj (c:CF) (x:Int):Int:=x/c.2.2.1*2%18446744073709551616
def I7 (a b:Int):Int:=IntKind.i64.wrap (IntKind.u64.wrap (a - b))
def ol (a b:Int):Int:=(a+b)%18446744073709551616
def rM (c:CF) (m:List Int) (f:FR) (op:Int):Bool:=gC c&&decide ((m.length:Int)=dr c)&&decide (f.2.2.2.2.2.2=0∧f.1=op∧0≤f.2.1∧f.2.1<5)
def TQ (c:CF) (m:List Int) (f:FR):List Int×FR:=
 if rM c m f 3=false then (m,f)
 else if f.2.1=0 then (m,f.1,1,f.2.2.1,f.2.2.2.1,aO m 5,f.2.2.2.2.2)
 else if f.2.1=1 then
  (if aO m (BN c f.2.2.2.2.1)=Dj c f.2.2.2.2.1 then (m,f.1,2,f.2.2.1,f.2.2.2.1,f.2.2.2.2.1,aO m (BN c f.2.2.2.2.1),f.2.2.2.2.2.2)
  else if I7 (aO m (BN c f.2.2.2.2.1)) (Dj c f.2.2.2.2.1)<0 then (m,eT f 2 f.2.2.2.1)
  else (m,f.1,0,f.2.2.1,f.2.2.2.1,f.2.2.2.2.1,aO m (BN c f.2.2.2.2.1),f.2.2.2.2.2.2))
 else if f.2.1=2 then (let r:=Au m 5 f.2.2.2.2.1 (ol f.2.2.2.2.1 1);(r.1,f.1,if r.2=true then 3 else 0,f.2.2))
 else if f.2.1=3 then (bW m (WQ c f.2.2.2.2.1) f.2.2.2.1,f.1,4,f.2.2)
 else (bW m (BN c f.2.2.2.2.1) (ol (Dj c f.2.2.2.2.1) 1),eT f 1 f.2.2.2.1)
def Dp (c:CF) (x:Int):Int:=ol (Dj c x) 1
def Tn (c:CF) (m:List Int) (f:FR):List Int×FR:=
 if rM c m f 4=false then (m,f)
 else if f.2.1=0 then (m,f.1,1,f.2.2.1,f.2.2.2.1,aO m 4,f.2.2.2.2.2)
 else if f.2.1=1 then
  (if I7 (aO m (BN c f.2.2.2.2.1)) (Dp c f.2.2.2.2.1)=0 then (m,f.1,2,f.2.2.1,f.2.2.2.1,f.2.2.2.2.1,aO m (BN c f.2.2.2.2.1),f.2.2.2.2.2.2)
  else if I7 (aO m (BN c f.2.2.2.2.1)) (Dp c f.2.2.2.2.1)<0 then (m,eT f 3 0)
  else (m,f.1,0,f.2.2.1,f.2.2.2.1,f.2.2.2.2.1,aO m (BN c f.2.2.2.2.1),f.2.2.2.2.2.2))
 else if f.2.1=2 then (let r:=Au m 4 f.2.2.2.2.1 (ol f.2.2.2.2.1 1);(r.1,f.1,if r.2=true then 3 else 0,f.2.2))
 else if f.2.1=3 then (m,f.1,4,f.2.2.1,aO m (WQ c f.2.2.2.2.1),f.2.2.2.2)
 else (bW m (BN c f.2.2.2.2.1) (ol (Dp c f.2.2.2.2.1) 1),eT f 1 f.2.2.2.1)
def DV (c:CF) (m:List Int) (f:FR):List Int×FR:=if f.1=3 then TQ c m f else if f.1=4 then Tn c m f else (m,f)
def JR (c:CF) (m:List Int) (f:FR):List Int×FR:=if f.1=5 then r5 c m f else if f.1=6∨f.1=7 then BR c m f else (m,f)
def mR (c:CF) (m:List Int) (f:FR):List Int×FR:=if f.1=3∨f.1=4 then DV c m f else JR c m f
abbrev SB:=Int×List Int×FR
def ef:FR:=(0,0,0,0,0,0,0)
abbrev EV:=Int×Int×Int
def uX (l:List Int):Int:=l.headD 0
def r7 (c:CF) (t:Tyt) (m:List Int) (x:SB):Bool:=gC c&&decide ((m.length:Int)=dr c)&&wM t&&decide (0≤x.1∧x.1<6∧x.2.1≠[]∧0≤uX x.2.1∧uX x.2.1<t.length)
def oo (c:CF) (t:Tyt) (m:List Int) (i:Int) (x:SB):List Int×SB×List EV:=
 if r7 c t m x=false then (m,x,[])
 else if x.1=0 then (if aO m 3≠0 then (m,(0,x.2.1.tail,ef),[(1,uX x.2.1,i)]) else (m,(1,x.2),[]))
 else if x.1=1 then (bW m 0 (ol (aO m 0) 1),(2,x.2.1,(3,0,i,uX x.2.1,0,0,0)),[])
 else if x.1=2 then (let r:=mR c m x.2.2;
  if go r.2=false then (r.1,(2,x.2.1,r.2),[]) else if r.2.2.2.2.2.2.2=2 then (r.1,(5,x.2.1,r.2),[]) else (r.1,(3,x.2.1,r.2),[(0,uX x.2.1,i)]))
 else if x.1=3 then (if aO m 1≠0 then (m,(0,x.2.1.tail,ef),[]) else (m,(4,x.2.1,(6,0,i,0,0,0,0)),[]))
 else if x.1=4 then (let r:=mR c m x.2.2;if go r.2=true then (r.1,(0,x.2.1.tail,ef),[]) else (r.1,(4,x.2.1,r.2),[]))
 else (bW m 0 (ol (aO m 0) 18446744073709551615),(0,x.2.1.tail,ef),if aO m 0=1 then [(1,uX x.2.1,i),(5,0,i)] else [(1,uX x.2.1,i)])
def One (m m':List Int):Prop:=∃ i v,m'=bW m i v
theorem One.same (m:List Int):One m m:=⟨-1,0,by unfold bW;rw [if_neg (by decide)]⟩
theorem One.store (m:List Int) (i v:Int):One m (bW m i v):=⟨i,v,rfl⟩
theorem One.cas (m:List Int) (i o v:Int):One m (Au m i o v).1:=by
 unfold Au
 split
 ·exact One.store m i v
 ·exact One.same m
theorem One.len {m m':List Int} (h:One m m'):m'.length=m.length:=by
 obtain ⟨i,v,rfl⟩:=h
 exact ig
theorem WF (c:CF) (m:List Int) (f:FR):One m (TQ c m f).1:=by
 unfold TQ
 repeat' split
 all_goals first | exact One.same m | exact One.store m _ _ | exact One.cas m _ _ _
theorem Yt (c:CF) (m:List Int) (f:FR):One m (Tn c m f).1:=by
 unfold Tn
 repeat' split
 all_goals first | exact One.same m | exact One.store m _ _ | exact One.cas m _ _ _
theorem RK (c:CF) (m:List Int) (f:FR):One m (r5 c m f).1:=by
 unfold r5
 repeat' split
 all_goals first | exact One.same m | exact One.store m _ _ | exact One.cas m _ _ _
theorem R9 (c:CF) (m:List Int) (f:FR):One m (BR c m f).1:=by
 unfold BR Rc
 repeat' split
 all_goals first | exact One.same m | (dsimp only;exact One.store m _ _)
theorem Ii (c:CF) (m:List Int) (f:FR):One m (mR c m f).1:=by
 unfold mR DV JR
 repeat' split
 all_goals first | exact One.same m | exact WF c m f | exact Yt c m f | exact RK c m f | exact R9 c m f
end Go.Ab
set_option linter.unusedVariables false
namespace Go.Ab
structure InvA (c:CF) (a:Nat) (m:List Int):Prop where
 wm:Wm m
 may:gC c=true
 len:(m.length:Int)=dr c
 l0:aO m 0=a
 l1:aO m 1=0
 mask:mkB (aO m 2)=0
 l3:aO m 3=0
 l5:aO m 5=a
 sq:∀ j:Nat,(j:Int)<c.2.2.1→aO m (6+j)=if j<a then 1 else 0
 le:(a:Int)≤c.2.2.1
section
variable {c:CF} {t:Tyt} {m:List Int} {l:List Int} {F:FR}
end
section
variable {c:CF} {m:List Int} {w v X Y:Int} (hmay:gC c=true) (hlen:(m.length:Int)=dr c)
include hmay hlen
end
end Go.Ab
set_option linter.unusedVariables false
namespace Go.Ab
theorem A7 {q i:Int}:∀ {t:Tyt} {s:Nat},(q,i) ∈ mE s t↔∃ n x,t[n]? = some x∧q ∈ x.2∧i=((s+n:Nat):Int)
 | [],s=>by simp [mE]
 | x::t,s=>by
  simp only [mE,List.mem_append,List.mem_map,Prod.mk.injEq,A7 (t:=t) (s:=s+1)]
  constructor
  ·rintro (⟨a,ha,rfl,rfl⟩ | ⟨n,y,hy,hq,rfl⟩)
   ·exact ⟨0,x,rfl,ha,by simp⟩
   ·exact ⟨n+1,y,by simpa using hy,hq,by omega⟩
  ·rintro ⟨n,y,hy,hq,rfl⟩
   cases n with
   | zero=>
    simp at hy
    subst hy
    exact .inl ⟨q,hq,rfl,by simp⟩
   | succ n=>exact .inr ⟨n,y,by simpa using hy,hq,by omega⟩
theorem Hq (n:Nat):∀ (l:List (Int×Int)) (had:Vv n),(∀ q ∈ l,0≤q.2)→(Ue (fU n) l had).1=true →
  (∀ q ∈ l,q.2<q.1∧q.1<n∧had.1[q.1.toNat]? = some false)∧(l.map (·.1)).Nodup
 | [],had,_,_=>by simp
 | q::l,had,h0,h=>by
  simp only [Ue] at h
  have hq0:=h0 q (by simp)
  cases hb:uD n had.1 q with
  | true=>simp [fU,hb] at h
  | false=>
   have e1:(fU n had q).1=true:=by simp [fU,hb]
   have e2:(fU n had q).2.1=had.1.set q.1.toNat true:=by simp [fU,hb]
   rw [e1,if_pos rfl] at h
   obtain ⟨a,b⟩:=Hq n l _ (fun x hx=>h0 x (by simp [hx])) h
   simp only [uD,Bool.or_eq_false_iff,decide_eq_false_iff_not] at hb
   obtain ⟨⟨h1,h2⟩,h3⟩:=hb
   have h4:q.1.toNat<had.1.length:=by rw [had.2];omega
   have h5:had.1[q.1.toNat]? = some false:=by
    rw [List.getElem?_eq_getElem h4] at h3 ⊢
    simpa using h3
   rw [e2] at a
   have h6:∀ x ∈ l,x.1≠q.1:=by
    intro x hx e
    have:=(a x hx).2.2
    rw [e,List.getElem?_set_self h4] at this
    cases this
   refine ⟨?_,?_⟩
   ·intro x hx
    rcases List.mem_cons.1 hx with rfl | hx
    ·exact ⟨by omega,by omega,h5⟩
    ·obtain ⟨u,v,w⟩:=a x hx
     refine ⟨u,v,?_⟩
     have hx0:=h0 x (by simp [hx])
     rwa [List.getElem?_set_ne (by have:=h6 x hx;omega)] at w
   ·rw [List.map_cons,List.nodup_cons]
    refine ⟨?_,b⟩
    intro hm
    obtain ⟨x,hx,e⟩:=List.mem_map.1 hm
    exact h6 x hx e
structure May (t:Tyt):Prop where
 len:t.length≤30
 work:∀ x ∈ t,0≤x.1∧x.1≤20
 kids:∀ q ∈ mE 0 t,0≤q.2∧q.2<q.1∧q.1<t.length
 once:((mE 0 t).map (·.1)).Nodup
theorem oF {t:Tyt} {s:Nat} (q) (h:q ∈ mE s t):0≤q.2:=by
 obtain ⟨a,b⟩:=q
 obtain ⟨n,x,_,_,rfl⟩:=A7.1 h
 simp
 omega
theorem SJ {t:Tyt} (h:wM t=true):May t:=by
 unfold wM at h
 simp only [Bool.and_eq_true,decide_eq_true_eq,Bool.not_eq_true'] at h
 obtain ⟨⟨h1,h2⟩,h3⟩:=h
 obtain ⟨a,b⟩:=Hq t.length _ _ oF h3
 refine ⟨h1,?_,fun q hq=>⟨oF q hq,(a q hq).1,(a q hq).2.1⟩,b⟩
 intro x hx
 have:=List.any_eq_false.1 h2 x hx
 simp only [nL,Bool.or_eq_true,decide_eq_true_eq,not_or] at this
 omega
end Go.Ab
set_option maxRecDepth 100000
set_option linter.unusedVariables false
namespace Go.Ab
theorem adX (x:Int×List Int):fN x=some (nL x):=by
 unfold fN nL
 cases decide (x.1<0) <;> rfl
section
variable (k:Nat) (hk:9223372036854775808≤k)
include hk
theorem WU (t:Tyt) (ht:Wt t):dx k t=some (aaM t):=by
 have hlen:=ht.len
 have key:∀ r i n,t.drop i=r→i≤t.length→r.length<n→bJ k t n (i:Int)=some ((r.take (41 - i)).all (fun x=>decide (x.2.length≤40))&&decide (t.length≤40)):=by
  intro r
  induction r with
  | nil=>
   intro i n hr hi hn
   obtain ⟨n,rfl⟩:=fF hn
   have:i=t.length:=by have:=cC hr;omega
   subst this
   rw [bJ,oU,cond_false,SO]
   simp
  | cons x r ih=>
   intro i n hr hi hn
   obtain ⟨n,rfl⟩:=fF hn
   obtain ⟨a,b,c,d,e⟩:=bO hr
   rw [bJ,ltN a,cond_true]
   by_cases h:i≤40
   ·rw [leT (show (i:Int)≤40 by omega),cond_true,dS b,af]
    have e1:41 - i=(41 - (i+1))+1:=by omega
    rw [e1,List.take_succ_cons,List.all_cons]
    by_cases h2:x.2.length≤40
    ·rw [ltF (show ((x.2.length:Nat):Int)≤40 by omega),cond_false,eQ (by omega),ih (i+1) n c (by omega) (by simp only [List.length_cons] at hn;omega),decide_eq_true h2,Bool.true_and]
    ·rw [ltT (show (40:Int)<(x.2.length:Nat) by omega),cond_true,decide_eq_false h2]
     rfl
   ·rw [leF (show (40:Int)<i by omega),cond_false,SO]
    have e1:41 - i=0:=by omega
    rw [e1]
    simp
 have:=key t 0 k rfl (Nat.zero_le _) (by omega)
 rw [dx]
 simpa [aaM] using this
theorem UZ (t:Tyt) (ht:Wt t):aT k t=some (t.any nL):=by
 have hlen:=ht.len
 rw [aT,be]
 rw [Ha (F:=fun n i=>aE (k+8) t n i) (l:=t) nL ?_ ?_ _ (by omega)]
 ·rw [af,nH]
 ·intro n
  simp only [aE,oU,cond_false]
 ·intro n i x hi hx
  simp only [aE,ltN hi,cond_true,dS hx,af,adX,Prod.eta]
  rw [eQ (by omega)]
theorem KD (t:Tyt) (ht:Wt t):dc k t=some (wM t):=by
 have hlen:=ht.len
 rw [dc,UZ k hk t ht,af]
 unfold wM
 by_cases h1:t.length≤30
 ·rw [akw h1,cond_false,decide_eq_true h1]
  cases h2:t.any nL with
  | true=>rfl
  | false=>
   have h3:decide ((0:Int)≤(t.length:Int)∧(t.length:Int)≤9223372036854775807∧(t.length:Int)*1≤70368744177664)=true:=by simp;omega
   rw [h3,cond_false,cond_true]
   -- one task's kids
   have inner:∀ (x:Int×List Int) (hx:x ∈ t) (i:Nat) (hi:i<t.length) (o:Int→List Bool→Option Bool) (R:List (Int×Int)) (n0:Nat)
     (ho:∀ had:Vv t.length,o ((i+1:Nat):Int) had.1=some (Ue (fU t.length) R had).1),
     ∀ r j n (had:Vv t.length),x.2.drop j=r→r.length<n →
      dh k t o n x.2 (x.2.length:Int) (j:Int) had.1 (i:Int)=some (Ue (fU t.length) (r.map (fun q=>(q,(i:Int)))++R) had).1:=by
    intro x hx i hi o R n0 ho r
    have hxl:=ht.kids x hx
    induction r with
    | nil=>
     intro j n had hr hn
     obtain ⟨n,rfl⟩:=fF hn
     have hj:=cC hr
     rw [dh,ltF (by omega),cond_false,eQ (by omega),ho]
     rfl
    | cons q r ih=>
     intro j n had hr hn
     obtain ⟨n,rfl⟩:=fF hn
     obtain ⟨a,b,c,d,e⟩:=bO hr
     have hb:=had.2
     rw [dh,ltN a,cond_true,dS b,af,List.map_cons,List.cons_append,Ue]
     by_cases h1:q≤(i:Int)
     ·rw [leT h1,cond_true]
      simp [fU,uD,leT h1]
     ·rw [leF (show (i:Int)<q by omega),cond_false]
      by_cases h2:(t.length:Int)≤q
      ·rw [leT h2,cond_true]
       simp [fU,uD,leT h2]
      ·rw [leF (show q<(t.length:Int) by omega),cond_false]
       have h5:decide ((0:Int)≤q∧q.toNat<t.length)=true:=by simp;omega
       have h3:q.toNat<had.1.length:=by rw [hb];omega
       have h4:had.1[q.toNat]? = some had.1[q.toNat]:=List.getElem?_eq_getElem h3
       rw [h5,cond_true,h4,af,cond_true,af,eQ (by omega)]
       cases hh:had.1[q.toNat] with
       | true=>simp [fU,uD,leF (show (i:Int)<q by omega),leF (show q<(t.length:Int) by omega),h4,hh]
       | false=>
        rw [cond_false]
        have e1:fU t.length had (q,(i:Int))=(true,⟨had.1.set q.toNat true,by simp [had.2]⟩):=by
         simp [fU,uD,leF (show (i:Int)<q by omega),leF (show q<(t.length:Int) by omega),h4,hh]
        rw [e1]
        simp only [if_true]
        exact ih (j+1) n ⟨had.1.set q.toNat true,by simp [had.2]⟩ c (by simp only [List.length_cons] at hn;omega)
   have outer:∀ r i n (had:Vv t.length),t.drop i=r→i≤t.length→r.length<n→cq k t n (i:Int) had.1=some (Ue (fU t.length) (mE i r) had).1:=by
    intro r
    induction r with
    | nil=>
     intro i n had hr hi hn
     obtain ⟨n,rfl⟩:=fF hn
     have:=cC hr
     rw [cq,ltF (by omega),cond_false]
     rfl
    | cons x r ih=>
     intro i n had hr hi hn
     obtain ⟨n,rfl⟩:=fF hn
     obtain ⟨a,b,c,d,e⟩:=bO hr
     have hxl:=ht.kids x d
     rw [cq,ltN a,cond_true,dS b,af,mE]
     have:=inner x d i a (fun s47 s56=>cq k t n s47 s56) (mE (i+1) r) n (fun had=>ih (i+1) n had c (by omega) (by simp only [List.length_cons] at hn;omega)) x.2 0 (k+17) had rfl (by omega)
     simpa using this
   have:=outer t 0 (k+17) (GJ t.length) rfl (Nat.zero_le _) (by omega)
   simpa [GJ] using this
 ·rw [akq (by omega),cond_true,decide_eq_false h1]
  rfl
end
end Go.Ab
set_option linter.unusedVariables false
namespace Go.Ab
theorem CS (z:Int):IntKind.u64.wrap z=z%18446744073709551616:=by simp [IntKind.wrap,IntKind.bits,IntKind.signed]
theorem I1 {c:CF} {x:Int} (h0:0≤x) (h1:x≤18446744073709551615):ik c x=some (BN c x):=by
 unfold ik BN
 simp only [Prod.eta,gi,af]
 cases hm:gC c with
 | false=>rfl
 | true=>
  have hc:=bT hm
  have hi:IntKind.u64.wrap c.2.2.1=c.2.2.1:=kO (by omega) (by omega)
  have h3:=Int.emod_lt_of_pos x (show 0<c.2.2.1 by omega)
  have h4:=Int.emod_nonneg x (show c.2.2.1≠0 by omega)
  have e1:IntKind.i64.wrap (c.1 - 1)=c.1 - 1:=by rw [IntKind.wrap_i64];omega
  rw [Bool.not_true,cond_false,WM,af,e1,decide_eq_true (by omega),Bool.not_true,cond_false,hi,Cu,decide_eq_false (by omega),Bool.not_false,cond_true,if_pos rfl,Int.tmod_eq_emod_of_nonneg h0]
  have e2:IntKind.i64.wrap (x%c.2.2.1)=x%c.2.2.1:=by rw [IntKind.wrap_i64];omega
  rw [e2,IntKind.wrap_i64]
  congr 1
  omega
theorem Um {c:CF} {x:Int} (h0:0≤x) (h1:x≤18446744073709551615):ly c x=some (WQ c x):=by
 unfold ly WQ
 simp only [Prod.eta,gi,af]
 cases hm:gC c with
 | false=>rfl
 | true=>
  have hc:=bT hm
  have hi:IntKind.u64.wrap c.2.2.1=c.2.2.1:=kO (by omega) (by omega)
  have h3:=Int.emod_lt_of_pos x (show 0<c.2.2.1 by omega)
  have h4:=Int.emod_nonneg x (show c.2.2.1≠0 by omega)
  have e1:IntKind.i64.wrap (c.1 - 1)=c.1 - 1:=by rw [IntKind.wrap_i64];omega
  rw [Bool.not_true,cond_false,WM,af,e1,decide_eq_true (by omega),Bool.not_true,cond_false,hi,Cu,decide_eq_false (by omega),Bool.not_false,cond_true,if_pos rfl,Int.tmod_eq_emod_of_nonneg h0]
  have e2:IntKind.i64.wrap (x%c.2.2.1)=x%c.2.2.1:=by rw [IntKind.wrap_i64];omega
  have e3:IntKind.i64.wrap (6+c.2.2.1)=6+c.2.2.1:=by rw [IntKind.wrap_i64];omega
  rw [e2,e3,IntKind.wrap_i64]
  congr 1
  omega
theorem Ny {c:CF} {x:Int} (hm:gC c=true) (h0:0≤x) (h1:x≤18446744073709551615):IntKind.u64.wrap (IntKind.u64.wrap (x.tdiv (IntKind.u64.wrap c.2.2.1))*2)=Dj c x:=by
 have hc:=bT hm
 have hi:IntKind.u64.wrap c.2.2.1=c.2.2.1:=kO (by omega) (by omega)
 have h3:0≤x/c.2.2.1:=Int.ediv_nonneg h0 (by omega)
 have h4:x/c.2.2.1≤x:=Int.ediv_le_self _ h0
 rw [hi,Int.tdiv_eq_ediv_of_nonneg h0,kO h3 (by omega),CS]
 rfl
theorem uK (a b:Int):IntKind.u64.wrap (a+b)=ol a b:=by rw [CS];rfl
theorem gk (a b:Int):0≤ol a b∧ol a b≤18446744073709551615:=by unfold ol;omega
theorem ne0 {c:CF} (hm:gC c=true):(IntKind.u64.wrap c.2.2.1 !=0)=true:=by
 have hc:=bT hm
 rw [kO (by omega) (by omega),Cu,decide_eq_false (by omega)]
 rfl
theorem TW {c:CF} {x:Int} (hm:gC c=true) (h0:0≤x) (h1:x≤18446744073709551615):i6 c x=some (Dp c x):=by
 unfold i6 Dp
 rw [ne0 hm,cond_true,Ny hm h0 h1,uK]
theorem Mz (a b:Int):ft a b=some (I7 a b):=rfl
theorem Li (c:CF) (m:List Int) (f:FR) (op:Int):iW c m f op=some (rM c m f op):=by
 unfold iW m8 rM
 simp only [Prod.eta,gi,Bi,lG,af]
 cases hm:gC c with
 | false=>rfl
 | true=>
  rw [cond_true,af,ms,Bool.true_and]
  by_cases h1:(m.length:Int)=dr c
  ·rw [decide_eq_true h1,cond_true,Bool.true_and]
   unfold go
   rw [Cu,Bool.not_not,ms]
   by_cases h2:f.2.2.2.2.2.2=0
   ·rw [decide_eq_true h2,cond_true]
    by_cases h3:f.1=op
    ·rw [decide_eq_true h3,cond_true]
     by_cases h4:0≤f.2.1
     ·rw [leT h4,cond_true]
      congr 1
      simp [h2,h3,h4]
     ·rw [leF (by omega),cond_false]
      simp [h4]
    ·rw [decide_eq_false h3,cond_false]
     simp [h3]
   ·rw [decide_eq_false h2,cond_false]
    simp [h2]
  ·rw [decide_eq_false h1,cond_false]
   rfl
theorem IF {c:CF} {m:List Int} {f:FR} {op:Int} (h:rM c m f op=true):gC c=true∧(m.length:Int)=dr c∧f.2.2.2.2.2.2=0∧f.1=op∧0≤f.2.1∧f.2.1<5:=by
 unfold rM at h
 rw [Bool.and_eq_true,Bool.and_eq_true,decide_eq_true_eq,decide_eq_true_eq] at h
 exact ⟨h.1.1,h.1.2,h.2⟩
theorem NO (c:CF) {m:List Int} (hm:Wm m) (hl:m.length≤1000) {f:FR} (hf:Wf f):lk c m f=some (TQ c m f):=by
 unfold lk TQ
 try simp only [Prod.eta]
 rw [bF (by omega),af,Li,af]
 cases h:rM c m f 3 with
 | false=>rfl
 | true=>
  obtain ⟨hmay,_,h6,h0,h1,h1'⟩:=IF h
  rw [Bool.not_true,cond_false,if_neg (by simp)]
  obtain ⟨a0,a1,a2,a3,a4,a5,a6⟩:=f
  simp only at h6 h0 h1 h1' ⊢
  have e:decide (0≤a1∧a1.toNat<5)=true:=by rw [decide_eq_true_eq];omega
  rw [e,cond_true]
  obtain ⟨w3,w4,w5⟩:=hf
  simp only at w3 w4 w5
  rcases (show a1=0∨a1=1∨a1=2∨a1=3∨a1=4 by omega) with rfl | rfl | rfl | rfl | rfl
  ·simp [eB,af]
  ·simp only [I1 w4.1 w4.2,eB,af,ne0 hmay,Ny hmay w4.1 w4.2,Mz,iM,ms,cond_true]
   by_cases h5:aO m (BN c a4)=Dj c a4
   ·simp [h5]
   ·by_cases h7:I7 (aO m (BN c a4)) (Dj c a4)<0
    ·simp [h5,h7,eT]
    ·simp [h5,h7]
  ·simp only [uK,G3 hl,af]
   cases hc:(Au m 5 a4 (ol a4 1)).2 <;> simp [hc]
  ·simp only [Um w4.1 w4.2,kz hl,af]
   simp
  ·simp only [I1 w4.1 w4.2,ne0 hmay,Ny hmay w4.1 w4.2,uK,kz hl,af,iM,cond_true]
   simp [eT]
theorem NH (c:CF) {m:List Int} (hm:Wm m) (hl:m.length≤1000) {f:FR} (hf:Wf f):li c m f=some (Tn c m f):=by
 unfold li Tn
 try simp only [Prod.eta]
 rw [bF (by omega),af,Li,af]
 cases h:rM c m f 4 with
 | false=>rfl
 | true=>
  obtain ⟨hmay,_,h6,h0,h1,h1'⟩:=IF h
  rw [Bool.not_true,cond_false,if_neg (by simp)]
  obtain ⟨a0,a1,a2,a3,a4,a5,a6⟩:=f
  simp only at h6 h0 h1 h1' ⊢
  obtain ⟨w3,w4,w5⟩:=hf
  simp only at w3 w4 w5
  rcases (show a1=0∨a1=1∨a1=2∨a1=3∨a1=4 by omega) with rfl | rfl | rfl | rfl | rfl
  ·simp [eB,af]
  ·simp only [I1 w4.1 w4.2,eB,af,TW hmay w4.1 w4.2,Mz,iM,ms]
   by_cases h5:I7 (aO m (BN c a4)) (Dp c a4)=0
   ·simp [h5]
   ·by_cases h7:I7 (aO m (BN c a4)) (Dp c a4)<0
    ·simp [h5,h7,eT]
    ·simp [h5,h7]
  ·simp only [uK,G3 hl,af]
   cases hc:(Au m 4 a4 (ol a4 1)).2 <;> simp [hc]
  ·simp only [Um w4.1 w4.2,eB,af]
   simp
  ·simp only [I1 w4.1 w4.2,TW hmay w4.1 w4.2,uK,kz hl,af,iM]
   simp [eT]
theorem Dx (c:CF) {m:List Int} (hm:Wm m) (hl:m.length≤1000) {f:FR} (hf:Wf f):bB c m f=some (DV c m f):=by
 unfold bB DV
 simp only [Prod.eta,NO c hm hl hf,NH c hm hl hf,af,ms]
 by_cases h3:f.1=3
 ·simp [h3]
 ·by_cases h4:f.1=4
  ·simp [h4]
  ·simp [h3,h4,bF (b:=8) (l:=m) (by omega),af]
theorem Ez {k:Nat} (hk:1000≤k) (c:CF) {m:List Int} (hm:Wm m) (hl:m.length≤1000) {f:FR} (hf:Wf f):cz k c m f=some (JR c m f):=by
 unfold cz JR
 simp only [Prod.eta,W7 c hm hl hf,YE hk c hm hl hf,af,ms]
 by_cases h5:f.1=5
 ·rw [decide_eq_true h5,cond_true,if_pos h5]
 ·rw [decide_eq_false h5,cond_false,if_neg h5]
  by_cases h6:f.1=6
  ·rw [decide_eq_true h6,cond_true,cond_true,if_pos (.inl h6)]
  ·rw [decide_eq_false h6,cond_false]
   by_cases h7:f.1=7
   ·rw [decide_eq_true h7,cond_true,if_pos (.inr h7)]
   ·rw [decide_eq_false h7,cond_false,if_neg (by omega),bF (by omega),af]
theorem adK {m:List Int} (hl:m.length≤1000) (i v:Int):du m i v=some (if 0≤i∧i<m.length then (bW m i (ol (aO m i) v),aO m i) else (m,0)):=by
 unfold du
 rw [bF (by omega),af,aev,af]
 by_cases h:0≤i∧i<m.length
 ·have hd:decide (0≤i∧i.toNat<m.length)=true:=decide_eq_true (by omega)
  rw [decide_eq_true h,Bool.not_true,cond_false,(mj h).1,af,hd,cond_true,(mj h).2,af,af,if_pos h,uK]
  unfold bW
  rw [if_pos h.1]
 ·rw [decide_eq_false h,Bool.not_false,cond_true,if_neg h]
theorem TP {k:Nat} (hk:9223372036854775808≤k) (c:CF) {t:Tyt} (ht:Wt t) (m:List Int) (x:SB):fg k c t m x=some (r7 c t m x):=by
 unfold fg r7
 simp only [Prod.eta,gi,Bi,af]
 rw [KD (k+4) (by omega) t ht]
 cases hm:gC c with
 | false=>rfl
 | true=>
  rw [cond_true,ms,Bool.true_and]
  by_cases h1:(m.length:Int)=dr c
  ·rw [decide_eq_true h1,cond_true,Bool.true_and,af]
   cases ht2:wM t with
   | false=>rfl
   | true=>
    rw [cond_true,Bool.true_and]
    by_cases h2:0≤x.1
    ·rw [leT h2,cond_true]
     by_cases h3:x.1<6
     ·rw [ltT h3,cond_true]
      cases hl:x.2.1 with
      | nil=>simp
      | cons r rest=>
       have h0:idx (r::rest) 0=some r:=rfl
       rw [ltT (by simp),cond_true,h0,af,af]
       by_cases h4:0≤r
       ·rw [leT h4,cond_true]
        congr 1
        simp [h2,h3,uX,h4]
       ·rw [leF (by omega),cond_false]
        simp [uX,h4]
     ·rw [ltF (by omega),cond_false]
      simp [h3]
    ·rw [leF (by omega),cond_false]
     simp [h2]
  ·rw [decide_eq_false h1,cond_false]
   rfl
theorem GD {c:CF} {t:Tyt} {m:List Int} {x:SB} (h:r7 c t m x=true):gC c=true∧(m.length:Int)=dr c∧wM t=true∧0≤x.1∧x.1<6∧∃ r rest,x.2.1=r::rest∧0≤r∧r<t.length:=by
 unfold r7 at h
 simp only [Bool.and_eq_true,decide_eq_true_eq] at h
 obtain ⟨⟨⟨h1,h2⟩,h3⟩,h4,h5,h6,h7,h8⟩:=h
 cases hx:x.2.1 with
 | nil=>exact absurd hx h6
 | cons r rest=>
  rw [hx] at h7 h8
  exact ⟨h1,h2,h3,h4,h5,r,rest,rfl,h7,h8⟩
theorem oz {c:CF} (h:gC c=true):12≤dr c∧dr c≤190:=by
 have hm:=bT h
 have:=iA h (w:=c.1) (by omega) (by omega)
 unfold dr
 rw [if_pos h]
 have e:Fs c c.1=6+2*c.2.2.1+c.1*(3+c.2.1):=rfl
 have h3:1*(3+c.2.1)≤c.1*(3+c.2.1):=Int.mul_le_mul_of_nonneg_right (by omega) (by omega)
 omega
theorem WE {k:Nat} (hk:9223372036854775808≤k) (c:CF) {t:Tyt} (ht:Wt t) {m:List Int} (hm:Wm m) (hl:m.length≤1000) (i:Int) {x:SB} (hf:Wf x.2.2) (hr:x.2.1.length≤1000) (ht2:t.length≤1000):fw k c t m i x=some (oo c t m i x):=by
 unfold fw oo
 try simp only [Prod.eta]
 rw [bF (by omega),af,bF (by omega),af,TP (by omega) c ht,af]
 cases hmay:r7 c t m x with
 | false=>rfl
 | true=>
  rw [Bool.not_true,cond_false,if_neg (by simp)]
  obtain ⟨h1,h2,h3,h4,h5,r,rest,hx,h6,h7⟩:=GD hmay
  have hsz:=oz h1
  obtain ⟨pc,roots,F⟩:=x
  simp only at hx h4 h5 hf hr ⊢
  subst hx
  have hi0:idx (r::rest) 0=some r:=rfl
  have hroom:room 1 24=true:=rfl
  have hroom2:room 2 24=true:=rfl
  have hd:decide ((1:Int)≤((r::rest).length:Int))=true:=decide_eq_true (by simp;omega)
  have hdr:List.drop (Int.toNat 1) (r::rest)=rest:=rfl
  have hh:uX (r::rest)=r:=rfl
  have hur:IntKind.u64.wrap r=r:=kO h6 (by omega)
  have htl:(r::rest).tail=rest:=rfl
  rw [hi0,af]
  simp only [Dx c hm hl hf,Ez (k:=k+20) (by omega) c hm hl hf,eB,adK hl,af,lG,XD,hroom,hroom2,hd,hdr,hh,htl,cond_true,hur,ms,Cu]
  have hb:∀ op w v:Int,aM op w v=some (op,0,w,v,0,0,0):=fun _ _ _=>rfl
  simp only [hb,af]
  have hin:(0:Int)≤0∧(0:Int)<m.length:=by omega
  have hcall:mR c m F=if F.1=3∨F.1=4 then DV c m F else JR c m F:=rfl
  rcases (show pc=0∨pc=1∨pc=2∨pc=3∨pc=4∨pc=5 by omega) with rfl | rfl | rfl | rfl | rfl | rfl
  ·by_cases h:aO m 3=0
   ·simp [h]
   ·simp [h,ef]
  ·simp only [if_pos hin]
   simp
  ·by_cases e3:F.1=3
   ·have ec:mR c m F=DV c m F:=by rw [hcall,if_pos (.inl e3)]
    rw [ec]
    cases ho:go (DV c m F).2 with
    | false=>simp [e3,ho]
    | true=>
     by_cases h8:(DV c m F).2.2.2.2.2.2.2=2
     ·simp [e3,ho,h8]
     ·simp [e3,ho,h8]
   ·by_cases e4:F.1=4
    ·have ec:mR c m F=DV c m F:=by rw [hcall,if_pos (.inr e4)]
     rw [ec]
     cases ho:go (DV c m F).2 with
     | false=>simp [e4,ho]
     | true=>
      by_cases h8:(DV c m F).2.2.2.2.2.2.2=2
      ·simp [e4,ho,h8]
      ·simp [e4,ho,h8]
    ·have ec:mR c m F=JR c m F:=by rw [hcall,if_neg (by omega)]
     rw [ec]
     cases ho:go (JR c m F).2 with
     | false=>simp [e3,e4,ho]
     | true=>
      by_cases h8:(JR c m F).2.2.2.2.2.2.2=2
      ·simp [e3,e4,ho,h8]
      ·simp [e3,e4,ho,h8]
  ·by_cases h:aO m 1=0
   ·simp [h]
   ·simp [h,ef]
  ·by_cases e3:F.1=3
   ·have ec:mR c m F=DV c m F:=by rw [hcall,if_pos (.inl e3)]
    rw [ec]
    cases ho:go (DV c m F).2 with
    | false=>simp [e3,ho]
    | true=>simp [e3,ho,ef]
   ·by_cases e4:F.1=4
    ·have ec:mR c m F=DV c m F:=by rw [hcall,if_pos (.inr e4)]
     rw [ec]
     cases ho:go (DV c m F).2 with
     | false=>simp [e4,ho]
     | true=>simp [e4,ho,ef]
    ·have ec:mR c m F=JR c m F:=by rw [hcall,if_neg (by omega)]
     rw [ec]
     cases ho:go (JR c m F).2 with
     | false=>simp [e3,e4,ho]
     | true=>simp [e3,e4,ho,ef]
  ·simp only [if_pos hin]
   by_cases h:aO m 0=1
   ·simp [h,ef,hroom2]
   ·simp [h,ef]
end Go.Ab
set_option linter.unusedVariables false
namespace Go.Ab
def onW (c:CF) (w x:Int):Int:=if gC c=true∧0≤w∧w<c.1 then Fs c w+x else -1
def JK (c:CF) (w:Int):Int:=onW c w 0
def KP (c:CF) (w:Int):Int:=onW c w 1
def AC (c:CF) (w x:Int):Int:=onW c w (3+wa .u64 x (c.2.1 - 1))
def X6 (a b:Int):Int:=(a - b)%18446744073709551616
def EH (c:CF) (m:List Int) (f:FR):List Int×FR:=
 if og c m f 0 4=false then (m,f)
 else if f.2.1=0 then (m,f.1,1,f.2.2.1,f.2.2.2.1,aO m (KP c f.2.2.1),f.2.2.2.2.2)
 else if f.2.1=1 then (if c.2.1≤X6 f.2.2.2.2.1 (aO m (JK c f.2.2.1)) then (m,eT f 2 f.2.2.2.1) else (m,f.1,2,f.2.2.1,f.2.2.2.1,f.2.2.2.2.1,aO m (JK c f.2.2.1),f.2.2.2.2.2.2))
 else if f.2.1=2 then (bW m (AC c f.2.2.1 f.2.2.2.2.1) f.2.2.2.1,f.1,3,f.2.2)
 else (bW m (KP c f.2.2.1) (ol f.2.2.2.2.1 1),eT f 1 f.2.2.2.1)
def TX (c:CF) (m:List Int) (f:FR):List Int×FR:=
 if og c m f 1 7=false then (m,f)
 else if f.2.1=0 then (m,f.1,1,f.2.2.1,f.2.2.2.1,X6 (aO m (KP c f.2.2.1)) 1,f.2.2.2.2.2)
 else if f.2.1=1 then (bW m (KP c f.2.2.1) f.2.2.2.2.1,f.1,2,f.2.2)
 else if f.2.1=2 then (m,f.1,if I7 f.2.2.2.2.1 (aO m (JK c f.2.2.1))<0 then 6 else 3,f.2.2.1,f.2.2.2.1,f.2.2.2.2.1,aO m (JK c f.2.2.1),f.2.2.2.2.2.2)
 else if f.2.1=3 then (if f.2.2.2.2.1≠f.2.2.2.2.2.1 then (m,eT f 1 (aO m (AC c f.2.2.1 f.2.2.2.2.1))) else (m,f.1,4,f.2.2.1,aO m (AC c f.2.2.1 f.2.2.2.2.1),f.2.2.2.2))
 else if f.2.1=4 then (let r:=Au m (JK c f.2.2.1) f.2.2.2.2.2.1 (ol f.2.2.2.2.2.1 1);(r.1,f.1,if r.2=true then 5 else 6,f.2.2))
 else if f.2.1=5 then (bW m (KP c f.2.2.1) (ol f.2.2.2.2.1 1),eT f 1 f.2.2.2.1)
 else (bW m (KP c f.2.2.1) (ol f.2.2.2.2.1 1),eT f 3 0)
def rJ (c:CF) (m:List Int) (f:FR):List Int×FR:=
 if og c m f 2 4=false then (m,f)
 else if f.2.1=0 then (m,f.1,1,f.2.2.1,f.2.2.2.1,f.2.2.2.2.1,aO m (JK c f.2.2.1),f.2.2.2.2.2.2)
 else if f.2.1=1 then (if I7 (aO m (KP c f.2.2.1)) f.2.2.2.2.2.1≤0 then (m,eT f 3 0) else (m,f.1,2,f.2.2.1,f.2.2.2.1,aO m (KP c f.2.2.1),f.2.2.2.2.2))
 else if f.2.1=2 then (m,f.1,3,f.2.2.1,aO m (AC c f.2.2.1 f.2.2.2.2.2.1),f.2.2.2.2)
 else (let r:=Au m (JK c f.2.2.1) f.2.2.2.2.2.1 (ol f.2.2.2.2.2.1 1);if r.2=true then (r.1,eT f 1 f.2.2.2.1) else (r.1,eT f 4 0))
def Ko (c:CF) (m:List Int) (f:FR):List Int×FR:=if f.1=0 then EH c m f else if f.1=1 then TX c m f else if f.1=2 then rJ c m f else (m,f)
def gY (c:CF) (m:List Int) (f:FR):List Int×FR:=if f.1=0∨f.1=1∨f.1=2 then Ko c m f else mR c m f
theorem acp (a b:Int):IntKind.u64.wrap (a - b)=X6 a b:=by rw [CS];rfl
theorem Py (a b:Int):0≤X6 a b∧X6 a b≤18446744073709551615:=by unfold X6;omega
theorem GL {x D:Int} (h0:0≤x) (h1:x≤18446744073709551615) (hD:1≤D) (hE:D≤16):0≤wa .u64 x (D - 1)∧wa .u64 x (D - 1)≤D - 1:=by
 obtain ⟨a,rfl⟩:=Int.eq_ofNat_of_zero_le h0
 obtain ⟨b,hb⟩:∃ b:Nat,D - 1=(b:Int):=⟨(D - 1).toNat,by omega⟩
 rw [hb,aex (by omega) (by omega)]
 have:=Nat.and_le_right (n:=a) (m:=b)
 omega
theorem Qf (c:CF) (w:Int):ii c w=some (JK c w):=by
 unfold ii JK onW
 try simp only [Prod.eta]
 rw [gi,af]
 cases h:gC c with
 | false=>simp
 | true=>
  have hm:=bT h
  rw [Bool.not_true,cond_false,eR (by omega),WM,af]
  by_cases h1:0≤w∧w≤c.1 - 1
  ·have ht:=iA h h1.1 (by omega)
   rw [decide_eq_true h1,Bool.not_true,cond_false,E3 h (by omega) (by omega),af,if_pos ⟨rfl,by omega,by omega⟩,Int.add_zero]
  ·rw [decide_eq_false h1,Bool.not_false,cond_true,if_neg (by omega)]
theorem LT (c:CF) (w:Int):dy c w=some (KP c w):=by
 unfold dy KP onW
 try simp only [Prod.eta]
 rw [gi,af]
 cases h:gC c with
 | false=>simp
 | true=>
  have hm:=bT h
  rw [Bool.not_true,cond_false,eR (by omega),WM,af]
  by_cases h1:0≤w∧w≤c.1 - 1
  ·have ht:=iA h h1.1 (by omega)
   rw [decide_eq_true h1,Bool.not_true,cond_false,E3 h (by omega) (by omega),af,eR (by omega),if_pos ⟨rfl,by omega,by omega⟩]
  ·rw [decide_eq_false h1,Bool.not_false,cond_true,if_neg (by omega)]
theorem NU (c:CF) (w:Int) {x:Int} (h0:0≤x) (hx:x≤18446744073709551615):gf c w x=some (AC c w x):=by
 unfold gf AC onW
 try simp only [Prod.eta]
 rw [gi,af]
 cases h:gC c with
 | false=>simp
 | true=>
  have hm:=bT h
  rw [Bool.not_true,cond_false,eR (z:=c.1 - 1) (by omega),WM,af]
  by_cases h1:0≤w∧w≤c.1 - 1
  ·have ht:=iA h h1.1 (by omega)
   have ha:=GL h0 hx (show 1≤c.2.1 by omega) (by omega)
   rw [decide_eq_true h1,Bool.not_true,cond_false,E3 h (by omega) (by omega),af,if_pos ⟨rfl,by omega,by omega⟩,eR (z:=c.2.1 - 1) (by omega),kO (z:=c.2.1 - 1) (by omega) (by omega),eR (z:=wa .u64 x (c.2.1 - 1)) (by omega),eR (z:=Fs c w+3) (by omega),eR (by omega),Int.add_assoc]
  ·rw [decide_eq_false h1,Bool.not_false,cond_true,if_neg (by omega)]
section
variable (k:Nat) (c:CF) (m:List Int) (a2 a3 a4 a5:Int) (n:Nat) {x:List Int} (p q:Int)
theorem abq:ar k c m (2,1,a2,a3,a4,a5,0) (n+1) x p q 0=ar k c m (2,1,a2,a3,a4,a5,0) n x p q 1:=by
 rw [ar]
 rfl
theorem ZX:ar k c m (2,2,a2,a3,a4,a5,0) (n+1) x p q 0=ar k c m (2,2,a2,a3,a4,a5,0) n x p q 1:=by
 rw [ar]
 rfl
theorem abR:ar k c m (2,2,a2,a3,a4,a5,0) (n+1) x p q 1=ar k c m (2,2,a2,a3,a4,a5,0) n x p q 2:=by
 rw [ar]
 rfl
theorem Zt:ar k c m (2,3,a2,a3,a4,a5,0) (n+1) x p q 0=ar k c m (2,3,a2,a3,a4,a5,0) n x p q 1:=by
 rw [ar]
 rfl
theorem abX:ar k c m (2,3,a2,a3,a4,a5,0) (n+1) x p q 1=ar k c m (2,3,a2,a3,a4,a5,0) n x p q 2:=by
 rw [ar]
 rfl
theorem ac7:ar k c m (2,3,a2,a3,a4,a5,0) (n+1) x p q 2=ar k c m (2,3,a2,a3,a4,a5,0) n x p q 3:=by
 rw [ar]
 rfl
theorem adF:ar k c m (2,0,a2,a3,a4,a5,0) (n+1) x p q 0=some (x,(2,1,a2,a3,a4,aO x p,0)):=by
 have e:ar k c m (2,0,a2,a3,a4,a5,0) (n+1) x p q 0=ob (aL x p) fun r=>some (x,(2,1,a2,a3,a4,r,0)):=by
  rw [ar]
  rfl
 rw [e,eB,af]
theorem ad2:ar k c m (2,1,a2,a3,a4,a5,0) (n+1) x p q 1=some (if I7 (aO x q) a5≤0 then (x,(2,0,a2,0,0,0,3)) else (x,(2,2,a2,a3,aO x q,a5,0))):=by
 have e:ar k c m (2,1,a2,a3,a4,a5,0) (n+1) x p q 1=ob (aL x q) fun r=>ob (ft r a5) fun y=>bif decide (y≤0) then some (x,(2,0,a2,0,0,0,3)) else some (x,(2,2,a2,a3,r,a5,0)):=by
  rw [ar]
  rfl
 rw [e,eB,af,Mz,af]
 by_cases h:I7 (aO x q) a5≤0
 ·rw [leT h,cond_true,if_pos h]
 ·rw [leF (by omega),cond_false,if_neg h]
theorem abu (h0:0≤a5) (h1:a5≤18446744073709551615):ar k c m (2,2,a2,a3,a4,a5,0) (n+1) x p q 2=some (x,(2,3,a2,aO x (AC c a2 a5),a4,a5,0)):=by
 have e:ar k c m (2,2,a2,a3,a4,a5,0) (n+1) x p q 2=ob (gf c a2 a5) fun s=>ob (aL x s) fun r=>some (x,(2,3,a2,r,a4,a5,0)):=by
  rw [ar]
  rfl
 rw [e,NU c a2 h0 h1,af,eB,af]
theorem ad9 (hl:x.length≤1000):ar k c m (2,3,a2,a3,a4,a5,0) (n+1) x p q 3=some (if (Au x p a5 (ol a5 1)).2=true then ((Au x p a5 (ol a5 1)).1,(2,0,a2,a3,0,0,1)) else ((Au x p a5 (ol a5 1)).1,(2,0,a2,0,0,0,4))):=by
 have e:ar k c m (2,3,a2,a3,a4,a5,0) (n+1) x p q 3=ob (dv x p a5 (IntKind.u64.wrap (a5+1))) fun r=>bif r.2 then some (r.1,(2,0,a2,a3,0,0,1)) else some (r.1,(2,0,a2,0,0,0,4)):=by
  rw [ar]
  rfl
 rw [e,uK,G3 hl,af]
 cases (Au x p a5 (ol a5 1)).2 <;> rfl
end
section
variable (c:CF) {m:List Int} (hm:Wm m) (hl:m.length≤1000) {f:FR} (hf:Wf f)
include hm hl hf
theorem Km:kx c m f=some (EH c m f):=by
 have _h:=hm
 unfold kx EH
 try simp only [Prod.eta]
 rw [bF (by omega),af,HM,af]
 cases h:og c m f 0 4 with
 | false=>rfl
 | true=>
  obtain ⟨hmay,_,h6,h2,h2',h0,h1,h1'⟩:=Ch h
  have hc:=bT hmay
  rw [cond_true,if_neg (by simp)]
  obtain ⟨a0,a1,a2,a3,a4,a5,a6⟩:=f
  simp only at h6 h2 h2' h0 h1 h1' ⊢
  obtain ⟨w3,w4,w5⟩:=hf
  simp only at w3 w4 w5
  rcases (show a1=0∨a1=1∨a1=2∨a1=3 by omega) with rfl | rfl | rfl | rfl
  ·simp [LT,eB,af]
  ·simp only [Qf,eB,af,iM,acp,kO (z:=c.2.1) (by omega) (by omega)]
   by_cases h5:c.2.1≤X6 a4 (aO m (JK c a2))
   ·simp [h5,eT]
   ·simp [h5]
  ·simp only [NU c a2 w4.1 w4.2,kz hl,af]
   simp
  ·simp only [LT,kz hl,af,iM,uK]
   simp [eT]
theorem N0:lO c m f=some (TX c m f):=by
 have _h:=hm
 unfold lO TX
 try simp only [Prod.eta]
 rw [bF (by omega),af,HM,af]
 cases h:og c m f 1 7 with
 | false=>rfl
 | true=>
  obtain ⟨hmay,_,h6,h2,h2',h0,h1,h1'⟩:=Ch h
  rw [Bool.not_true,cond_false,if_neg (by simp)]
  obtain ⟨a0,a1,a2,a3,a4,a5,a6⟩:=f
  simp only at h6 h2 h2' h0 h1 h1' ⊢
  obtain ⟨w3,w4,w5⟩:=hf
  simp only at w3 w4 w5
  rw [Qf,af,LT,af]
  have hw:∀ z:Int,0≤z→z≤100→IntKind.i64.wrap (z+1)=z+1:=fun z _ _=>eR (by omega)
  rcases (show a1=0∨a1=1∨a1=2∨a1=3∨a1=4∨a1=5∨a1=6 by omega) with rfl | rfl | rfl | rfl | rfl | rfl | rfl
  ·rw [hw 0 (by decide) (by decide)]
   simp [eB,af,acp]
  ·rw [hw 1 (by decide) (by decide)]
   simp [kz hl,af]
  ·rw [hw 2 (by decide) (by decide)]
   simp only [eB,af,Mz]
   by_cases h5:I7 a4 (aO m (JK c a2))<0
   ·simp [h5]
   ·simp [h5]
  ·rw [hw 3 (by decide) (by decide)]
   simp only [NU c a2 w4.1 w4.2,eB,af,iM,Cu]
   by_cases h5:a4=a5
   ·simp [h5]
   ·simp [h5,eT]
  ·rw [hw 4 (by decide) (by decide)]
   simp only [uK,G3 hl,af]
   cases hc:(Au m (JK c a2) a5 (ol a5 1)).2 <;> simp [hc]
  ·simp only [uK,kz hl,af,iM]
   simp [eT]
  ·simp only [uK,kz hl,af,iM]
   simp [eT]
theorem He (k:Nat):ic k c m f=some (rJ c m f):=by
 have _h:=hm
 unfold ic rJ
 try simp only [Prod.eta]
 rw [bF (by omega),af,HM,af]
 cases h:og c m f 2 4 with
 | false=>rfl
 | true=>
  obtain ⟨hmay,_,h6,h2,h2',h0,h1,h1'⟩:=Ch h
  rw [Bool.not_true,cond_false,if_neg (by simp)]
  obtain ⟨a0,a1,a2,a3,a4,a5,a6⟩:=f
  simp only at h6 h2 h2' h0 h1 h1' ⊢
  obtain ⟨w3,w4,w5⟩:=hf
  simp only at w3 w4 w5
  subst h6
  subst h0
  rw [Qf,af,LT,af]
  rcases (show a1=0∨a1=1∨a1=2∨a1=3 by omega) with rfl | rfl | rfl | rfl
  ·rw [if_pos rfl]
   exact adF k c m a2 a3 a4 a5 (k+22) _ _
  ·rw [if_neg (by decide),if_pos rfl]
   exact (abq k c m a2 a3 a4 a5 (k+22) _ _).trans (ad2 k c m a2 a3 a4 a5 (k+21) _ _)
  ·rw [if_neg (by decide),if_neg (by decide),if_pos rfl]
   exact (ZX k c m a2 a3 a4 a5 (k+22) _ _).trans ((abR k c m a2 a3 a4 a5 (k+21) _ _).trans (abu k c m a2 a3 a4 a5 (k+20) _ _ w5.1 w5.2))
  ·rw [if_neg (by decide),if_neg (by decide),if_neg (by decide)]
   exact (Zt k c m a2 a3 a4 a5 (k+22) _ _).trans ((abX k c m a2 a3 a4 a5 (k+21) _ _).trans ((ac7 k c m a2 a3 a4 a5 (k+20) _ _).trans (ad9 k c m a2 a3 a4 a5 (k+19) _ _ hl)))
theorem Jp (k:Nat):ff k c m f=some (Ko c m f):=by
 unfold ff Ko
 simp only [Prod.eta,Km c hm hl hf,N0 c hm hl hf,He c hm hl hf,af,ms]
 by_cases h0:f.1=0
 ·simp [h0]
 ·by_cases h1:f.1=1
  ·simp [h1]
  ·by_cases h2:f.1=2
   ·simp [h2]
   ·simp [h0,h1,h2,bF (b:=8) (l:=m) (by omega),af]
end
end Go.Ab
set_option maxRecDepth 100000
set_option linter.unusedVariables false
namespace Go.Ab
structure FwT (t:Tyt):Prop where
 len:t.length≤40
 kids:∀ x ∈ t,x.2.length≤40
theorem aag {t:Tyt} (h:aaM t=true):FwT t:=by
 simp only [aaM,Bool.and_eq_true,decide_eq_true_eq,List.all_eq_true] at h
 refine ⟨h.2,fun x hx=>h.1 x ?_⟩
 rwa [List.take_of_length_le (by omega)]
theorem FwT.wt {t:Tyt} (h:FwT t):Wt t:=⟨by have:=h.len;omega,fun x hx=>by have:=h.kids x hx;omega⟩
def om (t:Tyt) (q:Int):Int×List Int:=(t[q.toNat]?).getD (0,[])
def Et (t:Tyt) (x:Int×Int×Int):Bool:=
 decide (0≤x.1)&&decide (x.1<t.length)&&(decide (0≤x.2.1)&&decide (x.2.1≤(om t x.1).1))&&(decide (0≤x.2.2)&&decide (x.2.2≤((om t x.1).2.length:Int))) &&
  !(decide (x.2.1<(om t x.1).1)&&decide (0<x.2.2))
def dt (t:Tyt) (s:Tye):Bool:=wM t&&s.all (Et t)
theorem Mf {t:Tyt} {q:Int} (h0:0≤q) (h1:q<t.length):idx t q=some (om t q):=by
 rw [idx,if_pos h0,om,List.getElem?_eq_getElem (by omega)]
 rfl
theorem BY {t:Tyt} {q:Int} (h0:0≤q) (h1:q<t.length):om t q ∈ t:=by
 rw [om,List.getElem?_eq_getElem (show q.toNat<t.length by omega)]
 exact List.getElem_mem _
theorem Nq {α:Type} (b:Nat) (l:List α) (h:l.length*b≤70368744177664):aQ b l=some l:=by
 unfold aQ
 rw [ajk,decide_eq_true h,bA]
theorem acm (x y:Int×Int×Int):(x.1==y.1&&(x.2.1==y.2.1&&x.2.2==y.2.2))=decide (x=y):=by
 obtain ⟨a,b,c⟩:=x
 obtain ⟨d,e,f⟩:=y
 by_cases h1:a=d <;> by_cases h2:b=e <;> by_cases h3:c=f <;> simp [h1,h2,h3]
theorem acw (a b:Int):f8 a b=some (decide (0≤a)&&decide (a≤b)):=by
 rw [f8]
 cases decide ((0:Int)≤a) <;> rfl
section
variable (k:Nat) (hk:9223372036854775808≤k)
include hk
theorem N5 (t:Tyt) (ht:Wt t) (s:Tye) (hs:s.length≤9223372036854775807):fX k t s=some (dt t s):=by
 have hlen:=ht.len
 rw [fX,KD k hk t ht,af,dt]
 cases hm:wM t with
 | false=>rfl
 | true=>
  have h30:=K2 hm
  rw [cond_true,Ha (F:=fun n i=>bZ k n s (s.length:Int) t i) (l:=s) (fun x => !Et t x) ?_ ?_ _ (by omega),af,nH]
  ·rw [List.all_eq_not_any_not,Bool.true_and]
  ·intro n
   simp only [bZ,oU,cond_false]
  ·intro n i x hi hx
   simp only [bZ,ltN hi,cond_true,dS hx,af,acw]
   rw [eQ (by omega),eR (z:=(t.length:Int) - 1) (by omega)]
   have e0:decide (x.1≤(t.length:Int) - 1)=decide (x.1<(t.length:Int)):=by
    by_cases h:x.1<(t.length:Int)
    ·rw [decide_eq_true h,decide_eq_true (by omega)]
    ·rw [decide_eq_false h,decide_eq_false (by omega)]
   rw [e0]
   unfold Et
   by_cases h0:0≤x.1
   ·by_cases h1:x.1<(t.length:Int)
    ·rw [leT h0,ltT h1,Mf h0 h1,af]
     simp only [Bool.and_self,Bool.not_true,cond_false,Bool.true_and]
     cases (decide (0≤x.2.1)&&decide (x.2.1≤(om t x.1).1)) with
     | false=>rfl
     | true=>
      cases (decide (0≤x.2.2)&&decide (x.2.2≤((om t x.1).2.length:Int))) with
      | false=>rfl
      | true=>
       cases decide (x.2.1<(om t x.1).1) with
       | false=>rfl
       | true=>cases decide (0<x.2.2) <;> rfl
    ·rw [ltF (show (t.length:Int)≤x.1 by omega)]
     simp
   ·rw [leF (show x.1<0 by omega)]
    simp
end
def Af (t:Tyt) (s:Tye):Int×Int:=
 match s.getLast? with
 | none=>(0,0)
 | some x=>if dt t s=false then (0,0) else if x.2.1<(om t x.1).1 then (1,x.1) else if x.2.2<((om t x.1).2.length:Int) then (2,((om t x.1).2[x.2.2.toNat]?).getD 0) else (3,x.1)
def doB (t:Tyt) (s:Tye):Tye:=
 match s.getLast? with
 | none=>s
 | some x=>if dt t s=false then s else if x.2.1<(om t x.1).1 then s.dropLast++[(x.1,x.2.1+1,x.2.2)] else if x.2.2<((om t x.1).2.length:Int) then s.dropLast++[(x.1,x.2.1,x.2.2+1)] else s.dropLast
def ou (t:Tyt) (s:Tye) (q:Int):Tye:=
 if dt t s=true∧0≤q∧q<t.length then s++[(q,0,0)] else s
def Mn (t:Tyt) (x:Int×Int×Int):Int:=(om t x.1).1 - x.2.1+((om t x.1).2.length:Int) - x.2.2+1
def Kt (t:Tyt) (s:Tye):Int:=if dt t s=true then (s.map (Mn t)).sum else 0
theorem ng {α:Type} (s:List α):s=[]∨∃ r x,s=r++[x]:=by
 rcases List.eq_nil_or_concat s with h | ⟨r,x,h⟩
 ·exact .inl h
 ·exact .inr ⟨r,x,by rw [h,List.concat_eq_append]⟩
theorem H4 {α:Type} (r:List α) (x:α):(((r++[x]).length:Nat):Int) - 1=(r.length:Int):=by simp
theorem H8 {α:Type} (r:List α) (x:α):(r++[x])[r.length]? = some x:=by simp
theorem O1 {α:Type} (r:List α) (x y:α):(r++[x]).set r.length y=r++[y]:=by simp
theorem Nc {α:Type} (r:List α) (x:α):(r++[x]).take r.length=r:=by simp
theorem Ba (t:Tyt) (r:Tye) (x:Int×Int×Int):Af t (r++[x])=if dt t (r++[x])=false then (0,0) else if x.2.1<(om t x.1).1 then (1,x.1) else if x.2.2<((om t x.1).2.length:Int) then (2,((om t x.1).2[x.2.2.toNat]?).getD 0) else (3,x.1):=by
 simp [Af]
theorem Df (t:Tyt) (r:Tye) (x:Int×Int×Int):doB t (r++[x])=if dt t (r++[x])=false then r++[x] else if x.2.1<(om t x.1).1 then r++[(x.1,x.2.1+1,x.2.2)] else if x.2.2<((om t x.1).2.length:Int) then r++[(x.1,x.2.1,x.2.2+1)] else r:=by
 simp [doB]
theorem U7 (t:Tyt) (s:Tye):(doB t s).length≤s.length:=by
 rcases ng s with rfl | ⟨r,x,rfl⟩
 ·simp [doB]
 ·rw [Df]
  split
  ·exact Nat.le_refl _
  ·split
   ·simp
   ·split <;> simp
theorem Jt (t:Tyt) (s:Tye) (q:Int):(ou t s q).length≤s.length+1:=by
 unfold ou
 split <;> simp
structure It (t:Tyt) (x:Int×Int×Int):Prop where
 h0:0≤x.1
 h1:x.1<t.length
 d0:0≤x.2.1
 d1:x.2.1≤(om t x.1).1
 c0:0≤x.2.2
 c1:x.2.2≤((om t x.1).2.length:Int)
 z:x.2.1<(om t x.1).1→x.2.2=0
theorem UI {t:Tyt} {x:Int×Int×Int}:Et t x=true↔It t x:=by
 simp only [Et,Bool.and_eq_true,decide_eq_true_eq,Bool.not_eq_true',Bool.and_eq_false_iff,decide_eq_false_iff_not]
 constructor
 ·rintro ⟨⟨⟨⟨a,b⟩,c,d⟩,e,f⟩,g⟩
  exact ⟨a,b,c,d,e,f,fun h=>by rcases g with g | g <;> omega⟩
 ·rintro ⟨a,b,c,d,e,f,g⟩
  refine ⟨⟨⟨⟨a,b⟩,c,d⟩,e,f⟩,?_⟩
  by_cases h:x.2.1<(om t x.1).1
  ·exact .inr (by have:=g h;omega)
  ·exact .inl h
theorem gQ {t:Tyt} {r:Tye} {x:Int×Int×Int}:dt t (r++[x])=true↔wM t=true∧(∀ y ∈ r,It t y)∧It t x:=by
 simp only [dt,Bool.and_eq_true,List.all_eq_true,List.mem_append,List.mem_singleton,UI]
 constructor
 ·rintro ⟨a,b⟩
  exact ⟨a,fun y hy=>b y (.inl hy),b x (.inr rfl)⟩
 ·rintro ⟨a,b,c⟩
  refine ⟨a,fun y hy => ?_⟩
  rcases hy with h | rfl
  ·exact b y h
  ·exact c
theorem lJ {t:Tyt} {r:Tye}:dt t r=true↔wM t=true∧(∀ y ∈ r,It t y):=by
 simp only [dt,Bool.and_eq_true,List.all_eq_true,UI]
section
variable (k:Nat) (hk:9223372036854775808≤k)
include hk
theorem MI (t:Tyt) (ht:Wt t) (s:Tye) (hs:s.length≤1048576):dW k t s=some (Af t s):=by
 rw [dW]
 rcases ng s with rfl | ⟨r,x,rfl⟩
 ·rfl
 ·have hr:r.length+1≤1048576:=by simpa using hs
  have e1:((((r++[x]).length:Nat):Int)==0)=false:=by simp;omega
  rw [e1,cond_false,N5 k hk t ht _ (by omega),af,Ba]
  cases h:dt t (r++[x]) with
  | false=>rfl
  | true=>
   obtain ⟨hm,hr',hx⟩:=gQ.1 h
   have hl:=ht.kids _ (BY hx.h0 hx.h1)
   rw [Bool.not_true,cond_false,H4,eR (by omega),dS (H8 r x),af,Mf hx.h0 hx.h1,af,if_neg (show ¬ (true=false) by simp)]
   by_cases h1:x.2.1<(om t x.1).1
   ·rw [ltT h1,cond_true,if_pos h1]
   ·rw [ltF (by omega),cond_false,if_neg h1]
    by_cases h2:x.2.2<((om t x.1).2.length:Int)
    ·have:=hx.c0
     rw [ltT h2,cond_true,if_pos h2,idx,if_pos hx.c0,List.getElem?_eq_getElem (by omega),af]
     rfl
    ·rw [ltF (by omega),cond_false,if_neg h2]
theorem ahV (t:Tyt) (ht:Wt t) (s:Tye) (hs:s.length≤1048576):gb k t s=some (doB t s):=by
 rw [gb,Nq _ _ (by omega),af,MI k hk t ht s hs,af]
 rcases ng s with rfl | ⟨r,x,rfl⟩
 ·rfl
 ·have hr:r.length+1≤1048576:=by simpa using hs
  rw [H4,eR (by omega),Ba,Df,Int.toNat_natCast,H8,Nc]
  simp only [O1,af]
  have e1:decide ((0:Int)≤(r.length:Int)∧r.length<(r++[x]).length)=true:=by simp
  have e2:decide ((0:Int)≤(r.length:Int)∧r.length≤(r++[x]).length)=true:=by simp
  have e3:decide (r.length≤(r++[x]).length)=true:=by simp
  rw [e1,e2,e3]
  cases h:dt t (r++[x]) with
  | false=>rfl
  | true=>
   obtain ⟨hm,hr',hx⟩:=gQ.1 h
   have hw:=(SJ hm).work _ (BY hx.h0 hx.h1)
   have hl:=ht.kids _ (BY hx.h0 hx.h1)
   have:=hx.d0
   have:=hx.c0
   rw [if_neg (show ¬ (true=false) by simp),if_neg (show ¬ (true=false) by simp)]
   by_cases h1:x.2.1<(om t x.1).1
   ·rw [if_pos h1,if_pos h1]
    simp only [beq_self_eq_true,cond_true]
    rw [eR (by omega)]
   ·rw [if_neg h1,if_neg h1]
    by_cases h2:x.2.2<((om t x.1).2.length:Int)
    ·rw [if_pos h2,if_pos h2]
     simp only [Int.reduceBEq,cond_true,cond_false]
     rw [eR (by omega)]
    ·rw [if_neg h2,if_neg h2]
     rfl
theorem Q8 (t:Tyt) (ht:Wt t) (s:Tye) (hs:s.length≤1048576) (q:Int):dA k t s q=some (ou t s q):=by
 have hlen:=ht.len
 rw [dA,Nq _ _ (by omega),af,N5 k hk t ht s (by omega),af,ou]
 cases h:dt t s with
 | false=>simp
 | true=>
  have h30:=K2 (lJ.1 h).1
  rw [Bool.not_true,cond_false,acw,af,eR (by omega)]
  by_cases h0:0≤q
  ·by_cases h1:q<t.length
   ·have e2:room (s++[(q,(0:Int),(0:Int))]).length 24=true:=ut (by simp;omega)
    rw [leT h0,leT (show q≤(t.length:Int) - 1 by omega),Bool.and_self,Bool.not_true,cond_false,e2,cond_true,if_pos ⟨rfl,h0,h1⟩]
   ·rw [leF (show (t.length:Int) - 1<q by omega),if_neg (by omega)]
    simp
  ·rw [leF (show q<0 by omega),if_neg (by omega)]
   simp
theorem Wd (a b:Tye) (ha:a.length≤9223372036854775807):ij k a b=some (decide (a=b)):=by
 rw [ij,dq,Nd]
 by_cases h:a.length=b.length
 ·rw [decide_eq_true h,Bool.not_true,cond_false,agB (F:=fun n i=>bg k a b n i) h ?_ ?_ k (by omega),af]
  ·intro n
   simp only [bg,oU,cond_false]
  ·intro n i x y hi hx hy
   simp only [bg,ltN hi,cond_true,dS hx,dS hy,af,acm]
   rw [eQ (by omega)]
   cases decide (x=y) <;> rfl
 ·rw [decide_eq_false h]
  have:a≠b:=fun e=>h (by rw [e])
  simp [this,af]
end
theorem aaC {t:Tyt} {q:Int} (hm:wM t=true) (h0:0≤q) (h1:q<t.length):It t (q,0,0):=
 ⟨h0,h1,by simp,((SJ hm).work _ (BY h0 h1)).1,by simp,by simp,fun _=>rfl⟩
theorem wH {t:Tyt} {r:Tye} {x:Int×Int×Int} (h:dt t (r++[x])=true):Kt t (r++[x])=Kt t r+Mn t x:=by
 obtain ⟨a,b,c⟩:=gQ.1 h
 rw [Kt,if_pos h,Kt,if_pos (lJ.2 ⟨a,b⟩),List.map_append,List.sum_append]
 simp
theorem RX {t:Tyt} {r:Tye} {x:Int×Int×Int} (h:dt t (r++[x])=true):dt t (doB t (r++[x]))=true∧Kt t (doB t (r++[x]))=Kt t (r++[x]) - 1:=by
 obtain ⟨a,b,c⟩:=gQ.1 h
 obtain ⟨q0,q1,q2,q3,q4,q5,q6⟩:=c
 rw [wH h,Df,if_neg (by simp [h])]
 split
 ·rename_i h1
  have h2:dt t (r++[(x.1,x.2.1+1,x.2.2)])=true:=gQ.2 ⟨a,b,⟨q0,q1,by simp only;omega,by simp only;omega,q4,q5,fun _=>q6 h1⟩⟩
  refine ⟨h2,?_⟩
  rw [wH h2]
  unfold Mn
  simp only
  omega
 ·rename_i h1
  split
  ·rename_i h3
   have h2:dt t (r++[(x.1,x.2.1,x.2.2+1)])=true:=gQ.2 ⟨a,b,⟨q0,q1,q2,q3,by simp only;omega,by simp only;omega,fun h=>absurd h h1⟩⟩
   refine ⟨h2,?_⟩
   rw [wH h2]
   unfold Mn
   simp only
   omega
  ·rename_i h3
   refine ⟨lJ.2 ⟨a,b⟩,?_⟩
   unfold Mn
   omega
end Go.Ab
set_option linter.unusedVariables false
namespace Go.Ab
abbrev WB:=Int×Tye×FR×Int×Int
def Gq (op w v:Int):FR:=(op,0,w,v,0,0,0)
def d8 (c:CF) (t:Tyt) (m:List Int) (w:Int) (x:WB):Bool:=gC c&&decide ((m.length:Int)=dr c)&&wM t&&decide (0≤w∧w<c.1∧0≤x.1∧x.1<16)&&dt t x.2.1
def K0 (d w W:Int):Int:=if W<2∨w<0∨W≤w then -1 else (w+1+d%(W - 1))%W
def toW (pc:Int) (x:WB):WB:=(pc,x.2.1,ef,x.2.2.2)
def mF (pc op w v:Int) (x:WB):WB:=(pc,x.2.1,Gq op w v,x.2.2.2)
def CV:Int:=18446744073709551615
def Ot (v:Int):Int:=IntKind.i64.wrap v
abbrev WR:=List Int×WB×List EV
def NK (c:CF) (t:Tyt) (m:List Int) (w:Int) (x:WB):WR:=
 let r:=gY c m x.2.2.1
 if go r.2=false then (r.1,(x.1,x.2.1,r.2,x.2.2.2),[])
 else if r.2.2.2.2.2.2.2≠1 then (r.1,toW 1 x,[])
 else (r.1,(9,ou t x.2.1 (Ot r.2.2.2.2.1),ef,x.2.2.2),[(2,Ot r.2.2.2.2.1,w)])
def Aw (c:CF) (m:List Int) (w:Int) (x:WB):WR:=(bW m 1 (ol (aO m 1) 1),(2,x.2.1,Gq 4 w 0,c.2.2.2,x.2.2.2.2),[])
def pp (c:CF) (m:List Int) (w:Int) (x:WB) (d:Int):WR:=
 let r:=gY c m x.2.2.1
 if go r.2=false then (r.1,(x.1,x.2.1,r.2,x.2.2.2),[])
 else if r.2.2.2.2.2.2.2=1 then (r.1,(4,x.2.1,r.2,x.2.2.2),[])
 else if x.1=2∧0≤K0 d w c.1 then (r.1,mF 3 2 (K0 d w c.1) 0 x,[])
 else if x.2.2.2.1≤0 then (r.1,mF 5 5 w 0 x,[])
 else (r.1,(2,x.2.1,Gq 4 w 0,x.2.2.2.1 - 1,x.2.2.2.2),[])
def mq (t:Tyt) (m:List Int) (w:Int) (x:WB):WR:=
 (bW m 1 (ol (aO m 1) CV),(if aO m 1=1 then 14 else 9,ou t x.2.1 (Ot x.2.2.1.2.2.2.1),if aO m 1=1 then Gq 6 w 0 else ef,x.2.2.2),[(2,Ot x.2.2.1.2.2.2.1,w)])
def wX (c:CF) (m:List Int) (x:WB):WR:=let r:=gY c m x.2.2.1;(r.1,(6,x.2.1,r.2,x.2.2.2),[])
def nw (m:List Int) (x:WB):WR:=(bW m 1 (ol (aO m 1) CV),(7,x.2.1,x.2.2.1,x.2.2.2.1,0),[])
def Gz (f:FR) (v:Int):FR:=(f.1,f.2.1,f.2.2.1,v,f.2.2.2.2)
def fB (c:CF) (m:List Int) (x:WB):WR:=
 let k:=x.2.2.2.2
 let most:=2+2*c.1
 let v:=(k - 2)/2
 if k<0∨most≤k then (m,(8,x.2.1,Gz x.2.2.1 0,x.2.2.2.1,0),[])
 else
  let f:=if k=0 then Gz x.2.2.1 (aO m 4) else if k=1 then x.2.2.1 else if k%2=0 then Gz x.2.2.1 (aO m (JK c v)) else x.2.2.1
  let some:=if k=0 then false else if k=1 then decide (aO m 5≠f.2.2.2.1) else if k%2=0 then false else decide (0<I7 (aO m (KP c v)) f.2.2.2.1)
  if some=true then (m,toW 1 x,[])
  else if k+1=most then (m,(8,x.2.1,Gz f 0,x.2.2.2.1,0),[])
  else (m,(7,x.2.1,f,x.2.2.2.1,k+1),[])
def gm (c:CF) (m:List Int) (x:WB):WR:=let r:=gY c m x.2.2.1;if go r.2=true then (r.1,toW 1 x,[]) else (r.1,(x.1,x.2.1,r.2,x.2.2.2),[])
def Lt (t:Tyt) (m:List Int) (w:Int) (x:WB):WR:=
 let a:=Af t x.2.1
 if a.1=1 then (m,(x.1,doB t x.2.1,x.2.2),[]) else if a.1=2 then (m,(10,x.2),[]) else if a.1=3 then (m,(15,x.2),[]) else (m,mF 0 1 w 0 x,[])
def uo (t:Tyt) (m:List Int) (w:Int) (x:WB):WR:=
 let a:=Af t x.2.1
 if a.1≠2 then (m,toW 9 x,[]) else (bW m 0 (ol (aO m 0) 1),(11,doB t x.2.1,Gq 0 w (IntKind.u64.wrap a.2),x.2.2.2),[(3,a.2,w)])
def Aj (c:CF) (m:List Int) (w:Int) (x:WB):WR:=
 let r:=gY c m x.2.2.1
 if go r.2=false then (r.1,(x.1,x.2.1,r.2,x.2.2.2),[]) else if r.2.2.2.2.2.2.2=2 then (r.1,mF 12 3 w r.2.2.2.2.1 x,[]) else (r.1,toW 13 x,[])
def wI (c:CF) (t:Tyt) (m:List Int) (w:Int) (x:WB):WR:=
 let r:=gY c m x.2.2.1
 if go r.2=false then (r.1,(x.1,x.2.1,r.2,x.2.2.2),[])
 else if r.2.2.2.2.2.2.2=2 then (r.1,(9,ou t x.2.1 (Ot r.2.2.2.2.1),ef,x.2.2.2),[(2,Ot r.2.2.2.2.1,w)]) else (r.1,toW 13 x,[])
def KO (m:List Int) (w:Int) (x:WB):WR:=if aO m 1=0 then (m,mF 14 6 w 0 x,[]) else (m,toW 9 x,[])
def u7 (c:CF) (m:List Int) (x:WB):WR:=let r:=gY c m x.2.2.1;if go r.2=true then (r.1,toW 9 x,[]) else (r.1,(x.1,x.2.1,r.2,x.2.2.2),[])
def wh (t:Tyt) (m:List Int) (w:Int) (x:WB):WR:=
 let a:=Af t x.2.1
 if a.1≠3 then (m,toW 9 x,[])
 else (bW m 0 (ol (aO m 0) CV),(if doB t x.2.1=[] then (0,[],Gq 1 w 0,x.2.2.2) else (9,doB t x.2.1,ef,x.2.2.2)),if aO m 0=1 then [(4,a.2,w),(5,0,w)] else [(4,a.2,w)])
def ct (c:CF) (t:Tyt) (m:List Int) (w:Int) (x:WB) (d:Int):WR:=
 if d8 c t m w x=false then (m,x,[])
 else if x.1=0 then NK c t m w x else if x.1=1 then Aw c m w x else if x.1=2∨x.1=3 then pp c m w x d else if x.1=4 then mq t m w x
 else if x.1=5 then wX c m x else if x.1=6 then nw m x else if x.1=7 then fB c m x else if x.1=8 then gm c m x
 else if x.1=9 then Lt t m w x else if x.1=10 then uo t m w x else if x.1=11 then Aj c m w x else if x.1=12 then wI c t m w x
 else if x.1=13 then KO m w x else if x.1=14 then u7 c m x else wh t m w x
theorem abn {d w W:Int} (hd:0≤d∧d≤18446744073709551615) (hW:W≤8):fl d w W=some (K0 d w W):=by
 unfold fl K0
 by_cases h2:W<2
 ·rw [ltT h2,cond_true,if_pos (.inl h2)]
 ·rw [ltF (by omega),cond_false]
  unfold cJ
  by_cases h0:0≤w
  ·rw [leT h0,cond_true]
   by_cases h1:w<W
   ·rw [ltT h1,af,Bool.not_true,cond_false,if_neg (by omega),kO (z:=W) (by omega) (by omega),kO (z:=W - 1) (by omega) (by omega),kO (z:=w) (by omega) (by omega),kO (z:=w+1) (by omega) (by omega),Cu,decide_eq_false (by omega),Bool.not_false,cond_true,Cu,decide_eq_false (by omega),Bool.not_false,cond_true,Int.tmod_eq_emod_of_nonneg hd.1]
    have e1:=Int.emod_nonneg d (show W - 1≠0 by omega)
    have e2:=Int.emod_lt_of_pos d (show 0<W - 1 by omega)
    have e3:=Int.emod_nonneg (w+1+d%(W - 1)) (show W≠0 by omega)
    have e4:=Int.emod_lt_of_pos (w+1+d%(W - 1)) (show 0<W by omega)
    rw [kO (by omega) (by omega),Int.tmod_eq_emod_of_nonneg (by omega),eR (by omega)]
   ·rw [ltF (by omega),af,Bool.not_false,cond_true,if_pos (by omega)]
  ·rw [leF (by omega),cond_false,af,Bool.not_false,cond_true,if_pos (by omega)]
theorem Ok {k:Nat} (hk:9223372036854775808≤k) (c:CF) {t:Tyt} (ht:Wt t) (m:List Int) (w:Int) (x:WB) (hs:x.2.1.length≤9000):i9 k c t m w x=some (d8 c t m w x):=by
 unfold i9 d8
 simp only [Prod.eta,gi,Bi,af]
 rw [KD (k+4) (by omega) t ht,N5 (k+3) (by omega) t ht x.2.1 (by omega)]
 cases hm:gC c with
 | false=>rfl
 | true=>
  rw [cond_true,ms,Bool.true_and]
  by_cases h1:(m.length:Int)=dr c
  ·rw [decide_eq_true h1,cond_true,Bool.true_and,af]
   cases ht2:wM t with
   | false=>rfl
   | true=>
    rw [cond_true,Bool.true_and]
    by_cases h2:0≤w
    ·rw [leT h2,cond_true]
     by_cases h3:w<c.1
     ·rw [ltT h3,cond_true]
      by_cases h4:0≤x.1
      ·rw [leT h4,cond_true]
       by_cases h5:x.1<16
       ·rw [ltT h5,cond_true,af,decide_eq_true ⟨h2,h3,h4,h5⟩,Bool.true_and]
       ·rw [ltF (by omega),cond_false,decide_eq_false (by omega)];rfl
      ·rw [leF (by omega),cond_false,decide_eq_false (by omega)];rfl
     ·rw [ltF (by omega),cond_false,decide_eq_false (by omega)];rfl
    ·rw [leF (by omega),cond_false,decide_eq_false (by omega)];rfl
  ·rw [decide_eq_false h1,cond_false]
   rfl
theorem Xv (w:Int):ni w=some (0,[],Gq 1 w 0,0,0):=rfl
end Go.Ab
set_option linter.unusedVariables false
set_option linter.unusedSimpArgs false
set_option maxRecDepth 100000
set_option maxHeartbeats 4000000
namespace Go.Ab
theorem b6 (op w v:Int):aM op w v=some (Gq op w v):=rfl
theorem ER:room 1 24=true:=rfl
theorem abl:room 2 24=true:=rfl
theorem ue {a b:Int} (h:a=b):(a==b)=true:=by simp [h]
theorem bS {a b:Int} (h:a≠b):(a==b)=false:=by simp [h]
theorem KJ (c:CF) (m:List Int) (f:FR):(Ko c m f=gY c m f∧((f.1==0)=true∨(f.1==0)=false∧((f.1==1)=true∨(f.1==1)=false∧(f.1==2)=true)))∨(DV c m f=gY c m f∧(f.1==0)=false∧(f.1==1)=false∧(f.1==2)=false∧((f.1==3)=true∨(f.1==3)=false∧(f.1==4)=true))∨(JR c m f=gY c m f∧(f.1==0)=false∧(f.1==1)=false∧(f.1==2)=false∧(f.1==3)=false∧(f.1==4)=false):=by
 unfold gY mR
 simp only [ms,decide_eq_true_eq,decide_eq_false_iff_not]
 by_cases h:f.1=0∨f.1=1∨f.1=2
 ·rw [if_pos h];exact .inl ⟨rfl,by omega⟩
 ·rw [if_neg h]
  by_cases g:f.1=3∨f.1=4
  ·rw [if_pos g];exact .inr (.inl ⟨rfl,by omega⟩)
  ·rw [if_neg g];exact .inr (.inr ⟨rfl,by omega⟩)
section
variable {k:Nat} (hk:9223372036854779000≤k) (c:CF) {t:Tyt} (ht:Wt t) {m:List Int} (hm:Wm m) (hl:m.length≤1000) (w:Int) {x:WB} (hf:Wf x.2.2.1) (hs:x.2.1.length≤9000) (hsp:x.2.2.2.1≤9223372036854775807) {d:Int} (hd:0≤d∧d≤18446744073709551615)
include hk ht hm hl hf hs hsp hd
theorem Xo {β:Type} (K:List Int×FR→Option β):ur k c m x.2.2.1 K=K (gY c m x.2.2.1):=by
 have _h:=And.intro hsp hd
 have _h2:=And.intro ht hs
 have hdk:=Jp c hm hl hf (k+31)
 have hij:=Dx c hm hl hf
 have hev:=Ez (k:=k+40) (by omega) c hm hl hf
 unfold ur
 rcases KJ c m x.2.2.1 with ⟨h,e | ⟨e,e1 | e1⟩⟩ | ⟨h,e,e1,e2,e3 | e3⟩ | ⟨h,e⟩
 all_goals simp only [*,cond_true,cond_false,af]
theorem RO:gX k c t m w x d=some (ct c t m w x d):=by
 have _h1:=hsp
 have _h2:=hd
 unfold gX
 try simp only [Prod.eta]
 rw [bF (by omega),af,bF (by omega),af,Ok (by omega) c ht m w x hs,af]
 cases hmay:d8 c t m w x with
 | false=>
  unfold ct
  rw [hmay]
  rfl
 | true=>
  rw [Bool.not_true,cond_false]
  have hb:gC c=true∧(m.length:Int)=dr c∧0≤w∧w<c.1∧0≤x.1∧x.1<16:=by
   unfold d8 at hmay
   simp only [Bool.and_eq_true,decide_eq_true_eq] at hmay
   exact ⟨hmay.1.1.1.1,hmay.1.1.1.2,hmay.1.2⟩
  obtain ⟨hmc,hlen,hw0,hw1,hp0,hp1⟩:=hb
  have hc:=bT hmc
  have hsz:=oz hmc
  have hadd:∀ i v:Int,0≤i→i<2→du m i v=some (bW m i (ol (aO m i) v),aO m i):=fun i v h0 h1=>by rw [adK hl,if_pos (by omega)]
  have hcg:=fun K=>Xo (k:=k) (β:=List Int×WB×List EV) hk c ht hm hl hf hs hsp hd K
  have hst:=fun q=>Q8 (k+36) (by omega) t ht x.2.1 (by omega) q
  have hdo:=ahV (k+36) (by omega) t ht x.2.1 (by omega)
  have hnx:=MI (k+37) (by omega) t ht x.2.1 (by omega)
  have hvi:=abn (w:=w) (W:=c.1) hd (by omega)
  rcases (show x.1=0∨x.1=1∨x.1=2∨x.1=3∨x.1=4∨x.1=5∨x.1=6∨x.1=7∨x.1=8∨x.1=9∨x.1=10∨x.1=11∨x.1=12∨x.1=13∨x.1=14∨x.1=15 by omega) with hp | hp | hp | hp | hp | hp | hp | hp | hp | hp | hp | hp | hp | hp | hp | hp
  ·have hW:ct c t m w x d=NK c t m w x:=by unfold ct;rw [hmay];simp [hp]
   rw [hW]
   rw [ue hp,cond_true]
   unfold NK
   rw [hcg]
   simp only [cond_true,cond_false,af,lG,Prod.eta,b6]
   generalize gY c m x.2.2.1=r
   cases ho:go r.2 with
   | false=>simp [ho,hp]
   | true=>
    by_cases h9:r.2.2.2.2.2.2.2=1
    ·simp [ho,h9,hst,af,ER,ef,Ot]
    ·have q9:(r.2.2.2.2.2.2.2 !=1)=true:=by simp [h9]
     simp [ho,h9,q9,toW,ef]
  ·have hW:ct c t m w x d=Aw c m w x:=by unfold ct;rw [hmay];simp [hp]
   rw [hW]
   rw [bS (show x.1≠0 by omega),cond_false,ue hp,cond_true]
   rw [hadd 1 1 (by decide) (by decide),af,b6,af]
   rfl
  ·have hW:ct c t m w x d=pp c m w x d:=by unfold ct;rw [hmay];simp [hp]
   rw [hW]
   rw [bS (show x.1≠0 by omega),cond_false,bS (show x.1≠1 by omega),cond_false,ue hp,cond_true]
   rw [hvi,af]
   unfold pp
   rw [hcg]
   simp only [cond_true,cond_false,af,lG,Prod.eta,b6,ue hp]
   generalize gY c m x.2.2.1=r
   cases ho:go r.2 with
   | false=>simp [ho,hp]
   | true=>
    by_cases h9:r.2.2.2.2.2.2.2=1
    ·simp [ho,h9]
    ·have q9:=bS h9
     by_cases h8:0≤K0 d w c.1
     ·simp [ho,h9,q9,hp,h8,mF]
     ·by_cases h7:x.2.2.2.1≤0
      ·simp [ho,h9,q9,hp,h8,h7,mF]
      ·rw [eR (z:=x.2.2.2.1 - 1) (by omega)]
       simp [ho,h9,q9,hp,h8,h7,mF]
  ·have hW:ct c t m w x d=pp c m w x d:=by unfold ct;rw [hmay];simp [hp]
   rw [hW]
   rw [bS (show x.1≠0 by omega),cond_false,bS (show x.1≠1 by omega),cond_false,bS (show x.1≠2 by omega),cond_false,ue hp,cond_true]
   rw [hvi,af]
   unfold pp
   rw [hcg]
   simp only [cond_true,cond_false,af,lG,Prod.eta,b6,bS (show x.1≠2 by omega)]
   generalize gY c m x.2.2.1=r
   cases ho:go r.2 with
   | false=>simp [ho,hp]
   | true=>
    by_cases h9:r.2.2.2.2.2.2.2=1
    ·simp [ho,h9]
    ·have q9:=bS h9
     by_cases h7:x.2.2.2.1≤0
     ·simp [ho,h9,q9,hp,h7,mF]
     ·rw [eR (z:=x.2.2.2.1 - 1) (by omega)]
      simp [ho,h9,q9,hp,h7,mF]
  ·have hW:ct c t m w x d=mq t m w x:=by unfold ct;rw [hmay];simp [hp]
   rw [hW]
   rw [bS (show x.1≠0 by omega),cond_false,bS (show x.1≠1 by omega),cond_false,bS (show x.1≠2 by omega),cond_false,bS (show x.1≠3 by omega),cond_false,ue hp,cond_true]
   rw [hadd 1 _ (by decide) (by decide),af,b6,af,hst,af,af,ER,cond_true,cond_true,ms]
   by_cases h9:aO m 1=1
   ·simp [mq,h9,CV,Ot]
   ·simp [mq,h9,CV,Ot,ef]
  ·have hW:ct c t m w x d=wX c m x:=by unfold ct;rw [hmay];simp [hp]
   rw [hW]
   rw [bS (show x.1≠0 by omega),cond_false,bS (show x.1≠1 by omega),cond_false,bS (show x.1≠2 by omega),cond_false,bS (show x.1≠3 by omega),cond_false,bS (show x.1≠4 by omega),cond_false,ue hp,cond_true]
   unfold wX
   rw [hcg]
   simp only [cond_true,cond_false,af,lG,Prod.eta,b6]
  ·have hW:ct c t m w x d=nw m x:=by unfold ct;rw [hmay];simp [hp]
   rw [hW]
   rw [bS (show x.1≠0 by omega),cond_false,bS (show x.1≠1 by omega),cond_false,bS (show x.1≠2 by omega),cond_false,bS (show x.1≠3 by omega),cond_false,bS (show x.1≠4 by omega),cond_false,bS (show x.1≠5 by omega),cond_false,ue hp,cond_true]
   rw [hadd 1 _ (by decide) (by decide),af]
   rfl
  ·have hW:ct c t m w x d=fB c m x:=by unfold ct;rw [hmay];simp [hp]
   rw [hW]
   rw [bS (show x.1≠0 by omega),cond_false,bS (show x.1≠1 by omega),cond_false,bS (show x.1≠2 by omega),cond_false,bS (show x.1≠3 by omega),cond_false,bS (show x.1≠4 by omega),cond_false,bS (show x.1≠5 by omega),cond_false,bS (show x.1≠6 by omega),cond_false,ue hp,cond_true]
   have hM:IntKind.i64.wrap (2+IntKind.i64.wrap (2*c.1))=2+2*c.1:=by rw [eR (z:=2*c.1) (by omega),eR (by omega)]
   rw [hM]
   by_cases h1:x.2.2.2.2<0
   ·rw [ltT h1,cond_true]
    simp only [fB,if_pos (show x.2.2.2.2<0∨2+2*c.1≤x.2.2.2.2 from .inl h1),Gz]
   ·rw [ltF (by omega),cond_false]
    by_cases h2:2+2*c.1≤x.2.2.2.2
    ·rw [leT h2,cond_true]
     simp only [fB,if_pos (show x.2.2.2.2<0∨2+2*c.1≤x.2.2.2.2 from .inr h2),Gz]
    ·rw [leF (by omega),cond_false,eR (z:=x.2.2.2.2+1) (by omega)]
     have hn:¬ (x.2.2.2.2<0∨2+2*c.1≤x.2.2.2.2):=by omega
     by_cases e0:x.2.2.2.2=0
     ·rw [ue e0,cond_true,eB,af]
      by_cases h5:x.2.2.2.2+1=2+2*c.1
      ·rw [ue h5,cond_true]
       simp only [fB,if_neg hn,if_pos e0,Bool.false_eq_true,if_false,if_pos h5,Gz]
      ·rw [bS h5,cond_false]
       simp only [fB,if_neg hn,if_pos e0,Bool.false_eq_true,if_false,if_neg h5,Gz,hp]
     ·rw [bS e0,cond_false]
      by_cases e1:x.2.2.2.2=1
      ·rw [ue e1,cond_true,eB,af,Cu]
       by_cases h9:aO m 5=x.2.2.1.2.2.2.1
       ·rw [decide_eq_true h9,Bool.not_true,cond_false]
        skip
        by_cases h5:x.2.2.2.2+1=2+2*c.1
        ·rw [ue h5,cond_true]
         simp only [fB,if_neg hn,if_neg e0,if_pos e1,h9,ne_eq,not_true_eq_false,decide_false,Bool.false_eq_true,if_false,if_pos h5,Gz]
        ·rw [bS h5,cond_false]
         simp only [fB,if_neg hn,if_neg e0,if_pos e1,h9,ne_eq,not_true_eq_false,decide_false,Bool.false_eq_true,if_false,if_neg h5,Gz,hp]
       ·rw [decide_eq_false h9,Bool.not_false,cond_true]
        simp only [fB,if_neg hn,if_neg e0,if_pos e1,h9,ne_eq,not_false_eq_true,decide_true,if_true,toW,ef]
      ·rw [bS e1,cond_false,Int.tmod_eq_emod_of_nonneg (by omega),eR (z:=x.2.2.2.2 - 2) (by omega),Int.tdiv_eq_ediv_of_nonneg (by omega),eR (z:=(x.2.2.2.2 - 2)/2) (by omega)]
       by_cases e2:x.2.2.2.2%2=0
       ·rw [ue e2,cond_true,Qf,af,eB,af]
        skip
        by_cases h5:x.2.2.2.2+1=2+2*c.1
        ·rw [ue h5,cond_true]
         simp only [fB,if_neg hn,if_neg e0,if_neg e1,if_pos e2,Bool.false_eq_true,if_false,if_pos h5,Gz]
        ·rw [bS h5,cond_false]
         simp only [fB,if_neg hn,if_neg e0,if_neg e1,if_pos e2,Bool.false_eq_true,if_false,if_neg h5,Gz,hp]
       ·rw [bS e2,cond_false,LT,af,eB,af,Mz,af]
        by_cases h9:0<I7 (aO m (KP c ((x.2.2.2.2 - 2)/2))) x.2.2.1.2.2.2.1
        ·rw [ltT h9,cond_true]
         simp only [fB,if_neg hn,if_neg e0,if_neg e1,if_neg e2,h9,decide_true,if_true,toW,ef]
        ·rw [ltF (by omega),cond_false]
         skip
         by_cases h5:x.2.2.2.2+1=2+2*c.1
         ·rw [ue h5,cond_true]
          simp only [fB,if_neg hn,if_neg e0,if_neg e1,if_neg e2,h9,decide_false,Bool.false_eq_true,if_false,if_pos h5,Gz]
         ·rw [bS h5,cond_false]
          simp only [fB,if_neg hn,if_neg e0,if_neg e1,if_neg e2,h9,decide_false,Bool.false_eq_true,if_false,if_neg h5,Gz,hp]
  ·have hW:ct c t m w x d=gm c m x:=by unfold ct;rw [hmay];simp [hp]
   rw [hW]
   rw [bS (show x.1≠0 by omega),cond_false,bS (show x.1≠1 by omega),cond_false,bS (show x.1≠2 by omega),cond_false,bS (show x.1≠3 by omega),cond_false,bS (show x.1≠4 by omega),cond_false,bS (show x.1≠5 by omega),cond_false,bS (show x.1≠6 by omega),cond_false,bS (show x.1≠7 by omega),cond_false,ue hp,cond_true]
   unfold gm
   rw [hcg]
   simp only [cond_true,cond_false,af,lG,Prod.eta,b6]
   generalize gY c m x.2.2.1=r
   cases ho:go r.2 <;> simp [ho,hp,toW,ef]
  ·have hW:ct c t m w x d=Lt t m w x:=by unfold ct;rw [hmay];simp [hp]
   rw [hW]
   rw [bS (show x.1≠0 by omega),cond_false,bS (show x.1≠1 by omega),cond_false,bS (show x.1≠2 by omega),cond_false,bS (show x.1≠3 by omega),cond_false,bS (show x.1≠4 by omega),cond_false,bS (show x.1≠5 by omega),cond_false,bS (show x.1≠6 by omega),cond_false,bS (show x.1≠7 by omega),cond_false,bS (show x.1≠8 by omega),cond_false,ue hp,cond_true]
   rw [hnx,af,ms,ms,ms,hdo,af,b6,af]
   unfold Lt
   by_cases h1:(Af t x.2.1).1=1
   ·simp [h1,hp]
   ·by_cases h2:(Af t x.2.1).1=2
    ·simp [h2]
    ·by_cases h3:(Af t x.2.1).1=3
     ·simp [h3]
     ·simp [h1,h2,h3,mF]
  ·have hW:ct c t m w x d=uo t m w x:=by unfold ct;rw [hmay];simp [hp]
   rw [hW]
   rw [bS (show x.1≠0 by omega),cond_false,bS (show x.1≠1 by omega),cond_false,bS (show x.1≠2 by omega),cond_false,bS (show x.1≠3 by omega),cond_false,bS (show x.1≠4 by omega),cond_false,bS (show x.1≠5 by omega),cond_false,bS (show x.1≠6 by omega),cond_false,bS (show x.1≠7 by omega),cond_false,bS (show x.1≠8 by omega),cond_false,bS (show x.1≠9 by omega),cond_false,ue hp,cond_true]
   rw [hnx,af,Cu,hadd 0 _ (by decide) (by decide),af,ER,cond_true,hdo,af,b6,af]
   unfold uo
   by_cases h2:(Af t x.2.1).1=2
   ·simp [h2]
   ·simp [h2,toW,ef]
  ·have hW:ct c t m w x d=Aj c m w x:=by unfold ct;rw [hmay];simp [hp]
   rw [hW]
   rw [bS (show x.1≠0 by omega),cond_false,bS (show x.1≠1 by omega),cond_false,bS (show x.1≠2 by omega),cond_false,bS (show x.1≠3 by omega),cond_false,bS (show x.1≠4 by omega),cond_false,bS (show x.1≠5 by omega),cond_false,bS (show x.1≠6 by omega),cond_false,bS (show x.1≠7 by omega),cond_false,bS (show x.1≠8 by omega),cond_false,bS (show x.1≠9 by omega),cond_false,bS (show x.1≠10 by omega),cond_false,ue hp,cond_true]
   unfold Aj
   rw [hcg]
   simp only [cond_true,cond_false,af,lG,Prod.eta,b6]
   generalize gY c m x.2.2.1=r
   cases ho:go r.2 with
   | false=>simp [ho,hp]
   | true=>
    by_cases h9:r.2.2.2.2.2.2.2=2
    ·simp [ho,h9,mF]
    ·have q9:=bS h9
     simp [ho,h9,q9,toW,ef]
  ·have hW:ct c t m w x d=wI c t m w x:=by unfold ct;rw [hmay];simp [hp]
   rw [hW]
   rw [bS (show x.1≠0 by omega),cond_false,bS (show x.1≠1 by omega),cond_false,bS (show x.1≠2 by omega),cond_false,bS (show x.1≠3 by omega),cond_false,bS (show x.1≠4 by omega),cond_false,bS (show x.1≠5 by omega),cond_false,bS (show x.1≠6 by omega),cond_false,bS (show x.1≠7 by omega),cond_false,bS (show x.1≠8 by omega),cond_false,bS (show x.1≠9 by omega),cond_false,bS (show x.1≠10 by omega),cond_false,bS (show x.1≠11 by omega),cond_false,ue hp,cond_true]
   unfold wI
   rw [hcg]
   simp only [cond_true,cond_false,af,lG,Prod.eta,b6]
   generalize gY c m x.2.2.1=r
   cases ho:go r.2 with
   | false=>simp [ho,hp]
   | true=>
    by_cases h9:r.2.2.2.2.2.2.2=2
    ·simp [ho,h9,hst,af,ER,ef,Ot]
    ·have q9:=bS h9
     simp [ho,h9,q9,toW,ef]
  ·have hW:ct c t m w x d=KO m w x:=by unfold ct;rw [hmay];simp [hp]
   rw [hW]
   rw [bS (show x.1≠0 by omega),cond_false,bS (show x.1≠1 by omega),cond_false,bS (show x.1≠2 by omega),cond_false,bS (show x.1≠3 by omega),cond_false,bS (show x.1≠4 by omega),cond_false,bS (show x.1≠5 by omega),cond_false,bS (show x.1≠6 by omega),cond_false,bS (show x.1≠7 by omega),cond_false,bS (show x.1≠8 by omega),cond_false,bS (show x.1≠9 by omega),cond_false,bS (show x.1≠10 by omega),cond_false,bS (show x.1≠11 by omega),cond_false,bS (show x.1≠12 by omega),cond_false,ue hp,cond_true]
   rw [eB,af,ms,b6,af]
   by_cases h9:aO m 1=0
   ·simp [KO,h9,mF]
   ·simp [KO,h9,toW,ef]
  ·have hW:ct c t m w x d=u7 c m x:=by unfold ct;rw [hmay];simp [hp]
   rw [hW]
   rw [bS (show x.1≠0 by omega),cond_false,bS (show x.1≠1 by omega),cond_false,bS (show x.1≠2 by omega),cond_false,bS (show x.1≠3 by omega),cond_false,bS (show x.1≠4 by omega),cond_false,bS (show x.1≠5 by omega),cond_false,bS (show x.1≠6 by omega),cond_false,bS (show x.1≠7 by omega),cond_false,bS (show x.1≠8 by omega),cond_false,bS (show x.1≠9 by omega),cond_false,bS (show x.1≠10 by omega),cond_false,bS (show x.1≠11 by omega),cond_false,bS (show x.1≠12 by omega),cond_false,bS (show x.1≠13 by omega),cond_false,ue hp,cond_true]
   unfold u7
   rw [hcg]
   simp only [cond_true,cond_false,af,lG,Prod.eta,b6]
   generalize gY c m x.2.2.1=r
   cases ho:go r.2 <;> simp [ho,hp,toW,ef]
  ·have hW:ct c t m w x d=wh t m w x:=by unfold ct;rw [hmay];simp [hp]
   rw [hW]
   rw [bS (show x.1≠0 by omega),cond_false,bS (show x.1≠1 by omega),cond_false,bS (show x.1≠2 by omega),cond_false,bS (show x.1≠3 by omega),cond_false,bS (show x.1≠4 by omega),cond_false,bS (show x.1≠5 by omega),cond_false,bS (show x.1≠6 by omega),cond_false,bS (show x.1≠7 by omega),cond_false,bS (show x.1≠8 by omega),cond_false,bS (show x.1≠9 by omega),cond_false,bS (show x.1≠10 by omega),cond_false,bS (show x.1≠11 by omega),cond_false,bS (show x.1≠12 by omega),cond_false,bS (show x.1≠13 by omega),cond_false,bS (show x.1≠14 by omega),cond_false,ue hp,cond_true]
   simp only [hnx,af,Cu,hadd 0 _ (by decide) (by decide),ER,abl,cond_true,hdo,b6,ms]
   unfold wh
   by_cases h3:(Af t x.2.1).1=3
   ·by_cases h1:aO m 0=1
    ·by_cases h2:doB t x.2.1=[]
     ·simp [h3,h1,h2,CV]
     ·have h4:¬ (((doB t x.2.1).length:Int)=0):=by simp [h2]
      simp [h3,h1,h2,h4,CV,ef]
    ·by_cases h2:doB t x.2.1=[]
     ·simp [h3,h1,h2,CV]
     ·have h4:¬ (((doB t x.2.1).length:Int)=0):=by simp [h2]
      simp [h3,h1,h2,h4,CV,ef]
   ·simp [h3,toW,ef]
end
end Go.Ab
set_option linter.unusedVariables false
namespace Go.Ab
theorem lZ {c:CF} {t:Tyt} {m:List Int} {w:Int} {x:WB} {d:Int} {P:WR→Prop} (hs:d8 c t m w x=false→P (m,x,[])) (p0:d8 c t m w x=true→x.1=0→P (NK c t m w x)) (p1:d8 c t m w x=true→x.1=1→P (Aw c m w x)) (p2:d8 c t m w x=true→x.1=2∨x.1=3→P (pp c m w x d)) (p4:d8 c t m w x=true→x.1=4→P (mq t m w x)) (p5:d8 c t m w x=true→x.1=5→P (wX c m x)) (p6:d8 c t m w x=true→x.1=6→P (nw m x)) (p7:d8 c t m w x=true→x.1=7→P (fB c m x)) (p8:d8 c t m w x=true→x.1=8→P (gm c m x)) (p9:d8 c t m w x=true→x.1=9→P (Lt t m w x)) (p10:d8 c t m w x=true→x.1=10→P (uo t m w x)) (p11:d8 c t m w x=true→x.1=11→P (Aj c m w x)) (p12:d8 c t m w x=true→x.1=12→P (wI c t m w x)) (p13:d8 c t m w x=true→x.1=13→P (KO m w x)) (p14:d8 c t m w x=true→x.1=14→P (u7 c m x)) (p15:d8 c t m w x=true→x.1=15→P (wh t m w x)):P (ct c t m w x d):=by
 unfold ct
 by_cases hm:d8 c t m w x=false
 ·rw [if_pos hm];exact hs hm
 rw [if_neg hm]
 have hm':d8 c t m w x=true:=by simpa using hm
 have hb:0≤x.1∧x.1<16:=by
  unfold d8 at hm'
  simp only [Bool.and_eq_true,decide_eq_true_eq] at hm'
  exact hm'.1.2.2.2
 by_cases e0:x.1=0
 ·rw [if_pos e0];exact p0 hm' e0
 rw [if_neg e0]
 by_cases e1:x.1=1
 ·rw [if_pos e1];exact p1 hm' e1
 rw [if_neg e1]
 by_cases e2:x.1=2∨x.1=3
 ·rw [if_pos e2];exact p2 hm' e2
 rw [if_neg e2]
 by_cases e4:x.1=4
 ·rw [if_pos e4];exact p4 hm' e4
 rw [if_neg e4]
 by_cases e5:x.1=5
 ·rw [if_pos e5];exact p5 hm' e5
 rw [if_neg e5]
 by_cases e6:x.1=6
 ·rw [if_pos e6];exact p6 hm' e6
 rw [if_neg e6]
 by_cases e7:x.1=7
 ·rw [if_pos e7];exact p7 hm' e7
 rw [if_neg e7]
 by_cases e8:x.1=8
 ·rw [if_pos e8];exact p8 hm' e8
 rw [if_neg e8]
 by_cases e9:x.1=9
 ·rw [if_pos e9];exact p9 hm' e9
 rw [if_neg e9]
 by_cases e10:x.1=10
 ·rw [if_pos e10];exact p10 hm' e10
 rw [if_neg e10]
 by_cases e11:x.1=11
 ·rw [if_pos e11];exact p11 hm' e11
 rw [if_neg e11]
 by_cases e12:x.1=12
 ·rw [if_pos e12];exact p12 hm' e12
 rw [if_neg e12]
 by_cases e13:x.1=13
 ·rw [if_pos e13];exact p13 hm' e13
 rw [if_neg e13]
 by_cases e14:x.1=14
 ·rw [if_pos e14];exact p14 hm' e14
 rw [if_neg e14]
 exact p15 hm' (by omega)
end Go.Ab
set_option linter.unusedVariables false
namespace Go.Ab
theorem SA (c:CF) (m:List Int) (f:FR):One m (EH c m f).1:=by
 unfold EH
 repeat' split
 all_goals first | exact One.same m | exact One.store m _ _ | exact One.cas m _ _ _
theorem VQ (c:CF) (m:List Int) (f:FR):One m (TX c m f).1:=by
 unfold TX
 repeat' split
 all_goals first | exact One.same m | exact One.store m _ _ | exact One.cas m _ _ _
theorem MO (c:CF) (m:List Int) (f:FR):One m (rJ c m f).1:=by
 unfold rJ
 dsimp only
 repeat' split
 all_goals first | exact One.same m | exact One.store m _ _ | exact One.cas m _ _ _
theorem LA (c:CF) (m:List Int) (f:FR):One m (gY c m f).1:=by
 unfold gY Ko
 repeat' split
 all_goals first | exact One.same m | exact SA c m f | exact VQ c m f | exact MO c m f | exact Ii c m f
section
variable {c:CF} {t:Tyt} {m:List Int} {w:Int} {x:WB} {d:Int}
theorem CR:One m (ct c t m w x d).1:=by
 refine lZ (P:=fun r=>One m r.1) (fun _=>One.same m) ?_ ?_ ?_ ?_ ?_ ?_ ?_ ?_ ?_ ?_ ?_ ?_ ?_ ?_ ?_
 all_goals intro _ _
 all_goals dsimp only [NK,Aw,pp,mq,wX,nw,fB,gm,Lt,uo,Aj,wI,KO,u7,wh]
 all_goals repeat' split
 all_goals (try dsimp only)
 all_goals first | exact One.same m | exact One.store m _ _ | exact LA c m _
theorem QY:(ct c t m w x d).2.2.length≤2:=by
 refine lZ (P:=fun r=>r.2.2.length≤2) (fun _=>Nat.zero_le _) ?_ ?_ ?_ ?_ ?_ ?_ ?_ ?_ ?_ ?_ ?_ ?_ ?_ ?_ ?_
 all_goals intro _ _
 all_goals dsimp only [NK,Aw,pp,mq,wX,nw,fB,gm,Lt,uo,Aj,wI,KO,u7,wh]
 all_goals repeat' split
 all_goals simp
theorem Nf:(ct c t m w x d).2.1.2.1.length≤x.2.1.length+1:=by
 have h1:=fun q=>Jt t x.2.1 q
 have h2:=U7 t x.2.1
 refine lZ (P:=fun r=>r.2.1.2.1.length≤x.2.1.length+1) (fun _=>Nat.le_succ _) ?_ ?_ ?_ ?_ ?_ ?_ ?_ ?_ ?_ ?_ ?_ ?_ ?_ ?_ ?_
 all_goals intro _ _
 all_goals dsimp only [NK,Aw,pp,mq,wX,nw,fB,gm,Lt,uo,Aj,wI,KO,u7,wh,toW,mF]
 all_goals repeat' split
 all_goals first | exact Nat.le_succ _ | exact h1 _ | (dsimp only;omega) | simp
theorem Gm {s:Tye} (h:dt t s=true) (q:Int):dt t (ou t s q)=true:=by
 unfold ou
 split
 ·rename_i g
  have:=lJ.1 h
  exact gQ.2 ⟨this.1,this.2,aaC this.1 g.2.1 g.2.2⟩
 ·exact h
theorem Wh {s:Tye} (h:dt t s=true):dt t (doB t s)=true:=by
 rcases ng s with rfl | ⟨r,y,rfl⟩
 ·exact h
 ·exact (RX h).1
theorem Gg (h:d8 c t m w x=true):gC c=true∧(m.length:Int)=dr c∧wM t=true∧(0≤w∧w<c.1∧0≤x.1∧x.1<16)∧dt t x.2.1=true:=by
 unfold d8 at h
 simp only [Bool.and_eq_true,decide_eq_true_eq] at h
 exact ⟨h.1.1.1.1,h.1.1.1.2,h.1.1.2,h.1.2,h.2⟩
theorem L5 (h1:gC c=true) (h2:(m.length:Int)=dr c) (h3:wM t=true) (h4:0≤w∧w<c.1∧0≤x.1∧x.1<16) (h5:dt t x.2.1=true):d8 c t m w x=true:=by
 unfold d8
 rw [h1,h3,h5,decide_eq_true h2,decide_eq_true h4]
 rfl
theorem PJ (h:d8 c t m w x=true):d8 c t (ct c t m w x d).1 w (ct c t m w x d).2.1=true:=by
 obtain ⟨h1,h2,h3,h4,h5⟩:=Gg h
 have hl:=(CR (c:=c) (t:=t) (m:=m) (w:=w) (x:=x) (d:=d)).len
 have key:0≤(ct c t m w x d).2.1.1∧(ct c t m w x d).2.1.1<16∧dt t (ct c t m w x d).2.1.2.1=true:=by
  have g1:=Gm h5
  have g2:=Wh h5
  have g3:dt t []=true:=lJ.2 ⟨h3,fun y hy=>absurd hy (by simp)⟩
  refine lZ (P:=fun r=>0≤r.2.1.1∧r.2.1.1<16∧dt t r.2.1.2.1=true) (fun _=>⟨h4.2.2.1,h4.2.2.2,h5⟩) ?_ ?_ ?_ ?_ ?_ ?_ ?_ ?_ ?_ ?_ ?_ ?_ ?_ ?_ ?_
  all_goals intro _ _
  all_goals dsimp only [NK,Aw,pp,mq,wX,nw,fB,gm,Lt,uo,Aj,wI,KO,u7,wh,toW,mF]
  all_goals repeat' split
  all_goals refine ⟨?_,?_,?_⟩
  all_goals (try dsimp only)
  all_goals first | omega | exact h5 | exact g1 _ | exact g2 | exact g3
 exact L5 h1 (by rw [hl];exact h2) h3 ⟨h4.1,h4.2.1,key.1,key.2.1⟩ key.2.2
end
theorem Sy {k:Nat} (hk:9223372036854775808≤k) (x y:WB) (h:x.2.1.length≤9000):∃ b,kq k x y=some b∧(b=true↔x=y):=by
 obtain ⟨a0,sa,⟨f0,f1,f2,f3,f4,f5,f6⟩,a3,a4⟩:=x
 obtain ⟨b0,sb,⟨g0,g1,g2,g3,g4,g5,g6⟩,b3,b4⟩:=y
 unfold kq
 dsimp only at h ⊢
 rw [Wd k hk sa sb (by omega),af]
 simp only [Prod.mk.injEq,Bool.cond_eq_ite,Bool.and_eq_true,beq_iff_eq]
 repeat' split
 all_goals refine ⟨_,rfl,?_⟩
 all_goals simp_all
end Go.Ab
set_option linter.unusedVariables false
namespace Go.Ab
section
variable {c:CF} {m:List Int} {f:FR} {j:Int} (hj:j=0∨j=1∨j=3)
include hj
section
variable (hf:Wf f)
include hf
end
end
section
variable {c:CF} {t:Tyt} {m:List Int} {w:Int} {x:WB} {d:Int}
end
end Go.Ab
set_option linter.unusedVariables false
namespace Go.Ab
theorem IT {c:CF} {m:List Int} {f:FR} (hm:Wm m) (hf:Wf f):Wm (BR c m f).1∧Wf (BR c m f).2∧(BR c m f).1.length=m.length:=by
 have hr:=dL hm 2
 obtain ⟨w3,w4,w5⟩:=hf
 have hk4:=Iu w4.1
 have hk5:=Iu w5.1
 have hc5:=NV hk5.1 hk5.2
 unfold BR
 split
 ·exact ⟨hm,⟨w3,w4,w5⟩,rfl⟩
 ·split
  ·exact ⟨hm,⟨w3,hr,w5⟩,rfl⟩
  ·split
   ·split
    ·refine ⟨hm.set 2 ?_ ?_,?_,(by simp only [];exact ig)⟩
     ·split
      ·exact (ug _ _).1
      ·exact (ug _ _).1
     ·split
      ·exact (ug _ _).2
      ·exact (ug _ _).2
     ·have hl:=Oh (mkB f.2.2.2.2.1)
      simp only []
      by_cases hz:mkB f.2.2.2.2.1=0
      ·rw [if_pos hz]
       exact ⟨by simp [eT],by simp [eT],by simp [eT]⟩
      ·rw [if_neg hz]
       refine ⟨w3,w4,?_⟩
       simp only
       split
       ·split <;> omega
       ·omega
    ·exact ⟨hm,⟨w3,w4,w5⟩,rfl⟩
   ·split
    ·exact ⟨hm.set _ (by decide) (by decide),⟨w5,by simp [eT],by simp [eT]⟩,(by simp only [];exact ig)⟩
    ·refine ⟨hm.set _ (by decide) (by decide),?_,(by simp only [];exact ig)⟩
     split
     ·exact ⟨by simp [eT];omega,by simp [eT],by simp [eT]⟩
     ·exact ⟨w3,w4,by simp only;omega⟩
theorem Y3 {c:CF} {m:List Int} {f:FR} (hm:Wm m) (hf:Wf f):Wm (r5 c m f).1∧Wf (r5 c m f).2:=by
 have hr:=dL hm 2
 obtain ⟨w3,w4,w5⟩:=hf
 have hs:=Yg (w:=f.2.2.1) w5.1 w5.2
 unfold r5
 dsimp only
 split
 ·exact ⟨hm,w3,w4,w5⟩
 ·split
  ·exact ⟨hm,w3,hr,w5⟩
  ·split
   ·split
    ·exact ⟨hm,w3,w4,hr⟩
    ·exact ⟨hm,by simp [eT,Wf]⟩
   ·split
    ·exact ⟨hm.cas _ _ hs.1 hs.2,w3,w4,w5⟩
    ·split
     ·exact ⟨hm,w3,w4,dL hm _⟩
     ·exact ⟨hm.set _ (by decide) (by decide),by simp [eT,Wf]⟩
theorem Zp {c:CF} {m:List Int} {f:FR} (hm:Wm m) (hf:Wf f):Wm (TQ c m f).1∧Wf (TQ c m f).2:=by
 obtain ⟨w3,w4,w5⟩:=hf
 have ha:=gk f.2.2.2.2.1 1
 have hb:=gk (Dj c f.2.2.2.2.1) 1
 unfold TQ
 dsimp only
 split
 ·exact ⟨hm,w3,w4,w5⟩
 ·split
  ·exact ⟨hm,w3,dL hm 5,w5⟩
  ·split
   ·split
    ·exact ⟨hm,w3,w4,dL hm _⟩
    ·split
     ·exact ⟨hm,w3,by simp [eT],by simp [eT]⟩
     ·exact ⟨hm,w3,w4,dL hm _⟩
   ·split
    ·exact ⟨hm.cas _ _ ha.1 ha.2,w3,w4,w5⟩
    ·split
     ·exact ⟨hm.set _ w3.1 w3.2,w3,w4,w5⟩
     ·exact ⟨hm.set _ hb.1 hb.2,w3,by simp [eT],by simp [eT]⟩
theorem acT {c:CF} {m:List Int} {f:FR} (hm:Wm m) (hf:Wf f):Wm (Tn c m f).1∧Wf (Tn c m f).2:=by
 obtain ⟨w3,w4,w5⟩:=hf
 have ha:=gk f.2.2.2.2.1 1
 have hb:=gk (Dp c f.2.2.2.2.1) 1
 unfold Tn
 dsimp only
 split
 ·exact ⟨hm,w3,w4,w5⟩
 ·split
  ·exact ⟨hm,w3,dL hm 4,w5⟩
  ·split
   ·split
    ·exact ⟨hm,w3,w4,dL hm _⟩
    ·split
     ·exact ⟨hm,by simp [eT],by simp [eT],by simp [eT]⟩
     ·exact ⟨hm,w3,w4,dL hm _⟩
   ·split
    ·exact ⟨hm.cas _ _ ha.1 ha.2,w3,w4,w5⟩
    ·split
     ·exact ⟨hm,dL hm _,w4,w5⟩
     ·exact ⟨hm.set _ hb.1 hb.2,w3,by simp [eT],by simp [eT]⟩
theorem MC {c:CF} {m:List Int} {f:FR} (hm:Wm m) (hf:Wf f):Wm (mR c m f).1∧Wf (mR c m f).2:=by
 unfold mR DV JR
 repeat' split
 all_goals first | exact Zp hm hf | exact acT hm hf | exact Y3 hm hf | exact ⟨(IT hm hf).1,(IT hm hf).2.1⟩ | exact ⟨hm,hf⟩
theorem TR {c:CF} {t:Tyt} {m:List Int} {i:Int} {x:SB} (hm:Wm m) (hf:Wf x.2.2) (ht:t.length≤1000):Wm (oo c t m i x).1∧Wf (oo c t m i x).2.1.2.2:=by
 have hc:=MC (c:=c) hm hf
 have hz:Wf ef:=by simp [Wf,ef]
 have h1:=gk (aO m 0) 1
 have h2:=gk (aO m 0) 18446744073709551615
 cases hmay:r7 c t m x with
 | false=>
  have e:oo c t m i x=(m,x,[]):=by unfold oo;rw [hmay,if_pos rfl]
  rw [e]
  exact ⟨hm,hf⟩
 | true=>
  obtain ⟨_,_,_,_,_,r,rest,hx,h6,h7⟩:=GD hmay
  have hh:uX x.2.1=r:=by rw [hx];rfl
  unfold oo
  rw [hmay,if_neg (by simp),hh]
  dsimp only
  have h3:Wf (3,0,i,r,0,0,0):=⟨⟨h6,by simp only;omega⟩,by simp,by simp⟩
  have h4:Wf (6,0,i,0,0,0,0):=by simp [Wf]
  repeat' split
  all_goals first | exact ⟨hm,hf⟩ | exact ⟨hm,hz⟩ | exact ⟨hm,h4⟩ | exact ⟨hm.set 0 h1.1 h1.2,h3⟩ | exact hc | exact ⟨hc.1,hz⟩ | exact ⟨hm.set 0 h2.1 h2.2,hz⟩
end Go.Ab
set_option linter.unusedVariables false
namespace Go.Ab
abbrev PB:=CF×Tyt×List Int×List WB×List SB
abbrev PK:=Int×Int×Int
def wj (t:Tyt) (x:SB):Bool:=decide (0≤x.1∧x.1<6)&&x.2.1.all (fun r=>decide (0≤r∧r<t.length))&&(decide (x.1=0)||decide (x.2.1≠[]))
def E9 (c:CF) (t:Tyt) (m:List Int):Nat→List WB→Bool
 | _,[]=>true
 | i,x::l=>d8 c t m i x&&E9 c t m (i+1) l
def eI (p:PB):Bool:=gC p.1&&decide ((p.2.2.2.1.length:Int)=p.1.1∧p.2.2.2.2.length≤3)&&E9 p.1 p.2.1 p.2.2.1 0 p.2.2.2.1&&p.2.2.2.2.all (wj p.2.1)
def Ax (k:PK) (w s:Int):Bool:=decide (k.1=0∧0≤k.2.1∧k.2.1<w∨k.1=1∧0≤k.2.1∧k.2.1<s∨k.1=2∨k.1=3)
def fO (p:PB) (k:PK):PB×List EV:=
 if k.1=0 then match p.2.2.2.1[k.2.1.toNat]? with
  | some x=>((p.1,p.2.1,(ct p.1 p.2.1 p.2.2.1 k.2.1 x k.2.2).1,p.2.2.2.1.set k.2.1.toNat (ct p.1 p.2.1 p.2.2.1 k.2.1 x k.2.2).2.1,p.2.2.2.2),(ct p.1 p.2.1 p.2.2.1 k.2.1 x k.2.2).2.2)
  | none=>(p,[])
 else if k.1=1 then match p.2.2.2.2[k.2.1.toNat]? with
  | some x=>if r7 p.1 p.2.1 p.2.2.1 x=true then ((p.1,p.2.1,(oo p.1 p.2.1 p.2.2.1 k.2.1 x).1,p.2.2.2.1,p.2.2.2.2.set k.2.1.toNat (oo p.1 p.2.1 p.2.2.1 k.2.1 x).2.1),(oo p.1 p.2.1 p.2.2.1 k.2.1 x).2.2) else (p,[])
  | none=>(p,[])
 else if k.1=2 then ((p.1,p.2.1,bW p.2.2.1 3 1,p.2.2.2.1,p.2.2.2.2),[])
 else (p,[])
def mB (p:PB):List PK→PB×List EV
 | []=>(p,[])
 | k::l=>if Ax k p.1.1 p.2.2.2.2.length=true then ((mB (fO p k).1 l).1,(fO p k).2++(mB (fO p k).1 l).2) else mB p l
def adY (p:PB) (l:List PK):PB×List EV:=if eI p=true then mB p l else (p,[])
theorem WP {c:CF} {m:List Int} {f:FR} (hm:Wm m) (hf:Wf f):Wm (EH c m f).1∧Wf (EH c m f).2:=by
 have hl:=fun i=>dL hm i
 obtain ⟨w3,w4,w5⟩:=hf
 have ha:=gk f.2.2.2.2.1 1
 unfold EH
 repeat' split
 ·exact ⟨hm,w3,w4,w5⟩
 ·exact ⟨hm,w3,hl _,w5⟩
 ·exact ⟨hm,w3,by simp [eT],by simp [eT]⟩
 ·exact ⟨hm,w3,w4,hl _⟩
 ·exact ⟨hm.set _ w3.1 w3.2,w3,w4,w5⟩
 ·exact ⟨hm.set _ ha.1 ha.2,w3,by simp [eT],by simp [eT]⟩
theorem acP {c:CF} {m:List Int} {f:FR} (hm:Wm m) (hf:Wf f):Wm (TX c m f).1∧Wf (TX c m f).2:=by
 have hl:=fun i=>dL hm i
 obtain ⟨w3,w4,w5⟩:=hf
 have ha:=gk f.2.2.2.2.1 1
 have hb:=gk f.2.2.2.2.2.1 1
 have hs:=fun a b=>Py a b
 unfold TX
 dsimp only
 split
 ·exact ⟨hm,w3,w4,w5⟩
 split
 ·exact ⟨hm,w3,hs _ _,w5⟩
 split
 ·exact ⟨hm.set _ w4.1 w4.2,w3,w4,w5⟩
 split
 ·exact ⟨hm,w3,w4,hl _⟩
 split
 ·split
  ·exact ⟨hm,hl _,by simp [eT],by simp [eT]⟩
  ·exact ⟨hm,hl _,w4,w5⟩
 split
 ·exact ⟨hm.cas _ _ hb.1 hb.2,w3,w4,w5⟩
 split
 ·exact ⟨hm.set _ ha.1 ha.2,w3,by simp [eT],by simp [eT]⟩
 ·exact ⟨hm.set _ ha.1 ha.2,by simp [eT],by simp [eT],by simp [eT]⟩
theorem PI {c:CF} {m:List Int} {f:FR} (hm:Wm m) (hf:Wf f):Wm (rJ c m f).1∧Wf (rJ c m f).2:=by
 have hl:=fun i=>dL hm i
 obtain ⟨w3,w4,w5⟩:=hf
 have hb:=gk f.2.2.2.2.2.1 1
 unfold rJ
 dsimp only
 split
 ·exact ⟨hm,w3,w4,w5⟩
 split
 ·exact ⟨hm,w3,w4,hl _⟩
 split
 ·split
  ·exact ⟨hm,by simp [eT],by simp [eT],by simp [eT]⟩
  ·exact ⟨hm,w3,hl _,w5⟩
 split
 ·exact ⟨hm,hl _,w4,w5⟩
 split
 ·exact ⟨hm.cas _ _ hb.1 hb.2,w3,by simp [eT],by simp [eT]⟩
 ·exact ⟨hm.cas _ _ hb.1 hb.2,by simp [eT],by simp [eT],by simp [eT]⟩
theorem IU {c:CF} {m:List Int} {f:FR} (hm:Wm m) (hf:Wf f):Wm (gY c m f).1∧Wf (gY c m f).2:=by
 unfold gY Ko
 split
 ·split
  ·exact WP hm hf
  ·split
   ·exact acP hm hf
   ·split
    ·exact PI hm hf
    ·exact ⟨hm,hf⟩
 ·exact MC hm hf
structure WOk (n:Nat) (x:WB):Prop where
 f:Wf x.2.2.1
 s:x.2.1.length≤n
 sp:x.2.2.2.1≤9223372036854775807
structure SOk (x:SB):Prop where
 f:Wf x.2.2
 s:x.2.1.length≤1000
theorem Xz (a:Int):0≤IntKind.u64.wrap a∧IntKind.u64.wrap a≤18446744073709551615:=by
 rw [CS]
 omega
section
variable {c:CF} {t:Tyt} {m:List Int} {w:Int} {x:WB} {d:Int} {n:Nat}
theorem U6 (hm:Wm m) (hf:Wf x.2.2.1):Wm (ct c t m w x d).1:=by
 have h1:=(IU (c:=c) hm hf).1
 have h2:=fun a b=>gk a b
 refine lZ (P:=fun r=>Wm r.1) (fun _=>hm) ?_ ?_ ?_ ?_ ?_ ?_ ?_ ?_ ?_ ?_ ?_ ?_ ?_ ?_ ?_
 all_goals intro _ _
 all_goals dsimp only [NK,Aw,pp,mq,wX,nw,fB,gm,Lt,uo,Aj,wI,KO,u7,wh]
 all_goals repeat' split
 all_goals (try dsimp only)
 all_goals first | exact hm | exact h1 | exact hm.set _ (h2 _ _).1 (h2 _ _).2
theorem Y7 (hm:Wm m) (hf:Wf x.2.2.1):Wf (ct c t m w x d).2.1.2.2.1:=by
 have h1:=(IU (c:=c) hm hf).2
 have h2:=fun i=>dL hm i
 have h3:=fun a=>Xz a
 have z:Wf ef:=by simp [Wf,ef]
 have zr:(0:Int)≤0∧(0:Int)≤18446744073709551615:=by decide
 have b:∀ op w,Wf (Gq op w 0):=fun op w=>by simp [Wf,Gq]
 have b2:∀ op w v,0≤v∧v≤18446744073709551615→Wf (Gq op w v):=fun op w v h=>⟨h,by simp [Gq],by simp [Gq]⟩
 obtain ⟨w3,w4,w5⟩:=hf
 refine lZ (P:=fun r=>Wf r.2.1.2.2.1) (fun _=>⟨w3,w4,w5⟩) ?_ ?_ ?_ ?_ ?_ ?_ ?_ ?_ ?_ ?_ ?_ ?_ ?_ ?_ ?_
 all_goals intro _ _
 all_goals dsimp only [NK,Aw,pp,mq,wX,nw,fB,gm,Lt,uo,Aj,wI,KO,u7,wh,toW,mF,Gz]
 all_goals repeat' split
 all_goals (try dsimp only)
 all_goals first | exact h1 | exact z | exact b _ _ | exact b2 _ _ _ (h3 _) | exact b2 _ _ _ h1.1 | exact ⟨w3,w4,w5⟩ | exact ⟨h2 _,w4,w5⟩ | exact ⟨h2 4,w4,w5⟩ | exact ⟨zr,w4,w5⟩
theorem YO (hc:gC c=true) (hs:x.2.2.2.1≤9223372036854775807):(ct c t m w x d).2.1.2.2.2.1≤9223372036854775807:=by
 have h4:=bT hc
 refine lZ (P:=fun r=>r.2.1.2.2.2.1≤9223372036854775807) (fun _=>hs) ?_ ?_ ?_ ?_ ?_ ?_ ?_ ?_ ?_ ?_ ?_ ?_ ?_ ?_ ?_
 all_goals intro _ _
 all_goals dsimp only [NK,Aw,pp,mq,wX,nw,fB,gm,Lt,uo,Aj,wI,KO,u7,wh,toW,mF]
 all_goals repeat' split
 all_goals (try dsimp only)
 all_goals omega
theorem WN (hc:gC c=true) (hm:Wm m) (h:WOk n x):WOk (n+1) (ct c t m w x d).2.1:=
 ⟨Y7 hm h.f,by have:=Nf (c:=c) (t:=t) (m:=m) (w:=w) (x:=x) (d:=d);have:=h.s;omega,YO hc h.sp⟩
end
section
variable {c:CF} {t:Tyt} {m:List Int} {i:Int} {x:SB}
theorem QQ:One m (oo c t m i x).1:=by
 unfold oo
 dsimp only
 repeat' split
 all_goals first | exact One.same m | exact One.store m _ _ | (dsimp only;exact One.store m _ _) | exact Ii c m _
theorem Ht:(oo c t m i x).1.length=m.length:=QQ.len
theorem pP:(oo c t m i x).2.1.2.1=x.2.1∨(oo c t m i x).2.1.2.1=x.2.1.tail∧(oo c t m i x).2.1.1=0:=by
 unfold oo
 dsimp only
 repeat' split
 all_goals first | exact .inl rfl | exact .inr ⟨rfl,rfl⟩
theorem R4:(oo c t m i x).2.2.length≤2:=by
 unfold oo
 dsimp only
 repeat' split
 all_goals simp
theorem aaF (h:0≤x.1∧x.1<6):0≤(oo c t m i x).2.1.1∧(oo c t m i x).2.1.1<6:=by
 unfold oo
 dsimp only
 repeat' split
 all_goals (try dsimp only)
 all_goals omega
theorem W1 (h:wj t x=true) (hm:r7 c t m x=true):wj t (oo c t m i x).2.1=true:=by
 unfold wj at h ⊢
 simp only [Bool.and_eq_true,decide_eq_true_eq,List.all_eq_true,Bool.or_eq_true] at h ⊢
 obtain ⟨_,_,_,h4,h5,r,rest,hx,h6,h7⟩:=GD hm
 refine ⟨⟨aaF h.1.1,fun y hy => ?_⟩,?_⟩
 ·rcases pP (c:=c) (t:=t) (m:=m) (i:=i) (x:=x) with e | e
  ·rw [e] at hy;exact h.1.2 y hy
  ·rw [e.1] at hy;exact h.1.2 y (List.mem_of_mem_tail hy)
 ·rcases pP (c:=c) (t:=t) (m:=m) (i:=i) (x:=x) with e | e
  ·refine .inr ?_
   rw [e,hx]
   simp
  ·exact .inl e.2
theorem aaZ (hm:Wm m) (ht:t.length≤1000) (h:SOk x):SOk (oo c t m i x).2.1:=by
 refine ⟨(TR hm h.f ht).2,?_⟩
 have:=h.s
 rcases pP (c:=c) (t:=t) (m:=m) (i:=i) (x:=x) with e | e
 ·rw [e];exact h.s
 ·rw [e.1,List.length_tail];omega
end
structure Good (n:Nat) (p:PB):Prop where
 t:FwT p.2.1
 tl:p.2.1.length≤1000
 m:Wm p.2.2.1
 w:∀ x ∈ p.2.2.2.1,WOk n x
 s:∀ x ∈ p.2.2.2.2,SOk x
theorem uO {c:CF} {t:Tyt} {m:List Int}:∀ {l:List WB} {i:Nat},E9 c t m i l=true↔∀ (j:Nat) x,l[j]? = some x→d8 c t m ((i+j:Nat):Int) x=true
 | [],i=>by simp [E9]
 | y::l,i=>by
  rw [E9,Bool.and_eq_true,uO (l:=l)]
  constructor
  ·intro h j x hx
   cases j with
   | zero=>cases hx;exact h.1
   | succ j=>
    have:=h.2 j x hx
    rw [show i+(j+1)=i+1+j by omega]
    exact this
  ·intro h
   refine ⟨h 0 y rfl,fun j x hx => ?_⟩
   have:=h (j+1) x hx
   rw [show i+1+j=i+(j+1) by omega]
   exact this
theorem w8 {c:CF} {t:Tyt} {m m':List Int} {w:Int} {x:WB} (h:m'.length=m.length):d8 c t m' w x=d8 c t m w x:=by
 unfold d8
 rw [h]
theorem mK {p:PB} (h:eI p=true):gC p.1=true∧(p.2.2.2.1.length:Int)=p.1.1∧p.2.2.2.2.length≤3∧(∀ (j:Nat) x,p.2.2.2.1[j]? = some x→d8 p.1 p.2.1 p.2.2.1 (j:Int) x=true)∧(∀ x ∈ p.2.2.2.2,wj p.2.1 x=true):=by
 unfold eI at h
 simp only [Bool.and_eq_true,decide_eq_true_eq,List.all_eq_true] at h
 refine ⟨h.1.1.1,h.1.1.2.1,h.1.1.2.2,fun j x hx => ?_,h.2⟩
 have:=uO.1 h.1.2 j x hx
 rw [Nat.zero_add] at this
 exact this
theorem BE {p:PB} (h1:gC p.1=true) (h2:(p.2.2.2.1.length:Int)=p.1.1) (h3:p.2.2.2.2.length≤3) (h4:∀ (j:Nat) x,p.2.2.2.1[j]? = some x→d8 p.1 p.2.1 p.2.2.1 (j:Int) x=true) (h5:∀ x ∈ p.2.2.2.2,wj p.2.1 x=true):eI p=true:=by
 unfold eI
 simp only [Bool.and_eq_true,decide_eq_true_eq,List.all_eq_true]
 refine ⟨⟨⟨h1,h2,h3⟩,uO.2 fun j x hx => ?_⟩,h5⟩
 rw [Nat.zero_add]
 exact h4 j x hx
theorem Gu {α:Type} {l:List α} {i:Nat} {y x:α} (h:x ∈ l.set i y):x ∈ l∨x=y:=by
 rcases List.mem_or_eq_of_mem_set h with h | h
 ·exact .inl h
 ·exact .inr h
theorem nd {p:PB} {k:PK} {P:PB×List EV→Prop} (h0:P (p,[]))
  (hw:∀ x,p.2.2.2.1[k.2.1.toNat]? = some x→k.1=0→P ((p.1,p.2.1,(ct p.1 p.2.1 p.2.2.1 k.2.1 x k.2.2).1,p.2.2.2.1.set k.2.1.toNat (ct p.1 p.2.1 p.2.2.1 k.2.1 x k.2.2).2.1,p.2.2.2.2),(ct p.1 p.2.1 p.2.2.1 k.2.1 x k.2.2).2.2))
  (hs:∀ x,p.2.2.2.2[k.2.1.toNat]? = some x→r7 p.1 p.2.1 p.2.2.1 x=true→P ((p.1,p.2.1,(oo p.1 p.2.1 p.2.2.1 k.2.1 x).1,p.2.2.2.1,p.2.2.2.2.set k.2.1.toNat (oo p.1 p.2.1 p.2.2.1 k.2.1 x).2.1),(oo p.1 p.2.1 p.2.2.1 k.2.1 x).2.2))
  (hc:P ((p.1,p.2.1,bW p.2.2.1 3 1,p.2.2.2.1,p.2.2.2.2),[])):P (fO p k):=by
 unfold fO
 split
 ·rename_i e
  split
  ·rename_i x hx;exact hw x hx e
  ·exact h0
 ·split
  ·split
   ·rename_i x hx
    split
    ·rename_i hm;exact hs x hx hm
    ·exact h0
   ·exact h0
  ·split
   ·exact hc
   ·exact h0
theorem Qa {p:PB} {k:PK}:(fO p k).1.2.2.1.length=p.2.2.1.length:=by
 refine nd (P:=fun r=>r.1.2.2.1.length=p.2.2.1.length) rfl (fun x _ _=>CR.len) (fun x _ _=>Ht) (show (bW p.2.2.1 3 1).length=p.2.2.1.length from ig)
theorem DA {p:PB} {k:PK}:(fO p k).1.1=p.1∧(fO p k).1.2.1=p.2.1∧(fO p k).1.2.2.2.1.length=p.2.2.2.1.length∧(fO p k).1.2.2.2.2.length=p.2.2.2.2.length:=by
 refine nd (P:=fun r=>r.1.1=p.1∧r.1.2.1=p.2.1∧r.1.2.2.2.1.length=p.2.2.2.1.length∧r.1.2.2.2.2.length=p.2.2.2.2.length) ⟨rfl,rfl,rfl,rfl⟩ (fun x _ _=>⟨rfl,rfl,List.length_set,rfl⟩) (fun x _ _=>⟨rfl,rfl,rfl,List.length_set⟩) ⟨rfl,rfl,rfl,rfl⟩
theorem Iw {p:PB} {k:PK}:(fO p k).2.length≤2:=
 nd (P:=fun r=>r.2.length≤2) (Nat.zero_le _) (fun x _ _=>QY) (fun x _ _=>R4) (Nat.zero_le _)
theorem Eh {n:Nat} {p:PB} {k:PK} (h:Good n p) (hc:gC p.1=true):Good (n+1) (fO p k).1:=by
 have up:∀ x ∈ p.2.2.2.1,WOk (n+1) x:=fun x hx=>⟨(h.w x hx).f,Nat.le_succ_of_le (h.w x hx).s,(h.w x hx).sp⟩
 refine nd (P:=fun r=>Good (n+1) r.1) ⟨h.t,h.tl,h.m,up,h.s⟩ (fun x hx _ => ?_) (fun x hx _ => ?_) ⟨h.t,h.tl,show Wm (bW p.2.2.1 3 1) from h.m.set 3 (by decide) (by decide),up,h.s⟩
 ·have hx':=h.w x (List.mem_of_getElem? hx)
  refine ⟨h.t,h.tl,U6 h.m hx'.f,fun y hy => ?_,h.s⟩
  rcases Gu hy with hy | rfl
  ·exact up y hy
  ·exact WN hc h.m hx'
 ·have hx':=h.s x (List.mem_of_getElem? hx)
  refine ⟨h.t,h.tl,(TR h.m hx'.f h.tl).1,up,fun y hy => ?_⟩
  rcases Gu hy with hy | rfl
  ·exact h.s y hy
  ·exact aaZ h.m h.tl hx'
theorem ub {p:PB} {k:PK} (h:eI p=true) (hk:Ax k p.1.1 p.2.2.2.2.length=true):eI (fO p k).1=true:=by
 obtain ⟨h1,h2,h3,h4,h5⟩:=mK h
 refine nd (P:=fun r=>eI r.1=true) h (fun x hx hk0 => ?_) (fun x hx hm => ?_) ?_
 ·have h0:0≤k.2.1:=by
   unfold Ax at hk
   rw [decide_eq_true_eq] at hk
   omega
  have hkk:((k.2.1.toNat:Nat):Int)=k.2.1:=by omega
  refine BE h1 (by dsimp only;rw [List.length_set];exact h2) h3 (fun j y hy => ?_) h5
  dsimp only at hy ⊢
  rw [List.getElem?_set] at hy
  split at hy
  ·rename_i e
   split at hy
   ·cases hy
    subst e
    rw [hkk]
    have:=h4 _ x hx
    rw [hkk] at this
    exact PJ this
   ·cases hy
  ·rw [w8 CR.len]
   exact h4 j y hy
 ·refine BE h1 h2 (by dsimp only;rw [List.length_set];exact h3) (fun j y hy => ?_) fun y hy => ?_
  ·dsimp only
   rw [w8 Ht]
   exact h4 j y hy
  ·rcases Gu hy with hy | rfl
   ·exact h5 y hy
   ·exact W1 (h5 x (List.mem_of_getElem? hx)) hm
 ·refine BE h1 h2 h3 (fun j y hy => ?_) h5
  dsimp only
  rw [w8 ig]
  exact h4 j y hy
theorem FZ {P:PB→Prop} (hs:∀ p k,eI p=true→Ax k p.1.1 p.2.2.2.2.length=true→P p→P (fO p k).1):∀ {l:List PK} {p:PB},eI p=true→P p→P (mB p l).1∧eI (mB p l).1=true
 | [],p,h,hp=>⟨hp,h⟩
 | k::l,p,h,hp=>by
  rw [mB]
  split
  ·rename_i hk
   exact FZ hs (ub h hk) (hs p k h hk hp)
  ·exact FZ hs h hp
end Go.Ab
set_option linter.unusedVariables false
set_option linter.unusedSimpArgs false
namespace Go.Ab
theorem Ft (n w:Int):cJ n w=some (decide (0≤n∧n<w)):=by
 unfold cJ
 by_cases h0:0≤n
 ·rw [leT h0,cond_true]
  by_cases h1:n<w
  ·rw [ltT h1,decide_eq_true ⟨h0,h1⟩]
  ·rw [ltF (by omega),decide_eq_false (by omega)]
 ·rw [leF (by omega),cond_false,decide_eq_false (by omega)]
theorem U3 (k:PK) (w s:Int):gK k w s=some (Ax k w s):=by
 unfold gK Ax
 simp only [Ft,af,ms]
 by_cases h0:k.1=0
 ·by_cases hb:0≤k.2.1∧k.2.1<w
  ·simp [h0,hb]
  ·simp [h0,hb]
 ·by_cases h1:k.1=1
  ·by_cases hb:0≤k.2.1∧k.2.1<s
   ·simp [h1,hb]
   ·simp [h1,hb]
  ·by_cases h2:k.1=2
   ·simp [h2]
   ·simp [h0,h1,h2]
theorem uc {α:Type}:∀ {l:List α} {i:Nat} {x:α},l[i]? = some x→l.set i x=l
 | [],_,_,h=>by cases h
 | a::l,0,x,h=>by cases h;rfl
 | a::l,i+1,x,h=>by rw [List.set_cons_succ,uc (l:=l) (by simpa using h)]
theorem ahv {i n:Nat} (h:i<n):decide ((0:Int)≤(i:Int)∧(i:Int).toNat<n)=true:=decide_eq_true ⟨by omega,by omega⟩
theorem G6 (k:Nat) (hk:1000≤k) {t:Tyt} (ht:FwT t):dw k t=some t:=by
 have hl:=ht.len
 unfold dw
 rw [bF (by omega),af]
 have key:∀ (r:Tyt) (q n:Nat),t.drop q=r→q≤t.length→r.length<n→dk k t n t (t.length:Int) (q:Int) t=some t:=by
  intro r
  induction r with
  | nil=>
   intro q n hr hq hn
   obtain ⟨n,rfl⟩:=fF hn
   have:=cC hr
   rw [dk,ltF (by omega),cond_false,decide_eq_true (Nat.le_refl _),bA,List.take_length]
  | cons v r ih=>
   intro q n hr hq hn
   obtain ⟨n,rfl⟩:=fF hn
   obtain ⟨h0,h1,h2,_,h4⟩:=bO hr
   have hv:=ht.kids v (List.mem_of_getElem? h1)
   rw [dk,ltN h0,cond_true,ahv h0,cond_true,Int.toNat_natCast,h1,af,bF (by omega),af,cond_true,af,eQ (by omega),uc h1]
   exact ih (q+1) n h2 (by omega) (by simp only [List.length_cons] at hn;omega)
 have:=key t 0 (k+1) rfl (Nat.zero_le _) (by omega)
 simpa using this
theorem ahc (k n:Nat) {t:Tyt} {l:List Int} (hl:l.length≤1000) (hn:l.length<n):cA k n l (l.length:Int) t 0=some (GR (fun r => !decide (0≤r∧r<(t.length:Int))) l 0):=by
 refine Ha (F:=fun n i=>cA k n l (l.length:Int) t i) (l:=l) _ ?_ ?_ n hn
 ·intro n
  simp only [cA,oU,cond_false]
 ·intro n i x hi hx
  simp only [cA,ltN hi,cond_true,dS hx,af]
  rw [eQ (by omega)]
  by_cases h0:x<0
  ·rw [ltT h0,cond_true,decide_eq_false (by omega)]
   rfl
  ·rw [ltF (by omega),cond_false]
   by_cases h1:(t.length:Int)≤x
   ·rw [leT h1,cond_true,decide_eq_false (by omega)]
    rfl
   ·rw [leF (by omega),cond_false,decide_eq_true (by omega)]
    rfl
theorem adN (k n:Nat) (hk:1000≤k) {t:Tyt} {S:List SB} (hS:S.length≤1000) (hr:∀ x ∈ S,x.2.1.length≤1000) (hn:S.length<n):bX k n S (S.length:Int) t 0=some (GR (fun x => !wj t x) S 0):=by
 refine Ha (F:=fun n i=>bX k n S (S.length:Int) t i) (l:=S) _ ?_ ?_ n hn
 ·intro n
  simp only [bX,oU,cond_false]
 ·intro n i x hi hx
  have hx':=hr x (List.mem_of_getElem? hx)
  have ho:=ahc k (k+29) (t:=t) hx' (by omega)
  simp only [bX,ltN hi,cond_true,dS hx,af,ho,nH]
  rw [eQ (by omega)]
  have e:wj t x=(decide (0≤x.1∧x.1<6) && !(x.2.1.any fun r => !decide (0≤r∧r<(t.length:Int)))&&(decide (x.1=0)||decide (x.2.1≠[]))):=by
   unfold wj
   rw [List.all_eq_not_any_not]
  rw [e,Cu,ms]
  by_cases h0:x.1<0
  ·rw [ltT h0,cond_true,decide_eq_false (show ¬ (0≤x.1∧x.1<6) by omega)]
   rfl
  ·rw [ltF (by omega),cond_false]
   by_cases h6:6≤x.1
   ·rw [leT h6,cond_true,decide_eq_false (show ¬ (0≤x.1∧x.1<6) by omega)]
    rfl
   ·rw [leF (by omega),cond_false,decide_eq_true (show 0≤x.1∧x.1<6 by omega)]
    cases (x.2.1.any fun r => !decide (0≤r∧r<(t.length:Int))) with
    | true=>rfl
    | false=>
     rw [cond_false]
     by_cases hz:x.1=0
     ·rw [decide_eq_true hz]
      rfl
     ·rw [decide_eq_false hz,Bool.not_false,cond_true]
      by_cases hn:x.2.1=[]
      ·rw [hn]
       rfl
      ·have hl:¬ ((x.2.1.length:Int)=0):=by
        intro h
        exact hn (List.length_eq_zero_iff.1 (by omega))
       rw [decide_eq_false hl,decide_eq_true hn]
       rfl
section
variable {k:Nat} (hk:9223372036854779000≤k) {p:PB} (ht:Wt p.2.1) (hw:∀ x ∈ p.2.2.2.1,x.2.1.length≤9000) (hs:∀ x ∈ p.2.2.2.2,x.2.1.length≤1000)
include hk ht hw hs
theorem Dt:eF k p=some (eI p):=by
 unfold eF eI
 simp only [Prod.eta,gi,af]
 cases hm:gC p.1 with
 | false=>rfl
 | true=>
  have hc:=bT hm
  rw [Bool.not_true,cond_false,Bool.true_and,Cu]
  by_cases h1:(p.2.2.2.1.length:Int)=p.1.1
  ·rw [decide_eq_true h1,Bool.not_true,cond_false]
   by_cases h3:(3:Int)<p.2.2.2.2.length
   ·rw [ltT h3,cond_true,decide_eq_false (by omega)]
    rfl
   ·rw [ltF (by omega),cond_false,decide_eq_true ⟨h1,by omega⟩,Bool.true_and]
    have key:∀ (r:List WB) (q n:Nat),p.2.2.2.1.drop q=r→q≤p.2.2.2.1.length→r.length<n→ee k p n (q:Int)=some (E9 p.1 p.2.1 p.2.2.1 q r&&p.2.2.2.2.all (wj p.2.1)):=by
     intro r
     induction r with
     | nil=>
      intro q n hr hq hn
      obtain ⟨n,rfl⟩:=fF hn
      have:=cC hr
      rw [ee,ltF (by omega),cond_false,adN k (k+32) (by omega) (by omega) hs (by omega),af,nH,E9,Bool.true_and,List.all_eq_not_any_not]
     | cons v r ih=>
      intro q n hr hq hn
      obtain ⟨n,rfl⟩:=fF hn
      obtain ⟨h0,h1',h2,_,h4⟩:=bO hr
      have hv:=hw v (List.mem_of_getElem? h1')
      rw [ee,ltN h0,cond_true,dS h1',af]
      try simp only [Prod.eta]
      rw [Ok (by omega) p.1 ht p.2.2.1 (q:Int) v hv,af,E9,eQ (by omega),ih (q+1) n h2 (by omega) (by simp only [List.length_cons] at hn;omega)]
      cases d8 p.1 p.2.1 p.2.2.1 (q:Int) v <;> rfl
    have:=key p.2.2.2.1 0 (k+33) rfl (Nat.zero_le _) (by omega)
    simpa using this
  ·rw [decide_eq_false h1,Bool.not_false,cond_true,decide_eq_false (fun h=>h1 h.1)]
   rfl
end
theorem Nz (k:Nat) (c1 c2 c3 c4:Int) (t:Tyt) (m:List Int) (W:List WB) {S:List SB} (hS:S.length≤1000) (hr:∀ x ∈ S,x.2.1.length≤1000):∀ (r:List SB) (q n:Nat),S.drop q=r→q≤S.length→r.length<n →
  cS k n c1 c2 c3 c4 t m W S (S.length:Int) W (q:Int) S=some (c1,c2,c3,c4,t,m,W,S,W,S):=by
 intro r
 induction r with
 | nil=>
  intro q n hr hq hn
  obtain ⟨n,rfl⟩:=fF hn
  have:=cC hr
  rw [cS,ltF (by omega),cond_false]
 | cons v r ih=>
  intro q n hr' hq hn
  obtain ⟨n,rfl⟩:=fF hn
  obtain ⟨h0,h1,h2,_,h4⟩:=bO hr'
  have hv:=hr v (List.mem_of_getElem? h1)
  rw [cS,ltN h0,cond_true,ahv h0,cond_true,Int.toNat_natCast,h1,af,bF (by omega),af,cond_true,af,eQ (by omega)]
  try simp only [Prod.eta]
  rw [uc h1]
  exact ih (q+1) n h2 (by omega) (by simp only [List.length_cons] at hn;omega)
theorem Ib (k:Nat) (hk:1000≤k) (c1 c2 c3 c4:Int) (t:Tyt) (m:List Int) {W:List WB} {S:List SB} (hW:W.length≤1000) (hw:∀ x ∈ W,x.2.1.length≤9000) (hS:S.length≤1000) (hs:∀ x ∈ S,x.2.1.length≤1000):∀ (r:List WB) (q n:Nat),W.drop q=r→q≤W.length→r.length<n →
  bY k n c1 c2 c3 c4 t m W S (W.length:Int) (q:Int) W=some (c1,c2,c3,c4,t,m,W,S,W,S):=by
 intro r
 induction r with
 | nil=>
  intro q n hr hq hn
  obtain ⟨n,rfl⟩:=fF hn
  have:=cC hr
  rw [bY,ltF (by omega),cond_false]
  exact Nz k c1 c2 c3 c4 t m W hS hs S 0 (k+61) rfl (Nat.zero_le _) (by omega)
 | cons v r ih=>
  intro q n hr' hq hn
  obtain ⟨n,rfl⟩:=fF hn
  obtain ⟨h0,h1,h2,_,h4⟩:=bO hr'
  have hv:=hw v (List.mem_of_getElem? h1)
  rw [bY,ltN h0,cond_true,ahv h0,cond_true,Int.toNat_natCast,h1,af,bF (by omega),af,cond_true,af,eQ (by omega)]
  try simp only [Prod.eta]
  rw [uc h1]
  exact ih (q+1) n h2 (by omega) (by simp only [List.length_cons] at hn;omega)
def Wp (l:List PK):Prop:=∀ x ∈ l,0≤x.2.2∧x.2.2≤18446744073709551615
section
variable {k:Nat} (hk:9223372036854779000≤k) {p0:PB} {l:List PK} (hl:l.length≤1000) (hd:Wp l)
include hk hl hd
theorem RR:∀ (r:List PK) (q n N:Nat) (p:PB) (W0:List WB) (S0:List SB) (evs:List EV) (e:Nat),l.drop q=r→q≤l.length→r.length<n→(e=3∨e=0)→p.1=p0.1→p.2.2.2.2.length=p0.2.2.2.2.length→W0.length=p.2.2.2.1.length→S0.length=p.2.2.2.2.length→Good N p→eI p=true→N+r.length≤9000→evs.length+2*r.length≤4000 →
  bt k p0 l n p.1.1 p.1.2.1 p.1.2.2.1 p.1.2.2.2 p.2.1 W0 S0 p.2.2.2.1 p.2.2.2.2 evs (q:Int) p.2.2.1 e=some ((mB p r).1,evs++(mB p r).2):=by
 intro r
 induction r with
 | nil=>
  intro q n N p W0 S0 evs e hr hq hn he hc hS hW0 hS0 hg hm hN hE
  obtain ⟨n,rfl⟩:=fF hn
  have:=cC hr
  rw [bt,ltF (by omega),cond_false,decide_eq_true (by omega),bA,decide_eq_true (by omega),bA,hW0,hS0,List.take_length,List.take_length,mB,List.append_nil]
 | cons v r ih=>
  intro q n N p W0 S0 evs e hr hq hn he hc hS hW0 hS0 hg hm hN hE
  obtain ⟨n,rfl⟩:=fF hn
  obtain ⟨h0,h1,h2,_,h4⟩:=bO hr
  have hv:=hd v (List.mem_of_getElem? h1)
  obtain ⟨m1,m2,m3,m4,m5⟩:=mK hm
  have hcc:=bT m1
  simp only [List.length_cons] at hn hN hE
  have hml:p.2.2.1.length≤1000:=by
   have hW1:0<p.2.2.2.1.length:=by omega
   have:=(Gg (m4 0 _ (List.getElem?_eq_getElem hW1))).2.1
   have:=oz m1
   omega
  have hes:(e==3||e==0)=true:=by rcases he with rfl | rfl <;> rfl
  have next:∀ (evs':List EV) (p':PB),p'.1=p.1→p'.2.1=p.2.1→p'.2.2.2.1.length=p.2.2.2.1.length→p'.2.2.2.2.length=p.2.2.2.2.length→Good (N+1) p'→eI p'=true→evs'.length≤evs.length+2→∀ e',(e'=3∨e'=0) →
    bt k p0 l n p.1.1 p.1.2.1 p.1.2.2.1 p.1.2.2.2 p.2.1 W0 S0 p'.2.2.2.1 p'.2.2.2.2 evs' ((q+1:Nat):Int) p'.2.2.1 e'=some ((mB p' r).1,evs'++(mB p' r).2):=fun evs' p' g1 g2 g3 g4 g5 g6 g7 e' he'=>by
   have:=ih (q+1) n (N+1) p' W0 S0 evs' e' h2 (by omega) (by omega) he' (by rw [g1,hc]) (by omega) (by omega) (by omega) g5 g6 (by omega) (by omega)
   rw [g1,g2] at this
   exact this
  have hw:IntKind.i64.wrap ((q:Int)+1)=((q+1:Nat):Int):=eQ (by omega)
  have up:Good (N+1) p:=⟨hg.t,hg.tl,hg.m,fun x hx=>⟨(hg.w x hx).f,Nat.le_succ_of_le (hg.w x hx).s,(hg.w x hx).sp⟩,hg.s⟩
  rw [bt,ltN h0,cond_true,dS h1,af]
  simp only [Prod.eta,hw]
  rw [U3,af,mB,← hc,← hS]
  cases hf:Ax v p.1.1 p.2.2.2.2.length with
  | false=>
   rw [cond_false,if_neg (by simp)]
   exact next evs p rfl rfl rfl rfl up hm (by omega) e he
  | true=>
   have st:=DA (p:=p) (k:=v)
   have sg:=Eh (k:=v) hg m1
   have sm:=ub hm hf
   have se:=Iw (p:=p) (k:=v)
   have nx:=fun e' he'=>next (evs++(fO p v).2) (fO p v).1 st.1 st.2.1 st.2.2.1 st.2.2.2 sg sm (by rw [List.length_append];omega) e' he'
   have hroom:room (evs++(fO p v).2).length 24=true:=ut (by rw [List.length_append];omega)
   have hroom0:room evs.length 24=true:=ut (by omega)
   rw [cond_true,if_pos rfl]
   simp only [← List.append_assoc]
   have hfit:=hf
   unfold Ax at hfit
   rw [decide_eq_true_eq] at hfit
   by_cases k0:v.1=0
   ·have hb:0≤v.2.1∧v.2.1<p.1.1:=by omega
    have hi:v.2.1.toNat<p.2.2.2.1.length:=by omega
    have hx:=List.getElem?_eq_getElem hi
    have hdec:decide (0≤v.2.1∧v.2.1.toNat<W0.length)=true:=decide_eq_true ⟨hb.1,by omega⟩
    generalize p.2.2.2.1[v.2.1.toNat]=x at hx
    have hxo:=hg.w x (List.mem_of_getElem? hx)
    have es:fO p v=((p.1,p.2.1,(ct p.1 p.2.1 p.2.2.1 v.2.1 x v.2.2).1,p.2.2.2.1.set v.2.1.toNat (ct p.1 p.2.1 p.2.2.1 v.2.1 x v.2.2).2.1,p.2.2.2.2),(ct p.1 p.2.1 p.2.2.1 v.2.1 x v.2.2).2.2):=by
     unfold fO
     rw [if_pos k0,hx]
    rw [ms,decide_eq_true k0,cond_true,hdec,cond_true,hx,af]
    try simp only [Prod.eta]
    rw [RO (by omega) p.1 hg.t.wt hg.m hml v.2.1 hxo.f (by have:=hxo.s;omega) (by have:=hxo.sp;omega) hv,af,cond_true,af,hes,bA]
    rw [es] at nx hroom ⊢
    rw [hroom,cond_true]
    exact nx 3 (.inl rfl)
   ·rw [ms,decide_eq_false k0,cond_false]
    by_cases k1:v.1=1
    ·have hb:0≤v.2.1∧v.2.1<(p.2.2.2.2.length:Int):=by omega
     have hi:v.2.1.toNat<p.2.2.2.2.length:=by omega
     have hx:=List.getElem?_eq_getElem hi
     have hdec:decide (0≤v.2.1∧v.2.1.toNat<S0.length)=true:=decide_eq_true ⟨hb.1,by omega⟩
     generalize p.2.2.2.2[v.2.1.toNat]=x at hx
     have hxo:=hg.s x (List.mem_of_getElem? hx)
     rw [ms,decide_eq_true k1,cond_true,hdec,cond_true,hx,af]
     try simp only [Prod.eta]
     rw [TP (by omega) p.1 hg.t.wt,af]
     cases hsm:r7 p.1 p.2.1 p.2.2.1 x with
     | false=>
      have es:fO p v=(p,[]):=by
       unfold fO
       rw [if_neg k0,if_pos k1,hx]
       dsimp only
       rw [hsm,if_neg (by simp)]
      rw [es] at nx ⊢
      rw [cond_false,hes,bA,hroom0,cond_true]
      have:=nx 3 (.inl rfl)
      rw [List.append_nil] at this ⊢
      exact this
     | true=>
      have es:fO p v=((p.1,p.2.1,(oo p.1 p.2.1 p.2.2.1 v.2.1 x).1,p.2.2.2.1,p.2.2.2.2.set v.2.1.toNat (oo p.1 p.2.1 p.2.2.1 v.2.1 x).2.1),(oo p.1 p.2.1 p.2.2.1 v.2.1 x).2.2):=by
       unfold fO
       rw [if_neg k0,if_pos k1,hx]
       dsimp only
       rw [hsm,if_pos rfl]
      rw [cond_true,cond_true,af]
      rw [WE (by omega) p.1 hg.t.wt hg.m hml v.2.1 hxo.f hxo.s hg.tl,af,cond_true,af,hes,bA]
      rw [es] at nx hroom ⊢
      rw [hroom,cond_true]
      exact nx 3 (.inl rfl)
    ·rw [ms,decide_eq_false k1,cond_false]
     by_cases k2:v.1=2
     ·have es:fO p v=((p.1,p.2.1,bW p.2.2.1 3 1,p.2.2.2.1,p.2.2.2.2),[]):=by
       unfold fO
       rw [if_neg k0,if_neg k1,if_pos k2]
      rw [ms,decide_eq_true k2,cond_true,kz hml,af,hes,bA,hroom0,cond_true]
      rw [es] at nx ⊢
      have:=nx 3 (.inl rfl)
      rw [List.append_nil] at this ⊢
      exact this
     ·have es:fO p v=(p,[]):=by
       unfold fO
       rw [if_neg k0,if_neg k1,if_neg k2]
      rw [ms,decide_eq_false k2,cond_false,hes,bA,hroom0,cond_true]
      rw [es] at nx ⊢
      have:=nx 3 (.inl rfl)
      rw [List.append_nil] at this ⊢
      exact this
theorem U5 {N:Nat} (hg:Good N p0) (hW:p0.2.2.2.1.length≤20) (hS:p0.2.2.2.2.length≤20) (hml:p0.2.2.1.length≤1000) (hN:N+l.length≤9000):fo k p0 l=some (adY p0 l):=by
 have hw:∀ x ∈ p0.2.2.2.1,x.2.1.length≤9000:=fun x hx=>by have:=(hg.w x hx).s;omega
 have hs:∀ x ∈ p0.2.2.2.2,x.2.1.length≤1000:=fun x hx=>(hg.s x hx).s
 unfold fo adY
 try simp only [Prod.eta]
 rw [G6 _ (by omega) hg.t,af,bF (by omega),af,bF (by omega),af,bF (by omega),af]
 have ho:=Ib k (by omega) p0.1.1 p0.1.2.1 p0.1.2.2.1 p0.1.2.2.2 p0.2.1 p0.2.2.1 (by omega) hw (by omega) hs p0.2.2.2.1 0 (k+61) rfl (Nat.zero_le _) (by omega)
 refine (congrArg (fun z=>ob z _) ho).trans ?_
 rw [af]
 dsimp only
 rw [decide_eq_true (Nat.le_refl _),bA,decide_eq_true (Nat.le_refl _),bA,Dt (by omega) hg.t.wt hw hs,af,List.take_length,List.take_length,decide_eq_true (Nat.le_refl _),decide_eq_true (Nat.le_refl _)]
 cases hm:eI p0 with
 | false=>
  rw [Bool.not_false,cond_true,bA,bA,if_neg (by simp),List.take_length,List.take_length]
 | true=>
  rw [Bool.not_true,cond_false,if_pos rfl]
  exact RR hk hl hd l 0 (k+62) N p0 p0.2.2.2.1 p0.2.2.2.2 [] 0 rfl (Nat.zero_le _) (by omega) (.inr rfl) rfl rfl rfl rfl hg hm hN (by simp;omega)
end
end Go.Ab
set_option linter.unusedVariables false
set_option linter.unusedSimpArgs false
namespace Go.Ab
theorem afJ {k:Nat} (hk:1000≤k) (c:CF):lB k c=some (List.replicate (dr c).toNat 0):=by
 have hs:0≤dr c∧dr c≤190:=by
  unfold dr
  split
  ·rename_i h
   have hm:=bT h
   have:=iA h (w:=c.1) (by omega) (by omega)
   omega
  ·omega
 have key:∀ (d i n t:Nat),(t=0∨t=1)→i+d=(dr c).toNat→d<n→fc k c n (dr c) (List.replicate i 0) (i:Int) t=some (List.replicate (dr c).toNat 0):=by
  intro d
  induction d with
  | zero=>
   intro i n t ht hi hn
   obtain ⟨n,rfl⟩:=fF hn
   rw [fc,ltF (by omega),cond_false]
   rw [show i=(dr c).toNat by omega]
  | succ d ih=>
   intro i n t ht hi hn
   obtain ⟨n,rfl⟩:=fF hn
   have h1:(t==1||t==0)=true:=by rcases ht with rfl | rfl <;> rfl
   rw [fc,ltT (by omega),cond_true,h1,bA,ut (by simp;omega),cond_true,eQ (by omega)]
   have:=ih (i+1) n 1 (.inr rfl) (by omega) (by omega)
   rw [List.replicate_succ'] at this
   exact this
 unfold lB
 simp only [Prod.eta,Bi,af]
 exact key (dr c).toNat 0 (k+3) 0 (.inl rfl) (by omega) (by omega)
theorem Z5 {l:List Int} (h:l.length≤1000):ix l=some (0,l,ef):=by
 unfold ix
 rw [bF (by omega),af]
 rfl
theorem Im {α:Type} (p:α→Bool):∀ (l:List α) (i:Nat),GR p l i = -1∨∃ (j:Nat) (x:α),GR p l i=((i+j:Nat):Int)∧l[j]? = some x∧p x=true
 | [],_ => .inl rfl
 | x::r,i=>by
  rw [GR]
  by_cases h:p x=true
  ·rw [if_pos h]
   exact .inr ⟨0,x,rfl,rfl,h⟩
  ·rw [if_neg h]
   rcases Im p r (i+1) with e | ⟨j,y,e,h1,h2⟩
   ·exact .inl e
   ·refine .inr ⟨j+1,y,?_,h1,h2⟩
    rw [e]
    congr 1
    omega
theorem YN (k:Nat) {l:List Int} (hl:l.length≤1000) (hk:1001≤k) (v:Int):dD k l v=some (GR (fun y=>v==y) l 0):=by
 unfold dD
 refine Ha (F:=fun n i=>bI k l v n i) (l:=l) _ ?_ ?_ k (by omega)
 ·intro n
  simp only [bI,oU,cond_false]
 ·intro n i y hi hy
  simp only [bI,ltN hi,cond_true,dS hy,af]
  rw [eQ (by omega)]
theorem adl {k:Nat} (hk:9223372036854775808≤k) {t:Tyt} (ht:FwT t) (q:Int):∃ z,eU k t q=some z:=by
 have hlen:=ht.len
 unfold eU
 rw [KD k hk t ht.wt,af]
 cases wM t with
 | false=>exact ⟨_,rfl⟩
 | true=>
  rw [cond_true]
  have inner:∀ (i:Nat),i<t.length→∀ (o:Int→Option Int),(∃ z,o ((i+1:Nat):Int)=some z)→∀ (K:List Int),K.length≤40→∀ (r:List Int) (j n:Nat),K.drop j=r→j≤K.length→r.length<n→∃ z,cp k t q o n K (K.length:Int) (j:Int) (i:Int)=some z:=by
   intro i hi o ho K hK r
   induction r with
   | nil=>
    intro j n hr hj hn
    obtain ⟨n,rfl⟩:=fF hn
    have:=cC hr
    rw [cp,ltF (by omega),cond_false,eQ (by omega)]
    exact ho
   | cons x r ih=>
    intro j n hr hj hn
    obtain ⟨n,rfl⟩:=fF hn
    obtain ⟨h0,h1,h2,_,h4⟩:=bO hr
    rw [cp,ltN h0,cond_true,dS h1,af]
    cases x==q with
    | true=>exact ⟨_,rfl⟩
    | false=>
     rw [cond_false,eQ (by omega)]
     exact ih (j+1) n h2 (by omega) (by simp only [List.length_cons] at hn;omega)
  have outer:∀ (r:Tyt) (i n:Nat),t.drop i=r→i≤t.length→r.length<n→∃ z,bP k t q n (i:Int)=some z:=by
   intro r
   induction r with
   | nil=>
    intro i n hr hi hn
    obtain ⟨n,rfl⟩:=fF hn
    have:=cC hr
    rw [bP,ltF (by omega),cond_false]
    exact ⟨_,rfl⟩
   | cons x r ih=>
    intro i n hr hi hn
    obtain ⟨n,rfl⟩:=fF hn
    obtain ⟨h0,h1,h2,_,h4⟩:=bO hr
    have hx:=ht.kids x (List.mem_of_getElem? h1)
    rw [bP,ltN h0,cond_true,dS h1,af]
    exact inner i h0 _ (ih (i+1) n h2 (by omega) (by simp only [List.length_cons] at hn;omega)) x.2 hx x.2 0 (k+18) rfl (Nat.zero_le _) (by omega)
  exact outer t 0 (k+18) rfl (Nat.zero_le _) (by omega)
theorem XI {k:Nat} (hk:9223372036854775808≤k) {t:Tyt} (ht:FwT t):∀ (d i n g e:Nat) (L:List Int),i+d=t.length→d<n→L.length≤i→(e=0∨e=1)→(L≠[]→e=1)→(∀ r ∈ L,0≤r∧r<(t.length:Int)) →
  ∃ g' L' e',bL k n t (t.length:Int) g L (i:Int) e=some (g',L',e')∧L'.length≤t.length∧(L'≠[]→e'=1)∧(∀ r ∈ L',0≤r∧r<(t.length:Int)):=by
 have hlen:=ht.len
 intro d
 induction d with
 | zero=>
  intro i n g e L hi hn hL he hne hr
  obtain ⟨n,rfl⟩:=fF hn
  rw [bL,ltF (by omega),cond_false]
  exact ⟨g,L,e,rfl,by omega,hne,hr⟩
 | succ d ih=>
  intro i n g e L hi hn hL he hne hr
  obtain ⟨n,rfl⟩:=fF hn
  obtain ⟨z,hz⟩:=adl hk ht (i:Int)
  rw [bL,ltT (by omega),cond_true,hz,af,eQ (by omega)]
  cases z == -1 with
  | true=>
   have he1:(e==1||e==0)=true:=by rcases he with rfl | rfl <;> rfl
   rw [cond_true,he1,bA,ut (by simp;omega),cond_true]
   refine ih (i+1) n (g+1) 1 (L++[(i:Int)]) (by omega) (by omega) (by simp;omega) (.inr rfl) (fun _=>rfl) fun r hr' => ?_
   rcases List.mem_append.1 hr' with h | h
   ·exact hr r h
   ·rw [List.mem_singleton.1 h];omega
  | false=>
   rw [cond_false]
   exact ih (i+1) n g e L (by omega) (by omega) (by omega) he hne hr
def X3 (w:Nat):WB:=(0,[],Gq 1 (w:Int) 0,0,0)
def oh (n:Nat):List WB:=(List.range n).map X3
def mz (roots:List (List Int)):List SB:=roots.map fun l=>(0,l,ef)
def Ka (c:CF) (t:Tyt) (roots:List (List Int)):PB:=(c,t,List.replicate (dr c).toNat 0,oh c.1.toNat,mz roots)
def rq:PB:=((0,0,0,0),[],[],[],[])
section
variable {k:Nat} (hk:9223372036854779000≤k) (c:CF) (t:Tyt) (ht:t.length≤40) (roots:List (List Int))
include hk ht
theorem Le (o0:Tyt→List Int→Nat→List WB→Int→List SB→Nat→Nat→List Int→Option (PB×Bool)) (t':Tyt) (m:List Int) (W:List WB) (i0:Int) (S:List SB) (x:List Int) (hx:x.length≤1000) (hS:S.length≤100) (e:Nat) (he:e=9∨e=0) :
  ∀ (r:List Int) (q n len z:Nat) (L:List Int),x.drop q=r→q≤x.length→r.length<n→len≤L.length→L.length≤40→(0<len→z=1)→(∀ y ∈ L.take len,0≤y∧y<(t.length:Int))→(∀ y ∈ x.take q,0≤y∧y<(t.length:Int)) →
  cW k c t roots o0 n x t' m (x.length:Int) z W len (q:Int) L i0 S e=some (rq,false) ∨
  ∃ (len' z':Nat) (L':List Int),len'≤L'.length∧L'.length≤40∧(0<len'→z'=1)∧(∀ y ∈ L'.take len',0≤y∧y<(t.length:Int))∧(∀ y ∈ x,0≤y∧y<(t.length:Int)) ∧
   cW k c t roots o0 n x t' m (x.length:Int) z W len (q:Int) L i0 S e=o0 t' m z' W (IntKind.i64.wrap (i0+1)) (S++[(0,x,ef)]) 9 len' L':=by
 have _h:=ht
 intro r
 induction r with
 | nil=>
  intro q n len z L hr hq hn hlen hL hz hy hxq
  obtain ⟨n,rfl⟩:=fF hn
  have:=cC hr
  have he1:(e==9||e==0)=true:=by rcases he with rfl | rfl <;> rfl
  refine .inr ⟨len,z,L,hlen,hL,hz,hy,?_,?_⟩
  ·rw [List.take_of_length_le (by omega)] at hxq
   exact hxq
  ·rw [cW,ltF (by omega),cond_false,Z5 hx,af,he1,bA]
   rw [ut (by simp;omega),cond_true]
 | cons v r ih=>
  intro q n len z L hr hq hn hlen hL hz hy hxq
  obtain ⟨n,rfl⟩:=fF hn
  obtain ⟨h0,h1,h2,_,h4⟩:=bO hr
  simp only [List.length_cons] at hn
  rw [cW,ltN h0,cond_true,dS h1,af,decide_eq_true hlen,bA,YN (k+20) (by rw [List.length_take];omega) (by omega) v,af]
  rcases Im (fun y=>v==y) (L.take len) 0 with e1 | ⟨j,y,e1,hj,hvy⟩
  ·rw [e1]
   exact .inl rfl
  ·have hvy':v=y:=by simpa using hvy
   have hjl:j<len:=by
    have:=(List.getElem?_eq_some_iff.1 hj).1
    rw [List.length_take] at this
    omega
   have hyr:=hy y (List.mem_of_getElem? hj)
   rw [e1,Nat.zero_add,ltF (by omega),cond_false,hz (by omega),show ((1:Nat)==1)=true from rfl,bA,eQ (by omega),Int.toNat_natCast,Int.toNat_natCast,decide_eq_true (show len≤L.length∧(0:Int)≤(j:Int)∧(j:Int)<((j+1:Nat):Int)∧j+1≤len∧len≤9223372036854775807 by omega),bA,eQ (by omega),show len - (j+1 - j)=len - 1 by omega]
   have hc1:(Hd (L.take len) j (j+1)).length=len:=by
    rw [HD (by omega) (by rw [List.length_take];omega),List.length_take]
    omega
   have hc2:(Hd (L.take len) j (j+1)++L.drop len).length=L.length:=by
    rw [List.length_append,hc1,List.length_drop]
    omega
   refine ih (q+1) n (len - 1) 1 _ h2 (by omega) (by omega) (by rw [hc2];omega) (by rw [hc2];exact hL) (fun _=>rfl) ?_ ?_
   ·intro y' hy'
    rw [List.take_append_of_le_length (by rw [hc1];omega)] at hy'
    unfold Hd at hy'
    rw [List.take_append_of_le_length (by simp;omega)] at hy'
    rcases List.mem_append.1 (List.mem_of_mem_take hy') with h | h
    ·exact hy y' (List.mem_of_mem_take h)
    ·exact hy y' (List.mem_of_mem_drop h)
   ·intro y' hy'
    rw [List.take_add_one,h1] at hy'
    rcases List.mem_append.1 hy' with h | h
    ·exact hxq y' h
    ·rw [show y'=v by simpa using h,hvy']
     exact hyr
theorem Lq (hR:roots.length≤3) (hr:∀ l ∈ roots,l.length≤1000) (W:List WB):∀ (r:List (List Int)) (q n len z e:Nat) (L:List Int) (t':Tyt) (m:List Int),roots.drop q=r→q≤roots.length→r.length<n→len≤L.length→L.length≤40→(0<len→z=1)→(e=9∨e=0)→(∀ y ∈ L.take len,0≤y∧y<(t.length:Int))→(∀ l ∈ roots.take q,∀ y ∈ l,0≤y∧y<(t.length:Int)) →
  cj k c t roots n t' m z W (q:Int) (mz (roots.take q)) e len L=some (rq,false) ∨
  cj k c t roots n t' m z W (q:Int) (mz (roots.take q)) e len L=some ((c,t',m,W,mz roots),true)∧(∀ l ∈ roots,∀ y ∈ l,0≤y∧y<(t.length:Int)):=by
 intro r
 induction r with
 | nil=>
  intro q n len z e L t' m hq' hq hn hlen hL hz he hy hxq
  obtain ⟨n,rfl⟩:=fF hn
  have:=cC hq'
  rw [List.take_of_length_le (by omega)] at hxq ⊢
  rw [cj,ltF (by omega),cond_false]
  exact .inr ⟨rfl,hxq⟩
 | cons v r ih=>
  intro q n len z e L t' m hq' hq hn hlen hL hz he hy hxq
  obtain ⟨n,rfl⟩:=fF hn
  obtain ⟨h0,h1,h2,_,h4⟩:=bO hq'
  simp only [List.length_cons] at hn
  have hv:=hr v (List.mem_of_getElem? h1)
  have hSl:(mz (roots.take q)).length≤100:=by unfold mz;rw [List.length_map,List.length_take];omega
  rw [cj,ltN h0,cond_true,dS h1,af]
  rcases Le hk c t ht roots (fun s62 s63 s64 s77 s113 s115 s116 s135 s138=>cj k c t roots n s62 s63 s64 s77 s113 s115 s116 s135 s138) t' m W (q:Int) (mz (roots.take q)) v hv hSl e he v 0 (k+21) len z L rfl (Nat.zero_le _) (by omega) hlen hL hz hy (by simp) with h | ⟨len',z',L',g1,g2,g3,g4,g5,g6⟩
  ·exact .inl h
  ·have hs:mz (roots.take q)++[(0,v,ef)]=mz (roots.take (q+1)):=by
    unfold mz
    rw [List.take_add_one,h1,List.map_append]
    rfl
   rw [hs,eQ (by omega)] at g6
   have:=ih (q+1) n len' z' 9 L' t' m h2 (by omega) (by omega) g1 g2 g3 (.inl rfl) g4 (fun l hl=>by
    rw [List.take_add_one,h1] at hl
    rcases List.mem_append.1 hl with h | h
    ·exact hxq l h
    ·rw [show l=v by simpa using h]
     exact g5)
   have g6':cW k c t roots (fun s62 s63 s64 s77 s113 s115 s116 s135 s138=>cj k c t roots n s62 s63 s64 s77 s113 s115 s116 s135 s138) (k+21) v t' m (v.length:Int) z W len 0 L (q:Int) (mz (roots.take q)) e=_:=g6
   rw [g6']
   exact this
theorem Rm (hR:roots.length≤3) (hr:∀ l ∈ roots,l.length≤1000) (hc:0≤c.1∧c.1≤8) (t':Tyt) (m L:List Int) (z:Nat) (hL:L.length≤40) (hz:L≠[]→z=1) (hy:∀ y ∈ L,0≤y∧y<(t.length:Int)):∀ (d i n e:Nat),(i:Int)+d=c.1→d<n→(e=11∨e=0) →
  cY k c t roots n t' m L z (i:Int) (oh i) e=some (rq,false) ∨
  cY k c t roots n t' m L z (i:Int) (oh i) e=some ((c,t',m,oh c.1.toNat,mz roots),true)∧(∀ l ∈ roots,∀ y ∈ l,0≤y∧y<(t.length:Int)):=by
 intro d
 induction d with
 | zero=>
  intro i n e hi hn he
  obtain ⟨n,rfl⟩:=fF hn
  rw [cY,ltF (by omega),cond_false,show c.1.toNat=i by omega]
  exact Lq hk c t ht roots hR hr (oh i) roots 0 (k+21) L.length z 0 L t' m rfl (Nat.zero_le _) (by omega) (Nat.le_refl _) hL (fun h=>hz (fun e=>by rw [e] at h;cases h)) (.inr rfl) (by rw [List.take_length];exact hy) (by simp)
 | succ d ih=>
  intro i n e hi hn he
  obtain ⟨n,rfl⟩:=fF hn
  have he1:(e==11||e==0)=true:=by rcases he with rfl | rfl <;> rfl
  rw [cY,ltT (by omega),cond_true,Xv,af,he1,bA]
  rw [ut (by rw [List.length_append];unfold oh;simp;omega),cond_true,eQ (by omega)]
  have hw:oh i++[X3 i]=oh (i+1):=by
   unfold oh
   rw [List.range_succ,List.map_append]
   rfl
  have:=ih (i+1) n 11 (by omega) (by omega) (.inl rfl)
  rw [← hw] at this
  exact this
end
theorem ZM {k:Nat} (hk:9223372036854779000≤k) (c:CF) {t:Tyt} (ht:FwT t) {roots:List (List Int)} (hr:∀ l ∈ roots,l.length≤1000) :
  kd k c t roots=some (rq,false)∨kd k c t roots=some (Ka c t roots,true)∧gC c=true∧wM t=true∧roots.length≤3∧(∀ l ∈ roots,∀ y ∈ l,0≤y∧y<(t.length:Int)):=by
 unfold kd
 try simp only [Prod.eta]
 rw [gi,af]
 cases hm:gC c with
 | false=>exact .inl rfl
 | true=>
  have hc:=bT hm
  rw [Bool.not_true,cond_false,KD _ (by omega) t ht.wt,af]
  cases ht2:wM t with
  | false=>exact .inl rfl
  | true=>
   rw [Bool.not_true,cond_false]
   by_cases h3:(3:Int)<roots.length
   ·rw [ltT h3]
    exact .inl rfl
   ·obtain ⟨g',L',e',h1,h2,h4,h5⟩:=XI (k:=k) (by omega) ht t.length 0 (k+20) 0 0 [] (by omega) (by have:=ht.len;omega) (Nat.zero_le _) (.inl rfl) (fun h=>absurd rfl h) (by simp)
    rw [ltF (by omega),cond_false,KD _ (by omega) t ht.wt,af,ht2,Bool.not_true,cond_false]
    refine (show _∨_ from ?_)
    have h1':bL k (k+20) t (t.length:Int) 0 [] 0 0=some (g',L',e'):=h1
    rw [h1',af,G6 _ (by omega) ht,af,afJ (by omega),af]
    have hl:=ht.len
    rcases Rm (k:=k) hk c t ht.len roots (by omega) hr (by omega) t (List.replicate (dr c).toNat 0) L' e' (by omega) h4 h5 c.1.toNat 0 (k+21) 0 (by omega) (by omega) (.inr rfl) with h | ⟨h,h'⟩
    ·exact .inl h
    ·exact .inr ⟨h,rfl,rfl,by omega,h'⟩
end Go.Ab
set_option linter.unusedVariables false
namespace Go.Ab
theorem aax {k:Nat} (hk:9223372036854775808≤k) {l:List (List Int)} (hl:l.length≤9223372036854775807):∃ b,cr k l=some b∧(b=true→l.length≤10∧∀ x ∈ l,x.length≤60):=by
 unfold cr
 have key:∀ (r:List (List Int)) (q n:Nat),l.drop q=r→q≤l.length→r.length<n→(∀ x ∈ l.take q,x.length≤60)→∃ b,bc k l n (q:Int)=some b∧(b=true→l.length≤10∧∀ x ∈ l,x.length≤60):=by
  intro r
  induction r with
  | nil=>
   intro q n hr hq hn hx
   obtain ⟨n,rfl⟩:=fF hn
   have:=cC hr
   rw [List.take_of_length_le (by omega)] at hx
   rw [bc,ltF (by omega),cond_false]
   refine ⟨_,rfl,fun h=>⟨?_,hx⟩⟩
   have:=of_decide_eq_true h
   omega
  | cons v r ih=>
   intro q n hr hq hn hx
   obtain ⟨n,rfl⟩:=fF hn
   obtain ⟨h0,h1,h2,_,h4⟩:=bO hr
   rw [bc,ltN h0,cond_true]
   by_cases hq10:(q:Int)≤10
   ·rw [leT hq10,cond_true,dS h1,af]
    by_cases h60:(60:Int)<v.length
    ·rw [ltT h60,cond_true]
     exact ⟨_,rfl,fun h=>by cases h⟩
    ·rw [ltF (by omega),cond_false,eQ (by omega)]
     refine ih (q+1) n h2 (by omega) (by simp only [List.length_cons] at hn;omega) fun x hx' => ?_
     rw [List.take_add_one,h1] at hx'
     rcases List.mem_append.1 hx' with h | h
     ·exact hx x h
     ·rw [show x=v by simpa using h];omega
   ·rw [leF (by omega),cond_false]
    refine ⟨_,rfl,fun h => ?_⟩
    have:=of_decide_eq_true h
    omega
 exact key l 0 k rfl (Nat.zero_le _) (by omega) (by simp)
theorem m9:∀ {l:List PK} {n:Nat} {p:PB},Good n p→eI p=true→Good (n+l.length) (mB p l).1
 | [],n,p,h,_=>h
 | k::l,n,p,h,hm=>by
  rw [mB]
  split
  ·rename_i hk
   have:=m9 (l:=l) (Eh (k:=k) h (mK hm).1) (ub hm hk)
   rw [List.length_cons,show n+(l.length+1)=n+1+l.length by omega]
   exact this
  ·have:=m9 (l:=l) h hm
   rw [List.length_cons]
   exact ⟨this.t,this.tl,this.m,fun x hx=>⟨(this.w x hx).f,by have:=(this.w x hx).s;omega,(this.w x hx).sp⟩,this.s⟩
theorem FH {l:List PK} {p:PB} (hm:eI p=true):eI (mB p l).1=true:=
 (FZ (P:=fun _=>True) (fun _ _ _ _ _=>trivial) hm trivial).2
theorem CG:∀ {l:List PK} {p:PB},(mB p l).1.1=p.1∧(mB p l).1.2.1=p.2.1∧(mB p l).1.2.2.2.1.length=p.2.2.2.1.length∧(mB p l).1.2.2.2.2.length=p.2.2.2.2.length∧(mB p l).1.2.2.1.length=p.2.2.1.length
 | [],p=>⟨rfl,rfl,rfl,rfl,rfl⟩
 | k::l,p=>by
  rw [mB]
  split
  ·obtain ⟨a1,a2,a3,a4,a5⟩:=CG (l:=l) (p:=(fO p k).1)
   obtain ⟨b1,b2,b3,b4⟩:=DA (p:=p) (k:=k)
   have b5:=Qa (p:=p) (k:=k)
   exact ⟨a1.trans b1,a2.trans b2,a3.trans b3,a4.trans b4,a5.trans b5⟩
  ·exact CG
theorem Hh:∀ {l:List PK} {p:PB},(mB p l).2.length≤2*l.length
 | [],p=>Nat.le_refl _
 | k::l,p=>by
  rw [mB]
  split
  ·have:=Hh (l:=l) (p:=(fO p k).1)
   have:=Iw (p:=p) (k:=k)
   simp only [List.length_append,List.length_cons]
   omega
  ·have:=Hh (l:=l) (p:=p)
   simp only [List.length_cons]
   omega
theorem kW {p:PB} (h:eI p=true):p.2.2.2.1.length≤8∧p.2.2.2.2.length≤3∧12≤p.2.2.1.length∧p.2.2.1.length≤190:=by
 obtain ⟨m1,m2,m3,m4,_⟩:=mK h
 have hc:=bT m1
 have:=(Gg (m4 0 _ (List.getElem?_eq_getElem (show 0<p.2.2.2.1.length by omega)))).2.1
 have:=oz m1
 omega
theorem Ni {c:CF} {t:Tyt} {roots:List (List Int)} (hc:gC c=true) (ht:wM t=true) (hR:roots.length≤3) (hr:∀ l ∈ roots,∀ y ∈ l,0≤y∧y<(t.length:Int)):eI (Ka c t roots)=true:=by
 have hm:=bT hc
 have hs:=oz hc
 refine BE hc ?_ ?_ (fun j x hx => ?_) (fun x hx => ?_)
 ·show ((oh c.1.toNat).length:Int)=c.1
  unfold oh
  rw [List.length_map,List.length_range]
  omega
 ·show (mz roots).length≤3
  unfold mz
  rw [List.length_map]
  exact hR
 ·have hx':(oh c.1.toNat)[j]? = some x:=hx
  unfold oh at hx'
  rw [List.getElem?_map,Option.map_eq_some_iff] at hx'
  obtain ⟨i,hi,rfl⟩:=hx'
  obtain ⟨hj,rfl⟩:=List.getElem?_eq_some_iff.1 hi
  rw [List.length_range] at hj
  rw [List.getElem_range]
  refine L5 hc ?_ ht ⟨by omega,by show (j:Int)<c.1;omega,Int.le_refl 0,(show (0:Int)<16 by decide)⟩ (lJ.2 ⟨ht,fun y hy=>absurd hy (by simp [X3])⟩)
  show ((List.replicate (dr c).toNat (0:Int)).length:Int)=dr c
  rw [List.length_replicate]
  omega
 ·have hx':x ∈ mz roots:=hx
  unfold mz at hx'
  obtain ⟨l,hl,rfl⟩:=List.mem_map.1 hx'
  unfold wj
  simp only [Bool.and_eq_true,List.all_eq_true,decide_eq_true_eq,Bool.or_eq_true]
  exact ⟨⟨by decide,hr l hl⟩,.inl (by trivial)⟩
theorem Ho {c:CF} {t:Tyt} {roots:List (List Int)} (ht:FwT t) (hr:∀ l ∈ roots,l.length≤60):Good 0 (Ka c t roots):=by
 have z:(0:Int)≤0∧(0:Int)≤18446744073709551615:=by decide
 refine ⟨ht,by have:=ht.len;show t.length≤1000;omega,?_,fun x hx => ?_,fun x hx => ?_⟩
 ·refine ⟨?_,fun v hv => ?_⟩
  ·show (List.replicate (dr c).toNat (0:Int)).length≤_
   rw [List.length_replicate]
   have:dr c≤190:=by
    unfold dr
    split
    ·rename_i h
     have hm:=bT h
     have:=iA h (w:=c.1) (by omega) (by omega)
     omega
    ·omega
   omega
  ·rw [List.eq_of_mem_replicate hv]
   exact z
 ·have hx':x ∈ oh c.1.toNat:=hx
  unfold oh at hx'
  obtain ⟨i,_,rfl⟩:=List.mem_map.1 hx'
  exact ⟨⟨z,z,z⟩,Nat.le_refl _,by show (0:Int)≤9223372036854775807;decide⟩
 ·have hx':x ∈ mz roots:=hx
  unfold mz at hx'
  obtain ⟨l,hl,rfl⟩:=List.mem_map.1 hx'
  exact ⟨⟨z,z,z⟩,by have:=hr l hl;show l.length≤1000;omega⟩
end Go.Ab
set_option linter.unusedVariables false
namespace Go.Ab
def ahC:FR:=(-1,0,0,0,0,0,0)
structure Pl where
 m:List Int
 left:List (List Int)
 cur:List FR
 over:List FR
def afg (m:List Int) (w:Int):Nat:=if pW (aO m 2) w=true then 1 else 0
def abZ (f:FR) (w:Int):Nat:=if RG f w=true then 1 else 0
def aed (l:List FR) (w:Int):Nat:=l.countP fun f=>RG f w
def VY (c:CF) (m:List Int) (w:Int):Nat:=if aO m (io c w)=0 then 0 else 1
def w3B (f:FR):Nat:=if f.1=5∧3≤f.2.1 then 1 else 0
def w4B (f:FR):Prop:=f.1=5∧f.2.1=4
def ajN (x:Int):Prop:=0≤x∧x≤18446744073709551615
def ajB (n:Nat) (i:Nat) (f:FR):Prop:=
 f=ahC∨∃ op pc X Y:Int,f=(op,pc,(i:Int),0,X,Y,0)∧ajN X∧ajN Y ∧
  ((op=5∧0≤pc∧pc≤4)∨(op=6∧0≤pc∧pc≤2∧(pc=2→Y<n))∨(op=7∧0≤pc∧pc≤2∧(pc=2→0<Y∧Y<65536∧∀ j:Nat,n≤j→j<16→pW Y j=false)))
structure OkP (c:CF) (n:Nat) (m:List Int) (l:List FR):Prop where
 wm:Wm m
 may:gC c=true
 cn:c.1=n
 len:(m.length:Int)=dr c
 clen:l.length=n
 frm:∀ i f,l[i]? = some f→ajB n i f
 low:∀ j:Nat,n≤j→j<16→pW (aO m 2) j=false
 par:∀ w:Nat,w<n→aO m (io c w)=0∨aO m (io c w)=1
 sgn:∀ (w:Nat) f,l[w]? = some f→afg m w+aed l w+VY c m w=w3B f
 end4:∀ (w:Nat) f,l[w]? = some f→w4B f→VY c m w=1
theorem PZ {l:List FR} {i:Nat} {f g:FR} (hf:l[i]? = some f) (w:Int):aed (l.set i g) w+abZ f w=aed l w+abZ g w:=by
 obtain ⟨hi,rfl⟩:=List.getElem?_eq_some_iff.1 hf
 have hle:l[i] ∈ l:=List.getElem_mem _
 unfold aed abZ
 rw [List.countP_set hi]
 by_cases h:RG l[i] w=true
 ·have:0<l.countP fun f=>RG f w:=List.countP_pos_iff.2 ⟨_,hle,h⟩
  simp only [h,if_true]
  omega
 ·simp only [h,if_false]
  simp
theorem OkP.step {c:CF} {n:Nat} {m m':List Int} {l:List FR} (h:OkP c n m l) {i:Nat} {f g:FR} (hf:l[i]? = some f) (wm:Wm m') (len:m'.length=m.length) (hg:ajB n i g)
  (low:∀ j:Nat,n≤j→j<16→pW (aO m' 2) j=false) (par:∀ w:Nat,w<n→aO m' (io c w)=0∨aO m' (io c w)=1)
  (sg:∀ w:Nat,w<n→afg m' w+abZ g w+VY c m' w+(if w=i then w3B f else 0)=afg m w+abZ f w+VY c m w+(if w=i then w3B g else 0))
  (e4:w4B g→VY c m' i=1) (e5:∀ w:Nat,w<n→w≠i→VY c m w=1→VY c m' w=1):OkP c n m' (l.set i g):=by
 have hi:i<l.length:=(List.getElem?_eq_some_iff.1 hf).1
 have key:∀ (w:Nat) (x:FR),(l.set i g)[w]? = some x→w<n∧((w=i∧x=g)∨(w≠i∧l[w]? = some x)):=by
  intro w x hx
  have hw:=(List.getElem?_eq_some_iff.1 hx).1
  rw [List.length_set,h.clen] at hw
  refine ⟨hw,?_⟩
  by_cases e:w=i
  ·subst e
   rw [List.getElem?_set_self hi] at hx
   exact .inl ⟨rfl,(Option.some.inj hx).symm⟩
  ·rw [List.getElem?_set_ne (by omega)] at hx
   exact .inr ⟨e,hx⟩
 refine ⟨wm,h.may,h.cn,by rw [len];exact h.len,by rw [List.length_set];exact h.clen,?_,low,par,?_,?_⟩
 ·intro w x hx
  rcases key w x hx with ⟨_,⟨rfl,rfl⟩ | ⟨_,hx⟩⟩
  ·exact hg
  ·exact h.frm w x hx
 ·intro w x hx
  have ho:=PZ (g:=g) hf (w:Int)
  rcases key w x hx with ⟨hw,⟨rfl,rfl⟩ | ⟨e,hx⟩⟩
  ·have h1:=h.sgn w f hf
   have h2:=sg w hw
   rw [if_pos rfl,if_pos rfl] at h2
   omega
  ·have h1:=h.sgn w x hx
   have h2:=sg w hw
   rw [if_neg e,if_neg e] at h2
   omega
 ·intro w x hx hx4
  rcases key w x hx with ⟨hw,⟨rfl,rfl⟩ | ⟨e,hx⟩⟩
  ·exact e4 hx4
  ·exact e5 w hw e (h.end4 w x hx hx4)
section
variable {c:CF} {m:List Int} {i a5 X:Int} (hmay:gC c=true) (hlen:(m.length:Int)=dr c)
include hmay hlen
end
end Go.Ab
set_option linter.unusedVariables false
namespace Go.Ab
structure Adr (c:CF) (j:Int):Prop where
 on:∀ w x,x=0∨x=1→onW c w x≠j
 slot:∀ w x,0≤x→x≤18446744073709551615→AC c w x≠j
 seq:∀ x,BN c x≠j
 val:∀ x,WQ c x≠j
 n0:(0:Int)≠j
 n1:(1:Int)≠j
 n3:(3:Int)≠j
 n4:(4:Int)≠j
 n5:(5:Int)≠j
theorem TV {a b D x y:Int} (hD:D=1∨D=2∨D=4∨D=8∨D=16) (hx:0≤x∧x<3+D) (hy:0≤y∧y<3+D) (h:x≠y):a*(3+D)+x≠b*(3+D)+y:=by
 rcases hD with rfl | rfl | rfl | rfl | rfl <;> omega
theorem akC {c:CF}:Adr c 2:=by
 refine ⟨fun w x hx => ?_,fun w x h0 h1 => ?_,fun x => ?_,fun x => ?_,by decide,by decide,by decide,by decide,by decide⟩
 ·unfold onW
  split
  ·rename_i h
   have hm:=bT h.1
   have:=iA h.1 h.2.1 (by omega)
   omega
  ·omega
 ·unfold AC onW
  split
  ·rename_i h
   have hm:=bT h.1
   have:=iA h.1 h.2.1 (by omega)
   have:=GL h0 h1 (show 1≤c.2.1 by omega) (by omega)
   omega
  ·omega
 ·unfold BN
  split
  ·rename_i h
   have:=bT h
   have:=Int.emod_nonneg x (show c.2.2.1≠0 by omega)
   omega
  ·omega
 ·unfold WQ
  split
  ·rename_i h
   have:=bT h
   have:=Int.emod_nonneg x (show c.2.2.1≠0 by omega)
   omega
  ·omega
theorem ai6 {c:CF} {v:Int} (hc:gC c=true) (h0:0≤v) (h1:v<c.1):Adr c (io c v):=by
 have hp:io c v=6+2*c.2.2.1+(v*(3+c.2.1)+2):=by
  unfold io
  rw [if_pos ⟨hc,h0,h1⟩,Fs]
  omega
 have hm:=bT hc
 have ht:=iA hc h0 (by omega)
 rw [hp]
 refine ⟨fun w x hx => ?_,fun w x g0 g1 => ?_,fun x => ?_,fun x => ?_,by omega,by omega,by omega,by omega,by omega⟩
 ·unfold onW
  split
  ·have:=TV (a:=w) (b:=v) hm.2.2.1 (x:=x) (y:=2) (by omega) (by omega) (by omega)
   unfold Fs
   omega
  ·omega
 ·unfold AC onW
  split
  ·have ha:=GL g0 g1 (show 1≤c.2.1 by omega) (by omega)
   have:=TV (a:=w) (b:=v) hm.2.2.1 (x:=3+wa .u64 x (c.2.1 - 1)) (y:=2) (by omega) (by omega) (by omega)
   unfold Fs
   omega
  ·omega
 ·unfold BN
  rw [if_pos hc]
  have a:=Int.emod_lt_of_pos x (show 0<c.2.2.1 by omega)
  have b:0≤v*(3+c.2.1):=ht.2.2.2
  generalize x%c.2.2.1=g at a ⊢
  omega
 ·unfold WQ
  rw [if_pos hc]
  have a:=Int.emod_lt_of_pos x (show 0<c.2.2.1 by omega)
  have b:0≤v*(3+c.2.1):=ht.2.2.2
  generalize x%c.2.2.1=g at a ⊢
  omega
section
variable {c:CF} {m:List Int} {f:FR} {j:Int} (hj:Adr c j) (hf:Wf f)
include hj hf
end
section
variable {c:CF} {m:List Int} {f:FR}
end
def pkW (x:WB):Prop:=x.1=8∧3≤x.2.2.1.2.1
def owF (f:FR) (v:Int):Prop:=f.2.1=2∧f.2.2.2.2.2.1=v
def owW (x:WB) (v:Int):Prop:=x.1=14∧owF x.2.2.1 v
def owS (x:SB) (v:Int):Prop:=x.1=4∧owF x.2.2 v
def Fwk (n w:Int) (x:WB):Prop:=
 (x.1=0∨x.1=2∨x.1=3∨x.1=11∨x.1=12→x.2.2.1.1<5)∧(x.1=5→x.2.2.1=Gq 5 w 0) ∧
 (x.1=6∨x.1=7→x.2.2.1.1=5∧x.2.2.1.2.1=1∧x.2.2.1.2.2.1=w∧x.2.2.1.2.2.2.2.2.2=0) ∧
 (x.1=8→x.2.2.1.1=5∧(0≤x.2.2.1.2.1∧x.2.2.1.2.1≤4)∧x.2.2.1.2.2.1=w∧x.2.2.1.2.2.2.2.2.2=0) ∧
 (x.1=14→x.2.2.1.1=6∧(0≤x.2.2.1.2.1∧x.2.2.1.2.1≤2)∧x.2.2.1.2.2.2.2.2.2=0∧(x.2.2.1.2.1=2→x.2.2.1.2.2.2.2.2.1<n))
def Fsb (n:Int) (x:SB):Prop:=
 (x.1=2→x.2.2.1<5)∧(x.1=4→x.2.2.1=6∧(0≤x.2.2.2.1∧x.2.2.2.1≤2)∧x.2.2.2.2.2.2.2.2=0∧(x.2.2.2.1=2→x.2.2.2.2.2.2.2.1<n))
def agC (n:Int) (m:List Int):Prop:=∀ j:Int,n≤j→j<16→pW (aO m 2) j=false
structure Ef (c:CF) (m m':List Int) (pk0 pk1:Prop) (me:Int) (ow0 ow1:Int→Prop):Prop where
 low:agC c.1 m→agC c.1 m'
 bit:∀ v,0≤v→v<c.1→pW (aO m 2) v=true→pW (aO m' 2) v=true∨ow1 v
 par:∀ v,0≤v→v<c.1→aO m (io c v)≠0→aO m' (io c v)≠0∨v=me∧¬ pk1
 owe:∀ v,0≤v→v<c.1→ow0 v→ow1 v∨aO m' (io c v)≠0
 new:pk1→pk0∨pW (aO m' 2) me=true∨aO m' (io c me)≠0
section
variable {c:CF} {m m':List Int} {pk0 pk1:Prop} {me:Int} {ow0 ow1:Int→Prop}
theorem Ef.calm (hc:gC c=true) (h:∀ j,Adr c j→aO m' j=aO m j) (ho:∀ v,ow0 v→ow1 v) (hp:pk1→pk0):Ef c m m' pk0 pk1 me ow0 ow1:=by
 have h2:=h 2 akC
 refine ⟨fun hl j h0 h1=>by rw [h2];exact hl j h0 h1,fun v _ _ hb => .inl (by rw [h2];exact hb),fun v h0 h1 hb => .inl (by rw [h _ (ai6 hc h0 h1)];exact hb),fun v _ _ hv => .inl (ho v hv),fun h => .inl (hp h)⟩
theorem Ef.same (ho:∀ v,ow0 v→ow1 v) (hp:pk1→pk0):Ef c m m pk0 pk1 me ow0 ow1:=
 ⟨fun hl=>hl,fun v _ _ hb => .inl hb,fun v _ _ hb => .inl hb,fun v _ _ hv => .inl (ho v hv),fun h => .inl (hp h)⟩
end
section
variable {c:CF} {m:List Int} {f:FR} (hc:gC c=true) (hl:(m.length:Int)=dr c) (hm:Wm m) (hf:Wf f)
include hc hl hm hf
end
end Go.Ab
set_option linter.unusedVariables false
namespace Go.Ab
section
variable {n w:Int} {x:WB}
end
theorem Ef.mono {c:CF} {m m':List Int} {p0 p1 q0 q1:Prop} {me:Int} {a0 a1 b0 b1:Int→Prop} (h:Ef c m m' p0 p1 me a0 a1) (h1:q1→p1) (h0:p0→q0) (ha:∀ v,b0 v→a0 v) (hb:∀ v,a1 v→b1 v):Ef c m m' q0 q1 me b0 b1:=
 ⟨h.low,fun v g0 g1 hv=>(h.bit v g0 g1 hv).imp id (hb v),fun v g0 g1 hv=>(h.par v g0 g1 hv).imp id fun e=>⟨e.1,fun q=>e.2 (h1 q)⟩,fun v g0 g1 hv=>(h.owe v g0 g1 (ha v hv)).imp (hb v) id,fun q=>(h.new (h1 q)).imp h0 id⟩
section
variable {c:CF} {t:Tyt} {m:List Int} {w:Int} {x:WB} {d:Int}
theorem Kf {f:FR} (h:f.1=5):gY c m f=r5 c m f:=by
 unfold gY mR JR
 rw [if_neg (by omega),if_neg (by omega),if_pos h]
end
section
variable {c:CF} {t:Tyt} {m:List Int} {i:Int} {x:SB}
end
def akm (W:List WB) (S:List SB) (v:Int):Prop:=(∃ y ∈ W,owW y v)∨∃ y ∈ S,owS y v
structure Sgn (p:PB):Prop where
 w:∀ (i:Nat) x,p.2.2.2.1[i]? = some x→Fwk p.1.1 i x
 s:∀ x ∈ p.2.2.2.2,Fsb p.1.1 x
 low:agC p.1.1 p.2.2.1
 sg:∀ (i:Nat) x,p.2.2.2.1[i]? = some x→pkW x→pW (aO p.2.2.1 2) i=true∨aO p.2.2.1 (io p.1 i)≠0∨akm p.2.2.2.1 p.2.2.2.2 i
end Go.Ab
set_option linter.unusedVariables false
set_option linter.unusedSimpArgs false
namespace Go.Ab
theorem Jl (f:FR):gG f=some (Ak f):=by
 obtain ⟨a0,a1,a2,a3,a4,a5,a6⟩:=f
 unfold gG Ak
 simp only [lG,af,go,ms]
 by_cases h1:a0=5
 ·by_cases h2:a6=0
  ·simp [h1,h2]
  ·have:(a6 !=0)=true:=by simp [h2]
   simp [h1,h2,this]
 ·simp [h1]
def Oq (x:WB):Bool:=decide (x.1=8)&&Ak x.2.2.1
theorem Kn (x:WB):gr x=some (Oq x):=by
 unfold gr Oq
 try simp only [Prod.eta]
 rw [Jl,af,ms]
 by_cases h:x.1=8
 ·rw [decide_eq_true h,cond_true,Bool.true_and]
 ·rw [decide_eq_false h,cond_false,Bool.false_and]
end Go.Ab
set_option linter.unusedVariables false
set_option linter.unusedSimpArgs false
namespace Go.Ab
def AG:List Int→List PK
 | a::b::c::r=>(a%4,b,c)::AG r
 | _=>[]
def Wby (l:List Int):Prop:=∀ x ∈ l,0≤x∧x≤255
theorem GN:∀ l:List Int,3*(AG l).length≤l.length
 | []=>Nat.le_refl _
 | [_]=>by simp [AG]
 | [_,_]=>by simp [AG]
 | a::b::c::r=>by
  have:=GN r
  simp only [AG,List.length_cons]
  omega
theorem SF:∀ {l:List Int},Wby l→Wp (AG l)
 | [],_=>fun x hx=>by simp [AG] at hx
 | [_],_=>fun x hx=>by simp [AG] at hx
 | [_,_],_=>fun x hx=>by simp [AG] at hx
 | a::b::c::r,h=>fun x hx=>by
  rw [AG] at hx
  rcases List.mem_cons.1 hx with rfl | hx
  ·have:=h c (by simp)
   exact ⟨this.1,Int.le_trans this.2 (by decide)⟩
  ·exact SF (l:=r) (fun y hy=>h y (by simp [hy])) x hx
section
variable {k:Nat} (hk:10000≤k) {b:List Int} (hb:Wby b) (hl:b.length≤2000)
include hk hb hl
theorem QW:∀ (n i:Nat) (r:List Int) (acc:List PK) (e:Nat),b.drop i=r→i≤b.length+3→r.length<n→(e=3∨e=0)→acc.length≤i →
  cy k b n (i:Int) e acc=some (acc++AG r):=by
 have _h:=hk
 intro n
 induction n with
 | zero=>intro i r acc e _ _ h;omega
 | succ n ih=>
  intro i r acc e hr hi hn he ha
  have hes:(e==3||e==0)=true:=by rcases he with rfl | rfl <;> rfl
  have hw:IntKind.i64.wrap ((i:Int)+3)=(i:Int)+3:=eR (by omega)
  rw [cy]
  by_cases h0:i<b.length
  ·have hrl:r.length=b.length - i:=by rw [← hr,List.length_drop]
   rw [ltN h0,cond_true,decide_eq_true (show (0:Int)≤(i:Int)∧(i:Int)≤(b.length:Int) by omega),cond_true]
   simp only [Int.toNat_natCast,hr]
   have fin:∀ r':List Int,b.drop (i+3)=r'→r'.length<n→∀ acc' e',(e'=3∨e'=0)→acc'.length≤i+3→cy k b n ((i:Int)+3) e' acc'=some (acc'++AG r'):=fun r' h1 h2 acc' e' h3 h4=>by
    rw [show (i:Int)+3=((i+3:Nat):Int) by omega]
    exact ih (i+3) r' acc' e' h1 (by omega) h2 h3 h4
   have hd3:b.drop (i+3)=r.drop 3:=by rw [← hr,List.drop_drop]
   by_cases h3:r.length<3
   ·have hs:(bif decide ((r.length:Int)<3) then (r.length:Int) else 3)=(r.length:Int):=by rw [ltT (by omega),cond_true]
    rw [hs,eR (show -9223372036854775808≤(i:Int)+(r.length:Int)∧(i:Int)+(r.length:Int)≤9223372036854775807 by omega)]
    have e1:((i:Int)+(r.length:Int)).toNat=i+r.length:=by omega
    rw [e1,decide_eq_true (by omega),cond_true]
    have ht:(b.take (i+r.length)).drop i=r:=by
     rw [List.take_of_length_le (by omega)]
     exact hr
    rw [ht,ms,decide_eq_false (by omega),cond_false]
    have hrn:AG r=[]:=by
     rcases r with _ | ⟨x,_ | ⟨y,_ | ⟨z,r⟩⟩⟩
     ·rfl
     ·rfl
     ·rfl
     ·simp at h3;omega
    have hd0:r.drop 3=[]:=List.drop_eq_nil_iff.2 (by omega)
    have:=fin [] (by rw [hd3,hd0]) (by simp;omega) acc e he (by omega)
    rw [hw,this,hrn]
    rfl
   ·have hs:(bif decide ((r.length:Int)<3) then (r.length:Int) else 3)=3:=by rw [ltF (by omega),cond_false]
    rw [hs,eR (show -9223372036854775808≤(i:Int)+3∧(i:Int)+3≤9223372036854775807 by omega)]
    have e1:((i:Int)+3).toNat=i+3:=by omega
    rw [e1,decide_eq_true (by omega),cond_true]
    rcases r with _ | ⟨x,_ | ⟨y,_ | ⟨z,r⟩⟩⟩
    ·simp at h3
    ·simp at h3
    ·simp at h3
    ·have ht:(b.take (i+3)).drop i=[x,y,z]:=by
      rw [List.drop_take,hr,show i+3 - i=3 by omega]
      rfl
     have hx:x ∈ b:=List.mem_of_mem_drop (by rw [hr];simp)
     have hy:y ∈ b:=List.mem_of_mem_drop (by rw [hr];simp)
     have hz:z ∈ b:=List.mem_of_mem_drop (by rw [hr];simp)
     have bx:=hb x hx
     have by':=hb y hy
     have bz:=hb z hz
     simp only [ht]
     rw [show ((([x,y,z]:List Int).length:Int)==3)=true from rfl,cond_true]
     have i0:idx [x,y,z] 0=some x:=rfl
     have i1:idx [x,y,z] 1=some y:=rfl
     have i2:idx [x,y,z] 2=some z:=rfl
     rw [i0,af,i1,af,i2,af,hes,bA,Int.tmod_eq_emod_of_nonneg bx.1]
     have hm:=Int.emod_nonneg x (show (4:Int)≠0 by decide)
     have hm2:=Int.emod_lt_of_pos x (show (0:Int)<4 by decide)
     rw [eR (z:=x%4) (by omega),eR (z:=y) (by omega),kO (z:=z) (by omega) (by omega),ut (by rw [List.length_append];simp;omega),cond_true]
     have:=fin r (by rw [hd3];rfl) (by simp at hn;omega) (acc++[(x%4,y,z)]) 3 (.inl rfl) (by rw [List.length_append];simp;omega)
     rw [this,AG,List.append_assoc]
     rfl
  ·have hr0:r=[]:=by rw [← hr];exact List.drop_eq_nil_iff.2 (by omega)
   rw [ltF (by omega),cond_false,hr0]
   simp [AG]
theorem O3:gp k b=some (AG b):=by
 unfold gp
 exact QW hk hb hl (k+22) 0 b [] 0 rfl (by omega) (by omega) (.inr rfl) (Nat.le_refl _)
end
def iH (w s:Nat) (d:Int):List PK:=(List.range w).map (fun i:Nat=>((0:Int),(i:Int),d))++(List.range s).map (fun i:Nat=>((1:Int),(i:Int),d))
theorem D8 (w s:Nat) (d:Int):(iH w s d).length=w+s:=by simp [iH]
theorem QP {w s:Nat} {d:Int} (h:0≤d∧d≤18446744073709551615):Wp (iH w s d):=by
 intro x hx
 unfold iH at hx
 rcases List.mem_append.1 hx with hx | hx
 ·obtain ⟨i,_,rfl⟩:=List.mem_map.1 hx
  exact h
 ·obtain ⟨i,_,rfl⟩:=List.mem_map.1 hx
  exact h
section
variable {k:Nat} (hk:100≤k) {w s:Nat} (hw:w≤20) (hs:s≤20) (d:Int)
include hk hw hs
theorem ajS:∀ (r i n e:Nat),i+r=s→r<n→(e=3∨e=0)→dn k w s d n ((List.range w).map (fun i:Nat=>((0:Int),(i:Int),d))++(List.range i).map (fun i:Nat=>((1:Int),(i:Int),d))) e (i:Int)=some (iH w s d):=by
 have _h:=hk
 intro r
 induction r with
 | zero=>
  intro i n e hi hn he
  obtain ⟨n,rfl⟩:=fF hn
  rw [dn,ltF (by omega),cond_false,show i=s by omega]
  rfl
 | succ r ih=>
  intro i n e hi hn he
  obtain ⟨n,rfl⟩:=fF hn
  have hes:(e==3||e==0)=true:=by rcases he with rfl | rfl <;> rfl
  rw [dn,ltT (by omega),cond_true,hes,bA,ut (by simp;omega),cond_true,eQ (by omega)]
  have:=ih (i+1) n 3 (by omega) (by omega) (.inl rfl)
  rw [List.range_succ,List.map_append] at this
  rw [List.append_assoc]
  exact this
theorem akf:∀ (r i n e:Nat),i+r=w→r<n→(e=3∨e=0)→di k w s d n ((List.range i).map (fun i:Nat=>((0:Int),(i:Int),d))) (i:Int) e=some (iH w s d):=by
 intro r
 induction r with
 | zero=>
  intro i n e hi hn he
  obtain ⟨n,rfl⟩:=fF hn
  rw [di,ltF (by omega),cond_false,show i=w by omega]
  have:=ajS hk hw hs d s 0 (k+1) e (by omega) (by omega) he
  rw [List.range_zero,List.map_nil,List.append_nil] at this
  exact this
 | succ r ih=>
  intro i n e hi hn he
  obtain ⟨n,rfl⟩:=fF hn
  have hes:(e==3||e==0)=true:=by rcases he with rfl | rfl <;> rfl
  rw [di,ltT (by omega),cond_true,hes,bA,ut (by simp;omega),cond_true,eQ (by omega)]
  have:=ih (i+1) n 3 (by omega) (by omega) (.inl rfl)
  rw [List.range_succ,List.map_append] at this
  exact this
theorem V4:f9 k w s d=some (iH w s d):=by
 unfold f9
 rw [Ft,af,decide_eq_true (by omega),Bool.not_true,cond_false,Ft,af,decide_eq_true (by omega),Bool.not_true,cond_false]
 exact akf hk hw hs d w 0 (k+1) 0 (by omega) (by omega) (.inr rfl)
end
def EM (c:CF) (m:List Int):Nat→List WB→Bool
 | _,[]=>true
 | i,x::l=>Oq x&&decide (aO m (io c i)=0)&&EM c m (i+1) l
def Wr (p:PB):Bool:=eI p && !(p.2.2.2.2.any fun x => !decide (x.1=0))&&EM p.1 p.2.2.1 0 p.2.2.2.1
def Aq (p:PB):Bool:=Wr p&&decide (aO p.2.2.1 0=0) && !(p.2.2.2.2.any fun x=>decide (0<(x.2.1.length:Int)))
theorem Vm (x:SB):gw x=some (!decide (x.1=0)):=by
 unfold gw
 rw [Cu]
theorem X7 (k:Nat) (hk:100≤k) {S:List SB} (hS:S.length≤20):aU k S=some (S.any fun x => !decide (x.1=0)):=by
 unfold aU bl
 have h:aC (k+8) S (k+8+8) 0=some (GR (fun x => !decide (x.1=0)) S 0):=by
  refine Ha (F:=fun n i=>aC (k+8) S n i) (l:=S) _ ?_ ?_ _ (by omega)
  ·intro n
   simp only [aC,oU,cond_false]
  ·intro n i x hi hx
   simp only [aC,ltN hi,cond_true,dS hx,af,Prod.eta,Vm]
   rw [eQ (by omega)]
 rw [h,af,nH]
theorem V8 (k:Nat) (hk:100≤k) {S:List SB} (hS:S.length≤20):aS k S=some (S.any fun x=>decide (0<(x.2.1.length:Int))):=by
 unfold aS bd
 have h:aA (k+8) S (k+8+8) 0=some (GR (fun x=>decide (0<(x.2.1.length:Int))) S 0):=by
  refine Ha (F:=fun n i=>aA (k+8) S n i) (l:=S) _ ?_ ?_ _ (by omega)
  ·intro n
   simp only [aA,oU,cond_false]
  ·intro n i x hi hx
   simp only [aA,ltN hi,cond_true,dS hx,af,gn]
   rw [eQ (by omega)]
 rw [h,af,nH]
section
variable {k:Nat} (hk:9223372036854779000≤k) {p:PB} (ht:Wt p.2.1) (hw:∀ x ∈ p.2.2.2.1,x.2.1.length≤9000) (hs:∀ x ∈ p.2.2.2.2,x.2.1.length≤1000)
include hk ht hw hs
theorem O5:gt k p=some (Wr p):=by
 unfold gt Wr
 rw [Dt hk ht hw hs,af]
 cases hm:eI p with
 | false=>rfl
 | true=>
  obtain ⟨h1,h2,h3,h4,h5⟩:=mK hm
  have hc:=bT h1
  rw [Bool.not_true,cond_false,X7 _ (by omega) (by omega),af]
  cases p.2.2.2.2.any fun x => !decide (x.1=0) with
  | true=>rfl
  | false=>
   rw [cond_false,Bool.not_false,Bool.and_true,Bool.true_and]
   have key:∀ (r:List WB) (q n:Nat),p.2.2.2.1.drop q=r→q≤p.2.2.2.1.length→r.length<n→cU k p n (q:Int)=some (EM p.1 p.2.2.1 q r):=by
    intro r
    induction r with
    | nil=>
     intro q n hr hq hn
     obtain ⟨n,rfl⟩:=fF hn
     have:=cC hr
     rw [cU,ltF (by omega),cond_false,EM]
    | cons v r ih=>
     intro q n hr hq hn
     obtain ⟨n,rfl⟩:=fF hn
     obtain ⟨g0,g1,g2,_,g4⟩:=bO hr
     have hlay:fp p.1 (q:Int)=some (io p.1 (q:Int)):=HU p.1 _
     rw [cU,ltN g0,cond_true,dS g1,af]
     simp only [Prod.eta,Kn,af,hlay,eB]
     rw [EM,eQ (by omega),ih (q+1) n g2 (by omega) (by simp only [List.length_cons] at hn;omega),Cu]
     cases Oq v with
     | false=>rfl
     | true=>
      by_cases h:aO p.2.2.1 (io p.1 q)=0
      ·rw [decide_eq_true h];rfl
      ·rw [decide_eq_false h];rfl
   have:=key p.2.2.2.1 0 (k+35) rfl (Nat.zero_le _) (by omega)
   exact this
theorem BG:d9 k p=some (Aq p):=by
 unfold d9 Aq
 rw [O5 hk ht hw hs,af]
 cases ha:Wr p with
 | false=>rfl
 | true=>
  have hm:eI p=true:=by
   unfold Wr at ha
   simp only [Bool.and_eq_true] at ha
   exact ha.1.1
  obtain ⟨h1,h2,h3,h4,h5⟩:=mK hm
  rw [cond_true,eB,af,ms]
  by_cases h:aO p.2.2.1 0=0
  ·rw [decide_eq_true h,cond_true,V8 _ (by omega) (by omega),af]
   rfl
  ·rw [decide_eq_false h]
   rfl
end
end Go.Ab
set_option linter.unusedVariables false
set_option linter.unusedSimpArgs false
namespace Go.Ab
def RlK {A B:Type} (x:Option (A×B)) (y:Option (A×B×Nat)):Prop:=∀ r,x=some r→∃ e,(e=3∨e=0)∧y=some (r.1,r.2,e)
section
variable {A B C:Type}
theorem RlK.non {y:Option (A×B×Nat)}:RlK none y:=fun r h=>by cases h
theorem RlK.fin (a:A) (b:B) {e:Nat} (h:e=3∨e=0):RlK (some (a,b)) (some (a,b,e)):=fun r hr=>by cases hr;exact ⟨e,h,rfl⟩
theorem RlK.ob {a:Option C} {f:C→Option (A×B)} {g:C→Option (A×B×Nat)} (h:∀ x,RlK (f x) (g x)):RlK (ob a f) (ob a g):=by
 cases a with
 | none=>exact .non
 | some x=>rw [af,af];exact h x
theorem RlK.cond {c:Bool} {x x':Option (A×B)} {y y':Option (A×B×Nat)} (h:RlK x y) (h':RlK x' y'):RlK (bif c then x else x') (bif c then y else y'):=by
 cases c
 ·exact h'
 ·exact h
theorem RlK.ck {c:Bool} {x:Option (A×B)} {y:Option (A×B×Nat)} (h:RlK x y):RlK (ck c x) (ck c y):=by
 cases c
 ·exact fun r hr=>by cases hr
 ·rw [bA,bA];exact h
end
theorem U2 (k:Nat) (p:PB) (l:List PK):∀ (n:Nat) (a b c d:Int) (t:Tyt) (W0:List WB) (S0:List SB) (W:List WB) (S:List SB) (evs:List EV) (q:Int) (m:List Int) (e:Nat),(e=3∨e=0) →
  RlK (bt k p l n a b c d t W0 S0 W S evs q m e) (bU k p l n a b c d t W0 S0 W S evs q m e):=by
 intro n
 induction n with
 | zero=>intros;exact .non
 | succ n ih=>
  intro a b c d t W0 S0 W S evs q m e he
  rw [bt,bU]
  repeat' first | exact RlK.non | exact RlK.fin _ _ he | exact ih _ _ _ _ _ _ _ _ _ _ _ _ _ (.inl rfl) | exact ih _ _ _ _ _ _ _ _ _ _ _ _ _ he | apply RlK.cond | apply RlK.ck | (refine RlK.ob fun x => ?_)
theorem Va (k:Nat) (p:PB) (l:List PK):RlK (fo k p l) (gH k p l):=by
 unfold fo gH
 repeat' first | exact RlK.non | exact RlK.fin _ _ (.inr rfl) | exact U2 _ _ _ _ _ _ _ _ _ _ _ _ _ _ _ _ _ (.inr rfl) | apply RlK.cond | apply RlK.ck | (refine RlK.ob fun x => ?_)
theorem adS {k:Nat} (hk:9223372036854779000≤k) {p:PB} (ht:FwT p.2.1) (hw:∀ x ∈ p.2.2.2.1,x.2.1.length≤9000) (hs:∀ x ∈ p.2.2.2.2,x.2.1.length≤1000) (hW:p.2.2.2.1.length≤20) (hS:p.2.2.2.2.length≤20) (hml:p.2.2.1.length≤1000):fb k p=some (p,[]):=by
 unfold fb
 try simp only [Prod.eta]
 rw [G6 _ (by omega) ht,af,bF (by omega),af,bF (by omega),af,bF (by omega),af]
 have ho:=Ib k (by omega) p.1.1 p.1.2.1 p.1.2.2.1 p.1.2.2.2 p.2.1 p.2.2.1 (by omega) hw (by omega) hs p.2.2.2.1 0 (k+61) rfl (Nat.zero_le _) (by omega)
 refine (congrArg (fun z=>ob z _) ho).trans ?_
 rw [af]
 dsimp only
 rw [decide_eq_true (Nat.le_refl _),bA,decide_eq_true (Nat.le_refl _),bA,Dt (by omega) ht.wt hw hs,af,List.take_length,List.take_length,decide_eq_true (Nat.le_refl _),decide_eq_true (Nat.le_refl _)]
 cases hm:eI p with
 | false=>
  rw [Bool.not_false,cond_true,bA,bA,List.take_length,List.take_length]
 | true=>
  rw [Bool.not_true,cond_false,eO,decide_eq_true (Nat.le_refl _),bA,decide_eq_true (Nat.le_refl _),bA,List.take_length,List.take_length]
def drB:Nat→Nat→PB→PB×List EV×Nat
 | 0,i,p=>(p,[],i)
 | d+1,i,p=>if Aq p=true then (p,[],i) else
  let r:=mB p (iH p.1.1.toNat p.2.2.2.2.length i)
  let q:=drB d (i+1) r.1
  (q.1,r.2++q.2.1,q.2.2)
def nu (p:PB) (n:Nat):PB×List EV×Nat:=if eI p=true then drB n 0 p else (p,[],0)
theorem QK {p:PB} (h:Aq p=true):eI p=true:=by
 unfold Aq Wr at h
 simp only [Bool.and_eq_true] at h
 exact h.1.1.1.1
theorem Hx {p:PB} (hm:eI p=true):p.1.1.toNat≤8∧((p.1.1.toNat:Nat):Int)=p.1.1:=by
 have hc:=bT (mK hm).1
 omega
theorem Good.mono {n m:Nat} {p:PB} (h:Good n p) (hnm:n≤m):Good m p:=⟨h.t,h.tl,h.m,fun x hx=>⟨(h.w x hx).f,Nat.le_trans (h.w x hx).s hnm,(h.w x hx).sp⟩,h.s⟩
section
variable {k:Nat} (hk:9223372036854779100≤k)
include hk
theorem abG {p:PB} {N:Nat} (hg:Good N p) (hm:eI p=true) {l:List PK} (hd:Wp l) (hl:l.length≤20) (hN:N+l.length≤9000):∃ e,(e=3∨e=0)∧gH k p l=some ((mB p l).1,(mB p l).2,e):=by
 have L:=kW hm
 have h:=U5 (k:=k) (by omega) (l:=l) (by omega) hd hg (by omega) (by omega) (by omega) hN
 unfold adY at h
 rw [if_pos hm] at h
 exact Va k p l _ h
theorem KF {p0:PB} {v1:Int} (hv:v1≤5000):∀ (d n i N:Nat) (p:PB) (evs:List EV) (e:Nat),(i:Int)+d=max v1 0→d<n→(e=3∨e=0)→p.1=p0.1→p.2.2.2.2.length=p0.2.2.2.2.length→Good N p→eI p=true→N+11*d≤9000→evs.length≤22*i →
  dm k p0 v1 n p.1.1 p.1.2.1 p.1.2.2.1 p.1.2.2.2 p.2.1 p.2.2.1 p.2.2.2.1 p.2.2.2.2 (i:Int) e evs=some ((drB d i p).1,evs++(drB d i p).2.1,((drB d i p).2.2:Int)):=by
 intro d
 induction d with
 | zero=>
  intro n i N p evs e hi hn he h1 h2 hg hm hN hE
  obtain ⟨n,rfl⟩:=fF hn
  rw [dm]
  have hc:(bif decide ((5000:Int)<v1) then (5000:Int) else v1)=v1:=by rw [ltF (by omega),cond_false]
  rw [hc,ltF (by omega),cond_false,drB,List.append_nil]
 | succ d ih=>
  intro n i N p evs e hi hn he h1 h2 hg hm hN hE
  obtain ⟨n,rfl⟩:=fF hn
  have L:=kW hm
  obtain ⟨b1,b2⟩:=Hx hm
  have hc:(bif decide ((5000:Int)<v1) then (5000:Int) else v1)=v1:=by rw [ltF (by omega),cond_false]
  have hes:(e==3||e==0)=true:=by rcases he with rfl | rfl <;> rfl
  have hrd:f9 (k+86) p.1.1 (p.2.2.2.2.length:Int) (i:Int)=some (iH p.1.1.toNat p.2.2.2.2.length i):=by
   have:=V4 (k:=k+86) (by omega) (w:=p.1.1.toNat) (s:=p.2.2.2.2.length) (by omega) (by omega) (i:Int)
   rw [b2] at this
   exact this
  rw [dm,hc,ltT (by omega),cond_true,kO (z:=(i:Int)) (by omega) (by omega),← h1,← h2,hrd,af]
  simp only [Prod.eta]
  rw [BG (by omega) hg.t.wt (fun x hx=>by have:=(hg.w x hx).s;omega) (fun x hx=>(hg.s x hx).s),af,drB]
  cases hr:Aq p with
  | true=>rw [cond_true,if_pos rfl,List.append_nil]
  | false=>
   rw [cond_false,if_neg (by simp)]
   have hrl:=D8 p.1.1.toNat p.2.2.2.2.length (i:Int)
   obtain ⟨e',he',hrun⟩:=abG (k:=k+24) (by omega) hg hm (l:=iH p.1.1.toNat p.2.2.2.2.length (i:Int)) (QP (by omega)) (by omega) (by omega)
   have hev:=Hh (l:=iH p.1.1.toNat p.2.2.2.2.length (i:Int)) (p:=p)
   have hsm:=CG (l:=iH p.1.1.toNat p.2.2.2.2.length (i:Int)) (p:=p)
   have hgd:=(m9 (l:=iH p.1.1.toNat p.2.2.2.2.length (i:Int)) hg hm).mono (m:=N+11) (by omega)
   have hmy:=FH (l:=iH p.1.1.toNat p.2.2.2.2.length (i:Int)) hm
   rw [hrun,af,hes,bA]
   generalize mB p (iH p.1.1.toNat p.2.2.2.2.length (i:Int))=r at hev hsm hgd hmy ⊢
   have hap:(evs++r.2).length≤22*(i+1):=by rw [List.length_append];omega
   dsimp only
   rw [ut (by omega),cond_true,eQ (by omega)]
   have:=ih n (i+1) (N+11) r.1 (evs++r.2) 3 (by omega) (by omega) (.inl rfl) (by rw [hsm.1,h1]) (by rw [hsm.2.2.2.1,h2]) hgd hmy (by omega) hap
   rw [List.append_assoc] at this
   exact this
theorem Hl {p:PB} {N:Nat} (hg:Good N p) (hW:p.2.2.2.1.length≤20) (hS:p.2.2.2.2.length≤20) (hml:p.2.2.1.length≤1000) {v:Int} (hv:v≤5000) (hN:N+11*v.toNat≤9000):dY k p v=some ((nu p v.toNat).1,(nu p v.toNat).2.1,((nu p v.toNat).2.2:Int)):=by
 have hw:∀ x ∈ p.2.2.2.1,x.2.1.length≤9000:=fun x hx=>by have:=(hg.w x hx).s;omega
 have hs:∀ x ∈ p.2.2.2.2,x.2.1.length≤1000:=fun x hx=>(hg.s x hx).s
 unfold dY nu
 simp only [Prod.eta]
 rw [adS (by omega) hg.t hw hs hW hS hml,af,Dt (by omega) hg.t.wt hw hs,af]
 cases hm:eI p with
 | false=>
  rw [Bool.not_false,cond_true,if_neg (by simp)]
  rfl
 | true=>
  rw [Bool.not_true,cond_false,if_pos rfl]
  have:=KF (k:=k) hk (p0:=p) (v1:=v) (by omega) v.toNat (k+88) 0 N p [] 0 (by omega) (by omega) (.inr rfl) rfl rfl hg hm (by omega) (Nat.le_refl _)
  rw [List.nil_append] at this
  exact this
theorem adf (c:CF) {t:Tyt} (ht:FwT t) {roots:List (List Int)} (hr:∀ l ∈ roots,l.length≤60) {b:List Int} (hb:Wby b) (hl:b.length≤2000) :
  gV k c t roots b=some (rq,[],false)∨gV k c t roots b=some ((mB (Ka c t roots) (AG b)).1,(mB (Ka c t roots) (AG b)).2,true)∧gC c=true∧wM t=true∧roots.length≤3∧(∀ l ∈ roots,∀ y ∈ l,0≤y∧y<(t.length:Int)):=by
 unfold gV
 simp only [Prod.eta]
 rcases ZM (k:=k+41) (by omega) c ht (roots:=roots) (fun x hx=>by have:=hr x hx;omega) with h | ⟨h,hc,ht2,h3,hr'⟩
 ·rw [h,af]
  exact .inl rfl
 ·refine .inr ⟨?_,hc,ht2,h3,hr'⟩
  have g0:=Ho (c:=c) ht hr
  have m0:=Ni hc ht2 h3 hr'
  have L:=kW m0
  have hd:=GN b
  rw [h,af,Bool.not_true,cond_false,O3 (by omega) hb hl,af,U5 (by omega) (by omega) (SF hb) g0 (by omega) (by omega) (by omega) (by omega)]
  unfold adY
  rw [if_pos m0,af]
end
theorem ML:Good 0 rq:=⟨⟨by decide,by simp [rq]⟩,by decide,⟨by decide,by simp [rq]⟩,by simp [rq],by simp [rq]⟩
end Go.Ab
set_option linter.unusedVariables false
namespace Go.Ab
theorem EB {c:CF} {m:List Int}:∀ {l:List WB} {i:Nat},EM c m i l=true↔∀ (j:Nat) x,l[j]? = some x→Oq x=true∧aO m (io c ((i+j:Nat):Int))=0
 | [],i=>by simp [EM]
 | y::l,i=>by
  rw [EM,Bool.and_eq_true,Bool.and_eq_true,decide_eq_true_eq,EB (l:=l)]
  constructor
  ·intro h j x hx
   cases j with
   | zero=>cases hx;exact h.1
   | succ j=>
    have:=h.2 j x hx
    rw [show i+(j+1)=i+1+j by omega]
    exact this
  ·intro h
   refine ⟨h 0 y rfl,fun j x hx => ?_⟩
   have:=h (j+1) x hx
   rw [show i+1+j=i+(j+1) by omega]
   exact this
structure Rest (p:PB):Prop where
 may:eI p=true
 idle:∀ x ∈ p.2.2.2.2,x.1=0∧x.2.1=[]
 prk:∀ (j:Nat) x,p.2.2.2.1[j]? = some x→Oq x=true∧aO p.2.2.1 (io p.1 (j:Int))=0
 none:aO p.2.2.1 0=0
theorem Iq {p:PB}:Aq p=true↔Rest p:=by
 unfold Aq Wr
 simp only [Bool.and_eq_true,Bool.not_eq_true',List.any_eq_false,decide_eq_true_eq,EB,Nat.zero_add]
 constructor
 ·rintro ⟨⟨⟨⟨a,b⟩,c⟩,d⟩,e⟩
  refine ⟨a,fun x hx=>⟨?_,?_⟩,c,d⟩
  ·have:=b x hx
   simpa using this
  ·have:=e x hx
   exact List.length_eq_zero_iff.1 (by omega)
 ·intro h
  refine ⟨⟨⟨⟨h.may,fun x hx => ?_⟩,h.prk⟩,h.none⟩,fun x hx => ?_⟩
  ·simp [(h.idle x hx).1]
  ·simp [(h.idle x hx).2]
theorem aaK {x:WB} (h:Oq x=true):x.1=8∧x.2.2.1.1=5∧x.2.2.1.2.2.2.2.2.2=0∧x.2.2.1.2.1=3:=by
 unfold Oq Ak at h
 rw [Bool.and_eq_true,decide_eq_true_eq,decide_eq_true_eq] at h
 exact h
theorem ac2 {x:WB} (h1:x.1=8) (h2:x.2.2.1.1=5) (h3:x.2.2.1.2.2.2.2.2.2=0) (h4:x.2.2.1.2.1=3):Oq x=true:=by
 unfold Oq Ak
 rw [Bool.and_eq_true,decide_eq_true_eq,decide_eq_true_eq]
 exact ⟨h1,h2,h3,h4⟩
theorem N7 {p:PB} {k:PK} (h:Rest p) (hk:Ax k p.1.1 p.2.2.2.2.length=true):Rest (fO p k).1∧(fO p k).2=[]:=by
 obtain ⟨m1,m2,m3,m4,m5⟩:=mK h.may
 have L:=kW h.may
 have hmay:=ub h.may hk
 have hmc:=bT m1
 refine (show eI (fO p k).1=true→_ from ?_) hmay
 refine nd (P:=fun r=>eI r.1=true→Rest r.1∧r.2=[]) (fun hm=>⟨h,rfl⟩) (fun x hx hk0 hm => ?_) (fun x hx hms => ?_) (fun hm => ?_)
 ·obtain ⟨g1,g2⟩:=h.prk _ x hx
  obtain ⟨a1,a2,a3,a4⟩:=aaK g1
  have hmw:d8 p.1 p.2.1 p.2.2.1 k.2.1 x=true:=by
   have:=m4 _ x hx
   have e:((k.2.1.toNat:Nat):Int)=k.2.1:=by
    unfold Ax at hk
    rw [decide_eq_true_eq] at hk
    omega
   rwa [e] at this
  have hw:ct p.1 p.2.1 p.2.2.1 k.2.1 x k.2.2=gm p.1 p.2.2.1 x:=by
   unfold ct
   rw [if_neg (by rw [hmw];decide),if_neg (by omega),if_neg (by omega),if_neg (by omega),if_neg (by omega),if_neg (by omega),if_neg (by omega),if_neg (by omega),if_pos a1]
  have hcall:gY p.1 p.2.2.1 x.2.2.1=r5 p.1 p.2.2.1 x.2.2.1:=Kf a2
  have hpark:∀ u:Int,0≤u→u<p.1.1→aO p.2.2.1 (io p.1 u)=0:=by
   intro u h0 h1
   have hu:u.toNat<p.2.2.2.1.length:=by omega
   have:=(h.prk u.toNat _ (List.getElem?_eq_getElem hu)).2
   rwa [show ((u.toNat:Nat):Int)=u by omega] at this
  have key:∃ f:FR,r5 p.1 p.2.2.1 x.2.2.1=(p.2.2.1,f)∧f.1=5∧f.2.2.2.2.2.2=0∧f.2.1=3:=by
   unfold r5
   by_cases hg:og p.1 p.2.2.1 x.2.2.1 5 5=false
   ·rw [if_pos hg]
    exact ⟨_,rfl,a2,a3,a4⟩
   ·have hg':og p.1 p.2.2.1 x.2.2.1 5 5=true:=by simpa using hg
    unfold og at hg'
    simp only [Bool.and_eq_true,decide_eq_true_eq] at hg'
    rw [if_neg hg,if_neg (by omega),if_neg (by omega),if_neg (by omega),if_pos a4]
    dsimp only
    rw [hpark _ hg'.2.2.1 hg'.2.2.2.1,if_pos rfl]
    exact ⟨_,rfl,a2,a3,rfl⟩
  obtain ⟨f,hf,b1,b2,b3⟩:=key
  have hov:go f=false:=by unfold go;simp [b2]
  have hc:gm p.1 p.2.2.1 x=(p.2.2.1,(x.1,x.2.1,f,x.2.2.2),[]):=by
   unfold gm
   rw [hcall,hf]
   dsimp only
   rw [if_neg (by rw [hov];decide)]
  rw [hw,hc] at hm ⊢
  refine ⟨⟨hm,h.idle,fun j y hy => ?_,h.none⟩,rfl⟩
  dsimp only at hy ⊢
  rw [List.getElem?_set] at hy
  split at hy
  ·rename_i e
   split at hy
   ·cases hy
    rw [← e]
    exact ⟨ac2 a1 b1 b2 b3,g2⟩
   ·cases hy
  ·exact h.prk j y hy
 ·have:=(h.idle x (List.mem_of_getElem? hx)).2
  unfold r7 at hms
  simp [this] at hms
 ·refine ⟨⟨hm,h.idle,fun j y hy=>⟨(h.prk j y hy).1,?_⟩,?_⟩,rfl⟩
  ·have hj:j<p.2.2.2.1.length:=(List.getElem?_eq_some_iff.1 hy).1
   have hne:(3:Int)≠io p.1 (j:Int):=(ai6 m1 (by omega) (by omega)).n3
   dsimp only
   rw [oP _ hne]
   exact (h.prk j y hy).2
  ·dsimp only
   rw [oP _ (show (3:Int)≠0 by decide)]
   exact h.none
theorem Cy:∀ {l:List PK} {p:PB},Rest p→Rest (mB p l).1∧(mB p l).2=[]
 | [],p,h=>⟨h,rfl⟩
 | k::l,p,h=>by
  rw [mB]
  split
  ·rename_i hk
   obtain ⟨a,b⟩:=N7 h hk
   obtain ⟨c,d⟩:=Cy (l:=l) a
   exact ⟨c,by rw [b,d];rfl⟩
  ·exact Cy h
theorem Kr {p:PB} (h:Aq p=true) (n:Nat):nu p n=(p,[],0):=by
 unfold nu
 rw [if_pos (QK h)]
 cases n with
 | zero=>rfl
 | succ n=>rw [drB,if_pos h]
end Go.Ab
set_option linter.unusedVariables false
set_option linter.unusedSimpArgs false
namespace Go.Ab
section
variable {k:Nat} (hk:9223372036854779000≤k)
include hk
theorem SD {l:List Int} (hl:l.length≤1000):cL k l l=some true:=by
 unfold cL
 rw [Nd,decide_eq_true rfl,Bool.not_true,cond_false]
 have key:∀ (r:List Int) (q n:Nat),l.drop q=r→r.length<n→bK k l l n (q:Int)=some true:=by
  intro r
  induction r with
  | nil=>
   intro q n hr hn
   obtain ⟨n,rfl⟩:=fF hn
   have:=cC hr
   rw [bK,ltF (by omega),cond_false]
  | cons v r ih=>
   intro q n hr hn
   obtain ⟨n,rfl⟩:=fF hn
   obtain ⟨h0,h1,h2,_,h4⟩:=bO hr
   rw [bK,ltN h0,cond_true,dS h1,af,af,eQ (by omega),Cu,decide_eq_true rfl,Bool.not_true,cond_false]
   exact ih (q+1) n h2 (by simp only [List.length_cons] at hn;omega)
 exact key l 0 k rfl (by omega)
theorem abD {t:Tyt} (ht:FwT t):gF k t t=some true:=by
 have hl:=ht.len
 unfold gF ba
 rw [Nd,decide_eq_true rfl,Bool.not_true,cond_false]
 have key:∀ (r:Tyt) (q n:Nat),t.drop q=r→r.length<n→az k t t n (q:Int)=some true:=by
  intro r
  induction r with
  | nil=>
   intro q n hr hn
   obtain ⟨n,rfl⟩:=fF hn
   have:=cC hr
   rw [az,ltF (by omega),cond_false]
  | cons v r ih=>
   intro q n hr hn
   obtain ⟨n,rfl⟩:=fF hn
   obtain ⟨h0,h1,h2,_,h4⟩:=bO hr
   have hv:=ht.kids v (List.mem_of_getElem? h1)
   rw [az,ltN h0,cond_true,dS h1,af,af,eQ (by omega)]
   unfold gh
   simp only [Prod.eta]
   rw [ms,decide_eq_true rfl,cond_true,SD (by omega) (by omega),af,af,Bool.not_true,cond_false]
   exact ih (q+1) n h2 (by simp only [List.length_cons] at hn;omega)
 have h:=key t 0 (k+8) rfl (by omega)
 have h':az k t t (k+8) 0=some true:=h
 rw [h',af]
theorem adE {m:List Int} (hl:m.length≤1000):ko k m m=some true:=by
 unfold ko
 have key:∀ (r:List Int) (q n:Nat),m.drop q=r→r.length<n→dE k m m n (q:Int)=some true:=by
  intro r
  induction r with
  | nil=>
   intro q n hr hn
   obtain ⟨n,rfl⟩:=fF hn
   have:=cC hr
   rw [dE,ltF (by omega),cond_false]
   simp
  | cons v r ih=>
   intro q n hr hn
   obtain ⟨n,rfl⟩:=fF hn
   obtain ⟨h0,h1,h2,_,h4⟩:=bO hr
   have:=ih (q+1) n h2 (by simp only [List.length_cons] at hn;omega)
   simp only [dE,ltN h0,cond_true,dS h1,af,eQ (show q≤9223372036854775806 by omega),this]
   simp
 exact key m 0 k rfl (by omega)
theorem adp {W:List WB} (hW:W.length≤20) (hw:∀ x ∈ W,x.2.1.length≤9000):a8 k W W=some true:=by
 unfold a8
 rw [Nd,decide_eq_true rfl,Bool.not_true,cond_false]
 have key:∀ (r:List WB) (q n:Nat),W.drop q=r→r.length<n→aI k W W n (q:Int)=some true:=by
  intro r
  induction r with
  | nil=>
   intro q n hr hn
   obtain ⟨n,rfl⟩:=fF hn
   have:=cC hr
   rw [aI,ltF (by omega),cond_false]
  | cons v r ih=>
   intro q n hr hn
   obtain ⟨n,rfl⟩:=fF hn
   obtain ⟨h0,h1,h2,_,h4⟩:=bO hr
   obtain ⟨b,hb,hb'⟩:=Sy (k:=k+5) (by omega) v v (hw v (List.mem_of_getElem? h1))
   rw [aI,ltN h0,cond_true,dS h1,af,af,eQ (by omega)]
   simp only [Prod.eta]
   rw [hb,af,hb'.2 rfl,Bool.not_true,cond_false]
   exact ih (q+1) n h2 (by simp only [List.length_cons] at hn;omega)
 exact key W 0 (k+8) rfl (by omega)
theorem abW {S:List SB} (hS:S.length≤20) (hs:∀ x ∈ S,x.2.1.length≤1000):aZ k S S=some true:=by
 unfold aZ
 rw [Nd,decide_eq_true rfl,Bool.not_true,cond_false]
 have key:∀ (r:List SB) (q n:Nat),S.drop q=r→r.length<n→aG k S S n (q:Int)=some true:=by
  intro r
  induction r with
  | nil=>
   intro q n hr hn
   obtain ⟨n,rfl⟩:=fF hn
   have:=cC hr
   rw [aG,ltF (by omega),cond_false]
  | cons v r ih=>
   intro q n hr hn
   obtain ⟨n,rfl⟩:=fF hn
   obtain ⟨h0,h1,h2,_,h4⟩:=bO hr
   have hv:=hs v (List.mem_of_getElem? h1)
   have hsame:gu (k+6) v v=some true:=by
    unfold gu
    simp [SD (k:=k+6) (by omega) hv,af]
   rw [aG,ltN h0,cond_true,dS h1,af,af,eQ (by omega)]
   simp only [Prod.eta]
   rw [hsame,af,Bool.not_true,cond_false]
   exact ih (q+1) n h2 (by simp only [List.length_cons] at hn;omega)
 exact key S 0 (k+8) rfl (by omega)
theorem Ym {p:PB} (ht:FwT p.2.1) (hml:p.2.2.1.length≤1000) (hW:p.2.2.2.1.length≤20) (hw:∀ x ∈ p.2.2.2.1,x.2.1.length≤9000) (hS:p.2.2.2.2.length≤20) (hs:∀ x ∈ p.2.2.2.2,x.2.1.length≤1000):ky k p p=some true:=by
 unfold ky
 have h:(p.1.1==p.1.1&&(p.1.2.1==p.1.2.1&&(p.1.2.2.1==p.1.2.2.1&&p.1.2.2.2==p.1.2.2.2)))=true:=by simp
 rw [h,cond_true,abD (by omega) ht,af,cond_true,adE (by omega) hml,af,cond_true,adp (by omega) hW hw,af,cond_true,abW (by omega) hS hs,af]
end
end Go.Ab
namespace Go.Ab
open Go.WideShapes
structure Ll (l:List (List Int)):Prop where
 len:l.length≤9223372036854775807
 each:∀ x ∈ l,x.length≤9223372036854775807
theorem aho {l:List (List Int)} (hm:l.length≤maxLen) (h:∀ x ∈ l,(∀ n ∈ x,i64 n)∧x.length≤maxLen):Ll l:=⟨abJ hm,fun x hx=>abJ (h x hx).2⟩
end Go.Ab
namespace Go.Ab
open Go.WideShapes
end Go.Ab
namespace Go.Ab
open Go.WideShapes
end Go.Ab
namespace Go.Ab
open Go.WideShapes
def IE (x:Int×Int×Int):Prop:=i64 x.1∧i64 x.2.1∧u64 x.2.2
def Wpk (l:Tye):Prop:=∀ x ∈ l,0≤x.2.2∧x.2.2≤18446744073709551615
theorem af3 {l:Tye} (h:∀ x ∈ l,IE x) (hm:l.length≤maxLen):Wpk l:=fun x hx=>ach (h x hx).2.2
theorem Ky {P:Program} {t ti tu:TypeId} {f0 f1 f2:Field} {vs:List V} (he:P.underlying t=some (.struct #[f0,f1,f2])) (h0:f0.type=ti) (h1:f1.type=ti) (h2:f2.type=tu)
  (o0:f0.offset=0) (o1:f1.offset=1) (o2:f2.offset=2) (hi:P.underlying ti=some (.int .i64)) (ci:P.cellsOf ti=1) (hu:P.underlying tu=some (.int .u64)) (cu:P.cellsOf tu=1) (ce:P.cellsOf t=3) (h:Shape P t vs) :
  ∃ x:Int×Int×Int,vs=eP x∧IE x:=by
 obtain ⟨a,b⟩:=mI he h
 have s0:=b 0 f0 rfl
 have s1:=b 1 f1 rfl
 have s2:=b 2 f2 rfl
 rw [h0,o0,ci,List.drop_zero] at s0
 rw [h1,o1,ci] at s1
 rw [h2,o2,cu] at s2
 rw [ce] at a
 obtain ⟨n0,e0,w0⟩:=gg hi s0
 obtain ⟨n1,e1,w1⟩:=gg hi s1
 obtain ⟨n2,e2,w2⟩:=gg hu s2
 match vs,a with
 | [x,y,z],_=>
  simp at e0 e1 e2
  subst e0 e1 e2
  exact ⟨(n0,n1,n2),rfl,w0,w1,w2⟩
theorem Fu {P:Program} {t e ti tu:TypeId} {f0 f1 f2:Field} {vs:List V} (ht:P.underlying t=some (.slice e)) (he:P.underlying e=some (.struct #[f0,f1,f2])) (h0:f0.type=ti) (h1:f1.type=ti) (h2:f2.type=tu)
  (o0:f0.offset=0) (o1:f1.offset=1) (o2:f2.offset=2) (hi:P.underlying ti=some (.int .i64)) (ci:P.cellsOf ti=1) (hu:P.underlying tu=some (.int .u64)) (cu:P.cellsOf tu=1) (ce:P.cellsOf e=3) (h:Shape P t vs) :
  ∃ l:Tye,vs=[.ro (l.map eP)]∧(∀ x ∈ l,IE x)∧l.length≤maxLen:=by
 obtain ⟨rows,rfl,hr,hm⟩:=mm ht h
 obtain ⟨l,rfl,hl⟩:=lP (enc:=eP) (Q:=IE) (rows:=rows) (fun r hx=>Ky he h0 h1 h2 o0 o1 o2 hi ci hu cu ce (hr r hx))
 exact ⟨l,rfl,hl,by simpa using hm⟩
end Go.Ab
namespace Go.Ab
open Go.WideShapes
theorem aiE {l:List Int} (h:∀ n ∈ l,(Lit.int .u8 n).wf=true) (hm:l.length≤maxLen):Wby l:=by
 intro x hx
 have h1:IntKind.min .u8=0:=by decide
 have h2:IntKind.max .u8=255:=by decide
 simpa [Lit.wf,h1,h2] using h x hx
end Go.Ab
