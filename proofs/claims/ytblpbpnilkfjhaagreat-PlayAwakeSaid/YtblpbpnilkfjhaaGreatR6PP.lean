import Derived.Test.YtblpbpnilkfjhaaGreatAbLibC
import Derived.Test.YtblpbpnilkfjhaaGreatR6GX
import Derived.WideShapes
import Derived.Test.YtblpbpnilkfjhaaGreatR6GY
import Derived.Test.YtblpbpnilkfjhaaGreatR6GZ
set_option linter.unusedVariables false
set_option linter.unusedSimpArgs false
set_option linter.unusedVariables false
namespace Go.Ab
def oo (x:Int×List Int):Bool:=decide (x.1<0)||decide (20<x.1)
def mY:Nat→Tyt→List (Int×Int)
 | _,[]=>[]
 | i,x::r=>x.2.map (fun k=>(k,(i:Int)))++mY (i+1) r
def wG (n:Nat) (had:List Bool) (q:Int×Int):Bool:=decide (q.1≤q.2)||decide ((n:Int)≤q.1)||(had[q.1.toNat]?).getD true
abbrev Xi (n:Nat) := { h:List Bool // h.length=n }
def fR (n:Nat) (had:Xi n) (q:Int×Int):Bool×Xi n:=
 if wG n had.1 q then (false,had) else (true,⟨had.1.set q.1.toNat true,by simp [had.2]⟩)
def GQ (n:Nat):Xi n:=⟨List.replicate n false,by simp⟩
def uE (t:Tyt):Bool:=decide (t.length≤30) && !(t.any oo)&&(T8 (fR t.length) (mY 0 t) (GQ t.length)).1
structure Wt (t:Tyt):Prop where
 len:t.length≤9223372036854775807
 kids:∀ x ∈ t,x.2.length≤9223372036854775807
def YH (t:Tyt):Bool:=(t.take 41).all (fun x=>decide (x.2.length≤40))&&decide (t.length≤40)
theorem L3 {t:Tyt} (h1:uE t=true):t.length≤30:=by
 unfold uE at h1
 simp only [Bool.and_eq_true,decide_eq_true_eq] at h1
 exact h1.1.1
theorem JO {α:Type} {l:List α} {F:Nat→Int→Option Int} (p:α→Bool)
  (h0:∀ n,F (n+1) (l.length:Int)=some (-1))
  (h1:∀ n (i:Nat) x,i<l.length→l[i]? = some x→F (n+1) (i:Int)=bif p x then some (i:Int) else F n ((i+1:Nat):Int))
  (n:Nat) (hn:l.length<n):F n 0=some (If p l 0):=by
 have key:∀ r i n,l.drop i=r→i≤l.length→r.length<n→F n (i:Int)=some (If p r i):=by
  intro r
  induction r with
  | nil=>
   intro i n hr hi hn
   obtain ⟨n,rfl⟩:=ir hn
   have:i=l.length:=by have:=dN hr;omega
   subst this
   rw [h0]
   rfl
  | cons x r ih=>
   intro i n hr hi hn
   obtain ⟨n,rfl⟩:=ir hn
   obtain ⟨a,b,c,d,e⟩:=cU hr
   rw [h1 n i x a b]
   simp only [If]
   cases p x with
   | true=>rfl
   | false=>exact ih (i+1) n c (by omega) (by simp only [List.length_cons] at hn;omega)
 have:=key l 0 n rfl (Nat.zero_le _) hn
 simpa using this
theorem D3 (x y : Int) : (x != y) = !decide (x = y) := by by_cases h : x = y <;> simp [h]
theorem my (x y:Int):(x==y)=decide (x=y):=by by_cases h:x=y <;> simp [h]
theorem AG {α:Type} (l:List α):decide ((l.length:Int)<(l.length:Int))=false:=decide_eq_false (by omega)
theorem ltN {i n:Nat} (h:i<n):decide ((i:Int)<(n:Int))=true:=decide_eq_true (by omega)
theorem eL {z:Int} (h : -9223372036854775808≤z∧z≤9223372036854775807):IntKind.i64.wrap z=z:=SP h.1 h.2
end Go.Ab
set_option linter.unusedVariables false
namespace Go.Ab
open Go
abbrev CF:=Int×Int×Int×Int
abbrev FR:=Int×Int×Int×Int×Int×Int×Int
def eM (c:CF):Bool:=decide (1≤c.1∧c.1≤8∧(c.2.1=1∨c.2.1=2∨c.2.1=4∨c.2.1=8∨c.2.1=16)∧1≤c.2.2.1∧c.2.2.1≤16∧0≤c.2.2.2∧c.2.2.2≤4)
def A3 (c:CF) (w:Int):Int:=6+2*c.2.2.1+w*(3+c.2.1)
def cP (c:CF):Int:=if eM c=true then A3 c c.1 else 0
def bY (c:CF) (w:Int):Int:=if eM c=true∧0≤w∧w<c.1 then A3 c w+2 else -1
def aj (m:List Int) (i:Int):Int:=if 0≤i then (m[i.toNat]?).getD 0 else 0
def aN (m:List Int) (i v:Int):List Int:=if 0≤i then m.set i.toNat v else m
def nZ (m:List Int) (i old new:Int):List Int×Bool:=if 0≤i∧i<m.length∧aj m i=old then (aN m i new,true) else (m,false)
def epB (e:Int):Int:=e/65536
def mkB (e:Int):Int:=e%65536
def gX (x w:Int):Bool:=decide (x/2 ^ w.toNat%2=1)
def D2 (e w:Int):Int:=if 0≤w∧w<16∧gX e w=false then e+2 ^ w.toNat else e
def cr (f:FR):Bool:=f.2.2.2.2.2.2 !=0
def er (f:FR) (res val:Int):FR:=(f.1,0,f.2.2.1,val,0,0,res)
def lM (c:CF) (m:List Int) (f:FR) (op pcs:Int):Bool:=eM c&&decide ((m.length:Int)=cP c)&&decide (f.2.2.2.2.2.2=0∧0≤f.2.2.1∧f.2.2.1<c.1∧f.1=op∧0≤f.2.1∧f.2.1<pcs)
def eD (c:CF) (m:List Int) (f:FR):List Int×FR:=
 if lM c m f 5 5=false then (m,f)
 else if f.2.1=0 then (m,f.1,1,f.2.2.1,f.2.2.2.1,aj m 2,f.2.2.2.2.2)
 else if f.2.1=1 then (if epB (aj m 2)=epB f.2.2.2.2.1 then (m,f.1,2,f.2.2.1,f.2.2.2.1,f.2.2.2.2.1,aj m 2,f.2.2.2.2.2.2) else (m,er f 4 0))
 else if f.2.1=2 then (let r:=nZ m 2 f.2.2.2.2.2.1 (D2 f.2.2.2.2.2.1 f.2.2.1);(r.1,f.1,if r.2=true then 3 else 1,f.2.2))
 else if f.2.1=3 then (let y:=aj m (bY c f.2.2.1);(m,f.1,if y=0 then 3 else 4,f.2.2.1,f.2.2.2.1,f.2.2.2.2.1,y,f.2.2.2.2.2.2))
 else (aN m (bY c f.2.2.1) 0,er f 1 0)
def De (f:FR):Bool:=decide (f.1=5∧f.2.2.2.2.2.2=0∧f.2.1=3)
structure Wm (m:List Int):Prop where
 len:m.length≤9223372036854775807
 num:∀ x ∈ m,0≤x∧x≤18446744073709551615
theorem kQ {z:Int} (h0:0≤z) (h1:z≤18446744073709551615):IntKind.u64.wrap z=z:=by
 simp [IntKind.wrap,IntKind.bits,IntKind.signed]
 omega
theorem ac9 {a b:Nat} (ha:a<18446744073709551616) (hb:b<18446744073709551616):uM .u64 (a:Int) (b:Int)=((a &&& b:Nat):Int):=by
 unfold uM
 have h:(BitVec.ofInt IntKind.u64.bits (a:Int) &&& BitVec.ofInt IntKind.u64.bits (b:Int)).toNat=a &&& b:=by
  rw [BitVec.toNat_and]
  have e:IntKind.u64.bits=64:=rfl
  rw [e]
  simp only [BitVec.ofInt_natCast,BitVec.toNat_ofNat]
  rw [Nat.mod_eq_of_lt (by omega),Nat.mod_eq_of_lt (by omega)]
 rw [h]
 have:a &&& b≤a:=Nat.and_le_left
 exact kQ (by omega) (by omega)
theorem orU {a b:Nat} (ha:a<18446744073709551616) (hb:b<18446744073709551616):orI .u64 (a:Int) (b:Int)=((a ||| b:Nat):Int):=by
 unfold orI
 have h:(BitVec.ofInt IntKind.u64.bits (a:Int) ||| BitVec.ofInt IntKind.u64.bits (b:Int)).toNat=a ||| b:=by
  rw [BitVec.toNat_or]
  have e:IntKind.u64.bits=64:=rfl
  rw [e]
  simp only [BitVec.ofInt_natCast,BitVec.toNat_ofNat]
  rw [Nat.mod_eq_of_lt (by omega),Nat.mod_eq_of_lt (by omega)]
 rw [h]
 have:a ||| b<2 ^ 64:=Nat.or_lt_two_pow (by omega) (by omega)
 exact kQ (by omega) (by omega)
theorem TQ {e:Int} (h0:0≤e) (h1:e≤18446744073709551615):uM .u64 e 65535=mkB e:=by
 obtain ⟨n,rfl⟩:∃ n:Nat,e=n:=⟨e.toNat,by omega⟩
 have:=ac9 (a:=n) (b:=65535) (by omega) (by omega)
 have h2:((65535:Nat):Int)=65535:=rfl
 rw [h2] at this
 rw [this,mkB]
 have h3:n &&& 65535=n%65536:=Nat.and_two_pow_sub_one_eq_mod n 16
 rw [h3]
 omega
theorem YJ {e w:Int} (h0:0≤e) (hw:0≤w) (hw2:w≤64):Tv .u64 e w=e/2 ^ w.toNat:=by
 unfold Tv
 have e1:IntKind.u64.bits=64:=rfl
 rw [e1]
 have:min w.toNat 64=w.toNat:=by omega
 rw [this,Int.fdiv_eq_ediv_of_nonneg _ (Int.le_of_lt (Int.pow_pos (by decide)))]
theorem Wl {e:Int} (h0:0≤e):Tv .u64 e 16=epB e:=by
 rw [YJ h0 (by decide) (by decide)]
 rfl
theorem ae0 {x:Int} (h0:0≤x) (h1:x≤18446744073709551615):uM .u64 x 1=x%2:=by
 obtain ⟨n,rfl⟩:∃ n:Nat,x=n:=⟨x.toNat,by omega⟩
 have:=ac9 (a:=n) (b:=1) (by omega) (by omega)
 have h2:((1:Nat):Int)=1:=rfl
 rw [h2] at this
 rw [this,Nat.and_one_is_mod]
 omega
theorem Xa {x w:Int} (h0:0≤x) (h1:x≤18446744073709551615):0≤x/2 ^ w.toNat∧x/2 ^ w.toNat≤18446744073709551615:=by
 have hp:(0:Int)<2 ^ w.toNat:=Int.pow_pos (by decide)
 have:=Int.ediv_nonneg h0 (Int.le_of_lt hp)
 have:=Int.ediv_le_self (2 ^ w.toNat) h0
 omega
theorem agX {x w:Int} (h0:0≤x) (h1:x≤18446744073709551615) (hw:0≤w) (hw2:w≤64):(uM .u64 (Tv .u64 x w) 1==1)=gX x w:=by
 have:=Xa (w:=w) h0 h1
 rw [YJ h0 hw hw2,ae0 this.1 this.2,gX,my]
theorem agW {w:Int} (hw:0≤w) (hw2:w<64):P6 .u64 1 w=2 ^ w.toNat:=by
 unfold P6
 have e1:IntKind.u64.bits=64:=rfl
 rw [e1]
 have:min w.toNat 64=w.toNat:=by omega
 rw [this,Int.one_mul]
 have h1:(2:Nat) ^ w.toNat≤2 ^ 63:=Nat.pow_le_pow_right (by decide) (by omega)
 have h2:((2 ^ w.toNat:Nat):Int)=(2:Int) ^ w.toNat:=by rw [Int.natCast_pow];rfl
 have h3:(0:Int)<2 ^ w.toNat:=Int.pow_pos (by decide)
 exact kQ (by omega) (by omega)
theorem Wv {e w:Int} (h0:0≤e) (h1:e≤18446744073709551615) (hw:0≤w) (hw2:w<16):orI .u64 e (2 ^ w.toNat)=D2 e w:=by
 obtain ⟨n,rfl⟩:∃ n:Nat,e=n:=⟨e.toNat,by omega⟩
 have hp:(2:Nat) ^ w.toNat≤2 ^ 15:=Nat.pow_le_pow_right (by decide) (by omega)
 have h2:((2 ^ w.toNat:Nat):Int)=(2:Int) ^ w.toNat:=by rw [Int.natCast_pow];rfl
 rw [← h2,orU (by omega) (by omega)]
 have hb:gX (n:Int) w=n.testBit w.toNat:=by
  rw [gX,Nat.testBit_eq_decide_div_mod_eq,← h2]
  have:((n:Int)/((2 ^ w.toNat:Nat):Int))%2=((n/2 ^ w.toNat%2:Nat):Int):=by rw [Int.natCast_emod,Int.natCast_ediv];rfl
  rw [this]
  congr 1
  apply propext
  omega
 unfold D2
 cases ht:n.testBit w.toNat with
 | true=>
  rw [hb,ht,if_neg (by simp)]
  congr 1
  apply Nat.eq_of_testBit_eq
  intro i
  rw [Nat.testBit_or,Nat.testBit_two_pow]
  by_cases hi:w.toNat=i
  ·subst hi;simp [ht]
  ·simp [hi]
 | false=>
  rw [hb,ht,if_pos ⟨hw,hw2,rfl⟩,← h2]
  have h3:(BitVec.ofNat 80 n) &&& (BitVec.ofNat 80 (2 ^ w.toNat))=0#80:=by
   apply BitVec.eq_of_toNat_eq
   rw [BitVec.toNat_and]
   simp only [BitVec.toNat_ofNat]
   rw [Nat.mod_eq_of_lt (by omega),Nat.mod_eq_of_lt (by omega),Nat.zero_mod]
   apply Nat.eq_of_testBit_eq
   intro i
   rw [Nat.testBit_and,Nat.testBit_two_pow,Nat.zero_testBit]
   by_cases hi:w.toNat=i
   ·subst hi;simp [ht]
   ·simp [hi]
  have h4:=congrArg BitVec.toNat (BitVec.add_eq_or_of_and_eq_zero _ _ h3)
  rw [BitVec.toNat_add,BitVec.toNat_or] at h4
  simp only [BitVec.toNat_ofNat] at h4
  rw [Nat.mod_eq_of_lt (show n<2 ^ 80 by omega),Nat.mod_eq_of_lt (show 2 ^ w.toNat<2 ^ 80 by omega),Nat.mod_eq_of_lt (show n+2 ^ w.toNat<2 ^ 80 by omega)] at h4
  rw [← h4]
  omega
theorem cD {m:List Int} (hm:Wm m) (i:Int):0≤aj m i∧aj m i≤18446744073709551615:=by
 unfold aj
 split
 ·cases h:m[i.toNat]? with
  | none=>simp
  | some x=>exact hm.num x (List.mem_of_getElem? h)
 ·omega
theorem X0 {e w:Int} (h0:0≤e) (h1:e≤18446744073709551615):0≤D2 e w∧D2 e w≤18446744073709551615:=by
 unfold D2
 split
 ·rename_i h
  have hs:=Wv h0 h1 h.1 h.2.1
  unfold D2 at hs
  rw [if_pos h] at hs
  rw [← hs]
  obtain ⟨n,rfl⟩:∃ n:Nat,e=n:=⟨e.toNat,by omega⟩
  have hp:(2:Nat) ^ w.toNat≤2 ^ 15:=Nat.pow_le_pow_right (by decide) (by omega)
  have h2:((2 ^ w.toNat:Nat):Int)=(2:Int) ^ w.toNat:=by rw [Int.natCast_pow];rfl
  rw [← h2,orU (by omega) (by omega)]
  have:n ||| 2 ^ w.toNat<2 ^ 64:=Nat.or_lt_two_pow (by omega) (by omega)
  omega
 ·omega
end Go.Ab
set_option maxRecDepth 100000
set_option linter.unusedVariables false
namespace Go.Ab
theorem aR {c:CF} (h:eM c=true):1≤c.1∧c.1≤8∧(c.2.1=1∨c.2.1=2∨c.2.1=4∨c.2.1=8∨c.2.1=16)∧1≤c.2.2.1∧c.2.2.1≤16∧0≤c.2.2.2∧c.2.2.2≤4:=by
 unfold eM at h
 exact of_decide_eq_true h
theorem dh {c:CF} (h:eM c=true) {w:Int} (h0:0≤w) (h1:w≤8):8≤A3 c w∧A3 c w≤190∧w*(3+c.2.1)≤152∧0≤w*(3+c.2.1):=by
 obtain ⟨_,_,hD,_,_,_,_⟩:=aR h
 have a:0≤w*(3+c.2.1):=Int.mul_nonneg h0 (by omega)
 have b:w*(3+c.2.1)≤8*19:=Int.mul_le_mul h1 (by omega) (by omega) (by omega)
 unfold A3
 omega
theorem US (a b c:Int):eF a b c=some (decide (b≤a∧a≤c)):=by
 unfold eF
 by_cases h:b≤a
 ·simp [h]
 ·simp [h]
theorem agT {D:Int} (h1:1≤D) (h2:D≤16):(uM IntKind.i64 D (IntKind.i64.wrap (D - 1))==0)=decide (D=1∨D=2∨D=4∨D=8∨D=16):=by
 have:D=1∨D=2∨D=3∨D=4∨D=5∨D=6∨D=7∨D=8∨D=9∨D=10∨D=11∨D=12∨D=13∨D=14∨D=15∨D=16:=by omega
 rcases this with rfl | rfl | rfl | rfl | rfl | rfl | rfl | rfl | rfl | rfl | rfl | rfl | rfl | rfl | rfl | rfl <;> decide +kernel
theorem fJ (c:CF):bU c=some (eM c):=by
 obtain ⟨W,D,I,S⟩:=c
 unfold bU eM
 simp only [US,af]
 by_cases h1:1≤W∧W≤8
 ·rw [decide_eq_true h1,cond_true]
  by_cases h2:1≤D∧D≤16
  ·rw [decide_eq_true h2,cond_true,agT h2.1 h2.2]
   by_cases h3:D=1∨D=2∨D=4∨D=8∨D=16
   ·rw [decide_eq_true h3,cond_true]
    by_cases h4:1≤I∧I≤16
    ·rw [decide_eq_true h4,cond_true]
     congr 1
     apply decide_eq_decide.2
     omega
    ·rw [decide_eq_false h4,cond_false]
     symm
     congr 1
     apply decide_eq_false
     omega
   ·rw [decide_eq_false h3,cond_false]
    symm
    congr 1
    apply decide_eq_false
    omega
  ·rw [decide_eq_false h2,cond_false]
   symm
   congr 1
   apply decide_eq_false
   omega
 ·rw [decide_eq_false h1,cond_false]
  symm
  congr 1
  apply decide_eq_false
  omega
theorem Es {c:CF} (h:eM c=true) {w:Int} (h0:0≤w) (h1:w≤8):fx c w=some (A3 c w):=by
 have ht:=dh h h0 h1
 have hm:=aR h
 obtain ⟨W,D,I,S⟩:=c
 simp only [A3] at ht hm ⊢
 unfold fx
 simp only
 rw [eL (z:=2*I) (by omega),eL (z:=6+2*I) (by omega),eL (z:=3+D) (by omega),eL (z:=w*(3+D)) (by omega),eL (by omega)]
theorem ud (c:CF):dx c=some (cP c):=by
 unfold dx cP
 try simp only [Prod.eta]
 rw [fJ,af]
 cases h:eM c with
 | false=>rfl
 | true=>
  have hm:=aR h
  rw [Bool.not_true,cond_false,if_pos rfl,Es h (by omega) (by omega),af]
theorem lX (f:FR):aK f=some (cr f):=rfl
theorem iC (f:FR) (r v:Int):a7 f r v=some (er f r v):=rfl
theorem IJ (c : CF) (m : List Int) (f : FR) (op pcs : Int) : eW c m f op pcs = some (lM c m f op pcs) := by
  obtain ⟨a0, a1, a2, a3, a4, a5, a6⟩ := f
  unfold eW lM
  try simp only [Prod.eta]
  rw [fJ, af]
  cases h : eM c with
  | false => rfl
  | true =>
    rw [cond_true, ud, af, my]
    by_cases h1 : (m.length : Int) = cP c
    · rw [decide_eq_true h1, cond_true, lX, af, cr]
      simp only
      by_cases h2 : a6 = 0
      · subst h2
        have e : (!((0 : Int) != 0)) = true := rfl
        rw [e, cond_true]
        by_cases h3 : 0 ≤ a2
        · rw [leT h3, cond_true]
          by_cases h4 : a2 < c.1
          · rw [ltT h4, cond_true, my]
            by_cases h5 : a0 = op
            · rw [decide_eq_true h5, cond_true]
              by_cases h6 : 0 ≤ a1
              · rw [leT h6, cond_true]
                simp [h3, h4, h5, h6]
              · rw [leF (by omega), cond_false]
                simp [h6]
            · rw [decide_eq_false h5, cond_false]
              simp [h5]
          · rw [ltF (by omega), cond_false]
            simp [h4]
        · rw [leF (by omega), cond_false]
          simp [h3]
      · have e : (!(a6 != 0)) = false := by simp [h2]
        rw [e, cond_false]
        simp [h2]
    · rw [decide_eq_false h1, cond_false]
      simp
theorem H0 (c:CF) (w:Int):fB c w=some (bY c w):=by
 unfold fB bY
 try simp only [Prod.eta]
 rw [fJ,af]
 cases h:eM c with
 | false=>simp
 | true=>
  have hm:=aR h
  rw [Bool.not_true,cond_false,eL (by omega),US,af]
  by_cases h1:0≤w∧w≤c.1 - 1
  ·have ht:=dh h h1.1 (by omega)
   rw [decide_eq_true h1,Bool.not_true,cond_false,Es h (by omega) (by omega),af,eL (by omega),if_pos ⟨rfl,by omega,by omega⟩]
  ·rw [decide_eq_false h1,Bool.not_false,cond_true,if_neg (by omega)]
theorem ac7 (m:List Int) (i:Int):ik m i=some (decide (0≤i∧i<m.length)):=by
 unfold ik
 by_cases h:0≤i
 ·simp [h]
 ·simp [h]
theorem mq {m:List Int} {i:Int} (h:0≤i∧i<m.length):idx m i=some (aj m i)∧m[i.toNat]? = some (aj m i):=by
 have h2:i.toNat<m.length:=by omega
 rw [idx,if_pos h.1,aj,if_pos h.1,List.getElem?_eq_getElem h2]
 exact ⟨rfl,rfl⟩
theorem O7 {m:List Int} {i:Int} (h:¬ (0≤i∧i<m.length)):aj m i=0:=by
 unfold aj
 split
 ·rw [List.getElem?_eq_none (by omega)]
  rfl
 ·rfl
theorem Le {m:List Int} {i v:Int} (h:¬ (0≤i∧i<m.length)):aN m i v=m:=by
 unfold aN
 split
 ·rw [List.set_eq_of_length_le (by omega)]
 ·rfl
theorem kv {m:List Int} {i v:Int}:(aN m i v).length=m.length:=by
 unfold aN
 split <;> simp
theorem Wm.set {m:List Int} (h:Wm m) (i:Int) {v:Int} (h0:0≤v) (h1:v≤18446744073709551615):Wm (aN m i v):=by
 refine ⟨by rw [kv];exact h.len,fun x hx => ?_⟩
 unfold aN at hx
 split at hx
 ·rcases List.mem_or_eq_of_mem_set hx with hx | rfl
  ·exact h.num x hx
  ·exact ⟨h0,h1⟩
 ·exact h.num x hx
theorem Wm.cas {m:List Int} (h:Wm m) (i o:Int) {v:Int} (h0:0≤v) (h1:v≤18446744073709551615):Wm (nZ m i o v).1:=by
 unfold nZ
 split
 ·exact h.set i h0 h1
 ·exact h
theorem dD (m:List Int) (i:Int):aE m i=some (aj m i):=by
 unfold aE
 rw [ac7,af]
 by_cases h:0≤i∧i<m.length
 ·rw [decide_eq_true h,Bool.not_true,cond_false,(mq h).1,af]
 ·rw [decide_eq_false h,Bool.not_false,cond_true,O7 h]
theorem bM {α:Type} {b:Nat} {l:List α} (h:l.length*b≤70368744177664):aO b l=some l:=by
 unfold aO
 have:Nat.ble (l.length*b) 70368744177664=true:=Nat.ble_eq_true_of_le h
 rw [this,cf]
section
variable {m:List Int} (hl:m.length≤1000)
include hl
theorem kH (i v:Int):bo m i v=some (aN m i v):=by
 unfold bo
 rw [bM (by omega),af,ac7,af]
 by_cases h:0≤i∧i<m.length
 ·rw [decide_eq_true h,Bool.not_true,cond_false,(mq h).1,af,decide_eq_true (by omega),cond_true,(mq h).2,af,af,aN,if_pos h.1]
 ·rw [decide_eq_false h,Bool.not_false,cond_true,Le h]
theorem G5 (i o v:Int):dw m i o v=some (nZ m i o v):=by
 unfold dw nZ
 rw [bM (by omega),af,ac7,af]
 by_cases h:0≤i∧i<m.length
 ·rw [decide_eq_true h,Bool.not_true,cond_false,(mq h).1,af,D3]
  by_cases h2:aj m i=o
  ·rw [decide_eq_true h2,Bool.not_true,cond_false,decide_eq_true (by omega),cond_true,(mq h).2,af,af,if_pos ⟨h.1,h.2,h2⟩,aN,if_pos h.1]
  ·rw [decide_eq_false h2,Bool.not_false,cond_true,decide_eq_true (by omega),cond_true,(mq h).2,af,af,if_neg (fun hh=>h2 hh.2.2)]
   have:=(mq h).2
   rw [List.getElem?_eq_some_iff] at this
   obtain ⟨h3,h4⟩:=this
   rw [← h4,List.set_getElem_self]
 ·rw [decide_eq_false h,Bool.not_false,cond_true,if_neg (fun hh=>h ⟨hh.1,hh.2.1⟩)]
end
theorem af3 {e w:Int} (h0:0≤e) (h1:e≤18446744073709551615):lQ e w=some (D2 e w):=by
 unfold lQ
 by_cases h2:w<0
 ·rw [ltT h2,cond_true,D2,if_neg (by omega)]
 ·rw [ltF (by omega),cond_false]
  by_cases h3:16≤w
  ·rw [leT h3,cond_true,D2,if_neg (by omega)]
  ·rw [leF (by omega),cond_false,leT (by omega),cond_true,agW (by omega) (by omega),Wv h0 h1 (by omega) (by omega)]
theorem CQ {e:Int} (h0:0≤e):d8 e=some (epB e):=by
 unfold d8
 rw [Wl h0]
theorem BG {e:Int} (h0:0≤e) (h1:e≤18446744073709551615):dp e=some (mkB e):=by
 unfold dp
 rw [TQ h0 h1]
def Wf (f:FR):Prop:=(0≤f.2.2.2.1∧f.2.2.2.1≤18446744073709551615)∧(0≤f.2.2.2.2.1∧f.2.2.2.2.1≤18446744073709551615)∧(0≤f.2.2.2.2.2.1∧f.2.2.2.2.2.1≤18446744073709551615)
theorem Dp {c:CF} {m:List Int} {f:FR} {op pcs:Int} (h:lM c m f op pcs=true):eM c=true∧(m.length:Int)=cP c∧f.2.2.2.2.2.2=0∧0≤f.2.2.1∧f.2.2.1<c.1∧f.1=op∧0≤f.2.1∧f.2.1<pcs:=by
 unfold lM at h
 rw [Bool.and_eq_true,Bool.and_eq_true,decide_eq_true_eq,decide_eq_true_eq] at h
 exact ⟨h.1.1,h.1.2,h.2⟩
theorem Vx (c:CF) {m:List Int} (hm:Wm m) (hl:m.length≤1000) {f:FR} (hf:Wf f):kg c m f=some (eD c m f):=by
 have hr:=cD hm 2
 unfold kg eD
 try simp only [Prod.eta]
 rw [bM (by omega),af,IJ,af]
 cases h:lM c m f 5 5 with
 | false=>rfl
 | true=>
  obtain ⟨_,_,h6,h2,h2',h0,h1,h1'⟩:=Dp h
  rw [cond_true,if_neg (by simp)]
  obtain ⟨a0,a1,a2,a3,a4,a5,a6⟩:=f
  simp only at h6 h2 h2' h0 h1 h1' ⊢
  have e:decide (0≤a1∧a1.toNat<5)=true:=by rw [decide_eq_true_eq];omega
  rw [e,cond_true]
  obtain ⟨_,w4,w5⟩:=hf
  simp only at w4 w5
  have hp:a1=0∨a1=1∨a1=2∨a1=3∨a1=4:=by omega
  rcases hp with rfl | rfl | rfl | rfl | rfl
  ·simp [dD,af]
  ·simp only [dD,af,CQ hr.1,CQ w4.1,D3,iC]
   by_cases h5:epB (aj m 2)=epB a4
   ·simp [h5]
   ·simp [h5,er]
  ·simp only [af3 w5.1 w5.2,af,G5 hl]
   cases hc:(nZ m 2 a5 (D2 a5 a2)).2 <;> simp [hc]
  ·simp only [H0,dD,af,D3]
   by_cases h5:aj m (bY c a2)=0
   ·simp [h5]
   ·simp [h5]
  ·simp only [H0,af,kH hl,iC]
   simp [er]
end Go.Ab
set_option linter.unusedVariables false
namespace Go.Ab
theorem ga {m:List Int} {i:Int} (v:Int) (h0:0≤i) (h1:i<m.length):aj (aN m i v) i=v:=by
 unfold aj aN
 rw [if_pos h0,if_pos h0,List.getElem?_set_self (by omega)]
 rfl
theorem aL {m:List Int} {i j:Int} (v:Int) (h:i≠j):aj (aN m i v) j=aj m j:=by
 unfold aj aN
 by_cases h0:0≤i
 ·by_cases h1:0≤j
  ·rw [if_pos h1,if_pos h0,List.getElem?_set_ne (by omega),if_pos h1]
  ·rw [if_neg h1,if_neg h1]
 ·rw [if_neg h0]
structure OkB (c:CF) (m:List Int) (w:Int):Prop where
 may:eM c=true
 len:(m.length:Int)=cP c
 low:0≤w
 high:w<c.1
theorem OkB.size {c:CF} {m:List Int} {w:Int} (h:OkB c m w):(m.length:Int)=A3 c c.1∧12≤m.length∧m.length≤190:=by
 have hm:=aR h.may
 have ht:=dh h.may (w:=c.1) (by omega) (by omega)
 have hl:=h.len
 rw [cP,if_pos h.may] at hl
 obtain ⟨W,D,I,S⟩:=c
 simp only [A3] at *
 have:1*(3+D)≤W*(3+D):=Int.mul_le_mul_of_nonneg_right (by omega) (by omega)
 omega
theorem OkB.park {c:CF} {m:List Int} {w:Int} (h:OkB c m w):bY c w=A3 c w+2∧2<bY c w∧bY c w<m.length:=by
 have hm:=aR h.may
 have hs:=h.size
 have hl:=h.low
 have hh:=h.high
 have e:bY c w=A3 c w+2:=by rw [bY,if_pos ⟨h.may,h.low,h.high⟩]
 have ht:=dh h.may hl (by omega)
 rw [e]
 obtain ⟨W,D,I,S⟩:=c
 simp only [A3] at *
 have h2:(w+1)*(3+D)≤W*(3+D):=Int.mul_le_mul_of_nonneg_right (by omega) (by omega)
 have h3:(w+1)*(3+D)=w*(3+D)+(3+D):=by rw [Int.add_mul,Int.one_mul]
 exact ⟨trivial,by omega,by omega⟩
theorem Mm {c:CF} {m:List Int} {v w:Int} (hv:OkB c m v) (hw:OkB c m w) (h:v≠w):bY c v≠bY c w:=by
 have hm:=aR hv.may
 rw [hv.park.1,hw.park.1]
 obtain ⟨W,D,I,S⟩:=c
 simp only [A3] at *
 intro e
 have e2:v*(3+D)=w*(3+D):=by omega
 exact h (Int.eq_of_mul_eq_mul_right (by omega) e2)
theorem OkB.store {c:CF} {m:List Int} {w:Int} (h:OkB c m w) (i v:Int):OkB c (aN m i v) w:=⟨h.may,by rw [kv];exact h.len,h.low,h.high⟩
theorem OkB.goes {c:CF} {m:List Int} {w:Int} (h:OkB c m w) {op pc a3 a4 a5 pcs:Int} (h0:0≤pc) (h1:pc<pcs):lM c m (op,pc,w,a3,a4,a5,0) op pcs=true:=by
 unfold lM
 rw [h.may,decide_eq_true h.len]
 simp [h.low,h.high,h0,h1]
section
variable {c:CF} {m:List Int} {w a3 a4 a5:Int} (h:OkB c m w)
include h
theorem afv:eD c m (5,1,w,a3,a4,a5,0)=if epB (aj m 2)=epB a4 then (m,5,2,w,a3,a4,aj m 2,0) else (m,5,0,w,0,0,0,4):=by
 unfold eD
 rw [h.goes (by decide) (by decide)]
 simp [er]
theorem af4:eD c m (5,2,w,a3,a4,a5,0)=if aj m 2=a5 then (aN m 2 (D2 a5 w),5,3,w,a3,a4,a5,0) else (m,5,1,w,a3,a4,a5,0):=by
 have hs:=h.size
 unfold eD
 rw [h.goes (by decide) (by decide)]
 simp only [if_neg (show ¬ (true=false) by simp),if_neg (show ¬ ((2:Int)=0) by decide),if_neg (show ¬ ((2:Int)=1) by decide),if_true,nZ]
 by_cases e:aj m 2=a5
 ·rw [if_pos e,if_pos ⟨by decide,by omega,e⟩]
  rfl
 ·rw [if_neg e,if_neg (fun hh=>e hh.2.2)]
  rfl
theorem adv:eD c m (5,3,w,a3,a4,a5,0)=(m,5,(if aj m (bY c w)=0 then 3 else 4),w,a3,a4,aj m (bY c w),0):=by
 unfold eD
 rw [h.goes (by decide) (by decide)]
 simp
theorem aem:eD c m (5,4,w,a3,a4,a5,0)=(aN m (bY c w) 0,5,0,w,0,0,0,1):=by
 unfold eD
 rw [h.goes (by decide) (by decide)]
 simp [er]
end
theorem mr (n:Nat) {w:Int} (hw:0≤w):gX (n:Int) w=n.testBit w.toNat:=by
 have h2:((2 ^ w.toNat:Nat):Int)=(2:Int) ^ w.toNat:=by rw [Int.natCast_pow];rfl
 rw [gX,Nat.testBit_eq_decide_div_mod_eq,← h2]
 have:((n:Int)/((2 ^ w.toNat:Nat):Int))%2=((n/2 ^ w.toNat%2:Nat):Int):=by rw [Int.natCast_emod,Int.natCast_ediv];rfl
 rw [this]
 congr 1
 apply propext
 omega
theorem MC {n:Nat} (hn:n<18446744073709551616) {w:Int} (hw:0≤w) (hw2:w<16):D2 (n:Int) w=((n ||| 2 ^ w.toNat:Nat):Int):=by
 have hp:(2:Nat) ^ w.toNat≤2 ^ 15:=Nat.pow_le_pow_right (by decide) (by omega)
 have h2:((2 ^ w.toNat:Nat):Int)=(2:Int) ^ w.toNat:=by rw [Int.natCast_pow];rfl
 rw [← Wv (by omega) (by omega) hw hw2,← h2,orU hn (by omega)]
theorem Ln {e w v:Int} (h0:0≤e) (h1:e≤18446744073709551615) (hw:0≤w) (hw2:w<16) (hv:0≤v):gX (D2 e w) v=(decide (v=w)||gX e v):=by
 obtain ⟨n,rfl⟩:∃ n:Nat,e=n:=⟨e.toNat,by omega⟩
 rw [MC (by omega) hw hw2,mr _ hv,mr _ hv,Nat.testBit_or,Nat.testBit_two_pow]
 by_cases e:v=w
 ·subst e;simp
 ·have:¬ w.toNat=v.toNat:=by omega
  simp [e,this]
theorem nJ {e v:Int} (h0:0≤e) (hv:0≤v) (hv2:v<16):gX (mkB e) v=gX e v:=by
 obtain ⟨n,rfl⟩:∃ n:Nat,e=n:=⟨e.toNat,by omega⟩
 have:mkB (n:Int)=((n%2 ^ 16:Nat):Int):=by unfold mkB;omega
 rw [this,mr _ hv,mr _ hv,Nat.testBit_mod_two_pow]
 have:v.toNat<16:=by omega
 simp [this]
theorem Zs {e w:Int} (h0:0≤e) (h1:e≤18446744073709551615) (hw:0≤w) (hw2:w<16):epB (D2 e w)=epB e:=by
 obtain ⟨n,rfl⟩:∃ n:Nat,e=n:=⟨e.toNat,by omega⟩
 rw [MC (by omega) hw hw2]
 have hp:(2:Nat) ^ w.toNat<2 ^ 16:=Nat.pow_lt_pow_right (by decide) (by omega)
 have h2:(n ||| 2 ^ w.toNat)/2 ^ 16=n/2 ^ 16:=by
  rw [← Nat.shiftRight_eq_div_pow,Nat.shiftRight_or_distrib,Nat.shiftRight_eq_div_pow,Nat.shiftRight_eq_div_pow,Nat.div_eq_of_lt hp,Nat.or_zero]
 unfold epB
 have h3:∀ x:Nat,((x:Int)/65536)=((x/2 ^ 16:Nat):Int):=by intro x;omega
 rw [h3,h3,h2]
theorem Vh (op w:Int):aJ op w 0=some (op,0,w,0,0,0,0):=rfl
theorem wf0 {op pc w:Int} {r:Int}:Wf (op,pc,w,0,0,0,r):=by simp [Wf]
end Go.Ab
set_option linter.unusedVariables false
namespace Go.Ab
def uH (e m:Int):Int:=e%281474976710656*65536+m%65536
def OX (x:Int):Nat→Nat→Int
 | _,0 => -1
 | i,d+1=>if gX x i=true then (i:Int) else OX x (i+1) d
def A0 (x:Int):Int:=OX x 0 16
def Hx (x:Int):Int:=if A0 x<0 then 0 else x - 2 ^ (A0 x).toNat
def m8 (x:Int):Int:=uH (epB x+1) (Hx (mkB x))
def Wi (x:Int):Int:=uH (epB x+1) 0
def A6 (c:CF) (m:List Int) (w:Int):List Int:=aN m (bY c w) 1
def nW (c:CF) (m:List Int) (f:FR):Bool:=decide (f.1=6∨f.1=7)&&eM c&&decide ((m.length:Int)=cP c)&&decide (f.2.2.2.2.2.2=0∧0≤f.2.1∧f.2.1≤2)
def dt (c:CF) (m:List Int) (f:FR):List Int×FR:=
 if nW c m f=false then (m,f)
 else if f.2.1=0 then (m,f.1,1,f.2.2.1,f.2.2.2.1,aj m 2,f.2.2.2.2.2)
 else if f.2.1=1 then
  (if aj m 2=f.2.2.2.2.1 then
   (aN m 2 (if f.1=6 then m8 f.2.2.2.2.1 else Wi f.2.2.2.2.1),
    if mkB f.2.2.2.2.1=0 then er f 3 0 else (f.1,2,f.2.2.1,f.2.2.2.1,f.2.2.2.2.1,(if f.1=6 then (if A0 (mkB f.2.2.2.2.1)<0 then 0 else A0 (mkB f.2.2.2.2.1)) else mkB f.2.2.2.2.1),f.2.2.2.2.2.2))
  else (m,f.1,0,f.2.2))
 else if f.1=6 then (A6 c m (if f.2.2.2.2.2.1<8 then f.2.2.2.2.2.1 else -1),er f 1 f.2.2.2.2.2.1)
 else (A6 c m (A0 f.2.2.2.2.2.1),if Hx (mkB f.2.2.2.2.2.1)=0 then er f 1 (mkB f.2.2.2.2.1) else (f.1,2,f.2.2.1,f.2.2.2.1,f.2.2.2.2.1,Hx (mkB f.2.2.2.2.2.1),f.2.2.2.2.2.2))
def Sd (f:FR) (w:Int):Bool := !(cr f)&&decide (f.2.1=2∧0≤w∧w<16)&&(decide (f.1=6∧f.2.2.2.2.2.1=w)||(decide (f.1=7)&&gX f.2.2.2.2.2.1 w))
theorem Bm (x:Int):∀ (d i:Nat),(OX x i d = -1∧∀ j:Nat,i≤j→j<i+d→gX x j=false)∨(∃ j:Nat,OX x i d=j∧i≤j∧j<i+d∧gX x j=true∧∀ l:Nat,i≤l→l<j→gX x l=false)
 | 0,i => .inl ⟨rfl,fun j h1 h2=>by omega⟩
 | d+1,i=>by
  by_cases h:gX x i=true
  ·exact .inr ⟨i,by rw [OX,if_pos h],by omega,by omega,h,fun l h1 h2=>by omega⟩
  ·have e:OX x i (d+1)=OX x (i+1) d:=by rw [OX,if_neg h]
   rw [e]
   rcases Bm x d (i+1) with ⟨h1,h2⟩ | ⟨j,h1,h2,h3,h4,h5⟩
   ·refine .inl ⟨h1,fun j h3 h4 => ?_⟩
    by_cases e2:i=j
    ·subst e2;simpa using h
    ·exact h2 j (by omega) (by omega)
   ·refine .inr ⟨j,h1,by omega,by omega,h4,fun l h6 h7 => ?_⟩
    by_cases e2:i=l
    ·subst e2;simpa using h
    ·exact h5 l (by omega) h7
theorem Ac (x:Int):(A0 x = -1∧∀ j:Nat,j<16→gX x j=false)∨(∃ j:Nat,A0 x=j∧j<16∧gX x j=true∧∀ l:Nat,l<j→gX x l=false):=by
 rcases Bm x 16 0 with ⟨h1,h2⟩ | ⟨j,h1,h2,h3,h4,h5⟩
 ·exact .inl ⟨h1,fun j h=>h2 j (by omega) (by omega)⟩
 ·exact .inr ⟨j,h1,by omega,h4,fun l h=>h5 l (by omega) h⟩
theorem Vs {a w:Nat}:(2 ^ (w+1)*a+2 ^ w) &&& (2 ^ (w+1)*a+(2 ^ w - 1))=2 ^ (w+1)*a:=by
 have hp:0<2 ^ w:=Nat.pow_pos (by decide)
 have hs:2 ^ (w+1)=2*2 ^ w:=by rw [Nat.pow_succ,Nat.mul_comm]
 apply Nat.eq_of_testBit_eq
 intro j
 have e0:2 ^ (w+1)*a=2 ^ (w+1)*a+0:=rfl
 rw [Nat.testBit_and,Nat.testBit_two_pow_mul_add a (by omega),Nat.testBit_two_pow_mul_add a (by omega),e0,Nat.testBit_two_pow_mul_add a (by omega)]
 by_cases h:j<w+1
 ·rw [if_pos h,if_pos h,if_pos h,Nat.testBit_two_pow,Nat.testBit_two_pow_sub_one,Nat.zero_testBit]
  by_cases h2:w=j
  ·subst h2;simp
  ·simp [h2]
 ·rw [if_neg h,if_neg h,if_neg h,Bool.and_self]
theorem lS {x:Int} (h0:0≤x) (h1:x<65536):(x=0∧A0 x = -1)∨(∃ a w:Nat,x=((2 ^ (w+1)*a+2 ^ w:Nat):Int)∧A0 x=w∧w<16):=by
 obtain ⟨n,rfl⟩:∃ n:Nat,x=n:=⟨x.toNat,by omega⟩
 have hb:∀ j:Nat,gX (n:Int) (j:Int)=n.testBit j:=fun j=>mr n (by omega)
 rcases Ac (n:Int) with ⟨h2,h3⟩ | ⟨w,h2,h3,h4,h5⟩
 ·refine .inl ⟨?_,h2⟩
  have:n=0:=by
   apply Nat.eq_of_testBit_eq
   intro j
   rw [Nat.zero_testBit]
   by_cases hj:j<16
   ·rw [← hb];exact h3 j hj
   ·exact Nat.testBit_lt_two_pow (Nat.lt_of_lt_of_le (show n<2 ^ 16 by omega) (Nat.pow_le_pow_right (by decide) (by omega)))
  omega
 ·refine .inr ⟨n/2 ^ (w+1),w,?_,h2,h3⟩
  congr 1
  have hm:n%2 ^ (w+1)=2 ^ w:=by
   apply Nat.eq_of_testBit_eq
   intro j
   rw [Nat.testBit_mod_two_pow,Nat.testBit_two_pow]
   by_cases hj:j<w
   ·have:=h5 j hj
    rw [hb] at this
    have h6:¬ w=j:=by omega
    simp [this,h6]
   ·by_cases hj2:w=j
    ·subst hj2
     rw [hb] at h4
     simp [h4]
    ·have h6:¬ j<w+1:=by omega
     simp [h6,hj2]
  have:=Nat.div_add_mod n (2 ^ (w+1))
  omega
theorem abQ {x:Int} (h0:0≤x) (h1:x<65536):uM .u64 x (IntKind.u64.wrap (x - 1))=Hx x:=by
 unfold Hx
 rcases lS h0 h1 with ⟨rfl,h2⟩ | ⟨a,w,rfl,h2,h3⟩
 ·rw [h2]
  decide +kernel
 ·have hp:0<2 ^ w:=Nat.pow_pos (by decide)
  have e:((2 ^ (w+1)*a+2 ^ w:Nat):Int) - 1=((2 ^ (w+1)*a+(2 ^ w - 1):Nat):Int):=by
   generalize 2 ^ (w+1)*a=y
   generalize 2 ^ w=z at hp
   omega
  rw [h2,if_neg (by omega),Int.toNat_natCast,e]
  have hlt:2 ^ (w+1)*a+2 ^ w<65536:=by omega
  rw [kQ (by omega) (by generalize 2 ^ (w+1)*a=y at hlt ⊢;generalize 2 ^ w=z at hlt ⊢;omega),ac9 (by omega) (by generalize 2 ^ (w+1)*a=y at hlt ⊢;generalize 2 ^ w=z at hlt ⊢;omega),Vs]
  have hw:((2 ^ w:Nat):Int)=(2:Int) ^ w:=by rw [Int.natCast_pow];rfl
  rw [← hw]
  generalize 2 ^ (w+1)*a=y
  generalize (2:Nat) ^ w=z
  omega
theorem NF {x:Int} (h0:0≤x) (h1:x<65536):0≤Hx x∧Hx x≤x:=by
 unfold Hx
 rcases lS h0 h1 with ⟨rfl,h2⟩ | ⟨a,w,rfl,h2,h3⟩
 ·rw [h2];decide
 ·rw [h2,if_neg (by omega),Int.toNat_natCast]
  have hw:((2 ^ w:Nat):Int)=(2:Int) ^ w:=by rw [Int.natCast_pow];rfl
  rw [← hw]
  generalize 2 ^ (w+1)*a=y
  generalize (2:Nat) ^ w=z
  omega
theorem ZE {e m:Int} (h0:0≤e) (m0:0≤m) (m1:m≤18446744073709551615):orI .u64 (P6 .u64 e 16) (uM .u64 m 65535)=uH e m:=by
 rw [TQ m0 m1]
 have hs:P6 .u64 e 16=((2 ^ 16*(e.toNat%281474976710656):Nat):Int):=by
  unfold P6
  have e1:min (16:Int).toNat IntKind.u64.bits=16:=by decide
  rw [e1]
  simp [IntKind.wrap,IntKind.bits,IntKind.signed]
  omega
 have hm:mkB m=((m.toNat%65536:Nat):Int):=by unfold mkB;omega
 rw [hs,hm,orU (by omega) (by omega),← Nat.two_pow_add_eq_or_of_lt (by omega),uH]
 omega
end Go.Ab
set_option linter.unusedVariables false
namespace Go.Ab
theorem Br (c : CF) (m : List Int) (a1 a6 : Int) : (bif eM c then bif decide ((m.length : Int) = cP c) then bif !(a6 != 0) then bif decide (0 ≤ a1) then some (decide (a1 ≤ 2)) else some false else some false else some false else some false)
    = some (eM c && decide ((m.length : Int) = cP c) && decide (a6 = 0 ∧ 0 ≤ a1 ∧ a1 ≤ 2)) := by
  cases eM c with
  | false => rfl
  | true =>
    rw [cond_true]
    by_cases h1 : (m.length : Int) = cP c
    · rw [decide_eq_true h1, cond_true]
      by_cases h2 : a6 = 0
      · by_cases h3 : 0 ≤ a1
        · simp [h2, h3]
        · simp [h2, h3]
      · have : (a6 != 0) = true := by simp [h2]
        simp [h2, this]
    · rw [decide_eq_false h1]
      rfl
theorem Yc (c:CF) (m:List Int) (f:FR):ki c m f=some (nW c m f):=by
 obtain ⟨a0,a1,a2,a3,a4,a5,a6⟩:=f
 unfold ki nW
 simp only [Prod.eta,my,fJ,ud,lX,af,cr]
 by_cases h1:a0=6
 ·rw [decide_eq_true h1,cond_true,Br,decide_eq_true (show a0=6∨a0=7 from .inl h1),Bool.true_and]
 ·rw [decide_eq_false h1,cond_false]
  by_cases h2:a0=7
  ·rw [decide_eq_true h2,cond_true,Br,decide_eq_true (show a0=6∨a0=7 from .inr h2),Bool.true_and]
  ·rw [decide_eq_false h2,cond_false,decide_eq_false (by omega)]
   rfl
theorem wz {e:Int} (h0:0≤e):0≤mkB e∧mkB e<65536:=by unfold mkB;omega
theorem SH {e:Int} (h0:0≤e) (h1:e≤18446744073709551615):0≤epB e∧epB e≤281474976710655:=by unfold epB;omega
theorem Tt {e m:Int} (h0:0≤e) (m0:0≤m) (m1:m≤18446744073709551615):gO e m=some (uH e m):=by
 unfold gO
 rw [ZE h0 m0 m1]
theorem pq (e m:Int):0≤uH e m∧uH e m≤18446744073709551615:=by unfold uH;omega
theorem L0 (x:Int) : -1≤A0 x∧A0 x<16:=by
 rcases Ac x with ⟨h,_⟩ | ⟨j,h,h2,_⟩ <;> omega
theorem Ii {k:Nat} (hk:100≤k) {x:Int} (h0:0≤x) (h1:x≤18446744073709551615):gl k x=some (A0 x):=by
 have key:∀ (d i n:Nat),i+d=16→d<n→cO k x n (i:Int)=some (OX x i d):=by
  intro d
  induction d with
  | zero=>
   intro i n hi hn
   obtain ⟨n,rfl⟩:=ir hn
   rw [cO,ltF (by omega),cond_false]
   rfl
  | succ d ih=>
   intro i n hi hn
   obtain ⟨n,rfl⟩:=ir hn
   rw [cO,ltT (by omega),cond_true,leT (by omega),cond_true,agX h0 h1 (by omega) (by omega),OX]
   cases hb:gX x i with
   | true=>rw [cond_true,if_pos rfl]
   | false=>rw [cond_false,if_neg (by simp),gH (by omega),ih (i+1) n (by omega) (by omega)]
 exact key 16 0 (k+9) rfl (by omega)
theorem abN {k:Nat} (hk:100≤k) {e:Int} (h0:0≤e) (h1:e≤18446744073709551615):i6 k e=some (m8 e,A0 (mkB e)):=by
 have hm:=wz h0
 have he:=SH h0 h1
 have hc:=NF hm.1 hm.2
 unfold i6
 rw [BG h0 h1,af,CQ h0,af,kQ (z:=epB e+1) (by omega) (by omega),abQ hm.1 hm.2,Tt (by omega) hc.1 (by omega),af,Ii hk hm.1 (by omega),af]
 rfl
theorem aan {e:Int} (h0:0≤e) (h1:e≤18446744073709551615):i9 e=some (Wi e):=by
 have he:=SH h0 h1
 unfold i9
 rw [CQ h0,af,kQ (z:=epB e+1) (by omega) (by omega),Tt (by omega) (by decide) (by decide),af]
 rfl
theorem Rt {k:Nat} (hk:100≤k) {e:Int} (h0:0≤e) (h1:e≤18446744073709551615):fM k e=some (m8 e,if A0 (mkB e)<0 then 0 else A0 (mkB e)):=by
 have hl:=L0 (mkB e)
 unfold fM
 rw [abN hk h0 h1,af]
 simp only
 by_cases h:A0 (mkB e)<0
 ·rw [ltT h,cond_true,if_pos h];rfl
 ·rw [ltF (by omega),cond_false,if_neg h,kQ (by omega) (by omega)]
theorem QW {e:Int} (h0:0≤e) (h1:e≤18446744073709551615):fK e=some (Wi e,mkB e):=by
 unfold fK
 rw [aan h0 h1,af,BG h0 h1,af]
theorem M7 {k:Nat} (hk:100≤k) (c:CF) {m:List Int} (hl:m.length≤1000) (w:Int):fV k c m [w]=some (A6 c m w):=by
 unfold fV
 obtain ⟨k,rfl⟩:∃ j,k=j+2:=⟨k - 2,by omega⟩
 have f1:∀ k:Nat,k+2+12=(k+12+1)+1:=fun k=>rfl
 have i1:IntKind.i64.wrap (0+1)=1:=by decide
 have x0:idx [w] 0=some w:=rfl
 rw [f1,eE,ltT (by simp),cond_true,x0,af]
 try simp only [Prod.eta]
 rw [H0,af,kH hl,af,i1,eE,ltF (by simp),cond_false]
 rfl
theorem Wd {k:Nat} (hk:1000≤k) (c:CF) {m:List Int} (hm:Wm m) (hl:m.length≤1000) {f:FR} (hf:Wf f):gJ k c m f=some (dt c m f):=by
 have hr:=cD hm 2
 unfold gJ dt
 try simp only [Prod.eta]
 rw [bM (by omega),af,Yc,af]
 cases h:nW c m f with
 | false=>rfl
 | true=>
  rw [Bool.not_true,cond_false,if_neg (by simp)]
  obtain ⟨a0,a1,a2,a3,a4,a5,a6⟩:=f
  obtain ⟨_,w4,w5⟩:=hf
  simp only at w4 w5
  unfold nW at h
  rw [Bool.and_eq_true,Bool.and_eq_true,Bool.and_eq_true,decide_eq_true_eq,decide_eq_true_eq,decide_eq_true_eq] at h
  obtain ⟨⟨⟨h0,hmay⟩,hlen⟩,h6,h1,h2⟩:=h
  simp only at h0 h6 h1 h2 ⊢
  have hlen2:(2:Int)<m.length:=by
   have hmc:=aR hmay
   have ok:OkB c m 0:=⟨hmay,hlen,by decide,by omega⟩
   have:=ok.size
   omega
  by_cases p0:a1=0
  ·subst p0
   simp [dD,af]
  ·by_cases p1:a1=1
   ·subst p1
    have e1:∀ v,nZ m 2 a4 v=if aj m 2=a4 then (aN m 2 v,true) else (m,false):=by
     intro v
     unfold nZ
     by_cases hh:aj m 2=a4
     ·rw [if_pos hh,if_pos ⟨by decide,hlen2,hh⟩]
     ·rw [if_neg hh,if_neg (fun x=>hh x.2.2)]
    rcases h0 with rfl | rfl
    ·simp only [my,decide_eq_true rfl,decide_eq_false p0,cond_true,cond_false,Rt (k:=k+2) (by omega) w4.1 w4.2,af,G5 hl,e1,BG w4.1 w4.2,iC]
     by_cases hh:aj m 2=a4
     ·by_cases h3:mkB a4=0
      ·simp [hh,h3,er]
      ·simp [hh,h3]
     ·simp [hh]
    ·simp only [my,decide_eq_true rfl,decide_eq_false p0,decide_eq_false (show ¬ ((7:Int)=6) by decide),cond_true,cond_false,QW w4.1 w4.2,af,G5 hl,e1,BG w4.1 w4.2,iC]
     by_cases hh:aj m 2=a4
     ·by_cases h3:mkB a4=0
      ·simp [hh,h3,er]
      ·simp [hh,h3]
     ·simp [hh]
   ·rcases h0 with rfl | rfl
    ·simp only [my,decide_eq_true rfl,decide_eq_false p0,decide_eq_false p1,cond_true,cond_false]
     by_cases h3:a5<8
     ·rw [ltT h3,cond_true,M7 (by omega) c hl,af,iC,af,eL (by omega)]
      simp [p0,p1,h3,er]
     ·rw [ltF (by omega),cond_false,M7 (by omega) c hl,af,iC,af]
      simp [p0,p1,h3,er]
    ·have hk5:=wz w5.1
     simp only [my,decide_eq_false (show ¬ ((7:Int)=6) by decide),decide_eq_false p0,decide_eq_false p1,cond_false]
     rw [Ii (by omega) w5.1 w5.2,af,M7 (by omega) c hl,af,BG w5.1 w5.2,af,abQ hk5.1 hk5.2,BG w4.1 w4.2,af]
     simp only [iC,af]
     by_cases h3:Hx (mkB a5)=0
     ·simp [p0,p1,h3,er]
     ·have h4:mkB a5≠0:=fun e=>h3 (by rw [e];decide)
      simp [p0,p1,h3,h4]
      omega
end Go.Ab
namespace Go.Ab
open Go.WideShapes
theorem wb:maxLen≤9223372036854775807:=by decide
theorem aeN {l:Tyt} (hm:l.length≤maxLen) (h:∀ x ∈ l,i64 x.1∧(∀ n ∈ x.2,i64 n)∧x.2.length≤maxLen):Wt l:=
 ⟨Nat.le_trans hm wb,fun x hx=>Nat.le_trans (h x hx).2.2 wb⟩
theorem abP {α:Type} {l:List α} (hm:l.length≤maxLen):l.length≤9223372036854775807:=Nat.le_trans hm wb
theorem KT {P:Program} {w:World} {r:Reach} {base:Nat} {t:TypeId} {v:Value} {fs:Array Field} (ht:P.underlying t=some (.struct fs)) (h:Value.okWide P w r base t v):∃ cs,v = .agg cs:=by
 simp only [Value.okWide,ht] at h
 cases v <;> simp_all
theorem Cells.agg {w:World} {cs:Array Value} {vs:List V} (c:Cells w (Value.agg cs).cells.toList vs):RelV (Rc w) [] (.agg vs) (.agg cs):=by
 have hl:vs.length=cs.toList.length:=c.len
 refine .agg vs cs (by simpa using hl.symm) c.ones fun i x hx => ?_
 have hi:i<vs.length:=(List.getElem?_eq_some_iff.1 hx).1
 have hi2:i<cs.size:=by rw [hl] at hi;simpa using hi
 have h1:cs.toList[i]? = some cs[i]:=by simp [hi2]
 have:=c.rel i x cs[i] hx h1
 simpa [Array.getD,hi2] using this
end Go.Ab
namespace Go.Ab
open Go.WideShapes
def u64 (n:Int):Prop:=(Lit.int .u64 n).wf=true
def TO (c:Int×Int×Int×Int):Prop:=i64 c.1∧i64 c.2.1∧i64 c.2.2.1∧i64 c.2.2.2
theorem Ko {P:Program} {t ti:TypeId} {f0 f1 f2 f3:Field} {vs:List V} (he:P.underlying t=some (.struct #[f0,f1,f2,f3])) (h0:f0.type=ti) (h1:f1.type=ti) (h2:f2.type=ti) (h3:f3.type=ti) (o0:f0.offset=0) (o1:f1.offset=1) (o2:f2.offset=2) (o3:f3.offset=3) (hi:P.underlying ti=some (.int .i64)) (ci:P.cellsOf ti=1) (ce:P.cellsOf t=4) (h:Shape P t vs) :
  ∃ x:Int×Int×Int×Int,vs=Px x∧TO x:=by
 obtain ⟨a,b⟩:=np he h
 have s0:=b 0 f0 rfl
 rw [h0,o0,ci,List.drop_zero] at s0
 have s1:=b 1 f1 rfl
 rw [h1,o1,ci] at s1
 have s2:=b 2 f2 rfl
 rw [h2,o2,ci] at s2
 have s3:=b 3 f3 rfl
 rw [h3,o3,ci] at s3
 rw [ce] at a
 obtain ⟨n0,e0,w0⟩:=gn hi s0
 obtain ⟨n1,e1,w1⟩:=gn hi s1
 obtain ⟨n2,e2,w2⟩:=gn hi s2
 obtain ⟨n3,e3,w3⟩:=gn hi s3
 match vs,a with
 | [x0,x1,x2,x3],_=>
  simp at e0 e1 e2 e3
  subst e0 e1 e2 e3
  exact ⟨(n0,n1,n2,n3),rfl,w0,w1,w2,w3⟩
theorem Gz {P:Program} {t s i:TypeId} {vs:List V} (ht:P.underlying t=some (.slice s)) (hs:P.underlying s=some (.slice i)) (hi:P.underlying i=some (.int .i64)) (h:Shape P t vs) :
  ∃ l:List (List Int),vs=[.ro (l.map fT)]∧(∀ x ∈ l,(∀ n ∈ x,i64 n)∧x.length≤maxLen)∧l.length≤maxLen:=by
 obtain ⟨rows,rfl,hr,hm⟩:=mu ht h
 obtain ⟨l,rfl,hl⟩:=mc (enc:=fT) (Q:=fun x=>(∀ n ∈ x,i64 n)∧x.length≤maxLen) (rows:=rows) (fun r hx=>by
  obtain ⟨l,e,w,m⟩:=rF hs hi (hr r hx)
  exact ⟨l,e,w,m⟩)
 exact ⟨l,rfl,hl,by simpa using hm⟩
theorem aaA {n:Int} (h:u64 n):0≤n∧n≤18446744073709551615:=by
 have h1:IntKind.min .u64=0:=by decide
 have h2:IntKind.max .u64=18446744073709551615:=by decide
 simpa [u64,Lit.wf,h1,h2] using h
end Go.Ab
namespace Go.Ab
open Go.WideShapes
end Go.Ab
set_option linter.unusedVariables false
namespace Go.Ab
theorem WW {x w:Int} (h0:0≤x) (h1:x<65536) (hw:0≤w) (hw2:w<16):gX (Hx x) w=(gX x w&&decide (w≠A0 x)):=by
 obtain ⟨v,rfl⟩:∃ v:Nat,w=v:=⟨w.toNat,by omega⟩
 unfold Hx
 rcases lS h0 h1 with ⟨rfl,h2⟩ | ⟨a,l,rfl,h2,h3⟩
 ·rw [h2,if_pos (by decide)]
  have:=mr 0 (w:=(v:Int)) (by omega)
  rw [Nat.zero_testBit] at this
  have e:((0:Nat):Int)=0:=rfl
  rw [e] at this
  rw [this]
  rfl
 ·have hp:0<2 ^ l:=Nat.pow_pos (by decide)
  have hs:2 ^ (l+1)=2*2 ^ l:=by rw [Nat.pow_succ,Nat.mul_comm]
  rw [h2,if_neg (by omega),Int.toNat_natCast]
  have hw:((2 ^ l:Nat):Int)=(2:Int) ^ l:=by rw [Int.natCast_pow];rfl
  rw [← hw]
  have e:((2 ^ (l+1)*a+2 ^ l:Nat):Int) - ((2 ^ l:Nat):Int)=((2 ^ (l+1)*a+0:Nat):Int):=by
   generalize 2 ^ (l+1)*a=y
   generalize (2:Nat) ^ l=z
   omega
  rw [e,mr _ (by omega),mr _ (by omega),Int.toNat_natCast,Nat.testBit_two_pow_mul_add a (by omega),Nat.testBit_two_pow_mul_add a (by omega)]
  by_cases h:v<l+1
  ·rw [if_pos h,if_pos h,Nat.testBit_two_pow,Nat.zero_testBit]
   by_cases h4:l=v
   ·subst h4;simp
   ·simp [h4]
  ·rw [if_neg h,if_neg h]
   have:(v:Int)≠(l:Int):=by omega
   simp [this]
theorem Ob {x:Int} (h:0≤A0 x):gX x (A0 x)=true:=by
 rcases Ac x with ⟨h1,_⟩ | ⟨j,h1,_,h2,_⟩
 ·omega
 ·rw [h1];exact h2
end Go.Ab
set_option linter.unusedVariables false
namespace Go.Ab
def uq (c:CF) (x:Int):Int:=if eM c=true then 6+x%c.2.2.1 else -1
def H4 (c:CF) (x:Int):Int:=if eM c=true then 6+c.2.2.1+x%c.2.2.1 else -1
def EJ (c:CF) (x:Int):Int:=x/c.2.2.1*2%18446744073709551616
def nb (a b:Int):Int:=IntKind.i64.wrap (IntKind.u64.wrap (a - b))
def kr (a b:Int):Int:=(a+b)%18446744073709551616
def nQ (c:CF) (m:List Int) (f:FR) (op:Int):Bool:=eM c&&decide ((m.length:Int)=cP c)&&decide (f.2.2.2.2.2.2=0∧f.1=op∧0≤f.2.1∧f.2.1<5)
def pf (c:CF) (m:List Int) (f:FR):List Int×FR:=
 if nQ c m f 3=false then (m,f)
 else if f.2.1=0 then (m,f.1,1,f.2.2.1,f.2.2.2.1,aj m 5,f.2.2.2.2.2)
 else if f.2.1=1 then
  (if aj m (uq c f.2.2.2.2.1)=EJ c f.2.2.2.2.1 then (m,f.1,2,f.2.2.1,f.2.2.2.1,f.2.2.2.2.1,aj m (uq c f.2.2.2.2.1),f.2.2.2.2.2.2)
  else if nb (aj m (uq c f.2.2.2.2.1)) (EJ c f.2.2.2.2.1)<0 then (m,er f 2 f.2.2.2.1)
  else (m,f.1,0,f.2.2.1,f.2.2.2.1,f.2.2.2.2.1,aj m (uq c f.2.2.2.2.1),f.2.2.2.2.2.2))
 else if f.2.1=2 then (let r:=nZ m 5 f.2.2.2.2.1 (kr f.2.2.2.2.1 1);(r.1,f.1,if r.2=true then 3 else 0,f.2.2))
 else if f.2.1=3 then (aN m (H4 c f.2.2.2.2.1) f.2.2.2.1,f.1,4,f.2.2)
 else (aN m (uq c f.2.2.2.2.1) (kr (EJ c f.2.2.2.2.1) 1),er f 1 f.2.2.2.1)
def Fc (c:CF) (x:Int):Int:=kr (EJ c x) 1
def F1 (c:CF) (m:List Int) (f:FR):List Int×FR:=
 if nQ c m f 4=false then (m,f)
 else if f.2.1=0 then (m,f.1,1,f.2.2.1,f.2.2.2.1,aj m 4,f.2.2.2.2.2)
 else if f.2.1=1 then
  (if nb (aj m (uq c f.2.2.2.2.1)) (Fc c f.2.2.2.2.1)=0 then (m,f.1,2,f.2.2.1,f.2.2.2.1,f.2.2.2.2.1,aj m (uq c f.2.2.2.2.1),f.2.2.2.2.2.2)
  else if nb (aj m (uq c f.2.2.2.2.1)) (Fc c f.2.2.2.2.1)<0 then (m,er f 3 0)
  else (m,f.1,0,f.2.2.1,f.2.2.2.1,f.2.2.2.2.1,aj m (uq c f.2.2.2.2.1),f.2.2.2.2.2.2))
 else if f.2.1=2 then (let r:=nZ m 4 f.2.2.2.2.1 (kr f.2.2.2.2.1 1);(r.1,f.1,if r.2=true then 3 else 0,f.2.2))
 else if f.2.1=3 then (m,f.1,4,f.2.2.1,aj m (H4 c f.2.2.2.2.1),f.2.2.2.2)
 else (aN m (uq c f.2.2.2.2.1) (kr (Fc c f.2.2.2.2.1) 1),er f 1 f.2.2.2.1)
def rk (c:CF) (m:List Int) (f:FR):List Int×FR:=if f.1=3 then pf c m f else if f.1=4 then F1 c m f else (m,f)
def A7 (c:CF) (m:List Int) (f:FR):List Int×FR:=if f.1=5 then eD c m f else if f.1=6∨f.1=7 then dt c m f else (m,f)
def dX (c:CF) (m:List Int) (f:FR):List Int×FR:=if f.1=3∨f.1=4 then rk c m f else A7 c m f
abbrev SB:=Int×List Int×FR
def ed:FR:=(0,0,0,0,0,0,0)
abbrev EV:=Int×Int×Int
def wu (l:List Int):Int:=l.headD 0
def oR (c:CF) (t:Tyt) (m:List Int) (x:SB):Bool:=eM c&&decide ((m.length:Int)=cP c)&&uE t&&decide (0≤x.1∧x.1<6∧x.2.1≠[]∧0≤wu x.2.1∧wu x.2.1<t.length)
def iD (c:CF) (t:Tyt) (m:List Int) (i:Int) (x:SB):List Int×SB×List EV:=
 if oR c t m x=false then (m,x,[])
 else if x.1=0 then (if aj m 3≠0 then (m,(0,x.2.1.tail,ed),[(1,wu x.2.1,i)]) else (m,(1,x.2),[]))
 else if x.1=1 then (aN m 0 (kr (aj m 0) 1),(2,x.2.1,(3,0,i,wu x.2.1,0,0,0)),[])
 else if x.1=2 then (let r:=dX c m x.2.2;
  if cr r.2=false then (r.1,(2,x.2.1,r.2),[]) else if r.2.2.2.2.2.2.2=2 then (r.1,(5,x.2.1,r.2),[]) else (r.1,(3,x.2.1,r.2),[(0,wu x.2.1,i)]))
 else if x.1=3 then (if aj m 1≠0 then (m,(0,x.2.1.tail,ed),[]) else (m,(4,x.2.1,(6,0,i,0,0,0,0)),[]))
 else if x.1=4 then (let r:=dX c m x.2.2;if cr r.2=true then (r.1,(0,x.2.1.tail,ed),[]) else (r.1,(4,x.2.1,r.2),[]))
 else (aN m 0 (kr (aj m 0) 18446744073709551615),(0,x.2.1.tail,ed),if aj m 0=1 then [(1,wu x.2.1,i),(5,0,i)] else [(1,wu x.2.1,i)])
def One (m m':List Int):Prop:=∃ i v,m'=aN m i v
theorem One.same (m:List Int):One m m:=⟨-1,0,by unfold aN;rw [if_neg (by decide)]⟩
theorem One.store (m:List Int) (i v:Int):One m (aN m i v):=⟨i,v,rfl⟩
theorem One.cas (m:List Int) (i o v:Int):One m (nZ m i o v).1:=by
 unfold nZ
 split
 ·exact One.store m i v
 ·exact One.same m
theorem One.len {m m':List Int} (h:One m m'):m'.length=m.length:=by
 obtain ⟨i,v,rfl⟩:=h
 exact kv
theorem Xs (c:CF) (m:List Int) (f:FR):One m (pf c m f).1:=by
 unfold pf
 repeat' split
 all_goals first | exact One.same m | exact One.store m _ _ | exact One.cas m _ _ _
theorem U7 (c:CF) (m:List Int) (f:FR):One m (F1 c m f).1:=by
 unfold F1
 repeat' split
 all_goals first | exact One.same m | exact One.store m _ _ | exact One.cas m _ _ _
theorem Pr (c:CF) (m:List Int) (f:FR):One m (eD c m f).1:=by
 unfold eD
 repeat' split
 all_goals first | exact One.same m | exact One.store m _ _ | exact One.cas m _ _ _
theorem Qg (c:CF) (m:List Int) (f:FR):One m (dt c m f).1:=by
 unfold dt A6
 repeat' split
 all_goals first | exact One.same m | (dsimp only;exact One.store m _ _)
theorem IF (c:CF) (m:List Int) (f:FR):One m (dX c m f).1:=by
 unfold dX rk A7
 repeat' split
 all_goals first | exact One.same m | exact Xs c m f | exact U7 c m f | exact Pr c m f | exact Qg c m f
end Go.Ab
set_option linter.unusedVariables false
namespace Go.Ab
structure InvA (c:CF) (a:Nat) (m:List Int):Prop where
 wm:Wm m
 may:eM c=true
 len:(m.length:Int)=cP c
 l0:aj m 0=a
 l1:aj m 1=0
 mask:mkB (aj m 2)=0
 l3:aj m 3=0
 l5:aj m 5=a
 sq:∀ j:Nat,(j:Int)<c.2.2.1→aj m (6+j)=if j<a then 1 else 0
 le:(a:Int)≤c.2.2.1
section
variable {c:CF} {t:Tyt} {m:List Int} {l:List Int} {F:FR}
end
section
variable {c:CF} {m:List Int} {w v X Y:Int} (hmay:eM c=true) (hlen:(m.length:Int)=cP c)
include hmay hlen
end
end Go.Ab
set_option linter.unusedVariables false
namespace Go.Ab
theorem BK {q i:Int}:∀ {t:Tyt} {s:Nat},(q,i) ∈ mY s t↔∃ n x,t[n]? = some x∧q ∈ x.2∧i=((s+n:Nat):Int)
 | [],s=>by simp [mY]
 | x::t,s=>by
  simp only [mY,List.mem_append,List.mem_map,Prod.mk.injEq,BK (t:=t) (s:=s+1)]
  constructor
  ·rintro (⟨a,ha,rfl,rfl⟩ | ⟨n,y,hy,hq,rfl⟩)
   ·exact ⟨0,x,rfl,ha,by simp⟩
   ·exact ⟨n+1,y,by simpa using hy,hq,by omega⟩
  ·rintro ⟨n,y,hy,hq,rfl⟩
   cases n with
   | zero=>
    simp at hy
    subst hy
    exact .inl ⟨q,hq,rfl,by simp⟩
   | succ n=>exact .inr ⟨n,y,by simpa using hy,hq,by omega⟩
theorem HS (n:Nat):∀ (l:List (Int×Int)) (had:Xi n),(∀ q ∈ l,0≤q.2)→(T8 (fR n) l had).1=true →
  (∀ q ∈ l,q.2<q.1∧q.1<n∧had.1[q.1.toNat]? = some false)∧(l.map (·.1)).Nodup
 | [],had,_,_=>by simp
 | q::l,had,h0,h=>by
  simp only [T8] at h
  have hq0:=h0 q (by simp)
  cases hb:wG n had.1 q with
  | true=>simp [fR,hb] at h
  | false=>
   have e1:(fR n had q).1=true:=by simp [fR,hb]
   have e2:(fR n had q).2.1=had.1.set q.1.toNat true:=by simp [fR,hb]
   rw [e1,if_pos rfl] at h
   obtain ⟨a,b⟩:=HS n l _ (fun x hx=>h0 x (by simp [hx])) h
   simp only [wG,Bool.or_eq_false_iff,decide_eq_false_iff_not] at hb
   obtain ⟨⟨h1,h2⟩,h3⟩:=hb
   have h4:q.1.toNat<had.1.length:=by rw [had.2];omega
   have h5:had.1[q.1.toNat]? = some false:=by
    rw [List.getElem?_eq_getElem h4] at h3 ⊢
    simpa using h3
   rw [e2] at a
   have h6:∀ x ∈ l,x.1≠q.1:=by
    intro x hx e
    have:=(a x hx).2.2
    rw [e,List.getElem?_set_self h4] at this
    cases this
   refine ⟨?_,?_⟩
   ·intro x hx
    rcases List.mem_cons.1 hx with rfl | hx
    ·exact ⟨by omega,by omega,h5⟩
    ·obtain ⟨u,v,w⟩:=a x hx
     refine ⟨u,v,?_⟩
     have hx0:=h0 x (by simp [hx])
     rwa [List.getElem?_set_ne (by have:=h6 x hx;omega)] at w
   ·rw [List.map_cons,List.nodup_cons]
    refine ⟨?_,b⟩
    intro hm
    obtain ⟨x,hx,e⟩:=List.mem_map.1 hm
    exact h6 x hx e
structure May (t:Tyt):Prop where
 len:t.length≤30
 work:∀ x ∈ t,0≤x.1∧x.1≤20
 kids:∀ q ∈ mY 0 t,0≤q.2∧q.2<q.1∧q.1<t.length
 once:((mY 0 t).map (·.1)).Nodup
theorem pw {t:Tyt} {s:Nat} (q) (h:q ∈ mY s t):0≤q.2:=by
 obtain ⟨a,b⟩:=q
 obtain ⟨n,x,_,_,rfl⟩:=BK.1 h
 simp
 omega
theorem T7 {t:Tyt} (h:uE t=true):May t:=by
 unfold uE at h
 simp only [Bool.and_eq_true,decide_eq_true_eq,Bool.not_eq_true'] at h
 obtain ⟨⟨h1,h2⟩,h3⟩:=h
 obtain ⟨a,b⟩:=HS t.length _ _ pw h3
 refine ⟨h1,?_,fun q hq=>⟨pw q hq,(a q hq).1,(a q hq).2.1⟩,b⟩
 intro x hx
 have:=List.any_eq_false.1 h2 x hx
 simp only [oo,Bool.or_eq_true,decide_eq_true_eq,not_or] at this
 omega
end Go.Ab
set_option maxRecDepth 100000
set_option linter.unusedVariables false
namespace Go.Ab
theorem aam (x:Int×List Int):fN x=some (oo x):=by
 unfold fN oo
 cases decide (x.1<0) <;> rfl
section
variable (k:Nat) (hk:9223372036854775808≤k)
include hk
theorem V1 (t:Tyt) (ht:Wt t):dA k t=some (YH t):=by
 have hlen:=ht.len
 have key:∀ r i n,t.drop i=r→i≤t.length→r.length<n→bA k t n (i:Int)=some ((r.take (41 - i)).all (fun x=>decide (x.2.length≤40))&&decide (t.length≤40)):=by
  intro r
  induction r with
  | nil=>
   intro i n hr hi hn
   obtain ⟨n,rfl⟩:=ir hn
   have:i=t.length:=by have:=dN hr;omega
   subst this
   rw [bA,AG,cond_false,SG]
   simp
  | cons x r ih=>
   intro i n hr hi hn
   obtain ⟨n,rfl⟩:=ir hn
   obtain ⟨a,b,c,d,e⟩:=cU hr
   rw [bA,ltN a,cond_true]
   by_cases h:i≤40
   ·rw [leT (show (i:Int)≤40 by omega),cond_true,f6 b,af]
    have e1:41 - i=(41 - (i+1))+1:=by omega
    rw [e1,List.take_succ_cons,List.all_cons]
    by_cases h2:x.2.length≤40
    ·rw [ltF (show ((x.2.length:Nat):Int)≤40 by omega),cond_false,gH (by omega),ih (i+1) n c (by omega) (by simp only [List.length_cons] at hn;omega),decide_eq_true h2,Bool.true_and]
    ·rw [ltT (show (40:Int)<(x.2.length:Nat) by omega),cond_true,decide_eq_false h2]
     rfl
   ·rw [leF (show (40:Int)<i by omega),cond_false,SG]
    have e1:41 - i=0:=by omega
    rw [e1]
    simp
 have:=key t 0 k rfl (Nat.zero_le _) (by omega)
 rw [dA]
 simpa [YH] using this
theorem Xu (t:Tyt) (ht:Wt t):aP k t=some (t.any oo):=by
 have hlen:=ht.len
 rw [aP,ba]
 rw [JO (F:=fun n i=>aD (k+8) t n i) (l:=t) oo ?_ ?_ _ (by omega)]
 ·rw [af,ua]
 ·intro n
  simp only [aD,AG,cond_false]
 ·intro n i x hi hx
  simp only [aD,ltN hi,cond_true,f6 hx,af,aam,Prod.eta]
  rw [gH (by omega)]
theorem JF (t:Tyt) (ht:Wt t):da k t=some (uE t):=by
 have hlen:=ht.len
 rw [da,Xu k hk t ht,af]
 unfold uE
 by_cases h1:t.length≤30
 ·rw [aiB h1,cond_false,decide_eq_true h1]
  cases h2:t.any oo with
  | true=>rfl
  | false=>
   have h3:decide ((0:Int)≤(t.length:Int)∧(t.length:Int)≤9223372036854775807∧(t.length:Int)*1≤70368744177664)=true:=by simp;omega
   rw [h3,cond_false,cond_true]
   -- one task's kids
   have inner:∀ (x:Int×List Int) (hx:x ∈ t) (i:Nat) (hi:i<t.length) (o:Int→List Bool→Option Bool) (R:List (Int×Int)) (n0:Nat)
     (ho:∀ had:Xi t.length,o ((i+1:Nat):Int) had.1=some (T8 (fR t.length) R had).1),
     ∀ r j n (had:Xi t.length),x.2.drop j=r→r.length<n →
      dl k t o n x.2 (x.2.length:Int) (j:Int) had.1 (i:Int)=some (T8 (fR t.length) (r.map (fun q=>(q,(i:Int)))++R) had).1:=by
    intro x hx i hi o R n0 ho r
    have hxl:=ht.kids x hx
    induction r with
    | nil=>
     intro j n had hr hn
     obtain ⟨n,rfl⟩:=ir hn
     have hj:=dN hr
     rw [dl,ltF (by omega),cond_false,gH (by omega),ho]
     rfl
    | cons q r ih=>
     intro j n had hr hn
     obtain ⟨n,rfl⟩:=ir hn
     obtain ⟨a,b,c,d,e⟩:=cU hr
     have hb:=had.2
     rw [dl,ltN a,cond_true,f6 b,af,List.map_cons,List.cons_append,T8]
     by_cases h1:q≤(i:Int)
     ·rw [leT h1,cond_true]
      simp [fR,wG,leT h1]
     ·rw [leF (show (i:Int)<q by omega),cond_false]
      by_cases h2:(t.length:Int)≤q
      ·rw [leT h2,cond_true]
       simp [fR,wG,leT h2]
      ·rw [leF (show q<(t.length:Int) by omega),cond_false]
       have h5:decide ((0:Int)≤q∧q.toNat<t.length)=true:=by simp;omega
       have h3:q.toNat<had.1.length:=by rw [hb];omega
       have h4:had.1[q.toNat]? = some had.1[q.toNat]:=List.getElem?_eq_getElem h3
       rw [h5,cond_true,h4,af,cond_true,af,gH (by omega)]
       cases hh:had.1[q.toNat] with
       | true=>simp [fR,wG,leF (show (i:Int)<q by omega),leF (show q<(t.length:Int) by omega),h4,hh]
       | false=>
        rw [cond_false]
        have e1:fR t.length had (q,(i:Int))=(true,⟨had.1.set q.toNat true,by simp [had.2]⟩):=by
         simp [fR,wG,leF (show (i:Int)<q by omega),leF (show q<(t.length:Int) by omega),h4,hh]
        rw [e1]
        simp only [if_true]
        exact ih (j+1) n ⟨had.1.set q.toNat true,by simp [had.2]⟩ c (by simp only [List.length_cons] at hn;omega)
   have outer:∀ r i n (had:Xi t.length),t.drop i=r→i≤t.length→r.length<n→bZ k t n (i:Int) had.1=some (T8 (fR t.length) (mY i r) had).1:=by
    intro r
    induction r with
    | nil=>
     intro i n had hr hi hn
     obtain ⟨n,rfl⟩:=ir hn
     have:=dN hr
     rw [bZ,ltF (by omega),cond_false]
     rfl
    | cons x r ih=>
     intro i n had hr hi hn
     obtain ⟨n,rfl⟩:=ir hn
     obtain ⟨a,b,c,d,e⟩:=cU hr
     have hxl:=ht.kids x d
     rw [bZ,ltN a,cond_true,f6 b,af,mY]
     have:=inner x d i a (fun s47 s56=>bZ k t n s47 s56) (mY (i+1) r) n (fun had=>ih (i+1) n had c (by omega) (by simp only [List.length_cons] at hn;omega)) x.2 0 (k+17) had rfl (by omega)
     simpa using this
   have:=outer t 0 (k+17) (GQ t.length) rfl (Nat.zero_le _) (by omega)
   simpa [GQ] using this
 ·rw [aiJ (by omega),cond_true,decide_eq_false h1]
  rfl
end
end Go.Ab
set_option linter.unusedVariables false
namespace Go.Ab
theorem m9 (z:Int):IntKind.u64.wrap z=z%18446744073709551616:=by simp [IntKind.wrap,IntKind.bits,IntKind.signed]
theorem Jk {c:CF} {x:Int} (h0:0≤x) (h1:x≤18446744073709551615):iw c x=some (uq c x):=by
 unfold iw uq
 simp only [Prod.eta,fJ,af]
 cases hm:eM c with
 | false=>rfl
 | true=>
  have hc:=aR hm
  have hi:IntKind.u64.wrap c.2.2.1=c.2.2.1:=kQ (by omega) (by omega)
  have h3:=Int.emod_lt_of_pos x (show 0<c.2.2.1 by omega)
  have h4:=Int.emod_nonneg x (show c.2.2.1≠0 by omega)
  have e1:IntKind.i64.wrap (c.1 - 1)=c.1 - 1:=by rw [IntKind.wrap_i64];omega
  rw [Bool.not_true,cond_false,US,af,e1,decide_eq_true (by omega),Bool.not_true,cond_false,hi,D3,decide_eq_false (by omega),Bool.not_false,cond_true,if_pos rfl,Int.tmod_eq_emod_of_nonneg h0]
  have e2:IntKind.i64.wrap (x%c.2.2.1)=x%c.2.2.1:=by rw [IntKind.wrap_i64];omega
  rw [e2,IntKind.wrap_i64]
  congr 1
  omega
theorem TH {c:CF} {x:Int} (h0:0≤x) (h1:x≤18446744073709551615):lR c x=some (H4 c x):=by
 unfold lR H4
 simp only [Prod.eta,fJ,af]
 cases hm:eM c with
 | false=>rfl
 | true=>
  have hc:=aR hm
  have hi:IntKind.u64.wrap c.2.2.1=c.2.2.1:=kQ (by omega) (by omega)
  have h3:=Int.emod_lt_of_pos x (show 0<c.2.2.1 by omega)
  have h4:=Int.emod_nonneg x (show c.2.2.1≠0 by omega)
  have e1:IntKind.i64.wrap (c.1 - 1)=c.1 - 1:=by rw [IntKind.wrap_i64];omega
  rw [Bool.not_true,cond_false,US,af,e1,decide_eq_true (by omega),Bool.not_true,cond_false,hi,D3,decide_eq_false (by omega),Bool.not_false,cond_true,if_pos rfl,Int.tmod_eq_emod_of_nonneg h0]
  have e2:IntKind.i64.wrap (x%c.2.2.1)=x%c.2.2.1:=by rw [IntKind.wrap_i64];omega
  have e3:IntKind.i64.wrap (6+c.2.2.1)=6+c.2.2.1:=by rw [IntKind.wrap_i64];omega
  rw [e2,e3,IntKind.wrap_i64]
  congr 1
  omega
theorem Ov {c:CF} {x:Int} (hm:eM c=true) (h0:0≤x) (h1:x≤18446744073709551615):IntKind.u64.wrap (IntKind.u64.wrap (x.tdiv (IntKind.u64.wrap c.2.2.1))*2)=EJ c x:=by
 have hc:=aR hm
 have hi:IntKind.u64.wrap c.2.2.1=c.2.2.1:=kQ (by omega) (by omega)
 have h3:0≤x/c.2.2.1:=Int.ediv_nonneg h0 (by omega)
 have h4:x/c.2.2.1≤x:=Int.ediv_le_self _ h0
 rw [hi,Int.tdiv_eq_ediv_of_nonneg h0,kQ h3 (by omega),m9]
 rfl
theorem uX (a b:Int):IntKind.u64.wrap (a+b)=kr a b:=by rw [m9];rfl
theorem gk (a b:Int):0≤kr a b∧kr a b≤18446744073709551615:=by unfold kr;omega
theorem ne0 {c:CF} (hm:eM c=true):(IntKind.u64.wrap c.2.2.1 !=0)=true:=by
 have hc:=aR hm
 rw [kQ (by omega) (by omega),D3,decide_eq_false (by omega)]
 rfl
theorem SD {c:CF} {x:Int} (hm:eM c=true) (h0:0≤x) (h1:x≤18446744073709551615):iR c x=some (Fc c x):=by
 unfold iR Fc
 rw [ne0 hm,cond_true,Ov hm h0 h1,uX]
theorem GX (a b:Int):dS a b=some (nb a b):=rfl
theorem Lj (c:CF) (m:List Int) (f:FR) (op:Int):i4 c m f op=some (nQ c m f op):=by
 unfold i4 iO nQ
 simp only [Prod.eta,fJ,ud,lX,af]
 cases hm:eM c with
 | false=>rfl
 | true=>
  rw [cond_true,af,my,Bool.true_and]
  by_cases h1:(m.length:Int)=cP c
  ·rw [decide_eq_true h1,cond_true,Bool.true_and]
   unfold cr
   rw [D3,Bool.not_not,my]
   by_cases h2:f.2.2.2.2.2.2=0
   ·rw [decide_eq_true h2,cond_true]
    by_cases h3:f.1=op
    ·rw [decide_eq_true h3,cond_true]
     by_cases h4:0≤f.2.1
     ·rw [leT h4,cond_true]
      congr 1
      simp [h2,h3,h4]
     ·rw [leF (by omega),cond_false]
      simp [h4]
    ·rw [decide_eq_false h3,cond_false]
     simp [h3]
   ·rw [decide_eq_false h2,cond_false]
    simp [h2]
  ·rw [decide_eq_false h1,cond_false]
   rfl
theorem H6 {c:CF} {m:List Int} {f:FR} {op:Int} (h:nQ c m f op=true):eM c=true∧(m.length:Int)=cP c∧f.2.2.2.2.2.2=0∧f.1=op∧0≤f.2.1∧f.2.1<5:=by
 unfold nQ at h
 rw [Bool.and_eq_true,Bool.and_eq_true,decide_eq_true_eq,decide_eq_true_eq] at h
 exact ⟨h.1.1,h.1.2,h.2⟩
theorem Mk (c:CF) {m:List Int} (hm:Wm m) (hl:m.length≤1000) {f:FR} (hf:Wf f):lT c m f=some (pf c m f):=by
 unfold lT pf
 try simp only [Prod.eta]
 rw [bM (by omega),af,Lj,af]
 cases h:nQ c m f 3 with
 | false=>rfl
 | true=>
  obtain ⟨hmay,_,h6,h0,h1,h1'⟩:=H6 h
  rw [Bool.not_true,cond_false,if_neg (by simp)]
  obtain ⟨a0,a1,a2,a3,a4,a5,a6⟩:=f
  simp only at h6 h0 h1 h1' ⊢
  have e:decide (0≤a1∧a1.toNat<5)=true:=by rw [decide_eq_true_eq];omega
  rw [e,cond_true]
  obtain ⟨w3,w4,w5⟩:=hf
  simp only at w3 w4 w5
  rcases (show a1=0∨a1=1∨a1=2∨a1=3∨a1=4 by omega) with rfl | rfl | rfl | rfl | rfl
  ·simp [dD,af]
  ·simp only [Jk w4.1 w4.2,dD,af,ne0 hmay,Ov hmay w4.1 w4.2,GX,iC,my,cond_true]
   by_cases h5:aj m (uq c a4)=EJ c a4
   ·simp [h5]
   ·by_cases h7:nb (aj m (uq c a4)) (EJ c a4)<0
    ·simp [h5,h7,er]
    ·simp [h5,h7]
  ·simp only [uX,G5 hl,af]
   cases hc:(nZ m 5 a4 (kr a4 1)).2 <;> simp [hc]
  ·simp only [TH w4.1 w4.2,kH hl,af]
   simp
  ·simp only [Jk w4.1 w4.2,ne0 hmay,Ov hmay w4.1 w4.2,uX,kH hl,af,iC,cond_true]
   simp [er]
theorem Nh (c:CF) {m:List Int} (hm:Wm m) (hl:m.length≤1000) {f:FR} (hf:Wf f):mb c m f=some (F1 c m f):=by
 unfold mb F1
 try simp only [Prod.eta]
 rw [bM (by omega),af,Lj,af]
 cases h:nQ c m f 4 with
 | false=>rfl
 | true=>
  obtain ⟨hmay,_,h6,h0,h1,h1'⟩:=H6 h
  rw [Bool.not_true,cond_false,if_neg (by simp)]
  obtain ⟨a0,a1,a2,a3,a4,a5,a6⟩:=f
  simp only at h6 h0 h1 h1' ⊢
  obtain ⟨w3,w4,w5⟩:=hf
  simp only at w3 w4 w5
  rcases (show a1=0∨a1=1∨a1=2∨a1=3∨a1=4 by omega) with rfl | rfl | rfl | rfl | rfl
  ·simp [dD,af]
  ·simp only [Jk w4.1 w4.2,dD,af,SD hmay w4.1 w4.2,GX,iC,my]
   by_cases h5:nb (aj m (uq c a4)) (Fc c a4)=0
   ·simp [h5]
   ·by_cases h7:nb (aj m (uq c a4)) (Fc c a4)<0
    ·simp [h5,h7,er]
    ·simp [h5,h7]
  ·simp only [uX,G5 hl,af]
   cases hc:(nZ m 4 a4 (kr a4 1)).2 <;> simp [hc]
  ·simp only [TH w4.1 w4.2,dD,af]
   simp
  ·simp only [Jk w4.1 w4.2,SD hmay w4.1 w4.2,uX,kH hl,af,iC]
   simp [er]
theorem D5 (c:CF) {m:List Int} (hm:Wm m) (hl:m.length≤1000) {f:FR} (hf:Wf f):br c m f=some (rk c m f):=by
 unfold br rk
 simp only [Prod.eta,Mk c hm hl hf,Nh c hm hl hf,af,my]
 by_cases h3:f.1=3
 ·simp [h3]
 ·by_cases h4:f.1=4
  ·simp [h4]
  ·simp [h3,h4,bM (b:=8) (l:=m) (by omega),af]
theorem FJ {k:Nat} (hk:1000≤k) (c:CF) {m:List Int} (hm:Wm m) (hl:m.length≤1000) {f:FR} (hf:Wf f):co k c m f=some (A7 c m f):=by
 unfold co A7
 simp only [Prod.eta,Vx c hm hl hf,Wd hk c hm hl hf,af,my]
 by_cases h5:f.1=5
 ·rw [decide_eq_true h5,cond_true,if_pos h5]
 ·rw [decide_eq_false h5,cond_false,if_neg h5]
  by_cases h6:f.1=6
  ·rw [decide_eq_true h6,cond_true,cond_true,if_pos (.inl h6)]
  ·rw [decide_eq_false h6,cond_false]
   by_cases h7:f.1=7
   ·rw [decide_eq_true h7,cond_true,if_pos (.inr h7)]
   ·rw [decide_eq_false h7,cond_false,if_neg (by omega),bM (by omega),af]
theorem aaR {m:List Int} (hl:m.length≤1000) (i v:Int):dv m i v=some (if 0≤i∧i<m.length then (aN m i (kr (aj m i) v),aj m i) else (m,0)):=by
 unfold dv
 rw [bM (by omega),af,ac7,af]
 by_cases h:0≤i∧i<m.length
 ·have hd:decide (0≤i∧i.toNat<m.length)=true:=decide_eq_true (by omega)
  rw [decide_eq_true h,Bool.not_true,cond_false,(mq h).1,af,hd,cond_true,(mq h).2,af,af,if_pos h,uX]
  unfold aN
  rw [if_pos h.1]
 ·rw [decide_eq_false h,Bool.not_false,cond_true,if_neg h]
theorem TN {k:Nat} (hk:9223372036854775808≤k) (c:CF) {t:Tyt} (ht:Wt t) (m:List Int) (x:SB):eT k c t m x=some (oR c t m x):=by
 unfold eT oR
 simp only [Prod.eta,fJ,ud,af]
 rw [JF (k+4) (by omega) t ht]
 cases hm:eM c with
 | false=>rfl
 | true=>
  rw [cond_true,my,Bool.true_and]
  by_cases h1:(m.length:Int)=cP c
  ·rw [decide_eq_true h1,cond_true,Bool.true_and,af]
   cases ht2:uE t with
   | false=>rfl
   | true=>
    rw [cond_true,Bool.true_and]
    by_cases h2:0≤x.1
    ·rw [leT h2,cond_true]
     by_cases h3:x.1<6
     ·rw [ltT h3,cond_true]
      cases hl:x.2.1 with
      | nil=>simp
      | cons r rest=>
       have h0:idx (r::rest) 0=some r:=rfl
       rw [ltT (by simp),cond_true,h0,af,af]
       by_cases h4:0≤r
       ·rw [leT h4,cond_true]
        congr 1
        simp [h2,h3,wu,h4]
       ·rw [leF (by omega),cond_false]
        simp [wu,h4]
     ·rw [ltF (by omega),cond_false]
      simp [h3]
    ·rw [leF (by omega),cond_false]
     simp [h2]
  ·rw [decide_eq_false h1,cond_false]
   rfl
theorem ot {c:CF} {t:Tyt} {m:List Int} {x:SB} (h:oR c t m x=true):eM c=true∧(m.length:Int)=cP c∧uE t=true∧0≤x.1∧x.1<6∧∃ r rest,x.2.1=r::rest∧0≤r∧r<t.length:=by
 unfold oR at h
 simp only [Bool.and_eq_true,decide_eq_true_eq] at h
 obtain ⟨⟨⟨h1,h2⟩,h3⟩,h4,h5,h6,h7,h8⟩:=h
 cases hx:x.2.1 with
 | nil=>exact absurd hx h6
 | cons r rest=>
  rw [hx] at h7 h8
  exact ⟨h1,h2,h3,h4,h5,r,rest,rfl,h7,h8⟩
theorem iL {c:CF} (h:eM c=true):12≤cP c∧cP c≤190:=by
 have hm:=aR h
 have:=dh h (w:=c.1) (by omega) (by omega)
 unfold cP
 rw [if_pos h]
 have e:A3 c c.1=6+2*c.2.2.1+c.1*(3+c.2.1):=rfl
 have h3:1*(3+c.2.1)≤c.1*(3+c.2.1):=Int.mul_le_mul_of_nonneg_right (by omega) (by omega)
 omega
theorem VH {k:Nat} (hk:9223372036854775808≤k) (c:CF) {t:Tyt} (ht:Wt t) {m:List Int} (hm:Wm m) (hl:m.length≤1000) (i:Int) {x:SB} (hf:Wf x.2.2) (hr:x.2.1.length≤1000) (ht2:t.length≤1000):fA k c t m i x=some (iD c t m i x):=by
 unfold fA iD
 try simp only [Prod.eta]
 rw [bM (by omega),af,bM (by omega),af,TN (by omega) c ht,af]
 cases hmay:oR c t m x with
 | false=>rfl
 | true=>
  rw [Bool.not_true,cond_false,if_neg (by simp)]
  obtain ⟨h1,h2,h3,h4,h5,r,rest,hx,h6,h7⟩:=ot hmay
  have hsz:=iL h1
  obtain ⟨pc,roots,F⟩:=x
  simp only at hx h4 h5 hf hr ⊢
  subst hx
  have hi0:idx (r::rest) 0=some r:=rfl
  have hroom:room 1 24=true:=rfl
  have hroom2:room 2 24=true:=rfl
  have hd:decide ((1:Int)≤((r::rest).length:Int))=true:=decide_eq_true (by simp;omega)
  have hdr:List.drop (Int.toNat 1) (r::rest)=rest:=rfl
  have hh:wu (r::rest)=r:=rfl
  have hur:IntKind.u64.wrap r=r:=kQ h6 (by omega)
  have htl:(r::rest).tail=rest:=rfl
  rw [hi0,af]
  simp only [D5 c hm hl hf,FJ (k:=k+20) (by omega) c hm hl hf,dD,aaR hl,af,lX,Vh,hroom,hroom2,hd,hdr,hh,htl,cond_true,hur,my,D3]
  have hb:∀ op w v:Int,aJ op w v=some (op,0,w,v,0,0,0):=fun _ _ _=>rfl
  simp only [hb,af]
  have hin:(0:Int)≤0∧(0:Int)<m.length:=by omega
  have hcall:dX c m F=if F.1=3∨F.1=4 then rk c m F else A7 c m F:=rfl
  rcases (show pc=0∨pc=1∨pc=2∨pc=3∨pc=4∨pc=5 by omega) with rfl | rfl | rfl | rfl | rfl | rfl
  ·by_cases h:aj m 3=0
   ·simp [h]
   ·simp [h,ed]
  ·simp only [if_pos hin]
   simp
  ·by_cases e3:F.1=3
   ·have ec:dX c m F=rk c m F:=by rw [hcall,if_pos (.inl e3)]
    rw [ec]
    cases ho:cr (rk c m F).2 with
    | false=>simp [e3,ho]
    | true=>
     by_cases h8:(rk c m F).2.2.2.2.2.2.2=2
     ·simp [e3,ho,h8]
     ·simp [e3,ho,h8]
   ·by_cases e4:F.1=4
    ·have ec:dX c m F=rk c m F:=by rw [hcall,if_pos (.inr e4)]
     rw [ec]
     cases ho:cr (rk c m F).2 with
     | false=>simp [e4,ho]
     | true=>
      by_cases h8:(rk c m F).2.2.2.2.2.2.2=2
      ·simp [e4,ho,h8]
      ·simp [e4,ho,h8]
    ·have ec:dX c m F=A7 c m F:=by rw [hcall,if_neg (by omega)]
     rw [ec]
     cases ho:cr (A7 c m F).2 with
     | false=>simp [e3,e4,ho]
     | true=>
      by_cases h8:(A7 c m F).2.2.2.2.2.2.2=2
      ·simp [e3,e4,ho,h8]
      ·simp [e3,e4,ho,h8]
  ·by_cases h:aj m 1=0
   ·simp [h]
   ·simp [h,ed]
  ·by_cases e3:F.1=3
   ·have ec:dX c m F=rk c m F:=by rw [hcall,if_pos (.inl e3)]
    rw [ec]
    cases ho:cr (rk c m F).2 with
    | false=>simp [e3,ho]
    | true=>simp [e3,ho,ed]
   ·by_cases e4:F.1=4
    ·have ec:dX c m F=rk c m F:=by rw [hcall,if_pos (.inr e4)]
     rw [ec]
     cases ho:cr (rk c m F).2 with
     | false=>simp [e4,ho]
     | true=>simp [e4,ho,ed]
    ·have ec:dX c m F=A7 c m F:=by rw [hcall,if_neg (by omega)]
     rw [ec]
     cases ho:cr (A7 c m F).2 with
     | false=>simp [e3,e4,ho]
     | true=>simp [e3,e4,ho,ed]
  ·simp only [if_pos hin]
   by_cases h:aj m 0=1
   ·simp [h,ed,hroom2]
   ·simp [h,ed]
end Go.Ab
set_option linter.unusedVariables false
namespace Go.Ab
def onW (c:CF) (w x:Int):Int:=if eM c=true∧0≤w∧w<c.1 then A3 c w+x else -1
def mW (c:CF) (w:Int):Int:=onW c w 0
def wF (c:CF) (w:Int):Int:=onW c w 1
def o4 (c:CF) (w x:Int):Int:=onW c w (3+uM .u64 x (c.2.1 - 1))
def VN (a b:Int):Int:=(a - b)%18446744073709551616
def nK (c:CF) (m:List Int) (f:FR):List Int×FR:=
 if lM c m f 0 4=false then (m,f)
 else if f.2.1=0 then (m,f.1,1,f.2.2.1,f.2.2.2.1,aj m (wF c f.2.2.1),f.2.2.2.2.2)
 else if f.2.1=1 then (if c.2.1≤VN f.2.2.2.2.1 (aj m (mW c f.2.2.1)) then (m,er f 2 f.2.2.2.1) else (m,f.1,2,f.2.2.1,f.2.2.2.1,f.2.2.2.2.1,aj m (mW c f.2.2.1),f.2.2.2.2.2.2))
 else if f.2.1=2 then (aN m (o4 c f.2.2.1 f.2.2.2.2.1) f.2.2.2.1,f.1,3,f.2.2)
 else (aN m (wF c f.2.2.1) (kr f.2.2.2.2.1 1),er f 1 f.2.2.2.1)
def FQ (c:CF) (m:List Int) (f:FR):List Int×FR:=
 if lM c m f 1 7=false then (m,f)
 else if f.2.1=0 then (m,f.1,1,f.2.2.1,f.2.2.2.1,VN (aj m (wF c f.2.2.1)) 1,f.2.2.2.2.2)
 else if f.2.1=1 then (aN m (wF c f.2.2.1) f.2.2.2.2.1,f.1,2,f.2.2)
 else if f.2.1=2 then (m,f.1,if nb f.2.2.2.2.1 (aj m (mW c f.2.2.1))<0 then 6 else 3,f.2.2.1,f.2.2.2.1,f.2.2.2.2.1,aj m (mW c f.2.2.1),f.2.2.2.2.2.2)
 else if f.2.1=3 then (if f.2.2.2.2.1≠f.2.2.2.2.2.1 then (m,er f 1 (aj m (o4 c f.2.2.1 f.2.2.2.2.1))) else (m,f.1,4,f.2.2.1,aj m (o4 c f.2.2.1 f.2.2.2.2.1),f.2.2.2.2))
 else if f.2.1=4 then (let r:=nZ m (mW c f.2.2.1) f.2.2.2.2.2.1 (kr f.2.2.2.2.2.1 1);(r.1,f.1,if r.2=true then 5 else 6,f.2.2))
 else if f.2.1=5 then (aN m (wF c f.2.2.1) (kr f.2.2.2.2.1 1),er f 1 f.2.2.2.1)
 else (aN m (wF c f.2.2.1) (kr f.2.2.2.2.1 1),er f 3 0)
def ie (c:CF) (m:List Int) (f:FR):List Int×FR:=
 if lM c m f 2 4=false then (m,f)
 else if f.2.1=0 then (m,f.1,1,f.2.2.1,f.2.2.2.1,f.2.2.2.2.1,aj m (mW c f.2.2.1),f.2.2.2.2.2.2)
 else if f.2.1=1 then (if nb (aj m (wF c f.2.2.1)) f.2.2.2.2.2.1≤0 then (m,er f 3 0) else (m,f.1,2,f.2.2.1,f.2.2.2.1,aj m (wF c f.2.2.1),f.2.2.2.2.2))
 else if f.2.1=2 then (m,f.1,3,f.2.2.1,aj m (o4 c f.2.2.1 f.2.2.2.2.2.1),f.2.2.2.2)
 else (let r:=nZ m (mW c f.2.2.1) f.2.2.2.2.2.1 (kr f.2.2.2.2.2.1 1);if r.2=true then (r.1,er f 1 f.2.2.2.1) else (r.1,er f 4 0))
def Be (c:CF) (m:List Int) (f:FR):List Int×FR:=if f.1=0 then nK c m f else if f.1=1 then FQ c m f else if f.1=2 then ie c m f else (m,f)
def dq (c:CF) (m:List Int) (f:FR):List Int×FR:=if f.1=0∨f.1=1∨f.1=2 then Be c m f else dX c m f
theorem acL (a b:Int):IntKind.u64.wrap (a - b)=VN a b:=by rw [m9];rfl
theorem QZ (a b:Int):0≤VN a b∧VN a b≤18446744073709551615:=by unfold VN;omega
theorem rZ {x D:Int} (h0:0≤x) (h1:x≤18446744073709551615) (hD:1≤D) (hE:D≤16):0≤uM .u64 x (D - 1)∧uM .u64 x (D - 1)≤D - 1:=by
 obtain ⟨a,rfl⟩:=Int.eq_ofNat_of_zero_le h0
 obtain ⟨b,hb⟩:∃ b:Nat,D - 1=(b:Int):=⟨(D - 1).toNat,by omega⟩
 rw [hb,ac9 (by omega) (by omega)]
 have:=Nat.and_le_right (n:=a) (m:=b)
 omega
theorem Ng (c:CF) (w:Int):gp c w=some (mW c w):=by
 unfold gp mW onW
 try simp only [Prod.eta]
 rw [fJ,af]
 cases h:eM c with
 | false=>simp
 | true=>
  have hm:=aR h
  rw [Bool.not_true,cond_false,eL (by omega),US,af]
  by_cases h1:0≤w∧w≤c.1 - 1
  ·have ht:=dh h h1.1 (by omega)
   rw [decide_eq_true h1,Bool.not_true,cond_false,Es h (by omega) (by omega),af,if_pos ⟨rfl,by omega,by omega⟩,Int.add_zero]
  ·rw [decide_eq_false h1,Bool.not_false,cond_true,if_neg (by omega)]
theorem KJ (c:CF) (w:Int):dc c w=some (wF c w):=by
 unfold dc wF onW
 try simp only [Prod.eta]
 rw [fJ,af]
 cases h:eM c with
 | false=>simp
 | true=>
  have hm:=aR h
  rw [Bool.not_true,cond_false,eL (by omega),US,af]
  by_cases h1:0≤w∧w≤c.1 - 1
  ·have ht:=dh h h1.1 (by omega)
   rw [decide_eq_true h1,Bool.not_true,cond_false,Es h (by omega) (by omega),af,eL (by omega),if_pos ⟨rfl,by omega,by omega⟩]
  ·rw [decide_eq_false h1,Bool.not_false,cond_true,if_neg (by omega)]
theorem Ip (c:CF) (w:Int) {x:Int} (h0:0≤x) (hx:x≤18446744073709551615):fy c w x=some (o4 c w x):=by
 unfold fy o4 onW
 try simp only [Prod.eta]
 rw [fJ,af]
 cases h:eM c with
 | false=>simp
 | true=>
  have hm:=aR h
  rw [Bool.not_true,cond_false,eL (z:=c.1 - 1) (by omega),US,af]
  by_cases h1:0≤w∧w≤c.1 - 1
  ·have ht:=dh h h1.1 (by omega)
   have ha:=rZ h0 hx (show 1≤c.2.1 by omega) (by omega)
   rw [decide_eq_true h1,Bool.not_true,cond_false,Es h (by omega) (by omega),af,if_pos ⟨rfl,by omega,by omega⟩,eL (z:=c.2.1 - 1) (by omega),kQ (z:=c.2.1 - 1) (by omega) (by omega),eL (z:=uM .u64 x (c.2.1 - 1)) (by omega),eL (z:=A3 c w+3) (by omega),eL (by omega),Int.add_assoc]
  ·rw [decide_eq_false h1,Bool.not_false,cond_true,if_neg (by omega)]
section
variable (k:Nat) (c:CF) (m:List Int) (a2 a3 a4 a5:Int) (n:Nat) {x:List Int} (p q:Int)
theorem abJ:au k c m (2,1,a2,a3,a4,a5,0) (n+1) x p q 0=au k c m (2,1,a2,a3,a4,a5,0) n x p q 1:=by
 rw [au]
 rfl
theorem ZW:au k c m (2,2,a2,a3,a4,a5,0) (n+1) x p q 0=au k c m (2,2,a2,a3,a4,a5,0) n x p q 1:=by
 rw [au]
 rfl
theorem abV:au k c m (2,2,a2,a3,a4,a5,0) (n+1) x p q 1=au k c m (2,2,a2,a3,a4,a5,0) n x p q 2:=by
 rw [au]
 rfl
theorem abb:au k c m (2,3,a2,a3,a4,a5,0) (n+1) x p q 0=au k c m (2,3,a2,a3,a4,a5,0) n x p q 1:=by
 rw [au]
 rfl
theorem abU:au k c m (2,3,a2,a3,a4,a5,0) (n+1) x p q 1=au k c m (2,3,a2,a3,a4,a5,0) n x p q 2:=by
 rw [au]
 rfl
theorem aaX:au k c m (2,3,a2,a3,a4,a5,0) (n+1) x p q 2=au k c m (2,3,a2,a3,a4,a5,0) n x p q 3:=by
 rw [au]
 rfl
theorem YX:au k c m (2,0,a2,a3,a4,a5,0) (n+1) x p q 0=some (x,(2,1,a2,a3,a4,aj x p,0)):=by
 have e:au k c m (2,0,a2,a3,a4,a5,0) (n+1) x p q 0=ob (aE x p) fun r=>some (x,(2,1,a2,a3,a4,r,0)):=by
  rw [au]
  rfl
 rw [e,dD,af]
theorem ab3:au k c m (2,1,a2,a3,a4,a5,0) (n+1) x p q 1=some (if nb (aj x q) a5≤0 then (x,(2,0,a2,0,0,0,3)) else (x,(2,2,a2,a3,aj x q,a5,0))):=by
 have e:au k c m (2,1,a2,a3,a4,a5,0) (n+1) x p q 1=ob (aE x q) fun r=>ob (dS r a5) fun y=>bif decide (y≤0) then some (x,(2,0,a2,0,0,0,3)) else some (x,(2,2,a2,a3,r,a5,0)):=by
  rw [au]
  rfl
 rw [e,dD,af,GX,af]
 by_cases h:nb (aj x q) a5≤0
 ·rw [leT h,cond_true,if_pos h]
 ·rw [leF (by omega),cond_false,if_neg h]
theorem Z8 (h0:0≤a5) (h1:a5≤18446744073709551615):au k c m (2,2,a2,a3,a4,a5,0) (n+1) x p q 2=some (x,(2,3,a2,aj x (o4 c a2 a5),a4,a5,0)):=by
 have e:au k c m (2,2,a2,a3,a4,a5,0) (n+1) x p q 2=ob (fy c a2 a5) fun s=>ob (aE x s) fun r=>some (x,(2,3,a2,r,a4,a5,0)):=by
  rw [au]
  rfl
 rw [e,Ip c a2 h0 h1,af,dD,af]
theorem aak (hl:x.length≤1000):au k c m (2,3,a2,a3,a4,a5,0) (n+1) x p q 3=some (if (nZ x p a5 (kr a5 1)).2=true then ((nZ x p a5 (kr a5 1)).1,(2,0,a2,a3,0,0,1)) else ((nZ x p a5 (kr a5 1)).1,(2,0,a2,0,0,0,4))):=by
 have e:au k c m (2,3,a2,a3,a4,a5,0) (n+1) x p q 3=ob (dw x p a5 (IntKind.u64.wrap (a5+1))) fun r=>bif r.2 then some (r.1,(2,0,a2,a3,0,0,1)) else some (r.1,(2,0,a2,0,0,0,4)):=by
  rw [au]
  rfl
 rw [e,uX,G5 hl,af]
 cases (nZ x p a5 (kr a5 1)).2 <;> rfl
end
section
variable (c:CF) {m:List Int} (hm:Wm m) (hl:m.length≤1000) {f:FR} (hf:Wf f)
include hm hl hf
theorem JE:kC c m f=some (nK c m f):=by
 have _h:=hm
 unfold kC nK
 try simp only [Prod.eta]
 rw [bM (by omega),af,IJ,af]
 cases h:lM c m f 0 4 with
 | false=>rfl
 | true=>
  obtain ⟨hmay,_,h6,h2,h2',h0,h1,h1'⟩:=Dp h
  have hc:=aR hmay
  rw [cond_true,if_neg (by simp)]
  obtain ⟨a0,a1,a2,a3,a4,a5,a6⟩:=f
  simp only at h6 h2 h2' h0 h1 h1' ⊢
  obtain ⟨w3,w4,w5⟩:=hf
  simp only at w3 w4 w5
  rcases (show a1=0∨a1=1∨a1=2∨a1=3 by omega) with rfl | rfl | rfl | rfl
  ·simp [KJ,dD,af]
  ·simp only [Ng,dD,af,iC,acL,kQ (z:=c.2.1) (by omega) (by omega)]
   by_cases h5:c.2.1≤VN a4 (aj m (mW c a2))
   ·simp [h5,er]
   ·simp [h5]
  ·simp only [Ip c a2 w4.1 w4.2,kH hl,af]
   simp
  ·simp only [KJ,kH hl,af,iC,uX]
   simp [er]
theorem NV:lD c m f=some (FQ c m f):=by
 have _h:=hm
 unfold lD FQ
 try simp only [Prod.eta]
 rw [bM (by omega),af,IJ,af]
 cases h:lM c m f 1 7 with
 | false=>rfl
 | true=>
  obtain ⟨hmay,_,h6,h2,h2',h0,h1,h1'⟩:=Dp h
  rw [Bool.not_true,cond_false,if_neg (by simp)]
  obtain ⟨a0,a1,a2,a3,a4,a5,a6⟩:=f
  simp only at h6 h2 h2' h0 h1 h1' ⊢
  obtain ⟨w3,w4,w5⟩:=hf
  simp only at w3 w4 w5
  rw [Ng,af,KJ,af]
  have hw:∀ z:Int,0≤z→z≤100→IntKind.i64.wrap (z+1)=z+1:=fun z _ _=>eL (by omega)
  rcases (show a1=0∨a1=1∨a1=2∨a1=3∨a1=4∨a1=5∨a1=6 by omega) with rfl | rfl | rfl | rfl | rfl | rfl | rfl
  ·rw [hw 0 (by decide) (by decide)]
   simp [dD,af,acL]
  ·rw [hw 1 (by decide) (by decide)]
   simp [kH hl,af]
  ·rw [hw 2 (by decide) (by decide)]
   simp only [dD,af,GX]
   by_cases h5:nb a4 (aj m (mW c a2))<0
   ·simp [h5]
   ·simp [h5]
  ·rw [hw 3 (by decide) (by decide)]
   simp only [Ip c a2 w4.1 w4.2,dD,af,iC,D3]
   by_cases h5:a4=a5
   ·simp [h5]
   ·simp [h5,er]
  ·rw [hw 4 (by decide) (by decide)]
   simp only [uX,G5 hl,af]
   cases hc:(nZ m (mW c a2) a5 (kr a5 1)).2 <;> simp [hc]
  ·simp only [uX,kH hl,af,iC]
   simp [er]
  ·simp only [uX,kH hl,af,iC]
   simp [er]
theorem Hs (k:Nat):io k c m f=some (ie c m f):=by
 have _h:=hm
 unfold io ie
 try simp only [Prod.eta]
 rw [bM (by omega),af,IJ,af]
 cases h:lM c m f 2 4 with
 | false=>rfl
 | true=>
  obtain ⟨hmay,_,h6,h2,h2',h0,h1,h1'⟩:=Dp h
  rw [Bool.not_true,cond_false,if_neg (by simp)]
  obtain ⟨a0,a1,a2,a3,a4,a5,a6⟩:=f
  simp only at h6 h2 h2' h0 h1 h1' ⊢
  obtain ⟨w3,w4,w5⟩:=hf
  simp only at w3 w4 w5
  subst h6
  subst h0
  rw [Ng,af,KJ,af]
  rcases (show a1=0∨a1=1∨a1=2∨a1=3 by omega) with rfl | rfl | rfl | rfl
  ·rw [if_pos rfl]
   exact YX k c m a2 a3 a4 a5 (k+22) _ _
  ·rw [if_neg (by decide),if_pos rfl]
   exact (abJ k c m a2 a3 a4 a5 (k+22) _ _).trans (ab3 k c m a2 a3 a4 a5 (k+21) _ _)
  ·rw [if_neg (by decide),if_neg (by decide),if_pos rfl]
   exact (ZW k c m a2 a3 a4 a5 (k+22) _ _).trans ((abV k c m a2 a3 a4 a5 (k+21) _ _).trans (Z8 k c m a2 a3 a4 a5 (k+20) _ _ w5.1 w5.2))
  ·rw [if_neg (by decide),if_neg (by decide),if_neg (by decide)]
   exact (abb k c m a2 a3 a4 a5 (k+22) _ _).trans ((abU k c m a2 a3 a4 a5 (k+21) _ _).trans ((aaX k c m a2 a3 a4 a5 (k+20) _ _).trans (aak k c m a2 a3 a4 a5 (k+19) _ _ hl)))
theorem JX (k:Nat):fb k c m f=some (Be c m f):=by
 unfold fb Be
 simp only [Prod.eta,JE c hm hl hf,NV c hm hl hf,Hs c hm hl hf,af,my]
 by_cases h0:f.1=0
 ·simp [h0]
 ·by_cases h1:f.1=1
  ·simp [h1]
  ·by_cases h2:f.1=2
   ·simp [h2]
   ·simp [h0,h1,h2,bM (b:=8) (l:=m) (by omega),af]
end
end Go.Ab
set_option maxRecDepth 100000
set_option linter.unusedVariables false
namespace Go.Ab
structure FwT (t:Tyt):Prop where
 len:t.length≤40
 kids:∀ x ∈ t,x.2.length≤40
theorem Z1 {t:Tyt} (h:YH t=true):FwT t:=by
 simp only [YH,Bool.and_eq_true,decide_eq_true_eq,List.all_eq_true] at h
 refine ⟨h.2,fun x hx=>h.1 x ?_⟩
 rwa [List.take_of_length_le (by omega)]
theorem FwT.wt {t:Tyt} (h:FwT t):Wt t:=⟨by have:=h.len;omega,fun x hx=>by have:=h.kids x hx;omega⟩
def oT (t:Tyt) (q:Int):Int×List Int:=(t[q.toNat]?).getD (0,[])
def Fv (t:Tyt) (x:Int×Int×Int):Bool:=
 decide (0≤x.1)&&decide (x.1<t.length)&&(decide (0≤x.2.1)&&decide (x.2.1≤(oT t x.1).1))&&(decide (0≤x.2.2)&&decide (x.2.2≤((oT t x.1).2.length:Int))) &&
  !(decide (x.2.1<(oT t x.1).1)&&decide (0<x.2.2))
def dr (t:Tyt) (s:Tye):Bool:=uE t&&s.all (Fv t)
theorem OB {t:Tyt} {q:Int} (h0:0≤q) (h1:q<t.length):idx t q=some (oT t q):=by
 rw [idx,if_pos h0,oT,List.getElem?_eq_getElem (by omega)]
 rfl
theorem Dx {t:Tyt} {q:Int} (h0:0≤q) (h1:q<t.length):oT t q ∈ t:=by
 rw [oT,List.getElem?_eq_getElem (show q.toNat<t.length by omega)]
 exact List.getElem_mem _
theorem MU {α:Type} (b:Nat) (l:List α) (h:l.length*b≤70368744177664):aO b l=some l:=by
 unfold aO
 rw [ahd,decide_eq_true h,cf]
theorem ZG (a b:Int):gb a b=some (decide (0≤a)&&decide (a≤b)):=by
 rw [gb]
 cases decide ((0:Int)≤a) <;> rfl
section
variable (k:Nat) (hk:9223372036854775808≤k)
include hk
theorem M4 (t:Tyt) (ht:Wt t) (s:Tye) (hs:s.length≤9223372036854775807):fX k t s=some (dr t s):=by
 have hlen:=ht.len
 rw [fX,JF k hk t ht,af,dr]
 cases hm:uE t with
 | false=>rfl
 | true=>
  have h30:=L3 hm
  rw [cond_true,JO (F:=fun n i=>bS k n s (s.length:Int) t i) (l:=s) (fun x => !Fv t x) ?_ ?_ _ (by omega),af,ua]
  ·rw [List.all_eq_not_any_not,Bool.true_and]
  ·intro n
   simp only [bS,AG,cond_false]
  ·intro n i x hi hx
   simp only [bS,ltN hi,cond_true,f6 hx,af,ZG]
   rw [gH (by omega),eL (z:=(t.length:Int) - 1) (by omega)]
   have e0:decide (x.1≤(t.length:Int) - 1)=decide (x.1<(t.length:Int)):=by
    by_cases h:x.1<(t.length:Int)
    ·rw [decide_eq_true h,decide_eq_true (by omega)]
    ·rw [decide_eq_false h,decide_eq_false (by omega)]
   rw [e0]
   unfold Fv
   by_cases h0:0≤x.1
   ·by_cases h1:x.1<(t.length:Int)
    ·rw [leT h0,ltT h1,OB h0 h1,af]
     simp only [Bool.and_self,Bool.not_true,cond_false,Bool.true_and]
     cases (decide (0≤x.2.1)&&decide (x.2.1≤(oT t x.1).1)) with
     | false=>rfl
     | true=>
      cases (decide (0≤x.2.2)&&decide (x.2.2≤((oT t x.1).2.length:Int))) with
      | false=>rfl
      | true=>
       cases decide (x.2.1<(oT t x.1).1) with
       | false=>rfl
       | true=>cases decide (0<x.2.2) <;> rfl
    ·rw [ltF (show (t.length:Int)≤x.1 by omega)]
     simp
   ·rw [leF (show x.1<0 by omega)]
    simp
end
def wQ (t:Tyt) (s:Tye):Int×Int:=
 match s.getLast? with
 | none=>(0,0)
 | some x=>if dr t s=false then (0,0) else if x.2.1<(oT t x.1).1 then (1,x.1) else if x.2.2<((oT t x.1).2.length:Int) then (2,((oT t x.1).2[x.2.2.toNat]?).getD 0) else (3,x.1)
def doB (t:Tyt) (s:Tye):Tye:=
 match s.getLast? with
 | none=>s
 | some x=>if dr t s=false then s else if x.2.1<(oT t x.1).1 then s.dropLast++[(x.1,x.2.1+1,x.2.2)] else if x.2.2<((oT t x.1).2.length:Int) then s.dropLast++[(x.1,x.2.1,x.2.2+1)] else s.dropLast
def pT (t:Tyt) (s:Tye) (q:Int):Tye:=
 if dr t s=true∧0≤q∧q<t.length then s++[(q,0,0)] else s
def NR (t:Tyt) (x:Int×Int×Int):Int:=(oT t x.1).1 - x.2.1+((oT t x.1).2.length:Int) - x.2.2+1
def KW (t:Tyt) (s:Tye):Int:=if dr t s=true then (s.map (NR t)).sum else 0
theorem nB {α:Type} (s:List α):s=[]∨∃ r x,s=r++[x]:=by
 rcases List.eq_nil_or_concat s with h | ⟨r,x,h⟩
 ·exact .inl h
 ·exact .inr ⟨r,x,by rw [h,List.concat_eq_append]⟩
theorem Jl {α:Type} (r:List α) (x:α):(((r++[x]).length:Nat):Int) - 1=(r.length:Int):=by simp
theorem Iy {α:Type} (r:List α) (x:α):(r++[x])[r.length]? = some x:=by simp
theorem Qz {α:Type} (r:List α) (x y:α):(r++[x]).set r.length y=r++[y]:=by simp
theorem L4 {α:Type} (r:List α) (x:α):(r++[x]).take r.length=r:=by simp
theorem BV (t:Tyt) (r:Tye) (x:Int×Int×Int):wQ t (r++[x])=if dr t (r++[x])=false then (0,0) else if x.2.1<(oT t x.1).1 then (1,x.1) else if x.2.2<((oT t x.1).2.length:Int) then (2,((oT t x.1).2[x.2.2.toNat]?).getD 0) else (3,x.1):=by
 simp [wQ]
theorem Cp (t:Tyt) (r:Tye) (x:Int×Int×Int):doB t (r++[x])=if dr t (r++[x])=false then r++[x] else if x.2.1<(oT t x.1).1 then r++[(x.1,x.2.1+1,x.2.2)] else if x.2.2<((oT t x.1).2.length:Int) then r++[(x.1,x.2.1,x.2.2+1)] else r:=by
 simp [doB]
theorem Va (t:Tyt) (s:Tye):(doB t s).length≤s.length:=by
 rcases nB s with rfl | ⟨r,x,rfl⟩
 ·simp [doB]
 ·rw [Cp]
  split
  ·exact Nat.le_refl _
  ·split
   ·simp
   ·split <;> simp
theorem K2 (t:Tyt) (s:Tye) (q:Int):(pT t s q).length≤s.length+1:=by
 unfold pT
 split <;> simp
structure It (t:Tyt) (x:Int×Int×Int):Prop where
 h0:0≤x.1
 h1:x.1<t.length
 d0:0≤x.2.1
 d1:x.2.1≤(oT t x.1).1
 c0:0≤x.2.2
 c1:x.2.2≤((oT t x.1).2.length:Int)
 z:x.2.1<(oT t x.1).1→x.2.2=0
theorem TG {t:Tyt} {x:Int×Int×Int}:Fv t x=true↔It t x:=by
 simp only [Fv,Bool.and_eq_true,decide_eq_true_eq,Bool.not_eq_true',Bool.and_eq_false_iff,decide_eq_false_iff_not]
 constructor
 ·rintro ⟨⟨⟨⟨a,b⟩,c,d⟩,e,f⟩,g⟩
  exact ⟨a,b,c,d,e,f,fun h=>by rcases g with g | g <;> omega⟩
 ·rintro ⟨a,b,c,d,e,f,g⟩
  refine ⟨⟨⟨⟨a,b⟩,c,d⟩,e,f⟩,?_⟩
  by_cases h:x.2.1<(oT t x.1).1
  ·exact .inr (by have:=g h;omega)
  ·exact .inl h
theorem gS {t:Tyt} {r:Tye} {x:Int×Int×Int}:dr t (r++[x])=true↔uE t=true∧(∀ y ∈ r,It t y)∧It t x:=by
 simp only [dr,Bool.and_eq_true,List.all_eq_true,List.mem_append,List.mem_singleton,TG]
 constructor
 ·rintro ⟨a,b⟩
  exact ⟨a,fun y hy=>b y (.inl hy),b x (.inr rfl)⟩
 ·rintro ⟨a,b,c⟩
  refine ⟨a,fun y hy => ?_⟩
  rcases hy with h | rfl
  ·exact b y h
  ·exact c
theorem lY {t:Tyt} {r:Tye}:dr t r=true↔uE t=true∧(∀ y ∈ r,It t y):=by
 simp only [dr,Bool.and_eq_true,List.all_eq_true,TG]
section
variable (k:Nat) (hk:9223372036854775808≤k)
include hk
theorem LB (t:Tyt) (ht:Wt t) (s:Tye) (hs:s.length≤1048576):dY k t s=some (wQ t s):=by
 rw [dY]
 rcases nB s with rfl | ⟨r,x,rfl⟩
 ·rfl
 ·have hr:r.length+1≤1048576:=by simpa using hs
  have e1:((((r++[x]).length:Nat):Int)==0)=false:=by simp;omega
  rw [e1,cond_false,M4 k hk t ht _ (by omega),af,BV]
  cases h:dr t (r++[x]) with
  | false=>rfl
  | true=>
   obtain ⟨hm,hr',hx⟩:=gS.1 h
   have hl:=ht.kids _ (Dx hx.h0 hx.h1)
   rw [Bool.not_true,cond_false,Jl,eL (by omega),f6 (Iy r x),af,OB hx.h0 hx.h1,af,if_neg (show ¬ (true=false) by simp)]
   by_cases h1:x.2.1<(oT t x.1).1
   ·rw [ltT h1,cond_true,if_pos h1]
   ·rw [ltF (by omega),cond_false,if_neg h1]
    by_cases h2:x.2.2<((oT t x.1).2.length:Int)
    ·have:=hx.c0
     rw [ltT h2,cond_true,if_pos h2,idx,if_pos hx.c0,List.getElem?_eq_getElem (by omega),af]
     rfl
    ·rw [ltF (by omega),cond_false,if_neg h2]
theorem agN (t:Tyt) (ht:Wt t) (s:Tye) (hs:s.length≤1048576):gg k t s=some (doB t s):=by
 rw [gg,MU _ _ (by omega),af,LB k hk t ht s hs,af]
 rcases nB s with rfl | ⟨r,x,rfl⟩
 ·rfl
 ·have hr:r.length+1≤1048576:=by simpa using hs
  rw [Jl,eL (by omega),BV,Cp,Int.toNat_natCast,Iy,L4]
  simp only [Qz,af]
  have e1:decide ((0:Int)≤(r.length:Int)∧r.length<(r++[x]).length)=true:=by simp
  have e2:decide ((0:Int)≤(r.length:Int)∧r.length≤(r++[x]).length)=true:=by simp
  have e3:decide (r.length≤(r++[x]).length)=true:=by simp
  rw [e1,e2,e3]
  cases h:dr t (r++[x]) with
  | false=>rfl
  | true=>
   obtain ⟨hm,hr',hx⟩:=gS.1 h
   have hw:=(T7 hm).work _ (Dx hx.h0 hx.h1)
   have hl:=ht.kids _ (Dx hx.h0 hx.h1)
   have:=hx.d0
   have:=hx.c0
   rw [if_neg (show ¬ (true=false) by simp),if_neg (show ¬ (true=false) by simp)]
   by_cases h1:x.2.1<(oT t x.1).1
   ·rw [if_pos h1,if_pos h1]
    simp only [beq_self_eq_true,cond_true]
    rw [eL (by omega)]
   ·rw [if_neg h1,if_neg h1]
    by_cases h2:x.2.2<((oT t x.1).2.length:Int)
    ·rw [if_pos h2,if_pos h2]
     simp only [Int.reduceBEq,cond_true,cond_false]
     rw [eL (by omega)]
    ·rw [if_neg h2,if_neg h2]
     rfl
theorem P4 (t:Tyt) (ht:Wt t) (s:Tye) (hs:s.length≤1048576) (q:Int):dF k t s q=some (pT t s q):=by
 have hlen:=ht.len
 rw [dF,MU _ _ (by omega),af,M4 k hk t ht s (by omega),af,pT]
 cases h:dr t s with
 | false=>simp
 | true=>
  have h30:=L3 (lY.1 h).1
  rw [Bool.not_true,cond_false,ZG,af,eL (by omega)]
  by_cases h0:0≤q
  ·by_cases h1:q<t.length
   ·have e2:room (s++[(q,(0:Int),(0:Int))]).length 24=true:=C2 (by simp;omega)
    rw [leT h0,leT (show q≤(t.length:Int) - 1 by omega),Bool.and_self,Bool.not_true,cond_false,e2,cond_true,if_pos ⟨rfl,h0,h1⟩]
   ·rw [leF (show (t.length:Int) - 1<q by omega),if_neg (by omega)]
    simp
  ·rw [leF (show q<0 by omega),if_neg (by omega)]
   simp
end
theorem ZF {t:Tyt} {q:Int} (hm:uE t=true) (h0:0≤q) (h1:q<t.length):It t (q,0,0):=
 ⟨h0,h1,by simp,((T7 hm).work _ (Dx h0 h1)).1,by simp,by simp,fun _=>rfl⟩
theorem Ao {t:Tyt} {r:Tye} {x:Int×Int×Int} (h:dr t (r++[x])=true):KW t (r++[x])=KW t r+NR t x:=by
 obtain ⟨a,b,c⟩:=gS.1 h
 rw [KW,if_pos h,KW,if_pos (lY.2 ⟨a,b⟩),List.map_append,List.sum_append]
 simp
theorem Pb {t:Tyt} {r:Tye} {x:Int×Int×Int} (h:dr t (r++[x])=true):dr t (doB t (r++[x]))=true∧KW t (doB t (r++[x]))=KW t (r++[x]) - 1:=by
 obtain ⟨a,b,c⟩:=gS.1 h
 obtain ⟨q0,q1,q2,q3,q4,q5,q6⟩:=c
 rw [Ao h,Cp,if_neg (by simp [h])]
 split
 ·rename_i h1
  have h2:dr t (r++[(x.1,x.2.1+1,x.2.2)])=true:=gS.2 ⟨a,b,⟨q0,q1,by simp only;omega,by simp only;omega,q4,q5,fun _=>q6 h1⟩⟩
  refine ⟨h2,?_⟩
  rw [Ao h2]
  unfold NR
  simp only
  omega
 ·rename_i h1
  split
  ·rename_i h3
   have h2:dr t (r++[(x.1,x.2.1,x.2.2+1)])=true:=gS.2 ⟨a,b,⟨q0,q1,q2,q3,by simp only;omega,by simp only;omega,fun h=>absurd h h1⟩⟩
   refine ⟨h2,?_⟩
   rw [Ao h2]
   unfold NR
   simp only
   omega
  ·rename_i h3
   refine ⟨lY.2 ⟨a,b⟩,?_⟩
   unfold NR
   omega
end Go.Ab
set_option linter.unusedVariables false
namespace Go.Ab
abbrev WB:=Int×Tye×FR×Int×Int
def BL (op w v:Int):FR:=(op,0,w,v,0,0,0)
def dm (c:CF) (t:Tyt) (m:List Int) (w:Int) (x:WB):Bool:=eM c&&decide ((m.length:Int)=cP c)&&uE t&&decide (0≤w∧w<c.1∧0≤x.1∧x.1<16)&&dr t x.2.1
def N8 (d w W:Int):Int:=if W<2∨w<0∨W≤w then -1 else (w+1+d%(W - 1))%W
def toW (pc:Int) (x:WB):WB:=(pc,x.2.1,ed,x.2.2.2)
def gV (pc op w v:Int) (x:WB):WB:=(pc,x.2.1,BL op w v,x.2.2.2)
def uJ:Int:=18446744073709551615
def OV (v:Int):Int:=IntKind.i64.wrap v
abbrev WR:=List Int×WB×List EV
def Eo (c:CF) (t:Tyt) (m:List Int) (w:Int) (x:WB):WR:=
 let r:=dq c m x.2.2.1
 if cr r.2=false then (r.1,(x.1,x.2.1,r.2,x.2.2.2),[])
 else if r.2.2.2.2.2.2.2≠1 then (r.1,toW 1 x,[])
 else (r.1,(9,pT t x.2.1 (OV r.2.2.2.2.1),ed,x.2.2.2),[(2,OV r.2.2.2.2.1,w)])
def oa (c:CF) (m:List Int) (w:Int) (x:WB):WR:=(aN m 1 (kr (aj m 1) 1),(2,x.2.1,BL 4 w 0,c.2.2.2,x.2.2.2.2),[])
def mw (c:CF) (m:List Int) (w:Int) (x:WB) (d:Int):WR:=
 let r:=dq c m x.2.2.1
 if cr r.2=false then (r.1,(x.1,x.2.1,r.2,x.2.2.2),[])
 else if r.2.2.2.2.2.2.2=1 then (r.1,(4,x.2.1,r.2,x.2.2.2),[])
 else if x.1=2∧0≤N8 d w c.1 then (r.1,gV 3 2 (N8 d w c.1) 0 x,[])
 else if x.2.2.2.1≤0 then (r.1,gV 5 5 w 0 x,[])
 else (r.1,(2,x.2.1,BL 4 w 0,x.2.2.2.1 - 1,x.2.2.2.2),[])
def ii (t:Tyt) (m:List Int) (w:Int) (x:WB):WR:=
 (aN m 1 (kr (aj m 1) uJ),(if aj m 1=1 then 14 else 9,pT t x.2.1 (OV x.2.2.1.2.2.2.1),if aj m 1=1 then BL 6 w 0 else ed,x.2.2.2),[(2,OV x.2.2.1.2.2.2.1,w)])
def mP (c:CF) (m:List Int) (x:WB):WR:=let r:=dq c m x.2.2.1;(r.1,(6,x.2.1,r.2,x.2.2.2),[])
def k7 (m:List Int) (x:WB):WR:=(aN m 1 (kr (aj m 1) uJ),(7,x.2.1,x.2.2.1,x.2.2.2.1,0),[])
def DY (f:FR) (v:Int):FR:=(f.1,f.2.1,f.2.2.1,v,f.2.2.2.2)
def bQ (c:CF) (m:List Int) (x:WB):WR:=
 let k:=x.2.2.2.2
 let most:=2+2*c.1
 let v:=(k - 2)/2
 if k<0∨most≤k then (m,(8,x.2.1,DY x.2.2.1 0,x.2.2.2.1,0),[])
 else
  let f:=if k=0 then DY x.2.2.1 (aj m 4) else if k=1 then x.2.2.1 else if k%2=0 then DY x.2.2.1 (aj m (mW c v)) else x.2.2.1
  let some:=if k=0 then false else if k=1 then decide (aj m 5≠f.2.2.2.1) else if k%2=0 then false else decide (0<nb (aj m (wF c v)) f.2.2.2.1)
  if some=true then (m,toW 1 x,[])
  else if k+1=most then (m,(8,x.2.1,DY f 0,x.2.2.2.1,0),[])
  else (m,(7,x.2.1,f,x.2.2.2.1,k+1),[])
def bV (c:CF) (m:List Int) (x:WB):WR:=let r:=dq c m x.2.2.1;if cr r.2=true then (r.1,toW 1 x,[]) else (r.1,(x.1,x.2.1,r.2,x.2.2.2),[])
def En (t:Tyt) (m:List Int) (w:Int) (x:WB):WR:=
 let a:=wQ t x.2.1
 if a.1=1 then (m,(x.1,doB t x.2.1,x.2.2),[]) else if a.1=2 then (m,(10,x.2),[]) else if a.1=3 then (m,(15,x.2),[]) else (m,gV 0 1 w 0 x,[])
def mX (t:Tyt) (m:List Int) (w:Int) (x:WB):WR:=
 let a:=wQ t x.2.1
 if a.1≠2 then (m,toW 9 x,[]) else (aN m 0 (kr (aj m 0) 1),(11,doB t x.2.1,BL 0 w (IntKind.u64.wrap a.2),x.2.2.2),[(3,a.2,w)])
def nn (c:CF) (m:List Int) (w:Int) (x:WB):WR:=
 let r:=dq c m x.2.2.1
 if cr r.2=false then (r.1,(x.1,x.2.1,r.2,x.2.2.2),[]) else if r.2.2.2.2.2.2.2=2 then (r.1,gV 12 3 w r.2.2.2.2.1 x,[]) else (r.1,toW 13 x,[])
def ng (c:CF) (t:Tyt) (m:List Int) (w:Int) (x:WB):WR:=
 let r:=dq c m x.2.2.1
 if cr r.2=false then (r.1,(x.1,x.2.1,r.2,x.2.2.2),[])
 else if r.2.2.2.2.2.2.2=2 then (r.1,(9,pT t x.2.1 (OV r.2.2.2.2.1),ed,x.2.2.2),[(2,OV r.2.2.2.2.1,w)]) else (r.1,toW 13 x,[])
def D1 (m:List Int) (w:Int) (x:WB):WR:=if aj m 1=0 then (m,gV 14 6 w 0 x,[]) else (m,toW 9 x,[])
def nr (c:CF) (m:List Int) (x:WB):WR:=let r:=dq c m x.2.2.1;if cr r.2=true then (r.1,toW 9 x,[]) else (r.1,(x.1,x.2.1,r.2,x.2.2.2),[])
def nt (t:Tyt) (m:List Int) (w:Int) (x:WB):WR:=
 let a:=wQ t x.2.1
 if a.1≠3 then (m,toW 9 x,[])
 else (aN m 0 (kr (aj m 0) uJ),(if doB t x.2.1=[] then (0,[],BL 1 w 0,x.2.2.2) else (9,doB t x.2.1,ed,x.2.2.2)),if aj m 0=1 then [(4,a.2,w),(5,0,w)] else [(4,a.2,w)])
def a9 (c:CF) (t:Tyt) (m:List Int) (w:Int) (x:WB) (d:Int):WR:=
 if dm c t m w x=false then (m,x,[])
 else if x.1=0 then Eo c t m w x else if x.1=1 then oa c m w x else if x.1=2∨x.1=3 then mw c m w x d else if x.1=4 then ii t m w x
 else if x.1=5 then mP c m x else if x.1=6 then k7 m x else if x.1=7 then bQ c m x else if x.1=8 then bV c m x
 else if x.1=9 then En t m w x else if x.1=10 then mX t m w x else if x.1=11 then nn c m w x else if x.1=12 then ng c t m w x
 else if x.1=13 then D1 m w x else if x.1=14 then nr c m x else nt t m w x
theorem ZI {d w W:Int} (hd:0≤d∧d≤18446744073709551615) (hW:W≤8):fo d w W=some (N8 d w W):=by
 unfold fo N8
 by_cases h2:W<2
 ·rw [ltT h2,cond_true,if_pos (.inl h2)]
 ·rw [ltF (by omega),cond_false]
  unfold cG
  by_cases h0:0≤w
  ·rw [leT h0,cond_true]
   by_cases h1:w<W
   ·rw [ltT h1,af,Bool.not_true,cond_false,if_neg (by omega),kQ (z:=W) (by omega) (by omega),kQ (z:=W - 1) (by omega) (by omega),kQ (z:=w) (by omega) (by omega),kQ (z:=w+1) (by omega) (by omega),D3,decide_eq_false (by omega),Bool.not_false,cond_true,D3,decide_eq_false (by omega),Bool.not_false,cond_true,Int.tmod_eq_emod_of_nonneg hd.1]
    have e1:=Int.emod_nonneg d (show W - 1≠0 by omega)
    have e2:=Int.emod_lt_of_pos d (show 0<W - 1 by omega)
    have e3:=Int.emod_nonneg (w+1+d%(W - 1)) (show W≠0 by omega)
    have e4:=Int.emod_lt_of_pos (w+1+d%(W - 1)) (show 0<W by omega)
    rw [kQ (by omega) (by omega),Int.tmod_eq_emod_of_nonneg (by omega),eL (by omega)]
   ·rw [ltF (by omega),af,Bool.not_false,cond_true,if_pos (by omega)]
  ·rw [leF (by omega),cond_false,af,Bool.not_false,cond_true,if_pos (by omega)]
theorem Ni {k:Nat} (hk:9223372036854775808≤k) (c:CF) {t:Tyt} (ht:Wt t) (m:List Int) (w:Int) (x:WB) (hs:x.2.1.length≤9000):iT k c t m w x=some (dm c t m w x):=by
 unfold iT dm
 simp only [Prod.eta,fJ,ud,af]
 rw [JF (k+4) (by omega) t ht,M4 (k+3) (by omega) t ht x.2.1 (by omega)]
 cases hm:eM c with
 | false=>rfl
 | true=>
  rw [cond_true,my,Bool.true_and]
  by_cases h1:(m.length:Int)=cP c
  ·rw [decide_eq_true h1,cond_true,Bool.true_and,af]
   cases ht2:uE t with
   | false=>rfl
   | true=>
    rw [cond_true,Bool.true_and]
    by_cases h2:0≤w
    ·rw [leT h2,cond_true]
     by_cases h3:w<c.1
     ·rw [ltT h3,cond_true]
      by_cases h4:0≤x.1
      ·rw [leT h4,cond_true]
       by_cases h5:x.1<16
       ·rw [ltT h5,cond_true,af,decide_eq_true ⟨h2,h3,h4,h5⟩,Bool.true_and]
       ·rw [ltF (by omega),cond_false,decide_eq_false (by omega)];rfl
      ·rw [leF (by omega),cond_false,decide_eq_false (by omega)];rfl
     ·rw [ltF (by omega),cond_false,decide_eq_false (by omega)];rfl
    ·rw [leF (by omega),cond_false,decide_eq_false (by omega)];rfl
  ·rw [decide_eq_false h1,cond_false]
   rfl
def eJ (x:WB):Bool:=decide (2≤x.1∧x.1≤6)
theorem WU (w:Int):nI w=some (0,[],BL 1 w 0,0,0):=rfl
end Go.Ab
set_option linter.unusedVariables false
set_option linter.unusedSimpArgs false
set_option maxRecDepth 100000
set_option maxHeartbeats 4000000
namespace Go.Ab
theorem b6 (op w v:Int):aJ op w v=some (BL op w v):=rfl
theorem FI:room 1 24=true:=rfl
theorem aac:room 2 24=true:=rfl
theorem uW {a b:Int} (h:a=b):(a==b)=true:=by simp [h]
theorem bK {a b:Int} (h:a≠b):(a==b)=false:=by simp [h]
theorem Kq (c:CF) (m:List Int) (f:FR):(Be c m f=dq c m f∧((f.1==0)=true∨(f.1==0)=false∧((f.1==1)=true∨(f.1==1)=false∧(f.1==2)=true)))∨(rk c m f=dq c m f∧(f.1==0)=false∧(f.1==1)=false∧(f.1==2)=false∧((f.1==3)=true∨(f.1==3)=false∧(f.1==4)=true))∨(A7 c m f=dq c m f∧(f.1==0)=false∧(f.1==1)=false∧(f.1==2)=false∧(f.1==3)=false∧(f.1==4)=false):=by
 unfold dq dX
 simp only [my,decide_eq_true_eq,decide_eq_false_iff_not]
 by_cases h:f.1=0∨f.1=1∨f.1=2
 ·rw [if_pos h];exact .inl ⟨rfl,by omega⟩
 ·rw [if_neg h]
  by_cases g:f.1=3∨f.1=4
  ·rw [if_pos g];exact .inr (.inl ⟨rfl,by omega⟩)
  ·rw [if_neg g];exact .inr (.inr ⟨rfl,by omega⟩)
section
variable {k:Nat} (hk:9223372036854779000≤k) (c:CF) {t:Tyt} (ht:Wt t) {m:List Int} (hm:Wm m) (hl:m.length≤1000) (w:Int) {x:WB} (hf:Wf x.2.2.1) (hs:x.2.1.length≤9000) (hsp:x.2.2.2.1≤9223372036854775807) {d:Int} (hd:0≤d∧d≤18446744073709551615)
include hk ht hm hl hf hs hsp hd
theorem XZ {β:Type} (K:List Int×FR→Option β):u2 k c m x.2.2.1 K=K (dq c m x.2.2.1):=by
 have _h:=And.intro hsp hd
 have _h2:=And.intro ht hs
 have hdk:=JX c hm hl hf (k+31)
 have hij:=D5 c hm hl hf
 have hev:=FJ (k:=k+40) (by omega) c hm hl hf
 unfold u2
 rcases Kq c m x.2.2.1 with ⟨h,e | ⟨e,e1 | e1⟩⟩ | ⟨h,e,e1,e2,e3 | e3⟩ | ⟨h,e⟩
 all_goals simp only [*,cond_true,cond_false,af]
theorem QD:gW k c t m w x d=some (a9 c t m w x d):=by
 have _h1:=hsp
 have _h2:=hd
 unfold gW
 try simp only [Prod.eta]
 rw [bM (by omega),af,bM (by omega),af,Ni (by omega) c ht m w x hs,af]
 cases hmay:dm c t m w x with
 | false=>
  unfold a9
  rw [hmay]
  rfl
 | true=>
  rw [Bool.not_true,cond_false]
  have hb:eM c=true∧(m.length:Int)=cP c∧0≤w∧w<c.1∧0≤x.1∧x.1<16:=by
   unfold dm at hmay
   simp only [Bool.and_eq_true,decide_eq_true_eq] at hmay
   exact ⟨hmay.1.1.1.1,hmay.1.1.1.2,hmay.1.2⟩
  obtain ⟨hmc,hlen,hw0,hw1,hp0,hp1⟩:=hb
  have hc:=aR hmc
  have hsz:=iL hmc
  have hadd:∀ i v:Int,0≤i→i<2→dv m i v=some (aN m i (kr (aj m i) v),aj m i):=fun i v h0 h1=>by rw [aaR hl,if_pos (by omega)]
  have hcg:=fun K=>XZ (k:=k) (β:=List Int×WB×List EV) hk c ht hm hl hf hs hsp hd K
  have hst:=fun q=>P4 (k+36) (by omega) t ht x.2.1 (by omega) q
  have hdo:=agN (k+36) (by omega) t ht x.2.1 (by omega)
  have hnx:=LB (k+37) (by omega) t ht x.2.1 (by omega)
  have hvi:=ZI (w:=w) (W:=c.1) hd (by omega)
  rcases (show x.1=0∨x.1=1∨x.1=2∨x.1=3∨x.1=4∨x.1=5∨x.1=6∨x.1=7∨x.1=8∨x.1=9∨x.1=10∨x.1=11∨x.1=12∨x.1=13∨x.1=14∨x.1=15 by omega) with hp | hp | hp | hp | hp | hp | hp | hp | hp | hp | hp | hp | hp | hp | hp | hp
  ·have hW:a9 c t m w x d=Eo c t m w x:=by unfold a9;rw [hmay];simp [hp]
   rw [hW]
   rw [uW hp,cond_true]
   unfold Eo
   rw [hcg]
   simp only [cond_true,cond_false,af,lX,Prod.eta,b6]
   generalize dq c m x.2.2.1=r
   cases ho:cr r.2 with
   | false=>simp [ho,hp]
   | true=>
    by_cases h9:r.2.2.2.2.2.2.2=1
    ·simp [ho,h9,hst,af,FI,ed,OV]
    ·have q9:(r.2.2.2.2.2.2.2 !=1)=true:=by simp [h9]
     simp [ho,h9,q9,toW,ed]
  ·have hW:a9 c t m w x d=oa c m w x:=by unfold a9;rw [hmay];simp [hp]
   rw [hW]
   rw [bK (show x.1≠0 by omega),cond_false,uW hp,cond_true]
   rw [hadd 1 1 (by decide) (by decide),af,b6,af]
   rfl
  ·have hW:a9 c t m w x d=mw c m w x d:=by unfold a9;rw [hmay];simp [hp]
   rw [hW]
   rw [bK (show x.1≠0 by omega),cond_false,bK (show x.1≠1 by omega),cond_false,uW hp,cond_true]
   rw [hvi,af]
   unfold mw
   rw [hcg]
   simp only [cond_true,cond_false,af,lX,Prod.eta,b6,uW hp]
   generalize dq c m x.2.2.1=r
   cases ho:cr r.2 with
   | false=>simp [ho,hp]
   | true=>
    by_cases h9:r.2.2.2.2.2.2.2=1
    ·simp [ho,h9]
    ·have q9:=bK h9
     by_cases h8:0≤N8 d w c.1
     ·simp [ho,h9,q9,hp,h8,gV]
     ·by_cases h7:x.2.2.2.1≤0
      ·simp [ho,h9,q9,hp,h8,h7,gV]
      ·rw [eL (z:=x.2.2.2.1 - 1) (by omega)]
       simp [ho,h9,q9,hp,h8,h7,gV]
  ·have hW:a9 c t m w x d=mw c m w x d:=by unfold a9;rw [hmay];simp [hp]
   rw [hW]
   rw [bK (show x.1≠0 by omega),cond_false,bK (show x.1≠1 by omega),cond_false,bK (show x.1≠2 by omega),cond_false,uW hp,cond_true]
   rw [hvi,af]
   unfold mw
   rw [hcg]
   simp only [cond_true,cond_false,af,lX,Prod.eta,b6,bK (show x.1≠2 by omega)]
   generalize dq c m x.2.2.1=r
   cases ho:cr r.2 with
   | false=>simp [ho,hp]
   | true=>
    by_cases h9:r.2.2.2.2.2.2.2=1
    ·simp [ho,h9]
    ·have q9:=bK h9
     by_cases h7:x.2.2.2.1≤0
     ·simp [ho,h9,q9,hp,h7,gV]
     ·rw [eL (z:=x.2.2.2.1 - 1) (by omega)]
      simp [ho,h9,q9,hp,h7,gV]
  ·have hW:a9 c t m w x d=ii t m w x:=by unfold a9;rw [hmay];simp [hp]
   rw [hW]
   rw [bK (show x.1≠0 by omega),cond_false,bK (show x.1≠1 by omega),cond_false,bK (show x.1≠2 by omega),cond_false,bK (show x.1≠3 by omega),cond_false,uW hp,cond_true]
   rw [hadd 1 _ (by decide) (by decide),af,b6,af,hst,af,af,FI,cond_true,cond_true,my]
   by_cases h9:aj m 1=1
   ·simp [ii,h9,uJ,OV]
   ·simp [ii,h9,uJ,OV,ed]
  ·have hW:a9 c t m w x d=mP c m x:=by unfold a9;rw [hmay];simp [hp]
   rw [hW]
   rw [bK (show x.1≠0 by omega),cond_false,bK (show x.1≠1 by omega),cond_false,bK (show x.1≠2 by omega),cond_false,bK (show x.1≠3 by omega),cond_false,bK (show x.1≠4 by omega),cond_false,uW hp,cond_true]
   unfold mP
   rw [hcg]
   simp only [cond_true,cond_false,af,lX,Prod.eta,b6]
  ·have hW:a9 c t m w x d=k7 m x:=by unfold a9;rw [hmay];simp [hp]
   rw [hW]
   rw [bK (show x.1≠0 by omega),cond_false,bK (show x.1≠1 by omega),cond_false,bK (show x.1≠2 by omega),cond_false,bK (show x.1≠3 by omega),cond_false,bK (show x.1≠4 by omega),cond_false,bK (show x.1≠5 by omega),cond_false,uW hp,cond_true]
   rw [hadd 1 _ (by decide) (by decide),af]
   rfl
  ·have hW:a9 c t m w x d=bQ c m x:=by unfold a9;rw [hmay];simp [hp]
   rw [hW]
   rw [bK (show x.1≠0 by omega),cond_false,bK (show x.1≠1 by omega),cond_false,bK (show x.1≠2 by omega),cond_false,bK (show x.1≠3 by omega),cond_false,bK (show x.1≠4 by omega),cond_false,bK (show x.1≠5 by omega),cond_false,bK (show x.1≠6 by omega),cond_false,uW hp,cond_true]
   have hM:IntKind.i64.wrap (2+IntKind.i64.wrap (2*c.1))=2+2*c.1:=by rw [eL (z:=2*c.1) (by omega),eL (by omega)]
   rw [hM]
   by_cases h1:x.2.2.2.2<0
   ·rw [ltT h1,cond_true]
    simp only [bQ,if_pos (show x.2.2.2.2<0∨2+2*c.1≤x.2.2.2.2 from .inl h1),DY]
   ·rw [ltF (by omega),cond_false]
    by_cases h2:2+2*c.1≤x.2.2.2.2
    ·rw [leT h2,cond_true]
     simp only [bQ,if_pos (show x.2.2.2.2<0∨2+2*c.1≤x.2.2.2.2 from .inr h2),DY]
    ·rw [leF (by omega),cond_false,eL (z:=x.2.2.2.2+1) (by omega)]
     have hn:¬ (x.2.2.2.2<0∨2+2*c.1≤x.2.2.2.2):=by omega
     by_cases e0:x.2.2.2.2=0
     ·rw [uW e0,cond_true,dD,af]
      by_cases h5:x.2.2.2.2+1=2+2*c.1
      ·rw [uW h5,cond_true]
       simp only [bQ,if_neg hn,if_pos e0,Bool.false_eq_true,if_false,if_pos h5,DY]
      ·rw [bK h5,cond_false]
       simp only [bQ,if_neg hn,if_pos e0,Bool.false_eq_true,if_false,if_neg h5,DY,hp]
     ·rw [bK e0,cond_false]
      by_cases e1:x.2.2.2.2=1
      ·rw [uW e1,cond_true,dD,af,D3]
       by_cases h9:aj m 5=x.2.2.1.2.2.2.1
       ·rw [decide_eq_true h9,Bool.not_true,cond_false]
        skip
        by_cases h5:x.2.2.2.2+1=2+2*c.1
        ·rw [uW h5,cond_true]
         simp only [bQ,if_neg hn,if_neg e0,if_pos e1,h9,ne_eq,not_true_eq_false,decide_false,Bool.false_eq_true,if_false,if_pos h5,DY]
        ·rw [bK h5,cond_false]
         simp only [bQ,if_neg hn,if_neg e0,if_pos e1,h9,ne_eq,not_true_eq_false,decide_false,Bool.false_eq_true,if_false,if_neg h5,DY,hp]
       ·rw [decide_eq_false h9,Bool.not_false,cond_true]
        simp only [bQ,if_neg hn,if_neg e0,if_pos e1,h9,ne_eq,not_false_eq_true,decide_true,if_true,toW,ed]
      ·rw [bK e1,cond_false,Int.tmod_eq_emod_of_nonneg (by omega),eL (z:=x.2.2.2.2 - 2) (by omega),Int.tdiv_eq_ediv_of_nonneg (by omega),eL (z:=(x.2.2.2.2 - 2)/2) (by omega)]
       by_cases e2:x.2.2.2.2%2=0
       ·rw [uW e2,cond_true,Ng,af,dD,af]
        skip
        by_cases h5:x.2.2.2.2+1=2+2*c.1
        ·rw [uW h5,cond_true]
         simp only [bQ,if_neg hn,if_neg e0,if_neg e1,if_pos e2,Bool.false_eq_true,if_false,if_pos h5,DY]
        ·rw [bK h5,cond_false]
         simp only [bQ,if_neg hn,if_neg e0,if_neg e1,if_pos e2,Bool.false_eq_true,if_false,if_neg h5,DY,hp]
       ·rw [bK e2,cond_false,KJ,af,dD,af,GX,af]
        by_cases h9:0<nb (aj m (wF c ((x.2.2.2.2 - 2)/2))) x.2.2.1.2.2.2.1
        ·rw [ltT h9,cond_true]
         simp only [bQ,if_neg hn,if_neg e0,if_neg e1,if_neg e2,h9,decide_true,if_true,toW,ed]
        ·rw [ltF (by omega),cond_false]
         skip
         by_cases h5:x.2.2.2.2+1=2+2*c.1
         ·rw [uW h5,cond_true]
          simp only [bQ,if_neg hn,if_neg e0,if_neg e1,if_neg e2,h9,decide_false,Bool.false_eq_true,if_false,if_pos h5,DY]
         ·rw [bK h5,cond_false]
          simp only [bQ,if_neg hn,if_neg e0,if_neg e1,if_neg e2,h9,decide_false,Bool.false_eq_true,if_false,if_neg h5,DY,hp]
  ·have hW:a9 c t m w x d=bV c m x:=by unfold a9;rw [hmay];simp [hp]
   rw [hW]
   rw [bK (show x.1≠0 by omega),cond_false,bK (show x.1≠1 by omega),cond_false,bK (show x.1≠2 by omega),cond_false,bK (show x.1≠3 by omega),cond_false,bK (show x.1≠4 by omega),cond_false,bK (show x.1≠5 by omega),cond_false,bK (show x.1≠6 by omega),cond_false,bK (show x.1≠7 by omega),cond_false,uW hp,cond_true]
   unfold bV
   rw [hcg]
   simp only [cond_true,cond_false,af,lX,Prod.eta,b6]
   generalize dq c m x.2.2.1=r
   cases ho:cr r.2 <;> simp [ho,hp,toW,ed]
  ·have hW:a9 c t m w x d=En t m w x:=by unfold a9;rw [hmay];simp [hp]
   rw [hW]
   rw [bK (show x.1≠0 by omega),cond_false,bK (show x.1≠1 by omega),cond_false,bK (show x.1≠2 by omega),cond_false,bK (show x.1≠3 by omega),cond_false,bK (show x.1≠4 by omega),cond_false,bK (show x.1≠5 by omega),cond_false,bK (show x.1≠6 by omega),cond_false,bK (show x.1≠7 by omega),cond_false,bK (show x.1≠8 by omega),cond_false,uW hp,cond_true]
   rw [hnx,af,my,my,my,hdo,af,b6,af]
   unfold En
   by_cases h1:(wQ t x.2.1).1=1
   ·simp [h1,hp]
   ·by_cases h2:(wQ t x.2.1).1=2
    ·simp [h2]
    ·by_cases h3:(wQ t x.2.1).1=3
     ·simp [h3]
     ·simp [h1,h2,h3,gV]
  ·have hW:a9 c t m w x d=mX t m w x:=by unfold a9;rw [hmay];simp [hp]
   rw [hW]
   rw [bK (show x.1≠0 by omega),cond_false,bK (show x.1≠1 by omega),cond_false,bK (show x.1≠2 by omega),cond_false,bK (show x.1≠3 by omega),cond_false,bK (show x.1≠4 by omega),cond_false,bK (show x.1≠5 by omega),cond_false,bK (show x.1≠6 by omega),cond_false,bK (show x.1≠7 by omega),cond_false,bK (show x.1≠8 by omega),cond_false,bK (show x.1≠9 by omega),cond_false,uW hp,cond_true]
   rw [hnx,af,D3,hadd 0 _ (by decide) (by decide),af,FI,cond_true,hdo,af,b6,af]
   unfold mX
   by_cases h2:(wQ t x.2.1).1=2
   ·simp [h2]
   ·simp [h2,toW,ed]
  ·have hW:a9 c t m w x d=nn c m w x:=by unfold a9;rw [hmay];simp [hp]
   rw [hW]
   rw [bK (show x.1≠0 by omega),cond_false,bK (show x.1≠1 by omega),cond_false,bK (show x.1≠2 by omega),cond_false,bK (show x.1≠3 by omega),cond_false,bK (show x.1≠4 by omega),cond_false,bK (show x.1≠5 by omega),cond_false,bK (show x.1≠6 by omega),cond_false,bK (show x.1≠7 by omega),cond_false,bK (show x.1≠8 by omega),cond_false,bK (show x.1≠9 by omega),cond_false,bK (show x.1≠10 by omega),cond_false,uW hp,cond_true]
   unfold nn
   rw [hcg]
   simp only [cond_true,cond_false,af,lX,Prod.eta,b6]
   generalize dq c m x.2.2.1=r
   cases ho:cr r.2 with
   | false=>simp [ho,hp]
   | true=>
    by_cases h9:r.2.2.2.2.2.2.2=2
    ·simp [ho,h9,gV]
    ·have q9:=bK h9
     simp [ho,h9,q9,toW,ed]
  ·have hW:a9 c t m w x d=ng c t m w x:=by unfold a9;rw [hmay];simp [hp]
   rw [hW]
   rw [bK (show x.1≠0 by omega),cond_false,bK (show x.1≠1 by omega),cond_false,bK (show x.1≠2 by omega),cond_false,bK (show x.1≠3 by omega),cond_false,bK (show x.1≠4 by omega),cond_false,bK (show x.1≠5 by omega),cond_false,bK (show x.1≠6 by omega),cond_false,bK (show x.1≠7 by omega),cond_false,bK (show x.1≠8 by omega),cond_false,bK (show x.1≠9 by omega),cond_false,bK (show x.1≠10 by omega),cond_false,bK (show x.1≠11 by omega),cond_false,uW hp,cond_true]
   unfold ng
   rw [hcg]
   simp only [cond_true,cond_false,af,lX,Prod.eta,b6]
   generalize dq c m x.2.2.1=r
   cases ho:cr r.2 with
   | false=>simp [ho,hp]
   | true=>
    by_cases h9:r.2.2.2.2.2.2.2=2
    ·simp [ho,h9,hst,af,FI,ed,OV]
    ·have q9:=bK h9
     simp [ho,h9,q9,toW,ed]
  ·have hW:a9 c t m w x d=D1 m w x:=by unfold a9;rw [hmay];simp [hp]
   rw [hW]
   rw [bK (show x.1≠0 by omega),cond_false,bK (show x.1≠1 by omega),cond_false,bK (show x.1≠2 by omega),cond_false,bK (show x.1≠3 by omega),cond_false,bK (show x.1≠4 by omega),cond_false,bK (show x.1≠5 by omega),cond_false,bK (show x.1≠6 by omega),cond_false,bK (show x.1≠7 by omega),cond_false,bK (show x.1≠8 by omega),cond_false,bK (show x.1≠9 by omega),cond_false,bK (show x.1≠10 by omega),cond_false,bK (show x.1≠11 by omega),cond_false,bK (show x.1≠12 by omega),cond_false,uW hp,cond_true]
   rw [dD,af,my,b6,af]
   by_cases h9:aj m 1=0
   ·simp [D1,h9,gV]
   ·simp [D1,h9,toW,ed]
  ·have hW:a9 c t m w x d=nr c m x:=by unfold a9;rw [hmay];simp [hp]
   rw [hW]
   rw [bK (show x.1≠0 by omega),cond_false,bK (show x.1≠1 by omega),cond_false,bK (show x.1≠2 by omega),cond_false,bK (show x.1≠3 by omega),cond_false,bK (show x.1≠4 by omega),cond_false,bK (show x.1≠5 by omega),cond_false,bK (show x.1≠6 by omega),cond_false,bK (show x.1≠7 by omega),cond_false,bK (show x.1≠8 by omega),cond_false,bK (show x.1≠9 by omega),cond_false,bK (show x.1≠10 by omega),cond_false,bK (show x.1≠11 by omega),cond_false,bK (show x.1≠12 by omega),cond_false,bK (show x.1≠13 by omega),cond_false,uW hp,cond_true]
   unfold nr
   rw [hcg]
   simp only [cond_true,cond_false,af,lX,Prod.eta,b6]
   generalize dq c m x.2.2.1=r
   cases ho:cr r.2 <;> simp [ho,hp,toW,ed]
  ·have hW:a9 c t m w x d=nt t m w x:=by unfold a9;rw [hmay];simp [hp]
   rw [hW]
   rw [bK (show x.1≠0 by omega),cond_false,bK (show x.1≠1 by omega),cond_false,bK (show x.1≠2 by omega),cond_false,bK (show x.1≠3 by omega),cond_false,bK (show x.1≠4 by omega),cond_false,bK (show x.1≠5 by omega),cond_false,bK (show x.1≠6 by omega),cond_false,bK (show x.1≠7 by omega),cond_false,bK (show x.1≠8 by omega),cond_false,bK (show x.1≠9 by omega),cond_false,bK (show x.1≠10 by omega),cond_false,bK (show x.1≠11 by omega),cond_false,bK (show x.1≠12 by omega),cond_false,bK (show x.1≠13 by omega),cond_false,bK (show x.1≠14 by omega),cond_false,uW hp,cond_true]
   simp only [hnx,af,D3,hadd 0 _ (by decide) (by decide),FI,aac,cond_true,hdo,b6,my]
   unfold nt
   by_cases h3:(wQ t x.2.1).1=3
   ·by_cases h1:aj m 0=1
    ·by_cases h2:doB t x.2.1=[]
     ·simp [h3,h1,h2,uJ]
     ·have h4:¬ (((doB t x.2.1).length:Int)=0):=by simp [h2]
      simp [h3,h1,h2,h4,uJ,ed]
    ·by_cases h2:doB t x.2.1=[]
     ·simp [h3,h1,h2,uJ]
     ·have h4:¬ (((doB t x.2.1).length:Int)=0):=by simp [h2]
      simp [h3,h1,h2,h4,uJ,ed]
   ·simp [h3,toW,ed]
end
end Go.Ab
set_option linter.unusedVariables false
namespace Go.Ab
theorem ff {c:CF} {t:Tyt} {m:List Int} {w:Int} {x:WB} {d:Int} {P:WR→Prop} (hs:dm c t m w x=false→P (m,x,[])) (p0:dm c t m w x=true→x.1=0→P (Eo c t m w x)) (p1:dm c t m w x=true→x.1=1→P (oa c m w x)) (p2:dm c t m w x=true→x.1=2∨x.1=3→P (mw c m w x d)) (p4:dm c t m w x=true→x.1=4→P (ii t m w x)) (p5:dm c t m w x=true→x.1=5→P (mP c m x)) (p6:dm c t m w x=true→x.1=6→P (k7 m x)) (p7:dm c t m w x=true→x.1=7→P (bQ c m x)) (p8:dm c t m w x=true→x.1=8→P (bV c m x)) (p9:dm c t m w x=true→x.1=9→P (En t m w x)) (p10:dm c t m w x=true→x.1=10→P (mX t m w x)) (p11:dm c t m w x=true→x.1=11→P (nn c m w x)) (p12:dm c t m w x=true→x.1=12→P (ng c t m w x)) (p13:dm c t m w x=true→x.1=13→P (D1 m w x)) (p14:dm c t m w x=true→x.1=14→P (nr c m x)) (p15:dm c t m w x=true→x.1=15→P (nt t m w x)):P (a9 c t m w x d):=by
 unfold a9
 by_cases hm:dm c t m w x=false
 ·rw [if_pos hm];exact hs hm
 rw [if_neg hm]
 have hm':dm c t m w x=true:=by simpa using hm
 have hb:0≤x.1∧x.1<16:=by
  unfold dm at hm'
  simp only [Bool.and_eq_true,decide_eq_true_eq] at hm'
  exact hm'.1.2.2.2
 by_cases e0:x.1=0
 ·rw [if_pos e0];exact p0 hm' e0
 rw [if_neg e0]
 by_cases e1:x.1=1
 ·rw [if_pos e1];exact p1 hm' e1
 rw [if_neg e1]
 by_cases e2:x.1=2∨x.1=3
 ·rw [if_pos e2];exact p2 hm' e2
 rw [if_neg e2]
 by_cases e4:x.1=4
 ·rw [if_pos e4];exact p4 hm' e4
 rw [if_neg e4]
 by_cases e5:x.1=5
 ·rw [if_pos e5];exact p5 hm' e5
 rw [if_neg e5]
 by_cases e6:x.1=6
 ·rw [if_pos e6];exact p6 hm' e6
 rw [if_neg e6]
 by_cases e7:x.1=7
 ·rw [if_pos e7];exact p7 hm' e7
 rw [if_neg e7]
 by_cases e8:x.1=8
 ·rw [if_pos e8];exact p8 hm' e8
 rw [if_neg e8]
 by_cases e9:x.1=9
 ·rw [if_pos e9];exact p9 hm' e9
 rw [if_neg e9]
 by_cases e10:x.1=10
 ·rw [if_pos e10];exact p10 hm' e10
 rw [if_neg e10]
 by_cases e11:x.1=11
 ·rw [if_pos e11];exact p11 hm' e11
 rw [if_neg e11]
 by_cases e12:x.1=12
 ·rw [if_pos e12];exact p12 hm' e12
 rw [if_neg e12]
 by_cases e13:x.1=13
 ·rw [if_pos e13];exact p13 hm' e13
 rw [if_neg e13]
 by_cases e14:x.1=14
 ·rw [if_pos e14];exact p14 hm' e14
 rw [if_neg e14]
 exact p15 hm' (by omega)
end Go.Ab
set_option linter.unusedVariables false
namespace Go.Ab
theorem Ra (c:CF) (m:List Int) (f:FR):One m (nK c m f).1:=by
 unfold nK
 repeat' split
 all_goals first | exact One.same m | exact One.store m _ _ | exact One.cas m _ _ _
theorem XF (c:CF) (m:List Int) (f:FR):One m (FQ c m f).1:=by
 unfold FQ
 repeat' split
 all_goals first | exact One.same m | exact One.store m _ _ | exact One.cas m _ _ _
theorem NN (c:CF) (m:List Int) (f:FR):One m (ie c m f).1:=by
 unfold ie
 dsimp only
 repeat' split
 all_goals first | exact One.same m | exact One.store m _ _ | exact One.cas m _ _ _
theorem Nf (c:CF) (m:List Int) (f:FR):One m (dq c m f).1:=by
 unfold dq Be
 repeat' split
 all_goals first | exact One.same m | exact Ra c m f | exact XF c m f | exact NN c m f | exact IF c m f
section
variable {c:CF} {t:Tyt} {m:List Int} {w:Int} {x:WB} {d:Int}
theorem HQ:One m (a9 c t m w x d).1:=by
 refine ff (P:=fun r=>One m r.1) (fun _=>One.same m) ?_ ?_ ?_ ?_ ?_ ?_ ?_ ?_ ?_ ?_ ?_ ?_ ?_ ?_ ?_
 all_goals intro _ _
 all_goals dsimp only [Eo,oa,mw,ii,mP,k7,bQ,bV,En,mX,nn,ng,D1,nr,nt]
 all_goals repeat' split
 all_goals (try dsimp only)
 all_goals first | exact One.same m | exact One.store m _ _ | exact Nf c m _
theorem Pp:(a9 c t m w x d).2.2.length≤2:=by
 refine ff (P:=fun r=>r.2.2.length≤2) (fun _=>Nat.zero_le _) ?_ ?_ ?_ ?_ ?_ ?_ ?_ ?_ ?_ ?_ ?_ ?_ ?_ ?_ ?_
 all_goals intro _ _
 all_goals dsimp only [Eo,oa,mw,ii,mP,k7,bQ,bV,En,mX,nn,ng,D1,nr,nt]
 all_goals repeat' split
 all_goals simp
theorem LV:(a9 c t m w x d).2.1.2.1.length≤x.2.1.length+1:=by
 have h1:=fun q=>K2 t x.2.1 q
 have h2:=Va t x.2.1
 refine ff (P:=fun r=>r.2.1.2.1.length≤x.2.1.length+1) (fun _=>Nat.le_succ _) ?_ ?_ ?_ ?_ ?_ ?_ ?_ ?_ ?_ ?_ ?_ ?_ ?_ ?_ ?_
 all_goals intro _ _
 all_goals dsimp only [Eo,oa,mw,ii,mP,k7,bQ,bV,En,mX,nn,ng,D1,nr,nt,toW,gV]
 all_goals repeat' split
 all_goals first | exact Nat.le_succ _ | exact h1 _ | (dsimp only;omega) | simp
theorem GU {s:Tye} (h:dr t s=true) (q:Int):dr t (pT t s q)=true:=by
 unfold pT
 split
 ·rename_i g
  have:=lY.1 h
  exact gS.2 ⟨this.1,this.2,ZF this.1 g.2.1 g.2.2⟩
 ·exact h
theorem XD {s:Tye} (h:dr t s=true):dr t (doB t s)=true:=by
 rcases nB s with rfl | ⟨r,y,rfl⟩
 ·exact h
 ·exact (Pb h).1
theorem fH (h:dm c t m w x=true):eM c=true∧(m.length:Int)=cP c∧uE t=true∧(0≤w∧w<c.1∧0≤x.1∧x.1<16)∧dr t x.2.1=true:=by
 unfold dm at h
 simp only [Bool.and_eq_true,decide_eq_true_eq] at h
 exact ⟨h.1.1.1.1,h.1.1.1.2,h.1.1.2,h.1.2,h.2⟩
theorem K6 (h1:eM c=true) (h2:(m.length:Int)=cP c) (h3:uE t=true) (h4:0≤w∧w<c.1∧0≤x.1∧x.1<16) (h5:dr t x.2.1=true):dm c t m w x=true:=by
 unfold dm
 rw [h1,h3,h5,decide_eq_true h2,decide_eq_true h4]
 rfl
theorem Qt (h:dm c t m w x=true):dm c t (a9 c t m w x d).1 w (a9 c t m w x d).2.1=true:=by
 obtain ⟨h1,h2,h3,h4,h5⟩:=fH h
 have hl:=(HQ (c:=c) (t:=t) (m:=m) (w:=w) (x:=x) (d:=d)).len
 have key:0≤(a9 c t m w x d).2.1.1∧(a9 c t m w x d).2.1.1<16∧dr t (a9 c t m w x d).2.1.2.1=true:=by
  have g1:=GU h5
  have g2:=XD h5
  have g3:dr t []=true:=lY.2 ⟨h3,fun y hy=>absurd hy (by simp)⟩
  refine ff (P:=fun r=>0≤r.2.1.1∧r.2.1.1<16∧dr t r.2.1.2.1=true) (fun _=>⟨h4.2.2.1,h4.2.2.2,h5⟩) ?_ ?_ ?_ ?_ ?_ ?_ ?_ ?_ ?_ ?_ ?_ ?_ ?_ ?_ ?_
  all_goals intro _ _
  all_goals dsimp only [Eo,oa,mw,ii,mP,k7,bQ,bV,En,mX,nn,ng,D1,nr,nt,toW,gV]
  all_goals repeat' split
  all_goals refine ⟨?_,?_,?_⟩
  all_goals (try dsimp only)
  all_goals first | omega | exact h5 | exact g1 _ | exact g2 | exact g3
 exact K6 h1 (by rw [hl];exact h2) h3 ⟨h4.1,h4.2.1,key.1,key.2.1⟩ key.2.2
end
end Go.Ab
set_option linter.unusedVariables false
namespace Go.Ab
section
variable {c:CF} {m:List Int} {f:FR} {j:Int} (hj:j=0∨j=1∨j=3)
include hj
theorem kV {w x:Int} (hx:0≤x):onW c w x≠j:=by
 unfold onW
 split
 ·rename_i h
  have hm:=aR h.1
  have:=dh h.1 h.2.1 (by omega)
  omega
 ·omega
theorem oj {w x:Int} (h0:0≤x) (h1:x≤18446744073709551615):o4 c w x≠j:=by
 unfold o4 onW
 split
 ·rename_i h
  have hm:=aR h.1
  have:=dh h.1 h.2.1 (by omega)
  have:=rZ h0 h1 (show 1≤c.2.1 by omega) (by omega)
  omega
 ·omega
theorem wd (x:Int):uq c x≠j:=by
 unfold uq
 split
 ·rename_i h
  have:=aR h
  have:=Int.emod_nonneg x (show c.2.2.1≠0 by omega)
  omega
 ·omega
theorem u3 (x:Int):H4 c x≠j:=by
 unfold H4
 split
 ·rename_i h
  have:=aR h
  have:=Int.emod_nonneg x (show c.2.2.1≠0 by omega)
  omega
 ·omega
theorem oL (w:Int):bY c w≠j:=by
 unfold bY
 split
 ·rename_i h
  have hm:=aR h.1
  have:=dh h.1 h.2.1 (by omega)
  omega
 ·omega
omit hj in
theorem ks {i v:Int} (h:i≠j):aj (aN m i v) j=aj m j:=aL v h
omit hj in
theorem kc {i o v:Int} (h:i≠j):aj (nZ m i o v).1 j=aj m j:=by
 unfold nZ
 split
 ·exact ks h
 ·rfl
section
variable (hf:Wf f)
include hf
theorem MY:aj (nK c m f).1 j=aj m j:=by
 have w4:=hf.2.1
 have _h:=hj
 unfold nK
 try dsimp only
 repeat' split
 all_goals first | rfl | exact ks (wd hj _) | exact ks (u3 hj _) | exact ks (oL hj _) | exact ks (kV hj (by decide)) | exact kc (kV hj (by decide)) | exact ks (oj hj w4.1 w4.2) | exact kc (show (2:Int)≠j by omega) | exact kc (show (4:Int)≠j by omega) | exact kc (show (5:Int)≠j by omega) | exact ks (show (2:Int)≠j by omega)
theorem Ps:aj (FQ c m f).1 j=aj m j:=by
 have w4:=hf.2.1
 have _h:=hj
 unfold FQ
 try dsimp only
 repeat' split
 all_goals first | rfl | exact ks (wd hj _) | exact ks (u3 hj _) | exact ks (oL hj _) | exact ks (kV hj (by decide)) | exact kc (kV hj (by decide)) | exact ks (oj hj w4.1 w4.2) | exact kc (show (2:Int)≠j by omega) | exact kc (show (4:Int)≠j by omega) | exact kc (show (5:Int)≠j by omega) | exact ks (show (2:Int)≠j by omega)
theorem KE:aj (ie c m f).1 j=aj m j:=by
 have w4:=hf.2.1
 have _h:=hj
 unfold ie
 try dsimp only
 repeat' split
 all_goals first | rfl | exact ks (wd hj _) | exact ks (u3 hj _) | exact ks (oL hj _) | exact ks (kV hj (by decide)) | exact kc (kV hj (by decide)) | exact ks (oj hj w4.1 w4.2) | exact kc (show (2:Int)≠j by omega) | exact kc (show (4:Int)≠j by omega) | exact kc (show (5:Int)≠j by omega) | exact ks (show (2:Int)≠j by omega)
theorem Jr:aj (pf c m f).1 j=aj m j:=by
 have w4:=hf.2.1
 have _h:=hj
 unfold pf
 try dsimp only
 repeat' split
 all_goals first | rfl | exact ks (wd hj _) | exact ks (u3 hj _) | exact ks (oL hj _) | exact ks (kV hj (by decide)) | exact kc (kV hj (by decide)) | exact ks (oj hj w4.1 w4.2) | exact kc (show (2:Int)≠j by omega) | exact kc (show (4:Int)≠j by omega) | exact kc (show (5:Int)≠j by omega) | exact ks (show (2:Int)≠j by omega)
theorem Ib:aj (F1 c m f).1 j=aj m j:=by
 have w4:=hf.2.1
 have _h:=hj
 unfold F1
 try dsimp only
 repeat' split
 all_goals first | rfl | exact ks (wd hj _) | exact ks (u3 hj _) | exact ks (oL hj _) | exact ks (kV hj (by decide)) | exact kc (kV hj (by decide)) | exact ks (oj hj w4.1 w4.2) | exact kc (show (2:Int)≠j by omega) | exact kc (show (4:Int)≠j by omega) | exact kc (show (5:Int)≠j by omega) | exact ks (show (2:Int)≠j by omega)
theorem EG:aj (eD c m f).1 j=aj m j:=by
 have w4:=hf.2.1
 have _h:=hj
 unfold eD
 try dsimp only
 repeat' split
 all_goals first | rfl | exact ks (wd hj _) | exact ks (u3 hj _) | exact ks (oL hj _) | exact ks (kV hj (by decide)) | exact kc (kV hj (by decide)) | exact ks (oj hj w4.1 w4.2) | exact kc (show (2:Int)≠j by omega) | exact kc (show (4:Int)≠j by omega) | exact kc (show (5:Int)≠j by omega) | exact ks (show (2:Int)≠j by omega)
theorem E6:aj (dt c m f).1 j=aj m j:=by
 have w4:=hf.2.1
 have _h:=hj
 unfold dt A6
 try dsimp only
 repeat' split
 all_goals first | rfl | exact ks (wd hj _) | exact ks (u3 hj _) | exact ks (oL hj _) | exact ks (kV hj (by decide)) | exact kc (kV hj (by decide)) | exact ks (oj hj w4.1 w4.2) | exact kc (show (2:Int)≠j by omega) | exact kc (show (4:Int)≠j by omega) | exact kc (show (5:Int)≠j by omega) | exact ks (show (2:Int)≠j by omega)
theorem J0:aj (dq c m f).1 j=aj m j:=by
 unfold dq Be dX rk A7
 repeat' split
 all_goals first | with_reducible rfl | with_reducible exact MY hj hf | with_reducible exact Ps hj hf | with_reducible exact KE hj hf | with_reducible exact Jr hj hf | with_reducible exact Ib hj hf | with_reducible exact EG hj hf | with_reducible exact E6 hj hf
end
end
def J6 (a b:Bool) (s:Int):Int:=if a=b then s else if a=true then IntKind.u64.wrap (s+1) else IntKind.u64.wrap (s - 1)
theorem PZ (s:Int):kr s uJ=IntKind.u64.wrap (s - 1):=by
 rw [m9]
 unfold kr uJ
 omega
theorem agk (s:Int):kr s 1=IntKind.u64.wrap (s+1):=by
 rw [m9]
 rfl
theorem pb {x:WB} (h:x.1<2∨6<x.1):eJ x=false:=decide_eq_false (by omega)
theorem oY {x:WB} (h:2≤x.1∧x.1≤6):eJ x=true:=decide_eq_true h
section
variable {c:CF} {t:Tyt} {m:List Int} {w:Int} {x:WB} {d:Int}
theorem Mc (hm:Wm m) (hl:2≤m.length) (hf:Wf x.2.2.1):aj (a9 c t m w x d).1 1=J6 (eJ (a9 c t m w x d).2.1) (eJ x) (aj m 1):=by
 have hk:=J0 (c:=c) (m:=m) (f:=x.2.2.1) (j:=1) (by decide) hf
 have hs:∀ v,aj (aN m 1 v) 1=v:=fun v=>ga v (by decide) (by omega)
 have h0:∀ v,aj (aN m 0 v) 1=aj m 1:=fun v=>ks (by decide)
 have eq:∀ {y:WB} {s:Int},eJ y=eJ x→s=J6 (eJ y) (eJ x) s:=fun h=>by unfold J6;rw [if_pos h]
 have low:∀ {y:WB},y.1<2∨6<y.1→(x.1<2∨6<x.1)→eJ y=eJ x:=fun h g=>by rw [pb h,pb g]
 have hig:∀ {y:WB},2≤y.1∧y.1≤6→(2≤x.1∧x.1≤6)→eJ y=eJ x:=fun h g=>by rw [oY h,oY g]
 have dn:∀ {y:WB},y.1<2∨6<y.1→(2≤x.1∧x.1≤6)→kr (aj m 1) uJ=J6 (eJ y) (eJ x) (aj m 1):=fun h g=>by rw [pb h,oY g,PZ];rfl
 refine ff (P:=fun r=>aj r.1 1=J6 (eJ r.2.1) (eJ x) (aj m 1)) (fun _=>eq rfl) ?_ ?_ ?_ ?_ ?_ ?_ ?_ ?_ ?_ ?_ ?_ ?_ ?_ ?_ ?_
 all_goals intro _ hp
 ·unfold Eo
  dsimp only
  repeat' split
  all_goals (dsimp only;rw [hk];exact eq (low (by first | omega | (dsimp only [toW];omega)) (by omega)))
 ·unfold oa
  dsimp only
  rw [hs,pb (x:=x) (by omega),oY (by dsimp only;omega),agk]
  rfl
 ·unfold mw
  dsimp only
  repeat' split
  all_goals (dsimp only;rw [hk];exact eq (hig (by first | omega | (dsimp only [gV];omega)) (by omega)))
 ·unfold ii
  dsimp only
  rw [hs]
  refine dn ?_ (by omega)
  dsimp only
  split <;> omega
 ·unfold mP
  dsimp only
  rw [hk]
  exact eq (hig (by dsimp only;omega) (by omega))
 ·unfold k7
  dsimp only
  rw [hs]
  exact dn (by dsimp only;omega) (by omega)
 ·unfold bQ
  dsimp only
  repeat' split
  all_goals (dsimp only;exact eq (low (by first | omega | (dsimp only [toW];omega)) (by omega)))
 ·unfold bV
  dsimp only
  split
  all_goals (dsimp only;rw [hk];exact eq (low (by first | omega | (dsimp only [toW];omega)) (by omega)))
 ·unfold En
  dsimp only
  repeat' split
  all_goals (dsimp only;exact eq (low (by first | omega | (dsimp only [gV];omega)) (by omega)))
 ·unfold mX
  dsimp only
  split
  ·exact eq (low (by dsimp only [toW];omega) (by omega))
  ·dsimp only
   rw [h0]
   exact eq (low (by dsimp only;omega) (by omega))
 ·unfold nn
  dsimp only
  repeat' split
  all_goals (dsimp only;rw [hk];exact eq (low (by first | omega | (dsimp only [toW,gV];omega)) (by omega)))
 ·unfold ng
  dsimp only
  repeat' split
  all_goals (dsimp only;rw [hk];exact eq (low (by first | omega | (dsimp only [toW];omega)) (by omega)))
 ·unfold D1
  split
  all_goals (dsimp only;exact eq (low (by first | omega | (dsimp only [toW,gV];omega)) (by omega)))
 ·unfold nr
  dsimp only
  split
  all_goals (dsimp only;rw [hk];exact eq (low (by first | omega | (dsimp only [toW];omega)) (by omega)))
 ·unfold nt
  dsimp only
  split
  ·exact eq (low (by dsimp only [toW];omega) (by omega))
  ·dsimp only
   rw [h0]
   refine eq (low ?_ (by omega))
   split <;> (dsimp only;omega)
end
end Go.Ab
set_option linter.unusedVariables false
namespace Go.Ab
theorem ID {c:CF} {m:List Int} {f:FR} (hm:Wm m) (hf:Wf f):Wm (dt c m f).1∧Wf (dt c m f).2∧(dt c m f).1.length=m.length:=by
 have hr:=cD hm 2
 obtain ⟨w3,w4,w5⟩:=hf
 have hk4:=wz w4.1
 have hk5:=wz w5.1
 have hc5:=NF hk5.1 hk5.2
 unfold dt
 split
 ·exact ⟨hm,⟨w3,w4,w5⟩,rfl⟩
 ·split
  ·exact ⟨hm,⟨w3,hr,w5⟩,rfl⟩
  ·split
   ·split
    ·refine ⟨hm.set 2 ?_ ?_,?_,(by simp only [];exact kv)⟩
     ·split
      ·exact (pq _ _).1
      ·exact (pq _ _).1
     ·split
      ·exact (pq _ _).2
      ·exact (pq _ _).2
     ·have hl:=L0 (mkB f.2.2.2.2.1)
      simp only []
      by_cases hz:mkB f.2.2.2.2.1=0
      ·rw [if_pos hz]
       exact ⟨by simp [er],by simp [er],by simp [er]⟩
      ·rw [if_neg hz]
       refine ⟨w3,w4,?_⟩
       simp only
       split
       ·split <;> omega
       ·omega
    ·exact ⟨hm,⟨w3,w4,w5⟩,rfl⟩
   ·split
    ·exact ⟨hm.set _ (by decide) (by decide),⟨w5,by simp [er],by simp [er]⟩,(by simp only [];exact kv)⟩
    ·refine ⟨hm.set _ (by decide) (by decide),?_,(by simp only [];exact kv)⟩
     split
     ·exact ⟨by simp [er];omega,by simp [er],by simp [er]⟩
     ·exact ⟨w3,w4,by simp only;omega⟩
theorem VX {c:CF} {m:List Int} {f:FR} (hm:Wm m) (hf:Wf f):Wm (eD c m f).1∧Wf (eD c m f).2:=by
 have hr:=cD hm 2
 obtain ⟨w3,w4,w5⟩:=hf
 have hs:=X0 (w:=f.2.2.1) w5.1 w5.2
 unfold eD
 dsimp only
 split
 ·exact ⟨hm,w3,w4,w5⟩
 ·split
  ·exact ⟨hm,w3,hr,w5⟩
  ·split
   ·split
    ·exact ⟨hm,w3,w4,hr⟩
    ·exact ⟨hm,by simp [er,Wf]⟩
   ·split
    ·exact ⟨hm.cas _ _ hs.1 hs.2,w3,w4,w5⟩
    ·split
     ·exact ⟨hm,w3,w4,cD hm _⟩
     ·exact ⟨hm.set _ (by decide) (by decide),by simp [er,Wf]⟩
theorem abm {c:CF} {m:List Int} {f:FR} (hm:Wm m) (hf:Wf f):Wm (pf c m f).1∧Wf (pf c m f).2:=by
 obtain ⟨w3,w4,w5⟩:=hf
 have ha:=gk f.2.2.2.2.1 1
 have hb:=gk (EJ c f.2.2.2.2.1) 1
 unfold pf
 dsimp only
 split
 ·exact ⟨hm,w3,w4,w5⟩
 ·split
  ·exact ⟨hm,w3,cD hm 5,w5⟩
  ·split
   ·split
    ·exact ⟨hm,w3,w4,cD hm _⟩
    ·split
     ·exact ⟨hm,w3,by simp [er],by simp [er]⟩
     ·exact ⟨hm,w3,w4,cD hm _⟩
   ·split
    ·exact ⟨hm.cas _ _ ha.1 ha.2,w3,w4,w5⟩
    ·split
     ·exact ⟨hm.set _ w3.1 w3.2,w3,w4,w5⟩
     ·exact ⟨hm.set _ hb.1 hb.2,w3,by simp [er],by simp [er]⟩
theorem Ze {c:CF} {m:List Int} {f:FR} (hm:Wm m) (hf:Wf f):Wm (F1 c m f).1∧Wf (F1 c m f).2:=by
 obtain ⟨w3,w4,w5⟩:=hf
 have ha:=gk f.2.2.2.2.1 1
 have hb:=gk (Fc c f.2.2.2.2.1) 1
 unfold F1
 dsimp only
 split
 ·exact ⟨hm,w3,w4,w5⟩
 ·split
  ·exact ⟨hm,w3,cD hm 4,w5⟩
  ·split
   ·split
    ·exact ⟨hm,w3,w4,cD hm _⟩
    ·split
     ·exact ⟨hm,by simp [er],by simp [er],by simp [er]⟩
     ·exact ⟨hm,w3,w4,cD hm _⟩
   ·split
    ·exact ⟨hm.cas _ _ ha.1 ha.2,w3,w4,w5⟩
    ·split
     ·exact ⟨hm,cD hm _,w4,w5⟩
     ·exact ⟨hm.set _ hb.1 hb.2,w3,by simp [er],by simp [er]⟩
theorem ON {c:CF} {m:List Int} {f:FR} (hm:Wm m) (hf:Wf f):Wm (dX c m f).1∧Wf (dX c m f).2:=by
 unfold dX rk A7
 repeat' split
 all_goals first | exact abm hm hf | exact Ze hm hf | exact VX hm hf | exact ⟨(ID hm hf).1,(ID hm hf).2.1⟩ | exact ⟨hm,hf⟩
theorem Uf {c:CF} {t:Tyt} {m:List Int} {i:Int} {x:SB} (hm:Wm m) (hf:Wf x.2.2) (ht:t.length≤1000):Wm (iD c t m i x).1∧Wf (iD c t m i x).2.1.2.2:=by
 have hc:=ON (c:=c) hm hf
 have hz:Wf ed:=by simp [Wf,ed]
 have h1:=gk (aj m 0) 1
 have h2:=gk (aj m 0) 18446744073709551615
 cases hmay:oR c t m x with
 | false=>
  have e:iD c t m i x=(m,x,[]):=by unfold iD;rw [hmay,if_pos rfl]
  rw [e]
  exact ⟨hm,hf⟩
 | true=>
  obtain ⟨_,_,_,_,_,r,rest,hx,h6,h7⟩:=ot hmay
  have hh:wu x.2.1=r:=by rw [hx];rfl
  unfold iD
  rw [hmay,if_neg (by simp),hh]
  dsimp only
  have h3:Wf (3,0,i,r,0,0,0):=⟨⟨h6,by simp only;omega⟩,by simp,by simp⟩
  have h4:Wf (6,0,i,0,0,0,0):=by simp [Wf]
  repeat' split
  all_goals first | exact ⟨hm,hf⟩ | exact ⟨hm,hz⟩ | exact ⟨hm,h4⟩ | exact ⟨hm.set 0 h1.1 h1.2,h3⟩ | exact hc | exact ⟨hc.1,hz⟩ | exact ⟨hm.set 0 h2.1 h2.2,hz⟩
end Go.Ab
set_option linter.unusedVariables false
namespace Go.Ab
abbrev PB:=CF×Tyt×List Int×List WB×List SB
abbrev PK:=Int×Int×Int
def wN (t:Tyt) (x:SB):Bool:=decide (0≤x.1∧x.1<6)&&x.2.1.all (fun r=>decide (0≤r∧r<t.length))&&(decide (x.1=0)||decide (x.2.1≠[]))
def E3 (c:CF) (t:Tyt) (m:List Int):Nat→List WB→Bool
 | _,[]=>true
 | i,x::l=>dm c t m i x&&E3 c t m (i+1) l
def gI (p:PB):Bool:=eM p.1&&decide ((p.2.2.2.1.length:Int)=p.1.1∧p.2.2.2.2.length≤3)&&E3 p.1 p.2.1 p.2.2.1 0 p.2.2.2.1&&p.2.2.2.2.all (wN p.2.1)
def uI (k:PK) (w s:Int):Bool:=decide (k.1=0∧0≤k.2.1∧k.2.1<w∨k.1=1∧0≤k.2.1∧k.2.1<s∨k.1=2∨k.1=3)
def gi (p:PB) (k:PK):PB×List EV:=
 if k.1=0 then match p.2.2.2.1[k.2.1.toNat]? with
  | some x=>((p.1,p.2.1,(a9 p.1 p.2.1 p.2.2.1 k.2.1 x k.2.2).1,p.2.2.2.1.set k.2.1.toNat (a9 p.1 p.2.1 p.2.2.1 k.2.1 x k.2.2).2.1,p.2.2.2.2),(a9 p.1 p.2.1 p.2.2.1 k.2.1 x k.2.2).2.2)
  | none=>(p,[])
 else if k.1=1 then match p.2.2.2.2[k.2.1.toNat]? with
  | some x=>if oR p.1 p.2.1 p.2.2.1 x=true then ((p.1,p.2.1,(iD p.1 p.2.1 p.2.2.1 k.2.1 x).1,p.2.2.2.1,p.2.2.2.2.set k.2.1.toNat (iD p.1 p.2.1 p.2.2.1 k.2.1 x).2.1),(iD p.1 p.2.1 p.2.2.1 k.2.1 x).2.2) else (p,[])
  | none=>(p,[])
 else if k.1=2 then ((p.1,p.2.1,aN p.2.2.1 3 1,p.2.2.2.1,p.2.2.2.2),[])
 else (p,[])
def mJ (p:PB):List PK→PB×List EV
 | []=>(p,[])
 | k::l=>if uI k p.1.1 p.2.2.2.2.length=true then ((mJ (gi p k).1 l).1,(gi p k).2++(mJ (gi p k).1 l).2) else mJ p l
def ade (p:PB) (l:List PK):PB×List EV:=if gI p=true then mJ p l else (p,[])
theorem VO {c:CF} {m:List Int} {f:FR} (hm:Wm m) (hf:Wf f):Wm (nK c m f).1∧Wf (nK c m f).2:=by
 have hl:=fun i=>cD hm i
 obtain ⟨w3,w4,w5⟩:=hf
 have ha:=gk f.2.2.2.2.1 1
 unfold nK
 repeat' split
 ·exact ⟨hm,w3,w4,w5⟩
 ·exact ⟨hm,w3,hl _,w5⟩
 ·exact ⟨hm,w3,by simp [er],by simp [er]⟩
 ·exact ⟨hm,w3,w4,hl _⟩
 ·exact ⟨hm.set _ w3.1 w3.2,w3,w4,w5⟩
 ·exact ⟨hm.set _ ha.1 ha.2,w3,by simp [er],by simp [er]⟩
theorem ab2 {c:CF} {m:List Int} {f:FR} (hm:Wm m) (hf:Wf f):Wm (FQ c m f).1∧Wf (FQ c m f).2:=by
 have hl:=fun i=>cD hm i
 obtain ⟨w3,w4,w5⟩:=hf
 have ha:=gk f.2.2.2.2.1 1
 have hb:=gk f.2.2.2.2.2.1 1
 have hs:=fun a b=>QZ a b
 unfold FQ
 dsimp only
 split
 ·exact ⟨hm,w3,w4,w5⟩
 split
 ·exact ⟨hm,w3,hs _ _,w5⟩
 split
 ·exact ⟨hm.set _ w4.1 w4.2,w3,w4,w5⟩
 split
 ·exact ⟨hm,w3,w4,hl _⟩
 split
 ·split
  ·exact ⟨hm,hl _,by simp [er],by simp [er]⟩
  ·exact ⟨hm,hl _,w4,w5⟩
 split
 ·exact ⟨hm.cas _ _ hb.1 hb.2,w3,w4,w5⟩
 split
 ·exact ⟨hm.set _ ha.1 ha.2,w3,by simp [er],by simp [er]⟩
 ·exact ⟨hm.set _ ha.1 ha.2,by simp [er],by simp [er],by simp [er]⟩
theorem QA {c:CF} {m:List Int} {f:FR} (hm:Wm m) (hf:Wf f):Wm (ie c m f).1∧Wf (ie c m f).2:=by
 have hl:=fun i=>cD hm i
 obtain ⟨w3,w4,w5⟩:=hf
 have hb:=gk f.2.2.2.2.2.1 1
 unfold ie
 dsimp only
 split
 ·exact ⟨hm,w3,w4,w5⟩
 split
 ·exact ⟨hm,w3,w4,hl _⟩
 split
 ·split
  ·exact ⟨hm,by simp [er],by simp [er],by simp [er]⟩
  ·exact ⟨hm,w3,hl _,w5⟩
 split
 ·exact ⟨hm,hl _,w4,w5⟩
 split
 ·exact ⟨hm.cas _ _ hb.1 hb.2,w3,by simp [er],by simp [er]⟩
 ·exact ⟨hm.cas _ _ hb.1 hb.2,by simp [er],by simp [er],by simp [er]⟩
theorem Ij {c:CF} {m:List Int} {f:FR} (hm:Wm m) (hf:Wf f):Wm (dq c m f).1∧Wf (dq c m f).2:=by
 unfold dq Be
 split
 ·split
  ·exact VO hm hf
  ·split
   ·exact ab2 hm hf
   ·split
    ·exact QA hm hf
    ·exact ⟨hm,hf⟩
 ·exact ON hm hf
structure WOk (n:Nat) (x:WB):Prop where
 f:Wf x.2.2.1
 s:x.2.1.length≤n
 sp:x.2.2.2.1≤9223372036854775807
structure SOk (x:SB):Prop where
 f:Wf x.2.2
 s:x.2.1.length≤1000
theorem Hv (a:Int):0≤IntKind.u64.wrap a∧IntKind.u64.wrap a≤18446744073709551615:=by
 rw [m9]
 omega
section
variable {c:CF} {t:Tyt} {m:List Int} {w:Int} {x:WB} {d:Int} {n:Nat}
theorem Uq (hm:Wm m) (hf:Wf x.2.2.1):Wm (a9 c t m w x d).1:=by
 have h1:=(Ij (c:=c) hm hf).1
 have h2:=fun a b=>gk a b
 refine ff (P:=fun r=>Wm r.1) (fun _=>hm) ?_ ?_ ?_ ?_ ?_ ?_ ?_ ?_ ?_ ?_ ?_ ?_ ?_ ?_ ?_
 all_goals intro _ _
 all_goals dsimp only [Eo,oa,mw,ii,mP,k7,bQ,bV,En,mX,nn,ng,D1,nr,nt]
 all_goals repeat' split
 all_goals (try dsimp only)
 all_goals first | exact hm | exact h1 | exact hm.set _ (h2 _ _).1 (h2 _ _).2
theorem UJ (hm:Wm m) (hf:Wf x.2.2.1):Wf (a9 c t m w x d).2.1.2.2.1:=by
 have h1:=(Ij (c:=c) hm hf).2
 have h2:=fun i=>cD hm i
 have h3:=fun a=>Hv a
 have z:Wf ed:=by simp [Wf,ed]
 have zr:(0:Int)≤0∧(0:Int)≤18446744073709551615:=by decide
 have b:∀ op w,Wf (BL op w 0):=fun op w=>by simp [Wf,BL]
 have b2:∀ op w v,0≤v∧v≤18446744073709551615→Wf (BL op w v):=fun op w v h=>⟨h,by simp [BL],by simp [BL]⟩
 obtain ⟨w3,w4,w5⟩:=hf
 refine ff (P:=fun r=>Wf r.2.1.2.2.1) (fun _=>⟨w3,w4,w5⟩) ?_ ?_ ?_ ?_ ?_ ?_ ?_ ?_ ?_ ?_ ?_ ?_ ?_ ?_ ?_
 all_goals intro _ _
 all_goals dsimp only [Eo,oa,mw,ii,mP,k7,bQ,bV,En,mX,nn,ng,D1,nr,nt,toW,gV,DY]
 all_goals repeat' split
 all_goals (try dsimp only)
 all_goals first | exact h1 | exact z | exact b _ _ | exact b2 _ _ _ (h3 _) | exact b2 _ _ _ h1.1 | exact ⟨w3,w4,w5⟩ | exact ⟨h2 _,w4,w5⟩ | exact ⟨h2 4,w4,w5⟩ | exact ⟨zr,w4,w5⟩
theorem V0 (hc:eM c=true) (hs:x.2.2.2.1≤9223372036854775807):(a9 c t m w x d).2.1.2.2.2.1≤9223372036854775807:=by
 have h4:=aR hc
 refine ff (P:=fun r=>r.2.1.2.2.2.1≤9223372036854775807) (fun _=>hs) ?_ ?_ ?_ ?_ ?_ ?_ ?_ ?_ ?_ ?_ ?_ ?_ ?_ ?_ ?_
 all_goals intro _ _
 all_goals dsimp only [Eo,oa,mw,ii,mP,k7,bQ,bV,En,mX,nn,ng,D1,nr,nt,toW,gV]
 all_goals repeat' split
 all_goals (try dsimp only)
 all_goals omega
theorem W4 (hc:eM c=true) (hm:Wm m) (h:WOk n x):WOk (n+1) (a9 c t m w x d).2.1:=
 ⟨UJ hm h.f,by have:=LV (c:=c) (t:=t) (m:=m) (w:=w) (x:=x) (d:=d);have:=h.s;omega,V0 hc h.sp⟩
end
section
variable {c:CF} {t:Tyt} {m:List Int} {i:Int} {x:SB}
theorem P2:One m (iD c t m i x).1:=by
 unfold iD
 dsimp only
 repeat' split
 all_goals first | exact One.same m | exact One.store m _ _ | (dsimp only;exact One.store m _ _) | exact IF c m _
theorem O4:(iD c t m i x).1.length=m.length:=P2.len
theorem rV:(iD c t m i x).2.1.2.1=x.2.1∨(iD c t m i x).2.1.2.1=x.2.1.tail∧(iD c t m i x).2.1.1=0:=by
 unfold iD
 dsimp only
 repeat' split
 all_goals first | exact .inl rfl | exact .inr ⟨rfl,rfl⟩
theorem QN:(iD c t m i x).2.2.length≤2:=by
 unfold iD
 dsimp only
 repeat' split
 all_goals simp
theorem aaK (h:0≤x.1∧x.1<6):0≤(iD c t m i x).2.1.1∧(iD c t m i x).2.1.1<6:=by
 unfold iD
 dsimp only
 repeat' split
 all_goals (try dsimp only)
 all_goals omega
theorem Vk (h:wN t x=true) (hm:oR c t m x=true):wN t (iD c t m i x).2.1=true:=by
 unfold wN at h ⊢
 simp only [Bool.and_eq_true,decide_eq_true_eq,List.all_eq_true,Bool.or_eq_true] at h ⊢
 obtain ⟨_,_,_,h4,h5,r,rest,hx,h6,h7⟩:=ot hm
 refine ⟨⟨aaK h.1.1,fun y hy => ?_⟩,?_⟩
 ·rcases rV (c:=c) (t:=t) (m:=m) (i:=i) (x:=x) with e | e
  ·rw [e] at hy;exact h.1.2 y hy
  ·rw [e.1] at hy;exact h.1.2 y (List.mem_of_mem_tail hy)
 ·rcases rV (c:=c) (t:=t) (m:=m) (i:=i) (x:=x) with e | e
  ·refine .inr ?_
   rw [e,hx]
   simp
  ·exact .inl e.2
theorem abK (hm:Wm m) (ht:t.length≤1000) (h:SOk x):SOk (iD c t m i x).2.1:=by
 refine ⟨(Uf hm h.f ht).2,?_⟩
 have:=h.s
 rcases rV (c:=c) (t:=t) (m:=m) (i:=i) (x:=x) with e | e
 ·rw [e];exact h.s
 ·rw [e.1,List.length_tail];omega
end
structure Good (n:Nat) (p:PB):Prop where
 t:FwT p.2.1
 tl:p.2.1.length≤1000
 m:Wm p.2.2.1
 w:∀ x ∈ p.2.2.2.1,WOk n x
 s:∀ x ∈ p.2.2.2.2,SOk x
theorem AI {c:CF} {t:Tyt} {m:List Int}:∀ {l:List WB} {i:Nat},E3 c t m i l=true↔∀ (j:Nat) x,l[j]? = some x→dm c t m ((i+j:Nat):Int) x=true
 | [],i=>by simp [E3]
 | y::l,i=>by
  rw [E3,Bool.and_eq_true,AI (l:=l)]
  constructor
  ·intro h j x hx
   cases j with
   | zero=>cases hx;exact h.1
   | succ j=>
    have:=h.2 j x hx
    rw [show i+(j+1)=i+1+j by omega]
    exact this
  ·intro h
   refine ⟨h 0 y rfl,fun j x hx => ?_⟩
   have:=h (j+1) x hx
   rw [show i+1+j=i+(j+1) by omega]
   exact this
theorem wZ {c:CF} {t:Tyt} {m m':List Int} {w:Int} {x:WB} (h:m'.length=m.length):dm c t m' w x=dm c t m w x:=by
 unfold dm
 rw [h]
theorem nf {p:PB} (h:gI p=true):eM p.1=true∧(p.2.2.2.1.length:Int)=p.1.1∧p.2.2.2.2.length≤3∧(∀ (j:Nat) x,p.2.2.2.1[j]? = some x→dm p.1 p.2.1 p.2.2.1 (j:Int) x=true)∧(∀ x ∈ p.2.2.2.2,wN p.2.1 x=true):=by
 unfold gI at h
 simp only [Bool.and_eq_true,decide_eq_true_eq,List.all_eq_true] at h
 refine ⟨h.1.1.1,h.1.1.2.1,h.1.1.2.2,fun j x hx => ?_,h.2⟩
 have:=AI.1 h.1.2 j x hx
 rw [Nat.zero_add] at this
 exact this
theorem Dc {p:PB} (h1:eM p.1=true) (h2:(p.2.2.2.1.length:Int)=p.1.1) (h3:p.2.2.2.2.length≤3) (h4:∀ (j:Nat) x,p.2.2.2.1[j]? = some x→dm p.1 p.2.1 p.2.2.1 (j:Int) x=true) (h5:∀ x ∈ p.2.2.2.2,wN p.2.1 x=true):gI p=true:=by
 unfold gI
 simp only [Bool.and_eq_true,decide_eq_true_eq,List.all_eq_true]
 refine ⟨⟨⟨h1,h2,h3⟩,AI.2 fun j x hx => ?_⟩,h5⟩
 rw [Nat.zero_add]
 exact h4 j x hx
theorem wL {α:Type} {l:List α} {i:Nat} {y x:α} (h:x ∈ l.set i y):x ∈ l∨x=y:=by
 rcases List.mem_or_eq_of_mem_set h with h | h
 ·exact .inl h
 ·exact .inr h
theorem mt {p:PB} {k:PK} {P:PB×List EV→Prop} (h0:P (p,[]))
  (hw:∀ x,p.2.2.2.1[k.2.1.toNat]? = some x→k.1=0→P ((p.1,p.2.1,(a9 p.1 p.2.1 p.2.2.1 k.2.1 x k.2.2).1,p.2.2.2.1.set k.2.1.toNat (a9 p.1 p.2.1 p.2.2.1 k.2.1 x k.2.2).2.1,p.2.2.2.2),(a9 p.1 p.2.1 p.2.2.1 k.2.1 x k.2.2).2.2))
  (hs:∀ x,p.2.2.2.2[k.2.1.toNat]? = some x→oR p.1 p.2.1 p.2.2.1 x=true→P ((p.1,p.2.1,(iD p.1 p.2.1 p.2.2.1 k.2.1 x).1,p.2.2.2.1,p.2.2.2.2.set k.2.1.toNat (iD p.1 p.2.1 p.2.2.1 k.2.1 x).2.1),(iD p.1 p.2.1 p.2.2.1 k.2.1 x).2.2))
  (hc:P ((p.1,p.2.1,aN p.2.2.1 3 1,p.2.2.2.1,p.2.2.2.2),[])):P (gi p k):=by
 unfold gi
 split
 ·rename_i e
  split
  ·rename_i x hx;exact hw x hx e
  ·exact h0
 ·split
  ·split
   ·rename_i x hx
    split
    ·rename_i hm;exact hs x hx hm
    ·exact h0
   ·exact h0
  ·split
   ·exact hc
   ·exact h0
theorem MG {p:PB} {k:PK}:(gi p k).1.1=p.1∧(gi p k).1.2.1=p.2.1∧(gi p k).1.2.2.2.1.length=p.2.2.2.1.length∧(gi p k).1.2.2.2.2.length=p.2.2.2.2.length:=by
 refine mt (P:=fun r=>r.1.1=p.1∧r.1.2.1=p.2.1∧r.1.2.2.2.1.length=p.2.2.2.1.length∧r.1.2.2.2.2.length=p.2.2.2.2.length) ⟨rfl,rfl,rfl,rfl⟩ (fun x _ _=>⟨rfl,rfl,List.length_set,rfl⟩) (fun x _ _=>⟨rfl,rfl,rfl,List.length_set⟩) ⟨rfl,rfl,rfl,rfl⟩
theorem QH {p:PB} {k:PK}:(gi p k).2.length≤2:=
 mt (P:=fun r=>r.2.length≤2) (Nat.zero_le _) (fun x _ _=>Pp) (fun x _ _=>QN) (Nat.zero_le _)
theorem Fp {n:Nat} {p:PB} {k:PK} (h:Good n p) (hc:eM p.1=true):Good (n+1) (gi p k).1:=by
 have up:∀ x ∈ p.2.2.2.1,WOk (n+1) x:=fun x hx=>⟨(h.w x hx).f,Nat.le_succ_of_le (h.w x hx).s,(h.w x hx).sp⟩
 refine mt (P:=fun r=>Good (n+1) r.1) ⟨h.t,h.tl,h.m,up,h.s⟩ (fun x hx _ => ?_) (fun x hx _ => ?_) ⟨h.t,h.tl,show Wm (aN p.2.2.1 3 1) from h.m.set 3 (by decide) (by decide),up,h.s⟩
 ·have hx':=h.w x (List.mem_of_getElem? hx)
  refine ⟨h.t,h.tl,Uq h.m hx'.f,fun y hy => ?_,h.s⟩
  rcases wL hy with hy | rfl
  ·exact up y hy
  ·exact W4 hc h.m hx'
 ·have hx':=h.s x (List.mem_of_getElem? hx)
  refine ⟨h.t,h.tl,(Uf h.m hx'.f h.tl).1,up,fun y hy => ?_⟩
  rcases wL hy with hy | rfl
  ·exact h.s y hy
  ·exact abK h.m h.tl hx'
theorem CZ {p:PB} {k:PK} (h:gI p=true) (hk:uI k p.1.1 p.2.2.2.2.length=true):gI (gi p k).1=true:=by
 obtain ⟨h1,h2,h3,h4,h5⟩:=nf h
 refine mt (P:=fun r=>gI r.1=true) h (fun x hx hk0 => ?_) (fun x hx hm => ?_) ?_
 ·have h0:0≤k.2.1:=by
   unfold uI at hk
   rw [decide_eq_true_eq] at hk
   omega
  have hkk:((k.2.1.toNat:Nat):Int)=k.2.1:=by omega
  refine Dc h1 (by dsimp only;rw [List.length_set];exact h2) h3 (fun j y hy => ?_) h5
  dsimp only at hy ⊢
  rw [List.getElem?_set] at hy
  split at hy
  ·rename_i e
   split at hy
   ·cases hy
    subst e
    rw [hkk]
    have:=h4 _ x hx
    rw [hkk] at this
    exact Qt this
   ·cases hy
  ·rw [wZ HQ.len]
   exact h4 j y hy
 ·refine Dc h1 h2 (by dsimp only;rw [List.length_set];exact h3) (fun j y hy => ?_) fun y hy => ?_
  ·dsimp only
   rw [wZ O4]
   exact h4 j y hy
  ·rcases wL hy with hy | rfl
   ·exact h5 y hy
   ·exact Vk (h5 x (List.mem_of_getElem? hx)) hm
 ·refine Dc h1 h2 h3 (fun j y hy => ?_) h5
  dsimp only
  rw [wZ kv]
  exact h4 j y hy
theorem GL {P:PB→Prop} (hs:∀ p k,gI p=true→uI k p.1.1 p.2.2.2.2.length=true→P p→P (gi p k).1):∀ {l:List PK} {p:PB},gI p=true→P p→P (mJ p l).1∧gI (mJ p l).1=true
 | [],p,h,hp=>⟨hp,h⟩
 | k::l,p,h,hp=>by
  rw [mJ]
  split
  ·rename_i hk
   exact GL hs (CZ h hk) (hs p k h hk hp)
  ·exact GL hs h hp
theorem DG:∀ {l j:List PK} {p:PB},mJ p (l++j)=((mJ (mJ p l).1 j).1,(mJ p l).2++(mJ (mJ p l).1 j).2)
 | [],j,p=>by simp [mJ]
 | k::l,j,p=>by
  rw [List.cons_append,mJ,mJ]
  split
  ·rw [DG]
   simp only [List.append_assoc]
  ·exact DG
end Go.Ab
set_option linter.unusedVariables false
set_option linter.unusedSimpArgs false
namespace Go.Ab
theorem VV (n w:Int):cG n w=some (decide (0≤n∧n<w)):=by
 unfold cG
 by_cases h0:0≤n
 ·rw [leT h0,cond_true]
  by_cases h1:n<w
  ·rw [ltT h1,decide_eq_true ⟨h0,h1⟩]
  ·rw [ltF (by omega),decide_eq_false (by omega)]
 ·rw [leF (by omega),cond_false,decide_eq_false (by omega)]
theorem Vf (k:PK) (w s:Int):gQ k w s=some (uI k w s):=by
 unfold gQ uI
 simp only [VV,af,my]
 by_cases h0:k.1=0
 ·by_cases hb:0≤k.2.1∧k.2.1<w
  ·simp [h0,hb]
  ·simp [h0,hb]
 ·by_cases h1:k.1=1
  ·by_cases hb:0≤k.2.1∧k.2.1<s
   ·simp [h1,hb]
   ·simp [h1,hb]
  ·by_cases h2:k.1=2
   ·simp [h2]
   ·simp [h0,h1,h2]
theorem uP {α:Type}:∀ {l:List α} {i:Nat} {x:α},l[i]? = some x→l.set i x=l
 | [],_,_,h=>by cases h
 | a::l,0,x,h=>by cases h;rfl
 | a::l,i+1,x,h=>by rw [List.set_cons_succ,uP (l:=l) (by simpa using h)]
theorem aet {i n:Nat} (h:i<n):decide ((0:Int)≤(i:Int)∧(i:Int).toNat<n)=true:=decide_eq_true ⟨by omega,by omega⟩
theorem Mr (k:Nat) (hk:1000≤k) {t:Tyt} (ht:FwT t):dz k t=some t:=by
 have hl:=ht.len
 unfold dz
 rw [bM (by omega),af]
 have key:∀ (r:Tyt) (q n:Nat),t.drop q=r→q≤t.length→r.length<n→dk k t n t (t.length:Int) (q:Int) t=some t:=by
  intro r
  induction r with
  | nil=>
   intro q n hr hq hn
   obtain ⟨n,rfl⟩:=ir hn
   have:=dN hr
   rw [dk,ltF (by omega),cond_false,decide_eq_true (Nat.le_refl _),cf,List.take_length]
  | cons v r ih=>
   intro q n hr hq hn
   obtain ⟨n,rfl⟩:=ir hn
   obtain ⟨h0,h1,h2,_,h4⟩:=cU hr
   have hv:=ht.kids v (List.mem_of_getElem? h1)
   rw [dk,ltN h0,cond_true,aet h0,cond_true,Int.toNat_natCast,h1,af,bM (by omega),af,cond_true,af,gH (by omega),uP h1]
   exact ih (q+1) n h2 (by omega) (by simp only [List.length_cons] at hn;omega)
 have:=key t 0 (k+1) rfl (Nat.zero_le _) (by omega)
 simpa using this
theorem aeU (k n:Nat) {t:Tyt} {l:List Int} (hl:l.length≤1000) (hn:l.length<n):cp k n l (l.length:Int) t 0=some (If (fun r => !decide (0≤r∧r<(t.length:Int))) l 0):=by
 refine JO (F:=fun n i=>cp k n l (l.length:Int) t i) (l:=l) _ ?_ ?_ n hn
 ·intro n
  simp only [cp,AG,cond_false]
 ·intro n i x hi hx
  simp only [cp,ltN hi,cond_true,f6 hx,af]
  rw [gH (by omega)]
  by_cases h0:x<0
  ·rw [ltT h0,cond_true,decide_eq_false (by omega)]
   rfl
  ·rw [ltF (by omega),cond_false]
   by_cases h1:(t.length:Int)≤x
   ·rw [leT h1,cond_true,decide_eq_false (by omega)]
    rfl
   ·rw [leF (by omega),cond_false,decide_eq_true (by omega)]
    rfl
theorem acK (k n:Nat) (hk:1000≤k) {t:Tyt} {S:List SB} (hS:S.length≤1000) (hr:∀ x ∈ S,x.2.1.length≤1000) (hn:S.length<n):bP k n S (S.length:Int) t 0=some (If (fun x => !wN t x) S 0):=by
 refine JO (F:=fun n i=>bP k n S (S.length:Int) t i) (l:=S) _ ?_ ?_ n hn
 ·intro n
  simp only [bP,AG,cond_false]
 ·intro n i x hi hx
  have hx':=hr x (List.mem_of_getElem? hx)
  have ho:=aeU k (k+29) (t:=t) hx' (by omega)
  simp only [bP,ltN hi,cond_true,f6 hx,af,ho,ua]
  rw [gH (by omega)]
  have e:wN t x=(decide (0≤x.1∧x.1<6) && !(x.2.1.any fun r => !decide (0≤r∧r<(t.length:Int)))&&(decide (x.1=0)||decide (x.2.1≠[]))):=by
   unfold wN
   rw [List.all_eq_not_any_not]
  rw [e,D3,my]
  by_cases h0:x.1<0
  ·rw [ltT h0,cond_true,decide_eq_false (show ¬ (0≤x.1∧x.1<6) by omega)]
   rfl
  ·rw [ltF (by omega),cond_false]
   by_cases h6:6≤x.1
   ·rw [leT h6,cond_true,decide_eq_false (show ¬ (0≤x.1∧x.1<6) by omega)]
    rfl
   ·rw [leF (by omega),cond_false,decide_eq_true (show 0≤x.1∧x.1<6 by omega)]
    cases (x.2.1.any fun r => !decide (0≤r∧r<(t.length:Int))) with
    | true=>rfl
    | false=>
     rw [cond_false]
     by_cases hz:x.1=0
     ·rw [decide_eq_true hz]
      rfl
     ·rw [decide_eq_false hz,Bool.not_false,cond_true]
      by_cases hn:x.2.1=[]
      ·rw [hn]
       rfl
      ·have hl:¬ ((x.2.1.length:Int)=0):=by
        intro h
        exact hn (List.length_eq_zero_iff.1 (by omega))
       rw [decide_eq_false hl,decide_eq_true hn]
       rfl
section
variable {k:Nat} (hk:9223372036854779000≤k) {p:PB} (ht:Wt p.2.1) (hw:∀ x ∈ p.2.2.2.1,x.2.1.length≤9000) (hs:∀ x ∈ p.2.2.2.2,x.2.1.length≤1000)
include hk ht hw hs
theorem HY:du k p=some (gI p):=by
 unfold du gI
 simp only [Prod.eta,fJ,af]
 cases hm:eM p.1 with
 | false=>rfl
 | true=>
  have hc:=aR hm
  rw [Bool.not_true,cond_false,Bool.true_and,D3]
  by_cases h1:(p.2.2.2.1.length:Int)=p.1.1
  ·rw [decide_eq_true h1,Bool.not_true,cond_false]
   by_cases h3:(3:Int)<p.2.2.2.2.length
   ·rw [ltT h3,cond_true,decide_eq_false (by omega)]
    rfl
   ·rw [ltF (by omega),cond_false,decide_eq_true ⟨h1,by omega⟩,Bool.true_and]
    have key:∀ (r:List WB) (q n:Nat),p.2.2.2.1.drop q=r→q≤p.2.2.2.1.length→r.length<n→eh k p n (q:Int)=some (E3 p.1 p.2.1 p.2.2.1 q r&&p.2.2.2.2.all (wN p.2.1)):=by
     intro r
     induction r with
     | nil=>
      intro q n hr hq hn
      obtain ⟨n,rfl⟩:=ir hn
      have:=dN hr
      rw [eh,ltF (by omega),cond_false,acK k (k+32) (by omega) (by omega) hs (by omega),af,ua,E3,Bool.true_and,List.all_eq_not_any_not]
     | cons v r ih=>
      intro q n hr hq hn
      obtain ⟨n,rfl⟩:=ir hn
      obtain ⟨h0,h1',h2,_,h4⟩:=cU hr
      have hv:=hw v (List.mem_of_getElem? h1')
      rw [eh,ltN h0,cond_true,f6 h1',af]
      try simp only [Prod.eta]
      rw [Ni (by omega) p.1 ht p.2.2.1 (q:Int) v hv,af,E3,gH (by omega),ih (q+1) n h2 (by omega) (by simp only [List.length_cons] at hn;omega)]
      cases dm p.1 p.2.1 p.2.2.1 (q:Int) v <;> rfl
    have:=key p.2.2.2.1 0 (k+33) rfl (Nat.zero_le _) (by omega)
    simpa using this
  ·rw [decide_eq_false h1,Bool.not_false,cond_true,decide_eq_false (fun h=>h1 h.1)]
   rfl
end
theorem Ot (k:Nat) (c1 c2 c3 c4:Int) (t:Tyt) (m:List Int) (W:List WB) {S:List SB} (hS:S.length≤1000) (hr:∀ x ∈ S,x.2.1.length≤1000):∀ (r:List SB) (q n:Nat),S.drop q=r→q≤S.length→r.length<n →
  cQ k n c1 c2 c3 c4 t m W S (S.length:Int) W (q:Int) S=some (c1,c2,c3,c4,t,m,W,S,W,S):=by
 intro r
 induction r with
 | nil=>
  intro q n hr hq hn
  obtain ⟨n,rfl⟩:=ir hn
  have:=dN hr
  rw [cQ,ltF (by omega),cond_false]
 | cons v r ih=>
  intro q n hr' hq hn
  obtain ⟨n,rfl⟩:=ir hn
  obtain ⟨h0,h1,h2,_,h4⟩:=cU hr'
  have hv:=hr v (List.mem_of_getElem? h1)
  rw [cQ,ltN h0,cond_true,aet h0,cond_true,Int.toNat_natCast,h1,af,bM (by omega),af,cond_true,af,gH (by omega)]
  try simp only [Prod.eta]
  rw [uP h1]
  exact ih (q+1) n h2 (by omega) (by simp only [List.length_cons] at hn;omega)
theorem Pa (k:Nat) (hk:1000≤k) (c1 c2 c3 c4:Int) (t:Tyt) (m:List Int) {W:List WB} {S:List SB} (hW:W.length≤1000) (hw:∀ x ∈ W,x.2.1.length≤9000) (hS:S.length≤1000) (hs:∀ x ∈ S,x.2.1.length≤1000):∀ (r:List WB) (q n:Nat),W.drop q=r→q≤W.length→r.length<n →
  bO k n c1 c2 c3 c4 t m W S (W.length:Int) (q:Int) W=some (c1,c2,c3,c4,t,m,W,S,W,S):=by
 intro r
 induction r with
 | nil=>
  intro q n hr hq hn
  obtain ⟨n,rfl⟩:=ir hn
  have:=dN hr
  rw [bO,ltF (by omega),cond_false]
  exact Ot k c1 c2 c3 c4 t m W hS hs S 0 (k+61) rfl (Nat.zero_le _) (by omega)
 | cons v r ih=>
  intro q n hr' hq hn
  obtain ⟨n,rfl⟩:=ir hn
  obtain ⟨h0,h1,h2,_,h4⟩:=cU hr'
  have hv:=hw v (List.mem_of_getElem? h1)
  rw [bO,ltN h0,cond_true,aet h0,cond_true,Int.toNat_natCast,h1,af,bM (by omega),af,cond_true,af,gH (by omega)]
  try simp only [Prod.eta]
  rw [uP h1]
  exact ih (q+1) n h2 (by omega) (by simp only [List.length_cons] at hn;omega)
def Wp (l:List PK):Prop:=∀ x ∈ l,0≤x.2.2∧x.2.2≤18446744073709551615
section
variable {k:Nat} (hk:9223372036854779000≤k) {p0:PB} {l:List PK} (hl:l.length≤1000) (hd:Wp l)
include hk hl hd
theorem Py:∀ (r:List PK) (q n N:Nat) (p:PB) (W0:List WB) (S0:List SB) (evs:List EV) (e:Nat),l.drop q=r→q≤l.length→r.length<n→(e=3∨e=0)→p.1=p0.1→p.2.2.2.2.length=p0.2.2.2.2.length→W0.length=p.2.2.2.1.length→S0.length=p.2.2.2.2.length→Good N p→gI p=true→N+r.length≤9000→evs.length+2*r.length≤4000 →
  bC k p0 l n p.1.1 p.1.2.1 p.1.2.2.1 p.1.2.2.2 p.2.1 W0 S0 p.2.2.2.1 p.2.2.2.2 evs (q:Int) p.2.2.1 e=some ((mJ p r).1,evs++(mJ p r).2):=by
 intro r
 induction r with
 | nil=>
  intro q n N p W0 S0 evs e hr hq hn he hc hS hW0 hS0 hg hm hN hE
  obtain ⟨n,rfl⟩:=ir hn
  have:=dN hr
  rw [bC,ltF (by omega),cond_false,decide_eq_true (by omega),cf,decide_eq_true (by omega),cf,hW0,hS0,List.take_length,List.take_length,mJ,List.append_nil]
 | cons v r ih=>
  intro q n N p W0 S0 evs e hr hq hn he hc hS hW0 hS0 hg hm hN hE
  obtain ⟨n,rfl⟩:=ir hn
  obtain ⟨h0,h1,h2,_,h4⟩:=cU hr
  have hv:=hd v (List.mem_of_getElem? h1)
  obtain ⟨m1,m2,m3,m4,m5⟩:=nf hm
  have hcc:=aR m1
  simp only [List.length_cons] at hn hN hE
  have hml:p.2.2.1.length≤1000:=by
   have hW1:0<p.2.2.2.1.length:=by omega
   have:=(fH (m4 0 _ (List.getElem?_eq_getElem hW1))).2.1
   have:=iL m1
   omega
  have hes:(e==3||e==0)=true:=by rcases he with rfl | rfl <;> rfl
  have next:∀ (evs':List EV) (p':PB),p'.1=p.1→p'.2.1=p.2.1→p'.2.2.2.1.length=p.2.2.2.1.length→p'.2.2.2.2.length=p.2.2.2.2.length→Good (N+1) p'→gI p'=true→evs'.length≤evs.length+2→∀ e',(e'=3∨e'=0) →
    bC k p0 l n p.1.1 p.1.2.1 p.1.2.2.1 p.1.2.2.2 p.2.1 W0 S0 p'.2.2.2.1 p'.2.2.2.2 evs' ((q+1:Nat):Int) p'.2.2.1 e'=some ((mJ p' r).1,evs'++(mJ p' r).2):=fun evs' p' g1 g2 g3 g4 g5 g6 g7 e' he'=>by
   have:=ih (q+1) n (N+1) p' W0 S0 evs' e' h2 (by omega) (by omega) he' (by rw [g1,hc]) (by omega) (by omega) (by omega) g5 g6 (by omega) (by omega)
   rw [g1,g2] at this
   exact this
  have hw:IntKind.i64.wrap ((q:Int)+1)=((q+1:Nat):Int):=gH (by omega)
  have up:Good (N+1) p:=⟨hg.t,hg.tl,hg.m,fun x hx=>⟨(hg.w x hx).f,Nat.le_succ_of_le (hg.w x hx).s,(hg.w x hx).sp⟩,hg.s⟩
  rw [bC,ltN h0,cond_true,f6 h1,af]
  simp only [Prod.eta,hw]
  rw [Vf,af,mJ,← hc,← hS]
  cases hf:uI v p.1.1 p.2.2.2.2.length with
  | false=>
   rw [cond_false,if_neg (by simp)]
   exact next evs p rfl rfl rfl rfl up hm (by omega) e he
  | true=>
   have st:=MG (p:=p) (k:=v)
   have sg:=Fp (k:=v) hg m1
   have sm:=CZ hm hf
   have se:=QH (p:=p) (k:=v)
   have nx:=fun e' he'=>next (evs++(gi p v).2) (gi p v).1 st.1 st.2.1 st.2.2.1 st.2.2.2 sg sm (by rw [List.length_append];omega) e' he'
   have hroom:room (evs++(gi p v).2).length 24=true:=C2 (by rw [List.length_append];omega)
   have hroom0:room evs.length 24=true:=C2 (by omega)
   rw [cond_true,if_pos rfl]
   simp only [← List.append_assoc]
   have hfit:=hf
   unfold uI at hfit
   rw [decide_eq_true_eq] at hfit
   by_cases k0:v.1=0
   ·have hb:0≤v.2.1∧v.2.1<p.1.1:=by omega
    have hi:v.2.1.toNat<p.2.2.2.1.length:=by omega
    have hx:=List.getElem?_eq_getElem hi
    have hdec:decide (0≤v.2.1∧v.2.1.toNat<W0.length)=true:=decide_eq_true ⟨hb.1,by omega⟩
    generalize p.2.2.2.1[v.2.1.toNat]=x at hx
    have hxo:=hg.w x (List.mem_of_getElem? hx)
    have es:gi p v=((p.1,p.2.1,(a9 p.1 p.2.1 p.2.2.1 v.2.1 x v.2.2).1,p.2.2.2.1.set v.2.1.toNat (a9 p.1 p.2.1 p.2.2.1 v.2.1 x v.2.2).2.1,p.2.2.2.2),(a9 p.1 p.2.1 p.2.2.1 v.2.1 x v.2.2).2.2):=by
     unfold gi
     rw [if_pos k0,hx]
    rw [my,decide_eq_true k0,cond_true,hdec,cond_true,hx,af]
    try simp only [Prod.eta]
    rw [QD (by omega) p.1 hg.t.wt hg.m hml v.2.1 hxo.f (by have:=hxo.s;omega) (by have:=hxo.sp;omega) hv,af,cond_true,af,hes,cf]
    rw [es] at nx hroom ⊢
    rw [hroom,cond_true]
    exact nx 3 (.inl rfl)
   ·rw [my,decide_eq_false k0,cond_false]
    by_cases k1:v.1=1
    ·have hb:0≤v.2.1∧v.2.1<(p.2.2.2.2.length:Int):=by omega
     have hi:v.2.1.toNat<p.2.2.2.2.length:=by omega
     have hx:=List.getElem?_eq_getElem hi
     have hdec:decide (0≤v.2.1∧v.2.1.toNat<S0.length)=true:=decide_eq_true ⟨hb.1,by omega⟩
     generalize p.2.2.2.2[v.2.1.toNat]=x at hx
     have hxo:=hg.s x (List.mem_of_getElem? hx)
     rw [my,decide_eq_true k1,cond_true,hdec,cond_true,hx,af]
     try simp only [Prod.eta]
     rw [TN (by omega) p.1 hg.t.wt,af]
     cases hsm:oR p.1 p.2.1 p.2.2.1 x with
     | false=>
      have es:gi p v=(p,[]):=by
       unfold gi
       rw [if_neg k0,if_pos k1,hx]
       dsimp only
       rw [hsm,if_neg (by simp)]
      rw [es] at nx ⊢
      rw [cond_false,hes,cf,hroom0,cond_true]
      have:=nx 3 (.inl rfl)
      rw [List.append_nil] at this ⊢
      exact this
     | true=>
      have es:gi p v=((p.1,p.2.1,(iD p.1 p.2.1 p.2.2.1 v.2.1 x).1,p.2.2.2.1,p.2.2.2.2.set v.2.1.toNat (iD p.1 p.2.1 p.2.2.1 v.2.1 x).2.1),(iD p.1 p.2.1 p.2.2.1 v.2.1 x).2.2):=by
       unfold gi
       rw [if_neg k0,if_pos k1,hx]
       dsimp only
       rw [hsm,if_pos rfl]
      rw [cond_true,cond_true,af]
      rw [VH (by omega) p.1 hg.t.wt hg.m hml v.2.1 hxo.f hxo.s hg.tl,af,cond_true,af,hes,cf]
      rw [es] at nx hroom ⊢
      rw [hroom,cond_true]
      exact nx 3 (.inl rfl)
    ·rw [my,decide_eq_false k1,cond_false]
     by_cases k2:v.1=2
     ·have es:gi p v=((p.1,p.2.1,aN p.2.2.1 3 1,p.2.2.2.1,p.2.2.2.2),[]):=by
       unfold gi
       rw [if_neg k0,if_neg k1,if_pos k2]
      rw [my,decide_eq_true k2,cond_true,kH hml,af,hes,cf,hroom0,cond_true]
      rw [es] at nx ⊢
      have:=nx 3 (.inl rfl)
      rw [List.append_nil] at this ⊢
      exact this
     ·have es:gi p v=(p,[]):=by
       unfold gi
       rw [if_neg k0,if_neg k1,if_neg k2]
      rw [my,decide_eq_false k2,cond_false,hes,cf,hroom0,cond_true]
      rw [es] at nx ⊢
      have:=nx 3 (.inl rfl)
      rw [List.append_nil] at this ⊢
      exact this
theorem Z2 {N:Nat} (hg:Good N p0) (hW:p0.2.2.2.1.length≤20) (hS:p0.2.2.2.2.length≤20) (hml:p0.2.2.1.length≤1000) (hN:N+l.length≤9000):gh k p0 l=some (ade p0 l):=by
 have hw:∀ x ∈ p0.2.2.2.1,x.2.1.length≤9000:=fun x hx=>by have:=(hg.w x hx).s;omega
 have hs:∀ x ∈ p0.2.2.2.2,x.2.1.length≤1000:=fun x hx=>(hg.s x hx).s
 unfold gh ade
 try simp only [Prod.eta]
 rw [Mr _ (by omega) hg.t,af,bM (by omega),af,bM (by omega),af,bM (by omega),af]
 have ho:=Pa k (by omega) p0.1.1 p0.1.2.1 p0.1.2.2.1 p0.1.2.2.2 p0.2.1 p0.2.2.1 (by omega) hw (by omega) hs p0.2.2.2.1 0 (k+61) rfl (Nat.zero_le _) (by omega)
 refine (congrArg (fun z=>ob z _) ho).trans ?_
 rw [af]
 dsimp only
 rw [decide_eq_true (Nat.le_refl _),cf,decide_eq_true (Nat.le_refl _),cf,HY (by omega) hg.t.wt hw hs,af,List.take_length,List.take_length,decide_eq_true (Nat.le_refl _),decide_eq_true (Nat.le_refl _)]
 cases hm:gI p0 with
 | false=>
  rw [Bool.not_false,cond_true,cf,cf,if_neg (by simp),List.take_length,List.take_length]
 | true=>
  rw [Bool.not_true,cond_false,if_pos rfl]
  exact Py hk hl hd l 0 (k+62) N p0 p0.2.2.2.1 p0.2.2.2.2 [] 0 rfl (Nat.zero_le _) (by omega) (.inr rfl) rfl rfl rfl rfl hg hm hN (by simp;omega)
end
end Go.Ab
set_option linter.unusedVariables false
set_option linter.unusedSimpArgs false
namespace Go.Ab
theorem wJ (n:Nat) (i:Int):aj (List.replicate n 0) i=0:=by
 unfold aj
 split
 ·rw [List.getElem?_replicate]
  split <;> rfl
 ·rfl
theorem agv {k:Nat} (hk:1000≤k) (c:CF):ly k c=some (List.replicate (cP c).toNat 0):=by
 have hs:0≤cP c∧cP c≤190:=by
  unfold cP
  split
  ·rename_i h
   have hm:=aR h
   have:=dh h (w:=c.1) (by omega) (by omega)
   omega
  ·omega
 have key:∀ (d i n t:Nat),(t=0∨t=1)→i+d=(cP c).toNat→d<n→eR k c n (cP c) (List.replicate i 0) (i:Int) t=some (List.replicate (cP c).toNat 0):=by
  intro d
  induction d with
  | zero=>
   intro i n t ht hi hn
   obtain ⟨n,rfl⟩:=ir hn
   rw [eR,ltF (by omega),cond_false]
   rw [show i=(cP c).toNat by omega]
  | succ d ih=>
   intro i n t ht hi hn
   obtain ⟨n,rfl⟩:=ir hn
   have h1:(t==1||t==0)=true:=by rcases ht with rfl | rfl <;> rfl
   rw [eR,ltT (by omega),cond_true,h1,cf,C2 (by simp;omega),cond_true,gH (by omega)]
   have:=ih (i+1) n 1 (.inr rfl) (by omega) (by omega)
   rw [List.replicate_succ'] at this
   exact this
 unfold ly
 simp only [Prod.eta,ud,af]
 exact key (cP c).toNat 0 (k+3) 0 (.inl rfl) (by omega) (by omega)
theorem acw {l:List Int} (h:l.length≤1000):ij l=some (0,l,ed):=by
 unfold ij
 rw [bM (by omega),af]
 rfl
theorem I6 {α:Type} (p:α→Bool):∀ (l:List α) (i:Nat),If p l i = -1∨∃ (j:Nat) (x:α),If p l i=((i+j:Nat):Int)∧l[j]? = some x∧p x=true
 | [],_ => .inl rfl
 | x::r,i=>by
  rw [If]
  by_cases h:p x=true
  ·rw [if_pos h]
   exact .inr ⟨0,x,rfl,rfl,h⟩
  ·rw [if_neg h]
   rcases I6 p r (i+1) with e | ⟨j,y,e,h1,h2⟩
   ·exact .inl e
   ·refine .inr ⟨j+1,y,?_,h1,h2⟩
    rw [e]
    congr 1
    omega
theorem Xv (k:Nat) {l:List Int} (hl:l.length≤1000) (hk:1001≤k) (v:Int):dE k l v=some (If (fun y=>v==y) l 0):=by
 unfold dE
 refine JO (F:=fun n i=>bv k l v n i) (l:=l) _ ?_ ?_ k (by omega)
 ·intro n
  simp only [bv,AG,cond_false]
 ·intro n i y hi hy
  simp only [bv,ltN hi,cond_true,f6 hy,af]
  rw [gH (by omega)]
theorem abf {k:Nat} (hk:9223372036854775808≤k) {t:Tyt} (ht:FwT t) (q:Int):∃ z,eV k t q=some z:=by
 have hlen:=ht.len
 unfold eV
 rw [JF k hk t ht.wt,af]
 cases uE t with
 | false=>exact ⟨_,rfl⟩
 | true=>
  rw [cond_true]
  have inner:∀ (i:Nat),i<t.length→∀ (o:Int→Option Int),(∃ z,o ((i+1:Nat):Int)=some z)→∀ (K:List Int),K.length≤40→∀ (r:List Int) (j n:Nat),K.drop j=r→j≤K.length→r.length<n→∃ z,cd k t q o n K (K.length:Int) (j:Int) (i:Int)=some z:=by
   intro i hi o ho K hK r
   induction r with
   | nil=>
    intro j n hr hj hn
    obtain ⟨n,rfl⟩:=ir hn
    have:=dN hr
    rw [cd,ltF (by omega),cond_false,gH (by omega)]
    exact ho
   | cons x r ih=>
    intro j n hr hj hn
    obtain ⟨n,rfl⟩:=ir hn
    obtain ⟨h0,h1,h2,_,h4⟩:=cU hr
    rw [cd,ltN h0,cond_true,f6 h1,af]
    cases x==q with
    | true=>exact ⟨_,rfl⟩
    | false=>
     rw [cond_false,gH (by omega)]
     exact ih (j+1) n h2 (by omega) (by simp only [List.length_cons] at hn;omega)
  have outer:∀ (r:Tyt) (i n:Nat),t.drop i=r→i≤t.length→r.length<n→∃ z,bJ k t q n (i:Int)=some z:=by
   intro r
   induction r with
   | nil=>
    intro i n hr hi hn
    obtain ⟨n,rfl⟩:=ir hn
    have:=dN hr
    rw [bJ,ltF (by omega),cond_false]
    exact ⟨_,rfl⟩
   | cons x r ih=>
    intro i n hr hi hn
    obtain ⟨n,rfl⟩:=ir hn
    obtain ⟨h0,h1,h2,_,h4⟩:=cU hr
    have hx:=ht.kids x (List.mem_of_getElem? h1)
    rw [bJ,ltN h0,cond_true,f6 h1,af]
    exact inner i h0 _ (ih (i+1) n h2 (by omega) (by simp only [List.length_cons] at hn;omega)) x.2 hx x.2 0 (k+18) rfl (Nat.zero_le _) (by omega)
  exact outer t 0 (k+18) rfl (Nat.zero_le _) (by omega)
theorem Uo {k:Nat} (hk:9223372036854775808≤k) {t:Tyt} (ht:FwT t):∀ (d i n g e:Nat) (L:List Int),i+d=t.length→d<n→L.length≤i→(e=0∨e=1)→(L≠[]→e=1)→(∀ r ∈ L,0≤r∧r<(t.length:Int))→L.Nodup∧(∀ r ∈ L,r<(i:Int)) →
  ∃ g' L' e',bB k n t (t.length:Int) g L (i:Int) e=some (g',L',e')∧L'.length≤t.length∧(L'≠[]→e'=1)∧(∀ r ∈ L',0≤r∧r<(t.length:Int))∧L'.Nodup:=by
 have hlen:=ht.len
 intro d
 induction d with
 | zero=>
  intro i n g e L hi hn hL he hne hr hd
  obtain ⟨n,rfl⟩:=ir hn
  rw [bB,ltF (by omega),cond_false]
  exact ⟨g,L,e,rfl,by omega,hne,hr,hd.1⟩
 | succ d ih=>
  intro i n g e L hi hn hL he hne hr hd
  obtain ⟨n,rfl⟩:=ir hn
  obtain ⟨z,hz⟩:=abf hk ht (i:Int)
  rw [bB,ltT (by omega),cond_true,hz,af,gH (by omega)]
  cases z == -1 with
  | true=>
   have he1:(e==1||e==0)=true:=by rcases he with rfl | rfl <;> rfl
   rw [cond_true,he1,cf,C2 (by simp;omega),cond_true]
   refine ih (i+1) n (g+1) 1 (L++[(i:Int)]) (by omega) (by omega) (by simp;omega) (.inr rfl) (fun _=>rfl) (fun r hr' => ?_) ⟨?_,fun r hr' => ?_⟩
   ·rcases List.mem_append.1 hr' with h | h
    ·exact hr r h
    ·rw [List.mem_singleton.1 h];omega
   ·refine List.nodup_append.2 ⟨hd.1,by simp,fun a ha b hb => ?_⟩
    have:=hd.2 a ha
    rw [List.mem_singleton.1 hb]
    omega
   ·rcases List.mem_append.1 hr' with h | h
    ·have:=hd.2 r h
     omega
    ·rw [List.mem_singleton.1 h];omega
  | false=>
   rw [cond_false]
   exact ih (i+1) n g e L (by omega) (by omega) (by omega) he hne hr ⟨hd.1,fun r h=>by have:=hd.2 r h;omega⟩
def Qk (w:Nat):WB:=(0,[],BL 1 (w:Int) 0,0,0)
def kT (n:Nat):List WB:=(List.range n).map Qk
def kU (roots:List (List Int)):List SB:=roots.map fun l=>(0,l,ed)
def Aa (c:CF) (t:Tyt) (roots:List (List Int)):PB:=(c,t,List.replicate (cP c).toNat 0,kT c.1.toNat,kU roots)
def JD:PB:=((0,0,0,0),[],[],[],[])
section
variable {k:Nat} (hk:9223372036854779000≤k) (c:CF) (t:Tyt) (ht:t.length≤40) (roots:List (List Int))
include hk ht
theorem Mf (o0:Tyt→List Int→Nat→List WB→Int→List SB→Nat→Nat→List Int→Option (PB×Bool)) (t':Tyt) (m:List Int) (W:List WB) (i0:Int) (S:List SB) (C x:List Int) (hx:x.length≤1000) (hS:S.length≤100) (e:Nat) (he:e=9∨e=0) :
  ∀ (r:List Int) (q n len z:Nat) (L:List Int),x.drop q=r→q≤x.length→r.length<n→len≤L.length→L.length≤40→(0<len→z=1)→(∀ y ∈ L.take len,0≤y∧y<(t.length:Int))→(∀ y ∈ x.take q,0≤y∧y<(t.length:Int))→(C++(x.take q++L.take len)).Nodup →
  cY k c t roots o0 n x t' m (x.length:Int) z W len (q:Int) L i0 S e=some (JD,false) ∨
  ∃ (len' z':Nat) (L':List Int),len'≤L'.length∧L'.length≤40∧(0<len'→z'=1)∧(∀ y ∈ L'.take len',0≤y∧y<(t.length:Int))∧(∀ y ∈ x,0≤y∧y<(t.length:Int))∧(C++(x++L'.take len')).Nodup ∧
   cY k c t roots o0 n x t' m (x.length:Int) z W len (q:Int) L i0 S e=o0 t' m z' W (IntKind.i64.wrap (i0+1)) (S++[(0,x,ed)]) 9 len' L':=by
 have _h:=ht
 intro r
 induction r with
 | nil=>
  intro q n len z L hr hq hn hlen hL hz hy hxq hd
  obtain ⟨n,rfl⟩:=ir hn
  have:=dN hr
  have he1:(e==9||e==0)=true:=by rcases he with rfl | rfl <;> rfl
  refine .inr ⟨len,z,L,hlen,hL,hz,hy,?_,?_,?_⟩
  ·rw [List.take_of_length_le (by omega)] at hxq
   exact hxq
  ·rw [List.take_of_length_le (by omega)] at hd
   exact hd
  ·rw [cY,ltF (by omega),cond_false,acw hx,af,he1,cf]
   rw [C2 (by simp;omega),cond_true]
 | cons v r ih=>
  intro q n len z L hr hq hn hlen hL hz hy hxq hd
  obtain ⟨n,rfl⟩:=ir hn
  obtain ⟨h0,h1,h2,_,h4⟩:=cU hr
  simp only [List.length_cons] at hn
  rw [cY,ltN h0,cond_true,f6 h1,af,decide_eq_true hlen,cf,Xv (k+20) (by rw [List.length_take];omega) (by omega) v,af]
  rcases I6 (fun y=>v==y) (L.take len) 0 with e1 | ⟨j,y,e1,hj,hvy⟩
  ·rw [e1]
   exact .inl rfl
  ·have hvy':v=y:=by simpa using hvy
   have hjl:j<len:=by
    have:=(List.getElem?_eq_some_iff.1 hj).1
    rw [List.length_take] at this
    omega
   have hyr:=hy y (List.mem_of_getElem? hj)
   rw [e1,Nat.zero_add,ltF (by omega),cond_false,hz (by omega),show ((1:Nat)==1)=true from rfl,cf,gH (by omega),Int.toNat_natCast,Int.toNat_natCast,decide_eq_true (show len≤L.length∧(0:Int)≤(j:Int)∧(j:Int)<((j+1:Nat):Int)∧j+1≤len∧len≤9223372036854775807 by omega),cf,gH (by omega),show len - (j+1 - j)=len - 1 by omega]
   have hc1:(D4 (L.take len) j (j+1)).length=len:=by
    rw [I9 (by omega) (by rw [List.length_take];omega),List.length_take]
    omega
   have hc2:(D4 (L.take len) j (j+1)++L.drop len).length=L.length:=by
    rw [List.length_append,hc1,List.length_drop]
    omega
   refine ih (q+1) n (len - 1) 1 _ h2 (by omega) (by omega) (by rw [hc2];omega) (by rw [hc2];exact hL) (fun _=>rfl) ?_ ?_ ?_
   ·intro y' hy'
    rw [List.take_append_of_le_length (by rw [hc1];omega)] at hy'
    unfold D4 at hy'
    rw [List.take_append_of_le_length (by simp;omega)] at hy'
    rcases List.mem_append.1 (List.mem_of_mem_take hy') with h | h
    ·exact hy y' (List.mem_of_mem_take h)
    ·exact hy y' (List.mem_of_mem_drop h)
   ·intro y' hy'
    rw [List.take_add_one,h1] at hy'
    rcases List.mem_append.1 hy' with h | h
    ·exact hxq y' h
    ·rw [show y'=v by simpa using h,hvy']
     exact hyr
   ·have hsp:L.take len=(L.take len).take j++y::(L.take len).drop (j+1):=by
     have:=List.take_append_drop j (L.take len)
     rw [List.drop_eq_getElem_cons (by rw [List.length_take];omega)] at this
     have hg : (L.take len)[j]'(by rw [List.length_take]; omega) = y := by
      have:=List.getElem?_eq_getElem (l:=L.take len) (i:=j) (by rw [List.length_take];omega)
      rw [hj] at this
      exact (Option.some.inj this).symm
     rw [hg] at this
     exact this.symm
    have ht1:(D4 (L.take len) j (j+1)++L.drop len).take (len - 1)=(L.take len).take j++(L.take len).drop (j+1):=by
     rw [List.take_append_of_le_length (by rw [hc1];omega)]
     unfold D4
     rw [List.take_append_of_le_length (by simp;omega),List.take_of_length_le (by simp;omega)]
    rw [ht1,List.take_add_one,h1]
    rw [hsp] at hd
    refine (List.Perm.nodup_iff ?_).1 hd
    refine List.Perm.append_left C ?_
    rw [List.append_assoc]
    refine List.Perm.append_left _ ?_
    rw [hvy']
    exact List.perm_middle
theorem MH (hR:roots.length≤3) (hr:∀ l ∈ roots,l.length≤1000) (W:List WB):∀ (r:List (List Int)) (q n len z e:Nat) (L:List Int) (t':Tyt) (m:List Int),roots.drop q=r→q≤roots.length→r.length<n→len≤L.length→L.length≤40→(0<len→z=1)→(e=9∨e=0)→(∀ y ∈ L.take len,0≤y∧y<(t.length:Int))→(∀ l ∈ roots.take q,∀ y ∈ l,0≤y∧y<(t.length:Int))→((roots.take q).flatten++L.take len).Nodup →
  b7 k c t roots n t' m z W (q:Int) (kU (roots.take q)) e len L=some (JD,false) ∨
  b7 k c t roots n t' m z W (q:Int) (kU (roots.take q)) e len L=some ((c,t',m,W,kU roots),true)∧(∀ l ∈ roots,∀ y ∈ l,0≤y∧y<(t.length:Int))∧roots.flatten.Nodup:=by
 intro r
 induction r with
 | nil=>
  intro q n len z e L t' m hq' hq hn hlen hL hz he hy hxq hd
  obtain ⟨n,rfl⟩:=ir hn
  have:=dN hq'
  rw [List.take_of_length_le (by omega)] at hxq hd ⊢
  rw [b7,ltF (by omega),cond_false]
  exact .inr ⟨rfl,hxq,(List.nodup_append.1 hd).1⟩
 | cons v r ih=>
  intro q n len z e L t' m hq' hq hn hlen hL hz he hy hxq hd
  obtain ⟨n,rfl⟩:=ir hn
  obtain ⟨h0,h1,h2,_,h4⟩:=cU hq'
  simp only [List.length_cons] at hn
  have hv:=hr v (List.mem_of_getElem? h1)
  have hSl:(kU (roots.take q)).length≤100:=by unfold kU;rw [List.length_map,List.length_take];omega
  rw [b7,ltN h0,cond_true,f6 h1,af]
  rcases Mf hk c t ht roots (fun s62 s63 s64 s77 s113 s115 s116 s135 s138=>b7 k c t roots n s62 s63 s64 s77 s113 s115 s116 s135 s138) t' m W (q:Int) (kU (roots.take q)) (roots.take q).flatten v hv hSl e he v 0 (k+21) len z L rfl (Nat.zero_le _) (by omega) hlen hL hz hy (by simp) (by simpa using hd) with h | ⟨len',z',L',g1,g2,g3,g4,g5,gd,g6⟩
  ·exact .inl h
  ·have hs:kU (roots.take q)++[(0,v,ed)]=kU (roots.take (q+1)):=by
    unfold kU
    rw [List.take_add_one,h1,List.map_append]
    rfl
   rw [hs,gH (by omega)] at g6
   have:=ih (q+1) n len' z' 9 L' t' m h2 (by omega) (by omega) g1 g2 g3 (.inl rfl) g4 (fun l hl=>by
    rw [List.take_add_one,h1] at hl
    rcases List.mem_append.1 hl with h | h
    ·exact hxq l h
    ·rw [show l=v by simpa using h]
     exact g5) (by
    rw [List.take_add_one,h1,List.flatten_append]
    simpa [List.append_assoc] using gd)
   have g6':cY k c t roots (fun s62 s63 s64 s77 s113 s115 s116 s135 s138=>b7 k c t roots n s62 s63 s64 s77 s113 s115 s116 s135 s138) (k+21) v t' m (v.length:Int) z W len 0 L (q:Int) (kU (roots.take q)) e=_:=g6
   rw [g6']
   exact this
theorem Qq (hR:roots.length≤3) (hr:∀ l ∈ roots,l.length≤1000) (hc:0≤c.1∧c.1≤8) (t':Tyt) (m L:List Int) (z:Nat) (hL:L.length≤40) (hz:L≠[]→z=1) (hy:∀ y ∈ L,0≤y∧y<(t.length:Int)) (hd:L.Nodup):∀ (d i n e:Nat),(i:Int)+d=c.1→d<n→(e=11∨e=0) →
  cW k c t roots n t' m L z (i:Int) (kT i) e=some (JD,false) ∨
  cW k c t roots n t' m L z (i:Int) (kT i) e=some ((c,t',m,kT c.1.toNat,kU roots),true)∧(∀ l ∈ roots,∀ y ∈ l,0≤y∧y<(t.length:Int))∧roots.flatten.Nodup:=by
 intro d
 induction d with
 | zero=>
  intro i n e hi hn he
  obtain ⟨n,rfl⟩:=ir hn
  rw [cW,ltF (by omega),cond_false,show c.1.toNat=i by omega]
  exact MH hk c t ht roots hR hr (kT i) roots 0 (k+21) L.length z 0 L t' m rfl (Nat.zero_le _) (by omega) (Nat.le_refl _) hL (fun h=>hz (fun e=>by rw [e] at h;cases h)) (.inr rfl) (by rw [List.take_length];exact hy) (by simp) (by simpa using hd)
 | succ d ih=>
  intro i n e hi hn he
  obtain ⟨n,rfl⟩:=ir hn
  have he1:(e==11||e==0)=true:=by rcases he with rfl | rfl <;> rfl
  rw [cW,ltT (by omega),cond_true,WU,af,he1,cf]
  rw [C2 (by rw [List.length_append];unfold kT;simp;omega),cond_true,gH (by omega)]
  have hw:kT i++[Qk i]=kT (i+1):=by
   unfold kT
   rw [List.range_succ,List.map_append]
   rfl
  have:=ih (i+1) n 11 (by omega) (by omega) (.inl rfl)
  rw [← hw] at this
  exact this
end
theorem Uv {k:Nat} (hk:9223372036854779000≤k) (c:CF) {t:Tyt} (ht:FwT t) {roots:List (List Int)} (hr:∀ l ∈ roots,l.length≤1000) :
  f8 k c t roots=some (JD,false)∨f8 k c t roots=some (Aa c t roots,true)∧eM c=true∧uE t=true∧roots.length≤3∧(∀ l ∈ roots,∀ y ∈ l,0≤y∧y<(t.length:Int))∧roots.flatten.Nodup:=by
 unfold f8
 try simp only [Prod.eta]
 rw [fJ,af]
 cases hm:eM c with
 | false=>exact .inl rfl
 | true=>
  have hc:=aR hm
  rw [Bool.not_true,cond_false,JF _ (by omega) t ht.wt,af]
  cases ht2:uE t with
  | false=>exact .inl rfl
  | true=>
   rw [Bool.not_true,cond_false]
   by_cases h3:(3:Int)<roots.length
   ·rw [ltT h3]
    exact .inl rfl
   ·obtain ⟨g',L',e',h1,h2,h4,h5,h6⟩:=Uo (k:=k) (by omega) ht t.length 0 (k+20) 0 0 [] (by omega) (by have:=ht.len;omega) (Nat.zero_le _) (.inl rfl) (fun h=>absurd rfl h) (by simp) ⟨List.nodup_nil,by simp⟩
    rw [ltF (by omega),cond_false,JF _ (by omega) t ht.wt,af,ht2,Bool.not_true,cond_false]
    refine (show _∨_ from ?_)
    have h1':bB k (k+20) t (t.length:Int) 0 [] 0 0=some (g',L',e'):=h1
    rw [h1',af,Mr _ (by omega) ht,af,agv (by omega),af]
    have hl:=ht.len
    rcases Qq (k:=k) hk c t ht.len roots (by omega) hr (by omega) t (List.replicate (cP c).toNat 0) L' e' (by omega) h4 h5 h6 c.1.toNat 0 (k+21) 0 (by omega) (by omega) (.inr rfl) with h | ⟨h,h'⟩
    ·exact .inl h
    ·exact .inr ⟨h,rfl,rfl,by omega,h'⟩
theorem acT {k:Nat} (hk:9223372036854779000≤k) (c:CF) {t:Tyt} (ht:FwT t) {roots:List (List Int)} (hr:∀ l ∈ roots,l.length≤1000) :
  f8 k c t roots=some (JD,false)∨f8 k c t roots=some (Aa c t roots,true)∧eM c=true∧uE t=true∧roots.length≤3∧(∀ l ∈ roots,∀ y ∈ l,0≤y∧y<(t.length:Int)):=by
 rcases Uv hk c ht hr with h | ⟨a,b,d,e,f,_⟩
 ·exact .inl h
 ·exact .inr ⟨a,b,d,e,f⟩
end Go.Ab
set_option linter.unusedVariables false
namespace Go.Ab
theorem acl {k:Nat} (hk:9223372036854775808≤k) {l:List (List Int)} (hl:l.length≤9223372036854775807):∃ b,cg k l=some b∧(b=true→l.length≤10∧∀ x ∈ l,x.length≤60):=by
 unfold cg
 have key:∀ (r:List (List Int)) (q n:Nat),l.drop q=r→q≤l.length→r.length<n→(∀ x ∈ l.take q,x.length≤60)→∃ b,a8 k l n (q:Int)=some b∧(b=true→l.length≤10∧∀ x ∈ l,x.length≤60):=by
  intro r
  induction r with
  | nil=>
   intro q n hr hq hn hx
   obtain ⟨n,rfl⟩:=ir hn
   have:=dN hr
   rw [List.take_of_length_le (by omega)] at hx
   rw [a8,ltF (by omega),cond_false]
   refine ⟨_,rfl,fun h=>⟨?_,hx⟩⟩
   have:=of_decide_eq_true h
   omega
  | cons v r ih=>
   intro q n hr hq hn hx
   obtain ⟨n,rfl⟩:=ir hn
   obtain ⟨h0,h1,h2,_,h4⟩:=cU hr
   rw [a8,ltN h0,cond_true]
   by_cases hq10:(q:Int)≤10
   ·rw [leT hq10,cond_true,f6 h1,af]
    by_cases h60:(60:Int)<v.length
    ·rw [ltT h60,cond_true]
     exact ⟨_,rfl,fun h=>by cases h⟩
    ·rw [ltF (by omega),cond_false,gH (by omega)]
     refine ih (q+1) n h2 (by omega) (by simp only [List.length_cons] at hn;omega) fun x hx' => ?_
     rw [List.take_add_one,h1] at hx'
     rcases List.mem_append.1 hx' with h | h
     ·exact hx x h
     ·rw [show x=v by simpa using h];omega
   ·rw [leF (by omega),cond_false]
    refine ⟨_,rfl,fun h => ?_⟩
    have:=of_decide_eq_true h
    omega
 exact key l 0 k rfl (Nat.zero_le _) (by omega) (by simp)
theorem VC {k:Nat} (p:PB) (v:PK):fU k p v=gh k p [v]:=by
 unfold fU
 simp only [Prod.eta]
 cases gh k p [v] <;> rfl
theorem DC:∀ {l:List PK} {n:Nat} {p:PB},Good n p→gI p=true→Good (n+l.length) (mJ p l).1
 | [],n,p,h,_=>h
 | k::l,n,p,h,hm=>by
  rw [mJ]
  split
  ·rename_i hk
   have:=DC (l:=l) (Fp (k:=k) h (nf hm).1) (CZ hm hk)
   rw [List.length_cons,show n+(l.length+1)=n+1+l.length by omega]
   exact this
  ·have:=DC (l:=l) h hm
   rw [List.length_cons]
   exact ⟨this.t,this.tl,this.m,fun x hx=>⟨(this.w x hx).f,by have:=(this.w x hx).s;omega,(this.w x hx).sp⟩,this.s⟩
theorem UU {l:List PK} {p:PB} (hm:gI p=true):gI (mJ p l).1=true:=
 (GL (P:=fun _=>True) (fun _ _ _ _ _=>trivial) hm trivial).2
theorem CI {p:PB} (h:gI p=true):p.2.2.2.1.length≤8∧p.2.2.2.2.length≤3∧12≤p.2.2.1.length∧p.2.2.1.length≤190:=by
 obtain ⟨m1,m2,m3,m4,_⟩:=nf h
 have hc:=aR m1
 have:=(fH (m4 0 _ (List.getElem?_eq_getElem (show 0<p.2.2.2.1.length by omega)))).2.1
 have:=iL m1
 omega
theorem NT {c:CF} {t:Tyt} {roots:List (List Int)} (hc:eM c=true) (ht:uE t=true) (hR:roots.length≤3) (hr:∀ l ∈ roots,∀ y ∈ l,0≤y∧y<(t.length:Int)):gI (Aa c t roots)=true:=by
 have hm:=aR hc
 have hs:=iL hc
 refine Dc hc ?_ ?_ (fun j x hx => ?_) (fun x hx => ?_)
 ·show ((kT c.1.toNat).length:Int)=c.1
  unfold kT
  rw [List.length_map,List.length_range]
  omega
 ·show (kU roots).length≤3
  unfold kU
  rw [List.length_map]
  exact hR
 ·have hx':(kT c.1.toNat)[j]? = some x:=hx
  unfold kT at hx'
  rw [List.getElem?_map,Option.map_eq_some_iff] at hx'
  obtain ⟨i,hi,rfl⟩:=hx'
  obtain ⟨hj,rfl⟩:=List.getElem?_eq_some_iff.1 hi
  rw [List.length_range] at hj
  rw [List.getElem_range]
  refine K6 hc ?_ ht ⟨by omega,by show (j:Int)<c.1;omega,Int.le_refl 0,(show (0:Int)<16 by decide)⟩ (lY.2 ⟨ht,fun y hy=>absurd hy (by simp [Qk])⟩)
  show ((List.replicate (cP c).toNat (0:Int)).length:Int)=cP c
  rw [List.length_replicate]
  omega
 ·have hx':x ∈ kU roots:=hx
  unfold kU at hx'
  obtain ⟨l,hl,rfl⟩:=List.mem_map.1 hx'
  unfold wN
  simp only [Bool.and_eq_true,List.all_eq_true,decide_eq_true_eq,Bool.or_eq_true]
  exact ⟨⟨by decide,hr l hl⟩,.inl (by trivial)⟩
theorem Jj {c:CF} {t:Tyt} {roots:List (List Int)} (ht:FwT t) (hr:∀ l ∈ roots,l.length≤60):Good 0 (Aa c t roots):=by
 have z:(0:Int)≤0∧(0:Int)≤18446744073709551615:=by decide
 refine ⟨ht,by have:=ht.len;show t.length≤1000;omega,?_,fun x hx => ?_,fun x hx => ?_⟩
 ·refine ⟨?_,fun v hv => ?_⟩
  ·show (List.replicate (cP c).toNat (0:Int)).length≤_
   rw [List.length_replicate]
   have:cP c≤190:=by
    unfold cP
    split
    ·rename_i h
     have hm:=aR h
     have:=dh h (w:=c.1) (by omega) (by omega)
     omega
    ·omega
   omega
  ·rw [List.eq_of_mem_replicate hv]
   exact z
 ·have hx':x ∈ kT c.1.toNat:=hx
  unfold kT at hx'
  obtain ⟨i,_,rfl⟩:=List.mem_map.1 hx'
  exact ⟨⟨z,z,z⟩,Nat.le_refl _,by show (0:Int)≤9223372036854775807;decide⟩
 ·have hx':x ∈ kU roots:=hx
  unfold kU at hx'
  obtain ⟨l,hl,rfl⟩:=List.mem_map.1 hx'
  exact ⟨⟨z,z,z⟩,by have:=hr l hl;show l.length≤1000;omega⟩
end Go.Ab
set_option linter.unusedVariables false
namespace Go.Ab
def age:FR:=(-1,0,0,0,0,0,0)
structure Pl where
 m:List Int
 left:List (List Int)
 cur:List FR
 over:List FR
def ae3 (m:List Int) (w:Int):Nat:=if gX (aj m 2) w=true then 1 else 0
def Z3 (f:FR) (w:Int):Nat:=if Sd f w=true then 1 else 0
def adb (l:List FR) (w:Int):Nat:=l.countP fun f=>Sd f w
def W1 (c:CF) (m:List Int) (w:Int):Nat:=if aj m (bY c w)=0 then 0 else 1
def w3B (f:FR):Nat:=if f.1=5∧3≤f.2.1 then 1 else 0
def w4B (f:FR):Prop:=f.1=5∧f.2.1=4
def ahN (x:Int):Prop:=0≤x∧x≤18446744073709551615
def ahg (n:Nat) (i:Nat) (f:FR):Prop:=
 f=age∨∃ op pc X Y:Int,f=(op,pc,(i:Int),0,X,Y,0)∧ahN X∧ahN Y ∧
  ((op=5∧0≤pc∧pc≤4)∨(op=6∧0≤pc∧pc≤2∧(pc=2→Y<n))∨(op=7∧0≤pc∧pc≤2∧(pc=2→0<Y∧Y<65536∧∀ j:Nat,n≤j→j<16→gX Y j=false)))
structure OkP (c:CF) (n:Nat) (m:List Int) (l:List FR):Prop where
 wm:Wm m
 may:eM c=true
 cn:c.1=n
 len:(m.length:Int)=cP c
 clen:l.length=n
 frm:∀ i f,l[i]? = some f→ahg n i f
 low:∀ j:Nat,n≤j→j<16→gX (aj m 2) j=false
 par:∀ w:Nat,w<n→aj m (bY c w)=0∨aj m (bY c w)=1
 sgn:∀ (w:Nat) f,l[w]? = some f→ae3 m w+adb l w+W1 c m w=w3B f
 end4:∀ (w:Nat) f,l[w]? = some f→w4B f→W1 c m w=1
theorem P0 {l:List FR} {i:Nat} {f g:FR} (hf:l[i]? = some f) (w:Int):adb (l.set i g) w+Z3 f w=adb l w+Z3 g w:=by
 obtain ⟨hi,rfl⟩:=List.getElem?_eq_some_iff.1 hf
 have hle:l[i] ∈ l:=List.getElem_mem _
 unfold adb Z3
 rw [List.countP_set hi]
 by_cases h:Sd l[i] w=true
 ·have:0<l.countP fun f=>Sd f w:=List.countP_pos_iff.2 ⟨_,hle,h⟩
  simp only [h,if_true]
  omega
 ·simp only [h,if_false]
  simp
theorem OkP.step {c:CF} {n:Nat} {m m':List Int} {l:List FR} (h:OkP c n m l) {i:Nat} {f g:FR} (hf:l[i]? = some f) (wm:Wm m') (len:m'.length=m.length) (hg:ahg n i g)
  (low:∀ j:Nat,n≤j→j<16→gX (aj m' 2) j=false) (par:∀ w:Nat,w<n→aj m' (bY c w)=0∨aj m' (bY c w)=1)
  (sg:∀ w:Nat,w<n→ae3 m' w+Z3 g w+W1 c m' w+(if w=i then w3B f else 0)=ae3 m w+Z3 f w+W1 c m w+(if w=i then w3B g else 0))
  (e4:w4B g→W1 c m' i=1) (e5:∀ w:Nat,w<n→w≠i→W1 c m w=1→W1 c m' w=1):OkP c n m' (l.set i g):=by
 have hi:i<l.length:=(List.getElem?_eq_some_iff.1 hf).1
 have key:∀ (w:Nat) (x:FR),(l.set i g)[w]? = some x→w<n∧((w=i∧x=g)∨(w≠i∧l[w]? = some x)):=by
  intro w x hx
  have hw:=(List.getElem?_eq_some_iff.1 hx).1
  rw [List.length_set,h.clen] at hw
  refine ⟨hw,?_⟩
  by_cases e:w=i
  ·subst e
   rw [List.getElem?_set_self hi] at hx
   exact .inl ⟨rfl,(Option.some.inj hx).symm⟩
  ·rw [List.getElem?_set_ne (by omega)] at hx
   exact .inr ⟨e,hx⟩
 refine ⟨wm,h.may,h.cn,by rw [len];exact h.len,by rw [List.length_set];exact h.clen,?_,low,par,?_,?_⟩
 ·intro w x hx
  rcases key w x hx with ⟨_,⟨rfl,rfl⟩ | ⟨_,hx⟩⟩
  ·exact hg
  ·exact h.frm w x hx
 ·intro w x hx
  have ho:=P0 (g:=g) hf (w:Int)
  rcases key w x hx with ⟨hw,⟨rfl,rfl⟩ | ⟨e,hx⟩⟩
  ·have h1:=h.sgn w f hf
   have h2:=sg w hw
   rw [if_pos rfl,if_pos rfl] at h2
   omega
  ·have h1:=h.sgn w x hx
   have h2:=sg w hw
   rw [if_neg e,if_neg e] at h2
   omega
 ·intro w x hx hx4
  rcases key w x hx with ⟨hw,⟨rfl,rfl⟩ | ⟨e,hx⟩⟩
  ·exact e4 hx4
  ·exact e5 w hw e (h.end4 w x hx hx4)
section
variable {c:CF} {m:List Int} {i a5 X:Int} (hmay:eM c=true) (hlen:(m.length:Int)=cP c)
include hmay hlen
end
theorem Vt (E M:Int):mkB (uH E M)=mkB M:=by unfold mkB uH;omega
theorem pY {X j:Int} (h0:0≤X) (h1:X≤18446744073709551615) (hj:0≤j) (hj2:j<16):gX (m8 X) j=(gX X j&&decide (j≠A0 (mkB X))):=by
 have hr:=pq (epB X+1) (Hx (mkB X))
 have hm:=wz h0
 have hc:0≤Hx (mkB X)∧Hx (mkB X)<65536:=by
  unfold Hx
  split
  ·omega
  ·rcases lS hm.1 hm.2 with ⟨h2,h3⟩ | ⟨a,l,h2,h3,h4⟩
   ·omega
   ·have hp:(0:Nat)<2 ^ l:=Nat.pow_pos (by decide)
    have hw:((2 ^ l:Nat):Int)=(2:Int) ^ l:=by rw [Int.natCast_pow];rfl
    rw [h3,Int.toNat_natCast,← hw]
    omega
 unfold m8
 rw [← nJ hr.1 hj hj2,Vt,nJ hc.1 hj hj2,WW hm.1 hm.2 hj hj2,nJ h0 hj hj2]
theorem Iz {X:Int} (h0:0≤X) (h:mkB X=0) {j:Int} (hj:0≤j) (hj2:j<16):gX X j=false:=by
 rw [← nJ h0 hj hj2,h]
 have:=mr 0 (w:=j) hj
 rw [Nat.zero_testBit] at this
 exact this
end Go.Ab
set_option linter.unusedVariables false
namespace Go.Ab
structure Adr (c:CF) (j:Int):Prop where
 on:∀ w x,x=0∨x=1→onW c w x≠j
 slot:∀ w x,0≤x→x≤18446744073709551615→o4 c w x≠j
 seq:∀ x,uq c x≠j
 val:∀ x,H4 c x≠j
 n0:(0:Int)≠j
 n1:(1:Int)≠j
 n3:(3:Int)≠j
 n4:(4:Int)≠j
 n5:(5:Int)≠j
theorem HR {a b D x y:Int} (hD:D=1∨D=2∨D=4∨D=8∨D=16) (hx:0≤x∧x<3+D) (hy:0≤y∧y<3+D) (h:x≠y):a*(3+D)+x≠b*(3+D)+y:=by
 rcases hD with rfl | rfl | rfl | rfl | rfl <;> omega
theorem af5 {c:CF}:Adr c 2:=by
 refine ⟨fun w x hx => ?_,fun w x h0 h1 => ?_,fun x => ?_,fun x => ?_,by decide,by decide,by decide,by decide,by decide⟩
 ·unfold onW
  split
  ·rename_i h
   have hm:=aR h.1
   have:=dh h.1 h.2.1 (by omega)
   omega
  ·omega
 ·unfold o4 onW
  split
  ·rename_i h
   have hm:=aR h.1
   have:=dh h.1 h.2.1 (by omega)
   have:=rZ h0 h1 (show 1≤c.2.1 by omega) (by omega)
   omega
  ·omega
 ·unfold uq
  split
  ·rename_i h
   have:=aR h
   have:=Int.emod_nonneg x (show c.2.2.1≠0 by omega)
   omega
  ·omega
 ·unfold H4
  split
  ·rename_i h
   have:=aR h
   have:=Int.emod_nonneg x (show c.2.2.1≠0 by omega)
   omega
  ·omega
theorem afn {c:CF} {v:Int} (hc:eM c=true) (h0:0≤v) (h1:v<c.1):Adr c (bY c v):=by
 have hp:bY c v=6+2*c.2.2.1+(v*(3+c.2.1)+2):=by
  unfold bY
  rw [if_pos ⟨hc,h0,h1⟩,A3]
  omega
 have hm:=aR hc
 have ht:=dh hc h0 (by omega)
 rw [hp]
 refine ⟨fun w x hx => ?_,fun w x g0 g1 => ?_,fun x => ?_,fun x => ?_,by omega,by omega,by omega,by omega,by omega⟩
 ·unfold onW
  split
  ·have:=HR (a:=w) (b:=v) hm.2.2.1 (x:=x) (y:=2) (by omega) (by omega) (by omega)
   unfold A3
   omega
  ·omega
 ·unfold o4 onW
  split
  ·have ha:=rZ g0 g1 (show 1≤c.2.1 by omega) (by omega)
   have:=HR (a:=w) (b:=v) hm.2.2.1 (x:=3+uM .u64 x (c.2.1 - 1)) (y:=2) (by omega) (by omega) (by omega)
   unfold A3
   omega
  ·omega
 ·unfold uq
  rw [if_pos hc]
  have a:=Int.emod_lt_of_pos x (show 0<c.2.2.1 by omega)
  have b:0≤v*(3+c.2.1):=ht.2.2.2
  generalize x%c.2.2.1=g at a ⊢
  omega
 ·unfold H4
  rw [if_pos hc]
  have a:=Int.emod_lt_of_pos x (show 0<c.2.2.1 by omega)
  have b:0≤v*(3+c.2.1):=ht.2.2.2
  generalize x%c.2.2.1=g at a ⊢
  omega
section
variable {c:CF} {m:List Int} {f:FR} {j:Int} (hj:Adr c j) (hf:Wf f)
include hj hf
theorem Pi:aj (nK c m f).1 j=aj m j:=by
 have w4:=hf.2.1
 unfold nK
 repeat' split
 all_goals first | rfl | exact ks (hj.slot _ _ w4.1 w4.2) | exact ks (hj.on _ _ (by decide))
theorem UC:aj (FQ c m f).1 j=aj m j:=by
 have _h:=hf
 unfold FQ
 dsimp only
 repeat' split
 all_goals first | rfl | exact ks (hj.on _ _ (by decide)) | exact kc (hj.on _ _ (by decide))
theorem Lm:aj (ie c m f).1 j=aj m j:=by
 have _h:=hf
 unfold ie
 dsimp only
 repeat' split
 all_goals first | rfl | exact kc (hj.on _ _ (by decide))
theorem HH:aj (pf c m f).1 j=aj m j:=by
 have _h:=hf
 unfold pf
 try dsimp only
 repeat' split
 all_goals first | rfl | exact ks (hj.seq _) | exact ks (hj.val _) | exact kc hj.n4 | exact kc hj.n5
theorem Lq:aj (F1 c m f).1 j=aj m j:=by
 have _h:=hf
 unfold F1
 try dsimp only
 repeat' split
 all_goals first | rfl | exact ks (hj.seq _) | exact ks (hj.val _) | exact kc hj.n4 | exact kc hj.n5
theorem u7 (h5:f.1<5):aj (dq c m f).1 j=aj m j:=by
 unfold dq Be dX rk A7
 repeat' split
 all_goals first | with_reducible rfl | with_reducible exact Pi hj hf | with_reducible exact UC hj hf | with_reducible exact Lm hj hf | with_reducible exact HH hj hf | with_reducible exact Lq hj hf | (exfalso;omega)
end
section
variable {c:CF} {m:List Int} {f:FR}
theorem WQ:(nK c m f).2.1=f.1:=by
 unfold nK
 repeat' split
 all_goals rfl
theorem abI:(FQ c m f).2.1=f.1:=by
 unfold FQ
 dsimp only
 repeat' split
 all_goals rfl
theorem QQ:(ie c m f).2.1=f.1:=by
 unfold ie
 dsimp only
 repeat' split
 all_goals rfl
theorem Oc:(pf c m f).2.1=f.1:=by
 unfold pf
 try dsimp only
 repeat' split
 all_goals rfl
theorem Tg:(F1 c m f).2.1=f.1:=by
 unfold F1
 try dsimp only
 repeat' split
 all_goals rfl
theorem uO (h5:f.1<5):(dq c m f).2.1=f.1:=by
 unfold dq Be dX rk A7
 repeat' split
 all_goals first | with_reducible rfl | with_reducible exact WQ | with_reducible exact abI | with_reducible exact QQ | with_reducible exact Oc | with_reducible exact Tg | (exfalso;omega)
end
def pkW (x:WB):Prop:=x.1=8∧3≤x.2.2.1.2.1
def owF (f:FR) (v:Int):Prop:=f.2.1=2∧f.2.2.2.2.2.1=v
def owW (x:WB) (v:Int):Prop:=x.1=14∧owF x.2.2.1 v
def owS (x:SB) (v:Int):Prop:=x.1=4∧owF x.2.2 v
def Fwk (n w:Int) (x:WB):Prop:=
 (x.1=0∨x.1=2∨x.1=3∨x.1=11∨x.1=12→x.2.2.1.1<5)∧(x.1=5→x.2.2.1=BL 5 w 0) ∧
 (x.1=6∨x.1=7→x.2.2.1.1=5∧x.2.2.1.2.1=1∧x.2.2.1.2.2.1=w∧x.2.2.1.2.2.2.2.2.2=0) ∧
 (x.1=8→x.2.2.1.1=5∧(0≤x.2.2.1.2.1∧x.2.2.1.2.1≤4)∧x.2.2.1.2.2.1=w∧x.2.2.1.2.2.2.2.2.2=0) ∧
 (x.1=14→x.2.2.1.1=6∧(0≤x.2.2.1.2.1∧x.2.2.1.2.1≤2)∧x.2.2.1.2.2.2.2.2.2=0∧(x.2.2.1.2.1=2→x.2.2.1.2.2.2.2.2.1<n))
def Fsb (n:Int) (x:SB):Prop:=
 (x.1=2→x.2.2.1<5)∧(x.1=4→x.2.2.1=6∧(0≤x.2.2.2.1∧x.2.2.2.1≤2)∧x.2.2.2.2.2.2.2.2=0∧(x.2.2.2.1=2→x.2.2.2.2.2.2.2.1<n))
def Ts (n:Int) (m:List Int):Prop:=∀ j:Int,n≤j→j<16→gX (aj m 2) j=false
structure Ef (c:CF) (m m':List Int) (pk0 pk1:Prop) (me:Int) (ow0 ow1:Int→Prop):Prop where
 low:Ts c.1 m→Ts c.1 m'
 bit:∀ v,0≤v→v<c.1→gX (aj m 2) v=true→gX (aj m' 2) v=true∨ow1 v
 par:∀ v,0≤v→v<c.1→aj m (bY c v)≠0→aj m' (bY c v)≠0∨v=me∧¬ pk1
 owe:∀ v,0≤v→v<c.1→ow0 v→ow1 v∨aj m' (bY c v)≠0
 new:pk1→pk0∨gX (aj m' 2) me=true∨aj m' (bY c me)≠0
section
variable {c:CF} {m m':List Int} {pk0 pk1:Prop} {me:Int} {ow0 ow1:Int→Prop}
theorem Ef.calm (hc:eM c=true) (h:∀ j,Adr c j→aj m' j=aj m j) (ho:∀ v,ow0 v→ow1 v) (hp:pk1→pk0):Ef c m m' pk0 pk1 me ow0 ow1:=by
 have h2:=h 2 af5
 refine ⟨fun hl j h0 h1=>by rw [h2];exact hl j h0 h1,fun v _ _ hb => .inl (by rw [h2];exact hb),fun v h0 h1 hb => .inl (by rw [h _ (afn hc h0 h1)];exact hb),fun v _ _ hv => .inl (ho v hv),fun h => .inl (hp h)⟩
theorem Ef.same (ho:∀ v,ow0 v→ow1 v) (hp:pk1→pk0):Ef c m m pk0 pk1 me ow0 ow1:=
 ⟨fun hl=>hl,fun v _ _ hb => .inl hb,fun v _ _ hb => .inl hb,fun v _ _ hv => .inl (ho v hv),fun h => .inl (hp h)⟩
end
section
variable {c:CF} {m:List Int} {f:FR} (hc:eM c=true) (hl:(m.length:Int)=cP c) (hm:Wm m) (hf:Wf f)
include hc hl hm hf
theorem UE {w:Int} (h0:0≤w) (h1:w<c.1) (ho:f.1=5) (hp:0≤f.2.1∧f.2.1≤4) (hw:f.2.2.1=w) (hr:f.2.2.2.2.2.2=0) :
  Ef c m (eD c m f).1 (3≤f.2.1) (cr (eD c m f).2=false∧3≤(eD c m f).2.2.1) w (fun _=>False) (fun _=>False) ∧
  (cr (eD c m f).2=false→(eD c m f).2.1=5∧(0≤(eD c m f).2.2.1∧(eD c m f).2.2.1≤4)∧(eD c m f).2.2.2.1=w∧(eD c m f).2.2.2.2.2.2.2=0):=by
 have hmc:=aR hc
 have hs:=iL hc
 obtain ⟨op,pc,i,v,X,Y,res⟩:=f
 simp only at ho hp hw hr
 subst ho hw hr
 have hg:lM c m (5,pc,i,v,X,Y,0) 5 5=true:=by
  unfold lM
  rw [hc,decide_eq_true hl,decide_eq_true ⟨rfl,h0,h1,rfl,hp.1,by show pc<5;omega⟩]
  rfl
 have hov:∀ a b d e g:Int,cr (5,a,b,d,e,g,0)=false:=fun _ _ _ _ _=>rfl
 have hend:∀ a b:Int,a≠0→¬ cr (er (5,pc,i,v,X,Y,0) a b)=false:=fun a b h=>by unfold cr er;simp [h]
 unfold eD
 rw [hg,if_neg (by decide)]
 dsimp only
 rcases (show pc=0∨pc=1∨pc=2∨pc=3∨pc=4 by omega) with rfl | rfl | rfl | rfl | rfl
 ·rw [if_pos rfl]
  exact ⟨.same (fun _ h=>h) (fun h=>absurd h.2 (show ¬ (3:Int)≤1 from by decide)),fun _=>⟨rfl,⟨(by decide:(0:Int)≤1),(by decide:(1:Int)≤4)⟩,rfl,rfl⟩⟩
 ·rw [if_neg (by decide),if_pos rfl]
  split
  ·exact ⟨.same (fun _ h=>h) (fun h=>absurd h.2 (show ¬ (3:Int)≤2 from by decide)),fun _=>⟨rfl,⟨(by decide:(0:Int)≤2),(by decide:(2:Int)≤4)⟩,rfl,rfl⟩⟩
  ·exact ⟨.same (fun _ h=>h) (fun h=>absurd h.1 (hend 4 0 (by decide))),fun h=>absurd h (hend 4 0 (by decide))⟩
 ·rw [if_neg (by decide),if_neg (by decide),if_pos rfl]
  unfold nZ
  split
  ·rename_i e
   have hY:=cD hm 2
   rw [e.2.2] at hY
   have hb:∀ u:Int,0≤u→gX (aj (aN m 2 (D2 Y i)) 2) u=(decide (u=i)||gX (aj m 2) u):=by
    intro u hu
    rw [ga _ (by decide) e.2.1,Ln hY.1 hY.2 h0 (by omega) hu,e.2.2]
   refine ⟨⟨fun hz j g0 g1 => ?_,fun u g0 g1 hu => .inl ?_,fun u g0 g1 hu => .inl ?_,fun u _ _ hu=>hu.elim,fun _ => .inr (.inl ?_)⟩,fun _=>⟨rfl,⟨(by decide:(0:Int)≤3),(by decide:(3:Int)≤4)⟩,rfl,rfl⟩⟩
   ·rw [hb j (by omega),hz j g0 g1,decide_eq_false (by omega)]
    rfl
   ·rw [hb u g0,hu,Bool.or_true]
   ·have hA:=afn hc g0 g1
    have:(2:Int)≠bY c u:=by
     have:=dh hc g0 (by omega)
     unfold bY
     rw [if_pos ⟨hc,g0,g1⟩]
     omega
    rw [aL _ this]
    exact hu
   ·rw [hb i h0,decide_eq_true rfl,Bool.true_or]
  ·exact ⟨.same (fun _ h=>h) (fun h=>absurd h.2 (show ¬ (3:Int)≤1 from by decide)),fun _=>⟨rfl,⟨(by decide:(0:Int)≤1),(by decide:(1:Int)≤4)⟩,rfl,rfl⟩⟩
 ·rw [if_neg (by decide),if_neg (by decide),if_neg (by decide),if_pos rfl]
  refine ⟨.same (fun _ h=>h) (fun _=>(by decide:(3:Int)≤3)),fun _=>⟨rfl,?_,rfl,rfl⟩⟩
  dsimp only
  split <;> omega
 ·rw [if_neg (by decide),if_neg (by decide),if_neg (by decide),if_neg (by decide)]
  have hend':¬ cr (er (5,4,i,v,X,Y,0) 1 0)=false:=hend 1 0 (by decide)
  have hA:∀ j,j=2∨(∃ u,0≤u∧u<c.1∧u≠i∧j=bY c u)→aj (aN m (bY c i) 0) j=aj m j:=by
   intro j hj
   refine aL 0 ?_
   have:=dh hc h0 (by omega)
   rcases hj with rfl | ⟨u,g0,g1,hu,rfl⟩
   ·unfold bY
    rw [if_pos ⟨hc,h0,h1⟩]
    omega
   ·exact Mm ⟨hc,hl,h0,h1⟩ ⟨hc,hl,g0,g1⟩ (Ne.symm hu)
  refine ⟨⟨fun hz j g0 g1 => ?_,fun u g0 g1 hu => .inl ?_,fun u g0 g1 hu => ?_,fun u _ _ hu=>hu.elim,fun h=>absurd h.1 hend'⟩,fun h=>absurd h hend'⟩
  ·rw [hA 2 (.inl rfl)]
   exact hz j g0 g1
  ·rw [hA 2 (.inl rfl)]
   exact hu
  ·by_cases e:u=i
   ·exact .inr ⟨e,fun h=>absurd h.1 hend'⟩
   ·rw [hA _ (.inr ⟨u,g0,g1,e,rfl⟩)]
    exact .inl hu
theorem Nz {pk0 pk1:Prop} {me:Int} (hpk:¬ pk1) (hlow:Ts c.1 m) (ho:f.1=6) (hp:0≤f.2.1∧f.2.1≤2) (hr:f.2.2.2.2.2.2=0) (hy:f.2.1=2→f.2.2.2.2.2.1<c.1) :
  Ef c m (dt c m f).1 pk0 pk1 me (owF f) (fun v=>cr (dt c m f).2=false∧owF (dt c m f).2 v) ∧
  (cr (dt c m f).2=false→(dt c m f).2.1=6∧(0≤(dt c m f).2.2.1∧(dt c m f).2.2.1≤2)∧(dt c m f).2.2.2.2.2.2.2=0∧((dt c m f).2.2.1=2→(dt c m f).2.2.2.2.2.2.1<c.1)):=by
 have _h:=hm
 have hmc:=aR hc
 have hs:=iL hc
 have hX:=hf.2.1
 have hYr:=hf.2.2
 obtain ⟨op,pc,i,v,X,Y,res⟩:=f
 simp only at ho hp hr hy hX hYr
 subst ho hr
 have hg:nW c m (6,pc,i,v,X,Y,0)=true:=by
  unfold nW
  rw [hc,decide_eq_true hl,decide_eq_true (.inl rfl),decide_eq_true ⟨rfl,hp.1,hp.2⟩]
  rfl
 have hend:∀ a b:Int,a≠0→¬ cr (er (6,pc,i,v,X,Y,0) a b)=false:=fun a b h=>by unfold cr er;simp [h]
 unfold dt
 rw [hg,if_neg (by decide)]
 dsimp only
 rcases (show pc=0∨pc=1∨pc=2 by omega) with rfl | rfl | rfl
 ·rw [if_pos rfl]
  refine ⟨.same (fun u h=>absurd h.1 (show ¬ (0:Int)=2 from by decide)) (fun h=>absurd h hpk),fun _=>⟨rfl,⟨(by decide:(0:Int)≤1),(by decide:(1:Int)≤2)⟩,rfl,fun h=>absurd h (show ¬ (1:Int)=2 from by decide)⟩⟩
 ·rw [if_neg (by decide),if_pos rfl]
  split
  ·rename_i e
   dsimp only
   have h6:((6:Int)=6):=rfl
   simp only [if_true]
   have hmk:=wz hX.1
   have h2:aj (aN m 2 (m8 X)) 2=m8 X:=ga _ (by decide) (by omega)
   have hpar:∀ u,0≤u→u<c.1→aj (aN m 2 (m8 X)) (bY c u)=aj m (bY c u):=by
    intro u g0 g1
    refine aL _ ?_
    have:=dh hc g0 (by omega)
    unfold bY
    rw [if_pos ⟨hc,g0,g1⟩]
    omega
   have hlowX:∀ j:Int,c.1≤j→j<16→gX X j=false:=by rw [← e];exact hlow
   have hlow':Ts c.1 (aN m 2 (m8 X)):=by
    intro j g0 g1
    rw [h2,pY hX.1 hX.2 (by omega) g1,hlowX j g0 g1]
    rfl
   by_cases hz:mkB X=0
   ·rw [if_pos hz]
    refine ⟨⟨fun _=>hlow',fun u g0 g1 hu => ?_,fun u g0 g1 hu => .inl (by rw [hpar u g0 g1];exact hu),fun u _ _ hu=>absurd hu.1 (show ¬ (1:Int)=2 from by decide),fun h=>absurd h hpk⟩,fun h=>absurd h (hend 3 0 (by decide))⟩
    rw [e,Iz hX.1 hz g0 (by omega)] at hu
    cases hu
   ·rw [if_neg hz]
    rcases lS hmk.1 hmk.2 with ⟨g1,_⟩ | ⟨a,b,g1,g2,g3⟩
    ·exact absurd g1 hz
    ·have hb:gX (mkB X) (A0 (mkB X))=true:=Ob (by omega)
     rw [g2] at hb ⊢
     rw [nJ hX.1 (by omega) (by omega)] at hb
     have hbn:(b:Int)<c.1:=by
      by_cases hh:(b:Int)<c.1
      ·exact hh
      ·rw [hlowX b (by omega) (by omega)] at hb
       cases hb
     rw [if_neg (by omega)]
     refine ⟨⟨fun _=>hlow',fun u q0 q1 hu => ?_,fun u q0 q1 hu => .inl (by rw [hpar u q0 q1];exact hu),fun u _ _ hu=>absurd hu.1 (show ¬ (1:Int)=2 from by decide),fun h=>absurd h hpk⟩,fun _=>⟨rfl,⟨(by decide:(0:Int)≤2),Int.le_refl 2⟩,rfl,fun _=>hbn⟩⟩
     by_cases hub:u=b
     ·exact .inr ⟨rfl,rfl,hub.symm⟩
     ·refine .inl ?_
      rw [h2,pY hX.1 hX.2 q0 (by omega),g2,decide_eq_true hub,Bool.and_true,← e]
      exact hu
  ·refine ⟨.same (fun u h=>absurd h.1 (show ¬ (1:Int)=2 from by decide)) (fun h=>absurd h hpk),fun _=>⟨rfl,⟨Int.le_refl 0,(by decide:(0:Int)≤2)⟩,rfl,fun h=>absurd h (show ¬ (0:Int)=2 from by decide)⟩⟩
 ·rw [if_neg (by decide),if_neg (by decide),if_pos rfl]
  have hyn:=hy rfl
  dsimp only
  rw [if_pos (show Y<8 by omega)]
  unfold A6
  have hA:∀ j,j=2∨(∃ u,0≤u∧u<c.1∧u≠Y∧j=bY c u)→aj (aN m (bY c Y) 1) j=aj m j:=by
   intro j hj
   refine aL 1 ?_
   have:=dh hc hYr.1 (by omega)
   rcases hj with rfl | ⟨u,g0,g1,hu,rfl⟩
   ·unfold bY
    rw [if_pos ⟨hc,hYr.1,hyn⟩]
    omega
   ·exact Mm ⟨hc,hl,hYr.1,hyn⟩ ⟨hc,hl,g0,g1⟩ (Ne.symm hu)
  have hone:aj (aN m (bY c Y) 1) (bY c Y)=1:=by
   have hpk:OkB c m Y:=⟨hc,hl,hYr.1,hyn⟩
   have:=hpk.park
   exact ga 1 (by omega) this.2.2
  refine ⟨⟨fun hz j g0 g1 => ?_,fun u g0 g1 hu => .inl ?_,fun u g0 g1 hu => .inl ?_,fun u g0 g1 hu => .inr ?_,fun h=>absurd h hpk⟩,fun h=>absurd h (hend 1 Y (by decide))⟩
  ·rw [hA 2 (.inl rfl)]
   exact hz j g0 g1
  ·rw [hA 2 (.inl rfl)]
   exact hu
  ·by_cases e:u=Y
   ·rw [e,hone]
    decide
   ·rw [hA _ (.inr ⟨u,g0,g1,e,rfl⟩)]
    exact hu
  ·have:Y=u:=hu.2
   rw [← this,hone]
   decide
end
end Go.Ab
set_option linter.unusedVariables false
namespace Go.Ab
section
variable {n w:Int} {x:WB}
theorem en (h:x.1=1∨x.1=4∨x.1=9∨x.1=10∨x.1=13∨x.1=15):Fwk n w x:=
 ⟨fun _=>by exfalso;omega,fun _=>by exfalso;omega,fun _=>by exfalso;omega,fun _=>by exfalso;omega,fun _=>by exfalso;omega⟩
theorem fP (h:x.1=0∨x.1=2∨x.1=3∨x.1=11∨x.1=12) (hf:x.2.2.1.1<5):Fwk n w x:=
 ⟨fun _=>hf,fun _=>by exfalso;omega,fun _=>by exfalso;omega,fun _=>by exfalso;omega,fun _=>by exfalso;omega⟩
theorem agt (h:x.1=5) (hf:x.2.2.1=BL 5 w 0):Fwk n w x:=
 ⟨fun _=>by exfalso;omega,fun _=>hf,fun _=>by exfalso;omega,fun _=>by exfalso;omega,fun _=>by exfalso;omega⟩
theorem NO (h:x.1=6∨x.1=7) (hf:x.2.2.1.1=5∧x.2.2.1.2.1=1∧x.2.2.1.2.2.1=w∧x.2.2.1.2.2.2.2.2.2=0):Fwk n w x:=
 ⟨fun _=>by exfalso;omega,fun _=>by exfalso;omega,fun _=>hf,fun _=>by exfalso;omega,fun _=>by exfalso;omega⟩
theorem abu (h:x.1=8) (hf:x.2.2.1.1=5∧(0≤x.2.2.1.2.1∧x.2.2.1.2.1≤4)∧x.2.2.1.2.2.1=w∧x.2.2.1.2.2.2.2.2.2=0):Fwk n w x:=
 ⟨fun _=>by exfalso;omega,fun _=>by exfalso;omega,fun _=>by exfalso;omega,fun _=>hf,fun _=>by exfalso;omega⟩
theorem Mp (h:x.1=14) (hf:x.2.2.1.1=6∧(0≤x.2.2.1.2.1∧x.2.2.1.2.1≤2)∧x.2.2.1.2.2.2.2.2.2=0∧(x.2.2.1.2.1=2→x.2.2.1.2.2.2.2.2.1<n)):Fwk n w x:=
 ⟨fun _=>by exfalso;omega,fun _=>by exfalso;omega,fun _=>by exfalso;omega,fun _=>by exfalso;omega,fun _=>hf⟩
end
theorem Ef.mono {c:CF} {m m':List Int} {p0 p1 q0 q1:Prop} {me:Int} {a0 a1 b0 b1:Int→Prop} (h:Ef c m m' p0 p1 me a0 a1) (h1:q1→p1) (h0:p0→q0) (ha:∀ v,b0 v→a0 v) (hb:∀ v,a1 v→b1 v):Ef c m m' q0 q1 me b0 b1:=
 ⟨h.low,fun v g0 g1 hv=>(h.bit v g0 g1 hv).imp id (hb v),fun v g0 g1 hv=>(h.par v g0 g1 hv).imp id fun e=>⟨e.1,fun q=>e.2 (h1 q)⟩,fun v g0 g1 hv=>(h.owe v g0 g1 (ha v hv)).imp (hb v) id,fun q=>(h.new (h1 q)).imp h0 id⟩
section
variable {c:CF} {t:Tyt} {m:List Int} {w:Int} {x:WB} {d:Int}
theorem lK {f:FR} (h:f.1=5):dq c m f=eD c m f:=by
 unfold dq dX A7
 rw [if_neg (by omega),if_neg (by omega),if_pos h]
theorem lA {f:FR} (h:f.1=6):dq c m f=dt c m f:=by
 unfold dq dX A7
 rw [if_neg (by omega),if_neg (by omega),if_neg (by omega),if_pos (.inl h)]
theorem Gy (hc:eM c=true) (hl:(m.length:Int)=cP c) (h0:0≤w) (h1:w<c.1):dq c m (BL 5 w 0)=(m,(5,1,w,0,aj m 2,0,0)):=by
 rw [lK rfl]
 have hg:lM c m (BL 5 w 0) 5 5=true:=by
  unfold lM BL
  rw [hc,decide_eq_true hl,decide_eq_true ⟨rfl,h0,h1,rfl,(show (0:Int)≤0 from by decide),(show (0:Int)<5 from by decide)⟩]
  rfl
 unfold eD
 rw [hg,if_neg (by decide)]
 rfl
theorem Xw (hm:Wm m) (hf:Wf x.2.2.1) (hl:Ts c.1 m) (hx:Fwk c.1 w x):Fwk c.1 w (a9 c t m w x d).2.1∧Ef c m (a9 c t m w x d).1 (pkW x) (pkW (a9 c t m w x d).2.1) w (owW x) (owW (a9 c t m w x d).2.1):=by
 have cm:∀ (m':List Int) (y:WB),dm c t m w x=true→(∀ j,Adr c j→aj m' j=aj m j)→x.1≠14→¬ pkW y→Ef c m m' (pkW x) (pkW y) w (owW x) (owW y):=fun m' y hm h hx hy => .calm (fH hm).1 h (fun v ho=>absurd ho.1 hx) (fun hp=>absurd hp hy)
 have ca:∀ h5:x.2.2.1.1<5,∀ j,Adr c j→aj (dq c m x.2.2.1).1 j=aj m j:=fun h5 j hj=>u7 hj hf h5
 have s0:∀ v j,Adr c j→aj (aN m 0 v) j=aj m j:=fun v j hj=>ks hj.n0
 have s1:∀ v j,Adr c j→aj (aN m 1 v) j=aj m j:=fun v j hj=>ks hj.n1
 have sm:∀ j,Adr c j→aj m j=aj m j:=fun _ _=>rfl
 refine ff (P:=fun r=>Fwk c.1 w r.2.1∧Ef c m r.1 (pkW x) (pkW r.2.1) w (owW x) (owW r.2.1)) (fun _=>⟨hx,.same (fun _ h=>h) (fun h=>h)⟩) ?_ ?_ ?_ ?_ ?_ ?_ ?_ ?_ ?_ ?_ ?_ ?_ ?_ ?_ ?_
 ·intro hw e
  have h5:=hx.1 (by omega)
  have ho:=uO (c:=c) (m:=m) h5
  dsimp only [Eo,toW]
  split
  ·exact ⟨fP (.inl e) (by show (dq c m x.2.2.1).2.1<5;omega),cm _ _ hw (ca h5) (by omega) (fun h=>by have:=h.1;simp only at this;omega)⟩
  ·split
   ·exact ⟨en (.inl rfl),cm _ _ hw (ca h5) (by omega) (fun h=>by have:=h.1;simp only at this;omega)⟩
   ·exact ⟨en (.inr (.inr (.inl rfl))),cm _ _ hw (ca h5) (by omega) (fun h=>by have:=h.1;simp only at this;omega)⟩
 ·intro hw e
  dsimp only [oa]
  exact ⟨fP (.inr (.inl rfl)) (by show (4:Int)<5;decide),cm _ _ hw (s1 _) (by omega) (fun h=>by have:=h.1;simp only at this;omega)⟩
 ·intro hw e
  have h5:=hx.1 (by omega)
  have ho:=uO (c:=c) (m:=m) h5
  dsimp only [mw,gV]
  split
  ·exact ⟨fP (by dsimp only;omega) (by show (dq c m x.2.2.1).2.1<5;omega),cm _ _ hw (ca h5) (by omega) (fun h=>by have:=h.1;simp only at this;omega)⟩
  ·split
   ·exact ⟨en (.inr (.inl rfl)),cm _ _ hw (ca h5) (by omega) (fun h=>by have:=h.1;simp only at this;omega)⟩
   ·split
    ·exact ⟨fP (.inr (.inr (.inl rfl))) (by show (2:Int)<5;decide),cm _ _ hw (ca h5) (by omega) (fun h=>by have:=h.1;simp only at this;omega)⟩
    ·split
     ·exact ⟨agt rfl rfl,cm _ _ hw (ca h5) (by omega) (fun h=>by have:=h.1;simp only at this;omega)⟩
     ·exact ⟨fP (.inr (.inl rfl)) (by show (4:Int)<5;decide),cm _ _ hw (ca h5) (by omega) (fun h=>by have:=h.1;simp only at this;omega)⟩
 ·intro hw e
  dsimp only [ii]
  by_cases h1:aj m 1=1
  ·rw [if_pos h1,if_pos h1]
   exact ⟨Mp rfl ⟨rfl,⟨Int.le_refl 0,(by decide:(0:Int)≤2)⟩,rfl,fun h=>absurd h (show ¬ (0:Int)=2 by decide)⟩,cm _ _ hw (s1 _) (by omega) (fun h=>by have:=h.1;simp only at this;omega)⟩
  ·rw [if_neg h1,if_neg h1]
   exact ⟨en (.inr (.inr (.inl rfl))),cm _ _ hw (s1 _) (by omega) (fun h=>by have:=h.1;simp only at this;omega)⟩
 ·intro hw e
  obtain ⟨a1,a2,_,a4,_⟩:=fH hw
  dsimp only [mP]
  rw [hx.2.1 e,Gy a1 a2 a4.1 a4.2.1]
  exact ⟨NO (.inl rfl) ⟨rfl,rfl,rfl,rfl⟩,cm _ _ hw sm (by omega) (fun h=>by have:=h.1;simp only at this;omega)⟩
 ·intro hw e
  dsimp only [k7]
  exact ⟨NO (.inr rfl) (hx.2.2.1 (.inl e)),cm _ _ hw (s1 _) (by omega) (fun h=>by have:=h.1;simp only at this;omega)⟩
 ·intro hw e
  obtain ⟨f1,f2,f3,f4⟩:=hx.2.2.1 (.inr e)
  have g8:∀ (f:FR) (b:Int),f.1=5→f.2.1=1→f.2.2.1=w→f.2.2.2.2.2.2=0→Fwk c.1 w (8,x.2.1,f,x.2.2.2.1,b)∧Ef c m m (pkW x) (pkW (8,x.2.1,f,x.2.2.2.1,b)) w (owW x) (owW (8,x.2.1,f,x.2.2.2.1,b)):=fun f b h1 h2 h3 h4=>
   ⟨abu rfl ⟨h1,⟨by show 0≤f.2.1;omega,by show f.2.1≤4;omega⟩,h3,h4⟩,cm _ _ hw sm (by omega) (fun h=>by have:=h.2;simp only at this;omega)⟩
  have g7:∀ (f:FR) (b:Int),f.1=5→f.2.1=1→f.2.2.1=w→f.2.2.2.2.2.2=0→Fwk c.1 w (7,x.2.1,f,x.2.2.2.1,b)∧Ef c m m (pkW x) (pkW (7,x.2.1,f,x.2.2.2.1,b)) w (owW x) (owW (7,x.2.1,f,x.2.2.2.1,b)):=fun f b h1 h2 h3 h4=>
   ⟨NO (.inr rfl) ⟨h1,h2,h3,h4⟩,cm _ _ hw sm (by omega) (fun h=>by have:=h.1;simp only at this;omega)⟩
  have g1:Fwk c.1 w (toW 1 x)∧Ef c m m (pkW x) (pkW (toW 1 x)) w (owW x) (owW (toW 1 x)):=⟨en (.inl rfl),cm _ _ hw sm (by omega) (fun h=>by have:=h.1;simp only [toW] at this;omega)⟩
  dsimp only [bQ]
  split
  ·exact g8 _ _ f1 f2 f3 f4
  ·generalize hF:(if x.2.2.2.2=0 then DY x.2.2.1 (aj m 4) else if x.2.2.2.2=1 then x.2.2.1 else if x.2.2.2.2%2=0 then DY x.2.2.1 (aj m (mW c ((x.2.2.2.2 - 2)/2))) else x.2.2.1)=F
   have hF4:F.1=5∧F.2.1=1∧F.2.2.1=w∧F.2.2.2.2.2.2=0:=by
    rw [← hF]
    repeat' split
    all_goals exact ⟨f1,f2,f3,f4⟩
   repeat' split
   all_goals first | exact g1 | exact g8 (DY F 0) 0 hF4.1 hF4.2.1 hF4.2.2.1 hF4.2.2.2 | exact g7 F _ hF4.1 hF4.2.1 hF4.2.2.1 hF4.2.2.2
 ·intro hw e
  obtain ⟨a1,a2,_,a4,_⟩:=fH hw
  obtain ⟨f1,f2,f3,f4⟩:=hx.2.2.2.1 e
  obtain ⟨hE,hF⟩:=UE a1 a2 hm hf a4.1 a4.2.1 f1 f2 f3 f4
  dsimp only [bV]
  rw [lK f1]
  by_cases ho:cr (eD c m x.2.2.1).2=true
  ·rw [if_pos ho]
   exact ⟨en (.inl rfl),hE.mono (fun h=>absurd h.1 (show ¬ (1:Int)=8 by decide)) (fun h=>⟨e,h⟩) (fun v h=>absurd h.1 (by omega)) (fun v h=>h.elim)⟩
  ·rw [if_neg ho]
   have ho':cr (eD c m x.2.2.1).2=false:=by simpa using ho
   exact ⟨abu e (hF ho'),hE.mono (fun h=>⟨ho',h.2⟩) (fun h=>⟨e,h⟩) (fun v h=>absurd h.1 (by omega)) (fun v h=>h.elim)⟩
 ·intro hw e
  have g:∀ y:WB,y.1=9∨y.1=10∨y.1=15→Fwk c.1 w y∧Ef c m m (pkW x) (pkW y) w (owW x) (owW y):=fun y hy=>⟨en (by omega),cm _ _ hw sm (by omega) (fun h=>by have:=h.1;omega)⟩
  dsimp only [En,gV]
  split
  ·exact g _ (.inl e)
  ·split
   ·exact g _ (.inr (.inl rfl))
   ·split
    ·exact g _ (.inr (.inr rfl))
    ·exact ⟨fP (.inl rfl) (show (1:Int)<5 by decide),cm _ _ hw sm (by omega) (fun h=>by have:=h.1;simp only at this;omega)⟩
 ·intro hw e
  dsimp only [mX,toW]
  split
  ·exact ⟨en (.inr (.inr (.inl rfl))),cm _ _ hw sm (by omega) (fun h=>by have:=h.1;simp only at this;omega)⟩
  ·exact ⟨fP (.inr (.inr (.inr (.inl rfl)))) (show (0:Int)<5 by decide),cm _ _ hw (s0 _) (by omega) (fun h=>by have:=h.1;simp only at this;omega)⟩
 ·intro hw e
  have h5:=hx.1 (by omega)
  have ho:=uO (c:=c) (m:=m) h5
  dsimp only [nn,gV,toW]
  split
  ·exact ⟨fP (.inr (.inr (.inr (.inl e)))) (by show (dq c m x.2.2.1).2.1<5;omega),cm _ _ hw (ca h5) (by omega) (fun h=>by have:=h.1;simp only at this;omega)⟩
  ·split
   ·exact ⟨fP (.inr (.inr (.inr (.inr rfl)))) (show (3:Int)<5 by decide),cm _ _ hw (ca h5) (by omega) (fun h=>by have:=h.1;simp only at this;omega)⟩
   ·exact ⟨en (.inr (.inr (.inr (.inr (.inl rfl))))),cm _ _ hw (ca h5) (by omega) (fun h=>by have:=h.1;simp only at this;omega)⟩
 ·intro hw e
  have h5:=hx.1 (by omega)
  have ho:=uO (c:=c) (m:=m) h5
  dsimp only [ng,toW]
  split
  ·exact ⟨fP (.inr (.inr (.inr (.inr e)))) (by show (dq c m x.2.2.1).2.1<5;omega),cm _ _ hw (ca h5) (by omega) (fun h=>by have:=h.1;simp only at this;omega)⟩
  ·split
   ·exact ⟨en (.inr (.inr (.inl rfl))),cm _ _ hw (ca h5) (by omega) (fun h=>by have:=h.1;simp only at this;omega)⟩
   ·exact ⟨en (.inr (.inr (.inr (.inr (.inl rfl))))),cm _ _ hw (ca h5) (by omega) (fun h=>by have:=h.1;simp only at this;omega)⟩
 ·intro hw e
  dsimp only [D1,gV,toW]
  split
  ·exact ⟨Mp rfl ⟨rfl,⟨Int.le_refl 0,(by decide:(0:Int)≤2)⟩,rfl,fun h=>absurd h (show ¬ (0:Int)=2 by decide)⟩,cm _ _ hw sm (by omega) (fun h=>by have:=h.1;simp only at this;omega)⟩
  ·exact ⟨en (.inr (.inr (.inl rfl))),cm _ _ hw sm (by omega) (fun h=>by have:=h.1;simp only at this;omega)⟩
 ·intro hw e
  obtain ⟨a1,a2,_,a4,_⟩:=fH hw
  obtain ⟨f1,f2,f3,f4⟩:=hx.2.2.2.2 e
  obtain ⟨hE,hF⟩:=Nz (pk0:=False) (pk1:=False) (me:=w) a1 a2 hm hf (fun h=>h) hl f1 f2 f3 f4
  dsimp only [nr]
  rw [lA f1]
  by_cases ho:cr (dt c m x.2.2.1).2=true
  ·rw [if_pos ho]
   exact ⟨en (.inr (.inr (.inl rfl))),hE.mono (fun h=>absurd h.1 (show ¬ (9:Int)=8 by decide)) (fun h=>h.elim) (fun v h=>h.2) (fun v h=>by rw [ho] at h;cases h.1)⟩
  ·rw [if_neg ho]
   have ho':cr (dt c m x.2.2.1).2=false:=by simpa using ho
   exact ⟨Mp e (hF ho'),hE.mono (fun h=>by have:=h.1;simp only at this;omega) (fun h=>h.elim) (fun v h=>h.2) (fun v h=>⟨e,h.2⟩)⟩
 ·intro hw e
  dsimp only [nt,toW]
  split
  ·exact ⟨en (.inr (.inr (.inl rfl))),cm _ _ hw sm (by omega) (fun h=>by have:=h.1;simp only at this;omega)⟩
  ·split
   ·exact ⟨fP (.inl rfl) (show (1:Int)<5 by decide),cm _ _ hw (s0 _) (by omega) (fun h=>by have:=h.1;simp only at this;omega)⟩
   ·exact ⟨en (.inr (.inr (.inl rfl))),cm _ _ hw (s0 _) (by omega) (fun h=>by have:=h.1;simp only at this;omega)⟩
end
section
variable {c:CF} {t:Tyt} {m:List Int} {i:Int} {x:SB}
theorem CB {f:FR} (h:f.1=3∨f.1=4∨5≤f.1):dX c m f=dq c m f:=by
 unfold dq
 rw [if_neg (by omega)]
theorem lh (h:x.1≠2) (h4:x.1≠4) {n:Int}:Fsb n x:=⟨fun e=>absurd e h,fun e=>absurd e h4⟩
theorem YD (hm:Wm m) (hf:Wf x.2.2) (hl:Ts c.1 m) (hx:Fsb c.1 x):Fsb c.1 (iD c t m i x).2.1∧Ef c m (iD c t m i x).1 False False (-1) (owS x) (owS (iD c t m i x).2.1):=by
 have cm:∀ (m':List Int) (y:SB),oR c t m x=true→(∀ j,Adr c j→aj m' j=aj m j)→x.1≠4→Ef c m m' False False (-1) (owS x) (owS y):=fun m' y hw h hx => .calm (ot hw).1 h (fun v ho=>absurd ho.1 hx) (fun hp=>hp)
 have s0:∀ v j,Adr c j→aj (aN m 0 v) j=aj m j:=fun v j hj=>ks hj.n0
 have sm:∀ j,Adr c j→aj m j=aj m j:=fun _ _=>rfl
 unfold iD
 dsimp only
 split
 ·exact ⟨hx,.same (fun _ h=>h) (fun h=>h)⟩
 rename_i hw
 have hw:oR c t m x=true:=by simpa using hw
 obtain ⟨a1,a2,_⟩:=ot hw
 split
 ·split
  ·exact ⟨lh (show (0:Int)≠2 by decide) (show (0:Int)≠4 by decide),cm _ _ hw sm (by omega)⟩
  ·exact ⟨lh (show (1:Int)≠2 by decide) (show (1:Int)≠4 by decide),cm _ _ hw sm (by omega)⟩
 split
 ·exact ⟨⟨fun _=>show (3:Int)<5 by decide,fun e=>absurd e (show ¬ (2:Int)=4 by decide)⟩,cm _ _ hw (s0 _) (by omega)⟩
 split
 ·rename_i e
  have h5:=hx.1 e
  have hb:∀ j,Adr c j→aj (dX c m x.2.2).1 j=aj m j:=by
   intro j hj
   have:=u7 (c:=c) (m:=m) hj hf h5
   unfold dX
   split
   ·unfold rk
    repeat' split
    all_goals first | with_reducible rfl | with_reducible exact HH hj hf | with_reducible exact Lq hj hf
   ·unfold A7
    rw [if_neg (by omega),if_neg (by omega)]
  have ho:(dX c m x.2.2).2.1<5:=by
   unfold dX rk A7
   repeat' split
   all_goals first | (rw [Oc];exact h5) | (rw [Tg];exact h5) | exact h5 | (exfalso;omega)
  split
  ·exact ⟨⟨fun _=>ho,fun e=>absurd e (show ¬ (2:Int)=4 by decide)⟩,cm _ _ hw hb (by omega)⟩
  ·split
   ·exact ⟨lh (show (5:Int)≠2 by decide) (show (5:Int)≠4 by decide),cm _ _ hw hb (by omega)⟩
   ·exact ⟨lh (show (3:Int)≠2 by decide) (show (3:Int)≠4 by decide),cm _ _ hw hb (by omega)⟩
 split
 ·split
  ·exact ⟨lh (show (0:Int)≠2 by decide) (show (0:Int)≠4 by decide),cm _ _ hw sm (by omega)⟩
  ·exact ⟨⟨fun e=>absurd e (show ¬ (4:Int)=2 by decide),fun _=>⟨rfl,⟨Int.le_refl 0,(by decide:(0:Int)≤2)⟩,rfl,fun h=>absurd h (show ¬ (0:Int)=2 by decide)⟩⟩,cm _ _ hw sm (by omega)⟩
 split
 ·rename_i e
  obtain ⟨f1,f2,f3,f4⟩:=hx.2 e
  obtain ⟨hE,hF⟩:=Nz (pk0:=False) (pk1:=False) (me := -1) a1 a2 hm hf (fun h=>h) hl f1 f2 f3 f4
  have hcb:dX c m x.2.2=dt c m x.2.2:=by rw [CB (by omega),lA f1]
  rw [hcb]
  by_cases ho:cr (dt c m x.2.2).2=true
  ·rw [if_pos ho]
   exact ⟨lh (show (0:Int)≠2 by decide) (show (0:Int)≠4 by decide),hE.mono (fun h=>h) (fun h=>h) (fun v h=>h.2) (fun v h=>by rw [ho] at h;cases h.1)⟩
  ·rw [if_neg ho]
   have ho':cr (dt c m x.2.2).2=false:=by simpa using ho
   exact ⟨⟨fun e=>absurd e (show ¬ (4:Int)=2 by decide),fun _=>hF ho'⟩,hE.mono (fun h=>h) (fun h=>h) (fun v h=>h.2) (fun v h=>⟨rfl,h.2⟩)⟩
 ·exact ⟨lh (show (0:Int)≠2 by decide) (show (0:Int)≠4 by decide),cm _ _ hw (s0 _) (by omega)⟩
end
def ack (W:List WB) (S:List SB) (v:Int):Prop:=(∃ y ∈ W,owW y v)∨∃ y ∈ S,owS y v
structure Sgn (p:PB):Prop where
 w:∀ (i:Nat) x,p.2.2.2.1[i]? = some x→Fwk p.1.1 i x
 s:∀ x ∈ p.2.2.2.2,Fsb p.1.1 x
 low:Ts p.1.1 p.2.2.1
 sg:∀ (i:Nat) x,p.2.2.2.1[i]? = some x→pkW x→gX (aj p.2.2.1 2) i=true∨aj p.2.2.1 (bY p.1 i)≠0∨ack p.2.2.2.1 p.2.2.2.2 i
theorem Or {α:Type} {l:List α} {i:Nat} {x y z:α} (hx:l[i]? = some x) (hz:z ∈ l):z ∈ l.set i y∨z=x:=by
 obtain ⟨j,hj,rfl⟩:=List.mem_iff_getElem.1 hz
 by_cases e:j=i
 ·subst e
  rw [List.getElem?_eq_getElem hj] at hx
  exact .inr (Option.some.inj hx)
 ·refine .inl (List.mem_iff_getElem.2 ⟨j,by rw [List.length_set];exact hj,?_⟩)
  rw [List.getElem_set_ne (fun h=>e h.symm)]
theorem iq {α:Type} {l:List α} {i:Nat} {x y:α} (hx:l[i]? = some x):y ∈ l.set i y:=
 List.mem_iff_getElem.2 ⟨i,by rw [List.length_set];exact (List.getElem?_eq_some_iff.1 hx).1,by rw [List.getElem_set_self]⟩
theorem O3 {n:Nat} {p:PB} {k:PK} (hg:Good n p) (hm:gI p=true) (hk:uI k p.1.1 p.2.2.2.2.length=true) (h:Sgn p):Sgn (gi p k).1:=by
 obtain ⟨h1,h2,h3,h4,h5⟩:=nf hm
 have wn:∀ (i:Nat) x,p.2.2.2.1[i]? = some x→(i:Int)<p.1.1:=by
  intro i x hx
  have:=(List.getElem?_eq_some_iff.1 hx).1
  omega
 refine mt (P:=fun r=>Sgn r.1) h (fun x hx hk0 => ?_) (fun x hx hms => ?_) ?_
 ·have hkk:((k.2.1.toNat:Nat):Int)=k.2.1:=by
   unfold uI at hk
   rw [decide_eq_true_eq] at hk
   omega
  have hxm:=List.mem_of_getElem? hx
  have hF:=h.w _ x hx
  rw [hkk] at hF
  obtain ⟨g1,g2⟩:=Xw (t:=p.2.1) (d:=k.2.2) hg.m (hg.w x hxm).f h.low hF
  generalize a9 p.1 p.2.1 p.2.2.1 k.2.1 x k.2.2=r at g1 g2
  obtain ⟨m',y,ev⟩:=r
  refine ⟨fun i z hz => ?_,h.s,g2.low h.low,fun i z hz hp => ?_⟩
  ·dsimp only at hz ⊢
   rw [List.getElem?_set] at hz
   split at hz
   ·rename_i e
    split at hz
    ·cases hz
     rw [← e,hkk]
     exact g1
    ·cases hz
   ·exact h.w i z hz
  ·dsimp only at hz ⊢
   have own:∀ v,0≤v→v<p.1.1→ack p.2.2.2.1 p.2.2.2.2 v→ack (p.2.2.2.1.set k.2.1.toNat y) p.2.2.2.2 v∨aj m' (bY p.1 v)≠0:=by
    intro v v0 v1 ho
    rcases ho with ⟨z,hz,ho⟩ | ⟨z,hz,ho⟩
    ·rcases Or (y:=y) hx hz with hz | rfl
     ·exact .inl (.inl ⟨z,hz,ho⟩)
     ·rcases g2.owe v v0 v1 ho with ho | ho
      ·exact .inl (.inl ⟨y,iq hx,ho⟩)
      ·exact .inr ho
    ·exact .inl (.inr ⟨z,hz,ho⟩)
   have key:∀ v:Int,0≤v→v<p.1.1→(v=k.2.1→pkW y)→(gX (aj p.2.2.1 2) v=true∨aj p.2.2.1 (bY p.1 v)≠0∨ack p.2.2.2.1 p.2.2.2.2 v)→gX (aj m' 2) v=true∨aj m' (bY p.1 v)≠0∨ack (p.2.2.2.1.set k.2.1.toNat y) p.2.2.2.2 v:=by
    intro v v0 v1 hv ho
    rcases ho with ho | ho | ho
    ·rcases g2.bit v v0 v1 ho with ho | ho
     ·exact .inl ho
     ·exact .inr (.inr (.inl ⟨y,iq hx,ho⟩))
    ·rcases g2.par v v0 v1 ho with ho | ⟨e,ho⟩
     ·exact .inr (.inl ho)
     ·exact absurd (hv e) ho
    ·rcases own v v0 v1 ho with ho | ho
     ·exact .inr (.inr ho)
     ·exact .inr (.inl ho)
   rw [List.getElem?_set] at hz
   split at hz
   ·rename_i e
    split at hz
    ·cases hz
     have hin:=wn _ x hx
     rw [hkk] at hin
     have h0k:0≤k.2.1:=by omega
     rw [← e,hkk]
     rcases g2.new hp with h0 | h0 | h0
     ·have:=h.sg _ x hx h0
      rw [hkk] at this
      exact key k.2.1 (by omega) (by omega) (fun _=>hp) this
     ·exact .inl h0
     ·exact .inr (.inl h0)
    ·cases hz
   ·rename_i e
    exact key i (by omega) (wn i z hz) (fun ee=>by exfalso;omega) (h.sg i z hz hp)
 ·have hxm:=List.mem_of_getElem? hx
  obtain ⟨g1,g2⟩:=YD (c:=p.1) (t:=p.2.1) (i:=k.2.1) hg.m (hg.s x hxm).f h.low (h.s x hxm)
  generalize iD p.1 p.2.1 p.2.2.1 k.2.1 x=r at g1 g2
  obtain ⟨m',y,ev⟩:=r
  refine ⟨h.w,fun z hz => ?_,g2.low h.low,fun i z hz hp => ?_⟩
  ·rcases wL hz with hz | rfl
   ·exact h.s z hz
   ·exact g1
  ·dsimp only at hz ⊢
   have hi:=wn i z hz
   rcases h.sg i z hz hp with ho | ho | ho
   ·rcases g2.bit i (by omega) hi ho with ho | ho
    ·exact .inl ho
    ·exact .inr (.inr (.inr ⟨y,iq hx,ho⟩))
   ·rcases g2.par i (by omega) hi ho with ho | ⟨e,_⟩
    ·exact .inr (.inl ho)
    ·exfalso;omega
   ·rcases ho with ⟨z',hz',ho⟩ | ⟨z',hz',ho⟩
    ·exact .inr (.inr (.inl ⟨z',hz',ho⟩))
    ·rcases Or (y:=y) hx hz' with hz' | rfl
     ·exact .inr (.inr (.inr ⟨z',hz',ho⟩))
     ·rcases g2.owe i (by omega) hi ho with ho | ho
      ·exact .inr (.inr (.inr ⟨y,iq hx,ho⟩))
      ·exact .inr (.inl ho)
 ·have e2:aj (aN p.2.2.1 3 1) 2=aj p.2.2.1 2:=ks (by decide)
  refine ⟨h.w,h.s,fun j a b => ?_,fun i z hz hp => ?_⟩
  ·dsimp only
   rw [e2]
   exact h.low j a b
  ·dsimp only at hz ⊢
   have e3:aj (aN p.2.2.1 3 1) (bY p.1 i)=aj p.2.2.1 (bY p.1 i):=ks (afn h1 (by omega) (wn i z hz)).n3
   rw [e2,e3]
   exact h.sg i z hz hp
end Go.Ab
set_option linter.unusedVariables false
set_option linter.unusedSimpArgs false
namespace Go.Ab
def skN (W:List WB):Nat:=W.countP eJ
theorem Vu {W:List WB} {i:Nat} {x y:WB} (h:W[i]? = some x):skN (W.set i y)+(if eJ x=true then 1 else 0)=skN W+if eJ y=true then 1 else 0:=by
 obtain ⟨hi,rfl⟩:=List.getElem?_eq_some_iff.1 h
 unfold skN
 rw [List.countP_set hi]
 by_cases h2:eJ W[i]=true
 ·have:0<W.countP eJ:=List.countP_pos_iff.2 ⟨_,List.getElem_mem hi,h2⟩
  simp only [h2,if_true]
  omega
 ·simp only [h2,if_false]
  simp
theorem abo {c:CF} {t:Tyt} {m:List Int} {i:Int} {x:SB} (hf:Wf x.2.2):aj (iD c t m i x).1 1=aj m 1:=by
 have h1:(1:Int)=0∨(1:Int)=1∨(1:Int)=3:=by decide
 have hk:aj (dX c m x.2.2).1 1=aj m 1:=by
  unfold dX rk A7
  repeat' split
  all_goals first | with_reducible rfl | with_reducible exact Jr h1 hf | with_reducible exact Ib h1 hf | with_reducible exact EG h1 hf | with_reducible exact E6 h1 hf
 have h0:∀ v,aj (aN m 0 v) 1=aj m 1:=fun v=>ks (by decide)
 unfold iD
 dsimp only
 repeat' split
 all_goals first | rfl | exact hk | exact h0 _ | (dsimp only;first | rfl | exact hk | exact h0 _)
def Skn (p:PB):Prop:=aj p.2.2.1 1=(skN p.2.2.2.1:Int)
theorem Pe {n:Nat} {p:PB} {k:PK} (hg:Good n p) (hm:gI p=true) (h:Skn p):Skn (gi p k).1:=by
 have hl:=CI hm
 unfold Skn at h ⊢
 have hn:skN p.2.2.2.1≤p.2.2.2.1.length:=List.countP_le_length
 refine mt (P:=fun r=>aj r.1.2.2.1 1=(skN r.1.2.2.2.1:Int)) h (fun x hx _ => ?_) (fun x hx _ => ?_) ?_
 ·have hs:=Mc (c:=p.1) (t:=p.2.1) (w:=k.2.1) (d:=k.2.2) hg.m (by omega) (hg.w x (List.mem_of_getElem? hx)).f
  have hc:=Vu (y:=(a9 p.1 p.2.1 p.2.2.1 k.2.1 x k.2.2).2.1) hx
  dsimp only
  rw [hs,h]
  generalize (a9 p.1 p.2.1 p.2.2.1 k.2.1 x k.2.2).2.1=y at hc ⊢
  unfold J6
  cases hb:eJ x <;> cases hy:eJ y <;> rw [hb,hy] at hc
  ·simp at hc ⊢;omega
  ·simp at hc
   rw [if_neg (by decide),if_pos rfl,kQ (by omega) (by omega)]
   omega
  ·simp at hc
   rw [if_neg (by decide),if_neg (by decide),kQ (by omega) (by omega)]
   omega
  ·simp at hc ⊢;omega
 ·dsimp only
  rw [abo (hg.s x (List.mem_of_getElem? hx)).f]
  exact h
 ·have:aj (aN p.2.2.1 3 1) 1=aj p.2.2.1 1:=ks (by decide)
  dsimp only
  rw [this]
  exact h
theorem Mh {c:CF} {t:Tyt} {roots:List (List Int)}:Sgn (Aa c t roots)∧Skn (Aa c t roots):=by
 have key:∀ (i:Nat) x,(kT c.1.toNat)[i]? = some x→x=Qk i:=by
  intro i x hx
  unfold kT at hx
  rw [List.getElem?_map,Option.map_eq_some_iff] at hx
  obtain ⟨j,hj,rfl⟩:=hx
  obtain ⟨hi,rfl⟩:=List.getElem?_eq_some_iff.1 hj
  rw [List.getElem_range]
 refine ⟨⟨fun i x hx => ?_,fun x hx => ?_,fun j _ _ => ?_,fun i x hx hp => ?_⟩,?_⟩
 ·rw [key i x hx]
  exact fP (.inl rfl) (show (1:Int)<5 by decide)
 ·have hx':x ∈ kU roots:=hx
  unfold kU at hx'
  obtain ⟨l,_,rfl⟩:=List.mem_map.1 hx'
  exact lh (show (0:Int)≠2 by decide) (show (0:Int)≠4 by decide)
 ·show gX (aj (List.replicate (cP c).toNat 0) 2) j=false
  rw [wJ]
  unfold gX
  rw [Int.zero_ediv]
  rfl
 ·rw [key i x hx] at hp
  exact absurd hp.1 (show ¬ (0:Int)=8 by decide)
 ·unfold Skn
  show aj (List.replicate (cP c).toNat 0) 1=(skN (kT c.1.toNat):Int)
  rw [wJ]
  have:skN (kT c.1.toNat)=0:=by
   unfold skN kT
   rw [List.countP_map,List.countP_eq_zero]
   intro i _
   exact Bool.false_ne_true
  rw [this]
  rfl
theorem JJ (f:FR):gq f=some (De f):=by
 obtain ⟨a0,a1,a2,a3,a4,a5,a6⟩:=f
 unfold gq De
 simp only [lX,af,cr,my]
 by_cases h1:a0=5
 ·by_cases h2:a6=0
  ·simp [h1,h2]
  ·have:(a6 !=0)=true:=by simp [h2]
   simp [h1,h2,this]
 ·simp [h1]
def WS (x:WB):Bool:=decide (x.1=8)&&De x.2.2.1
theorem Kc (x:WB):gC x=some (WS x):=by
 unfold gC WS
 try simp only [Prod.eta]
 rw [JJ,af,my]
 by_cases h:x.1=8
 ·rw [decide_eq_true h,cond_true,Bool.true_and]
 ·rw [decide_eq_false h,cond_false,Bool.false_and]
end Go.Ab
set_option linter.unusedVariables false
namespace Go.Ab
def neD (c:CF) (m:List Int) (v:Int):Prop:=0<nb (aj m (wF c v)) (aj m (mW c v))∧nb (aj m (wF c v)) (aj m (mW c v))≤c.2.1
def neI (m:List Int):Prop:=0<nb (aj m 5) (aj m 4)
theorem U0 {k:Nat} (hk:1000≤k) (c:CF) (m:List Int) (v:Int):∃ l b,kE k c m v=some (l,b)∧l.length≤16∧(l=[]∨neD c m v):=by
 unfold kE
 try simp only [Prod.eta]
 rw [fJ,af]
 cases hm:eM c with
 | false=>exact ⟨_,_,rfl,by simp,.inl rfl⟩
 | true=>
  have hc:=aR hm
  rw [Bool.not_true,cond_false,ud,af]
  cases hb:((m.length:Int)!=cP c) with
  | true=>exact ⟨_,_,rfl,by simp,.inl rfl⟩
  | false=>
   rw [cond_false]
   by_cases h0:v<0
   ·rw [ltT h0]
    exact ⟨_,_,rfl,by simp,.inl rfl⟩
   rw [ltF (by omega),cond_false]
   by_cases h1:c.1≤v
   ·rw [leT h1]
    exact ⟨_,_,rfl,by simp,.inl rfl⟩
   rw [leF (by omega),cond_false,Ng,af,dD,af,KJ,af,dD,af,GX,af]
   by_cases h2:nb (aj m (wF c v)) (aj m (mW c v))<0
   ·rw [ltT h2]
    exact ⟨_,_,rfl,by simp,.inl rfl⟩
   rw [ltF (by omega),cond_false]
   by_cases h3:c.2.1<nb (aj m (wF c v)) (aj m (mW c v))
   ·rw [ltT h3]
    exact ⟨_,_,rfl,by simp,.inl rfl⟩
   rw [ltF (by omega),cond_false]
   generalize hn:nb (aj m (wF c v)) (aj m (mW c v))=n at h2 h3
   have key:∀ (d f i:Nat) (acc:List Int) (e:Nat),(i:Int)+d=n→d<f→acc.length=i→(e=1∨e=0)→∃ l,dH k c m v f (aj m (mW c v)) n acc (i:Int) e=some (l,true)∧(l.length:Int)=n:=by
    intro d
    induction d with
    | zero=>
     intro f i acc e hi hf ha he
     obtain ⟨f,rfl⟩:=ir hf
     rw [dH,ltF (by omega),cond_false]
     exact ⟨acc,rfl,by omega⟩
    | succ d ih=>
     intro f i acc e hi hf ha he
     obtain ⟨f,rfl⟩:=ir hf
     have hes:(e==1||e==0)=true:=by rcases he with rfl | rfl <;> rfl
     rw [dH,ltT (by omega),cond_true]
     simp only [Prod.eta]
     rw [Ip _ _ (Hv _).1 (Hv _).2,af,dD,af,hes,cf,C2 (by rw [List.length_append];simp;omega),cond_true,gH (by omega)]
     exact ih f (i+1) _ 1 (by omega) (by omega) (by rw [List.length_append];simp;omega) (.inl rfl)
   obtain ⟨l,hl,hll⟩:=key n.toNat (k+12) 0 [] 0 (by omega) (by omega) rfl (.inr rfl)
   refine ⟨l,true,hl,by omega,?_⟩
   by_cases hz:n=0
   ·exact .inl (List.length_eq_zero_iff.1 (by omega))
   ·refine .inr ?_
    unfold neD
    rw [hn]
    omega
theorem U1 (a b:Int):IntKind.i64.wrap (nb a b)=nb a b:=by
 unfold nb
 simp [IntKind.wrap,IntKind.bits,IntKind.signed]
 omega
theorem QR {k:Nat} (hk:9223372036854779000≤k) {p:PB} (ht:Wt p.2.1) (hw:∀ x ∈ p.2.2.2.1,x.2.1.length≤9000) (hs:∀ x ∈ p.2.2.2.2,x.2.1.length≤1000) (hm:gI p=true) :
  ∃ z,fm k p=some z∧((∀ v:Int,0≤v→v<p.1.1→¬ neD p.1 p.2.2.1 v)→z=nb (aj p.2.2.1 5) (aj p.2.2.1 4)):=by
 obtain ⟨m1,m2,m3,m4,m5⟩:=nf hm
 have hc:=aR m1
 unfold fm
 rw [HY hk ht hw hs,hm,af,Bool.not_true,cond_false]
 have hlen:iu p.1 p.2.2.1=some (nb (aj p.2.2.1 5) (aj p.2.2.1 4)):=by
  have h0:0<p.2.2.2.1.length:=by omega
  have hsz:=(fH (m4 0 _ (List.getElem?_eq_getElem h0))).2.1
  unfold iu iO
  try simp only [Prod.eta]
  rw [fJ,af,m1,cond_true,ud,af,my,decide_eq_true hsz,af,Bool.not_true,cond_false,dD,af,dD,af,GX,af]
 rw [hlen,af]
 have key:∀ (d f i:Nat) (z:Int),(i:Int)+d=p.1.1→d<f→∃ z',cN k p f z (i:Int)=some z'∧((∀ v:Int,(i:Int)≤v→v<p.1.1→¬ neD p.1 p.2.2.1 v)→IntKind.i64.wrap z=z→z'=z):=by
  intro d
  induction d with
  | zero=>
   intro f i z hi hf
   obtain ⟨f,rfl⟩:=ir hf
   rw [cN,ltF (by omega),cond_false]
   exact ⟨z,rfl,fun _ _=>rfl⟩
  | succ d ih=>
   intro f i z hi hf
   obtain ⟨f,rfl⟩:=ir hf
   obtain ⟨l,b,hl,hl16,hne⟩:=U0 (k:=k+22) (by omega) p.1 p.2.2.1 (i:Int)
   rw [cN,ltT (by omega),cond_true]
   simp only [Prod.eta]
   rw [hl,af,gH (by omega)]
   obtain ⟨z',h1,h2⟩:=ih f (i+1) (IntKind.i64.wrap (z+(l.length:Int))) (by omega) (by omega)
   refine ⟨z',h1,fun hv hz => ?_⟩
   rcases hne with rfl | hne
   ·have e:IntKind.i64.wrap (z+(([]:List Int).length:Int))=z:=by simpa using hz
    rw [e] at h2
    exact h2 (fun v a b=>hv v (by omega) b) hz
   ·exact absurd hne (hv i (Int.le_refl _) (by omega))
 obtain ⟨z,h1,h2⟩:=key p.1.1.toNat (k+35) 0 (nb (aj p.2.2.1 5) (aj p.2.2.1 4)) (by omega) (by omega)
 exact ⟨z,h1,fun hv=>h2 hv (U1 _ _)⟩
end Go.Ab
set_option linter.unusedVariables false
namespace Go.Ab
structure Hdr (c:CF) (j:Int):Prop where
 bot:∀ w,wF c w≠j
 slot:∀ w x,0≤x→x≤18446744073709551615→o4 c w x≠j
 seq:∀ x,uq c x≠j
 val:∀ x,H4 c x≠j
 park:∀ w,bY c w≠j
 n0:(0:Int)≠j
 n1:(1:Int)≠j
 n2:(2:Int)≠j
 n3:(3:Int)≠j
 n5:(5:Int)≠j
theorem mB {c:CF} {w x:Int} (hx:0≤x):onW c w x = -1∨eM c=true∧0≤w∧w<c.1∧onW c w x=6+2*c.2.2.1+(w*(3+c.2.1)+x)∧8≤onW c w x:=by
 unfold onW
 split
 ·rename_i h
  have hm:=aR h.1
  have:=dh h.1 h.2.1 (by omega)
  refine .inr ⟨h.1,h.2.1,h.2.2,?_,by omega⟩
  unfold A3
  omega
 ·exact .inl rfl
theorem LU {c:CF} {x:Int}:uq c x = -1∨eM c=true∧6≤uq c x∧uq c x<6+c.2.2.1:=by
 unfold uq
 split
 ·rename_i h
  have hm:=aR h
  have a:=Int.emod_nonneg x (show c.2.2.1≠0 by omega)
  have b:=Int.emod_lt_of_pos x (show 0<c.2.2.1 by omega)
  exact .inr ⟨h,by omega,by omega⟩
 ·exact .inl rfl
theorem Oq {c:CF} {x:Int}:H4 c x = -1∨eM c=true∧6+c.2.2.1≤H4 c x∧H4 c x<6+2*c.2.2.1:=by
 unfold H4
 split
 ·rename_i h
  have hm:=aR h
  have a:=Int.emod_nonneg x (show c.2.2.1≠0 by omega)
  have b:=Int.emod_lt_of_pos x (show 0<c.2.2.1 by omega)
  exact .inr ⟨h,by omega,by omega⟩
 ·exact .inl rfl
theorem rL {c:CF} {w:Int}:bY c w=onW c w 2:=by
 unfold bY onW
 rfl
theorem aej {c:CF}:Hdr c 4:=by
 refine ⟨fun w => ?_,fun w x h0 h1 => ?_,fun x => ?_,fun x => ?_,fun w => ?_,by decide,by decide,by decide,by decide,by decide⟩
 ·have:=mB (c:=c) (w:=w) (x:=1) (by decide)
  unfold wF
  omega
 ·unfold o4
  by_cases hc:eM c=true
  ·have hm:=aR hc
   have ha:=rZ h0 h1 (show 1≤c.2.1 by omega) (by omega)
   have:=mB (c:=c) (w:=w) (x:=3+uM .u64 x (c.2.1 - 1)) (by omega)
   omega
  ·unfold onW
   rw [if_neg (fun h=>hc h.1)]
   decide
 ·have:=LU (c:=c) (x:=x)
  omega
 ·have:=Oq (c:=c) (x:=x)
  have h:=fun h=>aR (c:=c) h
  rcases this with e | ⟨e,_⟩
  ·omega
  ·have:=h e
   omega
 ·have:=mB (c:=c) (w:=w) (x:=2) (by decide)
  rw [rL]
  omega
theorem ahp {c:CF} {v:Int} (hc:eM c=true) (h0:0≤v) (h1:v<c.1):Hdr c (mW c v):=by
 have hm:=aR hc
 have ht:=dh hc h0 (by omega)
 have hp:mW c v=6+2*c.2.2.1+(v*(3+c.2.1)+0):=by
  unfold mW onW
  rw [if_pos ⟨hc,h0,h1⟩,A3]
  omega
 have hv:0≤v*(3+c.2.1):=ht.2.2.2
 have gen:∀ w x:Int,0<x→x<3+c.2.1→onW c w x≠mW c v:=by
  intro w x x0 x1
  rw [hp]
  rcases mB (c:=c) (w:=w) (x:=x) (by omega) with e | ⟨_,_,_,e,_⟩
  ·omega
  ·rw [e]
   have:=HR (a:=w) (b:=v) hm.2.2.1 (x:=x) (y:=0) (by omega) (by omega) (by omega)
   omega
 refine ⟨fun w=>gen w 1 (by decide) (by omega),fun w x g0 g1 => ?_,fun x => ?_,fun x => ?_,fun w=>by rw [rL];exact gen w 2 (by decide) (by omega),by omega,by omega,by omega,by omega,by omega⟩
 ·have ha:=rZ g0 g1 (show 1≤c.2.1 by omega) (by omega)
  exact gen w _ (by omega) (by omega)
 ·have:=LU (c:=c) (x:=x)
  omega
 ·have:=Oq (c:=c) (x:=x)
  omega
theorem Hd (m:List Int) (i o j:Int):aj (nZ m i o (kr o 1)).1 j=aj m j∨aj (nZ m i o (kr o 1)).1 j=kr (aj m j) 1:=by
 unfold nZ
 split
 ·rename_i h
  by_cases e:i=j
  ·subst e
   dsimp only
   rw [ga _ h.1 h.2.1,h.2.2]
   exact .inr rfl
  ·exact .inl (aL _ e)
 ·exact .inl rfl
section
variable {c:CF} {m:List Int} {f:FR} {j:Int} (hj:Hdr c j) (hf:Wf f)
include hj hf
theorem Ut:aj (nK c m f).1 j=aj m j:=by
 have w4:=hf.2.1
 unfold nK
 repeat' split
 all_goals first | rfl | exact ks (hj.slot _ _ w4.1 w4.2) | exact ks (hj.bot _)
theorem abE:aj (FQ c m f).1 j=aj m j∨aj (FQ c m f).1 j=kr (aj m j) 1:=by
 have _h:=hf
 unfold FQ
 dsimp only
 repeat' split
 all_goals first | exact .inl rfl | exact .inl (ks (hj.bot _)) | exact Hd _ _ _ _
theorem PC:aj (ie c m f).1 j=aj m j∨aj (ie c m f).1 j=kr (aj m j) 1:=by
 have _h:=hf
 have _h2:=hj
 unfold ie
 dsimp only
 repeat' split
 all_goals first | exact .inl rfl | exact Hd _ _ _ _
theorem acW:aj (pf c m f).1 j=aj m j:=by
 have _h:=hf
 unfold pf
 try dsimp only
 repeat' split
 all_goals first | rfl | exact ks (hj.seq _) | exact ks (hj.val _) | exact kc hj.n5
theorem Y3:aj (F1 c m f).1 j=aj m j∨aj (F1 c m f).1 j=kr (aj m j) 1:=by
 have _h:=hf
 unfold F1
 try dsimp only
 repeat' split
 all_goals first | exact .inl rfl | exact .inl (ks (hj.seq _)) | exact Hd _ _ _ _
theorem Xl:aj (eD c m f).1 j=aj m j:=by
 have _h:=hf
 unfold eD
 try dsimp only
 repeat' split
 all_goals first | rfl | exact ks (hj.park _) | exact kc hj.n2
theorem Vo:aj (dt c m f).1 j=aj m j:=by
 have _h:=hf
 unfold dt A6
 try dsimp only
 repeat' split
 all_goals first | rfl | exact ks (hj.park _) | exact ks hj.n2
theorem IP:aj (dX c m f).1 j=aj m j∨aj (dX c m f).1 j=kr (aj m j) 1:=by
 unfold dX rk A7
 repeat' split
 all_goals first | exact .inl rfl | exact .inl (acW hj hf) | exact Y3 hj hf | exact .inl (Xl hj hf) | exact .inl (Vo hj hf)
theorem RH:aj (dq c m f).1 j=aj m j∨aj (dq c m f).1 j=kr (aj m j) 1:=by
 unfold dq Be
 repeat' split
 all_goals first | exact .inl rfl | exact .inl (Ut hj hf) | exact abE hj hf | exact PC hj hf | exact IP hj hf
end
section
variable {c:CF} {t:Tyt} {m:List Int} {w:Int} {x:WB} {d:Int} {j:Int}
theorem Mg (hj:Hdr c j) (hf:Wf x.2.2.1):aj (a9 c t m w x d).1 j=aj m j∨aj (a9 c t m w x d).1 j=kr (aj m j) 1:=by
 have hk:=RH (m:=m) hj hf
 refine ff (P:=fun r=>aj r.1 j=aj m j∨aj r.1 j=kr (aj m j) 1) (fun _ => .inl rfl) ?_ ?_ ?_ ?_ ?_ ?_ ?_ ?_ ?_ ?_ ?_ ?_ ?_ ?_ ?_
 all_goals intro _ _
 all_goals dsimp only [Eo,oa,mw,ii,mP,k7,bQ,bV,En,mX,nn,ng,D1,nr,nt]
 all_goals repeat' split
 all_goals first | exact .inl rfl | exact hk | exact .inl (ks hj.n0) | exact .inl (ks hj.n1)
theorem Uk {i:Int} {y:SB} (hj:Hdr c j) (hf:Wf y.2.2):aj (iD c t m i y).1 j=aj m j∨aj (iD c t m i y).1 j=kr (aj m j) 1:=by
 have hk:=IP (m:=m) hj hf
 unfold iD
 dsimp only
 repeat' split
 all_goals first | exact .inl rfl | exact hk | exact .inl (ks hj.n0) | (dsimp only;first | exact .inl rfl | exact hk | exact .inl (ks hj.n0))
end
theorem X9 (e m:Int):epB (uH e m)=e%281474976710656:=by unfold epB uH;omega
theorem Mw {X:Int} (h:epB X+1<281474976710656) (h0:0≤X):epB (m8 X)=epB X+1:=by
 unfold m8
 rw [X9]
 unfold epB at *
 omega
structure Ew (c:CF) (m m':List Int) (me:Int):Prop where
 ep:epB (aj m' 2)=epB (aj m 2)∨epB (aj m' 2)=epB (aj m 2)+1
 bit:∀ v,0≤v→v<c.1→v≠me→gX (aj m' 2) v=true→gX (aj m 2) v=true
theorem Ew.same {c:CF} {m m':List Int} {me:Int} (h:aj m' 2=aj m 2):Ew c m m' me:=⟨.inl (by rw [h]),fun v _ _ _ hb=>by rw [h] at hb;exact hb⟩
section
variable {c:CF} {m:List Int} {f:FR} (hc:eM c=true) (hl:(m.length:Int)=cP c) (hm:Wm m) (hf:Wf f)
include hc hl hm hf
theorem WP (h1:f.1=5):Ew c m (eD c m f).1 f.2.2.1:=by
 have _h:=And.intro hl hf
 have hmc:=aR hc
 unfold eD
 split
 ·exact .same rfl
 rename_i hg
 have hg':lM c m f 5 5=true:=by simpa using hg
 unfold lM at hg'
 simp only [Bool.and_eq_true,decide_eq_true_eq] at hg'
 split
 ·exact .same rfl
 split
 ·split <;> exact .same rfl
 split
 ·dsimp only
  unfold nZ
  split
  ·rename_i e
   have hY:=cD hm 2
   rw [e.2.2] at hY
   have h2:aj (aN m 2 (D2 f.2.2.2.2.2.1 f.2.2.1)) 2=D2 f.2.2.2.2.2.1 f.2.2.1:=ga _ (by decide) e.2.1
   refine ⟨.inl ?_,fun v v0 v1 hv hb => ?_⟩
   ·dsimp only
    rw [h2,Zs hY.1 hY.2 hg'.2.2.1 (by omega),e.2.2]
   ·dsimp only at hb
    rw [h2,Ln hY.1 hY.2 hg'.2.2.1 (by omega) v0,decide_eq_false hv,Bool.false_or] at hb
    rw [e.2.2]
    exact hb
  ·exact .same rfl
 split
 ·exact .same rfl
 ·refine .same (aL _ ?_)
  have:=mB (c:=c) (w:=f.2.2.1) (x:=2) (by decide)
  rw [rL]
  omega
theorem Mv {me:Int} (h1:f.1=6) (he:epB (aj m 2)+1<281474976710656):Ew c m (dt c m f).1 me:=by
 have _h:=hm
 have hs:=iL hc
 have hmc:=aR hc
 have hX:=hf.2.1
 have hpk:∀ u,bY c u≠2:=fun u=>by
  have:=mB (c:=c) (w:=u) (x:=2) (by decide)
  rw [rL]
  omega
 unfold dt
 split
 ·exact .same rfl
 split
 ·exact .same rfl
 split
 ·split
  ·rename_i e
   dsimp only
   try rw [if_pos h1]
   have h2:aj (aN m 2 (m8 f.2.2.2.2.1)) 2=m8 f.2.2.2.2.1:=ga _ (by decide) (by omega)
   refine ⟨.inr ?_,fun v v0 v1 hv hb => ?_⟩
   ·rw [h2,e]
    rw [e] at he
    exact Mw he hX.1
   ·rw [h2,pY hX.1 hX.2 v0 (by omega),Bool.and_eq_true] at hb
    rw [e]
    exact hb.1
  ·exact .same rfl
 ·split
  ·unfold A6
   exact .same (aL _ (hpk _))
  ·unfold A6
   exact .same (aL _ (hpk _))
end
end Go.Ab
set_option linter.unusedVariables false
namespace Go.Ab
def NE (c:CF) (m:List Int) (j:Int):Prop:=(j=1∧neI m)∨∃ v,0≤v∧v<c.1∧j=2*v+3∧neD c m v
structure Qs (c:CF) (m m':List Int):Prop where
 h4:aj m' 4=aj m 4
 h5:aj m' 5=aj m 5
 top:∀ v,0≤v→v<c.1→aj m' (mW c v)=aj m (mW c v)
 bot:∀ v,0≤v→v<c.1→aj m' (wF c v)=aj m (wF c v)
theorem Qs.refl {c:CF} {m:List Int}:Qs c m m:=⟨rfl,rfl,fun _ _ _=>rfl,fun _ _ _=>rfl⟩
theorem Qs.ne {c:CF} {m m':List Int} (h:Qs c m m') {j:Int} (hn:NE c m' j):NE c m j:=by
 rcases hn with ⟨e,hn⟩ | ⟨v,v0,v1,e,hn⟩
 ·unfold neI at hn
  rw [h.h4,h.h5] at hn
  exact .inl ⟨e,hn⟩
 ·unfold neD at hn
  rw [h.top v v0 v1,h.bot v v0 v1] at hn
  exact .inr ⟨v,v0,v1,e,hn⟩
theorem Qs.low {c:CF} {m:List Int} {i v:Int} (h:i=0∨i=1∨i=2∨i=3):Qs c m (aN m i v):=by
 have g:∀ w x:Int,0≤x→i≠onW c w x:=fun w x hx=>by
  have:=mB (c:=c) (w:=w) hx
  have hn:onW c w x = -1∨8≤onW c w x:=by omega
  omega
 exact ⟨aL _ (by omega),aL _ (by omega),fun w _ _=>aL _ (g w 0 (by decide)),fun w _ _=>aL _ (g w 1 (by decide))⟩
theorem Qs.park {c:CF} {m:List Int} {u v:Int} (hc:eM c=true):Qs c m (aN m (bY c u) v):=by
 have hmc:=aR hc
 have g:∀ w,0≤w→w<c.1→∀ x:Int,x=0∨x=1→bY c u≠onW c w x:=fun w w0 w1 x hx=>by
  have ht:=dh hc w0 (by omega)
  have hw:onW c w x=6+2*c.2.2.1+(w*(3+c.2.1)+x):=by
   unfold onW
   rw [if_pos ⟨hc,w0,w1⟩,A3]
   omega
  have hw0:0≤w*(3+c.2.1):=ht.2.2.2
  rw [rL]
  rcases mB (c:=c) (w:=u) (x:=2) (by decide) with e | ⟨_,u0,u1,e,_⟩
  ·omega
  ·rw [e,hw]
   have:=HR (a:=u) (b:=w) hmc.2.2.1 (x:=2) (y:=x) (by omega) (by omega) (by omega)
   omega
 refine ⟨aL _ (aej.park u),aL _ ?_,fun w w0 w1=>aL _ (g w w0 w1 0 (.inl rfl)),fun w w0 w1=>aL _ (g w w0 w1 1 (.inr rfl))⟩
 rw [rL]
 have:=mB (c:=c) (w:=u) (x:=2) (by decide)
 omega
theorem WL {c:CF} {m:List Int} {f:FR} (hc:eM c=true):Qs c m (eD c m f).1:=by
 unfold eD
 try dsimp only
 repeat' split
 all_goals first | exact .refl | exact .park hc | (unfold nZ;split <;> first | exact .low (.inr (.inr (.inl rfl))) | exact .refl)
theorem V6 {c:CF} {m:List Int} {f:FR} (hc:eM c=true):Qs c m (dt c m f).1:=by
 unfold dt A6
 try dsimp only
 repeat' split
 all_goals first | exact .refl | exact .park hc | exact .low (.inr (.inr (.inl rfl)))
def K3 (c:CF) (k:Int):Int:=if k=1 then 4 else mW c ((k - 2)/2)
structure Fj (c:CF) (m:List Int) (x:WB):Prop where
 ep:x.1=6∨x.1=7∨x.1=8∧x.2.2.1.2.1≤2→epB x.2.2.1.2.2.2.2.1≤epB (aj m 2)
 pc:x.1=8→1≤x.2.2.1.2.1
 ey:x.1=8→x.2.2.1.2.1=2→epB x.2.2.1.2.2.2.2.2.1=epB x.2.2.1.2.2.2.2.1
 lk:x.1=7→0≤x.2.2.2.2∧x.2.2.2.2<2+2*c.1∧(x.2.2.2.2%2=1→0≤x.2.2.1.2.2.2.1∧x.2.2.1.2.2.2.1≤aj m (K3 c x.2.2.2.2))
def Act (m:List Int) (w:Int) (x:WB) (j:Int):Prop:=
 (x.1≠7∧x.1≠8)∨(x.1=7∧x.2.2.2.2≤j)∨((x.1=7∨x.1=8∧x.2.2.1.2.1≤2)∧epB x.2.2.1.2.2.2.2.1<epB (aj m 2))∨(x.1=8∧3≤x.2.2.1.2.1∧gX (aj m 2) w=false)
theorem Act.mono {m m':List Int} {w:Int} {x:WB} {j:Int} (h:Act m w x j) (he:epB (aj m 2)≤epB (aj m' 2)) (hb:gX (aj m' 2) w=true→gX (aj m 2) w=true):Act m' w x j:=by
 rcases h with h | h | ⟨h,h2⟩ | ⟨h,h2,h3⟩
 ·exact .inl h
 ·exact .inr (.inl h)
 ·exact .inr (.inr (.inl ⟨h,by omega⟩))
 ·refine .inr (.inr (.inr ⟨h,h2,?_⟩))
  cases hh:gX (aj m' 2) w with
  | false=>rfl
  | true=>rw [hb hh] at h3;cases h3
theorem Fj.mono {c:CF} {m m':List Int} {x:WB} (h:Fj c m x) (he:epB (aj m 2)≤epB (aj m' 2)) (hh:∀ k,0≤k→k<2+2*c.1→aj m (K3 c k)≤aj m' (K3 c k)):Fj c m' x:=
 ⟨fun e=>Int.le_trans (h.ep e) he,h.pc,h.ey,fun e=>⟨(h.lk e).1,(h.lk e).2.1,fun o=>⟨((h.lk e).2.2 o).1,Int.le_trans ((h.lk e).2.2 o).2 (hh _ (h.lk e).1 (h.lk e).2.1)⟩⟩⟩
theorem UD {a t h:Int} (hp:0<nb a t) (h0:0≤h) (ht:h≤t) (hb:t≤1000000) (hd:nb a t≤1000000) (ha:0≤a∧a≤18446744073709551615):0<nb a h∧a≠h:=by
 unfold nb at *
 rw [m9] at *
 simp only [IntKind.wrap,IntKind.bits,IntKind.signed] at *
 simp at *
 omega
section
variable {c:CF} {t:Tyt} {m:List Int} {w:Int} {x:WB} {d:Int}
theorem Az (h6:x.1≠6) (h7:x.1≠7) (h8:x.1≠8):(a9 c t m w x d).2.1.1≠7∧(a9 c t m w x d).2.1.1≠8:=by
 refine ff (P:=fun r=>r.2.1.1≠7∧r.2.1.1≠8) (fun _=>⟨h7,h8⟩) ?_ ?_ ?_ ?_ ?_ ?_ ?_ ?_ ?_ ?_ ?_ ?_ ?_ ?_ ?_
 all_goals intro _ e
 all_goals first | exact absurd e h6 | exact absurd e h7 | exact absurd e h8 | skip
 all_goals dsimp only [Eo,oa,mw,ii,mP,En,mX,nn,ng,D1,nr,nt,toW,gV]
 all_goals repeat' split
 all_goals (try dsimp only) <;> omega
theorem Me (hm:dm c t m w x=true) (h:x.1=6):a9 c t m w x d=k7 m x:=by
 unfold a9
 rw [if_neg (by rw [hm];decide),if_neg (by omega),if_neg (by omega),if_neg (by omega),if_neg (by omega),if_neg (by omega),if_pos h]
theorem Mo (hm:dm c t m w x=true) (h:x.1=7):a9 c t m w x d=bQ c m x:=by
 unfold a9
 rw [if_neg (by rw [hm];decide),if_neg (by omega),if_neg (by omega),if_neg (by omega),if_neg (by omega),if_neg (by omega),if_neg (by omega),if_pos h]
theorem Nj (hm:dm c t m w x=true) (h:x.1=8):a9 c t m w x d=bV c m x:=by
 unfold a9
 rw [if_neg (by rw [hm];decide),if_neg (by omega),if_neg (by omega),if_neg (by omega),if_neg (by omega),if_neg (by omega),if_neg (by omega),if_neg (by omega),if_pos h]
theorem DK (hc1:1≤c.1) (hk:0≤x.2.2.2.2∧x.2.2.2.2<2+2*c.1):(bQ c m x).1=m∧((bQ c m x).2.1.1=1 ∨
  ((bQ c m x).2.1.1=7∧(bQ c m x).2.1.2.2.2.2=x.2.2.2.2+1∧x.2.2.2.2+1<2+2*c.1∨(bQ c m x).2.1.1=8∧(bQ c m x).2.1.2.2.2.2=0∧x.2.2.2.2+1=2+2*c.1) ∧
  (bQ c m x).2.1.2.2.1.1=x.2.2.1.1∧(bQ c m x).2.1.2.2.1.2.1=x.2.2.1.2.1∧(bQ c m x).2.1.2.2.1.2.2.1=x.2.2.1.2.2.1∧(bQ c m x).2.1.2.2.1.2.2.2.2=x.2.2.1.2.2.2.2 ∧
  (x.2.2.2.2%2=0→(bQ c m x).2.1.1=7→(bQ c m x).2.1.2.2.1.2.2.2.1=aj m (K3 c (x.2.2.2.2+1))) ∧
  (x.2.2.2.2=1→aj m 5=x.2.2.1.2.2.2.1)∧(x.2.2.2.2%2=1→x.2.2.2.2≠1→¬ 0<nb (aj m (wF c ((x.2.2.2.2 - 2)/2))) x.2.2.1.2.2.2.1)):=by
 obtain ⟨pc,st,⟨op,fp,wh,va,X,Y,re⟩,sp,k⟩:=x
 dsimp only at hk ⊢
 have hn:¬ (k<0∨2+2*c.1≤k):=by omega
 unfold bQ
 dsimp only [DY]
 rw [if_neg hn]
 by_cases k0:k=0
 ·subst k0
  simp only [if_true,Bool.false_eq_true,if_false]
  rw [if_neg (show ¬ (0:Int)+1=2+2*c.1 by omega)]
  have hlt:(0:Int)+1<2+2*c.1:=by omega
  refine ⟨rfl,.inr ⟨.inl ⟨rfl,rfl,hlt⟩,rfl,rfl,rfl,rfl,fun _ _=>rfl,fun h=>absurd h (by decide),fun h=>absurd h (by decide)⟩⟩
 by_cases k1:k=1
 ·subst k1
  simp only [if_true]
  rw [if_neg (show ¬ (1:Int)=0 by decide),if_neg (show ¬ (1:Int)=0 by decide)]
  by_cases hs:aj m 5=va
  ·have hlt:(1:Int)+1<2+2*c.1:=by omega
   rw [if_neg (by simp [hs]),if_neg (show ¬ (1:Int)+1=2+2*c.1 by omega)]
   exact ⟨rfl,.inr ⟨.inl ⟨rfl,rfl,hlt⟩,rfl,rfl,rfl,rfl,fun h=>absurd h (by decide),fun _=>hs,fun _ h=>absurd rfl h⟩⟩
  ·rw [if_pos (by simp [hs])]
   exact ⟨rfl,.inl rfl⟩
 rw [if_neg k0,if_neg k0,if_neg k1,if_neg k1]
 by_cases ke:k%2=0
 ·rw [if_pos ke,if_pos ke,if_neg (by decide),if_neg (by omega)]
  refine ⟨rfl,.inr ⟨.inl ⟨rfl,rfl,by omega⟩,rfl,rfl,rfl,rfl,fun _ _ => ?_,fun h=>absurd h k1,fun h=>absurd h (by omega)⟩⟩
  unfold K3
  rw [if_neg (by omega),show (k+1 - 2)/2=(k - 2)/2 by omega]
 ·rw [if_neg ke,if_neg ke]
  by_cases hs:0<nb (aj m (wF c ((k - 2)/2))) va
  ·rw [if_pos (decide_eq_true hs)]
   exact ⟨rfl,.inl rfl⟩
  ·rw [if_neg (by rw [decide_eq_false hs];decide)]
   by_cases hl:k+1=2+2*c.1
   ·rw [if_pos hl]
    exact ⟨rfl,.inr ⟨.inr ⟨rfl,rfl,hl⟩,rfl,rfl,rfl,rfl,fun h=>absurd h ke,fun h=>absurd h k1,fun _ _=>hs⟩⟩
   ·rw [if_neg hl]
    exact ⟨rfl,.inr ⟨.inl ⟨rfl,rfl,by omega⟩,rfl,rfl,rfl,rfl,fun h=>absurd h ke,fun h=>absurd h k1,fun _ _=>hs⟩⟩
end
end Go.Ab
set_option linter.unusedVariables false
namespace Go.Ab
theorem aai {a t h:Int} (hp:0<nb a t) (h0:0≤h) (ht:h≤t) (hb:t≤1000000):a≠h:=by
 intro e
 subst e
 unfold nb at hp
 rw [m9] at hp
 simp only [IntKind.wrap,IntKind.bits,IntKind.signed] at hp
 simp at hp
 omega
section
variable {c:CF} {t:Tyt} {m:List Int} {w:Int} {x:WB} {d:Int}
theorem Kl (h5:x.1≠5) (h6:x.1≠6) (h7:x.1≠7) (h8:x.1≠8):(a9 c t m w x d).2.1.1≠6:=by
 refine ff (P:=fun r=>r.2.1.1≠6) (fun _=>h6) ?_ ?_ ?_ ?_ ?_ ?_ ?_ ?_ ?_ ?_ ?_ ?_ ?_ ?_ ?_
 all_goals intro _ e
 all_goals first | exact absurd e h5 | exact absurd e h6 | exact absurd e h7 | exact absurd e h8 | skip
 all_goals dsimp only [Eo,oa,mw,ii,En,mX,nn,ng,D1,nr,nt,toW,gV]
 all_goals repeat' split
 all_goals (try dsimp only) <;> omega
theorem aa6 (hm:dm c t m w x=true) (h:x.1=5) (hx:x.2.2.1=BL 5 w 0):a9 c t m w x d=(m,(6,x.2.1,(5,1,w,0,aj m 2,0,0),x.2.2.2),[]):=by
 obtain ⟨a,b,_,e,_⟩:=fH hm
 unfold a9
 rw [if_neg (by rw [hm];decide),if_neg (by omega),if_neg (by omega),if_neg (by omega),if_neg (by omega),if_pos h]
 unfold mP
 rw [hx,Gy a b e.1 e.2.1]
theorem Fj.free {m:List Int} {x:WB} (h6:x.1≠6) (h7:x.1≠7) (h8:x.1≠8):Fj c m x:=
 ⟨fun e=>by omega,fun e=>absurd e h8,fun e=>absurd e h8,fun e=>absurd e h7⟩
theorem Eg (hm:dm c t m w x=true) (h8:x.1=8) (hx:Fwk c.1 w x) (hp:1≤x.2.2.1.2.1) :
  (bV c m x).2.1.1=1∧(x.2.2.1.2.1=1→epB (aj m 2)≠epB x.2.2.1.2.2.2.2.1)∧x.2.2.1.2.1≠2∧x.2.2.1.2.1≠3 ∨
  (bV c m x).2.1.1=8∧(bV c m x).2.1.2.2.1.2.2.2.2.1=x.2.2.1.2.2.2.2.1 ∧
   (x.2.2.1.2.1=1∧(bV c m x).1=m∧(bV c m x).2.1.2.2.1.2.1=2∧epB (aj m 2)=epB x.2.2.1.2.2.2.2.1∧(bV c m x).2.1.2.2.1.2.2.2.2.2.1=aj m 2 ∨
    x.2.2.1.2.1=2∧(aj m 2=x.2.2.1.2.2.2.2.2.1∧(bV c m x).2.1.2.2.1.2.1=3∨aj m 2≠x.2.2.1.2.2.2.2.2.1∧(bV c m x).1=m∧(bV c m x).2.1.2.2.1.2.1=1) ∨
    x.2.2.1.2.1=3∧(bV c m x).1=m∧3≤(bV c m x).2.1.2.2.1.2.1):=by
 obtain ⟨a,b,_,e,_⟩:=fH hm
 obtain ⟨f1,f2,f3,f4⟩:=hx.2.2.2.1 h8
 have ok:OkB c m w:=⟨a,b,e.1,e.2.1⟩
 unfold bV
 rw [lK f1]
 obtain ⟨pc,st,⟨op,fp,wh,va,X,Y,re⟩,sp,k⟩:=x
 dsimp only at f1 f2 f3 f4 h8 hp ⊢
 subst f1 f3 f4 h8
 rcases (show fp=1∨fp=2∨fp=3∨fp=4 by omega) with rfl | rfl | rfl | rfl
 ·rw [afv ok]
  by_cases he:epB (aj m 2)=epB X
  ·rw [if_pos he]
   exact .inr ⟨rfl,rfl,.inl ⟨rfl,rfl,rfl,he,rfl⟩⟩
  ·rw [if_neg he]
   exact .inl ⟨rfl,fun _=>he,by decide,by decide⟩
 ·rw [af4 ok]
  by_cases he:aj m 2=Y
  ·rw [if_pos he]
   exact .inr ⟨rfl,rfl,.inr (.inl ⟨rfl,.inl ⟨he,rfl⟩⟩)⟩
  ·rw [if_neg he]
   exact .inr ⟨rfl,rfl,.inr (.inl ⟨rfl,.inr ⟨he,rfl,rfl⟩⟩)⟩
 ·rw [adv ok]
  refine .inr ⟨rfl,rfl,.inr (.inr ⟨rfl,rfl,?_⟩)⟩
  show (3:Int)≤if aj m (bY c _)=0 then 3 else 4
  split <;> omega
 ·rw [aem ok]
  exact .inl ⟨rfl,fun h=>absurd h (by decide),by decide,by decide⟩
theorem Uw (hm:dm c t m w x=true) (hW:Wm m) (hx:Fwk c.1 w x) (h:Fj c m x) (he:epB (aj m 2)≤epB (aj (a9 c t m w x d).1 2)):Fj c (a9 c t m w x d).1 (a9 c t m w x d).2.1:=by
 obtain ⟨a,b,_,e,_⟩:=fH hm
 have hmc:=aR a
 by_cases h5:x.1=5
 ·rw [aa6 hm h5 (hx.2.1 h5)]
  exact ⟨fun _=>Int.le_refl _,fun h=>absurd h (show ¬ (6:Int)=8 by decide),fun h=>absurd h (show ¬ (6:Int)=8 by decide),fun h=>absurd h (show ¬ (6:Int)=7 by decide)⟩
 by_cases h6:x.1=6
 ·rw [Me hm h6] at he ⊢
  refine ⟨fun _=>Int.le_trans (h.ep (.inl h6)) he,fun h=>absurd h (show ¬ (7:Int)=8 by decide),fun h=>absurd h (show ¬ (7:Int)=8 by decide),fun _=>⟨Int.le_refl 0,?_,fun h=>absurd h (show ¬ (0:Int)%2=1 by decide)⟩⟩
  show (0:Int)<2+2*c.1
  omega
 by_cases h7:x.1=7
 ·obtain ⟨k0,k1,k2⟩:=h.lk h7
  obtain ⟨q1,q2⟩:=DK (m:=m) (by omega) ⟨k0,k1⟩
  rw [Mo hm h7,q1]
  rcases q2 with q2 | ⟨q2,q3,q4,q5,q6,q7,_,_⟩
  ·exact .free (by omega) (by omega) (by omega)
  ·have hX:(bQ c m x).2.1.2.2.1.2.2.2.2.1=x.2.2.1.2.2.2.2.1:=by rw [q6]
   have hp:=hx.2.2.1 (.inr h7)
   refine ⟨fun _=>by rw [hX];exact h.ep (.inr (.inl h7)),fun _=>by rw [q4];omega,fun _ h2=>by rw [q4] at h2;omega,fun e7 => ?_⟩
   rcases q2 with ⟨_,l1,l2⟩ | ⟨e8,_⟩
   ·rw [l1]
    refine ⟨by omega,by omega,fun ho => ?_⟩
    have:=q7 (by omega) e7
    rw [this]
    exact ⟨(cD hW _).1,Int.le_refl _⟩
   ·omega
 by_cases h8:x.1=8
 ·have hp:=h.pc h8
  rw [Nj hm h8] at he ⊢
  rcases Eg hm h8 hx hp with ⟨q1,_⟩ | ⟨q1,q2,q3⟩
  ·exact .free (by omega) (by omega) (by omega)
  ·have hE:x.2.2.1.2.1≤2→epB x.2.2.1.2.2.2.2.1≤epB (aj (bV c m x).1 2):=fun hh=>Int.le_trans (h.ep (.inr (.inr ⟨h8,hh⟩))) he
   rcases q3 with ⟨p1,p2,p3,p4,p5⟩ | ⟨p1,⟨p2,p3⟩ | ⟨p2,p3,p4⟩⟩ | ⟨p1,p2,p3⟩
   ·exact ⟨fun _=>by rw [q2];exact hE (by omega),fun _=>by omega,fun _ _=>by rw [q2,p5];exact p4,fun e=>by omega⟩
   ·exact ⟨fun e=>by omega,fun _=>by omega,fun _ e=>by omega,fun e=>by omega⟩
   ·exact ⟨fun _=>by rw [q2];exact hE (by omega),fun _=>by omega,fun _ e=>by omega,fun e=>by omega⟩
   ·exact ⟨fun e=>by omega,fun _=>by omega,fun _ e=>by omega,fun e=>by omega⟩
 ·obtain ⟨g7,g8⟩:=Az (c:=c) (t:=t) (m:=m) (w:=w) (x:=x) (d:=d) h6 h7 h8
  exact .free (Kl h5 h6 h7 h8) g7 g8
theorem RL (hm:dm c t m w x=true) (hW:Wm m) (hx:Fwk c.1 w x) (h:Fj c m x) {j:Int} (hb4:aj m 4≤1000000) (hbt:∀ v,0≤v→v<c.1→aj m (mW c v)≤1000000) (ha:Act m w x j) (hn:NE c m j) :
  Act (a9 c t m w x d).1 w (a9 c t m w x d).2.1 j:=by
 obtain ⟨a,b,_,e,_⟩:=fH hm
 have hmc:=aR a
 have hj1:1≤j∧j≤2*c.1+1:=by
  rcases hn with ⟨e,_⟩ | ⟨v,v0,v1,e,_⟩ <;> omega
 by_cases h6:x.1=6
 ·rw [Me hm h6]
  exact .inr (.inl ⟨rfl,by show (0:Int)≤j;omega⟩)
 by_cases h7:x.1=7
 ·obtain ⟨k0,k1,k2⟩:=h.lk h7
  obtain ⟨q1,q2⟩:=DK (m:=m) (by omega) ⟨k0,k1⟩
  rw [Mo hm h7,q1]
  rcases q2 with q2 | ⟨q2,q3,q4,q5,q6,q7,q8,q9⟩
  ·exact .inl ⟨by omega,by omega⟩
  ·have hX:(bQ c m x).2.1.2.2.1.2.2.2.2.1=x.2.2.1.2.2.2.2.1:=by rw [q6]
   have hp:=hx.2.2.1 (.inr h7)
   rcases ha with ha | ⟨_,ha⟩ | ⟨_,ha⟩ | ⟨ha,_⟩
   ·exact absurd h7 ha.1
   ·by_cases hk:x.2.2.2.2=j
    ·exfalso
     rcases hn with ⟨e1,hn⟩ | ⟨v,v0,v1,e1,hn⟩
     ·have hk1:x.2.2.2.2=1:=by omega
      obtain ⟨r1,r2⟩:=k2 (by omega)
      have hs:K3 c x.2.2.2.2=4:=by unfold K3;rw [if_pos hk1]
      rw [hs] at r2
      exact aai hn r1 r2 hb4 (q8 hk1)
     ·obtain ⟨r1,r2⟩:=k2 (by omega)
      have hv:(x.2.2.2.2 - 2)/2=v:=by omega
      have hs:K3 c x.2.2.2.2=mW c v:=by unfold K3;rw [if_neg (by omega),hv]
      rw [hs] at r2
      have:=q9 (by omega) (by omega)
      rw [hv] at this
      exact this (UD hn.1 r1 r2 (hbt v v0 v1) (by have:=hn.2;omega) (cD hW _)).1
    ·rcases q2 with ⟨p1,p2,p3⟩ | ⟨p1,p2,p3⟩
     ·exact .inr (.inl ⟨p1,by omega⟩)
     ·omega
   ·refine .inr (.inr (.inl ⟨?_,by rw [hX];exact ha⟩))
    rcases q2 with ⟨p1,_⟩ | ⟨p1,_⟩
    ·exact .inl p1
    ·exact .inr ⟨p1,by omega⟩
   ·omega
 by_cases h8:x.1=8
 ·have hp:=h.pc h8
  rw [Nj hm h8]
  rcases Eg hm h8 hx hp with ⟨q1,_⟩ | ⟨q1,q2,q3⟩
  ·exact .inl ⟨by omega,by omega⟩
  ·rcases ha with ha | ⟨ha,_⟩ | ⟨hb,ha⟩ | ⟨_,ha,hb⟩
   ·exact absurd h8 ha.2
   ·omega
   ·rcases q3 with ⟨p1,p2,p3,p4,p5⟩ | ⟨p1,⟨p2,p3⟩ | ⟨p2,p3,p4⟩⟩ | ⟨p1,p2,p3⟩
    ·omega
    ·have:=h.ey h8 p1
     rw [← p2] at this
     omega
    ·rw [p3]
     exact .inr (.inr (.inl ⟨.inr ⟨q1,by omega⟩,by rw [q2];exact ha⟩))
    ·omega
   ·rcases q3 with ⟨p1,p2,p3,p4,p5⟩ | ⟨p1,_⟩ | ⟨p1,p2,p3⟩
    ·omega
    ·omega
    ·rw [p2]
     exact .inr (.inr (.inr ⟨q1,p3,hb⟩))
 ·exact .inl (Az h6 h7 h8)
theorem Xe (hm:dm c t m w x=true) (hx:Fwk c.1 w x) (h:Fj c m x) (h':(a9 c t m w x d).2.1.1=7∨(a9 c t m w x d).2.1.1=8):Qs c m (a9 c t m w x d).1:=by
 obtain ⟨a,b,_,e,_⟩:=fH hm
 have hmc:=aR a
 by_cases h6:x.1=6
 ·rw [Me hm h6]
  exact .low (.inr (.inl rfl))
 by_cases h7:x.1=7
 ·obtain ⟨k0,k1,k2⟩:=h.lk h7
  obtain ⟨q1,q2⟩:=DK (m:=m) (by omega) ⟨k0,k1⟩
  rw [Mo hm h7,q1]
  exact .refl
 by_cases h8:x.1=8
 ·rw [Nj hm h8]
  unfold bV
  rw [lK (hx.2.2.2.1 h8).1]
  dsimp only
  split <;> exact WL a
 ·have:=Az (c:=c) (t:=t) (m:=m) (w:=w) (x:=x) (d:=d) h6 h7 h8
  omega
end
end Go.Ab
set_option linter.unusedVariables false
namespace Go.Ab
theorem Wc {c:CF} {t:Tyt} {m:List Int} {w:Int} {x:WB} {d:Int} (hm:Wm m) (hf:Wf x.2.2.1) (hx:Fwk c.1 w x) (he:epB (aj m 2)+1<281474976710656):Ew c m (a9 c t m w x d).1 w:=by
 have ca:x.2.2.1.1<5→Ew c m (dq c m x.2.2.1).1 w:=fun h5 => .same (u7 af5 hf h5)
 refine ff (P:=fun r=>Ew c m r.1 w) (fun _ => .same rfl) ?_ ?_ ?_ ?_ ?_ ?_ ?_ ?_ ?_ ?_ ?_ ?_ ?_ ?_ ?_
 all_goals intro hw e
 ·have h5:=hx.1 (by omega)
  dsimp only [Eo]
  repeat' split
  all_goals exact ca h5
 ·exact .same (m':=aN m 1 _) (aL _ (show (1:Int)≠2 by decide))
 ·have h5:=hx.1 (by omega)
  dsimp only [mw]
  repeat' split
  all_goals exact ca h5
 ·exact .same (m':=aN m 1 _) (aL _ (show (1:Int)≠2 by decide))
 ·obtain ⟨a,b,_,g,_⟩:=fH hw
  dsimp only [mP]
  rw [hx.2.1 e,Gy a b g.1 g.2.1]
  exact .same rfl
 ·exact .same (m':=aN m 1 _) (aL _ (show (1:Int)≠2 by decide))
 ·dsimp only [bQ]
  repeat' split
  all_goals exact .same rfl
 ·obtain ⟨a,b,_,g,_⟩:=fH hw
  obtain ⟨f1,f2,f3,f4⟩:=hx.2.2.2.1 e
  have:=WP a b hm hf f1
  rw [f3] at this
  dsimp only [bV]
  rw [lK f1]
  split
  all_goals exact this
 ·dsimp only [En]
  repeat' split
  all_goals exact .same rfl
 ·dsimp only [mX]
  split
  ·exact .same rfl
  ·exact .same (m':=aN m 0 _) (aL _ (show (0:Int)≠2 by decide))
 ·have h5:=hx.1 (by omega)
  dsimp only [nn]
  repeat' split
  all_goals exact ca h5
 ·have h5:=hx.1 (by omega)
  dsimp only [ng]
  repeat' split
  all_goals exact ca h5
 ·dsimp only [D1]
  split
  all_goals exact .same rfl
 ·obtain ⟨a,b,_,g,_⟩:=fH hw
  obtain ⟨f1,f2,f3,f4⟩:=hx.2.2.2.2 e
  have:=Mv (me:=w) a b hm hf f1 he
  dsimp only [nr]
  rw [lA f1]
  split
  all_goals exact this
 ·dsimp only [nt]
  split
  ·exact .same rfl
  ·exact .same (m':=aN m 0 _) (aL _ (show (0:Int)≠2 by decide))
def OU (x:SB):Prop:=x.1=3∨(x.1=4∧x.2.2.2.1≠2)∨(x.1=2∧3≤x.2.2.2.1)
def Fq (x:SB):Prop:=x.1=2→x.2.2.1=3∧x.2.2.2.2.2.2.2.2=0
theorem acE {c:CF} {m:List Int} {f:FR} (h:f.1=3):cr (pf c m f).2=false∧3≤(pf c m f).2.2.1∨cr (pf c m f).2=true∧(pf c m f).2.2.2.2.2.2.2≠2∨(pf c m f).1=m∧(f.2.1<3∨(pf c m f).2=f):=by
 unfold pf
 split
 ·exact .inr (.inr ⟨rfl,.inr rfl⟩)
 rename_i hg
 have hg':nQ c m f 3=true:=by simpa using hg
 unfold nQ at hg'
 simp only [Bool.and_eq_true,decide_eq_true_eq] at hg'
 split
 ·exact .inr (.inr ⟨rfl,.inl (by omega)⟩)
 split
 ·repeat' split
  all_goals exact .inr (.inr ⟨rfl,.inl (by omega)⟩)
 split
 ·dsimp only
  unfold nZ
  split
  ·refine .inl ⟨?_,?_⟩
   ·show cr (f.1,3,f.2.2)=false
    unfold cr
    simp [hg'.2.1]
   ·show (3:Int)≤3
    decide
  ·exact .inr (.inr ⟨rfl,.inl (by omega)⟩)
 split
 ·refine .inl ⟨?_,?_⟩
  ·show cr (f.1,4,f.2.2)=false
   unfold cr
   simp [hg'.2.1]
  ·show (3:Int)≤4
   decide
 ·refine .inr (.inl ⟨rfl,?_⟩)
  show (1:Int)≠2
  decide
section
variable {c:CF} {t:Tyt} {m:List Int} {i:Int} {x:SB}
theorem acD (hx:Fq x):Fq (iD c t m i x).2.1:=by
 unfold iD
 dsimp only
 split
 ·exact hx
 split
 ·split
  ·exact fun h=>absurd h (show ¬ (0:Int)=2 by decide)
  ·exact fun h=>absurd h (show ¬ (1:Int)=2 by decide)
 split
 ·exact fun _=>⟨rfl,rfl⟩
 split
 ·rename_i e
  have h3:=(hx e).1
  have hc:dX c m x.2.2=pf c m x.2.2:=by
   unfold dX rk
   rw [if_pos (.inl h3),if_pos h3]
  rw [hc]
  split
  ·rename_i ho
   refine fun _=>⟨?_,?_⟩
   ·show (pf c m x.2.2).2.1=3
    rw [Oc]
    exact h3
   ·unfold cr at ho
    simpa using ho
  ·split
   ·exact fun h=>absurd h (show ¬ (5:Int)=2 by decide)
   ·exact fun h=>absurd h (show ¬ (3:Int)=2 by decide)
 split
 ·split
  ·exact fun h=>absurd h (show ¬ (0:Int)=2 by decide)
  ·exact fun h=>absurd h (show ¬ (4:Int)=2 by decide)
 split
 ·split
  ·exact fun h=>absurd h (show ¬ (0:Int)=2 by decide)
  ·exact fun h=>absurd h (show ¬ (4:Int)=2 by decide)
 ·exact fun h=>absurd h (show ¬ (0:Int)=2 by decide)
theorem aay (hm:Wm m) (hf:Wf x.2.2) (hx:Fsb c.1 x) (hq:Fq x) (he:epB (aj m 2)+1<281474976710656):Ew c m (iD c t m i x).1 (-1):=by
 unfold iD
 dsimp only
 split
 ·exact .same rfl
 rename_i hw
 have hw:oR c t m x=true:=by simpa using hw
 obtain ⟨a1,a2,_⟩:=ot hw
 split
 ·split
  all_goals exact .same rfl
 split
 ·exact .same (m':=aN m 0 _) (aL _ (show (0:Int)≠2 by decide))
 split
 ·rename_i e
  have h3:=(hq e).1
  have hc:dX c m x.2.2=pf c m x.2.2:=by
   unfold dX rk
   rw [if_pos (.inl h3),if_pos h3]
  have h2:Ew c m (pf c m x.2.2).1 (-1) := .same (HH af5 hf)
  rw [hc]
  repeat' split
  all_goals exact h2
 split
 ·split
  all_goals exact .same rfl
 split
 ·rename_i e
  obtain ⟨f1,f2,f3,f4⟩:=hx.2 e
  have:=Mv (me := -1) a1 a2 hm hf f1 he
  have hcb:dX c m x.2.2=dt c m x.2.2:=by rw [CB (by omega),lA f1]
  rw [hcb]
  split
  all_goals exact this
 ·exact .same (m':=aN m 0 _) (aL _ (show (0:Int)≠2 by decide))
theorem U3 (hm:Wm m) (hf:Wf x.2.2) (hl:Ts c.1 m) (hx:Fsb c.1 x) (hq:Fq x) (he:epB (aj m 2)+1<281474976710656) :
  OU (iD c t m i x).2.1∨Qs c m (iD c t m i x).1∧(OU x→aj m 1≠0∨∃ b,0≤b∧b<c.1∧gX (aj (iD c t m i x).1 2) b=false∧epB (aj (iD c t m i x).1 2)=epB (aj m 2)+1):=by
 unfold iD
 dsimp only
 split
 ·rename_i hw
  by_cases hwit:OU x
  ·exact .inl hwit
  ·exact .inr ⟨.refl,fun h=>absurd h hwit⟩
 rename_i hw
 have hw:oR c t m x=true:=by simpa using hw
 obtain ⟨a1,a2,_,b0,b6,_⟩:=ot hw
 have hmc:=aR a1
 have hs:=iL a1
 split
 ·rename_i e
  refine .inr ⟨?_,fun h => ?_⟩
  ·split <;> exact .refl
  ·unfold OU at h
   omega
 split
 ·rename_i e
  refine .inr ⟨.low (.inl rfl),fun h => ?_⟩
  unfold OU at h
  omega
 split
 ·rename_i e
  have h3:=(hq e).1
  have hc:dX c m x.2.2=pf c m x.2.2:=by
   unfold dX rk
   rw [if_pos (.inl h3),if_pos h3]
  rw [hc]
  rcases acE (c:=c) (m:=m) h3 with ⟨g1,g2⟩ | ⟨g1,g2⟩ | g1
  ·rw [if_pos g1]
   exact .inl (.inr (.inr ⟨rfl,g2⟩))
  ·rw [if_neg (by rw [g1];decide),if_neg g2]
   exact .inl (.inl rfl)
  ·obtain ⟨g1,g3⟩:=g1
   by_cases hp:3≤x.2.2.2.1
   ·have g4:(pf c m x.2.2).2=x.2.2:=g3.resolve_left (by omega)
    have ho:cr x.2.2=false:=by
     unfold cr
     simp [(hq e).2]
    rw [g4,if_pos ho]
    exact .inl (.inr (.inr ⟨rfl,hp⟩))
   ·refine .inr ⟨?_,fun h => ?_⟩
    ·rw [g1]
     repeat' split
     all_goals exact .refl
    ·unfold OU at h
     omega
 split
 ·rename_i e
  split
  ·rename_i h1
   exact .inr ⟨.refl,fun _ => .inl h1⟩
  ·exact .inl (.inr (.inl ⟨rfl,by show (0:Int)≠2;decide⟩))
 split
 ·rename_i e
  obtain ⟨f1,f2,f3,f4⟩:=hx.2 e
  have hcb:dX c m x.2.2=dt c m x.2.2:=by rw [CB (by omega),lA f1]
  rw [hcb]
  have hX:=hf.2.1
  have hnq:=V6 (c:=c) (m:=m) (f:=x.2.2) a1
  rcases (show x.2.2.2.1=0∨x.2.2.2.1=1∨x.2.2.2.1=2 by omega) with hp | hp | hp
  ·have hn:dt c m x.2.2=(m,x.2.2.1,1,x.2.2.2.2.1,x.2.2.2.2.2.1,aj m 2,x.2.2.2.2.2.2.2):=by
    unfold dt nW
    rw [a1,decide_eq_true a2,decide_eq_true (.inl f1),decide_eq_true ⟨f3,by omega,by omega⟩,if_neg (by decide),if_pos hp]
   have ho:cr (dt c m x.2.2).2=false:=by
    rw [hn]
    unfold cr
    simp [f3]
   rw [if_neg (by rw [ho];decide)]
   exact .inl (.inr (.inl ⟨rfl,by rw [hn];show (1:Int)≠2;decide⟩))
  ·by_cases hcas:aj m 2=x.2.2.2.2.2.2.1
   ·have hn:(dt c m x.2.2).1=aN m 2 (m8 x.2.2.2.2.2.2.1):=by
     unfold dt nW
     rw [a1,decide_eq_true a2,decide_eq_true (.inl f1),decide_eq_true ⟨f3,by omega,by omega⟩,if_neg (by decide),if_neg (by omega),if_pos hp,if_pos hcas,if_pos f1]
    have h2:aj (dt c m x.2.2).1 2=m8 x.2.2.2.2.2.2.1:=by
     rw [hn]
     exact ga _ (by decide) (by omega)
    have hep:epB (m8 x.2.2.2.2.2.2.1)=epB (aj m 2)+1:=by
     rw [hcas] at he ⊢
     exact Mw he hX.1
    have hmk:=wz hX.1
    have key:∃ b:Int,0≤b∧b<c.1∧gX (m8 x.2.2.2.2.2.2.1) b=false:=by
     rcases lS hmk.1 hmk.2 with ⟨g1,_⟩ | ⟨a,b,g1,g2,g3⟩
     ·refine ⟨0,by decide,by omega,?_⟩
      rw [pY hX.1 hX.2 (by decide) (by decide),Iz hX.1 g1 (by decide) (by decide)]
      rfl
     ·have hb:gX (mkB x.2.2.2.2.2.2.1) (A0 (mkB x.2.2.2.2.2.2.1))=true:=Ob (by omega)
      rw [g2,nJ hX.1 (by omega) (by omega)] at hb
      have hbn:(b:Int)<c.1:=by
       by_cases hh:(b:Int)<c.1
       ·exact hh
       ·have:=hl b (by omega) (by omega)
        rw [hcas,hb] at this
        cases this
      refine ⟨b,by omega,hbn,?_⟩
      rw [pY hX.1 hX.2 (by omega) (by omega),g2,decide_eq_false (by simp),Bool.and_false]
    obtain ⟨b,k0,k1,k2⟩:=key
    refine .inr ⟨by split <;> exact hnq,fun _ => .inr ⟨b,k0,k1,?_,?_⟩⟩
    ·split <;> (dsimp only;rw [h2];exact k2)
    ·split <;> (dsimp only;rw [h2];exact hep)
   ·have hn:dt c m x.2.2=(m,x.2.2.1,0,x.2.2.2.2):=by
     unfold dt nW
     rw [a1,decide_eq_true a2,decide_eq_true (.inl f1),decide_eq_true ⟨f3,by omega,by omega⟩,if_neg (by decide),if_neg (by omega),if_pos hp,if_neg hcas]
    have ho:cr (dt c m x.2.2).2=false:=by
     rw [hn]
     unfold cr
     simp [f3]
    rw [if_neg (by rw [ho];decide)]
    exact .inl (.inr (.inl ⟨rfl,by rw [hn];show (0:Int)≠2;decide⟩))
  ·refine .inr ⟨by split <;> exact hnq,fun h => ?_⟩
   unfold OU at h
   omega
 ·refine .inr ⟨.low (.inl rfl),fun h => ?_⟩
  unfold OU at h
  omega
end
end Go.Ab
set_option linter.unusedVariables false
set_option linter.unusedSimpArgs false
namespace Go.Ab
def BW:List Int→List PK
 | a::b::c::r=>(a%4,b,c)::BW r
 | _=>[]
def Wby (l:List Int):Prop:=∀ x ∈ l,0≤x∧x≤255
theorem Hh:∀ l:List Int,3*(BW l).length≤l.length
 | []=>Nat.le_refl _
 | [_]=>by simp [BW]
 | [_,_]=>by simp [BW]
 | a::b::c::r=>by
  have:=Hh r
  simp only [BW,List.length_cons]
  omega
theorem TW:∀ {l:List Int},Wby l→Wp (BW l)
 | [],_=>fun x hx=>by simp [BW] at hx
 | [_],_=>fun x hx=>by simp [BW] at hx
 | [_,_],_=>fun x hx=>by simp [BW] at hx
 | a::b::c::r,h=>fun x hx=>by
  rw [BW] at hx
  rcases List.mem_cons.1 hx with rfl | hx
  ·have:=h c (by simp)
   exact ⟨this.1,Int.le_trans this.2 (by decide)⟩
  ·exact TW (l:=r) (fun y hy=>h y (by simp [hy])) x hx
section
variable {k:Nat} (hk:10000≤k) {b:List Int} (hb:Wby b) (hl:b.length≤2000)
include hk hb hl
theorem QF:∀ (n i:Nat) (r:List Int) (acc:List PK) (e:Nat),b.drop i=r→i≤b.length+3→r.length<n→(e=3∨e=0)→acc.length≤i →
  cj k b n (i:Int) e acc=some (acc++BW r):=by
 have _h:=hk
 intro n
 induction n with
 | zero=>intro i r acc e _ _ h;omega
 | succ n ih=>
  intro i r acc e hr hi hn he ha
  have hes:(e==3||e==0)=true:=by rcases he with rfl | rfl <;> rfl
  have hw:IntKind.i64.wrap ((i:Int)+3)=(i:Int)+3:=eL (by omega)
  rw [cj]
  by_cases h0:i<b.length
  ·have hrl:r.length=b.length - i:=by rw [← hr,List.length_drop]
   rw [ltN h0,cond_true,decide_eq_true (show (0:Int)≤(i:Int)∧(i:Int)≤(b.length:Int) by omega),cond_true]
   simp only [Int.toNat_natCast,hr]
   have fin:∀ r':List Int,b.drop (i+3)=r'→r'.length<n→∀ acc' e',(e'=3∨e'=0)→acc'.length≤i+3→cj k b n ((i:Int)+3) e' acc'=some (acc'++BW r'):=fun r' h1 h2 acc' e' h3 h4=>by
    rw [show (i:Int)+3=((i+3:Nat):Int) by omega]
    exact ih (i+3) r' acc' e' h1 (by omega) h2 h3 h4
   have hd3:b.drop (i+3)=r.drop 3:=by rw [← hr,List.drop_drop]
   by_cases h3:r.length<3
   ·have hs:(bif decide ((r.length:Int)<3) then (r.length:Int) else 3)=(r.length:Int):=by rw [ltT (by omega),cond_true]
    rw [hs,eL (show -9223372036854775808≤(i:Int)+(r.length:Int)∧(i:Int)+(r.length:Int)≤9223372036854775807 by omega)]
    have e1:((i:Int)+(r.length:Int)).toNat=i+r.length:=by omega
    rw [e1,decide_eq_true (by omega),cond_true]
    have ht:(b.take (i+r.length)).drop i=r:=by
     rw [List.take_of_length_le (by omega)]
     exact hr
    rw [ht,my,decide_eq_false (by omega),cond_false]
    have hrn:BW r=[]:=by
     rcases r with _ | ⟨x,_ | ⟨y,_ | ⟨z,r⟩⟩⟩
     ·rfl
     ·rfl
     ·rfl
     ·simp at h3;omega
    have hd0:r.drop 3=[]:=List.drop_eq_nil_iff.2 (by omega)
    have:=fin [] (by rw [hd3,hd0]) (by simp;omega) acc e he (by omega)
    rw [hw,this,hrn]
    rfl
   ·have hs:(bif decide ((r.length:Int)<3) then (r.length:Int) else 3)=3:=by rw [ltF (by omega),cond_false]
    rw [hs,eL (show -9223372036854775808≤(i:Int)+3∧(i:Int)+3≤9223372036854775807 by omega)]
    have e1:((i:Int)+3).toNat=i+3:=by omega
    rw [e1,decide_eq_true (by omega),cond_true]
    rcases r with _ | ⟨x,_ | ⟨y,_ | ⟨z,r⟩⟩⟩
    ·simp at h3
    ·simp at h3
    ·simp at h3
    ·have ht:(b.take (i+3)).drop i=[x,y,z]:=by
      rw [List.drop_take,hr,show i+3 - i=3 by omega]
      rfl
     have hx:x ∈ b:=List.mem_of_mem_drop (by rw [hr];simp)
     have hy:y ∈ b:=List.mem_of_mem_drop (by rw [hr];simp)
     have hz:z ∈ b:=List.mem_of_mem_drop (by rw [hr];simp)
     have bx:=hb x hx
     have by':=hb y hy
     have bz:=hb z hz
     simp only [ht]
     rw [show ((([x,y,z]:List Int).length:Int)==3)=true from rfl,cond_true]
     have i0:idx [x,y,z] 0=some x:=rfl
     have i1:idx [x,y,z] 1=some y:=rfl
     have i2:idx [x,y,z] 2=some z:=rfl
     rw [i0,af,i1,af,i2,af,hes,cf,Int.tmod_eq_emod_of_nonneg bx.1]
     have hm:=Int.emod_nonneg x (show (4:Int)≠0 by decide)
     have hm2:=Int.emod_lt_of_pos x (show (0:Int)<4 by decide)
     rw [eL (z:=x%4) (by omega),eL (z:=y) (by omega),kQ (z:=z) (by omega) (by omega),C2 (by rw [List.length_append];simp;omega),cond_true]
     have:=fin r (by rw [hd3];rfl) (by simp at hn;omega) (acc++[(x%4,y,z)]) 3 (.inl rfl) (by rw [List.length_append];simp;omega)
     rw [this,BW,List.append_assoc]
     rfl
  ·have hr0:r=[]:=by rw [← hr];exact List.drop_eq_nil_iff.2 (by omega)
   rw [ltF (by omega),cond_false,hr0]
   simp [BW]
theorem RY:gA k b=some (BW b):=by
 unfold gA
 exact QF hk hb hl (k+22) 0 b [] 0 rfl (by omega) (by omega) (.inr rfl) (Nat.le_refl _)
end
section
variable {k:Nat} (hk:100≤k) {w s:Nat} (hw:w≤20) (hs:s≤20) (d:Int)
include hk hw hs
end
def Hu (c:CF) (m:List Int):Nat→List WB→Bool
 | _,[]=>true
 | i,x::l=>WS x&&decide (aj m (bY c i)=0)&&Hu c m (i+1) l
def Us (p:PB):Bool:=gI p && !(p.2.2.2.2.any fun x => !decide (x.1=0))&&Hu p.1 p.2.2.1 0 p.2.2.2.1
theorem W9 (x:SB):gw x=some (!decide (x.1=0)):=by
 unfold gw
 rw [D3]
theorem Wn (k:Nat) (hk:100≤k) {S:List SB} (hS:S.length≤20):aT k S=some (S.any fun x => !decide (x.1=0)):=by
 unfold aT bf
 have h:aB (k+8) S (k+8+8) 0=some (If (fun x => !decide (x.1=0)) S 0):=by
  refine JO (F:=fun n i=>aB (k+8) S n i) (l:=S) _ ?_ ?_ _ (by omega)
  ·intro n
   simp only [aB,AG,cond_false]
  ·intro n i x hi hx
   simp only [aB,ltN hi,cond_true,f6 hx,af,Prod.eta,W9]
   rw [gH (by omega)]
 rw [h,af,ua]
section
variable {k:Nat} (hk:9223372036854779000≤k) {p:PB} (ht:Wt p.2.1) (hw:∀ x ∈ p.2.2.2.1,x.2.1.length≤9000) (hs:∀ x ∈ p.2.2.2.2,x.2.1.length≤1000)
include hk ht hw hs
theorem Ih:ft k p=some (Us p):=by
 unfold ft Us
 rw [HY hk ht hw hs,af]
 cases hm:gI p with
 | false=>rfl
 | true=>
  obtain ⟨h1,h2,h3,h4,h5⟩:=nf hm
  have hc:=aR h1
  rw [Bool.not_true,cond_false,Wn _ (by omega) (by omega),af]
  cases p.2.2.2.2.any fun x => !decide (x.1=0) with
  | true=>rfl
  | false=>
   rw [cond_false,Bool.not_false,Bool.and_true,Bool.true_and]
   have key:∀ (r:List WB) (q n:Nat),p.2.2.2.1.drop q=r→q≤p.2.2.2.1.length→r.length<n→cS k p n (q:Int)=some (Hu p.1 p.2.2.1 q r):=by
    intro r
    induction r with
    | nil=>
     intro q n hr hq hn
     obtain ⟨n,rfl⟩:=ir hn
     have:=dN hr
     rw [cS,ltF (by omega),cond_false,Hu]
    | cons v r ih=>
     intro q n hr hq hn
     obtain ⟨n,rfl⟩:=ir hn
     obtain ⟨g0,g1,g2,_,g4⟩:=cU hr
     have hlay:fB p.1 (q:Int)=some (bY p.1 (q:Int)):=H0 p.1 _
     rw [cS,ltN g0,cond_true,f6 g1,af]
     simp only [Prod.eta,Kc,af,hlay,dD]
     rw [Hu,gH (by omega),ih (q+1) n g2 (by omega) (by simp only [List.length_cons] at hn;omega),D3]
     cases WS v with
     | false=>rfl
     | true=>
      by_cases h:aj p.2.2.1 (bY p.1 q)=0
      ·rw [decide_eq_true h];rfl
      ·rw [decide_eq_false h];rfl
   have:=key p.2.2.2.1 0 (k+35) rfl (Nat.zero_le _) (by omega)
   exact this
end
end Go.Ab
set_option linter.unusedVariables false
namespace Go.Ab
structure Jn (N:Nat) (p:PB):Prop where
 ep:epB (aj p.2.2.1 2)≤N
 h4:aj p.2.2.1 4≤N
 tp:∀ v,0≤v→v<p.1.1→aj p.2.2.1 (mW p.1 v)≤N
 fj:∀ (i:Nat) x,p.2.2.2.1[i]? = some x→Fj p.1 p.2.2.1 x
 fq:∀ x ∈ p.2.2.2.2,Fq x
 j:∀ j,NE p.1 p.2.2.1 j→(∃ s ∈ p.2.2.2.2,OU s)∨∃ (i:Nat) (x:WB),p.2.2.2.1[i]? = some x∧Act p.2.2.1 i x j
theorem Jn.up {N M:Nat} {p:PB} (h:Jn N p) (hM:N≤M):Jn M p:=⟨by have:=h.ep;omega,by have:=h.h4;omega,fun v a b=>by have:=h.tp v a b;omega,h.fj,h.fq,h.j⟩
theorem Sf {m m':List Int} {j:Int} {N:Nat} (hm:Wm m) (h:aj m' j=aj m j∨aj m' j=kr (aj m j) 1) (hN:aj m j≤N) (hb:N≤900000):aj m j≤aj m' j∧aj m' j≤(N+1:Nat):=by
 have:=cD hm j
 rcases h with h | h
 ·omega
 ·unfold kr at h
  omega
theorem ML {c:CF} {m m':List Int} (h4:aj m 4≤aj m' 4) (ht:∀ v,0≤v→v<c.1→aj m (mW c v)≤aj m' (mW c v)):∀ k,0≤k→k<2+2*c.1→aj m (K3 c k)≤aj m' (K3 c k):=by
 intro k k0 k1
 unfold K3
 split
 ·exact h4
 ·by_cases h:0≤(k - 2)/2
  ·exact ht _ h (by omega)
  ·have e:mW c ((k - 2)/2) = -1:=by
    unfold mW onW
    rw [if_neg (fun g=>h g.2.1)]
   rw [e]
   exact Int.le_refl _
theorem V2 {n N:Nat} {p:PB} {k:PK} (hg:Good n p) (hm:gI p=true) (hk:uI k p.1.1 p.2.2.2.2.length=true) (hs:Sgn p) (hn:Skn p) (h:Jn N p) (hN:N≤900000):Jn (N+1) (gi p k).1:=by
 obtain ⟨m1,m2,m3,m4,m5⟩:=nf hm
 have hmc:=aR m1
 have hep:epB (aj p.2.2.1 2)+1<281474976710656:=by have:=h.ep;omega
 refine mt (P:=fun r=>Jn (N+1) r.1) (h.up (Nat.le_succ N)) (fun x hx hk0 => ?_) (fun x hx hms => ?_) ?_
 ·have hkk:((k.2.1.toNat:Nat):Int)=k.2.1:=by
   unfold uI at hk
   rw [decide_eq_true_eq] at hk
   omega
  have hxm:=List.mem_of_getElem? hx
  have hF:=hs.w _ x hx
  rw [hkk] at hF
  have hfj:=h.fj _ x hx
  have hmw:=m4 _ x hx
  rw [hkk] at hmw
  have hwf:=(hg.w x hxm).f
  have e1:=Wc (t:=p.2.1) (d:=k.2.2) hg.m hwf hF hep
  have q4:=Sf hg.m (Mg (t:=p.2.1) (w:=k.2.1) (d:=k.2.2) (aej (c:=p.1)) hwf) h.h4 hN
  have qt:=fun v v0 v1=>Sf hg.m (Mg (t:=p.2.1) (w:=k.2.1) (d:=k.2.2) (ahp (v:=v) m1 v0 v1) hwf) (h.tp v v0 v1) hN
  have hle:epB (aj p.2.2.1 2)≤epB (aj (a9 p.1 p.2.1 p.2.2.1 k.2.1 x k.2.2).1 2):=by rcases e1.ep with e | e <;> omega
  have f1:=Uw (t:=p.2.1) (d:=k.2.2) hmw hg.m hF hfj hle
  have a1:=fun j=>RL (t:=p.2.1) (d:=k.2.2) (j:=j) hmw hg.m hF hfj (by have:=h.h4;omega) (fun v a b=>by have:=h.tp v a b;omega)
  have g1:=Xe (t:=p.2.1) (d:=k.2.2) hmw hF hfj
  generalize a9 p.1 p.2.1 p.2.2.1 k.2.1 x k.2.2=r at e1 q4 qt hle f1 a1 g1
  obtain ⟨m',y,ev⟩:=r
  dsimp only at e1 q4 qt hle f1 a1 g1
  have hi:k.2.1.toNat<p.2.2.2.1.length:=(List.getElem?_eq_some_iff.1 hx).1
  have hy:(p.2.2.2.1.set k.2.1.toNat y)[k.2.1.toNat]? = some y:=List.getElem?_set_self hi
  refine ⟨?_,q4.2,fun v v0 v1=>(qt v v0 v1).2,fun i z hz => ?_,h.fq,fun j hj => ?_⟩
  ·show epB (aj m' 2)≤(N+1:Nat)
   have:=h.ep
   rcases e1.ep with e | e <;> omega
  ·dsimp only at hz ⊢
   rw [List.getElem?_set] at hz
   split at hz
   ·rename_i e
    cases hz
    exact f1
   ·exact (h.fj i z hz).mono hle (ML q4.1 fun v v0 v1=>(qt v v0 v1).1)
  ·dsimp only at hj ⊢
   by_cases h78:y.1=7∨y.1=8
   ·have hj':=(g1 h78).ne hj
    rcases h.j j hj' with hh | ⟨i,z,hz,ha⟩
    ·exact .inl hh
    ·refine .inr ?_
     by_cases e:k.2.1.toNat=i
     ·subst e
      rw [hx] at hz
      cases hz
      rw [hkk] at ha
      have:=a1 j ha hj'
      refine ⟨_,y,hy,?_⟩
      rw [hkk]
      exact this
     ·have hil:=(List.getElem?_eq_some_iff.1 hz).1
      refine ⟨i,z,by rw [List.getElem?_set_ne e];exact hz,ha.mono hle (e1.bit i (by omega) (by omega) (by omega))⟩
   ·exact .inr ⟨_,y,hy,.inl ⟨fun e=>h78 (.inl e),fun e=>h78 (.inr e)⟩⟩
 ·have hxm:=List.mem_of_getElem? hx
  have hF:=hs.s x hxm
  have hq:=h.fq x hxm
  have hwf:=(hg.s x hxm).f
  have e1:=aay (t:=p.2.1) (i:=k.2.1) hg.m hwf hF hq hep
  have q4:=Sf hg.m (Uk (t:=p.2.1) (i:=k.2.1) (aej (c:=p.1)) hwf) h.h4 hN
  have qt:=fun v v0 v1=>Sf hg.m (Uk (t:=p.2.1) (i:=k.2.1) (ahp (v:=v) m1 v0 v1) hwf) (h.tp v v0 v1) hN
  have w1:=U3 (t:=p.2.1) (i:=k.2.1) hg.m hwf hs.low hF hq hep
  have f1:=acD (c:=p.1) (t:=p.2.1) (m:=p.2.2.1) (i:=k.2.1) hq
  generalize iD p.1 p.2.1 p.2.2.1 k.2.1 x=r at e1 q4 qt w1 f1
  obtain ⟨m',y,ev⟩:=r
  dsimp only at e1 q4 qt w1 f1
  have hle:epB (aj p.2.2.1 2)≤epB (aj m' 2):=by rcases e1.ep with e | e <;> omega
  have mo:∀ (i:Nat) (z:WB) j,p.2.2.2.1[i]? = some z→Act p.2.2.1 i z j→Act m' i z j:=fun i z j hz ha=>ha.mono hle (e1.bit i (by omega) (by have:=(List.getElem?_eq_some_iff.1 hz).1;omega) (by omega))
  refine ⟨?_,q4.2,fun v v0 v1=>(qt v v0 v1).2,fun i z hz=>(h.fj i z hz).mono hle (ML q4.1 fun v v0 v1=>(qt v v0 v1).1),fun z hz => ?_,fun j hj => ?_⟩
  ·show epB (aj m' 2)≤(N+1:Nat)
   have:=h.ep
   rcases e1.ep with e | e <;> omega
  ·rcases wL hz with hz | rfl
   ·exact h.fq z hz
   ·exact f1
  ·dsimp only at hj ⊢
   rcases w1 with w1 | ⟨w1,w2⟩
   ·exact .inl ⟨y,iq hx,w1⟩
   ·have hj':=w1.ne hj
    rcases h.j j hj' with ⟨s,hs1,hs2⟩ | ⟨i,z,hz,ha⟩
    ·rcases Or (y:=y) hx hs1 with hs1 | rfl
     ·exact .inl ⟨s,hs1,hs2⟩
     ·refine .inr ?_
      rcases w2 hs2 with hne | ⟨b,b0,b1,hb,hb2⟩
      ·have hpos:0<skN p.2.2.2.1:=by
        unfold Skn at hn
        omega
       obtain ⟨z,hz,hz2⟩:=List.countP_pos_iff.1 hpos
       obtain ⟨i,hi⟩:=List.mem_iff_getElem?.1 hz
       unfold eJ at hz2
       rw [decide_eq_true_eq] at hz2
       exact ⟨i,z,hi,.inl ⟨by omega,by omega⟩⟩
      ·have hbl:b.toNat<p.2.2.2.1.length:=by omega
       have hz:=List.getElem?_eq_getElem hbl
       have hfj:=h.fj _ _ hz
       generalize p.2.2.2.1[b.toNat]=z at hz hfj
       refine ⟨b.toNat,z,hz,?_⟩
       rw [show ((b.toNat:Nat):Int)=b by omega]
       by_cases z7:z.1=7
       ·exact .inr (.inr (.inl ⟨.inl z7,by have:=hfj.ep (.inr (.inl z7));omega⟩))
       ·by_cases z8:z.1=8
        ·by_cases z2:z.2.2.1.2.1≤2
         ·exact .inr (.inr (.inl ⟨.inr ⟨z8,z2⟩,by have:=hfj.ep (.inr (.inr ⟨z8,z2⟩));omega⟩))
         ·exact .inr (.inr (.inr ⟨z8,by omega,hb⟩))
        ·exact .inl ⟨z7,z8⟩
    ·exact .inr ⟨i,z,hz,mo i z j hz ha⟩
 ·have s2:aj (aN p.2.2.1 3 1) 2=aj p.2.2.1 2:=aL _ (by decide)
  have sq:Qs p.1 p.2.2.1 (aN p.2.2.1 3 1) := .low (.inr (.inr (.inr rfl)))
  refine ⟨?_,?_,fun v v0 v1 => ?_,fun i z hz=>(h.fj i z hz).mono (by dsimp only;rw [s2];exact Int.le_refl _) (ML (by dsimp only;rw [sq.h4];exact Int.le_refl _) fun v v0 v1=>by dsimp only;rw [sq.top v v0 v1];exact Int.le_refl _),h.fq,fun j hj => ?_⟩
  ·show epB (aj (aN p.2.2.1 3 1) 2)≤(N+1:Nat)
   rw [s2]
   have:=h.ep
   omega
  ·show aj (aN p.2.2.1 3 1) 4≤(N+1:Nat)
   rw [sq.h4]
   have:=h.h4
   omega
  ·show aj (aN p.2.2.1 3 1) (mW p.1 v)≤(N+1:Nat)
   rw [sq.top v v0 v1]
   have:=h.tp v v0 v1
   omega
  ·rcases h.j j (sq.ne hj) with hh | ⟨i,z,hz,ha⟩
   ·exact .inl hh
   ·exact .inr ⟨i,z,hz,ha.mono (by rw [s2];exact Int.le_refl _) (by rw [s2];exact id)⟩
structure Aw (n:Nat) (p:PB):Prop where
 g:Good n p
 m:gI p=true
 s:Sgn p
 k:Skn p
 j:Jn n p
theorem Aw.step {n:Nat} {p:PB} (h:Aw n p) (hn:n≤9000) (v:PK):Aw (n+1) (mJ p [v]).1:=by
 have hg:=DC (l:=[v]) h.g h.m
 have hm:=UU (l:=[v]) h.m
 rw [mJ] at hg hm ⊢
 split at hg
 ·rename_i hk
  rw [if_pos hk] at hm ⊢
  exact ⟨hg,hm,O3 h.g h.m hk h.s,Pe h.g h.m h.k,V2 h.g h.m hk h.s h.k h.j (by omega)⟩
 ·rename_i hk
  rw [if_neg hk] at hm ⊢
  exact ⟨hg,hm,h.s,h.k,h.j.up (Nat.le_succ n)⟩
theorem Aw.run:∀ {l:List PK} {n:Nat} {p:PB},Aw n p→n+l.length≤9000→Aw (n+l.length) (mJ p l).1
 | [],n,p,h,_=>h
 | v::l,n,p,h,hn=>by
  rw [List.length_cons] at hn
  have:=(h.step (by omega) v).run (l:=l) (by omega)
  have e:mJ p (v::l)=((mJ (mJ p [v]).1 l).1,(mJ p [v]).2++(mJ (mJ p [v]).1 l).2):=DG (l:=[v]) (j:=l)
  rw [e,List.length_cons,show n+(l.length+1)=n+1+l.length by omega]
  exact this
theorem aaG {c:CF} {t:Tyt} {roots:List (List Int)} (ht:FwT t) (hr:∀ l ∈ roots,l.length≤60) (hc:eM c=true) (ht2:uE t=true) (hR:roots.length≤3) (hr2:∀ l ∈ roots,∀ y ∈ l,0≤y∧y<(t.length:Int)):Aw 0 (Aa c t roots):=by
 refine ⟨Jj ht hr,NT hc ht2 hR hr2,Mh.1,Mh.2,?_⟩
 have z:∀ i,aj (Aa c t roots).2.2.1 i=0:=fun i=>wJ _ _
 refine ⟨by rw [z];decide,by rw [z];decide,fun v _ _=>by rw [z];decide,fun i x hx => ?_,fun x hx => ?_,fun j hj => ?_⟩
 ·have hx':(kT c.1.toNat)[i]? = some x:=hx
  unfold kT at hx'
  rw [List.getElem?_map,Option.map_eq_some_iff] at hx'
  obtain ⟨q,_,rfl⟩:=hx'
  exact .free (show (0:Int)≠6 by decide) (show (0:Int)≠7 by decide) (show (0:Int)≠8 by decide)
 ·have hx':x ∈ kU roots:=hx
  unfold kU at hx'
  obtain ⟨l,_,rfl⟩:=List.mem_map.1 hx'
  exact fun e=>absurd e (show ¬ (0:Int)=2 by decide)
 ·exfalso
  have f0:¬ 0<nb 0 0:=by decide
  rcases hj with ⟨_,hj⟩ | ⟨v,_,_,_,hj⟩
  ·unfold neI at hj
   rw [z,z] at hj
   exact f0 hj
  ·unfold neD at hj
   rw [z,z] at hj
   exact f0 hj.1
theorem Gv {n:Nat} {p:PB} (h:Aw n p) (ha:Us p=true):∀ j,¬ NE p.1 p.2.2.1 j:=by
 intro j hj
 unfold Us at ha
 simp only [Bool.and_eq_true,Bool.not_eq_true',List.any_eq_false] at ha
 obtain ⟨⟨_,h1⟩,h2⟩:=ha
 have hid:∀ s ∈ p.2.2.2.2,s.1=0:=fun s hs=>by simpa using h1 s hs
 have key:∀ (l:List WB) (q:Nat),Hu p.1 p.2.2.1 q l=true→∀ (i:Nat) x,l[i]? = some x→WS x=true∧aj p.2.2.1 (bY p.1 ((q+i:Nat):Int))=0:=by
  intro l
  induction l with
  | nil=>intro q _ i x hx;cases hx
  | cons y l ih=>
   intro q hq i x hx
   rw [Hu,Bool.and_eq_true,Bool.and_eq_true,decide_eq_true_eq] at hq
   cases i with
   | zero=>cases hx;exact hq.1
   | succ i=>
    have:=ih (q+1) hq.2 i x hx
    rw [show q+(i+1)=q+1+i by omega]
    exact this
 have hpk:∀ x,WS x=true→x.1=8∧x.2.2.1.2.1=3:=fun x hx=>by
  unfold WS De at hx
  rw [Bool.and_eq_true,decide_eq_true_eq,decide_eq_true_eq] at hx
  exact ⟨hx.1,hx.2.2.2⟩
 rcases h.j.j j hj with ⟨s,hs,hw⟩ | ⟨i,x,hx,hact⟩
 ·have:=hid s hs
  unfold OU at hw
  omega
 ·obtain ⟨p1,p2⟩:=key _ 0 h2 i x hx
  rw [Nat.zero_add] at p2
  obtain ⟨p3,p4⟩:=hpk x p1
  rcases hact with ha | ha | ha | ⟨_,_,hb⟩
  ·omega
  ·omega
  ·omega
  ·rcases h.s.sg i x hx ⟨p3,by omega⟩ with hh | hh | ⟨y,hy,hh⟩ | ⟨y,hy,hh⟩
   ·rw [hb] at hh
    cases hh
   ·exact hh p2
   ·obtain ⟨i',hi'⟩:=List.mem_iff_getElem?.1 hy
    have:=(hpk y (key _ 0 h2 i' y hi').1).1
    have:=hh.1
    omega
   ·have:=hid y hy
    have:=hh.1
    omega
theorem pj {n k:Nat} (hk:9223372036854779000≤k) {p:PB} (h:Aw n p) (hn:n≤9000) (ha:Us p=true):∃ z,fm k p=some z∧z≤0:=by
 obtain ⟨z,h1,h2⟩:=QR hk h.g.t.wt (fun x hx=>by have:=(h.g.w x hx).s;omega) (fun x hx=>(h.g.s x hx).s) h.m
 have hne:=Gv h ha
 refine ⟨z,h1,?_⟩
 rw [h2 fun v v0 v1 hv=>hne (2*v+3) (.inr ⟨v,v0,v1,rfl,hv⟩)]
 have:¬ neI p.2.2.1:=fun hh=>hne 1 (.inl ⟨rfl,hh⟩)
 unfold neI at this
 omega
end Go.Ab
set_option linter.unusedVariables false
set_option linter.unusedSimpArgs false
namespace Go.Ab
def RlK {A B:Type} (x:Option (A×B)) (y:Option (A×B×Nat)):Prop:=∀ r,x=some r→∃ e,(e=3∨e=0)∧y=some (r.1,r.2,e)
section
variable {A B C:Type}
theorem RlK.non {y:Option (A×B×Nat)}:RlK none y:=fun r h=>by cases h
theorem RlK.fin (a:A) (b:B) {e:Nat} (h:e=3∨e=0):RlK (some (a,b)) (some (a,b,e)):=fun r hr=>by cases hr;exact ⟨e,h,rfl⟩
theorem RlK.ob {a:Option C} {f:C→Option (A×B)} {g:C→Option (A×B×Nat)} (h:∀ x,RlK (f x) (g x)):RlK (ob a f) (ob a g):=by
 cases a with
 | none=>exact .non
 | some x=>rw [af,af];exact h x
theorem RlK.cond {c:Bool} {x x':Option (A×B)} {y y':Option (A×B×Nat)} (h:RlK x y) (h':RlK x' y'):RlK (bif c then x else x') (bif c then y else y'):=by
 cases c
 ·exact h'
 ·exact h
theorem RlK.ck {c:Bool} {x:Option (A×B)} {y:Option (A×B×Nat)} (h:RlK x y):RlK (ck c x) (ck c y):=by
 cases c
 ·exact fun r hr=>by cases hr
 ·rw [cf,cf];exact h
end
theorem Good.mono {n m:Nat} {p:PB} (h:Good n p) (hnm:n≤m):Good m p:=⟨h.t,h.tl,h.m,fun x hx=>⟨(h.w x hx).f,Nat.le_trans (h.w x hx).s hnm,(h.w x hx).sp⟩,h.s⟩
section
variable {k:Nat} (hk:9223372036854779100≤k)
include hk
theorem acU (c:CF) {t:Tyt} (ht:FwT t) {roots:List (List Int)} (hr:∀ l ∈ roots,l.length≤60) {b:List Int} (hb:Wby b) (hl:b.length≤2000) :
  gT k c t roots b=some (JD,[],false)∨gT k c t roots b=some ((mJ (Aa c t roots) (BW b)).1,(mJ (Aa c t roots) (BW b)).2,true)∧eM c=true∧uE t=true∧roots.length≤3∧(∀ l ∈ roots,∀ y ∈ l,0≤y∧y<(t.length:Int)):=by
 unfold gT
 simp only [Prod.eta]
 rcases acT (k:=k+41) (by omega) c ht (roots:=roots) (fun x hx=>by have:=hr x hx;omega) with h | ⟨h,hc,ht2,h3,hr'⟩
 ·rw [h,af]
  exact .inl rfl
 ·refine .inr ⟨?_,hc,ht2,h3,hr'⟩
  have g0:=Jj (c:=c) ht hr
  have m0:=NT hc ht2 h3 hr'
  have L:=CI m0
  have hd:=Hh b
  rw [h,af,Bool.not_true,cond_false,RY (by omega) hb hl,af,Z2 (by omega) (by omega) (TW hb) g0 (by omega) (by omega) (by omega) (by omega)]
  unfold ade
  rw [if_pos m0,af]
end
end Go.Ab
namespace Go.Ab
open Go.WideShapes
structure Ll (l:List (List Int)):Prop where
 len:l.length≤9223372036854775807
 each:∀ x ∈ l,x.length≤9223372036854775807
theorem ae2 {l:List (List Int)} (hm:l.length≤maxLen) (h:∀ x ∈ l,(∀ n ∈ x,i64 n)∧x.length≤maxLen):Ll l:=⟨abP hm,fun x hx=>abP (h x hx).2⟩
end Go.Ab
namespace Go.Ab
open Go.WideShapes
end Go.Ab
namespace Go.Ab
open Go.WideShapes
end Go.Ab
namespace Go.Ab
open Go.WideShapes
def IY (x:Int×Int×Int):Prop:=i64 x.1∧i64 x.2.1∧u64 x.2.2
def Wpk (l:Tye):Prop:=∀ x ∈ l,0≤x.2.2∧x.2.2≤18446744073709551615
theorem adm {l:Tye} (h:∀ x ∈ l,IY x) (hm:l.length≤maxLen):Wpk l:=fun x hx=>aaA (h x hx).2.2
theorem JQ {P:Program} {t ti tu:TypeId} {f0 f1 f2:Field} {vs:List V} (he:P.underlying t=some (.struct #[f0,f1,f2])) (h0:f0.type=ti) (h1:f1.type=ti) (h2:f2.type=tu)
  (o0:f0.offset=0) (o1:f1.offset=1) (o2:f2.offset=2) (hi:P.underlying ti=some (.int .i64)) (ci:P.cellsOf ti=1) (hu:P.underlying tu=some (.int .u64)) (cu:P.cellsOf tu=1) (ce:P.cellsOf t=3) (h:Shape P t vs) :
  ∃ x:Int×Int×Int,vs=fi x∧IY x:=by
 obtain ⟨a,b⟩:=np he h
 have s0:=b 0 f0 rfl
 have s1:=b 1 f1 rfl
 have s2:=b 2 f2 rfl
 rw [h0,o0,ci,List.drop_zero] at s0
 rw [h1,o1,ci] at s1
 rw [h2,o2,cu] at s2
 rw [ce] at a
 obtain ⟨n0,e0,w0⟩:=gn hi s0
 obtain ⟨n1,e1,w1⟩:=gn hi s1
 obtain ⟨n2,e2,w2⟩:=gn hu s2
 match vs,a with
 | [x,y,z],_=>
  simp at e0 e1 e2
  subst e0 e1 e2
  exact ⟨(n0,n1,n2),rfl,w0,w1,w2⟩
theorem Gh {P:Program} {t e ti tu:TypeId} {f0 f1 f2:Field} {vs:List V} (ht:P.underlying t=some (.slice e)) (he:P.underlying e=some (.struct #[f0,f1,f2])) (h0:f0.type=ti) (h1:f1.type=ti) (h2:f2.type=tu)
  (o0:f0.offset=0) (o1:f1.offset=1) (o2:f2.offset=2) (hi:P.underlying ti=some (.int .i64)) (ci:P.cellsOf ti=1) (hu:P.underlying tu=some (.int .u64)) (cu:P.cellsOf tu=1) (ce:P.cellsOf e=3) (h:Shape P t vs) :
  ∃ l:Tye,vs=[.ro (l.map fi)]∧(∀ x ∈ l,IY x)∧l.length≤maxLen:=by
 obtain ⟨rows,rfl,hr,hm⟩:=mu ht h
 obtain ⟨l,rfl,hl⟩:=mc (enc:=fi) (Q:=IY) (rows:=rows) (fun r hx=>JQ he h0 h1 h2 o0 o1 o2 hi ci hu cu ce (hr r hx))
 exact ⟨l,rfl,hl,by simpa using hm⟩
end Go.Ab
namespace Go.Ab
open Go.WideShapes
theorem agd {l:List Int} (h:∀ n ∈ l,(Lit.int .u8 n).wf=true) (hm:l.length≤maxLen):Wby l:=by
 intro x hx
 have h1:IntKind.min .u8=0:=by decide
 have h2:IntKind.max .u8=255:=by decide
 simpa [Lit.wf,h1,h2] using h x hx
end Go.Ab
