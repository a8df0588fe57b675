import Derived.Test.YtblpbpnilkfjhaaGreatAbLibC
import Derived.Test.YtblpbpnilkfjhaaGreatR6GX
import Derived.WideShapes
import Derived.Test.YtblpbpnilkfjhaaGreatR6GY
import Derived.Test.YtblpbpnilkfjhaaGreatR6GZ
set_option linter.unusedVariables false
set_option linter.unusedSimpArgs false
set_option linter.unusedVariables false
namespace Go.Ab
def nX (x:Int×List Int):Bool:=decide (x.1<0)||decide (20<x.1)
def my:Nat→Tyt→List (Int×Int)
 | _,[]=>[]
 | i,x::r=>x.2.map (fun k=>(k,(i:Int)))++my (i+1) r
def uE (n:Nat) (had:List Bool) (q:Int×Int):Bool:=decide (q.1≤q.2)||decide ((n:Int)≤q.1)||(had[q.1.toNat]?).getD true
abbrev WJ (n:Nat) := { h:List Bool // h.length=n }
def fo (n:Nat) (had:WJ n) (q:Int×Int):Bool×WJ n:=
 if uE n had.1 q then (false,had) else (true,⟨had.1.set q.1.toNat true,by simp [had.2]⟩)
def FL (n:Nat):WJ n:=⟨List.replicate n false,by simp⟩
def rG (t:Tyt):Bool:=decide (t.length≤30) && !(t.any nX)&&(TA (fo t.length) (my 0 t) (FL t.length)).1
structure Wt (t:Tyt):Prop where
 len:t.length≤9223372036854775807
 kids:∀ x ∈ t,x.2.length≤9223372036854775807
def YL (t:Tyt):Bool:=(t.take 41).all (fun x=>decide (x.2.length≤40))&&decide (t.length≤40)
theorem MA {t:Tyt} (h1:rG t=true):t.length≤30:=by
 unfold rG at h1
 simp only [Bool.and_eq_true,decide_eq_true_eq] at h1
 exact h1.1.1
theorem IW {α:Type} {l:List α} {F:Nat→Int→Option Int} (p:α→Bool)
  (h0:∀ n,F (n+1) (l.length:Int)=some (-1))
  (h1:∀ n (i:Nat) x,i<l.length→l[i]? = some x→F (n+1) (i:Int)=bif p x then some (i:Int) else F n ((i+1:Nat):Int))
  (n:Nat) (hn:l.length<n):F n 0=some (GW p l 0):=by
 have key:∀ r i n,l.drop i=r→i≤l.length→r.length<n→F n (i:Int)=some (GW p r i):=by
  intro r
  induction r with
  | nil=>
   intro i n hr hi hn
   obtain ⟨n,rfl⟩:=gE hn
   have:i=l.length:=by have:=dy hr;omega
   subst this
   rw [h0]
   rfl
  | cons x r ih=>
   intro i n hr hi hn
   obtain ⟨n,rfl⟩:=gE hn
   obtain ⟨a,b,c,d,e⟩:=cH hr
   rw [h1 n i x a b]
   simp only [GW]
   cases p x with
   | true=>rfl
   | false=>exact ih (i+1) n c (by omega) (by simp only [List.length_cons] at hn;omega)
 have:=key l 0 n rfl (Nat.zero_le _) hn
 simpa using this
theorem Cz (x y : Int) : (x != y) = !decide (x = y) := by by_cases h : x = y <;> simp [h]
theorem mj (x y:Int):(x==y)=decide (x=y):=by by_cases h:x=y <;> simp [h]
theorem uA {α:Type} (l:List α):decide ((l.length:Int)<(l.length:Int))=false:=decide_eq_false (by omega)
theorem ltN {i n:Nat} (h:i<n):decide ((i:Int)<(n:Int))=true:=decide_eq_true (by omega)
theorem fB {z:Int} (h : -9223372036854775808≤z∧z≤9223372036854775807):IntKind.i64.wrap z=z:=KY h.1 h.2
end Go.Ab
set_option linter.unusedVariables false
namespace Go.Ab
open Go
abbrev CF:=Int×Int×Int×Int
abbrev FR:=Int×Int×Int×Int×Int×Int×Int
def eu (c:CF):Bool:=decide (1≤c.1∧c.1≤8∧(c.2.1=1∨c.2.1=2∨c.2.1=4∨c.2.1=8∨c.2.1=16)∧1≤c.2.2.1∧c.2.2.1≤16∧0≤c.2.2.2∧c.2.2.2≤4)
def wN (c:CF) (w:Int):Int:=6+2*c.2.2.1+w*(3+c.2.1)
def cD (c:CF):Int:=if eu c=true then wN c c.1 else 0
def bR (c:CF) (w:Int):Int:=if eu c=true∧0≤w∧w<c.1 then wN c w+2 else -1
def ai (m:List Int) (i:Int):Int:=if 0≤i then (m[i.toNat]?).getD 0 else 0
def aJ (m:List Int) (i v:Int):List Int:=if 0≤i then m.set i.toNat v else m
def nG (m:List Int) (i old new:Int):List Int×Bool:=if 0≤i∧i<m.length∧ai m i=old then (aJ m i new,true) else (m,false)
def epB (e:Int):Int:=e/65536
def mkB (e:Int):Int:=e%65536
def gB (x w:Int):Bool:=decide (x/2 ^ w.toNat%2=1)
def Cy (e w:Int):Int:=if 0≤w∧w<16∧gB e w=false then e+2 ^ w.toNat else e
def b9 (f:FR):Bool:=f.2.2.2.2.2.2 !=0
def dR (f:FR) (res val:Int):FR:=(f.1,0,f.2.2.1,val,0,0,res)
def ln (c:CF) (m:List Int) (f:FR) (op pcs:Int):Bool:=eu c&&decide ((m.length:Int)=cD c)&&decide (f.2.2.2.2.2.2=0∧0≤f.2.2.1∧f.2.2.1<c.1∧f.1=op∧0≤f.2.1∧f.2.1<pcs)
def d8 (c:CF) (m:List Int) (f:FR):List Int×FR:=
 if ln c m f 5 5=false then (m,f)
 else if f.2.1=0 then (m,f.1,1,f.2.2.1,f.2.2.2.1,ai m 2,f.2.2.2.2.2)
 else if f.2.1=1 then (if epB (ai m 2)=epB f.2.2.2.2.1 then (m,f.1,2,f.2.2.1,f.2.2.2.1,f.2.2.2.2.1,ai m 2,f.2.2.2.2.2.2) else (m,dR f 4 0))
 else if f.2.1=2 then (let r:=nG m 2 f.2.2.2.2.2.1 (Cy f.2.2.2.2.2.1 f.2.2.1);(r.1,f.1,if r.2=true then 3 else 1,f.2.2))
 else if f.2.1=3 then (let y:=ai m (bR c f.2.2.1);(m,f.1,if y=0 then 3 else 4,f.2.2.1,f.2.2.2.1,f.2.2.2.2.1,y,f.2.2.2.2.2.2))
 else (aJ m (bR c f.2.2.1) 0,dR f 1 0)
def Cw (f:FR):Bool:=decide (f.1=5∧f.2.2.2.2.2.2=0∧f.2.1=3)
structure Wm (m:List Int):Prop where
 len:m.length≤9223372036854775807
 num:∀ x ∈ m,0≤x∧x≤18446744073709551615
theorem kg {z:Int} (h0:0≤z) (h1:z≤18446744073709551615):IntKind.u64.wrap z=z:=by
 simp [IntKind.wrap,IntKind.bits,IntKind.signed]
 omega
theorem adQ {a b:Nat} (ha:a<18446744073709551616) (hb:b<18446744073709551616):rJ .u64 (a:Int) (b:Int)=((a &&& b:Nat):Int):=by
 unfold rJ
 have h:(BitVec.ofInt IntKind.u64.bits (a:Int) &&& BitVec.ofInt IntKind.u64.bits (b:Int)).toNat=a &&& b:=by
  rw [BitVec.toNat_and]
  have e:IntKind.u64.bits=64:=rfl
  rw [e]
  simp only [BitVec.ofInt_natCast,BitVec.toNat_ofNat]
  rw [Nat.mod_eq_of_lt (by omega),Nat.mod_eq_of_lt (by omega)]
 rw [h]
 have:a &&& b≤a:=Nat.and_le_left
 exact kg (by omega) (by omega)
theorem orU {a b:Nat} (ha:a<18446744073709551616) (hb:b<18446744073709551616):orI .u64 (a:Int) (b:Int)=((a ||| b:Nat):Int):=by
 unfold orI
 have h:(BitVec.ofInt IntKind.u64.bits (a:Int) ||| BitVec.ofInt IntKind.u64.bits (b:Int)).toNat=a ||| b:=by
  rw [BitVec.toNat_or]
  have e:IntKind.u64.bits=64:=rfl
  rw [e]
  simp only [BitVec.ofInt_natCast,BitVec.toNat_ofNat]
  rw [Nat.mod_eq_of_lt (by omega),Nat.mod_eq_of_lt (by omega)]
 rw [h]
 have:a ||| b<2 ^ 64:=Nat.or_lt_two_pow (by omega) (by omega)
 exact kg (by omega) (by omega)
theorem Ss {e:Int} (h0:0≤e) (h1:e≤18446744073709551615):rJ .u64 e 65535=mkB e:=by
 obtain ⟨n,rfl⟩:∃ n:Nat,e=n:=⟨e.toNat,by omega⟩
 have:=adQ (a:=n) (b:=65535) (by omega) (by omega)
 have h2:((65535:Nat):Int)=65535:=rfl
 rw [h2] at this
 rw [this,mkB]
 have h3:n &&& 65535=n%65536:=Nat.and_two_pow_sub_one_eq_mod n 16
 rw [h3]
 omega
theorem acB {e w:Int} (h0:0≤e) (hw:0≤w) (hw2:w≤64):Sr .u64 e w=e/2 ^ w.toNat:=by
 unfold Sr
 have e1:IntKind.u64.bits=64:=rfl
 rw [e1]
 have:min w.toNat 64=w.toNat:=by omega
 rw [this,Int.fdiv_eq_ediv_of_nonneg _ (Int.le_of_lt (Int.pow_pos (by decide)))]
theorem T9 {e:Int} (h0:0≤e):Sr .u64 e 16=epB e:=by
 rw [acB h0 (by decide) (by decide)]
 rfl
theorem aeN {x:Int} (h0:0≤x) (h1:x≤18446744073709551615):rJ .u64 x 1=x%2:=by
 obtain ⟨n,rfl⟩:∃ n:Nat,x=n:=⟨x.toNat,by omega⟩
 have:=adQ (a:=n) (b:=1) (by omega) (by omega)
 have h2:((1:Nat):Int)=1:=rfl
 rw [h2] at this
 rw [this,Nat.and_one_is_mod]
 omega
theorem WW {x w:Int} (h0:0≤x) (h1:x≤18446744073709551615):0≤x/2 ^ w.toNat∧x/2 ^ w.toNat≤18446744073709551615:=by
 have hp:(0:Int)<2 ^ w.toNat:=Int.pow_pos (by decide)
 have:=Int.ediv_nonneg h0 (Int.le_of_lt hp)
 have:=Int.ediv_le_self (2 ^ w.toNat) h0
 omega
theorem ag7 {x w:Int} (h0:0≤x) (h1:x≤18446744073709551615) (hw:0≤w) (hw2:w≤64):(rJ .u64 (Sr .u64 x w) 1==1)=gB x w:=by
 have:=WW (w:=w) h0 h1
 rw [acB h0 hw hw2,aeN this.1 this.2,gB,mj]
theorem afU {w:Int} (hw:0≤w) (hw2:w<64):PV .u64 1 w=2 ^ w.toNat:=by
 unfold PV
 have e1:IntKind.u64.bits=64:=rfl
 rw [e1]
 have:min w.toNat 64=w.toNat:=by omega
 rw [this,Int.one_mul]
 have h1:(2:Nat) ^ w.toNat≤2 ^ 63:=Nat.pow_le_pow_right (by decide) (by omega)
 have h2:((2 ^ w.toNat:Nat):Int)=(2:Int) ^ w.toNat:=by rw [Int.natCast_pow];rfl
 have h3:(0:Int)<2 ^ w.toNat:=Int.pow_pos (by decide)
 exact kg (by omega) (by omega)
theorem X5 {e w:Int} (h0:0≤e) (h1:e≤18446744073709551615) (hw:0≤w) (hw2:w<16):orI .u64 e (2 ^ w.toNat)=Cy e w:=by
 obtain ⟨n,rfl⟩:∃ n:Nat,e=n:=⟨e.toNat,by omega⟩
 have hp:(2:Nat) ^ w.toNat≤2 ^ 15:=Nat.pow_le_pow_right (by decide) (by omega)
 have h2:((2 ^ w.toNat:Nat):Int)=(2:Int) ^ w.toNat:=by rw [Int.natCast_pow];rfl
 rw [← h2,orU (by omega) (by omega)]
 have hb:gB (n:Int) w=n.testBit w.toNat:=by
  rw [gB,Nat.testBit_eq_decide_div_mod_eq,← h2]
  have:((n:Int)/((2 ^ w.toNat:Nat):Int))%2=((n/2 ^ w.toNat%2:Nat):Int):=by rw [Int.natCast_emod,Int.natCast_ediv];rfl
  rw [this]
  congr 1
  apply propext
  omega
 unfold Cy
 cases ht:n.testBit w.toNat with
 | true=>
  rw [hb,ht,if_neg (by simp)]
  congr 1
  apply Nat.eq_of_testBit_eq
  intro i
  rw [Nat.testBit_or,Nat.testBit_two_pow]
  by_cases hi:w.toNat=i
  ·subst hi;simp [ht]
  ·simp [hi]
 | false=>
  rw [hb,ht,if_pos ⟨hw,hw2,rfl⟩,← h2]
  have h3:(BitVec.ofNat 80 n) &&& (BitVec.ofNat 80 (2 ^ w.toNat))=0#80:=by
   apply BitVec.eq_of_toNat_eq
   rw [BitVec.toNat_and]
   simp only [BitVec.toNat_ofNat]
   rw [Nat.mod_eq_of_lt (by omega),Nat.mod_eq_of_lt (by omega),Nat.zero_mod]
   apply Nat.eq_of_testBit_eq
   intro i
   rw [Nat.testBit_and,Nat.testBit_two_pow,Nat.zero_testBit]
   by_cases hi:w.toNat=i
   ·subst hi;simp [ht]
   ·simp [hi]
  have h4:=congrArg BitVec.toNat (BitVec.add_eq_or_of_and_eq_zero _ _ h3)
  rw [BitVec.toNat_add,BitVec.toNat_or] at h4
  simp only [BitVec.toNat_ofNat] at h4
  rw [Nat.mod_eq_of_lt (show n<2 ^ 80 by omega),Nat.mod_eq_of_lt (show 2 ^ w.toNat<2 ^ 80 by omega),Nat.mod_eq_of_lt (show n+2 ^ w.toNat<2 ^ 80 by omega)] at h4
  rw [← h4]
  omega
theorem cq {m:List Int} (hm:Wm m) (i:Int):0≤ai m i∧ai m i≤18446744073709551615:=by
 unfold ai
 split
 ·cases h:m[i.toNat]? with
  | none=>simp
  | some x=>exact hm.num x (List.mem_of_getElem? h)
 ·omega
theorem XK {e w:Int} (h0:0≤e) (h1:e≤18446744073709551615):0≤Cy e w∧Cy e w≤18446744073709551615:=by
 unfold Cy
 split
 ·rename_i h
  have hs:=X5 h0 h1 h.1 h.2.1
  unfold Cy at hs
  rw [if_pos h] at hs
  rw [← hs]
  obtain ⟨n,rfl⟩:∃ n:Nat,e=n:=⟨e.toNat,by omega⟩
  have hp:(2:Nat) ^ w.toNat≤2 ^ 15:=Nat.pow_le_pow_right (by decide) (by omega)
  have h2:((2 ^ w.toNat:Nat):Int)=(2:Int) ^ w.toNat:=by rw [Int.natCast_pow];rfl
  rw [← h2,orU (by omega) (by omega)]
  have:n ||| 2 ^ w.toNat<2 ^ 64:=Nat.or_lt_two_pow (by omega) (by omega)
  omega
 ·omega
end Go.Ab
set_option maxRecDepth 100000
set_option linter.unusedVariables false
namespace Go.Ab
theorem aQ {c:CF} (h:eu c=true):1≤c.1∧c.1≤8∧(c.2.1=1∨c.2.1=2∨c.2.1=4∨c.2.1=8∨c.2.1=16)∧1≤c.2.2.1∧c.2.2.1≤16∧0≤c.2.2.2∧c.2.2.2≤4:=by
 unfold eu at h
 exact of_decide_eq_true h
theorem cX {c:CF} (h:eu c=true) {w:Int} (h0:0≤w) (h1:w≤8):8≤wN c w∧wN c w≤190∧w*(3+c.2.1)≤152∧0≤w*(3+c.2.1):=by
 obtain ⟨_,_,hD,_,_,_,_⟩:=aQ h
 have a:0≤w*(3+c.2.1):=Int.mul_nonneg h0 (by omega)
 have b:w*(3+c.2.1)≤8*19:=Int.mul_le_mul h1 (by omega) (by omega) (by omega)
 unfold wN
 omega
theorem Ve (a b c:Int):en a b c=some (decide (b≤a∧a≤c)):=by
 unfold en
 by_cases h:b≤a
 ·simp [h]
 ·simp [h]
theorem ahk {D:Int} (h1:1≤D) (h2:D≤16):(rJ IntKind.i64 D (IntKind.i64.wrap (D - 1))==0)=decide (D=1∨D=2∨D=4∨D=8∨D=16):=by
 have:D=1∨D=2∨D=3∨D=4∨D=5∨D=6∨D=7∨D=8∨D=9∨D=10∨D=11∨D=12∨D=13∨D=14∨D=15∨D=16:=by omega
 rcases this with rfl | rfl | rfl | rfl | rfl | rfl | rfl | rfl | rfl | rfl | rfl | rfl | rfl | rfl | rfl | rfl <;> decide +kernel
theorem fe (c:CF):bM c=some (eu c):=by
 obtain ⟨W,D,I,S⟩:=c
 unfold bM eu
 simp only [Ve,ae]
 by_cases h1:1≤W∧W≤8
 ·rw [decide_eq_true h1,cond_true]
  by_cases h2:1≤D∧D≤16
  ·rw [decide_eq_true h2,cond_true,ahk h2.1 h2.2]
   by_cases h3:D=1∨D=2∨D=4∨D=8∨D=16
   ·rw [decide_eq_true h3,cond_true]
    by_cases h4:1≤I∧I≤16
    ·rw [decide_eq_true h4,cond_true]
     congr 1
     apply decide_eq_decide.2
     omega
    ·rw [decide_eq_false h4,cond_false]
     symm
     congr 1
     apply decide_eq_false
     omega
   ·rw [decide_eq_false h3,cond_false]
    symm
    congr 1
    apply decide_eq_false
    omega
  ·rw [decide_eq_false h2,cond_false]
   symm
   congr 1
   apply decide_eq_false
   omega
 ·rw [decide_eq_false h1,cond_false]
  symm
  congr 1
  apply decide_eq_false
  omega
theorem Dh {c:CF} (h:eu c=true) {w:Int} (h0:0≤w) (h1:w≤8):eO c w=some (wN c w):=by
 have ht:=cX h h0 h1
 have hm:=aQ h
 obtain ⟨W,D,I,S⟩:=c
 simp only [wN] at ht hm ⊢
 unfold eO
 simp only
 rw [fB (z:=2*I) (by omega),fB (z:=6+2*I) (by omega),fB (z:=3+D) (by omega),fB (z:=w*(3+D)) (by omega),fB (by omega)]
theorem pT (c:CF):dd c=some (cD c):=by
 unfold dd cD
 try simp only [Prod.eta]
 rw [fe,ae]
 cases h:eu c with
 | false=>rfl
 | true=>
  have hm:=aQ h
  rw [Bool.not_true,cond_false,if_pos rfl,Dh h (by omega) (by omega),ae]
theorem lj (f:FR):aG f=some (b9 f):=rfl
theorem gY (f:FR) (r v:Int):aX f r v=some (dR f r v):=rfl
theorem H0 (c : CF) (m : List Int) (f : FR) (op pcs : Int) : eC c m f op pcs = some (ln c m f op pcs) := by
  obtain ⟨a0, a1, a2, a3, a4, a5, a6⟩ := f
  unfold eC ln
  try simp only [Prod.eta]
  rw [fe, ae]
  cases h : eu c with
  | false => rfl
  | true =>
    rw [cond_true, pT, ae, mj]
    by_cases h1 : (m.length : Int) = cD c
    · rw [decide_eq_true h1, cond_true, lj, ae, b9]
      simp only
      by_cases h2 : a6 = 0
      · subst h2
        have e : (!((0 : Int) != 0)) = true := rfl
        rw [e, cond_true]
        by_cases h3 : 0 ≤ a2
        · rw [leT h3, cond_true]
          by_cases h4 : a2 < c.1
          · rw [ltT h4, cond_true, mj]
            by_cases h5 : a0 = op
            · rw [decide_eq_true h5, cond_true]
              by_cases h6 : 0 ≤ a1
              · rw [leT h6, cond_true]
                simp [h3, h4, h5, h6]
              · rw [leF (by omega), cond_false]
                simp [h6]
            · rw [decide_eq_false h5, cond_false]
              simp [h5]
          · rw [ltF (by omega), cond_false]
            simp [h4]
        · rw [leF (by omega), cond_false]
          simp [h3]
      · have e : (!(a6 != 0)) = false := by simp [h2]
        rw [e, cond_false]
        simp [h2]
    · rw [decide_eq_false h1, cond_false]
      simp
theorem HI (c:CF) (w:Int):eR c w=some (bR c w):=by
 unfold eR bR
 try simp only [Prod.eta]
 rw [fe,ae]
 cases h:eu c with
 | false=>simp
 | true=>
  have hm:=aQ h
  rw [Bool.not_true,cond_false,fB (by omega),Ve,ae]
  by_cases h1:0≤w∧w≤c.1 - 1
  ·have ht:=cX h h1.1 (by omega)
   rw [decide_eq_true h1,Bool.not_true,cond_false,Dh h (by omega) (by omega),ae,fB (by omega),if_pos ⟨rfl,by omega,by omega⟩]
  ·rw [decide_eq_false h1,Bool.not_false,cond_true,if_neg (by omega)]
theorem ad0 (m:List Int) (i:Int):gP m i=some (decide (0≤i∧i<m.length)):=by
 unfold gP
 by_cases h:0≤i
 ·simp [h]
 ·simp [h]
theorem lX {m:List Int} {i:Int} (h:0≤i∧i<m.length):idx m i=some (ai m i)∧m[i.toNat]? = some (ai m i):=by
 have h2:i.toNat<m.length:=by omega
 rw [idx,if_pos h.1,ai,if_pos h.1,List.getElem?_eq_getElem h2]
 exact ⟨rfl,rfl⟩
theorem RS {m:List Int} {i:Int} (h:¬ (0≤i∧i<m.length)):ai m i=0:=by
 unfold ai
 split
 ·rw [List.getElem?_eq_none (by omega)]
  rfl
 ·rfl
theorem Mh {m:List Int} {i v:Int} (h:¬ (0≤i∧i<m.length)):aJ m i v=m:=by
 unfold aJ
 split
 ·rw [List.set_eq_of_length_le (by omega)]
 ·rfl
theorem iV {m:List Int} {i v:Int}:(aJ m i v).length=m.length:=by
 unfold aJ
 split <;> simp
theorem Wm.set {m:List Int} (h:Wm m) (i:Int) {v:Int} (h0:0≤v) (h1:v≤18446744073709551615):Wm (aJ m i v):=by
 refine ⟨by rw [iV];exact h.len,fun x hx => ?_⟩
 unfold aJ at hx
 split at hx
 ·rcases List.mem_or_eq_of_mem_set hx with hx | rfl
  ·exact h.num x hx
  ·exact ⟨h0,h1⟩
 ·exact h.num x hx
theorem Wm.cas {m:List Int} (h:Wm m) (i o:Int) {v:Int} (h0:0≤v) (h1:v≤18446744073709551615):Wm (nG m i o v).1:=by
 unfold nG
 split
 ·exact h.set i h0 h1
 ·exact h
theorem dl (m:List Int) (i:Int):aE m i=some (ai m i):=by
 unfold aE
 rw [ad0,ae]
 by_cases h:0≤i∧i<m.length
 ·rw [decide_eq_true h,Bool.not_true,cond_false,(lX h).1,ae]
 ·rw [decide_eq_false h,Bool.not_false,cond_true,RS h]
theorem bJ {α:Type} {b:Nat} {l:List α} (h:l.length*b≤70368744177664):aO b l=some l:=by
 unfold aO
 have:Nat.ble (l.length*b) 70368744177664=true:=Nat.ble_eq_true_of_le h
 rw [this,ct]
section
variable {m:List Int} (hl:m.length≤1000)
include hl
theorem iJ (i v:Int):bv m i v=some (aJ m i v):=by
 unfold bv
 rw [bJ (by omega),ae,ad0,ae]
 by_cases h:0≤i∧i<m.length
 ·rw [decide_eq_true h,Bool.not_true,cond_false,(lX h).1,ae,decide_eq_true (by omega),cond_true,(lX h).2,ae,ae,aJ,if_pos h.1]
 ·rw [decide_eq_false h,Bool.not_false,cond_true,Mh h]
theorem Gv (i o v:Int):dh m i o v=some (nG m i o v):=by
 unfold dh nG
 rw [bJ (by omega),ae,ad0,ae]
 by_cases h:0≤i∧i<m.length
 ·rw [decide_eq_true h,Bool.not_true,cond_false,(lX h).1,ae,Cz]
  by_cases h2:ai m i=o
  ·rw [decide_eq_true h2,Bool.not_true,cond_false,decide_eq_true (by omega),cond_true,(lX h).2,ae,ae,if_pos ⟨h.1,h.2,h2⟩,aJ,if_pos h.1]
  ·rw [decide_eq_false h2,Bool.not_false,cond_true,decide_eq_true (by omega),cond_true,(lX h).2,ae,ae,if_neg (fun hh=>h2 hh.2.2)]
   have:=(lX h).2
   rw [List.getElem?_eq_some_iff] at this
   obtain ⟨h3,h4⟩:=this
   rw [← h4,List.set_getElem_self]
 ·rw [decide_eq_false h,Bool.not_false,cond_true,if_neg (fun hh=>h ⟨hh.1,hh.2.1⟩)]
end
theorem aeH {e w:Int} (h0:0≤e) (h1:e≤18446744073709551615):lE e w=some (Cy e w):=by
 unfold lE
 by_cases h2:w<0
 ·rw [ltT h2,cond_true,Cy,if_neg (by omega)]
 ·rw [ltF (by omega),cond_false]
  by_cases h3:16≤w
  ·rw [leT h3,cond_true,Cy,if_neg (by omega)]
  ·rw [leF (by omega),cond_false,leT (by omega),cond_true,afU (by omega) (by omega),X5 h0 h1 (by omega) (by omega)]
theorem BD {e:Int} (h0:0≤e):dK e=some (epB e):=by
 unfold dK
 rw [T9 h0]
theorem Ae {e:Int} (h0:0≤e) (h1:e≤18446744073709551615):cU e=some (mkB e):=by
 unfold cU
 rw [Ss h0 h1]
def Wf (f:FR):Prop:=(0≤f.2.2.2.1∧f.2.2.2.1≤18446744073709551615)∧(0≤f.2.2.2.2.1∧f.2.2.2.2.1≤18446744073709551615)∧(0≤f.2.2.2.2.2.1∧f.2.2.2.2.2.1≤18446744073709551615)
theorem Cl {c:CF} {m:List Int} {f:FR} {op pcs:Int} (h:ln c m f op pcs=true):eu c=true∧(m.length:Int)=cD c∧f.2.2.2.2.2.2=0∧0≤f.2.2.1∧f.2.2.1<c.1∧f.1=op∧0≤f.2.1∧f.2.1<pcs:=by
 unfold ln at h
 rw [Bool.and_eq_true,Bool.and_eq_true,decide_eq_true_eq,decide_eq_true_eq] at h
 exact ⟨h.1.1,h.1.2,h.2⟩
theorem U7 (c:CF) {m:List Int} (hm:Wm m) (hl:m.length≤1000) {f:FR} (hf:Wf f):iN c m f=some (d8 c m f):=by
 have hr:=cq hm 2
 unfold iN d8
 try simp only [Prod.eta]
 rw [bJ (by omega),ae,H0,ae]
 cases h:ln c m f 5 5 with
 | false=>rfl
 | true=>
  obtain ⟨_,_,h6,h2,h2',h0,h1,h1'⟩:=Cl h
  rw [cond_true,if_neg (by simp)]
  obtain ⟨a0,a1,a2,a3,a4,a5,a6⟩:=f
  simp only at h6 h2 h2' h0 h1 h1' ⊢
  have e:decide (0≤a1∧a1.toNat<5)=true:=by rw [decide_eq_true_eq];omega
  rw [e,cond_true]
  obtain ⟨_,w4,w5⟩:=hf
  simp only at w4 w5
  have hp:a1=0∨a1=1∨a1=2∨a1=3∨a1=4:=by omega
  rcases hp with rfl | rfl | rfl | rfl | rfl
  ·simp [dl,ae]
  ·simp only [dl,ae,BD hr.1,BD w4.1,Cz,gY]
   by_cases h5:epB (ai m 2)=epB a4
   ·simp [h5]
   ·simp [h5,dR]
  ·simp only [aeH w5.1 w5.2,ae,Gv hl]
   cases hc:(nG m 2 a5 (Cy a5 a2)).2 <;> simp [hc]
  ·simp only [HI,dl,ae,Cz]
   by_cases h5:ai m (bR c a2)=0
   ·simp [h5]
   ·simp [h5]
  ·simp only [HI,ae,iJ hl,gY]
   simp [dR]
end Go.Ab
set_option linter.unusedVariables false
namespace Go.Ab
theorem fM {m:List Int} {i:Int} (v:Int) (h0:0≤i) (h1:i<m.length):ai (aJ m i v) i=v:=by
 unfold ai aJ
 rw [if_pos h0,if_pos h0,List.getElem?_set_self (by omega)]
 rfl
theorem aH {m:List Int} {i j:Int} (v:Int) (h:i≠j):ai (aJ m i v) j=ai m j:=by
 unfold ai aJ
 by_cases h0:0≤i
 ·by_cases h1:0≤j
  ·rw [if_pos h1,if_pos h0,List.getElem?_set_ne (by omega),if_pos h1]
  ·rw [if_neg h1,if_neg h1]
 ·rw [if_neg h0]
structure OkB (c:CF) (m:List Int) (w:Int):Prop where
 may:eu c=true
 len:(m.length:Int)=cD c
 low:0≤w
 high:w<c.1
theorem OkB.size {c:CF} {m:List Int} {w:Int} (h:OkB c m w):(m.length:Int)=wN c c.1∧12≤m.length∧m.length≤190:=by
 have hm:=aQ h.may
 have ht:=cX h.may (w:=c.1) (by omega) (by omega)
 have hl:=h.len
 rw [cD,if_pos h.may] at hl
 obtain ⟨W,D,I,S⟩:=c
 simp only [wN] at *
 have:1*(3+D)≤W*(3+D):=Int.mul_le_mul_of_nonneg_right (by omega) (by omega)
 omega
theorem OkB.park {c:CF} {m:List Int} {w:Int} (h:OkB c m w):bR c w=wN c w+2∧2<bR c w∧bR c w<m.length:=by
 have hm:=aQ h.may
 have hs:=h.size
 have hl:=h.low
 have hh:=h.high
 have e:bR c w=wN c w+2:=by rw [bR,if_pos ⟨h.may,h.low,h.high⟩]
 have ht:=cX h.may hl (by omega)
 rw [e]
 obtain ⟨W,D,I,S⟩:=c
 simp only [wN] at *
 have h2:(w+1)*(3+D)≤W*(3+D):=Int.mul_le_mul_of_nonneg_right (by omega) (by omega)
 have h3:(w+1)*(3+D)=w*(3+D)+(3+D):=by rw [Int.add_mul,Int.one_mul]
 exact ⟨trivial,by omega,by omega⟩
theorem NK {c:CF} {m:List Int} {v w:Int} (hv:OkB c m v) (hw:OkB c m w) (h:v≠w):bR c v≠bR c w:=by
 have hm:=aQ hv.may
 rw [hv.park.1,hw.park.1]
 obtain ⟨W,D,I,S⟩:=c
 simp only [wN] at *
 intro e
 have e2:v*(3+D)=w*(3+D):=by omega
 exact h (Int.eq_of_mul_eq_mul_right (by omega) e2)
theorem OkB.store {c:CF} {m:List Int} {w:Int} (h:OkB c m w) (i v:Int):OkB c (aJ m i v) w:=⟨h.may,by rw [iV];exact h.len,h.low,h.high⟩
theorem OkB.goes {c:CF} {m:List Int} {w:Int} (h:OkB c m w) {op pc a3 a4 a5 pcs:Int} (h0:0≤pc) (h1:pc<pcs):ln c m (op,pc,w,a3,a4,a5,0) op pcs=true:=by
 unfold ln
 rw [h.may,decide_eq_true h.len]
 simp [h.low,h.high,h0,h1]
section
variable {c:CF} {m:List Int} {w a3 a4 a5:Int} (h:OkB c m w)
include h
theorem afq:d8 c m (5,1,w,a3,a4,a5,0)=if epB (ai m 2)=epB a4 then (m,5,2,w,a3,a4,ai m 2,0) else (m,5,0,w,0,0,0,4):=by
 unfold d8
 rw [h.goes (by decide) (by decide)]
 simp [dR]
theorem agD:d8 c m (5,2,w,a3,a4,a5,0)=if ai m 2=a5 then (aJ m 2 (Cy a5 w),5,3,w,a3,a4,a5,0) else (m,5,1,w,a3,a4,a5,0):=by
 have hs:=h.size
 unfold d8
 rw [h.goes (by decide) (by decide)]
 simp only [if_neg (show ¬ (true=false) by simp),if_neg (show ¬ ((2:Int)=0) by decide),if_neg (show ¬ ((2:Int)=1) by decide),if_true,nG]
 by_cases e:ai m 2=a5
 ·rw [if_pos e,if_pos ⟨by decide,by omega,e⟩]
  rfl
 ·rw [if_neg e,if_neg (fun hh=>e hh.2.2)]
  rfl
theorem ahY:d8 c m (5,3,w,a3,a4,a5,0)=(m,5,(if ai m (bR c w)=0 then 3 else 4),w,a3,a4,ai m (bR c w),0):=by
 unfold d8
 rw [h.goes (by decide) (by decide)]
 simp
theorem afu:d8 c m (5,4,w,a3,a4,a5,0)=(aJ m (bR c w) 0,5,0,w,0,0,0,1):=by
 unfold d8
 rw [h.goes (by decide) (by decide)]
 simp [dR]
end
theorem lW (n:Nat) {w:Int} (hw:0≤w):gB (n:Int) w=n.testBit w.toNat:=by
 have h2:((2 ^ w.toNat:Nat):Int)=(2:Int) ^ w.toNat:=by rw [Int.natCast_pow];rfl
 rw [gB,Nat.testBit_eq_decide_div_mod_eq,← h2]
 have:((n:Int)/((2 ^ w.toNat:Nat):Int))%2=((n/2 ^ w.toNat%2:Nat):Int):=by rw [Int.natCast_emod,Int.natCast_ediv];rfl
 rw [this]
 congr 1
 apply propext
 omega
theorem Mn {n:Nat} (hn:n<18446744073709551616) {w:Int} (hw:0≤w) (hw2:w<16):Cy (n:Int) w=((n ||| 2 ^ w.toNat:Nat):Int):=by
 have hp:(2:Nat) ^ w.toNat≤2 ^ 15:=Nat.pow_le_pow_right (by decide) (by omega)
 have h2:((2 ^ w.toNat:Nat):Int)=(2:Int) ^ w.toNat:=by rw [Int.natCast_pow];rfl
 rw [← X5 (by omega) (by omega) hw hw2,← h2,orU hn (by omega)]
theorem Kr {e w v:Int} (h0:0≤e) (h1:e≤18446744073709551615) (hw:0≤w) (hw2:w<16) (hv:0≤v):gB (Cy e w) v=(decide (v=w)||gB e v):=by
 obtain ⟨n,rfl⟩:∃ n:Nat,e=n:=⟨e.toNat,by omega⟩
 rw [Mn (by omega) hw hw2,lW _ hv,lW _ hv,Nat.testBit_or,Nat.testBit_two_pow]
 by_cases e:v=w
 ·subst e;simp
 ·have:¬ w.toNat=v.toNat:=by omega
  simp [e,this]
theorem m6 {e v:Int} (h0:0≤e) (hv:0≤v) (hv2:v<16):gB (mkB e) v=gB e v:=by
 obtain ⟨n,rfl⟩:∃ n:Nat,e=n:=⟨e.toNat,by omega⟩
 have:mkB (n:Int)=((n%2 ^ 16:Nat):Int):=by unfold mkB;omega
 rw [this,lW _ hv,lW _ hv,Nat.testBit_mod_two_pow]
 have:v.toNat<16:=by omega
 simp [this]
theorem abD {e w:Int} (h0:0≤e) (h1:e≤18446744073709551615) (hw:0≤w) (hw2:w<16):epB (Cy e w)=epB e:=by
 obtain ⟨n,rfl⟩:∃ n:Nat,e=n:=⟨e.toNat,by omega⟩
 rw [Mn (by omega) hw hw2]
 have hp:(2:Nat) ^ w.toNat<2 ^ 16:=Nat.pow_lt_pow_right (by decide) (by omega)
 have h2:(n ||| 2 ^ w.toNat)/2 ^ 16=n/2 ^ 16:=by
  rw [← Nat.shiftRight_eq_div_pow,Nat.shiftRight_or_distrib,Nat.shiftRight_eq_div_pow,Nat.shiftRight_eq_div_pow,Nat.div_eq_of_lt hp,Nat.or_zero]
 unfold epB
 have h3:∀ x:Nat,((x:Int)/65536)=((x/2 ^ 16:Nat):Int):=by intro x;omega
 rw [h3,h3,h2]
theorem XH (op w:Int):aF op w 0=some (op,0,w,0,0,0,0):=rfl
theorem wf0 {op pc w:Int} {r:Int}:Wf (op,pc,w,0,0,0,r):=by simp [Wf]
end Go.Ab
set_option linter.unusedVariables false
namespace Go.Ab
def rE (e m:Int):Int:=e%281474976710656*65536+m%65536
def N1 (x:Int):Nat→Nat→Int
 | _,0 => -1
 | i,d+1=>if gB x i=true then (i:Int) else N1 x (i+1) d
def wP (x:Int):Int:=N1 x 0 16
def GF (x:Int):Int:=if wP x<0 then 0 else x - 2 ^ (wP x).toNat
def mA (x:Int):Int:=rE (epB x+1) (GF (mkB x))
def XT (x:Int):Int:=rE (epB x+1) 0
def wV (c:CF) (m:List Int) (w:Int):List Int:=aJ m (bR c w) 1
def nm (c:CF) (m:List Int) (f:FR):Bool:=decide (f.1=6∨f.1=7)&&eu c&&decide ((m.length:Int)=cD c)&&decide (f.2.2.2.2.2.2=0∧0≤f.2.1∧f.2.1≤2)
def dc (c:CF) (m:List Int) (f:FR):List Int×FR:=
 if nm c m f=false then (m,f)
 else if f.2.1=0 then (m,f.1,1,f.2.2.1,f.2.2.2.1,ai m 2,f.2.2.2.2.2)
 else if f.2.1=1 then
  (if ai m 2=f.2.2.2.2.1 then
   (aJ m 2 (if f.1=6 then mA f.2.2.2.2.1 else XT f.2.2.2.2.1),
    if mkB f.2.2.2.2.1=0 then dR f 3 0 else (f.1,2,f.2.2.1,f.2.2.2.1,f.2.2.2.2.1,(if f.1=6 then (if wP (mkB f.2.2.2.2.1)<0 then 0 else wP (mkB f.2.2.2.2.1)) else mkB f.2.2.2.2.1),f.2.2.2.2.2.2))
  else (m,f.1,0,f.2.2))
 else if f.1=6 then (wV c m (if f.2.2.2.2.2.1<8 then f.2.2.2.2.2.1 else -1),dR f 1 f.2.2.2.2.2.1)
 else (wV c m (wP f.2.2.2.2.2.1),if GF (mkB f.2.2.2.2.2.1)=0 then dR f 1 (mkB f.2.2.2.2.1) else (f.1,2,f.2.2.1,f.2.2.2.1,f.2.2.2.2.1,GF (mkB f.2.2.2.2.2.1),f.2.2.2.2.2.2))
def Qf (f:FR) (w:Int):Bool := !(b9 f)&&decide (f.2.1=2∧0≤w∧w<16)&&(decide (f.1=6∧f.2.2.2.2.2.1=w)||(decide (f.1=7)&&gB f.2.2.2.2.2.1 w))
theorem Ao (x:Int):∀ (d i:Nat),(N1 x i d = -1∧∀ j:Nat,i≤j→j<i+d→gB x j=false)∨(∃ j:Nat,N1 x i d=j∧i≤j∧j<i+d∧gB x j=true∧∀ l:Nat,i≤l→l<j→gB x l=false)
 | 0,i => .inl ⟨rfl,fun j h1 h2=>by omega⟩
 | d+1,i=>by
  by_cases h:gB x i=true
  ·exact .inr ⟨i,by rw [N1,if_pos h],by omega,by omega,h,fun l h1 h2=>by omega⟩
  ·have e:N1 x i (d+1)=N1 x (i+1) d:=by rw [N1,if_neg h]
   rw [e]
   rcases Ao x d (i+1) with ⟨h1,h2⟩ | ⟨j,h1,h2,h3,h4,h5⟩
   ·refine .inl ⟨h1,fun j h3 h4 => ?_⟩
    by_cases e2:i=j
    ·subst e2;simpa using h
    ·exact h2 j (by omega) (by omega)
   ·refine .inr ⟨j,h1,by omega,by omega,h4,fun l h6 h7 => ?_⟩
    by_cases e2:i=l
    ·subst e2;simpa using h
    ·exact h5 l (by omega) h7
theorem uQ (x:Int):(wP x = -1∧∀ j:Nat,j<16→gB x j=false)∨(∃ j:Nat,wP x=j∧j<16∧gB x j=true∧∀ l:Nat,l<j→gB x l=false):=by
 rcases Ao x 16 0 with ⟨h1,h2⟩ | ⟨j,h1,h2,h3,h4,h5⟩
 ·exact .inl ⟨h1,fun j h=>h2 j (by omega) (by omega)⟩
 ·exact .inr ⟨j,h1,by omega,h4,fun l h=>h5 l (by omega) h⟩
theorem Vh {a w:Nat}:(2 ^ (w+1)*a+2 ^ w) &&& (2 ^ (w+1)*a+(2 ^ w - 1))=2 ^ (w+1)*a:=by
 have hp:0<2 ^ w:=Nat.pow_pos (by decide)
 have hs:2 ^ (w+1)=2*2 ^ w:=by rw [Nat.pow_succ,Nat.mul_comm]
 apply Nat.eq_of_testBit_eq
 intro j
 have e0:2 ^ (w+1)*a=2 ^ (w+1)*a+0:=rfl
 rw [Nat.testBit_and,Nat.testBit_two_pow_mul_add a (by omega),Nat.testBit_two_pow_mul_add a (by omega),e0,Nat.testBit_two_pow_mul_add a (by omega)]
 by_cases h:j<w+1
 ·rw [if_pos h,if_pos h,if_pos h,Nat.testBit_two_pow,Nat.testBit_two_pow_sub_one,Nat.zero_testBit]
  by_cases h2:w=j
  ·subst h2;simp
  ·simp [h2]
 ·rw [if_neg h,if_neg h,if_neg h,Bool.and_self]
theorem lh {x:Int} (h0:0≤x) (h1:x<65536):(x=0∧wP x = -1)∨(∃ a w:Nat,x=((2 ^ (w+1)*a+2 ^ w:Nat):Int)∧wP x=w∧w<16):=by
 obtain ⟨n,rfl⟩:∃ n:Nat,x=n:=⟨x.toNat,by omega⟩
 have hb:∀ j:Nat,gB (n:Int) (j:Int)=n.testBit j:=fun j=>lW n (by omega)
 rcases uQ (n:Int) with ⟨h2,h3⟩ | ⟨w,h2,h3,h4,h5⟩
 ·refine .inl ⟨?_,h2⟩
  have:n=0:=by
   apply Nat.eq_of_testBit_eq
   intro j
   rw [Nat.zero_testBit]
   by_cases hj:j<16
   ·rw [← hb];exact h3 j hj
   ·exact Nat.testBit_lt_two_pow (Nat.lt_of_lt_of_le (show n<2 ^ 16 by omega) (Nat.pow_le_pow_right (by decide) (by omega)))
  omega
 ·refine .inr ⟨n/2 ^ (w+1),w,?_,h2,h3⟩
  congr 1
  have hm:n%2 ^ (w+1)=2 ^ w:=by
   apply Nat.eq_of_testBit_eq
   intro j
   rw [Nat.testBit_mod_two_pow,Nat.testBit_two_pow]
   by_cases hj:j<w
   ·have:=h5 j hj
    rw [hb] at this
    have h6:¬ w=j:=by omega
    simp [this,h6]
   ·by_cases hj2:w=j
    ·subst hj2
     rw [hb] at h4
     simp [h4]
    ·have h6:¬ j<w+1:=by omega
     simp [h6,hj2]
  have:=Nat.div_add_mod n (2 ^ (w+1))
  omega
theorem Z8 {x:Int} (h0:0≤x) (h1:x<65536):rJ .u64 x (IntKind.u64.wrap (x - 1))=GF x:=by
 unfold GF
 rcases lh h0 h1 with ⟨rfl,h2⟩ | ⟨a,w,rfl,h2,h3⟩
 ·rw [h2]
  decide +kernel
 ·have hp:0<2 ^ w:=Nat.pow_pos (by decide)
  have e:((2 ^ (w+1)*a+2 ^ w:Nat):Int) - 1=((2 ^ (w+1)*a+(2 ^ w - 1):Nat):Int):=by
   generalize 2 ^ (w+1)*a=y
   generalize 2 ^ w=z at hp
   omega
  rw [h2,if_neg (by omega),Int.toNat_natCast,e]
  have hlt:2 ^ (w+1)*a+2 ^ w<65536:=by omega
  rw [kg (by omega) (by generalize 2 ^ (w+1)*a=y at hlt ⊢;generalize 2 ^ w=z at hlt ⊢;omega),adQ (by omega) (by generalize 2 ^ (w+1)*a=y at hlt ⊢;generalize 2 ^ w=z at hlt ⊢;omega),Vh]
  have hw:((2 ^ w:Nat):Int)=(2:Int) ^ w:=by rw [Int.natCast_pow];rfl
  rw [← hw]
  generalize 2 ^ (w+1)*a=y
  generalize (2:Nat) ^ w=z
  omega
theorem KQ {x:Int} (h0:0≤x) (h1:x<65536):0≤GF x∧GF x≤x:=by
 unfold GF
 rcases lh h0 h1 with ⟨rfl,h2⟩ | ⟨a,w,rfl,h2,h3⟩
 ·rw [h2];decide
 ·rw [h2,if_neg (by omega),Int.toNat_natCast]
  have hw:((2 ^ w:Nat):Int)=(2:Int) ^ w:=by rw [Int.natCast_pow];rfl
  rw [← hw]
  generalize 2 ^ (w+1)*a=y
  generalize (2:Nat) ^ w=z
  omega
theorem aao {e m:Int} (h0:0≤e) (m0:0≤m) (m1:m≤18446744073709551615):orI .u64 (PV .u64 e 16) (rJ .u64 m 65535)=rE e m:=by
 rw [Ss m0 m1]
 have hs:PV .u64 e 16=((2 ^ 16*(e.toNat%281474976710656):Nat):Int):=by
  unfold PV
  have e1:min (16:Int).toNat IntKind.u64.bits=16:=by decide
  rw [e1]
  simp [IntKind.wrap,IntKind.bits,IntKind.signed]
  omega
 have hm:mkB m=((m.toNat%65536:Nat):Int):=by unfold mkB;omega
 rw [hs,hm,orU (by omega) (by omega),← Nat.two_pow_add_eq_or_of_lt (by omega),rE]
 omega
end Go.Ab
set_option linter.unusedVariables false
namespace Go.Ab
theorem A8 (c : CF) (m : List Int) (a1 a6 : Int) : (bif eu c then bif decide ((m.length : Int) = cD c) then bif !(a6 != 0) then bif decide (0 ≤ a1) then some (decide (a1 ≤ 2)) else some false else some false else some false else some false)
    = some (eu c && decide ((m.length : Int) = cD c) && decide (a6 = 0 ∧ 0 ≤ a1 ∧ a1 ≤ 2)) := by
  cases eu c with
  | false => rfl
  | true =>
    rw [cond_true]
    by_cases h1 : (m.length : Int) = cD c
    · rw [decide_eq_true h1, cond_true]
      by_cases h2 : a6 = 0
      · by_cases h3 : 0 ≤ a1
        · simp [h2, h3]
        · simp [h2, h3]
      · have : (a6 != 0) = true := by simp [h2]
        simp [h2, this]
    · rw [decide_eq_false h1]
      rfl
theorem Vm (c:CF) (m:List Int) (f:FR):iD c m f=some (nm c m f):=by
 obtain ⟨a0,a1,a2,a3,a4,a5,a6⟩:=f
 unfold iD nm
 simp only [Prod.eta,mj,fe,pT,lj,ae,b9]
 by_cases h1:a0=6
 ·rw [decide_eq_true h1,cond_true,A8,decide_eq_true (show a0=6∨a0=7 from .inl h1),Bool.true_and]
 ·rw [decide_eq_false h1,cond_false]
  by_cases h2:a0=7
  ·rw [decide_eq_true h2,cond_true,A8,decide_eq_true (show a0=6∨a0=7 from .inr h2),Bool.true_and]
  ·rw [decide_eq_false h2,cond_false,decide_eq_false (by omega)]
   rfl
theorem ue {e:Int} (h0:0≤e):0≤mkB e∧mkB e<65536:=by unfold mkB;omega
theorem SZ {e:Int} (h0:0≤e) (h1:e≤18446744073709551615):0≤epB e∧epB e≤281474976710655:=by unfold epB;omega
theorem Sv {e m:Int} (h0:0≤e) (m0:0≤m) (m1:m≤18446744073709551615):gu e m=some (rE e m):=by
 unfold gu
 rw [aao h0 m0 m1]
theorem oN (e m:Int):0≤rE e m∧rE e m≤18446744073709551615:=by unfold rE;omega
theorem Lz (x:Int) : -1≤wP x∧wP x<16:=by
 rcases uQ x with ⟨h,_⟩ | ⟨j,h,h2,_⟩ <;> omega
theorem HV {k:Nat} (hk:100≤k) {x:Int} (h0:0≤x) (h1:x≤18446744073709551615):fW k x=some (wP x):=by
 have key:∀ (d i n:Nat),i+d=16→d<n→cB k x n (i:Int)=some (N1 x i d):=by
  intro d
  induction d with
  | zero=>
   intro i n hi hn
   obtain ⟨n,rfl⟩:=gE hn
   rw [cB,ltF (by omega),cond_false]
   rfl
  | succ d ih=>
   intro i n hi hn
   obtain ⟨n,rfl⟩:=gE hn
   rw [cB,ltT (by omega),cond_true,leT (by omega),cond_true,ag7 h0 h1 (by omega) (by omega),N1]
   cases hb:gB x i with
   | true=>rw [cond_true,if_pos rfl]
   | false=>rw [cond_false,if_neg (by simp),gg (by omega),ih (i+1) n (by omega) (by omega)]
 exact key 16 0 (k+9) rfl (by omega)
theorem abP {k:Nat} (hk:100≤k) {e:Int} (h0:0≤e) (h1:e≤18446744073709551615):iY k e=some (mA e,wP (mkB e)):=by
 have hm:=ue h0
 have he:=SZ h0 h1
 have hc:=KQ hm.1 hm.2
 unfold iY
 rw [Ae h0 h1,ae,BD h0,ae,kg (z:=epB e+1) (by omega) (by omega),Z8 hm.1 hm.2,Sv (by omega) hc.1 (by omega),ae,HV hk hm.1 (by omega),ae]
 rfl
theorem Z3 {e:Int} (h0:0≤e) (h1:e≤18446744073709551615):iI e=some (XT e):=by
 have he:=SZ h0 h1
 unfold iI
 rw [BD h0,ae,kg (z:=epB e+1) (by omega) (by omega),Sv (by omega) (by decide) (by decide),ae]
 rfl
theorem OR {k:Nat} (hk:100≤k) {e:Int} (h0:0≤e) (h1:e≤18446744073709551615):fi k e=some (mA e,if wP (mkB e)<0 then 0 else wP (mkB e)):=by
 have hl:=Lz (mkB e)
 unfold fi
 rw [abP hk h0 h1,ae]
 simp only
 by_cases h:wP (mkB e)<0
 ·rw [ltT h,cond_true,if_pos h];rfl
 ·rw [ltF (by omega),cond_false,if_neg h,kg (by omega) (by omega)]
theorem P2 {e:Int} (h0:0≤e) (h1:e≤18446744073709551615):fg e=some (XT e,mkB e):=by
 unfold fg
 rw [Z3 h0 h1,ae,Ae h0 h1,ae]
theorem MZ {k:Nat} (hk:100≤k) (c:CF) {m:List Int} (hl:m.length≤1000) (w:Int):fu k c m [w]=some (wV c m w):=by
 unfold fu
 obtain ⟨k,rfl⟩:∃ j,k=j+2:=⟨k - 2,by omega⟩
 have f1:∀ k:Nat,k+2+12=(k+12+1)+1:=fun k=>rfl
 have i1:IntKind.i64.wrap (0+1)=1:=by decide
 have x0:idx [w] 0=some w:=rfl
 rw [f1,ea,ltT (by simp),cond_true,x0,ae]
 try simp only [Prod.eta]
 rw [HI,ae,iJ hl,ae,i1,ea,ltF (by simp),cond_false]
 rfl
theorem XE {k:Nat} (hk:1000≤k) (c:CF) {m:List Int} (hm:Wm m) (hl:m.length≤1000) {f:FR} (hf:Wf f):gm k c m f=some (dc c m f):=by
 have hr:=cq hm 2
 unfold gm dc
 try simp only [Prod.eta]
 rw [bJ (by omega),ae,Vm,ae]
 cases h:nm c m f with
 | false=>rfl
 | true=>
  rw [Bool.not_true,cond_false,if_neg (by simp)]
  obtain ⟨a0,a1,a2,a3,a4,a5,a6⟩:=f
  obtain ⟨_,w4,w5⟩:=hf
  simp only at w4 w5
  unfold nm at h
  rw [Bool.and_eq_true,Bool.and_eq_true,Bool.and_eq_true,decide_eq_true_eq,decide_eq_true_eq,decide_eq_true_eq] at h
  obtain ⟨⟨⟨h0,hmay⟩,hlen⟩,h6,h1,h2⟩:=h
  simp only at h0 h6 h1 h2 ⊢
  have hlen2:(2:Int)<m.length:=by
   have hmc:=aQ hmay
   have ok:OkB c m 0:=⟨hmay,hlen,by decide,by omega⟩
   have:=ok.size
   omega
  by_cases p0:a1=0
  ·subst p0
   simp [dl,ae]
  ·by_cases p1:a1=1
   ·subst p1
    have e1:∀ v,nG m 2 a4 v=if ai m 2=a4 then (aJ m 2 v,true) else (m,false):=by
     intro v
     unfold nG
     by_cases hh:ai m 2=a4
     ·rw [if_pos hh,if_pos ⟨by decide,hlen2,hh⟩]
     ·rw [if_neg hh,if_neg (fun x=>hh x.2.2)]
    rcases h0 with rfl | rfl
    ·simp only [mj,decide_eq_true rfl,decide_eq_false p0,cond_true,cond_false,OR (k:=k+2) (by omega) w4.1 w4.2,ae,Gv hl,e1,Ae w4.1 w4.2,gY]
     by_cases hh:ai m 2=a4
     ·by_cases h3:mkB a4=0
      ·simp [hh,h3,dR]
      ·simp [hh,h3]
     ·simp [hh]
    ·simp only [mj,decide_eq_true rfl,decide_eq_false p0,decide_eq_false (show ¬ ((7:Int)=6) by decide),cond_true,cond_false,P2 w4.1 w4.2,ae,Gv hl,e1,Ae w4.1 w4.2,gY]
     by_cases hh:ai m 2=a4
     ·by_cases h3:mkB a4=0
      ·simp [hh,h3,dR]
      ·simp [hh,h3]
     ·simp [hh]
   ·rcases h0 with rfl | rfl
    ·simp only [mj,decide_eq_true rfl,decide_eq_false p0,decide_eq_false p1,cond_true,cond_false]
     by_cases h3:a5<8
     ·rw [ltT h3,cond_true,MZ (by omega) c hl,ae,gY,ae,fB (by omega)]
      simp [p0,p1,h3,dR]
     ·rw [ltF (by omega),cond_false,MZ (by omega) c hl,ae,gY,ae]
      simp [p0,p1,h3,dR]
    ·have hk5:=ue w5.1
     simp only [mj,decide_eq_false (show ¬ ((7:Int)=6) by decide),decide_eq_false p0,decide_eq_false p1,cond_false]
     rw [HV (by omega) w5.1 w5.2,ae,MZ (by omega) c hl,ae,Ae w5.1 w5.2,ae,Z8 hk5.1 hk5.2,Ae w4.1 w4.2,ae]
     simp only [gY,ae]
     by_cases h3:GF (mkB a5)=0
     ·simp [p0,p1,h3,dR]
     ·have h4:mkB a5≠0:=fun e=>h3 (by rw [e];decide)
      simp [p0,p1,h3,h4]
      omega
end Go.Ab
namespace Go.Ab
open Go.WideShapes
theorem uP:maxLen≤9223372036854775807:=by decide
theorem agJ {l:Tyt} (hm:l.length≤maxLen) (h:∀ x ∈ l,i64 x.1∧(∀ n ∈ x.2,i64 n)∧x.2.length≤maxLen):Wt l:=
 ⟨Nat.le_trans hm uP,fun x hx=>Nat.le_trans (h x hx).2.2 uP⟩
theorem abO {α:Type} {l:List α} (hm:l.length≤maxLen):l.length≤9223372036854775807:=Nat.le_trans hm uP
theorem JR {P:Program} {w:World} {r:Reach} {base:Nat} {t:TypeId} {v:Value} {fs:Array Field} (ht:P.underlying t=some (.struct fs)) (h:Value.okWide P w r base t v):∃ cs,v = .agg cs:=by
 simp only [Value.okWide,ht] at h
 cases v <;> simp_all
theorem Cells.agg {w:World} {cs:Array Value} {vs:List V} (c:Cells w (Value.agg cs).cells.toList vs):RelV (Pj w) [] (.agg vs) (.agg cs):=by
 have hl:vs.length=cs.toList.length:=c.len
 refine .agg vs cs (by simpa using hl.symm) c.ones fun i x hx => ?_
 have hi:i<vs.length:=(List.getElem?_eq_some_iff.1 hx).1
 have hi2:i<cs.size:=by rw [hl] at hi;simpa using hi
 have h1:cs.toList[i]? = some cs[i]:=by simp [hi2]
 have:=c.rel i x cs[i] hx h1
 simpa [Array.getD,hi2] using this
end Go.Ab
namespace Go.Ab
open Go.WideShapes
def u64 (n:Int):Prop:=(Lit.int .u64 n).wf=true
def Tx (c:Int×Int×Int×Int):Prop:=i64 c.1∧i64 c.2.1∧i64 c.2.2.1∧i64 c.2.2.2
theorem I6 {P:Program} {t ti:TypeId} {f0 f1 f2 f3:Field} {vs:List V} (he:P.underlying t=some (.struct #[f0,f1,f2,f3])) (h0:f0.type=ti) (h1:f1.type=ti) (h2:f2.type=ti) (h3:f3.type=ti) (o0:f0.offset=0) (o1:f1.offset=1) (o2:f2.offset=2) (o3:f3.offset=3) (hi:P.underlying ti=some (.int .i64)) (ci:P.cellsOf ti=1) (ce:P.cellsOf t=4) (h:Shape P t vs) :
  ∃ x:Int×Int×Int×Int,vs=Lv x∧Tx x:=by
 obtain ⟨a,b⟩:=mt he h
 have s0:=b 0 f0 rfl
 rw [h0,o0,ci,List.drop_zero] at s0
 have s1:=b 1 f1 rfl
 rw [h1,o1,ci] at s1
 have s2:=b 2 f2 rfl
 rw [h2,o2,ci] at s2
 have s3:=b 3 f3 rfl
 rw [h3,o3,ci] at s3
 rw [ce] at a
 obtain ⟨n0,e0,w0⟩:=fT hi s0
 obtain ⟨n1,e1,w1⟩:=fT hi s1
 obtain ⟨n2,e2,w2⟩:=fT hi s2
 obtain ⟨n3,e3,w3⟩:=fT hi s3
 match vs,a with
 | [x0,x1,x2,x3],_=>
  simp at e0 e1 e2 e3
  subst e0 e1 e2 e3
  exact ⟨(n0,n1,n2,n3),rfl,w0,w1,w2,w3⟩
theorem GM {P:Program} {t s i:TypeId} {vs:List V} (ht:P.underlying t=some (.slice s)) (hs:P.underlying s=some (.slice i)) (hi:P.underlying i=some (.int .i64)) (h:Shape P t vs) :
  ∃ l:List (List Int),vs=[.ro (l.map dG)]∧(∀ x ∈ l,(∀ n ∈ x,i64 n)∧x.length≤maxLen)∧l.length≤maxLen:=by
 obtain ⟨rows,rfl,hr,hm⟩:=lQ ht h
 obtain ⟨l,rfl,hl⟩:=kP (enc:=dG) (Q:=fun x=>(∀ n ∈ x,i64 n)∧x.length≤maxLen) (rows:=rows) (fun r hx=>by
  obtain ⟨l,e,w,m⟩:=A5 hs hi (hr r hx)
  exact ⟨l,e,w,m⟩)
 exact ⟨l,rfl,hl,by simpa using hm⟩
theorem aai {n:Int} (h:u64 n):0≤n∧n≤18446744073709551615:=by
 have h1:IntKind.min .u64=0:=by decide
 have h2:IntKind.max .u64=18446744073709551615:=by decide
 simpa [u64,Lit.wf,h1,h2] using h
end Go.Ab
namespace Go.Ab
open Go.WideShapes
end Go.Ab
set_option linter.unusedVariables false
namespace Go.Ab
theorem UP {x w:Int} (h0:0≤x) (h1:x<65536) (hw:0≤w) (hw2:w<16):gB (GF x) w=(gB x w&&decide (w≠wP x)):=by
 obtain ⟨v,rfl⟩:∃ v:Nat,w=v:=⟨w.toNat,by omega⟩
 unfold GF
 rcases lh h0 h1 with ⟨rfl,h2⟩ | ⟨a,l,rfl,h2,h3⟩
 ·rw [h2,if_pos (by decide)]
  have:=lW 0 (w:=(v:Int)) (by omega)
  rw [Nat.zero_testBit] at this
  have e:((0:Nat):Int)=0:=rfl
  rw [e] at this
  rw [this]
  rfl
 ·have hp:0<2 ^ l:=Nat.pow_pos (by decide)
  have hs:2 ^ (l+1)=2*2 ^ l:=by rw [Nat.pow_succ,Nat.mul_comm]
  rw [h2,if_neg (by omega),Int.toNat_natCast]
  have hw:((2 ^ l:Nat):Int)=(2:Int) ^ l:=by rw [Int.natCast_pow];rfl
  rw [← hw]
  have e:((2 ^ (l+1)*a+2 ^ l:Nat):Int) - ((2 ^ l:Nat):Int)=((2 ^ (l+1)*a+0:Nat):Int):=by
   generalize 2 ^ (l+1)*a=y
   generalize (2:Nat) ^ l=z
   omega
  rw [e,lW _ (by omega),lW _ (by omega),Int.toNat_natCast,Nat.testBit_two_pow_mul_add a (by omega),Nat.testBit_two_pow_mul_add a (by omega)]
  by_cases h:v<l+1
  ·rw [if_pos h,if_pos h,Nat.testBit_two_pow,Nat.zero_testBit]
   by_cases h4:l=v
   ·subst h4;simp
   ·simp [h4]
  ·rw [if_neg h,if_neg h]
   have:(v:Int)≠(l:Int):=by omega
   simp [this]
theorem MI {x:Int} (h:0≤wP x):gB x (wP x)=true:=by
 rcases uQ x with ⟨h1,_⟩ | ⟨j,h1,_,h2,_⟩
 ·omega
 ·rw [h1];exact h2
end Go.Ab
set_option linter.unusedVariables false
namespace Go.Ab
def pQ (c:CF) (x:Int):Int:=if eu c=true then 6+x%c.2.2.1 else -1
def H3 (c:CF) (x:Int):Int:=if eu c=true then 6+c.2.2.1+x%c.2.2.1 else -1
def Dy (c:CF) (x:Int):Int:=x/c.2.2.1*2%18446744073709551616
def mI (a b:Int):Int:=IntKind.i64.wrap (IntKind.u64.wrap (a - b))
def iM (a b:Int):Int:=(a+b)%18446744073709551616
def nf (c:CF) (m:List Int) (f:FR) (op:Int):Bool:=eu c&&decide ((m.length:Int)=cD c)&&decide (f.2.2.2.2.2.2=0∧f.1=op∧0≤f.2.1∧f.2.1<5)
def oP (c:CF) (m:List Int) (f:FR):List Int×FR:=
 if nf c m f 3=false then (m,f)
 else if f.2.1=0 then (m,f.1,1,f.2.2.1,f.2.2.2.1,ai m 5,f.2.2.2.2.2)
 else if f.2.1=1 then
  (if ai m (pQ c f.2.2.2.2.1)=Dy c f.2.2.2.2.1 then (m,f.1,2,f.2.2.1,f.2.2.2.1,f.2.2.2.2.1,ai m (pQ c f.2.2.2.2.1),f.2.2.2.2.2.2)
  else if mI (ai m (pQ c f.2.2.2.2.1)) (Dy c f.2.2.2.2.1)<0 then (m,dR f 2 f.2.2.2.1)
  else (m,f.1,0,f.2.2.1,f.2.2.2.1,f.2.2.2.2.1,ai m (pQ c f.2.2.2.2.1),f.2.2.2.2.2.2))
 else if f.2.1=2 then (let r:=nG m 5 f.2.2.2.2.1 (iM f.2.2.2.2.1 1);(r.1,f.1,if r.2=true then 3 else 0,f.2.2))
 else if f.2.1=3 then (aJ m (H3 c f.2.2.2.2.1) f.2.2.2.1,f.1,4,f.2.2)
 else (aJ m (pQ c f.2.2.2.2.1) (iM (Dy c f.2.2.2.2.1) 1),dR f 1 f.2.2.2.1)
def C7 (c:CF) (x:Int):Int:=iM (Dy c x) 1
def Ep (c:CF) (m:List Int) (f:FR):List Int×FR:=
 if nf c m f 4=false then (m,f)
 else if f.2.1=0 then (m,f.1,1,f.2.2.1,f.2.2.2.1,ai m 4,f.2.2.2.2.2)
 else if f.2.1=1 then
  (if mI (ai m (pQ c f.2.2.2.2.1)) (C7 c f.2.2.2.2.1)=0 then (m,f.1,2,f.2.2.1,f.2.2.2.1,f.2.2.2.2.1,ai m (pQ c f.2.2.2.2.1),f.2.2.2.2.2.2)
  else if mI (ai m (pQ c f.2.2.2.2.1)) (C7 c f.2.2.2.2.1)<0 then (m,dR f 3 0)
  else (m,f.1,0,f.2.2.1,f.2.2.2.1,f.2.2.2.2.1,ai m (pQ c f.2.2.2.2.1),f.2.2.2.2.2.2))
 else if f.2.1=2 then (let r:=nG m 4 f.2.2.2.2.1 (iM f.2.2.2.2.1 1);(r.1,f.1,if r.2=true then 3 else 0,f.2.2))
 else if f.2.1=3 then (m,f.1,4,f.2.2.1,ai m (H3 c f.2.2.2.2.1),f.2.2.2.2)
 else (aJ m (pQ c f.2.2.2.2.1) (iM (C7 c f.2.2.2.2.1) 1),dR f 1 f.2.2.2.1)
def oU (c:CF) (m:List Int) (f:FR):List Int×FR:=if f.1=3 then oP c m f else if f.1=4 then Ep c m f else (m,f)
def w8 (c:CF) (m:List Int) (f:FR):List Int×FR:=if f.1=5 then d8 c m f else if f.1=6∨f.1=7 then dc c m f else (m,f)
def dH (c:CF) (m:List Int) (f:FR):List Int×FR:=if f.1=3∨f.1=4 then oU c m f else w8 c m f
abbrev SB:=Int×List Int×FR
def dU:FR:=(0,0,0,0,0,0,0)
abbrev EV:=Int×Int×Int
def r5 (l:List Int):Int:=l.headD 0
def nY (c:CF) (t:Tyt) (m:List Int) (x:SB):Bool:=eu c&&decide ((m.length:Int)=cD c)&&rG t&&decide (0≤x.1∧x.1<6∧x.2.1≠[]∧0≤r5 x.2.1∧r5 x.2.1<t.length)
def ia (c:CF) (t:Tyt) (m:List Int) (i:Int) (x:SB):List Int×SB×List EV:=
 if nY c t m x=false then (m,x,[])
 else if x.1=0 then (if ai m 3≠0 then (m,(0,x.2.1.tail,dU),[(1,r5 x.2.1,i)]) else (m,(1,x.2),[]))
 else if x.1=1 then (aJ m 0 (iM (ai m 0) 1),(2,x.2.1,(3,0,i,r5 x.2.1,0,0,0)),[])
 else if x.1=2 then (let r:=dH c m x.2.2;
  if b9 r.2=false then (r.1,(2,x.2.1,r.2),[]) else if r.2.2.2.2.2.2.2=2 then (r.1,(5,x.2.1,r.2),[]) else (r.1,(3,x.2.1,r.2),[(0,r5 x.2.1,i)]))
 else if x.1=3 then (if ai m 1≠0 then (m,(0,x.2.1.tail,dU),[]) else (m,(4,x.2.1,(6,0,i,0,0,0,0)),[]))
 else if x.1=4 then (let r:=dH c m x.2.2;if b9 r.2=true then (r.1,(0,x.2.1.tail,dU),[]) else (r.1,(4,x.2.1,r.2),[]))
 else (aJ m 0 (iM (ai m 0) 18446744073709551615),(0,x.2.1.tail,dU),if ai m 0=1 then [(1,r5 x.2.1,i),(5,0,i)] else [(1,r5 x.2.1,i)])
def One (m m':List Int):Prop:=∃ i v,m'=aJ m i v
theorem One.same (m:List Int):One m m:=⟨-1,0,by unfold aJ;rw [if_neg (by decide)]⟩
theorem One.store (m:List Int) (i v:Int):One m (aJ m i v):=⟨i,v,rfl⟩
theorem One.cas (m:List Int) (i o v:Int):One m (nG m i o v).1:=by
 unfold nG
 split
 ·exact One.store m i v
 ·exact One.same m
theorem One.len {m m':List Int} (h:One m m'):m'.length=m.length:=by
 obtain ⟨i,v,rfl⟩:=h
 exact iV
theorem Uy (c:CF) (m:List Int) (f:FR):One m (oP c m f).1:=by
 unfold oP
 repeat' split
 all_goals first | exact One.same m | exact One.store m _ _ | exact One.cas m _ _ _
theorem UB (c:CF) (m:List Int) (f:FR):One m (Ep c m f).1:=by
 unfold Ep
 repeat' split
 all_goals first | exact One.same m | exact One.store m _ _ | exact One.cas m _ _ _
theorem Pv (c:CF) (m:List Int) (f:FR):One m (d8 c m f).1:=by
 unfold d8
 repeat' split
 all_goals first | exact One.same m | exact One.store m _ _ | exact One.cas m _ _ _
theorem PS (c:CF) (m:List Int) (f:FR):One m (dc c m f).1:=by
 unfold dc wV
 repeat' split
 all_goals first | exact One.same m | (dsimp only;exact One.store m _ _)
theorem GZ (c:CF) (m:List Int) (f:FR):One m (dH c m f).1:=by
 unfold dH oU w8
 repeat' split
 all_goals first | exact One.same m | exact Uy c m f | exact UB c m f | exact Pv c m f | exact PS c m f
end Go.Ab
set_option linter.unusedVariables false
namespace Go.Ab
structure InvA (c:CF) (a:Nat) (m:List Int):Prop where
 wm:Wm m
 may:eu c=true
 len:(m.length:Int)=cD c
 l0:ai m 0=a
 l1:ai m 1=0
 mask:mkB (ai m 2)=0
 l3:ai m 3=0
 l5:ai m 5=a
 sq:∀ j:Nat,(j:Int)<c.2.2.1→ai m (6+j)=if j<a then 1 else 0
 le:(a:Int)≤c.2.2.1
section
variable {c:CF} {t:Tyt} {m:List Int} {l:List Int} {F:FR}
end
section
variable {c:CF} {m:List Int} {w v X Y:Int} (hmay:eu c=true) (hlen:(m.length:Int)=cD c)
include hmay hlen
end
end Go.Ab
set_option linter.unusedVariables false
namespace Go.Ab
theorem AX {q i:Int}:∀ {t:Tyt} {s:Nat},(q,i) ∈ my s t↔∃ n x,t[n]? = some x∧q ∈ x.2∧i=((s+n:Nat):Int)
 | [],s=>by simp [my]
 | x::t,s=>by
  simp only [my,List.mem_append,List.mem_map,Prod.mk.injEq,AX (t:=t) (s:=s+1)]
  constructor
  ·rintro (⟨a,ha,rfl,rfl⟩ | ⟨n,y,hy,hq,rfl⟩)
   ·exact ⟨0,x,rfl,ha,by simp⟩
   ·exact ⟨n+1,y,by simpa using hy,hq,by omega⟩
  ·rintro ⟨n,y,hy,hq,rfl⟩
   cases n with
   | zero=>
    simp at hy
    subst hy
    exact .inl ⟨q,hq,rfl,by simp⟩
   | succ n=>exact .inr ⟨n,y,by simpa using hy,hq,by omega⟩
theorem GO (n:Nat):∀ (l:List (Int×Int)) (had:WJ n),(∀ q ∈ l,0≤q.2)→(TA (fo n) l had).1=true →
  (∀ q ∈ l,q.2<q.1∧q.1<n∧had.1[q.1.toNat]? = some false)∧(l.map (·.1)).Nodup
 | [],had,_,_=>by simp
 | q::l,had,h0,h=>by
  simp only [TA] at h
  have hq0:=h0 q (by simp)
  cases hb:uE n had.1 q with
  | true=>simp [fo,hb] at h
  | false=>
   have e1:(fo n had q).1=true:=by simp [fo,hb]
   have e2:(fo n had q).2.1=had.1.set q.1.toNat true:=by simp [fo,hb]
   rw [e1,if_pos rfl] at h
   obtain ⟨a,b⟩:=GO n l _ (fun x hx=>h0 x (by simp [hx])) h
   simp only [uE,Bool.or_eq_false_iff,decide_eq_false_iff_not] at hb
   obtain ⟨⟨h1,h2⟩,h3⟩:=hb
   have h4:q.1.toNat<had.1.length:=by rw [had.2];omega
   have h5:had.1[q.1.toNat]? = some false:=by
    rw [List.getElem?_eq_getElem h4] at h3 ⊢
    simpa using h3
   rw [e2] at a
   have h6:∀ x ∈ l,x.1≠q.1:=by
    intro x hx e
    have:=(a x hx).2.2
    rw [e,List.getElem?_set_self h4] at this
    cases this
   refine ⟨?_,?_⟩
   ·intro x hx
    rcases List.mem_cons.1 hx with rfl | hx
    ·exact ⟨by omega,by omega,h5⟩
    ·obtain ⟨u,v,w⟩:=a x hx
     refine ⟨u,v,?_⟩
     have hx0:=h0 x (by simp [hx])
     rwa [List.getElem?_set_ne (by have:=h6 x hx;omega)] at w
   ·rw [List.map_cons,List.nodup_cons]
    refine ⟨?_,b⟩
    intro hm
    obtain ⟨x,hx,e⟩:=List.mem_map.1 hm
    exact h6 x hx e
structure May (t:Tyt):Prop where
 len:t.length≤30
 work:∀ x ∈ t,0≤x.1∧x.1≤20
 kids:∀ q ∈ my 0 t,0≤q.2∧q.2<q.1∧q.1<t.length
 once:((my 0 t).map (·.1)).Nodup
theorem oK {t:Tyt} {s:Nat} (q) (h:q ∈ my s t):0≤q.2:=by
 obtain ⟨a,b⟩:=q
 obtain ⟨n,x,_,_,rfl⟩:=AX.1 h
 simp
 omega
theorem Sz {t:Tyt} (h:rG t=true):May t:=by
 unfold rG at h
 simp only [Bool.and_eq_true,decide_eq_true_eq,Bool.not_eq_true'] at h
 obtain ⟨⟨h1,h2⟩,h3⟩:=h
 obtain ⟨a,b⟩:=GO t.length _ _ oK h3
 refine ⟨h1,?_,fun q hq=>⟨oK q hq,(a q hq).1,(a q hq).2.1⟩,b⟩
 intro x hx
 have:=List.any_eq_false.1 h2 x hx
 simp only [nX,Bool.or_eq_true,decide_eq_true_eq,not_or] at this
 omega
end Go.Ab
set_option maxRecDepth 100000
set_option linter.unusedVariables false
namespace Go.Ab
theorem ada (x:Int×List Int):fh x=some (nX x):=by
 unfold fh nX
 cases decide (x.1<0) <;> rfl
section
variable (k:Nat) (hk:9223372036854775808≤k)
include hk
theorem K6 (t:Tyt) (ht:Wt t):dk k t=some (YL t):=by
 have hlen:=ht.len
 have key:∀ r i n,t.drop i=r→i≤t.length→r.length<n→bA k t n (i:Int)=some ((r.take (41 - i)).all (fun x=>decide (x.2.length≤40))&&decide (t.length≤40)):=by
  intro r
  induction r with
  | nil=>
   intro i n hr hi hn
   obtain ⟨n,rfl⟩:=gE hn
   have:i=t.length:=by have:=dy hr;omega
   subst this
   rw [bA,uA,cond_false,TC]
   simp
  | cons x r ih=>
   intro i n hr hi hn
   obtain ⟨n,rfl⟩:=gE hn
   obtain ⟨a,b,c,d,e⟩:=cH hr
   rw [bA,ltN a,cond_true]
   by_cases h:i≤40
   ·rw [leT (show (i:Int)≤40 by omega),cond_true,ga b,ae]
    have e1:41 - i=(41 - (i+1))+1:=by omega
    rw [e1,List.take_succ_cons,List.all_cons]
    by_cases h2:x.2.length≤40
    ·rw [ltF (show ((x.2.length:Nat):Int)≤40 by omega),cond_false,gg (by omega),ih (i+1) n c (by omega) (by simp only [List.length_cons] at hn;omega),decide_eq_true h2,Bool.true_and]
    ·rw [ltT (show (40:Int)<(x.2.length:Nat) by omega),cond_true,decide_eq_false h2]
     rfl
   ·rw [leF (show (40:Int)<i by omega),cond_false,TC]
    have e1:41 - i=0:=by omega
    rw [e1]
    simp
 have:=key t 0 k rfl (Nat.zero_le _) (by omega)
 rw [dk]
 simpa [YL] using this
theorem UF (t:Tyt) (ht:Wt t):aM k t=some (t.any nX):=by
 have hlen:=ht.len
 rw [aM,a9]
 rw [IW (F:=fun n i=>aC (k+8) t n i) (l:=t) nX ?_ ?_ _ (by omega)]
 ·rw [ae,pn]
 ·intro n
  simp only [aC,uA,cond_false]
 ·intro n i x hi hx
  simp only [aC,ltN hi,cond_true,ga hx,ae,ada,Prod.eta]
  rw [gg (by omega)]
theorem IA (t:Tyt) (ht:Wt t):cQ k t=some (rG t):=by
 have hlen:=ht.len
 rw [cQ,UF k hk t ht,ae]
 unfold rG
 by_cases h1:t.length≤30
 ·rw [ajl h1,cond_false,decide_eq_true h1]
  cases h2:t.any nX with
  | true=>rfl
  | false=>
   have h3:decide ((0:Int)≤(t.length:Int)∧(t.length:Int)≤9223372036854775807∧(t.length:Int)*1≤70368744177664)=true:=by simp;omega
   rw [h3,cond_false,cond_true]
   -- one task's kids
   have inner:∀ (x:Int×List Int) (hx:x ∈ t) (i:Nat) (hi:i<t.length) (o:Int→List Bool→Option Bool) (R:List (Int×Int)) (n0:Nat)
     (ho:∀ had:WJ t.length,o ((i+1:Nat):Int) had.1=some (TA (fo t.length) R had).1),
     ∀ r j n (had:WJ t.length),x.2.drop j=r→r.length<n →
      cT k t o n x.2 (x.2.length:Int) (j:Int) had.1 (i:Int)=some (TA (fo t.length) (r.map (fun q=>(q,(i:Int)))++R) had).1:=by
    intro x hx i hi o R n0 ho r
    have hxl:=ht.kids x hx
    induction r with
    | nil=>
     intro j n had hr hn
     obtain ⟨n,rfl⟩:=gE hn
     have hj:=dy hr
     rw [cT,ltF (by omega),cond_false,gg (by omega),ho]
     rfl
    | cons q r ih=>
     intro j n had hr hn
     obtain ⟨n,rfl⟩:=gE hn
     obtain ⟨a,b,c,d,e⟩:=cH hr
     have hb:=had.2
     rw [cT,ltN a,cond_true,ga b,ae,List.map_cons,List.cons_append,TA]
     by_cases h1:q≤(i:Int)
     ·rw [leT h1,cond_true]
      simp [fo,uE,leT h1]
     ·rw [leF (show (i:Int)<q by omega),cond_false]
      by_cases h2:(t.length:Int)≤q
      ·rw [leT h2,cond_true]
       simp [fo,uE,leT h2]
      ·rw [leF (show q<(t.length:Int) by omega),cond_false]
       have h5:decide ((0:Int)≤q∧q.toNat<t.length)=true:=by simp;omega
       have h3:q.toNat<had.1.length:=by rw [hb];omega
       have h4:had.1[q.toNat]? = some had.1[q.toNat]:=List.getElem?_eq_getElem h3
       rw [h5,cond_true,h4,ae,cond_true,ae,gg (by omega)]
       cases hh:had.1[q.toNat] with
       | true=>simp [fo,uE,leF (show (i:Int)<q by omega),leF (show q<(t.length:Int) by omega),h4,hh]
       | false=>
        rw [cond_false]
        have e1:fo t.length had (q,(i:Int))=(true,⟨had.1.set q.toNat true,by simp [had.2]⟩):=by
         simp [fo,uE,leF (show (i:Int)<q by omega),leF (show q<(t.length:Int) by omega),h4,hh]
        rw [e1]
        simp only [if_true]
        exact ih (j+1) n ⟨had.1.set q.toNat true,by simp [had.2]⟩ c (by simp only [List.length_cons] at hn;omega)
   have outer:∀ r i n (had:WJ t.length),t.drop i=r→i≤t.length→r.length<n→bT k t n (i:Int) had.1=some (TA (fo t.length) (my i r) had).1:=by
    intro r
    induction r with
    | nil=>
     intro i n had hr hi hn
     obtain ⟨n,rfl⟩:=gE hn
     have:=dy hr
     rw [bT,ltF (by omega),cond_false]
     rfl
    | cons x r ih=>
     intro i n had hr hi hn
     obtain ⟨n,rfl⟩:=gE hn
     obtain ⟨a,b,c,d,e⟩:=cH hr
     have hxl:=ht.kids x d
     rw [bT,ltN a,cond_true,ga b,ae,my]
     have:=inner x d i a (fun s47 s56=>bT k t n s47 s56) (my (i+1) r) n (fun had=>ih (i+1) n had c (by omega) (by simp only [List.length_cons] at hn;omega)) x.2 0 (k+17) had rfl (by omega)
     simpa using this
   have:=outer t 0 (k+17) (FL t.length) rfl (Nat.zero_le _) (by omega)
   simpa [FL] using this
 ·rw [ajg (by omega),cond_true,decide_eq_false h1]
  rfl
end
end Go.Ab
set_option linter.unusedVariables false
namespace Go.Ab
theorem mP (z:Int):IntKind.u64.wrap z=z%18446744073709551616:=by simp [IntKind.wrap,IntKind.bits,IntKind.signed]
theorem G1 {c:CF} {x:Int} (h0:0≤x) (h1:x≤18446744073709551615):gK c x=some (pQ c x):=by
 unfold gK pQ
 simp only [Prod.eta,fe,ae]
 cases hm:eu c with
 | false=>rfl
 | true=>
  have hc:=aQ hm
  have hi:IntKind.u64.wrap c.2.2.1=c.2.2.1:=kg (by omega) (by omega)
  have h3:=Int.emod_lt_of_pos x (show 0<c.2.2.1 by omega)
  have h4:=Int.emod_nonneg x (show c.2.2.1≠0 by omega)
  have e1:IntKind.i64.wrap (c.1 - 1)=c.1 - 1:=by rw [IntKind.wrap_i64];omega
  rw [Bool.not_true,cond_false,Ve,ae,e1,decide_eq_true (by omega),Bool.not_true,cond_false,hi,Cz,decide_eq_false (by omega),Bool.not_false,cond_true,if_pos rfl,Int.tmod_eq_emod_of_nonneg h0]
  have e2:IntKind.i64.wrap (x%c.2.2.1)=x%c.2.2.1:=by rw [IntKind.wrap_i64];omega
  rw [e2,IntKind.wrap_i64]
  congr 1
  omega
theorem S5 {c:CF} {x:Int} (h0:0≤x) (h1:x≤18446744073709551615):kV c x=some (H3 c x):=by
 unfold kV H3
 simp only [Prod.eta,fe,ae]
 cases hm:eu c with
 | false=>rfl
 | true=>
  have hc:=aQ hm
  have hi:IntKind.u64.wrap c.2.2.1=c.2.2.1:=kg (by omega) (by omega)
  have h3:=Int.emod_lt_of_pos x (show 0<c.2.2.1 by omega)
  have h4:=Int.emod_nonneg x (show c.2.2.1≠0 by omega)
  have e1:IntKind.i64.wrap (c.1 - 1)=c.1 - 1:=by rw [IntKind.wrap_i64];omega
  rw [Bool.not_true,cond_false,Ve,ae,e1,decide_eq_true (by omega),Bool.not_true,cond_false,hi,Cz,decide_eq_false (by omega),Bool.not_false,cond_true,if_pos rfl,Int.tmod_eq_emod_of_nonneg h0]
  have e2:IntKind.i64.wrap (x%c.2.2.1)=x%c.2.2.1:=by rw [IntKind.wrap_i64];omega
  have e3:IntKind.i64.wrap (6+c.2.2.1)=6+c.2.2.1:=by rw [IntKind.wrap_i64];omega
  rw [e2,e3,IntKind.wrap_i64]
  congr 1
  omega
theorem KZ {c:CF} {x:Int} (hm:eu c=true) (h0:0≤x) (h1:x≤18446744073709551615):IntKind.u64.wrap (IntKind.u64.wrap (x.tdiv (IntKind.u64.wrap c.2.2.1))*2)=Dy c x:=by
 have hc:=aQ hm
 have hi:IntKind.u64.wrap c.2.2.1=c.2.2.1:=kg (by omega) (by omega)
 have h3:0≤x/c.2.2.1:=Int.ediv_nonneg h0 (by omega)
 have h4:x/c.2.2.1≤x:=Int.ediv_le_self _ h0
 rw [hi,Int.tdiv_eq_ediv_of_nonneg h0,kg h3 (by omega),mP]
 rfl
theorem wd (a b:Int):IntKind.u64.wrap (a+b)=iM a b:=by rw [mP];rfl
theorem fV (a b:Int):0≤iM a b∧iM a b≤18446744073709551615:=by unfold iM;omega
theorem ne0 {c:CF} (hm:eu c=true):(IntKind.u64.wrap c.2.2.1 !=0)=true:=by
 have hc:=aQ hm
 rw [kg (by omega) (by omega),Cz,decide_eq_false (by omega)]
 rfl
theorem Tc {c:CF} {x:Int} (hm:eu c=true) (h0:0≤x) (h1:x≤18446744073709551615):iA c x=some (C7 c x):=by
 unfold iA C7
 rw [ne0 hm,cond_true,KZ hm h0 h1,wd]
theorem FO (a b:Int):dz a b=some (mI a b):=rfl
theorem NG (c:CF) (m:List Int) (f:FR) (op:Int):iq c m f op=some (nf c m f op):=by
 unfold iq iC nf
 simp only [Prod.eta,fe,pT,lj,ae]
 cases hm:eu c with
 | false=>rfl
 | true=>
  rw [cond_true,ae,mj,Bool.true_and]
  by_cases h1:(m.length:Int)=cD c
  ·rw [decide_eq_true h1,cond_true,Bool.true_and]
   unfold b9
   rw [Cz,Bool.not_not,mj]
   by_cases h2:f.2.2.2.2.2.2=0
   ·rw [decide_eq_true h2,cond_true]
    by_cases h3:f.1=op
    ·rw [decide_eq_true h3,cond_true]
     by_cases h4:0≤f.2.1
     ·rw [leT h4,cond_true]
      congr 1
      simp [h2,h3,h4]
     ·rw [leF (by omega),cond_false]
      simp [h4]
    ·rw [decide_eq_false h3,cond_false]
     simp [h3]
   ·rw [decide_eq_false h2,cond_false]
    simp [h2]
  ·rw [decide_eq_false h1,cond_false]
   rfl
theorem HK {c:CF} {m:List Int} {f:FR} {op:Int} (h:nf c m f op=true):eu c=true∧(m.length:Int)=cD c∧f.2.2.2.2.2.2=0∧f.1=op∧0≤f.2.1∧f.2.1<5:=by
 unfold nf at h
 rw [Bool.and_eq_true,Bool.and_eq_true,decide_eq_true_eq,decide_eq_true_eq] at h
 exact ⟨h.1.1,h.1.2,h.2⟩
theorem Ms (c:CF) {m:List Int} (hm:Wm m) (hl:m.length≤1000) {f:FR} (hf:Wf f):kO c m f=some (oP c m f):=by
 unfold kO oP
 try simp only [Prod.eta]
 rw [bJ (by omega),ae,NG,ae]
 cases h:nf c m f 3 with
 | false=>rfl
 | true=>
  obtain ⟨hmay,_,h6,h0,h1,h1'⟩:=HK h
  rw [Bool.not_true,cond_false,if_neg (by simp)]
  obtain ⟨a0,a1,a2,a3,a4,a5,a6⟩:=f
  simp only at h6 h0 h1 h1' ⊢
  have e:decide (0≤a1∧a1.toNat<5)=true:=by rw [decide_eq_true_eq];omega
  rw [e,cond_true]
  obtain ⟨w3,w4,w5⟩:=hf
  simp only at w3 w4 w5
  rcases (show a1=0∨a1=1∨a1=2∨a1=3∨a1=4 by omega) with rfl | rfl | rfl | rfl | rfl
  ·simp [dl,ae]
  ·simp only [G1 w4.1 w4.2,dl,ae,ne0 hmay,KZ hmay w4.1 w4.2,FO,gY,mj,cond_true]
   by_cases h5:ai m (pQ c a4)=Dy c a4
   ·simp [h5]
   ·by_cases h7:mI (ai m (pQ c a4)) (Dy c a4)<0
    ·simp [h5,h7,dR]
    ·simp [h5,h7]
  ·simp only [wd,Gv hl,ae]
   cases hc:(nG m 5 a4 (iM a4 1)).2 <;> simp [hc]
  ·simp only [S5 w4.1 w4.2,iJ hl,ae]
   simp
  ·simp only [G1 w4.1 w4.2,ne0 hmay,KZ hmay w4.1 w4.2,wd,iJ hl,ae,gY,cond_true]
   simp [dR]
theorem NM (c:CF) {m:List Int} (hm:Wm m) (hl:m.length≤1000) {f:FR} (hf:Wf f):lb c m f=some (Ep c m f):=by
 unfold lb Ep
 try simp only [Prod.eta]
 rw [bJ (by omega),ae,NG,ae]
 cases h:nf c m f 4 with
 | false=>rfl
 | true=>
  obtain ⟨hmay,_,h6,h0,h1,h1'⟩:=HK h
  rw [Bool.not_true,cond_false,if_neg (by simp)]
  obtain ⟨a0,a1,a2,a3,a4,a5,a6⟩:=f
  simp only at h6 h0 h1 h1' ⊢
  obtain ⟨w3,w4,w5⟩:=hf
  simp only at w3 w4 w5
  rcases (show a1=0∨a1=1∨a1=2∨a1=3∨a1=4 by omega) with rfl | rfl | rfl | rfl | rfl
  ·simp [dl,ae]
  ·simp only [G1 w4.1 w4.2,dl,ae,Tc hmay w4.1 w4.2,FO,gY,mj]
   by_cases h5:mI (ai m (pQ c a4)) (C7 c a4)=0
   ·simp [h5]
   ·by_cases h7:mI (ai m (pQ c a4)) (C7 c a4)<0
    ·simp [h5,h7,dR]
    ·simp [h5,h7]
  ·simp only [wd,Gv hl,ae]
   cases hc:(nG m 4 a4 (iM a4 1)).2 <;> simp [hc]
  ·simp only [S5 w4.1 w4.2,dl,ae]
   simp
  ·simp only [G1 w4.1 w4.2,Tc hmay w4.1 w4.2,wd,iJ hl,ae,gY]
   simp [dR]
theorem EK (c:CF) {m:List Int} (hm:Wm m) (hl:m.length≤1000) {f:FR} (hf:Wf f):bl c m f=some (oU c m f):=by
 unfold bl oU
 simp only [Prod.eta,Ms c hm hl hf,NM c hm hl hf,ae,mj]
 by_cases h3:f.1=3
 ·simp [h3]
 ·by_cases h4:f.1=4
  ·simp [h4]
  ·simp [h3,h4,bJ (b:=8) (l:=m) (by omega),ae]
theorem DI {k:Nat} (hk:1000≤k) (c:CF) {m:List Int} (hm:Wm m) (hl:m.length≤1000) {f:FR} (hf:Wf f):bY k c m f=some (w8 c m f):=by
 unfold bY w8
 simp only [Prod.eta,U7 c hm hl hf,XE hk c hm hl hf,ae,mj]
 by_cases h5:f.1=5
 ·rw [decide_eq_true h5,cond_true,if_pos h5]
 ·rw [decide_eq_false h5,cond_false,if_neg h5]
  by_cases h6:f.1=6
  ·rw [decide_eq_true h6,cond_true,cond_true,if_pos (.inl h6)]
  ·rw [decide_eq_false h6,cond_false]
   by_cases h7:f.1=7
   ·rw [decide_eq_true h7,cond_true,if_pos (.inr h7)]
   ·rw [decide_eq_false h7,cond_false,if_neg (by omega),bJ (by omega),ae]
theorem abN {m:List Int} (hl:m.length≤1000) (i v:Int):de m i v=some (if 0≤i∧i<m.length then (aJ m i (iM (ai m i) v),ai m i) else (m,0)):=by
 unfold de
 rw [bJ (by omega),ae,ad0,ae]
 by_cases h:0≤i∧i<m.length
 ·have hd:decide (0≤i∧i.toNat<m.length)=true:=decide_eq_true (by omega)
  rw [decide_eq_true h,Bool.not_true,cond_false,(lX h).1,ae,hd,cond_true,(lX h).2,ae,ae,if_pos h,wd]
  unfold aJ
  rw [if_pos h.1]
 ·rw [decide_eq_false h,Bool.not_false,cond_true,if_neg h]
theorem SY {k:Nat} (hk:9223372036854775808≤k) (c:CF) {t:Tyt} (ht:Wt t) (m:List Int) (x:SB):fG k c t m x=some (nY c t m x):=by
 unfold fG nY
 simp only [Prod.eta,fe,pT,ae]
 rw [IA (k+4) (by omega) t ht]
 cases hm:eu c with
 | false=>rfl
 | true=>
  rw [cond_true,mj,Bool.true_and]
  by_cases h1:(m.length:Int)=cD c
  ·rw [decide_eq_true h1,cond_true,Bool.true_and,ae]
   cases ht2:rG t with
   | false=>rfl
   | true=>
    rw [cond_true,Bool.true_and]
    by_cases h2:0≤x.1
    ·rw [leT h2,cond_true]
     by_cases h3:x.1<6
     ·rw [ltT h3,cond_true]
      cases hl:x.2.1 with
      | nil=>simp
      | cons r rest=>
       have h0:idx (r::rest) 0=some r:=rfl
       rw [ltT (by simp),cond_true,h0,ae,ae]
       by_cases h4:0≤r
       ·rw [leT h4,cond_true]
        congr 1
        simp [h2,h3,r5,h4]
       ·rw [leF (by omega),cond_false]
        simp [r5,h4]
     ·rw [ltF (by omega),cond_false]
      simp [h3]
    ·rw [leF (by omega),cond_false]
     simp [h2]
  ·rw [decide_eq_false h1,cond_false]
   rfl
theorem nE {c:CF} {t:Tyt} {m:List Int} {x:SB} (h:nY c t m x=true):eu c=true∧(m.length:Int)=cD c∧rG t=true∧0≤x.1∧x.1<6∧∃ r rest,x.2.1=r::rest∧0≤r∧r<t.length:=by
 unfold nY at h
 simp only [Bool.and_eq_true,decide_eq_true_eq] at h
 obtain ⟨⟨⟨h1,h2⟩,h3⟩,h4,h5,h6,h7,h8⟩:=h
 cases hx:x.2.1 with
 | nil=>exact absurd hx h6
 | cons r rest=>
  rw [hx] at h7 h8
  exact ⟨h1,h2,h3,h4,h5,r,rest,rfl,h7,h8⟩
theorem ii {c:CF} (h:eu c=true):12≤cD c∧cD c≤190:=by
 have hm:=aQ h
 have:=cX h (w:=c.1) (by omega) (by omega)
 unfold cD
 rw [if_pos h]
 have e:wN c c.1=6+2*c.2.2.1+c.1*(3+c.2.1):=rfl
 have h3:1*(3+c.2.1)≤c.1*(3+c.2.1):=Int.mul_le_mul_of_nonneg_right (by omega) (by omega)
 omega
theorem T5 {k:Nat} (hk:9223372036854775808≤k) (c:CF) {t:Tyt} (ht:Wt t) {m:List Int} (hm:Wm m) (hl:m.length≤1000) (i:Int) {x:SB} (hf:Wf x.2.2) (hr:x.2.1.length≤1000) (ht2:t.length≤1000):f5 k c t m i x=some (ia c t m i x):=by
 unfold f5 ia
 try simp only [Prod.eta]
 rw [bJ (by omega),ae,bJ (by omega),ae,SY (by omega) c ht,ae]
 cases hmay:nY c t m x with
 | false=>rfl
 | true=>
  rw [Bool.not_true,cond_false,if_neg (by simp)]
  obtain ⟨h1,h2,h3,h4,h5,r,rest,hx,h6,h7⟩:=nE hmay
  have hsz:=ii h1
  obtain ⟨pc,roots,F⟩:=x
  simp only at hx h4 h5 hf hr ⊢
  subst hx
  have hi0:idx (r::rest) 0=some r:=rfl
  have hroom:room 1 24=true:=rfl
  have hroom2:room 2 24=true:=rfl
  have hd:decide ((1:Int)≤((r::rest).length:Int))=true:=decide_eq_true (by simp;omega)
  have hdr:List.drop (Int.toNat 1) (r::rest)=rest:=rfl
  have hh:r5 (r::rest)=r:=rfl
  have hur:IntKind.u64.wrap r=r:=kg h6 (by omega)
  have htl:(r::rest).tail=rest:=rfl
  rw [hi0,ae]
  simp only [EK c hm hl hf,DI (k:=k+20) (by omega) c hm hl hf,dl,abN hl,ae,lj,XH,hroom,hroom2,hd,hdr,hh,htl,cond_true,hur,mj,Cz]
  have hb:∀ op w v:Int,aF op w v=some (op,0,w,v,0,0,0):=fun _ _ _=>rfl
  simp only [hb,ae]
  have hin:(0:Int)≤0∧(0:Int)<m.length:=by omega
  have hcall:dH c m F=if F.1=3∨F.1=4 then oU c m F else w8 c m F:=rfl
  rcases (show pc=0∨pc=1∨pc=2∨pc=3∨pc=4∨pc=5 by omega) with rfl | rfl | rfl | rfl | rfl | rfl
  ·by_cases h:ai m 3=0
   ·simp [h]
   ·simp [h,dU]
  ·simp only [if_pos hin]
   simp
  ·by_cases e3:F.1=3
   ·have ec:dH c m F=oU c m F:=by rw [hcall,if_pos (.inl e3)]
    rw [ec]
    cases ho:b9 (oU c m F).2 with
    | false=>simp [e3,ho]
    | true=>
     by_cases h8:(oU c m F).2.2.2.2.2.2.2=2
     ·simp [e3,ho,h8]
     ·simp [e3,ho,h8]
   ·by_cases e4:F.1=4
    ·have ec:dH c m F=oU c m F:=by rw [hcall,if_pos (.inr e4)]
     rw [ec]
     cases ho:b9 (oU c m F).2 with
     | false=>simp [e4,ho]
     | true=>
      by_cases h8:(oU c m F).2.2.2.2.2.2.2=2
      ·simp [e4,ho,h8]
      ·simp [e4,ho,h8]
    ·have ec:dH c m F=w8 c m F:=by rw [hcall,if_neg (by omega)]
     rw [ec]
     cases ho:b9 (w8 c m F).2 with
     | false=>simp [e3,e4,ho]
     | true=>
      by_cases h8:(w8 c m F).2.2.2.2.2.2.2=2
      ·simp [e3,e4,ho,h8]
      ·simp [e3,e4,ho,h8]
  ·by_cases h:ai m 1=0
   ·simp [h]
   ·simp [h,dU]
  ·by_cases e3:F.1=3
   ·have ec:dH c m F=oU c m F:=by rw [hcall,if_pos (.inl e3)]
    rw [ec]
    cases ho:b9 (oU c m F).2 with
    | false=>simp [e3,ho]
    | true=>simp [e3,ho,dU]
   ·by_cases e4:F.1=4
    ·have ec:dH c m F=oU c m F:=by rw [hcall,if_pos (.inr e4)]
     rw [ec]
     cases ho:b9 (oU c m F).2 with
     | false=>simp [e4,ho]
     | true=>simp [e4,ho,dU]
    ·have ec:dH c m F=w8 c m F:=by rw [hcall,if_neg (by omega)]
     rw [ec]
     cases ho:b9 (w8 c m F).2 with
     | false=>simp [e3,e4,ho]
     | true=>simp [e3,e4,ho,dU]
  ·simp only [if_pos hin]
   by_cases h:ai m 0=1
   ·simp [h,dU,hroom2]
   ·simp [h,dU]
end Go.Ab
set_option linter.unusedVariables false
namespace Go.Ab
def onW (c:CF) (w x:Int):Int:=if eu c=true∧0≤w∧w<c.1 then wN c w+x else -1
def mC (c:CF) (w:Int):Int:=onW c w 0
def uD (c:CF) (w:Int):Int:=onW c w 1
def oC (c:CF) (w x:Int):Int:=onW c w (3+rJ .u64 x (c.2.1 - 1))
def W1 (a b:Int):Int:=(a - b)%18446744073709551616
def nc (c:CF) (m:List Int) (f:FR):List Int×FR:=
 if ln c m f 0 4=false then (m,f)
 else if f.2.1=0 then (m,f.1,1,f.2.2.1,f.2.2.2.1,ai m (uD c f.2.2.1),f.2.2.2.2.2)
 else if f.2.1=1 then (if c.2.1≤W1 f.2.2.2.2.1 (ai m (mC c f.2.2.1)) then (m,dR f 2 f.2.2.2.1) else (m,f.1,2,f.2.2.1,f.2.2.2.1,f.2.2.2.2.1,ai m (mC c f.2.2.1),f.2.2.2.2.2.2))
 else if f.2.1=2 then (aJ m (oC c f.2.2.1 f.2.2.2.2.1) f.2.2.2.1,f.1,3,f.2.2)
 else (aJ m (uD c f.2.2.1) (iM f.2.2.2.2.1 1),dR f 1 f.2.2.2.1)
def D6 (c:CF) (m:List Int) (f:FR):List Int×FR:=
 if ln c m f 1 7=false then (m,f)
 else if f.2.1=0 then (m,f.1,1,f.2.2.1,f.2.2.2.1,W1 (ai m (uD c f.2.2.1)) 1,f.2.2.2.2.2)
 else if f.2.1=1 then (aJ m (uD c f.2.2.1) f.2.2.2.2.1,f.1,2,f.2.2)
 else if f.2.1=2 then (m,f.1,if mI f.2.2.2.2.1 (ai m (mC c f.2.2.1))<0 then 6 else 3,f.2.2.1,f.2.2.2.1,f.2.2.2.2.1,ai m (mC c f.2.2.1),f.2.2.2.2.2.2)
 else if f.2.1=3 then (if f.2.2.2.2.1≠f.2.2.2.2.2.1 then (m,dR f 1 (ai m (oC c f.2.2.1 f.2.2.2.2.1))) else (m,f.1,4,f.2.2.1,ai m (oC c f.2.2.1 f.2.2.2.2.1),f.2.2.2.2))
 else if f.2.1=4 then (let r:=nG m (mC c f.2.2.1) f.2.2.2.2.2.1 (iM f.2.2.2.2.2.1 1);(r.1,f.1,if r.2=true then 5 else 6,f.2.2))
 else if f.2.1=5 then (aJ m (uD c f.2.2.1) (iM f.2.2.2.2.1 1),dR f 1 f.2.2.2.1)
 else (aJ m (uD c f.2.2.1) (iM f.2.2.2.2.1 1),dR f 3 0)
def gO (c:CF) (m:List Int) (f:FR):List Int×FR:=
 if ln c m f 2 4=false then (m,f)
 else if f.2.1=0 then (m,f.1,1,f.2.2.1,f.2.2.2.1,f.2.2.2.2.1,ai m (mC c f.2.2.1),f.2.2.2.2.2.2)
 else if f.2.1=1 then (if mI (ai m (uD c f.2.2.1)) f.2.2.2.2.2.1≤0 then (m,dR f 3 0) else (m,f.1,2,f.2.2.1,f.2.2.2.1,ai m (uD c f.2.2.1),f.2.2.2.2.2))
 else if f.2.1=2 then (m,f.1,3,f.2.2.1,ai m (oC c f.2.2.1 f.2.2.2.2.2.1),f.2.2.2.2)
 else (let r:=nG m (mC c f.2.2.1) f.2.2.2.2.2.1 (iM f.2.2.2.2.2.1 1);if r.2=true then (r.1,dR f 1 f.2.2.2.1) else (r.1,dR f 4 0))
def Aa (c:CF) (m:List Int) (f:FR):List Int×FR:=if f.1=0 then nc c m f else if f.1=1 then D6 c m f else if f.1=2 then gO c m f else (m,f)
def da (c:CF) (m:List Int) (f:FR):List Int×FR:=if f.1=0∨f.1=1∨f.1=2 then Aa c m f else dH c m f
theorem ZR (a b:Int):IntKind.u64.wrap (a - b)=W1 a b:=by rw [mP];rfl
theorem P1 (a b:Int):0≤W1 a b∧W1 a b≤18446744073709551615:=by unfold W1;omega
theorem pC {x D:Int} (h0:0≤x) (h1:x≤18446744073709551615) (hD:1≤D) (hE:D≤16):0≤rJ .u64 x (D - 1)∧rJ .u64 x (D - 1)≤D - 1:=by
 obtain ⟨a,rfl⟩:=Int.eq_ofNat_of_zero_le h0
 obtain ⟨b,hb⟩:∃ b:Nat,D - 1=(b:Int):=⟨(D - 1).toNat,by omega⟩
 rw [hb,adQ (by omega) (by omega)]
 have:=Nat.and_le_right (n:=a) (m:=b)
 omega
theorem MG (c:CF) (w:Int):f8 c w=some (mC c w):=by
 unfold f8 mC onW
 try simp only [Prod.eta]
 rw [fe,ae]
 cases h:eu c with
 | false=>simp
 | true=>
  have hm:=aQ h
  rw [Bool.not_true,cond_false,fB (by omega),Ve,ae]
  by_cases h1:0≤w∧w≤c.1 - 1
  ·have ht:=cX h h1.1 (by omega)
   rw [decide_eq_true h1,Bool.not_true,cond_false,Dh h (by omega) (by omega),ae,if_pos ⟨rfl,by omega,by omega⟩,Int.add_zero]
  ·rw [decide_eq_false h1,Bool.not_false,cond_true,if_neg (by omega)]
theorem JN (c:CF) (w:Int):cO c w=some (uD c w):=by
 unfold cO uD onW
 try simp only [Prod.eta]
 rw [fe,ae]
 cases h:eu c with
 | false=>simp
 | true=>
  have hm:=aQ h
  rw [Bool.not_true,cond_false,fB (by omega),Ve,ae]
  by_cases h1:0≤w∧w≤c.1 - 1
  ·have ht:=cX h h1.1 (by omega)
   rw [decide_eq_true h1,Bool.not_true,cond_false,Dh h (by omega) (by omega),ae,fB (by omega),if_pos ⟨rfl,by omega,by omega⟩]
  ·rw [decide_eq_false h1,Bool.not_false,cond_true,if_neg (by omega)]
theorem Hx (c:CF) (w:Int) {x:Int} (h0:0≤x) (hx:x≤18446744073709551615):eW c w x=some (oC c w x):=by
 unfold eW oC onW
 try simp only [Prod.eta]
 rw [fe,ae]
 cases h:eu c with
 | false=>simp
 | true=>
  have hm:=aQ h
  rw [Bool.not_true,cond_false,fB (z:=c.1 - 1) (by omega),Ve,ae]
  by_cases h1:0≤w∧w≤c.1 - 1
  ·have ht:=cX h h1.1 (by omega)
   have ha:=pC h0 hx (show 1≤c.2.1 by omega) (by omega)
   rw [decide_eq_true h1,Bool.not_true,cond_false,Dh h (by omega) (by omega),ae,if_pos ⟨rfl,by omega,by omega⟩,fB (z:=c.2.1 - 1) (by omega),kg (z:=c.2.1 - 1) (by omega) (by omega),fB (z:=rJ .u64 x (c.2.1 - 1)) (by omega),fB (z:=wN c w+3) (by omega),fB (by omega),Int.add_assoc]
  ·rw [decide_eq_false h1,Bool.not_false,cond_true,if_neg (by omega)]
section
variable (k:Nat) (c:CF) (m:List Int) (a2 a3 a4 a5:Int) (n:Nat) {x:List Int} (p q:Int)
theorem abZ:ao k c m (2,1,a2,a3,a4,a5,0) (n+1) x p q 0=ao k c m (2,1,a2,a3,a4,a5,0) n x p q 1:=by
 rw [ao]
 rfl
theorem adw:ao k c m (2,2,a2,a3,a4,a5,0) (n+1) x p q 0=ao k c m (2,2,a2,a3,a4,a5,0) n x p q 1:=by
 rw [ao]
 rfl
theorem ac2:ao k c m (2,2,a2,a3,a4,a5,0) (n+1) x p q 1=ao k c m (2,2,a2,a3,a4,a5,0) n x p q 2:=by
 rw [ao]
 rfl
theorem Zx:ao k c m (2,3,a2,a3,a4,a5,0) (n+1) x p q 0=ao k c m (2,3,a2,a3,a4,a5,0) n x p q 1:=by
 rw [ao]
 rfl
theorem acT:ao k c m (2,3,a2,a3,a4,a5,0) (n+1) x p q 1=ao k c m (2,3,a2,a3,a4,a5,0) n x p q 2:=by
 rw [ao]
 rfl
theorem acX:ao k c m (2,3,a2,a3,a4,a5,0) (n+1) x p q 2=ao k c m (2,3,a2,a3,a4,a5,0) n x p q 3:=by
 rw [ao]
 rfl
theorem Zs:ao k c m (2,0,a2,a3,a4,a5,0) (n+1) x p q 0=some (x,(2,1,a2,a3,a4,ai x p,0)):=by
 have e:ao k c m (2,0,a2,a3,a4,a5,0) (n+1) x p q 0=ob (aE x p) fun r=>some (x,(2,1,a2,a3,a4,r,0)):=by
  rw [ao]
  rfl
 rw [e,dl,ae]
theorem ZS:ao k c m (2,1,a2,a3,a4,a5,0) (n+1) x p q 1=some (if mI (ai x q) a5≤0 then (x,(2,0,a2,0,0,0,3)) else (x,(2,2,a2,a3,ai x q,a5,0))):=by
 have e:ao k c m (2,1,a2,a3,a4,a5,0) (n+1) x p q 1=ob (aE x q) fun r=>ob (dz r a5) fun y=>bif decide (y≤0) then some (x,(2,0,a2,0,0,0,3)) else some (x,(2,2,a2,a3,r,a5,0)):=by
  rw [ao]
  rfl
 rw [e,dl,ae,FO,ae]
 by_cases h:mI (ai x q) a5≤0
 ·rw [leT h,cond_true,if_pos h]
 ·rw [leF (by omega),cond_false,if_neg h]
theorem aas (h0:0≤a5) (h1:a5≤18446744073709551615):ao k c m (2,2,a2,a3,a4,a5,0) (n+1) x p q 2=some (x,(2,3,a2,ai x (oC c a2 a5),a4,a5,0)):=by
 have e:ao k c m (2,2,a2,a3,a4,a5,0) (n+1) x p q 2=ob (eW c a2 a5) fun s=>ob (aE x s) fun r=>some (x,(2,3,a2,r,a4,a5,0)):=by
  rw [ao]
  rfl
 rw [e,Hx c a2 h0 h1,ae,dl,ae]
theorem abl (hl:x.length≤1000):ao k c m (2,3,a2,a3,a4,a5,0) (n+1) x p q 3=some (if (nG x p a5 (iM a5 1)).2=true then ((nG x p a5 (iM a5 1)).1,(2,0,a2,a3,0,0,1)) else ((nG x p a5 (iM a5 1)).1,(2,0,a2,0,0,0,4))):=by
 have e:ao k c m (2,3,a2,a3,a4,a5,0) (n+1) x p q 3=ob (dh x p a5 (IntKind.u64.wrap (a5+1))) fun r=>bif r.2 then some (r.1,(2,0,a2,a3,0,0,1)) else some (r.1,(2,0,a2,0,0,0,4)):=by
  rw [ao]
  rfl
 rw [e,wd,Gv hl,ae]
 cases (nG x p a5 (iM a5 1)).2 <;> rfl
end
section
variable (c:CF) {m:List Int} (hm:Wm m) (hl:m.length≤1000) {f:FR} (hf:Wf f)
include hm hl hf
theorem Jl:iG c m f=some (nc c m f):=by
 have _h:=hm
 unfold iG nc
 try simp only [Prod.eta]
 rw [bJ (by omega),ae,H0,ae]
 cases h:ln c m f 0 4 with
 | false=>rfl
 | true=>
  obtain ⟨hmay,_,h6,h2,h2',h0,h1,h1'⟩:=Cl h
  have hc:=aQ hmay
  rw [cond_true,if_neg (by simp)]
  obtain ⟨a0,a1,a2,a3,a4,a5,a6⟩:=f
  simp only at h6 h2 h2' h0 h1 h1' ⊢
  obtain ⟨w3,w4,w5⟩:=hf
  simp only at w3 w4 w5
  rcases (show a1=0∨a1=1∨a1=2∨a1=3 by omega) with rfl | rfl | rfl | rfl
  ·simp [JN,dl,ae]
  ·simp only [MG,dl,ae,gY,ZR,kg (z:=c.2.1) (by omega) (by omega)]
   by_cases h5:c.2.1≤W1 a4 (ai m (mC c a2))
   ·simp [h5,dR]
   ·simp [h5]
  ·simp only [Hx c a2 w4.1 w4.2,iJ hl,ae]
   simp
  ·simp only [JN,iJ hl,ae,gY,wd]
   simp [dR]
theorem Mi:lC c m f=some (D6 c m f):=by
 have _h:=hm
 unfold lC D6
 try simp only [Prod.eta]
 rw [bJ (by omega),ae,H0,ae]
 cases h:ln c m f 1 7 with
 | false=>rfl
 | true=>
  obtain ⟨hmay,_,h6,h2,h2',h0,h1,h1'⟩:=Cl h
  rw [Bool.not_true,cond_false,if_neg (by simp)]
  obtain ⟨a0,a1,a2,a3,a4,a5,a6⟩:=f
  simp only at h6 h2 h2' h0 h1 h1' ⊢
  obtain ⟨w3,w4,w5⟩:=hf
  simp only at w3 w4 w5
  rw [MG,ae,JN,ae]
  have hw:∀ z:Int,0≤z→z≤100→IntKind.i64.wrap (z+1)=z+1:=fun z _ _=>fB (by omega)
  rcases (show a1=0∨a1=1∨a1=2∨a1=3∨a1=4∨a1=5∨a1=6 by omega) with rfl | rfl | rfl | rfl | rfl | rfl | rfl
  ·rw [hw 0 (by decide) (by decide)]
   simp [dl,ae,ZR]
  ·rw [hw 1 (by decide) (by decide)]
   simp [iJ hl,ae]
  ·rw [hw 2 (by decide) (by decide)]
   simp only [dl,ae,FO]
   by_cases h5:mI a4 (ai m (mC c a2))<0
   ·simp [h5]
   ·simp [h5]
  ·rw [hw 3 (by decide) (by decide)]
   simp only [Hx c a2 w4.1 w4.2,dl,ae,gY,Cz]
   by_cases h5:a4=a5
   ·simp [h5]
   ·simp [h5,dR]
  ·rw [hw 4 (by decide) (by decide)]
   simp only [wd,Gv hl,ae]
   cases hc:(nG m (mC c a2) a5 (iM a5 1)).2 <;> simp [hc]
  ·simp only [wd,iJ hl,ae,gY]
   simp [dR]
  ·simp only [wd,iJ hl,ae,gY]
   simp [dR]
theorem EZ (k:Nat):gJ k c m f=some (gO c m f):=by
 have _h:=hm
 unfold gJ gO
 try simp only [Prod.eta]
 rw [bJ (by omega),ae,H0,ae]
 cases h:ln c m f 2 4 with
 | false=>rfl
 | true=>
  obtain ⟨hmay,_,h6,h2,h2',h0,h1,h1'⟩:=Cl h
  rw [Bool.not_true,cond_false,if_neg (by simp)]
  obtain ⟨a0,a1,a2,a3,a4,a5,a6⟩:=f
  simp only at h6 h2 h2' h0 h1 h1' ⊢
  obtain ⟨w3,w4,w5⟩:=hf
  simp only at w3 w4 w5
  subst h6
  subst h0
  rw [MG,ae,JN,ae]
  rcases (show a1=0∨a1=1∨a1=2∨a1=3 by omega) with rfl | rfl | rfl | rfl
  ·rw [if_pos rfl]
   exact Zs k c m a2 a3 a4 a5 (k+22) _ _
  ·rw [if_neg (by decide),if_pos rfl]
   exact (abZ k c m a2 a3 a4 a5 (k+22) _ _).trans (ZS k c m a2 a3 a4 a5 (k+21) _ _)
  ·rw [if_neg (by decide),if_neg (by decide),if_pos rfl]
   exact (adw k c m a2 a3 a4 a5 (k+22) _ _).trans ((ac2 k c m a2 a3 a4 a5 (k+21) _ _).trans (aas k c m a2 a3 a4 a5 (k+20) _ _ w5.1 w5.2))
  ·rw [if_neg (by decide),if_neg (by decide),if_neg (by decide)]
   exact (Zx k c m a2 a3 a4 a5 (k+22) _ _).trans ((acT k c m a2 a3 a4 a5 (k+21) _ _).trans ((acX k c m a2 a3 a4 a5 (k+20) _ _).trans (abl k c m a2 a3 a4 a5 (k+19) _ _ hl)))
theorem JI (k:Nat):eF k c m f=some (Aa c m f):=by
 unfold eF Aa
 simp only [Prod.eta,Jl c hm hl hf,Mi c hm hl hf,EZ c hm hl hf,ae,mj]
 by_cases h0:f.1=0
 ·simp [h0]
 ·by_cases h1:f.1=1
  ·simp [h1]
  ·by_cases h2:f.1=2
   ·simp [h2]
   ·simp [h0,h1,h2,bJ (b:=8) (l:=m) (by omega),ae]
end
end Go.Ab
set_option maxRecDepth 100000
set_option linter.unusedVariables false
namespace Go.Ab
structure FwT (t:Tyt):Prop where
 len:t.length≤40
 kids:∀ x ∈ t,x.2.length≤40
theorem acE {t:Tyt} (h:YL t=true):FwT t:=by
 simp only [YL,Bool.and_eq_true,decide_eq_true_eq,List.all_eq_true] at h
 refine ⟨h.2,fun x hx=>h.1 x ?_⟩
 rwa [List.take_of_length_le (by omega)]
theorem FwT.wt {t:Tyt} (h:FwT t):Wt t:=⟨by have:=h.len;omega,fun x hx=>by have:=h.kids x hx;omega⟩
def nZ (t:Tyt) (q:Int):Int×List Int:=(t[q.toNat]?).getD (0,[])
def DK (t:Tyt) (x:Int×Int×Int):Bool:=
 decide (0≤x.1)&&decide (x.1<t.length)&&(decide (0≤x.2.1)&&decide (x.2.1≤(nZ t x.1).1))&&(decide (0≤x.2.2)&&decide (x.2.2≤((nZ t x.1).2.length:Int))) &&
  !(decide (x.2.1<(nZ t x.1).1)&&decide (0<x.2.2))
def db (t:Tyt) (s:Tye):Bool:=rG t&&s.all (DK t)
theorem J1 {t:Tyt} {q:Int} (h0:0≤q) (h1:q<t.length):idx t q=some (nZ t q):=by
 rw [idx,if_pos h0,nZ,List.getElem?_eq_getElem (by omega)]
 rfl
theorem B3 {t:Tyt} {q:Int} (h0:0≤q) (h1:q<t.length):nZ t q ∈ t:=by
 rw [nZ,List.getElem?_eq_getElem (show q.toNat<t.length by omega)]
 exact List.getElem_mem _
theorem Kd {α:Type} (b:Nat) (l:List α) (h:l.length*b≤70368744177664):aO b l=some l:=by
 unfold aO
 rw [ait,decide_eq_true h,ct]
theorem aat (a b:Int):fH a b=some (decide (0≤a)&&decide (a≤b)):=by
 rw [fH]
 cases decide ((0:Int)≤a) <;> rfl
section
variable (k:Nat) (hk:9223372036854775808≤k)
include hk
theorem My (t:Tyt) (ht:Wt t) (s:Tye) (hs:s.length≤9223372036854775807):fE k t s=some (db t s):=by
 have hlen:=ht.len
 rw [fE,IA k hk t ht,ae,db]
 cases hm:rG t with
 | false=>rfl
 | true=>
  have h30:=MA hm
  rw [cond_true,IW (F:=fun n i=>bN k n s (s.length:Int) t i) (l:=s) (fun x => !DK t x) ?_ ?_ _ (by omega),ae,pn]
  ·rw [List.all_eq_not_any_not,Bool.true_and]
  ·intro n
   simp only [bN,uA,cond_false]
  ·intro n i x hi hx
   simp only [bN,ltN hi,cond_true,ga hx,ae,aat]
   rw [gg (by omega),fB (z:=(t.length:Int) - 1) (by omega)]
   have e0:decide (x.1≤(t.length:Int) - 1)=decide (x.1<(t.length:Int)):=by
    by_cases h:x.1<(t.length:Int)
    ·rw [decide_eq_true h,decide_eq_true (by omega)]
    ·rw [decide_eq_false h,decide_eq_false (by omega)]
   rw [e0]
   unfold DK
   by_cases h0:0≤x.1
   ·by_cases h1:x.1<(t.length:Int)
    ·rw [leT h0,ltT h1,J1 h0 h1,ae]
     simp only [Bool.and_self,Bool.not_true,cond_false,Bool.true_and]
     cases (decide (0≤x.2.1)&&decide (x.2.1≤(nZ t x.1).1)) with
     | false=>rfl
     | true=>
      cases (decide (0≤x.2.2)&&decide (x.2.2≤((nZ t x.1).2.length:Int))) with
      | false=>rfl
      | true=>
       cases decide (x.2.1<(nZ t x.1).1) with
       | false=>rfl
       | true=>cases decide (0<x.2.2) <;> rfl
    ·rw [ltF (show (t.length:Int)≤x.1 by omega)]
     simp
   ·rw [leF (show x.1<0 by omega)]
    simp
end
def wH (t:Tyt) (s:Tye):Int×Int:=
 match s.getLast? with
 | none=>(0,0)
 | some x=>if db t s=false then (0,0) else if x.2.1<(nZ t x.1).1 then (1,x.1) else if x.2.2<((nZ t x.1).2.length:Int) then (2,((nZ t x.1).2[x.2.2.toNat]?).getD 0) else (3,x.1)
def doB (t:Tyt) (s:Tye):Tye:=
 match s.getLast? with
 | none=>s
 | some x=>if db t s=false then s else if x.2.1<(nZ t x.1).1 then s.dropLast++[(x.1,x.2.1+1,x.2.2)] else if x.2.2<((nZ t x.1).2.length:Int) then s.dropLast++[(x.1,x.2.1,x.2.2+1)] else s.dropLast
def oz (t:Tyt) (s:Tye) (q:Int):Tye:=
 if db t s=true∧0≤q∧q<t.length then s++[(q,0,0)] else s
def Ki (t:Tyt) (x:Int×Int×Int):Int:=(nZ t x.1).1 - x.2.1+((nZ t x.1).2.length:Int) - x.2.2+1
def Jh (t:Tyt) (s:Tye):Int:=if db t s=true then (s.map (Ki t)).sum else 0
theorem m9 {α:Type} (s:List α):s=[]∨∃ r x,s=r++[x]:=by
 rcases List.eq_nil_or_concat s with h | ⟨r,x,h⟩
 ·exact .inl h
 ·exact .inr ⟨r,x,by rw [h,List.concat_eq_append]⟩
theorem Hu {α:Type} (r:List α) (x:α):(((r++[x]).length:Nat):Int) - 1=(r.length:Int):=by simp
theorem GV {α:Type} (r:List α) (x:α):(r++[x])[r.length]? = some x:=by simp
theorem Qw {α:Type} (r:List α) (x y:α):(r++[x]).set r.length y=r++[y]:=by simp
theorem KD {α:Type} (r:List α) (x:α):(r++[x]).take r.length=r:=by simp
theorem Af (t:Tyt) (r:Tye) (x:Int×Int×Int):wH t (r++[x])=if db t (r++[x])=false then (0,0) else if x.2.1<(nZ t x.1).1 then (1,x.1) else if x.2.2<((nZ t x.1).2.length:Int) then (2,((nZ t x.1).2[x.2.2.toNat]?).getD 0) else (3,x.1):=by
 simp [wH]
theorem Cu (t:Tyt) (r:Tye) (x:Int×Int×Int):doB t (r++[x])=if db t (r++[x])=false then r++[x] else if x.2.1<(nZ t x.1).1 then r++[(x.1,x.2.1+1,x.2.2)] else if x.2.2<((nZ t x.1).2.length:Int) then r++[(x.1,x.2.1,x.2.2+1)] else r:=by
 simp [doB]
theorem T2 (t:Tyt) (s:Tye):(doB t s).length≤s.length:=by
 rcases m9 s with rfl | ⟨r,x,rfl⟩
 ·simp [doB]
 ·rw [Cu]
  split
  ·exact Nat.le_refl _
  ·split
   ·simp
   ·split <;> simp
theorem IB (t:Tyt) (s:Tye) (q:Int):(oz t s q).length≤s.length+1:=by
 unfold oz
 split <;> simp
structure It (t:Tyt) (x:Int×Int×Int):Prop where
 h0:0≤x.1
 h1:x.1<t.length
 d0:0≤x.2.1
 d1:x.2.1≤(nZ t x.1).1
 c0:0≤x.2.2
 c1:x.2.2≤((nZ t x.1).2.length:Int)
 z:x.2.1<(nZ t x.1).1→x.2.2=0
theorem Tv {t:Tyt} {x:Int×Int×Int}:DK t x=true↔It t x:=by
 simp only [DK,Bool.and_eq_true,decide_eq_true_eq,Bool.not_eq_true',Bool.and_eq_false_iff,decide_eq_false_iff_not]
 constructor
 ·rintro ⟨⟨⟨⟨a,b⟩,c,d⟩,e,f⟩,g⟩
  exact ⟨a,b,c,d,e,f,fun h=>by rcases g with g | g <;> omega⟩
 ·rintro ⟨a,b,c,d,e,f,g⟩
  refine ⟨⟨⟨⟨a,b⟩,c,d⟩,e,f⟩,?_⟩
  by_cases h:x.2.1<(nZ t x.1).1
  ·exact .inr (by have:=g h;omega)
  ·exact .inl h
theorem gr {t:Tyt} {r:Tye} {x:Int×Int×Int}:db t (r++[x])=true↔rG t=true∧(∀ y ∈ r,It t y)∧It t x:=by
 simp only [db,Bool.and_eq_true,List.all_eq_true,List.mem_append,List.mem_singleton,Tv]
 constructor
 ·rintro ⟨a,b⟩
  exact ⟨a,fun y hy=>b y (.inl hy),b x (.inr rfl)⟩
 ·rintro ⟨a,b,c⟩
  refine ⟨a,fun y hy => ?_⟩
  rcases hy with h | rfl
  ·exact b y h
  ·exact c
theorem kZ {t:Tyt} {r:Tye}:db t r=true↔rG t=true∧(∀ y ∈ r,It t y):=by
 simp only [db,Bool.and_eq_true,List.all_eq_true,Tv]
section
variable (k:Nat) (hk:9223372036854775808≤k)
include hk
theorem K9 (t:Tyt) (ht:Wt t) (s:Tye) (hs:s.length≤1048576):dJ k t s=some (wH t s):=by
 rw [dJ]
 rcases m9 s with rfl | ⟨r,x,rfl⟩
 ·rfl
 ·have hr:r.length+1≤1048576:=by simpa using hs
  have e1:((((r++[x]).length:Nat):Int)==0)=false:=by simp;omega
  rw [e1,cond_false,My k hk t ht _ (by omega),ae,Af]
  cases h:db t (r++[x]) with
  | false=>rfl
  | true=>
   obtain ⟨hm,hr',hx⟩:=gr.1 h
   have hl:=ht.kids _ (B3 hx.h0 hx.h1)
   rw [Bool.not_true,cond_false,Hu,fB (by omega),ga (GV r x),ae,J1 hx.h0 hx.h1,ae,if_neg (show ¬ (true=false) by simp)]
   by_cases h1:x.2.1<(nZ t x.1).1
   ·rw [ltT h1,cond_true,if_pos h1]
   ·rw [ltF (by omega),cond_false,if_neg h1]
    by_cases h2:x.2.2<((nZ t x.1).2.length:Int)
    ·have:=hx.c0
     rw [ltT h2,cond_true,if_pos h2,idx,if_pos hx.c0,List.getElem?_eq_getElem (by omega),ae]
     rfl
    ·rw [ltF (by omega),cond_false,if_neg h2]
theorem aex (t:Tyt) (ht:Wt t) (s:Tye) (hs:s.length≤1048576):fO k t s=some (doB t s):=by
 rw [fO,Kd _ _ (by omega),ae,K9 k hk t ht s hs,ae]
 rcases m9 s with rfl | ⟨r,x,rfl⟩
 ·rfl
 ·have hr:r.length+1≤1048576:=by simpa using hs
  rw [Hu,fB (by omega),Af,Cu,Int.toNat_natCast,GV,KD]
  simp only [Qw,ae]
  have e1:decide ((0:Int)≤(r.length:Int)∧r.length<(r++[x]).length)=true:=by simp
  have e2:decide ((0:Int)≤(r.length:Int)∧r.length≤(r++[x]).length)=true:=by simp
  have e3:decide (r.length≤(r++[x]).length)=true:=by simp
  rw [e1,e2,e3]
  cases h:db t (r++[x]) with
  | false=>rfl
  | true=>
   obtain ⟨hm,hr',hx⟩:=gr.1 h
   have hw:=(Sz hm).work _ (B3 hx.h0 hx.h1)
   have hl:=ht.kids _ (B3 hx.h0 hx.h1)
   have:=hx.d0
   have:=hx.c0
   rw [if_neg (show ¬ (true=false) by simp),if_neg (show ¬ (true=false) by simp)]
   by_cases h1:x.2.1<(nZ t x.1).1
   ·rw [if_pos h1,if_pos h1]
    simp only [beq_self_eq_true,cond_true]
    rw [fB (by omega)]
   ·rw [if_neg h1,if_neg h1]
    by_cases h2:x.2.2<((nZ t x.1).2.length:Int)
    ·rw [if_pos h2,if_pos h2]
     simp only [Int.reduceBEq,cond_true,cond_false]
     rw [fB (by omega)]
    ·rw [if_neg h2,if_neg h2]
     rfl
theorem PW (t:Tyt) (ht:Wt t) (s:Tye) (hs:s.length≤1048576) (q:Int):dp k t s q=some (oz t s q):=by
 have hlen:=ht.len
 rw [dp,Kd _ _ (by omega),ae,My k hk t ht s (by omega),ae,oz]
 cases h:db t s with
 | false=>simp
 | true=>
  have h30:=MA (kZ.1 h).1
  rw [Bool.not_true,cond_false,aat,ae,fB (by omega)]
  by_cases h0:0≤q
  ·by_cases h1:q<t.length
   ·have e2:room (s++[(q,(0:Int),(0:Int))]).length 24=true:=Dt (by simp;omega)
    rw [leT h0,leT (show q≤(t.length:Int) - 1 by omega),Bool.and_self,Bool.not_true,cond_false,e2,cond_true,if_pos ⟨rfl,h0,h1⟩]
   ·rw [leF (show (t.length:Int) - 1<q by omega),if_neg (by omega)]
    simp
  ·rw [leF (show q<0 by omega),if_neg (by omega)]
   simp
end
theorem acW {t:Tyt} {q:Int} (hm:rG t=true) (h0:0≤q) (h1:q<t.length):It t (q,0,0):=
 ⟨h0,h1,by simp,((Sz hm).work _ (B3 h0 h1)).1,by simp,by simp,fun _=>rfl⟩
theorem wv {t:Tyt} {r:Tye} {x:Int×Int×Int} (h:db t (r++[x])=true):Jh t (r++[x])=Jh t r+Ki t x:=by
 obtain ⟨a,b,c⟩:=gr.1 h
 rw [Jh,if_pos h,Jh,if_pos (kZ.2 ⟨a,b⟩),List.map_append,List.sum_append]
 simp
theorem Ol {t:Tyt} {r:Tye} {x:Int×Int×Int} (h:db t (r++[x])=true):db t (doB t (r++[x]))=true∧Jh t (doB t (r++[x]))=Jh t (r++[x]) - 1:=by
 obtain ⟨a,b,c⟩:=gr.1 h
 obtain ⟨q0,q1,q2,q3,q4,q5,q6⟩:=c
 rw [wv h,Cu,if_neg (by simp [h])]
 split
 ·rename_i h1
  have h2:db t (r++[(x.1,x.2.1+1,x.2.2)])=true:=gr.2 ⟨a,b,⟨q0,q1,by simp only;omega,by simp only;omega,q4,q5,fun _=>q6 h1⟩⟩
  refine ⟨h2,?_⟩
  rw [wv h2]
  unfold Ki
  simp only
  omega
 ·rename_i h1
  split
  ·rename_i h3
   have h2:db t (r++[(x.1,x.2.1,x.2.2+1)])=true:=gr.2 ⟨a,b,⟨q0,q1,q2,q3,by simp only;omega,by simp only;omega,fun h=>absurd h h1⟩⟩
   refine ⟨h2,?_⟩
   rw [wv h2]
   unfold Ki
   simp only
   omega
  ·rename_i h3
   refine ⟨kZ.2 ⟨a,b⟩,?_⟩
   unfold Ki
   omega
end Go.Ab
set_option linter.unusedVariables false
namespace Go.Ab
abbrev WB:=Int×Tye×FR×Int×Int
def Au (op w v:Int):FR:=(op,0,w,v,0,0,0)
def cZ (c:CF) (t:Tyt) (m:List Int) (w:Int) (x:WB):Bool:=eu c&&decide ((m.length:Int)=cD c)&&rG t&&decide (0≤w∧w<c.1∧0≤x.1∧x.1<16)&&db t x.2.1
def Kw (d w W:Int):Int:=if W<2∨w<0∨W≤w then -1 else (w+1+d%(W - 1))%W
def toW (pc:Int) (x:WB):WB:=(pc,x.2.1,dU,x.2.2.2)
def gk (pc op w v:Int) (x:WB):WB:=(pc,x.2.1,Au op w v,x.2.2.2)
def rD:Int:=18446744073709551615
def N2 (v:Int):Int:=IntKind.i64.wrap v
abbrev WR:=List Int×WB×List EV
def DL (c:CF) (t:Tyt) (m:List Int) (w:Int) (x:WB):WR:=
 let r:=da c m x.2.2.1
 if b9 r.2=false then (r.1,(x.1,x.2.1,r.2,x.2.2.2),[])
 else if r.2.2.2.2.2.2.2≠1 then (r.1,toW 1 x,[])
 else (r.1,(9,oz t x.2.1 (N2 r.2.2.2.2.1),dU,x.2.2.2),[(2,N2 r.2.2.2.2.1,w)])
def nw (c:CF) (m:List Int) (w:Int) (x:WB):WR:=(aJ m 1 (iM (ai m 1) 1),(2,x.2.1,Au 4 w 0,c.2.2.2,x.2.2.2.2),[])
def lS (c:CF) (m:List Int) (w:Int) (x:WB) (d:Int):WR:=
 let r:=da c m x.2.2.1
 if b9 r.2=false then (r.1,(x.1,x.2.1,r.2,x.2.2.2),[])
 else if r.2.2.2.2.2.2.2=1 then (r.1,(4,x.2.1,r.2,x.2.2.2),[])
 else if x.1=2∧0≤Kw d w c.1 then (r.1,gk 3 2 (Kw d w c.1) 0 x,[])
 else if x.2.2.2.1≤0 then (r.1,gk 5 5 w 0 x,[])
 else (r.1,(2,x.2.1,Au 4 w 0,x.2.2.2.1 - 1,x.2.2.2.2),[])
def gH (t:Tyt) (m:List Int) (w:Int) (x:WB):WR:=
 (aJ m 1 (iM (ai m 1) rD),(if ai m 1=1 then 14 else 9,oz t x.2.1 (N2 x.2.2.1.2.2.2.1),if ai m 1=1 then Au 6 w 0 else dU,x.2.2.2),[(2,N2 x.2.2.1.2.2.2.1,w)])
def mK (c:CF) (m:List Int) (x:WB):WR:=let r:=da c m x.2.2.1;(r.1,(6,x.2.1,r.2,x.2.2.2),[])
def kr (m:List Int) (x:WB):WR:=(aJ m 1 (iM (ai m 1) rD),(7,x.2.1,x.2.2.1,x.2.2.2.1,0),[])
def Bc (f:FR) (v:Int):FR:=(f.1,f.2.1,f.2.2.1,v,f.2.2.2.2)
def bK (c:CF) (m:List Int) (x:WB):WR:=
 let k:=x.2.2.2.2
 let most:=2+2*c.1
 let v:=(k - 2)/2
 if k<0∨most≤k then (m,(8,x.2.1,Bc x.2.2.1 0,x.2.2.2.1,0),[])
 else
  let f:=if k=0 then Bc x.2.2.1 (ai m 4) else if k=1 then x.2.2.1 else if k%2=0 then Bc x.2.2.1 (ai m (mC c v)) else x.2.2.1
  let some:=if k=0 then false else if k=1 then decide (ai m 5≠f.2.2.2.1) else if k%2=0 then false else decide (0<mI (ai m (uD c v)) f.2.2.2.1)
  if some=true then (m,toW 1 x,[])
  else if k+1=most then (m,(8,x.2.1,Bc f 0,x.2.2.2.1,0),[])
  else (m,(7,x.2.1,f,x.2.2.2.1,k+1),[])
def bO (c:CF) (m:List Int) (x:WB):WR:=let r:=da c m x.2.2.1;if b9 r.2=true then (r.1,toW 1 x,[]) else (r.1,(x.1,x.2.1,r.2,x.2.2.2),[])
def De (t:Tyt) (m:List Int) (w:Int) (x:WB):WR:=
 let a:=wH t x.2.1
 if a.1=1 then (m,(x.1,doB t x.2.1,x.2.2),[]) else if a.1=2 then (m,(10,x.2),[]) else if a.1=3 then (m,(15,x.2),[]) else (m,gk 0 1 w 0 x,[])
def mu (t:Tyt) (m:List Int) (w:Int) (x:WB):WR:=
 let a:=wH t x.2.1
 if a.1≠2 then (m,toW 9 x,[]) else (aJ m 0 (iM (ai m 0) 1),(11,doB t x.2.1,Au 0 w (IntKind.u64.wrap a.2),x.2.2.2),[(3,a.2,w)])
def mD (c:CF) (m:List Int) (w:Int) (x:WB):WR:=
 let r:=da c m x.2.2.1
 if b9 r.2=false then (r.1,(x.1,x.2.1,r.2,x.2.2.2),[]) else if r.2.2.2.2.2.2.2=2 then (r.1,gk 12 3 w r.2.2.2.2.1 x,[]) else (r.1,toW 13 x,[])
def mr (c:CF) (t:Tyt) (m:List Int) (w:Int) (x:WB):WR:=
 let r:=da c m x.2.2.1
 if b9 r.2=false then (r.1,(x.1,x.2.1,r.2,x.2.2.2),[])
 else if r.2.2.2.2.2.2.2=2 then (r.1,(9,oz t x.2.1 (N2 r.2.2.2.2.1),dU,x.2.2.2),[(2,N2 r.2.2.2.2.1,w)]) else (r.1,toW 13 x,[])
def CB (m:List Int) (w:Int) (x:WB):WR:=if ai m 1=0 then (m,gk 14 6 w 0 x,[]) else (m,toW 9 x,[])
def mN (c:CF) (m:List Int) (x:WB):WR:=let r:=da c m x.2.2.1;if b9 r.2=true then (r.1,toW 9 x,[]) else (r.1,(x.1,x.2.1,r.2,x.2.2.2),[])
def mw (t:Tyt) (m:List Int) (w:Int) (x:WB):WR:=
 let a:=wH t x.2.1
 if a.1≠3 then (m,toW 9 x,[])
 else (aJ m 0 (iM (ai m 0) rD),(if doB t x.2.1=[] then (0,[],Au 1 w 0,x.2.2.2) else (9,doB t x.2.1,dU,x.2.2.2)),if ai m 0=1 then [(4,a.2,w),(5,0,w)] else [(4,a.2,w)])
def a8 (c:CF) (t:Tyt) (m:List Int) (w:Int) (x:WB) (d:Int):WR:=
 if cZ c t m w x=false then (m,x,[])
 else if x.1=0 then DL c t m w x else if x.1=1 then nw c m w x else if x.1=2∨x.1=3 then lS c m w x d else if x.1=4 then gH t m w x
 else if x.1=5 then mK c m x else if x.1=6 then kr m x else if x.1=7 then bK c m x else if x.1=8 then bO c m x
 else if x.1=9 then De t m w x else if x.1=10 then mu t m w x else if x.1=11 then mD c m w x else if x.1=12 then mr c t m w x
 else if x.1=13 then CB m w x else if x.1=14 then mN c m x else mw t m w x
theorem adD {d w W:Int} (hd:0≤d∧d≤18446744073709551615) (hW:W≤8):eU d w W=some (Kw d w W):=by
 unfold eU Kw
 by_cases h2:W<2
 ·rw [ltT h2,cond_true,if_pos (.inl h2)]
 ·rw [ltF (by omega),cond_false]
  unfold dr
  by_cases h0:0≤w
  ·rw [leT h0,cond_true]
   by_cases h1:w<W
   ·rw [ltT h1,ae,Bool.not_true,cond_false,if_neg (by omega),kg (z:=W) (by omega) (by omega),kg (z:=W - 1) (by omega) (by omega),kg (z:=w) (by omega) (by omega),kg (z:=w+1) (by omega) (by omega),Cz,decide_eq_false (by omega),Bool.not_false,cond_true,Cz,decide_eq_false (by omega),Bool.not_false,cond_true,Int.tmod_eq_emod_of_nonneg hd.1]
    have e1:=Int.emod_nonneg d (show W - 1≠0 by omega)
    have e2:=Int.emod_lt_of_pos d (show 0<W - 1 by omega)
    have e3:=Int.emod_nonneg (w+1+d%(W - 1)) (show W≠0 by omega)
    have e4:=Int.emod_lt_of_pos (w+1+d%(W - 1)) (show 0<W by omega)
    rw [kg (by omega) (by omega),Int.tmod_eq_emod_of_nonneg (by omega),fB (by omega)]
   ·rw [ltF (by omega),ae,Bool.not_false,cond_true,if_pos (by omega)]
  ·rw [leF (by omega),cond_false,ae,Bool.not_false,cond_true,if_pos (by omega)]
theorem MF {k:Nat} (hk:9223372036854775808≤k) (c:CF) {t:Tyt} (ht:Wt t) (m:List Int) (w:Int) (x:WB) (hs:x.2.1.length≤9000):io k c t m w x=some (cZ c t m w x):=by
 unfold io cZ
 simp only [Prod.eta,fe,pT,ae]
 rw [IA (k+4) (by omega) t ht,My (k+3) (by omega) t ht x.2.1 (by omega)]
 cases hm:eu c with
 | false=>rfl
 | true=>
  rw [cond_true,mj,Bool.true_and]
  by_cases h1:(m.length:Int)=cD c
  ·rw [decide_eq_true h1,cond_true,Bool.true_and,ae]
   cases ht2:rG t with
   | false=>rfl
   | true=>
    rw [cond_true,Bool.true_and]
    by_cases h2:0≤w
    ·rw [leT h2,cond_true]
     by_cases h3:w<c.1
     ·rw [ltT h3,cond_true]
      by_cases h4:0≤x.1
      ·rw [leT h4,cond_true]
       by_cases h5:x.1<16
       ·rw [ltT h5,cond_true,ae,decide_eq_true ⟨h2,h3,h4,h5⟩,Bool.true_and]
       ·rw [ltF (by omega),cond_false,decide_eq_false (by omega)];rfl
      ·rw [leF (by omega),cond_false,decide_eq_false (by omega)];rfl
     ·rw [ltF (by omega),cond_false,decide_eq_false (by omega)];rfl
    ·rw [leF (by omega),cond_false,decide_eq_false (by omega)];rfl
  ·rw [decide_eq_false h1,cond_false]
   rfl
def ej (x:WB):Bool:=decide (2≤x.1∧x.1≤6)
theorem Vb (w:Int):mS w=some (0,[],Au 1 w 0,0,0):=rfl
end Go.Ab
set_option linter.unusedVariables false
set_option linter.unusedSimpArgs false
set_option maxRecDepth 100000
set_option maxHeartbeats 4000000
namespace Go.Ab
theorem b6 (op w v:Int):aF op w v=some (Au op w v):=rfl
theorem Dz:room 1 24=true:=rfl
theorem ZH:room 2 24=true:=rfl
theorem rI {a b:Int} (h:a=b):(a==b)=true:=by simp [h]
theorem bG {a b:Int} (h:a≠b):(a==b)=false:=by simp [h]
theorem Iz (c:CF) (m:List Int) (f:FR):(Aa c m f=da c m f∧((f.1==0)=true∨(f.1==0)=false∧((f.1==1)=true∨(f.1==1)=false∧(f.1==2)=true)))∨(oU c m f=da c m f∧(f.1==0)=false∧(f.1==1)=false∧(f.1==2)=false∧((f.1==3)=true∨(f.1==3)=false∧(f.1==4)=true))∨(w8 c m f=da c m f∧(f.1==0)=false∧(f.1==1)=false∧(f.1==2)=false∧(f.1==3)=false∧(f.1==4)=false):=by
 unfold da dH
 simp only [mj,decide_eq_true_eq,decide_eq_false_iff_not]
 by_cases h:f.1=0∨f.1=1∨f.1=2
 ·rw [if_pos h];exact .inl ⟨rfl,by omega⟩
 ·rw [if_neg h]
  by_cases g:f.1=3∨f.1=4
  ·rw [if_pos g];exact .inr (.inl ⟨rfl,by omega⟩)
  ·rw [if_neg g];exact .inr (.inr ⟨rfl,by omega⟩)
section
variable {k:Nat} (hk:9223372036854779000≤k) (c:CF) {t:Tyt} (ht:Wt t) {m:List Int} (hm:Wm m) (hl:m.length≤1000) (w:Int) {x:WB} (hf:Wf x.2.2.1) (hs:x.2.1.length≤9000) (hsp:x.2.2.2.1≤9223372036854775807) {d:Int} (hd:0≤d∧d≤18446744073709551615)
include hk ht hm hl hf hs hsp hd
theorem Xm {β:Type} (K:List Int×FR→Option β):ub k c m x.2.2.1 K=K (da c m x.2.2.1):=by
 have _h:=And.intro hsp hd
 have _h2:=And.intro ht hs
 have hdk:=JI c hm hl hf (k+31)
 have hij:=EK c hm hl hf
 have hev:=DI (k:=k+40) (by omega) c hm hl hf
 unfold ub
 rcases Iz c m x.2.2.1 with ⟨h,e | ⟨e,e1 | e1⟩⟩ | ⟨h,e,e1,e2,e3 | e3⟩ | ⟨h,e⟩
 all_goals simp only [*,cond_true,cond_false,ae]
theorem Of:iF k c t m w x d=some (a8 c t m w x d):=by
 have _h1:=hsp
 have _h2:=hd
 unfold iF
 try simp only [Prod.eta]
 rw [bJ (by omega),ae,bJ (by omega),ae,MF (by omega) c ht m w x hs,ae]
 cases hmay:cZ c t m w x with
 | false=>
  unfold a8
  rw [hmay]
  rfl
 | true=>
  rw [Bool.not_true,cond_false]
  have hb:eu c=true∧(m.length:Int)=cD c∧0≤w∧w<c.1∧0≤x.1∧x.1<16:=by
   unfold cZ at hmay
   simp only [Bool.and_eq_true,decide_eq_true_eq] at hmay
   exact ⟨hmay.1.1.1.1,hmay.1.1.1.2,hmay.1.2⟩
  obtain ⟨hmc,hlen,hw0,hw1,hp0,hp1⟩:=hb
  have hc:=aQ hmc
  have hsz:=ii hmc
  have hadd:∀ i v:Int,0≤i→i<2→de m i v=some (aJ m i (iM (ai m i) v),ai m i):=fun i v h0 h1=>by rw [abN hl,if_pos (by omega)]
  have hcg:=fun K=>Xm (k:=k) (β:=List Int×WB×List EV) hk c ht hm hl hf hs hsp hd K
  have hst:=fun q=>PW (k+36) (by omega) t ht x.2.1 (by omega) q
  have hdo:=aex (k+36) (by omega) t ht x.2.1 (by omega)
  have hnx:=K9 (k+37) (by omega) t ht x.2.1 (by omega)
  have hvi:=adD (w:=w) (W:=c.1) hd (by omega)
  rcases (show x.1=0∨x.1=1∨x.1=2∨x.1=3∨x.1=4∨x.1=5∨x.1=6∨x.1=7∨x.1=8∨x.1=9∨x.1=10∨x.1=11∨x.1=12∨x.1=13∨x.1=14∨x.1=15 by omega) with hp | hp | hp | hp | hp | hp | hp | hp | hp | hp | hp | hp | hp | hp | hp | hp
  ·have hW:a8 c t m w x d=DL c t m w x:=by unfold a8;rw [hmay];simp [hp]
   rw [hW]
   rw [rI hp,cond_true]
   unfold DL
   rw [hcg]
   simp only [cond_true,cond_false,ae,lj,Prod.eta,b6]
   generalize da c m x.2.2.1=r
   cases ho:b9 r.2 with
   | false=>simp [ho,hp]
   | true=>
    by_cases h9:r.2.2.2.2.2.2.2=1
    ·simp [ho,h9,hst,ae,Dz,dU,N2]
    ·have q9:(r.2.2.2.2.2.2.2 !=1)=true:=by simp [h9]
     simp [ho,h9,q9,toW,dU]
  ·have hW:a8 c t m w x d=nw c m w x:=by unfold a8;rw [hmay];simp [hp]
   rw [hW]
   rw [bG (show x.1≠0 by omega),cond_false,rI hp,cond_true]
   rw [hadd 1 1 (by decide) (by decide),ae,b6,ae]
   rfl
  ·have hW:a8 c t m w x d=lS c m w x d:=by unfold a8;rw [hmay];simp [hp]
   rw [hW]
   rw [bG (show x.1≠0 by omega),cond_false,bG (show x.1≠1 by omega),cond_false,rI hp,cond_true]
   rw [hvi,ae]
   unfold lS
   rw [hcg]
   simp only [cond_true,cond_false,ae,lj,Prod.eta,b6,rI hp]
   generalize da c m x.2.2.1=r
   cases ho:b9 r.2 with
   | false=>simp [ho,hp]
   | true=>
    by_cases h9:r.2.2.2.2.2.2.2=1
    ·simp [ho,h9]
    ·have q9:=bG h9
     by_cases h8:0≤Kw d w c.1
     ·simp [ho,h9,q9,hp,h8,gk]
     ·by_cases h7:x.2.2.2.1≤0
      ·simp [ho,h9,q9,hp,h8,h7,gk]
      ·rw [fB (z:=x.2.2.2.1 - 1) (by omega)]
       simp [ho,h9,q9,hp,h8,h7,gk]
  ·have hW:a8 c t m w x d=lS c m w x d:=by unfold a8;rw [hmay];simp [hp]
   rw [hW]
   rw [bG (show x.1≠0 by omega),cond_false,bG (show x.1≠1 by omega),cond_false,bG (show x.1≠2 by omega),cond_false,rI hp,cond_true]
   rw [hvi,ae]
   unfold lS
   rw [hcg]
   simp only [cond_true,cond_false,ae,lj,Prod.eta,b6,bG (show x.1≠2 by omega)]
   generalize da c m x.2.2.1=r
   cases ho:b9 r.2 with
   | false=>simp [ho,hp]
   | true=>
    by_cases h9:r.2.2.2.2.2.2.2=1
    ·simp [ho,h9]
    ·have q9:=bG h9
     by_cases h7:x.2.2.2.1≤0
     ·simp [ho,h9,q9,hp,h7,gk]
     ·rw [fB (z:=x.2.2.2.1 - 1) (by omega)]
      simp [ho,h9,q9,hp,h7,gk]
  ·have hW:a8 c t m w x d=gH t m w x:=by unfold a8;rw [hmay];simp [hp]
   rw [hW]
   rw [bG (show x.1≠0 by omega),cond_false,bG (show x.1≠1 by omega),cond_false,bG (show x.1≠2 by omega),cond_false,bG (show x.1≠3 by omega),cond_false,rI hp,cond_true]
   rw [hadd 1 _ (by decide) (by decide),ae,b6,ae,hst,ae,ae,Dz,cond_true,cond_true,mj]
   by_cases h9:ai m 1=1
   ·simp [gH,h9,rD,N2]
   ·simp [gH,h9,rD,N2,dU]
  ·have hW:a8 c t m w x d=mK c m x:=by unfold a8;rw [hmay];simp [hp]
   rw [hW]
   rw [bG (show x.1≠0 by omega),cond_false,bG (show x.1≠1 by omega),cond_false,bG (show x.1≠2 by omega),cond_false,bG (show x.1≠3 by omega),cond_false,bG (show x.1≠4 by omega),cond_false,rI hp,cond_true]
   unfold mK
   rw [hcg]
   simp only [cond_true,cond_false,ae,lj,Prod.eta,b6]
  ·have hW:a8 c t m w x d=kr m x:=by unfold a8;rw [hmay];simp [hp]
   rw [hW]
   rw [bG (show x.1≠0 by omega),cond_false,bG (show x.1≠1 by omega),cond_false,bG (show x.1≠2 by omega),cond_false,bG (show x.1≠3 by omega),cond_false,bG (show x.1≠4 by omega),cond_false,bG (show x.1≠5 by omega),cond_false,rI hp,cond_true]
   rw [hadd 1 _ (by decide) (by decide),ae]
   rfl
  ·have hW:a8 c t m w x d=bK c m x:=by unfold a8;rw [hmay];simp [hp]
   rw [hW]
   rw [bG (show x.1≠0 by omega),cond_false,bG (show x.1≠1 by omega),cond_false,bG (show x.1≠2 by omega),cond_false,bG (show x.1≠3 by omega),cond_false,bG (show x.1≠4 by omega),cond_false,bG (show x.1≠5 by omega),cond_false,bG (show x.1≠6 by omega),cond_false,rI hp,cond_true]
   have hM:IntKind.i64.wrap (2+IntKind.i64.wrap (2*c.1))=2+2*c.1:=by rw [fB (z:=2*c.1) (by omega),fB (by omega)]
   rw [hM]
   by_cases h1:x.2.2.2.2<0
   ·rw [ltT h1,cond_true]
    simp only [bK,if_pos (show x.2.2.2.2<0∨2+2*c.1≤x.2.2.2.2 from .inl h1),Bc]
   ·rw [ltF (by omega),cond_false]
    by_cases h2:2+2*c.1≤x.2.2.2.2
    ·rw [leT h2,cond_true]
     simp only [bK,if_pos (show x.2.2.2.2<0∨2+2*c.1≤x.2.2.2.2 from .inr h2),Bc]
    ·rw [leF (by omega),cond_false,fB (z:=x.2.2.2.2+1) (by omega)]
     have hn:¬ (x.2.2.2.2<0∨2+2*c.1≤x.2.2.2.2):=by omega
     by_cases e0:x.2.2.2.2=0
     ·rw [rI e0,cond_true,dl,ae]
      by_cases h5:x.2.2.2.2+1=2+2*c.1
      ·rw [rI h5,cond_true]
       simp only [bK,if_neg hn,if_pos e0,Bool.false_eq_true,if_false,if_pos h5,Bc]
      ·rw [bG h5,cond_false]
       simp only [bK,if_neg hn,if_pos e0,Bool.false_eq_true,if_false,if_neg h5,Bc,hp]
     ·rw [bG e0,cond_false]
      by_cases e1:x.2.2.2.2=1
      ·rw [rI e1,cond_true,dl,ae,Cz]
       by_cases h9:ai m 5=x.2.2.1.2.2.2.1
       ·rw [decide_eq_true h9,Bool.not_true,cond_false]
        skip
        by_cases h5:x.2.2.2.2+1=2+2*c.1
        ·rw [rI h5,cond_true]
         simp only [bK,if_neg hn,if_neg e0,if_pos e1,h9,ne_eq,not_true_eq_false,decide_false,Bool.false_eq_true,if_false,if_pos h5,Bc]
        ·rw [bG h5,cond_false]
         simp only [bK,if_neg hn,if_neg e0,if_pos e1,h9,ne_eq,not_true_eq_false,decide_false,Bool.false_eq_true,if_false,if_neg h5,Bc,hp]
       ·rw [decide_eq_false h9,Bool.not_false,cond_true]
        simp only [bK,if_neg hn,if_neg e0,if_pos e1,h9,ne_eq,not_false_eq_true,decide_true,if_true,toW,dU]
      ·rw [bG e1,cond_false,Int.tmod_eq_emod_of_nonneg (by omega),fB (z:=x.2.2.2.2 - 2) (by omega),Int.tdiv_eq_ediv_of_nonneg (by omega),fB (z:=(x.2.2.2.2 - 2)/2) (by omega)]
       by_cases e2:x.2.2.2.2%2=0
       ·rw [rI e2,cond_true,MG,ae,dl,ae]
        skip
        by_cases h5:x.2.2.2.2+1=2+2*c.1
        ·rw [rI h5,cond_true]
         simp only [bK,if_neg hn,if_neg e0,if_neg e1,if_pos e2,Bool.false_eq_true,if_false,if_pos h5,Bc]
        ·rw [bG h5,cond_false]
         simp only [bK,if_neg hn,if_neg e0,if_neg e1,if_pos e2,Bool.false_eq_true,if_false,if_neg h5,Bc,hp]
       ·rw [bG e2,cond_false,JN,ae,dl,ae,FO,ae]
        by_cases h9:0<mI (ai m (uD c ((x.2.2.2.2 - 2)/2))) x.2.2.1.2.2.2.1
        ·rw [ltT h9,cond_true]
         simp only [bK,if_neg hn,if_neg e0,if_neg e1,if_neg e2,h9,decide_true,if_true,toW,dU]
        ·rw [ltF (by omega),cond_false]
         skip
         by_cases h5:x.2.2.2.2+1=2+2*c.1
         ·rw [rI h5,cond_true]
          simp only [bK,if_neg hn,if_neg e0,if_neg e1,if_neg e2,h9,decide_false,Bool.false_eq_true,if_false,if_pos h5,Bc]
         ·rw [bG h5,cond_false]
          simp only [bK,if_neg hn,if_neg e0,if_neg e1,if_neg e2,h9,decide_false,Bool.false_eq_true,if_false,if_neg h5,Bc,hp]
  ·have hW:a8 c t m w x d=bO c m x:=by unfold a8;rw [hmay];simp [hp]
   rw [hW]
   rw [bG (show x.1≠0 by omega),cond_false,bG (show x.1≠1 by omega),cond_false,bG (show x.1≠2 by omega),cond_false,bG (show x.1≠3 by omega),cond_false,bG (show x.1≠4 by omega),cond_false,bG (show x.1≠5 by omega),cond_false,bG (show x.1≠6 by omega),cond_false,bG (show x.1≠7 by omega),cond_false,rI hp,cond_true]
   unfold bO
   rw [hcg]
   simp only [cond_true,cond_false,ae,lj,Prod.eta,b6]
   generalize da c m x.2.2.1=r
   cases ho:b9 r.2 <;> simp [ho,hp,toW,dU]
  ·have hW:a8 c t m w x d=De t m w x:=by unfold a8;rw [hmay];simp [hp]
   rw [hW]
   rw [bG (show x.1≠0 by omega),cond_false,bG (show x.1≠1 by omega),cond_false,bG (show x.1≠2 by omega),cond_false,bG (show x.1≠3 by omega),cond_false,bG (show x.1≠4 by omega),cond_false,bG (show x.1≠5 by omega),cond_false,bG (show x.1≠6 by omega),cond_false,bG (show x.1≠7 by omega),cond_false,bG (show x.1≠8 by omega),cond_false,rI hp,cond_true]
   rw [hnx,ae,mj,mj,mj,hdo,ae,b6,ae]
   unfold De
   by_cases h1:(wH t x.2.1).1=1
   ·simp [h1,hp]
   ·by_cases h2:(wH t x.2.1).1=2
    ·simp [h2]
    ·by_cases h3:(wH t x.2.1).1=3
     ·simp [h3]
     ·simp [h1,h2,h3,gk]
  ·have hW:a8 c t m w x d=mu t m w x:=by unfold a8;rw [hmay];simp [hp]
   rw [hW]
   rw [bG (show x.1≠0 by omega),cond_false,bG (show x.1≠1 by omega),cond_false,bG (show x.1≠2 by omega),cond_false,bG (show x.1≠3 by omega),cond_false,bG (show x.1≠4 by omega),cond_false,bG (show x.1≠5 by omega),cond_false,bG (show x.1≠6 by omega),cond_false,bG (show x.1≠7 by omega),cond_false,bG (show x.1≠8 by omega),cond_false,bG (show x.1≠9 by omega),cond_false,rI hp,cond_true]
   rw [hnx,ae,Cz,hadd 0 _ (by decide) (by decide),ae,Dz,cond_true,hdo,ae,b6,ae]
   unfold mu
   by_cases h2:(wH t x.2.1).1=2
   ·simp [h2]
   ·simp [h2,toW,dU]
  ·have hW:a8 c t m w x d=mD c m w x:=by unfold a8;rw [hmay];simp [hp]
   rw [hW]
   rw [bG (show x.1≠0 by omega),cond_false,bG (show x.1≠1 by omega),cond_false,bG (show x.1≠2 by omega),cond_false,bG (show x.1≠3 by omega),cond_false,bG (show x.1≠4 by omega),cond_false,bG (show x.1≠5 by omega),cond_false,bG (show x.1≠6 by omega),cond_false,bG (show x.1≠7 by omega),cond_false,bG (show x.1≠8 by omega),cond_false,bG (show x.1≠9 by omega),cond_false,bG (show x.1≠10 by omega),cond_false,rI hp,cond_true]
   unfold mD
   rw [hcg]
   simp only [cond_true,cond_false,ae,lj,Prod.eta,b6]
   generalize da c m x.2.2.1=r
   cases ho:b9 r.2 with
   | false=>simp [ho,hp]
   | true=>
    by_cases h9:r.2.2.2.2.2.2.2=2
    ·simp [ho,h9,gk]
    ·have q9:=bG h9
     simp [ho,h9,q9,toW,dU]
  ·have hW:a8 c t m w x d=mr c t m w x:=by unfold a8;rw [hmay];simp [hp]
   rw [hW]
   rw [bG (show x.1≠0 by omega),cond_false,bG (show x.1≠1 by omega),cond_false,bG (show x.1≠2 by omega),cond_false,bG (show x.1≠3 by omega),cond_false,bG (show x.1≠4 by omega),cond_false,bG (show x.1≠5 by omega),cond_false,bG (show x.1≠6 by omega),cond_false,bG (show x.1≠7 by omega),cond_false,bG (show x.1≠8 by omega),cond_false,bG (show x.1≠9 by omega),cond_false,bG (show x.1≠10 by omega),cond_false,bG (show x.1≠11 by omega),cond_false,rI hp,cond_true]
   unfold mr
   rw [hcg]
   simp only [cond_true,cond_false,ae,lj,Prod.eta,b6]
   generalize da c m x.2.2.1=r
   cases ho:b9 r.2 with
   | false=>simp [ho,hp]
   | true=>
    by_cases h9:r.2.2.2.2.2.2.2=2
    ·simp [ho,h9,hst,ae,Dz,dU,N2]
    ·have q9:=bG h9
     simp [ho,h9,q9,toW,dU]
  ·have hW:a8 c t m w x d=CB m w x:=by unfold a8;rw [hmay];simp [hp]
   rw [hW]
   rw [bG (show x.1≠0 by omega),cond_false,bG (show x.1≠1 by omega),cond_false,bG (show x.1≠2 by omega),cond_false,bG (show x.1≠3 by omega),cond_false,bG (show x.1≠4 by omega),cond_false,bG (show x.1≠5 by omega),cond_false,bG (show x.1≠6 by omega),cond_false,bG (show x.1≠7 by omega),cond_false,bG (show x.1≠8 by omega),cond_false,bG (show x.1≠9 by omega),cond_false,bG (show x.1≠10 by omega),cond_false,bG (show x.1≠11 by omega),cond_false,bG (show x.1≠12 by omega),cond_false,rI hp,cond_true]
   rw [dl,ae,mj,b6,ae]
   by_cases h9:ai m 1=0
   ·simp [CB,h9,gk]
   ·simp [CB,h9,toW,dU]
  ·have hW:a8 c t m w x d=mN c m x:=by unfold a8;rw [hmay];simp [hp]
   rw [hW]
   rw [bG (show x.1≠0 by omega),cond_false,bG (show x.1≠1 by omega),cond_false,bG (show x.1≠2 by omega),cond_false,bG (show x.1≠3 by omega),cond_false,bG (show x.1≠4 by omega),cond_false,bG (show x.1≠5 by omega),cond_false,bG (show x.1≠6 by omega),cond_false,bG (show x.1≠7 by omega),cond_false,bG (show x.1≠8 by omega),cond_false,bG (show x.1≠9 by omega),cond_false,bG (show x.1≠10 by omega),cond_false,bG (show x.1≠11 by omega),cond_false,bG (show x.1≠12 by omega),cond_false,bG (show x.1≠13 by omega),cond_false,rI hp,cond_true]
   unfold mN
   rw [hcg]
   simp only [cond_true,cond_false,ae,lj,Prod.eta,b6]
   generalize da c m x.2.2.1=r
   cases ho:b9 r.2 <;> simp [ho,hp,toW,dU]
  ·have hW:a8 c t m w x d=mw t m w x:=by unfold a8;rw [hmay];simp [hp]
   rw [hW]
   rw [bG (show x.1≠0 by omega),cond_false,bG (show x.1≠1 by omega),cond_false,bG (show x.1≠2 by omega),cond_false,bG (show x.1≠3 by omega),cond_false,bG (show x.1≠4 by omega),cond_false,bG (show x.1≠5 by omega),cond_false,bG (show x.1≠6 by omega),cond_false,bG (show x.1≠7 by omega),cond_false,bG (show x.1≠8 by omega),cond_false,bG (show x.1≠9 by omega),cond_false,bG (show x.1≠10 by omega),cond_false,bG (show x.1≠11 by omega),cond_false,bG (show x.1≠12 by omega),cond_false,bG (show x.1≠13 by omega),cond_false,bG (show x.1≠14 by omega),cond_false,rI hp,cond_true]
   simp only [hnx,ae,Cz,hadd 0 _ (by decide) (by decide),Dz,ZH,cond_true,hdo,b6,mj]
   unfold mw
   by_cases h3:(wH t x.2.1).1=3
   ·by_cases h1:ai m 0=1
    ·by_cases h2:doB t x.2.1=[]
     ·simp [h3,h1,h2,rD]
     ·have h4:¬ (((doB t x.2.1).length:Int)=0):=by simp [h2]
      simp [h3,h1,h2,h4,rD,dU]
    ·by_cases h2:doB t x.2.1=[]
     ·simp [h3,h1,h2,rD]
     ·have h4:¬ (((doB t x.2.1).length:Int)=0):=by simp [h2]
      simp [h3,h1,h2,h4,rD,dU]
   ·simp [h3,toW,dU]
end
end Go.Ab
set_option linter.unusedVariables false
namespace Go.Ab
theorem eV {c:CF} {t:Tyt} {m:List Int} {w:Int} {x:WB} {d:Int} {P:WR→Prop} (hs:cZ c t m w x=false→P (m,x,[])) (p0:cZ c t m w x=true→x.1=0→P (DL c t m w x)) (p1:cZ c t m w x=true→x.1=1→P (nw c m w x)) (p2:cZ c t m w x=true→x.1=2∨x.1=3→P (lS c m w x d)) (p4:cZ c t m w x=true→x.1=4→P (gH t m w x)) (p5:cZ c t m w x=true→x.1=5→P (mK c m x)) (p6:cZ c t m w x=true→x.1=6→P (kr m x)) (p7:cZ c t m w x=true→x.1=7→P (bK c m x)) (p8:cZ c t m w x=true→x.1=8→P (bO c m x)) (p9:cZ c t m w x=true→x.1=9→P (De t m w x)) (p10:cZ c t m w x=true→x.1=10→P (mu t m w x)) (p11:cZ c t m w x=true→x.1=11→P (mD c m w x)) (p12:cZ c t m w x=true→x.1=12→P (mr c t m w x)) (p13:cZ c t m w x=true→x.1=13→P (CB m w x)) (p14:cZ c t m w x=true→x.1=14→P (mN c m x)) (p15:cZ c t m w x=true→x.1=15→P (mw t m w x)):P (a8 c t m w x d):=by
 unfold a8
 by_cases hm:cZ c t m w x=false
 ·rw [if_pos hm];exact hs hm
 rw [if_neg hm]
 have hm':cZ c t m w x=true:=by simpa using hm
 have hb:0≤x.1∧x.1<16:=by
  unfold cZ at hm'
  simp only [Bool.and_eq_true,decide_eq_true_eq] at hm'
  exact hm'.1.2.2.2
 by_cases e0:x.1=0
 ·rw [if_pos e0];exact p0 hm' e0
 rw [if_neg e0]
 by_cases e1:x.1=1
 ·rw [if_pos e1];exact p1 hm' e1
 rw [if_neg e1]
 by_cases e2:x.1=2∨x.1=3
 ·rw [if_pos e2];exact p2 hm' e2
 rw [if_neg e2]
 by_cases e4:x.1=4
 ·rw [if_pos e4];exact p4 hm' e4
 rw [if_neg e4]
 by_cases e5:x.1=5
 ·rw [if_pos e5];exact p5 hm' e5
 rw [if_neg e5]
 by_cases e6:x.1=6
 ·rw [if_pos e6];exact p6 hm' e6
 rw [if_neg e6]
 by_cases e7:x.1=7
 ·rw [if_pos e7];exact p7 hm' e7
 rw [if_neg e7]
 by_cases e8:x.1=8
 ·rw [if_pos e8];exact p8 hm' e8
 rw [if_neg e8]
 by_cases e9:x.1=9
 ·rw [if_pos e9];exact p9 hm' e9
 rw [if_neg e9]
 by_cases e10:x.1=10
 ·rw [if_pos e10];exact p10 hm' e10
 rw [if_neg e10]
 by_cases e11:x.1=11
 ·rw [if_pos e11];exact p11 hm' e11
 rw [if_neg e11]
 by_cases e12:x.1=12
 ·rw [if_pos e12];exact p12 hm' e12
 rw [if_neg e12]
 by_cases e13:x.1=13
 ·rw [if_pos e13];exact p13 hm' e13
 rw [if_neg e13]
 by_cases e14:x.1=14
 ·rw [if_pos e14];exact p14 hm' e14
 rw [if_neg e14]
 exact p15 hm' (by omega)
end Go.Ab
set_option linter.unusedVariables false
namespace Go.Ab
theorem QD (c:CF) (m:List Int) (f:FR):One m (nc c m f).1:=by
 unfold nc
 repeat' split
 all_goals first | exact One.same m | exact One.store m _ _ | exact One.cas m _ _ _
theorem WX (c:CF) (m:List Int) (f:FR):One m (D6 c m f).1:=by
 unfold D6
 repeat' split
 all_goals first | exact One.same m | exact One.store m _ _ | exact One.cas m _ _ _
theorem LV (c:CF) (m:List Int) (f:FR):One m (gO c m f).1:=by
 unfold gO
 dsimp only
 repeat' split
 all_goals first | exact One.same m | exact One.store m _ _ | exact One.cas m _ _ _
theorem Nq (c:CF) (m:List Int) (f:FR):One m (da c m f).1:=by
 unfold da Aa
 repeat' split
 all_goals first | exact One.same m | exact QD c m f | exact WX c m f | exact LV c m f | exact GZ c m f
section
variable {c:CF} {t:Tyt} {m:List Int} {w:Int} {x:WB} {d:Int}
theorem GN:One m (a8 c t m w x d).1:=by
 refine eV (P:=fun r=>One m r.1) (fun _=>One.same m) ?_ ?_ ?_ ?_ ?_ ?_ ?_ ?_ ?_ ?_ ?_ ?_ ?_ ?_ ?_
 all_goals intro _ _
 all_goals dsimp only [DL,nw,lS,gH,mK,kr,bK,bO,De,mu,mD,mr,CB,mN,mw]
 all_goals repeat' split
 all_goals (try dsimp only)
 all_goals first | exact One.same m | exact One.store m _ _ | exact Nq c m _
theorem Qg:(a8 c t m w x d).2.2.length≤2:=by
 refine eV (P:=fun r=>r.2.2.length≤2) (fun _=>Nat.zero_le _) ?_ ?_ ?_ ?_ ?_ ?_ ?_ ?_ ?_ ?_ ?_ ?_ ?_ ?_ ?_
 all_goals intro _ _
 all_goals dsimp only [DL,nw,lS,gH,mK,kr,bK,bO,De,mu,mD,mr,CB,mN,mw]
 all_goals repeat' split
 all_goals simp
theorem Kq:(a8 c t m w x d).2.1.2.1.length≤x.2.1.length+1:=by
 have h1:=fun q=>IB t x.2.1 q
 have h2:=T2 t x.2.1
 refine eV (P:=fun r=>r.2.1.2.1.length≤x.2.1.length+1) (fun _=>Nat.le_succ _) ?_ ?_ ?_ ?_ ?_ ?_ ?_ ?_ ?_ ?_ ?_ ?_ ?_ ?_ ?_
 all_goals intro _ _
 all_goals dsimp only [DL,nw,lS,gH,mK,kr,bK,bO,De,mu,mD,mr,CB,mN,mw,toW,gk]
 all_goals repeat' split
 all_goals first | exact Nat.le_succ _ | exact h1 _ | (dsimp only;omega) | simp
theorem Fz {s:Tye} (h:db t s=true) (q:Int):db t (oz t s q)=true:=by
 unfold oz
 split
 ·rename_i g
  have:=kZ.1 h
  exact gr.2 ⟨this.1,this.2,acW this.1 g.2.1 g.2.2⟩
 ·exact h
theorem YE {s:Tye} (h:db t s=true):db t (doB t s)=true:=by
 rcases m9 s with rfl | ⟨r,y,rfl⟩
 ·exact h
 ·exact (Ol h).1
theorem fb (h:cZ c t m w x=true):eu c=true∧(m.length:Int)=cD c∧rG t=true∧(0≤w∧w<c.1∧0≤x.1∧x.1<16)∧db t x.2.1=true:=by
 unfold cZ at h
 simp only [Bool.and_eq_true,decide_eq_true_eq] at h
 exact ⟨h.1.1.1.1,h.1.1.1.2,h.1.1.2,h.1.2,h.2⟩
theorem NH (h1:eu c=true) (h2:(m.length:Int)=cD c) (h3:rG t=true) (h4:0≤w∧w<c.1∧0≤x.1∧x.1<16) (h5:db t x.2.1=true):cZ c t m w x=true:=by
 unfold cZ
 rw [h1,h3,h5,decide_eq_true h2,decide_eq_true h4]
 rfl
theorem RG (h:cZ c t m w x=true):cZ c t (a8 c t m w x d).1 w (a8 c t m w x d).2.1=true:=by
 obtain ⟨h1,h2,h3,h4,h5⟩:=fb h
 have hl:=(GN (c:=c) (t:=t) (m:=m) (w:=w) (x:=x) (d:=d)).len
 have key:0≤(a8 c t m w x d).2.1.1∧(a8 c t m w x d).2.1.1<16∧db t (a8 c t m w x d).2.1.2.1=true:=by
  have g1:=Fz h5
  have g2:=YE h5
  have g3:db t []=true:=kZ.2 ⟨h3,fun y hy=>absurd hy (by simp)⟩
  refine eV (P:=fun r=>0≤r.2.1.1∧r.2.1.1<16∧db t r.2.1.2.1=true) (fun _=>⟨h4.2.2.1,h4.2.2.2,h5⟩) ?_ ?_ ?_ ?_ ?_ ?_ ?_ ?_ ?_ ?_ ?_ ?_ ?_ ?_ ?_
  all_goals intro _ _
  all_goals dsimp only [DL,nw,lS,gH,mK,kr,bK,bO,De,mu,mD,mr,CB,mN,mw,toW,gk]
  all_goals repeat' split
  all_goals refine ⟨?_,?_,?_⟩
  all_goals (try dsimp only)
  all_goals first | omega | exact h5 | exact g1 _ | exact g2 | exact g3
 exact NH h1 (by rw [hl];exact h2) h3 ⟨h4.1,h4.2.1,key.1,key.2.1⟩ key.2.2
end
end Go.Ab
set_option linter.unusedVariables false
namespace Go.Ab
section
variable {c:CF} {m:List Int} {f:FR} {j:Int} (hj:j=0∨j=1∨j=3)
include hj
theorem ki {w x:Int} (hx:0≤x):onW c w x≠j:=by
 unfold onW
 split
 ·rename_i h
  have hm:=aQ h.1
  have:=cX h.1 h.2.1 (by omega)
  omega
 ·omega
theorem np {w x:Int} (h0:0≤x) (h1:x≤18446744073709551615):oC c w x≠j:=by
 unfold oC onW
 split
 ·rename_i h
  have hm:=aQ h.1
  have:=cX h.1 h.2.1 (by omega)
  have:=pC h0 h1 (show 1≤c.2.1 by omega) (by omega)
  omega
 ·omega
theorem wx (x:Int):pQ c x≠j:=by
 unfold pQ
 split
 ·rename_i h
  have:=aQ h
  have:=Int.emod_nonneg x (show c.2.2.1≠0 by omega)
  omega
 ·omega
theorem rY (x:Int):H3 c x≠j:=by
 unfold H3
 split
 ·rename_i h
  have:=aQ h
  have:=Int.emod_nonneg x (show c.2.2.1≠0 by omega)
  omega
 ·omega
theorem nD (w:Int):bR c w≠j:=by
 unfold bR
 split
 ·rename_i h
  have hm:=aQ h.1
  have:=cX h.1 h.2.1 (by omega)
  omega
 ·omega
omit hj in
theorem ks {i v:Int} (h:i≠j):ai (aJ m i v) j=ai m j:=aH v h
omit hj in
theorem kc {i o v:Int} (h:i≠j):ai (nG m i o v).1 j=ai m j:=by
 unfold nG
 split
 ·exact ks h
 ·rfl
section
variable (hf:Wf f)
include hf
theorem MM:ai (nc c m f).1 j=ai m j:=by
 have w4:=hf.2.1
 have _h:=hj
 unfold nc
 try dsimp only
 repeat' split
 all_goals first | rfl | exact ks (wx hj _) | exact ks (rY hj _) | exact ks (nD hj _) | exact ks (ki hj (by decide)) | exact kc (ki hj (by decide)) | exact ks (np hj w4.1 w4.2) | exact kc (show (2:Int)≠j by omega) | exact kc (show (4:Int)≠j by omega) | exact kc (show (5:Int)≠j by omega) | exact ks (show (2:Int)≠j by omega)
theorem Oc:ai (D6 c m f).1 j=ai m j:=by
 have w4:=hf.2.1
 have _h:=hj
 unfold D6
 try dsimp only
 repeat' split
 all_goals first | rfl | exact ks (wx hj _) | exact ks (rY hj _) | exact ks (nD hj _) | exact ks (ki hj (by decide)) | exact kc (ki hj (by decide)) | exact ks (np hj w4.1 w4.2) | exact kc (show (2:Int)≠j by omega) | exact kc (show (4:Int)≠j by omega) | exact kc (show (5:Int)≠j by omega) | exact ks (show (2:Int)≠j by omega)
theorem Jw:ai (gO c m f).1 j=ai m j:=by
 have w4:=hf.2.1
 have _h:=hj
 unfold gO
 try dsimp only
 repeat' split
 all_goals first | rfl | exact ks (wx hj _) | exact ks (rY hj _) | exact ks (nD hj _) | exact ks (ki hj (by decide)) | exact kc (ki hj (by decide)) | exact ks (np hj w4.1 w4.2) | exact kc (show (2:Int)≠j by omega) | exact kc (show (4:Int)≠j by omega) | exact kc (show (5:Int)≠j by omega) | exact ks (show (2:Int)≠j by omega)
theorem Hc:ai (oP c m f).1 j=ai m j:=by
 have w4:=hf.2.1
 have _h:=hj
 unfold oP
 try dsimp only
 repeat' split
 all_goals first | rfl | exact ks (wx hj _) | exact ks (rY hj _) | exact ks (nD hj _) | exact ks (ki hj (by decide)) | exact kc (ki hj (by decide)) | exact ks (np hj w4.1 w4.2) | exact kc (show (2:Int)≠j by omega) | exact kc (show (4:Int)≠j by omega) | exact kc (show (5:Int)≠j by omega) | exact ks (show (2:Int)≠j by omega)
theorem Ie:ai (Ep c m f).1 j=ai m j:=by
 have w4:=hf.2.1
 have _h:=hj
 unfold Ep
 try dsimp only
 repeat' split
 all_goals first | rfl | exact ks (wx hj _) | exact ks (rY hj _) | exact ks (nD hj _) | exact ks (ki hj (by decide)) | exact kc (ki hj (by decide)) | exact ks (np hj w4.1 w4.2) | exact kc (show (2:Int)≠j by omega) | exact kc (show (4:Int)≠j by omega) | exact kc (show (5:Int)≠j by omega) | exact ks (show (2:Int)≠j by omega)
theorem CS:ai (d8 c m f).1 j=ai m j:=by
 have w4:=hf.2.1
 have _h:=hj
 unfold d8
 try dsimp only
 repeat' split
 all_goals first | rfl | exact ks (wx hj _) | exact ks (rY hj _) | exact ks (nD hj _) | exact ks (ki hj (by decide)) | exact kc (ki hj (by decide)) | exact ks (np hj w4.1 w4.2) | exact kc (show (2:Int)≠j by omega) | exact kc (show (4:Int)≠j by omega) | exact kc (show (5:Int)≠j by omega) | exact ks (show (2:Int)≠j by omega)
theorem CK:ai (dc c m f).1 j=ai m j:=by
 have w4:=hf.2.1
 have _h:=hj
 unfold dc wV
 try dsimp only
 repeat' split
 all_goals first | rfl | exact ks (wx hj _) | exact ks (rY hj _) | exact ks (nD hj _) | exact ks (ki hj (by decide)) | exact kc (ki hj (by decide)) | exact ks (np hj w4.1 w4.2) | exact kc (show (2:Int)≠j by omega) | exact kc (show (4:Int)≠j by omega) | exact kc (show (5:Int)≠j by omega) | exact ks (show (2:Int)≠j by omega)
theorem Jo:ai (da c m f).1 j=ai m j:=by
 unfold da Aa dH oU w8
 repeat' split
 all_goals first | with_reducible rfl | with_reducible exact MM hj hf | with_reducible exact Oc hj hf | with_reducible exact Jw hj hf | with_reducible exact Hc hj hf | with_reducible exact Ie hj hf | with_reducible exact CS hj hf | with_reducible exact CK hj hf
end
end
def JY (a b:Bool) (s:Int):Int:=if a=b then s else if a=true then IntKind.u64.wrap (s+1) else IntKind.u64.wrap (s - 1)
theorem QO (s:Int):iM s rD=IntKind.u64.wrap (s - 1):=by
 rw [mP]
 unfold iM rD
 omega
theorem afl (s:Int):iM s 1=IntKind.u64.wrap (s+1):=by
 rw [mP]
 rfl
theorem ow {x:WB} (h:x.1<2∨6<x.1):ej x=false:=decide_eq_false (by omega)
theorem ot {x:WB} (h:2≤x.1∧x.1≤6):ej x=true:=decide_eq_true h
section
variable {c:CF} {t:Tyt} {m:List Int} {w:Int} {x:WB} {d:Int}
theorem L5 (hm:Wm m) (hl:2≤m.length) (hf:Wf x.2.2.1):ai (a8 c t m w x d).1 1=JY (ej (a8 c t m w x d).2.1) (ej x) (ai m 1):=by
 have hk:=Jo (c:=c) (m:=m) (f:=x.2.2.1) (j:=1) (by decide) hf
 have hs:∀ v,ai (aJ m 1 v) 1=v:=fun v=>fM v (by decide) (by omega)
 have h0:∀ v,ai (aJ m 0 v) 1=ai m 1:=fun v=>ks (by decide)
 have eq:∀ {y:WB} {s:Int},ej y=ej x→s=JY (ej y) (ej x) s:=fun h=>by unfold JY;rw [if_pos h]
 have low:∀ {y:WB},y.1<2∨6<y.1→(x.1<2∨6<x.1)→ej y=ej x:=fun h g=>by rw [ow h,ow g]
 have hig:∀ {y:WB},2≤y.1∧y.1≤6→(2≤x.1∧x.1≤6)→ej y=ej x:=fun h g=>by rw [ot h,ot g]
 have dn:∀ {y:WB},y.1<2∨6<y.1→(2≤x.1∧x.1≤6)→iM (ai m 1) rD=JY (ej y) (ej x) (ai m 1):=fun h g=>by rw [ow h,ot g,QO];rfl
 refine eV (P:=fun r=>ai r.1 1=JY (ej r.2.1) (ej x) (ai m 1)) (fun _=>eq rfl) ?_ ?_ ?_ ?_ ?_ ?_ ?_ ?_ ?_ ?_ ?_ ?_ ?_ ?_ ?_
 all_goals intro _ hp
 ·unfold DL
  dsimp only
  repeat' split
  all_goals (dsimp only;rw [hk];exact eq (low (by first | omega | (dsimp only [toW];omega)) (by omega)))
 ·unfold nw
  dsimp only
  rw [hs,ow (x:=x) (by omega),ot (by dsimp only;omega),afl]
  rfl
 ·unfold lS
  dsimp only
  repeat' split
  all_goals (dsimp only;rw [hk];exact eq (hig (by first | omega | (dsimp only [gk];omega)) (by omega)))
 ·unfold gH
  dsimp only
  rw [hs]
  refine dn ?_ (by omega)
  dsimp only
  split <;> omega
 ·unfold mK
  dsimp only
  rw [hk]
  exact eq (hig (by dsimp only;omega) (by omega))
 ·unfold kr
  dsimp only
  rw [hs]
  exact dn (by dsimp only;omega) (by omega)
 ·unfold bK
  dsimp only
  repeat' split
  all_goals (dsimp only;exact eq (low (by first | omega | (dsimp only [toW];omega)) (by omega)))
 ·unfold bO
  dsimp only
  split
  all_goals (dsimp only;rw [hk];exact eq (low (by first | omega | (dsimp only [toW];omega)) (by omega)))
 ·unfold De
  dsimp only
  repeat' split
  all_goals (dsimp only;exact eq (low (by first | omega | (dsimp only [gk];omega)) (by omega)))
 ·unfold mu
  dsimp only
  split
  ·exact eq (low (by dsimp only [toW];omega) (by omega))
  ·dsimp only
   rw [h0]
   exact eq (low (by dsimp only;omega) (by omega))
 ·unfold mD
  dsimp only
  repeat' split
  all_goals (dsimp only;rw [hk];exact eq (low (by first | omega | (dsimp only [toW,gk];omega)) (by omega)))
 ·unfold mr
  dsimp only
  repeat' split
  all_goals (dsimp only;rw [hk];exact eq (low (by first | omega | (dsimp only [toW];omega)) (by omega)))
 ·unfold CB
  split
  all_goals (dsimp only;exact eq (low (by first | omega | (dsimp only [toW,gk];omega)) (by omega)))
 ·unfold mN
  dsimp only
  split
  all_goals (dsimp only;rw [hk];exact eq (low (by first | omega | (dsimp only [toW];omega)) (by omega)))
 ·unfold mw
  dsimp only
  split
  ·exact eq (low (by dsimp only [toW];omega) (by omega))
  ·dsimp only
   rw [h0]
   refine eq (low ?_ (by omega))
   split <;> (dsimp only;omega)
end
end Go.Ab
set_option linter.unusedVariables false
namespace Go.Ab
theorem HA {c:CF} {m:List Int} {f:FR} (hm:Wm m) (hf:Wf f):Wm (dc c m f).1∧Wf (dc c m f).2∧(dc c m f).1.length=m.length:=by
 have hr:=cq hm 2
 obtain ⟨w3,w4,w5⟩:=hf
 have hk4:=ue w4.1
 have hk5:=ue w5.1
 have hc5:=KQ hk5.1 hk5.2
 unfold dc
 split
 ·exact ⟨hm,⟨w3,w4,w5⟩,rfl⟩
 ·split
  ·exact ⟨hm,⟨w3,hr,w5⟩,rfl⟩
  ·split
   ·split
    ·refine ⟨hm.set 2 ?_ ?_,?_,(by simp only [];exact iV)⟩
     ·split
      ·exact (oN _ _).1
      ·exact (oN _ _).1
     ·split
      ·exact (oN _ _).2
      ·exact (oN _ _).2
     ·have hl:=Lz (mkB f.2.2.2.2.1)
      simp only []
      by_cases hz:mkB f.2.2.2.2.1=0
      ·rw [if_pos hz]
       exact ⟨by simp [dR],by simp [dR],by simp [dR]⟩
      ·rw [if_neg hz]
       refine ⟨w3,w4,?_⟩
       simp only
       split
       ·split <;> omega
       ·omega
    ·exact ⟨hm,⟨w3,w4,w5⟩,rfl⟩
   ·split
    ·exact ⟨hm.set _ (by decide) (by decide),⟨w5,by simp [dR],by simp [dR]⟩,(by simp only [];exact iV)⟩
    ·refine ⟨hm.set _ (by decide) (by decide),?_,(by simp only [];exact iV)⟩
     split
     ·exact ⟨by simp [dR];omega,by simp [dR],by simp [dR]⟩
     ·exact ⟨w3,w4,by simp only;omega⟩
theorem XW {c:CF} {m:List Int} {f:FR} (hm:Wm m) (hf:Wf f):Wm (d8 c m f).1∧Wf (d8 c m f).2:=by
 have hr:=cq hm 2
 obtain ⟨w3,w4,w5⟩:=hf
 have hs:=XK (w:=f.2.2.1) w5.1 w5.2
 unfold d8
 dsimp only
 split
 ·exact ⟨hm,w3,w4,w5⟩
 ·split
  ·exact ⟨hm,w3,hr,w5⟩
  ·split
   ·split
    ·exact ⟨hm,w3,w4,hr⟩
    ·exact ⟨hm,by simp [dR,Wf]⟩
   ·split
    ·exact ⟨hm.cas _ _ hs.1 hs.2,w3,w4,w5⟩
    ·split
     ·exact ⟨hm,w3,w4,cq hm _⟩
     ·exact ⟨hm.set _ (by decide) (by decide),by simp [dR,Wf]⟩
theorem Z0 {c:CF} {m:List Int} {f:FR} (hm:Wm m) (hf:Wf f):Wm (oP c m f).1∧Wf (oP c m f).2:=by
 obtain ⟨w3,w4,w5⟩:=hf
 have ha:=fV f.2.2.2.2.1 1
 have hb:=fV (Dy c f.2.2.2.2.1) 1
 unfold oP
 dsimp only
 split
 ·exact ⟨hm,w3,w4,w5⟩
 ·split
  ·exact ⟨hm,w3,cq hm 5,w5⟩
  ·split
   ·split
    ·exact ⟨hm,w3,w4,cq hm _⟩
    ·split
     ·exact ⟨hm,w3,by simp [dR],by simp [dR]⟩
     ·exact ⟨hm,w3,w4,cq hm _⟩
   ·split
    ·exact ⟨hm.cas _ _ ha.1 ha.2,w3,w4,w5⟩
    ·split
     ·exact ⟨hm.set _ w3.1 w3.2,w3,w4,w5⟩
     ·exact ⟨hm.set _ hb.1 hb.2,w3,by simp [dR],by simp [dR]⟩
theorem aaE {c:CF} {m:List Int} {f:FR} (hm:Wm m) (hf:Wf f):Wm (Ep c m f).1∧Wf (Ep c m f).2:=by
 obtain ⟨w3,w4,w5⟩:=hf
 have ha:=fV f.2.2.2.2.1 1
 have hb:=fV (C7 c f.2.2.2.2.1) 1
 unfold Ep
 dsimp only
 split
 ·exact ⟨hm,w3,w4,w5⟩
 ·split
  ·exact ⟨hm,w3,cq hm 4,w5⟩
  ·split
   ·split
    ·exact ⟨hm,w3,w4,cq hm _⟩
    ·split
     ·exact ⟨hm,by simp [dR],by simp [dR],by simp [dR]⟩
     ·exact ⟨hm,w3,w4,cq hm _⟩
   ·split
    ·exact ⟨hm.cas _ _ ha.1 ha.2,w3,w4,w5⟩
    ·split
     ·exact ⟨hm,cq hm _,w4,w5⟩
     ·exact ⟨hm.set _ hb.1 hb.2,w3,by simp [dR],by simp [dR]⟩
theorem NP {c:CF} {m:List Int} {f:FR} (hm:Wm m) (hf:Wf f):Wm (dH c m f).1∧Wf (dH c m f).2:=by
 unfold dH oU w8
 repeat' split
 all_goals first | exact Z0 hm hf | exact aaE hm hf | exact XW hm hf | exact ⟨(HA hm hf).1,(HA hm hf).2.1⟩ | exact ⟨hm,hf⟩
theorem Tb {c:CF} {t:Tyt} {m:List Int} {i:Int} {x:SB} (hm:Wm m) (hf:Wf x.2.2) (ht:t.length≤1000):Wm (ia c t m i x).1∧Wf (ia c t m i x).2.1.2.2:=by
 have hc:=NP (c:=c) hm hf
 have hz:Wf dU:=by simp [Wf,dU]
 have h1:=fV (ai m 0) 1
 have h2:=fV (ai m 0) 18446744073709551615
 cases hmay:nY c t m x with
 | false=>
  have e:ia c t m i x=(m,x,[]):=by unfold ia;rw [hmay,if_pos rfl]
  rw [e]
  exact ⟨hm,hf⟩
 | true=>
  obtain ⟨_,_,_,_,_,r,rest,hx,h6,h7⟩:=nE hmay
  have hh:r5 x.2.1=r:=by rw [hx];rfl
  unfold ia
  rw [hmay,if_neg (by simp),hh]
  dsimp only
  have h3:Wf (3,0,i,r,0,0,0):=⟨⟨h6,by simp only;omega⟩,by simp,by simp⟩
  have h4:Wf (6,0,i,0,0,0,0):=by simp [Wf]
  repeat' split
  all_goals first | exact ⟨hm,hf⟩ | exact ⟨hm,hz⟩ | exact ⟨hm,h4⟩ | exact ⟨hm.set 0 h1.1 h1.2,h3⟩ | exact hc | exact ⟨hc.1,hz⟩ | exact ⟨hm.set 0 h2.1 h2.2,hz⟩
end Go.Ab
set_option linter.unusedVariables false
namespace Go.Ab
abbrev PB:=CF×Tyt×List Int×List WB×List SB
abbrev PK:=Int×Int×Int
def uk (t:Tyt) (x:SB):Bool:=decide (0≤x.1∧x.1<6)&&x.2.1.all (fun r=>decide (0≤r∧r<t.length))&&(decide (x.1=0)||decide (x.2.1≠[]))
def CR (c:CF) (t:Tyt) (m:List Int):Nat→List WB→Bool
 | _,[]=>true
 | i,x::l=>cZ c t m i x&&CR c t m (i+1) l
def gh (p:PB):Bool:=eu p.1&&decide ((p.2.2.2.1.length:Int)=p.1.1∧p.2.2.2.2.length≤3)&&CR p.1 p.2.1 p.2.2.1 0 p.2.2.2.1&&p.2.2.2.2.all (uk p.2.1)
def rr (k:PK) (w s:Int):Bool:=decide (k.1=0∧0≤k.2.1∧k.2.1<w∨k.1=1∧0≤k.2.1∧k.2.1<s∨k.1=2∨k.1=3)
def f6 (p:PB) (k:PK):PB×List EV:=
 if k.1=0 then match p.2.2.2.1[k.2.1.toNat]? with
  | some x=>((p.1,p.2.1,(a8 p.1 p.2.1 p.2.2.1 k.2.1 x k.2.2).1,p.2.2.2.1.set k.2.1.toNat (a8 p.1 p.2.1 p.2.2.1 k.2.1 x k.2.2).2.1,p.2.2.2.2),(a8 p.1 p.2.1 p.2.2.1 k.2.1 x k.2.2).2.2)
  | none=>(p,[])
 else if k.1=1 then match p.2.2.2.2[k.2.1.toNat]? with
  | some x=>if nY p.1 p.2.1 p.2.2.1 x=true then ((p.1,p.2.1,(ia p.1 p.2.1 p.2.2.1 k.2.1 x).1,p.2.2.2.1,p.2.2.2.2.set k.2.1.toNat (ia p.1 p.2.1 p.2.2.1 k.2.1 x).2.1),(ia p.1 p.2.1 p.2.2.1 k.2.1 x).2.2) else (p,[])
  | none=>(p,[])
 else if k.1=2 then ((p.1,p.2.1,aJ p.2.2.1 3 1,p.2.2.2.1,p.2.2.2.2),[])
 else (p,[])
def mh (p:PB):List PK→PB×List EV
 | []=>(p,[])
 | k::l=>if rr k p.1.1 p.2.2.2.2.length=true then ((mh (f6 p k).1 l).1,(f6 p k).2++(mh (f6 p k).1 l).2) else mh p l
def aeZ (p:PB) (l:List PK):PB×List EV:=if gh p=true then mh p l else (p,[])
theorem W7 {c:CF} {m:List Int} {f:FR} (hm:Wm m) (hf:Wf f):Wm (nc c m f).1∧Wf (nc c m f).2:=by
 have hl:=fun i=>cq hm i
 obtain ⟨w3,w4,w5⟩:=hf
 have ha:=fV f.2.2.2.2.1 1
 unfold nc
 repeat' split
 ·exact ⟨hm,w3,w4,w5⟩
 ·exact ⟨hm,w3,hl _,w5⟩
 ·exact ⟨hm,w3,by simp [dR],by simp [dR]⟩
 ·exact ⟨hm,w3,w4,hl _⟩
 ·exact ⟨hm.set _ w3.1 w3.2,w3,w4,w5⟩
 ·exact ⟨hm.set _ ha.1 ha.2,w3,by simp [dR],by simp [dR]⟩
theorem Zv {c:CF} {m:List Int} {f:FR} (hm:Wm m) (hf:Wf f):Wm (D6 c m f).1∧Wf (D6 c m f).2:=by
 have hl:=fun i=>cq hm i
 obtain ⟨w3,w4,w5⟩:=hf
 have ha:=fV f.2.2.2.2.1 1
 have hb:=fV f.2.2.2.2.2.1 1
 have hs:=fun a b=>P1 a b
 unfold D6
 dsimp only
 split
 ·exact ⟨hm,w3,w4,w5⟩
 split
 ·exact ⟨hm,w3,hs _ _,w5⟩
 split
 ·exact ⟨hm.set _ w4.1 w4.2,w3,w4,w5⟩
 split
 ·exact ⟨hm,w3,w4,hl _⟩
 split
 ·split
  ·exact ⟨hm,hl _,by simp [dR],by simp [dR]⟩
  ·exact ⟨hm,hl _,w4,w5⟩
 split
 ·exact ⟨hm.cas _ _ hb.1 hb.2,w3,w4,w5⟩
 split
 ·exact ⟨hm.set _ ha.1 ha.2,w3,by simp [dR],by simp [dR]⟩
 ·exact ⟨hm.set _ ha.1 ha.2,by simp [dR],by simp [dR],by simp [dR]⟩
theorem RV {c:CF} {m:List Int} {f:FR} (hm:Wm m) (hf:Wf f):Wm (gO c m f).1∧Wf (gO c m f).2:=by
 have hl:=fun i=>cq hm i
 obtain ⟨w3,w4,w5⟩:=hf
 have hb:=fV f.2.2.2.2.2.1 1
 unfold gO
 dsimp only
 split
 ·exact ⟨hm,w3,w4,w5⟩
 split
 ·exact ⟨hm,w3,w4,hl _⟩
 split
 ·split
  ·exact ⟨hm,by simp [dR],by simp [dR],by simp [dR]⟩
  ·exact ⟨hm,w3,hl _,w5⟩
 split
 ·exact ⟨hm,hl _,w4,w5⟩
 split
 ·exact ⟨hm.cas _ _ hb.1 hb.2,w3,by simp [dR],by simp [dR]⟩
 ·exact ⟨hm.cas _ _ hb.1 hb.2,by simp [dR],by simp [dR],by simp [dR]⟩
theorem HG {c:CF} {m:List Int} {f:FR} (hm:Wm m) (hf:Wf f):Wm (da c m f).1∧Wf (da c m f).2:=by
 unfold da Aa
 split
 ·split
  ·exact W7 hm hf
  ·split
   ·exact Zv hm hf
   ·split
    ·exact RV hm hf
    ·exact ⟨hm,hf⟩
 ·exact NP hm hf
structure WOk (n:Nat) (x:WB):Prop where
 f:Wf x.2.2.1
 s:x.2.1.length≤n
 sp:x.2.2.2.1≤9223372036854775807
structure SOk (x:SB):Prop where
 f:Wf x.2.2
 s:x.2.1.length≤1000
theorem E3 (a:Int):0≤IntKind.u64.wrap a∧IntKind.u64.wrap a≤18446744073709551615:=by
 rw [mP]
 omega
section
variable {c:CF} {t:Tyt} {m:List Int} {w:Int} {x:WB} {d:Int} {n:Nat}
theorem WK (hm:Wm m) (hf:Wf x.2.2.1):Wm (a8 c t m w x d).1:=by
 have h1:=(HG (c:=c) hm hf).1
 have h2:=fun a b=>fV a b
 refine eV (P:=fun r=>Wm r.1) (fun _=>hm) ?_ ?_ ?_ ?_ ?_ ?_ ?_ ?_ ?_ ?_ ?_ ?_ ?_ ?_ ?_
 all_goals intro _ _
 all_goals dsimp only [DL,nw,lS,gH,mK,kr,bK,bO,De,mu,mD,mr,CB,mN,mw]
 all_goals repeat' split
 all_goals (try dsimp only)
 all_goals first | exact hm | exact h1 | exact hm.set _ (h2 _ _).1 (h2 _ _).2
theorem Xk (hm:Wm m) (hf:Wf x.2.2.1):Wf (a8 c t m w x d).2.1.2.2.1:=by
 have h1:=(HG (c:=c) hm hf).2
 have h2:=fun i=>cq hm i
 have h3:=fun a=>E3 a
 have z:Wf dU:=by simp [Wf,dU]
 have zr:(0:Int)≤0∧(0:Int)≤18446744073709551615:=by decide
 have b:∀ op w,Wf (Au op w 0):=fun op w=>by simp [Wf,Au]
 have b2:∀ op w v,0≤v∧v≤18446744073709551615→Wf (Au op w v):=fun op w v h=>⟨h,by simp [Au],by simp [Au]⟩
 obtain ⟨w3,w4,w5⟩:=hf
 refine eV (P:=fun r=>Wf r.2.1.2.2.1) (fun _=>⟨w3,w4,w5⟩) ?_ ?_ ?_ ?_ ?_ ?_ ?_ ?_ ?_ ?_ ?_ ?_ ?_ ?_ ?_
 all_goals intro _ _
 all_goals dsimp only [DL,nw,lS,gH,mK,kr,bK,bO,De,mu,mD,mr,CB,mN,mw,toW,gk,Bc]
 all_goals repeat' split
 all_goals (try dsimp only)
 all_goals first | exact h1 | exact z | exact b _ _ | exact b2 _ _ _ (h3 _) | exact b2 _ _ _ h1.1 | exact ⟨w3,w4,w5⟩ | exact ⟨h2 _,w4,w5⟩ | exact ⟨h2 4,w4,w5⟩ | exact ⟨zr,w4,w5⟩
theorem WH (hc:eu c=true) (hs:x.2.2.2.1≤9223372036854775807):(a8 c t m w x d).2.1.2.2.2.1≤9223372036854775807:=by
 have h4:=aQ hc
 refine eV (P:=fun r=>r.2.1.2.2.2.1≤9223372036854775807) (fun _=>hs) ?_ ?_ ?_ ?_ ?_ ?_ ?_ ?_ ?_ ?_ ?_ ?_ ?_ ?_ ?_
 all_goals intro _ _
 all_goals dsimp only [DL,nw,lS,gH,mK,kr,bK,bO,De,mu,mD,mr,CB,mN,mw,toW,gk]
 all_goals repeat' split
 all_goals (try dsimp only)
 all_goals omega
theorem U3 (hc:eu c=true) (hm:Wm m) (h:WOk n x):WOk (n+1) (a8 c t m w x d).2.1:=
 ⟨Xk hm h.f,by have:=Kq (c:=c) (t:=t) (m:=m) (w:=w) (x:=x) (d:=d);have:=h.s;omega,WH hc h.sp⟩
end
section
variable {c:CF} {t:Tyt} {m:List Int} {i:Int} {x:SB}
theorem R7:One m (ia c t m i x).1:=by
 unfold ia
 dsimp only
 repeat' split
 all_goals first | exact One.same m | exact One.store m _ _ | (dsimp only;exact One.store m _ _) | exact GZ c m _
theorem PG:(ia c t m i x).1.length=m.length:=R7.len
theorem pL:(ia c t m i x).2.1.2.1=x.2.1∨(ia c t m i x).2.1.2.1=x.2.1.tail∧(ia c t m i x).2.1.1=0:=by
 unfold ia
 dsimp only
 repeat' split
 all_goals first | exact .inl rfl | exact .inr ⟨rfl,rfl⟩
theorem QH:(ia c t m i x).2.2.length≤2:=by
 unfold ia
 dsimp only
 repeat' split
 all_goals simp
theorem aca (h:0≤x.1∧x.1<6):0≤(ia c t m i x).2.1.1∧(ia c t m i x).2.1.1<6:=by
 unfold ia
 dsimp only
 repeat' split
 all_goals (try dsimp only)
 all_goals omega
theorem YH (h:uk t x=true) (hm:nY c t m x=true):uk t (ia c t m i x).2.1=true:=by
 unfold uk at h ⊢
 simp only [Bool.and_eq_true,decide_eq_true_eq,List.all_eq_true,Bool.or_eq_true] at h ⊢
 obtain ⟨_,_,_,h4,h5,r,rest,hx,h6,h7⟩:=nE hm
 refine ⟨⟨aca h.1.1,fun y hy => ?_⟩,?_⟩
 ·rcases pL (c:=c) (t:=t) (m:=m) (i:=i) (x:=x) with e | e
  ·rw [e] at hy;exact h.1.2 y hy
  ·rw [e.1] at hy;exact h.1.2 y (List.mem_of_mem_tail hy)
 ·rcases pL (c:=c) (t:=t) (m:=m) (i:=i) (x:=x) with e | e
  ·refine .inr ?_
   rw [e,hx]
   simp
  ·exact .inl e.2
theorem aaZ (hm:Wm m) (ht:t.length≤1000) (h:SOk x):SOk (ia c t m i x).2.1:=by
 refine ⟨(Tb hm h.f ht).2,?_⟩
 have:=h.s
 rcases pL (c:=c) (t:=t) (m:=m) (i:=i) (x:=x) with e | e
 ·rw [e];exact h.s
 ·rw [e.1,List.length_tail];omega
end
structure Good (n:Nat) (p:PB):Prop where
 t:FwT p.2.1
 tl:p.2.1.length≤1000
 m:Wm p.2.2.1
 w:∀ x ∈ p.2.2.2.1,WOk n x
 s:∀ x ∈ p.2.2.2.2,SOk x
theorem uv {c:CF} {t:Tyt} {m:List Int}:∀ {l:List WB} {i:Nat},CR c t m i l=true↔∀ (j:Nat) x,l[j]? = some x→cZ c t m ((i+j:Nat):Int) x=true
 | [],i=>by simp [CR]
 | y::l,i=>by
  rw [CR,Bool.and_eq_true,uv (l:=l)]
  constructor
  ·intro h j x hx
   cases j with
   | zero=>cases hx;exact h.1
   | succ j=>
    have:=h.2 j x hx
    rw [show i+(j+1)=i+1+j by omega]
    exact this
  ·intro h
   refine ⟨h 0 y rfl,fun j x hx => ?_⟩
   have:=h (j+1) x hx
   rw [show i+1+j=i+(j+1) by omega]
   exact this
theorem wD {c:CF} {t:Tyt} {m m':List Int} {w:Int} {x:WB} (h:m'.length=m.length):cZ c t m' w x=cZ c t m w x:=by
 unfold cZ
 rw [h]
theorem ml {p:PB} (h:gh p=true):eu p.1=true∧(p.2.2.2.1.length:Int)=p.1.1∧p.2.2.2.2.length≤3∧(∀ (j:Nat) x,p.2.2.2.1[j]? = some x→cZ p.1 p.2.1 p.2.2.1 (j:Int) x=true)∧(∀ x ∈ p.2.2.2.2,uk p.2.1 x=true):=by
 unfold gh at h
 simp only [Bool.and_eq_true,decide_eq_true_eq,List.all_eq_true] at h
 refine ⟨h.1.1.1,h.1.1.2.1,h.1.1.2.2,fun j x hx => ?_,h.2⟩
 have:=uv.1 h.1.2 j x hx
 rw [Nat.zero_add] at this
 exact this
theorem B9 {p:PB} (h1:eu p.1=true) (h2:(p.2.2.2.1.length:Int)=p.1.1) (h3:p.2.2.2.2.length≤3) (h4:∀ (j:Nat) x,p.2.2.2.1[j]? = some x→cZ p.1 p.2.1 p.2.2.1 (j:Int) x=true) (h5:∀ x ∈ p.2.2.2.2,uk p.2.1 x=true):gh p=true:=by
 unfold gh
 simp only [Bool.and_eq_true,decide_eq_true_eq,List.all_eq_true]
 refine ⟨⟨⟨h1,h2,h3⟩,uv.2 fun j x hx => ?_⟩,h5⟩
 rw [Nat.zero_add]
 exact h4 j x hx
theorem wy {α:Type} {l:List α} {i:Nat} {y x:α} (h:x ∈ l.set i y):x ∈ l∨x=y:=by
 rcases List.mem_or_eq_of_mem_set h with h | h
 ·exact .inl h
 ·exact .inr h
theorem lP {p:PB} {k:PK} {P:PB×List EV→Prop} (h0:P (p,[]))
  (hw:∀ x,p.2.2.2.1[k.2.1.toNat]? = some x→k.1=0→P ((p.1,p.2.1,(a8 p.1 p.2.1 p.2.2.1 k.2.1 x k.2.2).1,p.2.2.2.1.set k.2.1.toNat (a8 p.1 p.2.1 p.2.2.1 k.2.1 x k.2.2).2.1,p.2.2.2.2),(a8 p.1 p.2.1 p.2.2.1 k.2.1 x k.2.2).2.2))
  (hs:∀ x,p.2.2.2.2[k.2.1.toNat]? = some x→nY p.1 p.2.1 p.2.2.1 x=true→P ((p.1,p.2.1,(ia p.1 p.2.1 p.2.2.1 k.2.1 x).1,p.2.2.2.1,p.2.2.2.2.set k.2.1.toNat (ia p.1 p.2.1 p.2.2.1 k.2.1 x).2.1),(ia p.1 p.2.1 p.2.2.1 k.2.1 x).2.2))
  (hc:P ((p.1,p.2.1,aJ p.2.2.1 3 1,p.2.2.2.1,p.2.2.2.2),[])):P (f6 p k):=by
 unfold f6
 split
 ·rename_i e
  split
  ·rename_i x hx;exact hw x hx e
  ·exact h0
 ·split
  ·split
   ·rename_i x hx
    split
    ·rename_i hm;exact hs x hx hm
    ·exact h0
   ·exact h0
  ·split
   ·exact hc
   ·exact h0
theorem Kh {p:PB} {k:PK}:(f6 p k).1.1=p.1∧(f6 p k).1.2.1=p.2.1∧(f6 p k).1.2.2.2.1.length=p.2.2.2.1.length∧(f6 p k).1.2.2.2.2.length=p.2.2.2.2.length:=by
 refine lP (P:=fun r=>r.1.1=p.1∧r.1.2.1=p.2.1∧r.1.2.2.2.1.length=p.2.2.2.1.length∧r.1.2.2.2.2.length=p.2.2.2.2.length) ⟨rfl,rfl,rfl,rfl⟩ (fun x _ _=>⟨rfl,rfl,List.length_set,rfl⟩) (fun x _ _=>⟨rfl,rfl,rfl,List.length_set⟩) ⟨rfl,rfl,rfl,rfl⟩
theorem Q5 {p:PB} {k:PK}:(f6 p k).2.length≤2:=
 lP (P:=fun r=>r.2.length≤2) (Nat.zero_le _) (fun x _ _=>Qg) (fun x _ _=>QH) (Nat.zero_le _)
theorem DO {n:Nat} {p:PB} {k:PK} (h:Good n p) (hc:eu p.1=true):Good (n+1) (f6 p k).1:=by
 have up:∀ x ∈ p.2.2.2.1,WOk (n+1) x:=fun x hx=>⟨(h.w x hx).f,Nat.le_succ_of_le (h.w x hx).s,(h.w x hx).sp⟩
 refine lP (P:=fun r=>Good (n+1) r.1) ⟨h.t,h.tl,h.m,up,h.s⟩ (fun x hx _ => ?_) (fun x hx _ => ?_) ⟨h.t,h.tl,show Wm (aJ p.2.2.1 3 1) from h.m.set 3 (by decide) (by decide),up,h.s⟩
 ·have hx':=h.w x (List.mem_of_getElem? hx)
  refine ⟨h.t,h.tl,WK h.m hx'.f,fun y hy => ?_,h.s⟩
  rcases wy hy with hy | rfl
  ·exact up y hy
  ·exact U3 hc h.m hx'
 ·have hx':=h.s x (List.mem_of_getElem? hx)
  refine ⟨h.t,h.tl,(Tb h.m hx'.f h.tl).1,up,fun y hy => ?_⟩
  rcases wy hy with hy | rfl
  ·exact h.s y hy
  ·exact aaZ h.m h.tl hx'
theorem BK {p:PB} {k:PK} (h:gh p=true) (hk:rr k p.1.1 p.2.2.2.2.length=true):gh (f6 p k).1=true:=by
 obtain ⟨h1,h2,h3,h4,h5⟩:=ml h
 refine lP (P:=fun r=>gh r.1=true) h (fun x hx hk0 => ?_) (fun x hx hm => ?_) ?_
 ·have h0:0≤k.2.1:=by
   unfold rr at hk
   rw [decide_eq_true_eq] at hk
   omega
  have hkk:((k.2.1.toNat:Nat):Int)=k.2.1:=by omega
  refine B9 h1 (by dsimp only;rw [List.length_set];exact h2) h3 (fun j y hy => ?_) h5
  dsimp only at hy ⊢
  rw [List.getElem?_set] at hy
  split at hy
  ·rename_i e
   split at hy
   ·cases hy
    subst e
    rw [hkk]
    have:=h4 _ x hx
    rw [hkk] at this
    exact RG this
   ·cases hy
  ·rw [wD GN.len]
   exact h4 j y hy
 ·refine B9 h1 h2 (by dsimp only;rw [List.length_set];exact h3) (fun j y hy => ?_) fun y hy => ?_
  ·dsimp only
   rw [wD PG]
   exact h4 j y hy
  ·rcases wy hy with hy | rfl
   ·exact h5 y hy
   ·exact YH (h5 x (List.mem_of_getElem? hx)) hm
 ·refine B9 h1 h2 h3 (fun j y hy => ?_) h5
  dsimp only
  rw [wD iV]
  exact h4 j y hy
theorem Fy {P:PB→Prop} (hs:∀ p k,gh p=true→rr k p.1.1 p.2.2.2.2.length=true→P p→P (f6 p k).1):∀ {l:List PK} {p:PB},gh p=true→P p→P (mh p l).1∧gh (mh p l).1=true
 | [],p,h,hp=>⟨hp,h⟩
 | k::l,p,h,hp=>by
  rw [mh]
  split
  ·rename_i hk
   exact Fy hs (BK h hk) (hs p k h hk hp)
  ·exact Fy hs h hp
theorem Ce:∀ {l j:List PK} {p:PB},mh p (l++j)=((mh (mh p l).1 j).1,(mh p l).2++(mh (mh p l).1 j).2)
 | [],j,p=>by simp [mh]
 | k::l,j,p=>by
  rw [List.cons_append,mh,mh]
  split
  ·rw [Ce]
   simp only [List.append_assoc]
  ·exact Ce
end Go.Ab
set_option linter.unusedVariables false
set_option linter.unusedSimpArgs false
namespace Go.Ab
theorem Vw (n w:Int):dr n w=some (decide (0≤n∧n<w)):=by
 unfold dr
 by_cases h0:0≤n
 ·rw [leT h0,cond_true]
  by_cases h1:n<w
  ·rw [ltT h1,decide_eq_true ⟨h0,h1⟩]
  ·rw [ltF (by omega),decide_eq_false (by omega)]
 ·rw [leF (by omega),cond_false,decide_eq_false (by omega)]
theorem Yq (k:PK) (w s:Int):iQ k w s=some (rr k w s):=by
 unfold iQ rr
 simp only [Vw,ae,mj]
 by_cases h0:k.1=0
 ·by_cases hb:0≤k.2.1∧k.2.1<w
  ·simp [h0,hb]
  ·simp [h0,hb]
 ·by_cases h1:k.1=1
  ·by_cases hb:0≤k.2.1∧k.2.1<s
   ·simp [h1,hb]
   ·simp [h1,hb]
  ·by_cases h2:k.1=2
   ·simp [h2]
   ·simp [h0,h1,h2]
theorem rN {α:Type}:∀ {l:List α} {i:Nat} {x:α},l[i]? = some x→l.set i x=l
 | [],_,_,h=>by cases h
 | a::l,0,x,h=>by cases h;rfl
 | a::l,i+1,x,h=>by rw [List.set_cons_succ,rN (l:=l) (by simpa using h)]
theorem ag0 {i n:Nat} (h:i<n):decide ((0:Int)≤(i:Int)∧(i:Int).toNat<n)=true:=decide_eq_true ⟨by omega,by omega⟩
theorem Mz (k:Nat) (hk:1000≤k) {t:Tyt} (ht:FwT t):eB k t=some t:=by
 have hl:=ht.len
 unfold eB
 rw [bJ (by omega),ae]
 have key:∀ (r:Tyt) (q n:Nat),t.drop q=r→q≤t.length→r.length<n→cV k t n t (t.length:Int) (q:Int) t=some t:=by
  intro r
  induction r with
  | nil=>
   intro q n hr hq hn
   obtain ⟨n,rfl⟩:=gE hn
   have:=dy hr
   rw [cV,ltF (by omega),cond_false,decide_eq_true (Nat.le_refl _),ct,List.take_length]
  | cons v r ih=>
   intro q n hr hq hn
   obtain ⟨n,rfl⟩:=gE hn
   obtain ⟨h0,h1,h2,_,h4⟩:=cH hr
   have hv:=ht.kids v (List.mem_of_getElem? h1)
   rw [cV,ltN h0,cond_true,ag0 h0,cond_true,Int.toNat_natCast,h1,ae,bJ (by omega),ae,cond_true,ae,gg (by omega),rN h1]
   exact ih (q+1) n h2 (by omega) (by simp only [List.length_cons] at hn;omega)
 have:=key t 0 (k+1) rfl (Nat.zero_le _) (by omega)
 simpa using this
theorem aen (k n:Nat) {t:Tyt} {l:List Int} (hl:l.length≤1000) (hn:l.length<n):bX k n l (l.length:Int) t 0=some (GW (fun r => !decide (0≤r∧r<(t.length:Int))) l 0):=by
 refine IW (F:=fun n i=>bX k n l (l.length:Int) t i) (l:=l) _ ?_ ?_ n hn
 ·intro n
  simp only [bX,uA,cond_false]
 ·intro n i x hi hx
  simp only [bX,ltN hi,cond_true,ga hx,ae]
  rw [gg (by omega)]
  by_cases h0:x<0
  ·rw [ltT h0,cond_true,decide_eq_false (by omega)]
   rfl
  ·rw [ltF (by omega),cond_false]
   by_cases h1:(t.length:Int)≤x
   ·rw [leT h1,cond_true,decide_eq_false (by omega)]
    rfl
   ·rw [leF (by omega),cond_false,decide_eq_true (by omega)]
    rfl
theorem aaD (k n:Nat) (hk:1000≤k) {t:Tyt} {S:List SB} (hS:S.length≤1000) (hr:∀ x ∈ S,x.2.1.length≤1000) (hn:S.length<n):bI k n S (S.length:Int) t 0=some (GW (fun x => !uk t x) S 0):=by
 refine IW (F:=fun n i=>bI k n S (S.length:Int) t i) (l:=S) _ ?_ ?_ n hn
 ·intro n
  simp only [bI,uA,cond_false]
 ·intro n i x hi hx
  have hx':=hr x (List.mem_of_getElem? hx)
  have ho:=aen k (k+29) (t:=t) hx' (by omega)
  simp only [bI,ltN hi,cond_true,ga hx,ae,ho,pn]
  rw [gg (by omega)]
  have e:uk t x=(decide (0≤x.1∧x.1<6) && !(x.2.1.any fun r => !decide (0≤r∧r<(t.length:Int)))&&(decide (x.1=0)||decide (x.2.1≠[]))):=by
   unfold uk
   rw [List.all_eq_not_any_not]
  rw [e,Cz,mj]
  by_cases h0:x.1<0
  ·rw [ltT h0,cond_true,decide_eq_false (show ¬ (0≤x.1∧x.1<6) by omega)]
   rfl
  ·rw [ltF (by omega),cond_false]
   by_cases h6:6≤x.1
   ·rw [leT h6,cond_true,decide_eq_false (show ¬ (0≤x.1∧x.1<6) by omega)]
    rfl
   ·rw [leF (by omega),cond_false,decide_eq_true (show 0≤x.1∧x.1<6 by omega)]
    cases (x.2.1.any fun r => !decide (0≤r∧r<(t.length:Int))) with
    | true=>rfl
    | false=>
     rw [cond_false]
     by_cases hz:x.1=0
     ·rw [decide_eq_true hz]
      rfl
     ·rw [decide_eq_false hz,Bool.not_false,cond_true]
      by_cases hn:x.2.1=[]
      ·rw [hn]
       rfl
      ·have hl:¬ ((x.2.1.length:Int)=0):=by
        intro h
        exact hn (List.length_eq_zero_iff.1 (by omega))
       rw [decide_eq_false hl,decide_eq_true hn]
       rfl
section
variable {k:Nat} (hk:9223372036854779000≤k) {p:PB} (ht:Wt p.2.1) (hw:∀ x ∈ p.2.2.2.1,x.2.1.length≤9000) (hs:∀ x ∈ p.2.2.2.2,x.2.1.length≤1000)
include hk ht hw hs
theorem Hs:eY k p=some (gh p):=by
 unfold eY gh
 simp only [Prod.eta,fe,ae]
 cases hm:eu p.1 with
 | false=>rfl
 | true=>
  have hc:=aQ hm
  rw [Bool.not_true,cond_false,Bool.true_and,Cz]
  by_cases h1:(p.2.2.2.1.length:Int)=p.1.1
  ·rw [decide_eq_true h1,Bool.not_true,cond_false]
   by_cases h3:(3:Int)<p.2.2.2.2.length
   ·rw [ltT h3,cond_true,decide_eq_false (by omega)]
    rfl
   ·rw [ltF (by omega),cond_false,decide_eq_true ⟨h1,by omega⟩,Bool.true_and]
    have key:∀ (r:List WB) (q n:Nat),p.2.2.2.1.drop q=r→q≤p.2.2.2.1.length→r.length<n→dQ k p n (q:Int)=some (CR p.1 p.2.1 p.2.2.1 q r&&p.2.2.2.2.all (uk p.2.1)):=by
     intro r
     induction r with
     | nil=>
      intro q n hr hq hn
      obtain ⟨n,rfl⟩:=gE hn
      have:=dy hr
      rw [dQ,ltF (by omega),cond_false,aaD k (k+32) (by omega) (by omega) hs (by omega),ae,pn,CR,Bool.true_and,List.all_eq_not_any_not]
     | cons v r ih=>
      intro q n hr hq hn
      obtain ⟨n,rfl⟩:=gE hn
      obtain ⟨h0,h1',h2,_,h4⟩:=cH hr
      have hv:=hw v (List.mem_of_getElem? h1')
      rw [dQ,ltN h0,cond_true,ga h1',ae]
      try simp only [Prod.eta]
      rw [MF (by omega) p.1 ht p.2.2.1 (q:Int) v hv,ae,CR,gg (by omega),ih (q+1) n h2 (by omega) (by simp only [List.length_cons] at hn;omega)]
      cases cZ p.1 p.2.1 p.2.2.1 (q:Int) v <;> rfl
    have:=key p.2.2.2.1 0 (k+33) rfl (Nat.zero_le _) (by omega)
    simpa using this
  ·rw [decide_eq_false h1,Bool.not_false,cond_true,decide_eq_false (fun h=>h1 h.1)]
   rfl
end
theorem L0 (k:Nat) (c1 c2 c3 c4:Int) (t:Tyt) (m:List Int) (W:List WB) {S:List SB} (hS:S.length≤1000) (hr:∀ x ∈ S,x.2.1.length≤1000):∀ (r:List SB) (q n:Nat),S.drop q=r→q≤S.length→r.length<n →
  cC k n c1 c2 c3 c4 t m W S (S.length:Int) W (q:Int) S=some (c1,c2,c3,c4,t,m,W,S,W,S):=by
 intro r
 induction r with
 | nil=>
  intro q n hr hq hn
  obtain ⟨n,rfl⟩:=gE hn
  have:=dy hr
  rw [cC,ltF (by omega),cond_false]
 | cons v r ih=>
  intro q n hr' hq hn
  obtain ⟨n,rfl⟩:=gE hn
  obtain ⟨h0,h1,h2,_,h4⟩:=cH hr'
  have hv:=hr v (List.mem_of_getElem? h1)
  rw [cC,ltN h0,cond_true,ag0 h0,cond_true,Int.toNat_natCast,h1,ae,bJ (by omega),ae,cond_true,ae,gg (by omega)]
  try simp only [Prod.eta]
  rw [rN h1]
  exact ih (q+1) n h2 (by omega) (by simp only [List.length_cons] at hn;omega)
theorem RP (k:Nat) (hk:1000≤k) (c1 c2 c3 c4:Int) (t:Tyt) (m:List Int) {W:List WB} {S:List SB} (hW:W.length≤1000) (hw:∀ x ∈ W,x.2.1.length≤9000) (hS:S.length≤1000) (hs:∀ x ∈ S,x.2.1.length≤1000):∀ (r:List WB) (q n:Nat),W.drop q=r→q≤W.length→r.length<n →
  cF k n c1 c2 c3 c4 t m W S (W.length:Int) (q:Int) W=some (c1,c2,c3,c4,t,m,W,S,W,S):=by
 intro r
 induction r with
 | nil=>
  intro q n hr hq hn
  obtain ⟨n,rfl⟩:=gE hn
  have:=dy hr
  rw [cF,ltF (by omega),cond_false]
  exact L0 k c1 c2 c3 c4 t m W hS hs S 0 (k+61) rfl (Nat.zero_le _) (by omega)
 | cons v r ih=>
  intro q n hr' hq hn
  obtain ⟨n,rfl⟩:=gE hn
  obtain ⟨h0,h1,h2,_,h4⟩:=cH hr'
  have hv:=hw v (List.mem_of_getElem? h1)
  rw [cF,ltN h0,cond_true,ag0 h0,cond_true,Int.toNat_natCast,h1,ae,bJ (by omega),ae,cond_true,ae,gg (by omega)]
  try simp only [Prod.eta]
  rw [rN h1]
  exact ih (q+1) n h2 (by omega) (by simp only [List.length_cons] at hn;omega)
def Wp (l:List PK):Prop:=∀ x ∈ l,0≤x.2.2∧x.2.2≤18446744073709551615
section
variable {k:Nat} (hk:9223372036854779000≤k) {p0:PB} {l:List PK} (hl:l.length≤1000) (hd:Wp l)
include hk hl hd
theorem N9:∀ (r:List PK) (q n N:Nat) (p:PB) (W0:List WB) (S0:List SB) (evs:List EV) (e:Nat),l.drop q=r→q≤l.length→r.length<n→(e=3∨e=0)→p.1=p0.1→p.2.2.2.2.length=p0.2.2.2.2.length→W0.length=p.2.2.2.1.length→S0.length=p.2.2.2.2.length→Good N p→gh p=true→N+r.length≤9000→evs.length+2*r.length≤4000 →
  bC k p0 l n p.1.1 p.1.2.1 p.1.2.2.1 p.1.2.2.2 p.2.1 W0 S0 p.2.2.2.1 p.2.2.2.2 evs (q:Int) p.2.2.1 e=some ((mh p r).1,evs++(mh p r).2):=by
 intro r
 induction r with
 | nil=>
  intro q n N p W0 S0 evs e hr hq hn he hc hS hW0 hS0 hg hm hN hE
  obtain ⟨n,rfl⟩:=gE hn
  have:=dy hr
  rw [bC,ltF (by omega),cond_false,decide_eq_true (by omega),ct,decide_eq_true (by omega),ct,hW0,hS0,List.take_length,List.take_length,mh,List.append_nil]
 | cons v r ih=>
  intro q n N p W0 S0 evs e hr hq hn he hc hS hW0 hS0 hg hm hN hE
  obtain ⟨n,rfl⟩:=gE hn
  obtain ⟨h0,h1,h2,_,h4⟩:=cH hr
  have hv:=hd v (List.mem_of_getElem? h1)
  obtain ⟨m1,m2,m3,m4,m5⟩:=ml hm
  have hcc:=aQ m1
  simp only [List.length_cons] at hn hN hE
  have hml:p.2.2.1.length≤1000:=by
   have hW1:0<p.2.2.2.1.length:=by omega
   have:=(fb (m4 0 _ (List.getElem?_eq_getElem hW1))).2.1
   have:=ii m1
   omega
  have hes:(e==3||e==0)=true:=by rcases he with rfl | rfl <;> rfl
  have next:∀ (evs':List EV) (p':PB),p'.1=p.1→p'.2.1=p.2.1→p'.2.2.2.1.length=p.2.2.2.1.length→p'.2.2.2.2.length=p.2.2.2.2.length→Good (N+1) p'→gh p'=true→evs'.length≤evs.length+2→∀ e',(e'=3∨e'=0) →
    bC k p0 l n p.1.1 p.1.2.1 p.1.2.2.1 p.1.2.2.2 p.2.1 W0 S0 p'.2.2.2.1 p'.2.2.2.2 evs' ((q+1:Nat):Int) p'.2.2.1 e'=some ((mh p' r).1,evs'++(mh p' r).2):=fun evs' p' g1 g2 g3 g4 g5 g6 g7 e' he'=>by
   have:=ih (q+1) n (N+1) p' W0 S0 evs' e' h2 (by omega) (by omega) he' (by rw [g1,hc]) (by omega) (by omega) (by omega) g5 g6 (by omega) (by omega)
   rw [g1,g2] at this
   exact this
  have hw:IntKind.i64.wrap ((q:Int)+1)=((q+1:Nat):Int):=gg (by omega)
  have up:Good (N+1) p:=⟨hg.t,hg.tl,hg.m,fun x hx=>⟨(hg.w x hx).f,Nat.le_succ_of_le (hg.w x hx).s,(hg.w x hx).sp⟩,hg.s⟩
  rw [bC,ltN h0,cond_true,ga h1,ae]
  simp only [Prod.eta,hw]
  rw [Yq,ae,mh,← hc,← hS]
  cases hf:rr v p.1.1 p.2.2.2.2.length with
  | false=>
   rw [cond_false,if_neg (by simp)]
   exact next evs p rfl rfl rfl rfl up hm (by omega) e he
  | true=>
   have st:=Kh (p:=p) (k:=v)
   have sg:=DO (k:=v) hg m1
   have sm:=BK hm hf
   have se:=Q5 (p:=p) (k:=v)
   have nx:=fun e' he'=>next (evs++(f6 p v).2) (f6 p v).1 st.1 st.2.1 st.2.2.1 st.2.2.2 sg sm (by rw [List.length_append];omega) e' he'
   have hroom:room (evs++(f6 p v).2).length 24=true:=Dt (by rw [List.length_append];omega)
   have hroom0:room evs.length 24=true:=Dt (by omega)
   rw [cond_true,if_pos rfl]
   simp only [← List.append_assoc]
   have hfit:=hf
   unfold rr at hfit
   rw [decide_eq_true_eq] at hfit
   by_cases k0:v.1=0
   ·have hb:0≤v.2.1∧v.2.1<p.1.1:=by omega
    have hi:v.2.1.toNat<p.2.2.2.1.length:=by omega
    have hx:=List.getElem?_eq_getElem hi
    have hdec:decide (0≤v.2.1∧v.2.1.toNat<W0.length)=true:=decide_eq_true ⟨hb.1,by omega⟩
    generalize p.2.2.2.1[v.2.1.toNat]=x at hx
    have hxo:=hg.w x (List.mem_of_getElem? hx)
    have es:f6 p v=((p.1,p.2.1,(a8 p.1 p.2.1 p.2.2.1 v.2.1 x v.2.2).1,p.2.2.2.1.set v.2.1.toNat (a8 p.1 p.2.1 p.2.2.1 v.2.1 x v.2.2).2.1,p.2.2.2.2),(a8 p.1 p.2.1 p.2.2.1 v.2.1 x v.2.2).2.2):=by
     unfold f6
     rw [if_pos k0,hx]
    rw [mj,decide_eq_true k0,cond_true,hdec,cond_true,hx,ae]
    try simp only [Prod.eta]
    rw [Of (by omega) p.1 hg.t.wt hg.m hml v.2.1 hxo.f (by have:=hxo.s;omega) (by have:=hxo.sp;omega) hv,ae,cond_true,ae,hes,ct]
    rw [es] at nx hroom ⊢
    rw [hroom,cond_true]
    exact nx 3 (.inl rfl)
   ·rw [mj,decide_eq_false k0,cond_false]
    by_cases k1:v.1=1
    ·have hb:0≤v.2.1∧v.2.1<(p.2.2.2.2.length:Int):=by omega
     have hi:v.2.1.toNat<p.2.2.2.2.length:=by omega
     have hx:=List.getElem?_eq_getElem hi
     have hdec:decide (0≤v.2.1∧v.2.1.toNat<S0.length)=true:=decide_eq_true ⟨hb.1,by omega⟩
     generalize p.2.2.2.2[v.2.1.toNat]=x at hx
     have hxo:=hg.s x (List.mem_of_getElem? hx)
     rw [mj,decide_eq_true k1,cond_true,hdec,cond_true,hx,ae]
     try simp only [Prod.eta]
     rw [SY (by omega) p.1 hg.t.wt,ae]
     cases hsm:nY p.1 p.2.1 p.2.2.1 x with
     | false=>
      have es:f6 p v=(p,[]):=by
       unfold f6
       rw [if_neg k0,if_pos k1,hx]
       dsimp only
       rw [hsm,if_neg (by simp)]
      rw [es] at nx ⊢
      rw [cond_false,hes,ct,hroom0,cond_true]
      have:=nx 3 (.inl rfl)
      rw [List.append_nil] at this ⊢
      exact this
     | true=>
      have es:f6 p v=((p.1,p.2.1,(ia p.1 p.2.1 p.2.2.1 v.2.1 x).1,p.2.2.2.1,p.2.2.2.2.set v.2.1.toNat (ia p.1 p.2.1 p.2.2.1 v.2.1 x).2.1),(ia p.1 p.2.1 p.2.2.1 v.2.1 x).2.2):=by
       unfold f6
       rw [if_neg k0,if_pos k1,hx]
       dsimp only
       rw [hsm,if_pos rfl]
      rw [cond_true,cond_true,ae]
      rw [T5 (by omega) p.1 hg.t.wt hg.m hml v.2.1 hxo.f hxo.s hg.tl,ae,cond_true,ae,hes,ct]
      rw [es] at nx hroom ⊢
      rw [hroom,cond_true]
      exact nx 3 (.inl rfl)
    ·rw [mj,decide_eq_false k1,cond_false]
     by_cases k2:v.1=2
     ·have es:f6 p v=((p.1,p.2.1,aJ p.2.2.1 3 1,p.2.2.2.1,p.2.2.2.2),[]):=by
       unfold f6
       rw [if_neg k0,if_neg k1,if_pos k2]
      rw [mj,decide_eq_true k2,cond_true,iJ hml,ae,hes,ct,hroom0,cond_true]
      rw [es] at nx ⊢
      have:=nx 3 (.inl rfl)
      rw [List.append_nil] at this ⊢
      exact this
     ·have es:f6 p v=(p,[]):=by
       unfold f6
       rw [if_neg k0,if_neg k1,if_neg k2]
      rw [mj,decide_eq_false k2,cond_false,hes,ct,hroom0,cond_true]
      rw [es] at nx ⊢
      have:=nx 3 (.inl rfl)
      rw [List.append_nil] at this ⊢
      exact this
theorem ahz {N:Nat} (hg:Good N p0) (hW:p0.2.2.2.1.length≤20) (hS:p0.2.2.2.2.length≤20) (hml:p0.2.2.1.length≤1000) (hN:N+l.length≤9000):fK k p0 l=some (aeZ p0 l):=by
 have hw:∀ x ∈ p0.2.2.2.1,x.2.1.length≤9000:=fun x hx=>by have:=(hg.w x hx).s;omega
 have hs:∀ x ∈ p0.2.2.2.2,x.2.1.length≤1000:=fun x hx=>(hg.s x hx).s
 unfold fK aeZ
 try simp only [Prod.eta]
 rw [Mz _ (by omega) hg.t,ae,bJ (by omega),ae,bJ (by omega),ae,bJ (by omega),ae]
 have ho:=RP k (by omega) p0.1.1 p0.1.2.1 p0.1.2.2.1 p0.1.2.2.2 p0.2.1 p0.2.2.1 (by omega) hw (by omega) hs p0.2.2.2.1 0 (k+61) rfl (Nat.zero_le _) (by omega)
 refine (congrArg (fun z=>ob z _) ho).trans ?_
 rw [ae]
 dsimp only
 rw [decide_eq_true (Nat.le_refl _),ct,decide_eq_true (Nat.le_refl _),ct,Hs (by omega) hg.t.wt hw hs,ae,List.take_length,List.take_length,decide_eq_true (Nat.le_refl _),decide_eq_true (Nat.le_refl _)]
 cases hm:gh p0 with
 | false=>
  rw [Bool.not_false,cond_true,ct,ct,if_neg (by simp),List.take_length,List.take_length]
 | true=>
  rw [Bool.not_true,cond_false,if_pos rfl]
  exact N9 hk hl hd l 0 (k+62) N p0 p0.2.2.2.1 p0.2.2.2.2 [] 0 rfl (Nat.zero_le _) (by omega) (.inr rfl) rfl rfl rfl rfl hg hm hN (by simp;omega)
end
end Go.Ab
set_option linter.unusedVariables false
set_option linter.unusedSimpArgs false
namespace Go.Ab
theorem r9 (n:Nat) (i:Int):ai (List.replicate n 0) i=0:=by
 unfold ai
 split
 ·rw [List.getElem?_replicate]
  split <;> rfl
 ·rfl
theorem ahg {k:Nat} (hk:1000≤k) (c:CF):kK k c=some (List.replicate (cD c).toNat 0):=by
 have hs:0≤cD c∧cD c≤190:=by
  unfold cD
  split
  ·rename_i h
   have hm:=aQ h
   have:=cX h (w:=c.1) (by omega) (by omega)
   omega
  ·omega
 have key:∀ (d i n t:Nat),(t=0∨t=1)→i+d=(cD c).toNat→d<n→eD k c n (cD c) (List.replicate i 0) (i:Int) t=some (List.replicate (cD c).toNat 0):=by
  intro d
  induction d with
  | zero=>
   intro i n t ht hi hn
   obtain ⟨n,rfl⟩:=gE hn
   rw [eD,ltF (by omega),cond_false]
   rw [show i=(cD c).toNat by omega]
  | succ d ih=>
   intro i n t ht hi hn
   obtain ⟨n,rfl⟩:=gE hn
   have h1:(t==1||t==0)=true:=by rcases ht with rfl | rfl <;> rfl
   rw [eD,ltT (by omega),cond_true,h1,ct,Dt (by simp;omega),cond_true,gg (by omega)]
   have:=ih (i+1) n 1 (.inr rfl) (by omega) (by omega)
   rw [List.replicate_succ'] at this
   exact this
 unfold kK
 simp only [Prod.eta,pT,ae]
 exact key (cD c).toNat 0 (k+3) 0 (.inl rfl) (by omega) (by omega)
theorem abA {l:List Int} (h:l.length≤1000):gF l=some (0,l,dU):=by
 unfold gF
 rw [bJ (by omega),ae]
 rfl
theorem Hq {α:Type} (p:α→Bool):∀ (l:List α) (i:Nat),GW p l i = -1∨∃ (j:Nat) (x:α),GW p l i=((i+j:Nat):Int)∧l[j]? = some x∧p x=true
 | [],_ => .inl rfl
 | x::r,i=>by
  rw [GW]
  by_cases h:p x=true
  ·rw [if_pos h]
   exact .inr ⟨0,x,rfl,rfl,h⟩
  ·rw [if_neg h]
   rcases Hq p r (i+1) with e | ⟨j,y,e,h1,h2⟩
   ·exact .inl e
   ·refine .inr ⟨j+1,y,?_,h1,h2⟩
    rw [e]
    congr 1
    omega
theorem WL (k:Nat) {l:List Int} (hl:l.length≤1000) (hk:1001≤k) (v:Int):dq k l v=some (GW (fun y=>v==y) l 0):=by
 unfold dq
 refine IW (F:=fun n i=>bz k l v n i) (l:=l) _ ?_ ?_ k (by omega)
 ·intro n
  simp only [bz,uA,cond_false]
 ·intro n i y hi hy
  simp only [bz,ltN hi,cond_true,ga hy,ae]
  rw [gg (by omega)]
theorem Zu {k:Nat} (hk:9223372036854775808≤k) {t:Tyt} (ht:FwT t) (q:Int):∃ z,eE k t q=some z:=by
 have hlen:=ht.len
 unfold eE
 rw [IA k hk t ht.wt,ae]
 cases rG t with
 | false=>exact ⟨_,rfl⟩
 | true=>
  rw [cond_true]
  have inner:∀ (i:Nat),i<t.length→∀ (o:Int→Option Int),(∃ z,o ((i+1:Nat):Int)=some z)→∀ (K:List Int),K.length≤40→∀ (r:List Int) (j n:Nat),K.drop j=r→j≤K.length→r.length<n→∃ z,bW k t q o n K (K.length:Int) (j:Int) (i:Int)=some z:=by
   intro i hi o ho K hK r
   induction r with
   | nil=>
    intro j n hr hj hn
    obtain ⟨n,rfl⟩:=gE hn
    have:=dy hr
    rw [bW,ltF (by omega),cond_false,gg (by omega)]
    exact ho
   | cons x r ih=>
    intro j n hr hj hn
    obtain ⟨n,rfl⟩:=gE hn
    obtain ⟨h0,h1,h2,_,h4⟩:=cH hr
    rw [bW,ltN h0,cond_true,ga h1,ae]
    cases x==q with
    | true=>exact ⟨_,rfl⟩
    | false=>
     rw [cond_false,gg (by omega)]
     exact ih (j+1) n h2 (by omega) (by simp only [List.length_cons] at hn;omega)
  have outer:∀ (r:Tyt) (i n:Nat),t.drop i=r→i≤t.length→r.length<n→∃ z,bD k t q n (i:Int)=some z:=by
   intro r
   induction r with
   | nil=>
    intro i n hr hi hn
    obtain ⟨n,rfl⟩:=gE hn
    have:=dy hr
    rw [bD,ltF (by omega),cond_false]
    exact ⟨_,rfl⟩
   | cons x r ih=>
    intro i n hr hi hn
    obtain ⟨n,rfl⟩:=gE hn
    obtain ⟨h0,h1,h2,_,h4⟩:=cH hr
    have hx:=ht.kids x (List.mem_of_getElem? h1)
    rw [bD,ltN h0,cond_true,ga h1,ae]
    exact inner i h0 _ (ih (i+1) n h2 (by omega) (by simp only [List.length_cons] at hn;omega)) x.2 hx x.2 0 (k+18) rfl (Nat.zero_le _) (by omega)
  exact outer t 0 (k+18) rfl (Nat.zero_le _) (by omega)
theorem Uh {k:Nat} (hk:9223372036854775808≤k) {t:Tyt} (ht:FwT t):∀ (d i n g e:Nat) (L:List Int),i+d=t.length→d<n→L.length≤i→(e=0∨e=1)→(L≠[]→e=1)→(∀ r ∈ L,0≤r∧r<(t.length:Int))→L.Nodup∧(∀ r ∈ L,r<(i:Int)) →
  ∃ g' L' e',bB k n t (t.length:Int) g L (i:Int) e=some (g',L',e')∧L'.length≤t.length∧(L'≠[]→e'=1)∧(∀ r ∈ L',0≤r∧r<(t.length:Int))∧L'.Nodup:=by
 have hlen:=ht.len
 intro d
 induction d with
 | zero=>
  intro i n g e L hi hn hL he hne hr hd
  obtain ⟨n,rfl⟩:=gE hn
  rw [bB,ltF (by omega),cond_false]
  exact ⟨g,L,e,rfl,by omega,hne,hr,hd.1⟩
 | succ d ih=>
  intro i n g e L hi hn hL he hne hr hd
  obtain ⟨n,rfl⟩:=gE hn
  obtain ⟨z,hz⟩:=Zu hk ht (i:Int)
  rw [bB,ltT (by omega),cond_true,hz,ae,gg (by omega)]
  cases z == -1 with
  | true=>
   have he1:(e==1||e==0)=true:=by rcases he with rfl | rfl <;> rfl
   rw [cond_true,he1,ct,Dt (by simp;omega),cond_true]
   refine ih (i+1) n (g+1) 1 (L++[(i:Int)]) (by omega) (by omega) (by simp;omega) (.inr rfl) (fun _=>rfl) (fun r hr' => ?_) ⟨?_,fun r hr' => ?_⟩
   ·rcases List.mem_append.1 hr' with h | h
    ·exact hr r h
    ·rw [List.mem_singleton.1 h];omega
   ·refine List.nodup_append.2 ⟨hd.1,by simp,fun a ha b hb => ?_⟩
    have:=hd.2 a ha
    rw [List.mem_singleton.1 hb]
    omega
   ·rcases List.mem_append.1 hr' with h | h
    ·have:=hd.2 r h
     omega
    ·rw [List.mem_singleton.1 h];omega
  | false=>
   rw [cond_false]
   exact ih (i+1) n g e L (by omega) (by omega) (by omega) he hne hr ⟨hd.1,fun r h=>by have:=hd.2 r h;omega⟩
def Rs (w:Nat):WB:=(0,[],Au 1 (w:Int) 0,0,0)
def kf (n:Nat):List WB:=(List.range n).map Rs
def i9 (roots:List (List Int)):List SB:=roots.map fun l=>(0,l,dU)
def CN (c:CF) (t:Tyt) (roots:List (List Int)):PB:=(c,t,List.replicate (cD c).toNat 0,kf c.1.toNat,i9 roots)
def Ny:PB:=((0,0,0,0),[],[],[],[])
section
variable {k:Nat} (hk:9223372036854779000≤k) (c:CF) (t:Tyt) (ht:t.length≤40) (roots:List (List Int))
include hk ht
theorem Kn (o0:Tyt→List Int→Nat→List WB→Int→List SB→Nat→Nat→List Int→Option (PB×Bool)) (t':Tyt) (m:List Int) (W:List WB) (i0:Int) (S:List SB) (C x:List Int) (hx:x.length≤1000) (hS:S.length≤100) (e:Nat) (he:e=9∨e=0) :
  ∀ (r:List Int) (q n len z:Nat) (L:List Int),x.drop q=r→q≤x.length→r.length<n→len≤L.length→L.length≤40→(0<len→z=1)→(∀ y ∈ L.take len,0≤y∧y<(t.length:Int))→(∀ y ∈ x.take q,0≤y∧y<(t.length:Int))→(C++(x.take q++L.take len)).Nodup →
  cL k c t roots o0 n x t' m (x.length:Int) z W len (q:Int) L i0 S e=some (Ny,false) ∨
  ∃ (len' z':Nat) (L':List Int),len'≤L'.length∧L'.length≤40∧(0<len'→z'=1)∧(∀ y ∈ L'.take len',0≤y∧y<(t.length:Int))∧(∀ y ∈ x,0≤y∧y<(t.length:Int))∧(C++(x++L'.take len')).Nodup ∧
   cL k c t roots o0 n x t' m (x.length:Int) z W len (q:Int) L i0 S e=o0 t' m z' W (IntKind.i64.wrap (i0+1)) (S++[(0,x,dU)]) 9 len' L':=by
 have _h:=ht
 intro r
 induction r with
 | nil=>
  intro q n len z L hr hq hn hlen hL hz hy hxq hd
  obtain ⟨n,rfl⟩:=gE hn
  have:=dy hr
  have he1:(e==9||e==0)=true:=by rcases he with rfl | rfl <;> rfl
  refine .inr ⟨len,z,L,hlen,hL,hz,hy,?_,?_,?_⟩
  ·rw [List.take_of_length_le (by omega)] at hxq
   exact hxq
  ·rw [List.take_of_length_le (by omega)] at hd
   exact hd
  ·rw [cL,ltF (by omega),cond_false,abA hx,ae,he1,ct]
   rw [Dt (by simp;omega),cond_true]
 | cons v r ih=>
  intro q n len z L hr hq hn hlen hL hz hy hxq hd
  obtain ⟨n,rfl⟩:=gE hn
  obtain ⟨h0,h1,h2,_,h4⟩:=cH hr
  simp only [List.length_cons] at hn
  rw [cL,ltN h0,cond_true,ga h1,ae,decide_eq_true hlen,ct,WL (k+20) (by rw [List.length_take];omega) (by omega) v,ae]
  rcases Hq (fun y=>v==y) (L.take len) 0 with e1 | ⟨j,y,e1,hj,hvy⟩
  ·rw [e1]
   exact .inl rfl
  ·have hvy':v=y:=by simpa using hvy
   have hjl:j<len:=by
    have:=(List.getElem?_eq_some_iff.1 hj).1
    rw [List.length_take] at this
    omega
   have hyr:=hy y (List.mem_of_getElem? hj)
   rw [e1,Nat.zero_add,ltF (by omega),cond_false,hz (by omega),show ((1:Nat)==1)=true from rfl,ct,gg (by omega),Int.toNat_natCast,Int.toNat_natCast,decide_eq_true (show len≤L.length∧(0:Int)≤(j:Int)∧(j:Int)<((j+1:Nat):Int)∧j+1≤len∧len≤9223372036854775807 by omega),ct,gg (by omega),show len - (j+1 - j)=len - 1 by omega]
   have hc1:(Do (L.take len) j (j+1)).length=len:=by
    rw [He (by omega) (by rw [List.length_take];omega),List.length_take]
    omega
   have hc2:(Do (L.take len) j (j+1)++L.drop len).length=L.length:=by
    rw [List.length_append,hc1,List.length_drop]
    omega
   refine ih (q+1) n (len - 1) 1 _ h2 (by omega) (by omega) (by rw [hc2];omega) (by rw [hc2];exact hL) (fun _=>rfl) ?_ ?_ ?_
   ·intro y' hy'
    rw [List.take_append_of_le_length (by rw [hc1];omega)] at hy'
    unfold Do at hy'
    rw [List.take_append_of_le_length (by simp;omega)] at hy'
    rcases List.mem_append.1 (List.mem_of_mem_take hy') with h | h
    ·exact hy y' (List.mem_of_mem_take h)
    ·exact hy y' (List.mem_of_mem_drop h)
   ·intro y' hy'
    rw [List.take_add_one,h1] at hy'
    rcases List.mem_append.1 hy' with h | h
    ·exact hxq y' h
    ·rw [show y'=v by simpa using h,hvy']
     exact hyr
   ·have hsp:L.take len=(L.take len).take j++y::(L.take len).drop (j+1):=by
     have:=List.take_append_drop j (L.take len)
     rw [List.drop_eq_getElem_cons (by rw [List.length_take];omega)] at this
     have hg : (L.take len)[j]'(by rw [List.length_take]; omega) = y := by
      have:=List.getElem?_eq_getElem (l:=L.take len) (i:=j) (by rw [List.length_take];omega)
      rw [hj] at this
      exact (Option.some.inj this).symm
     rw [hg] at this
     exact this.symm
    have ht1:(Do (L.take len) j (j+1)++L.drop len).take (len - 1)=(L.take len).take j++(L.take len).drop (j+1):=by
     rw [List.take_append_of_le_length (by rw [hc1];omega)]
     unfold Do
     rw [List.take_append_of_le_length (by simp;omega),List.take_of_length_le (by simp;omega)]
    rw [ht1,List.take_add_one,h1]
    rw [hsp] at hd
    refine (List.Perm.nodup_iff ?_).1 hd
    refine List.Perm.append_left C ?_
    rw [List.append_assoc]
    refine List.Perm.append_left _ ?_
    rw [hvy']
    exact List.perm_middle
theorem MQ (hR:roots.length≤3) (hr:∀ l ∈ roots,l.length≤1000) (W:List WB):∀ (r:List (List Int)) (q n len z e:Nat) (L:List Int) (t':Tyt) (m:List Int),roots.drop q=r→q≤roots.length→r.length<n→len≤L.length→L.length≤40→(0<len→z=1)→(e=9∨e=0)→(∀ y ∈ L.take len,0≤y∧y<(t.length:Int))→(∀ l ∈ roots.take q,∀ y ∈ l,0≤y∧y<(t.length:Int))→((roots.take q).flatten++L.take len).Nodup →
  bU k c t roots n t' m z W (q:Int) (i9 (roots.take q)) e len L=some (Ny,false) ∨
  bU k c t roots n t' m z W (q:Int) (i9 (roots.take q)) e len L=some ((c,t',m,W,i9 roots),true)∧(∀ l ∈ roots,∀ y ∈ l,0≤y∧y<(t.length:Int))∧roots.flatten.Nodup:=by
 intro r
 induction r with
 | nil=>
  intro q n len z e L t' m hq' hq hn hlen hL hz he hy hxq hd
  obtain ⟨n,rfl⟩:=gE hn
  have:=dy hq'
  rw [List.take_of_length_le (by omega)] at hxq hd ⊢
  rw [bU,ltF (by omega),cond_false]
  exact .inr ⟨rfl,hxq,(List.nodup_append.1 hd).1⟩
 | cons v r ih=>
  intro q n len z e L t' m hq' hq hn hlen hL hz he hy hxq hd
  obtain ⟨n,rfl⟩:=gE hn
  obtain ⟨h0,h1,h2,_,h4⟩:=cH hq'
  simp only [List.length_cons] at hn
  have hv:=hr v (List.mem_of_getElem? h1)
  have hSl:(i9 (roots.take q)).length≤100:=by unfold i9;rw [List.length_map,List.length_take];omega
  rw [bU,ltN h0,cond_true,ga h1,ae]
  rcases Kn hk c t ht roots (fun s62 s63 s64 s77 s113 s115 s116 s135 s138=>bU k c t roots n s62 s63 s64 s77 s113 s115 s116 s135 s138) t' m W (q:Int) (i9 (roots.take q)) (roots.take q).flatten v hv hSl e he v 0 (k+21) len z L rfl (Nat.zero_le _) (by omega) hlen hL hz hy (by simp) (by simpa using hd) with h | ⟨len',z',L',g1,g2,g3,g4,g5,gd,g6⟩
  ·exact .inl h
  ·have hs:i9 (roots.take q)++[(0,v,dU)]=i9 (roots.take (q+1)):=by
    unfold i9
    rw [List.take_add_one,h1,List.map_append]
    rfl
   rw [hs,gg (by omega)] at g6
   have:=ih (q+1) n len' z' 9 L' t' m h2 (by omega) (by omega) g1 g2 g3 (.inl rfl) g4 (fun l hl=>by
    rw [List.take_add_one,h1] at hl
    rcases List.mem_append.1 hl with h | h
    ·exact hxq l h
    ·rw [show l=v by simpa using h]
     exact g5) (by
    rw [List.take_add_one,h1,List.flatten_append]
    simpa [List.append_assoc] using gd)
   have g6':cL k c t roots (fun s62 s63 s64 s77 s113 s115 s116 s135 s138=>bU k c t roots n s62 s63 s64 s77 s113 s115 s116 s135 s138) (k+21) v t' m (v.length:Int) z W len 0 L (q:Int) (i9 (roots.take q)) e=_:=g6
   rw [g6']
   exact this
theorem Po (hR:roots.length≤3) (hr:∀ l ∈ roots,l.length≤1000) (hc:0≤c.1∧c.1≤8) (t':Tyt) (m L:List Int) (z:Nat) (hL:L.length≤40) (hz:L≠[]→z=1) (hy:∀ y ∈ L,0≤y∧y<(t.length:Int)) (hd:L.Nodup):∀ (d i n e:Nat),(i:Int)+d=c.1→d<n→(e=11∨e=0) →
  cK k c t roots n t' m L z (i:Int) (kf i) e=some (Ny,false) ∨
  cK k c t roots n t' m L z (i:Int) (kf i) e=some ((c,t',m,kf c.1.toNat,i9 roots),true)∧(∀ l ∈ roots,∀ y ∈ l,0≤y∧y<(t.length:Int))∧roots.flatten.Nodup:=by
 intro d
 induction d with
 | zero=>
  intro i n e hi hn he
  obtain ⟨n,rfl⟩:=gE hn
  rw [cK,ltF (by omega),cond_false,show c.1.toNat=i by omega]
  exact MQ hk c t ht roots hR hr (kf i) roots 0 (k+21) L.length z 0 L t' m rfl (Nat.zero_le _) (by omega) (Nat.le_refl _) hL (fun h=>hz (fun e=>by rw [e] at h;cases h)) (.inr rfl) (by rw [List.take_length];exact hy) (by simp) (by simpa using hd)
 | succ d ih=>
  intro i n e hi hn he
  obtain ⟨n,rfl⟩:=gE hn
  have he1:(e==11||e==0)=true:=by rcases he with rfl | rfl <;> rfl
  rw [cK,ltT (by omega),cond_true,Vb,ae,he1,ct]
  rw [Dt (by rw [List.length_append];unfold kf;simp;omega),cond_true,gg (by omega)]
  have hw:kf i++[Rs i]=kf (i+1):=by
   unfold kf
   rw [List.range_succ,List.map_append]
   rfl
  have:=ih (i+1) n 11 (by omega) (by omega) (.inl rfl)
  rw [← hw] at this
  exact this
end
theorem WS {k:Nat} (hk:9223372036854779000≤k) (c:CF) {t:Tyt} (ht:FwT t) {roots:List (List Int)} (hr:∀ l ∈ roots,l.length≤1000) :
  fL k c t roots=some (Ny,false)∨fL k c t roots=some (CN c t roots,true)∧eu c=true∧rG t=true∧roots.length≤3∧(∀ l ∈ roots,∀ y ∈ l,0≤y∧y<(t.length:Int))∧roots.flatten.Nodup:=by
 unfold fL
 try simp only [Prod.eta]
 rw [fe,ae]
 cases hm:eu c with
 | false=>exact .inl rfl
 | true=>
  have hc:=aQ hm
  rw [Bool.not_true,cond_false,IA _ (by omega) t ht.wt,ae]
  cases ht2:rG t with
  | false=>exact .inl rfl
  | true=>
   rw [Bool.not_true,cond_false]
   by_cases h3:(3:Int)<roots.length
   ·rw [ltT h3]
    exact .inl rfl
   ·obtain ⟨g',L',e',h1,h2,h4,h5,h6⟩:=Uh (k:=k) (by omega) ht t.length 0 (k+20) 0 0 [] (by omega) (by have:=ht.len;omega) (Nat.zero_le _) (.inl rfl) (fun h=>absurd rfl h) (by simp) ⟨List.nodup_nil,by simp⟩
    rw [ltF (by omega),cond_false,IA _ (by omega) t ht.wt,ae,ht2,Bool.not_true,cond_false]
    refine (show _∨_ from ?_)
    have h1':bB k (k+20) t (t.length:Int) 0 [] 0 0=some (g',L',e'):=h1
    rw [h1',ae,Mz _ (by omega) ht,ae,ahg (by omega),ae]
    have hl:=ht.len
    rcases Po (k:=k) hk c t ht.len roots (by omega) hr (by omega) t (List.replicate (cD c).toNat 0) L' e' (by omega) h4 h5 h6 c.1.toNat 0 (k+21) 0 (by omega) (by omega) (.inr rfl) with h | ⟨h,h'⟩
    ·exact .inl h
    ·exact .inr ⟨h,rfl,rfl,by omega,h'⟩
theorem aaq {k:Nat} (hk:9223372036854779000≤k) (c:CF) {t:Tyt} (ht:FwT t) {roots:List (List Int)} (hr:∀ l ∈ roots,l.length≤1000) :
  fL k c t roots=some (Ny,false)∨fL k c t roots=some (CN c t roots,true)∧eu c=true∧rG t=true∧roots.length≤3∧(∀ l ∈ roots,∀ y ∈ l,0≤y∧y<(t.length:Int)):=by
 rcases WS hk c ht hr with h | ⟨a,b,d,e,f,_⟩
 ·exact .inl h
 ·exact .inr ⟨a,b,d,e,f⟩
end Go.Ab
set_option linter.unusedVariables false
namespace Go.Ab
theorem SF {k:Nat} (hk:9223372036854775808≤k) {l:List (List Int)} (hl:l.length≤9223372036854775807):∃ b,bS k l=some b∧(b=true→l.length≤10∧∀ x ∈ l,x.length≤60):=by
 unfold bS
 have key:∀ (r:List (List Int)) (q n:Nat),l.drop q=r→q≤l.length→r.length<n→(∀ x ∈ l.take q,x.length≤60)→∃ b,a7 k l n (q:Int)=some b∧(b=true→l.length≤10∧∀ x ∈ l,x.length≤60):=by
  intro r
  induction r with
  | nil=>
   intro q n hr hq hn hx
   obtain ⟨n,rfl⟩:=gE hn
   have:=dy hr
   rw [List.take_of_length_le (by omega)] at hx
   rw [a7,ltF (by omega),cond_false]
   refine ⟨_,rfl,fun h=>⟨?_,hx⟩⟩
   have:=of_decide_eq_true h
   omega
  | cons v r ih=>
   intro q n hr hq hn hx
   obtain ⟨n,rfl⟩:=gE hn
   obtain ⟨h0,h1,h2,_,h4⟩:=cH hr
   rw [a7,ltN h0,cond_true]
   by_cases hq10:(q:Int)≤10
   ·rw [leT hq10,cond_true,ga h1,ae]
    by_cases h60:(60:Int)<v.length
    ·rw [ltT h60,cond_true]
     exact ⟨_,rfl,fun h=>by cases h⟩
    ·rw [ltF (by omega),cond_false,gg (by omega)]
     refine ih (q+1) n h2 (by omega) (by simp only [List.length_cons] at hn;omega) fun x hx' => ?_
     rw [List.take_add_one,h1] at hx'
     rcases List.mem_append.1 hx' with h | h
     ·exact hx x h
     ·rw [show x=v by simpa using h];omega
   ·rw [leF (by omega),cond_false]
    refine ⟨_,rfl,fun h => ?_⟩
    have:=of_decide_eq_true h
    omega
 exact key l 0 k rfl (Nat.zero_le _) (by omega) (by simp)
theorem Ue {k:Nat} (p:PB) (v:PK):fy k p v=fK k p [v]:=by
 unfold fy
 simp only [Prod.eta]
 cases fK k p [v] <;> rfl
theorem Bh:∀ {l:List PK} {n:Nat} {p:PB},Good n p→gh p=true→Good (n+l.length) (mh p l).1
 | [],n,p,h,_=>h
 | k::l,n,p,h,hm=>by
  rw [mh]
  split
  ·rename_i hk
   have:=Bh (l:=l) (DO (k:=k) h (ml hm).1) (BK hm hk)
   rw [List.length_cons,show n+(l.length+1)=n+1+l.length by omega]
   exact this
  ·have:=Bh (l:=l) h hm
   rw [List.length_cons]
   exact ⟨this.t,this.tl,this.m,fun x hx=>⟨(this.w x hx).f,by have:=(this.w x hx).s;omega,(this.w x hx).sp⟩,this.s⟩
theorem Xz {l:List PK} {p:PB} (hm:gh p=true):gh (mh p l).1=true:=
 (Fy (P:=fun _=>True) (fun _ _ _ _ _=>trivial) hm trivial).2
theorem H8 {p:PB} (h:gh p=true):p.2.2.2.1.length≤8∧p.2.2.2.2.length≤3∧12≤p.2.2.1.length∧p.2.2.1.length≤190:=by
 obtain ⟨m1,m2,m3,m4,_⟩:=ml h
 have hc:=aQ m1
 have:=(fb (m4 0 _ (List.getElem?_eq_getElem (show 0<p.2.2.2.1.length by omega)))).2.1
 have:=ii m1
 omega
theorem Vl {c:CF} {t:Tyt} {roots:List (List Int)} (hc:eu c=true) (ht:rG t=true) (hR:roots.length≤3) (hr:∀ l ∈ roots,∀ y ∈ l,0≤y∧y<(t.length:Int)):gh (CN c t roots)=true:=by
 have hm:=aQ hc
 have hs:=ii hc
 refine B9 hc ?_ ?_ (fun j x hx => ?_) (fun x hx => ?_)
 ·show ((kf c.1.toNat).length:Int)=c.1
  unfold kf
  rw [List.length_map,List.length_range]
  omega
 ·show (i9 roots).length≤3
  unfold i9
  rw [List.length_map]
  exact hR
 ·have hx':(kf c.1.toNat)[j]? = some x:=hx
  unfold kf at hx'
  rw [List.getElem?_map,Option.map_eq_some_iff] at hx'
  obtain ⟨i,hi,rfl⟩:=hx'
  obtain ⟨hj,rfl⟩:=List.getElem?_eq_some_iff.1 hi
  rw [List.length_range] at hj
  rw [List.getElem_range]
  refine NH hc ?_ ht ⟨by omega,by show (j:Int)<c.1;omega,Int.le_refl 0,(show (0:Int)<16 by decide)⟩ (kZ.2 ⟨ht,fun y hy=>absurd hy (by simp [Rs])⟩)
  show ((List.replicate (cD c).toNat (0:Int)).length:Int)=cD c
  rw [List.length_replicate]
  omega
 ·have hx':x ∈ i9 roots:=hx
  unfold i9 at hx'
  obtain ⟨l,hl,rfl⟩:=List.mem_map.1 hx'
  unfold uk
  simp only [Bool.and_eq_true,List.all_eq_true,decide_eq_true_eq,Bool.or_eq_true]
  exact ⟨⟨by decide,hr l hl⟩,.inl (by trivial)⟩
theorem QK {c:CF} {t:Tyt} {roots:List (List Int)} (ht:FwT t) (hr:∀ l ∈ roots,l.length≤60):Good 0 (CN c t roots):=by
 have z:(0:Int)≤0∧(0:Int)≤18446744073709551615:=by decide
 refine ⟨ht,by have:=ht.len;show t.length≤1000;omega,?_,fun x hx => ?_,fun x hx => ?_⟩
 ·refine ⟨?_,fun v hv => ?_⟩
  ·show (List.replicate (cD c).toNat (0:Int)).length≤_
   rw [List.length_replicate]
   have:cD c≤190:=by
    unfold cD
    split
    ·rename_i h
     have hm:=aQ h
     have:=cX h (w:=c.1) (by omega) (by omega)
     omega
    ·omega
   omega
  ·rw [List.eq_of_mem_replicate hv]
   exact z
 ·have hx':x ∈ kf c.1.toNat:=hx
  unfold kf at hx'
  obtain ⟨i,_,rfl⟩:=List.mem_map.1 hx'
  exact ⟨⟨z,z,z⟩,Nat.le_refl _,by show (0:Int)≤9223372036854775807;decide⟩
 ·have hx':x ∈ i9 roots:=hx
  unfold i9 at hx'
  obtain ⟨l,hl,rfl⟩:=List.mem_map.1 hx'
  exact ⟨⟨z,z,z⟩,by have:=hr l hl;show l.length≤1000;omega⟩
end Go.Ab
set_option linter.unusedVariables false
namespace Go.Ab
def ahm:FR:=(-1,0,0,0,0,0,0)
structure Pl where
 m:List Int
 left:List (List Int)
 cur:List FR
 over:List FR
def agp (m:List Int) (w:Int):Nat:=if gB (ai m 2) w=true then 1 else 0
def aa7 (f:FR) (w:Int):Nat:=if Qf f w=true then 1 else 0
def ad2 (l:List FR) (w:Int):Nat:=l.countP fun f=>Qf f w
def X6 (c:CF) (m:List Int) (w:Int):Nat:=if ai m (bR c w)=0 then 0 else 1
def w3B (f:FR):Nat:=if f.1=5∧3≤f.2.1 then 1 else 0
def w4B (f:FR):Prop:=f.1=5∧f.2.1=4
def aiD (x:Int):Prop:=0≤x∧x≤18446744073709551615
def aiB (n:Nat) (i:Nat) (f:FR):Prop:=
 f=ahm∨∃ op pc X Y:Int,f=(op,pc,(i:Int),0,X,Y,0)∧aiD X∧aiD Y ∧
  ((op=5∧0≤pc∧pc≤4)∨(op=6∧0≤pc∧pc≤2∧(pc=2→Y<n))∨(op=7∧0≤pc∧pc≤2∧(pc=2→0<Y∧Y<65536∧∀ j:Nat,n≤j→j<16→gB Y j=false)))
structure OkP (c:CF) (n:Nat) (m:List Int) (l:List FR):Prop where
 wm:Wm m
 may:eu c=true
 cn:c.1=n
 len:(m.length:Int)=cD c
 clen:l.length=n
 frm:∀ i f,l[i]? = some f→aiB n i f
 low:∀ j:Nat,n≤j→j<16→gB (ai m 2) j=false
 par:∀ w:Nat,w<n→ai m (bR c w)=0∨ai m (bR c w)=1
 sgn:∀ (w:Nat) f,l[w]? = some f→agp m w+ad2 l w+X6 c m w=w3B f
 end4:∀ (w:Nat) f,l[w]? = some f→w4B f→X6 c m w=1
theorem Oj {l:List FR} {i:Nat} {f g:FR} (hf:l[i]? = some f) (w:Int):ad2 (l.set i g) w+aa7 f w=ad2 l w+aa7 g w:=by
 obtain ⟨hi,rfl⟩:=List.getElem?_eq_some_iff.1 hf
 have hle:l[i] ∈ l:=List.getElem_mem _
 unfold ad2 aa7
 rw [List.countP_set hi]
 by_cases h:Qf l[i] w=true
 ·have:0<l.countP fun f=>Qf f w:=List.countP_pos_iff.2 ⟨_,hle,h⟩
  simp only [h,if_true]
  omega
 ·simp only [h,if_false]
  simp
theorem OkP.step {c:CF} {n:Nat} {m m':List Int} {l:List FR} (h:OkP c n m l) {i:Nat} {f g:FR} (hf:l[i]? = some f) (wm:Wm m') (len:m'.length=m.length) (hg:aiB n i g)
  (low:∀ j:Nat,n≤j→j<16→gB (ai m' 2) j=false) (par:∀ w:Nat,w<n→ai m' (bR c w)=0∨ai m' (bR c w)=1)
  (sg:∀ w:Nat,w<n→agp m' w+aa7 g w+X6 c m' w+(if w=i then w3B f else 0)=agp m w+aa7 f w+X6 c m w+(if w=i then w3B g else 0))
  (e4:w4B g→X6 c m' i=1) (e5:∀ w:Nat,w<n→w≠i→X6 c m w=1→X6 c m' w=1):OkP c n m' (l.set i g):=by
 have hi:i<l.length:=(List.getElem?_eq_some_iff.1 hf).1
 have key:∀ (w:Nat) (x:FR),(l.set i g)[w]? = some x→w<n∧((w=i∧x=g)∨(w≠i∧l[w]? = some x)):=by
  intro w x hx
  have hw:=(List.getElem?_eq_some_iff.1 hx).1
  rw [List.length_set,h.clen] at hw
  refine ⟨hw,?_⟩
  by_cases e:w=i
  ·subst e
   rw [List.getElem?_set_self hi] at hx
   exact .inl ⟨rfl,(Option.some.inj hx).symm⟩
  ·rw [List.getElem?_set_ne (by omega)] at hx
   exact .inr ⟨e,hx⟩
 refine ⟨wm,h.may,h.cn,by rw [len];exact h.len,by rw [List.length_set];exact h.clen,?_,low,par,?_,?_⟩
 ·intro w x hx
  rcases key w x hx with ⟨_,⟨rfl,rfl⟩ | ⟨_,hx⟩⟩
  ·exact hg
  ·exact h.frm w x hx
 ·intro w x hx
  have ho:=Oj (g:=g) hf (w:Int)
  rcases key w x hx with ⟨hw,⟨rfl,rfl⟩ | ⟨e,hx⟩⟩
  ·have h1:=h.sgn w f hf
   have h2:=sg w hw
   rw [if_pos rfl,if_pos rfl] at h2
   omega
  ·have h1:=h.sgn w x hx
   have h2:=sg w hw
   rw [if_neg e,if_neg e] at h2
   omega
 ·intro w x hx hx4
  rcases key w x hx with ⟨hw,⟨rfl,rfl⟩ | ⟨e,hx⟩⟩
  ·exact e4 hx4
  ·exact e5 w hw e (h.end4 w x hx hx4)
section
variable {c:CF} {m:List Int} {i a5 X:Int} (hmay:eu c=true) (hlen:(m.length:Int)=cD c)
include hmay hlen
end
theorem YC (E M:Int):mkB (rE E M)=mkB M:=by unfold mkB rE;omega
theorem od {X j:Int} (h0:0≤X) (h1:X≤18446744073709551615) (hj:0≤j) (hj2:j<16):gB (mA X) j=(gB X j&&decide (j≠wP (mkB X))):=by
 have hr:=oN (epB X+1) (GF (mkB X))
 have hm:=ue h0
 have hc:0≤GF (mkB X)∧GF (mkB X)<65536:=by
  unfold GF
  split
  ·omega
  ·rcases lh hm.1 hm.2 with ⟨h2,h3⟩ | ⟨a,l,h2,h3,h4⟩
   ·omega
   ·have hp:(0:Nat)<2 ^ l:=Nat.pow_pos (by decide)
    have hw:((2 ^ l:Nat):Int)=(2:Int) ^ l:=by rw [Int.natCast_pow];rfl
    rw [h3,Int.toNat_natCast,← hw]
    omega
 unfold mA
 rw [← m6 hr.1 hj hj2,YC,m6 hc.1 hj hj2,UP hm.1 hm.2 hj hj2,m6 h0 hj hj2]
theorem HR {X:Int} (h0:0≤X) (h:mkB X=0) {j:Int} (hj:0≤j) (hj2:j<16):gB X j=false:=by
 rw [← m6 h0 hj hj2,h]
 have:=lW 0 (w:=j) hj
 rw [Nat.zero_testBit] at this
 exact this
end Go.Ab
set_option linter.unusedVariables false
namespace Go.Ab
structure Adr (c:CF) (j:Int):Prop where
 on:∀ w x,x=0∨x=1→onW c w x≠j
 slot:∀ w x,0≤x→x≤18446744073709551615→oC c w x≠j
 seq:∀ x,pQ c x≠j
 val:∀ x,H3 c x≠j
 n0:(0:Int)≠j
 n1:(1:Int)≠j
 n3:(3:Int)≠j
 n4:(4:Int)≠j
 n5:(5:Int)≠j
theorem HC {a b D x y:Int} (hD:D=1∨D=2∨D=4∨D=8∨D=16) (hx:0≤x∧x<3+D) (hy:0≤y∧y<3+D) (h:x≠y):a*(3+D)+x≠b*(3+D)+y:=by
 rcases hD with rfl | rfl | rfl | rfl | rfl <;> omega
theorem agA {c:CF}:Adr c 2:=by
 refine ⟨fun w x hx => ?_,fun w x h0 h1 => ?_,fun x => ?_,fun x => ?_,by decide,by decide,by decide,by decide,by decide⟩
 ·unfold onW
  split
  ·rename_i h
   have hm:=aQ h.1
   have:=cX h.1 h.2.1 (by omega)
   omega
  ·omega
 ·unfold oC onW
  split
  ·rename_i h
   have hm:=aQ h.1
   have:=cX h.1 h.2.1 (by omega)
   have:=pC h0 h1 (show 1≤c.2.1 by omega) (by omega)
   omega
  ·omega
 ·unfold pQ
  split
  ·rename_i h
   have:=aQ h
   have:=Int.emod_nonneg x (show c.2.2.1≠0 by omega)
   omega
  ·omega
 ·unfold H3
  split
  ·rename_i h
   have:=aQ h
   have:=Int.emod_nonneg x (show c.2.2.1≠0 by omega)
   omega
  ·omega
theorem ahd {c:CF} {v:Int} (hc:eu c=true) (h0:0≤v) (h1:v<c.1):Adr c (bR c v):=by
 have hp:bR c v=6+2*c.2.2.1+(v*(3+c.2.1)+2):=by
  unfold bR
  rw [if_pos ⟨hc,h0,h1⟩,wN]
  omega
 have hm:=aQ hc
 have ht:=cX hc h0 (by omega)
 rw [hp]
 refine ⟨fun w x hx => ?_,fun w x g0 g1 => ?_,fun x => ?_,fun x => ?_,by omega,by omega,by omega,by omega,by omega⟩
 ·unfold onW
  split
  ·have:=HC (a:=w) (b:=v) hm.2.2.1 (x:=x) (y:=2) (by omega) (by omega) (by omega)
   unfold wN
   omega
  ·omega
 ·unfold oC onW
  split
  ·have ha:=pC g0 g1 (show 1≤c.2.1 by omega) (by omega)
   have:=HC (a:=w) (b:=v) hm.2.2.1 (x:=3+rJ .u64 x (c.2.1 - 1)) (y:=2) (by omega) (by omega) (by omega)
   unfold wN
   omega
  ·omega
 ·unfold pQ
  rw [if_pos hc]
  have a:=Int.emod_lt_of_pos x (show 0<c.2.2.1 by omega)
  have b:0≤v*(3+c.2.1):=ht.2.2.2
  generalize x%c.2.2.1=g at a ⊢
  omega
 ·unfold H3
  rw [if_pos hc]
  have a:=Int.emod_lt_of_pos x (show 0<c.2.2.1 by omega)
  have b:0≤v*(3+c.2.1):=ht.2.2.2
  generalize x%c.2.2.1=g at a ⊢
  omega
section
variable {c:CF} {m:List Int} {f:FR} {j:Int} (hj:Adr c j) (hf:Wf f)
include hj hf
theorem PP:ai (nc c m f).1 j=ai m j:=by
 have w4:=hf.2.1
 unfold nc
 repeat' split
 all_goals first | rfl | exact ks (hj.slot _ _ w4.1 w4.2) | exact ks (hj.on _ _ (by decide))
theorem WG:ai (D6 c m f).1 j=ai m j:=by
 have _h:=hf
 unfold D6
 dsimp only
 repeat' split
 all_goals first | rfl | exact ks (hj.on _ _ (by decide)) | exact kc (hj.on _ _ (by decide))
theorem Lo:ai (gO c m f).1 j=ai m j:=by
 have _h:=hf
 unfold gO
 dsimp only
 repeat' split
 all_goals first | rfl | exact kc (hj.on _ _ (by decide))
theorem FQ:ai (oP c m f).1 j=ai m j:=by
 have _h:=hf
 unfold oP
 try dsimp only
 repeat' split
 all_goals first | rfl | exact ks (hj.seq _) | exact ks (hj.val _) | exact kc hj.n4 | exact kc hj.n5
theorem Ln:ai (Ep c m f).1 j=ai m j:=by
 have _h:=hf
 unfold Ep
 try dsimp only
 repeat' split
 all_goals first | rfl | exact ks (hj.seq _) | exact ks (hj.val _) | exact kc hj.n4 | exact kc hj.n5
theorem uO (h5:f.1<5):ai (da c m f).1 j=ai m j:=by
 unfold da Aa dH oU w8
 repeat' split
 all_goals first | with_reducible rfl | with_reducible exact PP hj hf | with_reducible exact WG hj hf | with_reducible exact Lo hj hf | with_reducible exact FQ hj hf | with_reducible exact Ln hj hf | (exfalso;omega)
end
section
variable {c:CF} {m:List Int} {f:FR}
theorem Wv:(nc c m f).2.1=f.1:=by
 unfold nc
 repeat' split
 all_goals rfl
theorem ZB:(D6 c m f).2.1=f.1:=by
 unfold D6
 dsimp only
 repeat' split
 all_goals rfl
theorem Oq:(gO c m f).2.1=f.1:=by
 unfold gO
 dsimp only
 repeat' split
 all_goals rfl
theorem LD:(oP c m f).2.1=f.1:=by
 unfold oP
 try dsimp only
 repeat' split
 all_goals rfl
theorem Sw:(Ep c m f).2.1=f.1:=by
 unfold Ep
 try dsimp only
 repeat' split
 all_goals rfl
theorem rH (h5:f.1<5):(da c m f).2.1=f.1:=by
 unfold da Aa dH oU w8
 repeat' split
 all_goals first | with_reducible rfl | with_reducible exact Wv | with_reducible exact ZB | with_reducible exact Oq | with_reducible exact LD | with_reducible exact Sw | (exfalso;omega)
end
def pkW (x:WB):Prop:=x.1=8∧3≤x.2.2.1.2.1
def owF (f:FR) (v:Int):Prop:=f.2.1=2∧f.2.2.2.2.2.1=v
def owW (x:WB) (v:Int):Prop:=x.1=14∧owF x.2.2.1 v
def owS (x:SB) (v:Int):Prop:=x.1=4∧owF x.2.2 v
def Fwk (n w:Int) (x:WB):Prop:=
 (x.1=0∨x.1=2∨x.1=3∨x.1=11∨x.1=12→x.2.2.1.1<5)∧(x.1=5→x.2.2.1=Au 5 w 0) ∧
 (x.1=6∨x.1=7→x.2.2.1.1=5∧x.2.2.1.2.1=1∧x.2.2.1.2.2.1=w∧x.2.2.1.2.2.2.2.2.2=0) ∧
 (x.1=8→x.2.2.1.1=5∧(0≤x.2.2.1.2.1∧x.2.2.1.2.1≤4)∧x.2.2.1.2.2.1=w∧x.2.2.1.2.2.2.2.2.2=0) ∧
 (x.1=14→x.2.2.1.1=6∧(0≤x.2.2.1.2.1∧x.2.2.1.2.1≤2)∧x.2.2.1.2.2.2.2.2.2=0∧(x.2.2.1.2.1=2→x.2.2.1.2.2.2.2.2.1<n))
def Fsb (n:Int) (x:SB):Prop:=
 (x.1=2→x.2.2.1<5)∧(x.1=4→x.2.2.1=6∧(0≤x.2.2.2.1∧x.2.2.2.1≤2)∧x.2.2.2.2.2.2.2.2=0∧(x.2.2.2.1=2→x.2.2.2.2.2.2.2.1<n))
def SX (n:Int) (m:List Int):Prop:=∀ j:Int,n≤j→j<16→gB (ai m 2) j=false
structure Ef (c:CF) (m m':List Int) (pk0 pk1:Prop) (me:Int) (ow0 ow1:Int→Prop):Prop where
 low:SX c.1 m→SX c.1 m'
 bit:∀ v,0≤v→v<c.1→gB (ai m 2) v=true→gB (ai m' 2) v=true∨ow1 v
 par:∀ v,0≤v→v<c.1→ai m (bR c v)≠0→ai m' (bR c v)≠0∨v=me∧¬ pk1
 owe:∀ v,0≤v→v<c.1→ow0 v→ow1 v∨ai m' (bR c v)≠0
 new:pk1→pk0∨gB (ai m' 2) me=true∨ai m' (bR c me)≠0
section
variable {c:CF} {m m':List Int} {pk0 pk1:Prop} {me:Int} {ow0 ow1:Int→Prop}
theorem Ef.calm (hc:eu c=true) (h:∀ j,Adr c j→ai m' j=ai m j) (ho:∀ v,ow0 v→ow1 v) (hp:pk1→pk0):Ef c m m' pk0 pk1 me ow0 ow1:=by
 have h2:=h 2 agA
 refine ⟨fun hl j h0 h1=>by rw [h2];exact hl j h0 h1,fun v _ _ hb => .inl (by rw [h2];exact hb),fun v h0 h1 hb => .inl (by rw [h _ (ahd hc h0 h1)];exact hb),fun v _ _ hv => .inl (ho v hv),fun h => .inl (hp h)⟩
theorem Ef.same (ho:∀ v,ow0 v→ow1 v) (hp:pk1→pk0):Ef c m m pk0 pk1 me ow0 ow1:=
 ⟨fun hl=>hl,fun v _ _ hb => .inl hb,fun v _ _ hb => .inl hb,fun v _ _ hv => .inl (ho v hv),fun h => .inl (hp h)⟩
end
section
variable {c:CF} {m:List Int} {f:FR} (hc:eu c=true) (hl:(m.length:Int)=cD c) (hm:Wm m) (hf:Wf f)
include hc hl hm hf
theorem Uv {w:Int} (h0:0≤w) (h1:w<c.1) (ho:f.1=5) (hp:0≤f.2.1∧f.2.1≤4) (hw:f.2.2.1=w) (hr:f.2.2.2.2.2.2=0) :
  Ef c m (d8 c m f).1 (3≤f.2.1) (b9 (d8 c m f).2=false∧3≤(d8 c m f).2.2.1) w (fun _=>False) (fun _=>False) ∧
  (b9 (d8 c m f).2=false→(d8 c m f).2.1=5∧(0≤(d8 c m f).2.2.1∧(d8 c m f).2.2.1≤4)∧(d8 c m f).2.2.2.1=w∧(d8 c m f).2.2.2.2.2.2.2=0):=by
 have hmc:=aQ hc
 have hs:=ii hc
 obtain ⟨op,pc,i,v,X,Y,res⟩:=f
 simp only at ho hp hw hr
 subst ho hw hr
 have hg:ln c m (5,pc,i,v,X,Y,0) 5 5=true:=by
  unfold ln
  rw [hc,decide_eq_true hl,decide_eq_true ⟨rfl,h0,h1,rfl,hp.1,by show pc<5;omega⟩]
  rfl
 have hov:∀ a b d e g:Int,b9 (5,a,b,d,e,g,0)=false:=fun _ _ _ _ _=>rfl
 have hend:∀ a b:Int,a≠0→¬ b9 (dR (5,pc,i,v,X,Y,0) a b)=false:=fun a b h=>by unfold b9 dR;simp [h]
 unfold d8
 rw [hg,if_neg (by decide)]
 dsimp only
 rcases (show pc=0∨pc=1∨pc=2∨pc=3∨pc=4 by omega) with rfl | rfl | rfl | rfl | rfl
 ·rw [if_pos rfl]
  exact ⟨.same (fun _ h=>h) (fun h=>absurd h.2 (show ¬ (3:Int)≤1 from by decide)),fun _=>⟨rfl,⟨(by decide:(0:Int)≤1),(by decide:(1:Int)≤4)⟩,rfl,rfl⟩⟩
 ·rw [if_neg (by decide),if_pos rfl]
  split
  ·exact ⟨.same (fun _ h=>h) (fun h=>absurd h.2 (show ¬ (3:Int)≤2 from by decide)),fun _=>⟨rfl,⟨(by decide:(0:Int)≤2),(by decide:(2:Int)≤4)⟩,rfl,rfl⟩⟩
  ·exact ⟨.same (fun _ h=>h) (fun h=>absurd h.1 (hend 4 0 (by decide))),fun h=>absurd h (hend 4 0 (by decide))⟩
 ·rw [if_neg (by decide),if_neg (by decide),if_pos rfl]
  unfold nG
  split
  ·rename_i e
   have hY:=cq hm 2
   rw [e.2.2] at hY
   have hb:∀ u:Int,0≤u→gB (ai (aJ m 2 (Cy Y i)) 2) u=(decide (u=i)||gB (ai m 2) u):=by
    intro u hu
    rw [fM _ (by decide) e.2.1,Kr hY.1 hY.2 h0 (by omega) hu,e.2.2]
   refine ⟨⟨fun hz j g0 g1 => ?_,fun u g0 g1 hu => .inl ?_,fun u g0 g1 hu => .inl ?_,fun u _ _ hu=>hu.elim,fun _ => .inr (.inl ?_)⟩,fun _=>⟨rfl,⟨(by decide:(0:Int)≤3),(by decide:(3:Int)≤4)⟩,rfl,rfl⟩⟩
   ·rw [hb j (by omega),hz j g0 g1,decide_eq_false (by omega)]
    rfl
   ·rw [hb u g0,hu,Bool.or_true]
   ·have hA:=ahd hc g0 g1
    have:(2:Int)≠bR c u:=by
     have:=cX hc g0 (by omega)
     unfold bR
     rw [if_pos ⟨hc,g0,g1⟩]
     omega
    rw [aH _ this]
    exact hu
   ·rw [hb i h0,decide_eq_true rfl,Bool.true_or]
  ·exact ⟨.same (fun _ h=>h) (fun h=>absurd h.2 (show ¬ (3:Int)≤1 from by decide)),fun _=>⟨rfl,⟨(by decide:(0:Int)≤1),(by decide:(1:Int)≤4)⟩,rfl,rfl⟩⟩
 ·rw [if_neg (by decide),if_neg (by decide),if_neg (by decide),if_pos rfl]
  refine ⟨.same (fun _ h=>h) (fun _=>(by decide:(3:Int)≤3)),fun _=>⟨rfl,?_,rfl,rfl⟩⟩
  dsimp only
  split <;> omega
 ·rw [if_neg (by decide),if_neg (by decide),if_neg (by decide),if_neg (by decide)]
  have hend':¬ b9 (dR (5,4,i,v,X,Y,0) 1 0)=false:=hend 1 0 (by decide)
  have hA:∀ j,j=2∨(∃ u,0≤u∧u<c.1∧u≠i∧j=bR c u)→ai (aJ m (bR c i) 0) j=ai m j:=by
   intro j hj
   refine aH 0 ?_
   have:=cX hc h0 (by omega)
   rcases hj with rfl | ⟨u,g0,g1,hu,rfl⟩
   ·unfold bR
    rw [if_pos ⟨hc,h0,h1⟩]
    omega
   ·exact NK ⟨hc,hl,h0,h1⟩ ⟨hc,hl,g0,g1⟩ (Ne.symm hu)
  refine ⟨⟨fun hz j g0 g1 => ?_,fun u g0 g1 hu => .inl ?_,fun u g0 g1 hu => ?_,fun u _ _ hu=>hu.elim,fun h=>absurd h.1 hend'⟩,fun h=>absurd h hend'⟩
  ·rw [hA 2 (.inl rfl)]
   exact hz j g0 g1
  ·rw [hA 2 (.inl rfl)]
   exact hu
  ·by_cases e:u=i
   ·exact .inr ⟨e,fun h=>absurd h.1 hend'⟩
   ·rw [hA _ (.inr ⟨u,g0,g1,e,rfl⟩)]
    exact .inl hu
theorem Lr {pk0 pk1:Prop} {me:Int} (hpk:¬ pk1) (hlow:SX c.1 m) (ho:f.1=6) (hp:0≤f.2.1∧f.2.1≤2) (hr:f.2.2.2.2.2.2=0) (hy:f.2.1=2→f.2.2.2.2.2.1<c.1) :
  Ef c m (dc c m f).1 pk0 pk1 me (owF f) (fun v=>b9 (dc c m f).2=false∧owF (dc c m f).2 v) ∧
  (b9 (dc c m f).2=false→(dc c m f).2.1=6∧(0≤(dc c m f).2.2.1∧(dc c m f).2.2.1≤2)∧(dc c m f).2.2.2.2.2.2.2=0∧((dc c m f).2.2.1=2→(dc c m f).2.2.2.2.2.2.1<c.1)):=by
 have _h:=hm
 have hmc:=aQ hc
 have hs:=ii hc
 have hX:=hf.2.1
 have hYr:=hf.2.2
 obtain ⟨op,pc,i,v,X,Y,res⟩:=f
 simp only at ho hp hr hy hX hYr
 subst ho hr
 have hg:nm c m (6,pc,i,v,X,Y,0)=true:=by
  unfold nm
  rw [hc,decide_eq_true hl,decide_eq_true (.inl rfl),decide_eq_true ⟨rfl,hp.1,hp.2⟩]
  rfl
 have hend:∀ a b:Int,a≠0→¬ b9 (dR (6,pc,i,v,X,Y,0) a b)=false:=fun a b h=>by unfold b9 dR;simp [h]
 unfold dc
 rw [hg,if_neg (by decide)]
 dsimp only
 rcases (show pc=0∨pc=1∨pc=2 by omega) with rfl | rfl | rfl
 ·rw [if_pos rfl]
  refine ⟨.same (fun u h=>absurd h.1 (show ¬ (0:Int)=2 from by decide)) (fun h=>absurd h hpk),fun _=>⟨rfl,⟨(by decide:(0:Int)≤1),(by decide:(1:Int)≤2)⟩,rfl,fun h=>absurd h (show ¬ (1:Int)=2 from by decide)⟩⟩
 ·rw [if_neg (by decide),if_pos rfl]
  split
  ·rename_i e
   dsimp only
   have h6:((6:Int)=6):=rfl
   simp only [if_true]
   have hmk:=ue hX.1
   have h2:ai (aJ m 2 (mA X)) 2=mA X:=fM _ (by decide) (by omega)
   have hpar:∀ u,0≤u→u<c.1→ai (aJ m 2 (mA X)) (bR c u)=ai m (bR c u):=by
    intro u g0 g1
    refine aH _ ?_
    have:=cX hc g0 (by omega)
    unfold bR
    rw [if_pos ⟨hc,g0,g1⟩]
    omega
   have hlowX:∀ j:Int,c.1≤j→j<16→gB X j=false:=by rw [← e];exact hlow
   have hlow':SX c.1 (aJ m 2 (mA X)):=by
    intro j g0 g1
    rw [h2,od hX.1 hX.2 (by omega) g1,hlowX j g0 g1]
    rfl
   by_cases hz:mkB X=0
   ·rw [if_pos hz]
    refine ⟨⟨fun _=>hlow',fun u g0 g1 hu => ?_,fun u g0 g1 hu => .inl (by rw [hpar u g0 g1];exact hu),fun u _ _ hu=>absurd hu.1 (show ¬ (1:Int)=2 from by decide),fun h=>absurd h hpk⟩,fun h=>absurd h (hend 3 0 (by decide))⟩
    rw [e,HR hX.1 hz g0 (by omega)] at hu
    cases hu
   ·rw [if_neg hz]
    rcases lh hmk.1 hmk.2 with ⟨g1,_⟩ | ⟨a,b,g1,g2,g3⟩
    ·exact absurd g1 hz
    ·have hb:gB (mkB X) (wP (mkB X))=true:=MI (by omega)
     rw [g2] at hb ⊢
     rw [m6 hX.1 (by omega) (by omega)] at hb
     have hbn:(b:Int)<c.1:=by
      by_cases hh:(b:Int)<c.1
      ·exact hh
      ·rw [hlowX b (by omega) (by omega)] at hb
       cases hb
     rw [if_neg (by omega)]
     refine ⟨⟨fun _=>hlow',fun u q0 q1 hu => ?_,fun u q0 q1 hu => .inl (by rw [hpar u q0 q1];exact hu),fun u _ _ hu=>absurd hu.1 (show ¬ (1:Int)=2 from by decide),fun h=>absurd h hpk⟩,fun _=>⟨rfl,⟨(by decide:(0:Int)≤2),Int.le_refl 2⟩,rfl,fun _=>hbn⟩⟩
     by_cases hub:u=b
     ·exact .inr ⟨rfl,rfl,hub.symm⟩
     ·refine .inl ?_
      rw [h2,od hX.1 hX.2 q0 (by omega),g2,decide_eq_true hub,Bool.and_true,← e]
      exact hu
  ·refine ⟨.same (fun u h=>absurd h.1 (show ¬ (1:Int)=2 from by decide)) (fun h=>absurd h hpk),fun _=>⟨rfl,⟨Int.le_refl 0,(by decide:(0:Int)≤2)⟩,rfl,fun h=>absurd h (show ¬ (0:Int)=2 from by decide)⟩⟩
 ·rw [if_neg (by decide),if_neg (by decide),if_pos rfl]
  have hyn:=hy rfl
  dsimp only
  rw [if_pos (show Y<8 by omega)]
  unfold wV
  have hA:∀ j,j=2∨(∃ u,0≤u∧u<c.1∧u≠Y∧j=bR c u)→ai (aJ m (bR c Y) 1) j=ai m j:=by
   intro j hj
   refine aH 1 ?_
   have:=cX hc hYr.1 (by omega)
   rcases hj with rfl | ⟨u,g0,g1,hu,rfl⟩
   ·unfold bR
    rw [if_pos ⟨hc,hYr.1,hyn⟩]
    omega
   ·exact NK ⟨hc,hl,hYr.1,hyn⟩ ⟨hc,hl,g0,g1⟩ (Ne.symm hu)
  have hone:ai (aJ m (bR c Y) 1) (bR c Y)=1:=by
   have hpk:OkB c m Y:=⟨hc,hl,hYr.1,hyn⟩
   have:=hpk.park
   exact fM 1 (by omega) this.2.2
  refine ⟨⟨fun hz j g0 g1 => ?_,fun u g0 g1 hu => .inl ?_,fun u g0 g1 hu => .inl ?_,fun u g0 g1 hu => .inr ?_,fun h=>absurd h hpk⟩,fun h=>absurd h (hend 1 Y (by decide))⟩
  ·rw [hA 2 (.inl rfl)]
   exact hz j g0 g1
  ·rw [hA 2 (.inl rfl)]
   exact hu
  ·by_cases e:u=Y
   ·rw [e,hone]
    decide
   ·rw [hA _ (.inr ⟨u,g0,g1,e,rfl⟩)]
    exact hu
  ·have:Y=u:=hu.2
   rw [← this,hone]
   decide
end
end Go.Ab
set_option linter.unusedVariables false
namespace Go.Ab
section
variable {n w:Int} {x:WB}
theorem dV (h:x.1=1∨x.1=4∨x.1=9∨x.1=10∨x.1=13∨x.1=15):Fwk n w x:=
 ⟨fun _=>by exfalso;omega,fun _=>by exfalso;omega,fun _=>by exfalso;omega,fun _=>by exfalso;omega,fun _=>by exfalso;omega⟩
theorem fk (h:x.1=0∨x.1=2∨x.1=3∨x.1=11∨x.1=12) (hf:x.2.2.1.1<5):Fwk n w x:=
 ⟨fun _=>hf,fun _=>by exfalso;omega,fun _=>by exfalso;omega,fun _=>by exfalso;omega,fun _=>by exfalso;omega⟩
theorem afx (h:x.1=5) (hf:x.2.2.1=Au 5 w 0):Fwk n w x:=
 ⟨fun _=>by exfalso;omega,fun _=>hf,fun _=>by exfalso;omega,fun _=>by exfalso;omega,fun _=>by exfalso;omega⟩
theorem Kl (h:x.1=6∨x.1=7) (hf:x.2.2.1.1=5∧x.2.2.1.2.1=1∧x.2.2.1.2.2.1=w∧x.2.2.1.2.2.2.2.2.2=0):Fwk n w x:=
 ⟨fun _=>by exfalso;omega,fun _=>by exfalso;omega,fun _=>hf,fun _=>by exfalso;omega,fun _=>by exfalso;omega⟩
theorem Zr (h:x.1=8) (hf:x.2.2.1.1=5∧(0≤x.2.2.1.2.1∧x.2.2.1.2.1≤4)∧x.2.2.1.2.2.1=w∧x.2.2.1.2.2.2.2.2.2=0):Fwk n w x:=
 ⟨fun _=>by exfalso;omega,fun _=>by exfalso;omega,fun _=>by exfalso;omega,fun _=>hf,fun _=>by exfalso;omega⟩
theorem Ks (h:x.1=14) (hf:x.2.2.1.1=6∧(0≤x.2.2.1.2.1∧x.2.2.1.2.1≤2)∧x.2.2.1.2.2.2.2.2.2=0∧(x.2.2.1.2.1=2→x.2.2.1.2.2.2.2.2.1<n)):Fwk n w x:=
 ⟨fun _=>by exfalso;omega,fun _=>by exfalso;omega,fun _=>by exfalso;omega,fun _=>by exfalso;omega,fun _=>hf⟩
end
theorem Ef.mono {c:CF} {m m':List Int} {p0 p1 q0 q1:Prop} {me:Int} {a0 a1 b0 b1:Int→Prop} (h:Ef c m m' p0 p1 me a0 a1) (h1:q1→p1) (h0:p0→q0) (ha:∀ v,b0 v→a0 v) (hb:∀ v,a1 v→b1 v):Ef c m m' q0 q1 me b0 b1:=
 ⟨h.low,fun v g0 g1 hv=>(h.bit v g0 g1 hv).imp id (hb v),fun v g0 g1 hv=>(h.par v g0 g1 hv).imp id fun e=>⟨e.1,fun q=>e.2 (h1 q)⟩,fun v g0 g1 hv=>(h.owe v g0 g1 (ha v hv)).imp (hb v) id,fun q=>(h.new (h1 q)).imp h0 id⟩
section
variable {c:CF} {t:Tyt} {m:List Int} {w:Int} {x:WB} {d:Int}
theorem lA {f:FR} (h:f.1=5):da c m f=d8 c m f:=by
 unfold da dH w8
 rw [if_neg (by omega),if_neg (by omega),if_pos h]
theorem lz {f:FR} (h:f.1=6):da c m f=dc c m f:=by
 unfold da dH w8
 rw [if_neg (by omega),if_neg (by omega),if_neg (by omega),if_pos (.inl h)]
theorem GA (hc:eu c=true) (hl:(m.length:Int)=cD c) (h0:0≤w) (h1:w<c.1):da c m (Au 5 w 0)=(m,(5,1,w,0,ai m 2,0,0)):=by
 rw [lA rfl]
 have hg:ln c m (Au 5 w 0) 5 5=true:=by
  unfold ln Au
  rw [hc,decide_eq_true hl,decide_eq_true ⟨rfl,h0,h1,rfl,(show (0:Int)≤0 from by decide),(show (0:Int)<5 from by decide)⟩]
  rfl
 unfold d8
 rw [hg,if_neg (by decide)]
 rfl
theorem U6 (hm:Wm m) (hf:Wf x.2.2.1) (hl:SX c.1 m) (hx:Fwk c.1 w x):Fwk c.1 w (a8 c t m w x d).2.1∧Ef c m (a8 c t m w x d).1 (pkW x) (pkW (a8 c t m w x d).2.1) w (owW x) (owW (a8 c t m w x d).2.1):=by
 have cm:∀ (m':List Int) (y:WB),cZ c t m w x=true→(∀ j,Adr c j→ai m' j=ai m j)→x.1≠14→¬ pkW y→Ef c m m' (pkW x) (pkW y) w (owW x) (owW y):=fun m' y hm h hx hy => .calm (fb hm).1 h (fun v ho=>absurd ho.1 hx) (fun hp=>absurd hp hy)
 have ca:∀ h5:x.2.2.1.1<5,∀ j,Adr c j→ai (da c m x.2.2.1).1 j=ai m j:=fun h5 j hj=>uO hj hf h5
 have s0:∀ v j,Adr c j→ai (aJ m 0 v) j=ai m j:=fun v j hj=>ks hj.n0
 have s1:∀ v j,Adr c j→ai (aJ m 1 v) j=ai m j:=fun v j hj=>ks hj.n1
 have sm:∀ j,Adr c j→ai m j=ai m j:=fun _ _=>rfl
 refine eV (P:=fun r=>Fwk c.1 w r.2.1∧Ef c m r.1 (pkW x) (pkW r.2.1) w (owW x) (owW r.2.1)) (fun _=>⟨hx,.same (fun _ h=>h) (fun h=>h)⟩) ?_ ?_ ?_ ?_ ?_ ?_ ?_ ?_ ?_ ?_ ?_ ?_ ?_ ?_ ?_
 ·intro hw e
  have h5:=hx.1 (by omega)
  have ho:=rH (c:=c) (m:=m) h5
  dsimp only [DL,toW]
  split
  ·exact ⟨fk (.inl e) (by show (da c m x.2.2.1).2.1<5;omega),cm _ _ hw (ca h5) (by omega) (fun h=>by have:=h.1;simp only at this;omega)⟩
  ·split
   ·exact ⟨dV (.inl rfl),cm _ _ hw (ca h5) (by omega) (fun h=>by have:=h.1;simp only at this;omega)⟩
   ·exact ⟨dV (.inr (.inr (.inl rfl))),cm _ _ hw (ca h5) (by omega) (fun h=>by have:=h.1;simp only at this;omega)⟩
 ·intro hw e
  dsimp only [nw]
  exact ⟨fk (.inr (.inl rfl)) (by show (4:Int)<5;decide),cm _ _ hw (s1 _) (by omega) (fun h=>by have:=h.1;simp only at this;omega)⟩
 ·intro hw e
  have h5:=hx.1 (by omega)
  have ho:=rH (c:=c) (m:=m) h5
  dsimp only [lS,gk]
  split
  ·exact ⟨fk (by dsimp only;omega) (by show (da c m x.2.2.1).2.1<5;omega),cm _ _ hw (ca h5) (by omega) (fun h=>by have:=h.1;simp only at this;omega)⟩
  ·split
   ·exact ⟨dV (.inr (.inl rfl)),cm _ _ hw (ca h5) (by omega) (fun h=>by have:=h.1;simp only at this;omega)⟩
   ·split
    ·exact ⟨fk (.inr (.inr (.inl rfl))) (by show (2:Int)<5;decide),cm _ _ hw (ca h5) (by omega) (fun h=>by have:=h.1;simp only at this;omega)⟩
    ·split
     ·exact ⟨afx rfl rfl,cm _ _ hw (ca h5) (by omega) (fun h=>by have:=h.1;simp only at this;omega)⟩
     ·exact ⟨fk (.inr (.inl rfl)) (by show (4:Int)<5;decide),cm _ _ hw (ca h5) (by omega) (fun h=>by have:=h.1;simp only at this;omega)⟩
 ·intro hw e
  dsimp only [gH]
  by_cases h1:ai m 1=1
  ·rw [if_pos h1,if_pos h1]
   exact ⟨Ks rfl ⟨rfl,⟨Int.le_refl 0,(by decide:(0:Int)≤2)⟩,rfl,fun h=>absurd h (show ¬ (0:Int)=2 by decide)⟩,cm _ _ hw (s1 _) (by omega) (fun h=>by have:=h.1;simp only at this;omega)⟩
  ·rw [if_neg h1,if_neg h1]
   exact ⟨dV (.inr (.inr (.inl rfl))),cm _ _ hw (s1 _) (by omega) (fun h=>by have:=h.1;simp only at this;omega)⟩
 ·intro hw e
  obtain ⟨a1,a2,_,a4,_⟩:=fb hw
  dsimp only [mK]
  rw [hx.2.1 e,GA a1 a2 a4.1 a4.2.1]
  exact ⟨Kl (.inl rfl) ⟨rfl,rfl,rfl,rfl⟩,cm _ _ hw sm (by omega) (fun h=>by have:=h.1;simp only at this;omega)⟩
 ·intro hw e
  dsimp only [kr]
  exact ⟨Kl (.inr rfl) (hx.2.2.1 (.inl e)),cm _ _ hw (s1 _) (by omega) (fun h=>by have:=h.1;simp only at this;omega)⟩
 ·intro hw e
  obtain ⟨f1,f2,f3,f4⟩:=hx.2.2.1 (.inr e)
  have g8:∀ (f:FR) (b:Int),f.1=5→f.2.1=1→f.2.2.1=w→f.2.2.2.2.2.2=0→Fwk c.1 w (8,x.2.1,f,x.2.2.2.1,b)∧Ef c m m (pkW x) (pkW (8,x.2.1,f,x.2.2.2.1,b)) w (owW x) (owW (8,x.2.1,f,x.2.2.2.1,b)):=fun f b h1 h2 h3 h4=>
   ⟨Zr rfl ⟨h1,⟨by show 0≤f.2.1;omega,by show f.2.1≤4;omega⟩,h3,h4⟩,cm _ _ hw sm (by omega) (fun h=>by have:=h.2;simp only at this;omega)⟩
  have g7:∀ (f:FR) (b:Int),f.1=5→f.2.1=1→f.2.2.1=w→f.2.2.2.2.2.2=0→Fwk c.1 w (7,x.2.1,f,x.2.2.2.1,b)∧Ef c m m (pkW x) (pkW (7,x.2.1,f,x.2.2.2.1,b)) w (owW x) (owW (7,x.2.1,f,x.2.2.2.1,b)):=fun f b h1 h2 h3 h4=>
   ⟨Kl (.inr rfl) ⟨h1,h2,h3,h4⟩,cm _ _ hw sm (by omega) (fun h=>by have:=h.1;simp only at this;omega)⟩
  have g1:Fwk c.1 w (toW 1 x)∧Ef c m m (pkW x) (pkW (toW 1 x)) w (owW x) (owW (toW 1 x)):=⟨dV (.inl rfl),cm _ _ hw sm (by omega) (fun h=>by have:=h.1;simp only [toW] at this;omega)⟩
  dsimp only [bK]
  split
  ·exact g8 _ _ f1 f2 f3 f4
  ·generalize hF:(if x.2.2.2.2=0 then Bc x.2.2.1 (ai m 4) else if x.2.2.2.2=1 then x.2.2.1 else if x.2.2.2.2%2=0 then Bc x.2.2.1 (ai m (mC c ((x.2.2.2.2 - 2)/2))) else x.2.2.1)=F
   have hF4:F.1=5∧F.2.1=1∧F.2.2.1=w∧F.2.2.2.2.2.2=0:=by
    rw [← hF]
    repeat' split
    all_goals exact ⟨f1,f2,f3,f4⟩
   repeat' split
   all_goals first | exact g1 | exact g8 (Bc F 0) 0 hF4.1 hF4.2.1 hF4.2.2.1 hF4.2.2.2 | exact g7 F _ hF4.1 hF4.2.1 hF4.2.2.1 hF4.2.2.2
 ·intro hw e
  obtain ⟨a1,a2,_,a4,_⟩:=fb hw
  obtain ⟨f1,f2,f3,f4⟩:=hx.2.2.2.1 e
  obtain ⟨hE,hF⟩:=Uv a1 a2 hm hf a4.1 a4.2.1 f1 f2 f3 f4
  dsimp only [bO]
  rw [lA f1]
  by_cases ho:b9 (d8 c m x.2.2.1).2=true
  ·rw [if_pos ho]
   exact ⟨dV (.inl rfl),hE.mono (fun h=>absurd h.1 (show ¬ (1:Int)=8 by decide)) (fun h=>⟨e,h⟩) (fun v h=>absurd h.1 (by omega)) (fun v h=>h.elim)⟩
  ·rw [if_neg ho]
   have ho':b9 (d8 c m x.2.2.1).2=false:=by simpa using ho
   exact ⟨Zr e (hF ho'),hE.mono (fun h=>⟨ho',h.2⟩) (fun h=>⟨e,h⟩) (fun v h=>absurd h.1 (by omega)) (fun v h=>h.elim)⟩
 ·intro hw e
  have g:∀ y:WB,y.1=9∨y.1=10∨y.1=15→Fwk c.1 w y∧Ef c m m (pkW x) (pkW y) w (owW x) (owW y):=fun y hy=>⟨dV (by omega),cm _ _ hw sm (by omega) (fun h=>by have:=h.1;omega)⟩
  dsimp only [De,gk]
  split
  ·exact g _ (.inl e)
  ·split
   ·exact g _ (.inr (.inl rfl))
   ·split
    ·exact g _ (.inr (.inr rfl))
    ·exact ⟨fk (.inl rfl) (show (1:Int)<5 by decide),cm _ _ hw sm (by omega) (fun h=>by have:=h.1;simp only at this;omega)⟩
 ·intro hw e
  dsimp only [mu,toW]
  split
  ·exact ⟨dV (.inr (.inr (.inl rfl))),cm _ _ hw sm (by omega) (fun h=>by have:=h.1;simp only at this;omega)⟩
  ·exact ⟨fk (.inr (.inr (.inr (.inl rfl)))) (show (0:Int)<5 by decide),cm _ _ hw (s0 _) (by omega) (fun h=>by have:=h.1;simp only at this;omega)⟩
 ·intro hw e
  have h5:=hx.1 (by omega)
  have ho:=rH (c:=c) (m:=m) h5
  dsimp only [mD,gk,toW]
  split
  ·exact ⟨fk (.inr (.inr (.inr (.inl e)))) (by show (da c m x.2.2.1).2.1<5;omega),cm _ _ hw (ca h5) (by omega) (fun h=>by have:=h.1;simp only at this;omega)⟩
  ·split
   ·exact ⟨fk (.inr (.inr (.inr (.inr rfl)))) (show (3:Int)<5 by decide),cm _ _ hw (ca h5) (by omega) (fun h=>by have:=h.1;simp only at this;omega)⟩
   ·exact ⟨dV (.inr (.inr (.inr (.inr (.inl rfl))))),cm _ _ hw (ca h5) (by omega) (fun h=>by have:=h.1;simp only at this;omega)⟩
 ·intro hw e
  have h5:=hx.1 (by omega)
  have ho:=rH (c:=c) (m:=m) h5
  dsimp only [mr,toW]
  split
  ·exact ⟨fk (.inr (.inr (.inr (.inr e)))) (by show (da c m x.2.2.1).2.1<5;omega),cm _ _ hw (ca h5) (by omega) (fun h=>by have:=h.1;simp only at this;omega)⟩
  ·split
   ·exact ⟨dV (.inr (.inr (.inl rfl))),cm _ _ hw (ca h5) (by omega) (fun h=>by have:=h.1;simp only at this;omega)⟩
   ·exact ⟨dV (.inr (.inr (.inr (.inr (.inl rfl))))),cm _ _ hw (ca h5) (by omega) (fun h=>by have:=h.1;simp only at this;omega)⟩
 ·intro hw e
  dsimp only [CB,gk,toW]
  split
  ·exact ⟨Ks rfl ⟨rfl,⟨Int.le_refl 0,(by decide:(0:Int)≤2)⟩,rfl,fun h=>absurd h (show ¬ (0:Int)=2 by decide)⟩,cm _ _ hw sm (by omega) (fun h=>by have:=h.1;simp only at this;omega)⟩
  ·exact ⟨dV (.inr (.inr (.inl rfl))),cm _ _ hw sm (by omega) (fun h=>by have:=h.1;simp only at this;omega)⟩
 ·intro hw e
  obtain ⟨a1,a2,_,a4,_⟩:=fb hw
  obtain ⟨f1,f2,f3,f4⟩:=hx.2.2.2.2 e
  obtain ⟨hE,hF⟩:=Lr (pk0:=False) (pk1:=False) (me:=w) a1 a2 hm hf (fun h=>h) hl f1 f2 f3 f4
  dsimp only [mN]
  rw [lz f1]
  by_cases ho:b9 (dc c m x.2.2.1).2=true
  ·rw [if_pos ho]
   exact ⟨dV (.inr (.inr (.inl rfl))),hE.mono (fun h=>absurd h.1 (show ¬ (9:Int)=8 by decide)) (fun h=>h.elim) (fun v h=>h.2) (fun v h=>by rw [ho] at h;cases h.1)⟩
  ·rw [if_neg ho]
   have ho':b9 (dc c m x.2.2.1).2=false:=by simpa using ho
   exact ⟨Ks e (hF ho'),hE.mono (fun h=>by have:=h.1;simp only at this;omega) (fun h=>h.elim) (fun v h=>h.2) (fun v h=>⟨e,h.2⟩)⟩
 ·intro hw e
  dsimp only [mw,toW]
  split
  ·exact ⟨dV (.inr (.inr (.inl rfl))),cm _ _ hw sm (by omega) (fun h=>by have:=h.1;simp only at this;omega)⟩
  ·split
   ·exact ⟨fk (.inl rfl) (show (1:Int)<5 by decide),cm _ _ hw (s0 _) (by omega) (fun h=>by have:=h.1;simp only at this;omega)⟩
   ·exact ⟨dV (.inr (.inr (.inl rfl))),cm _ _ hw (s0 _) (by omega) (fun h=>by have:=h.1;simp only at this;omega)⟩
end
section
variable {c:CF} {t:Tyt} {m:List Int} {i:Int} {x:SB}
theorem BJ {f:FR} (h:f.1=3∨f.1=4∨5≤f.1):dH c m f=da c m f:=by
 unfold da
 rw [if_neg (by omega)]
theorem kw (h:x.1≠2) (h4:x.1≠4) {n:Int}:Fsb n x:=⟨fun e=>absurd e h,fun e=>absurd e h4⟩
theorem ZN (hm:Wm m) (hf:Wf x.2.2) (hl:SX c.1 m) (hx:Fsb c.1 x):Fsb c.1 (ia c t m i x).2.1∧Ef c m (ia c t m i x).1 False False (-1) (owS x) (owS (ia c t m i x).2.1):=by
 have cm:∀ (m':List Int) (y:SB),nY c t m x=true→(∀ j,Adr c j→ai m' j=ai m j)→x.1≠4→Ef c m m' False False (-1) (owS x) (owS y):=fun m' y hw h hx => .calm (nE hw).1 h (fun v ho=>absurd ho.1 hx) (fun hp=>hp)
 have s0:∀ v j,Adr c j→ai (aJ m 0 v) j=ai m j:=fun v j hj=>ks hj.n0
 have sm:∀ j,Adr c j→ai m j=ai m j:=fun _ _=>rfl
 unfold ia
 dsimp only
 split
 ·exact ⟨hx,.same (fun _ h=>h) (fun h=>h)⟩
 rename_i hw
 have hw:nY c t m x=true:=by simpa using hw
 obtain ⟨a1,a2,_⟩:=nE hw
 split
 ·split
  ·exact ⟨kw (show (0:Int)≠2 by decide) (show (0:Int)≠4 by decide),cm _ _ hw sm (by omega)⟩
  ·exact ⟨kw (show (1:Int)≠2 by decide) (show (1:Int)≠4 by decide),cm _ _ hw sm (by omega)⟩
 split
 ·exact ⟨⟨fun _=>show (3:Int)<5 by decide,fun e=>absurd e (show ¬ (2:Int)=4 by decide)⟩,cm _ _ hw (s0 _) (by omega)⟩
 split
 ·rename_i e
  have h5:=hx.1 e
  have hb:∀ j,Adr c j→ai (dH c m x.2.2).1 j=ai m j:=by
   intro j hj
   have:=uO (c:=c) (m:=m) hj hf h5
   unfold dH
   split
   ·unfold oU
    repeat' split
    all_goals first | with_reducible rfl | with_reducible exact FQ hj hf | with_reducible exact Ln hj hf
   ·unfold w8
    rw [if_neg (by omega),if_neg (by omega)]
  have ho:(dH c m x.2.2).2.1<5:=by
   unfold dH oU w8
   repeat' split
   all_goals first | (rw [LD];exact h5) | (rw [Sw];exact h5) | exact h5 | (exfalso;omega)
  split
  ·exact ⟨⟨fun _=>ho,fun e=>absurd e (show ¬ (2:Int)=4 by decide)⟩,cm _ _ hw hb (by omega)⟩
  ·split
   ·exact ⟨kw (show (5:Int)≠2 by decide) (show (5:Int)≠4 by decide),cm _ _ hw hb (by omega)⟩
   ·exact ⟨kw (show (3:Int)≠2 by decide) (show (3:Int)≠4 by decide),cm _ _ hw hb (by omega)⟩
 split
 ·split
  ·exact ⟨kw (show (0:Int)≠2 by decide) (show (0:Int)≠4 by decide),cm _ _ hw sm (by omega)⟩
  ·exact ⟨⟨fun e=>absurd e (show ¬ (4:Int)=2 by decide),fun _=>⟨rfl,⟨Int.le_refl 0,(by decide:(0:Int)≤2)⟩,rfl,fun h=>absurd h (show ¬ (0:Int)=2 by decide)⟩⟩,cm _ _ hw sm (by omega)⟩
 split
 ·rename_i e
  obtain ⟨f1,f2,f3,f4⟩:=hx.2 e
  obtain ⟨hE,hF⟩:=Lr (pk0:=False) (pk1:=False) (me := -1) a1 a2 hm hf (fun h=>h) hl f1 f2 f3 f4
  have hcb:dH c m x.2.2=dc c m x.2.2:=by rw [BJ (by omega),lz f1]
  rw [hcb]
  by_cases ho:b9 (dc c m x.2.2).2=true
  ·rw [if_pos ho]
   exact ⟨kw (show (0:Int)≠2 by decide) (show (0:Int)≠4 by decide),hE.mono (fun h=>h) (fun h=>h) (fun v h=>h.2) (fun v h=>by rw [ho] at h;cases h.1)⟩
  ·rw [if_neg ho]
   have ho':b9 (dc c m x.2.2).2=false:=by simpa using ho
   exact ⟨⟨fun e=>absurd e (show ¬ (4:Int)=2 by decide),fun _=>hF ho'⟩,hE.mono (fun h=>h) (fun h=>h) (fun v h=>h.2) (fun v h=>⟨rfl,h.2⟩)⟩
 ·exact ⟨kw (show (0:Int)≠2 by decide) (show (0:Int)≠4 by decide),cm _ _ hw (s0 _) (by omega)⟩
end
def acG (W:List WB) (S:List SB) (v:Int):Prop:=(∃ y ∈ W,owW y v)∨∃ y ∈ S,owS y v
structure Sgn (p:PB):Prop where
 w:∀ (i:Nat) x,p.2.2.2.1[i]? = some x→Fwk p.1.1 i x
 s:∀ x ∈ p.2.2.2.2,Fsb p.1.1 x
 low:SX p.1.1 p.2.2.1
 sg:∀ (i:Nat) x,p.2.2.2.1[i]? = some x→pkW x→gB (ai p.2.2.1 2) i=true∨ai p.2.2.1 (bR p.1 i)≠0∨acG p.2.2.2.1 p.2.2.2.2 i
theorem Mx {α:Type} {l:List α} {i:Nat} {x y z:α} (hx:l[i]? = some x) (hz:z ∈ l):z ∈ l.set i y∨z=x:=by
 obtain ⟨j,hj,rfl⟩:=List.mem_iff_getElem.1 hz
 by_cases e:j=i
 ·subst e
  rw [List.getElem?_eq_getElem hj] at hx
  exact .inr (Option.some.inj hx)
 ·refine .inl (List.mem_iff_getElem.2 ⟨j,by rw [List.length_set];exact hj,?_⟩)
  rw [List.getElem_set_ne (fun h=>e h.symm)]
theorem gQ {α:Type} {l:List α} {i:Nat} {x y:α} (hx:l[i]? = some x):y ∈ l.set i y:=
 List.mem_iff_getElem.2 ⟨i,by rw [List.length_set];exact (List.getElem?_eq_some_iff.1 hx).1,by rw [List.getElem_set_self]⟩
theorem OL {n:Nat} {p:PB} {k:PK} (hg:Good n p) (hm:gh p=true) (hk:rr k p.1.1 p.2.2.2.2.length=true) (h:Sgn p):Sgn (f6 p k).1:=by
 obtain ⟨h1,h2,h3,h4,h5⟩:=ml hm
 have wn:∀ (i:Nat) x,p.2.2.2.1[i]? = some x→(i:Int)<p.1.1:=by
  intro i x hx
  have:=(List.getElem?_eq_some_iff.1 hx).1
  omega
 refine lP (P:=fun r=>Sgn r.1) h (fun x hx hk0 => ?_) (fun x hx hms => ?_) ?_
 ·have hkk:((k.2.1.toNat:Nat):Int)=k.2.1:=by
   unfold rr at hk
   rw [decide_eq_true_eq] at hk
   omega
  have hxm:=List.mem_of_getElem? hx
  have hF:=h.w _ x hx
  rw [hkk] at hF
  obtain ⟨g1,g2⟩:=U6 (t:=p.2.1) (d:=k.2.2) hg.m (hg.w x hxm).f h.low hF
  generalize a8 p.1 p.2.1 p.2.2.1 k.2.1 x k.2.2=r at g1 g2
  obtain ⟨m',y,ev⟩:=r
  refine ⟨fun i z hz => ?_,h.s,g2.low h.low,fun i z hz hp => ?_⟩
  ·dsimp only at hz ⊢
   rw [List.getElem?_set] at hz
   split at hz
   ·rename_i e
    split at hz
    ·cases hz
     rw [← e,hkk]
     exact g1
    ·cases hz
   ·exact h.w i z hz
  ·dsimp only at hz ⊢
   have own:∀ v,0≤v→v<p.1.1→acG p.2.2.2.1 p.2.2.2.2 v→acG (p.2.2.2.1.set k.2.1.toNat y) p.2.2.2.2 v∨ai m' (bR p.1 v)≠0:=by
    intro v v0 v1 ho
    rcases ho with ⟨z,hz,ho⟩ | ⟨z,hz,ho⟩
    ·rcases Mx (y:=y) hx hz with hz | rfl
     ·exact .inl (.inl ⟨z,hz,ho⟩)
     ·rcases g2.owe v v0 v1 ho with ho | ho
      ·exact .inl (.inl ⟨y,gQ hx,ho⟩)
      ·exact .inr ho
    ·exact .inl (.inr ⟨z,hz,ho⟩)
   have key:∀ v:Int,0≤v→v<p.1.1→(v=k.2.1→pkW y)→(gB (ai p.2.2.1 2) v=true∨ai p.2.2.1 (bR p.1 v)≠0∨acG p.2.2.2.1 p.2.2.2.2 v)→gB (ai m' 2) v=true∨ai m' (bR p.1 v)≠0∨acG (p.2.2.2.1.set k.2.1.toNat y) p.2.2.2.2 v:=by
    intro v v0 v1 hv ho
    rcases ho with ho | ho | ho
    ·rcases g2.bit v v0 v1 ho with ho | ho
     ·exact .inl ho
     ·exact .inr (.inr (.inl ⟨y,gQ hx,ho⟩))
    ·rcases g2.par v v0 v1 ho with ho | ⟨e,ho⟩
     ·exact .inr (.inl ho)
     ·exact absurd (hv e) ho
    ·rcases own v v0 v1 ho with ho | ho
     ·exact .inr (.inr ho)
     ·exact .inr (.inl ho)
   rw [List.getElem?_set] at hz
   split at hz
   ·rename_i e
    split at hz
    ·cases hz
     have hin:=wn _ x hx
     rw [hkk] at hin
     have h0k:0≤k.2.1:=by omega
     rw [← e,hkk]
     rcases g2.new hp with h0 | h0 | h0
     ·have:=h.sg _ x hx h0
      rw [hkk] at this
      exact key k.2.1 (by omega) (by omega) (fun _=>hp) this
     ·exact .inl h0
     ·exact .inr (.inl h0)
    ·cases hz
   ·rename_i e
    exact key i (by omega) (wn i z hz) (fun ee=>by exfalso;omega) (h.sg i z hz hp)
 ·have hxm:=List.mem_of_getElem? hx
  obtain ⟨g1,g2⟩:=ZN (c:=p.1) (t:=p.2.1) (i:=k.2.1) hg.m (hg.s x hxm).f h.low (h.s x hxm)
  generalize ia p.1 p.2.1 p.2.2.1 k.2.1 x=r at g1 g2
  obtain ⟨m',y,ev⟩:=r
  refine ⟨h.w,fun z hz => ?_,g2.low h.low,fun i z hz hp => ?_⟩
  ·rcases wy hz with hz | rfl
   ·exact h.s z hz
   ·exact g1
  ·dsimp only at hz ⊢
   have hi:=wn i z hz
   rcases h.sg i z hz hp with ho | ho | ho
   ·rcases g2.bit i (by omega) hi ho with ho | ho
    ·exact .inl ho
    ·exact .inr (.inr (.inr ⟨y,gQ hx,ho⟩))
   ·rcases g2.par i (by omega) hi ho with ho | ⟨e,_⟩
    ·exact .inr (.inl ho)
    ·exfalso;omega
   ·rcases ho with ⟨z',hz',ho⟩ | ⟨z',hz',ho⟩
    ·exact .inr (.inr (.inl ⟨z',hz',ho⟩))
    ·rcases Mx (y:=y) hx hz' with hz' | rfl
     ·exact .inr (.inr (.inr ⟨z',hz',ho⟩))
     ·rcases g2.owe i (by omega) hi ho with ho | ho
      ·exact .inr (.inr (.inr ⟨y,gQ hx,ho⟩))
      ·exact .inr (.inl ho)
 ·have e2:ai (aJ p.2.2.1 3 1) 2=ai p.2.2.1 2:=ks (by decide)
  refine ⟨h.w,h.s,fun j a b => ?_,fun i z hz hp => ?_⟩
  ·dsimp only
   rw [e2]
   exact h.low j a b
  ·dsimp only at hz ⊢
   have e3:ai (aJ p.2.2.1 3 1) (bR p.1 i)=ai p.2.2.1 (bR p.1 i):=ks (ahd h1 (by omega) (wn i z hz)).n3
   rw [e2,e3]
   exact h.sg i z hz hp
end Go.Ab
set_option linter.unusedVariables false
set_option linter.unusedSimpArgs false
namespace Go.Ab
def skN (W:List WB):Nat:=W.countP ej
theorem UH {W:List WB} {i:Nat} {x y:WB} (h:W[i]? = some x):skN (W.set i y)+(if ej x=true then 1 else 0)=skN W+if ej y=true then 1 else 0:=by
 obtain ⟨hi,rfl⟩:=List.getElem?_eq_some_iff.1 h
 unfold skN
 rw [List.countP_set hi]
 by_cases h2:ej W[i]=true
 ·have:0<W.countP ej:=List.countP_pos_iff.2 ⟨_,List.getElem_mem hi,h2⟩
  simp only [h2,if_true]
  omega
 ·simp only [h2,if_false]
  simp
theorem YR {c:CF} {t:Tyt} {m:List Int} {i:Int} {x:SB} (hf:Wf x.2.2):ai (ia c t m i x).1 1=ai m 1:=by
 have h1:(1:Int)=0∨(1:Int)=1∨(1:Int)=3:=by decide
 have hk:ai (dH c m x.2.2).1 1=ai m 1:=by
  unfold dH oU w8
  repeat' split
  all_goals first | with_reducible rfl | with_reducible exact Hc h1 hf | with_reducible exact Ie h1 hf | with_reducible exact CS h1 hf | with_reducible exact CK h1 hf
 have h0:∀ v,ai (aJ m 0 v) 1=ai m 1:=fun v=>ks (by decide)
 unfold ia
 dsimp only
 repeat' split
 all_goals first | rfl | exact hk | exact h0 _ | (dsimp only;first | rfl | exact hk | exact h0 _)
def Skn (p:PB):Prop:=ai p.2.2.1 1=(skN p.2.2.2.1:Int)
theorem Oh {n:Nat} {p:PB} {k:PK} (hg:Good n p) (hm:gh p=true) (h:Skn p):Skn (f6 p k).1:=by
 have hl:=H8 hm
 unfold Skn at h ⊢
 have hn:skN p.2.2.2.1≤p.2.2.2.1.length:=List.countP_le_length
 refine lP (P:=fun r=>ai r.1.2.2.1 1=(skN r.1.2.2.2.1:Int)) h (fun x hx _ => ?_) (fun x hx _ => ?_) ?_
 ·have hs:=L5 (c:=p.1) (t:=p.2.1) (w:=k.2.1) (d:=k.2.2) hg.m (by omega) (hg.w x (List.mem_of_getElem? hx)).f
  have hc:=UH (y:=(a8 p.1 p.2.1 p.2.2.1 k.2.1 x k.2.2).2.1) hx
  dsimp only
  rw [hs,h]
  generalize (a8 p.1 p.2.1 p.2.2.1 k.2.1 x k.2.2).2.1=y at hc ⊢
  unfold JY
  cases hb:ej x <;> cases hy:ej y <;> rw [hb,hy] at hc
  ·simp at hc ⊢;omega
  ·simp at hc
   rw [if_neg (by decide),if_pos rfl,kg (by omega) (by omega)]
   omega
  ·simp at hc
   rw [if_neg (by decide),if_neg (by decide),kg (by omega) (by omega)]
   omega
  ·simp at hc ⊢;omega
 ·dsimp only
  rw [YR (hg.s x (List.mem_of_getElem? hx)).f]
  exact h
 ·have:ai (aJ p.2.2.1 3 1) 1=ai p.2.2.1 1:=ks (by decide)
  dsimp only
  rw [this]
  exact h
theorem J2 {c:CF} {t:Tyt} {roots:List (List Int)}:Sgn (CN c t roots)∧Skn (CN c t roots):=by
 have key:∀ (i:Nat) x,(kf c.1.toNat)[i]? = some x→x=Rs i:=by
  intro i x hx
  unfold kf at hx
  rw [List.getElem?_map,Option.map_eq_some_iff] at hx
  obtain ⟨j,hj,rfl⟩:=hx
  obtain ⟨hi,rfl⟩:=List.getElem?_eq_some_iff.1 hj
  rw [List.getElem_range]
 refine ⟨⟨fun i x hx => ?_,fun x hx => ?_,fun j _ _ => ?_,fun i x hx hp => ?_⟩,?_⟩
 ·rw [key i x hx]
  exact fk (.inl rfl) (show (1:Int)<5 by decide)
 ·have hx':x ∈ i9 roots:=hx
  unfold i9 at hx'
  obtain ⟨l,_,rfl⟩:=List.mem_map.1 hx'
  exact kw (show (0:Int)≠2 by decide) (show (0:Int)≠4 by decide)
 ·show gB (ai (List.replicate (cD c).toNat 0) 2) j=false
  rw [r9]
  unfold gB
  rw [Int.zero_ediv]
  rfl
 ·rw [key i x hx] at hp
  exact absurd hp.1 (show ¬ (0:Int)=8 by decide)
 ·unfold Skn
  show ai (List.replicate (cD c).toNat 0) 1=(skN (kf c.1.toNat):Int)
  rw [r9]
  have:skN (kf c.1.toNat)=0:=by
   unfold skN kf
   rw [List.countP_map,List.countP_eq_zero]
   intro i _
   exact Bool.false_ne_true
  rw [this]
  rfl
theorem Ju (f:FR):fR f=some (Cw f):=by
 obtain ⟨a0,a1,a2,a3,a4,a5,a6⟩:=f
 unfold fR Cw
 simp only [lj,ae,b9,mj]
 by_cases h1:a0=5
 ·by_cases h2:a6=0
  ·simp [h1,h2]
  ·have:(a6 !=0)=true:=by simp [h2]
   simp [h1,h2,this]
 ·simp [h1]
def XR (x:WB):Bool:=decide (x.1=8)&&Cw x.2.2.1
theorem ID (x:WB):fP x=some (XR x):=by
 unfold fP XR
 try simp only [Prod.eta]
 rw [Ju,ae,mj]
 by_cases h:x.1=8
 ·rw [decide_eq_true h,cond_true,Bool.true_and]
 ·rw [decide_eq_false h,cond_false,Bool.false_and]
end Go.Ab
set_option linter.unusedVariables false
namespace Go.Ab
def neD (c:CF) (m:List Int) (v:Int):Prop:=0<mI (ai m (uD c v)) (ai m (mC c v))∧mI (ai m (uD c v)) (ai m (mC c v))≤c.2.1
def neI (m:List Int):Prop:=0<mI (ai m 5) (ai m 4)
theorem Vp {k:Nat} (hk:1000≤k) (c:CF) (m:List Int) (v:Int):∃ l b,iT k c m v=some (l,b)∧l.length≤16∧(l=[]∨neD c m v):=by
 unfold iT
 try simp only [Prod.eta]
 rw [fe,ae]
 cases hm:eu c with
 | false=>exact ⟨_,_,rfl,by simp,.inl rfl⟩
 | true=>
  have hc:=aQ hm
  rw [Bool.not_true,cond_false,pT,ae]
  cases hb:((m.length:Int)!=cD c) with
  | true=>exact ⟨_,_,rfl,by simp,.inl rfl⟩
  | false=>
   rw [cond_false]
   by_cases h0:v<0
   ·rw [ltT h0]
    exact ⟨_,_,rfl,by simp,.inl rfl⟩
   rw [ltF (by omega),cond_false]
   by_cases h1:c.1≤v
   ·rw [leT h1]
    exact ⟨_,_,rfl,by simp,.inl rfl⟩
   rw [leF (by omega),cond_false,MG,ae,dl,ae,JN,ae,dl,ae,FO,ae]
   by_cases h2:mI (ai m (uD c v)) (ai m (mC c v))<0
   ·rw [ltT h2]
    exact ⟨_,_,rfl,by simp,.inl rfl⟩
   rw [ltF (by omega),cond_false]
   by_cases h3:c.2.1<mI (ai m (uD c v)) (ai m (mC c v))
   ·rw [ltT h3]
    exact ⟨_,_,rfl,by simp,.inl rfl⟩
   rw [ltF (by omega),cond_false]
   generalize hn:mI (ai m (uD c v)) (ai m (mC c v))=n at h2 h3
   have key:∀ (d f i:Nat) (acc:List Int) (e:Nat),(i:Int)+d=n→d<f→acc.length=i→(e=1∨e=0)→∃ l,dt k c m v f (ai m (mC c v)) n acc (i:Int) e=some (l,true)∧(l.length:Int)=n:=by
    intro d
    induction d with
    | zero=>
     intro f i acc e hi hf ha he
     obtain ⟨f,rfl⟩:=gE hf
     rw [dt,ltF (by omega),cond_false]
     exact ⟨acc,rfl,by omega⟩
    | succ d ih=>
     intro f i acc e hi hf ha he
     obtain ⟨f,rfl⟩:=gE hf
     have hes:(e==1||e==0)=true:=by rcases he with rfl | rfl <;> rfl
     rw [dt,ltT (by omega),cond_true]
     simp only [Prod.eta]
     rw [Hx _ _ (E3 _).1 (E3 _).2,ae,dl,ae,hes,ct,Dt (by rw [List.length_append];simp;omega),cond_true,gg (by omega)]
     exact ih f (i+1) _ 1 (by omega) (by omega) (by rw [List.length_append];simp;omega) (.inl rfl)
   obtain ⟨l,hl,hll⟩:=key n.toNat (k+12) 0 [] 0 (by omega) (by omega) rfl (.inr rfl)
   refine ⟨l,true,hl,by omega,?_⟩
   by_cases hz:n=0
   ·exact .inl (List.length_eq_zero_iff.1 (by omega))
   ·refine .inr ?_
    unfold neD
    rw [hn]
    omega
theorem Yv (a b:Int):IntKind.i64.wrap (mI a b)=mI a b:=by
 unfold mI
 simp [IntKind.wrap,IntKind.bits,IntKind.signed]
 omega
theorem RN {k:Nat} (hk:9223372036854779000≤k) {p:PB} (ht:Wt p.2.1) (hw:∀ x ∈ p.2.2.2.1,x.2.1.length≤9000) (hs:∀ x ∈ p.2.2.2.2,x.2.1.length≤1000) (hm:gh p=true) :
  ∃ z,eQ k p=some z∧((∀ v:Int,0≤v→v<p.1.1→¬ neD p.1 p.2.2.1 v)→z=mI (ai p.2.2.1 5) (ai p.2.2.1 4)):=by
 obtain ⟨m1,m2,m3,m4,m5⟩:=ml hm
 have hc:=aQ m1
 unfold eQ
 rw [Hs hk ht hw hs,hm,ae,Bool.not_true,cond_false]
 have hlen:gG p.1 p.2.2.1=some (mI (ai p.2.2.1 5) (ai p.2.2.1 4)):=by
  have h0:0<p.2.2.2.1.length:=by omega
  have hsz:=(fb (m4 0 _ (List.getElem?_eq_getElem h0))).2.1
  unfold gG iC
  try simp only [Prod.eta]
  rw [fe,ae,m1,cond_true,pT,ae,mj,decide_eq_true hsz,ae,Bool.not_true,cond_false,dl,ae,dl,ae,FO,ae]
 rw [hlen,ae]
 have key:∀ (d f i:Nat) (z:Int),(i:Int)+d=p.1.1→d<f→∃ z',cA k p f z (i:Int)=some z'∧((∀ v:Int,(i:Int)≤v→v<p.1.1→¬ neD p.1 p.2.2.1 v)→IntKind.i64.wrap z=z→z'=z):=by
  intro d
  induction d with
  | zero=>
   intro f i z hi hf
   obtain ⟨f,rfl⟩:=gE hf
   rw [cA,ltF (by omega),cond_false]
   exact ⟨z,rfl,fun _ _=>rfl⟩
  | succ d ih=>
   intro f i z hi hf
   obtain ⟨f,rfl⟩:=gE hf
   obtain ⟨l,b,hl,hl16,hne⟩:=Vp (k:=k+22) (by omega) p.1 p.2.2.1 (i:Int)
   rw [cA,ltT (by omega),cond_true]
   simp only [Prod.eta]
   rw [hl,ae,gg (by omega)]
   obtain ⟨z',h1,h2⟩:=ih f (i+1) (IntKind.i64.wrap (z+(l.length:Int))) (by omega) (by omega)
   refine ⟨z',h1,fun hv hz => ?_⟩
   rcases hne with rfl | hne
   ·have e:IntKind.i64.wrap (z+(([]:List Int).length:Int))=z:=by simpa using hz
    rw [e] at h2
    exact h2 (fun v a b=>hv v (by omega) b) hz
   ·exact absurd hne (hv i (Int.le_refl _) (by omega))
 obtain ⟨z,h1,h2⟩:=key p.1.1.toNat (k+35) 0 (mI (ai p.2.2.1 5) (ai p.2.2.1 4)) (by omega) (by omega)
 exact ⟨z,h1,fun hv=>h2 hv (Yv _ _)⟩
end Go.Ab
set_option linter.unusedVariables false
namespace Go.Ab
structure Hdr (c:CF) (j:Int):Prop where
 bot:∀ w,uD c w≠j
 slot:∀ w x,0≤x→x≤18446744073709551615→oC c w x≠j
 seq:∀ x,pQ c x≠j
 val:∀ x,H3 c x≠j
 park:∀ w,bR c w≠j
 n0:(0:Int)≠j
 n1:(1:Int)≠j
 n2:(2:Int)≠j
 n3:(3:Int)≠j
 n5:(5:Int)≠j
theorem lK {c:CF} {w x:Int} (hx:0≤x):onW c w x = -1∨eu c=true∧0≤w∧w<c.1∧onW c w x=6+2*c.2.2.1+(w*(3+c.2.1)+x)∧8≤onW c w x:=by
 unfold onW
 split
 ·rename_i h
  have hm:=aQ h.1
  have:=cX h.1 h.2.1 (by omega)
  refine .inr ⟨h.1,h.2.1,h.2.2,?_,by omega⟩
  unfold wN
  omega
 ·exact .inl rfl
theorem K4 {c:CF} {x:Int}:pQ c x = -1∨eu c=true∧6≤pQ c x∧pQ c x<6+c.2.2.1:=by
 unfold pQ
 split
 ·rename_i h
  have hm:=aQ h
  have a:=Int.emod_nonneg x (show c.2.2.1≠0 by omega)
  have b:=Int.emod_lt_of_pos x (show 0<c.2.2.1 by omega)
  exact .inr ⟨h,by omega,by omega⟩
 ·exact .inl rfl
theorem Lf {c:CF} {x:Int}:H3 c x = -1∨eu c=true∧6+c.2.2.1≤H3 c x∧H3 c x<6+2*c.2.2.1:=by
 unfold H3
 split
 ·rename_i h
  have hm:=aQ h
  have a:=Int.emod_nonneg x (show c.2.2.1≠0 by omega)
  have b:=Int.emod_lt_of_pos x (show 0<c.2.2.1 by omega)
  exact .inr ⟨h,by omega,by omega⟩
 ·exact .inl rfl
theorem pF {c:CF} {w:Int}:bR c w=onW c w 2:=by
 unfold bR onW
 rfl
theorem ahX {c:CF}:Hdr c 4:=by
 refine ⟨fun w => ?_,fun w x h0 h1 => ?_,fun x => ?_,fun x => ?_,fun w => ?_,by decide,by decide,by decide,by decide,by decide⟩
 ·have:=lK (c:=c) (w:=w) (x:=1) (by decide)
  unfold uD
  omega
 ·unfold oC
  by_cases hc:eu c=true
  ·have hm:=aQ hc
   have ha:=pC h0 h1 (show 1≤c.2.1 by omega) (by omega)
   have:=lK (c:=c) (w:=w) (x:=3+rJ .u64 x (c.2.1 - 1)) (by omega)
   omega
  ·unfold onW
   rw [if_neg (fun h=>hc h.1)]
   decide
 ·have:=K4 (c:=c) (x:=x)
  omega
 ·have:=Lf (c:=c) (x:=x)
  have h:=fun h=>aQ (c:=c) h
  rcases this with e | ⟨e,_⟩
  ·omega
  ·have:=h e
   omega
 ·have:=lK (c:=c) (w:=w) (x:=2) (by decide)
  rw [pF]
  omega
theorem aiF {c:CF} {v:Int} (hc:eu c=true) (h0:0≤v) (h1:v<c.1):Hdr c (mC c v):=by
 have hm:=aQ hc
 have ht:=cX hc h0 (by omega)
 have hp:mC c v=6+2*c.2.2.1+(v*(3+c.2.1)+0):=by
  unfold mC onW
  rw [if_pos ⟨hc,h0,h1⟩,wN]
  omega
 have hv:0≤v*(3+c.2.1):=ht.2.2.2
 have gen:∀ w x:Int,0<x→x<3+c.2.1→onW c w x≠mC c v:=by
  intro w x x0 x1
  rw [hp]
  rcases lK (c:=c) (w:=w) (x:=x) (by omega) with e | ⟨_,_,_,e,_⟩
  ·omega
  ·rw [e]
   have:=HC (a:=w) (b:=v) hm.2.2.1 (x:=x) (y:=0) (by omega) (by omega) (by omega)
   omega
 refine ⟨fun w=>gen w 1 (by decide) (by omega),fun w x g0 g1 => ?_,fun x => ?_,fun x => ?_,fun w=>by rw [pF];exact gen w 2 (by decide) (by omega),by omega,by omega,by omega,by omega,by omega⟩
 ·have ha:=pC g0 g1 (show 1≤c.2.1 by omega) (by omega)
  exact gen w _ (by omega) (by omega)
 ·have:=K4 (c:=c) (x:=x)
  omega
 ·have:=Lf (c:=c) (x:=x)
  omega
theorem Gi (m:List Int) (i o j:Int):ai (nG m i o (iM o 1)).1 j=ai m j∨ai (nG m i o (iM o 1)).1 j=iM (ai m j) 1:=by
 unfold nG
 split
 ·rename_i h
  by_cases e:i=j
  ·subst e
   dsimp only
   rw [fM _ h.1 h.2.1,h.2.2]
   exact .inr rfl
  ·exact .inl (aH _ e)
 ·exact .inl rfl
section
variable {c:CF} {m:List Int} {f:FR} {j:Int} (hj:Hdr c j) (hf:Wf f)
include hj hf
theorem Yz:ai (nc c m f).1 j=ai m j:=by
 have w4:=hf.2.1
 unfold nc
 repeat' split
 all_goals first | rfl | exact ks (hj.slot _ _ w4.1 w4.2) | exact ks (hj.bot _)
theorem Z9:ai (D6 c m f).1 j=ai m j∨ai (D6 c m f).1 j=iM (ai m j) 1:=by
 have _h:=hf
 unfold D6
 dsimp only
 repeat' split
 all_goals first | exact .inl rfl | exact .inl (ks (hj.bot _)) | exact Gi _ _ _ _
theorem PM:ai (gO c m f).1 j=ai m j∨ai (gO c m f).1 j=iM (ai m j) 1:=by
 have _h:=hf
 have _h2:=hj
 unfold gO
 dsimp only
 repeat' split
 all_goals first | exact .inl rfl | exact Gi _ _ _ _
theorem abn:ai (oP c m f).1 j=ai m j:=by
 have _h:=hf
 unfold oP
 try dsimp only
 repeat' split
 all_goals first | rfl | exact ks (hj.seq _) | exact ks (hj.val _) | exact kc hj.n5
theorem aad:ai (Ep c m f).1 j=ai m j∨ai (Ep c m f).1 j=iM (ai m j) 1:=by
 have _h:=hf
 unfold Ep
 try dsimp only
 repeat' split
 all_goals first | exact .inl rfl | exact .inl (ks (hj.seq _)) | exact Gi _ _ _ _
theorem TY:ai (d8 c m f).1 j=ai m j:=by
 have _h:=hf
 unfold d8
 try dsimp only
 repeat' split
 all_goals first | rfl | exact ks (hj.park _) | exact kc hj.n2
theorem Wk:ai (dc c m f).1 j=ai m j:=by
 have _h:=hf
 unfold dc wV
 try dsimp only
 repeat' split
 all_goals first | rfl | exact ks (hj.park _) | exact ks hj.n2
theorem G7:ai (dH c m f).1 j=ai m j∨ai (dH c m f).1 j=iM (ai m j) 1:=by
 unfold dH oU w8
 repeat' split
 all_goals first | exact .inl rfl | exact .inl (abn hj hf) | exact aad hj hf | exact .inl (TY hj hf) | exact .inl (Wk hj hf)
theorem RA:ai (da c m f).1 j=ai m j∨ai (da c m f).1 j=iM (ai m j) 1:=by
 unfold da Aa
 repeat' split
 all_goals first | exact .inl rfl | exact .inl (Yz hj hf) | exact Z9 hj hf | exact PM hj hf | exact G7 hj hf
end
section
variable {c:CF} {t:Tyt} {m:List Int} {w:Int} {x:WB} {d:Int} {j:Int}
theorem KF (hj:Hdr c j) (hf:Wf x.2.2.1):ai (a8 c t m w x d).1 j=ai m j∨ai (a8 c t m w x d).1 j=iM (ai m j) 1:=by
 have hk:=RA (m:=m) hj hf
 refine eV (P:=fun r=>ai r.1 j=ai m j∨ai r.1 j=iM (ai m j) 1) (fun _ => .inl rfl) ?_ ?_ ?_ ?_ ?_ ?_ ?_ ?_ ?_ ?_ ?_ ?_ ?_ ?_ ?_
 all_goals intro _ _
 all_goals dsimp only [DL,nw,lS,gH,mK,kr,bK,bO,De,mu,mD,mr,CB,mN,mw]
 all_goals repeat' split
 all_goals first | exact .inl rfl | exact hk | exact .inl (ks hj.n0) | exact .inl (ks hj.n1)
theorem SL {i:Int} {y:SB} (hj:Hdr c j) (hf:Wf y.2.2):ai (ia c t m i y).1 j=ai m j∨ai (ia c t m i y).1 j=iM (ai m j) 1:=by
 have hk:=G7 (m:=m) hj hf
 unfold ia
 dsimp only
 repeat' split
 all_goals first | exact .inl rfl | exact hk | exact .inl (ks hj.n0) | (dsimp only;first | exact .inl rfl | exact hk | exact .inl (ks hj.n0))
end
theorem Wo (e m:Int):epB (rE e m)=e%281474976710656:=by unfold epB rE;omega
theorem Ng {X:Int} (h:epB X+1<281474976710656) (h0:0≤X):epB (mA X)=epB X+1:=by
 unfold mA
 rw [Wo]
 unfold epB at *
 omega
structure Ew (c:CF) (m m':List Int) (me:Int):Prop where
 ep:epB (ai m' 2)=epB (ai m 2)∨epB (ai m' 2)=epB (ai m 2)+1
 bit:∀ v,0≤v→v<c.1→v≠me→gB (ai m' 2) v=true→gB (ai m 2) v=true
theorem Ew.same {c:CF} {m m':List Int} {me:Int} (h:ai m' 2=ai m 2):Ew c m m' me:=⟨.inl (by rw [h]),fun v _ _ _ hb=>by rw [h] at hb;exact hb⟩
section
variable {c:CF} {m:List Int} {f:FR} (hc:eu c=true) (hl:(m.length:Int)=cD c) (hm:Wm m) (hf:Wf f)
include hc hl hm hf
theorem V8 (h1:f.1=5):Ew c m (d8 c m f).1 f.2.2.1:=by
 have _h:=And.intro hl hf
 have hmc:=aQ hc
 unfold d8
 split
 ·exact .same rfl
 rename_i hg
 have hg':ln c m f 5 5=true:=by simpa using hg
 unfold ln at hg'
 simp only [Bool.and_eq_true,decide_eq_true_eq] at hg'
 split
 ·exact .same rfl
 split
 ·split <;> exact .same rfl
 split
 ·dsimp only
  unfold nG
  split
  ·rename_i e
   have hY:=cq hm 2
   rw [e.2.2] at hY
   have h2:ai (aJ m 2 (Cy f.2.2.2.2.2.1 f.2.2.1)) 2=Cy f.2.2.2.2.2.1 f.2.2.1:=fM _ (by decide) e.2.1
   refine ⟨.inl ?_,fun v v0 v1 hv hb => ?_⟩
   ·dsimp only
    rw [h2,abD hY.1 hY.2 hg'.2.2.1 (by omega),e.2.2]
   ·dsimp only at hb
    rw [h2,Kr hY.1 hY.2 hg'.2.2.1 (by omega) v0,decide_eq_false hv,Bool.false_or] at hb
    rw [e.2.2]
    exact hb
  ·exact .same rfl
 split
 ·exact .same rfl
 ·refine .same (aH _ ?_)
  have:=lK (c:=c) (w:=f.2.2.1) (x:=2) (by decide)
  rw [pF]
  omega
theorem LY {me:Int} (h1:f.1=6) (he:epB (ai m 2)+1<281474976710656):Ew c m (dc c m f).1 me:=by
 have _h:=hm
 have hs:=ii hc
 have hmc:=aQ hc
 have hX:=hf.2.1
 have hpk:∀ u,bR c u≠2:=fun u=>by
  have:=lK (c:=c) (w:=u) (x:=2) (by decide)
  rw [pF]
  omega
 unfold dc
 split
 ·exact .same rfl
 split
 ·exact .same rfl
 split
 ·split
  ·rename_i e
   dsimp only
   try rw [if_pos h1]
   have h2:ai (aJ m 2 (mA f.2.2.2.2.1)) 2=mA f.2.2.2.2.1:=fM _ (by decide) (by omega)
   refine ⟨.inr ?_,fun v v0 v1 hv hb => ?_⟩
   ·rw [h2,e]
    rw [e] at he
    exact Ng he hX.1
   ·rw [h2,od hX.1 hX.2 v0 (by omega),Bool.and_eq_true] at hb
    rw [e]
    exact hb.1
  ·exact .same rfl
 ·split
  ·unfold wV
   exact .same (aH _ (hpk _))
  ·unfold wV
   exact .same (aH _ (hpk _))
end
end Go.Ab
set_option linter.unusedVariables false
namespace Go.Ab
def NE (c:CF) (m:List Int) (j:Int):Prop:=(j=1∧neI m)∨∃ v,0≤v∧v<c.1∧j=2*v+3∧neD c m v
structure Qs (c:CF) (m m':List Int):Prop where
 h4:ai m' 4=ai m 4
 h5:ai m' 5=ai m 5
 top:∀ v,0≤v→v<c.1→ai m' (mC c v)=ai m (mC c v)
 bot:∀ v,0≤v→v<c.1→ai m' (uD c v)=ai m (uD c v)
theorem Qs.refl {c:CF} {m:List Int}:Qs c m m:=⟨rfl,rfl,fun _ _ _=>rfl,fun _ _ _=>rfl⟩
theorem Qs.ne {c:CF} {m m':List Int} (h:Qs c m m') {j:Int} (hn:NE c m' j):NE c m j:=by
 rcases hn with ⟨e,hn⟩ | ⟨v,v0,v1,e,hn⟩
 ·unfold neI at hn
  rw [h.h4,h.h5] at hn
  exact .inl ⟨e,hn⟩
 ·unfold neD at hn
  rw [h.top v v0 v1,h.bot v v0 v1] at hn
  exact .inr ⟨v,v0,v1,e,hn⟩
theorem Qs.low {c:CF} {m:List Int} {i v:Int} (h:i=0∨i=1∨i=2∨i=3):Qs c m (aJ m i v):=by
 have g:∀ w x:Int,0≤x→i≠onW c w x:=fun w x hx=>by
  have:=lK (c:=c) (w:=w) hx
  have hn:onW c w x = -1∨8≤onW c w x:=by omega
  omega
 exact ⟨aH _ (by omega),aH _ (by omega),fun w _ _=>aH _ (g w 0 (by decide)),fun w _ _=>aH _ (g w 1 (by decide))⟩
theorem Qs.park {c:CF} {m:List Int} {u v:Int} (hc:eu c=true):Qs c m (aJ m (bR c u) v):=by
 have hmc:=aQ hc
 have g:∀ w,0≤w→w<c.1→∀ x:Int,x=0∨x=1→bR c u≠onW c w x:=fun w w0 w1 x hx=>by
  have ht:=cX hc w0 (by omega)
  have hw:onW c w x=6+2*c.2.2.1+(w*(3+c.2.1)+x):=by
   unfold onW
   rw [if_pos ⟨hc,w0,w1⟩,wN]
   omega
  have hw0:0≤w*(3+c.2.1):=ht.2.2.2
  rw [pF]
  rcases lK (c:=c) (w:=u) (x:=2) (by decide) with e | ⟨_,u0,u1,e,_⟩
  ·omega
  ·rw [e,hw]
   have:=HC (a:=u) (b:=w) hmc.2.2.1 (x:=2) (y:=x) (by omega) (by omega) (by omega)
   omega
 refine ⟨aH _ (ahX.park u),aH _ ?_,fun w w0 w1=>aH _ (g w w0 w1 0 (.inl rfl)),fun w w0 w1=>aH _ (g w w0 w1 1 (.inr rfl))⟩
 rw [pF]
 have:=lK (c:=c) (w:=u) (x:=2) (by decide)
 omega
theorem Ub {c:CF} {m:List Int} {f:FR} (hc:eu c=true):Qs c m (d8 c m f).1:=by
 unfold d8
 try dsimp only
 repeat' split
 all_goals first | exact .refl | exact .park hc | (unfold nG;split <;> first | exact .low (.inr (.inr (.inl rfl))) | exact .refl)
theorem VK {c:CF} {m:List Int} {f:FR} (hc:eu c=true):Qs c m (dc c m f).1:=by
 unfold dc wV
 try dsimp only
 repeat' split
 all_goals first | exact .refl | exact .park hc | exact .low (.inr (.inr (.inl rfl)))
def J0 (c:CF) (k:Int):Int:=if k=1 then 4 else mC c ((k - 2)/2)
structure Fj (c:CF) (m:List Int) (x:WB):Prop where
 ep:x.1=6∨x.1=7∨x.1=8∧x.2.2.1.2.1≤2→epB x.2.2.1.2.2.2.2.1≤epB (ai m 2)
 pc:x.1=8→1≤x.2.2.1.2.1
 ey:x.1=8→x.2.2.1.2.1=2→epB x.2.2.1.2.2.2.2.2.1=epB x.2.2.1.2.2.2.2.1
 lk:x.1=7→0≤x.2.2.2.2∧x.2.2.2.2<2+2*c.1∧(x.2.2.2.2%2=1→0≤x.2.2.1.2.2.2.1∧x.2.2.1.2.2.2.1≤ai m (J0 c x.2.2.2.2))
def Act (m:List Int) (w:Int) (x:WB) (j:Int):Prop:=
 (x.1≠7∧x.1≠8)∨(x.1=7∧x.2.2.2.2≤j)∨((x.1=7∨x.1=8∧x.2.2.1.2.1≤2)∧epB x.2.2.1.2.2.2.2.1<epB (ai m 2))∨(x.1=8∧3≤x.2.2.1.2.1∧gB (ai m 2) w=false)
theorem Act.mono {m m':List Int} {w:Int} {x:WB} {j:Int} (h:Act m w x j) (he:epB (ai m 2)≤epB (ai m' 2)) (hb:gB (ai m' 2) w=true→gB (ai m 2) w=true):Act m' w x j:=by
 rcases h with h | h | ⟨h,h2⟩ | ⟨h,h2,h3⟩
 ·exact .inl h
 ·exact .inr (.inl h)
 ·exact .inr (.inr (.inl ⟨h,by omega⟩))
 ·refine .inr (.inr (.inr ⟨h,h2,?_⟩))
  cases hh:gB (ai m' 2) w with
  | false=>rfl
  | true=>rw [hb hh] at h3;cases h3
theorem Fj.mono {c:CF} {m m':List Int} {x:WB} (h:Fj c m x) (he:epB (ai m 2)≤epB (ai m' 2)) (hh:∀ k,0≤k→k<2+2*c.1→ai m (J0 c k)≤ai m' (J0 c k)):Fj c m' x:=
 ⟨fun e=>Int.le_trans (h.ep e) he,h.pc,h.ey,fun e=>⟨(h.lk e).1,(h.lk e).2.1,fun o=>⟨((h.lk e).2.2 o).1,Int.le_trans ((h.lk e).2.2 o).2 (hh _ (h.lk e).1 (h.lk e).2.1)⟩⟩⟩
theorem VS {a t h:Int} (hp:0<mI a t) (h0:0≤h) (ht:h≤t) (hb:t≤1000000) (hd:mI a t≤1000000) (ha:0≤a∧a≤18446744073709551615):0<mI a h∧a≠h:=by
 unfold mI at *
 rw [mP] at *
 simp only [IntKind.wrap,IntKind.bits,IntKind.signed] at *
 simp at *
 omega
section
variable {c:CF} {t:Tyt} {m:List Int} {w:Int} {x:WB} {d:Int}
theorem un (h6:x.1≠6) (h7:x.1≠7) (h8:x.1≠8):(a8 c t m w x d).2.1.1≠7∧(a8 c t m w x d).2.1.1≠8:=by
 refine eV (P:=fun r=>r.2.1.1≠7∧r.2.1.1≠8) (fun _=>⟨h7,h8⟩) ?_ ?_ ?_ ?_ ?_ ?_ ?_ ?_ ?_ ?_ ?_ ?_ ?_ ?_ ?_
 all_goals intro _ e
 all_goals first | exact absurd e h6 | exact absurd e h7 | exact absurd e h8 | skip
 all_goals dsimp only [DL,nw,lS,gH,mK,De,mu,mD,mr,CB,mN,mw,toW,gk]
 all_goals repeat' split
 all_goals (try dsimp only) <;> omega
theorem Ka (hm:cZ c t m w x=true) (h:x.1=6):a8 c t m w x d=kr m x:=by
 unfold a8
 rw [if_neg (by rw [hm];decide),if_neg (by omega),if_neg (by omega),if_neg (by omega),if_neg (by omega),if_neg (by omega),if_pos h]
theorem ME (hm:cZ c t m w x=true) (h:x.1=7):a8 c t m w x d=bK c m x:=by
 unfold a8
 rw [if_neg (by rw [hm];decide),if_neg (by omega),if_neg (by omega),if_neg (by omega),if_neg (by omega),if_neg (by omega),if_neg (by omega),if_pos h]
theorem Nh (hm:cZ c t m w x=true) (h:x.1=8):a8 c t m w x d=bO c m x:=by
 unfold a8
 rw [if_neg (by rw [hm];decide),if_neg (by omega),if_neg (by omega),if_neg (by omega),if_neg (by omega),if_neg (by omega),if_neg (by omega),if_neg (by omega),if_pos h]
theorem BY (hc1:1≤c.1) (hk:0≤x.2.2.2.2∧x.2.2.2.2<2+2*c.1):(bK c m x).1=m∧((bK c m x).2.1.1=1 ∨
  ((bK c m x).2.1.1=7∧(bK c m x).2.1.2.2.2.2=x.2.2.2.2+1∧x.2.2.2.2+1<2+2*c.1∨(bK c m x).2.1.1=8∧(bK c m x).2.1.2.2.2.2=0∧x.2.2.2.2+1=2+2*c.1) ∧
  (bK c m x).2.1.2.2.1.1=x.2.2.1.1∧(bK c m x).2.1.2.2.1.2.1=x.2.2.1.2.1∧(bK c m x).2.1.2.2.1.2.2.1=x.2.2.1.2.2.1∧(bK c m x).2.1.2.2.1.2.2.2.2=x.2.2.1.2.2.2.2 ∧
  (x.2.2.2.2%2=0→(bK c m x).2.1.1=7→(bK c m x).2.1.2.2.1.2.2.2.1=ai m (J0 c (x.2.2.2.2+1))) ∧
  (x.2.2.2.2=1→ai m 5=x.2.2.1.2.2.2.1)∧(x.2.2.2.2%2=1→x.2.2.2.2≠1→¬ 0<mI (ai m (uD c ((x.2.2.2.2 - 2)/2))) x.2.2.1.2.2.2.1)):=by
 obtain ⟨pc,st,⟨op,fp,wh,va,X,Y,re⟩,sp,k⟩:=x
 dsimp only at hk ⊢
 have hn:¬ (k<0∨2+2*c.1≤k):=by omega
 unfold bK
 dsimp only [Bc]
 rw [if_neg hn]
 by_cases k0:k=0
 ·subst k0
  simp only [if_true,Bool.false_eq_true,if_false]
  rw [if_neg (show ¬ (0:Int)+1=2+2*c.1 by omega)]
  have hlt:(0:Int)+1<2+2*c.1:=by omega
  refine ⟨rfl,.inr ⟨.inl ⟨rfl,rfl,hlt⟩,rfl,rfl,rfl,rfl,fun _ _=>rfl,fun h=>absurd h (by decide),fun h=>absurd h (by decide)⟩⟩
 by_cases k1:k=1
 ·subst k1
  simp only [if_true]
  rw [if_neg (show ¬ (1:Int)=0 by decide),if_neg (show ¬ (1:Int)=0 by decide)]
  by_cases hs:ai m 5=va
  ·have hlt:(1:Int)+1<2+2*c.1:=by omega
   rw [if_neg (by simp [hs]),if_neg (show ¬ (1:Int)+1=2+2*c.1 by omega)]
   exact ⟨rfl,.inr ⟨.inl ⟨rfl,rfl,hlt⟩,rfl,rfl,rfl,rfl,fun h=>absurd h (by decide),fun _=>hs,fun _ h=>absurd rfl h⟩⟩
  ·rw [if_pos (by simp [hs])]
   exact ⟨rfl,.inl rfl⟩
 rw [if_neg k0,if_neg k0,if_neg k1,if_neg k1]
 by_cases ke:k%2=0
 ·rw [if_pos ke,if_pos ke,if_neg (by decide),if_neg (by omega)]
  refine ⟨rfl,.inr ⟨.inl ⟨rfl,rfl,by omega⟩,rfl,rfl,rfl,rfl,fun _ _ => ?_,fun h=>absurd h k1,fun h=>absurd h (by omega)⟩⟩
  unfold J0
  rw [if_neg (by omega),show (k+1 - 2)/2=(k - 2)/2 by omega]
 ·rw [if_neg ke,if_neg ke]
  by_cases hs:0<mI (ai m (uD c ((k - 2)/2))) va
  ·rw [if_pos (decide_eq_true hs)]
   exact ⟨rfl,.inl rfl⟩
  ·rw [if_neg (by rw [decide_eq_false hs];decide)]
   by_cases hl:k+1=2+2*c.1
   ·rw [if_pos hl]
    exact ⟨rfl,.inr ⟨.inr ⟨rfl,rfl,hl⟩,rfl,rfl,rfl,rfl,fun h=>absurd h ke,fun h=>absurd h k1,fun _ _=>hs⟩⟩
   ·rw [if_neg hl]
    exact ⟨rfl,.inr ⟨.inl ⟨rfl,rfl,by omega⟩,rfl,rfl,rfl,rfl,fun h=>absurd h ke,fun h=>absurd h k1,fun _ _=>hs⟩⟩
end
end Go.Ab
set_option linter.unusedVariables false
namespace Go.Ab
theorem aaf {a t h:Int} (hp:0<mI a t) (h0:0≤h) (ht:h≤t) (hb:t≤1000000):a≠h:=by
 intro e
 subst e
 unfold mI at hp
 rw [mP] at hp
 simp only [IntKind.wrap,IntKind.bits,IntKind.signed] at hp
 simp at hp
 omega
section
variable {c:CF} {t:Tyt} {m:List Int} {w:Int} {x:WB} {d:Int}
theorem IP (h5:x.1≠5) (h6:x.1≠6) (h7:x.1≠7) (h8:x.1≠8):(a8 c t m w x d).2.1.1≠6:=by
 refine eV (P:=fun r=>r.2.1.1≠6) (fun _=>h6) ?_ ?_ ?_ ?_ ?_ ?_ ?_ ?_ ?_ ?_ ?_ ?_ ?_ ?_ ?_
 all_goals intro _ e
 all_goals first | exact absurd e h5 | exact absurd e h6 | exact absurd e h7 | exact absurd e h8 | skip
 all_goals dsimp only [DL,nw,lS,gH,De,mu,mD,mr,CB,mN,mw,toW,gk]
 all_goals repeat' split
 all_goals (try dsimp only) <;> omega
theorem acI (hm:cZ c t m w x=true) (h:x.1=5) (hx:x.2.2.1=Au 5 w 0):a8 c t m w x d=(m,(6,x.2.1,(5,1,w,0,ai m 2,0,0),x.2.2.2),[]):=by
 obtain ⟨a,b,_,e,_⟩:=fb hm
 unfold a8
 rw [if_neg (by rw [hm];decide),if_neg (by omega),if_neg (by omega),if_neg (by omega),if_neg (by omega),if_pos h]
 unfold mK
 rw [hx,GA a b e.1 e.2.1]
theorem Fj.free {m:List Int} {x:WB} (h6:x.1≠6) (h7:x.1≠7) (h8:x.1≠8):Fj c m x:=
 ⟨fun e=>by omega,fun e=>absurd e h8,fun e=>absurd e h8,fun e=>absurd e h7⟩
theorem C4 (hm:cZ c t m w x=true) (h8:x.1=8) (hx:Fwk c.1 w x) (hp:1≤x.2.2.1.2.1) :
  (bO c m x).2.1.1=1∧(x.2.2.1.2.1=1→epB (ai m 2)≠epB x.2.2.1.2.2.2.2.1)∧x.2.2.1.2.1≠2∧x.2.2.1.2.1≠3 ∨
  (bO c m x).2.1.1=8∧(bO c m x).2.1.2.2.1.2.2.2.2.1=x.2.2.1.2.2.2.2.1 ∧
   (x.2.2.1.2.1=1∧(bO c m x).1=m∧(bO c m x).2.1.2.2.1.2.1=2∧epB (ai m 2)=epB x.2.2.1.2.2.2.2.1∧(bO c m x).2.1.2.2.1.2.2.2.2.2.1=ai m 2 ∨
    x.2.2.1.2.1=2∧(ai m 2=x.2.2.1.2.2.2.2.2.1∧(bO c m x).2.1.2.2.1.2.1=3∨ai m 2≠x.2.2.1.2.2.2.2.2.1∧(bO c m x).1=m∧(bO c m x).2.1.2.2.1.2.1=1) ∨
    x.2.2.1.2.1=3∧(bO c m x).1=m∧3≤(bO c m x).2.1.2.2.1.2.1):=by
 obtain ⟨a,b,_,e,_⟩:=fb hm
 obtain ⟨f1,f2,f3,f4⟩:=hx.2.2.2.1 h8
 have ok:OkB c m w:=⟨a,b,e.1,e.2.1⟩
 unfold bO
 rw [lA f1]
 obtain ⟨pc,st,⟨op,fp,wh,va,X,Y,re⟩,sp,k⟩:=x
 dsimp only at f1 f2 f3 f4 h8 hp ⊢
 subst f1 f3 f4 h8
 rcases (show fp=1∨fp=2∨fp=3∨fp=4 by omega) with rfl | rfl | rfl | rfl
 ·rw [afq ok]
  by_cases he:epB (ai m 2)=epB X
  ·rw [if_pos he]
   exact .inr ⟨rfl,rfl,.inl ⟨rfl,rfl,rfl,he,rfl⟩⟩
  ·rw [if_neg he]
   exact .inl ⟨rfl,fun _=>he,by decide,by decide⟩
 ·rw [agD ok]
  by_cases he:ai m 2=Y
  ·rw [if_pos he]
   exact .inr ⟨rfl,rfl,.inr (.inl ⟨rfl,.inl ⟨he,rfl⟩⟩)⟩
  ·rw [if_neg he]
   exact .inr ⟨rfl,rfl,.inr (.inl ⟨rfl,.inr ⟨he,rfl,rfl⟩⟩)⟩
 ·rw [ahY ok]
  refine .inr ⟨rfl,rfl,.inr (.inr ⟨rfl,rfl,?_⟩)⟩
  show (3:Int)≤if ai m (bR c _)=0 then 3 else 4
  split <;> omega
 ·rw [afu ok]
  exact .inl ⟨rfl,fun h=>absurd h (by decide),by decide,by decide⟩
theorem Uu (hm:cZ c t m w x=true) (hW:Wm m) (hx:Fwk c.1 w x) (h:Fj c m x) (he:epB (ai m 2)≤epB (ai (a8 c t m w x d).1 2)):Fj c (a8 c t m w x d).1 (a8 c t m w x d).2.1:=by
 obtain ⟨a,b,_,e,_⟩:=fb hm
 have hmc:=aQ a
 by_cases h5:x.1=5
 ·rw [acI hm h5 (hx.2.1 h5)]
  exact ⟨fun _=>Int.le_refl _,fun h=>absurd h (show ¬ (6:Int)=8 by decide),fun h=>absurd h (show ¬ (6:Int)=8 by decide),fun h=>absurd h (show ¬ (6:Int)=7 by decide)⟩
 by_cases h6:x.1=6
 ·rw [Ka hm h6] at he ⊢
  refine ⟨fun _=>Int.le_trans (h.ep (.inl h6)) he,fun h=>absurd h (show ¬ (7:Int)=8 by decide),fun h=>absurd h (show ¬ (7:Int)=8 by decide),fun _=>⟨Int.le_refl 0,?_,fun h=>absurd h (show ¬ (0:Int)%2=1 by decide)⟩⟩
  show (0:Int)<2+2*c.1
  omega
 by_cases h7:x.1=7
 ·obtain ⟨k0,k1,k2⟩:=h.lk h7
  obtain ⟨q1,q2⟩:=BY (m:=m) (by omega) ⟨k0,k1⟩
  rw [ME hm h7,q1]
  rcases q2 with q2 | ⟨q2,q3,q4,q5,q6,q7,_,_⟩
  ·exact .free (by omega) (by omega) (by omega)
  ·have hX:(bK c m x).2.1.2.2.1.2.2.2.2.1=x.2.2.1.2.2.2.2.1:=by rw [q6]
   have hp:=hx.2.2.1 (.inr h7)
   refine ⟨fun _=>by rw [hX];exact h.ep (.inr (.inl h7)),fun _=>by rw [q4];omega,fun _ h2=>by rw [q4] at h2;omega,fun e7 => ?_⟩
   rcases q2 with ⟨_,l1,l2⟩ | ⟨e8,_⟩
   ·rw [l1]
    refine ⟨by omega,by omega,fun ho => ?_⟩
    have:=q7 (by omega) e7
    rw [this]
    exact ⟨(cq hW _).1,Int.le_refl _⟩
   ·omega
 by_cases h8:x.1=8
 ·have hp:=h.pc h8
  rw [Nh hm h8] at he ⊢
  rcases C4 hm h8 hx hp with ⟨q1,_⟩ | ⟨q1,q2,q3⟩
  ·exact .free (by omega) (by omega) (by omega)
  ·have hE:x.2.2.1.2.1≤2→epB x.2.2.1.2.2.2.2.1≤epB (ai (bO c m x).1 2):=fun hh=>Int.le_trans (h.ep (.inr (.inr ⟨h8,hh⟩))) he
   rcases q3 with ⟨p1,p2,p3,p4,p5⟩ | ⟨p1,⟨p2,p3⟩ | ⟨p2,p3,p4⟩⟩ | ⟨p1,p2,p3⟩
   ·exact ⟨fun _=>by rw [q2];exact hE (by omega),fun _=>by omega,fun _ _=>by rw [q2,p5];exact p4,fun e=>by omega⟩
   ·exact ⟨fun e=>by omega,fun _=>by omega,fun _ e=>by omega,fun e=>by omega⟩
   ·exact ⟨fun _=>by rw [q2];exact hE (by omega),fun _=>by omega,fun _ e=>by omega,fun e=>by omega⟩
   ·exact ⟨fun e=>by omega,fun _=>by omega,fun _ e=>by omega,fun e=>by omega⟩
 ·obtain ⟨g7,g8⟩:=un (c:=c) (t:=t) (m:=m) (w:=w) (x:=x) (d:=d) h6 h7 h8
  exact .free (IP h5 h6 h7 h8) g7 g8
theorem PN (hm:cZ c t m w x=true) (hW:Wm m) (hx:Fwk c.1 w x) (h:Fj c m x) {j:Int} (hb4:ai m 4≤1000000) (hbt:∀ v,0≤v→v<c.1→ai m (mC c v)≤1000000) (ha:Act m w x j) (hn:NE c m j) :
  Act (a8 c t m w x d).1 w (a8 c t m w x d).2.1 j:=by
 obtain ⟨a,b,_,e,_⟩:=fb hm
 have hmc:=aQ a
 have hj1:1≤j∧j≤2*c.1+1:=by
  rcases hn with ⟨e,_⟩ | ⟨v,v0,v1,e,_⟩ <;> omega
 by_cases h6:x.1=6
 ·rw [Ka hm h6]
  exact .inr (.inl ⟨rfl,by show (0:Int)≤j;omega⟩)
 by_cases h7:x.1=7
 ·obtain ⟨k0,k1,k2⟩:=h.lk h7
  obtain ⟨q1,q2⟩:=BY (m:=m) (by omega) ⟨k0,k1⟩
  rw [ME hm h7,q1]
  rcases q2 with q2 | ⟨q2,q3,q4,q5,q6,q7,q8,q9⟩
  ·exact .inl ⟨by omega,by omega⟩
  ·have hX:(bK c m x).2.1.2.2.1.2.2.2.2.1=x.2.2.1.2.2.2.2.1:=by rw [q6]
   have hp:=hx.2.2.1 (.inr h7)
   rcases ha with ha | ⟨_,ha⟩ | ⟨_,ha⟩ | ⟨ha,_⟩
   ·exact absurd h7 ha.1
   ·by_cases hk:x.2.2.2.2=j
    ·exfalso
     rcases hn with ⟨e1,hn⟩ | ⟨v,v0,v1,e1,hn⟩
     ·have hk1:x.2.2.2.2=1:=by omega
      obtain ⟨r1,r2⟩:=k2 (by omega)
      have hs:J0 c x.2.2.2.2=4:=by unfold J0;rw [if_pos hk1]
      rw [hs] at r2
      exact aaf hn r1 r2 hb4 (q8 hk1)
     ·obtain ⟨r1,r2⟩:=k2 (by omega)
      have hv:(x.2.2.2.2 - 2)/2=v:=by omega
      have hs:J0 c x.2.2.2.2=mC c v:=by unfold J0;rw [if_neg (by omega),hv]
      rw [hs] at r2
      have:=q9 (by omega) (by omega)
      rw [hv] at this
      exact this (VS hn.1 r1 r2 (hbt v v0 v1) (by have:=hn.2;omega) (cq hW _)).1
    ·rcases q2 with ⟨p1,p2,p3⟩ | ⟨p1,p2,p3⟩
     ·exact .inr (.inl ⟨p1,by omega⟩)
     ·omega
   ·refine .inr (.inr (.inl ⟨?_,by rw [hX];exact ha⟩))
    rcases q2 with ⟨p1,_⟩ | ⟨p1,_⟩
    ·exact .inl p1
    ·exact .inr ⟨p1,by omega⟩
   ·omega
 by_cases h8:x.1=8
 ·have hp:=h.pc h8
  rw [Nh hm h8]
  rcases C4 hm h8 hx hp with ⟨q1,_⟩ | ⟨q1,q2,q3⟩
  ·exact .inl ⟨by omega,by omega⟩
  ·rcases ha with ha | ⟨ha,_⟩ | ⟨hb,ha⟩ | ⟨_,ha,hb⟩
   ·exact absurd h8 ha.2
   ·omega
   ·rcases q3 with ⟨p1,p2,p3,p4,p5⟩ | ⟨p1,⟨p2,p3⟩ | ⟨p2,p3,p4⟩⟩ | ⟨p1,p2,p3⟩
    ·omega
    ·have:=h.ey h8 p1
     rw [← p2] at this
     omega
    ·rw [p3]
     exact .inr (.inr (.inl ⟨.inr ⟨q1,by omega⟩,by rw [q2];exact ha⟩))
    ·omega
   ·rcases q3 with ⟨p1,p2,p3,p4,p5⟩ | ⟨p1,_⟩ | ⟨p1,p2,p3⟩
    ·omega
    ·omega
    ·rw [p2]
     exact .inr (.inr (.inr ⟨q1,p3,hb⟩))
 ·exact .inl (un h6 h7 h8)
theorem V3 (hm:cZ c t m w x=true) (hx:Fwk c.1 w x) (h:Fj c m x) (h':(a8 c t m w x d).2.1.1=7∨(a8 c t m w x d).2.1.1=8):Qs c m (a8 c t m w x d).1:=by
 obtain ⟨a,b,_,e,_⟩:=fb hm
 have hmc:=aQ a
 by_cases h6:x.1=6
 ·rw [Ka hm h6]
  exact .low (.inr (.inl rfl))
 by_cases h7:x.1=7
 ·obtain ⟨k0,k1,k2⟩:=h.lk h7
  obtain ⟨q1,q2⟩:=BY (m:=m) (by omega) ⟨k0,k1⟩
  rw [ME hm h7,q1]
  exact .refl
 by_cases h8:x.1=8
 ·rw [Nh hm h8]
  unfold bO
  rw [lA (hx.2.2.2.1 h8).1]
  dsimp only
  split <;> exact Ub a
 ·have:=un (c:=c) (t:=t) (m:=m) (w:=w) (x:=x) (d:=d) h6 h7 h8
  omega
end
end Go.Ab
set_option linter.unusedVariables false
namespace Go.Ab
theorem VF {c:CF} {t:Tyt} {m:List Int} {w:Int} {x:WB} {d:Int} (hm:Wm m) (hf:Wf x.2.2.1) (hx:Fwk c.1 w x) (he:epB (ai m 2)+1<281474976710656):Ew c m (a8 c t m w x d).1 w:=by
 have ca:x.2.2.1.1<5→Ew c m (da c m x.2.2.1).1 w:=fun h5 => .same (uO agA hf h5)
 refine eV (P:=fun r=>Ew c m r.1 w) (fun _ => .same rfl) ?_ ?_ ?_ ?_ ?_ ?_ ?_ ?_ ?_ ?_ ?_ ?_ ?_ ?_ ?_
 all_goals intro hw e
 ·have h5:=hx.1 (by omega)
  dsimp only [DL]
  repeat' split
  all_goals exact ca h5
 ·exact .same (m':=aJ m 1 _) (aH _ (show (1:Int)≠2 by decide))
 ·have h5:=hx.1 (by omega)
  dsimp only [lS]
  repeat' split
  all_goals exact ca h5
 ·exact .same (m':=aJ m 1 _) (aH _ (show (1:Int)≠2 by decide))
 ·obtain ⟨a,b,_,g,_⟩:=fb hw
  dsimp only [mK]
  rw [hx.2.1 e,GA a b g.1 g.2.1]
  exact .same rfl
 ·exact .same (m':=aJ m 1 _) (aH _ (show (1:Int)≠2 by decide))
 ·dsimp only [bK]
  repeat' split
  all_goals exact .same rfl
 ·obtain ⟨a,b,_,g,_⟩:=fb hw
  obtain ⟨f1,f2,f3,f4⟩:=hx.2.2.2.1 e
  have:=V8 a b hm hf f1
  rw [f3] at this
  dsimp only [bO]
  rw [lA f1]
  split
  all_goals exact this
 ·dsimp only [De]
  repeat' split
  all_goals exact .same rfl
 ·dsimp only [mu]
  split
  ·exact .same rfl
  ·exact .same (m':=aJ m 0 _) (aH _ (show (0:Int)≠2 by decide))
 ·have h5:=hx.1 (by omega)
  dsimp only [mD]
  repeat' split
  all_goals exact ca h5
 ·have h5:=hx.1 (by omega)
  dsimp only [mr]
  repeat' split
  all_goals exact ca h5
 ·dsimp only [CB]
  split
  all_goals exact .same rfl
 ·obtain ⟨a,b,_,g,_⟩:=fb hw
  obtain ⟨f1,f2,f3,f4⟩:=hx.2.2.2.2 e
  have:=LY (me:=w) a b hm hf f1 he
  dsimp only [mN]
  rw [lz f1]
  split
  all_goals exact this
 ·dsimp only [mw]
  split
  ·exact .same rfl
  ·exact .same (m':=aJ m 0 _) (aH _ (show (0:Int)≠2 by decide))
def N0 (x:SB):Prop:=x.1=3∨(x.1=4∧x.2.2.2.1≠2)∨(x.1=2∧3≤x.2.2.2.1)
def Fq (x:SB):Prop:=x.1=2→x.2.2.1=3∧x.2.2.2.2.2.2.2.2=0
theorem acd {c:CF} {m:List Int} {f:FR} (h:f.1=3):b9 (oP c m f).2=false∧3≤(oP c m f).2.2.1∨b9 (oP c m f).2=true∧(oP c m f).2.2.2.2.2.2.2≠2∨(oP c m f).1=m∧(f.2.1<3∨(oP c m f).2=f):=by
 unfold oP
 split
 ·exact .inr (.inr ⟨rfl,.inr rfl⟩)
 rename_i hg
 have hg':nf c m f 3=true:=by simpa using hg
 unfold nf at hg'
 simp only [Bool.and_eq_true,decide_eq_true_eq] at hg'
 split
 ·exact .inr (.inr ⟨rfl,.inl (by omega)⟩)
 split
 ·repeat' split
  all_goals exact .inr (.inr ⟨rfl,.inl (by omega)⟩)
 split
 ·dsimp only
  unfold nG
  split
  ·refine .inl ⟨?_,?_⟩
   ·show b9 (f.1,3,f.2.2)=false
    unfold b9
    simp [hg'.2.1]
   ·show (3:Int)≤3
    decide
  ·exact .inr (.inr ⟨rfl,.inl (by omega)⟩)
 split
 ·refine .inl ⟨?_,?_⟩
  ·show b9 (f.1,4,f.2.2)=false
   unfold b9
   simp [hg'.2.1]
  ·show (3:Int)≤4
   decide
 ·refine .inr (.inl ⟨rfl,?_⟩)
  show (1:Int)≠2
  decide
section
variable {c:CF} {t:Tyt} {m:List Int} {i:Int} {x:SB}
theorem ac3 (hx:Fq x):Fq (ia c t m i x).2.1:=by
 unfold ia
 dsimp only
 split
 ·exact hx
 split
 ·split
  ·exact fun h=>absurd h (show ¬ (0:Int)=2 by decide)
  ·exact fun h=>absurd h (show ¬ (1:Int)=2 by decide)
 split
 ·exact fun _=>⟨rfl,rfl⟩
 split
 ·rename_i e
  have h3:=(hx e).1
  have hc:dH c m x.2.2=oP c m x.2.2:=by
   unfold dH oU
   rw [if_pos (.inl h3),if_pos h3]
  rw [hc]
  split
  ·rename_i ho
   refine fun _=>⟨?_,?_⟩
   ·show (oP c m x.2.2).2.1=3
    rw [LD]
    exact h3
   ·unfold b9 at ho
    simpa using ho
  ·split
   ·exact fun h=>absurd h (show ¬ (5:Int)=2 by decide)
   ·exact fun h=>absurd h (show ¬ (3:Int)=2 by decide)
 split
 ·split
  ·exact fun h=>absurd h (show ¬ (0:Int)=2 by decide)
  ·exact fun h=>absurd h (show ¬ (4:Int)=2 by decide)
 split
 ·split
  ·exact fun h=>absurd h (show ¬ (0:Int)=2 by decide)
  ·exact fun h=>absurd h (show ¬ (4:Int)=2 by decide)
 ·exact fun h=>absurd h (show ¬ (0:Int)=2 by decide)
theorem ZJ (hm:Wm m) (hf:Wf x.2.2) (hx:Fsb c.1 x) (hq:Fq x) (he:epB (ai m 2)+1<281474976710656):Ew c m (ia c t m i x).1 (-1):=by
 unfold ia
 dsimp only
 split
 ·exact .same rfl
 rename_i hw
 have hw:nY c t m x=true:=by simpa using hw
 obtain ⟨a1,a2,_⟩:=nE hw
 split
 ·split
  all_goals exact .same rfl
 split
 ·exact .same (m':=aJ m 0 _) (aH _ (show (0:Int)≠2 by decide))
 split
 ·rename_i e
  have h3:=(hq e).1
  have hc:dH c m x.2.2=oP c m x.2.2:=by
   unfold dH oU
   rw [if_pos (.inl h3),if_pos h3]
  have h2:Ew c m (oP c m x.2.2).1 (-1) := .same (FQ agA hf)
  rw [hc]
  repeat' split
  all_goals exact h2
 split
 ·split
  all_goals exact .same rfl
 split
 ·rename_i e
  obtain ⟨f1,f2,f3,f4⟩:=hx.2 e
  have:=LY (me := -1) a1 a2 hm hf f1 he
  have hcb:dH c m x.2.2=dc c m x.2.2:=by rw [BJ (by omega),lz f1]
  rw [hcb]
  split
  all_goals exact this
 ·exact .same (m':=aJ m 0 _) (aH _ (show (0:Int)≠2 by decide))
theorem Xa (hm:Wm m) (hf:Wf x.2.2) (hl:SX c.1 m) (hx:Fsb c.1 x) (hq:Fq x) (he:epB (ai m 2)+1<281474976710656) :
  N0 (ia c t m i x).2.1∨Qs c m (ia c t m i x).1∧(N0 x→ai m 1≠0∨∃ b,0≤b∧b<c.1∧gB (ai (ia c t m i x).1 2) b=false∧epB (ai (ia c t m i x).1 2)=epB (ai m 2)+1):=by
 unfold ia
 dsimp only
 split
 ·rename_i hw
  by_cases hwit:N0 x
  ·exact .inl hwit
  ·exact .inr ⟨.refl,fun h=>absurd h hwit⟩
 rename_i hw
 have hw:nY c t m x=true:=by simpa using hw
 obtain ⟨a1,a2,_,b0,b6,_⟩:=nE hw
 have hmc:=aQ a1
 have hs:=ii a1
 split
 ·rename_i e
  refine .inr ⟨?_,fun h => ?_⟩
  ·split <;> exact .refl
  ·unfold N0 at h
   omega
 split
 ·rename_i e
  refine .inr ⟨.low (.inl rfl),fun h => ?_⟩
  unfold N0 at h
  omega
 split
 ·rename_i e
  have h3:=(hq e).1
  have hc:dH c m x.2.2=oP c m x.2.2:=by
   unfold dH oU
   rw [if_pos (.inl h3),if_pos h3]
  rw [hc]
  rcases acd (c:=c) (m:=m) h3 with ⟨g1,g2⟩ | ⟨g1,g2⟩ | g1
  ·rw [if_pos g1]
   exact .inl (.inr (.inr ⟨rfl,g2⟩))
  ·rw [if_neg (by rw [g1];decide),if_neg g2]
   exact .inl (.inl rfl)
  ·obtain ⟨g1,g3⟩:=g1
   by_cases hp:3≤x.2.2.2.1
   ·have g4:(oP c m x.2.2).2=x.2.2:=g3.resolve_left (by omega)
    have ho:b9 x.2.2=false:=by
     unfold b9
     simp [(hq e).2]
    rw [g4,if_pos ho]
    exact .inl (.inr (.inr ⟨rfl,hp⟩))
   ·refine .inr ⟨?_,fun h => ?_⟩
    ·rw [g1]
     repeat' split
     all_goals exact .refl
    ·unfold N0 at h
     omega
 split
 ·rename_i e
  split
  ·rename_i h1
   exact .inr ⟨.refl,fun _ => .inl h1⟩
  ·exact .inl (.inr (.inl ⟨rfl,by show (0:Int)≠2;decide⟩))
 split
 ·rename_i e
  obtain ⟨f1,f2,f3,f4⟩:=hx.2 e
  have hcb:dH c m x.2.2=dc c m x.2.2:=by rw [BJ (by omega),lz f1]
  rw [hcb]
  have hX:=hf.2.1
  have hnq:=VK (c:=c) (m:=m) (f:=x.2.2) a1
  rcases (show x.2.2.2.1=0∨x.2.2.2.1=1∨x.2.2.2.1=2 by omega) with hp | hp | hp
  ·have hn:dc c m x.2.2=(m,x.2.2.1,1,x.2.2.2.2.1,x.2.2.2.2.2.1,ai m 2,x.2.2.2.2.2.2.2):=by
    unfold dc nm
    rw [a1,decide_eq_true a2,decide_eq_true (.inl f1),decide_eq_true ⟨f3,by omega,by omega⟩,if_neg (by decide),if_pos hp]
   have ho:b9 (dc c m x.2.2).2=false:=by
    rw [hn]
    unfold b9
    simp [f3]
   rw [if_neg (by rw [ho];decide)]
   exact .inl (.inr (.inl ⟨rfl,by rw [hn];show (1:Int)≠2;decide⟩))
  ·by_cases hcas:ai m 2=x.2.2.2.2.2.2.1
   ·have hn:(dc c m x.2.2).1=aJ m 2 (mA x.2.2.2.2.2.2.1):=by
     unfold dc nm
     rw [a1,decide_eq_true a2,decide_eq_true (.inl f1),decide_eq_true ⟨f3,by omega,by omega⟩,if_neg (by decide),if_neg (by omega),if_pos hp,if_pos hcas,if_pos f1]
    have h2:ai (dc c m x.2.2).1 2=mA x.2.2.2.2.2.2.1:=by
     rw [hn]
     exact fM _ (by decide) (by omega)
    have hep:epB (mA x.2.2.2.2.2.2.1)=epB (ai m 2)+1:=by
     rw [hcas] at he ⊢
     exact Ng he hX.1
    have hmk:=ue hX.1
    have key:∃ b:Int,0≤b∧b<c.1∧gB (mA x.2.2.2.2.2.2.1) b=false:=by
     rcases lh hmk.1 hmk.2 with ⟨g1,_⟩ | ⟨a,b,g1,g2,g3⟩
     ·refine ⟨0,by decide,by omega,?_⟩
      rw [od hX.1 hX.2 (by decide) (by decide),HR hX.1 g1 (by decide) (by decide)]
      rfl
     ·have hb:gB (mkB x.2.2.2.2.2.2.1) (wP (mkB x.2.2.2.2.2.2.1))=true:=MI (by omega)
      rw [g2,m6 hX.1 (by omega) (by omega)] at hb
      have hbn:(b:Int)<c.1:=by
       by_cases hh:(b:Int)<c.1
       ·exact hh
       ·have:=hl b (by omega) (by omega)
        rw [hcas,hb] at this
        cases this
      refine ⟨b,by omega,hbn,?_⟩
      rw [od hX.1 hX.2 (by omega) (by omega),g2,decide_eq_false (by simp),Bool.and_false]
    obtain ⟨b,k0,k1,k2⟩:=key
    refine .inr ⟨by split <;> exact hnq,fun _ => .inr ⟨b,k0,k1,?_,?_⟩⟩
    ·split <;> (dsimp only;rw [h2];exact k2)
    ·split <;> (dsimp only;rw [h2];exact hep)
   ·have hn:dc c m x.2.2=(m,x.2.2.1,0,x.2.2.2.2):=by
     unfold dc nm
     rw [a1,decide_eq_true a2,decide_eq_true (.inl f1),decide_eq_true ⟨f3,by omega,by omega⟩,if_neg (by decide),if_neg (by omega),if_pos hp,if_neg hcas]
    have ho:b9 (dc c m x.2.2).2=false:=by
     rw [hn]
     unfold b9
     simp [f3]
    rw [if_neg (by rw [ho];decide)]
    exact .inl (.inr (.inl ⟨rfl,by rw [hn];show (0:Int)≠2;decide⟩))
  ·refine .inr ⟨by split <;> exact hnq,fun h => ?_⟩
   unfold N0 at h
   omega
 ·refine .inr ⟨.low (.inl rfl),fun h => ?_⟩
  unfold N0 at h
  omega
end
end Go.Ab
set_option linter.unusedVariables false
set_option linter.unusedSimpArgs false
namespace Go.Ab
def Wby (l:List Int):Prop:=∀ x ∈ l,0≤x∧x≤255
section
variable {k:Nat} (hk:10000≤k) {b:List Int} (hb:Wby b) (hl:b.length≤2000)
include hk hb hl
end
section
variable {k:Nat} (hk:100≤k) {w s:Nat} (hw:w≤20) (hs:s≤20) (d:Int)
include hk hw hs
end
def GG (c:CF) (m:List Int):Nat→List WB→Bool
 | _,[]=>true
 | i,x::l=>XR x&&decide (ai m (bR c i)=0)&&GG c m (i+1) l
def YM (p:PB):Bool:=gh p && !(p.2.2.2.2.any fun x => !decide (x.1=0))&&GG p.1 p.2.2.1 0 p.2.2.2.1
theorem XI (x:SB):fQ x=some (!decide (x.1=0)):=by
 unfold fQ
 rw [Cz]
theorem Xy (k:Nat) (hk:100≤k) {S:List SB} (hS:S.length≤20):aR k S=some (S.any fun x => !decide (x.1=0)):=by
 unfold aR bc
 have h:az (k+8) S (k+8+8) 0=some (GW (fun x => !decide (x.1=0)) S 0):=by
  refine IW (F:=fun n i=>az (k+8) S n i) (l:=S) _ ?_ ?_ _ (by omega)
  ·intro n
   simp only [az,uA,cond_false]
  ·intro n i x hi hx
   simp only [az,ltN hi,cond_true,ga hx,ae,Prod.eta,XI]
   rw [gg (by omega)]
 rw [h,ae,pn]
section
variable {k:Nat} (hk:9223372036854779000≤k) {p:PB} (ht:Wt p.2.1) (hw:∀ x ∈ p.2.2.2.1,x.2.1.length≤9000) (hs:∀ x ∈ p.2.2.2.2,x.2.1.length≤1000)
include hk ht hw hs
theorem Pd:fY k p=some (YM p):=by
 unfold fY YM
 rw [Hs hk ht hw hs,ae]
 cases hm:gh p with
 | false=>rfl
 | true=>
  obtain ⟨h1,h2,h3,h4,h5⟩:=ml hm
  have hc:=aQ h1
  rw [Bool.not_true,cond_false,Xy _ (by omega) (by omega),ae]
  cases p.2.2.2.2.any fun x => !decide (x.1=0) with
  | true=>rfl
  | false=>
   rw [cond_false,Bool.not_false,Bool.and_true,Bool.true_and]
   have key:∀ (r:List WB) (q n:Nat),p.2.2.2.1.drop q=r→q≤p.2.2.2.1.length→r.length<n→cE k p n (q:Int)=some (GG p.1 p.2.2.1 q r):=by
    intro r
    induction r with
    | nil=>
     intro q n hr hq hn
     obtain ⟨n,rfl⟩:=gE hn
     have:=dy hr
     rw [cE,ltF (by omega),cond_false,GG]
    | cons v r ih=>
     intro q n hr hq hn
     obtain ⟨n,rfl⟩:=gE hn
     obtain ⟨g0,g1,g2,_,g4⟩:=cH hr
     have hlay:eR p.1 (q:Int)=some (bR p.1 (q:Int)):=HI p.1 _
     rw [cE,ltN g0,cond_true,ga g1,ae]
     simp only [Prod.eta,ID,ae,hlay,dl]
     rw [GG,gg (by omega),ih (q+1) n g2 (by omega) (by simp only [List.length_cons] at hn;omega),Cz]
     cases XR v with
     | false=>rfl
     | true=>
      by_cases h:ai p.2.2.1 (bR p.1 q)=0
      ·rw [decide_eq_true h];rfl
      ·rw [decide_eq_false h];rfl
   have:=key p.2.2.2.1 0 (k+35) rfl (Nat.zero_le _) (by omega)
   exact this
end
end Go.Ab
set_option linter.unusedVariables false
namespace Go.Ab
structure Jn (N:Nat) (p:PB):Prop where
 ep:epB (ai p.2.2.1 2)≤N
 h4:ai p.2.2.1 4≤N
 tp:∀ v,0≤v→v<p.1.1→ai p.2.2.1 (mC p.1 v)≤N
 fj:∀ (i:Nat) x,p.2.2.2.1[i]? = some x→Fj p.1 p.2.2.1 x
 fq:∀ x ∈ p.2.2.2.2,Fq x
 j:∀ j,NE p.1 p.2.2.1 j→(∃ s ∈ p.2.2.2.2,N0 s)∨∃ (i:Nat) (x:WB),p.2.2.2.1[i]? = some x∧Act p.2.2.1 i x j
theorem Jn.up {N M:Nat} {p:PB} (h:Jn N p) (hM:N≤M):Jn M p:=⟨by have:=h.ep;omega,by have:=h.h4;omega,fun v a b=>by have:=h.tp v a b;omega,h.fj,h.fq,h.j⟩
theorem Pb {m m':List Int} {j:Int} {N:Nat} (hm:Wm m) (h:ai m' j=ai m j∨ai m' j=iM (ai m j) 1) (hN:ai m j≤N) (hb:N≤900000):ai m j≤ai m' j∧ai m' j≤(N+1:Nat):=by
 have:=cq hm j
 rcases h with h | h
 ·omega
 ·unfold iM at h
  omega
theorem MY {c:CF} {m m':List Int} (h4:ai m 4≤ai m' 4) (ht:∀ v,0≤v→v<c.1→ai m (mC c v)≤ai m' (mC c v)):∀ k,0≤k→k<2+2*c.1→ai m (J0 c k)≤ai m' (J0 c k):=by
 intro k k0 k1
 unfold J0
 split
 ·exact h4
 ·by_cases h:0≤(k - 2)/2
  ·exact ht _ h (by omega)
  ·have e:mC c ((k - 2)/2) = -1:=by
    unfold mC onW
    rw [if_neg (fun g=>h g.2.1)]
   rw [e]
   exact Int.le_refl _
theorem T6 {n N:Nat} {p:PB} {k:PK} (hg:Good n p) (hm:gh p=true) (hk:rr k p.1.1 p.2.2.2.2.length=true) (hs:Sgn p) (hn:Skn p) (h:Jn N p) (hN:N≤900000):Jn (N+1) (f6 p k).1:=by
 obtain ⟨m1,m2,m3,m4,m5⟩:=ml hm
 have hmc:=aQ m1
 have hep:epB (ai p.2.2.1 2)+1<281474976710656:=by have:=h.ep;omega
 refine lP (P:=fun r=>Jn (N+1) r.1) (h.up (Nat.le_succ N)) (fun x hx hk0 => ?_) (fun x hx hms => ?_) ?_
 ·have hkk:((k.2.1.toNat:Nat):Int)=k.2.1:=by
   unfold rr at hk
   rw [decide_eq_true_eq] at hk
   omega
  have hxm:=List.mem_of_getElem? hx
  have hF:=hs.w _ x hx
  rw [hkk] at hF
  have hfj:=h.fj _ x hx
  have hmw:=m4 _ x hx
  rw [hkk] at hmw
  have hwf:=(hg.w x hxm).f
  have e1:=VF (t:=p.2.1) (d:=k.2.2) hg.m hwf hF hep
  have q4:=Pb hg.m (KF (t:=p.2.1) (w:=k.2.1) (d:=k.2.2) (ahX (c:=p.1)) hwf) h.h4 hN
  have qt:=fun v v0 v1=>Pb hg.m (KF (t:=p.2.1) (w:=k.2.1) (d:=k.2.2) (aiF (v:=v) m1 v0 v1) hwf) (h.tp v v0 v1) hN
  have hle:epB (ai p.2.2.1 2)≤epB (ai (a8 p.1 p.2.1 p.2.2.1 k.2.1 x k.2.2).1 2):=by rcases e1.ep with e | e <;> omega
  have f1:=Uu (t:=p.2.1) (d:=k.2.2) hmw hg.m hF hfj hle
  have a1:=fun j=>PN (t:=p.2.1) (d:=k.2.2) (j:=j) hmw hg.m hF hfj (by have:=h.h4;omega) (fun v a b=>by have:=h.tp v a b;omega)
  have g1:=V3 (t:=p.2.1) (d:=k.2.2) hmw hF hfj
  generalize a8 p.1 p.2.1 p.2.2.1 k.2.1 x k.2.2=r at e1 q4 qt hle f1 a1 g1
  obtain ⟨m',y,ev⟩:=r
  dsimp only at e1 q4 qt hle f1 a1 g1
  have hi:k.2.1.toNat<p.2.2.2.1.length:=(List.getElem?_eq_some_iff.1 hx).1
  have hy:(p.2.2.2.1.set k.2.1.toNat y)[k.2.1.toNat]? = some y:=List.getElem?_set_self hi
  refine ⟨?_,q4.2,fun v v0 v1=>(qt v v0 v1).2,fun i z hz => ?_,h.fq,fun j hj => ?_⟩
  ·show epB (ai m' 2)≤(N+1:Nat)
   have:=h.ep
   rcases e1.ep with e | e <;> omega
  ·dsimp only at hz ⊢
   rw [List.getElem?_set] at hz
   split at hz
   ·rename_i e
    cases hz
    exact f1
   ·exact (h.fj i z hz).mono hle (MY q4.1 fun v v0 v1=>(qt v v0 v1).1)
  ·dsimp only at hj ⊢
   by_cases h78:y.1=7∨y.1=8
   ·have hj':=(g1 h78).ne hj
    rcases h.j j hj' with hh | ⟨i,z,hz,ha⟩
    ·exact .inl hh
    ·refine .inr ?_
     by_cases e:k.2.1.toNat=i
     ·subst e
      rw [hx] at hz
      cases hz
      rw [hkk] at ha
      have:=a1 j ha hj'
      refine ⟨_,y,hy,?_⟩
      rw [hkk]
      exact this
     ·have hil:=(List.getElem?_eq_some_iff.1 hz).1
      refine ⟨i,z,by rw [List.getElem?_set_ne e];exact hz,ha.mono hle (e1.bit i (by omega) (by omega) (by omega))⟩
   ·exact .inr ⟨_,y,hy,.inl ⟨fun e=>h78 (.inl e),fun e=>h78 (.inr e)⟩⟩
 ·have hxm:=List.mem_of_getElem? hx
  have hF:=hs.s x hxm
  have hq:=h.fq x hxm
  have hwf:=(hg.s x hxm).f
  have e1:=ZJ (t:=p.2.1) (i:=k.2.1) hg.m hwf hF hq hep
  have q4:=Pb hg.m (SL (t:=p.2.1) (i:=k.2.1) (ahX (c:=p.1)) hwf) h.h4 hN
  have qt:=fun v v0 v1=>Pb hg.m (SL (t:=p.2.1) (i:=k.2.1) (aiF (v:=v) m1 v0 v1) hwf) (h.tp v v0 v1) hN
  have w1:=Xa (t:=p.2.1) (i:=k.2.1) hg.m hwf hs.low hF hq hep
  have f1:=ac3 (c:=p.1) (t:=p.2.1) (m:=p.2.2.1) (i:=k.2.1) hq
  generalize ia p.1 p.2.1 p.2.2.1 k.2.1 x=r at e1 q4 qt w1 f1
  obtain ⟨m',y,ev⟩:=r
  dsimp only at e1 q4 qt w1 f1
  have hle:epB (ai p.2.2.1 2)≤epB (ai m' 2):=by rcases e1.ep with e | e <;> omega
  have mo:∀ (i:Nat) (z:WB) j,p.2.2.2.1[i]? = some z→Act p.2.2.1 i z j→Act m' i z j:=fun i z j hz ha=>ha.mono hle (e1.bit i (by omega) (by have:=(List.getElem?_eq_some_iff.1 hz).1;omega) (by omega))
  refine ⟨?_,q4.2,fun v v0 v1=>(qt v v0 v1).2,fun i z hz=>(h.fj i z hz).mono hle (MY q4.1 fun v v0 v1=>(qt v v0 v1).1),fun z hz => ?_,fun j hj => ?_⟩
  ·show epB (ai m' 2)≤(N+1:Nat)
   have:=h.ep
   rcases e1.ep with e | e <;> omega
  ·rcases wy hz with hz | rfl
   ·exact h.fq z hz
   ·exact f1
  ·dsimp only at hj ⊢
   rcases w1 with w1 | ⟨w1,w2⟩
   ·exact .inl ⟨y,gQ hx,w1⟩
   ·have hj':=w1.ne hj
    rcases h.j j hj' with ⟨s,hs1,hs2⟩ | ⟨i,z,hz,ha⟩
    ·rcases Mx (y:=y) hx hs1 with hs1 | rfl
     ·exact .inl ⟨s,hs1,hs2⟩
     ·refine .inr ?_
      rcases w2 hs2 with hne | ⟨b,b0,b1,hb,hb2⟩
      ·have hpos:0<skN p.2.2.2.1:=by
        unfold Skn at hn
        omega
       obtain ⟨z,hz,hz2⟩:=List.countP_pos_iff.1 hpos
       obtain ⟨i,hi⟩:=List.mem_iff_getElem?.1 hz
       unfold ej at hz2
       rw [decide_eq_true_eq] at hz2
       exact ⟨i,z,hi,.inl ⟨by omega,by omega⟩⟩
      ·have hbl:b.toNat<p.2.2.2.1.length:=by omega
       have hz:=List.getElem?_eq_getElem hbl
       have hfj:=h.fj _ _ hz
       generalize p.2.2.2.1[b.toNat]=z at hz hfj
       refine ⟨b.toNat,z,hz,?_⟩
       rw [show ((b.toNat:Nat):Int)=b by omega]
       by_cases z7:z.1=7
       ·exact .inr (.inr (.inl ⟨.inl z7,by have:=hfj.ep (.inr (.inl z7));omega⟩))
       ·by_cases z8:z.1=8
        ·by_cases z2:z.2.2.1.2.1≤2
         ·exact .inr (.inr (.inl ⟨.inr ⟨z8,z2⟩,by have:=hfj.ep (.inr (.inr ⟨z8,z2⟩));omega⟩))
         ·exact .inr (.inr (.inr ⟨z8,by omega,hb⟩))
        ·exact .inl ⟨z7,z8⟩
    ·exact .inr ⟨i,z,hz,mo i z j hz ha⟩
 ·have s2:ai (aJ p.2.2.1 3 1) 2=ai p.2.2.1 2:=aH _ (by decide)
  have sq:Qs p.1 p.2.2.1 (aJ p.2.2.1 3 1) := .low (.inr (.inr (.inr rfl)))
  refine ⟨?_,?_,fun v v0 v1 => ?_,fun i z hz=>(h.fj i z hz).mono (by dsimp only;rw [s2];exact Int.le_refl _) (MY (by dsimp only;rw [sq.h4];exact Int.le_refl _) fun v v0 v1=>by dsimp only;rw [sq.top v v0 v1];exact Int.le_refl _),h.fq,fun j hj => ?_⟩
  ·show epB (ai (aJ p.2.2.1 3 1) 2)≤(N+1:Nat)
   rw [s2]
   have:=h.ep
   omega
  ·show ai (aJ p.2.2.1 3 1) 4≤(N+1:Nat)
   rw [sq.h4]
   have:=h.h4
   omega
  ·show ai (aJ p.2.2.1 3 1) (mC p.1 v)≤(N+1:Nat)
   rw [sq.top v v0 v1]
   have:=h.tp v v0 v1
   omega
  ·rcases h.j j (sq.ne hj) with hh | ⟨i,z,hz,ha⟩
   ·exact .inl hh
   ·exact .inr ⟨i,z,hz,ha.mono (by rw [s2];exact Int.le_refl _) (by rw [s2];exact id)⟩
structure Aw (n:Nat) (p:PB):Prop where
 g:Good n p
 m:gh p=true
 s:Sgn p
 k:Skn p
 j:Jn n p
theorem Aw.step {n:Nat} {p:PB} (h:Aw n p) (hn:n≤9000) (v:PK):Aw (n+1) (mh p [v]).1:=by
 have hg:=Bh (l:=[v]) h.g h.m
 have hm:=Xz (l:=[v]) h.m
 rw [mh] at hg hm ⊢
 split at hg
 ·rename_i hk
  rw [if_pos hk] at hm ⊢
  exact ⟨hg,hm,OL h.g h.m hk h.s,Oh h.g h.m h.k,T6 h.g h.m hk h.s h.k h.j (by omega)⟩
 ·rename_i hk
  rw [if_neg hk] at hm ⊢
  exact ⟨hg,hm,h.s,h.k,h.j.up (Nat.le_succ n)⟩
theorem Aw.run:∀ {l:List PK} {n:Nat} {p:PB},Aw n p→n+l.length≤9000→Aw (n+l.length) (mh p l).1
 | [],n,p,h,_=>h
 | v::l,n,p,h,hn=>by
  rw [List.length_cons] at hn
  have:=(h.step (by omega) v).run (l:=l) (by omega)
  have e:mh p (v::l)=((mh (mh p [v]).1 l).1,(mh p [v]).2++(mh (mh p [v]).1 l).2):=Ce (l:=[v]) (j:=l)
  rw [e,List.length_cons,show n+(l.length+1)=n+1+l.length by omega]
  exact this
theorem acp {c:CF} {t:Tyt} {roots:List (List Int)} (ht:FwT t) (hr:∀ l ∈ roots,l.length≤60) (hc:eu c=true) (ht2:rG t=true) (hR:roots.length≤3) (hr2:∀ l ∈ roots,∀ y ∈ l,0≤y∧y<(t.length:Int)):Aw 0 (CN c t roots):=by
 refine ⟨QK ht hr,Vl hc ht2 hR hr2,J2.1,J2.2,?_⟩
 have z:∀ i,ai (CN c t roots).2.2.1 i=0:=fun i=>r9 _ _
 refine ⟨by rw [z];decide,by rw [z];decide,fun v _ _=>by rw [z];decide,fun i x hx => ?_,fun x hx => ?_,fun j hj => ?_⟩
 ·have hx':(kf c.1.toNat)[i]? = some x:=hx
  unfold kf at hx'
  rw [List.getElem?_map,Option.map_eq_some_iff] at hx'
  obtain ⟨q,_,rfl⟩:=hx'
  exact .free (show (0:Int)≠6 by decide) (show (0:Int)≠7 by decide) (show (0:Int)≠8 by decide)
 ·have hx':x ∈ i9 roots:=hx
  unfold i9 at hx'
  obtain ⟨l,_,rfl⟩:=List.mem_map.1 hx'
  exact fun e=>absurd e (show ¬ (0:Int)=2 by decide)
 ·exfalso
  have f0:¬ 0<mI 0 0:=by decide
  rcases hj with ⟨_,hj⟩ | ⟨v,_,_,_,hj⟩
  ·unfold neI at hj
   rw [z,z] at hj
   exact f0 hj
  ·unfold neD at hj
   rw [z,z] at hj
   exact f0 hj.1
theorem Gf {n:Nat} {p:PB} (h:Aw n p) (ha:YM p=true):∀ j,¬ NE p.1 p.2.2.1 j:=by
 intro j hj
 unfold YM at ha
 simp only [Bool.and_eq_true,Bool.not_eq_true',List.any_eq_false] at ha
 obtain ⟨⟨_,h1⟩,h2⟩:=ha
 have hid:∀ s ∈ p.2.2.2.2,s.1=0:=fun s hs=>by simpa using h1 s hs
 have key:∀ (l:List WB) (q:Nat),GG p.1 p.2.2.1 q l=true→∀ (i:Nat) x,l[i]? = some x→XR x=true∧ai p.2.2.1 (bR p.1 ((q+i:Nat):Int))=0:=by
  intro l
  induction l with
  | nil=>intro q _ i x hx;cases hx
  | cons y l ih=>
   intro q hq i x hx
   rw [GG,Bool.and_eq_true,Bool.and_eq_true,decide_eq_true_eq] at hq
   cases i with
   | zero=>cases hx;exact hq.1
   | succ i=>
    have:=ih (q+1) hq.2 i x hx
    rw [show q+(i+1)=q+1+i by omega]
    exact this
 have hpk:∀ x,XR x=true→x.1=8∧x.2.2.1.2.1=3:=fun x hx=>by
  unfold XR Cw at hx
  rw [Bool.and_eq_true,decide_eq_true_eq,decide_eq_true_eq] at hx
  exact ⟨hx.1,hx.2.2.2⟩
 rcases h.j.j j hj with ⟨s,hs,hw⟩ | ⟨i,x,hx,hact⟩
 ·have:=hid s hs
  unfold N0 at hw
  omega
 ·obtain ⟨p1,p2⟩:=key _ 0 h2 i x hx
  rw [Nat.zero_add] at p2
  obtain ⟨p3,p4⟩:=hpk x p1
  rcases hact with ha | ha | ha | ⟨_,_,hb⟩
  ·omega
  ·omega
  ·omega
  ·rcases h.s.sg i x hx ⟨p3,by omega⟩ with hh | hh | ⟨y,hy,hh⟩ | ⟨y,hy,hh⟩
   ·rw [hb] at hh
    cases hh
   ·exact hh p2
   ·obtain ⟨i',hi'⟩:=List.mem_iff_getElem?.1 hy
    have:=(hpk y (key _ 0 h2 i' y hi').1).1
    have:=hh.1
    omega
   ·have:=hid y hy
    have:=hh.1
    omega
theorem BH {n k:Nat} (hk:9223372036854779000≤k) {p:PB} (h:Aw n p) (hn:n≤9000) (ha:YM p=true):∃ z,eQ k p=some z∧z≤0:=by
 obtain ⟨z,h1,h2⟩:=RN hk h.g.t.wt (fun x hx=>by have:=(h.g.w x hx).s;omega) (fun x hx=>(h.g.s x hx).s) h.m
 have hne:=Gf h ha
 refine ⟨z,h1,?_⟩
 rw [h2 fun v v0 v1 hv=>hne (2*v+3) (.inr ⟨v,v0,v1,rfl,hv⟩)]
 have:¬ neI p.2.2.1:=fun hh=>hne 1 (.inl ⟨rfl,hh⟩)
 unfold neI at this
 omega
end Go.Ab
namespace Go.Ab
open Go.WideShapes
structure Ll (l:List (List Int)):Prop where
 len:l.length≤9223372036854775807
 each:∀ x ∈ l,x.length≤9223372036854775807
theorem afV {l:List (List Int)} (hm:l.length≤maxLen) (h:∀ x ∈ l,(∀ n ∈ x,i64 n)∧x.length≤maxLen):Ll l:=⟨abO hm,fun x hx=>abO (h x hx).2⟩
end Go.Ab
namespace Go.Ab
open Go.WideShapes
end Go.Ab
namespace Go.Ab
open Go.WideShapes
end Go.Ab
namespace Go.Ab
open Go.WideShapes
def Il (x:Int×Int×Int):Prop:=i64 x.1∧i64 x.2.1∧u64 x.2.2
def Wpk (l:Tye):Prop:=∀ x ∈ l,0≤x.2.2∧x.2.2≤18446744073709551615
theorem afD {l:Tye} (h:∀ x ∈ l,Il x) (hm:l.length≤maxLen):Wpk l:=fun x hx=>aai (h x hx).2.2
theorem JL {P:Program} {t ti tu:TypeId} {f0 f1 f2:Field} {vs:List V} (he:P.underlying t=some (.struct #[f0,f1,f2])) (h0:f0.type=ti) (h1:f1.type=ti) (h2:f2.type=tu)
  (o0:f0.offset=0) (o1:f1.offset=1) (o2:f2.offset=2) (hi:P.underlying ti=some (.int .i64)) (ci:P.cellsOf ti=1) (hu:P.underlying tu=some (.int .u64)) (cu:P.cellsOf tu=1) (ce:P.cellsOf t=3) (h:Shape P t vs) :
  ∃ x:Int×Int×Int,vs=gf x∧Il x:=by
 obtain ⟨a,b⟩:=mt he h
 have s0:=b 0 f0 rfl
 have s1:=b 1 f1 rfl
 have s2:=b 2 f2 rfl
 rw [h0,o0,ci,List.drop_zero] at s0
 rw [h1,o1,ci] at s1
 rw [h2,o2,cu] at s2
 rw [ce] at a
 obtain ⟨n0,e0,w0⟩:=fT hi s0
 obtain ⟨n1,e1,w1⟩:=fT hi s1
 obtain ⟨n2,e2,w2⟩:=fT hu s2
 match vs,a with
 | [x,y,z],_=>
  simp at e0 e1 e2
  subst e0 e1 e2
  exact ⟨(n0,n1,n2),rfl,w0,w1,w2⟩
theorem Fx {P:Program} {t e ti tu:TypeId} {f0 f1 f2:Field} {vs:List V} (ht:P.underlying t=some (.slice e)) (he:P.underlying e=some (.struct #[f0,f1,f2])) (h0:f0.type=ti) (h1:f1.type=ti) (h2:f2.type=tu)
  (o0:f0.offset=0) (o1:f1.offset=1) (o2:f2.offset=2) (hi:P.underlying ti=some (.int .i64)) (ci:P.cellsOf ti=1) (hu:P.underlying tu=some (.int .u64)) (cu:P.cellsOf tu=1) (ce:P.cellsOf e=3) (h:Shape P t vs) :
  ∃ l:Tye,vs=[.ro (l.map gf)]∧(∀ x ∈ l,Il x)∧l.length≤maxLen:=by
 obtain ⟨rows,rfl,hr,hm⟩:=lQ ht h
 obtain ⟨l,rfl,hl⟩:=kP (enc:=gf) (Q:=Il) (rows:=rows) (fun r hx=>JL he h0 h1 h2 o0 o1 o2 hi ci hu cu ce (hr r hx))
 exact ⟨l,rfl,hl,by simpa using hm⟩
end Go.Ab
