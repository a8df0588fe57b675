import Derived.Test.YtblpbpnilkfjhaaGreatAbLibC
import Derived.Test.YtblpbpnilkfjhaaGreatR6GX
import Derived.WideShapes
import Derived.Test.YtblpbpnilkfjhaaGreatR6GY
set_option linter.unusedVariables false
set_option linter.unusedSimpArgs false
set_option linter.unusedVariables false
namespace Go.Ab
def nI (x:Int×List Int):Bool:=decide (x.1<0)||decide (20<x.1)
def mI:Nat→Tyt→List (Int×Int)
 | _,[]=>[]
 | i,x::r=>x.2.map (fun k=>(k,(i:Int)))++mI (i+1) r
def uC (n:Nat) (had:List Bool) (q:Int×Int):Bool:=decide (q.1≤q.2)||decide ((n:Int)≤q.1)||(had[q.1.toNat]?).getD true
abbrev Xc (n:Nat) := { h:List Bool // h.length=n }
def fH (n:Nat) (had:Xc n) (q:Int×Int):Bool×Xc n:=
 if uC n had.1 q then (false,had) else (true,⟨had.1.set q.1.toNat true,by simp [had.2]⟩)
def EC (n:Nat):Xc n:=⟨List.replicate n false,by simp⟩
def wM (t:Tyt):Bool:=decide (t.length≤30) && !(t.any nI)&&(Sb (fH t.length) (mI 0 t) (EC t.length)).1
structure Wt (t:Tyt):Prop where
 len:t.length≤9223372036854775807
 kids:∀ x ∈ t,x.2.length≤9223372036854775807
def YG (t:Tyt):Bool:=(t.take 41).all (fun x=>decide (x.2.length≤40))&&decide (t.length≤40)
theorem Lt {t:Tyt} (h1:wM t=true):t.length≤30:=by
 unfold wM at h1
 simp only [Bool.and_eq_true,decide_eq_true_eq] at h1
 exact h1.1.1
theorem Fx {α:Type} {l:List α} {F:Nat→Int→Option Int} (p:α→Bool)
  (h0:∀ n,F (n+1) (l.length:Int)=some (-1))
  (h1:∀ n (i:Nat) x,i<l.length→l[i]? = some x→F (n+1) (i:Int)=bif p x then some (i:Int) else F n ((i+1:Nat):Int))
  (n:Nat) (hn:l.length<n):F n 0=some (Eo p l 0):=by
 have key:∀ r i n,l.drop i=r→i≤l.length→r.length<n→F n (i:Int)=some (Eo p r i):=by
  intro r
  induction r with
  | nil=>
   intro i n hr hi hn
   obtain ⟨n,rfl⟩:=gu hn
   have:i=l.length:=by have:=dE hr;omega
   subst this
   rw [h0]
   rfl
  | cons x r ih=>
   intro i n hr hi hn
   obtain ⟨n,rfl⟩:=gu hn
   obtain ⟨a,b,c,d,e⟩:=cM hr
   rw [h1 n i x a b]
   simp only [Eo]
   cases p x with
   | true=>rfl
   | false=>exact ih (i+1) n c (by omega) (by simp only [List.length_cons] at hn;omega)
 have:=key l 0 n rfl (Nat.zero_le _) hn
 simpa using this
theorem A5 (x y : Int) : (x != y) = !decide (x = y) := by by_cases h : x = y <;> simp [h]
theorem mg (x y:Int):(x==y)=decide (x=y):=by by_cases h:x=y <;> simp [h]
theorem rF {α:Type} (l:List α):decide ((l.length:Int)<(l.length:Int))=false:=decide_eq_false (by omega)
theorem ltN {i n:Nat} (h:i<n):decide ((i:Int)<(n:Int))=true:=decide_eq_true (by omega)
theorem eD {z:Int} (h : -9223372036854775808≤z∧z≤9223372036854775807):IntKind.i64.wrap z=z:=Rd h.1 h.2
end Go.Ab
set_option linter.unusedVariables false
namespace Go.Ab
open Go
abbrev CF:=Int×Int×Int×Int
abbrev FR:=Int×Int×Int×Int×Int×Int×Int
def gh (c:CF):Bool:=decide (1≤c.1∧c.1≤8∧(c.2.1=1∨c.2.1=2∨c.2.1=4∨c.2.1=8∨c.2.1=16)∧1≤c.2.2.1∧c.2.2.1≤16∧0≤c.2.2.2∧c.2.2.2≤4)
def EK (c:CF) (w:Int):Int:=6+2*c.2.2.1+w*(3+c.2.1)
def dg (c:CF):Int:=if gh c=true then EK c c.1 else 0
def kK (c:CF) (w:Int):Int:=if gh c=true∧0≤w∧w<c.1 then EK c w+2 else -1
def aM (m:List Int) (i:Int):Int:=if 0≤i then (m[i.toNat]?).getD 0 else 0
def bP (m:List Int) (i v:Int):List Int:=if 0≤i then m.set i.toNat v else m
def xj (m:List Int) (i old new:Int):List Int×Bool:=if 0≤i∧i<m.length∧aM m i=old then (bP m i new,true) else (m,false)
def epB (e:Int):Int:=e/65536
def mkB (e:Int):Int:=e%65536
def pr (x w:Int):Bool:=decide (x/2 ^ w.toNat%2=1)
def JB (e w:Int):Int:=if 0≤w∧w<16∧pr e w=false then e+2 ^ w.toNat else e
def gL (f:FR):Bool:=f.2.2.2.2.2.2 !=0
def eF (f:FR) (res val:Int):FR:=(f.1,0,f.2.2.1,val,0,0,res)
def rU (c:CF) (m:List Int) (f:FR) (op pcs:Int):Bool:=gh c&&decide ((m.length:Int)=dg c)&&decide (f.2.2.2.2.2.2=0∧0≤f.2.2.1∧f.2.2.1<c.1∧f.1=op∧0≤f.2.1∧f.2.1<pcs)
def Cs (c:CF) (m:List Int) (f:FR):List Int×FR:=
 if rU c m f 5 5=false then (m,f)
 else if f.2.1=0 then (m,f.1,1,f.2.2.1,f.2.2.2.1,aM m 2,f.2.2.2.2.2)
 else if f.2.1=1 then (if epB (aM m 2)=epB f.2.2.2.2.1 then (m,f.1,2,f.2.2.1,f.2.2.2.1,f.2.2.2.2.1,aM m 2,f.2.2.2.2.2.2) else (m,eF f 4 0))
 else if f.2.1=2 then (let r:=xj m 2 f.2.2.2.2.2.1 (JB f.2.2.2.2.2.1 f.2.2.1);(r.1,f.1,if r.2=true then 3 else 1,f.2.2))
 else if f.2.1=3 then (let y:=aM m (kK c f.2.2.1);(m,f.1,if y=0 then 3 else 4,f.2.2.1,f.2.2.2.1,f.2.2.2.2.1,y,f.2.2.2.2.2.2))
 else (bP m (kK c f.2.2.1) 0,eF f 1 0)
def EE (f:FR):Bool:=decide (f.1=5∧f.2.2.2.2.2.2=0∧f.2.1=3)
structure Wm (m:List Int):Prop where
 len:m.length≤9223372036854775807
 num:∀ x ∈ m,0≤x∧x≤18446744073709551615
theorem kL {z:Int} (h0:0≤z) (h1:z≤18446744073709551615):IntKind.u64.wrap z=z:=by
 simp [IntKind.wrap,IntKind.bits,IntKind.signed]
 omega
theorem ab3 {a b:Nat} (ha:a<18446744073709551616) (hb:b<18446744073709551616):w8 .u64 (a:Int) (b:Int)=((a &&& b:Nat):Int):=by
 unfold w8
 have h:(BitVec.ofInt IntKind.u64.bits (a:Int) &&& BitVec.ofInt IntKind.u64.bits (b:Int)).toNat=a &&& b:=by
  rw [BitVec.toNat_and]
  have e:IntKind.u64.bits=64:=rfl
  rw [e]
  simp only [BitVec.ofInt_natCast,BitVec.toNat_ofNat]
  rw [Nat.mod_eq_of_lt (by omega),Nat.mod_eq_of_lt (by omega)]
 rw [h]
 have:a &&& b≤a:=Nat.and_le_left
 exact kL (by omega) (by omega)
theorem orU {a b:Nat} (ha:a<18446744073709551616) (hb:b<18446744073709551616):orI .u64 (a:Int) (b:Int)=((a ||| b:Nat):Int):=by
 unfold orI
 have h:(BitVec.ofInt IntKind.u64.bits (a:Int) ||| BitVec.ofInt IntKind.u64.bits (b:Int)).toNat=a ||| b:=by
  rw [BitVec.toNat_or]
  have e:IntKind.u64.bits=64:=rfl
  rw [e]
  simp only [BitVec.ofInt_natCast,BitVec.toNat_ofNat]
  rw [Nat.mod_eq_of_lt (by omega),Nat.mod_eq_of_lt (by omega)]
 rw [h]
 have:a ||| b<2 ^ 64:=Nat.or_lt_two_pow (by omega) (by omega)
 exact kL (by omega) (by omega)
theorem Rw {e:Int} (h0:0≤e) (h1:e≤18446744073709551615):w8 .u64 e 65535=mkB e:=by
 obtain ⟨n,rfl⟩:∃ n:Nat,e=n:=⟨e.toNat,by omega⟩
 have:=ab3 (a:=n) (b:=65535) (by omega) (by omega)
 have h2:((65535:Nat):Int)=65535:=rfl
 rw [h2] at this
 rw [this,mkB]
 have h3:n &&& 65535=n%65536:=Nat.and_two_pow_sub_one_eq_mod n 16
 rw [h3]
 omega
theorem XI {e w:Int} (h0:0≤e) (hw:0≤w) (hw2:w≤64):R7 .u64 e w=e/2 ^ w.toNat:=by
 unfold R7
 have e1:IntKind.u64.bits=64:=rfl
 rw [e1]
 have:min w.toNat 64=w.toNat:=by omega
 rw [this,Int.fdiv_eq_ediv_of_nonneg _ (Int.le_of_lt (Int.pow_pos (by decide)))]
theorem U9 {e:Int} (h0:0≤e):R7 .u64 e 16=epB e:=by
 rw [XI h0 (by decide) (by decide)]
 rfl
theorem acs {x:Int} (h0:0≤x) (h1:x≤18446744073709551615):w8 .u64 x 1=x%2:=by
 obtain ⟨n,rfl⟩:∃ n:Nat,x=n:=⟨x.toNat,by omega⟩
 have:=ab3 (a:=n) (b:=1) (by omega) (by omega)
 have h2:((1:Nat):Int)=1:=rfl
 rw [h2] at this
 rw [this,Nat.and_one_is_mod]
 omega
theorem Uo {x w:Int} (h0:0≤x) (h1:x≤18446744073709551615):0≤x/2 ^ w.toNat∧x/2 ^ w.toNat≤18446744073709551615:=by
 have hp:(0:Int)<2 ^ w.toNat:=Int.pow_pos (by decide)
 have:=Int.ediv_nonneg h0 (Int.le_of_lt hp)
 have:=Int.ediv_le_self (2 ^ w.toNat) h0
 omega
theorem adX {x w:Int} (h0:0≤x) (h1:x≤18446744073709551615) (hw:0≤w) (hw2:w≤64):(w8 .u64 (R7 .u64 x w) 1==1)=pr x w:=by
 have:=Uo (w:=w) h0 h1
 rw [XI h0 hw hw2,acs this.1 this.2,pr,mg]
theorem aeG {w:Int} (hw:0≤w) (hw2:w<64):Pr .u64 1 w=2 ^ w.toNat:=by
 unfold Pr
 have e1:IntKind.u64.bits=64:=rfl
 rw [e1]
 have:min w.toNat 64=w.toNat:=by omega
 rw [this,Int.one_mul]
 have h1:(2:Nat) ^ w.toNat≤2 ^ 63:=Nat.pow_le_pow_right (by decide) (by omega)
 have h2:((2 ^ w.toNat:Nat):Int)=(2:Int) ^ w.toNat:=by rw [Int.natCast_pow];rfl
 have h3:(0:Int)<2 ^ w.toNat:=Int.pow_pos (by decide)
 exact kL (by omega) (by omega)
theorem aaG {e w:Int} (h0:0≤e) (h1:e≤18446744073709551615) (hw:0≤w) (hw2:w<16):orI .u64 e (2 ^ w.toNat)=JB e w:=by
 obtain ⟨n,rfl⟩:∃ n:Nat,e=n:=⟨e.toNat,by omega⟩
 have hp:(2:Nat) ^ w.toNat≤2 ^ 15:=Nat.pow_le_pow_right (by decide) (by omega)
 have h2:((2 ^ w.toNat:Nat):Int)=(2:Int) ^ w.toNat:=by rw [Int.natCast_pow];rfl
 rw [← h2,orU (by omega) (by omega)]
 have hb:pr (n:Int) w=n.testBit w.toNat:=by
  rw [pr,Nat.testBit_eq_decide_div_mod_eq,← h2]
  have:((n:Int)/((2 ^ w.toNat:Nat):Int))%2=((n/2 ^ w.toNat%2:Nat):Int):=by rw [Int.natCast_emod,Int.natCast_ediv];rfl
  rw [this]
  congr 1
  apply propext
  omega
 unfold JB
 cases ht:n.testBit w.toNat with
 | true=>
  rw [hb,ht,if_neg (by simp)]
  congr 1
  apply Nat.eq_of_testBit_eq
  intro i
  rw [Nat.testBit_or,Nat.testBit_two_pow]
  by_cases hi:w.toNat=i
  ·subst hi;simp [ht]
  ·simp [hi]
 | false=>
  rw [hb,ht,if_pos ⟨hw,hw2,rfl⟩,← h2]
  have h3:(BitVec.ofNat 80 n) &&& (BitVec.ofNat 80 (2 ^ w.toNat))=0#80:=by
   apply BitVec.eq_of_toNat_eq
   rw [BitVec.toNat_and]
   simp only [BitVec.toNat_ofNat]
   rw [Nat.mod_eq_of_lt (by omega),Nat.mod_eq_of_lt (by omega),Nat.zero_mod]
   apply Nat.eq_of_testBit_eq
   intro i
   rw [Nat.testBit_and,Nat.testBit_two_pow,Nat.zero_testBit]
   by_cases hi:w.toNat=i
   ·subst hi;simp [ht]
   ·simp [hi]
  have h4:=congrArg BitVec.toNat (BitVec.add_eq_or_of_and_eq_zero _ _ h3)
  rw [BitVec.toNat_add,BitVec.toNat_or] at h4
  simp only [BitVec.toNat_ofNat] at h4
  rw [Nat.mod_eq_of_lt (show n<2 ^ 80 by omega),Nat.mod_eq_of_lt (show 2 ^ w.toNat<2 ^ 80 by omega),Nat.mod_eq_of_lt (show n+2 ^ w.toNat<2 ^ 80 by omega)] at h4
  rw [← h4]
  omega
theorem dF {m:List Int} (hm:Wm m) (i:Int):0≤aM m i∧aM m i≤18446744073709551615:=by
 unfold aM
 split
 ·cases h:m[i.toNat]? with
  | none=>simp
  | some x=>exact hm.num x (List.mem_of_getElem? h)
 ·omega
theorem TG {e w:Int} (h0:0≤e) (h1:e≤18446744073709551615):0≤JB e w∧JB e w≤18446744073709551615:=by
 unfold JB
 split
 ·rename_i h
  have hs:=aaG h0 h1 h.1 h.2.1
  unfold JB at hs
  rw [if_pos h] at hs
  rw [← hs]
  obtain ⟨n,rfl⟩:∃ n:Nat,e=n:=⟨e.toNat,by omega⟩
  have hp:(2:Nat) ^ w.toNat≤2 ^ 15:=Nat.pow_le_pow_right (by decide) (by omega)
  have h2:((2 ^ w.toNat:Nat):Int)=(2:Int) ^ w.toNat:=by rw [Int.natCast_pow];rfl
  rw [← h2,orU (by omega) (by omega)]
  have:n ||| 2 ^ w.toNat<2 ^ 64:=Nat.or_lt_two_pow (by omega) (by omega)
  omega
 ·omega
end Go.Ab
set_option maxRecDepth 100000
set_option linter.unusedVariables false
namespace Go.Ab
theorem bO {c:CF} (h:gh c=true):1≤c.1∧c.1≤8∧(c.2.1=1∨c.2.1=2∨c.2.1=4∨c.2.1=8∨c.2.1=16)∧1≤c.2.2.1∧c.2.2.1≤16∧0≤c.2.2.2∧c.2.2.2≤4:=by
 unfold gh at h
 exact of_decide_eq_true h
theorem ic {c:CF} (h:gh c=true) {w:Int} (h0:0≤w) (h1:w≤8):8≤EK c w∧EK c w≤190∧w*(3+c.2.1)≤152∧0≤w*(3+c.2.1):=by
 obtain ⟨_,_,hD,_,_,_,_⟩:=bO h
 have a:0≤w*(3+c.2.1):=Int.mul_nonneg h0 (by omega)
 have b:w*(3+c.2.1)≤8*19:=Int.mul_le_mul h1 (by omega) (by omega) (by omega)
 unfold EK
 omega
theorem Vl (a b c:Int):ew a b c=some (decide (b≤a∧a≤c)):=by
 unfold ew
 by_cases h:b≤a
 ·simp [h]
 ·simp [h]
theorem afl {D:Int} (h1:1≤D) (h2:D≤16):(w8 IntKind.i64 D (IntKind.i64.wrap (D - 1))==0)=decide (D=1∨D=2∨D=4∨D=8∨D=16):=by
 have:D=1∨D=2∨D=3∨D=4∨D=5∨D=6∨D=7∨D=8∨D=9∨D=10∨D=11∨D=12∨D=13∨D=14∨D=15∨D=16:=by omega
 rcases this with rfl | rfl | rfl | rfl | rfl | rfl | rfl | rfl | rfl | rfl | rfl | rfl | rfl | rfl | rfl | rfl <;> decide +kernel
theorem gi (c:CF):b7 c=some (gh c):=by
 obtain ⟨W,D,I,S⟩:=c
 unfold b7 gh
 simp only [Vl,af]
 by_cases h1:1≤W∧W≤8
 ·rw [decide_eq_true h1,cond_true]
  by_cases h2:1≤D∧D≤16
  ·rw [decide_eq_true h2,cond_true,afl h2.1 h2.2]
   by_cases h3:D=1∨D=2∨D=4∨D=8∨D=16
   ·rw [decide_eq_true h3,cond_true]
    by_cases h4:1≤I∧I≤16
    ·rw [decide_eq_true h4,cond_true]
     congr 1
     apply decide_eq_decide.2
     omega
    ·rw [decide_eq_false h4,cond_false]
     symm
     congr 1
     apply decide_eq_false
     omega
   ·rw [decide_eq_false h3,cond_false]
    symm
    congr 1
    apply decide_eq_false
    omega
  ·rw [decide_eq_false h2,cond_false]
   symm
   congr 1
   apply decide_eq_false
   omega
 ·rw [decide_eq_false h1,cond_false]
  symm
  congr 1
  apply decide_eq_false
  omega
theorem DG {c:CF} (h:gh c=true) {w:Int} (h0:0≤w) (h1:w≤8):ff c w=some (EK c w):=by
 have ht:=ic h h0 h1
 have hm:=bO h
 obtain ⟨W,D,I,S⟩:=c
 simp only [EK] at ht hm ⊢
 unfold ff
 simp only
 rw [eD (z:=2*I) (by omega),eD (z:=6+2*I) (by omega),eD (z:=3+D) (by omega),eD (z:=w*(3+D)) (by omega),eD (by omega)]
theorem AH (c:CF):dL c=some (dg c):=by
 unfold dL dg
 try simp only [Prod.eta]
 rw [gi,af]
 cases h:gh c with
 | false=>rfl
 | true=>
  have hm:=bO h
  rw [Bool.not_true,cond_false,if_pos rfl,DG h (by omega) (by omega),af]
theorem lR (f:FR):aK f=some (gL f):=rfl
theorem ik (f:FR) (r v:Int):aW f r v=some (eF f r v):=rfl
theorem Hs (c : CF) (m : List Int) (f : FR) (op pcs : Int) : eH c m f op pcs = some (rU c m f op pcs) := by
  obtain ⟨a0, a1, a2, a3, a4, a5, a6⟩ := f
  unfold eH rU
  try simp only [Prod.eta]
  rw [gi, af]
  cases h : gh c with
  | false => rfl
  | true =>
    rw [cond_true, AH, af, mg]
    by_cases h1 : (m.length : Int) = dg c
    · rw [decide_eq_true h1, cond_true, lR, af, gL]
      simp only
      by_cases h2 : a6 = 0
      · subst h2
        have e : (!((0 : Int) != 0)) = true := rfl
        rw [e, cond_true]
        by_cases h3 : 0 ≤ a2
        · rw [leT h3, cond_true]
          by_cases h4 : a2 < c.1
          · rw [ltT h4, cond_true, mg]
            by_cases h5 : a0 = op
            · rw [decide_eq_true h5, cond_true]
              by_cases h6 : 0 ≤ a1
              · rw [leT h6, cond_true]
                simp [h3, h4, h5, h6]
              · rw [leF (by omega), cond_false]
                simp [h6]
            · rw [decide_eq_false h5, cond_false]
              simp [h5]
          · rw [ltF (by omega), cond_false]
            simp [h4]
        · rw [leF (by omega), cond_false]
          simp [h3]
      · have e : (!(a6 != 0)) = false := by simp [h2]
        rw [e, cond_false]
        simp [h2]
    · rw [decide_eq_false h1, cond_false]
      simp
theorem HT (c:CF) (w:Int):fg c w=some (kK c w):=by
 unfold fg kK
 try simp only [Prod.eta]
 rw [gi,af]
 cases h:gh c with
 | false=>simp
 | true=>
  have hm:=bO h
  rw [Bool.not_true,cond_false,eD (by omega),Vl,af]
  by_cases h1:0≤w∧w≤c.1 - 1
  ·have ht:=ic h h1.1 (by omega)
   rw [decide_eq_true h1,Bool.not_true,cond_false,DG h (by omega) (by omega),af,eD (by omega),if_pos ⟨rfl,by omega,by omega⟩]
  ·rw [decide_eq_false h1,Bool.not_false,cond_true,if_neg (by omega)]
theorem ab6 (m:List Int) (i:Int):gQ m i=some (decide (0≤i∧i<m.length)):=by
 unfold gQ
 by_cases h:0≤i
 ·simp [h]
 ·simp [h]
theorem mh {m:List Int} {i:Int} (h:0≤i∧i<m.length):idx m i=some (aM m i)∧m[i.toNat]? = some (aM m i):=by
 have h2:i.toNat<m.length:=by omega
 rw [idx,if_pos h.1,aM,if_pos h.1,List.getElem?_eq_getElem h2]
 exact ⟨rfl,rfl⟩
theorem NP {m:List Int} {i:Int} (h:¬ (0≤i∧i<m.length)):aM m i=0:=by
 unfold aM
 split
 ·rw [List.getElem?_eq_none (by omega)]
  rfl
 ·rfl
theorem JT {m:List Int} {i v:Int} (h:¬ (0≤i∧i<m.length)):bP m i v=m:=by
 unfold bP
 split
 ·rw [List.set_eq_of_length_le (by omega)]
 ·rfl
theorem gR {m:List Int} {i v:Int}:(bP m i v).length=m.length:=by
 unfold bP
 split <;> simp
theorem Wm.set {m:List Int} (h:Wm m) (i:Int) {v:Int} (h0:0≤v) (h1:v≤18446744073709551615):Wm (bP m i v):=by
 refine ⟨by rw [gR];exact h.len,fun x hx => ?_⟩
 unfold bP at hx
 split at hx
 ·rcases List.mem_or_eq_of_mem_set hx with hx | rfl
  ·exact h.num x hx
  ·exact ⟨h0,h1⟩
 ·exact h.num x hx
theorem Wm.cas {m:List Int} (h:Wm m) (i o:Int) {v:Int} (h0:0≤v) (h1:v≤18446744073709551615):Wm (xj m i o v).1:=by
 unfold xj
 split
 ·exact h.set i h0 h1
 ·exact h
theorem ej (m:List Int) (i:Int):aI m i=some (aM m i):=by
 unfold aI
 rw [ab6,af]
 by_cases h:0≤i∧i<m.length
 ·rw [decide_eq_true h,Bool.not_true,cond_false,(mh h).1,af]
 ·rw [decide_eq_false h,Bool.not_false,cond_true,NP h]
theorem bu {α:Type} {b:Nat} {l:List α} (h:l.length*b≤70368744177664):aL b l=some l:=by
 unfold aL
 have:Nat.ble (l.length*b) 70368744177664=true:=Nat.ble_eq_true_of_le h
 rw [this,br]
section
variable {m:List Int} (hl:m.length≤1000)
include hl
theorem kc (i v:Int):bo m i v=some (bP m i v):=by
 unfold bo
 rw [bu (by omega),af,ab6,af]
 by_cases h:0≤i∧i<m.length
 ·rw [decide_eq_true h,Bool.not_true,cond_false,(mh h).1,af,decide_eq_true (by omega),cond_true,(mh h).2,af,af,bP,if_pos h.1]
 ·rw [decide_eq_false h,Bool.not_false,cond_true,JT h]
theorem Ge (i o v:Int):dj m i o v=some (xj m i o v):=by
 unfold dj xj
 rw [bu (by omega),af,ab6,af]
 by_cases h:0≤i∧i<m.length
 ·rw [decide_eq_true h,Bool.not_true,cond_false,(mh h).1,af,A5]
  by_cases h2:aM m i=o
  ·rw [decide_eq_true h2,Bool.not_true,cond_false,decide_eq_true (by omega),cond_true,(mh h).2,af,af,if_pos ⟨h.1,h.2,h2⟩,bP,if_pos h.1]
  ·rw [decide_eq_false h2,Bool.not_false,cond_true,decide_eq_true (by omega),cond_true,(mh h).2,af,af,if_neg (fun hh=>h2 hh.2.2)]
   have:=(mh h).2
   rw [List.getElem?_eq_some_iff] at this
   obtain ⟨h3,h4⟩:=this
   rw [← h4,List.set_getElem_self]
 ·rw [decide_eq_false h,Bool.not_false,cond_true,if_neg (fun hh=>h ⟨hh.1,hh.2.1⟩)]
end
theorem aes {e w:Int} (h0:0≤e) (h1:e≤18446744073709551615):lI e w=some (JB e w):=by
 unfold lI
 by_cases h2:w<0
 ·rw [ltT h2,cond_true,JB,if_neg (by omega)]
 ·rw [ltF (by omega),cond_false]
  by_cases h3:16≤w
  ·rw [leT h3,cond_true,JB,if_neg (by omega)]
  ·rw [leF (by omega),cond_false,leT (by omega),cond_true,aeG (by omega) (by omega),aaG h0 h1 (by omega) (by omega)]
theorem Cc {e:Int} (h0:0≤e):dT e=some (epB e):=by
 unfold dT
 rw [U9 h0]
theorem xB {e:Int} (h0:0≤e) (h1:e≤18446744073709551615):cV e=some (mkB e):=by
 unfold cV
 rw [Rw h0 h1]
def Wf (f:FR):Prop:=(0≤f.2.2.2.1∧f.2.2.2.1≤18446744073709551615)∧(0≤f.2.2.2.2.1∧f.2.2.2.2.1≤18446744073709551615)∧(0≤f.2.2.2.2.2.1∧f.2.2.2.2.2.1≤18446744073709551615)
theorem BC {c:CF} {m:List Int} {f:FR} {op pcs:Int} (h:rU c m f op pcs=true):gh c=true∧(m.length:Int)=dg c∧f.2.2.2.2.2.2=0∧0≤f.2.2.1∧f.2.2.1<c.1∧f.1=op∧0≤f.2.1∧f.2.1<pcs:=by
 unfold rU at h
 rw [Bool.and_eq_true,Bool.and_eq_true,decide_eq_true_eq,decide_eq_true_eq] at h
 exact ⟨h.1.1,h.1.2,h.2⟩
theorem TU (c:CF) {m:List Int} (hm:Wm m) (hl:m.length≤1000) {f:FR} (hf:Wf f):kD c m f=some (Cs c m f):=by
 have hr:=dF hm 2
 unfold kD Cs
 try simp only [Prod.eta]
 rw [bu (by omega),af,Hs,af]
 cases h:rU c m f 5 5 with
 | false=>rfl
 | true=>
  obtain ⟨_,_,h6,h2,h2',h0,h1,h1'⟩:=BC h
  rw [cond_true,if_neg (by simp)]
  obtain ⟨a0,a1,a2,a3,a4,a5,a6⟩:=f
  simp only at h6 h2 h2' h0 h1 h1' ⊢
  have e:decide (0≤a1∧a1.toNat<5)=true:=by rw [decide_eq_true_eq];omega
  rw [e,cond_true]
  obtain ⟨_,w4,w5⟩:=hf
  simp only at w4 w5
  have hp:a1=0∨a1=1∨a1=2∨a1=3∨a1=4:=by omega
  rcases hp with rfl | rfl | rfl | rfl | rfl
  ·simp [ej,af]
  ·simp only [ej,af,Cc hr.1,Cc w4.1,A5,ik]
   by_cases h5:epB (aM m 2)=epB a4
   ·simp [h5]
   ·simp [h5,eF]
  ·simp only [aes w5.1 w5.2,af,Ge hl]
   cases hc:(xj m 2 a5 (JB a5 a2)).2 <;> simp [hc]
  ·simp only [HT,ej,af,A5]
   by_cases h5:aM m (kK c a2)=0
   ·simp [h5]
   ·simp [h5]
  ·simp only [HT,af,kc hl,ik]
   simp [eF]
end Go.Ab
set_option linter.unusedVariables false
namespace Go.Ab
structure OkB (c:CF) (m:List Int) (w:Int):Prop where
 may:gh c=true
 len:(m.length:Int)=dg c
 low:0≤w
 high:w<c.1
theorem OkB.size {c:CF} {m:List Int} {w:Int} (h:OkB c m w):(m.length:Int)=EK c c.1∧12≤m.length∧m.length≤190:=by
 have hm:=bO h.may
 have ht:=ic h.may (w:=c.1) (by omega) (by omega)
 have hl:=h.len
 rw [dg,if_pos h.may] at hl
 obtain ⟨W,D,I,S⟩:=c
 simp only [EK] at *
 have:1*(3+D)≤W*(3+D):=Int.mul_le_mul_of_nonneg_right (by omega) (by omega)
 omega
theorem OkB.store {c:CF} {m:List Int} {w:Int} (h:OkB c m w) (i v:Int):OkB c (bP m i v) w:=⟨h.may,by rw [gR];exact h.len,h.low,h.high⟩
section
variable {c:CF} {m:List Int} {w a3 a4 a5:Int} (h:OkB c m w)
include h
end
theorem Uj (n:Nat) {w:Int} (hw:0≤w):pr (n:Int) w=n.testBit w.toNat:=by
 have h2:((2 ^ w.toNat:Nat):Int)=(2:Int) ^ w.toNat:=by rw [Int.natCast_pow];rfl
 rw [pr,Nat.testBit_eq_decide_div_mod_eq,← h2]
 have:((n:Int)/((2 ^ w.toNat:Nat):Int))%2=((n/2 ^ w.toNat%2:Nat):Int):=by rw [Int.natCast_emod,Int.natCast_ediv];rfl
 rw [this]
 congr 1
 apply propext
 omega
theorem WZ (op w:Int):aJ op w 0=some (op,0,w,0,0,0,0):=rfl
theorem wf0 {op pc w:Int} {r:Int}:Wf (op,pc,w,0,0,0,r):=by simp [Wf]
end Go.Ab
set_option linter.unusedVariables false
namespace Go.Ab
def Ek (e m:Int):Int:=e%281474976710656*65536+m%65536
def M2 (x:Int):Nat→Nat→Int
 | _,0 => -1
 | i,d+1=>if pr x i=true then (i:Int) else M2 x (i+1) d
def Em (x:Int):Int:=M2 x 0 16
def Nm (x:Int):Int:=if Em x<0 then 0 else x - 2 ^ (Em x).toNat
def Tb (x:Int):Int:=Ek (epB x+1) (Nm (mkB x))
def WX (x:Int):Int:=Ek (epB x+1) 0
def PL (c:CF) (m:List Int) (w:Int):List Int:=bP m (kK c w) 1
def Cz (c:CF) (m:List Int) (f:FR):Bool:=decide (f.1=6∨f.1=7)&&gh c&&decide ((m.length:Int)=dg c)&&decide (f.2.2.2.2.2.2=0∧0≤f.2.1∧f.2.1≤2)
def Cf (c:CF) (m:List Int) (f:FR):List Int×FR:=
 if Cz c m f=false then (m,f)
 else if f.2.1=0 then (m,f.1,1,f.2.2.1,f.2.2.2.1,aM m 2,f.2.2.2.2.2)
 else if f.2.1=1 then
  (if aM m 2=f.2.2.2.2.1 then
   (bP m 2 (if f.1=6 then Tb f.2.2.2.2.1 else WX f.2.2.2.2.1),
    if mkB f.2.2.2.2.1=0 then eF f 3 0 else (f.1,2,f.2.2.1,f.2.2.2.1,f.2.2.2.2.1,(if f.1=6 then (if Em (mkB f.2.2.2.2.1)<0 then 0 else Em (mkB f.2.2.2.2.1)) else mkB f.2.2.2.2.1),f.2.2.2.2.2.2))
  else (m,f.1,0,f.2.2))
 else if f.1=6 then (PL c m (if f.2.2.2.2.2.1<8 then f.2.2.2.2.2.1 else -1),eF f 1 f.2.2.2.2.2.1)
 else (PL c m (Em f.2.2.2.2.2.1),if Nm (mkB f.2.2.2.2.2.1)=0 then eF f 1 (mkB f.2.2.2.2.1) else (f.1,2,f.2.2.1,f.2.2.2.1,f.2.2.2.2.1,Nm (mkB f.2.2.2.2.2.1),f.2.2.2.2.2.2))
def Nr (f:FR) (w:Int):Bool := !(gL f)&&decide (f.2.1=2∧0≤w∧w<16)&&(decide (f.1=6∧f.2.2.2.2.2.1=w)||(decide (f.1=7)&&pr f.2.2.2.2.2.1 w))
theorem Al (x:Int):∀ (d i:Nat),(M2 x i d = -1∧∀ j:Nat,i≤j→j<i+d→pr x j=false)∨(∃ j:Nat,M2 x i d=j∧i≤j∧j<i+d∧pr x j=true∧∀ l:Nat,i≤l→l<j→pr x l=false)
 | 0,i => .inl ⟨rfl,fun j h1 h2=>by omega⟩
 | d+1,i=>by
  by_cases h:pr x i=true
  ·exact .inr ⟨i,by rw [M2,if_pos h],by omega,by omega,h,fun l h1 h2=>by omega⟩
  ·have e:M2 x i (d+1)=M2 x (i+1) d:=by rw [M2,if_neg h]
   rw [e]
   rcases Al x d (i+1) with ⟨h1,h2⟩ | ⟨j,h1,h2,h3,h4,h5⟩
   ·refine .inl ⟨h1,fun j h3 h4 => ?_⟩
    by_cases e2:i=j
    ·subst e2;simpa using h
    ·exact h2 j (by omega) (by omega)
   ·refine .inr ⟨j,h1,by omega,by omega,h4,fun l h6 h7 => ?_⟩
    by_cases e2:i=l
    ·subst e2;simpa using h
    ·exact h5 l (by omega) h7
theorem De (x:Int):(Em x = -1∧∀ j:Nat,j<16→pr x j=false)∨(∃ j:Nat,Em x=j∧j<16∧pr x j=true∧∀ l:Nat,l<j→pr x l=false):=by
 rcases Al x 16 0 with ⟨h1,h2⟩ | ⟨j,h1,h2,h3,h4,h5⟩
 ·exact .inl ⟨h1,fun j h=>h2 j (by omega) (by omega)⟩
 ·exact .inr ⟨j,h1,by omega,h4,fun l h=>h5 l (by omega) h⟩
theorem UD {a w:Nat}:(2 ^ (w+1)*a+2 ^ w) &&& (2 ^ (w+1)*a+(2 ^ w - 1))=2 ^ (w+1)*a:=by
 have hp:0<2 ^ w:=Nat.pow_pos (by decide)
 have hs:2 ^ (w+1)=2*2 ^ w:=by rw [Nat.pow_succ,Nat.mul_comm]
 apply Nat.eq_of_testBit_eq
 intro j
 have e0:2 ^ (w+1)*a=2 ^ (w+1)*a+0:=rfl
 rw [Nat.testBit_and,Nat.testBit_two_pow_mul_add a (by omega),Nat.testBit_two_pow_mul_add a (by omega),e0,Nat.testBit_two_pow_mul_add a (by omega)]
 by_cases h:j<w+1
 ·rw [if_pos h,if_pos h,if_pos h,Nat.testBit_two_pow,Nat.testBit_two_pow_sub_one,Nat.zero_testBit]
  by_cases h2:w=j
  ·subst h2;simp
  ·simp [h2]
 ·rw [if_neg h,if_neg h,if_neg h,Bool.and_self]
theorem DO {x:Int} (h0:0≤x) (h1:x<65536):(x=0∧Em x = -1)∨(∃ a w:Nat,x=((2 ^ (w+1)*a+2 ^ w:Nat):Int)∧Em x=w∧w<16):=by
 obtain ⟨n,rfl⟩:∃ n:Nat,x=n:=⟨x.toNat,by omega⟩
 have hb:∀ j:Nat,pr (n:Int) (j:Int)=n.testBit j:=fun j=>Uj n (by omega)
 rcases De (n:Int) with ⟨h2,h3⟩ | ⟨w,h2,h3,h4,h5⟩
 ·refine .inl ⟨?_,h2⟩
  have:n=0:=by
   apply Nat.eq_of_testBit_eq
   intro j
   rw [Nat.zero_testBit]
   by_cases hj:j<16
   ·rw [← hb];exact h3 j hj
   ·exact Nat.testBit_lt_two_pow (Nat.lt_of_lt_of_le (show n<2 ^ 16 by omega) (Nat.pow_le_pow_right (by decide) (by omega)))
  omega
 ·refine .inr ⟨n/2 ^ (w+1),w,?_,h2,h3⟩
  congr 1
  have hm:n%2 ^ (w+1)=2 ^ w:=by
   apply Nat.eq_of_testBit_eq
   intro j
   rw [Nat.testBit_mod_two_pow,Nat.testBit_two_pow]
   by_cases hj:j<w
   ·have:=h5 j hj
    rw [hb] at this
    have h6:¬ w=j:=by omega
    simp [this,h6]
   ·by_cases hj2:w=j
    ·subst hj2
     rw [hb] at h4
     simp [h4]
    ·have h6:¬ j<w+1:=by omega
     simp [h6,hj2]
  have:=Nat.div_add_mod n (2 ^ (w+1))
  omega
theorem Yt {x:Int} (h0:0≤x) (h1:x<65536):w8 .u64 x (IntKind.u64.wrap (x - 1))=Nm x:=by
 unfold Nm
 rcases DO h0 h1 with ⟨rfl,h2⟩ | ⟨a,w,rfl,h2,h3⟩
 ·rw [h2]
  decide +kernel
 ·have hp:0<2 ^ w:=Nat.pow_pos (by decide)
  have e:((2 ^ (w+1)*a+2 ^ w:Nat):Int) - 1=((2 ^ (w+1)*a+(2 ^ w - 1):Nat):Int):=by
   generalize 2 ^ (w+1)*a=y
   generalize 2 ^ w=z at hp
   omega
  rw [h2,if_neg (by omega),Int.toNat_natCast,e]
  have hlt:2 ^ (w+1)*a+2 ^ w<65536:=by omega
  rw [kL (by omega) (by generalize 2 ^ (w+1)*a=y at hlt ⊢;generalize 2 ^ w=z at hlt ⊢;omega),ab3 (by omega) (by generalize 2 ^ (w+1)*a=y at hlt ⊢;generalize 2 ^ w=z at hlt ⊢;omega),UD]
  have hw:((2 ^ w:Nat):Int)=(2:Int) ^ w:=by rw [Int.natCast_pow];rfl
  rw [← hw]
  generalize 2 ^ (w+1)*a=y
  generalize (2:Nat) ^ w=z
  omega
theorem JU {x:Int} (h0:0≤x) (h1:x<65536):0≤Nm x∧Nm x≤x:=by
 unfold Nm
 rcases DO h0 h1 with ⟨rfl,h2⟩ | ⟨a,w,rfl,h2,h3⟩
 ·rw [h2];decide
 ·rw [h2,if_neg (by omega),Int.toNat_natCast]
  have hw:((2 ^ w:Nat):Int)=(2:Int) ^ w:=by rw [Int.natCast_pow];rfl
  rw [← hw]
  generalize 2 ^ (w+1)*a=y
  generalize (2:Nat) ^ w=z
  omega
theorem abI {e m:Int} (h0:0≤e) (m0:0≤m) (m1:m≤18446744073709551615):orI .u64 (Pr .u64 e 16) (w8 .u64 m 65535)=Ek e m:=by
 rw [Rw m0 m1]
 have hs:Pr .u64 e 16=((2 ^ 16*(e.toNat%281474976710656):Nat):Int):=by
  unfold Pr
  have e1:min (16:Int).toNat IntKind.u64.bits=16:=by decide
  rw [e1]
  simp [IntKind.wrap,IntKind.bits,IntKind.signed]
  omega
 have hm:mkB m=((m.toNat%65536:Nat):Int):=by unfold mkB;omega
 rw [hs,hm,orU (by omega) (by omega),← Nat.two_pow_add_eq_or_of_lt (by omega),Ek]
 omega
end Go.Ab
set_option linter.unusedVariables false
namespace Go.Ab
theorem xt (c : CF) (m : List Int) (a1 a6 : Int) : (bif gh c then bif decide ((m.length : Int) = dg c) then bif !(a6 != 0) then bif decide (0 ≤ a1) then some (decide (a1 ≤ 2)) else some false else some false else some false else some false)
    = some (gh c && decide ((m.length : Int) = dg c) && decide (a6 = 0 ∧ 0 ≤ a1 ∧ a1 ≤ 2)) := by
  cases gh c with
  | false => rfl
  | true =>
    rw [cond_true]
    by_cases h1 : (m.length : Int) = dg c
    · rw [decide_eq_true h1, cond_true]
      by_cases h2 : a6 = 0
      · by_cases h3 : 0 ≤ a1
        · simp [h2, h3]
        · simp [h2, h3]
      · have : (a6 != 0) = true := by simp [h2]
        simp [h2, this]
    · rw [decide_eq_false h1]
      rfl
theorem Tc (c:CF) (m:List Int) (f:FR):ku c m f=some (Cz c m f):=by
 obtain ⟨a0,a1,a2,a3,a4,a5,a6⟩:=f
 unfold ku Cz
 simp only [Prod.eta,mg,gi,AH,lR,af,gL]
 by_cases h1:a0=6
 ·rw [decide_eq_true h1,cond_true,xt,decide_eq_true (show a0=6∨a0=7 from .inl h1),Bool.true_and]
 ·rw [decide_eq_false h1,cond_false]
  by_cases h2:a0=7
  ·rw [decide_eq_true h2,cond_true,xt,decide_eq_true (show a0=6∨a0=7 from .inr h2),Bool.true_and]
  ·rw [decide_eq_false h2,cond_false,decide_eq_false (by omega)]
   rfl
theorem Hc {e:Int} (h0:0≤e):0≤mkB e∧mkB e<65536:=by unfold mkB;omega
theorem Rr {e:Int} (h0:0≤e) (h1:e≤18446744073709551615):0≤epB e∧epB e≤281474976710655:=by unfold epB;omega
theorem Q4 {e m:Int} (h0:0≤e) (m0:0≤m) (m1:m≤18446744073709551615):gz e m=some (Ek e m):=by
 unfold gz
 rw [abI h0 m0 m1]
theorem ub (e m:Int):0≤Ek e m∧Ek e m≤18446744073709551615:=by unfold Ek;omega
theorem Kg (x:Int) : -1≤Em x∧Em x<16:=by
 rcases De x with ⟨h,_⟩ | ⟨j,h,h2,_⟩ <;> omega
theorem HR {k:Nat} (hk:100≤k) {x:Int} (h0:0≤x) (h1:x≤18446744073709551615):gc k x=some (Em x):=by
 have key:∀ (d i n:Nat),i+d=16→d<n→cJ k x n (i:Int)=some (M2 x i d):=by
  intro d
  induction d with
  | zero=>
   intro i n hi hn
   obtain ⟨n,rfl⟩:=gu hn
   rw [cJ,ltF (by omega),cond_false]
   rfl
  | succ d ih=>
   intro i n hi hn
   obtain ⟨n,rfl⟩:=gu hn
   rw [cJ,ltT (by omega),cond_true,leT (by omega),cond_true,adX h0 h1 (by omega) (by omega),M2]
   cases hb:pr x i with
   | true=>rw [cond_true,if_pos rfl]
   | false=>rw [cond_false,if_neg (by simp),fY (by omega),ih (i+1) n (by omega) (by omega)]
 exact key 16 0 (k+9) rfl (by omega)
theorem YI {k:Nat} (hk:100≤k) {e:Int} (h0:0≤e) (h1:e≤18446744073709551615):kC k e=some (Tb e,Em (mkB e)):=by
 have hm:=Hc h0
 have he:=Rr h0 h1
 have hc:=JU hm.1 hm.2
 unfold kC
 rw [xB h0 h1,af,Cc h0,af,kL (z:=epB e+1) (by omega) (by omega),Yt hm.1 hm.2,Q4 (by omega) hc.1 (by omega),af,HR hk hm.1 (by omega),af]
 rfl
theorem Zx {e:Int} (h0:0≤e) (h1:e≤18446744073709551615):kx e=some (WX e):=by
 have he:=Rr h0 h1
 unfold kx
 rw [Cc h0,af,kL (z:=epB e+1) (by omega) (by omega),Q4 (by omega) (by decide) (by decide),af]
 rfl
theorem NC {k:Nat} (hk:100≤k) {e:Int} (h0:0≤e) (h1:e≤18446744073709551615):fC k e=some (Tb e,if Em (mkB e)<0 then 0 else Em (mkB e)):=by
 have hl:=Kg (mkB e)
 unfold fC
 rw [YI hk h0 h1,af]
 simp only
 by_cases h:Em (mkB e)<0
 ·rw [ltT h,cond_true,if_pos h];rfl
 ·rw [ltF (by omega),cond_false,if_neg h,kL (by omega) (by omega)]
theorem Ps {e:Int} (h0:0≤e) (h1:e≤18446744073709551615):fx e=some (WX e,mkB e):=by
 unfold fx
 rw [Zx h0 h1,af,xB h0 h1,af]
theorem KE {k:Nat} (hk:100≤k) (c:CF) {m:List Int} (hl:m.length≤1000) (w:Int):fP k c m [w]=some (PL c m w):=by
 unfold fP
 obtain ⟨k,rfl⟩:∃ j,k=j+2:=⟨k - 2,by omega⟩
 have f1:∀ k:Nat,k+2+12=(k+12+1)+1:=fun k=>rfl
 have i1:IntKind.i64.wrap (0+1)=1:=by decide
 have x0:idx [w] 0=some w:=rfl
 rw [f1,er,ltT (by simp),cond_true,x0,af]
 try simp only [Prod.eta]
 rw [HT,af,kc hl,af,i1,er,ltF (by simp),cond_false]
 rfl
theorem Vw {k:Nat} (hk:1000≤k) (c:CF) {m:List Int} (hm:Wm m) (hl:m.length≤1000) {f:FR} (hf:Wf f):gM k c m f=some (Cf c m f):=by
 have hr:=dF hm 2
 unfold gM Cf
 try simp only [Prod.eta]
 rw [bu (by omega),af,Tc,af]
 cases h:Cz c m f with
 | false=>rfl
 | true=>
  rw [Bool.not_true,cond_false,if_neg (by simp)]
  obtain ⟨a0,a1,a2,a3,a4,a5,a6⟩:=f
  obtain ⟨_,w4,w5⟩:=hf
  simp only at w4 w5
  unfold Cz at h
  rw [Bool.and_eq_true,Bool.and_eq_true,Bool.and_eq_true,decide_eq_true_eq,decide_eq_true_eq,decide_eq_true_eq] at h
  obtain ⟨⟨⟨h0,hmay⟩,hlen⟩,h6,h1,h2⟩:=h
  simp only at h0 h6 h1 h2 ⊢
  have hlen2:(2:Int)<m.length:=by
   have hmc:=bO hmay
   have ok:OkB c m 0:=⟨hmay,hlen,by decide,by omega⟩
   have:=ok.size
   omega
  by_cases p0:a1=0
  ·subst p0
   simp [ej,af]
  ·by_cases p1:a1=1
   ·subst p1
    have e1:∀ v,xj m 2 a4 v=if aM m 2=a4 then (bP m 2 v,true) else (m,false):=by
     intro v
     unfold xj
     by_cases hh:aM m 2=a4
     ·rw [if_pos hh,if_pos ⟨by decide,hlen2,hh⟩]
     ·rw [if_neg hh,if_neg (fun x=>hh x.2.2)]
    rcases h0 with rfl | rfl
    ·simp only [mg,decide_eq_true rfl,decide_eq_false p0,cond_true,cond_false,NC (k:=k+2) (by omega) w4.1 w4.2,af,Ge hl,e1,xB w4.1 w4.2,ik]
     by_cases hh:aM m 2=a4
     ·by_cases h3:mkB a4=0
      ·simp [hh,h3,eF]
      ·simp [hh,h3]
     ·simp [hh]
    ·simp only [mg,decide_eq_true rfl,decide_eq_false p0,decide_eq_false (show ¬ ((7:Int)=6) by decide),cond_true,cond_false,Ps w4.1 w4.2,af,Ge hl,e1,xB w4.1 w4.2,ik]
     by_cases hh:aM m 2=a4
     ·by_cases h3:mkB a4=0
      ·simp [hh,h3,eF]
      ·simp [hh,h3]
     ·simp [hh]
   ·rcases h0 with rfl | rfl
    ·simp only [mg,decide_eq_true rfl,decide_eq_false p0,decide_eq_false p1,cond_true,cond_false]
     by_cases h3:a5<8
     ·rw [ltT h3,cond_true,KE (by omega) c hl,af,ik,af,eD (by omega)]
      simp [p0,p1,h3,eF]
     ·rw [ltF (by omega),cond_false,KE (by omega) c hl,af,ik,af]
      simp [p0,p1,h3,eF]
    ·have hk5:=Hc w5.1
     simp only [mg,decide_eq_false (show ¬ ((7:Int)=6) by decide),decide_eq_false p0,decide_eq_false p1,cond_false]
     rw [HR (by omega) w5.1 w5.2,af,KE (by omega) c hl,af,xB w5.1 w5.2,af,Yt hk5.1 hk5.2,xB w4.1 w4.2,af]
     simp only [ik,af]
     by_cases h3:Nm (mkB a5)=0
     ·simp [p0,p1,h3,eF]
     ·have h4:mkB a5≠0:=fun e=>h3 (by rw [e];decide)
      simp [p0,p1,h3,h4]
      omega
end Go.Ab
namespace Go.Ab
open Go.WideShapes
theorem wq:maxLen≤9223372036854775807:=by decide
theorem adA {l:Tyt} (hm:l.length≤maxLen) (h:∀ x ∈ l,i64 x.1∧(∀ n ∈ x.2,i64 n)∧x.2.length≤maxLen):Wt l:=
 ⟨Nat.le_trans hm wq,fun x hx=>Nat.le_trans (h x hx).2.2 wq⟩
theorem X8 {α:Type} {l:List α} (hm:l.length≤maxLen):l.length≤9223372036854775807:=Nat.le_trans hm wq
theorem IB {P:Program} {w:World} {r:Reach} {base:Nat} {t:TypeId} {v:Value} {fs:Array Field} (ht:P.underlying t=some (.struct fs)) (h:Value.okWide P w r base t v):∃ cs,v = .agg cs:=by
 simp only [Value.okWide,ht] at h
 cases v <;> simp_all
theorem Cells.agg {w:World} {cs:Array Value} {vs:List V} (c:Cells w (Value.agg cs).cells.toList vs):RelV (P3 w) [] (.agg vs) (.agg cs):=by
 have hl:vs.length=cs.toList.length:=c.len
 refine .agg vs cs (by simpa using hl.symm) c.ones fun i x hx => ?_
 have hi:i<vs.length:=(List.getElem?_eq_some_iff.1 hx).1
 have hi2:i<cs.size:=by rw [hl] at hi;simpa using hi
 have h1:cs.toList[i]? = some cs[i]:=by simp [hi2]
 have:=c.rel i x cs[i] hx h1
 simpa [Array.getD,hi2] using this
end Go.Ab
namespace Go.Ab
open Go.WideShapes
def u64 (n:Int):Prop:=(Lit.int .u64 n).wf=true
def RQ (c:Int×Int×Int×Int):Prop:=i64 c.1∧i64 c.2.1∧i64 c.2.2.1∧i64 c.2.2.2
theorem Ja {P:Program} {t ti:TypeId} {f0 f1 f2 f3:Field} {vs:List V} (he:P.underlying t=some (.struct #[f0,f1,f2,f3])) (h0:f0.type=ti) (h1:f1.type=ti) (h2:f2.type=ti) (h3:f3.type=ti) (o0:f0.offset=0) (o1:f1.offset=1) (o2:f2.offset=2) (o3:f3.offset=3) (hi:P.underlying ti=some (.int .i64)) (ci:P.cellsOf ti=1) (ce:P.cellsOf t=4) (h:Shape P t vs) :
  ∃ x:Int×Int×Int×Int,vs=lA x∧RQ x:=by
 obtain ⟨a,b⟩:=rG he h
 have s0:=b 0 f0 rfl
 rw [h0,o0,ci,List.drop_zero] at s0
 have s1:=b 1 f1 rfl
 rw [h1,o1,ci] at s1
 have s2:=b 2 f2 rfl
 rw [h2,o2,ci] at s2
 have s3:=b 3 f3 rfl
 rw [h3,o3,ci] at s3
 rw [ce] at a
 obtain ⟨n0,e0,w0⟩:=lP hi s0
 obtain ⟨n1,e1,w1⟩:=lP hi s1
 obtain ⟨n2,e2,w2⟩:=lP hi s2
 obtain ⟨n3,e3,w3⟩:=lP hi s3
 match vs,a with
 | [x0,x1,x2,x3],_=>
  simp at e0 e1 e2 e3
  subst e0 e1 e2 e3
  exact ⟨(n0,n1,n2,n3),rfl,w0,w1,w2,w3⟩
theorem Ex {P:Program} {t s i:TypeId} {vs:List V} (ht:P.underlying t=some (.slice s)) (hs:P.underlying s=some (.slice i)) (hi:P.underlying i=some (.int .i64)) (h:Shape P t vs) :
  ∃ l:List (List Int),vs=[.ro (l.map cA)]∧(∀ x ∈ l,(∀ n ∈ x,i64 n)∧x.length≤maxLen)∧l.length≤maxLen:=by
 obtain ⟨rows,rfl,hr,hm⟩:=oe ht h
 obtain ⟨l,rfl,hl⟩:=mQ (enc:=cA) (Q:=fun x=>(∀ n ∈ x,i64 n)∧x.length≤maxLen) (rows:=rows) (fun r hx=>by
  obtain ⟨l,e,w,m⟩:=pz hs hi (hr r hx)
  exact ⟨l,e,w,m⟩)
 exact ⟨l,rfl,hl,by simpa using hm⟩
end Go.Ab
namespace Go.Ab
open Go.WideShapes
end Go.Ab
set_option linter.unusedVariables false
namespace Go.Ab
end Go.Ab
set_option linter.unusedVariables false
namespace Go.Ab
def A1 (c:CF) (x:Int):Int:=if gh c=true then 6+x%c.2.2.1 else -1
def VC (c:CF) (x:Int):Int:=if gh c=true then 6+c.2.2.1+x%c.2.2.1 else -1
def DY (c:CF) (x:Int):Int:=x/c.2.2.1*2%18446744073709551616
def Gk (a b:Int):Int:=IntKind.i64.wrap (IntKind.u64.wrap (a - b))
def oh (a b:Int):Int:=(a+b)%18446744073709551616
def ru (c:CF) (m:List Int) (f:FR) (op:Int):Bool:=gh c&&decide ((m.length:Int)=dg c)&&decide (f.2.2.2.2.2.2=0∧f.1=op∧0≤f.2.1∧f.2.1<5)
def Rh (c:CF) (m:List Int) (f:FR):List Int×FR:=
 if ru c m f 3=false then (m,f)
 else if f.2.1=0 then (m,f.1,1,f.2.2.1,f.2.2.2.1,aM m 5,f.2.2.2.2.2)
 else if f.2.1=1 then
  (if aM m (A1 c f.2.2.2.2.1)=DY c f.2.2.2.2.1 then (m,f.1,2,f.2.2.1,f.2.2.2.1,f.2.2.2.2.1,aM m (A1 c f.2.2.2.2.1),f.2.2.2.2.2.2)
  else if Gk (aM m (A1 c f.2.2.2.2.1)) (DY c f.2.2.2.2.1)<0 then (m,eF f 2 f.2.2.2.1)
  else (m,f.1,0,f.2.2.1,f.2.2.2.1,f.2.2.2.2.1,aM m (A1 c f.2.2.2.2.1),f.2.2.2.2.2.2))
 else if f.2.1=2 then (let r:=xj m 5 f.2.2.2.2.1 (oh f.2.2.2.2.1 1);(r.1,f.1,if r.2=true then 3 else 0,f.2.2))
 else if f.2.1=3 then (bP m (VC c f.2.2.2.2.1) f.2.2.2.1,f.1,4,f.2.2)
 else (bP m (A1 c f.2.2.2.2.1) (oh (DY c f.2.2.2.2.1) 1),eF f 1 f.2.2.2.1)
def CG (c:CF) (x:Int):Int:=oh (DY c x) 1
def Rq (c:CF) (m:List Int) (f:FR):List Int×FR:=
 if ru c m f 4=false then (m,f)
 else if f.2.1=0 then (m,f.1,1,f.2.2.1,f.2.2.2.1,aM m 4,f.2.2.2.2.2)
 else if f.2.1=1 then
  (if Gk (aM m (A1 c f.2.2.2.2.1)) (CG c f.2.2.2.2.1)=0 then (m,f.1,2,f.2.2.1,f.2.2.2.1,f.2.2.2.2.1,aM m (A1 c f.2.2.2.2.1),f.2.2.2.2.2.2)
  else if Gk (aM m (A1 c f.2.2.2.2.1)) (CG c f.2.2.2.2.1)<0 then (m,eF f 3 0)
  else (m,f.1,0,f.2.2.1,f.2.2.2.1,f.2.2.2.2.1,aM m (A1 c f.2.2.2.2.1),f.2.2.2.2.2.2))
 else if f.2.1=2 then (let r:=xj m 4 f.2.2.2.2.1 (oh f.2.2.2.2.1 1);(r.1,f.1,if r.2=true then 3 else 0,f.2.2))
 else if f.2.1=3 then (m,f.1,4,f.2.2.1,aM m (VC c f.2.2.2.2.1),f.2.2.2.2)
 else (bP m (A1 c f.2.2.2.2.1) (oh (CG c f.2.2.2.2.1) 1),eF f 1 f.2.2.2.1)
def D9 (c:CF) (m:List Int) (f:FR):List Int×FR:=if f.1=3 then Rh c m f else if f.1=4 then Rq c m f else (m,f)
def Jt (c:CF) (m:List Int) (f:FR):List Int×FR:=if f.1=5 then Cs c m f else if f.1=6∨f.1=7 then Cf c m f else (m,f)
def nd (c:CF) (m:List Int) (f:FR):List Int×FR:=if f.1=3∨f.1=4 then D9 c m f else Jt c m f
abbrev SB:=Int×List Int×FR
def dY:FR:=(0,0,0,0,0,0,0)
abbrev EV:=Int×Int×Int
def wI (l:List Int):Int:=l.headD 0
def wz (c:CF) (t:Tyt) (m:List Int) (x:SB):Bool:=gh c&&decide ((m.length:Int)=dg c)&&wM t&&decide (0≤x.1∧x.1<6∧x.2.1≠[]∧0≤wI x.2.1∧wI x.2.1<t.length)
def og (c:CF) (t:Tyt) (m:List Int) (i:Int) (x:SB):List Int×SB×List EV:=
 if wz c t m x=false then (m,x,[])
 else if x.1=0 then (if aM m 3≠0 then (m,(0,x.2.1.tail,dY),[(1,wI x.2.1,i)]) else (m,(1,x.2),[]))
 else if x.1=1 then (bP m 0 (oh (aM m 0) 1),(2,x.2.1,(3,0,i,wI x.2.1,0,0,0)),[])
 else if x.1=2 then (let r:=nd c m x.2.2;
  if gL r.2=false then (r.1,(2,x.2.1,r.2),[]) else if r.2.2.2.2.2.2.2=2 then (r.1,(5,x.2.1,r.2),[]) else (r.1,(3,x.2.1,r.2),[(0,wI x.2.1,i)]))
 else if x.1=3 then (if aM m 1≠0 then (m,(0,x.2.1.tail,dY),[]) else (m,(4,x.2.1,(6,0,i,0,0,0,0)),[]))
 else if x.1=4 then (let r:=nd c m x.2.2;if gL r.2=true then (r.1,(0,x.2.1.tail,dY),[]) else (r.1,(4,x.2.1,r.2),[]))
 else (bP m 0 (oh (aM m 0) 18446744073709551615),(0,x.2.1.tail,dY),if aM m 0=1 then [(1,wI x.2.1,i),(5,0,i)] else [(1,wI x.2.1,i)])
def One (m m':List Int):Prop:=∃ i v,m'=bP m i v
theorem One.same (m:List Int):One m m:=⟨-1,0,by unfold bP;rw [if_neg (by decide)]⟩
theorem One.store (m:List Int) (i v:Int):One m (bP m i v):=⟨i,v,rfl⟩
theorem One.cas (m:List Int) (i o v:Int):One m (xj m i o v).1:=by
 unfold xj
 split
 ·exact One.store m i v
 ·exact One.same m
theorem One.len {m m':List Int} (h:One m m'):m'.length=m.length:=by
 obtain ⟨i,v,rfl⟩:=h
 exact gR
theorem W6 (c:CF) (m:List Int) (f:FR):One m (Rh c m f).1:=by
 unfold Rh
 repeat' split
 all_goals first | exact One.same m | exact One.store m _ _ | exact One.cas m _ _ _
theorem Ui (c:CF) (m:List Int) (f:FR):One m (Rq c m f).1:=by
 unfold Rq
 repeat' split
 all_goals first | exact One.same m | exact One.store m _ _ | exact One.cas m _ _ _
theorem Qz (c:CF) (m:List Int) (f:FR):One m (Cs c m f).1:=by
 unfold Cs
 repeat' split
 all_goals first | exact One.same m | exact One.store m _ _ | exact One.cas m _ _ _
theorem OW (c:CF) (m:List Int) (f:FR):One m (Cf c m f).1:=by
 unfold Cf PL
 repeat' split
 all_goals first | exact One.same m | (dsimp only;exact One.store m _ _)
theorem Gx (c:CF) (m:List Int) (f:FR):One m (nd c m f).1:=by
 unfold nd D9 Jt
 repeat' split
 all_goals first | exact One.same m | exact W6 c m f | exact Ui c m f | exact Qz c m f | exact OW c m f
end Go.Ab
set_option linter.unusedVariables false
namespace Go.Ab
structure InvA (c:CF) (a:Nat) (m:List Int):Prop where
 wm:Wm m
 may:gh c=true
 len:(m.length:Int)=dg c
 l0:aM m 0=a
 l1:aM m 1=0
 mask:mkB (aM m 2)=0
 l3:aM m 3=0
 l5:aM m 5=a
 sq:∀ j:Nat,(j:Int)<c.2.2.1→aM m (6+j)=if j<a then 1 else 0
 le:(a:Int)≤c.2.2.1
section
variable {c:CF} {t:Tyt} {m:List Int} {l:List Int} {F:FR}
end
section
variable {c:CF} {m:List Int} {w v X Y:Int} (hmay:gh c=true) (hlen:(m.length:Int)=dg c)
include hmay hlen
end
end Go.Ab
set_option linter.unusedVariables false
namespace Go.Ab
theorem xu {q i:Int}:∀ {t:Tyt} {s:Nat},(q,i) ∈ mI s t↔∃ n x,t[n]? = some x∧q ∈ x.2∧i=((s+n:Nat):Int)
 | [],s=>by simp [mI]
 | x::t,s=>by
  simp only [mI,List.mem_append,List.mem_map,Prod.mk.injEq,xu (t:=t) (s:=s+1)]
  constructor
  ·rintro (⟨a,ha,rfl,rfl⟩ | ⟨n,y,hy,hq,rfl⟩)
   ·exact ⟨0,x,rfl,ha,by simp⟩
   ·exact ⟨n+1,y,by simpa using hy,hq,by omega⟩
  ·rintro ⟨n,y,hy,hq,rfl⟩
   cases n with
   | zero=>
    simp at hy
    subst hy
    exact .inl ⟨q,hq,rfl,by simp⟩
   | succ n=>exact .inr ⟨n,y,by simpa using hy,hq,by omega⟩
theorem Hu (n:Nat):∀ (l:List (Int×Int)) (had:Xc n),(∀ q ∈ l,0≤q.2)→(Sb (fH n) l had).1=true →
  (∀ q ∈ l,q.2<q.1∧q.1<n∧had.1[q.1.toNat]? = some false)∧(l.map (·.1)).Nodup
 | [],had,_,_=>by simp
 | q::l,had,h0,h=>by
  simp only [Sb] at h
  have hq0:=h0 q (by simp)
  cases hb:uC n had.1 q with
  | true=>simp [fH,hb] at h
  | false=>
   have e1:(fH n had q).1=true:=by simp [fH,hb]
   have e2:(fH n had q).2.1=had.1.set q.1.toNat true:=by simp [fH,hb]
   rw [e1,if_pos rfl] at h
   obtain ⟨a,b⟩:=Hu n l _ (fun x hx=>h0 x (by simp [hx])) h
   simp only [uC,Bool.or_eq_false_iff,decide_eq_false_iff_not] at hb
   obtain ⟨⟨h1,h2⟩,h3⟩:=hb
   have h4:q.1.toNat<had.1.length:=by rw [had.2];omega
   have h5:had.1[q.1.toNat]? = some false:=by
    rw [List.getElem?_eq_getElem h4] at h3 ⊢
    simpa using h3
   rw [e2] at a
   have h6:∀ x ∈ l,x.1≠q.1:=by
    intro x hx e
    have:=(a x hx).2.2
    rw [e,List.getElem?_set_self h4] at this
    cases this
   refine ⟨?_,?_⟩
   ·intro x hx
    rcases List.mem_cons.1 hx with rfl | hx
    ·exact ⟨by omega,by omega,h5⟩
    ·obtain ⟨u,v,w⟩:=a x hx
     refine ⟨u,v,?_⟩
     have hx0:=h0 x (by simp [hx])
     rwa [List.getElem?_set_ne (by have:=h6 x hx;omega)] at w
   ·rw [List.map_cons,List.nodup_cons]
    refine ⟨?_,b⟩
    intro hm
    obtain ⟨x,hx,e⟩:=List.mem_map.1 hm
    exact h6 x hx e
structure May (t:Tyt):Prop where
 len:t.length≤30
 work:∀ x ∈ t,0≤x.1∧x.1≤20
 kids:∀ q ∈ mI 0 t,0≤q.2∧q.2<q.1∧q.1<t.length
 once:((mI 0 t).map (·.1)).Nodup
theorem o9 {t:Tyt} {s:Nat} (q) (h:q ∈ mI s t):0≤q.2:=by
 obtain ⟨a,b⟩:=q
 obtain ⟨n,x,_,_,rfl⟩:=xu.1 h
 simp
 omega
theorem Q3 {t:Tyt} (h:wM t=true):May t:=by
 unfold wM at h
 simp only [Bool.and_eq_true,decide_eq_true_eq,Bool.not_eq_true'] at h
 obtain ⟨⟨h1,h2⟩,h3⟩:=h
 obtain ⟨a,b⟩:=Hu t.length _ _ o9 h3
 refine ⟨h1,?_,fun q hq=>⟨o9 q hq,(a q hq).1,(a q hq).2.1⟩,b⟩
 intro x hx
 have:=List.any_eq_false.1 h2 x hx
 simp only [nI,Bool.or_eq_true,decide_eq_true_eq,not_or] at this
 omega
end Go.Ab
set_option maxRecDepth 100000
set_option linter.unusedVariables false
namespace Go.Ab
theorem aaC (x:Int×List Int):fy x=some (nI x):=by
 unfold fy nI
 cases decide (x.1<0) <;> rfl
section
variable (k:Nat) (hk:9223372036854775808≤k)
include hk
theorem VF (t:Tyt) (ht:Wt t):dm k t=some (YG t):=by
 have hlen:=ht.len
 have key:∀ r i n,t.drop i=r→i≤t.length→r.length<n→bB k t n (i:Int)=some ((r.take (41 - i)).all (fun x=>decide (x.2.length≤40))&&decide (t.length≤40)):=by
  intro r
  induction r with
  | nil=>
   intro i n hr hi hn
   obtain ⟨n,rfl⟩:=gu hn
   have:i=t.length:=by have:=dE hr;omega
   subst this
   rw [bB,rF,cond_false,Re]
   simp
  | cons x r ih=>
   intro i n hr hi hn
   obtain ⟨n,rfl⟩:=gu hn
   obtain ⟨a,b,c,d,e⟩:=cM hr
   rw [bB,ltN a,cond_true]
   by_cases h:i≤40
   ·rw [leT (show (i:Int)≤40 by omega),cond_true,fU b,af]
    have e1:41 - i=(41 - (i+1))+1:=by omega
    rw [e1,List.take_succ_cons,List.all_cons]
    by_cases h2:x.2.length≤40
    ·rw [ltF (show ((x.2.length:Nat):Int)≤40 by omega),cond_false,fY (by omega),ih (i+1) n c (by omega) (by simp only [List.length_cons] at hn;omega),decide_eq_true h2,Bool.true_and]
    ·rw [ltT (show (40:Int)<(x.2.length:Nat) by omega),cond_true,decide_eq_false h2]
     rfl
   ·rw [leF (show (40:Int)<i by omega),cond_false,Re]
    have e1:41 - i=0:=by omega
    rw [e1]
    simp
 have:=key t 0 k rfl (Nat.zero_le _) (by omega)
 rw [dm]
 simpa [YG] using this
theorem Uc (t:Tyt) (ht:Wt t):aP k t=some (t.any nI):=by
 have hlen:=ht.len
 rw [aP,aY]
 rw [Fx (F:=fun n i=>aE (k+8) t n i) (l:=t) nI ?_ ?_ _ (by omega)]
 ·rw [af,nN]
 ·intro n
  simp only [aE,rF,cond_false]
 ·intro n i x hi hx
  simp only [aE,ltN hi,cond_true,fU hx,af,aaC,Prod.eta]
  rw [fY (by omega)]
theorem Io (t:Tyt) (ht:Wt t):cT k t=some (wM t):=by
 have hlen:=ht.len
 rw [cT,Uc k hk t ht,af]
 unfold wM
 by_cases h1:t.length≤30
 ·rw [ahj h1,cond_false,decide_eq_true h1]
  cases h2:t.any nI with
  | true=>rfl
  | false=>
   have h3:decide ((0:Int)≤(t.length:Int)∧(t.length:Int)≤9223372036854775807∧(t.length:Int)*1≤70368744177664)=true:=by simp;omega
   rw [h3,cond_false,cond_true]
   -- one task's kids
   have inner:∀ (x:Int×List Int) (hx:x ∈ t) (i:Nat) (hi:i<t.length) (o:Int→List Bool→Option Bool) (R:List (Int×Int)) (n0:Nat)
     (ho:∀ had:Xc t.length,o ((i+1:Nat):Int) had.1=some (Sb (fH t.length) R had).1),
     ∀ r j n (had:Xc t.length),x.2.drop j=r→r.length<n →
      cX k t o n x.2 (x.2.length:Int) (j:Int) had.1 (i:Int)=some (Sb (fH t.length) (r.map (fun q=>(q,(i:Int)))++R) had).1:=by
    intro x hx i hi o R n0 ho r
    have hxl:=ht.kids x hx
    induction r with
    | nil=>
     intro j n had hr hn
     obtain ⟨n,rfl⟩:=gu hn
     have hj:=dE hr
     rw [cX,ltF (by omega),cond_false,fY (by omega),ho]
     rfl
    | cons q r ih=>
     intro j n had hr hn
     obtain ⟨n,rfl⟩:=gu hn
     obtain ⟨a,b,c,d,e⟩:=cM hr
     have hb:=had.2
     rw [cX,ltN a,cond_true,fU b,af,List.map_cons,List.cons_append,Sb]
     by_cases h1:q≤(i:Int)
     ·rw [leT h1,cond_true]
      simp [fH,uC,leT h1]
     ·rw [leF (show (i:Int)<q by omega),cond_false]
      by_cases h2:(t.length:Int)≤q
      ·rw [leT h2,cond_true]
       simp [fH,uC,leT h2]
      ·rw [leF (show q<(t.length:Int) by omega),cond_false]
       have h5:decide ((0:Int)≤q∧q.toNat<t.length)=true:=by simp;omega
       have h3:q.toNat<had.1.length:=by rw [hb];omega
       have h4:had.1[q.toNat]? = some had.1[q.toNat]:=List.getElem?_eq_getElem h3
       rw [h5,cond_true,h4,af,cond_true,af,fY (by omega)]
       cases hh:had.1[q.toNat] with
       | true=>simp [fH,uC,leF (show (i:Int)<q by omega),leF (show q<(t.length:Int) by omega),h4,hh]
       | false=>
        rw [cond_false]
        have e1:fH t.length had (q,(i:Int))=(true,⟨had.1.set q.toNat true,by simp [had.2]⟩):=by
         simp [fH,uC,leF (show (i:Int)<q by omega),leF (show q<(t.length:Int) by omega),h4,hh]
        rw [e1]
        simp only [if_true]
        exact ih (j+1) n ⟨had.1.set q.toNat true,by simp [had.2]⟩ c (by simp only [List.length_cons] at hn;omega)
   have outer:∀ r i n (had:Xc t.length),t.drop i=r→i≤t.length→r.length<n→bY k t n (i:Int) had.1=some (Sb (fH t.length) (mI i r) had).1:=by
    intro r
    induction r with
    | nil=>
     intro i n had hr hi hn
     obtain ⟨n,rfl⟩:=gu hn
     have:=dE hr
     rw [bY,ltF (by omega),cond_false]
     rfl
    | cons x r ih=>
     intro i n had hr hi hn
     obtain ⟨n,rfl⟩:=gu hn
     obtain ⟨a,b,c,d,e⟩:=cM hr
     have hxl:=ht.kids x d
     rw [bY,ltN a,cond_true,fU b,af,mI]
     have:=inner x d i a (fun s47 s56=>bY k t n s47 s56) (mI (i+1) r) n (fun had=>ih (i+1) n had c (by omega) (by simp only [List.length_cons] at hn;omega)) x.2 0 (k+17) had rfl (by omega)
     simpa using this
   have:=outer t 0 (k+17) (EC t.length) rfl (Nat.zero_le _) (by omega)
   simpa [EC] using this
 ·rw [ahI (by omega),cond_true,decide_eq_false h1]
  rfl
end
end Go.Ab
set_option linter.unusedVariables false
namespace Go.Ab
theorem AW (z:Int):IntKind.u64.wrap z=z%18446744073709551616:=by simp [IntKind.wrap,IntKind.bits,IntKind.signed]
theorem Gj {c:CF} {x:Int} (h0:0≤x) (h1:x≤18446744073709551615):gS c x=some (A1 c x):=by
 unfold gS A1
 simp only [Prod.eta,gi,af]
 cases hm:gh c with
 | false=>rfl
 | true=>
  have hc:=bO hm
  have hi:IntKind.u64.wrap c.2.2.1=c.2.2.1:=kL (by omega) (by omega)
  have h3:=Int.emod_lt_of_pos x (show 0<c.2.2.1 by omega)
  have h4:=Int.emod_nonneg x (show c.2.2.1≠0 by omega)
  have e1:IntKind.i64.wrap (c.1 - 1)=c.1 - 1:=by rw [IntKind.wrap_i64];omega
  rw [Bool.not_true,cond_false,Vl,af,e1,decide_eq_true (by omega),Bool.not_true,cond_false,hi,A5,decide_eq_false (by omega),Bool.not_false,cond_true,if_pos rfl,Int.tmod_eq_emod_of_nonneg h0]
  have e2:IntKind.i64.wrap (x%c.2.2.1)=x%c.2.2.1:=by rw [IntKind.wrap_i64];omega
  rw [e2,IntKind.wrap_i64]
  congr 1
  omega
theorem Sk {c:CF} {x:Int} (h0:0≤x) (h1:x≤18446744073709551615):lG c x=some (VC c x):=by
 unfold lG VC
 simp only [Prod.eta,gi,af]
 cases hm:gh c with
 | false=>rfl
 | true=>
  have hc:=bO hm
  have hi:IntKind.u64.wrap c.2.2.1=c.2.2.1:=kL (by omega) (by omega)
  have h3:=Int.emod_lt_of_pos x (show 0<c.2.2.1 by omega)
  have h4:=Int.emod_nonneg x (show c.2.2.1≠0 by omega)
  have e1:IntKind.i64.wrap (c.1 - 1)=c.1 - 1:=by rw [IntKind.wrap_i64];omega
  rw [Bool.not_true,cond_false,Vl,af,e1,decide_eq_true (by omega),Bool.not_true,cond_false,hi,A5,decide_eq_false (by omega),Bool.not_false,cond_true,if_pos rfl,Int.tmod_eq_emod_of_nonneg h0]
  have e2:IntKind.i64.wrap (x%c.2.2.1)=x%c.2.2.1:=by rw [IntKind.wrap_i64];omega
  have e3:IntKind.i64.wrap (6+c.2.2.1)=6+c.2.2.1:=by rw [IntKind.wrap_i64];omega
  rw [e2,e3,IntKind.wrap_i64]
  congr 1
  omega
theorem Kb {c:CF} {x:Int} (hm:gh c=true) (h0:0≤x) (h1:x≤18446744073709551615):IntKind.u64.wrap (IntKind.u64.wrap (x.tdiv (IntKind.u64.wrap c.2.2.1))*2)=DY c x:=by
 have hc:=bO hm
 have hi:IntKind.u64.wrap c.2.2.1=c.2.2.1:=kL (by omega) (by omega)
 have h3:0≤x/c.2.2.1:=Int.ediv_nonneg h0 (by omega)
 have h4:x/c.2.2.1≤x:=Int.ediv_le_self _ h0
 rw [hi,Int.tdiv_eq_ediv_of_nonneg h0,kL h3 (by omega),AW]
 rfl
theorem wP (a b:Int):IntKind.u64.wrap (a+b)=oh a b:=by rw [AW];rfl
theorem gg (a b:Int):0≤oh a b∧oh a b≤18446744073709551615:=by unfold oh;omega
theorem ne0 {c:CF} (hm:gh c=true):(IntKind.u64.wrap c.2.2.1 !=0)=true:=by
 have hc:=bO hm
 rw [kL (by omega) (by omega),A5,decide_eq_false (by omega)]
 rfl
theorem Ri {c:CF} {x:Int} (hm:gh c=true) (h0:0≤x) (h1:x≤18446744073709551615):iY c x=some (CG c x):=by
 unfold iY CG
 rw [ne0 hm,cond_true,Kb hm h0 h1,wP]
theorem Mh (a b:Int):fe a b=some (Gk a b):=rfl
theorem Lo (c:CF) (m:List Int) (f:FR) (op:Int):i4 c m f op=some (ru c m f op):=by
 unfold i4 mY ru
 simp only [Prod.eta,gi,AH,lR,af]
 cases hm:gh c with
 | false=>rfl
 | true=>
  rw [cond_true,af,mg,Bool.true_and]
  by_cases h1:(m.length:Int)=dg c
  ·rw [decide_eq_true h1,cond_true,Bool.true_and]
   unfold gL
   rw [A5,Bool.not_not,mg]
   by_cases h2:f.2.2.2.2.2.2=0
   ·rw [decide_eq_true h2,cond_true]
    by_cases h3:f.1=op
    ·rw [decide_eq_true h3,cond_true]
     by_cases h4:0≤f.2.1
     ·rw [leT h4,cond_true]
      congr 1
      simp [h2,h3,h4]
     ·rw [leF (by omega),cond_false]
      simp [h4]
    ·rw [decide_eq_false h3,cond_false]
     simp [h3]
   ·rw [decide_eq_false h2,cond_false]
    simp [h2]
  ·rw [decide_eq_false h1,cond_false]
   rfl
theorem G3 {c:CF} {m:List Int} {f:FR} {op:Int} (h:ru c m f op=true):gh c=true∧(m.length:Int)=dg c∧f.2.2.2.2.2.2=0∧f.1=op∧0≤f.2.1∧f.2.1<5:=by
 unfold ru at h
 rw [Bool.and_eq_true,Bool.and_eq_true,decide_eq_true_eq,decide_eq_true_eq] at h
 exact ⟨h.1.1,h.1.2,h.2⟩
theorem JG (c:CF) {m:List Int} (hm:Wm m) (hl:m.length≤1000) {f:FR} (hf:Wf f):kY c m f=some (Rh c m f):=by
 unfold kY Rh
 try simp only [Prod.eta]
 rw [bu (by omega),af,Lo,af]
 cases h:ru c m f 3 with
 | false=>rfl
 | true=>
  obtain ⟨hmay,_,h6,h0,h1,h1'⟩:=G3 h
  rw [Bool.not_true,cond_false,if_neg (by simp)]
  obtain ⟨a0,a1,a2,a3,a4,a5,a6⟩:=f
  simp only at h6 h0 h1 h1' ⊢
  have e:decide (0≤a1∧a1.toNat<5)=true:=by rw [decide_eq_true_eq];omega
  rw [e,cond_true]
  obtain ⟨w3,w4,w5⟩:=hf
  simp only at w3 w4 w5
  rcases (show a1=0∨a1=1∨a1=2∨a1=3∨a1=4 by omega) with rfl | rfl | rfl | rfl | rfl
  ·simp [ej,af]
  ·simp only [Gj w4.1 w4.2,ej,af,ne0 hmay,Kb hmay w4.1 w4.2,Mh,ik,mg,cond_true]
   by_cases h5:aM m (A1 c a4)=DY c a4
   ·simp [h5]
   ·by_cases h7:Gk (aM m (A1 c a4)) (DY c a4)<0
    ·simp [h5,h7,eF]
    ·simp [h5,h7]
  ·simp only [wP,Ge hl,af]
   cases hc:(xj m 5 a4 (oh a4 1)).2 <;> simp [hc]
  ·simp only [Sk w4.1 w4.2,kc hl,af]
   simp
  ·simp only [Gj w4.1 w4.2,ne0 hmay,Kb hmay w4.1 w4.2,wP,kc hl,af,ik,cond_true]
   simp [eF]
theorem Kz (c:CF) {m:List Int} (hm:Wm m) (hl:m.length≤1000) {f:FR} (hf:Wf f):lm c m f=some (Rq c m f):=by
 unfold lm Rq
 try simp only [Prod.eta]
 rw [bu (by omega),af,Lo,af]
 cases h:ru c m f 4 with
 | false=>rfl
 | true=>
  obtain ⟨hmay,_,h6,h0,h1,h1'⟩:=G3 h
  rw [Bool.not_true,cond_false,if_neg (by simp)]
  obtain ⟨a0,a1,a2,a3,a4,a5,a6⟩:=f
  simp only at h6 h0 h1 h1' ⊢
  obtain ⟨w3,w4,w5⟩:=hf
  simp only at w3 w4 w5
  rcases (show a1=0∨a1=1∨a1=2∨a1=3∨a1=4 by omega) with rfl | rfl | rfl | rfl | rfl
  ·simp [ej,af]
  ·simp only [Gj w4.1 w4.2,ej,af,Ri hmay w4.1 w4.2,Mh,ik,mg]
   by_cases h5:Gk (aM m (A1 c a4)) (CG c a4)=0
   ·simp [h5]
   ·by_cases h7:Gk (aM m (A1 c a4)) (CG c a4)<0
    ·simp [h5,h7,eF]
    ·simp [h5,h7]
  ·simp only [wP,Ge hl,af]
   cases hc:(xj m 4 a4 (oh a4 1)).2 <;> simp [hc]
  ·simp only [Sk w4.1 w4.2,ej,af]
   simp
  ·simp only [Gj w4.1 w4.2,Ri hmay w4.1 w4.2,wP,kc hl,af,ik]
   simp [eF]
theorem C3 (c:CF) {m:List Int} (hm:Wm m) (hl:m.length≤1000) {f:FR} (hf:Wf f):bt c m f=some (D9 c m f):=by
 unfold bt D9
 simp only [Prod.eta,JG c hm hl hf,Kz c hm hl hf,af,mg]
 by_cases h3:f.1=3
 ·simp [h3]
 ·by_cases h4:f.1=4
  ·simp [h4]
  ·simp [h3,h4,bu (b:=8) (l:=m) (by omega),af]
theorem DQ {k:Nat} (hk:1000≤k) (c:CF) {m:List Int} (hm:Wm m) (hl:m.length≤1000) {f:FR} (hf:Wf f):co k c m f=some (Jt c m f):=by
 unfold co Jt
 simp only [Prod.eta,TU c hm hl hf,Vw hk c hm hl hf,af,mg]
 by_cases h5:f.1=5
 ·rw [decide_eq_true h5,cond_true,if_pos h5]
 ·rw [decide_eq_false h5,cond_false,if_neg h5]
  by_cases h6:f.1=6
  ·rw [decide_eq_true h6,cond_true,cond_true,if_pos (.inl h6)]
  ·rw [decide_eq_false h6,cond_false]
   by_cases h7:f.1=7
   ·rw [decide_eq_true h7,cond_true,if_pos (.inr h7)]
   ·rw [decide_eq_false h7,cond_false,if_neg (by omega),bu (by omega),af]
theorem aaf {m:List Int} (hl:m.length≤1000) (i v:Int):dk m i v=some (if 0≤i∧i<m.length then (bP m i (oh (aM m i) v),aM m i) else (m,0)):=by
 unfold dk
 rw [bu (by omega),af,ab6,af]
 by_cases h:0≤i∧i<m.length
 ·have hd:decide (0≤i∧i.toNat<m.length)=true:=decide_eq_true (by omega)
  rw [decide_eq_true h,Bool.not_true,cond_false,(mh h).1,af,hd,cond_true,(mh h).2,af,af,if_pos h,wP]
  unfold bP
  rw [if_pos h.1]
 ·rw [decide_eq_false h,Bool.not_false,cond_true,if_neg h]
theorem Sc {k:Nat} (hk:9223372036854775808≤k) (c:CF) {t:Tyt} (ht:Wt t) (m:List Int) (x:SB):eU k c t m x=some (wz c t m x):=by
 unfold eU wz
 simp only [Prod.eta,gi,AH,af]
 rw [Io (k+4) (by omega) t ht]
 cases hm:gh c with
 | false=>rfl
 | true=>
  rw [cond_true,mg,Bool.true_and]
  by_cases h1:(m.length:Int)=dg c
  ·rw [decide_eq_true h1,cond_true,Bool.true_and,af]
   cases ht2:wM t with
   | false=>rfl
   | true=>
    rw [cond_true,Bool.true_and]
    by_cases h2:0≤x.1
    ·rw [leT h2,cond_true]
     by_cases h3:x.1<6
     ·rw [ltT h3,cond_true]
      cases hl:x.2.1 with
      | nil=>simp
      | cons r rest=>
       have h0:idx (r::rest) 0=some r:=rfl
       rw [ltT (by simp),cond_true,h0,af,af]
       by_cases h4:0≤r
       ·rw [leT h4,cond_true]
        congr 1
        simp [h2,h3,wI,h4]
       ·rw [leF (by omega),cond_false]
        simp [wI,h4]
     ·rw [ltF (by omega),cond_false]
      simp [h3]
    ·rw [leF (by omega),cond_false]
     simp [h2]
  ·rw [decide_eq_false h1,cond_false]
   rfl
theorem FY {c:CF} {t:Tyt} {m:List Int} {x:SB} (h:wz c t m x=true):gh c=true∧(m.length:Int)=dg c∧wM t=true∧0≤x.1∧x.1<6∧∃ r rest,x.2.1=r::rest∧0≤r∧r<t.length:=by
 unfold wz at h
 simp only [Bool.and_eq_true,decide_eq_true_eq] at h
 obtain ⟨⟨⟨h1,h2⟩,h3⟩,h4,h5,h6,h7,h8⟩:=h
 cases hx:x.2.1 with
 | nil=>exact absurd hx h6
 | cons r rest=>
  rw [hx] at h7 h8
  exact ⟨h1,h2,h3,h4,h5,r,rest,rfl,h7,h8⟩
theorem ph {c:CF} (h:gh c=true):12≤dg c∧dg c≤190:=by
 have hm:=bO h
 have:=ic h (w:=c.1) (by omega) (by omega)
 unfold dg
 rw [if_pos h]
 have e:EK c c.1=6+2*c.2.2.1+c.1*(3+c.2.1):=rfl
 have h3:1*(3+c.2.1)≤c.1*(3+c.2.1):=Int.mul_le_mul_of_nonneg_right (by omega) (by omega)
 omega
theorem Up {k:Nat} (hk:9223372036854775808≤k) (c:CF) {t:Tyt} (ht:Wt t) {m:List Int} (hm:Wm m) (hl:m.length≤1000) (i:Int) {x:SB} (hf:Wf x.2.2) (hr:x.2.1.length≤1000) (ht2:t.length≤1000):fb k c t m i x=some (og c t m i x):=by
 unfold fb og
 try simp only [Prod.eta]
 rw [bu (by omega),af,bu (by omega),af,Sc (by omega) c ht,af]
 cases hmay:wz c t m x with
 | false=>rfl
 | true=>
  rw [Bool.not_true,cond_false,if_neg (by simp)]
  obtain ⟨h1,h2,h3,h4,h5,r,rest,hx,h6,h7⟩:=FY hmay
  have hsz:=ph h1
  obtain ⟨pc,roots,F⟩:=x
  simp only at hx h4 h5 hf hr ⊢
  subst hx
  have hi0:idx (r::rest) 0=some r:=rfl
  have hroom:room 1 24=true:=rfl
  have hroom2:room 2 24=true:=rfl
  have hd:decide ((1:Int)≤((r::rest).length:Int))=true:=decide_eq_true (by simp;omega)
  have hdr:List.drop (Int.toNat 1) (r::rest)=rest:=rfl
  have hh:wI (r::rest)=r:=rfl
  have hur:IntKind.u64.wrap r=r:=kL h6 (by omega)
  have htl:(r::rest).tail=rest:=rfl
  rw [hi0,af]
  simp only [C3 c hm hl hf,DQ (k:=k+20) (by omega) c hm hl hf,ej,aaf hl,af,lR,WZ,hroom,hroom2,hd,hdr,hh,htl,cond_true,hur,mg,A5]
  have hb:∀ op w v:Int,aJ op w v=some (op,0,w,v,0,0,0):=fun _ _ _=>rfl
  simp only [hb,af]
  have hin:(0:Int)≤0∧(0:Int)<m.length:=by omega
  have hcall:nd c m F=if F.1=3∨F.1=4 then D9 c m F else Jt c m F:=rfl
  rcases (show pc=0∨pc=1∨pc=2∨pc=3∨pc=4∨pc=5 by omega) with rfl | rfl | rfl | rfl | rfl | rfl
  ·by_cases h:aM m 3=0
   ·simp [h]
   ·simp [h,dY]
  ·simp only [if_pos hin]
   simp
  ·by_cases e3:F.1=3
   ·have ec:nd c m F=D9 c m F:=by rw [hcall,if_pos (.inl e3)]
    rw [ec]
    cases ho:gL (D9 c m F).2 with
    | false=>simp [e3,ho]
    | true=>
     by_cases h8:(D9 c m F).2.2.2.2.2.2.2=2
     ·simp [e3,ho,h8]
     ·simp [e3,ho,h8]
   ·by_cases e4:F.1=4
    ·have ec:nd c m F=D9 c m F:=by rw [hcall,if_pos (.inr e4)]
     rw [ec]
     cases ho:gL (D9 c m F).2 with
     | false=>simp [e4,ho]
     | true=>
      by_cases h8:(D9 c m F).2.2.2.2.2.2.2=2
      ·simp [e4,ho,h8]
      ·simp [e4,ho,h8]
    ·have ec:nd c m F=Jt c m F:=by rw [hcall,if_neg (by omega)]
     rw [ec]
     cases ho:gL (Jt c m F).2 with
     | false=>simp [e3,e4,ho]
     | true=>
      by_cases h8:(Jt c m F).2.2.2.2.2.2.2=2
      ·simp [e3,e4,ho,h8]
      ·simp [e3,e4,ho,h8]
  ·by_cases h:aM m 1=0
   ·simp [h]
   ·simp [h,dY]
  ·by_cases e3:F.1=3
   ·have ec:nd c m F=D9 c m F:=by rw [hcall,if_pos (.inl e3)]
    rw [ec]
    cases ho:gL (D9 c m F).2 with
    | false=>simp [e3,ho]
    | true=>simp [e3,ho,dY]
   ·by_cases e4:F.1=4
    ·have ec:nd c m F=D9 c m F:=by rw [hcall,if_pos (.inr e4)]
     rw [ec]
     cases ho:gL (D9 c m F).2 with
     | false=>simp [e4,ho]
     | true=>simp [e4,ho,dY]
    ·have ec:nd c m F=Jt c m F:=by rw [hcall,if_neg (by omega)]
     rw [ec]
     cases ho:gL (Jt c m F).2 with
     | false=>simp [e3,e4,ho]
     | true=>simp [e3,e4,ho,dY]
  ·simp only [if_pos hin]
   by_cases h:aM m 0=1
   ·simp [h,dY,hroom2]
   ·simp [h,dY]
end Go.Ab
set_option linter.unusedVariables false
namespace Go.Ab
def onW (c:CF) (w x:Int):Int:=if gh c=true∧0≤w∧w<c.1 then EK c w+x else -1
def Jc (c:CF) (w:Int):Int:=onW c w 0
def Ju (c:CF) (w:Int):Int:=onW c w 1
def xq (c:CF) (w x:Int):Int:=onW c w (3+w8 .u64 x (c.2.1 - 1))
def V9 (a b:Int):Int:=(a - b)%18446744073709551616
def Da (c:CF) (m:List Int) (f:FR):List Int×FR:=
 if rU c m f 0 4=false then (m,f)
 else if f.2.1=0 then (m,f.1,1,f.2.2.1,f.2.2.2.1,aM m (Ju c f.2.2.1),f.2.2.2.2.2)
 else if f.2.1=1 then (if c.2.1≤V9 f.2.2.2.2.1 (aM m (Jc c f.2.2.1)) then (m,eF f 2 f.2.2.2.1) else (m,f.1,2,f.2.2.1,f.2.2.2.1,f.2.2.2.2.1,aM m (Jc c f.2.2.1),f.2.2.2.2.2.2))
 else if f.2.1=2 then (bP m (xq c f.2.2.1 f.2.2.2.2.1) f.2.2.2.1,f.1,3,f.2.2)
 else (bP m (Ju c f.2.2.1) (oh f.2.2.2.2.1 1),eF f 1 f.2.2.2.1)
def Q7 (c:CF) (m:List Int) (f:FR):List Int×FR:=
 if rU c m f 1 7=false then (m,f)
 else if f.2.1=0 then (m,f.1,1,f.2.2.1,f.2.2.2.1,V9 (aM m (Ju c f.2.2.1)) 1,f.2.2.2.2.2)
 else if f.2.1=1 then (bP m (Ju c f.2.2.1) f.2.2.2.2.1,f.1,2,f.2.2)
 else if f.2.1=2 then (m,f.1,if Gk f.2.2.2.2.1 (aM m (Jc c f.2.2.1))<0 then 6 else 3,f.2.2.1,f.2.2.2.1,f.2.2.2.2.1,aM m (Jc c f.2.2.1),f.2.2.2.2.2.2)
 else if f.2.1=3 then (if f.2.2.2.2.1≠f.2.2.2.2.2.1 then (m,eF f 1 (aM m (xq c f.2.2.1 f.2.2.2.2.1))) else (m,f.1,4,f.2.2.1,aM m (xq c f.2.2.1 f.2.2.2.2.1),f.2.2.2.2))
 else if f.2.1=4 then (let r:=xj m (Jc c f.2.2.1) f.2.2.2.2.2.1 (oh f.2.2.2.2.2.1 1);(r.1,f.1,if r.2=true then 5 else 6,f.2.2))
 else if f.2.1=5 then (bP m (Ju c f.2.2.1) (oh f.2.2.2.2.1 1),eF f 1 f.2.2.2.1)
 else (bP m (Ju c f.2.2.1) (oh f.2.2.2.2.1 1),eF f 3 0)
def rL (c:CF) (m:List Int) (f:FR):List Int×FR:=
 if rU c m f 2 4=false then (m,f)
 else if f.2.1=0 then (m,f.1,1,f.2.2.1,f.2.2.2.1,f.2.2.2.2.1,aM m (Jc c f.2.2.1),f.2.2.2.2.2.2)
 else if f.2.1=1 then (if Gk (aM m (Ju c f.2.2.1)) f.2.2.2.2.2.1≤0 then (m,eF f 3 0) else (m,f.1,2,f.2.2.1,f.2.2.2.1,aM m (Ju c f.2.2.1),f.2.2.2.2.2))
 else if f.2.1=2 then (m,f.1,3,f.2.2.1,aM m (xq c f.2.2.1 f.2.2.2.2.2.1),f.2.2.2.2)
 else (let r:=xj m (Jc c f.2.2.1) f.2.2.2.2.2.1 (oh f.2.2.2.2.2.1 1);if r.2=true then (r.1,eF f 1 f.2.2.2.1) else (r.1,eF f 4 0))
def IZ (c:CF) (m:List Int) (f:FR):List Int×FR:=if f.1=0 then Da c m f else if f.1=1 then Q7 c m f else if f.1=2 then rL c m f else (m,f)
def iM (c:CF) (m:List Int) (f:FR):List Int×FR:=if f.1=0∨f.1=1∨f.1=2 then IZ c m f else nd c m f
theorem aaZ (a b:Int):IntKind.u64.wrap (a - b)=V9 a b:=by rw [AW];rfl
theorem PN (a b:Int):0≤V9 a b∧V9 a b≤18446744073709551615:=by unfold V9;omega
theorem F1 {x D:Int} (h0:0≤x) (h1:x≤18446744073709551615) (hD:1≤D) (hE:D≤16):0≤w8 .u64 x (D - 1)∧w8 .u64 x (D - 1)≤D - 1:=by
 obtain ⟨a,rfl⟩:=Int.eq_ofNat_of_zero_le h0
 obtain ⟨b,hb⟩:∃ b:Nat,D - 1=(b:Int):=⟨(D - 1).toNat,by omega⟩
 rw [hb,ab3 (by omega) (by omega)]
 have:=Nat.and_le_right (n:=a) (m:=b)
 omega
theorem Ne (c:CF) (w:Int):gX c w=some (Jc c w):=by
 unfold gX Jc onW
 try simp only [Prod.eta]
 rw [gi,af]
 cases h:gh c with
 | false=>simp
 | true=>
  have hm:=bO h
  rw [Bool.not_true,cond_false,eD (by omega),Vl,af]
  by_cases h1:0≤w∧w≤c.1 - 1
  ·have ht:=ic h h1.1 (by omega)
   rw [decide_eq_true h1,Bool.not_true,cond_false,DG h (by omega) (by omega),af,if_pos ⟨rfl,by omega,by omega⟩,Int.add_zero]
  ·rw [decide_eq_false h1,Bool.not_false,cond_true,if_neg (by omega)]
theorem K6 (c:CF) (w:Int):dq c w=some (Ju c w):=by
 unfold dq Ju onW
 try simp only [Prod.eta]
 rw [gi,af]
 cases h:gh c with
 | false=>simp
 | true=>
  have hm:=bO h
  rw [Bool.not_true,cond_false,eD (by omega),Vl,af]
  by_cases h1:0≤w∧w≤c.1 - 1
  ·have ht:=ic h h1.1 (by omega)
   rw [decide_eq_true h1,Bool.not_true,cond_false,DG h (by omega) (by omega),af,eD (by omega),if_pos ⟨rfl,by omega,by omega⟩]
  ·rw [decide_eq_false h1,Bool.not_false,cond_true,if_neg (by omega)]
theorem Ka (c:CF) (w:Int) {x:Int} (h0:0≤x) (hx:x≤18446744073709551615):fR c w x=some (xq c w x):=by
 unfold fR xq onW
 try simp only [Prod.eta]
 rw [gi,af]
 cases h:gh c with
 | false=>simp
 | true=>
  have hm:=bO h
  rw [Bool.not_true,cond_false,eD (z:=c.1 - 1) (by omega),Vl,af]
  by_cases h1:0≤w∧w≤c.1 - 1
  ·have ht:=ic h h1.1 (by omega)
   have ha:=F1 h0 hx (show 1≤c.2.1 by omega) (by omega)
   rw [decide_eq_true h1,Bool.not_true,cond_false,DG h (by omega) (by omega),af,if_pos ⟨rfl,by omega,by omega⟩,eD (z:=c.2.1 - 1) (by omega),kL (z:=c.2.1 - 1) (by omega) (by omega),eD (z:=w8 .u64 x (c.2.1 - 1)) (by omega),eD (z:=EK c w+3) (by omega),eD (by omega),Int.add_assoc]
  ·rw [decide_eq_false h1,Bool.not_false,cond_true,if_neg (by omega)]
section
variable (k:Nat) (c:CF) (m:List Int) (a2 a3 a4 a5:Int) (n:Nat) {x:List Int} (p q:Int)
theorem aao:ar k c m (2,1,a2,a3,a4,a5,0) (n+1) x p q 0=ar k c m (2,1,a2,a3,a4,a5,0) n x p q 1:=by
 rw [ar]
 rfl
theorem YK:ar k c m (2,2,a2,a3,a4,a5,0) (n+1) x p q 0=ar k c m (2,2,a2,a3,a4,a5,0) n x p q 1:=by
 rw [ar]
 rfl
theorem Yp:ar k c m (2,2,a2,a3,a4,a5,0) (n+1) x p q 1=ar k c m (2,2,a2,a3,a4,a5,0) n x p q 2:=by
 rw [ar]
 rfl
theorem aax:ar k c m (2,3,a2,a3,a4,a5,0) (n+1) x p q 0=ar k c m (2,3,a2,a3,a4,a5,0) n x p q 1:=by
 rw [ar]
 rfl
theorem abD:ar k c m (2,3,a2,a3,a4,a5,0) (n+1) x p q 1=ar k c m (2,3,a2,a3,a4,a5,0) n x p q 2:=by
 rw [ar]
 rfl
theorem ZD:ar k c m (2,3,a2,a3,a4,a5,0) (n+1) x p q 2=ar k c m (2,3,a2,a3,a4,a5,0) n x p q 3:=by
 rw [ar]
 rfl
theorem Yy:ar k c m (2,0,a2,a3,a4,a5,0) (n+1) x p q 0=some (x,(2,1,a2,a3,a4,aM x p,0)):=by
 have e:ar k c m (2,0,a2,a3,a4,a5,0) (n+1) x p q 0=ob (aI x p) fun r=>some (x,(2,1,a2,a3,a4,r,0)):=by
  rw [ar]
  rfl
 rw [e,ej,af]
theorem Y3:ar k c m (2,1,a2,a3,a4,a5,0) (n+1) x p q 1=some (if Gk (aM x q) a5≤0 then (x,(2,0,a2,0,0,0,3)) else (x,(2,2,a2,a3,aM x q,a5,0))):=by
 have e:ar k c m (2,1,a2,a3,a4,a5,0) (n+1) x p q 1=ob (aI x q) fun r=>ob (fe r a5) fun y=>bif decide (y≤0) then some (x,(2,0,a2,0,0,0,3)) else some (x,(2,2,a2,a3,r,a5,0)):=by
  rw [ar]
  rfl
 rw [e,ej,af,Mh,af]
 by_cases h:Gk (aM x q) a5≤0
 ·rw [leT h,cond_true,if_pos h]
 ·rw [leF (by omega),cond_false,if_neg h]
theorem Yj (h0:0≤a5) (h1:a5≤18446744073709551615):ar k c m (2,2,a2,a3,a4,a5,0) (n+1) x p q 2=some (x,(2,3,a2,aM x (xq c a2 a5),a4,a5,0)):=by
 have e:ar k c m (2,2,a2,a3,a4,a5,0) (n+1) x p q 2=ob (fR c a2 a5) fun s=>ob (aI x s) fun r=>some (x,(2,3,a2,r,a4,a5,0)):=by
  rw [ar]
  rfl
 rw [e,Ka c a2 h0 h1,af,ej,af]
theorem Y0 (hl:x.length≤1000):ar k c m (2,3,a2,a3,a4,a5,0) (n+1) x p q 3=some (if (xj x p a5 (oh a5 1)).2=true then ((xj x p a5 (oh a5 1)).1,(2,0,a2,a3,0,0,1)) else ((xj x p a5 (oh a5 1)).1,(2,0,a2,0,0,0,4))):=by
 have e:ar k c m (2,3,a2,a3,a4,a5,0) (n+1) x p q 3=ob (dj x p a5 (IntKind.u64.wrap (a5+1))) fun r=>bif r.2 then some (r.1,(2,0,a2,a3,0,0,1)) else some (r.1,(2,0,a2,0,0,0,4)):=by
  rw [ar]
  rfl
 rw [e,wP,Ge hl,af]
 cases (xj x p a5 (oh a5 1)).2 <;> rfl
end
section
variable (c:CF) {m:List Int} (hm:Wm m) (hl:m.length≤1000) {f:FR} (hf:Wf f)
include hm hl hf
theorem IA:kr c m f=some (Da c m f):=by
 have _h:=hm
 unfold kr Da
 try simp only [Prod.eta]
 rw [bu (by omega),af,Hs,af]
 cases h:rU c m f 0 4 with
 | false=>rfl
 | true=>
  obtain ⟨hmay,_,h6,h2,h2',h0,h1,h1'⟩:=BC h
  have hc:=bO hmay
  rw [cond_true,if_neg (by simp)]
  obtain ⟨a0,a1,a2,a3,a4,a5,a6⟩:=f
  simp only at h6 h2 h2' h0 h1 h1' ⊢
  obtain ⟨w3,w4,w5⟩:=hf
  simp only at w3 w4 w5
  rcases (show a1=0∨a1=1∨a1=2∨a1=3 by omega) with rfl | rfl | rfl | rfl
  ·simp [K6,ej,af]
  ·simp only [Ne,ej,af,ik,aaZ,kL (z:=c.2.1) (by omega) (by omega)]
   by_cases h5:c.2.1≤V9 a4 (aM m (Jc c a2))
   ·simp [h5,eF]
   ·simp [h5]
  ·simp only [Ka c a2 w4.1 w4.2,kc hl,af]
   simp
  ·simp only [K6,kc hl,af,ik,wP]
   simp [eF]
theorem Lv:ld c m f=some (Q7 c m f):=by
 have _h:=hm
 unfold ld Q7
 try simp only [Prod.eta]
 rw [bu (by omega),af,Hs,af]
 cases h:rU c m f 1 7 with
 | false=>rfl
 | true=>
  obtain ⟨hmay,_,h6,h2,h2',h0,h1,h1'⟩:=BC h
  rw [Bool.not_true,cond_false,if_neg (by simp)]
  obtain ⟨a0,a1,a2,a3,a4,a5,a6⟩:=f
  simp only at h6 h2 h2' h0 h1 h1' ⊢
  obtain ⟨w3,w4,w5⟩:=hf
  simp only at w3 w4 w5
  rw [Ne,af,K6,af]
  have hw:∀ z:Int,0≤z→z≤100→IntKind.i64.wrap (z+1)=z+1:=fun z _ _=>eD (by omega)
  rcases (show a1=0∨a1=1∨a1=2∨a1=3∨a1=4∨a1=5∨a1=6 by omega) with rfl | rfl | rfl | rfl | rfl | rfl | rfl
  ·rw [hw 0 (by decide) (by decide)]
   simp [ej,af,aaZ]
  ·rw [hw 1 (by decide) (by decide)]
   simp [kc hl,af]
  ·rw [hw 2 (by decide) (by decide)]
   simp only [ej,af,Mh]
   by_cases h5:Gk a4 (aM m (Jc c a2))<0
   ·simp [h5]
   ·simp [h5]
  ·rw [hw 3 (by decide) (by decide)]
   simp only [Ka c a2 w4.1 w4.2,ej,af,ik,A5]
   by_cases h5:a4=a5
   ·simp [h5]
   ·simp [h5,eF]
  ·rw [hw 4 (by decide) (by decide)]
   simp only [wP,Ge hl,af]
   cases hc:(xj m (Jc c a2) a5 (oh a5 1)).2 <;> simp [hc]
  ·simp only [wP,kc hl,af,ik]
   simp [eF]
  ·simp only [wP,kc hl,af,ik]
   simp [eF]
theorem FM (k:Nat):gU k c m f=some (rL c m f):=by
 have _h:=hm
 unfold gU rL
 try simp only [Prod.eta]
 rw [bu (by omega),af,Hs,af]
 cases h:rU c m f 2 4 with
 | false=>rfl
 | true=>
  obtain ⟨hmay,_,h6,h2,h2',h0,h1,h1'⟩:=BC h
  rw [Bool.not_true,cond_false,if_neg (by simp)]
  obtain ⟨a0,a1,a2,a3,a4,a5,a6⟩:=f
  simp only at h6 h2 h2' h0 h1 h1' ⊢
  obtain ⟨w3,w4,w5⟩:=hf
  simp only at w3 w4 w5
  subst h6
  subst h0
  rw [Ne,af,K6,af]
  rcases (show a1=0∨a1=1∨a1=2∨a1=3 by omega) with rfl | rfl | rfl | rfl
  ·rw [if_pos rfl]
   exact Yy k c m a2 a3 a4 a5 (k+22) _ _
  ·rw [if_neg (by decide),if_pos rfl]
   exact (aao k c m a2 a3 a4 a5 (k+22) _ _).trans (Y3 k c m a2 a3 a4 a5 (k+21) _ _)
  ·rw [if_neg (by decide),if_neg (by decide),if_pos rfl]
   exact (YK k c m a2 a3 a4 a5 (k+22) _ _).trans ((Yp k c m a2 a3 a4 a5 (k+21) _ _).trans (Yj k c m a2 a3 a4 a5 (k+20) _ _ w5.1 w5.2))
  ·rw [if_neg (by decide),if_neg (by decide),if_neg (by decide)]
   exact (aax k c m a2 a3 a4 a5 (k+22) _ _).trans ((abD k c m a2 a3 a4 a5 (k+21) _ _).trans ((ZD k c m a2 a3 a4 a5 (k+20) _ _).trans (Y0 k c m a2 a3 a4 a5 (k+19) _ _ hl)))
theorem Ij (k:Nat):eI k c m f=some (IZ c m f):=by
 unfold eI IZ
 simp only [Prod.eta,IA c hm hl hf,Lv c hm hl hf,FM c hm hl hf,af,mg]
 by_cases h0:f.1=0
 ·simp [h0]
 ·by_cases h1:f.1=1
  ·simp [h1]
  ·by_cases h2:f.1=2
   ·simp [h2]
   ·simp [h0,h1,h2,bu (b:=8) (l:=m) (by omega),af]
end
end Go.Ab
set_option maxRecDepth 100000
set_option linter.unusedVariables false
namespace Go.Ab
structure FwT (t:Tyt):Prop where
 len:t.length≤40
 kids:∀ x ∈ t,x.2.length≤40
theorem XL {t:Tyt} (h:YG t=true):FwT t:=by
 simp only [YG,Bool.and_eq_true,decide_eq_true_eq,List.all_eq_true] at h
 refine ⟨h.2,fun x hx=>h.1 x ?_⟩
 rwa [List.take_of_length_le (by omega)]
theorem FwT.wt {t:Tyt} (h:FwT t):Wt t:=⟨by have:=h.len;omega,fun x hx=>by have:=h.kids x hx;omega⟩
def oi (t:Tyt) (q:Int):Int×List Int:=(t[q.toNat]?).getD (0,[])
def Cy (t:Tyt) (x:Int×Int×Int):Bool:=
 decide (0≤x.1)&&decide (x.1<t.length)&&(decide (0≤x.2.1)&&decide (x.2.1≤(oi t x.1).1))&&(decide (0≤x.2.2)&&decide (x.2.2≤((oi t x.1).2.length:Int))) &&
  !(decide (x.2.1<(oi t x.1).1)&&decide (0<x.2.2))
def dh (t:Tyt) (s:Tye):Bool:=wM t&&s.all (Cy t)
theorem JQ {t:Tyt} {q:Int} (h0:0≤q) (h1:q<t.length):idx t q=some (oi t q):=by
 rw [idx,if_pos h0,oi,List.getElem?_eq_getElem (by omega)]
 rfl
theorem Bd {t:Tyt} {q:Int} (h0:0≤q) (h1:q<t.length):oi t q ∈ t:=by
 rw [oi,List.getElem?_eq_getElem (show q.toNat<t.length by omega)]
 exact List.getElem_mem _
theorem Kd {α:Type} (b:Nat) (l:List α) (h:l.length*b≤70368744177664):aL b l=some l:=by
 unfold aL
 rw [agP,decide_eq_true h,br]
theorem ZP (a b:Int):fV a b=some (decide (0≤a)&&decide (a≤b)):=by
 rw [fV]
 cases decide ((0:Int)≤a) <;> rfl
section
variable (k:Nat) (hk:9223372036854775808≤k)
include hk
theorem K7 (t:Tyt) (ht:Wt t) (s:Tye) (hs:s.length≤9223372036854775807):fM k t s=some (dh t s):=by
 have hlen:=ht.len
 rw [fM,Io k hk t ht,af,dh]
 cases hm:wM t with
 | false=>rfl
 | true=>
  have h30:=Lt hm
  rw [cond_true,Fx (F:=fun n i=>bQ k n s (s.length:Int) t i) (l:=s) (fun x => !Cy t x) ?_ ?_ _ (by omega),af,nN]
  ·rw [List.all_eq_not_any_not,Bool.true_and]
  ·intro n
   simp only [bQ,rF,cond_false]
  ·intro n i x hi hx
   simp only [bQ,ltN hi,cond_true,fU hx,af,ZP]
   rw [fY (by omega),eD (z:=(t.length:Int) - 1) (by omega)]
   have e0:decide (x.1≤(t.length:Int) - 1)=decide (x.1<(t.length:Int)):=by
    by_cases h:x.1<(t.length:Int)
    ·rw [decide_eq_true h,decide_eq_true (by omega)]
    ·rw [decide_eq_false h,decide_eq_false (by omega)]
   rw [e0]
   unfold Cy
   by_cases h0:0≤x.1
   ·by_cases h1:x.1<(t.length:Int)
    ·rw [leT h0,ltT h1,JQ h0 h1,af]
     simp only [Bool.and_self,Bool.not_true,cond_false,Bool.true_and]
     cases (decide (0≤x.2.1)&&decide (x.2.1≤(oi t x.1).1)) with
     | false=>rfl
     | true=>
      cases (decide (0≤x.2.2)&&decide (x.2.2≤((oi t x.1).2.length:Int))) with
      | false=>rfl
      | true=>
       cases decide (x.2.1<(oi t x.1).1) with
       | false=>rfl
       | true=>cases decide (0<x.2.2) <;> rfl
    ·rw [ltF (show (t.length:Int)≤x.1 by omega)]
     simp
   ·rw [leF (show x.1<0 by omega)]
    simp
end
def w7 (t:Tyt) (s:Tye):Int×Int:=
 match s.getLast? with
 | none=>(0,0)
 | some x=>if dh t s=false then (0,0) else if x.2.1<(oi t x.1).1 then (1,x.1) else if x.2.2<((oi t x.1).2.length:Int) then (2,((oi t x.1).2[x.2.2.toNat]?).getD 0) else (3,x.1)
def doB (t:Tyt) (s:Tye):Tye:=
 match s.getLast? with
 | none=>s
 | some x=>if dh t s=false then s else if x.2.1<(oi t x.1).1 then s.dropLast++[(x.1,x.2.1+1,x.2.2)] else if x.2.2<((oi t x.1).2.length:Int) then s.dropLast++[(x.1,x.2.1,x.2.2+1)] else s.dropLast
def oT (t:Tyt) (s:Tye) (q:Int):Tye:=
 if dh t s=true∧0≤q∧q<t.length then s++[(q,0,0)] else s
def MM (t:Tyt) (x:Int×Int×Int):Int:=(oi t x.1).1 - x.2.1+((oi t x.1).2.length:Int) - x.2.2+1
def IC (t:Tyt) (s:Tye):Int:=if dh t s=true then (s.map (MM t)).sum else 0
theorem mT {α:Type} (s:List α):s=[]∨∃ r x,s=r++[x]:=by
 rcases List.eq_nil_or_concat s with h | ⟨r,x,h⟩
 ·exact .inl h
 ·exact .inr ⟨r,x,by rw [h,List.concat_eq_append]⟩
theorem Hv {α:Type} (r:List α) (x:α):(((r++[x]).length:Nat):Int) - 1=(r.length:Int):=by simp
theorem Ho {α:Type} (r:List α) (x:α):(r++[x])[r.length]? = some x:=by simp
theorem PR {α:Type} (r:List α) (x y:α):(r++[x]).set r.length y=r++[y]:=by simp
theorem Kl {α:Type} (r:List α) (x:α):(r++[x]).take r.length=r:=by simp
theorem xE (t:Tyt) (r:Tye) (x:Int×Int×Int):w7 t (r++[x])=if dh t (r++[x])=false then (0,0) else if x.2.1<(oi t x.1).1 then (1,x.1) else if x.2.2<((oi t x.1).2.length:Int) then (2,((oi t x.1).2[x.2.2.toNat]?).getD 0) else (3,x.1):=by
 simp [w7]
theorem BW (t:Tyt) (r:Tye) (x:Int×Int×Int):doB t (r++[x])=if dh t (r++[x])=false then r++[x] else if x.2.1<(oi t x.1).1 then r++[(x.1,x.2.1+1,x.2.2)] else if x.2.2<((oi t x.1).2.length:Int) then r++[(x.1,x.2.1,x.2.2+1)] else r:=by
 simp [doB]
theorem Tz (t:Tyt) (s:Tye):(doB t s).length≤s.length:=by
 rcases mT s with rfl | ⟨r,x,rfl⟩
 ·simp [doB]
 ·rw [BW]
  split
  ·exact Nat.le_refl _
  ·split
   ·simp
   ·split <;> simp
theorem Iw (t:Tyt) (s:Tye) (q:Int):(oT t s q).length≤s.length+1:=by
 unfold oT
 split <;> simp
structure It (t:Tyt) (x:Int×Int×Int):Prop where
 h0:0≤x.1
 h1:x.1<t.length
 d0:0≤x.2.1
 d1:x.2.1≤(oi t x.1).1
 c0:0≤x.2.2
 c1:x.2.2≤((oi t x.1).2.length:Int)
 z:x.2.1<(oi t x.1).1→x.2.2=0
theorem RC {t:Tyt} {x:Int×Int×Int}:Cy t x=true↔It t x:=by
 simp only [Cy,Bool.and_eq_true,decide_eq_true_eq,Bool.not_eq_true',Bool.and_eq_false_iff,decide_eq_false_iff_not]
 constructor
 ·rintro ⟨⟨⟨⟨a,b⟩,c,d⟩,e,f⟩,g⟩
  exact ⟨a,b,c,d,e,f,fun h=>by rcases g with g | g <;> omega⟩
 ·rintro ⟨a,b,c,d,e,f,g⟩
  refine ⟨⟨⟨⟨a,b⟩,c,d⟩,e,f⟩,?_⟩
  by_cases h:x.2.1<(oi t x.1).1
  ·exact .inr (by have:=g h;omega)
  ·exact .inl h
theorem gt {t:Tyt} {r:Tye} {x:Int×Int×Int}:dh t (r++[x])=true↔wM t=true∧(∀ y ∈ r,It t y)∧It t x:=by
 simp only [dh,Bool.and_eq_true,List.all_eq_true,List.mem_append,List.mem_singleton,RC]
 constructor
 ·rintro ⟨a,b⟩
  exact ⟨a,fun y hy=>b y (.inl hy),b x (.inr rfl)⟩
 ·rintro ⟨a,b,c⟩
  refine ⟨a,fun y hy => ?_⟩
  rcases hy with h | rfl
  ·exact b y h
  ·exact c
theorem lQ {t:Tyt} {r:Tye}:dh t r=true↔wM t=true∧(∀ y ∈ r,It t y):=by
 simp only [dh,Bool.and_eq_true,List.all_eq_true,RC]
section
variable (k:Nat) (hk:9223372036854775808≤k)
include hk
theorem LX (t:Tyt) (ht:Wt t) (s:Tye) (hs:s.length≤1048576):dU k t s=some (w7 t s):=by
 rw [dU]
 rcases mT s with rfl | ⟨r,x,rfl⟩
 ·rfl
 ·have hr:r.length+1≤1048576:=by simpa using hs
  have e1:((((r++[x]).length:Nat):Int)==0)=false:=by simp;omega
  rw [e1,cond_false,K7 k hk t ht _ (by omega),af,xE]
  cases h:dh t (r++[x]) with
  | false=>rfl
  | true=>
   obtain ⟨hm,hr',hx⟩:=gt.1 h
   have hl:=ht.kids _ (Bd hx.h0 hx.h1)
   rw [Bool.not_true,cond_false,Hv,eD (by omega),fU (Ho r x),af,JQ hx.h0 hx.h1,af,if_neg (show ¬ (true=false) by simp)]
   by_cases h1:x.2.1<(oi t x.1).1
   ·rw [ltT h1,cond_true,if_pos h1]
   ·rw [ltF (by omega),cond_false,if_neg h1]
    by_cases h2:x.2.2<((oi t x.1).2.length:Int)
    ·have:=hx.c0
     rw [ltT h2,cond_true,if_pos h2,idx,if_pos hx.c0,List.getElem?_eq_getElem (by omega),af]
     rfl
    ·rw [ltF (by omega),cond_false,if_neg h2]
theorem agc (t:Tyt) (ht:Wt t) (s:Tye) (hs:s.length≤1048576):fW k t s=some (doB t s):=by
 rw [fW,Kd _ _ (by omega),af,LX k hk t ht s hs,af]
 rcases mT s with rfl | ⟨r,x,rfl⟩
 ·rfl
 ·have hr:r.length+1≤1048576:=by simpa using hs
  rw [Hv,eD (by omega),xE,BW,Int.toNat_natCast,Ho,Kl]
  simp only [PR,af]
  have e1:decide ((0:Int)≤(r.length:Int)∧r.length<(r++[x]).length)=true:=by simp
  have e2:decide ((0:Int)≤(r.length:Int)∧r.length≤(r++[x]).length)=true:=by simp
  have e3:decide (r.length≤(r++[x]).length)=true:=by simp
  rw [e1,e2,e3]
  cases h:dh t (r++[x]) with
  | false=>rfl
  | true=>
   obtain ⟨hm,hr',hx⟩:=gt.1 h
   have hw:=(Q3 hm).work _ (Bd hx.h0 hx.h1)
   have hl:=ht.kids _ (Bd hx.h0 hx.h1)
   have:=hx.d0
   have:=hx.c0
   rw [if_neg (show ¬ (true=false) by simp),if_neg (show ¬ (true=false) by simp)]
   by_cases h1:x.2.1<(oi t x.1).1
   ·rw [if_pos h1,if_pos h1]
    simp only [beq_self_eq_true,cond_true]
    rw [eD (by omega)]
   ·rw [if_neg h1,if_neg h1]
    by_cases h2:x.2.2<((oi t x.1).2.length:Int)
    ·rw [if_pos h2,if_pos h2]
     simp only [Int.reduceBEq,cond_true,cond_false]
     rw [eD (by omega)]
    ·rw [if_neg h2,if_neg h2]
     rfl
theorem O2 (t:Tyt) (ht:Wt t) (s:Tye) (hs:s.length≤1048576) (q:Int):dv k t s q=some (oT t s q):=by
 have hlen:=ht.len
 rw [dv,Kd _ _ (by omega),af,K7 k hk t ht s (by omega),af,oT]
 cases h:dh t s with
 | false=>simp
 | true=>
  have h30:=Lt (lQ.1 h).1
  rw [Bool.not_true,cond_false,ZP,af,eD (by omega)]
  by_cases h0:0≤q
  ·by_cases h1:q<t.length
   ·have e2:room (s++[(q,(0:Int),(0:Int))]).length 24=true:=ur (by simp;omega)
    rw [leT h0,leT (show q≤(t.length:Int) - 1 by omega),Bool.and_self,Bool.not_true,cond_false,e2,cond_true,if_pos ⟨rfl,h0,h1⟩]
   ·rw [leF (show (t.length:Int) - 1<q by omega),if_neg (by omega)]
    simp
  ·rw [leF (show q<0 by omega),if_neg (by omega)]
   simp
end
theorem aaY {t:Tyt} {q:Int} (hm:wM t=true) (h0:0≤q) (h1:q<t.length):It t (q,0,0):=
 ⟨h0,h1,by simp,((Q3 hm).work _ (Bd h0 h1)).1,by simp,by simp,fun _=>rfl⟩
theorem us {t:Tyt} {r:Tye} {x:Int×Int×Int} (h:dh t (r++[x])=true):IC t (r++[x])=IC t r+MM t x:=by
 obtain ⟨a,b,c⟩:=gt.1 h
 rw [IC,if_pos h,IC,if_pos (lQ.2 ⟨a,b⟩),List.map_append,List.sum_append]
 simp
theorem QG {t:Tyt} {r:Tye} {x:Int×Int×Int} (h:dh t (r++[x])=true):dh t (doB t (r++[x]))=true∧IC t (doB t (r++[x]))=IC t (r++[x]) - 1:=by
 obtain ⟨a,b,c⟩:=gt.1 h
 obtain ⟨q0,q1,q2,q3,q4,q5,q6⟩:=c
 rw [us h,BW,if_neg (by simp [h])]
 split
 ·rename_i h1
  have h2:dh t (r++[(x.1,x.2.1+1,x.2.2)])=true:=gt.2 ⟨a,b,⟨q0,q1,by simp only;omega,by simp only;omega,q4,q5,fun _=>q6 h1⟩⟩
  refine ⟨h2,?_⟩
  rw [us h2]
  unfold MM
  simp only
  omega
 ·rename_i h1
  split
  ·rename_i h3
   have h2:dh t (r++[(x.1,x.2.1,x.2.2+1)])=true:=gt.2 ⟨a,b,⟨q0,q1,q2,q3,by simp only;omega,by simp only;omega,fun h=>absurd h h1⟩⟩
   refine ⟨h2,?_⟩
   rw [us h2]
   unfold MM
   simp only
   omega
  ·rename_i h3
   refine ⟨lQ.2 ⟨a,b⟩,?_⟩
   unfold MM
   omega
end Go.Ab
set_option linter.unusedVariables false
namespace Go.Ab
abbrev WB:=Int×Tye×FR×Int×Int
def Fu (op w v:Int):FR:=(op,0,w,v,0,0,0)
def eg (c:CF) (t:Tyt) (m:List Int) (w:Int) (x:WB):Bool:=gh c&&decide ((m.length:Int)=dg c)&&wM t&&decide (0≤w∧w<c.1∧0≤x.1∧x.1<16)&&dh t x.2.1
def Kf (d w W:Int):Int:=if W<2∨w<0∨W≤w then -1 else (w+1+d%(W - 1))%W
def toW (pc:Int) (x:WB):WB:=(pc,x.2.1,dY,x.2.2.2)
def mu (pc op w v:Int) (x:WB):WB:=(pc,x.2.1,Fu op w v,x.2.2.2)
def Br:Int:=18446744073709551615
def M5 (v:Int):Int:=IntKind.i64.wrap v
abbrev WR:=List Int×WB×List EV
def Lq (c:CF) (t:Tyt) (m:List Int) (w:Int) (x:WB):WR:=
 let r:=iM c m x.2.2.1
 if gL r.2=false then (r.1,(x.1,x.2.1,r.2,x.2.2.2),[])
 else if r.2.2.2.2.2.2.2≠1 then (r.1,toW 1 x,[])
 else (r.1,(9,oT t x.2.1 (M5 r.2.2.2.2.1),dY,x.2.2.2),[(2,M5 r.2.2.2.2.1,w)])
def xm (c:CF) (m:List Int) (w:Int) (x:WB):WR:=(bP m 1 (oh (aM m 1) 1),(2,x.2.1,Fu 4 w 0,c.2.2.2,x.2.2.2.2),[])
def pN (c:CF) (m:List Int) (w:Int) (x:WB) (d:Int):WR:=
 let r:=iM c m x.2.2.1
 if gL r.2=false then (r.1,(x.1,x.2.1,r.2,x.2.2.2),[])
 else if r.2.2.2.2.2.2.2=1 then (r.1,(4,x.2.1,r.2,x.2.2.2),[])
 else if x.1=2∧0≤Kf d w c.1 then (r.1,mu 3 2 (Kf d w c.1) 0 x,[])
 else if x.2.2.2.1≤0 then (r.1,mu 5 5 w 0 x,[])
 else (r.1,(2,x.2.1,Fu 4 w 0,x.2.2.2.1 - 1,x.2.2.2.2),[])
def mn (t:Tyt) (m:List Int) (w:Int) (x:WB):WR:=
 (bP m 1 (oh (aM m 1) Br),(if aM m 1=1 then 14 else 9,oT t x.2.1 (M5 x.2.2.1.2.2.2.1),if aM m 1=1 then Fu 6 w 0 else dY,x.2.2.2),[(2,M5 x.2.2.1.2.2.2.1,w)])
def wX (c:CF) (m:List Int) (x:WB):WR:=let r:=iM c m x.2.2.1;(r.1,(6,x.2.1,r.2,x.2.2.2),[])
def nr (m:List Int) (x:WB):WR:=(bP m 1 (oh (aM m 1) Br),(7,x.2.1,x.2.2.1,x.2.2.2.1,0),[])
def Fc (f:FR) (v:Int):FR:=(f.1,f.2.1,f.2.2.1,v,f.2.2.2.2)
def fj (c:CF) (m:List Int) (x:WB):WR:=
 let k:=x.2.2.2.2
 let most:=2+2*c.1
 let v:=(k - 2)/2
 if k<0∨most≤k then (m,(8,x.2.1,Fc x.2.2.1 0,x.2.2.2.1,0),[])
 else
  let f:=if k=0 then Fc x.2.2.1 (aM m 4) else if k=1 then x.2.2.1 else if k%2=0 then Fc x.2.2.1 (aM m (Jc c v)) else x.2.2.1
  let some:=if k=0 then false else if k=1 then decide (aM m 5≠f.2.2.2.1) else if k%2=0 then false else decide (0<Gk (aM m (Ju c v)) f.2.2.2.1)
  if some=true then (m,toW 1 x,[])
  else if k+1=most then (m,(8,x.2.1,Fc f 0,x.2.2.2.1,0),[])
  else (m,(7,x.2.1,f,x.2.2.2.1,k+1),[])
def kv (c:CF) (m:List Int) (x:WB):WR:=let r:=iM c m x.2.2.1;if gL r.2=true then (r.1,toW 1 x,[]) else (r.1,(x.1,x.2.1,r.2,x.2.2.2),[])
def MP (t:Tyt) (m:List Int) (w:Int) (x:WB):WR:=
 let a:=w7 t x.2.1
 if a.1=1 then (m,(x.1,doB t x.2.1,x.2.2),[]) else if a.1=2 then (m,(10,x.2),[]) else if a.1=3 then (m,(15,x.2),[]) else (m,mu 0 1 w 0 x,[])
def xa (t:Tyt) (m:List Int) (w:Int) (x:WB):WR:=
 let a:=w7 t x.2.1
 if a.1≠2 then (m,toW 9 x,[]) else (bP m 0 (oh (aM m 0) 1),(11,doB t x.2.1,Fu 0 w (IntKind.u64.wrap a.2),x.2.2.2),[(3,a.2,w)])
def uV (c:CF) (m:List Int) (w:Int) (x:WB):WR:=
 let r:=iM c m x.2.2.1
 if gL r.2=false then (r.1,(x.1,x.2.1,r.2,x.2.2.2),[]) else if r.2.2.2.2.2.2.2=2 then (r.1,mu 12 3 w r.2.2.2.2.1 x,[]) else (r.1,toW 13 x,[])
def ux (c:CF) (t:Tyt) (m:List Int) (w:Int) (x:WB):WR:=
 let r:=iM c m x.2.2.1
 if gL r.2=false then (r.1,(x.1,x.2.1,r.2,x.2.2.2),[])
 else if r.2.2.2.2.2.2.2=2 then (r.1,(9,oT t x.2.1 (M5 r.2.2.2.2.1),dY,x.2.2.2),[(2,M5 r.2.2.2.2.1,w)]) else (r.1,toW 13 x,[])
def Jr (m:List Int) (w:Int) (x:WB):WR:=if aM m 1=0 then (m,mu 14 6 w 0 x,[]) else (m,toW 9 x,[])
def wu (c:CF) (m:List Int) (x:WB):WR:=let r:=iM c m x.2.2.1;if gL r.2=true then (r.1,toW 9 x,[]) else (r.1,(x.1,x.2.1,r.2,x.2.2.2),[])
def uN (t:Tyt) (m:List Int) (w:Int) (x:WB):WR:=
 let a:=w7 t x.2.1
 if a.1≠3 then (m,toW 9 x,[])
 else (bP m 0 (oh (aM m 0) Br),(if doB t x.2.1=[] then (0,[],Fu 1 w 0,x.2.2.2) else (9,doB t x.2.1,dY,x.2.2.2)),if aM m 0=1 then [(4,a.2,w),(5,0,w)] else [(4,a.2,w)])
def cp (c:CF) (t:Tyt) (m:List Int) (w:Int) (x:WB) (d:Int):WR:=
 if eg c t m w x=false then (m,x,[])
 else if x.1=0 then Lq c t m w x else if x.1=1 then xm c m w x else if x.1=2∨x.1=3 then pN c m w x d else if x.1=4 then mn t m w x
 else if x.1=5 then wX c m x else if x.1=6 then nr m x else if x.1=7 then fj c m x else if x.1=8 then kv c m x
 else if x.1=9 then MP t m w x else if x.1=10 then xa t m w x else if x.1=11 then uV c m w x else if x.1=12 then ux c t m w x
 else if x.1=13 then Jr m w x else if x.1=14 then wu c m x else uN t m w x
theorem YR {d w W:Int} (hd:0≤d∧d≤18446744073709551615) (hW:W≤8):eV d w W=some (Kf d w W):=by
 unfold eV Kf
 by_cases h2:W<2
 ·rw [ltT h2,cond_true,if_pos (.inl h2)]
 ·rw [ltF (by omega),cond_false]
  unfold cC
  by_cases h0:0≤w
  ·rw [leT h0,cond_true]
   by_cases h1:w<W
   ·rw [ltT h1,af,Bool.not_true,cond_false,if_neg (by omega),kL (z:=W) (by omega) (by omega),kL (z:=W - 1) (by omega) (by omega),kL (z:=w) (by omega) (by omega),kL (z:=w+1) (by omega) (by omega),A5,decide_eq_false (by omega),Bool.not_false,cond_true,A5,decide_eq_false (by omega),Bool.not_false,cond_true,Int.tmod_eq_emod_of_nonneg hd.1]
    have e1:=Int.emod_nonneg d (show W - 1≠0 by omega)
    have e2:=Int.emod_lt_of_pos d (show 0<W - 1 by omega)
    have e3:=Int.emod_nonneg (w+1+d%(W - 1)) (show W≠0 by omega)
    have e4:=Int.emod_lt_of_pos (w+1+d%(W - 1)) (show 0<W by omega)
    rw [kL (by omega) (by omega),Int.tmod_eq_emod_of_nonneg (by omega),eD (by omega)]
   ·rw [ltF (by omega),af,Bool.not_false,cond_true,if_pos (by omega)]
  ·rw [leF (by omega),cond_false,af,Bool.not_false,cond_true,if_pos (by omega)]
theorem Ku {k:Nat} (hk:9223372036854775808≤k) (c:CF) {t:Tyt} (ht:Wt t) (m:List Int) (w:Int) (x:WB) (hs:x.2.1.length≤9000):i7 k c t m w x=some (eg c t m w x):=by
 unfold i7 eg
 simp only [Prod.eta,gi,AH,af]
 rw [Io (k+4) (by omega) t ht,K7 (k+3) (by omega) t ht x.2.1 (by omega)]
 cases hm:gh c with
 | false=>rfl
 | true=>
  rw [cond_true,mg,Bool.true_and]
  by_cases h1:(m.length:Int)=dg c
  ·rw [decide_eq_true h1,cond_true,Bool.true_and,af]
   cases ht2:wM t with
   | false=>rfl
   | true=>
    rw [cond_true,Bool.true_and]
    by_cases h2:0≤w
    ·rw [leT h2,cond_true]
     by_cases h3:w<c.1
     ·rw [ltT h3,cond_true]
      by_cases h4:0≤x.1
      ·rw [leT h4,cond_true]
       by_cases h5:x.1<16
       ·rw [ltT h5,cond_true,af,decide_eq_true ⟨h2,h3,h4,h5⟩,Bool.true_and]
       ·rw [ltF (by omega),cond_false,decide_eq_false (by omega)];rfl
      ·rw [leF (by omega),cond_false,decide_eq_false (by omega)];rfl
     ·rw [ltF (by omega),cond_false,decide_eq_false (by omega)];rfl
    ·rw [leF (by omega),cond_false,decide_eq_false (by omega)];rfl
  ·rw [decide_eq_false h1,cond_false]
   rfl
theorem W2 (w:Int):mS w=some (0,[],Fu 1 w 0,0,0):=rfl
end Go.Ab
set_option linter.unusedVariables false
set_option linter.unusedSimpArgs false
set_option maxRecDepth 100000
set_option maxHeartbeats 4000000
namespace Go.Ab
theorem b6 (op w v:Int):aJ op w v=some (Fu op w v):=rfl
theorem DB:room 1 24=true:=rfl
theorem Zs:room 2 24=true:=rfl
theorem uc {a b:Int} (h:a=b):(a==b)=true:=by simp [h]
theorem bI {a b:Int} (h:a≠b):(a==b)=false:=by simp [h]
theorem I1 (c:CF) (m:List Int) (f:FR):(IZ c m f=iM c m f∧((f.1==0)=true∨(f.1==0)=false∧((f.1==1)=true∨(f.1==1)=false∧(f.1==2)=true)))∨(D9 c m f=iM c m f∧(f.1==0)=false∧(f.1==1)=false∧(f.1==2)=false∧((f.1==3)=true∨(f.1==3)=false∧(f.1==4)=true))∨(Jt c m f=iM c m f∧(f.1==0)=false∧(f.1==1)=false∧(f.1==2)=false∧(f.1==3)=false∧(f.1==4)=false):=by
 unfold iM nd
 simp only [mg,decide_eq_true_eq,decide_eq_false_iff_not]
 by_cases h:f.1=0∨f.1=1∨f.1=2
 ·rw [if_pos h];exact .inl ⟨rfl,by omega⟩
 ·rw [if_neg h]
  by_cases g:f.1=3∨f.1=4
  ·rw [if_pos g];exact .inr (.inl ⟨rfl,by omega⟩)
  ·rw [if_neg g];exact .inr (.inr ⟨rfl,by omega⟩)
section
variable {k:Nat} (hk:9223372036854779000≤k) (c:CF) {t:Tyt} (ht:Wt t) {m:List Int} (hm:Wm m) (hl:m.length≤1000) (w:Int) {x:WB} (hf:Wf x.2.2.1) (hs:x.2.1.length≤9000) (hsp:x.2.2.2.1≤9223372036854775807) {d:Int} (hd:0≤d∧d≤18446744073709551615)
include hk ht hm hl hf hs hsp hd
theorem Uz {β:Type} (K:List Int×FR→Option β):wE k c m x.2.2.1 K=K (iM c m x.2.2.1):=by
 have _h:=And.intro hsp hd
 have _h2:=And.intro ht hs
 have hdk:=Ij c hm hl hf (k+31)
 have hij:=C3 c hm hl hf
 have hev:=DQ (k:=k+40) (by omega) c hm hl hf
 unfold wE
 rcases I1 c m x.2.2.1 with ⟨h,e | ⟨e,e1 | e1⟩⟩ | ⟨h,e,e1,e2,e3 | e3⟩ | ⟨h,e⟩
 all_goals simp only [*,cond_true,cond_false,af]
theorem Qm:gA k c t m w x d=some (cp c t m w x d):=by
 have _h1:=hsp
 have _h2:=hd
 unfold gA
 try simp only [Prod.eta]
 rw [bu (by omega),af,bu (by omega),af,Ku (by omega) c ht m w x hs,af]
 cases hmay:eg c t m w x with
 | false=>
  unfold cp
  rw [hmay]
  rfl
 | true=>
  rw [Bool.not_true,cond_false]
  have hb:gh c=true∧(m.length:Int)=dg c∧0≤w∧w<c.1∧0≤x.1∧x.1<16:=by
   unfold eg at hmay
   simp only [Bool.and_eq_true,decide_eq_true_eq] at hmay
   exact ⟨hmay.1.1.1.1,hmay.1.1.1.2,hmay.1.2⟩
  obtain ⟨hmc,hlen,hw0,hw1,hp0,hp1⟩:=hb
  have hc:=bO hmc
  have hsz:=ph hmc
  have hadd:∀ i v:Int,0≤i→i<2→dk m i v=some (bP m i (oh (aM m i) v),aM m i):=fun i v h0 h1=>by rw [aaf hl,if_pos (by omega)]
  have hcg:=fun K=>Uz (k:=k) (β:=List Int×WB×List EV) hk c ht hm hl hf hs hsp hd K
  have hst:=fun q=>O2 (k+36) (by omega) t ht x.2.1 (by omega) q
  have hdo:=agc (k+36) (by omega) t ht x.2.1 (by omega)
  have hnx:=LX (k+37) (by omega) t ht x.2.1 (by omega)
  have hvi:=YR (w:=w) (W:=c.1) hd (by omega)
  rcases (show x.1=0∨x.1=1∨x.1=2∨x.1=3∨x.1=4∨x.1=5∨x.1=6∨x.1=7∨x.1=8∨x.1=9∨x.1=10∨x.1=11∨x.1=12∨x.1=13∨x.1=14∨x.1=15 by omega) with hp | hp | hp | hp | hp | hp | hp | hp | hp | hp | hp | hp | hp | hp | hp | hp
  ·have hW:cp c t m w x d=Lq c t m w x:=by unfold cp;rw [hmay];simp [hp]
   rw [hW]
   rw [uc hp,cond_true]
   unfold Lq
   rw [hcg]
   simp only [cond_true,cond_false,af,lR,Prod.eta,b6]
   generalize iM c m x.2.2.1=r
   cases ho:gL r.2 with
   | false=>simp [ho,hp]
   | true=>
    by_cases h9:r.2.2.2.2.2.2.2=1
    ·simp [ho,h9,hst,af,DB,dY,M5]
    ·have q9:(r.2.2.2.2.2.2.2 !=1)=true:=by simp [h9]
     simp [ho,h9,q9,toW,dY]
  ·have hW:cp c t m w x d=xm c m w x:=by unfold cp;rw [hmay];simp [hp]
   rw [hW]
   rw [bI (show x.1≠0 by omega),cond_false,uc hp,cond_true]
   rw [hadd 1 1 (by decide) (by decide),af,b6,af]
   rfl
  ·have hW:cp c t m w x d=pN c m w x d:=by unfold cp;rw [hmay];simp [hp]
   rw [hW]
   rw [bI (show x.1≠0 by omega),cond_false,bI (show x.1≠1 by omega),cond_false,uc hp,cond_true]
   rw [hvi,af]
   unfold pN
   rw [hcg]
   simp only [cond_true,cond_false,af,lR,Prod.eta,b6,uc hp]
   generalize iM c m x.2.2.1=r
   cases ho:gL r.2 with
   | false=>simp [ho,hp]
   | true=>
    by_cases h9:r.2.2.2.2.2.2.2=1
    ·simp [ho,h9]
    ·have q9:=bI h9
     by_cases h8:0≤Kf d w c.1
     ·simp [ho,h9,q9,hp,h8,mu]
     ·by_cases h7:x.2.2.2.1≤0
      ·simp [ho,h9,q9,hp,h8,h7,mu]
      ·rw [eD (z:=x.2.2.2.1 - 1) (by omega)]
       simp [ho,h9,q9,hp,h8,h7,mu]
  ·have hW:cp c t m w x d=pN c m w x d:=by unfold cp;rw [hmay];simp [hp]
   rw [hW]
   rw [bI (show x.1≠0 by omega),cond_false,bI (show x.1≠1 by omega),cond_false,bI (show x.1≠2 by omega),cond_false,uc hp,cond_true]
   rw [hvi,af]
   unfold pN
   rw [hcg]
   simp only [cond_true,cond_false,af,lR,Prod.eta,b6,bI (show x.1≠2 by omega)]
   generalize iM c m x.2.2.1=r
   cases ho:gL r.2 with
   | false=>simp [ho,hp]
   | true=>
    by_cases h9:r.2.2.2.2.2.2.2=1
    ·simp [ho,h9]
    ·have q9:=bI h9
     by_cases h7:x.2.2.2.1≤0
     ·simp [ho,h9,q9,hp,h7,mu]
     ·rw [eD (z:=x.2.2.2.1 - 1) (by omega)]
      simp [ho,h9,q9,hp,h7,mu]
  ·have hW:cp c t m w x d=mn t m w x:=by unfold cp;rw [hmay];simp [hp]
   rw [hW]
   rw [bI (show x.1≠0 by omega),cond_false,bI (show x.1≠1 by omega),cond_false,bI (show x.1≠2 by omega),cond_false,bI (show x.1≠3 by omega),cond_false,uc hp,cond_true]
   rw [hadd 1 _ (by decide) (by decide),af,b6,af,hst,af,af,DB,cond_true,cond_true,mg]
   by_cases h9:aM m 1=1
   ·simp [mn,h9,Br,M5]
   ·simp [mn,h9,Br,M5,dY]
  ·have hW:cp c t m w x d=wX c m x:=by unfold cp;rw [hmay];simp [hp]
   rw [hW]
   rw [bI (show x.1≠0 by omega),cond_false,bI (show x.1≠1 by omega),cond_false,bI (show x.1≠2 by omega),cond_false,bI (show x.1≠3 by omega),cond_false,bI (show x.1≠4 by omega),cond_false,uc hp,cond_true]
   unfold wX
   rw [hcg]
   simp only [cond_true,cond_false,af,lR,Prod.eta,b6]
  ·have hW:cp c t m w x d=nr m x:=by unfold cp;rw [hmay];simp [hp]
   rw [hW]
   rw [bI (show x.1≠0 by omega),cond_false,bI (show x.1≠1 by omega),cond_false,bI (show x.1≠2 by omega),cond_false,bI (show x.1≠3 by omega),cond_false,bI (show x.1≠4 by omega),cond_false,bI (show x.1≠5 by omega),cond_false,uc hp,cond_true]
   rw [hadd 1 _ (by decide) (by decide),af]
   rfl
  ·have hW:cp c t m w x d=fj c m x:=by unfold cp;rw [hmay];simp [hp]
   rw [hW]
   rw [bI (show x.1≠0 by omega),cond_false,bI (show x.1≠1 by omega),cond_false,bI (show x.1≠2 by omega),cond_false,bI (show x.1≠3 by omega),cond_false,bI (show x.1≠4 by omega),cond_false,bI (show x.1≠5 by omega),cond_false,bI (show x.1≠6 by omega),cond_false,uc hp,cond_true]
   have hM:IntKind.i64.wrap (2+IntKind.i64.wrap (2*c.1))=2+2*c.1:=by rw [eD (z:=2*c.1) (by omega),eD (by omega)]
   rw [hM]
   by_cases h1:x.2.2.2.2<0
   ·rw [ltT h1,cond_true]
    simp only [fj,if_pos (show x.2.2.2.2<0∨2+2*c.1≤x.2.2.2.2 from .inl h1),Fc]
   ·rw [ltF (by omega),cond_false]
    by_cases h2:2+2*c.1≤x.2.2.2.2
    ·rw [leT h2,cond_true]
     simp only [fj,if_pos (show x.2.2.2.2<0∨2+2*c.1≤x.2.2.2.2 from .inr h2),Fc]
    ·rw [leF (by omega),cond_false,eD (z:=x.2.2.2.2+1) (by omega)]
     have hn:¬ (x.2.2.2.2<0∨2+2*c.1≤x.2.2.2.2):=by omega
     by_cases e0:x.2.2.2.2=0
     ·rw [uc e0,cond_true,ej,af]
      by_cases h5:x.2.2.2.2+1=2+2*c.1
      ·rw [uc h5,cond_true]
       simp only [fj,if_neg hn,if_pos e0,Bool.false_eq_true,if_false,if_pos h5,Fc]
      ·rw [bI h5,cond_false]
       simp only [fj,if_neg hn,if_pos e0,Bool.false_eq_true,if_false,if_neg h5,Fc,hp]
     ·rw [bI e0,cond_false]
      by_cases e1:x.2.2.2.2=1
      ·rw [uc e1,cond_true,ej,af,A5]
       by_cases h9:aM m 5=x.2.2.1.2.2.2.1
       ·rw [decide_eq_true h9,Bool.not_true,cond_false]
        skip
        by_cases h5:x.2.2.2.2+1=2+2*c.1
        ·rw [uc h5,cond_true]
         simp only [fj,if_neg hn,if_neg e0,if_pos e1,h9,ne_eq,not_true_eq_false,decide_false,Bool.false_eq_true,if_false,if_pos h5,Fc]
        ·rw [bI h5,cond_false]
         simp only [fj,if_neg hn,if_neg e0,if_pos e1,h9,ne_eq,not_true_eq_false,decide_false,Bool.false_eq_true,if_false,if_neg h5,Fc,hp]
       ·rw [decide_eq_false h9,Bool.not_false,cond_true]
        simp only [fj,if_neg hn,if_neg e0,if_pos e1,h9,ne_eq,not_false_eq_true,decide_true,if_true,toW,dY]
      ·rw [bI e1,cond_false,Int.tmod_eq_emod_of_nonneg (by omega),eD (z:=x.2.2.2.2 - 2) (by omega),Int.tdiv_eq_ediv_of_nonneg (by omega),eD (z:=(x.2.2.2.2 - 2)/2) (by omega)]
       by_cases e2:x.2.2.2.2%2=0
       ·rw [uc e2,cond_true,Ne,af,ej,af]
        skip
        by_cases h5:x.2.2.2.2+1=2+2*c.1
        ·rw [uc h5,cond_true]
         simp only [fj,if_neg hn,if_neg e0,if_neg e1,if_pos e2,Bool.false_eq_true,if_false,if_pos h5,Fc]
        ·rw [bI h5,cond_false]
         simp only [fj,if_neg hn,if_neg e0,if_neg e1,if_pos e2,Bool.false_eq_true,if_false,if_neg h5,Fc,hp]
       ·rw [bI e2,cond_false,K6,af,ej,af,Mh,af]
        by_cases h9:0<Gk (aM m (Ju c ((x.2.2.2.2 - 2)/2))) x.2.2.1.2.2.2.1
        ·rw [ltT h9,cond_true]
         simp only [fj,if_neg hn,if_neg e0,if_neg e1,if_neg e2,h9,decide_true,if_true,toW,dY]
        ·rw [ltF (by omega),cond_false]
         skip
         by_cases h5:x.2.2.2.2+1=2+2*c.1
         ·rw [uc h5,cond_true]
          simp only [fj,if_neg hn,if_neg e0,if_neg e1,if_neg e2,h9,decide_false,Bool.false_eq_true,if_false,if_pos h5,Fc]
         ·rw [bI h5,cond_false]
          simp only [fj,if_neg hn,if_neg e0,if_neg e1,if_neg e2,h9,decide_false,Bool.false_eq_true,if_false,if_neg h5,Fc,hp]
  ·have hW:cp c t m w x d=kv c m x:=by unfold cp;rw [hmay];simp [hp]
   rw [hW]
   rw [bI (show x.1≠0 by omega),cond_false,bI (show x.1≠1 by omega),cond_false,bI (show x.1≠2 by omega),cond_false,bI (show x.1≠3 by omega),cond_false,bI (show x.1≠4 by omega),cond_false,bI (show x.1≠5 by omega),cond_false,bI (show x.1≠6 by omega),cond_false,bI (show x.1≠7 by omega),cond_false,uc hp,cond_true]
   unfold kv
   rw [hcg]
   simp only [cond_true,cond_false,af,lR,Prod.eta,b6]
   generalize iM c m x.2.2.1=r
   cases ho:gL r.2 <;> simp [ho,hp,toW,dY]
  ·have hW:cp c t m w x d=MP t m w x:=by unfold cp;rw [hmay];simp [hp]
   rw [hW]
   rw [bI (show x.1≠0 by omega),cond_false,bI (show x.1≠1 by omega),cond_false,bI (show x.1≠2 by omega),cond_false,bI (show x.1≠3 by omega),cond_false,bI (show x.1≠4 by omega),cond_false,bI (show x.1≠5 by omega),cond_false,bI (show x.1≠6 by omega),cond_false,bI (show x.1≠7 by omega),cond_false,bI (show x.1≠8 by omega),cond_false,uc hp,cond_true]
   rw [hnx,af,mg,mg,mg,hdo,af,b6,af]
   unfold MP
   by_cases h1:(w7 t x.2.1).1=1
   ·simp [h1,hp]
   ·by_cases h2:(w7 t x.2.1).1=2
    ·simp [h2]
    ·by_cases h3:(w7 t x.2.1).1=3
     ·simp [h3]
     ·simp [h1,h2,h3,mu]
  ·have hW:cp c t m w x d=xa t m w x:=by unfold cp;rw [hmay];simp [hp]
   rw [hW]
   rw [bI (show x.1≠0 by omega),cond_false,bI (show x.1≠1 by omega),cond_false,bI (show x.1≠2 by omega),cond_false,bI (show x.1≠3 by omega),cond_false,bI (show x.1≠4 by omega),cond_false,bI (show x.1≠5 by omega),cond_false,bI (show x.1≠6 by omega),cond_false,bI (show x.1≠7 by omega),cond_false,bI (show x.1≠8 by omega),cond_false,bI (show x.1≠9 by omega),cond_false,uc hp,cond_true]
   rw [hnx,af,A5,hadd 0 _ (by decide) (by decide),af,DB,cond_true,hdo,af,b6,af]
   unfold xa
   by_cases h2:(w7 t x.2.1).1=2
   ·simp [h2]
   ·simp [h2,toW,dY]
  ·have hW:cp c t m w x d=uV c m w x:=by unfold cp;rw [hmay];simp [hp]
   rw [hW]
   rw [bI (show x.1≠0 by omega),cond_false,bI (show x.1≠1 by omega),cond_false,bI (show x.1≠2 by omega),cond_false,bI (show x.1≠3 by omega),cond_false,bI (show x.1≠4 by omega),cond_false,bI (show x.1≠5 by omega),cond_false,bI (show x.1≠6 by omega),cond_false,bI (show x.1≠7 by omega),cond_false,bI (show x.1≠8 by omega),cond_false,bI (show x.1≠9 by omega),cond_false,bI (show x.1≠10 by omega),cond_false,uc hp,cond_true]
   unfold uV
   rw [hcg]
   simp only [cond_true,cond_false,af,lR,Prod.eta,b6]
   generalize iM c m x.2.2.1=r
   cases ho:gL r.2 with
   | false=>simp [ho,hp]
   | true=>
    by_cases h9:r.2.2.2.2.2.2.2=2
    ·simp [ho,h9,mu]
    ·have q9:=bI h9
     simp [ho,h9,q9,toW,dY]
  ·have hW:cp c t m w x d=ux c t m w x:=by unfold cp;rw [hmay];simp [hp]
   rw [hW]
   rw [bI (show x.1≠0 by omega),cond_false,bI (show x.1≠1 by omega),cond_false,bI (show x.1≠2 by omega),cond_false,bI (show x.1≠3 by omega),cond_false,bI (show x.1≠4 by omega),cond_false,bI (show x.1≠5 by omega),cond_false,bI (show x.1≠6 by omega),cond_false,bI (show x.1≠7 by omega),cond_false,bI (show x.1≠8 by omega),cond_false,bI (show x.1≠9 by omega),cond_false,bI (show x.1≠10 by omega),cond_false,bI (show x.1≠11 by omega),cond_false,uc hp,cond_true]
   unfold ux
   rw [hcg]
   simp only [cond_true,cond_false,af,lR,Prod.eta,b6]
   generalize iM c m x.2.2.1=r
   cases ho:gL r.2 with
   | false=>simp [ho,hp]
   | true=>
    by_cases h9:r.2.2.2.2.2.2.2=2
    ·simp [ho,h9,hst,af,DB,dY,M5]
    ·have q9:=bI h9
     simp [ho,h9,q9,toW,dY]
  ·have hW:cp c t m w x d=Jr m w x:=by unfold cp;rw [hmay];simp [hp]
   rw [hW]
   rw [bI (show x.1≠0 by omega),cond_false,bI (show x.1≠1 by omega),cond_false,bI (show x.1≠2 by omega),cond_false,bI (show x.1≠3 by omega),cond_false,bI (show x.1≠4 by omega),cond_false,bI (show x.1≠5 by omega),cond_false,bI (show x.1≠6 by omega),cond_false,bI (show x.1≠7 by omega),cond_false,bI (show x.1≠8 by omega),cond_false,bI (show x.1≠9 by omega),cond_false,bI (show x.1≠10 by omega),cond_false,bI (show x.1≠11 by omega),cond_false,bI (show x.1≠12 by omega),cond_false,uc hp,cond_true]
   rw [ej,af,mg,b6,af]
   by_cases h9:aM m 1=0
   ·simp [Jr,h9,mu]
   ·simp [Jr,h9,toW,dY]
  ·have hW:cp c t m w x d=wu c m x:=by unfold cp;rw [hmay];simp [hp]
   rw [hW]
   rw [bI (show x.1≠0 by omega),cond_false,bI (show x.1≠1 by omega),cond_false,bI (show x.1≠2 by omega),cond_false,bI (show x.1≠3 by omega),cond_false,bI (show x.1≠4 by omega),cond_false,bI (show x.1≠5 by omega),cond_false,bI (show x.1≠6 by omega),cond_false,bI (show x.1≠7 by omega),cond_false,bI (show x.1≠8 by omega),cond_false,bI (show x.1≠9 by omega),cond_false,bI (show x.1≠10 by omega),cond_false,bI (show x.1≠11 by omega),cond_false,bI (show x.1≠12 by omega),cond_false,bI (show x.1≠13 by omega),cond_false,uc hp,cond_true]
   unfold wu
   rw [hcg]
   simp only [cond_true,cond_false,af,lR,Prod.eta,b6]
   generalize iM c m x.2.2.1=r
   cases ho:gL r.2 <;> simp [ho,hp,toW,dY]
  ·have hW:cp c t m w x d=uN t m w x:=by unfold cp;rw [hmay];simp [hp]
   rw [hW]
   rw [bI (show x.1≠0 by omega),cond_false,bI (show x.1≠1 by omega),cond_false,bI (show x.1≠2 by omega),cond_false,bI (show x.1≠3 by omega),cond_false,bI (show x.1≠4 by omega),cond_false,bI (show x.1≠5 by omega),cond_false,bI (show x.1≠6 by omega),cond_false,bI (show x.1≠7 by omega),cond_false,bI (show x.1≠8 by omega),cond_false,bI (show x.1≠9 by omega),cond_false,bI (show x.1≠10 by omega),cond_false,bI (show x.1≠11 by omega),cond_false,bI (show x.1≠12 by omega),cond_false,bI (show x.1≠13 by omega),cond_false,bI (show x.1≠14 by omega),cond_false,uc hp,cond_true]
   simp only [hnx,af,A5,hadd 0 _ (by decide) (by decide),DB,Zs,cond_true,hdo,b6,mg]
   unfold uN
   by_cases h3:(w7 t x.2.1).1=3
   ·by_cases h1:aM m 0=1
    ·by_cases h2:doB t x.2.1=[]
     ·simp [h3,h1,h2,Br]
     ·have h4:¬ (((doB t x.2.1).length:Int)=0):=by simp [h2]
      simp [h3,h1,h2,h4,Br,dY]
    ·by_cases h2:doB t x.2.1=[]
     ·simp [h3,h1,h2,Br]
     ·have h4:¬ (((doB t x.2.1).length:Int)=0):=by simp [h2]
      simp [h3,h1,h2,h4,Br,dY]
   ·simp [h3,toW,dY]
end
end Go.Ab
set_option linter.unusedVariables false
namespace Go.Ab
theorem lX {c:CF} {t:Tyt} {m:List Int} {w:Int} {x:WB} {d:Int} {P:WR→Prop} (hs:eg c t m w x=false→P (m,x,[])) (p0:eg c t m w x=true→x.1=0→P (Lq c t m w x)) (p1:eg c t m w x=true→x.1=1→P (xm c m w x)) (p2:eg c t m w x=true→x.1=2∨x.1=3→P (pN c m w x d)) (p4:eg c t m w x=true→x.1=4→P (mn t m w x)) (p5:eg c t m w x=true→x.1=5→P (wX c m x)) (p6:eg c t m w x=true→x.1=6→P (nr m x)) (p7:eg c t m w x=true→x.1=7→P (fj c m x)) (p8:eg c t m w x=true→x.1=8→P (kv c m x)) (p9:eg c t m w x=true→x.1=9→P (MP t m w x)) (p10:eg c t m w x=true→x.1=10→P (xa t m w x)) (p11:eg c t m w x=true→x.1=11→P (uV c m w x)) (p12:eg c t m w x=true→x.1=12→P (ux c t m w x)) (p13:eg c t m w x=true→x.1=13→P (Jr m w x)) (p14:eg c t m w x=true→x.1=14→P (wu c m x)) (p15:eg c t m w x=true→x.1=15→P (uN t m w x)):P (cp c t m w x d):=by
 unfold cp
 by_cases hm:eg c t m w x=false
 ·rw [if_pos hm];exact hs hm
 rw [if_neg hm]
 have hm':eg c t m w x=true:=by simpa using hm
 have hb:0≤x.1∧x.1<16:=by
  unfold eg at hm'
  simp only [Bool.and_eq_true,decide_eq_true_eq] at hm'
  exact hm'.1.2.2.2
 by_cases e0:x.1=0
 ·rw [if_pos e0];exact p0 hm' e0
 rw [if_neg e0]
 by_cases e1:x.1=1
 ·rw [if_pos e1];exact p1 hm' e1
 rw [if_neg e1]
 by_cases e2:x.1=2∨x.1=3
 ·rw [if_pos e2];exact p2 hm' e2
 rw [if_neg e2]
 by_cases e4:x.1=4
 ·rw [if_pos e4];exact p4 hm' e4
 rw [if_neg e4]
 by_cases e5:x.1=5
 ·rw [if_pos e5];exact p5 hm' e5
 rw [if_neg e5]
 by_cases e6:x.1=6
 ·rw [if_pos e6];exact p6 hm' e6
 rw [if_neg e6]
 by_cases e7:x.1=7
 ·rw [if_pos e7];exact p7 hm' e7
 rw [if_neg e7]
 by_cases e8:x.1=8
 ·rw [if_pos e8];exact p8 hm' e8
 rw [if_neg e8]
 by_cases e9:x.1=9
 ·rw [if_pos e9];exact p9 hm' e9
 rw [if_neg e9]
 by_cases e10:x.1=10
 ·rw [if_pos e10];exact p10 hm' e10
 rw [if_neg e10]
 by_cases e11:x.1=11
 ·rw [if_pos e11];exact p11 hm' e11
 rw [if_neg e11]
 by_cases e12:x.1=12
 ·rw [if_pos e12];exact p12 hm' e12
 rw [if_neg e12]
 by_cases e13:x.1=13
 ·rw [if_pos e13];exact p13 hm' e13
 rw [if_neg e13]
 by_cases e14:x.1=14
 ·rw [if_pos e14];exact p14 hm' e14
 rw [if_neg e14]
 exact p15 hm' (by omega)
end Go.Ab
set_option linter.unusedVariables false
namespace Go.Ab
theorem Pi (c:CF) (m:List Int) (f:FR):One m (Da c m f).1:=by
 unfold Da
 repeat' split
 all_goals first | exact One.same m | exact One.store m _ _ | exact One.cas m _ _ _
theorem V0 (c:CF) (m:List Int) (f:FR):One m (Q7 c m f).1:=by
 unfold Q7
 repeat' split
 all_goals first | exact One.same m | exact One.store m _ _ | exact One.cas m _ _ _
theorem LZ (c:CF) (m:List Int) (f:FR):One m (rL c m f).1:=by
 unfold rL
 dsimp only
 repeat' split
 all_goals first | exact One.same m | exact One.store m _ _ | exact One.cas m _ _ _
theorem LR (c:CF) (m:List Int) (f:FR):One m (iM c m f).1:=by
 unfold iM IZ
 repeat' split
 all_goals first | exact One.same m | exact Pi c m f | exact V0 c m f | exact LZ c m f | exact Gx c m f
section
variable {c:CF} {t:Tyt} {m:List Int} {w:Int} {x:WB} {d:Int}
theorem BL:One m (cp c t m w x d).1:=by
 refine lX (P:=fun r=>One m r.1) (fun _=>One.same m) ?_ ?_ ?_ ?_ ?_ ?_ ?_ ?_ ?_ ?_ ?_ ?_ ?_ ?_ ?_
 all_goals intro _ _
 all_goals dsimp only [Lq,xm,pN,mn,wX,nr,fj,kv,MP,xa,uV,ux,Jr,wu,uN]
 all_goals repeat' split
 all_goals (try dsimp only)
 all_goals first | exact One.same m | exact One.store m _ _ | exact LR c m _
theorem QK:(cp c t m w x d).2.2.length≤2:=by
 refine lX (P:=fun r=>r.2.2.length≤2) (fun _=>Nat.zero_le _) ?_ ?_ ?_ ?_ ?_ ?_ ?_ ?_ ?_ ?_ ?_ ?_ ?_ ?_ ?_
 all_goals intro _ _
 all_goals dsimp only [Lq,xm,pN,mn,wX,nr,fj,kv,MP,xa,uV,ux,Jr,wu,uN]
 all_goals repeat' split
 all_goals simp
theorem MK:(cp c t m w x d).2.1.2.1.length≤x.2.1.length+1:=by
 have h1:=fun q=>Iw t x.2.1 q
 have h2:=Tz t x.2.1
 refine lX (P:=fun r=>r.2.1.2.1.length≤x.2.1.length+1) (fun _=>Nat.le_succ _) ?_ ?_ ?_ ?_ ?_ ?_ ?_ ?_ ?_ ?_ ?_ ?_ ?_ ?_ ?_
 all_goals intro _ _
 all_goals dsimp only [Lq,xm,pN,mn,wX,nr,fj,kv,MP,xa,uV,ux,Jr,wu,uN,toW,mu]
 all_goals repeat' split
 all_goals first | exact Nat.le_succ _ | exact h1 _ | (dsimp only;omega) | simp
theorem Gd {s:Tye} (h:dh t s=true) (q:Int):dh t (oT t s q)=true:=by
 unfold oT
 split
 ·rename_i g
  have:=lQ.1 h
  exact gt.2 ⟨this.1,this.2,aaY this.1 g.2.1 g.2.2⟩
 ·exact h
theorem TJ {s:Tye} (h:dh t s=true):dh t (doB t s)=true:=by
 rcases mT s with rfl | ⟨r,y,rfl⟩
 ·exact h
 ·exact (QG h).1
theorem ER (h:eg c t m w x=true):gh c=true∧(m.length:Int)=dg c∧wM t=true∧(0≤w∧w<c.1∧0≤x.1∧x.1<16)∧dh t x.2.1=true:=by
 unfold eg at h
 simp only [Bool.and_eq_true,decide_eq_true_eq] at h
 exact ⟨h.1.1.1.1,h.1.1.1.2,h.1.1.2,h.1.2,h.2⟩
theorem MQ (h1:gh c=true) (h2:(m.length:Int)=dg c) (h3:wM t=true) (h4:0≤w∧w<c.1∧0≤x.1∧x.1<16) (h5:dh t x.2.1=true):eg c t m w x=true:=by
 unfold eg
 rw [h1,h3,h5,decide_eq_true h2,decide_eq_true h4]
 rfl
theorem Nc (h:eg c t m w x=true):eg c t (cp c t m w x d).1 w (cp c t m w x d).2.1=true:=by
 obtain ⟨h1,h2,h3,h4,h5⟩:=ER h
 have hl:=(BL (c:=c) (t:=t) (m:=m) (w:=w) (x:=x) (d:=d)).len
 have key:0≤(cp c t m w x d).2.1.1∧(cp c t m w x d).2.1.1<16∧dh t (cp c t m w x d).2.1.2.1=true:=by
  have g1:=Gd h5
  have g2:=TJ h5
  have g3:dh t []=true:=lQ.2 ⟨h3,fun y hy=>absurd hy (by simp)⟩
  refine lX (P:=fun r=>0≤r.2.1.1∧r.2.1.1<16∧dh t r.2.1.2.1=true) (fun _=>⟨h4.2.2.1,h4.2.2.2,h5⟩) ?_ ?_ ?_ ?_ ?_ ?_ ?_ ?_ ?_ ?_ ?_ ?_ ?_ ?_ ?_
  all_goals intro _ _
  all_goals dsimp only [Lq,xm,pN,mn,wX,nr,fj,kv,MP,xa,uV,ux,Jr,wu,uN,toW,mu]
  all_goals repeat' split
  all_goals refine ⟨?_,?_,?_⟩
  all_goals (try dsimp only)
  all_goals first | omega | exact h5 | exact g1 _ | exact g2 | exact g3
 exact MQ h1 (by rw [hl];exact h2) h3 ⟨h4.1,h4.2.1,key.1,key.2.1⟩ key.2.2
end
end Go.Ab
set_option linter.unusedVariables false
namespace Go.Ab
section
variable {c:CF} {m:List Int} {f:FR} {j:Int} (hj:j=0∨j=1∨j=3)
include hj
section
variable (hf:Wf f)
include hf
end
end
section
variable {c:CF} {t:Tyt} {m:List Int} {w:Int} {x:WB} {d:Int}
end
end Go.Ab
set_option linter.unusedVariables false
namespace Go.Ab
theorem HM {c:CF} {m:List Int} {f:FR} (hm:Wm m) (hf:Wf f):Wm (Cf c m f).1∧Wf (Cf c m f).2∧(Cf c m f).1.length=m.length:=by
 have hr:=dF hm 2
 obtain ⟨w3,w4,w5⟩:=hf
 have hk4:=Hc w4.1
 have hk5:=Hc w5.1
 have hc5:=JU hk5.1 hk5.2
 unfold Cf
 split
 ·exact ⟨hm,⟨w3,w4,w5⟩,rfl⟩
 ·split
  ·exact ⟨hm,⟨w3,hr,w5⟩,rfl⟩
  ·split
   ·split
    ·refine ⟨hm.set 2 ?_ ?_,?_,(by simp only [];exact gR)⟩
     ·split
      ·exact (ub _ _).1
      ·exact (ub _ _).1
     ·split
      ·exact (ub _ _).2
      ·exact (ub _ _).2
     ·have hl:=Kg (mkB f.2.2.2.2.1)
      simp only []
      by_cases hz:mkB f.2.2.2.2.1=0
      ·rw [if_pos hz]
       exact ⟨by simp [eF],by simp [eF],by simp [eF]⟩
      ·rw [if_neg hz]
       refine ⟨w3,w4,?_⟩
       simp only
       split
       ·split <;> omega
       ·omega
    ·exact ⟨hm,⟨w3,w4,w5⟩,rfl⟩
   ·split
    ·exact ⟨hm.set _ (by decide) (by decide),⟨w5,by simp [eF],by simp [eF]⟩,(by simp only [];exact gR)⟩
    ·refine ⟨hm.set _ (by decide) (by decide),?_,(by simp only [];exact gR)⟩
     split
     ·exact ⟨by simp [eF];omega,by simp [eF],by simp [eF]⟩
     ·exact ⟨w3,w4,by simp only;omega⟩
theorem Wr {c:CF} {m:List Int} {f:FR} (hm:Wm m) (hf:Wf f):Wm (Cs c m f).1∧Wf (Cs c m f).2:=by
 have hr:=dF hm 2
 obtain ⟨w3,w4,w5⟩:=hf
 have hs:=TG (w:=f.2.2.1) w5.1 w5.2
 unfold Cs
 dsimp only
 split
 ·exact ⟨hm,w3,w4,w5⟩
 ·split
  ·exact ⟨hm,w3,hr,w5⟩
  ·split
   ·split
    ·exact ⟨hm,w3,w4,hr⟩
    ·exact ⟨hm,by simp [eF,Wf]⟩
   ·split
    ·exact ⟨hm.cas _ _ hs.1 hs.2,w3,w4,w5⟩
    ·split
     ·exact ⟨hm,w3,w4,dF hm _⟩
     ·exact ⟨hm.set _ (by decide) (by decide),by simp [eF,Wf]⟩
theorem aai {c:CF} {m:List Int} {f:FR} (hm:Wm m) (hf:Wf f):Wm (Rh c m f).1∧Wf (Rh c m f).2:=by
 obtain ⟨w3,w4,w5⟩:=hf
 have ha:=gg f.2.2.2.2.1 1
 have hb:=gg (DY c f.2.2.2.2.1) 1
 unfold Rh
 dsimp only
 split
 ·exact ⟨hm,w3,w4,w5⟩
 ·split
  ·exact ⟨hm,w3,dF hm 5,w5⟩
  ·split
   ·split
    ·exact ⟨hm,w3,w4,dF hm _⟩
    ·split
     ·exact ⟨hm,w3,by simp [eF],by simp [eF]⟩
     ·exact ⟨hm,w3,w4,dF hm _⟩
   ·split
    ·exact ⟨hm.cas _ _ ha.1 ha.2,w3,w4,w5⟩
    ·split
     ·exact ⟨hm.set _ w3.1 w3.2,w3,w4,w5⟩
     ·exact ⟨hm.set _ hb.1 hb.2,w3,by simp [eF],by simp [eF]⟩
theorem Y9 {c:CF} {m:List Int} {f:FR} (hm:Wm m) (hf:Wf f):Wm (Rq c m f).1∧Wf (Rq c m f).2:=by
 obtain ⟨w3,w4,w5⟩:=hf
 have ha:=gg f.2.2.2.2.1 1
 have hb:=gg (CG c f.2.2.2.2.1) 1
 unfold Rq
 dsimp only
 split
 ·exact ⟨hm,w3,w4,w5⟩
 ·split
  ·exact ⟨hm,w3,dF hm 4,w5⟩
  ·split
   ·split
    ·exact ⟨hm,w3,w4,dF hm _⟩
    ·split
     ·exact ⟨hm,by simp [eF],by simp [eF],by simp [eF]⟩
     ·exact ⟨hm,w3,w4,dF hm _⟩
   ·split
    ·exact ⟨hm.cas _ _ ha.1 ha.2,w3,w4,w5⟩
    ·split
     ·exact ⟨hm,dF hm _,w4,w5⟩
     ·exact ⟨hm.set _ hb.1 hb.2,w3,by simp [eF],by simp [eF]⟩
theorem LN {c:CF} {m:List Int} {f:FR} (hm:Wm m) (hf:Wf f):Wm (nd c m f).1∧Wf (nd c m f).2:=by
 unfold nd D9 Jt
 repeat' split
 all_goals first | exact aai hm hf | exact Y9 hm hf | exact Wr hm hf | exact ⟨(HM hm hf).1,(HM hm hf).2.1⟩ | exact ⟨hm,hf⟩
theorem Sj {c:CF} {t:Tyt} {m:List Int} {i:Int} {x:SB} (hm:Wm m) (hf:Wf x.2.2) (ht:t.length≤1000):Wm (og c t m i x).1∧Wf (og c t m i x).2.1.2.2:=by
 have hc:=LN (c:=c) hm hf
 have hz:Wf dY:=by simp [Wf,dY]
 have h1:=gg (aM m 0) 1
 have h2:=gg (aM m 0) 18446744073709551615
 cases hmay:wz c t m x with
 | false=>
  have e:og c t m i x=(m,x,[]):=by unfold og;rw [hmay,if_pos rfl]
  rw [e]
  exact ⟨hm,hf⟩
 | true=>
  obtain ⟨_,_,_,_,_,r,rest,hx,h6,h7⟩:=FY hmay
  have hh:wI x.2.1=r:=by rw [hx];rfl
  unfold og
  rw [hmay,if_neg (by simp),hh]
  dsimp only
  have h3:Wf (3,0,i,r,0,0,0):=⟨⟨h6,by simp only;omega⟩,by simp,by simp⟩
  have h4:Wf (6,0,i,0,0,0,0):=by simp [Wf]
  repeat' split
  all_goals first | exact ⟨hm,hf⟩ | exact ⟨hm,hz⟩ | exact ⟨hm,h4⟩ | exact ⟨hm.set 0 h1.1 h1.2,h3⟩ | exact hc | exact ⟨hc.1,hz⟩ | exact ⟨hm.set 0 h2.1 h2.2,hz⟩
end Go.Ab
set_option linter.unusedVariables false
namespace Go.Ab
abbrev PB:=CF×Tyt×List Int×List WB×List SB
abbrev PK:=Int×Int×Int
def uB (t:Tyt) (x:SB):Bool:=decide (0≤x.1∧x.1<6)&&x.2.1.all (fun r=>decide (0≤r∧r<t.length))&&(decide (x.1=0)||decide (x.2.1≠[]))
def D7 (c:CF) (t:Tyt) (m:List Int):Nat→List WB→Bool
 | _,[]=>true
 | i,x::l=>eg c t m i x&&D7 c t m (i+1) l
def fB (p:PB):Bool:=gh p.1&&decide ((p.2.2.2.1.length:Int)=p.1.1∧p.2.2.2.2.length≤3)&&D7 p.1 p.2.1 p.2.2.1 0 p.2.2.2.1&&p.2.2.2.2.all (uB p.2.1)
def Ec (k:PK) (w s:Int):Bool:=decide (k.1=0∧0≤k.2.1∧k.2.1<w∨k.1=1∧0≤k.2.1∧k.2.1<s∨k.1=2∨k.1=3)
def f6 (p:PB) (k:PK):PB×List EV:=
 if k.1=0 then match p.2.2.2.1[k.2.1.toNat]? with
  | some x=>((p.1,p.2.1,(cp p.1 p.2.1 p.2.2.1 k.2.1 x k.2.2).1,p.2.2.2.1.set k.2.1.toNat (cp p.1 p.2.1 p.2.2.1 k.2.1 x k.2.2).2.1,p.2.2.2.2),(cp p.1 p.2.1 p.2.2.1 k.2.1 x k.2.2).2.2)
  | none=>(p,[])
 else if k.1=1 then match p.2.2.2.2[k.2.1.toNat]? with
  | some x=>if wz p.1 p.2.1 p.2.2.1 x=true then ((p.1,p.2.1,(og p.1 p.2.1 p.2.2.1 k.2.1 x).1,p.2.2.2.1,p.2.2.2.2.set k.2.1.toNat (og p.1 p.2.1 p.2.2.1 k.2.1 x).2.1),(og p.1 p.2.1 p.2.2.1 k.2.1 x).2.2) else (p,[])
  | none=>(p,[])
 else if k.1=2 then ((p.1,p.2.1,bP p.2.2.1 3 1,p.2.2.2.1,p.2.2.2.2),[])
 else (p,[])
def nb (p:PB):List PK→PB×List EV
 | []=>(p,[])
 | k::l=>if Ec k p.1.1 p.2.2.2.2.length=true then ((nb (f6 p k).1 l).1,(f6 p k).2++(nb (f6 p k).1 l).2) else nb p l
def ab1 (p:PB) (l:List PK):PB×List EV:=if fB p=true then nb p l else (p,[])
theorem Vi {c:CF} {m:List Int} {f:FR} (hm:Wm m) (hf:Wf f):Wm (Da c m f).1∧Wf (Da c m f).2:=by
 have hl:=fun i=>dF hm i
 obtain ⟨w3,w4,w5⟩:=hf
 have ha:=gg f.2.2.2.2.1 1
 unfold Da
 repeat' split
 ·exact ⟨hm,w3,w4,w5⟩
 ·exact ⟨hm,w3,hl _,w5⟩
 ·exact ⟨hm,w3,by simp [eF],by simp [eF]⟩
 ·exact ⟨hm,w3,w4,hl _⟩
 ·exact ⟨hm.set _ w3.1 w3.2,w3,w4,w5⟩
 ·exact ⟨hm.set _ ha.1 ha.2,w3,by simp [eF],by simp [eF]⟩
theorem ZM {c:CF} {m:List Int} {f:FR} (hm:Wm m) (hf:Wf f):Wm (Q7 c m f).1∧Wf (Q7 c m f).2:=by
 have hl:=fun i=>dF hm i
 obtain ⟨w3,w4,w5⟩:=hf
 have ha:=gg f.2.2.2.2.1 1
 have hb:=gg f.2.2.2.2.2.1 1
 have hs:=fun a b=>PN a b
 unfold Q7
 dsimp only
 split
 ·exact ⟨hm,w3,w4,w5⟩
 split
 ·exact ⟨hm,w3,hs _ _,w5⟩
 split
 ·exact ⟨hm.set _ w4.1 w4.2,w3,w4,w5⟩
 split
 ·exact ⟨hm,w3,w4,hl _⟩
 split
 ·split
  ·exact ⟨hm,hl _,by simp [eF],by simp [eF]⟩
  ·exact ⟨hm,hl _,w4,w5⟩
 split
 ·exact ⟨hm.cas _ _ hb.1 hb.2,w3,w4,w5⟩
 split
 ·exact ⟨hm.set _ ha.1 ha.2,w3,by simp [eF],by simp [eF]⟩
 ·exact ⟨hm.set _ ha.1 ha.2,by simp [eF],by simp [eF],by simp [eF]⟩
theorem NS {c:CF} {m:List Int} {f:FR} (hm:Wm m) (hf:Wf f):Wm (rL c m f).1∧Wf (rL c m f).2:=by
 have hl:=fun i=>dF hm i
 obtain ⟨w3,w4,w5⟩:=hf
 have hb:=gg f.2.2.2.2.2.1 1
 unfold rL
 dsimp only
 split
 ·exact ⟨hm,w3,w4,w5⟩
 split
 ·exact ⟨hm,w3,w4,hl _⟩
 split
 ·split
  ·exact ⟨hm,by simp [eF],by simp [eF],by simp [eF]⟩
  ·exact ⟨hm,w3,hl _,w5⟩
 split
 ·exact ⟨hm,hl _,w4,w5⟩
 split
 ·exact ⟨hm.cas _ _ hb.1 hb.2,w3,by simp [eF],by simp [eF]⟩
 ·exact ⟨hm.cas _ _ hb.1 hb.2,by simp [eF],by simp [eF],by simp [eF]⟩
theorem Hm {c:CF} {m:List Int} {f:FR} (hm:Wm m) (hf:Wf f):Wm (iM c m f).1∧Wf (iM c m f).2:=by
 unfold iM IZ
 split
 ·split
  ·exact Vi hm hf
  ·split
   ·exact ZM hm hf
   ·split
    ·exact NS hm hf
    ·exact ⟨hm,hf⟩
 ·exact LN hm hf
structure WOk (n:Nat) (x:WB):Prop where
 f:Wf x.2.2.1
 s:x.2.1.length≤n
 sp:x.2.2.2.1≤1000
structure SOk (x:SB):Prop where
 f:Wf x.2.2
 s:x.2.1.length≤1000
theorem U7 (a:Int):0≤IntKind.u64.wrap a∧IntKind.u64.wrap a≤18446744073709551615:=by
 rw [AW]
 omega
section
variable {c:CF} {t:Tyt} {m:List Int} {w:Int} {x:WB} {d:Int} {n:Nat}
theorem UF (hm:Wm m) (hf:Wf x.2.2.1):Wm (cp c t m w x d).1:=by
 have h1:=(Hm (c:=c) hm hf).1
 have h2:=fun a b=>gg a b
 refine lX (P:=fun r=>Wm r.1) (fun _=>hm) ?_ ?_ ?_ ?_ ?_ ?_ ?_ ?_ ?_ ?_ ?_ ?_ ?_ ?_ ?_
 all_goals intro _ _
 all_goals dsimp only [Lq,xm,pN,mn,wX,nr,fj,kv,MP,xa,uV,ux,Jr,wu,uN]
 all_goals repeat' split
 all_goals (try dsimp only)
 all_goals first | exact hm | exact h1 | exact hm.set _ (h2 _ _).1 (h2 _ _).2
theorem Uq (hm:Wm m) (hf:Wf x.2.2.1):Wf (cp c t m w x d).2.1.2.2.1:=by
 have h1:=(Hm (c:=c) hm hf).2
 have h2:=fun i=>dF hm i
 have h3:=fun a=>U7 a
 have z:Wf dY:=by simp [Wf,dY]
 have zr:(0:Int)≤0∧(0:Int)≤18446744073709551615:=by decide
 have b:∀ op w,Wf (Fu op w 0):=fun op w=>by simp [Wf,Fu]
 have b2:∀ op w v,0≤v∧v≤18446744073709551615→Wf (Fu op w v):=fun op w v h=>⟨h,by simp [Fu],by simp [Fu]⟩
 obtain ⟨w3,w4,w5⟩:=hf
 refine lX (P:=fun r=>Wf r.2.1.2.2.1) (fun _=>⟨w3,w4,w5⟩) ?_ ?_ ?_ ?_ ?_ ?_ ?_ ?_ ?_ ?_ ?_ ?_ ?_ ?_ ?_
 all_goals intro _ _
 all_goals dsimp only [Lq,xm,pN,mn,wX,nr,fj,kv,MP,xa,uV,ux,Jr,wu,uN,toW,mu,Fc]
 all_goals repeat' split
 all_goals (try dsimp only)
 all_goals first | exact h1 | exact z | exact b _ _ | exact b2 _ _ _ (h3 _) | exact b2 _ _ _ h1.1 | exact ⟨w3,w4,w5⟩ | exact ⟨h2 _,w4,w5⟩ | exact ⟨h2 4,w4,w5⟩ | exact ⟨zr,w4,w5⟩
theorem Ty (hc:gh c=true) (hs:x.2.2.2.1≤1000):(cp c t m w x d).2.1.2.2.2.1≤1000:=by
 have h4:=bO hc
 refine lX (P:=fun r=>r.2.1.2.2.2.1≤1000) (fun _=>hs) ?_ ?_ ?_ ?_ ?_ ?_ ?_ ?_ ?_ ?_ ?_ ?_ ?_ ?_ ?_
 all_goals intro _ _
 all_goals dsimp only [Lq,xm,pN,mn,wX,nr,fj,kv,MP,xa,uV,ux,Jr,wu,uN,toW,mu]
 all_goals repeat' split
 all_goals (try dsimp only)
 all_goals omega
theorem Tu (hc:gh c=true) (hm:Wm m) (h:WOk n x):WOk (n+1) (cp c t m w x d).2.1:=
 ⟨Uq hm h.f,by have:=MK (c:=c) (t:=t) (m:=m) (w:=w) (x:=x) (d:=d);have:=h.s;omega,Ty hc h.sp⟩
end
section
variable {c:CF} {t:Tyt} {m:List Int} {i:Int} {x:SB}
theorem Ok:One m (og c t m i x).1:=by
 unfold og
 dsimp only
 repeat' split
 all_goals first | exact One.same m | exact One.store m _ _ | (dsimp only;exact One.store m _ _) | exact Gx c m _
theorem G0:(og c t m i x).1.length=m.length:=Ok.len
theorem rk:(og c t m i x).2.1.2.1=x.2.1∨(og c t m i x).2.1.2.1=x.2.1.tail∧(og c t m i x).2.1.1=0:=by
 unfold og
 dsimp only
 repeat' split
 all_goals first | exact .inl rfl | exact .inr ⟨rfl,rfl⟩
theorem O1:(og c t m i x).2.2.length≤2:=by
 unfold og
 dsimp only
 repeat' split
 all_goals simp
theorem Zg (h:0≤x.1∧x.1<6):0≤(og c t m i x).2.1.1∧(og c t m i x).2.1.1<6:=by
 unfold og
 dsimp only
 repeat' split
 all_goals (try dsimp only)
 all_goals omega
theorem Ws (h:uB t x=true) (hm:wz c t m x=true):uB t (og c t m i x).2.1=true:=by
 unfold uB at h ⊢
 simp only [Bool.and_eq_true,decide_eq_true_eq,List.all_eq_true,Bool.or_eq_true] at h ⊢
 obtain ⟨_,_,_,h4,h5,r,rest,hx,h6,h7⟩:=FY hm
 refine ⟨⟨Zg h.1.1,fun y hy => ?_⟩,?_⟩
 ·rcases rk (c:=c) (t:=t) (m:=m) (i:=i) (x:=x) with e | e
  ·rw [e] at hy;exact h.1.2 y hy
  ·rw [e.1] at hy;exact h.1.2 y (List.mem_of_mem_tail hy)
 ·rcases rk (c:=c) (t:=t) (m:=m) (i:=i) (x:=x) with e | e
  ·refine .inr ?_
   rw [e,hx]
   simp
  ·exact .inl e.2
theorem Yc (hm:Wm m) (ht:t.length≤1000) (h:SOk x):SOk (og c t m i x).2.1:=by
 refine ⟨(Sj hm h.f ht).2,?_⟩
 have:=h.s
 rcases rk (c:=c) (t:=t) (m:=m) (i:=i) (x:=x) with e | e
 ·rw [e];exact h.s
 ·rw [e.1,List.length_tail];omega
end
structure Good (n:Nat) (p:PB):Prop where
 t:FwT p.2.1
 tl:p.2.1.length≤1000
 m:Wm p.2.2.1
 w:∀ x ∈ p.2.2.2.1,WOk n x
 s:∀ x ∈ p.2.2.2.2,SOk x
theorem wp {c:CF} {t:Tyt} {m:List Int}:∀ {l:List WB} {i:Nat},D7 c t m i l=true↔∀ (j:Nat) x,l[j]? = some x→eg c t m ((i+j:Nat):Int) x=true
 | [],i=>by simp [D7]
 | y::l,i=>by
  rw [D7,Bool.and_eq_true,wp (l:=l)]
  constructor
  ·intro h j x hx
   cases j with
   | zero=>cases hx;exact h.1
   | succ j=>
    have:=h.2 j x hx
    rw [show i+(j+1)=i+1+j by omega]
    exact this
  ·intro h
   refine ⟨h 0 y rfl,fun j x hx => ?_⟩
   have:=h (j+1) x hx
   rw [show i+1+j=i+(j+1) by omega]
   exact this
theorem uQ {c:CF} {t:Tyt} {m m':List Int} {w:Int} {x:WB} (h:m'.length=m.length):eg c t m' w x=eg c t m w x:=by
 unfold eg
 rw [h]
theorem nU {p:PB} (h:fB p=true):gh p.1=true∧(p.2.2.2.1.length:Int)=p.1.1∧p.2.2.2.2.length≤3∧(∀ (j:Nat) x,p.2.2.2.1[j]? = some x→eg p.1 p.2.1 p.2.2.1 (j:Int) x=true)∧(∀ x ∈ p.2.2.2.2,uB p.2.1 x=true):=by
 unfold fB at h
 simp only [Bool.and_eq_true,decide_eq_true_eq,List.all_eq_true] at h
 refine ⟨h.1.1.1,h.1.1.2.1,h.1.1.2.2,fun j x hx => ?_,h.2⟩
 have:=wp.1 h.1.2 j x hx
 rw [Nat.zero_add] at this
 exact this
theorem B9 {p:PB} (h1:gh p.1=true) (h2:(p.2.2.2.1.length:Int)=p.1.1) (h3:p.2.2.2.2.length≤3) (h4:∀ (j:Nat) x,p.2.2.2.1[j]? = some x→eg p.1 p.2.1 p.2.2.1 (j:Int) x=true) (h5:∀ x ∈ p.2.2.2.2,uB p.2.1 x=true):fB p=true:=by
 unfold fB
 simp only [Bool.and_eq_true,decide_eq_true_eq,List.all_eq_true]
 refine ⟨⟨⟨h1,h2,h3⟩,wp.2 fun j x hx => ?_⟩,h5⟩
 rw [Nat.zero_add]
 exact h4 j x hx
theorem Fa {α:Type} {l:List α} {i:Nat} {y x:α} (h:x ∈ l.set i y):x ∈ l∨x=y:=by
 rcases List.mem_or_eq_of_mem_set h with h | h
 ·exact .inl h
 ·exact .inr h
theorem oD {p:PB} {k:PK} {P:PB×List EV→Prop} (h0:P (p,[]))
  (hw:∀ x,p.2.2.2.1[k.2.1.toNat]? = some x→k.1=0→P ((p.1,p.2.1,(cp p.1 p.2.1 p.2.2.1 k.2.1 x k.2.2).1,p.2.2.2.1.set k.2.1.toNat (cp p.1 p.2.1 p.2.2.1 k.2.1 x k.2.2).2.1,p.2.2.2.2),(cp p.1 p.2.1 p.2.2.1 k.2.1 x k.2.2).2.2))
  (hs:∀ x,p.2.2.2.2[k.2.1.toNat]? = some x→wz p.1 p.2.1 p.2.2.1 x=true→P ((p.1,p.2.1,(og p.1 p.2.1 p.2.2.1 k.2.1 x).1,p.2.2.2.1,p.2.2.2.2.set k.2.1.toNat (og p.1 p.2.1 p.2.2.1 k.2.1 x).2.1),(og p.1 p.2.1 p.2.2.1 k.2.1 x).2.2))
  (hc:P ((p.1,p.2.1,bP p.2.2.1 3 1,p.2.2.2.1,p.2.2.2.2),[])):P (f6 p k):=by
 unfold f6
 split
 ·rename_i e
  split
  ·rename_i x hx;exact hw x hx e
  ·exact h0
 ·split
  ·split
   ·rename_i x hx
    split
    ·rename_i hm;exact hs x hx hm
    ·exact h0
   ·exact h0
  ·split
   ·exact hc
   ·exact h0
theorem M7 {p:PB} {k:PK}:(f6 p k).1.2.2.1.length=p.2.2.1.length:=by
 refine oD (P:=fun r=>r.1.2.2.1.length=p.2.2.1.length) rfl (fun x _ _=>BL.len) (fun x _ _=>G0) (show (bP p.2.2.1 3 1).length=p.2.2.1.length from gR)
theorem CM {p:PB} {k:PK}:(f6 p k).1.1=p.1∧(f6 p k).1.2.1=p.2.1∧(f6 p k).1.2.2.2.1.length=p.2.2.2.1.length∧(f6 p k).1.2.2.2.2.length=p.2.2.2.2.length:=by
 refine oD (P:=fun r=>r.1.1=p.1∧r.1.2.1=p.2.1∧r.1.2.2.2.1.length=p.2.2.2.1.length∧r.1.2.2.2.2.length=p.2.2.2.2.length) ⟨rfl,rfl,rfl,rfl⟩ (fun x _ _=>⟨rfl,rfl,List.length_set,rfl⟩) (fun x _ _=>⟨rfl,rfl,rfl,List.length_set⟩) ⟨rfl,rfl,rfl,rfl⟩
theorem HS {p:PB} {k:PK}:(f6 p k).2.length≤2:=
 oD (P:=fun r=>r.2.length≤2) (Nat.zero_le _) (fun x _ _=>QK) (fun x _ _=>O1) (Nat.zero_le _)
theorem C0 {n:Nat} {p:PB} {k:PK} (h:Good n p) (hc:gh p.1=true):Good (n+1) (f6 p k).1:=by
 have up:∀ x ∈ p.2.2.2.1,WOk (n+1) x:=fun x hx=>⟨(h.w x hx).f,Nat.le_succ_of_le (h.w x hx).s,(h.w x hx).sp⟩
 refine oD (P:=fun r=>Good (n+1) r.1) ⟨h.t,h.tl,h.m,up,h.s⟩ (fun x hx _ => ?_) (fun x hx _ => ?_) ⟨h.t,h.tl,show Wm (bP p.2.2.1 3 1) from h.m.set 3 (by decide) (by decide),up,h.s⟩
 ·have hx':=h.w x (List.mem_of_getElem? hx)
  refine ⟨h.t,h.tl,UF h.m hx'.f,fun y hy => ?_,h.s⟩
  rcases Fa hy with hy | rfl
  ·exact up y hy
  ·exact Tu hc h.m hx'
 ·have hx':=h.s x (List.mem_of_getElem? hx)
  refine ⟨h.t,h.tl,(Sj h.m hx'.f h.tl).1,up,fun y hy => ?_⟩
  rcases Fa hy with hy | rfl
  ·exact h.s y hy
  ·exact Yc h.m h.tl hx'
theorem Bk {p:PB} {k:PK} (h:fB p=true) (hk:Ec k p.1.1 p.2.2.2.2.length=true):fB (f6 p k).1=true:=by
 obtain ⟨h1,h2,h3,h4,h5⟩:=nU h
 refine oD (P:=fun r=>fB r.1=true) h (fun x hx hk0 => ?_) (fun x hx hm => ?_) ?_
 ·have h0:0≤k.2.1:=by
   unfold Ec at hk
   rw [decide_eq_true_eq] at hk
   omega
  have hkk:((k.2.1.toNat:Nat):Int)=k.2.1:=by omega
  refine B9 h1 (by dsimp only;rw [List.length_set];exact h2) h3 (fun j y hy => ?_) h5
  dsimp only at hy ⊢
  rw [List.getElem?_set] at hy
  split at hy
  ·rename_i e
   split at hy
   ·cases hy
    subst e
    rw [hkk]
    have:=h4 _ x hx
    rw [hkk] at this
    exact Nc this
   ·cases hy
  ·rw [uQ BL.len]
   exact h4 j y hy
 ·refine B9 h1 h2 (by dsimp only;rw [List.length_set];exact h3) (fun j y hy => ?_) fun y hy => ?_
  ·dsimp only
   rw [uQ G0]
   exact h4 j y hy
  ·rcases Fa hy with hy | rfl
   ·exact h5 y hy
   ·exact Ws (h5 x (List.mem_of_getElem? hx)) hm
 ·refine B9 h1 h2 h3 (fun j y hy => ?_) h5
  dsimp only
  rw [uQ gR]
  exact h4 j y hy
theorem EX {P:PB→Prop} (hs:∀ p k,fB p=true→Ec k p.1.1 p.2.2.2.2.length=true→P p→P (f6 p k).1):∀ {l:List PK} {p:PB},fB p=true→P p→P (nb p l).1∧fB (nb p l).1=true
 | [],p,h,hp=>⟨hp,h⟩
 | k::l,p,h,hp=>by
  rw [nb]
  split
  ·rename_i hk
   exact EX hs (Bk h hk) (hs p k h hk hp)
  ·exact EX hs h hp
end Go.Ab
set_option linter.unusedVariables false
set_option linter.unusedSimpArgs false
namespace Go.Ab
theorem Er (n w:Int):cC n w=some (decide (0≤n∧n<w)):=by
 unfold cC
 by_cases h0:0≤n
 ·rw [leT h0,cond_true]
  by_cases h1:n<w
  ·rw [ltT h1,decide_eq_true ⟨h0,h1⟩]
  ·rw [ltF (by omega),decide_eq_false (by omega)]
 ·rw [leF (by omega),cond_false,decide_eq_false (by omega)]
theorem Ue (k:PK) (w s:Int):gI k w s=some (Ec k w s):=by
 unfold gI Ec
 simp only [Er,af,mg]
 by_cases h0:k.1=0
 ·by_cases hb:0≤k.2.1∧k.2.1<w
  ·simp [h0,hb]
  ·simp [h0,hb]
 ·by_cases h1:k.1=1
  ·by_cases hb:0≤k.2.1∧k.2.1<s
   ·simp [h1,hb]
   ·simp [h1,hb]
  ·by_cases h2:k.1=2
   ·simp [h2]
   ·simp [h0,h1,h2]
theorem r6 {α:Type}:∀ {l:List α} {i:Nat} {x:α},l[i]? = some x→l.set i x=l
 | [],_,_,h=>by cases h
 | a::l,0,x,h=>by cases h;rfl
 | a::l,i+1,x,h=>by rw [List.set_cons_succ,r6 (l:=l) (by simpa using h)]
theorem aey {i n:Nat} (h:i<n):decide ((0:Int)≤(i:Int)∧(i:Int).toNat<n)=true:=decide_eq_true ⟨by omega,by omega⟩
theorem F4 (k:Nat) (hk:1000≤k) {t:Tyt} (ht:FwT t):dn k t=some t:=by
 have hl:=ht.len
 unfold dn
 rw [bu (by omega),af]
 have key:∀ (r:Tyt) (q n:Nat),t.drop q=r→q≤t.length→r.length<n→de k t n t (t.length:Int) (q:Int) t=some t:=by
  intro r
  induction r with
  | nil=>
   intro q n hr hq hn
   obtain ⟨n,rfl⟩:=gu hn
   have:=dE hr
   rw [de,ltF (by omega),cond_false,decide_eq_true (Nat.le_refl _),br,List.take_length]
  | cons v r ih=>
   intro q n hr hq hn
   obtain ⟨n,rfl⟩:=gu hn
   obtain ⟨h0,h1,h2,_,h4⟩:=cM hr
   have hv:=ht.kids v (List.mem_of_getElem? h1)
   rw [de,ltN h0,cond_true,aey h0,cond_true,Int.toNat_natCast,h1,af,bu (by omega),af,cond_true,af,fY (by omega),r6 h1]
   exact ih (q+1) n h2 (by omega) (by simp only [List.length_cons] at hn;omega)
 have:=key t 0 (k+1) rfl (Nat.zero_le _) (by omega)
 simpa using this
theorem acC (k n:Nat) {t:Tyt} {l:List Int} (hl:l.length≤1000) (hn:l.length<n):cg k n l (l.length:Int) t 0=some (Eo (fun r => !decide (0≤r∧r<(t.length:Int))) l 0):=by
 refine Fx (F:=fun n i=>cg k n l (l.length:Int) t i) (l:=l) _ ?_ ?_ n hn
 ·intro n
  simp only [cg,rF,cond_false]
 ·intro n i x hi hx
  simp only [cg,ltN hi,cond_true,fU hx,af]
  rw [fY (by omega)]
  by_cases h0:x<0
  ·rw [ltT h0,cond_true,decide_eq_false (by omega)]
   rfl
  ·rw [ltF (by omega),cond_false]
   by_cases h1:(t.length:Int)≤x
   ·rw [leT h1,cond_true,decide_eq_false (by omega)]
    rfl
   ·rw [leF (by omega),cond_false,decide_eq_true (by omega)]
    rfl
theorem YU (k n:Nat) (hk:1000≤k) {t:Tyt} {S:List SB} (hS:S.length≤1000) (hr:∀ x ∈ S,x.2.1.length≤1000) (hn:S.length<n):bM k n S (S.length:Int) t 0=some (Eo (fun x => !uB t x) S 0):=by
 refine Fx (F:=fun n i=>bM k n S (S.length:Int) t i) (l:=S) _ ?_ ?_ n hn
 ·intro n
  simp only [bM,rF,cond_false]
 ·intro n i x hi hx
  have hx':=hr x (List.mem_of_getElem? hx)
  have ho:=acC k (k+29) (t:=t) hx' (by omega)
  simp only [bM,ltN hi,cond_true,fU hx,af,ho,nN]
  rw [fY (by omega)]
  have e:uB t x=(decide (0≤x.1∧x.1<6) && !(x.2.1.any fun r => !decide (0≤r∧r<(t.length:Int)))&&(decide (x.1=0)||decide (x.2.1≠[]))):=by
   unfold uB
   rw [List.all_eq_not_any_not]
  rw [e,A5,mg]
  by_cases h0:x.1<0
  ·rw [ltT h0,cond_true,decide_eq_false (show ¬ (0≤x.1∧x.1<6) by omega)]
   rfl
  ·rw [ltF (by omega),cond_false]
   by_cases h6:6≤x.1
   ·rw [leT h6,cond_true,decide_eq_false (show ¬ (0≤x.1∧x.1<6) by omega)]
    rfl
   ·rw [leF (by omega),cond_false,decide_eq_true (show 0≤x.1∧x.1<6 by omega)]
    cases (x.2.1.any fun r => !decide (0≤r∧r<(t.length:Int))) with
    | true=>rfl
    | false=>
     rw [cond_false]
     by_cases hz:x.1=0
     ·rw [decide_eq_true hz]
      rfl
     ·rw [decide_eq_false hz,Bool.not_false,cond_true]
      by_cases hn:x.2.1=[]
      ·rw [hn]
       rfl
      ·have hl:¬ ((x.2.1.length:Int)=0):=by
        intro h
        exact hn (List.length_eq_zero_iff.1 (by omega))
       rw [decide_eq_false hl,decide_eq_true hn]
       rfl
section
variable {k:Nat} (hk:9223372036854779000≤k) {p:PB} (ht:Wt p.2.1) (hw:∀ x ∈ p.2.2.2.1,x.2.1.length≤9000) (hs:∀ x ∈ p.2.2.2.2,x.2.1.length≤1000)
include hk ht hw hs
theorem G8:eq k p=some (fB p):=by
 unfold eq fB
 simp only [Prod.eta,gi,af]
 cases hm:gh p.1 with
 | false=>rfl
 | true=>
  have hc:=bO hm
  rw [Bool.not_true,cond_false,Bool.true_and,A5]
  by_cases h1:(p.2.2.2.1.length:Int)=p.1.1
  ·rw [decide_eq_true h1,Bool.not_true,cond_false]
   by_cases h3:(3:Int)<p.2.2.2.2.length
   ·rw [ltT h3,cond_true,decide_eq_false (by omega)]
    rfl
   ·rw [ltF (by omega),cond_false,decide_eq_true ⟨h1,by omega⟩,Bool.true_and]
    have key:∀ (r:List WB) (q n:Nat),p.2.2.2.1.drop q=r→q≤p.2.2.2.1.length→r.length<n→eb k p n (q:Int)=some (D7 p.1 p.2.1 p.2.2.1 q r&&p.2.2.2.2.all (uB p.2.1)):=by
     intro r
     induction r with
     | nil=>
      intro q n hr hq hn
      obtain ⟨n,rfl⟩:=gu hn
      have:=dE hr
      rw [eb,ltF (by omega),cond_false,YU k (k+32) (by omega) (by omega) hs (by omega),af,nN,D7,Bool.true_and,List.all_eq_not_any_not]
     | cons v r ih=>
      intro q n hr hq hn
      obtain ⟨n,rfl⟩:=gu hn
      obtain ⟨h0,h1',h2,_,h4⟩:=cM hr
      have hv:=hw v (List.mem_of_getElem? h1')
      rw [eb,ltN h0,cond_true,fU h1',af]
      try simp only [Prod.eta]
      rw [Ku (by omega) p.1 ht p.2.2.1 (q:Int) v hv,af,D7,fY (by omega),ih (q+1) n h2 (by omega) (by simp only [List.length_cons] at hn;omega)]
      cases eg p.1 p.2.1 p.2.2.1 (q:Int) v <;> rfl
    have:=key p.2.2.2.1 0 (k+33) rfl (Nat.zero_le _) (by omega)
    simpa using this
  ·rw [decide_eq_false h1,Bool.not_false,cond_true,decide_eq_false (fun h=>h1 h.1)]
   rfl
end
theorem J3 (k:Nat) (c1 c2 c3 c4:Int) (t:Tyt) (m:List Int) (W:List WB) {S:List SB} (hS:S.length≤1000) (hr:∀ x ∈ S,x.2.1.length≤1000):∀ (r:List SB) (q n:Nat),S.drop q=r→q≤S.length→r.length<n →
  cK k n c1 c2 c3 c4 t m W S (S.length:Int) W (q:Int) S=some (c1,c2,c3,c4,t,m,W,S,W,S):=by
 intro r
 induction r with
 | nil=>
  intro q n hr hq hn
  obtain ⟨n,rfl⟩:=gu hn
  have:=dE hr
  rw [cK,ltF (by omega),cond_false]
 | cons v r ih=>
  intro q n hr' hq hn
  obtain ⟨n,rfl⟩:=gu hn
  obtain ⟨h0,h1,h2,_,h4⟩:=cM hr'
  have hv:=hr v (List.mem_of_getElem? h1)
  rw [cK,ltN h0,cond_true,aey h0,cond_true,Int.toNat_natCast,h1,af,bu (by omega),af,cond_true,af,fY (by omega)]
  try simp only [Prod.eta]
  rw [r6 h1]
  exact ih (q+1) n h2 (by omega) (by simp only [List.length_cons] at hn;omega)
theorem G5 (k:Nat) (hk:1000≤k) (c1 c2 c3 c4:Int) (t:Tyt) (m:List Int) {W:List WB} {S:List SB} (hW:W.length≤1000) (hw:∀ x ∈ W,x.2.1.length≤9000) (hS:S.length≤1000) (hs:∀ x ∈ S,x.2.1.length≤1000):∀ (r:List WB) (q n:Nat),W.drop q=r→q≤W.length→r.length<n →
  bN k n c1 c2 c3 c4 t m W S (W.length:Int) (q:Int) W=some (c1,c2,c3,c4,t,m,W,S,W,S):=by
 intro r
 induction r with
 | nil=>
  intro q n hr hq hn
  obtain ⟨n,rfl⟩:=gu hn
  have:=dE hr
  rw [bN,ltF (by omega),cond_false]
  exact J3 k c1 c2 c3 c4 t m W hS hs S 0 (k+61) rfl (Nat.zero_le _) (by omega)
 | cons v r ih=>
  intro q n hr' hq hn
  obtain ⟨n,rfl⟩:=gu hn
  obtain ⟨h0,h1,h2,_,h4⟩:=cM hr'
  have hv:=hw v (List.mem_of_getElem? h1)
  rw [bN,ltN h0,cond_true,aey h0,cond_true,Int.toNat_natCast,h1,af,bu (by omega),af,cond_true,af,fY (by omega)]
  try simp only [Prod.eta]
  rw [r6 h1]
  exact ih (q+1) n h2 (by omega) (by simp only [List.length_cons] at hn;omega)
def Wp (l:List PK):Prop:=∀ x ∈ l,0≤x.2.2∧x.2.2≤18446744073709551615
section
variable {k:Nat} (hk:9223372036854779000≤k) {p0:PB} {l:List PK} (hl:l.length≤1000) (hd:Wp l)
include hk hl hd
theorem QR:∀ (r:List PK) (q n N:Nat) (p:PB) (W0:List WB) (S0:List SB) (evs:List EV) (e:Nat),l.drop q=r→q≤l.length→r.length<n→(e=3∨e=0)→p.1=p0.1→p.2.2.2.2.length=p0.2.2.2.2.length→W0.length=p.2.2.2.1.length→S0.length=p.2.2.2.2.length→Good N p→fB p=true→N+r.length≤9000→evs.length+2*r.length≤4000 →
  bh k p0 l n p.1.1 p.1.2.1 p.1.2.2.1 p.1.2.2.2 p.2.1 W0 S0 p.2.2.2.1 p.2.2.2.2 evs (q:Int) p.2.2.1 e=some ((nb p r).1,evs++(nb p r).2):=by
 intro r
 induction r with
 | nil=>
  intro q n N p W0 S0 evs e hr hq hn he hc hS hW0 hS0 hg hm hN hE
  obtain ⟨n,rfl⟩:=gu hn
  have:=dE hr
  rw [bh,ltF (by omega),cond_false,decide_eq_true (by omega),br,decide_eq_true (by omega),br,hW0,hS0,List.take_length,List.take_length,nb,List.append_nil]
 | cons v r ih=>
  intro q n N p W0 S0 evs e hr hq hn he hc hS hW0 hS0 hg hm hN hE
  obtain ⟨n,rfl⟩:=gu hn
  obtain ⟨h0,h1,h2,_,h4⟩:=cM hr
  have hv:=hd v (List.mem_of_getElem? h1)
  obtain ⟨m1,m2,m3,m4,m5⟩:=nU hm
  have hcc:=bO m1
  simp only [List.length_cons] at hn hN hE
  have hml:p.2.2.1.length≤1000:=by
   have hW1:0<p.2.2.2.1.length:=by omega
   have:=(ER (m4 0 _ (List.getElem?_eq_getElem hW1))).2.1
   have:=ph m1
   omega
  have hes:(e==3||e==0)=true:=by rcases he with rfl | rfl <;> rfl
  have next:∀ (evs':List EV) (p':PB),p'.1=p.1→p'.2.1=p.2.1→p'.2.2.2.1.length=p.2.2.2.1.length→p'.2.2.2.2.length=p.2.2.2.2.length→Good (N+1) p'→fB p'=true→evs'.length≤evs.length+2→∀ e',(e'=3∨e'=0) →
    bh k p0 l n p.1.1 p.1.2.1 p.1.2.2.1 p.1.2.2.2 p.2.1 W0 S0 p'.2.2.2.1 p'.2.2.2.2 evs' ((q+1:Nat):Int) p'.2.2.1 e'=some ((nb p' r).1,evs'++(nb p' r).2):=fun evs' p' g1 g2 g3 g4 g5 g6 g7 e' he'=>by
   have:=ih (q+1) n (N+1) p' W0 S0 evs' e' h2 (by omega) (by omega) he' (by rw [g1,hc]) (by omega) (by omega) (by omega) g5 g6 (by omega) (by omega)
   rw [g1,g2] at this
   exact this
  have hw:IntKind.i64.wrap ((q:Int)+1)=((q+1:Nat):Int):=fY (by omega)
  have up:Good (N+1) p:=⟨hg.t,hg.tl,hg.m,fun x hx=>⟨(hg.w x hx).f,Nat.le_succ_of_le (hg.w x hx).s,(hg.w x hx).sp⟩,hg.s⟩
  rw [bh,ltN h0,cond_true,fU h1,af]
  simp only [Prod.eta,hw]
  rw [Ue,af,nb,← hc,← hS]
  cases hf:Ec v p.1.1 p.2.2.2.2.length with
  | false=>
   rw [cond_false,if_neg (by simp)]
   exact next evs p rfl rfl rfl rfl up hm (by omega) e he
  | true=>
   have st:=CM (p:=p) (k:=v)
   have sg:=C0 (k:=v) hg m1
   have sm:=Bk hm hf
   have se:=HS (p:=p) (k:=v)
   have nx:=fun e' he'=>next (evs++(f6 p v).2) (f6 p v).1 st.1 st.2.1 st.2.2.1 st.2.2.2 sg sm (by rw [List.length_append];omega) e' he'
   have hroom:room (evs++(f6 p v).2).length 24=true:=ur (by rw [List.length_append];omega)
   have hroom0:room evs.length 24=true:=ur (by omega)
   rw [cond_true,if_pos rfl]
   simp only [← List.append_assoc]
   have hfit:=hf
   unfold Ec at hfit
   rw [decide_eq_true_eq] at hfit
   by_cases k0:v.1=0
   ·have hb:0≤v.2.1∧v.2.1<p.1.1:=by omega
    have hi:v.2.1.toNat<p.2.2.2.1.length:=by omega
    have hx:=List.getElem?_eq_getElem hi
    have hdec:decide (0≤v.2.1∧v.2.1.toNat<W0.length)=true:=decide_eq_true ⟨hb.1,by omega⟩
    generalize p.2.2.2.1[v.2.1.toNat]=x at hx
    have hxo:=hg.w x (List.mem_of_getElem? hx)
    have es:f6 p v=((p.1,p.2.1,(cp p.1 p.2.1 p.2.2.1 v.2.1 x v.2.2).1,p.2.2.2.1.set v.2.1.toNat (cp p.1 p.2.1 p.2.2.1 v.2.1 x v.2.2).2.1,p.2.2.2.2),(cp p.1 p.2.1 p.2.2.1 v.2.1 x v.2.2).2.2):=by
     unfold f6
     rw [if_pos k0,hx]
    rw [mg,decide_eq_true k0,cond_true,hdec,cond_true,hx,af]
    try simp only [Prod.eta]
    rw [Qm (by omega) p.1 hg.t.wt hg.m hml v.2.1 hxo.f (by have:=hxo.s;omega) (by have:=hxo.sp;omega) hv,af,cond_true,af,hes,br]
    rw [es] at nx hroom ⊢
    rw [hroom,cond_true]
    exact nx 3 (.inl rfl)
   ·rw [mg,decide_eq_false k0,cond_false]
    by_cases k1:v.1=1
    ·have hb:0≤v.2.1∧v.2.1<(p.2.2.2.2.length:Int):=by omega
     have hi:v.2.1.toNat<p.2.2.2.2.length:=by omega
     have hx:=List.getElem?_eq_getElem hi
     have hdec:decide (0≤v.2.1∧v.2.1.toNat<S0.length)=true:=decide_eq_true ⟨hb.1,by omega⟩
     generalize p.2.2.2.2[v.2.1.toNat]=x at hx
     have hxo:=hg.s x (List.mem_of_getElem? hx)
     rw [mg,decide_eq_true k1,cond_true,hdec,cond_true,hx,af]
     try simp only [Prod.eta]
     rw [Sc (by omega) p.1 hg.t.wt,af]
     cases hsm:wz p.1 p.2.1 p.2.2.1 x with
     | false=>
      have es:f6 p v=(p,[]):=by
       unfold f6
       rw [if_neg k0,if_pos k1,hx]
       dsimp only
       rw [hsm,if_neg (by simp)]
      rw [es] at nx ⊢
      rw [cond_false,hes,br,hroom0,cond_true]
      have:=nx 3 (.inl rfl)
      rw [List.append_nil] at this ⊢
      exact this
     | true=>
      have es:f6 p v=((p.1,p.2.1,(og p.1 p.2.1 p.2.2.1 v.2.1 x).1,p.2.2.2.1,p.2.2.2.2.set v.2.1.toNat (og p.1 p.2.1 p.2.2.1 v.2.1 x).2.1),(og p.1 p.2.1 p.2.2.1 v.2.1 x).2.2):=by
       unfold f6
       rw [if_neg k0,if_pos k1,hx]
       dsimp only
       rw [hsm,if_pos rfl]
      rw [cond_true,cond_true,af]
      rw [Up (by omega) p.1 hg.t.wt hg.m hml v.2.1 hxo.f hxo.s hg.tl,af,cond_true,af,hes,br]
      rw [es] at nx hroom ⊢
      rw [hroom,cond_true]
      exact nx 3 (.inl rfl)
    ·rw [mg,decide_eq_false k1,cond_false]
     by_cases k2:v.1=2
     ·have es:f6 p v=((p.1,p.2.1,bP p.2.2.1 3 1,p.2.2.2.1,p.2.2.2.2),[]):=by
       unfold f6
       rw [if_neg k0,if_neg k1,if_pos k2]
      rw [mg,decide_eq_true k2,cond_true,kc hml,af,hes,br,hroom0,cond_true]
      rw [es] at nx ⊢
      have:=nx 3 (.inl rfl)
      rw [List.append_nil] at this ⊢
      exact this
     ·have es:f6 p v=(p,[]):=by
       unfold f6
       rw [if_neg k0,if_neg k1,if_neg k2]
      rw [mg,decide_eq_false k2,cond_false,hes,br,hroom0,cond_true]
      rw [es] at nx ⊢
      have:=nx 3 (.inl rfl)
      rw [List.append_nil] at this ⊢
      exact this
theorem aag {N:Nat} (hg:Good N p0) (hW:p0.2.2.2.1.length≤20) (hS:p0.2.2.2.2.length≤20) (hml:p0.2.2.1.length≤1000) (hN:N+l.length≤9000):gB k p0 l=some (ab1 p0 l):=by
 have hw:∀ x ∈ p0.2.2.2.1,x.2.1.length≤9000:=fun x hx=>by have:=(hg.w x hx).s;omega
 have hs:∀ x ∈ p0.2.2.2.2,x.2.1.length≤1000:=fun x hx=>(hg.s x hx).s
 unfold gB ab1
 try simp only [Prod.eta]
 rw [F4 _ (by omega) hg.t,af,bu (by omega),af,bu (by omega),af,bu (by omega),af]
 have ho:=G5 k (by omega) p0.1.1 p0.1.2.1 p0.1.2.2.1 p0.1.2.2.2 p0.2.1 p0.2.2.1 (by omega) hw (by omega) hs p0.2.2.2.1 0 (k+61) rfl (Nat.zero_le _) (by omega)
 refine (congrArg (fun z=>ob z _) ho).trans ?_
 rw [af]
 dsimp only
 rw [decide_eq_true (Nat.le_refl _),br,decide_eq_true (Nat.le_refl _),br,G8 (by omega) hg.t.wt hw hs,af,List.take_length,List.take_length,decide_eq_true (Nat.le_refl _),decide_eq_true (Nat.le_refl _)]
 cases hm:fB p0 with
 | false=>
  rw [Bool.not_false,cond_true,br,br,if_neg (by simp),List.take_length,List.take_length]
 | true=>
  rw [Bool.not_true,cond_false,if_pos rfl]
  exact QR hk hl hd l 0 (k+62) N p0 p0.2.2.2.1 p0.2.2.2.2 [] 0 rfl (Nat.zero_le _) (by omega) (.inr rfl) rfl rfl rfl rfl hg hm hN (by simp;omega)
end
end Go.Ab
set_option linter.unusedVariables false
set_option linter.unusedSimpArgs false
namespace Go.Ab
theorem ad0 {k:Nat} (hk:1000≤k) (c:CF):lD k c=some (List.replicate (dg c).toNat 0):=by
 have hs:0≤dg c∧dg c≤190:=by
  unfold dg
  split
  ·rename_i h
   have hm:=bO h
   have:=ic h (w:=c.1) (by omega) (by omega)
   omega
  ·omega
 have key:∀ (d i n t:Nat),(t=0∨t=1)→i+d=(dg c).toNat→d<n→eL k c n (dg c) (List.replicate i 0) (i:Int) t=some (List.replicate (dg c).toNat 0):=by
  intro d
  induction d with
  | zero=>
   intro i n t ht hi hn
   obtain ⟨n,rfl⟩:=gu hn
   rw [eL,ltF (by omega),cond_false]
   rw [show i=(dg c).toNat by omega]
  | succ d ih=>
   intro i n t ht hi hn
   obtain ⟨n,rfl⟩:=gu hn
   have h1:(t==1||t==0)=true:=by rcases ht with rfl | rfl <;> rfl
   rw [eL,ltT (by omega),cond_true,h1,br,ur (by simp;omega),cond_true,fY (by omega)]
   have:=ih (i+1) n 1 (.inr rfl) (by omega) (by omega)
   rw [List.replicate_succ'] at this
   exact this
 unfold lD
 simp only [Prod.eta,AH,af]
 exact key (dg c).toNat 0 (k+3) 0 (.inl rfl) (by omega) (by omega)
theorem abf {l:List Int} (h:l.length≤1000):gV l=some (0,l,dY):=by
 unfold gV
 rw [bu (by omega),af]
 rfl
theorem Ht {α:Type} (p:α→Bool):∀ (l:List α) (i:Nat),Eo p l i = -1∨∃ (j:Nat) (x:α),Eo p l i=((i+j:Nat):Int)∧l[j]? = some x∧p x=true
 | [],_ => .inl rfl
 | x::r,i=>by
  rw [Eo]
  by_cases h:p x=true
  ·rw [if_pos h]
   exact .inr ⟨0,x,rfl,rfl,h⟩
  ·rw [if_neg h]
   rcases Ht p r (i+1) with e | ⟨j,y,e,h1,h2⟩
   ·exact .inl e
   ·refine .inr ⟨j+1,y,?_,h1,h2⟩
    rw [e]
    congr 1
    omega
theorem WM (k:Nat) {l:List Int} (hl:l.length≤1000) (hk:1001≤k) (v:Int):dl k l v=some (Eo (fun y=>v==y) l 0):=by
 unfold dl
 refine Fx (F:=fun n i=>bw k l v n i) (l:=l) _ ?_ ?_ k (by omega)
 ·intro n
  simp only [bw,rF,cond_false]
 ·intro n i y hi hy
  simp only [bw,ltN hi,cond_true,fU hy,af]
  rw [fY (by omega)]
theorem Zo {k:Nat} (hk:9223372036854775808≤k) {t:Tyt} (ht:FwT t) (q:Int):∃ z,eT k t q=some z:=by
 have hlen:=ht.len
 unfold eT
 rw [Io k hk t ht.wt,af]
 cases wM t with
 | false=>exact ⟨_,rfl⟩
 | true=>
  rw [cond_true]
  have inner:∀ (i:Nat),i<t.length→∀ (o:Int→Option Int),(∃ z,o ((i+1:Nat):Int)=some z)→∀ (K:List Int),K.length≤40→∀ (r:List Int) (j n:Nat),K.drop j=r→j≤K.length→r.length<n→∃ z,bZ k t q o n K (K.length:Int) (j:Int) (i:Int)=some z:=by
   intro i hi o ho K hK r
   induction r with
   | nil=>
    intro j n hr hj hn
    obtain ⟨n,rfl⟩:=gu hn
    have:=dE hr
    rw [bZ,ltF (by omega),cond_false,fY (by omega)]
    exact ho
   | cons x r ih=>
    intro j n hr hj hn
    obtain ⟨n,rfl⟩:=gu hn
    obtain ⟨h0,h1,h2,_,h4⟩:=cM hr
    rw [bZ,ltN h0,cond_true,fU h1,af]
    cases x==q with
    | true=>exact ⟨_,rfl⟩
    | false=>
     rw [cond_false,fY (by omega)]
     exact ih (j+1) n h2 (by omega) (by simp only [List.length_cons] at hn;omega)
  have outer:∀ (r:Tyt) (i n:Nat),t.drop i=r→i≤t.length→r.length<n→∃ z,bG k t q n (i:Int)=some z:=by
   intro r
   induction r with
   | nil=>
    intro i n hr hi hn
    obtain ⟨n,rfl⟩:=gu hn
    have:=dE hr
    rw [bG,ltF (by omega),cond_false]
    exact ⟨_,rfl⟩
   | cons x r ih=>
    intro i n hr hi hn
    obtain ⟨n,rfl⟩:=gu hn
    obtain ⟨h0,h1,h2,_,h4⟩:=cM hr
    have hx:=ht.kids x (List.mem_of_getElem? h1)
    rw [bG,ltN h0,cond_true,fU h1,af]
    exact inner i h0 _ (ih (i+1) n h2 (by omega) (by simp only [List.length_cons] at hn;omega)) x.2 hx x.2 0 (k+18) rfl (Nat.zero_le _) (by omega)
  exact outer t 0 (k+18) rfl (Nat.zero_le _) (by omega)
theorem UA {k:Nat} (hk:9223372036854775808≤k) {t:Tyt} (ht:FwT t):∀ (d i n g e:Nat) (L:List Int),i+d=t.length→d<n→L.length≤i→(e=0∨e=1)→(L≠[]→e=1)→(∀ r ∈ L,0≤r∧r<(t.length:Int)) →
  ∃ g' L' e',bD k n t (t.length:Int) g L (i:Int) e=some (g',L',e')∧L'.length≤t.length∧(L'≠[]→e'=1)∧(∀ r ∈ L',0≤r∧r<(t.length:Int)):=by
 have hlen:=ht.len
 intro d
 induction d with
 | zero=>
  intro i n g e L hi hn hL he hne hr
  obtain ⟨n,rfl⟩:=gu hn
  rw [bD,ltF (by omega),cond_false]
  exact ⟨g,L,e,rfl,by omega,hne,hr⟩
 | succ d ih=>
  intro i n g e L hi hn hL he hne hr
  obtain ⟨n,rfl⟩:=gu hn
  obtain ⟨z,hz⟩:=Zo hk ht (i:Int)
  rw [bD,ltT (by omega),cond_true,hz,af,fY (by omega)]
  cases z == -1 with
  | true=>
   have he1:(e==1||e==0)=true:=by rcases he with rfl | rfl <;> rfl
   rw [cond_true,he1,br,ur (by simp;omega),cond_true]
   refine ih (i+1) n (g+1) 1 (L++[(i:Int)]) (by omega) (by omega) (by simp;omega) (.inr rfl) (fun _=>rfl) fun r hr' => ?_
   rcases List.mem_append.1 hr' with h | h
   ·exact hr r h
   ·rw [List.mem_singleton.1 h];omega
  | false=>
   rw [cond_false]
   exact ih (i+1) n g e L (by omega) (by omega) (by omega) he hne hr
def TQ (w:Nat):WB:=(0,[],Fu 1 (w:Int) 0,0,0)
def nM (n:Nat):List WB:=(List.range n).map TQ
def mr (roots:List (List Int)):List SB:=roots.map fun l=>(0,l,dY)
def Kn (c:CF) (t:Tyt) (roots:List (List Int)):PB:=(c,t,List.replicate (dg c).toNat 0,nM c.1.toNat,mr roots)
def rh:PB:=((0,0,0,0),[],[],[],[])
section
variable {k:Nat} (hk:9223372036854779000≤k) (c:CF) (t:Tyt) (ht:t.length≤40) (roots:List (List Int))
include hk ht
theorem JX (o0:Tyt→List Int→Nat→List WB→Int→List SB→Nat→Nat→List Int→Option (PB×Bool)) (t':Tyt) (m:List Int) (W:List WB) (i0:Int) (S:List SB) (x:List Int) (hx:x.length≤1000) (hS:S.length≤100) (e:Nat) (he:e=9∨e=0) :
  ∀ (r:List Int) (q n len z:Nat) (L:List Int),x.drop q=r→q≤x.length→r.length<n→len≤L.length→L.length≤40→(0<len→z=1)→(∀ y ∈ L.take len,0≤y∧y<(t.length:Int))→(∀ y ∈ x.take q,0≤y∧y<(t.length:Int)) →
  cQ k c t roots o0 n x t' m (x.length:Int) z W len (q:Int) L i0 S e=some (rh,false) ∨
  ∃ (len' z':Nat) (L':List Int),len'≤L'.length∧L'.length≤40∧(0<len'→z'=1)∧(∀ y ∈ L'.take len',0≤y∧y<(t.length:Int))∧(∀ y ∈ x,0≤y∧y<(t.length:Int)) ∧
   cQ k c t roots o0 n x t' m (x.length:Int) z W len (q:Int) L i0 S e=o0 t' m z' W (IntKind.i64.wrap (i0+1)) (S++[(0,x,dY)]) 9 len' L':=by
 have _h:=ht
 intro r
 induction r with
 | nil=>
  intro q n len z L hr hq hn hlen hL hz hy hxq
  obtain ⟨n,rfl⟩:=gu hn
  have:=dE hr
  have he1:(e==9||e==0)=true:=by rcases he with rfl | rfl <;> rfl
  refine .inr ⟨len,z,L,hlen,hL,hz,hy,?_,?_⟩
  ·rw [List.take_of_length_le (by omega)] at hxq
   exact hxq
  ·rw [cQ,ltF (by omega),cond_false,abf hx,af,he1,br]
   rw [ur (by simp;omega),cond_true]
 | cons v r ih=>
  intro q n len z L hr hq hn hlen hL hz hy hxq
  obtain ⟨n,rfl⟩:=gu hn
  obtain ⟨h0,h1,h2,_,h4⟩:=cM hr
  simp only [List.length_cons] at hn
  rw [cQ,ltN h0,cond_true,fU h1,af,decide_eq_true hlen,br,WM (k+20) (by rw [List.length_take];omega) (by omega) v,af]
  rcases Ht (fun y=>v==y) (L.take len) 0 with e1 | ⟨j,y,e1,hj,hvy⟩
  ·rw [e1]
   exact .inl rfl
  ·have hvy':v=y:=by simpa using hvy
   have hjl:j<len:=by
    have:=(List.getElem?_eq_some_iff.1 hj).1
    rw [List.length_take] at this
    omega
   have hyr:=hy y (List.mem_of_getElem? hj)
   rw [e1,Nat.zero_add,ltF (by omega),cond_false,hz (by omega),show ((1:Nat)==1)=true from rfl,br,fY (by omega),Int.toNat_natCast,Int.toNat_natCast,decide_eq_true (show len≤L.length∧(0:Int)≤(j:Int)∧(j:Int)<((j+1:Nat):Int)∧j+1≤len∧len≤9223372036854775807 by omega),br,fY (by omega),show len - (j+1 - j)=len - 1 by omega]
   have hc1:(EB (L.take len) j (j+1)).length=len:=by
    rw [Hz (by omega) (by rw [List.length_take];omega),List.length_take]
    omega
   have hc2:(EB (L.take len) j (j+1)++L.drop len).length=L.length:=by
    rw [List.length_append,hc1,List.length_drop]
    omega
   refine ih (q+1) n (len - 1) 1 _ h2 (by omega) (by omega) (by rw [hc2];omega) (by rw [hc2];exact hL) (fun _=>rfl) ?_ ?_
   ·intro y' hy'
    rw [List.take_append_of_le_length (by rw [hc1];omega)] at hy'
    unfold EB at hy'
    rw [List.take_append_of_le_length (by simp;omega)] at hy'
    rcases List.mem_append.1 (List.mem_of_mem_take hy') with h | h
    ·exact hy y' (List.mem_of_mem_take h)
    ·exact hy y' (List.mem_of_mem_drop h)
   ·intro y' hy'
    rw [List.take_add_one,h1] at hy'
    rcases List.mem_append.1 hy' with h | h
    ·exact hxq y' h
    ·rw [show y'=v by simpa using h,hvy']
     exact hyr
theorem Jy (hR:roots.length≤3) (hr:∀ l ∈ roots,l.length≤1000) (W:List WB):∀ (r:List (List Int)) (q n len z e:Nat) (L:List Int) (t':Tyt) (m:List Int),roots.drop q=r→q≤roots.length→r.length<n→len≤L.length→L.length≤40→(0<len→z=1)→(e=9∨e=0)→(∀ y ∈ L.take len,0≤y∧y<(t.length:Int))→(∀ l ∈ roots.take q,∀ y ∈ l,0≤y∧y<(t.length:Int)) →
  b8 k c t roots n t' m z W (q:Int) (mr (roots.take q)) e len L=some (rh,false) ∨
  b8 k c t roots n t' m z W (q:Int) (mr (roots.take q)) e len L=some ((c,t',m,W,mr roots),true)∧(∀ l ∈ roots,∀ y ∈ l,0≤y∧y<(t.length:Int)):=by
 intro r
 induction r with
 | nil=>
  intro q n len z e L t' m hq' hq hn hlen hL hz he hy hxq
  obtain ⟨n,rfl⟩:=gu hn
  have:=dE hq'
  rw [List.take_of_length_le (by omega)] at hxq ⊢
  rw [b8,ltF (by omega),cond_false]
  exact .inr ⟨rfl,hxq⟩
 | cons v r ih=>
  intro q n len z e L t' m hq' hq hn hlen hL hz he hy hxq
  obtain ⟨n,rfl⟩:=gu hn
  obtain ⟨h0,h1,h2,_,h4⟩:=cM hq'
  simp only [List.length_cons] at hn
  have hv:=hr v (List.mem_of_getElem? h1)
  have hSl:(mr (roots.take q)).length≤100:=by unfold mr;rw [List.length_map,List.length_take];omega
  rw [b8,ltN h0,cond_true,fU h1,af]
  rcases JX hk c t ht roots (fun s62 s63 s64 s77 s113 s115 s116 s135 s138=>b8 k c t roots n s62 s63 s64 s77 s113 s115 s116 s135 s138) t' m W (q:Int) (mr (roots.take q)) v hv hSl e he v 0 (k+21) len z L rfl (Nat.zero_le _) (by omega) hlen hL hz hy (by simp) with h | ⟨len',z',L',g1,g2,g3,g4,g5,g6⟩
  ·exact .inl h
  ·have hs:mr (roots.take q)++[(0,v,dY)]=mr (roots.take (q+1)):=by
    unfold mr
    rw [List.take_add_one,h1,List.map_append]
    rfl
   rw [hs,fY (by omega)] at g6
   have:=ih (q+1) n len' z' 9 L' t' m h2 (by omega) (by omega) g1 g2 g3 (.inl rfl) g4 (fun l hl=>by
    rw [List.take_add_one,h1] at hl
    rcases List.mem_append.1 hl with h | h
    ·exact hxq l h
    ·rw [show l=v by simpa using h]
     exact g5)
   have g6':cQ k c t roots (fun s62 s63 s64 s77 s113 s115 s116 s135 s138=>b8 k c t roots n s62 s63 s64 s77 s113 s115 s116 s135 s138) (k+21) v t' m (v.length:Int) z W len 0 L (q:Int) (mr (roots.take q)) e=_:=g6
   rw [g6']
   exact this
theorem Pt (hR:roots.length≤3) (hr:∀ l ∈ roots,l.length≤1000) (hc:0≤c.1∧c.1≤8) (t':Tyt) (m L:List Int) (z:Nat) (hL:L.length≤40) (hz:L≠[]→z=1) (hy:∀ y ∈ L,0≤y∧y<(t.length:Int)):∀ (d i n e:Nat),(i:Int)+d=c.1→d<n→(e=11∨e=0) →
  cP k c t roots n t' m L z (i:Int) (nM i) e=some (rh,false) ∨
  cP k c t roots n t' m L z (i:Int) (nM i) e=some ((c,t',m,nM c.1.toNat,mr roots),true)∧(∀ l ∈ roots,∀ y ∈ l,0≤y∧y<(t.length:Int)):=by
 intro d
 induction d with
 | zero=>
  intro i n e hi hn he
  obtain ⟨n,rfl⟩:=gu hn
  rw [cP,ltF (by omega),cond_false,show c.1.toNat=i by omega]
  exact Jy hk c t ht roots hR hr (nM i) roots 0 (k+21) L.length z 0 L t' m rfl (Nat.zero_le _) (by omega) (Nat.le_refl _) hL (fun h=>hz (fun e=>by rw [e] at h;cases h)) (.inr rfl) (by rw [List.take_length];exact hy) (by simp)
 | succ d ih=>
  intro i n e hi hn he
  obtain ⟨n,rfl⟩:=gu hn
  have he1:(e==11||e==0)=true:=by rcases he with rfl | rfl <;> rfl
  rw [cP,ltT (by omega),cond_true,W2,af,he1,br]
  rw [ur (by rw [List.length_append];unfold nM;simp;omega),cond_true,fY (by omega)]
  have hw:nM i++[TQ i]=nM (i+1):=by
   unfold nM
   rw [List.range_succ,List.map_append]
   rfl
  have:=ih (i+1) n 11 (by omega) (by omega) (.inl rfl)
  rw [← hw] at this
  exact this
end
theorem YV {k:Nat} (hk:9223372036854779000≤k) (c:CF) {t:Tyt} (ht:FwT t) {roots:List (List Int)} (hr:∀ l ∈ roots,l.length≤1000) :
  iX k c t roots=some (rh,false)∨iX k c t roots=some (Kn c t roots,true)∧gh c=true∧wM t=true∧roots.length≤3∧(∀ l ∈ roots,∀ y ∈ l,0≤y∧y<(t.length:Int)):=by
 unfold iX
 try simp only [Prod.eta]
 rw [gi,af]
 cases hm:gh c with
 | false=>exact .inl rfl
 | true=>
  have hc:=bO hm
  rw [Bool.not_true,cond_false,Io _ (by omega) t ht.wt,af]
  cases ht2:wM t with
  | false=>exact .inl rfl
  | true=>
   rw [Bool.not_true,cond_false]
   by_cases h3:(3:Int)<roots.length
   ·rw [ltT h3]
    exact .inl rfl
   ·obtain ⟨g',L',e',h1,h2,h4,h5⟩:=UA (k:=k) (by omega) ht t.length 0 (k+20) 0 0 [] (by omega) (by have:=ht.len;omega) (Nat.zero_le _) (.inl rfl) (fun h=>absurd rfl h) (by simp)
    rw [ltF (by omega),cond_false,Io _ (by omega) t ht.wt,af,ht2,Bool.not_true,cond_false]
    refine (show _∨_ from ?_)
    have h1':bD k (k+20) t (t.length:Int) 0 [] 0 0=some (g',L',e'):=h1
    rw [h1',af,F4 _ (by omega) ht,af,ad0 (by omega),af]
    have hl:=ht.len
    rcases Pt (k:=k) hk c t ht.len roots (by omega) hr (by omega) t (List.replicate (dg c).toNat 0) L' e' (by omega) h4 h5 c.1.toNat 0 (k+21) 0 (by omega) (by omega) (.inr rfl) with h | ⟨h,h'⟩
    ·exact .inl h
    ·exact .inr ⟨h,rfl,rfl,by omega,h'⟩
end Go.Ab
set_option linter.unusedVariables false
namespace Go.Ab
theorem abq {k:Nat} (hk:9223372036854775808≤k) {l:List (List Int)} (hl:l.length≤9223372036854775807):∃ b,b9 k l=some b∧(b=true→l.length≤10∧∀ x ∈ l,x.length≤60):=by
 unfold b9
 have key:∀ (r:List (List Int)) (q n:Nat),l.drop q=r→q≤l.length→r.length<n→(∀ x ∈ l.take q,x.length≤60)→∃ b,aX k l n (q:Int)=some b∧(b=true→l.length≤10∧∀ x ∈ l,x.length≤60):=by
  intro r
  induction r with
  | nil=>
   intro q n hr hq hn hx
   obtain ⟨n,rfl⟩:=gu hn
   have:=dE hr
   rw [List.take_of_length_le (by omega)] at hx
   rw [aX,ltF (by omega),cond_false]
   refine ⟨_,rfl,fun h=>⟨?_,hx⟩⟩
   have:=of_decide_eq_true h
   omega
  | cons v r ih=>
   intro q n hr hq hn hx
   obtain ⟨n,rfl⟩:=gu hn
   obtain ⟨h0,h1,h2,_,h4⟩:=cM hr
   rw [aX,ltN h0,cond_true]
   by_cases hq10:(q:Int)≤10
   ·rw [leT hq10,cond_true,fU h1,af]
    by_cases h60:(60:Int)<v.length
    ·rw [ltT h60,cond_true]
     exact ⟨_,rfl,fun h=>by cases h⟩
    ·rw [ltF (by omega),cond_false,fY (by omega)]
     refine ih (q+1) n h2 (by omega) (by simp only [List.length_cons] at hn;omega) fun x hx' => ?_
     rw [List.take_add_one,h1] at hx'
     rcases List.mem_append.1 hx' with h | h
     ·exact hx x h
     ·rw [show x=v by simpa using h];omega
   ·rw [leF (by omega),cond_false]
    refine ⟨_,rfl,fun h => ?_⟩
    have:=of_decide_eq_true h
    omega
 exact key l 0 k rfl (Nat.zero_le _) (by omega) (by simp)
theorem rY:∀ {l:List PK} {n:Nat} {p:PB},Good n p→fB p=true→Good (n+l.length) (nb p l).1
 | [],n,p,h,_=>h
 | k::l,n,p,h,hm=>by
  rw [nb]
  split
  ·rename_i hk
   have:=rY (l:=l) (C0 (k:=k) h (nU hm).1) (Bk hm hk)
   rw [List.length_cons,show n+(l.length+1)=n+1+l.length by omega]
   exact this
  ·have:=rY (l:=l) h hm
   rw [List.length_cons]
   exact ⟨this.t,this.tl,this.m,fun x hx=>⟨(this.w x hx).f,by have:=(this.w x hx).s;omega,(this.w x hx).sp⟩,this.s⟩
theorem FA {l:List PK} {p:PB} (hm:fB p=true):fB (nb p l).1=true:=
 (EX (P:=fun _=>True) (fun _ _ _ _ _=>trivial) hm trivial).2
theorem BU:∀ {l:List PK} {p:PB},(nb p l).1.1=p.1∧(nb p l).1.2.1=p.2.1∧(nb p l).1.2.2.2.1.length=p.2.2.2.1.length∧(nb p l).1.2.2.2.2.length=p.2.2.2.2.length∧(nb p l).1.2.2.1.length=p.2.2.1.length
 | [],p=>⟨rfl,rfl,rfl,rfl,rfl⟩
 | k::l,p=>by
  rw [nb]
  split
  ·obtain ⟨a1,a2,a3,a4,a5⟩:=BU (l:=l) (p:=(f6 p k).1)
   obtain ⟨b1,b2,b3,b4⟩:=CM (p:=p) (k:=k)
   have b5:=M7 (p:=p) (k:=k)
   exact ⟨a1.trans b1,a2.trans b2,a3.trans b3,a4.trans b4,a5.trans b5⟩
  ·exact BU
theorem Bl:∀ {l:List PK} {p:PB},(nb p l).2.length≤2*l.length
 | [],p=>Nat.le_refl _
 | k::l,p=>by
  rw [nb]
  split
  ·have:=Bl (l:=l) (p:=(f6 p k).1)
   have:=HS (p:=p) (k:=k)
   simp only [List.length_append,List.length_cons]
   omega
  ·have:=Bl (l:=l) (p:=p)
   simp only [List.length_cons]
   omega
theorem ov {p:PB} (h:fB p=true):p.2.2.2.1.length≤8∧p.2.2.2.2.length≤3∧12≤p.2.2.1.length∧p.2.2.1.length≤190:=by
 obtain ⟨m1,m2,m3,m4,_⟩:=nU h
 have hc:=bO m1
 have:=(ER (m4 0 _ (List.getElem?_eq_getElem (show 0<p.2.2.2.1.length by omega)))).2.1
 have:=ph m1
 omega
theorem KR {c:CF} {t:Tyt} {roots:List (List Int)} (hc:gh c=true) (ht:wM t=true) (hR:roots.length≤3) (hr:∀ l ∈ roots,∀ y ∈ l,0≤y∧y<(t.length:Int)):fB (Kn c t roots)=true:=by
 have hm:=bO hc
 have hs:=ph hc
 refine B9 hc ?_ ?_ (fun j x hx => ?_) (fun x hx => ?_)
 ·show ((nM c.1.toNat).length:Int)=c.1
  unfold nM
  rw [List.length_map,List.length_range]
  omega
 ·show (mr roots).length≤3
  unfold mr
  rw [List.length_map]
  exact hR
 ·have hx':(nM c.1.toNat)[j]? = some x:=hx
  unfold nM at hx'
  rw [List.getElem?_map,Option.map_eq_some_iff] at hx'
  obtain ⟨i,hi,rfl⟩:=hx'
  obtain ⟨hj,rfl⟩:=List.getElem?_eq_some_iff.1 hi
  rw [List.length_range] at hj
  rw [List.getElem_range]
  refine MQ hc ?_ ht ⟨by omega,by show (j:Int)<c.1;omega,Int.le_refl 0,(show (0:Int)<16 by decide)⟩ (lQ.2 ⟨ht,fun y hy=>absurd hy (by simp [TQ])⟩)
  show ((List.replicate (dg c).toNat (0:Int)).length:Int)=dg c
  rw [List.length_replicate]
  omega
 ·have hx':x ∈ mr roots:=hx
  unfold mr at hx'
  obtain ⟨l,hl,rfl⟩:=List.mem_map.1 hx'
  unfold uB
  simp only [Bool.and_eq_true,List.all_eq_true,decide_eq_true_eq,Bool.or_eq_true]
  exact ⟨⟨by decide,hr l hl⟩,.inl (by trivial)⟩
theorem Gr {c:CF} {t:Tyt} {roots:List (List Int)} (ht:FwT t) (hr:∀ l ∈ roots,l.length≤60):Good 0 (Kn c t roots):=by
 have z:(0:Int)≤0∧(0:Int)≤18446744073709551615:=by decide
 refine ⟨ht,by have:=ht.len;show t.length≤1000;omega,?_,fun x hx => ?_,fun x hx => ?_⟩
 ·refine ⟨?_,fun v hv => ?_⟩
  ·show (List.replicate (dg c).toNat (0:Int)).length≤_
   rw [List.length_replicate]
   have:dg c≤190:=by
    unfold dg
    split
    ·rename_i h
     have hm:=bO h
     have:=ic h (w:=c.1) (by omega) (by omega)
     omega
    ·omega
   omega
  ·rw [List.eq_of_mem_replicate hv]
   exact z
 ·have hx':x ∈ nM c.1.toNat:=hx
  unfold nM at hx'
  obtain ⟨i,_,rfl⟩:=List.mem_map.1 hx'
  exact ⟨⟨z,z,z⟩,Nat.le_refl _,by show (0:Int)≤1000;decide⟩
 ·have hx':x ∈ mr roots:=hx
  unfold mr at hx'
  obtain ⟨l,hl,rfl⟩:=List.mem_map.1 hx'
  exact ⟨⟨z,z,z⟩,by have:=hr l hl;show l.length≤1000;omega⟩
end Go.Ab
set_option linter.unusedVariables false
namespace Go.Ab
def afc:FR:=(-1,0,0,0,0,0,0)
structure Pl where
 m:List Int
 left:List (List Int)
 cur:List FR
 over:List FR
def af4 (m:List Int) (w:Int):Nat:=if pr (aM m 2) w=true then 1 else 0
def YA (f:FR) (w:Int):Nat:=if Nr f w=true then 1 else 0
def ace (l:List FR) (w:Int):Nat:=l.countP fun f=>Nr f w
def Wj (c:CF) (m:List Int) (w:Int):Nat:=if aM m (kK c w)=0 then 0 else 1
def w3B (f:FR):Nat:=if f.1=5∧3≤f.2.1 then 1 else 0
def w4B (f:FR):Prop:=f.1=5∧f.2.1=4
def ag4 (x:Int):Prop:=0≤x∧x≤18446744073709551615
def agl (n:Nat) (i:Nat) (f:FR):Prop:=
 f=afc∨∃ op pc X Y:Int,f=(op,pc,(i:Int),0,X,Y,0)∧ag4 X∧ag4 Y ∧
  ((op=5∧0≤pc∧pc≤4)∨(op=6∧0≤pc∧pc≤2∧(pc=2→Y<n))∨(op=7∧0≤pc∧pc≤2∧(pc=2→0<Y∧Y<65536∧∀ j:Nat,n≤j→j<16→pr Y j=false)))
structure OkP (c:CF) (n:Nat) (m:List Int) (l:List FR):Prop where
 wm:Wm m
 may:gh c=true
 cn:c.1=n
 len:(m.length:Int)=dg c
 clen:l.length=n
 frm:∀ i f,l[i]? = some f→agl n i f
 low:∀ j:Nat,n≤j→j<16→pr (aM m 2) j=false
 par:∀ w:Nat,w<n→aM m (kK c w)=0∨aM m (kK c w)=1
 sgn:∀ (w:Nat) f,l[w]? = some f→af4 m w+ace l w+Wj c m w=w3B f
 end4:∀ (w:Nat) f,l[w]? = some f→w4B f→Wj c m w=1
theorem Qo {l:List FR} {i:Nat} {f g:FR} (hf:l[i]? = some f) (w:Int):ace (l.set i g) w+YA f w=ace l w+YA g w:=by
 obtain ⟨hi,rfl⟩:=List.getElem?_eq_some_iff.1 hf
 have hle:l[i] ∈ l:=List.getElem_mem _
 unfold ace YA
 rw [List.countP_set hi]
 by_cases h:Nr l[i] w=true
 ·have:0<l.countP fun f=>Nr f w:=List.countP_pos_iff.2 ⟨_,hle,h⟩
  simp only [h,if_true]
  omega
 ·simp only [h,if_false]
  simp
theorem OkP.step {c:CF} {n:Nat} {m m':List Int} {l:List FR} (h:OkP c n m l) {i:Nat} {f g:FR} (hf:l[i]? = some f) (wm:Wm m') (len:m'.length=m.length) (hg:agl n i g)
  (low:∀ j:Nat,n≤j→j<16→pr (aM m' 2) j=false) (par:∀ w:Nat,w<n→aM m' (kK c w)=0∨aM m' (kK c w)=1)
  (sg:∀ w:Nat,w<n→af4 m' w+YA g w+Wj c m' w+(if w=i then w3B f else 0)=af4 m w+YA f w+Wj c m w+(if w=i then w3B g else 0))
  (e4:w4B g→Wj c m' i=1) (e5:∀ w:Nat,w<n→w≠i→Wj c m w=1→Wj c m' w=1):OkP c n m' (l.set i g):=by
 have hi:i<l.length:=(List.getElem?_eq_some_iff.1 hf).1
 have key:∀ (w:Nat) (x:FR),(l.set i g)[w]? = some x→w<n∧((w=i∧x=g)∨(w≠i∧l[w]? = some x)):=by
  intro w x hx
  have hw:=(List.getElem?_eq_some_iff.1 hx).1
  rw [List.length_set,h.clen] at hw
  refine ⟨hw,?_⟩
  by_cases e:w=i
  ·subst e
   rw [List.getElem?_set_self hi] at hx
   exact .inl ⟨rfl,(Option.some.inj hx).symm⟩
  ·rw [List.getElem?_set_ne (by omega)] at hx
   exact .inr ⟨e,hx⟩
 refine ⟨wm,h.may,h.cn,by rw [len];exact h.len,by rw [List.length_set];exact h.clen,?_,low,par,?_,?_⟩
 ·intro w x hx
  rcases key w x hx with ⟨_,⟨rfl,rfl⟩ | ⟨_,hx⟩⟩
  ·exact hg
  ·exact h.frm w x hx
 ·intro w x hx
  have ho:=Qo (g:=g) hf (w:Int)
  rcases key w x hx with ⟨hw,⟨rfl,rfl⟩ | ⟨e,hx⟩⟩
  ·have h1:=h.sgn w f hf
   have h2:=sg w hw
   rw [if_pos rfl,if_pos rfl] at h2
   omega
  ·have h1:=h.sgn w x hx
   have h2:=sg w hw
   rw [if_neg e,if_neg e] at h2
   omega
 ·intro w x hx hx4
  rcases key w x hx with ⟨hw,⟨rfl,rfl⟩ | ⟨e,hx⟩⟩
  ·exact e4 hx4
  ·exact e5 w hw e (h.end4 w x hx hx4)
section
variable {c:CF} {m:List Int} {i a5 X:Int} (hmay:gh c=true) (hlen:(m.length:Int)=dg c)
include hmay hlen
end
end Go.Ab
set_option linter.unusedVariables false
namespace Go.Ab
structure Adr (c:CF) (j:Int):Prop where
 on:∀ w x,x=0∨x=1→onW c w x≠j
 slot:∀ w x,0≤x→x≤18446744073709551615→xq c w x≠j
 seq:∀ x,A1 c x≠j
 val:∀ x,VC c x≠j
 n0:(0:Int)≠j
 n1:(1:Int)≠j
 n3:(3:Int)≠j
 n4:(4:Int)≠j
 n5:(5:Int)≠j
theorem Q6 {a b D x y:Int} (hD:D=1∨D=2∨D=4∨D=8∨D=16) (hx:0≤x∧x<3+D) (hy:0≤y∧y<3+D) (h:x≠y):a*(3+D)+x≠b*(3+D)+y:=by
 rcases hD with rfl | rfl | rfl | rfl | rfl <;> omega
theorem ahg {c:CF}:Adr c 2:=by
 refine ⟨fun w x hx => ?_,fun w x h0 h1 => ?_,fun x => ?_,fun x => ?_,by decide,by decide,by decide,by decide,by decide⟩
 ·unfold onW
  split
  ·rename_i h
   have hm:=bO h.1
   have:=ic h.1 h.2.1 (by omega)
   omega
  ·omega
 ·unfold xq onW
  split
  ·rename_i h
   have hm:=bO h.1
   have:=ic h.1 h.2.1 (by omega)
   have:=F1 h0 h1 (show 1≤c.2.1 by omega) (by omega)
   omega
  ·omega
 ·unfold A1
  split
  ·rename_i h
   have:=bO h
   have:=Int.emod_nonneg x (show c.2.2.1≠0 by omega)
   omega
  ·omega
 ·unfold VC
  split
  ·rename_i h
   have:=bO h
   have:=Int.emod_nonneg x (show c.2.2.1≠0 by omega)
   omega
  ·omega
theorem ahE {c:CF} {v:Int} (hc:gh c=true) (h0:0≤v) (h1:v<c.1):Adr c (kK c v):=by
 have hp:kK c v=6+2*c.2.2.1+(v*(3+c.2.1)+2):=by
  unfold kK
  rw [if_pos ⟨hc,h0,h1⟩,EK]
  omega
 have hm:=bO hc
 have ht:=ic hc h0 (by omega)
 rw [hp]
 refine ⟨fun w x hx => ?_,fun w x g0 g1 => ?_,fun x => ?_,fun x => ?_,by omega,by omega,by omega,by omega,by omega⟩
 ·unfold onW
  split
  ·have:=Q6 (a:=w) (b:=v) hm.2.2.1 (x:=x) (y:=2) (by omega) (by omega) (by omega)
   unfold EK
   omega
  ·omega
 ·unfold xq onW
  split
  ·have ha:=F1 g0 g1 (show 1≤c.2.1 by omega) (by omega)
   have:=Q6 (a:=w) (b:=v) hm.2.2.1 (x:=3+w8 .u64 x (c.2.1 - 1)) (y:=2) (by omega) (by omega) (by omega)
   unfold EK
   omega
  ·omega
 ·unfold A1
  rw [if_pos hc]
  have a:=Int.emod_lt_of_pos x (show 0<c.2.2.1 by omega)
  have b:0≤v*(3+c.2.1):=ht.2.2.2
  generalize x%c.2.2.1=g at a ⊢
  omega
 ·unfold VC
  rw [if_pos hc]
  have a:=Int.emod_lt_of_pos x (show 0<c.2.2.1 by omega)
  have b:0≤v*(3+c.2.1):=ht.2.2.2
  generalize x%c.2.2.1=g at a ⊢
  omega
section
variable {c:CF} {m:List Int} {f:FR} {j:Int} (hj:Adr c j) (hf:Wf f)
include hj hf
end
section
variable {c:CF} {m:List Int} {f:FR}
end
def pkW (x:WB):Prop:=x.1=8∧3≤x.2.2.1.2.1
def owF (f:FR) (v:Int):Prop:=f.2.1=2∧f.2.2.2.2.2.1=v
def owW (x:WB) (v:Int):Prop:=x.1=14∧owF x.2.2.1 v
def owS (x:SB) (v:Int):Prop:=x.1=4∧owF x.2.2 v
def Fwk (n w:Int) (x:WB):Prop:=
 (x.1=0∨x.1=2∨x.1=3∨x.1=11∨x.1=12→x.2.2.1.1<5)∧(x.1=5→x.2.2.1=Fu 5 w 0) ∧
 (x.1=6∨x.1=7→x.2.2.1.1=5∧x.2.2.1.2.1=1∧x.2.2.1.2.2.1=w∧x.2.2.1.2.2.2.2.2.2=0) ∧
 (x.1=8→x.2.2.1.1=5∧(0≤x.2.2.1.2.1∧x.2.2.1.2.1≤4)∧x.2.2.1.2.2.1=w∧x.2.2.1.2.2.2.2.2.2=0) ∧
 (x.1=14→x.2.2.1.1=6∧(0≤x.2.2.1.2.1∧x.2.2.1.2.1≤2)∧x.2.2.1.2.2.2.2.2.2=0∧(x.2.2.1.2.1=2→x.2.2.1.2.2.2.2.2.1<n))
def Fsb (n:Int) (x:SB):Prop:=
 (x.1=2→x.2.2.1<5)∧(x.1=4→x.2.2.1=6∧(0≤x.2.2.2.1∧x.2.2.2.1≤2)∧x.2.2.2.2.2.2.2.2=0∧(x.2.2.2.1=2→x.2.2.2.2.2.2.2.1<n))
def acm (n:Int) (m:List Int):Prop:=∀ j:Int,n≤j→j<16→pr (aM m 2) j=false
structure Ef (c:CF) (m m':List Int) (pk0 pk1:Prop) (me:Int) (ow0 ow1:Int→Prop):Prop where
 low:acm c.1 m→acm c.1 m'
 bit:∀ v,0≤v→v<c.1→pr (aM m 2) v=true→pr (aM m' 2) v=true∨ow1 v
 par:∀ v,0≤v→v<c.1→aM m (kK c v)≠0→aM m' (kK c v)≠0∨v=me∧¬ pk1
 owe:∀ v,0≤v→v<c.1→ow0 v→ow1 v∨aM m' (kK c v)≠0
 new:pk1→pk0∨pr (aM m' 2) me=true∨aM m' (kK c me)≠0
section
variable {c:CF} {m m':List Int} {pk0 pk1:Prop} {me:Int} {ow0 ow1:Int→Prop}
theorem Ef.calm (hc:gh c=true) (h:∀ j,Adr c j→aM m' j=aM m j) (ho:∀ v,ow0 v→ow1 v) (hp:pk1→pk0):Ef c m m' pk0 pk1 me ow0 ow1:=by
 have h2:=h 2 ahg
 refine ⟨fun hl j h0 h1=>by rw [h2];exact hl j h0 h1,fun v _ _ hb => .inl (by rw [h2];exact hb),fun v h0 h1 hb => .inl (by rw [h _ (ahE hc h0 h1)];exact hb),fun v _ _ hv => .inl (ho v hv),fun h => .inl (hp h)⟩
theorem Ef.same (ho:∀ v,ow0 v→ow1 v) (hp:pk1→pk0):Ef c m m pk0 pk1 me ow0 ow1:=
 ⟨fun hl=>hl,fun v _ _ hb => .inl hb,fun v _ _ hb => .inl hb,fun v _ _ hv => .inl (ho v hv),fun h => .inl (hp h)⟩
end
section
variable {c:CF} {m:List Int} {f:FR} (hc:gh c=true) (hl:(m.length:Int)=dg c) (hm:Wm m) (hf:Wf f)
include hc hl hm hf
end
end Go.Ab
set_option linter.unusedVariables false
namespace Go.Ab
section
variable {n w:Int} {x:WB}
end
theorem Ef.mono {c:CF} {m m':List Int} {p0 p1 q0 q1:Prop} {me:Int} {a0 a1 b0 b1:Int→Prop} (h:Ef c m m' p0 p1 me a0 a1) (h1:q1→p1) (h0:p0→q0) (ha:∀ v,b0 v→a0 v) (hb:∀ v,a1 v→b1 v):Ef c m m' q0 q1 me b0 b1:=
 ⟨h.low,fun v g0 g1 hv=>(h.bit v g0 g1 hv).imp id (hb v),fun v g0 g1 hv=>(h.par v g0 g1 hv).imp id fun e=>⟨e.1,fun q=>e.2 (h1 q)⟩,fun v g0 g1 hv=>(h.owe v g0 g1 (ha v hv)).imp (hb v) id,fun q=>(h.new (h1 q)).imp h0 id⟩
section
variable {c:CF} {t:Tyt} {m:List Int} {w:Int} {x:WB} {d:Int}
end
section
variable {c:CF} {t:Tyt} {m:List Int} {i:Int} {x:SB}
end
def ahe (W:List WB) (S:List SB) (v:Int):Prop:=(∃ y ∈ W,owW y v)∨∃ y ∈ S,owS y v
structure Sgn (p:PB):Prop where
 w:∀ (i:Nat) x,p.2.2.2.1[i]? = some x→Fwk p.1.1 i x
 s:∀ x ∈ p.2.2.2.2,Fsb p.1.1 x
 low:acm p.1.1 p.2.2.1
 sg:∀ (i:Nat) x,p.2.2.2.1[i]? = some x→pkW x→pr (aM p.2.2.1 2) i=true∨aM p.2.2.1 (kK p.1 i)≠0∨ahe p.2.2.2.1 p.2.2.2.2 i
end Go.Ab
namespace Go.Ab
open Go.WideShapes
structure Ll (l:List (List Int)):Prop where
 len:l.length≤9223372036854775807
 each:∀ x ∈ l,x.length≤9223372036854775807
theorem acr {l:List (List Int)} (hm:l.length≤maxLen) (h:∀ x ∈ l,(∀ n ∈ x,i64 n)∧x.length≤maxLen):Ll l:=⟨X8 hm,fun x hx=>X8 (h x hx).2⟩
end Go.Ab
namespace Go.Ab
open Go.WideShapes
end Go.Ab
namespace Go.Ab
open Go.WideShapes
end Go.Ab
namespace Go.Ab
open Go.WideShapes
end Go.Ab
