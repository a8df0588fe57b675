import Derived.Test.YtblpbpnilkfjhaaGreatAbLibC
import Derived.Test.YtblpbpnilkfjhaaGreatR6GX
import Derived.WideShapes
import Derived.Test.YtblpbpnilkfjhaaGreatR6GY
set_option linter.unusedVariables false
set_option linter.unusedSimpArgs false
set_option linter.unusedVariables false
namespace Go.Ab
def mb (x:Int×List Int):Bool:=decide (x.1<0)||decide (20<x.1)
def kY:Nat→List (Int×List Int)→List (Int×Int)
 | _,[]=>[]
 | i,x::r=>x.2.map (fun k=>(k,(i:Int)))++kY (i+1) r
def oQ (n:Nat) (had:List Bool) (q:Int×Int):Bool:=decide (q.1≤q.2)||decide ((n:Int)≤q.1)||(had[q.1.toNat]?).getD true
abbrev Rh (n:Nat) := { h:List Bool // h.length=n }
def eE (n:Nat) (had:Rh n) (q:Int×Int):Bool×Rh n:=
 if oQ n had.1 q then (false,had) else (true,⟨had.1.set q.1.toNat true,by simp [had.2]⟩)
def CV (n:Nat):Rh n:=⟨List.replicate n false,by simp⟩
def rP (t:List (Int×List Int)):Bool:=decide (t.length≤30) && !(t.any mb)&&(OZ (eE t.length) (kY 0 t) (CV t.length)).1
structure Wt (t:List (Int×List Int)):Prop where
 len:t.length≤9223372036854775807
 kids:∀ x ∈ t,x.2.length≤9223372036854775807
def YS (t:List (Int×List Int)):Bool:=(t.take 41).all (fun x=>decide (x.2.length≤40))&&decide (t.length≤40)
theorem HH {t:List (Int×List Int)} (h1:rP t=true):t.length≤30:=by
 unfold rP at h1
 simp only [Bool.and_eq_true,decide_eq_true_eq] at h1
 exact h1.1.1
theorem Jj {α:Type} {l:List α} {F:Nat→Int→Option Int} (p:α→Bool)
  (h0:∀ n,F (n+1) (l.length:Int)=some (-1))
  (h1:∀ n (i:Nat) x,i<l.length→l[i]? = some x→F (n+1) (i:Int)=bif p x then some (i:Int) else F n ((i+1:Nat):Int))
  (n:Nat) (hn:l.length<n):F n 0=some (F9 p l 0):=by
 have key:∀ r i n,l.drop i=r→i≤l.length→r.length<n→F n (i:Int)=some (F9 p r i):=by
  intro r
  induction r with
  | nil=>
   intro i n hr hi hn
   obtain ⟨n,rfl⟩:=fZ hn
   have:i=l.length:=by have:=cY hr;omega
   subst this
   rw [h0]
   rfl
  | cons x r ih=>
   intro i n hr hi hn
   obtain ⟨n,rfl⟩:=fZ hn
   obtain ⟨a,b,c,d,e⟩:=cj hr
   rw [h1 n i x a b]
   simp only [F9]
   cases p x with
   | true=>rfl
   | false=>exact ih (i+1) n c (by omega) (by simp only [List.length_cons] at hn;omega)
 have:=key l 0 n rfl (Nat.zero_le _) hn
 simpa using this
theorem Bc (x y : Int) : (x != y) = !decide (x = y) := by by_cases h : x = y <;> simp [h]
theorem lu (x y:Int):(x==y)=decide (x=y):=by by_cases h:x=y <;> simp [h]
theorem uM {α:Type} (l:List α):decide ((l.length:Int)<(l.length:Int))=false:=decide_eq_false (by omega)
theorem ltN {i n:Nat} (h:i<n):decide ((i:Int)<(n:Int))=true:=decide_eq_true (by omega)
theorem eo {z:Int} (h : -9223372036854775808≤z∧z≤9223372036854775807):IntKind.i64.wrap z=z:=ID h.1 h.2
end Go.Ab
set_option linter.unusedVariables false
namespace Go.Ab
open Go
abbrev CF:=Int×Int×Int×Int
abbrev FR:=Int×Int×Int×Int×Int×Int×Int
def fI (c:CF):Bool:=decide (1≤c.1∧c.1≤8∧(c.2.1=1∨c.2.1=2∨c.2.1=4∨c.2.1=8∨c.2.1=16)∧1≤c.2.2.1∧c.2.2.1≤16∧0≤c.2.2.2∧c.2.2.2≤4)
def GK (c:CF) (w:Int):Int:=6+2*c.2.2.1+w*(3+c.2.1)
def cS (c:CF):Int:=if fI c=true then GK c c.1 else 0
def BG (c:CF) (w:Int):Int:=if fI c=true∧0≤w∧w<c.1 then GK c w+2 else -1
def aB (m:List Int) (i:Int):Int:=if 0≤i then (m[i.toNat]?).getD 0 else 0
def aW (m:List Int) (i v:Int):List Int:=if 0≤i then m.set i.toNat v else m
def pA (m:List Int) (i old new:Int):List Int×Bool:=if 0≤i∧i<m.length∧aB m i=old then (aW m i new,true) else (m,false)
def epB (e:Int):Int:=e/65536
def mkB (e:Int):Int:=e%65536
def xD (x w:Int):Bool:=decide (x/2 ^ w.toNat%2=1)
def Ie (e w:Int):Int:=if 0≤w∧w<16∧xD e w=false then e+2 ^ w.toNat else e
def fQ (f:FR):Bool:=f.2.2.2.2.2.2!=0
def dK (f:FR) (res val:Int):FR:=(f.1,0,f.2.2.1,val,0,0,res)
def ov (c:CF) (m:List Int) (f:FR) (op pcs:Int):Bool:=fI c&&decide ((m.length:Int)=cS c)&&decide (f.2.2.2.2.2.2=0∧0≤f.2.2.1∧f.2.2.1<c.1∧f.1=op∧0≤f.2.1∧f.2.1<pcs)
def r5 (c:CF) (m:List Int) (f:FR):List Int×FR:=
 if ov c m f 5 5=false then (m,f)
 else if f.2.1=0 then (m,f.1,1,f.2.2.1,f.2.2.2.1,aB m 2,f.2.2.2.2.2)
 else if f.2.1=1 then (if epB (aB m 2)=epB f.2.2.2.2.1 then (m,f.1,2,f.2.2.1,f.2.2.2.1,f.2.2.2.2.1,aB m 2,f.2.2.2.2.2.2) else (m,dK f 4 0))
 else if f.2.1=2 then (let r:=pA m 2 f.2.2.2.2.2.1 (Ie f.2.2.2.2.2.1 f.2.2.1);(r.1,f.1,if r.2=true then 3 else 1,f.2.2))
 else if f.2.1=3 then (let y:=aB m (BG c f.2.2.1);(m,f.1,if y=0 then 3 else 4,f.2.2.1,f.2.2.2.1,f.2.2.2.2.1,y,f.2.2.2.2.2.2))
 else (aW m (BG c f.2.2.1) 0,dK f 1 0)
structure Wm (m:List Int):Prop where
 len:m.length≤9223372036854775807
 num:∀ x ∈ m,0≤x∧x≤18446744073709551615
theorem ir {z:Int} (h0:0≤z) (h1:z≤18446744073709551615):IntKind.u64.wrap z=z:=by
 simp [IntKind.wrap,IntKind.bits,IntKind.signed]
 omega
theorem YW {a b:Nat} (ha:a<18446744073709551616) (hb:b<18446744073709551616):rQ .u64 (a:Int) (b:Int)=((a &&& b:Nat):Int):=by
 unfold rQ
 have h:(BitVec.ofInt IntKind.u64.bits (a:Int) &&& BitVec.ofInt IntKind.u64.bits (b:Int)).toNat=a &&& b:=by
  rw [BitVec.toNat_and]
  have e:IntKind.u64.bits=64:=rfl
  rw [e]
  simp only [BitVec.ofInt_natCast,BitVec.toNat_ofNat]
  rw [Nat.mod_eq_of_lt (by omega),Nat.mod_eq_of_lt (by omega)]
 rw [h]
 have:a &&& b≤a:=Nat.and_le_left
 exact ir (by omega) (by omega)
theorem orU {a b:Nat} (ha:a<18446744073709551616) (hb:b<18446744073709551616):orI .u64 (a:Int) (b:Int)=((a ||| b:Nat):Int):=by
 unfold orI
 have h:(BitVec.ofInt IntKind.u64.bits (a:Int) ||| BitVec.ofInt IntKind.u64.bits (b:Int)).toNat=a ||| b:=by
  rw [BitVec.toNat_or]
  have e:IntKind.u64.bits=64:=rfl
  rw [e]
  simp only [BitVec.ofInt_natCast,BitVec.toNat_ofNat]
  rw [Nat.mod_eq_of_lt (by omega),Nat.mod_eq_of_lt (by omega)]
 rw [h]
 have:a ||| b<2 ^ 64:=Nat.or_lt_two_pow (by omega) (by omega)
 exact ir (by omega) (by omega)
theorem OB {e:Int} (h0:0≤e) (h1:e≤18446744073709551615):rQ .u64 e 65535=mkB e:=by
 obtain ⟨n,rfl⟩:∃ n:Nat,e=n:=⟨e.toNat,by omega⟩
 have:=YW (a:=n) (b:=65535) (by omega) (by omega)
 have h2:((65535:Nat):Int)=65535:=rfl
 rw [h2] at this
 rw [this,mkB]
 have h3:n &&& 65535=n%65536:=Nat.and_two_pow_sub_one_eq_mod n 16
 rw [h3]
 omega
theorem Uz {e w:Int} (h0:0≤e) (hw:0≤w) (hw2:w≤64):OX .u64 e w=e/2 ^ w.toNat:=by
 unfold OX
 have e1:IntKind.u64.bits=64:=rfl
 rw [e1]
 have:min w.toNat 64=w.toNat:=by omega
 rw [this,Int.fdiv_eq_ediv_of_nonneg _ (Int.le_of_lt (Int.pow_pos (by decide)))]
theorem Qt {e:Int} (h0:0≤e):OX .u64 e 16=epB e:=by
 rw [Uz h0 (by decide) (by decide)]
 rfl
theorem abR {x:Int} (h0:0≤x) (h1:x≤18446744073709551615):rQ .u64 x 1=x%2:=by
 obtain ⟨n,rfl⟩:∃ n:Nat,x=n:=⟨x.toNat,by omega⟩
 have:=YW (a:=n) (b:=1) (by omega) (by omega)
 have h2:((1:Nat):Int)=1:=rfl
 rw [h2] at this
 rw [this,Nat.and_one_is_mod]
 omega
theorem Td {x w:Int} (h0:0≤x) (h1:x≤18446744073709551615):0≤x/2 ^ w.toNat∧x/2 ^ w.toNat≤18446744073709551615:=by
 have hp:(0:Int)<2 ^ w.toNat:=Int.pow_pos (by decide)
 have:=Int.ediv_nonneg h0 (Int.le_of_lt hp)
 have:=Int.ediv_le_self (2 ^ w.toNat) h0
 omega
theorem Z4 {x w:Int} (h0:0≤x) (h1:x≤18446744073709551615) (hw:0≤w) (hw2:w≤64):(rQ .u64 (OX .u64 x w) 1==1)=xD x w:=by
 have:=Td (w:=w) h0 h1
 rw [Uz h0 hw hw2,abR this.1 this.2,xD,lu]
theorem acU {w:Int} (hw:0≤w) (hw2:w<64):LC .u64 1 w=2 ^ w.toNat:=by
 unfold LC
 have e1:IntKind.u64.bits=64:=rfl
 rw [e1]
 have:min w.toNat 64=w.toNat:=by omega
 rw [this,Int.one_mul]
 have h1:(2:Nat) ^ w.toNat≤2 ^ 63:=Nat.pow_le_pow_right (by decide) (by omega)
 have h2:((2 ^ w.toNat:Nat):Int)=(2:Int) ^ w.toNat:=by rw [Int.natCast_pow];rfl
 have h3:(0:Int)<2 ^ w.toNat:=Int.pow_pos (by decide)
 exact ir (by omega) (by omega)
theorem YI {e w:Int} (h0:0≤e) (h1:e≤18446744073709551615) (hw:0≤w) (hw2:w<16):orI .u64 e (2 ^ w.toNat)=Ie e w:=by
 obtain ⟨n,rfl⟩:∃ n:Nat,e=n:=⟨e.toNat,by omega⟩
 have hp:(2:Nat) ^ w.toNat≤2 ^ 15:=Nat.pow_le_pow_right (by decide) (by omega)
 have h2:((2 ^ w.toNat:Nat):Int)=(2:Int) ^ w.toNat:=by rw [Int.natCast_pow];rfl
 rw [← h2,orU (by omega) (by omega)]
 have hb:xD (n:Int) w=n.testBit w.toNat:=by
  rw [xD,Nat.testBit_eq_decide_div_mod_eq,← h2]
  have:((n:Int)/((2 ^ w.toNat:Nat):Int))%2=((n/2 ^ w.toNat%2:Nat):Int):=by rw [Int.natCast_emod,Int.natCast_ediv];rfl
  rw [this]
  congr 1
  apply propext
  omega
 unfold Ie
 cases ht:n.testBit w.toNat with
 | true=>
  rw [hb,ht,if_neg (by simp)]
  congr 1
  apply Nat.eq_of_testBit_eq
  intro i
  rw [Nat.testBit_or,Nat.testBit_two_pow]
  by_cases hi:w.toNat=i
  ·subst hi;simp [ht]
  ·simp [hi]
 | false=>
  rw [hb,ht,if_pos ⟨hw,hw2,rfl⟩,← h2]
  have h3:(BitVec.ofNat 80 n) &&& (BitVec.ofNat 80 (2 ^ w.toNat))=0#80:=by
   apply BitVec.eq_of_toNat_eq
   rw [BitVec.toNat_and]
   simp only [BitVec.toNat_ofNat]
   rw [Nat.mod_eq_of_lt (by omega),Nat.mod_eq_of_lt (by omega),Nat.zero_mod]
   apply Nat.eq_of_testBit_eq
   intro i
   rw [Nat.testBit_and,Nat.testBit_two_pow,Nat.zero_testBit]
   by_cases hi:w.toNat=i
   ·subst hi;simp [ht]
   ·simp [hi]
  have h4:=congrArg BitVec.toNat (BitVec.add_eq_or_of_and_eq_zero _ _ h3)
  rw [BitVec.toNat_add,BitVec.toNat_or] at h4
  simp only [BitVec.toNat_ofNat] at h4
  rw [Nat.mod_eq_of_lt (show n<2 ^ 80 by omega),Nat.mod_eq_of_lt (show 2 ^ w.toNat<2 ^ 80 by omega),Nat.mod_eq_of_lt (show n+2 ^ w.toNat<2 ^ 80 by omega)] at h4
  rw [← h4]
  omega
theorem cZ {m:List Int} (hm:Wm m) (i:Int):0≤aB m i∧aB m i≤18446744073709551615:=by
 unfold aB
 split
 ·cases h:m[i.toNat]? with
  | none=>simp
  | some x=>exact hm.num x (List.mem_of_getElem? h)
 ·omega
theorem S8 {e w:Int} (h0:0≤e) (h1:e≤18446744073709551615):0≤Ie e w∧Ie e w≤18446744073709551615:=by
 unfold Ie
 split
 ·rename_i h
  have hs:=YI h0 h1 h.1 h.2.1
  unfold Ie at hs
  rw [if_pos h] at hs
  rw [← hs]
  obtain ⟨n,rfl⟩:∃ n:Nat,e=n:=⟨e.toNat,by omega⟩
  have hp:(2:Nat) ^ w.toNat≤2 ^ 15:=Nat.pow_le_pow_right (by decide) (by omega)
  have h2:((2 ^ w.toNat:Nat):Int)=(2:Int) ^ w.toNat:=by rw [Int.natCast_pow];rfl
  rw [← h2,orU (by omega) (by omega)]
  have:n ||| 2 ^ w.toNat<2 ^ 64:=Nat.or_lt_two_pow (by omega) (by omega)
  omega
 ·omega
end Go.Ab
set_option maxRecDepth 100000
set_option linter.unusedVariables false
namespace Go.Ab
theorem bG {c:CF} (h:fI c=true):1≤c.1∧c.1≤8∧(c.2.1=1∨c.2.1=2∨c.2.1=4∨c.2.1=8∨c.2.1=16)∧1≤c.2.2.1∧c.2.2.1≤16∧0≤c.2.2.2∧c.2.2.2≤4:=by
 unfold fI at h
 exact of_decide_eq_true h
theorem fO {c:CF} (h:fI c=true) {w:Int} (h0:0≤w) (h1:w≤8):8≤GK c w∧GK c w≤190∧w*(3+c.2.1)≤152∧0≤w*(3+c.2.1):=by
 obtain ⟨_,_,hD,_,_,_,_⟩:=bG h
 have a:0≤w*(3+c.2.1):=Int.mul_nonneg h0 (by omega)
 have b:w*(3+c.2.1)≤8*19:=Int.mul_le_mul h1 (by omega) (by omega) (by omega)
 unfold GK
 omega
theorem S5 (a b c:Int):dD a b c=some (decide (b≤a∧a≤c)):=by
 unfold dD
 by_cases h:b≤a
 ·simp [h]
 ·simp [h]
theorem aba {D:Int} (h1:1≤D) (h2:D≤16):(rQ IntKind.i64 D (IntKind.i64.wrap (D - 1))==0)=decide (D=1∨D=2∨D=4∨D=8∨D=16):=by
 have:D=1∨D=2∨D=3∨D=4∨D=5∨D=6∨D=7∨D=8∨D=9∨D=10∨D=11∨D=12∨D=13∨D=14∨D=15∨D=16:=by omega
 rcases this with rfl | rfl | rfl | rfl | rfl | rfl | rfl | rfl | rfl | rfl | rfl | rfl | rfl | rfl | rfl | rfl <;> decide +kernel
theorem eS (c:CF):bK c=some (fI c):=by
 obtain ⟨W,D,I,S⟩:=c
 unfold bK fI
 simp only [S5,ae]
 by_cases h1:1≤W∧W≤8
 ·rw [decide_eq_true h1,cond_true]
  by_cases h2:1≤D∧D≤16
  ·rw [decide_eq_true h2,cond_true,aba h2.1 h2.2]
   by_cases h3:D=1∨D=2∨D=4∨D=8∨D=16
   ·rw [decide_eq_true h3,cond_true]
    by_cases h4:1≤I∧I≤16
    ·rw [decide_eq_true h4,cond_true]
     congr 1
     apply decide_eq_decide.2
     omega
    ·rw [decide_eq_false h4,cond_false]
     symm
     congr 1
     apply decide_eq_false
     omega
   ·rw [decide_eq_false h3,cond_false]
    symm
    congr 1
    apply decide_eq_false
    omega
  ·rw [decide_eq_false h2,cond_false]
   symm
   congr 1
   apply decide_eq_false
   omega
 ·rw [decide_eq_false h1,cond_false]
  symm
  congr 1
  apply decide_eq_false
  omega
theorem Bz {c:CF} (h:fI c=true) {w:Int} (h0:0≤w) (h1:w≤8):ed c w=some (GK c w):=by
 have ht:=fO h h0 h1
 have hm:=bG h
 obtain ⟨W,D,I,S⟩:=c
 simp only [GK] at ht hm ⊢
 unfold ed
 simp only
 rw [eo (z:=2*I) (by omega),eo (z:=6+2*I) (by omega),eo (z:=3+D) (by omega),eo (z:=w*(3+D)) (by omega),eo (by omega)]
theorem ug (c:CF):da c=some (cS c):=by
 unfold da cS
 try simp only [Prod.eta]
 rw [eS,ae]
 cases h:fI c with
 | false=>rfl
 | true=>
  have hm:=bG h
  rw [Bool.not_true,cond_false,if_pos rfl,Bz h (by omega) (by omega),ae]
theorem ky (f:FR):aF f=some (fQ f):=rfl
theorem fX (f:FR) (r v:Int):aS f r v=some (dK f r v):=rfl
theorem EB (c : CF) (m : List Int) (f : FR) (op pcs : Int) : dP c m f op pcs = some (ov c m f op pcs) := by
  obtain ⟨a0, a1, a2, a3, a4, a5, a6⟩ := f
  unfold dP ov
  try simp only [Prod.eta]
  rw [eS, ae]
  cases h : fI c with
  | false => rfl
  | true =>
    rw [cond_true, ug, ae, lu]
    by_cases h1 : (m.length : Int) = cS c
    · rw [decide_eq_true h1, cond_true, ky, ae, fQ]
      simp only
      by_cases h2 : a6 = 0
      · subst h2
        have e : (!((0 : Int) != 0)) = true := rfl
        rw [e, cond_true]
        by_cases h3 : 0 ≤ a2
        · rw [leT h3, cond_true]
          by_cases h4 : a2 < c.1
          · rw [ltT h4, cond_true, lu]
            by_cases h5 : a0 = op
            · rw [decide_eq_true h5, cond_true]
              by_cases h6 : 0 ≤ a1
              · rw [leT h6, cond_true]
                simp [h3, h4, h5, h6]
              · rw [leF (by omega), cond_false]
                simp [h6]
            · rw [decide_eq_false h5, cond_false]
              simp [h5]
          · rw [ltF (by omega), cond_false]
            simp [h4]
        · rw [leF (by omega), cond_false]
          simp [h3]
      · have e : (!(a6 != 0)) = false := by simp [h2]
        rw [e, cond_false]
        simp [h2]
    · rw [decide_eq_false h1, cond_false]
      simp
theorem H7 (c:CF) (w:Int):fk c w=some (BG c w):=by
 unfold fk BG
 try simp only [Prod.eta]
 rw [eS,ae]
 cases h:fI c with
 | false=>simp
 | true=>
  have hm:=bG h
  rw [Bool.not_true,cond_false,eo (by omega),S5,ae]
  by_cases h1:0≤w∧w≤c.1 - 1
  ·have ht:=fO h h1.1 (by omega)
   rw [decide_eq_true h1,Bool.not_true,cond_false,Bz h (by omega) (by omega),ae,eo (by omega),if_pos ⟨rfl,by omega,by omega⟩]
  ·rw [decide_eq_false h1,Bool.not_false,cond_true,if_neg (by omega)]
theorem Y2 (m:List Int) (i:Int):fC m i=some (decide (0≤i∧i<m.length)):=by
 unfold fC
 by_cases h:0≤i
 ·simp [h]
 ·simp [h]
theorem kq {m:List Int} {i:Int} (h:0≤i∧i<m.length):idx m i=some (aB m i)∧m[i.toNat]? = some (aB m i):=by
 have h2:i.toNat<m.length:=by omega
 rw [idx,if_pos h.1,aB,if_pos h.1,List.getElem?_eq_getElem h2]
 exact ⟨rfl,rfl⟩
theorem KI {m:List Int} {i:Int} (h:¬ (0≤i∧i<m.length)):aB m i=0:=by
 unfold aB
 split
 ·rw [List.getElem?_eq_none (by omega)]
  rfl
 ·rfl
theorem Jp {m:List Int} {i v:Int} (h:¬ (0≤i∧i<m.length)):aW m i v=m:=by
 unfold aW
 split
 ·rw [List.set_eq_of_length_le (by omega)]
 ·rfl
theorem gU {m:List Int} {i v:Int}:(aW m i v).length=m.length:=by
 unfold aW
 split <;> simp
theorem Wm.set {m:List Int} (h:Wm m) (i:Int) {v:Int} (h0:0≤v) (h1:v≤18446744073709551615):Wm (aW m i v):=by
 refine ⟨by rw [gU];exact h.len,fun x hx => ?_⟩
 unfold aW at hx
 split at hx
 ·rcases List.mem_or_eq_of_mem_set hx with hx | rfl
  ·exact h.num x hx
  ·exact ⟨h0,h1⟩
 ·exact h.num x hx
theorem Wm.cas {m:List Int} (h:Wm m) (i o:Int) {v:Int} (h0:0≤v) (h1:v≤18446744073709551615):Wm (pA m i o v).1:=by
 unfold pA
 split
 ·exact h.set i h0 h1
 ·exact h
theorem dH (m:List Int) (i:Int):aD m i=some (aB m i):=by
 unfold aD
 rw [Y2,ae]
 by_cases h:0≤i∧i<m.length
 ·rw [decide_eq_true h,Bool.not_true,cond_false,(kq h).1,ae]
 ·rw [decide_eq_false h,Bool.not_false,cond_true,KI h]
theorem bx {α:Type} {b:Nat} {l:List α} (h:l.length*b≤70368744177664):aJ b l=some l:=by
 unfold aJ
 have:Nat.ble (l.length*b) 70368744177664=true:=Nat.ble_eq_true_of_le h
 rw [this,cd]
section
variable {m:List Int} (hl:m.length≤1000)
include hl
theorem gw (i v:Int):bk m i v=some (aW m i v):=by
 unfold bk
 rw [bx (by omega),ae,Y2,ae]
 by_cases h:0≤i∧i<m.length
 ·rw [decide_eq_true h,Bool.not_true,cond_false,(kq h).1,ae,decide_eq_true (by omega),cond_true,(kq h).2,ae,ae,aW,if_pos h.1]
 ·rw [decide_eq_false h,Bool.not_false,cond_true,Jp h]
theorem Cr (i o v:Int):cG m i o v=some (pA m i o v):=by
 unfold cG pA
 rw [bx (by omega),ae,Y2,ae]
 by_cases h:0≤i∧i<m.length
 ·rw [decide_eq_true h,Bool.not_true,cond_false,(kq h).1,ae,Bc]
  by_cases h2:aB m i=o
  ·rw [decide_eq_true h2,Bool.not_true,cond_false,decide_eq_true (by omega),cond_true,(kq h).2,ae,ae,if_pos ⟨h.1,h.2,h2⟩,aW,if_pos h.1]
  ·rw [decide_eq_false h2,Bool.not_false,cond_true,decide_eq_true (by omega),cond_true,(kq h).2,ae,ae,if_neg (fun hh=>h2 hh.2.2)]
   have:=(kq h).2
   rw [List.getElem?_eq_some_iff] at this
   obtain ⟨h3,h4⟩:=this
   rw [← h4,List.set_getElem_self]
 ·rw [decide_eq_false h,Bool.not_false,cond_true,if_neg (fun hh=>h ⟨hh.1,hh.2.1⟩)]
end
theorem aam {e w:Int} (h0:0≤e) (h1:e≤18446744073709551615):ij e w=some (Ie e w):=by
 unfold ij
 by_cases h2:w<0
 ·rw [ltT h2,cond_true,Ie,if_neg (by omega)]
 ·rw [ltF (by omega),cond_false]
  by_cases h3:16≤w
  ·rw [leT h3,cond_true,Ie,if_neg (by omega)]
  ·rw [leF (by omega),cond_false,leT (by omega),cond_true,acU (by omega) (by omega),YI h0 h1 (by omega) (by omega)]
theorem we {e:Int} (h0:0≤e):dj e=some (epB e):=by
 unfold dj
 rw [Qt h0]
theorem uz {e:Int} (h0:0≤e) (h1:e≤18446744073709551615):cD e=some (mkB e):=by
 unfold cD
 rw [OB h0 h1]
def Wf (f:FR):Prop:=(0≤f.2.2.2.1∧f.2.2.2.1≤18446744073709551615)∧(0≤f.2.2.2.2.1∧f.2.2.2.2.1≤18446744073709551615)∧(0≤f.2.2.2.2.2.1∧f.2.2.2.2.2.1≤18446744073709551615)
theorem wK {c:CF} {m:List Int} {f:FR} {op pcs:Int} (h:ov c m f op pcs=true):fI c=true∧(m.length:Int)=cS c∧f.2.2.2.2.2.2=0∧0≤f.2.2.1∧f.2.2.1<c.1∧f.1=op∧0≤f.2.1∧f.2.1<pcs:=by
 unfold ov at h
 rw [Bool.and_eq_true,Bool.and_eq_true,decide_eq_true_eq,decide_eq_true_eq] at h
 exact ⟨h.1.1,h.1.2,h.2⟩
theorem Sm (c:CF) {m:List Int} (hm:Wm m) (hl:m.length≤1000) {f:FR} (hf:Wf f):gT c m f=some (r5 c m f):=by
 have hr:=cZ hm 2
 unfold gT r5
 try simp only [Prod.eta]
 rw [bx (by omega),ae,EB,ae]
 cases h:ov c m f 5 5 with
 | false=>rfl
 | true=>
  obtain ⟨_,_,h6,h2,h2',h0,h1,h1'⟩:=wK h
  rw [cond_true,if_neg (by simp)]
  obtain ⟨a0,a1,a2,a3,a4,a5,a6⟩:=f
  simp only at h6 h2 h2' h0 h1 h1' ⊢
  have e:decide (0≤a1∧a1.toNat<5)=true:=by rw [decide_eq_true_eq];omega
  rw [e,cond_true]
  obtain ⟨_,w4,w5⟩:=hf
  simp only at w4 w5
  have hp:a1=0∨a1=1∨a1=2∨a1=3∨a1=4:=by omega
  rcases hp with rfl | rfl | rfl | rfl | rfl
  ·simp [dH,ae]
  ·simp only [dH,ae,we hr.1,we w4.1,Bc,fX]
   by_cases h5:epB (aB m 2)=epB a4
   ·simp [h5]
   ·simp [h5,dK]
  ·simp only [aam w5.1 w5.2,ae,Cr hl]
   cases hc:(pA m 2 a5 (Ie a5 a2)).2 <;> simp [hc]
  ·simp only [H7,dH,ae,Bc]
   by_cases h5:aB m (BG c a2)=0
   ·simp [h5]
   ·simp [h5]
  ·simp only [H7,ae,gw hl,fX]
   simp [dK]
end Go.Ab
set_option linter.unusedVariables false
namespace Go.Ab
theorem uA {m:List Int} {i:Int} (v:Int) (h0:0≤i) (h1:i<m.length):aB (aW m i v) i=v:=by
 unfold aB aW
 rw [if_pos h0,if_pos h0,List.getElem?_set_self (by omega)]
 rfl
theorem wO {m:List Int} {i j:Int} (v:Int) (h:i≠j):aB (aW m i v) j=aB m j:=by
 unfold aB aW
 by_cases h0:0≤i
 ·by_cases h1:0≤j
  ·rw [if_pos h1,if_pos h0,List.getElem?_set_ne (by omega),if_pos h1]
  ·rw [if_neg h1,if_neg h1]
 ·rw [if_neg h0]
structure OkB (c:CF) (m:List Int) (w:Int):Prop where
 may:fI c=true
 len:(m.length:Int)=cS c
 low:0≤w
 high:w<c.1
theorem OkB.size {c:CF} {m:List Int} {w:Int} (h:OkB c m w):(m.length:Int)=GK c c.1∧12≤m.length∧m.length≤190:=by
 have hm:=bG h.may
 have ht:=fO h.may (w:=c.1) (by omega) (by omega)
 have hl:=h.len
 rw [cS,if_pos h.may] at hl
 obtain ⟨W,D,I,S⟩:=c
 simp only [GK] at *
 have:1*(3+D)≤W*(3+D):=Int.mul_le_mul_of_nonneg_right (by omega) (by omega)
 omega
theorem OkB.store {c:CF} {m:List Int} {w:Int} (h:OkB c m w) (i v:Int):OkB c (aW m i v) w:=⟨h.may,by rw [gU];exact h.len,h.low,h.high⟩
section
variable {c:CF} {m:List Int} {w a3 a4 a5:Int} (h:OkB c m w)
include h
end
theorem TA (n:Nat) {w:Int} (hw:0≤w):xD (n:Int) w=n.testBit w.toNat:=by
 have h2:((2 ^ w.toNat:Nat):Int)=(2:Int) ^ w.toNat:=by rw [Int.natCast_pow];rfl
 rw [xD,Nat.testBit_eq_decide_div_mod_eq,← h2]
 have:((n:Int)/((2 ^ w.toNat:Nat):Int))%2=((n/2 ^ w.toNat%2:Nat):Int):=by rw [Int.natCast_emod,Int.natCast_ediv];rfl
 rw [this]
 congr 1
 apply propext
 omega
theorem PZ (op w:Int):aC op w 0=some (op,0,w,0,0,0,0):=rfl
theorem wf0 {op pc w:Int} {r:Int}:Wf (op,pc,w,0,0,0,r):=by simp [Wf]
end Go.Ab
set_option linter.unusedVariables false
namespace Go.Ab
def Ah (e m:Int):Int:=e%281474976710656*65536+m%65536
def J9 (x:Int):Nat→Nat→Int
 | _,0 => -1
 | i,d+1=>if xD x i=true then (i:Int) else J9 x (i+1) d
def BV (x:Int):Int:=J9 x 0 16
def M0 (x:Int):Int:=if BV x<0 then 0 else x - 2 ^ (BV x).toNat
def SR (x:Int):Int:=Ah (epB x+1) (M0 (mkB x))
def QK (x:Int):Int:=Ah (epB x+1) 0
def Jc (c:CF) (m:List Int) (w:Int):List Int:=aW m (BG c w) 1
def A8 (c:CF) (m:List Int) (f:FR):Bool:=decide (f.1=6∨f.1=7)&&fI c&&decide ((m.length:Int)=cS c)&&decide (f.2.2.2.2.2.2=0∧0≤f.2.1∧f.2.1≤2)
def pr (c:CF) (m:List Int) (f:FR):List Int×FR:=
 if A8 c m f=false then (m,f)
 else if f.2.1=0 then (m,f.1,1,f.2.2.1,f.2.2.2.1,aB m 2,f.2.2.2.2.2)
 else if f.2.1=1 then
  (if aB m 2=f.2.2.2.2.1 then
   (aW m 2 (if f.1=6 then SR f.2.2.2.2.1 else QK f.2.2.2.2.1),
    if mkB f.2.2.2.2.1=0 then dK f 3 0 else (f.1,2,f.2.2.1,f.2.2.2.1,f.2.2.2.2.1,(if f.1=6 then (if BV (mkB f.2.2.2.2.1)<0 then 0 else BV (mkB f.2.2.2.2.1)) else mkB f.2.2.2.2.1),f.2.2.2.2.2.2))
  else (m,f.1,0,f.2.2))
 else if f.1=6 then (Jc c m (if f.2.2.2.2.2.1<8 then f.2.2.2.2.2.1 else -1),dK f 1 f.2.2.2.2.2.1)
 else (Jc c m (BV f.2.2.2.2.2.1),if M0 (mkB f.2.2.2.2.2.1)=0 then dK f 1 (mkB f.2.2.2.2.1) else (f.1,2,f.2.2.1,f.2.2.2.1,f.2.2.2.2.1,M0 (mkB f.2.2.2.2.2.1),f.2.2.2.2.2.2))
theorem u5 (x:Int):∀ (d i:Nat),(J9 x i d = -1∧∀ j:Nat,i≤j→j<i+d→xD x j=false)∨(∃ j:Nat,J9 x i d=j∧i≤j∧j<i+d∧xD x j=true∧∀ l:Nat,i≤l→l<j→xD x l=false)
 | 0,i => .inl ⟨rfl,fun j h1 h2=>by omega⟩
 | d+1,i=>by
  by_cases h:xD x i=true
  ·exact .inr ⟨i,by rw [J9,if_pos h],by omega,by omega,h,fun l h1 h2=>by omega⟩
  ·have e:J9 x i (d+1)=J9 x (i+1) d:=by rw [J9,if_neg h]
   rw [e]
   rcases u5 x d (i+1) with ⟨h1,h2⟩ | ⟨j,h1,h2,h3,h4,h5⟩
   ·refine .inl ⟨h1,fun j h3 h4 => ?_⟩
    by_cases e2:i=j
    ·subst e2;simpa using h
    ·exact h2 j (by omega) (by omega)
   ·refine .inr ⟨j,h1,by omega,by omega,h4,fun l h6 h7 => ?_⟩
    by_cases e2:i=l
    ·subst e2;simpa using h
    ·exact h5 l (by omega) h7
theorem Bf (x:Int):(BV x = -1∧∀ j:Nat,j<16→xD x j=false)∨(∃ j:Nat,BV x=j∧j<16∧xD x j=true∧∀ l:Nat,l<j→xD x l=false):=by
 rcases u5 x 16 0 with ⟨h1,h2⟩ | ⟨j,h1,h2,h3,h4,h5⟩
 ·exact .inl ⟨h1,fun j h=>h2 j (by omega) (by omega)⟩
 ·exact .inr ⟨j,h1,by omega,h4,fun l h=>h5 l (by omega) h⟩
theorem QL {a w:Nat}:(2 ^ (w+1)*a+2 ^ w) &&& (2 ^ (w+1)*a+(2 ^ w - 1))=2 ^ (w+1)*a:=by
 have hp:0<2 ^ w:=Nat.pow_pos (by decide)
 have hs:2 ^ (w+1)=2*2 ^ w:=by rw [Nat.pow_succ,Nat.mul_comm]
 apply Nat.eq_of_testBit_eq
 intro j
 have e0:2 ^ (w+1)*a=2 ^ (w+1)*a+0:=rfl
 rw [Nat.testBit_and,Nat.testBit_two_pow_mul_add a (by omega),Nat.testBit_two_pow_mul_add a (by omega),e0,Nat.testBit_two_pow_mul_add a (by omega)]
 by_cases h:j<w+1
 ·rw [if_pos h,if_pos h,if_pos h,Nat.testBit_two_pow,Nat.testBit_two_pow_sub_one,Nat.zero_testBit]
  by_cases h2:w=j
  ·subst h2;simp
  ·simp [h2]
 ·rw [if_neg h,if_neg h,if_neg h,Bool.and_self]
theorem AW {x:Int} (h0:0≤x) (h1:x<65536):(x=0∧BV x = -1)∨(∃ a w:Nat,x=((2 ^ (w+1)*a+2 ^ w:Nat):Int)∧BV x=w∧w<16):=by
 obtain ⟨n,rfl⟩:∃ n:Nat,x=n:=⟨x.toNat,by omega⟩
 have hb:∀ j:Nat,xD (n:Int) (j:Int)=n.testBit j:=fun j=>TA n (by omega)
 rcases Bf (n:Int) with ⟨h2,h3⟩ | ⟨w,h2,h3,h4,h5⟩
 ·refine .inl ⟨?_,h2⟩
  have:n=0:=by
   apply Nat.eq_of_testBit_eq
   intro j
   rw [Nat.zero_testBit]
   by_cases hj:j<16
   ·rw [← hb];exact h3 j hj
   ·exact Nat.testBit_lt_two_pow (Nat.lt_of_lt_of_le (show n<2 ^ 16 by omega) (Nat.pow_le_pow_right (by decide) (by omega)))
  omega
 ·refine .inr ⟨n/2 ^ (w+1),w,?_,h2,h3⟩
  congr 1
  have hm:n%2 ^ (w+1)=2 ^ w:=by
   apply Nat.eq_of_testBit_eq
   intro j
   rw [Nat.testBit_mod_two_pow,Nat.testBit_two_pow]
   by_cases hj:j<w
   ·have:=h5 j hj
    rw [hb] at this
    have h6:¬ w=j:=by omega
    simp [this,h6]
   ·by_cases hj2:w=j
    ·subst hj2
     rw [hb] at h4
     simp [h4]
    ·have h6:¬ j<w+1:=by omega
     simp [h6,hj2]
  have:=Nat.div_add_mod n (2 ^ (w+1))
  omega
theorem Yq {x:Int} (h0:0≤x) (h1:x<65536):rQ .u64 x (IntKind.u64.wrap (x - 1))=M0 x:=by
 unfold M0
 rcases AW h0 h1 with ⟨rfl,h2⟩ | ⟨a,w,rfl,h2,h3⟩
 ·rw [h2]
  decide +kernel
 ·have hp:0<2 ^ w:=Nat.pow_pos (by decide)
  have e:((2 ^ (w+1)*a+2 ^ w:Nat):Int) - 1=((2 ^ (w+1)*a+(2 ^ w - 1):Nat):Int):=by
   generalize 2 ^ (w+1)*a=y
   generalize 2 ^ w=z at hp
   omega
  rw [h2,if_neg (by omega),Int.toNat_natCast,e]
  have hlt:2 ^ (w+1)*a+2 ^ w<65536:=by omega
  rw [ir (by omega) (by generalize 2 ^ (w+1)*a=y at hlt ⊢;generalize 2 ^ w=z at hlt ⊢;omega),YW (by omega) (by generalize 2 ^ (w+1)*a=y at hlt ⊢;generalize 2 ^ w=z at hlt ⊢;omega),QL]
  have hw:((2 ^ w:Nat):Int)=(2:Int) ^ w:=by rw [Int.natCast_pow];rfl
  rw [← hw]
  generalize 2 ^ (w+1)*a=y
  generalize (2:Nat) ^ w=z
  omega
theorem H4 {x:Int} (h0:0≤x) (h1:x<65536):0≤M0 x∧M0 x≤x:=by
 unfold M0
 rcases AW h0 h1 with ⟨rfl,h2⟩ | ⟨a,w,rfl,h2,h3⟩
 ·rw [h2];decide
 ·rw [h2,if_neg (by omega),Int.toNat_natCast]
  have hw:((2 ^ w:Nat):Int)=(2:Int) ^ w:=by rw [Int.natCast_pow];rfl
  rw [← hw]
  generalize 2 ^ (w+1)*a=y
  generalize (2:Nat) ^ w=z
  omega
theorem Wy {e m:Int} (h0:0≤e) (m0:0≤m) (m1:m≤18446744073709551615):orI .u64 (LC .u64 e 16) (rQ .u64 m 65535)=Ah e m:=by
 rw [OB m0 m1]
 have hs:LC .u64 e 16=((2 ^ 16*(e.toNat%281474976710656):Nat):Int):=by
  unfold LC
  have e1:min (16:Int).toNat IntKind.u64.bits=16:=by decide
  rw [e1]
  simp [IntKind.wrap,IntKind.bits,IntKind.signed]
  omega
 have hm:mkB m=((m.toNat%65536:Nat):Int):=by unfold mkB;omega
 rw [hs,hm,orU (by omega) (by omega),← Nat.two_pow_add_eq_or_of_lt (by omega),Ah]
 omega
end Go.Ab
set_option linter.unusedVariables false
namespace Go.Ab
theorem uW (c : CF) (m : List Int) (a1 a6 : Int) : (bif fI c then bif decide ((m.length : Int) = cS c) then bif !(a6 != 0) then bif decide (0 ≤ a1) then some (decide (a1 ≤ 2)) else some false else some false else some false else some false)
    = some (fI c && decide ((m.length : Int) = cS c) && decide (a6 = 0 ∧ 0 ≤ a1 ∧ a1 ≤ 2)) := by
  cases fI c with
  | false => rfl
  | true =>
    rw [cond_true]
    by_cases h1 : (m.length : Int) = cS c
    · rw [decide_eq_true h1, cond_true]
      by_cases h2 : a6 = 0
      · by_cases h3 : 0 ≤ a1
        · simp [h2, h3]
        · simp [h2, h3]
      · have : (a6 != 0) = true := by simp [h2]
        simp [h2, this]
    · rw [decide_eq_false h1]
      rfl
theorem R6 (c:CF) (m:List Int) (f:FR):gS c m f=some (A8 c m f):=by
 obtain ⟨a0,a1,a2,a3,a4,a5,a6⟩:=f
 unfold gS A8
 simp only [Prod.eta,lu,eS,ug,ky,ae,fQ]
 by_cases h1:a0=6
 ·rw [decide_eq_true h1,cond_true,uW,decide_eq_true (show a0=6∨a0=7 from .inl h1),Bool.true_and]
 ·rw [decide_eq_false h1,cond_false]
  by_cases h2:a0=7
  ·rw [decide_eq_true h2,cond_true,uW,decide_eq_true (show a0=6∨a0=7 from .inr h2),Bool.true_and]
  ·rw [decide_eq_false h2,cond_false,decide_eq_false (by omega)]
   rfl
theorem DQ {e:Int} (h0:0≤e):0≤mkB e∧mkB e<65536:=by unfold mkB;omega
theorem OC {e:Int} (h0:0≤e) (h1:e≤18446744073709551615):0≤epB e∧epB e≤281474976710655:=by unfold epB;omega
theorem Oi {e m:Int} (h0:0≤e) (m0:0≤m) (m1:m≤18446744073709551615):fq e m=some (Ah e m):=by
 unfold fq
 rw [Wy h0 m0 m1]
theorem oK (e m:Int):0≤Ah e m∧Ah e m≤18446744073709551615:=by unfold Ah;omega
theorem JP (x:Int) : -1≤BV x∧BV x<16:=by
 rcases Bf x with ⟨h,_⟩ | ⟨j,h,h2,_⟩ <;> omega
theorem E1 {k:Nat} (hk:100≤k) {x:Int} (h0:0≤x) (h1:x≤18446744073709551615):eZ k x=some (BV x):=by
 have key:∀ (d i n:Nat),i+d=16→d<n→b9 k x n (i:Int)=some (J9 x i d):=by
  intro d
  induction d with
  | zero=>
   intro i n hi hn
   obtain ⟨n,rfl⟩:=fZ hn
   rw [b9,ltF (by omega),cond_false]
   rfl
  | succ d ih=>
   intro i n hi hn
   obtain ⟨n,rfl⟩:=fZ hn
   rw [b9,ltT (by omega),cond_true,leT (by omega),cond_true,Z4 h0 h1 (by omega) (by omega),J9]
   cases hb:xD x i with
   | true=>rw [cond_true,if_pos rfl]
   | false=>rw [cond_false,if_neg (by simp),fA (by omega),ih (i+1) n (by omega) (by omega)]
 exact key 16 0 (k+9) rfl (by omega)
theorem Vj {k:Nat} (hk:100≤k) {e:Int} (h0:0≤e) (h1:e≤18446744073709551615):gH k e=some (SR e,BV (mkB e)):=by
 have hm:=DQ h0
 have he:=OC h0 h1
 have hc:=H4 hm.1 hm.2
 unfold gH
 rw [uz h0 h1,ae,we h0,ae,ir (z:=epB e+1) (by omega) (by omega),Yq hm.1 hm.2,Oi (by omega) hc.1 (by omega),ae,E1 hk hm.1 (by omega),ae]
 rfl
theorem XO {e:Int} (h0:0≤e) (h1:e≤18446744073709551615):gA e=some (QK e):=by
 have he:=OC h0 h1
 unfold gA
 rw [we h0,ae,ir (z:=epB e+1) (by omega) (by omega),Oi (by omega) (by decide) (by decide),ae]
 rfl
theorem NG {k:Nat} (hk:100≤k) {e:Int} (h0:0≤e) (h1:e≤18446744073709551615):en k e=some (SR e,if BV (mkB e)<0 then 0 else BV (mkB e)):=by
 have hl:=JP (mkB e)
 unfold en
 rw [Vj hk h0 h1,ae]
 simp only
 by_cases h:BV (mkB e)<0
 ·rw [ltT h,cond_true,if_pos h];rfl
 ·rw [ltF (by omega),cond_false,if_neg h,ir (by omega) (by omega)]
theorem KA {e:Int} (h0:0≤e) (h1:e≤18446744073709551615):ep e=some (QK e,mkB e):=by
 unfold ep
 rw [XO h0 h1,ae,uz h0 h1,ae]
theorem JL {k:Nat} (hk:100≤k) (c:CF) {m:List Int} (hl:m.length≤1000) (w:Int):ew k c m [w]=some (Jc c m w):=by
 unfold ew
 obtain ⟨k,rfl⟩:∃ j,k=j+2:=⟨k - 2,by omega⟩
 have f1:∀ k:Nat,k+2+12=(k+12+1)+1:=fun k=>rfl
 have i1:IntKind.i64.wrap (0+1)=1:=by decide
 have x0:idx [w] 0=some w:=rfl
 rw [f1,dB,ltT (by simp),cond_true,x0,ae]
 try simp only [Prod.eta]
 rw [H7,ae,gw hl,ae,i1,dB,ltF (by simp),cond_false]
 rfl
theorem SF {k:Nat} (hk:1000≤k) (c:CF) {m:List Int} (hm:Wm m) (hl:m.length≤1000) {f:FR} (hf:Wf f):fi k c m f=some (pr c m f):=by
 have hr:=cZ hm 2
 unfold fi pr
 try simp only [Prod.eta]
 rw [bx (by omega),ae,R6,ae]
 cases h:A8 c m f with
 | false=>rfl
 | true=>
  rw [Bool.not_true,cond_false,if_neg (by simp)]
  obtain ⟨a0,a1,a2,a3,a4,a5,a6⟩:=f
  obtain ⟨_,w4,w5⟩:=hf
  simp only at w4 w5
  unfold A8 at h
  rw [Bool.and_eq_true,Bool.and_eq_true,Bool.and_eq_true,decide_eq_true_eq,decide_eq_true_eq,decide_eq_true_eq] at h
  obtain ⟨⟨⟨h0,hmay⟩,hlen⟩,h6,h1,h2⟩:=h
  simp only at h0 h6 h1 h2 ⊢
  have hlen2:(2:Int)<m.length:=by
   have hmc:=bG hmay
   have ok:OkB c m 0:=⟨hmay,hlen,by decide,by omega⟩
   have:=ok.size
   omega
  by_cases p0:a1=0
  ·subst p0
   simp [dH,ae]
  ·by_cases p1:a1=1
   ·subst p1
    have e1:∀ v,pA m 2 a4 v=if aB m 2=a4 then (aW m 2 v,true) else (m,false):=by
     intro v
     unfold pA
     by_cases hh:aB m 2=a4
     ·rw [if_pos hh,if_pos ⟨by decide,hlen2,hh⟩]
     ·rw [if_neg hh,if_neg (fun x=>hh x.2.2)]
    rcases h0 with rfl | rfl
    ·simp only [lu,decide_eq_true rfl,decide_eq_false p0,cond_true,cond_false,NG (k:=k+2) (by omega) w4.1 w4.2,ae,Cr hl,e1,uz w4.1 w4.2,fX]
     by_cases hh:aB m 2=a4
     ·by_cases h3:mkB a4=0
      ·simp [hh,h3,dK]
      ·simp [hh,h3]
     ·simp [hh]
    ·simp only [lu,decide_eq_true rfl,decide_eq_false p0,decide_eq_false (show ¬ ((7:Int)=6) by decide),cond_true,cond_false,KA w4.1 w4.2,ae,Cr hl,e1,uz w4.1 w4.2,fX]
     by_cases hh:aB m 2=a4
     ·by_cases h3:mkB a4=0
      ·simp [hh,h3,dK]
      ·simp [hh,h3]
     ·simp [hh]
   ·rcases h0 with rfl | rfl
    ·simp only [lu,decide_eq_true rfl,decide_eq_false p0,decide_eq_false p1,cond_true,cond_false]
     by_cases h3:a5<8
     ·rw [ltT h3,cond_true,JL (by omega) c hl,ae,fX,ae,eo (by omega)]
      simp [p0,p1,h3,dK]
     ·rw [ltF (by omega),cond_false,JL (by omega) c hl,ae,fX,ae]
      simp [p0,p1,h3,dK]
    ·have hk5:=DQ w5.1
     simp only [lu,decide_eq_false (show ¬ ((7:Int)=6) by decide),decide_eq_false p0,decide_eq_false p1,cond_false]
     rw [E1 (by omega) w5.1 w5.2,ae,JL (by omega) c hl,ae,uz w5.1 w5.2,ae,Yq hk5.1 hk5.2,uz w4.1 w4.2,ae]
     simp only [fX,ae]
     by_cases h3:M0 (mkB a5)=0
     ·simp [p0,p1,h3,dK]
     ·have h4:mkB a5≠0:=fun e=>h3 (by rw [e];decide)
      simp [p0,p1,h3,h4]
      omega
end Go.Ab
namespace Go.Ab
open Go.WideShapes
theorem rB:maxLen≤9223372036854775807:=by decide
theorem abV {l:List (Int×List Int)} (hm:l.length≤maxLen) (h:∀ x ∈ l,i64 x.1∧(∀ n ∈ x.2,i64 n)∧x.2.length≤maxLen):Wt l:=
 ⟨Nat.le_trans hm rB,fun x hx=>Nat.le_trans (h x hx).2.2 rB⟩
theorem XW {α:Type} {l:List α} (hm:l.length≤maxLen):l.length≤9223372036854775807:=Nat.le_trans hm rB
theorem FX {P:Program} {w:World} {r:Reach} {base:Nat} {t:TypeId} {v:Value} {fs:Array Field} (ht:P.underlying t=some (.struct fs)) (h:Value.okWide P w r base t v):∃ cs,v = .agg cs:=by
 simp only [Value.okWide,ht] at h
 cases v <;> simp_all
theorem Cells.agg {w:World} {cs:Array Value} {vs:List V} (c:Cells w (Value.agg cs).cells.toList vs):RelV (Ny w) [] (.agg vs) (.agg cs):=by
 have hl:vs.length=cs.toList.length:=c.len
 refine .agg vs cs (by simpa using hl.symm) c.ones fun i x hx => ?_
 have hi:i<vs.length:=(List.getElem?_eq_some_iff.1 hx).1
 have hi2:i<cs.size:=by rw [hl] at hi;simpa using hi
 have h1:cs.toList[i]? = some cs[i]:=by simp [hi2]
 have:=c.rel i x cs[i] hx h1
 simpa [Array.getD,hi2] using this
end Go.Ab
namespace Go.Ab
open Go.WideShapes
def u64 (n:Int):Prop:=(Lit.int .u64 n).wf=true
def OV (c:Int×Int×Int×Int):Prop:=i64 c.1∧i64 c.2.1∧i64 c.2.2.1∧i64 c.2.2.2
theorem Ff {P:Program} {t ti:TypeId} {f0 f1 f2 f3:Field} {vs:List V} (he:P.underlying t=some (.struct #[f0,f1,f2,f3])) (h0:f0.type=ti) (h1:f1.type=ti) (h2:f2.type=ti) (h3:f3.type=ti) (o0:f0.offset=0) (o1:f1.offset=1) (o2:f2.offset=2) (o3:f3.offset=3) (hi:P.underlying ti=some (.int .i64)) (ci:P.cellsOf ti=1) (ce:P.cellsOf t=4) (h:Shape P t vs) :
  ∃ x:Int×Int×Int×Int,vs=Ii x∧OV x:=by
 obtain ⟨a,b⟩:=kO he h
 have s0:=b 0 f0 rfl
 rw [h0,o0,ci,List.drop_zero] at s0
 have s1:=b 1 f1 rfl
 rw [h1,o1,ci] at s1
 have s2:=b 2 f2 rfl
 rw [h2,o2,ci] at s2
 have s3:=b 3 f3 rfl
 rw [h3,o3,ci] at s3
 rw [ce] at a
 obtain ⟨n0,e0,w0⟩:=eV hi s0
 obtain ⟨n1,e1,w1⟩:=eV hi s1
 obtain ⟨n2,e2,w2⟩:=eV hi s2
 obtain ⟨n3,e3,w3⟩:=eV hi s3
 match vs,a with
 | [x0,x1,x2,x3],_=>
  simp at e0 e1 e2 e3
  subst e0 e1 e2 e3
  exact ⟨(n0,n1,n2,n3),rfl,w0,w1,w2,w3⟩
theorem C5 {P:Program} {t s i:TypeId} {vs:List V} (ht:P.underlying t=some (.slice s)) (hs:P.underlying s=some (.slice i)) (hi:P.underlying i=some (.int .i64)) (h:Shape P t vs) :
  ∃ l:List (List Int),vs=[.ro (l.map cU)]∧(∀ x ∈ l,(∀ n ∈ x,i64 n)∧x.length≤maxLen)∧l.length≤maxLen:=by
 obtain ⟨rows,rfl,hr,hm⟩:=i6 ht h
 obtain ⟨l,rfl,hl⟩:=iG (enc:=cU) (Q:=fun x=>(∀ n ∈ x,i64 n)∧x.length≤maxLen) (rows:=rows) (fun r hx=>by
  obtain ⟨l,e,w,m⟩:=uL hs hi (hr r hx)
  exact ⟨l,e,w,m⟩)
 exact ⟨l,rfl,hl,by simpa using hm⟩
theorem XQ {n:Int} (h:u64 n):0≤n∧n≤18446744073709551615:=by
 have h1:IntKind.min .u64=0:=by decide
 have h2:IntKind.max .u64=18446744073709551615:=by decide
 simpa [u64,Lit.wf,h1,h2] using h
end Go.Ab
namespace Go.Ab
open Go.WideShapes
end Go.Ab
set_option linter.unusedVariables false
namespace Go.Ab
end Go.Ab
set_option linter.unusedVariables false
namespace Go.Ab
def xB (c:CF) (x:Int):Int:=if fI c=true then 6+x%c.2.2.1 else -1
def T5 (c:CF) (x:Int):Int:=if fI c=true then 6+c.2.2.1+x%c.2.2.1 else -1
def Bq (c:CF) (x:Int):Int:=x/c.2.2.1*2%18446744073709551616
def Fb (a b:Int):Int:=IntKind.i64.wrap (IntKind.u64.wrap (a - b))
def mr (a b:Int):Int:=(a+b)%18446744073709551616
def nZ (c:CF) (m:List Int) (f:FR) (op:Int):Bool:=fI c&&decide ((m.length:Int)=cS c)&&decide (f.2.2.2.2.2.2=0∧f.1=op∧0≤f.2.1∧f.2.1<5)
def Kc (c:CF) (m:List Int) (f:FR):List Int×FR:=
 if nZ c m f 3=false then (m,f)
 else if f.2.1=0 then (m,f.1,1,f.2.2.1,f.2.2.2.1,aB m 5,f.2.2.2.2.2)
 else if f.2.1=1 then
  (if aB m (xB c f.2.2.2.2.1)=Bq c f.2.2.2.2.1 then (m,f.1,2,f.2.2.1,f.2.2.2.1,f.2.2.2.2.1,aB m (xB c f.2.2.2.2.1),f.2.2.2.2.2.2)
  else if Fb (aB m (xB c f.2.2.2.2.1)) (Bq c f.2.2.2.2.1)<0 then (m,dK f 2 f.2.2.2.1)
  else (m,f.1,0,f.2.2.1,f.2.2.2.1,f.2.2.2.2.1,aB m (xB c f.2.2.2.2.1),f.2.2.2.2.2.2))
 else if f.2.1=2 then (let r:=pA m 5 f.2.2.2.2.1 (mr f.2.2.2.2.1 1);(r.1,f.1,if r.2=true then 3 else 0,f.2.2))
 else if f.2.1=3 then (aW m (T5 c f.2.2.2.2.1) f.2.2.2.1,f.1,4,f.2.2)
 else (aW m (xB c f.2.2.2.2.1) (mr (Bq c f.2.2.2.2.1) 1),dK f 1 f.2.2.2.1)
def xI (c:CF) (x:Int):Int:=mr (Bq c x) 1
def Ka (c:CF) (m:List Int) (f:FR):List Int×FR:=
 if nZ c m f 4=false then (m,f)
 else if f.2.1=0 then (m,f.1,1,f.2.2.1,f.2.2.2.1,aB m 4,f.2.2.2.2.2)
 else if f.2.1=1 then
  (if Fb (aB m (xB c f.2.2.2.2.1)) (xI c f.2.2.2.2.1)=0 then (m,f.1,2,f.2.2.1,f.2.2.2.1,f.2.2.2.2.1,aB m (xB c f.2.2.2.2.1),f.2.2.2.2.2.2)
  else if Fb (aB m (xB c f.2.2.2.2.1)) (xI c f.2.2.2.2.1)<0 then (m,dK f 3 0)
  else (m,f.1,0,f.2.2.1,f.2.2.2.1,f.2.2.2.2.1,aB m (xB c f.2.2.2.2.1),f.2.2.2.2.2.2))
 else if f.2.1=2 then (let r:=pA m 4 f.2.2.2.2.1 (mr f.2.2.2.2.1 1);(r.1,f.1,if r.2=true then 3 else 0,f.2.2))
 else if f.2.1=3 then (m,f.1,4,f.2.2.1,aB m (T5 c f.2.2.2.2.1),f.2.2.2.2)
 else (aW m (xB c f.2.2.2.2.1) (mr (xI c f.2.2.2.2.1) 1),dK f 1 f.2.2.2.1)
def wL (c:CF) (m:List Int) (f:FR):List Int×FR:=if f.1=3 then Kc c m f else if f.1=4 then Ka c m f else (m,f)
def D0 (c:CF) (m:List Int) (f:FR):List Int×FR:=if f.1=5 then r5 c m f else if f.1=6∨f.1=7 then pr c m f else (m,f)
def i7 (c:CF) (m:List Int) (f:FR):List Int×FR:=if f.1=3∨f.1=4 then wL c m f else D0 c m f
abbrev SB:=Int×List Int×FR
def dt:FR:=(0,0,0,0,0,0,0)
abbrev EV:=Int×Int×Int
def rm (l:List Int):Int:=l.headD 0
def rE (c:CF) (t:List (Int×List Int)) (m:List Int) (x:SB):Bool:=fI c&&decide ((m.length:Int)=cS c)&&rP t&&decide (0≤x.1∧x.1<6∧x.2.1≠[]∧0≤rm x.2.1∧rm x.2.1<t.length)
def kr (c:CF) (t:List (Int×List Int)) (m:List Int) (i:Int) (x:SB):List Int×SB×List EV:=
 if rE c t m x=false then (m,x,[])
 else if x.1=0 then (if aB m 3≠0 then (m,(0,x.2.1.tail,dt),[(1,rm x.2.1,i)]) else (m,(1,x.2),[]))
 else if x.1=1 then (aW m 0 (mr (aB m 0) 1),(2,x.2.1,(3,0,i,rm x.2.1,0,0,0)),[])
 else if x.1=2 then (let r:=i7 c m x.2.2;
  if fQ r.2=false then (r.1,(2,x.2.1,r.2),[]) else if r.2.2.2.2.2.2.2=2 then (r.1,(5,x.2.1,r.2),[]) else (r.1,(3,x.2.1,r.2),[(0,rm x.2.1,i)]))
 else if x.1=3 then (if aB m 1≠0 then (m,(0,x.2.1.tail,dt),[]) else (m,(4,x.2.1,(6,0,i,0,0,0,0)),[]))
 else if x.1=4 then (let r:=i7 c m x.2.2;if fQ r.2=true then (r.1,(0,x.2.1.tail,dt),[]) else (r.1,(4,x.2.1,r.2),[]))
 else (aW m 0 (mr (aB m 0) 18446744073709551615),(0,x.2.1.tail,dt),if aB m 0=1 then [(1,rm x.2.1,i),(5,0,i)] else [(1,rm x.2.1,i)])
def One (m m':List Int):Prop:=∃ i v,m'=aW m i v
theorem One.same (m:List Int):One m m:=⟨-1,0,by unfold aW;rw [if_neg (by decide)]⟩
theorem One.store (m:List Int) (i v:Int):One m (aW m i v):=⟨i,v,rfl⟩
theorem One.cas (m:List Int) (i o v:Int):One m (pA m i o v).1:=by
 unfold pA
 split
 ·exact One.store m i v
 ·exact One.same m
theorem One.len {m m':List Int} (h:One m m'):m'.length=m.length:=by
 obtain ⟨i,v,rfl⟩:=h
 exact gU
theorem PQ (c:CF) (m:List Int) (f:FR):One m (Kc c m f).1:=by
 unfold Kc
 repeat' split
 all_goals first | exact One.same m | exact One.store m _ _ | exact One.cas m _ _ _
theorem S2 (c:CF) (m:List Int) (f:FR):One m (Ka c m f).1:=by
 unfold Ka
 repeat' split
 all_goals first | exact One.same m | exact One.store m _ _ | exact One.cas m _ _ _
theorem Mb (c:CF) (m:List Int) (f:FR):One m (r5 c m f).1:=by
 unfold r5
 repeat' split
 all_goals first | exact One.same m | exact One.store m _ _ | exact One.cas m _ _ _
theorem Mv (c:CF) (m:List Int) (f:FR):One m (pr c m f).1:=by
 unfold pr Jc
 repeat' split
 all_goals first | exact One.same m | (dsimp only;exact One.store m _ _)
theorem ER (c:CF) (m:List Int) (f:FR):One m (i7 c m f).1:=by
 unfold i7 wL D0
 repeat' split
 all_goals first | exact One.same m | exact PQ c m f | exact S2 c m f | exact Mb c m f | exact Mv c m f
end Go.Ab
set_option linter.unusedVariables false
namespace Go.Ab
structure InvA (c:CF) (a:Nat) (m:List Int):Prop where
 wm:Wm m
 may:fI c=true
 len:(m.length:Int)=cS c
 l0:aB m 0=a
 l1:aB m 1=0
 mask:mkB (aB m 2)=0
 l3:aB m 3=0
 l5:aB m 5=a
 sq:∀ j:Nat,(j:Int)<c.2.2.1→aB m (6+j)=if j<a then 1 else 0
 le:(a:Int)≤c.2.2.1
section
variable {c:CF} {t:List (Int×List Int)} {m:List Int} {l:List Int} {F:FR}
end
section
variable {c:CF} {m:List Int} {w v X Y:Int} (hmay:fI c=true) (hlen:(m.length:Int)=cS c)
include hmay hlen
end
end Go.Ab
set_option linter.unusedVariables false
namespace Go.Ab
theorem ul {q i:Int}:∀ {t:List (Int×List Int)} {s:Nat},(q,i) ∈ kY s t↔∃ n x,t[n]? = some x∧q ∈ x.2∧i=((s+n:Nat):Int)
 | [],s=>by simp [kY]
 | x::t,s=>by
  simp only [kY,List.mem_append,List.mem_map,Prod.mk.injEq,ul (t:=t) (s:=s+1)]
  constructor
  ·rintro (⟨a,ha,rfl,rfl⟩ | ⟨n,y,hy,hq,rfl⟩)
   ·exact ⟨0,x,rfl,ha,by simp⟩
   ·exact ⟨n+1,y,by simpa using hy,hq,by omega⟩
  ·rintro ⟨n,y,hy,hq,rfl⟩
   cases n with
   | zero=>
    simp at hy
    subst hy
    exact .inl ⟨q,hq,rfl,by simp⟩
   | succ n=>exact .inr ⟨n,y,by simpa using hy,hq,by omega⟩
theorem ET (n:Nat):∀ (l:List (Int×Int)) (had:Rh n),(∀ q ∈ l,0≤q.2)→(OZ (eE n) l had).1=true →
  (∀ q ∈ l,q.2<q.1∧q.1<n∧had.1[q.1.toNat]? = some false)∧(l.map (·.1)).Nodup
 | [],had,_,_=>by simp
 | q::l,had,h0,h=>by
  simp only [OZ] at h
  have hq0:=h0 q (by simp)
  cases hb:oQ n had.1 q with
  | true=>simp [eE,hb] at h
  | false=>
   have e1:(eE n had q).1=true:=by simp [eE,hb]
   have e2:(eE n had q).2.1=had.1.set q.1.toNat true:=by simp [eE,hb]
   rw [e1,if_pos rfl] at h
   obtain ⟨a,b⟩:=ET n l _ (fun x hx=>h0 x (by simp [hx])) h
   simp only [oQ,Bool.or_eq_false_iff,decide_eq_false_iff_not] at hb
   obtain ⟨⟨h1,h2⟩,h3⟩:=hb
   have h4:q.1.toNat<had.1.length:=by rw [had.2];omega
   have h5:had.1[q.1.toNat]? = some false:=by
    rw [List.getElem?_eq_getElem h4] at h3 ⊢
    simpa using h3
   rw [e2] at a
   have h6:∀ x ∈ l,x.1≠q.1:=by
    intro x hx e
    have:=(a x hx).2.2
    rw [e,List.getElem?_set_self h4] at this
    cases this
   refine ⟨?_,?_⟩
   ·intro x hx
    rcases List.mem_cons.1 hx with rfl | hx
    ·exact ⟨by omega,by omega,h5⟩
    ·obtain ⟨u,v,w⟩:=a x hx
     refine ⟨u,v,?_⟩
     have hx0:=h0 x (by simp [hx])
     rwa [List.getElem?_set_ne (by have:=h6 x hx;omega)] at w
   ·rw [List.map_cons,List.nodup_cons]
    refine ⟨?_,b⟩
    intro hm
    obtain ⟨x,hx,e⟩:=List.mem_map.1 hm
    exact h6 x hx e
structure May (t:List (Int×List Int)):Prop where
 len:t.length≤30
 work:∀ x ∈ t,0≤x.1∧x.1≤20
 kids:∀ q ∈ kY 0 t,0≤q.2∧q.2<q.1∧q.1<t.length
 once:((kY 0 t).map (·.1)).Nodup
theorem mO {t:List (Int×List Int)} {s:Nat} (q) (h:q ∈ kY s t):0≤q.2:=by
 obtain ⟨a,b⟩:=q
 obtain ⟨n,x,_,_,rfl⟩:=ul.1 h
 simp
 omega
theorem OY {t:List (Int×List Int)} (h:rP t=true):May t:=by
 unfold rP at h
 simp only [Bool.and_eq_true,decide_eq_true_eq,Bool.not_eq_true'] at h
 obtain ⟨⟨h1,h2⟩,h3⟩:=h
 obtain ⟨a,b⟩:=ET t.length _ _ mO h3
 refine ⟨h1,?_,fun q hq=>⟨mO q hq,(a q hq).1,(a q hq).2.1⟩,b⟩
 intro x hx
 have:=List.any_eq_false.1 h2 x hx
 simp only [mb,Bool.or_eq_true,decide_eq_true_eq,not_or] at this
 omega
end Go.Ab
set_option maxRecDepth 100000
set_option linter.unusedVariables false
namespace Go.Ab
theorem X1 (x:Int×List Int):ej x=some (mb x):=by
 unfold ej mb
 cases decide (x.1<0) <;> rfl
section
variable (k:Nat) (hk:9223372036854775808≤k)
include hk
theorem RN (t:List (Int×List Int)) (ht:Wt t):cK k t=some (YS t):=by
 have hlen:=ht.len
 have key:∀ r i n,t.drop i=r→i≤t.length→r.length<n→bg k t n (i:Int)=some ((r.take (41 - i)).all (fun x=>decide (x.2.length≤40))&&decide (t.length≤40)):=by
  intro r
  induction r with
  | nil=>
   intro i n hr hi hn
   obtain ⟨n,rfl⟩:=fZ hn
   have:i=t.length:=by have:=cY hr;omega
   subst this
   rw [bg,uM,cond_false,O8]
   simp
  | cons x r ih=>
   intro i n hr hi hn
   obtain ⟨n,rfl⟩:=fZ hn
   obtain ⟨a,b,c,d,e⟩:=cj hr
   rw [bg,ltN a,cond_true]
   by_cases h:i≤40
   ·rw [leT (show (i:Int)≤40 by omega),cond_true,fd b,ae]
    have e1:41 - i=(41 - (i+1))+1:=by omega
    rw [e1,List.take_succ_cons,List.all_cons]
    by_cases h2:x.2.length≤40
    ·rw [ltF (show ((x.2.length:Nat):Int)≤40 by omega),cond_false,fA (by omega),ih (i+1) n c (by omega) (by simp only [List.length_cons] at hn;omega),decide_eq_true h2,Bool.true_and]
    ·rw [ltT (show (40:Int)<(x.2.length:Nat) by omega),cond_true,decide_eq_false h2]
     rfl
   ·rw [leF (show (40:Int)<i by omega),cond_false,O8]
    have e1:41 - i=0:=by omega
    rw [e1]
    simp
 have:=key t 0 k rfl (Nat.zero_le _) (by omega)
 rw [cK]
 simpa [YS] using this
theorem QW (t:List (Int×List Int)) (ht:Wt t):aI k t=some (t.any mb):=by
 have hlen:=ht.len
 rw [aI,aV]
 rw [Jj (F:=fun n i=>av (k+8) t n i) (l:=t) mb ?_ ?_ _ (by omega)]
 ·rw [ae,rv]
 ·intro n
  simp only [av,uM,cond_false]
 ·intro n i x hi hx
  simp only [av,ltN hi,cond_true,fd hx,ae,X1,Prod.eta]
  rw [fA (by omega)]
theorem FS (t:List (Int×List Int)) (ht:Wt t):cw k t=some (rP t):=by
 have hlen:=ht.len
 rw [cw,QW k hk t ht,ae]
 unfold rP
 by_cases h1:t.length≤30
 ·rw [adP h1,cond_false,decide_eq_true h1]
  cases h2:t.any mb with
  | true=>rfl
  | false=>
   have h3:decide ((0:Int)≤(t.length:Int)∧(t.length:Int)≤9223372036854775807∧(t.length:Int)*1≤70368744177664)=true:=by simp;omega
   rw [h3,cond_false,cond_true]
   -- one task's kids
   have inner:∀ (x:Int×List Int) (hx:x ∈ t) (i:Nat) (hi:i<t.length) (o:Int→List Bool→Option Bool) (R:List (Int×Int)) (n0:Nat)
     (ho:∀ had:Rh t.length,o ((i+1:Nat):Int) had.1=some (OZ (eE t.length) R had).1),
     ∀ r j n (had:Rh t.length),x.2.drop j=r→r.length<n →
      cy k t o n x.2 (x.2.length:Int) (j:Int) had.1 (i:Int)=some (OZ (eE t.length) (r.map (fun q=>(q,(i:Int)))++R) had).1:=by
    intro x hx i hi o R n0 ho r
    have hxl:=ht.kids x hx
    induction r with
    | nil=>
     intro j n had hr hn
     obtain ⟨n,rfl⟩:=fZ hn
     have hj:=cY hr
     rw [cy,ltF (by omega),cond_false,fA (by omega),ho]
     rfl
    | cons q r ih=>
     intro j n had hr hn
     obtain ⟨n,rfl⟩:=fZ hn
     obtain ⟨a,b,c,d,e⟩:=cj hr
     have hb:=had.2
     rw [cy,ltN a,cond_true,fd b,ae,List.map_cons,List.cons_append,OZ]
     by_cases h1:q≤(i:Int)
     ·rw [leT h1,cond_true]
      simp [eE,oQ,leT h1]
     ·rw [leF (show (i:Int)<q by omega),cond_false]
      by_cases h2:(t.length:Int)≤q
      ·rw [leT h2,cond_true]
       simp [eE,oQ,leT h2]
      ·rw [leF (show q<(t.length:Int) by omega),cond_false]
       have h5:decide ((0:Int)≤q∧q.toNat<t.length)=true:=by simp;omega
       have h3:q.toNat<had.1.length:=by rw [hb];omega
       have h4:had.1[q.toNat]? = some had.1[q.toNat]:=List.getElem?_eq_getElem h3
       rw [h5,cond_true,h4,ae,cond_true,ae,fA (by omega)]
       cases hh:had.1[q.toNat] with
       | true=>simp [eE,oQ,leF (show (i:Int)<q by omega),leF (show q<(t.length:Int) by omega),h4,hh]
       | false=>
        rw [cond_false]
        have e1:eE t.length had (q,(i:Int))=(true,⟨had.1.set q.toNat true,by simp [had.2]⟩):=by
         simp [eE,oQ,leF (show (i:Int)<q by omega),leF (show q<(t.length:Int) by omega),h4,hh]
        rw [e1]
        simp only [if_true]
        exact ih (j+1) n ⟨had.1.set q.toNat true,by simp [had.2]⟩ c (by simp only [List.length_cons] at hn;omega)
   have outer:∀ r i n (had:Rh t.length),t.drop i=r→i≤t.length→r.length<n→bF k t n (i:Int) had.1=some (OZ (eE t.length) (kY i r) had).1:=by
    intro r
    induction r with
    | nil=>
     intro i n had hr hi hn
     obtain ⟨n,rfl⟩:=fZ hn
     have:=cY hr
     rw [bF,ltF (by omega),cond_false]
     rfl
    | cons x r ih=>
     intro i n had hr hi hn
     obtain ⟨n,rfl⟩:=fZ hn
     obtain ⟨a,b,c,d,e⟩:=cj hr
     have hxl:=ht.kids x d
     rw [bF,ltN a,cond_true,fd b,ae,kY]
     have:=inner x d i a (fun s47 s56=>bF k t n s47 s56) (kY (i+1) r) n (fun had=>ih (i+1) n had c (by omega) (by simp only [List.length_cons] at hn;omega)) x.2 0 (k+17) had rfl (by omega)
     simpa using this
   have:=outer t 0 (k+17) (CV t.length) rfl (Nat.zero_le _) (by omega)
   simpa [CV] using this
 ·rw [adW (by omega),cond_true,decide_eq_false h1]
  rfl
end
end Go.Ab
set_option linter.unusedVariables false
namespace Go.Ab
theorem xu (z:Int):IntKind.u64.wrap z=z%18446744073709551616:=by simp [IntKind.wrap,IntKind.bits,IntKind.signed]
theorem EM {c:CF} {x:Int} (h0:0≤x) (h1:x≤18446744073709551615):fB c x=some (xB c x):=by
 unfold fB xB
 simp only [Prod.eta,eS,ae]
 cases hm:fI c with
 | false=>rfl
 | true=>
  have hc:=bG hm
  have hi:IntKind.u64.wrap c.2.2.1=c.2.2.1:=ir (by omega) (by omega)
  have h3:=Int.emod_lt_of_pos x (show 0<c.2.2.1 by omega)
  have h4:=Int.emod_nonneg x (show c.2.2.1≠0 by omega)
  have e1:IntKind.i64.wrap (c.1 - 1)=c.1 - 1:=by rw [IntKind.wrap_i64];omega
  rw [Bool.not_true,cond_false,S5,ae,e1,decide_eq_true (by omega),Bool.not_true,cond_false,hi,Bc,decide_eq_false (by omega),Bool.not_false,cond_true,if_pos rfl,Int.tmod_eq_emod_of_nonneg h0]
  have e2:IntKind.i64.wrap (x%c.2.2.1)=x%c.2.2.1:=by rw [IntKind.wrap_i64];omega
  rw [e2,IntKind.wrap_i64]
  congr 1
  omega
theorem Pt {c:CF} {x:Int} (h0:0≤x) (h1:x≤18446744073709551615):iL c x=some (T5 c x):=by
 unfold iL T5
 simp only [Prod.eta,eS,ae]
 cases hm:fI c with
 | false=>rfl
 | true=>
  have hc:=bG hm
  have hi:IntKind.u64.wrap c.2.2.1=c.2.2.1:=ir (by omega) (by omega)
  have h3:=Int.emod_lt_of_pos x (show 0<c.2.2.1 by omega)
  have h4:=Int.emod_nonneg x (show c.2.2.1≠0 by omega)
  have e1:IntKind.i64.wrap (c.1 - 1)=c.1 - 1:=by rw [IntKind.wrap_i64];omega
  rw [Bool.not_true,cond_false,S5,ae,e1,decide_eq_true (by omega),Bool.not_true,cond_false,hi,Bc,decide_eq_false (by omega),Bool.not_false,cond_true,if_pos rfl,Int.tmod_eq_emod_of_nonneg h0]
  have e2:IntKind.i64.wrap (x%c.2.2.1)=x%c.2.2.1:=by rw [IntKind.wrap_i64];omega
  have e3:IntKind.i64.wrap (6+c.2.2.1)=6+c.2.2.1:=by rw [IntKind.wrap_i64];omega
  rw [e2,e3,IntKind.wrap_i64]
  congr 1
  omega
theorem Im {c:CF} {x:Int} (hm:fI c=true) (h0:0≤x) (h1:x≤18446744073709551615):IntKind.u64.wrap (IntKind.u64.wrap (x.tdiv (IntKind.u64.wrap c.2.2.1))*2)=Bq c x:=by
 have hc:=bG hm
 have hi:IntKind.u64.wrap c.2.2.1=c.2.2.1:=ir (by omega) (by omega)
 have h3:0≤x/c.2.2.1:=Int.ediv_nonneg h0 (by omega)
 have h4:x/c.2.2.1≤x:=Int.ediv_le_self _ h0
 rw [hi,Int.tdiv_eq_ediv_of_nonneg h0,ir h3 (by omega),xu]
 rfl
theorem pi (a b:Int):IntKind.u64.wrap (a+b)=mr a b:=by rw [xu];rfl
theorem fc (a b:Int):0≤mr a b∧mr a b≤18446744073709551615:=by unfold mr;omega
theorem ne0 {c:CF} (hm:fI c=true):(IntKind.u64.wrap c.2.2.1!=0)=true:=by
 have hc:=bG hm
 rw [ir (by omega) (by omega),Bc,decide_eq_false (by omega)]
 rfl
theorem O9 {c:CF} {x:Int} (hm:fI c=true) (h0:0≤x) (h1:x≤18446744073709551615):gf c x=some (xI c x):=by
 unfold gf xI
 rw [ne0 hm,cond_true,Im hm h0 h1,pi]
theorem Jx (a b:Int):eb a b=some (Fb a b):=rfl
theorem Il (c:CF) (m:List Int) (f:FR) (op:Int):gp c m f op=some (nZ c m f op):=by
 unfold gp lx nZ
 simp only [Prod.eta,eS,ug,ky,ae]
 cases hm:fI c with
 | false=>rfl
 | true=>
  rw [cond_true,ae,lu,Bool.true_and]
  by_cases h1:(m.length:Int)=cS c
  ·rw [decide_eq_true h1,cond_true,Bool.true_and]
   unfold fQ
   rw [Bc,Bool.not_not,lu]
   by_cases h2:f.2.2.2.2.2.2=0
   ·rw [decide_eq_true h2,cond_true]
    by_cases h3:f.1=op
    ·rw [decide_eq_true h3,cond_true]
     by_cases h4:0≤f.2.1
     ·rw [leT h4,cond_true]
      congr 1
      simp [h2,h3,h4]
     ·rw [leF (by omega),cond_false]
      simp [h4]
    ·rw [decide_eq_false h3,cond_false]
     simp [h3]
   ·rw [decide_eq_false h2,cond_false]
    simp [h2]
  ·rw [decide_eq_false h1,cond_false]
   rfl
theorem ES {c:CF} {m:List Int} {f:FR} {op:Int} (h:nZ c m f op=true):fI c=true∧(m.length:Int)=cS c∧f.2.2.2.2.2.2=0∧f.1=op∧0≤f.2.1∧f.2.1<5:=by
 unfold nZ at h
 rw [Bool.and_eq_true,Bool.and_eq_true,decide_eq_true_eq,decide_eq_true_eq] at h
 exact ⟨h.1.1,h.1.2,h.2⟩
theorem Ic (c:CF) {m:List Int} (hm:Wm m) (hl:m.length≤1000) {f:FR} (hf:Wf f):iP c m f=some (Kc c m f):=by
 unfold iP Kc
 try simp only [Prod.eta]
 rw [bx (by omega),ae,Il,ae]
 cases h:nZ c m f 3 with
 | false=>rfl
 | true=>
  obtain ⟨hmay,_,h6,h0,h1,h1'⟩:=ES h
  rw [Bool.not_true,cond_false,if_neg (by simp)]
  obtain ⟨a0,a1,a2,a3,a4,a5,a6⟩:=f
  simp only at h6 h0 h1 h1' ⊢
  have e:decide (0≤a1∧a1.toNat<5)=true:=by rw [decide_eq_true_eq];omega
  rw [e,cond_true]
  obtain ⟨w3,w4,w5⟩:=hf
  simp only at w3 w4 w5
  rcases (show a1=0∨a1=1∨a1=2∨a1=3∨a1=4 by omega) with rfl | rfl | rfl | rfl | rfl
  ·simp [dH,ae]
  ·simp only [EM w4.1 w4.2,dH,ae,ne0 hmay,Im hmay w4.1 w4.2,Jx,fX,lu,cond_true]
   by_cases h5:aB m (xB c a4)=Bq c a4
   ·simp [h5]
   ·by_cases h7:Fb (aB m (xB c a4)) (Bq c a4)<0
    ·simp [h5,h7,dK]
    ·simp [h5,h7]
  ·simp only [pi,Cr hl,ae]
   cases hc:(pA m 5 a4 (mr a4 1)).2 <;> simp [hc]
  ·simp only [Pt w4.1 w4.2,gw hl,ae]
   simp
  ·simp only [EM w4.1 w4.2,ne0 hmay,Im hmay w4.1 w4.2,pi,gw hl,ae,fX,cond_true]
   simp [dK]
theorem JC (c:CF) {m:List Int} (hm:Wm m) (hl:m.length≤1000) {f:FR} (hf:Wf f):iS c m f=some (Ka c m f):=by
 unfold iS Ka
 try simp only [Prod.eta]
 rw [bx (by omega),ae,Il,ae]
 cases h:nZ c m f 4 with
 | false=>rfl
 | true=>
  obtain ⟨hmay,_,h6,h0,h1,h1'⟩:=ES h
  rw [Bool.not_true,cond_false,if_neg (by simp)]
  obtain ⟨a0,a1,a2,a3,a4,a5,a6⟩:=f
  simp only at h6 h0 h1 h1' ⊢
  obtain ⟨w3,w4,w5⟩:=hf
  simp only at w3 w4 w5
  rcases (show a1=0∨a1=1∨a1=2∨a1=3∨a1=4 by omega) with rfl | rfl | rfl | rfl | rfl
  ·simp [dH,ae]
  ·simp only [EM w4.1 w4.2,dH,ae,O9 hmay w4.1 w4.2,Jx,fX,lu]
   by_cases h5:Fb (aB m (xB c a4)) (xI c a4)=0
   ·simp [h5]
   ·by_cases h7:Fb (aB m (xB c a4)) (xI c a4)<0
    ·simp [h5,h7,dK]
    ·simp [h5,h7]
  ·simp only [pi,Cr hl,ae]
   cases hc:(pA m 4 a4 (mr a4 1)).2 <;> simp [hc]
  ·simp only [Pt w4.1 w4.2,dH,ae]
   simp
  ·simp only [EM w4.1 w4.2,O9 hmay w4.1 w4.2,pi,gw hl,ae,fX]
   simp [dK]
theorem BC (c:CF) {m:List Int} (hm:Wm m) (hl:m.length≤1000) {f:FR} (hf:Wf f):bc c m f=some (wL c m f):=by
 unfold bc wL
 simp only [Prod.eta,Ic c hm hl hf,JC c hm hl hf,ae,lu]
 by_cases h3:f.1=3
 ·simp [h3]
 ·by_cases h4:f.1=4
  ·simp [h4]
  ·simp [h3,h4,bx (b:=8) (l:=m) (by omega),ae]
theorem AR {k:Nat} (hk:1000≤k) (c:CF) {m:List Int} (hm:Wm m) (hl:m.length≤1000) {f:FR} (hf:Wf f):bM k c m f=some (D0 c m f):=by
 unfold bM D0
 simp only [Prod.eta,Sm c hm hl hf,SF hk c hm hl hf,ae,lu]
 by_cases h5:f.1=5
 ·rw [decide_eq_true h5,cond_true,if_pos h5]
 ·rw [decide_eq_false h5,cond_false,if_neg h5]
  by_cases h6:f.1=6
  ·rw [decide_eq_true h6,cond_true,cond_true,if_pos (.inl h6)]
  ·rw [decide_eq_false h6,cond_false]
   by_cases h7:f.1=7
   ·rw [decide_eq_true h7,cond_true,if_pos (.inr h7)]
   ·rw [decide_eq_false h7,cond_false,if_neg (by omega),bx (by omega),ae]
theorem Vl {m:List Int} (hl:m.length≤1000) (i v:Int):cH m i v=some (if 0≤i∧i<m.length then (aW m i (mr (aB m i) v),aB m i) else (m,0)):=by
 unfold cH
 rw [bx (by omega),ae,Y2,ae]
 by_cases h:0≤i∧i<m.length
 ·have hd:decide (0≤i∧i.toNat<m.length)=true:=decide_eq_true (by omega)
  rw [decide_eq_true h,Bool.not_true,cond_false,(kq h).1,ae,hd,cond_true,(kq h).2,ae,ae,if_pos h,pi]
  unfold aW
  rw [if_pos h.1]
 ·rw [decide_eq_false h,Bool.not_false,cond_true,if_neg h]
theorem OT {k:Nat} (hk:9223372036854775808≤k) (c:CF) {t:List (Int×List Int)} (ht:Wt t) (m:List Int) (x:SB):eL k c t m x=some (rE c t m x):=by
 unfold eL rE
 simp only [Prod.eta,eS,ug,ae]
 rw [FS (k+4) (by omega) t ht]
 cases hm:fI c with
 | false=>rfl
 | true=>
  rw [cond_true,lu,Bool.true_and]
  by_cases h1:(m.length:Int)=cS c
  ·rw [decide_eq_true h1,cond_true,Bool.true_and,ae]
   cases ht2:rP t with
   | false=>rfl
   | true=>
    rw [cond_true,Bool.true_and]
    by_cases h2:0≤x.1
    ·rw [leT h2,cond_true]
     by_cases h3:x.1<6
     ·rw [ltT h3,cond_true]
      cases hl:x.2.1 with
      | nil=>simp
      | cons r rest=>
       have h0:idx (r::rest) 0=some r:=rfl
       rw [ltT (by simp),cond_true,h0,ae,ae]
       by_cases h4:0≤r
       ·rw [leT h4,cond_true]
        congr 1
        simp [h2,h3,rm,h4]
       ·rw [leF (by omega),cond_false]
        simp [rm,h4]
     ·rw [ltF (by omega),cond_false]
      simp [h3]
    ·rw [leF (by omega),cond_false]
     simp [h2]
  ·rw [decide_eq_false h1,cond_false]
   rfl
theorem CH {c:CF} {t:List (Int×List Int)} {m:List Int} {x:SB} (h:rE c t m x=true):fI c=true∧(m.length:Int)=cS c∧rP t=true∧0≤x.1∧x.1<6∧∃ r rest,x.2.1=r::rest∧0≤r∧r<t.length:=by
 unfold rE at h
 simp only [Bool.and_eq_true,decide_eq_true_eq] at h
 obtain ⟨⟨⟨h1,h2⟩,h3⟩,h4,h5,h6,h7,h8⟩:=h
 cases hx:x.2.1 with
 | nil=>exact absurd hx h6
 | cons r rest=>
  rw [hx] at h7 h8
  exact ⟨h1,h2,h3,h4,h5,r,rest,rfl,h7,h8⟩
theorem mX {c:CF} (h:fI c=true):12≤cS c∧cS c≤190:=by
 have hm:=bG h
 have:=fO h (w:=c.1) (by omega) (by omega)
 unfold cS
 rw [if_pos h]
 have e:GK c c.1=6+2*c.2.2.1+c.1*(3+c.2.1):=rfl
 have h3:1*(3+c.2.1)≤c.1*(3+c.2.1):=Int.mul_le_mul_of_nonneg_right (by omega) (by omega)
 omega
theorem S9 {k:Nat} (hk:9223372036854775808≤k) (c:CF) {t:List (Int×List Int)} (ht:Wt t) {m:List Int} (hm:Wm m) (hl:m.length≤1000) (i:Int) {x:SB} (hf:Wf x.2.2) (hr:x.2.1.length≤1000) (ht2:t.length≤1000):eY k c t m i x=some (kr c t m i x):=by
 unfold eY kr
 try simp only [Prod.eta]
 rw [bx (by omega),ae,bx (by omega),ae,OT (by omega) c ht,ae]
 cases hmay:rE c t m x with
 | false=>rfl
 | true=>
  rw [Bool.not_true,cond_false,if_neg (by simp)]
  obtain ⟨h1,h2,h3,h4,h5,r,rest,hx,h6,h7⟩:=CH hmay
  have hsz:=mX h1
  obtain ⟨pc,roots,F⟩:=x
  simp only at hx h4 h5 hf hr ⊢
  subst hx
  have hi0:idx (r::rest) 0=some r:=rfl
  have hroom:room 1 24=true:=rfl
  have hroom2:room 2 24=true:=rfl
  have hd:decide ((1:Int)≤((r::rest).length:Int))=true:=decide_eq_true (by simp;omega)
  have hdr:List.drop (Int.toNat 1) (r::rest)=rest:=rfl
  have hh:rm (r::rest)=r:=rfl
  have hur:IntKind.u64.wrap r=r:=ir h6 (by omega)
  have htl:(r::rest).tail=rest:=rfl
  rw [hi0,ae]
  simp only [BC c hm hl hf,AR (k:=k+20) (by omega) c hm hl hf,dH,Vl hl,ae,ky,PZ,hroom,hroom2,hd,hdr,hh,htl,cond_true,hur,lu,Bc]
  have hb:∀ op w v:Int,aC op w v=some (op,0,w,v,0,0,0):=fun _ _ _=>rfl
  simp only [hb,ae]
  have hin:(0:Int)≤0∧(0:Int)<m.length:=by omega
  have hcall:i7 c m F=if F.1=3∨F.1=4 then wL c m F else D0 c m F:=rfl
  rcases (show pc=0∨pc=1∨pc=2∨pc=3∨pc=4∨pc=5 by omega) with rfl | rfl | rfl | rfl | rfl | rfl
  ·by_cases h:aB m 3=0
   ·simp [h]
   ·simp [h,dt]
  ·simp only [if_pos hin]
   simp
  ·by_cases e3:F.1=3
   ·have ec:i7 c m F=wL c m F:=by rw [hcall,if_pos (.inl e3)]
    rw [ec]
    cases ho:fQ (wL c m F).2 with
    | false=>simp [e3,ho]
    | true=>
     by_cases h8:(wL c m F).2.2.2.2.2.2.2=2
     ·simp [e3,ho,h8]
     ·simp [e3,ho,h8]
   ·by_cases e4:F.1=4
    ·have ec:i7 c m F=wL c m F:=by rw [hcall,if_pos (.inr e4)]
     rw [ec]
     cases ho:fQ (wL c m F).2 with
     | false=>simp [e4,ho]
     | true=>
      by_cases h8:(wL c m F).2.2.2.2.2.2.2=2
      ·simp [e4,ho,h8]
      ·simp [e4,ho,h8]
    ·have ec:i7 c m F=D0 c m F:=by rw [hcall,if_neg (by omega)]
     rw [ec]
     cases ho:fQ (D0 c m F).2 with
     | false=>simp [e3,e4,ho]
     | true=>
      by_cases h8:(D0 c m F).2.2.2.2.2.2.2=2
      ·simp [e3,e4,ho,h8]
      ·simp [e3,e4,ho,h8]
  ·by_cases h:aB m 1=0
   ·simp [h]
   ·simp [h,dt]
  ·by_cases e3:F.1=3
   ·have ec:i7 c m F=wL c m F:=by rw [hcall,if_pos (.inl e3)]
    rw [ec]
    cases ho:fQ (wL c m F).2 with
    | false=>simp [e3,ho]
    | true=>simp [e3,ho,dt]
   ·by_cases e4:F.1=4
    ·have ec:i7 c m F=wL c m F:=by rw [hcall,if_pos (.inr e4)]
     rw [ec]
     cases ho:fQ (wL c m F).2 with
     | false=>simp [e4,ho]
     | true=>simp [e4,ho,dt]
    ·have ec:i7 c m F=D0 c m F:=by rw [hcall,if_neg (by omega)]
     rw [ec]
     cases ho:fQ (D0 c m F).2 with
     | false=>simp [e3,e4,ho]
     | true=>simp [e3,e4,ho,dt]
  ·simp only [if_pos hin]
   by_cases h:aB m 0=1
   ·simp [h,dt,hroom2]
   ·simp [h,dt]
end Go.Ab
set_option linter.unusedVariables false
namespace Go.Ab
def onW (c:CF) (w x:Int):Int:=if fI c=true∧0≤w∧w<c.1 then GK c w+x else -1
def GC (c:CF) (w:Int):Int:=onW c w 0
def GM (c:CF) (w:Int):Int:=onW c w 1
def xc (c:CF) (w x:Int):Int:=onW c w (3+rQ .u64 x (c.2.1 - 1))
def Rf (a b:Int):Int:=(a - b)%18446744073709551616
def rU (c:CF) (m:List Int) (f:FR):List Int×FR:=
 if ov c m f 0 4=false then (m,f)
 else if f.2.1=0 then (m,f.1,1,f.2.2.1,f.2.2.2.1,aB m (GM c f.2.2.1),f.2.2.2.2.2)
 else if f.2.1=1 then (if c.2.1≤Rf f.2.2.2.2.1 (aB m (GC c f.2.2.1)) then (m,dK f 2 f.2.2.2.1) else (m,f.1,2,f.2.2.1,f.2.2.2.1,f.2.2.2.2.1,aB m (GC c f.2.2.1),f.2.2.2.2.2.2))
 else if f.2.1=2 then (aW m (xc c f.2.2.1 f.2.2.2.2.1) f.2.2.2.1,f.1,3,f.2.2)
 else (aW m (GM c f.2.2.1) (mr f.2.2.2.2.1 1),dK f 1 f.2.2.2.1)
def J8 (c:CF) (m:List Int) (f:FR):List Int×FR:=
 if ov c m f 1 7=false then (m,f)
 else if f.2.1=0 then (m,f.1,1,f.2.2.1,f.2.2.2.1,Rf (aB m (GM c f.2.2.1)) 1,f.2.2.2.2.2)
 else if f.2.1=1 then (aW m (GM c f.2.2.1) f.2.2.2.2.1,f.1,2,f.2.2)
 else if f.2.1=2 then (m,f.1,if Fb f.2.2.2.2.1 (aB m (GC c f.2.2.1))<0 then 6 else 3,f.2.2.1,f.2.2.2.1,f.2.2.2.2.1,aB m (GC c f.2.2.1),f.2.2.2.2.2.2)
 else if f.2.1=3 then (if f.2.2.2.2.1≠f.2.2.2.2.2.1 then (m,dK f 1 (aB m (xc c f.2.2.1 f.2.2.2.2.1))) else (m,f.1,4,f.2.2.1,aB m (xc c f.2.2.1 f.2.2.2.2.1),f.2.2.2.2))
 else if f.2.1=4 then (let r:=pA m (GC c f.2.2.1) f.2.2.2.2.2.1 (mr f.2.2.2.2.2.1 1);(r.1,f.1,if r.2=true then 5 else 6,f.2.2))
 else if f.2.1=5 then (aW m (GM c f.2.2.1) (mr f.2.2.2.2.1 1),dK f 1 f.2.2.2.1)
 else (aW m (GM c f.2.2.1) (mr f.2.2.2.2.1 1),dK f 3 0)
def lI (c:CF) (m:List Int) (f:FR):List Int×FR:=
 if ov c m f 2 4=false then (m,f)
 else if f.2.1=0 then (m,f.1,1,f.2.2.1,f.2.2.2.1,f.2.2.2.2.1,aB m (GC c f.2.2.1),f.2.2.2.2.2.2)
 else if f.2.1=1 then (if Fb (aB m (GM c f.2.2.1)) f.2.2.2.2.2.1≤0 then (m,dK f 3 0) else (m,f.1,2,f.2.2.1,f.2.2.2.1,aB m (GM c f.2.2.1),f.2.2.2.2.2))
 else if f.2.1=2 then (m,f.1,3,f.2.2.1,aB m (xc c f.2.2.1 f.2.2.2.2.2.1),f.2.2.2.2)
 else (let r:=pA m (GC c f.2.2.1) f.2.2.2.2.2.1 (mr f.2.2.2.2.2.1 1);if r.2=true then (r.1,dK f 1 f.2.2.2.1) else (r.1,dK f 4 0))
def B7 (c:CF) (m:List Int) (f:FR):List Int×FR:=if f.1=0 then rU c m f else if f.1=1 then J8 c m f else if f.1=2 then lI c m f else (m,f)
def fG (c:CF) (m:List Int) (f:FR):List Int×FR:=if f.1=0∨f.1=1∨f.1=2 then B7 c m f else i7 c m f
theorem Wb (a b:Int):IntKind.u64.wrap (a - b)=Rf a b:=by rw [xu];rfl
theorem KB (a b:Int):0≤Rf a b∧Rf a b≤18446744073709551615:=by unfold Rf;omega
theorem IQ {x D:Int} (h0:0≤x) (h1:x≤18446744073709551615) (hD:1≤D) (hE:D≤16):0≤rQ .u64 x (D - 1)∧rQ .u64 x (D - 1)≤D - 1:=by
 obtain ⟨a,rfl⟩:=Int.eq_ofNat_of_zero_le h0
 obtain ⟨b,hb⟩:∃ b:Nat,D - 1=(b:Int):=⟨(D - 1).toNat,by omega⟩
 rw [hb,YW (by omega) (by omega)]
 have:=Nat.and_le_right (n:=a) (m:=b)
 omega
theorem LQ (c:CF) (w:Int):fF c w=some (GC c w):=by
 unfold fF GC onW
 try simp only [Prod.eta]
 rw [eS,ae]
 cases h:fI c with
 | false=>simp
 | true=>
  have hm:=bG h
  rw [Bool.not_true,cond_false,eo (by omega),S5,ae]
  by_cases h1:0≤w∧w≤c.1 - 1
  ·have ht:=fO h h1.1 (by omega)
   rw [decide_eq_true h1,Bool.not_true,cond_false,Bz h (by omega) (by omega),ae,if_pos ⟨rfl,by omega,by omega⟩,Int.add_zero]
  ·rw [decide_eq_false h1,Bool.not_false,cond_true,if_neg (by omega)]
theorem HM (c:CF) (w:Int):cQ c w=some (GM c w):=by
 unfold cQ GM onW
 try simp only [Prod.eta]
 rw [eS,ae]
 cases h:fI c with
 | false=>simp
 | true=>
  have hm:=bG h
  rw [Bool.not_true,cond_false,eo (by omega),S5,ae]
  by_cases h1:0≤w∧w≤c.1 - 1
  ·have ht:=fO h h1.1 (by omega)
   rw [decide_eq_true h1,Bool.not_true,cond_false,Bz h (by omega) (by omega),ae,eo (by omega),if_pos ⟨rfl,by omega,by omega⟩]
  ·rw [decide_eq_false h1,Bool.not_false,cond_true,if_neg (by omega)]
theorem Hy (c:CF) (w:Int) {x:Int} (h0:0≤x) (hx:x≤18446744073709551615):eJ c w x=some (xc c w x):=by
 unfold eJ xc onW
 try simp only [Prod.eta]
 rw [eS,ae]
 cases h:fI c with
 | false=>simp
 | true=>
  have hm:=bG h
  rw [Bool.not_true,cond_false,eo (z:=c.1 - 1) (by omega),S5,ae]
  by_cases h1:0≤w∧w≤c.1 - 1
  ·have ht:=fO h h1.1 (by omega)
   have ha:=IQ h0 hx (show 1≤c.2.1 by omega) (by omega)
   rw [decide_eq_true h1,Bool.not_true,cond_false,Bz h (by omega) (by omega),ae,if_pos ⟨rfl,by omega,by omega⟩,eo (z:=c.2.1 - 1) (by omega),ir (z:=c.2.1 - 1) (by omega) (by omega),eo (z:=rQ .u64 x (c.2.1 - 1)) (by omega),eo (z:=GK c w+3) (by omega),eo (by omega),Int.add_assoc]
  ·rw [decide_eq_false h1,Bool.not_false,cond_true,if_neg (by omega)]
section
variable (k:Nat) (c:CF) (m:List Int) (a2 a3 a4 a5:Int) (n:Nat) {x:List Int} (p q:Int)
theorem VZ:ao k c m (2,1,a2,a3,a4,a5,0) (n+1) x p q 0=ao k c m (2,1,a2,a3,a4,a5,0) n x p q 1:=by
 rw [ao]
 rfl
theorem U8:ao k c m (2,2,a2,a3,a4,a5,0) (n+1) x p q 0=ao k c m (2,2,a2,a3,a4,a5,0) n x p q 1:=by
 rw [ao]
 rfl
theorem YR:ao k c m (2,2,a2,a3,a4,a5,0) (n+1) x p q 1=ao k c m (2,2,a2,a3,a4,a5,0) n x p q 2:=by
 rw [ao]
 rfl
theorem U4:ao k c m (2,3,a2,a3,a4,a5,0) (n+1) x p q 0=ao k c m (2,3,a2,a3,a4,a5,0) n x p q 1:=by
 rw [ao]
 rfl
theorem Yr:ao k c m (2,3,a2,a3,a4,a5,0) (n+1) x p q 1=ao k c m (2,3,a2,a3,a4,a5,0) n x p q 2:=by
 rw [ao]
 rfl
theorem Yx:ao k c m (2,3,a2,a3,a4,a5,0) (n+1) x p q 2=ao k c m (2,3,a2,a3,a4,a5,0) n x p q 3:=by
 rw [ao]
 rfl
theorem W4:ao k c m (2,0,a2,a3,a4,a5,0) (n+1) x p q 0=some (x,(2,1,a2,a3,a4,aB x p,0)):=by
 have e:ao k c m (2,0,a2,a3,a4,a5,0) (n+1) x p q 0=ob (aD x p) fun r=>some (x,(2,1,a2,a3,a4,r,0)):=by
  rw [ao]
  rfl
 rw [e,dH,ae]
theorem Vv:ao k c m (2,1,a2,a3,a4,a5,0) (n+1) x p q 1=some (if Fb (aB x q) a5≤0 then (x,(2,0,a2,0,0,0,3)) else (x,(2,2,a2,a3,aB x q,a5,0))):=by
 have e:ao k c m (2,1,a2,a3,a4,a5,0) (n+1) x p q 1=ob (aD x q) fun r=>ob (eb r a5) fun y=>bif decide (y≤0) then some (x,(2,0,a2,0,0,0,3)) else some (x,(2,2,a2,a3,r,a5,0)):=by
  rw [ao]
  rfl
 rw [e,dH,ae,Jx,ae]
 by_cases h:Fb (aB x q) a5≤0
 ·rw [leT h,cond_true,if_pos h]
 ·rw [leF (by omega),cond_false,if_neg h]
theorem UH (h0:0≤a5) (h1:a5≤18446744073709551615):ao k c m (2,2,a2,a3,a4,a5,0) (n+1) x p q 2=some (x,(2,3,a2,aB x (xc c a2 a5),a4,a5,0)):=by
 have e:ao k c m (2,2,a2,a3,a4,a5,0) (n+1) x p q 2=ob (eJ c a2 a5) fun s=>ob (aD x s) fun r=>some (x,(2,3,a2,r,a4,a5,0)):=by
  rw [ao]
  rfl
 rw [e,Hy c a2 h0 h1,ae,dH,ae]
theorem Xq (hl:x.length≤1000):ao k c m (2,3,a2,a3,a4,a5,0) (n+1) x p q 3=some (if (pA x p a5 (mr a5 1)).2=true then ((pA x p a5 (mr a5 1)).1,(2,0,a2,a3,0,0,1)) else ((pA x p a5 (mr a5 1)).1,(2,0,a2,0,0,0,4))):=by
 have e:ao k c m (2,3,a2,a3,a4,a5,0) (n+1) x p q 3=ob (cG x p a5 (IntKind.u64.wrap (a5+1))) fun r=>bif r.2 then some (r.1,(2,0,a2,a3,0,0,1)) else some (r.1,(2,0,a2,0,0,0,4)):=by
  rw [ao]
  rfl
 rw [e,pi,Cr hl,ae]
 cases (pA x p a5 (mr a5 1)).2 <;> rfl
end
section
variable (c:CF) {m:List Int} (hm:Wm m) (hl:m.length≤1000) {f:FR} (hf:Wf f)
include hm hl hf
theorem FP:gM c m f=some (rU c m f):=by
 have _h:=hm
 unfold gM rU
 try simp only [Prod.eta]
 rw [bx (by omega),ae,EB,ae]
 cases h:ov c m f 0 4 with
 | false=>rfl
 | true=>
  obtain ⟨hmay,_,h6,h2,h2',h0,h1,h1'⟩:=wK h
  have hc:=bG hmay
  rw [cond_true,if_neg (by simp)]
  obtain ⟨a0,a1,a2,a3,a4,a5,a6⟩:=f
  simp only at h6 h2 h2' h0 h1 h1' ⊢
  obtain ⟨w3,w4,w5⟩:=hf
  simp only at w3 w4 w5
  rcases (show a1=0∨a1=1∨a1=2∨a1=3 by omega) with rfl | rfl | rfl | rfl
  ·simp [HM,dH,ae]
  ·simp only [LQ,dH,ae,fX,Wb,ir (z:=c.2.1) (by omega) (by omega)]
   by_cases h5:c.2.1≤Rf a4 (aB m (GC c a2))
   ·simp [h5,dK]
   ·simp [h5]
  ·simp only [Hy c a2 w4.1 w4.2,gw hl,ae]
   simp
  ·simp only [HM,gw hl,ae,fX,pi]
   simp [dK]
theorem HO:iA c m f=some (J8 c m f):=by
 have _h:=hm
 unfold iA J8
 try simp only [Prod.eta]
 rw [bx (by omega),ae,EB,ae]
 cases h:ov c m f 1 7 with
 | false=>rfl
 | true=>
  obtain ⟨hmay,_,h6,h2,h2',h0,h1,h1'⟩:=wK h
  rw [Bool.not_true,cond_false,if_neg (by simp)]
  obtain ⟨a0,a1,a2,a3,a4,a5,a6⟩:=f
  simp only at h6 h2 h2' h0 h1 h1' ⊢
  obtain ⟨w3,w4,w5⟩:=hf
  simp only at w3 w4 w5
  rw [LQ,ae,HM,ae]
  have hw:∀ z:Int,0≤z→z≤100→IntKind.i64.wrap (z+1)=z+1:=fun z _ _=>eo (by omega)
  rcases (show a1=0∨a1=1∨a1=2∨a1=3∨a1=4∨a1=5∨a1=6 by omega) with rfl | rfl | rfl | rfl | rfl | rfl | rfl
  ·rw [hw 0 (by decide) (by decide)]
   simp [dH,ae,Wb]
  ·rw [hw 1 (by decide) (by decide)]
   simp [gw hl,ae]
  ·rw [hw 2 (by decide) (by decide)]
   simp only [dH,ae,Jx]
   by_cases h5:Fb a4 (aB m (GC c a2))<0
   ·simp [h5]
   ·simp [h5]
  ·rw [hw 3 (by decide) (by decide)]
   simp only [Hy c a2 w4.1 w4.2,dH,ae,fX,Bc]
   by_cases h5:a4=a5
   ·simp [h5]
   ·simp [h5,dK]
  ·rw [hw 4 (by decide) (by decide)]
   simp only [pi,Cr hl,ae]
   cases hc:(pA m (GC c a2) a5 (mr a5 1)).2 <;> simp [hc]
  ·simp only [pi,gw hl,ae,fX]
   simp [dK]
  ·simp only [pi,gw hl,ae,fX]
   simp [dK]
theorem Ca (k:Nat):fD k c m f=some (lI c m f):=by
 have _h:=hm
 unfold fD lI
 try simp only [Prod.eta]
 rw [bx (by omega),ae,EB,ae]
 cases h:ov c m f 2 4 with
 | false=>rfl
 | true=>
  obtain ⟨hmay,_,h6,h2,h2',h0,h1,h1'⟩:=wK h
  rw [Bool.not_true,cond_false,if_neg (by simp)]
  obtain ⟨a0,a1,a2,a3,a4,a5,a6⟩:=f
  simp only at h6 h2 h2' h0 h1 h1' ⊢
  obtain ⟨w3,w4,w5⟩:=hf
  simp only at w3 w4 w5
  subst h6
  subst h0
  rw [LQ,ae,HM,ae]
  rcases (show a1=0∨a1=1∨a1=2∨a1=3 by omega) with rfl | rfl | rfl | rfl
  ·rw [if_pos rfl]
   exact W4 k c m a2 a3 a4 a5 (k+22) _ _
  ·rw [if_neg (by decide),if_pos rfl]
   exact (VZ k c m a2 a3 a4 a5 (k+22) _ _).trans (Vv k c m a2 a3 a4 a5 (k+21) _ _)
  ·rw [if_neg (by decide),if_neg (by decide),if_pos rfl]
   exact (U8 k c m a2 a3 a4 a5 (k+22) _ _).trans ((YR k c m a2 a3 a4 a5 (k+21) _ _).trans (UH k c m a2 a3 a4 a5 (k+20) _ _ w5.1 w5.2))
  ·rw [if_neg (by decide),if_neg (by decide),if_neg (by decide)]
   exact (U4 k c m a2 a3 a4 a5 (k+22) _ _).trans ((Yr k c m a2 a3 a4 a5 (k+21) _ _).trans ((Yx k c m a2 a3 a4 a5 (k+20) _ _).trans (Xq k c m a2 a3 a4 a5 (k+19) _ _ hl)))
theorem FY (k:Nat):dO k c m f=some (B7 c m f):=by
 unfold dO B7
 simp only [Prod.eta,FP c hm hl hf,HO c hm hl hf,Ca c hm hl hf,ae,lu]
 by_cases h0:f.1=0
 ·simp [h0]
 ·by_cases h1:f.1=1
  ·simp [h1]
  ·by_cases h2:f.1=2
   ·simp [h2]
   ·simp [h0,h1,h2,bx (b:=8) (l:=m) (by omega),ae]
end
end Go.Ab
set_option maxRecDepth 100000
set_option linter.unusedVariables false
namespace Go.Ab
structure FwT (t:List (Int×List Int)):Prop where
 len:t.length≤40
 kids:∀ x ∈ t,x.2.length≤40
theorem WQ {t:List (Int×List Int)} (h:YS t=true):FwT t:=by
 simp only [YS,Bool.and_eq_true,decide_eq_true_eq,List.all_eq_true] at h
 refine ⟨h.2,fun x hx=>h.1 x ?_⟩
 rwa [List.take_of_length_le (by omega)]
theorem FwT.wt {t:List (Int×List Int)} (h:FwT t):Wt t:=⟨by have:=h.len;omega,fun x hx=>by have:=h.kids x hx;omega⟩
def ms (t:List (Int×List Int)) (q:Int):Int×List Int:=(t[q.toNat]?).getD (0,[])
def A3 (t:List (Int×List Int)) (x:Int×Int×Int):Bool:=
 decide (0≤x.1)&&decide (x.1<t.length)&&(decide (0≤x.2.1)&&decide (x.2.1≤(ms t x.1).1))&&(decide (0≤x.2.2)&&decide (x.2.2≤((ms t x.1).2.length:Int))) &&
  !(decide (x.2.1<(ms t x.1).1)&&decide (0<x.2.2))
def cF (t:List (Int×List Int)) (s:List (Int×Int×Int)):Bool:=rP t&&s.all (A3 t)
theorem Iw {t:List (Int×List Int)} {q:Int} (h0:0≤q) (h1:q<t.length):idx t q=some (ms t q):=by
 rw [idx,if_pos h0,ms,List.getElem?_eq_getElem (by omega)]
 rfl
theorem wU {t:List (Int×List Int)} {q:Int} (h0:0≤q) (h1:q<t.length):ms t q ∈ t:=by
 rw [ms,List.getElem?_eq_getElem (show q.toNat<t.length by omega)]
 exact List.getElem_mem _
theorem Hf {α:Type} (b:Nat) (l:List α) (h:l.length*b≤70368744177664):aJ b l=some l:=by
 unfold aJ
 rw [ac7,decide_eq_true h,cd]
theorem Um (a b:Int):eO a b=some (decide (0≤a)&&decide (a≤b)):=by
 rw [eO]
 cases decide ((0:Int)≤a) <;> rfl
section
variable (k:Nat) (hk:9223372036854775808≤k)
include hk
theorem Iq (t:List (Int×List Int)) (ht:Wt t) (s:List (Int×Int×Int)) (hs:s.length≤9223372036854775807):eF k t s=some (cF t s):=by
 have hlen:=ht.len
 rw [eF,FS k hk t ht,ae,cF]
 cases hm:rP t with
 | false=>rfl
 | true=>
  have h30:=HH hm
  rw [cond_true,Jj (F:=fun n i=>bA k n s (s.length:Int) t i) (l:=s) (fun x => !A3 t x) ?_ ?_ _ (by omega),ae,rv]
  ·rw [List.all_eq_not_any_not,Bool.true_and]
  ·intro n
   simp only [bA,uM,cond_false]
  ·intro n i x hi hx
   simp only [bA,ltN hi,cond_true,fd hx,ae,Um]
   rw [fA (by omega),eo (z:=(t.length:Int) - 1) (by omega)]
   have e0:decide (x.1≤(t.length:Int) - 1)=decide (x.1<(t.length:Int)):=by
    by_cases h:x.1<(t.length:Int)
    ·rw [decide_eq_true h,decide_eq_true (by omega)]
    ·rw [decide_eq_false h,decide_eq_false (by omega)]
   rw [e0]
   unfold A3
   by_cases h0:0≤x.1
   ·by_cases h1:x.1<(t.length:Int)
    ·rw [leT h0,ltT h1,Iw h0 h1,ae]
     simp only [Bool.and_self,Bool.not_true,cond_false,Bool.true_and]
     cases (decide (0≤x.2.1)&&decide (x.2.1≤(ms t x.1).1)) with
     | false=>rfl
     | true=>
      cases (decide (0≤x.2.2)&&decide (x.2.2≤((ms t x.1).2.length:Int))) with
      | false=>rfl
      | true=>
       cases decide (x.2.1<(ms t x.1).1) with
       | false=>rfl
       | true=>cases decide (0<x.2.2) <;> rfl
    ·rw [ltF (show (t.length:Int)≤x.1 by omega)]
     simp
   ·rw [leF (show x.1<0 by omega)]
    simp
end
def rJ (t:List (Int×List Int)) (s:List (Int×Int×Int)):Int×Int:=
 match s.getLast? with
 | none=>(0,0)
 | some x=>if cF t s=false then (0,0) else if x.2.1<(ms t x.1).1 then (1,x.1) else if x.2.2<((ms t x.1).2.length:Int) then (2,((ms t x.1).2[x.2.2.toNat]?).getD 0) else (3,x.1)
def doB (t:List (Int×List Int)) (s:List (Int×Int×Int)):List (Int×Int×Int):=
 match s.getLast? with
 | none=>s
 | some x=>if cF t s=false then s else if x.2.1<(ms t x.1).1 then s.dropLast++[(x.1,x.2.1+1,x.2.2)] else if x.2.2<((ms t x.1).2.length:Int) then s.dropLast++[(x.1,x.2.1,x.2.2+1)] else s.dropLast
def mC (t:List (Int×List Int)) (s:List (Int×Int×Int)) (q:Int):List (Int×Int×Int):=
 if cF t s=true∧0≤q∧q<t.length then s++[(q,0,0)] else s
def Ja (t:List (Int×List Int)) (x:Int×Int×Int):Int:=(ms t x.1).1 - x.2.1+((ms t x.1).2.length:Int) - x.2.2+1
def Fu (t:List (Int×List Int)) (s:List (Int×Int×Int)):Int:=if cF t s=true then (s.map (Ja t)).sum else 0
theorem lm {α:Type} (s:List α):s=[]∨∃ r x,s=r++[x]:=by
 rcases List.eq_nil_or_concat s with h | ⟨r,x,h⟩
 ·exact .inl h
 ·exact .inr ⟨r,x,by rw [h,List.concat_eq_append]⟩
theorem Ez {α:Type} (r:List α) (x:α):(((r++[x]).length:Nat):Int) - 1=(r.length:Int):=by simp
theorem DR {α:Type} (r:List α) (x:α):(r++[x])[r.length]? = some x:=by simp
theorem Nr {α:Type} (r:List α) (x y:α):(r++[x]).set r.length y=r++[y]:=by simp
theorem Hh {α:Type} (r:List α) (x:α):(r++[x]).take r.length=r:=by simp
theorem uN (t:List (Int×List Int)) (r:List (Int×Int×Int)) (x:Int×Int×Int):rJ t (r++[x])=if cF t (r++[x])=false then (0,0) else if x.2.1<(ms t x.1).1 then (1,x.1) else if x.2.2<((ms t x.1).2.length:Int) then (2,((ms t x.1).2[x.2.2.toNat]?).getD 0) else (3,x.1):=by
 simp [rJ]
theorem wG (t:List (Int×List Int)) (r:List (Int×Int×Int)) (x:Int×Int×Int):doB t (r++[x])=if cF t (r++[x])=false then r++[x] else if x.2.1<(ms t x.1).1 then r++[(x.1,x.2.1+1,x.2.2)] else if x.2.2<((ms t x.1).2.length:Int) then r++[(x.1,x.2.1,x.2.2+1)] else r:=by
 simp [doB]
theorem Qa (t:List (Int×List Int)) (s:List (Int×Int×Int)):(doB t s).length≤s.length:=by
 rcases lm s with rfl | ⟨r,x,rfl⟩
 ·simp [doB]
 ·rw [wG]
  split
  ·exact Nat.le_refl _
  ·split
   ·simp
   ·split <;> simp
theorem Gv (t:List (Int×List Int)) (s:List (Int×Int×Int)) (q:Int):(mC t s q).length≤s.length+1:=by
 unfold mC
 split <;> simp
structure It (t:List (Int×List Int)) (x:Int×Int×Int):Prop where
 h0:0≤x.1
 h1:x.1<t.length
 d0:0≤x.2.1
 d1:x.2.1≤(ms t x.1).1
 c0:0≤x.2.2
 c1:x.2.2≤((ms t x.1).2.length:Int)
 z:x.2.1<(ms t x.1).1→x.2.2=0
theorem PE {t:List (Int×List Int)} {x:Int×Int×Int}:A3 t x=true↔It t x:=by
 simp only [A3,Bool.and_eq_true,decide_eq_true_eq,Bool.not_eq_true',Bool.and_eq_false_iff,decide_eq_false_iff_not]
 constructor
 ·rintro ⟨⟨⟨⟨a,b⟩,c,d⟩,e,f⟩,g⟩
  exact ⟨a,b,c,d,e,f,fun h=>by rcases g with g | g <;> omega⟩
 ·rintro ⟨a,b,c,d,e,f,g⟩
  refine ⟨⟨⟨⟨a,b⟩,c,d⟩,e,f⟩,?_⟩
  by_cases h:x.2.1<(ms t x.1).1
  ·exact .inr (by have:=g h;omega)
  ·exact .inl h
theorem fh {t:List (Int×List Int)} {r:List (Int×Int×Int)} {x:Int×Int×Int}:cF t (r++[x])=true↔rP t=true∧(∀ y ∈ r,It t y)∧It t x:=by
 simp only [cF,Bool.and_eq_true,List.all_eq_true,List.mem_append,List.mem_singleton,PE]
 constructor
 ·rintro ⟨a,b⟩
  exact ⟨a,fun y hy=>b y (.inl hy),b x (.inr rfl)⟩
 ·rintro ⟨a,b,c⟩
  refine ⟨a,fun y hy => ?_⟩
  rcases hy with h | rfl
  ·exact b y h
  ·exact c
theorem iF {t:List (Int×List Int)} {r:List (Int×Int×Int)}:cF t r=true↔rP t=true∧(∀ y ∈ r,It t y):=by
 simp only [cF,Bool.and_eq_true,List.all_eq_true,PE]
section
variable (k:Nat) (hk:9223372036854775808≤k)
include hk
theorem IR (t:List (Int×List Int)) (ht:Wt t) (s:List (Int×Int×Int)) (hs:s.length≤1048576):dk k t s=some (rJ t s):=by
 rw [dk]
 rcases lm s with rfl | ⟨r,x,rfl⟩
 ·rfl
 ·have hr:r.length+1≤1048576:=by simpa using hs
  have e1:((((r++[x]).length:Nat):Int)==0)=false:=by simp;omega
  rw [e1,cond_false,Iq k hk t ht _ (by omega),ae,uN]
  cases h:cF t (r++[x]) with
  | false=>rfl
  | true=>
   obtain ⟨hm,hr',hx⟩:=fh.1 h
   have hl:=ht.kids _ (wU hx.h0 hx.h1)
   rw [Bool.not_true,cond_false,Ez,eo (by omega),fd (DR r x),ae,Iw hx.h0 hx.h1,ae,if_neg (show ¬ (true=false) by simp)]
   by_cases h1:x.2.1<(ms t x.1).1
   ·rw [ltT h1,cond_true,if_pos h1]
   ·rw [ltF (by omega),cond_false,if_neg h1]
    by_cases h2:x.2.2<((ms t x.1).2.length:Int)
    ·have:=hx.c0
     rw [ltT h2,cond_true,if_pos h2,idx,if_pos hx.c0,List.getElem?_eq_getElem (by omega),ae]
     rfl
    ·rw [ltF (by omega),cond_false,if_neg h2]
theorem aaJ (t:List (Int×List Int)) (ht:Wt t) (s:List (Int×Int×Int)) (hs:s.length≤1048576):eI k t s=some (doB t s):=by
 rw [eI,Hf _ _ (by omega),ae,IR k hk t ht s hs,ae]
 rcases lm s with rfl | ⟨r,x,rfl⟩
 ·rfl
 ·have hr:r.length+1≤1048576:=by simpa using hs
  rw [Ez,eo (by omega),uN,wG,Int.toNat_natCast,DR,Hh]
  simp only [Nr,ae]
  have e1:decide ((0:Int)≤(r.length:Int)∧r.length<(r++[x]).length)=true:=by simp
  have e2:decide ((0:Int)≤(r.length:Int)∧r.length≤(r++[x]).length)=true:=by simp
  have e3:decide (r.length≤(r++[x]).length)=true:=by simp
  rw [e1,e2,e3]
  cases h:cF t (r++[x]) with
  | false=>rfl
  | true=>
   obtain ⟨hm,hr',hx⟩:=fh.1 h
   have hw:=(OY hm).work _ (wU hx.h0 hx.h1)
   have hl:=ht.kids _ (wU hx.h0 hx.h1)
   have:=hx.d0
   have:=hx.c0
   rw [if_neg (show ¬ (true=false) by simp),if_neg (show ¬ (true=false) by simp)]
   by_cases h1:x.2.1<(ms t x.1).1
   ·rw [if_pos h1,if_pos h1]
    simp only [beq_self_eq_true,cond_true]
    rw [eo (by omega)]
   ·rw [if_neg h1,if_neg h1]
    by_cases h2:x.2.2<((ms t x.1).2.length:Int)
    ·rw [if_pos h2,if_pos h2]
     simp only [Int.reduceBEq,cond_true,cond_false]
     rw [eo (by omega)]
    ·rw [if_neg h2,if_neg h2]
     rfl
theorem LJ (t:List (Int×List Int)) (ht:Wt t) (s:List (Int×Int×Int)) (hs:s.length≤1048576) (q:Int):cN k t s q=some (mC t s q):=by
 have hlen:=ht.len
 rw [cN,Hf _ _ (by omega),ae,Iq k hk t ht s (by omega),ae,mC]
 cases h:cF t s with
 | false=>simp
 | true=>
  have h30:=HH (iF.1 h).1
  rw [Bool.not_true,cond_false,Um,ae,eo (by omega)]
  by_cases h0:0≤q
  ·by_cases h1:q<t.length
   ·have e2:room (s++[(q,(0:Int),(0:Int))]).length 24=true:=Dx (by simp;omega)
    rw [leT h0,leT (show q≤(t.length:Int) - 1 by omega),Bool.and_self,Bool.not_true,cond_false,e2,cond_true,if_pos ⟨rfl,h0,h1⟩]
   ·rw [leF (show (t.length:Int) - 1<q by omega),if_neg (by omega)]
    simp
  ·rw [leF (show q<0 by omega),if_neg (by omega)]
   simp
end
theorem XX {t:List (Int×List Int)} {q:Int} (hm:rP t=true) (h0:0≤q) (h1:q<t.length):It t (q,0,0):=
 ⟨h0,h1,by simp,((OY hm).work _ (wU h0 h1)).1,by simp,by simp,fun _=>rfl⟩
theorem rI {t:List (Int×List Int)} {r:List (Int×Int×Int)} {x:Int×Int×Int} (h:cF t (r++[x])=true):Fu t (r++[x])=Fu t r+Ja t x:=by
 obtain ⟨a,b,c⟩:=fh.1 h
 rw [Fu,if_pos h,Fu,if_pos (iF.2 ⟨a,b⟩),List.map_append,List.sum_append]
 simp
theorem M8 {t:List (Int×List Int)} {r:List (Int×Int×Int)} {x:Int×Int×Int} (h:cF t (r++[x])=true):cF t (doB t (r++[x]))=true∧Fu t (doB t (r++[x]))=Fu t (r++[x]) - 1:=by
 obtain ⟨a,b,c⟩:=fh.1 h
 obtain ⟨q0,q1,q2,q3,q4,q5,q6⟩:=c
 rw [rI h,wG,if_neg (by simp [h])]
 split
 ·rename_i h1
  have h2:cF t (r++[(x.1,x.2.1+1,x.2.2)])=true:=fh.2 ⟨a,b,⟨q0,q1,by simp only;omega,by simp only;omega,q4,q5,fun _=>q6 h1⟩⟩
  refine ⟨h2,?_⟩
  rw [rI h2]
  unfold Ja
  simp only
  omega
 ·rename_i h1
  split
  ·rename_i h3
   have h2:cF t (r++[(x.1,x.2.1,x.2.2+1)])=true:=fh.2 ⟨a,b,⟨q0,q1,q2,q3,by simp only;omega,by simp only;omega,fun h=>absurd h h1⟩⟩
   refine ⟨h2,?_⟩
   rw [rI h2]
   unfold Ja
   simp only
   omega
  ·rename_i h3
   refine ⟨iF.2 ⟨a,b⟩,?_⟩
   unfold Ja
   omega
end Go.Ab
set_option linter.unusedVariables false
namespace Go.Ab
abbrev WB:=Int×List (Int×Int×Int)×FR×Int×Int
def Ej (op w v:Int):FR:=(op,0,w,v,0,0,0)
def dz (c:CF) (t:List (Int×List Int)) (m:List Int) (w:Int) (x:WB):Bool:=fI c&&decide ((m.length:Int)=cS c)&&rP t&&decide (0≤w∧w<c.1∧0≤x.1∧x.1<16)&&cF t x.2.1
def JJ (d w W:Int):Int:=if W<2∨w<0∨W≤w then -1 else (w+1+d%(W - 1))%W
def toW (pc:Int) (x:WB):WB:=(pc,x.2.1,dt,x.2.2.2)
def kM (pc op w v:Int) (x:WB):WB:=(pc,x.2.1,Ej op w v,x.2.2.2)
def xf:Int:=18446744073709551615
def Kb (v:Int):Int:=IntKind.i64.wrap v
abbrev WR:=List Int×WB×List EV
def GF (c:CF) (t:List (Int×List Int)) (m:List Int) (w:Int) (x:WB):WR:=
 let r:=fG c m x.2.2.1
 if fQ r.2=false then (r.1,(x.1,x.2.1,r.2,x.2.2.2),[])
 else if r.2.2.2.2.2.2.2≠1 then (r.1,toW 1 x,[])
 else (r.1,(9,mC t x.2.1 (Kb r.2.2.2.2.1),dt,x.2.2.2),[(2,Kb r.2.2.2.2.1,w)])
def oC (c:CF) (m:List Int) (w:Int) (x:WB):WR:=(aW m 1 (mr (aB m 1) 1),(2,x.2.1,Ej 4 w 0,c.2.2.2,x.2.2.2.2),[])
def mn (c:CF) (m:List Int) (w:Int) (x:WB) (d:Int):WR:=
 let r:=fG c m x.2.2.1
 if fQ r.2=false then (r.1,(x.1,x.2.1,r.2,x.2.2.2),[])
 else if r.2.2.2.2.2.2.2=1 then (r.1,(4,x.2.1,r.2,x.2.2.2),[])
 else if x.1=2∧0≤JJ d w c.1 then (r.1,kM 3 2 (JJ d w c.1) 0 x,[])
 else if x.2.2.2.1≤0 then (r.1,kM 5 5 w 0 x,[])
 else (r.1,(2,x.2.1,Ej 4 w 0,x.2.2.2.1 - 1,x.2.2.2.2),[])
def gW (t:List (Int×List Int)) (m:List Int) (w:Int) (x:WB):WR:=
 (aW m 1 (mr (aB m 1) xf),(if aB m 1=1 then 14 else 9,mC t x.2.1 (Kb x.2.2.1.2.2.2.1),if aB m 1=1 then Ej 6 w 0 else dt,x.2.2.2),[(2,Kb x.2.2.1.2.2.2.1,w)])
def nO (c:CF) (m:List Int) (x:WB):WR:=let r:=fG c m x.2.2.1;(r.1,(6,x.2.1,r.2,x.2.2.2),[])
def kz (m:List Int) (x:WB):WR:=(aW m 1 (mr (aB m 1) xf),(7,x.2.1,x.2.2.1,x.2.2.2.1,0),[])
def Da (f:FR) (v:Int):FR:=(f.1,f.2.1,f.2.2.1,v,f.2.2.2.2)
def dF (c:CF) (m:List Int) (x:WB):WR:=
 let k:=x.2.2.2.2
 let most:=2+2*c.1
 let v:=(k - 2)/2
 if k<0∨most≤k then (m,(8,x.2.1,Da x.2.2.1 0,x.2.2.2.1,0),[])
 else
  let f:=if k=0 then Da x.2.2.1 (aB m 4) else if k=1 then x.2.2.1 else if k%2=0 then Da x.2.2.1 (aB m (GC c v)) else x.2.2.1
  let some:=if k=0 then false else if k=1 then decide (aB m 5≠f.2.2.2.1) else if k%2=0 then false else decide (0<Fb (aB m (GM c v)) f.2.2.2.1)
  if some=true then (m,toW 1 x,[])
  else if k+1=most then (m,(8,x.2.1,Da f 0,x.2.2.2.1,0),[])
  else (m,(7,x.2.1,f,x.2.2.2.1,k+1),[])
def ft (c:CF) (m:List Int) (x:WB):WR:=let r:=fG c m x.2.2.1;if fQ r.2=true then (r.1,toW 1 x,[]) else (r.1,(x.1,x.2.1,r.2,x.2.2.2),[])
def GJ (t:List (Int×List Int)) (m:List Int) (w:Int) (x:WB):WR:=
 let a:=rJ t x.2.1
 if a.1=1 then (m,(x.1,doB t x.2.1,x.2.2),[]) else if a.1=2 then (m,(10,x.2),[]) else if a.1=3 then (m,(15,x.2),[]) else (m,kM 0 1 w 0 x,[])
def np (t:List (Int×List Int)) (m:List Int) (w:Int) (x:WB):WR:=
 let a:=rJ t x.2.1
 if a.1≠2 then (m,toW 9 x,[]) else (aW m 0 (mr (aB m 0) 1),(11,doB t x.2.1,Ej 0 w (IntKind.u64.wrap a.2),x.2.2.2),[(3,a.2,w)])
def ne (c:CF) (m:List Int) (w:Int) (x:WB):WR:=
 let r:=fG c m x.2.2.1
 if fQ r.2=false then (r.1,(x.1,x.2.1,r.2,x.2.2.2),[]) else if r.2.2.2.2.2.2.2=2 then (r.1,kM 12 3 w r.2.2.2.2.1 x,[]) else (r.1,toW 13 x,[])
def nt (c:CF) (t:List (Int×List Int)) (m:List Int) (w:Int) (x:WB):WR:=
 let r:=fG c m x.2.2.1
 if fQ r.2=false then (r.1,(x.1,x.2.1,r.2,x.2.2.2),[])
 else if r.2.2.2.2.2.2.2=2 then (r.1,(9,mC t x.2.1 (Kb r.2.2.2.2.1),dt,x.2.2.2),[(2,Kb r.2.2.2.2.1,w)]) else (r.1,toW 13 x,[])
def Ec (m:List Int) (w:Int) (x:WB):WR:=if aB m 1=0 then (m,kM 14 6 w 0 x,[]) else (m,toW 9 x,[])
def nz (c:CF) (m:List Int) (x:WB):WR:=let r:=fG c m x.2.2.1;if fQ r.2=true then (r.1,toW 9 x,[]) else (r.1,(x.1,x.2.1,r.2,x.2.2.2),[])
def nD (t:List (Int×List Int)) (m:List Int) (w:Int) (x:WB):WR:=
 let a:=rJ t x.2.1
 if a.1≠3 then (m,toW 9 x,[])
 else (aW m 0 (mr (aB m 0) xf),(if doB t x.2.1=[] then (0,[],Ej 1 w 0,x.2.2.2) else (9,doB t x.2.1,dt,x.2.2.2)),if aB m 0=1 then [(4,a.2,w),(5,0,w)] else [(4,a.2,w)])
def bB (c:CF) (t:List (Int×List Int)) (m:List Int) (w:Int) (x:WB) (d:Int):WR:=
 if dz c t m w x=false then (m,x,[])
 else if x.1=0 then GF c t m w x else if x.1=1 then oC c m w x else if x.1=2∨x.1=3 then mn c m w x d else if x.1=4 then gW t m w x
 else if x.1=5 then nO c m x else if x.1=6 then kz m x else if x.1=7 then dF c m x else if x.1=8 then ft c m x
 else if x.1=9 then GJ t m w x else if x.1=10 then np t m w x else if x.1=11 then ne c m w x else if x.1=12 then nt c t m w x
 else if x.1=13 then Ec m w x else if x.1=14 then nz c m x else nD t m w x
theorem Yp {d w W:Int} (hd:0≤d∧d≤18446744073709551615) (hW:W≤8):dZ d w W=some (JJ d w W):=by
 unfold dZ JJ
 by_cases h2:W<2
 ·rw [ltT h2,cond_true,if_pos (.inl h2)]
 ·rw [ltF (by omega),cond_false]
  unfold cP
  by_cases h0:0≤w
  ·rw [leT h0,cond_true]
   by_cases h1:w<W
   ·rw [ltT h1,ae,Bool.not_true,cond_false,if_neg (by omega),ir (z:=W) (by omega) (by omega),ir (z:=W - 1) (by omega) (by omega),ir (z:=w) (by omega) (by omega),ir (z:=w+1) (by omega) (by omega),Bc,decide_eq_false (by omega),Bool.not_false,cond_true,Bc,decide_eq_false (by omega),Bool.not_false,cond_true,Int.tmod_eq_emod_of_nonneg hd.1]
    have e1:=Int.emod_nonneg d (show W - 1≠0 by omega)
    have e2:=Int.emod_lt_of_pos d (show 0<W - 1 by omega)
    have e3:=Int.emod_nonneg (w+1+d%(W - 1)) (show W≠0 by omega)
    have e4:=Int.emod_lt_of_pos (w+1+d%(W - 1)) (show 0<W by omega)
    rw [ir (by omega) (by omega),Int.tmod_eq_emod_of_nonneg (by omega),eo (by omega)]
   ·rw [ltF (by omega),ae,Bool.not_false,cond_true,if_pos (by omega)]
  ·rw [leF (by omega),cond_false,ae,Bool.not_false,cond_true,if_pos (by omega)]
theorem J1 {k:Nat} (hk:9223372036854775808≤k) (c:CF) {t:List (Int×List Int)} (ht:Wt t) (m:List Int) (w:Int) (x:WB) (hs:x.2.1.length≤1000):go k c t m w x=some (dz c t m w x):=by
 unfold go dz
 simp only [Prod.eta,eS,ug,ae]
 rw [FS (k+4) (by omega) t ht,Iq (k+3) (by omega) t ht x.2.1 (by omega)]
 cases hm:fI c with
 | false=>rfl
 | true=>
  rw [cond_true,lu,Bool.true_and]
  by_cases h1:(m.length:Int)=cS c
  ·rw [decide_eq_true h1,cond_true,Bool.true_and,ae]
   cases ht2:rP t with
   | false=>rfl
   | true=>
    rw [cond_true,Bool.true_and]
    by_cases h2:0≤w
    ·rw [leT h2,cond_true]
     by_cases h3:w<c.1
     ·rw [ltT h3,cond_true]
      by_cases h4:0≤x.1
      ·rw [leT h4,cond_true]
       by_cases h5:x.1<16
       ·rw [ltT h5,cond_true,ae,decide_eq_true ⟨h2,h3,h4,h5⟩,Bool.true_and]
       ·rw [ltF (by omega),cond_false,decide_eq_false (by omega)];rfl
      ·rw [leF (by omega),cond_false,decide_eq_false (by omega)];rfl
     ·rw [ltF (by omega),cond_false,decide_eq_false (by omega)];rfl
    ·rw [leF (by omega),cond_false,decide_eq_false (by omega)];rfl
  ·rw [decide_eq_false h1,cond_false]
   rfl
theorem Sc (w:Int):li w=some (0,[],Ej 1 w 0,0,0):=rfl
end Go.Ab
set_option linter.unusedVariables false
set_option linter.unusedSimpArgs false
set_option maxRecDepth 100000
set_option maxHeartbeats 4000000
namespace Go.Ab
theorem b6 (op w v:Int):aC op w v=some (Ej op w v):=rfl
theorem Bn:room 1 24=true:=rfl
theorem WG:room 2 24=true:=rfl
theorem oF {a b:Int} (h:a=b):(a==b)=true:=by simp [h]
theorem bw {a b:Int} (h:a≠b):(a==b)=false:=by simp [h]
theorem Gd (c:CF) (m:List Int) (f:FR):(B7 c m f=fG c m f∧((f.1==0)=true∨(f.1==0)=false∧((f.1==1)=true∨(f.1==1)=false∧(f.1==2)=true)))∨(wL c m f=fG c m f∧(f.1==0)=false∧(f.1==1)=false∧(f.1==2)=false∧((f.1==3)=true∨(f.1==3)=false∧(f.1==4)=true))∨(D0 c m f=fG c m f∧(f.1==0)=false∧(f.1==1)=false∧(f.1==2)=false∧(f.1==3)=false∧(f.1==4)=false):=by
 unfold fG i7
 simp only [lu,decide_eq_true_eq,decide_eq_false_iff_not]
 by_cases h:f.1=0∨f.1=1∨f.1=2
 ·rw [if_pos h];exact .inl ⟨rfl,by omega⟩
 ·rw [if_neg h]
  by_cases g:f.1=3∨f.1=4
  ·rw [if_pos g];exact .inr (.inl ⟨rfl,by omega⟩)
  ·rw [if_neg g];exact .inr (.inr ⟨rfl,by omega⟩)
section
variable {k:Nat} (hk:9223372036854779000≤k) (c:CF) {t:List (Int×List Int)} (ht:Wt t) {m:List Int} (hm:Wm m) (hl:m.length≤1000) (w:Int) {x:WB} (hf:Wf x.2.2.1) (hs:x.2.1.length≤1000) (hsp:x.2.2.2.1≤9223372036854775807) {d:Int} (hd:0≤d∧d≤18446744073709551615)
include hk ht hm hl hf hs hsp hd
theorem Ss {β:Type} (K:List Int×FR→Option β):pa k c m x.2.2.1 K=K (fG c m x.2.2.1):=by
 have _h:=And.intro hsp hd
 have _h2:=And.intro ht hs
 have hdk:=FY c hm hl hf (k+31)
 have hij:=BC c hm hl hf
 have hev:=AR (k:=k+40) (by omega) c hm hl hf
 unfold pa
 rcases Gd c m x.2.2.1 with ⟨h,e | ⟨e,e1 | e1⟩⟩ | ⟨h,e,e1,e2,e3 | e3⟩ | ⟨h,e⟩
 all_goals simp only [*,cond_true,cond_false,ae]
theorem Mm:gK k c t m w x d=some (bB c t m w x d):=by
 have _h1:=hsp
 have _h2:=hd
 unfold gK
 try simp only [Prod.eta]
 rw [bx (by omega),ae,bx (by omega),ae,J1 (by omega) c ht m w x hs,ae]
 cases hmay:dz c t m w x with
 | false=>
  unfold bB
  rw [hmay]
  rfl
 | true=>
  rw [Bool.not_true,cond_false]
  have hb:fI c=true∧(m.length:Int)=cS c∧0≤w∧w<c.1∧0≤x.1∧x.1<16:=by
   unfold dz at hmay
   simp only [Bool.and_eq_true,decide_eq_true_eq] at hmay
   exact ⟨hmay.1.1.1.1,hmay.1.1.1.2,hmay.1.2⟩
  obtain ⟨hmc,hlen,hw0,hw1,hp0,hp1⟩:=hb
  have hc:=bG hmc
  have hsz:=mX hmc
  have hadd:∀ i v:Int,0≤i→i<2→cH m i v=some (aW m i (mr (aB m i) v),aB m i):=fun i v h0 h1=>by rw [Vl hl,if_pos (by omega)]
  have hcg:=fun K=>Ss (k:=k) (β:=List Int×WB×List EV) hk c ht hm hl hf hs hsp hd K
  have hst:=fun q=>LJ (k+36) (by omega) t ht x.2.1 (by omega) q
  have hdo:=aaJ (k+36) (by omega) t ht x.2.1 (by omega)
  have hnx:=IR (k+37) (by omega) t ht x.2.1 (by omega)
  have hvi:=Yp (w:=w) (W:=c.1) hd (by omega)
  rcases (show x.1=0∨x.1=1∨x.1=2∨x.1=3∨x.1=4∨x.1=5∨x.1=6∨x.1=7∨x.1=8∨x.1=9∨x.1=10∨x.1=11∨x.1=12∨x.1=13∨x.1=14∨x.1=15 by omega) with hp | hp | hp | hp | hp | hp | hp | hp | hp | hp | hp | hp | hp | hp | hp | hp
  ·have hW:bB c t m w x d=GF c t m w x:=by unfold bB;rw [hmay];simp [hp]
   rw [hW]
   rw [oF hp,cond_true]
   unfold GF
   rw [hcg]
   simp only [cond_true,cond_false,ae,ky,Prod.eta,b6]
   generalize fG c m x.2.2.1=r
   cases ho:fQ r.2 with
   | false=>simp [ho,hp]
   | true=>
    by_cases h9:r.2.2.2.2.2.2.2=1
    ·simp [ho,h9,hst,ae,Bn,dt,Kb]
    ·have q9:(r.2.2.2.2.2.2.2!=1)=true:=by simp [h9]
     simp [ho,h9,q9,toW,dt]
  ·have hW:bB c t m w x d=oC c m w x:=by unfold bB;rw [hmay];simp [hp]
   rw [hW]
   rw [bw (show x.1≠0 by omega),cond_false,oF hp,cond_true]
   rw [hadd 1 1 (by decide) (by decide),ae,b6,ae]
   rfl
  ·have hW:bB c t m w x d=mn c m w x d:=by unfold bB;rw [hmay];simp [hp]
   rw [hW]
   rw [bw (show x.1≠0 by omega),cond_false,bw (show x.1≠1 by omega),cond_false,oF hp,cond_true]
   rw [hvi,ae]
   unfold mn
   rw [hcg]
   simp only [cond_true,cond_false,ae,ky,Prod.eta,b6,oF hp]
   generalize fG c m x.2.2.1=r
   cases ho:fQ r.2 with
   | false=>simp [ho,hp]
   | true=>
    by_cases h9:r.2.2.2.2.2.2.2=1
    ·simp [ho,h9]
    ·have q9:=bw h9
     by_cases h8:0≤JJ d w c.1
     ·simp [ho,h9,q9,hp,h8,kM]
     ·by_cases h7:x.2.2.2.1≤0
      ·simp [ho,h9,q9,hp,h8,h7,kM]
      ·rw [eo (z:=x.2.2.2.1 - 1) (by omega)]
       simp [ho,h9,q9,hp,h8,h7,kM]
  ·have hW:bB c t m w x d=mn c m w x d:=by unfold bB;rw [hmay];simp [hp]
   rw [hW]
   rw [bw (show x.1≠0 by omega),cond_false,bw (show x.1≠1 by omega),cond_false,bw (show x.1≠2 by omega),cond_false,oF hp,cond_true]
   rw [hvi,ae]
   unfold mn
   rw [hcg]
   simp only [cond_true,cond_false,ae,ky,Prod.eta,b6,bw (show x.1≠2 by omega)]
   generalize fG c m x.2.2.1=r
   cases ho:fQ r.2 with
   | false=>simp [ho,hp]
   | true=>
    by_cases h9:r.2.2.2.2.2.2.2=1
    ·simp [ho,h9]
    ·have q9:=bw h9
     by_cases h7:x.2.2.2.1≤0
     ·simp [ho,h9,q9,hp,h7,kM]
     ·rw [eo (z:=x.2.2.2.1 - 1) (by omega)]
      simp [ho,h9,q9,hp,h7,kM]
  ·have hW:bB c t m w x d=gW t m w x:=by unfold bB;rw [hmay];simp [hp]
   rw [hW]
   rw [bw (show x.1≠0 by omega),cond_false,bw (show x.1≠1 by omega),cond_false,bw (show x.1≠2 by omega),cond_false,bw (show x.1≠3 by omega),cond_false,oF hp,cond_true]
   rw [hadd 1 _ (by decide) (by decide),ae,b6,ae,hst,ae,ae,Bn,cond_true,cond_true,lu]
   by_cases h9:aB m 1=1
   ·simp [gW,h9,xf,Kb]
   ·simp [gW,h9,xf,Kb,dt]
  ·have hW:bB c t m w x d=nO c m x:=by unfold bB;rw [hmay];simp [hp]
   rw [hW]
   rw [bw (show x.1≠0 by omega),cond_false,bw (show x.1≠1 by omega),cond_false,bw (show x.1≠2 by omega),cond_false,bw (show x.1≠3 by omega),cond_false,bw (show x.1≠4 by omega),cond_false,oF hp,cond_true]
   unfold nO
   rw [hcg]
   simp only [cond_true,cond_false,ae,ky,Prod.eta,b6]
  ·have hW:bB c t m w x d=kz m x:=by unfold bB;rw [hmay];simp [hp]
   rw [hW]
   rw [bw (show x.1≠0 by omega),cond_false,bw (show x.1≠1 by omega),cond_false,bw (show x.1≠2 by omega),cond_false,bw (show x.1≠3 by omega),cond_false,bw (show x.1≠4 by omega),cond_false,bw (show x.1≠5 by omega),cond_false,oF hp,cond_true]
   rw [hadd 1 _ (by decide) (by decide),ae]
   rfl
  ·have hW:bB c t m w x d=dF c m x:=by unfold bB;rw [hmay];simp [hp]
   rw [hW]
   rw [bw (show x.1≠0 by omega),cond_false,bw (show x.1≠1 by omega),cond_false,bw (show x.1≠2 by omega),cond_false,bw (show x.1≠3 by omega),cond_false,bw (show x.1≠4 by omega),cond_false,bw (show x.1≠5 by omega),cond_false,bw (show x.1≠6 by omega),cond_false,oF hp,cond_true]
   have hM:IntKind.i64.wrap (2+IntKind.i64.wrap (2*c.1))=2+2*c.1:=by rw [eo (z:=2*c.1) (by omega),eo (by omega)]
   rw [hM]
   by_cases h1:x.2.2.2.2<0
   ·rw [ltT h1,cond_true]
    simp only [dF,if_pos (show x.2.2.2.2<0∨2+2*c.1≤x.2.2.2.2 from .inl h1),Da]
   ·rw [ltF (by omega),cond_false]
    by_cases h2:2+2*c.1≤x.2.2.2.2
    ·rw [leT h2,cond_true]
     simp only [dF,if_pos (show x.2.2.2.2<0∨2+2*c.1≤x.2.2.2.2 from .inr h2),Da]
    ·rw [leF (by omega),cond_false,eo (z:=x.2.2.2.2+1) (by omega)]
     have hn:¬ (x.2.2.2.2<0∨2+2*c.1≤x.2.2.2.2):=by omega
     by_cases e0:x.2.2.2.2=0
     ·rw [oF e0,cond_true,dH,ae]
      by_cases h5:x.2.2.2.2+1=2+2*c.1
      ·rw [oF h5,cond_true]
       simp only [dF,if_neg hn,if_pos e0,Bool.false_eq_true,if_false,if_pos h5,Da]
      ·rw [bw h5,cond_false]
       simp only [dF,if_neg hn,if_pos e0,Bool.false_eq_true,if_false,if_neg h5,Da,hp]
     ·rw [bw e0,cond_false]
      by_cases e1:x.2.2.2.2=1
      ·rw [oF e1,cond_true,dH,ae,Bc]
       by_cases h9:aB m 5=x.2.2.1.2.2.2.1
       ·rw [decide_eq_true h9,Bool.not_true,cond_false]
        skip
        by_cases h5:x.2.2.2.2+1=2+2*c.1
        ·rw [oF h5,cond_true]
         simp only [dF,if_neg hn,if_neg e0,if_pos e1,h9,ne_eq,not_true_eq_false,decide_false,Bool.false_eq_true,if_false,if_pos h5,Da]
        ·rw [bw h5,cond_false]
         simp only [dF,if_neg hn,if_neg e0,if_pos e1,h9,ne_eq,not_true_eq_false,decide_false,Bool.false_eq_true,if_false,if_neg h5,Da,hp]
       ·rw [decide_eq_false h9,Bool.not_false,cond_true]
        simp only [dF,if_neg hn,if_neg e0,if_pos e1,h9,ne_eq,not_false_eq_true,decide_true,if_true,toW,dt]
      ·rw [bw e1,cond_false,Int.tmod_eq_emod_of_nonneg (by omega),eo (z:=x.2.2.2.2 - 2) (by omega),Int.tdiv_eq_ediv_of_nonneg (by omega),eo (z:=(x.2.2.2.2 - 2)/2) (by omega)]
       by_cases e2:x.2.2.2.2%2=0
       ·rw [oF e2,cond_true,LQ,ae,dH,ae]
        skip
        by_cases h5:x.2.2.2.2+1=2+2*c.1
        ·rw [oF h5,cond_true]
         simp only [dF,if_neg hn,if_neg e0,if_neg e1,if_pos e2,Bool.false_eq_true,if_false,if_pos h5,Da]
        ·rw [bw h5,cond_false]
         simp only [dF,if_neg hn,if_neg e0,if_neg e1,if_pos e2,Bool.false_eq_true,if_false,if_neg h5,Da,hp]
       ·rw [bw e2,cond_false,HM,ae,dH,ae,Jx,ae]
        by_cases h9:0<Fb (aB m (GM c ((x.2.2.2.2 - 2)/2))) x.2.2.1.2.2.2.1
        ·rw [ltT h9,cond_true]
         simp only [dF,if_neg hn,if_neg e0,if_neg e1,if_neg e2,h9,decide_true,if_true,toW,dt]
        ·rw [ltF (by omega),cond_false]
         skip
         by_cases h5:x.2.2.2.2+1=2+2*c.1
         ·rw [oF h5,cond_true]
          simp only [dF,if_neg hn,if_neg e0,if_neg e1,if_neg e2,h9,decide_false,Bool.false_eq_true,if_false,if_pos h5,Da]
         ·rw [bw h5,cond_false]
          simp only [dF,if_neg hn,if_neg e0,if_neg e1,if_neg e2,h9,decide_false,Bool.false_eq_true,if_false,if_neg h5,Da,hp]
  ·have hW:bB c t m w x d=ft c m x:=by unfold bB;rw [hmay];simp [hp]
   rw [hW]
   rw [bw (show x.1≠0 by omega),cond_false,bw (show x.1≠1 by omega),cond_false,bw (show x.1≠2 by omega),cond_false,bw (show x.1≠3 by omega),cond_false,bw (show x.1≠4 by omega),cond_false,bw (show x.1≠5 by omega),cond_false,bw (show x.1≠6 by omega),cond_false,bw (show x.1≠7 by omega),cond_false,oF hp,cond_true]
   unfold ft
   rw [hcg]
   simp only [cond_true,cond_false,ae,ky,Prod.eta,b6]
   generalize fG c m x.2.2.1=r
   cases ho:fQ r.2 <;> simp [ho,hp,toW,dt]
  ·have hW:bB c t m w x d=GJ t m w x:=by unfold bB;rw [hmay];simp [hp]
   rw [hW]
   rw [bw (show x.1≠0 by omega),cond_false,bw (show x.1≠1 by omega),cond_false,bw (show x.1≠2 by omega),cond_false,bw (show x.1≠3 by omega),cond_false,bw (show x.1≠4 by omega),cond_false,bw (show x.1≠5 by omega),cond_false,bw (show x.1≠6 by omega),cond_false,bw (show x.1≠7 by omega),cond_false,bw (show x.1≠8 by omega),cond_false,oF hp,cond_true]
   rw [hnx,ae,lu,lu,lu,hdo,ae,b6,ae]
   unfold GJ
   by_cases h1:(rJ t x.2.1).1=1
   ·simp [h1,hp]
   ·by_cases h2:(rJ t x.2.1).1=2
    ·simp [h2]
    ·by_cases h3:(rJ t x.2.1).1=3
     ·simp [h3]
     ·simp [h1,h2,h3,kM]
  ·have hW:bB c t m w x d=np t m w x:=by unfold bB;rw [hmay];simp [hp]
   rw [hW]
   rw [bw (show x.1≠0 by omega),cond_false,bw (show x.1≠1 by omega),cond_false,bw (show x.1≠2 by omega),cond_false,bw (show x.1≠3 by omega),cond_false,bw (show x.1≠4 by omega),cond_false,bw (show x.1≠5 by omega),cond_false,bw (show x.1≠6 by omega),cond_false,bw (show x.1≠7 by omega),cond_false,bw (show x.1≠8 by omega),cond_false,bw (show x.1≠9 by omega),cond_false,oF hp,cond_true]
   rw [hnx,ae,Bc,hadd 0 _ (by decide) (by decide),ae,Bn,cond_true,hdo,ae,b6,ae]
   unfold np
   by_cases h2:(rJ t x.2.1).1=2
   ·simp [h2]
   ·simp [h2,toW,dt]
  ·have hW:bB c t m w x d=ne c m w x:=by unfold bB;rw [hmay];simp [hp]
   rw [hW]
   rw [bw (show x.1≠0 by omega),cond_false,bw (show x.1≠1 by omega),cond_false,bw (show x.1≠2 by omega),cond_false,bw (show x.1≠3 by omega),cond_false,bw (show x.1≠4 by omega),cond_false,bw (show x.1≠5 by omega),cond_false,bw (show x.1≠6 by omega),cond_false,bw (show x.1≠7 by omega),cond_false,bw (show x.1≠8 by omega),cond_false,bw (show x.1≠9 by omega),cond_false,bw (show x.1≠10 by omega),cond_false,oF hp,cond_true]
   unfold ne
   rw [hcg]
   simp only [cond_true,cond_false,ae,ky,Prod.eta,b6]
   generalize fG c m x.2.2.1=r
   cases ho:fQ r.2 with
   | false=>simp [ho,hp]
   | true=>
    by_cases h9:r.2.2.2.2.2.2.2=2
    ·simp [ho,h9,kM]
    ·have q9:=bw h9
     simp [ho,h9,q9,toW,dt]
  ·have hW:bB c t m w x d=nt c t m w x:=by unfold bB;rw [hmay];simp [hp]
   rw [hW]
   rw [bw (show x.1≠0 by omega),cond_false,bw (show x.1≠1 by omega),cond_false,bw (show x.1≠2 by omega),cond_false,bw (show x.1≠3 by omega),cond_false,bw (show x.1≠4 by omega),cond_false,bw (show x.1≠5 by omega),cond_false,bw (show x.1≠6 by omega),cond_false,bw (show x.1≠7 by omega),cond_false,bw (show x.1≠8 by omega),cond_false,bw (show x.1≠9 by omega),cond_false,bw (show x.1≠10 by omega),cond_false,bw (show x.1≠11 by omega),cond_false,oF hp,cond_true]
   unfold nt
   rw [hcg]
   simp only [cond_true,cond_false,ae,ky,Prod.eta,b6]
   generalize fG c m x.2.2.1=r
   cases ho:fQ r.2 with
   | false=>simp [ho,hp]
   | true=>
    by_cases h9:r.2.2.2.2.2.2.2=2
    ·simp [ho,h9,hst,ae,Bn,dt,Kb]
    ·have q9:=bw h9
     simp [ho,h9,q9,toW,dt]
  ·have hW:bB c t m w x d=Ec m w x:=by unfold bB;rw [hmay];simp [hp]
   rw [hW]
   rw [bw (show x.1≠0 by omega),cond_false,bw (show x.1≠1 by omega),cond_false,bw (show x.1≠2 by omega),cond_false,bw (show x.1≠3 by omega),cond_false,bw (show x.1≠4 by omega),cond_false,bw (show x.1≠5 by omega),cond_false,bw (show x.1≠6 by omega),cond_false,bw (show x.1≠7 by omega),cond_false,bw (show x.1≠8 by omega),cond_false,bw (show x.1≠9 by omega),cond_false,bw (show x.1≠10 by omega),cond_false,bw (show x.1≠11 by omega),cond_false,bw (show x.1≠12 by omega),cond_false,oF hp,cond_true]
   rw [dH,ae,lu,b6,ae]
   by_cases h9:aB m 1=0
   ·simp [Ec,h9,kM]
   ·simp [Ec,h9,toW,dt]
  ·have hW:bB c t m w x d=nz c m x:=by unfold bB;rw [hmay];simp [hp]
   rw [hW]
   rw [bw (show x.1≠0 by omega),cond_false,bw (show x.1≠1 by omega),cond_false,bw (show x.1≠2 by omega),cond_false,bw (show x.1≠3 by omega),cond_false,bw (show x.1≠4 by omega),cond_false,bw (show x.1≠5 by omega),cond_false,bw (show x.1≠6 by omega),cond_false,bw (show x.1≠7 by omega),cond_false,bw (show x.1≠8 by omega),cond_false,bw (show x.1≠9 by omega),cond_false,bw (show x.1≠10 by omega),cond_false,bw (show x.1≠11 by omega),cond_false,bw (show x.1≠12 by omega),cond_false,bw (show x.1≠13 by omega),cond_false,oF hp,cond_true]
   unfold nz
   rw [hcg]
   simp only [cond_true,cond_false,ae,ky,Prod.eta,b6]
   generalize fG c m x.2.2.1=r
   cases ho:fQ r.2 <;> simp [ho,hp,toW,dt]
  ·have hW:bB c t m w x d=nD t m w x:=by unfold bB;rw [hmay];simp [hp]
   rw [hW]
   rw [bw (show x.1≠0 by omega),cond_false,bw (show x.1≠1 by omega),cond_false,bw (show x.1≠2 by omega),cond_false,bw (show x.1≠3 by omega),cond_false,bw (show x.1≠4 by omega),cond_false,bw (show x.1≠5 by omega),cond_false,bw (show x.1≠6 by omega),cond_false,bw (show x.1≠7 by omega),cond_false,bw (show x.1≠8 by omega),cond_false,bw (show x.1≠9 by omega),cond_false,bw (show x.1≠10 by omega),cond_false,bw (show x.1≠11 by omega),cond_false,bw (show x.1≠12 by omega),cond_false,bw (show x.1≠13 by omega),cond_false,bw (show x.1≠14 by omega),cond_false,oF hp,cond_true]
   simp only [hnx,ae,Bc,hadd 0 _ (by decide) (by decide),Bn,WG,cond_true,hdo,b6,lu]
   unfold nD
   by_cases h3:(rJ t x.2.1).1=3
   ·by_cases h1:aB m 0=1
    ·by_cases h2:doB t x.2.1=[]
     ·simp [h3,h1,h2,xf]
     ·have h4:¬ (((doB t x.2.1).length:Int)=0):=by simp [h2]
      simp [h3,h1,h2,h4,xf,dt]
    ·by_cases h2:doB t x.2.1=[]
     ·simp [h3,h1,h2,xf]
     ·have h4:¬ (((doB t x.2.1).length:Int)=0):=by simp [h2]
      simp [h3,h1,h2,h4,xf,dt]
   ·simp [h3,toW,dt]
end
end Go.Ab
set_option linter.unusedVariables false
namespace Go.Ab
theorem f4 {c:CF} {t:List (Int×List Int)} {m:List Int} {w:Int} {x:WB} {d:Int} {P:WR→Prop} (hs:dz c t m w x=false→P (m,x,[])) (p0:dz c t m w x=true→x.1=0→P (GF c t m w x)) (p1:dz c t m w x=true→x.1=1→P (oC c m w x)) (p2:dz c t m w x=true→x.1=2∨x.1=3→P (mn c m w x d)) (p4:dz c t m w x=true→x.1=4→P (gW t m w x)) (p5:dz c t m w x=true→x.1=5→P (nO c m x)) (p6:dz c t m w x=true→x.1=6→P (kz m x)) (p7:dz c t m w x=true→x.1=7→P (dF c m x)) (p8:dz c t m w x=true→x.1=8→P (ft c m x)) (p9:dz c t m w x=true→x.1=9→P (GJ t m w x)) (p10:dz c t m w x=true→x.1=10→P (np t m w x)) (p11:dz c t m w x=true→x.1=11→P (ne c m w x)) (p12:dz c t m w x=true→x.1=12→P (nt c t m w x)) (p13:dz c t m w x=true→x.1=13→P (Ec m w x)) (p14:dz c t m w x=true→x.1=14→P (nz c m x)) (p15:dz c t m w x=true→x.1=15→P (nD t m w x)):P (bB c t m w x d):=by
 unfold bB
 by_cases hm:dz c t m w x=false
 ·rw [if_pos hm];exact hs hm
 rw [if_neg hm]
 have hm':dz c t m w x=true:=by simpa using hm
 have hb:0≤x.1∧x.1<16:=by
  unfold dz at hm'
  simp only [Bool.and_eq_true,decide_eq_true_eq] at hm'
  exact hm'.1.2.2.2
 by_cases e0:x.1=0
 ·rw [if_pos e0];exact p0 hm' e0
 rw [if_neg e0]
 by_cases e1:x.1=1
 ·rw [if_pos e1];exact p1 hm' e1
 rw [if_neg e1]
 by_cases e2:x.1=2∨x.1=3
 ·rw [if_pos e2];exact p2 hm' e2
 rw [if_neg e2]
 by_cases e4:x.1=4
 ·rw [if_pos e4];exact p4 hm' e4
 rw [if_neg e4]
 by_cases e5:x.1=5
 ·rw [if_pos e5];exact p5 hm' e5
 rw [if_neg e5]
 by_cases e6:x.1=6
 ·rw [if_pos e6];exact p6 hm' e6
 rw [if_neg e6]
 by_cases e7:x.1=7
 ·rw [if_pos e7];exact p7 hm' e7
 rw [if_neg e7]
 by_cases e8:x.1=8
 ·rw [if_pos e8];exact p8 hm' e8
 rw [if_neg e8]
 by_cases e9:x.1=9
 ·rw [if_pos e9];exact p9 hm' e9
 rw [if_neg e9]
 by_cases e10:x.1=10
 ·rw [if_pos e10];exact p10 hm' e10
 rw [if_neg e10]
 by_cases e11:x.1=11
 ·rw [if_pos e11];exact p11 hm' e11
 rw [if_neg e11]
 by_cases e12:x.1=12
 ·rw [if_pos e12];exact p12 hm' e12
 rw [if_neg e12]
 by_cases e13:x.1=13
 ·rw [if_pos e13];exact p13 hm' e13
 rw [if_neg e13]
 by_cases e14:x.1=14
 ·rw [if_pos e14];exact p14 hm' e14
 rw [if_neg e14]
 exact p15 hm' (by omega)
end Go.Ab
set_option linter.unusedVariables false
namespace Go.Ab
theorem Ma (c:CF) (m:List Int) (f:FR):One m (rU c m f).1:=by
 unfold rU
 repeat' split
 all_goals first | exact One.same m | exact One.store m _ _ | exact One.cas m _ _ _
theorem TY (c:CF) (m:List Int) (f:FR):One m (J8 c m f).1:=by
 unfold J8
 repeat' split
 all_goals first | exact One.same m | exact One.store m _ _ | exact One.cas m _ _ _
theorem Jz (c:CF) (m:List Int) (f:FR):One m (lI c m f).1:=by
 unfold lI
 dsimp only
 repeat' split
 all_goals first | exact One.same m | exact One.store m _ _ | exact One.cas m _ _ _
theorem JU (c:CF) (m:List Int) (f:FR):One m (fG c m f).1:=by
 unfold fG B7
 repeat' split
 all_goals first | exact One.same m | exact Ma c m f | exact TY c m f | exact Jz c m f | exact ER c m f
section
variable {c:CF} {t:List (Int×List Int)} {m:List Int} {w:Int} {x:WB} {d:Int}
theorem E4:One m (bB c t m w x d).1:=by
 refine f4 (P:=fun r=>One m r.1) (fun _=>One.same m) ?_ ?_ ?_ ?_ ?_ ?_ ?_ ?_ ?_ ?_ ?_ ?_ ?_ ?_ ?_
 all_goals intro _ _
 all_goals dsimp only [GF,oC,mn,gW,nO,kz,dF,ft,GJ,np,ne,nt,Ec,nz,nD]
 all_goals repeat' split
 all_goals (try dsimp only)
 all_goals first | exact One.same m | exact One.store m _ _ | exact JU c m _
theorem Lm:(bB c t m w x d).2.2.length≤2:=by
 refine f4 (P:=fun r=>r.2.2.length≤2) (fun _=>Nat.zero_le _) ?_ ?_ ?_ ?_ ?_ ?_ ?_ ?_ ?_ ?_ ?_ ?_ ?_ ?_ ?_
 all_goals intro _ _
 all_goals dsimp only [GF,oC,mn,gW,nO,kz,dF,ft,GJ,np,ne,nt,Ec,nz,nD]
 all_goals repeat' split
 all_goals simp
theorem JE:(bB c t m w x d).2.1.2.1.length≤x.2.1.length+1:=by
 have h1:=fun q=>Gv t x.2.1 q
 have h2:=Qa t x.2.1
 refine f4 (P:=fun r=>r.2.1.2.1.length≤x.2.1.length+1) (fun _=>Nat.le_succ _) ?_ ?_ ?_ ?_ ?_ ?_ ?_ ?_ ?_ ?_ ?_ ?_ ?_ ?_ ?_
 all_goals intro _ _
 all_goals dsimp only [GF,oC,mn,gW,nO,kz,dF,ft,GJ,np,ne,nt,Ec,nz,nD,toW,kM]
 all_goals repeat' split
 all_goals first | exact Nat.le_succ _ | exact h1 _ | (dsimp only;omega) | simp
theorem CQ {s:List (Int×Int×Int)} (h:cF t s=true) (q:Int):cF t (mC t s q)=true:=by
 unfold mC
 split
 ·rename_i g
  have:=iF.1 h
  exact fh.2 ⟨this.1,this.2,XX this.1 g.2.1 g.2.2⟩
 ·exact h
theorem QP {s:List (Int×Int×Int)} (h:cF t s=true):cF t (doB t s)=true:=by
 rcases lm s with rfl | ⟨r,y,rfl⟩
 ·exact h
 ·exact (M8 h).1
theorem CU (h:dz c t m w x=true):fI c=true∧(m.length:Int)=cS c∧rP t=true∧(0≤w∧w<c.1∧0≤x.1∧x.1<16)∧cF t x.2.1=true:=by
 unfold dz at h
 simp only [Bool.and_eq_true,decide_eq_true_eq] at h
 exact ⟨h.1.1.1.1,h.1.1.1.2,h.1.1.2,h.1.2,h.2⟩
theorem HG (h1:fI c=true) (h2:(m.length:Int)=cS c) (h3:rP t=true) (h4:0≤w∧w<c.1∧0≤x.1∧x.1<16) (h5:cF t x.2.1=true):dz c t m w x=true:=by
 unfold dz
 rw [h1,h3,h5,decide_eq_true h2,decide_eq_true h4]
 rfl
theorem Nf (h:dz c t m w x=true):dz c t (bB c t m w x d).1 w (bB c t m w x d).2.1=true:=by
 obtain ⟨h1,h2,h3,h4,h5⟩:=CU h
 have hl:=(E4 (c:=c) (t:=t) (m:=m) (w:=w) (x:=x) (d:=d)).len
 have key:0≤(bB c t m w x d).2.1.1∧(bB c t m w x d).2.1.1<16∧cF t (bB c t m w x d).2.1.2.1=true:=by
  have g1:=CQ h5
  have g2:=QP h5
  have g3:cF t []=true:=iF.2 ⟨h3,fun y hy=>absurd hy (by simp)⟩
  refine f4 (P:=fun r=>0≤r.2.1.1∧r.2.1.1<16∧cF t r.2.1.2.1=true) (fun _=>⟨h4.2.2.1,h4.2.2.2,h5⟩) ?_ ?_ ?_ ?_ ?_ ?_ ?_ ?_ ?_ ?_ ?_ ?_ ?_ ?_ ?_
  all_goals intro _ _
  all_goals dsimp only [GF,oC,mn,gW,nO,kz,dF,ft,GJ,np,ne,nt,Ec,nz,nD,toW,kM]
  all_goals repeat' split
  all_goals refine ⟨?_,?_,?_⟩
  all_goals (try dsimp only)
  all_goals first | omega | exact h5 | exact g1 _ | exact g2 | exact g3
 exact HG h1 (by rw [hl];exact h2) h3 ⟨h4.1,h4.2.1,key.1,key.2.1⟩ key.2.2
end
end Go.Ab
set_option linter.unusedVariables false
namespace Go.Ab
section
variable {c:CF} {m:List Int} {f:FR} {j:Int} (hj:j=0∨j=1∨j=3)
include hj
theorem gX {w x:Int} (hx:0≤x):onW c w x≠j:=by
 unfold onW
 split
 ·rename_i h
  have hm:=bG h.1
  have:=fO h.1 h.2.1 (by omega)
  omega
 ·omega
theorem md {w x:Int} (h0:0≤x) (h1:x≤18446744073709551615):xc c w x≠j:=by
 unfold xc onW
 split
 ·rename_i h
  have hm:=bG h.1
  have:=fO h.1 h.2.1 (by omega)
  have:=IQ h0 h1 (show 1≤c.2.1 by omega) (by omega)
  omega
 ·omega
theorem pn (x:Int):xB c x≠j:=by
 unfold xB
 split
 ·rename_i h
  have:=bG h
  have:=Int.emod_nonneg x (show c.2.2.1≠0 by omega)
  omega
 ·omega
theorem rA (x:Int):T5 c x≠j:=by
 unfold T5
 split
 ·rename_i h
  have:=bG h
  have:=Int.emod_nonneg x (show c.2.2.1≠0 by omega)
  omega
 ·omega
theorem mg (w:Int):BG c w≠j:=by
 unfold BG
 split
 ·rename_i h
  have hm:=bG h.1
  have:=fO h.1 h.2.1 (by omega)
  omega
 ·omega
omit hj in
theorem ks {i v:Int} (h:i≠j):aB (aW m i v) j=aB m j:=wO v h
omit hj in
theorem kc {i o v:Int} (h:i≠j):aB (pA m i o v).1 j=aB m j:=by
 unfold pA
 split
 ·exact ks h
 ·rfl
section
variable (hf:Wf f)
include hf
theorem Hj:aB (rU c m f).1 j=aB m j:=by
 have w4:=hf.2.1
 have _h:=hj
 unfold rU
 try dsimp only
 repeat' split
 all_goals first | rfl | exact ks (pn hj _) | exact ks (rA hj _) | exact ks (mg hj _) | exact ks (gX hj (by decide)) | exact kc (gX hj (by decide)) | exact ks (md hj w4.1 w4.2) | exact kc (show (2:Int)≠j by omega) | exact kc (show (4:Int)≠j by omega) | exact kc (show (5:Int)≠j by omega) | exact ks (show (2:Int)≠j by omega)
theorem LD:aB (J8 c m f).1 j=aB m j:=by
 have w4:=hf.2.1
 have _h:=hj
 unfold J8
 try dsimp only
 repeat' split
 all_goals first | rfl | exact ks (pn hj _) | exact ks (rA hj _) | exact ks (mg hj _) | exact ks (gX hj (by decide)) | exact kc (gX hj (by decide)) | exact ks (md hj w4.1 w4.2) | exact kc (show (2:Int)≠j by omega) | exact kc (show (4:Int)≠j by omega) | exact kc (show (5:Int)≠j by omega) | exact ks (show (2:Int)≠j by omega)
theorem Gt:aB (lI c m f).1 j=aB m j:=by
 have w4:=hf.2.1
 have _h:=hj
 unfold lI
 try dsimp only
 repeat' split
 all_goals first | rfl | exact ks (pn hj _) | exact ks (rA hj _) | exact ks (mg hj _) | exact ks (gX hj (by decide)) | exact kc (gX hj (by decide)) | exact ks (md hj w4.1 w4.2) | exact kc (show (2:Int)≠j by omega) | exact kc (show (4:Int)≠j by omega) | exact kc (show (5:Int)≠j by omega) | exact ks (show (2:Int)≠j by omega)
theorem E2:aB (Kc c m f).1 j=aB m j:=by
 have w4:=hf.2.1
 have _h:=hj
 unfold Kc
 try dsimp only
 repeat' split
 all_goals first | rfl | exact ks (pn hj _) | exact ks (rA hj _) | exact ks (mg hj _) | exact ks (gX hj (by decide)) | exact kc (gX hj (by decide)) | exact ks (md hj w4.1 w4.2) | exact kc (show (2:Int)≠j by omega) | exact kc (show (4:Int)≠j by omega) | exact kc (show (5:Int)≠j by omega) | exact ks (show (2:Int)≠j by omega)
theorem Es:aB (Ka c m f).1 j=aB m j:=by
 have w4:=hf.2.1
 have _h:=hj
 unfold Ka
 try dsimp only
 repeat' split
 all_goals first | rfl | exact ks (pn hj _) | exact ks (rA hj _) | exact ks (mg hj _) | exact ks (gX hj (by decide)) | exact kc (gX hj (by decide)) | exact ks (md hj w4.1 w4.2) | exact kc (show (2:Int)≠j by omega) | exact kc (show (4:Int)≠j by omega) | exact kc (show (5:Int)≠j by omega) | exact ks (show (2:Int)≠j by omega)
theorem AM:aB (r5 c m f).1 j=aB m j:=by
 have w4:=hf.2.1
 have _h:=hj
 unfold r5
 try dsimp only
 repeat' split
 all_goals first | rfl | exact ks (pn hj _) | exact ks (rA hj _) | exact ks (mg hj _) | exact ks (gX hj (by decide)) | exact kc (gX hj (by decide)) | exact ks (md hj w4.1 w4.2) | exact kc (show (2:Int)≠j by omega) | exact kc (show (4:Int)≠j by omega) | exact kc (show (5:Int)≠j by omega) | exact ks (show (2:Int)≠j by omega)
theorem Bg:aB (pr c m f).1 j=aB m j:=by
 have w4:=hf.2.1
 have _h:=hj
 unfold pr Jc
 try dsimp only
 repeat' split
 all_goals first | rfl | exact ks (pn hj _) | exact ks (rA hj _) | exact ks (mg hj _) | exact ks (gX hj (by decide)) | exact kc (gX hj (by decide)) | exact ks (md hj w4.1 w4.2) | exact kc (show (2:Int)≠j by omega) | exact kc (show (4:Int)≠j by omega) | exact kc (show (5:Int)≠j by omega) | exact ks (show (2:Int)≠j by omega)
theorem F4:aB (fG c m f).1 j=aB m j:=by
 unfold fG B7 i7 wL D0
 repeat' split
 all_goals first | with_reducible rfl | with_reducible exact Hj hj hf | with_reducible exact LD hj hf | with_reducible exact Gt hj hf | with_reducible exact E2 hj hf | with_reducible exact Es hj hf | with_reducible exact AM hj hf | with_reducible exact Bg hj hf
end
end
section
variable {c:CF} {t:List (Int×List Int)} {m:List Int} {w:Int} {x:WB} {d:Int}
end
end Go.Ab
set_option linter.unusedVariables false
namespace Go.Ab
theorem Ex {c:CF} {m:List Int} {f:FR} (hm:Wm m) (hf:Wf f):Wm (pr c m f).1∧Wf (pr c m f).2∧(pr c m f).1.length=m.length:=by
 have hr:=cZ hm 2
 obtain ⟨w3,w4,w5⟩:=hf
 have hk4:=DQ w4.1
 have hk5:=DQ w5.1
 have hc5:=H4 hk5.1 hk5.2
 unfold pr
 split
 ·exact ⟨hm,⟨w3,w4,w5⟩,rfl⟩
 ·split
  ·exact ⟨hm,⟨w3,hr,w5⟩,rfl⟩
  ·split
   ·split
    ·refine ⟨hm.set 2 ?_ ?_,?_,(by simp only [];exact gU)⟩
     ·split
      ·exact (oK _ _).1
      ·exact (oK _ _).1
     ·split
      ·exact (oK _ _).2
      ·exact (oK _ _).2
     ·have hl:=JP (mkB f.2.2.2.2.1)
      simp only []
      by_cases hz:mkB f.2.2.2.2.1=0
      ·rw [if_pos hz]
       exact ⟨by simp [dK],by simp [dK],by simp [dK]⟩
      ·rw [if_neg hz]
       refine ⟨w3,w4,?_⟩
       simp only
       split
       ·split <;> omega
       ·omega
    ·exact ⟨hm,⟨w3,w4,w5⟩,rfl⟩
   ·split
    ·exact ⟨hm.set _ (by decide) (by decide),⟨w5,by simp [dK],by simp [dK]⟩,(by simp only [];exact gU)⟩
    ·refine ⟨hm.set _ (by decide) (by decide),?_,(by simp only [];exact gU)⟩
     split
     ·exact ⟨by simp [dK];omega,by simp [dK],by simp [dK]⟩
     ·exact ⟨w3,w4,by simp only;omega⟩
theorem SM {c:CF} {m:List Int} {f:FR} (hm:Wm m) (hf:Wf f):Wm (r5 c m f).1∧Wf (r5 c m f).2:=by
 have hr:=cZ hm 2
 obtain ⟨w3,w4,w5⟩:=hf
 have hs:=S8 (w:=f.2.2.1) w5.1 w5.2
 unfold r5
 dsimp only
 split
 ·exact ⟨hm,w3,w4,w5⟩
 ·split
  ·exact ⟨hm,w3,hr,w5⟩
  ·split
   ·split
    ·exact ⟨hm,w3,w4,hr⟩
    ·exact ⟨hm,by simp [dK,Wf]⟩
   ·split
    ·exact ⟨hm.cas _ _ hs.1 hs.2,w3,w4,w5⟩
    ·split
     ·exact ⟨hm,w3,w4,cZ hm _⟩
     ·exact ⟨hm.set _ (by decide) (by decide),by simp [dK,Wf]⟩
theorem XL {c:CF} {m:List Int} {f:FR} (hm:Wm m) (hf:Wf f):Wm (Kc c m f).1∧Wf (Kc c m f).2:=by
 obtain ⟨w3,w4,w5⟩:=hf
 have ha:=fc f.2.2.2.2.1 1
 have hb:=fc (Bq c f.2.2.2.2.1) 1
 unfold Kc
 dsimp only
 split
 ·exact ⟨hm,w3,w4,w5⟩
 ·split
  ·exact ⟨hm,w3,cZ hm 5,w5⟩
  ·split
   ·split
    ·exact ⟨hm,w3,w4,cZ hm _⟩
    ·split
     ·exact ⟨hm,w3,by simp [dK],by simp [dK]⟩
     ·exact ⟨hm,w3,w4,cZ hm _⟩
   ·split
    ·exact ⟨hm.cas _ _ ha.1 ha.2,w3,w4,w5⟩
    ·split
     ·exact ⟨hm.set _ w3.1 w3.2,w3,w4,w5⟩
     ·exact ⟨hm.set _ hb.1 hb.2,w3,by simp [dK],by simp [dK]⟩
theorem WA {c:CF} {m:List Int} {f:FR} (hm:Wm m) (hf:Wf f):Wm (Ka c m f).1∧Wf (Ka c m f).2:=by
 obtain ⟨w3,w4,w5⟩:=hf
 have ha:=fc f.2.2.2.2.1 1
 have hb:=fc (xI c f.2.2.2.2.1) 1
 unfold Ka
 dsimp only
 split
 ·exact ⟨hm,w3,w4,w5⟩
 ·split
  ·exact ⟨hm,w3,cZ hm 4,w5⟩
  ·split
   ·split
    ·exact ⟨hm,w3,w4,cZ hm _⟩
    ·split
     ·exact ⟨hm,by simp [dK],by simp [dK],by simp [dK]⟩
     ·exact ⟨hm,w3,w4,cZ hm _⟩
   ·split
    ·exact ⟨hm.cas _ _ ha.1 ha.2,w3,w4,w5⟩
    ·split
     ·exact ⟨hm,cZ hm _,w4,w5⟩
     ·exact ⟨hm.set _ hb.1 hb.2,w3,by simp [dK],by simp [dK]⟩
theorem HC {c:CF} {m:List Int} {f:FR} (hm:Wm m) (hf:Wf f):Wm (i7 c m f).1∧Wf (i7 c m f).2:=by
 unfold i7 wL D0
 repeat' split
 all_goals first | exact XL hm hf | exact WA hm hf | exact SM hm hf | exact ⟨(Ex hm hf).1,(Ex hm hf).2.1⟩ | exact ⟨hm,hf⟩
theorem Ow {c:CF} {t:List (Int×List Int)} {m:List Int} {i:Int} {x:SB} (hm:Wm m) (hf:Wf x.2.2) (ht:t.length≤1000):Wm (kr c t m i x).1∧Wf (kr c t m i x).2.1.2.2:=by
 have hc:=HC (c:=c) hm hf
 have hz:Wf dt:=by simp [Wf,dt]
 have h1:=fc (aB m 0) 1
 have h2:=fc (aB m 0) 18446744073709551615
 cases hmay:rE c t m x with
 | false=>
  have e:kr c t m i x=(m,x,[]):=by unfold kr;rw [hmay,if_pos rfl]
  rw [e]
  exact ⟨hm,hf⟩
 | true=>
  obtain ⟨_,_,_,_,_,r,rest,hx,h6,h7⟩:=CH hmay
  have hh:rm x.2.1=r:=by rw [hx];rfl
  unfold kr
  rw [hmay,if_neg (by simp),hh]
  dsimp only
  have h3:Wf (3,0,i,r,0,0,0):=⟨⟨h6,by simp only;omega⟩,by simp,by simp⟩
  have h4:Wf (6,0,i,0,0,0,0):=by simp [Wf]
  repeat' split
  all_goals first | exact ⟨hm,hf⟩ | exact ⟨hm,hz⟩ | exact ⟨hm,h4⟩ | exact ⟨hm.set 0 h1.1 h1.2,h3⟩ | exact hc | exact ⟨hc.1,hz⟩ | exact ⟨hm.set 0 h2.1 h2.2,hz⟩
end Go.Ab
set_option linter.unusedVariables false
namespace Go.Ab
abbrev PB:=CF×List (Int×List Int)×List Int×List WB×List SB
abbrev PK:=Int×Int×Int
def ry (t:List (Int×List Int)) (x:SB):Bool:=decide (0≤x.1∧x.1<6)&&x.2.1.all (fun r=>decide (0≤r∧r<t.length))&&(decide (x.1=0)||decide (x.2.1≠[]))
def Ay (c:CF) (t:List (Int×List Int)) (m:List Int):Nat→List WB→Bool
 | _,[]=>true
 | i,x::l=>dz c t m i x&&Ay c t m (i+1) l
def ga (p:PB):Bool:=fI p.1&&decide ((p.2.2.2.1.length:Int)=p.1.1∧p.2.2.2.2.length≤3)&&Ay p.1 p.2.1 p.2.2.1 0 p.2.2.2.1&&p.2.2.2.2.all (ry p.2.1)
def oV (k:PK) (w s:Int):Bool:=decide (k.1=0∧0≤k.2.1∧k.2.1<w∨k.1=1∧0≤k.2.1∧k.2.1<s∨k.1=2∨k.1=3)
def dV (p:PB) (k:PK):PB×List EV:=
 if k.1=0 then match p.2.2.2.1[k.2.1.toNat]? with
  | some x=>((p.1,p.2.1,(bB p.1 p.2.1 p.2.2.1 k.2.1 x k.2.2).1,p.2.2.2.1.set k.2.1.toNat (bB p.1 p.2.1 p.2.2.1 k.2.1 x k.2.2).2.1,p.2.2.2.2),(bB p.1 p.2.1 p.2.2.1 k.2.1 x k.2.2).2.2)
  | none=>(p,[])
 else if k.1=1 then match p.2.2.2.2[k.2.1.toNat]? with
  | some x=>if rE p.1 p.2.1 p.2.2.1 x=true then ((p.1,p.2.1,(kr p.1 p.2.1 p.2.2.1 k.2.1 x).1,p.2.2.2.1,p.2.2.2.2.set k.2.1.toNat (kr p.1 p.2.1 p.2.2.1 k.2.1 x).2.1),(kr p.1 p.2.1 p.2.2.1 k.2.1 x).2.2) else (p,[])
  | none=>(p,[])
 else if k.1=2 then ((p.1,p.2.1,aW p.2.2.1 3 1,p.2.2.2.1,p.2.2.2.2),[])
 else (p,[])
def ng (p:PB):List PK→PB×List EV
 | []=>(p,[])
 | k::l=>if oV k p.1.1 p.2.2.2.2.length=true then ((ng (dV p k).1 l).1,(dV p k).2++(ng (dV p k).1 l).2) else ng p l
def UM (p:PB) (l:List PK):PB×List EV:=if ga p=true then ng p l else (p,[])
theorem Tl {c:CF} {m:List Int} {f:FR} (hm:Wm m) (hf:Wf f):Wm (rU c m f).1∧Wf (rU c m f).2:=by
 have hl:=fun i=>cZ hm i
 obtain ⟨w3,w4,w5⟩:=hf
 have ha:=fc f.2.2.2.2.1 1
 unfold rU
 repeat' split
 ·exact ⟨hm,w3,w4,w5⟩
 ·exact ⟨hm,w3,hl _,w5⟩
 ·exact ⟨hm,w3,by simp [dK],by simp [dK]⟩
 ·exact ⟨hm,w3,w4,hl _⟩
 ·exact ⟨hm.set _ w3.1 w3.2,w3,w4,w5⟩
 ·exact ⟨hm.set _ ha.1 ha.2,w3,by simp [dK],by simp [dK]⟩
theorem Ye {c:CF} {m:List Int} {f:FR} (hm:Wm m) (hf:Wf f):Wm (J8 c m f).1∧Wf (J8 c m f).2:=by
 have hl:=fun i=>cZ hm i
 obtain ⟨w3,w4,w5⟩:=hf
 have ha:=fc f.2.2.2.2.1 1
 have hb:=fc f.2.2.2.2.2.1 1
 have hs:=fun a b=>KB a b
 unfold J8
 dsimp only
 split
 ·exact ⟨hm,w3,w4,w5⟩
 split
 ·exact ⟨hm,w3,hs _ _,w5⟩
 split
 ·exact ⟨hm.set _ w4.1 w4.2,w3,w4,w5⟩
 split
 ·exact ⟨hm,w3,w4,hl _⟩
 split
 ·split
  ·exact ⟨hm,hl _,by simp [dK],by simp [dK]⟩
  ·exact ⟨hm,hl _,w4,w5⟩
 split
 ·exact ⟨hm.cas _ _ hb.1 hb.2,w3,w4,w5⟩
 split
 ·exact ⟨hm.set _ ha.1 ha.2,w3,by simp [dK],by simp [dK]⟩
 ·exact ⟨hm.set _ ha.1 ha.2,by simp [dK],by simp [dK],by simp [dK]⟩
theorem M5 {c:CF} {m:List Int} {f:FR} (hm:Wm m) (hf:Wf f):Wm (lI c m f).1∧Wf (lI c m f).2:=by
 have hl:=fun i=>cZ hm i
 obtain ⟨w3,w4,w5⟩:=hf
 have hb:=fc f.2.2.2.2.2.1 1
 unfold lI
 dsimp only
 split
 ·exact ⟨hm,w3,w4,w5⟩
 split
 ·exact ⟨hm,w3,w4,hl _⟩
 split
 ·split
  ·exact ⟨hm,by simp [dK],by simp [dK],by simp [dK]⟩
  ·exact ⟨hm,w3,hl _,w5⟩
 split
 ·exact ⟨hm,hl _,w4,w5⟩
 split
 ·exact ⟨hm.cas _ _ hb.1 hb.2,w3,by simp [dK],by simp [dK]⟩
 ·exact ⟨hm.cas _ _ hb.1 hb.2,by simp [dK],by simp [dK],by simp [dK]⟩
theorem Ed {c:CF} {m:List Int} {f:FR} (hm:Wm m) (hf:Wf f):Wm (fG c m f).1∧Wf (fG c m f).2:=by
 unfold fG B7
 split
 ·split
  ·exact Tl hm hf
  ·split
   ·exact Ye hm hf
   ·split
    ·exact M5 hm hf
    ·exact ⟨hm,hf⟩
 ·exact HC hm hf
structure WOk (n:Nat) (x:WB):Prop where
 f:Wf x.2.2.1
 s:x.2.1.length≤n
 sp:x.2.2.2.1≤1000
structure SOk (x:SB):Prop where
 f:Wf x.2.2
 s:x.2.1.length≤1000
theorem RK (a:Int):0≤IntKind.u64.wrap a∧IntKind.u64.wrap a≤18446744073709551615:=by
 rw [xu]
 omega
section
variable {c:CF} {t:List (Int×List Int)} {m:List Int} {w:Int} {x:WB} {d:Int} {n:Nat}
theorem R4 (hm:Wm m) (hf:Wf x.2.2.1):Wm (bB c t m w x d).1:=by
 have h1:=(Ed (c:=c) hm hf).1
 have h2:=fun a b=>fc a b
 refine f4 (P:=fun r=>Wm r.1) (fun _=>hm) ?_ ?_ ?_ ?_ ?_ ?_ ?_ ?_ ?_ ?_ ?_ ?_ ?_ ?_ ?_
 all_goals intro _ _
 all_goals dsimp only [GF,oC,mn,gW,nO,kz,dF,ft,GJ,np,ne,nt,Ec,nz,nD]
 all_goals repeat' split
 all_goals (try dsimp only)
 all_goals first | exact hm | exact h1 | exact hm.set _ (h2 _ _).1 (h2 _ _).2
theorem QQ (hm:Wm m) (hf:Wf x.2.2.1):Wf (bB c t m w x d).2.1.2.2.1:=by
 have h1:=(Ed (c:=c) hm hf).2
 have h2:=fun i=>cZ hm i
 have h3:=fun a=>RK a
 have z:Wf dt:=by simp [Wf,dt]
 have zr:(0:Int)≤0∧(0:Int)≤18446744073709551615:=by decide
 have b:∀ op w,Wf (Ej op w 0):=fun op w=>by simp [Wf,Ej]
 have b2:∀ op w v,0≤v∧v≤18446744073709551615→Wf (Ej op w v):=fun op w v h=>⟨h,by simp [Ej],by simp [Ej]⟩
 obtain ⟨w3,w4,w5⟩:=hf
 refine f4 (P:=fun r=>Wf r.2.1.2.2.1) (fun _=>⟨w3,w4,w5⟩) ?_ ?_ ?_ ?_ ?_ ?_ ?_ ?_ ?_ ?_ ?_ ?_ ?_ ?_ ?_
 all_goals intro _ _
 all_goals dsimp only [GF,oC,mn,gW,nO,kz,dF,ft,GJ,np,ne,nt,Ec,nz,nD,toW,kM,Da]
 all_goals repeat' split
 all_goals (try dsimp only)
 all_goals first | exact h1 | exact z | exact b _ _ | exact b2 _ _ _ (h3 _) | exact b2 _ _ _ h1.1 | exact ⟨w3,w4,w5⟩ | exact ⟨h2 _,w4,w5⟩ | exact ⟨h2 4,w4,w5⟩ | exact ⟨zr,w4,w5⟩
theorem Th (hc:fI c=true) (hs:x.2.2.2.1≤1000):(bB c t m w x d).2.1.2.2.2.1≤1000:=by
 have h4:=bG hc
 refine f4 (P:=fun r=>r.2.1.2.2.2.1≤1000) (fun _=>hs) ?_ ?_ ?_ ?_ ?_ ?_ ?_ ?_ ?_ ?_ ?_ ?_ ?_ ?_ ?_
 all_goals intro _ _
 all_goals dsimp only [GF,oC,mn,gW,nO,kz,dF,ft,GJ,np,ne,nt,Ec,nz,nD,toW,kM]
 all_goals repeat' split
 all_goals (try dsimp only)
 all_goals omega
theorem QZ (hc:fI c=true) (hm:Wm m) (h:WOk n x):WOk (n+1) (bB c t m w x d).2.1:=
 ⟨QQ hm h.f,by have:=JE (c:=c) (t:=t) (m:=m) (w:=w) (x:=x) (d:=d);have:=h.s;omega,Th hc h.sp⟩
end
section
variable {c:CF} {t:List (Int×List Int)} {m:List Int} {i:Int} {x:SB}
theorem MM:One m (kr c t m i x).1:=by
 unfold kr
 dsimp only
 repeat' split
 all_goals first | exact One.same m | exact One.store m _ _ | (dsimp only;exact One.store m _ _) | exact ER c m _
theorem Nn:(kr c t m i x).1.length=m.length:=MM.len
theorem nQ:(kr c t m i x).2.1.2.1=x.2.1∨(kr c t m i x).2.1.2.1=x.2.1.tail∧(kr c t m i x).2.1.1=0:=by
 unfold kr
 dsimp only
 repeat' split
 all_goals first | exact .inl rfl | exact .inr ⟨rfl,rfl⟩
theorem N6:(kr c t m i x).2.2.length≤2:=by
 unfold kr
 dsimp only
 repeat' split
 all_goals simp
theorem UE (h:0≤x.1∧x.1<6):0≤(kr c t m i x).2.1.1∧(kr c t m i x).2.1.1<6:=by
 unfold kr
 dsimp only
 repeat' split
 all_goals (try dsimp only)
 all_goals omega
theorem Qz (h:ry t x=true) (hm:rE c t m x=true):ry t (kr c t m i x).2.1=true:=by
 unfold ry at h ⊢
 simp only [Bool.and_eq_true,decide_eq_true_eq,List.all_eq_true,Bool.or_eq_true] at h ⊢
 obtain ⟨_,_,_,h4,h5,r,rest,hx,h6,h7⟩:=CH hm
 refine ⟨⟨UE h.1.1,fun y hy => ?_⟩,?_⟩
 ·rcases nQ (c:=c) (t:=t) (m:=m) (i:=i) (x:=x) with e | e
  ·rw [e] at hy;exact h.1.2 y hy
  ·rw [e.1] at hy;exact h.1.2 y (List.mem_of_mem_tail hy)
 ·rcases nQ (c:=c) (t:=t) (m:=m) (i:=i) (x:=x) with e | e
  ·refine .inr ?_
   rw [e,hx]
   simp
  ·exact .inl e.2
theorem WE (hm:Wm m) (ht:t.length≤1000) (h:SOk x):SOk (kr c t m i x).2.1:=by
 refine ⟨(Ow hm h.f ht).2,?_⟩
 have:=h.s
 rcases nQ (c:=c) (t:=t) (m:=m) (i:=i) (x:=x) with e | e
 ·rw [e];exact h.s
 ·rw [e.1,List.length_tail];omega
end
structure Good (n:Nat) (p:PB):Prop where
 t:FwT p.2.1
 tl:p.2.1.length≤1000
 m:Wm p.2.2.1
 w:∀ x ∈ p.2.2.2.1,WOk n x
 s:∀ x ∈ p.2.2.2.2,SOk x
theorem pJ {c:CF} {t:List (Int×List Int)} {m:List Int}:∀ {l:List WB} {i:Nat},Ay c t m i l=true↔∀ (j:Nat) x,l[j]? = some x→dz c t m ((i+j:Nat):Int) x=true
 | [],i=>by simp [Ay]
 | y::l,i=>by
  rw [Ay,Bool.and_eq_true,pJ (l:=l)]
  constructor
  ·intro h j x hx
   cases j with
   | zero=>cases hx;exact h.1
   | succ j=>
    have:=h.2 j x hx
    rw [show i+(j+1)=i+1+j by omega]
    exact this
  ·intro h
   refine ⟨h 0 y rfl,fun j x hx => ?_⟩
   have:=h (j+1) x hx
   rw [show i+1+j=i+(j+1) by omega]
   exact this
theorem pR {c:CF} {t:List (Int×List Int)} {m m':List Int} {w:Int} {x:WB} (h:m'.length=m.length):dz c t m' w x=dz c t m w x:=by
 unfold dz
 rw [h]
theorem nr {p:PB} (h:ga p=true):fI p.1=true∧(p.2.2.2.1.length:Int)=p.1.1∧p.2.2.2.2.length≤3∧(∀ (j:Nat) x,p.2.2.2.1[j]? = some x→dz p.1 p.2.1 p.2.2.1 (j:Int) x=true)∧(∀ x ∈ p.2.2.2.2,ry p.2.1 x=true):=by
 unfold ga at h
 simp only [Bool.and_eq_true,decide_eq_true_eq,List.all_eq_true] at h
 refine ⟨h.1.1.1,h.1.1.2.1,h.1.1.2.2,fun j x hx => ?_,h.2⟩
 have:=pJ.1 h.1.2 j x hx
 rw [Nat.zero_add] at this
 exact this
theorem xl {p:PB} (h1:fI p.1=true) (h2:(p.2.2.2.1.length:Int)=p.1.1) (h3:p.2.2.2.2.length≤3) (h4:∀ (j:Nat) x,p.2.2.2.1[j]? = some x→dz p.1 p.2.1 p.2.2.1 (j:Int) x=true) (h5:∀ x ∈ p.2.2.2.2,ry p.2.1 x=true):ga p=true:=by
 unfold ga
 simp only [Bool.and_eq_true,decide_eq_true_eq,List.all_eq_true]
 refine ⟨⟨⟨h1,h2,h3⟩,pJ.2 fun j x hx => ?_⟩,h5⟩
 rw [Nat.zero_add]
 exact h4 j x hx
theorem De {α:Type} {l:List α} {i:Nat} {y x:α} (h:x ∈ l.set i y):x ∈ l∨x=y:=by
 rcases List.mem_or_eq_of_mem_set h with h | h
 ·exact .inl h
 ·exact .inr h
theorem mL {p:PB} {k:PK} {P:PB×List EV→Prop} (h0:P (p,[]))
  (hw:∀ x,p.2.2.2.1[k.2.1.toNat]? = some x→k.1=0→P ((p.1,p.2.1,(bB p.1 p.2.1 p.2.2.1 k.2.1 x k.2.2).1,p.2.2.2.1.set k.2.1.toNat (bB p.1 p.2.1 p.2.2.1 k.2.1 x k.2.2).2.1,p.2.2.2.2),(bB p.1 p.2.1 p.2.2.1 k.2.1 x k.2.2).2.2))
  (hs:∀ x,p.2.2.2.2[k.2.1.toNat]? = some x→rE p.1 p.2.1 p.2.2.1 x=true→P ((p.1,p.2.1,(kr p.1 p.2.1 p.2.2.1 k.2.1 x).1,p.2.2.2.1,p.2.2.2.2.set k.2.1.toNat (kr p.1 p.2.1 p.2.2.1 k.2.1 x).2.1),(kr p.1 p.2.1 p.2.2.1 k.2.1 x).2.2))
  (hc:P ((p.1,p.2.1,aW p.2.2.1 3 1,p.2.2.2.1,p.2.2.2.2),[])):P (dV p k):=by
 unfold dV
 split
 ·rename_i e
  split
  ·rename_i x hx;exact hw x hx e
  ·exact h0
 ·split
  ·split
   ·rename_i x hx
    split
    ·rename_i hm;exact hs x hx hm
    ·exact h0
   ·exact h0
  ·split
   ·exact hc
   ·exact h0
theorem HZ {p:PB} {k:PK}:(dV p k).1.1=p.1∧(dV p k).1.2.1=p.2.1∧(dV p k).1.2.2.2.1.length=p.2.2.2.1.length∧(dV p k).1.2.2.2.2.length=p.2.2.2.2.length:=by
 refine mL (P:=fun r=>r.1.1=p.1∧r.1.2.1=p.2.1∧r.1.2.2.2.1.length=p.2.2.2.1.length∧r.1.2.2.2.2.length=p.2.2.2.2.length) ⟨rfl,rfl,rfl,rfl⟩ (fun x _ _=>⟨rfl,rfl,List.length_set,rfl⟩) (fun x _ _=>⟨rfl,rfl,rfl,List.length_set⟩) ⟨rfl,rfl,rfl,rfl⟩
theorem DH {p:PB} {k:PK}:(dV p k).2.length≤2:=
 mL (P:=fun r=>r.2.length≤2) (Nat.zero_le _) (fun x _ _=>Lm) (fun x _ _=>N6) (Nat.zero_le _)
theorem mS {n:Nat} {p:PB} {k:PK} (h:Good n p) (hc:fI p.1=true):Good (n+1) (dV p k).1:=by
 have up:∀ x ∈ p.2.2.2.1,WOk (n+1) x:=fun x hx=>⟨(h.w x hx).f,Nat.le_succ_of_le (h.w x hx).s,(h.w x hx).sp⟩
 refine mL (P:=fun r=>Good (n+1) r.1) ⟨h.t,h.tl,h.m,up,h.s⟩ (fun x hx _ => ?_) (fun x hx _ => ?_) ⟨h.t,h.tl,show Wm (aW p.2.2.1 3 1) from h.m.set 3 (by decide) (by decide),up,h.s⟩
 ·have hx':=h.w x (List.mem_of_getElem? hx)
  refine ⟨h.t,h.tl,R4 h.m hx'.f,fun y hy => ?_,h.s⟩
  rcases De hy with hy | rfl
  ·exact up y hy
  ·exact QZ hc h.m hx'
 ·have hx':=h.s x (List.mem_of_getElem? hx)
  refine ⟨h.t,h.tl,(Ow h.m hx'.f h.tl).1,up,fun y hy => ?_⟩
  rcases De hy with hy | rfl
  ·exact h.s y hy
  ·exact WE h.m h.tl hx'
theorem mH {p:PB} {k:PK} (h:ga p=true) (hk:oV k p.1.1 p.2.2.2.2.length=true):ga (dV p k).1=true:=by
 obtain ⟨h1,h2,h3,h4,h5⟩:=nr h
 refine mL (P:=fun r=>ga r.1=true) h (fun x hx hk0 => ?_) (fun x hx hm => ?_) ?_
 ·have h0:0≤k.2.1:=by
   unfold oV at hk
   rw [decide_eq_true_eq] at hk
   omega
  have hkk:((k.2.1.toNat:Nat):Int)=k.2.1:=by omega
  refine xl h1 (by dsimp only;rw [List.length_set];exact h2) h3 (fun j y hy => ?_) h5
  dsimp only at hy ⊢
  rw [List.getElem?_set] at hy
  split at hy
  ·rename_i e
   split at hy
   ·cases hy
    subst e
    rw [hkk]
    have:=h4 _ x hx
    rw [hkk] at this
    exact Nf this
   ·cases hy
  ·rw [pR E4.len]
   exact h4 j y hy
 ·refine xl h1 h2 (by dsimp only;rw [List.length_set];exact h3) (fun j y hy => ?_) fun y hy => ?_
  ·dsimp only
   rw [pR Nn]
   exact h4 j y hy
  ·rcases De hy with hy | rfl
   ·exact h5 y hy
   ·exact Qz (h5 x (List.mem_of_getElem? hx)) hm
 ·refine xl h1 h2 h3 (fun j y hy => ?_) h5
  dsimp only
  rw [pR gU]
  exact h4 j y hy
theorem Dd {P:PB→Prop} (hs:∀ p k,ga p=true→oV k p.1.1 p.2.2.2.2.length=true→P p→P (dV p k).1):∀ {l:List PK} {p:PB},ga p=true→P p→P (ng p l).1∧ga (ng p l).1=true
 | [],p,h,hp=>⟨hp,h⟩
 | k::l,p,h,hp=>by
  rw [ng]
  split
  ·rename_i hk
   exact Dd hs (mH h hk) (hs p k h hk hp)
  ·exact Dd hs h hp
end Go.Ab
set_option linter.unusedVariables false
set_option linter.unusedSimpArgs false
namespace Go.Ab
theorem RH (n w:Int):cP n w=some (decide (0≤n∧n<w)):=by
 unfold cP
 by_cases h0:0≤n
 ·rw [leT h0,cond_true]
  by_cases h1:n<w
  ·rw [ltT h1,decide_eq_true ⟨h0,h1⟩]
  ·rw [ltF (by omega),decide_eq_false (by omega)]
 ·rw [leF (by omega),cond_false,decide_eq_false (by omega)]
theorem TV (k:PK) (w s:Int):gP k w s=some (oV k w s):=by
 unfold gP oV
 simp only [RH,ae,lu]
 by_cases h0:k.1=0
 ·by_cases hb:0≤k.2.1∧k.2.1<w
  ·simp [h0,hb]
  ·simp [h0,hb]
 ·by_cases h1:k.1=1
  ·by_cases hb:0≤k.2.1∧k.2.1<s
   ·simp [h1,hb]
   ·simp [h1,hb]
  ·by_cases h2:k.1=2
   ·simp [h2]
   ·simp [h0,h1,h2]
theorem oI {α:Type}:∀ {l:List α} {i:Nat} {x:α},l[i]? = some x→l.set i x=l
 | [],_,_,h=>by cases h
 | a::l,0,x,h=>by cases h;rfl
 | a::l,i+1,x,h=>by rw [List.set_cons_succ,oI (l:=l) (by simpa using h)]
theorem acb {i n:Nat} (h:i<n):decide ((0:Int)≤(i:Int)∧(i:Int).toNat<n)=true:=decide_eq_true ⟨by omega,by omega⟩
theorem JK (k:Nat) (hk:1000≤k) {t:List (Int×List Int)} (ht:FwT t):dN k t=some t:=by
 have hl:=ht.len
 unfold dN
 rw [bx (by omega),ae]
 have key:∀ (r:List (Int×List Int)) (q n:Nat),t.drop q=r→q≤t.length→r.length<n→cz k t n t (t.length:Int) (q:Int) t=some t:=by
  intro r
  induction r with
  | nil=>
   intro q n hr hq hn
   obtain ⟨n,rfl⟩:=fZ hn
   have:=cY hr
   rw [cz,ltF (by omega),cond_false,decide_eq_true (Nat.le_refl _),cd,List.take_length]
  | cons v r ih=>
   intro q n hr hq hn
   obtain ⟨n,rfl⟩:=fZ hn
   obtain ⟨h0,h1,h2,_,h4⟩:=cj hr
   have hv:=ht.kids v (List.mem_of_getElem? h1)
   rw [cz,ltN h0,cond_true,acb h0,cond_true,Int.toNat_natCast,h1,ae,bx (by omega),ae,cond_true,ae,fA (by omega),oI h1]
   exact ih (q+1) n h2 (by omega) (by simp only [List.length_cons] at hn;omega)
 have:=key t 0 (k+1) rfl (Nat.zero_le _) (by omega)
 simpa using this
theorem aaf (k n:Nat) {t:List (Int×List Int)} {l:List Int} (hl:l.length≤1000) (hn:l.length<n):bN k n l (l.length:Int) t 0=some (F9 (fun r => !decide (0≤r∧r<(t.length:Int))) l 0):=by
 refine Jj (F:=fun n i=>bN k n l (l.length:Int) t i) (l:=l) _ ?_ ?_ n hn
 ·intro n
  simp only [bN,uM,cond_false]
 ·intro n i x hi hx
  simp only [bN,ltN hi,cond_true,fd hx,ae]
  rw [fA (by omega)]
  by_cases h0:x<0
  ·rw [ltT h0,cond_true,decide_eq_false (by omega)]
   rfl
  ·rw [ltF (by omega),cond_false]
   by_cases h1:(t.length:Int)≤x
   ·rw [leT h1,cond_true,decide_eq_false (by omega)]
    rfl
   ·rw [leF (by omega),cond_false,decide_eq_true (by omega)]
    rfl
theorem Yt (k n:Nat) (hk:1000≤k) {t:List (Int×List Int)} {S:List SB} (hS:S.length≤1000) (hr:∀ x ∈ S,x.2.1.length≤1000) (hn:S.length<n):bz k n S (S.length:Int) t 0=some (F9 (fun x => !ry t x) S 0):=by
 refine Jj (F:=fun n i=>bz k n S (S.length:Int) t i) (l:=S) _ ?_ ?_ n hn
 ·intro n
  simp only [bz,uM,cond_false]
 ·intro n i x hi hx
  have hx':=hr x (List.mem_of_getElem? hx)
  have ho:=aaf k (k+29) (t:=t) hx' (by omega)
  simp only [bz,ltN hi,cond_true,fd hx,ae,ho,rv]
  rw [fA (by omega)]
  have e:ry t x=(decide (0≤x.1∧x.1<6) && !(x.2.1.any fun r => !decide (0≤r∧r<(t.length:Int)))&&(decide (x.1=0)||decide (x.2.1≠[]))):=by
   unfold ry
   rw [List.all_eq_not_any_not]
  rw [e,Bc,lu]
  by_cases h0:x.1<0
  ·rw [ltT h0,cond_true,decide_eq_false (show ¬ (0≤x.1∧x.1<6) by omega)]
   rfl
  ·rw [ltF (by omega),cond_false]
   by_cases h6:6≤x.1
   ·rw [leT h6,cond_true,decide_eq_false (show ¬ (0≤x.1∧x.1<6) by omega)]
    rfl
   ·rw [leF (by omega),cond_false,decide_eq_true (show 0≤x.1∧x.1<6 by omega)]
    cases (x.2.1.any fun r => !decide (0≤r∧r<(t.length:Int))) with
    | true=>rfl
    | false=>
     rw [cond_false]
     by_cases hz:x.1=0
     ·rw [decide_eq_true hz]
      rfl
     ·rw [decide_eq_false hz,Bool.not_false,cond_true]
      by_cases hn:x.2.1=[]
      ·rw [hn]
       rfl
      ·have hl:¬ ((x.2.1.length:Int)=0):=by
        intro h
        exact hn (List.length_eq_zero_iff.1 (by omega))
       rw [decide_eq_false hl,decide_eq_true hn]
       rfl
section
variable {k:Nat} (hk:9223372036854779000≤k) {p:PB} (ht:Wt p.2.1) (hw:∀ x ∈ p.2.2.2.1,x.2.1.length≤1000) (hs:∀ x ∈ p.2.2.2.2,x.2.1.length≤1000)
include hk ht hw hs
theorem WM:iE k p=some (ga p):=by
 unfold iE ga
 simp only [Prod.eta,eS,ae]
 cases hm:fI p.1 with
 | false=>rfl
 | true=>
  have hc:=bG hm
  rw [Bool.not_true,cond_false,Bool.true_and,Bc]
  by_cases h1:(p.2.2.2.1.length:Int)=p.1.1
  ·rw [decide_eq_true h1,Bool.not_true,cond_false]
   by_cases h3:(3:Int)<p.2.2.2.2.length
   ·rw [ltT h3,cond_true,decide_eq_false (by omega)]
    rfl
   ·rw [ltF (by omega),cond_false,decide_eq_true ⟨h1,by omega⟩,Bool.true_and]
    have key:∀ (r:List WB) (q n:Nat),p.2.2.2.1.drop q=r→q≤p.2.2.2.1.length→r.length<n→dp k p n (q:Int)=some (Ay p.1 p.2.1 p.2.2.1 q r&&p.2.2.2.2.all (ry p.2.1)):=by
     intro r
     induction r with
     | nil=>
      intro q n hr hq hn
      obtain ⟨n,rfl⟩:=fZ hn
      have:=cY hr
      rw [dp,ltF (by omega),cond_false,Yt k (k+32) (by omega) (by omega) hs (by omega),ae,rv,Ay,Bool.true_and,List.all_eq_not_any_not]
     | cons v r ih=>
      intro q n hr hq hn
      obtain ⟨n,rfl⟩:=fZ hn
      obtain ⟨h0,h1',h2,_,h4⟩:=cj hr
      have hv:=hw v (List.mem_of_getElem? h1')
      rw [dp,ltN h0,cond_true,fd h1',ae]
      try simp only [Prod.eta]
      rw [J1 (by omega) p.1 ht p.2.2.1 (q:Int) v hv,ae,Ay,fA (by omega),ih (q+1) n h2 (by omega) (by simp only [List.length_cons] at hn;omega)]
      cases dz p.1 p.2.1 p.2.2.1 (q:Int) v <;> rfl
    have:=key p.2.2.2.1 0 (k+33) rfl (Nat.zero_le _) (by omega)
    simpa using this
  ·rw [decide_eq_false h1,Bool.not_false,cond_true,decide_eq_false (fun h=>h1 h.1)]
   rfl
end
theorem IA (k:Nat) (c1 c2 c3 c4:Int) (t:List (Int×List Int)) (m:List Int) (W:List WB) {S:List SB} (hS:S.length≤1000) (hr:∀ x ∈ S,x.2.1.length≤1000):∀ (r:List SB) (q n:Nat),S.drop q=r→q≤S.length→r.length<n →
  cg k n c1 c2 c3 c4 t m W S (S.length:Int) W (q:Int) S=some (c1,c2,c3,c4,t,m,W,S,W,S):=by
 intro r
 induction r with
 | nil=>
  intro q n hr hq hn
  obtain ⟨n,rfl⟩:=fZ hn
  have:=cY hr
  rw [cg,ltF (by omega),cond_false]
 | cons v r ih=>
  intro q n hr' hq hn
  obtain ⟨n,rfl⟩:=fZ hn
  obtain ⟨h0,h1,h2,_,h4⟩:=cj hr'
  have hv:=hr v (List.mem_of_getElem? h1)
  rw [cg,ltN h0,cond_true,acb h0,cond_true,Int.toNat_natCast,h1,ae,bx (by omega),ae,cond_true,ae,fA (by omega)]
  try simp only [Prod.eta]
  rw [oI h1]
  exact ih (q+1) n h2 (by omega) (by simp only [List.length_cons] at hn;omega)
theorem Li (k:Nat) (hk:1000≤k) (c1 c2 c3 c4:Int) (t:List (Int×List Int)) (m:List Int) {W:List WB} {S:List SB} (hW:W.length≤1000) (hw:∀ x ∈ W,x.2.1.length≤1000) (hS:S.length≤1000) (hs:∀ x ∈ S,x.2.1.length≤1000):∀ (r:List WB) (q n:Nat),W.drop q=r→q≤W.length→r.length<n →
  b8 k n c1 c2 c3 c4 t m W S (W.length:Int) (q:Int) W=some (c1,c2,c3,c4,t,m,W,S,W,S):=by
 intro r
 induction r with
 | nil=>
  intro q n hr hq hn
  obtain ⟨n,rfl⟩:=fZ hn
  have:=cY hr
  rw [b8,ltF (by omega),cond_false]
  exact IA k c1 c2 c3 c4 t m W hS hs S 0 (k+61) rfl (Nat.zero_le _) (by omega)
 | cons v r ih=>
  intro q n hr' hq hn
  obtain ⟨n,rfl⟩:=fZ hn
  obtain ⟨h0,h1,h2,_,h4⟩:=cj hr'
  have hv:=hw v (List.mem_of_getElem? h1)
  rw [b8,ltN h0,cond_true,acb h0,cond_true,Int.toNat_natCast,h1,ae,bx (by omega),ae,cond_true,ae,fA (by omega)]
  try simp only [Prod.eta]
  rw [oI h1]
  exact ih (q+1) n h2 (by omega) (by simp only [List.length_cons] at hn;omega)
def Wp (l:List PK):Prop:=∀ x ∈ l,0≤x.2.2∧x.2.2≤18446744073709551615
section
variable {k:Nat} (hk:9223372036854779000≤k) {p0:PB} {l:List PK} (hl:l.length≤1000) (hd:Wp l)
include hk hl hd
theorem MT:∀ (r:List PK) (q n N:Nat) (p:PB) (W0:List WB) (S0:List SB) (evs:List EV) (e:Nat),l.drop q=r→q≤l.length→r.length<n→(e=3∨e=0)→p.1=p0.1→p.2.2.2.2.length=p0.2.2.2.2.length→W0.length=p.2.2.2.1.length→S0.length=p.2.2.2.2.length→Good N p→ga p=true→N+r.length≤1000→evs.length+2*r.length≤4000 →
  bo k p0 l n p.1.1 p.1.2.1 p.1.2.2.1 p.1.2.2.2 p.2.1 W0 S0 p.2.2.2.1 p.2.2.2.2 evs (q:Int) p.2.2.1 e=some ((ng p r).1,evs++(ng p r).2):=by
 intro r
 induction r with
 | nil=>
  intro q n N p W0 S0 evs e hr hq hn he hc hS hW0 hS0 hg hm hN hE
  obtain ⟨n,rfl⟩:=fZ hn
  have:=cY hr
  rw [bo,ltF (by omega),cond_false,decide_eq_true (by omega),cd,decide_eq_true (by omega),cd,hW0,hS0,List.take_length,List.take_length,ng,List.append_nil]
 | cons v r ih=>
  intro q n N p W0 S0 evs e hr hq hn he hc hS hW0 hS0 hg hm hN hE
  obtain ⟨n,rfl⟩:=fZ hn
  obtain ⟨h0,h1,h2,_,h4⟩:=cj hr
  have hv:=hd v (List.mem_of_getElem? h1)
  obtain ⟨m1,m2,m3,m4,m5⟩:=nr hm
  have hcc:=bG m1
  simp only [List.length_cons] at hn hN hE
  have hml:p.2.2.1.length≤1000:=by
   have hW1:0<p.2.2.2.1.length:=by omega
   have:=(CU (m4 0 _ (List.getElem?_eq_getElem hW1))).2.1
   have:=mX m1
   omega
  have hes:(e==3||e==0)=true:=by rcases he with rfl | rfl <;> rfl
  have next:∀ (evs':List EV) (p':PB),p'.1=p.1→p'.2.1=p.2.1→p'.2.2.2.1.length=p.2.2.2.1.length→p'.2.2.2.2.length=p.2.2.2.2.length→Good (N+1) p'→ga p'=true→evs'.length≤evs.length+2→∀ e',(e'=3∨e'=0) →
    bo k p0 l n p.1.1 p.1.2.1 p.1.2.2.1 p.1.2.2.2 p.2.1 W0 S0 p'.2.2.2.1 p'.2.2.2.2 evs' ((q+1:Nat):Int) p'.2.2.1 e'=some ((ng p' r).1,evs'++(ng p' r).2):=fun evs' p' g1 g2 g3 g4 g5 g6 g7 e' he'=>by
   have:=ih (q+1) n (N+1) p' W0 S0 evs' e' h2 (by omega) (by omega) he' (by rw [g1,hc]) (by omega) (by omega) (by omega) g5 g6 (by omega) (by omega)
   rw [g1,g2] at this
   exact this
  have hw:IntKind.i64.wrap ((q:Int)+1)=((q+1:Nat):Int):=fA (by omega)
  have up:Good (N+1) p:=⟨hg.t,hg.tl,hg.m,fun x hx=>⟨(hg.w x hx).f,Nat.le_succ_of_le (hg.w x hx).s,(hg.w x hx).sp⟩,hg.s⟩
  rw [bo,ltN h0,cond_true,fd h1,ae]
  simp only [Prod.eta,hw]
  rw [TV,ae,ng,← hc,← hS]
  cases hf:oV v p.1.1 p.2.2.2.2.length with
  | false=>
   rw [cond_false,if_neg (by simp)]
   exact next evs p rfl rfl rfl rfl up hm (by omega) e he
  | true=>
   have st:=HZ (p:=p) (k:=v)
   have sg:=mS (k:=v) hg m1
   have sm:=mH hm hf
   have se:=DH (p:=p) (k:=v)
   have nx:=fun e' he'=>next (evs++(dV p v).2) (dV p v).1 st.1 st.2.1 st.2.2.1 st.2.2.2 sg sm (by rw [List.length_append];omega) e' he'
   have hroom:room (evs++(dV p v).2).length 24=true:=Dx (by rw [List.length_append];omega)
   have hroom0:room evs.length 24=true:=Dx (by omega)
   rw [cond_true,if_pos rfl]
   simp only [← List.append_assoc]
   have hfit:=hf
   unfold oV at hfit
   rw [decide_eq_true_eq] at hfit
   by_cases k0:v.1=0
   ·have hb:0≤v.2.1∧v.2.1<p.1.1:=by omega
    have hi:v.2.1.toNat<p.2.2.2.1.length:=by omega
    have hx:=List.getElem?_eq_getElem hi
    have hdec:decide (0≤v.2.1∧v.2.1.toNat<W0.length)=true:=decide_eq_true ⟨hb.1,by omega⟩
    generalize p.2.2.2.1[v.2.1.toNat]=x at hx
    have hxo:=hg.w x (List.mem_of_getElem? hx)
    have es:dV p v=((p.1,p.2.1,(bB p.1 p.2.1 p.2.2.1 v.2.1 x v.2.2).1,p.2.2.2.1.set v.2.1.toNat (bB p.1 p.2.1 p.2.2.1 v.2.1 x v.2.2).2.1,p.2.2.2.2),(bB p.1 p.2.1 p.2.2.1 v.2.1 x v.2.2).2.2):=by
     unfold dV
     rw [if_pos k0,hx]
    rw [lu,decide_eq_true k0,cond_true,hdec,cond_true,hx,ae]
    try simp only [Prod.eta]
    rw [Mm (by omega) p.1 hg.t.wt hg.m hml v.2.1 hxo.f (by have:=hxo.s;omega) (by have:=hxo.sp;omega) hv,ae,cond_true,ae,hes,cd]
    rw [es] at nx hroom ⊢
    rw [hroom,cond_true]
    exact nx 3 (.inl rfl)
   ·rw [lu,decide_eq_false k0,cond_false]
    by_cases k1:v.1=1
    ·have hb:0≤v.2.1∧v.2.1<(p.2.2.2.2.length:Int):=by omega
     have hi:v.2.1.toNat<p.2.2.2.2.length:=by omega
     have hx:=List.getElem?_eq_getElem hi
     have hdec:decide (0≤v.2.1∧v.2.1.toNat<S0.length)=true:=decide_eq_true ⟨hb.1,by omega⟩
     generalize p.2.2.2.2[v.2.1.toNat]=x at hx
     have hxo:=hg.s x (List.mem_of_getElem? hx)
     rw [lu,decide_eq_true k1,cond_true,hdec,cond_true,hx,ae]
     try simp only [Prod.eta]
     rw [OT (by omega) p.1 hg.t.wt,ae]
     cases hsm:rE p.1 p.2.1 p.2.2.1 x with
     | false=>
      have es:dV p v=(p,[]):=by
       unfold dV
       rw [if_neg k0,if_pos k1,hx]
       dsimp only
       rw [hsm,if_neg (by simp)]
      rw [es] at nx ⊢
      rw [cond_false,hes,cd,hroom0,cond_true]
      have:=nx 3 (.inl rfl)
      rw [List.append_nil] at this ⊢
      exact this
     | true=>
      have es:dV p v=((p.1,p.2.1,(kr p.1 p.2.1 p.2.2.1 v.2.1 x).1,p.2.2.2.1,p.2.2.2.2.set v.2.1.toNat (kr p.1 p.2.1 p.2.2.1 v.2.1 x).2.1),(kr p.1 p.2.1 p.2.2.1 v.2.1 x).2.2):=by
       unfold dV
       rw [if_neg k0,if_pos k1,hx]
       dsimp only
       rw [hsm,if_pos rfl]
      rw [cond_true,cond_true,ae]
      rw [S9 (by omega) p.1 hg.t.wt hg.m hml v.2.1 hxo.f hxo.s hg.tl,ae,cond_true,ae,hes,cd]
      rw [es] at nx hroom ⊢
      rw [hroom,cond_true]
      exact nx 3 (.inl rfl)
    ·rw [lu,decide_eq_false k1,cond_false]
     by_cases k2:v.1=2
     ·have es:dV p v=((p.1,p.2.1,aW p.2.2.1 3 1,p.2.2.2.1,p.2.2.2.2),[]):=by
       unfold dV
       rw [if_neg k0,if_neg k1,if_pos k2]
      rw [lu,decide_eq_true k2,cond_true,gw hml,ae,hes,cd,hroom0,cond_true]
      rw [es] at nx ⊢
      have:=nx 3 (.inl rfl)
      rw [List.append_nil] at this ⊢
      exact this
     ·have es:dV p v=(p,[]):=by
       unfold dV
       rw [if_neg k0,if_neg k1,if_neg k2]
      rw [lu,decide_eq_false k2,cond_false,hes,cd,hroom0,cond_true]
      rw [es] at nx ⊢
      have:=nx 3 (.inl rfl)
      rw [List.append_nil] at this ⊢
      exact this
theorem Sw {N:Nat} (hg:Good N p0) (hW:p0.2.2.2.1.length≤20) (hS:p0.2.2.2.2.length≤20) (hml:p0.2.2.1.length≤1000) (hN:N+l.length≤1000):cI k p0 l=some (UM p0 l):=by
 have hw:∀ x ∈ p0.2.2.2.1,x.2.1.length≤1000:=fun x hx=>by have:=(hg.w x hx).s;omega
 have hs:∀ x ∈ p0.2.2.2.2,x.2.1.length≤1000:=fun x hx=>(hg.s x hx).s
 unfold cI UM
 try simp only [Prod.eta]
 rw [JK _ (by omega) hg.t,ae,bx (by omega),ae,bx (by omega),ae,bx (by omega),ae]
 have ho:=Li k (by omega) p0.1.1 p0.1.2.1 p0.1.2.2.1 p0.1.2.2.2 p0.2.1 p0.2.2.1 (by omega) hw (by omega) hs p0.2.2.2.1 0 (k+61) rfl (Nat.zero_le _) (by omega)
 refine (congrArg (fun z=>ob z _) ho).trans ?_
 rw [ae]
 dsimp only
 rw [decide_eq_true (Nat.le_refl _),cd,decide_eq_true (Nat.le_refl _),cd,WM (by omega) hg.t.wt hw hs,ae,List.take_length,List.take_length,decide_eq_true (Nat.le_refl _),decide_eq_true (Nat.le_refl _)]
 cases hm:ga p0 with
 | false=>
  rw [Bool.not_false,cond_true,cd,cd,if_neg (by simp),List.take_length,List.take_length]
 | true=>
  rw [Bool.not_true,cond_false,if_pos rfl]
  exact MT hk hl hd l 0 (k+62) N p0 p0.2.2.2.1 p0.2.2.2.2 [] 0 rfl (Nat.zero_le _) (by omega) (.inr rfl) rfl rfl rfl rfl hg hm hN (by simp;omega)
end
end Go.Ab
set_option linter.unusedVariables false
set_option linter.unusedSimpArgs false
namespace Go.Ab
theorem ZG {k:Nat} (hk:1000≤k) (c:CF):iY k c=some (List.replicate (cS c).toNat 0):=by
 have hs:0≤cS c∧cS c≤190:=by
  unfold cS
  split
  ·rename_i h
   have hm:=bG h
   have:=fO h (w:=c.1) (by omega) (by omega)
   omega
  ·omega
 have key:∀ (d i n t:Nat),(t=0∨t=1)→i+d=(cS c).toNat→d<n→dW k c n (cS c) (List.replicate i 0) (i:Int) t=some (List.replicate (cS c).toNat 0):=by
  intro d
  induction d with
  | zero=>
   intro i n t ht hi hn
   obtain ⟨n,rfl⟩:=fZ hn
   rw [dW,ltF (by omega),cond_false]
   rw [show i=(cS c).toNat by omega]
  | succ d ih=>
   intro i n t ht hi hn
   obtain ⟨n,rfl⟩:=fZ hn
   have h1:(t==1||t==0)=true:=by rcases ht with rfl | rfl <;> rfl
   rw [dW,ltT (by omega),cond_true,h1,cd,Dx (by simp;omega),cond_true,fA (by omega)]
   have:=ih (i+1) n 1 (.inr rfl) (by omega) (by omega)
   rw [List.replicate_succ'] at this
   exact this
 unfold iY
 simp only [Prod.eta,ug,ae]
 exact key (cS c).toNat 0 (k+3) 0 (.inl rfl) (by omega) (by omega)
theorem YA {l:List Int} (h:l.length≤1000):fE l=some (0,l,dt):=by
 unfold fE
 rw [bx (by omega),ae]
 rfl
theorem D7 {α:Type} (p:α→Bool):∀ (l:List α) (i:Nat),F9 p l i = -1∨∃ (j:Nat) (x:α),F9 p l i=((i+j:Nat):Int)∧l[j]? = some x∧p x=true
 | [],_ => .inl rfl
 | x::r,i=>by
  rw [F9]
  by_cases h:p x=true
  ·rw [if_pos h]
   exact .inr ⟨0,x,rfl,rfl,h⟩
  ·rw [if_neg h]
   rcases D7 p r (i+1) with e | ⟨j,y,e,h1,h2⟩
   ·exact .inl e
   ·refine .inr ⟨j+1,y,?_,h1,h2⟩
    rw [e]
    congr 1
    omega
theorem Sy (k:Nat) {l:List Int} (hl:l.length≤1000) (hk:1001≤k) (v:Int):cL k l v=some (F9 (fun y=>v==y) l 0):=by
 unfold cL
 refine Jj (F:=fun n i=>bl k l v n i) (l:=l) _ ?_ ?_ k (by omega)
 ·intro n
  simp only [bl,uM,cond_false]
 ·intro n i y hi hy
  simp only [bl,ltN hi,cond_true,fd hy,ae]
  rw [fA (by omega)]
theorem Xc {k:Nat} (hk:9223372036854775808≤k) {t:List (Int×List Int)} (ht:FwT t) (q:Int):∃ z,dR k t q=some z:=by
 have hlen:=ht.len
 unfold dR
 rw [FS k hk t ht.wt,ae]
 cases rP t with
 | false=>exact ⟨_,rfl⟩
 | true=>
  rw [cond_true]
  have inner:∀ (i:Nat),i<t.length→∀ (o:Int→Option Int),(∃ z,o ((i+1:Nat):Int)=some z)→∀ (K:List Int),K.length≤40→∀ (r:List Int) (j n:Nat),K.drop j=r→j≤K.length→r.length<n→∃ z,bH k t q o n K (K.length:Int) (j:Int) (i:Int)=some z:=by
   intro i hi o ho K hK r
   induction r with
   | nil=>
    intro j n hr hj hn
    obtain ⟨n,rfl⟩:=fZ hn
    have:=cY hr
    rw [bH,ltF (by omega),cond_false,fA (by omega)]
    exact ho
   | cons x r ih=>
    intro j n hr hj hn
    obtain ⟨n,rfl⟩:=fZ hn
    obtain ⟨h0,h1,h2,_,h4⟩:=cj hr
    rw [bH,ltN h0,cond_true,fd h1,ae]
    cases x==q with
    | true=>exact ⟨_,rfl⟩
    | false=>
     rw [cond_false,fA (by omega)]
     exact ih (j+1) n h2 (by omega) (by simp only [List.length_cons] at hn;omega)
  have outer:∀ (r:List (Int×List Int)) (i n:Nat),t.drop i=r→i≤t.length→r.length<n→∃ z,bv k t q n (i:Int)=some z:=by
   intro r
   induction r with
   | nil=>
    intro i n hr hi hn
    obtain ⟨n,rfl⟩:=fZ hn
    have:=cY hr
    rw [bv,ltF (by omega),cond_false]
    exact ⟨_,rfl⟩
   | cons x r ih=>
    intro i n hr hi hn
    obtain ⟨n,rfl⟩:=fZ hn
    obtain ⟨h0,h1,h2,_,h4⟩:=cj hr
    have hx:=ht.kids x (List.mem_of_getElem? h1)
    rw [bv,ltN h0,cond_true,fd h1,ae]
    exact inner i h0 _ (ih (i+1) n h2 (by omega) (by simp only [List.length_cons] at hn;omega)) x.2 hx x.2 0 (k+18) rfl (Nat.zero_le _) (by omega)
  exact outer t 0 (k+18) rfl (Nat.zero_le _) (by omega)
theorem S3 {k:Nat} (hk:9223372036854775808≤k) {t:List (Int×List Int)} (ht:FwT t):∀ (d i n g e:Nat) (L:List Int),i+d=t.length→d<n→L.length≤i→(e=0∨e=1)→(L≠[]→e=1)→(∀ r ∈ L,0≤r∧r<(t.length:Int)) →
  ∃ g' L' e',bn k n t (t.length:Int) g L (i:Int) e=some (g',L',e')∧L'.length≤t.length∧(L'≠[]→e'=1)∧(∀ r ∈ L',0≤r∧r<(t.length:Int)):=by
 have hlen:=ht.len
 intro d
 induction d with
 | zero=>
  intro i n g e L hi hn hL he hne hr
  obtain ⟨n,rfl⟩:=fZ hn
  rw [bn,ltF (by omega),cond_false]
  exact ⟨g,L,e,rfl,by omega,hne,hr⟩
 | succ d ih=>
  intro i n g e L hi hn hL he hne hr
  obtain ⟨n,rfl⟩:=fZ hn
  obtain ⟨z,hz⟩:=Xc hk ht (i:Int)
  rw [bn,ltT (by omega),cond_true,hz,ae,fA (by omega)]
  cases z == -1 with
  | true=>
   have he1:(e==1||e==0)=true:=by rcases he with rfl | rfl <;> rfl
   rw [cond_true,he1,cd,Dx (by simp;omega),cond_true]
   refine ih (i+1) n (g+1) 1 (L++[(i:Int)]) (by omega) (by omega) (by simp;omega) (.inr rfl) (fun _=>rfl) fun r hr' => ?_
   rcases List.mem_append.1 hr' with h | h
   ·exact hr r h
   ·rw [List.mem_singleton.1 h];omega
  | false=>
   rw [cond_false]
   exact ih (i+1) n g e L (by omega) (by omega) (by omega) he hne hr
def TW (w:Nat):WB:=(0,[],Ej 1 (w:Int) 0,0,0)
def lO (n:Nat):List WB:=(List.range n).map TW
def kH (roots:List (List Int)):List SB:=roots.map fun l=>(0,l,dt)
def Km (c:CF) (t:List (Int×List Int)) (roots:List (List Int)):PB:=(c,t,List.replicate (cS c).toNat 0,lO c.1.toNat,kH roots)
def L4:PB:=((0,0,0,0),[],[],[],[])
section
variable {k:Nat} (hk:9223372036854779000≤k) (c:CF) (t:List (Int×List Int)) (ht:t.length≤40) (roots:List (List Int))
include hk ht
theorem Hx (o0:List (Int×List Int)→List Int→Nat→List WB→Int→List SB→Nat→Nat→List Int→Option (PB×Bool)) (t':List (Int×List Int)) (m:List Int) (W:List WB) (i0:Int) (S:List SB) (x:List Int) (hx:x.length≤1000) (hS:S.length≤100) (e:Nat) (he:e=9∨e=0) :
  ∀ (r:List Int) (q n len z:Nat) (L:List Int),x.drop q=r→q≤x.length→r.length<n→len≤L.length→L.length≤40→(0<len→z=1)→(∀ y ∈ L.take len,0≤y∧y<(t.length:Int))→(∀ y ∈ x.take q,0≤y∧y<(t.length:Int)) →
  cp k c t roots o0 n x t' m (x.length:Int) z W len (q:Int) L i0 S e=some (L4,false) ∨
  ∃ (len' z':Nat) (L':List Int),len'≤L'.length∧L'.length≤40∧(0<len'→z'=1)∧(∀ y ∈ L'.take len',0≤y∧y<(t.length:Int))∧(∀ y ∈ x,0≤y∧y<(t.length:Int)) ∧
   cp k c t roots o0 n x t' m (x.length:Int) z W len (q:Int) L i0 S e=o0 t' m z' W (IntKind.i64.wrap (i0+1)) (S++[(0,x,dt)]) 9 len' L':=by
 have _h:=ht
 intro r
 induction r with
 | nil=>
  intro q n len z L hr hq hn hlen hL hz hy hxq
  obtain ⟨n,rfl⟩:=fZ hn
  have:=cY hr
  have he1:(e==9||e==0)=true:=by rcases he with rfl | rfl <;> rfl
  refine .inr ⟨len,z,L,hlen,hL,hz,hy,?_,?_⟩
  ·rw [List.take_of_length_le (by omega)] at hxq
   exact hxq
  ·rw [cp,ltF (by omega),cond_false,YA hx,ae,he1,cd]
   rw [Dx (by simp;omega),cond_true]
 | cons v r ih=>
  intro q n len z L hr hq hn hlen hL hz hy hxq
  obtain ⟨n,rfl⟩:=fZ hn
  obtain ⟨h0,h1,h2,_,h4⟩:=cj hr
  simp only [List.length_cons] at hn
  rw [cp,ltN h0,cond_true,fd h1,ae,decide_eq_true hlen,cd,Sy (k+20) (by rw [List.length_take];omega) (by omega) v,ae]
  rcases D7 (fun y=>v==y) (L.take len) 0 with e1 | ⟨j,y,e1,hj,hvy⟩
  ·rw [e1]
   exact .inl rfl
  ·have hvy':v=y:=by simpa using hvy
   have hjl:j<len:=by
    have:=(List.getElem?_eq_some_iff.1 hj).1
    rw [List.length_take] at this
    omega
   have hyr:=hy y (List.mem_of_getElem? hj)
   rw [e1,Nat.zero_add,ltF (by omega),cond_false,hz (by omega),show ((1:Nat)==1)=true from rfl,cd,fA (by omega),Int.toNat_natCast,Int.toNat_natCast,decide_eq_true (show len≤L.length∧(0:Int)≤(j:Int)∧(j:Int)<((j+1:Nat):Int)∧j+1≤len∧len≤9223372036854775807 by omega),cd,fA (by omega),show len - (j+1 - j)=len - 1 by omega]
   have hc1:(CN (L.take len) j (j+1)).length=len:=by
    rw [EA (by omega) (by rw [List.length_take];omega),List.length_take]
    omega
   have hc2:(CN (L.take len) j (j+1)++L.drop len).length=L.length:=by
    rw [List.length_append,hc1,List.length_drop]
    omega
   refine ih (q+1) n (len - 1) 1 _ h2 (by omega) (by omega) (by rw [hc2];omega) (by rw [hc2];exact hL) (fun _=>rfl) ?_ ?_
   ·intro y' hy'
    rw [List.take_append_of_le_length (by rw [hc1];omega)] at hy'
    unfold CN at hy'
    rw [List.take_append_of_le_length (by simp;omega)] at hy'
    rcases List.mem_append.1 (List.mem_of_mem_take hy') with h | h
    ·exact hy y' (List.mem_of_mem_take h)
    ·exact hy y' (List.mem_of_mem_drop h)
   ·intro y' hy'
    rw [List.take_add_one,h1] at hy'
    rcases List.mem_append.1 hy' with h | h
    ·exact hxq y' h
    ·rw [show y'=v by simpa using h,hvy']
     exact hyr
theorem Hm (hR:roots.length≤3) (hr:∀ l ∈ roots,l.length≤1000) (W:List WB):∀ (r:List (List Int)) (q n len z e:Nat) (L:List Int) (t':List (Int×List Int)) (m:List Int),roots.drop q=r→q≤roots.length→r.length<n→len≤L.length→L.length≤40→(0<len→z=1)→(e=9∨e=0)→(∀ y ∈ L.take len,0≤y∧y<(t.length:Int))→(∀ l ∈ roots.take q,∀ y ∈ l,0≤y∧y<(t.length:Int)) →
  bE k c t roots n t' m z W (q:Int) (kH (roots.take q)) e len L=some (L4,false) ∨
  bE k c t roots n t' m z W (q:Int) (kH (roots.take q)) e len L=some ((c,t',m,W,kH roots),true)∧(∀ l ∈ roots,∀ y ∈ l,0≤y∧y<(t.length:Int)):=by
 intro r
 induction r with
 | nil=>
  intro q n len z e L t' m hq' hq hn hlen hL hz he hy hxq
  obtain ⟨n,rfl⟩:=fZ hn
  have:=cY hq'
  rw [List.take_of_length_le (by omega)] at hxq ⊢
  rw [bE,ltF (by omega),cond_false]
  exact .inr ⟨rfl,hxq⟩
 | cons v r ih=>
  intro q n len z e L t' m hq' hq hn hlen hL hz he hy hxq
  obtain ⟨n,rfl⟩:=fZ hn
  obtain ⟨h0,h1,h2,_,h4⟩:=cj hq'
  simp only [List.length_cons] at hn
  have hv:=hr v (List.mem_of_getElem? h1)
  have hSl:(kH (roots.take q)).length≤100:=by unfold kH;rw [List.length_map,List.length_take];omega
  rw [bE,ltN h0,cond_true,fd h1,ae]
  rcases Hx hk c t ht roots (fun s62 s63 s64 s77 s113 s115 s116 s135 s138=>bE k c t roots n s62 s63 s64 s77 s113 s115 s116 s135 s138) t' m W (q:Int) (kH (roots.take q)) v hv hSl e he v 0 (k+21) len z L rfl (Nat.zero_le _) (by omega) hlen hL hz hy (by simp) with h | ⟨len',z',L',g1,g2,g3,g4,g5,g6⟩
  ·exact .inl h
  ·have hs:kH (roots.take q)++[(0,v,dt)]=kH (roots.take (q+1)):=by
    unfold kH
    rw [List.take_add_one,h1,List.map_append]
    rfl
   rw [hs,fA (by omega)] at g6
   have:=ih (q+1) n len' z' 9 L' t' m h2 (by omega) (by omega) g1 g2 g3 (.inl rfl) g4 (fun l hl=>by
    rw [List.take_add_one,h1] at hl
    rcases List.mem_append.1 hl with h | h
    ·exact hxq l h
    ·rw [show l=v by simpa using h]
     exact g5)
   have g6':cp k c t roots (fun s62 s63 s64 s77 s113 s115 s116 s135 s138=>bE k c t roots n s62 s63 s64 s77 s113 s115 s116 s135 s138) (k+21) v t' m (v.length:Int) z W len 0 L (q:Int) (kH (roots.take q)) e=_:=g6
   rw [g6']
   exact this
theorem MA (hR:roots.length≤3) (hr:∀ l ∈ roots,l.length≤1000) (hc:0≤c.1∧c.1≤8) (t':List (Int×List Int)) (m L:List Int) (z:Nat) (hL:L.length≤40) (hz:L≠[]→z=1) (hy:∀ y ∈ L,0≤y∧y<(t.length:Int)):∀ (d i n e:Nat),(i:Int)+d=c.1→d<n→(e=11∨e=0) →
  co k c t roots n t' m L z (i:Int) (lO i) e=some (L4,false) ∨
  co k c t roots n t' m L z (i:Int) (lO i) e=some ((c,t',m,lO c.1.toNat,kH roots),true)∧(∀ l ∈ roots,∀ y ∈ l,0≤y∧y<(t.length:Int)):=by
 intro d
 induction d with
 | zero=>
  intro i n e hi hn he
  obtain ⟨n,rfl⟩:=fZ hn
  rw [co,ltF (by omega),cond_false,show c.1.toNat=i by omega]
  exact Hm hk c t ht roots hR hr (lO i) roots 0 (k+21) L.length z 0 L t' m rfl (Nat.zero_le _) (by omega) (Nat.le_refl _) hL (fun h=>hz (fun e=>by rw [e] at h;cases h)) (.inr rfl) (by rw [List.take_length];exact hy) (by simp)
 | succ d ih=>
  intro i n e hi hn he
  obtain ⟨n,rfl⟩:=fZ hn
  have he1:(e==11||e==0)=true:=by rcases he with rfl | rfl <;> rfl
  rw [co,ltT (by omega),cond_true,Sc,ae,he1,cd]
  rw [Dx (by rw [List.length_append];unfold lO;simp;omega),cond_true,fA (by omega)]
  have hw:lO i++[TW i]=lO (i+1):=by
   unfold lO
   rw [List.range_succ,List.map_append]
   rfl
  have:=ih (i+1) n 11 (by omega) (by omega) (.inl rfl)
  rw [← hw] at this
  exact this
end
theorem XN {k:Nat} (hk:9223372036854779000≤k) (c:CF) {t:List (Int×List Int)} (ht:FwT t) {roots:List (List Int)} (hr:∀ l ∈ roots,l.length≤1000) :
  gh k c t roots=some (L4,false)∨gh k c t roots=some (Km c t roots,true)∧fI c=true∧rP t=true∧roots.length≤3∧(∀ l ∈ roots,∀ y ∈ l,0≤y∧y<(t.length:Int)):=by
 unfold gh
 try simp only [Prod.eta]
 rw [eS,ae]
 cases hm:fI c with
 | false=>exact .inl rfl
 | true=>
  have hc:=bG hm
  rw [Bool.not_true,cond_false,FS _ (by omega) t ht.wt,ae]
  cases ht2:rP t with
  | false=>exact .inl rfl
  | true=>
   rw [Bool.not_true,cond_false]
   by_cases h3:(3:Int)<roots.length
   ·rw [ltT h3]
    exact .inl rfl
   ·obtain ⟨g',L',e',h1,h2,h4,h5⟩:=S3 (k:=k) (by omega) ht t.length 0 (k+20) 0 0 [] (by omega) (by have:=ht.len;omega) (Nat.zero_le _) (.inl rfl) (fun h=>absurd rfl h) (by simp)
    rw [ltF (by omega),cond_false,FS _ (by omega) t ht.wt,ae,ht2,Bool.not_true,cond_false]
    refine (show _∨_ from ?_)
    have h1':bn k (k+20) t (t.length:Int) 0 [] 0 0=some (g',L',e'):=h1
    rw [h1',ae,JK _ (by omega) ht,ae,ZG (by omega),ae]
    have hl:=ht.len
    rcases MA (k:=k) hk c t ht.len roots (by omega) hr (by omega) t (List.replicate (cS c).toNat 0) L' e' (by omega) h4 h5 c.1.toNat 0 (k+21) 0 (by omega) (by omega) (.inr rfl) with h | ⟨h,h'⟩
    ·exact .inl h
    ·exact .inr ⟨h,rfl,rfl,by omega,h'⟩
end Go.Ab
set_option linter.unusedVariables false
namespace Go.Ab
theorem W6 {k:Nat} (hk:9223372036854775808≤k) {l:List (List Int)} (hl:l.length≤9223372036854775807):∃ b,bJ k l=some b∧(b=true→l.length≤10∧∀ x ∈ l,x.length≤60):=by
 unfold bJ
 have key:∀ (r:List (List Int)) (q n:Nat),l.drop q=r→q≤l.length→r.length<n→(∀ x ∈ l.take q,x.length≤60)→∃ b,aU k l n (q:Int)=some b∧(b=true→l.length≤10∧∀ x ∈ l,x.length≤60):=by
  intro r
  induction r with
  | nil=>
   intro q n hr hq hn hx
   obtain ⟨n,rfl⟩:=fZ hn
   have:=cY hr
   rw [List.take_of_length_le (by omega)] at hx
   rw [aU,ltF (by omega),cond_false]
   refine ⟨_,rfl,fun h=>⟨?_,hx⟩⟩
   have:=of_decide_eq_true h
   omega
  | cons v r ih=>
   intro q n hr hq hn hx
   obtain ⟨n,rfl⟩:=fZ hn
   obtain ⟨h0,h1,h2,_,h4⟩:=cj hr
   rw [aU,ltN h0,cond_true]
   by_cases hq10:(q:Int)≤10
   ·rw [leT hq10,cond_true,fd h1,ae]
    by_cases h60:(60:Int)<v.length
    ·rw [ltT h60,cond_true]
     exact ⟨_,rfl,fun h=>by cases h⟩
    ·rw [ltF (by omega),cond_false,fA (by omega)]
     refine ih (q+1) n h2 (by omega) (by simp only [List.length_cons] at hn;omega) fun x hx' => ?_
     rw [List.take_add_one,h1] at hx'
     rcases List.mem_append.1 hx' with h | h
     ·exact hx x h
     ·rw [show x=v by simpa using h];omega
   ·rw [leF (by omega),cond_false]
    refine ⟨_,rfl,fun h => ?_⟩
    have:=of_decide_eq_true h
    omega
 exact key l 0 k rfl (Nat.zero_le _) (by omega) (by simp)
theorem PN {k:Nat} (p:PB) (v:PK):eA k p v=cI k p [v]:=by
 unfold eA
 simp only [Prod.eta]
 cases cI k p [v] <;> rfl
theorem xr:∀ {l:List PK} {n:Nat} {p:PB},Good n p→ga p=true→Good (n+l.length) (ng p l).1
 | [],n,p,h,_=>h
 | k::l,n,p,h,hm=>by
  rw [ng]
  split
  ·rename_i hk
   have:=xr (l:=l) (mS (k:=k) h (nr hm).1) (mH hm hk)
   rw [List.length_cons,show n+(l.length+1)=n+1+l.length by omega]
   exact this
  ·have:=xr (l:=l) h hm
   rw [List.length_cons]
   exact ⟨this.t,this.tl,this.m,fun x hx=>⟨(this.w x hx).f,by have:=(this.w x hx).s;omega,(this.w x hx).sp⟩,this.s⟩
theorem To {l:List PK} {p:PB} (hm:ga p=true):ga (ng p l).1=true:=
 (Dd (P:=fun _=>True) (fun _ _ _ _ _=>trivial) hm trivial).2
theorem CB:∀ {l:List PK} {p:PB},(ng p l).2.length≤2*l.length
 | [],p=>Nat.le_refl _
 | k::l,p=>by
  rw [ng]
  split
  ·have:=CB (l:=l) (p:=(dV p k).1)
   have:=DH (p:=p) (k:=k)
   simp only [List.length_append,List.length_cons]
   omega
  ·have:=CB (l:=l) (p:=p)
   simp only [List.length_cons]
   omega
theorem oE {p:PB} (h:ga p=true):p.2.2.2.1.length≤8∧p.2.2.2.2.length≤3∧12≤p.2.2.1.length∧p.2.2.1.length≤190:=by
 obtain ⟨m1,m2,m3,m4,_⟩:=nr h
 have hc:=bG m1
 have:=(CU (m4 0 _ (List.getElem?_eq_getElem (show 0<p.2.2.2.1.length by omega)))).2.1
 have:=mX m1
 omega
theorem R8 {c:CF} {t:List (Int×List Int)} {roots:List (List Int)} (hc:fI c=true) (ht:rP t=true) (hR:roots.length≤3) (hr:∀ l ∈ roots,∀ y ∈ l,0≤y∧y<(t.length:Int)):ga (Km c t roots)=true:=by
 have hm:=bG hc
 have hs:=mX hc
 refine xl hc ?_ ?_ (fun j x hx => ?_) (fun x hx => ?_)
 ·show ((lO c.1.toNat).length:Int)=c.1
  unfold lO
  rw [List.length_map,List.length_range]
  omega
 ·show (kH roots).length≤3
  unfold kH
  rw [List.length_map]
  exact hR
 ·have hx':(lO c.1.toNat)[j]? = some x:=hx
  unfold lO at hx'
  rw [List.getElem?_map,Option.map_eq_some_iff] at hx'
  obtain ⟨i,hi,rfl⟩:=hx'
  obtain ⟨hj,rfl⟩:=List.getElem?_eq_some_iff.1 hi
  rw [List.length_range] at hj
  rw [List.getElem_range]
  refine HG hc ?_ ht ⟨by omega,by show (j:Int)<c.1;omega,Int.le_refl 0,(show (0:Int)<16 by decide)⟩ (iF.2 ⟨ht,fun y hy=>absurd hy (by simp [TW])⟩)
  show ((List.replicate (cS c).toNat (0:Int)).length:Int)=cS c
  rw [List.length_replicate]
  omega
 ·have hx':x ∈ kH roots:=hx
  unfold kH at hx'
  obtain ⟨l,hl,rfl⟩:=List.mem_map.1 hx'
  unfold ry
  simp only [Bool.and_eq_true,List.all_eq_true,decide_eq_true_eq,Bool.or_eq_true]
  exact ⟨⟨by decide,hr l hl⟩,.inl (by trivial)⟩
theorem Kn {c:CF} {t:List (Int×List Int)} {roots:List (List Int)} (ht:FwT t) (hr:∀ l ∈ roots,l.length≤60):Good 0 (Km c t roots):=by
 have z:(0:Int)≤0∧(0:Int)≤18446744073709551615:=by decide
 refine ⟨ht,by have:=ht.len;show t.length≤1000;omega,?_,fun x hx => ?_,fun x hx => ?_⟩
 ·refine ⟨?_,fun v hv => ?_⟩
  ·show (List.replicate (cS c).toNat (0:Int)).length≤_
   rw [List.length_replicate]
   have:cS c≤190:=by
    unfold cS
    split
    ·rename_i h
     have hm:=bG h
     have:=fO h (w:=c.1) (by omega) (by omega)
     omega
    ·omega
   omega
  ·rw [List.eq_of_mem_replicate hv]
   exact z
 ·have hx':x ∈ lO c.1.toNat:=hx
  unfold lO at hx'
  obtain ⟨i,_,rfl⟩:=List.mem_map.1 hx'
  exact ⟨⟨z,z,z⟩,Nat.le_refl _,by show (0:Int)≤1000;decide⟩
 ·have hx':x ∈ kH roots:=hx
  unfold kH at hx'
  obtain ⟨l,hl,rfl⟩:=List.mem_map.1 hx'
  exact ⟨⟨z,z,z⟩,by have:=hr l hl;show l.length≤1000;omega⟩
end Go.Ab
namespace Go.Ab
open Go.WideShapes
structure Ll (l:List (List Int)):Prop where
 len:l.length≤9223372036854775807
 each:∀ x ∈ l,x.length≤9223372036854775807
theorem Zr {l:List (List Int)} (hm:l.length≤maxLen) (h:∀ x ∈ l,(∀ n ∈ x,i64 n)∧x.length≤maxLen):Ll l:=⟨XW hm,fun x hx=>XW (h x hx).2⟩
end Go.Ab
namespace Go.Ab
open Go.WideShapes
end Go.Ab
namespace Go.Ab
open Go.WideShapes
end Go.Ab
namespace Go.Ab
open Go.WideShapes
def DK (x:Int×Int×Int):Prop:=i64 x.1∧i64 x.2.1∧u64 x.2.2
def Wpk (l:List (Int×Int×Int)):Prop:=∀ x ∈ l,0≤x.2.2∧x.2.2≤18446744073709551615
theorem Xv {l:List (Int×Int×Int)} (h:∀ x ∈ l,DK x) (hm:l.length≤maxLen):Wpk l:=fun x hx=>XQ (h x hx).2.2
theorem Gq {P:Program} {t ti tu:TypeId} {f0 f1 f2:Field} {vs:List V} (he:P.underlying t=some (.struct #[f0,f1,f2])) (h0:f0.type=ti) (h1:f1.type=ti) (h2:f2.type=tu)
  (o0:f0.offset=0) (o1:f1.offset=1) (o2:f2.offset=2) (hi:P.underlying ti=some (.int .i64)) (ci:P.cellsOf ti=1) (hu:P.underlying tu=some (.int .u64)) (cu:P.cellsOf tu=1) (ce:P.cellsOf t=3) (h:Shape P t vs) :
  ∃ x:Int×Int×Int,vs=dg x∧DK x:=by
 obtain ⟨a,b⟩:=kO he h
 have s0:=b 0 f0 rfl
 have s1:=b 1 f1 rfl
 have s2:=b 2 f2 rfl
 rw [h0,o0,ci,List.drop_zero] at s0
 rw [h1,o1,ci] at s1
 rw [h2,o2,cu] at s2
 rw [ce] at a
 obtain ⟨n0,e0,w0⟩:=eV hi s0
 obtain ⟨n1,e1,w1⟩:=eV hi s1
 obtain ⟨n2,e2,w2⟩:=eV hu s2
 match vs,a with
 | [x,y,z],_=>
  simp at e0 e1 e2
  subst e0 e1 e2
  exact ⟨(n0,n1,n2),rfl,w0,w1,w2⟩
theorem re {P:Program} {t e ti tu:TypeId} {f0 f1 f2:Field} {vs:List V} (ht:P.underlying t=some (.slice e)) (he:P.underlying e=some (.struct #[f0,f1,f2])) (h0:f0.type=ti) (h1:f1.type=ti) (h2:f2.type=tu)
  (o0:f0.offset=0) (o1:f1.offset=1) (o2:f2.offset=2) (hi:P.underlying ti=some (.int .i64)) (ci:P.cellsOf ti=1) (hu:P.underlying tu=some (.int .u64)) (cu:P.cellsOf tu=1) (ce:P.cellsOf e=3) (h:Shape P t vs) :
  ∃ l:List (Int×Int×Int),vs=[.ro (l.map dg)]∧(∀ x ∈ l,DK x)∧l.length≤maxLen:=by
 obtain ⟨rows,rfl,hr,hm⟩:=i6 ht h
 obtain ⟨l,rfl,hl⟩:=iG (enc:=dg) (Q:=DK) (rows:=rows) (fun r hx=>Gq he h0 h1 h2 o0 o1 o2 hi ci hu cu ce (hr r hx))
 exact ⟨l,rfl,hl,by simpa using hm⟩
end Go.Ab
