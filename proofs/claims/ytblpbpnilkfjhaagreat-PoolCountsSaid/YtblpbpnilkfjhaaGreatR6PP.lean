import Derived.Test.YtblpbpnilkfjhaaGreatAbLibC
import Derived.Test.YtblpbpnilkfjhaaGreatR6GX
import Derived.WideShapes
import Derived.Test.YtblpbpnilkfjhaaGreatR6GY
set_option linter.unusedVariables false
set_option linter.unusedSimpArgs false
set_option linter.unusedVariables false
namespace Go.Ab
def mX (x:Int×List Int):Bool:=decide (x.1<0)||decide (20<x.1)
def lR:Nat→List (Int×List Int)→List (Int×Int)
 | _,[]=>[]
 | i,x::r=>x.2.map (fun k=>(k,(i:Int)))++lR (i+1) r
def ut (n:Nat) (had:List Bool) (q:Int×Int):Bool:=decide (q.1≤q.2)||decide ((n:Int)≤q.1)||(had[q.1.toNat]?).getD true
abbrev Uj (n:Nat) := { h:List Bool // h.length=n }
def eQ (n:Nat) (had:Uj n) (q:Int×Int):Bool×Uj n:=
 if ut n had.1 q then (false,had) else (true,⟨had.1.set q.1.toNat true,by simp [had.2]⟩)
def DE (n:Nat):Uj n:=⟨List.replicate n false,by simp⟩
def uM (t:List (Int×List Int)):Bool:=decide (t.length≤30) && !(t.any mX)&&(PU (eQ t.length) (lR 0 t) (DE t.length)).1
structure Wt (t:List (Int×List Int)):Prop where
 len:t.length≤9223372036854775807
 kids:∀ x ∈ t,x.2.length≤9223372036854775807
def aaA (t:List (Int×List Int)):Bool:=(t.take 41).all (fun x=>decide (x.2.length≤40))&&decide (t.length≤40)
theorem In {t:List (Int×List Int)} (h1:uM t=true):t.length≤30:=by
 unfold uM at h1
 simp only [Bool.and_eq_true,decide_eq_true_eq] at h1
 exact h1.1.1
theorem GO {α:Type} {l:List α} {F:Nat→Int→Option Int} (p:α→Bool)
  (h0:∀ n,F (n+1) (l.length:Int)=some (-1))
  (h1:∀ n (i:Nat) x,i<l.length→l[i]? = some x→F (n+1) (i:Int)=bif p x then some (i:Int) else F n ((i+1:Nat):Int))
  (n:Nat) (hn:l.length<n):F n 0=some (FA p l 0):=by
 have key:∀ r i n,l.drop i=r→i≤l.length→r.length<n→F n (i:Int)=some (FA p r i):=by
  intro r
  induction r with
  | nil=>
   intro i n hr hi hn
   obtain ⟨n,rfl⟩:=gf hn
   have:i=l.length:=by have:=cX hr;omega
   subst this
   rw [h0]
   rfl
  | cons x r ih=>
   intro i n hr hi hn
   obtain ⟨n,rfl⟩:=gf hn
   obtain ⟨a,b,c,d,e⟩:=b7 hr
   rw [h1 n i x a b]
   simp only [FA]
   cases p x with
   | true=>rfl
   | false=>exact ih (i+1) n c (by omega) (by simp only [List.length_cons] at hn;omega)
 have:=key l 0 n rfl (Nat.zero_le _) hn
 simpa using this
theorem Bm (x y : Int) : (x != y) = !decide (x = y) := by by_cases h : x = y <;> simp [h]
theorem iJ (x y:Int):(x==y)=decide (x=y):=by by_cases h:x=y <;> simp [h]
theorem ub {α:Type} (l:List α):decide ((l.length:Int)<(l.length:Int))=false:=decide_eq_false (by omega)
theorem ltN {i n:Nat} (h:i<n):decide ((i:Int)<(n:Int))=true:=decide_eq_true (by omega)
theorem eZ {z:Int} (h : -9223372036854775808≤z∧z≤9223372036854775807):IntKind.i64.wrap z=z:=IW h.1 h.2
end Go.Ab
set_option linter.unusedVariables false
namespace Go.Ab
open Go
abbrev CF:=Int×Int×Int×Int
abbrev FR:=Int×Int×Int×Int×Int×Int×Int
def fx (c:CF):Bool:=decide (1≤c.1∧c.1≤8∧(c.2.1=1∨c.2.1=2∨c.2.1=4∨c.2.1=8∨c.2.1=16)∧1≤c.2.2.1∧c.2.2.1≤16∧0≤c.2.2.2∧c.2.2.2≤4)
def xv (c:CF) (w:Int):Int:=6+2*c.2.2.1+w*(3+c.2.1)
def cB (c:CF):Int:=if fx c=true then xv c c.1 else 0
def cD (c:CF) (w:Int):Int:=if fx c=true∧0≤w∧w<c.1 then xv c w+2 else -1
def aq (m:List Int) (i:Int):Int:=if 0≤i then (m[i.toNat]?).getD 0 else 0
def aW (m:List Int) (i v:Int):List Int:=if 0≤i then m.set i.toNat v else m
def pC (m:List Int) (i old new:Int):List Int×Bool:=if 0≤i∧i<m.length∧aq m i=old then (aW m i new,true) else (m,false)
def epB (e:Int):Int:=e/65536
def mkB (e:Int):Int:=e%65536
def gk (x w:Int):Bool:=decide (x/2 ^ w.toNat%2=1)
def F4 (e w:Int):Int:=if 0≤w∧w<16∧gk e w=false then e+2 ^ w.toNat else e
def dd (f:FR):Bool:=f.2.2.2.2.2.2 !=0
def dK (f:FR) (res val:Int):FR:=(f.1,0,f.2.2.1,val,0,0,res)
def mz (c:CF) (m:List Int) (f:FR) (op pcs:Int):Bool:=fx c&&decide ((m.length:Int)=cB c)&&decide (f.2.2.2.2.2.2=0∧0≤f.2.2.1∧f.2.2.1<c.1∧f.1=op∧0≤f.2.1∧f.2.1<pcs)
def gB (c:CF) (m:List Int) (f:FR):List Int×FR:=
 if mz c m f 5 5=false then (m,f)
 else if f.2.1=0 then (m,f.1,1,f.2.2.1,f.2.2.2.1,aq m 2,f.2.2.2.2.2)
 else if f.2.1=1 then (if epB (aq m 2)=epB f.2.2.2.2.1 then (m,f.1,2,f.2.2.1,f.2.2.2.1,f.2.2.2.2.1,aq m 2,f.2.2.2.2.2.2) else (m,dK f 4 0))
 else if f.2.1=2 then (let r:=pC m 2 f.2.2.2.2.2.1 (F4 f.2.2.2.2.2.1 f.2.2.1);(r.1,f.1,if r.2=true then 3 else 1,f.2.2))
 else if f.2.1=3 then (let y:=aq m (cD c f.2.2.1);(m,f.1,if y=0 then 3 else 4,f.2.2.1,f.2.2.2.1,f.2.2.2.2.1,y,f.2.2.2.2.2.2))
 else (aW m (cD c f.2.2.1) 0,dK f 1 0)
def Ag (f:FR):Bool:=decide (f.1=5∧f.2.2.2.2.2.2=0∧f.2.1=3)
structure Wm (m:List Int):Prop where
 len:m.length≤9223372036854775807
 num:∀ x ∈ m,0≤x∧x≤18446744073709551615
theorem gA {z:Int} (h0:0≤z) (h1:z≤18446744073709551615):IntKind.u64.wrap z=z:=by
 simp [IntKind.wrap,IntKind.bits,IntKind.signed]
 omega
theorem aaL {a b:Nat} (ha:a<18446744073709551616) (hb:b<18446744073709551616):uA .u64 (a:Int) (b:Int)=((a &&& b:Nat):Int):=by
 unfold uA
 have h:(BitVec.ofInt IntKind.u64.bits (a:Int) &&& BitVec.ofInt IntKind.u64.bits (b:Int)).toNat=a &&& b:=by
  rw [BitVec.toNat_and]
  have e:IntKind.u64.bits=64:=rfl
  rw [e]
  simp only [BitVec.ofInt_natCast,BitVec.toNat_ofNat]
  rw [Nat.mod_eq_of_lt (by omega),Nat.mod_eq_of_lt (by omega)]
 rw [h]
 have:a &&& b≤a:=Nat.and_le_left
 exact gA (by omega) (by omega)
theorem orU {a b:Nat} (ha:a<18446744073709551616) (hb:b<18446744073709551616):orI .u64 (a:Int) (b:Int)=((a ||| b:Nat):Int):=by
 unfold orI
 have h:(BitVec.ofInt IntKind.u64.bits (a:Int) ||| BitVec.ofInt IntKind.u64.bits (b:Int)).toNat=a ||| b:=by
  rw [BitVec.toNat_or]
  have e:IntKind.u64.bits=64:=rfl
  rw [e]
  simp only [BitVec.ofInt_natCast,BitVec.toNat_ofNat]
  rw [Nat.mod_eq_of_lt (by omega),Nat.mod_eq_of_lt (by omega)]
 rw [h]
 have:a ||| b<2 ^ 64:=Nat.or_lt_two_pow (by omega) (by omega)
 exact gA (by omega) (by omega)
theorem QM {e:Int} (h0:0≤e) (h1:e≤18446744073709551615):uA .u64 e 65535=mkB e:=by
 obtain ⟨n,rfl⟩:∃ n:Nat,e=n:=⟨e.toNat,by omega⟩
 have:=aaL (a:=n) (b:=65535) (by omega) (by omega)
 have h2:((65535:Nat):Int)=65535:=rfl
 rw [h2] at this
 rw [this,mkB]
 have h3:n &&& 65535=n%65536:=Nat.and_two_pow_sub_one_eq_mod n 16
 rw [h3]
 omega
theorem ZV {e w:Int} (h0:0≤e) (hw:0≤w) (hw2:w≤64):QG .u64 e w=e/2 ^ w.toNat:=by
 unfold QG
 have e1:IntKind.u64.bits=64:=rfl
 rw [e1]
 have:min w.toNat 64=w.toNat:=by omega
 rw [this,Int.fdiv_eq_ediv_of_nonneg _ (Int.le_of_lt (Int.pow_pos (by decide)))]
theorem TV {e:Int} (h0:0≤e):QG .u64 e 16=epB e:=by
 rw [ZV h0 (by decide) (by decide)]
 rfl
theorem abp {x:Int} (h0:0≤x) (h1:x≤18446744073709551615):uA .u64 x 1=x%2:=by
 obtain ⟨n,rfl⟩:∃ n:Nat,x=n:=⟨x.toNat,by omega⟩
 have:=aaL (a:=n) (b:=1) (by omega) (by omega)
 have h2:((1:Nat):Int)=1:=rfl
 rw [h2] at this
 rw [this,Nat.and_one_is_mod]
 omega
theorem SE {x w:Int} (h0:0≤x) (h1:x≤18446744073709551615):0≤x/2 ^ w.toNat∧x/2 ^ w.toNat≤18446744073709551615:=by
 have hp:(0:Int)<2 ^ w.toNat:=Int.pow_pos (by decide)
 have:=Int.ediv_nonneg h0 (Int.le_of_lt hp)
 have:=Int.ediv_le_self (2 ^ w.toNat) h0
 omega
theorem aeN {x w:Int} (h0:0≤x) (h1:x≤18446744073709551615) (hw:0≤w) (hw2:w≤64):(uA .u64 (QG .u64 x w) 1==1)=gk x w:=by
 have:=SE (w:=w) h0 h1
 rw [ZV h0 hw hw2,abp this.1 this.2,gk,iJ]
theorem WV {w:Int} (hw:0≤w) (hw2:w<64):Dm .u64 1 w=2 ^ w.toNat:=by
 unfold Dm
 have e1:IntKind.u64.bits=64:=rfl
 rw [e1]
 have:min w.toNat 64=w.toNat:=by omega
 rw [this,Int.one_mul]
 have h1:(2:Nat) ^ w.toNat≤2 ^ 63:=Nat.pow_le_pow_right (by decide) (by omega)
 have h2:((2 ^ w.toNat:Nat):Int)=(2:Int) ^ w.toNat:=by rw [Int.natCast_pow];rfl
 have h3:(0:Int)<2 ^ w.toNat:=Int.pow_pos (by decide)
 exact gA (by omega) (by omega)
theorem Vn {e w:Int} (h0:0≤e) (h1:e≤18446744073709551615) (hw:0≤w) (hw2:w<16):orI .u64 e (2 ^ w.toNat)=F4 e w:=by
 obtain ⟨n,rfl⟩:∃ n:Nat,e=n:=⟨e.toNat,by omega⟩
 have hp:(2:Nat) ^ w.toNat≤2 ^ 15:=Nat.pow_le_pow_right (by decide) (by omega)
 have h2:((2 ^ w.toNat:Nat):Int)=(2:Int) ^ w.toNat:=by rw [Int.natCast_pow];rfl
 rw [← h2,orU (by omega) (by omega)]
 have hb:gk (n:Int) w=n.testBit w.toNat:=by
  rw [gk,Nat.testBit_eq_decide_div_mod_eq,← h2]
  have:((n:Int)/((2 ^ w.toNat:Nat):Int))%2=((n/2 ^ w.toNat%2:Nat):Int):=by rw [Int.natCast_emod,Int.natCast_ediv];rfl
  rw [this]
  congr 1
  apply propext
  omega
 unfold F4
 cases ht:n.testBit w.toNat with
 | true=>
  rw [hb,ht,if_neg (by simp)]
  congr 1
  apply Nat.eq_of_testBit_eq
  intro i
  rw [Nat.testBit_or,Nat.testBit_two_pow]
  by_cases hi:w.toNat=i
  ·subst hi;simp [ht]
  ·simp [hi]
 | false=>
  rw [hb,ht,if_pos ⟨hw,hw2,rfl⟩,← h2]
  have h3:(BitVec.ofNat 80 n) &&& (BitVec.ofNat 80 (2 ^ w.toNat))=0#80:=by
   apply BitVec.eq_of_toNat_eq
   rw [BitVec.toNat_and]
   simp only [BitVec.toNat_ofNat]
   rw [Nat.mod_eq_of_lt (by omega),Nat.mod_eq_of_lt (by omega),Nat.zero_mod]
   apply Nat.eq_of_testBit_eq
   intro i
   rw [Nat.testBit_and,Nat.testBit_two_pow,Nat.zero_testBit]
   by_cases hi:w.toNat=i
   ·subst hi;simp [ht]
   ·simp [hi]
  have h4:=congrArg BitVec.toNat (BitVec.add_eq_or_of_and_eq_zero _ _ h3)
  rw [BitVec.toNat_add,BitVec.toNat_or] at h4
  simp only [BitVec.toNat_ofNat] at h4
  rw [Nat.mod_eq_of_lt (show n<2 ^ 80 by omega),Nat.mod_eq_of_lt (show 2 ^ w.toNat<2 ^ 80 by omega),Nat.mod_eq_of_lt (show n+2 ^ w.toNat<2 ^ 80 by omega)] at h4
  rw [← h4]
  omega
theorem cy {m:List Int} (hm:Wm m) (i:Int):0≤aq m i∧aq m i≤18446744073709551615:=by
 unfold aq
 split
 ·cases h:m[i.toNat]? with
  | none=>simp
  | some x=>exact hm.num x (List.mem_of_getElem? h)
 ·omega
theorem UC {e w:Int} (h0:0≤e) (h1:e≤18446744073709551615):0≤F4 e w∧F4 e w≤18446744073709551615:=by
 unfold F4
 split
 ·rename_i h
  have hs:=Vn h0 h1 h.1 h.2.1
  unfold F4 at hs
  rw [if_pos h] at hs
  rw [← hs]
  obtain ⟨n,rfl⟩:∃ n:Nat,e=n:=⟨e.toNat,by omega⟩
  have hp:(2:Nat) ^ w.toNat≤2 ^ 15:=Nat.pow_le_pow_right (by decide) (by omega)
  have h2:((2 ^ w.toNat:Nat):Int)=(2:Int) ^ w.toNat:=by rw [Int.natCast_pow];rfl
  rw [← h2,orU (by omega) (by omega)]
  have:n ||| 2 ^ w.toNat<2 ^ 64:=Nat.or_lt_two_pow (by omega) (by omega)
  omega
 ·omega
end Go.Ab
set_option maxRecDepth 100000
set_option linter.unusedVariables false
namespace Go.Ab
theorem bc {c:CF} (h:fx c=true):1≤c.1∧c.1≤8∧(c.2.1=1∨c.2.1=2∨c.2.1=4∨c.2.1=8∨c.2.1=16)∧1≤c.2.2.1∧c.2.2.1≤16∧0≤c.2.2.2∧c.2.2.2≤4:=by
 unfold fx at h
 exact of_decide_eq_true h
theorem dr {c:CF} (h:fx c=true) {w:Int} (h0:0≤w) (h1:w≤8):8≤xv c w∧xv c w≤190∧w*(3+c.2.1)≤152∧0≤w*(3+c.2.1):=by
 obtain ⟨_,_,hD,_,_,_,_⟩:=bc h
 have a:0≤w*(3+c.2.1):=Int.mul_nonneg h0 (by omega)
 have b:w*(3+c.2.1)≤8*19:=Int.mul_le_mul h1 (by omega) (by omega) (by omega)
 unfold xv
 omega
theorem SU (a b c:Int):dP a b c=some (decide (b≤a∧a≤c)):=by
 unfold dP
 by_cases h:b≤a
 ·simp [h]
 ·simp [h]
theorem acg {D:Int} (h1:1≤D) (h2:D≤16):(uA IntKind.i64 D (IntKind.i64.wrap (D - 1))==0)=decide (D=1∨D=2∨D=4∨D=8∨D=16):=by
 have:D=1∨D=2∨D=3∨D=4∨D=5∨D=6∨D=7∨D=8∨D=9∨D=10∨D=11∨D=12∨D=13∨D=14∨D=15∨D=16:=by omega
 rcases this with rfl | rfl | rfl | rfl | rfl | rfl | rfl | rfl | rfl | rfl | rfl | rfl | rfl | rfl | rfl | rfl <;> decide +kernel
theorem fj (c:CF):bL c=some (fx c):=by
 obtain ⟨W,D,I,S⟩:=c
 unfold bL fx
 simp only [SU,ae]
 by_cases h1:1≤W∧W≤8
 ·rw [decide_eq_true h1,cond_true]
  by_cases h2:1≤D∧D≤16
  ·rw [decide_eq_true h2,cond_true,acg h2.1 h2.2]
   by_cases h3:D=1∨D=2∨D=4∨D=8∨D=16
   ·rw [decide_eq_true h3,cond_true]
    by_cases h4:1≤I∧I≤16
    ·rw [decide_eq_true h4,cond_true]
     congr 1
     apply decide_eq_decide.2
     omega
    ·rw [decide_eq_false h4,cond_false]
     symm
     congr 1
     apply decide_eq_false
     omega
   ·rw [decide_eq_false h3,cond_false]
    symm
    congr 1
    apply decide_eq_false
    omega
  ·rw [decide_eq_false h2,cond_false]
   symm
   congr 1
   apply decide_eq_false
   omega
 ·rw [decide_eq_false h1,cond_false]
  symm
  congr 1
  apply decide_eq_false
  omega
theorem CP {c:CF} (h:fx c=true) {w:Int} (h0:0≤w) (h1:w≤8):eC c w=some (xv c w):=by
 have ht:=dr h h0 h1
 have hm:=bc h
 obtain ⟨W,D,I,S⟩:=c
 simp only [xv] at ht hm ⊢
 unfold eC
 simp only
 rw [eZ (z:=2*I) (by omega),eZ (z:=6+2*I) (by omega),eZ (z:=3+D) (by omega),eZ (z:=w*(3+D)) (by omega),eZ (by omega)]
theorem wi (c:CF):dm c=some (cB c):=by
 unfold dm cB
 try simp only [Prod.eta]
 rw [fj,ae]
 cases h:fx c with
 | false=>rfl
 | true=>
  have hm:=bc h
  rw [Bool.not_true,cond_false,if_pos rfl,CP h (by omega) (by omega),ae]
theorem i7 (f:FR):aG f=some (dd f):=rfl
theorem go (f:FR) (r v:Int):aV f r v=some (dK f r v):=rfl
theorem EX (c : CF) (m : List Int) (f : FR) (op pcs : Int) : en c m f op pcs = some (mz c m f op pcs) := by
  obtain ⟨a0, a1, a2, a3, a4, a5, a6⟩ := f
  unfold en mz
  try simp only [Prod.eta]
  rw [fj, ae]
  cases h : fx c with
  | false => rfl
  | true =>
    rw [cond_true, wi, ae, iJ]
    by_cases h1 : (m.length : Int) = cB c
    · rw [decide_eq_true h1, cond_true, i7, ae, dd]
      simp only
      by_cases h2 : a6 = 0
      · subst h2
        have e : (!((0 : Int) != 0)) = true := rfl
        rw [e, cond_true]
        by_cases h3 : 0 ≤ a2
        · rw [leT h3, cond_true]
          by_cases h4 : a2 < c.1
          · rw [ltT h4, cond_true, iJ]
            by_cases h5 : a0 = op
            · rw [decide_eq_true h5, cond_true]
              by_cases h6 : 0 ≤ a1
              · rw [leT h6, cond_true]
                simp [h3, h4, h5, h6]
              · rw [leF (by omega), cond_false]
                simp [h6]
            · rw [decide_eq_false h5, cond_false]
              simp [h5]
          · rw [ltF (by omega), cond_false]
            simp [h4]
        · rw [leF (by omega), cond_false]
          simp [h3]
      · have e : (!(a6 != 0)) = false := by simp [h2]
        rw [e, cond_false]
        simp [h2]
    · rw [decide_eq_false h1, cond_false]
      simp
theorem E5 (c:CF) (w:Int):eB c w=some (cD c w):=by
 unfold eB cD
 try simp only [Prod.eta]
 rw [fj,ae]
 cases h:fx c with
 | false=>simp
 | true=>
  have hm:=bc h
  rw [Bool.not_true,cond_false,eZ (by omega),SU,ae]
  by_cases h1:0≤w∧w≤c.1 - 1
  ·have ht:=dr h h1.1 (by omega)
   rw [decide_eq_true h1,Bool.not_true,cond_false,CP h (by omega) (by omega),ae,eZ (by omega),if_pos ⟨rfl,by omega,by omega⟩]
  ·rw [decide_eq_false h1,Bool.not_false,cond_true,if_neg (by omega)]
theorem aa6 (m:List Int) (i:Int):fW m i=some (decide (0≤i∧i<m.length)):=by
 unfold fW
 by_cases h:0≤i
 ·simp [h]
 ·simp [h]
theorem lj {m:List Int} {i:Int} (h:0≤i∧i<m.length):idx m i=some (aq m i)∧m[i.toNat]? = some (aq m i):=by
 have h2:i.toNat<m.length:=by omega
 rw [idx,if_pos h.1,aq,if_pos h.1,List.getElem?_eq_getElem h2]
 exact ⟨rfl,rfl⟩
theorem LE {m:List Int} {i:Int} (h:¬ (0≤i∧i<m.length)):aq m i=0:=by
 unfold aq
 split
 ·rw [List.getElem?_eq_none (by omega)]
  rfl
 ·rfl
theorem KW {m:List Int} {i v:Int} (h:¬ (0≤i∧i<m.length)):aW m i v=m:=by
 unfold aW
 split
 ·rw [List.set_eq_of_length_le (by omega)]
 ·rfl
theorem fV {m:List Int} {i v:Int}:(aW m i v).length=m.length:=by
 unfold aW
 split <;> simp
theorem Wm.set {m:List Int} (h:Wm m) (i:Int) {v:Int} (h0:0≤v) (h1:v≤18446744073709551615):Wm (aW m i v):=by
 refine ⟨by rw [fV];exact h.len,fun x hx => ?_⟩
 unfold aW at hx
 split at hx
 ·rcases List.mem_or_eq_of_mem_set hx with hx | rfl
  ·exact h.num x hx
  ·exact ⟨h0,h1⟩
 ·exact h.num x hx
theorem Wm.cas {m:List Int} (h:Wm m) (i o:Int) {v:Int} (h0:0≤v) (h1:v≤18446744073709551615):Wm (pC m i o v).1:=by
 unfold pC
 split
 ·exact h.set i h0 h1
 ·exact h
theorem dG (m:List Int) (i:Int):aD m i=some (aq m i):=by
 unfold aD
 rw [aa6,ae]
 by_cases h:0≤i∧i<m.length
 ·rw [decide_eq_true h,Bool.not_true,cond_false,(lj h).1,ae]
 ·rw [decide_eq_false h,Bool.not_false,cond_true,LE h]
theorem bC {α:Type} {b:Nat} {l:List α} (h:l.length*b≤70368744177664):aL b l=some l:=by
 unfold aL
 have:Nat.ble (l.length*b) 70368744177664=true:=Nat.ble_eq_true_of_le h
 rw [this,cg]
section
variable {m:List Int} (hl:m.length≤1000)
include hl
theorem ia (i v:Int):bo m i v=some (aW m i v):=by
 unfold bo
 rw [bC (by omega),ae,aa6,ae]
 by_cases h:0≤i∧i<m.length
 ·rw [decide_eq_true h,Bool.not_true,cond_false,(lj h).1,ae,decide_eq_true (by omega),cond_true,(lj h).2,ae,ae,aW,if_pos h.1]
 ·rw [decide_eq_false h,Bool.not_false,cond_true,KW h]
theorem Dp (i o v:Int):cR m i o v=some (pC m i o v):=by
 unfold cR pC
 rw [bC (by omega),ae,aa6,ae]
 by_cases h:0≤i∧i<m.length
 ·rw [decide_eq_true h,Bool.not_true,cond_false,(lj h).1,ae,Bm]
  by_cases h2:aq m i=o
  ·rw [decide_eq_true h2,Bool.not_true,cond_false,decide_eq_true (by omega),cond_true,(lj h).2,ae,ae,if_pos ⟨h.1,h.2,h2⟩,aW,if_pos h.1]
  ·rw [decide_eq_false h2,Bool.not_false,cond_true,decide_eq_true (by omega),cond_true,(lj h).2,ae,ae,if_neg (fun hh=>h2 hh.2.2)]
   have:=(lj h).2
   rw [List.getElem?_eq_some_iff] at this
   obtain ⟨h3,h4⟩:=this
   rw [← h4,List.set_getElem_self]
 ·rw [decide_eq_false h,Bool.not_false,cond_true,if_neg (fun hh=>h ⟨hh.1,hh.2.1⟩)]
end
theorem abq {e w:Int} (h0:0≤e) (h1:e≤18446744073709551615):kf e w=some (F4 e w):=by
 unfold kf
 by_cases h2:w<0
 ·rw [ltT h2,cond_true,F4,if_neg (by omega)]
 ·rw [ltF (by omega),cond_false]
  by_cases h3:16≤w
  ·rw [leT h3,cond_true,F4,if_neg (by omega)]
  ·rw [leF (by omega),cond_false,leT (by omega),cond_true,WV (by omega) (by omega),Vn h0 h1 (by omega) (by omega)]
theorem xO {e:Int} (h0:0≤e):du e=some (epB e):=by
 unfold du
 rw [TV h0]
theorem xa {e:Int} (h0:0≤e) (h1:e≤18446744073709551615):cK e=some (mkB e):=by
 unfold cK
 rw [QM h0 h1]
def Wf (f:FR):Prop:=(0≤f.2.2.2.1∧f.2.2.2.1≤18446744073709551615)∧(0≤f.2.2.2.2.1∧f.2.2.2.2.1≤18446744073709551615)∧(0≤f.2.2.2.2.2.1∧f.2.2.2.2.2.1≤18446744073709551615)
theorem AB {c:CF} {m:List Int} {f:FR} {op pcs:Int} (h:mz c m f op pcs=true):fx c=true∧(m.length:Int)=cB c∧f.2.2.2.2.2.2=0∧0≤f.2.2.1∧f.2.2.1<c.1∧f.1=op∧0≤f.2.1∧f.2.1<pcs:=by
 unfold mz at h
 rw [Bool.and_eq_true,Bool.and_eq_true,decide_eq_true_eq,decide_eq_true_eq] at h
 exact ⟨h.1.1,h.1.2,h.2⟩
theorem Vi (c:CF) {m:List Int} (hm:Wm m) (hl:m.length≤1000) {f:FR} (hf:Wf f):gU c m f=some (gB c m f):=by
 have hr:=cy hm 2
 unfold gU gB
 try simp only [Prod.eta]
 rw [bC (by omega),ae,EX,ae]
 cases h:mz c m f 5 5 with
 | false=>rfl
 | true=>
  obtain ⟨_,_,h6,h2,h2',h0,h1,h1'⟩:=AB h
  rw [cond_true,if_neg (by simp)]
  obtain ⟨a0,a1,a2,a3,a4,a5,a6⟩:=f
  simp only at h6 h2 h2' h0 h1 h1' ⊢
  have e:decide (0≤a1∧a1.toNat<5)=true:=by rw [decide_eq_true_eq];omega
  rw [e,cond_true]
  obtain ⟨_,w4,w5⟩:=hf
  simp only at w4 w5
  have hp:a1=0∨a1=1∨a1=2∨a1=3∨a1=4:=by omega
  rcases hp with rfl | rfl | rfl | rfl | rfl
  ·simp [dG,ae]
  ·simp only [dG,ae,xO hr.1,xO w4.1,Bm,go]
   by_cases h5:epB (aq m 2)=epB a4
   ·simp [h5]
   ·simp [h5,dK]
  ·simp only [abq w5.1 w5.2,ae,Dp hl]
   cases hc:(pC m 2 a5 (F4 a5 a2)).2 <;> simp [hc]
  ·simp only [E5,dG,ae,Bm]
   by_cases h5:aq m (cD c a2)=0
   ·simp [h5]
   ·simp [h5]
  ·simp only [E5,ae,ia hl,go]
   simp [dK]
end Go.Ab
set_option linter.unusedVariables false
namespace Go.Ab
theorem mn {m:List Int} {i:Int} (v:Int) (h0:0≤i) (h1:i<m.length):aq (aW m i v) i=v:=by
 unfold aq aW
 rw [if_pos h0,if_pos h0,List.getElem?_set_self (by omega)]
 rfl
theorem fw {m:List Int} {i j:Int} (v:Int) (h:i≠j):aq (aW m i v) j=aq m j:=by
 unfold aq aW
 by_cases h0:0≤i
 ·by_cases h1:0≤j
  ·rw [if_pos h1,if_pos h0,List.getElem?_set_ne (by omega),if_pos h1]
  ·rw [if_neg h1,if_neg h1]
 ·rw [if_neg h0]
structure OkB (c:CF) (m:List Int) (w:Int):Prop where
 may:fx c=true
 len:(m.length:Int)=cB c
 low:0≤w
 high:w<c.1
theorem OkB.size {c:CF} {m:List Int} {w:Int} (h:OkB c m w):(m.length:Int)=xv c c.1∧12≤m.length∧m.length≤190:=by
 have hm:=bc h.may
 have ht:=dr h.may (w:=c.1) (by omega) (by omega)
 have hl:=h.len
 rw [cB,if_pos h.may] at hl
 obtain ⟨W,D,I,S⟩:=c
 simp only [xv] at *
 have:1*(3+D)≤W*(3+D):=Int.mul_le_mul_of_nonneg_right (by omega) (by omega)
 omega
theorem OkB.park {c:CF} {m:List Int} {w:Int} (h:OkB c m w):cD c w=xv c w+2∧2<cD c w∧cD c w<m.length:=by
 have hm:=bc h.may
 have hs:=h.size
 have hl:=h.low
 have hh:=h.high
 have e:cD c w=xv c w+2:=by rw [cD,if_pos ⟨h.may,h.low,h.high⟩]
 have ht:=dr h.may hl (by omega)
 rw [e]
 obtain ⟨W,D,I,S⟩:=c
 simp only [xv] at *
 have h2:(w+1)*(3+D)≤W*(3+D):=Int.mul_le_mul_of_nonneg_right (by omega) (by omega)
 have h3:(w+1)*(3+D)=w*(3+D)+(3+D):=by rw [Int.add_mul,Int.one_mul]
 exact ⟨trivial,by omega,by omega⟩
theorem JS {c:CF} {m:List Int} {v w:Int} (hv:OkB c m v) (hw:OkB c m w) (h:v≠w):cD c v≠cD c w:=by
 have hm:=bc hv.may
 rw [hv.park.1,hw.park.1]
 obtain ⟨W,D,I,S⟩:=c
 simp only [xv] at *
 intro e
 have e2:v*(3+D)=w*(3+D):=by omega
 exact h (Int.eq_of_mul_eq_mul_right (by omega) e2)
theorem OkB.store {c:CF} {m:List Int} {w:Int} (h:OkB c m w) (i v:Int):OkB c (aW m i v) w:=⟨h.may,by rw [fV];exact h.len,h.low,h.high⟩
section
variable {c:CF} {m:List Int} {w a3 a4 a5:Int} (h:OkB c m w)
include h
end
theorem lc (n:Nat) {w:Int} (hw:0≤w):gk (n:Int) w=n.testBit w.toNat:=by
 have h2:((2 ^ w.toNat:Nat):Int)=(2:Int) ^ w.toNat:=by rw [Int.natCast_pow];rfl
 rw [gk,Nat.testBit_eq_decide_div_mod_eq,← h2]
 have:((n:Int)/((2 ^ w.toNat:Nat):Int))%2=((n/2 ^ w.toNat%2:Nat):Int):=by rw [Int.natCast_emod,Int.natCast_ediv];rfl
 rw [this]
 congr 1
 apply propext
 omega
theorem U5 {n:Nat} (hn:n<18446744073709551616) {w:Int} (hw:0≤w) (hw2:w<16):F4 (n:Int) w=((n ||| 2 ^ w.toNat:Nat):Int):=by
 have hp:(2:Nat) ^ w.toNat≤2 ^ 15:=Nat.pow_le_pow_right (by decide) (by omega)
 have h2:((2 ^ w.toNat:Nat):Int)=(2:Int) ^ w.toNat:=by rw [Int.natCast_pow];rfl
 rw [← Vn (by omega) (by omega) hw hw2,← h2,orU hn (by omega)]
theorem Vp {e w v:Int} (h0:0≤e) (h1:e≤18446744073709551615) (hw:0≤w) (hw2:w<16) (hv:0≤v):gk (F4 e w) v=(decide (v=w)||gk e v):=by
 obtain ⟨n,rfl⟩:∃ n:Nat,e=n:=⟨e.toNat,by omega⟩
 rw [U5 (by omega) hw hw2,lc _ hv,lc _ hv,Nat.testBit_or,Nat.testBit_two_pow]
 by_cases e:v=w
 ·subst e;simp
 ·have:¬ w.toNat=v.toNat:=by omega
  simp [e,this]
theorem ny {e v:Int} (h0:0≤e) (hv:0≤v) (hv2:v<16):gk (mkB e) v=gk e v:=by
 obtain ⟨n,rfl⟩:∃ n:Nat,e=n:=⟨e.toNat,by omega⟩
 have:mkB (n:Int)=((n%2 ^ 16:Nat):Int):=by unfold mkB;omega
 rw [this,lc _ hv,lc _ hv,Nat.testBit_mod_two_pow]
 have:v.toNat<16:=by omega
 simp [this]
theorem SW (op w:Int):aF op w 0=some (op,0,w,0,0,0,0):=rfl
theorem wf0 {op pc w:Int} {r:Int}:Wf (op,pc,w,0,0,0,r):=by simp [Wf]
end Go.Ab
set_option linter.unusedVariables false
namespace Go.Ab
def uQ (e m:Int):Int:=e%281474976710656*65536+m%65536
def LD (x:Int):Nat→Nat→Int
 | _,0 => -1
 | i,d+1=>if gk x i=true then (i:Int) else LD x (i+1) d
def uP (x:Int):Int:=LD x 0 16
def Da (x:Int):Int:=if uP x<0 then 0 else x - 2 ^ (uP x).toNat
def As (x:Int):Int:=uQ (epB x+1) (Da (mkB x))
def UA (x:Int):Int:=uQ (epB x+1) 0
def Gw (c:CF) (m:List Int) (w:Int):List Int:=aW m (cD c w) 1
def pL (c:CF) (m:List Int) (f:FR):Bool:=decide (f.1=6∨f.1=7)&&fx c&&decide ((m.length:Int)=cB c)&&decide (f.2.2.2.2.2.2=0∧0≤f.2.1∧f.2.1≤2)
def fD (c:CF) (m:List Int) (f:FR):List Int×FR:=
 if pL c m f=false then (m,f)
 else if f.2.1=0 then (m,f.1,1,f.2.2.1,f.2.2.2.1,aq m 2,f.2.2.2.2.2)
 else if f.2.1=1 then
  (if aq m 2=f.2.2.2.2.1 then
   (aW m 2 (if f.1=6 then As f.2.2.2.2.1 else UA f.2.2.2.2.1),
    if mkB f.2.2.2.2.1=0 then dK f 3 0 else (f.1,2,f.2.2.1,f.2.2.2.1,f.2.2.2.2.1,(if f.1=6 then (if uP (mkB f.2.2.2.2.1)<0 then 0 else uP (mkB f.2.2.2.2.1)) else mkB f.2.2.2.2.1),f.2.2.2.2.2.2))
  else (m,f.1,0,f.2.2))
 else if f.1=6 then (Gw c m (if f.2.2.2.2.2.1<8 then f.2.2.2.2.2.1 else -1),dK f 1 f.2.2.2.2.2.1)
 else (Gw c m (uP f.2.2.2.2.2.1),if Da (mkB f.2.2.2.2.2.1)=0 then dK f 1 (mkB f.2.2.2.2.1) else (f.1,2,f.2.2.1,f.2.2.2.1,f.2.2.2.2.1,Da (mkB f.2.2.2.2.2.1),f.2.2.2.2.2.2))
def NW (f:FR) (w:Int):Bool := !(dd f)&&decide (f.2.1=2∧0≤w∧w<16)&&(decide (f.1=6∧f.2.2.2.2.2.1=w)||(decide (f.1=7)&&gk f.2.2.2.2.2.1 w))
theorem wX (x:Int):∀ (d i:Nat),(LD x i d = -1∧∀ j:Nat,i≤j→j<i+d→gk x j=false)∨(∃ j:Nat,LD x i d=j∧i≤j∧j<i+d∧gk x j=true∧∀ l:Nat,i≤l→l<j→gk x l=false)
 | 0,i => .inl ⟨rfl,fun j h1 h2=>by omega⟩
 | d+1,i=>by
  by_cases h:gk x i=true
  ·exact .inr ⟨i,by rw [LD,if_pos h],by omega,by omega,h,fun l h1 h2=>by omega⟩
  ·have e:LD x i (d+1)=LD x (i+1) d:=by rw [LD,if_neg h]
   rw [e]
   rcases wX x d (i+1) with ⟨h1,h2⟩ | ⟨j,h1,h2,h3,h4,h5⟩
   ·refine .inl ⟨h1,fun j h3 h4 => ?_⟩
    by_cases e2:i=j
    ·subst e2;simpa using h
    ·exact h2 j (by omega) (by omega)
   ·refine .inr ⟨j,h1,by omega,by omega,h4,fun l h6 h7 => ?_⟩
    by_cases e2:i=l
    ·subst e2;simpa using h
    ·exact h5 l (by omega) h7
theorem pX (x:Int):(uP x = -1∧∀ j:Nat,j<16→gk x j=false)∨(∃ j:Nat,uP x=j∧j<16∧gk x j=true∧∀ l:Nat,l<j→gk x l=false):=by
 rcases wX x 16 0 with ⟨h1,h2⟩ | ⟨j,h1,h2,h3,h4,h5⟩
 ·exact .inl ⟨h1,fun j h=>h2 j (by omega) (by omega)⟩
 ·exact .inr ⟨j,h1,by omega,h4,fun l h=>h5 l (by omega) h⟩
theorem Sm {a w:Nat}:(2 ^ (w+1)*a+2 ^ w) &&& (2 ^ (w+1)*a+(2 ^ w - 1))=2 ^ (w+1)*a:=by
 have hp:0<2 ^ w:=Nat.pow_pos (by decide)
 have hs:2 ^ (w+1)=2*2 ^ w:=by rw [Nat.pow_succ,Nat.mul_comm]
 apply Nat.eq_of_testBit_eq
 intro j
 have e0:2 ^ (w+1)*a=2 ^ (w+1)*a+0:=rfl
 rw [Nat.testBit_and,Nat.testBit_two_pow_mul_add a (by omega),Nat.testBit_two_pow_mul_add a (by omega),e0,Nat.testBit_two_pow_mul_add a (by omega)]
 by_cases h:j<w+1
 ·rw [if_pos h,if_pos h,if_pos h,Nat.testBit_two_pow,Nat.testBit_two_pow_sub_one,Nat.zero_testBit]
  by_cases h2:w=j
  ·subst h2;simp
  ·simp [h2]
 ·rw [if_neg h,if_neg h,if_neg h,Bool.and_self]
theorem lC {x:Int} (h0:0≤x) (h1:x<65536):(x=0∧uP x = -1)∨(∃ a w:Nat,x=((2 ^ (w+1)*a+2 ^ w:Nat):Int)∧uP x=w∧w<16):=by
 obtain ⟨n,rfl⟩:∃ n:Nat,x=n:=⟨x.toNat,by omega⟩
 have hb:∀ j:Nat,gk (n:Int) (j:Int)=n.testBit j:=fun j=>lc n (by omega)
 rcases pX (n:Int) with ⟨h2,h3⟩ | ⟨w,h2,h3,h4,h5⟩
 ·refine .inl ⟨?_,h2⟩
  have:n=0:=by
   apply Nat.eq_of_testBit_eq
   intro j
   rw [Nat.zero_testBit]
   by_cases hj:j<16
   ·rw [← hb];exact h3 j hj
   ·exact Nat.testBit_lt_two_pow (Nat.lt_of_lt_of_le (show n<2 ^ 16 by omega) (Nat.pow_le_pow_right (by decide) (by omega)))
  omega
 ·refine .inr ⟨n/2 ^ (w+1),w,?_,h2,h3⟩
  congr 1
  have hm:n%2 ^ (w+1)=2 ^ w:=by
   apply Nat.eq_of_testBit_eq
   intro j
   rw [Nat.testBit_mod_two_pow,Nat.testBit_two_pow]
   by_cases hj:j<w
   ·have:=h5 j hj
    rw [hb] at this
    have h6:¬ w=j:=by omega
    simp [this,h6]
   ·by_cases hj2:w=j
    ·subst hj2
     rw [hb] at h4
     simp [h4]
    ·have h6:¬ j<w+1:=by omega
     simp [h6,hj2]
  have:=Nat.div_add_mod n (2 ^ (w+1))
  omega
theorem Zo {x:Int} (h0:0≤x) (h1:x<65536):uA .u64 x (IntKind.u64.wrap (x - 1))=Da x:=by
 unfold Da
 rcases lC h0 h1 with ⟨rfl,h2⟩ | ⟨a,w,rfl,h2,h3⟩
 ·rw [h2]
  decide +kernel
 ·have hp:0<2 ^ w:=Nat.pow_pos (by decide)
  have e:((2 ^ (w+1)*a+2 ^ w:Nat):Int) - 1=((2 ^ (w+1)*a+(2 ^ w - 1):Nat):Int):=by
   generalize 2 ^ (w+1)*a=y
   generalize 2 ^ w=z at hp
   omega
  rw [h2,if_neg (by omega),Int.toNat_natCast,e]
  have hlt:2 ^ (w+1)*a+2 ^ w<65536:=by omega
  rw [gA (by omega) (by generalize 2 ^ (w+1)*a=y at hlt ⊢;generalize 2 ^ w=z at hlt ⊢;omega),aaL (by omega) (by generalize 2 ^ (w+1)*a=y at hlt ⊢;generalize 2 ^ w=z at hlt ⊢;omega),Sm]
  have hw:((2 ^ w:Nat):Int)=(2:Int) ^ w:=by rw [Int.natCast_pow];rfl
  rw [← hw]
  generalize 2 ^ (w+1)*a=y
  generalize (2:Nat) ^ w=z
  omega
theorem IE {x:Int} (h0:0≤x) (h1:x<65536):0≤Da x∧Da x≤x:=by
 unfold Da
 rcases lC h0 h1 with ⟨rfl,h2⟩ | ⟨a,w,rfl,h2,h3⟩
 ·rw [h2];decide
 ·rw [h2,if_neg (by omega),Int.toNat_natCast]
  have hw:((2 ^ w:Nat):Int)=(2:Int) ^ w:=by rw [Int.natCast_pow];rfl
  rw [← hw]
  generalize 2 ^ (w+1)*a=y
  generalize (2:Nat) ^ w=z
  omega
theorem Zq {e m:Int} (h0:0≤e) (m0:0≤m) (m1:m≤18446744073709551615):orI .u64 (Dm .u64 e 16) (uA .u64 m 65535)=uQ e m:=by
 rw [QM m0 m1]
 have hs:Dm .u64 e 16=((2 ^ 16*(e.toNat%281474976710656):Nat):Int):=by
  unfold Dm
  have e1:min (16:Int).toNat IntKind.u64.bits=16:=by decide
  rw [e1]
  simp [IntKind.wrap,IntKind.bits,IntKind.signed]
  omega
 have hm:mkB m=((m.toNat%65536:Nat):Int):=by unfold mkB;omega
 rw [hs,hm,orU (by omega) (by omega),← Nat.two_pow_add_eq_or_of_lt (by omega),uQ]
 omega
end Go.Ab
set_option linter.unusedVariables false
namespace Go.Ab
theorem wR (c : CF) (m : List Int) (a1 a6 : Int) : (bif fx c then bif decide ((m.length : Int) = cB c) then bif !(a6 != 0) then bif decide (0 ≤ a1) then some (decide (a1 ≤ 2)) else some false else some false else some false else some false)
    = some (fx c && decide ((m.length : Int) = cB c) && decide (a6 = 0 ∧ 0 ≤ a1 ∧ a1 ≤ 2)) := by
  cases fx c with
  | false => rfl
  | true =>
    rw [cond_true]
    by_cases h1 : (m.length : Int) = cB c
    · rw [decide_eq_true h1, cond_true]
      by_cases h2 : a6 = 0
      · by_cases h3 : 0 ≤ a1
        · simp [h2, h3]
        · simp [h2, h3]
      · have : (a6 != 0) = true := by simp [h2]
        simp [h2, this]
    · rw [decide_eq_false h1]
      rfl
theorem TX (c:CF) (m:List Int) (f:FR):ig c m f=some (pL c m f):=by
 obtain ⟨a0,a1,a2,a3,a4,a5,a6⟩:=f
 unfold ig pL
 simp only [Prod.eta,iJ,fj,wi,i7,ae,dd]
 by_cases h1:a0=6
 ·rw [decide_eq_true h1,cond_true,wR,decide_eq_true (show a0=6∨a0=7 from .inl h1),Bool.true_and]
 ·rw [decide_eq_false h1,cond_false]
  by_cases h2:a0=7
  ·rw [decide_eq_true h2,cond_true,wR,decide_eq_true (show a0=6∨a0=7 from .inr h2),Bool.true_and]
  ·rw [decide_eq_false h2,cond_false,decide_eq_false (by omega)]
   rfl
theorem wE {e:Int} (h0:0≤e):0≤mkB e∧mkB e<65536:=by unfold mkB;omega
theorem PO {e:Int} (h0:0≤e) (h1:e≤18446744073709551615):0≤epB e∧epB e≤281474976710655:=by unfold epB;omega
theorem QD {e m:Int} (h0:0≤e) (m0:0≤m) (m1:m≤18446744073709551615):fS e m=some (uQ e m):=by
 unfold fS
 rw [Zq h0 m0 m1]
theorem nD (e m:Int):0≤uQ e m∧uQ e m≤18446744073709551615:=by unfold uQ;omega
theorem Lt (x:Int) : -1≤uP x∧uP x<16:=by
 rcases pX x with ⟨h,_⟩ | ⟨j,h,h2,_⟩ <;> omega
theorem Fi {k:Nat} (hk:100≤k) {x:Int} (h0:0≤x) (h1:x≤18446744073709551615):fq k x=some (uP x):=by
 have key:∀ (d i n:Nat),i+d=16→d<n→co k x n (i:Int)=some (LD x i d):=by
  intro d
  induction d with
  | zero=>
   intro i n hi hn
   obtain ⟨n,rfl⟩:=gf hn
   rw [co,ltF (by omega),cond_false]
   rfl
  | succ d ih=>
   intro i n hi hn
   obtain ⟨n,rfl⟩:=gf hn
   rw [co,ltT (by omega),cond_true,leT (by omega),cond_true,aeN h0 h1 (by omega) (by omega),LD]
   cases hb:gk x i with
   | true=>rw [cond_true,if_pos rfl]
   | false=>rw [cond_false,if_neg (by simp),eU (by omega),ih (i+1) n (by omega) (by omega)]
 exact key 16 0 (k+9) rfl (by omega)
theorem ZD {k:Nat} (hk:100≤k) {e:Int} (h0:0≤e) (h1:e≤18446744073709551615):ip k e=some (As e,uP (mkB e)):=by
 have hm:=wE h0
 have he:=PO h0 h1
 have hc:=IE hm.1 hm.2
 unfold ip
 rw [xa h0 h1,ae,xO h0,ae,gA (z:=epB e+1) (by omega) (by omega),Zo hm.1 hm.2,QD (by omega) hc.1 (by omega),ae,Fi hk hm.1 (by omega),ae]
 rfl
theorem Yb {e:Int} (h0:0≤e) (h1:e≤18446744073709551615):gT e=some (UA e):=by
 have he:=PO h0 h1
 unfold gT
 rw [xO h0,ae,gA (z:=epB e+1) (by omega) (by omega),QD (by omega) (by decide) (by decide),ae]
 rfl
theorem Ot {k:Nat} (hk:100≤k) {e:Int} (h0:0≤e) (h1:e≤18446744073709551615):eI k e=some (As e,if uP (mkB e)<0 then 0 else uP (mkB e)):=by
 have hl:=Lt (mkB e)
 unfold eI
 rw [ZD hk h0 h1,ae]
 simp only
 by_cases h:uP (mkB e)<0
 ·rw [ltT h,cond_true,if_pos h];rfl
 ·rw [ltF (by omega),cond_false,if_neg h,gA (by omega) (by omega)]
theorem OK {e:Int} (h0:0≤e) (h1:e≤18446744073709551615):eL e=some (UA e,mkB e):=by
 unfold eL
 rw [Yb h0 h1,ae,xa h0 h1,ae]
theorem IT {k:Nat} (hk:100≤k) (c:CF) {m:List Int} (hl:m.length≤1000) (w:Int):eX k c m [w]=some (Gw c m w):=by
 unfold eX
 obtain ⟨k,rfl⟩:∃ j,k=j+2:=⟨k - 2,by omega⟩
 have f1:∀ k:Nat,k+2+12=(k+12+1)+1:=fun k=>rfl
 have i1:IntKind.i64.wrap (0+1)=1:=by decide
 have x0:idx [w] 0=some w:=rfl
 rw [f1,dL,ltT (by simp),cond_true,x0,ae]
 try simp only [Prod.eta]
 rw [E5,ae,ia hl,ae,i1,dL,ltF (by simp),cond_false]
 rfl
theorem Sp {k:Nat} (hk:1000≤k) (c:CF) {m:List Int} (hm:Wm m) (hl:m.length≤1000) {f:FR} (hf:Wf f):fJ k c m f=some (fD c m f):=by
 have hr:=cy hm 2
 unfold fJ fD
 try simp only [Prod.eta]
 rw [bC (by omega),ae,TX,ae]
 cases h:pL c m f with
 | false=>rfl
 | true=>
  rw [Bool.not_true,cond_false,if_neg (by simp)]
  obtain ⟨a0,a1,a2,a3,a4,a5,a6⟩:=f
  obtain ⟨_,w4,w5⟩:=hf
  simp only at w4 w5
  unfold pL at h
  rw [Bool.and_eq_true,Bool.and_eq_true,Bool.and_eq_true,decide_eq_true_eq,decide_eq_true_eq,decide_eq_true_eq] at h
  obtain ⟨⟨⟨h0,hmay⟩,hlen⟩,h6,h1,h2⟩:=h
  simp only at h0 h6 h1 h2 ⊢
  have hlen2:(2:Int)<m.length:=by
   have hmc:=bc hmay
   have ok:OkB c m 0:=⟨hmay,hlen,by decide,by omega⟩
   have:=ok.size
   omega
  by_cases p0:a1=0
  ·subst p0
   simp [dG,ae]
  ·by_cases p1:a1=1
   ·subst p1
    have e1:∀ v,pC m 2 a4 v=if aq m 2=a4 then (aW m 2 v,true) else (m,false):=by
     intro v
     unfold pC
     by_cases hh:aq m 2=a4
     ·rw [if_pos hh,if_pos ⟨by decide,hlen2,hh⟩]
     ·rw [if_neg hh,if_neg (fun x=>hh x.2.2)]
    rcases h0 with rfl | rfl
    ·simp only [iJ,decide_eq_true rfl,decide_eq_false p0,cond_true,cond_false,Ot (k:=k+2) (by omega) w4.1 w4.2,ae,Dp hl,e1,xa w4.1 w4.2,go]
     by_cases hh:aq m 2=a4
     ·by_cases h3:mkB a4=0
      ·simp [hh,h3,dK]
      ·simp [hh,h3]
     ·simp [hh]
    ·simp only [iJ,decide_eq_true rfl,decide_eq_false p0,decide_eq_false (show ¬ ((7:Int)=6) by decide),cond_true,cond_false,OK w4.1 w4.2,ae,Dp hl,e1,xa w4.1 w4.2,go]
     by_cases hh:aq m 2=a4
     ·by_cases h3:mkB a4=0
      ·simp [hh,h3,dK]
      ·simp [hh,h3]
     ·simp [hh]
   ·rcases h0 with rfl | rfl
    ·simp only [iJ,decide_eq_true rfl,decide_eq_false p0,decide_eq_false p1,cond_true,cond_false]
     by_cases h3:a5<8
     ·rw [ltT h3,cond_true,IT (by omega) c hl,ae,go,ae,eZ (by omega)]
      simp [p0,p1,h3,dK]
     ·rw [ltF (by omega),cond_false,IT (by omega) c hl,ae,go,ae]
      simp [p0,p1,h3,dK]
    ·have hk5:=wE w5.1
     simp only [iJ,decide_eq_false (show ¬ ((7:Int)=6) by decide),decide_eq_false p0,decide_eq_false p1,cond_false]
     rw [Fi (by omega) w5.1 w5.2,ae,IT (by omega) c hl,ae,xa w5.1 w5.2,ae,Zo hk5.1 hk5.2,xa w4.1 w4.2,ae]
     simp only [go,ae]
     by_cases h3:Da (mkB a5)=0
     ·simp [p0,p1,h3,dK]
     ·have h4:mkB a5≠0:=fun e=>h3 (by rw [e];decide)
      simp [p0,p1,h3,h4]
      omega
end Go.Ab
namespace Go.Ab
open Go.WideShapes
theorem rY:maxLen≤9223372036854775807:=by decide
theorem aeH {l:List (Int×List Int)} (hm:l.length≤maxLen) (h:∀ x ∈ l,i64 x.1∧(∀ n ∈ x.2,i64 n)∧x.2.length≤maxLen):Wt l:=
 ⟨Nat.le_trans hm rY,fun x hx=>Nat.le_trans (h x hx).2.2 rY⟩
theorem Zk {α:Type} {l:List α} (hm:l.length≤maxLen):l.length≤9223372036854775807:=Nat.le_trans hm rY
theorem HU {P:Program} {w:World} {r:Reach} {base:Nat} {t:TypeId} {v:Value} {fs:Array Field} (ht:P.underlying t=some (.struct fs)) (h:Value.okWide P w r base t v):∃ cs,v = .agg cs:=by
 simp only [Value.okWide,ht] at h
 cases v <;> simp_all
theorem Cells.agg {w:World} {cs:Array Value} {vs:List V} (c:Cells w (Value.agg cs).cells.toList vs):RelV (OP w) [] (.agg vs) (.agg cs):=by
 have hl:vs.length=cs.toList.length:=c.len
 refine .agg vs cs (by simpa using hl.symm) c.ones fun i x hx => ?_
 have hi:i<vs.length:=(List.getElem?_eq_some_iff.1 hx).1
 have hi2:i<cs.size:=by rw [hl] at hi;simpa using hi
 have h1:cs.toList[i]? = some cs[i]:=by simp [hi2]
 have:=c.rel i x cs[i] hx h1
 simpa [Array.getD,hi2] using this
end Go.Ab
namespace Go.Ab
open Go.WideShapes
def u64 (n:Int):Prop:=(Lit.int .u64 n).wf=true
def QL (c:Int×Int×Int×Int):Prop:=i64 c.1∧i64 c.2.1∧i64 c.2.2.1∧i64 c.2.2.2
theorem G0 {P:Program} {t ti:TypeId} {f0 f1 f2 f3:Field} {vs:List V} (he:P.underlying t=some (.struct #[f0,f1,f2,f3])) (h0:f0.type=ti) (h1:f1.type=ti) (h2:f2.type=ti) (h3:f3.type=ti) (o0:f0.offset=0) (o1:f1.offset=1) (o2:f2.offset=2) (o3:f3.offset=3) (hi:P.underlying ti=some (.int .i64)) (ci:P.cellsOf ti=1) (ce:P.cellsOf t=4) (h:Shape P t vs) :
  ∃ x:Int×Int×Int×Int,vs=KL x∧QL x:=by
 obtain ⟨a,b⟩:=lI he h
 have s0:=b 0 f0 rfl
 rw [h0,o0,ci,List.drop_zero] at s0
 have s1:=b 1 f1 rfl
 rw [h1,o1,ci] at s1
 have s2:=b 2 f2 rfl
 rw [h2,o2,ci] at s2
 have s3:=b 3 f3 rfl
 rw [h3,o3,ci] at s3
 rw [ce] at a
 obtain ⟨n0,e0,w0⟩:=fp hi s0
 obtain ⟨n1,e1,w1⟩:=fp hi s1
 obtain ⟨n2,e2,w2⟩:=fp hi s2
 obtain ⟨n3,e3,w3⟩:=fp hi s3
 match vs,a with
 | [x0,x1,x2,x3],_=>
  simp at e0 e1 e2 e3
  subst e0 e1 e2 e3
  exact ⟨(n0,n1,n2,n3),rfl,w0,w1,w2,w3⟩
theorem D9 {P:Program} {t s i:TypeId} {vs:List V} (ht:P.underlying t=some (.slice s)) (hs:P.underlying s=some (.slice i)) (hi:P.underlying i=some (.int .i64)) (h:Shape P t vs) :
  ∃ l:List (List Int),vs=[.ro (l.map cO)]∧(∀ x ∈ l,(∀ n ∈ x,i64 n)∧x.length≤maxLen)∧l.length≤maxLen:=by
 obtain ⟨rows,rfl,hr,hm⟩:=kU ht h
 obtain ⟨l,rfl,hl⟩:=kK (enc:=cO) (Q:=fun x=>(∀ n ∈ x,i64 n)∧x.length≤maxLen) (rows:=rows) (fun r hx=>by
  obtain ⟨l,e,w,m⟩:=u6 hs hi (hr r hx)
  exact ⟨l,e,w,m⟩)
 exact ⟨l,rfl,hl,by simpa using hm⟩
theorem WX {n:Int} (h:u64 n):0≤n∧n≤18446744073709551615:=by
 have h1:IntKind.min .u64=0:=by decide
 have h2:IntKind.max .u64=18446744073709551615:=by decide
 simpa [u64,Lit.wf,h1,h2] using h
end Go.Ab
namespace Go.Ab
open Go.WideShapes
end Go.Ab
set_option linter.unusedVariables false
namespace Go.Ab
theorem Rr {x w:Int} (h0:0≤x) (h1:x<65536) (hw:0≤w) (hw2:w<16):gk (Da x) w=(gk x w&&decide (w≠uP x)):=by
 obtain ⟨v,rfl⟩:∃ v:Nat,w=v:=⟨w.toNat,by omega⟩
 unfold Da
 rcases lC h0 h1 with ⟨rfl,h2⟩ | ⟨a,l,rfl,h2,h3⟩
 ·rw [h2,if_pos (by decide)]
  have:=lc 0 (w:=(v:Int)) (by omega)
  rw [Nat.zero_testBit] at this
  have e:((0:Nat):Int)=0:=rfl
  rw [e] at this
  rw [this]
  rfl
 ·have hp:0<2 ^ l:=Nat.pow_pos (by decide)
  have hs:2 ^ (l+1)=2*2 ^ l:=by rw [Nat.pow_succ,Nat.mul_comm]
  rw [h2,if_neg (by omega),Int.toNat_natCast]
  have hw:((2 ^ l:Nat):Int)=(2:Int) ^ l:=by rw [Int.natCast_pow];rfl
  rw [← hw]
  have e:((2 ^ (l+1)*a+2 ^ l:Nat):Int) - ((2 ^ l:Nat):Int)=((2 ^ (l+1)*a+0:Nat):Int):=by
   generalize 2 ^ (l+1)*a=y
   generalize (2:Nat) ^ l=z
   omega
  rw [e,lc _ (by omega),lc _ (by omega),Int.toNat_natCast,Nat.testBit_two_pow_mul_add a (by omega),Nat.testBit_two_pow_mul_add a (by omega)]
  by_cases h:v<l+1
  ·rw [if_pos h,if_pos h,Nat.testBit_two_pow,Nat.zero_testBit]
   by_cases h4:l=v
   ·subst h4;simp
   ·simp [h4]
  ·rw [if_neg h,if_neg h]
   have:(v:Int)≠(l:Int):=by omega
   simp [this]
theorem Vr {x:Int} (h:0≤uP x):gk x (uP x)=true:=by
 rcases pX x with ⟨h1,_⟩ | ⟨j,h1,_,h2,_⟩
 ·omega
 ·rw [h1];exact h2
end Go.Ab
set_option linter.unusedVariables false
namespace Go.Ab
def uZ (c:CF) (x:Int):Int:=if fx c=true then 6+x%c.2.2.1 else -1
def Pk (c:CF) (x:Int):Int:=if fx c=true then 6+c.2.2.1+x%c.2.2.1 else -1
def BW (c:CF) (x:Int):Int:=x/c.2.2.1*2%18446744073709551616
def Fg (a b:Int):Int:=IntKind.i64.wrap (IntKind.u64.wrap (a - b))
def mj (a b:Int):Int:=(a+b)%18446744073709551616
def pj (c:CF) (m:List Int) (f:FR) (op:Int):Bool:=fx c&&decide ((m.length:Int)=cB c)&&decide (f.2.2.2.2.2.2=0∧f.1=op∧0≤f.2.1∧f.2.1<5)
def Ft (c:CF) (m:List Int) (f:FR):List Int×FR:=
 if pj c m f 3=false then (m,f)
 else if f.2.1=0 then (m,f.1,1,f.2.2.1,f.2.2.2.1,aq m 5,f.2.2.2.2.2)
 else if f.2.1=1 then
  (if aq m (uZ c f.2.2.2.2.1)=BW c f.2.2.2.2.1 then (m,f.1,2,f.2.2.1,f.2.2.2.1,f.2.2.2.2.1,aq m (uZ c f.2.2.2.2.1),f.2.2.2.2.2.2)
  else if Fg (aq m (uZ c f.2.2.2.2.1)) (BW c f.2.2.2.2.1)<0 then (m,dK f 2 f.2.2.2.1)
  else (m,f.1,0,f.2.2.1,f.2.2.2.1,f.2.2.2.2.1,aq m (uZ c f.2.2.2.2.1),f.2.2.2.2.2.2))
 else if f.2.1=2 then (let r:=pC m 5 f.2.2.2.2.1 (mj f.2.2.2.2.1 1);(r.1,f.1,if r.2=true then 3 else 0,f.2.2))
 else if f.2.1=3 then (aW m (Pk c f.2.2.2.2.1) f.2.2.2.1,f.1,4,f.2.2)
 else (aW m (uZ c f.2.2.2.2.1) (mj (BW c f.2.2.2.2.1) 1),dK f 1 f.2.2.2.1)
def CA (c:CF) (x:Int):Int:=mj (BW c x) 1
def Gp (c:CF) (m:List Int) (f:FR):List Int×FR:=
 if pj c m f 4=false then (m,f)
 else if f.2.1=0 then (m,f.1,1,f.2.2.1,f.2.2.2.1,aq m 4,f.2.2.2.2.2)
 else if f.2.1=1 then
  (if Fg (aq m (uZ c f.2.2.2.2.1)) (CA c f.2.2.2.2.1)=0 then (m,f.1,2,f.2.2.1,f.2.2.2.1,f.2.2.2.2.1,aq m (uZ c f.2.2.2.2.1),f.2.2.2.2.2.2)
  else if Fg (aq m (uZ c f.2.2.2.2.1)) (CA c f.2.2.2.2.1)<0 then (m,dK f 3 0)
  else (m,f.1,0,f.2.2.1,f.2.2.2.1,f.2.2.2.2.1,aq m (uZ c f.2.2.2.2.1),f.2.2.2.2.2.2))
 else if f.2.1=2 then (let r:=pC m 4 f.2.2.2.2.1 (mj f.2.2.2.2.1 1);(r.1,f.1,if r.2=true then 3 else 0,f.2.2))
 else if f.2.1=3 then (m,f.1,4,f.2.2.1,aq m (Pk c f.2.2.2.2.1),f.2.2.2.2)
 else (aW m (uZ c f.2.2.2.2.1) (mj (CA c f.2.2.2.2.1) 1),dK f 1 f.2.2.2.1)
def rS (c:CF) (m:List Int) (f:FR):List Int×FR:=if f.1=3 then Ft c m f else if f.1=4 then Gp c m f else (m,f)
def xb (c:CF) (m:List Int) (f:FR):List Int×FR:=if f.1=5 then gB c m f else if f.1=6∨f.1=7 then fD c m f else (m,f)
def fB (c:CF) (m:List Int) (f:FR):List Int×FR:=if f.1=3∨f.1=4 then rS c m f else xb c m f
abbrev SB:=Int×List Int×FR
def dB:FR:=(0,0,0,0,0,0,0)
abbrev EV:=Int×Int×Int
def rB (l:List Int):Int:=l.headD 0
def oQ (c:CF) (t:List (Int×List Int)) (m:List Int) (x:SB):Bool:=fx c&&decide ((m.length:Int)=cB c)&&uM t&&decide (0≤x.1∧x.1<6∧x.2.1≠[]∧0≤rB x.2.1∧rB x.2.1<t.length)
def lA (c:CF) (t:List (Int×List Int)) (m:List Int) (i:Int) (x:SB):List Int×SB×List EV:=
 if oQ c t m x=false then (m,x,[])
 else if x.1=0 then (if aq m 3≠0 then (m,(0,x.2.1.tail,dB),[(1,rB x.2.1,i)]) else (m,(1,x.2),[]))
 else if x.1=1 then (aW m 0 (mj (aq m 0) 1),(2,x.2.1,(3,0,i,rB x.2.1,0,0,0)),[])
 else if x.1=2 then (let r:=fB c m x.2.2;
  if dd r.2=false then (r.1,(2,x.2.1,r.2),[]) else if r.2.2.2.2.2.2.2=2 then (r.1,(5,x.2.1,r.2),[]) else (r.1,(3,x.2.1,r.2),[(0,rB x.2.1,i)]))
 else if x.1=3 then (if aq m 1≠0 then (m,(0,x.2.1.tail,dB),[]) else (m,(4,x.2.1,(6,0,i,0,0,0,0)),[]))
 else if x.1=4 then (let r:=fB c m x.2.2;if dd r.2=true then (r.1,(0,x.2.1.tail,dB),[]) else (r.1,(4,x.2.1,r.2),[]))
 else (aW m 0 (mj (aq m 0) 18446744073709551615),(0,x.2.1.tail,dB),if aq m 0=1 then [(1,rB x.2.1,i),(5,0,i)] else [(1,rB x.2.1,i)])
def One (m m':List Int):Prop:=∃ i v,m'=aW m i v
theorem One.same (m:List Int):One m m:=⟨-1,0,by unfold aW;rw [if_neg (by decide)]⟩
theorem One.store (m:List Int) (i v:Int):One m (aW m i v):=⟨i,v,rfl⟩
theorem One.cas (m:List Int) (i o v:Int):One m (pC m i o v).1:=by
 unfold pC
 split
 ·exact One.store m i v
 ·exact One.same m
theorem One.len {m m':List Int} (h:One m m'):m'.length=m.length:=by
 obtain ⟨i,v,rfl⟩:=h
 exact fV
theorem TY (c:CF) (m:List Int) (f:FR):One m (Ft c m f).1:=by
 unfold Ft
 repeat' split
 all_goals first | exact One.same m | exact One.store m _ _ | exact One.cas m _ _ _
theorem SI (c:CF) (m:List Int) (f:FR):One m (Gp c m f).1:=by
 unfold Gp
 repeat' split
 all_goals first | exact One.same m | exact One.store m _ _ | exact One.cas m _ _ _
theorem MW (c:CF) (m:List Int) (f:FR):One m (gB c m f).1:=by
 unfold gB
 repeat' split
 all_goals first | exact One.same m | exact One.store m _ _ | exact One.cas m _ _ _
theorem Pc (c:CF) (m:List Int) (f:FR):One m (fD c m f).1:=by
 unfold fD Gw
 repeat' split
 all_goals first | exact One.same m | (dsimp only;exact One.store m _ _)
theorem E9 (c:CF) (m:List Int) (f:FR):One m (fB c m f).1:=by
 unfold fB rS xb
 repeat' split
 all_goals first | exact One.same m | exact TY c m f | exact SI c m f | exact MW c m f | exact Pc c m f
end Go.Ab
set_option linter.unusedVariables false
namespace Go.Ab
structure InvA (c:CF) (a:Nat) (m:List Int):Prop where
 wm:Wm m
 may:fx c=true
 len:(m.length:Int)=cB c
 l0:aq m 0=a
 l1:aq m 1=0
 mask:mkB (aq m 2)=0
 l3:aq m 3=0
 l5:aq m 5=a
 sq:∀ j:Nat,(j:Int)<c.2.2.1→aq m (6+j)=if j<a then 1 else 0
 le:(a:Int)≤c.2.2.1
section
variable {c:CF} {t:List (Int×List Int)} {m:List Int} {l:List Int} {F:FR}
end
section
variable {c:CF} {m:List Int} {w v X Y:Int} (hmay:fx c=true) (hlen:(m.length:Int)=cB c)
include hmay hlen
end
end Go.Ab
set_option linter.unusedVariables false
namespace Go.Ab
theorem u8 {q i:Int}:∀ {t:List (Int×List Int)} {s:Nat},(q,i) ∈ lR s t↔∃ n x,t[n]? = some x∧q ∈ x.2∧i=((s+n:Nat):Int)
 | [],s=>by simp [lR]
 | x::t,s=>by
  simp only [lR,List.mem_append,List.mem_map,Prod.mk.injEq,u8 (t:=t) (s:=s+1)]
  constructor
  ·rintro (⟨a,ha,rfl,rfl⟩ | ⟨n,y,hy,hq,rfl⟩)
   ·exact ⟨0,x,rfl,ha,by simp⟩
   ·exact ⟨n+1,y,by simpa using hy,hq,by omega⟩
  ·rintro ⟨n,y,hy,hq,rfl⟩
   cases n with
   | zero=>
    simp at hy
    subst hy
    exact .inl ⟨q,hq,rfl,by simp⟩
   | succ n=>exact .inr ⟨n,y,by simpa using hy,hq,by omega⟩
theorem Fu (n:Nat):∀ (l:List (Int×Int)) (had:Uj n),(∀ q ∈ l,0≤q.2)→(PU (eQ n) l had).1=true →
  (∀ q ∈ l,q.2<q.1∧q.1<n∧had.1[q.1.toNat]? = some false)∧(l.map (·.1)).Nodup
 | [],had,_,_=>by simp
 | q::l,had,h0,h=>by
  simp only [PU] at h
  have hq0:=h0 q (by simp)
  cases hb:ut n had.1 q with
  | true=>simp [eQ,hb] at h
  | false=>
   have e1:(eQ n had q).1=true:=by simp [eQ,hb]
   have e2:(eQ n had q).2.1=had.1.set q.1.toNat true:=by simp [eQ,hb]
   rw [e1,if_pos rfl] at h
   obtain ⟨a,b⟩:=Fu n l _ (fun x hx=>h0 x (by simp [hx])) h
   simp only [ut,Bool.or_eq_false_iff,decide_eq_false_iff_not] at hb
   obtain ⟨⟨h1,h2⟩,h3⟩:=hb
   have h4:q.1.toNat<had.1.length:=by rw [had.2];omega
   have h5:had.1[q.1.toNat]? = some false:=by
    rw [List.getElem?_eq_getElem h4] at h3 ⊢
    simpa using h3
   rw [e2] at a
   have h6:∀ x ∈ l,x.1≠q.1:=by
    intro x hx e
    have:=(a x hx).2.2
    rw [e,List.getElem?_set_self h4] at this
    cases this
   refine ⟨?_,?_⟩
   ·intro x hx
    rcases List.mem_cons.1 hx with rfl | hx
    ·exact ⟨by omega,by omega,h5⟩
    ·obtain ⟨u,v,w⟩:=a x hx
     refine ⟨u,v,?_⟩
     have hx0:=h0 x (by simp [hx])
     rwa [List.getElem?_set_ne (by have:=h6 x hx;omega)] at w
   ·rw [List.map_cons,List.nodup_cons]
    refine ⟨?_,b⟩
    intro hm
    obtain ⟨x,hx,e⟩:=List.mem_map.1 hm
    exact h6 x hx e
structure May (t:List (Int×List Int)):Prop where
 len:t.length≤30
 work:∀ x ∈ t,0≤x.1∧x.1≤20
 kids:∀ q ∈ lR 0 t,0≤q.2∧q.2<q.1∧q.1<t.length
 once:((lR 0 t).map (·.1)).Nodup
theorem nL {t:List (Int×List Int)} {s:Nat} (q) (h:q ∈ lR s t):0≤q.2:=by
 obtain ⟨a,b⟩:=q
 obtain ⟨n,x,_,_,rfl⟩:=u8.1 h
 simp
 omega
theorem Qx {t:List (Int×List Int)} (h:uM t=true):May t:=by
 unfold uM at h
 simp only [Bool.and_eq_true,decide_eq_true_eq,Bool.not_eq_true'] at h
 obtain ⟨⟨h1,h2⟩,h3⟩:=h
 obtain ⟨a,b⟩:=Fu t.length _ _ nL h3
 refine ⟨h1,?_,fun q hq=>⟨nL q hq,(a q hq).1,(a q hq).2.1⟩,b⟩
 intro x hx
 have:=List.any_eq_false.1 h2 x hx
 simp only [mX,Bool.or_eq_true,decide_eq_true_eq,not_or] at this
 omega
end Go.Ab
set_option maxRecDepth 100000
set_option linter.unusedVariables false
namespace Go.Ab
theorem WY (x:Int×List Int):eJ x=some (mX x):=by
 unfold eJ mX
 cases decide (x.1<0) <;> rfl
section
variable (k:Nat) (hk:9223372036854775808≤k)
include hk
theorem Td (t:List (Int×List Int)) (ht:Wt t):cZ k t=some (aaA t):=by
 have hlen:=ht.len
 have key:∀ r i n,t.drop i=r→i≤t.length→r.length<n→bl k t n (i:Int)=some ((r.take (41 - i)).all (fun x=>decide (x.2.length≤40))&&decide (t.length≤40)):=by
  intro r
  induction r with
  | nil=>
   intro i n hr hi hn
   obtain ⟨n,rfl⟩:=gf hn
   have:i=t.length:=by have:=cX hr;omega
   subst this
   rw [bl,ub,cond_false,QV]
   simp
  | cons x r ih=>
   intro i n hr hi hn
   obtain ⟨n,rfl⟩:=gf hn
   obtain ⟨a,b,c,d,e⟩:=b7 hr
   rw [bl,ltN a,cond_true]
   by_cases h:i≤40
   ·rw [leT (show (i:Int)≤40 by omega),cond_true,fe b,ae]
    have e1:41 - i=(41 - (i+1))+1:=by omega
    rw [e1,List.take_succ_cons,List.all_cons]
    by_cases h2:x.2.length≤40
    ·rw [ltF (show ((x.2.length:Nat):Int)≤40 by omega),cond_false,eU (by omega),ih (i+1) n c (by omega) (by simp only [List.length_cons] at hn;omega),decide_eq_true h2,Bool.true_and]
    ·rw [ltT (show (40:Int)<(x.2.length:Nat) by omega),cond_true,decide_eq_false h2]
     rfl
   ·rw [leF (show (40:Int)<i by omega),cond_false,QV]
    have e1:41 - i=0:=by omega
    rw [e1]
    simp
 have:=key t 0 k rfl (Nat.zero_le _) (by omega)
 rw [cZ]
 simpa [aaA] using this
theorem Vo (t:List (Int×List Int)) (ht:Wt t):aJ k t=some (t.any mX):=by
 have hlen:=ht.len
 rw [aJ,aY]
 rw [GO (F:=fun n i=>aB (k+8) t n i) (l:=t) mX ?_ ?_ _ (by omega)]
 ·rw [ae,uw]
 ·intro n
  simp only [aB,ub,cond_false]
 ·intro n i x hi hx
  simp only [aB,ltN hi,cond_true,fe hx,ae,WY,Prod.eta]
  rw [eU (by omega)]
theorem GE (t:List (Int×List Int)) (ht:Wt t):cG k t=some (uM t):=by
 have hlen:=ht.len
 rw [cG,Vo k hk t ht,ae]
 unfold uM
 by_cases h1:t.length≤30
 ·rw [afH h1,cond_false,decide_eq_true h1]
  cases h2:t.any mX with
  | true=>rfl
  | false=>
   have h3:decide ((0:Int)≤(t.length:Int)∧(t.length:Int)≤9223372036854775807∧(t.length:Int)*1≤70368744177664)=true:=by simp;omega
   rw [h3,cond_false,cond_true]
   -- one task's kids
   have inner:∀ (x:Int×List Int) (hx:x ∈ t) (i:Nat) (hi:i<t.length) (o:Int→List Bool→Option Bool) (R:List (Int×Int)) (n0:Nat)
     (ho:∀ had:Uj t.length,o ((i+1:Nat):Int) had.1=some (PU (eQ t.length) R had).1),
     ∀ r j n (had:Uj t.length),x.2.drop j=r→r.length<n →
      cL k t o n x.2 (x.2.length:Int) (j:Int) had.1 (i:Int)=some (PU (eQ t.length) (r.map (fun q=>(q,(i:Int)))++R) had).1:=by
    intro x hx i hi o R n0 ho r
    have hxl:=ht.kids x hx
    induction r with
    | nil=>
     intro j n had hr hn
     obtain ⟨n,rfl⟩:=gf hn
     have hj:=cX hr
     rw [cL,ltF (by omega),cond_false,eU (by omega),ho]
     rfl
    | cons q r ih=>
     intro j n had hr hn
     obtain ⟨n,rfl⟩:=gf hn
     obtain ⟨a,b,c,d,e⟩:=b7 hr
     have hb:=had.2
     rw [cL,ltN a,cond_true,fe b,ae,List.map_cons,List.cons_append,PU]
     by_cases h1:q≤(i:Int)
     ·rw [leT h1,cond_true]
      simp [eQ,ut,leT h1]
     ·rw [leF (show (i:Int)<q by omega),cond_false]
      by_cases h2:(t.length:Int)≤q
      ·rw [leT h2,cond_true]
       simp [eQ,ut,leT h2]
      ·rw [leF (show q<(t.length:Int) by omega),cond_false]
       have h5:decide ((0:Int)≤q∧q.toNat<t.length)=true:=by simp;omega
       have h3:q.toNat<had.1.length:=by rw [hb];omega
       have h4:had.1[q.toNat]? = some had.1[q.toNat]:=List.getElem?_eq_getElem h3
       rw [h5,cond_true,h4,ae,cond_true,ae,eU (by omega)]
       cases hh:had.1[q.toNat] with
       | true=>simp [eQ,ut,leF (show (i:Int)<q by omega),leF (show q<(t.length:Int) by omega),h4,hh]
       | false=>
        rw [cond_false]
        have e1:eQ t.length had (q,(i:Int))=(true,⟨had.1.set q.toNat true,by simp [had.2]⟩):=by
         simp [eQ,ut,leF (show (i:Int)<q by omega),leF (show q<(t.length:Int) by omega),h4,hh]
        rw [e1]
        simp only [if_true]
        exact ih (j+1) n ⟨had.1.set q.toNat true,by simp [had.2]⟩ c (by simp only [List.length_cons] at hn;omega)
   have outer:∀ r i n (had:Uj t.length),t.drop i=r→i≤t.length→r.length<n→bN k t n (i:Int) had.1=some (PU (eQ t.length) (lR i r) had).1:=by
    intro r
    induction r with
    | nil=>
     intro i n had hr hi hn
     obtain ⟨n,rfl⟩:=gf hn
     have:=cX hr
     rw [bN,ltF (by omega),cond_false]
     rfl
    | cons x r ih=>
     intro i n had hr hi hn
     obtain ⟨n,rfl⟩:=gf hn
     obtain ⟨a,b,c,d,e⟩:=b7 hr
     have hxl:=ht.kids x d
     rw [bN,ltN a,cond_true,fe b,ae,lR]
     have:=inner x d i a (fun s47 s56=>bN k t n s47 s56) (lR (i+1) r) n (fun had=>ih (i+1) n had c (by omega) (by simp only [List.length_cons] at hn;omega)) x.2 0 (k+17) had rfl (by omega)
     simpa using this
   have:=outer t 0 (k+17) (DE t.length) rfl (Nat.zero_le _) (by omega)
   simpa [DE] using this
 ·rw [afV (by omega),cond_true,decide_eq_false h1]
  rfl
end
end Go.Ab
set_option linter.unusedVariables false
namespace Go.Ab
theorem oG (z:Int):IntKind.u64.wrap z=z%18446744073709551616:=by simp [IntKind.wrap,IntKind.bits,IntKind.signed]
theorem FL {c:CF} {x:Int} (h0:0≤x) (h1:x≤18446744073709551615):ga c x=some (uZ c x):=by
 unfold ga uZ
 simp only [Prod.eta,fj,ae]
 cases hm:fx c with
 | false=>rfl
 | true=>
  have hc:=bc hm
  have hi:IntKind.u64.wrap c.2.2.1=c.2.2.1:=gA (by omega) (by omega)
  have h3:=Int.emod_lt_of_pos x (show 0<c.2.2.1 by omega)
  have h4:=Int.emod_nonneg x (show c.2.2.1≠0 by omega)
  have e1:IntKind.i64.wrap (c.1 - 1)=c.1 - 1:=by rw [IntKind.wrap_i64];omega
  rw [Bool.not_true,cond_false,SU,ae,e1,decide_eq_true (by omega),Bool.not_true,cond_false,hi,Bm,decide_eq_false (by omega),Bool.not_false,cond_true,if_pos rfl,Int.tmod_eq_emod_of_nonneg h0]
  have e2:IntKind.i64.wrap (x%c.2.2.1)=x%c.2.2.1:=by rw [IntKind.wrap_i64];omega
  rw [e2,IntKind.wrap_i64]
  congr 1
  omega
theorem QN {c:CF} {x:Int} (h0:0≤x) (h1:x≤18446744073709551615):iV c x=some (Pk c x):=by
 unfold iV Pk
 simp only [Prod.eta,fj,ae]
 cases hm:fx c with
 | false=>rfl
 | true=>
  have hc:=bc hm
  have hi:IntKind.u64.wrap c.2.2.1=c.2.2.1:=gA (by omega) (by omega)
  have h3:=Int.emod_lt_of_pos x (show 0<c.2.2.1 by omega)
  have h4:=Int.emod_nonneg x (show c.2.2.1≠0 by omega)
  have e1:IntKind.i64.wrap (c.1 - 1)=c.1 - 1:=by rw [IntKind.wrap_i64];omega
  rw [Bool.not_true,cond_false,SU,ae,e1,decide_eq_true (by omega),Bool.not_true,cond_false,hi,Bm,decide_eq_false (by omega),Bool.not_false,cond_true,if_pos rfl,Int.tmod_eq_emod_of_nonneg h0]
  have e2:IntKind.i64.wrap (x%c.2.2.1)=x%c.2.2.1:=by rw [IntKind.wrap_i64];omega
  have e3:IntKind.i64.wrap (6+c.2.2.1)=6+c.2.2.1:=by rw [IntKind.wrap_i64];omega
  rw [e2,e3,IntKind.wrap_i64]
  congr 1
  omega
theorem I0 {c:CF} {x:Int} (hm:fx c=true) (h0:0≤x) (h1:x≤18446744073709551615):IntKind.u64.wrap (IntKind.u64.wrap (x.tdiv (IntKind.u64.wrap c.2.2.1))*2)=BW c x:=by
 have hc:=bc hm
 have hi:IntKind.u64.wrap c.2.2.1=c.2.2.1:=gA (by omega) (by omega)
 have h3:0≤x/c.2.2.1:=Int.ediv_nonneg h0 (by omega)
 have h4:x/c.2.2.1≤x:=Int.ediv_le_self _ h0
 rw [hi,Int.tdiv_eq_ediv_of_nonneg h0,gA h3 (by omega),oG]
 rfl
theorem uf (a b:Int):IntKind.u64.wrap (a+b)=mj a b:=by rw [oG];rfl
theorem ft (a b:Int):0≤mj a b∧mj a b≤18446744073709551615:=by unfold mj;omega
theorem ne0 {c:CF} (hm:fx c=true):(IntKind.u64.wrap c.2.2.1 !=0)=true:=by
 have hc:=bc hm
 rw [gA (by omega) (by omega),Bm,decide_eq_false (by omega)]
 rfl
theorem QX {c:CF} {x:Int} (hm:fx c=true) (h0:0≤x) (h1:x≤18446744073709551615):gI c x=some (CA c x):=by
 unfold gI CA
 rw [ne0 hm,cond_true,I0 hm h0 h1,uf]
theorem Ia (a b:Int):er a b=some (Fg a b):=rfl
theorem Kr (c:CF) (m:List Int) (f:FR) (op:Int):gN c m f op=some (pj c m f op):=by
 unfold gN my pj
 simp only [Prod.eta,fj,wi,i7,ae]
 cases hm:fx c with
 | false=>rfl
 | true=>
  rw [cond_true,ae,iJ,Bool.true_and]
  by_cases h1:(m.length:Int)=cB c
  ·rw [decide_eq_true h1,cond_true,Bool.true_and]
   unfold dd
   rw [Bm,Bool.not_not,iJ]
   by_cases h2:f.2.2.2.2.2.2=0
   ·rw [decide_eq_true h2,cond_true]
    by_cases h3:f.1=op
    ·rw [decide_eq_true h3,cond_true]
     by_cases h4:0≤f.2.1
     ·rw [leT h4,cond_true]
      congr 1
      simp [h2,h3,h4]
     ·rw [leF (by omega),cond_false]
      simp [h4]
    ·rw [decide_eq_false h3,cond_false]
     simp [h3]
   ·rw [decide_eq_false h2,cond_false]
    simp [h2]
  ·rw [decide_eq_false h1,cond_false]
   rfl
theorem E6 {c:CF} {m:List Int} {f:FR} {op:Int} (h:pj c m f op=true):fx c=true∧(m.length:Int)=cB c∧f.2.2.2.2.2.2=0∧f.1=op∧0≤f.2.1∧f.2.1<5:=by
 unfold pj at h
 rw [Bool.and_eq_true,Bool.and_eq_true,decide_eq_true_eq,decide_eq_true_eq] at h
 exact ⟨h.1.1,h.1.2,h.2⟩
theorem IL (c:CF) {m:List Int} (hm:Wm m) (hl:m.length≤1000) {f:FR} (hf:Wf f):iT c m f=some (Ft c m f):=by
 unfold iT Ft
 try simp only [Prod.eta]
 rw [bC (by omega),ae,Kr,ae]
 cases h:pj c m f 3 with
 | false=>rfl
 | true=>
  obtain ⟨hmay,_,h6,h0,h1,h1'⟩:=E6 h
  rw [Bool.not_true,cond_false,if_neg (by simp)]
  obtain ⟨a0,a1,a2,a3,a4,a5,a6⟩:=f
  simp only at h6 h0 h1 h1' ⊢
  have e:decide (0≤a1∧a1.toNat<5)=true:=by rw [decide_eq_true_eq];omega
  rw [e,cond_true]
  obtain ⟨w3,w4,w5⟩:=hf
  simp only at w3 w4 w5
  rcases (show a1=0∨a1=1∨a1=2∨a1=3∨a1=4 by omega) with rfl | rfl | rfl | rfl | rfl
  ·simp [dG,ae]
  ·simp only [FL w4.1 w4.2,dG,ae,ne0 hmay,I0 hmay w4.1 w4.2,Ia,go,iJ,cond_true]
   by_cases h5:aq m (uZ c a4)=BW c a4
   ·simp [h5]
   ·by_cases h7:Fg (aq m (uZ c a4)) (BW c a4)<0
    ·simp [h5,h7,dK]
    ·simp [h5,h7]
  ·simp only [uf,Dp hl,ae]
   cases hc:(pC m 5 a4 (mj a4 1)).2 <;> simp [hc]
  ·simp only [QN w4.1 w4.2,ia hl,ae]
   simp
  ·simp only [FL w4.1 w4.2,ne0 hmay,I0 hmay w4.1 w4.2,uf,ia hl,ae,go,cond_true]
   simp [dK]
theorem KZ (c:CF) {m:List Int} (hm:Wm m) (hl:m.length≤1000) {f:FR} (hf:Wf f):i5 c m f=some (Gp c m f):=by
 unfold i5 Gp
 try simp only [Prod.eta]
 rw [bC (by omega),ae,Kr,ae]
 cases h:pj c m f 4 with
 | false=>rfl
 | true=>
  obtain ⟨hmay,_,h6,h0,h1,h1'⟩:=E6 h
  rw [Bool.not_true,cond_false,if_neg (by simp)]
  obtain ⟨a0,a1,a2,a3,a4,a5,a6⟩:=f
  simp only at h6 h0 h1 h1' ⊢
  obtain ⟨w3,w4,w5⟩:=hf
  simp only at w3 w4 w5
  rcases (show a1=0∨a1=1∨a1=2∨a1=3∨a1=4 by omega) with rfl | rfl | rfl | rfl | rfl
  ·simp [dG,ae]
  ·simp only [FL w4.1 w4.2,dG,ae,QX hmay w4.1 w4.2,Ia,go,iJ]
   by_cases h5:Fg (aq m (uZ c a4)) (CA c a4)=0
   ·simp [h5]
   ·by_cases h7:Fg (aq m (uZ c a4)) (CA c a4)<0
    ·simp [h5,h7,dK]
    ·simp [h5,h7]
  ·simp only [uf,Dp hl,ae]
   cases hc:(pC m 4 a4 (mj a4 1)).2 <;> simp [hc]
  ·simp only [QN w4.1 w4.2,dG,ae]
   simp
  ·simp only [FL w4.1 w4.2,QX hmay w4.1 w4.2,uf,ia hl,ae,go]
   simp [dK]
theorem CJ (c:CF) {m:List Int} (hm:Wm m) (hl:m.length≤1000) {f:FR} (hf:Wf f):bf c m f=some (rS c m f):=by
 unfold bf rS
 simp only [Prod.eta,IL c hm hl hf,KZ c hm hl hf,ae,iJ]
 by_cases h3:f.1=3
 ·simp [h3]
 ·by_cases h4:f.1=4
  ·simp [h4]
  ·simp [h3,h4,bC (b:=8) (l:=m) (by omega),ae]
theorem Co {k:Nat} (hk:1000≤k) (c:CF) {m:List Int} (hm:Wm m) (hl:m.length≤1000) {f:FR} (hf:Wf f):bO k c m f=some (xb c m f):=by
 unfold bO xb
 simp only [Prod.eta,Vi c hm hl hf,Sp hk c hm hl hf,ae,iJ]
 by_cases h5:f.1=5
 ·rw [decide_eq_true h5,cond_true,if_pos h5]
 ·rw [decide_eq_false h5,cond_false,if_neg h5]
  by_cases h6:f.1=6
  ·rw [decide_eq_true h6,cond_true,cond_true,if_pos (.inl h6)]
  ·rw [decide_eq_false h6,cond_false]
   by_cases h7:f.1=7
   ·rw [decide_eq_true h7,cond_true,if_pos (.inr h7)]
   ·rw [decide_eq_false h7,cond_false,if_neg (by omega),bC (by omega),ae]
theorem WD {m:List Int} (hl:m.length≤1000) (i v:Int):cQ m i v=some (if 0≤i∧i<m.length then (aW m i (mj (aq m i) v),aq m i) else (m,0)):=by
 unfold cQ
 rw [bC (by omega),ae,aa6,ae]
 by_cases h:0≤i∧i<m.length
 ·have hd:decide (0≤i∧i.toNat<m.length)=true:=decide_eq_true (by omega)
  rw [decide_eq_true h,Bool.not_true,cond_false,(lj h).1,ae,hd,cond_true,(lj h).2,ae,ae,if_pos h,uf]
  unfold aW
  rw [if_pos h.1]
 ·rw [decide_eq_false h,Bool.not_false,cond_true,if_neg h]
theorem Qi {k:Nat} (hk:9223372036854775808≤k) (c:CF) {t:List (Int×List Int)} (ht:Wt t) (m:List Int) (x:SB):fb k c t m x=some (oQ c t m x):=by
 unfold fb oQ
 simp only [Prod.eta,fj,wi,ae]
 rw [GE (k+4) (by omega) t ht]
 cases hm:fx c with
 | false=>rfl
 | true=>
  rw [cond_true,iJ,Bool.true_and]
  by_cases h1:(m.length:Int)=cB c
  ·rw [decide_eq_true h1,cond_true,Bool.true_and,ae]
   cases ht2:uM t with
   | false=>rfl
   | true=>
    rw [cond_true,Bool.true_and]
    by_cases h2:0≤x.1
    ·rw [leT h2,cond_true]
     by_cases h3:x.1<6
     ·rw [ltT h3,cond_true]
      cases hl:x.2.1 with
      | nil=>simp
      | cons r rest=>
       have h0:idx (r::rest) 0=some r:=rfl
       rw [ltT (by simp),cond_true,h0,ae,ae]
       by_cases h4:0≤r
       ·rw [leT h4,cond_true]
        congr 1
        simp [h2,h3,rB,h4]
       ·rw [leF (by omega),cond_false]
        simp [rB,h4]
     ·rw [ltF (by omega),cond_false]
      simp [h3]
    ·rw [leF (by omega),cond_false]
     simp [h2]
  ·rw [decide_eq_false h1,cond_false]
   rfl
theorem rL {c:CF} {t:List (Int×List Int)} {m:List Int} {x:SB} (h:oQ c t m x=true):fx c=true∧(m.length:Int)=cB c∧uM t=true∧0≤x.1∧x.1<6∧∃ r rest,x.2.1=r::rest∧0≤r∧r<t.length:=by
 unfold oQ at h
 simp only [Bool.and_eq_true,decide_eq_true_eq] at h
 obtain ⟨⟨⟨h1,h2⟩,h3⟩,h4,h5,h6,h7,h8⟩:=h
 cases hx:x.2.1 with
 | nil=>exact absurd hx h6
 | cons r rest=>
  rw [hx] at h7 h8
  exact ⟨h1,h2,h3,h4,h5,r,rest,rfl,h7,h8⟩
theorem lg {c:CF} (h:fx c=true):12≤cB c∧cB c≤190:=by
 have hm:=bc h
 have:=dr h (w:=c.1) (by omega) (by omega)
 unfold cB
 rw [if_pos h]
 have e:xv c c.1=6+2*c.2.2.1+c.1*(3+c.2.1):=rfl
 have h3:1*(3+c.2.1)≤c.1*(3+c.2.1):=Int.mul_le_mul_of_nonneg_right (by omega) (by omega)
 omega
theorem Ut {k:Nat} (hk:9223372036854775808≤k) (c:CF) {t:List (Int×List Int)} (ht:Wt t) {m:List Int} (hm:Wm m) (hl:m.length≤1000) (i:Int) {x:SB} (hf:Wf x.2.2) (hr:x.2.1.length≤1000) (ht2:t.length≤1000):fu k c t m i x=some (lA c t m i x):=by
 unfold fu lA
 try simp only [Prod.eta]
 rw [bC (by omega),ae,bC (by omega),ae,Qi (by omega) c ht,ae]
 cases hmay:oQ c t m x with
 | false=>rfl
 | true=>
  rw [Bool.not_true,cond_false,if_neg (by simp)]
  obtain ⟨h1,h2,h3,h4,h5,r,rest,hx,h6,h7⟩:=rL hmay
  have hsz:=lg h1
  obtain ⟨pc,roots,F⟩:=x
  simp only at hx h4 h5 hf hr ⊢
  subst hx
  have hi0:idx (r::rest) 0=some r:=rfl
  have hroom:room 1 24=true:=rfl
  have hroom2:room 2 24=true:=rfl
  have hd:decide ((1:Int)≤((r::rest).length:Int))=true:=decide_eq_true (by simp;omega)
  have hdr:List.drop (Int.toNat 1) (r::rest)=rest:=rfl
  have hh:rB (r::rest)=r:=rfl
  have hur:IntKind.u64.wrap r=r:=gA h6 (by omega)
  have htl:(r::rest).tail=rest:=rfl
  rw [hi0,ae]
  simp only [CJ c hm hl hf,Co (k:=k+20) (by omega) c hm hl hf,dG,WD hl,ae,i7,SW,hroom,hroom2,hd,hdr,hh,htl,cond_true,hur,iJ,Bm]
  have hb:∀ op w v:Int,aF op w v=some (op,0,w,v,0,0,0):=fun _ _ _=>rfl
  simp only [hb,ae]
  have hin:(0:Int)≤0∧(0:Int)<m.length:=by omega
  have hcall:fB c m F=if F.1=3∨F.1=4 then rS c m F else xb c m F:=rfl
  rcases (show pc=0∨pc=1∨pc=2∨pc=3∨pc=4∨pc=5 by omega) with rfl | rfl | rfl | rfl | rfl | rfl
  ·by_cases h:aq m 3=0
   ·simp [h]
   ·simp [h,dB]
  ·simp only [if_pos hin]
   simp
  ·by_cases e3:F.1=3
   ·have ec:fB c m F=rS c m F:=by rw [hcall,if_pos (.inl e3)]
    rw [ec]
    cases ho:dd (rS c m F).2 with
    | false=>simp [e3,ho]
    | true=>
     by_cases h8:(rS c m F).2.2.2.2.2.2.2=2
     ·simp [e3,ho,h8]
     ·simp [e3,ho,h8]
   ·by_cases e4:F.1=4
    ·have ec:fB c m F=rS c m F:=by rw [hcall,if_pos (.inr e4)]
     rw [ec]
     cases ho:dd (rS c m F).2 with
     | false=>simp [e4,ho]
     | true=>
      by_cases h8:(rS c m F).2.2.2.2.2.2.2=2
      ·simp [e4,ho,h8]
      ·simp [e4,ho,h8]
    ·have ec:fB c m F=xb c m F:=by rw [hcall,if_neg (by omega)]
     rw [ec]
     cases ho:dd (xb c m F).2 with
     | false=>simp [e3,e4,ho]
     | true=>
      by_cases h8:(xb c m F).2.2.2.2.2.2.2=2
      ·simp [e3,e4,ho,h8]
      ·simp [e3,e4,ho,h8]
  ·by_cases h:aq m 1=0
   ·simp [h]
   ·simp [h,dB]
  ·by_cases e3:F.1=3
   ·have ec:fB c m F=rS c m F:=by rw [hcall,if_pos (.inl e3)]
    rw [ec]
    cases ho:dd (rS c m F).2 with
    | false=>simp [e3,ho]
    | true=>simp [e3,ho,dB]
   ·by_cases e4:F.1=4
    ·have ec:fB c m F=rS c m F:=by rw [hcall,if_pos (.inr e4)]
     rw [ec]
     cases ho:dd (rS c m F).2 with
     | false=>simp [e4,ho]
     | true=>simp [e4,ho,dB]
    ·have ec:fB c m F=xb c m F:=by rw [hcall,if_neg (by omega)]
     rw [ec]
     cases ho:dd (xb c m F).2 with
     | false=>simp [e3,e4,ho]
     | true=>simp [e3,e4,ho,dB]
  ·simp only [if_pos hin]
   by_cases h:aq m 0=1
   ·simp [h,dB,hroom2]
   ·simp [h,dB]
end Go.Ab
set_option linter.unusedVariables false
namespace Go.Ab
def onW (c:CF) (w x:Int):Int:=if fx c=true∧0≤w∧w<c.1 then xv c w+x else -1
def Fs (c:CF) (w:Int):Int:=onW c w 0
def HY (c:CF) (w:Int):Int:=onW c w 1
def pu (c:CF) (w x:Int):Int:=onW c w (3+uA .u64 x (c.2.1 - 1))
def UH (a b:Int):Int:=(a - b)%18446744073709551616
def nJ (c:CF) (m:List Int) (f:FR):List Int×FR:=
 if mz c m f 0 4=false then (m,f)
 else if f.2.1=0 then (m,f.1,1,f.2.2.1,f.2.2.2.1,aq m (HY c f.2.2.1),f.2.2.2.2.2)
 else if f.2.1=1 then (if c.2.1≤UH f.2.2.2.2.1 (aq m (Fs c f.2.2.1)) then (m,dK f 2 f.2.2.2.1) else (m,f.1,2,f.2.2.1,f.2.2.2.1,f.2.2.2.2.1,aq m (Fs c f.2.2.1),f.2.2.2.2.2.2))
 else if f.2.1=2 then (aW m (pu c f.2.2.1 f.2.2.2.2.1) f.2.2.2.1,f.1,3,f.2.2)
 else (aW m (HY c f.2.2.1) (mj f.2.2.2.2.1 1),dK f 1 f.2.2.2.1)
def E3 (c:CF) (m:List Int) (f:FR):List Int×FR:=
 if mz c m f 1 7=false then (m,f)
 else if f.2.1=0 then (m,f.1,1,f.2.2.1,f.2.2.2.1,UH (aq m (HY c f.2.2.1)) 1,f.2.2.2.2.2)
 else if f.2.1=1 then (aW m (HY c f.2.2.1) f.2.2.2.2.1,f.1,2,f.2.2)
 else if f.2.1=2 then (m,f.1,if Fg f.2.2.2.2.1 (aq m (Fs c f.2.2.1))<0 then 6 else 3,f.2.2.1,f.2.2.2.1,f.2.2.2.2.1,aq m (Fs c f.2.2.1),f.2.2.2.2.2.2)
 else if f.2.1=3 then (if f.2.2.2.2.1≠f.2.2.2.2.2.1 then (m,dK f 1 (aq m (pu c f.2.2.1 f.2.2.2.2.1))) else (m,f.1,4,f.2.2.1,aq m (pu c f.2.2.1 f.2.2.2.2.1),f.2.2.2.2))
 else if f.2.1=4 then (let r:=pC m (Fs c f.2.2.1) f.2.2.2.2.2.1 (mj f.2.2.2.2.2.1 1);(r.1,f.1,if r.2=true then 5 else 6,f.2.2))
 else if f.2.1=5 then (aW m (HY c f.2.2.1) (mj f.2.2.2.2.1 1),dK f 1 f.2.2.2.1)
 else (aW m (HY c f.2.2.1) (mj f.2.2.2.2.1 1),dK f 3 0)
def iF (c:CF) (m:List Int) (f:FR):List Int×FR:=
 if mz c m f 2 4=false then (m,f)
 else if f.2.1=0 then (m,f.1,1,f.2.2.1,f.2.2.2.1,f.2.2.2.2.1,aq m (Fs c f.2.2.1),f.2.2.2.2.2.2)
 else if f.2.1=1 then (if Fg (aq m (HY c f.2.2.1)) f.2.2.2.2.2.1≤0 then (m,dK f 3 0) else (m,f.1,2,f.2.2.1,f.2.2.2.1,aq m (HY c f.2.2.1),f.2.2.2.2.2))
 else if f.2.1=2 then (m,f.1,3,f.2.2.1,aq m (pu c f.2.2.1 f.2.2.2.2.2.1),f.2.2.2.2)
 else (let r:=pC m (Fs c f.2.2.1) f.2.2.2.2.2.1 (mj f.2.2.2.2.2.1 1);if r.2=true then (r.1,dK f 1 f.2.2.2.1) else (r.1,dK f 4 0))
def Ay (c:CF) (m:List Int) (f:FR):List Int×FR:=if f.1=0 then nJ c m f else if f.1=1 then E3 c m f else if f.1=2 then iF c m f else (m,f)
def dh (c:CF) (m:List Int) (f:FR):List Int×FR:=if f.1=0∨f.1=1∨f.1=2 then Ay c m f else fB c m f
theorem X8 (a b:Int):IntKind.u64.wrap (a - b)=UH a b:=by rw [oG];rfl
theorem OO (a b:Int):0≤UH a b∧UH a b≤18446744073709551615:=by unfold UH;omega
theorem AW {x D:Int} (h0:0≤x) (h1:x≤18446744073709551615) (hD:1≤D) (hE:D≤16):0≤uA .u64 x (D - 1)∧uA .u64 x (D - 1)≤D - 1:=by
 obtain ⟨a,rfl⟩:=Int.eq_ofNat_of_zero_le h0
 obtain ⟨b,hb⟩:∃ b:Nat,D - 1=(b:Int):=⟨(D - 1).toNat,by omega⟩
 rw [hb,aaL (by omega) (by omega)]
 have:=Nat.and_le_right (n:=a) (m:=b)
 omega
theorem OI (c:CF) (w:Int):gb c w=some (Fs c w):=by
 unfold gb Fs onW
 try simp only [Prod.eta]
 rw [fj,ae]
 cases h:fx c with
 | false=>simp
 | true=>
  have hm:=bc h
  rw [Bool.not_true,cond_false,eZ (by omega),SU,ae]
  by_cases h1:0≤w∧w≤c.1 - 1
  ·have ht:=dr h h1.1 (by omega)
   rw [decide_eq_true h1,Bool.not_true,cond_false,CP h (by omega) (by omega),ae,if_pos ⟨rfl,by omega,by omega⟩,Int.add_zero]
  ·rw [decide_eq_false h1,Bool.not_false,cond_true,if_neg (by omega)]
theorem Ko (c:CF) (w:Int):cV c w=some (HY c w):=by
 unfold cV HY onW
 try simp only [Prod.eta]
 rw [fj,ae]
 cases h:fx c with
 | false=>simp
 | true=>
  have hm:=bc h
  rw [Bool.not_true,cond_false,eZ (by omega),SU,ae]
  by_cases h1:0≤w∧w≤c.1 - 1
  ·have ht:=dr h h1.1 (by omega)
   rw [decide_eq_true h1,Bool.not_true,cond_false,CP h (by omega) (by omega),ae,eZ (by omega),if_pos ⟨rfl,by omega,by omega⟩]
  ·rw [decide_eq_false h1,Bool.not_false,cond_true,if_neg (by omega)]
theorem JG (c:CF) (w:Int) {x:Int} (h0:0≤x) (hx:x≤18446744073709551615):fg c w x=some (pu c w x):=by
 unfold fg pu onW
 try simp only [Prod.eta]
 rw [fj,ae]
 cases h:fx c with
 | false=>simp
 | true=>
  have hm:=bc h
  rw [Bool.not_true,cond_false,eZ (z:=c.1 - 1) (by omega),SU,ae]
  by_cases h1:0≤w∧w≤c.1 - 1
  ·have ht:=dr h h1.1 (by omega)
   have ha:=AW h0 hx (show 1≤c.2.1 by omega) (by omega)
   rw [decide_eq_true h1,Bool.not_true,cond_false,CP h (by omega) (by omega),ae,if_pos ⟨rfl,by omega,by omega⟩,eZ (z:=c.2.1 - 1) (by omega),gA (z:=c.2.1 - 1) (by omega) (by omega),eZ (z:=uA .u64 x (c.2.1 - 1)) (by omega),eZ (z:=xv c w+3) (by omega),eZ (by omega),Int.add_assoc]
  ·rw [decide_eq_false h1,Bool.not_false,cond_true,if_neg (by omega)]
section
variable (k:Nat) (c:CF) (m:List Int) (a2 a3 a4 a5:Int) (n:Nat) {x:List Int} (p q:Int)
theorem aaa:ap k c m (2,1,a2,a3,a4,a5,0) (n+1) x p q 0=ap k c m (2,1,a2,a3,a4,a5,0) n x p q 1:=by
 rw [ap]
 rfl
theorem Zh:ap k c m (2,2,a2,a3,a4,a5,0) (n+1) x p q 0=ap k c m (2,2,a2,a3,a4,a5,0) n x p q 1:=by
 rw [ap]
 rfl
theorem Ys:ap k c m (2,2,a2,a3,a4,a5,0) (n+1) x p q 1=ap k c m (2,2,a2,a3,a4,a5,0) n x p q 2:=by
 rw [ap]
 rfl
theorem aaE:ap k c m (2,3,a2,a3,a4,a5,0) (n+1) x p q 0=ap k c m (2,3,a2,a3,a4,a5,0) n x p q 1:=by
 rw [ap]
 rfl
theorem aac:ap k c m (2,3,a2,a3,a4,a5,0) (n+1) x p q 1=ap k c m (2,3,a2,a3,a4,a5,0) n x p q 2:=by
 rw [ap]
 rfl
theorem Yd:ap k c m (2,3,a2,a3,a4,a5,0) (n+1) x p q 2=ap k c m (2,3,a2,a3,a4,a5,0) n x p q 3:=by
 rw [ap]
 rfl
theorem aaz:ap k c m (2,0,a2,a3,a4,a5,0) (n+1) x p q 0=some (x,(2,1,a2,a3,a4,aq x p,0)):=by
 have e:ap k c m (2,0,a2,a3,a4,a5,0) (n+1) x p q 0=ob (aD x p) fun r=>some (x,(2,1,a2,a3,a4,r,0)):=by
  rw [ap]
  rfl
 rw [e,dG,ae]
theorem Zf:ap k c m (2,1,a2,a3,a4,a5,0) (n+1) x p q 1=some (if Fg (aq x q) a5≤0 then (x,(2,0,a2,0,0,0,3)) else (x,(2,2,a2,a3,aq x q,a5,0))):=by
 have e:ap k c m (2,1,a2,a3,a4,a5,0) (n+1) x p q 1=ob (aD x q) fun r=>ob (er r a5) fun y=>bif decide (y≤0) then some (x,(2,0,a2,0,0,0,3)) else some (x,(2,2,a2,a3,r,a5,0)):=by
  rw [ap]
  rfl
 rw [e,dG,ae,Ia,ae]
 by_cases h:Fg (aq x q) a5≤0
 ·rw [leT h,cond_true,if_pos h]
 ·rw [leF (by omega),cond_false,if_neg h]
theorem Yj (h0:0≤a5) (h1:a5≤18446744073709551615):ap k c m (2,2,a2,a3,a4,a5,0) (n+1) x p q 2=some (x,(2,3,a2,aq x (pu c a2 a5),a4,a5,0)):=by
 have e:ap k c m (2,2,a2,a3,a4,a5,0) (n+1) x p q 2=ob (fg c a2 a5) fun s=>ob (aD x s) fun r=>some (x,(2,3,a2,r,a4,a5,0)):=by
  rw [ap]
  rfl
 rw [e,JG c a2 h0 h1,ae,dG,ae]
theorem WN (hl:x.length≤1000):ap k c m (2,3,a2,a3,a4,a5,0) (n+1) x p q 3=some (if (pC x p a5 (mj a5 1)).2=true then ((pC x p a5 (mj a5 1)).1,(2,0,a2,a3,0,0,1)) else ((pC x p a5 (mj a5 1)).1,(2,0,a2,0,0,0,4))):=by
 have e:ap k c m (2,3,a2,a3,a4,a5,0) (n+1) x p q 3=ob (cR x p a5 (IntKind.u64.wrap (a5+1))) fun r=>bif r.2 then some (r.1,(2,0,a2,a3,0,0,1)) else some (r.1,(2,0,a2,0,0,0,4)):=by
  rw [ap]
  rfl
 rw [e,uf,Dp hl,ae]
 cases (pC x p a5 (mj a5 1)).2 <;> rfl
end
section
variable (c:CF) {m:List Int} (hm:Wm m) (hl:m.length≤1000) {f:FR} (hf:Wf f)
include hm hl hf
theorem HW:ix c m f=some (nJ c m f):=by
 have _h:=hm
 unfold ix nJ
 try simp only [Prod.eta]
 rw [bC (by omega),ae,EX,ae]
 cases h:mz c m f 0 4 with
 | false=>rfl
 | true=>
  obtain ⟨hmay,_,h6,h2,h2',h0,h1,h1'⟩:=AB h
  have hc:=bc hmay
  rw [cond_true,if_neg (by simp)]
  obtain ⟨a0,a1,a2,a3,a4,a5,a6⟩:=f
  simp only at h6 h2 h2' h0 h1 h1' ⊢
  obtain ⟨w3,w4,w5⟩:=hf
  simp only at w3 w4 w5
  rcases (show a1=0∨a1=1∨a1=2∨a1=3 by omega) with rfl | rfl | rfl | rfl
  ·simp [Ko,dG,ae]
  ·simp only [OI,dG,ae,go,X8,gA (z:=c.2.1) (by omega) (by omega)]
   by_cases h5:c.2.1≤UH a4 (aq m (Fs c a2))
   ·simp [h5,dK]
   ·simp [h5]
  ·simp only [JG c a2 w4.1 w4.2,ia hl,ae]
   simp
  ·simp only [Ko,ia hl,ae,go,uf]
   simp [dK]
theorem Kf:ky c m f=some (E3 c m f):=by
 have _h:=hm
 unfold ky E3
 try simp only [Prod.eta]
 rw [bC (by omega),ae,EX,ae]
 cases h:mz c m f 1 7 with
 | false=>rfl
 | true=>
  obtain ⟨hmay,_,h6,h2,h2',h0,h1,h1'⟩:=AB h
  rw [Bool.not_true,cond_false,if_neg (by simp)]
  obtain ⟨a0,a1,a2,a3,a4,a5,a6⟩:=f
  simp only at h6 h2 h2' h0 h1 h1' ⊢
  obtain ⟨w3,w4,w5⟩:=hf
  simp only at w3 w4 w5
  rw [OI,ae,Ko,ae]
  have hw:∀ z:Int,0≤z→z≤100→IntKind.i64.wrap (z+1)=z+1:=fun z _ _=>eZ (by omega)
  rcases (show a1=0∨a1=1∨a1=2∨a1=3∨a1=4∨a1=5∨a1=6 by omega) with rfl | rfl | rfl | rfl | rfl | rfl | rfl
  ·rw [hw 0 (by decide) (by decide)]
   simp [dG,ae,X8]
  ·rw [hw 1 (by decide) (by decide)]
   simp [ia hl,ae]
  ·rw [hw 2 (by decide) (by decide)]
   simp only [dG,ae,Ia]
   by_cases h5:Fg a4 (aq m (Fs c a2))<0
   ·simp [h5]
   ·simp [h5]
  ·rw [hw 3 (by decide) (by decide)]
   simp only [JG c a2 w4.1 w4.2,dG,ae,go,Bm]
   by_cases h5:a4=a5
   ·simp [h5]
   ·simp [h5,dK]
  ·rw [hw 4 (by decide) (by decide)]
   simp only [uf,Dp hl,ae]
   cases hc:(pC m (Fs c a2) a5 (mj a5 1)).2 <;> simp [hc]
  ·simp only [uf,ia hl,ae,go]
   simp [dK]
  ·simp only [uf,ia hl,ae,go]
   simp [dK]
theorem De (k:Nat):f7 k c m f=some (iF c m f):=by
 have _h:=hm
 unfold f7 iF
 try simp only [Prod.eta]
 rw [bC (by omega),ae,EX,ae]
 cases h:mz c m f 2 4 with
 | false=>rfl
 | true=>
  obtain ⟨hmay,_,h6,h2,h2',h0,h1,h1'⟩:=AB h
  rw [Bool.not_true,cond_false,if_neg (by simp)]
  obtain ⟨a0,a1,a2,a3,a4,a5,a6⟩:=f
  simp only at h6 h2 h2' h0 h1 h1' ⊢
  obtain ⟨w3,w4,w5⟩:=hf
  simp only at w3 w4 w5
  subst h6
  subst h0
  rw [OI,ae,Ko,ae]
  rcases (show a1=0∨a1=1∨a1=2∨a1=3 by omega) with rfl | rfl | rfl | rfl
  ·rw [if_pos rfl]
   exact aaz k c m a2 a3 a4 a5 (k+22) _ _
  ·rw [if_neg (by decide),if_pos rfl]
   exact (aaa k c m a2 a3 a4 a5 (k+22) _ _).trans (Zf k c m a2 a3 a4 a5 (k+21) _ _)
  ·rw [if_neg (by decide),if_neg (by decide),if_pos rfl]
   exact (Zh k c m a2 a3 a4 a5 (k+22) _ _).trans ((Ys k c m a2 a3 a4 a5 (k+21) _ _).trans (Yj k c m a2 a3 a4 a5 (k+20) _ _ w5.1 w5.2))
  ·rw [if_neg (by decide),if_neg (by decide),if_neg (by decide)]
   exact (aaE k c m a2 a3 a4 a5 (k+22) _ _).trans ((aac k c m a2 a3 a4 a5 (k+21) _ _).trans ((Yd k c m a2 a3 a4 a5 (k+20) _ _).trans (WN k c m a2 a3 a4 a5 (k+19) _ _ hl)))
theorem HS (k:Nat):ep k c m f=some (Ay c m f):=by
 unfold ep Ay
 simp only [Prod.eta,HW c hm hl hf,Kf c hm hl hf,De c hm hl hf,ae,iJ]
 by_cases h0:f.1=0
 ·simp [h0]
 ·by_cases h1:f.1=1
  ·simp [h1]
  ·by_cases h2:f.1=2
   ·simp [h2]
   ·simp [h0,h1,h2,bC (b:=8) (l:=m) (by omega),ae]
end
end Go.Ab
set_option maxRecDepth 100000
set_option linter.unusedVariables false
namespace Go.Ab
structure FwT (t:List (Int×List Int)):Prop where
 len:t.length≤40
 kids:∀ x ∈ t,x.2.length≤40
theorem XH {t:List (Int×List Int)} (h:aaA t=true):FwT t:=by
 simp only [aaA,Bool.and_eq_true,decide_eq_true_eq,List.all_eq_true] at h
 refine ⟨h.2,fun x hx=>h.1 x ?_⟩
 rwa [List.take_of_length_le (by omega)]
theorem FwT.wt {t:List (Int×List Int)} (h:FwT t):Wt t:=⟨by have:=h.len;omega,fun x hx=>by have:=h.kids x hx;omega⟩
def nk (t:List (Int×List Int)) (q:Int):Int×List Int:=(t[q.toNat]?).getD (0,[])
def Bz (t:List (Int×List Int)) (x:Int×Int×Int):Bool:=
 decide (0≤x.1)&&decide (x.1<t.length)&&(decide (0≤x.2.1)&&decide (x.2.1≤(nk t x.1).1))&&(decide (0≤x.2.2)&&decide (x.2.2≤((nk t x.1).2.length:Int))) &&
  !(decide (x.2.1<(nk t x.1).1)&&decide (0<x.2.2))
def cP (t:List (Int×List Int)) (s:List (Int×Int×Int)):Bool:=uM t&&s.all (Bz t)
theorem Iw {t:List (Int×List Int)} {q:Int} (h0:0≤q) (h1:q<t.length):idx t q=some (nk t q):=by
 rw [idx,if_pos h0,nk,List.getElem?_eq_getElem (by omega)]
 rfl
theorem xD {t:List (Int×List Int)} {q:Int} (h0:0≤q) (h1:q<t.length):nk t q ∈ t:=by
 rw [nk,List.getElem?_eq_getElem (show q.toNat<t.length by omega)]
 exact List.getElem_mem _
theorem KR {α:Type} (b:Nat) (l:List α) (h:l.length*b≤70368744177664):aL b l=some l:=by
 unfold aL
 rw [ae2,decide_eq_true h,cg]
theorem V9 (a b:Int):ff a b=some (decide (0≤a)&&decide (a≤b)):=by
 rw [ff]
 cases decide ((0:Int)≤a) <;> rfl
section
variable (k:Nat) (hk:9223372036854775808≤k)
include hk
theorem I6 (t:List (Int×List Int)) (ht:Wt t) (s:List (Int×Int×Int)) (hs:s.length≤9223372036854775807):eW k t s=some (cP t s):=by
 have hlen:=ht.len
 rw [eW,GE k hk t ht,ae,cP]
 cases hm:uM t with
 | false=>rfl
 | true=>
  have h30:=In hm
  rw [cond_true,GO (F:=fun n i=>bD k n s (s.length:Int) t i) (l:=s) (fun x => !Bz t x) ?_ ?_ _ (by omega),ae,uw]
  ·rw [List.all_eq_not_any_not,Bool.true_and]
  ·intro n
   simp only [bD,ub,cond_false]
  ·intro n i x hi hx
   simp only [bD,ltN hi,cond_true,fe hx,ae,V9]
   rw [eU (by omega),eZ (z:=(t.length:Int) - 1) (by omega)]
   have e0:decide (x.1≤(t.length:Int) - 1)=decide (x.1<(t.length:Int)):=by
    by_cases h:x.1<(t.length:Int)
    ·rw [decide_eq_true h,decide_eq_true (by omega)]
    ·rw [decide_eq_false h,decide_eq_false (by omega)]
   rw [e0]
   unfold Bz
   by_cases h0:0≤x.1
   ·by_cases h1:x.1<(t.length:Int)
    ·rw [leT h0,ltT h1,Iw h0 h1,ae]
     simp only [Bool.and_self,Bool.not_true,cond_false,Bool.true_and]
     cases (decide (0≤x.2.1)&&decide (x.2.1≤(nk t x.1).1)) with
     | false=>rfl
     | true=>
      cases (decide (0≤x.2.2)&&decide (x.2.2≤((nk t x.1).2.length:Int))) with
      | false=>rfl
      | true=>
       cases decide (x.2.1<(nk t x.1).1) with
       | false=>rfl
       | true=>cases decide (0<x.2.2) <;> rfl
    ·rw [ltF (show (t.length:Int)≤x.1 by omega)]
     simp
   ·rw [leF (show x.1<0 by omega)]
    simp
end
def rM (t:List (Int×List Int)) (s:List (Int×Int×Int)):Int×Int:=
 match s.getLast? with
 | none=>(0,0)
 | some x=>if cP t s=false then (0,0) else if x.2.1<(nk t x.1).1 then (1,x.1) else if x.2.2<((nk t x.1).2.length:Int) then (2,((nk t x.1).2[x.2.2.toNat]?).getD 0) else (3,x.1)
def doB (t:List (Int×List Int)) (s:List (Int×Int×Int)):List (Int×Int×Int):=
 match s.getLast? with
 | none=>s
 | some x=>if cP t s=false then s else if x.2.1<(nk t x.1).1 then s.dropLast++[(x.1,x.2.1+1,x.2.2)] else if x.2.2<((nk t x.1).2.length:Int) then s.dropLast++[(x.1,x.2.1,x.2.2+1)] else s.dropLast
def nR (t:List (Int×List Int)) (s:List (Int×Int×Int)) (q:Int):List (Int×Int×Int):=
 if cP t s=true∧0≤q∧q<t.length then s++[(q,0,0)] else s
def Kt (t:List (Int×List Int)) (x:Int×Int×Int):Int:=(nk t x.1).1 - x.2.1+((nk t x.1).2.length:Int) - x.2.2+1
def Gv (t:List (Int×List Int)) (s:List (Int×Int×Int)):Int:=if cP t s=true then (s.map (Kt t)).sum else 0
theorem mr {α:Type} (s:List α):s=[]∨∃ r x,s=r++[x]:=by
 rcases List.eq_nil_or_concat s with h | ⟨r,x,h⟩
 ·exact .inl h
 ·exact .inr ⟨r,x,by rw [h,List.concat_eq_append]⟩
theorem FP {α:Type} (r:List α) (x:α):(((r++[x]).length:Nat):Int) - 1=(r.length:Int):=by simp
theorem EU {α:Type} (r:List α) (x:α):(r++[x])[r.length]? = some x:=by simp
theorem Nf {α:Type} (r:List α) (x y:α):(r++[x]).set r.length y=r++[y]:=by simp
theorem I4 {α:Type} (r:List α) (x:α):(r++[x]).take r.length=r:=by simp
theorem wq (t:List (Int×List Int)) (r:List (Int×Int×Int)) (x:Int×Int×Int):rM t (r++[x])=if cP t (r++[x])=false then (0,0) else if x.2.1<(nk t x.1).1 then (1,x.1) else if x.2.2<((nk t x.1).2.length:Int) then (2,((nk t x.1).2[x.2.2.toNat]?).getD 0) else (3,x.1):=by
 simp [rM]
theorem An (t:List (Int×List Int)) (r:List (Int×Int×Int)) (x:Int×Int×Int):doB t (r++[x])=if cP t (r++[x])=false then r++[x] else if x.2.1<(nk t x.1).1 then r++[(x.1,x.2.1+1,x.2.2)] else if x.2.2<((nk t x.1).2.length:Int) then r++[(x.1,x.2.1,x.2.2+1)] else r:=by
 simp [doB]
theorem Va (t:List (Int×List Int)) (s:List (Int×Int×Int)):(doB t s).length≤s.length:=by
 rcases mr s with rfl | ⟨r,x,rfl⟩
 ·simp [doB]
 ·rw [An]
  split
  ·exact Nat.le_refl _
  ·split
   ·simp
   ·split <;> simp
theorem Hl (t:List (Int×List Int)) (s:List (Int×Int×Int)) (q:Int):(nR t s q).length≤s.length+1:=by
 unfold nR
 split <;> simp
structure It (t:List (Int×List Int)) (x:Int×Int×Int):Prop where
 h0:0≤x.1
 h1:x.1<t.length
 d0:0≤x.2.1
 d1:x.2.1≤(nk t x.1).1
 c0:0≤x.2.2
 c1:x.2.2≤((nk t x.1).2.length:Int)
 z:x.2.1<(nk t x.1).1→x.2.2=0
theorem Qe {t:List (Int×List Int)} {x:Int×Int×Int}:Bz t x=true↔It t x:=by
 simp only [Bz,Bool.and_eq_true,decide_eq_true_eq,Bool.not_eq_true',Bool.and_eq_false_iff,decide_eq_false_iff_not]
 constructor
 ·rintro ⟨⟨⟨⟨a,b⟩,c,d⟩,e,f⟩,g⟩
  exact ⟨a,b,c,d,e,f,fun h=>by rcases g with g | g <;> omega⟩
 ·rintro ⟨a,b,c,d,e,f,g⟩
  refine ⟨⟨⟨⟨a,b⟩,c,d⟩,e,f⟩,?_⟩
  by_cases h:x.2.1<(nk t x.1).1
  ·exact .inr (by have:=g h;omega)
  ·exact .inl h
theorem fQ {t:List (Int×List Int)} {r:List (Int×Int×Int)} {x:Int×Int×Int}:cP t (r++[x])=true↔uM t=true∧(∀ y ∈ r,It t y)∧It t x:=by
 simp only [cP,Bool.and_eq_true,List.all_eq_true,List.mem_append,List.mem_singleton,Qe]
 constructor
 ·rintro ⟨a,b⟩
  exact ⟨a,fun y hy=>b y (.inl hy),b x (.inr rfl)⟩
 ·rintro ⟨a,b,c⟩
  refine ⟨a,fun y hy => ?_⟩
  rcases hy with h | rfl
  ·exact b y h
  ·exact c
theorem iO {t:List (Int×List Int)} {r:List (Int×Int×Int)}:cP t r=true↔uM t=true∧(∀ y ∈ r,It t y):=by
 simp only [cP,Bool.and_eq_true,List.all_eq_true,Qe]
section
variable (k:Nat) (hk:9223372036854775808≤k)
include hk
theorem H4 (t:List (Int×List Int)) (ht:Wt t) (s:List (Int×Int×Int)) (hs:s.length≤1048576):dv k t s=some (rM t s):=by
 rw [dv]
 rcases mr s with rfl | ⟨r,x,rfl⟩
 ·rfl
 ·have hr:r.length+1≤1048576:=by simpa using hs
  have e1:((((r++[x]).length:Nat):Int)==0)=false:=by simp;omega
  rw [e1,cond_false,I6 k hk t ht _ (by omega),ae,wq]
  cases h:cP t (r++[x]) with
  | false=>rfl
  | true=>
   obtain ⟨hm,hr',hx⟩:=fQ.1 h
   have hl:=ht.kids _ (xD hx.h0 hx.h1)
   rw [Bool.not_true,cond_false,FP,eZ (by omega),fe (EU r x),ae,Iw hx.h0 hx.h1,ae,if_neg (show ¬ (true=false) by simp)]
   by_cases h1:x.2.1<(nk t x.1).1
   ·rw [ltT h1,cond_true,if_pos h1]
   ·rw [ltF (by omega),cond_false,if_neg h1]
    by_cases h2:x.2.2<((nk t x.1).2.length:Int)
    ·have:=hx.c0
     rw [ltT h2,cond_true,if_pos h2,idx,if_pos hx.c0,List.getElem?_eq_getElem (by omega),ae]
     rfl
    ·rw [ltF (by omega),cond_false,if_neg h2]
theorem aeQ (t:List (Int×List Int)) (ht:Wt t) (s:List (Int×Int×Int)) (hs:s.length≤1048576):fc k t s=some (doB t s):=by
 rw [fc,KR _ _ (by omega),ae,H4 k hk t ht s hs,ae]
 rcases mr s with rfl | ⟨r,x,rfl⟩
 ·rfl
 ·have hr:r.length+1≤1048576:=by simpa using hs
  rw [FP,eZ (by omega),wq,An,Int.toNat_natCast,EU,I4]
  simp only [Nf,ae]
  have e1:decide ((0:Int)≤(r.length:Int)∧r.length<(r++[x]).length)=true:=by simp
  have e2:decide ((0:Int)≤(r.length:Int)∧r.length≤(r++[x]).length)=true:=by simp
  have e3:decide (r.length≤(r++[x]).length)=true:=by simp
  rw [e1,e2,e3]
  cases h:cP t (r++[x]) with
  | false=>rfl
  | true=>
   obtain ⟨hm,hr',hx⟩:=fQ.1 h
   have hw:=(Qx hm).work _ (xD hx.h0 hx.h1)
   have hl:=ht.kids _ (xD hx.h0 hx.h1)
   have:=hx.d0
   have:=hx.c0
   rw [if_neg (show ¬ (true=false) by simp),if_neg (show ¬ (true=false) by simp)]
   by_cases h1:x.2.1<(nk t x.1).1
   ·rw [if_pos h1,if_pos h1]
    simp only [beq_self_eq_true,cond_true]
    rw [eZ (by omega)]
   ·rw [if_neg h1,if_neg h1]
    by_cases h2:x.2.2<((nk t x.1).2.length:Int)
    ·rw [if_pos h2,if_pos h2]
     simp only [Int.reduceBEq,cond_true,cond_false]
     rw [eZ (by omega)]
    ·rw [if_neg h2,if_neg h2]
     rfl
theorem MO (t:List (Int×List Int)) (ht:Wt t) (s:List (Int×Int×Int)) (hs:s.length≤1048576) (q:Int):cW k t s q=some (nR t s q):=by
 have hlen:=ht.len
 rw [cW,KR _ _ (by omega),ae,I6 k hk t ht s (by omega),ae,nR]
 cases h:cP t s with
 | false=>simp
 | true=>
  have h30:=In (iO.1 h).1
  rw [Bool.not_true,cond_false,V9,ae,eZ (by omega)]
  by_cases h0:0≤q
  ·by_cases h1:q<t.length
   ·have e2:room (s++[(q,(0:Int),(0:Int))]).length 24=true:=EE (by simp;omega)
    rw [leT h0,leT (show q≤(t.length:Int) - 1 by omega),Bool.and_self,Bool.not_true,cond_false,e2,cond_true,if_pos ⟨rfl,h0,h1⟩]
   ·rw [leF (show (t.length:Int) - 1<q by omega),if_neg (by omega)]
    simp
  ·rw [leF (show q<0 by omega),if_neg (by omega)]
   simp
end
theorem Y8 {t:List (Int×List Int)} {q:Int} (hm:uM t=true) (h0:0≤q) (h1:q<t.length):It t (q,0,0):=
 ⟨h0,h1,by simp,((Qx hm).work _ (xD h0 h1)).1,by simp,by simp,fun _=>rfl⟩
theorem rx {t:List (Int×List Int)} {r:List (Int×Int×Int)} {x:Int×Int×Int} (h:cP t (r++[x])=true):Gv t (r++[x])=Gv t r+Kt t x:=by
 obtain ⟨a,b,c⟩:=fQ.1 h
 rw [Gv,if_pos h,Gv,if_pos (iO.2 ⟨a,b⟩),List.map_append,List.sum_append]
 simp
theorem LG {t:List (Int×List Int)} {r:List (Int×Int×Int)} {x:Int×Int×Int} (h:cP t (r++[x])=true):cP t (doB t (r++[x]))=true∧Gv t (doB t (r++[x]))=Gv t (r++[x]) - 1:=by
 obtain ⟨a,b,c⟩:=fQ.1 h
 obtain ⟨q0,q1,q2,q3,q4,q5,q6⟩:=c
 rw [rx h,An,if_neg (by simp [h])]
 split
 ·rename_i h1
  have h2:cP t (r++[(x.1,x.2.1+1,x.2.2)])=true:=fQ.2 ⟨a,b,⟨q0,q1,by simp only;omega,by simp only;omega,q4,q5,fun _=>q6 h1⟩⟩
  refine ⟨h2,?_⟩
  rw [rx h2]
  unfold Kt
  simp only
  omega
 ·rename_i h1
  split
  ·rename_i h3
   have h2:cP t (r++[(x.1,x.2.1,x.2.2+1)])=true:=fQ.2 ⟨a,b,⟨q0,q1,q2,q3,by simp only;omega,by simp only;omega,fun h=>absurd h h1⟩⟩
   refine ⟨h2,?_⟩
   rw [rx h2]
   unfold Kt
   simp only
   omega
  ·rename_i h3
   refine ⟨iO.2 ⟨a,b⟩,?_⟩
   unfold Kt
   omega
end Go.Ab
set_option linter.unusedVariables false
namespace Go.Ab
abbrev WB:=Int×List (Int×Int×Int)×FR×Int×Int
def AH (op w v:Int):FR:=(op,0,w,v,0,0,0)
def dC (c:CF) (t:List (Int×List Int)) (m:List Int) (w:Int) (x:WB):Bool:=fx c&&decide ((m.length:Int)=cB c)&&uM t&&decide (0≤w∧w<c.1∧0≤x.1∧x.1<16)&&cP t x.2.1
def Lu (d w W:Int):Int:=if W<2∨w<0∨W≤w then -1 else (w+1+d%(W - 1))%W
def toW (pc:Int) (x:WB):WB:=(pc,x.2.1,dB,x.2.2.2)
def gc (pc op w v:Int) (x:WB):WB:=(pc,x.2.1,AH op w v,x.2.2.2)
def pq:Int:=18446744073709551615
def LC (v:Int):Int:=IntKind.i64.wrap v
abbrev WR:=List Int×WB×List EV
def GU (c:CF) (t:List (Int×List Int)) (m:List Int) (w:Int) (x:WB):WR:=
 let r:=dh c m x.2.2.1
 if dd r.2=false then (r.1,(x.1,x.2.1,r.2,x.2.2.2),[])
 else if r.2.2.2.2.2.2.2≠1 then (r.1,toW 1 x,[])
 else (r.1,(9,nR t x.2.1 (LC r.2.2.2.2.1),dB,x.2.2.2),[(2,LC r.2.2.2.2.1,w)])
def pp (c:CF) (m:List Int) (w:Int) (x:WB):WR:=(aW m 1 (mj (aq m 1) 1),(2,x.2.1,AH 4 w 0,c.2.2.2,x.2.2.2.2),[])
def m9 (c:CF) (m:List Int) (w:Int) (x:WB) (d:Int):WR:=
 let r:=dh c m x.2.2.1
 if dd r.2=false then (r.1,(x.1,x.2.1,r.2,x.2.2.2),[])
 else if r.2.2.2.2.2.2.2=1 then (r.1,(4,x.2.1,r.2,x.2.2.2),[])
 else if x.1=2∧0≤Lu d w c.1 then (r.1,gc 3 2 (Lu d w c.1) 0 x,[])
 else if x.2.2.2.1≤0 then (r.1,gc 5 5 w 0 x,[])
 else (r.1,(2,x.2.1,AH 4 w 0,x.2.2.2.1 - 1,x.2.2.2.2),[])
def iA (t:List (Int×List Int)) (m:List Int) (w:Int) (x:WB):WR:=
 (aW m 1 (mj (aq m 1) pq),(if aq m 1=1 then 14 else 9,nR t x.2.1 (LC x.2.2.1.2.2.2.1),if aq m 1=1 then AH 6 w 0 else dB,x.2.2.2),[(2,LC x.2.2.1.2.2.2.1,w)])
def ou (c:CF) (m:List Int) (x:WB):WR:=let r:=dh c m x.2.2.1;(r.1,(6,x.2.1,r.2,x.2.2.2),[])
def lx (m:List Int) (x:WB):WR:=(aW m 1 (mj (aq m 1) pq),(7,x.2.1,x.2.2.1,x.2.2.2.1,0),[])
def AX (f:FR) (v:Int):FR:=(f.1,f.2.1,f.2.2.1,v,f.2.2.2.2)
def dS (c:CF) (m:List Int) (x:WB):WR:=
 let k:=x.2.2.2.2
 let most:=2+2*c.1
 let v:=(k - 2)/2
 if k<0∨most≤k then (m,(8,x.2.1,AX x.2.2.1 0,x.2.2.2.1,0),[])
 else
  let f:=if k=0 then AX x.2.2.1 (aq m 4) else if k=1 then x.2.2.1 else if k%2=0 then AX x.2.2.1 (aq m (Fs c v)) else x.2.2.1
  let some:=if k=0 then false else if k=1 then decide (aq m 5≠f.2.2.2.1) else if k%2=0 then false else decide (0<Fg (aq m (HY c v)) f.2.2.2.1)
  if some=true then (m,toW 1 x,[])
  else if k+1=most then (m,(8,x.2.1,AX f 0,x.2.2.2.1,0),[])
  else (m,(7,x.2.1,f,x.2.2.2.1,k+1),[])
def fH (c:CF) (m:List Int) (x:WB):WR:=let r:=dh c m x.2.2.1;if dd r.2=true then (r.1,toW 1 x,[]) else (r.1,(x.1,x.2.1,r.2,x.2.2.2),[])
def Hj (t:List (Int×List Int)) (m:List Int) (w:Int) (x:WB):WR:=
 let a:=rM t x.2.1
 if a.1=1 then (m,(x.1,doB t x.2.1,x.2.2),[]) else if a.1=2 then (m,(10,x.2),[]) else if a.1=3 then (m,(15,x.2),[]) else (m,gc 0 1 w 0 x,[])
def oO (t:List (Int×List Int)) (m:List Int) (w:Int) (x:WB):WR:=
 let a:=rM t x.2.1
 if a.1≠2 then (m,toW 9 x,[]) else (aW m 0 (mj (aq m 0) 1),(11,doB t x.2.1,AH 0 w (IntKind.u64.wrap a.2),x.2.2.2),[(3,a.2,w)])
def og (c:CF) (m:List Int) (w:Int) (x:WB):WR:=
 let r:=dh c m x.2.2.1
 if dd r.2=false then (r.1,(x.1,x.2.1,r.2,x.2.2.2),[]) else if r.2.2.2.2.2.2.2=2 then (r.1,gc 12 3 w r.2.2.2.2.1 x,[]) else (r.1,toW 13 x,[])
def ow (c:CF) (t:List (Int×List Int)) (m:List Int) (w:Int) (x:WB):WR:=
 let r:=dh c m x.2.2.1
 if dd r.2=false then (r.1,(x.1,x.2.1,r.2,x.2.2.2),[])
 else if r.2.2.2.2.2.2.2=2 then (r.1,(9,nR t x.2.1 (LC r.2.2.2.2.1),dB,x.2.2.2),[(2,LC r.2.2.2.2.1,w)]) else (r.1,toW 13 x,[])
def Gn (m:List Int) (w:Int) (x:WB):WR:=if aq m 1=0 then (m,gc 14 6 w 0 x,[]) else (m,toW 9 x,[])
def ot (c:CF) (m:List Int) (x:WB):WR:=let r:=dh c m x.2.2.1;if dd r.2=true then (r.1,toW 9 x,[]) else (r.1,(x.1,x.2.1,r.2,x.2.2.2),[])
def oq (t:List (Int×List Int)) (m:List Int) (w:Int) (x:WB):WR:=
 let a:=rM t x.2.1
 if a.1≠3 then (m,toW 9 x,[])
 else (aW m 0 (mj (aq m 0) pq),(if doB t x.2.1=[] then (0,[],AH 1 w 0,x.2.2.2) else (9,doB t x.2.1,dB,x.2.2.2)),if aq m 0=1 then [(4,a.2,w),(5,0,w)] else [(4,a.2,w)])
def bz (c:CF) (t:List (Int×List Int)) (m:List Int) (w:Int) (x:WB) (d:Int):WR:=
 if dC c t m w x=false then (m,x,[])
 else if x.1=0 then GU c t m w x else if x.1=1 then pp c m w x else if x.1=2∨x.1=3 then m9 c m w x d else if x.1=4 then iA t m w x
 else if x.1=5 then ou c m x else if x.1=6 then lx m x else if x.1=7 then dS c m x else if x.1=8 then fH c m x
 else if x.1=9 then Hj t m w x else if x.1=10 then oO t m w x else if x.1=11 then og c m w x else if x.1=12 then ow c t m w x
 else if x.1=13 then Gn m w x else if x.1=14 then ot c m x else oq t m w x
theorem XZ {d w W:Int} (hd:0≤d∧d≤18446744073709551615) (hW:W≤8):eF d w W=some (Lu d w W):=by
 unfold eF Lu
 by_cases h2:W<2
 ·rw [ltT h2,cond_true,if_pos (.inl h2)]
 ·rw [ltF (by omega),cond_false]
  unfold cY
  by_cases h0:0≤w
  ·rw [leT h0,cond_true]
   by_cases h1:w<W
   ·rw [ltT h1,ae,Bool.not_true,cond_false,if_neg (by omega),gA (z:=W) (by omega) (by omega),gA (z:=W - 1) (by omega) (by omega),gA (z:=w) (by omega) (by omega),gA (z:=w+1) (by omega) (by omega),Bm,decide_eq_false (by omega),Bool.not_false,cond_true,Bm,decide_eq_false (by omega),Bool.not_false,cond_true,Int.tmod_eq_emod_of_nonneg hd.1]
    have e1:=Int.emod_nonneg d (show W - 1≠0 by omega)
    have e2:=Int.emod_lt_of_pos d (show 0<W - 1 by omega)
    have e3:=Int.emod_nonneg (w+1+d%(W - 1)) (show W≠0 by omega)
    have e4:=Int.emod_lt_of_pos (w+1+d%(W - 1)) (show 0<W by omega)
    rw [gA (by omega) (by omega),Int.tmod_eq_emod_of_nonneg (by omega),eZ (by omega)]
   ·rw [ltF (by omega),ae,Bool.not_false,cond_true,if_pos (by omega)]
  ·rw [leF (by omega),cond_false,ae,Bool.not_false,cond_true,if_pos (by omega)]
theorem H6 {k:Nat} (hk:9223372036854775808≤k) (c:CF) {t:List (Int×List Int)} (ht:Wt t) (m:List Int) (w:Int) (x:WB) (hs:x.2.1.length≤1000):gS k c t m w x=some (dC c t m w x):=by
 unfold gS dC
 simp only [Prod.eta,fj,wi,ae]
 rw [GE (k+4) (by omega) t ht,I6 (k+3) (by omega) t ht x.2.1 (by omega)]
 cases hm:fx c with
 | false=>rfl
 | true=>
  rw [cond_true,iJ,Bool.true_and]
  by_cases h1:(m.length:Int)=cB c
  ·rw [decide_eq_true h1,cond_true,Bool.true_and,ae]
   cases ht2:uM t with
   | false=>rfl
   | true=>
    rw [cond_true,Bool.true_and]
    by_cases h2:0≤w
    ·rw [leT h2,cond_true]
     by_cases h3:w<c.1
     ·rw [ltT h3,cond_true]
      by_cases h4:0≤x.1
      ·rw [leT h4,cond_true]
       by_cases h5:x.1<16
       ·rw [ltT h5,cond_true,ae,decide_eq_true ⟨h2,h3,h4,h5⟩,Bool.true_and]
       ·rw [ltF (by omega),cond_false,decide_eq_false (by omega)];rfl
      ·rw [leF (by omega),cond_false,decide_eq_false (by omega)];rfl
     ·rw [ltF (by omega),cond_false,decide_eq_false (by omega)];rfl
    ·rw [leF (by omega),cond_false,decide_eq_false (by omega)];rfl
  ·rw [decide_eq_false h1,cond_false]
   rfl
def dj (x:WB):Bool:=decide (2≤x.1∧x.1≤6)
theorem TF (w:Int):mt w=some (0,[],AH 1 w 0,0,0):=rfl
end Go.Ab
set_option linter.unusedVariables false
set_option linter.unusedSimpArgs false
set_option maxRecDepth 100000
set_option maxHeartbeats 4000000
namespace Go.Ab
theorem b6 (op w v:Int):aF op w v=some (AH op w v):=rfl
theorem Bo:room 1 24=true:=rfl
theorem Wj:room 2 24=true:=rfl
theorem pG {a b:Int} (h:a=b):(a==b)=true:=by simp [h]
theorem bA {a b:Int} (h:a≠b):(a==b)=false:=by simp [h]
theorem GC (c:CF) (m:List Int) (f:FR):(Ay c m f=dh c m f∧((f.1==0)=true∨(f.1==0)=false∧((f.1==1)=true∨(f.1==1)=false∧(f.1==2)=true)))∨(rS c m f=dh c m f∧(f.1==0)=false∧(f.1==1)=false∧(f.1==2)=false∧((f.1==3)=true∨(f.1==3)=false∧(f.1==4)=true))∨(xb c m f=dh c m f∧(f.1==0)=false∧(f.1==1)=false∧(f.1==2)=false∧(f.1==3)=false∧(f.1==4)=false):=by
 unfold dh fB
 simp only [iJ,decide_eq_true_eq,decide_eq_false_iff_not]
 by_cases h:f.1=0∨f.1=1∨f.1=2
 ·rw [if_pos h];exact .inl ⟨rfl,by omega⟩
 ·rw [if_neg h]
  by_cases g:f.1=3∨f.1=4
  ·rw [if_pos g];exact .inr (.inl ⟨rfl,by omega⟩)
  ·rw [if_neg g];exact .inr (.inr ⟨rfl,by omega⟩)
section
variable {k:Nat} (hk:9223372036854779000≤k) (c:CF) {t:List (Int×List Int)} (ht:Wt t) {m:List Int} (hm:Wm m) (hl:m.length≤1000) (w:Int) {x:WB} (hf:Wf x.2.2.1) (hs:x.2.1.length≤1000) (hsp:x.2.2.2.1≤9223372036854775807) {d:Int} (hd:0≤d∧d≤18446744073709551615)
include hk ht hm hl hf hs hsp hd
theorem Ry {β:Type} (K:List Int×FR→Option β):uI k c m x.2.2.1 K=K (dh c m x.2.2.1):=by
 have _h:=And.intro hsp hd
 have _h2:=And.intro ht hs
 have hdk:=HS c hm hl hf (k+31)
 have hij:=CJ c hm hl hf
 have hev:=Co (k:=k+40) (by omega) c hm hl hf
 unfold uI
 rcases GC c m x.2.2.1 with ⟨h,e | ⟨e,e1 | e1⟩⟩ | ⟨h,e,e1,e2,e3 | e3⟩ | ⟨h,e⟩
 all_goals simp only [*,cond_true,cond_false,ae]
theorem ME:iw k c t m w x d=some (bz c t m w x d):=by
 have _h1:=hsp
 have _h2:=hd
 unfold iw
 try simp only [Prod.eta]
 rw [bC (by omega),ae,bC (by omega),ae,H6 (by omega) c ht m w x hs,ae]
 cases hmay:dC c t m w x with
 | false=>
  unfold bz
  rw [hmay]
  rfl
 | true=>
  rw [Bool.not_true,cond_false]
  have hb:fx c=true∧(m.length:Int)=cB c∧0≤w∧w<c.1∧0≤x.1∧x.1<16:=by
   unfold dC at hmay
   simp only [Bool.and_eq_true,decide_eq_true_eq] at hmay
   exact ⟨hmay.1.1.1.1,hmay.1.1.1.2,hmay.1.2⟩
  obtain ⟨hmc,hlen,hw0,hw1,hp0,hp1⟩:=hb
  have hc:=bc hmc
  have hsz:=lg hmc
  have hadd:∀ i v:Int,0≤i→i<2→cQ m i v=some (aW m i (mj (aq m i) v),aq m i):=fun i v h0 h1=>by rw [WD hl,if_pos (by omega)]
  have hcg:=fun K=>Ry (k:=k) (β:=List Int×WB×List EV) hk c ht hm hl hf hs hsp hd K
  have hst:=fun q=>MO (k+36) (by omega) t ht x.2.1 (by omega) q
  have hdo:=aeQ (k+36) (by omega) t ht x.2.1 (by omega)
  have hnx:=H4 (k+37) (by omega) t ht x.2.1 (by omega)
  have hvi:=XZ (w:=w) (W:=c.1) hd (by omega)
  rcases (show x.1=0∨x.1=1∨x.1=2∨x.1=3∨x.1=4∨x.1=5∨x.1=6∨x.1=7∨x.1=8∨x.1=9∨x.1=10∨x.1=11∨x.1=12∨x.1=13∨x.1=14∨x.1=15 by omega) with hp | hp | hp | hp | hp | hp | hp | hp | hp | hp | hp | hp | hp | hp | hp | hp
  ·have hW:bz c t m w x d=GU c t m w x:=by unfold bz;rw [hmay];simp [hp]
   rw [hW]
   rw [pG hp,cond_true]
   unfold GU
   rw [hcg]
   simp only [cond_true,cond_false,ae,i7,Prod.eta,b6]
   generalize dh c m x.2.2.1=r
   cases ho:dd r.2 with
   | false=>simp [ho,hp]
   | true=>
    by_cases h9:r.2.2.2.2.2.2.2=1
    ·simp [ho,h9,hst,ae,Bo,dB,LC]
    ·have q9:(r.2.2.2.2.2.2.2 !=1)=true:=by simp [h9]
     simp [ho,h9,q9,toW,dB]
  ·have hW:bz c t m w x d=pp c m w x:=by unfold bz;rw [hmay];simp [hp]
   rw [hW]
   rw [bA (show x.1≠0 by omega),cond_false,pG hp,cond_true]
   rw [hadd 1 1 (by decide) (by decide),ae,b6,ae]
   rfl
  ·have hW:bz c t m w x d=m9 c m w x d:=by unfold bz;rw [hmay];simp [hp]
   rw [hW]
   rw [bA (show x.1≠0 by omega),cond_false,bA (show x.1≠1 by omega),cond_false,pG hp,cond_true]
   rw [hvi,ae]
   unfold m9
   rw [hcg]
   simp only [cond_true,cond_false,ae,i7,Prod.eta,b6,pG hp]
   generalize dh c m x.2.2.1=r
   cases ho:dd r.2 with
   | false=>simp [ho,hp]
   | true=>
    by_cases h9:r.2.2.2.2.2.2.2=1
    ·simp [ho,h9]
    ·have q9:=bA h9
     by_cases h8:0≤Lu d w c.1
     ·simp [ho,h9,q9,hp,h8,gc]
     ·by_cases h7:x.2.2.2.1≤0
      ·simp [ho,h9,q9,hp,h8,h7,gc]
      ·rw [eZ (z:=x.2.2.2.1 - 1) (by omega)]
       simp [ho,h9,q9,hp,h8,h7,gc]
  ·have hW:bz c t m w x d=m9 c m w x d:=by unfold bz;rw [hmay];simp [hp]
   rw [hW]
   rw [bA (show x.1≠0 by omega),cond_false,bA (show x.1≠1 by omega),cond_false,bA (show x.1≠2 by omega),cond_false,pG hp,cond_true]
   rw [hvi,ae]
   unfold m9
   rw [hcg]
   simp only [cond_true,cond_false,ae,i7,Prod.eta,b6,bA (show x.1≠2 by omega)]
   generalize dh c m x.2.2.1=r
   cases ho:dd r.2 with
   | false=>simp [ho,hp]
   | true=>
    by_cases h9:r.2.2.2.2.2.2.2=1
    ·simp [ho,h9]
    ·have q9:=bA h9
     by_cases h7:x.2.2.2.1≤0
     ·simp [ho,h9,q9,hp,h7,gc]
     ·rw [eZ (z:=x.2.2.2.1 - 1) (by omega)]
      simp [ho,h9,q9,hp,h7,gc]
  ·have hW:bz c t m w x d=iA t m w x:=by unfold bz;rw [hmay];simp [hp]
   rw [hW]
   rw [bA (show x.1≠0 by omega),cond_false,bA (show x.1≠1 by omega),cond_false,bA (show x.1≠2 by omega),cond_false,bA (show x.1≠3 by omega),cond_false,pG hp,cond_true]
   rw [hadd 1 _ (by decide) (by decide),ae,b6,ae,hst,ae,ae,Bo,cond_true,cond_true,iJ]
   by_cases h9:aq m 1=1
   ·simp [iA,h9,pq,LC]
   ·simp [iA,h9,pq,LC,dB]
  ·have hW:bz c t m w x d=ou c m x:=by unfold bz;rw [hmay];simp [hp]
   rw [hW]
   rw [bA (show x.1≠0 by omega),cond_false,bA (show x.1≠1 by omega),cond_false,bA (show x.1≠2 by omega),cond_false,bA (show x.1≠3 by omega),cond_false,bA (show x.1≠4 by omega),cond_false,pG hp,cond_true]
   unfold ou
   rw [hcg]
   simp only [cond_true,cond_false,ae,i7,Prod.eta,b6]
  ·have hW:bz c t m w x d=lx m x:=by unfold bz;rw [hmay];simp [hp]
   rw [hW]
   rw [bA (show x.1≠0 by omega),cond_false,bA (show x.1≠1 by omega),cond_false,bA (show x.1≠2 by omega),cond_false,bA (show x.1≠3 by omega),cond_false,bA (show x.1≠4 by omega),cond_false,bA (show x.1≠5 by omega),cond_false,pG hp,cond_true]
   rw [hadd 1 _ (by decide) (by decide),ae]
   rfl
  ·have hW:bz c t m w x d=dS c m x:=by unfold bz;rw [hmay];simp [hp]
   rw [hW]
   rw [bA (show x.1≠0 by omega),cond_false,bA (show x.1≠1 by omega),cond_false,bA (show x.1≠2 by omega),cond_false,bA (show x.1≠3 by omega),cond_false,bA (show x.1≠4 by omega),cond_false,bA (show x.1≠5 by omega),cond_false,bA (show x.1≠6 by omega),cond_false,pG hp,cond_true]
   have hM:IntKind.i64.wrap (2+IntKind.i64.wrap (2*c.1))=2+2*c.1:=by rw [eZ (z:=2*c.1) (by omega),eZ (by omega)]
   rw [hM]
   by_cases h1:x.2.2.2.2<0
   ·rw [ltT h1,cond_true]
    simp only [dS,if_pos (show x.2.2.2.2<0∨2+2*c.1≤x.2.2.2.2 from .inl h1),AX]
   ·rw [ltF (by omega),cond_false]
    by_cases h2:2+2*c.1≤x.2.2.2.2
    ·rw [leT h2,cond_true]
     simp only [dS,if_pos (show x.2.2.2.2<0∨2+2*c.1≤x.2.2.2.2 from .inr h2),AX]
    ·rw [leF (by omega),cond_false,eZ (z:=x.2.2.2.2+1) (by omega)]
     have hn:¬ (x.2.2.2.2<0∨2+2*c.1≤x.2.2.2.2):=by omega
     by_cases e0:x.2.2.2.2=0
     ·rw [pG e0,cond_true,dG,ae]
      by_cases h5:x.2.2.2.2+1=2+2*c.1
      ·rw [pG h5,cond_true]
       simp only [dS,if_neg hn,if_pos e0,Bool.false_eq_true,if_false,if_pos h5,AX]
      ·rw [bA h5,cond_false]
       simp only [dS,if_neg hn,if_pos e0,Bool.false_eq_true,if_false,if_neg h5,AX,hp]
     ·rw [bA e0,cond_false]
      by_cases e1:x.2.2.2.2=1
      ·rw [pG e1,cond_true,dG,ae,Bm]
       by_cases h9:aq m 5=x.2.2.1.2.2.2.1
       ·rw [decide_eq_true h9,Bool.not_true,cond_false]
        skip
        by_cases h5:x.2.2.2.2+1=2+2*c.1
        ·rw [pG h5,cond_true]
         simp only [dS,if_neg hn,if_neg e0,if_pos e1,h9,ne_eq,not_true_eq_false,decide_false,Bool.false_eq_true,if_false,if_pos h5,AX]
        ·rw [bA h5,cond_false]
         simp only [dS,if_neg hn,if_neg e0,if_pos e1,h9,ne_eq,not_true_eq_false,decide_false,Bool.false_eq_true,if_false,if_neg h5,AX,hp]
       ·rw [decide_eq_false h9,Bool.not_false,cond_true]
        simp only [dS,if_neg hn,if_neg e0,if_pos e1,h9,ne_eq,not_false_eq_true,decide_true,if_true,toW,dB]
      ·rw [bA e1,cond_false,Int.tmod_eq_emod_of_nonneg (by omega),eZ (z:=x.2.2.2.2 - 2) (by omega),Int.tdiv_eq_ediv_of_nonneg (by omega),eZ (z:=(x.2.2.2.2 - 2)/2) (by omega)]
       by_cases e2:x.2.2.2.2%2=0
       ·rw [pG e2,cond_true,OI,ae,dG,ae]
        skip
        by_cases h5:x.2.2.2.2+1=2+2*c.1
        ·rw [pG h5,cond_true]
         simp only [dS,if_neg hn,if_neg e0,if_neg e1,if_pos e2,Bool.false_eq_true,if_false,if_pos h5,AX]
        ·rw [bA h5,cond_false]
         simp only [dS,if_neg hn,if_neg e0,if_neg e1,if_pos e2,Bool.false_eq_true,if_false,if_neg h5,AX,hp]
       ·rw [bA e2,cond_false,Ko,ae,dG,ae,Ia,ae]
        by_cases h9:0<Fg (aq m (HY c ((x.2.2.2.2 - 2)/2))) x.2.2.1.2.2.2.1
        ·rw [ltT h9,cond_true]
         simp only [dS,if_neg hn,if_neg e0,if_neg e1,if_neg e2,h9,decide_true,if_true,toW,dB]
        ·rw [ltF (by omega),cond_false]
         skip
         by_cases h5:x.2.2.2.2+1=2+2*c.1
         ·rw [pG h5,cond_true]
          simp only [dS,if_neg hn,if_neg e0,if_neg e1,if_neg e2,h9,decide_false,Bool.false_eq_true,if_false,if_pos h5,AX]
         ·rw [bA h5,cond_false]
          simp only [dS,if_neg hn,if_neg e0,if_neg e1,if_neg e2,h9,decide_false,Bool.false_eq_true,if_false,if_neg h5,AX,hp]
  ·have hW:bz c t m w x d=fH c m x:=by unfold bz;rw [hmay];simp [hp]
   rw [hW]
   rw [bA (show x.1≠0 by omega),cond_false,bA (show x.1≠1 by omega),cond_false,bA (show x.1≠2 by omega),cond_false,bA (show x.1≠3 by omega),cond_false,bA (show x.1≠4 by omega),cond_false,bA (show x.1≠5 by omega),cond_false,bA (show x.1≠6 by omega),cond_false,bA (show x.1≠7 by omega),cond_false,pG hp,cond_true]
   unfold fH
   rw [hcg]
   simp only [cond_true,cond_false,ae,i7,Prod.eta,b6]
   generalize dh c m x.2.2.1=r
   cases ho:dd r.2 <;> simp [ho,hp,toW,dB]
  ·have hW:bz c t m w x d=Hj t m w x:=by unfold bz;rw [hmay];simp [hp]
   rw [hW]
   rw [bA (show x.1≠0 by omega),cond_false,bA (show x.1≠1 by omega),cond_false,bA (show x.1≠2 by omega),cond_false,bA (show x.1≠3 by omega),cond_false,bA (show x.1≠4 by omega),cond_false,bA (show x.1≠5 by omega),cond_false,bA (show x.1≠6 by omega),cond_false,bA (show x.1≠7 by omega),cond_false,bA (show x.1≠8 by omega),cond_false,pG hp,cond_true]
   rw [hnx,ae,iJ,iJ,iJ,hdo,ae,b6,ae]
   unfold Hj
   by_cases h1:(rM t x.2.1).1=1
   ·simp [h1,hp]
   ·by_cases h2:(rM t x.2.1).1=2
    ·simp [h2]
    ·by_cases h3:(rM t x.2.1).1=3
     ·simp [h3]
     ·simp [h1,h2,h3,gc]
  ·have hW:bz c t m w x d=oO t m w x:=by unfold bz;rw [hmay];simp [hp]
   rw [hW]
   rw [bA (show x.1≠0 by omega),cond_false,bA (show x.1≠1 by omega),cond_false,bA (show x.1≠2 by omega),cond_false,bA (show x.1≠3 by omega),cond_false,bA (show x.1≠4 by omega),cond_false,bA (show x.1≠5 by omega),cond_false,bA (show x.1≠6 by omega),cond_false,bA (show x.1≠7 by omega),cond_false,bA (show x.1≠8 by omega),cond_false,bA (show x.1≠9 by omega),cond_false,pG hp,cond_true]
   rw [hnx,ae,Bm,hadd 0 _ (by decide) (by decide),ae,Bo,cond_true,hdo,ae,b6,ae]
   unfold oO
   by_cases h2:(rM t x.2.1).1=2
   ·simp [h2]
   ·simp [h2,toW,dB]
  ·have hW:bz c t m w x d=og c m w x:=by unfold bz;rw [hmay];simp [hp]
   rw [hW]
   rw [bA (show x.1≠0 by omega),cond_false,bA (show x.1≠1 by omega),cond_false,bA (show x.1≠2 by omega),cond_false,bA (show x.1≠3 by omega),cond_false,bA (show x.1≠4 by omega),cond_false,bA (show x.1≠5 by omega),cond_false,bA (show x.1≠6 by omega),cond_false,bA (show x.1≠7 by omega),cond_false,bA (show x.1≠8 by omega),cond_false,bA (show x.1≠9 by omega),cond_false,bA (show x.1≠10 by omega),cond_false,pG hp,cond_true]
   unfold og
   rw [hcg]
   simp only [cond_true,cond_false,ae,i7,Prod.eta,b6]
   generalize dh c m x.2.2.1=r
   cases ho:dd r.2 with
   | false=>simp [ho,hp]
   | true=>
    by_cases h9:r.2.2.2.2.2.2.2=2
    ·simp [ho,h9,gc]
    ·have q9:=bA h9
     simp [ho,h9,q9,toW,dB]
  ·have hW:bz c t m w x d=ow c t m w x:=by unfold bz;rw [hmay];simp [hp]
   rw [hW]
   rw [bA (show x.1≠0 by omega),cond_false,bA (show x.1≠1 by omega),cond_false,bA (show x.1≠2 by omega),cond_false,bA (show x.1≠3 by omega),cond_false,bA (show x.1≠4 by omega),cond_false,bA (show x.1≠5 by omega),cond_false,bA (show x.1≠6 by omega),cond_false,bA (show x.1≠7 by omega),cond_false,bA (show x.1≠8 by omega),cond_false,bA (show x.1≠9 by omega),cond_false,bA (show x.1≠10 by omega),cond_false,bA (show x.1≠11 by omega),cond_false,pG hp,cond_true]
   unfold ow
   rw [hcg]
   simp only [cond_true,cond_false,ae,i7,Prod.eta,b6]
   generalize dh c m x.2.2.1=r
   cases ho:dd r.2 with
   | false=>simp [ho,hp]
   | true=>
    by_cases h9:r.2.2.2.2.2.2.2=2
    ·simp [ho,h9,hst,ae,Bo,dB,LC]
    ·have q9:=bA h9
     simp [ho,h9,q9,toW,dB]
  ·have hW:bz c t m w x d=Gn m w x:=by unfold bz;rw [hmay];simp [hp]
   rw [hW]
   rw [bA (show x.1≠0 by omega),cond_false,bA (show x.1≠1 by omega),cond_false,bA (show x.1≠2 by omega),cond_false,bA (show x.1≠3 by omega),cond_false,bA (show x.1≠4 by omega),cond_false,bA (show x.1≠5 by omega),cond_false,bA (show x.1≠6 by omega),cond_false,bA (show x.1≠7 by omega),cond_false,bA (show x.1≠8 by omega),cond_false,bA (show x.1≠9 by omega),cond_false,bA (show x.1≠10 by omega),cond_false,bA (show x.1≠11 by omega),cond_false,bA (show x.1≠12 by omega),cond_false,pG hp,cond_true]
   rw [dG,ae,iJ,b6,ae]
   by_cases h9:aq m 1=0
   ·simp [Gn,h9,gc]
   ·simp [Gn,h9,toW,dB]
  ·have hW:bz c t m w x d=ot c m x:=by unfold bz;rw [hmay];simp [hp]
   rw [hW]
   rw [bA (show x.1≠0 by omega),cond_false,bA (show x.1≠1 by omega),cond_false,bA (show x.1≠2 by omega),cond_false,bA (show x.1≠3 by omega),cond_false,bA (show x.1≠4 by omega),cond_false,bA (show x.1≠5 by omega),cond_false,bA (show x.1≠6 by omega),cond_false,bA (show x.1≠7 by omega),cond_false,bA (show x.1≠8 by omega),cond_false,bA (show x.1≠9 by omega),cond_false,bA (show x.1≠10 by omega),cond_false,bA (show x.1≠11 by omega),cond_false,bA (show x.1≠12 by omega),cond_false,bA (show x.1≠13 by omega),cond_false,pG hp,cond_true]
   unfold ot
   rw [hcg]
   simp only [cond_true,cond_false,ae,i7,Prod.eta,b6]
   generalize dh c m x.2.2.1=r
   cases ho:dd r.2 <;> simp [ho,hp,toW,dB]
  ·have hW:bz c t m w x d=oq t m w x:=by unfold bz;rw [hmay];simp [hp]
   rw [hW]
   rw [bA (show x.1≠0 by omega),cond_false,bA (show x.1≠1 by omega),cond_false,bA (show x.1≠2 by omega),cond_false,bA (show x.1≠3 by omega),cond_false,bA (show x.1≠4 by omega),cond_false,bA (show x.1≠5 by omega),cond_false,bA (show x.1≠6 by omega),cond_false,bA (show x.1≠7 by omega),cond_false,bA (show x.1≠8 by omega),cond_false,bA (show x.1≠9 by omega),cond_false,bA (show x.1≠10 by omega),cond_false,bA (show x.1≠11 by omega),cond_false,bA (show x.1≠12 by omega),cond_false,bA (show x.1≠13 by omega),cond_false,bA (show x.1≠14 by omega),cond_false,pG hp,cond_true]
   simp only [hnx,ae,Bm,hadd 0 _ (by decide) (by decide),Bo,Wj,cond_true,hdo,b6,iJ]
   unfold oq
   by_cases h3:(rM t x.2.1).1=3
   ·by_cases h1:aq m 0=1
    ·by_cases h2:doB t x.2.1=[]
     ·simp [h3,h1,h2,pq]
     ·have h4:¬ (((doB t x.2.1).length:Int)=0):=by simp [h2]
      simp [h3,h1,h2,h4,pq,dB]
    ·by_cases h2:doB t x.2.1=[]
     ·simp [h3,h1,h2,pq]
     ·have h4:¬ (((doB t x.2.1).length:Int)=0):=by simp [h2]
      simp [h3,h1,h2,h4,pq,dB]
   ·simp [h3,toW,dB]
end
end Go.Ab
set_option linter.unusedVariables false
namespace Go.Ab
theorem gC {c:CF} {t:List (Int×List Int)} {m:List Int} {w:Int} {x:WB} {d:Int} {P:WR→Prop} (hs:dC c t m w x=false→P (m,x,[])) (p0:dC c t m w x=true→x.1=0→P (GU c t m w x)) (p1:dC c t m w x=true→x.1=1→P (pp c m w x)) (p2:dC c t m w x=true→x.1=2∨x.1=3→P (m9 c m w x d)) (p4:dC c t m w x=true→x.1=4→P (iA t m w x)) (p5:dC c t m w x=true→x.1=5→P (ou c m x)) (p6:dC c t m w x=true→x.1=6→P (lx m x)) (p7:dC c t m w x=true→x.1=7→P (dS c m x)) (p8:dC c t m w x=true→x.1=8→P (fH c m x)) (p9:dC c t m w x=true→x.1=9→P (Hj t m w x)) (p10:dC c t m w x=true→x.1=10→P (oO t m w x)) (p11:dC c t m w x=true→x.1=11→P (og c m w x)) (p12:dC c t m w x=true→x.1=12→P (ow c t m w x)) (p13:dC c t m w x=true→x.1=13→P (Gn m w x)) (p14:dC c t m w x=true→x.1=14→P (ot c m x)) (p15:dC c t m w x=true→x.1=15→P (oq t m w x)):P (bz c t m w x d):=by
 unfold bz
 by_cases hm:dC c t m w x=false
 ·rw [if_pos hm];exact hs hm
 rw [if_neg hm]
 have hm':dC c t m w x=true:=by simpa using hm
 have hb:0≤x.1∧x.1<16:=by
  unfold dC at hm'
  simp only [Bool.and_eq_true,decide_eq_true_eq] at hm'
  exact hm'.1.2.2.2
 by_cases e0:x.1=0
 ·rw [if_pos e0];exact p0 hm' e0
 rw [if_neg e0]
 by_cases e1:x.1=1
 ·rw [if_pos e1];exact p1 hm' e1
 rw [if_neg e1]
 by_cases e2:x.1=2∨x.1=3
 ·rw [if_pos e2];exact p2 hm' e2
 rw [if_neg e2]
 by_cases e4:x.1=4
 ·rw [if_pos e4];exact p4 hm' e4
 rw [if_neg e4]
 by_cases e5:x.1=5
 ·rw [if_pos e5];exact p5 hm' e5
 rw [if_neg e5]
 by_cases e6:x.1=6
 ·rw [if_pos e6];exact p6 hm' e6
 rw [if_neg e6]
 by_cases e7:x.1=7
 ·rw [if_pos e7];exact p7 hm' e7
 rw [if_neg e7]
 by_cases e8:x.1=8
 ·rw [if_pos e8];exact p8 hm' e8
 rw [if_neg e8]
 by_cases e9:x.1=9
 ·rw [if_pos e9];exact p9 hm' e9
 rw [if_neg e9]
 by_cases e10:x.1=10
 ·rw [if_pos e10];exact p10 hm' e10
 rw [if_neg e10]
 by_cases e11:x.1=11
 ·rw [if_pos e11];exact p11 hm' e11
 rw [if_neg e11]
 by_cases e12:x.1=12
 ·rw [if_pos e12];exact p12 hm' e12
 rw [if_neg e12]
 by_cases e13:x.1=13
 ·rw [if_pos e13];exact p13 hm' e13
 rw [if_neg e13]
 by_cases e14:x.1=14
 ·rw [if_pos e14];exact p14 hm' e14
 rw [if_neg e14]
 exact p15 hm' (by omega)
end Go.Ab
set_option linter.unusedVariables false
namespace Go.Ab
theorem L3 (c:CF) (m:List Int) (f:FR):One m (nJ c m f).1:=by
 unfold nJ
 repeat' split
 all_goals first | exact One.same m | exact One.store m _ _ | exact One.cas m _ _ _
theorem Rp (c:CF) (m:List Int) (f:FR):One m (E3 c m f).1:=by
 unfold E3
 repeat' split
 all_goals first | exact One.same m | exact One.store m _ _ | exact One.cas m _ _ _
theorem Jp (c:CF) (m:List Int) (f:FR):One m (iF c m f).1:=by
 unfold iF
 dsimp only
 repeat' split
 all_goals first | exact One.same m | exact One.store m _ _ | exact One.cas m _ _ _
theorem Jv (c:CF) (m:List Int) (f:FR):One m (dh c m f).1:=by
 unfold dh Ay
 repeat' split
 all_goals first | exact One.same m | exact L3 c m f | exact Rp c m f | exact Jp c m f | exact E9 c m f
section
variable {c:CF} {t:List (Int×List Int)} {m:List Int} {w:Int} {x:WB} {d:Int}
theorem AJ:One m (bz c t m w x d).1:=by
 refine gC (P:=fun r=>One m r.1) (fun _=>One.same m) ?_ ?_ ?_ ?_ ?_ ?_ ?_ ?_ ?_ ?_ ?_ ?_ ?_ ?_ ?_
 all_goals intro _ _
 all_goals dsimp only [GU,pp,m9,iA,ou,lx,dS,fH,Hj,oO,og,ow,Gn,ot,oq]
 all_goals repeat' split
 all_goals (try dsimp only)
 all_goals first | exact One.same m | exact One.store m _ _ | exact Jv c m _
theorem Ms:(bz c t m w x d).2.2.length≤2:=by
 refine gC (P:=fun r=>r.2.2.length≤2) (fun _=>Nat.zero_le _) ?_ ?_ ?_ ?_ ?_ ?_ ?_ ?_ ?_ ?_ ?_ ?_ ?_ ?_ ?_
 all_goals intro _ _
 all_goals dsimp only [GU,pp,m9,iA,ou,lx,dS,fH,Hj,oO,og,ow,Gn,ot,oq]
 all_goals repeat' split
 all_goals simp
theorem Jm:(bz c t m w x d).2.1.2.1.length≤x.2.1.length+1:=by
 have h1:=fun q=>Hl t x.2.1 q
 have h2:=Va t x.2.1
 refine gC (P:=fun r=>r.2.1.2.1.length≤x.2.1.length+1) (fun _=>Nat.le_succ _) ?_ ?_ ?_ ?_ ?_ ?_ ?_ ?_ ?_ ?_ ?_ ?_ ?_ ?_ ?_
 all_goals intro _ _
 all_goals dsimp only [GU,pp,m9,iA,ou,lx,dS,fH,Hj,oO,og,ow,Gn,ot,oq,toW,gc]
 all_goals repeat' split
 all_goals first | exact Nat.le_succ _ | exact h1 _ | (dsimp only;omega) | simp
theorem Dj {s:List (Int×Int×Int)} (h:cP t s=true) (q:Int):cP t (nR t s q)=true:=by
 unfold nR
 split
 ·rename_i g
  have:=iO.1 h
  exact fQ.2 ⟨this.1,this.2,Y8 this.1 g.2.1 g.2.2⟩
 ·exact h
theorem Vs {s:List (Int×Int×Int)} (h:cP t s=true):cP t (doB t s)=true:=by
 rcases mr s with rfl | ⟨r,y,rfl⟩
 ·exact h
 ·exact (LG h).1
theorem m7 (h:dC c t m w x=true):fx c=true∧(m.length:Int)=cB c∧uM t=true∧(0≤w∧w<c.1∧0≤x.1∧x.1<16)∧cP t x.2.1=true:=by
 unfold dC at h
 simp only [Bool.and_eq_true,decide_eq_true_eq] at h
 exact ⟨h.1.1.1.1,h.1.1.1.2,h.1.1.2,h.1.2,h.2⟩
theorem I2 (h1:fx c=true) (h2:(m.length:Int)=cB c) (h3:uM t=true) (h4:0≤w∧w<c.1∧0≤x.1∧x.1<16) (h5:cP t x.2.1=true):dC c t m w x=true:=by
 unfold dC
 rw [h1,h3,h5,decide_eq_true h2,decide_eq_true h4]
 rfl
theorem MA (h:dC c t m w x=true):dC c t (bz c t m w x d).1 w (bz c t m w x d).2.1=true:=by
 obtain ⟨h1,h2,h3,h4,h5⟩:=m7 h
 have hl:=(AJ (c:=c) (t:=t) (m:=m) (w:=w) (x:=x) (d:=d)).len
 have key:0≤(bz c t m w x d).2.1.1∧(bz c t m w x d).2.1.1<16∧cP t (bz c t m w x d).2.1.2.1=true:=by
  have g1:=Dj h5
  have g2:=Vs h5
  have g3:cP t []=true:=iO.2 ⟨h3,fun y hy=>absurd hy (by simp)⟩
  refine gC (P:=fun r=>0≤r.2.1.1∧r.2.1.1<16∧cP t r.2.1.2.1=true) (fun _=>⟨h4.2.2.1,h4.2.2.2,h5⟩) ?_ ?_ ?_ ?_ ?_ ?_ ?_ ?_ ?_ ?_ ?_ ?_ ?_ ?_ ?_
  all_goals intro _ _
  all_goals dsimp only [GU,pp,m9,iA,ou,lx,dS,fH,Hj,oO,og,ow,Gn,ot,oq,toW,gc]
  all_goals repeat' split
  all_goals refine ⟨?_,?_,?_⟩
  all_goals (try dsimp only)
  all_goals first | omega | exact h5 | exact g1 _ | exact g2 | exact g3
 exact I2 h1 (by rw [hl];exact h2) h3 ⟨h4.1,h4.2.1,key.1,key.2.1⟩ key.2.2
end
end Go.Ab
set_option linter.unusedVariables false
namespace Go.Ab
section
variable {c:CF} {m:List Int} {f:FR} {j:Int} (hj:j=0∨j=1∨j=3)
include hj
theorem iG {w x:Int} (hx:0≤x):onW c w x≠j:=by
 unfold onW
 split
 ·rename_i h
  have hm:=bc h.1
  have:=dr h.1 h.2.1 (by omega)
  omega
 ·omega
theorem mF {w x:Int} (h0:0≤x) (h1:x≤18446744073709551615):pu c w x≠j:=by
 unfold pu onW
 split
 ·rename_i h
  have hm:=bc h.1
  have:=dr h.1 h.2.1 (by omega)
  have:=AW h0 h1 (show 1≤c.2.1 by omega) (by omega)
  omega
 ·omega
theorem uk (x:Int):uZ c x≠j:=by
 unfold uZ
 split
 ·rename_i h
  have:=bc h
  have:=Int.emod_nonneg x (show c.2.2.1≠0 by omega)
  omega
 ·omega
theorem pZ (x:Int):Pk c x≠j:=by
 unfold Pk
 split
 ·rename_i h
  have:=bc h
  have:=Int.emod_nonneg x (show c.2.2.1≠0 by omega)
  omega
 ·omega
theorem mT (w:Int):cD c w≠j:=by
 unfold cD
 split
 ·rename_i h
  have hm:=bc h.1
  have:=dr h.1 h.2.1 (by omega)
  omega
 ·omega
omit hj in
theorem ks {i v:Int} (h:i≠j):aq (aW m i v) j=aq m j:=fw v h
omit hj in
theorem kc {i o v:Int} (h:i≠j):aq (pC m i o v).1 j=aq m j:=by
 unfold pC
 split
 ·exact ks h
 ·rfl
section
variable (hf:Wf f)
include hf
theorem KO:aq (nJ c m f).1 j=aq m j:=by
 have w4:=hf.2.1
 have _h:=hj
 unfold nJ
 try dsimp only
 repeat' split
 all_goals first | rfl | exact ks (uk hj _) | exact ks (pZ hj _) | exact ks (mT hj _) | exact ks (iG hj (by decide)) | exact kc (iG hj (by decide)) | exact ks (mF hj w4.1 w4.2) | exact kc (show (2:Int)≠j by omega) | exact kc (show (4:Int)≠j by omega) | exact kc (show (5:Int)≠j by omega) | exact ks (show (2:Int)≠j by omega)
theorem ML:aq (E3 c m f).1 j=aq m j:=by
 have w4:=hf.2.1
 have _h:=hj
 unfold E3
 try dsimp only
 repeat' split
 all_goals first | rfl | exact ks (uk hj _) | exact ks (pZ hj _) | exact ks (mT hj _) | exact ks (iG hj (by decide)) | exact kc (iG hj (by decide)) | exact ks (mF hj w4.1 w4.2) | exact kc (show (2:Int)≠j by omega) | exact kc (show (4:Int)≠j by omega) | exact kc (show (5:Int)≠j by omega) | exact ks (show (2:Int)≠j by omega)
theorem Gx:aq (iF c m f).1 j=aq m j:=by
 have w4:=hf.2.1
 have _h:=hj
 unfold iF
 try dsimp only
 repeat' split
 all_goals first | rfl | exact ks (uk hj _) | exact ks (pZ hj _) | exact ks (mT hj _) | exact ks (iG hj (by decide)) | exact kc (iG hj (by decide)) | exact ks (mF hj w4.1 w4.2) | exact kc (show (2:Int)≠j by omega) | exact kc (show (4:Int)≠j by omega) | exact kc (show (5:Int)≠j by omega) | exact ks (show (2:Int)≠j by omega)
theorem E4:aq (Ft c m f).1 j=aq m j:=by
 have w4:=hf.2.1
 have _h:=hj
 unfold Ft
 try dsimp only
 repeat' split
 all_goals first | rfl | exact ks (uk hj _) | exact ks (pZ hj _) | exact ks (mT hj _) | exact ks (iG hj (by decide)) | exact kc (iG hj (by decide)) | exact ks (mF hj w4.1 w4.2) | exact kc (show (2:Int)≠j by omega) | exact kc (show (4:Int)≠j by omega) | exact kc (show (5:Int)≠j by omega) | exact ks (show (2:Int)≠j by omega)
theorem Fk:aq (Gp c m f).1 j=aq m j:=by
 have w4:=hf.2.1
 have _h:=hj
 unfold Gp
 try dsimp only
 repeat' split
 all_goals first | rfl | exact ks (uk hj _) | exact ks (pZ hj _) | exact ks (mT hj _) | exact ks (iG hj (by decide)) | exact kc (iG hj (by decide)) | exact ks (mF hj w4.1 w4.2) | exact kc (show (2:Int)≠j by omega) | exact kc (show (4:Int)≠j by omega) | exact kc (show (5:Int)≠j by omega) | exact ks (show (2:Int)≠j by omega)
theorem BF:aq (gB c m f).1 j=aq m j:=by
 have w4:=hf.2.1
 have _h:=hj
 unfold gB
 try dsimp only
 repeat' split
 all_goals first | rfl | exact ks (uk hj _) | exact ks (pZ hj _) | exact ks (mT hj _) | exact ks (iG hj (by decide)) | exact kc (iG hj (by decide)) | exact ks (mF hj w4.1 w4.2) | exact kc (show (2:Int)≠j by omega) | exact kc (show (4:Int)≠j by omega) | exact kc (show (5:Int)≠j by omega) | exact ks (show (2:Int)≠j by omega)
theorem BD:aq (fD c m f).1 j=aq m j:=by
 have w4:=hf.2.1
 have _h:=hj
 unfold fD Gw
 try dsimp only
 repeat' split
 all_goals first | rfl | exact ks (uk hj _) | exact ks (pZ hj _) | exact ks (mT hj _) | exact ks (iG hj (by decide)) | exact kc (iG hj (by decide)) | exact ks (mF hj w4.1 w4.2) | exact kc (show (2:Int)≠j by omega) | exact kc (show (4:Int)≠j by omega) | exact kc (show (5:Int)≠j by omega) | exact ks (show (2:Int)≠j by omega)
theorem GI:aq (dh c m f).1 j=aq m j:=by
 unfold dh Ay fB rS xb
 repeat' split
 all_goals first | with_reducible rfl | with_reducible exact KO hj hf | with_reducible exact ML hj hf | with_reducible exact Gx hj hf | with_reducible exact E4 hj hf | with_reducible exact Fk hj hf | with_reducible exact BF hj hf | with_reducible exact BD hj hf
end
end
def HT (a b:Bool) (s:Int):Int:=if a=b then s else if a=true then IntKind.u64.wrap (s+1) else IntKind.u64.wrap (s - 1)
theorem Nj (s:Int):mj s pq=IntKind.u64.wrap (s - 1):=by
 rw [oG]
 unfold mj pq
 omega
theorem aex (s:Int):mj s 1=IntKind.u64.wrap (s+1):=by
 rw [oG]
 rfl
theorem nQ {x:WB} (h:x.1<2∨6<x.1):dj x=false:=decide_eq_false (by omega)
theorem np {x:WB} (h:2≤x.1∧x.1≤6):dj x=true:=decide_eq_true h
section
variable {c:CF} {t:List (Int×List Int)} {m:List Int} {w:Int} {x:WB} {d:Int}
theorem Jo (hm:Wm m) (hl:2≤m.length) (hf:Wf x.2.2.1):aq (bz c t m w x d).1 1=HT (dj (bz c t m w x d).2.1) (dj x) (aq m 1):=by
 have hk:=GI (c:=c) (m:=m) (f:=x.2.2.1) (j:=1) (by decide) hf
 have hs:∀ v,aq (aW m 1 v) 1=v:=fun v=>mn v (by decide) (by omega)
 have h0:∀ v,aq (aW m 0 v) 1=aq m 1:=fun v=>ks (by decide)
 have eq:∀ {y:WB} {s:Int},dj y=dj x→s=HT (dj y) (dj x) s:=fun h=>by unfold HT;rw [if_pos h]
 have low:∀ {y:WB},y.1<2∨6<y.1→(x.1<2∨6<x.1)→dj y=dj x:=fun h g=>by rw [nQ h,nQ g]
 have hig:∀ {y:WB},2≤y.1∧y.1≤6→(2≤x.1∧x.1≤6)→dj y=dj x:=fun h g=>by rw [np h,np g]
 have dn:∀ {y:WB},y.1<2∨6<y.1→(2≤x.1∧x.1≤6)→mj (aq m 1) pq=HT (dj y) (dj x) (aq m 1):=fun h g=>by rw [nQ h,np g,Nj];rfl
 refine gC (P:=fun r=>aq r.1 1=HT (dj r.2.1) (dj x) (aq m 1)) (fun _=>eq rfl) ?_ ?_ ?_ ?_ ?_ ?_ ?_ ?_ ?_ ?_ ?_ ?_ ?_ ?_ ?_
 all_goals intro _ hp
 ·unfold GU
  dsimp only
  repeat' split
  all_goals (dsimp only;rw [hk];exact eq (low (by first | omega | (dsimp only [toW];omega)) (by omega)))
 ·unfold pp
  dsimp only
  rw [hs,nQ (x:=x) (by omega),np (by dsimp only;omega),aex]
  rfl
 ·unfold m9
  dsimp only
  repeat' split
  all_goals (dsimp only;rw [hk];exact eq (hig (by first | omega | (dsimp only [gc];omega)) (by omega)))
 ·unfold iA
  dsimp only
  rw [hs]
  refine dn ?_ (by omega)
  dsimp only
  split <;> omega
 ·unfold ou
  dsimp only
  rw [hk]
  exact eq (hig (by dsimp only;omega) (by omega))
 ·unfold lx
  dsimp only
  rw [hs]
  exact dn (by dsimp only;omega) (by omega)
 ·unfold dS
  dsimp only
  repeat' split
  all_goals (dsimp only;exact eq (low (by first | omega | (dsimp only [toW];omega)) (by omega)))
 ·unfold fH
  dsimp only
  split
  all_goals (dsimp only;rw [hk];exact eq (low (by first | omega | (dsimp only [toW];omega)) (by omega)))
 ·unfold Hj
  dsimp only
  repeat' split
  all_goals (dsimp only;exact eq (low (by first | omega | (dsimp only [gc];omega)) (by omega)))
 ·unfold oO
  dsimp only
  split
  ·exact eq (low (by dsimp only [toW];omega) (by omega))
  ·dsimp only
   rw [h0]
   exact eq (low (by dsimp only;omega) (by omega))
 ·unfold og
  dsimp only
  repeat' split
  all_goals (dsimp only;rw [hk];exact eq (low (by first | omega | (dsimp only [toW,gc];omega)) (by omega)))
 ·unfold ow
  dsimp only
  repeat' split
  all_goals (dsimp only;rw [hk];exact eq (low (by first | omega | (dsimp only [toW];omega)) (by omega)))
 ·unfold Gn
  split
  all_goals (dsimp only;exact eq (low (by first | omega | (dsimp only [toW,gc];omega)) (by omega)))
 ·unfold ot
  dsimp only
  split
  all_goals (dsimp only;rw [hk];exact eq (low (by first | omega | (dsimp only [toW];omega)) (by omega)))
 ·unfold oq
  dsimp only
  split
  ·exact eq (low (by dsimp only [toW];omega) (by omega))
  ·dsimp only
   rw [h0]
   refine eq (low ?_ (by omega))
   split <;> (dsimp only;omega)
end
theorem J4 {k:Nat} (hk:100≤k) (x:WB):fY k x=some (dj x):=by
 unfold fY cT bI
 rw [GO (F:=fun n i=>aU k [2,3,4,5,6] x.1 n i) (l:=[2,3,4,5,6]) (fun y=>x.1==y) ?_ ?_ k (by simp;omega),ae,ae]
 ·unfold dj
  simp only [FA]
  congr 1
  by_cases h:2≤x.1∧x.1≤6
  ·rcases (show x.1=2∨x.1=3∨x.1=4∨x.1=5∨x.1=6 by omega) with e | e | e | e | e <;> rw [e] <;> rfl
  ·have n2:¬ x.1=2:=by omega
   have n3:¬ x.1=3:=by omega
   have n4:¬ x.1=4:=by omega
   have n5:¬ x.1=5:=by omega
   have n6:¬ x.1=6:=by omega
   rw [decide_eq_false h]
   simp [n2,n3,n4,n5,n6]
 ·intro n
  simp only [aU,ub,cond_false]
 ·intro n i y hi hy
  have:i<5:=hi
  simp only [aU,ltN hi,cond_true,fe hy,ae]
  rw [eU (by omega)]
end Go.Ab
set_option linter.unusedVariables false
namespace Go.Ab
theorem FW {c:CF} {m:List Int} {f:FR} (hm:Wm m) (hf:Wf f):Wm (fD c m f).1∧Wf (fD c m f).2∧(fD c m f).1.length=m.length:=by
 have hr:=cy hm 2
 obtain ⟨w3,w4,w5⟩:=hf
 have hk4:=wE w4.1
 have hk5:=wE w5.1
 have hc5:=IE hk5.1 hk5.2
 unfold fD
 split
 ·exact ⟨hm,⟨w3,w4,w5⟩,rfl⟩
 ·split
  ·exact ⟨hm,⟨w3,hr,w5⟩,rfl⟩
  ·split
   ·split
    ·refine ⟨hm.set 2 ?_ ?_,?_,(by simp only [];exact fV)⟩
     ·split
      ·exact (nD _ _).1
      ·exact (nD _ _).1
     ·split
      ·exact (nD _ _).2
      ·exact (nD _ _).2
     ·have hl:=Lt (mkB f.2.2.2.2.1)
      simp only []
      by_cases hz:mkB f.2.2.2.2.1=0
      ·rw [if_pos hz]
       exact ⟨by simp [dK],by simp [dK],by simp [dK]⟩
      ·rw [if_neg hz]
       refine ⟨w3,w4,?_⟩
       simp only
       split
       ·split <;> omega
       ·omega
    ·exact ⟨hm,⟨w3,w4,w5⟩,rfl⟩
   ·split
    ·exact ⟨hm.set _ (by decide) (by decide),⟨w5,by simp [dK],by simp [dK]⟩,(by simp only [];exact fV)⟩
    ·refine ⟨hm.set _ (by decide) (by decide),?_,(by simp only [];exact fV)⟩
     split
     ·exact ⟨by simp [dK];omega,by simp [dK],by simp [dK]⟩
     ·exact ⟨w3,w4,by simp only;omega⟩
theorem RV {c:CF} {m:List Int} {f:FR} (hm:Wm m) (hf:Wf f):Wm (gB c m f).1∧Wf (gB c m f).2:=by
 have hr:=cy hm 2
 obtain ⟨w3,w4,w5⟩:=hf
 have hs:=UC (w:=f.2.2.1) w5.1 w5.2
 unfold gB
 dsimp only
 split
 ·exact ⟨hm,w3,w4,w5⟩
 ·split
  ·exact ⟨hm,w3,hr,w5⟩
  ·split
   ·split
    ·exact ⟨hm,w3,w4,hr⟩
    ·exact ⟨hm,by simp [dK,Wf]⟩
   ·split
    ·exact ⟨hm.cas _ _ hs.1 hs.2,w3,w4,w5⟩
    ·split
     ·exact ⟨hm,w3,w4,cy hm _⟩
     ·exact ⟨hm.set _ (by decide) (by decide),by simp [dK,Wf]⟩
theorem YB {c:CF} {m:List Int} {f:FR} (hm:Wm m) (hf:Wf f):Wm (Ft c m f).1∧Wf (Ft c m f).2:=by
 obtain ⟨w3,w4,w5⟩:=hf
 have ha:=ft f.2.2.2.2.1 1
 have hb:=ft (BW c f.2.2.2.2.1) 1
 unfold Ft
 dsimp only
 split
 ·exact ⟨hm,w3,w4,w5⟩
 ·split
  ·exact ⟨hm,w3,cy hm 5,w5⟩
  ·split
   ·split
    ·exact ⟨hm,w3,w4,cy hm _⟩
    ·split
     ·exact ⟨hm,w3,by simp [dK],by simp [dK]⟩
     ·exact ⟨hm,w3,w4,cy hm _⟩
   ·split
    ·exact ⟨hm.cas _ _ ha.1 ha.2,w3,w4,w5⟩
    ·split
     ·exact ⟨hm.set _ w3.1 w3.2,w3,w4,w5⟩
     ·exact ⟨hm.set _ hb.1 hb.2,w3,by simp [dK],by simp [dK]⟩
theorem YJ {c:CF} {m:List Int} {f:FR} (hm:Wm m) (hf:Wf f):Wm (Gp c m f).1∧Wf (Gp c m f).2:=by
 obtain ⟨w3,w4,w5⟩:=hf
 have ha:=ft f.2.2.2.2.1 1
 have hb:=ft (CA c f.2.2.2.2.1) 1
 unfold Gp
 dsimp only
 split
 ·exact ⟨hm,w3,w4,w5⟩
 ·split
  ·exact ⟨hm,w3,cy hm 4,w5⟩
  ·split
   ·split
    ·exact ⟨hm,w3,w4,cy hm _⟩
    ·split
     ·exact ⟨hm,by simp [dK],by simp [dK],by simp [dK]⟩
     ·exact ⟨hm,w3,w4,cy hm _⟩
   ·split
    ·exact ⟨hm.cas _ _ ha.1 ha.2,w3,w4,w5⟩
    ·split
     ·exact ⟨hm,cy hm _,w4,w5⟩
     ·exact ⟨hm.set _ hb.1 hb.2,w3,by simp [dK],by simp [dK]⟩
theorem K3 {c:CF} {m:List Int} {f:FR} (hm:Wm m) (hf:Wf f):Wm (fB c m f).1∧Wf (fB c m f).2:=by
 unfold fB rS xb
 repeat' split
 all_goals first | exact YB hm hf | exact YJ hm hf | exact RV hm hf | exact ⟨(FW hm hf).1,(FW hm hf).2.1⟩ | exact ⟨hm,hf⟩
theorem P9 {c:CF} {t:List (Int×List Int)} {m:List Int} {i:Int} {x:SB} (hm:Wm m) (hf:Wf x.2.2) (ht:t.length≤1000):Wm (lA c t m i x).1∧Wf (lA c t m i x).2.1.2.2:=by
 have hc:=K3 (c:=c) hm hf
 have hz:Wf dB:=by simp [Wf,dB]
 have h1:=ft (aq m 0) 1
 have h2:=ft (aq m 0) 18446744073709551615
 cases hmay:oQ c t m x with
 | false=>
  have e:lA c t m i x=(m,x,[]):=by unfold lA;rw [hmay,if_pos rfl]
  rw [e]
  exact ⟨hm,hf⟩
 | true=>
  obtain ⟨_,_,_,_,_,r,rest,hx,h6,h7⟩:=rL hmay
  have hh:rB x.2.1=r:=by rw [hx];rfl
  unfold lA
  rw [hmay,if_neg (by simp),hh]
  dsimp only
  have h3:Wf (3,0,i,r,0,0,0):=⟨⟨h6,by simp only;omega⟩,by simp,by simp⟩
  have h4:Wf (6,0,i,0,0,0,0):=by simp [Wf]
  repeat' split
  all_goals first | exact ⟨hm,hf⟩ | exact ⟨hm,hz⟩ | exact ⟨hm,h4⟩ | exact ⟨hm.set 0 h1.1 h1.2,h3⟩ | exact hc | exact ⟨hc.1,hz⟩ | exact ⟨hm.set 0 h2.1 h2.2,hz⟩
end Go.Ab
set_option linter.unusedVariables false
namespace Go.Ab
abbrev PB:=CF×List (Int×List Int)×List Int×List WB×List SB
abbrev PK:=Int×Int×Int
def pS (t:List (Int×List Int)) (x:SB):Bool:=decide (0≤x.1∧x.1<6)&&x.2.1.all (fun r=>decide (0≤r∧r<t.length))&&(decide (x.1=0)||decide (x.2.1≠[]))
def BH (c:CF) (t:List (Int×List Int)) (m:List Int):Nat→List WB→Bool
 | _,[]=>true
 | i,x::l=>dC c t m i x&&BH c t m (i+1) l
def gw (p:PB):Bool:=fx p.1&&decide ((p.2.2.2.1.length:Int)=p.1.1∧p.2.2.2.2.length≤3)&&BH p.1 p.2.1 p.2.2.1 0 p.2.2.2.1&&p.2.2.2.2.all (pS p.2.1)
def uS (k:PK) (w s:Int):Bool:=decide (k.1=0∧0≤k.2.1∧k.2.1<w∨k.1=1∧0≤k.2.1∧k.2.1<s∨k.1=2∨k.1=3)
def fi (p:PB) (k:PK):PB×List EV:=
 if k.1=0 then match p.2.2.2.1[k.2.1.toNat]? with
  | some x=>((p.1,p.2.1,(bz p.1 p.2.1 p.2.2.1 k.2.1 x k.2.2).1,p.2.2.2.1.set k.2.1.toNat (bz p.1 p.2.1 p.2.2.1 k.2.1 x k.2.2).2.1,p.2.2.2.2),(bz p.1 p.2.1 p.2.2.1 k.2.1 x k.2.2).2.2)
  | none=>(p,[])
 else if k.1=1 then match p.2.2.2.2[k.2.1.toNat]? with
  | some x=>if oQ p.1 p.2.1 p.2.2.1 x=true then ((p.1,p.2.1,(lA p.1 p.2.1 p.2.2.1 k.2.1 x).1,p.2.2.2.1,p.2.2.2.2.set k.2.1.toNat (lA p.1 p.2.1 p.2.2.1 k.2.1 x).2.1),(lA p.1 p.2.1 p.2.2.1 k.2.1 x).2.2) else (p,[])
  | none=>(p,[])
 else if k.1=2 then ((p.1,p.2.1,aW p.2.2.1 3 1,p.2.2.2.1,p.2.2.2.2),[])
 else (p,[])
def oJ (p:PB):List PK→PB×List EV
 | []=>(p,[])
 | k::l=>if uS k p.1.1 p.2.2.2.2.length=true then ((oJ (fi p k).1 l).1,(fi p k).2++(oJ (fi p k).1 l).2) else oJ p l
def abm (p:PB) (l:List PK):PB×List EV:=if gw p=true then oJ p l else (p,[])
theorem SY {c:CF} {m:List Int} {f:FR} (hm:Wm m) (hf:Wf f):Wm (nJ c m f).1∧Wf (nJ c m f).2:=by
 have hl:=fun i=>cy hm i
 obtain ⟨w3,w4,w5⟩:=hf
 have ha:=ft f.2.2.2.2.1 1
 unfold nJ
 repeat' split
 ·exact ⟨hm,w3,w4,w5⟩
 ·exact ⟨hm,w3,hl _,w5⟩
 ·exact ⟨hm,w3,by simp [dK],by simp [dK]⟩
 ·exact ⟨hm,w3,w4,hl _⟩
 ·exact ⟨hm.set _ w3.1 w3.2,w3,w4,w5⟩
 ·exact ⟨hm.set _ ha.1 ha.2,w3,by simp [dK],by simp [dK]⟩
theorem Xg {c:CF} {m:List Int} {f:FR} (hm:Wm m) (hf:Wf f):Wm (E3 c m f).1∧Wf (E3 c m f).2:=by
 have hl:=fun i=>cy hm i
 obtain ⟨w3,w4,w5⟩:=hf
 have ha:=ft f.2.2.2.2.1 1
 have hb:=ft f.2.2.2.2.2.1 1
 have hs:=fun a b=>OO a b
 unfold E3
 dsimp only
 split
 ·exact ⟨hm,w3,w4,w5⟩
 split
 ·exact ⟨hm,w3,hs _ _,w5⟩
 split
 ·exact ⟨hm.set _ w4.1 w4.2,w3,w4,w5⟩
 split
 ·exact ⟨hm,w3,w4,hl _⟩
 split
 ·split
  ·exact ⟨hm,hl _,by simp [dK],by simp [dK]⟩
  ·exact ⟨hm,hl _,w4,w5⟩
 split
 ·exact ⟨hm.cas _ _ hb.1 hb.2,w3,w4,w5⟩
 split
 ·exact ⟨hm.set _ ha.1 ha.2,w3,by simp [dK],by simp [dK]⟩
 ·exact ⟨hm.set _ ha.1 ha.2,by simp [dK],by simp [dK],by simp [dK]⟩
theorem Oa {c:CF} {m:List Int} {f:FR} (hm:Wm m) (hf:Wf f):Wm (iF c m f).1∧Wf (iF c m f).2:=by
 have hl:=fun i=>cy hm i
 obtain ⟨w3,w4,w5⟩:=hf
 have hb:=ft f.2.2.2.2.2.1 1
 unfold iF
 dsimp only
 split
 ·exact ⟨hm,w3,w4,w5⟩
 split
 ·exact ⟨hm,w3,w4,hl _⟩
 split
 ·split
  ·exact ⟨hm,by simp [dK],by simp [dK],by simp [dK]⟩
  ·exact ⟨hm,w3,hl _,w5⟩
 split
 ·exact ⟨hm,hl _,w4,w5⟩
 split
 ·exact ⟨hm.cas _ _ hb.1 hb.2,w3,by simp [dK],by simp [dK]⟩
 ·exact ⟨hm.cas _ _ hb.1 hb.2,by simp [dK],by simp [dK],by simp [dK]⟩
theorem Gk {c:CF} {m:List Int} {f:FR} (hm:Wm m) (hf:Wf f):Wm (dh c m f).1∧Wf (dh c m f).2:=by
 unfold dh Ay
 split
 ·split
  ·exact SY hm hf
  ·split
   ·exact Xg hm hf
   ·split
    ·exact Oa hm hf
    ·exact ⟨hm,hf⟩
 ·exact K3 hm hf
structure WOk (n:Nat) (x:WB):Prop where
 f:Wf x.2.2.1
 s:x.2.1.length≤n
 sp:x.2.2.2.1≤1000
structure SOk (x:SB):Prop where
 f:Wf x.2.2
 s:x.2.1.length≤1000
theorem RL (a:Int):0≤IntKind.u64.wrap a∧IntKind.u64.wrap a≤18446744073709551615:=by
 rw [oG]
 omega
section
variable {c:CF} {t:List (Int×List Int)} {m:List Int} {w:Int} {x:WB} {d:Int} {n:Nat}
theorem Re (hm:Wm m) (hf:Wf x.2.2.1):Wm (bz c t m w x d).1:=by
 have h1:=(Gk (c:=c) hm hf).1
 have h2:=fun a b=>ft a b
 refine gC (P:=fun r=>Wm r.1) (fun _=>hm) ?_ ?_ ?_ ?_ ?_ ?_ ?_ ?_ ?_ ?_ ?_ ?_ ?_ ?_ ?_
 all_goals intro _ _
 all_goals dsimp only [GU,pp,m9,iA,ou,lx,dS,fH,Hj,oO,og,ow,Gn,ot,oq]
 all_goals repeat' split
 all_goals (try dsimp only)
 all_goals first | exact hm | exact h1 | exact hm.set _ (h2 _ _).1 (h2 _ _).2
theorem R7 (hm:Wm m) (hf:Wf x.2.2.1):Wf (bz c t m w x d).2.1.2.2.1:=by
 have h1:=(Gk (c:=c) hm hf).2
 have h2:=fun i=>cy hm i
 have h3:=fun a=>RL a
 have z:Wf dB:=by simp [Wf,dB]
 have zr:(0:Int)≤0∧(0:Int)≤18446744073709551615:=by decide
 have b:∀ op w,Wf (AH op w 0):=fun op w=>by simp [Wf,AH]
 have b2:∀ op w v,0≤v∧v≤18446744073709551615→Wf (AH op w v):=fun op w v h=>⟨h,by simp [AH],by simp [AH]⟩
 obtain ⟨w3,w4,w5⟩:=hf
 refine gC (P:=fun r=>Wf r.2.1.2.2.1) (fun _=>⟨w3,w4,w5⟩) ?_ ?_ ?_ ?_ ?_ ?_ ?_ ?_ ?_ ?_ ?_ ?_ ?_ ?_ ?_
 all_goals intro _ _
 all_goals dsimp only [GU,pp,m9,iA,ou,lx,dS,fH,Hj,oO,og,ow,Gn,ot,oq,toW,gc,AX]
 all_goals repeat' split
 all_goals (try dsimp only)
 all_goals first | exact h1 | exact z | exact b _ _ | exact b2 _ _ _ (h3 _) | exact b2 _ _ _ h1.1 | exact ⟨w3,w4,w5⟩ | exact ⟨h2 _,w4,w5⟩ | exact ⟨h2 4,w4,w5⟩ | exact ⟨zr,w4,w5⟩
theorem Rk (hc:fx c=true) (hs:x.2.2.2.1≤1000):(bz c t m w x d).2.1.2.2.2.1≤1000:=by
 have h4:=bc hc
 refine gC (P:=fun r=>r.2.1.2.2.2.1≤1000) (fun _=>hs) ?_ ?_ ?_ ?_ ?_ ?_ ?_ ?_ ?_ ?_ ?_ ?_ ?_ ?_ ?_
 all_goals intro _ _
 all_goals dsimp only [GU,pp,m9,iA,ou,lx,dS,fH,Hj,oO,og,ow,Gn,ot,oq,toW,gc]
 all_goals repeat' split
 all_goals (try dsimp only)
 all_goals omega
theorem Sl (hc:fx c=true) (hm:Wm m) (h:WOk n x):WOk (n+1) (bz c t m w x d).2.1:=
 ⟨R7 hm h.f,by have:=Jm (c:=c) (t:=t) (m:=m) (w:=w) (x:=x) (d:=d);have:=h.s;omega,Rk hc h.sp⟩
end
section
variable {c:CF} {t:List (Int×List Int)} {m:List Int} {i:Int} {x:SB}
theorem LW:One m (lA c t m i x).1:=by
 unfold lA
 dsimp only
 repeat' split
 all_goals first | exact One.same m | exact One.store m _ _ | (dsimp only;exact One.store m _ _) | exact E9 c m _
theorem Fj:(lA c t m i x).1.length=m.length:=LW.len
theorem oR:(lA c t m i x).2.1.2.1=x.2.1∨(lA c t m i x).2.1.2.1=x.2.1.tail∧(lA c t m i x).2.1.1=0:=by
 unfold lA
 dsimp only
 repeat' split
 all_goals first | exact .inl rfl | exact .inr ⟨rfl,rfl⟩
theorem PD:(lA c t m i x).2.2.length≤2:=by
 unfold lA
 dsimp only
 repeat' split
 all_goals simp
theorem XK (h:0≤x.1∧x.1<6):0≤(lA c t m i x).2.1.1∧(lA c t m i x).2.1.1<6:=by
 unfold lA
 dsimp only
 repeat' split
 all_goals (try dsimp only)
 all_goals omega
theorem Rw (h:pS t x=true) (hm:oQ c t m x=true):pS t (lA c t m i x).2.1=true:=by
 unfold pS at h ⊢
 simp only [Bool.and_eq_true,decide_eq_true_eq,List.all_eq_true,Bool.or_eq_true] at h ⊢
 obtain ⟨_,_,_,h4,h5,r,rest,hx,h6,h7⟩:=rL hm
 refine ⟨⟨XK h.1.1,fun y hy => ?_⟩,?_⟩
 ·rcases oR (c:=c) (t:=t) (m:=m) (i:=i) (x:=x) with e | e
  ·rw [e] at hy;exact h.1.2 y hy
  ·rw [e.1] at hy;exact h.1.2 y (List.mem_of_mem_tail hy)
 ·rcases oR (c:=c) (t:=t) (m:=m) (i:=i) (x:=x) with e | e
  ·refine .inr ?_
   rw [e,hx]
   simp
  ·exact .inl e.2
theorem W2 (hm:Wm m) (ht:t.length≤1000) (h:SOk x):SOk (lA c t m i x).2.1:=by
 refine ⟨(P9 hm h.f ht).2,?_⟩
 have:=h.s
 rcases oR (c:=c) (t:=t) (m:=m) (i:=i) (x:=x) with e | e
 ·rw [e];exact h.s
 ·rw [e.1,List.length_tail];omega
end
structure Good (n:Nat) (p:PB):Prop where
 t:FwT p.2.1
 tl:p.2.1.length≤1000
 m:Wm p.2.2.1
 w:∀ x ∈ p.2.2.2.1,WOk n x
 s:∀ x ∈ p.2.2.2.2,SOk x
theorem rC {c:CF} {t:List (Int×List Int)} {m:List Int}:∀ {l:List WB} {i:Nat},BH c t m i l=true↔∀ (j:Nat) x,l[j]? = some x→dC c t m ((i+j:Nat):Int) x=true
 | [],i=>by simp [BH]
 | y::l,i=>by
  rw [BH,Bool.and_eq_true,rC (l:=l)]
  constructor
  ·intro h j x hx
   cases j with
   | zero=>cases hx;exact h.1
   | succ j=>
    have:=h.2 j x hx
    rw [show i+(j+1)=i+1+j by omega]
    exact this
  ·intro h
   refine ⟨h 0 y rfl,fun j x hx => ?_⟩
   have:=h (j+1) x hx
   rw [show i+1+j=i+(j+1) by omega]
   exact this
theorem rZ {c:CF} {t:List (Int×List Int)} {m m':List Int} {w:Int} {x:WB} (h:m'.length=m.length):dC c t m' w x=dC c t m w x:=by
 unfold dC
 rw [h]
theorem mV {p:PB} (h:gw p=true):fx p.1=true∧(p.2.2.2.1.length:Int)=p.1.1∧p.2.2.2.2.length≤3∧(∀ (j:Nat) x,p.2.2.2.1[j]? = some x→dC p.1 p.2.1 p.2.2.1 (j:Int) x=true)∧(∀ x ∈ p.2.2.2.2,pS p.2.1 x=true):=by
 unfold gw at h
 simp only [Bool.and_eq_true,decide_eq_true_eq,List.all_eq_true] at h
 refine ⟨h.1.1.1,h.1.1.2.1,h.1.1.2.2,fun j x hx => ?_,h.2⟩
 have:=rC.1 h.1.2 j x hx
 rw [Nat.zero_add] at this
 exact this
theorem xz {p:PB} (h1:fx p.1=true) (h2:(p.2.2.2.1.length:Int)=p.1.1) (h3:p.2.2.2.2.length≤3) (h4:∀ (j:Nat) x,p.2.2.2.1[j]? = some x→dC p.1 p.2.1 p.2.2.1 (j:Int) x=true) (h5:∀ x ∈ p.2.2.2.2,pS p.2.1 x=true):gw p=true:=by
 unfold gw
 simp only [Bool.and_eq_true,decide_eq_true_eq,List.all_eq_true]
 refine ⟨⟨⟨h1,h2,h3⟩,rC.2 fun j x hx => ?_⟩,h5⟩
 rw [Nat.zero_add]
 exact h4 j x hx
theorem AF {α:Type} {l:List α} {i:Nat} {y x:α} (h:x ∈ l.set i y):x ∈ l∨x=y:=by
 rcases List.mem_or_eq_of_mem_set h with h | h
 ·exact .inl h
 ·exact .inr h
theorem la {p:PB} {k:PK} {P:PB×List EV→Prop} (h0:P (p,[]))
  (hw:∀ x,p.2.2.2.1[k.2.1.toNat]? = some x→k.1=0→P ((p.1,p.2.1,(bz p.1 p.2.1 p.2.2.1 k.2.1 x k.2.2).1,p.2.2.2.1.set k.2.1.toNat (bz p.1 p.2.1 p.2.2.1 k.2.1 x k.2.2).2.1,p.2.2.2.2),(bz p.1 p.2.1 p.2.2.1 k.2.1 x k.2.2).2.2))
  (hs:∀ x,p.2.2.2.2[k.2.1.toNat]? = some x→oQ p.1 p.2.1 p.2.2.1 x=true→P ((p.1,p.2.1,(lA p.1 p.2.1 p.2.2.1 k.2.1 x).1,p.2.2.2.1,p.2.2.2.2.set k.2.1.toNat (lA p.1 p.2.1 p.2.2.1 k.2.1 x).2.1),(lA p.1 p.2.1 p.2.2.1 k.2.1 x).2.2))
  (hc:P ((p.1,p.2.1,aW p.2.2.1 3 1,p.2.2.2.1,p.2.2.2.2),[])):P (fi p k):=by
 unfold fi
 split
 ·rename_i e
  split
  ·rename_i x hx;exact hw x hx e
  ·exact h0
 ·split
  ·split
   ·rename_i x hx
    split
    ·rename_i hm;exact hs x hx hm
    ·exact h0
   ·exact h0
  ·split
   ·exact hc
   ·exact h0
theorem L4 {p:PB} {k:PK}:(fi p k).1.2.2.1.length=p.2.2.1.length:=by
 refine la (P:=fun r=>r.1.2.2.1.length=p.2.2.1.length) rfl (fun x _ _=>AJ.len) (fun x _ _=>Fj) (show (aW p.2.2.1 3 1).length=p.2.2.1.length from fV)
theorem Cw {p:PB} {k:PK}:(fi p k).1.1=p.1∧(fi p k).1.2.1=p.2.1∧(fi p k).1.2.2.2.1.length=p.2.2.2.1.length∧(fi p k).1.2.2.2.2.length=p.2.2.2.2.length:=by
 refine la (P:=fun r=>r.1.1=p.1∧r.1.2.1=p.2.1∧r.1.2.2.2.1.length=p.2.2.2.1.length∧r.1.2.2.2.2.length=p.2.2.2.2.length) ⟨rfl,rfl,rfl,rfl⟩ (fun x _ _=>⟨rfl,rfl,List.length_set,rfl⟩) (fun x _ _=>⟨rfl,rfl,rfl,List.length_set⟩) ⟨rfl,rfl,rfl,rfl⟩
theorem LN {p:PB} {k:PK}:(fi p k).2.length≤2:=
 la (P:=fun r=>r.2.length≤2) (Nat.zero_le _) (fun x _ _=>Ms) (fun x _ _=>PD) (Nat.zero_le _)
theorem pQ {n:Nat} {p:PB} {k:PK} (h:Good n p) (hc:fx p.1=true):Good (n+1) (fi p k).1:=by
 have up:∀ x ∈ p.2.2.2.1,WOk (n+1) x:=fun x hx=>⟨(h.w x hx).f,Nat.le_succ_of_le (h.w x hx).s,(h.w x hx).sp⟩
 refine la (P:=fun r=>Good (n+1) r.1) ⟨h.t,h.tl,h.m,up,h.s⟩ (fun x hx _ => ?_) (fun x hx _ => ?_) ⟨h.t,h.tl,show Wm (aW p.2.2.1 3 1) from h.m.set 3 (by decide) (by decide),up,h.s⟩
 ·have hx':=h.w x (List.mem_of_getElem? hx)
  refine ⟨h.t,h.tl,Re h.m hx'.f,fun y hy => ?_,h.s⟩
  rcases AF hy with hy | rfl
  ·exact up y hy
  ·exact Sl hc h.m hx'
 ·have hx':=h.s x (List.mem_of_getElem? hx)
  refine ⟨h.t,h.tl,(P9 h.m hx'.f h.tl).1,up,fun y hy => ?_⟩
  rcases AF hy with hy | rfl
  ·exact h.s y hy
  ·exact W2 h.m h.tl hx'
theorem pI {p:PB} {k:PK} (h:gw p=true) (hk:uS k p.1.1 p.2.2.2.2.length=true):gw (fi p k).1=true:=by
 obtain ⟨h1,h2,h3,h4,h5⟩:=mV h
 refine la (P:=fun r=>gw r.1=true) h (fun x hx hk0 => ?_) (fun x hx hm => ?_) ?_
 ·have h0:0≤k.2.1:=by
   unfold uS at hk
   rw [decide_eq_true_eq] at hk
   omega
  have hkk:((k.2.1.toNat:Nat):Int)=k.2.1:=by omega
  refine xz h1 (by dsimp only;rw [List.length_set];exact h2) h3 (fun j y hy => ?_) h5
  dsimp only at hy ⊢
  rw [List.getElem?_set] at hy
  split at hy
  ·rename_i e
   split at hy
   ·cases hy
    subst e
    rw [hkk]
    have:=h4 _ x hx
    rw [hkk] at this
    exact MA this
   ·cases hy
  ·rw [rZ AJ.len]
   exact h4 j y hy
 ·refine xz h1 h2 (by dsimp only;rw [List.length_set];exact h3) (fun j y hy => ?_) fun y hy => ?_
  ·dsimp only
   rw [rZ Fj]
   exact h4 j y hy
  ·rcases AF hy with hy | rfl
   ·exact h5 y hy
   ·exact Rw (h5 x (List.mem_of_getElem? hx)) hm
 ·refine xz h1 h2 h3 (fun j y hy => ?_) h5
  dsimp only
  rw [rZ fV]
  exact h4 j y hy
theorem Ey {P:PB→Prop} (hs:∀ p k,gw p=true→uS k p.1.1 p.2.2.2.2.length=true→P p→P (fi p k).1):∀ {l:List PK} {p:PB},gw p=true→P p→P (oJ p l).1∧gw (oJ p l).1=true
 | [],p,h,hp=>⟨hp,h⟩
 | k::l,p,h,hp=>by
  rw [oJ]
  split
  ·rename_i hk
   exact Ey hs (pI h hk) (hs p k h hk hp)
  ·exact Ey hs h hp
end Go.Ab
set_option linter.unusedVariables false
set_option linter.unusedSimpArgs false
namespace Go.Ab
theorem Ti (n w:Int):cY n w=some (decide (0≤n∧n<w)):=by
 unfold cY
 by_cases h0:0≤n
 ·rw [leT h0,cond_true]
  by_cases h1:n<w
  ·rw [ltT h1,decide_eq_true ⟨h0,h1⟩]
  ·rw [ltF (by omega),decide_eq_false (by omega)]
 ·rw [leF (by omega),cond_false,decide_eq_false (by omega)]
theorem Vd (k:PK) (w s:Int):iv k w s=some (uS k w s):=by
 unfold iv uS
 simp only [Ti,ae,iJ]
 by_cases h0:k.1=0
 ·by_cases hb:0≤k.2.1∧k.2.1<w
  ·simp [h0,hb]
  ·simp [h0,hb]
 ·by_cases h1:k.1=1
  ·by_cases hb:0≤k.2.1∧k.2.1<s
   ·simp [h1,hb]
   ·simp [h1,hb]
  ·by_cases h2:k.1=2
   ·simp [h2]
   ·simp [h0,h1,h2]
theorem pD {α:Type}:∀ {l:List α} {i:Nat} {x:α},l[i]? = some x→l.set i x=l
 | [],_,_,h=>by cases h
 | a::l,0,x,h=>by cases h;rfl
 | a::l,i+1,x,h=>by rw [List.set_cons_succ,pD (l:=l) (by simpa using h)]
theorem aez {i n:Nat} (h:i<n):decide ((0:Int)≤(i:Int)∧(i:Int).toNat<n)=true:=decide_eq_true ⟨by omega,by omega⟩
theorem KJ (k:Nat) (hk:1000≤k) {t:List (Int×List Int)} (ht:FwT t):dX k t=some t:=by
 have hl:=ht.len
 unfold dX
 rw [bC (by omega),ae]
 have key:∀ (r:List (Int×List Int)) (q n:Nat),t.drop q=r→q≤t.length→r.length<n→cI k t n t (t.length:Int) (q:Int) t=some t:=by
  intro r
  induction r with
  | nil=>
   intro q n hr hq hn
   obtain ⟨n,rfl⟩:=gf hn
   have:=cX hr
   rw [cI,ltF (by omega),cond_false,decide_eq_true (Nat.le_refl _),cg,List.take_length]
  | cons v r ih=>
   intro q n hr hq hn
   obtain ⟨n,rfl⟩:=gf hn
   obtain ⟨h0,h1,h2,_,h4⟩:=b7 hr
   have hv:=ht.kids v (List.mem_of_getElem? h1)
   rw [cI,ltN h0,cond_true,aez h0,cond_true,Int.toNat_natCast,h1,ae,bC (by omega),ae,cond_true,ae,eU (by omega),pD h1]
   exact ih (q+1) n h2 (by omega) (by simp only [List.length_cons] at hn;omega)
 have:=key t 0 (k+1) rfl (Nat.zero_le _) (by omega)
 simpa using this
theorem acW (k n:Nat) {t:List (Int×List Int)} {l:List Int} (hl:l.length≤1000) (hn:l.length<n):bQ k n l (l.length:Int) t 0=some (FA (fun r => !decide (0≤r∧r<(t.length:Int))) l 0):=by
 refine GO (F:=fun n i=>bQ k n l (l.length:Int) t i) (l:=l) _ ?_ ?_ n hn
 ·intro n
  simp only [bQ,ub,cond_false]
 ·intro n i x hi hx
  simp only [bQ,ltN hi,cond_true,fe hx,ae]
  rw [eU (by omega)]
  by_cases h0:x<0
  ·rw [ltT h0,cond_true,decide_eq_false (by omega)]
   rfl
  ·rw [ltF (by omega),cond_false]
   by_cases h1:(t.length:Int)≤x
   ·rw [leT h1,cond_true,decide_eq_false (by omega)]
    rfl
   ·rw [leF (by omega),cond_false,decide_eq_true (by omega)]
    rfl
theorem XT (k n:Nat) (hk:1000≤k) {t:List (Int×List Int)} {S:List SB} (hS:S.length≤1000) (hr:∀ x ∈ S,x.2.1.length≤1000) (hn:S.length<n):bB k n S (S.length:Int) t 0=some (FA (fun x => !pS t x) S 0):=by
 refine GO (F:=fun n i=>bB k n S (S.length:Int) t i) (l:=S) _ ?_ ?_ n hn
 ·intro n
  simp only [bB,ub,cond_false]
 ·intro n i x hi hx
  have hx':=hr x (List.mem_of_getElem? hx)
  have ho:=acW k (k+29) (t:=t) hx' (by omega)
  simp only [bB,ltN hi,cond_true,fe hx,ae,ho,uw]
  rw [eU (by omega)]
  have e:pS t x=(decide (0≤x.1∧x.1<6) && !(x.2.1.any fun r => !decide (0≤r∧r<(t.length:Int)))&&(decide (x.1=0)||decide (x.2.1≠[]))):=by
   unfold pS
   rw [List.all_eq_not_any_not]
  rw [e,Bm,iJ]
  by_cases h0:x.1<0
  ·rw [ltT h0,cond_true,decide_eq_false (show ¬ (0≤x.1∧x.1<6) by omega)]
   rfl
  ·rw [ltF (by omega),cond_false]
   by_cases h6:6≤x.1
   ·rw [leT h6,cond_true,decide_eq_false (show ¬ (0≤x.1∧x.1<6) by omega)]
    rfl
   ·rw [leF (by omega),cond_false,decide_eq_true (show 0≤x.1∧x.1<6 by omega)]
    cases (x.2.1.any fun r => !decide (0≤r∧r<(t.length:Int))) with
    | true=>rfl
    | false=>
     rw [cond_false]
     by_cases hz:x.1=0
     ·rw [decide_eq_true hz]
      rfl
     ·rw [decide_eq_false hz,Bool.not_false,cond_true]
      by_cases hn:x.2.1=[]
      ·rw [hn]
       rfl
      ·have hl:¬ ((x.2.1.length:Int)=0):=by
        intro h
        exact hn (List.length_eq_zero_iff.1 (by omega))
       rw [decide_eq_false hl,decide_eq_true hn]
       rfl
section
variable {k:Nat} (hk:9223372036854779000≤k) {p:PB} (ht:Wt p.2.1) (hw:∀ x ∈ p.2.2.2.1,x.2.1.length≤1000) (hs:∀ x ∈ p.2.2.2.2,x.2.1.length≤1000)
include hk ht hw hs
theorem WZ:iZ k p=some (gw p):=by
 unfold iZ gw
 simp only [Prod.eta,fj,ae]
 cases hm:fx p.1 with
 | false=>rfl
 | true=>
  have hc:=bc hm
  rw [Bool.not_true,cond_false,Bool.true_and,Bm]
  by_cases h1:(p.2.2.2.1.length:Int)=p.1.1
  ·rw [decide_eq_true h1,Bool.not_true,cond_false]
   by_cases h3:(3:Int)<p.2.2.2.2.length
   ·rw [ltT h3,cond_true,decide_eq_false (by omega)]
    rfl
   ·rw [ltF (by omega),cond_false,decide_eq_true ⟨h1,by omega⟩,Bool.true_and]
    have key:∀ (r:List WB) (q n:Nat),p.2.2.2.1.drop q=r→q≤p.2.2.2.1.length→r.length<n→dy k p n (q:Int)=some (BH p.1 p.2.1 p.2.2.1 q r&&p.2.2.2.2.all (pS p.2.1)):=by
     intro r
     induction r with
     | nil=>
      intro q n hr hq hn
      obtain ⟨n,rfl⟩:=gf hn
      have:=cX hr
      rw [dy,ltF (by omega),cond_false,XT k (k+32) (by omega) (by omega) hs (by omega),ae,uw,BH,Bool.true_and,List.all_eq_not_any_not]
     | cons v r ih=>
      intro q n hr hq hn
      obtain ⟨n,rfl⟩:=gf hn
      obtain ⟨h0,h1',h2,_,h4⟩:=b7 hr
      have hv:=hw v (List.mem_of_getElem? h1')
      rw [dy,ltN h0,cond_true,fe h1',ae]
      try simp only [Prod.eta]
      rw [H6 (by omega) p.1 ht p.2.2.1 (q:Int) v hv,ae,BH,eU (by omega),ih (q+1) n h2 (by omega) (by simp only [List.length_cons] at hn;omega)]
      cases dC p.1 p.2.1 p.2.2.1 (q:Int) v <;> rfl
    have:=key p.2.2.2.1 0 (k+33) rfl (Nat.zero_le _) (by omega)
    simpa using this
  ·rw [decide_eq_false h1,Bool.not_false,cond_true,decide_eq_false (fun h=>h1 h.1)]
   rfl
end
theorem H3 (k:Nat) (c1 c2 c3 c4:Int) (t:List (Int×List Int)) (m:List Int) (W:List WB) {S:List SB} (hS:S.length≤1000) (hr:∀ x ∈ S,x.2.1.length≤1000):∀ (r:List SB) (q n:Nat),S.drop q=r→q≤S.length→r.length<n →
  cr k n c1 c2 c3 c4 t m W S (S.length:Int) W (q:Int) S=some (c1,c2,c3,c4,t,m,W,S,W,S):=by
 intro r
 induction r with
 | nil=>
  intro q n hr hq hn
  obtain ⟨n,rfl⟩:=gf hn
  have:=cX hr
  rw [cr,ltF (by omega),cond_false]
 | cons v r ih=>
  intro q n hr' hq hn
  obtain ⟨n,rfl⟩:=gf hn
  obtain ⟨h0,h1,h2,_,h4⟩:=b7 hr'
  have hv:=hr v (List.mem_of_getElem? h1)
  rw [cr,ltN h0,cond_true,aez h0,cond_true,Int.toNat_natCast,h1,ae,bC (by omega),ae,cond_true,ae,eU (by omega)]
  try simp only [Prod.eta]
  rw [pD h1]
  exact ih (q+1) n h2 (by omega) (by simp only [List.length_cons] at hn;omega)
theorem MP (k:Nat) (hk:1000≤k) (c1 c2 c3 c4:Int) (t:List (Int×List Int)) (m:List Int) {W:List WB} {S:List SB} (hW:W.length≤1000) (hw:∀ x ∈ W,x.2.1.length≤1000) (hS:S.length≤1000) (hs:∀ x ∈ S,x.2.1.length≤1000):∀ (r:List WB) (q n:Nat),W.drop q=r→q≤W.length→r.length<n →
  cp k n c1 c2 c3 c4 t m W S (W.length:Int) (q:Int) W=some (c1,c2,c3,c4,t,m,W,S,W,S):=by
 intro r
 induction r with
 | nil=>
  intro q n hr hq hn
  obtain ⟨n,rfl⟩:=gf hn
  have:=cX hr
  rw [cp,ltF (by omega),cond_false]
  exact H3 k c1 c2 c3 c4 t m W hS hs S 0 (k+61) rfl (Nat.zero_le _) (by omega)
 | cons v r ih=>
  intro q n hr' hq hn
  obtain ⟨n,rfl⟩:=gf hn
  obtain ⟨h0,h1,h2,_,h4⟩:=b7 hr'
  have hv:=hw v (List.mem_of_getElem? h1)
  rw [cp,ltN h0,cond_true,aez h0,cond_true,Int.toNat_natCast,h1,ae,bC (by omega),ae,cond_true,ae,eU (by omega)]
  try simp only [Prod.eta]
  rw [pD h1]
  exact ih (q+1) n h2 (by omega) (by simp only [List.length_cons] at hn;omega)
def Wp (l:List PK):Prop:=∀ x ∈ l,0≤x.2.2∧x.2.2≤18446744073709551615
section
variable {k:Nat} (hk:9223372036854779000≤k) {p0:PB} {l:List PK} (hl:l.length≤1000) (hd:Wp l)
include hk hl hd
theorem O9:∀ (r:List PK) (q n N:Nat) (p:PB) (W0:List WB) (S0:List SB) (evs:List EV) (e:Nat),l.drop q=r→q≤l.length→r.length<n→(e=3∨e=0)→p.1=p0.1→p.2.2.2.2.length=p0.2.2.2.2.length→W0.length=p.2.2.2.1.length→S0.length=p.2.2.2.2.length→Good N p→gw p=true→N+r.length≤1000→evs.length+2*r.length≤4000 →
  bu k p0 l n p.1.1 p.1.2.1 p.1.2.2.1 p.1.2.2.2 p.2.1 W0 S0 p.2.2.2.1 p.2.2.2.2 evs (q:Int) p.2.2.1 e=some ((oJ p r).1,evs++(oJ p r).2):=by
 intro r
 induction r with
 | nil=>
  intro q n N p W0 S0 evs e hr hq hn he hc hS hW0 hS0 hg hm hN hE
  obtain ⟨n,rfl⟩:=gf hn
  have:=cX hr
  rw [bu,ltF (by omega),cond_false,decide_eq_true (by omega),cg,decide_eq_true (by omega),cg,hW0,hS0,List.take_length,List.take_length,oJ,List.append_nil]
 | cons v r ih=>
  intro q n N p W0 S0 evs e hr hq hn he hc hS hW0 hS0 hg hm hN hE
  obtain ⟨n,rfl⟩:=gf hn
  obtain ⟨h0,h1,h2,_,h4⟩:=b7 hr
  have hv:=hd v (List.mem_of_getElem? h1)
  obtain ⟨m1,m2,m3,m4,m5⟩:=mV hm
  have hcc:=bc m1
  simp only [List.length_cons] at hn hN hE
  have hml:p.2.2.1.length≤1000:=by
   have hW1:0<p.2.2.2.1.length:=by omega
   have:=(m7 (m4 0 _ (List.getElem?_eq_getElem hW1))).2.1
   have:=lg m1
   omega
  have hes:(e==3||e==0)=true:=by rcases he with rfl | rfl <;> rfl
  have next:∀ (evs':List EV) (p':PB),p'.1=p.1→p'.2.1=p.2.1→p'.2.2.2.1.length=p.2.2.2.1.length→p'.2.2.2.2.length=p.2.2.2.2.length→Good (N+1) p'→gw p'=true→evs'.length≤evs.length+2→∀ e',(e'=3∨e'=0) →
    bu k p0 l n p.1.1 p.1.2.1 p.1.2.2.1 p.1.2.2.2 p.2.1 W0 S0 p'.2.2.2.1 p'.2.2.2.2 evs' ((q+1:Nat):Int) p'.2.2.1 e'=some ((oJ p' r).1,evs'++(oJ p' r).2):=fun evs' p' g1 g2 g3 g4 g5 g6 g7 e' he'=>by
   have:=ih (q+1) n (N+1) p' W0 S0 evs' e' h2 (by omega) (by omega) he' (by rw [g1,hc]) (by omega) (by omega) (by omega) g5 g6 (by omega) (by omega)
   rw [g1,g2] at this
   exact this
  have hw:IntKind.i64.wrap ((q:Int)+1)=((q+1:Nat):Int):=eU (by omega)
  have up:Good (N+1) p:=⟨hg.t,hg.tl,hg.m,fun x hx=>⟨(hg.w x hx).f,Nat.le_succ_of_le (hg.w x hx).s,(hg.w x hx).sp⟩,hg.s⟩
  rw [bu,ltN h0,cond_true,fe h1,ae]
  simp only [Prod.eta,hw]
  rw [Vd,ae,oJ,← hc,← hS]
  cases hf:uS v p.1.1 p.2.2.2.2.length with
  | false=>
   rw [cond_false,if_neg (by simp)]
   exact next evs p rfl rfl rfl rfl up hm (by omega) e he
  | true=>
   have st:=Cw (p:=p) (k:=v)
   have sg:=pQ (k:=v) hg m1
   have sm:=pI hm hf
   have se:=LN (p:=p) (k:=v)
   have nx:=fun e' he'=>next (evs++(fi p v).2) (fi p v).1 st.1 st.2.1 st.2.2.1 st.2.2.2 sg sm (by rw [List.length_append];omega) e' he'
   have hroom:room (evs++(fi p v).2).length 24=true:=EE (by rw [List.length_append];omega)
   have hroom0:room evs.length 24=true:=EE (by omega)
   rw [cond_true,if_pos rfl]
   simp only [← List.append_assoc]
   have hfit:=hf
   unfold uS at hfit
   rw [decide_eq_true_eq] at hfit
   by_cases k0:v.1=0
   ·have hb:0≤v.2.1∧v.2.1<p.1.1:=by omega
    have hi:v.2.1.toNat<p.2.2.2.1.length:=by omega
    have hx:=List.getElem?_eq_getElem hi
    have hdec:decide (0≤v.2.1∧v.2.1.toNat<W0.length)=true:=decide_eq_true ⟨hb.1,by omega⟩
    generalize p.2.2.2.1[v.2.1.toNat]=x at hx
    have hxo:=hg.w x (List.mem_of_getElem? hx)
    have es:fi p v=((p.1,p.2.1,(bz p.1 p.2.1 p.2.2.1 v.2.1 x v.2.2).1,p.2.2.2.1.set v.2.1.toNat (bz p.1 p.2.1 p.2.2.1 v.2.1 x v.2.2).2.1,p.2.2.2.2),(bz p.1 p.2.1 p.2.2.1 v.2.1 x v.2.2).2.2):=by
     unfold fi
     rw [if_pos k0,hx]
    rw [iJ,decide_eq_true k0,cond_true,hdec,cond_true,hx,ae]
    try simp only [Prod.eta]
    rw [ME (by omega) p.1 hg.t.wt hg.m hml v.2.1 hxo.f (by have:=hxo.s;omega) (by have:=hxo.sp;omega) hv,ae,cond_true,ae,hes,cg]
    rw [es] at nx hroom ⊢
    rw [hroom,cond_true]
    exact nx 3 (.inl rfl)
   ·rw [iJ,decide_eq_false k0,cond_false]
    by_cases k1:v.1=1
    ·have hb:0≤v.2.1∧v.2.1<(p.2.2.2.2.length:Int):=by omega
     have hi:v.2.1.toNat<p.2.2.2.2.length:=by omega
     have hx:=List.getElem?_eq_getElem hi
     have hdec:decide (0≤v.2.1∧v.2.1.toNat<S0.length)=true:=decide_eq_true ⟨hb.1,by omega⟩
     generalize p.2.2.2.2[v.2.1.toNat]=x at hx
     have hxo:=hg.s x (List.mem_of_getElem? hx)
     rw [iJ,decide_eq_true k1,cond_true,hdec,cond_true,hx,ae]
     try simp only [Prod.eta]
     rw [Qi (by omega) p.1 hg.t.wt,ae]
     cases hsm:oQ p.1 p.2.1 p.2.2.1 x with
     | false=>
      have es:fi p v=(p,[]):=by
       unfold fi
       rw [if_neg k0,if_pos k1,hx]
       dsimp only
       rw [hsm,if_neg (by simp)]
      rw [es] at nx ⊢
      rw [cond_false,hes,cg,hroom0,cond_true]
      have:=nx 3 (.inl rfl)
      rw [List.append_nil] at this ⊢
      exact this
     | true=>
      have es:fi p v=((p.1,p.2.1,(lA p.1 p.2.1 p.2.2.1 v.2.1 x).1,p.2.2.2.1,p.2.2.2.2.set v.2.1.toNat (lA p.1 p.2.1 p.2.2.1 v.2.1 x).2.1),(lA p.1 p.2.1 p.2.2.1 v.2.1 x).2.2):=by
       unfold fi
       rw [if_neg k0,if_pos k1,hx]
       dsimp only
       rw [hsm,if_pos rfl]
      rw [cond_true,cond_true,ae]
      rw [Ut (by omega) p.1 hg.t.wt hg.m hml v.2.1 hxo.f hxo.s hg.tl,ae,cond_true,ae,hes,cg]
      rw [es] at nx hroom ⊢
      rw [hroom,cond_true]
      exact nx 3 (.inl rfl)
    ·rw [iJ,decide_eq_false k1,cond_false]
     by_cases k2:v.1=2
     ·have es:fi p v=((p.1,p.2.1,aW p.2.2.1 3 1,p.2.2.2.1,p.2.2.2.2),[]):=by
       unfold fi
       rw [if_neg k0,if_neg k1,if_pos k2]
      rw [iJ,decide_eq_true k2,cond_true,ia hml,ae,hes,cg,hroom0,cond_true]
      rw [es] at nx ⊢
      have:=nx 3 (.inl rfl)
      rw [List.append_nil] at this ⊢
      exact this
     ·have es:fi p v=(p,[]):=by
       unfold fi
       rw [if_neg k0,if_neg k1,if_neg k2]
      rw [iJ,decide_eq_false k2,cond_false,hes,cg,hroom0,cond_true]
      rw [es] at nx ⊢
      have:=nx 3 (.inl rfl)
      rw [List.append_nil] at this ⊢
      exact this
theorem XD {N:Nat} (hg:Good N p0) (hW:p0.2.2.2.1.length≤20) (hS:p0.2.2.2.2.length≤20) (hml:p0.2.2.1.length≤1000) (hN:N+l.length≤1000):eE k p0 l=some (abm p0 l):=by
 have hw:∀ x ∈ p0.2.2.2.1,x.2.1.length≤1000:=fun x hx=>by have:=(hg.w x hx).s;omega
 have hs:∀ x ∈ p0.2.2.2.2,x.2.1.length≤1000:=fun x hx=>(hg.s x hx).s
 unfold eE abm
 try simp only [Prod.eta]
 rw [KJ _ (by omega) hg.t,ae,bC (by omega),ae,bC (by omega),ae,bC (by omega),ae]
 have ho:=MP k (by omega) p0.1.1 p0.1.2.1 p0.1.2.2.1 p0.1.2.2.2 p0.2.1 p0.2.2.1 (by omega) hw (by omega) hs p0.2.2.2.1 0 (k+61) rfl (Nat.zero_le _) (by omega)
 refine (congrArg (fun z=>ob z _) ho).trans ?_
 rw [ae]
 dsimp only
 rw [decide_eq_true (Nat.le_refl _),cg,decide_eq_true (Nat.le_refl _),cg,WZ (by omega) hg.t.wt hw hs,ae,List.take_length,List.take_length,decide_eq_true (Nat.le_refl _),decide_eq_true (Nat.le_refl _)]
 cases hm:gw p0 with
 | false=>
  rw [Bool.not_false,cond_true,cg,cg,if_neg (by simp),List.take_length,List.take_length]
 | true=>
  rw [Bool.not_true,cond_false,if_pos rfl]
  exact O9 hk hl hd l 0 (k+62) N p0 p0.2.2.2.1 p0.2.2.2.2 [] 0 rfl (Nat.zero_le _) (by omega) (.inr rfl) rfl rfl rfl rfl hg hm hN (by simp;omega)
end
end Go.Ab
set_option linter.unusedVariables false
set_option linter.unusedSimpArgs false
namespace Go.Ab
theorem BB (n:Nat) (i:Int):aq (List.replicate n 0) i=0:=by
 unfold aq
 split
 ·rw [List.getElem?_replicate]
  split <;> rfl
 ·rfl
theorem abO {k:Nat} (hk:1000≤k) (c:CF):iX k c=some (List.replicate (cB c).toNat 0):=by
 have hs:0≤cB c∧cB c≤190:=by
  unfold cB
  split
  ·rename_i h
   have hm:=bc h
   have:=dr h (w:=c.1) (by omega) (by omega)
   omega
  ·omega
 have key:∀ (d i n t:Nat),(t=0∨t=1)→i+d=(cB c).toNat→d<n→eb k c n (cB c) (List.replicate i 0) (i:Int) t=some (List.replicate (cB c).toNat 0):=by
  intro d
  induction d with
  | zero=>
   intro i n t ht hi hn
   obtain ⟨n,rfl⟩:=gf hn
   rw [eb,ltF (by omega),cond_false]
   rw [show i=(cB c).toNat by omega]
  | succ d ih=>
   intro i n t ht hi hn
   obtain ⟨n,rfl⟩:=gf hn
   have h1:(t==1||t==0)=true:=by rcases ht with rfl | rfl <;> rfl
   rw [eb,ltT (by omega),cond_true,h1,cg,EE (by simp;omega),cond_true,eU (by omega)]
   have:=ih (i+1) n 1 (.inr rfl) (by omega) (by omega)
   rw [List.replicate_succ'] at this
   exact this
 unfold iX
 simp only [Prod.eta,wi,ae]
 exact key (cB c).toNat 0 (k+3) 0 (.inl rfl) (by omega) (by omega)
theorem ZC {l:List Int} (h:l.length≤1000):fX l=some (0,l,dB):=by
 unfold fX
 rw [bC (by omega),ae]
 rfl
theorem FK {α:Type} (p:α→Bool):∀ (l:List α) (i:Nat),FA p l i = -1∨∃ (j:Nat) (x:α),FA p l i=((i+j:Nat):Int)∧l[j]? = some x∧p x=true
 | [],_ => .inl rfl
 | x::r,i=>by
  rw [FA]
  by_cases h:p x=true
  ·rw [if_pos h]
   exact .inr ⟨0,x,rfl,rfl,h⟩
  ·rw [if_neg h]
   rcases FK p r (i+1) with e | ⟨j,y,e,h1,h2⟩
   ·exact .inl e
   ·refine .inr ⟨j+1,y,?_,h1,h2⟩
    rw [e]
    congr 1
    omega
theorem Sr (k:Nat) {l:List Int} (hl:l.length≤1000) (hk:1001≤k) (v:Int):bI k l v=some (FA (fun y=>v==y) l 0):=by
 unfold bI
 refine GO (F:=fun n i=>aU k l v n i) (l:=l) _ ?_ ?_ k (by omega)
 ·intro n
  simp only [aU,ub,cond_false]
 ·intro n i y hi hy
  simp only [aU,ltN hi,cond_true,fe hy,ae]
  rw [eU (by omega)]
theorem aau {k:Nat} (hk:9223372036854775808≤k) {t:List (Int×List Int)} (ht:FwT t) (q:Int):∃ z,d9 k t q=some z:=by
 have hlen:=ht.len
 unfold d9
 rw [GE k hk t ht.wt,ae]
 cases uM t with
 | false=>exact ⟨_,rfl⟩
 | true=>
  rw [cond_true]
  have inner:∀ (i:Nat),i<t.length→∀ (o:Int→Option Int),(∃ z,o ((i+1:Nat):Int)=some z)→∀ (K:List Int),K.length≤40→∀ (r:List Int) (j n:Nat),K.drop j=r→j≤K.length→r.length<n→∃ z,bJ k t q o n K (K.length:Int) (j:Int) (i:Int)=some z:=by
   intro i hi o ho K hK r
   induction r with
   | nil=>
    intro j n hr hj hn
    obtain ⟨n,rfl⟩:=gf hn
    have:=cX hr
    rw [bJ,ltF (by omega),cond_false,eU (by omega)]
    exact ho
   | cons x r ih=>
    intro j n hr hj hn
    obtain ⟨n,rfl⟩:=gf hn
    obtain ⟨h0,h1,h2,_,h4⟩:=b7 hr
    rw [bJ,ltN h0,cond_true,fe h1,ae]
    cases x==q with
    | true=>exact ⟨_,rfl⟩
    | false=>
     rw [cond_false,eU (by omega)]
     exact ih (j+1) n h2 (by omega) (by simp only [List.length_cons] at hn;omega)
  have outer:∀ (r:List (Int×List Int)) (i n:Nat),t.drop i=r→i≤t.length→r.length<n→∃ z,bw k t q n (i:Int)=some z:=by
   intro r
   induction r with
   | nil=>
    intro i n hr hi hn
    obtain ⟨n,rfl⟩:=gf hn
    have:=cX hr
    rw [bw,ltF (by omega),cond_false]
    exact ⟨_,rfl⟩
   | cons x r ih=>
    intro i n hr hi hn
    obtain ⟨n,rfl⟩:=gf hn
    obtain ⟨h0,h1,h2,_,h4⟩:=b7 hr
    have hx:=ht.kids x (List.mem_of_getElem? h1)
    rw [bw,ltN h0,cond_true,fe h1,ae]
    exact inner i h0 _ (ih (i+1) n h2 (by omega) (by simp only [List.length_cons] at hn;omega)) x.2 hx x.2 0 (k+18) rfl (Nat.zero_le _) (by omega)
  exact outer t 0 (k+18) rfl (Nat.zero_le _) (by omega)
theorem Un {k:Nat} (hk:9223372036854775808≤k) {t:List (Int×List Int)} (ht:FwT t):∀ (d i n g e:Nat) (L:List Int),i+d=t.length→d<n→L.length≤i→(e=0∨e=1)→(L≠[]→e=1)→(∀ r ∈ L,0≤r∧r<(t.length:Int)) →
  ∃ g' L' e',br k n t (t.length:Int) g L (i:Int) e=some (g',L',e')∧L'.length≤t.length∧(L'≠[]→e'=1)∧(∀ r ∈ L',0≤r∧r<(t.length:Int)):=by
 have hlen:=ht.len
 intro d
 induction d with
 | zero=>
  intro i n g e L hi hn hL he hne hr
  obtain ⟨n,rfl⟩:=gf hn
  rw [br,ltF (by omega),cond_false]
  exact ⟨g,L,e,rfl,by omega,hne,hr⟩
 | succ d ih=>
  intro i n g e L hi hn hL he hne hr
  obtain ⟨n,rfl⟩:=gf hn
  obtain ⟨z,hz⟩:=aau hk ht (i:Int)
  rw [br,ltT (by omega),cond_true,hz,ae,eU (by omega)]
  cases z == -1 with
  | true=>
   have he1:(e==1||e==0)=true:=by rcases he with rfl | rfl <;> rfl
   rw [cond_true,he1,cg,EE (by simp;omega),cond_true]
   refine ih (i+1) n (g+1) 1 (L++[(i:Int)]) (by omega) (by omega) (by simp;omega) (.inr rfl) (fun _=>rfl) fun r hr' => ?_
   rcases List.mem_append.1 hr' with h | h
   ·exact hr r h
   ·rw [List.mem_singleton.1 h];omega
  | false=>
   rw [cond_false]
   exact ih (i+1) n g e L (by omega) (by omega) (by omega) he hne hr
def O3 (w:Nat):WB:=(0,[],AH 1 (w:Int) 0,0,0)
def iS (n:Nat):List WB:=(List.range n).map O3
def i8 (roots:List (List Int)):List SB:=roots.map fun l=>(0,l,dB)
def DY (c:CF) (t:List (Int×List Int)) (roots:List (List Int)):PB:=(c,t,List.replicate (cB c).toNat 0,iS c.1.toNat,i8 roots)
def Dr:PB:=((0,0,0,0),[],[],[],[])
section
variable {k:Nat} (hk:9223372036854779000≤k) (c:CF) (t:List (Int×List Int)) (ht:t.length≤40) (roots:List (List Int))
include hk ht
theorem Kj (o0:List (Int×List Int)→List Int→Nat→List WB→Int→List SB→Nat→Nat→List Int→Option (PB×Bool)) (t':List (Int×List Int)) (m:List Int) (W:List WB) (i0:Int) (S:List SB) (x:List Int) (hx:x.length≤1000) (hS:S.length≤100) (e:Nat) (he:e=9∨e=0) :
  ∀ (r:List Int) (q n len z:Nat) (L:List Int),x.drop q=r→q≤x.length→r.length<n→len≤L.length→L.length≤40→(0<len→z=1)→(∀ y ∈ L.take len,0≤y∧y<(t.length:Int))→(∀ y ∈ x.take q,0≤y∧y<(t.length:Int)) →
  cw k c t roots o0 n x t' m (x.length:Int) z W len (q:Int) L i0 S e=some (Dr,false) ∨
  ∃ (len' z':Nat) (L':List Int),len'≤L'.length∧L'.length≤40∧(0<len'→z'=1)∧(∀ y ∈ L'.take len',0≤y∧y<(t.length:Int))∧(∀ y ∈ x,0≤y∧y<(t.length:Int)) ∧
   cw k c t roots o0 n x t' m (x.length:Int) z W len (q:Int) L i0 S e=o0 t' m z' W (IntKind.i64.wrap (i0+1)) (S++[(0,x,dB)]) 9 len' L':=by
 have _h:=ht
 intro r
 induction r with
 | nil=>
  intro q n len z L hr hq hn hlen hL hz hy hxq
  obtain ⟨n,rfl⟩:=gf hn
  have:=cX hr
  have he1:(e==9||e==0)=true:=by rcases he with rfl | rfl <;> rfl
  refine .inr ⟨len,z,L,hlen,hL,hz,hy,?_,?_⟩
  ·rw [List.take_of_length_le (by omega)] at hxq
   exact hxq
  ·rw [cw,ltF (by omega),cond_false,ZC hx,ae,he1,cg]
   rw [EE (by simp;omega),cond_true]
 | cons v r ih=>
  intro q n len z L hr hq hn hlen hL hz hy hxq
  obtain ⟨n,rfl⟩:=gf hn
  obtain ⟨h0,h1,h2,_,h4⟩:=b7 hr
  simp only [List.length_cons] at hn
  rw [cw,ltN h0,cond_true,fe h1,ae,decide_eq_true hlen,cg,Sr (k+20) (by rw [List.length_take];omega) (by omega) v,ae]
  rcases FK (fun y=>v==y) (L.take len) 0 with e1 | ⟨j,y,e1,hj,hvy⟩
  ·rw [e1]
   exact .inl rfl
  ·have hvy':v=y:=by simpa using hvy
   have hjl:j<len:=by
    have:=(List.getElem?_eq_some_iff.1 hj).1
    rw [List.length_take] at this
    omega
   have hyr:=hy y (List.mem_of_getElem? hj)
   rw [e1,Nat.zero_add,ltF (by omega),cond_false,hz (by omega),show ((1:Nat)==1)=true from rfl,cg,eU (by omega),Int.toNat_natCast,Int.toNat_natCast,decide_eq_true (show len≤L.length∧(0:Int)≤(j:Int)∧(j:Int)<((j+1:Nat):Int)∧j+1≤len∧len≤9223372036854775807 by omega),cg,eU (by omega),show len - (j+1 - j)=len - 1 by omega]
   have hc1:(Ek (L.take len) j (j+1)).length=len:=by
    rw [Ga (by omega) (by rw [List.length_take];omega),List.length_take]
    omega
   have hc2:(Ek (L.take len) j (j+1)++L.drop len).length=L.length:=by
    rw [List.length_append,hc1,List.length_drop]
    omega
   refine ih (q+1) n (len - 1) 1 _ h2 (by omega) (by omega) (by rw [hc2];omega) (by rw [hc2];exact hL) (fun _=>rfl) ?_ ?_
   ·intro y' hy'
    rw [List.take_append_of_le_length (by rw [hc1];omega)] at hy'
    unfold Ek at hy'
    rw [List.take_append_of_le_length (by simp;omega)] at hy'
    rcases List.mem_append.1 (List.mem_of_mem_take hy') with h | h
    ·exact hy y' (List.mem_of_mem_take h)
    ·exact hy y' (List.mem_of_mem_drop h)
   ·intro y' hy'
    rw [List.take_add_one,h1] at hy'
    rcases List.mem_append.1 hy' with h | h
    ·exact hxq y' h
    ·rw [show y'=v by simpa using h,hvy']
     exact hyr
theorem IQ (hR:roots.length≤3) (hr:∀ l ∈ roots,l.length≤1000) (W:List WB):∀ (r:List (List Int)) (q n len z e:Nat) (L:List Int) (t':List (Int×List Int)) (m:List Int),roots.drop q=r→q≤roots.length→r.length<n→len≤L.length→L.length≤40→(0<len→z=1)→(e=9∨e=0)→(∀ y ∈ L.take len,0≤y∧y<(t.length:Int))→(∀ l ∈ roots.take q,∀ y ∈ l,0≤y∧y<(t.length:Int)) →
  bH k c t roots n t' m z W (q:Int) (i8 (roots.take q)) e len L=some (Dr,false) ∨
  bH k c t roots n t' m z W (q:Int) (i8 (roots.take q)) e len L=some ((c,t',m,W,i8 roots),true)∧(∀ l ∈ roots,∀ y ∈ l,0≤y∧y<(t.length:Int)):=by
 intro r
 induction r with
 | nil=>
  intro q n len z e L t' m hq' hq hn hlen hL hz he hy hxq
  obtain ⟨n,rfl⟩:=gf hn
  have:=cX hq'
  rw [List.take_of_length_le (by omega)] at hxq ⊢
  rw [bH,ltF (by omega),cond_false]
  exact .inr ⟨rfl,hxq⟩
 | cons v r ih=>
  intro q n len z e L t' m hq' hq hn hlen hL hz he hy hxq
  obtain ⟨n,rfl⟩:=gf hn
  obtain ⟨h0,h1,h2,_,h4⟩:=b7 hq'
  simp only [List.length_cons] at hn
  have hv:=hr v (List.mem_of_getElem? h1)
  have hSl:(i8 (roots.take q)).length≤100:=by unfold i8;rw [List.length_map,List.length_take];omega
  rw [bH,ltN h0,cond_true,fe h1,ae]
  rcases Kj hk c t ht roots (fun s62 s63 s64 s77 s113 s115 s116 s135 s138=>bH k c t roots n s62 s63 s64 s77 s113 s115 s116 s135 s138) t' m W (q:Int) (i8 (roots.take q)) v hv hSl e he v 0 (k+21) len z L rfl (Nat.zero_le _) (by omega) hlen hL hz hy (by simp) with h | ⟨len',z',L',g1,g2,g3,g4,g5,g6⟩
  ·exact .inl h
  ·have hs:i8 (roots.take q)++[(0,v,dB)]=i8 (roots.take (q+1)):=by
    unfold i8
    rw [List.take_add_one,h1,List.map_append]
    rfl
   rw [hs,eU (by omega)] at g6
   have:=ih (q+1) n len' z' 9 L' t' m h2 (by omega) (by omega) g1 g2 g3 (.inl rfl) g4 (fun l hl=>by
    rw [List.take_add_one,h1] at hl
    rcases List.mem_append.1 hl with h | h
    ·exact hxq l h
    ·rw [show l=v by simpa using h]
     exact g5)
   have g6':cw k c t roots (fun s62 s63 s64 s77 s113 s115 s116 s135 s138=>bH k c t roots n s62 s63 s64 s77 s113 s115 s116 s135 s138) (k+21) v t' m (v.length:Int) z W len 0 L (q:Int) (i8 (roots.take q)) e=_:=g6
   rw [g6']
   exact this
theorem Ml (hR:roots.length≤3) (hr:∀ l ∈ roots,l.length≤1000) (hc:0≤c.1∧c.1≤8) (t':List (Int×List Int)) (m L:List Int) (z:Nat) (hL:L.length≤40) (hz:L≠[]→z=1) (hy:∀ y ∈ L,0≤y∧y<(t.length:Int)):∀ (d i n e:Nat),(i:Int)+d=c.1→d<n→(e=11∨e=0) →
  cC k c t roots n t' m L z (i:Int) (iS i) e=some (Dr,false) ∨
  cC k c t roots n t' m L z (i:Int) (iS i) e=some ((c,t',m,iS c.1.toNat,i8 roots),true)∧(∀ l ∈ roots,∀ y ∈ l,0≤y∧y<(t.length:Int)):=by
 intro d
 induction d with
 | zero=>
  intro i n e hi hn he
  obtain ⟨n,rfl⟩:=gf hn
  rw [cC,ltF (by omega),cond_false,show c.1.toNat=i by omega]
  exact IQ hk c t ht roots hR hr (iS i) roots 0 (k+21) L.length z 0 L t' m rfl (Nat.zero_le _) (by omega) (Nat.le_refl _) hL (fun h=>hz (fun e=>by rw [e] at h;cases h)) (.inr rfl) (by rw [List.take_length];exact hy) (by simp)
 | succ d ih=>
  intro i n e hi hn he
  obtain ⟨n,rfl⟩:=gf hn
  have he1:(e==11||e==0)=true:=by rcases he with rfl | rfl <;> rfl
  rw [cC,ltT (by omega),cond_true,TF,ae,he1,cg]
  rw [EE (by rw [List.length_append];unfold iS;simp;omega),cond_true,eU (by omega)]
  have hw:iS i++[O3 i]=iS (i+1):=by
   unfold iS
   rw [List.range_succ,List.map_append]
   rfl
  have:=ih (i+1) n 11 (by omega) (by omega) (.inl rfl)
  rw [← hw] at this
  exact this
end
theorem aai {k:Nat} (hk:9223372036854779000≤k) (c:CF) {t:List (Int×List Int)} (ht:FwT t) {roots:List (List Int)} (hr:∀ l ∈ roots,l.length≤1000) :
  gF k c t roots=some (Dr,false)∨gF k c t roots=some (DY c t roots,true)∧fx c=true∧uM t=true∧roots.length≤3∧(∀ l ∈ roots,∀ y ∈ l,0≤y∧y<(t.length:Int)):=by
 unfold gF
 try simp only [Prod.eta]
 rw [fj,ae]
 cases hm:fx c with
 | false=>exact .inl rfl
 | true=>
  have hc:=bc hm
  rw [Bool.not_true,cond_false,GE _ (by omega) t ht.wt,ae]
  cases ht2:uM t with
  | false=>exact .inl rfl
  | true=>
   rw [Bool.not_true,cond_false]
   by_cases h3:(3:Int)<roots.length
   ·rw [ltT h3]
    exact .inl rfl
   ·obtain ⟨g',L',e',h1,h2,h4,h5⟩:=Un (k:=k) (by omega) ht t.length 0 (k+20) 0 0 [] (by omega) (by have:=ht.len;omega) (Nat.zero_le _) (.inl rfl) (fun h=>absurd rfl h) (by simp)
    rw [ltF (by omega),cond_false,GE _ (by omega) t ht.wt,ae,ht2,Bool.not_true,cond_false]
    refine (show _∨_ from ?_)
    have h1':br k (k+20) t (t.length:Int) 0 [] 0 0=some (g',L',e'):=h1
    rw [h1',ae,KJ _ (by omega) ht,ae,abO (by omega),ae]
    have hl:=ht.len
    rcases Ml (k:=k) hk c t ht.len roots (by omega) hr (by omega) t (List.replicate (cB c).toNat 0) L' e' (by omega) h4 h5 c.1.toNat 0 (k+21) 0 (by omega) (by omega) (.inr rfl) with h | ⟨h,h'⟩
    ·exact .inl h
    ·exact .inr ⟨h,rfl,rfl,by omega,h'⟩
end Go.Ab
set_option linter.unusedVariables false
namespace Go.Ab
theorem Zg {k:Nat} (hk:9223372036854775808≤k) {l:List (List Int)} (hl:l.length≤9223372036854775807):∃ b,bG k l=some b∧(b=true→l.length≤10∧∀ x ∈ l,x.length≤60):=by
 unfold bG
 have key:∀ (r:List (List Int)) (q n:Nat),l.drop q=r→q≤l.length→r.length<n→(∀ x ∈ l.take q,x.length≤60)→∃ b,aX k l n (q:Int)=some b∧(b=true→l.length≤10∧∀ x ∈ l,x.length≤60):=by
  intro r
  induction r with
  | nil=>
   intro q n hr hq hn hx
   obtain ⟨n,rfl⟩:=gf hn
   have:=cX hr
   rw [List.take_of_length_le (by omega)] at hx
   rw [aX,ltF (by omega),cond_false]
   refine ⟨_,rfl,fun h=>⟨?_,hx⟩⟩
   have:=of_decide_eq_true h
   omega
  | cons v r ih=>
   intro q n hr hq hn hx
   obtain ⟨n,rfl⟩:=gf hn
   obtain ⟨h0,h1,h2,_,h4⟩:=b7 hr
   rw [aX,ltN h0,cond_true]
   by_cases hq10:(q:Int)≤10
   ·rw [leT hq10,cond_true,fe h1,ae]
    by_cases h60:(60:Int)<v.length
    ·rw [ltT h60,cond_true]
     exact ⟨_,rfl,fun h=>by cases h⟩
    ·rw [ltF (by omega),cond_false,eU (by omega)]
     refine ih (q+1) n h2 (by omega) (by simp only [List.length_cons] at hn;omega) fun x hx' => ?_
     rw [List.take_add_one,h1] at hx'
     rcases List.mem_append.1 hx' with h | h
     ·exact hx x h
     ·rw [show x=v by simpa using h];omega
   ·rw [leF (by omega),cond_false]
    refine ⟨_,rfl,fun h => ?_⟩
    have:=of_decide_eq_true h
    omega
 exact key l 0 k rfl (Nat.zero_le _) (by omega) (by simp)
theorem Aa:∀ {l:List PK} {n:Nat} {p:PB},Good n p→gw p=true→Good (n+l.length) (oJ p l).1
 | [],n,p,h,_=>h
 | k::l,n,p,h,hm=>by
  rw [oJ]
  split
  ·rename_i hk
   have:=Aa (l:=l) (pQ (k:=k) h (mV hm).1) (pI hm hk)
   rw [List.length_cons,show n+(l.length+1)=n+1+l.length by omega]
   exact this
  ·have:=Aa (l:=l) h hm
   rw [List.length_cons]
   exact ⟨this.t,this.tl,this.m,fun x hx=>⟨(this.w x hx).f,by have:=(this.w x hx).s;omega,(this.w x hx).sp⟩,this.s⟩
theorem Tj {l:List PK} {p:PB} (hm:gw p=true):gw (oJ p l).1=true:=
 (Ey (P:=fun _=>True) (fun _ _ _ _ _=>trivial) hm trivial).2
theorem xH:∀ {l:List PK} {p:PB},(oJ p l).1.1=p.1∧(oJ p l).1.2.1=p.2.1∧(oJ p l).1.2.2.2.1.length=p.2.2.2.1.length∧(oJ p l).1.2.2.2.2.length=p.2.2.2.2.length∧(oJ p l).1.2.2.1.length=p.2.2.1.length
 | [],p=>⟨rfl,rfl,rfl,rfl,rfl⟩
 | k::l,p=>by
  rw [oJ]
  split
  ·obtain ⟨a1,a2,a3,a4,a5⟩:=xH (l:=l) (p:=(fi p k).1)
   obtain ⟨b1,b2,b3,b4⟩:=Cw (p:=p) (k:=k)
   have b5:=L4 (p:=p) (k:=k)
   exact ⟨a1.trans b1,a2.trans b2,a3.trans b3,a4.trans b4,a5.trans b5⟩
  ·exact xH
theorem xy {p:PB} (h:gw p=true):p.2.2.2.1.length≤8∧p.2.2.2.2.length≤3∧12≤p.2.2.1.length∧p.2.2.1.length≤190:=by
 obtain ⟨m1,m2,m3,m4,_⟩:=mV h
 have hc:=bc m1
 have:=(m7 (m4 0 _ (List.getElem?_eq_getElem (show 0<p.2.2.2.1.length by omega)))).2.1
 have:=lg m1
 omega
theorem Tt {c:CF} {t:List (Int×List Int)} {roots:List (List Int)} (hc:fx c=true) (ht:uM t=true) (hR:roots.length≤3) (hr:∀ l ∈ roots,∀ y ∈ l,0≤y∧y<(t.length:Int)):gw (DY c t roots)=true:=by
 have hm:=bc hc
 have hs:=lg hc
 refine xz hc ?_ ?_ (fun j x hx => ?_) (fun x hx => ?_)
 ·show ((iS c.1.toNat).length:Int)=c.1
  unfold iS
  rw [List.length_map,List.length_range]
  omega
 ·show (i8 roots).length≤3
  unfold i8
  rw [List.length_map]
  exact hR
 ·have hx':(iS c.1.toNat)[j]? = some x:=hx
  unfold iS at hx'
  rw [List.getElem?_map,Option.map_eq_some_iff] at hx'
  obtain ⟨i,hi,rfl⟩:=hx'
  obtain ⟨hj,rfl⟩:=List.getElem?_eq_some_iff.1 hi
  rw [List.length_range] at hj
  rw [List.getElem_range]
  refine I2 hc ?_ ht ⟨by omega,by show (j:Int)<c.1;omega,Int.le_refl 0,(show (0:Int)<16 by decide)⟩ (iO.2 ⟨ht,fun y hy=>absurd hy (by simp [O3])⟩)
  show ((List.replicate (cB c).toNat (0:Int)).length:Int)=cB c
  rw [List.length_replicate]
  omega
 ·have hx':x ∈ i8 roots:=hx
  unfold i8 at hx'
  obtain ⟨l,hl,rfl⟩:=List.mem_map.1 hx'
  unfold pS
  simp only [Bool.and_eq_true,List.all_eq_true,decide_eq_true_eq,Bool.or_eq_true]
  exact ⟨⟨by decide,hr l hl⟩,.inl (by trivial)⟩
theorem On {c:CF} {t:List (Int×List Int)} {roots:List (List Int)} (ht:FwT t) (hr:∀ l ∈ roots,l.length≤60):Good 0 (DY c t roots):=by
 have z:(0:Int)≤0∧(0:Int)≤18446744073709551615:=by decide
 refine ⟨ht,by have:=ht.len;show t.length≤1000;omega,?_,fun x hx => ?_,fun x hx => ?_⟩
 ·refine ⟨?_,fun v hv => ?_⟩
  ·show (List.replicate (cB c).toNat (0:Int)).length≤_
   rw [List.length_replicate]
   have:cB c≤190:=by
    unfold cB
    split
    ·rename_i h
     have hm:=bc h
     have:=dr h (w:=c.1) (by omega) (by omega)
     omega
    ·omega
   omega
  ·rw [List.eq_of_mem_replicate hv]
   exact z
 ·have hx':x ∈ iS c.1.toNat:=hx
  unfold iS at hx'
  obtain ⟨i,_,rfl⟩:=List.mem_map.1 hx'
  exact ⟨⟨z,z,z⟩,Nat.le_refl _,by show (0:Int)≤1000;decide⟩
 ·have hx':x ∈ i8 roots:=hx
  unfold i8 at hx'
  obtain ⟨l,hl,rfl⟩:=List.mem_map.1 hx'
  exact ⟨⟨z,z,z⟩,by have:=hr l hl;show l.length≤1000;omega⟩
end Go.Ab
set_option linter.unusedVariables false
namespace Go.Ab
def aej:FR:=(-1,0,0,0,0,0,0)
structure Pl where
 m:List Int
 left:List (List Int)
 cur:List FR
 over:List FR
def aco (m:List Int) (w:Int):Nat:=if gk (aq m 2) w=true then 1 else 0
def Yv (f:FR) (w:Int):Nat:=if NW f w=true then 1 else 0
def aa0 (l:List FR) (w:Int):Nat:=l.countP fun f=>NW f w
def TQ (c:CF) (m:List Int) (w:Int):Nat:=if aq m (cD c w)=0 then 0 else 1
def w3B (f:FR):Nat:=if f.1=5∧3≤f.2.1 then 1 else 0
def w4B (f:FR):Prop:=f.1=5∧f.2.1=4
def ae7 (x:Int):Prop:=0≤x∧x≤18446744073709551615
def afb (n:Nat) (i:Nat) (f:FR):Prop:=
 f=aej∨∃ op pc X Y:Int,f=(op,pc,(i:Int),0,X,Y,0)∧ae7 X∧ae7 Y ∧
  ((op=5∧0≤pc∧pc≤4)∨(op=6∧0≤pc∧pc≤2∧(pc=2→Y<n))∨(op=7∧0≤pc∧pc≤2∧(pc=2→0<Y∧Y<65536∧∀ j:Nat,n≤j→j<16→gk Y j=false)))
structure OkP (c:CF) (n:Nat) (m:List Int) (l:List FR):Prop where
 wm:Wm m
 may:fx c=true
 cn:c.1=n
 len:(m.length:Int)=cB c
 clen:l.length=n
 frm:∀ i f,l[i]? = some f→afb n i f
 low:∀ j:Nat,n≤j→j<16→gk (aq m 2) j=false
 par:∀ w:Nat,w<n→aq m (cD c w)=0∨aq m (cD c w)=1
 sgn:∀ (w:Nat) f,l[w]? = some f→aco m w+aa0 l w+TQ c m w=w3B f
 end4:∀ (w:Nat) f,l[w]? = some f→w4B f→TQ c m w=1
theorem OQ {l:List FR} {i:Nat} {f g:FR} (hf:l[i]? = some f) (w:Int):aa0 (l.set i g) w+Yv f w=aa0 l w+Yv g w:=by
 obtain ⟨hi,rfl⟩:=List.getElem?_eq_some_iff.1 hf
 have hle:l[i] ∈ l:=List.getElem_mem _
 unfold aa0 Yv
 rw [List.countP_set hi]
 by_cases h:NW l[i] w=true
 ·have:0<l.countP fun f=>NW f w:=List.countP_pos_iff.2 ⟨_,hle,h⟩
  simp only [h,if_true]
  omega
 ·simp only [h,if_false]
  simp
theorem OkP.step {c:CF} {n:Nat} {m m':List Int} {l:List FR} (h:OkP c n m l) {i:Nat} {f g:FR} (hf:l[i]? = some f) (wm:Wm m') (len:m'.length=m.length) (hg:afb n i g)
  (low:∀ j:Nat,n≤j→j<16→gk (aq m' 2) j=false) (par:∀ w:Nat,w<n→aq m' (cD c w)=0∨aq m' (cD c w)=1)
  (sg:∀ w:Nat,w<n→aco m' w+Yv g w+TQ c m' w+(if w=i then w3B f else 0)=aco m w+Yv f w+TQ c m w+(if w=i then w3B g else 0))
  (e4:w4B g→TQ c m' i=1) (e5:∀ w:Nat,w<n→w≠i→TQ c m w=1→TQ c m' w=1):OkP c n m' (l.set i g):=by
 have hi:i<l.length:=(List.getElem?_eq_some_iff.1 hf).1
 have key:∀ (w:Nat) (x:FR),(l.set i g)[w]? = some x→w<n∧((w=i∧x=g)∨(w≠i∧l[w]? = some x)):=by
  intro w x hx
  have hw:=(List.getElem?_eq_some_iff.1 hx).1
  rw [List.length_set,h.clen] at hw
  refine ⟨hw,?_⟩
  by_cases e:w=i
  ·subst e
   rw [List.getElem?_set_self hi] at hx
   exact .inl ⟨rfl,(Option.some.inj hx).symm⟩
  ·rw [List.getElem?_set_ne (by omega)] at hx
   exact .inr ⟨e,hx⟩
 refine ⟨wm,h.may,h.cn,by rw [len];exact h.len,by rw [List.length_set];exact h.clen,?_,low,par,?_,?_⟩
 ·intro w x hx
  rcases key w x hx with ⟨_,⟨rfl,rfl⟩ | ⟨_,hx⟩⟩
  ·exact hg
  ·exact h.frm w x hx
 ·intro w x hx
  have ho:=OQ (g:=g) hf (w:Int)
  rcases key w x hx with ⟨hw,⟨rfl,rfl⟩ | ⟨e,hx⟩⟩
  ·have h1:=h.sgn w f hf
   have h2:=sg w hw
   rw [if_pos rfl,if_pos rfl] at h2
   omega
  ·have h1:=h.sgn w x hx
   have h2:=sg w hw
   rw [if_neg e,if_neg e] at h2
   omega
 ·intro w x hx hx4
  rcases key w x hx with ⟨hw,⟨rfl,rfl⟩ | ⟨e,hx⟩⟩
  ·exact e4 hx4
  ·exact e5 w hw e (h.end4 w x hx hx4)
section
variable {c:CF} {m:List Int} {i a5 X:Int} (hmay:fx c=true) (hlen:(m.length:Int)=cB c)
include hmay hlen
end
theorem Sd (E M:Int):mkB (uQ E M)=mkB M:=by unfold mkB uQ;omega
theorem FH {X j:Int} (h0:0≤X) (h1:X≤18446744073709551615) (hj:0≤j) (hj2:j<16):gk (As X) j=(gk X j&&decide (j≠uP (mkB X))):=by
 have hr:=nD (epB X+1) (Da (mkB X))
 have hm:=wE h0
 have hc:0≤Da (mkB X)∧Da (mkB X)<65536:=by
  unfold Da
  split
  ·omega
  ·rcases lC hm.1 hm.2 with ⟨h2,h3⟩ | ⟨a,l,h2,h3,h4⟩
   ·omega
   ·have hp:(0:Nat)<2 ^ l:=Nat.pow_pos (by decide)
    have hw:((2 ^ l:Nat):Int)=(2:Int) ^ l:=by rw [Int.natCast_pow];rfl
    rw [h3,Int.toNat_natCast,← hw]
    omega
 unfold As
 rw [← ny hr.1 hj hj2,Sd,ny hc.1 hj hj2,Rr hm.1 hm.2 hj hj2,ny h0 hj hj2]
theorem Pm {X:Int} (h0:0≤X) (h:mkB X=0) {j:Int} (hj:0≤j) (hj2:j<16):gk X j=false:=by
 rw [← ny h0 hj hj2,h]
 have:=lc 0 (w:=j) hj
 rw [Nat.zero_testBit] at this
 exact this
end Go.Ab
set_option linter.unusedVariables false
namespace Go.Ab
structure Adr (c:CF) (j:Int):Prop where
 on:∀ w x,x=0∨x=1→onW c w x≠j
 slot:∀ w x,0≤x→x≤18446744073709551615→pu c w x≠j
 seq:∀ x,uZ c x≠j
 val:∀ x,Pk c x≠j
 n0:(0:Int)≠j
 n1:(1:Int)≠j
 n3:(3:Int)≠j
 n4:(4:Int)≠j
 n5:(5:Int)≠j
theorem P6 {a b D x y:Int} (hD:D=1∨D=2∨D=4∨D=8∨D=16) (hx:0≤x∧x<3+D) (hy:0≤y∧y<3+D) (h:x≠y):a*(3+D)+x≠b*(3+D)+y:=by
 rcases hD with rfl | rfl | rfl | rfl | rfl <;> omega
theorem afL {c:CF}:Adr c 2:=by
 refine ⟨fun w x hx => ?_,fun w x h0 h1 => ?_,fun x => ?_,fun x => ?_,by decide,by decide,by decide,by decide,by decide⟩
 ·unfold onW
  split
  ·rename_i h
   have hm:=bc h.1
   have:=dr h.1 h.2.1 (by omega)
   omega
  ·omega
 ·unfold pu onW
  split
  ·rename_i h
   have hm:=bc h.1
   have:=dr h.1 h.2.1 (by omega)
   have:=AW h0 h1 (show 1≤c.2.1 by omega) (by omega)
   omega
  ·omega
 ·unfold uZ
  split
  ·rename_i h
   have:=bc h
   have:=Int.emod_nonneg x (show c.2.2.1≠0 by omega)
   omega
  ·omega
 ·unfold Pk
  split
  ·rename_i h
   have:=bc h
   have:=Int.emod_nonneg x (show c.2.2.1≠0 by omega)
   omega
  ·omega
theorem ad1 {c:CF} {v:Int} (hc:fx c=true) (h0:0≤v) (h1:v<c.1):Adr c (cD c v):=by
 have hp:cD c v=6+2*c.2.2.1+(v*(3+c.2.1)+2):=by
  unfold cD
  rw [if_pos ⟨hc,h0,h1⟩,xv]
  omega
 have hm:=bc hc
 have ht:=dr hc h0 (by omega)
 rw [hp]
 refine ⟨fun w x hx => ?_,fun w x g0 g1 => ?_,fun x => ?_,fun x => ?_,by omega,by omega,by omega,by omega,by omega⟩
 ·unfold onW
  split
  ·have:=P6 (a:=w) (b:=v) hm.2.2.1 (x:=x) (y:=2) (by omega) (by omega) (by omega)
   unfold xv
   omega
  ·omega
 ·unfold pu onW
  split
  ·have ha:=AW g0 g1 (show 1≤c.2.1 by omega) (by omega)
   have:=P6 (a:=w) (b:=v) hm.2.2.1 (x:=3+uA .u64 x (c.2.1 - 1)) (y:=2) (by omega) (by omega) (by omega)
   unfold xv
   omega
  ·omega
 ·unfold uZ
  rw [if_pos hc]
  have a:=Int.emod_lt_of_pos x (show 0<c.2.2.1 by omega)
  have b:0≤v*(3+c.2.1):=ht.2.2.2
  generalize x%c.2.2.1=g at a ⊢
  omega
 ·unfold Pk
  rw [if_pos hc]
  have a:=Int.emod_lt_of_pos x (show 0<c.2.2.1 by omega)
  have b:0≤v*(3+c.2.1):=ht.2.2.2
  generalize x%c.2.2.1=g at a ⊢
  omega
section
variable {c:CF} {m:List Int} {f:FR} {j:Int} (hj:Adr c j) (hf:Wf f)
include hj hf
theorem Ok:aq (nJ c m f).1 j=aq m j:=by
 have w4:=hf.2.1
 unfold nJ
 repeat' split
 all_goals first | rfl | exact ks (hj.slot _ _ w4.1 w4.2) | exact ks (hj.on _ _ (by decide))
theorem TP:aq (E3 c m f).1 j=aq m j:=by
 have _h:=hf
 unfold E3
 dsimp only
 repeat' split
 all_goals first | rfl | exact ks (hj.on _ _ (by decide)) | exact kc (hj.on _ _ (by decide))
theorem IM:aq (iF c m f).1 j=aq m j:=by
 have _h:=hf
 unfold iF
 dsimp only
 repeat' split
 all_goals first | rfl | exact kc (hj.on _ _ (by decide))
theorem Je:aq (Ft c m f).1 j=aq m j:=by
 have _h:=hf
 unfold Ft
 try dsimp only
 repeat' split
 all_goals first | rfl | exact ks (hj.seq _) | exact ks (hj.val _) | exact kc hj.n4 | exact kc hj.n5
theorem Ji:aq (Gp c m f).1 j=aq m j:=by
 have _h:=hf
 unfold Gp
 try dsimp only
 repeat' split
 all_goals first | rfl | exact ks (hj.seq _) | exact ks (hj.val _) | exact kc hj.n4 | exact kc hj.n5
theorem B7 (h5:f.1<5):aq (dh c m f).1 j=aq m j:=by
 unfold dh Ay fB rS xb
 repeat' split
 all_goals first | with_reducible rfl | with_reducible exact Ok hj hf | with_reducible exact TP hj hf | with_reducible exact IM hj hf | with_reducible exact Je hj hf | with_reducible exact Ji hj hf | (exfalso;omega)
end
section
variable {c:CF} {m:List Int} {f:FR}
theorem U1:(nJ c m f).2.1=f.1:=by
 unfold nJ
 repeat' split
 all_goals rfl
theorem Y6:(E3 c m f).2.1=f.1:=by
 unfold E3
 dsimp only
 repeat' split
 all_goals rfl
theorem LF:(iF c m f).2.1=f.1:=by
 unfold iF
 dsimp only
 repeat' split
 all_goals rfl
theorem Qk:(Ft c m f).2.1=f.1:=by
 unfold Ft
 try dsimp only
 repeat' split
 all_goals rfl
theorem PI:(Gp c m f).2.1=f.1:=by
 unfold Gp
 try dsimp only
 repeat' split
 all_goals rfl
theorem pF (h5:f.1<5):(dh c m f).2.1=f.1:=by
 unfold dh Ay fB rS xb
 repeat' split
 all_goals first | with_reducible rfl | with_reducible exact U1 | with_reducible exact Y6 | with_reducible exact LF | with_reducible exact Qk | with_reducible exact PI | (exfalso;omega)
end
def pkW (x:WB):Prop:=x.1=8∧3≤x.2.2.1.2.1
def owF (f:FR) (v:Int):Prop:=f.2.1=2∧f.2.2.2.2.2.1=v
def owW (x:WB) (v:Int):Prop:=x.1=14∧owF x.2.2.1 v
def owS (x:SB) (v:Int):Prop:=x.1=4∧owF x.2.2 v
def Fwk (n w:Int) (x:WB):Prop:=
 (x.1=0∨x.1=2∨x.1=3∨x.1=11∨x.1=12→x.2.2.1.1<5)∧(x.1=5→x.2.2.1=AH 5 w 0) ∧
 (x.1=6∨x.1=7→x.2.2.1.1=5∧x.2.2.1.2.1=1∧x.2.2.1.2.2.1=w∧x.2.2.1.2.2.2.2.2.2=0) ∧
 (x.1=8→x.2.2.1.1=5∧(0≤x.2.2.1.2.1∧x.2.2.1.2.1≤4)∧x.2.2.1.2.2.1=w∧x.2.2.1.2.2.2.2.2.2=0) ∧
 (x.1=14→x.2.2.1.1=6∧(0≤x.2.2.1.2.1∧x.2.2.1.2.1≤2)∧x.2.2.1.2.2.2.2.2.2=0∧(x.2.2.1.2.1=2→x.2.2.1.2.2.2.2.2.1<n))
def Fsb (n:Int) (x:SB):Prop:=
 (x.1=2→x.2.2.1<5)∧(x.1=4→x.2.2.1=6∧(0≤x.2.2.2.1∧x.2.2.2.1≤2)∧x.2.2.2.2.2.2.2.2=0∧(x.2.2.2.1=2→x.2.2.2.2.2.2.2.1<n))
def RG (n:Int) (m:List Int):Prop:=∀ j:Int,n≤j→j<16→gk (aq m 2) j=false
structure Ef (c:CF) (m m':List Int) (pk0 pk1:Prop) (me:Int) (ow0 ow1:Int→Prop):Prop where
 low:RG c.1 m→RG c.1 m'
 bit:∀ v,0≤v→v<c.1→gk (aq m 2) v=true→gk (aq m' 2) v=true∨ow1 v
 par:∀ v,0≤v→v<c.1→aq m (cD c v)≠0→aq m' (cD c v)≠0∨v=me∧¬ pk1
 owe:∀ v,0≤v→v<c.1→ow0 v→ow1 v∨aq m' (cD c v)≠0
 new:pk1→pk0∨gk (aq m' 2) me=true∨aq m' (cD c me)≠0
section
variable {c:CF} {m m':List Int} {pk0 pk1:Prop} {me:Int} {ow0 ow1:Int→Prop}
theorem Ef.calm (hc:fx c=true) (h:∀ j,Adr c j→aq m' j=aq m j) (ho:∀ v,ow0 v→ow1 v) (hp:pk1→pk0):Ef c m m' pk0 pk1 me ow0 ow1:=by
 have h2:=h 2 afL
 refine ⟨fun hl j h0 h1=>by rw [h2];exact hl j h0 h1,fun v _ _ hb => .inl (by rw [h2];exact hb),fun v h0 h1 hb => .inl (by rw [h _ (ad1 hc h0 h1)];exact hb),fun v _ _ hv => .inl (ho v hv),fun h => .inl (hp h)⟩
theorem Ef.same (ho:∀ v,ow0 v→ow1 v) (hp:pk1→pk0):Ef c m m pk0 pk1 me ow0 ow1:=
 ⟨fun hl=>hl,fun v _ _ hb => .inl hb,fun v _ _ hb => .inl hb,fun v _ _ hv => .inl (ho v hv),fun h => .inl (hp h)⟩
end
section
variable {c:CF} {m:List Int} {f:FR} (hc:fx c=true) (hl:(m.length:Int)=cB c) (hm:Wm m) (hf:Wf f)
include hc hl hm hf
theorem Tf {w:Int} (h0:0≤w) (h1:w<c.1) (ho:f.1=5) (hp:0≤f.2.1∧f.2.1≤4) (hw:f.2.2.1=w) (hr:f.2.2.2.2.2.2=0) :
  Ef c m (gB c m f).1 (3≤f.2.1) (dd (gB c m f).2=false∧3≤(gB c m f).2.2.1) w (fun _=>False) (fun _=>False) ∧
  (dd (gB c m f).2=false→(gB c m f).2.1=5∧(0≤(gB c m f).2.2.1∧(gB c m f).2.2.1≤4)∧(gB c m f).2.2.2.1=w∧(gB c m f).2.2.2.2.2.2.2=0):=by
 have hmc:=bc hc
 have hs:=lg hc
 obtain ⟨op,pc,i,v,X,Y,res⟩:=f
 simp only at ho hp hw hr
 subst ho hw hr
 have hg:mz c m (5,pc,i,v,X,Y,0) 5 5=true:=by
  unfold mz
  rw [hc,decide_eq_true hl,decide_eq_true ⟨rfl,h0,h1,rfl,hp.1,by show pc<5;omega⟩]
  rfl
 have hov:∀ a b d e g:Int,dd (5,a,b,d,e,g,0)=false:=fun _ _ _ _ _=>rfl
 have hend:∀ a b:Int,a≠0→¬ dd (dK (5,pc,i,v,X,Y,0) a b)=false:=fun a b h=>by unfold dd dK;simp [h]
 unfold gB
 rw [hg,if_neg (by decide)]
 dsimp only
 rcases (show pc=0∨pc=1∨pc=2∨pc=3∨pc=4 by omega) with rfl | rfl | rfl | rfl | rfl
 ·rw [if_pos rfl]
  exact ⟨.same (fun _ h=>h) (fun h=>absurd h.2 (show ¬ (3:Int)≤1 from by decide)),fun _=>⟨rfl,⟨(by decide:(0:Int)≤1),(by decide:(1:Int)≤4)⟩,rfl,rfl⟩⟩
 ·rw [if_neg (by decide),if_pos rfl]
  split
  ·exact ⟨.same (fun _ h=>h) (fun h=>absurd h.2 (show ¬ (3:Int)≤2 from by decide)),fun _=>⟨rfl,⟨(by decide:(0:Int)≤2),(by decide:(2:Int)≤4)⟩,rfl,rfl⟩⟩
  ·exact ⟨.same (fun _ h=>h) (fun h=>absurd h.1 (hend 4 0 (by decide))),fun h=>absurd h (hend 4 0 (by decide))⟩
 ·rw [if_neg (by decide),if_neg (by decide),if_pos rfl]
  unfold pC
  split
  ·rename_i e
   have hY:=cy hm 2
   rw [e.2.2] at hY
   have hb:∀ u:Int,0≤u→gk (aq (aW m 2 (F4 Y i)) 2) u=(decide (u=i)||gk (aq m 2) u):=by
    intro u hu
    rw [mn _ (by decide) e.2.1,Vp hY.1 hY.2 h0 (by omega) hu,e.2.2]
   refine ⟨⟨fun hz j g0 g1 => ?_,fun u g0 g1 hu => .inl ?_,fun u g0 g1 hu => .inl ?_,fun u _ _ hu=>hu.elim,fun _ => .inr (.inl ?_)⟩,fun _=>⟨rfl,⟨(by decide:(0:Int)≤3),(by decide:(3:Int)≤4)⟩,rfl,rfl⟩⟩
   ·rw [hb j (by omega),hz j g0 g1,decide_eq_false (by omega)]
    rfl
   ·rw [hb u g0,hu,Bool.or_true]
   ·have hA:=ad1 hc g0 g1
    have:(2:Int)≠cD c u:=by
     have:=dr hc g0 (by omega)
     unfold cD
     rw [if_pos ⟨hc,g0,g1⟩]
     omega
    rw [fw _ this]
    exact hu
   ·rw [hb i h0,decide_eq_true rfl,Bool.true_or]
  ·exact ⟨.same (fun _ h=>h) (fun h=>absurd h.2 (show ¬ (3:Int)≤1 from by decide)),fun _=>⟨rfl,⟨(by decide:(0:Int)≤1),(by decide:(1:Int)≤4)⟩,rfl,rfl⟩⟩
 ·rw [if_neg (by decide),if_neg (by decide),if_neg (by decide),if_pos rfl]
  refine ⟨.same (fun _ h=>h) (fun _=>(by decide:(3:Int)≤3)),fun _=>⟨rfl,?_,rfl,rfl⟩⟩
  dsimp only
  split <;> omega
 ·rw [if_neg (by decide),if_neg (by decide),if_neg (by decide),if_neg (by decide)]
  have hend':¬ dd (dK (5,4,i,v,X,Y,0) 1 0)=false:=hend 1 0 (by decide)
  have hA:∀ j,j=2∨(∃ u,0≤u∧u<c.1∧u≠i∧j=cD c u)→aq (aW m (cD c i) 0) j=aq m j:=by
   intro j hj
   refine fw 0 ?_
   have:=dr hc h0 (by omega)
   rcases hj with rfl | ⟨u,g0,g1,hu,rfl⟩
   ·unfold cD
    rw [if_pos ⟨hc,h0,h1⟩]
    omega
   ·exact JS ⟨hc,hl,h0,h1⟩ ⟨hc,hl,g0,g1⟩ (Ne.symm hu)
  refine ⟨⟨fun hz j g0 g1 => ?_,fun u g0 g1 hu => .inl ?_,fun u g0 g1 hu => ?_,fun u _ _ hu=>hu.elim,fun h=>absurd h.1 hend'⟩,fun h=>absurd h hend'⟩
  ·rw [hA 2 (.inl rfl)]
   exact hz j g0 g1
  ·rw [hA 2 (.inl rfl)]
   exact hu
  ·by_cases e:u=i
   ·exact .inr ⟨e,fun h=>absurd h.1 hend'⟩
   ·rw [hA _ (.inr ⟨u,g0,g1,e,rfl⟩)]
    exact .inl hu
theorem KS {pk0 pk1:Prop} {me:Int} (hpk:¬ pk1) (hlow:RG c.1 m) (ho:f.1=6) (hp:0≤f.2.1∧f.2.1≤2) (hr:f.2.2.2.2.2.2=0) (hy:f.2.1=2→f.2.2.2.2.2.1<c.1) :
  Ef c m (fD c m f).1 pk0 pk1 me (owF f) (fun v=>dd (fD c m f).2=false∧owF (fD c m f).2 v) ∧
  (dd (fD c m f).2=false→(fD c m f).2.1=6∧(0≤(fD c m f).2.2.1∧(fD c m f).2.2.1≤2)∧(fD c m f).2.2.2.2.2.2.2=0∧((fD c m f).2.2.1=2→(fD c m f).2.2.2.2.2.2.1<c.1)):=by
 have _h:=hm
 have hmc:=bc hc
 have hs:=lg hc
 have hX:=hf.2.1
 have hYr:=hf.2.2
 obtain ⟨op,pc,i,v,X,Y,res⟩:=f
 simp only at ho hp hr hy hX hYr
 subst ho hr
 have hg:pL c m (6,pc,i,v,X,Y,0)=true:=by
  unfold pL
  rw [hc,decide_eq_true hl,decide_eq_true (.inl rfl),decide_eq_true ⟨rfl,hp.1,hp.2⟩]
  rfl
 have hend:∀ a b:Int,a≠0→¬ dd (dK (6,pc,i,v,X,Y,0) a b)=false:=fun a b h=>by unfold dd dK;simp [h]
 unfold fD
 rw [hg,if_neg (by decide)]
 dsimp only
 rcases (show pc=0∨pc=1∨pc=2 by omega) with rfl | rfl | rfl
 ·rw [if_pos rfl]
  refine ⟨.same (fun u h=>absurd h.1 (show ¬ (0:Int)=2 from by decide)) (fun h=>absurd h hpk),fun _=>⟨rfl,⟨(by decide:(0:Int)≤1),(by decide:(1:Int)≤2)⟩,rfl,fun h=>absurd h (show ¬ (1:Int)=2 from by decide)⟩⟩
 ·rw [if_neg (by decide),if_pos rfl]
  split
  ·rename_i e
   dsimp only
   have h6:((6:Int)=6):=rfl
   simp only [if_true]
   have hmk:=wE hX.1
   have h2:aq (aW m 2 (As X)) 2=As X:=mn _ (by decide) (by omega)
   have hpar:∀ u,0≤u→u<c.1→aq (aW m 2 (As X)) (cD c u)=aq m (cD c u):=by
    intro u g0 g1
    refine fw _ ?_
    have:=dr hc g0 (by omega)
    unfold cD
    rw [if_pos ⟨hc,g0,g1⟩]
    omega
   have hlowX:∀ j:Int,c.1≤j→j<16→gk X j=false:=by rw [← e];exact hlow
   have hlow':RG c.1 (aW m 2 (As X)):=by
    intro j g0 g1
    rw [h2,FH hX.1 hX.2 (by omega) g1,hlowX j g0 g1]
    rfl
   by_cases hz:mkB X=0
   ·rw [if_pos hz]
    refine ⟨⟨fun _=>hlow',fun u g0 g1 hu => ?_,fun u g0 g1 hu => .inl (by rw [hpar u g0 g1];exact hu),fun u _ _ hu=>absurd hu.1 (show ¬ (1:Int)=2 from by decide),fun h=>absurd h hpk⟩,fun h=>absurd h (hend 3 0 (by decide))⟩
    rw [e,Pm hX.1 hz g0 (by omega)] at hu
    cases hu
   ·rw [if_neg hz]
    rcases lC hmk.1 hmk.2 with ⟨g1,_⟩ | ⟨a,b,g1,g2,g3⟩
    ·exact absurd g1 hz
    ·have hb:gk (mkB X) (uP (mkB X))=true:=Vr (by omega)
     rw [g2] at hb ⊢
     rw [ny hX.1 (by omega) (by omega)] at hb
     have hbn:(b:Int)<c.1:=by
      by_cases hh:(b:Int)<c.1
      ·exact hh
      ·rw [hlowX b (by omega) (by omega)] at hb
       cases hb
     rw [if_neg (by omega)]
     refine ⟨⟨fun _=>hlow',fun u q0 q1 hu => ?_,fun u q0 q1 hu => .inl (by rw [hpar u q0 q1];exact hu),fun u _ _ hu=>absurd hu.1 (show ¬ (1:Int)=2 from by decide),fun h=>absurd h hpk⟩,fun _=>⟨rfl,⟨(by decide:(0:Int)≤2),Int.le_refl 2⟩,rfl,fun _=>hbn⟩⟩
     by_cases hub:u=b
     ·exact .inr ⟨rfl,rfl,hub.symm⟩
     ·refine .inl ?_
      rw [h2,FH hX.1 hX.2 q0 (by omega),g2,decide_eq_true hub,Bool.and_true,← e]
      exact hu
  ·refine ⟨.same (fun u h=>absurd h.1 (show ¬ (1:Int)=2 from by decide)) (fun h=>absurd h hpk),fun _=>⟨rfl,⟨Int.le_refl 0,(by decide:(0:Int)≤2)⟩,rfl,fun h=>absurd h (show ¬ (0:Int)=2 from by decide)⟩⟩
 ·rw [if_neg (by decide),if_neg (by decide),if_pos rfl]
  have hyn:=hy rfl
  dsimp only
  rw [if_pos (show Y<8 by omega)]
  unfold Gw
  have hA:∀ j,j=2∨(∃ u,0≤u∧u<c.1∧u≠Y∧j=cD c u)→aq (aW m (cD c Y) 1) j=aq m j:=by
   intro j hj
   refine fw 1 ?_
   have:=dr hc hYr.1 (by omega)
   rcases hj with rfl | ⟨u,g0,g1,hu,rfl⟩
   ·unfold cD
    rw [if_pos ⟨hc,hYr.1,hyn⟩]
    omega
   ·exact JS ⟨hc,hl,hYr.1,hyn⟩ ⟨hc,hl,g0,g1⟩ (Ne.symm hu)
  have hone:aq (aW m (cD c Y) 1) (cD c Y)=1:=by
   have hpk:OkB c m Y:=⟨hc,hl,hYr.1,hyn⟩
   have:=hpk.park
   exact mn 1 (by omega) this.2.2
  refine ⟨⟨fun hz j g0 g1 => ?_,fun u g0 g1 hu => .inl ?_,fun u g0 g1 hu => .inl ?_,fun u g0 g1 hu => .inr ?_,fun h=>absurd h hpk⟩,fun h=>absurd h (hend 1 Y (by decide))⟩
  ·rw [hA 2 (.inl rfl)]
   exact hz j g0 g1
  ·rw [hA 2 (.inl rfl)]
   exact hu
  ·by_cases e:u=Y
   ·rw [e,hone]
    decide
   ·rw [hA _ (.inr ⟨u,g0,g1,e,rfl⟩)]
    exact hu
  ·have:Y=u:=hu.2
   rw [← this,hone]
   decide
end
end Go.Ab
set_option linter.unusedVariables false
namespace Go.Ab
section
variable {n w:Int} {x:WB}
theorem dE (h:x.1=1∨x.1=4∨x.1=9∨x.1=10∨x.1=13∨x.1=15):Fwk n w x:=
 ⟨fun _=>by exfalso;omega,fun _=>by exfalso;omega,fun _=>by exfalso;omega,fun _=>by exfalso;omega,fun _=>by exfalso;omega⟩
theorem eO (h:x.1=0∨x.1=2∨x.1=3∨x.1=11∨x.1=12) (hf:x.2.2.1.1<5):Fwk n w x:=
 ⟨fun _=>hf,fun _=>by exfalso;omega,fun _=>by exfalso;omega,fun _=>by exfalso;omega,fun _=>by exfalso;omega⟩
theorem aeo (h:x.1=5) (hf:x.2.2.1=AH 5 w 0):Fwk n w x:=
 ⟨fun _=>by exfalso;omega,fun _=>hf,fun _=>by exfalso;omega,fun _=>by exfalso;omega,fun _=>by exfalso;omega⟩
theorem KG (h:x.1=6∨x.1=7) (hf:x.2.2.1.1=5∧x.2.2.1.2.1=1∧x.2.2.1.2.2.1=w∧x.2.2.1.2.2.2.2.2.2=0):Fwk n w x:=
 ⟨fun _=>by exfalso;omega,fun _=>by exfalso;omega,fun _=>hf,fun _=>by exfalso;omega,fun _=>by exfalso;omega⟩
theorem Yk (h:x.1=8) (hf:x.2.2.1.1=5∧(0≤x.2.2.1.2.1∧x.2.2.1.2.1≤4)∧x.2.2.1.2.2.1=w∧x.2.2.1.2.2.2.2.2.2=0):Fwk n w x:=
 ⟨fun _=>by exfalso;omega,fun _=>by exfalso;omega,fun _=>by exfalso;omega,fun _=>hf,fun _=>by exfalso;omega⟩
theorem KV (h:x.1=14) (hf:x.2.2.1.1=6∧(0≤x.2.2.1.2.1∧x.2.2.1.2.1≤2)∧x.2.2.1.2.2.2.2.2.2=0∧(x.2.2.1.2.1=2→x.2.2.1.2.2.2.2.2.1<n)):Fwk n w x:=
 ⟨fun _=>by exfalso;omega,fun _=>by exfalso;omega,fun _=>by exfalso;omega,fun _=>by exfalso;omega,fun _=>hf⟩
end
theorem Ef.mono {c:CF} {m m':List Int} {p0 p1 q0 q1:Prop} {me:Int} {a0 a1 b0 b1:Int→Prop} (h:Ef c m m' p0 p1 me a0 a1) (h1:q1→p1) (h0:p0→q0) (ha:∀ v,b0 v→a0 v) (hb:∀ v,a1 v→b1 v):Ef c m m' q0 q1 me b0 b1:=
 ⟨h.low,fun v g0 g1 hv=>(h.bit v g0 g1 hv).imp id (hb v),fun v g0 g1 hv=>(h.par v g0 g1 hv).imp id fun e=>⟨e.1,fun q=>e.2 (h1 q)⟩,fun v g0 g1 hv=>(h.owe v g0 g1 (ha v hv)).imp (hb v) id,fun q=>(h.new (h1 q)).imp h0 id⟩
section
variable {c:CF} {t:List (Int×List Int)} {m:List Int} {w:Int} {x:WB} {d:Int}
theorem xc {f:FR} (h:f.1=5):dh c m f=gB c m f:=by
 unfold dh fB xb
 rw [if_neg (by omega),if_neg (by omega),if_pos h]
theorem wg {f:FR} (h:f.1=6):dh c m f=fD c m f:=by
 unfold dh fB xb
 rw [if_neg (by omega),if_neg (by omega),if_neg (by omega),if_pos (.inl h)]
theorem TT (hc:fx c=true) (hl:(m.length:Int)=cB c) (h0:0≤w) (h1:w<c.1):dh c m (AH 5 w 0)=(m,(5,1,w,0,aq m 2,0,0)):=by
 rw [xc rfl]
 have hg:mz c m (AH 5 w 0) 5 5=true:=by
  unfold mz AH
  rw [hc,decide_eq_true hl,decide_eq_true ⟨rfl,h0,h1,rfl,(show (0:Int)≤0 from by decide),(show (0:Int)<5 from by decide)⟩]
  rfl
 unfold gB
 rw [hg,if_neg (by decide)]
 rfl
theorem RT (hm:Wm m) (hf:Wf x.2.2.1) (hl:RG c.1 m) (hx:Fwk c.1 w x):Fwk c.1 w (bz c t m w x d).2.1∧Ef c m (bz c t m w x d).1 (pkW x) (pkW (bz c t m w x d).2.1) w (owW x) (owW (bz c t m w x d).2.1):=by
 have cm:∀ (m':List Int) (y:WB),dC c t m w x=true→(∀ j,Adr c j→aq m' j=aq m j)→x.1≠14→¬ pkW y→Ef c m m' (pkW x) (pkW y) w (owW x) (owW y):=fun m' y hm h hx hy => .calm (m7 hm).1 h (fun v ho=>absurd ho.1 hx) (fun hp=>absurd hp hy)
 have ca:∀ h5:x.2.2.1.1<5,∀ j,Adr c j→aq (dh c m x.2.2.1).1 j=aq m j:=fun h5 j hj=>B7 hj hf h5
 have s0:∀ v j,Adr c j→aq (aW m 0 v) j=aq m j:=fun v j hj=>ks hj.n0
 have s1:∀ v j,Adr c j→aq (aW m 1 v) j=aq m j:=fun v j hj=>ks hj.n1
 have sm:∀ j,Adr c j→aq m j=aq m j:=fun _ _=>rfl
 refine gC (P:=fun r=>Fwk c.1 w r.2.1∧Ef c m r.1 (pkW x) (pkW r.2.1) w (owW x) (owW r.2.1)) (fun _=>⟨hx,.same (fun _ h=>h) (fun h=>h)⟩) ?_ ?_ ?_ ?_ ?_ ?_ ?_ ?_ ?_ ?_ ?_ ?_ ?_ ?_ ?_
 ·intro hw e
  have h5:=hx.1 (by omega)
  have ho:=pF (c:=c) (m:=m) h5
  dsimp only [GU,toW]
  split
  ·exact ⟨eO (.inl e) (by show (dh c m x.2.2.1).2.1<5;omega),cm _ _ hw (ca h5) (by omega) (fun h=>by have:=h.1;simp only at this;omega)⟩
  ·split
   ·exact ⟨dE (.inl rfl),cm _ _ hw (ca h5) (by omega) (fun h=>by have:=h.1;simp only at this;omega)⟩
   ·exact ⟨dE (.inr (.inr (.inl rfl))),cm _ _ hw (ca h5) (by omega) (fun h=>by have:=h.1;simp only at this;omega)⟩
 ·intro hw e
  dsimp only [pp]
  exact ⟨eO (.inr (.inl rfl)) (by show (4:Int)<5;decide),cm _ _ hw (s1 _) (by omega) (fun h=>by have:=h.1;simp only at this;omega)⟩
 ·intro hw e
  have h5:=hx.1 (by omega)
  have ho:=pF (c:=c) (m:=m) h5
  dsimp only [m9,gc]
  split
  ·exact ⟨eO (by dsimp only;omega) (by show (dh c m x.2.2.1).2.1<5;omega),cm _ _ hw (ca h5) (by omega) (fun h=>by have:=h.1;simp only at this;omega)⟩
  ·split
   ·exact ⟨dE (.inr (.inl rfl)),cm _ _ hw (ca h5) (by omega) (fun h=>by have:=h.1;simp only at this;omega)⟩
   ·split
    ·exact ⟨eO (.inr (.inr (.inl rfl))) (by show (2:Int)<5;decide),cm _ _ hw (ca h5) (by omega) (fun h=>by have:=h.1;simp only at this;omega)⟩
    ·split
     ·exact ⟨aeo rfl rfl,cm _ _ hw (ca h5) (by omega) (fun h=>by have:=h.1;simp only at this;omega)⟩
     ·exact ⟨eO (.inr (.inl rfl)) (by show (4:Int)<5;decide),cm _ _ hw (ca h5) (by omega) (fun h=>by have:=h.1;simp only at this;omega)⟩
 ·intro hw e
  dsimp only [iA]
  by_cases h1:aq m 1=1
  ·rw [if_pos h1,if_pos h1]
   exact ⟨KV rfl ⟨rfl,⟨Int.le_refl 0,(by decide:(0:Int)≤2)⟩,rfl,fun h=>absurd h (show ¬ (0:Int)=2 by decide)⟩,cm _ _ hw (s1 _) (by omega) (fun h=>by have:=h.1;simp only at this;omega)⟩
  ·rw [if_neg h1,if_neg h1]
   exact ⟨dE (.inr (.inr (.inl rfl))),cm _ _ hw (s1 _) (by omega) (fun h=>by have:=h.1;simp only at this;omega)⟩
 ·intro hw e
  obtain ⟨a1,a2,_,a4,_⟩:=m7 hw
  dsimp only [ou]
  rw [hx.2.1 e,TT a1 a2 a4.1 a4.2.1]
  exact ⟨KG (.inl rfl) ⟨rfl,rfl,rfl,rfl⟩,cm _ _ hw sm (by omega) (fun h=>by have:=h.1;simp only at this;omega)⟩
 ·intro hw e
  dsimp only [lx]
  exact ⟨KG (.inr rfl) (hx.2.2.1 (.inl e)),cm _ _ hw (s1 _) (by omega) (fun h=>by have:=h.1;simp only at this;omega)⟩
 ·intro hw e
  obtain ⟨f1,f2,f3,f4⟩:=hx.2.2.1 (.inr e)
  have g8:∀ (f:FR) (b:Int),f.1=5→f.2.1=1→f.2.2.1=w→f.2.2.2.2.2.2=0→Fwk c.1 w (8,x.2.1,f,x.2.2.2.1,b)∧Ef c m m (pkW x) (pkW (8,x.2.1,f,x.2.2.2.1,b)) w (owW x) (owW (8,x.2.1,f,x.2.2.2.1,b)):=fun f b h1 h2 h3 h4=>
   ⟨Yk rfl ⟨h1,⟨by show 0≤f.2.1;omega,by show f.2.1≤4;omega⟩,h3,h4⟩,cm _ _ hw sm (by omega) (fun h=>by have:=h.2;simp only at this;omega)⟩
  have g7:∀ (f:FR) (b:Int),f.1=5→f.2.1=1→f.2.2.1=w→f.2.2.2.2.2.2=0→Fwk c.1 w (7,x.2.1,f,x.2.2.2.1,b)∧Ef c m m (pkW x) (pkW (7,x.2.1,f,x.2.2.2.1,b)) w (owW x) (owW (7,x.2.1,f,x.2.2.2.1,b)):=fun f b h1 h2 h3 h4=>
   ⟨KG (.inr rfl) ⟨h1,h2,h3,h4⟩,cm _ _ hw sm (by omega) (fun h=>by have:=h.1;simp only at this;omega)⟩
  have g1:Fwk c.1 w (toW 1 x)∧Ef c m m (pkW x) (pkW (toW 1 x)) w (owW x) (owW (toW 1 x)):=⟨dE (.inl rfl),cm _ _ hw sm (by omega) (fun h=>by have:=h.1;simp only [toW] at this;omega)⟩
  dsimp only [dS]
  split
  ·exact g8 _ _ f1 f2 f3 f4
  ·generalize hF:(if x.2.2.2.2=0 then AX x.2.2.1 (aq m 4) else if x.2.2.2.2=1 then x.2.2.1 else if x.2.2.2.2%2=0 then AX x.2.2.1 (aq m (Fs c ((x.2.2.2.2 - 2)/2))) else x.2.2.1)=F
   have hF4:F.1=5∧F.2.1=1∧F.2.2.1=w∧F.2.2.2.2.2.2=0:=by
    rw [← hF]
    repeat' split
    all_goals exact ⟨f1,f2,f3,f4⟩
   repeat' split
   all_goals first | exact g1 | exact g8 (AX F 0) 0 hF4.1 hF4.2.1 hF4.2.2.1 hF4.2.2.2 | exact g7 F _ hF4.1 hF4.2.1 hF4.2.2.1 hF4.2.2.2
 ·intro hw e
  obtain ⟨a1,a2,_,a4,_⟩:=m7 hw
  obtain ⟨f1,f2,f3,f4⟩:=hx.2.2.2.1 e
  obtain ⟨hE,hF⟩:=Tf a1 a2 hm hf a4.1 a4.2.1 f1 f2 f3 f4
  dsimp only [fH]
  rw [xc f1]
  by_cases ho:dd (gB c m x.2.2.1).2=true
  ·rw [if_pos ho]
   exact ⟨dE (.inl rfl),hE.mono (fun h=>absurd h.1 (show ¬ (1:Int)=8 by decide)) (fun h=>⟨e,h⟩) (fun v h=>absurd h.1 (by omega)) (fun v h=>h.elim)⟩
  ·rw [if_neg ho]
   have ho':dd (gB c m x.2.2.1).2=false:=by simpa using ho
   exact ⟨Yk e (hF ho'),hE.mono (fun h=>⟨ho',h.2⟩) (fun h=>⟨e,h⟩) (fun v h=>absurd h.1 (by omega)) (fun v h=>h.elim)⟩
 ·intro hw e
  have g:∀ y:WB,y.1=9∨y.1=10∨y.1=15→Fwk c.1 w y∧Ef c m m (pkW x) (pkW y) w (owW x) (owW y):=fun y hy=>⟨dE (by omega),cm _ _ hw sm (by omega) (fun h=>by have:=h.1;omega)⟩
  dsimp only [Hj,gc]
  split
  ·exact g _ (.inl e)
  ·split
   ·exact g _ (.inr (.inl rfl))
   ·split
    ·exact g _ (.inr (.inr rfl))
    ·exact ⟨eO (.inl rfl) (show (1:Int)<5 by decide),cm _ _ hw sm (by omega) (fun h=>by have:=h.1;simp only at this;omega)⟩
 ·intro hw e
  dsimp only [oO,toW]
  split
  ·exact ⟨dE (.inr (.inr (.inl rfl))),cm _ _ hw sm (by omega) (fun h=>by have:=h.1;simp only at this;omega)⟩
  ·exact ⟨eO (.inr (.inr (.inr (.inl rfl)))) (show (0:Int)<5 by decide),cm _ _ hw (s0 _) (by omega) (fun h=>by have:=h.1;simp only at this;omega)⟩
 ·intro hw e
  have h5:=hx.1 (by omega)
  have ho:=pF (c:=c) (m:=m) h5
  dsimp only [og,gc,toW]
  split
  ·exact ⟨eO (.inr (.inr (.inr (.inl e)))) (by show (dh c m x.2.2.1).2.1<5;omega),cm _ _ hw (ca h5) (by omega) (fun h=>by have:=h.1;simp only at this;omega)⟩
  ·split
   ·exact ⟨eO (.inr (.inr (.inr (.inr rfl)))) (show (3:Int)<5 by decide),cm _ _ hw (ca h5) (by omega) (fun h=>by have:=h.1;simp only at this;omega)⟩
   ·exact ⟨dE (.inr (.inr (.inr (.inr (.inl rfl))))),cm _ _ hw (ca h5) (by omega) (fun h=>by have:=h.1;simp only at this;omega)⟩
 ·intro hw e
  have h5:=hx.1 (by omega)
  have ho:=pF (c:=c) (m:=m) h5
  dsimp only [ow,toW]
  split
  ·exact ⟨eO (.inr (.inr (.inr (.inr e)))) (by show (dh c m x.2.2.1).2.1<5;omega),cm _ _ hw (ca h5) (by omega) (fun h=>by have:=h.1;simp only at this;omega)⟩
  ·split
   ·exact ⟨dE (.inr (.inr (.inl rfl))),cm _ _ hw (ca h5) (by omega) (fun h=>by have:=h.1;simp only at this;omega)⟩
   ·exact ⟨dE (.inr (.inr (.inr (.inr (.inl rfl))))),cm _ _ hw (ca h5) (by omega) (fun h=>by have:=h.1;simp only at this;omega)⟩
 ·intro hw e
  dsimp only [Gn,gc,toW]
  split
  ·exact ⟨KV rfl ⟨rfl,⟨Int.le_refl 0,(by decide:(0:Int)≤2)⟩,rfl,fun h=>absurd h (show ¬ (0:Int)=2 by decide)⟩,cm _ _ hw sm (by omega) (fun h=>by have:=h.1;simp only at this;omega)⟩
  ·exact ⟨dE (.inr (.inr (.inl rfl))),cm _ _ hw sm (by omega) (fun h=>by have:=h.1;simp only at this;omega)⟩
 ·intro hw e
  obtain ⟨a1,a2,_,a4,_⟩:=m7 hw
  obtain ⟨f1,f2,f3,f4⟩:=hx.2.2.2.2 e
  obtain ⟨hE,hF⟩:=KS (pk0:=False) (pk1:=False) (me:=w) a1 a2 hm hf (fun h=>h) hl f1 f2 f3 f4
  dsimp only [ot]
  rw [wg f1]
  by_cases ho:dd (fD c m x.2.2.1).2=true
  ·rw [if_pos ho]
   exact ⟨dE (.inr (.inr (.inl rfl))),hE.mono (fun h=>absurd h.1 (show ¬ (9:Int)=8 by decide)) (fun h=>h.elim) (fun v h=>h.2) (fun v h=>by rw [ho] at h;cases h.1)⟩
  ·rw [if_neg ho]
   have ho':dd (fD c m x.2.2.1).2=false:=by simpa using ho
   exact ⟨KV e (hF ho'),hE.mono (fun h=>by have:=h.1;simp only at this;omega) (fun h=>h.elim) (fun v h=>h.2) (fun v h=>⟨e,h.2⟩)⟩
 ·intro hw e
  dsimp only [oq,toW]
  split
  ·exact ⟨dE (.inr (.inr (.inl rfl))),cm _ _ hw sm (by omega) (fun h=>by have:=h.1;simp only at this;omega)⟩
  ·split
   ·exact ⟨eO (.inl rfl) (show (1:Int)<5 by decide),cm _ _ hw (s0 _) (by omega) (fun h=>by have:=h.1;simp only at this;omega)⟩
   ·exact ⟨dE (.inr (.inr (.inl rfl))),cm _ _ hw (s0 _) (by omega) (fun h=>by have:=h.1;simp only at this;omega)⟩
end
section
variable {c:CF} {t:List (Int×List Int)} {m:List Int} {i:Int} {x:SB}
theorem OH {f:FR} (h:f.1=3∨f.1=4∨5≤f.1):fB c m f=dh c m f:=by
 unfold dh
 rw [if_neg (by omega)]
theorem iE (h:x.1≠2) (h4:x.1≠4) {n:Int}:Fsb n x:=⟨fun e=>absurd e h,fun e=>absurd e h4⟩
theorem Z8 (hm:Wm m) (hf:Wf x.2.2) (hl:RG c.1 m) (hx:Fsb c.1 x):Fsb c.1 (lA c t m i x).2.1∧Ef c m (lA c t m i x).1 False False (-1) (owS x) (owS (lA c t m i x).2.1):=by
 have cm:∀ (m':List Int) (y:SB),oQ c t m x=true→(∀ j,Adr c j→aq m' j=aq m j)→x.1≠4→Ef c m m' False False (-1) (owS x) (owS y):=fun m' y hw h hx => .calm (rL hw).1 h (fun v ho=>absurd ho.1 hx) (fun hp=>hp)
 have s0:∀ v j,Adr c j→aq (aW m 0 v) j=aq m j:=fun v j hj=>ks hj.n0
 have sm:∀ j,Adr c j→aq m j=aq m j:=fun _ _=>rfl
 unfold lA
 dsimp only
 split
 ·exact ⟨hx,.same (fun _ h=>h) (fun h=>h)⟩
 rename_i hw
 have hw:oQ c t m x=true:=by simpa using hw
 obtain ⟨a1,a2,_⟩:=rL hw
 split
 ·split
  ·exact ⟨iE (show (0:Int)≠2 by decide) (show (0:Int)≠4 by decide),cm _ _ hw sm (by omega)⟩
  ·exact ⟨iE (show (1:Int)≠2 by decide) (show (1:Int)≠4 by decide),cm _ _ hw sm (by omega)⟩
 split
 ·exact ⟨⟨fun _=>show (3:Int)<5 by decide,fun e=>absurd e (show ¬ (2:Int)=4 by decide)⟩,cm _ _ hw (s0 _) (by omega)⟩
 split
 ·rename_i e
  have h5:=hx.1 e
  have hb:∀ j,Adr c j→aq (fB c m x.2.2).1 j=aq m j:=by
   intro j hj
   have:=B7 (c:=c) (m:=m) hj hf h5
   unfold fB
   split
   ·unfold rS
    repeat' split
    all_goals first | with_reducible rfl | with_reducible exact Je hj hf | with_reducible exact Ji hj hf
   ·unfold xb
    rw [if_neg (by omega),if_neg (by omega)]
  have ho:(fB c m x.2.2).2.1<5:=by
   unfold fB rS xb
   repeat' split
   all_goals first | (rw [Qk];exact h5) | (rw [PI];exact h5) | exact h5 | (exfalso;omega)
  split
  ·exact ⟨⟨fun _=>ho,fun e=>absurd e (show ¬ (2:Int)=4 by decide)⟩,cm _ _ hw hb (by omega)⟩
  ·split
   ·exact ⟨iE (show (5:Int)≠2 by decide) (show (5:Int)≠4 by decide),cm _ _ hw hb (by omega)⟩
   ·exact ⟨iE (show (3:Int)≠2 by decide) (show (3:Int)≠4 by decide),cm _ _ hw hb (by omega)⟩
 split
 ·split
  ·exact ⟨iE (show (0:Int)≠2 by decide) (show (0:Int)≠4 by decide),cm _ _ hw sm (by omega)⟩
  ·exact ⟨⟨fun e=>absurd e (show ¬ (4:Int)=2 by decide),fun _=>⟨rfl,⟨Int.le_refl 0,(by decide:(0:Int)≤2)⟩,rfl,fun h=>absurd h (show ¬ (0:Int)=2 by decide)⟩⟩,cm _ _ hw sm (by omega)⟩
 split
 ·rename_i e
  obtain ⟨f1,f2,f3,f4⟩:=hx.2 e
  obtain ⟨hE,hF⟩:=KS (pk0:=False) (pk1:=False) (me := -1) a1 a2 hm hf (fun h=>h) hl f1 f2 f3 f4
  have hcb:fB c m x.2.2=fD c m x.2.2:=by rw [OH (by omega),wg f1]
  rw [hcb]
  by_cases ho:dd (fD c m x.2.2).2=true
  ·rw [if_pos ho]
   exact ⟨iE (show (0:Int)≠2 by decide) (show (0:Int)≠4 by decide),hE.mono (fun h=>h) (fun h=>h) (fun v h=>h.2) (fun v h=>by rw [ho] at h;cases h.1)⟩
  ·rw [if_neg ho]
   have ho':dd (fD c m x.2.2).2=false:=by simpa using ho
   exact ⟨⟨fun e=>absurd e (show ¬ (4:Int)=2 by decide),fun _=>hF ho'⟩,hE.mono (fun h=>h) (fun h=>h) (fun v h=>h.2) (fun v h=>⟨rfl,h.2⟩)⟩
 ·exact ⟨iE (show (0:Int)≠2 by decide) (show (0:Int)≠4 by decide),cm _ _ hw (s0 _) (by omega)⟩
end
def X7 (W:List WB) (S:List SB) (v:Int):Prop:=(∃ y ∈ W,owW y v)∨∃ y ∈ S,owS y v
structure Sgn (p:PB):Prop where
 w:∀ (i:Nat) x,p.2.2.2.1[i]? = some x→Fwk p.1.1 i x
 s:∀ x ∈ p.2.2.2.2,Fsb p.1.1 x
 low:RG p.1.1 p.2.2.1
 sg:∀ (i:Nat) x,p.2.2.2.1[i]? = some x→pkW x→gk (aq p.2.2.1 2) i=true∨aq p.2.2.1 (cD p.1 i)≠0∨X7 p.2.2.2.1 p.2.2.2.2 i
theorem P2 {α:Type} {l:List α} {i:Nat} {x y z:α} (hx:l[i]? = some x) (hz:z ∈ l):z ∈ l.set i y∨z=x:=by
 obtain ⟨j,hj,rfl⟩:=List.mem_iff_getElem.1 hz
 by_cases e:j=i
 ·subst e
  rw [List.getElem?_eq_getElem hj] at hx
  exact .inr (Option.some.inj hx)
 ·refine .inl (List.mem_iff_getElem.2 ⟨j,by rw [List.length_set];exact hj,?_⟩)
  rw [List.getElem_set_ne (fun h=>e h.symm)]
theorem iD {α:Type} {l:List α} {i:Nat} {x y:α} (hx:l[i]? = some x):y ∈ l.set i y:=
 List.mem_iff_getElem.2 ⟨i,by rw [List.length_set];exact (List.getElem?_eq_some_iff.1 hx).1,by rw [List.getElem_set_self]⟩
theorem NM {n:Nat} {p:PB} {k:PK} (hg:Good n p) (hm:gw p=true) (hk:uS k p.1.1 p.2.2.2.2.length=true) (h:Sgn p):Sgn (fi p k).1:=by
 obtain ⟨h1,h2,h3,h4,h5⟩:=mV hm
 have wn:∀ (i:Nat) x,p.2.2.2.1[i]? = some x→(i:Int)<p.1.1:=by
  intro i x hx
  have:=(List.getElem?_eq_some_iff.1 hx).1
  omega
 refine la (P:=fun r=>Sgn r.1) h (fun x hx hk0 => ?_) (fun x hx hms => ?_) ?_
 ·have hkk:((k.2.1.toNat:Nat):Int)=k.2.1:=by
   unfold uS at hk
   rw [decide_eq_true_eq] at hk
   omega
  have hxm:=List.mem_of_getElem? hx
  have hF:=h.w _ x hx
  rw [hkk] at hF
  obtain ⟨g1,g2⟩:=RT (t:=p.2.1) (d:=k.2.2) hg.m (hg.w x hxm).f h.low hF
  generalize bz p.1 p.2.1 p.2.2.1 k.2.1 x k.2.2=r at g1 g2
  obtain ⟨m',y,ev⟩:=r
  refine ⟨fun i z hz => ?_,h.s,g2.low h.low,fun i z hz hp => ?_⟩
  ·dsimp only at hz ⊢
   rw [List.getElem?_set] at hz
   split at hz
   ·rename_i e
    split at hz
    ·cases hz
     rw [← e,hkk]
     exact g1
    ·cases hz
   ·exact h.w i z hz
  ·dsimp only at hz ⊢
   have own:∀ v,0≤v→v<p.1.1→X7 p.2.2.2.1 p.2.2.2.2 v→X7 (p.2.2.2.1.set k.2.1.toNat y) p.2.2.2.2 v∨aq m' (cD p.1 v)≠0:=by
    intro v v0 v1 ho
    rcases ho with ⟨z,hz,ho⟩ | ⟨z,hz,ho⟩
    ·rcases P2 (y:=y) hx hz with hz | rfl
     ·exact .inl (.inl ⟨z,hz,ho⟩)
     ·rcases g2.owe v v0 v1 ho with ho | ho
      ·exact .inl (.inl ⟨y,iD hx,ho⟩)
      ·exact .inr ho
    ·exact .inl (.inr ⟨z,hz,ho⟩)
   have key:∀ v:Int,0≤v→v<p.1.1→(v=k.2.1→pkW y)→(gk (aq p.2.2.1 2) v=true∨aq p.2.2.1 (cD p.1 v)≠0∨X7 p.2.2.2.1 p.2.2.2.2 v)→gk (aq m' 2) v=true∨aq m' (cD p.1 v)≠0∨X7 (p.2.2.2.1.set k.2.1.toNat y) p.2.2.2.2 v:=by
    intro v v0 v1 hv ho
    rcases ho with ho | ho | ho
    ·rcases g2.bit v v0 v1 ho with ho | ho
     ·exact .inl ho
     ·exact .inr (.inr (.inl ⟨y,iD hx,ho⟩))
    ·rcases g2.par v v0 v1 ho with ho | ⟨e,ho⟩
     ·exact .inr (.inl ho)
     ·exact absurd (hv e) ho
    ·rcases own v v0 v1 ho with ho | ho
     ·exact .inr (.inr ho)
     ·exact .inr (.inl ho)
   rw [List.getElem?_set] at hz
   split at hz
   ·rename_i e
    split at hz
    ·cases hz
     have hin:=wn _ x hx
     rw [hkk] at hin
     have h0k:0≤k.2.1:=by omega
     rw [← e,hkk]
     rcases g2.new hp with h0 | h0 | h0
     ·have:=h.sg _ x hx h0
      rw [hkk] at this
      exact key k.2.1 (by omega) (by omega) (fun _=>hp) this
     ·exact .inl h0
     ·exact .inr (.inl h0)
    ·cases hz
   ·rename_i e
    exact key i (by omega) (wn i z hz) (fun ee=>by exfalso;omega) (h.sg i z hz hp)
 ·have hxm:=List.mem_of_getElem? hx
  obtain ⟨g1,g2⟩:=Z8 (c:=p.1) (t:=p.2.1) (i:=k.2.1) hg.m (hg.s x hxm).f h.low (h.s x hxm)
  generalize lA p.1 p.2.1 p.2.2.1 k.2.1 x=r at g1 g2
  obtain ⟨m',y,ev⟩:=r
  refine ⟨h.w,fun z hz => ?_,g2.low h.low,fun i z hz hp => ?_⟩
  ·rcases AF hz with hz | rfl
   ·exact h.s z hz
   ·exact g1
  ·dsimp only at hz ⊢
   have hi:=wn i z hz
   rcases h.sg i z hz hp with ho | ho | ho
   ·rcases g2.bit i (by omega) hi ho with ho | ho
    ·exact .inl ho
    ·exact .inr (.inr (.inr ⟨y,iD hx,ho⟩))
   ·rcases g2.par i (by omega) hi ho with ho | ⟨e,_⟩
    ·exact .inr (.inl ho)
    ·exfalso;omega
   ·rcases ho with ⟨z',hz',ho⟩ | ⟨z',hz',ho⟩
    ·exact .inr (.inr (.inl ⟨z',hz',ho⟩))
    ·rcases P2 (y:=y) hx hz' with hz' | rfl
     ·exact .inr (.inr (.inr ⟨z',hz',ho⟩))
     ·rcases g2.owe i (by omega) hi ho with ho | ho
      ·exact .inr (.inr (.inr ⟨y,iD hx,ho⟩))
      ·exact .inr (.inl ho)
 ·have e2:aq (aW p.2.2.1 3 1) 2=aq p.2.2.1 2:=ks (by decide)
  refine ⟨h.w,h.s,fun j a b => ?_,fun i z hz hp => ?_⟩
  ·dsimp only
   rw [e2]
   exact h.low j a b
  ·dsimp only at hz ⊢
   have e3:aq (aW p.2.2.1 3 1) (cD p.1 i)=aq p.2.2.1 (cD p.1 i):=ks (ad1 h1 (by omega) (wn i z hz)).n3
   rw [e2,e3]
   exact h.sg i z hz hp
end Go.Ab
namespace Go.Ab
open Go.WideShapes
structure Ll (l:List (List Int)):Prop where
 len:l.length≤9223372036854775807
 each:∀ x ∈ l,x.length≤9223372036854775807
theorem acN {l:List (List Int)} (hm:l.length≤maxLen) (h:∀ x ∈ l,(∀ n ∈ x,i64 n)∧x.length≤maxLen):Ll l:=⟨Zk hm,fun x hx=>Zk (h x hx).2⟩
end Go.Ab
namespace Go.Ab
open Go.WideShapes
end Go.Ab
namespace Go.Ab
open Go.WideShapes
end Go.Ab
namespace Go.Ab
open Go.WideShapes
def ET (x:Int×Int×Int):Prop:=i64 x.1∧i64 x.2.1∧u64 x.2.2
def Wpk (l:List (Int×Int×Int)):Prop:=∀ x ∈ l,0≤x.2.2∧x.2.2≤18446744073709551615
theorem abh {l:List (Int×Int×Int)} (h:∀ x ∈ l,ET x) (hm:l.length≤maxLen):Wpk l:=fun x hx=>WX (h x hx).2.2
theorem G5 {P:Program} {t ti tu:TypeId} {f0 f1 f2:Field} {vs:List V} (he:P.underlying t=some (.struct #[f0,f1,f2])) (h0:f0.type=ti) (h1:f1.type=ti) (h2:f2.type=tu)
  (o0:f0.offset=0) (o1:f1.offset=1) (o2:f2.offset=2) (hi:P.underlying ti=some (.int .i64)) (ci:P.cellsOf ti=1) (hu:P.underlying tu=some (.int .u64)) (cu:P.cellsOf tu=1) (ce:P.cellsOf t=3) (h:Shape P t vs) :
  ∃ x:Int×Int×Int,vs=ej x∧ET x:=by
 obtain ⟨a,b⟩:=lI he h
 have s0:=b 0 f0 rfl
 have s1:=b 1 f1 rfl
 have s2:=b 2 f2 rfl
 rw [h0,o0,ci,List.drop_zero] at s0
 rw [h1,o1,ci] at s1
 rw [h2,o2,cu] at s2
 rw [ce] at a
 obtain ⟨n0,e0,w0⟩:=fp hi s0
 obtain ⟨n1,e1,w1⟩:=fp hi s1
 obtain ⟨n2,e2,w2⟩:=fp hu s2
 match vs,a with
 | [x,y,z],_=>
  simp at e0 e1 e2
  subst e0 e1 e2
  exact ⟨(n0,n1,n2),rfl,w0,w1,w2⟩
theorem DL {P:Program} {t e ti tu:TypeId} {f0 f1 f2:Field} {vs:List V} (ht:P.underlying t=some (.slice e)) (he:P.underlying e=some (.struct #[f0,f1,f2])) (h0:f0.type=ti) (h1:f1.type=ti) (h2:f2.type=tu)
  (o0:f0.offset=0) (o1:f1.offset=1) (o2:f2.offset=2) (hi:P.underlying ti=some (.int .i64)) (ci:P.cellsOf ti=1) (hu:P.underlying tu=some (.int .u64)) (cu:P.cellsOf tu=1) (ce:P.cellsOf e=3) (h:Shape P t vs) :
  ∃ l:List (Int×Int×Int),vs=[.ro (l.map ej)]∧(∀ x ∈ l,ET x)∧l.length≤maxLen:=by
 obtain ⟨rows,rfl,hr,hm⟩:=kU ht h
 obtain ⟨l,rfl,hl⟩:=kK (enc:=ej) (Q:=ET) (rows:=rows) (fun r hx=>G5 he h0 h1 h2 o0 o1 o2 hi ci hu cu ce (hr r hx))
 exact ⟨l,rfl,hl,by simpa using hm⟩
end Go.Ab
