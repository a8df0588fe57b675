import Derived.Test.YtblpbpnilkfjhaaGreatAbLibC
import Derived.Test.YtblpbpnilkfjhaaGreatR6GX
import Derived.WideShapes
import Derived.Test.YtblpbpnilkfjhaaGreatR6GY
set_option linter.unusedVariables false
set_option linter.unusedSimpArgs false
set_option linter.unusedVariables false
namespace Go.Ab
def mi (x:Int×List Int):Bool:=decide (x.1<0)||decide (20<x.1)
def kN:Nat→Tyt→List (Int×Int)
 | _,[]=>[]
 | i,x::r=>x.2.map (fun k=>(k,(i:Int)))++kN (i+1) r
def pG (n:Nat) (had:List Bool) (q:Int×Int):Bool:=decide (q.1≤q.2)||decide ((n:Int)≤q.1)||(had[q.1.toNat]?).getD true
abbrev SR (n:Nat) := { h:List Bool // h.length=n }
def ez (n:Nat) (had:SR n) (q:Int×Int):Bool×SR n:=
 if pG n had.1 q then (false,had) else (true,⟨had.1.set q.1.toNat true,by simp [had.2]⟩)
def Cw (n:Nat):SR n:=⟨List.replicate n false,by simp⟩
def xu (t:Tyt):Bool:=decide (t.length≤30) && !(t.any mi)&&(ON (ez t.length) (kN 0 t) (Cw t.length)).1
structure Wt (t:Tyt):Prop where
 len:t.length≤9223372036854775807
 kids:∀ x ∈ t,x.2.length≤9223372036854775807
def Un (t:Tyt):Bool:=(t.take 41).all (fun x=>decide (x.2.length≤40))&&decide (t.length≤40)
theorem G0 {t:Tyt} (h1:xu t=true):t.length≤30:=by
 unfold xu at h1
 simp only [Bool.and_eq_true,decide_eq_true_eq] at h1
 exact h1.1.1
theorem Le {α:Type} {l:List α} {F:Nat→Int→Option Int} (p:α→Bool)
  (h0:∀ n,F (n+1) (l.length:Int)=some (-1))
  (h1:∀ n (i:Nat) x,i<l.length→l[i]? = some x→F (n+1) (i:Int)=bif p x then some (i:Int) else F n ((i+1:Nat):Int))
  (n:Nat) (hn:l.length<n):F n 0=some (LT p l 0):=by
 have key:∀ r i n,l.drop i=r→i≤l.length→r.length<n→F n (i:Int)=some (LT p r i):=by
  intro r
  induction r with
  | nil=>
   intro i n hr hi hn
   obtain ⟨n,rfl⟩:=gD hn
   have:i=l.length:=by have:=cE hr;omega
   subst this
   rw [h0]
   rfl
  | cons x r ih=>
   intro i n hr hi hn
   obtain ⟨n,rfl⟩:=gD hn
   obtain ⟨a,b,c,d,e⟩:=bT hr
   rw [h1 n i x a b]
   simp only [LT]
   cases p x with
   | true=>rfl
   | false=>exact ih (i+1) n c (by omega) (by simp only [List.length_cons] at hn;omega)
 have:=key l 0 n rfl (Nat.zero_le _) hn
 simpa using this
theorem aaX {α:Type} [DecidableEq α] {a b:List α} {F:Nat→Int→Option Bool} (hlen:a.length=b.length)
  (h0:∀ n,F (n+1) (a.length:Int)=some true)
  (h1:∀ n (i:Nat) x y,i<a.length→a[i]? = some x→b[i]? = some y→F (n+1) (i:Int)=bif decide (x=y) then F n ((i+1:Nat):Int) else some false)
  (n:Nat) (hn:a.length<n):F n 0=some (decide (a=b)):=by
 have key:∀ r i n,a.drop i=r→i≤a.length→r.length<n→F n (i:Int)=some (decide (r=b.drop i)):=by
  intro r
  induction r with
  | nil=>
   intro i n hr hi hn
   obtain ⟨n,rfl⟩:=gD hn
   have:i=a.length:=by have:=cE hr;omega
   subst this
   rw [h0]
   have:b.drop a.length=[]:=by rw [List.drop_eq_nil_iff];omega
   rw [this]
   rfl
  | cons x r ih=>
   intro i n hr hi hn
   obtain ⟨n,rfl⟩:=gD hn
   obtain ⟨h2,h3,h4,h5,h6⟩:=bT hr
   have hb:i<b.length:=by omega
   have hy:b[i]? = some b[i]:=List.getElem?_eq_getElem hb
   rw [h1 n i x b[i] h2 h3 hy]
   have hd:b.drop i=b[i]::b.drop (i+1):=List.drop_eq_getElem_cons hb
   rw [hd,ih (i+1) n h4 (by omega) (by simp only [List.length_cons] at hn;omega)]
   generalize b[i]=y
   generalize b.drop (i+1)=d
   by_cases e:x=y
   ·simp [e]
   ·simp [e]
 have:=key a 0 n rfl (Nat.zero_le _) hn
 simpa using this
theorem xv (x y : Int) : (x != y) = !decide (x = y) := by by_cases h : x = y <;> simp [h]
theorem lb (x y:Int):(x==y)=decide (x=y):=by by_cases h:x=y <;> simp [h]
theorem uB {α:Type} (l:List α):decide ((l.length:Int)<(l.length:Int))=false:=decide_eq_false (by omega)
theorem ltN {i n:Nat} (h:i<n):decide ((i:Int)<(n:Int))=true:=decide_eq_true (by omega)
theorem eG {z:Int} (h : -9223372036854775808≤z∧z≤9223372036854775807):IntKind.i64.wrap z=z:=Hy h.1 h.2
theorem Kd {α β:Type} {a:List α} {b:List β}:((a.length:Int)!=(b.length:Int)) = !decide (a.length=b.length):=by
 by_cases h:a.length=b.length
 ·simp [h]
 ·have:(a.length:Int)≠(b.length:Int):=by omega
  simp [h,this]
end Go.Ab
set_option linter.unusedVariables false
namespace Go.Ab
open Go
abbrev CF:=Int×Int×Int×Int
abbrev FR:=Int×Int×Int×Int×Int×Int×Int
def fY (c:CF):Bool:=decide (1≤c.1∧c.1≤8∧(c.2.1=1∨c.2.1=2∨c.2.1=4∨c.2.1=8∨c.2.1=16)∧1≤c.2.2.1∧c.2.2.1≤16∧0≤c.2.2.2∧c.2.2.2≤4)
def GV (c:CF) (w:Int):Int:=6+2*c.2.2.1+w*(3+c.2.1)
def fw (c:CF):Int:=if fY c=true then GV c c.1 else 0
def FV (c:CF) (w:Int):Int:=if fY c=true∧0≤w∧w<c.1 then GV c w+2 else -1
def aV (m:List Int) (i:Int):Int:=if 0≤i then (m[i.toNat]?).getD 0 else 0
def bH (m:List Int) (i v:Int):List Int:=if 0≤i then m.set i.toNat v else m
def rU (m:List Int) (i old new:Int):List Int×Bool:=if 0≤i∧i<m.length∧aV m i=old then (bH m i new,true) else (m,false)
def epB (e:Int):Int:=e/65536
def mkB (e:Int):Int:=e%65536
def Av (x w:Int):Bool:=decide (x/2 ^ w.toNat%2=1)
def HS (e w:Int):Int:=if 0≤w∧w<16∧Av e w=false then e+2 ^ w.toNat else e
def fO (f:FR):Bool:=f.2.2.2.2.2.2 !=0
def dM (f:FR) (res val:Int):FR:=(f.1,0,f.2.2.1,val,0,0,res)
def ot (c:CF) (m:List Int) (f:FR) (op pcs:Int):Bool:=fY c&&decide ((m.length:Int)=fw c)&&decide (f.2.2.2.2.2.2=0∧0≤f.2.2.1∧f.2.2.1<c.1∧f.1=op∧0≤f.2.1∧f.2.1<pcs)
def AE (c:CF) (m:List Int) (f:FR):List Int×FR:=
 if ot c m f 5 5=false then (m,f)
 else if f.2.1=0 then (m,f.1,1,f.2.2.1,f.2.2.2.1,aV m 2,f.2.2.2.2.2)
 else if f.2.1=1 then (if epB (aV m 2)=epB f.2.2.2.2.1 then (m,f.1,2,f.2.2.1,f.2.2.2.1,f.2.2.2.2.1,aV m 2,f.2.2.2.2.2.2) else (m,dM f 4 0))
 else if f.2.1=2 then (let r:=rU m 2 f.2.2.2.2.2.1 (HS f.2.2.2.2.2.1 f.2.2.1);(r.1,f.1,if r.2=true then 3 else 1,f.2.2))
 else if f.2.1=3 then (let y:=aV m (FV c f.2.2.1);(m,f.1,if y=0 then 3 else 4,f.2.2.1,f.2.2.2.1,f.2.2.2.2.1,y,f.2.2.2.2.2.2))
 else (bH m (FV c f.2.2.1) 0,dM f 1 0)
structure Wm (m:List Int):Prop where
 len:m.length≤9223372036854775807
 num:∀ x ∈ m,0≤x∧x≤18446744073709551615
theorem ip {z:Int} (h0:0≤z) (h1:z≤18446744073709551615):IntKind.u64.wrap z=z:=by
 simp [IntKind.wrap,IntKind.bits,IntKind.signed]
 omega
theorem ZR {a b:Nat} (ha:a<18446744073709551616) (hb:b<18446744073709551616):rI .u64 (a:Int) (b:Int)=((a &&& b:Nat):Int):=by
 unfold rI
 have h:(BitVec.ofInt IntKind.u64.bits (a:Int) &&& BitVec.ofInt IntKind.u64.bits (b:Int)).toNat=a &&& b:=by
  rw [BitVec.toNat_and]
  have e:IntKind.u64.bits=64:=rfl
  rw [e]
  simp only [BitVec.ofInt_natCast,BitVec.toNat_ofNat]
  rw [Nat.mod_eq_of_lt (by omega),Nat.mod_eq_of_lt (by omega)]
 rw [h]
 have:a &&& b≤a:=Nat.and_le_left
 exact ip (by omega) (by omega)
theorem orU {a b:Nat} (ha:a<18446744073709551616) (hb:b<18446744073709551616):orI .u64 (a:Int) (b:Int)=((a ||| b:Nat):Int):=by
 unfold orI
 have h:(BitVec.ofInt IntKind.u64.bits (a:Int) ||| BitVec.ofInt IntKind.u64.bits (b:Int)).toNat=a ||| b:=by
  rw [BitVec.toNat_or]
  have e:IntKind.u64.bits=64:=rfl
  rw [e]
  simp only [BitVec.ofInt_natCast,BitVec.toNat_ofNat]
  rw [Nat.mod_eq_of_lt (by omega),Nat.mod_eq_of_lt (by omega)]
 rw [h]
 have:a ||| b<2 ^ 64:=Nat.or_lt_two_pow (by omega) (by omega)
 exact ip (by omega) (by omega)
theorem Ot {e:Int} (h0:0≤e) (h1:e≤18446744073709551615):rI .u64 e 65535=mkB e:=by
 obtain ⟨n,rfl⟩:∃ n:Nat,e=n:=⟨e.toNat,by omega⟩
 have:=ZR (a:=n) (b:=65535) (by omega) (by omega)
 have h2:((65535:Nat):Int)=65535:=rfl
 rw [h2] at this
 rw [this,mkB]
 have h3:n &&& 65535=n%65536:=Nat.and_two_pow_sub_one_eq_mod n 16
 rw [h3]
 omega
theorem VM {e w:Int} (h0:0≤e) (hw:0≤w) (hw2:w≤64):OH .u64 e w=e/2 ^ w.toNat:=by
 unfold OH
 have e1:IntKind.u64.bits=64:=rfl
 rw [e1]
 have:min w.toNat 64=w.toNat:=by omega
 rw [this,Int.fdiv_eq_ediv_of_nonneg _ (Int.le_of_lt (Int.pow_pos (by decide)))]
theorem Q4 {e:Int} (h0:0≤e):OH .u64 e 16=epB e:=by
 rw [VM h0 (by decide) (by decide)]
 rfl
theorem aar {x:Int} (h0:0≤x) (h1:x≤18446744073709551615):rI .u64 x 1=x%2:=by
 obtain ⟨n,rfl⟩:∃ n:Nat,x=n:=⟨x.toNat,by omega⟩
 have:=ZR (a:=n) (b:=1) (by omega) (by omega)
 have h2:((1:Nat):Int)=1:=rfl
 rw [h2] at this
 rw [this,Nat.and_one_is_mod]
 omega
theorem QB {x w:Int} (h0:0≤x) (h1:x≤18446744073709551615):0≤x/2 ^ w.toNat∧x/2 ^ w.toNat≤18446744073709551615:=by
 have hp:(0:Int)<2 ^ w.toNat:=Int.pow_pos (by decide)
 have:=Int.ediv_nonneg h0 (Int.le_of_lt hp)
 have:=Int.ediv_le_self (2 ^ w.toNat) h0
 omega
theorem adC {x w:Int} (h0:0≤x) (h1:x≤18446744073709551615) (hw:0≤w) (hw2:w≤64):(rI .u64 (OH .u64 x w) 1==1)=Av x w:=by
 have:=QB (w:=w) h0 h1
 rw [VM h0 hw hw2,aar this.1 this.2,Av,lb]
theorem ac3 {w:Int} (hw:0≤w) (hw2:w<64):Nt .u64 1 w=2 ^ w.toNat:=by
 unfold Nt
 have e1:IntKind.u64.bits=64:=rfl
 rw [e1]
 have:min w.toNat 64=w.toNat:=by omega
 rw [this,Int.one_mul]
 have h1:(2:Nat) ^ w.toNat≤2 ^ 63:=Nat.pow_le_pow_right (by decide) (by omega)
 have h2:((2 ^ w.toNat:Nat):Int)=(2:Int) ^ w.toNat:=by rw [Int.natCast_pow];rfl
 have h3:(0:Int)<2 ^ w.toNat:=Int.pow_pos (by decide)
 exact ip (by omega) (by omega)
theorem XK {e w:Int} (h0:0≤e) (h1:e≤18446744073709551615) (hw:0≤w) (hw2:w<16):orI .u64 e (2 ^ w.toNat)=HS e w:=by
 obtain ⟨n,rfl⟩:∃ n:Nat,e=n:=⟨e.toNat,by omega⟩
 have hp:(2:Nat) ^ w.toNat≤2 ^ 15:=Nat.pow_le_pow_right (by decide) (by omega)
 have h2:((2 ^ w.toNat:Nat):Int)=(2:Int) ^ w.toNat:=by rw [Int.natCast_pow];rfl
 rw [← h2,orU (by omega) (by omega)]
 have hb:Av (n:Int) w=n.testBit w.toNat:=by
  rw [Av,Nat.testBit_eq_decide_div_mod_eq,← h2]
  have:((n:Int)/((2 ^ w.toNat:Nat):Int))%2=((n/2 ^ w.toNat%2:Nat):Int):=by rw [Int.natCast_emod,Int.natCast_ediv];rfl
  rw [this]
  congr 1
  apply propext
  omega
 unfold HS
 cases ht:n.testBit w.toNat with
 | true=>
  rw [hb,ht,if_neg (by simp)]
  congr 1
  apply Nat.eq_of_testBit_eq
  intro i
  rw [Nat.testBit_or,Nat.testBit_two_pow]
  by_cases hi:w.toNat=i
  ·subst hi;simp [ht]
  ·simp [hi]
 | false=>
  rw [hb,ht,if_pos ⟨hw,hw2,rfl⟩,← h2]
  have h3:(BitVec.ofNat 80 n) &&& (BitVec.ofNat 80 (2 ^ w.toNat))=0#80:=by
   apply BitVec.eq_of_toNat_eq
   rw [BitVec.toNat_and]
   simp only [BitVec.toNat_ofNat]
   rw [Nat.mod_eq_of_lt (by omega),Nat.mod_eq_of_lt (by omega),Nat.zero_mod]
   apply Nat.eq_of_testBit_eq
   intro i
   rw [Nat.testBit_and,Nat.testBit_two_pow,Nat.zero_testBit]
   by_cases hi:w.toNat=i
   ·subst hi;simp [ht]
   ·simp [hi]
  have h4:=congrArg BitVec.toNat (BitVec.add_eq_or_of_and_eq_zero _ _ h3)
  rw [BitVec.toNat_add,BitVec.toNat_or] at h4
  simp only [BitVec.toNat_ofNat] at h4
  rw [Nat.mod_eq_of_lt (show n<2 ^ 80 by omega),Nat.mod_eq_of_lt (show 2 ^ w.toNat<2 ^ 80 by omega),Nat.mod_eq_of_lt (show n+2 ^ w.toNat<2 ^ 80 by omega)] at h4
  rw [← h4]
  omega
theorem db {m:List Int} (hm:Wm m) (i:Int):0≤aV m i∧aV m i≤18446744073709551615:=by
 unfold aV
 split
 ·cases h:m[i.toNat]? with
  | none=>simp
  | some x=>exact hm.num x (List.mem_of_getElem? h)
 ·omega
theorem Ti {e w:Int} (h0:0≤e) (h1:e≤18446744073709551615):0≤HS e w∧HS e w≤18446744073709551615:=by
 unfold HS
 split
 ·rename_i h
  have hs:=XK h0 h1 h.1 h.2.1
  unfold HS at hs
  rw [if_pos h] at hs
  rw [← hs]
  obtain ⟨n,rfl⟩:∃ n:Nat,e=n:=⟨e.toNat,by omega⟩
  have hp:(2:Nat) ^ w.toNat≤2 ^ 15:=Nat.pow_le_pow_right (by decide) (by omega)
  have h2:((2 ^ w.toNat:Nat):Int)=(2:Int) ^ w.toNat:=by rw [Int.natCast_pow];rfl
  rw [← h2,orU (by omega) (by omega)]
  have:n ||| 2 ^ w.toNat<2 ^ 64:=Nat.or_lt_two_pow (by omega) (by omega)
  omega
 ·omega
end Go.Ab
set_option maxRecDepth 100000
set_option linter.unusedVariables false
namespace Go.Ab
theorem du {c:CF} (h:fY c=true):1≤c.1∧c.1≤8∧(c.2.1=1∨c.2.1=2∨c.2.1=4∨c.2.1=8∨c.2.1=16)∧1≤c.2.2.1∧c.2.2.1≤16∧0≤c.2.2.2∧c.2.2.2≤4:=by
 unfold fY at h
 exact of_decide_eq_true h
theorem mm {c:CF} (h:fY c=true) {w:Int} (h0:0≤w) (h1:w≤8):8≤GV c w∧GV c w≤190∧w*(3+c.2.1)≤152∧0≤w*(3+c.2.1):=by
 obtain ⟨_,_,hD,_,_,_,_⟩:=du h
 have a:0≤w*(3+c.2.1):=Int.mul_nonneg h0 (by omega)
 have b:w*(3+c.2.1)≤8*19:=Int.mul_le_mul h1 (by omega) (by omega) (by omega)
 unfold GV
 omega
theorem SP (a b c:Int):dI a b c=some (decide (b≤a∧a≤c)):=by
 unfold dI
 by_cases h:b≤a
 ·simp [h]
 ·simp [h]
theorem acU {D:Int} (h1:1≤D) (h2:D≤16):(rI IntKind.i64 D (IntKind.i64.wrap (D - 1))==0)=decide (D=1∨D=2∨D=4∨D=8∨D=16):=by
 have:D=1∨D=2∨D=3∨D=4∨D=5∨D=6∨D=7∨D=8∨D=9∨D=10∨D=11∨D=12∨D=13∨D=14∨D=15∨D=16:=by omega
 rcases this with rfl | rfl | rfl | rfl | rfl | rfl | rfl | rfl | rfl | rfl | rfl | rfl | rfl | rfl | rfl | rfl <;> decide +kernel
theorem fx (c:CF):bU c=some (fY c):=by
 obtain ⟨W,D,I,S⟩:=c
 unfold bU fY
 simp only [SP,ae]
 by_cases h1:1≤W∧W≤8
 ·rw [decide_eq_true h1,cond_true]
  by_cases h2:1≤D∧D≤16
  ·rw [decide_eq_true h2,cond_true,acU h2.1 h2.2]
   by_cases h3:D=1∨D=2∨D=4∨D=8∨D=16
   ·rw [decide_eq_true h3,cond_true]
    by_cases h4:1≤I∧I≤16
    ·rw [decide_eq_true h4,cond_true]
     congr 1
     apply decide_eq_decide.2
     omega
    ·rw [decide_eq_false h4,cond_false]
     symm
     congr 1
     apply decide_eq_false
     omega
   ·rw [decide_eq_false h3,cond_false]
    symm
    congr 1
    apply decide_eq_false
    omega
  ·rw [decide_eq_false h2,cond_false]
   symm
   congr 1
   apply decide_eq_false
   omega
 ·rw [decide_eq_false h1,cond_false]
  symm
  congr 1
  apply decide_eq_false
  omega
theorem Bf {c:CF} (h:fY c=true) {w:Int} (h0:0≤w) (h1:w≤8):eb c w=some (GV c w):=by
 have ht:=mm h h0 h1
 have hm:=du h
 obtain ⟨W,D,I,S⟩:=c
 simp only [GV] at ht hm ⊢
 unfold eb
 simp only
 rw [eG (z:=2*I) (by omega),eG (z:=6+2*I) (by omega),eG (z:=3+D) (by omega),eG (z:=w*(3+D)) (by omega),eG (by omega)]
theorem Bc (c:CF):dC c=some (fw c):=by
 unfold dC fw
 try simp only [Prod.eta]
 rw [fx,ae]
 cases h:fY c with
 | false=>rfl
 | true=>
  have hm:=du h
  rw [Bool.not_true,cond_false,if_pos rfl,Bf h (by omega) (by omega),ae]
theorem kx (f:FR):aH f=some (fO f):=rfl
theorem fU (f:FR) (r v:Int):aU f r v=some (dM f r v):=rfl
theorem Fd (c : CF) (m : List Int) (f : FR) (op pcs : Int) : dV c m f op pcs = some (ot c m f op pcs) := by
  obtain ⟨a0, a1, a2, a3, a4, a5, a6⟩ := f
  unfold dV ot
  try simp only [Prod.eta]
  rw [fx, ae]
  cases h : fY c with
  | false => rfl
  | true =>
    rw [cond_true, Bc, ae, lb]
    by_cases h1 : (m.length : Int) = fw c
    · rw [decide_eq_true h1, cond_true, kx, ae, fO]
      simp only
      by_cases h2 : a6 = 0
      · subst h2
        have e : (!((0 : Int) != 0)) = true := rfl
        rw [e, cond_true]
        by_cases h3 : 0 ≤ a2
        · rw [leT h3, cond_true]
          by_cases h4 : a2 < c.1
          · rw [ltT h4, cond_true, lb]
            by_cases h5 : a0 = op
            · rw [decide_eq_true h5, cond_true]
              by_cases h6 : 0 ≤ a1
              · rw [leT h6, cond_true]
                simp [h3, h4, h5, h6]
              · rw [leF (by omega), cond_false]
                simp [h6]
            · rw [decide_eq_false h5, cond_false]
              simp [h5]
          · rw [ltF (by omega), cond_false]
            simp [h4]
        · rw [leF (by omega), cond_false]
          simp [h3]
      · have e : (!(a6 != 0)) = false := by simp [h2]
        rw [e, cond_false]
        simp [h2]
    · rw [decide_eq_false h1, cond_false]
      simp
theorem HU (c:CF) (w:Int):fm c w=some (FV c w):=by
 unfold fm FV
 try simp only [Prod.eta]
 rw [fx,ae]
 cases h:fY c with
 | false=>simp
 | true=>
  have hm:=du h
  rw [Bool.not_true,cond_false,eG (by omega),SP,ae]
  by_cases h1:0≤w∧w≤c.1 - 1
  ·have ht:=mm h h1.1 (by omega)
   rw [decide_eq_true h1,Bool.not_true,cond_false,Bf h (by omega) (by omega),ae,eG (by omega),if_pos ⟨rfl,by omega,by omega⟩]
  ·rw [decide_eq_false h1,Bool.not_false,cond_true,if_neg (by omega)]
theorem ZK (m:List Int) (i:Int):fE m i=some (decide (0≤i∧i<m.length)):=by
 unfold fE
 by_cases h:0≤i
 ·simp [h]
 ·simp [h]
theorem kg {m:List Int} {i:Int} (h:0≤i∧i<m.length):idx m i=some (aV m i)∧m[i.toNat]? = some (aV m i):=by
 have h2:i.toNat<m.length:=by omega
 rw [idx,if_pos h.1,aV,if_pos h.1,List.getElem?_eq_getElem h2]
 exact ⟨rfl,rfl⟩
theorem NW {m:List Int} {i:Int} (h:¬ (0≤i∧i<m.length)):aV m i=0:=by
 unfold aV
 split
 ·rw [List.getElem?_eq_none (by omega)]
  rfl
 ·rfl
theorem G9 {m:List Int} {i v:Int} (h:¬ (0≤i∧i<m.length)):bH m i v=m:=by
 unfold bH
 split
 ·rw [List.set_eq_of_length_le (by omega)]
 ·rfl
theorem fC {m:List Int} {i v:Int}:(bH m i v).length=m.length:=by
 unfold bH
 split <;> simp
theorem Wm.set {m:List Int} (h:Wm m) (i:Int) {v:Int} (h0:0≤v) (h1:v≤18446744073709551615):Wm (bH m i v):=by
 refine ⟨by rw [fC];exact h.len,fun x hx => ?_⟩
 unfold bH at hx
 split at hx
 ·rcases List.mem_or_eq_of_mem_set hx with hx | rfl
  ·exact h.num x hx
  ·exact ⟨h0,h1⟩
 ·exact h.num x hx
theorem Wm.cas {m:List Int} (h:Wm m) (i o:Int) {v:Int} (h0:0≤v) (h1:v≤18446744073709551615):Wm (rU m i o v).1:=by
 unfold rU
 split
 ·exact h.set i h0 h1
 ·exact h
theorem dW (m:List Int) (i:Int):aG m i=some (aV m i):=by
 unfold aG
 rw [ZK,ae]
 by_cases h:0≤i∧i<m.length
 ·rw [decide_eq_true h,Bool.not_true,cond_false,(kg h).1,ae]
 ·rw [decide_eq_false h,Bool.not_false,cond_true,NW h]
theorem bI {α:Type} {b:Nat} {l:List α} (h:l.length*b≤70368744177664):aK b l=some l:=by
 unfold aK
 have:Nat.ble (l.length*b) 70368744177664=true:=Nat.ble_eq_true_of_le h
 rw [this,dF]
section
variable {m:List Int} (hl:m.length≤1000)
include hl
theorem gt (i v:Int):br m i v=some (bH m i v):=by
 unfold br
 rw [bI (by omega),ae,ZK,ae]
 by_cases h:0≤i∧i<m.length
 ·rw [decide_eq_true h,Bool.not_true,cond_false,(kg h).1,ae,decide_eq_true (by omega),cond_true,(kg h).2,ae,ae,bH,if_pos h.1]
 ·rw [decide_eq_false h,Bool.not_false,cond_true,G9 h]
theorem Cg (i o v:Int):cH m i o v=some (rU m i o v):=by
 unfold cH rU
 rw [bI (by omega),ae,ZK,ae]
 by_cases h:0≤i∧i<m.length
 ·rw [decide_eq_true h,Bool.not_true,cond_false,(kg h).1,ae,xv]
  by_cases h2:aV m i=o
  ·rw [decide_eq_true h2,Bool.not_true,cond_false,decide_eq_true (by omega),cond_true,(kg h).2,ae,ae,if_pos ⟨h.1,h.2,h2⟩,bH,if_pos h.1]
  ·rw [decide_eq_false h2,Bool.not_false,cond_true,decide_eq_true (by omega),cond_true,(kg h).2,ae,ae,if_neg (fun hh=>h2 hh.2.2)]
   have:=(kg h).2
   rw [List.getElem?_eq_some_iff] at this
   obtain ⟨h3,h4⟩:=this
   rw [← h4,List.set_getElem_self]
 ·rw [decide_eq_false h,Bool.not_false,cond_true,if_neg (fun hh=>h ⟨hh.1,hh.2.1⟩)]
end
theorem abL {e w:Int} (h0:0≤e) (h1:e≤18446744073709551615):ir e w=some (HS e w):=by
 unfold ir
 by_cases h2:w<0
 ·rw [ltT h2,cond_true,HS,if_neg (by omega)]
 ·rw [ltF (by omega),cond_false]
  by_cases h3:16≤w
  ·rw [leT h3,cond_true,HS,if_neg (by omega)]
  ·rw [leF (by omega),cond_false,leT (by omega),cond_true,ac3 (by omega) (by omega),XK h0 h1 (by omega) (by omega)]
theorem uS {e:Int} (h0:0≤e):dj e=some (epB e):=by
 unfold dj
 rw [Q4 h0]
theorem ur {e:Int} (h0:0≤e) (h1:e≤18446744073709551615):cB e=some (mkB e):=by
 unfold cB
 rw [Ot h0 h1]
def Wf (f:FR):Prop:=(0≤f.2.2.2.1∧f.2.2.2.1≤18446744073709551615)∧(0≤f.2.2.2.2.1∧f.2.2.2.2.1≤18446744073709551615)∧(0≤f.2.2.2.2.2.1∧f.2.2.2.2.2.1≤18446744073709551615)
theorem wa {c:CF} {m:List Int} {f:FR} {op pcs:Int} (h:ot c m f op pcs=true):fY c=true∧(m.length:Int)=fw c∧f.2.2.2.2.2.2=0∧0≤f.2.2.1∧f.2.2.1<c.1∧f.1=op∧0≤f.2.1∧f.2.1<pcs:=by
 unfold ot at h
 rw [Bool.and_eq_true,Bool.and_eq_true,decide_eq_true_eq,decide_eq_true_eq] at h
 exact ⟨h.1.1,h.1.2,h.2⟩
theorem Sz (c:CF) {m:List Int} (hm:Wm m) (hl:m.length≤1000) {f:FR} (hf:Wf f):gV c m f=some (AE c m f):=by
 have hr:=db hm 2
 unfold gV AE
 try simp only [Prod.eta]
 rw [bI (by omega),ae,Fd,ae]
 cases h:ot c m f 5 5 with
 | false=>rfl
 | true=>
  obtain ⟨_,_,h6,h2,h2',h0,h1,h1'⟩:=wa h
  rw [cond_true,if_neg (by simp)]
  obtain ⟨a0,a1,a2,a3,a4,a5,a6⟩:=f
  simp only at h6 h2 h2' h0 h1 h1' ⊢
  have e:decide (0≤a1∧a1.toNat<5)=true:=by rw [decide_eq_true_eq];omega
  rw [e,cond_true]
  obtain ⟨_,w4,w5⟩:=hf
  simp only at w4 w5
  have hp:a1=0∨a1=1∨a1=2∨a1=3∨a1=4:=by omega
  rcases hp with rfl | rfl | rfl | rfl | rfl
  ·simp [dW,ae]
  ·simp only [dW,ae,uS hr.1,uS w4.1,xv,fU]
   by_cases h5:epB (aV m 2)=epB a4
   ·simp [h5]
   ·simp [h5,dM]
  ·simp only [abL w5.1 w5.2,ae,Cg hl]
   cases hc:(rU m 2 a5 (HS a5 a2)).2 <;> simp [hc]
  ·simp only [HU,dW,ae,xv]
   by_cases h5:aV m (FV c a2)=0
   ·simp [h5]
   ·simp [h5]
  ·simp only [HU,ae,gt hl,fU]
   simp [dM]
end Go.Ab
set_option linter.unusedVariables false
namespace Go.Ab
structure OkB (c:CF) (m:List Int) (w:Int):Prop where
 may:fY c=true
 len:(m.length:Int)=fw c
 low:0≤w
 high:w<c.1
theorem OkB.size {c:CF} {m:List Int} {w:Int} (h:OkB c m w):(m.length:Int)=GV c c.1∧12≤m.length∧m.length≤190:=by
 have hm:=du h.may
 have ht:=mm h.may (w:=c.1) (by omega) (by omega)
 have hl:=h.len
 rw [fw,if_pos h.may] at hl
 obtain ⟨W,D,I,S⟩:=c
 simp only [GV] at *
 have:1*(3+D)≤W*(3+D):=Int.mul_le_mul_of_nonneg_right (by omega) (by omega)
 omega
theorem OkB.store {c:CF} {m:List Int} {w:Int} (h:OkB c m w) (i v:Int):OkB c (bH m i v) w:=⟨h.may,by rw [fC];exact h.len,h.low,h.high⟩
section
variable {c:CF} {m:List Int} {w a3 a4 a5:Int} (h:OkB c m w)
include h
end
theorem Rj (n:Nat) {w:Int} (hw:0≤w):Av (n:Int) w=n.testBit w.toNat:=by
 have h2:((2 ^ w.toNat:Nat):Int)=(2:Int) ^ w.toNat:=by rw [Int.natCast_pow];rfl
 rw [Av,Nat.testBit_eq_decide_div_mod_eq,← h2]
 have:((n:Int)/((2 ^ w.toNat:Nat):Int))%2=((n/2 ^ w.toNat%2:Nat):Int):=by rw [Int.natCast_emod,Int.natCast_ediv];rfl
 rw [this]
 congr 1
 apply propext
 omega
theorem Tp (op w:Int):aF op w 0=some (op,0,w,0,0,0,0):=rfl
theorem wf0 {op pc w:Int} {r:Int}:Wf (op,pc,w,0,0,0,r):=by simp [Wf]
end Go.Ab
set_option linter.unusedVariables false
namespace Go.Ab
def Bh (e m:Int):Int:=e%281474976710656*65536+m%65536
def Kj (x:Int):Nat→Nat→Int
 | _,0 => -1
 | i,d+1=>if Av x i=true then (i:Int) else Kj x (i+1) d
def B2 (x:Int):Int:=Kj x 0 16
def Mb (x:Int):Int:=if B2 x<0 then 0 else x - 2 ^ (B2 x).toNat
def R6 (x:Int):Int:=Bh (epB x+1) (Mb (mkB x))
def Sf (x:Int):Int:=Bh (epB x+1) 0
def KD (c:CF) (m:List Int) (w:Int):List Int:=bH m (FV c w) 1
def BY (c:CF) (m:List Int) (f:FR):Bool:=decide (f.1=6∨f.1=7)&&fY c&&decide ((m.length:Int)=fw c)&&decide (f.2.2.2.2.2.2=0∧0≤f.2.1∧f.2.1≤2)
def xe (c:CF) (m:List Int) (f:FR):List Int×FR:=
 if BY c m f=false then (m,f)
 else if f.2.1=0 then (m,f.1,1,f.2.2.1,f.2.2.2.1,aV m 2,f.2.2.2.2.2)
 else if f.2.1=1 then
  (if aV m 2=f.2.2.2.2.1 then
   (bH m 2 (if f.1=6 then R6 f.2.2.2.2.1 else Sf f.2.2.2.2.1),
    if mkB f.2.2.2.2.1=0 then dM f 3 0 else (f.1,2,f.2.2.1,f.2.2.2.1,f.2.2.2.2.1,(if f.1=6 then (if B2 (mkB f.2.2.2.2.1)<0 then 0 else B2 (mkB f.2.2.2.2.1)) else mkB f.2.2.2.2.1),f.2.2.2.2.2.2))
  else (m,f.1,0,f.2.2))
 else if f.1=6 then (KD c m (if f.2.2.2.2.2.1<8 then f.2.2.2.2.2.1 else -1),dM f 1 f.2.2.2.2.2.1)
 else (KD c m (B2 f.2.2.2.2.2.1),if Mb (mkB f.2.2.2.2.2.1)=0 then dM f 1 (mkB f.2.2.2.2.1) else (f.1,2,f.2.2.1,f.2.2.2.1,f.2.2.2.2.1,Mb (mkB f.2.2.2.2.2.1),f.2.2.2.2.2.2))
theorem uo (x:Int):∀ (d i:Nat),(Kj x i d = -1∧∀ j:Nat,i≤j→j<i+d→Av x j=false)∨(∃ j:Nat,Kj x i d=j∧i≤j∧j<i+d∧Av x j=true∧∀ l:Nat,i≤l→l<j→Av x l=false)
 | 0,i => .inl ⟨rfl,fun j h1 h2=>by omega⟩
 | d+1,i=>by
  by_cases h:Av x i=true
  ·exact .inr ⟨i,by rw [Kj,if_pos h],by omega,by omega,h,fun l h1 h2=>by omega⟩
  ·have e:Kj x i (d+1)=Kj x (i+1) d:=by rw [Kj,if_neg h]
   rw [e]
   rcases uo x d (i+1) with ⟨h1,h2⟩ | ⟨j,h1,h2,h3,h4,h5⟩
   ·refine .inl ⟨h1,fun j h3 h4 => ?_⟩
    by_cases e2:i=j
    ·subst e2;simpa using h
    ·exact h2 j (by omega) (by omega)
   ·refine .inr ⟨j,h1,by omega,by omega,h4,fun l h6 h7 => ?_⟩
    by_cases e2:i=l
    ·subst e2;simpa using h
    ·exact h5 l (by omega) h7
theorem Bg (x:Int):(B2 x = -1∧∀ j:Nat,j<16→Av x j=false)∨(∃ j:Nat,B2 x=j∧j<16∧Av x j=true∧∀ l:Nat,l<j→Av x l=false):=by
 rcases uo x 16 0 with ⟨h1,h2⟩ | ⟨j,h1,h2,h3,h4,h5⟩
 ·exact .inl ⟨h1,fun j h=>h2 j (by omega) (by omega)⟩
 ·exact .inr ⟨j,h1,by omega,h4,fun l h=>h5 l (by omega) h⟩
theorem T5 {a w:Nat}:(2 ^ (w+1)*a+2 ^ w) &&& (2 ^ (w+1)*a+(2 ^ w - 1))=2 ^ (w+1)*a:=by
 have hp:0<2 ^ w:=Nat.pow_pos (by decide)
 have hs:2 ^ (w+1)=2*2 ^ w:=by rw [Nat.pow_succ,Nat.mul_comm]
 apply Nat.eq_of_testBit_eq
 intro j
 have e0:2 ^ (w+1)*a=2 ^ (w+1)*a+0:=rfl
 rw [Nat.testBit_and,Nat.testBit_two_pow_mul_add a (by omega),Nat.testBit_two_pow_mul_add a (by omega),e0,Nat.testBit_two_pow_mul_add a (by omega)]
 by_cases h:j<w+1
 ·rw [if_pos h,if_pos h,if_pos h,Nat.testBit_two_pow,Nat.testBit_two_pow_sub_one,Nat.zero_testBit]
  by_cases h2:w=j
  ·subst h2;simp
  ·simp [h2]
 ·rw [if_neg h,if_neg h,if_neg h,Bool.and_self]
theorem Bu {x:Int} (h0:0≤x) (h1:x<65536):(x=0∧B2 x = -1)∨(∃ a w:Nat,x=((2 ^ (w+1)*a+2 ^ w:Nat):Int)∧B2 x=w∧w<16):=by
 obtain ⟨n,rfl⟩:∃ n:Nat,x=n:=⟨x.toNat,by omega⟩
 have hb:∀ j:Nat,Av (n:Int) (j:Int)=n.testBit j:=fun j=>Rj n (by omega)
 rcases Bg (n:Int) with ⟨h2,h3⟩ | ⟨w,h2,h3,h4,h5⟩
 ·refine .inl ⟨?_,h2⟩
  have:n=0:=by
   apply Nat.eq_of_testBit_eq
   intro j
   rw [Nat.zero_testBit]
   by_cases hj:j<16
   ·rw [← hb];exact h3 j hj
   ·exact Nat.testBit_lt_two_pow (Nat.lt_of_lt_of_le (show n<2 ^ 16 by omega) (Nat.pow_le_pow_right (by decide) (by omega)))
  omega
 ·refine .inr ⟨n/2 ^ (w+1),w,?_,h2,h3⟩
  congr 1
  have hm:n%2 ^ (w+1)=2 ^ w:=by
   apply Nat.eq_of_testBit_eq
   intro j
   rw [Nat.testBit_mod_two_pow,Nat.testBit_two_pow]
   by_cases hj:j<w
   ·have:=h5 j hj
    rw [hb] at this
    have h6:¬ w=j:=by omega
    simp [this,h6]
   ·by_cases hj2:w=j
    ·subst hj2
     rw [hb] at h4
     simp [h4]
    ·have h6:¬ j<w+1:=by omega
     simp [h6,hj2]
  have:=Nat.div_add_mod n (2 ^ (w+1))
  omega
theorem VI {x:Int} (h0:0≤x) (h1:x<65536):rI .u64 x (IntKind.u64.wrap (x - 1))=Mb x:=by
 unfold Mb
 rcases Bu h0 h1 with ⟨rfl,h2⟩ | ⟨a,w,rfl,h2,h3⟩
 ·rw [h2]
  decide +kernel
 ·have hp:0<2 ^ w:=Nat.pow_pos (by decide)
  have e:((2 ^ (w+1)*a+2 ^ w:Nat):Int) - 1=((2 ^ (w+1)*a+(2 ^ w - 1):Nat):Int):=by
   generalize 2 ^ (w+1)*a=y
   generalize 2 ^ w=z at hp
   omega
  rw [h2,if_neg (by omega),Int.toNat_natCast,e]
  have hlt:2 ^ (w+1)*a+2 ^ w<65536:=by omega
  rw [ip (by omega) (by generalize 2 ^ (w+1)*a=y at hlt ⊢;generalize 2 ^ w=z at hlt ⊢;omega),ZR (by omega) (by generalize 2 ^ (w+1)*a=y at hlt ⊢;generalize 2 ^ w=z at hlt ⊢;omega),T5]
  have hw:((2 ^ w:Nat):Int)=(2:Int) ^ w:=by rw [Int.natCast_pow];rfl
  rw [← hw]
  generalize 2 ^ (w+1)*a=y
  generalize (2:Nat) ^ w=z
  omega
theorem Hg {x:Int} (h0:0≤x) (h1:x<65536):0≤Mb x∧Mb x≤x:=by
 unfold Mb
 rcases Bu h0 h1 with ⟨rfl,h2⟩ | ⟨a,w,rfl,h2,h3⟩
 ·rw [h2];decide
 ·rw [h2,if_neg (by omega),Int.toNat_natCast]
  have hw:((2 ^ w:Nat):Int)=(2:Int) ^ w:=by rw [Int.natCast_pow];rfl
  rw [← hw]
  generalize 2 ^ (w+1)*a=y
  generalize (2:Nat) ^ w=z
  omega
theorem UY {e m:Int} (h0:0≤e) (m0:0≤m) (m1:m≤18446744073709551615):orI .u64 (Nt .u64 e 16) (rI .u64 m 65535)=Bh e m:=by
 rw [Ot m0 m1]
 have hs:Nt .u64 e 16=((2 ^ 16*(e.toNat%281474976710656):Nat):Int):=by
  unfold Nt
  have e1:min (16:Int).toNat IntKind.u64.bits=16:=by decide
  rw [e1]
  simp [IntKind.wrap,IntKind.bits,IntKind.signed]
  omega
 have hm:mkB m=((m.toNat%65536:Nat):Int):=by unfold mkB;omega
 rw [hs,hm,orU (by omega) (by omega),← Nat.two_pow_add_eq_or_of_lt (by omega),Bh]
 omega
end Go.Ab
set_option linter.unusedVariables false
namespace Go.Ab
theorem un (c : CF) (m : List Int) (a1 a6 : Int) : (bif fY c then bif decide ((m.length : Int) = fw c) then bif !(a6 != 0) then bif decide (0 ≤ a1) then some (decide (a1 ≤ 2)) else some false else some false else some false else some false)
    = some (fY c && decide ((m.length : Int) = fw c) && decide (a6 = 0 ∧ 0 ≤ a1 ∧ a1 ≤ 2)) := by
  cases fY c with
  | false => rfl
  | true =>
    rw [cond_true]
    by_cases h1 : (m.length : Int) = fw c
    · rw [decide_eq_true h1, cond_true]
      by_cases h2 : a6 = 0
      · by_cases h3 : 0 ≤ a1
        · simp [h2, h3]
        · simp [h2, h3]
      · have : (a6 != 0) = true := by simp [h2]
        simp [h2, this]
    · rw [decide_eq_false h1]
      rfl
theorem Rz (c:CF) (m:List Int) (f:FR):gC c m f=some (BY c m f):=by
 obtain ⟨a0,a1,a2,a3,a4,a5,a6⟩:=f
 unfold gC BY
 simp only [Prod.eta,lb,fx,Bc,kx,ae,fO]
 by_cases h1:a0=6
 ·rw [decide_eq_true h1,cond_true,un,decide_eq_true (show a0=6∨a0=7 from .inl h1),Bool.true_and]
 ·rw [decide_eq_false h1,cond_false]
  by_cases h2:a0=7
  ·rw [decide_eq_true h2,cond_true,un,decide_eq_true (show a0=6∨a0=7 from .inr h2),Bool.true_and]
  ·rw [decide_eq_false h2,cond_false,decide_eq_false (by omega)]
   rfl
theorem Et {e:Int} (h0:0≤e):0≤mkB e∧mkB e<65536:=by unfold mkB;omega
theorem Oc {e:Int} (h0:0≤e) (h1:e≤18446744073709551615):0≤epB e∧epB e≤281474976710655:=by unfold epB;omega
theorem OD {e m:Int} (h0:0≤e) (m0:0≤m) (m1:m≤18446744073709551615):fk e m=some (Bh e m):=by
 unfold fk
 rw [UY h0 m0 m1]
theorem oF (e m:Int):0≤Bh e m∧Bh e m≤18446744073709551615:=by unfold Bh;omega
theorem Je (x:Int) : -1≤B2 x∧B2 x<16:=by
 rcases Bg x with ⟨h,_⟩ | ⟨j,h,h2,_⟩ <;> omega
theorem DW {k:Nat} (hk:100≤k) {x:Int} (h0:0≤x) (h1:x≤18446744073709551615):eZ k x=some (B2 x):=by
 have key:∀ (d i n:Nat),i+d=16→d<n→cj k x n (i:Int)=some (Kj x i d):=by
  intro d
  induction d with
  | zero=>
   intro i n hi hn
   obtain ⟨n,rfl⟩:=gD hn
   rw [cj,ltF (by omega),cond_false]
   rfl
  | succ d ih=>
   intro i n hi hn
   obtain ⟨n,rfl⟩:=gD hn
   rw [cj,ltT (by omega),cond_true,leT (by omega),cond_true,adC h0 h1 (by omega) (by omega),Kj]
   cases hb:Av x i with
   | true=>rw [cond_true,if_pos rfl]
   | false=>rw [cond_false,if_neg (by simp),gW (by omega),ih (i+1) n (by omega) (by omega)]
 exact key 16 0 (k+9) rfl (by omega)
theorem Wh {k:Nat} (hk:100≤k) {e:Int} (h0:0≤e) (h1:e≤18446744073709551615):gM k e=some (R6 e,B2 (mkB e)):=by
 have hm:=Et h0
 have he:=Oc h0 h1
 have hc:=Hg hm.1 hm.2
 unfold gM
 rw [ur h0 h1,ae,uS h0,ae,ip (z:=epB e+1) (by omega) (by omega),VI hm.1 hm.2,OD (by omega) hc.1 (by omega),ae,DW hk hm.1 (by omega),ae]
 rfl
theorem Vx {e:Int} (h0:0≤e) (h1:e≤18446744073709551615):gO e=some (Sf e):=by
 have he:=Oc h0 h1
 unfold gO
 rw [uS h0,ae,ip (z:=epB e+1) (by omega) (by omega),OD (by omega) (by decide) (by decide),ae]
 rfl
theorem Lc {k:Nat} (hk:100≤k) {e:Int} (h0:0≤e) (h1:e≤18446744073709551615):eo k e=some (R6 e,if B2 (mkB e)<0 then 0 else B2 (mkB e)):=by
 have hl:=Je (mkB e)
 unfold eo
 rw [Wh hk h0 h1,ae]
 simp only
 by_cases h:B2 (mkB e)<0
 ·rw [ltT h,cond_true,if_pos h];rfl
 ·rw [ltF (by omega),cond_false,if_neg h,ip (by omega) (by omega)]
theorem KS {e:Int} (h0:0≤e) (h1:e≤18446744073709551615):eq e=some (Sf e,mkB e):=by
 unfold eq
 rw [Vx h0 h1,ae,ur h0 h1,ae]
theorem IG {k:Nat} (hk:100≤k) (c:CF) {m:List Int} (hl:m.length≤1000) (w:Int):eE k c m [w]=some (KD c m w):=by
 unfold eE
 obtain ⟨k,rfl⟩:∃ j,k=j+2:=⟨k - 2,by omega⟩
 have f1:∀ k:Nat,k+2+12=(k+12+1)+1:=fun k=>rfl
 have i1:IntKind.i64.wrap (0+1)=1:=by decide
 have x0:idx [w] 0=some w:=rfl
 rw [f1,dD,ltT (by simp),cond_true,x0,ae]
 try simp only [Prod.eta]
 rw [HU,ae,gt hl,ae,i1,dD,ltF (by simp),cond_false]
 rfl
theorem Ul {k:Nat} (hk:1000≤k) (c:CF) {m:List Int} (hm:Wm m) (hl:m.length≤1000) {f:FR} (hf:Wf f):ff k c m f=some (xe c m f):=by
 have hr:=db hm 2
 unfold ff xe
 try simp only [Prod.eta]
 rw [bI (by omega),ae,Rz,ae]
 cases h:BY c m f with
 | false=>rfl
 | true=>
  rw [Bool.not_true,cond_false,if_neg (by simp)]
  obtain ⟨a0,a1,a2,a3,a4,a5,a6⟩:=f
  obtain ⟨_,w4,w5⟩:=hf
  simp only at w4 w5
  unfold BY at h
  rw [Bool.and_eq_true,Bool.and_eq_true,Bool.and_eq_true,decide_eq_true_eq,decide_eq_true_eq,decide_eq_true_eq] at h
  obtain ⟨⟨⟨h0,hmay⟩,hlen⟩,h6,h1,h2⟩:=h
  simp only at h0 h6 h1 h2 ⊢
  have hlen2:(2:Int)<m.length:=by
   have hmc:=du hmay
   have ok:OkB c m 0:=⟨hmay,hlen,by decide,by omega⟩
   have:=ok.size
   omega
  by_cases p0:a1=0
  ·subst p0
   simp [dW,ae]
  ·by_cases p1:a1=1
   ·subst p1
    have e1:∀ v,rU m 2 a4 v=if aV m 2=a4 then (bH m 2 v,true) else (m,false):=by
     intro v
     unfold rU
     by_cases hh:aV m 2=a4
     ·rw [if_pos hh,if_pos ⟨by decide,hlen2,hh⟩]
     ·rw [if_neg hh,if_neg (fun x=>hh x.2.2)]
    rcases h0 with rfl | rfl
    ·simp only [lb,decide_eq_true rfl,decide_eq_false p0,cond_true,cond_false,Lc (k:=k+2) (by omega) w4.1 w4.2,ae,Cg hl,e1,ur w4.1 w4.2,fU]
     by_cases hh:aV m 2=a4
     ·by_cases h3:mkB a4=0
      ·simp [hh,h3,dM]
      ·simp [hh,h3]
     ·simp [hh]
    ·simp only [lb,decide_eq_true rfl,decide_eq_false p0,decide_eq_false (show ¬ ((7:Int)=6) by decide),cond_true,cond_false,KS w4.1 w4.2,ae,Cg hl,e1,ur w4.1 w4.2,fU]
     by_cases hh:aV m 2=a4
     ·by_cases h3:mkB a4=0
      ·simp [hh,h3,dM]
      ·simp [hh,h3]
     ·simp [hh]
   ·rcases h0 with rfl | rfl
    ·simp only [lb,decide_eq_true rfl,decide_eq_false p0,decide_eq_false p1,cond_true,cond_false]
     by_cases h3:a5<8
     ·rw [ltT h3,cond_true,IG (by omega) c hl,ae,fU,ae,eG (by omega)]
      simp [p0,p1,h3,dM]
     ·rw [ltF (by omega),cond_false,IG (by omega) c hl,ae,fU,ae]
      simp [p0,p1,h3,dM]
    ·have hk5:=Et w5.1
     simp only [lb,decide_eq_false (show ¬ ((7:Int)=6) by decide),decide_eq_false p0,decide_eq_false p1,cond_false]
     rw [DW (by omega) w5.1 w5.2,ae,IG (by omega) c hl,ae,ur w5.1 w5.2,ae,VI hk5.1 hk5.2,ur w4.1 w4.2,ae]
     simp only [fU,ae]
     by_cases h3:Mb (mkB a5)=0
     ·simp [p0,p1,h3,dM]
     ·have h4:mkB a5≠0:=fun e=>h3 (by rw [e];decide)
      simp [p0,p1,h3,h4]
      omega
end Go.Ab
namespace Go.Ab
open Go.WideShapes
theorem pX:maxLen≤9223372036854775807:=by decide
theorem abb {l:Tyt} (hm:l.length≤maxLen) (h:∀ x ∈ l,i64 x.1∧(∀ n ∈ x.2,i64 n)∧x.2.length≤maxLen):Wt l:=
 ⟨Nat.le_trans hm pX,fun x hx=>Nat.le_trans (h x hx).2.2 pX⟩
theorem Rw {α:Type} {l:List α} (hm:l.length≤maxLen):l.length≤9223372036854775807:=Nat.le_trans hm pX
theorem GA {P:Program} {w:World} {r:Reach} {base:Nat} {t:TypeId} {v:Value} {fs:Array Field} (ht:P.underlying t=some (.struct fs)) (h:Value.okWide P w r base t v):∃ cs,v = .agg cs:=by
 simp only [Value.okWide,ht] at h
 cases v <;> simp_all
theorem Cells.agg {w:World} {cs:Array Value} {vs:List V} (c:Cells w (Value.agg cs).cells.toList vs):RelV (M8 w) [] (.agg vs) (.agg cs):=by
 have hl:vs.length=cs.toList.length:=c.len
 refine .agg vs cs (by simpa using hl.symm) c.ones fun i x hx => ?_
 have hi:i<vs.length:=(List.getElem?_eq_some_iff.1 hx).1
 have hi2:i<cs.size:=by rw [hl] at hi;simpa using hi
 have h1:cs.toList[i]? = some cs[i]:=by simp [hi2]
 have:=c.rel i x cs[i] hx h1
 simpa [Array.getD,hi2] using this
end Go.Ab
namespace Go.Ab
open Go.WideShapes
def u64 (n:Int):Prop:=(Lit.int .u64 n).wf=true
def IY (c:Int×Int×Int×Int):Prop:=i64 c.1∧i64 c.2.1∧i64 c.2.2.1∧i64 c.2.2.2
def uQ (f:Int×Int×Int×Int×Int×Int×Int):Prop:=i64 f.1∧i64 f.2.1∧i64 f.2.2.1∧u64 f.2.2.2.1∧u64 f.2.2.2.2.1∧u64 f.2.2.2.2.2.1∧i64 f.2.2.2.2.2.2
theorem F1 {P:Program} {t ti:TypeId} {f0 f1 f2 f3:Field} {vs:List V} (he:P.underlying t=some (.struct #[f0,f1,f2,f3])) (h0:f0.type=ti) (h1:f1.type=ti) (h2:f2.type=ti) (h3:f3.type=ti) (o0:f0.offset=0) (o1:f1.offset=1) (o2:f2.offset=2) (o3:f3.offset=3) (hi:P.underlying ti=some (.int .i64)) (ci:P.cellsOf ti=1) (ce:P.cellsOf t=4) (h:Shape P t vs) :
  ∃ x:Int×Int×Int×Int,vs=KN x∧IY x:=by
 obtain ⟨a,b⟩:=dl he h
 have s0:=b 0 f0 rfl
 rw [h0,o0,ci,List.drop_zero] at s0
 have s1:=b 1 f1 rfl
 rw [h1,o1,ci] at s1
 have s2:=b 2 f2 rfl
 rw [h2,o2,ci] at s2
 have s3:=b 3 f3 rfl
 rw [h3,o3,ci] at s3
 rw [ce] at a
 obtain ⟨n0,e0,w0⟩:=bt hi s0
 obtain ⟨n1,e1,w1⟩:=bt hi s1
 obtain ⟨n2,e2,w2⟩:=bt hi s2
 obtain ⟨n3,e3,w3⟩:=bt hi s3
 match vs,a with
 | [x0,x1,x2,x3],_=>
  simp at e0 e1 e2 e3
  subst e0 e1 e2 e3
  exact ⟨(n0,n1,n2,n3),rfl,w0,w1,w2,w3⟩
theorem pr {P:Program} {t ti tu:TypeId} {f0 f1 f2 f3 f4 f5 f6:Field} {vs:List V} (he:P.underlying t=some (.struct #[f0,f1,f2,f3,f4,f5,f6])) (h0:f0.type=ti) (h1:f1.type=ti) (h2:f2.type=ti) (h3:f3.type=tu) (h4:f4.type=tu) (h5:f5.type=tu) (h6:f6.type=ti) (o0:f0.offset=0) (o1:f1.offset=1) (o2:f2.offset=2) (o3:f3.offset=3) (o4:f4.offset=4) (o5:f5.offset=5) (o6:f6.offset=6) (hi:P.underlying ti=some (.int .i64)) (ci:P.cellsOf ti=1) (hu:P.underlying tu=some (.int .u64)) (cu:P.cellsOf tu=1) (ce:P.cellsOf t=7) (h:Shape P t vs) :
  ∃ x:Int×Int×Int×Int×Int×Int×Int,vs=gP x∧uQ x:=by
 obtain ⟨a,b⟩:=dl he h
 have s0:=b 0 f0 rfl
 rw [h0,o0,ci,List.drop_zero] at s0
 have s1:=b 1 f1 rfl
 rw [h1,o1,ci] at s1
 have s2:=b 2 f2 rfl
 rw [h2,o2,ci] at s2
 have s3:=b 3 f3 rfl
 rw [h3,o3,cu] at s3
 have s4:=b 4 f4 rfl
 rw [h4,o4,cu] at s4
 have s5:=b 5 f5 rfl
 rw [h5,o5,cu] at s5
 have s6:=b 6 f6 rfl
 rw [h6,o6,ci] at s6
 rw [ce] at a
 obtain ⟨n0,e0,w0⟩:=bt hi s0
 obtain ⟨n1,e1,w1⟩:=bt hi s1
 obtain ⟨n2,e2,w2⟩:=bt hi s2
 obtain ⟨n3,e3,w3⟩:=bt hu s3
 obtain ⟨n4,e4,w4⟩:=bt hu s4
 obtain ⟨n5,e5,w5⟩:=bt hu s5
 obtain ⟨n6,e6,w6⟩:=bt hi s6
 match vs,a with
 | [x0,x1,x2,x3,x4,x5,x6],_=>
  simp at e0 e1 e2 e3 e4 e5 e6
  subst e0 e1 e2 e3 e4 e5 e6
  exact ⟨(n0,n1,n2,n3,n4,n5,n6),rfl,w0,w1,w2,w3,w4,w5,w6⟩
theorem Zg {n:Int} (h:i64 n) : -9223372036854775808≤n∧n≤9223372036854775807:=by
 have h1:IntKind.min .i64 = -9223372036854775808:=by decide
 have h2:IntKind.max .i64=9223372036854775807:=by decide
 simpa [i64,Lit.wf,h1,h2] using h
theorem xD {n:Int} (h:u64 n):0≤n∧n≤18446744073709551615:=by
 have h1:IntKind.min .u64=0:=by decide
 have h2:IntKind.max .u64=18446744073709551615:=by decide
 simpa [u64,Lit.wf,h1,h2] using h
end Go.Ab
namespace Go.Ab
open Go.WideShapes
theorem adF {m:List Int} (h:∀ x ∈ m,u64 x) (hl:m.length≤maxLen):Wm m:=⟨Rw hl,fun x hx=>xD (h x hx)⟩
end Go.Ab
set_option linter.unusedVariables false
namespace Go.Ab
end Go.Ab
set_option linter.unusedVariables false
namespace Go.Ab
def B3 (c:CF) (x:Int):Int:=if fY c=true then 6+x%c.2.2.1 else -1
def Zq (c:CF) (x:Int):Int:=if fY c=true then 6+c.2.2.1+x%c.2.2.1 else -1
def BC (c:CF) (x:Int):Int:=x/c.2.2.1*2%18446744073709551616
def Ff (a b:Int):Int:=IntKind.i64.wrap (IntKind.u64.wrap (a - b))
def mt (a b:Int):Int:=(a+b)%18446744073709551616
def nW (c:CF) (m:List Int) (f:FR) (op:Int):Bool:=fY c&&decide ((m.length:Int)=fw c)&&decide (f.2.2.2.2.2.2=0∧f.1=op∧0≤f.2.1∧f.2.1<5)
def OG (c:CF) (m:List Int) (f:FR):List Int×FR:=
 if nW c m f 3=false then (m,f)
 else if f.2.1=0 then (m,f.1,1,f.2.2.1,f.2.2.2.1,aV m 5,f.2.2.2.2.2)
 else if f.2.1=1 then
  (if aV m (B3 c f.2.2.2.2.1)=BC c f.2.2.2.2.1 then (m,f.1,2,f.2.2.1,f.2.2.2.1,f.2.2.2.2.1,aV m (B3 c f.2.2.2.2.1),f.2.2.2.2.2.2)
  else if Ff (aV m (B3 c f.2.2.2.2.1)) (BC c f.2.2.2.2.1)<0 then (m,dM f 2 f.2.2.2.1)
  else (m,f.1,0,f.2.2.1,f.2.2.2.1,f.2.2.2.2.1,aV m (B3 c f.2.2.2.2.1),f.2.2.2.2.2.2))
 else if f.2.1=2 then (let r:=rU m 5 f.2.2.2.2.1 (mt f.2.2.2.2.1 1);(r.1,f.1,if r.2=true then 3 else 0,f.2.2))
 else if f.2.1=3 then (bH m (Zq c f.2.2.2.2.1) f.2.2.2.1,f.1,4,f.2.2)
 else (bH m (B3 c f.2.2.2.2.1) (mt (BC c f.2.2.2.2.1) 1),dM f 1 f.2.2.2.1)
def Ai (c:CF) (x:Int):Int:=mt (BC c x) 1
def PF (c:CF) (m:List Int) (f:FR):List Int×FR:=
 if nW c m f 4=false then (m,f)
 else if f.2.1=0 then (m,f.1,1,f.2.2.1,f.2.2.2.1,aV m 4,f.2.2.2.2.2)
 else if f.2.1=1 then
  (if Ff (aV m (B3 c f.2.2.2.2.1)) (Ai c f.2.2.2.2.1)=0 then (m,f.1,2,f.2.2.1,f.2.2.2.1,f.2.2.2.2.1,aV m (B3 c f.2.2.2.2.1),f.2.2.2.2.2.2)
  else if Ff (aV m (B3 c f.2.2.2.2.1)) (Ai c f.2.2.2.2.1)<0 then (m,dM f 3 0)
  else (m,f.1,0,f.2.2.1,f.2.2.2.1,f.2.2.2.2.1,aV m (B3 c f.2.2.2.2.1),f.2.2.2.2.2.2))
 else if f.2.1=2 then (let r:=rU m 4 f.2.2.2.2.1 (mt f.2.2.2.2.1 1);(r.1,f.1,if r.2=true then 3 else 0,f.2.2))
 else if f.2.1=3 then (m,f.1,4,f.2.2.1,aV m (Zq c f.2.2.2.2.1),f.2.2.2.2)
 else (bH m (B3 c f.2.2.2.2.1) (mt (Ai c f.2.2.2.2.1) 1),dM f 1 f.2.2.2.1)
def BE (c:CF) (m:List Int) (f:FR):List Int×FR:=if f.1=3 then OG c m f else if f.1=4 then PF c m f else (m,f)
def GU (c:CF) (m:List Int) (f:FR):List Int×FR:=if f.1=5 then AE c m f else if f.1=6∨f.1=7 then xe c m f else (m,f)
def lJ (c:CF) (m:List Int) (f:FR):List Int×FR:=if f.1=3∨f.1=4 then BE c m f else GU c m f
abbrev SB:=Int×List Int×FR
def dT:FR:=(0,0,0,0,0,0,0)
abbrev EV:=Int×Int×Int
def rB (l:List Int):Int:=l.headD 0
def pU (c:CF) (t:Tyt) (m:List Int) (x:SB):Bool:=fY c&&decide ((m.length:Int)=fw c)&&xu t&&decide (0≤x.1∧x.1<6∧x.2.1≠[]∧0≤rB x.2.1∧rB x.2.1<t.length)
def ms (c:CF) (t:Tyt) (m:List Int) (i:Int) (x:SB):List Int×SB×List EV:=
 if pU c t m x=false then (m,x,[])
 else if x.1=0 then (if aV m 3≠0 then (m,(0,x.2.1.tail,dT),[(1,rB x.2.1,i)]) else (m,(1,x.2),[]))
 else if x.1=1 then (bH m 0 (mt (aV m 0) 1),(2,x.2.1,(3,0,i,rB x.2.1,0,0,0)),[])
 else if x.1=2 then (let r:=lJ c m x.2.2;
  if fO r.2=false then (r.1,(2,x.2.1,r.2),[]) else if r.2.2.2.2.2.2.2=2 then (r.1,(5,x.2.1,r.2),[]) else (r.1,(3,x.2.1,r.2),[(0,rB x.2.1,i)]))
 else if x.1=3 then (if aV m 1≠0 then (m,(0,x.2.1.tail,dT),[]) else (m,(4,x.2.1,(6,0,i,0,0,0,0)),[]))
 else if x.1=4 then (let r:=lJ c m x.2.2;if fO r.2=true then (r.1,(0,x.2.1.tail,dT),[]) else (r.1,(4,x.2.1,r.2),[]))
 else (bH m 0 (mt (aV m 0) 18446744073709551615),(0,x.2.1.tail,dT),if aV m 0=1 then [(1,rB x.2.1,i),(5,0,i)] else [(1,rB x.2.1,i)])
def One (m m':List Int):Prop:=∃ i v,m'=bH m i v
theorem One.same (m:List Int):One m m:=⟨-1,0,by unfold bH;rw [if_neg (by decide)]⟩
theorem One.store (m:List Int) (i v:Int):One m (bH m i v):=⟨i,v,rfl⟩
theorem One.cas (m:List Int) (i o v:Int):One m (rU m i o v).1:=by
 unfold rU
 split
 ·exact One.store m i v
 ·exact One.same m
theorem One.len {m m':List Int} (h:One m m'):m'.length=m.length:=by
 obtain ⟨i,v,rfl⟩:=h
 exact fC
theorem PY (c:CF) (m:List Int) (f:FR):One m (OG c m f).1:=by
 unfold OG
 repeat' split
 all_goals first | exact One.same m | exact One.store m _ _ | exact One.cas m _ _ _
theorem Qu (c:CF) (m:List Int) (f:FR):One m (PF c m f).1:=by
 unfold PF
 repeat' split
 all_goals first | exact One.same m | exact One.store m _ _ | exact One.cas m _ _ _
theorem N9 (c:CF) (m:List Int) (f:FR):One m (AE c m f).1:=by
 unfold AE
 repeat' split
 all_goals first | exact One.same m | exact One.store m _ _ | exact One.cas m _ _ _
theorem Nj (c:CF) (m:List Int) (f:FR):One m (xe c m f).1:=by
 unfold xe KD
 repeat' split
 all_goals first | exact One.same m | (dsimp only;exact One.store m _ _)
theorem D1 (c:CF) (m:List Int) (f:FR):One m (lJ c m f).1:=by
 unfold lJ BE GU
 repeat' split
 all_goals first | exact One.same m | exact PY c m f | exact Qu c m f | exact N9 c m f | exact Nj c m f
end Go.Ab
set_option linter.unusedVariables false
namespace Go.Ab
structure InvA (c:CF) (a:Nat) (m:List Int):Prop where
 wm:Wm m
 may:fY c=true
 len:(m.length:Int)=fw c
 l0:aV m 0=a
 l1:aV m 1=0
 mask:mkB (aV m 2)=0
 l3:aV m 3=0
 l5:aV m 5=a
 sq:∀ j:Nat,(j:Int)<c.2.2.1→aV m (6+j)=if j<a then 1 else 0
 le:(a:Int)≤c.2.2.1
section
variable {c:CF} {t:Tyt} {m:List Int} {l:List Int} {F:FR}
end
section
variable {c:CF} {m:List Int} {w v X Y:Int} (hmay:fY c=true) (hlen:(m.length:Int)=fw c)
include hmay hlen
end
end Go.Ab
set_option linter.unusedVariables false
namespace Go.Ab
theorem us {q i:Int}:∀ {t:Tyt} {s:Nat},(q,i) ∈ kN s t↔∃ n x,t[n]? = some x∧q ∈ x.2∧i=((s+n:Nat):Int)
 | [],s=>by simp [kN]
 | x::t,s=>by
  simp only [kN,List.mem_append,List.mem_map,Prod.mk.injEq,us (t:=t) (s:=s+1)]
  constructor
  ·rintro (⟨a,ha,rfl,rfl⟩ | ⟨n,y,hy,hq,rfl⟩)
   ·exact ⟨0,x,rfl,ha,by simp⟩
   ·exact ⟨n+1,y,by simpa using hy,hq,by omega⟩
  ·rintro ⟨n,y,hy,hq,rfl⟩
   cases n with
   | zero=>
    simp at hy
    subst hy
    exact .inl ⟨q,hq,rfl,by simp⟩
   | succ n=>exact .inr ⟨n,y,by simpa using hy,hq,by omega⟩
theorem Fg (n:Nat):∀ (l:List (Int×Int)) (had:SR n),(∀ q ∈ l,0≤q.2)→(ON (ez n) l had).1=true →
  (∀ q ∈ l,q.2<q.1∧q.1<n∧had.1[q.1.toNat]? = some false)∧(l.map (·.1)).Nodup
 | [],had,_,_=>by simp
 | q::l,had,h0,h=>by
  simp only [ON] at h
  have hq0:=h0 q (by simp)
  cases hb:pG n had.1 q with
  | true=>simp [ez,hb] at h
  | false=>
   have e1:(ez n had q).1=true:=by simp [ez,hb]
   have e2:(ez n had q).2.1=had.1.set q.1.toNat true:=by simp [ez,hb]
   rw [e1,if_pos rfl] at h
   obtain ⟨a,b⟩:=Fg n l _ (fun x hx=>h0 x (by simp [hx])) h
   simp only [pG,Bool.or_eq_false_iff,decide_eq_false_iff_not] at hb
   obtain ⟨⟨h1,h2⟩,h3⟩:=hb
   have h4:q.1.toNat<had.1.length:=by rw [had.2];omega
   have h5:had.1[q.1.toNat]? = some false:=by
    rw [List.getElem?_eq_getElem h4] at h3 ⊢
    simpa using h3
   rw [e2] at a
   have h6:∀ x ∈ l,x.1≠q.1:=by
    intro x hx e
    have:=(a x hx).2.2
    rw [e,List.getElem?_set_self h4] at this
    cases this
   refine ⟨?_,?_⟩
   ·intro x hx
    rcases List.mem_cons.1 hx with rfl | hx
    ·exact ⟨by omega,by omega,h5⟩
    ·obtain ⟨u,v,w⟩:=a x hx
     refine ⟨u,v,?_⟩
     have hx0:=h0 x (by simp [hx])
     rwa [List.getElem?_set_ne (by have:=h6 x hx;omega)] at w
   ·rw [List.map_cons,List.nodup_cons]
    refine ⟨?_,b⟩
    intro hm
    obtain ⟨x,hx,e⟩:=List.mem_map.1 hm
    exact h6 x hx e
structure May (t:Tyt):Prop where
 len:t.length≤30
 work:∀ x ∈ t,0≤x.1∧x.1≤20
 kids:∀ q ∈ kN 0 t,0≤q.2∧q.2<q.1∧q.1<t.length
 once:((kN 0 t).map (·.1)).Nodup
theorem mA {t:Tyt} {s:Nat} (q) (h:q ∈ kN s t):0≤q.2:=by
 obtain ⟨a,b⟩:=q
 obtain ⟨n,x,_,_,rfl⟩:=us.1 h
 simp
 omega
theorem O0 {t:Tyt} (h:xu t=true):May t:=by
 unfold xu at h
 simp only [Bool.and_eq_true,decide_eq_true_eq,Bool.not_eq_true'] at h
 obtain ⟨⟨h1,h2⟩,h3⟩:=h
 obtain ⟨a,b⟩:=Fg t.length _ _ mA h3
 refine ⟨h1,?_,fun q hq=>⟨mA q hq,(a q hq).1,(a q hq).2.1⟩,b⟩
 intro x hx
 have:=List.any_eq_false.1 h2 x hx
 simp only [mi,Bool.or_eq_true,decide_eq_true_eq,not_or] at this
 omega
end Go.Ab
set_option maxRecDepth 100000
set_option linter.unusedVariables false
namespace Go.Ab
theorem Y5 (x:Int×List Int):eu x=some (mi x):=by
 unfold eu mi
 cases decide (x.1<0) <;> rfl
section
variable (k:Nat) (hk:9223372036854775808≤k)
include hk
theorem TI (t:Tyt) (ht:Wt t):cS k t=some (Un t):=by
 have hlen:=ht.len
 have key:∀ r i n,t.drop i=r→i≤t.length→r.length<n→bo k t n (i:Int)=some ((r.take (41 - i)).all (fun x=>decide (x.2.length≤40))&&decide (t.length≤40)):=by
  intro r
  induction r with
  | nil=>
   intro i n hr hi hn
   obtain ⟨n,rfl⟩:=gD hn
   have:i=t.length:=by have:=cE hr;omega
   subst this
   rw [bo,uB,cond_false,Px]
   simp
  | cons x r ih=>
   intro i n hr hi hn
   obtain ⟨n,rfl⟩:=gD hn
   obtain ⟨a,b,c,d,e⟩:=bT hr
   rw [bo,ltN a,cond_true]
   by_cases h:i≤40
   ·rw [leT (show (i:Int)≤40 by omega),cond_true,eO b,ae]
    have e1:41 - i=(41 - (i+1))+1:=by omega
    rw [e1,List.take_succ_cons,List.all_cons]
    by_cases h2:x.2.length≤40
    ·rw [ltF (show ((x.2.length:Nat):Int)≤40 by omega),cond_false,gW (by omega),ih (i+1) n c (by omega) (by simp only [List.length_cons] at hn;omega),decide_eq_true h2,Bool.true_and]
    ·rw [ltT (show (40:Int)<(x.2.length:Nat) by omega),cond_true,decide_eq_false h2]
     rfl
   ·rw [leF (show (40:Int)<i by omega),cond_false,Px]
    have e1:41 - i=0:=by omega
    rw [e1]
    simp
 have:=key t 0 k rfl (Nat.zero_le _) (by omega)
 rw [cS]
 simpa [Un] using this
theorem RE (t:Tyt) (ht:Wt t):aI k t=some (t.any mi):=by
 have hlen:=ht.len
 rw [aI,aZ]
 rw [Le (F:=fun n i=>az (k+8) t n i) (l:=t) mi ?_ ?_ _ (by omega)]
 ·rw [ae,pl]
 ·intro n
  simp only [az,uB,cond_false]
 ·intro n i x hi hx
  simp only [az,ltN hi,cond_true,eO hx,ae,Y5,Prod.eta]
  rw [gW (by omega)]
theorem SN (t:Tyt) (ht:Wt t):dQ k t=some (xu t):=by
 have hlen:=ht.len
 rw [dQ,RE k hk t ht,ae]
 unfold xu
 by_cases h1:t.length≤30
 ·rw [aeA h1,cond_false,decide_eq_true h1]
  cases h2:t.any mi with
  | true=>rfl
  | false=>
   have h3:decide ((0:Int)≤(t.length:Int)∧(t.length:Int)≤9223372036854775807∧(t.length:Int)*1≤70368744177664)=true:=by simp;omega
   rw [h3,cond_false,cond_true]
   -- one task's kids
   have inner:∀ (x:Int×List Int) (hx:x ∈ t) (i:Nat) (hi:i<t.length) (o:Int→List Bool→Option Bool) (R:List (Int×Int)) (n0:Nat)
     (ho:∀ had:SR t.length,o ((i+1:Nat):Int) had.1=some (ON (ez t.length) R had).1),
     ∀ r j n (had:SR t.length),x.2.drop j=r→r.length<n →
      cy k t o n x.2 (x.2.length:Int) (j:Int) had.1 (i:Int)=some (ON (ez t.length) (r.map (fun q=>(q,(i:Int)))++R) had).1:=by
    intro x hx i hi o R n0 ho r
    have hxl:=ht.kids x hx
    induction r with
    | nil=>
     intro j n had hr hn
     obtain ⟨n,rfl⟩:=gD hn
     have hj:=cE hr
     rw [cy,ltF (by omega),cond_false,gW (by omega),ho]
     rfl
    | cons q r ih=>
     intro j n had hr hn
     obtain ⟨n,rfl⟩:=gD hn
     obtain ⟨a,b,c,d,e⟩:=bT hr
     have hb:=had.2
     rw [cy,ltN a,cond_true,eO b,ae,List.map_cons,List.cons_append,ON]
     by_cases h1:q≤(i:Int)
     ·rw [leT h1,cond_true]
      simp [ez,pG,leT h1]
     ·rw [leF (show (i:Int)<q by omega),cond_false]
      by_cases h2:(t.length:Int)≤q
      ·rw [leT h2,cond_true]
       simp [ez,pG,leT h2]
      ·rw [leF (show q<(t.length:Int) by omega),cond_false]
       have h5:decide ((0:Int)≤q∧q.toNat<t.length)=true:=by simp;omega
       have h3:q.toNat<had.1.length:=by rw [hb];omega
       have h4:had.1[q.toNat]? = some had.1[q.toNat]:=List.getElem?_eq_getElem h3
       rw [h5,cond_true,h4,ae,cond_true,ae,gW (by omega)]
       cases hh:had.1[q.toNat] with
       | true=>simp [ez,pG,leF (show (i:Int)<q by omega),leF (show q<(t.length:Int) by omega),h4,hh]
       | false=>
        rw [cond_false]
        have e1:ez t.length had (q,(i:Int))=(true,⟨had.1.set q.toNat true,by simp [had.2]⟩):=by
         simp [ez,pG,leF (show (i:Int)<q by omega),leF (show q<(t.length:Int) by omega),h4,hh]
        rw [e1]
        simp only [if_true]
        exact ih (j+1) n ⟨had.1.set q.toNat true,by simp [had.2]⟩ c (by simp only [List.length_cons] at hn;omega)
   have outer:∀ r i n (had:SR t.length),t.drop i=r→i≤t.length→r.length<n→bL k t n (i:Int) had.1=some (ON (ez t.length) (kN i r) had).1:=by
    intro r
    induction r with
    | nil=>
     intro i n had hr hi hn
     obtain ⟨n,rfl⟩:=gD hn
     have:=cE hr
     rw [bL,ltF (by omega),cond_false]
     rfl
    | cons x r ih=>
     intro i n had hr hi hn
     obtain ⟨n,rfl⟩:=gD hn
     obtain ⟨a,b,c,d,e⟩:=bT hr
     have hxl:=ht.kids x d
     rw [bL,ltN a,cond_true,eO b,ae,kN]
     have:=inner x d i a (fun s47 s56=>bL k t n s47 s56) (kN (i+1) r) n (fun had=>ih (i+1) n had c (by omega) (by simp only [List.length_cons] at hn;omega)) x.2 0 (k+17) had rfl (by omega)
     simpa using this
   have:=outer t 0 (k+17) (Cw t.length) rfl (Nat.zero_le _) (by omega)
   simpa [Cw] using this
 ·rw [aeG (by omega),cond_true,decide_eq_false h1]
  rfl
end
end Go.Ab
set_option linter.unusedVariables false
namespace Go.Ab
theorem wc (z:Int):IntKind.u64.wrap z=z%18446744073709551616:=by simp [IntKind.wrap,IntKind.bits,IntKind.signed]
theorem Ec {c:CF} {x:Int} (h0:0≤x) (h1:x≤18446744073709551615):fI c x=some (B3 c x):=by
 unfold fI B3
 simp only [Prod.eta,fx,ae]
 cases hm:fY c with
 | false=>rfl
 | true=>
  have hc:=du hm
  have hi:IntKind.u64.wrap c.2.2.1=c.2.2.1:=ip (by omega) (by omega)
  have h3:=Int.emod_lt_of_pos x (show 0<c.2.2.1 by omega)
  have h4:=Int.emod_nonneg x (show c.2.2.1≠0 by omega)
  have e1:IntKind.i64.wrap (c.1 - 1)=c.1 - 1:=by rw [IntKind.wrap_i64];omega
  rw [Bool.not_true,cond_false,SP,ae,e1,decide_eq_true (by omega),Bool.not_true,cond_false,hi,xv,decide_eq_false (by omega),Bool.not_false,cond_true,if_pos rfl,Int.tmod_eq_emod_of_nonneg h0]
  have e2:IntKind.i64.wrap (x%c.2.2.1)=x%c.2.2.1:=by rw [IntKind.wrap_i64];omega
  rw [e2,IntKind.wrap_i64]
  congr 1
  omega
theorem Og {c:CF} {x:Int} (h0:0≤x) (h1:x≤18446744073709551615):iX c x=some (Zq c x):=by
 unfold iX Zq
 simp only [Prod.eta,fx,ae]
 cases hm:fY c with
 | false=>rfl
 | true=>
  have hc:=du hm
  have hi:IntKind.u64.wrap c.2.2.1=c.2.2.1:=ip (by omega) (by omega)
  have h3:=Int.emod_lt_of_pos x (show 0<c.2.2.1 by omega)
  have h4:=Int.emod_nonneg x (show c.2.2.1≠0 by omega)
  have e1:IntKind.i64.wrap (c.1 - 1)=c.1 - 1:=by rw [IntKind.wrap_i64];omega
  rw [Bool.not_true,cond_false,SP,ae,e1,decide_eq_true (by omega),Bool.not_true,cond_false,hi,xv,decide_eq_false (by omega),Bool.not_false,cond_true,if_pos rfl,Int.tmod_eq_emod_of_nonneg h0]
  have e2:IntKind.i64.wrap (x%c.2.2.1)=x%c.2.2.1:=by rw [IntKind.wrap_i64];omega
  have e3:IntKind.i64.wrap (6+c.2.2.1)=6+c.2.2.1:=by rw [IntKind.wrap_i64];omega
  rw [e2,e3,IntKind.wrap_i64]
  congr 1
  omega
theorem Ie {c:CF} {x:Int} (hm:fY c=true) (h0:0≤x) (h1:x≤18446744073709551615):IntKind.u64.wrap (IntKind.u64.wrap (x.tdiv (IntKind.u64.wrap c.2.2.1))*2)=BC c x:=by
 have hc:=du hm
 have hi:IntKind.u64.wrap c.2.2.1=c.2.2.1:=ip (by omega) (by omega)
 have h3:0≤x/c.2.2.1:=Int.ediv_nonneg h0 (by omega)
 have h4:x/c.2.2.1≤x:=Int.ediv_le_self _ h0
 rw [hi,Int.tdiv_eq_ediv_of_nonneg h0,ip h3 (by omega),wc]
 rfl
theorem re (a b:Int):IntKind.u64.wrap (a+b)=mt a b:=by rw [wc];rfl
theorem eS (a b:Int):0≤mt a b∧mt a b≤18446744073709551615:=by unfold mt;omega
theorem ne0 {c:CF} (hm:fY c=true):(IntKind.u64.wrap c.2.2.1 !=0)=true:=by
 have hc:=du hm
 rw [ip (by omega) (by omega),xv,decide_eq_false (by omega)]
 rfl
theorem PE {c:CF} {x:Int} (hm:fY c=true) (h0:0≤x) (h1:x≤18446744073709551615):gi c x=some (Ai c x):=by
 unfold gi Ai
 rw [ne0 hm,cond_true,Ie hm h0 h1,re]
theorem Ki (a b:Int):d9 a b=some (Ff a b):=rfl
theorem JV (c:CF) (m:List Int) (f:FR) (op:Int):go c m f op=some (nW c m f op):=by
 unfold go ld nW
 simp only [Prod.eta,fx,Bc,kx,ae]
 cases hm:fY c with
 | false=>rfl
 | true=>
  rw [cond_true,ae,lb,Bool.true_and]
  by_cases h1:(m.length:Int)=fw c
  ·rw [decide_eq_true h1,cond_true,Bool.true_and]
   unfold fO
   rw [xv,Bool.not_not,lb]
   by_cases h2:f.2.2.2.2.2.2=0
   ·rw [decide_eq_true h2,cond_true]
    by_cases h3:f.1=op
    ·rw [decide_eq_true h3,cond_true]
     by_cases h4:0≤f.2.1
     ·rw [leT h4,cond_true]
      congr 1
      simp [h2,h3,h4]
     ·rw [leF (by omega),cond_false]
      simp [h4]
    ·rw [decide_eq_false h3,cond_false]
     simp [h3]
   ·rw [decide_eq_false h2,cond_false]
    simp [h2]
  ·rw [decide_eq_false h1,cond_false]
   rfl
theorem DX {c:CF} {m:List Int} {f:FR} {op:Int} (h:nW c m f op=true):fY c=true∧(m.length:Int)=fw c∧f.2.2.2.2.2.2=0∧f.1=op∧0≤f.2.1∧f.2.1<5:=by
 unfold nW at h
 rw [Bool.and_eq_true,Bool.and_eq_true,decide_eq_true_eq,decide_eq_true_eq] at h
 exact ⟨h.1.1,h.1.2,h.2⟩
theorem Hz (c:CF) {m:List Int} (hm:Wm m) (hl:m.length≤1000) {f:FR} (hf:Wf f):iK c m f=some (OG c m f):=by
 unfold iK OG
 try simp only [Prod.eta]
 rw [bI (by omega),ae,JV,ae]
 cases h:nW c m f 3 with
 | false=>rfl
 | true=>
  obtain ⟨hmay,_,h6,h0,h1,h1'⟩:=DX h
  rw [Bool.not_true,cond_false,if_neg (by simp)]
  obtain ⟨a0,a1,a2,a3,a4,a5,a6⟩:=f
  simp only at h6 h0 h1 h1' ⊢
  have e:decide (0≤a1∧a1.toNat<5)=true:=by rw [decide_eq_true_eq];omega
  rw [e,cond_true]
  obtain ⟨w3,w4,w5⟩:=hf
  simp only at w3 w4 w5
  rcases (show a1=0∨a1=1∨a1=2∨a1=3∨a1=4 by omega) with rfl | rfl | rfl | rfl | rfl
  ·simp [dW,ae]
  ·simp only [Ec w4.1 w4.2,dW,ae,ne0 hmay,Ie hmay w4.1 w4.2,Ki,fU,lb,cond_true]
   by_cases h5:aV m (B3 c a4)=BC c a4
   ·simp [h5]
   ·by_cases h7:Ff (aV m (B3 c a4)) (BC c a4)<0
    ·simp [h5,h7,dM]
    ·simp [h5,h7]
  ·simp only [re,Cg hl,ae]
   cases hc:(rU m 5 a4 (mt a4 1)).2 <;> simp [hc]
  ·simp only [Og w4.1 w4.2,gt hl,ae]
   simp
  ·simp only [Ec w4.1 w4.2,ne0 hmay,Ie hmay w4.1 w4.2,re,gt hl,ae,fU,cond_true]
   simp [dM]
theorem HB (c:CF) {m:List Int} (hm:Wm m) (hl:m.length≤1000) {f:FR} (hf:Wf f):iw c m f=some (PF c m f):=by
 unfold iw PF
 try simp only [Prod.eta]
 rw [bI (by omega),ae,JV,ae]
 cases h:nW c m f 4 with
 | false=>rfl
 | true=>
  obtain ⟨hmay,_,h6,h0,h1,h1'⟩:=DX h
  rw [Bool.not_true,cond_false,if_neg (by simp)]
  obtain ⟨a0,a1,a2,a3,a4,a5,a6⟩:=f
  simp only at h6 h0 h1 h1' ⊢
  obtain ⟨w3,w4,w5⟩:=hf
  simp only at w3 w4 w5
  rcases (show a1=0∨a1=1∨a1=2∨a1=3∨a1=4 by omega) with rfl | rfl | rfl | rfl | rfl
  ·simp [dW,ae]
  ·simp only [Ec w4.1 w4.2,dW,ae,PE hmay w4.1 w4.2,Ki,fU,lb]
   by_cases h5:Ff (aV m (B3 c a4)) (Ai c a4)=0
   ·simp [h5]
   ·by_cases h7:Ff (aV m (B3 c a4)) (Ai c a4)<0
    ·simp [h5,h7,dM]
    ·simp [h5,h7]
  ·simp only [re,Cg hl,ae]
   cases hc:(rU m 4 a4 (mt a4 1)).2 <;> simp [hc]
  ·simp only [Og w4.1 w4.2,dW,ae]
   simp
  ·simp only [Ec w4.1 w4.2,PE hmay w4.1 w4.2,re,gt hl,ae,fU]
   simp [dM]
theorem Ae (c:CF) {m:List Int} (hm:Wm m) (hl:m.length≤1000) {f:FR} (hf:Wf f):bk c m f=some (BE c m f):=by
 unfold bk BE
 simp only [Prod.eta,Hz c hm hl hf,HB c hm hl hf,ae,lb]
 by_cases h3:f.1=3
 ·simp [h3]
 ·by_cases h4:f.1=4
  ·simp [h4]
  ·simp [h3,h4,bI (b:=8) (l:=m) (by omega),ae]
theorem A3 {k:Nat} (hk:1000≤k) (c:CF) {m:List Int} (hm:Wm m) (hl:m.length≤1000) {f:FR} (hf:Wf f):bQ k c m f=some (GU c m f):=by
 unfold bQ GU
 simp only [Prod.eta,Sz c hm hl hf,Ul hk c hm hl hf,ae,lb]
 by_cases h5:f.1=5
 ·rw [decide_eq_true h5,cond_true,if_pos h5]
 ·rw [decide_eq_false h5,cond_false,if_neg h5]
  by_cases h6:f.1=6
  ·rw [decide_eq_true h6,cond_true,cond_true,if_pos (.inl h6)]
  ·rw [decide_eq_false h6,cond_false]
   by_cases h7:f.1=7
   ·rw [decide_eq_true h7,cond_true,if_pos (.inr h7)]
   ·rw [decide_eq_false h7,cond_false,if_neg (by omega),bI (by omega),ae]
theorem W6 {m:List Int} (hl:m.length≤1000) (i v:Int):cI m i v=some (if 0≤i∧i<m.length then (bH m i (mt (aV m i) v),aV m i) else (m,0)):=by
 unfold cI
 rw [bI (by omega),ae,ZK,ae]
 by_cases h:0≤i∧i<m.length
 ·have hd:decide (0≤i∧i.toNat<m.length)=true:=decide_eq_true (by omega)
  rw [decide_eq_true h,Bool.not_true,cond_false,(kg h).1,ae,hd,cond_true,(kg h).2,ae,ae,if_pos h,re]
  unfold bH
  rw [if_pos h.1]
 ·rw [decide_eq_false h,Bool.not_false,cond_true,if_neg h]
theorem PS {k:Nat} (hk:9223372036854775808≤k) (c:CF) {t:Tyt} (ht:Wt t) (m:List Int) (x:SB):eN k c t m x=some (pU c t m x):=by
 unfold eN pU
 simp only [Prod.eta,fx,Bc,ae]
 rw [SN (k+4) (by omega) t ht]
 cases hm:fY c with
 | false=>rfl
 | true=>
  rw [cond_true,lb,Bool.true_and]
  by_cases h1:(m.length:Int)=fw c
  ·rw [decide_eq_true h1,cond_true,Bool.true_and,ae]
   cases ht2:xu t with
   | false=>rfl
   | true=>
    rw [cond_true,Bool.true_and]
    by_cases h2:0≤x.1
    ·rw [leT h2,cond_true]
     by_cases h3:x.1<6
     ·rw [ltT h3,cond_true]
      cases hl:x.2.1 with
      | nil=>simp
      | cons r rest=>
       have h0:idx (r::rest) 0=some r:=rfl
       rw [ltT (by simp),cond_true,h0,ae,ae]
       by_cases h4:0≤r
       ·rw [leT h4,cond_true]
        congr 1
        simp [h2,h3,rB,h4]
       ·rw [leF (by omega),cond_false]
        simp [rB,h4]
     ·rw [ltF (by omega),cond_false]
      simp [h3]
    ·rw [leF (by omega),cond_false]
     simp [h2]
  ·rw [decide_eq_false h1,cond_false]
   rfl
theorem Cv {c:CF} {t:Tyt} {m:List Int} {x:SB} (h:pU c t m x=true):fY c=true∧(m.length:Int)=fw c∧xu t=true∧0≤x.1∧x.1<6∧∃ r rest,x.2.1=r::rest∧0≤r∧r<t.length:=by
 unfold pU at h
 simp only [Bool.and_eq_true,decide_eq_true_eq] at h
 obtain ⟨⟨⟨h1,h2⟩,h3⟩,h4,h5,h6,h7,h8⟩:=h
 cases hx:x.2.1 with
 | nil=>exact absurd hx h6
 | cons r rest=>
  rw [hx] at h7 h8
  exact ⟨h1,h2,h3,h4,h5,r,rest,rfl,h7,h8⟩
theorem wi {c:CF} (h:fY c=true):12≤fw c∧fw c≤190:=by
 have hm:=du h
 have:=mm h (w:=c.1) (by omega) (by omega)
 unfold fw
 rw [if_pos h]
 have e:GV c c.1=6+2*c.2.2.1+c.1*(3+c.2.1):=rfl
 have h3:1*(3+c.2.1)≤c.1*(3+c.2.1):=Int.mul_le_mul_of_nonneg_right (by omega) (by omega)
 omega
theorem Tl {k:Nat} (hk:9223372036854775808≤k) (c:CF) {t:Tyt} (ht:Wt t) {m:List Int} (hm:Wm m) (hl:m.length≤1000) (i:Int) {x:SB} (hf:Wf x.2.2) (hr:x.2.1.length≤1000) (ht2:t.length≤1000):eY k c t m i x=some (ms c t m i x):=by
 unfold eY ms
 try simp only [Prod.eta]
 rw [bI (by omega),ae,bI (by omega),ae,PS (by omega) c ht,ae]
 cases hmay:pU c t m x with
 | false=>rfl
 | true=>
  rw [Bool.not_true,cond_false,if_neg (by simp)]
  obtain ⟨h1,h2,h3,h4,h5,r,rest,hx,h6,h7⟩:=Cv hmay
  have hsz:=wi h1
  obtain ⟨pc,roots,F⟩:=x
  simp only at hx h4 h5 hf hr ⊢
  subst hx
  have hi0:idx (r::rest) 0=some r:=rfl
  have hroom:room 1 24=true:=rfl
  have hroom2:room 2 24=true:=rfl
  have hd:decide ((1:Int)≤((r::rest).length:Int))=true:=decide_eq_true (by simp;omega)
  have hdr:List.drop (Int.toNat 1) (r::rest)=rest:=rfl
  have hh:rB (r::rest)=r:=rfl
  have hur:IntKind.u64.wrap r=r:=ip h6 (by omega)
  have htl:(r::rest).tail=rest:=rfl
  rw [hi0,ae]
  simp only [Ae c hm hl hf,A3 (k:=k+20) (by omega) c hm hl hf,dW,W6 hl,ae,kx,Tp,hroom,hroom2,hd,hdr,hh,htl,cond_true,hur,lb,xv]
  have hb:∀ op w v:Int,aF op w v=some (op,0,w,v,0,0,0):=fun _ _ _=>rfl
  simp only [hb,ae]
  have hin:(0:Int)≤0∧(0:Int)<m.length:=by omega
  have hcall:lJ c m F=if F.1=3∨F.1=4 then BE c m F else GU c m F:=rfl
  rcases (show pc=0∨pc=1∨pc=2∨pc=3∨pc=4∨pc=5 by omega) with rfl | rfl | rfl | rfl | rfl | rfl
  ·by_cases h:aV m 3=0
   ·simp [h]
   ·simp [h,dT]
  ·simp only [if_pos hin]
   simp
  ·by_cases e3:F.1=3
   ·have ec:lJ c m F=BE c m F:=by rw [hcall,if_pos (.inl e3)]
    rw [ec]
    cases ho:fO (BE c m F).2 with
    | false=>simp [e3,ho]
    | true=>
     by_cases h8:(BE c m F).2.2.2.2.2.2.2=2
     ·simp [e3,ho,h8]
     ·simp [e3,ho,h8]
   ·by_cases e4:F.1=4
    ·have ec:lJ c m F=BE c m F:=by rw [hcall,if_pos (.inr e4)]
     rw [ec]
     cases ho:fO (BE c m F).2 with
     | false=>simp [e4,ho]
     | true=>
      by_cases h8:(BE c m F).2.2.2.2.2.2.2=2
      ·simp [e4,ho,h8]
      ·simp [e4,ho,h8]
    ·have ec:lJ c m F=GU c m F:=by rw [hcall,if_neg (by omega)]
     rw [ec]
     cases ho:fO (GU c m F).2 with
     | false=>simp [e3,e4,ho]
     | true=>
      by_cases h8:(GU c m F).2.2.2.2.2.2.2=2
      ·simp [e3,e4,ho,h8]
      ·simp [e3,e4,ho,h8]
  ·by_cases h:aV m 1=0
   ·simp [h]
   ·simp [h,dT]
  ·by_cases e3:F.1=3
   ·have ec:lJ c m F=BE c m F:=by rw [hcall,if_pos (.inl e3)]
    rw [ec]
    cases ho:fO (BE c m F).2 with
    | false=>simp [e3,ho]
    | true=>simp [e3,ho,dT]
   ·by_cases e4:F.1=4
    ·have ec:lJ c m F=BE c m F:=by rw [hcall,if_pos (.inr e4)]
     rw [ec]
     cases ho:fO (BE c m F).2 with
     | false=>simp [e4,ho]
     | true=>simp [e4,ho,dT]
    ·have ec:lJ c m F=GU c m F:=by rw [hcall,if_neg (by omega)]
     rw [ec]
     cases ho:fO (GU c m F).2 with
     | false=>simp [e3,e4,ho]
     | true=>simp [e3,e4,ho,dT]
  ·simp only [if_pos hin]
   by_cases h:aV m 0=1
   ·simp [h,dT,hroom2]
   ·simp [h,dT]
end Go.Ab
set_option linter.unusedVariables false
namespace Go.Ab
def onW (c:CF) (w x:Int):Int:=if fY c=true∧0≤w∧w<c.1 then GV c w+x else -1
def Gs (c:CF) (w:Int):Int:=onW c w 0
def GW (c:CF) (w:Int):Int:=onW c w 1
def DA (c:CF) (w x:Int):Int:=onW c w (3+rI .u64 x (c.2.1 - 1))
def QN (a b:Int):Int:=(a - b)%18446744073709551616
def xB (c:CF) (m:List Int) (f:FR):List Int×FR:=
 if ot c m f 0 4=false then (m,f)
 else if f.2.1=0 then (m,f.1,1,f.2.2.1,f.2.2.2.1,aV m (GW c f.2.2.1),f.2.2.2.2.2)
 else if f.2.1=1 then (if c.2.1≤QN f.2.2.2.2.1 (aV m (Gs c f.2.2.1)) then (m,dM f 2 f.2.2.2.1) else (m,f.1,2,f.2.2.1,f.2.2.2.1,f.2.2.2.2.1,aV m (Gs c f.2.2.1),f.2.2.2.2.2.2))
 else if f.2.1=2 then (bH m (DA c f.2.2.1 f.2.2.2.2.1) f.2.2.2.1,f.1,3,f.2.2)
 else (bH m (GW c f.2.2.1) (mt f.2.2.2.2.1 1),dM f 1 f.2.2.2.1)
def Oh (c:CF) (m:List Int) (f:FR):List Int×FR:=
 if ot c m f 1 7=false then (m,f)
 else if f.2.1=0 then (m,f.1,1,f.2.2.1,f.2.2.2.1,QN (aV m (GW c f.2.2.1)) 1,f.2.2.2.2.2)
 else if f.2.1=1 then (bH m (GW c f.2.2.1) f.2.2.2.2.1,f.1,2,f.2.2)
 else if f.2.1=2 then (m,f.1,if Ff f.2.2.2.2.1 (aV m (Gs c f.2.2.1))<0 then 6 else 3,f.2.2.1,f.2.2.2.1,f.2.2.2.2.1,aV m (Gs c f.2.2.1),f.2.2.2.2.2.2)
 else if f.2.1=3 then (if f.2.2.2.2.1≠f.2.2.2.2.2.1 then (m,dM f 1 (aV m (DA c f.2.2.1 f.2.2.2.2.1))) else (m,f.1,4,f.2.2.1,aV m (DA c f.2.2.1 f.2.2.2.2.1),f.2.2.2.2))
 else if f.2.1=4 then (let r:=rU m (Gs c f.2.2.1) f.2.2.2.2.2.1 (mt f.2.2.2.2.2.1 1);(r.1,f.1,if r.2=true then 5 else 6,f.2.2))
 else if f.2.1=5 then (bH m (GW c f.2.2.1) (mt f.2.2.2.2.1 1),dM f 1 f.2.2.2.1)
 else (bH m (GW c f.2.2.1) (mt f.2.2.2.2.1 1),dM f 3 0)
def n9 (c:CF) (m:List Int) (f:FR):List Int×FR:=
 if ot c m f 2 4=false then (m,f)
 else if f.2.1=0 then (m,f.1,1,f.2.2.1,f.2.2.2.1,f.2.2.2.2.1,aV m (Gs c f.2.2.1),f.2.2.2.2.2.2)
 else if f.2.1=1 then (if Ff (aV m (GW c f.2.2.1)) f.2.2.2.2.2.1≤0 then (m,dM f 3 0) else (m,f.1,2,f.2.2.1,f.2.2.2.1,aV m (GW c f.2.2.1),f.2.2.2.2.2))
 else if f.2.1=2 then (m,f.1,3,f.2.2.1,aV m (DA c f.2.2.1 f.2.2.2.2.2.1),f.2.2.2.2)
 else (let r:=rU m (Gs c f.2.2.1) f.2.2.2.2.2.1 (mt f.2.2.2.2.2.1 1);if r.2=true then (r.1,dM f 1 f.2.2.2.1) else (r.1,dM f 4 0))
def Gx (c:CF) (m:List Int) (f:FR):List Int×FR:=if f.1=0 then xB c m f else if f.1=1 then Oh c m f else if f.1=2 then n9 c m f else (m,f)
def ga (c:CF) (m:List Int) (f:FR):List Int×FR:=if f.1=0∨f.1=1∨f.1=2 then Gx c m f else lJ c m f
theorem Vh (a b:Int):IntKind.u64.wrap (a - b)=QN a b:=by rw [wc];rfl
theorem Lw (a b:Int):0≤QN a b∧QN a b≤18446744073709551615:=by unfold QN;omega
theorem SM {x D:Int} (h0:0≤x) (h1:x≤18446744073709551615) (hD:1≤D) (hE:D≤16):0≤rI .u64 x (D - 1)∧rI .u64 x (D - 1)≤D - 1:=by
 obtain ⟨a,rfl⟩:=Int.eq_ofNat_of_zero_le h0
 obtain ⟨b,hb⟩:∃ b:Nat,D - 1=(b:Int):=⟨(D - 1).toNat,by omega⟩
 rw [hb,ZR (by omega) (by omega)]
 have:=Nat.and_le_right (n:=a) (m:=b)
 omega
theorem Lt (c:CF) (w:Int):fN c w=some (Gs c w):=by
 unfold fN Gs onW
 try simp only [Prod.eta]
 rw [fx,ae]
 cases h:fY c with
 | false=>simp
 | true=>
  have hm:=du h
  rw [Bool.not_true,cond_false,eG (by omega),SP,ae]
  by_cases h1:0≤w∧w≤c.1 - 1
  ·have ht:=mm h h1.1 (by omega)
   rw [decide_eq_true h1,Bool.not_true,cond_false,Bf h (by omega) (by omega),ae,if_pos ⟨rfl,by omega,by omega⟩,Int.add_zero]
  ·rw [decide_eq_false h1,Bool.not_false,cond_true,if_neg (by omega)]
theorem Hc (c:CF) (w:Int):cQ c w=some (GW c w):=by
 unfold cQ GW onW
 try simp only [Prod.eta]
 rw [fx,ae]
 cases h:fY c with
 | false=>simp
 | true=>
  have hm:=du h
  rw [Bool.not_true,cond_false,eG (by omega),SP,ae]
  by_cases h1:0≤w∧w≤c.1 - 1
  ·have ht:=mm h h1.1 (by omega)
   rw [decide_eq_true h1,Bool.not_true,cond_false,Bf h (by omega) (by omega),ae,eG (by omega),if_pos ⟨rfl,by omega,by omega⟩]
  ·rw [decide_eq_false h1,Bool.not_false,cond_true,if_neg (by omega)]
theorem IB (c:CF) (w:Int) {x:Int} (h0:0≤x) (hx:x≤18446744073709551615):eI c w x=some (DA c w x):=by
 unfold eI DA onW
 try simp only [Prod.eta]
 rw [fx,ae]
 cases h:fY c with
 | false=>simp
 | true=>
  have hm:=du h
  rw [Bool.not_true,cond_false,eG (z:=c.1 - 1) (by omega),SP,ae]
  by_cases h1:0≤w∧w≤c.1 - 1
  ·have ht:=mm h h1.1 (by omega)
   have ha:=SM h0 hx (show 1≤c.2.1 by omega) (by omega)
   rw [decide_eq_true h1,Bool.not_true,cond_false,Bf h (by omega) (by omega),ae,if_pos ⟨rfl,by omega,by omega⟩,eG (z:=c.2.1 - 1) (by omega),ip (z:=c.2.1 - 1) (by omega) (by omega),eG (z:=rI .u64 x (c.2.1 - 1)) (by omega),eG (z:=GV c w+3) (by omega),eG (by omega),Int.add_assoc]
  ·rw [decide_eq_false h1,Bool.not_false,cond_true,if_neg (by omega)]
section
variable (k:Nat) (c:CF) (m:List Int) (a2 a3 a4 a5:Int) (n:Nat) {x:List Int} (p q:Int)
theorem WT:an k c m (2,1,a2,a3,a4,a5,0) (n+1) x p q 0=an k c m (2,1,a2,a3,a4,a5,0) n x p q 1:=by
 rw [an]
 rfl
theorem Yj:an k c m (2,2,a2,a3,a4,a5,0) (n+1) x p q 0=an k c m (2,2,a2,a3,a4,a5,0) n x p q 1:=by
 rw [an]
 rfl
theorem Us:an k c m (2,2,a2,a3,a4,a5,0) (n+1) x p q 1=an k c m (2,2,a2,a3,a4,a5,0) n x p q 2:=by
 rw [an]
 rfl
theorem W2:an k c m (2,3,a2,a3,a4,a5,0) (n+1) x p q 0=an k c m (2,3,a2,a3,a4,a5,0) n x p q 1:=by
 rw [an]
 rfl
theorem WH:an k c m (2,3,a2,a3,a4,a5,0) (n+1) x p q 1=an k c m (2,3,a2,a3,a4,a5,0) n x p q 2:=by
 rw [an]
 rfl
theorem Yu:an k c m (2,3,a2,a3,a4,a5,0) (n+1) x p q 2=an k c m (2,3,a2,a3,a4,a5,0) n x p q 3:=by
 rw [an]
 rfl
theorem Uz:an k c m (2,0,a2,a3,a4,a5,0) (n+1) x p q 0=some (x,(2,1,a2,a3,a4,aV x p,0)):=by
 have e:an k c m (2,0,a2,a3,a4,a5,0) (n+1) x p q 0=ob (aG x p) fun r=>some (x,(2,1,a2,a3,a4,r,0)):=by
  rw [an]
  rfl
 rw [e,dW,ae]
theorem YP:an k c m (2,1,a2,a3,a4,a5,0) (n+1) x p q 1=some (if Ff (aV x q) a5≤0 then (x,(2,0,a2,0,0,0,3)) else (x,(2,2,a2,a3,aV x q,a5,0))):=by
 have e:an k c m (2,1,a2,a3,a4,a5,0) (n+1) x p q 1=ob (aG x q) fun r=>ob (d9 r a5) fun y=>bif decide (y≤0) then some (x,(2,0,a2,0,0,0,3)) else some (x,(2,2,a2,a3,r,a5,0)):=by
  rw [an]
  rfl
 rw [e,dW,ae,Ki,ae]
 by_cases h:Ff (aV x q) a5≤0
 ·rw [leT h,cond_true,if_pos h]
 ·rw [leF (by omega),cond_false,if_neg h]
theorem YH (h0:0≤a5) (h1:a5≤18446744073709551615):an k c m (2,2,a2,a3,a4,a5,0) (n+1) x p q 2=some (x,(2,3,a2,aV x (DA c a2 a5),a4,a5,0)):=by
 have e:an k c m (2,2,a2,a3,a4,a5,0) (n+1) x p q 2=ob (eI c a2 a5) fun s=>ob (aG x s) fun r=>some (x,(2,3,a2,r,a4,a5,0)):=by
  rw [an]
  rfl
 rw [e,IB c a2 h0 h1,ae,dW,ae]
theorem XP (hl:x.length≤1000):an k c m (2,3,a2,a3,a4,a5,0) (n+1) x p q 3=some (if (rU x p a5 (mt a5 1)).2=true then ((rU x p a5 (mt a5 1)).1,(2,0,a2,a3,0,0,1)) else ((rU x p a5 (mt a5 1)).1,(2,0,a2,0,0,0,4))):=by
 have e:an k c m (2,3,a2,a3,a4,a5,0) (n+1) x p q 3=ob (cH x p a5 (IntKind.u64.wrap (a5+1))) fun r=>bif r.2 then some (r.1,(2,0,a2,a3,0,0,1)) else some (r.1,(2,0,a2,0,0,0,4)):=by
  rw [an]
  rfl
 rw [e,re,Cg hl,ae]
 cases (rU x p a5 (mt a5 1)).2 <;> rfl
end
section
variable (c:CF) {m:List Int} (hm:Wm m) (hl:m.length≤1000) {f:FR} (hf:Wf f)
include hm hl hf
theorem Gg:gr c m f=some (xB c m f):=by
 have _h:=hm
 unfold gr xB
 try simp only [Prod.eta]
 rw [bI (by omega),ae,Fd,ae]
 cases h:ot c m f 0 4 with
 | false=>rfl
 | true=>
  obtain ⟨hmay,_,h6,h2,h2',h0,h1,h1'⟩:=wa h
  have hc:=du hmay
  rw [cond_true,if_neg (by simp)]
  obtain ⟨a0,a1,a2,a3,a4,a5,a6⟩:=f
  simp only at h6 h2 h2' h0 h1 h1' ⊢
  obtain ⟨w3,w4,w5⟩:=hf
  simp only at w3 w4 w5
  rcases (show a1=0∨a1=1∨a1=2∨a1=3 by omega) with rfl | rfl | rfl | rfl
  ·simp [Hc,dW,ae]
  ·simp only [Lt,dW,ae,fU,Vh,ip (z:=c.2.1) (by omega) (by omega)]
   by_cases h5:c.2.1≤QN a4 (aV m (Gs c a2))
   ·simp [h5,dM]
   ·simp [h5]
  ·simp only [IB c a2 w4.1 w4.2,gt hl,ae]
   simp
  ·simp only [Hc,gt hl,ae,fU,re]
   simp [dM]
theorem Io:iS c m f=some (Oh c m f):=by
 have _h:=hm
 unfold iS Oh
 try simp only [Prod.eta]
 rw [bI (by omega),ae,Fd,ae]
 cases h:ot c m f 1 7 with
 | false=>rfl
 | true=>
  obtain ⟨hmay,_,h6,h2,h2',h0,h1,h1'⟩:=wa h
  rw [Bool.not_true,cond_false,if_neg (by simp)]
  obtain ⟨a0,a1,a2,a3,a4,a5,a6⟩:=f
  simp only at h6 h2 h2' h0 h1 h1' ⊢
  obtain ⟨w3,w4,w5⟩:=hf
  simp only at w3 w4 w5
  rw [Lt,ae,Hc,ae]
  have hw:∀ z:Int,0≤z→z≤100→IntKind.i64.wrap (z+1)=z+1:=fun z _ _=>eG (by omega)
  rcases (show a1=0∨a1=1∨a1=2∨a1=3∨a1=4∨a1=5∨a1=6 by omega) with rfl | rfl | rfl | rfl | rfl | rfl | rfl
  ·rw [hw 0 (by decide) (by decide)]
   simp [dW,ae,Vh]
  ·rw [hw 1 (by decide) (by decide)]
   simp [gt hl,ae]
  ·rw [hw 2 (by decide) (by decide)]
   simp only [dW,ae,Ki]
   by_cases h5:Ff a4 (aV m (Gs c a2))<0
   ·simp [h5]
   ·simp [h5]
  ·rw [hw 3 (by decide) (by decide)]
   simp only [IB c a2 w4.1 w4.2,dW,ae,fU,xv]
   by_cases h5:a4=a5
   ·simp [h5]
   ·simp [h5,dM]
  ·rw [hw 4 (by decide) (by decide)]
   simp only [re,Cg hl,ae]
   cases hc:(rU m (Gs c a2) a5 (mt a5 1)).2 <;> simp [hc]
  ·simp only [re,gt hl,ae,fU]
   simp [dM]
  ·simp only [re,gt hl,ae,fU]
   simp [dM]
theorem CH (k:Nat):fL k c m f=some (n9 c m f):=by
 have _h:=hm
 unfold fL n9
 try simp only [Prod.eta]
 rw [bI (by omega),ae,Fd,ae]
 cases h:ot c m f 2 4 with
 | false=>rfl
 | true=>
  obtain ⟨hmay,_,h6,h2,h2',h0,h1,h1'⟩:=wa h
  rw [Bool.not_true,cond_false,if_neg (by simp)]
  obtain ⟨a0,a1,a2,a3,a4,a5,a6⟩:=f
  simp only at h6 h2 h2' h0 h1 h1' ⊢
  obtain ⟨w3,w4,w5⟩:=hf
  simp only at w3 w4 w5
  subst h6
  subst h0
  rw [Lt,ae,Hc,ae]
  rcases (show a1=0∨a1=1∨a1=2∨a1=3 by omega) with rfl | rfl | rfl | rfl
  ·rw [if_pos rfl]
   exact Uz k c m a2 a3 a4 a5 (k+22) _ _
  ·rw [if_neg (by decide),if_pos rfl]
   exact (WT k c m a2 a3 a4 a5 (k+22) _ _).trans (YP k c m a2 a3 a4 a5 (k+21) _ _)
  ·rw [if_neg (by decide),if_neg (by decide),if_pos rfl]
   exact (Yj k c m a2 a3 a4 a5 (k+22) _ _).trans ((Us k c m a2 a3 a4 a5 (k+21) _ _).trans (YH k c m a2 a3 a4 a5 (k+20) _ _ w5.1 w5.2))
  ·rw [if_neg (by decide),if_neg (by decide),if_neg (by decide)]
   exact (W2 k c m a2 a3 a4 a5 (k+22) _ _).trans ((WH k c m a2 a3 a4 a5 (k+21) _ _).trans ((Yu k c m a2 a3 a4 a5 (k+20) _ _).trans (XP k c m a2 a3 a4 a5 (k+19) _ _ hl)))
theorem Fy (k:Nat):dN k c m f=some (Gx c m f):=by
 unfold dN Gx
 simp only [Prod.eta,Gg c hm hl hf,Io c hm hl hf,CH c hm hl hf,ae,lb]
 by_cases h0:f.1=0
 ·simp [h0]
 ·by_cases h1:f.1=1
  ·simp [h1]
  ·by_cases h2:f.1=2
   ·simp [h2]
   ·simp [h0,h1,h2,bI (b:=8) (l:=m) (by omega),ae]
end
end Go.Ab
set_option maxRecDepth 100000
set_option linter.unusedVariables false
namespace Go.Ab
structure FwT (t:Tyt):Prop where
 len:t.length≤40
 kids:∀ x ∈ t,x.2.length≤40
theorem WQ {t:Tyt} (h:Un t=true):FwT t:=by
 simp only [Un,Bool.and_eq_true,decide_eq_true_eq,List.all_eq_true] at h
 refine ⟨h.2,fun x hx=>h.1 x ?_⟩
 rwa [List.take_of_length_le (by omega)]
theorem FwT.wt {t:Tyt} (h:FwT t):Wt t:=⟨by have:=h.len;omega,fun x hx=>by have:=h.kids x hx;omega⟩
def mu (t:Tyt) (q:Int):Int×List Int:=(t[q.toNat]?).getD (0,[])
def AS (t:Tyt) (x:Int×Int×Int):Bool:=
 decide (0≤x.1)&&decide (x.1<t.length)&&(decide (0≤x.2.1)&&decide (x.2.1≤(mu t x.1).1))&&(decide (0≤x.2.2)&&decide (x.2.2≤((mu t x.1).2.length:Int))) &&
  !(decide (x.2.1<(mu t x.1).1)&&decide (0<x.2.2))
def cF (t:Tyt) (s:Tye):Bool:=xu t&&s.all (AS t)
theorem J9 {t:Tyt} {q:Int} (h0:0≤q) (h1:q<t.length):idx t q=some (mu t q):=by
 rw [idx,if_pos h0,mu,List.getElem?_eq_getElem (by omega)]
 rfl
theorem wB {t:Tyt} {q:Int} (h0:0≤q) (h1:q<t.length):mu t q ∈ t:=by
 rw [mu,List.getElem?_eq_getElem (show q.toNat<t.length by omega)]
 exact List.getElem_mem _
theorem Ha {α:Type} (b:Nat) (l:List α) (h:l.length*b≤70368744177664):aK b l=some l:=by
 unfold aK
 rw [aeo,decide_eq_true h,dF]
theorem X9 (x y:Int×Int×Int):(x.1==y.1&&(x.2.1==y.2.1&&x.2.2==y.2.2))=decide (x=y):=by
 obtain ⟨a,b,c⟩:=x
 obtain ⟨d,e,f⟩:=y
 by_cases h1:a=d <;> by_cases h2:b=e <;> by_cases h3:c=f <;> simp [h1,h2,h3]
theorem Wb (a b:Int):eM a b=some (decide (0≤a)&&decide (a≤b)):=by
 rw [eM]
 cases decide ((0:Int)≤a) <;> rfl
section
variable (k:Nat) (hk:9223372036854775808≤k)
include hk
theorem HT (t:Tyt) (ht:Wt t) (s:Tye) (hs:s.length≤9223372036854775807):eB k t s=some (cF t s):=by
 have hlen:=ht.len
 rw [eB,SN k hk t ht,ae,cF]
 cases hm:xu t with
 | false=>rfl
 | true=>
  have h30:=G0 hm
  rw [cond_true,Le (F:=fun n i=>bF k n s (s.length:Int) t i) (l:=s) (fun x => !AS t x) ?_ ?_ _ (by omega),ae,pl]
  ·rw [List.all_eq_not_any_not,Bool.true_and]
  ·intro n
   simp only [bF,uB,cond_false]
  ·intro n i x hi hx
   simp only [bF,ltN hi,cond_true,eO hx,ae,Wb]
   rw [gW (by omega),eG (z:=(t.length:Int) - 1) (by omega)]
   have e0:decide (x.1≤(t.length:Int) - 1)=decide (x.1<(t.length:Int)):=by
    by_cases h:x.1<(t.length:Int)
    ·rw [decide_eq_true h,decide_eq_true (by omega)]
    ·rw [decide_eq_false h,decide_eq_false (by omega)]
   rw [e0]
   unfold AS
   by_cases h0:0≤x.1
   ·by_cases h1:x.1<(t.length:Int)
    ·rw [leT h0,ltT h1,J9 h0 h1,ae]
     simp only [Bool.and_self,Bool.not_true,cond_false,Bool.true_and]
     cases (decide (0≤x.2.1)&&decide (x.2.1≤(mu t x.1).1)) with
     | false=>rfl
     | true=>
      cases (decide (0≤x.2.2)&&decide (x.2.2≤((mu t x.1).2.length:Int))) with
      | false=>rfl
      | true=>
       cases decide (x.2.1<(mu t x.1).1) with
       | false=>rfl
       | true=>cases decide (0<x.2.2) <;> rfl
    ·rw [ltF (show (t.length:Int)≤x.1 by omega)]
     simp
   ·rw [leF (show x.1<0 by omega)]
    simp
end
def pj (t:Tyt) (s:Tye):Int×Int:=
 match s.getLast? with
 | none=>(0,0)
 | some x=>if cF t s=false then (0,0) else if x.2.1<(mu t x.1).1 then (1,x.1) else if x.2.2<((mu t x.1).2.length:Int) then (2,((mu t x.1).2[x.2.2.toNat]?).getD 0) else (3,x.1)
def doB (t:Tyt) (s:Tye):Tye:=
 match s.getLast? with
 | none=>s
 | some x=>if cF t s=false then s else if x.2.1<(mu t x.1).1 then s.dropLast++[(x.1,x.2.1+1,x.2.2)] else if x.2.2<((mu t x.1).2.length:Int) then s.dropLast++[(x.1,x.2.1,x.2.2+1)] else s.dropLast
def mE (t:Tyt) (s:Tye) (q:Int):Tye:=
 if cF t s=true∧0≤q∧q<t.length then s++[(q,0,0)] else s
def Ib (t:Tyt) (x:Int×Int×Int):Int:=(mu t x.1).1 - x.2.1+((mu t x.1).2.length:Int) - x.2.2+1
def GR (t:Tyt) (s:Tye):Int:=if cF t s=true then (s.map (Ib t)).sum else 0
theorem lA {α:Type} (s:List α):s=[]∨∃ r x,s=r++[x]:=by
 rcases List.eq_nil_or_concat s with h | ⟨r,x,h⟩
 ·exact .inl h
 ·exact .inr ⟨r,x,by rw [h,List.concat_eq_append]⟩
theorem D0 {α:Type} (r:List α) (x:α):(((r++[x]).length:Nat):Int) - 1=(r.length:Int):=by simp
theorem EU {α:Type} (r:List α) (x:α):(r++[x])[r.length]? = some x:=by simp
theorem MN {α:Type} (r:List α) (x y:α):(r++[x]).set r.length y=r++[y]:=by simp
theorem G2 {α:Type} (r:List α) (x:α):(r++[x]).take r.length=r:=by simp
theorem r9 (t:Tyt) (r:Tye) (x:Int×Int×Int):pj t (r++[x])=if cF t (r++[x])=false then (0,0) else if x.2.1<(mu t x.1).1 then (1,x.1) else if x.2.2<((mu t x.1).2.length:Int) then (2,((mu t x.1).2[x.2.2.toNat]?).getD 0) else (3,x.1):=by
 simp [pj]
theorem u9 (t:Tyt) (r:Tye) (x:Int×Int×Int):doB t (r++[x])=if cF t (r++[x])=false then r++[x] else if x.2.1<(mu t x.1).1 then r++[(x.1,x.2.1+1,x.2.2)] else if x.2.2<((mu t x.1).2.length:Int) then r++[(x.1,x.2.1,x.2.2+1)] else r:=by
 simp [doB]
theorem TH (t:Tyt) (s:Tye):(doB t s).length≤s.length:=by
 rcases lA s with rfl | ⟨r,x,rfl⟩
 ·simp [doB]
 ·rw [u9]
  split
  ·exact Nat.le_refl _
  ·split
   ·simp
   ·split <;> simp
theorem Gm (t:Tyt) (s:Tye) (q:Int):(mE t s q).length≤s.length+1:=by
 unfold mE
 split <;> simp
structure It (t:Tyt) (x:Int×Int×Int):Prop where
 h0:0≤x.1
 h1:x.1<t.length
 d0:0≤x.2.1
 d1:x.2.1≤(mu t x.1).1
 c0:0≤x.2.2
 c1:x.2.2≤((mu t x.1).2.length:Int)
 z:x.2.1<(mu t x.1).1→x.2.2=0
theorem Pt {t:Tyt} {x:Int×Int×Int}:AS t x=true↔It t x:=by
 simp only [AS,Bool.and_eq_true,decide_eq_true_eq,Bool.not_eq_true',Bool.and_eq_false_iff,decide_eq_false_iff_not]
 constructor
 ·rintro ⟨⟨⟨⟨a,b⟩,c,d⟩,e,f⟩,g⟩
  exact ⟨a,b,c,d,e,f,fun h=>by rcases g with g | g <;> omega⟩
 ·rintro ⟨a,b,c,d,e,f,g⟩
  refine ⟨⟨⟨⟨a,b⟩,c,d⟩,e,f⟩,?_⟩
  by_cases h:x.2.1<(mu t x.1).1
  ·exact .inr (by have:=g h;omega)
  ·exact .inl h
theorem fi {t:Tyt} {r:Tye} {x:Int×Int×Int}:cF t (r++[x])=true↔xu t=true∧(∀ y ∈ r,It t y)∧It t x:=by
 simp only [cF,Bool.and_eq_true,List.all_eq_true,List.mem_append,List.mem_singleton,Pt]
 constructor
 ·rintro ⟨a,b⟩
  exact ⟨a,fun y hy=>b y (.inl hy),b x (.inr rfl)⟩
 ·rintro ⟨a,b,c⟩
  refine ⟨a,fun y hy => ?_⟩
  rcases hy with h | rfl
  ·exact b y h
  ·exact c
theorem kM {t:Tyt} {r:Tye}:cF t r=true↔xu t=true∧(∀ y ∈ r,It t y):=by
 simp only [cF,Bool.and_eq_true,List.all_eq_true,Pt]
section
variable (k:Nat) (hk:9223372036854775808≤k)
include hk
theorem HM (t:Tyt) (ht:Wt t) (s:Tye) (hs:s.length≤1048576):dk k t s=some (pj t s):=by
 rw [dk]
 rcases lA s with rfl | ⟨r,x,rfl⟩
 ·rfl
 ·have hr:r.length+1≤1048576:=by simpa using hs
  have e1:((((r++[x]).length:Nat):Int)==0)=false:=by simp;omega
  rw [e1,cond_false,HT k hk t ht _ (by omega),ae,r9]
  cases h:cF t (r++[x]) with
  | false=>rfl
  | true=>
   obtain ⟨hm,hr',hx⟩:=fi.1 h
   have hl:=ht.kids _ (wB hx.h0 hx.h1)
   rw [Bool.not_true,cond_false,D0,eG (by omega),eO (EU r x),ae,J9 hx.h0 hx.h1,ae,if_neg (show ¬ (true=false) by simp)]
   by_cases h1:x.2.1<(mu t x.1).1
   ·rw [ltT h1,cond_true,if_pos h1]
   ·rw [ltF (by omega),cond_false,if_neg h1]
    by_cases h2:x.2.2<((mu t x.1).2.length:Int)
    ·have:=hx.c0
     rw [ltT h2,cond_true,if_pos h2,idx,if_pos hx.c0,List.getElem?_eq_getElem (by omega),ae]
     rfl
    ·rw [ltF (by omega),cond_false,if_neg h2]
theorem abg (t:Tyt) (ht:Wt t) (s:Tye) (hs:s.length≤1048576):eH k t s=some (doB t s):=by
 rw [eH,Ha _ _ (by omega),ae,HM k hk t ht s hs,ae]
 rcases lA s with rfl | ⟨r,x,rfl⟩
 ·rfl
 ·have hr:r.length+1≤1048576:=by simpa using hs
  rw [D0,eG (by omega),r9,u9,Int.toNat_natCast,EU,G2]
  simp only [MN,ae]
  have e1:decide ((0:Int)≤(r.length:Int)∧r.length<(r++[x]).length)=true:=by simp
  have e2:decide ((0:Int)≤(r.length:Int)∧r.length≤(r++[x]).length)=true:=by simp
  have e3:decide (r.length≤(r++[x]).length)=true:=by simp
  rw [e1,e2,e3]
  cases h:cF t (r++[x]) with
  | false=>rfl
  | true=>
   obtain ⟨hm,hr',hx⟩:=fi.1 h
   have hw:=(O0 hm).work _ (wB hx.h0 hx.h1)
   have hl:=ht.kids _ (wB hx.h0 hx.h1)
   have:=hx.d0
   have:=hx.c0
   rw [if_neg (show ¬ (true=false) by simp),if_neg (show ¬ (true=false) by simp)]
   by_cases h1:x.2.1<(mu t x.1).1
   ·rw [if_pos h1,if_pos h1]
    simp only [beq_self_eq_true,cond_true]
    rw [eG (by omega)]
   ·rw [if_neg h1,if_neg h1]
    by_cases h2:x.2.2<((mu t x.1).2.length:Int)
    ·rw [if_pos h2,if_pos h2]
     simp only [Int.reduceBEq,cond_true,cond_false]
     rw [eG (by omega)]
    ·rw [if_neg h2,if_neg h2]
     rfl
theorem KF (t:Tyt) (ht:Wt t) (s:Tye) (hs:s.length≤1048576) (q:Int):cK k t s q=some (mE t s q):=by
 have hlen:=ht.len
 rw [cK,Ha _ _ (by omega),ae,HT k hk t ht s (by omega),ae,mE]
 cases h:cF t s with
 | false=>simp
 | true=>
  have h30:=G0 (kM.1 h).1
  rw [Bool.not_true,cond_false,Wb,ae,eG (by omega)]
  by_cases h0:0≤q
  ·by_cases h1:q<t.length
   ·have e2:room (s++[(q,(0:Int),(0:Int))]).length 24=true:=Hf (by simp;omega)
    rw [leT h0,leT (show q≤(t.length:Int) - 1 by omega),Bool.and_self,Bool.not_true,cond_false,e2,cond_true,if_pos ⟨rfl,h0,h1⟩]
   ·rw [leF (show (t.length:Int) - 1<q by omega),if_neg (by omega)]
    simp
  ·rw [leF (show q<0 by omega),if_neg (by omega)]
   simp
theorem Su (a b:Tye) (ha:a.length≤9223372036854775807):fM k a b=some (decide (a=b)):=by
 rw [fM,cD,Kd]
 by_cases h:a.length=b.length
 ·rw [decide_eq_true h,Bool.not_true,cond_false,aaX (F:=fun n i=>a7 k a b n i) h ?_ ?_ k (by omega),ae]
  ·intro n
   simp only [a7,uB,cond_false]
  ·intro n i x y hi hx hy
   simp only [a7,ltN hi,cond_true,eO hx,eO hy,ae,X9]
   rw [gW (by omega)]
   cases decide (x=y) <;> rfl
 ·rw [decide_eq_false h]
  have:a≠b:=fun e=>h (by rw [e])
  simp [this,ae]
end
theorem UD {t:Tyt} {q:Int} (hm:xu t=true) (h0:0≤q) (h1:q<t.length):It t (q,0,0):=
 ⟨h0,h1,by simp,((O0 hm).work _ (wB h0 h1)).1,by simp,by simp,fun _=>rfl⟩
theorem pK {t:Tyt} {r:Tye} {x:Int×Int×Int} (h:cF t (r++[x])=true):GR t (r++[x])=GR t r+Ib t x:=by
 obtain ⟨a,b,c⟩:=fi.1 h
 rw [GR,if_pos h,GR,if_pos (kM.2 ⟨a,b⟩),List.map_append,List.sum_append]
 simp
theorem KX {t:Tyt} {r:Tye} {x:Int×Int×Int} (h:cF t (r++[x])=true):cF t (doB t (r++[x]))=true∧GR t (doB t (r++[x]))=GR t (r++[x]) - 1:=by
 obtain ⟨a,b,c⟩:=fi.1 h
 obtain ⟨q0,q1,q2,q3,q4,q5,q6⟩:=c
 rw [pK h,u9,if_neg (by simp [h])]
 split
 ·rename_i h1
  have h2:cF t (r++[(x.1,x.2.1+1,x.2.2)])=true:=fi.2 ⟨a,b,⟨q0,q1,by simp only;omega,by simp only;omega,q4,q5,fun _=>q6 h1⟩⟩
  refine ⟨h2,?_⟩
  rw [pK h2]
  unfold Ib
  simp only
  omega
 ·rename_i h1
  split
  ·rename_i h3
   have h2:cF t (r++[(x.1,x.2.1,x.2.2+1)])=true:=fi.2 ⟨a,b,⟨q0,q1,q2,q3,by simp only;omega,by simp only;omega,fun h=>absurd h h1⟩⟩
   refine ⟨h2,?_⟩
   rw [pK h2]
   unfold Ib
   simp only
   omega
  ·rename_i h3
   refine ⟨kM.2 ⟨a,b⟩,?_⟩
   unfold Ib
   omega
end Go.Ab
set_option linter.unusedVariables false
namespace Go.Ab
abbrev WB:=Int×Tye×FR×Int×Int
def GT (op w v:Int):FR:=(op,0,w,v,0,0,0)
def dw (c:CF) (t:Tyt) (m:List Int) (w:Int) (x:WB):Bool:=fY c&&decide ((m.length:Int)=fw c)&&xu t&&decide (0≤w∧w<c.1∧0≤x.1∧x.1<16)&&cF t x.2.1
def GZ (d w W:Int):Int:=if W<2∨w<0∨W≤w then -1 else (w+1+d%(W - 1))%W
def toW (pc:Int) (x:WB):WB:=(pc,x.2.1,dT,x.2.2.2)
def kO (pc op w v:Int) (x:WB):WB:=(pc,x.2.1,GT op w v,x.2.2.2)
def u2:Int:=18446744073709551615
def Kk (v:Int):Int:=IntKind.i64.wrap v
abbrev WR:=List Int×WB×List EV
def Ij (c:CF) (t:Tyt) (m:List Int) (w:Int) (x:WB):WR:=
 let r:=ga c m x.2.2.1
 if fO r.2=false then (r.1,(x.1,x.2.1,r.2,x.2.2.2),[])
 else if r.2.2.2.2.2.2.2≠1 then (r.1,toW 1 x,[])
 else (r.1,(9,mE t x.2.1 (Kk r.2.2.2.2.1),dT,x.2.2.2),[(2,Kk r.2.2.2.2.1,w)])
def rT (c:CF) (m:List Int) (w:Int) (x:WB):WR:=(bH m 1 (mt (aV m 1) 1),(2,x.2.1,GT 4 w 0,c.2.2.2,x.2.2.2.2),[])
def nv (c:CF) (m:List Int) (w:Int) (x:WB) (d:Int):WR:=
 let r:=ga c m x.2.2.1
 if fO r.2=false then (r.1,(x.1,x.2.1,r.2,x.2.2.2),[])
 else if r.2.2.2.2.2.2.2=1 then (r.1,(4,x.2.1,r.2,x.2.2.2),[])
 else if x.1=2∧0≤GZ d w c.1 then (r.1,kO 3 2 (GZ d w c.1) 0 x,[])
 else if x.2.2.2.1≤0 then (r.1,kO 5 5 w 0 x,[])
 else (r.1,(2,x.2.1,GT 4 w 0,x.2.2.2.1 - 1,x.2.2.2.2),[])
def kA (t:Tyt) (m:List Int) (w:Int) (x:WB):WR:=
 (bH m 1 (mt (aV m 1) u2),(if aV m 1=1 then 14 else 9,mE t x.2.1 (Kk x.2.2.1.2.2.2.1),if aV m 1=1 then GT 6 w 0 else dT,x.2.2.2),[(2,Kk x.2.2.1.2.2.2.1,w)])
def pg (c:CF) (m:List Int) (x:WB):WR:=let r:=ga c m x.2.2.1;(r.1,(6,x.2.1,r.2,x.2.2.2),[])
def lN (m:List Int) (x:WB):WR:=(bH m 1 (mt (aV m 1) u2),(7,x.2.1,x.2.2.1,x.2.2.2.1,0),[])
def Dm (f:FR) (v:Int):FR:=(f.1,f.2.1,f.2.2.1,v,f.2.2.2.2)
def eg (c:CF) (m:List Int) (x:WB):WR:=
 let k:=x.2.2.2.2
 let most:=2+2*c.1
 let v:=(k - 2)/2
 if k<0∨most≤k then (m,(8,x.2.1,Dm x.2.2.1 0,x.2.2.2.1,0),[])
 else
  let f:=if k=0 then Dm x.2.2.1 (aV m 4) else if k=1 then x.2.2.1 else if k%2=0 then Dm x.2.2.1 (aV m (Gs c v)) else x.2.2.1
  let some:=if k=0 then false else if k=1 then decide (aV m 5≠f.2.2.2.1) else if k%2=0 then false else decide (0<Ff (aV m (GW c v)) f.2.2.2.1)
  if some=true then (m,toW 1 x,[])
  else if k+1=most then (m,(8,x.2.1,Dm f 0,x.2.2.2.1,0),[])
  else (m,(7,x.2.1,f,x.2.2.2.1,k+1),[])
def gL (c:CF) (m:List Int) (x:WB):WR:=let r:=ga c m x.2.2.1;if fO r.2=true then (r.1,toW 1 x,[]) else (r.1,(x.1,x.2.1,r.2,x.2.2.2),[])
def Jq (t:Tyt) (m:List Int) (w:Int) (x:WB):WR:=
 let a:=pj t x.2.1
 if a.1=1 then (m,(x.1,doB t x.2.1,x.2.2),[]) else if a.1=2 then (m,(10,x.2),[]) else if a.1=3 then (m,(15,x.2),[]) else (m,kO 0 1 w 0 x,[])
def o8 (t:Tyt) (m:List Int) (w:Int) (x:WB):WR:=
 let a:=pj t x.2.1
 if a.1≠2 then (m,toW 9 x,[]) else (bH m 0 (mt (aV m 0) 1),(11,doB t x.2.1,GT 0 w (IntKind.u64.wrap a.2),x.2.2.2),[(3,a.2,w)])
def pE (c:CF) (m:List Int) (w:Int) (x:WB):WR:=
 let r:=ga c m x.2.2.1
 if fO r.2=false then (r.1,(x.1,x.2.1,r.2,x.2.2.2),[]) else if r.2.2.2.2.2.2.2=2 then (r.1,kO 12 3 w r.2.2.2.2.1 x,[]) else (r.1,toW 13 x,[])
def ph (c:CF) (t:Tyt) (m:List Int) (w:Int) (x:WB):WR:=
 let r:=ga c m x.2.2.1
 if fO r.2=false then (r.1,(x.1,x.2.1,r.2,x.2.2.2),[])
 else if r.2.2.2.2.2.2.2=2 then (r.1,(9,mE t x.2.1 (Kk r.2.2.2.2.1),dT,x.2.2.2),[(2,Kk r.2.2.2.2.1,w)]) else (r.1,toW 13 x,[])
def GX (m:List Int) (w:Int) (x:WB):WR:=if aV m 1=0 then (m,kO 14 6 w 0 x,[]) else (m,toW 9 x,[])
def oS (c:CF) (m:List Int) (x:WB):WR:=let r:=ga c m x.2.2.1;if fO r.2=true then (r.1,toW 9 x,[]) else (r.1,(x.1,x.2.1,r.2,x.2.2.2),[])
def rj (t:Tyt) (m:List Int) (w:Int) (x:WB):WR:=
 let a:=pj t x.2.1
 if a.1≠3 then (m,toW 9 x,[])
 else (bH m 0 (mt (aV m 0) u2),(if doB t x.2.1=[] then (0,[],GT 1 w 0,x.2.2.2) else (9,doB t x.2.1,dT,x.2.2.2)),if aV m 0=1 then [(4,a.2,w),(5,0,w)] else [(4,a.2,w)])
def bR (c:CF) (t:Tyt) (m:List Int) (w:Int) (x:WB) (d:Int):WR:=
 if dw c t m w x=false then (m,x,[])
 else if x.1=0 then Ij c t m w x else if x.1=1 then rT c m w x else if x.1=2∨x.1=3 then nv c m w x d else if x.1=4 then kA t m w x
 else if x.1=5 then pg c m x else if x.1=6 then lN m x else if x.1=7 then eg c m x else if x.1=8 then gL c m x
 else if x.1=9 then Jq t m w x else if x.1=10 then o8 t m w x else if x.1=11 then pE c m w x else if x.1=12 then ph c t m w x
 else if x.1=13 then GX m w x else if x.1=14 then oS c m x else rj t m w x
theorem Yi {d w W:Int} (hd:0≤d∧d≤18446744073709551615) (hW:W≤8):dZ d w W=some (GZ d w W):=by
 unfold dZ GZ
 by_cases h2:W<2
 ·rw [ltT h2,cond_true,if_pos (.inl h2)]
 ·rw [ltF (by omega),cond_false]
  unfold cR
  by_cases h0:0≤w
  ·rw [leT h0,cond_true]
   by_cases h1:w<W
   ·rw [ltT h1,ae,Bool.not_true,cond_false,if_neg (by omega),ip (z:=W) (by omega) (by omega),ip (z:=W - 1) (by omega) (by omega),ip (z:=w) (by omega) (by omega),ip (z:=w+1) (by omega) (by omega),xv,decide_eq_false (by omega),Bool.not_false,cond_true,xv,decide_eq_false (by omega),Bool.not_false,cond_true,Int.tmod_eq_emod_of_nonneg hd.1]
    have e1:=Int.emod_nonneg d (show W - 1≠0 by omega)
    have e2:=Int.emod_lt_of_pos d (show 0<W - 1 by omega)
    have e3:=Int.emod_nonneg (w+1+d%(W - 1)) (show W≠0 by omega)
    have e4:=Int.emod_lt_of_pos (w+1+d%(W - 1)) (show 0<W by omega)
    rw [ip (by omega) (by omega),Int.tmod_eq_emod_of_nonneg (by omega),eG (by omega)]
   ·rw [ltF (by omega),ae,Bool.not_false,cond_true,if_pos (by omega)]
  ·rw [leF (by omega),cond_false,ae,Bool.not_false,cond_true,if_pos (by omega)]
theorem In {k:Nat} (hk:9223372036854775808≤k) (c:CF) {t:Tyt} (ht:Wt t) (m:List Int) (w:Int) (x:WB) (hs:x.2.1.length≤9000):gl k c t m w x=some (dw c t m w x):=by
 unfold gl dw
 simp only [Prod.eta,fx,Bc,ae]
 rw [SN (k+4) (by omega) t ht,HT (k+3) (by omega) t ht x.2.1 (by omega)]
 cases hm:fY c with
 | false=>rfl
 | true=>
  rw [cond_true,lb,Bool.true_and]
  by_cases h1:(m.length:Int)=fw c
  ·rw [decide_eq_true h1,cond_true,Bool.true_and,ae]
   cases ht2:xu t with
   | false=>rfl
   | true=>
    rw [cond_true,Bool.true_and]
    by_cases h2:0≤w
    ·rw [leT h2,cond_true]
     by_cases h3:w<c.1
     ·rw [ltT h3,cond_true]
      by_cases h4:0≤x.1
      ·rw [leT h4,cond_true]
       by_cases h5:x.1<16
       ·rw [ltT h5,cond_true,ae,decide_eq_true ⟨h2,h3,h4,h5⟩,Bool.true_and]
       ·rw [ltF (by omega),cond_false,decide_eq_false (by omega)];rfl
      ·rw [leF (by omega),cond_false,decide_eq_false (by omega)];rfl
     ·rw [ltF (by omega),cond_false,decide_eq_false (by omega)];rfl
    ·rw [leF (by omega),cond_false,decide_eq_false (by omega)];rfl
  ·rw [decide_eq_false h1,cond_false]
   rfl
end Go.Ab
set_option linter.unusedVariables false
set_option linter.unusedSimpArgs false
set_option maxRecDepth 100000
set_option maxHeartbeats 4000000
namespace Go.Ab
theorem b6 (op w v:Int):aF op w v=some (GT op w v):=rfl
theorem xP:room 1 24=true:=rfl
theorem XO:room 2 24=true:=rfl
theorem oz {a b:Int} (h:a=b):(a==b)=true:=by simp [h]
theorem bB {a b:Int} (h:a≠b):(a==b)=false:=by simp [h]
theorem FY (c:CF) (m:List Int) (f:FR):(Gx c m f=ga c m f∧((f.1==0)=true∨(f.1==0)=false∧((f.1==1)=true∨(f.1==1)=false∧(f.1==2)=true)))∨(BE c m f=ga c m f∧(f.1==0)=false∧(f.1==1)=false∧(f.1==2)=false∧((f.1==3)=true∨(f.1==3)=false∧(f.1==4)=true))∨(GU c m f=ga c m f∧(f.1==0)=false∧(f.1==1)=false∧(f.1==2)=false∧(f.1==3)=false∧(f.1==4)=false):=by
 unfold ga lJ
 simp only [lb,decide_eq_true_eq,decide_eq_false_iff_not]
 by_cases h:f.1=0∨f.1=1∨f.1=2
 ·rw [if_pos h];exact .inl ⟨rfl,by omega⟩
 ·rw [if_neg h]
  by_cases g:f.1=3∨f.1=4
  ·rw [if_pos g];exact .inr (.inl ⟨rfl,by omega⟩)
  ·rw [if_neg g];exact .inr (.inr ⟨rfl,by omega⟩)
section
variable {k:Nat} (hk:9223372036854779000≤k) (c:CF) {t:Tyt} (ht:Wt t) {m:List Int} (hm:Wm m) (hl:m.length≤1000) (w:Int) {x:WB} (hf:Wf x.2.2.1) (hs:x.2.1.length≤9000) (hsp:x.2.2.2.1≤9223372036854775807) {d:Int} (hd:0≤d∧d≤18446744073709551615)
include hk ht hm hl hf hs hsp hd
theorem R4 {β:Type} (K:List Int×FR→Option β):oI k c m x.2.2.1 K=K (ga c m x.2.2.1):=by
 have _h:=And.intro hsp hd
 have _h2:=And.intro ht hs
 have hdk:=Fy c hm hl hf (k+31)
 have hij:=Ae c hm hl hf
 have hev:=A3 (k:=k+40) (by omega) c hm hl hf
 unfold oI
 rcases FY c m x.2.2.1 with ⟨h,e | ⟨e,e1 | e1⟩⟩ | ⟨h,e,e1,e2,e3 | e3⟩ | ⟨h,e⟩
 all_goals simp only [*,cond_true,cond_false,ae]
theorem NU:gG k c t m w x d=some (bR c t m w x d):=by
 have _h1:=hsp
 have _h2:=hd
 unfold gG
 try simp only [Prod.eta]
 rw [bI (by omega),ae,bI (by omega),ae,In (by omega) c ht m w x hs,ae]
 cases hmay:dw c t m w x with
 | false=>
  unfold bR
  rw [hmay]
  rfl
 | true=>
  rw [Bool.not_true,cond_false]
  have hb:fY c=true∧(m.length:Int)=fw c∧0≤w∧w<c.1∧0≤x.1∧x.1<16:=by
   unfold dw at hmay
   simp only [Bool.and_eq_true,decide_eq_true_eq] at hmay
   exact ⟨hmay.1.1.1.1,hmay.1.1.1.2,hmay.1.2⟩
  obtain ⟨hmc,hlen,hw0,hw1,hp0,hp1⟩:=hb
  have hc:=du hmc
  have hsz:=wi hmc
  have hadd:∀ i v:Int,0≤i→i<2→cI m i v=some (bH m i (mt (aV m i) v),aV m i):=fun i v h0 h1=>by rw [W6 hl,if_pos (by omega)]
  have hcg:=fun K=>R4 (k:=k) (β:=List Int×WB×List EV) hk c ht hm hl hf hs hsp hd K
  have hst:=fun q=>KF (k+36) (by omega) t ht x.2.1 (by omega) q
  have hdo:=abg (k+36) (by omega) t ht x.2.1 (by omega)
  have hnx:=HM (k+37) (by omega) t ht x.2.1 (by omega)
  have hvi:=Yi (w:=w) (W:=c.1) hd (by omega)
  rcases (show x.1=0∨x.1=1∨x.1=2∨x.1=3∨x.1=4∨x.1=5∨x.1=6∨x.1=7∨x.1=8∨x.1=9∨x.1=10∨x.1=11∨x.1=12∨x.1=13∨x.1=14∨x.1=15 by omega) with hp | hp | hp | hp | hp | hp | hp | hp | hp | hp | hp | hp | hp | hp | hp | hp
  ·have hW:bR c t m w x d=Ij c t m w x:=by unfold bR;rw [hmay];simp [hp]
   rw [hW]
   rw [oz hp,cond_true]
   unfold Ij
   rw [hcg]
   simp only [cond_true,cond_false,ae,kx,Prod.eta,b6]
   generalize ga c m x.2.2.1=r
   cases ho:fO r.2 with
   | false=>simp [ho,hp]
   | true=>
    by_cases h9:r.2.2.2.2.2.2.2=1
    ·simp [ho,h9,hst,ae,xP,dT,Kk]
    ·have q9:(r.2.2.2.2.2.2.2 !=1)=true:=by simp [h9]
     simp [ho,h9,q9,toW,dT]
  ·have hW:bR c t m w x d=rT c m w x:=by unfold bR;rw [hmay];simp [hp]
   rw [hW]
   rw [bB (show x.1≠0 by omega),cond_false,oz hp,cond_true]
   rw [hadd 1 1 (by decide) (by decide),ae,b6,ae]
   rfl
  ·have hW:bR c t m w x d=nv c m w x d:=by unfold bR;rw [hmay];simp [hp]
   rw [hW]
   rw [bB (show x.1≠0 by omega),cond_false,bB (show x.1≠1 by omega),cond_false,oz hp,cond_true]
   rw [hvi,ae]
   unfold nv
   rw [hcg]
   simp only [cond_true,cond_false,ae,kx,Prod.eta,b6,oz hp]
   generalize ga c m x.2.2.1=r
   cases ho:fO r.2 with
   | false=>simp [ho,hp]
   | true=>
    by_cases h9:r.2.2.2.2.2.2.2=1
    ·simp [ho,h9]
    ·have q9:=bB h9
     by_cases h8:0≤GZ d w c.1
     ·simp [ho,h9,q9,hp,h8,kO]
     ·by_cases h7:x.2.2.2.1≤0
      ·simp [ho,h9,q9,hp,h8,h7,kO]
      ·rw [eG (z:=x.2.2.2.1 - 1) (by omega)]
       simp [ho,h9,q9,hp,h8,h7,kO]
  ·have hW:bR c t m w x d=nv c m w x d:=by unfold bR;rw [hmay];simp [hp]
   rw [hW]
   rw [bB (show x.1≠0 by omega),cond_false,bB (show x.1≠1 by omega),cond_false,bB (show x.1≠2 by omega),cond_false,oz hp,cond_true]
   rw [hvi,ae]
   unfold nv
   rw [hcg]
   simp only [cond_true,cond_false,ae,kx,Prod.eta,b6,bB (show x.1≠2 by omega)]
   generalize ga c m x.2.2.1=r
   cases ho:fO r.2 with
   | false=>simp [ho,hp]
   | true=>
    by_cases h9:r.2.2.2.2.2.2.2=1
    ·simp [ho,h9]
    ·have q9:=bB h9
     by_cases h7:x.2.2.2.1≤0
     ·simp [ho,h9,q9,hp,h7,kO]
     ·rw [eG (z:=x.2.2.2.1 - 1) (by omega)]
      simp [ho,h9,q9,hp,h7,kO]
  ·have hW:bR c t m w x d=kA t m w x:=by unfold bR;rw [hmay];simp [hp]
   rw [hW]
   rw [bB (show x.1≠0 by omega),cond_false,bB (show x.1≠1 by omega),cond_false,bB (show x.1≠2 by omega),cond_false,bB (show x.1≠3 by omega),cond_false,oz hp,cond_true]
   rw [hadd 1 _ (by decide) (by decide),ae,b6,ae,hst,ae,ae,xP,cond_true,cond_true,lb]
   by_cases h9:aV m 1=1
   ·simp [kA,h9,u2,Kk]
   ·simp [kA,h9,u2,Kk,dT]
  ·have hW:bR c t m w x d=pg c m x:=by unfold bR;rw [hmay];simp [hp]
   rw [hW]
   rw [bB (show x.1≠0 by omega),cond_false,bB (show x.1≠1 by omega),cond_false,bB (show x.1≠2 by omega),cond_false,bB (show x.1≠3 by omega),cond_false,bB (show x.1≠4 by omega),cond_false,oz hp,cond_true]
   unfold pg
   rw [hcg]
   simp only [cond_true,cond_false,ae,kx,Prod.eta,b6]
  ·have hW:bR c t m w x d=lN m x:=by unfold bR;rw [hmay];simp [hp]
   rw [hW]
   rw [bB (show x.1≠0 by omega),cond_false,bB (show x.1≠1 by omega),cond_false,bB (show x.1≠2 by omega),cond_false,bB (show x.1≠3 by omega),cond_false,bB (show x.1≠4 by omega),cond_false,bB (show x.1≠5 by omega),cond_false,oz hp,cond_true]
   rw [hadd 1 _ (by decide) (by decide),ae]
   rfl
  ·have hW:bR c t m w x d=eg c m x:=by unfold bR;rw [hmay];simp [hp]
   rw [hW]
   rw [bB (show x.1≠0 by omega),cond_false,bB (show x.1≠1 by omega),cond_false,bB (show x.1≠2 by omega),cond_false,bB (show x.1≠3 by omega),cond_false,bB (show x.1≠4 by omega),cond_false,bB (show x.1≠5 by omega),cond_false,bB (show x.1≠6 by omega),cond_false,oz hp,cond_true]
   have hM:IntKind.i64.wrap (2+IntKind.i64.wrap (2*c.1))=2+2*c.1:=by rw [eG (z:=2*c.1) (by omega),eG (by omega)]
   rw [hM]
   by_cases h1:x.2.2.2.2<0
   ·rw [ltT h1,cond_true]
    simp only [eg,if_pos (show x.2.2.2.2<0∨2+2*c.1≤x.2.2.2.2 from .inl h1),Dm]
   ·rw [ltF (by omega),cond_false]
    by_cases h2:2+2*c.1≤x.2.2.2.2
    ·rw [leT h2,cond_true]
     simp only [eg,if_pos (show x.2.2.2.2<0∨2+2*c.1≤x.2.2.2.2 from .inr h2),Dm]
    ·rw [leF (by omega),cond_false,eG (z:=x.2.2.2.2+1) (by omega)]
     have hn:¬ (x.2.2.2.2<0∨2+2*c.1≤x.2.2.2.2):=by omega
     by_cases e0:x.2.2.2.2=0
     ·rw [oz e0,cond_true,dW,ae]
      by_cases h5:x.2.2.2.2+1=2+2*c.1
      ·rw [oz h5,cond_true]
       simp only [eg,if_neg hn,if_pos e0,Bool.false_eq_true,if_false,if_pos h5,Dm]
      ·rw [bB h5,cond_false]
       simp only [eg,if_neg hn,if_pos e0,Bool.false_eq_true,if_false,if_neg h5,Dm,hp]
     ·rw [bB e0,cond_false]
      by_cases e1:x.2.2.2.2=1
      ·rw [oz e1,cond_true,dW,ae,xv]
       by_cases h9:aV m 5=x.2.2.1.2.2.2.1
       ·rw [decide_eq_true h9,Bool.not_true,cond_false]
        skip
        by_cases h5:x.2.2.2.2+1=2+2*c.1
        ·rw [oz h5,cond_true]
         simp only [eg,if_neg hn,if_neg e0,if_pos e1,h9,ne_eq,not_true_eq_false,decide_false,Bool.false_eq_true,if_false,if_pos h5,Dm]
        ·rw [bB h5,cond_false]
         simp only [eg,if_neg hn,if_neg e0,if_pos e1,h9,ne_eq,not_true_eq_false,decide_false,Bool.false_eq_true,if_false,if_neg h5,Dm,hp]
       ·rw [decide_eq_false h9,Bool.not_false,cond_true]
        simp only [eg,if_neg hn,if_neg e0,if_pos e1,h9,ne_eq,not_false_eq_true,decide_true,if_true,toW,dT]
      ·rw [bB e1,cond_false,Int.tmod_eq_emod_of_nonneg (by omega),eG (z:=x.2.2.2.2 - 2) (by omega),Int.tdiv_eq_ediv_of_nonneg (by omega),eG (z:=(x.2.2.2.2 - 2)/2) (by omega)]
       by_cases e2:x.2.2.2.2%2=0
       ·rw [oz e2,cond_true,Lt,ae,dW,ae]
        skip
        by_cases h5:x.2.2.2.2+1=2+2*c.1
        ·rw [oz h5,cond_true]
         simp only [eg,if_neg hn,if_neg e0,if_neg e1,if_pos e2,Bool.false_eq_true,if_false,if_pos h5,Dm]
        ·rw [bB h5,cond_false]
         simp only [eg,if_neg hn,if_neg e0,if_neg e1,if_pos e2,Bool.false_eq_true,if_false,if_neg h5,Dm,hp]
       ·rw [bB e2,cond_false,Hc,ae,dW,ae,Ki,ae]
        by_cases h9:0<Ff (aV m (GW c ((x.2.2.2.2 - 2)/2))) x.2.2.1.2.2.2.1
        ·rw [ltT h9,cond_true]
         simp only [eg,if_neg hn,if_neg e0,if_neg e1,if_neg e2,h9,decide_true,if_true,toW,dT]
        ·rw [ltF (by omega),cond_false]
         skip
         by_cases h5:x.2.2.2.2+1=2+2*c.1
         ·rw [oz h5,cond_true]
          simp only [eg,if_neg hn,if_neg e0,if_neg e1,if_neg e2,h9,decide_false,Bool.false_eq_true,if_false,if_pos h5,Dm]
         ·rw [bB h5,cond_false]
          simp only [eg,if_neg hn,if_neg e0,if_neg e1,if_neg e2,h9,decide_false,Bool.false_eq_true,if_false,if_neg h5,Dm,hp]
  ·have hW:bR c t m w x d=gL c m x:=by unfold bR;rw [hmay];simp [hp]
   rw [hW]
   rw [bB (show x.1≠0 by omega),cond_false,bB (show x.1≠1 by omega),cond_false,bB (show x.1≠2 by omega),cond_false,bB (show x.1≠3 by omega),cond_false,bB (show x.1≠4 by omega),cond_false,bB (show x.1≠5 by omega),cond_false,bB (show x.1≠6 by omega),cond_false,bB (show x.1≠7 by omega),cond_false,oz hp,cond_true]
   unfold gL
   rw [hcg]
   simp only [cond_true,cond_false,ae,kx,Prod.eta,b6]
   generalize ga c m x.2.2.1=r
   cases ho:fO r.2 <;> simp [ho,hp,toW,dT]
  ·have hW:bR c t m w x d=Jq t m w x:=by unfold bR;rw [hmay];simp [hp]
   rw [hW]
   rw [bB (show x.1≠0 by omega),cond_false,bB (show x.1≠1 by omega),cond_false,bB (show x.1≠2 by omega),cond_false,bB (show x.1≠3 by omega),cond_false,bB (show x.1≠4 by omega),cond_false,bB (show x.1≠5 by omega),cond_false,bB (show x.1≠6 by omega),cond_false,bB (show x.1≠7 by omega),cond_false,bB (show x.1≠8 by omega),cond_false,oz hp,cond_true]
   rw [hnx,ae,lb,lb,lb,hdo,ae,b6,ae]
   unfold Jq
   by_cases h1:(pj t x.2.1).1=1
   ·simp [h1,hp]
   ·by_cases h2:(pj t x.2.1).1=2
    ·simp [h2]
    ·by_cases h3:(pj t x.2.1).1=3
     ·simp [h3]
     ·simp [h1,h2,h3,kO]
  ·have hW:bR c t m w x d=o8 t m w x:=by unfold bR;rw [hmay];simp [hp]
   rw [hW]
   rw [bB (show x.1≠0 by omega),cond_false,bB (show x.1≠1 by omega),cond_false,bB (show x.1≠2 by omega),cond_false,bB (show x.1≠3 by omega),cond_false,bB (show x.1≠4 by omega),cond_false,bB (show x.1≠5 by omega),cond_false,bB (show x.1≠6 by omega),cond_false,bB (show x.1≠7 by omega),cond_false,bB (show x.1≠8 by omega),cond_false,bB (show x.1≠9 by omega),cond_false,oz hp,cond_true]
   rw [hnx,ae,xv,hadd 0 _ (by decide) (by decide),ae,xP,cond_true,hdo,ae,b6,ae]
   unfold o8
   by_cases h2:(pj t x.2.1).1=2
   ·simp [h2]
   ·simp [h2,toW,dT]
  ·have hW:bR c t m w x d=pE c m w x:=by unfold bR;rw [hmay];simp [hp]
   rw [hW]
   rw [bB (show x.1≠0 by omega),cond_false,bB (show x.1≠1 by omega),cond_false,bB (show x.1≠2 by omega),cond_false,bB (show x.1≠3 by omega),cond_false,bB (show x.1≠4 by omega),cond_false,bB (show x.1≠5 by omega),cond_false,bB (show x.1≠6 by omega),cond_false,bB (show x.1≠7 by omega),cond_false,bB (show x.1≠8 by omega),cond_false,bB (show x.1≠9 by omega),cond_false,bB (show x.1≠10 by omega),cond_false,oz hp,cond_true]
   unfold pE
   rw [hcg]
   simp only [cond_true,cond_false,ae,kx,Prod.eta,b6]
   generalize ga c m x.2.2.1=r
   cases ho:fO r.2 with
   | false=>simp [ho,hp]
   | true=>
    by_cases h9:r.2.2.2.2.2.2.2=2
    ·simp [ho,h9,kO]
    ·have q9:=bB h9
     simp [ho,h9,q9,toW,dT]
  ·have hW:bR c t m w x d=ph c t m w x:=by unfold bR;rw [hmay];simp [hp]
   rw [hW]
   rw [bB (show x.1≠0 by omega),cond_false,bB (show x.1≠1 by omega),cond_false,bB (show x.1≠2 by omega),cond_false,bB (show x.1≠3 by omega),cond_false,bB (show x.1≠4 by omega),cond_false,bB (show x.1≠5 by omega),cond_false,bB (show x.1≠6 by omega),cond_false,bB (show x.1≠7 by omega),cond_false,bB (show x.1≠8 by omega),cond_false,bB (show x.1≠9 by omega),cond_false,bB (show x.1≠10 by omega),cond_false,bB (show x.1≠11 by omega),cond_false,oz hp,cond_true]
   unfold ph
   rw [hcg]
   simp only [cond_true,cond_false,ae,kx,Prod.eta,b6]
   generalize ga c m x.2.2.1=r
   cases ho:fO r.2 with
   | false=>simp [ho,hp]
   | true=>
    by_cases h9:r.2.2.2.2.2.2.2=2
    ·simp [ho,h9,hst,ae,xP,dT,Kk]
    ·have q9:=bB h9
     simp [ho,h9,q9,toW,dT]
  ·have hW:bR c t m w x d=GX m w x:=by unfold bR;rw [hmay];simp [hp]
   rw [hW]
   rw [bB (show x.1≠0 by omega),cond_false,bB (show x.1≠1 by omega),cond_false,bB (show x.1≠2 by omega),cond_false,bB (show x.1≠3 by omega),cond_false,bB (show x.1≠4 by omega),cond_false,bB (show x.1≠5 by omega),cond_false,bB (show x.1≠6 by omega),cond_false,bB (show x.1≠7 by omega),cond_false,bB (show x.1≠8 by omega),cond_false,bB (show x.1≠9 by omega),cond_false,bB (show x.1≠10 by omega),cond_false,bB (show x.1≠11 by omega),cond_false,bB (show x.1≠12 by omega),cond_false,oz hp,cond_true]
   rw [dW,ae,lb,b6,ae]
   by_cases h9:aV m 1=0
   ·simp [GX,h9,kO]
   ·simp [GX,h9,toW,dT]
  ·have hW:bR c t m w x d=oS c m x:=by unfold bR;rw [hmay];simp [hp]
   rw [hW]
   rw [bB (show x.1≠0 by omega),cond_false,bB (show x.1≠1 by omega),cond_false,bB (show x.1≠2 by omega),cond_false,bB (show x.1≠3 by omega),cond_false,bB (show x.1≠4 by omega),cond_false,bB (show x.1≠5 by omega),cond_false,bB (show x.1≠6 by omega),cond_false,bB (show x.1≠7 by omega),cond_false,bB (show x.1≠8 by omega),cond_false,bB (show x.1≠9 by omega),cond_false,bB (show x.1≠10 by omega),cond_false,bB (show x.1≠11 by omega),cond_false,bB (show x.1≠12 by omega),cond_false,bB (show x.1≠13 by omega),cond_false,oz hp,cond_true]
   unfold oS
   rw [hcg]
   simp only [cond_true,cond_false,ae,kx,Prod.eta,b6]
   generalize ga c m x.2.2.1=r
   cases ho:fO r.2 <;> simp [ho,hp,toW,dT]
  ·have hW:bR c t m w x d=rj t m w x:=by unfold bR;rw [hmay];simp [hp]
   rw [hW]
   rw [bB (show x.1≠0 by omega),cond_false,bB (show x.1≠1 by omega),cond_false,bB (show x.1≠2 by omega),cond_false,bB (show x.1≠3 by omega),cond_false,bB (show x.1≠4 by omega),cond_false,bB (show x.1≠5 by omega),cond_false,bB (show x.1≠6 by omega),cond_false,bB (show x.1≠7 by omega),cond_false,bB (show x.1≠8 by omega),cond_false,bB (show x.1≠9 by omega),cond_false,bB (show x.1≠10 by omega),cond_false,bB (show x.1≠11 by omega),cond_false,bB (show x.1≠12 by omega),cond_false,bB (show x.1≠13 by omega),cond_false,bB (show x.1≠14 by omega),cond_false,oz hp,cond_true]
   simp only [hnx,ae,xv,hadd 0 _ (by decide) (by decide),xP,XO,cond_true,hdo,b6,lb]
   unfold rj
   by_cases h3:(pj t x.2.1).1=3
   ·by_cases h1:aV m 0=1
    ·by_cases h2:doB t x.2.1=[]
     ·simp [h3,h1,h2,u2]
     ·have h4:¬ (((doB t x.2.1).length:Int)=0):=by simp [h2]
      simp [h3,h1,h2,h4,u2,dT]
    ·by_cases h2:doB t x.2.1=[]
     ·simp [h3,h1,h2,u2]
     ·have h4:¬ (((doB t x.2.1).length:Int)=0):=by simp [h2]
      simp [h3,h1,h2,h4,u2,dT]
   ·simp [h3,toW,dT]
end
end Go.Ab
set_option linter.unusedVariables false
namespace Go.Ab
theorem ks {c:CF} {t:Tyt} {m:List Int} {w:Int} {x:WB} {d:Int} {P:WR→Prop} (hs:dw c t m w x=false→P (m,x,[])) (p0:dw c t m w x=true→x.1=0→P (Ij c t m w x)) (p1:dw c t m w x=true→x.1=1→P (rT c m w x)) (p2:dw c t m w x=true→x.1=2∨x.1=3→P (nv c m w x d)) (p4:dw c t m w x=true→x.1=4→P (kA t m w x)) (p5:dw c t m w x=true→x.1=5→P (pg c m x)) (p6:dw c t m w x=true→x.1=6→P (lN m x)) (p7:dw c t m w x=true→x.1=7→P (eg c m x)) (p8:dw c t m w x=true→x.1=8→P (gL c m x)) (p9:dw c t m w x=true→x.1=9→P (Jq t m w x)) (p10:dw c t m w x=true→x.1=10→P (o8 t m w x)) (p11:dw c t m w x=true→x.1=11→P (pE c m w x)) (p12:dw c t m w x=true→x.1=12→P (ph c t m w x)) (p13:dw c t m w x=true→x.1=13→P (GX m w x)) (p14:dw c t m w x=true→x.1=14→P (oS c m x)) (p15:dw c t m w x=true→x.1=15→P (rj t m w x)):P (bR c t m w x d):=by
 unfold bR
 by_cases hm:dw c t m w x=false
 ·rw [if_pos hm];exact hs hm
 rw [if_neg hm]
 have hm':dw c t m w x=true:=by simpa using hm
 have hb:0≤x.1∧x.1<16:=by
  unfold dw at hm'
  simp only [Bool.and_eq_true,decide_eq_true_eq] at hm'
  exact hm'.1.2.2.2
 by_cases e0:x.1=0
 ·rw [if_pos e0];exact p0 hm' e0
 rw [if_neg e0]
 by_cases e1:x.1=1
 ·rw [if_pos e1];exact p1 hm' e1
 rw [if_neg e1]
 by_cases e2:x.1=2∨x.1=3
 ·rw [if_pos e2];exact p2 hm' e2
 rw [if_neg e2]
 by_cases e4:x.1=4
 ·rw [if_pos e4];exact p4 hm' e4
 rw [if_neg e4]
 by_cases e5:x.1=5
 ·rw [if_pos e5];exact p5 hm' e5
 rw [if_neg e5]
 by_cases e6:x.1=6
 ·rw [if_pos e6];exact p6 hm' e6
 rw [if_neg e6]
 by_cases e7:x.1=7
 ·rw [if_pos e7];exact p7 hm' e7
 rw [if_neg e7]
 by_cases e8:x.1=8
 ·rw [if_pos e8];exact p8 hm' e8
 rw [if_neg e8]
 by_cases e9:x.1=9
 ·rw [if_pos e9];exact p9 hm' e9
 rw [if_neg e9]
 by_cases e10:x.1=10
 ·rw [if_pos e10];exact p10 hm' e10
 rw [if_neg e10]
 by_cases e11:x.1=11
 ·rw [if_pos e11];exact p11 hm' e11
 rw [if_neg e11]
 by_cases e12:x.1=12
 ·rw [if_pos e12];exact p12 hm' e12
 rw [if_neg e12]
 by_cases e13:x.1=13
 ·rw [if_pos e13];exact p13 hm' e13
 rw [if_neg e13]
 by_cases e14:x.1=14
 ·rw [if_pos e14];exact p14 hm' e14
 rw [if_neg e14]
 exact p15 hm' (by omega)
end Go.Ab
set_option linter.unusedVariables false
namespace Go.Ab
theorem KJ (c:CF) (m:List Int) (f:FR):One m (xB c m f).1:=by
 unfold xB
 repeat' split
 all_goals first | exact One.same m | exact One.store m _ _ | exact One.cas m _ _ _
theorem SD (c:CF) (m:List Int) (f:FR):One m (Oh c m f).1:=by
 unfold Oh
 repeat' split
 all_goals first | exact One.same m | exact One.store m _ _ | exact One.cas m _ _ _
theorem H7 (c:CF) (m:List Int) (f:FR):One m (n9 c m f).1:=by
 unfold n9
 dsimp only
 repeat' split
 all_goals first | exact One.same m | exact One.store m _ _ | exact One.cas m _ _ _
theorem HX (c:CF) (m:List Int) (f:FR):One m (ga c m f).1:=by
 unfold ga Gx
 repeat' split
 all_goals first | exact One.same m | exact KJ c m f | exact SD c m f | exact H7 c m f | exact D1 c m f
section
variable {c:CF} {t:Tyt} {m:List Int} {w:Int} {x:WB} {d:Int}
theorem wv:One m (bR c t m w x d).1:=by
 refine ks (P:=fun r=>One m r.1) (fun _=>One.same m) ?_ ?_ ?_ ?_ ?_ ?_ ?_ ?_ ?_ ?_ ?_ ?_ ?_ ?_ ?_
 all_goals intro _ _
 all_goals dsimp only [Ij,rT,nv,kA,pg,lN,eg,gL,Jq,o8,pE,ph,GX,oS,rj]
 all_goals repeat' split
 all_goals (try dsimp only)
 all_goals first | exact One.same m | exact One.store m _ _ | exact HX c m _
theorem MV:(bR c t m w x d).2.2.length≤2:=by
 refine ks (P:=fun r=>r.2.2.length≤2) (fun _=>Nat.zero_le _) ?_ ?_ ?_ ?_ ?_ ?_ ?_ ?_ ?_ ?_ ?_ ?_ ?_ ?_ ?_
 all_goals intro _ _
 all_goals dsimp only [Ij,rT,nv,kA,pg,lN,eg,gL,Jq,o8,pE,ph,GX,oS,rj]
 all_goals repeat' split
 all_goals simp
theorem J0:(bR c t m w x d).2.1.2.1.length≤x.2.1.length+1:=by
 have h1:=fun q=>Gm t x.2.1 q
 have h2:=TH t x.2.1
 refine ks (P:=fun r=>r.2.1.2.1.length≤x.2.1.length+1) (fun _=>Nat.le_succ _) ?_ ?_ ?_ ?_ ?_ ?_ ?_ ?_ ?_ ?_ ?_ ?_ ?_ ?_ ?_
 all_goals intro _ _
 all_goals dsimp only [Ij,rT,nv,kA,pg,lN,eg,gL,Jq,o8,pE,ph,GX,oS,rj,toW,kO]
 all_goals repeat' split
 all_goals first | exact Nat.le_succ _ | exact h1 _ | (dsimp only;omega) | simp
theorem DI {s:Tye} (h:cF t s=true) (q:Int):cF t (mE t s q)=true:=by
 unfold mE
 split
 ·rename_i g
  have:=kM.1 h
  exact fi.2 ⟨this.1,this.2,UD this.1 g.2.1 g.2.2⟩
 ·exact h
theorem Sn {s:Tye} (h:cF t s=true):cF t (doB t s)=true:=by
 rcases lA s with rfl | ⟨r,y,rfl⟩
 ·exact h
 ·exact (KX h).1
theorem JU (h:dw c t m w x=true):fY c=true∧(m.length:Int)=fw c∧xu t=true∧(0≤w∧w<c.1∧0≤x.1∧x.1<16)∧cF t x.2.1=true:=by
 unfold dw at h
 simp only [Bool.and_eq_true,decide_eq_true_eq] at h
 exact ⟨h.1.1.1.1,h.1.1.1.2,h.1.1.2,h.1.2,h.2⟩
theorem Sj (h1:fY c=true) (h2:(m.length:Int)=fw c) (h3:xu t=true) (h4:0≤w∧w<c.1∧0≤x.1∧x.1<16) (h5:cF t x.2.1=true):dw c t m w x=true:=by
 unfold dw
 rw [h1,h3,h5,decide_eq_true h2,decide_eq_true h4]
 rfl
theorem KK (h:dw c t m w x=true):dw c t (bR c t m w x d).1 w (bR c t m w x d).2.1=true:=by
 obtain ⟨h1,h2,h3,h4,h5⟩:=JU h
 have hl:=(wv (c:=c) (t:=t) (m:=m) (w:=w) (x:=x) (d:=d)).len
 have key:0≤(bR c t m w x d).2.1.1∧(bR c t m w x d).2.1.1<16∧cF t (bR c t m w x d).2.1.2.1=true:=by
  have g1:=DI h5
  have g2:=Sn h5
  have g3:cF t []=true:=kM.2 ⟨h3,fun y hy=>absurd hy (by simp)⟩
  refine ks (P:=fun r=>0≤r.2.1.1∧r.2.1.1<16∧cF t r.2.1.2.1=true) (fun _=>⟨h4.2.2.1,h4.2.2.2,h5⟩) ?_ ?_ ?_ ?_ ?_ ?_ ?_ ?_ ?_ ?_ ?_ ?_ ?_ ?_ ?_
  all_goals intro _ _
  all_goals dsimp only [Ij,rT,nv,kA,pg,lN,eg,gL,Jq,o8,pE,ph,GX,oS,rj,toW,kO]
  all_goals repeat' split
  all_goals refine ⟨?_,?_,?_⟩
  all_goals (try dsimp only)
  all_goals first | omega | exact h5 | exact g1 _ | exact g2 | exact g3
 exact Sj h1 (by rw [hl];exact h2) h3 ⟨h4.1,h4.2.1,key.1,key.2.1⟩ key.2.2
end
theorem LA {k:Nat} (hk:9223372036854775808≤k) (x y:WB) (h:x.2.1.length≤9000):∃ b,gU k x y=some b∧(b=true↔x=y):=by
 obtain ⟨a0,sa,⟨f0,f1,f2,f3,f4,f5,f6⟩,a3,a4⟩:=x
 obtain ⟨b0,sb,⟨g0,g1,g2,g3,g4,g5,g6⟩,b3,b4⟩:=y
 unfold gU
 dsimp only at h ⊢
 rw [Su k hk sa sb (by omega),ae]
 simp only [Prod.mk.injEq,Bool.cond_eq_ite,Bool.and_eq_true,beq_iff_eq]
 repeat' split
 all_goals refine ⟨_,rfl,?_⟩
 all_goals simp_all
end Go.Ab
set_option linter.unusedVariables false
namespace Go.Ab
section
variable {c:CF} {m:List Int} {f:FR} {j:Int} (hj:j=0∨j=1∨j=3)
include hj
section
variable (hf:Wf f)
include hf
end
end
section
variable {c:CF} {t:Tyt} {m:List Int} {w:Int} {x:WB} {d:Int}
end
end Go.Ab
set_option linter.unusedVariables false
namespace Go.Ab
theorem Ed {c:CF} {m:List Int} {f:FR} (hm:Wm m) (hf:Wf f):Wm (xe c m f).1∧Wf (xe c m f).2∧(xe c m f).1.length=m.length:=by
 have hr:=db hm 2
 obtain ⟨w3,w4,w5⟩:=hf
 have hk4:=Et w4.1
 have hk5:=Et w5.1
 have hc5:=Hg hk5.1 hk5.2
 unfold xe
 split
 ·exact ⟨hm,⟨w3,w4,w5⟩,rfl⟩
 ·split
  ·exact ⟨hm,⟨w3,hr,w5⟩,rfl⟩
  ·split
   ·split
    ·refine ⟨hm.set 2 ?_ ?_,?_,(by simp only [];exact fC)⟩
     ·split
      ·exact (oF _ _).1
      ·exact (oF _ _).1
     ·split
      ·exact (oF _ _).2
      ·exact (oF _ _).2
     ·have hl:=Je (mkB f.2.2.2.2.1)
      simp only []
      by_cases hz:mkB f.2.2.2.2.1=0
      ·rw [if_pos hz]
       exact ⟨by simp [dM],by simp [dM],by simp [dM]⟩
      ·rw [if_neg hz]
       refine ⟨w3,w4,?_⟩
       simp only
       split
       ·split <;> omega
       ·omega
    ·exact ⟨hm,⟨w3,w4,w5⟩,rfl⟩
   ·split
    ·exact ⟨hm.set _ (by decide) (by decide),⟨w5,by simp [dM],by simp [dM]⟩,(by simp only [];exact fC)⟩
    ·refine ⟨hm.set _ (by decide) (by decide),?_,(by simp only [];exact fC)⟩
     split
     ·exact ⟨by simp [dM];omega,by simp [dM],by simp [dM]⟩
     ·exact ⟨w3,w4,by simp only;omega⟩
theorem QP {c:CF} {m:List Int} {f:FR} (hm:Wm m) (hf:Wf f):Wm (AE c m f).1∧Wf (AE c m f).2:=by
 have hr:=db hm 2
 obtain ⟨w3,w4,w5⟩:=hf
 have hs:=Ti (w:=f.2.2.1) w5.1 w5.2
 unfold AE
 dsimp only
 split
 ·exact ⟨hm,w3,w4,w5⟩
 ·split
  ·exact ⟨hm,w3,hr,w5⟩
  ·split
   ·split
    ·exact ⟨hm,w3,w4,hr⟩
    ·exact ⟨hm,by simp [dM,Wf]⟩
   ·split
    ·exact ⟨hm.cas _ _ hs.1 hs.2,w3,w4,w5⟩
    ·split
     ·exact ⟨hm,w3,w4,db hm _⟩
     ·exact ⟨hm.set _ (by decide) (by decide),by simp [dM,Wf]⟩
theorem Wx {c:CF} {m:List Int} {f:FR} (hm:Wm m) (hf:Wf f):Wm (OG c m f).1∧Wf (OG c m f).2:=by
 obtain ⟨w3,w4,w5⟩:=hf
 have ha:=eS f.2.2.2.2.1 1
 have hb:=eS (BC c f.2.2.2.2.1) 1
 unfold OG
 dsimp only
 split
 ·exact ⟨hm,w3,w4,w5⟩
 ·split
  ·exact ⟨hm,w3,db hm 5,w5⟩
  ·split
   ·split
    ·exact ⟨hm,w3,w4,db hm _⟩
    ·split
     ·exact ⟨hm,w3,by simp [dM],by simp [dM]⟩
     ·exact ⟨hm,w3,w4,db hm _⟩
   ·split
    ·exact ⟨hm.cas _ _ ha.1 ha.2,w3,w4,w5⟩
    ·split
     ·exact ⟨hm.set _ w3.1 w3.2,w3,w4,w5⟩
     ·exact ⟨hm.set _ hb.1 hb.2,w3,by simp [dM],by simp [dM]⟩
theorem YX {c:CF} {m:List Int} {f:FR} (hm:Wm m) (hf:Wf f):Wm (PF c m f).1∧Wf (PF c m f).2:=by
 obtain ⟨w3,w4,w5⟩:=hf
 have ha:=eS f.2.2.2.2.1 1
 have hb:=eS (Ai c f.2.2.2.2.1) 1
 unfold PF
 dsimp only
 split
 ·exact ⟨hm,w3,w4,w5⟩
 ·split
  ·exact ⟨hm,w3,db hm 4,w5⟩
  ·split
   ·split
    ·exact ⟨hm,w3,w4,db hm _⟩
    ·split
     ·exact ⟨hm,by simp [dM],by simp [dM],by simp [dM]⟩
     ·exact ⟨hm,w3,w4,db hm _⟩
   ·split
    ·exact ⟨hm.cas _ _ ha.1 ha.2,w3,w4,w5⟩
    ·split
     ·exact ⟨hm,db hm _,w4,w5⟩
     ·exact ⟨hm.set _ hb.1 hb.2,w3,by simp [dM],by simp [dM]⟩
theorem IM {c:CF} {m:List Int} {f:FR} (hm:Wm m) (hf:Wf f):Wm (lJ c m f).1∧Wf (lJ c m f).2:=by
 unfold lJ BE GU
 repeat' split
 all_goals first | exact Wx hm hf | exact YX hm hf | exact QP hm hf | exact ⟨(Ed hm hf).1,(Ed hm hf).2.1⟩ | exact ⟨hm,hf⟩
theorem Om {c:CF} {t:Tyt} {m:List Int} {i:Int} {x:SB} (hm:Wm m) (hf:Wf x.2.2) (ht:t.length≤1000):Wm (ms c t m i x).1∧Wf (ms c t m i x).2.1.2.2:=by
 have hc:=IM (c:=c) hm hf
 have hz:Wf dT:=by simp [Wf,dT]
 have h1:=eS (aV m 0) 1
 have h2:=eS (aV m 0) 18446744073709551615
 cases hmay:pU c t m x with
 | false=>
  have e:ms c t m i x=(m,x,[]):=by unfold ms;rw [hmay,if_pos rfl]
  rw [e]
  exact ⟨hm,hf⟩
 | true=>
  obtain ⟨_,_,_,_,_,r,rest,hx,h6,h7⟩:=Cv hmay
  have hh:rB x.2.1=r:=by rw [hx];rfl
  unfold ms
  rw [hmay,if_neg (by simp),hh]
  dsimp only
  have h3:Wf (3,0,i,r,0,0,0):=⟨⟨h6,by simp only;omega⟩,by simp,by simp⟩
  have h4:Wf (6,0,i,0,0,0,0):=by simp [Wf]
  repeat' split
  all_goals first | exact ⟨hm,hf⟩ | exact ⟨hm,hz⟩ | exact ⟨hm,h4⟩ | exact ⟨hm.set 0 h1.1 h1.2,h3⟩ | exact hc | exact ⟨hc.1,hz⟩ | exact ⟨hm.set 0 h2.1 h2.2,hz⟩
end Go.Ab
set_option linter.unusedVariables false
namespace Go.Ab
abbrev PB:=CF×Tyt×List Int×List WB×List SB
abbrev PK:=Int×Int×Int
def rJ (t:Tyt) (x:SB):Bool:=decide (0≤x.1∧x.1<6)&&x.2.1.all (fun r=>decide (0≤r∧r<t.length))&&(decide (x.1=0)||decide (x.2.1≠[]))
def AQ (c:CF) (t:Tyt) (m:List Int):Nat→List WB→Bool
 | _,[]=>true
 | i,x::l=>dw c t m i x&&AQ c t m (i+1) l
def gY (p:PB):Bool:=fY p.1&&decide ((p.2.2.2.1.length:Int)=p.1.1∧p.2.2.2.2.length≤3)&&AQ p.1 p.2.1 p.2.2.1 0 p.2.2.2.1&&p.2.2.2.2.all (rJ p.2.1)
def AY (k:PK) (w s:Int):Bool:=decide (k.1=0∧0≤k.2.1∧k.2.1<w∨k.1=1∧0≤k.2.1∧k.2.1<s∨k.1=2∨k.1=3)
def eW (p:PB) (k:PK):PB×List EV:=
 if k.1=0 then match p.2.2.2.1[k.2.1.toNat]? with
  | some x=>((p.1,p.2.1,(bR p.1 p.2.1 p.2.2.1 k.2.1 x k.2.2).1,p.2.2.2.1.set k.2.1.toNat (bR p.1 p.2.1 p.2.2.1 k.2.1 x k.2.2).2.1,p.2.2.2.2),(bR p.1 p.2.1 p.2.2.1 k.2.1 x k.2.2).2.2)
  | none=>(p,[])
 else if k.1=1 then match p.2.2.2.2[k.2.1.toNat]? with
  | some x=>if pU p.1 p.2.1 p.2.2.1 x=true then ((p.1,p.2.1,(ms p.1 p.2.1 p.2.2.1 k.2.1 x).1,p.2.2.2.1,p.2.2.2.2.set k.2.1.toNat (ms p.1 p.2.1 p.2.2.1 k.2.1 x).2.1),(ms p.1 p.2.1 p.2.2.1 k.2.1 x).2.2) else (p,[])
  | none=>(p,[])
 else if k.1=2 then ((p.1,p.2.1,bH p.2.2.1 3 1,p.2.2.2.1,p.2.2.2.2),[])
 else (p,[])
def lG (p:PB):List PK→PB×List EV
 | []=>(p,[])
 | k::l=>if AY k p.1.1 p.2.2.2.2.length=true then ((lG (eW p k).1 l).1,(eW p k).2++(lG (eW p k).1 l).2) else lG p l
def n8 (p:PB) (l:List PK):PB×List EV:=if gY p=true then lG p l else (p,[])
theorem Td {c:CF} {m:List Int} {f:FR} (hm:Wm m) (hf:Wf f):Wm (xB c m f).1∧Wf (xB c m f).2:=by
 have hl:=fun i=>db hm i
 obtain ⟨w3,w4,w5⟩:=hf
 have ha:=eS f.2.2.2.2.1 1
 unfold xB
 repeat' split
 ·exact ⟨hm,w3,w4,w5⟩
 ·exact ⟨hm,w3,hl _,w5⟩
 ·exact ⟨hm,w3,by simp [dM],by simp [dM]⟩
 ·exact ⟨hm,w3,w4,hl _⟩
 ·exact ⟨hm.set _ w3.1 w3.2,w3,w4,w5⟩
 ·exact ⟨hm.set _ ha.1 ha.2,w3,by simp [dM],by simp [dM]⟩
theorem VD {c:CF} {m:List Int} {f:FR} (hm:Wm m) (hf:Wf f):Wm (Oh c m f).1∧Wf (Oh c m f).2:=by
 have hl:=fun i=>db hm i
 obtain ⟨w3,w4,w5⟩:=hf
 have ha:=eS f.2.2.2.2.1 1
 have hb:=eS f.2.2.2.2.2.1 1
 have hs:=fun a b=>Lw a b
 unfold Oh
 dsimp only
 split
 ·exact ⟨hm,w3,w4,w5⟩
 split
 ·exact ⟨hm,w3,hs _ _,w5⟩
 split
 ·exact ⟨hm.set _ w4.1 w4.2,w3,w4,w5⟩
 split
 ·exact ⟨hm,w3,w4,hl _⟩
 split
 ·split
  ·exact ⟨hm,hl _,by simp [dM],by simp [dM]⟩
  ·exact ⟨hm,hl _,w4,w5⟩
 split
 ·exact ⟨hm.cas _ _ hb.1 hb.2,w3,w4,w5⟩
 split
 ·exact ⟨hm.set _ ha.1 ha.2,w3,by simp [dM],by simp [dM]⟩
 ·exact ⟨hm.set _ ha.1 ha.2,by simp [dM],by simp [dM],by simp [dM]⟩
theorem Lr {c:CF} {m:List Int} {f:FR} (hm:Wm m) (hf:Wf f):Wm (n9 c m f).1∧Wf (n9 c m f).2:=by
 have hl:=fun i=>db hm i
 obtain ⟨w3,w4,w5⟩:=hf
 have hb:=eS f.2.2.2.2.2.1 1
 unfold n9
 dsimp only
 split
 ·exact ⟨hm,w3,w4,w5⟩
 split
 ·exact ⟨hm,w3,w4,hl _⟩
 split
 ·split
  ·exact ⟨hm,by simp [dM],by simp [dM],by simp [dM]⟩
  ·exact ⟨hm,w3,hl _,w5⟩
 split
 ·exact ⟨hm,hl _,w4,w5⟩
 split
 ·exact ⟨hm.cas _ _ hb.1 hb.2,w3,by simp [dM],by simp [dM]⟩
 ·exact ⟨hm.cas _ _ hb.1 hb.2,by simp [dM],by simp [dM],by simp [dM]⟩
theorem Ea {c:CF} {m:List Int} {f:FR} (hm:Wm m) (hf:Wf f):Wm (ga c m f).1∧Wf (ga c m f).2:=by
 unfold ga Gx
 split
 ·split
  ·exact Td hm hf
  ·split
   ·exact VD hm hf
   ·split
    ·exact Lr hm hf
    ·exact ⟨hm,hf⟩
 ·exact IM hm hf
structure WOk (n:Nat) (x:WB):Prop where
 f:Wf x.2.2.1
 s:x.2.1.length≤n
 sp:x.2.2.2.1≤9223372036854775807
structure SOk (x:SB):Prop where
 f:Wf x.2.2
 s:x.2.1.length≤1000
theorem PZ (a:Int):0≤IntKind.u64.wrap a∧IntKind.u64.wrap a≤18446744073709551615:=by
 rw [wc]
 omega
section
variable {c:CF} {t:Tyt} {m:List Int} {w:Int} {x:WB} {d:Int} {n:Nat}
theorem Qz (hm:Wm m) (hf:Wf x.2.2.1):Wm (bR c t m w x d).1:=by
 have h1:=(Ea (c:=c) hm hf).1
 have h2:=fun a b=>eS a b
 refine ks (P:=fun r=>Wm r.1) (fun _=>hm) ?_ ?_ ?_ ?_ ?_ ?_ ?_ ?_ ?_ ?_ ?_ ?_ ?_ ?_ ?_
 all_goals intro _ _
 all_goals dsimp only [Ij,rT,nv,kA,pg,lN,eg,gL,Jq,o8,pE,ph,GX,oS,rj]
 all_goals repeat' split
 all_goals (try dsimp only)
 all_goals first | exact hm | exact h1 | exact hm.set _ (h2 _ _).1 (h2 _ _).2
theorem T7 (hm:Wm m) (hf:Wf x.2.2.1):Wf (bR c t m w x d).2.1.2.2.1:=by
 have h1:=(Ea (c:=c) hm hf).2
 have h2:=fun i=>db hm i
 have h3:=fun a=>PZ a
 have z:Wf dT:=by simp [Wf,dT]
 have zr:(0:Int)≤0∧(0:Int)≤18446744073709551615:=by decide
 have b:∀ op w,Wf (GT op w 0):=fun op w=>by simp [Wf,GT]
 have b2:∀ op w v,0≤v∧v≤18446744073709551615→Wf (GT op w v):=fun op w v h=>⟨h,by simp [GT],by simp [GT]⟩
 obtain ⟨w3,w4,w5⟩:=hf
 refine ks (P:=fun r=>Wf r.2.1.2.2.1) (fun _=>⟨w3,w4,w5⟩) ?_ ?_ ?_ ?_ ?_ ?_ ?_ ?_ ?_ ?_ ?_ ?_ ?_ ?_ ?_
 all_goals intro _ _
 all_goals dsimp only [Ij,rT,nv,kA,pg,lN,eg,gL,Jq,o8,pE,ph,GX,oS,rj,toW,kO,Dm]
 all_goals repeat' split
 all_goals (try dsimp only)
 all_goals first | exact h1 | exact z | exact b _ _ | exact b2 _ _ _ (h3 _) | exact b2 _ _ _ h1.1 | exact ⟨w3,w4,w5⟩ | exact ⟨h2 _,w4,w5⟩ | exact ⟨h2 4,w4,w5⟩ | exact ⟨zr,w4,w5⟩
theorem Th (hc:fY c=true) (hs:x.2.2.2.1≤9223372036854775807):(bR c t m w x d).2.1.2.2.2.1≤9223372036854775807:=by
 have h4:=du hc
 refine ks (P:=fun r=>r.2.1.2.2.2.1≤9223372036854775807) (fun _=>hs) ?_ ?_ ?_ ?_ ?_ ?_ ?_ ?_ ?_ ?_ ?_ ?_ ?_ ?_ ?_
 all_goals intro _ _
 all_goals dsimp only [Ij,rT,nv,kA,pg,lN,eg,gL,Jq,o8,pE,ph,GX,oS,rj,toW,kO]
 all_goals repeat' split
 all_goals (try dsimp only)
 all_goals omega
theorem PW (hc:fY c=true) (hm:Wm m) (h:WOk n x):WOk (n+1) (bR c t m w x d).2.1:=
 ⟨T7 hm h.f,by have:=J0 (c:=c) (t:=t) (m:=m) (w:=w) (x:=x) (d:=d);have:=h.s;omega,Th hc h.sp⟩
end
section
variable {c:CF} {t:Tyt} {m:List Int} {i:Int} {x:SB}
theorem KZ:One m (ms c t m i x).1:=by
 unfold ms
 dsimp only
 repeat' split
 all_goals first | exact One.same m | exact One.store m _ _ | (dsimp only;exact One.store m _ _) | exact D1 c m _
theorem EE:(ms c t m i x).1.length=m.length:=KZ.len
theorem nh:(ms c t m i x).2.1.2.1=x.2.1∨(ms c t m i x).2.1.2.1=x.2.1.tail∧(ms c t m i x).2.1.1=0:=by
 unfold ms
 dsimp only
 repeat' split
 all_goals first | exact .inl rfl | exact .inr ⟨rfl,rfl⟩
theorem Nk:(ms c t m i x).2.2.length≤2:=by
 unfold ms
 dsimp only
 repeat' split
 all_goals simp
theorem Yl (h:0≤x.1∧x.1<6):0≤(ms c t m i x).2.1.1∧(ms c t m i x).2.1.1<6:=by
 unfold ms
 dsimp only
 repeat' split
 all_goals (try dsimp only)
 all_goals omega
theorem S7 (h:rJ t x=true) (hm:pU c t m x=true):rJ t (ms c t m i x).2.1=true:=by
 unfold rJ at h ⊢
 simp only [Bool.and_eq_true,decide_eq_true_eq,List.all_eq_true,Bool.or_eq_true] at h ⊢
 obtain ⟨_,_,_,h4,h5,r,rest,hx,h6,h7⟩:=Cv hm
 refine ⟨⟨Yl h.1.1,fun y hy => ?_⟩,?_⟩
 ·rcases nh (c:=c) (t:=t) (m:=m) (i:=i) (x:=x) with e | e
  ·rw [e] at hy;exact h.1.2 y hy
  ·rw [e.1] at hy;exact h.1.2 y (List.mem_of_mem_tail hy)
 ·rcases nh (c:=c) (t:=t) (m:=m) (i:=i) (x:=x) with e | e
  ·refine .inr ?_
   rw [e,hx]
   simp
  ·exact .inl e.2
theorem WI (hm:Wm m) (ht:t.length≤1000) (h:SOk x):SOk (ms c t m i x).2.1:=by
 refine ⟨(Om hm h.f ht).2,?_⟩
 have:=h.s
 rcases nh (c:=c) (t:=t) (m:=m) (i:=i) (x:=x) with e | e
 ·rw [e];exact h.s
 ·rw [e.1,List.length_tail];omega
end
structure Good (n:Nat) (p:PB):Prop where
 t:FwT p.2.1
 tl:p.2.1.length≤1000
 m:Wm p.2.2.1
 w:∀ x ∈ p.2.2.2.1,WOk n x
 s:∀ x ∈ p.2.2.2.2,SOk x
theorem pd {c:CF} {t:Tyt} {m:List Int}:∀ {l:List WB} {i:Nat},AQ c t m i l=true↔∀ (j:Nat) x,l[j]? = some x→dw c t m ((i+j:Nat):Int) x=true
 | [],i=>by simp [AQ]
 | y::l,i=>by
  rw [AQ,Bool.and_eq_true,pd (l:=l)]
  constructor
  ·intro h j x hx
   cases j with
   | zero=>cases hx;exact h.1
   | succ j=>
    have:=h.2 j x hx
    rw [show i+(j+1)=i+1+j by omega]
    exact this
  ·intro h
   refine ⟨h 0 y rfl,fun j x hx => ?_⟩
   have:=h (j+1) x hx
   rw [show i+1+j=i+(j+1) by omega]
   exact this
theorem pA {c:CF} {t:Tyt} {m m':List Int} {w:Int} {x:WB} (h:m'.length=m.length):dw c t m' w x=dw c t m w x:=by
 unfold dw
 rw [h]
theorem Cj {p:PB} (h:gY p=true):fY p.1=true∧(p.2.2.2.1.length:Int)=p.1.1∧p.2.2.2.2.length≤3∧(∀ (j:Nat) x,p.2.2.2.1[j]? = some x→dw p.1 p.2.1 p.2.2.1 (j:Int) x=true)∧(∀ x ∈ p.2.2.2.2,rJ p.2.1 x=true):=by
 unfold gY at h
 simp only [Bool.and_eq_true,decide_eq_true_eq,List.all_eq_true] at h
 refine ⟨h.1.1.1,h.1.1.2.1,h.1.1.2.2,fun j x hx => ?_,h.2⟩
 have:=pd.1 h.1.2 j x hx
 rw [Nat.zero_add] at this
 exact this
theorem C2 {p:PB} (h1:fY p.1=true) (h2:(p.2.2.2.1.length:Int)=p.1.1) (h3:p.2.2.2.2.length≤3) (h4:∀ (j:Nat) x,p.2.2.2.1[j]? = some x→dw p.1 p.2.1 p.2.2.1 (j:Int) x=true) (h5:∀ x ∈ p.2.2.2.2,rJ p.2.1 x=true):gY p=true:=by
 unfold gY
 simp only [Bool.and_eq_true,decide_eq_true_eq,List.all_eq_true]
 refine ⟨⟨⟨h1,h2,h3⟩,pd.2 fun j x hx => ?_⟩,h5⟩
 rw [Nat.zero_add]
 exact h4 j x hx
theorem C3 {α:Type} {l:List α} {i:Nat} {y x:α} (h:x ∈ l.set i y):x ∈ l∨x=y:=by
 rcases List.mem_or_eq_of_mem_set h with h | h
 ·exact .inl h
 ·exact .inr h
theorem mL {p:PB} {k:PK} {P:PB×List EV→Prop} (h0:P (p,[]))
  (hw:∀ x,p.2.2.2.1[k.2.1.toNat]? = some x→k.1=0→P ((p.1,p.2.1,(bR p.1 p.2.1 p.2.2.1 k.2.1 x k.2.2).1,p.2.2.2.1.set k.2.1.toNat (bR p.1 p.2.1 p.2.2.1 k.2.1 x k.2.2).2.1,p.2.2.2.2),(bR p.1 p.2.1 p.2.2.1 k.2.1 x k.2.2).2.2))
  (hs:∀ x,p.2.2.2.2[k.2.1.toNat]? = some x→pU p.1 p.2.1 p.2.2.1 x=true→P ((p.1,p.2.1,(ms p.1 p.2.1 p.2.2.1 k.2.1 x).1,p.2.2.2.1,p.2.2.2.2.set k.2.1.toNat (ms p.1 p.2.1 p.2.2.1 k.2.1 x).2.1),(ms p.1 p.2.1 p.2.2.1 k.2.1 x).2.2))
  (hc:P ((p.1,p.2.1,bH p.2.2.1 3 1,p.2.2.2.1,p.2.2.2.2),[])):P (eW p k):=by
 unfold eW
 split
 ·rename_i e
  split
  ·rename_i x hx;exact hw x hx e
  ·exact h0
 ·split
  ·split
   ·rename_i x hx
    split
    ·rename_i hm;exact hs x hx hm
    ·exact h0
   ·exact h0
  ·split
   ·exact hc
   ·exact h0
theorem KT {p:PB} {k:PK}:(eW p k).1.2.2.1.length=p.2.2.1.length:=by
 refine mL (P:=fun r=>r.1.2.2.1.length=p.2.2.1.length) rfl (fun x _ _=>wv.len) (fun x _ _=>EE) (show (bH p.2.2.1 3 1).length=p.2.2.1.length from fC)
theorem AZ {p:PB} {k:PK}:(eW p k).1.1=p.1∧(eW p k).1.2.1=p.2.1∧(eW p k).1.2.2.2.1.length=p.2.2.2.1.length∧(eW p k).1.2.2.2.2.length=p.2.2.2.2.length:=by
 refine mL (P:=fun r=>r.1.1=p.1∧r.1.2.1=p.2.1∧r.1.2.2.2.1.length=p.2.2.2.1.length∧r.1.2.2.2.2.length=p.2.2.2.2.length) ⟨rfl,rfl,rfl,rfl⟩ (fun x _ _=>⟨rfl,rfl,List.length_set,rfl⟩) (fun x _ _=>⟨rfl,rfl,rfl,List.length_set⟩) ⟨rfl,rfl,rfl,rfl⟩
theorem Fm {p:PB} {k:PK}:(eW p k).2.length≤2:=
 mL (P:=fun r=>r.2.length≤2) (Nat.zero_le _) (fun x _ _=>MV) (fun x _ _=>Nk) (Nat.zero_le _)
theorem Be {n:Nat} {p:PB} {k:PK} (h:Good n p) (hc:fY p.1=true):Good (n+1) (eW p k).1:=by
 have up:∀ x ∈ p.2.2.2.1,WOk (n+1) x:=fun x hx=>⟨(h.w x hx).f,Nat.le_succ_of_le (h.w x hx).s,(h.w x hx).sp⟩
 refine mL (P:=fun r=>Good (n+1) r.1) ⟨h.t,h.tl,h.m,up,h.s⟩ (fun x hx _ => ?_) (fun x hx _ => ?_) ⟨h.t,h.tl,show Wm (bH p.2.2.1 3 1) from h.m.set 3 (by decide) (by decide),up,h.s⟩
 ·have hx':=h.w x (List.mem_of_getElem? hx)
  refine ⟨h.t,h.tl,Qz h.m hx'.f,fun y hy => ?_,h.s⟩
  rcases C3 hy with hy | rfl
  ·exact up y hy
  ·exact PW hc h.m hx'
 ·have hx':=h.s x (List.mem_of_getElem? hx)
  refine ⟨h.t,h.tl,(Om h.m hx'.f h.tl).1,up,fun y hy => ?_⟩
  rcases C3 hy with hy | rfl
  ·exact h.s y hy
  ·exact WI h.m h.tl hx'
theorem u6 {p:PB} {k:PK} (h:gY p=true) (hk:AY k p.1.1 p.2.2.2.2.length=true):gY (eW p k).1=true:=by
 obtain ⟨h1,h2,h3,h4,h5⟩:=Cj h
 refine mL (P:=fun r=>gY r.1=true) h (fun x hx hk0 => ?_) (fun x hx hm => ?_) ?_
 ·have h0:0≤k.2.1:=by
   unfold AY at hk
   rw [decide_eq_true_eq] at hk
   omega
  have hkk:((k.2.1.toNat:Nat):Int)=k.2.1:=by omega
  refine C2 h1 (by dsimp only;rw [List.length_set];exact h2) h3 (fun j y hy => ?_) h5
  dsimp only at hy ⊢
  rw [List.getElem?_set] at hy
  split at hy
  ·rename_i e
   split at hy
   ·cases hy
    subst e
    rw [hkk]
    have:=h4 _ x hx
    rw [hkk] at this
    exact KK this
   ·cases hy
  ·rw [pA wv.len]
   exact h4 j y hy
 ·refine C2 h1 h2 (by dsimp only;rw [List.length_set];exact h3) (fun j y hy => ?_) fun y hy => ?_
  ·dsimp only
   rw [pA EE]
   exact h4 j y hy
  ·rcases C3 hy with hy | rfl
   ·exact h5 y hy
   ·exact S7 (h5 x (List.mem_of_getElem? hx)) hm
 ·refine C2 h1 h2 h3 (fun j y hy => ?_) h5
  dsimp only
  rw [pA fC]
  exact h4 j y hy
theorem Do {P:PB→Prop} (hs:∀ p k,gY p=true→AY k p.1.1 p.2.2.2.2.length=true→P p→P (eW p k).1):∀ {l:List PK} {p:PB},gY p=true→P p→P (lG p l).1∧gY (lG p l).1=true
 | [],p,h,hp=>⟨hp,h⟩
 | k::l,p,h,hp=>by
  rw [lG]
  split
  ·rename_i hk
   exact Do hs (u6 h hk) (hs p k h hk hp)
  ·exact Do hs h hp
theorem xf:∀ {l j:List PK} {p:PB},lG p (l++j)=((lG (lG p l).1 j).1,(lG p l).2++(lG (lG p l).1 j).2)
 | [],j,p=>by simp [lG]
 | k::l,j,p=>by
  rw [List.cons_append,lG,lG]
  split
  ·rw [xf]
   simp only [List.append_assoc]
  ·exact xf
end Go.Ab
set_option linter.unusedVariables false
set_option linter.unusedSimpArgs false
namespace Go.Ab
theorem Qh (n w:Int):cR n w=some (decide (0≤n∧n<w)):=by
 unfold cR
 by_cases h0:0≤n
 ·rw [leT h0,cond_true]
  by_cases h1:n<w
  ·rw [ltT h1,decide_eq_true ⟨h0,h1⟩]
  ·rw [ltF (by omega),decide_eq_false (by omega)]
 ·rw [leF (by omega),cond_false,decide_eq_false (by omega)]
theorem So (k:PK) (w s:Int):gI k w s=some (AY k w s):=by
 unfold gI AY
 simp only [Qh,ae,lb]
 by_cases h0:k.1=0
 ·by_cases hb:0≤k.2.1∧k.2.1<w
  ·simp [h0,hb]
  ·simp [h0,hb]
 ·by_cases h1:k.1=1
  ·by_cases hb:0≤k.2.1∧k.2.1<s
   ·simp [h1,hb]
   ·simp [h1,hb]
  ·by_cases h2:k.1=2
   ·simp [h2]
   ·simp [h0,h1,h2]
theorem oB {α:Type}:∀ {l:List α} {i:Nat} {x:α},l[i]? = some x→l.set i x=l
 | [],_,_,h=>by cases h
 | a::l,0,x,h=>by cases h;rfl
 | a::l,i+1,x,h=>by rw [List.set_cons_succ,oB (l:=l) (by simpa using h)]
theorem adw {i n:Nat} (h:i<n):decide ((0:Int)≤(i:Int)∧(i:Int).toNat<n)=true:=decide_eq_true ⟨by omega,by omega⟩
theorem Q9 (k:Nat) (hk:1000≤k) {t:Tyt} (ht:FwT t):fG k t=some t:=by
 have hl:=ht.len
 unfold fG
 rw [bI (by omega),ae]
 have key:∀ (r:Tyt) (q n:Nat),t.drop q=r→q≤t.length→r.length<n→cA k t n t (t.length:Int) (q:Int) t=some t:=by
  intro r
  induction r with
  | nil=>
   intro q n hr hq hn
   obtain ⟨n,rfl⟩:=gD hn
   have:=cE hr
   rw [cA,ltF (by omega),cond_false,decide_eq_true (Nat.le_refl _),dF,List.take_length]
  | cons v r ih=>
   intro q n hr hq hn
   obtain ⟨n,rfl⟩:=gD hn
   obtain ⟨h0,h1,h2,_,h4⟩:=bT hr
   have hv:=ht.kids v (List.mem_of_getElem? h1)
   rw [cA,ltN h0,cond_true,adw h0,cond_true,Int.toNat_natCast,h1,ae,bI (by omega),ae,cond_true,ae,gW (by omega),oB h1]
   exact ih (q+1) n h2 (by omega) (by simp only [List.length_cons] at hn;omega)
 have:=key t 0 (k+1) rfl (Nat.zero_le _) (by omega)
 simpa using this
theorem adM (k n:Nat) {t:Tyt} {l:List Int} (hl:l.length≤1000) (hn:l.length<n):bO k n l (l.length:Int) t 0=some (LT (fun r => !decide (0≤r∧r<(t.length:Int))) l 0):=by
 refine Le (F:=fun n i=>bO k n l (l.length:Int) t i) (l:=l) _ ?_ ?_ n hn
 ·intro n
  simp only [bO,uB,cond_false]
 ·intro n i x hi hx
  simp only [bO,ltN hi,cond_true,eO hx,ae]
  rw [gW (by omega)]
  by_cases h0:x<0
  ·rw [ltT h0,cond_true,decide_eq_false (by omega)]
   rfl
  ·rw [ltF (by omega),cond_false]
   by_cases h1:(t.length:Int)≤x
   ·rw [leT h1,cond_true,decide_eq_false (by omega)]
    rfl
   ·rw [leF (by omega),cond_false,decide_eq_true (by omega)]
    rfl
theorem XT (k n:Nat) (hk:1000≤k) {t:Tyt} {S:List SB} (hS:S.length≤1000) (hr:∀ x ∈ S,x.2.1.length≤1000) (hn:S.length<n):bD k n S (S.length:Int) t 0=some (LT (fun x => !rJ t x) S 0):=by
 refine Le (F:=fun n i=>bD k n S (S.length:Int) t i) (l:=S) _ ?_ ?_ n hn
 ·intro n
  simp only [bD,uB,cond_false]
 ·intro n i x hi hx
  have hx':=hr x (List.mem_of_getElem? hx)
  have ho:=adM k (k+29) (t:=t) hx' (by omega)
  simp only [bD,ltN hi,cond_true,eO hx,ae,ho,pl]
  rw [gW (by omega)]
  have e:rJ t x=(decide (0≤x.1∧x.1<6) && !(x.2.1.any fun r => !decide (0≤r∧r<(t.length:Int)))&&(decide (x.1=0)||decide (x.2.1≠[]))):=by
   unfold rJ
   rw [List.all_eq_not_any_not]
  rw [e,xv,lb]
  by_cases h0:x.1<0
  ·rw [ltT h0,cond_true,decide_eq_false (show ¬ (0≤x.1∧x.1<6) by omega)]
   rfl
  ·rw [ltF (by omega),cond_false]
   by_cases h6:6≤x.1
   ·rw [leT h6,cond_true,decide_eq_false (show ¬ (0≤x.1∧x.1<6) by omega)]
    rfl
   ·rw [leF (by omega),cond_false,decide_eq_true (show 0≤x.1∧x.1<6 by omega)]
    cases (x.2.1.any fun r => !decide (0≤r∧r<(t.length:Int))) with
    | true=>rfl
    | false=>
     rw [cond_false]
     by_cases hz:x.1=0
     ·rw [decide_eq_true hz]
      rfl
     ·rw [decide_eq_false hz,Bool.not_false,cond_true]
      by_cases hn:x.2.1=[]
      ·rw [hn]
       rfl
      ·have hl:¬ ((x.2.1.length:Int)=0):=by
        intro h
        exact hn (List.length_eq_zero_iff.1 (by omega))
       rw [decide_eq_false hl,decide_eq_true hn]
       rfl
section
variable {k:Nat} (hk:9223372036854779000≤k) {p:PB} (ht:Wt p.2.1) (hw:∀ x ∈ p.2.2.2.1,x.2.1.length≤9000) (hs:∀ x ∈ p.2.2.2.2,x.2.1.length≤1000)
include hk ht hw hs
theorem Ja:ft k p=some (gY p):=by
 unfold ft gY
 simp only [Prod.eta,fx,ae]
 cases hm:fY p.1 with
 | false=>rfl
 | true=>
  have hc:=du hm
  rw [Bool.not_true,cond_false,Bool.true_and,xv]
  by_cases h1:(p.2.2.2.1.length:Int)=p.1.1
  ·rw [decide_eq_true h1,Bool.not_true,cond_false]
   by_cases h3:(3:Int)<p.2.2.2.2.length
   ·rw [ltT h3,cond_true,decide_eq_false (by omega)]
    rfl
   ·rw [ltF (by omega),cond_false,decide_eq_true ⟨h1,by omega⟩,Bool.true_and]
    have key:∀ (r:List WB) (q n:Nat),p.2.2.2.1.drop q=r→q≤p.2.2.2.1.length→r.length<n→dt k p n (q:Int)=some (AQ p.1 p.2.1 p.2.2.1 q r&&p.2.2.2.2.all (rJ p.2.1)):=by
     intro r
     induction r with
     | nil=>
      intro q n hr hq hn
      obtain ⟨n,rfl⟩:=gD hn
      have:=cE hr
      rw [dt,ltF (by omega),cond_false,XT k (k+32) (by omega) (by omega) hs (by omega),ae,pl,AQ,Bool.true_and,List.all_eq_not_any_not]
     | cons v r ih=>
      intro q n hr hq hn
      obtain ⟨n,rfl⟩:=gD hn
      obtain ⟨h0,h1',h2,_,h4⟩:=bT hr
      have hv:=hw v (List.mem_of_getElem? h1')
      rw [dt,ltN h0,cond_true,eO h1',ae]
      try simp only [Prod.eta]
      rw [In (by omega) p.1 ht p.2.2.1 (q:Int) v hv,ae,AQ,gW (by omega),ih (q+1) n h2 (by omega) (by simp only [List.length_cons] at hn;omega)]
      cases dw p.1 p.2.1 p.2.2.1 (q:Int) v <;> rfl
    have:=key p.2.2.2.1 0 (k+33) rfl (Nat.zero_le _) (by omega)
    simpa using this
  ·rw [decide_eq_false h1,Bool.not_false,cond_true,decide_eq_false (fun h=>h1 h.1)]
   rfl
end
theorem HE (k:Nat) (c1 c2 c3 c4:Int) (t:Tyt) (m:List Int) (W:List WB) {S:List SB} (hS:S.length≤1000) (hr:∀ x ∈ S,x.2.1.length≤1000):∀ (r:List SB) (q n:Nat),S.drop q=r→q≤S.length→r.length<n →
  cg k n c1 c2 c3 c4 t m W S (S.length:Int) W (q:Int) S=some (c1,c2,c3,c4,t,m,W,S,W,S):=by
 intro r
 induction r with
 | nil=>
  intro q n hr hq hn
  obtain ⟨n,rfl⟩:=gD hn
  have:=cE hr
  rw [cg,ltF (by omega),cond_false]
 | cons v r ih=>
  intro q n hr' hq hn
  obtain ⟨n,rfl⟩:=gD hn
  obtain ⟨h0,h1,h2,_,h4⟩:=bT hr'
  have hv:=hr v (List.mem_of_getElem? h1)
  rw [cg,ltN h0,cond_true,adw h0,cond_true,Int.toNat_natCast,h1,ae,bI (by omega),ae,cond_true,ae,gW (by omega)]
  try simp only [Prod.eta]
  rw [oB h1]
  exact ih (q+1) n h2 (by omega) (by simp only [List.length_cons] at hn;omega)
theorem MT (k:Nat) (hk:1000≤k) (c1 c2 c3 c4:Int) (t:Tyt) (m:List Int) {W:List WB} {S:List SB} (hW:W.length≤1000) (hw:∀ x ∈ W,x.2.1.length≤9000) (hS:S.length≤1000) (hs:∀ x ∈ S,x.2.1.length≤1000):∀ (r:List WB) (q n:Nat),W.drop q=r→q≤W.length→r.length<n →
  cn k n c1 c2 c3 c4 t m W S (W.length:Int) (q:Int) W=some (c1,c2,c3,c4,t,m,W,S,W,S):=by
 intro r
 induction r with
 | nil=>
  intro q n hr hq hn
  obtain ⟨n,rfl⟩:=gD hn
  have:=cE hr
  rw [cn,ltF (by omega),cond_false]
  exact HE k c1 c2 c3 c4 t m W hS hs S 0 (k+61) rfl (Nat.zero_le _) (by omega)
 | cons v r ih=>
  intro q n hr' hq hn
  obtain ⟨n,rfl⟩:=gD hn
  obtain ⟨h0,h1,h2,_,h4⟩:=bT hr'
  have hv:=hw v (List.mem_of_getElem? h1)
  rw [cn,ltN h0,cond_true,adw h0,cond_true,Int.toNat_natCast,h1,ae,bI (by omega),ae,cond_true,ae,gW (by omega)]
  try simp only [Prod.eta]
  rw [oB h1]
  exact ih (q+1) n h2 (by omega) (by simp only [List.length_cons] at hn;omega)
def Wp (l:List PK):Prop:=∀ x ∈ l,0≤x.2.2∧x.2.2≤18446744073709551615
section
variable {k:Nat} (hk:9223372036854779000≤k) {p0:PB} {l:List PK} (hl:l.length≤1000) (hd:Wp l)
include hk hl hd
theorem MS:∀ (r:List PK) (q n N:Nat) (p:PB) (W0:List WB) (S0:List SB) (evs:List EV) (e:Nat),l.drop q=r→q≤l.length→r.length<n→(e=3∨e=0)→p.1=p0.1→p.2.2.2.2.length=p0.2.2.2.2.length→W0.length=p.2.2.2.1.length→S0.length=p.2.2.2.2.length→Good N p→gY p=true→N+r.length≤9000→evs.length+2*r.length≤4000 →
  bz k p0 l n p.1.1 p.1.2.1 p.1.2.2.1 p.1.2.2.2 p.2.1 W0 S0 p.2.2.2.1 p.2.2.2.2 evs (q:Int) p.2.2.1 e=some ((lG p r).1,evs++(lG p r).2):=by
 intro r
 induction r with
 | nil=>
  intro q n N p W0 S0 evs e hr hq hn he hc hS hW0 hS0 hg hm hN hE
  obtain ⟨n,rfl⟩:=gD hn
  have:=cE hr
  rw [bz,ltF (by omega),cond_false,decide_eq_true (by omega),dF,decide_eq_true (by omega),dF,hW0,hS0,List.take_length,List.take_length,lG,List.append_nil]
 | cons v r ih=>
  intro q n N p W0 S0 evs e hr hq hn he hc hS hW0 hS0 hg hm hN hE
  obtain ⟨n,rfl⟩:=gD hn
  obtain ⟨h0,h1,h2,_,h4⟩:=bT hr
  have hv:=hd v (List.mem_of_getElem? h1)
  obtain ⟨m1,m2,m3,m4,m5⟩:=Cj hm
  have hcc:=du m1
  simp only [List.length_cons] at hn hN hE
  have hml:p.2.2.1.length≤1000:=by
   have hW1:0<p.2.2.2.1.length:=by omega
   have:=(JU (m4 0 _ (List.getElem?_eq_getElem hW1))).2.1
   have:=wi m1
   omega
  have hes:(e==3||e==0)=true:=by rcases he with rfl | rfl <;> rfl
  have next:∀ (evs':List EV) (p':PB),p'.1=p.1→p'.2.1=p.2.1→p'.2.2.2.1.length=p.2.2.2.1.length→p'.2.2.2.2.length=p.2.2.2.2.length→Good (N+1) p'→gY p'=true→evs'.length≤evs.length+2→∀ e',(e'=3∨e'=0) →
    bz k p0 l n p.1.1 p.1.2.1 p.1.2.2.1 p.1.2.2.2 p.2.1 W0 S0 p'.2.2.2.1 p'.2.2.2.2 evs' ((q+1:Nat):Int) p'.2.2.1 e'=some ((lG p' r).1,evs'++(lG p' r).2):=fun evs' p' g1 g2 g3 g4 g5 g6 g7 e' he'=>by
   have:=ih (q+1) n (N+1) p' W0 S0 evs' e' h2 (by omega) (by omega) he' (by rw [g1,hc]) (by omega) (by omega) (by omega) g5 g6 (by omega) (by omega)
   rw [g1,g2] at this
   exact this
  have hw:IntKind.i64.wrap ((q:Int)+1)=((q+1:Nat):Int):=gW (by omega)
  have up:Good (N+1) p:=⟨hg.t,hg.tl,hg.m,fun x hx=>⟨(hg.w x hx).f,Nat.le_succ_of_le (hg.w x hx).s,(hg.w x hx).sp⟩,hg.s⟩
  rw [bz,ltN h0,cond_true,eO h1,ae]
  simp only [Prod.eta,hw]
  rw [So,ae,lG,← hc,← hS]
  cases hf:AY v p.1.1 p.2.2.2.2.length with
  | false=>
   rw [cond_false,if_neg (by simp)]
   exact next evs p rfl rfl rfl rfl up hm (by omega) e he
  | true=>
   have st:=AZ (p:=p) (k:=v)
   have sg:=Be (k:=v) hg m1
   have sm:=u6 hm hf
   have se:=Fm (p:=p) (k:=v)
   have nx:=fun e' he'=>next (evs++(eW p v).2) (eW p v).1 st.1 st.2.1 st.2.2.1 st.2.2.2 sg sm (by rw [List.length_append];omega) e' he'
   have hroom:room (evs++(eW p v).2).length 24=true:=Hf (by rw [List.length_append];omega)
   have hroom0:room evs.length 24=true:=Hf (by omega)
   rw [cond_true,if_pos rfl]
   simp only [← List.append_assoc]
   have hfit:=hf
   unfold AY at hfit
   rw [decide_eq_true_eq] at hfit
   by_cases k0:v.1=0
   ·have hb:0≤v.2.1∧v.2.1<p.1.1:=by omega
    have hi:v.2.1.toNat<p.2.2.2.1.length:=by omega
    have hx:=List.getElem?_eq_getElem hi
    have hdec:decide (0≤v.2.1∧v.2.1.toNat<W0.length)=true:=decide_eq_true ⟨hb.1,by omega⟩
    generalize p.2.2.2.1[v.2.1.toNat]=x at hx
    have hxo:=hg.w x (List.mem_of_getElem? hx)
    have es:eW p v=((p.1,p.2.1,(bR p.1 p.2.1 p.2.2.1 v.2.1 x v.2.2).1,p.2.2.2.1.set v.2.1.toNat (bR p.1 p.2.1 p.2.2.1 v.2.1 x v.2.2).2.1,p.2.2.2.2),(bR p.1 p.2.1 p.2.2.1 v.2.1 x v.2.2).2.2):=by
     unfold eW
     rw [if_pos k0,hx]
    rw [lb,decide_eq_true k0,cond_true,hdec,cond_true,hx,ae]
    try simp only [Prod.eta]
    rw [NU (by omega) p.1 hg.t.wt hg.m hml v.2.1 hxo.f (by have:=hxo.s;omega) (by have:=hxo.sp;omega) hv,ae,cond_true,ae,hes,dF]
    rw [es] at nx hroom ⊢
    rw [hroom,cond_true]
    exact nx 3 (.inl rfl)
   ·rw [lb,decide_eq_false k0,cond_false]
    by_cases k1:v.1=1
    ·have hb:0≤v.2.1∧v.2.1<(p.2.2.2.2.length:Int):=by omega
     have hi:v.2.1.toNat<p.2.2.2.2.length:=by omega
     have hx:=List.getElem?_eq_getElem hi
     have hdec:decide (0≤v.2.1∧v.2.1.toNat<S0.length)=true:=decide_eq_true ⟨hb.1,by omega⟩
     generalize p.2.2.2.2[v.2.1.toNat]=x at hx
     have hxo:=hg.s x (List.mem_of_getElem? hx)
     rw [lb,decide_eq_true k1,cond_true,hdec,cond_true,hx,ae]
     try simp only [Prod.eta]
     rw [PS (by omega) p.1 hg.t.wt,ae]
     cases hsm:pU p.1 p.2.1 p.2.2.1 x with
     | false=>
      have es:eW p v=(p,[]):=by
       unfold eW
       rw [if_neg k0,if_pos k1,hx]
       dsimp only
       rw [hsm,if_neg (by simp)]
      rw [es] at nx ⊢
      rw [cond_false,hes,dF,hroom0,cond_true]
      have:=nx 3 (.inl rfl)
      rw [List.append_nil] at this ⊢
      exact this
     | true=>
      have es:eW p v=((p.1,p.2.1,(ms p.1 p.2.1 p.2.2.1 v.2.1 x).1,p.2.2.2.1,p.2.2.2.2.set v.2.1.toNat (ms p.1 p.2.1 p.2.2.1 v.2.1 x).2.1),(ms p.1 p.2.1 p.2.2.1 v.2.1 x).2.2):=by
       unfold eW
       rw [if_neg k0,if_pos k1,hx]
       dsimp only
       rw [hsm,if_pos rfl]
      rw [cond_true,cond_true,ae]
      rw [Tl (by omega) p.1 hg.t.wt hg.m hml v.2.1 hxo.f hxo.s hg.tl,ae,cond_true,ae,hes,dF]
      rw [es] at nx hroom ⊢
      rw [hroom,cond_true]
      exact nx 3 (.inl rfl)
    ·rw [lb,decide_eq_false k1,cond_false]
     by_cases k2:v.1=2
     ·have es:eW p v=((p.1,p.2.1,bH p.2.2.1 3 1,p.2.2.2.1,p.2.2.2.2),[]):=by
       unfold eW
       rw [if_neg k0,if_neg k1,if_pos k2]
      rw [lb,decide_eq_true k2,cond_true,gt hml,ae,hes,dF,hroom0,cond_true]
      rw [es] at nx ⊢
      have:=nx 3 (.inl rfl)
      rw [List.append_nil] at this ⊢
      exact this
     ·have es:eW p v=(p,[]):=by
       unfold eW
       rw [if_neg k0,if_neg k1,if_neg k2]
      rw [lb,decide_eq_false k2,cond_false,hes,dF,hroom0,cond_true]
      rw [es] at nx ⊢
      have:=nx 3 (.inl rfl)
      rw [List.append_nil] at this ⊢
      exact this
theorem Ui {N:Nat} (hg:Good N p0) (hW:p0.2.2.2.1.length≤20) (hS:p0.2.2.2.2.length≤20) (hml:p0.2.2.1.length≤1000) (hN:N+l.length≤9000):cJ k p0 l=some (n8 p0 l):=by
 have hw:∀ x ∈ p0.2.2.2.1,x.2.1.length≤9000:=fun x hx=>by have:=(hg.w x hx).s;omega
 have hs:∀ x ∈ p0.2.2.2.2,x.2.1.length≤1000:=fun x hx=>(hg.s x hx).s
 unfold cJ n8
 try simp only [Prod.eta]
 rw [Q9 _ (by omega) hg.t,ae,bI (by omega),ae,bI (by omega),ae,bI (by omega),ae]
 have ho:=MT k (by omega) p0.1.1 p0.1.2.1 p0.1.2.2.1 p0.1.2.2.2 p0.2.1 p0.2.2.1 (by omega) hw (by omega) hs p0.2.2.2.1 0 (k+61) rfl (Nat.zero_le _) (by omega)
 refine (congrArg (fun z=>ob z _) ho).trans ?_
 rw [ae]
 dsimp only
 rw [decide_eq_true (Nat.le_refl _),dF,decide_eq_true (Nat.le_refl _),dF,Ja (by omega) hg.t.wt hw hs,ae,List.take_length,List.take_length,decide_eq_true (Nat.le_refl _),decide_eq_true (Nat.le_refl _)]
 cases hm:gY p0 with
 | false=>
  rw [Bool.not_false,cond_true,dF,dF,if_neg (by simp),List.take_length,List.take_length]
 | true=>
  rw [Bool.not_true,cond_false,if_pos rfl]
  exact MS hk hl hd l 0 (k+62) N p0 p0.2.2.2.1 p0.2.2.2.2 [] 0 rfl (Nat.zero_le _) (by omega) (.inr rfl) rfl rfl rfl rfl hg hm hN (by simp;omega)
end
end Go.Ab
set_option linter.unusedVariables false
set_option linter.unusedSimpArgs false
namespace Go.Ab
section
variable {k:Nat} (hk:9223372036854779000≤k) (c:CF) (t:Tyt) (ht:t.length≤40) (roots:List (List Int))
include hk ht
end
end Go.Ab
set_option linter.unusedVariables false
namespace Go.Ab
theorem wy:∀ {l:List PK} {n:Nat} {p:PB},Good n p→gY p=true→Good (n+l.length) (lG p l).1
 | [],n,p,h,_=>h
 | k::l,n,p,h,hm=>by
  rw [lG]
  split
  ·rename_i hk
   have:=wy (l:=l) (Be (k:=k) h (Cj hm).1) (u6 hm hk)
   rw [List.length_cons,show n+(l.length+1)=n+1+l.length by omega]
   exact this
  ·have:=wy (l:=l) h hm
   rw [List.length_cons]
   exact ⟨this.t,this.tl,this.m,fun x hx=>⟨(this.w x hx).f,by have:=(this.w x hx).s;omega,(this.w x hx).sp⟩,this.s⟩
theorem QR {l:List PK} {p:PB} (hm:gY p=true):gY (lG p l).1=true:=
 (Do (P:=fun _=>True) (fun _ _ _ _ _=>trivial) hm trivial).2
theorem mB:∀ {l:List PK} {p:PB},(lG p l).1.1=p.1∧(lG p l).1.2.1=p.2.1∧(lG p l).1.2.2.2.1.length=p.2.2.2.1.length∧(lG p l).1.2.2.2.2.length=p.2.2.2.2.length∧(lG p l).1.2.2.1.length=p.2.2.1.length
 | [],p=>⟨rfl,rfl,rfl,rfl,rfl⟩
 | k::l,p=>by
  rw [lG]
  split
  ·obtain ⟨a1,a2,a3,a4,a5⟩:=mB (l:=l) (p:=(eW p k).1)
   obtain ⟨b1,b2,b3,b4⟩:=AZ (p:=p) (k:=k)
   have b5:=KT (p:=p) (k:=k)
   exact ⟨a1.trans b1,a2.trans b2,a3.trans b3,a4.trans b4,a5.trans b5⟩
  ·exact mB
theorem Cl:∀ {l:List PK} {p:PB},(lG p l).2.length≤2*l.length
 | [],p=>Nat.le_refl _
 | k::l,p=>by
  rw [lG]
  split
  ·have:=Cl (l:=l) (p:=(eW p k).1)
   have:=Fm (p:=p) (k:=k)
   simp only [List.length_append,List.length_cons]
   omega
  ·have:=Cl (l:=l) (p:=p)
   simp only [List.length_cons]
   omega
end Go.Ab
namespace Go.Ab
open Go.WideShapes
structure Ll (l:List (List Int)):Prop where
 len:l.length≤9223372036854775807
 each:∀ x ∈ l,x.length≤9223372036854775807
end Go.Ab
namespace Go.Ab
open Go.WideShapes
def Tg (x:Tys):Prop:=i64 x.1∧(∀ n ∈ x.2.1,i64 n)∧x.2.1.length≤maxLen∧uQ x.2.2
theorem HW {P:Program} {t ti ts tf tu:TypeId} {e0 e1 e2 f0 f1 f2 f3 f4 f5 f6:Field} {vs:List V} (he:P.underlying t=some (.struct #[e0,e1,e2])) (g0:e0.type=ti) (g1:e1.type=ts) (g2:e2.type=tf) (p0:e0.offset=0) (p1:e1.offset=1) (p2:e2.offset=2)
  (hs:P.underlying ts=some (.slice ti)) (cs:P.cellsOf ts=1) (cf:P.cellsOf tf=7) (ct:P.cellsOf t=9)
  (hf:P.underlying tf=some (.struct #[f0,f1,f2,f3,f4,f5,f6])) (h0:f0.type=ti) (h1:f1.type=ti) (h2:f2.type=ti) (h3:f3.type=tu) (h4:f4.type=tu) (h5:f5.type=tu) (h6:f6.type=ti)
  (o0:f0.offset=0) (o1:f1.offset=1) (o2:f2.offset=2) (o3:f3.offset=3) (o4:f4.offset=4) (o5:f5.offset=5) (o6:f6.offset=6) (hi:P.underlying ti=some (.int .i64)) (ci:P.cellsOf ti=1) (hu:P.underlying tu=some (.int .u64)) (cu:P.cellsOf tu=1) (h:Shape P t vs) :
  ∃ x:Tys,vs=cG x∧Tg x:=by
 obtain ⟨a,b⟩:=dl he h
 have s0:=b 0 e0 rfl
 rw [g0,p0,ci,List.drop_zero] at s0
 have s1:=b 1 e1 rfl
 rw [g1,p1,cs] at s1
 have s2:=b 2 e2 rfl
 rw [g2,p2,cf] at s2
 rw [ct] at a
 obtain ⟨n0,q0,w0⟩:=bt hi s0
 obtain ⟨l,q1,wl,ml⟩:=nJ hs hi s1
 obtain ⟨f,q2,wf⟩:=pr hf h0 h1 h2 h3 h4 h5 h6 o0 o1 o2 o3 o4 o5 o6 hi ci hu cu cf s2
 match vs,a with
 | [x0,x1,x2,x3,x4,x5,x6,x7,x8],_=>
  simp at q0 q1 q2
  subst q0 q1
  refine ⟨(n0,l,f),?_,w0,wl,ml,wf⟩
  unfold gP at q2
  simp only [List.cons.injEq,and_true] at q2
  obtain ⟨r0,r1,r2,r3,r4,r5,r6⟩:=q2
  subst r0 r1 r2 r3 r4 r5 r6
  rfl
end Go.Ab
namespace Go.Ab
open Go.WideShapes
def H6 (x:Tyw):Prop:=i64 x.1∧(∀ y ∈ x.2.1,i64 y.1∧i64 y.2.1∧i64 y.2.2)∧x.2.1.length≤maxLen∧uQ x.2.2.1∧i64 x.2.2.2.1∧i64 x.2.2.2.2
theorem GD {P:Program} {t ti ts te tf tu:TypeId} {e0 e1 e2 e3 e4 i0 i1 i2 f0 f1 f2 f3 f4 f5 f6:Field} {vs:List V} (he:P.underlying t=some (.struct #[e0,e1,e2,e3,e4])) (g0:e0.type=ti) (g1:e1.type=ts) (g2:e2.type=tf) (g3:e3.type=ti) (g4:e4.type=ti)
  (p0:e0.offset=0) (p1:e1.offset=1) (p2:e2.offset=2) (p3:e3.offset=9) (p4:e4.offset=10)
  (hs:P.underlying ts=some (.slice te)) (hse:P.underlying te=some (.struct #[i0,i1,i2])) (q0:i0.type=ti) (q1:i1.type=ti) (q2:i2.type=ti) (r0:i0.offset=0) (r1:i1.offset=1) (r2:i2.offset=2) (cte:P.cellsOf te=3)
  (cs:P.cellsOf ts=1) (cf:P.cellsOf tf=7) (ct:P.cellsOf t=11)
  (hf:P.underlying tf=some (.struct #[f0,f1,f2,f3,f4,f5,f6])) (h0:f0.type=ti) (h1:f1.type=ti) (h2:f2.type=ti) (h3:f3.type=tu) (h4:f4.type=tu) (h5:f5.type=tu) (h6:f6.type=ti)
  (o0:f0.offset=0) (o1:f1.offset=1) (o2:f2.offset=2) (o3:f3.offset=3) (o4:f4.offset=4) (o5:f5.offset=5) (o6:f6.offset=6) (hi:P.underlying ti=some (.int .i64)) (ci:P.cellsOf ti=1) (hu:P.underlying tu=some (.int .u64)) (cu:P.cellsOf tu=1) (h:Shape P t vs) :
  ∃ x,vs=aY x∧H6 x:=by
 obtain ⟨a,b⟩:=dl he h
 have s0:=b 0 e0 rfl
 rw [g0,p0,ci,List.drop_zero] at s0
 have s1:=b 1 e1 rfl
 rw [g1,p1,cs] at s1
 have s2:=b 2 e2 rfl
 rw [g2,p2,cf] at s2
 have s3:=b 3 e3 rfl
 rw [g3,p3,ci] at s3
 have s4:=b 4 e4 rfl
 rw [g4,p4,ci] at s4
 rw [ct] at a
 obtain ⟨n0,z0,w0⟩:=bt hi s0
 obtain ⟨l,z1,wl,ml⟩:=AD hs hse q0 q1 q2 r0 r1 r2 hi ci cte s1
 obtain ⟨f,z2,wf⟩:=pr hf h0 h1 h2 h3 h4 h5 h6 o0 o1 o2 o3 o4 o5 o6 hi ci hu cu cf s2
 obtain ⟨n3,z3,w3⟩:=bt hi s3
 obtain ⟨n4,z4,w4⟩:=bt hi s4
 match vs,a with
 | [x0,x1,x2,x3,x4,x5,x6,x7,x8,x9,x10],_=>
  simp at z0 z1 z2 z3 z4
  subst z0 z1 z3 z4
  refine ⟨(n0,l,f,n3,n4),?_,w0,wl,ml,wf,w3,w4⟩
  unfold gP at z2
  simp only [List.cons.injEq,and_true] at z2
  obtain ⟨y0,y1,y2,y3,y4,y5,y6⟩:=z2
  subst y0 y1 y2 y3 y4 y5 y6
  rfl
end Go.Ab
namespace Go.Ab
open Go.WideShapes
def Fb (x:Int×Int×Int):Prop:=i64 x.1∧i64 x.2.1∧u64 x.2.2
def Wpk (l:Tye):Prop:=∀ x ∈ l,0≤x.2.2∧x.2.2≤18446744073709551615
theorem XC {l:Tye} (h:∀ x ∈ l,Fb x) (hm:l.length≤maxLen):Wpk l:=fun x hx=>xD (h x hx).2.2
theorem Gu {P:Program} {t ti tu:TypeId} {f0 f1 f2:Field} {vs:List V} (he:P.underlying t=some (.struct #[f0,f1,f2])) (h0:f0.type=ti) (h1:f1.type=ti) (h2:f2.type=tu)
  (o0:f0.offset=0) (o1:f1.offset=1) (o2:f2.offset=2) (hi:P.underlying ti=some (.int .i64)) (ci:P.cellsOf ti=1) (hu:P.underlying tu=some (.int .u64)) (cu:P.cellsOf tu=1) (ce:P.cellsOf t=3) (h:Shape P t vs) :
  ∃ x:Int×Int×Int,vs=eT x∧Fb x:=by
 obtain ⟨a,b⟩:=dl he h
 have s0:=b 0 f0 rfl
 have s1:=b 1 f1 rfl
 have s2:=b 2 f2 rfl
 rw [h0,o0,ci,List.drop_zero] at s0
 rw [h1,o1,ci] at s1
 rw [h2,o2,cu] at s2
 rw [ce] at a
 obtain ⟨n0,e0,w0⟩:=bt hi s0
 obtain ⟨n1,e1,w1⟩:=bt hi s1
 obtain ⟨n2,e2,w2⟩:=bt hu s2
 match vs,a with
 | [x,y,z],_=>
  simp at e0 e1 e2
  subst e0 e1 e2
  exact ⟨(n0,n1,n2),rfl,w0,w1,w2⟩
theorem oL {P:Program} {t e ti tu:TypeId} {f0 f1 f2:Field} {vs:List V} (ht:P.underlying t=some (.slice e)) (he:P.underlying e=some (.struct #[f0,f1,f2])) (h0:f0.type=ti) (h1:f1.type=ti) (h2:f2.type=tu)
  (o0:f0.offset=0) (o1:f1.offset=1) (o2:f2.offset=2) (hi:P.underlying ti=some (.int .i64)) (ci:P.cellsOf ti=1) (hu:P.underlying tu=some (.int .u64)) (cu:P.cellsOf tu=1) (ce:P.cellsOf e=3) (h:Shape P t vs) :
  ∃ l:Tye,vs=[.ro (l.map eT)]∧(∀ x ∈ l,Fb x)∧l.length≤maxLen:=by
 obtain ⟨rows,rfl,hr,hm⟩:=gq ht h
 obtain ⟨l,rfl,hl⟩:=gk (enc:=eT) (Q:=Fb) (rows:=rows) (fun r hx=>Gu he h0 h1 h2 o0 o1 o2 hi ci hu cu ce (hr r hx))
 exact ⟨l,rfl,hl,by simpa using hm⟩
end Go.Ab
