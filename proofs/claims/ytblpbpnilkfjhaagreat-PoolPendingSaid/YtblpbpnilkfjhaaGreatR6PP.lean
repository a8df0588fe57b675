import Derived.Test.YtblpbpnilkfjhaaGreatAbLibC
import Derived.Test.YtblpbpnilkfjhaaGreatR6GX
import Derived.WideShapes
import Derived.Test.YtblpbpnilkfjhaaGreatR6GY
set_option linter.unusedVariables false
set_option linter.unusedSimpArgs false
set_option linter.unusedVariables false
namespace Go.Ab
def nP (x:Int×List Int):Bool:=decide (x.1<0)||decide (20<x.1)
def eU:Nat→Tyt→List (Int×Int)
 | _,[]=>[]
 | i,x::r=>x.2.map (fun k=>(k,(i:Int)))++eU (i+1) r
def uU (n:Nat) (had:List Bool) (q:Int×Int):Bool:=decide (q.1≤q.2)||decide ((n:Int)≤q.1)||(had[q.1.toNat]?).getD true
abbrev S7 (n:Nat) := { h:List Bool // h.length=n }
def ft (n:Nat) (had:S7 n) (q:Int×Int):Bool×S7 n:=
 if uU n had.1 q then (false,had) else (true,⟨had.1.set q.1.toNat true,by simp [had.2]⟩)
def Gr (n:Nat):S7 n:=⟨List.replicate n false,by simp⟩
def nj (t:Tyt):Bool:=decide (t.length≤30) && !(t.any nP)&&(B5 (ft t.length) (eU 0 t) (Gr t.length)).1
structure Wt (t:Tyt):Prop where
 len:t.length≤9223372036854775807
 kids:∀ x ∈ t,x.2.length≤9223372036854775807
def gR (k:Int) (r:Int) (q:Int×Int):Bool×Int:=if q.1=k then (false,q.2) else (true,r)
def fO (t:Tyt) (k:Int):Int:=
 if nj t then (if (B5 (gR k) (eU 0 t) 0).1 then -1 else (B5 (gR k) (eU 0 t) 0).2) else -1
def aao (t:Tyt):Bool:=(t.take 41).all (fun x=>decide (x.2.length≤40))&&decide (t.length≤40)
def rO (n:Int):Bool:=(n==1)||(n==2)
def aeF (n:Int):Bool:=decide (n<0)||decide (3<n)
def Dh (s:List Int):Bool := !(s.any rO)
def iP (t:Tyt) (s:List Int):Bool:=nj t&&(s.length==t.length) && !(s.any aeF)
def Aw (t:Tyt) (s:List Int) (kind q:Int):Option Int:=
 let at_:=(s[q.toNat]?).getD 0
 let up:=fO t q
 if kind=0 then (if at_=0∧up<0 then some 1 else none)
 else if kind=1 then (if at_=0∧up<0 then some 0 else none)
 else if kind=3 then (if at_=0∧0≤up∧s[up.toNat]? = some 2 then some 1 else none)
 else if kind=2 then (if at_=1 then some 2 else none)
 else if kind=4 then (if at_=2∧((((t[q.toNat]?).getD (0,[])).2.any fun i=>(idx s i).getD 1==0)=false) then some 3 else none)
 else none
def gH (t:Tyt) (s:List Int) (e:Int×Int×Int):List Int×Bool:=
 if iP t s=false then (s,false)
 else if e.1=5 then (s,Dh s)
 else if e.2.1<0∨(t.length:Int)≤e.2.1 then (s,false)
 else match Aw t s e.1 e.2.1 with
  | some n=>(s.set e.2.1.toNat n,true)
  | none=>(s,false)
def Re (t:Tyt):List Int:=if nj t then List.replicate t.length (0:Int) else []
def CV (t:Tyt):Tye→List Int→List Int×Bool
 | [],s=>(s,true)
 | e::l,s=>if (gH t s e).2=true then CV t l (gH t s e).1 else ((gH t s e).1,false)
theorem Gx {t:Tyt} (h1:nj t=true):t.length≤30:=by
 unfold nj at h1
 simp only [Bool.and_eq_true,decide_eq_true_eq] at h1
 exact h1.1.1
theorem KY {α:Type} {l:List α} {F:Nat→Int→Option Int} (p:α→Bool)
  (h0:∀ n,F (n+1) (l.length:Int)=some (-1))
  (h1:∀ n (i:Nat) x,i<l.length→l[i]? = some x→F (n+1) (i:Int)=bif p x then some (i:Int) else F n ((i+1:Nat):Int))
  (n:Nat) (hn:l.length<n):F n 0=some (IX p l 0):=by
 have key:∀ r i n,l.drop i=r→i≤l.length→r.length<n→F n (i:Int)=some (IX p r i):=by
  intro r
  induction r with
  | nil=>
   intro i n hr hi hn
   obtain ⟨n,rfl⟩:=ib hn
   have:i=l.length:=by have:=dq hr;omega
   subst this
   rw [h0]
   rfl
  | cons x r ih=>
   intro i n hr hi hn
   obtain ⟨n,rfl⟩:=ib hn
   obtain ⟨a,b,c,d,e⟩:=ct hr
   rw [h1 n i x a b]
   simp only [IX]
   cases p x with
   | true=>rfl
   | false=>exact ih (i+1) n c (by omega) (by simp only [List.length_cons] at hn;omega)
 have:=key l 0 n rfl (Nat.zero_le _) hn
 simpa using this
theorem E5 (x y : Int) : (x != y) = !decide (x = y) := by by_cases h : x = y <;> simp [h]
theorem lP (x y:Int):(x==y)=decide (x=y):=by by_cases h:x=y <;> simp [h]
theorem AS {α:Type} (l:List α):decide ((l.length:Int)<(l.length:Int))=false:=decide_eq_false (by omega)
theorem ltN {i n:Nat} (h:i<n):decide ((i:Int)<(n:Int))=true:=decide_eq_true (by omega)
theorem eo {z:Int} (h : -9223372036854775808≤z∧z≤9223372036854775807):IntKind.i64.wrap z=z:=Lc h.1 h.2
end Go.Ab
set_option linter.unusedVariables false
namespace Go.Ab
open Go
abbrev CF:=Int×Int×Int×Int
abbrev FR:=Int×Int×Int×Int×Int×Int×Int
def cH (c:CF):Bool:=decide (1≤c.1∧c.1≤8∧(c.2.1=1∨c.2.1=2∨c.2.1=4∨c.2.1=8∨c.2.1=16)∧1≤c.2.2.1∧c.2.2.1≤16∧0≤c.2.2.2∧c.2.2.2≤4)
def r6 (c:CF) (w:Int):Int:=6+2*c.2.2.1+w*(3+c.2.1)
def bA (c:CF):Int:=if cH c=true then r6 c c.1 else 0
def fi (c:CF) (w:Int):Int:=if cH c=true∧0≤w∧w<c.1 then r6 c w+2 else -1
def ah (m:List Int) (i:Int):Int:=if 0≤i then (m[i.toNat]?).getD 0 else 0
def au (m:List Int) (i v:Int):List Int:=if 0≤i then m.set i.toNat v else m
def oh (m:List Int) (i old new:Int):List Int×Bool:=if 0≤i∧i<m.length∧ah m i=old then (au m i new,true) else (m,false)
def epB (e:Int):Int:=e/65536
def mkB (e:Int):Int:=e%65536
def oJ (x w:Int):Bool:=decide (x/2 ^ w.toNat%2=1)
def Kv (e w:Int):Int:=if 0≤w∧w<16∧oJ e w=false then e+2 ^ w.toNat else e
def dE (f:FR):Bool:=f.2.2.2.2.2.2 !=0
def ef (f:FR) (res val:Int):FR:=(f.1,0,f.2.2.1,val,0,0,res)
def o8 (c:CF) (m:List Int) (f:FR) (op pcs:Int):Bool:=cH c&&decide ((m.length:Int)=bA c)&&decide (f.2.2.2.2.2.2=0∧0≤f.2.2.1∧f.2.2.1<c.1∧f.1=op∧0≤f.2.1∧f.2.1<pcs)
def w6 (c:CF) (m:List Int) (f:FR):List Int×FR:=
 if o8 c m f 5 5=false then (m,f)
 else if f.2.1=0 then (m,f.1,1,f.2.2.1,f.2.2.2.1,ah m 2,f.2.2.2.2.2)
 else if f.2.1=1 then (if epB (ah m 2)=epB f.2.2.2.2.1 then (m,f.1,2,f.2.2.1,f.2.2.2.1,f.2.2.2.2.1,ah m 2,f.2.2.2.2.2.2) else (m,ef f 4 0))
 else if f.2.1=2 then (let r:=oh m 2 f.2.2.2.2.2.1 (Kv f.2.2.2.2.2.1 f.2.2.1);(r.1,f.1,if r.2=true then 3 else 1,f.2.2))
 else if f.2.1=3 then (let y:=ah m (fi c f.2.2.1);(m,f.1,if y=0 then 3 else 4,f.2.2.1,f.2.2.2.1,f.2.2.2.2.1,y,f.2.2.2.2.2.2))
 else (au m (fi c f.2.2.1) 0,ef f 1 0)
structure Wm (m:List Int):Prop where
 len:m.length≤9223372036854775807
 num:∀ x ∈ m,0≤x∧x≤18446744073709551615
theorem kK {z:Int} (h0:0≤z) (h1:z≤18446744073709551615):IntKind.u64.wrap z=z:=by
 simp [IntKind.wrap,IntKind.bits,IntKind.signed]
 omega
theorem ON {a b:Nat} (ha:a<18446744073709551616) (hb:b<18446744073709551616):r8 .u64 (a:Int) (b:Int)=((a &&& b:Nat):Int):=by
 unfold r8
 have h:(BitVec.ofInt IntKind.u64.bits (a:Int) &&& BitVec.ofInt IntKind.u64.bits (b:Int)).toNat=a &&& b:=by
  rw [BitVec.toNat_and]
  have e:IntKind.u64.bits=64:=rfl
  rw [e]
  simp only [BitVec.ofInt_natCast,BitVec.toNat_ofNat]
  rw [Nat.mod_eq_of_lt (by omega),Nat.mod_eq_of_lt (by omega)]
 rw [h]
 have:a &&& b≤a:=Nat.and_le_left
 exact kK (by omega) (by omega)
theorem orU {a b:Nat} (ha:a<18446744073709551616) (hb:b<18446744073709551616):orI .u64 (a:Int) (b:Int)=((a ||| b:Nat):Int):=by
 unfold orI
 have h:(BitVec.ofInt IntKind.u64.bits (a:Int) ||| BitVec.ofInt IntKind.u64.bits (b:Int)).toNat=a ||| b:=by
  rw [BitVec.toNat_or]
  have e:IntKind.u64.bits=64:=rfl
  rw [e]
  simp only [BitVec.ofInt_natCast,BitVec.toNat_ofNat]
  rw [Nat.mod_eq_of_lt (by omega),Nat.mod_eq_of_lt (by omega)]
 rw [h]
 have:a ||| b<2 ^ 64:=Nat.or_lt_two_pow (by omega) (by omega)
 exact kK (by omega) (by omega)
theorem Rs {e:Int} (h0:0≤e) (h1:e≤18446744073709551615):r8 .u64 e 65535=mkB e:=by
 obtain ⟨n,rfl⟩:∃ n:Nat,e=n:=⟨e.toNat,by omega⟩
 have:=ON (a:=n) (b:=65535) (by omega) (by omega)
 have h2:((65535:Nat):Int)=65535:=rfl
 rw [h2] at this
 rw [this,mkB]
 have h3:n &&& 65535=n%65536:=Nat.and_two_pow_sub_one_eq_mod n 16
 rw [h3]
 omega
theorem aa1 {e w:Int} (h0:0≤e) (hw:0≤w) (hw2:w≤64):RD .u64 e w=e/2 ^ w.toNat:=by
 unfold RD
 have e1:IntKind.u64.bits=64:=rfl
 rw [e1]
 have:min w.toNat 64=w.toNat:=by omega
 rw [this,Int.fdiv_eq_ediv_of_nonneg _ (Int.le_of_lt (Int.pow_pos (by decide)))]
theorem S5 {e:Int} (h0:0≤e):RD .u64 e 16=epB e:=by
 rw [aa1 h0 (by decide) (by decide)]
 rfl
theorem acp {x:Int} (h0:0≤x) (h1:x≤18446744073709551615):r8 .u64 x 1=x%2:=by
 obtain ⟨n,rfl⟩:∃ n:Nat,x=n:=⟨x.toNat,by omega⟩
 have:=ON (a:=n) (b:=1) (by omega) (by omega)
 have h2:((1:Nat):Int)=1:=rfl
 rw [h2] at this
 rw [this,Nat.and_one_is_mod]
 omega
theorem Ur {x w:Int} (h0:0≤x) (h1:x≤18446744073709551615):0≤x/2 ^ w.toNat∧x/2 ^ w.toNat≤18446744073709551615:=by
 have hp:(0:Int)<2 ^ w.toNat:=Int.pow_pos (by decide)
 have:=Int.ediv_nonneg h0 (Int.le_of_lt hp)
 have:=Int.ediv_le_self (2 ^ w.toNat) h0
 omega
theorem ae2 {x w:Int} (h0:0≤x) (h1:x≤18446744073709551615) (hw:0≤w) (hw2:w≤64):(r8 .u64 (RD .u64 x w) 1==1)=oJ x w:=by
 have:=Ur (w:=w) h0 h1
 rw [aa1 h0 hw hw2,acp this.1 this.2,oJ,lP]
theorem adw {w:Int} (hw:0≤w) (hw2:w<64):P4 .u64 1 w=2 ^ w.toNat:=by
 unfold P4
 have e1:IntKind.u64.bits=64:=rfl
 rw [e1]
 have:min w.toNat 64=w.toNat:=by omega
 rw [this,Int.one_mul]
 have h1:(2:Nat) ^ w.toNat≤2 ^ 63:=Nat.pow_le_pow_right (by decide) (by omega)
 have h2:((2 ^ w.toNat:Nat):Int)=(2:Int) ^ w.toNat:=by rw [Int.natCast_pow];rfl
 have h3:(0:Int)<2 ^ w.toNat:=Int.pow_pos (by decide)
 exact kK (by omega) (by omega)
theorem ZL {e w:Int} (h0:0≤e) (h1:e≤18446744073709551615) (hw:0≤w) (hw2:w<16):orI .u64 e (2 ^ w.toNat)=Kv e w:=by
 obtain ⟨n,rfl⟩:∃ n:Nat,e=n:=⟨e.toNat,by omega⟩
 have hp:(2:Nat) ^ w.toNat≤2 ^ 15:=Nat.pow_le_pow_right (by decide) (by omega)
 have h2:((2 ^ w.toNat:Nat):Int)=(2:Int) ^ w.toNat:=by rw [Int.natCast_pow];rfl
 rw [← h2,orU (by omega) (by omega)]
 have hb:oJ (n:Int) w=n.testBit w.toNat:=by
  rw [oJ,Nat.testBit_eq_decide_div_mod_eq,← h2]
  have:((n:Int)/((2 ^ w.toNat:Nat):Int))%2=((n/2 ^ w.toNat%2:Nat):Int):=by rw [Int.natCast_emod,Int.natCast_ediv];rfl
  rw [this]
  congr 1
  apply propext
  omega
 unfold Kv
 cases ht:n.testBit w.toNat with
 | true=>
  rw [hb,ht,if_neg (by simp)]
  congr 1
  apply Nat.eq_of_testBit_eq
  intro i
  rw [Nat.testBit_or,Nat.testBit_two_pow]
  by_cases hi:w.toNat=i
  ·subst hi;simp [ht]
  ·simp [hi]
 | false=>
  rw [hb,ht,if_pos ⟨hw,hw2,rfl⟩,← h2]
  have h3:(BitVec.ofNat 80 n) &&& (BitVec.ofNat 80 (2 ^ w.toNat))=0#80:=by
   apply BitVec.eq_of_toNat_eq
   rw [BitVec.toNat_and]
   simp only [BitVec.toNat_ofNat]
   rw [Nat.mod_eq_of_lt (by omega),Nat.mod_eq_of_lt (by omega),Nat.zero_mod]
   apply Nat.eq_of_testBit_eq
   intro i
   rw [Nat.testBit_and,Nat.testBit_two_pow,Nat.zero_testBit]
   by_cases hi:w.toNat=i
   ·subst hi;simp [ht]
   ·simp [hi]
  have h4:=congrArg BitVec.toNat (BitVec.add_eq_or_of_and_eq_zero _ _ h3)
  rw [BitVec.toNat_add,BitVec.toNat_or] at h4
  simp only [BitVec.toNat_ofNat] at h4
  rw [Nat.mod_eq_of_lt (show n<2 ^ 80 by omega),Nat.mod_eq_of_lt (show 2 ^ w.toNat<2 ^ 80 by omega),Nat.mod_eq_of_lt (show n+2 ^ w.toNat<2 ^ 80 by omega)] at h4
  rw [← h4]
  omega
theorem bV {m:List Int} (hm:Wm m) (i:Int):0≤ah m i∧ah m i≤18446744073709551615:=by
 unfold ah
 split
 ·cases h:m[i.toNat]? with
  | none=>simp
  | some x=>exact hm.num x (List.mem_of_getElem? h)
 ·omega
theorem UL {e w:Int} (h0:0≤e) (h1:e≤18446744073709551615):0≤Kv e w∧Kv e w≤18446744073709551615:=by
 unfold Kv
 split
 ·rename_i h
  have hs:=ZL h0 h1 h.1 h.2.1
  unfold Kv at hs
  rw [if_pos h] at hs
  rw [← hs]
  obtain ⟨n,rfl⟩:∃ n:Nat,e=n:=⟨e.toNat,by omega⟩
  have hp:(2:Nat) ^ w.toNat≤2 ^ 15:=Nat.pow_le_pow_right (by decide) (by omega)
  have h2:((2 ^ w.toNat:Nat):Int)=(2:Int) ^ w.toNat:=by rw [Int.natCast_pow];rfl
  rw [← h2,orU (by omega) (by omega)]
  have:n ||| 2 ^ w.toNat<2 ^ 64:=Nat.or_lt_two_pow (by omega) (by omega)
  omega
 ·omega
end Go.Ab
set_option maxRecDepth 100000
set_option linter.unusedVariables false
namespace Go.Ab
theorem aF {c:CF} (h:cH c=true):1≤c.1∧c.1≤8∧(c.2.1=1∨c.2.1=2∨c.2.1=4∨c.2.1=8∨c.2.1=16)∧1≤c.2.2.1∧c.2.2.1≤16∧0≤c.2.2.2∧c.2.2.2≤4:=by
 unfold cH at h
 exact of_decide_eq_true h
theorem dj {c:CF} (h:cH c=true) {w:Int} (h0:0≤w) (h1:w≤8):8≤r6 c w∧r6 c w≤190∧w*(3+c.2.1)≤152∧0≤w*(3+c.2.1):=by
 obtain ⟨_,_,hD,_,_,_,_⟩:=aF h
 have a:0≤w*(3+c.2.1):=Int.mul_nonneg h0 (by omega)
 have b:w*(3+c.2.1)≤8*19:=Int.mul_le_mul h1 (by omega) (by omega) (by omega)
 unfold r6
 omega
theorem Vm (a b c:Int):ea a b c=some (decide (b≤a∧a≤c)):=by
 unfold ea
 by_cases h:b≤a
 ·simp [h]
 ·simp [h]
theorem adY {D:Int} (h1:1≤D) (h2:D≤16):(r8 IntKind.i64 D (IntKind.i64.wrap (D - 1))==0)=decide (D=1∨D=2∨D=4∨D=8∨D=16):=by
 have:D=1∨D=2∨D=3∨D=4∨D=5∨D=6∨D=7∨D=8∨D=9∨D=10∨D=11∨D=12∨D=13∨D=14∨D=15∨D=16:=by omega
 rcases this with rfl | rfl | rfl | rfl | rfl | rfl | rfl | rfl | rfl | rfl | rfl | rfl | rfl | rfl | rfl | rfl <;> decide +kernel
theorem fU (c:CF):bO c=some (cH c):=by
 obtain ⟨W,D,I,S⟩:=c
 unfold bO cH
 simp only [Vm,ae]
 by_cases h1:1≤W∧W≤8
 ·rw [decide_eq_true h1,cond_true]
  by_cases h2:1≤D∧D≤16
  ·rw [decide_eq_true h2,cond_true,adY h2.1 h2.2]
   by_cases h3:D=1∨D=2∨D=4∨D=8∨D=16
   ·rw [decide_eq_true h3,cond_true]
    by_cases h4:1≤I∧I≤16
    ·rw [decide_eq_true h4,cond_true]
     congr 1
     apply decide_eq_decide.2
     omega
    ·rw [decide_eq_false h4,cond_false]
     symm
     congr 1
     apply decide_eq_false
     omega
   ·rw [decide_eq_false h3,cond_false]
    symm
    congr 1
    apply decide_eq_false
    omega
  ·rw [decide_eq_false h2,cond_false]
   symm
   congr 1
   apply decide_eq_false
   omega
 ·rw [decide_eq_false h1,cond_false]
  symm
  congr 1
  apply decide_eq_false
  omega
theorem EB {c:CF} (h:cH c=true) {w:Int} (h0:0≤w) (h1:w≤8):eI c w=some (r6 c w):=by
 have ht:=dj h h0 h1
 have hm:=aF h
 obtain ⟨W,D,I,S⟩:=c
 simp only [r6] at ht hm ⊢
 unfold eI
 simp only
 rw [eo (z:=2*I) (by omega),eo (z:=6+2*I) (by omega),eo (z:=3+D) (by omega),eo (z:=w*(3+D)) (by omega),eo (by omega)]
theorem AZ (c:CF):dx c=some (bA c):=by
 unfold dx bA
 try simp only [Prod.eta]
 rw [fU,ae]
 cases h:cH c with
 | false=>rfl
 | true=>
  have hm:=aF h
  rw [Bool.not_true,cond_false,if_pos rfl,EB h (by omega) (by omega),ae]
theorem mg (f:FR):aL f=some (dE f):=rfl
theorem gT (f:FR) (r v:Int):aV f r v=some (ef f r v):=rfl
theorem Ip (c : CF) (m : List Int) (f : FR) (op pcs : Int) : eq c m f op pcs = some (o8 c m f op pcs) := by
  obtain ⟨a0, a1, a2, a3, a4, a5, a6⟩ := f
  unfold eq o8
  try simp only [Prod.eta]
  rw [fU, ae]
  cases h : cH c with
  | false => rfl
  | true =>
    rw [cond_true, AZ, ae, lP]
    by_cases h1 : (m.length : Int) = bA c
    · rw [decide_eq_true h1, cond_true, mg, ae, dE]
      simp only
      by_cases h2 : a6 = 0
      · subst h2
        have e : (!((0 : Int) != 0)) = true := rfl
        rw [e, cond_true]
        by_cases h3 : 0 ≤ a2
        · rw [leT h3, cond_true]
          by_cases h4 : a2 < c.1
          · rw [ltT h4, cond_true, lP]
            by_cases h5 : a0 = op
            · rw [decide_eq_true h5, cond_true]
              by_cases h6 : 0 ≤ a1
              · rw [leT h6, cond_true]
                simp [h3, h4, h5, h6]
              · rw [leF (by omega), cond_false]
                simp [h6]
            · rw [decide_eq_false h5, cond_false]
              simp [h5]
          · rw [ltF (by omega), cond_false]
            simp [h4]
        · rw [leF (by omega), cond_false]
          simp [h3]
      · have e : (!(a6 != 0)) = false := by simp [h2]
        rw [e, cond_false]
        simp [h2]
    · rw [decide_eq_false h1, cond_false]
      simp
theorem M3 (c:CF) (w:Int):gg c w=some (fi c w):=by
 unfold gg fi
 try simp only [Prod.eta]
 rw [fU,ae]
 cases h:cH c with
 | false=>simp
 | true=>
  have hm:=aF h
  rw [Bool.not_true,cond_false,eo (by omega),Vm,ae]
  by_cases h1:0≤w∧w≤c.1 - 1
  ·have ht:=dj h h1.1 (by omega)
   rw [decide_eq_true h1,Bool.not_true,cond_false,EB h (by omega) (by omega),ae,eo (by omega),if_pos ⟨rfl,by omega,by omega⟩]
  ·rw [decide_eq_false h1,Bool.not_false,cond_true,if_neg (by omega)]
theorem abq (m:List Int) (i:Int):gu m i=some (decide (0≤i∧i<m.length)):=by
 unfold gu
 by_cases h:0≤i
 ·simp [h]
 ·simp [h]
theorem lU {m:List Int} {i:Int} (h:0≤i∧i<m.length):idx m i=some (ah m i)∧m[i.toNat]? = some (ah m i):=by
 have h2:i.toNat<m.length:=by omega
 rw [idx,if_pos h.1,ah,if_pos h.1,List.getElem?_eq_getElem h2]
 exact ⟨rfl,rfl⟩
theorem QT {m:List Int} {i:Int} (h:¬ (0≤i∧i<m.length)):ah m i=0:=by
 unfold ah
 split
 ·rw [List.getElem?_eq_none (by omega)]
  rfl
 ·rfl
theorem Mj {m:List Int} {i v:Int} (h:¬ (0≤i∧i<m.length)):au m i v=m:=by
 unfold au
 split
 ·rw [List.set_eq_of_length_le (by omega)]
 ·rfl
theorem iF {m:List Int} {i v:Int}:(au m i v).length=m.length:=by
 unfold au
 split <;> simp
theorem Wm.set {m:List Int} (h:Wm m) (i:Int) {v:Int} (h0:0≤v) (h1:v≤18446744073709551615):Wm (au m i v):=by
 refine ⟨by rw [iF];exact h.len,fun x hx => ?_⟩
 unfold au at hx
 split at hx
 ·rcases List.mem_or_eq_of_mem_set hx with hx | rfl
  ·exact h.num x hx
  ·exact ⟨h0,h1⟩
 ·exact h.num x hx
theorem Wm.cas {m:List Int} (h:Wm m) (i o:Int) {v:Int} (h0:0≤v) (h1:v≤18446744073709551615):Wm (oh m i o v).1:=by
 unfold oh
 split
 ·exact h.set i h0 h1
 ·exact h
theorem d9 (m:List Int) (i:Int):aH m i=some (ah m i):=by
 unfold aH
 rw [abq,ae]
 by_cases h:0≤i∧i<m.length
 ·rw [decide_eq_true h,Bool.not_true,cond_false,(lU h).1,ae]
 ·rw [decide_eq_false h,Bool.not_false,cond_true,QT h]
theorem bG {α:Type} {b:Nat} {l:List α} (h:l.length*b≤70368744177664):aP b l=some l:=by
 unfold aP
 have:Nat.ble (l.length*b) 70368744177664=true:=Nat.ble_eq_true_of_le h
 rw [this,cq]
section
variable {m:List Int} (hl:m.length≤1000)
include hl
theorem iE (i v:Int):br m i v=some (au m i v):=by
 unfold br
 rw [bG (by omega),ae,abq,ae]
 by_cases h:0≤i∧i<m.length
 ·rw [decide_eq_true h,Bool.not_true,cond_false,(lU h).1,ae,decide_eq_true (by omega),cond_true,(lU h).2,ae,ae,au,if_pos h.1]
 ·rw [decide_eq_false h,Bool.not_false,cond_true,Mj h]
theorem Gp (i o v:Int):cT m i o v=some (oh m i o v):=by
 unfold cT oh
 rw [bG (by omega),ae,abq,ae]
 by_cases h:0≤i∧i<m.length
 ·rw [decide_eq_true h,Bool.not_true,cond_false,(lU h).1,ae,E5]
  by_cases h2:ah m i=o
  ·rw [decide_eq_true h2,Bool.not_true,cond_false,decide_eq_true (by omega),cond_true,(lU h).2,ae,ae,if_pos ⟨h.1,h.2,h2⟩,au,if_pos h.1]
  ·rw [decide_eq_false h2,Bool.not_false,cond_true,decide_eq_true (by omega),cond_true,(lU h).2,ae,ae,if_neg (fun hh=>h2 hh.2.2)]
   have:=(lU h).2
   rw [List.getElem?_eq_some_iff] at this
   obtain ⟨h3,h4⟩:=this
   rw [← h4,List.set_getElem_self]
 ·rw [decide_eq_false h,Bool.not_false,cond_true,if_neg (fun hh=>h ⟨hh.1,hh.2.1⟩)]
end
theorem ae1 {e w:Int} (h0:0≤e) (h1:e≤18446744073709551615):kV e w=some (Kv e w):=by
 unfold kV
 by_cases h2:w<0
 ·rw [ltT h2,cond_true,Kv,if_neg (by omega)]
 ·rw [ltF (by omega),cond_false]
  by_cases h3:16≤w
  ·rw [leT h3,cond_true,Kv,if_neg (by omega)]
  ·rw [leF (by omega),cond_false,leT (by omega),cond_true,adw (by omega) (by omega),ZL h0 h1 (by omega) (by omega)]
theorem Ct {e:Int} (h0:0≤e):dF e=some (epB e):=by
 unfold dF
 rw [S5 h0]
theorem AP {e:Int} (h0:0≤e) (h1:e≤18446744073709551615):cK e=some (mkB e):=by
 unfold cK
 rw [Rs h0 h1]
def Wf (f:FR):Prop:=(0≤f.2.2.2.1∧f.2.2.2.1≤18446744073709551615)∧(0≤f.2.2.2.2.1∧f.2.2.2.2.1≤18446744073709551615)∧(0≤f.2.2.2.2.2.1∧f.2.2.2.2.2.1≤18446744073709551615)
theorem B3 {c:CF} {m:List Int} {f:FR} {op pcs:Int} (h:o8 c m f op pcs=true):cH c=true∧(m.length:Int)=bA c∧f.2.2.2.2.2.2=0∧0≤f.2.2.1∧f.2.2.1<c.1∧f.1=op∧0≤f.2.1∧f.2.1<pcs:=by
 unfold o8 at h
 rw [Bool.and_eq_true,Bool.and_eq_true,decide_eq_true_eq,decide_eq_true_eq] at h
 exact ⟨h.1.1,h.1.2,h.2⟩
theorem Un (c:CF) {m:List Int} (hm:Wm m) (hl:m.length≤1000) {f:FR} (hf:Wf f):iM c m f=some (w6 c m f):=by
 have hr:=bV hm 2
 unfold iM w6
 try simp only [Prod.eta]
 rw [bG (by omega),ae,Ip,ae]
 cases h:o8 c m f 5 5 with
 | false=>rfl
 | true=>
  obtain ⟨_,_,h6,h2,h2',h0,h1,h1'⟩:=B3 h
  rw [cond_true,if_neg (by simp)]
  obtain ⟨a0,a1,a2,a3,a4,a5,a6⟩:=f
  simp only at h6 h2 h2' h0 h1 h1' ⊢
  have e:decide (0≤a1∧a1.toNat<5)=true:=by rw [decide_eq_true_eq];omega
  rw [e,cond_true]
  obtain ⟨_,w4,w5⟩:=hf
  simp only at w4 w5
  have hp:a1=0∨a1=1∨a1=2∨a1=3∨a1=4:=by omega
  rcases hp with rfl | rfl | rfl | rfl | rfl
  ·simp [d9,ae]
  ·simp only [d9,ae,Ct hr.1,Ct w4.1,E5,gT]
   by_cases h5:epB (ah m 2)=epB a4
   ·simp [h5]
   ·simp [h5,ef]
  ·simp only [ae1 w5.1 w5.2,ae,Gp hl]
   cases hc:(oh m 2 a5 (Kv a5 a2)).2 <;> simp [hc]
  ·simp only [M3,d9,ae,E5]
   by_cases h5:ah m (fi c a2)=0
   ·simp [h5]
   ·simp [h5]
  ·simp only [M3,ae,iE hl,gT]
   simp [ef]
end Go.Ab
set_option linter.unusedVariables false
namespace Go.Ab
theorem dr {m:List Int} {i:Int} (v:Int) (h0:0≤i) (h1:i<m.length):ah (au m i v) i=v:=by
 unfold ah au
 rw [if_pos h0,if_pos h0,List.getElem?_set_self (by omega)]
 rfl
theorem aE {m:List Int} {i j:Int} (v:Int) (h:i≠j):ah (au m i v) j=ah m j:=by
 unfold ah au
 by_cases h0:0≤i
 ·by_cases h1:0≤j
  ·rw [if_pos h1,if_pos h0,List.getElem?_set_ne (by omega),if_pos h1]
  ·rw [if_neg h1,if_neg h1]
 ·rw [if_neg h0]
structure OkB (c:CF) (m:List Int) (w:Int):Prop where
 may:cH c=true
 len:(m.length:Int)=bA c
 low:0≤w
 high:w<c.1
theorem OkB.size {c:CF} {m:List Int} {w:Int} (h:OkB c m w):(m.length:Int)=r6 c c.1∧12≤m.length∧m.length≤190:=by
 have hm:=aF h.may
 have ht:=dj h.may (w:=c.1) (by omega) (by omega)
 have hl:=h.len
 rw [bA,if_pos h.may] at hl
 obtain ⟨W,D,I,S⟩:=c
 simp only [r6] at *
 have:1*(3+D)≤W*(3+D):=Int.mul_le_mul_of_nonneg_right (by omega) (by omega)
 omega
theorem OkB.park {c:CF} {m:List Int} {w:Int} (h:OkB c m w):fi c w=r6 c w+2∧2<fi c w∧fi c w<m.length:=by
 have hm:=aF h.may
 have hs:=h.size
 have hl:=h.low
 have hh:=h.high
 have e:fi c w=r6 c w+2:=by rw [fi,if_pos ⟨h.may,h.low,h.high⟩]
 have ht:=dj h.may hl (by omega)
 rw [e]
 obtain ⟨W,D,I,S⟩:=c
 simp only [r6] at *
 have h2:(w+1)*(3+D)≤W*(3+D):=Int.mul_le_mul_of_nonneg_right (by omega) (by omega)
 have h3:(w+1)*(3+D)=w*(3+D)+(3+D):=by rw [Int.add_mul,Int.one_mul]
 exact ⟨trivial,by omega,by omega⟩
theorem OkB.store {c:CF} {m:List Int} {w:Int} (h:OkB c m w) (i v:Int):OkB c (au m i v) w:=⟨h.may,by rw [iF];exact h.len,h.low,h.high⟩
section
variable {c:CF} {m:List Int} {w a3 a4 a5:Int} (h:OkB c m w)
include h
end
theorem Uk (n:Nat) {w:Int} (hw:0≤w):oJ (n:Int) w=n.testBit w.toNat:=by
 have h2:((2 ^ w.toNat:Nat):Int)=(2:Int) ^ w.toNat:=by rw [Int.natCast_pow];rfl
 rw [oJ,Nat.testBit_eq_decide_div_mod_eq,← h2]
 have:((n:Int)/((2 ^ w.toNat:Nat):Int))%2=((n/2 ^ w.toNat%2:Nat):Int):=by rw [Int.natCast_emod,Int.natCast_ediv];rfl
 rw [this]
 congr 1
 apply propext
 omega
theorem Uj (op w:Int):aG op w 0=some (op,0,w,0,0,0,0):=rfl
theorem wf0 {op pc w:Int} {r:Int}:Wf (op,pc,w,0,0,0,r):=by simp [Wf]
end Go.Ab
set_option linter.unusedVariables false
namespace Go.Ab
def CW (e m:Int):Int:=e%281474976710656*65536+m%65536
def ND (x:Int):Nat→Nat→Int
 | _,0 => -1
 | i,d+1=>if oJ x i=true then (i:Int) else ND x (i+1) d
def E2 (x:Int):Int:=ND x 0 16
def Px (x:Int):Int:=if E2 x<0 then 0 else x - 2 ^ (E2 x).toNat
def UU (x:Int):Int:=CW (epB x+1) (Px (mkB x))
def U0 (x:Int):Int:=CW (epB x+1) 0
def IO (c:CF) (m:List Int) (w:Int):List Int:=au m (fi c w) 1
def Eu (c:CF) (m:List Int) (f:FR):Bool:=decide (f.1=6∨f.1=7)&&cH c&&decide ((m.length:Int)=bA c)&&decide (f.2.2.2.2.2.2=0∧0≤f.2.1∧f.2.1≤2)
def rH (c:CF) (m:List Int) (f:FR):List Int×FR:=
 if Eu c m f=false then (m,f)
 else if f.2.1=0 then (m,f.1,1,f.2.2.1,f.2.2.2.1,ah m 2,f.2.2.2.2.2)
 else if f.2.1=1 then
  (if ah m 2=f.2.2.2.2.1 then
   (au m 2 (if f.1=6 then UU f.2.2.2.2.1 else U0 f.2.2.2.2.1),
    if mkB f.2.2.2.2.1=0 then ef f 3 0 else (f.1,2,f.2.2.1,f.2.2.2.1,f.2.2.2.2.1,(if f.1=6 then (if E2 (mkB f.2.2.2.2.1)<0 then 0 else E2 (mkB f.2.2.2.2.1)) else mkB f.2.2.2.2.1),f.2.2.2.2.2.2))
  else (m,f.1,0,f.2.2))
 else if f.1=6 then (IO c m (if f.2.2.2.2.2.1<8 then f.2.2.2.2.2.1 else -1),ef f 1 f.2.2.2.2.2.1)
 else (IO c m (E2 f.2.2.2.2.2.1),if Px (mkB f.2.2.2.2.2.1)=0 then ef f 1 (mkB f.2.2.2.2.1) else (f.1,2,f.2.2.1,f.2.2.2.1,f.2.2.2.2.1,Px (mkB f.2.2.2.2.2.1),f.2.2.2.2.2.2))
def QX (f:FR) (w:Int):Bool := !(dE f)&&decide (f.2.1=2∧0≤w∧w<16)&&(decide (f.1=6∧f.2.2.2.2.2.1=w)||(decide (f.1=7)&&oJ f.2.2.2.2.2.1 w))
theorem A6 (x:Int):∀ (d i:Nat),(ND x i d = -1∧∀ j:Nat,i≤j→j<i+d→oJ x j=false)∨(∃ j:Nat,ND x i d=j∧i≤j∧j<i+d∧oJ x j=true∧∀ l:Nat,i≤l→l<j→oJ x l=false)
 | 0,i => .inl ⟨rfl,fun j h1 h2=>by omega⟩
 | d+1,i=>by
  by_cases h:oJ x i=true
  ·exact .inr ⟨i,by rw [ND,if_pos h],by omega,by omega,h,fun l h1 h2=>by omega⟩
  ·have e:ND x i (d+1)=ND x (i+1) d:=by rw [ND,if_neg h]
   rw [e]
   rcases A6 x d (i+1) with ⟨h1,h2⟩ | ⟨j,h1,h2,h3,h4,h5⟩
   ·refine .inl ⟨h1,fun j h3 h4 => ?_⟩
    by_cases e2:i=j
    ·subst e2;simpa using h
    ·exact h2 j (by omega) (by omega)
   ·refine .inr ⟨j,h1,by omega,by omega,h4,fun l h6 h7 => ?_⟩
    by_cases e2:i=l
    ·subst e2;simpa using h
    ·exact h5 l (by omega) h7
theorem Eo (x:Int):(E2 x = -1∧∀ j:Nat,j<16→oJ x j=false)∨(∃ j:Nat,E2 x=j∧j<16∧oJ x j=true∧∀ l:Nat,l<j→oJ x l=false):=by
 rcases A6 x 16 0 with ⟨h1,h2⟩ | ⟨j,h1,h2,h3,h4,h5⟩
 ·exact .inl ⟨h1,fun j h=>h2 j (by omega) (by omega)⟩
 ·exact .inr ⟨j,h1,by omega,h4,fun l h=>h5 l (by omega) h⟩
theorem TJ {a w:Nat}:(2 ^ (w+1)*a+2 ^ w) &&& (2 ^ (w+1)*a+(2 ^ w - 1))=2 ^ (w+1)*a:=by
 have hp:0<2 ^ w:=Nat.pow_pos (by decide)
 have hs:2 ^ (w+1)=2*2 ^ w:=by rw [Nat.pow_succ,Nat.mul_comm]
 apply Nat.eq_of_testBit_eq
 intro j
 have e0:2 ^ (w+1)*a=2 ^ (w+1)*a+0:=rfl
 rw [Nat.testBit_and,Nat.testBit_two_pow_mul_add a (by omega),Nat.testBit_two_pow_mul_add a (by omega),e0,Nat.testBit_two_pow_mul_add a (by omega)]
 by_cases h:j<w+1
 ·rw [if_pos h,if_pos h,if_pos h,Nat.testBit_two_pow,Nat.testBit_two_pow_sub_one,Nat.zero_testBit]
  by_cases h2:w=j
  ·subst h2;simp
  ·simp [h2]
 ·rw [if_neg h,if_neg h,if_neg h,Bool.and_self]
theorem Eb {x:Int} (h0:0≤x) (h1:x<65536):(x=0∧E2 x = -1)∨(∃ a w:Nat,x=((2 ^ (w+1)*a+2 ^ w:Nat):Int)∧E2 x=w∧w<16):=by
 obtain ⟨n,rfl⟩:∃ n:Nat,x=n:=⟨x.toNat,by omega⟩
 have hb:∀ j:Nat,oJ (n:Int) (j:Int)=n.testBit j:=fun j=>Uk n (by omega)
 rcases Eo (n:Int) with ⟨h2,h3⟩ | ⟨w,h2,h3,h4,h5⟩
 ·refine .inl ⟨?_,h2⟩
  have:n=0:=by
   apply Nat.eq_of_testBit_eq
   intro j
   rw [Nat.zero_testBit]
   by_cases hj:j<16
   ·rw [← hb];exact h3 j hj
   ·exact Nat.testBit_lt_two_pow (Nat.lt_of_lt_of_le (show n<2 ^ 16 by omega) (Nat.pow_le_pow_right (by decide) (by omega)))
  omega
 ·refine .inr ⟨n/2 ^ (w+1),w,?_,h2,h3⟩
  congr 1
  have hm:n%2 ^ (w+1)=2 ^ w:=by
   apply Nat.eq_of_testBit_eq
   intro j
   rw [Nat.testBit_mod_two_pow,Nat.testBit_two_pow]
   by_cases hj:j<w
   ·have:=h5 j hj
    rw [hb] at this
    have h6:¬ w=j:=by omega
    simp [this,h6]
   ·by_cases hj2:w=j
    ·subst hj2
     rw [hb] at h4
     simp [h4]
    ·have h6:¬ j<w+1:=by omega
     simp [h6,hj2]
  have:=Nat.div_add_mod n (2 ^ (w+1))
  omega
theorem WZ {x:Int} (h0:0≤x) (h1:x<65536):r8 .u64 x (IntKind.u64.wrap (x - 1))=Px x:=by
 unfold Px
 rcases Eb h0 h1 with ⟨rfl,h2⟩ | ⟨a,w,rfl,h2,h3⟩
 ·rw [h2]
  decide +kernel
 ·have hp:0<2 ^ w:=Nat.pow_pos (by decide)
  have e:((2 ^ (w+1)*a+2 ^ w:Nat):Int) - 1=((2 ^ (w+1)*a+(2 ^ w - 1):Nat):Int):=by
   generalize 2 ^ (w+1)*a=y
   generalize 2 ^ w=z at hp
   omega
  rw [h2,if_neg (by omega),Int.toNat_natCast,e]
  have hlt:2 ^ (w+1)*a+2 ^ w<65536:=by omega
  rw [kK (by omega) (by generalize 2 ^ (w+1)*a=y at hlt ⊢;generalize 2 ^ w=z at hlt ⊢;omega),ON (by omega) (by generalize 2 ^ (w+1)*a=y at hlt ⊢;generalize 2 ^ w=z at hlt ⊢;omega),TJ]
  have hw:((2 ^ w:Nat):Int)=(2:Int) ^ w:=by rw [Int.natCast_pow];rfl
  rw [← hw]
  generalize 2 ^ (w+1)*a=y
  generalize (2:Nat) ^ w=z
  omega
theorem Lm {x:Int} (h0:0≤x) (h1:x<65536):0≤Px x∧Px x≤x:=by
 unfold Px
 rcases Eb h0 h1 with ⟨rfl,h2⟩ | ⟨a,w,rfl,h2,h3⟩
 ·rw [h2];decide
 ·rw [h2,if_neg (by omega),Int.toNat_natCast]
  have hw:((2 ^ w:Nat):Int)=(2:Int) ^ w:=by rw [Int.natCast_pow];rfl
  rw [← hw]
  generalize 2 ^ (w+1)*a=y
  generalize (2:Nat) ^ w=z
  omega
theorem Zq {e m:Int} (h0:0≤e) (m0:0≤m) (m1:m≤18446744073709551615):orI .u64 (P4 .u64 e 16) (r8 .u64 m 65535)=CW e m:=by
 rw [Rs m0 m1]
 have hs:P4 .u64 e 16=((2 ^ 16*(e.toNat%281474976710656):Nat):Int):=by
  unfold P4
  have e1:min (16:Int).toNat IntKind.u64.bits=16:=by decide
  rw [e1]
  simp [IntKind.wrap,IntKind.bits,IntKind.signed]
  omega
 have hm:mkB m=((m.toNat%65536:Nat):Int):=by unfold mkB;omega
 rw [hs,hm,orU (by omega) (by omega),← Nat.two_pow_add_eq_or_of_lt (by omega),CW]
 omega
end Go.Ab
set_option linter.unusedVariables false
namespace Go.Ab
theorem Bo (c : CF) (m : List Int) (a1 a6 : Int) : (bif cH c then bif decide ((m.length : Int) = bA c) then bif !(a6 != 0) then bif decide (0 ≤ a1) then some (decide (a1 ≤ 2)) else some false else some false else some false else some false)
    = some (cH c && decide ((m.length : Int) = bA c) && decide (a6 = 0 ∧ 0 ≤ a1 ∧ a1 ≤ 2)) := by
  cases cH c with
  | false => rfl
  | true =>
    rw [cond_true]
    by_cases h1 : (m.length : Int) = bA c
    · rw [decide_eq_true h1, cond_true]
      by_cases h2 : a6 = 0
      · by_cases h3 : 0 ≤ a1
        · simp [h2, h3]
        · simp [h2, h3]
      · have : (a6 != 0) = true := by simp [h2]
        simp [h2, this]
    · rw [decide_eq_false h1]
      rfl
theorem Wz (c:CF) (m:List Int) (f:FR):iX c m f=some (Eu c m f):=by
 obtain ⟨a0,a1,a2,a3,a4,a5,a6⟩:=f
 unfold iX Eu
 simp only [Prod.eta,lP,fU,AZ,mg,ae,dE]
 by_cases h1:a0=6
 ·rw [decide_eq_true h1,cond_true,Bo,decide_eq_true (show a0=6∨a0=7 from .inl h1),Bool.true_and]
 ·rw [decide_eq_false h1,cond_false]
  by_cases h2:a0=7
  ·rw [decide_eq_true h2,cond_true,Bo,decide_eq_true (show a0=6∨a0=7 from .inr h2),Bool.true_and]
  ·rw [decide_eq_false h2,cond_false,decide_eq_false (by omega)]
   rfl
theorem HO {e:Int} (h0:0≤e):0≤mkB e∧mkB e<65536:=by unfold mkB;omega
theorem SC {e:Int} (h0:0≤e) (h1:e≤18446744073709551615):0≤epB e∧epB e≤281474976710655:=by unfold epB;omega
theorem RA {e m:Int} (h0:0≤e) (m0:0≤m) (m1:m≤18446744073709551615):gf e m=some (CW e m):=by
 unfold gf
 rw [Zq h0 m0 m1]
theorem r7 (e m:Int):0≤CW e m∧CW e m≤18446744073709551615:=by unfold CW;omega
theorem MN (x:Int) : -1≤E2 x∧E2 x<16:=by
 rcases Eo x with ⟨h,_⟩ | ⟨j,h,h2,_⟩ <;> omega
theorem Hs {k:Nat} (hk:100≤k) {x:Int} (h0:0≤x) (h1:x≤18446744073709551615):fL k x=some (E2 x):=by
 have key:∀ (d i n:Nat),i+d=16→d<n→cr k x n (i:Int)=some (ND x i d):=by
  intro d
  induction d with
  | zero=>
   intro i n hi hn
   obtain ⟨n,rfl⟩:=ib hn
   rw [cr,ltF (by omega),cond_false]
   rfl
  | succ d ih=>
   intro i n hi hn
   obtain ⟨n,rfl⟩:=ib hn
   rw [cr,ltT (by omega),cond_true,leT (by omega),cond_true,ae2 h0 h1 (by omega) (by omega),ND]
   cases hb:oJ x i with
   | true=>rw [cond_true,if_pos rfl]
   | false=>rw [cond_false,if_neg (by simp),gP (by omega),ih (i+1) n (by omega) (by omega)]
 exact key 16 0 (k+9) rfl (by omega)
theorem Yv {k:Nat} (hk:100≤k) {e:Int} (h0:0≤e) (h1:e≤18446744073709551615):iN k e=some (UU e,E2 (mkB e)):=by
 have hm:=HO h0
 have he:=SC h0 h1
 have hc:=Lm hm.1 hm.2
 unfold iN
 rw [AP h0 h1,ae,Ct h0,ae,kK (z:=epB e+1) (by omega) (by omega),WZ hm.1 hm.2,RA (by omega) hc.1 (by omega),ae,Hs hk hm.1 (by omega),ae]
 rfl
theorem aap {e:Int} (h0:0≤e) (h1:e≤18446744073709551615):i5 e=some (U0 e):=by
 have he:=SC h0 h1
 unfold i5
 rw [Ct h0,ae,kK (z:=epB e+1) (by omega) (by omega),RA (by omega) (by decide) (by decide),ae]
 rfl
theorem Qx {k:Nat} (hk:100≤k) {e:Int} (h0:0≤e) (h1:e≤18446744073709551615):eY k e=some (UU e,if E2 (mkB e)<0 then 0 else E2 (mkB e)):=by
 have hl:=MN (mkB e)
 unfold eY
 rw [Yv hk h0 h1,ae]
 simp only
 by_cases h:E2 (mkB e)<0
 ·rw [ltT h,cond_true,if_pos h];rfl
 ·rw [ltF (by omega),cond_false,if_neg h,kK (by omega) (by omega)]
theorem QK {e:Int} (h0:0≤e) (h1:e≤18446744073709551615):eZ e=some (U0 e,mkB e):=by
 unfold eZ
 rw [aap h0 h1,ae,AP h0 h1,ae]
theorem KP {k:Nat} (hk:100≤k) (c:CF) {m:List Int} (hl:m.length≤1000) (w:Int):fl k c m [w]=some (IO c m w):=by
 unfold fl
 obtain ⟨k,rfl⟩:∃ j,k=j+2:=⟨k - 2,by omega⟩
 have f1:∀ k:Nat,k+2+12=(k+12+1)+1:=fun k=>rfl
 have i1:IntKind.i64.wrap (0+1)=1:=by decide
 have x0:idx [w] 0=some w:=rfl
 rw [f1,dZ,ltT (by simp),cond_true,x0,ae]
 try simp only [Prod.eta]
 rw [M3,ae,iE hl,ae,i1,dZ,ltF (by simp),cond_false]
 rfl
theorem TR {k:Nat} (hk:1000≤k) (c:CF) {m:List Int} (hm:Wm m) (hl:m.length≤1000) {f:FR} (hf:Wf f):f8 k c m f=some (rH c m f):=by
 have hr:=bV hm 2
 unfold f8 rH
 try simp only [Prod.eta]
 rw [bG (by omega),ae,Wz,ae]
 cases h:Eu c m f with
 | false=>rfl
 | true=>
  rw [Bool.not_true,cond_false,if_neg (by simp)]
  obtain ⟨a0,a1,a2,a3,a4,a5,a6⟩:=f
  obtain ⟨_,w4,w5⟩:=hf
  simp only at w4 w5
  unfold Eu at h
  rw [Bool.and_eq_true,Bool.and_eq_true,Bool.and_eq_true,decide_eq_true_eq,decide_eq_true_eq,decide_eq_true_eq] at h
  obtain ⟨⟨⟨h0,hmay⟩,hlen⟩,h6,h1,h2⟩:=h
  simp only at h0 h6 h1 h2 ⊢
  have hlen2:(2:Int)<m.length:=by
   have hmc:=aF hmay
   have ok:OkB c m 0:=⟨hmay,hlen,by decide,by omega⟩
   have:=ok.size
   omega
  by_cases p0:a1=0
  ·subst p0
   simp [d9,ae]
  ·by_cases p1:a1=1
   ·subst p1
    have e1:∀ v,oh m 2 a4 v=if ah m 2=a4 then (au m 2 v,true) else (m,false):=by
     intro v
     unfold oh
     by_cases hh:ah m 2=a4
     ·rw [if_pos hh,if_pos ⟨by decide,hlen2,hh⟩]
     ·rw [if_neg hh,if_neg (fun x=>hh x.2.2)]
    rcases h0 with rfl | rfl
    ·simp only [lP,decide_eq_true rfl,decide_eq_false p0,cond_true,cond_false,Qx (k:=k+2) (by omega) w4.1 w4.2,ae,Gp hl,e1,AP w4.1 w4.2,gT]
     by_cases hh:ah m 2=a4
     ·by_cases h3:mkB a4=0
      ·simp [hh,h3,ef]
      ·simp [hh,h3]
     ·simp [hh]
    ·simp only [lP,decide_eq_true rfl,decide_eq_false p0,decide_eq_false (show ¬ ((7:Int)=6) by decide),cond_true,cond_false,QK w4.1 w4.2,ae,Gp hl,e1,AP w4.1 w4.2,gT]
     by_cases hh:ah m 2=a4
     ·by_cases h3:mkB a4=0
      ·simp [hh,h3,ef]
      ·simp [hh,h3]
     ·simp [hh]
   ·rcases h0 with rfl | rfl
    ·simp only [lP,decide_eq_true rfl,decide_eq_false p0,decide_eq_false p1,cond_true,cond_false]
     by_cases h3:a5<8
     ·rw [ltT h3,cond_true,KP (by omega) c hl,ae,gT,ae,eo (by omega)]
      simp [p0,p1,h3,ef]
     ·rw [ltF (by omega),cond_false,KP (by omega) c hl,ae,gT,ae]
      simp [p0,p1,h3,ef]
    ·have hk5:=HO w5.1
     simp only [lP,decide_eq_false (show ¬ ((7:Int)=6) by decide),decide_eq_false p0,decide_eq_false p1,cond_false]
     rw [Hs (by omega) w5.1 w5.2,ae,KP (by omega) c hl,ae,AP w5.1 w5.2,ae,WZ hk5.1 hk5.2,AP w4.1 w4.2,ae]
     simp only [gT,ae]
     by_cases h3:Px (mkB a5)=0
     ·simp [p0,p1,h3,ef]
     ·have h4:mkB a5≠0:=fun e=>h3 (by rw [e];decide)
      simp [p0,p1,h3,h4]
      omega
end Go.Ab
namespace Go.Ab
open Go.WideShapes
theorem u7:maxLen≤9223372036854775807:=by decide
theorem acz {l:Tyt} (hm:l.length≤maxLen) (h:∀ x ∈ l,i64 x.1∧(∀ n ∈ x.2,i64 n)∧x.2.length≤maxLen):Wt l:=
 ⟨Nat.le_trans hm u7,fun x hx=>Nat.le_trans (h x hx).2.2 u7⟩
theorem ZR {α:Type} {l:List α} (hm:l.length≤maxLen):l.length≤9223372036854775807:=Nat.le_trans hm u7
theorem Jt {P:Program} {w:World} {r:Reach} {base:Nat} {t:TypeId} {v:Value} {fs:Array Field} (ht:P.underlying t=some (.struct fs)) (h:Value.okWide P w r base t v):∃ cs,v = .agg cs:=by
 simp only [Value.okWide,ht] at h
 cases v <;> simp_all
theorem Cells.agg {w:World} {cs:Array Value} {vs:List V} (c:Cells w (Value.agg cs).cells.toList vs):RelV (Qk w) [] (.agg vs) (.agg cs):=by
 have hl:vs.length=cs.toList.length:=c.len
 refine .agg vs cs (by simpa using hl.symm) c.ones fun i x hx => ?_
 have hi:i<vs.length:=(List.getElem?_eq_some_iff.1 hx).1
 have hi2:i<cs.size:=by rw [hl] at hi;simpa using hi
 have h1:cs.toList[i]? = some cs[i]:=by simp [hi2]
 have:=c.rel i x cs[i] hx h1
 simpa [Array.getD,hi2] using this
end Go.Ab
namespace Go.Ab
open Go.WideShapes
def u64 (n:Int):Prop:=(Lit.int .u64 n).wf=true
def Sj (c:Int×Int×Int×Int):Prop:=i64 c.1∧i64 c.2.1∧i64 c.2.2.1∧i64 c.2.2.2
theorem Jo {P:Program} {t ti:TypeId} {f0 f1 f2 f3:Field} {vs:List V} (he:P.underlying t=some (.struct #[f0,f1,f2,f3])) (h0:f0.type=ti) (h1:f1.type=ti) (h2:f2.type=ti) (h3:f3.type=ti) (o0:f0.offset=0) (o1:f1.offset=1) (o2:f2.offset=2) (o3:f3.offset=3) (hi:P.underlying ti=some (.int .i64)) (ci:P.cellsOf ti=1) (ce:P.cellsOf t=4) (h:Shape P t vs) :
  ∃ x:Int×Int×Int×Int,vs=PC x∧Sj x:=by
 obtain ⟨a,b⟩:=mC he h
 have s0:=b 0 f0 rfl
 rw [h0,o0,ci,List.drop_zero] at s0
 have s1:=b 1 f1 rfl
 rw [h1,o1,ci] at s1
 have s2:=b 2 f2 rfl
 rw [h2,o2,ci] at s2
 have s3:=b 3 f3 rfl
 rw [h3,o3,ci] at s3
 rw [ce] at a
 obtain ⟨n0,e0,w0⟩:=fN hi s0
 obtain ⟨n1,e1,w1⟩:=fN hi s1
 obtain ⟨n2,e2,w2⟩:=fN hi s2
 obtain ⟨n3,e3,w3⟩:=fN hi s3
 match vs,a with
 | [x0,x1,x2,x3],_=>
  simp at e0 e1 e2 e3
  subst e0 e1 e2 e3
  exact ⟨(n0,n1,n2,n3),rfl,w0,w1,w2,w3⟩
theorem Gj {P:Program} {t s i:TypeId} {vs:List V} (ht:P.underlying t=some (.slice s)) (hs:P.underlying s=some (.slice i)) (hi:P.underlying i=some (.int .i64)) (h:Shape P t vs) :
  ∃ l:List (List Int),vs=[.ro (l.map fQ)]∧(∀ x ∈ l,(∀ n ∈ x,i64 n)∧x.length≤maxLen)∧l.length≤maxLen:=by
 obtain ⟨rows,rfl,hr,hm⟩:=ma ht h
 obtain ⟨l,rfl,hl⟩:=lu (enc:=fQ) (Q:=fun x=>(∀ n ∈ x,i64 n)∧x.length≤maxLen) (rows:=rows) (fun r hx=>by
  obtain ⟨l,e,w,m⟩:=AW hs hi (hr r hx)
  exact ⟨l,e,w,m⟩)
 exact ⟨l,rfl,hl,by simpa using hm⟩
theorem Zz {n:Int} (h:u64 n):0≤n∧n≤18446744073709551615:=by
 have h1:IntKind.min .u64=0:=by decide
 have h2:IntKind.max .u64=18446744073709551615:=by decide
 simpa [u64,Lit.wf,h1,h2] using h
end Go.Ab
namespace Go.Ab
open Go.WideShapes
end Go.Ab
set_option linter.unusedVariables false
namespace Go.Ab
end Go.Ab
set_option linter.unusedVariables false
namespace Go.Ab
def lF (c:CF) (x:Int):Int:=if cH c=true then 6+x%c.2.2.1 else -1
def Ae (c:CF) (x:Int):Int:=if cH c=true then 6+c.2.2.1+x%c.2.2.1 else -1
def Aj (c:CF) (x:Int):Int:=x/c.2.2.1*2%18446744073709551616
def pZ (a b:Int):Int:=IntKind.i64.wrap (IntKind.u64.wrap (a - b))
def eC (a b:Int):Int:=(a+b)%18446744073709551616
def nk (c:CF) (m:List Int) (f:FR) (op:Int):Bool:=cH c&&decide ((m.length:Int)=bA c)&&decide (f.2.2.2.2.2.2=0∧f.1=op∧0≤f.2.1∧f.2.1<5)
def gI (c:CF) (m:List Int) (f:FR):List Int×FR:=
 if nk c m f 3=false then (m,f)
 else if f.2.1=0 then (m,f.1,1,f.2.2.1,f.2.2.2.1,ah m 5,f.2.2.2.2.2)
 else if f.2.1=1 then
  (if ah m (lF c f.2.2.2.2.1)=Aj c f.2.2.2.2.1 then (m,f.1,2,f.2.2.1,f.2.2.2.1,f.2.2.2.2.1,ah m (lF c f.2.2.2.2.1),f.2.2.2.2.2.2)
  else if pZ (ah m (lF c f.2.2.2.2.1)) (Aj c f.2.2.2.2.1)<0 then (m,ef f 2 f.2.2.2.1)
  else (m,f.1,0,f.2.2.1,f.2.2.2.1,f.2.2.2.2.1,ah m (lF c f.2.2.2.2.1),f.2.2.2.2.2.2))
 else if f.2.1=2 then (let r:=oh m 5 f.2.2.2.2.1 (eC f.2.2.2.2.1 1);(r.1,f.1,if r.2=true then 3 else 0,f.2.2))
 else if f.2.1=3 then (au m (Ae c f.2.2.2.2.1) f.2.2.2.1,f.1,4,f.2.2)
 else (au m (lF c f.2.2.2.2.1) (eC (Aj c f.2.2.2.2.1) 1),ef f 1 f.2.2.2.1)
def Ay (c:CF) (x:Int):Int:=eC (Aj c x) 1
def iD (c:CF) (m:List Int) (f:FR):List Int×FR:=
 if nk c m f 4=false then (m,f)
 else if f.2.1=0 then (m,f.1,1,f.2.2.1,f.2.2.2.1,ah m 4,f.2.2.2.2.2)
 else if f.2.1=1 then
  (if pZ (ah m (lF c f.2.2.2.2.1)) (Ay c f.2.2.2.2.1)=0 then (m,f.1,2,f.2.2.1,f.2.2.2.1,f.2.2.2.2.1,ah m (lF c f.2.2.2.2.1),f.2.2.2.2.2.2)
  else if pZ (ah m (lF c f.2.2.2.2.1)) (Ay c f.2.2.2.2.1)<0 then (m,ef f 3 0)
  else (m,f.1,0,f.2.2.1,f.2.2.2.1,f.2.2.2.2.1,ah m (lF c f.2.2.2.2.1),f.2.2.2.2.2.2))
 else if f.2.1=2 then (let r:=oh m 4 f.2.2.2.2.1 (eC f.2.2.2.2.1 1);(r.1,f.1,if r.2=true then 3 else 0,f.2.2))
 else if f.2.1=3 then (m,f.1,4,f.2.2.1,ah m (Ae c f.2.2.2.2.1),f.2.2.2.2)
 else (au m (lF c f.2.2.2.2.1) (eC (Ay c f.2.2.2.2.1) 1),ef f 1 f.2.2.2.1)
def Ag (c:CF) (m:List Int) (f:FR):List Int×FR:=if f.1=3 then gI c m f else if f.1=4 then iD c m f else (m,f)
def GL (c:CF) (m:List Int) (f:FR):List Int×FR:=if f.1=5 then w6 c m f else if f.1=6∨f.1=7 then rH c m f else (m,f)
def gK (c:CF) (m:List Int) (f:FR):List Int×FR:=if f.1=3∨f.1=4 then Ag c m f else GL c m f
abbrev SB:=Int×List Int×FR
def cO:FR:=(0,0,0,0,0,0,0)
abbrev EV:=Int×Int×Int
def fX (l:List Int):Int:=l.headD 0
def rM (c:CF) (t:Tyt) (m:List Int) (x:SB):Bool:=cH c&&decide ((m.length:Int)=bA c)&&nj t&&decide (0≤x.1∧x.1<6∧x.2.1≠[]∧0≤fX x.2.1∧fX x.2.1<t.length)
def fE (c:CF) (t:Tyt) (m:List Int) (i:Int) (x:SB):List Int×SB×List EV:=
 if rM c t m x=false then (m,x,[])
 else if x.1=0 then (if ah m 3≠0 then (m,(0,x.2.1.tail,cO),[(1,fX x.2.1,i)]) else (m,(1,x.2),[]))
 else if x.1=1 then (au m 0 (eC (ah m 0) 1),(2,x.2.1,(3,0,i,fX x.2.1,0,0,0)),[])
 else if x.1=2 then (let r:=gK c m x.2.2;
  if dE r.2=false then (r.1,(2,x.2.1,r.2),[]) else if r.2.2.2.2.2.2.2=2 then (r.1,(5,x.2.1,r.2),[]) else (r.1,(3,x.2.1,r.2),[(0,fX x.2.1,i)]))
 else if x.1=3 then (if ah m 1≠0 then (m,(0,x.2.1.tail,cO),[]) else (m,(4,x.2.1,(6,0,i,0,0,0,0)),[]))
 else if x.1=4 then (let r:=gK c m x.2.2;if dE r.2=true then (r.1,(0,x.2.1.tail,cO),[]) else (r.1,(4,x.2.1,r.2),[]))
 else (au m 0 (eC (ah m 0) 18446744073709551615),(0,x.2.1.tail,cO),if ah m 0=1 then [(1,fX x.2.1,i),(5,0,i)] else [(1,fX x.2.1,i)])
def One (m m':List Int):Prop:=∃ i v,m'=au m i v
theorem One.same (m:List Int):One m m:=⟨-1,0,by unfold au;rw [if_neg (by decide)]⟩
theorem One.store (m:List Int) (i v:Int):One m (au m i v):=⟨i,v,rfl⟩
theorem One.cas (m:List Int) (i o v:Int):One m (oh m i o v).1:=by
 unfold oh
 split
 ·exact One.store m i v
 ·exact One.same m
theorem One.len {m m':List Int} (h:One m m'):m'.length=m.length:=by
 obtain ⟨i,v,rfl⟩:=h
 exact iF
theorem Tp (c:CF) (m:List Int) (f:FR):One m (gI c m f).1:=by
 unfold gI
 repeat' split
 all_goals first | exact One.same m | exact One.store m _ _ | exact One.cas m _ _ _
theorem U9 (c:CF) (m:List Int) (f:FR):One m (iD c m f).1:=by
 unfold iD
 repeat' split
 all_goals first | exact One.same m | exact One.store m _ _ | exact One.cas m _ _ _
theorem Pf (c:CF) (m:List Int) (f:FR):One m (w6 c m f).1:=by
 unfold w6
 repeat' split
 all_goals first | exact One.same m | exact One.store m _ _ | exact One.cas m _ _ _
theorem Oj (c:CF) (m:List Int) (f:FR):One m (rH c m f).1:=by
 unfold rH IO
 repeat' split
 all_goals first | exact One.same m | (dsimp only;exact One.store m _ _)
theorem Iz (c:CF) (m:List Int) (f:FR):One m (gK c m f).1:=by
 unfold gK Ag GL
 repeat' split
 all_goals first | exact One.same m | exact Tp c m f | exact U9 c m f | exact Pf c m f | exact Oj c m f
end Go.Ab
set_option linter.unusedVariables false
namespace Go.Ab
structure InvA (c:CF) (a:Nat) (m:List Int):Prop where
 wm:Wm m
 may:cH c=true
 len:(m.length:Int)=bA c
 l0:ah m 0=a
 l1:ah m 1=0
 mask:mkB (ah m 2)=0
 l3:ah m 3=0
 l5:ah m 5=a
 sq:∀ j:Nat,(j:Int)<c.2.2.1→ah m (6+j)=if j<a then 1 else 0
 le:(a:Int)≤c.2.2.1
section
variable {c:CF} {t:Tyt} {m:List Int} {l:List Int} {F:FR}
end
section
variable {c:CF} {m:List Int} {w v X Y:Int} (hmay:cH c=true) (hlen:(m.length:Int)=bA c)
include hmay hlen
end
end Go.Ab
set_option linter.unusedVariables false
namespace Go.Ab
theorem mX {q i:Int}:∀ {t:Tyt} {s:Nat},(q,i) ∈ eU s t↔∃ n x,t[n]? = some x∧q ∈ x.2∧i=((s+n:Nat):Int)
 | [],s=>by simp [eU]
 | x::t,s=>by
  simp only [eU,List.mem_append,List.mem_map,Prod.mk.injEq,mX (t:=t) (s:=s+1)]
  constructor
  ·rintro (⟨a,ha,rfl,rfl⟩ | ⟨n,y,hy,hq,rfl⟩)
   ·exact ⟨0,x,rfl,ha,by simp⟩
   ·exact ⟨n+1,y,by simpa using hy,hq,by omega⟩
  ·rintro ⟨n,y,hy,hq,rfl⟩
   cases n with
   | zero=>
    simp at hy
    subst hy
    exact .inl ⟨q,hq,rfl,by simp⟩
   | succ n=>exact .inr ⟨n,y,by simpa using hy,hq,by omega⟩
theorem HJ (n:Nat):∀ (l:List (Int×Int)) (had:S7 n),(∀ q ∈ l,0≤q.2)→(B5 (ft n) l had).1=true →
  (∀ q ∈ l,q.2<q.1∧q.1<n∧had.1[q.1.toNat]? = some false)∧(l.map (·.1)).Nodup
 | [],had,_,_=>by simp
 | q::l,had,h0,h=>by
  simp only [B5] at h
  have hq0:=h0 q (by simp)
  cases hb:uU n had.1 q with
  | true=>simp [ft,hb] at h
  | false=>
   have e1:(ft n had q).1=true:=by simp [ft,hb]
   have e2:(ft n had q).2.1=had.1.set q.1.toNat true:=by simp [ft,hb]
   rw [e1,if_pos rfl] at h
   obtain ⟨a,b⟩:=HJ n l _ (fun x hx=>h0 x (by simp [hx])) h
   simp only [uU,Bool.or_eq_false_iff,decide_eq_false_iff_not] at hb
   obtain ⟨⟨h1,h2⟩,h3⟩:=hb
   have h4:q.1.toNat<had.1.length:=by rw [had.2];omega
   have h5:had.1[q.1.toNat]? = some false:=by
    rw [List.getElem?_eq_getElem h4] at h3 ⊢
    simpa using h3
   rw [e2] at a
   have h6:∀ x ∈ l,x.1≠q.1:=by
    intro x hx e
    have:=(a x hx).2.2
    rw [e,List.getElem?_set_self h4] at this
    cases this
   refine ⟨?_,?_⟩
   ·intro x hx
    rcases List.mem_cons.1 hx with rfl | hx
    ·exact ⟨by omega,by omega,h5⟩
    ·obtain ⟨u,v,w⟩:=a x hx
     refine ⟨u,v,?_⟩
     have hx0:=h0 x (by simp [hx])
     rwa [List.getElem?_set_ne (by have:=h6 x hx;omega)] at w
   ·rw [List.map_cons,List.nodup_cons]
    refine ⟨?_,b⟩
    intro hm
    obtain ⟨x,hx,e⟩:=List.mem_map.1 hm
    exact h6 x hx e
structure May (t:Tyt):Prop where
 len:t.length≤30
 work:∀ x ∈ t,0≤x.1∧x.1≤20
 kids:∀ q ∈ eU 0 t,0≤q.2∧q.2<q.1∧q.1<t.length
 once:((eU 0 t).map (·.1)).Nodup
theorem ov {t:Tyt} {s:Nat} (q) (h:q ∈ eU s t):0≤q.2:=by
 obtain ⟨a,b⟩:=q
 obtain ⟨n,x,_,_,rfl⟩:=mX.1 h
 simp
 omega
theorem AE {t:Tyt} (h:nj t=true):May t:=by
 unfold nj at h
 simp only [Bool.and_eq_true,decide_eq_true_eq,Bool.not_eq_true'] at h
 obtain ⟨⟨h1,h2⟩,h3⟩:=h
 obtain ⟨a,b⟩:=HJ t.length _ _ ov h3
 refine ⟨h1,?_,fun q hq=>⟨ov q hq,(a q hq).1,(a q hq).2.1⟩,b⟩
 intro x hx
 have:=List.any_eq_false.1 h2 x hx
 simp only [nP,Bool.or_eq_true,decide_eq_true_eq,not_or] at this
 omega
theorem Dk {α β:Type} {f:α→β}:∀ {l:List α},(l.map f).Nodup→∀ {a b:α},a ∈ l→b ∈ l→f a=f b→a=b
 | [],_,a,b,ha,_,_=>by simp at ha
 | x::l,h,a,b,ha,hb,e=>by
  rw [List.map_cons,List.nodup_cons] at h
  rcases List.mem_cons.1 ha with ha1 | ha1 <;> rcases List.mem_cons.1 hb with hb1 | hb1
  ·rw [ha1,hb1]
  ·exact absurd (show f x ∈ l.map f from List.mem_map.2 ⟨b,hb1,by rw [← e,ha1]⟩) h.1
  ·exact absurd (show f x ∈ l.map f from List.mem_map.2 ⟨a,ha1,by rw [e,hb1]⟩) h.1
  ·exact Dk h.2 ha1 hb1 e
theorem Nw (p:Int):∀ (l:List (Int×Int)) (r:Int),B5 (gR p) l r=match l.find? (fun q=>q.1==p) with | some q=>(false,q.2) | none=>(true,r)
 | [],r=>rfl
 | q::l,r=>by
  simp only [B5,gR,List.find?_cons]
  by_cases h:q.1=p
  ·simp [h]
  ·simp [h,beq_false_of_ne h,Nw p l r]
theorem E9 {t:Tyt} {p o:Int} (hm:nj t=true) (h:(p,o) ∈ eU 0 t):fO t p=o:=by
 have hM:=AE hm
 cases hf:(eU 0 t).find? (fun q=>q.1==p) with
 | none=>
  rw [List.find?_eq_none] at hf
  have:=hf _ h
  simp at this
 | some q=>
  have h1:=List.mem_of_find?_eq_some hf
  have h2:=List.find?_some hf
  simp only [beq_iff_eq] at h2
  have h3:q=(p,o):=by
   have hn:=hM.once
   exact Dk hn h1 h h2
  rw [fO,if_pos hm,Nw,hf,h3]
  rfl
end Go.Ab
set_option maxRecDepth 100000
set_option linter.unusedVariables false
namespace Go.Ab
theorem X8 (x:Int×List Int):fc x=some (nP x):=by
 unfold fc nP
 cases decide (x.1<0) <;> rfl
section
variable (k:Nat) (hk:9223372036854775808≤k)
include hk
theorem VS (t:Tyt) (ht:Wt t):cX k t=some (aao t):=by
 have hlen:=ht.len
 have key:∀ r i n,t.drop i=r→i≤t.length→r.length<n→bn k t n (i:Int)=some ((r.take (41 - i)).all (fun x=>decide (x.2.length≤40))&&decide (t.length≤40)):=by
  intro r
  induction r with
  | nil=>
   intro i n hr hi hn
   obtain ⟨n,rfl⟩:=ib hn
   have:i=t.length:=by have:=dq hr;omega
   subst this
   rw [bn,AS,cond_false,RQ]
   simp
  | cons x r ih=>
   intro i n hr hi hn
   obtain ⟨n,rfl⟩:=ib hn
   obtain ⟨a,b,c,d,e⟩:=ct hr
   rw [bn,ltN a,cond_true]
   by_cases h:i≤40
   ·rw [leT (show (i:Int)≤40 by omega),cond_true,fZ b,ae]
    have e1:41 - i=(41 - (i+1))+1:=by omega
    rw [e1,List.take_succ_cons,List.all_cons]
    by_cases h2:x.2.length≤40
    ·rw [ltF (show ((x.2.length:Nat):Int)≤40 by omega),cond_false,gP (by omega),ih (i+1) n c (by omega) (by simp only [List.length_cons] at hn;omega),decide_eq_true h2,Bool.true_and]
    ·rw [ltT (show (40:Int)<(x.2.length:Nat) by omega),cond_true,decide_eq_false h2]
     rfl
   ·rw [leF (show (40:Int)<i by omega),cond_false,RQ]
    have e1:41 - i=0:=by omega
    rw [e1]
    simp
 have:=key t 0 k rfl (Nat.zero_le _) (by omega)
 rw [cX]
 simpa [aao] using this
theorem S1 (t:Tyt) (ht:Wt t):aM k t=some (t.any nP):=by
 have hlen:=ht.len
 rw [aM,aY]
 rw [KY (F:=fun n i=>aC (k+8) t n i) (l:=t) nP ?_ ?_ _ (by omega)]
 ·rw [ae,wP]
 ·intro n
  simp only [aC,AS,cond_false]
 ·intro n i x hi hx
  simp only [aC,ltN hi,cond_true,fZ hx,ae,X8,Prod.eta]
  rw [gP (by omega)]
theorem Ju (t:Tyt) (ht:Wt t):cC k t=some (nj t):=by
 have hlen:=ht.len
 rw [cC,S1 k hk t ht,ae]
 unfold nj
 by_cases h1:t.length≤30
 ·rw [aga h1,cond_false,decide_eq_true h1]
  cases h2:t.any nP with
  | true=>rfl
  | false=>
   have h3:decide ((0:Int)≤(t.length:Int)∧(t.length:Int)≤9223372036854775807∧(t.length:Int)*1≤70368744177664)=true:=by simp;omega
   rw [h3,cond_false,cond_true]
   -- one task's kids
   have inner:∀ (x:Int×List Int) (hx:x ∈ t) (i:Nat) (hi:i<t.length) (o:Int→List Bool→Option Bool) (R:List (Int×Int)) (n0:Nat)
     (ho:∀ had:S7 t.length,o ((i+1:Nat):Int) had.1=some (B5 (ft t.length) R had).1),
     ∀ r j n (had:S7 t.length),x.2.drop j=r→r.length<n →
      cM k t o n x.2 (x.2.length:Int) (j:Int) had.1 (i:Int)=some (B5 (ft t.length) (r.map (fun q=>(q,(i:Int)))++R) had).1:=by
    intro x hx i hi o R n0 ho r
    have hxl:=ht.kids x hx
    induction r with
    | nil=>
     intro j n had hr hn
     obtain ⟨n,rfl⟩:=ib hn
     have hj:=dq hr
     rw [cM,ltF (by omega),cond_false,gP (by omega),ho]
     rfl
    | cons q r ih=>
     intro j n had hr hn
     obtain ⟨n,rfl⟩:=ib hn
     obtain ⟨a,b,c,d,e⟩:=ct hr
     have hb:=had.2
     rw [cM,ltN a,cond_true,fZ b,ae,List.map_cons,List.cons_append,B5]
     by_cases h1:q≤(i:Int)
     ·rw [leT h1,cond_true]
      simp [ft,uU,leT h1]
     ·rw [leF (show (i:Int)<q by omega),cond_false]
      by_cases h2:(t.length:Int)≤q
      ·rw [leT h2,cond_true]
       simp [ft,uU,leT h2]
      ·rw [leF (show q<(t.length:Int) by omega),cond_false]
       have h5:decide ((0:Int)≤q∧q.toNat<t.length)=true:=by simp;omega
       have h3:q.toNat<had.1.length:=by rw [hb];omega
       have h4:had.1[q.toNat]? = some had.1[q.toNat]:=List.getElem?_eq_getElem h3
       rw [h5,cond_true,h4,ae,cond_true,ae,gP (by omega)]
       cases hh:had.1[q.toNat] with
       | true=>simp [ft,uU,leF (show (i:Int)<q by omega),leF (show q<(t.length:Int) by omega),h4,hh]
       | false=>
        rw [cond_false]
        have e1:ft t.length had (q,(i:Int))=(true,⟨had.1.set q.toNat true,by simp [had.2]⟩):=by
         simp [ft,uU,leF (show (i:Int)<q by omega),leF (show q<(t.length:Int) by omega),h4,hh]
        rw [e1]
        simp only [if_true]
        exact ih (j+1) n ⟨had.1.set q.toNat true,by simp [had.2]⟩ c (by simp only [List.length_cons] at hn;omega)
   have outer:∀ r i n (had:S7 t.length),t.drop i=r→i≤t.length→r.length<n→bL k t n (i:Int) had.1=some (B5 (ft t.length) (eU i r) had).1:=by
    intro r
    induction r with
    | nil=>
     intro i n had hr hi hn
     obtain ⟨n,rfl⟩:=ib hn
     have:=dq hr
     rw [bL,ltF (by omega),cond_false]
     rfl
    | cons x r ih=>
     intro i n had hr hi hn
     obtain ⟨n,rfl⟩:=ib hn
     obtain ⟨a,b,c,d,e⟩:=ct hr
     have hxl:=ht.kids x d
     rw [bL,ltN a,cond_true,fZ b,ae,eU]
     have:=inner x d i a (fun s47 s56=>bL k t n s47 s56) (eU (i+1) r) n (fun had=>ih (i+1) n had c (by omega) (by simp only [List.length_cons] at hn;omega)) x.2 0 (k+17) had rfl (by omega)
     simpa using this
   have:=outer t 0 (k+17) (Gr t.length) rfl (Nat.zero_le _) (by omega)
   simpa [Gr] using this
 ·rw [af8 (by omega),cond_true,decide_eq_false h1]
  rfl
end
end Go.Ab
set_option linter.unusedVariables false
namespace Go.Ab
theorem f7 (z:Int):IntKind.u64.wrap z=z%18446744073709551616:=by simp [IntKind.wrap,IntKind.bits,IntKind.signed]
theorem HE {c:CF} {x:Int} (h0:0≤x) (h1:x≤18446744073709551615):gF c x=some (lF c x):=by
 unfold gF lF
 simp only [Prod.eta,fU,ae]
 cases hm:cH c with
 | false=>rfl
 | true=>
  have hc:=aF hm
  have hi:IntKind.u64.wrap c.2.2.1=c.2.2.1:=kK (by omega) (by omega)
  have h3:=Int.emod_lt_of_pos x (show 0<c.2.2.1 by omega)
  have h4:=Int.emod_nonneg x (show c.2.2.1≠0 by omega)
  have e1:IntKind.i64.wrap (c.1 - 1)=c.1 - 1:=by rw [IntKind.wrap_i64];omega
  rw [Bool.not_true,cond_false,Vm,ae,e1,decide_eq_true (by omega),Bool.not_true,cond_false,hi,E5,decide_eq_false (by omega),Bool.not_false,cond_true,if_pos rfl,Int.tmod_eq_emod_of_nonneg h0]
  have e2:IntKind.i64.wrap (x%c.2.2.1)=x%c.2.2.1:=by rw [IntKind.wrap_i64];omega
  rw [e2,IntKind.wrap_i64]
  congr 1
  omega
theorem R7 {c:CF} {x:Int} (h0:0≤x) (h1:x≤18446744073709551615):lg c x=some (Ae c x):=by
 unfold lg Ae
 simp only [Prod.eta,fU,ae]
 cases hm:cH c with
 | false=>rfl
 | true=>
  have hc:=aF hm
  have hi:IntKind.u64.wrap c.2.2.1=c.2.2.1:=kK (by omega) (by omega)
  have h3:=Int.emod_lt_of_pos x (show 0<c.2.2.1 by omega)
  have h4:=Int.emod_nonneg x (show c.2.2.1≠0 by omega)
  have e1:IntKind.i64.wrap (c.1 - 1)=c.1 - 1:=by rw [IntKind.wrap_i64];omega
  rw [Bool.not_true,cond_false,Vm,ae,e1,decide_eq_true (by omega),Bool.not_true,cond_false,hi,E5,decide_eq_false (by omega),Bool.not_false,cond_true,if_pos rfl,Int.tmod_eq_emod_of_nonneg h0]
  have e2:IntKind.i64.wrap (x%c.2.2.1)=x%c.2.2.1:=by rw [IntKind.wrap_i64];omega
  have e3:IntKind.i64.wrap (6+c.2.2.1)=6+c.2.2.1:=by rw [IntKind.wrap_i64];omega
  rw [e2,e3,IntKind.wrap_i64]
  congr 1
  omega
theorem Ky {c:CF} {x:Int} (hm:cH c=true) (h0:0≤x) (h1:x≤18446744073709551615):IntKind.u64.wrap (IntKind.u64.wrap (x.tdiv (IntKind.u64.wrap c.2.2.1))*2)=Aj c x:=by
 have hc:=aF hm
 have hi:IntKind.u64.wrap c.2.2.1=c.2.2.1:=kK (by omega) (by omega)
 have h3:0≤x/c.2.2.1:=Int.ediv_nonneg h0 (by omega)
 have h4:x/c.2.2.1≤x:=Int.ediv_le_self _ h0
 rw [hi,Int.tdiv_eq_ediv_of_nonneg h0,kK h3 (by omega),f7]
 rfl
theorem uq (a b:Int):IntKind.u64.wrap (a+b)=eC a b:=by rw [f7];rfl
theorem fS (a b:Int):0≤eC a b∧eC a b≤18446744073709551615:=by unfold eC;omega
theorem ne0 {c:CF} (hm:cH c=true):(IntKind.u64.wrap c.2.2.1 !=0)=true:=by
 have hc:=aF hm
 rw [kK (by omega) (by omega),E5,decide_eq_false (by omega)]
 rfl
theorem Rt {c:CF} {x:Int} (hm:cH c=true) (h0:0≤x) (h1:x≤18446744073709551615):io c x=some (Ay c x):=by
 unfold io Ay
 rw [ne0 hm,cond_true,Ky hm h0 h1,uq]
theorem Mx (a b:Int):eJ a b=some (pZ a b):=rfl
theorem MD (c:CF) (m:List Int) (f:FR) (op:Int):iC c m f op=some (nk c m f op):=by
 unfold iC mP nk
 simp only [Prod.eta,fU,AZ,mg,ae]
 cases hm:cH c with
 | false=>rfl
 | true=>
  rw [cond_true,ae,lP,Bool.true_and]
  by_cases h1:(m.length:Int)=bA c
  ·rw [decide_eq_true h1,cond_true,Bool.true_and]
   unfold dE
   rw [E5,Bool.not_not,lP]
   by_cases h2:f.2.2.2.2.2.2=0
   ·rw [decide_eq_true h2,cond_true]
    by_cases h3:f.1=op
    ·rw [decide_eq_true h3,cond_true]
     by_cases h4:0≤f.2.1
     ·rw [leT h4,cond_true]
      congr 1
      simp [h2,h3,h4]
     ·rw [leF (by omega),cond_false]
      simp [h4]
    ·rw [decide_eq_false h3,cond_false]
     simp [h3]
   ·rw [decide_eq_false h2,cond_false]
    simp [h2]
  ·rw [decide_eq_false h1,cond_false]
   rfl
theorem G8 {c:CF} {m:List Int} {f:FR} {op:Int} (h:nk c m f op=true):cH c=true∧(m.length:Int)=bA c∧f.2.2.2.2.2.2=0∧f.1=op∧0≤f.2.1∧f.2.1<5:=by
 unfold nk at h
 rw [Bool.and_eq_true,Bool.and_eq_true,decide_eq_true_eq,decide_eq_true_eq] at h
 exact ⟨h.1.1,h.1.2,h.2⟩
theorem LP (c:CF) {m:List Int} (hm:Wm m) (hl:m.length≤1000) {f:FR} (hf:Wf f):kN c m f=some (gI c m f):=by
 unfold kN gI
 try simp only [Prod.eta]
 rw [bG (by omega),ae,MD,ae]
 cases h:nk c m f 3 with
 | false=>rfl
 | true=>
  obtain ⟨hmay,_,h6,h0,h1,h1'⟩:=G8 h
  rw [Bool.not_true,cond_false,if_neg (by simp)]
  obtain ⟨a0,a1,a2,a3,a4,a5,a6⟩:=f
  simp only at h6 h0 h1 h1' ⊢
  have e:decide (0≤a1∧a1.toNat<5)=true:=by rw [decide_eq_true_eq];omega
  rw [e,cond_true]
  obtain ⟨w3,w4,w5⟩:=hf
  simp only at w3 w4 w5
  rcases (show a1=0∨a1=1∨a1=2∨a1=3∨a1=4 by omega) with rfl | rfl | rfl | rfl | rfl
  ·simp [d9,ae]
  ·simp only [HE w4.1 w4.2,d9,ae,ne0 hmay,Ky hmay w4.1 w4.2,Mx,gT,lP,cond_true]
   by_cases h5:ah m (lF c a4)=Aj c a4
   ·simp [h5]
   ·by_cases h7:pZ (ah m (lF c a4)) (Aj c a4)<0
    ·simp [h5,h7,ef]
    ·simp [h5,h7]
  ·simp only [uq,Gp hl,ae]
   cases hc:(oh m 5 a4 (eC a4 1)).2 <;> simp [hc]
  ·simp only [R7 w4.1 w4.2,iE hl,ae]
   simp
  ·simp only [HE w4.1 w4.2,ne0 hmay,Ky hmay w4.1 w4.2,uq,iE hl,ae,gT,cond_true]
   simp [ef]
theorem M5 (c:CF) {m:List Int} (hm:Wm m) (hl:m.length≤1000) {f:FR} (hf:Wf f):lI c m f=some (iD c m f):=by
 unfold lI iD
 try simp only [Prod.eta]
 rw [bG (by omega),ae,MD,ae]
 cases h:nk c m f 4 with
 | false=>rfl
 | true=>
  obtain ⟨hmay,_,h6,h0,h1,h1'⟩:=G8 h
  rw [Bool.not_true,cond_false,if_neg (by simp)]
  obtain ⟨a0,a1,a2,a3,a4,a5,a6⟩:=f
  simp only at h6 h0 h1 h1' ⊢
  obtain ⟨w3,w4,w5⟩:=hf
  simp only at w3 w4 w5
  rcases (show a1=0∨a1=1∨a1=2∨a1=3∨a1=4 by omega) with rfl | rfl | rfl | rfl | rfl
  ·simp [d9,ae]
  ·simp only [HE w4.1 w4.2,d9,ae,Rt hmay w4.1 w4.2,Mx,gT,lP]
   by_cases h5:pZ (ah m (lF c a4)) (Ay c a4)=0
   ·simp [h5]
   ·by_cases h7:pZ (ah m (lF c a4)) (Ay c a4)<0
    ·simp [h5,h7,ef]
    ·simp [h5,h7]
  ·simp only [uq,Gp hl,ae]
   cases hc:(oh m 4 a4 (eC a4 1)).2 <;> simp [hc]
  ·simp only [R7 w4.1 w4.2,d9,ae]
   simp
  ·simp only [HE w4.1 w4.2,Rt hmay w4.1 w4.2,uq,iE hl,ae,gT]
   simp [ef]
theorem Es (c:CF) {m:List Int} (hm:Wm m) (hl:m.length≤1000) {f:FR} (hf:Wf f):bl c m f=some (Ag c m f):=by
 unfold bl Ag
 simp only [Prod.eta,LP c hm hl hf,M5 c hm hl hf,ae,lP]
 by_cases h3:f.1=3
 ·simp [h3]
 ·by_cases h4:f.1=4
  ·simp [h4]
  ·simp [h3,h4,bG (b:=8) (l:=m) (by omega),ae]
theorem DW {k:Nat} (hk:1000≤k) (c:CF) {m:List Int} (hm:Wm m) (hl:m.length≤1000) {f:FR} (hf:Wf f):bR k c m f=some (GL c m f):=by
 unfold bR GL
 simp only [Prod.eta,Un c hm hl hf,TR hk c hm hl hf,ae,lP]
 by_cases h5:f.1=5
 ·rw [decide_eq_true h5,cond_true,if_pos h5]
 ·rw [decide_eq_false h5,cond_false,if_neg h5]
  by_cases h6:f.1=6
  ·rw [decide_eq_true h6,cond_true,cond_true,if_pos (.inl h6)]
  ·rw [decide_eq_false h6,cond_false]
   by_cases h7:f.1=7
   ·rw [decide_eq_true h7,cond_true,if_pos (.inr h7)]
   ·rw [decide_eq_false h7,cond_false,if_neg (by omega),bG (by omega),ae]
theorem aaQ {m:List Int} (hl:m.length≤1000) (i v:Int):cS m i v=some (if 0≤i∧i<m.length then (au m i (eC (ah m i) v),ah m i) else (m,0)):=by
 unfold cS
 rw [bG (by omega),ae,abq,ae]
 by_cases h:0≤i∧i<m.length
 ·have hd:decide (0≤i∧i.toNat<m.length)=true:=decide_eq_true (by omega)
  rw [decide_eq_true h,Bool.not_true,cond_false,(lU h).1,ae,hd,cond_true,(lU h).2,ae,ae,if_pos h,uq]
  unfold au
  rw [if_pos h.1]
 ·rw [decide_eq_false h,Bool.not_false,cond_true,if_neg h]
theorem Sw {k:Nat} (hk:9223372036854775808≤k) (c:CF) {t:Tyt} (ht:Wt t) (m:List Int) (x:SB):fx k c t m x=some (rM c t m x):=by
 unfold fx rM
 simp only [Prod.eta,fU,AZ,ae]
 rw [Ju (k+4) (by omega) t ht]
 cases hm:cH c with
 | false=>rfl
 | true=>
  rw [cond_true,lP,Bool.true_and]
  by_cases h1:(m.length:Int)=bA c
  ·rw [decide_eq_true h1,cond_true,Bool.true_and,ae]
   cases ht2:nj t with
   | false=>rfl
   | true=>
    rw [cond_true,Bool.true_and]
    by_cases h2:0≤x.1
    ·rw [leT h2,cond_true]
     by_cases h3:x.1<6
     ·rw [ltT h3,cond_true]
      cases hl:x.2.1 with
      | nil=>simp
      | cons r rest=>
       have h0:idx (r::rest) 0=some r:=rfl
       rw [ltT (by simp),cond_true,h0,ae,ae]
       by_cases h4:0≤r
       ·rw [leT h4,cond_true]
        congr 1
        simp [h2,h3,fX,h4]
       ·rw [leF (by omega),cond_false]
        simp [fX,h4]
     ·rw [ltF (by omega),cond_false]
      simp [h3]
    ·rw [leF (by omega),cond_false]
     simp [h2]
  ·rw [decide_eq_false h1,cond_false]
   rfl
theorem uY {c:CF} {t:Tyt} {m:List Int} {x:SB} (h:rM c t m x=true):cH c=true∧(m.length:Int)=bA c∧nj t=true∧0≤x.1∧x.1<6∧∃ r rest,x.2.1=r::rest∧0≤r∧r<t.length:=by
 unfold rM at h
 simp only [Bool.and_eq_true,decide_eq_true_eq] at h
 obtain ⟨⟨⟨h1,h2⟩,h3⟩,h4,h5,h6,h7,h8⟩:=h
 cases hx:x.2.1 with
 | nil=>exact absurd hx h6
 | cons r rest=>
  rw [hx] at h7 h8
  exact ⟨h1,h2,h3,h4,h5,r,rest,rfl,h7,h8⟩
theorem oB {c:CF} (h:cH c=true):12≤bA c∧bA c≤190:=by
 have hm:=aF h
 have:=dj h (w:=c.1) (by omega) (by omega)
 unfold bA
 rw [if_pos h]
 have e:r6 c c.1=6+2*c.2.2.1+c.1*(3+c.2.1):=rfl
 have h3:1*(3+c.2.1)≤c.1*(3+c.2.1):=Int.mul_le_mul_of_nonneg_right (by omega) (by omega)
 omega
theorem S6 {k:Nat} (hk:9223372036854775808≤k) (c:CF) {t:Tyt} (ht:Wt t) {m:List Int} (hm:Wm m) (hl:m.length≤1000) (i:Int) {x:SB} (hf:Wf x.2.2) (hr:x.2.1.length≤1000) (ht2:t.length≤1000):fG k c t m i x=some (fE c t m i x):=by
 unfold fG fE
 try simp only [Prod.eta]
 rw [bG (by omega),ae,bG (by omega),ae,Sw (by omega) c ht,ae]
 cases hmay:rM c t m x with
 | false=>rfl
 | true=>
  rw [Bool.not_true,cond_false,if_neg (by simp)]
  obtain ⟨h1,h2,h3,h4,h5,r,rest,hx,h6,h7⟩:=uY hmay
  have hsz:=oB h1
  obtain ⟨pc,roots,F⟩:=x
  simp only at hx h4 h5 hf hr ⊢
  subst hx
  have hi0:idx (r::rest) 0=some r:=rfl
  have hroom:room 1 24=true:=rfl
  have hroom2:room 2 24=true:=rfl
  have hd:decide ((1:Int)≤((r::rest).length:Int))=true:=decide_eq_true (by simp;omega)
  have hdr:List.drop (Int.toNat 1) (r::rest)=rest:=rfl
  have hh:fX (r::rest)=r:=rfl
  have hur:IntKind.u64.wrap r=r:=kK h6 (by omega)
  have htl:(r::rest).tail=rest:=rfl
  rw [hi0,ae]
  simp only [Es c hm hl hf,DW (k:=k+20) (by omega) c hm hl hf,d9,aaQ hl,ae,mg,Uj,hroom,hroom2,hd,hdr,hh,htl,cond_true,hur,lP,E5]
  have hb:∀ op w v:Int,aG op w v=some (op,0,w,v,0,0,0):=fun _ _ _=>rfl
  simp only [hb,ae]
  have hin:(0:Int)≤0∧(0:Int)<m.length:=by omega
  have hcall:gK c m F=if F.1=3∨F.1=4 then Ag c m F else GL c m F:=rfl
  rcases (show pc=0∨pc=1∨pc=2∨pc=3∨pc=4∨pc=5 by omega) with rfl | rfl | rfl | rfl | rfl | rfl
  ·by_cases h:ah m 3=0
   ·simp [h]
   ·simp [h,cO]
  ·simp only [if_pos hin]
   simp
  ·by_cases e3:F.1=3
   ·have ec:gK c m F=Ag c m F:=by rw [hcall,if_pos (.inl e3)]
    rw [ec]
    cases ho:dE (Ag c m F).2 with
    | false=>simp [e3,ho]
    | true=>
     by_cases h8:(Ag c m F).2.2.2.2.2.2.2=2
     ·simp [e3,ho,h8]
     ·simp [e3,ho,h8]
   ·by_cases e4:F.1=4
    ·have ec:gK c m F=Ag c m F:=by rw [hcall,if_pos (.inr e4)]
     rw [ec]
     cases ho:dE (Ag c m F).2 with
     | false=>simp [e4,ho]
     | true=>
      by_cases h8:(Ag c m F).2.2.2.2.2.2.2=2
      ·simp [e4,ho,h8]
      ·simp [e4,ho,h8]
    ·have ec:gK c m F=GL c m F:=by rw [hcall,if_neg (by omega)]
     rw [ec]
     cases ho:dE (GL c m F).2 with
     | false=>simp [e3,e4,ho]
     | true=>
      by_cases h8:(GL c m F).2.2.2.2.2.2.2=2
      ·simp [e3,e4,ho,h8]
      ·simp [e3,e4,ho,h8]
  ·by_cases h:ah m 1=0
   ·simp [h]
   ·simp [h,cO]
  ·by_cases e3:F.1=3
   ·have ec:gK c m F=Ag c m F:=by rw [hcall,if_pos (.inl e3)]
    rw [ec]
    cases ho:dE (Ag c m F).2 with
    | false=>simp [e3,ho]
    | true=>simp [e3,ho,cO]
   ·by_cases e4:F.1=4
    ·have ec:gK c m F=Ag c m F:=by rw [hcall,if_pos (.inr e4)]
     rw [ec]
     cases ho:dE (Ag c m F).2 with
     | false=>simp [e4,ho]
     | true=>simp [e4,ho,cO]
    ·have ec:gK c m F=GL c m F:=by rw [hcall,if_neg (by omega)]
     rw [ec]
     cases ho:dE (GL c m F).2 with
     | false=>simp [e3,e4,ho]
     | true=>simp [e3,e4,ho,cO]
  ·simp only [if_pos hin]
   by_cases h:ah m 0=1
   ·simp [h,cO,hroom2]
   ·simp [h,cO]
end Go.Ab
set_option linter.unusedVariables false
namespace Go.Ab
def onW (c:CF) (w x:Int):Int:=if cH c=true∧0≤w∧w<c.1 then r6 c w+x else -1
def E3 (c:CF) (w:Int):Int:=onW c w 0
def Gl (c:CF) (w:Int):Int:=onW c w 1
def nR (c:CF) (w x:Int):Int:=onW c w (3+r8 .u64 x (c.2.1 - 1))
def J3 (a b:Int):Int:=(a - b)%18446744073709551616
def dP (c:CF) (m:List Int) (f:FR):List Int×FR:=
 if o8 c m f 0 4=false then (m,f)
 else if f.2.1=0 then (m,f.1,1,f.2.2.1,f.2.2.2.1,ah m (Gl c f.2.2.1),f.2.2.2.2.2)
 else if f.2.1=1 then (if c.2.1≤J3 f.2.2.2.2.1 (ah m (E3 c f.2.2.1)) then (m,ef f 2 f.2.2.2.1) else (m,f.1,2,f.2.2.1,f.2.2.2.1,f.2.2.2.2.1,ah m (E3 c f.2.2.1),f.2.2.2.2.2.2))
 else if f.2.1=2 then (au m (nR c f.2.2.1 f.2.2.2.2.1) f.2.2.2.1,f.1,3,f.2.2)
 else (au m (Gl c f.2.2.1) (eC f.2.2.2.2.1 1),ef f 1 f.2.2.2.1)
def gJ (c:CF) (m:List Int) (f:FR):List Int×FR:=
 if o8 c m f 1 7=false then (m,f)
 else if f.2.1=0 then (m,f.1,1,f.2.2.1,f.2.2.2.1,J3 (ah m (Gl c f.2.2.1)) 1,f.2.2.2.2.2)
 else if f.2.1=1 then (au m (Gl c f.2.2.1) f.2.2.2.2.1,f.1,2,f.2.2)
 else if f.2.1=2 then (m,f.1,if pZ f.2.2.2.2.1 (ah m (E3 c f.2.2.1))<0 then 6 else 3,f.2.2.1,f.2.2.2.1,f.2.2.2.2.1,ah m (E3 c f.2.2.1),f.2.2.2.2.2.2)
 else if f.2.1=3 then (if f.2.2.2.2.1≠f.2.2.2.2.2.1 then (m,ef f 1 (ah m (nR c f.2.2.1 f.2.2.2.2.1))) else (m,f.1,4,f.2.2.1,ah m (nR c f.2.2.1 f.2.2.2.2.1),f.2.2.2.2))
 else if f.2.1=4 then (let r:=oh m (E3 c f.2.2.1) f.2.2.2.2.2.1 (eC f.2.2.2.2.2.1 1);(r.1,f.1,if r.2=true then 5 else 6,f.2.2))
 else if f.2.1=5 then (au m (Gl c f.2.2.1) (eC f.2.2.2.2.1 1),ef f 1 f.2.2.2.1)
 else (au m (Gl c f.2.2.1) (eC f.2.2.2.2.1 1),ef f 3 0)
def bf (c:CF) (m:List Int) (f:FR):List Int×FR:=
 if o8 c m f 2 4=false then (m,f)
 else if f.2.1=0 then (m,f.1,1,f.2.2.1,f.2.2.2.1,f.2.2.2.2.1,ah m (E3 c f.2.2.1),f.2.2.2.2.2.2)
 else if f.2.1=1 then (if pZ (ah m (Gl c f.2.2.1)) f.2.2.2.2.2.1≤0 then (m,ef f 3 0) else (m,f.1,2,f.2.2.1,f.2.2.2.1,ah m (Gl c f.2.2.1),f.2.2.2.2.2))
 else if f.2.1=2 then (m,f.1,3,f.2.2.1,ah m (nR c f.2.2.1 f.2.2.2.2.2.1),f.2.2.2.2)
 else (let r:=oh m (E3 c f.2.2.1) f.2.2.2.2.2.1 (eC f.2.2.2.2.2.1 1);if r.2=true then (r.1,ef f 1 f.2.2.2.1) else (r.1,ef f 4 0))
def As (c:CF) (m:List Int) (f:FR):List Int×FR:=if f.1=0 then dP c m f else if f.1=1 then gJ c m f else if f.1=2 then bf c m f else (m,f)
def cR (c:CF) (m:List Int) (f:FR):List Int×FR:=if f.1=0∨f.1=1∨f.1=2 then As c m f else gK c m f
theorem YQ (a b:Int):IntKind.u64.wrap (a - b)=J3 a b:=by rw [f7];rfl
theorem NX (a b:Int):0≤J3 a b∧J3 a b≤18446744073709551615:=by unfold J3;omega
theorem BY {x D:Int} (h0:0≤x) (h1:x≤18446744073709551615) (hD:1≤D) (hE:D≤16):0≤r8 .u64 x (D - 1)∧r8 .u64 x (D - 1)≤D - 1:=by
 obtain ⟨a,rfl⟩:=Int.eq_ofNat_of_zero_le h0
 obtain ⟨b,hb⟩:∃ b:Nat,D - 1=(b:Int):=⟨(D - 1).toNat,by omega⟩
 rw [hb,ON (by omega) (by omega)]
 have:=Nat.and_le_right (n:=a) (m:=b)
 omega
theorem NF (c:CF) (w:Int):gr c w=some (E3 c w):=by
 unfold gr E3 onW
 try simp only [Prod.eta]
 rw [fU,ae]
 cases h:cH c with
 | false=>simp
 | true=>
  have hm:=aF h
  rw [Bool.not_true,cond_false,eo (by omega),Vm,ae]
  by_cases h1:0≤w∧w≤c.1 - 1
  ·have ht:=dj h h1.1 (by omega)
   rw [decide_eq_true h1,Bool.not_true,cond_false,EB h (by omega) (by omega),ae,if_pos ⟨rfl,by omega,by omega⟩,Int.add_zero]
  ·rw [decide_eq_false h1,Bool.not_false,cond_true,if_neg (by omega)]
theorem KO (c:CF) (w:Int):cV c w=some (Gl c w):=by
 unfold cV Gl onW
 try simp only [Prod.eta]
 rw [fU,ae]
 cases h:cH c with
 | false=>simp
 | true=>
  have hm:=aF h
  rw [Bool.not_true,cond_false,eo (by omega),Vm,ae]
  by_cases h1:0≤w∧w≤c.1 - 1
  ·have ht:=dj h h1.1 (by omega)
   rw [decide_eq_true h1,Bool.not_true,cond_false,EB h (by omega) (by omega),ae,eo (by omega),if_pos ⟨rfl,by omega,by omega⟩]
  ·rw [decide_eq_false h1,Bool.not_false,cond_true,if_neg (by omega)]
theorem Mn (c:CF) (w:Int) {x:Int} (h0:0≤x) (hx:x≤18446744073709551615):fw c w x=some (nR c w x):=by
 unfold fw nR onW
 try simp only [Prod.eta]
 rw [fU,ae]
 cases h:cH c with
 | false=>simp
 | true=>
  have hm:=aF h
  rw [Bool.not_true,cond_false,eo (z:=c.1 - 1) (by omega),Vm,ae]
  by_cases h1:0≤w∧w≤c.1 - 1
  ·have ht:=dj h h1.1 (by omega)
   have ha:=BY h0 hx (show 1≤c.2.1 by omega) (by omega)
   rw [decide_eq_true h1,Bool.not_true,cond_false,EB h (by omega) (by omega),ae,if_pos ⟨rfl,by omega,by omega⟩,eo (z:=c.2.1 - 1) (by omega),kK (z:=c.2.1 - 1) (by omega) (by omega),eo (z:=r8 .u64 x (c.2.1 - 1)) (by omega),eo (z:=r6 c w+3) (by omega),eo (by omega),Int.add_assoc]
  ·rw [decide_eq_false h1,Bool.not_false,cond_true,if_neg (by omega)]
section
variable (k:Nat) (c:CF) (m:List Int) (a2 a3 a4 a5:Int) (n:Nat) {x:List Int} (p q:Int)
theorem ZN:ao k c m (2,1,a2,a3,a4,a5,0) (n+1) x p q 0=ao k c m (2,1,a2,a3,a4,a5,0) n x p q 1:=by
 rw [ao]
 rfl
theorem aba:ao k c m (2,2,a2,a3,a4,a5,0) (n+1) x p q 0=ao k c m (2,2,a2,a3,a4,a5,0) n x p q 1:=by
 rw [ao]
 rfl
theorem aai:ao k c m (2,2,a2,a3,a4,a5,0) (n+1) x p q 1=ao k c m (2,2,a2,a3,a4,a5,0) n x p q 2:=by
 rw [ao]
 rfl
theorem aaE:ao k c m (2,3,a2,a3,a4,a5,0) (n+1) x p q 0=ao k c m (2,3,a2,a3,a4,a5,0) n x p q 1:=by
 rw [ao]
 rfl
theorem Z6:ao k c m (2,3,a2,a3,a4,a5,0) (n+1) x p q 1=ao k c m (2,3,a2,a3,a4,a5,0) n x p q 2:=by
 rw [ao]
 rfl
theorem XI:ao k c m (2,3,a2,a3,a4,a5,0) (n+1) x p q 2=ao k c m (2,3,a2,a3,a4,a5,0) n x p q 3:=by
 rw [ao]
 rfl
theorem aag:ao k c m (2,0,a2,a3,a4,a5,0) (n+1) x p q 0=some (x,(2,1,a2,a3,a4,ah x p,0)):=by
 have e:ao k c m (2,0,a2,a3,a4,a5,0) (n+1) x p q 0=ob (aH x p) fun r=>some (x,(2,1,a2,a3,a4,r,0)):=by
  rw [ao]
  rfl
 rw [e,d9,ae]
theorem WM:ao k c m (2,1,a2,a3,a4,a5,0) (n+1) x p q 1=some (if pZ (ah x q) a5≤0 then (x,(2,0,a2,0,0,0,3)) else (x,(2,2,a2,a3,ah x q,a5,0))):=by
 have e:ao k c m (2,1,a2,a3,a4,a5,0) (n+1) x p q 1=ob (aH x q) fun r=>ob (eJ r a5) fun y=>bif decide (y≤0) then some (x,(2,0,a2,0,0,0,3)) else some (x,(2,2,a2,a3,r,a5,0)):=by
  rw [ao]
  rfl
 rw [e,d9,ae,Mx,ae]
 by_cases h:pZ (ah x q) a5≤0
 ·rw [leT h,cond_true,if_pos h]
 ·rw [leF (by omega),cond_false,if_neg h]
theorem aau (h0:0≤a5) (h1:a5≤18446744073709551615):ao k c m (2,2,a2,a3,a4,a5,0) (n+1) x p q 2=some (x,(2,3,a2,ah x (nR c a2 a5),a4,a5,0)):=by
 have e:ao k c m (2,2,a2,a3,a4,a5,0) (n+1) x p q 2=ob (fw c a2 a5) fun s=>ob (aH x s) fun r=>some (x,(2,3,a2,r,a4,a5,0)):=by
  rw [ao]
  rfl
 rw [e,Mn c a2 h0 h1,ae,d9,ae]
theorem XB (hl:x.length≤1000):ao k c m (2,3,a2,a3,a4,a5,0) (n+1) x p q 3=some (if (oh x p a5 (eC a5 1)).2=true then ((oh x p a5 (eC a5 1)).1,(2,0,a2,a3,0,0,1)) else ((oh x p a5 (eC a5 1)).1,(2,0,a2,0,0,0,4))):=by
 have e:ao k c m (2,3,a2,a3,a4,a5,0) (n+1) x p q 3=ob (cT x p a5 (IntKind.u64.wrap (a5+1))) fun r=>bif r.2 then some (r.1,(2,0,a2,a3,0,0,1)) else some (r.1,(2,0,a2,0,0,0,4)):=by
  rw [ao]
  rfl
 rw [e,uq,Gp hl,ae]
 cases (oh x p a5 (eC a5 1)).2 <;> rfl
end
section
variable (c:CF) {m:List Int} (hm:Wm m) (hl:m.length≤1000) {f:FR} (hf:Wf f)
include hm hl hf
theorem JD:i9 c m f=some (dP c m f):=by
 have _h:=hm
 unfold i9 dP
 try simp only [Prod.eta]
 rw [bG (by omega),ae,Ip,ae]
 cases h:o8 c m f 0 4 with
 | false=>rfl
 | true=>
  obtain ⟨hmay,_,h6,h2,h2',h0,h1,h1'⟩:=B3 h
  have hc:=aF hmay
  rw [cond_true,if_neg (by simp)]
  obtain ⟨a0,a1,a2,a3,a4,a5,a6⟩:=f
  simp only at h6 h2 h2' h0 h1 h1' ⊢
  obtain ⟨w3,w4,w5⟩:=hf
  simp only at w3 w4 w5
  rcases (show a1=0∨a1=1∨a1=2∨a1=3 by omega) with rfl | rfl | rfl | rfl
  ·simp [KO,d9,ae]
  ·simp only [NF,d9,ae,gT,YQ,kK (z:=c.2.1) (by omega) (by omega)]
   by_cases h5:c.2.1≤J3 a4 (ah m (E3 c a2))
   ·simp [h5,ef]
   ·simp [h5]
  ·simp only [Mn c a2 w4.1 w4.2,iE hl,ae]
   simp
  ·simp only [KO,iE hl,ae,gT,uq]
   simp [ef]
theorem LM:kZ c m f=some (gJ c m f):=by
 have _h:=hm
 unfold kZ gJ
 try simp only [Prod.eta]
 rw [bG (by omega),ae,Ip,ae]
 cases h:o8 c m f 1 7 with
 | false=>rfl
 | true=>
  obtain ⟨hmay,_,h6,h2,h2',h0,h1,h1'⟩:=B3 h
  rw [Bool.not_true,cond_false,if_neg (by simp)]
  obtain ⟨a0,a1,a2,a3,a4,a5,a6⟩:=f
  simp only at h6 h2 h2' h0 h1 h1' ⊢
  obtain ⟨w3,w4,w5⟩:=hf
  simp only at w3 w4 w5
  rw [NF,ae,KO,ae]
  have hw:∀ z:Int,0≤z→z≤100→IntKind.i64.wrap (z+1)=z+1:=fun z _ _=>eo (by omega)
  rcases (show a1=0∨a1=1∨a1=2∨a1=3∨a1=4∨a1=5∨a1=6 by omega) with rfl | rfl | rfl | rfl | rfl | rfl | rfl
  ·rw [hw 0 (by decide) (by decide)]
   simp [d9,ae,YQ]
  ·rw [hw 1 (by decide) (by decide)]
   simp [iE hl,ae]
  ·rw [hw 2 (by decide) (by decide)]
   simp only [d9,ae,Mx]
   by_cases h5:pZ a4 (ah m (E3 c a2))<0
   ·simp [h5]
   ·simp [h5]
  ·rw [hw 3 (by decide) (by decide)]
   simp only [Mn c a2 w4.1 w4.2,d9,ae,gT,E5]
   by_cases h5:a4=a5
   ·simp [h5]
   ·simp [h5,ef]
  ·rw [hw 4 (by decide) (by decide)]
   simp only [uq,Gp hl,ae]
   cases hc:(oh m (E3 c a2) a5 (eC a5 1)).2 <;> simp [hc]
  ·simp only [uq,iE hl,ae,gT]
   simp [ef]
  ·simp only [uq,iE hl,ae,gT]
   simp [ef]
theorem FD (k:Nat):gw k c m f=some (bf c m f):=by
 have _h:=hm
 unfold gw bf
 try simp only [Prod.eta]
 rw [bG (by omega),ae,Ip,ae]
 cases h:o8 c m f 2 4 with
 | false=>rfl
 | true=>
  obtain ⟨hmay,_,h6,h2,h2',h0,h1,h1'⟩:=B3 h
  rw [Bool.not_true,cond_false,if_neg (by simp)]
  obtain ⟨a0,a1,a2,a3,a4,a5,a6⟩:=f
  simp only at h6 h2 h2' h0 h1 h1' ⊢
  obtain ⟨w3,w4,w5⟩:=hf
  simp only at w3 w4 w5
  subst h6
  subst h0
  rw [NF,ae,KO,ae]
  rcases (show a1=0∨a1=1∨a1=2∨a1=3 by omega) with rfl | rfl | rfl | rfl
  ·rw [if_pos rfl]
   exact aag k c m a2 a3 a4 a5 (k+22) _ _
  ·rw [if_neg (by decide),if_pos rfl]
   exact (ZN k c m a2 a3 a4 a5 (k+22) _ _).trans (WM k c m a2 a3 a4 a5 (k+21) _ _)
  ·rw [if_neg (by decide),if_neg (by decide),if_pos rfl]
   exact (aba k c m a2 a3 a4 a5 (k+22) _ _).trans ((aai k c m a2 a3 a4 a5 (k+21) _ _).trans (aau k c m a2 a3 a4 a5 (k+20) _ _ w5.1 w5.2))
  ·rw [if_neg (by decide),if_neg (by decide),if_neg (by decide)]
   exact (aaE k c m a2 a3 a4 a5 (k+22) _ _).trans ((Z6 k c m a2 a3 a4 a5 (k+21) _ _).trans ((XI k c m a2 a3 a4 a5 (k+20) _ _).trans (XB k c m a2 a3 a4 a5 (k+19) _ _ hl)))
theorem Ja (k:Nat):eu k c m f=some (As c m f):=by
 unfold eu As
 simp only [Prod.eta,JD c hm hl hf,LM c hm hl hf,FD c hm hl hf,ae,lP]
 by_cases h0:f.1=0
 ·simp [h0]
 ·by_cases h1:f.1=1
  ·simp [h1]
  ·by_cases h2:f.1=2
   ·simp [h2]
   ·simp [h0,h1,h2,bG (b:=8) (l:=m) (by omega),ae]
end
end Go.Ab
set_option maxRecDepth 100000
set_option linter.unusedVariables false
namespace Go.Ab
structure FwT (t:Tyt):Prop where
 len:t.length≤40
 kids:∀ x ∈ t,x.2.length≤40
theorem Yl {t:Tyt} (h:aao t=true):FwT t:=by
 simp only [aao,Bool.and_eq_true,decide_eq_true_eq,List.all_eq_true] at h
 refine ⟨h.2,fun x hx=>h.1 x ?_⟩
 rwa [List.take_of_length_le (by omega)]
theorem FwT.wt {t:Tyt} (h:FwT t):Wt t:=⟨by have:=h.len;omega,fun x hx=>by have:=h.kids x hx;omega⟩
def lS (t:Tyt) (q:Int):Int×List Int:=(t[q.toNat]?).getD (0,[])
def C7 (t:Tyt) (x:Int×Int×Int):Bool:=
 decide (0≤x.1)&&decide (x.1<t.length)&&(decide (0≤x.2.1)&&decide (x.2.1≤(lS t x.1).1))&&(decide (0≤x.2.2)&&decide (x.2.2≤((lS t x.1).2.length:Int))) &&
  !(decide (x.2.1<(lS t x.1).1)&&decide (0<x.2.2))
def bY (t:Tyt) (s:Tye):Bool:=nj t&&s.all (C7 t)
theorem MK {t:Tyt} {q:Int} (h0:0≤q) (h1:q<t.length):idx t q=some (lS t q):=by
 rw [idx,if_pos h0,lS,List.getElem?_eq_getElem (by omega)]
 rfl
theorem B2 {t:Tyt} {q:Int} (h0:0≤q) (h1:q<t.length):lS t q ∈ t:=by
 rw [lS,List.getElem?_eq_getElem (show q.toNat<t.length by omega)]
 exact List.getElem_mem _
theorem KM {α:Type} (b:Nat) (l:List α) (h:l.length*b≤70368744177664):aP b l=some l:=by
 unfold aP
 rw [afr,decide_eq_true h,cq]
theorem X3 (a b:Int):fB a b=some (decide (0≤a)&&decide (a≤b)):=by
 rw [fB]
 cases decide ((0:Int)≤a) <;> rfl
section
variable (k:Nat) (hk:9223372036854775808≤k)
include hk
theorem MB (t:Tyt) (ht:Wt t) (s:Tye) (hs:s.length≤9223372036854775807):fj k t s=some (bY t s):=by
 have hlen:=ht.len
 rw [fj,Ju k hk t ht,ae,bY]
 cases hm:nj t with
 | false=>rfl
 | true=>
  have h30:=Gx hm
  rw [cond_true,KY (F:=fun n i=>bH k n s (s.length:Int) t i) (l:=s) (fun x => !C7 t x) ?_ ?_ _ (by omega),ae,wP]
  ·rw [List.all_eq_not_any_not,Bool.true_and]
  ·intro n
   simp only [bH,AS,cond_false]
  ·intro n i x hi hx
   simp only [bH,ltN hi,cond_true,fZ hx,ae,X3]
   rw [gP (by omega),eo (z:=(t.length:Int) - 1) (by omega)]
   have e0:decide (x.1≤(t.length:Int) - 1)=decide (x.1<(t.length:Int)):=by
    by_cases h:x.1<(t.length:Int)
    ·rw [decide_eq_true h,decide_eq_true (by omega)]
    ·rw [decide_eq_false h,decide_eq_false (by omega)]
   rw [e0]
   unfold C7
   by_cases h0:0≤x.1
   ·by_cases h1:x.1<(t.length:Int)
    ·rw [leT h0,ltT h1,MK h0 h1,ae]
     simp only [Bool.and_self,Bool.not_true,cond_false,Bool.true_and]
     cases (decide (0≤x.2.1)&&decide (x.2.1≤(lS t x.1).1)) with
     | false=>rfl
     | true=>
      cases (decide (0≤x.2.2)&&decide (x.2.2≤((lS t x.1).2.length:Int))) with
      | false=>rfl
      | true=>
       cases decide (x.2.1<(lS t x.1).1) with
       | false=>rfl
       | true=>cases decide (0<x.2.2) <;> rfl
    ·rw [ltF (show (t.length:Int)≤x.1 by omega)]
     simp
   ·rw [leF (show x.1<0 by omega)]
    simp
end
def dp (t:Tyt) (s:Tye):Int×Int:=
 match s.getLast? with
 | none=>(0,0)
 | some x=>if bY t s=false then (0,0) else if x.2.1<(lS t x.1).1 then (1,x.1) else if x.2.2<((lS t x.1).2.length:Int) then (2,((lS t x.1).2[x.2.2.toNat]?).getD 0) else (3,x.1)
def doB (t:Tyt) (s:Tye):Tye:=
 match s.getLast? with
 | none=>s
 | some x=>if bY t s=false then s else if x.2.1<(lS t x.1).1 then s.dropLast++[(x.1,x.2.1+1,x.2.2)] else if x.2.2<((lS t x.1).2.length:Int) then s.dropLast++[(x.1,x.2.1,x.2.2+1)] else s.dropLast
def f4 (t:Tyt) (s:Tye) (q:Int):Tye:=
 if bY t s=true∧0≤q∧q<t.length then s++[(q,0,0)] else s
def Mb (t:Tyt) (x:Int×Int×Int):Int:=(lS t x.1).1 - x.2.1+((lS t x.1).2.length:Int) - x.2.2+1
def Je (t:Tyt) (s:Tye):Int:=if bY t s=true then (s.map (Mb t)).sum else 0
theorem iB {α:Type} (s:List α):s=[]∨∃ r x,s=r++[x]:=by
 rcases List.eq_nil_or_concat s with h | ⟨r,x,h⟩
 ·exact .inl h
 ·exact .inr ⟨r,x,by rw [h,List.concat_eq_append]⟩
theorem Iy {α:Type} (r:List α) (x:α):(((r++[x]).length:Nat):Int) - 1=(r.length:Int):=by simp
theorem IC {α:Type} (r:List α) (x:α):(r++[x])[r.length]? = some x:=by simp
theorem OU {α:Type} (r:List α) (x y:α):(r++[x]).set r.length y=r++[y]:=by simp
theorem ML {α:Type} (r:List α) (x:α):(r++[x]).take r.length=r:=by simp
theorem na (t:Tyt) (r:Tye) (x:Int×Int×Int):dp t (r++[x])=if bY t (r++[x])=false then (0,0) else if x.2.1<(lS t x.1).1 then (1,x.1) else if x.2.2<((lS t x.1).2.length:Int) then (2,((lS t x.1).2[x.2.2.toNat]?).getD 0) else (3,x.1):=by
 simp [dp]
theorem r9 (t:Tyt) (r:Tye) (x:Int×Int×Int):doB t (r++[x])=if bY t (r++[x])=false then r++[x] else if x.2.1<(lS t x.1).1 then r++[(x.1,x.2.1+1,x.2.2)] else if x.2.2<((lS t x.1).2.length:Int) then r++[(x.1,x.2.1,x.2.2+1)] else r:=by
 simp [doB]
theorem U3 (t:Tyt) (s:Tye):(doB t s).length≤s.length:=by
 rcases iB s with rfl | ⟨r,x,rfl⟩
 ·simp [doB]
 ·rw [r9]
  split
  ·exact Nat.le_refl _
  ·split
   ·simp
   ·split <;> simp
theorem I0 (t:Tyt) (s:Tye) (q:Int):(f4 t s q).length≤s.length+1:=by
 unfold f4
 split <;> simp
structure It (t:Tyt) (x:Int×Int×Int):Prop where
 h0:0≤x.1
 h1:x.1<t.length
 d0:0≤x.2.1
 d1:x.2.1≤(lS t x.1).1
 c0:0≤x.2.2
 c1:x.2.2≤((lS t x.1).2.length:Int)
 z:x.2.1<(lS t x.1).1→x.2.2=0
theorem Ik {t:Tyt} {x:Int×Int×Int}:C7 t x=true↔It t x:=by
 simp only [C7,Bool.and_eq_true,decide_eq_true_eq,Bool.not_eq_true',Bool.and_eq_false_iff,decide_eq_false_iff_not]
 constructor
 ·rintro ⟨⟨⟨⟨a,b⟩,c,d⟩,e,f⟩,g⟩
  exact ⟨a,b,c,d,e,f,fun h=>by rcases g with g | g <;> omega⟩
 ·rintro ⟨a,b,c,d,e,f,g⟩
  refine ⟨⟨⟨⟨a,b⟩,c,d⟩,e,f⟩,?_⟩
  by_cases h:x.2.1<(lS t x.1).1
  ·exact .inr (by have:=g h;omega)
  ·exact .inl h
theorem gm {t:Tyt} {r:Tye} {x:Int×Int×Int}:bY t (r++[x])=true↔nj t=true∧(∀ y ∈ r,It t y)∧It t x:=by
 simp only [bY,Bool.and_eq_true,List.all_eq_true,List.mem_append,List.mem_singleton,Ik]
 constructor
 ·rintro ⟨a,b⟩
  exact ⟨a,fun y hy=>b y (.inl hy),b x (.inr rfl)⟩
 ·rintro ⟨a,b,c⟩
  refine ⟨a,fun y hy => ?_⟩
  rcases hy with h | rfl
  ·exact b y h
  ·exact c
theorem lB {t:Tyt} {r:Tye}:bY t r=true↔nj t=true∧(∀ y ∈ r,It t y):=by
 simp only [bY,Bool.and_eq_true,List.all_eq_true,Ik]
section
variable (k:Nat) (hk:9223372036854775808≤k)
include hk
theorem KV (t:Tyt) (ht:Wt t) (s:Tye) (hs:s.length≤1048576):dH k t s=some (dp t s):=by
 rw [dH]
 rcases iB s with rfl | ⟨r,x,rfl⟩
 ·rfl
 ·have hr:r.length+1≤1048576:=by simpa using hs
  have e1:((((r++[x]).length:Nat):Int)==0)=false:=by simp;omega
  rw [e1,cond_false,MB k hk t ht _ (by omega),ae,na]
  cases h:bY t (r++[x]) with
  | false=>rfl
  | true=>
   obtain ⟨hm,hr',hx⟩:=gm.1 h
   have hl:=ht.kids _ (B2 hx.h0 hx.h1)
   rw [Bool.not_true,cond_false,Iy,eo (by omega),fZ (IC r x),ae,MK hx.h0 hx.h1,ae,if_neg (show ¬ (true=false) by simp)]
   by_cases h1:x.2.1<(lS t x.1).1
   ·rw [ltT h1,cond_true,if_pos h1]
   ·rw [ltF (by omega),cond_false,if_neg h1]
    by_cases h2:x.2.2<((lS t x.1).2.length:Int)
    ·have:=hx.c0
     rw [ltT h2,cond_true,if_pos h2,idx,if_pos hx.c0,List.getElem?_eq_getElem (by omega),ae]
     rfl
    ·rw [ltF (by omega),cond_false,if_neg h2]
theorem acK (t:Tyt) (ht:Wt t) (s:Tye) (hs:s.length≤1048576):fy k t s=some (doB t s):=by
 rw [fy,KM _ _ (by omega),ae,KV k hk t ht s hs,ae]
 rcases iB s with rfl | ⟨r,x,rfl⟩
 ·rfl
 ·have hr:r.length+1≤1048576:=by simpa using hs
  rw [Iy,eo (by omega),na,r9,Int.toNat_natCast,IC,ML]
  simp only [OU,ae]
  have e1:decide ((0:Int)≤(r.length:Int)∧r.length<(r++[x]).length)=true:=by simp
  have e2:decide ((0:Int)≤(r.length:Int)∧r.length≤(r++[x]).length)=true:=by simp
  have e3:decide (r.length≤(r++[x]).length)=true:=by simp
  rw [e1,e2,e3]
  cases h:bY t (r++[x]) with
  | false=>rfl
  | true=>
   obtain ⟨hm,hr',hx⟩:=gm.1 h
   have hw:=(AE hm).work _ (B2 hx.h0 hx.h1)
   have hl:=ht.kids _ (B2 hx.h0 hx.h1)
   have:=hx.d0
   have:=hx.c0
   rw [if_neg (show ¬ (true=false) by simp),if_neg (show ¬ (true=false) by simp)]
   by_cases h1:x.2.1<(lS t x.1).1
   ·rw [if_pos h1,if_pos h1]
    simp only [beq_self_eq_true,cond_true]
    rw [eo (by omega)]
   ·rw [if_neg h1,if_neg h1]
    by_cases h2:x.2.2<((lS t x.1).2.length:Int)
    ·rw [if_pos h2,if_pos h2]
     simp only [Int.reduceBEq,cond_true,cond_false]
     rw [eo (by omega)]
    ·rw [if_neg h2,if_neg h2]
     rfl
theorem Qq (t:Tyt) (ht:Wt t) (s:Tye) (hs:s.length≤1048576) (q:Int):cU k t s q=some (f4 t s q):=by
 have hlen:=ht.len
 rw [cU,KM _ _ (by omega),ae,MB k hk t ht s (by omega),ae,f4]
 cases h:bY t s with
 | false=>simp
 | true=>
  have h30:=Gx (lB.1 h).1
  rw [Bool.not_true,cond_false,X3,ae,eo (by omega)]
  by_cases h0:0≤q
  ·by_cases h1:q<t.length
   ·have e2:room (s++[(q,(0:Int),(0:Int))]).length 24=true:=Fj (by simp;omega)
    rw [leT h0,leT (show q≤(t.length:Int) - 1 by omega),Bool.and_self,Bool.not_true,cond_false,e2,cond_true,if_pos ⟨rfl,h0,h1⟩]
   ·rw [leF (show (t.length:Int) - 1<q by omega),if_neg (by omega)]
    simp
  ·rw [leF (show q<0 by omega),if_neg (by omega)]
   simp
end
theorem W3 {t:Tyt} {q:Int} (hm:nj t=true) (h0:0≤q) (h1:q<t.length):It t (q,0,0):=
 ⟨h0,h1,by simp,((AE hm).work _ (B2 h0 h1)).1,by simp,by simp,fun _=>rfl⟩
theorem wH {t:Tyt} {r:Tye} {x:Int×Int×Int} (h:bY t (r++[x])=true):Je t (r++[x])=Je t r+Mb t x:=by
 obtain ⟨a,b,c⟩:=gm.1 h
 rw [Je,if_pos h,Je,if_pos (lB.2 ⟨a,b⟩),List.map_append,List.sum_append]
 simp
theorem OM {t:Tyt} {r:Tye} {x:Int×Int×Int} (h:bY t (r++[x])=true):bY t (doB t (r++[x]))=true∧Je t (doB t (r++[x]))=Je t (r++[x]) - 1:=by
 obtain ⟨a,b,c⟩:=gm.1 h
 obtain ⟨q0,q1,q2,q3,q4,q5,q6⟩:=c
 rw [wH h,r9,if_neg (by simp [h])]
 split
 ·rename_i h1
  have h2:bY t (r++[(x.1,x.2.1+1,x.2.2)])=true:=gm.2 ⟨a,b,⟨q0,q1,by simp only;omega,by simp only;omega,q4,q5,fun _=>q6 h1⟩⟩
  refine ⟨h2,?_⟩
  rw [wH h2]
  unfold Mb
  simp only
  omega
 ·rename_i h1
  split
  ·rename_i h3
   have h2:bY t (r++[(x.1,x.2.1,x.2.2+1)])=true:=gm.2 ⟨a,b,⟨q0,q1,q2,q3,by simp only;omega,by simp only;omega,fun h=>absurd h h1⟩⟩
   refine ⟨h2,?_⟩
   rw [wH h2]
   unfold Mb
   simp only
   omega
  ·rename_i h3
   refine ⟨lB.2 ⟨a,b⟩,?_⟩
   unfold Mb
   omega
end Go.Ab
set_option linter.unusedVariables false
namespace Go.Ab
abbrev WB:=Int×Tye×FR×Int×Int
def rP (op w v:Int):FR:=(op,0,w,v,0,0,0)
def dD (c:CF) (t:Tyt) (m:List Int) (w:Int) (x:WB):Bool:=cH c&&decide ((m.length:Int)=bA c)&&nj t&&decide (0≤w∧w<c.1∧0≤x.1∧x.1<16)&&bY t x.2.1
def Ax (d w W:Int):Int:=if W<2∨w<0∨W≤w then -1 else (w+1+d%(W - 1))%W
def toW (pc:Int) (x:WB):WB:=(pc,x.2.1,cO,x.2.2.2)
def gN (pc op w v:Int) (x:WB):WB:=(pc,x.2.1,rP op w v,x.2.2.2)
def uV:Int:=18446744073709551615
def JX (v:Int):Int:=IntKind.i64.wrap v
abbrev WR:=List Int×WB×List EV
def Fq (c:CF) (t:Tyt) (m:List Int) (w:Int) (x:WB):WR:=
 let r:=cR c m x.2.2.1
 if dE r.2=false then (r.1,(x.1,x.2.1,r.2,x.2.2.2),[])
 else if r.2.2.2.2.2.2.2≠1 then (r.1,toW 1 x,[])
 else (r.1,(9,f4 t x.2.1 (JX r.2.2.2.2.1),cO,x.2.2.2),[(2,JX r.2.2.2.2.1,w)])
def rI (c:CF) (m:List Int) (w:Int) (x:WB):WR:=(au m 1 (eC (ah m 1) 1),(2,x.2.1,rP 4 w 0,c.2.2.2,x.2.2.2.2),[])
def lW (c:CF) (m:List Int) (w:Int) (x:WB) (d:Int):WR:=
 let r:=cR c m x.2.2.1
 if dE r.2=false then (r.1,(x.1,x.2.1,r.2,x.2.2.2),[])
 else if r.2.2.2.2.2.2.2=1 then (r.1,(4,x.2.1,r.2,x.2.2.2),[])
 else if x.1=2∧0≤Ax d w c.1 then (r.1,gN 3 2 (Ax d w c.1) 0 x,[])
 else if x.2.2.2.1≤0 then (r.1,gN 5 5 w 0 x,[])
 else (r.1,(2,x.2.1,rP 4 w 0,x.2.2.2.1 - 1,x.2.2.2.2),[])
def iS (t:Tyt) (m:List Int) (w:Int) (x:WB):WR:=
 (au m 1 (eC (ah m 1) uV),(if ah m 1=1 then 14 else 9,f4 t x.2.1 (JX x.2.2.1.2.2.2.1),if ah m 1=1 then rP 6 w 0 else cO,x.2.2.2),[(2,JX x.2.2.1.2.2.2.1,w)])
def rb (c:CF) (m:List Int) (x:WB):WR:=let r:=cR c m x.2.2.1;(r.1,(6,x.2.1,r.2,x.2.2.2),[])
def mj (m:List Int) (x:WB):WR:=(au m 1 (eC (ah m 1) uV),(7,x.2.1,x.2.2.1,x.2.2.2.1,0),[])
def B9 (f:FR) (v:Int):FR:=(f.1,f.2.1,f.2.2.1,v,f.2.2.2.2)
def dX (c:CF) (m:List Int) (x:WB):WR:=
 let k:=x.2.2.2.2
 let most:=2+2*c.1
 let v:=(k - 2)/2
 if k<0∨most≤k then (m,(8,x.2.1,B9 x.2.2.1 0,x.2.2.2.1,0),[])
 else
  let f:=if k=0 then B9 x.2.2.1 (ah m 4) else if k=1 then x.2.2.1 else if k%2=0 then B9 x.2.2.1 (ah m (E3 c v)) else x.2.2.1
  let some:=if k=0 then false else if k=1 then decide (ah m 5≠f.2.2.2.1) else if k%2=0 then false else decide (0<pZ (ah m (Gl c v)) f.2.2.2.1)
  if some=true then (m,toW 1 x,[])
  else if k+1=most then (m,(8,x.2.1,B9 f 0,x.2.2.2.1,0),[])
  else (m,(7,x.2.1,f,x.2.2.2.1,k+1),[])
def fM (c:CF) (m:List Int) (x:WB):WR:=let r:=cR c m x.2.2.1;if dE r.2=true then (r.1,toW 1 x,[]) else (r.1,(x.1,x.2.1,r.2,x.2.2.2),[])
def G4 (t:Tyt) (m:List Int) (w:Int) (x:WB):WR:=
 let a:=dp t x.2.1
 if a.1=1 then (m,(x.1,doB t x.2.1,x.2.2),[]) else if a.1=2 then (m,(10,x.2),[]) else if a.1=3 then (m,(15,x.2),[]) else (m,gN 0 1 w 0 x,[])
def pb (t:Tyt) (m:List Int) (w:Int) (x:WB):WR:=
 let a:=dp t x.2.1
 if a.1≠2 then (m,toW 9 x,[]) else (au m 0 (eC (ah m 0) 1),(11,doB t x.2.1,rP 0 w (IntKind.u64.wrap a.2),x.2.2.2),[(3,a.2,w)])
def nO (c:CF) (m:List Int) (w:Int) (x:WB):WR:=
 let r:=cR c m x.2.2.1
 if dE r.2=false then (r.1,(x.1,x.2.1,r.2,x.2.2.2),[]) else if r.2.2.2.2.2.2.2=2 then (r.1,gN 12 3 w r.2.2.2.2.1 x,[]) else (r.1,toW 13 x,[])
def og (c:CF) (t:Tyt) (m:List Int) (w:Int) (x:WB):WR:=
 let r:=cR c m x.2.2.1
 if dE r.2=false then (r.1,(x.1,x.2.1,r.2,x.2.2.2),[])
 else if r.2.2.2.2.2.2.2=2 then (r.1,(9,f4 t x.2.1 (JX r.2.2.2.2.1),cO,x.2.2.2),[(2,JX r.2.2.2.2.1,w)]) else (r.1,toW 13 x,[])
def FU (m:List Int) (w:Int) (x:WB):WR:=if ah m 1=0 then (m,gN 14 6 w 0 x,[]) else (m,toW 9 x,[])
def oH (c:CF) (m:List Int) (x:WB):WR:=let r:=cR c m x.2.2.1;if dE r.2=true then (r.1,toW 9 x,[]) else (r.1,(x.1,x.2.1,r.2,x.2.2.2),[])
def o6 (t:Tyt) (m:List Int) (w:Int) (x:WB):WR:=
 let a:=dp t x.2.1
 if a.1≠3 then (m,toW 9 x,[])
 else (au m 0 (eC (ah m 0) uV),(if doB t x.2.1=[] then (0,[],rP 1 w 0,x.2.2.2) else (9,doB t x.2.1,cO,x.2.2.2)),if ah m 0=1 then [(4,a.2,w),(5,0,w)] else [(4,a.2,w)])
def bg (c:CF) (t:Tyt) (m:List Int) (w:Int) (x:WB) (d:Int):WR:=
 if dD c t m w x=false then (m,x,[])
 else if x.1=0 then Fq c t m w x else if x.1=1 then rI c m w x else if x.1=2∨x.1=3 then lW c m w x d else if x.1=4 then iS t m w x
 else if x.1=5 then rb c m x else if x.1=6 then mj m x else if x.1=7 then dX c m x else if x.1=8 then fM c m x
 else if x.1=9 then G4 t m w x else if x.1=10 then pb t m w x else if x.1=11 then nO c m w x else if x.1=12 then og c t m w x
 else if x.1=13 then FU m w x else if x.1=14 then oH c m x else o6 t m w x
theorem YF {d w W:Int} (hd:0≤d∧d≤18446744073709551615) (hW:W≤8):eP d w W=some (Ax d w W):=by
 unfold eP Ax
 by_cases h2:W<2
 ·rw [ltT h2,cond_true,if_pos (.inl h2)]
 ·rw [ltF (by omega),cond_false]
  unfold da
  by_cases h0:0≤w
  ·rw [leT h0,cond_true]
   by_cases h1:w<W
   ·rw [ltT h1,ae,Bool.not_true,cond_false,if_neg (by omega),kK (z:=W) (by omega) (by omega),kK (z:=W - 1) (by omega) (by omega),kK (z:=w) (by omega) (by omega),kK (z:=w+1) (by omega) (by omega),E5,decide_eq_false (by omega),Bool.not_false,cond_true,E5,decide_eq_false (by omega),Bool.not_false,cond_true,Int.tmod_eq_emod_of_nonneg hd.1]
    have e1:=Int.emod_nonneg d (show W - 1≠0 by omega)
    have e2:=Int.emod_lt_of_pos d (show 0<W - 1 by omega)
    have e3:=Int.emod_nonneg (w+1+d%(W - 1)) (show W≠0 by omega)
    have e4:=Int.emod_lt_of_pos (w+1+d%(W - 1)) (show 0<W by omega)
    rw [kK (by omega) (by omega),Int.tmod_eq_emod_of_nonneg (by omega),eo (by omega)]
   ·rw [ltF (by omega),ae,Bool.not_false,cond_true,if_pos (by omega)]
  ·rw [leF (by omega),cond_false,ae,Bool.not_false,cond_true,if_pos (by omega)]
theorem Kj {k:Nat} (hk:9223372036854775808≤k) (c:CF) {t:Tyt} (ht:Wt t) (m:List Int) (w:Int) (x:WB) (hs:x.2.1.length≤9000):iu k c t m w x=some (dD c t m w x):=by
 unfold iu dD
 simp only [Prod.eta,fU,AZ,ae]
 rw [Ju (k+4) (by omega) t ht,MB (k+3) (by omega) t ht x.2.1 (by omega)]
 cases hm:cH c with
 | false=>rfl
 | true=>
  rw [cond_true,lP,Bool.true_and]
  by_cases h1:(m.length:Int)=bA c
  ·rw [decide_eq_true h1,cond_true,Bool.true_and,ae]
   cases ht2:nj t with
   | false=>rfl
   | true=>
    rw [cond_true,Bool.true_and]
    by_cases h2:0≤w
    ·rw [leT h2,cond_true]
     by_cases h3:w<c.1
     ·rw [ltT h3,cond_true]
      by_cases h4:0≤x.1
      ·rw [leT h4,cond_true]
       by_cases h5:x.1<16
       ·rw [ltT h5,cond_true,ae,decide_eq_true ⟨h2,h3,h4,h5⟩,Bool.true_and]
       ·rw [ltF (by omega),cond_false,decide_eq_false (by omega)];rfl
      ·rw [leF (by omega),cond_false,decide_eq_false (by omega)];rfl
     ·rw [ltF (by omega),cond_false,decide_eq_false (by omega)];rfl
    ·rw [leF (by omega),cond_false,decide_eq_false (by omega)];rfl
  ·rw [decide_eq_false h1,cond_false]
   rfl
theorem SU (w:Int):nc w=some (0,[],rP 1 w 0,0,0):=rfl
end Go.Ab
set_option linter.unusedVariables false
set_option linter.unusedSimpArgs false
set_option maxRecDepth 100000
set_option maxHeartbeats 4000000
namespace Go.Ab
theorem b6 (op w v:Int):aG op w v=some (rP op w v):=rfl
theorem D3:room 1 24=true:=rfl
theorem aaV:room 2 24=true:=rfl
theorem ua {a b:Int} (h:a=b):(a==b)=true:=by simp [h]
theorem bD {a b:Int} (h:a≠b):(a==b)=false:=by simp [h]
theorem JS (c:CF) (m:List Int) (f:FR):(As c m f=cR c m f∧((f.1==0)=true∨(f.1==0)=false∧((f.1==1)=true∨(f.1==1)=false∧(f.1==2)=true)))∨(Ag c m f=cR c m f∧(f.1==0)=false∧(f.1==1)=false∧(f.1==2)=false∧((f.1==3)=true∨(f.1==3)=false∧(f.1==4)=true))∨(GL c m f=cR c m f∧(f.1==0)=false∧(f.1==1)=false∧(f.1==2)=false∧(f.1==3)=false∧(f.1==4)=false):=by
 unfold cR gK
 simp only [lP,decide_eq_true_eq,decide_eq_false_iff_not]
 by_cases h:f.1=0∨f.1=1∨f.1=2
 ·rw [if_pos h];exact .inl ⟨rfl,by omega⟩
 ·rw [if_neg h]
  by_cases g:f.1=3∨f.1=4
  ·rw [if_pos g];exact .inr (.inl ⟨rfl,by omega⟩)
  ·rw [if_neg g];exact .inr (.inr ⟨rfl,by omega⟩)
section
variable {k:Nat} (hk:9223372036854779000≤k) (c:CF) {t:Tyt} (ht:Wt t) {m:List Int} (hm:Wm m) (hl:m.length≤1000) (w:Int) {x:WB} (hf:Wf x.2.2.1) (hs:x.2.1.length≤9000) (hsp:x.2.2.2.1≤9223372036854775807) {d:Int} (hd:0≤d∧d≤18446744073709551615)
include hk ht hm hl hf hs hsp hd
theorem UZ {β:Type} (K:List Int×FR→Option β):we k c m x.2.2.1 K=K (cR c m x.2.2.1):=by
 have _h:=And.intro hsp hd
 have _h2:=And.intro ht hs
 have hdk:=Ja c hm hl hf (k+31)
 have hij:=Es c hm hl hf
 have hev:=DW (k:=k+40) (by omega) c hm hl hf
 unfold we
 rcases JS c m x.2.2.1 with ⟨h,e | ⟨e,e1 | e1⟩⟩ | ⟨h,e,e1,e2,e3 | e3⟩ | ⟨h,e⟩
 all_goals simp only [*,cond_true,cond_false,ae]
theorem OS:iG k c t m w x d=some (bg c t m w x d):=by
 have _h1:=hsp
 have _h2:=hd
 unfold iG
 try simp only [Prod.eta]
 rw [bG (by omega),ae,bG (by omega),ae,Kj (by omega) c ht m w x hs,ae]
 cases hmay:dD c t m w x with
 | false=>
  unfold bg
  rw [hmay]
  rfl
 | true=>
  rw [Bool.not_true,cond_false]
  have hb:cH c=true∧(m.length:Int)=bA c∧0≤w∧w<c.1∧0≤x.1∧x.1<16:=by
   unfold dD at hmay
   simp only [Bool.and_eq_true,decide_eq_true_eq] at hmay
   exact ⟨hmay.1.1.1.1,hmay.1.1.1.2,hmay.1.2⟩
  obtain ⟨hmc,hlen,hw0,hw1,hp0,hp1⟩:=hb
  have hc:=aF hmc
  have hsz:=oB hmc
  have hadd:∀ i v:Int,0≤i→i<2→cS m i v=some (au m i (eC (ah m i) v),ah m i):=fun i v h0 h1=>by rw [aaQ hl,if_pos (by omega)]
  have hcg:=fun K=>UZ (k:=k) (β:=List Int×WB×List EV) hk c ht hm hl hf hs hsp hd K
  have hst:=fun q=>Qq (k+36) (by omega) t ht x.2.1 (by omega) q
  have hdo:=acK (k+36) (by omega) t ht x.2.1 (by omega)
  have hnx:=KV (k+37) (by omega) t ht x.2.1 (by omega)
  have hvi:=YF (w:=w) (W:=c.1) hd (by omega)
  rcases (show x.1=0∨x.1=1∨x.1=2∨x.1=3∨x.1=4∨x.1=5∨x.1=6∨x.1=7∨x.1=8∨x.1=9∨x.1=10∨x.1=11∨x.1=12∨x.1=13∨x.1=14∨x.1=15 by omega) with hp | hp | hp | hp | hp | hp | hp | hp | hp | hp | hp | hp | hp | hp | hp | hp
  ·have hW:bg c t m w x d=Fq c t m w x:=by unfold bg;rw [hmay];simp [hp]
   rw [hW]
   rw [ua hp,cond_true]
   unfold Fq
   rw [hcg]
   simp only [cond_true,cond_false,ae,mg,Prod.eta,b6]
   generalize cR c m x.2.2.1=r
   cases ho:dE r.2 with
   | false=>simp [ho,hp]
   | true=>
    by_cases h9:r.2.2.2.2.2.2.2=1
    ·simp [ho,h9,hst,ae,D3,cO,JX]
    ·have q9:(r.2.2.2.2.2.2.2 !=1)=true:=by simp [h9]
     simp [ho,h9,q9,toW,cO]
  ·have hW:bg c t m w x d=rI c m w x:=by unfold bg;rw [hmay];simp [hp]
   rw [hW]
   rw [bD (show x.1≠0 by omega),cond_false,ua hp,cond_true]
   rw [hadd 1 1 (by decide) (by decide),ae,b6,ae]
   rfl
  ·have hW:bg c t m w x d=lW c m w x d:=by unfold bg;rw [hmay];simp [hp]
   rw [hW]
   rw [bD (show x.1≠0 by omega),cond_false,bD (show x.1≠1 by omega),cond_false,ua hp,cond_true]
   rw [hvi,ae]
   unfold lW
   rw [hcg]
   simp only [cond_true,cond_false,ae,mg,Prod.eta,b6,ua hp]
   generalize cR c m x.2.2.1=r
   cases ho:dE r.2 with
   | false=>simp [ho,hp]
   | true=>
    by_cases h9:r.2.2.2.2.2.2.2=1
    ·simp [ho,h9]
    ·have q9:=bD h9
     by_cases h8:0≤Ax d w c.1
     ·simp [ho,h9,q9,hp,h8,gN]
     ·by_cases h7:x.2.2.2.1≤0
      ·simp [ho,h9,q9,hp,h8,h7,gN]
      ·rw [eo (z:=x.2.2.2.1 - 1) (by omega)]
       simp [ho,h9,q9,hp,h8,h7,gN]
  ·have hW:bg c t m w x d=lW c m w x d:=by unfold bg;rw [hmay];simp [hp]
   rw [hW]
   rw [bD (show x.1≠0 by omega),cond_false,bD (show x.1≠1 by omega),cond_false,bD (show x.1≠2 by omega),cond_false,ua hp,cond_true]
   rw [hvi,ae]
   unfold lW
   rw [hcg]
   simp only [cond_true,cond_false,ae,mg,Prod.eta,b6,bD (show x.1≠2 by omega)]
   generalize cR c m x.2.2.1=r
   cases ho:dE r.2 with
   | false=>simp [ho,hp]
   | true=>
    by_cases h9:r.2.2.2.2.2.2.2=1
    ·simp [ho,h9]
    ·have q9:=bD h9
     by_cases h7:x.2.2.2.1≤0
     ·simp [ho,h9,q9,hp,h7,gN]
     ·rw [eo (z:=x.2.2.2.1 - 1) (by omega)]
      simp [ho,h9,q9,hp,h7,gN]
  ·have hW:bg c t m w x d=iS t m w x:=by unfold bg;rw [hmay];simp [hp]
   rw [hW]
   rw [bD (show x.1≠0 by omega),cond_false,bD (show x.1≠1 by omega),cond_false,bD (show x.1≠2 by omega),cond_false,bD (show x.1≠3 by omega),cond_false,ua hp,cond_true]
   rw [hadd 1 _ (by decide) (by decide),ae,b6,ae,hst,ae,ae,D3,cond_true,cond_true,lP]
   by_cases h9:ah m 1=1
   ·simp [iS,h9,uV,JX]
   ·simp [iS,h9,uV,JX,cO]
  ·have hW:bg c t m w x d=rb c m x:=by unfold bg;rw [hmay];simp [hp]
   rw [hW]
   rw [bD (show x.1≠0 by omega),cond_false,bD (show x.1≠1 by omega),cond_false,bD (show x.1≠2 by omega),cond_false,bD (show x.1≠3 by omega),cond_false,bD (show x.1≠4 by omega),cond_false,ua hp,cond_true]
   unfold rb
   rw [hcg]
   simp only [cond_true,cond_false,ae,mg,Prod.eta,b6]
  ·have hW:bg c t m w x d=mj m x:=by unfold bg;rw [hmay];simp [hp]
   rw [hW]
   rw [bD (show x.1≠0 by omega),cond_false,bD (show x.1≠1 by omega),cond_false,bD (show x.1≠2 by omega),cond_false,bD (show x.1≠3 by omega),cond_false,bD (show x.1≠4 by omega),cond_false,bD (show x.1≠5 by omega),cond_false,ua hp,cond_true]
   rw [hadd 1 _ (by decide) (by decide),ae]
   rfl
  ·have hW:bg c t m w x d=dX c m x:=by unfold bg;rw [hmay];simp [hp]
   rw [hW]
   rw [bD (show x.1≠0 by omega),cond_false,bD (show x.1≠1 by omega),cond_false,bD (show x.1≠2 by omega),cond_false,bD (show x.1≠3 by omega),cond_false,bD (show x.1≠4 by omega),cond_false,bD (show x.1≠5 by omega),cond_false,bD (show x.1≠6 by omega),cond_false,ua hp,cond_true]
   have hM:IntKind.i64.wrap (2+IntKind.i64.wrap (2*c.1))=2+2*c.1:=by rw [eo (z:=2*c.1) (by omega),eo (by omega)]
   rw [hM]
   by_cases h1:x.2.2.2.2<0
   ·rw [ltT h1,cond_true]
    simp only [dX,if_pos (show x.2.2.2.2<0∨2+2*c.1≤x.2.2.2.2 from .inl h1),B9]
   ·rw [ltF (by omega),cond_false]
    by_cases h2:2+2*c.1≤x.2.2.2.2
    ·rw [leT h2,cond_true]
     simp only [dX,if_pos (show x.2.2.2.2<0∨2+2*c.1≤x.2.2.2.2 from .inr h2),B9]
    ·rw [leF (by omega),cond_false,eo (z:=x.2.2.2.2+1) (by omega)]
     have hn:¬ (x.2.2.2.2<0∨2+2*c.1≤x.2.2.2.2):=by omega
     by_cases e0:x.2.2.2.2=0
     ·rw [ua e0,cond_true,d9,ae]
      by_cases h5:x.2.2.2.2+1=2+2*c.1
      ·rw [ua h5,cond_true]
       simp only [dX,if_neg hn,if_pos e0,Bool.false_eq_true,if_false,if_pos h5,B9]
      ·rw [bD h5,cond_false]
       simp only [dX,if_neg hn,if_pos e0,Bool.false_eq_true,if_false,if_neg h5,B9,hp]
     ·rw [bD e0,cond_false]
      by_cases e1:x.2.2.2.2=1
      ·rw [ua e1,cond_true,d9,ae,E5]
       by_cases h9:ah m 5=x.2.2.1.2.2.2.1
       ·rw [decide_eq_true h9,Bool.not_true,cond_false]
        skip
        by_cases h5:x.2.2.2.2+1=2+2*c.1
        ·rw [ua h5,cond_true]
         simp only [dX,if_neg hn,if_neg e0,if_pos e1,h9,ne_eq,not_true_eq_false,decide_false,Bool.false_eq_true,if_false,if_pos h5,B9]
        ·rw [bD h5,cond_false]
         simp only [dX,if_neg hn,if_neg e0,if_pos e1,h9,ne_eq,not_true_eq_false,decide_false,Bool.false_eq_true,if_false,if_neg h5,B9,hp]
       ·rw [decide_eq_false h9,Bool.not_false,cond_true]
        simp only [dX,if_neg hn,if_neg e0,if_pos e1,h9,ne_eq,not_false_eq_true,decide_true,if_true,toW,cO]
      ·rw [bD e1,cond_false,Int.tmod_eq_emod_of_nonneg (by omega),eo (z:=x.2.2.2.2 - 2) (by omega),Int.tdiv_eq_ediv_of_nonneg (by omega),eo (z:=(x.2.2.2.2 - 2)/2) (by omega)]
       by_cases e2:x.2.2.2.2%2=0
       ·rw [ua e2,cond_true,NF,ae,d9,ae]
        skip
        by_cases h5:x.2.2.2.2+1=2+2*c.1
        ·rw [ua h5,cond_true]
         simp only [dX,if_neg hn,if_neg e0,if_neg e1,if_pos e2,Bool.false_eq_true,if_false,if_pos h5,B9]
        ·rw [bD h5,cond_false]
         simp only [dX,if_neg hn,if_neg e0,if_neg e1,if_pos e2,Bool.false_eq_true,if_false,if_neg h5,B9,hp]
       ·rw [bD e2,cond_false,KO,ae,d9,ae,Mx,ae]
        by_cases h9:0<pZ (ah m (Gl c ((x.2.2.2.2 - 2)/2))) x.2.2.1.2.2.2.1
        ·rw [ltT h9,cond_true]
         simp only [dX,if_neg hn,if_neg e0,if_neg e1,if_neg e2,h9,decide_true,if_true,toW,cO]
        ·rw [ltF (by omega),cond_false]
         skip
         by_cases h5:x.2.2.2.2+1=2+2*c.1
         ·rw [ua h5,cond_true]
          simp only [dX,if_neg hn,if_neg e0,if_neg e1,if_neg e2,h9,decide_false,Bool.false_eq_true,if_false,if_pos h5,B9]
         ·rw [bD h5,cond_false]
          simp only [dX,if_neg hn,if_neg e0,if_neg e1,if_neg e2,h9,decide_false,Bool.false_eq_true,if_false,if_neg h5,B9,hp]
  ·have hW:bg c t m w x d=fM c m x:=by unfold bg;rw [hmay];simp [hp]
   rw [hW]
   rw [bD (show x.1≠0 by omega),cond_false,bD (show x.1≠1 by omega),cond_false,bD (show x.1≠2 by omega),cond_false,bD (show x.1≠3 by omega),cond_false,bD (show x.1≠4 by omega),cond_false,bD (show x.1≠5 by omega),cond_false,bD (show x.1≠6 by omega),cond_false,bD (show x.1≠7 by omega),cond_false,ua hp,cond_true]
   unfold fM
   rw [hcg]
   simp only [cond_true,cond_false,ae,mg,Prod.eta,b6]
   generalize cR c m x.2.2.1=r
   cases ho:dE r.2 <;> simp [ho,hp,toW,cO]
  ·have hW:bg c t m w x d=G4 t m w x:=by unfold bg;rw [hmay];simp [hp]
   rw [hW]
   rw [bD (show x.1≠0 by omega),cond_false,bD (show x.1≠1 by omega),cond_false,bD (show x.1≠2 by omega),cond_false,bD (show x.1≠3 by omega),cond_false,bD (show x.1≠4 by omega),cond_false,bD (show x.1≠5 by omega),cond_false,bD (show x.1≠6 by omega),cond_false,bD (show x.1≠7 by omega),cond_false,bD (show x.1≠8 by omega),cond_false,ua hp,cond_true]
   rw [hnx,ae,lP,lP,lP,hdo,ae,b6,ae]
   unfold G4
   by_cases h1:(dp t x.2.1).1=1
   ·simp [h1,hp]
   ·by_cases h2:(dp t x.2.1).1=2
    ·simp [h2]
    ·by_cases h3:(dp t x.2.1).1=3
     ·simp [h3]
     ·simp [h1,h2,h3,gN]
  ·have hW:bg c t m w x d=pb t m w x:=by unfold bg;rw [hmay];simp [hp]
   rw [hW]
   rw [bD (show x.1≠0 by omega),cond_false,bD (show x.1≠1 by omega),cond_false,bD (show x.1≠2 by omega),cond_false,bD (show x.1≠3 by omega),cond_false,bD (show x.1≠4 by omega),cond_false,bD (show x.1≠5 by omega),cond_false,bD (show x.1≠6 by omega),cond_false,bD (show x.1≠7 by omega),cond_false,bD (show x.1≠8 by omega),cond_false,bD (show x.1≠9 by omega),cond_false,ua hp,cond_true]
   rw [hnx,ae,E5,hadd 0 _ (by decide) (by decide),ae,D3,cond_true,hdo,ae,b6,ae]
   unfold pb
   by_cases h2:(dp t x.2.1).1=2
   ·simp [h2]
   ·simp [h2,toW,cO]
  ·have hW:bg c t m w x d=nO c m w x:=by unfold bg;rw [hmay];simp [hp]
   rw [hW]
   rw [bD (show x.1≠0 by omega),cond_false,bD (show x.1≠1 by omega),cond_false,bD (show x.1≠2 by omega),cond_false,bD (show x.1≠3 by omega),cond_false,bD (show x.1≠4 by omega),cond_false,bD (show x.1≠5 by omega),cond_false,bD (show x.1≠6 by omega),cond_false,bD (show x.1≠7 by omega),cond_false,bD (show x.1≠8 by omega),cond_false,bD (show x.1≠9 by omega),cond_false,bD (show x.1≠10 by omega),cond_false,ua hp,cond_true]
   unfold nO
   rw [hcg]
   simp only [cond_true,cond_false,ae,mg,Prod.eta,b6]
   generalize cR c m x.2.2.1=r
   cases ho:dE r.2 with
   | false=>simp [ho,hp]
   | true=>
    by_cases h9:r.2.2.2.2.2.2.2=2
    ·simp [ho,h9,gN]
    ·have q9:=bD h9
     simp [ho,h9,q9,toW,cO]
  ·have hW:bg c t m w x d=og c t m w x:=by unfold bg;rw [hmay];simp [hp]
   rw [hW]
   rw [bD (show x.1≠0 by omega),cond_false,bD (show x.1≠1 by omega),cond_false,bD (show x.1≠2 by omega),cond_false,bD (show x.1≠3 by omega),cond_false,bD (show x.1≠4 by omega),cond_false,bD (show x.1≠5 by omega),cond_false,bD (show x.1≠6 by omega),cond_false,bD (show x.1≠7 by omega),cond_false,bD (show x.1≠8 by omega),cond_false,bD (show x.1≠9 by omega),cond_false,bD (show x.1≠10 by omega),cond_false,bD (show x.1≠11 by omega),cond_false,ua hp,cond_true]
   unfold og
   rw [hcg]
   simp only [cond_true,cond_false,ae,mg,Prod.eta,b6]
   generalize cR c m x.2.2.1=r
   cases ho:dE r.2 with
   | false=>simp [ho,hp]
   | true=>
    by_cases h9:r.2.2.2.2.2.2.2=2
    ·simp [ho,h9,hst,ae,D3,cO,JX]
    ·have q9:=bD h9
     simp [ho,h9,q9,toW,cO]
  ·have hW:bg c t m w x d=FU m w x:=by unfold bg;rw [hmay];simp [hp]
   rw [hW]
   rw [bD (show x.1≠0 by omega),cond_false,bD (show x.1≠1 by omega),cond_false,bD (show x.1≠2 by omega),cond_false,bD (show x.1≠3 by omega),cond_false,bD (show x.1≠4 by omega),cond_false,bD (show x.1≠5 by omega),cond_false,bD (show x.1≠6 by omega),cond_false,bD (show x.1≠7 by omega),cond_false,bD (show x.1≠8 by omega),cond_false,bD (show x.1≠9 by omega),cond_false,bD (show x.1≠10 by omega),cond_false,bD (show x.1≠11 by omega),cond_false,bD (show x.1≠12 by omega),cond_false,ua hp,cond_true]
   rw [d9,ae,lP,b6,ae]
   by_cases h9:ah m 1=0
   ·simp [FU,h9,gN]
   ·simp [FU,h9,toW,cO]
  ·have hW:bg c t m w x d=oH c m x:=by unfold bg;rw [hmay];simp [hp]
   rw [hW]
   rw [bD (show x.1≠0 by omega),cond_false,bD (show x.1≠1 by omega),cond_false,bD (show x.1≠2 by omega),cond_false,bD (show x.1≠3 by omega),cond_false,bD (show x.1≠4 by omega),cond_false,bD (show x.1≠5 by omega),cond_false,bD (show x.1≠6 by omega),cond_false,bD (show x.1≠7 by omega),cond_false,bD (show x.1≠8 by omega),cond_false,bD (show x.1≠9 by omega),cond_false,bD (show x.1≠10 by omega),cond_false,bD (show x.1≠11 by omega),cond_false,bD (show x.1≠12 by omega),cond_false,bD (show x.1≠13 by omega),cond_false,ua hp,cond_true]
   unfold oH
   rw [hcg]
   simp only [cond_true,cond_false,ae,mg,Prod.eta,b6]
   generalize cR c m x.2.2.1=r
   cases ho:dE r.2 <;> simp [ho,hp,toW,cO]
  ·have hW:bg c t m w x d=o6 t m w x:=by unfold bg;rw [hmay];simp [hp]
   rw [hW]
   rw [bD (show x.1≠0 by omega),cond_false,bD (show x.1≠1 by omega),cond_false,bD (show x.1≠2 by omega),cond_false,bD (show x.1≠3 by omega),cond_false,bD (show x.1≠4 by omega),cond_false,bD (show x.1≠5 by omega),cond_false,bD (show x.1≠6 by omega),cond_false,bD (show x.1≠7 by omega),cond_false,bD (show x.1≠8 by omega),cond_false,bD (show x.1≠9 by omega),cond_false,bD (show x.1≠10 by omega),cond_false,bD (show x.1≠11 by omega),cond_false,bD (show x.1≠12 by omega),cond_false,bD (show x.1≠13 by omega),cond_false,bD (show x.1≠14 by omega),cond_false,ua hp,cond_true]
   simp only [hnx,ae,E5,hadd 0 _ (by decide) (by decide),D3,aaV,cond_true,hdo,b6,lP]
   unfold o6
   by_cases h3:(dp t x.2.1).1=3
   ·by_cases h1:ah m 0=1
    ·by_cases h2:doB t x.2.1=[]
     ·simp [h3,h1,h2,uV]
     ·have h4:¬ (((doB t x.2.1).length:Int)=0):=by simp [h2]
      simp [h3,h1,h2,h4,uV,cO]
    ·by_cases h2:doB t x.2.1=[]
     ·simp [h3,h1,h2,uV]
     ·have h4:¬ (((doB t x.2.1).length:Int)=0):=by simp [h2]
      simp [h3,h1,h2,h4,uV,cO]
   ·simp [h3,toW,cO]
end
end Go.Ab
set_option linter.unusedVariables false
namespace Go.Ab
theorem gp {c:CF} {t:Tyt} {m:List Int} {w:Int} {x:WB} {d:Int} {P:WR→Prop} (hs:dD c t m w x=false→P (m,x,[])) (p0:dD c t m w x=true→x.1=0→P (Fq c t m w x)) (p1:dD c t m w x=true→x.1=1→P (rI c m w x)) (p2:dD c t m w x=true→x.1=2∨x.1=3→P (lW c m w x d)) (p4:dD c t m w x=true→x.1=4→P (iS t m w x)) (p5:dD c t m w x=true→x.1=5→P (rb c m x)) (p6:dD c t m w x=true→x.1=6→P (mj m x)) (p7:dD c t m w x=true→x.1=7→P (dX c m x)) (p8:dD c t m w x=true→x.1=8→P (fM c m x)) (p9:dD c t m w x=true→x.1=9→P (G4 t m w x)) (p10:dD c t m w x=true→x.1=10→P (pb t m w x)) (p11:dD c t m w x=true→x.1=11→P (nO c m w x)) (p12:dD c t m w x=true→x.1=12→P (og c t m w x)) (p13:dD c t m w x=true→x.1=13→P (FU m w x)) (p14:dD c t m w x=true→x.1=14→P (oH c m x)) (p15:dD c t m w x=true→x.1=15→P (o6 t m w x)):P (bg c t m w x d):=by
 unfold bg
 by_cases hm:dD c t m w x=false
 ·rw [if_pos hm];exact hs hm
 rw [if_neg hm]
 have hm':dD c t m w x=true:=by simpa using hm
 have hb:0≤x.1∧x.1<16:=by
  unfold dD at hm'
  simp only [Bool.and_eq_true,decide_eq_true_eq] at hm'
  exact hm'.1.2.2.2
 by_cases e0:x.1=0
 ·rw [if_pos e0];exact p0 hm' e0
 rw [if_neg e0]
 by_cases e1:x.1=1
 ·rw [if_pos e1];exact p1 hm' e1
 rw [if_neg e1]
 by_cases e2:x.1=2∨x.1=3
 ·rw [if_pos e2];exact p2 hm' e2
 rw [if_neg e2]
 by_cases e4:x.1=4
 ·rw [if_pos e4];exact p4 hm' e4
 rw [if_neg e4]
 by_cases e5:x.1=5
 ·rw [if_pos e5];exact p5 hm' e5
 rw [if_neg e5]
 by_cases e6:x.1=6
 ·rw [if_pos e6];exact p6 hm' e6
 rw [if_neg e6]
 by_cases e7:x.1=7
 ·rw [if_pos e7];exact p7 hm' e7
 rw [if_neg e7]
 by_cases e8:x.1=8
 ·rw [if_pos e8];exact p8 hm' e8
 rw [if_neg e8]
 by_cases e9:x.1=9
 ·rw [if_pos e9];exact p9 hm' e9
 rw [if_neg e9]
 by_cases e10:x.1=10
 ·rw [if_pos e10];exact p10 hm' e10
 rw [if_neg e10]
 by_cases e11:x.1=11
 ·rw [if_pos e11];exact p11 hm' e11
 rw [if_neg e11]
 by_cases e12:x.1=12
 ·rw [if_pos e12];exact p12 hm' e12
 rw [if_neg e12]
 by_cases e13:x.1=13
 ·rw [if_pos e13];exact p13 hm' e13
 rw [if_neg e13]
 by_cases e14:x.1=14
 ·rw [if_pos e14];exact p14 hm' e14
 rw [if_neg e14]
 exact p15 hm' (by omega)
end Go.Ab
set_option linter.unusedVariables false
namespace Go.Ab
theorem O7 (c:CF) (m:List Int) (f:FR):One m (dP c m f).1:=by
 unfold dP
 repeat' split
 all_goals first | exact One.same m | exact One.store m _ _ | exact One.cas m _ _ _
theorem Ux (c:CF) (m:List Int) (f:FR):One m (gJ c m f).1:=by
 unfold gJ
 repeat' split
 all_goals first | exact One.same m | exact One.store m _ _ | exact One.cas m _ _ _
theorem Me (c:CF) (m:List Int) (f:FR):One m (bf c m f).1:=by
 unfold bf
 dsimp only
 repeat' split
 all_goals first | exact One.same m | exact One.store m _ _ | exact One.cas m _ _ _
theorem LA (c:CF) (m:List Int) (f:FR):One m (cR c m f).1:=by
 unfold cR As
 repeat' split
 all_goals first | exact One.same m | exact O7 c m f | exact Ux c m f | exact Me c m f | exact Iz c m f
section
variable {c:CF} {t:Tyt} {m:List Int} {w:Int} {x:WB} {d:Int}
theorem GW:One m (bg c t m w x d).1:=by
 refine gp (P:=fun r=>One m r.1) (fun _=>One.same m) ?_ ?_ ?_ ?_ ?_ ?_ ?_ ?_ ?_ ?_ ?_ ?_ ?_ ?_ ?_
 all_goals intro _ _
 all_goals dsimp only [Fq,rI,lW,iS,rb,mj,dX,fM,G4,pb,nO,og,FU,oH,o6]
 all_goals repeat' split
 all_goals (try dsimp only)
 all_goals first | exact One.same m | exact One.store m _ _ | exact LA c m _
theorem NT:(bg c t m w x d).2.2.length≤2:=by
 refine gp (P:=fun r=>r.2.2.length≤2) (fun _=>Nat.zero_le _) ?_ ?_ ?_ ?_ ?_ ?_ ?_ ?_ ?_ ?_ ?_ ?_ ?_ ?_ ?_
 all_goals intro _ _
 all_goals dsimp only [Fq,rI,lW,iS,rb,mj,dX,fM,G4,pb,nO,og,FU,oH,o6]
 all_goals repeat' split
 all_goals simp
theorem L6:(bg c t m w x d).2.1.2.1.length≤x.2.1.length+1:=by
 have h1:=fun q=>I0 t x.2.1 q
 have h2:=U3 t x.2.1
 refine gp (P:=fun r=>r.2.1.2.1.length≤x.2.1.length+1) (fun _=>Nat.le_succ _) ?_ ?_ ?_ ?_ ?_ ?_ ?_ ?_ ?_ ?_ ?_ ?_ ?_ ?_ ?_
 all_goals intro _ _
 all_goals dsimp only [Fq,rI,lW,iS,rb,mj,dX,fM,G4,pb,nO,og,FU,oH,o6,toW,gN]
 all_goals repeat' split
 all_goals first | exact Nat.le_succ _ | exact h1 _ | (dsimp only;omega) | simp
theorem FI {s:Tye} (h:bY t s=true) (q:Int):bY t (f4 t s q)=true:=by
 unfold f4
 split
 ·rename_i g
  have:=lB.1 h
  exact gm.2 ⟨this.1,this.2,W3 this.1 g.2.1 g.2.2⟩
 ·exact h
theorem Te {s:Tye} (h:bY t s=true):bY t (doB t s)=true:=by
 rcases iB s with rfl | ⟨r,y,rfl⟩
 ·exact h
 ·exact (OM h).1
theorem GR (h:dD c t m w x=true):cH c=true∧(m.length:Int)=bA c∧nj t=true∧(0≤w∧w<c.1∧0≤x.1∧x.1<16)∧bY t x.2.1=true:=by
 unfold dD at h
 simp only [Bool.and_eq_true,decide_eq_true_eq] at h
 exact ⟨h.1.1.1.1,h.1.1.1.2,h.1.1.2,h.1.2,h.2⟩
theorem L8 (h1:cH c=true) (h2:(m.length:Int)=bA c) (h3:nj t=true) (h4:0≤w∧w<c.1∧0≤x.1∧x.1<16) (h5:bY t x.2.1=true):dD c t m w x=true:=by
 unfold dD
 rw [h1,h3,h5,decide_eq_true h2,decide_eq_true h4]
 rfl
theorem QU (h:dD c t m w x=true):dD c t (bg c t m w x d).1 w (bg c t m w x d).2.1=true:=by
 obtain ⟨h1,h2,h3,h4,h5⟩:=GR h
 have hl:=(GW (c:=c) (t:=t) (m:=m) (w:=w) (x:=x) (d:=d)).len
 have key:0≤(bg c t m w x d).2.1.1∧(bg c t m w x d).2.1.1<16∧bY t (bg c t m w x d).2.1.2.1=true:=by
  have g1:=FI h5
  have g2:=Te h5
  have g3:bY t []=true:=lB.2 ⟨h3,fun y hy=>absurd hy (by simp)⟩
  refine gp (P:=fun r=>0≤r.2.1.1∧r.2.1.1<16∧bY t r.2.1.2.1=true) (fun _=>⟨h4.2.2.1,h4.2.2.2,h5⟩) ?_ ?_ ?_ ?_ ?_ ?_ ?_ ?_ ?_ ?_ ?_ ?_ ?_ ?_ ?_
  all_goals intro _ _
  all_goals dsimp only [Fq,rI,lW,iS,rb,mj,dX,fM,G4,pb,nO,og,FU,oH,o6,toW,gN]
  all_goals repeat' split
  all_goals refine ⟨?_,?_,?_⟩
  all_goals (try dsimp only)
  all_goals first | omega | exact h5 | exact g1 _ | exact g2 | exact g3
 exact L8 h1 (by rw [hl];exact h2) h3 ⟨h4.1,h4.2.1,key.1,key.2.1⟩ key.2.2
theorem OR {w W:Int}:0≤Ax d w W↔¬ (W<2∨w<0∨W≤w):=by
 unfold Ax
 split
 ·rename_i h
  exact ⟨fun g=>absurd g (by decide),fun g=>absurd h g⟩
 ·rename_i h
  exact ⟨fun _=>h,fun _=>Int.emod_nonneg _ (by omega)⟩
end
end Go.Ab
set_option linter.unusedVariables false
namespace Go.Ab
section
variable {c:CF} {m:List Int} {f:FR} {j:Int} (hj:j=0∨j=1∨j=3)
include hj
theorem kv {w x:Int} (hx:0≤x):onW c w x≠j:=by
 unfold onW
 split
 ·rename_i h
  have hm:=aF h.1
  have:=dj h.1 h.2.1 (by omega)
  omega
 ·omega
theorem nB {w x:Int} (h0:0≤x) (h1:x≤18446744073709551615):nR c w x≠j:=by
 unfold nR onW
 split
 ·rename_i h
  have hm:=aF h.1
  have:=dj h.1 h.2.1 (by omega)
  have:=BY h0 h1 (show 1≤c.2.1 by omega) (by omega)
  omega
 ·omega
theorem uL (x:Int):lF c x≠j:=by
 unfold lF
 split
 ·rename_i h
  have:=aF h
  have:=Int.emod_nonneg x (show c.2.2.1≠0 by omega)
  omega
 ·omega
theorem uF (x:Int):Ae c x≠j:=by
 unfold Ae
 split
 ·rename_i h
  have:=aF h
  have:=Int.emod_nonneg x (show c.2.2.1≠0 by omega)
  omega
 ·omega
theorem nv (w:Int):fi c w≠j:=by
 unfold fi
 split
 ·rename_i h
  have hm:=aF h.1
  have:=dj h.1 h.2.1 (by omega)
  omega
 ·omega
omit hj in
theorem ks {i v:Int} (h:i≠j):ah (au m i v) j=ah m j:=aE v h
omit hj in
theorem kc {i o v:Int} (h:i≠j):ah (oh m i o v).1 j=ah m j:=by
 unfold oh
 split
 ·exact ks h
 ·rfl
section
variable (hf:Wf f)
include hf
theorem MF:ah (dP c m f).1 j=ah m j:=by
 have w4:=hf.2.1
 have _h:=hj
 unfold dP
 try dsimp only
 repeat' split
 all_goals first | rfl | exact ks (uL hj _) | exact ks (uF hj _) | exact ks (nv hj _) | exact ks (kv hj (by decide)) | exact kc (kv hj (by decide)) | exact ks (nB hj w4.1 w4.2) | exact kc (show (2:Int)≠j by omega) | exact kc (show (4:Int)≠j by omega) | exact kc (show (5:Int)≠j by omega) | exact ks (show (2:Int)≠j by omega)
theorem Qw:ah (gJ c m f).1 j=ah m j:=by
 have w4:=hf.2.1
 have _h:=hj
 unfold gJ
 try dsimp only
 repeat' split
 all_goals first | rfl | exact ks (uL hj _) | exact ks (uF hj _) | exact ks (nv hj _) | exact ks (kv hj (by decide)) | exact kc (kv hj (by decide)) | exact ks (nB hj w4.1 w4.2) | exact kc (show (2:Int)≠j by omega) | exact kc (show (4:Int)≠j by omega) | exact kc (show (5:Int)≠j by omega) | exact ks (show (2:Int)≠j by omega)
theorem IQ:ah (bf c m f).1 j=ah m j:=by
 have w4:=hf.2.1
 have _h:=hj
 unfold bf
 try dsimp only
 repeat' split
 all_goals first | rfl | exact ks (uL hj _) | exact ks (uF hj _) | exact ks (nv hj _) | exact ks (kv hj (by decide)) | exact kc (kv hj (by decide)) | exact ks (nB hj w4.1 w4.2) | exact kc (show (2:Int)≠j by omega) | exact kc (show (4:Int)≠j by omega) | exact kc (show (5:Int)≠j by omega) | exact ks (show (2:Int)≠j by omega)
theorem H6:ah (gI c m f).1 j=ah m j:=by
 have w4:=hf.2.1
 have _h:=hj
 unfold gI
 try dsimp only
 repeat' split
 all_goals first | rfl | exact ks (uL hj _) | exact ks (uF hj _) | exact ks (nv hj _) | exact ks (kv hj (by decide)) | exact kc (kv hj (by decide)) | exact ks (nB hj w4.1 w4.2) | exact kc (show (2:Int)≠j by omega) | exact kc (show (4:Int)≠j by omega) | exact kc (show (5:Int)≠j by omega) | exact ks (show (2:Int)≠j by omega)
theorem Hh:ah (iD c m f).1 j=ah m j:=by
 have w4:=hf.2.1
 have _h:=hj
 unfold iD
 try dsimp only
 repeat' split
 all_goals first | rfl | exact ks (uL hj _) | exact ks (uF hj _) | exact ks (nv hj _) | exact ks (kv hj (by decide)) | exact kc (kv hj (by decide)) | exact ks (nB hj w4.1 w4.2) | exact kc (show (2:Int)≠j by omega) | exact kc (show (4:Int)≠j by omega) | exact kc (show (5:Int)≠j by omega) | exact ks (show (2:Int)≠j by omega)
theorem Eh:ah (w6 c m f).1 j=ah m j:=by
 have w4:=hf.2.1
 have _h:=hj
 unfold w6
 try dsimp only
 repeat' split
 all_goals first | rfl | exact ks (uL hj _) | exact ks (uF hj _) | exact ks (nv hj _) | exact ks (kv hj (by decide)) | exact kc (kv hj (by decide)) | exact ks (nB hj w4.1 w4.2) | exact kc (show (2:Int)≠j by omega) | exact kc (show (4:Int)≠j by omega) | exact kc (show (5:Int)≠j by omega) | exact ks (show (2:Int)≠j by omega)
theorem Er:ah (rH c m f).1 j=ah m j:=by
 have w4:=hf.2.1
 have _h:=hj
 unfold rH IO
 try dsimp only
 repeat' split
 all_goals first | rfl | exact ks (uL hj _) | exact ks (uF hj _) | exact ks (nv hj _) | exact ks (kv hj (by decide)) | exact kc (kv hj (by decide)) | exact ks (nB hj w4.1 w4.2) | exact kc (show (2:Int)≠j by omega) | exact kc (show (4:Int)≠j by omega) | exact kc (show (5:Int)≠j by omega) | exact ks (show (2:Int)≠j by omega)
theorem I8:ah (cR c m f).1 j=ah m j:=by
 unfold cR As gK Ag GL
 repeat' split
 all_goals first | with_reducible rfl | with_reducible exact MF hj hf | with_reducible exact Qw hj hf | with_reducible exact IQ hj hf | with_reducible exact H6 hj hf | with_reducible exact Hh hj hf | with_reducible exact Eh hj hf | with_reducible exact Er hj hf
end
end
def Fg:List EV→Int×Bool→Int×Bool
 | [],s=>s
 | e::l,s=>Fg l (if e.1=3 then IntKind.u64.wrap (s.1+1) else if e.1=4 then IntKind.u64.wrap (s.1 - 1) else s.1,s.2||decide (e.1=5))
theorem PY (s:Int):eC s uV=IntKind.u64.wrap (s - 1):=by
 rw [f7]
 unfold eC uV
 omega
theorem ad0 (s:Int):eC s 1=IntKind.u64.wrap (s+1):=by
 rw [f7]
 rfl
section
variable {c:CF} {t:Tyt} {m:List Int} {w:Int} {x:WB} {d:Int}
theorem Lo (hm:Wm m) (hl:2≤m.length) (hf:Wf x.2.2.1):ah (bg c t m w x d).1 0=(Fg (bg c t m w x d).2.2 (ah m 0,false)).1∧((Fg (bg c t m w x d).2.2 (ah m 0,false)).2=true↔ah m 0=1∧(Fg (bg c t m w x d).2.2 (ah m 0,false)).1=0):=by
 have hk:=I8 (c:=c) (m:=m) (f:=x.2.2.1) (j:=0) (by decide) hf
 have hs:∀ v,ah (au m 0 v) 0=v:=fun v=>dr v (by decide) (by omega)
 have h1:∀ v,ah (au m 1 v) 0=ah m 0:=fun v=>ks (by decide)
 have z:∀ {l:List EV},(l=[]∨∃ a b,l=[(2,a,b)])→ah m 0=(Fg l (ah m 0,false)).1∧((Fg l (ah m 0,false)).2=true↔ah m 0=1∧(Fg l (ah m 0,false)).1=0):=fun h=>by
  rcases h with rfl | ⟨a,b,rfl⟩
  ·refine ⟨rfl,?_⟩
   dsimp only [Fg]
   exact ⟨fun g=>(by cases g),fun g=>absurd g.2 (by omega)⟩
  ·refine ⟨rfl,?_⟩
   dsimp only [Fg]
   exact ⟨fun g=>(by cases g),fun g=>absurd g.2 (by rw [if_neg (by decide),if_neg (by decide)];omega)⟩
 have hr:=bV hm 0
 refine gp (P:=fun r=>ah r.1 0=(Fg r.2.2 (ah m 0,false)).1∧((Fg r.2.2 (ah m 0,false)).2=true↔ah m 0=1∧(Fg r.2.2 (ah m 0,false)).1=0)) (fun _=>z (.inl rfl)) ?_ ?_ ?_ ?_ ?_ ?_ ?_ ?_ ?_ ?_ ?_ ?_ ?_ ?_ ?_
 all_goals intro _ hp
 ·unfold Fq
  dsimp only
  repeat' split
  all_goals (dsimp only;rw [hk];exact z (by first | exact .inl rfl | exact .inr ⟨_,_,rfl⟩))
 ·unfold rI
  dsimp only
  rw [h1]
  exact z (.inl rfl)
 ·unfold lW
  dsimp only
  repeat' split
  all_goals (dsimp only;rw [hk];exact z (.inl rfl))
 ·unfold iS
  dsimp only
  rw [h1]
  exact z (.inr ⟨_,_,rfl⟩)
 ·unfold rb
  dsimp only
  rw [hk]
  exact z (.inl rfl)
 ·unfold mj
  dsimp only
  rw [h1]
  exact z (.inl rfl)
 ·unfold dX
  dsimp only
  repeat' split
  all_goals (dsimp only;exact z (.inl rfl))
 ·unfold fM
  dsimp only
  split
  all_goals (dsimp only;rw [hk];exact z (.inl rfl))
 ·unfold G4
  dsimp only
  repeat' split
  all_goals (dsimp only;exact z (.inl rfl))
 ·unfold pb
  dsimp only
  split
  ·exact z (.inl rfl)
  ·dsimp only
   rw [hs,ad0]
   dsimp only [Fg]
   rw [if_pos rfl]
   refine ⟨rfl,fun g=>(by cases g),fun g => ?_⟩
   have:=g.2
   rw [g.1] at this
   exact absurd this (by decide)
 ·unfold nO
  dsimp only
  repeat' split
  all_goals (dsimp only;rw [hk];exact z (.inl rfl))
 ·unfold og
  dsimp only
  repeat' split
  all_goals (dsimp only;rw [hk];exact z (by first | exact .inl rfl | exact .inr ⟨_,_,rfl⟩))
 ·unfold FU
  split
  all_goals exact z (.inl rfl)
 ·unfold oH
  dsimp only
  split
  all_goals (dsimp only;rw [hk];exact z (.inl rfl))
 ·unfold o6
  dsimp only
  split
  ·exact z (.inl rfl)
  ·dsimp only
   rw [hs,PY]
   by_cases h:ah m 0=1
   ·rw [if_pos h,h]
    refine ⟨rfl,fun _=>⟨rfl,rfl⟩,fun _=>rfl⟩
   ·rw [if_neg h]
    refine ⟨rfl,fun g=>(by cases g),fun g=>absurd g.1 h⟩
end
end Go.Ab
set_option linter.unusedVariables false
namespace Go.Ab
theorem HT {c:CF} {m:List Int} {f:FR} (hm:Wm m) (hf:Wf f):Wm (rH c m f).1∧Wf (rH c m f).2∧(rH c m f).1.length=m.length:=by
 have hr:=bV hm 2
 obtain ⟨w3,w4,w5⟩:=hf
 have hk4:=HO w4.1
 have hk5:=HO w5.1
 have hc5:=Lm hk5.1 hk5.2
 unfold rH
 split
 ·exact ⟨hm,⟨w3,w4,w5⟩,rfl⟩
 ·split
  ·exact ⟨hm,⟨w3,hr,w5⟩,rfl⟩
  ·split
   ·split
    ·refine ⟨hm.set 2 ?_ ?_,?_,(by simp only [];exact iF)⟩
     ·split
      ·exact (r7 _ _).1
      ·exact (r7 _ _).1
     ·split
      ·exact (r7 _ _).2
      ·exact (r7 _ _).2
     ·have hl:=MN (mkB f.2.2.2.2.1)
      simp only []
      by_cases hz:mkB f.2.2.2.2.1=0
      ·rw [if_pos hz]
       exact ⟨by simp [ef],by simp [ef],by simp [ef]⟩
      ·rw [if_neg hz]
       refine ⟨w3,w4,?_⟩
       simp only
       split
       ·split <;> omega
       ·omega
    ·exact ⟨hm,⟨w3,w4,w5⟩,rfl⟩
   ·split
    ·exact ⟨hm.set _ (by decide) (by decide),⟨w5,by simp [ef],by simp [ef]⟩,(by simp only [];exact iF)⟩
    ·refine ⟨hm.set _ (by decide) (by decide),?_,(by simp only [];exact iF)⟩
     split
     ·exact ⟨by simp [ef];omega,by simp [ef],by simp [ef]⟩
     ·exact ⟨w3,w4,by simp only;omega⟩
theorem UC {c:CF} {m:List Int} {f:FR} (hm:Wm m) (hf:Wf f):Wm (w6 c m f).1∧Wf (w6 c m f).2:=by
 have hr:=bV hm 2
 obtain ⟨w3,w4,w5⟩:=hf
 have hs:=UL (w:=f.2.2.1) w5.1 w5.2
 unfold w6
 dsimp only
 split
 ·exact ⟨hm,w3,w4,w5⟩
 ·split
  ·exact ⟨hm,w3,hr,w5⟩
  ·split
   ·split
    ·exact ⟨hm,w3,w4,hr⟩
    ·exact ⟨hm,by simp [ef,Wf]⟩
   ·split
    ·exact ⟨hm.cas _ _ hs.1 hs.2,w3,w4,w5⟩
    ·split
     ·exact ⟨hm,w3,w4,bV hm _⟩
     ·exact ⟨hm.set _ (by decide) (by decide),by simp [ef,Wf]⟩
theorem Xk {c:CF} {m:List Int} {f:FR} (hm:Wm m) (hf:Wf f):Wm (gI c m f).1∧Wf (gI c m f).2:=by
 obtain ⟨w3,w4,w5⟩:=hf
 have ha:=fS f.2.2.2.2.1 1
 have hb:=fS (Aj c f.2.2.2.2.1) 1
 unfold gI
 dsimp only
 split
 ·exact ⟨hm,w3,w4,w5⟩
 ·split
  ·exact ⟨hm,w3,bV hm 5,w5⟩
  ·split
   ·split
    ·exact ⟨hm,w3,w4,bV hm _⟩
    ·split
     ·exact ⟨hm,w3,by simp [ef],by simp [ef]⟩
     ·exact ⟨hm,w3,w4,bV hm _⟩
   ·split
    ·exact ⟨hm.cas _ _ ha.1 ha.2,w3,w4,w5⟩
    ·split
     ·exact ⟨hm.set _ w3.1 w3.2,w3,w4,w5⟩
     ·exact ⟨hm.set _ hb.1 hb.2,w3,by simp [ef],by simp [ef]⟩
theorem YI {c:CF} {m:List Int} {f:FR} (hm:Wm m) (hf:Wf f):Wm (iD c m f).1∧Wf (iD c m f).2:=by
 obtain ⟨w3,w4,w5⟩:=hf
 have ha:=fS f.2.2.2.2.1 1
 have hb:=fS (Ay c f.2.2.2.2.1) 1
 unfold iD
 dsimp only
 split
 ·exact ⟨hm,w3,w4,w5⟩
 ·split
  ·exact ⟨hm,w3,bV hm 4,w5⟩
  ·split
   ·split
    ·exact ⟨hm,w3,w4,bV hm _⟩
    ·split
     ·exact ⟨hm,by simp [ef],by simp [ef],by simp [ef]⟩
     ·exact ⟨hm,w3,w4,bV hm _⟩
   ·split
    ·exact ⟨hm.cas _ _ ha.1 ha.2,w3,w4,w5⟩
    ·split
     ·exact ⟨hm,bV hm _,w4,w5⟩
     ·exact ⟨hm.set _ hb.1 hb.2,w3,by simp [ef],by simp [ef]⟩
theorem Ma {c:CF} {m:List Int} {f:FR} (hm:Wm m) (hf:Wf f):Wm (gK c m f).1∧Wf (gK c m f).2:=by
 unfold gK Ag GL
 repeat' split
 all_goals first | exact Xk hm hf | exact YI hm hf | exact UC hm hf | exact ⟨(HT hm hf).1,(HT hm hf).2.1⟩ | exact ⟨hm,hf⟩
theorem Q8 {c:CF} {t:Tyt} {m:List Int} {i:Int} {x:SB} (hm:Wm m) (hf:Wf x.2.2) (ht:t.length≤1000):Wm (fE c t m i x).1∧Wf (fE c t m i x).2.1.2.2:=by
 have hc:=Ma (c:=c) hm hf
 have hz:Wf cO:=by simp [Wf,cO]
 have h1:=fS (ah m 0) 1
 have h2:=fS (ah m 0) 18446744073709551615
 cases hmay:rM c t m x with
 | false=>
  have e:fE c t m i x=(m,x,[]):=by unfold fE;rw [hmay,if_pos rfl]
  rw [e]
  exact ⟨hm,hf⟩
 | true=>
  obtain ⟨_,_,_,_,_,r,rest,hx,h6,h7⟩:=uY hmay
  have hh:fX x.2.1=r:=by rw [hx];rfl
  unfold fE
  rw [hmay,if_neg (by simp),hh]
  dsimp only
  have h3:Wf (3,0,i,r,0,0,0):=⟨⟨h6,by simp only;omega⟩,by simp,by simp⟩
  have h4:Wf (6,0,i,0,0,0,0):=by simp [Wf]
  repeat' split
  all_goals first | exact ⟨hm,hf⟩ | exact ⟨hm,hz⟩ | exact ⟨hm,h4⟩ | exact ⟨hm.set 0 h1.1 h1.2,h3⟩ | exact hc | exact ⟨hc.1,hz⟩ | exact ⟨hm.set 0 h2.1 h2.2,hz⟩
end Go.Ab
set_option linter.unusedVariables false
namespace Go.Ab
abbrev PB:=CF×Tyt×List Int×List WB×List SB
abbrev PK:=Int×Int×Int
def uZ (t:Tyt) (x:SB):Bool:=decide (0≤x.1∧x.1<6)&&x.2.1.all (fun r=>decide (0≤r∧r<t.length))&&(decide (x.1=0)||decide (x.2.1≠[]))
def C9 (c:CF) (t:Tyt) (m:List Int):Nat→List WB→Bool
 | _,[]=>true
 | i,x::l=>dD c t m i x&&C9 c t m (i+1) l
def kg (p:PB):Bool:=cH p.1&&decide ((p.2.2.2.1.length:Int)=p.1.1∧p.2.2.2.2.length≤3)&&C9 p.1 p.2.1 p.2.2.1 0 p.2.2.2.1&&p.2.2.2.2.all (uZ p.2.1)
def Av (k:PK) (w s:Int):Bool:=decide (k.1=0∧0≤k.2.1∧k.2.1<w∨k.1=1∧0≤k.2.1∧k.2.1<s∨k.1=2∨k.1=3)
def fh (p:PB) (k:PK):PB×List EV:=
 if k.1=0 then match p.2.2.2.1[k.2.1.toNat]? with
  | some x=>((p.1,p.2.1,(bg p.1 p.2.1 p.2.2.1 k.2.1 x k.2.2).1,p.2.2.2.1.set k.2.1.toNat (bg p.1 p.2.1 p.2.2.1 k.2.1 x k.2.2).2.1,p.2.2.2.2),(bg p.1 p.2.1 p.2.2.1 k.2.1 x k.2.2).2.2)
  | none=>(p,[])
 else if k.1=1 then match p.2.2.2.2[k.2.1.toNat]? with
  | some x=>if rM p.1 p.2.1 p.2.2.1 x=true then ((p.1,p.2.1,(fE p.1 p.2.1 p.2.2.1 k.2.1 x).1,p.2.2.2.1,p.2.2.2.2.set k.2.1.toNat (fE p.1 p.2.1 p.2.2.1 k.2.1 x).2.1),(fE p.1 p.2.1 p.2.2.1 k.2.1 x).2.2) else (p,[])
  | none=>(p,[])
 else if k.1=2 then ((p.1,p.2.1,au p.2.2.1 3 1,p.2.2.2.1,p.2.2.2.2),[])
 else (p,[])
def rN (p:PB):List PK→PB×List EV
 | []=>(p,[])
 | k::l=>if Av k p.1.1 p.2.2.2.2.length=true then ((rN (fh p k).1 l).1,(fh p k).2++(rN (fh p k).1 l).2) else rN p l
def adV (p:PB) (l:List PK):PB×List EV:=if kg p=true then rN p l else (p,[])
theorem VJ {c:CF} {m:List Int} {f:FR} (hm:Wm m) (hf:Wf f):Wm (dP c m f).1∧Wf (dP c m f).2:=by
 have hl:=fun i=>bV hm i
 obtain ⟨w3,w4,w5⟩:=hf
 have ha:=fS f.2.2.2.2.1 1
 unfold dP
 repeat' split
 ·exact ⟨hm,w3,w4,w5⟩
 ·exact ⟨hm,w3,hl _,w5⟩
 ·exact ⟨hm,w3,by simp [ef],by simp [ef]⟩
 ·exact ⟨hm,w3,w4,hl _⟩
 ·exact ⟨hm.set _ w3.1 w3.2,w3,w4,w5⟩
 ·exact ⟨hm.set _ ha.1 ha.2,w3,by simp [ef],by simp [ef]⟩
theorem aaK {c:CF} {m:List Int} {f:FR} (hm:Wm m) (hf:Wf f):Wm (gJ c m f).1∧Wf (gJ c m f).2:=by
 have hl:=fun i=>bV hm i
 obtain ⟨w3,w4,w5⟩:=hf
 have ha:=fS f.2.2.2.2.1 1
 have hb:=fS f.2.2.2.2.2.1 1
 have hs:=fun a b=>NX a b
 unfold gJ
 dsimp only
 split
 ·exact ⟨hm,w3,w4,w5⟩
 split
 ·exact ⟨hm,w3,hs _ _,w5⟩
 split
 ·exact ⟨hm.set _ w4.1 w4.2,w3,w4,w5⟩
 split
 ·exact ⟨hm,w3,w4,hl _⟩
 split
 ·split
  ·exact ⟨hm,hl _,by simp [ef],by simp [ef]⟩
  ·exact ⟨hm,hl _,w4,w5⟩
 split
 ·exact ⟨hm.cas _ _ hb.1 hb.2,w3,w4,w5⟩
 split
 ·exact ⟨hm.set _ ha.1 ha.2,w3,by simp [ef],by simp [ef]⟩
 ·exact ⟨hm.set _ ha.1 ha.2,by simp [ef],by simp [ef],by simp [ef]⟩
theorem OG {c:CF} {m:List Int} {f:FR} (hm:Wm m) (hf:Wf f):Wm (bf c m f).1∧Wf (bf c m f).2:=by
 have hl:=fun i=>bV hm i
 obtain ⟨w3,w4,w5⟩:=hf
 have hb:=fS f.2.2.2.2.2.1 1
 unfold bf
 dsimp only
 split
 ·exact ⟨hm,w3,w4,w5⟩
 split
 ·exact ⟨hm,w3,w4,hl _⟩
 split
 ·split
  ·exact ⟨hm,by simp [ef],by simp [ef],by simp [ef]⟩
  ·exact ⟨hm,w3,hl _,w5⟩
 split
 ·exact ⟨hm,hl _,w4,w5⟩
 split
 ·exact ⟨hm.cas _ _ hb.1 hb.2,w3,by simp [ef],by simp [ef]⟩
 ·exact ⟨hm.cas _ _ hb.1 hb.2,by simp [ef],by simp [ef],by simp [ef]⟩
theorem Hv {c:CF} {m:List Int} {f:FR} (hm:Wm m) (hf:Wf f):Wm (cR c m f).1∧Wf (cR c m f).2:=by
 unfold cR As
 split
 ·split
  ·exact VJ hm hf
  ·split
   ·exact aaK hm hf
   ·split
    ·exact OG hm hf
    ·exact ⟨hm,hf⟩
 ·exact Ma hm hf
structure WOk (n:Nat) (x:WB):Prop where
 f:Wf x.2.2.1
 s:x.2.1.length≤n
 sp:x.2.2.2.1≤9223372036854775807
structure SOk (x:SB):Prop where
 f:Wf x.2.2
 s:x.2.1.length≤1000
theorem S9 (a:Int):0≤IntKind.u64.wrap a∧IntKind.u64.wrap a≤18446744073709551615:=by
 rw [f7]
 omega
section
variable {c:CF} {t:Tyt} {m:List Int} {w:Int} {x:WB} {d:Int} {n:Nat}
theorem VR (hm:Wm m) (hf:Wf x.2.2.1):Wm (bg c t m w x d).1:=by
 have h1:=(Hv (c:=c) hm hf).1
 have h2:=fun a b=>fS a b
 refine gp (P:=fun r=>Wm r.1) (fun _=>hm) ?_ ?_ ?_ ?_ ?_ ?_ ?_ ?_ ?_ ?_ ?_ ?_ ?_ ?_ ?_
 all_goals intro _ _
 all_goals dsimp only [Fq,rI,lW,iS,rb,mj,dX,fM,G4,pb,nO,og,FU,oH,o6]
 all_goals repeat' split
 all_goals (try dsimp only)
 all_goals first | exact hm | exact h1 | exact hm.set _ (h2 _ _).1 (h2 _ _).2
theorem U8 (hm:Wm m) (hf:Wf x.2.2.1):Wf (bg c t m w x d).2.1.2.2.1:=by
 have h1:=(Hv (c:=c) hm hf).2
 have h2:=fun i=>bV hm i
 have h3:=fun a=>S9 a
 have z:Wf cO:=by simp [Wf,cO]
 have zr:(0:Int)≤0∧(0:Int)≤18446744073709551615:=by decide
 have b:∀ op w,Wf (rP op w 0):=fun op w=>by simp [Wf,rP]
 have b2:∀ op w v,0≤v∧v≤18446744073709551615→Wf (rP op w v):=fun op w v h=>⟨h,by simp [rP],by simp [rP]⟩
 obtain ⟨w3,w4,w5⟩:=hf
 refine gp (P:=fun r=>Wf r.2.1.2.2.1) (fun _=>⟨w3,w4,w5⟩) ?_ ?_ ?_ ?_ ?_ ?_ ?_ ?_ ?_ ?_ ?_ ?_ ?_ ?_ ?_
 all_goals intro _ _
 all_goals dsimp only [Fq,rI,lW,iS,rb,mj,dX,fM,G4,pb,nO,og,FU,oH,o6,toW,gN,B9]
 all_goals repeat' split
 all_goals (try dsimp only)
 all_goals first | exact h1 | exact z | exact b _ _ | exact b2 _ _ _ (h3 _) | exact b2 _ _ _ h1.1 | exact ⟨w3,w4,w5⟩ | exact ⟨h2 _,w4,w5⟩ | exact ⟨h2 4,w4,w5⟩ | exact ⟨zr,w4,w5⟩
theorem Vg (hc:cH c=true) (hs:x.2.2.2.1≤9223372036854775807):(bg c t m w x d).2.1.2.2.2.1≤9223372036854775807:=by
 have h4:=aF hc
 refine gp (P:=fun r=>r.2.1.2.2.2.1≤9223372036854775807) (fun _=>hs) ?_ ?_ ?_ ?_ ?_ ?_ ?_ ?_ ?_ ?_ ?_ ?_ ?_ ?_ ?_
 all_goals intro _ _
 all_goals dsimp only [Fq,rI,lW,iS,rb,mj,dX,fM,G4,pb,nO,og,FU,oH,o6,toW,gN]
 all_goals repeat' split
 all_goals (try dsimp only)
 all_goals omega
theorem Vb (hc:cH c=true) (hm:Wm m) (h:WOk n x):WOk (n+1) (bg c t m w x d).2.1:=
 ⟨U8 hm h.f,by have:=L6 (c:=c) (t:=t) (m:=m) (w:=w) (x:=x) (d:=d);have:=h.s;omega,Vg hc h.sp⟩
end
section
variable {c:CF} {t:Tyt} {m:List Int} {i:Int} {x:SB}
theorem OV:One m (fE c t m i x).1:=by
 unfold fE
 dsimp only
 repeat' split
 all_goals first | exact One.same m | exact One.store m _ _ | (dsimp only;exact One.store m _ _) | exact Iz c m _
theorem O0:(fE c t m i x).1.length=m.length:=OV.len
theorem pr:(fE c t m i x).2.1.2.1=x.2.1∨(fE c t m i x).2.1.2.1=x.2.1.tail∧(fE c t m i x).2.1.1=0:=by
 unfold fE
 dsimp only
 repeat' split
 all_goals first | exact .inl rfl | exact .inr ⟨rfl,rfl⟩
theorem P0:(fE c t m i x).2.2.length≤2:=by
 unfold fE
 dsimp only
 repeat' split
 all_goals simp
theorem aaD (h:0≤x.1∧x.1<6):0≤(fE c t m i x).2.1.1∧(fE c t m i x).2.1.1<6:=by
 unfold fE
 dsimp only
 repeat' split
 all_goals (try dsimp only)
 all_goals omega
theorem V2 (h:uZ t x=true) (hm:rM c t m x=true):uZ t (fE c t m i x).2.1=true:=by
 unfold uZ at h ⊢
 simp only [Bool.and_eq_true,decide_eq_true_eq,List.all_eq_true,Bool.or_eq_true] at h ⊢
 obtain ⟨_,_,_,h4,h5,r,rest,hx,h6,h7⟩:=uY hm
 refine ⟨⟨aaD h.1.1,fun y hy => ?_⟩,?_⟩
 ·rcases pr (c:=c) (t:=t) (m:=m) (i:=i) (x:=x) with e | e
  ·rw [e] at hy;exact h.1.2 y hy
  ·rw [e.1] at hy;exact h.1.2 y (List.mem_of_mem_tail hy)
 ·rcases pr (c:=c) (t:=t) (m:=m) (i:=i) (x:=x) with e | e
  ·refine .inr ?_
   rw [e,hx]
   simp
  ·exact .inl e.2
theorem Yf (hm:Wm m) (ht:t.length≤1000) (h:SOk x):SOk (fE c t m i x).2.1:=by
 refine ⟨(Q8 hm h.f ht).2,?_⟩
 have:=h.s
 rcases pr (c:=c) (t:=t) (m:=m) (i:=i) (x:=x) with e | e
 ·rw [e];exact h.s
 ·rw [e.1,List.length_tail];omega
end
structure Good (n:Nat) (p:PB):Prop where
 t:FwT p.2.1
 tl:p.2.1.length≤1000
 m:Wm p.2.2.1
 w:∀ x ∈ p.2.2.2.1,WOk n x
 s:∀ x ∈ p.2.2.2.2,SOk x
theorem wq {c:CF} {t:Tyt} {m:List Int}:∀ {l:List WB} {i:Nat},C9 c t m i l=true↔∀ (j:Nat) x,l[j]? = some x→dD c t m ((i+j:Nat):Int) x=true
 | [],i=>by simp [C9]
 | y::l,i=>by
  rw [C9,Bool.and_eq_true,wq (l:=l)]
  constructor
  ·intro h j x hx
   cases j with
   | zero=>cases hx;exact h.1
   | succ j=>
    have:=h.2 j x hx
    rw [show i+(j+1)=i+1+j by omega]
    exact this
  ·intro h
   refine ⟨h 0 y rfl,fun j x hx => ?_⟩
   have:=h (j+1) x hx
   rw [show i+1+j=i+(j+1) by omega]
   exact this
theorem wO {c:CF} {t:Tyt} {m m':List Int} {w:Int} {x:WB} (h:m'.length=m.length):dD c t m' w x=dD c t m w x:=by
 unfold dD
 rw [h]
theorem wR {p:PB} (h:kg p=true):cH p.1=true∧(p.2.2.2.1.length:Int)=p.1.1∧p.2.2.2.2.length≤3∧(∀ (j:Nat) x,p.2.2.2.1[j]? = some x→dD p.1 p.2.1 p.2.2.1 (j:Int) x=true)∧(∀ x ∈ p.2.2.2.2,uZ p.2.1 x=true):=by
 unfold kg at h
 simp only [Bool.and_eq_true,decide_eq_true_eq,List.all_eq_true] at h
 refine ⟨h.1.1.1,h.1.1.2.1,h.1.1.2.2,fun j x hx => ?_,h.2⟩
 have:=wq.1 h.1.2 j x hx
 rw [Nat.zero_add] at this
 exact this
theorem Bu {p:PB} (h1:cH p.1=true) (h2:(p.2.2.2.1.length:Int)=p.1.1) (h3:p.2.2.2.2.length≤3) (h4:∀ (j:Nat) x,p.2.2.2.1[j]? = some x→dD p.1 p.2.1 p.2.2.1 (j:Int) x=true) (h5:∀ x ∈ p.2.2.2.2,uZ p.2.1 x=true):kg p=true:=by
 unfold kg
 simp only [Bool.and_eq_true,decide_eq_true_eq,List.all_eq_true]
 refine ⟨⟨⟨h1,h2,h3⟩,wq.2 fun j x hx => ?_⟩,h5⟩
 rw [Nat.zero_add]
 exact h4 j x hx
theorem Fh {α:Type} {l:List α} {i:Nat} {y x:α} (h:x ∈ l.set i y):x ∈ l∨x=y:=by
 rcases List.mem_or_eq_of_mem_set h with h | h
 ·exact .inl h
 ·exact .inr h
theorem ou {p:PB} {k:PK} {P:PB×List EV→Prop} (h0:P (p,[]))
  (hw:∀ x,p.2.2.2.1[k.2.1.toNat]? = some x→k.1=0→P ((p.1,p.2.1,(bg p.1 p.2.1 p.2.2.1 k.2.1 x k.2.2).1,p.2.2.2.1.set k.2.1.toNat (bg p.1 p.2.1 p.2.2.1 k.2.1 x k.2.2).2.1,p.2.2.2.2),(bg p.1 p.2.1 p.2.2.1 k.2.1 x k.2.2).2.2))
  (hs:∀ x,p.2.2.2.2[k.2.1.toNat]? = some x→rM p.1 p.2.1 p.2.2.1 x=true→P ((p.1,p.2.1,(fE p.1 p.2.1 p.2.2.1 k.2.1 x).1,p.2.2.2.1,p.2.2.2.2.set k.2.1.toNat (fE p.1 p.2.1 p.2.2.1 k.2.1 x).2.1),(fE p.1 p.2.1 p.2.2.1 k.2.1 x).2.2))
  (hc:P ((p.1,p.2.1,au p.2.2.1 3 1,p.2.2.2.1,p.2.2.2.2),[])):P (fh p k):=by
 unfold fh
 split
 ·rename_i e
  split
  ·rename_i x hx;exact hw x hx e
  ·exact h0
 ·split
  ·split
   ·rename_i x hx
    split
    ·rename_i hm;exact hs x hx hm
    ·exact h0
   ·exact h0
  ·split
   ·exact hc
   ·exact h0
theorem Em {p:PB} {k:PK}:(fh p k).1.1=p.1∧(fh p k).1.2.1=p.2.1∧(fh p k).1.2.2.2.1.length=p.2.2.2.1.length∧(fh p k).1.2.2.2.2.length=p.2.2.2.2.length:=by
 refine ou (P:=fun r=>r.1.1=p.1∧r.1.2.1=p.2.1∧r.1.2.2.2.1.length=p.2.2.2.1.length∧r.1.2.2.2.2.length=p.2.2.2.2.length) ⟨rfl,rfl,rfl,rfl⟩ (fun x _ _=>⟨rfl,rfl,List.length_set,rfl⟩) (fun x _ _=>⟨rfl,rfl,rfl,List.length_set⟩) ⟨rfl,rfl,rfl,rfl⟩
theorem Io {p:PB} {k:PK}:(fh p k).2.length≤2:=
 ou (P:=fun r=>r.2.length≤2) (Nat.zero_le _) (fun x _ _=>NT) (fun x _ _=>P0) (Nat.zero_le _)
theorem EM {n:Nat} {p:PB} {k:PK} (h:Good n p) (hc:cH p.1=true):Good (n+1) (fh p k).1:=by
 have up:∀ x ∈ p.2.2.2.1,WOk (n+1) x:=fun x hx=>⟨(h.w x hx).f,Nat.le_succ_of_le (h.w x hx).s,(h.w x hx).sp⟩
 refine ou (P:=fun r=>Good (n+1) r.1) ⟨h.t,h.tl,h.m,up,h.s⟩ (fun x hx _ => ?_) (fun x hx _ => ?_) ⟨h.t,h.tl,show Wm (au p.2.2.1 3 1) from h.m.set 3 (by decide) (by decide),up,h.s⟩
 ·have hx':=h.w x (List.mem_of_getElem? hx)
  refine ⟨h.t,h.tl,VR h.m hx'.f,fun y hy => ?_,h.s⟩
  rcases Fh hy with hy | rfl
  ·exact up y hy
  ·exact Vb hc h.m hx'
 ·have hx':=h.s x (List.mem_of_getElem? hx)
  refine ⟨h.t,h.tl,(Q8 h.m hx'.f h.tl).1,up,fun y hy => ?_⟩
  rcases Fh hy with hy | rfl
  ·exact h.s y hy
  ·exact Yf h.m h.tl hx'
theorem Ca {p:PB} {k:PK} (h:kg p=true) (hk:Av k p.1.1 p.2.2.2.2.length=true):kg (fh p k).1=true:=by
 obtain ⟨h1,h2,h3,h4,h5⟩:=wR h
 refine ou (P:=fun r=>kg r.1=true) h (fun x hx hk0 => ?_) (fun x hx hm => ?_) ?_
 ·have h0:0≤k.2.1:=by
   unfold Av at hk
   rw [decide_eq_true_eq] at hk
   omega
  have hkk:((k.2.1.toNat:Nat):Int)=k.2.1:=by omega
  refine Bu h1 (by dsimp only;rw [List.length_set];exact h2) h3 (fun j y hy => ?_) h5
  dsimp only at hy ⊢
  rw [List.getElem?_set] at hy
  split at hy
  ·rename_i e
   split at hy
   ·cases hy
    subst e
    rw [hkk]
    have:=h4 _ x hx
    rw [hkk] at this
    exact QU this
   ·cases hy
  ·rw [wO GW.len]
   exact h4 j y hy
 ·refine Bu h1 h2 (by dsimp only;rw [List.length_set];exact h3) (fun j y hy => ?_) fun y hy => ?_
  ·dsimp only
   rw [wO O0]
   exact h4 j y hy
  ·rcases Fh hy with hy | rfl
   ·exact h5 y hy
   ·exact V2 (h5 x (List.mem_of_getElem? hx)) hm
 ·refine Bu h1 h2 h3 (fun j y hy => ?_) h5
  dsimp only
  rw [wO iF]
  exact h4 j y hy
theorem GI {P:PB→Prop} (hs:∀ p k,kg p=true→Av k p.1.1 p.2.2.2.2.length=true→P p→P (fh p k).1):∀ {l:List PK} {p:PB},kg p=true→P p→P (rN p l).1∧kg (rN p l).1=true
 | [],p,h,hp=>⟨hp,h⟩
 | k::l,p,h,hp=>by
  rw [rN]
  split
  ·rename_i hk
   exact GI hs (Ca h hk) (hs p k h hk hp)
  ·exact GI hs h hp
end Go.Ab
set_option linter.unusedVariables false
set_option linter.unusedSimpArgs false
namespace Go.Ab
theorem VP (n w:Int):da n w=some (decide (0≤n∧n<w)):=by
 unfold da
 by_cases h0:0≤n
 ·rw [leT h0,cond_true]
  by_cases h1:n<w
  ·rw [ltT h1,decide_eq_true ⟨h0,h1⟩]
  ·rw [ltF (by omega),decide_eq_false (by omega)]
 ·rw [leF (by omega),cond_false,decide_eq_false (by omega)]
theorem TL (k:PK) (w s:Int):iZ k w s=some (Av k w s):=by
 unfold iZ Av
 simp only [VP,ae,lP]
 by_cases h0:k.1=0
 ·by_cases hb:0≤k.2.1∧k.2.1<w
  ·simp [h0,hb]
  ·simp [h0,hb]
 ·by_cases h1:k.1=1
  ·by_cases hb:0≤k.2.1∧k.2.1<s
   ·simp [h1,hb]
   ·simp [h1,hb]
  ·by_cases h2:k.1=2
   ·simp [h2]
   ·simp [h0,h1,h2]
theorem uf {α:Type}:∀ {l:List α} {i:Nat} {x:α},l[i]? = some x→l.set i x=l
 | [],_,_,h=>by cases h
 | a::l,0,x,h=>by cases h;rfl
 | a::l,i+1,x,h=>by rw [List.set_cons_succ,uf (l:=l) (by simpa using h)]
theorem adS {i n:Nat} (h:i<n):decide ((0:Int)≤(i:Int)∧(i:Int).toNat<n)=true:=decide_eq_true ⟨by omega,by omega⟩
theorem Kt (k:Nat) (hk:1000≤k) {t:Tyt} (ht:FwT t):eG k t=some t:=by
 have hl:=ht.len
 unfold eG
 rw [bG (by omega),ae]
 have key:∀ (r:Tyt) (q n:Nat),t.drop q=r→q≤t.length→r.length<n→cL k t n t (t.length:Int) (q:Int) t=some t:=by
  intro r
  induction r with
  | nil=>
   intro q n hr hq hn
   obtain ⟨n,rfl⟩:=ib hn
   have:=dq hr
   rw [cL,ltF (by omega),cond_false,decide_eq_true (Nat.le_refl _),cq,List.take_length]
  | cons v r ih=>
   intro q n hr hq hn
   obtain ⟨n,rfl⟩:=ib hn
   obtain ⟨h0,h1,h2,_,h4⟩:=ct hr
   have hv:=ht.kids v (List.mem_of_getElem? h1)
   rw [cL,ltN h0,cond_true,adS h0,cond_true,Int.toNat_natCast,h1,ae,bG (by omega),ae,cond_true,ae,gP (by omega),uf h1]
   exact ih (q+1) n h2 (by omega) (by simp only [List.length_cons] at hn;omega)
 have:=key t 0 (k+1) rfl (Nat.zero_le _) (by omega)
 simpa using this
theorem acA (k n:Nat) {t:Tyt} {l:List Int} (hl:l.length≤1000) (hn:l.length<n):bS k n l (l.length:Int) t 0=some (IX (fun r => !decide (0≤r∧r<(t.length:Int))) l 0):=by
 refine KY (F:=fun n i=>bS k n l (l.length:Int) t i) (l:=l) _ ?_ ?_ n hn
 ·intro n
  simp only [bS,AS,cond_false]
 ·intro n i x hi hx
  simp only [bS,ltN hi,cond_true,fZ hx,ae]
  rw [gP (by omega)]
  by_cases h0:x<0
  ·rw [ltT h0,cond_true,decide_eq_false (by omega)]
   rfl
  ·rw [ltF (by omega),cond_false]
   by_cases h1:(t.length:Int)≤x
   ·rw [leT h1,cond_true,decide_eq_false (by omega)]
    rfl
   ·rw [leF (by omega),cond_false,decide_eq_true (by omega)]
    rfl
theorem Xa (k n:Nat) (hk:1000≤k) {t:Tyt} {S:List SB} (hS:S.length≤1000) (hr:∀ x ∈ S,x.2.1.length≤1000) (hn:S.length<n):bF k n S (S.length:Int) t 0=some (IX (fun x => !uZ t x) S 0):=by
 refine KY (F:=fun n i=>bF k n S (S.length:Int) t i) (l:=S) _ ?_ ?_ n hn
 ·intro n
  simp only [bF,AS,cond_false]
 ·intro n i x hi hx
  have hx':=hr x (List.mem_of_getElem? hx)
  have ho:=acA k (k+29) (t:=t) hx' (by omega)
  simp only [bF,ltN hi,cond_true,fZ hx,ae,ho,wP]
  rw [gP (by omega)]
  have e:uZ t x=(decide (0≤x.1∧x.1<6) && !(x.2.1.any fun r => !decide (0≤r∧r<(t.length:Int)))&&(decide (x.1=0)||decide (x.2.1≠[]))):=by
   unfold uZ
   rw [List.all_eq_not_any_not]
  rw [e,E5,lP]
  by_cases h0:x.1<0
  ·rw [ltT h0,cond_true,decide_eq_false (show ¬ (0≤x.1∧x.1<6) by omega)]
   rfl
  ·rw [ltF (by omega),cond_false]
   by_cases h6:6≤x.1
   ·rw [leT h6,cond_true,decide_eq_false (show ¬ (0≤x.1∧x.1<6) by omega)]
    rfl
   ·rw [leF (by omega),cond_false,decide_eq_true (show 0≤x.1∧x.1<6 by omega)]
    cases (x.2.1.any fun r => !decide (0≤r∧r<(t.length:Int))) with
    | true=>rfl
    | false=>
     rw [cond_false]
     by_cases hz:x.1=0
     ·rw [decide_eq_true hz]
      rfl
     ·rw [decide_eq_false hz,Bool.not_false,cond_true]
      by_cases hn:x.2.1=[]
      ·rw [hn]
       rfl
      ·have hl:¬ ((x.2.1.length:Int)=0):=by
        intro h
        exact hn (List.length_eq_zero_iff.1 (by omega))
       rw [decide_eq_false hl,decide_eq_true hn]
       rfl
section
variable {k:Nat} (hk:9223372036854779000≤k) {p:PB} (ht:Wt p.2.1) (hw:∀ x ∈ p.2.2.2.1,x.2.1.length≤9000) (hs:∀ x ∈ p.2.2.2.2,x.2.1.length≤1000)
include hk ht hw hs
theorem aaL:lH k p=some (kg p):=by
 unfold lH kg
 simp only [Prod.eta,fU,ae]
 cases hm:cH p.1 with
 | false=>rfl
 | true=>
  have hc:=aF hm
  rw [Bool.not_true,cond_false,Bool.true_and,E5]
  by_cases h1:(p.2.2.2.1.length:Int)=p.1.1
  ·rw [decide_eq_true h1,Bool.not_true,cond_false]
   by_cases h3:(3:Int)<p.2.2.2.2.length
   ·rw [ltT h3,cond_true,decide_eq_false (by omega)]
    rfl
   ·rw [ltF (by omega),cond_false,decide_eq_true ⟨h1,by omega⟩,Bool.true_and]
    have key:∀ (r:List WB) (q n:Nat),p.2.2.2.1.drop q=r→q≤p.2.2.2.1.length→r.length<n→dN k p n (q:Int)=some (C9 p.1 p.2.1 p.2.2.1 q r&&p.2.2.2.2.all (uZ p.2.1)):=by
     intro r
     induction r with
     | nil=>
      intro q n hr hq hn
      obtain ⟨n,rfl⟩:=ib hn
      have:=dq hr
      rw [dN,ltF (by omega),cond_false,Xa k (k+32) (by omega) (by omega) hs (by omega),ae,wP,C9,Bool.true_and,List.all_eq_not_any_not]
     | cons v r ih=>
      intro q n hr hq hn
      obtain ⟨n,rfl⟩:=ib hn
      obtain ⟨h0,h1',h2,_,h4⟩:=ct hr
      have hv:=hw v (List.mem_of_getElem? h1')
      rw [dN,ltN h0,cond_true,fZ h1',ae]
      try simp only [Prod.eta]
      rw [Kj (by omega) p.1 ht p.2.2.1 (q:Int) v hv,ae,C9,gP (by omega),ih (q+1) n h2 (by omega) (by simp only [List.length_cons] at hn;omega)]
      cases dD p.1 p.2.1 p.2.2.1 (q:Int) v <;> rfl
    have:=key p.2.2.2.1 0 (k+33) rfl (Nat.zero_le _) (by omega)
    simpa using this
  ·rw [decide_eq_false h1,Bool.not_false,cond_true,decide_eq_false (fun h=>h1 h.1)]
   rfl
end
theorem Kb (k:Nat) (c1 c2 c3 c4:Int) (t:Tyt) (m:List Int) (W:List WB) {S:List SB} (hS:S.length≤1000) (hr:∀ x ∈ S,x.2.1.length≤1000):∀ (r:List SB) (q n:Nat),S.drop q=r→q≤S.length→r.length<n →
  cp k n c1 c2 c3 c4 t m W S (S.length:Int) W (q:Int) S=some (c1,c2,c3,c4,t,m,W,S,W,S):=by
 intro r
 induction r with
 | nil=>
  intro q n hr hq hn
  obtain ⟨n,rfl⟩:=ib hn
  have:=dq hr
  rw [cp,ltF (by omega),cond_false]
 | cons v r ih=>
  intro q n hr' hq hn
  obtain ⟨n,rfl⟩:=ib hn
  obtain ⟨h0,h1,h2,_,h4⟩:=ct hr'
  have hv:=hr v (List.mem_of_getElem? h1)
  rw [cp,ltN h0,cond_true,adS h0,cond_true,Int.toNat_natCast,h1,ae,bG (by omega),ae,cond_true,ae,gP (by omega)]
  try simp only [Prod.eta]
  rw [uf h1]
  exact ih (q+1) n h2 (by omega) (by simp only [List.length_cons] at hn;omega)
theorem NW (k:Nat) (hk:1000≤k) (c1 c2 c3 c4:Int) (t:Tyt) (m:List Int) {W:List WB} {S:List SB} (hW:W.length≤1000) (hw:∀ x ∈ W,x.2.1.length≤9000) (hS:S.length≤1000) (hs:∀ x ∈ S,x.2.1.length≤1000):∀ (r:List WB) (q n:Nat),W.drop q=r→q≤W.length→r.length<n →
  cj k n c1 c2 c3 c4 t m W S (W.length:Int) (q:Int) W=some (c1,c2,c3,c4,t,m,W,S,W,S):=by
 intro r
 induction r with
 | nil=>
  intro q n hr hq hn
  obtain ⟨n,rfl⟩:=ib hn
  have:=dq hr
  rw [cj,ltF (by omega),cond_false]
  exact Kb k c1 c2 c3 c4 t m W hS hs S 0 (k+61) rfl (Nat.zero_le _) (by omega)
 | cons v r ih=>
  intro q n hr' hq hn
  obtain ⟨n,rfl⟩:=ib hn
  obtain ⟨h0,h1,h2,_,h4⟩:=ct hr'
  have hv:=hw v (List.mem_of_getElem? h1)
  rw [cj,ltN h0,cond_true,adS h0,cond_true,Int.toNat_natCast,h1,ae,bG (by omega),ae,cond_true,ae,gP (by omega)]
  try simp only [Prod.eta]
  rw [uf h1]
  exact ih (q+1) n h2 (by omega) (by simp only [List.length_cons] at hn;omega)
def Wp (l:List PK):Prop:=∀ x ∈ l,0≤x.2.2∧x.2.2≤18446744073709551615
section
variable {k:Nat} (hk:9223372036854779000≤k) {p0:PB} {l:List PK} (hl:l.length≤1000) (hd:Wp l)
include hk hl hd
theorem OP:∀ (r:List PK) (q n N:Nat) (p:PB) (W0:List WB) (S0:List SB) (evs:List EV) (e:Nat),l.drop q=r→q≤l.length→r.length<n→(e=3∨e=0)→p.1=p0.1→p.2.2.2.2.length=p0.2.2.2.2.length→W0.length=p.2.2.2.1.length→S0.length=p.2.2.2.2.length→Good N p→kg p=true→N+r.length≤9000→evs.length+2*r.length≤4000 →
  bz k p0 l n p.1.1 p.1.2.1 p.1.2.2.1 p.1.2.2.2 p.2.1 W0 S0 p.2.2.2.1 p.2.2.2.2 evs (q:Int) p.2.2.1 e=some ((rN p r).1,evs++(rN p r).2):=by
 intro r
 induction r with
 | nil=>
  intro q n N p W0 S0 evs e hr hq hn he hc hS hW0 hS0 hg hm hN hE
  obtain ⟨n,rfl⟩:=ib hn
  have:=dq hr
  rw [bz,ltF (by omega),cond_false,decide_eq_true (by omega),cq,decide_eq_true (by omega),cq,hW0,hS0,List.take_length,List.take_length,rN,List.append_nil]
 | cons v r ih=>
  intro q n N p W0 S0 evs e hr hq hn he hc hS hW0 hS0 hg hm hN hE
  obtain ⟨n,rfl⟩:=ib hn
  obtain ⟨h0,h1,h2,_,h4⟩:=ct hr
  have hv:=hd v (List.mem_of_getElem? h1)
  obtain ⟨m1,m2,m3,m4,m5⟩:=wR hm
  have hcc:=aF m1
  simp only [List.length_cons] at hn hN hE
  have hml:p.2.2.1.length≤1000:=by
   have hW1:0<p.2.2.2.1.length:=by omega
   have:=(GR (m4 0 _ (List.getElem?_eq_getElem hW1))).2.1
   have:=oB m1
   omega
  have hes:(e==3||e==0)=true:=by rcases he with rfl | rfl <;> rfl
  have next:∀ (evs':List EV) (p':PB),p'.1=p.1→p'.2.1=p.2.1→p'.2.2.2.1.length=p.2.2.2.1.length→p'.2.2.2.2.length=p.2.2.2.2.length→Good (N+1) p'→kg p'=true→evs'.length≤evs.length+2→∀ e',(e'=3∨e'=0) →
    bz k p0 l n p.1.1 p.1.2.1 p.1.2.2.1 p.1.2.2.2 p.2.1 W0 S0 p'.2.2.2.1 p'.2.2.2.2 evs' ((q+1:Nat):Int) p'.2.2.1 e'=some ((rN p' r).1,evs'++(rN p' r).2):=fun evs' p' g1 g2 g3 g4 g5 g6 g7 e' he'=>by
   have:=ih (q+1) n (N+1) p' W0 S0 evs' e' h2 (by omega) (by omega) he' (by rw [g1,hc]) (by omega) (by omega) (by omega) g5 g6 (by omega) (by omega)
   rw [g1,g2] at this
   exact this
  have hw:IntKind.i64.wrap ((q:Int)+1)=((q+1:Nat):Int):=gP (by omega)
  have up:Good (N+1) p:=⟨hg.t,hg.tl,hg.m,fun x hx=>⟨(hg.w x hx).f,Nat.le_succ_of_le (hg.w x hx).s,(hg.w x hx).sp⟩,hg.s⟩
  rw [bz,ltN h0,cond_true,fZ h1,ae]
  simp only [Prod.eta,hw]
  rw [TL,ae,rN,← hc,← hS]
  cases hf:Av v p.1.1 p.2.2.2.2.length with
  | false=>
   rw [cond_false,if_neg (by simp)]
   exact next evs p rfl rfl rfl rfl up hm (by omega) e he
  | true=>
   have st:=Em (p:=p) (k:=v)
   have sg:=EM (k:=v) hg m1
   have sm:=Ca hm hf
   have se:=Io (p:=p) (k:=v)
   have nx:=fun e' he'=>next (evs++(fh p v).2) (fh p v).1 st.1 st.2.1 st.2.2.1 st.2.2.2 sg sm (by rw [List.length_append];omega) e' he'
   have hroom:room (evs++(fh p v).2).length 24=true:=Fj (by rw [List.length_append];omega)
   have hroom0:room evs.length 24=true:=Fj (by omega)
   rw [cond_true,if_pos rfl]
   simp only [← List.append_assoc]
   have hfit:=hf
   unfold Av at hfit
   rw [decide_eq_true_eq] at hfit
   by_cases k0:v.1=0
   ·have hb:0≤v.2.1∧v.2.1<p.1.1:=by omega
    have hi:v.2.1.toNat<p.2.2.2.1.length:=by omega
    have hx:=List.getElem?_eq_getElem hi
    have hdec:decide (0≤v.2.1∧v.2.1.toNat<W0.length)=true:=decide_eq_true ⟨hb.1,by omega⟩
    generalize p.2.2.2.1[v.2.1.toNat]=x at hx
    have hxo:=hg.w x (List.mem_of_getElem? hx)
    have es:fh p v=((p.1,p.2.1,(bg p.1 p.2.1 p.2.2.1 v.2.1 x v.2.2).1,p.2.2.2.1.set v.2.1.toNat (bg p.1 p.2.1 p.2.2.1 v.2.1 x v.2.2).2.1,p.2.2.2.2),(bg p.1 p.2.1 p.2.2.1 v.2.1 x v.2.2).2.2):=by
     unfold fh
     rw [if_pos k0,hx]
    rw [lP,decide_eq_true k0,cond_true,hdec,cond_true,hx,ae]
    try simp only [Prod.eta]
    rw [OS (by omega) p.1 hg.t.wt hg.m hml v.2.1 hxo.f (by have:=hxo.s;omega) (by have:=hxo.sp;omega) hv,ae,cond_true,ae,hes,cq]
    rw [es] at nx hroom ⊢
    rw [hroom,cond_true]
    exact nx 3 (.inl rfl)
   ·rw [lP,decide_eq_false k0,cond_false]
    by_cases k1:v.1=1
    ·have hb:0≤v.2.1∧v.2.1<(p.2.2.2.2.length:Int):=by omega
     have hi:v.2.1.toNat<p.2.2.2.2.length:=by omega
     have hx:=List.getElem?_eq_getElem hi
     have hdec:decide (0≤v.2.1∧v.2.1.toNat<S0.length)=true:=decide_eq_true ⟨hb.1,by omega⟩
     generalize p.2.2.2.2[v.2.1.toNat]=x at hx
     have hxo:=hg.s x (List.mem_of_getElem? hx)
     rw [lP,decide_eq_true k1,cond_true,hdec,cond_true,hx,ae]
     try simp only [Prod.eta]
     rw [Sw (by omega) p.1 hg.t.wt,ae]
     cases hsm:rM p.1 p.2.1 p.2.2.1 x with
     | false=>
      have es:fh p v=(p,[]):=by
       unfold fh
       rw [if_neg k0,if_pos k1,hx]
       dsimp only
       rw [hsm,if_neg (by simp)]
      rw [es] at nx ⊢
      rw [cond_false,hes,cq,hroom0,cond_true]
      have:=nx 3 (.inl rfl)
      rw [List.append_nil] at this ⊢
      exact this
     | true=>
      have es:fh p v=((p.1,p.2.1,(fE p.1 p.2.1 p.2.2.1 v.2.1 x).1,p.2.2.2.1,p.2.2.2.2.set v.2.1.toNat (fE p.1 p.2.1 p.2.2.1 v.2.1 x).2.1),(fE p.1 p.2.1 p.2.2.1 v.2.1 x).2.2):=by
       unfold fh
       rw [if_neg k0,if_pos k1,hx]
       dsimp only
       rw [hsm,if_pos rfl]
      rw [cond_true,cond_true,ae]
      rw [S6 (by omega) p.1 hg.t.wt hg.m hml v.2.1 hxo.f hxo.s hg.tl,ae,cond_true,ae,hes,cq]
      rw [es] at nx hroom ⊢
      rw [hroom,cond_true]
      exact nx 3 (.inl rfl)
    ·rw [lP,decide_eq_false k1,cond_false]
     by_cases k2:v.1=2
     ·have es:fh p v=((p.1,p.2.1,au p.2.2.1 3 1,p.2.2.2.1,p.2.2.2.2),[]):=by
       unfold fh
       rw [if_neg k0,if_neg k1,if_pos k2]
      rw [lP,decide_eq_true k2,cond_true,iE hml,ae,hes,cq,hroom0,cond_true]
      rw [es] at nx ⊢
      have:=nx 3 (.inl rfl)
      rw [List.append_nil] at this ⊢
      exact this
     ·have es:fh p v=(p,[]):=by
       unfold fh
       rw [if_neg k0,if_neg k1,if_neg k2]
      rw [lP,decide_eq_false k2,cond_false,hes,cq,hroom0,cond_true]
      rw [es] at nx ⊢
      have:=nx 3 (.inl rfl)
      rw [List.append_nil] at this ⊢
      exact this
theorem aeN {N:Nat} (hg:Good N p0) (hW:p0.2.2.2.1.length≤20) (hS:p0.2.2.2.2.length≤20) (hml:p0.2.2.1.length≤1000) (hN:N+l.length≤9000):fD k p0 l=some (adV p0 l):=by
 have hw:∀ x ∈ p0.2.2.2.1,x.2.1.length≤9000:=fun x hx=>by have:=(hg.w x hx).s;omega
 have hs:∀ x ∈ p0.2.2.2.2,x.2.1.length≤1000:=fun x hx=>(hg.s x hx).s
 unfold fD adV
 try simp only [Prod.eta]
 rw [Kt _ (by omega) hg.t,ae,bG (by omega),ae,bG (by omega),ae,bG (by omega),ae]
 have ho:=NW k (by omega) p0.1.1 p0.1.2.1 p0.1.2.2.1 p0.1.2.2.2 p0.2.1 p0.2.2.1 (by omega) hw (by omega) hs p0.2.2.2.1 0 (k+61) rfl (Nat.zero_le _) (by omega)
 refine (congrArg (fun z=>ob z _) ho).trans ?_
 rw [ae]
 dsimp only
 rw [decide_eq_true (Nat.le_refl _),cq,decide_eq_true (Nat.le_refl _),cq,aaL (by omega) hg.t.wt hw hs,ae,List.take_length,List.take_length,decide_eq_true (Nat.le_refl _),decide_eq_true (Nat.le_refl _)]
 cases hm:kg p0 with
 | false=>
  rw [Bool.not_false,cond_true,cq,cq,if_neg (by simp),List.take_length,List.take_length]
 | true=>
  rw [Bool.not_true,cond_false,if_pos rfl]
  exact OP hk hl hd l 0 (k+62) N p0 p0.2.2.2.1 p0.2.2.2.2 [] 0 rfl (Nat.zero_le _) (by omega) (.inr rfl) rfl rfl rfl rfl hg hm hN (by simp;omega)
end
end Go.Ab
set_option linter.unusedVariables false
set_option linter.unusedSimpArgs false
namespace Go.Ab
theorem LV (n:Nat) (i:Int):ah (List.replicate n 0) i=0:=by
 unfold ah
 split
 ·rw [List.getElem?_replicate]
  split <;> rfl
 ·rfl
theorem ac0 {k:Nat} (hk:1000≤k) (c:CF):lh k c=some (List.replicate (bA c).toNat 0):=by
 have hs:0≤bA c∧bA c≤190:=by
  unfold bA
  split
  ·rename_i h
   have hm:=aF h
   have:=dj h (w:=c.1) (by omega) (by omega)
   omega
  ·omega
 have key:∀ (d i n t:Nat),(t=0∨t=1)→i+d=(bA c).toNat→d<n→ew k c n (bA c) (List.replicate i 0) (i:Int) t=some (List.replicate (bA c).toNat 0):=by
  intro d
  induction d with
  | zero=>
   intro i n t ht hi hn
   obtain ⟨n,rfl⟩:=ib hn
   rw [ew,ltF (by omega),cond_false]
   rw [show i=(bA c).toNat by omega]
  | succ d ih=>
   intro i n t ht hi hn
   obtain ⟨n,rfl⟩:=ib hn
   have h1:(t==1||t==0)=true:=by rcases ht with rfl | rfl <;> rfl
   rw [ew,ltT (by omega),cond_true,h1,cq,Fj (by simp;omega),cond_true,gP (by omega)]
   have:=ih (i+1) n 1 (.inr rfl) (by omega) (by omega)
   rw [List.replicate_succ'] at this
   exact this
 unfold lh
 simp only [Prod.eta,AZ,ae]
 exact key (bA c).toNat 0 (k+3) 0 (.inl rfl) (by omega) (by omega)
theorem ZQ {l:List Int} (h:l.length≤1000):gq l=some (0,l,cO):=by
 unfold gq
 rw [bG (by omega),ae]
 rfl
theorem HM {α:Type} (p:α→Bool):∀ (l:List α) (i:Nat),IX p l i = -1∨∃ (j:Nat) (x:α),IX p l i=((i+j:Nat):Int)∧l[j]? = some x∧p x=true
 | [],_ => .inl rfl
 | x::r,i=>by
  rw [IX]
  by_cases h:p x=true
  ·rw [if_pos h]
   exact .inr ⟨0,x,rfl,rfl,h⟩
  ·rw [if_neg h]
   rcases HM p r (i+1) with e | ⟨j,y,e,h1,h2⟩
   ·exact .inl e
   ·refine .inr ⟨j+1,y,?_,h1,h2⟩
    rw [e]
    congr 1
    omega
theorem TM (k:Nat) {l:List Int} (hl:l.length≤1000) (hk:1001≤k) (v:Int):cY k l v=some (IX (fun y=>v==y) l 0):=by
 unfold cY
 refine KY (F:=fun n i=>bu k l v n i) (l:=l) _ ?_ ?_ k (by omega)
 ·intro n
  simp only [bu,AS,cond_false]
 ·intro n i y hi hy
  simp only [bu,ltN hi,cond_true,fZ hy,ae]
  rw [gP (by omega)]
def RtB (t:Tyt) (y:Int):Prop:=(0≤y∧y<(t.length:Int))∧fO t y = -1
section
variable (k:Nat) (hk:9223372036854775808≤k)
include hk
theorem J4 (t:Tyt) (ht:Wt t) (q:Int):eF k t q=some (fO t q):=by
 have hlen:=ht.len
 rw [eF,Ju k hk t ht,ae]
 unfold fO
 cases hm:nj t with
 | false=>rfl
 | true=>
  rw [cond_true,if_pos rfl]
  have inner:∀ (x:Int×List Int) (hx:x ∈ t) (i:Nat) (hi:i<t.length) (o:Int→Option Int) (R:List (Int×Int)) (z:Int)
    (ho:o ((i+1:Nat):Int)=some (if (B5 (gR q) R z).1 then -1 else (B5 (gR q) R z).2)),
    ∀ r j n,x.2.drop j=r→r.length<n →
     bP k t q o n x.2 (x.2.length:Int) (j:Int) (i:Int)=some (if (B5 (gR q) (r.map (fun p=>(p,(i:Int)))++R) z).1 then -1 else (B5 (gR q) (r.map (fun p=>(p,(i:Int)))++R) z).2):=by
   intro x hx i hi o R z ho r
   have hxl:=ht.kids x hx
   induction r with
   | nil=>
    intro j n hr hn
    obtain ⟨n,rfl⟩:=ib hn
    have hj:=dq hr
    rw [bP,ltF (by omega),cond_false,gP (by omega),ho]
    rfl
   | cons p r ih=>
    intro j n hr hn
    obtain ⟨n,rfl⟩:=ib hn
    obtain ⟨a,b,c,d,e⟩:=ct hr
    rw [bP,ltN a,cond_true,fZ b,ae,List.map_cons,List.cons_append,B5,lP]
    by_cases h1:p=q
    ·simp [h1,gR]
    ·rw [decide_eq_false h1,cond_false,gP (by omega),ih (j+1) n c (by simp only [List.length_cons] at hn;omega)]
     simp [gR,h1]
     -- the number handed on is not changed
  have outer:∀ r i n (z:Int),t.drop i=r→i≤t.length→r.length<n→bk k t q n (i:Int)=some (if (B5 (gR q) (eU i r) z).1 then -1 else (B5 (gR q) (eU i r) z).2):=by
   intro r
   induction r with
   | nil=>
    intro i n z hr hi hn
    obtain ⟨n,rfl⟩:=ib hn
    have:=dq hr
    rw [bk,ltF (by omega),cond_false]
    rfl
   | cons x r ih=>
    intro i n z hr hi hn
    obtain ⟨n,rfl⟩:=ib hn
    obtain ⟨a,b,c,d,e⟩:=ct hr
    have hxl:=ht.kids x d
    rw [bk,ltN a,cond_true,fZ b,ae,eU]
    have:=inner x d i a (fun s=>bk k t q n s) (eU (i+1) r) z (ih (i+1) n z c (by omega) (by simp only [List.length_cons] at hn;omega)) x.2 0 (k+18) rfl (by omega)
    simpa using this
  have:=outer t 0 (k+18) 0 rfl (Nat.zero_le _) (by omega)
  simpa using this
end
theorem VM {k:Nat} (hk:9223372036854775808≤k) {t:Tyt} (ht:FwT t):∀ (d i n g e:Nat) (L:List Int),i+d=t.length→d<n→L.length≤i→(e=0∨e=1)→(L≠[]→e=1)→(∀ r ∈ L,RtB t r)→L.Nodup∧(∀ r ∈ L,r<(i:Int)) →
  ∃ g' L' e',bv k n t (t.length:Int) g L (i:Int) e=some (g',L',e')∧L'.length≤t.length∧(L'≠[]→e'=1)∧(∀ r ∈ L',RtB t r)∧L'.Nodup:=by
 have hlen:=ht.len
 intro d
 induction d with
 | zero=>
  intro i n g e L hi hn hL he hne hr hd
  obtain ⟨n,rfl⟩:=ib hn
  rw [bv,ltF (by omega),cond_false]
  exact ⟨g,L,e,rfl,by omega,hne,hr,hd.1⟩
 | succ d ih=>
  intro i n g e L hi hn hL he hne hr hd
  obtain ⟨n,rfl⟩:=ib hn
  rw [bv,ltT (by omega),cond_true,J4 k hk t ht.wt,ae,gP (by omega)]
  cases hz:fO t (i:Int) == -1 with
  | true=>
   have he1:(e==1||e==0)=true:=by rcases he with rfl | rfl <;> rfl
   rw [cond_true,he1,cq,Fj (by simp;omega),cond_true]
   refine ih (i+1) n (g+1) 1 (L++[(i:Int)]) (by omega) (by omega) (by simp;omega) (.inr rfl) (fun _=>rfl) (fun r hr' => ?_) ⟨?_,fun r hr' => ?_⟩
   ·rcases List.mem_append.1 hr' with h | h
    ·exact hr r h
    ·rw [List.mem_singleton.1 h]
     exact ⟨by omega,by simpa using hz⟩
   ·refine List.nodup_append.2 ⟨hd.1,by simp,fun a ha b hb => ?_⟩
    have:=hd.2 a ha
    rw [List.mem_singleton.1 hb]
    omega
   ·rcases List.mem_append.1 hr' with h | h
    ·have:=hd.2 r h
     omega
    ·rw [List.mem_singleton.1 h];omega
  | false=>
   rw [cond_false]
   exact ih (i+1) n g e L (by omega) (by omega) (by omega) he hne hr ⟨hd.1,fun r h=>by have:=hd.2 r h;omega⟩
def Dr (w:Nat):WB:=(0,[],rP 1 (w:Int) 0,0,0)
def lc (n:Nat):List WB:=(List.range n).map Dr
def gS (roots:List (List Int)):List SB:=roots.map fun l=>(0,l,cO)
def Gi (c:CF) (t:Tyt) (roots:List (List Int)):PB:=(c,t,List.replicate (bA c).toNat 0,lc c.1.toNat,gS roots)
def Qh:PB:=((0,0,0,0),[],[],[],[])
section
variable {k:Nat} (hk:9223372036854779000≤k) (c:CF) (t:Tyt) (ht:t.length≤40) (roots:List (List Int))
include hk ht
theorem Ki (o0:Tyt→List Int→Nat→List WB→Int→List SB→Nat→Nat→List Int→Option (PB×Bool)) (t':Tyt) (m:List Int) (W:List WB) (i0:Int) (S:List SB) (C x:List Int) (hx:x.length≤1000) (hS:S.length≤100) (e:Nat) (he:e=9∨e=0) :
  ∀ (r:List Int) (q n len z:Nat) (L:List Int),x.drop q=r→q≤x.length→r.length<n→len≤L.length→L.length≤40→(0<len→z=1)→(∀ y ∈ L.take len,RtB t y)→(∀ y ∈ x.take q,RtB t y)→(C++(x.take q++L.take len)).Nodup →
  cA k c t roots o0 n x t' m (x.length:Int) z W len (q:Int) L i0 S e=some (Qh,false) ∨
  ∃ (len' z':Nat) (L':List Int),len'≤L'.length∧L'.length≤40∧(0<len'→z'=1)∧(∀ y ∈ L'.take len',RtB t y)∧(∀ y ∈ x,RtB t y)∧(C++(x++L'.take len')).Nodup ∧
   cA k c t roots o0 n x t' m (x.length:Int) z W len (q:Int) L i0 S e=o0 t' m z' W (IntKind.i64.wrap (i0+1)) (S++[(0,x,cO)]) 9 len' L':=by
 have _h:=ht
 intro r
 induction r with
 | nil=>
  intro q n len z L hr hq hn hlen hL hz hy hxq hd
  obtain ⟨n,rfl⟩:=ib hn
  have:=dq hr
  have he1:(e==9||e==0)=true:=by rcases he with rfl | rfl <;> rfl
  refine .inr ⟨len,z,L,hlen,hL,hz,hy,?_,?_,?_⟩
  ·rw [List.take_of_length_le (by omega)] at hxq
   exact hxq
  ·rw [List.take_of_length_le (by omega)] at hd
   exact hd
  ·rw [cA,ltF (by omega),cond_false,ZQ hx,ae,he1,cq]
   rw [Fj (by simp;omega),cond_true]
 | cons v r ih=>
  intro q n len z L hr hq hn hlen hL hz hy hxq hd
  obtain ⟨n,rfl⟩:=ib hn
  obtain ⟨h0,h1,h2,_,h4⟩:=ct hr
  simp only [List.length_cons] at hn
  rw [cA,ltN h0,cond_true,fZ h1,ae,decide_eq_true hlen,cq,TM (k+20) (by rw [List.length_take];omega) (by omega) v,ae]
  rcases HM (fun y=>v==y) (L.take len) 0 with e1 | ⟨j,y,e1,hj,hvy⟩
  ·rw [e1]
   exact .inl rfl
  ·have hvy':v=y:=by simpa using hvy
   have hjl:j<len:=by
    have:=(List.getElem?_eq_some_iff.1 hj).1
    rw [List.length_take] at this
    omega
   have hyr:=hy y (List.mem_of_getElem? hj)
   rw [e1,Nat.zero_add,ltF (by omega),cond_false,hz (by omega),show ((1:Nat)==1)=true from rfl,cq,gP (by omega),Int.toNat_natCast,Int.toNat_natCast,decide_eq_true (show len≤L.length∧(0:Int)≤(j:Int)∧(j:Int)<((j+1:Nat):Int)∧j+1≤len∧len≤9223372036854775807 by omega),cq,gP (by omega),show len - (j+1 - j)=len - 1 by omega]
   have hc1:(Dx (L.take len) j (j+1)).length=len:=by
    rw [HS (by omega) (by rw [List.length_take];omega),List.length_take]
    omega
   have hc2:(Dx (L.take len) j (j+1)++L.drop len).length=L.length:=by
    rw [List.length_append,hc1,List.length_drop]
    omega
   refine ih (q+1) n (len - 1) 1 _ h2 (by omega) (by omega) (by rw [hc2];omega) (by rw [hc2];exact hL) (fun _=>rfl) ?_ ?_ ?_
   ·intro y' hy'
    rw [List.take_append_of_le_length (by rw [hc1];omega)] at hy'
    unfold Dx at hy'
    rw [List.take_append_of_le_length (by simp;omega)] at hy'
    rcases List.mem_append.1 (List.mem_of_mem_take hy') with h | h
    ·exact hy y' (List.mem_of_mem_take h)
    ·exact hy y' (List.mem_of_mem_drop h)
   ·intro y' hy'
    rw [List.take_add_one,h1] at hy'
    rcases List.mem_append.1 hy' with h | h
    ·exact hxq y' h
    ·rw [show y'=v by simpa using h,hvy']
     exact hyr
   ·have hsp:L.take len=(L.take len).take j++y::(L.take len).drop (j+1):=by
     have:=List.take_append_drop j (L.take len)
     rw [List.drop_eq_getElem_cons (by rw [List.length_take];omega)] at this
     have hg : (L.take len)[j]'(by rw [List.length_take]; omega) = y := by
      have:=List.getElem?_eq_getElem (l:=L.take len) (i:=j) (by rw [List.length_take];omega)
      rw [hj] at this
      exact (Option.some.inj this).symm
     rw [hg] at this
     exact this.symm
    have ht1:(Dx (L.take len) j (j+1)++L.drop len).take (len - 1)=(L.take len).take j++(L.take len).drop (j+1):=by
     rw [List.take_append_of_le_length (by rw [hc1];omega)]
     unfold Dx
     rw [List.take_append_of_le_length (by simp;omega),List.take_of_length_le (by simp;omega)]
    rw [ht1,List.take_add_one,h1]
    rw [hsp] at hd
    refine (List.Perm.nodup_iff ?_).1 hd
    refine List.Perm.append_left C ?_
    rw [List.append_assoc]
    refine List.Perm.append_left _ ?_
    rw [hvy']
    exact List.perm_middle
theorem K9 (hR:roots.length≤3) (hr:∀ l ∈ roots,l.length≤1000) (W:List WB):∀ (r:List (List Int)) (q n len z e:Nat) (L:List Int) (t':Tyt) (m:List Int),roots.drop q=r→q≤roots.length→r.length<n→len≤L.length→L.length≤40→(0<len→z=1)→(e=9∨e=0)→(∀ y ∈ L.take len,RtB t y)→(∀ l ∈ roots.take q,∀ y ∈ l,RtB t y)→((roots.take q).flatten++L.take len).Nodup →
  bM k c t roots n t' m z W (q:Int) (gS (roots.take q)) e len L=some (Qh,false) ∨
  bM k c t roots n t' m z W (q:Int) (gS (roots.take q)) e len L=some ((c,t',m,W,gS roots),true)∧(∀ l ∈ roots,∀ y ∈ l,RtB t y)∧roots.flatten.Nodup:=by
 intro r
 induction r with
 | nil=>
  intro q n len z e L t' m hq' hq hn hlen hL hz he hy hxq hd
  obtain ⟨n,rfl⟩:=ib hn
  have:=dq hq'
  rw [List.take_of_length_le (by omega)] at hxq hd ⊢
  rw [bM,ltF (by omega),cond_false]
  exact .inr ⟨rfl,hxq,(List.nodup_append.1 hd).1⟩
 | cons v r ih=>
  intro q n len z e L t' m hq' hq hn hlen hL hz he hy hxq hd
  obtain ⟨n,rfl⟩:=ib hn
  obtain ⟨h0,h1,h2,_,h4⟩:=ct hq'
  simp only [List.length_cons] at hn
  have hv:=hr v (List.mem_of_getElem? h1)
  have hSl:(gS (roots.take q)).length≤100:=by unfold gS;rw [List.length_map,List.length_take];omega
  rw [bM,ltN h0,cond_true,fZ h1,ae]
  rcases Ki hk c t ht roots (fun s62 s63 s64 s77 s113 s115 s116 s135 s138=>bM k c t roots n s62 s63 s64 s77 s113 s115 s116 s135 s138) t' m W (q:Int) (gS (roots.take q)) (roots.take q).flatten v hv hSl e he v 0 (k+21) len z L rfl (Nat.zero_le _) (by omega) hlen hL hz hy (by simp) (by simpa using hd) with h | ⟨len',z',L',g1,g2,g3,g4,g5,gd,g6⟩
  ·exact .inl h
  ·have hs:gS (roots.take q)++[(0,v,cO)]=gS (roots.take (q+1)):=by
    unfold gS
    rw [List.take_add_one,h1,List.map_append]
    rfl
   rw [hs,gP (by omega)] at g6
   have:=ih (q+1) n len' z' 9 L' t' m h2 (by omega) (by omega) g1 g2 g3 (.inl rfl) g4 (fun l hl=>by
    rw [List.take_add_one,h1] at hl
    rcases List.mem_append.1 hl with h | h
    ·exact hxq l h
    ·rw [show l=v by simpa using h]
     exact g5) (by
    rw [List.take_add_one,h1,List.flatten_append]
    simpa [List.append_assoc] using gd)
   have g6':cA k c t roots (fun s62 s63 s64 s77 s113 s115 s116 s135 s138=>bM k c t roots n s62 s63 s64 s77 s113 s115 s116 s135 s138) (k+21) v t' m (v.length:Int) z W len 0 L (q:Int) (gS (roots.take q)) e=_:=g6
   rw [g6']
   exact this
theorem Qc (hR:roots.length≤3) (hr:∀ l ∈ roots,l.length≤1000) (hc:0≤c.1∧c.1≤8) (t':Tyt) (m L:List Int) (z:Nat) (hL:L.length≤40) (hz:L≠[]→z=1) (hy:∀ y ∈ L,RtB t y) (hd:L.Nodup):∀ (d i n e:Nat),(i:Int)+d=c.1→d<n→(e=11∨e=0) →
  cB k c t roots n t' m L z (i:Int) (lc i) e=some (Qh,false) ∨
  cB k c t roots n t' m L z (i:Int) (lc i) e=some ((c,t',m,lc c.1.toNat,gS roots),true)∧(∀ l ∈ roots,∀ y ∈ l,RtB t y)∧roots.flatten.Nodup:=by
 intro d
 induction d with
 | zero=>
  intro i n e hi hn he
  obtain ⟨n,rfl⟩:=ib hn
  rw [cB,ltF (by omega),cond_false,show c.1.toNat=i by omega]
  exact K9 hk c t ht roots hR hr (lc i) roots 0 (k+21) L.length z 0 L t' m rfl (Nat.zero_le _) (by omega) (Nat.le_refl _) hL (fun h=>hz (fun e=>by rw [e] at h;cases h)) (.inr rfl) (by rw [List.take_length];exact hy) (by simp) (by simpa using hd)
 | succ d ih=>
  intro i n e hi hn he
  obtain ⟨n,rfl⟩:=ib hn
  have he1:(e==11||e==0)=true:=by rcases he with rfl | rfl <;> rfl
  rw [cB,ltT (by omega),cond_true,SU,ae,he1,cq]
  rw [Fj (by rw [List.length_append];unfold lc;simp;omega),cond_true,gP (by omega)]
  have hw:lc i++[Dr i]=lc (i+1):=by
   unfold lc
   rw [List.range_succ,List.map_append]
   rfl
  have:=ih (i+1) n 11 (by omega) (by omega) (.inl rfl)
  rw [← hw] at this
  exact this
end
theorem TH {k:Nat} (hk:9223372036854779000≤k) (c:CF) {t:Tyt} (ht:FwT t) {roots:List (List Int)} (hr:∀ l ∈ roots,l.length≤1000) :
  iA k c t roots=some (Qh,false)∨iA k c t roots=some (Gi c t roots,true)∧cH c=true∧nj t=true∧roots.length≤3∧(∀ l ∈ roots,∀ y ∈ l,RtB t y)∧roots.flatten.Nodup:=by
 unfold iA
 try simp only [Prod.eta]
 rw [fU,ae]
 cases hm:cH c with
 | false=>exact .inl rfl
 | true=>
  have hc:=aF hm
  rw [Bool.not_true,cond_false,Ju _ (by omega) t ht.wt,ae]
  cases ht2:nj t with
  | false=>exact .inl rfl
  | true=>
   rw [Bool.not_true,cond_false]
   by_cases h3:(3:Int)<roots.length
   ·rw [ltT h3]
    exact .inl rfl
   ·obtain ⟨g',L',e',h1,h2,h4,h5,h6⟩:=VM (k:=k) (by omega) ht t.length 0 (k+20) 0 0 [] (by omega) (by have:=ht.len;omega) (Nat.zero_le _) (.inl rfl) (fun h=>absurd rfl h) (by simp) ⟨List.nodup_nil,by simp⟩
    rw [ltF (by omega),cond_false,Ju _ (by omega) t ht.wt,ae,ht2,Bool.not_true,cond_false]
    refine (show _∨_ from ?_)
    have h1':bv k (k+20) t (t.length:Int) 0 [] 0 0=some (g',L',e'):=h1
    rw [h1',ae,Kt _ (by omega) ht,ae,ac0 (by omega),ae]
    have hl:=ht.len
    rcases Qc (k:=k) hk c t ht.len roots (by omega) hr (by omega) t (List.replicate (bA c).toNat 0) L' e' (by omega) h4 h5 h6 c.1.toNat 0 (k+21) 0 (by omega) (by omega) (.inr rfl) with h | ⟨h,h'⟩
    ·exact .inl h
    ·exact .inr ⟨h,rfl,rfl,by omega,h'⟩
end Go.Ab
set_option linter.unusedVariables false
namespace Go.Ab
theorem aaz {k:Nat} (hk:9223372036854775808≤k) {l:List (List Int)} (hl:l.length≤9223372036854775807):∃ b,bQ k l=some b∧(b=true→l.length≤10∧∀ x ∈ l,x.length≤60):=by
 unfold bQ
 have key:∀ (r:List (List Int)) (q n:Nat),l.drop q=r→q≤l.length→r.length<n→(∀ x ∈ l.take q,x.length≤60)→∃ b,aX k l n (q:Int)=some b∧(b=true→l.length≤10∧∀ x ∈ l,x.length≤60):=by
  intro r
  induction r with
  | nil=>
   intro q n hr hq hn hx
   obtain ⟨n,rfl⟩:=ib hn
   have:=dq hr
   rw [List.take_of_length_le (by omega)] at hx
   rw [aX,ltF (by omega),cond_false]
   refine ⟨_,rfl,fun h=>⟨?_,hx⟩⟩
   have:=of_decide_eq_true h
   omega
  | cons v r ih=>
   intro q n hr hq hn hx
   obtain ⟨n,rfl⟩:=ib hn
   obtain ⟨h0,h1,h2,_,h4⟩:=ct hr
   rw [aX,ltN h0,cond_true]
   by_cases hq10:(q:Int)≤10
   ·rw [leT hq10,cond_true,fZ h1,ae]
    by_cases h60:(60:Int)<v.length
    ·rw [ltT h60,cond_true]
     exact ⟨_,rfl,fun h=>by cases h⟩
    ·rw [ltF (by omega),cond_false,gP (by omega)]
     refine ih (q+1) n h2 (by omega) (by simp only [List.length_cons] at hn;omega) fun x hx' => ?_
     rw [List.take_add_one,h1] at hx'
     rcases List.mem_append.1 hx' with h | h
     ·exact hx x h
     ·rw [show x=v by simpa using h];omega
   ·rw [leF (by omega),cond_false]
    refine ⟨_,rfl,fun h => ?_⟩
    have:=of_decide_eq_true h
    omega
 exact key l 0 k rfl (Nat.zero_le _) (by omega) (by simp)
theorem V9 {l:List PK} {p:PB} (hm:kg p=true):kg (rN p l).1=true:=
 (GI (P:=fun _=>True) (fun _ _ _ _ _=>trivial) hm trivial).2
theorem GP:∀ {l:List PK} {p:PB},(rN p l).2.length≤2*l.length
 | [],p=>Nat.le_refl _
 | k::l,p=>by
  rw [rN]
  split
  ·have:=GP (l:=l) (p:=(fh p k).1)
   have:=Io (p:=p) (k:=k)
   simp only [List.length_append,List.length_cons]
   omega
  ·have:=GP (l:=l) (p:=p)
   simp only [List.length_cons]
   omega
theorem Co {p:PB} (h:kg p=true):p.2.2.2.1.length≤8∧p.2.2.2.2.length≤3∧12≤p.2.2.1.length∧p.2.2.1.length≤190:=by
 obtain ⟨m1,m2,m3,m4,_⟩:=wR h
 have hc:=aF m1
 have:=(GR (m4 0 _ (List.getElem?_eq_getElem (show 0<p.2.2.2.1.length by omega)))).2.1
 have:=oB m1
 omega
theorem Uy {c:CF} {t:Tyt} {roots:List (List Int)} (hc:cH c=true) (ht:nj t=true) (hR:roots.length≤3) (hr:∀ l ∈ roots,∀ y ∈ l,0≤y∧y<(t.length:Int)):kg (Gi c t roots)=true:=by
 have hm:=aF hc
 have hs:=oB hc
 refine Bu hc ?_ ?_ (fun j x hx => ?_) (fun x hx => ?_)
 ·show ((lc c.1.toNat).length:Int)=c.1
  unfold lc
  rw [List.length_map,List.length_range]
  omega
 ·show (gS roots).length≤3
  unfold gS
  rw [List.length_map]
  exact hR
 ·have hx':(lc c.1.toNat)[j]? = some x:=hx
  unfold lc at hx'
  rw [List.getElem?_map,Option.map_eq_some_iff] at hx'
  obtain ⟨i,hi,rfl⟩:=hx'
  obtain ⟨hj,rfl⟩:=List.getElem?_eq_some_iff.1 hi
  rw [List.length_range] at hj
  rw [List.getElem_range]
  refine L8 hc ?_ ht ⟨by omega,by show (j:Int)<c.1;omega,Int.le_refl 0,(show (0:Int)<16 by decide)⟩ (lB.2 ⟨ht,fun y hy=>absurd hy (by simp [Dr])⟩)
  show ((List.replicate (bA c).toNat (0:Int)).length:Int)=bA c
  rw [List.length_replicate]
  omega
 ·have hx':x ∈ gS roots:=hx
  unfold gS at hx'
  obtain ⟨l,hl,rfl⟩:=List.mem_map.1 hx'
  unfold uZ
  simp only [Bool.and_eq_true,List.all_eq_true,decide_eq_true_eq,Bool.or_eq_true]
  exact ⟨⟨by decide,hr l hl⟩,.inl (by trivial)⟩
theorem PR {c:CF} {t:Tyt} {roots:List (List Int)} (ht:FwT t) (hr:∀ l ∈ roots,l.length≤60):Good 0 (Gi c t roots):=by
 have z:(0:Int)≤0∧(0:Int)≤18446744073709551615:=by decide
 refine ⟨ht,by have:=ht.len;show t.length≤1000;omega,?_,fun x hx => ?_,fun x hx => ?_⟩
 ·refine ⟨?_,fun v hv => ?_⟩
  ·show (List.replicate (bA c).toNat (0:Int)).length≤_
   rw [List.length_replicate]
   have:bA c≤190:=by
    unfold bA
    split
    ·rename_i h
     have hm:=aF h
     have:=dj h (w:=c.1) (by omega) (by omega)
     omega
    ·omega
   omega
  ·rw [List.eq_of_mem_replicate hv]
   exact z
 ·have hx':x ∈ lc c.1.toNat:=hx
  unfold lc at hx'
  obtain ⟨i,_,rfl⟩:=List.mem_map.1 hx'
  exact ⟨⟨z,z,z⟩,Nat.le_refl _,by show (0:Int)≤9223372036854775807;decide⟩
 ·have hx':x ∈ gS roots:=hx
  unfold gS at hx'
  obtain ⟨l,hl,rfl⟩:=List.mem_map.1 hx'
  exact ⟨⟨z,z,z⟩,by have:=hr l hl;show l.length≤1000;omega⟩
end Go.Ab
set_option linter.unusedVariables false
namespace Go.Ab
def aed:FR:=(-1,0,0,0,0,0,0)
structure Pl where
 m:List Int
 left:List (List Int)
 cur:List FR
 over:List FR
def abX (m:List Int) (w:Int):Nat:=if oJ (ah m 2) w=true then 1 else 0
def Xq (f:FR) (w:Int):Nat:=if QX f w=true then 1 else 0
def abv (l:List FR) (w:Int):Nat:=l.countP fun f=>QX f w
def Vv (c:CF) (m:List Int) (w:Int):Nat:=if ah m (fi c w)=0 then 0 else 1
def w3B (f:FR):Nat:=if f.1=5∧3≤f.2.1 then 1 else 0
def w4B (f:FR):Prop:=f.1=5∧f.2.1=4
def afC (x:Int):Prop:=0≤x∧x≤18446744073709551615
def afI (n:Nat) (i:Nat) (f:FR):Prop:=
 f=aed∨∃ op pc X Y:Int,f=(op,pc,(i:Int),0,X,Y,0)∧afC X∧afC Y ∧
  ((op=5∧0≤pc∧pc≤4)∨(op=6∧0≤pc∧pc≤2∧(pc=2→Y<n))∨(op=7∧0≤pc∧pc≤2∧(pc=2→0<Y∧Y<65536∧∀ j:Nat,n≤j→j<16→oJ Y j=false)))
structure OkP (c:CF) (n:Nat) (m:List Int) (l:List FR):Prop where
 wm:Wm m
 may:cH c=true
 cn:c.1=n
 len:(m.length:Int)=bA c
 clen:l.length=n
 frm:∀ i f,l[i]? = some f→afI n i f
 low:∀ j:Nat,n≤j→j<16→oJ (ah m 2) j=false
 par:∀ w:Nat,w<n→ah m (fi c w)=0∨ah m (fi c w)=1
 sgn:∀ (w:Nat) f,l[w]? = some f→abX m w+abv l w+Vv c m w=w3B f
 end4:∀ (w:Nat) f,l[w]? = some f→w4B f→Vv c m w=1
theorem Oe {l:List FR} {i:Nat} {f g:FR} (hf:l[i]? = some f) (w:Int):abv (l.set i g) w+Xq f w=abv l w+Xq g w:=by
 obtain ⟨hi,rfl⟩:=List.getElem?_eq_some_iff.1 hf
 have hle:l[i] ∈ l:=List.getElem_mem _
 unfold abv Xq
 rw [List.countP_set hi]
 by_cases h:QX l[i] w=true
 ·have:0<l.countP fun f=>QX f w:=List.countP_pos_iff.2 ⟨_,hle,h⟩
  simp only [h,if_true]
  omega
 ·simp only [h,if_false]
  simp
theorem OkP.step {c:CF} {n:Nat} {m m':List Int} {l:List FR} (h:OkP c n m l) {i:Nat} {f g:FR} (hf:l[i]? = some f) (wm:Wm m') (len:m'.length=m.length) (hg:afI n i g)
  (low:∀ j:Nat,n≤j→j<16→oJ (ah m' 2) j=false) (par:∀ w:Nat,w<n→ah m' (fi c w)=0∨ah m' (fi c w)=1)
  (sg:∀ w:Nat,w<n→abX m' w+Xq g w+Vv c m' w+(if w=i then w3B f else 0)=abX m w+Xq f w+Vv c m w+(if w=i then w3B g else 0))
  (e4:w4B g→Vv c m' i=1) (e5:∀ w:Nat,w<n→w≠i→Vv c m w=1→Vv c m' w=1):OkP c n m' (l.set i g):=by
 have hi:i<l.length:=(List.getElem?_eq_some_iff.1 hf).1
 have key:∀ (w:Nat) (x:FR),(l.set i g)[w]? = some x→w<n∧((w=i∧x=g)∨(w≠i∧l[w]? = some x)):=by
  intro w x hx
  have hw:=(List.getElem?_eq_some_iff.1 hx).1
  rw [List.length_set,h.clen] at hw
  refine ⟨hw,?_⟩
  by_cases e:w=i
  ·subst e
   rw [List.getElem?_set_self hi] at hx
   exact .inl ⟨rfl,(Option.some.inj hx).symm⟩
  ·rw [List.getElem?_set_ne (by omega)] at hx
   exact .inr ⟨e,hx⟩
 refine ⟨wm,h.may,h.cn,by rw [len];exact h.len,by rw [List.length_set];exact h.clen,?_,low,par,?_,?_⟩
 ·intro w x hx
  rcases key w x hx with ⟨_,⟨rfl,rfl⟩ | ⟨_,hx⟩⟩
  ·exact hg
  ·exact h.frm w x hx
 ·intro w x hx
  have ho:=Oe (g:=g) hf (w:Int)
  rcases key w x hx with ⟨hw,⟨rfl,rfl⟩ | ⟨e,hx⟩⟩
  ·have h1:=h.sgn w f hf
   have h2:=sg w hw
   rw [if_pos rfl,if_pos rfl] at h2
   omega
  ·have h1:=h.sgn w x hx
   have h2:=sg w hw
   rw [if_neg e,if_neg e] at h2
   omega
 ·intro w x hx hx4
  rcases key w x hx with ⟨hw,⟨rfl,rfl⟩ | ⟨e,hx⟩⟩
  ·exact e4 hx4
  ·exact e5 w hw e (h.end4 w x hx hx4)
section
variable {c:CF} {m:List Int} {i a5 X:Int} (hmay:cH c=true) (hlen:(m.length:Int)=bA c)
include hmay hlen
end
end Go.Ab
set_option linter.unusedVariables false
namespace Go.Ab
structure Adr (c:CF) (j:Int):Prop where
 on:∀ w x,x=0∨x=1→onW c w x≠j
 slot:∀ w x,0≤x→x≤18446744073709551615→nR c w x≠j
 seq:∀ x,lF c x≠j
 val:∀ x,Ae c x≠j
 n0:(0:Int)≠j
 n1:(1:Int)≠j
 n3:(3:Int)≠j
 n4:(4:Int)≠j
 n5:(5:Int)≠j
theorem Rc {a b D x y:Int} (hD:D=1∨D=2∨D=4∨D=8∨D=16) (hx:0≤x∧x<3+D) (hy:0≤y∧y<3+D) (h:x≠y):a*(3+D)+x≠b*(3+D)+y:=by
 rcases hD with rfl | rfl | rfl | rfl | rfl <;> omega
theorem ago {c:CF}:Adr c 2:=by
 refine ⟨fun w x hx => ?_,fun w x h0 h1 => ?_,fun x => ?_,fun x => ?_,by decide,by decide,by decide,by decide,by decide⟩
 ·unfold onW
  split
  ·rename_i h
   have hm:=aF h.1
   have:=dj h.1 h.2.1 (by omega)
   omega
  ·omega
 ·unfold nR onW
  split
  ·rename_i h
   have hm:=aF h.1
   have:=dj h.1 h.2.1 (by omega)
   have:=BY h0 h1 (show 1≤c.2.1 by omega) (by omega)
   omega
  ·omega
 ·unfold lF
  split
  ·rename_i h
   have:=aF h
   have:=Int.emod_nonneg x (show c.2.2.1≠0 by omega)
   omega
  ·omega
 ·unfold Ae
  split
  ·rename_i h
   have:=aF h
   have:=Int.emod_nonneg x (show c.2.2.1≠0 by omega)
   omega
  ·omega
theorem af5 {c:CF} {v:Int} (hc:cH c=true) (h0:0≤v) (h1:v<c.1):Adr c (fi c v):=by
 have hp:fi c v=6+2*c.2.2.1+(v*(3+c.2.1)+2):=by
  unfold fi
  rw [if_pos ⟨hc,h0,h1⟩,r6]
  omega
 have hm:=aF hc
 have ht:=dj hc h0 (by omega)
 rw [hp]
 refine ⟨fun w x hx => ?_,fun w x g0 g1 => ?_,fun x => ?_,fun x => ?_,by omega,by omega,by omega,by omega,by omega⟩
 ·unfold onW
  split
  ·have:=Rc (a:=w) (b:=v) hm.2.2.1 (x:=x) (y:=2) (by omega) (by omega) (by omega)
   unfold r6
   omega
  ·omega
 ·unfold nR onW
  split
  ·have ha:=BY g0 g1 (show 1≤c.2.1 by omega) (by omega)
   have:=Rc (a:=w) (b:=v) hm.2.2.1 (x:=3+r8 .u64 x (c.2.1 - 1)) (y:=2) (by omega) (by omega) (by omega)
   unfold r6
   omega
  ·omega
 ·unfold lF
  rw [if_pos hc]
  have a:=Int.emod_lt_of_pos x (show 0<c.2.2.1 by omega)
  have b:0≤v*(3+c.2.1):=ht.2.2.2
  generalize x%c.2.2.1=g at a ⊢
  omega
 ·unfold Ae
  rw [if_pos hc]
  have a:=Int.emod_lt_of_pos x (show 0<c.2.2.1 by omega)
  have b:0≤v*(3+c.2.1):=ht.2.2.2
  generalize x%c.2.2.1=g at a ⊢
  omega
section
variable {c:CF} {m:List Int} {f:FR} {j:Int} (hj:Adr c j) (hf:Wf f)
include hj hf
end
section
variable {c:CF} {m:List Int} {f:FR}
end
def pkW (x:WB):Prop:=x.1=8∧3≤x.2.2.1.2.1
def owF (f:FR) (v:Int):Prop:=f.2.1=2∧f.2.2.2.2.2.1=v
def owW (x:WB) (v:Int):Prop:=x.1=14∧owF x.2.2.1 v
def owS (x:SB) (v:Int):Prop:=x.1=4∧owF x.2.2 v
def Fwk (n w:Int) (x:WB):Prop:=
 (x.1=0∨x.1=2∨x.1=3∨x.1=11∨x.1=12→x.2.2.1.1<5)∧(x.1=5→x.2.2.1=rP 5 w 0) ∧
 (x.1=6∨x.1=7→x.2.2.1.1=5∧x.2.2.1.2.1=1∧x.2.2.1.2.2.1=w∧x.2.2.1.2.2.2.2.2.2=0) ∧
 (x.1=8→x.2.2.1.1=5∧(0≤x.2.2.1.2.1∧x.2.2.1.2.1≤4)∧x.2.2.1.2.2.1=w∧x.2.2.1.2.2.2.2.2.2=0) ∧
 (x.1=14→x.2.2.1.1=6∧(0≤x.2.2.1.2.1∧x.2.2.1.2.1≤2)∧x.2.2.1.2.2.2.2.2.2=0∧(x.2.2.1.2.1=2→x.2.2.1.2.2.2.2.2.1<n))
def Fsb (n:Int) (x:SB):Prop:=
 (x.1=2→x.2.2.1<5)∧(x.1=4→x.2.2.1=6∧(0≤x.2.2.2.1∧x.2.2.2.1≤2)∧x.2.2.2.2.2.2.2.2=0∧(x.2.2.2.1=2→x.2.2.2.2.2.2.2.1<n))
def adN (n:Int) (m:List Int):Prop:=∀ j:Int,n≤j→j<16→oJ (ah m 2) j=false
structure Ef (c:CF) (m m':List Int) (pk0 pk1:Prop) (me:Int) (ow0 ow1:Int→Prop):Prop where
 low:adN c.1 m→adN c.1 m'
 bit:∀ v,0≤v→v<c.1→oJ (ah m 2) v=true→oJ (ah m' 2) v=true∨ow1 v
 par:∀ v,0≤v→v<c.1→ah m (fi c v)≠0→ah m' (fi c v)≠0∨v=me∧¬ pk1
 owe:∀ v,0≤v→v<c.1→ow0 v→ow1 v∨ah m' (fi c v)≠0
 new:pk1→pk0∨oJ (ah m' 2) me=true∨ah m' (fi c me)≠0
section
variable {c:CF} {m m':List Int} {pk0 pk1:Prop} {me:Int} {ow0 ow1:Int→Prop}
theorem Ef.calm (hc:cH c=true) (h:∀ j,Adr c j→ah m' j=ah m j) (ho:∀ v,ow0 v→ow1 v) (hp:pk1→pk0):Ef c m m' pk0 pk1 me ow0 ow1:=by
 have h2:=h 2 ago
 refine ⟨fun hl j h0 h1=>by rw [h2];exact hl j h0 h1,fun v _ _ hb => .inl (by rw [h2];exact hb),fun v h0 h1 hb => .inl (by rw [h _ (af5 hc h0 h1)];exact hb),fun v _ _ hv => .inl (ho v hv),fun h => .inl (hp h)⟩
theorem Ef.same (ho:∀ v,ow0 v→ow1 v) (hp:pk1→pk0):Ef c m m pk0 pk1 me ow0 ow1:=
 ⟨fun hl=>hl,fun v _ _ hb => .inl hb,fun v _ _ hb => .inl hb,fun v _ _ hv => .inl (ho v hv),fun h => .inl (hp h)⟩
end
section
variable {c:CF} {m:List Int} {f:FR} (hc:cH c=true) (hl:(m.length:Int)=bA c) (hm:Wm m) (hf:Wf f)
include hc hl hm hf
end
end Go.Ab
set_option linter.unusedVariables false
namespace Go.Ab
section
variable {n w:Int} {x:WB}
end
theorem Ef.mono {c:CF} {m m':List Int} {p0 p1 q0 q1:Prop} {me:Int} {a0 a1 b0 b1:Int→Prop} (h:Ef c m m' p0 p1 me a0 a1) (h1:q1→p1) (h0:p0→q0) (ha:∀ v,b0 v→a0 v) (hb:∀ v,a1 v→b1 v):Ef c m m' q0 q1 me b0 b1:=
 ⟨h.low,fun v g0 g1 hv=>(h.bit v g0 g1 hv).imp id (hb v),fun v g0 g1 hv=>(h.par v g0 g1 hv).imp id fun e=>⟨e.1,fun q=>e.2 (h1 q)⟩,fun v g0 g1 hv=>(h.owe v g0 g1 (ha v hv)).imp (hb v) id,fun q=>(h.new (h1 q)).imp h0 id⟩
section
variable {c:CF} {t:Tyt} {m:List Int} {w:Int} {x:WB} {d:Int}
end
section
variable {c:CF} {t:Tyt} {m:List Int} {i:Int} {x:SB}
end
def afY (W:List WB) (S:List SB) (v:Int):Prop:=(∃ y ∈ W,owW y v)∨∃ y ∈ S,owS y v
structure Sgn (p:PB):Prop where
 w:∀ (i:Nat) x,p.2.2.2.1[i]? = some x→Fwk p.1.1 i x
 s:∀ x ∈ p.2.2.2.2,Fsb p.1.1 x
 low:adN p.1.1 p.2.2.1
 sg:∀ (i:Nat) x,p.2.2.2.1[i]? = some x→pkW x→oJ (ah p.2.2.1 2) i=true∨ah p.2.2.1 (fi p.1 i)≠0∨afY p.2.2.2.1 p.2.2.2.2 i
end Go.Ab
set_option linter.unusedVariables false
set_option linter.unusedSimpArgs false
namespace Go.Ab
end Go.Ab
set_option linter.unusedVariables false
namespace Go.Ab
end Go.Ab
set_option linter.unusedVariables false
namespace Go.Ab
structure Hdr (c:CF) (j:Int):Prop where
 bot:∀ w,Gl c w≠j
 slot:∀ w x,0≤x→x≤18446744073709551615→nR c w x≠j
 seq:∀ x,lF c x≠j
 val:∀ x,Ae c x≠j
 park:∀ w,fi c w≠j
 n0:(0:Int)≠j
 n1:(1:Int)≠j
 n2:(2:Int)≠j
 n3:(3:Int)≠j
 n5:(5:Int)≠j
theorem Tu {c:CF} {w x:Int} (hx:0≤x):onW c w x = -1∨cH c=true∧0≤w∧w<c.1∧onW c w x=6+2*c.2.2.1+(w*(3+c.2.1)+x)∧8≤onW c w x:=by
 unfold onW
 split
 ·rename_i h
  have hm:=aF h.1
  have:=dj h.1 h.2.1 (by omega)
  refine .inr ⟨h.1,h.2.1,h.2.2,?_,by omega⟩
  unfold r6
  omega
 ·exact .inl rfl
theorem TG {c:CF} {w:Int}:fi c w=onW c w 2:=by
 unfold fi onW
 rfl
section
variable {c:CF} {m:List Int} {f:FR} {j:Int} (hj:Hdr c j) (hf:Wf f)
include hj hf
end
section
variable {c:CF} {t:Tyt} {m:List Int} {w:Int} {x:WB} {d:Int} {j:Int}
end
structure Ew (c:CF) (m m':List Int) (me:Int):Prop where
 ep:epB (ah m' 2)=epB (ah m 2)∨epB (ah m' 2)=epB (ah m 2)+1
 bit:∀ v,0≤v→v<c.1→v≠me→oJ (ah m' 2) v=true→oJ (ah m 2) v=true
theorem Ew.same {c:CF} {m m':List Int} {me:Int} (h:ah m' 2=ah m 2):Ew c m m' me:=⟨.inl (by rw [h]),fun v _ _ _ hb=>by rw [h] at hb;exact hb⟩
section
variable {c:CF} {m:List Int} {f:FR} (hc:cH c=true) (hl:(m.length:Int)=bA c) (hm:Wm m) (hf:Wf f)
include hc hl hm hf
end
end Go.Ab
namespace Go.Ab
open Go.WideShapes
structure Ll (l:List (List Int)):Prop where
 len:l.length≤9223372036854775807
 each:∀ x ∈ l,x.length≤9223372036854775807
theorem acr {l:List (List Int)} (hm:l.length≤maxLen) (h:∀ x ∈ l,(∀ n ∈ x,i64 n)∧x.length≤maxLen):Ll l:=⟨ZR hm,fun x hx=>ZR (h x hx).2⟩
end Go.Ab
namespace Go.Ab
open Go.WideShapes
end Go.Ab
namespace Go.Ab
open Go.WideShapes
end Go.Ab
namespace Go.Ab
open Go.WideShapes
def HN (x:Int×Int×Int):Prop:=i64 x.1∧i64 x.2.1∧u64 x.2.2
def Wpk (l:Tye):Prop:=∀ x ∈ l,0≤x.2.2∧x.2.2≤18446744073709551615
theorem aeo {l:Tye} (h:∀ x ∈ l,HN x) (hm:l.length≤maxLen):Wpk l:=fun x hx=>Zz (h x hx).2.2
theorem I2 {P:Program} {t ti tu:TypeId} {f0 f1 f2:Field} {vs:List V} (he:P.underlying t=some (.struct #[f0,f1,f2])) (h0:f0.type=ti) (h1:f1.type=ti) (h2:f2.type=tu)
  (o0:f0.offset=0) (o1:f1.offset=1) (o2:f2.offset=2) (hi:P.underlying ti=some (.int .i64)) (ci:P.cellsOf ti=1) (hu:P.underlying tu=some (.int .u64)) (cu:P.cellsOf tu=1) (ce:P.cellsOf t=3) (h:Shape P t vs) :
  ∃ x:Int×Int×Int,vs=ga x∧HN x:=by
 obtain ⟨a,b⟩:=mC he h
 have s0:=b 0 f0 rfl
 have s1:=b 1 f1 rfl
 have s2:=b 2 f2 rfl
 rw [h0,o0,ci,List.drop_zero] at s0
 rw [h1,o1,ci] at s1
 rw [h2,o2,cu] at s2
 rw [ce] at a
 obtain ⟨n0,e0,w0⟩:=fN hi s0
 obtain ⟨n1,e1,w1⟩:=fN hi s1
 obtain ⟨n2,e2,w2⟩:=fN hu s2
 match vs,a with
 | [x,y,z],_=>
  simp at e0 e1 e2
  subst e0 e1 e2
  exact ⟨(n0,n1,n2),rfl,w0,w1,w2⟩
theorem Fe {P:Program} {t e ti tu:TypeId} {f0 f1 f2:Field} {vs:List V} (ht:P.underlying t=some (.slice e)) (he:P.underlying e=some (.struct #[f0,f1,f2])) (h0:f0.type=ti) (h1:f1.type=ti) (h2:f2.type=tu)
  (o0:f0.offset=0) (o1:f1.offset=1) (o2:f2.offset=2) (hi:P.underlying ti=some (.int .i64)) (ci:P.cellsOf ti=1) (hu:P.underlying tu=some (.int .u64)) (cu:P.cellsOf tu=1) (ce:P.cellsOf e=3) (h:Shape P t vs) :
  ∃ l:Tye,vs=[.ro (l.map ga)]∧(∀ x ∈ l,HN x)∧l.length≤maxLen:=by
 obtain ⟨rows,rfl,hr,hm⟩:=ma ht h
 obtain ⟨l,rfl,hl⟩:=lu (enc:=ga) (Q:=HN) (rows:=rows) (fun r hx=>I2 he h0 h1 h2 o0 o1 o2 hi ci hu cu ce (hr r hx))
 exact ⟨l,rfl,hl,by simpa using hm⟩
end Go.Ab
