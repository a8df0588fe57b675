import Derived.Test.YtblpbpnilkfjhaaGreatAbLibC
import Derived.Test.YtblpbpnilkfjhaaGreatR6G0A
import Derived.WideShapes
set_option linter.unusedVariables false
set_option linter.unusedSimpArgs false
set_option linter.unusedVariables false
namespace Go.Ab
def pF (x:Int×List Int):Bool:=decide (x.1<0)||decide (20<x.1)
def fC:Nat→Tyt→List (Int×Int)
 | _,[]=>[]
 | i,x::r=>x.2.map (fun k=>(k,(i:Int)))++fC (i+1) r
def Av (n:Nat) (had:List Bool) (q:Int×Int):Bool:=decide (q.1≤q.2)||decide ((n:Int)≤q.1)||(had[q.1.toNat]?).getD true
abbrev Zc (n:Nat) := { h:List Bool // h.length=n }
def fZ (n:Nat) (had:Zc n) (q:Int×Int):Bool×Zc n:=
 if Av n had.1 q then (false,had) else (true,⟨had.1.set q.1.toNat true,by simp [had.2]⟩)
def Jt (n:Nat):Zc n:=⟨List.replicate n false,by simp⟩
def oq (t:Tyt):Bool:=decide (t.length≤30) && !(t.any pF)&&(DL (fZ t.length) (fC 0 t) (Jt t.length)).1
structure Wt (t:Tyt):Prop where
 len:t.length≤9223372036854775807
 kids:∀ x ∈ t,x.2.length≤9223372036854775807
def iW (k:Int) (r:Int) (q:Int×Int):Bool×Int:=if q.1=k then (false,q.2) else (true,r)
def gB (t:Tyt) (k:Int):Int:=
 if oq t then (if (DL (iW k) (fC 0 t) 0).1 then -1 else (DL (iW k) (fC 0 t) 0).2) else -1
def adG (t:Tyt):Bool:=(t.take 41).all (fun x=>decide (x.2.length≤40))&&decide (t.length≤40)
def wH (n:Int):Bool:=(n==1)||(n==2)
def al7 (n:Int):Bool:=decide (n<0)||decide (3<n)
def GX (s:List Int):Bool := !(s.any wH)
def kU (t:Tyt) (s:List Int):Bool:=oq t&&(s.length==t.length) && !(s.any al7)
def BP (t:Tyt) (s:List Int) (kind q:Int):Option Int:=
 let at_:=(s[q.toNat]?).getD 0
 let up:=gB t q
 if kind=0 then (if at_=0∧up<0 then some 1 else none)
 else if kind=1 then (if at_=0∧up<0 then some 0 else none)
 else if kind=3 then (if at_=0∧0≤up∧s[up.toNat]? = some 2 then some 1 else none)
 else if kind=2 then (if at_=1 then some 2 else none)
 else if kind=4 then (if at_=2∧((((t[q.toNat]?).getD (0,[])).2.any fun i=>(idx s i).getD 1==0)=false) then some 3 else none)
 else none
def gJ (t:Tyt) (s:List Int) (e:Int×Int×Int):List Int×Bool:=
 if kU t s=false then (s,false)
 else if e.1=5 then (s,GX s)
 else if e.2.1<0∨(t.length:Int)≤e.2.1 then (s,false)
 else match BP t s e.1 e.2.1 with
  | some n=>(s.set e.2.1.toNat n,true)
  | none=>(s,false)
def Rf (t:Tyt):List Int:=if oq t then List.replicate t.length (0:Int) else []
def FB (t:Tyt):Tye→List Int→List Int×Bool
 | [],s=>(s,true)
 | e::l,s=>if (gJ t s e).2=true then FB t l (gJ t s e).1 else ((gJ t s e).1,false)
theorem HY {t:Tyt} (h1:oq t=true):t.length≤30:=by
 unfold oq at h1
 simp only [Bool.and_eq_true,decide_eq_true_eq] at h1
 exact h1.1.1
theorem PQ {α:Type} {l:List α} {F:Nat→Int→Option Int} (p:α→Bool)
  (h0:∀ n,F (n+1) (l.length:Int)=some (-1))
  (h1:∀ n (i:Nat) x,i<l.length→l[i]? = some x→F (n+1) (i:Int)=bif p x then some (i:Int) else F n ((i+1:Nat):Int))
  (n:Nat) (hn:l.length<n):F n 0=some (MN p l 0):=by
 have key:∀ r i n,l.drop i=r→i≤l.length→r.length<n→F n (i:Int)=some (MN p r i):=by
  intro r
  induction r with
  | nil=>
   intro i n hr hi hn
   obtain ⟨n,rfl⟩:=gS hn
   have:i=l.length:=by have:=cV hr;omega
   subst this
   rw [h0]
   rfl
  | cons x r ih=>
   intro i n hr hi hn
   obtain ⟨n,rfl⟩:=gS hn
   obtain ⟨a,b,c,d,e⟩:=bW hr
   rw [h1 n i x a b]
   simp only [MN]
   cases p x with
   | true=>rfl
   | false=>exact ih (i+1) n c (by omega) (by simp only [List.length_cons] at hn;omega)
 have:=key l 0 n rfl (Nat.zero_le _) hn
 simpa using this
theorem Hl (x y : Int) : (x != y) = !decide (x = y) := by by_cases h : x = y <;> simp [h]
theorem ni (x y:Int):(x==y)=decide (x=y):=by by_cases h:x=y <;> simp [h]
theorem Dh {α:Type} (l:List α):decide ((l.length:Int)<(l.length:Int))=false:=decide_eq_false (by omega)
theorem ltN {i n:Nat} (h:i<n):decide ((i:Int)<(n:Int))=true:=decide_eq_true (by omega)
theorem dM {z:Int} (h : -9223372036854775808≤z∧z≤9223372036854775807):IntKind.i64.wrap z=z:=Wq h.1 h.2
end Go.Ab
set_option linter.unusedVariables false
namespace Go.Ab
open Go
abbrev CF:=Int×Int×Int×Int
abbrev FR:=Int×Int×Int×Int×Int×Int×Int
def cY (c:CF):Bool:=decide (1≤c.1∧c.1≤8∧(c.2.1=1∨c.2.1=2∨c.2.1=4∨c.2.1=8∨c.2.1=16)∧1≤c.2.2.1∧c.2.2.1≤16∧0≤c.2.2.2∧c.2.2.2≤4)
def wY (c:CF) (w:Int):Int:=6+2*c.2.2.1+w*(3+c.2.1)
def bG (c:CF):Int:=if cY c=true then wY c c.1 else 0
def fR (c:CF) (w:Int):Int:=if cY c=true∧0≤w∧w<c.1 then wY c w+2 else -1
def ah (m:List Int) (i:Int):Int:=if 0≤i then (m[i.toNat]?).getD 0 else 0
def ao (m:List Int) (i v:Int):List Int:=if 0≤i then m.set i.toNat v else m
def pP (m:List Int) (i old new:Int):List Int×Bool:=if 0≤i∧i<m.length∧ah m i=old then (ao m i new,true) else (m,false)
def epB (e:Int):Int:=e/65536
def mkB (e:Int):Int:=e%65536
def r8 (x w:Int):Bool:=decide (x/2 ^ w.toNat%2=1)
def OJ (e w:Int):Int:=if 0≤w∧w<16∧r8 e w=false then e+2 ^ w.toNat else e
def d9 (f:FR):Bool:=f.2.2.2.2.2.2 !=0
def eN (f:FR) (res val:Int):FR:=(f.1,0,f.2.2.1,val,0,0,res)
def rE (c:CF) (m:List Int) (f:FR) (op pcs:Int):Bool:=cY c&&decide ((m.length:Int)=bG c)&&decide (f.2.2.2.2.2.2=0∧0≤f.2.2.1∧f.2.2.1<c.1∧f.1=op∧0≤f.2.1∧f.2.1<pcs)
def Aq (c:CF) (m:List Int) (f:FR):List Int×FR:=
 if rE c m f 5 5=false then (m,f)
 else if f.2.1=0 then (m,f.1,1,f.2.2.1,f.2.2.2.1,ah m 2,f.2.2.2.2.2)
 else if f.2.1=1 then (if epB (ah m 2)=epB f.2.2.2.2.1 then (m,f.1,2,f.2.2.1,f.2.2.2.1,f.2.2.2.2.1,ah m 2,f.2.2.2.2.2.2) else (m,eN f 4 0))
 else if f.2.1=2 then (let r:=pP m 2 f.2.2.2.2.2.1 (OJ f.2.2.2.2.2.1 f.2.2.1);(r.1,f.1,if r.2=true then 3 else 1,f.2.2))
 else if f.2.1=3 then (let y:=ah m (fR c f.2.2.1);(m,f.1,if y=0 then 3 else 4,f.2.2.1,f.2.2.2.1,f.2.2.2.2.1,y,f.2.2.2.2.2.2))
 else (ao m (fR c f.2.2.1) 0,eN f 1 0)
structure Wm (m:List Int):Prop where
 len:m.length≤9223372036854775807
 num:∀ x ∈ m,0≤x∧x≤18446744073709551615
theorem lM {z:Int} (h0:0≤z) (h1:z≤18446744073709551615):IntKind.u64.wrap z=z:=by
 simp [IntKind.wrap,IntKind.bits,IntKind.signed]
 omega
theorem Rs {a b:Nat} (ha:a<18446744073709551616) (hb:b<18446744073709551616):wT .u64 (a:Int) (b:Int)=((a &&& b:Nat):Int):=by
 unfold wT
 have h:(BitVec.ofInt IntKind.u64.bits (a:Int) &&& BitVec.ofInt IntKind.u64.bits (b:Int)).toNat=a &&& b:=by
  rw [BitVec.toNat_and]
  have e:IntKind.u64.bits=64:=rfl
  rw [e]
  simp only [BitVec.ofInt_natCast,BitVec.toNat_ofNat]
  rw [Nat.mod_eq_of_lt (by omega),Nat.mod_eq_of_lt (by omega)]
 rw [h]
 have:a &&& b≤a:=Nat.and_le_left
 exact lM (by omega) (by omega)
theorem orU {a b:Nat} (ha:a<18446744073709551616) (hb:b<18446744073709551616):orI .u64 (a:Int) (b:Int)=((a ||| b:Nat):Int):=by
 unfold orI
 have h:(BitVec.ofInt IntKind.u64.bits (a:Int) ||| BitVec.ofInt IntKind.u64.bits (b:Int)).toNat=a ||| b:=by
  rw [BitVec.toNat_or]
  have e:IntKind.u64.bits=64:=rfl
  rw [e]
  simp only [BitVec.ofInt_natCast,BitVec.toNat_ofNat]
  rw [Nat.mod_eq_of_lt (by omega),Nat.mod_eq_of_lt (by omega)]
 rw [h]
 have:a ||| b<2 ^ 64:=Nat.or_lt_two_pow (by omega) (by omega)
 exact lM (by omega) (by omega)
theorem VA {e:Int} (h0:0≤e) (h1:e≤18446744073709551615):wT .u64 e 65535=mkB e:=by
 obtain ⟨n,rfl⟩:∃ n:Nat,e=n:=⟨e.toNat,by omega⟩
 have:=Rs (a:=n) (b:=65535) (by omega) (by omega)
 have h2:((65535:Nat):Int)=65535:=rfl
 rw [h2] at this
 rw [this,mkB]
 have h3:n &&& 65535=n%65536:=Nat.and_two_pow_sub_one_eq_mod n 16
 rw [h3]
 omega
theorem adV {e w:Int} (h0:0≤e) (hw:0≤w) (hw2:w≤64):V5 .u64 e w=e/2 ^ w.toNat:=by
 unfold V5
 have e1:IntKind.u64.bits=64:=rfl
 rw [e1]
 have:min w.toNat 64=w.toNat:=by omega
 rw [this,Int.fdiv_eq_ediv_of_nonneg _ (Int.le_of_lt (Int.pow_pos (by decide)))]
theorem Y4 {e:Int} (h0:0≤e):V5 .u64 e 16=epB e:=by
 rw [adV h0 (by decide) (by decide)]
 rfl
theorem ajS {x:Int} (h0:0≤x) (h1:x≤18446744073709551615):wT .u64 x 1=x%2:=by
 obtain ⟨n,rfl⟩:∃ n:Nat,x=n:=⟨x.toNat,by omega⟩
 have:=Rs (a:=n) (b:=1) (by omega) (by omega)
 have h2:((1:Nat):Int)=1:=rfl
 rw [h2] at this
 rw [this,Nat.and_one_is_mod]
 omega
theorem XU {x w:Int} (h0:0≤x) (h1:x≤18446744073709551615):0≤x/2 ^ w.toNat∧x/2 ^ w.toNat≤18446744073709551615:=by
 have hp:(0:Int)<2 ^ w.toNat:=Int.pow_pos (by decide)
 have:=Int.ediv_nonneg h0 (Int.le_of_lt hp)
 have:=Int.ediv_le_self (2 ^ w.toNat) h0
 omega
theorem amv {x w:Int} (h0:0≤x) (h1:x≤18446744073709551615) (hw:0≤w) (hw2:w≤64):(wT .u64 (V5 .u64 x w) 1==1)=r8 x w:=by
 have:=XU (w:=w) h0 h1
 rw [adV h0 hw hw2,ajS this.1 this.2,r8,ni]
theorem anc {w:Int} (hw:0≤w) (hw2:w<64):Ut .u64 1 w=2 ^ w.toNat:=by
 unfold Ut
 have e1:IntKind.u64.bits=64:=rfl
 rw [e1]
 have:min w.toNat 64=w.toNat:=by omega
 rw [this,Int.one_mul]
 have h1:(2:Nat) ^ w.toNat≤2 ^ 63:=Nat.pow_le_pow_right (by decide) (by omega)
 have h2:((2 ^ w.toNat:Nat):Int)=(2:Int) ^ w.toNat:=by rw [Int.natCast_pow];rfl
 have h3:(0:Int)<2 ^ w.toNat:=Int.pow_pos (by decide)
 exact lM (by omega) (by omega)
theorem aez {e w:Int} (h0:0≤e) (h1:e≤18446744073709551615) (hw:0≤w) (hw2:w<16):orI .u64 e (2 ^ w.toNat)=OJ e w:=by
 obtain ⟨n,rfl⟩:∃ n:Nat,e=n:=⟨e.toNat,by omega⟩
 have hp:(2:Nat) ^ w.toNat≤2 ^ 15:=Nat.pow_le_pow_right (by decide) (by omega)
 have h2:((2 ^ w.toNat:Nat):Int)=(2:Int) ^ w.toNat:=by rw [Int.natCast_pow];rfl
 rw [← h2,orU (by omega) (by omega)]
 have hb:r8 (n:Int) w=n.testBit w.toNat:=by
  rw [r8,Nat.testBit_eq_decide_div_mod_eq,← h2]
  have:((n:Int)/((2 ^ w.toNat:Nat):Int))%2=((n/2 ^ w.toNat%2:Nat):Int):=by rw [Int.natCast_emod,Int.natCast_ediv];rfl
  rw [this]
  congr 1
  apply propext
  omega
 unfold OJ
 cases ht:n.testBit w.toNat with
 | true=>
  rw [hb,ht,if_neg (by simp)]
  congr 1
  apply Nat.eq_of_testBit_eq
  intro i
  rw [Nat.testBit_or,Nat.testBit_two_pow]
  by_cases hi:w.toNat=i
  ·subst hi;simp [ht]
  ·simp [hi]
 | false=>
  rw [hb,ht,if_pos ⟨hw,hw2,rfl⟩,← h2]
  have h3:(BitVec.ofNat 80 n) &&& (BitVec.ofNat 80 (2 ^ w.toNat))=0#80:=by
   apply BitVec.eq_of_toNat_eq
   rw [BitVec.toNat_and]
   simp only [BitVec.toNat_ofNat]
   rw [Nat.mod_eq_of_lt (by omega),Nat.mod_eq_of_lt (by omega),Nat.zero_mod]
   apply Nat.eq_of_testBit_eq
   intro i
   rw [Nat.testBit_and,Nat.testBit_two_pow,Nat.zero_testBit]
   by_cases hi:w.toNat=i
   ·subst hi;simp [ht]
   ·simp [hi]
  have h4:=congrArg BitVec.toNat (BitVec.add_eq_or_of_and_eq_zero _ _ h3)
  rw [BitVec.toNat_add,BitVec.toNat_or] at h4
  simp only [BitVec.toNat_ofNat] at h4
  rw [Nat.mod_eq_of_lt (show n<2 ^ 80 by omega),Nat.mod_eq_of_lt (show 2 ^ w.toNat<2 ^ 80 by omega),Nat.mod_eq_of_lt (show n+2 ^ w.toNat<2 ^ 80 by omega)] at h4
  rw [← h4]
  omega
theorem ct {m:List Int} (hm:Wm m) (i:Int):0≤ah m i∧ah m i≤18446744073709551615:=by
 unfold ah
 split
 ·cases h:m[i.toNat]? with
  | none=>simp
  | some x=>exact hm.num x (List.mem_of_getElem? h)
 ·omega
theorem Zo {e w:Int} (h0:0≤e) (h1:e≤18446744073709551615):0≤OJ e w∧OJ e w≤18446744073709551615:=by
 unfold OJ
 split
 ·rename_i h
  have hs:=aez h0 h1 h.1 h.2.1
  unfold OJ at hs
  rw [if_pos h] at hs
  rw [← hs]
  obtain ⟨n,rfl⟩:∃ n:Nat,e=n:=⟨e.toNat,by omega⟩
  have hp:(2:Nat) ^ w.toNat≤2 ^ 15:=Nat.pow_le_pow_right (by decide) (by omega)
  have h2:((2 ^ w.toNat:Nat):Int)=(2:Int) ^ w.toNat:=by rw [Int.natCast_pow];rfl
  rw [← h2,orU (by omega) (by omega)]
  have:n ||| 2 ^ w.toNat<2 ^ 64:=Nat.or_lt_two_pow (by omega) (by omega)
  omega
 ·omega
end Go.Ab
set_option maxRecDepth 100000
set_option linter.unusedVariables false
namespace Go.Ab
theorem aA {c:CF} (h:cY c=true):1≤c.1∧c.1≤8∧(c.2.1=1∨c.2.1=2∨c.2.1=4∨c.2.1=8∨c.2.1=16)∧1≤c.2.2.1∧c.2.2.1≤16∧0≤c.2.2.2∧c.2.2.2≤4:=by
 unfold cY at h
 exact of_decide_eq_true h
theorem dG {c:CF} (h:cY c=true) {w:Int} (h0:0≤w) (h1:w≤8):8≤wY c w∧wY c w≤190∧w*(3+c.2.1)≤152∧0≤w*(3+c.2.1):=by
 obtain ⟨_,_,hD,_,_,_,_⟩:=aA h
 have a:0≤w*(3+c.2.1):=Int.mul_nonneg h0 (by omega)
 have b:w*(3+c.2.1)≤8*19:=Int.mul_le_mul h1 (by omega) (by omega) (by omega)
 unfold wY
 omega
theorem XP (a b c:Int):eI a b c=some (decide (b≤a∧a≤c)):=by
 unfold eI
 by_cases h:b≤a
 ·simp [h]
 ·simp [h]
theorem aiE {D:Int} (h1:1≤D) (h2:D≤16):(wT IntKind.i64 D (IntKind.i64.wrap (D - 1))==0)=decide (D=1∨D=2∨D=4∨D=8∨D=16):=by
 have:D=1∨D=2∨D=3∨D=4∨D=5∨D=6∨D=7∨D=8∨D=9∨D=10∨D=11∨D=12∨D=13∨D=14∨D=15∨D=16:=by omega
 rcases this with rfl | rfl | rfl | rfl | rfl | rfl | rfl | rfl | rfl | rfl | rfl | rfl | rfl | rfl | rfl | rfl <;> decide +kernel
theorem gL (c:CF):bV c=some (cY c):=by
 obtain ⟨W,D,I,S⟩:=c
 unfold bV cY
 simp only [XP,ab]
 by_cases h1:1≤W∧W≤8
 ·rw [decide_eq_true h1,cond_true]
  by_cases h2:1≤D∧D≤16
  ·rw [decide_eq_true h2,cond_true,aiE h2.1 h2.2]
   by_cases h3:D=1∨D=2∨D=4∨D=8∨D=16
   ·rw [decide_eq_true h3,cond_true]
    by_cases h4:1≤I∧I≤16
    ·rw [decide_eq_true h4,cond_true]
     congr 1
     apply decide_eq_decide.2
     omega
    ·rw [decide_eq_false h4,cond_false]
     symm
     congr 1
     apply decide_eq_false
     omega
   ·rw [decide_eq_false h3,cond_false]
    symm
    congr 1
    apply decide_eq_false
    omega
  ·rw [decide_eq_false h2,cond_false]
   symm
   congr 1
   apply decide_eq_false
   omega
 ·rw [decide_eq_false h1,cond_false]
  symm
  congr 1
  apply decide_eq_false
  omega
theorem F5 {c:CF} (h:cY c=true) {w:Int} (h0:0≤w) (h1:w≤8):ft c w=some (wY c w):=by
 have ht:=dG h h0 h1
 have hm:=aA h
 obtain ⟨W,D,I,S⟩:=c
 simp only [wY] at ht hm ⊢
 unfold ft
 simp only
 rw [dM (z:=2*I) (by omega),dM (z:=6+2*I) (by omega),dM (z:=3+D) (by omega),dM (z:=w*(3+D)) (by omega),dM (by omega)]
theorem Dt (c:CF):dU c=some (bG c):=by
 unfold dU bG
 try simp only [Prod.eta]
 rw [gL,ab]
 cases h:cY c with
 | false=>rfl
 | true=>
  have hm:=aA h
  rw [Bool.not_true,cond_false,if_pos rfl,F5 h (by omega) (by omega),ab]
theorem ng (f:FR):aH f=some (d9 f):=rfl
theorem i9 (f:FR) (r v:Int):aQ f r v=some (eN f r v):=rfl
theorem J4 (c : CF) (m : List Int) (f : FR) (op pcs : Int) : eZ c m f op pcs = some (rE c m f op pcs) := by
  obtain ⟨a0, a1, a2, a3, a4, a5, a6⟩ := f
  unfold eZ rE
  try simp only [Prod.eta]
  rw [gL, ab]
  cases h : cY c with
  | false => rfl
  | true =>
    rw [cond_true, Dt, ab, ni]
    by_cases h1 : (m.length : Int) = bG c
    · rw [decide_eq_true h1, cond_true, ng, ab, d9]
      simp only
      by_cases h2 : a6 = 0
      · subst h2
        have e : (!((0 : Int) != 0)) = true := rfl
        rw [e, cond_true]
        by_cases h3 : 0 ≤ a2
        · rw [leT h3, cond_true]
          by_cases h4 : a2 < c.1
          · rw [ltT h4, cond_true, ni]
            by_cases h5 : a0 = op
            · rw [decide_eq_true h5, cond_true]
              by_cases h6 : 0 ≤ a1
              · rw [leT h6, cond_true]
                simp [h3, h4, h5, h6]
              · rw [leF (by omega), cond_false]
                simp [h6]
            · rw [decide_eq_false h5, cond_false]
              simp [h5]
          · rw [ltF (by omega), cond_false]
            simp [h4]
        · rw [leF (by omega), cond_false]
          simp [h3]
      · have e : (!(a6 != 0)) = false := by simp [h2]
        rw [e, cond_false]
        simp [h2]
    · rw [decide_eq_false h1, cond_false]
      simp
theorem OQ (c:CF) (w:Int):f4 c w=some (fR c w):=by
 unfold f4 fR
 try simp only [Prod.eta]
 rw [gL,ab]
 cases h:cY c with
 | false=>simp
 | true=>
  have hm:=aA h
  rw [Bool.not_true,cond_false,dM (by omega),XP,ab]
  by_cases h1:0≤w∧w≤c.1 - 1
  ·have ht:=dG h h1.1 (by omega)
   rw [decide_eq_true h1,Bool.not_true,cond_false,F5 h (by omega) (by omega),ab,dM (by omega),if_pos ⟨rfl,by omega,by omega⟩]
  ·rw [decide_eq_false h1,Bool.not_false,cond_true,if_neg (by omega)]
theorem agC (m:List Int) (i:Int):iz m i=some (decide (0≤i∧i<m.length)):=by
 unfold iz
 by_cases h:0≤i
 ·simp [h]
 ·simp [h]
theorem m6 {m:List Int} {i:Int} (h:0≤i∧i<m.length):idx m i=some (ah m i)∧m[i.toNat]? = some (ah m i):=by
 have h2:i.toNat<m.length:=by omega
 rw [idx,if_pos h.1,ah,if_pos h.1,List.getElem?_eq_getElem h2]
 exact ⟨rfl,rfl⟩
theorem Tq {m:List Int} {i:Int} (h:¬ (0≤i∧i<m.length)):ah m i=0:=by
 unfold ah
 split
 ·rw [List.getElem?_eq_none (by omega)]
  rfl
 ·rfl
theorem QW {m:List Int} {i v:Int} (h:¬ (0≤i∧i<m.length)):ao m i v=m:=by
 unfold ao
 split
 ·rw [List.set_eq_of_length_le (by omega)]
 ·rfl
theorem iG {m:List Int} {i v:Int}:(ao m i v).length=m.length:=by
 unfold ao
 split <;> simp
theorem Wm.set {m:List Int} (h:Wm m) (i:Int) {v:Int} (h0:0≤v) (h1:v≤18446744073709551615):Wm (ao m i v):=by
 refine ⟨by rw [iG];exact h.len,fun x hx => ?_⟩
 unfold ao at hx
 split at hx
 ·rcases List.mem_or_eq_of_mem_set hx with hx | rfl
  ·exact h.num x hx
  ·exact ⟨h0,h1⟩
 ·exact h.num x hx
theorem Wm.cas {m:List Int} (h:Wm m) (i o:Int) {v:Int} (h0:0≤v) (h1:v≤18446744073709551615):Wm (pP m i o v).1:=by
 unfold pP
 split
 ·exact h.set i h0 h1
 ·exact h
theorem fh (m:List Int) (i:Int):aE m i=some (ah m i):=by
 unfold aE
 rw [agC,ab]
 by_cases h:0≤i∧i<m.length
 ·rw [decide_eq_true h,Bool.not_true,cond_false,(m6 h).1,ab]
 ·rw [decide_eq_false h,Bool.not_false,cond_true,Tq h]
theorem bM {α:Type} {b:Nat} {l:List α} (h:l.length*b≤70368744177664):aK b l=some l:=by
 unfold aK
 have:Nat.ble (l.length*b) 70368744177664=true:=Nat.ble_eq_true_of_le h
 rw [this,cq]
section
variable {m:List Int} (hl:m.length≤1000)
include hl
theorem lg (i v:Int):bg m i v=some (ao m i v):=by
 unfold bg
 rw [bM (by omega),ab,agC,ab]
 by_cases h:0≤i∧i<m.length
 ·rw [decide_eq_true h,Bool.not_true,cond_false,(m6 h).1,ab,decide_eq_true (by omega),cond_true,(m6 h).2,ab,ab,ao,if_pos h.1]
 ·rw [decide_eq_false h,Bool.not_false,cond_true,QW h]
theorem HU (i o v:Int):dx m i o v=some (pP m i o v):=by
 unfold dx pP
 rw [bM (by omega),ab,agC,ab]
 by_cases h:0≤i∧i<m.length
 ·rw [decide_eq_true h,Bool.not_true,cond_false,(m6 h).1,ab,Hl]
  by_cases h2:ah m i=o
  ·rw [decide_eq_true h2,Bool.not_true,cond_false,decide_eq_true (by omega),cond_true,(m6 h).2,ab,ab,if_pos ⟨h.1,h.2,h2⟩,ao,if_pos h.1]
  ·rw [decide_eq_false h2,Bool.not_false,cond_true,decide_eq_true (by omega),cond_true,(m6 h).2,ab,ab,if_neg (fun hh=>h2 hh.2.2)]
   have:=(m6 h).2
   rw [List.getElem?_eq_some_iff] at this
   obtain ⟨h3,h4⟩:=this
   rw [← h4,List.set_getElem_self]
 ·rw [decide_eq_false h,Bool.not_false,cond_true,if_neg (fun hh=>h ⟨hh.1,hh.2.1⟩)]
end
theorem aix {e w:Int} (h0:0≤e) (h1:e≤18446744073709551615):mn e w=some (OJ e w):=by
 unfold mn
 by_cases h2:w<0
 ·rw [ltT h2,cond_true,OJ,if_neg (by omega)]
 ·rw [ltF (by omega),cond_false]
  by_cases h3:16≤w
  ·rw [leT h3,cond_true,OJ,if_neg (by omega)]
  ·rw [leF (by omega),cond_false,leT (by omega),cond_true,anc (by omega) (by omega),aez h0 h1 (by omega) (by omega)]
theorem Dv {e:Int} (h0:0≤e):eb e=some (epB e):=by
 unfold eb
 rw [Y4 h0]
theorem Cu {e:Int} (h0:0≤e) (h1:e≤18446744073709551615):dj e=some (mkB e):=by
 unfold dj
 rw [VA h0 h1]
def Wf (f:FR):Prop:=(0≤f.2.2.2.1∧f.2.2.2.1≤18446744073709551615)∧(0≤f.2.2.2.2.1∧f.2.2.2.2.1≤18446744073709551615)∧(0≤f.2.2.2.2.2.1∧f.2.2.2.2.2.1≤18446744073709551615)
theorem D6 {c:CF} {m:List Int} {f:FR} {op pcs:Int} (h:rE c m f op pcs=true):cY c=true∧(m.length:Int)=bG c∧f.2.2.2.2.2.2=0∧0≤f.2.2.1∧f.2.2.1<c.1∧f.1=op∧0≤f.2.1∧f.2.1<pcs:=by
 unfold rE at h
 rw [Bool.and_eq_true,Bool.and_eq_true,decide_eq_true_eq,decide_eq_true_eq] at h
 exact ⟨h.1.1,h.1.2,h.2⟩
theorem Xf (c:CF) {m:List Int} (hm:Wm m) (hl:m.length≤1000) {f:FR} (hf:Wf f):lc c m f=some (Aq c m f):=by
 have hr:=ct hm 2
 unfold lc Aq
 try simp only [Prod.eta]
 rw [bM (by omega),ab,J4,ab]
 cases h:rE c m f 5 5 with
 | false=>rfl
 | true=>
  obtain ⟨_,_,h6,h2,h2',h0,h1,h1'⟩:=D6 h
  rw [cond_true,if_neg (by simp)]
  obtain ⟨a0,a1,a2,a3,a4,a5,a6⟩:=f
  simp only at h6 h2 h2' h0 h1 h1' ⊢
  have e:decide (0≤a1∧a1.toNat<5)=true:=by rw [decide_eq_true_eq];omega
  rw [e,cond_true]
  obtain ⟨_,w4,w5⟩:=hf
  simp only at w4 w5
  have hp:a1=0∨a1=1∨a1=2∨a1=3∨a1=4:=by omega
  rcases hp with rfl | rfl | rfl | rfl | rfl
  ·simp [fh,ab]
  ·simp only [fh,ab,Dv hr.1,Dv w4.1,Hl,i9]
   by_cases h5:epB (ah m 2)=epB a4
   ·simp [h5]
   ·simp [h5,eN]
  ·simp only [aix w5.1 w5.2,ab,HU hl]
   cases hc:(pP m 2 a5 (OJ a5 a2)).2 <;> simp [hc]
  ·simp only [OQ,fh,ab,Hl]
   by_cases h5:ah m (fR c a2)=0
   ·simp [h5]
   ·simp [h5]
  ·simp only [OQ,ab,lg hl,i9]
   simp [eN]
end Go.Ab
set_option linter.unusedVariables false
namespace Go.Ab
theorem dQ {m:List Int} {i:Int} (v:Int) (h0:0≤i) (h1:i<m.length):ah (ao m i v) i=v:=by
 unfold ah ao
 rw [if_pos h0,if_pos h0,List.getElem?_set_self (by omega)]
 rfl
theorem az {m:List Int} {i j:Int} (v:Int) (h:i≠j):ah (ao m i v) j=ah m j:=by
 unfold ah ao
 by_cases h0:0≤i
 ·by_cases h1:0≤j
  ·rw [if_pos h1,if_pos h0,List.getElem?_set_ne (by omega),if_pos h1]
  ·rw [if_neg h1,if_neg h1]
 ·rw [if_neg h0]
structure OkB (c:CF) (m:List Int) (w:Int):Prop where
 may:cY c=true
 len:(m.length:Int)=bG c
 low:0≤w
 high:w<c.1
theorem OkB.size {c:CF} {m:List Int} {w:Int} (h:OkB c m w):(m.length:Int)=wY c c.1∧12≤m.length∧m.length≤190:=by
 have hm:=aA h.may
 have ht:=dG h.may (w:=c.1) (by omega) (by omega)
 have hl:=h.len
 rw [bG,if_pos h.may] at hl
 obtain ⟨W,D,I,S⟩:=c
 simp only [wY] at *
 have:1*(3+D)≤W*(3+D):=Int.mul_le_mul_of_nonneg_right (by omega) (by omega)
 omega
theorem OkB.park {c:CF} {m:List Int} {w:Int} (h:OkB c m w):fR c w=wY c w+2∧2<fR c w∧fR c w<m.length:=by
 have hm:=aA h.may
 have hs:=h.size
 have hl:=h.low
 have hh:=h.high
 have e:fR c w=wY c w+2:=by rw [fR,if_pos ⟨h.may,h.low,h.high⟩]
 have ht:=dG h.may hl (by omega)
 rw [e]
 obtain ⟨W,D,I,S⟩:=c
 simp only [wY] at *
 have h2:(w+1)*(3+D)≤W*(3+D):=Int.mul_le_mul_of_nonneg_right (by omega) (by omega)
 have h3:(w+1)*(3+D)=w*(3+D)+(3+D):=by rw [Int.add_mul,Int.one_mul]
 exact ⟨trivial,by omega,by omega⟩
theorem OkB.store {c:CF} {m:List Int} {w:Int} (h:OkB c m w) (i v:Int):OkB c (ao m i v) w:=⟨h.may,by rw [iG];exact h.len,h.low,h.high⟩
section
variable {c:CF} {m:List Int} {w a3 a4 a5:Int} (h:OkB c m w)
include h
end
theorem XF (n:Nat) {w:Int} (hw:0≤w):r8 (n:Int) w=n.testBit w.toNat:=by
 have h2:((2 ^ w.toNat:Nat):Int)=(2:Int) ^ w.toNat:=by rw [Int.natCast_pow];rfl
 rw [r8,Nat.testBit_eq_decide_div_mod_eq,← h2]
 have:((n:Int)/((2 ^ w.toNat:Nat):Int))%2=((n/2 ^ w.toNat%2:Nat):Int):=by rw [Int.natCast_emod,Int.natCast_ediv];rfl
 rw [this]
 congr 1
 apply propext
 omega
theorem ZG (op w:Int):aF op w 0=some (op,0,w,0,0,0,0):=rfl
theorem wf0 {op pc w:Int} {r:Int}:Wf (op,pc,w,0,0,0,r):=by simp [Wf]
end Go.Ab
set_option linter.unusedVariables false
namespace Go.Ab
def Gt (e m:Int):Int:=e%281474976710656*65536+m%65536
def Rj (x:Int):Nat→Nat→Int
 | _,0 => -1
 | i,d+1=>if r8 x i=true then (i:Int) else Rj x (i+1) d
def Hm (x:Int):Int:=Rj x 0 16
def Sr (x:Int):Int:=if Hm x<0 then 0 else x - 2 ^ (Hm x).toNat
def aaB (x:Int):Int:=Gt (epB x+1) (Sr (mkB x))
def W9 (x:Int):Int:=Gt (epB x+1) 0
def Mi (c:CF) (m:List Int) (w:Int):List Int:=ao m (fR c w) 1
def GT (c:CF) (m:List Int) (f:FR):Bool:=decide (f.1=6∨f.1=7)&&cY c&&decide ((m.length:Int)=bG c)&&decide (f.2.2.2.2.2.2=0∧0≤f.2.1∧f.2.1≤2)
def wz (c:CF) (m:List Int) (f:FR):List Int×FR:=
 if GT c m f=false then (m,f)
 else if f.2.1=0 then (m,f.1,1,f.2.2.1,f.2.2.2.1,ah m 2,f.2.2.2.2.2)
 else if f.2.1=1 then
  (if ah m 2=f.2.2.2.2.1 then
   (ao m 2 (if f.1=6 then aaB f.2.2.2.2.1 else W9 f.2.2.2.2.1),
    if mkB f.2.2.2.2.1=0 then eN f 3 0 else (f.1,2,f.2.2.1,f.2.2.2.1,f.2.2.2.2.1,(if f.1=6 then (if Hm (mkB f.2.2.2.2.1)<0 then 0 else Hm (mkB f.2.2.2.2.1)) else mkB f.2.2.2.2.1),f.2.2.2.2.2.2))
  else (m,f.1,0,f.2.2))
 else if f.1=6 then (Mi c m (if f.2.2.2.2.2.1<8 then f.2.2.2.2.2.1 else -1),eN f 1 f.2.2.2.2.2.1)
 else (Mi c m (Hm f.2.2.2.2.2.1),if Sr (mkB f.2.2.2.2.2.1)=0 then eN f 1 (mkB f.2.2.2.2.1) else (f.1,2,f.2.2.1,f.2.2.2.1,f.2.2.2.2.1,Sr (mkB f.2.2.2.2.2.1),f.2.2.2.2.2.2))
def Tj (f:FR) (w:Int):Bool := !(d9 f)&&decide (f.2.1=2∧0≤w∧w<16)&&(decide (f.1=6∧f.2.2.2.2.2.1=w)||(decide (f.1=7)&&r8 f.2.2.2.2.2.1 w))
theorem CP (x:Int):∀ (d i:Nat),(Rj x i d = -1∧∀ j:Nat,i≤j→j<i+d→r8 x j=false)∨(∃ j:Nat,Rj x i d=j∧i≤j∧j<i+d∧r8 x j=true∧∀ l:Nat,i≤l→l<j→r8 x l=false)
 | 0,i => .inl ⟨rfl,fun j h1 h2=>by omega⟩
 | d+1,i=>by
  by_cases h:r8 x i=true
  ·exact .inr ⟨i,by rw [Rj,if_pos h],by omega,by omega,h,fun l h1 h2=>by omega⟩
  ·have e:Rj x i (d+1)=Rj x (i+1) d:=by rw [Rj,if_neg h]
   rw [e]
   rcases CP x d (i+1) with ⟨h1,h2⟩ | ⟨j,h1,h2,h3,h4,h5⟩
   ·refine .inl ⟨h1,fun j h3 h4 => ?_⟩
    by_cases e2:i=j
    ·subst e2;simpa using h
    ·exact h2 j (by omega) (by omega)
   ·refine .inr ⟨j,h1,by omega,by omega,h4,fun l h6 h7 => ?_⟩
    by_cases e2:i=l
    ·subst e2;simpa using h
    ·exact h5 l (by omega) h7
theorem GD (x:Int):(Hm x = -1∧∀ j:Nat,j<16→r8 x j=false)∨(∃ j:Nat,Hm x=j∧j<16∧r8 x j=true∧∀ l:Nat,l<j→r8 x l=false):=by
 rcases CP x 16 0 with ⟨h1,h2⟩ | ⟨j,h1,h2,h3,h4,h5⟩
 ·exact .inl ⟨h1,fun j h=>h2 j (by omega) (by omega)⟩
 ·exact .inr ⟨j,h1,by omega,h4,fun l h=>h5 l (by omega) h⟩
theorem abq {a w:Nat}:(2 ^ (w+1)*a+2 ^ w) &&& (2 ^ (w+1)*a+(2 ^ w - 1))=2 ^ (w+1)*a:=by
 have hp:0<2 ^ w:=Nat.pow_pos (by decide)
 have hs:2 ^ (w+1)=2*2 ^ w:=by rw [Nat.pow_succ,Nat.mul_comm]
 apply Nat.eq_of_testBit_eq
 intro j
 have e0:2 ^ (w+1)*a=2 ^ (w+1)*a+0:=rfl
 rw [Nat.testBit_and,Nat.testBit_two_pow_mul_add a (by omega),Nat.testBit_two_pow_mul_add a (by omega),e0,Nat.testBit_two_pow_mul_add a (by omega)]
 by_cases h:j<w+1
 ·rw [if_pos h,if_pos h,if_pos h,Nat.testBit_two_pow,Nat.testBit_two_pow_sub_one,Nat.zero_testBit]
  by_cases h2:w=j
  ·subst h2;simp
  ·simp [h2]
 ·rw [if_neg h,if_neg h,if_neg h,Bool.and_self]
theorem GF {x:Int} (h0:0≤x) (h1:x<65536):(x=0∧Hm x = -1)∨(∃ a w:Nat,x=((2 ^ (w+1)*a+2 ^ w:Nat):Int)∧Hm x=w∧w<16):=by
 obtain ⟨n,rfl⟩:∃ n:Nat,x=n:=⟨x.toNat,by omega⟩
 have hb:∀ j:Nat,r8 (n:Int) (j:Int)=n.testBit j:=fun j=>XF n (by omega)
 rcases GD (n:Int) with ⟨h2,h3⟩ | ⟨w,h2,h3,h4,h5⟩
 ·refine .inl ⟨?_,h2⟩
  have:n=0:=by
   apply Nat.eq_of_testBit_eq
   intro j
   rw [Nat.zero_testBit]
   by_cases hj:j<16
   ·rw [← hb];exact h3 j hj
   ·exact Nat.testBit_lt_two_pow (Nat.lt_of_lt_of_le (show n<2 ^ 16 by omega) (Nat.pow_le_pow_right (by decide) (by omega)))
  omega
 ·refine .inr ⟨n/2 ^ (w+1),w,?_,h2,h3⟩
  congr 1
  have hm:n%2 ^ (w+1)=2 ^ w:=by
   apply Nat.eq_of_testBit_eq
   intro j
   rw [Nat.testBit_mod_two_pow,Nat.testBit_two_pow]
   by_cases hj:j<w
   ·have:=h5 j hj
    rw [hb] at this
    have h6:¬ w=j:=by omega
    simp [this,h6]
   ·by_cases hj2:w=j
    ·subst hj2
     rw [hb] at h4
     simp [h4]
    ·have h6:¬ j<w+1:=by omega
     simp [h6,hj2]
  have:=Nat.div_add_mod n (2 ^ (w+1))
  omega
theorem acy {x:Int} (h0:0≤x) (h1:x<65536):wT .u64 x (IntKind.u64.wrap (x - 1))=Sr x:=by
 unfold Sr
 rcases GF h0 h1 with ⟨rfl,h2⟩ | ⟨a,w,rfl,h2,h3⟩
 ·rw [h2]
  decide +kernel
 ·have hp:0<2 ^ w:=Nat.pow_pos (by decide)
  have e:((2 ^ (w+1)*a+2 ^ w:Nat):Int) - 1=((2 ^ (w+1)*a+(2 ^ w - 1):Nat):Int):=by
   generalize 2 ^ (w+1)*a=y
   generalize 2 ^ w=z at hp
   omega
  rw [h2,if_neg (by omega),Int.toNat_natCast,e]
  have hlt:2 ^ (w+1)*a+2 ^ w<65536:=by omega
  rw [lM (by omega) (by generalize 2 ^ (w+1)*a=y at hlt ⊢;generalize 2 ^ w=z at hlt ⊢;omega),Rs (by omega) (by generalize 2 ^ (w+1)*a=y at hlt ⊢;generalize 2 ^ w=z at hlt ⊢;omega),abq]
  have hw:((2 ^ w:Nat):Int)=(2:Int) ^ w:=by rw [Int.natCast_pow];rfl
  rw [← hw]
  generalize 2 ^ (w+1)*a=y
  generalize (2:Nat) ^ w=z
  omega
theorem P4 {x:Int} (h0:0≤x) (h1:x<65536):0≤Sr x∧Sr x≤x:=by
 unfold Sr
 rcases GF h0 h1 with ⟨rfl,h2⟩ | ⟨a,w,rfl,h2,h3⟩
 ·rw [h2];decide
 ·rw [h2,if_neg (by omega),Int.toNat_natCast]
  have hw:((2 ^ w:Nat):Int)=(2:Int) ^ w:=by rw [Int.natCast_pow];rfl
  rw [← hw]
  generalize 2 ^ (w+1)*a=y
  generalize (2:Nat) ^ w=z
  omega
theorem afV {e m:Int} (h0:0≤e) (m0:0≤m) (m1:m≤18446744073709551615):orI .u64 (Ut .u64 e 16) (wT .u64 m 65535)=Gt e m:=by
 rw [VA m0 m1]
 have hs:Ut .u64 e 16=((2 ^ 16*(e.toNat%281474976710656):Nat):Int):=by
  unfold Ut
  have e1:min (16:Int).toNat IntKind.u64.bits=16:=by decide
  rw [e1]
  simp [IntKind.wrap,IntKind.bits,IntKind.signed]
  omega
 have hm:mkB m=((m.toNat%65536:Nat):Int):=by unfold mkB;omega
 rw [hs,hm,orU (by omega) (by omega),← Nat.two_pow_add_eq_or_of_lt (by omega),Gt]
 omega
end Go.Ab
set_option linter.unusedVariables false
namespace Go.Ab
theorem Df (c : CF) (m : List Int) (a1 a6 : Int) : (bif cY c then bif decide ((m.length : Int) = bG c) then bif !(a6 != 0) then bif decide (0 ≤ a1) then some (decide (a1 ≤ 2)) else some false else some false else some false else some false)
    = some (cY c && decide ((m.length : Int) = bG c) && decide (a6 = 0 ∧ 0 ≤ a1 ∧ a1 ≤ 2)) := by
  cases cY c with
  | false => rfl
  | true =>
    rw [cond_true]
    by_cases h1 : (m.length : Int) = bG c
    · rw [decide_eq_true h1, cond_true]
      by_cases h2 : a6 = 0
      · by_cases h3 : 0 ≤ a1
        · simp [h2, h3]
        · simp [h2, h3]
      · have : (a6 != 0) = true := by simp [h2]
        simp [h2, this]
    · rw [decide_eq_false h1]
      rfl
theorem W4 (c:CF) (m:List Int) (f:FR):kV c m f=some (GT c m f):=by
 obtain ⟨a0,a1,a2,a3,a4,a5,a6⟩:=f
 unfold kV GT
 simp only [Prod.eta,ni,gL,Dt,ng,ab,d9]
 by_cases h1:a0=6
 ·rw [decide_eq_true h1,cond_true,Df,decide_eq_true (show a0=6∨a0=7 from .inl h1),Bool.true_and]
 ·rw [decide_eq_false h1,cond_false]
  by_cases h2:a0=7
  ·rw [decide_eq_true h2,cond_true,Df,decide_eq_true (show a0=6∨a0=7 from .inr h2),Bool.true_and]
  ·rw [decide_eq_false h2,cond_false,decide_eq_false (by omega)]
   rfl
theorem KZ {e:Int} (h0:0≤e):0≤mkB e∧mkB e<65536:=by unfold mkB;omega
theorem VJ {e:Int} (h0:0≤e) (h1:e≤18446744073709551615):0≤epB e∧epB e≤281474976710655:=by unfold epB;omega
theorem Wn {e m:Int} (h0:0≤e) (m0:0≤m) (m1:m≤18446744073709551615):gZ e m=some (Gt e m):=by
 unfold gZ
 rw [afV h0 m0 m1]
theorem Ac (e m:Int):0≤Gt e m∧Gt e m≤18446744073709551615:=by unfold Gt;omega
theorem QQ (x:Int) : -1≤Hm x∧Hm x<16:=by
 rcases GD x with ⟨h,_⟩ | ⟨j,h,h2,_⟩ <;> omega
theorem K5 {k:Nat} (hk:100≤k) {x:Int} (h0:0≤x) (h1:x≤18446744073709551615):gF k x=some (Hm x):=by
 have key:∀ (d i n:Nat),i+d=16→d<n→cQ k x n (i:Int)=some (Rj x i d):=by
  intro d
  induction d with
  | zero=>
   intro i n hi hn
   obtain ⟨n,rfl⟩:=gS hn
   rw [cQ,ltF (by omega),cond_false]
   rfl
  | succ d ih=>
   intro i n hi hn
   obtain ⟨n,rfl⟩:=gS hn
   rw [cQ,ltT (by omega),cond_true,leT (by omega),cond_true,amv h0 h1 (by omega) (by omega),Rj]
   cases hb:r8 x i with
   | true=>rw [cond_true,if_pos rfl]
   | false=>rw [cond_false,if_neg (by simp),gr (by omega),ih (i+1) n (by omega) (by omega)]
 exact key 16 0 (k+9) rfl (by omega)
theorem aeW {k:Nat} (hk:100≤k) {e:Int} (h0:0≤e) (h1:e≤18446744073709551615):lh k e=some (aaB e,Hm (mkB e)):=by
 have hm:=KZ h0
 have he:=VJ h0 h1
 have hc:=P4 hm.1 hm.2
 unfold lh
 rw [Cu h0 h1,ab,Dv h0,ab,lM (z:=epB e+1) (by omega) (by omega),acy hm.1 hm.2,Wn (by omega) hc.1 (by omega),ab,K5 hk hm.1 (by omega),ab]
 rfl
theorem acK {e:Int} (h0:0≤e) (h1:e≤18446744073709551615):lb e=some (W9 e):=by
 have he:=VJ h0 h1
 unfold lb
 rw [Dv h0,ab,lM (z:=epB e+1) (by omega) (by omega),Wn (by omega) (by decide) (by decide),ab]
 rfl
theorem Uq {k:Nat} (hk:100≤k) {e:Int} (h0:0≤e) (h1:e≤18446744073709551615):fL k e=some (aaB e,if Hm (mkB e)<0 then 0 else Hm (mkB e)):=by
 have hl:=QQ (mkB e)
 unfold fL
 rw [aeW hk h0 h1,ab]
 simp only
 by_cases h:Hm (mkB e)<0
 ·rw [ltT h,cond_true,if_pos h];rfl
 ·rw [ltF (by omega),cond_false,if_neg h,lM (by omega) (by omega)]
theorem Rn {e:Int} (h0:0≤e) (h1:e≤18446744073709551615):fK e=some (W9 e,mkB e):=by
 unfold fK
 rw [acK h0 h1,ab,Cu h0 h1,ab]
theorem PN {k:Nat} (hk:100≤k) (c:CF) {m:List Int} (hl:m.length≤1000) (w:Int):fV k c m [w]=some (Mi c m w):=by
 unfold fV
 obtain ⟨k,rfl⟩:∃ j,k=j+2:=⟨k - 2,by omega⟩
 have f1:∀ k:Nat,k+2+12=(k+12+1)+1:=fun k=>rfl
 have i1:IntKind.i64.wrap (0+1)=1:=by decide
 have x0:idx [w] 0=some w:=rfl
 rw [f1,eG,ltT (by simp),cond_true,x0,ab]
 try simp only [Prod.eta]
 rw [OQ,ab,lg hl,ab,i1,eG,ltF (by simp),cond_false]
 rfl
theorem Zw {k:Nat} (hk:1000≤k) (c:CF) {m:List Int} (hm:Wm m) (hl:m.length≤1000) {f:FR} (hf:Wf f):ij k c m f=some (wz c m f):=by
 have hr:=ct hm 2
 unfold ij wz
 try simp only [Prod.eta]
 rw [bM (by omega),ab,W4,ab]
 cases h:GT c m f with
 | false=>rfl
 | true=>
  rw [Bool.not_true,cond_false,if_neg (by simp)]
  obtain ⟨a0,a1,a2,a3,a4,a5,a6⟩:=f
  obtain ⟨_,w4,w5⟩:=hf
  simp only at w4 w5
  unfold GT at h
  rw [Bool.and_eq_true,Bool.and_eq_true,Bool.and_eq_true,decide_eq_true_eq,decide_eq_true_eq,decide_eq_true_eq] at h
  obtain ⟨⟨⟨h0,hmay⟩,hlen⟩,h6,h1,h2⟩:=h
  simp only at h0 h6 h1 h2 ⊢
  have hlen2:(2:Int)<m.length:=by
   have hmc:=aA hmay
   have ok:OkB c m 0:=⟨hmay,hlen,by decide,by omega⟩
   have:=ok.size
   omega
  by_cases p0:a1=0
  ·subst p0
   simp [fh,ab]
  ·by_cases p1:a1=1
   ·subst p1
    have e1:∀ v,pP m 2 a4 v=if ah m 2=a4 then (ao m 2 v,true) else (m,false):=by
     intro v
     unfold pP
     by_cases hh:ah m 2=a4
     ·rw [if_pos hh,if_pos ⟨by decide,hlen2,hh⟩]
     ·rw [if_neg hh,if_neg (fun x=>hh x.2.2)]
    rcases h0 with rfl | rfl
    ·simp only [ni,decide_eq_true rfl,decide_eq_false p0,cond_true,cond_false,Uq (k:=k+2) (by omega) w4.1 w4.2,ab,HU hl,e1,Cu w4.1 w4.2,i9]
     by_cases hh:ah m 2=a4
     ·by_cases h3:mkB a4=0
      ·simp [hh,h3,eN]
      ·simp [hh,h3]
     ·simp [hh]
    ·simp only [ni,decide_eq_true rfl,decide_eq_false p0,decide_eq_false (show ¬ ((7:Int)=6) by decide),cond_true,cond_false,Rn w4.1 w4.2,ab,HU hl,e1,Cu w4.1 w4.2,i9]
     by_cases hh:ah m 2=a4
     ·by_cases h3:mkB a4=0
      ·simp [hh,h3,eN]
      ·simp [hh,h3]
     ·simp [hh]
   ·rcases h0 with rfl | rfl
    ·simp only [ni,decide_eq_true rfl,decide_eq_false p0,decide_eq_false p1,cond_true,cond_false]
     by_cases h3:a5<8
     ·rw [ltT h3,cond_true,PN (by omega) c hl,ab,i9,ab,dM (by omega)]
      simp [p0,p1,h3,eN]
     ·rw [ltF (by omega),cond_false,PN (by omega) c hl,ab,i9,ab]
      simp [p0,p1,h3,eN]
    ·have hk5:=KZ w5.1
     simp only [ni,decide_eq_false (show ¬ ((7:Int)=6) by decide),decide_eq_false p0,decide_eq_false p1,cond_false]
     rw [K5 (by omega) w5.1 w5.2,ab,PN (by omega) c hl,ab,Cu w5.1 w5.2,ab,acy hk5.1 hk5.2,Cu w4.1 w4.2,ab]
     simp only [i9,ab]
     by_cases h3:Sr (mkB a5)=0
     ·simp [p0,p1,h3,eN]
     ·have h4:mkB a5≠0:=fun e=>h3 (by rw [e];decide)
      simp [p0,p1,h3,h4]
      omega
end Go.Ab
namespace Go.Ab
open Go.WideShapes
theorem Ae:maxLen≤9223372036854775807:=by decide
theorem ai8 {l:Tyt} (hm:l.length≤maxLen) (h:∀ x ∈ l,i64 x.1∧(∀ n ∈ x.2,i64 n)∧x.2.length≤maxLen):Wt l:=
 ⟨Nat.le_trans hm Ae,fun x hx=>Nat.le_trans (h x hx).2.2 Ae⟩
theorem afU {α:Type} {l:List α} (hm:l.length≤maxLen):l.length≤9223372036854775807:=Nat.le_trans hm Ae
theorem M8 {P:Program} {w:World} {r:Reach} {base:Nat} {t:TypeId} {v:Value} {fs:Array Field} (ht:P.underlying t=some (.struct fs)) (h:Value.okWide P w r base t v):∃ cs,v = .agg cs:=by
 simp only [Value.okWide,ht] at h
 cases v <;> simp_all
theorem Cells.agg {w:World} {cs:Array Value} {vs:List V} (c:Cells w (Value.agg cs).cells.toList vs):RelV (Se w) [] (.agg vs) (.agg cs):=by
 have hl:vs.length=cs.toList.length:=c.len
 refine .agg vs cs (by simpa using hl.symm) c.ones fun i x hx => ?_
 have hi:i<vs.length:=(List.getElem?_eq_some_iff.1 hx).1
 have hi2:i<cs.size:=by rw [hl] at hi;simpa using hi
 have h1:cs.toList[i]? = some cs[i]:=by simp [hi2]
 have:=c.rel i x cs[i] hx h1
 simpa [Array.getD,hi2] using this
end Go.Ab
namespace Go.Ab
open Go.WideShapes
def u64 (n:Int):Prop:=(Lit.int .u64 n).wf=true
def Wx (c:Int×Int×Int×Int):Prop:=i64 c.1∧i64 c.2.1∧i64 c.2.2.1∧i64 c.2.2.2
theorem M7 {P:Program} {t ti:TypeId} {f0 f1 f2 f3:Field} {vs:List V} (he:P.underlying t=some (.struct #[f0,f1,f2,f3])) (h0:f0.type=ti) (h1:f1.type=ti) (h2:f2.type=ti) (h3:f3.type=ti) (o0:f0.offset=0) (o1:f1.offset=1) (o2:f2.offset=2) (o3:f3.offset=3) (hi:P.underlying ti=some (.int .i64)) (ci:P.cellsOf ti=1) (ce:P.cellsOf t=4) (h:Shape P t vs) :
  ∃ x:Int×Int×Int×Int,vs=BV x∧Wx x:=by
 obtain ⟨a,b⟩:=we he h
 have s0:=b 0 f0 rfl
 rw [h0,o0,ci,List.drop_zero] at s0
 have s1:=b 1 f1 rfl
 rw [h1,o1,ci] at s1
 have s2:=b 2 f2 rfl
 rw [h2,o2,ci] at s2
 have s3:=b 3 f3 rfl
 rw [h3,o3,ci] at s3
 rw [ce] at a
 obtain ⟨n0,e0,w0⟩:=mC hi s0
 obtain ⟨n1,e1,w1⟩:=mC hi s1
 obtain ⟨n2,e2,w2⟩:=mC hi s2
 obtain ⟨n3,e3,w3⟩:=mC hi s3
 match vs,a with
 | [x0,x1,x2,x3],_=>
  simp at e0 e1 e2 e3
  subst e0 e1 e2 e3
  exact ⟨(n0,n1,n2,n3),rfl,w0,w1,w2,w3⟩
theorem Iz {P:Program} {t s i:TypeId} {vs:List V} (ht:P.underlying t=some (.slice s)) (hs:P.underlying s=some (.slice i)) (hi:P.underlying i=some (.int .i64)) (h:Shape P t vs) :
  ∃ l:List (List Int),vs=[.ro (l.map cR)]∧(∀ x ∈ l,(∀ n ∈ x,i64 n)∧x.length≤maxLen)∧l.length≤maxLen:=by
 obtain ⟨rows,rfl,hr,hm⟩:=pq ht h
 obtain ⟨l,rfl,hl⟩:=oA (enc:=cR) (Q:=fun x=>(∀ n ∈ x,i64 n)∧x.length≤maxLen) (rows:=rows) (fun r hx=>by
  obtain ⟨l,e,w,m⟩:=uF hs hi (hr r hx)
  exact ⟨l,e,w,m⟩)
 exact ⟨l,rfl,hl,by simpa using hm⟩
end Go.Ab
namespace Go.Ab
open Go.WideShapes
end Go.Ab
set_option linter.unusedVariables false
namespace Go.Ab
end Go.Ab
set_option linter.unusedVariables false
namespace Go.Ab
def mr (c:CF) (x:Int):Int:=if cY c=true then 6+x%c.2.2.1 else -1
def BL (c:CF) (x:Int):Int:=if cY c=true then 6+c.2.2.1+x%c.2.2.1 else -1
def B7 (c:CF) (x:Int):Int:=x/c.2.2.1*2%18446744073709551616
def uq (a b:Int):Int:=IntKind.i64.wrap (IntKind.u64.wrap (a - b))
def eY (a b:Int):Int:=(a+b)%18446744073709551616
def oX (c:CF) (m:List Int) (f:FR) (op:Int):Bool:=cY c&&decide ((m.length:Int)=bG c)&&decide (f.2.2.2.2.2.2=0∧f.1=op∧0≤f.2.1∧f.2.1<5)
def iI (c:CF) (m:List Int) (f:FR):List Int×FR:=
 if oX c m f 3=false then (m,f)
 else if f.2.1=0 then (m,f.1,1,f.2.2.1,f.2.2.2.1,ah m 5,f.2.2.2.2.2)
 else if f.2.1=1 then
  (if ah m (mr c f.2.2.2.2.1)=B7 c f.2.2.2.2.1 then (m,f.1,2,f.2.2.1,f.2.2.2.1,f.2.2.2.2.1,ah m (mr c f.2.2.2.2.1),f.2.2.2.2.2.2)
  else if uq (ah m (mr c f.2.2.2.2.1)) (B7 c f.2.2.2.2.1)<0 then (m,eN f 2 f.2.2.2.1)
  else (m,f.1,0,f.2.2.1,f.2.2.2.1,f.2.2.2.2.1,ah m (mr c f.2.2.2.2.1),f.2.2.2.2.2.2))
 else if f.2.1=2 then (let r:=pP m 5 f.2.2.2.2.1 (eY f.2.2.2.2.1 1);(r.1,f.1,if r.2=true then 3 else 0,f.2.2))
 else if f.2.1=3 then (ao m (BL c f.2.2.2.2.1) f.2.2.2.1,f.1,4,f.2.2)
 else (ao m (mr c f.2.2.2.2.1) (eY (B7 c f.2.2.2.2.1) 1),eN f 1 f.2.2.2.1)
def BY (c:CF) (x:Int):Int:=eY (B7 c x) 1
def kx (c:CF) (m:List Int) (f:FR):List Int×FR:=
 if oX c m f 4=false then (m,f)
 else if f.2.1=0 then (m,f.1,1,f.2.2.1,f.2.2.2.1,ah m 4,f.2.2.2.2.2)
 else if f.2.1=1 then
  (if uq (ah m (mr c f.2.2.2.2.1)) (BY c f.2.2.2.2.1)=0 then (m,f.1,2,f.2.2.1,f.2.2.2.1,f.2.2.2.2.1,ah m (mr c f.2.2.2.2.1),f.2.2.2.2.2.2)
  else if uq (ah m (mr c f.2.2.2.2.1)) (BY c f.2.2.2.2.1)<0 then (m,eN f 3 0)
  else (m,f.1,0,f.2.2.1,f.2.2.2.1,f.2.2.2.2.1,ah m (mr c f.2.2.2.2.1),f.2.2.2.2.2.2))
 else if f.2.1=2 then (let r:=pP m 4 f.2.2.2.2.1 (eY f.2.2.2.2.1 1);(r.1,f.1,if r.2=true then 3 else 0,f.2.2))
 else if f.2.1=3 then (m,f.1,4,f.2.2.1,ah m (BL c f.2.2.2.2.1),f.2.2.2.2)
 else (ao m (mr c f.2.2.2.2.1) (eY (BY c f.2.2.2.2.1) 1),eN f 1 f.2.2.2.1)
def BM (c:CF) (m:List Int) (f:FR):List Int×FR:=if f.1=3 then iI c m f else if f.1=4 then kx c m f else (m,f)
def Hv (c:CF) (m:List Int) (f:FR):List Int×FR:=if f.1=5 then Aq c m f else if f.1=6∨f.1=7 then wz c m f else (m,f)
def iS (c:CF) (m:List Int) (f:FR):List Int×FR:=if f.1=3∨f.1=4 then BM c m f else Hv c m f
abbrev SB:=Int×List Int×FR
def dc:FR:=(0,0,0,0,0,0,0)
abbrev EV:=Int×Int×Int
def eL (l:List Int):Int:=l.headD 0
def wC (c:CF) (t:Tyt) (m:List Int) (x:SB):Bool:=cY c&&decide ((m.length:Int)=bG c)&&oq t&&decide (0≤x.1∧x.1<6∧x.2.1≠[]∧0≤eL x.2.1∧eL x.2.1<t.length)
def fH (c:CF) (t:Tyt) (m:List Int) (i:Int) (x:SB):List Int×SB×List EV:=
 if wC c t m x=false then (m,x,[])
 else if x.1=0 then (if ah m 3≠0 then (m,(0,x.2.1.tail,dc),[(1,eL x.2.1,i)]) else (m,(1,x.2),[]))
 else if x.1=1 then (ao m 0 (eY (ah m 0) 1),(2,x.2.1,(3,0,i,eL x.2.1,0,0,0)),[])
 else if x.1=2 then (let r:=iS c m x.2.2;
  if d9 r.2=false then (r.1,(2,x.2.1,r.2),[]) else if r.2.2.2.2.2.2.2=2 then (r.1,(5,x.2.1,r.2),[]) else (r.1,(3,x.2.1,r.2),[(0,eL x.2.1,i)]))
 else if x.1=3 then (if ah m 1≠0 then (m,(0,x.2.1.tail,dc),[]) else (m,(4,x.2.1,(6,0,i,0,0,0,0)),[]))
 else if x.1=4 then (let r:=iS c m x.2.2;if d9 r.2=true then (r.1,(0,x.2.1.tail,dc),[]) else (r.1,(4,x.2.1,r.2),[]))
 else (ao m 0 (eY (ah m 0) 18446744073709551615),(0,x.2.1.tail,dc),if ah m 0=1 then [(1,eL x.2.1,i),(5,0,i)] else [(1,eL x.2.1,i)])
def One (m m':List Int):Prop:=∃ i v,m'=ao m i v
theorem One.same (m:List Int):One m m:=⟨-1,0,by unfold ao;rw [if_neg (by decide)]⟩
theorem One.store (m:List Int) (i v:Int):One m (ao m i v):=⟨i,v,rfl⟩
theorem One.cas (m:List Int) (i o v:Int):One m (pP m i o v).1:=by
 unfold pP
 split
 ·exact One.store m i v
 ·exact One.same m
theorem One.len {m m':List Int} (h:One m m'):m'.length=m.length:=by
 obtain ⟨i,v,rfl⟩:=h
 exact iG
theorem Ya (c:CF) (m:List Int) (f:FR):One m (iI c m f).1:=by
 unfold iI
 repeat' split
 all_goals first | exact One.same m | exact One.store m _ _ | exact One.cas m _ _ _
theorem aag (c:CF) (m:List Int) (f:FR):One m (kx c m f).1:=by
 unfold kx
 repeat' split
 all_goals first | exact One.same m | exact One.store m _ _ | exact One.cas m _ _ _
theorem TH (c:CF) (m:List Int) (f:FR):One m (Aq c m f).1:=by
 unfold Aq
 repeat' split
 all_goals first | exact One.same m | exact One.store m _ _ | exact One.cas m _ _ _
theorem Vj (c:CF) (m:List Int) (f:FR):One m (wz c m f).1:=by
 unfold wz Mi
 repeat' split
 all_goals first | exact One.same m | (dsimp only;exact One.store m _ _)
theorem KD (c:CF) (m:List Int) (f:FR):One m (iS c m f).1:=by
 unfold iS BM Hv
 repeat' split
 all_goals first | exact One.same m | exact Ya c m f | exact aag c m f | exact TH c m f | exact Vj c m f
end Go.Ab
set_option linter.unusedVariables false
namespace Go.Ab
structure InvA (c:CF) (a:Nat) (m:List Int):Prop where
 wm:Wm m
 may:cY c=true
 len:(m.length:Int)=bG c
 l0:ah m 0=a
 l1:ah m 1=0
 mask:mkB (ah m 2)=0
 l3:ah m 3=0
 l5:ah m 5=a
 sq:∀ j:Nat,(j:Int)<c.2.2.1→ah m (6+j)=if j<a then 1 else 0
 le:(a:Int)≤c.2.2.1
section
variable {c:CF} {t:Tyt} {m:List Int} {l:List Int} {F:FR}
end
section
variable {c:CF} {m:List Int} {w v X Y:Int} (hmay:cY c=true) (hlen:(m.length:Int)=bG c)
include hmay hlen
end
end Go.Ab
set_option linter.unusedVariables false
namespace Go.Ab
theorem ol {q i:Int}:∀ {t:Tyt} {s:Nat},(q,i) ∈ fC s t↔∃ n x,t[n]? = some x∧q ∈ x.2∧i=((s+n:Nat):Int)
 | [],s=>by simp [fC]
 | x::t,s=>by
  simp only [fC,List.mem_append,List.mem_map,Prod.mk.injEq,ol (t:=t) (s:=s+1)]
  constructor
  ·rintro (⟨a,ha,rfl,rfl⟩ | ⟨n,y,hy,hq,rfl⟩)
   ·exact ⟨0,x,rfl,ha,by simp⟩
   ·exact ⟨n+1,y,by simpa using hy,hq,by omega⟩
  ·rintro ⟨n,y,hy,hq,rfl⟩
   cases n with
   | zero=>
    simp at hy
    subst hy
    exact .inl ⟨q,hq,rfl,by simp⟩
   | succ n=>exact .inr ⟨n,y,by simpa using hy,hq,by omega⟩
theorem KJ (n:Nat):∀ (l:List (Int×Int)) (had:Zc n),(∀ q ∈ l,0≤q.2)→(DL (fZ n) l had).1=true →
  (∀ q ∈ l,q.2<q.1∧q.1<n∧had.1[q.1.toNat]? = some false)∧(l.map (·.1)).Nodup
 | [],had,_,_=>by simp
 | q::l,had,h0,h=>by
  simp only [DL] at h
  have hq0:=h0 q (by simp)
  cases hb:Av n had.1 q with
  | true=>simp [fZ,hb] at h
  | false=>
   have e1:(fZ n had q).1=true:=by simp [fZ,hb]
   have e2:(fZ n had q).2.1=had.1.set q.1.toNat true:=by simp [fZ,hb]
   rw [e1,if_pos rfl] at h
   obtain ⟨a,b⟩:=KJ n l _ (fun x hx=>h0 x (by simp [hx])) h
   simp only [Av,Bool.or_eq_false_iff,decide_eq_false_iff_not] at hb
   obtain ⟨⟨h1,h2⟩,h3⟩:=hb
   have h4:q.1.toNat<had.1.length:=by rw [had.2];omega
   have h5:had.1[q.1.toNat]? = some false:=by
    rw [List.getElem?_eq_getElem h4] at h3 ⊢
    simpa using h3
   rw [e2] at a
   have h6:∀ x ∈ l,x.1≠q.1:=by
    intro x hx e
    have:=(a x hx).2.2
    rw [e,List.getElem?_set_self h4] at this
    cases this
   refine ⟨?_,?_⟩
   ·intro x hx
    rcases List.mem_cons.1 hx with rfl | hx
    ·exact ⟨by omega,by omega,h5⟩
    ·obtain ⟨u,v,w⟩:=a x hx
     refine ⟨u,v,?_⟩
     have hx0:=h0 x (by simp [hx])
     rwa [List.getElem?_set_ne (by have:=h6 x hx;omega)] at w
   ·rw [List.map_cons,List.nodup_cons]
    refine ⟨?_,b⟩
    intro hm
    obtain ⟨x,hx,e⟩:=List.mem_map.1 hm
    exact h6 x hx e
structure May (t:Tyt):Prop where
 len:t.length≤30
 work:∀ x ∈ t,0≤x.1∧x.1≤20
 kids:∀ q ∈ fC 0 t,0≤q.2∧q.2<q.1∧q.1<t.length
 once:((fC 0 t).map (·.1)).Nodup
theorem rQ {t:Tyt} {s:Nat} (q) (h:q ∈ fC s t):0≤q.2:=by
 obtain ⟨a,b⟩:=q
 obtain ⟨n,x,_,_,rfl⟩:=ol.1 h
 simp
 omega
theorem AO {t:Tyt} (h:oq t=true):May t:=by
 unfold oq at h
 simp only [Bool.and_eq_true,decide_eq_true_eq,Bool.not_eq_true'] at h
 obtain ⟨⟨h1,h2⟩,h3⟩:=h
 obtain ⟨a,b⟩:=KJ t.length _ _ rQ h3
 refine ⟨h1,?_,fun q hq=>⟨rQ q hq,(a q hq).1,(a q hq).2.1⟩,b⟩
 intro x hx
 have:=List.any_eq_false.1 h2 x hx
 simp only [pF,Bool.or_eq_true,decide_eq_true_eq,not_or] at this
 omega
theorem G3 {α β:Type} {f:α→β}:∀ {l:List α},(l.map f).Nodup→∀ {a b:α},a ∈ l→b ∈ l→f a=f b→a=b
 | [],_,a,b,ha,_,_=>by simp at ha
 | x::l,h,a,b,ha,hb,e=>by
  rw [List.map_cons,List.nodup_cons] at h
  rcases List.mem_cons.1 ha with ha1 | ha1 <;> rcases List.mem_cons.1 hb with hb1 | hb1
  ·rw [ha1,hb1]
  ·exact absurd (show f x ∈ l.map f from List.mem_map.2 ⟨b,hb1,by rw [← e,ha1]⟩) h.1
  ·exact absurd (show f x ∈ l.map f from List.mem_map.2 ⟨a,ha1,by rw [e,hb1]⟩) h.1
  ·exact G3 h.2 ha1 hb1 e
theorem Pi (p:Int):∀ (l:List (Int×Int)) (r:Int),DL (iW p) l r=match l.find? (fun q=>q.1==p) with | some q=>(false,q.2) | none=>(true,r)
 | [],r=>rfl
 | q::l,r=>by
  simp only [DL,iW,List.find?_cons]
  by_cases h:q.1=p
  ·simp [h]
  ·simp [h,beq_false_of_ne h,Pi p l r]
theorem IR {t:Tyt} {p o:Int} (hm:oq t=true) (h:(p,o) ∈ fC 0 t):gB t p=o:=by
 have hM:=AO hm
 cases hf:(fC 0 t).find? (fun q=>q.1==p) with
 | none=>
  rw [List.find?_eq_none] at hf
  have:=hf _ h
  simp at this
 | some q=>
  have h1:=List.mem_of_find?_eq_some hf
  have h2:=List.find?_some hf
  simp only [beq_iff_eq] at h2
  have h3:q=(p,o):=by
   have hn:=hM.once
   exact G3 hn h1 h h2
  rw [gB,if_pos hm,Pi,hf,h3]
  rfl
end Go.Ab
set_option maxRecDepth 100000
set_option linter.unusedVariables false
namespace Go.Ab
theorem ad4 (x:Int×List Int):fG x=some (pF x):=by
 unfold fG pF
 cases decide (x.1<0) <;> rfl
section
variable (k:Nat) (hk:9223372036854775808≤k)
include hk
theorem aac (t:Tyt) (ht:Wt t):dA k t=some (adG t):=by
 have hlen:=ht.len
 have key:∀ r i n,t.drop i=r→i≤t.length→r.length<n→bv k t n (i:Int)=some ((r.take (41 - i)).all (fun x=>decide (x.2.length≤40))&&decide (t.length≤40)):=by
  intro r
  induction r with
  | nil=>
   intro i n hr hi hn
   obtain ⟨n,rfl⟩:=gS hn
   have:i=t.length:=by have:=cV hr;omega
   subst this
   rw [bv,Dh,cond_false,Wz]
   simp
  | cons x r ih=>
   intro i n hr hi hn
   obtain ⟨n,rfl⟩:=gS hn
   obtain ⟨a,b,c,d,e⟩:=bW hr
   rw [bv,ltN a,cond_true]
   by_cases h:i≤40
   ·rw [leT (show (i:Int)≤40 by omega),cond_true,fJ b,ab]
    have e1:41 - i=(41 - (i+1))+1:=by omega
    rw [e1,List.take_succ_cons,List.all_cons]
    by_cases h2:x.2.length≤40
    ·rw [ltF (show ((x.2.length:Nat):Int)≤40 by omega),cond_false,gr (by omega),ih (i+1) n c (by omega) (by simp only [List.length_cons] at hn;omega),decide_eq_true h2,Bool.true_and]
    ·rw [ltT (show (40:Int)<(x.2.length:Nat) by omega),cond_true,decide_eq_false h2]
     rfl
   ·rw [leF (show (40:Int)<i by omega),cond_false,Wz]
    have e1:41 - i=0:=by omega
    rw [e1]
    simp
 have:=key t 0 k rfl (Nat.zero_le _) (by omega)
 rw [dA]
 simpa [adG] using this
theorem ZM (t:Tyt) (ht:Wt t):aL k t=some (t.any pF):=by
 have hlen:=ht.len
 rw [aL,aU]
 rw [PQ (F:=fun n i=>av (k+8) t n i) (l:=t) pF ?_ ?_ _ (by omega)]
 ·rw [ab,Ai]
 ·intro n
  simp only [av,Dh,cond_false]
 ·intro n i x hi hx
  simp only [av,ltN hi,cond_true,fJ hx,ab,ad4,Prod.eta]
  rw [gr (by omega)]
theorem Ii (t:Tyt) (ht:Wt t):cG k t=some (oq t):=by
 have hlen:=ht.len
 rw [cG,ZM k hk t ht,ab]
 unfold oq
 by_cases h1:t.length≤30
 ·rw [apv h1,cond_false,decide_eq_true h1]
  cases h2:t.any pF with
  | true=>rfl
  | false=>
   have h3:decide ((0:Int)≤(t.length:Int)∧(t.length:Int)≤9223372036854775807∧(t.length:Int)*1≤70368744177664)=true:=by simp;omega
   rw [h3,cond_false,cond_true]
   -- one task's kids
   have inner:∀ (x:Int×List Int) (hx:x ∈ t) (i:Nat) (hi:i<t.length) (o:Int→List Bool→Option Bool) (R:List (Int×Int)) (n0:Nat)
     (ho:∀ had:Zc t.length,o ((i+1:Nat):Int) had.1=some (DL (fZ t.length) R had).1),
     ∀ r j n (had:Zc t.length),x.2.drop j=r→r.length<n →
      dl k t o n x.2 (x.2.length:Int) (j:Int) had.1 (i:Int)=some (DL (fZ t.length) (r.map (fun q=>(q,(i:Int)))++R) had).1:=by
    intro x hx i hi o R n0 ho r
    have hxl:=ht.kids x hx
    induction r with
    | nil=>
     intro j n had hr hn
     obtain ⟨n,rfl⟩:=gS hn
     have hj:=cV hr
     rw [dl,ltF (by omega),cond_false,gr (by omega),ho]
     rfl
    | cons q r ih=>
     intro j n had hr hn
     obtain ⟨n,rfl⟩:=gS hn
     obtain ⟨a,b,c,d,e⟩:=bW hr
     have hb:=had.2
     rw [dl,ltN a,cond_true,fJ b,ab,List.map_cons,List.cons_append,DL]
     by_cases h1:q≤(i:Int)
     ·rw [leT h1,cond_true]
      simp [fZ,Av,leT h1]
     ·rw [leF (show (i:Int)<q by omega),cond_false]
      by_cases h2:(t.length:Int)≤q
      ·rw [leT h2,cond_true]
       simp [fZ,Av,leT h2]
      ·rw [leF (show q<(t.length:Int) by omega),cond_false]
       have h5:decide ((0:Int)≤q∧q.toNat<t.length)=true:=by simp;omega
       have h3:q.toNat<had.1.length:=by rw [hb];omega
       have h4:had.1[q.toNat]? = some had.1[q.toNat]:=List.getElem?_eq_getElem h3
       rw [h5,cond_true,h4,ab,cond_true,ab,gr (by omega)]
       cases hh:had.1[q.toNat] with
       | true=>simp [fZ,Av,leF (show (i:Int)<q by omega),leF (show q<(t.length:Int) by omega),h4,hh]
       | false=>
        rw [cond_false]
        have e1:fZ t.length had (q,(i:Int))=(true,⟨had.1.set q.toNat true,by simp [had.2]⟩):=by
         simp [fZ,Av,leF (show (i:Int)<q by omega),leF (show q<(t.length:Int) by omega),h4,hh]
        rw [e1]
        simp only [if_true]
        exact ih (j+1) n ⟨had.1.set q.toNat true,by simp [had.2]⟩ c (by simp only [List.length_cons] at hn;omega)
   have outer:∀ r i n (had:Zc t.length),t.drop i=r→i≤t.length→r.length<n→cd k t n (i:Int) had.1=some (DL (fZ t.length) (fC i r) had).1:=by
    intro r
    induction r with
    | nil=>
     intro i n had hr hi hn
     obtain ⟨n,rfl⟩:=gS hn
     have:=cV hr
     rw [cd,ltF (by omega),cond_false]
     rfl
    | cons x r ih=>
     intro i n had hr hi hn
     obtain ⟨n,rfl⟩:=gS hn
     obtain ⟨a,b,c,d,e⟩:=bW hr
     have hxl:=ht.kids x d
     rw [cd,ltN a,cond_true,fJ b,ab,fC]
     have:=inner x d i a (fun s47 s56=>cd k t n s47 s56) (fC (i+1) r) n (fun had=>ih (i+1) n had c (by omega) (by simp only [List.length_cons] at hn;omega)) x.2 0 (k+17) had rfl (by omega)
     simpa using this
   have:=outer t 0 (k+17) (Jt t.length) rfl (Nat.zero_le _) (by omega)
   simpa [Jt] using this
 ·rw [ape (by omega),cond_true,decide_eq_false h1]
  rfl
end
end Go.Ab
set_option linter.unusedVariables false
namespace Go.Ab
theorem ip (z:Int):IntKind.u64.wrap z=z%18446744073709551616:=by simp [IntKind.wrap,IntKind.bits,IntKind.signed]
theorem Ld {c:CF} {x:Int} (h0:0≤x) (h1:x≤18446744073709551615):iC c x=some (mr c x):=by
 unfold iC mr
 simp only [Prod.eta,gL,ab]
 cases hm:cY c with
 | false=>rfl
 | true=>
  have hc:=aA hm
  have hi:IntKind.u64.wrap c.2.2.1=c.2.2.1:=lM (by omega) (by omega)
  have h3:=Int.emod_lt_of_pos x (show 0<c.2.2.1 by omega)
  have h4:=Int.emod_nonneg x (show c.2.2.1≠0 by omega)
  have e1:IntKind.i64.wrap (c.1 - 1)=c.1 - 1:=by rw [IntKind.wrap_i64];omega
  rw [Bool.not_true,cond_false,XP,ab,e1,decide_eq_true (by omega),Bool.not_true,cond_false,hi,Hl,decide_eq_false (by omega),Bool.not_false,cond_true,if_pos rfl,Int.tmod_eq_emod_of_nonneg h0]
  have e2:IntKind.i64.wrap (x%c.2.2.1)=x%c.2.2.1:=by rw [IntKind.wrap_i64];omega
  rw [e2,IntKind.wrap_i64]
  congr 1
  omega
theorem Wv {c:CF} {x:Int} (h0:0≤x) (h1:x≤18446744073709551615):mB c x=some (BL c x):=by
 unfold mB BL
 simp only [Prod.eta,gL,ab]
 cases hm:cY c with
 | false=>rfl
 | true=>
  have hc:=aA hm
  have hi:IntKind.u64.wrap c.2.2.1=c.2.2.1:=lM (by omega) (by omega)
  have h3:=Int.emod_lt_of_pos x (show 0<c.2.2.1 by omega)
  have h4:=Int.emod_nonneg x (show c.2.2.1≠0 by omega)
  have e1:IntKind.i64.wrap (c.1 - 1)=c.1 - 1:=by rw [IntKind.wrap_i64];omega
  rw [Bool.not_true,cond_false,XP,ab,e1,decide_eq_true (by omega),Bool.not_true,cond_false,hi,Hl,decide_eq_false (by omega),Bool.not_false,cond_true,if_pos rfl,Int.tmod_eq_emod_of_nonneg h0]
  have e2:IntKind.i64.wrap (x%c.2.2.1)=x%c.2.2.1:=by rw [IntKind.wrap_i64];omega
  have e3:IntKind.i64.wrap (6+c.2.2.1)=6+c.2.2.1:=by rw [IntKind.wrap_i64];omega
  rw [e2,e3,IntKind.wrap_i64]
  congr 1
  omega
theorem Qg {c:CF} {x:Int} (hm:cY c=true) (h0:0≤x) (h1:x≤18446744073709551615):IntKind.u64.wrap (IntKind.u64.wrap (x.tdiv (IntKind.u64.wrap c.2.2.1))*2)=B7 c x:=by
 have hc:=aA hm
 have hi:IntKind.u64.wrap c.2.2.1=c.2.2.1:=lM (by omega) (by omega)
 have h3:0≤x/c.2.2.1:=Int.ediv_nonneg h0 (by omega)
 have h4:x/c.2.2.1≤x:=Int.ediv_le_self _ h0
 rw [hi,Int.tdiv_eq_ediv_of_nonneg h0,lM h3 (by omega),ip]
 rfl
theorem Be (a b:Int):IntKind.u64.wrap (a+b)=eY a b:=by rw [ip];rfl
theorem gz (a b:Int):0≤eY a b∧eY a b≤18446744073709551615:=by unfold eY;omega
theorem ne0 {c:CF} (hm:cY c=true):(IntKind.u64.wrap c.2.2.1 !=0)=true:=by
 have hc:=aA hm
 rw [lM (by omega) (by omega),Hl,decide_eq_false (by omega)]
 rfl
theorem VD {c:CF} {x:Int} (hm:cY c=true) (h0:0≤x) (h1:x≤18446744073709551615):kA c x=some (BY c x):=by
 unfold kA BY
 rw [ne0 hm,cond_true,Qg hm h0 h1,Be]
theorem NK (a b:Int):fq a b=some (uq a b):=rfl
theorem OB (c:CF) (m:List Int) (f:FR) (op:Int):kD c m f op=some (oX c m f op):=by
 unfold kD oG oX
 simp only [Prod.eta,gL,Dt,ng,ab]
 cases hm:cY c with
 | false=>rfl
 | true=>
  rw [cond_true,ab,ni,Bool.true_and]
  by_cases h1:(m.length:Int)=bG c
  ·rw [decide_eq_true h1,cond_true,Bool.true_and]
   unfold d9
   rw [Hl,Bool.not_not,ni]
   by_cases h2:f.2.2.2.2.2.2=0
   ·rw [decide_eq_true h2,cond_true]
    by_cases h3:f.1=op
    ·rw [decide_eq_true h3,cond_true]
     by_cases h4:0≤f.2.1
     ·rw [leT h4,cond_true]
      congr 1
      simp [h2,h3,h4]
     ·rw [leF (by omega),cond_false]
      simp [h4]
    ·rw [decide_eq_false h3,cond_false]
     simp [h3]
   ·rw [decide_eq_false h2,cond_false]
    simp [h2]
  ·rw [decide_eq_false h1,cond_false]
   rfl
theorem Kp {c:CF} {m:List Int} {f:FR} {op:Int} (h:oX c m f op=true):cY c=true∧(m.length:Int)=bG c∧f.2.2.2.2.2.2=0∧f.1=op∧0≤f.2.1∧f.2.1<5:=by
 unfold oX at h
 rw [Bool.and_eq_true,Bool.and_eq_true,decide_eq_true_eq,decide_eq_true_eq] at h
 exact ⟨h.1.1,h.1.2,h.2⟩
theorem Pv (c:CF) {m:List Int} (hm:Wm m) (hl:m.length≤1000) {f:FR} (hf:Wf f):lW c m f=some (iI c m f):=by
 unfold lW iI
 try simp only [Prod.eta]
 rw [bM (by omega),ab,OB,ab]
 cases h:oX c m f 3 with
 | false=>rfl
 | true=>
  obtain ⟨hmay,_,h6,h0,h1,h1'⟩:=Kp h
  rw [Bool.not_true,cond_false,if_neg (by simp)]
  obtain ⟨a0,a1,a2,a3,a4,a5,a6⟩:=f
  simp only at h6 h0 h1 h1' ⊢
  have e:decide (0≤a1∧a1.toNat<5)=true:=by rw [decide_eq_true_eq];omega
  rw [e,cond_true]
  obtain ⟨w3,w4,w5⟩:=hf
  simp only at w3 w4 w5
  rcases (show a1=0∨a1=1∨a1=2∨a1=3∨a1=4 by omega) with rfl | rfl | rfl | rfl | rfl
  ·simp [fh,ab]
  ·simp only [Ld w4.1 w4.2,fh,ab,ne0 hmay,Qg hmay w4.1 w4.2,NK,i9,ni,cond_true]
   by_cases h5:ah m (mr c a4)=B7 c a4
   ·simp [h5]
   ·by_cases h7:uq (ah m (mr c a4)) (B7 c a4)<0
    ·simp [h5,h7,eN]
    ·simp [h5,h7]
  ·simp only [Be,HU hl,ab]
   cases hc:(pP m 5 a4 (eY a4 1)).2 <;> simp [hc]
  ·simp only [Wv w4.1 w4.2,lg hl,ab]
   simp
  ·simp only [Ld w4.1 w4.2,ne0 hmay,Qg hmay w4.1 w4.2,Be,lg hl,ab,i9,cond_true]
   simp [eN]
theorem OV (c:CF) {m:List Int} (hm:Wm m) (hl:m.length≤1000) {f:FR} (hf:Wf f):lV c m f=some (kx c m f):=by
 unfold lV kx
 try simp only [Prod.eta]
 rw [bM (by omega),ab,OB,ab]
 cases h:oX c m f 4 with
 | false=>rfl
 | true=>
  obtain ⟨hmay,_,h6,h0,h1,h1'⟩:=Kp h
  rw [Bool.not_true,cond_false,if_neg (by simp)]
  obtain ⟨a0,a1,a2,a3,a4,a5,a6⟩:=f
  simp only at h6 h0 h1 h1' ⊢
  obtain ⟨w3,w4,w5⟩:=hf
  simp only at w3 w4 w5
  rcases (show a1=0∨a1=1∨a1=2∨a1=3∨a1=4 by omega) with rfl | rfl | rfl | rfl | rfl
  ·simp [fh,ab]
  ·simp only [Ld w4.1 w4.2,fh,ab,VD hmay w4.1 w4.2,NK,i9,ni]
   by_cases h5:uq (ah m (mr c a4)) (BY c a4)=0
   ·simp [h5]
   ·by_cases h7:uq (ah m (mr c a4)) (BY c a4)<0
    ·simp [h5,h7,eN]
    ·simp [h5,h7]
  ·simp only [Be,HU hl,ab]
   cases hc:(pP m 4 a4 (eY a4 1)).2 <;> simp [hc]
  ·simp only [Wv w4.1 w4.2,fh,ab]
   simp
  ·simp only [Ld w4.1 w4.2,VD hmay w4.1 w4.2,Be,lg hl,ab,i9]
   simp [eN]
theorem GC (c:CF) {m:List Int} (hm:Wm m) (hl:m.length≤1000) {f:FR} (hf:Wf f):bl c m f=some (BM c m f):=by
 unfold bl BM
 simp only [Prod.eta,Pv c hm hl hf,OV c hm hl hf,ab,ni]
 by_cases h3:f.1=3
 ·simp [h3]
 ·by_cases h4:f.1=4
  ·simp [h4]
  ·simp [h3,h4,bM (b:=8) (l:=m) (by omega),ab]
theorem Gu {k:Nat} (hk:1000≤k) (c:CF) {m:List Int} (hm:Wm m) (hl:m.length≤1000) {f:FR} (hf:Wf f):cf k c m f=some (Hv c m f):=by
 unfold cf Hv
 simp only [Prod.eta,Xf c hm hl hf,Zw hk c hm hl hf,ab,ni]
 by_cases h5:f.1=5
 ·rw [decide_eq_true h5,cond_true,if_pos h5]
 ·rw [decide_eq_false h5,cond_false,if_neg h5]
  by_cases h6:f.1=6
  ·rw [decide_eq_true h6,cond_true,cond_true,if_pos (.inl h6)]
  ·rw [decide_eq_false h6,cond_false]
   by_cases h7:f.1=7
   ·rw [decide_eq_true h7,cond_true,if_pos (.inr h7)]
   ·rw [decide_eq_false h7,cond_false,if_neg (by omega),bM (by omega),ab]
theorem ac7 {m:List Int} (hl:m.length≤1000) (i v:Int):dw m i v=some (if 0≤i∧i<m.length then (ao m i (eY (ah m i) v),ah m i) else (m,0)):=by
 unfold dw
 rw [bM (by omega),ab,agC,ab]
 by_cases h:0≤i∧i<m.length
 ·have hd:decide (0≤i∧i.toNat<m.length)=true:=decide_eq_true (by omega)
  rw [decide_eq_true h,Bool.not_true,cond_false,(m6 h).1,ab,hd,cond_true,(m6 h).2,ab,ab,if_pos h,Be]
  unfold ao
  rw [if_pos h.1]
 ·rw [decide_eq_false h,Bool.not_false,cond_true,if_neg h]
theorem Wu {k:Nat} (hk:9223372036854775808≤k) (c:CF) {t:Tyt} (ht:Wt t) (m:List Int) (x:SB):eP k c t m x=some (wC c t m x):=by
 unfold eP wC
 simp only [Prod.eta,gL,Dt,ab]
 rw [Ii (k+4) (by omega) t ht]
 cases hm:cY c with
 | false=>rfl
 | true=>
  rw [cond_true,ni,Bool.true_and]
  by_cases h1:(m.length:Int)=bG c
  ·rw [decide_eq_true h1,cond_true,Bool.true_and,ab]
   cases ht2:oq t with
   | false=>rfl
   | true=>
    rw [cond_true,Bool.true_and]
    by_cases h2:0≤x.1
    ·rw [leT h2,cond_true]
     by_cases h3:x.1<6
     ·rw [ltT h3,cond_true]
      cases hl:x.2.1 with
      | nil=>simp
      | cons r rest=>
       have h0:idx (r::rest) 0=some r:=rfl
       rw [ltT (by simp),cond_true,h0,ab,ab]
       by_cases h4:0≤r
       ·rw [leT h4,cond_true]
        congr 1
        simp [h2,h3,eL,h4]
       ·rw [leF (by omega),cond_false]
        simp [eL,h4]
     ·rw [ltF (by omega),cond_false]
      simp [h3]
    ·rw [leF (by omega),cond_false]
     simp [h2]
  ·rw [decide_eq_false h1,cond_false]
   rfl
theorem AR {c:CF} {t:Tyt} {m:List Int} {x:SB} (h:wC c t m x=true):cY c=true∧(m.length:Int)=bG c∧oq t=true∧0≤x.1∧x.1<6∧∃ r rest,x.2.1=r::rest∧0≤r∧r<t.length:=by
 unfold wC at h
 simp only [Bool.and_eq_true,decide_eq_true_eq] at h
 obtain ⟨⟨⟨h1,h2⟩,h3⟩,h4,h5,h6,h7,h8⟩:=h
 cases hx:x.2.1 with
 | nil=>exact absurd hx h6
 | cons r rest=>
  rw [hx] at h7 h8
  exact ⟨h1,h2,h3,h4,h5,r,rest,rfl,h7,h8⟩
theorem rU {c:CF} (h:cY c=true):12≤bG c∧bG c≤190:=by
 have hm:=aA h
 have:=dG h (w:=c.1) (by omega) (by omega)
 unfold bG
 rw [if_pos h]
 have e:wY c c.1=6+2*c.2.2.1+c.1*(3+c.2.1):=rfl
 have h3:1*(3+c.2.1)≤c.1*(3+c.2.1):=Int.mul_le_mul_of_nonneg_right (by omega) (by omega)
 omega
theorem YP {k:Nat} (hk:9223372036854775808≤k) (c:CF) {t:Tyt} (ht:Wt t) {m:List Int} (hm:Wm m) (hl:m.length≤1000) (i:Int) {x:SB} (hf:Wf x.2.2) (hr:x.2.1.length≤1000) (ht2:t.length≤1000):fl k c t m i x=some (fH c t m i x):=by
 unfold fl fH
 try simp only [Prod.eta]
 rw [bM (by omega),ab,bM (by omega),ab,Wu (by omega) c ht,ab]
 cases hmay:wC c t m x with
 | false=>rfl
 | true=>
  rw [Bool.not_true,cond_false,if_neg (by simp)]
  obtain ⟨h1,h2,h3,h4,h5,r,rest,hx,h6,h7⟩:=AR hmay
  have hsz:=rU h1
  obtain ⟨pc,roots,F⟩:=x
  simp only at hx h4 h5 hf hr ⊢
  subst hx
  have hi0:idx (r::rest) 0=some r:=rfl
  have hroom:room 1 24=true:=rfl
  have hroom2:room 2 24=true:=rfl
  have hd:decide ((1:Int)≤((r::rest).length:Int))=true:=decide_eq_true (by simp;omega)
  have hdr:List.drop (Int.toNat 1) (r::rest)=rest:=rfl
  have hh:eL (r::rest)=r:=rfl
  have hur:IntKind.u64.wrap r=r:=lM h6 (by omega)
  have htl:(r::rest).tail=rest:=rfl
  rw [hi0,ab]
  simp only [GC c hm hl hf,Gu (k:=k+20) (by omega) c hm hl hf,fh,ac7 hl,ab,ng,ZG,hroom,hroom2,hd,hdr,hh,htl,cond_true,hur,ni,Hl]
  have hb:∀ op w v:Int,aF op w v=some (op,0,w,v,0,0,0):=fun _ _ _=>rfl
  simp only [hb,ab]
  have hin:(0:Int)≤0∧(0:Int)<m.length:=by omega
  have hcall:iS c m F=if F.1=3∨F.1=4 then BM c m F else Hv c m F:=rfl
  rcases (show pc=0∨pc=1∨pc=2∨pc=3∨pc=4∨pc=5 by omega) with rfl | rfl | rfl | rfl | rfl | rfl
  ·by_cases h:ah m 3=0
   ·simp [h]
   ·simp [h,dc]
  ·simp only [if_pos hin]
   simp
  ·by_cases e3:F.1=3
   ·have ec:iS c m F=BM c m F:=by rw [hcall,if_pos (.inl e3)]
    rw [ec]
    cases ho:d9 (BM c m F).2 with
    | false=>simp [e3,ho]
    | true=>
     by_cases h8:(BM c m F).2.2.2.2.2.2.2=2
     ·simp [e3,ho,h8]
     ·simp [e3,ho,h8]
   ·by_cases e4:F.1=4
    ·have ec:iS c m F=BM c m F:=by rw [hcall,if_pos (.inr e4)]
     rw [ec]
     cases ho:d9 (BM c m F).2 with
     | false=>simp [e4,ho]
     | true=>
      by_cases h8:(BM c m F).2.2.2.2.2.2.2=2
      ·simp [e4,ho,h8]
      ·simp [e4,ho,h8]
    ·have ec:iS c m F=Hv c m F:=by rw [hcall,if_neg (by omega)]
     rw [ec]
     cases ho:d9 (Hv c m F).2 with
     | false=>simp [e3,e4,ho]
     | true=>
      by_cases h8:(Hv c m F).2.2.2.2.2.2.2=2
      ·simp [e3,e4,ho,h8]
      ·simp [e3,e4,ho,h8]
  ·by_cases h:ah m 1=0
   ·simp [h]
   ·simp [h,dc]
  ·by_cases e3:F.1=3
   ·have ec:iS c m F=BM c m F:=by rw [hcall,if_pos (.inl e3)]
    rw [ec]
    cases ho:d9 (BM c m F).2 with
    | false=>simp [e3,ho]
    | true=>simp [e3,ho,dc]
   ·by_cases e4:F.1=4
    ·have ec:iS c m F=BM c m F:=by rw [hcall,if_pos (.inr e4)]
     rw [ec]
     cases ho:d9 (BM c m F).2 with
     | false=>simp [e4,ho]
     | true=>simp [e4,ho,dc]
    ·have ec:iS c m F=Hv c m F:=by rw [hcall,if_neg (by omega)]
     rw [ec]
     cases ho:d9 (Hv c m F).2 with
     | false=>simp [e3,e4,ho]
     | true=>simp [e3,e4,ho,dc]
  ·simp only [if_pos hin]
   by_cases h:ah m 0=1
   ·simp [h,dc,hroom2]
   ·simp [h,dc]
end Go.Ab
set_option linter.unusedVariables false
namespace Go.Ab
def onW (c:CF) (w x:Int):Int:=if cY c=true∧0≤w∧w<c.1 then wY c w+x else -1
def Hn (c:CF) (w:Int):Int:=onW c w 0
def IP (c:CF) (w:Int):Int:=onW c w 1
def pD (c:CF) (w x:Int):Int:=onW c w (3+wT .u64 x (c.2.1 - 1))
def Rb (a b:Int):Int:=(a - b)%18446744073709551616
def er (c:CF) (m:List Int) (f:FR):List Int×FR:=
 if rE c m f 0 4=false then (m,f)
 else if f.2.1=0 then (m,f.1,1,f.2.2.1,f.2.2.2.1,ah m (IP c f.2.2.1),f.2.2.2.2.2)
 else if f.2.1=1 then (if c.2.1≤Rb f.2.2.2.2.1 (ah m (Hn c f.2.2.1)) then (m,eN f 2 f.2.2.2.1) else (m,f.1,2,f.2.2.1,f.2.2.2.1,f.2.2.2.2.1,ah m (Hn c f.2.2.1),f.2.2.2.2.2.2))
 else if f.2.1=2 then (ao m (pD c f.2.2.1 f.2.2.2.2.1) f.2.2.2.1,f.1,3,f.2.2)
 else (ao m (IP c f.2.2.1) (eY f.2.2.2.2.1 1),eN f 1 f.2.2.2.1)
def iK (c:CF) (m:List Int) (f:FR):List Int×FR:=
 if rE c m f 1 7=false then (m,f)
 else if f.2.1=0 then (m,f.1,1,f.2.2.1,f.2.2.2.1,Rb (ah m (IP c f.2.2.1)) 1,f.2.2.2.2.2)
 else if f.2.1=1 then (ao m (IP c f.2.2.1) f.2.2.2.2.1,f.1,2,f.2.2)
 else if f.2.1=2 then (m,f.1,if uq f.2.2.2.2.1 (ah m (Hn c f.2.2.1))<0 then 6 else 3,f.2.2.1,f.2.2.2.1,f.2.2.2.2.1,ah m (Hn c f.2.2.1),f.2.2.2.2.2.2)
 else if f.2.1=3 then (if f.2.2.2.2.1≠f.2.2.2.2.2.1 then (m,eN f 1 (ah m (pD c f.2.2.1 f.2.2.2.2.1))) else (m,f.1,4,f.2.2.1,ah m (pD c f.2.2.1 f.2.2.2.2.1),f.2.2.2.2))
 else if f.2.1=4 then (let r:=pP m (Hn c f.2.2.1) f.2.2.2.2.2.1 (eY f.2.2.2.2.2.1 1);(r.1,f.1,if r.2=true then 5 else 6,f.2.2))
 else if f.2.1=5 then (ao m (IP c f.2.2.1) (eY f.2.2.2.2.1 1),eN f 1 f.2.2.2.1)
 else (ao m (IP c f.2.2.1) (eY f.2.2.2.2.1 1),eN f 3 0)
def a9 (c:CF) (m:List Int) (f:FR):List Int×FR:=
 if rE c m f 2 4=false then (m,f)
 else if f.2.1=0 then (m,f.1,1,f.2.2.1,f.2.2.2.1,f.2.2.2.2.1,ah m (Hn c f.2.2.1),f.2.2.2.2.2.2)
 else if f.2.1=1 then (if uq (ah m (IP c f.2.2.1)) f.2.2.2.2.2.1≤0 then (m,eN f 3 0) else (m,f.1,2,f.2.2.1,f.2.2.2.1,ah m (IP c f.2.2.1),f.2.2.2.2.2))
 else if f.2.1=2 then (m,f.1,3,f.2.2.1,ah m (pD c f.2.2.1 f.2.2.2.2.2.1),f.2.2.2.2)
 else (let r:=pP m (Hn c f.2.2.1) f.2.2.2.2.2.1 (eY f.2.2.2.2.2.1 1);if r.2=true then (r.1,eN f 1 f.2.2.2.1) else (r.1,eN f 4 0))
def B3 (c:CF) (m:List Int) (f:FR):List Int×FR:=if f.1=0 then er c m f else if f.1=1 then iK c m f else if f.1=2 then a9 c m f else (m,f)
def dq (c:CF) (m:List Int) (f:FR):List Int×FR:=if f.1=0∨f.1=1∨f.1=2 then B3 c m f else iS c m f
theorem af9 (a b:Int):IntKind.u64.wrap (a - b)=Rb a b:=by rw [ip];rfl
theorem Td (a b:Int):0≤Rb a b∧Rb a b≤18446744073709551615:=by unfold Rb;omega
theorem ET {x D:Int} (h0:0≤x) (h1:x≤18446744073709551615) (hD:1≤D) (hE:D≤16):0≤wT .u64 x (D - 1)∧wT .u64 x (D - 1)≤D - 1:=by
 obtain ⟨a,rfl⟩:=Int.eq_ofNat_of_zero_le h0
 obtain ⟨b,hb⟩:∃ b:Nat,D - 1=(b:Int):=⟨(D - 1).toNat,by omega⟩
 rw [hb,Rs (by omega) (by omega)]
 have:=Nat.and_le_right (n:=a) (m:=b)
 omega
theorem Tt (c:CF) (w:Int):iD c w=some (Hn c w):=by
 unfold iD Hn onW
 try simp only [Prod.eta]
 rw [gL,ab]
 cases h:cY c with
 | false=>simp
 | true=>
  have hm:=aA h
  rw [Bool.not_true,cond_false,dM (by omega),XP,ab]
  by_cases h1:0≤w∧w≤c.1 - 1
  ·have ht:=dG h h1.1 (by omega)
   rw [decide_eq_true h1,Bool.not_true,cond_false,F5 h (by omega) (by omega),ab,if_pos ⟨rfl,by omega,by omega⟩,Int.add_zero]
  ·rw [decide_eq_false h1,Bool.not_false,cond_true,if_neg (by omega)]
theorem O9 (c:CF) (w:Int):dC c w=some (IP c w):=by
 unfold dC IP onW
 try simp only [Prod.eta]
 rw [gL,ab]
 cases h:cY c with
 | false=>simp
 | true=>
  have hm:=aA h
  rw [Bool.not_true,cond_false,dM (by omega),XP,ab]
  by_cases h1:0≤w∧w≤c.1 - 1
  ·have ht:=dG h h1.1 (by omega)
   rw [decide_eq_true h1,Bool.not_true,cond_false,F5 h (by omega) (by omega),ab,dM (by omega),if_pos ⟨rfl,by omega,by omega⟩]
  ·rw [decide_eq_false h1,Bool.not_false,cond_true,if_neg (by omega)]
theorem OM (c:CF) (w:Int) {x:Int} (h0:0≤x) (hx:x≤18446744073709551615):f5 c w x=some (pD c w x):=by
 unfold f5 pD onW
 try simp only [Prod.eta]
 rw [gL,ab]
 cases h:cY c with
 | false=>simp
 | true=>
  have hm:=aA h
  rw [Bool.not_true,cond_false,dM (z:=c.1 - 1) (by omega),XP,ab]
  by_cases h1:0≤w∧w≤c.1 - 1
  ·have ht:=dG h h1.1 (by omega)
   have ha:=ET h0 hx (show 1≤c.2.1 by omega) (by omega)
   rw [decide_eq_true h1,Bool.not_true,cond_false,F5 h (by omega) (by omega),ab,if_pos ⟨rfl,by omega,by omega⟩,dM (z:=c.2.1 - 1) (by omega),lM (z:=c.2.1 - 1) (by omega) (by omega),dM (z:=wT .u64 x (c.2.1 - 1)) (by omega),dM (z:=wY c w+3) (by omega),dM (by omega),Int.add_assoc]
  ·rw [decide_eq_false h1,Bool.not_false,cond_true,if_neg (by omega)]
section
variable (k:Nat) (c:CF) (m:List Int) (a2 a3 a4 a5:Int) (n:Nat) {x:List Int} (p q:Int)
theorem af0:an k c m (2,1,a2,a3,a4,a5,0) (n+1) x p q 0=an k c m (2,1,a2,a3,a4,a5,0) n x p q 1:=by
 rw [an]
 rfl
theorem adJ:an k c m (2,2,a2,a3,a4,a5,0) (n+1) x p q 0=an k c m (2,2,a2,a3,a4,a5,0) n x p q 1:=by
 rw [an]
 rfl
theorem afm:an k c m (2,2,a2,a3,a4,a5,0) (n+1) x p q 1=an k c m (2,2,a2,a3,a4,a5,0) n x p q 2:=by
 rw [an]
 rfl
theorem aeQ:an k c m (2,3,a2,a3,a4,a5,0) (n+1) x p q 0=an k c m (2,3,a2,a3,a4,a5,0) n x p q 1:=by
 rw [an]
 rfl
theorem adp:an k c m (2,3,a2,a3,a4,a5,0) (n+1) x p q 1=an k c m (2,3,a2,a3,a4,a5,0) n x p q 2:=by
 rw [an]
 rfl
theorem afJ:an k c m (2,3,a2,a3,a4,a5,0) (n+1) x p q 2=an k c m (2,3,a2,a3,a4,a5,0) n x p q 3:=by
 rw [an]
 rfl
theorem abW:an k c m (2,0,a2,a3,a4,a5,0) (n+1) x p q 0=some (x,(2,1,a2,a3,a4,ah x p,0)):=by
 have e:an k c m (2,0,a2,a3,a4,a5,0) (n+1) x p q 0=ob (aE x p) fun r=>some (x,(2,1,a2,a3,a4,r,0)):=by
  rw [an]
  rfl
 rw [e,fh,ab]
theorem ae1:an k c m (2,1,a2,a3,a4,a5,0) (n+1) x p q 1=some (if uq (ah x q) a5≤0 then (x,(2,0,a2,0,0,0,3)) else (x,(2,2,a2,a3,ah x q,a5,0))):=by
 have e:an k c m (2,1,a2,a3,a4,a5,0) (n+1) x p q 1=ob (aE x q) fun r=>ob (fq r a5) fun y=>bif decide (y≤0) then some (x,(2,0,a2,0,0,0,3)) else some (x,(2,2,a2,a3,r,a5,0)):=by
  rw [an]
  rfl
 rw [e,fh,ab,NK,ab]
 by_cases h:uq (ah x q) a5≤0
 ·rw [leT h,cond_true,if_pos h]
 ·rw [leF (by omega),cond_false,if_neg h]
theorem afR (h0:0≤a5) (h1:a5≤18446744073709551615):an k c m (2,2,a2,a3,a4,a5,0) (n+1) x p q 2=some (x,(2,3,a2,ah x (pD c a2 a5),a4,a5,0)):=by
 have e:an k c m (2,2,a2,a3,a4,a5,0) (n+1) x p q 2=ob (f5 c a2 a5) fun s=>ob (aE x s) fun r=>some (x,(2,3,a2,r,a4,a5,0)):=by
  rw [an]
  rfl
 rw [e,OM c a2 h0 h1,ab,fh,ab]
theorem acB (hl:x.length≤1000):an k c m (2,3,a2,a3,a4,a5,0) (n+1) x p q 3=some (if (pP x p a5 (eY a5 1)).2=true then ((pP x p a5 (eY a5 1)).1,(2,0,a2,a3,0,0,1)) else ((pP x p a5 (eY a5 1)).1,(2,0,a2,0,0,0,4))):=by
 have e:an k c m (2,3,a2,a3,a4,a5,0) (n+1) x p q 3=ob (dx x p a5 (IntKind.u64.wrap (a5+1))) fun r=>bif r.2 then some (r.1,(2,0,a2,a3,0,0,1)) else some (r.1,(2,0,a2,0,0,0,4)):=by
  rw [an]
  rfl
 rw [e,Be,HU hl,ab]
 cases (pP x p a5 (eY a5 1)).2 <;> rfl
end
section
variable (c:CF) {m:List Int} (hm:Wm m) (hl:m.length≤1000) {f:FR} (hf:Wf f)
include hm hl hf
theorem Ns:kQ c m f=some (er c m f):=by
 have _h:=hm
 unfold kQ er
 try simp only [Prod.eta]
 rw [bM (by omega),ab,J4,ab]
 cases h:rE c m f 0 4 with
 | false=>rfl
 | true=>
  obtain ⟨hmay,_,h6,h2,h2',h0,h1,h1'⟩:=D6 h
  have hc:=aA hmay
  rw [cond_true,if_neg (by simp)]
  obtain ⟨a0,a1,a2,a3,a4,a5,a6⟩:=f
  simp only at h6 h2 h2' h0 h1 h1' ⊢
  obtain ⟨w3,w4,w5⟩:=hf
  simp only at w3 w4 w5
  rcases (show a1=0∨a1=1∨a1=2∨a1=3 by omega) with rfl | rfl | rfl | rfl
  ·simp [O9,fh,ab]
  ·simp only [Tt,fh,ab,i9,af9,lM (z:=c.2.1) (by omega) (by omega)]
   by_cases h5:c.2.1≤Rb a4 (ah m (Hn c a2))
   ·simp [h5,eN]
   ·simp [h5]
  ·simp only [OM c a2 w4.1 w4.2,lg hl,ab]
   simp
  ·simp only [O9,lg hl,ab,i9,Be]
   simp [eN]
theorem Om:ml c m f=some (iK c m f):=by
 have _h:=hm
 unfold ml iK
 try simp only [Prod.eta]
 rw [bM (by omega),ab,J4,ab]
 cases h:rE c m f 1 7 with
 | false=>rfl
 | true=>
  obtain ⟨hmay,_,h6,h2,h2',h0,h1,h1'⟩:=D6 h
  rw [Bool.not_true,cond_false,if_neg (by simp)]
  obtain ⟨a0,a1,a2,a3,a4,a5,a6⟩:=f
  simp only at h6 h2 h2' h0 h1 h1' ⊢
  obtain ⟨w3,w4,w5⟩:=hf
  simp only at w3 w4 w5
  rw [Tt,ab,O9,ab]
  have hw:∀ z:Int,0≤z→z≤100→IntKind.i64.wrap (z+1)=z+1:=fun z _ _=>dM (by omega)
  rcases (show a1=0∨a1=1∨a1=2∨a1=3∨a1=4∨a1=5∨a1=6 by omega) with rfl | rfl | rfl | rfl | rfl | rfl | rfl
  ·rw [hw 0 (by decide) (by decide)]
   simp [fh,ab,af9]
  ·rw [hw 1 (by decide) (by decide)]
   simp [lg hl,ab]
  ·rw [hw 2 (by decide) (by decide)]
   simp only [fh,ab,NK]
   by_cases h5:uq a4 (ah m (Hn c a2))<0
   ·simp [h5]
   ·simp [h5]
  ·rw [hw 3 (by decide) (by decide)]
   simp only [OM c a2 w4.1 w4.2,fh,ab,i9,Hl]
   by_cases h5:a4=a5
   ·simp [h5]
   ·simp [h5,eN]
  ·rw [hw 4 (by decide) (by decide)]
   simp only [Be,HU hl,ab]
   cases hc:(pP m (Hn c a2) a5 (eY a5 1)).2 <;> simp [hc]
  ·simp only [Be,lg hl,ab,i9]
   simp [eN]
  ·simp only [Be,lg hl,ab,i9]
   simp [eN]
theorem Jf (k:Nat):iA k c m f=some (a9 c m f):=by
 have _h:=hm
 unfold iA a9
 try simp only [Prod.eta]
 rw [bM (by omega),ab,J4,ab]
 cases h:rE c m f 2 4 with
 | false=>rfl
 | true=>
  obtain ⟨hmay,_,h6,h2,h2',h0,h1,h1'⟩:=D6 h
  rw [Bool.not_true,cond_false,if_neg (by simp)]
  obtain ⟨a0,a1,a2,a3,a4,a5,a6⟩:=f
  simp only at h6 h2 h2' h0 h1 h1' ⊢
  obtain ⟨w3,w4,w5⟩:=hf
  simp only at w3 w4 w5
  subst h6
  subst h0
  rw [Tt,ab,O9,ab]
  rcases (show a1=0∨a1=1∨a1=2∨a1=3 by omega) with rfl | rfl | rfl | rfl
  ·rw [if_pos rfl]
   exact abW k c m a2 a3 a4 a5 (k+22) _ _
  ·rw [if_neg (by decide),if_pos rfl]
   exact (af0 k c m a2 a3 a4 a5 (k+22) _ _).trans (ae1 k c m a2 a3 a4 a5 (k+21) _ _)
  ·rw [if_neg (by decide),if_neg (by decide),if_pos rfl]
   exact (adJ k c m a2 a3 a4 a5 (k+22) _ _).trans ((afm k c m a2 a3 a4 a5 (k+21) _ _).trans (afR k c m a2 a3 a4 a5 (k+20) _ _ w5.1 w5.2))
  ·rw [if_neg (by decide),if_neg (by decide),if_neg (by decide)]
   exact (aeQ k c m a2 a3 a4 a5 (k+22) _ _).trans ((adp k c m a2 a3 a4 a5 (k+21) _ _).trans ((afJ k c m a2 a3 a4 a5 (k+20) _ _).trans (acB k c m a2 a3 a4 a5 (k+19) _ _ hl)))
theorem LZ (k:Nat):fb k c m f=some (B3 c m f):=by
 unfold fb B3
 simp only [Prod.eta,Ns c hm hl hf,Om c hm hl hf,Jf c hm hl hf,ab,ni]
 by_cases h0:f.1=0
 ·simp [h0]
 ·by_cases h1:f.1=1
  ·simp [h1]
  ·by_cases h2:f.1=2
   ·simp [h2]
   ·simp [h0,h1,h2,bM (b:=8) (l:=m) (by omega),ab]
end
end Go.Ab
set_option maxRecDepth 100000
set_option linter.unusedVariables false
namespace Go.Ab
structure FwT (t:Tyt):Prop where
 len:t.length≤40
 kids:∀ x ∈ t,x.2.length≤40
theorem adi {t:Tyt} (h:adG t=true):FwT t:=by
 simp only [adG,Bool.and_eq_true,decide_eq_true_eq,List.all_eq_true] at h
 refine ⟨h.2,fun x hx=>h.1 x ?_⟩
 rwa [List.take_of_length_le (by omega)]
theorem FwT.wt {t:Tyt} (h:FwT t):Wt t:=⟨by have:=h.len;omega,fun x hx=>by have:=h.kids x hx;omega⟩
def mV (t:Tyt) (q:Int):Int×List Int:=(t[q.toNat]?).getD (0,[])
def F0 (t:Tyt) (x:Int×Int×Int):Bool:=
 decide (0≤x.1)&&decide (x.1<t.length)&&(decide (0≤x.2.1)&&decide (x.2.1≤(mV t x.1).1))&&(decide (0≤x.2.2)&&decide (x.2.2≤((mV t x.1).2.length:Int))) &&
  !(decide (x.2.1<(mV t x.1).1)&&decide (0<x.2.2))
def cy (t:Tyt) (s:Tye):Bool:=oq t&&s.all (F0 t)
theorem QH {t:Tyt} {q:Int} (h0:0≤q) (h1:q<t.length):idx t q=some (mV t q):=by
 rw [idx,if_pos h0,mV,List.getElem?_eq_getElem (by omega)]
 rfl
theorem Ec {t:Tyt} {q:Int} (h0:0≤q) (h1:q<t.length):mV t q ∈ t:=by
 rw [mV,List.getElem?_eq_getElem (show q.toNat<t.length by omega)]
 exact List.getElem_mem _
theorem OY {α:Type} (b:Nat) (l:List α) (h:l.length*b≤70368744177664):aK b l=some l:=by
 unfold aK
 rw [ani,decide_eq_true h,cq]
theorem ad9 (a b:Int):gb a b=some (decide (0≤a)&&decide (a≤b)):=by
 rw [gb]
 cases decide ((0:Int)≤a) <;> rfl
section
variable (k:Nat) (hk:9223372036854775808≤k)
include hk
theorem Qc (t:Tyt) (ht:Wt t) (s:Tye) (hs:s.length≤9223372036854775807):fU k t s=some (cy t s):=by
 have hlen:=ht.len
 rw [fU,Ii k hk t ht,ab,cy]
 cases hm:oq t with
 | false=>rfl
 | true=>
  have h30:=HY hm
  rw [cond_true,PQ (F:=fun n i=>bQ k n s (s.length:Int) t i) (l:=s) (fun x => !F0 t x) ?_ ?_ _ (by omega),ab,Ai]
  ·rw [List.all_eq_not_any_not,Bool.true_and]
  ·intro n
   simp only [bQ,Dh,cond_false]
  ·intro n i x hi hx
   simp only [bQ,ltN hi,cond_true,fJ hx,ab,ad9]
   rw [gr (by omega),dM (z:=(t.length:Int) - 1) (by omega)]
   have e0:decide (x.1≤(t.length:Int) - 1)=decide (x.1<(t.length:Int)):=by
    by_cases h:x.1<(t.length:Int)
    ·rw [decide_eq_true h,decide_eq_true (by omega)]
    ·rw [decide_eq_false h,decide_eq_false (by omega)]
   rw [e0]
   unfold F0
   by_cases h0:0≤x.1
   ·by_cases h1:x.1<(t.length:Int)
    ·rw [leT h0,ltT h1,QH h0 h1,ab]
     simp only [Bool.and_self,Bool.not_true,cond_false,Bool.true_and]
     cases (decide (0≤x.2.1)&&decide (x.2.1≤(mV t x.1).1)) with
     | false=>rfl
     | true=>
      cases (decide (0≤x.2.2)&&decide (x.2.2≤((mV t x.1).2.length:Int))) with
      | false=>rfl
      | true=>
       cases decide (x.2.1<(mV t x.1).1) with
       | false=>rfl
       | true=>cases decide (0<x.2.2) <;> rfl
    ·rw [ltF (show (t.length:Int)≤x.1 by omega)]
     simp
   ·rw [leF (show x.1<0 by omega)]
    simp
end
def dN (t:Tyt) (s:Tye):Int×Int:=
 match s.getLast? with
 | none=>(0,0)
 | some x=>if cy t s=false then (0,0) else if x.2.1<(mV t x.1).1 then (1,x.1) else if x.2.2<((mV t x.1).2.length:Int) then (2,((mV t x.1).2[x.2.2.toNat]?).getD 0) else (3,x.1)
def doB (t:Tyt) (s:Tye):Tye:=
 match s.getLast? with
 | none=>s
 | some x=>if cy t s=false then s else if x.2.1<(mV t x.1).1 then s.dropLast++[(x.1,x.2.1+1,x.2.2)] else if x.2.2<((mV t x.1).2.length:Int) then s.dropLast++[(x.1,x.2.1,x.2.2+1)] else s.dropLast
def gN (t:Tyt) (s:Tye) (q:Int):Tye:=
 if cy t s=true∧0≤q∧q<t.length then s++[(q,0,0)] else s
def Po (t:Tyt) (x:Int×Int×Int):Int:=(mV t x.1).1 - x.2.1+((mV t x.1).2.length:Int) - x.2.2+1
def LL (t:Tyt) (s:Tye):Int:=if cy t s=true then (s.map (Po t)).sum else 0
theorem kH {α:Type} (s:List α):s=[]∨∃ r x,s=r++[x]:=by
 rcases List.eq_nil_or_concat s with h | ⟨r,x,h⟩
 ·exact .inl h
 ·exact .inr ⟨r,x,by rw [h,List.concat_eq_append]⟩
theorem Li {α:Type} (r:List α) (x:α):(((r++[x]).length:Nat):Int) - 1=(r.length:Int):=by simp
theorem Lx {α:Type} (r:List α) (x:α):(r++[x])[r.length]? = some x:=by simp
theorem T1 {α:Type} (r:List α) (x y:α):(r++[x]).set r.length y=r++[y]:=by simp
theorem OC {α:Type} (r:List α) (x:α):(r++[x]).take r.length=r:=by simp
theorem oH (t:Tyt) (r:Tye) (x:Int×Int×Int):dN t (r++[x])=if cy t (r++[x])=false then (0,0) else if x.2.1<(mV t x.1).1 then (1,x.1) else if x.2.2<((mV t x.1).2.length:Int) then (2,((mV t x.1).2[x.2.2.toNat]?).getD 0) else (3,x.1):=by
 simp [dN]
theorem wV (t:Tyt) (r:Tye) (x:Int×Int×Int):doB t (r++[x])=if cy t (r++[x])=false then r++[x] else if x.2.1<(mV t x.1).1 then r++[(x.1,x.2.1+1,x.2.2)] else if x.2.2<((mV t x.1).2.length:Int) then r++[(x.1,x.2.1,x.2.2+1)] else r:=by
 simp [doB]
theorem Zm (t:Tyt) (s:Tye):(doB t s).length≤s.length:=by
 rcases kH s with rfl | ⟨r,x,rfl⟩
 ·simp [doB]
 ·rw [wV]
  split
  ·exact Nat.le_refl _
  ·split
   ·simp
   ·split <;> simp
theorem M5 (t:Tyt) (s:Tye) (q:Int):(gN t s q).length≤s.length+1:=by
 unfold gN
 split <;> simp
structure It (t:Tyt) (x:Int×Int×Int):Prop where
 h0:0≤x.1
 h1:x.1<t.length
 d0:0≤x.2.1
 d1:x.2.1≤(mV t x.1).1
 c0:0≤x.2.2
 c1:x.2.2≤((mV t x.1).2.length:Int)
 z:x.2.1<(mV t x.1).1→x.2.2=0
theorem JD {t:Tyt} {x:Int×Int×Int}:F0 t x=true↔It t x:=by
 simp only [F0,Bool.and_eq_true,decide_eq_true_eq,Bool.not_eq_true',Bool.and_eq_false_iff,decide_eq_false_iff_not]
 constructor
 ·rintro ⟨⟨⟨⟨a,b⟩,c,d⟩,e,f⟩,g⟩
  exact ⟨a,b,c,d,e,f,fun h=>by rcases g with g | g <;> omega⟩
 ·rintro ⟨a,b,c,d,e,f,g⟩
  refine ⟨⟨⟨⟨a,b⟩,c,d⟩,e,f⟩,?_⟩
  by_cases h:x.2.1<(mV t x.1).1
  ·exact .inr (by have:=g h;omega)
  ·exact .inl h
theorem io {t:Tyt} {r:Tye} {x:Int×Int×Int}:cy t (r++[x])=true↔oq t=true∧(∀ y ∈ r,It t y)∧It t x:=by
 simp only [cy,Bool.and_eq_true,List.all_eq_true,List.mem_append,List.mem_singleton,JD]
 constructor
 ·rintro ⟨a,b⟩
  exact ⟨a,fun y hy=>b y (.inl hy),b x (.inr rfl)⟩
 ·rintro ⟨a,b,c⟩
  refine ⟨a,fun y hy => ?_⟩
  rcases hy with h | rfl
  ·exact b y h
  ·exact c
theorem l8 {t:Tyt} {r:Tye}:cy t r=true↔oq t=true∧(∀ y ∈ r,It t y):=by
 simp only [cy,Bool.and_eq_true,List.all_eq_true,JD]
section
variable (k:Nat) (hk:9223372036854775808≤k)
include hk
theorem Of (t:Tyt) (ht:Wt t) (s:Tye) (hs:s.length≤1048576):ed k t s=some (dN t s):=by
 rw [ed]
 rcases kH s with rfl | ⟨r,x,rfl⟩
 ·rfl
 ·have hr:r.length+1≤1048576:=by simpa using hs
  have e1:((((r++[x]).length:Nat):Int)==0)=false:=by simp;omega
  rw [e1,cond_false,Qc k hk t ht _ (by omega),ab,oH]
  cases h:cy t (r++[x]) with
  | false=>rfl
  | true=>
   obtain ⟨hm,hr',hx⟩:=io.1 h
   have hl:=ht.kids _ (Ec hx.h0 hx.h1)
   rw [Bool.not_true,cond_false,Li,dM (by omega),fJ (Lx r x),ab,QH hx.h0 hx.h1,ab,if_neg (show ¬ (true=false) by simp)]
   by_cases h1:x.2.1<(mV t x.1).1
   ·rw [ltT h1,cond_true,if_pos h1]
   ·rw [ltF (by omega),cond_false,if_neg h1]
    by_cases h2:x.2.2<((mV t x.1).2.length:Int)
    ·have:=hx.c0
     rw [ltT h2,cond_true,if_pos h2,idx,if_pos hx.c0,List.getElem?_eq_getElem (by omega),ab]
     rfl
    ·rw [ltF (by omega),cond_false,if_neg h2]
theorem ahs (t:Tyt) (ht:Wt t) (s:Tye) (hs:s.length≤1048576):gf k t s=some (doB t s):=by
 rw [gf,OY _ _ (by omega),ab,Of k hk t ht s hs,ab]
 rcases kH s with rfl | ⟨r,x,rfl⟩
 ·rfl
 ·have hr:r.length+1≤1048576:=by simpa using hs
  rw [Li,dM (by omega),oH,wV,Int.toNat_natCast,Lx,OC]
  simp only [T1,ab]
  have e1:decide ((0:Int)≤(r.length:Int)∧r.length<(r++[x]).length)=true:=by simp
  have e2:decide ((0:Int)≤(r.length:Int)∧r.length≤(r++[x]).length)=true:=by simp
  have e3:decide (r.length≤(r++[x]).length)=true:=by simp
  rw [e1,e2,e3]
  cases h:cy t (r++[x]) with
  | false=>rfl
  | true=>
   obtain ⟨hm,hr',hx⟩:=io.1 h
   have hw:=(AO hm).work _ (Ec hx.h0 hx.h1)
   have hl:=ht.kids _ (Ec hx.h0 hx.h1)
   have:=hx.d0
   have:=hx.c0
   rw [if_neg (show ¬ (true=false) by simp),if_neg (show ¬ (true=false) by simp)]
   by_cases h1:x.2.1<(mV t x.1).1
   ·rw [if_pos h1,if_pos h1]
    simp only [beq_self_eq_true,cond_true]
    rw [dM (by omega)]
   ·rw [if_neg h1,if_neg h1]
    by_cases h2:x.2.2<((mV t x.1).2.length:Int)
    ·rw [if_pos h2,if_pos h2]
     simp only [Int.reduceBEq,cond_true,cond_false]
     rw [dM (by omega)]
    ·rw [if_neg h2,if_neg h2]
     rfl
theorem Rr (t:Tyt) (ht:Wt t) (s:Tye) (hs:s.length≤1048576) (q:Int):dz k t s q=some (gN t s q):=by
 have hlen:=ht.len
 rw [dz,OY _ _ (by omega),ab,Qc k hk t ht s (by omega),ab,gN]
 cases h:cy t s with
 | false=>simp
 | true=>
  have h30:=HY (l8.1 h).1
  rw [Bool.not_true,cond_false,ad9,ab,dM (by omega)]
  by_cases h0:0≤q
  ·by_cases h1:q<t.length
   ·have e2:room (s++[(q,(0:Int),(0:Int))]).length 24=true:=Gj (by simp;omega)
    rw [leT h0,leT (show q≤(t.length:Int) - 1 by omega),Bool.and_self,Bool.not_true,cond_false,e2,cond_true,if_pos ⟨rfl,h0,h1⟩]
   ·rw [leF (show (t.length:Int) - 1<q by omega),if_neg (by omega)]
    simp
  ·rw [leF (show q<0 by omega),if_neg (by omega)]
   simp
end
theorem adh {t:Tyt} {q:Int} (hm:oq t=true) (h0:0≤q) (h1:q<t.length):It t (q,0,0):=
 ⟨h0,h1,by simp,((AO hm).work _ (Ec h0 h1)).1,by simp,by simp,fun _=>rfl⟩
theorem BI {t:Tyt} {r:Tye} {x:Int×Int×Int} (h:cy t (r++[x])=true):LL t (r++[x])=LL t r+Po t x:=by
 obtain ⟨a,b,c⟩:=io.1 h
 rw [LL,if_pos h,LL,if_pos (l8.2 ⟨a,b⟩),List.map_append,List.sum_append]
 simp
theorem Ug {t:Tyt} {r:Tye} {x:Int×Int×Int} (h:cy t (r++[x])=true):cy t (doB t (r++[x]))=true∧LL t (doB t (r++[x]))=LL t (r++[x]) - 1:=by
 obtain ⟨a,b,c⟩:=io.1 h
 obtain ⟨q0,q1,q2,q3,q4,q5,q6⟩:=c
 rw [BI h,wV,if_neg (by simp [h])]
 split
 ·rename_i h1
  have h2:cy t (r++[(x.1,x.2.1+1,x.2.2)])=true:=io.2 ⟨a,b,⟨q0,q1,by simp only;omega,by simp only;omega,q4,q5,fun _=>q6 h1⟩⟩
  refine ⟨h2,?_⟩
  rw [BI h2]
  unfold Po
  simp only
  omega
 ·rename_i h1
  split
  ·rename_i h3
   have h2:cy t (r++[(x.1,x.2.1,x.2.2+1)])=true:=io.2 ⟨a,b,⟨q0,q1,q2,q3,by simp only;omega,by simp only;omega,fun h=>absurd h h1⟩⟩
   refine ⟨h2,?_⟩
   rw [BI h2]
   unfold Po
   simp only
   omega
  ·rename_i h3
   refine ⟨l8.2 ⟨a,b⟩,?_⟩
   unfold Po
   omega
end Go.Ab
set_option linter.unusedVariables false
namespace Go.Ab
abbrev WB:=Int×Tye×FR×Int×Int
def wE (op w v:Int):FR:=(op,0,w,v,0,0,0)
def d8 (c:CF) (t:Tyt) (m:List Int) (w:Int) (x:WB):Bool:=cY c&&decide ((m.length:Int)=bG c)&&oq t&&decide (0≤w∧w<c.1∧0≤x.1∧x.1<16)&&cy t x.2.1
def BR (d w W:Int):Int:=if W<2∨w<0∨W≤w then -1 else (w+1+d%(W - 1))%W
def toW (pc:Int) (x:WB):WB:=(pc,x.2.1,dc,x.2.2.2)
def iQ (pc op w v:Int) (x:WB):WB:=(pc,x.2.1,wE op w v,x.2.2.2)
def An:Int:=18446744073709551615
def NG (v:Int):Int:=IntKind.i64.wrap v
abbrev WR:=List Int×WB×List EV
def HM (c:CF) (t:Tyt) (m:List Int) (w:Int) (x:WB):WR:=
 let r:=dq c m x.2.2.1
 if d9 r.2=false then (r.1,(x.1,x.2.1,r.2,x.2.2.2),[])
 else if r.2.2.2.2.2.2.2≠1 then (r.1,toW 1 x,[])
 else (r.1,(9,gN t x.2.1 (NG r.2.2.2.2.1),dc,x.2.2.2),[(2,NG r.2.2.2.2.1,w)])
def wD (c:CF) (m:List Int) (w:Int) (x:WB):WR:=(ao m 1 (eY (ah m 1) 1),(2,x.2.1,wE 4 w 0,c.2.2.2,x.2.2.2.2),[])
def mX (c:CF) (m:List Int) (w:Int) (x:WB) (d:Int):WR:=
 let r:=dq c m x.2.2.1
 if d9 r.2=false then (r.1,(x.1,x.2.1,r.2,x.2.2.2),[])
 else if r.2.2.2.2.2.2.2=1 then (r.1,(4,x.2.1,r.2,x.2.2.2),[])
 else if x.1=2∧0≤BR d w c.1 then (r.1,iQ 3 2 (BR d w c.1) 0 x,[])
 else if x.2.2.2.1≤0 then (r.1,iQ 5 5 w 0 x,[])
 else (r.1,(2,x.2.1,wE 4 w 0,x.2.2.2.1 - 1,x.2.2.2.2),[])
def lq (t:Tyt) (m:List Int) (w:Int) (x:WB):WR:=
 (ao m 1 (eY (ah m 1) An),(if ah m 1=1 then 14 else 9,gN t x.2.1 (NG x.2.2.1.2.2.2.1),if ah m 1=1 then wE 6 w 0 else dc,x.2.2.2),[(2,NG x.2.2.1.2.2.2.1,w)])
def uQ (c:CF) (m:List Int) (x:WB):WR:=let r:=dq c m x.2.2.1;(r.1,(6,x.2.1,r.2,x.2.2.2),[])
def nf (m:List Int) (x:WB):WR:=(ao m 1 (eY (ah m 1) An),(7,x.2.1,x.2.2.1,x.2.2.2.1,0),[])
def E3 (f:FR) (v:Int):FR:=(f.1,f.2.1,f.2.2.1,v,f.2.2.2.2)
def eC (c:CF) (m:List Int) (x:WB):WR:=
 let k:=x.2.2.2.2
 let most:=2+2*c.1
 let v:=(k - 2)/2
 if k<0∨most≤k then (m,(8,x.2.1,E3 x.2.2.1 0,x.2.2.2.1,0),[])
 else
  let f:=if k=0 then E3 x.2.2.1 (ah m 4) else if k=1 then x.2.2.1 else if k%2=0 then E3 x.2.2.1 (ah m (Hn c v)) else x.2.2.1
  let some:=if k=0 then false else if k=1 then decide (ah m 5≠f.2.2.2.1) else if k%2=0 then false else decide (0<uq (ah m (IP c v)) f.2.2.2.1)
  if some=true then (m,toW 1 x,[])
  else if k+1=most then (m,(8,x.2.1,E3 f 0,x.2.2.2.1,0),[])
  else (m,(7,x.2.1,f,x.2.2.2.1,k+1),[])
def gD (c:CF) (m:List Int) (x:WB):WR:=let r:=dq c m x.2.2.1;if d9 r.2=true then (r.1,toW 1 x,[]) else (r.1,(x.1,x.2.1,r.2,x.2.2.2),[])
def J9 (t:Tyt) (m:List Int) (w:Int) (x:WB):WR:=
 let a:=dN t x.2.1
 if a.1=1 then (m,(x.1,doB t x.2.1,x.2.2),[]) else if a.1=2 then (m,(10,x.2),[]) else if a.1=3 then (m,(15,x.2),[]) else (m,iQ 0 1 w 0 x,[])
def rK (t:Tyt) (m:List Int) (w:Int) (x:WB):WR:=
 let a:=dN t x.2.1
 if a.1≠2 then (m,toW 9 x,[]) else (ao m 0 (eY (ah m 0) 1),(11,doB t x.2.1,wE 0 w (IntKind.u64.wrap a.2),x.2.2.2),[(3,a.2,w)])
def pI (c:CF) (m:List Int) (w:Int) (x:WB):WR:=
 let r:=dq c m x.2.2.1
 if d9 r.2=false then (r.1,(x.1,x.2.1,r.2,x.2.2.2),[]) else if r.2.2.2.2.2.2.2=2 then (r.1,iQ 12 3 w r.2.2.2.2.1 x,[]) else (r.1,toW 13 x,[])
def pw (c:CF) (t:Tyt) (m:List Int) (w:Int) (x:WB):WR:=
 let r:=dq c m x.2.2.1
 if d9 r.2=false then (r.1,(x.1,x.2.1,r.2,x.2.2.2),[])
 else if r.2.2.2.2.2.2.2=2 then (r.1,(9,gN t x.2.1 (NG r.2.2.2.2.1),dc,x.2.2.2),[(2,NG r.2.2.2.2.1,w)]) else (r.1,toW 13 x,[])
def HE (m:List Int) (w:Int) (x:WB):WR:=if ah m 1=0 then (m,iQ 14 6 w 0 x,[]) else (m,toW 9 x,[])
def rX (c:CF) (m:List Int) (x:WB):WR:=let r:=dq c m x.2.2.1;if d9 r.2=true then (r.1,toW 9 x,[]) else (r.1,(x.1,x.2.1,r.2,x.2.2.2),[])
def rP (t:Tyt) (m:List Int) (w:Int) (x:WB):WR:=
 let a:=dN t x.2.1
 if a.1≠3 then (m,toW 9 x,[])
 else (ao m 0 (eY (ah m 0) An),(if doB t x.2.1=[] then (0,[],wE 1 w 0,x.2.2.2) else (9,doB t x.2.1,dc,x.2.2.2)),if ah m 0=1 then [(4,a.2,w),(5,0,w)] else [(4,a.2,w)])
def bc (c:CF) (t:Tyt) (m:List Int) (w:Int) (x:WB) (d:Int):WR:=
 if d8 c t m w x=false then (m,x,[])
 else if x.1=0 then HM c t m w x else if x.1=1 then wD c m w x else if x.1=2∨x.1=3 then mX c m w x d else if x.1=4 then lq t m w x
 else if x.1=5 then uQ c m x else if x.1=6 then nf m x else if x.1=7 then eC c m x else if x.1=8 then gD c m x
 else if x.1=9 then J9 t m w x else if x.1=10 then rK t m w x else if x.1=11 then pI c m w x else if x.1=12 then pw c t m w x
 else if x.1=13 then HE m w x else if x.1=14 then rX c m x else rP t m w x
theorem ab8 {d w W:Int} (hd:0≤d∧d≤18446744073709551615) (hW:W≤8):fo d w W=some (BR d w W):=by
 unfold fo BR
 by_cases h2:W<2
 ·rw [ltT h2,cond_true,if_pos (.inl h2)]
 ·rw [ltF (by omega),cond_false]
  unfold cI
  by_cases h0:0≤w
  ·rw [leT h0,cond_true]
   by_cases h1:w<W
   ·rw [ltT h1,ab,Bool.not_true,cond_false,if_neg (by omega),lM (z:=W) (by omega) (by omega),lM (z:=W - 1) (by omega) (by omega),lM (z:=w) (by omega) (by omega),lM (z:=w+1) (by omega) (by omega),Hl,decide_eq_false (by omega),Bool.not_false,cond_true,Hl,decide_eq_false (by omega),Bool.not_false,cond_true,Int.tmod_eq_emod_of_nonneg hd.1]
    have e1:=Int.emod_nonneg d (show W - 1≠0 by omega)
    have e2:=Int.emod_lt_of_pos d (show 0<W - 1 by omega)
    have e3:=Int.emod_nonneg (w+1+d%(W - 1)) (show W≠0 by omega)
    have e4:=Int.emod_lt_of_pos (w+1+d%(W - 1)) (show 0<W by omega)
    rw [lM (by omega) (by omega),Int.tmod_eq_emod_of_nonneg (by omega),dM (by omega)]
   ·rw [ltF (by omega),ab,Bool.not_false,cond_true,if_pos (by omega)]
  ·rw [leF (by omega),cond_false,ab,Bool.not_false,cond_true,if_pos (by omega)]
theorem Qx {k:Nat} (hk:9223372036854775808≤k) (c:CF) {t:Tyt} (ht:Wt t) (m:List Int) (w:Int) (x:WB) (hs:x.2.1.length≤9000):ky k c t m w x=some (d8 c t m w x):=by
 unfold ky d8
 simp only [Prod.eta,gL,Dt,ab]
 rw [Ii (k+4) (by omega) t ht,Qc (k+3) (by omega) t ht x.2.1 (by omega)]
 cases hm:cY c with
 | false=>rfl
 | true=>
  rw [cond_true,ni,Bool.true_and]
  by_cases h1:(m.length:Int)=bG c
  ·rw [decide_eq_true h1,cond_true,Bool.true_and,ab]
   cases ht2:oq t with
   | false=>rfl
   | true=>
    rw [cond_true,Bool.true_and]
    by_cases h2:0≤w
    ·rw [leT h2,cond_true]
     by_cases h3:w<c.1
     ·rw [ltT h3,cond_true]
      by_cases h4:0≤x.1
      ·rw [leT h4,cond_true]
       by_cases h5:x.1<16
       ·rw [ltT h5,cond_true,ab,decide_eq_true ⟨h2,h3,h4,h5⟩,Bool.true_and]
       ·rw [ltF (by omega),cond_false,decide_eq_false (by omega)];rfl
      ·rw [leF (by omega),cond_false,decide_eq_false (by omega)];rfl
     ·rw [ltF (by omega),cond_false,decide_eq_false (by omega)];rfl
    ·rw [leF (by omega),cond_false,decide_eq_false (by omega)];rfl
  ·rw [decide_eq_false h1,cond_false]
   rfl
theorem abl (w:Int):ov w=some (0,[],wE 1 w 0,0,0):=rfl
end Go.Ab
set_option linter.unusedVariables false
set_option linter.unusedSimpArgs false
set_option maxRecDepth 100000
set_option maxHeartbeats 4000000
namespace Go.Ab
theorem b6 (op w v:Int):aF op w v=some (wE op w v):=rfl
theorem G2:room 1 24=true:=rfl
theorem af2:room 2 24=true:=rfl
theorem wX {a b:Int} (h:a=b):(a==b)=true:=by simp [h]
theorem bK {a b:Int} (h:a≠b):(a==b)=false:=by simp [h]
theorem Ma (c:CF) (m:List Int) (f:FR):(B3 c m f=dq c m f∧((f.1==0)=true∨(f.1==0)=false∧((f.1==1)=true∨(f.1==1)=false∧(f.1==2)=true)))∨(BM c m f=dq c m f∧(f.1==0)=false∧(f.1==1)=false∧(f.1==2)=false∧((f.1==3)=true∨(f.1==3)=false∧(f.1==4)=true))∨(Hv c m f=dq c m f∧(f.1==0)=false∧(f.1==1)=false∧(f.1==2)=false∧(f.1==3)=false∧(f.1==4)=false):=by
 unfold dq iS
 simp only [ni,decide_eq_true_eq,decide_eq_false_iff_not]
 by_cases h:f.1=0∨f.1=1∨f.1=2
 ·rw [if_pos h];exact .inl ⟨rfl,by omega⟩
 ·rw [if_neg h]
  by_cases g:f.1=3∨f.1=4
  ·rw [if_pos g];exact .inr (.inl ⟨rfl,by omega⟩)
  ·rw [if_neg g];exact .inr (.inr ⟨rfl,by omega⟩)
section
variable {k:Nat} (hk:9223372036854779000≤k) (c:CF) {t:Tyt} (ht:Wt t) {m:List Int} (hm:Wm m) (hl:m.length≤1000) (w:Int) {x:WB} (hf:Wf x.2.2.1) (hs:x.2.1.length≤9000) (hsp:x.2.2.2.1≤9223372036854775807) {d:Int} (hd:0≤d∧d≤18446744073709551615)
include hk ht hm hl hf hs hsp hd
theorem Xk {β:Type} (K:List Int×FR→Option β):A9 k c m x.2.2.1 K=K (dq c m x.2.2.1):=by
 have _h:=And.intro hsp hd
 have _h2:=And.intro ht hs
 have hdk:=LZ c hm hl hf (k+31)
 have hij:=GC c hm hl hf
 have hev:=Gu (k:=k+40) (by omega) c hm hl hf
 unfold A9
 rcases Ma c m x.2.2.1 with ⟨h,e | ⟨e,e1 | e1⟩⟩ | ⟨h,e,e1,e2,e3 | e3⟩ | ⟨h,e⟩
 all_goals simp only [*,cond_true,cond_false,ab]
theorem Vb:gV k c t m w x d=some (bc c t m w x d):=by
 have _h1:=hsp
 have _h2:=hd
 unfold gV
 try simp only [Prod.eta]
 rw [bM (by omega),ab,bM (by omega),ab,Qx (by omega) c ht m w x hs,ab]
 cases hmay:d8 c t m w x with
 | false=>
  unfold bc
  rw [hmay]
  rfl
 | true=>
  rw [Bool.not_true,cond_false]
  have hb:cY c=true∧(m.length:Int)=bG c∧0≤w∧w<c.1∧0≤x.1∧x.1<16:=by
   unfold d8 at hmay
   simp only [Bool.and_eq_true,decide_eq_true_eq] at hmay
   exact ⟨hmay.1.1.1.1,hmay.1.1.1.2,hmay.1.2⟩
  obtain ⟨hmc,hlen,hw0,hw1,hp0,hp1⟩:=hb
  have hc:=aA hmc
  have hsz:=rU hmc
  have hadd:∀ i v:Int,0≤i→i<2→dw m i v=some (ao m i (eY (ah m i) v),ah m i):=fun i v h0 h1=>by rw [ac7 hl,if_pos (by omega)]
  have hcg:=fun K=>Xk (k:=k) (β:=List Int×WB×List EV) hk c ht hm hl hf hs hsp hd K
  have hst:=fun q=>Rr (k+36) (by omega) t ht x.2.1 (by omega) q
  have hdo:=ahs (k+36) (by omega) t ht x.2.1 (by omega)
  have hnx:=Of (k+37) (by omega) t ht x.2.1 (by omega)
  have hvi:=ab8 (w:=w) (W:=c.1) hd (by omega)
  rcases (show x.1=0∨x.1=1∨x.1=2∨x.1=3∨x.1=4∨x.1=5∨x.1=6∨x.1=7∨x.1=8∨x.1=9∨x.1=10∨x.1=11∨x.1=12∨x.1=13∨x.1=14∨x.1=15 by omega) with hp | hp | hp | hp | hp | hp | hp | hp | hp | hp | hp | hp | hp | hp | hp | hp
  ·have hW:bc c t m w x d=HM c t m w x:=by unfold bc;rw [hmay];simp [hp]
   rw [hW]
   rw [wX hp,cond_true]
   unfold HM
   rw [hcg]
   simp only [cond_true,cond_false,ab,ng,Prod.eta,b6]
   generalize dq c m x.2.2.1=r
   cases ho:d9 r.2 with
   | false=>simp [ho,hp]
   | true=>
    by_cases h9:r.2.2.2.2.2.2.2=1
    ·simp [ho,h9,hst,ab,G2,dc,NG]
    ·have q9:(r.2.2.2.2.2.2.2 !=1)=true:=by simp [h9]
     simp [ho,h9,q9,toW,dc]
  ·have hW:bc c t m w x d=wD c m w x:=by unfold bc;rw [hmay];simp [hp]
   rw [hW]
   rw [bK (show x.1≠0 by omega),cond_false,wX hp,cond_true]
   rw [hadd 1 1 (by decide) (by decide),ab,b6,ab]
   rfl
  ·have hW:bc c t m w x d=mX c m w x d:=by unfold bc;rw [hmay];simp [hp]
   rw [hW]
   rw [bK (show x.1≠0 by omega),cond_false,bK (show x.1≠1 by omega),cond_false,wX hp,cond_true]
   rw [hvi,ab]
   unfold mX
   rw [hcg]
   simp only [cond_true,cond_false,ab,ng,Prod.eta,b6,wX hp]
   generalize dq c m x.2.2.1=r
   cases ho:d9 r.2 with
   | false=>simp [ho,hp]
   | true=>
    by_cases h9:r.2.2.2.2.2.2.2=1
    ·simp [ho,h9]
    ·have q9:=bK h9
     by_cases h8:0≤BR d w c.1
     ·simp [ho,h9,q9,hp,h8,iQ]
     ·by_cases h7:x.2.2.2.1≤0
      ·simp [ho,h9,q9,hp,h8,h7,iQ]
      ·rw [dM (z:=x.2.2.2.1 - 1) (by omega)]
       simp [ho,h9,q9,hp,h8,h7,iQ]
  ·have hW:bc c t m w x d=mX c m w x d:=by unfold bc;rw [hmay];simp [hp]
   rw [hW]
   rw [bK (show x.1≠0 by omega),cond_false,bK (show x.1≠1 by omega),cond_false,bK (show x.1≠2 by omega),cond_false,wX hp,cond_true]
   rw [hvi,ab]
   unfold mX
   rw [hcg]
   simp only [cond_true,cond_false,ab,ng,Prod.eta,b6,bK (show x.1≠2 by omega)]
   generalize dq c m x.2.2.1=r
   cases ho:d9 r.2 with
   | false=>simp [ho,hp]
   | true=>
    by_cases h9:r.2.2.2.2.2.2.2=1
    ·simp [ho,h9]
    ·have q9:=bK h9
     by_cases h7:x.2.2.2.1≤0
     ·simp [ho,h9,q9,hp,h7,iQ]
     ·rw [dM (z:=x.2.2.2.1 - 1) (by omega)]
      simp [ho,h9,q9,hp,h7,iQ]
  ·have hW:bc c t m w x d=lq t m w x:=by unfold bc;rw [hmay];simp [hp]
   rw [hW]
   rw [bK (show x.1≠0 by omega),cond_false,bK (show x.1≠1 by omega),cond_false,bK (show x.1≠2 by omega),cond_false,bK (show x.1≠3 by omega),cond_false,wX hp,cond_true]
   rw [hadd 1 _ (by decide) (by decide),ab,b6,ab,hst,ab,ab,G2,cond_true,cond_true,ni]
   by_cases h9:ah m 1=1
   ·simp [lq,h9,An,NG]
   ·simp [lq,h9,An,NG,dc]
  ·have hW:bc c t m w x d=uQ c m x:=by unfold bc;rw [hmay];simp [hp]
   rw [hW]
   rw [bK (show x.1≠0 by omega),cond_false,bK (show x.1≠1 by omega),cond_false,bK (show x.1≠2 by omega),cond_false,bK (show x.1≠3 by omega),cond_false,bK (show x.1≠4 by omega),cond_false,wX hp,cond_true]
   unfold uQ
   rw [hcg]
   simp only [cond_true,cond_false,ab,ng,Prod.eta,b6]
  ·have hW:bc c t m w x d=nf m x:=by unfold bc;rw [hmay];simp [hp]
   rw [hW]
   rw [bK (show x.1≠0 by omega),cond_false,bK (show x.1≠1 by omega),cond_false,bK (show x.1≠2 by omega),cond_false,bK (show x.1≠3 by omega),cond_false,bK (show x.1≠4 by omega),cond_false,bK (show x.1≠5 by omega),cond_false,wX hp,cond_true]
   rw [hadd 1 _ (by decide) (by decide),ab]
   rfl
  ·have hW:bc c t m w x d=eC c m x:=by unfold bc;rw [hmay];simp [hp]
   rw [hW]
   rw [bK (show x.1≠0 by omega),cond_false,bK (show x.1≠1 by omega),cond_false,bK (show x.1≠2 by omega),cond_false,bK (show x.1≠3 by omega),cond_false,bK (show x.1≠4 by omega),cond_false,bK (show x.1≠5 by omega),cond_false,bK (show x.1≠6 by omega),cond_false,wX hp,cond_true]
   have hM:IntKind.i64.wrap (2+IntKind.i64.wrap (2*c.1))=2+2*c.1:=by rw [dM (z:=2*c.1) (by omega),dM (by omega)]
   rw [hM]
   by_cases h1:x.2.2.2.2<0
   ·rw [ltT h1,cond_true]
    simp only [eC,if_pos (show x.2.2.2.2<0∨2+2*c.1≤x.2.2.2.2 from .inl h1),E3]
   ·rw [ltF (by omega),cond_false]
    by_cases h2:2+2*c.1≤x.2.2.2.2
    ·rw [leT h2,cond_true]
     simp only [eC,if_pos (show x.2.2.2.2<0∨2+2*c.1≤x.2.2.2.2 from .inr h2),E3]
    ·rw [leF (by omega),cond_false,dM (z:=x.2.2.2.2+1) (by omega)]
     have hn:¬ (x.2.2.2.2<0∨2+2*c.1≤x.2.2.2.2):=by omega
     by_cases e0:x.2.2.2.2=0
     ·rw [wX e0,cond_true,fh,ab]
      by_cases h5:x.2.2.2.2+1=2+2*c.1
      ·rw [wX h5,cond_true]
       simp only [eC,if_neg hn,if_pos e0,Bool.false_eq_true,if_false,if_pos h5,E3]
      ·rw [bK h5,cond_false]
       simp only [eC,if_neg hn,if_pos e0,Bool.false_eq_true,if_false,if_neg h5,E3,hp]
     ·rw [bK e0,cond_false]
      by_cases e1:x.2.2.2.2=1
      ·rw [wX e1,cond_true,fh,ab,Hl]
       by_cases h9:ah m 5=x.2.2.1.2.2.2.1
       ·rw [decide_eq_true h9,Bool.not_true,cond_false]
        skip
        by_cases h5:x.2.2.2.2+1=2+2*c.1
        ·rw [wX h5,cond_true]
         simp only [eC,if_neg hn,if_neg e0,if_pos e1,h9,ne_eq,not_true_eq_false,decide_false,Bool.false_eq_true,if_false,if_pos h5,E3]
        ·rw [bK h5,cond_false]
         simp only [eC,if_neg hn,if_neg e0,if_pos e1,h9,ne_eq,not_true_eq_false,decide_false,Bool.false_eq_true,if_false,if_neg h5,E3,hp]
       ·rw [decide_eq_false h9,Bool.not_false,cond_true]
        simp only [eC,if_neg hn,if_neg e0,if_pos e1,h9,ne_eq,not_false_eq_true,decide_true,if_true,toW,dc]
      ·rw [bK e1,cond_false,Int.tmod_eq_emod_of_nonneg (by omega),dM (z:=x.2.2.2.2 - 2) (by omega),Int.tdiv_eq_ediv_of_nonneg (by omega),dM (z:=(x.2.2.2.2 - 2)/2) (by omega)]
       by_cases e2:x.2.2.2.2%2=0
       ·rw [wX e2,cond_true,Tt,ab,fh,ab]
        skip
        by_cases h5:x.2.2.2.2+1=2+2*c.1
        ·rw [wX h5,cond_true]
         simp only [eC,if_neg hn,if_neg e0,if_neg e1,if_pos e2,Bool.false_eq_true,if_false,if_pos h5,E3]
        ·rw [bK h5,cond_false]
         simp only [eC,if_neg hn,if_neg e0,if_neg e1,if_pos e2,Bool.false_eq_true,if_false,if_neg h5,E3,hp]
       ·rw [bK e2,cond_false,O9,ab,fh,ab,NK,ab]
        by_cases h9:0<uq (ah m (IP c ((x.2.2.2.2 - 2)/2))) x.2.2.1.2.2.2.1
        ·rw [ltT h9,cond_true]
         simp only [eC,if_neg hn,if_neg e0,if_neg e1,if_neg e2,h9,decide_true,if_true,toW,dc]
        ·rw [ltF (by omega),cond_false]
         skip
         by_cases h5:x.2.2.2.2+1=2+2*c.1
         ·rw [wX h5,cond_true]
          simp only [eC,if_neg hn,if_neg e0,if_neg e1,if_neg e2,h9,decide_false,Bool.false_eq_true,if_false,if_pos h5,E3]
         ·rw [bK h5,cond_false]
          simp only [eC,if_neg hn,if_neg e0,if_neg e1,if_neg e2,h9,decide_false,Bool.false_eq_true,if_false,if_neg h5,E3,hp]
  ·have hW:bc c t m w x d=gD c m x:=by unfold bc;rw [hmay];simp [hp]
   rw [hW]
   rw [bK (show x.1≠0 by omega),cond_false,bK (show x.1≠1 by omega),cond_false,bK (show x.1≠2 by omega),cond_false,bK (show x.1≠3 by omega),cond_false,bK (show x.1≠4 by omega),cond_false,bK (show x.1≠5 by omega),cond_false,bK (show x.1≠6 by omega),cond_false,bK (show x.1≠7 by omega),cond_false,wX hp,cond_true]
   unfold gD
   rw [hcg]
   simp only [cond_true,cond_false,ab,ng,Prod.eta,b6]
   generalize dq c m x.2.2.1=r
   cases ho:d9 r.2 <;> simp [ho,hp,toW,dc]
  ·have hW:bc c t m w x d=J9 t m w x:=by unfold bc;rw [hmay];simp [hp]
   rw [hW]
   rw [bK (show x.1≠0 by omega),cond_false,bK (show x.1≠1 by omega),cond_false,bK (show x.1≠2 by omega),cond_false,bK (show x.1≠3 by omega),cond_false,bK (show x.1≠4 by omega),cond_false,bK (show x.1≠5 by omega),cond_false,bK (show x.1≠6 by omega),cond_false,bK (show x.1≠7 by omega),cond_false,bK (show x.1≠8 by omega),cond_false,wX hp,cond_true]
   rw [hnx,ab,ni,ni,ni,hdo,ab,b6,ab]
   unfold J9
   by_cases h1:(dN t x.2.1).1=1
   ·simp [h1,hp]
   ·by_cases h2:(dN t x.2.1).1=2
    ·simp [h2]
    ·by_cases h3:(dN t x.2.1).1=3
     ·simp [h3]
     ·simp [h1,h2,h3,iQ]
  ·have hW:bc c t m w x d=rK t m w x:=by unfold bc;rw [hmay];simp [hp]
   rw [hW]
   rw [bK (show x.1≠0 by omega),cond_false,bK (show x.1≠1 by omega),cond_false,bK (show x.1≠2 by omega),cond_false,bK (show x.1≠3 by omega),cond_false,bK (show x.1≠4 by omega),cond_false,bK (show x.1≠5 by omega),cond_false,bK (show x.1≠6 by omega),cond_false,bK (show x.1≠7 by omega),cond_false,bK (show x.1≠8 by omega),cond_false,bK (show x.1≠9 by omega),cond_false,wX hp,cond_true]
   rw [hnx,ab,Hl,hadd 0 _ (by decide) (by decide),ab,G2,cond_true,hdo,ab,b6,ab]
   unfold rK
   by_cases h2:(dN t x.2.1).1=2
   ·simp [h2]
   ·simp [h2,toW,dc]
  ·have hW:bc c t m w x d=pI c m w x:=by unfold bc;rw [hmay];simp [hp]
   rw [hW]
   rw [bK (show x.1≠0 by omega),cond_false,bK (show x.1≠1 by omega),cond_false,bK (show x.1≠2 by omega),cond_false,bK (show x.1≠3 by omega),cond_false,bK (show x.1≠4 by omega),cond_false,bK (show x.1≠5 by omega),cond_false,bK (show x.1≠6 by omega),cond_false,bK (show x.1≠7 by omega),cond_false,bK (show x.1≠8 by omega),cond_false,bK (show x.1≠9 by omega),cond_false,bK (show x.1≠10 by omega),cond_false,wX hp,cond_true]
   unfold pI
   rw [hcg]
   simp only [cond_true,cond_false,ab,ng,Prod.eta,b6]
   generalize dq c m x.2.2.1=r
   cases ho:d9 r.2 with
   | false=>simp [ho,hp]
   | true=>
    by_cases h9:r.2.2.2.2.2.2.2=2
    ·simp [ho,h9,iQ]
    ·have q9:=bK h9
     simp [ho,h9,q9,toW,dc]
  ·have hW:bc c t m w x d=pw c t m w x:=by unfold bc;rw [hmay];simp [hp]
   rw [hW]
   rw [bK (show x.1≠0 by omega),cond_false,bK (show x.1≠1 by omega),cond_false,bK (show x.1≠2 by omega),cond_false,bK (show x.1≠3 by omega),cond_false,bK (show x.1≠4 by omega),cond_false,bK (show x.1≠5 by omega),cond_false,bK (show x.1≠6 by omega),cond_false,bK (show x.1≠7 by omega),cond_false,bK (show x.1≠8 by omega),cond_false,bK (show x.1≠9 by omega),cond_false,bK (show x.1≠10 by omega),cond_false,bK (show x.1≠11 by omega),cond_false,wX hp,cond_true]
   unfold pw
   rw [hcg]
   simp only [cond_true,cond_false,ab,ng,Prod.eta,b6]
   generalize dq c m x.2.2.1=r
   cases ho:d9 r.2 with
   | false=>simp [ho,hp]
   | true=>
    by_cases h9:r.2.2.2.2.2.2.2=2
    ·simp [ho,h9,hst,ab,G2,dc,NG]
    ·have q9:=bK h9
     simp [ho,h9,q9,toW,dc]
  ·have hW:bc c t m w x d=HE m w x:=by unfold bc;rw [hmay];simp [hp]
   rw [hW]
   rw [bK (show x.1≠0 by omega),cond_false,bK (show x.1≠1 by omega),cond_false,bK (show x.1≠2 by omega),cond_false,bK (show x.1≠3 by omega),cond_false,bK (show x.1≠4 by omega),cond_false,bK (show x.1≠5 by omega),cond_false,bK (show x.1≠6 by omega),cond_false,bK (show x.1≠7 by omega),cond_false,bK (show x.1≠8 by omega),cond_false,bK (show x.1≠9 by omega),cond_false,bK (show x.1≠10 by omega),cond_false,bK (show x.1≠11 by omega),cond_false,bK (show x.1≠12 by omega),cond_false,wX hp,cond_true]
   rw [fh,ab,ni,b6,ab]
   by_cases h9:ah m 1=0
   ·simp [HE,h9,iQ]
   ·simp [HE,h9,toW,dc]
  ·have hW:bc c t m w x d=rX c m x:=by unfold bc;rw [hmay];simp [hp]
   rw [hW]
   rw [bK (show x.1≠0 by omega),cond_false,bK (show x.1≠1 by omega),cond_false,bK (show x.1≠2 by omega),cond_false,bK (show x.1≠3 by omega),cond_false,bK (show x.1≠4 by omega),cond_false,bK (show x.1≠5 by omega),cond_false,bK (show x.1≠6 by omega),cond_false,bK (show x.1≠7 by omega),cond_false,bK (show x.1≠8 by omega),cond_false,bK (show x.1≠9 by omega),cond_false,bK (show x.1≠10 by omega),cond_false,bK (show x.1≠11 by omega),cond_false,bK (show x.1≠12 by omega),cond_false,bK (show x.1≠13 by omega),cond_false,wX hp,cond_true]
   unfold rX
   rw [hcg]
   simp only [cond_true,cond_false,ab,ng,Prod.eta,b6]
   generalize dq c m x.2.2.1=r
   cases ho:d9 r.2 <;> simp [ho,hp,toW,dc]
  ·have hW:bc c t m w x d=rP t m w x:=by unfold bc;rw [hmay];simp [hp]
   rw [hW]
   rw [bK (show x.1≠0 by omega),cond_false,bK (show x.1≠1 by omega),cond_false,bK (show x.1≠2 by omega),cond_false,bK (show x.1≠3 by omega),cond_false,bK (show x.1≠4 by omega),cond_false,bK (show x.1≠5 by omega),cond_false,bK (show x.1≠6 by omega),cond_false,bK (show x.1≠7 by omega),cond_false,bK (show x.1≠8 by omega),cond_false,bK (show x.1≠9 by omega),cond_false,bK (show x.1≠10 by omega),cond_false,bK (show x.1≠11 by omega),cond_false,bK (show x.1≠12 by omega),cond_false,bK (show x.1≠13 by omega),cond_false,bK (show x.1≠14 by omega),cond_false,wX hp,cond_true]
   simp only [hnx,ab,Hl,hadd 0 _ (by decide) (by decide),G2,af2,cond_true,hdo,b6,ni]
   unfold rP
   by_cases h3:(dN t x.2.1).1=3
   ·by_cases h1:ah m 0=1
    ·by_cases h2:doB t x.2.1=[]
     ·simp [h3,h1,h2,An]
     ·have h4:¬ (((doB t x.2.1).length:Int)=0):=by simp [h2]
      simp [h3,h1,h2,h4,An,dc]
    ·by_cases h2:doB t x.2.1=[]
     ·simp [h3,h1,h2,An]
     ·have h4:¬ (((doB t x.2.1).length:Int)=0):=by simp [h2]
      simp [h3,h1,h2,h4,An,dc]
   ·simp [h3,toW,dc]
end
end Go.Ab
set_option linter.unusedVariables false
namespace Go.Ab
theorem ir {c:CF} {t:Tyt} {m:List Int} {w:Int} {x:WB} {d:Int} {P:WR→Prop} (hs:d8 c t m w x=false→P (m,x,[])) (p0:d8 c t m w x=true→x.1=0→P (HM c t m w x)) (p1:d8 c t m w x=true→x.1=1→P (wD c m w x)) (p2:d8 c t m w x=true→x.1=2∨x.1=3→P (mX c m w x d)) (p4:d8 c t m w x=true→x.1=4→P (lq t m w x)) (p5:d8 c t m w x=true→x.1=5→P (uQ c m x)) (p6:d8 c t m w x=true→x.1=6→P (nf m x)) (p7:d8 c t m w x=true→x.1=7→P (eC c m x)) (p8:d8 c t m w x=true→x.1=8→P (gD c m x)) (p9:d8 c t m w x=true→x.1=9→P (J9 t m w x)) (p10:d8 c t m w x=true→x.1=10→P (rK t m w x)) (p11:d8 c t m w x=true→x.1=11→P (pI c m w x)) (p12:d8 c t m w x=true→x.1=12→P (pw c t m w x)) (p13:d8 c t m w x=true→x.1=13→P (HE m w x)) (p14:d8 c t m w x=true→x.1=14→P (rX c m x)) (p15:d8 c t m w x=true→x.1=15→P (rP t m w x)):P (bc c t m w x d):=by
 unfold bc
 by_cases hm:d8 c t m w x=false
 ·rw [if_pos hm];exact hs hm
 rw [if_neg hm]
 have hm':d8 c t m w x=true:=by simpa using hm
 have hb:0≤x.1∧x.1<16:=by
  unfold d8 at hm'
  simp only [Bool.and_eq_true,decide_eq_true_eq] at hm'
  exact hm'.1.2.2.2
 by_cases e0:x.1=0
 ·rw [if_pos e0];exact p0 hm' e0
 rw [if_neg e0]
 by_cases e1:x.1=1
 ·rw [if_pos e1];exact p1 hm' e1
 rw [if_neg e1]
 by_cases e2:x.1=2∨x.1=3
 ·rw [if_pos e2];exact p2 hm' e2
 rw [if_neg e2]
 by_cases e4:x.1=4
 ·rw [if_pos e4];exact p4 hm' e4
 rw [if_neg e4]
 by_cases e5:x.1=5
 ·rw [if_pos e5];exact p5 hm' e5
 rw [if_neg e5]
 by_cases e6:x.1=6
 ·rw [if_pos e6];exact p6 hm' e6
 rw [if_neg e6]
 by_cases e7:x.1=7
 ·rw [if_pos e7];exact p7 hm' e7
 rw [if_neg e7]
 by_cases e8:x.1=8
 ·rw [if_pos e8];exact p8 hm' e8
 rw [if_neg e8]
 by_cases e9:x.1=9
 ·rw [if_pos e9];exact p9 hm' e9
 rw [if_neg e9]
 by_cases e10:x.1=10
 ·rw [if_pos e10];exact p10 hm' e10
 rw [if_neg e10]
 by_cases e11:x.1=11
 ·rw [if_pos e11];exact p11 hm' e11
 rw [if_neg e11]
 by_cases e12:x.1=12
 ·rw [if_pos e12];exact p12 hm' e12
 rw [if_neg e12]
 by_cases e13:x.1=13
 ·rw [if_pos e13];exact p13 hm' e13
 rw [if_neg e13]
 by_cases e14:x.1=14
 ·rw [if_pos e14];exact p14 hm' e14
 rw [if_neg e14]
 exact p15 hm' (by omega)
end Go.Ab
set_option linter.unusedVariables false
namespace Go.Ab
theorem RV (c:CF) (m:List Int) (f:FR):One m (er c m f).1:=by
 unfold er
 repeat' split
 all_goals first | exact One.same m | exact One.store m _ _ | exact One.cas m _ _ _
theorem abL (c:CF) (m:List Int) (f:FR):One m (iK c m f).1:=by
 unfold iK
 repeat' split
 all_goals first | exact One.same m | exact One.store m _ _ | exact One.cas m _ _ _
theorem N5 (c:CF) (m:List Int) (f:FR):One m (a9 c m f).1:=by
 unfold a9
 dsimp only
 repeat' split
 all_goals first | exact One.same m | exact One.store m _ _ | exact One.cas m _ _ _
theorem PU (c:CF) (m:List Int) (f:FR):One m (dq c m f).1:=by
 unfold dq B3
 repeat' split
 all_goals first | exact One.same m | exact RV c m f | exact abL c m f | exact N5 c m f | exact KD c m f
section
variable {c:CF} {t:Tyt} {m:List Int} {w:Int} {x:WB} {d:Int}
theorem E8:One m (bc c t m w x d).1:=by
 refine ir (P:=fun r=>One m r.1) (fun _=>One.same m) ?_ ?_ ?_ ?_ ?_ ?_ ?_ ?_ ?_ ?_ ?_ ?_ ?_ ?_ ?_
 all_goals intro _ _
 all_goals dsimp only [HM,wD,mX,lq,uQ,nf,eC,gD,J9,rK,pI,pw,HE,rX,rP]
 all_goals repeat' split
 all_goals (try dsimp only)
 all_goals first | exact One.same m | exact One.store m _ _ | exact PU c m _
theorem SY:(bc c t m w x d).2.2.length≤2:=by
 refine ir (P:=fun r=>r.2.2.length≤2) (fun _=>Nat.zero_le _) ?_ ?_ ?_ ?_ ?_ ?_ ?_ ?_ ?_ ?_ ?_ ?_ ?_ ?_ ?_
 all_goals intro _ _
 all_goals dsimp only [HM,wD,mX,lq,uQ,nf,eC,gD,J9,rK,pI,pw,HE,rX,rP]
 all_goals repeat' split
 all_goals simp
theorem QL:(bc c t m w x d).2.1.2.1.length≤x.2.1.length+1:=by
 have h1:=fun q=>M5 t x.2.1 q
 have h2:=Zm t x.2.1
 refine ir (P:=fun r=>r.2.1.2.1.length≤x.2.1.length+1) (fun _=>Nat.le_succ _) ?_ ?_ ?_ ?_ ?_ ?_ ?_ ?_ ?_ ?_ ?_ ?_ ?_ ?_ ?_
 all_goals intro _ _
 all_goals dsimp only [HM,wD,mX,lq,uQ,nf,eC,gD,J9,rK,pI,pw,HE,rX,rP,toW,iQ]
 all_goals repeat' split
 all_goals first | exact Nat.le_succ _ | exact h1 _ | (dsimp only;omega) | simp
theorem IS {s:Tye} (h:cy t s=true) (q:Int):cy t (gN t s q)=true:=by
 unfold gN
 split
 ·rename_i g
  have:=l8.1 h
  exact io.2 ⟨this.1,this.2,adh this.1 g.2.1 g.2.2⟩
 ·exact h
theorem WQ {s:Tye} (h:cy t s=true):cy t (doB t s)=true:=by
 rcases kH s with rfl | ⟨r,y,rfl⟩
 ·exact h
 ·exact (Ug h).1
theorem IX (h:d8 c t m w x=true):cY c=true∧(m.length:Int)=bG c∧oq t=true∧(0≤w∧w<c.1∧0≤x.1∧x.1<16)∧cy t x.2.1=true:=by
 unfold d8 at h
 simp only [Bool.and_eq_true,decide_eq_true_eq] at h
 exact ⟨h.1.1.1.1,h.1.1.1.2,h.1.1.2,h.1.2,h.2⟩
theorem P7 (h1:cY c=true) (h2:(m.length:Int)=bG c) (h3:oq t=true) (h4:0≤w∧w<c.1∧0≤x.1∧x.1<16) (h5:cy t x.2.1=true):d8 c t m w x=true:=by
 unfold d8
 rw [h1,h3,h5,decide_eq_true h2,decide_eq_true h4]
 rfl
theorem Tx (h:d8 c t m w x=true):d8 c t (bc c t m w x d).1 w (bc c t m w x d).2.1=true:=by
 obtain ⟨h1,h2,h3,h4,h5⟩:=IX h
 have hl:=(E8 (c:=c) (t:=t) (m:=m) (w:=w) (x:=x) (d:=d)).len
 have key:0≤(bc c t m w x d).2.1.1∧(bc c t m w x d).2.1.1<16∧cy t (bc c t m w x d).2.1.2.1=true:=by
  have g1:=IS h5
  have g2:=WQ h5
  have g3:cy t []=true:=l8.2 ⟨h3,fun y hy=>absurd hy (by simp)⟩
  refine ir (P:=fun r=>0≤r.2.1.1∧r.2.1.1<16∧cy t r.2.1.2.1=true) (fun _=>⟨h4.2.2.1,h4.2.2.2,h5⟩) ?_ ?_ ?_ ?_ ?_ ?_ ?_ ?_ ?_ ?_ ?_ ?_ ?_ ?_ ?_
  all_goals intro _ _
  all_goals dsimp only [HM,wD,mX,lq,uQ,nf,eC,gD,J9,rK,pI,pw,HE,rX,rP,toW,iQ]
  all_goals repeat' split
  all_goals refine ⟨?_,?_,?_⟩
  all_goals (try dsimp only)
  all_goals first | omega | exact h5 | exact g1 _ | exact g2 | exact g3
 exact P7 h1 (by rw [hl];exact h2) h3 ⟨h4.1,h4.2.1,key.1,key.2.1⟩ key.2.2
theorem TL {w W:Int}:0≤BR d w W↔¬ (W<2∨w<0∨W≤w):=by
 unfold BR
 split
 ·rename_i h
  exact ⟨fun g=>absurd g (by decide),fun g=>absurd h g⟩
 ·rename_i h
  exact ⟨fun _=>h,fun _=>Int.emod_nonneg _ (by omega)⟩
end
end Go.Ab
set_option linter.unusedVariables false
namespace Go.Ab
section
variable {c:CF} {m:List Int} {f:FR} {j:Int} (hj:j=0∨j=1∨j=3)
include hj
theorem lG {w x:Int} (hx:0≤x):onW c w x≠j:=by
 unfold onW
 split
 ·rename_i h
  have hm:=aA h.1
  have:=dG h.1 h.2.1 (by omega)
  omega
 ·omega
theorem o8 {w x:Int} (h0:0≤x) (h1:x≤18446744073709551615):pD c w x≠j:=by
 unfold pD onW
 split
 ·rename_i h
  have hm:=aA h.1
  have:=dG h.1 h.2.1 (by omega)
  have:=ET h0 h1 (show 1≤c.2.1 by omega) (by omega)
  omega
 ·omega
theorem Af (x:Int):mr c x≠j:=by
 unfold mr
 split
 ·rename_i h
  have:=aA h
  have:=Int.emod_nonneg x (show c.2.2.1≠0 by omega)
  omega
 ·omega
theorem Bh (x:Int):BL c x≠j:=by
 unfold BL
 split
 ·rename_i h
  have:=aA h
  have:=Int.emod_nonneg x (show c.2.2.1≠0 by omega)
  omega
 ·omega
theorem pp (w:Int):fR c w≠j:=by
 unfold fR
 split
 ·rename_i h
  have hm:=aA h.1
  have:=dG h.1 h.2.1 (by omega)
  omega
 ·omega
omit hj in
theorem ks {i v:Int} (h:i≠j):ah (ao m i v) j=ah m j:=az v h
omit hj in
theorem kc {i o v:Int} (h:i≠j):ah (pP m i o v).1 j=ah m j:=by
 unfold pP
 split
 ·exact ks h
 ·rfl
section
variable (hf:Wf f)
include hf
theorem Q8:ah (er c m f).1 j=ah m j:=by
 have w4:=hf.2.1
 have _h:=hj
 unfold er
 try dsimp only
 repeat' split
 all_goals first | rfl | exact ks (Af hj _) | exact ks (Bh hj _) | exact ks (pp hj _) | exact ks (lG hj (by decide)) | exact kc (lG hj (by decide)) | exact ks (o8 hj w4.1 w4.2) | exact kc (show (2:Int)≠j by omega) | exact kc (show (4:Int)≠j by omega) | exact kc (show (5:Int)≠j by omega) | exact ks (show (2:Int)≠j by omega)
theorem Tu:ah (iK c m f).1 j=ah m j:=by
 have w4:=hf.2.1
 have _h:=hj
 unfold iK
 try dsimp only
 repeat' split
 all_goals first | rfl | exact ks (Af hj _) | exact ks (Bh hj _) | exact ks (pp hj _) | exact ks (lG hj (by decide)) | exact kc (lG hj (by decide)) | exact ks (o8 hj w4.1 w4.2) | exact kc (show (2:Int)≠j by omega) | exact kc (show (4:Int)≠j by omega) | exact kc (show (5:Int)≠j by omega) | exact ks (show (2:Int)≠j by omega)
theorem Mh:ah (a9 c m f).1 j=ah m j:=by
 have w4:=hf.2.1
 have _h:=hj
 unfold a9
 try dsimp only
 repeat' split
 all_goals first | rfl | exact ks (Af hj _) | exact ks (Bh hj _) | exact ks (pp hj _) | exact ks (lG hj (by decide)) | exact kc (lG hj (by decide)) | exact ks (o8 hj w4.1 w4.2) | exact kc (show (2:Int)≠j by omega) | exact kc (show (4:Int)≠j by omega) | exact kc (show (5:Int)≠j by omega) | exact ks (show (2:Int)≠j by omega)
theorem Ky:ah (iI c m f).1 j=ah m j:=by
 have w4:=hf.2.1
 have _h:=hj
 unfold iI
 try dsimp only
 repeat' split
 all_goals first | rfl | exact ks (Af hj _) | exact ks (Bh hj _) | exact ks (pp hj _) | exact ks (lG hj (by decide)) | exact kc (lG hj (by decide)) | exact ks (o8 hj w4.1 w4.2) | exact kc (show (2:Int)≠j by omega) | exact kc (show (4:Int)≠j by omega) | exact kc (show (5:Int)≠j by omega) | exact ks (show (2:Int)≠j by omega)
theorem Ka:ah (kx c m f).1 j=ah m j:=by
 have w4:=hf.2.1
 have _h:=hj
 unfold kx
 try dsimp only
 repeat' split
 all_goals first | rfl | exact ks (Af hj _) | exact ks (Bh hj _) | exact ks (pp hj _) | exact ks (lG hj (by decide)) | exact kc (lG hj (by decide)) | exact ks (o8 hj w4.1 w4.2) | exact kc (show (2:Int)≠j by omega) | exact kc (show (4:Int)≠j by omega) | exact kc (show (5:Int)≠j by omega) | exact ks (show (2:Int)≠j by omega)
theorem Ge:ah (Aq c m f).1 j=ah m j:=by
 have w4:=hf.2.1
 have _h:=hj
 unfold Aq
 try dsimp only
 repeat' split
 all_goals first | rfl | exact ks (Af hj _) | exact ks (Bh hj _) | exact ks (pp hj _) | exact ks (lG hj (by decide)) | exact kc (lG hj (by decide)) | exact ks (o8 hj w4.1 w4.2) | exact kc (show (2:Int)≠j by omega) | exact kc (show (4:Int)≠j by omega) | exact kc (show (5:Int)≠j by omega) | exact ks (show (2:Int)≠j by omega)
theorem GZ:ah (wz c m f).1 j=ah m j:=by
 have w4:=hf.2.1
 have _h:=hj
 unfold wz Mi
 try dsimp only
 repeat' split
 all_goals first | rfl | exact ks (Af hj _) | exact ks (Bh hj _) | exact ks (pp hj _) | exact ks (lG hj (by decide)) | exact kc (lG hj (by decide)) | exact ks (o8 hj w4.1 w4.2) | exact kc (show (2:Int)≠j by omega) | exact kc (show (4:Int)≠j by omega) | exact kc (show (5:Int)≠j by omega) | exact ks (show (2:Int)≠j by omega)
theorem L5:ah (dq c m f).1 j=ah m j:=by
 unfold dq B3 iS BM Hv
 repeat' split
 all_goals first | with_reducible rfl | with_reducible exact Q8 hj hf | with_reducible exact Tu hj hf | with_reducible exact Mh hj hf | with_reducible exact Ky hj hf | with_reducible exact Ka hj hf | with_reducible exact Ge hj hf | with_reducible exact GZ hj hf
end
end
def Iq:List EV→Int×Bool→Int×Bool
 | [],s=>s
 | e::l,s=>Iq l (if e.1=3 then IntKind.u64.wrap (s.1+1) else if e.1=4 then IntKind.u64.wrap (s.1 - 1) else s.1,s.2||decide (e.1=5))
theorem Sc (s:Int):eY s An=IntKind.u64.wrap (s - 1):=by
 rw [ip]
 unfold eY An
 omega
theorem ale (s:Int):eY s 1=IntKind.u64.wrap (s+1):=by
 rw [ip]
 rfl
section
variable {c:CF} {t:Tyt} {m:List Int} {w:Int} {x:WB} {d:Int}
theorem PM (hm:Wm m) (hl:2≤m.length) (hf:Wf x.2.2.1):ah (bc c t m w x d).1 0=(Iq (bc c t m w x d).2.2 (ah m 0,false)).1∧((Iq (bc c t m w x d).2.2 (ah m 0,false)).2=true↔ah m 0=1∧(Iq (bc c t m w x d).2.2 (ah m 0,false)).1=0):=by
 have hk:=L5 (c:=c) (m:=m) (f:=x.2.2.1) (j:=0) (by decide) hf
 have hs:∀ v,ah (ao m 0 v) 0=v:=fun v=>dQ v (by decide) (by omega)
 have h1:∀ v,ah (ao m 1 v) 0=ah m 0:=fun v=>ks (by decide)
 have z:∀ {l:List EV},(l=[]∨∃ a b,l=[(2,a,b)])→ah m 0=(Iq l (ah m 0,false)).1∧((Iq l (ah m 0,false)).2=true↔ah m 0=1∧(Iq l (ah m 0,false)).1=0):=fun h=>by
  rcases h with rfl | ⟨a,b,rfl⟩
  ·refine ⟨rfl,?_⟩
   dsimp only [Iq]
   exact ⟨fun g=>(by cases g),fun g=>absurd g.2 (by omega)⟩
  ·refine ⟨rfl,?_⟩
   dsimp only [Iq]
   exact ⟨fun g=>(by cases g),fun g=>absurd g.2 (by rw [if_neg (by decide),if_neg (by decide)];omega)⟩
 have hr:=ct hm 0
 refine ir (P:=fun r=>ah r.1 0=(Iq r.2.2 (ah m 0,false)).1∧((Iq r.2.2 (ah m 0,false)).2=true↔ah m 0=1∧(Iq r.2.2 (ah m 0,false)).1=0)) (fun _=>z (.inl rfl)) ?_ ?_ ?_ ?_ ?_ ?_ ?_ ?_ ?_ ?_ ?_ ?_ ?_ ?_ ?_
 all_goals intro _ hp
 ·unfold HM
  dsimp only
  repeat' split
  all_goals (dsimp only;rw [hk];exact z (by first | exact .inl rfl | exact .inr ⟨_,_,rfl⟩))
 ·unfold wD
  dsimp only
  rw [h1]
  exact z (.inl rfl)
 ·unfold mX
  dsimp only
  repeat' split
  all_goals (dsimp only;rw [hk];exact z (.inl rfl))
 ·unfold lq
  dsimp only
  rw [h1]
  exact z (.inr ⟨_,_,rfl⟩)
 ·unfold uQ
  dsimp only
  rw [hk]
  exact z (.inl rfl)
 ·unfold nf
  dsimp only
  rw [h1]
  exact z (.inl rfl)
 ·unfold eC
  dsimp only
  repeat' split
  all_goals (dsimp only;exact z (.inl rfl))
 ·unfold gD
  dsimp only
  split
  all_goals (dsimp only;rw [hk];exact z (.inl rfl))
 ·unfold J9
  dsimp only
  repeat' split
  all_goals (dsimp only;exact z (.inl rfl))
 ·unfold rK
  dsimp only
  split
  ·exact z (.inl rfl)
  ·dsimp only
   rw [hs,ale]
   dsimp only [Iq]
   rw [if_pos rfl]
   refine ⟨rfl,fun g=>(by cases g),fun g => ?_⟩
   have:=g.2
   rw [g.1] at this
   exact absurd this (by decide)
 ·unfold pI
  dsimp only
  repeat' split
  all_goals (dsimp only;rw [hk];exact z (.inl rfl))
 ·unfold pw
  dsimp only
  repeat' split
  all_goals (dsimp only;rw [hk];exact z (by first | exact .inl rfl | exact .inr ⟨_,_,rfl⟩))
 ·unfold HE
  split
  all_goals exact z (.inl rfl)
 ·unfold rX
  dsimp only
  split
  all_goals (dsimp only;rw [hk];exact z (.inl rfl))
 ·unfold rP
  dsimp only
  split
  ·exact z (.inl rfl)
  ·dsimp only
   rw [hs,Sc]
   by_cases h:ah m 0=1
   ·rw [if_pos h,h]
    refine ⟨rfl,fun _=>⟨rfl,rfl⟩,fun _=>rfl⟩
   ·rw [if_neg h]
    refine ⟨rfl,fun g=>(by cases g),fun g=>absurd g.1 h⟩
end
end Go.Ab
set_option linter.unusedVariables false
namespace Go.Ab
theorem K2 {c:CF} {m:List Int} {f:FR} (hm:Wm m) (hf:Wf f):Wm (wz c m f).1∧Wf (wz c m f).2∧(wz c m f).1.length=m.length:=by
 have hr:=ct hm 2
 obtain ⟨w3,w4,w5⟩:=hf
 have hk4:=KZ w4.1
 have hk5:=KZ w5.1
 have hc5:=P4 hk5.1 hk5.2
 unfold wz
 split
 ·exact ⟨hm,⟨w3,w4,w5⟩,rfl⟩
 ·split
  ·exact ⟨hm,⟨w3,hr,w5⟩,rfl⟩
  ·split
   ·split
    ·refine ⟨hm.set 2 ?_ ?_,?_,(by simp only [];exact iG)⟩
     ·split
      ·exact (Ac _ _).1
      ·exact (Ac _ _).1
     ·split
      ·exact (Ac _ _).2
      ·exact (Ac _ _).2
     ·have hl:=QQ (mkB f.2.2.2.2.1)
      simp only []
      by_cases hz:mkB f.2.2.2.2.1=0
      ·rw [if_pos hz]
       exact ⟨by simp [eN],by simp [eN],by simp [eN]⟩
      ·rw [if_neg hz]
       refine ⟨w3,w4,?_⟩
       simp only
       split
       ·split <;> omega
       ·omega
    ·exact ⟨hm,⟨w3,w4,w5⟩,rfl⟩
   ·split
    ·exact ⟨hm.set _ (by decide) (by decide),⟨w5,by simp [eN],by simp [eN]⟩,(by simp only [];exact iG)⟩
    ·refine ⟨hm.set _ (by decide) (by decide),?_,(by simp only [];exact iG)⟩
     split
     ·exact ⟨by simp [eN];omega,by simp [eN],by simp [eN]⟩
     ·exact ⟨w3,w4,by simp only;omega⟩
theorem aaP {c:CF} {m:List Int} {f:FR} (hm:Wm m) (hf:Wf f):Wm (Aq c m f).1∧Wf (Aq c m f).2:=by
 have hr:=ct hm 2
 obtain ⟨w3,w4,w5⟩:=hf
 have hs:=Zo (w:=f.2.2.1) w5.1 w5.2
 unfold Aq
 dsimp only
 split
 ·exact ⟨hm,w3,w4,w5⟩
 ·split
  ·exact ⟨hm,w3,hr,w5⟩
  ·split
   ·split
    ·exact ⟨hm,w3,w4,hr⟩
    ·exact ⟨hm,by simp [eN,Wf]⟩
   ·split
    ·exact ⟨hm.cas _ _ hs.1 hs.2,w3,w4,w5⟩
    ·split
     ·exact ⟨hm,w3,w4,ct hm _⟩
     ·exact ⟨hm.set _ (by decide) (by decide),by simp [eN,Wf]⟩
theorem adT {c:CF} {m:List Int} {f:FR} (hm:Wm m) (hf:Wf f):Wm (iI c m f).1∧Wf (iI c m f).2:=by
 obtain ⟨w3,w4,w5⟩:=hf
 have ha:=gz f.2.2.2.2.1 1
 have hb:=gz (B7 c f.2.2.2.2.1) 1
 unfold iI
 dsimp only
 split
 ·exact ⟨hm,w3,w4,w5⟩
 ·split
  ·exact ⟨hm,w3,ct hm 5,w5⟩
  ·split
   ·split
    ·exact ⟨hm,w3,w4,ct hm _⟩
    ·split
     ·exact ⟨hm,w3,by simp [eN],by simp [eN]⟩
     ·exact ⟨hm,w3,w4,ct hm _⟩
   ·split
    ·exact ⟨hm.cas _ _ ha.1 ha.2,w3,w4,w5⟩
    ·split
     ·exact ⟨hm.set _ w3.1 w3.2,w3,w4,w5⟩
     ·exact ⟨hm.set _ hb.1 hb.2,w3,by simp [eN],by simp [eN]⟩
theorem aec {c:CF} {m:List Int} {f:FR} (hm:Wm m) (hf:Wf f):Wm (kx c m f).1∧Wf (kx c m f).2:=by
 obtain ⟨w3,w4,w5⟩:=hf
 have ha:=gz f.2.2.2.2.1 1
 have hb:=gz (BY c f.2.2.2.2.1) 1
 unfold kx
 dsimp only
 split
 ·exact ⟨hm,w3,w4,w5⟩
 ·split
  ·exact ⟨hm,w3,ct hm 4,w5⟩
  ·split
   ·split
    ·exact ⟨hm,w3,w4,ct hm _⟩
    ·split
     ·exact ⟨hm,by simp [eN],by simp [eN],by simp [eN]⟩
     ·exact ⟨hm,w3,w4,ct hm _⟩
   ·split
    ·exact ⟨hm.cas _ _ ha.1 ha.2,w3,w4,w5⟩
    ·split
     ·exact ⟨hm,ct hm _,w4,w5⟩
     ·exact ⟨hm.set _ hb.1 hb.2,w3,by simp [eN],by simp [eN]⟩
theorem Pg {c:CF} {m:List Int} {f:FR} (hm:Wm m) (hf:Wf f):Wm (iS c m f).1∧Wf (iS c m f).2:=by
 unfold iS BM Hv
 repeat' split
 all_goals first | exact adT hm hf | exact aec hm hf | exact aaP hm hf | exact ⟨(K2 hm hf).1,(K2 hm hf).2.1⟩ | exact ⟨hm,hf⟩
theorem VP {c:CF} {t:Tyt} {m:List Int} {i:Int} {x:SB} (hm:Wm m) (hf:Wf x.2.2) (ht:t.length≤1000):Wm (fH c t m i x).1∧Wf (fH c t m i x).2.1.2.2:=by
 have hc:=Pg (c:=c) hm hf
 have hz:Wf dc:=by simp [Wf,dc]
 have h1:=gz (ah m 0) 1
 have h2:=gz (ah m 0) 18446744073709551615
 cases hmay:wC c t m x with
 | false=>
  have e:fH c t m i x=(m,x,[]):=by unfold fH;rw [hmay,if_pos rfl]
  rw [e]
  exact ⟨hm,hf⟩
 | true=>
  obtain ⟨_,_,_,_,_,r,rest,hx,h6,h7⟩:=AR hmay
  have hh:eL x.2.1=r:=by rw [hx];rfl
  unfold fH
  rw [hmay,if_neg (by simp),hh]
  dsimp only
  have h3:Wf (3,0,i,r,0,0,0):=⟨⟨h6,by simp only;omega⟩,by simp,by simp⟩
  have h4:Wf (6,0,i,0,0,0,0):=by simp [Wf]
  repeat' split
  all_goals first | exact ⟨hm,hf⟩ | exact ⟨hm,hz⟩ | exact ⟨hm,h4⟩ | exact ⟨hm.set 0 h1.1 h1.2,h3⟩ | exact hc | exact ⟨hc.1,hz⟩ | exact ⟨hm.set 0 h2.1 h2.2,hz⟩
end Go.Ab
set_option linter.unusedVariables false
namespace Go.Ab
abbrev PB:=CF×Tyt×List Int×List WB×List SB
abbrev PK:=Int×Int×Int
def uP (t:Tyt) (x:SB):Bool:=decide (0≤x.1∧x.1<6)&&x.2.1.all (fun r=>decide (0≤r∧r<t.length))&&(decide (x.1=0)||decide (x.2.1≠[]))
def GM (c:CF) (t:Tyt) (m:List Int):Nat→List WB→Bool
 | _,[]=>true
 | i,x::l=>d8 c t m i x&&GM c t m (i+1) l
def iU (p:PB):Bool:=cY p.1&&decide ((p.2.2.2.1.length:Int)=p.1.1∧p.2.2.2.2.length≤3)&&GM p.1 p.2.1 p.2.2.1 0 p.2.2.2.1&&p.2.2.2.2.all (uP p.2.1)
def B5 (k:PK) (w s:Int):Bool:=decide (k.1=0∧0≤k.2.1∧k.2.1<w∨k.1=1∧0≤k.2.1∧k.2.1<s∨k.1=2∨k.1=3)
def eM (p:PB) (k:PK):PB×List EV:=
 if k.1=0 then match p.2.2.2.1[k.2.1.toNat]? with
  | some x=>((p.1,p.2.1,(bc p.1 p.2.1 p.2.2.1 k.2.1 x k.2.2).1,p.2.2.2.1.set k.2.1.toNat (bc p.1 p.2.1 p.2.2.1 k.2.1 x k.2.2).2.1,p.2.2.2.2),(bc p.1 p.2.1 p.2.2.1 k.2.1 x k.2.2).2.2)
  | none=>(p,[])
 else if k.1=1 then match p.2.2.2.2[k.2.1.toNat]? with
  | some x=>if wC p.1 p.2.1 p.2.2.1 x=true then ((p.1,p.2.1,(fH p.1 p.2.1 p.2.2.1 k.2.1 x).1,p.2.2.2.1,p.2.2.2.2.set k.2.1.toNat (fH p.1 p.2.1 p.2.2.1 k.2.1 x).2.1),(fH p.1 p.2.1 p.2.2.1 k.2.1 x).2.2) else (p,[])
  | none=>(p,[])
 else if k.1=2 then ((p.1,p.2.1,ao p.2.2.1 3 1,p.2.2.2.1,p.2.2.2.2),[])
 else (p,[])
def lz (p:PB):List PK→PB×List EV
 | []=>(p,[])
 | k::l=>if B5 k p.1.1 p.2.2.2.2.length=true then ((lz (eM p k).1 l).1,(eM p k).2++(lz (eM p k).1 l).2) else lz p l
def aii (p:PB) (l:List PK):PB×List EV:=if iU p=true then lz p l else (p,[])
theorem ZA {c:CF} {m:List Int} {f:FR} (hm:Wm m) (hf:Wf f):Wm (er c m f).1∧Wf (er c m f).2:=by
 have hl:=fun i=>ct hm i
 obtain ⟨w3,w4,w5⟩:=hf
 have ha:=gz f.2.2.2.2.1 1
 unfold er
 repeat' split
 ·exact ⟨hm,w3,w4,w5⟩
 ·exact ⟨hm,w3,hl _,w5⟩
 ·exact ⟨hm,w3,by simp [eN],by simp [eN]⟩
 ·exact ⟨hm,w3,w4,hl _⟩
 ·exact ⟨hm.set _ w3.1 w3.2,w3,w4,w5⟩
 ·exact ⟨hm.set _ ha.1 ha.2,w3,by simp [eN],by simp [eN]⟩
theorem afL {c:CF} {m:List Int} {f:FR} (hm:Wm m) (hf:Wf f):Wm (iK c m f).1∧Wf (iK c m f).2:=by
 have hl:=fun i=>ct hm i
 obtain ⟨w3,w4,w5⟩:=hf
 have ha:=gz f.2.2.2.2.1 1
 have hb:=gz f.2.2.2.2.2.1 1
 have hs:=fun a b=>Td a b
 unfold iK
 dsimp only
 split
 ·exact ⟨hm,w3,w4,w5⟩
 split
 ·exact ⟨hm,w3,hs _ _,w5⟩
 split
 ·exact ⟨hm.set _ w4.1 w4.2,w3,w4,w5⟩
 split
 ·exact ⟨hm,w3,w4,hl _⟩
 split
 ·split
  ·exact ⟨hm,hl _,by simp [eN],by simp [eN]⟩
  ·exact ⟨hm,hl _,w4,w5⟩
 split
 ·exact ⟨hm.cas _ _ hb.1 hb.2,w3,w4,w5⟩
 split
 ·exact ⟨hm.set _ ha.1 ha.2,w3,by simp [eN],by simp [eN]⟩
 ·exact ⟨hm.set _ ha.1 ha.2,by simp [eN],by simp [eN],by simp [eN]⟩
theorem Rw {c:CF} {m:List Int} {f:FR} (hm:Wm m) (hf:Wf f):Wm (a9 c m f).1∧Wf (a9 c m f).2:=by
 have hl:=fun i=>ct hm i
 obtain ⟨w3,w4,w5⟩:=hf
 have hb:=gz f.2.2.2.2.2.1 1
 unfold a9
 dsimp only
 split
 ·exact ⟨hm,w3,w4,w5⟩
 split
 ·exact ⟨hm,w3,w4,hl _⟩
 split
 ·split
  ·exact ⟨hm,by simp [eN],by simp [eN],by simp [eN]⟩
  ·exact ⟨hm,w3,hl _,w5⟩
 split
 ·exact ⟨hm,hl _,w4,w5⟩
 split
 ·exact ⟨hm.cas _ _ hb.1 hb.2,w3,by simp [eN],by simp [eN]⟩
 ·exact ⟨hm.cas _ _ hb.1 hb.2,by simp [eN],by simp [eN],by simp [eN]⟩
theorem Kb {c:CF} {m:List Int} {f:FR} (hm:Wm m) (hf:Wf f):Wm (dq c m f).1∧Wf (dq c m f).2:=by
 unfold dq B3
 split
 ·split
  ·exact ZA hm hf
  ·split
   ·exact afL hm hf
   ·split
    ·exact Rw hm hf
    ·exact ⟨hm,hf⟩
 ·exact Pg hm hf
structure WOk (n:Nat) (x:WB):Prop where
 f:Wf x.2.2.1
 s:x.2.1.length≤n
 sp:x.2.2.2.1≤9223372036854775807
structure SOk (x:SB):Prop where
 f:Wf x.2.2
 s:x.2.1.length≤1000
theorem Xa (a:Int):0≤IntKind.u64.wrap a∧IntKind.u64.wrap a≤18446744073709551615:=by
 rw [ip]
 omega
section
variable {c:CF} {t:Tyt} {m:List Int} {w:Int} {x:WB} {d:Int} {n:Nat}
theorem Xl (hm:Wm m) (hf:Wf x.2.2.1):Wm (bc c t m w x d).1:=by
 have h1:=(Kb (c:=c) hm hf).1
 have h2:=fun a b=>gz a b
 refine ir (P:=fun r=>Wm r.1) (fun _=>hm) ?_ ?_ ?_ ?_ ?_ ?_ ?_ ?_ ?_ ?_ ?_ ?_ ?_ ?_ ?_
 all_goals intro _ _
 all_goals dsimp only [HM,wD,mX,lq,uQ,nf,eC,gD,J9,rK,pI,pw,HE,rX,rP]
 all_goals repeat' split
 all_goals (try dsimp only)
 all_goals first | exact hm | exact h1 | exact hm.set _ (h2 _ _).1 (h2 _ _).2
theorem Zn (hm:Wm m) (hf:Wf x.2.2.1):Wf (bc c t m w x d).2.1.2.2.1:=by
 have h1:=(Kb (c:=c) hm hf).2
 have h2:=fun i=>ct hm i
 have h3:=fun a=>Xa a
 have z:Wf dc:=by simp [Wf,dc]
 have zr:(0:Int)≤0∧(0:Int)≤18446744073709551615:=by decide
 have b:∀ op w,Wf (wE op w 0):=fun op w=>by simp [Wf,wE]
 have b2:∀ op w v,0≤v∧v≤18446744073709551615→Wf (wE op w v):=fun op w v h=>⟨h,by simp [wE],by simp [wE]⟩
 obtain ⟨w3,w4,w5⟩:=hf
 refine ir (P:=fun r=>Wf r.2.1.2.2.1) (fun _=>⟨w3,w4,w5⟩) ?_ ?_ ?_ ?_ ?_ ?_ ?_ ?_ ?_ ?_ ?_ ?_ ?_ ?_ ?_
 all_goals intro _ _
 all_goals dsimp only [HM,wD,mX,lq,uQ,nf,eC,gD,J9,rK,pI,pw,HE,rX,rP,toW,iQ,E3]
 all_goals repeat' split
 all_goals (try dsimp only)
 all_goals first | exact h1 | exact z | exact b _ _ | exact b2 _ _ _ (h3 _) | exact b2 _ _ _ h1.1 | exact ⟨w3,w4,w5⟩ | exact ⟨h2 _,w4,w5⟩ | exact ⟨h2 4,w4,w5⟩ | exact ⟨zr,w4,w5⟩
theorem Ys (hc:cY c=true) (hs:x.2.2.2.1≤9223372036854775807):(bc c t m w x d).2.1.2.2.2.1≤9223372036854775807:=by
 have h4:=aA hc
 refine ir (P:=fun r=>r.2.1.2.2.2.1≤9223372036854775807) (fun _=>hs) ?_ ?_ ?_ ?_ ?_ ?_ ?_ ?_ ?_ ?_ ?_ ?_ ?_ ?_ ?_
 all_goals intro _ _
 all_goals dsimp only [HM,wD,mX,lq,uQ,nf,eC,gD,J9,rK,pI,pw,HE,rX,rP,toW,iQ]
 all_goals repeat' split
 all_goals (try dsimp only)
 all_goals omega
theorem Y1 (hc:cY c=true) (hm:Wm m) (h:WOk n x):WOk (n+1) (bc c t m w x d).2.1:=
 ⟨Zn hm h.f,by have:=QL (c:=c) (t:=t) (m:=m) (w:=w) (x:=x) (d:=d);have:=h.s;omega,Ys hc h.sp⟩
end
section
variable {c:CF} {t:Tyt} {m:List Int} {i:Int} {x:SB}
theorem RD:One m (fH c t m i x).1:=by
 unfold fH
 dsimp only
 repeat' split
 all_goals first | exact One.same m | exact One.store m _ _ | (dsimp only;exact One.store m _ _) | exact KD c m _
theorem Jx:(fH c t m i x).1.length=m.length:=RD.len
theorem ul:(fH c t m i x).2.1.2.1=x.2.1∨(fH c t m i x).2.1.2.1=x.2.1.tail∧(fH c t m i x).2.1.1=0:=by
 unfold fH
 dsimp only
 repeat' split
 all_goals first | exact .inl rfl | exact .inr ⟨rfl,rfl⟩
theorem SL:(fH c t m i x).2.2.length≤2:=by
 unfold fH
 dsimp only
 repeat' split
 all_goals simp
theorem afF (h:0≤x.1∧x.1<6):0≤(fH c t m i x).2.1.1∧(fH c t m i x).2.1.1<6:=by
 unfold fH
 dsimp only
 repeat' split
 all_goals (try dsimp only)
 all_goals omega
theorem aaR (h:uP t x=true) (hm:wC c t m x=true):uP t (fH c t m i x).2.1=true:=by
 unfold uP at h ⊢
 simp only [Bool.and_eq_true,decide_eq_true_eq,List.all_eq_true,Bool.or_eq_true] at h ⊢
 obtain ⟨_,_,_,h4,h5,r,rest,hx,h6,h7⟩:=AR hm
 refine ⟨⟨afF h.1.1,fun y hy => ?_⟩,?_⟩
 ·rcases ul (c:=c) (t:=t) (m:=m) (i:=i) (x:=x) with e | e
  ·rw [e] at hy;exact h.1.2 y hy
  ·rw [e.1] at hy;exact h.1.2 y (List.mem_of_mem_tail hy)
 ·rcases ul (c:=c) (t:=t) (m:=m) (i:=i) (x:=x) with e | e
  ·refine .inr ?_
   rw [e,hx]
   simp
  ·exact .inl e.2
theorem afc (hm:Wm m) (ht:t.length≤1000) (h:SOk x):SOk (fH c t m i x).2.1:=by
 refine ⟨(VP hm h.f ht).2,?_⟩
 have:=h.s
 rcases ul (c:=c) (t:=t) (m:=m) (i:=i) (x:=x) with e | e
 ·rw [e];exact h.s
 ·rw [e.1,List.length_tail];omega
end
structure Good (n:Nat) (p:PB):Prop where
 t:FwT p.2.1
 tl:p.2.1.length≤1000
 m:Wm p.2.2.1
 w:∀ x ∈ p.2.2.2.1,WOk n x
 s:∀ x ∈ p.2.2.2.2,SOk x
theorem Bq {c:CF} {t:Tyt} {m:List Int}:∀ {l:List WB} {i:Nat},GM c t m i l=true↔∀ (j:Nat) x,l[j]? = some x→d8 c t m ((i+j:Nat):Int) x=true
 | [],i=>by simp [GM]
 | y::l,i=>by
  rw [GM,Bool.and_eq_true,Bq (l:=l)]
  constructor
  ·intro h j x hx
   cases j with
   | zero=>cases hx;exact h.1
   | succ j=>
    have:=h.2 j x hx
    rw [show i+(j+1)=i+1+j by omega]
    exact this
  ·intro h
   refine ⟨h 0 y rfl,fun j x hx => ?_⟩
   have:=h (j+1) x hx
   rw [show i+1+j=i+(j+1) by omega]
   exact this
theorem Bi {c:CF} {t:Tyt} {m m':List Int} {w:Int} {x:WB} (h:m'.length=m.length):d8 c t m' w x=d8 c t m w x:=by
 unfold d8
 rw [h]
theorem nU {p:PB} (h:iU p=true):cY p.1=true∧(p.2.2.2.1.length:Int)=p.1.1∧p.2.2.2.2.length≤3∧(∀ (j:Nat) x,p.2.2.2.1[j]? = some x→d8 p.1 p.2.1 p.2.2.1 (j:Int) x=true)∧(∀ x ∈ p.2.2.2.2,uP p.2.1 x=true):=by
 unfold iU at h
 simp only [Bool.and_eq_true,decide_eq_true_eq,List.all_eq_true] at h
 refine ⟨h.1.1.1,h.1.1.2.1,h.1.1.2.2,fun j x hx => ?_,h.2⟩
 have:=Bq.1 h.1.2 j x hx
 rw [Nat.zero_add] at this
 exact this
theorem Et {p:PB} (h1:cY p.1=true) (h2:(p.2.2.2.1.length:Int)=p.1.1) (h3:p.2.2.2.2.length≤3) (h4:∀ (j:Nat) x,p.2.2.2.1[j]? = some x→d8 p.1 p.2.1 p.2.2.1 (j:Int) x=true) (h5:∀ x ∈ p.2.2.2.2,uP p.2.1 x=true):iU p=true:=by
 unfold iU
 simp only [Bool.and_eq_true,decide_eq_true_eq,List.all_eq_true]
 refine ⟨⟨⟨h1,h2,h3⟩,Bq.2 fun j x hx => ?_⟩,h5⟩
 rw [Nat.zero_add]
 exact h4 j x hx
theorem HW {α:Type} {l:List α} {i:Nat} {y x:α} (h:x ∈ l.set i y):x ∈ l∨x=y:=by
 rcases List.mem_or_eq_of_mem_set h with h | h
 ·exact .inl h
 ·exact .inr h
theorem m8 {p:PB} {k:PK} {P:PB×List EV→Prop} (h0:P (p,[]))
  (hw:∀ x,p.2.2.2.1[k.2.1.toNat]? = some x→k.1=0→P ((p.1,p.2.1,(bc p.1 p.2.1 p.2.2.1 k.2.1 x k.2.2).1,p.2.2.2.1.set k.2.1.toNat (bc p.1 p.2.1 p.2.2.1 k.2.1 x k.2.2).2.1,p.2.2.2.2),(bc p.1 p.2.1 p.2.2.1 k.2.1 x k.2.2).2.2))
  (hs:∀ x,p.2.2.2.2[k.2.1.toNat]? = some x→wC p.1 p.2.1 p.2.2.1 x=true→P ((p.1,p.2.1,(fH p.1 p.2.1 p.2.2.1 k.2.1 x).1,p.2.2.2.1,p.2.2.2.2.set k.2.1.toNat (fH p.1 p.2.1 p.2.2.1 k.2.1 x).2.1),(fH p.1 p.2.1 p.2.2.1 k.2.1 x).2.2))
  (hc:P ((p.1,p.2.1,ao p.2.2.1 3 1,p.2.2.2.1,p.2.2.2.2),[])):P (eM p k):=by
 unfold eM
 split
 ·rename_i e
  split
  ·rename_i x hx;exact hw x hx e
  ·exact h0
 ·split
  ·split
   ·rename_i x hx
    split
    ·rename_i hm;exact hs x hx hm
    ·exact h0
   ·exact h0
  ·split
   ·exact hc
   ·exact h0
theorem S8 {p:PB} {k:PK}:(eM p k).1.2.2.1.length=p.2.2.1.length:=by
 refine m8 (P:=fun r=>r.1.2.2.1.length=p.2.2.1.length) rfl (fun x _ _=>E8.len) (fun x _ _=>Jx) (show (ao p.2.2.1 3 1).length=p.2.2.1.length from iG)
theorem A1 {p:PB} {k:PK}:(eM p k).1.1=p.1∧(eM p k).1.2.1=p.2.1∧(eM p k).1.2.2.2.1.length=p.2.2.2.1.length∧(eM p k).1.2.2.2.2.length=p.2.2.2.2.length:=by
 refine m8 (P:=fun r=>r.1.1=p.1∧r.1.2.1=p.2.1∧r.1.2.2.2.1.length=p.2.2.2.1.length∧r.1.2.2.2.2.length=p.2.2.2.2.length) ⟨rfl,rfl,rfl,rfl⟩ (fun x _ _=>⟨rfl,rfl,List.length_set,rfl⟩) (fun x _ _=>⟨rfl,rfl,rfl,List.length_set⟩) ⟨rfl,rfl,rfl,rfl⟩
theorem Lv {p:PB} {k:PK}:(eM p k).2.length≤2:=
 m8 (P:=fun r=>r.2.length≤2) (Nat.zero_le _) (fun x _ _=>SY) (fun x _ _=>SL) (Nat.zero_le _)
theorem pS {n:Nat} {p:PB} {k:PK} (h:Good n p) (hc:cY p.1=true):Good (n+1) (eM p k).1:=by
 have up:∀ x ∈ p.2.2.2.1,WOk (n+1) x:=fun x hx=>⟨(h.w x hx).f,Nat.le_succ_of_le (h.w x hx).s,(h.w x hx).sp⟩
 refine m8 (P:=fun r=>Good (n+1) r.1) ⟨h.t,h.tl,h.m,up,h.s⟩ (fun x hx _ => ?_) (fun x hx _ => ?_) ⟨h.t,h.tl,show Wm (ao p.2.2.1 3 1) from h.m.set 3 (by decide) (by decide),up,h.s⟩
 ·have hx':=h.w x (List.mem_of_getElem? hx)
  refine ⟨h.t,h.tl,Xl h.m hx'.f,fun y hy => ?_,h.s⟩
  rcases HW hy with hy | rfl
  ·exact up y hy
  ·exact Y1 hc h.m hx'
 ·have hx':=h.s x (List.mem_of_getElem? hx)
  refine ⟨h.t,h.tl,(VP h.m hx'.f h.tl).1,up,fun y hy => ?_⟩
  rcases HW hy with hy | rfl
  ·exact h.s y hy
  ·exact afc h.m h.tl hx'
theorem rx {p:PB} {k:PK} (h:iU p=true) (hk:B5 k p.1.1 p.2.2.2.2.length=true):iU (eM p k).1=true:=by
 obtain ⟨h1,h2,h3,h4,h5⟩:=nU h
 refine m8 (P:=fun r=>iU r.1=true) h (fun x hx hk0 => ?_) (fun x hx hm => ?_) ?_
 ·have h0:0≤k.2.1:=by
   unfold B5 at hk
   rw [decide_eq_true_eq] at hk
   omega
  have hkk:((k.2.1.toNat:Nat):Int)=k.2.1:=by omega
  refine Et h1 (by dsimp only;rw [List.length_set];exact h2) h3 (fun j y hy => ?_) h5
  dsimp only at hy ⊢
  rw [List.getElem?_set] at hy
  split at hy
  ·rename_i e
   split at hy
   ·cases hy
    subst e
    rw [hkk]
    have:=h4 _ x hx
    rw [hkk] at this
    exact Tx this
   ·cases hy
  ·rw [Bi E8.len]
   exact h4 j y hy
 ·refine Et h1 h2 (by dsimp only;rw [List.length_set];exact h3) (fun j y hy => ?_) fun y hy => ?_
  ·dsimp only
   rw [Bi Jx]
   exact h4 j y hy
  ·rcases HW hy with hy | rfl
   ·exact h5 y hy
   ·exact aaR (h5 x (List.mem_of_getElem? hx)) hm
 ·refine Et h1 h2 h3 (fun j y hy => ?_) h5
  dsimp only
  rw [Bi iG]
  exact h4 j y hy
theorem Jm {P:PB→Prop} (hs:∀ p k,iU p=true→B5 k p.1.1 p.2.2.2.2.length=true→P p→P (eM p k).1):∀ {l:List PK} {p:PB},iU p=true→P p→P (lz p l).1∧iU (lz p l).1=true
 | [],p,h,hp=>⟨hp,h⟩
 | k::l,p,h,hp=>by
  rw [lz]
  split
  ·rename_i hk
   exact Jm hs (rx h hk) (hs p k h hk hp)
  ·exact Jm hs h hp
end Go.Ab
set_option linter.unusedVariables false
set_option linter.unusedSimpArgs false
namespace Go.Ab
theorem aa1 (n w:Int):cI n w=some (decide (0≤n∧n<w)):=by
 unfold cI
 by_cases h0:0≤n
 ·rw [leT h0,cond_true]
  by_cases h1:n<w
  ·rw [ltT h1,decide_eq_true ⟨h0,h1⟩]
  ·rw [ltF (by omega),decide_eq_false (by omega)]
 ·rw [leF (by omega),cond_false,decide_eq_false (by omega)]
theorem YL (k:PK) (w s:Int):gR k w s=some (B5 k w s):=by
 unfold gR B5
 simp only [aa1,ab,ni]
 by_cases h0:k.1=0
 ·by_cases hb:0≤k.2.1∧k.2.1<w
  ·simp [h0,hb]
  ·simp [h0,hb]
 ·by_cases h1:k.1=1
  ·by_cases hb:0≤k.2.1∧k.2.1<s
   ·simp [h1,hb]
   ·simp [h1,hb]
  ·by_cases h2:k.1=2
   ·simp [h2]
   ·simp [h0,h1,h2]
theorem w6 {α:Type}:∀ {l:List α} {i:Nat} {x:α},l[i]? = some x→l.set i x=l
 | [],_,_,h=>by cases h
 | a::l,0,x,h=>by cases h;rfl
 | a::l,i+1,x,h=>by rw [List.set_cons_succ,w6 (l:=l) (by simpa using h)]
theorem aly {i n:Nat} (h:i<n):decide ((0:Int)≤(i:Int)∧(i:Int).toNat<n)=true:=decide_eq_true ⟨by omega,by omega⟩
theorem Ox (k:Nat) (hk:1000≤k) {t:Tyt} (ht:FwT t):dE k t=some t:=by
 have hl:=ht.len
 unfold dE
 rw [bM (by omega),ab]
 have key:∀ (r:Tyt) (q n:Nat),t.drop q=r→q≤t.length→r.length<n→dm k t n t (t.length:Int) (q:Int) t=some t:=by
  intro r
  induction r with
  | nil=>
   intro q n hr hq hn
   obtain ⟨n,rfl⟩:=gS hn
   have:=cV hr
   rw [dm,ltF (by omega),cond_false,decide_eq_true (Nat.le_refl _),cq,List.take_length]
  | cons v r ih=>
   intro q n hr hq hn
   obtain ⟨n,rfl⟩:=gS hn
   obtain ⟨h0,h1,h2,_,h4⟩:=bW hr
   have hv:=ht.kids v (List.mem_of_getElem? h1)
   rw [dm,ltN h0,cond_true,aly h0,cond_true,Int.toNat_natCast,h1,ab,bM (by omega),ab,cond_true,ab,gr (by omega),w6 h1]
   exact ih (q+1) n h2 (by omega) (by simp only [List.length_cons] at hn;omega)
 have:=key t 0 (k+1) rfl (Nat.zero_le _) (by omega)
 simpa using this
theorem agH (k n:Nat) {t:Tyt} {l:List Int} (hl:l.length≤1000) (hn:l.length<n):cj k n l (l.length:Int) t 0=some (MN (fun r => !decide (0≤r∧r<(t.length:Int))) l 0):=by
 refine PQ (F:=fun n i=>cj k n l (l.length:Int) t i) (l:=l) _ ?_ ?_ n hn
 ·intro n
  simp only [cj,Dh,cond_false]
 ·intro n i x hi hx
  simp only [cj,ltN hi,cond_true,fJ hx,ab]
  rw [gr (by omega)]
  by_cases h0:x<0
  ·rw [ltT h0,cond_true,decide_eq_false (by omega)]
   rfl
  ·rw [ltF (by omega),cond_false]
   by_cases h1:(t.length:Int)≤x
   ·rw [leT h1,cond_true,decide_eq_false (by omega)]
    rfl
   ·rw [leF (by omega),cond_false,decide_eq_true (by omega)]
    rfl
theorem afI (k n:Nat) (hk:1000≤k) {t:Tyt} {S:List SB} (hS:S.length≤1000) (hr:∀ x ∈ S,x.2.1.length≤1000) (hn:S.length<n):bN k n S (S.length:Int) t 0=some (MN (fun x => !uP t x) S 0):=by
 refine PQ (F:=fun n i=>bN k n S (S.length:Int) t i) (l:=S) _ ?_ ?_ n hn
 ·intro n
  simp only [bN,Dh,cond_false]
 ·intro n i x hi hx
  have hx':=hr x (List.mem_of_getElem? hx)
  have ho:=agH k (k+29) (t:=t) hx' (by omega)
  simp only [bN,ltN hi,cond_true,fJ hx,ab,ho,Ai]
  rw [gr (by omega)]
  have e:uP t x=(decide (0≤x.1∧x.1<6) && !(x.2.1.any fun r => !decide (0≤r∧r<(t.length:Int)))&&(decide (x.1=0)||decide (x.2.1≠[]))):=by
   unfold uP
   rw [List.all_eq_not_any_not]
  rw [e,Hl,ni]
  by_cases h0:x.1<0
  ·rw [ltT h0,cond_true,decide_eq_false (show ¬ (0≤x.1∧x.1<6) by omega)]
   rfl
  ·rw [ltF (by omega),cond_false]
   by_cases h6:6≤x.1
   ·rw [leT h6,cond_true,decide_eq_false (show ¬ (0≤x.1∧x.1<6) by omega)]
    rfl
   ·rw [leF (by omega),cond_false,decide_eq_true (show 0≤x.1∧x.1<6 by omega)]
    cases (x.2.1.any fun r => !decide (0≤r∧r<(t.length:Int))) with
    | true=>rfl
    | false=>
     rw [cond_false]
     by_cases hz:x.1=0
     ·rw [decide_eq_true hz]
      rfl
     ·rw [decide_eq_false hz,Bool.not_false,cond_true]
      by_cases hn:x.2.1=[]
      ·rw [hn]
       rfl
      ·have hl:¬ ((x.2.1.length:Int)=0):=by
        intro h
        exact hn (List.length_eq_zero_iff.1 (by omega))
       rw [decide_eq_false hl,decide_eq_true hn]
       rfl
section
variable {k:Nat} (hk:9223372036854779000≤k) {p:PB} (ht:Wt p.2.1) (hw:∀ x ∈ p.2.2.2.1,x.2.1.length≤9000) (hs:∀ x ∈ p.2.2.2.2,x.2.1.length≤1000)
include hk ht hw hs
theorem VR:eH k p=some (iU p):=by
 unfold eH iU
 simp only [Prod.eta,gL,ab]
 cases hm:cY p.1 with
 | false=>rfl
 | true=>
  have hc:=aA hm
  rw [Bool.not_true,cond_false,Bool.true_and,Hl]
  by_cases h1:(p.2.2.2.1.length:Int)=p.1.1
  ·rw [decide_eq_true h1,Bool.not_true,cond_false]
   by_cases h3:(3:Int)<p.2.2.2.2.length
   ·rw [ltT h3,cond_true,decide_eq_false (by omega)]
    rfl
   ·rw [ltF (by omega),cond_false,decide_eq_true ⟨h1,by omega⟩,Bool.true_and]
    have key:∀ (r:List WB) (q n:Nat),p.2.2.2.1.drop q=r→q≤p.2.2.2.1.length→r.length<n→ej k p n (q:Int)=some (GM p.1 p.2.1 p.2.2.1 q r&&p.2.2.2.2.all (uP p.2.1)):=by
     intro r
     induction r with
     | nil=>
      intro q n hr hq hn
      obtain ⟨n,rfl⟩:=gS hn
      have:=cV hr
      rw [ej,ltF (by omega),cond_false,afI k (k+32) (by omega) (by omega) hs (by omega),ab,Ai,GM,Bool.true_and,List.all_eq_not_any_not]
     | cons v r ih=>
      intro q n hr hq hn
      obtain ⟨n,rfl⟩:=gS hn
      obtain ⟨h0,h1',h2,_,h4⟩:=bW hr
      have hv:=hw v (List.mem_of_getElem? h1')
      rw [ej,ltN h0,cond_true,fJ h1',ab]
      try simp only [Prod.eta]
      rw [Qx (by omega) p.1 ht p.2.2.1 (q:Int) v hv,ab,GM,gr (by omega),ih (q+1) n h2 (by omega) (by simp only [List.length_cons] at hn;omega)]
      cases d8 p.1 p.2.1 p.2.2.1 (q:Int) v <;> rfl
    have:=key p.2.2.2.1 0 (k+33) rfl (Nat.zero_le _) (by omega)
    simpa using this
  ·rw [decide_eq_false h1,Bool.not_false,cond_true,decide_eq_false (fun h=>h1 h.1)]
   rfl
end
theorem N7 (k:Nat) (c1 c2 c3 c4:Int) (t:Tyt) (m:List Int) (W:List WB) {S:List SB} (hS:S.length≤1000) (hr:∀ x ∈ S,x.2.1.length≤1000):∀ (r:List SB) (q n:Nat),S.drop q=r→q≤S.length→r.length<n →
  cP k n c1 c2 c3 c4 t m W S (S.length:Int) W (q:Int) S=some (c1,c2,c3,c4,t,m,W,S,W,S):=by
 intro r
 induction r with
 | nil=>
  intro q n hr hq hn
  obtain ⟨n,rfl⟩:=gS hn
  have:=cV hr
  rw [cP,ltF (by omega),cond_false]
 | cons v r ih=>
  intro q n hr' hq hn
  obtain ⟨n,rfl⟩:=gS hn
  obtain ⟨h0,h1,h2,_,h4⟩:=bW hr'
  have hv:=hr v (List.mem_of_getElem? h1)
  rw [cP,ltN h0,cond_true,aly h0,cond_true,Int.toNat_natCast,h1,ab,bM (by omega),ab,cond_true,ab,gr (by omega)]
  try simp only [Prod.eta]
  rw [w6 h1]
  exact ih (q+1) n h2 (by omega) (by simp only [List.length_cons] at hn;omega)
theorem Ub (k:Nat) (hk:1000≤k) (c1 c2 c3 c4:Int) (t:Tyt) (m:List Int) {W:List WB} {S:List SB} (hW:W.length≤1000) (hw:∀ x ∈ W,x.2.1.length≤9000) (hS:S.length≤1000) (hs:∀ x ∈ S,x.2.1.length≤1000):∀ (r:List WB) (q n:Nat),W.drop q=r→q≤W.length→r.length<n →
  bO k n c1 c2 c3 c4 t m W S (W.length:Int) (q:Int) W=some (c1,c2,c3,c4,t,m,W,S,W,S):=by
 intro r
 induction r with
 | nil=>
  intro q n hr hq hn
  obtain ⟨n,rfl⟩:=gS hn
  have:=cV hr
  rw [bO,ltF (by omega),cond_false]
  exact N7 k c1 c2 c3 c4 t m W hS hs S 0 (k+61) rfl (Nat.zero_le _) (by omega)
 | cons v r ih=>
  intro q n hr' hq hn
  obtain ⟨n,rfl⟩:=gS hn
  obtain ⟨h0,h1,h2,_,h4⟩:=bW hr'
  have hv:=hw v (List.mem_of_getElem? h1)
  rw [bO,ltN h0,cond_true,aly h0,cond_true,Int.toNat_natCast,h1,ab,bM (by omega),ab,cond_true,ab,gr (by omega)]
  try simp only [Prod.eta]
  rw [w6 h1]
  exact ih (q+1) n h2 (by omega) (by simp only [List.length_cons] at hn;omega)
def Wp (l:List PK):Prop:=∀ x ∈ l,0≤x.2.2∧x.2.2≤18446744073709551615
section
variable {k:Nat} (hk:9223372036854779000≤k) {p0:PB} {l:List PK} (hl:l.length≤1000) (hd:Wp l)
include hk hl hd
theorem UM:∀ (r:List PK) (q n N:Nat) (p:PB) (W0:List WB) (S0:List SB) (evs:List EV) (e:Nat),l.drop q=r→q≤l.length→r.length<n→(e=3∨e=0)→p.1=p0.1→p.2.2.2.2.length=p0.2.2.2.2.length→W0.length=p.2.2.2.1.length→S0.length=p.2.2.2.2.length→Good N p→iU p=true→N+r.length≤9000→evs.length+2*r.length≤4000 →
  bE k p0 l n p.1.1 p.1.2.1 p.1.2.2.1 p.1.2.2.2 p.2.1 W0 S0 p.2.2.2.1 p.2.2.2.2 evs (q:Int) p.2.2.1 e=some ((lz p r).1,evs++(lz p r).2):=by
 intro r
 induction r with
 | nil=>
  intro q n N p W0 S0 evs e hr hq hn he hc hS hW0 hS0 hg hm hN hE
  obtain ⟨n,rfl⟩:=gS hn
  have:=cV hr
  rw [bE,ltF (by omega),cond_false,decide_eq_true (by omega),cq,decide_eq_true (by omega),cq,hW0,hS0,List.take_length,List.take_length,lz,List.append_nil]
 | cons v r ih=>
  intro q n N p W0 S0 evs e hr hq hn he hc hS hW0 hS0 hg hm hN hE
  obtain ⟨n,rfl⟩:=gS hn
  obtain ⟨h0,h1,h2,_,h4⟩:=bW hr
  have hv:=hd v (List.mem_of_getElem? h1)
  obtain ⟨m1,m2,m3,m4,m5⟩:=nU hm
  have hcc:=aA m1
  simp only [List.length_cons] at hn hN hE
  have hml:p.2.2.1.length≤1000:=by
   have hW1:0<p.2.2.2.1.length:=by omega
   have:=(IX (m4 0 _ (List.getElem?_eq_getElem hW1))).2.1
   have:=rU m1
   omega
  have hes:(e==3||e==0)=true:=by rcases he with rfl | rfl <;> rfl
  have next:∀ (evs':List EV) (p':PB),p'.1=p.1→p'.2.1=p.2.1→p'.2.2.2.1.length=p.2.2.2.1.length→p'.2.2.2.2.length=p.2.2.2.2.length→Good (N+1) p'→iU p'=true→evs'.length≤evs.length+2→∀ e',(e'=3∨e'=0) →
    bE k p0 l n p.1.1 p.1.2.1 p.1.2.2.1 p.1.2.2.2 p.2.1 W0 S0 p'.2.2.2.1 p'.2.2.2.2 evs' ((q+1:Nat):Int) p'.2.2.1 e'=some ((lz p' r).1,evs'++(lz p' r).2):=fun evs' p' g1 g2 g3 g4 g5 g6 g7 e' he'=>by
   have:=ih (q+1) n (N+1) p' W0 S0 evs' e' h2 (by omega) (by omega) he' (by rw [g1,hc]) (by omega) (by omega) (by omega) g5 g6 (by omega) (by omega)
   rw [g1,g2] at this
   exact this
  have hw:IntKind.i64.wrap ((q:Int)+1)=((q+1:Nat):Int):=gr (by omega)
  have up:Good (N+1) p:=⟨hg.t,hg.tl,hg.m,fun x hx=>⟨(hg.w x hx).f,Nat.le_succ_of_le (hg.w x hx).s,(hg.w x hx).sp⟩,hg.s⟩
  rw [bE,ltN h0,cond_true,fJ h1,ab]
  simp only [Prod.eta,hw]
  rw [YL,ab,lz,← hc,← hS]
  cases hf:B5 v p.1.1 p.2.2.2.2.length with
  | false=>
   rw [cond_false,if_neg (by simp)]
   exact next evs p rfl rfl rfl rfl up hm (by omega) e he
  | true=>
   have st:=A1 (p:=p) (k:=v)
   have sg:=pS (k:=v) hg m1
   have sm:=rx hm hf
   have se:=Lv (p:=p) (k:=v)
   have nx:=fun e' he'=>next (evs++(eM p v).2) (eM p v).1 st.1 st.2.1 st.2.2.1 st.2.2.2 sg sm (by rw [List.length_append];omega) e' he'
   have hroom:room (evs++(eM p v).2).length 24=true:=Gj (by rw [List.length_append];omega)
   have hroom0:room evs.length 24=true:=Gj (by omega)
   rw [cond_true,if_pos rfl]
   simp only [← List.append_assoc]
   have hfit:=hf
   unfold B5 at hfit
   rw [decide_eq_true_eq] at hfit
   by_cases k0:v.1=0
   ·have hb:0≤v.2.1∧v.2.1<p.1.1:=by omega
    have hi:v.2.1.toNat<p.2.2.2.1.length:=by omega
    have hx:=List.getElem?_eq_getElem hi
    have hdec:decide (0≤v.2.1∧v.2.1.toNat<W0.length)=true:=decide_eq_true ⟨hb.1,by omega⟩
    generalize p.2.2.2.1[v.2.1.toNat]=x at hx
    have hxo:=hg.w x (List.mem_of_getElem? hx)
    have es:eM p v=((p.1,p.2.1,(bc p.1 p.2.1 p.2.2.1 v.2.1 x v.2.2).1,p.2.2.2.1.set v.2.1.toNat (bc p.1 p.2.1 p.2.2.1 v.2.1 x v.2.2).2.1,p.2.2.2.2),(bc p.1 p.2.1 p.2.2.1 v.2.1 x v.2.2).2.2):=by
     unfold eM
     rw [if_pos k0,hx]
    rw [ni,decide_eq_true k0,cond_true,hdec,cond_true,hx,ab]
    try simp only [Prod.eta]
    rw [Vb (by omega) p.1 hg.t.wt hg.m hml v.2.1 hxo.f (by have:=hxo.s;omega) (by have:=hxo.sp;omega) hv,ab,cond_true,ab,hes,cq]
    rw [es] at nx hroom ⊢
    rw [hroom,cond_true]
    exact nx 3 (.inl rfl)
   ·rw [ni,decide_eq_false k0,cond_false]
    by_cases k1:v.1=1
    ·have hb:0≤v.2.1∧v.2.1<(p.2.2.2.2.length:Int):=by omega
     have hi:v.2.1.toNat<p.2.2.2.2.length:=by omega
     have hx:=List.getElem?_eq_getElem hi
     have hdec:decide (0≤v.2.1∧v.2.1.toNat<S0.length)=true:=decide_eq_true ⟨hb.1,by omega⟩
     generalize p.2.2.2.2[v.2.1.toNat]=x at hx
     have hxo:=hg.s x (List.mem_of_getElem? hx)
     rw [ni,decide_eq_true k1,cond_true,hdec,cond_true,hx,ab]
     try simp only [Prod.eta]
     rw [Wu (by omega) p.1 hg.t.wt,ab]
     cases hsm:wC p.1 p.2.1 p.2.2.1 x with
     | false=>
      have es:eM p v=(p,[]):=by
       unfold eM
       rw [if_neg k0,if_pos k1,hx]
       dsimp only
       rw [hsm,if_neg (by simp)]
      rw [es] at nx ⊢
      rw [cond_false,hes,cq,hroom0,cond_true]
      have:=nx 3 (.inl rfl)
      rw [List.append_nil] at this ⊢
      exact this
     | true=>
      have es:eM p v=((p.1,p.2.1,(fH p.1 p.2.1 p.2.2.1 v.2.1 x).1,p.2.2.2.1,p.2.2.2.2.set v.2.1.toNat (fH p.1 p.2.1 p.2.2.1 v.2.1 x).2.1),(fH p.1 p.2.1 p.2.2.1 v.2.1 x).2.2):=by
       unfold eM
       rw [if_neg k0,if_pos k1,hx]
       dsimp only
       rw [hsm,if_pos rfl]
      rw [cond_true,cond_true,ab]
      rw [YP (by omega) p.1 hg.t.wt hg.m hml v.2.1 hxo.f hxo.s hg.tl,ab,cond_true,ab,hes,cq]
      rw [es] at nx hroom ⊢
      rw [hroom,cond_true]
      exact nx 3 (.inl rfl)
    ·rw [ni,decide_eq_false k1,cond_false]
     by_cases k2:v.1=2
     ·have es:eM p v=((p.1,p.2.1,ao p.2.2.1 3 1,p.2.2.2.1,p.2.2.2.2),[]):=by
       unfold eM
       rw [if_neg k0,if_neg k1,if_pos k2]
      rw [ni,decide_eq_true k2,cond_true,lg hml,ab,hes,cq,hroom0,cond_true]
      rw [es] at nx ⊢
      have:=nx 3 (.inl rfl)
      rw [List.append_nil] at this ⊢
      exact this
     ·have es:eM p v=(p,[]):=by
       unfold eM
       rw [if_neg k0,if_neg k1,if_neg k2]
      rw [ni,decide_eq_false k2,cond_false,hes,cq,hroom0,cond_true]
      rw [es] at nx ⊢
      have:=nx 3 (.inl rfl)
      rw [List.append_nil] at this ⊢
      exact this
theorem ajC {N:Nat} (hg:Good N p0) (hW:p0.2.2.2.1.length≤20) (hS:p0.2.2.2.2.length≤20) (hml:p0.2.2.1.length≤1000) (hN:N+l.length≤9000):mq k p0 l=some (aii p0 l):=by
 have hw:∀ x ∈ p0.2.2.2.1,x.2.1.length≤9000:=fun x hx=>by have:=(hg.w x hx).s;omega
 have hs:∀ x ∈ p0.2.2.2.2,x.2.1.length≤1000:=fun x hx=>(hg.s x hx).s
 unfold mq aii
 try simp only [Prod.eta]
 rw [Ox _ (by omega) hg.t,ab,bM (by omega),ab,bM (by omega),ab,bM (by omega),ab]
 have ho:=Ub k (by omega) p0.1.1 p0.1.2.1 p0.1.2.2.1 p0.1.2.2.2 p0.2.1 p0.2.2.1 (by omega) hw (by omega) hs p0.2.2.2.1 0 (k+61) rfl (Nat.zero_le _) (by omega)
 refine (congrArg (fun z=>ob z _) ho).trans ?_
 rw [ab]
 dsimp only
 rw [decide_eq_true (Nat.le_refl _),cq,decide_eq_true (Nat.le_refl _),cq,VR (by omega) hg.t.wt hw hs,ab,List.take_length,List.take_length,decide_eq_true (Nat.le_refl _),decide_eq_true (Nat.le_refl _)]
 cases hm:iU p0 with
 | false=>
  rw [Bool.not_false,cond_true,cq,cq,if_neg (by simp),List.take_length,List.take_length]
 | true=>
  rw [Bool.not_true,cond_false,if_pos rfl]
  exact UM hk hl hd l 0 (k+62) N p0 p0.2.2.2.1 p0.2.2.2.2 [] 0 rfl (Nat.zero_le _) (by omega) (.inr rfl) rfl rfl rfl rfl hg hm hN (by simp;omega)
end
end Go.Ab
set_option linter.unusedVariables false
set_option linter.unusedSimpArgs false
namespace Go.Ab
theorem Pk (n:Nat) (i:Int):ah (List.replicate n 0) i=0:=by
 unfold ah
 split
 ·rw [List.getElem?_replicate]
  split <;> rfl
 ·rfl
theorem amt {k:Nat} (hk:1000≤k) (c:CF):mz k c=some (List.replicate (bG c).toNat 0):=by
 have hs:0≤bG c∧bG c≤190:=by
  unfold bG
  split
  ·rename_i h
   have hm:=aA h
   have:=dG h (w:=c.1) (by omega) (by omega)
   omega
  ·omega
 have key:∀ (d i n t:Nat),(t=0∨t=1)→i+d=(bG c).toNat→d<n→eW k c n (bG c) (List.replicate i 0) (i:Int) t=some (List.replicate (bG c).toNat 0):=by
  intro d
  induction d with
  | zero=>
   intro i n t ht hi hn
   obtain ⟨n,rfl⟩:=gS hn
   rw [eW,ltF (by omega),cond_false]
   rw [show i=(bG c).toNat by omega]
  | succ d ih=>
   intro i n t ht hi hn
   obtain ⟨n,rfl⟩:=gS hn
   have h1:(t==1||t==0)=true:=by rcases ht with rfl | rfl <;> rfl
   rw [eW,ltT (by omega),cond_true,h1,cq,Gj (by simp;omega),cond_true,gr (by omega)]
   have:=ih (i+1) n 1 (.inr rfl) (by omega) (by omega)
   rw [List.replicate_succ'] at this
   exact this
 unfold mz
 simp only [Prod.eta,Dt,ab]
 exact key (bG c).toNat 0 (k+3) 0 (.inl rfl) (by omega) (by omega)
theorem adg {l:List Int} (h:l.length≤1000):iF l=some (0,l,dc):=by
 unfold iF
 rw [bM (by omega),ab]
 rfl
theorem J5 {α:Type} (p:α→Bool):∀ (l:List α) (i:Nat),MN p l i = -1∨∃ (j:Nat) (x:α),MN p l i=((i+j:Nat):Int)∧l[j]? = some x∧p x=true
 | [],_ => .inl rfl
 | x::r,i=>by
  rw [MN]
  by_cases h:p x=true
  ·rw [if_pos h]
   exact .inr ⟨0,x,rfl,rfl,h⟩
  ·rw [if_neg h]
   rcases J5 p r (i+1) with e | ⟨j,y,e,h1,h2⟩
   ·exact .inl e
   ·refine .inr ⟨j+1,y,?_,h1,h2⟩
    rw [e]
    congr 1
    omega
theorem YZ (k:Nat) {l:List Int} (hl:l.length≤1000) (hk:1001≤k) (v:Int):dF k l v=some (MN (fun y=>v==y) l 0):=by
 unfold dF
 refine PQ (F:=fun n i=>bB k l v n i) (l:=l) _ ?_ ?_ k (by omega)
 ·intro n
  simp only [bB,Dh,cond_false]
 ·intro n i y hi hy
  simp only [bB,ltN hi,cond_true,fJ hy,ab]
  rw [gr (by omega)]
def RtB (t:Tyt) (y:Int):Prop:=(0≤y∧y<(t.length:Int))∧gB t y = -1
section
variable (k:Nat) (hk:9223372036854775808≤k)
include hk
theorem N0 (t:Tyt) (ht:Wt t) (q:Int):fk k t q=some (gB t q):=by
 have hlen:=ht.len
 rw [fk,Ii k hk t ht,ab]
 unfold gB
 cases hm:oq t with
 | false=>rfl
 | true=>
  rw [cond_true,if_pos rfl]
  have inner:∀ (x:Int×List Int) (hx:x ∈ t) (i:Nat) (hi:i<t.length) (o:Int→Option Int) (R:List (Int×Int)) (z:Int)
    (ho:o ((i+1:Nat):Int)=some (if (DL (iW q) R z).1 then -1 else (DL (iW q) R z).2)),
    ∀ r j n,x.2.drop j=r→r.length<n →
     bX k t q o n x.2 (x.2.length:Int) (j:Int) (i:Int)=some (if (DL (iW q) (r.map (fun p=>(p,(i:Int)))++R) z).1 then -1 else (DL (iW q) (r.map (fun p=>(p,(i:Int)))++R) z).2):=by
   intro x hx i hi o R z ho r
   have hxl:=ht.kids x hx
   induction r with
   | nil=>
    intro j n hr hn
    obtain ⟨n,rfl⟩:=gS hn
    have hj:=cV hr
    rw [bX,ltF (by omega),cond_false,gr (by omega),ho]
    rfl
   | cons p r ih=>
    intro j n hr hn
    obtain ⟨n,rfl⟩:=gS hn
    obtain ⟨a,b,c,d,e⟩:=bW hr
    rw [bX,ltN a,cond_true,fJ b,ab,List.map_cons,List.cons_append,DL,ni]
    by_cases h1:p=q
    ·simp [h1,iW]
    ·rw [decide_eq_false h1,cond_false,gr (by omega),ih (j+1) n c (by simp only [List.length_cons] at hn;omega)]
     simp [iW,h1]
     -- the number handed on is not changed
  have outer:∀ r i n (z:Int),t.drop i=r→i≤t.length→r.length<n→bk k t q n (i:Int)=some (if (DL (iW q) (fC i r) z).1 then -1 else (DL (iW q) (fC i r) z).2):=by
   intro r
   induction r with
   | nil=>
    intro i n z hr hi hn
    obtain ⟨n,rfl⟩:=gS hn
    have:=cV hr
    rw [bk,ltF (by omega),cond_false]
    rfl
   | cons x r ih=>
    intro i n z hr hi hn
    obtain ⟨n,rfl⟩:=gS hn
    obtain ⟨a,b,c,d,e⟩:=bW hr
    have hxl:=ht.kids x d
    rw [bk,ltN a,cond_true,fJ b,ab,fC]
    have:=inner x d i a (fun s=>bk k t q n s) (fC (i+1) r) z (ih (i+1) n z c (by omega) (by simp only [List.length_cons] at hn;omega)) x.2 0 (k+18) rfl (by omega)
    simpa using this
  have:=outer t 0 (k+18) 0 rfl (Nat.zero_le _) (by omega)
  simpa using this
end
theorem ZJ {k:Nat} (hk:9223372036854775808≤k) {t:Tyt} (ht:FwT t):∀ (d i n g e:Nat) (L:List Int),i+d=t.length→d<n→L.length≤i→(e=0∨e=1)→(L≠[]→e=1)→(∀ r ∈ L,RtB t r)→L.Nodup∧(∀ r ∈ L,r<(i:Int)) →
  ∃ g' L' e',bD k n t (t.length:Int) g L (i:Int) e=some (g',L',e')∧L'.length≤t.length∧(L'≠[]→e'=1)∧(∀ r ∈ L',RtB t r)∧L'.Nodup:=by
 have hlen:=ht.len
 intro d
 induction d with
 | zero=>
  intro i n g e L hi hn hL he hne hr hd
  obtain ⟨n,rfl⟩:=gS hn
  rw [bD,ltF (by omega),cond_false]
  exact ⟨g,L,e,rfl,by omega,hne,hr,hd.1⟩
 | succ d ih=>
  intro i n g e L hi hn hL he hne hr hd
  obtain ⟨n,rfl⟩:=gS hn
  rw [bD,ltT (by omega),cond_true,N0 k hk t ht.wt,ab,gr (by omega)]
  cases hz:gB t (i:Int) == -1 with
  | true=>
   have he1:(e==1||e==0)=true:=by rcases he with rfl | rfl <;> rfl
   rw [cond_true,he1,cq,Gj (by simp;omega),cond_true]
   refine ih (i+1) n (g+1) 1 (L++[(i:Int)]) (by omega) (by omega) (by simp;omega) (.inr rfl) (fun _=>rfl) (fun r hr' => ?_) ⟨?_,fun r hr' => ?_⟩
   ·rcases List.mem_append.1 hr' with h | h
    ·exact hr r h
    ·rw [List.mem_singleton.1 h]
     exact ⟨by omega,by simpa using hz⟩
   ·refine List.nodup_append.2 ⟨hd.1,by simp,fun a ha b hb => ?_⟩
    have:=hd.2 a ha
    rw [List.mem_singleton.1 hb]
    omega
   ·rcases List.mem_append.1 hr' with h | h
    ·have:=hd.2 r h
     omega
    ·rw [List.mem_singleton.1 h];omega
  | false=>
   rw [cond_false]
   exact ih (i+1) n g e L (by omega) (by omega) (by omega) he hne hr ⟨hd.1,fun r h=>by have:=hd.2 r h;omega⟩
def FU (w:Nat):WB:=(0,[],wE 1 (w:Int) 0,0,0)
def mD (n:Nat):List WB:=(List.range n).map FU
def gM (roots:List (List Int)):List SB:=roots.map fun l=>(0,l,dc)
def B2 (c:CF) (t:Tyt) (roots:List (List Int)):PB:=(c,t,List.replicate (bG c).toNat 0,mD c.1.toNat,gM roots)
def QY:PB:=((0,0,0,0),[],[],[],[])
section
variable {k:Nat} (hk:9223372036854779000≤k) (c:CF) (t:Tyt) (ht:t.length≤40) (roots:List (List Int))
include hk ht
theorem Q0 (o0:Tyt→List Int→Nat→List WB→Int→List SB→Nat→Nat→List Int→Option (PB×Bool)) (t':Tyt) (m:List Int) (W:List WB) (i0:Int) (S:List SB) (C x:List Int) (hx:x.length≤1000) (hS:S.length≤100) (e:Nat) (he:e=9∨e=0) :
  ∀ (r:List Int) (q n len z:Nat) (L:List Int),x.drop q=r→q≤x.length→r.length<n→len≤L.length→L.length≤40→(0<len→z=1)→(∀ y ∈ L.take len,RtB t y)→(∀ y ∈ x.take q,RtB t y)→(C++(x.take q++L.take len)).Nodup →
  cT k c t roots o0 n x t' m (x.length:Int) z W len (q:Int) L i0 S e=some (QY,false) ∨
  ∃ (len' z':Nat) (L':List Int),len'≤L'.length∧L'.length≤40∧(0<len'→z'=1)∧(∀ y ∈ L'.take len',RtB t y)∧(∀ y ∈ x,RtB t y)∧(C++(x++L'.take len')).Nodup ∧
   cT k c t roots o0 n x t' m (x.length:Int) z W len (q:Int) L i0 S e=o0 t' m z' W (IntKind.i64.wrap (i0+1)) (S++[(0,x,dc)]) 9 len' L':=by
 have _h:=ht
 intro r
 induction r with
 | nil=>
  intro q n len z L hr hq hn hlen hL hz hy hxq hd
  obtain ⟨n,rfl⟩:=gS hn
  have:=cV hr
  have he1:(e==9||e==0)=true:=by rcases he with rfl | rfl <;> rfl
  refine .inr ⟨len,z,L,hlen,hL,hz,hy,?_,?_,?_⟩
  ·rw [List.take_of_length_le (by omega)] at hxq
   exact hxq
  ·rw [List.take_of_length_le (by omega)] at hd
   exact hd
  ·rw [cT,ltF (by omega),cond_false,adg hx,ab,he1,cq]
   rw [Gj (by simp;omega),cond_true]
 | cons v r ih=>
  intro q n len z L hr hq hn hlen hL hz hy hxq hd
  obtain ⟨n,rfl⟩:=gS hn
  obtain ⟨h0,h1,h2,_,h4⟩:=bW hr
  simp only [List.length_cons] at hn
  rw [cT,ltN h0,cond_true,fJ h1,ab,decide_eq_true hlen,cq,YZ (k+20) (by rw [List.length_take];omega) (by omega) v,ab]
  rcases J5 (fun y=>v==y) (L.take len) 0 with e1 | ⟨j,y,e1,hj,hvy⟩
  ·rw [e1]
   exact .inl rfl
  ·have hvy':v=y:=by simpa using hvy
   have hjl:j<len:=by
    have:=(List.getElem?_eq_some_iff.1 hj).1
    rw [List.length_take] at this
    omega
   have hyr:=hy y (List.mem_of_getElem? hj)
   rw [e1,Nat.zero_add,ltF (by omega),cond_false,hz (by omega),show ((1:Nat)==1)=true from rfl,cq,gr (by omega),Int.toNat_natCast,Int.toNat_natCast,decide_eq_true (show len≤L.length∧(0:Int)≤(j:Int)∧(j:Int)<((j+1:Nat):Int)∧j+1≤len∧len≤9223372036854775807 by omega),cq,gr (by omega),show len - (j+1 - j)=len - 1 by omega]
   have hc1:(GK (L.take len) j (j+1)).length=len:=by
    rw [Lq (by omega) (by rw [List.length_take];omega),List.length_take]
    omega
   have hc2:(GK (L.take len) j (j+1)++L.drop len).length=L.length:=by
    rw [List.length_append,hc1,List.length_drop]
    omega
   refine ih (q+1) n (len - 1) 1 _ h2 (by omega) (by omega) (by rw [hc2];omega) (by rw [hc2];exact hL) (fun _=>rfl) ?_ ?_ ?_
   ·intro y' hy'
    rw [List.take_append_of_le_length (by rw [hc1];omega)] at hy'
    unfold GK at hy'
    rw [List.take_append_of_le_length (by simp;omega)] at hy'
    rcases List.mem_append.1 (List.mem_of_mem_take hy') with h | h
    ·exact hy y' (List.mem_of_mem_take h)
    ·exact hy y' (List.mem_of_mem_drop h)
   ·intro y' hy'
    rw [List.take_add_one,h1] at hy'
    rcases List.mem_append.1 hy' with h | h
    ·exact hxq y' h
    ·rw [show y'=v by simpa using h,hvy']
     exact hyr
   ·have hsp:L.take len=(L.take len).take j++y::(L.take len).drop (j+1):=by
     have:=List.take_append_drop j (L.take len)
     rw [List.drop_eq_getElem_cons (by rw [List.length_take];omega)] at this
     have hg : (L.take len)[j]'(by rw [List.length_take]; omega) = y := by
      have:=List.getElem?_eq_getElem (l:=L.take len) (i:=j) (by rw [List.length_take];omega)
      rw [hj] at this
      exact (Option.some.inj this).symm
     rw [hg] at this
     exact this.symm
    have ht1:(GK (L.take len) j (j+1)++L.drop len).take (len - 1)=(L.take len).take j++(L.take len).drop (j+1):=by
     rw [List.take_append_of_le_length (by rw [hc1];omega)]
     unfold GK
     rw [List.take_append_of_le_length (by simp;omega),List.take_of_length_le (by simp;omega)]
    rw [ht1,List.take_add_one,h1]
    rw [hsp] at hd
    refine (List.Perm.nodup_iff ?_).1 hd
    refine List.Perm.append_left C ?_
    rw [List.append_assoc]
    refine List.Perm.append_left _ ?_
    rw [hvy']
    exact List.perm_middle
theorem OF (hR:roots.length≤3) (hr:∀ l ∈ roots,l.length≤1000) (W:List WB):∀ (r:List (List Int)) (q n len z e:Nat) (L:List Int) (t':Tyt) (m:List Int),roots.drop q=r→q≤roots.length→r.length<n→len≤L.length→L.length≤40→(0<len→z=1)→(e=9∨e=0)→(∀ y ∈ L.take len,RtB t y)→(∀ l ∈ roots.take q,∀ y ∈ l,RtB t y)→((roots.take q).flatten++L.take len).Nodup →
  bZ k c t roots n t' m z W (q:Int) (gM (roots.take q)) e len L=some (QY,false) ∨
  bZ k c t roots n t' m z W (q:Int) (gM (roots.take q)) e len L=some ((c,t',m,W,gM roots),true)∧(∀ l ∈ roots,∀ y ∈ l,RtB t y)∧roots.flatten.Nodup:=by
 intro r
 induction r with
 | nil=>
  intro q n len z e L t' m hq' hq hn hlen hL hz he hy hxq hd
  obtain ⟨n,rfl⟩:=gS hn
  have:=cV hq'
  rw [List.take_of_length_le (by omega)] at hxq hd ⊢
  rw [bZ,ltF (by omega),cond_false]
  exact .inr ⟨rfl,hxq,(List.nodup_append.1 hd).1⟩
 | cons v r ih=>
  intro q n len z e L t' m hq' hq hn hlen hL hz he hy hxq hd
  obtain ⟨n,rfl⟩:=gS hn
  obtain ⟨h0,h1,h2,_,h4⟩:=bW hq'
  simp only [List.length_cons] at hn
  have hv:=hr v (List.mem_of_getElem? h1)
  have hSl:(gM (roots.take q)).length≤100:=by unfold gM;rw [List.length_map,List.length_take];omega
  rw [bZ,ltN h0,cond_true,fJ h1,ab]
  rcases Q0 hk c t ht roots (fun s62 s63 s64 s77 s113 s115 s116 s135 s138=>bZ k c t roots n s62 s63 s64 s77 s113 s115 s116 s135 s138) t' m W (q:Int) (gM (roots.take q)) (roots.take q).flatten v hv hSl e he v 0 (k+21) len z L rfl (Nat.zero_le _) (by omega) hlen hL hz hy (by simp) (by simpa using hd) with h | ⟨len',z',L',g1,g2,g3,g4,g5,gd,g6⟩
  ·exact .inl h
  ·have hs:gM (roots.take q)++[(0,v,dc)]=gM (roots.take (q+1)):=by
    unfold gM
    rw [List.take_add_one,h1,List.map_append]
    rfl
   rw [hs,gr (by omega)] at g6
   have:=ih (q+1) n len' z' 9 L' t' m h2 (by omega) (by omega) g1 g2 g3 (.inl rfl) g4 (fun l hl=>by
    rw [List.take_add_one,h1] at hl
    rcases List.mem_append.1 hl with h | h
    ·exact hxq l h
    ·rw [show l=v by simpa using h]
     exact g5) (by
    rw [List.take_add_one,h1,List.flatten_append]
    simpa [List.append_assoc] using gd)
   have g6':cT k c t roots (fun s62 s63 s64 s77 s113 s115 s116 s135 s138=>bZ k c t roots n s62 s63 s64 s77 s113 s115 s116 s135 s138) (k+21) v t' m (v.length:Int) z W len 0 L (q:Int) (gM (roots.take q)) e=_:=g6
   rw [g6']
   exact this
theorem Vf (hR:roots.length≤3) (hr:∀ l ∈ roots,l.length≤1000) (hc:0≤c.1∧c.1≤8) (t':Tyt) (m L:List Int) (z:Nat) (hL:L.length≤40) (hz:L≠[]→z=1) (hy:∀ y ∈ L,RtB t y) (hd:L.Nodup):∀ (d i n e:Nat),(i:Int)+d=c.1→d<n→(e=11∨e=0) →
  cU k c t roots n t' m L z (i:Int) (mD i) e=some (QY,false) ∨
  cU k c t roots n t' m L z (i:Int) (mD i) e=some ((c,t',m,mD c.1.toNat,gM roots),true)∧(∀ l ∈ roots,∀ y ∈ l,RtB t y)∧roots.flatten.Nodup:=by
 intro d
 induction d with
 | zero=>
  intro i n e hi hn he
  obtain ⟨n,rfl⟩:=gS hn
  rw [cU,ltF (by omega),cond_false,show c.1.toNat=i by omega]
  exact OF hk c t ht roots hR hr (mD i) roots 0 (k+21) L.length z 0 L t' m rfl (Nat.zero_le _) (by omega) (Nat.le_refl _) hL (fun h=>hz (fun e=>by rw [e] at h;cases h)) (.inr rfl) (by rw [List.take_length];exact hy) (by simp) (by simpa using hd)
 | succ d ih=>
  intro i n e hi hn he
  obtain ⟨n,rfl⟩:=gS hn
  have he1:(e==11||e==0)=true:=by rcases he with rfl | rfl <;> rfl
  rw [cU,ltT (by omega),cond_true,abl,ab,he1,cq]
  rw [Gj (by rw [List.length_append];unfold mD;simp;omega),cond_true,gr (by omega)]
  have hw:mD i++[FU i]=mD (i+1):=by
   unfold mD
   rw [List.range_succ,List.map_append]
   rfl
  have:=ih (i+1) n 11 (by omega) (by omega) (.inl rfl)
  rw [← hw] at this
  exact this
end
theorem Xq {k:Nat} (hk:9223372036854779000≤k) (c:CF) {t:Tyt} (ht:FwT t) {roots:List (List Int)} (hr:∀ l ∈ roots,l.length≤1000) :
  kK k c t roots=some (QY,false)∨kK k c t roots=some (B2 c t roots,true)∧cY c=true∧oq t=true∧roots.length≤3∧(∀ l ∈ roots,∀ y ∈ l,RtB t y)∧roots.flatten.Nodup:=by
 unfold kK
 try simp only [Prod.eta]
 rw [gL,ab]
 cases hm:cY c with
 | false=>exact .inl rfl
 | true=>
  have hc:=aA hm
  rw [Bool.not_true,cond_false,Ii _ (by omega) t ht.wt,ab]
  cases ht2:oq t with
  | false=>exact .inl rfl
  | true=>
   rw [Bool.not_true,cond_false]
   by_cases h3:(3:Int)<roots.length
   ·rw [ltT h3]
    exact .inl rfl
   ·obtain ⟨g',L',e',h1,h2,h4,h5,h6⟩:=ZJ (k:=k) (by omega) ht t.length 0 (k+20) 0 0 [] (by omega) (by have:=ht.len;omega) (Nat.zero_le _) (.inl rfl) (fun h=>absurd rfl h) (by simp) ⟨List.nodup_nil,by simp⟩
    rw [ltF (by omega),cond_false,Ii _ (by omega) t ht.wt,ab,ht2,Bool.not_true,cond_false]
    refine (show _∨_ from ?_)
    have h1':bD k (k+20) t (t.length:Int) 0 [] 0 0=some (g',L',e'):=h1
    rw [h1',ab,Ox _ (by omega) ht,ab,amt (by omega),ab]
    have hl:=ht.len
    rcases Vf (k:=k) hk c t ht.len roots (by omega) hr (by omega) t (List.replicate (bG c).toNat 0) L' e' (by omega) h4 h5 h6 c.1.toNat 0 (k+21) 0 (by omega) (by omega) (.inr rfl) with h | ⟨h,h'⟩
    ·exact .inl h
    ·exact .inr ⟨h,rfl,rfl,by omega,h'⟩
end Go.Ab
set_option linter.unusedVariables false
namespace Go.Ab
theorem abS {k:Nat} (hk:9223372036854775808≤k) {l:List (List Int)} (hl:l.length≤9223372036854775807):∃ b,bY k l=some b∧(b=true→l.length≤10∧∀ x ∈ l,x.length≤60):=by
 unfold bY
 have key:∀ (r:List (List Int)) (q n:Nat),l.drop q=r→q≤l.length→r.length<n→(∀ x ∈ l.take q,x.length≤60)→∃ b,aS k l n (q:Int)=some b∧(b=true→l.length≤10∧∀ x ∈ l,x.length≤60):=by
  intro r
  induction r with
  | nil=>
   intro q n hr hq hn hx
   obtain ⟨n,rfl⟩:=gS hn
   have:=cV hr
   rw [List.take_of_length_le (by omega)] at hx
   rw [aS,ltF (by omega),cond_false]
   refine ⟨_,rfl,fun h=>⟨?_,hx⟩⟩
   have:=of_decide_eq_true h
   omega
  | cons v r ih=>
   intro q n hr hq hn hx
   obtain ⟨n,rfl⟩:=gS hn
   obtain ⟨h0,h1,h2,_,h4⟩:=bW hr
   rw [aS,ltN h0,cond_true]
   by_cases hq10:(q:Int)≤10
   ·rw [leT hq10,cond_true,fJ h1,ab]
    by_cases h60:(60:Int)<v.length
    ·rw [ltT h60,cond_true]
     exact ⟨_,rfl,fun h=>by cases h⟩
    ·rw [ltF (by omega),cond_false,gr (by omega)]
     refine ih (q+1) n h2 (by omega) (by simp only [List.length_cons] at hn;omega) fun x hx' => ?_
     rw [List.take_add_one,h1] at hx'
     rcases List.mem_append.1 hx' with h | h
     ·exact hx x h
     ·rw [show x=v by simpa using h];omega
   ·rw [leF (by omega),cond_false]
    refine ⟨_,rfl,fun h => ?_⟩
    have:=of_decide_eq_true h
    omega
 exact key l 0 k rfl (Nat.zero_le _) (by omega) (by simp)
theorem EN:∀ {l:List PK} {n:Nat} {p:PB},Good n p→iU p=true→Good (n+l.length) (lz p l).1
 | [],n,p,h,_=>h
 | k::l,n,p,h,hm=>by
  rw [lz]
  split
  ·rename_i hk
   have:=EN (l:=l) (pS (k:=k) h (nU hm).1) (rx hm hk)
   rw [List.length_cons,show n+(l.length+1)=n+1+l.length by omega]
   exact this
  ·have:=EN (l:=l) h hm
   rw [List.length_cons]
   exact ⟨this.t,this.tl,this.m,fun x hx=>⟨(this.w x hx).f,by have:=(this.w x hx).s;omega,(this.w x hx).sp⟩,this.s⟩
theorem aaE {l:List PK} {p:PB} (hm:iU p=true):iU (lz p l).1=true:=
 (Jm (P:=fun _=>True) (fun _ _ _ _ _=>trivial) hm trivial).2
theorem DK:∀ {l:List PK} {p:PB},(lz p l).1.1=p.1∧(lz p l).1.2.1=p.2.1∧(lz p l).1.2.2.2.1.length=p.2.2.2.1.length∧(lz p l).1.2.2.2.2.length=p.2.2.2.2.length∧(lz p l).1.2.2.1.length=p.2.2.1.length
 | [],p=>⟨rfl,rfl,rfl,rfl,rfl⟩
 | k::l,p=>by
  rw [lz]
  split
  ·obtain ⟨a1,a2,a3,a4,a5⟩:=DK (l:=l) (p:=(eM p k).1)
   obtain ⟨b1,b2,b3,b4⟩:=A1 (p:=p) (k:=k)
   have b5:=S8 (p:=p) (k:=k)
   exact ⟨a1.trans b1,a2.trans b2,a3.trans b3,a4.trans b4,a5.trans b5⟩
  ·exact DK
theorem Jr:∀ {l:List PK} {p:PB},(lz p l).2.length≤2*l.length
 | [],p=>Nat.le_refl _
 | k::l,p=>by
  rw [lz]
  split
  ·have:=Jr (l:=l) (p:=(eM p k).1)
   have:=Lv (p:=p) (k:=k)
   simp only [List.length_append,List.length_cons]
   omega
  ·have:=Jr (l:=l) (p:=p)
   simp only [List.length_cons]
   omega
theorem pZ {p:PB} (h:iU p=true):p.2.2.2.1.length≤8∧p.2.2.2.2.length≤3∧12≤p.2.2.1.length∧p.2.2.1.length≤190:=by
 obtain ⟨m1,m2,m3,m4,_⟩:=nU h
 have hc:=aA m1
 have:=(IX (m4 0 _ (List.getElem?_eq_getElem (show 0<p.2.2.2.1.length by omega)))).2.1
 have:=rU m1
 omega
theorem ON {c:CF} {t:Tyt} {roots:List (List Int)} (hc:cY c=true) (ht:oq t=true) (hR:roots.length≤3) (hr:∀ l ∈ roots,∀ y ∈ l,0≤y∧y<(t.length:Int)):iU (B2 c t roots)=true:=by
 have hm:=aA hc
 have hs:=rU hc
 refine Et hc ?_ ?_ (fun j x hx => ?_) (fun x hx => ?_)
 ·show ((mD c.1.toNat).length:Int)=c.1
  unfold mD
  rw [List.length_map,List.length_range]
  omega
 ·show (gM roots).length≤3
  unfold gM
  rw [List.length_map]
  exact hR
 ·have hx':(mD c.1.toNat)[j]? = some x:=hx
  unfold mD at hx'
  rw [List.getElem?_map,Option.map_eq_some_iff] at hx'
  obtain ⟨i,hi,rfl⟩:=hx'
  obtain ⟨hj,rfl⟩:=List.getElem?_eq_some_iff.1 hi
  rw [List.length_range] at hj
  rw [List.getElem_range]
  refine P7 hc ?_ ht ⟨by omega,by show (j:Int)<c.1;omega,Int.le_refl 0,(show (0:Int)<16 by decide)⟩ (l8.2 ⟨ht,fun y hy=>absurd hy (by simp [FU])⟩)
  show ((List.replicate (bG c).toNat (0:Int)).length:Int)=bG c
  rw [List.length_replicate]
  omega
 ·have hx':x ∈ gM roots:=hx
  unfold gM at hx'
  obtain ⟨l,hl,rfl⟩:=List.mem_map.1 hx'
  unfold uP
  simp only [Bool.and_eq_true,List.all_eq_true,decide_eq_true_eq,Bool.or_eq_true]
  exact ⟨⟨by decide,hr l hl⟩,.inl (by trivial)⟩
theorem KO {c:CF} {t:Tyt} {roots:List (List Int)} (ht:FwT t) (hr:∀ l ∈ roots,l.length≤60):Good 0 (B2 c t roots):=by
 have z:(0:Int)≤0∧(0:Int)≤18446744073709551615:=by decide
 refine ⟨ht,by have:=ht.len;show t.length≤1000;omega,?_,fun x hx => ?_,fun x hx => ?_⟩
 ·refine ⟨?_,fun v hv => ?_⟩
  ·show (List.replicate (bG c).toNat (0:Int)).length≤_
   rw [List.length_replicate]
   have:bG c≤190:=by
    unfold bG
    split
    ·rename_i h
     have hm:=aA h
     have:=dG h (w:=c.1) (by omega) (by omega)
     omega
    ·omega
   omega
  ·rw [List.eq_of_mem_replicate hv]
   exact z
 ·have hx':x ∈ mD c.1.toNat:=hx
  unfold mD at hx'
  obtain ⟨i,_,rfl⟩:=List.mem_map.1 hx'
  exact ⟨⟨z,z,z⟩,Nat.le_refl _,by show (0:Int)≤9223372036854775807;decide⟩
 ·have hx':x ∈ gM roots:=hx
  unfold gM at hx'
  obtain ⟨l,hl,rfl⟩:=List.mem_map.1 hx'
  exact ⟨⟨z,z,z⟩,by have:=hr l hl;show l.length≤1000;omega⟩
end Go.Ab
set_option linter.unusedVariables false
namespace Go.Ab
def amq:FR:=(-1,0,0,0,0,0,0)
structure Pl where
 m:List Int
 left:List (List Int)
 cur:List FR
 over:List FR
def akT (m:List Int) (w:Int):Nat:=if r8 (ah m 2) w=true then 1 else 0
def aeK (f:FR) (w:Int):Nat:=if Tj f w=true then 1 else 0
def agE (l:List FR) (w:Int):Nat:=l.countP fun f=>Tj f w
def aa5 (c:CF) (m:List Int) (w:Int):Nat:=if ah m (fR c w)=0 then 0 else 1
def w3B (f:FR):Nat:=if f.1=5∧3≤f.2.1 then 1 else 0
def w4B (f:FR):Prop:=f.1=5∧f.2.1=4
def ang (x:Int):Prop:=0≤x∧x≤18446744073709551615
def ank (n:Nat) (i:Nat) (f:FR):Prop:=
 f=amq∨∃ op pc X Y:Int,f=(op,pc,(i:Int),0,X,Y,0)∧ang X∧ang Y ∧
  ((op=5∧0≤pc∧pc≤4)∨(op=6∧0≤pc∧pc≤2∧(pc=2→Y<n))∨(op=7∧0≤pc∧pc≤2∧(pc=2→0<Y∧Y<65536∧∀ j:Nat,n≤j→j<16→r8 Y j=false)))
structure OkP (c:CF) (n:Nat) (m:List Int) (l:List FR):Prop where
 wm:Wm m
 may:cY c=true
 cn:c.1=n
 len:(m.length:Int)=bG c
 clen:l.length=n
 frm:∀ i f,l[i]? = some f→ank n i f
 low:∀ j:Nat,n≤j→j<16→r8 (ah m 2) j=false
 par:∀ w:Nat,w<n→ah m (fR c w)=0∨ah m (fR c w)=1
 sgn:∀ (w:Nat) f,l[w]? = some f→akT m w+agE l w+aa5 c m w=w3B f
 end4:∀ (w:Nat) f,l[w]? = some f→w4B f→aa5 c m w=1
theorem SV {l:List FR} {i:Nat} {f g:FR} (hf:l[i]? = some f) (w:Int):agE (l.set i g) w+aeK f w=agE l w+aeK g w:=by
 obtain ⟨hi,rfl⟩:=List.getElem?_eq_some_iff.1 hf
 have hle:l[i] ∈ l:=List.getElem_mem _
 unfold agE aeK
 rw [List.countP_set hi]
 by_cases h:Tj l[i] w=true
 ·have:0<l.countP fun f=>Tj f w:=List.countP_pos_iff.2 ⟨_,hle,h⟩
  simp only [h,if_true]
  omega
 ·simp only [h,if_false]
  simp
theorem OkP.step {c:CF} {n:Nat} {m m':List Int} {l:List FR} (h:OkP c n m l) {i:Nat} {f g:FR} (hf:l[i]? = some f) (wm:Wm m') (len:m'.length=m.length) (hg:ank n i g)
  (low:∀ j:Nat,n≤j→j<16→r8 (ah m' 2) j=false) (par:∀ w:Nat,w<n→ah m' (fR c w)=0∨ah m' (fR c w)=1)
  (sg:∀ w:Nat,w<n→akT m' w+aeK g w+aa5 c m' w+(if w=i then w3B f else 0)=akT m w+aeK f w+aa5 c m w+(if w=i then w3B g else 0))
  (e4:w4B g→aa5 c m' i=1) (e5:∀ w:Nat,w<n→w≠i→aa5 c m w=1→aa5 c m' w=1):OkP c n m' (l.set i g):=by
 have hi:i<l.length:=(List.getElem?_eq_some_iff.1 hf).1
 have key:∀ (w:Nat) (x:FR),(l.set i g)[w]? = some x→w<n∧((w=i∧x=g)∨(w≠i∧l[w]? = some x)):=by
  intro w x hx
  have hw:=(List.getElem?_eq_some_iff.1 hx).1
  rw [List.length_set,h.clen] at hw
  refine ⟨hw,?_⟩
  by_cases e:w=i
  ·subst e
   rw [List.getElem?_set_self hi] at hx
   exact .inl ⟨rfl,(Option.some.inj hx).symm⟩
  ·rw [List.getElem?_set_ne (by omega)] at hx
   exact .inr ⟨e,hx⟩
 refine ⟨wm,h.may,h.cn,by rw [len];exact h.len,by rw [List.length_set];exact h.clen,?_,low,par,?_,?_⟩
 ·intro w x hx
  rcases key w x hx with ⟨_,⟨rfl,rfl⟩ | ⟨_,hx⟩⟩
  ·exact hg
  ·exact h.frm w x hx
 ·intro w x hx
  have ho:=SV (g:=g) hf (w:Int)
  rcases key w x hx with ⟨hw,⟨rfl,rfl⟩ | ⟨e,hx⟩⟩
  ·have h1:=h.sgn w f hf
   have h2:=sg w hw
   rw [if_pos rfl,if_pos rfl] at h2
   omega
  ·have h1:=h.sgn w x hx
   have h2:=sg w hw
   rw [if_neg e,if_neg e] at h2
   omega
 ·intro w x hx hx4
  rcases key w x hx with ⟨hw,⟨rfl,rfl⟩ | ⟨e,hx⟩⟩
  ·exact e4 hx4
  ·exact e5 w hw e (h.end4 w x hx hx4)
section
variable {c:CF} {m:List Int} {i a5 X:Int} (hmay:cY c=true) (hlen:(m.length:Int)=bG c)
include hmay hlen
end
end Go.Ab
set_option linter.unusedVariables false
namespace Go.Ab
structure Adr (c:CF) (j:Int):Prop where
 on:∀ w x,x=0∨x=1→onW c w x≠j
 slot:∀ w x,0≤x→x≤18446744073709551615→pD c w x≠j
 seq:∀ x,mr c x≠j
 val:∀ x,BL c x≠j
 n0:(0:Int)≠j
 n1:(1:Int)≠j
 n3:(3:Int)≠j
 n4:(4:Int)≠j
 n5:(5:Int)≠j
theorem VW {a b D x y:Int} (hD:D=1∨D=2∨D=4∨D=8∨D=16) (hx:0≤x∧x<3+D) (hy:0≤y∧y<3+D) (h:x≠y):a*(3+D)+x≠b*(3+D)+y:=by
 rcases hD with rfl | rfl | rfl | rfl | rfl <;> omega
theorem aoj {c:CF}:Adr c 2:=by
 refine ⟨fun w x hx => ?_,fun w x h0 h1 => ?_,fun x => ?_,fun x => ?_,by decide,by decide,by decide,by decide,by decide⟩
 ·unfold onW
  split
  ·rename_i h
   have hm:=aA h.1
   have:=dG h.1 h.2.1 (by omega)
   omega
  ·omega
 ·unfold pD onW
  split
  ·rename_i h
   have hm:=aA h.1
   have:=dG h.1 h.2.1 (by omega)
   have:=ET h0 h1 (show 1≤c.2.1 by omega) (by omega)
   omega
  ·omega
 ·unfold mr
  split
  ·rename_i h
   have:=aA h
   have:=Int.emod_nonneg x (show c.2.2.1≠0 by omega)
   omega
  ·omega
 ·unfold BL
  split
  ·rename_i h
   have:=aA h
   have:=Int.emod_nonneg x (show c.2.2.1≠0 by omega)
   omega
  ·omega
theorem aoC {c:CF} {v:Int} (hc:cY c=true) (h0:0≤v) (h1:v<c.1):Adr c (fR c v):=by
 have hp:fR c v=6+2*c.2.2.1+(v*(3+c.2.1)+2):=by
  unfold fR
  rw [if_pos ⟨hc,h0,h1⟩,wY]
  omega
 have hm:=aA hc
 have ht:=dG hc h0 (by omega)
 rw [hp]
 refine ⟨fun w x hx => ?_,fun w x g0 g1 => ?_,fun x => ?_,fun x => ?_,by omega,by omega,by omega,by omega,by omega⟩
 ·unfold onW
  split
  ·have:=VW (a:=w) (b:=v) hm.2.2.1 (x:=x) (y:=2) (by omega) (by omega) (by omega)
   unfold wY
   omega
  ·omega
 ·unfold pD onW
  split
  ·have ha:=ET g0 g1 (show 1≤c.2.1 by omega) (by omega)
   have:=VW (a:=w) (b:=v) hm.2.2.1 (x:=3+wT .u64 x (c.2.1 - 1)) (y:=2) (by omega) (by omega) (by omega)
   unfold wY
   omega
  ·omega
 ·unfold mr
  rw [if_pos hc]
  have a:=Int.emod_lt_of_pos x (show 0<c.2.2.1 by omega)
  have b:0≤v*(3+c.2.1):=ht.2.2.2
  generalize x%c.2.2.1=g at a ⊢
  omega
 ·unfold BL
  rw [if_pos hc]
  have a:=Int.emod_lt_of_pos x (show 0<c.2.2.1 by omega)
  have b:0≤v*(3+c.2.1):=ht.2.2.2
  generalize x%c.2.2.1=g at a ⊢
  omega
section
variable {c:CF} {m:List Int} {f:FR} {j:Int} (hj:Adr c j) (hf:Wf f)
include hj hf
end
section
variable {c:CF} {m:List Int} {f:FR}
end
def pkW (x:WB):Prop:=x.1=8∧3≤x.2.2.1.2.1
def owF (f:FR) (v:Int):Prop:=f.2.1=2∧f.2.2.2.2.2.1=v
def owW (x:WB) (v:Int):Prop:=x.1=14∧owF x.2.2.1 v
def owS (x:SB) (v:Int):Prop:=x.1=4∧owF x.2.2 v
def Fwk (n w:Int) (x:WB):Prop:=
 (x.1=0∨x.1=2∨x.1=3∨x.1=11∨x.1=12→x.2.2.1.1<5)∧(x.1=5→x.2.2.1=wE 5 w 0) ∧
 (x.1=6∨x.1=7→x.2.2.1.1=5∧x.2.2.1.2.1=1∧x.2.2.1.2.2.1=w∧x.2.2.1.2.2.2.2.2.2=0) ∧
 (x.1=8→x.2.2.1.1=5∧(0≤x.2.2.1.2.1∧x.2.2.1.2.1≤4)∧x.2.2.1.2.2.1=w∧x.2.2.1.2.2.2.2.2.2=0) ∧
 (x.1=14→x.2.2.1.1=6∧(0≤x.2.2.1.2.1∧x.2.2.1.2.1≤2)∧x.2.2.1.2.2.2.2.2.2=0∧(x.2.2.1.2.1=2→x.2.2.1.2.2.2.2.2.1<n))
def Fsb (n:Int) (x:SB):Prop:=
 (x.1=2→x.2.2.1<5)∧(x.1=4→x.2.2.1=6∧(0≤x.2.2.2.1∧x.2.2.2.1≤2)∧x.2.2.2.2.2.2.2.2=0∧(x.2.2.2.1=2→x.2.2.2.2.2.2.2.1<n))
def akn (n:Int) (m:List Int):Prop:=∀ j:Int,n≤j→j<16→r8 (ah m 2) j=false
structure Ef (c:CF) (m m':List Int) (pk0 pk1:Prop) (me:Int) (ow0 ow1:Int→Prop):Prop where
 low:akn c.1 m→akn c.1 m'
 bit:∀ v,0≤v→v<c.1→r8 (ah m 2) v=true→r8 (ah m' 2) v=true∨ow1 v
 par:∀ v,0≤v→v<c.1→ah m (fR c v)≠0→ah m' (fR c v)≠0∨v=me∧¬ pk1
 owe:∀ v,0≤v→v<c.1→ow0 v→ow1 v∨ah m' (fR c v)≠0
 new:pk1→pk0∨r8 (ah m' 2) me=true∨ah m' (fR c me)≠0
section
variable {c:CF} {m m':List Int} {pk0 pk1:Prop} {me:Int} {ow0 ow1:Int→Prop}
theorem Ef.calm (hc:cY c=true) (h:∀ j,Adr c j→ah m' j=ah m j) (ho:∀ v,ow0 v→ow1 v) (hp:pk1→pk0):Ef c m m' pk0 pk1 me ow0 ow1:=by
 have h2:=h 2 aoj
 refine ⟨fun hl j h0 h1=>by rw [h2];exact hl j h0 h1,fun v _ _ hb => .inl (by rw [h2];exact hb),fun v h0 h1 hb => .inl (by rw [h _ (aoC hc h0 h1)];exact hb),fun v _ _ hv => .inl (ho v hv),fun h => .inl (hp h)⟩
theorem Ef.same (ho:∀ v,ow0 v→ow1 v) (hp:pk1→pk0):Ef c m m pk0 pk1 me ow0 ow1:=
 ⟨fun hl=>hl,fun v _ _ hb => .inl hb,fun v _ _ hb => .inl hb,fun v _ _ hv => .inl (ho v hv),fun h => .inl (hp h)⟩
end
section
variable {c:CF} {m:List Int} {f:FR} (hc:cY c=true) (hl:(m.length:Int)=bG c) (hm:Wm m) (hf:Wf f)
include hc hl hm hf
end
end Go.Ab
set_option linter.unusedVariables false
namespace Go.Ab
section
variable {n w:Int} {x:WB}
end
theorem Ef.mono {c:CF} {m m':List Int} {p0 p1 q0 q1:Prop} {me:Int} {a0 a1 b0 b1:Int→Prop} (h:Ef c m m' p0 p1 me a0 a1) (h1:q1→p1) (h0:p0→q0) (ha:∀ v,b0 v→a0 v) (hb:∀ v,a1 v→b1 v):Ef c m m' q0 q1 me b0 b1:=
 ⟨h.low,fun v g0 g1 hv=>(h.bit v g0 g1 hv).imp id (hb v),fun v g0 g1 hv=>(h.par v g0 g1 hv).imp id fun e=>⟨e.1,fun q=>e.2 (h1 q)⟩,fun v g0 g1 hv=>(h.owe v g0 g1 (ha v hv)).imp (hb v) id,fun q=>(h.new (h1 q)).imp h0 id⟩
section
variable {c:CF} {t:Tyt} {m:List Int} {w:Int} {x:WB} {d:Int}
end
section
variable {c:CF} {t:Tyt} {m:List Int} {i:Int} {x:SB}
end
def an8 (W:List WB) (S:List SB) (v:Int):Prop:=(∃ y ∈ W,owW y v)∨∃ y ∈ S,owS y v
structure Sgn (p:PB):Prop where
 w:∀ (i:Nat) x,p.2.2.2.1[i]? = some x→Fwk p.1.1 i x
 s:∀ x ∈ p.2.2.2.2,Fsb p.1.1 x
 low:akn p.1.1 p.2.2.1
 sg:∀ (i:Nat) x,p.2.2.2.1[i]? = some x→pkW x→r8 (ah p.2.2.1 2) i=true∨ah p.2.2.1 (fR p.1 i)≠0∨an8 p.2.2.2.1 p.2.2.2.2 i
end Go.Ab
set_option linter.unusedVariables false
set_option linter.unusedSimpArgs false
namespace Go.Ab
end Go.Ab
