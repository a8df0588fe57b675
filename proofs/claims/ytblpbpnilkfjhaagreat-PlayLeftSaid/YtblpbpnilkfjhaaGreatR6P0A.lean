import Derived.Test.YtblpbpnilkfjhaaGreatAbLibC
import Derived.Test.YtblpbpnilkfjhaaGreatR6G0A
import Derived.WideShapes
set_option linter.unusedVariables false
set_option linter.unusedSimpArgs false
set_option linter.unusedVariables false
namespace Go.Ab
def pi (x:Int×List Int):Bool:=decide (x.1<0)||decide (20<x.1)
def fB:Nat→Tyt→List (Int×Int)
 | _,[]=>[]
 | i,x::r=>x.2.map (fun k=>(k,(i:Int)))++fB (i+1) r
def Bm (n:Nat) (had:List Bool) (q:Int×Int):Bool:=decide (q.1≤q.2)||decide ((n:Int)≤q.1)||(had[q.1.toNat]?).getD true
abbrev aaZ (n:Nat) := { h:List Bool // h.length=n }
def fV (n:Nat) (had:aaZ n) (q:Int×Int):Bool×aaZ n:=
 if Bm n had.1 q then (false,had) else (true,⟨had.1.set q.1.toNat true,by simp [had.2]⟩)
def If (n:Nat):aaZ n:=⟨List.replicate n false,by simp⟩
def oF (t:Tyt):Bool:=decide (t.length≤30) && !(t.any pi)&&(EC (fV t.length) (fB 0 t) (If t.length)).1
structure Wt (t:Tyt):Prop where
 len:t.length≤9223372036854775807
 kids:∀ x ∈ t,x.2.length≤9223372036854775807
def iW (k:Int) (r:Int) (q:Int×Int):Bool×Int:=if q.1=k then (false,q.2) else (true,r)
def gw (t:Tyt) (k:Int):Int:=
 if oF t then (if (EC (iW k) (fB 0 t) 0).1 then -1 else (EC (iW k) (fB 0 t) 0).2) else -1
def aeu (t:Tyt):Bool:=(t.take 41).all (fun x=>decide (x.2.length≤40))&&decide (t.length≤40)
def wI (n:Int):Bool:=(n==1)||(n==2)
def agT (n:Int):Bool:=decide (n<0)||decide (3<n)
def Gd (s:List Int):Bool := !(s.any wI)
def lu (t:Tyt) (s:List Int):Bool:=oF t&&(s.length==t.length) && !(s.any agT)
def BX (t:Tyt) (s:List Int) (kind q:Int):Option Int:=
 let at_:=(s[q.toNat]?).getD 0
 let up:=gw t q
 if kind=0 then (if at_=0∧up<0 then some 1 else none)
 else if kind=1 then (if at_=0∧up<0 then some 0 else none)
 else if kind=3 then (if at_=0∧0≤up∧s[up.toNat]? = some 2 then some 1 else none)
 else if kind=2 then (if at_=1 then some 2 else none)
 else if kind=4 then (if at_=2∧((((t[q.toNat]?).getD (0,[])).2.any fun i=>(idx s i).getD 1==0)=false) then some 3 else none)
 else none
def gI (t:Tyt) (s:List Int) (e:Int×Int×Int):List Int×Bool:=
 if lu t s=false then (s,false)
 else if e.1=5 then (s,Gd s)
 else if e.2.1<0∨(t.length:Int)≤e.2.1 then (s,false)
 else match BX t s e.1 e.2.1 with
  | some n=>(s.set e.2.1.toNat n,true)
  | none=>(s,false)
def Rh (t:Tyt):List Int:=if oF t then List.replicate t.length (0:Int) else []
def G4 (t:Tyt):Tye→List Int→List Int×Bool
 | [],s=>(s,true)
 | e::l,s=>if (gI t s e).2=true then G4 t l (gI t s e).1 else ((gI t s e).1,false)
theorem HN {t:Tyt} (h1:oF t=true):t.length≤30:=by
 unfold oF at h1
 simp only [Bool.and_eq_true,decide_eq_true_eq] at h1
 exact h1.1.1
theorem OV {α:Type} {l:List α} {F:Nat→Int→Option Int} (p:α→Bool)
  (h0:∀ n,F (n+1) (l.length:Int)=some (-1))
  (h1:∀ n (i:Nat) x,i<l.length→l[i]? = some x→F (n+1) (i:Int)=bif p x then some (i:Int) else F n ((i+1:Nat):Int))
  (n:Nat) (hn:l.length<n):F n 0=some (Na p l 0):=by
 have key:∀ r i n,l.drop i=r→i≤l.length→r.length<n→F n (i:Int)=some (Na p r i):=by
  intro r
  induction r with
  | nil=>
   intro i n hr hi hn
   obtain ⟨n,rfl⟩:=ib hn
   have:i=l.length:=by have:=cV hr;omega
   subst this
   rw [h0]
   rfl
  | cons x r ih=>
   intro i n hr hi hn
   obtain ⟨n,rfl⟩:=ib hn
   obtain ⟨a,b,c,d,e⟩:=b8 hr
   rw [h1 n i x a b]
   simp only [Na]
   cases p x with
   | true=>rfl
   | false=>exact ih (i+1) n c (by omega) (by simp only [List.length_cons] at hn;omega)
 have:=key l 0 n rfl (Nat.zero_le _) hn
 simpa using this
theorem Hm (x y : Int) : (x != y) = !decide (x = y) := by by_cases h : x = y <;> simp [h]
theorem nh (x y:Int):(x==y)=decide (x=y):=by by_cases h:x=y <;> simp [h]
theorem Co {α:Type} (l:List α):decide ((l.length:Int)<(l.length:Int))=false:=decide_eq_false (by omega)
theorem ltN {i n:Nat} (h:i<n):decide ((i:Int)<(n:Int))=true:=decide_eq_true (by omega)
theorem dN {z:Int} (h : -9223372036854775808≤z∧z≤9223372036854775807):IntKind.i64.wrap z=z:=V2 h.1 h.2
end Go.Ab
set_option linter.unusedVariables false
namespace Go.Ab
open Go
abbrev CF:=Int×Int×Int×Int
abbrev FR:=Int×Int×Int×Int×Int×Int×Int
def da (c:CF):Bool:=decide (1≤c.1∧c.1≤8∧(c.2.1=1∨c.2.1=2∨c.2.1=4∨c.2.1=8∨c.2.1=16)∧1≤c.2.2.1∧c.2.2.1≤16∧0≤c.2.2.2∧c.2.2.2≤4)
def wT (c:CF) (w:Int):Int:=6+2*c.2.2.1+w*(3+c.2.1)
def bG (c:CF):Int:=if da c=true then wT c c.1 else 0
def fU (c:CF) (w:Int):Int:=if da c=true∧0≤w∧w<c.1 then wT c w+2 else -1
def ah (m:List Int) (i:Int):Int:=if 0≤i then (m[i.toNat]?).getD 0 else 0
def ao (m:List Int) (i v:Int):List Int:=if 0≤i then m.set i.toNat v else m
def pP (m:List Int) (i old new:Int):List Int×Bool:=if 0≤i∧i<m.length∧ah m i=old then (ao m i new,true) else (m,false)
def epB (e:Int):Int:=e/65536
def mkB (e:Int):Int:=e%65536
def rR (x w:Int):Bool:=decide (x/2 ^ w.toNat%2=1)
def Ol (e w:Int):Int:=if 0≤w∧w<16∧rR e w=false then e+2 ^ w.toNat else e
def ea (f:FR):Bool:=f.2.2.2.2.2.2 !=0
def eN (f:FR) (res val:Int):FR:=(f.1,0,f.2.2.1,val,0,0,res)
def pW (c:CF) (m:List Int) (f:FR) (op pcs:Int):Bool:=da c&&decide ((m.length:Int)=bG c)&&decide (f.2.2.2.2.2.2=0∧0≤f.2.2.1∧f.2.2.1<c.1∧f.1=op∧0≤f.2.1∧f.2.1<pcs)
def Az (c:CF) (m:List Int) (f:FR):List Int×FR:=
 if pW c m f 5 5=false then (m,f)
 else if f.2.1=0 then (m,f.1,1,f.2.2.1,f.2.2.2.1,ah m 2,f.2.2.2.2.2)
 else if f.2.1=1 then (if epB (ah m 2)=epB f.2.2.2.2.1 then (m,f.1,2,f.2.2.1,f.2.2.2.1,f.2.2.2.2.1,ah m 2,f.2.2.2.2.2.2) else (m,eN f 4 0))
 else if f.2.1=2 then (let r:=pP m 2 f.2.2.2.2.2.1 (Ol f.2.2.2.2.2.1 f.2.2.1);(r.1,f.1,if r.2=true then 3 else 1,f.2.2))
 else if f.2.1=3 then (let y:=ah m (fU c f.2.2.1);(m,f.1,if y=0 then 3 else 4,f.2.2.1,f.2.2.2.1,f.2.2.2.2.1,y,f.2.2.2.2.2.2))
 else (ao m (fU c f.2.2.1) 0,eN f 1 0)
structure Wm (m:List Int):Prop where
 len:m.length≤9223372036854775807
 num:∀ x ∈ m,0≤x∧x≤18446744073709551615
theorem lN {z:Int} (h0:0≤z) (h1:z≤18446744073709551615):IntKind.u64.wrap z=z:=by
 simp [IntKind.wrap,IntKind.bits,IntKind.signed]
 omega
theorem Uo {a b:Nat} (ha:a<18446744073709551616) (hb:b<18446744073709551616):wL .u64 (a:Int) (b:Int)=((a &&& b:Nat):Int):=by
 unfold wL
 have h:(BitVec.ofInt IntKind.u64.bits (a:Int) &&& BitVec.ofInt IntKind.u64.bits (b:Int)).toNat=a &&& b:=by
  rw [BitVec.toNat_and]
  have e:IntKind.u64.bits=64:=rfl
  rw [e]
  simp only [BitVec.ofInt_natCast,BitVec.toNat_ofNat]
  rw [Nat.mod_eq_of_lt (by omega),Nat.mod_eq_of_lt (by omega)]
 rw [h]
 have:a &&& b≤a:=Nat.and_le_left
 exact lN (by omega) (by omega)
theorem orU {a b:Nat} (ha:a<18446744073709551616) (hb:b<18446744073709551616):orI .u64 (a:Int) (b:Int)=((a ||| b:Nat):Int):=by
 unfold orI
 have h:(BitVec.ofInt IntKind.u64.bits (a:Int) ||| BitVec.ofInt IntKind.u64.bits (b:Int)).toNat=a ||| b:=by
  rw [BitVec.toNat_or]
  have e:IntKind.u64.bits=64:=rfl
  rw [e]
  simp only [BitVec.ofInt_natCast,BitVec.toNat_ofNat]
  rw [Nat.mod_eq_of_lt (by omega),Nat.mod_eq_of_lt (by omega)]
 rw [h]
 have:a ||| b<2 ^ 64:=Nat.or_lt_two_pow (by omega) (by omega)
 exact lN (by omega) (by omega)
theorem Wi {e:Int} (h0:0≤e) (h1:e≤18446744073709551615):wL .u64 e 65535=mkB e:=by
 obtain ⟨n,rfl⟩:∃ n:Nat,e=n:=⟨e.toNat,by omega⟩
 have:=Uo (a:=n) (b:=65535) (by omega) (by omega)
 have h2:((65535:Nat):Int)=65535:=rfl
 rw [h2] at this
 rw [this,mkB]
 have h3:n &&& 65535=n%65536:=Nat.and_two_pow_sub_one_eq_mod n 16
 rw [h3]
 omega
theorem acA {e w:Int} (h0:0≤e) (hw:0≤w) (hw2:w≤64):VG .u64 e w=e/2 ^ w.toNat:=by
 unfold VG
 have e1:IntKind.u64.bits=64:=rfl
 rw [e1]
 have:min w.toNat 64=w.toNat:=by omega
 rw [this,Int.fdiv_eq_ediv_of_nonneg _ (Int.le_of_lt (Int.pow_pos (by decide)))]
theorem Zo {e:Int} (h0:0≤e):VG .u64 e 16=epB e:=by
 rw [acA h0 (by decide) (by decide)]
 rfl
theorem akE {x:Int} (h0:0≤x) (h1:x≤18446744073709551615):wL .u64 x 1=x%2:=by
 obtain ⟨n,rfl⟩:∃ n:Nat,x=n:=⟨x.toNat,by omega⟩
 have:=Uo (a:=n) (b:=1) (by omega) (by omega)
 have h2:((1:Nat):Int)=1:=rfl
 rw [h2] at this
 rw [this,Nat.and_one_is_mod]
 omega
theorem YO {x w:Int} (h0:0≤x) (h1:x≤18446744073709551615):0≤x/2 ^ w.toNat∧x/2 ^ w.toNat≤18446744073709551615:=by
 have hp:(0:Int)<2 ^ w.toNat:=Int.pow_pos (by decide)
 have:=Int.ediv_nonneg h0 (Int.le_of_lt hp)
 have:=Int.ediv_le_self (2 ^ w.toNat) h0
 omega
theorem aj2 {x w:Int} (h0:0≤x) (h1:x≤18446744073709551615) (hw:0≤w) (hw2:w≤64):(wL .u64 (VG .u64 x w) 1==1)=rR x w:=by
 have:=YO (w:=w) h0 h1
 rw [acA h0 hw hw2,akE this.1 this.2,rR,nh]
theorem ajN {w:Int} (hw:0≤w) (hw2:w<64):Vr .u64 1 w=2 ^ w.toNat:=by
 unfold Vr
 have e1:IntKind.u64.bits=64:=rfl
 rw [e1]
 have:min w.toNat 64=w.toNat:=by omega
 rw [this,Int.one_mul]
 have h1:(2:Nat) ^ w.toNat≤2 ^ 63:=Nat.pow_le_pow_right (by decide) (by omega)
 have h2:((2 ^ w.toNat:Nat):Int)=(2:Int) ^ w.toNat:=by rw [Int.natCast_pow];rfl
 have h3:(0:Int)<2 ^ w.toNat:=Int.pow_pos (by decide)
 exact lN (by omega) (by omega)
theorem adW {e w:Int} (h0:0≤e) (h1:e≤18446744073709551615) (hw:0≤w) (hw2:w<16):orI .u64 e (2 ^ w.toNat)=Ol e w:=by
 obtain ⟨n,rfl⟩:∃ n:Nat,e=n:=⟨e.toNat,by omega⟩
 have hp:(2:Nat) ^ w.toNat≤2 ^ 15:=Nat.pow_le_pow_right (by decide) (by omega)
 have h2:((2 ^ w.toNat:Nat):Int)=(2:Int) ^ w.toNat:=by rw [Int.natCast_pow];rfl
 rw [← h2,orU (by omega) (by omega)]
 have hb:rR (n:Int) w=n.testBit w.toNat:=by
  rw [rR,Nat.testBit_eq_decide_div_mod_eq,← h2]
  have:((n:Int)/((2 ^ w.toNat:Nat):Int))%2=((n/2 ^ w.toNat%2:Nat):Int):=by rw [Int.natCast_emod,Int.natCast_ediv];rfl
  rw [this]
  congr 1
  apply propext
  omega
 unfold Ol
 cases ht:n.testBit w.toNat with
 | true=>
  rw [hb,ht,if_neg (by simp)]
  congr 1
  apply Nat.eq_of_testBit_eq
  intro i
  rw [Nat.testBit_or,Nat.testBit_two_pow]
  by_cases hi:w.toNat=i
  ·subst hi;simp [ht]
  ·simp [hi]
 | false=>
  rw [hb,ht,if_pos ⟨hw,hw2,rfl⟩,← h2]
  have h3:(BitVec.ofNat 80 n) &&& (BitVec.ofNat 80 (2 ^ w.toNat))=0#80:=by
   apply BitVec.eq_of_toNat_eq
   rw [BitVec.toNat_and]
   simp only [BitVec.toNat_ofNat]
   rw [Nat.mod_eq_of_lt (by omega),Nat.mod_eq_of_lt (by omega),Nat.zero_mod]
   apply Nat.eq_of_testBit_eq
   intro i
   rw [Nat.testBit_and,Nat.testBit_two_pow,Nat.zero_testBit]
   by_cases hi:w.toNat=i
   ·subst hi;simp [ht]
   ·simp [hi]
  have h4:=congrArg BitVec.toNat (BitVec.add_eq_or_of_and_eq_zero _ _ h3)
  rw [BitVec.toNat_add,BitVec.toNat_or] at h4
  simp only [BitVec.toNat_ofNat] at h4
  rw [Nat.mod_eq_of_lt (show n<2 ^ 80 by omega),Nat.mod_eq_of_lt (show 2 ^ w.toNat<2 ^ 80 by omega),Nat.mod_eq_of_lt (show n+2 ^ w.toNat<2 ^ 80 by omega)] at h4
  rw [← h4]
  omega
theorem ct {m:List Int} (hm:Wm m) (i:Int):0≤ah m i∧ah m i≤18446744073709551615:=by
 unfold ah
 split
 ·cases h:m[i.toNat]? with
  | none=>simp
  | some x=>exact hm.num x (List.mem_of_getElem? h)
 ·omega
theorem abK {e w:Int} (h0:0≤e) (h1:e≤18446744073709551615):0≤Ol e w∧Ol e w≤18446744073709551615:=by
 unfold Ol
 split
 ·rename_i h
  have hs:=adW h0 h1 h.1 h.2.1
  unfold Ol at hs
  rw [if_pos h] at hs
  rw [← hs]
  obtain ⟨n,rfl⟩:∃ n:Nat,e=n:=⟨e.toNat,by omega⟩
  have hp:(2:Nat) ^ w.toNat≤2 ^ 15:=Nat.pow_le_pow_right (by decide) (by omega)
  have h2:((2 ^ w.toNat:Nat):Int)=(2:Int) ^ w.toNat:=by rw [Int.natCast_pow];rfl
  rw [← h2,orU (by omega) (by omega)]
  have:n ||| 2 ^ w.toNat<2 ^ 64:=Nat.or_lt_two_pow (by omega) (by omega)
  omega
 ·omega
end Go.Ab
set_option maxRecDepth 100000
set_option linter.unusedVariables false
namespace Go.Ab
theorem aA {c:CF} (h:da c=true):1≤c.1∧c.1≤8∧(c.2.1=1∨c.2.1=2∨c.2.1=4∨c.2.1=8∨c.2.1=16)∧1≤c.2.2.1∧c.2.2.1≤16∧0≤c.2.2.2∧c.2.2.2≤4:=by
 unfold da at h
 exact of_decide_eq_true h
theorem dG {c:CF} (h:da c=true) {w:Int} (h0:0≤w) (h1:w≤8):8≤wT c w∧wT c w≤190∧w*(3+c.2.1)≤152∧0≤w*(3+c.2.1):=by
 obtain ⟨_,_,hD,_,_,_,_⟩:=aA h
 have a:0≤w*(3+c.2.1):=Int.mul_nonneg h0 (by omega)
 have b:w*(3+c.2.1)≤8*19:=Int.mul_le_mul h1 (by omega) (by omega) (by omega)
 unfold wT
 omega
theorem aaU (a b c:Int):eJ a b c=some (decide (b≤a∧a≤c)):=by
 unfold eJ
 by_cases h:b≤a
 ·simp [h]
 ·simp [h]
theorem ako {D:Int} (h1:1≤D) (h2:D≤16):(wL IntKind.i64 D (IntKind.i64.wrap (D - 1))==0)=decide (D=1∨D=2∨D=4∨D=8∨D=16):=by
 have:D=1∨D=2∨D=3∨D=4∨D=5∨D=6∨D=7∨D=8∨D=9∨D=10∨D=11∨D=12∨D=13∨D=14∨D=15∨D=16:=by omega
 rcases this with rfl | rfl | rfl | rfl | rfl | rfl | rfl | rfl | rfl | rfl | rfl | rfl | rfl | rfl | rfl | rfl <;> decide +kernel
theorem gL (c:CF):bZ c=some (da c):=by
 obtain ⟨W,D,I,S⟩:=c
 unfold bZ da
 simp only [aaU,ab]
 by_cases h1:1≤W∧W≤8
 ·rw [decide_eq_true h1,cond_true]
  by_cases h2:1≤D∧D≤16
  ·rw [decide_eq_true h2,cond_true,ako h2.1 h2.2]
   by_cases h3:D=1∨D=2∨D=4∨D=8∨D=16
   ·rw [decide_eq_true h3,cond_true]
    by_cases h4:1≤I∧I≤16
    ·rw [decide_eq_true h4,cond_true]
     congr 1
     apply decide_eq_decide.2
     omega
    ·rw [decide_eq_false h4,cond_false]
     symm
     congr 1
     apply decide_eq_false
     omega
   ·rw [decide_eq_false h3,cond_false]
    symm
    congr 1
    apply decide_eq_false
    omega
  ·rw [decide_eq_false h2,cond_false]
   symm
   congr 1
   apply decide_eq_false
   omega
 ·rw [decide_eq_false h1,cond_false]
  symm
  congr 1
  apply decide_eq_false
  omega
theorem Gm {c:CF} (h:da c=true) {w:Int} (h0:0≤w) (h1:w≤8):fl c w=some (wT c w):=by
 have ht:=dG h h0 h1
 have hm:=aA h
 obtain ⟨W,D,I,S⟩:=c
 simp only [wT] at ht hm ⊢
 unfold fl
 simp only
 rw [dN (z:=2*I) (by omega),dN (z:=6+2*I) (by omega),dN (z:=3+D) (by omega),dN (z:=w*(3+D)) (by omega),dN (by omega)]
theorem Cp (c:CF):dP c=some (bG c):=by
 unfold dP bG
 try simp only [Prod.eta]
 rw [gL,ab]
 cases h:da c with
 | false=>rfl
 | true=>
  have hm:=aA h
  rw [Bool.not_true,cond_false,if_pos rfl,Gm h (by omega) (by omega),ab]
theorem ni (f:FR):aH f=some (ea f):=rfl
theorem ki (f:FR) (r v:Int):aQ f r v=some (eN f r v):=rfl
theorem Kc (c : CF) (m : List Int) (f : FR) (op pcs : Int) : eZ c m f op pcs = some (pW c m f op pcs) := by
  obtain ⟨a0, a1, a2, a3, a4, a5, a6⟩ := f
  unfold eZ pW
  try simp only [Prod.eta]
  rw [gL, ab]
  cases h : da c with
  | false => rfl
  | true =>
    rw [cond_true, Cp, ab, nh]
    by_cases h1 : (m.length : Int) = bG c
    · rw [decide_eq_true h1, cond_true, ni, ab, ea]
      simp only
      by_cases h2 : a6 = 0
      · subst h2
        have e : (!((0 : Int) != 0)) = true := rfl
        rw [e, cond_true]
        by_cases h3 : 0 ≤ a2
        · rw [leT h3, cond_true]
          by_cases h4 : a2 < c.1
          · rw [ltT h4, cond_true, nh]
            by_cases h5 : a0 = op
            · rw [decide_eq_true h5, cond_true]
              by_cases h6 : 0 ≤ a1
              · rw [leT h6, cond_true]
                simp [h3, h4, h5, h6]
              · rw [leF (by omega), cond_false]
                simp [h6]
            · rw [decide_eq_false h5, cond_false]
              simp [h5]
          · rw [ltF (by omega), cond_false]
            simp [h4]
        · rw [leF (by omega), cond_false]
          simp [h3]
      · have e : (!(a6 != 0)) = false := by simp [h2]
        rw [e, cond_false]
        simp [h2]
    · rw [decide_eq_false h1, cond_false]
      simp
theorem Qu (c:CF) (w:Int):f6 c w=some (fU c w):=by
 unfold f6 fU
 try simp only [Prod.eta]
 rw [gL,ab]
 cases h:da c with
 | false=>simp
 | true=>
  have hm:=aA h
  rw [Bool.not_true,cond_false,dN (by omega),aaU,ab]
  by_cases h1:0≤w∧w≤c.1 - 1
  ·have ht:=dG h h1.1 (by omega)
   rw [decide_eq_true h1,Bool.not_true,cond_false,Gm h (by omega) (by omega),ab,dN (by omega),if_pos ⟨rfl,by omega,by omega⟩]
  ·rw [decide_eq_false h1,Bool.not_false,cond_true,if_neg (by omega)]
theorem agC (m:List Int) (i:Int):iG m i=some (decide (0≤i∧i<m.length)):=by
 unfold iG
 by_cases h:0≤i
 ·simp [h]
 ·simp [h]
theorem m9 {m:List Int} {i:Int} (h:0≤i∧i<m.length):idx m i=some (ah m i)∧m[i.toNat]? = some (ah m i):=by
 have h2:i.toNat<m.length:=by omega
 rw [idx,if_pos h.1,ah,if_pos h.1,List.getElem?_eq_getElem h2]
 exact ⟨rfl,rfl⟩
theorem U5 {m:List Int} {i:Int} (h:¬ (0≤i∧i<m.length)):ah m i=0:=by
 unfold ah
 split
 ·rw [List.getElem?_eq_none (by omega)]
  rfl
 ·rfl
theorem OW {m:List Int} {i v:Int} (h:¬ (0≤i∧i<m.length)):ao m i v=m:=by
 unfold ao
 split
 ·rw [List.set_eq_of_length_le (by omega)]
 ·rfl
theorem iB {m:List Int} {i v:Int}:(ao m i v).length=m.length:=by
 unfold ao
 split <;> simp
theorem Wm.set {m:List Int} (h:Wm m) (i:Int) {v:Int} (h0:0≤v) (h1:v≤18446744073709551615):Wm (ao m i v):=by
 refine ⟨by rw [iB];exact h.len,fun x hx => ?_⟩
 unfold ao at hx
 split at hx
 ·rcases List.mem_or_eq_of_mem_set hx with hx | rfl
  ·exact h.num x hx
  ·exact ⟨h0,h1⟩
 ·exact h.num x hx
theorem Wm.cas {m:List Int} (h:Wm m) (i o:Int) {v:Int} (h0:0≤v) (h1:v≤18446744073709551615):Wm (pP m i o v).1:=by
 unfold pP
 split
 ·exact h.set i h0 h1
 ·exact h
theorem fk (m:List Int) (i:Int):aE m i=some (ah m i):=by
 unfold aE
 rw [agC,ab]
 by_cases h:0≤i∧i<m.length
 ·rw [decide_eq_true h,Bool.not_true,cond_false,(m9 h).1,ab]
 ·rw [decide_eq_false h,Bool.not_false,cond_true,U5 h]
theorem bM {α:Type} {b:Nat} {l:List α} (h:l.length*b≤70368744177664):aK b l=some l:=by
 unfold aK
 have:Nat.ble (l.length*b) 70368744177664=true:=Nat.ble_eq_true_of_le h
 rw [this,cr]
section
variable {m:List Int} (hl:m.length≤1000)
include hl
theorem kX (i v:Int):bg m i v=some (ao m i v):=by
 unfold bg
 rw [bM (by omega),ab,agC,ab]
 by_cases h:0≤i∧i<m.length
 ·rw [decide_eq_true h,Bool.not_true,cond_false,(m9 h).1,ab,decide_eq_true (by omega),cond_true,(m9 h).2,ab,ab,ao,if_pos h.1]
 ·rw [decide_eq_false h,Bool.not_false,cond_true,OW h]
theorem Jr (i o v:Int):dw m i o v=some (pP m i o v):=by
 unfold dw pP
 rw [bM (by omega),ab,agC,ab]
 by_cases h:0≤i∧i<m.length
 ·rw [decide_eq_true h,Bool.not_true,cond_false,(m9 h).1,ab,Hm]
  by_cases h2:ah m i=o
  ·rw [decide_eq_true h2,Bool.not_true,cond_false,decide_eq_true (by omega),cond_true,(m9 h).2,ab,ab,if_pos ⟨h.1,h.2,h2⟩,ao,if_pos h.1]
  ·rw [decide_eq_false h2,Bool.not_false,cond_true,decide_eq_true (by omega),cond_true,(m9 h).2,ab,ab,if_neg (fun hh=>h2 hh.2.2)]
   have:=(m9 h).2
   rw [List.getElem?_eq_some_iff] at this
   obtain ⟨h3,h4⟩:=this
   rw [← h4,List.set_getElem_self]
 ·rw [decide_eq_false h,Bool.not_false,cond_true,if_neg (fun hh=>h ⟨hh.1,hh.2.1⟩)]
end
theorem alk {e w:Int} (h0:0≤e) (h1:e≤18446744073709551615):l8 e w=some (Ol e w):=by
 unfold l8
 by_cases h2:w<0
 ·rw [ltT h2,cond_true,Ol,if_neg (by omega)]
 ·rw [ltF (by omega),cond_false]
  by_cases h3:16≤w
  ·rw [leT h3,cond_true,Ol,if_neg (by omega)]
  ·rw [leF (by omega),cond_false,leT (by omega),cond_true,ajN (by omega) (by omega),adW h0 h1 (by omega) (by omega)]
theorem Fa {e:Int} (h0:0≤e):ed e=some (epB e):=by
 unfold ed
 rw [Zo h0]
theorem Ch {e:Int} (h0:0≤e) (h1:e≤18446744073709551615):dk e=some (mkB e):=by
 unfold dk
 rw [Wi h0 h1]
def Wf (f:FR):Prop:=(0≤f.2.2.2.1∧f.2.2.2.1≤18446744073709551615)∧(0≤f.2.2.2.2.1∧f.2.2.2.2.1≤18446744073709551615)∧(0≤f.2.2.2.2.2.1∧f.2.2.2.2.2.1≤18446744073709551615)
theorem EK {c:CF} {m:List Int} {f:FR} {op pcs:Int} (h:pW c m f op pcs=true):da c=true∧(m.length:Int)=bG c∧f.2.2.2.2.2.2=0∧0≤f.2.2.1∧f.2.2.1<c.1∧f.1=op∧0≤f.2.1∧f.2.1<pcs:=by
 unfold pW at h
 rw [Bool.and_eq_true,Bool.and_eq_true,decide_eq_true_eq,decide_eq_true_eq] at h
 exact ⟨h.1.1,h.1.2,h.2⟩
theorem Yj (c:CF) {m:List Int} (hm:Wm m) (hl:m.length≤1000) {f:FR} (hf:Wf f):lb c m f=some (Az c m f):=by
 have hr:=ct hm 2
 unfold lb Az
 try simp only [Prod.eta]
 rw [bM (by omega),ab,Kc,ab]
 cases h:pW c m f 5 5 with
 | false=>rfl
 | true=>
  obtain ⟨_,_,h6,h2,h2',h0,h1,h1'⟩:=EK h
  rw [cond_true,if_neg (by simp)]
  obtain ⟨a0,a1,a2,a3,a4,a5,a6⟩:=f
  simp only at h6 h2 h2' h0 h1 h1' ⊢
  have e:decide (0≤a1∧a1.toNat<5)=true:=by rw [decide_eq_true_eq];omega
  rw [e,cond_true]
  obtain ⟨_,w4,w5⟩:=hf
  simp only at w4 w5
  have hp:a1=0∨a1=1∨a1=2∨a1=3∨a1=4:=by omega
  rcases hp with rfl | rfl | rfl | rfl | rfl
  ·simp [fk,ab]
  ·simp only [fk,ab,Fa hr.1,Fa w4.1,Hm,ki]
   by_cases h5:epB (ah m 2)=epB a4
   ·simp [h5]
   ·simp [h5,eN]
  ·simp only [alk w5.1 w5.2,ab,Jr hl]
   cases hc:(pP m 2 a5 (Ol a5 a2)).2 <;> simp [hc]
  ·simp only [Qu,fk,ab,Hm]
   by_cases h5:ah m (fU c a2)=0
   ·simp [h5]
   ·simp [h5]
  ·simp only [Qu,ab,kX hl,ki]
   simp [eN]
end Go.Ab
set_option linter.unusedVariables false
namespace Go.Ab
theorem dZ {m:List Int} {i:Int} (v:Int) (h0:0≤i) (h1:i<m.length):ah (ao m i v) i=v:=by
 unfold ah ao
 rw [if_pos h0,if_pos h0,List.getElem?_set_self (by omega)]
 rfl
theorem az {m:List Int} {i j:Int} (v:Int) (h:i≠j):ah (ao m i v) j=ah m j:=by
 unfold ah ao
 by_cases h0:0≤i
 ·by_cases h1:0≤j
  ·rw [if_pos h1,if_pos h0,List.getElem?_set_ne (by omega),if_pos h1]
  ·rw [if_neg h1,if_neg h1]
 ·rw [if_neg h0]
structure OkB (c:CF) (m:List Int) (w:Int):Prop where
 may:da c=true
 len:(m.length:Int)=bG c
 low:0≤w
 high:w<c.1
theorem OkB.size {c:CF} {m:List Int} {w:Int} (h:OkB c m w):(m.length:Int)=wT c c.1∧12≤m.length∧m.length≤190:=by
 have hm:=aA h.may
 have ht:=dG h.may (w:=c.1) (by omega) (by omega)
 have hl:=h.len
 rw [bG,if_pos h.may] at hl
 obtain ⟨W,D,I,S⟩:=c
 simp only [wT] at *
 have:1*(3+D)≤W*(3+D):=Int.mul_le_mul_of_nonneg_right (by omega) (by omega)
 omega
theorem OkB.park {c:CF} {m:List Int} {w:Int} (h:OkB c m w):fU c w=wT c w+2∧2<fU c w∧fU c w<m.length:=by
 have hm:=aA h.may
 have hs:=h.size
 have hl:=h.low
 have hh:=h.high
 have e:fU c w=wT c w+2:=by rw [fU,if_pos ⟨h.may,h.low,h.high⟩]
 have ht:=dG h.may hl (by omega)
 rw [e]
 obtain ⟨W,D,I,S⟩:=c
 simp only [wT] at *
 have h2:(w+1)*(3+D)≤W*(3+D):=Int.mul_le_mul_of_nonneg_right (by omega) (by omega)
 have h3:(w+1)*(3+D)=w*(3+D)+(3+D):=by rw [Int.add_mul,Int.one_mul]
 exact ⟨trivial,by omega,by omega⟩
theorem OkB.store {c:CF} {m:List Int} {w:Int} (h:OkB c m w) (i v:Int):OkB c (ao m i v) w:=⟨h.may,by rw [iB];exact h.len,h.low,h.high⟩
section
variable {c:CF} {m:List Int} {w a3 a4 a5:Int} (h:OkB c m w)
include h
end
theorem aad (n:Nat) {w:Int} (hw:0≤w):rR (n:Int) w=n.testBit w.toNat:=by
 have h2:((2 ^ w.toNat:Nat):Int)=(2:Int) ^ w.toNat:=by rw [Int.natCast_pow];rfl
 rw [rR,Nat.testBit_eq_decide_div_mod_eq,← h2]
 have:((n:Int)/((2 ^ w.toNat:Nat):Int))%2=((n/2 ^ w.toNat%2:Nat):Int):=by rw [Int.natCast_emod,Int.natCast_ediv];rfl
 rw [this]
 congr 1
 apply propext
 omega
theorem ZT (op w:Int):aF op w 0=some (op,0,w,0,0,0,0):=rfl
theorem wf0 {op pc w:Int} {r:Int}:Wf (op,pc,w,0,0,0,r):=by simp [Wf]
end Go.Ab
set_option linter.unusedVariables false
namespace Go.Ab
def GU (e m:Int):Int:=e%281474976710656*65536+m%65536
def Rf (x:Int):Nat→Nat→Int
 | _,0 => -1
 | i,d+1=>if rR x i=true then (i:Int) else Rf x (i+1) d
def Hl (x:Int):Int:=Rf x 0 16
def UR (x:Int):Int:=if Hl x<0 then 0 else x - 2 ^ (Hl x).toNat
def Za (x:Int):Int:=GU (epB x+1) (UR (mkB x))
def aa4 (x:Int):Int:=GU (epB x+1) 0
def LH (c:CF) (m:List Int) (w:Int):List Int:=ao m (fU c w) 1
def Fj (c:CF) (m:List Int) (f:FR):Bool:=decide (f.1=6∨f.1=7)&&da c&&decide ((m.length:Int)=bG c)&&decide (f.2.2.2.2.2.2=0∧0≤f.2.1∧f.2.1≤2)
def wB (c:CF) (m:List Int) (f:FR):List Int×FR:=
 if Fj c m f=false then (m,f)
 else if f.2.1=0 then (m,f.1,1,f.2.2.1,f.2.2.2.1,ah m 2,f.2.2.2.2.2)
 else if f.2.1=1 then
  (if ah m 2=f.2.2.2.2.1 then
   (ao m 2 (if f.1=6 then Za f.2.2.2.2.1 else aa4 f.2.2.2.2.1),
    if mkB f.2.2.2.2.1=0 then eN f 3 0 else (f.1,2,f.2.2.1,f.2.2.2.1,f.2.2.2.2.1,(if f.1=6 then (if Hl (mkB f.2.2.2.2.1)<0 then 0 else Hl (mkB f.2.2.2.2.1)) else mkB f.2.2.2.2.1),f.2.2.2.2.2.2))
  else (m,f.1,0,f.2.2))
 else if f.1=6 then (LH c m (if f.2.2.2.2.2.1<8 then f.2.2.2.2.2.1 else -1),eN f 1 f.2.2.2.2.2.1)
 else (LH c m (Hl f.2.2.2.2.2.1),if UR (mkB f.2.2.2.2.2.1)=0 then eN f 1 (mkB f.2.2.2.2.1) else (f.1,2,f.2.2.1,f.2.2.2.1,f.2.2.2.2.1,UR (mkB f.2.2.2.2.2.1),f.2.2.2.2.2.2))
def Tu (f:FR) (w:Int):Bool := !(ea f)&&decide (f.2.1=2∧0≤w∧w<16)&&(decide (f.1=6∧f.2.2.2.2.2.1=w)||(decide (f.1=7)&&rR f.2.2.2.2.2.1 w))
theorem Du (x:Int):∀ (d i:Nat),(Rf x i d = -1∧∀ j:Nat,i≤j→j<i+d→rR x j=false)∨(∃ j:Nat,Rf x i d=j∧i≤j∧j<i+d∧rR x j=true∧∀ l:Nat,i≤l→l<j→rR x l=false)
 | 0,i => .inl ⟨rfl,fun j h1 h2=>by omega⟩
 | d+1,i=>by
  by_cases h:rR x i=true
  ·exact .inr ⟨i,by rw [Rf,if_pos h],by omega,by omega,h,fun l h1 h2=>by omega⟩
  ·have e:Rf x i (d+1)=Rf x (i+1) d:=by rw [Rf,if_neg h]
   rw [e]
   rcases Du x d (i+1) with ⟨h1,h2⟩ | ⟨j,h1,h2,h3,h4,h5⟩
   ·refine .inl ⟨h1,fun j h3 h4 => ?_⟩
    by_cases e2:i=j
    ·subst e2;simpa using h
    ·exact h2 j (by omega) (by omega)
   ·refine .inr ⟨j,h1,by omega,by omega,h4,fun l h6 h7 => ?_⟩
    by_cases e2:i=l
    ·subst e2;simpa using h
    ·exact h5 l (by omega) h7
theorem Gq (x:Int):(Hl x = -1∧∀ j:Nat,j<16→rR x j=false)∨(∃ j:Nat,Hl x=j∧j<16∧rR x j=true∧∀ l:Nat,l<j→rR x l=false):=by
 rcases Du x 16 0 with ⟨h1,h2⟩ | ⟨j,h1,h2,h3,h4,h5⟩
 ·exact .inl ⟨h1,fun j h=>h2 j (by omega) (by omega)⟩
 ·exact .inr ⟨j,h1,by omega,h4,fun l h=>h5 l (by omega) h⟩
theorem Xg {a w:Nat}:(2 ^ (w+1)*a+2 ^ w) &&& (2 ^ (w+1)*a+(2 ^ w - 1))=2 ^ (w+1)*a:=by
 have hp:0<2 ^ w:=Nat.pow_pos (by decide)
 have hs:2 ^ (w+1)=2*2 ^ w:=by rw [Nat.pow_succ,Nat.mul_comm]
 apply Nat.eq_of_testBit_eq
 intro j
 have e0:2 ^ (w+1)*a=2 ^ (w+1)*a+0:=rfl
 rw [Nat.testBit_and,Nat.testBit_two_pow_mul_add a (by omega),Nat.testBit_two_pow_mul_add a (by omega),e0,Nat.testBit_two_pow_mul_add a (by omega)]
 by_cases h:j<w+1
 ·rw [if_pos h,if_pos h,if_pos h,Nat.testBit_two_pow,Nat.testBit_two_pow_sub_one,Nat.zero_testBit]
  by_cases h2:w=j
  ·subst h2;simp
  ·simp [h2]
 ·rw [if_neg h,if_neg h,if_neg h,Bool.and_self]
theorem FH {x:Int} (h0:0≤x) (h1:x<65536):(x=0∧Hl x = -1)∨(∃ a w:Nat,x=((2 ^ (w+1)*a+2 ^ w:Nat):Int)∧Hl x=w∧w<16):=by
 obtain ⟨n,rfl⟩:∃ n:Nat,x=n:=⟨x.toNat,by omega⟩
 have hb:∀ j:Nat,rR (n:Int) (j:Int)=n.testBit j:=fun j=>aad n (by omega)
 rcases Gq (n:Int) with ⟨h2,h3⟩ | ⟨w,h2,h3,h4,h5⟩
 ·refine .inl ⟨?_,h2⟩
  have:n=0:=by
   apply Nat.eq_of_testBit_eq
   intro j
   rw [Nat.zero_testBit]
   by_cases hj:j<16
   ·rw [← hb];exact h3 j hj
   ·exact Nat.testBit_lt_two_pow (Nat.lt_of_lt_of_le (show n<2 ^ 16 by omega) (Nat.pow_le_pow_right (by decide) (by omega)))
  omega
 ·refine .inr ⟨n/2 ^ (w+1),w,?_,h2,h3⟩
  congr 1
  have hm:n%2 ^ (w+1)=2 ^ w:=by
   apply Nat.eq_of_testBit_eq
   intro j
   rw [Nat.testBit_mod_two_pow,Nat.testBit_two_pow]
   by_cases hj:j<w
   ·have:=h5 j hj
    rw [hb] at this
    have h6:¬ w=j:=by omega
    simp [this,h6]
   ·by_cases hj2:w=j
    ·subst hj2
     rw [hb] at h4
     simp [h4]
    ·have h6:¬ j<w+1:=by omega
     simp [h6,hj2]
  have:=Nat.div_add_mod n (2 ^ (w+1))
  omega
theorem ad6 {x:Int} (h0:0≤x) (h1:x<65536):wL .u64 x (IntKind.u64.wrap (x - 1))=UR x:=by
 unfold UR
 rcases FH h0 h1 with ⟨rfl,h2⟩ | ⟨a,w,rfl,h2,h3⟩
 ·rw [h2]
  decide +kernel
 ·have hp:0<2 ^ w:=Nat.pow_pos (by decide)
  have e:((2 ^ (w+1)*a+2 ^ w:Nat):Int) - 1=((2 ^ (w+1)*a+(2 ^ w - 1):Nat):Int):=by
   generalize 2 ^ (w+1)*a=y
   generalize 2 ^ w=z at hp
   omega
  rw [h2,if_neg (by omega),Int.toNat_natCast,e]
  have hlt:2 ^ (w+1)*a+2 ^ w<65536:=by omega
  rw [lN (by omega) (by generalize 2 ^ (w+1)*a=y at hlt ⊢;generalize 2 ^ w=z at hlt ⊢;omega),Uo (by omega) (by generalize 2 ^ (w+1)*a=y at hlt ⊢;generalize 2 ^ w=z at hlt ⊢;omega),Xg]
  have hw:((2 ^ w:Nat):Int)=(2:Int) ^ w:=by rw [Int.natCast_pow];rfl
  rw [← hw]
  generalize 2 ^ (w+1)*a=y
  generalize (2:Nat) ^ w=z
  omega
theorem PG {x:Int} (h0:0≤x) (h1:x<65536):0≤UR x∧UR x≤x:=by
 unfold UR
 rcases FH h0 h1 with ⟨rfl,h2⟩ | ⟨a,w,rfl,h2,h3⟩
 ·rw [h2];decide
 ·rw [h2,if_neg (by omega),Int.toNat_natCast]
  have hw:((2 ^ w:Nat):Int)=(2:Int) ^ w:=by rw [Int.natCast_pow];rfl
  rw [← hw]
  generalize 2 ^ (w+1)*a=y
  generalize (2:Nat) ^ w=z
  omega
theorem acr {e m:Int} (h0:0≤e) (m0:0≤m) (m1:m≤18446744073709551615):orI .u64 (Vr .u64 e 16) (wL .u64 m 65535)=GU e m:=by
 rw [Wi m0 m1]
 have hs:Vr .u64 e 16=((2 ^ 16*(e.toNat%281474976710656):Nat):Int):=by
  unfold Vr
  have e1:min (16:Int).toNat IntKind.u64.bits=16:=by decide
  rw [e1]
  simp [IntKind.wrap,IntKind.bits,IntKind.signed]
  omega
 have hm:mkB m=((m.toNat%65536:Nat):Int):=by unfold mkB;omega
 rw [hs,hm,orU (by omega) (by omega),← Nat.two_pow_add_eq_or_of_lt (by omega),GU]
 omega
end Go.Ab
set_option linter.unusedVariables false
namespace Go.Ab
theorem CK (c : CF) (m : List Int) (a1 a6 : Int) : (bif da c then bif decide ((m.length : Int) = bG c) then bif !(a6 != 0) then bif decide (0 ≤ a1) then some (decide (a1 ≤ 2)) else some false else some false else some false else some false)
    = some (da c && decide ((m.length : Int) = bG c) && decide (a6 = 0 ∧ 0 ≤ a1 ∧ a1 ≤ 2)) := by
  cases da c with
  | false => rfl
  | true =>
    rw [cond_true]
    by_cases h1 : (m.length : Int) = bG c
    · rw [decide_eq_true h1, cond_true]
      by_cases h2 : a6 = 0
      · by_cases h3 : 0 ≤ a1
        · simp [h2, h3]
        · simp [h2, h3]
      · have : (a6 != 0) = true := by simp [h2]
        simp [h2, this]
    · rw [decide_eq_false h1]
      rfl
theorem Xz (c:CF) (m:List Int) (f:FR):kV c m f=some (Fj c m f):=by
 obtain ⟨a0,a1,a2,a3,a4,a5,a6⟩:=f
 unfold kV Fj
 simp only [Prod.eta,nh,gL,Cp,ni,ab,ea]
 by_cases h1:a0=6
 ·rw [decide_eq_true h1,cond_true,CK,decide_eq_true (show a0=6∨a0=7 from .inl h1),Bool.true_and]
 ·rw [decide_eq_false h1,cond_false]
  by_cases h2:a0=7
  ·rw [decide_eq_true h2,cond_true,CK,decide_eq_true (show a0=6∨a0=7 from .inr h2),Bool.true_and]
  ·rw [decide_eq_false h2,cond_false,decide_eq_false (by omega)]
   rfl
theorem JJ {e:Int} (h0:0≤e):0≤mkB e∧mkB e<65536:=by unfold mkB;omega
theorem VR {e:Int} (h0:0≤e) (h1:e≤18446744073709551615):0≤epB e∧epB e≤281474976710655:=by unfold epB;omega
theorem WA {e m:Int} (h0:0≤e) (m0:0≤m) (m1:m≤18446744073709551615):gX e m=some (GU e m):=by
 unfold gX
 rw [acr h0 m0 m1]
theorem w8 (e m:Int):0≤GU e m∧GU e m≤18446744073709551615:=by unfold GU;omega
theorem QL (x:Int) : -1≤Hl x∧Hl x<16:=by
 rcases Gq x with ⟨h,_⟩ | ⟨j,h,h2,_⟩ <;> omega
theorem Kd {k:Nat} (hk:100≤k) {x:Int} (h0:0≤x) (h1:x≤18446744073709551615):gC k x=some (Hl x):=by
 have key:∀ (d i n:Nat),i+d=16→d<n→cN k x n (i:Int)=some (Rf x i d):=by
  intro d
  induction d with
  | zero=>
   intro i n hi hn
   obtain ⟨n,rfl⟩:=ib hn
   rw [cN,ltF (by omega),cond_false]
   rfl
  | succ d ih=>
   intro i n hi hn
   obtain ⟨n,rfl⟩:=ib hn
   rw [cN,ltT (by omega),cond_true,leT (by omega),cond_true,aj2 h0 h1 (by omega) (by omega),Rf]
   cases hb:rR x i with
   | true=>rw [cond_true,if_pos rfl]
   | false=>rw [cond_false,if_neg (by simp),gH (by omega),ih (i+1) n (by omega) (by omega)]
 exact key 16 0 (k+9) rfl (by omega)
theorem acC {k:Nat} (hk:100≤k) {e:Int} (h0:0≤e) (h1:e≤18446744073709551615):li k e=some (Za e,Hl (mkB e)):=by
 have hm:=JJ h0
 have he:=VR h0 h1
 have hc:=PG hm.1 hm.2
 unfold li
 rw [Ch h0 h1,ab,Fa h0,ab,lN (z:=epB e+1) (by omega) (by omega),ad6 hm.1 hm.2,WA (by omega) hc.1 (by omega),ab,Kd hk hm.1 (by omega),ab]
 rfl
theorem ab5 {e:Int} (h0:0≤e) (h1:e≤18446744073709551615):kW e=some (aa4 e):=by
 have he:=VR h0 h1
 unfold kW
 rw [Fa h0,ab,lN (z:=epB e+1) (by omega) (by omega),WA (by omega) (by decide) (by decide),ab]
 rfl
theorem UZ {k:Nat} (hk:100≤k) {e:Int} (h0:0≤e) (h1:e≤18446744073709551615):fK k e=some (Za e,if Hl (mkB e)<0 then 0 else Hl (mkB e)):=by
 have hl:=QL (mkB e)
 unfold fK
 rw [acC hk h0 h1,ab]
 simp only
 by_cases h:Hl (mkB e)<0
 ·rw [ltT h,cond_true,if_pos h];rfl
 ·rw [ltF (by omega),cond_false,if_neg h,lN (by omega) (by omega)]
theorem T5 {e:Int} (h0:0≤e) (h1:e≤18446744073709551615):fH e=some (aa4 e,mkB e):=by
 unfold fH
 rw [ab5 h0 h1,ab,Ch h0 h1,ab]
theorem Qe {k:Nat} (hk:100≤k) (c:CF) {m:List Int} (hl:m.length≤1000) (w:Int):fR k c m [w]=some (LH c m w):=by
 unfold fR
 obtain ⟨k,rfl⟩:∃ j,k=j+2:=⟨k - 2,by omega⟩
 have f1:∀ k:Nat,k+2+12=(k+12+1)+1:=fun k=>rfl
 have i1:IntKind.i64.wrap (0+1)=1:=by decide
 have x0:idx [w] 0=some w:=rfl
 rw [f1,eG,ltT (by simp),cond_true,x0,ab]
 try simp only [Prod.eta]
 rw [Qu,ab,kX hl,ab,i1,eG,ltF (by simp),cond_false]
 rfl
theorem WK {k:Nat} (hk:1000≤k) (c:CF) {m:List Int} (hm:Wm m) (hl:m.length≤1000) {f:FR} (hf:Wf f):gZ k c m f=some (wB c m f):=by
 have hr:=ct hm 2
 unfold gZ wB
 try simp only [Prod.eta]
 rw [bM (by omega),ab,Xz,ab]
 cases h:Fj c m f with
 | false=>rfl
 | true=>
  rw [Bool.not_true,cond_false,if_neg (by simp)]
  obtain ⟨a0,a1,a2,a3,a4,a5,a6⟩:=f
  obtain ⟨_,w4,w5⟩:=hf
  simp only at w4 w5
  unfold Fj at h
  rw [Bool.and_eq_true,Bool.and_eq_true,Bool.and_eq_true,decide_eq_true_eq,decide_eq_true_eq,decide_eq_true_eq] at h
  obtain ⟨⟨⟨h0,hmay⟩,hlen⟩,h6,h1,h2⟩:=h
  simp only at h0 h6 h1 h2 ⊢
  have hlen2:(2:Int)<m.length:=by
   have hmc:=aA hmay
   have ok:OkB c m 0:=⟨hmay,hlen,by decide,by omega⟩
   have:=ok.size
   omega
  by_cases p0:a1=0
  ·subst p0
   simp [fk,ab]
  ·by_cases p1:a1=1
   ·subst p1
    have e1:∀ v,pP m 2 a4 v=if ah m 2=a4 then (ao m 2 v,true) else (m,false):=by
     intro v
     unfold pP
     by_cases hh:ah m 2=a4
     ·rw [if_pos hh,if_pos ⟨by decide,hlen2,hh⟩]
     ·rw [if_neg hh,if_neg (fun x=>hh x.2.2)]
    rcases h0 with rfl | rfl
    ·simp only [nh,decide_eq_true rfl,decide_eq_false p0,cond_true,cond_false,UZ (k:=k+2) (by omega) w4.1 w4.2,ab,Jr hl,e1,Ch w4.1 w4.2,ki]
     by_cases hh:ah m 2=a4
     ·by_cases h3:mkB a4=0
      ·simp [hh,h3,eN]
      ·simp [hh,h3]
     ·simp [hh]
    ·simp only [nh,decide_eq_true rfl,decide_eq_false p0,decide_eq_false (show ¬ ((7:Int)=6) by decide),cond_true,cond_false,T5 w4.1 w4.2,ab,Jr hl,e1,Ch w4.1 w4.2,ki]
     by_cases hh:ah m 2=a4
     ·by_cases h3:mkB a4=0
      ·simp [hh,h3,eN]
      ·simp [hh,h3]
     ·simp [hh]
   ·rcases h0 with rfl | rfl
    ·simp only [nh,decide_eq_true rfl,decide_eq_false p0,decide_eq_false p1,cond_true,cond_false]
     by_cases h3:a5<8
     ·rw [ltT h3,cond_true,Qe (by omega) c hl,ab,ki,ab,dN (by omega)]
      simp [p0,p1,h3,eN]
     ·rw [ltF (by omega),cond_false,Qe (by omega) c hl,ab,ki,ab]
      simp [p0,p1,h3,eN]
    ·have hk5:=JJ w5.1
     simp only [nh,decide_eq_false (show ¬ ((7:Int)=6) by decide),decide_eq_false p0,decide_eq_false p1,cond_false]
     rw [Kd (by omega) w5.1 w5.2,ab,Qe (by omega) c hl,ab,Ch w5.1 w5.2,ab,ad6 hk5.1 hk5.2,Ch w4.1 w4.2,ab]
     simp only [ki,ab]
     by_cases h3:UR (mkB a5)=0
     ·simp [p0,p1,h3,eN]
     ·have h4:mkB a5≠0:=fun e=>h3 (by rw [e];decide)
      simp [p0,p1,h3,h4]
      omega
end Go.Ab
namespace Go.Ab
open Go.WideShapes
theorem Bz:maxLen≤9223372036854775807:=by decide
theorem agZ {l:Tyt} (hm:l.length≤maxLen) (h:∀ x ∈ l,i64 x.1∧(∀ n ∈ x.2,i64 n)∧x.2.length≤maxLen):Wt l:=
 ⟨Nat.le_trans hm Bz,fun x hx=>Nat.le_trans (h x hx).2.2 Bz⟩
theorem adQ {α:Type} {l:List α} (hm:l.length≤maxLen):l.length≤9223372036854775807:=Nat.le_trans hm Bz
theorem M2 {P:Program} {w:World} {r:Reach} {base:Nat} {t:TypeId} {v:Value} {fs:Array Field} (ht:P.underlying t=some (.struct fs)) (h:Value.okWide P w r base t v):∃ cs,v = .agg cs:=by
 simp only [Value.okWide,ht] at h
 cases v <;> simp_all
theorem Cells.agg {w:World} {cs:Array Value} {vs:List V} (c:Cells w (Value.agg cs).cells.toList vs):RelV (TC w) [] (.agg vs) (.agg cs):=by
 have hl:vs.length=cs.toList.length:=c.len
 refine .agg vs cs (by simpa using hl.symm) c.ones fun i x hx => ?_
 have hi:i<vs.length:=(List.getElem?_eq_some_iff.1 hx).1
 have hi2:i<cs.size:=by rw [hl] at hi;simpa using hi
 have h1:cs.toList[i]? = some cs[i]:=by simp [hi2]
 have:=c.rel i x cs[i] hx h1
 simpa [Array.getD,hi2] using this
end Go.Ab
namespace Go.Ab
open Go.WideShapes
def u64 (n:Int):Prop:=(Lit.int .u64 n).wf=true
def Wd (c:Int×Int×Int×Int):Prop:=i64 c.1∧i64 c.2.1∧i64 c.2.2.1∧i64 c.2.2.2
theorem MN {P:Program} {t ti:TypeId} {f0 f1 f2 f3:Field} {vs:List V} (he:P.underlying t=some (.struct #[f0,f1,f2,f3])) (h0:f0.type=ti) (h1:f1.type=ti) (h2:f2.type=ti) (h3:f3.type=ti) (o0:f0.offset=0) (o1:f1.offset=1) (o2:f2.offset=2) (o3:f3.offset=3) (hi:P.underlying ti=some (.int .i64)) (ci:P.cellsOf ti=1) (ce:P.cellsOf t=4) (h:Shape P t vs) :
  ∃ x:Int×Int×Int×Int,vs=Cb x∧Wd x:=by
 obtain ⟨a,b⟩:=u7 he h
 have s0:=b 0 f0 rfl
 rw [h0,o0,ci,List.drop_zero] at s0
 have s1:=b 1 f1 rfl
 rw [h1,o1,ci] at s1
 have s2:=b 2 f2 rfl
 rw [h2,o2,ci] at s2
 have s3:=b 3 f3 rfl
 rw [h3,o3,ci] at s3
 rw [ce] at a
 obtain ⟨n0,e0,w0⟩:=mf hi s0
 obtain ⟨n1,e1,w1⟩:=mf hi s1
 obtain ⟨n2,e2,w2⟩:=mf hi s2
 obtain ⟨n3,e3,w3⟩:=mf hi s3
 match vs,a with
 | [x0,x1,x2,x3],_=>
  simp at e0 e1 e2 e3
  subst e0 e1 e2 e3
  exact ⟨(n0,n1,n2,n3),rfl,w0,w1,w2,w3⟩
theorem HJ {P:Program} {t s i:TypeId} {vs:List V} (ht:P.underlying t=some (.slice s)) (hs:P.underlying s=some (.slice i)) (hi:P.underlying i=some (.int .i64)) (h:Shape P t vs) :
  ∃ l:List (List Int),vs=[.ro (l.map cR)]∧(∀ x ∈ l,(∀ n ∈ x,i64 n)∧x.length≤maxLen)∧l.length≤maxLen:=by
 obtain ⟨rows,rfl,hr,hm⟩:=o7 ht h
 obtain ⟨l,rfl,hl⟩:=oe (enc:=cR) (Q:=fun x=>(∀ n ∈ x,i64 n)∧x.length≤maxLen) (rows:=rows) (fun r hx=>by
  obtain ⟨l,e,w,m⟩:=uY hs hi (hr r hx)
  exact ⟨l,e,w,m⟩)
 exact ⟨l,rfl,hl,by simpa using hm⟩
end Go.Ab
namespace Go.Ab
open Go.WideShapes
end Go.Ab
set_option linter.unusedVariables false
namespace Go.Ab
end Go.Ab
set_option linter.unusedVariables false
namespace Go.Ab
def lY (c:CF) (x:Int):Int:=if da c=true then 6+x%c.2.2.1 else -1
def BL (c:CF) (x:Int):Int:=if da c=true then 6+c.2.2.1+x%c.2.2.1 else -1
def Ca (c:CF) (x:Int):Int:=x/c.2.2.1*2%18446744073709551616
def uK (a b:Int):Int:=IntKind.i64.wrap (IntKind.u64.wrap (a - b))
def fh (a b:Int):Int:=(a+b)%18446744073709551616
def oQ (c:CF) (m:List Int) (f:FR) (op:Int):Bool:=da c&&decide ((m.length:Int)=bG c)&&decide (f.2.2.2.2.2.2=0∧f.1=op∧0≤f.2.1∧f.2.1<5)
def iJ (c:CF) (m:List Int) (f:FR):List Int×FR:=
 if oQ c m f 3=false then (m,f)
 else if f.2.1=0 then (m,f.1,1,f.2.2.1,f.2.2.2.1,ah m 5,f.2.2.2.2.2)
 else if f.2.1=1 then
  (if ah m (lY c f.2.2.2.2.1)=Ca c f.2.2.2.2.1 then (m,f.1,2,f.2.2.1,f.2.2.2.1,f.2.2.2.2.1,ah m (lY c f.2.2.2.2.1),f.2.2.2.2.2.2)
  else if uK (ah m (lY c f.2.2.2.2.1)) (Ca c f.2.2.2.2.1)<0 then (m,eN f 2 f.2.2.2.1)
  else (m,f.1,0,f.2.2.1,f.2.2.2.1,f.2.2.2.2.1,ah m (lY c f.2.2.2.2.1),f.2.2.2.2.2.2))
 else if f.2.1=2 then (let r:=pP m 5 f.2.2.2.2.1 (fh f.2.2.2.2.1 1);(r.1,f.1,if r.2=true then 3 else 0,f.2.2))
 else if f.2.1=3 then (ao m (BL c f.2.2.2.2.1) f.2.2.2.1,f.1,4,f.2.2)
 else (ao m (lY c f.2.2.2.2.1) (fh (Ca c f.2.2.2.2.1) 1),eN f 1 f.2.2.2.1)
def BR (c:CF) (x:Int):Int:=fh (Ca c x) 1
def kH (c:CF) (m:List Int) (f:FR):List Int×FR:=
 if oQ c m f 4=false then (m,f)
 else if f.2.1=0 then (m,f.1,1,f.2.2.1,f.2.2.2.1,ah m 4,f.2.2.2.2.2)
 else if f.2.1=1 then
  (if uK (ah m (lY c f.2.2.2.2.1)) (BR c f.2.2.2.2.1)=0 then (m,f.1,2,f.2.2.1,f.2.2.2.1,f.2.2.2.2.1,ah m (lY c f.2.2.2.2.1),f.2.2.2.2.2.2)
  else if uK (ah m (lY c f.2.2.2.2.1)) (BR c f.2.2.2.2.1)<0 then (m,eN f 3 0)
  else (m,f.1,0,f.2.2.1,f.2.2.2.1,f.2.2.2.2.1,ah m (lY c f.2.2.2.2.1),f.2.2.2.2.2.2))
 else if f.2.1=2 then (let r:=pP m 4 f.2.2.2.2.1 (fh f.2.2.2.2.1 1);(r.1,f.1,if r.2=true then 3 else 0,f.2.2))
 else if f.2.1=3 then (m,f.1,4,f.2.2.1,ah m (BL c f.2.2.2.2.1),f.2.2.2.2)
 else (ao m (lY c f.2.2.2.2.1) (fh (BR c f.2.2.2.2.1) 1),eN f 1 f.2.2.2.1)
def BK (c:CF) (m:List Int) (f:FR):List Int×FR:=if f.1=3 then iJ c m f else if f.1=4 then kH c m f else (m,f)
def H6 (c:CF) (m:List Int) (f:FR):List Int×FR:=if f.1=5 then Az c m f else if f.1=6∨f.1=7 then wB c m f else (m,f)
def iU (c:CF) (m:List Int) (f:FR):List Int×FR:=if f.1=3∨f.1=4 then BK c m f else H6 c m f
abbrev SB:=Int×List Int×FR
def dd:FR:=(0,0,0,0,0,0,0)
abbrev EV:=Int×Int×Int
def eL (l:List Int):Int:=l.headD 0
def wy (c:CF) (t:Tyt) (m:List Int) (x:SB):Bool:=da c&&decide ((m.length:Int)=bG c)&&oF t&&decide (0≤x.1∧x.1<6∧x.2.1≠[]∧0≤eL x.2.1∧eL x.2.1<t.length)
def fL (c:CF) (t:Tyt) (m:List Int) (i:Int) (x:SB):List Int×SB×List EV:=
 if wy c t m x=false then (m,x,[])
 else if x.1=0 then (if ah m 3≠0 then (m,(0,x.2.1.tail,dd),[(1,eL x.2.1,i)]) else (m,(1,x.2),[]))
 else if x.1=1 then (ao m 0 (fh (ah m 0) 1),(2,x.2.1,(3,0,i,eL x.2.1,0,0,0)),[])
 else if x.1=2 then (let r:=iU c m x.2.2;
  if ea r.2=false then (r.1,(2,x.2.1,r.2),[]) else if r.2.2.2.2.2.2.2=2 then (r.1,(5,x.2.1,r.2),[]) else (r.1,(3,x.2.1,r.2),[(0,eL x.2.1,i)]))
 else if x.1=3 then (if ah m 1≠0 then (m,(0,x.2.1.tail,dd),[]) else (m,(4,x.2.1,(6,0,i,0,0,0,0)),[]))
 else if x.1=4 then (let r:=iU c m x.2.2;if ea r.2=true then (r.1,(0,x.2.1.tail,dd),[]) else (r.1,(4,x.2.1,r.2),[]))
 else (ao m 0 (fh (ah m 0) 18446744073709551615),(0,x.2.1.tail,dd),if ah m 0=1 then [(1,eL x.2.1,i),(5,0,i)] else [(1,eL x.2.1,i)])
def One (m m':List Int):Prop:=∃ i v,m'=ao m i v
theorem One.same (m:List Int):One m m:=⟨-1,0,by unfold ao;rw [if_neg (by decide)]⟩
theorem One.store (m:List Int) (i v:Int):One m (ao m i v):=⟨i,v,rfl⟩
theorem One.cas (m:List Int) (i o v:Int):One m (pP m i o v).1:=by
 unfold pP
 split
 ·exact One.store m i v
 ·exact One.same m
theorem One.len {m m':List Int} (h:One m m'):m'.length=m.length:=by
 obtain ⟨i,v,rfl⟩:=h
 exact iB
theorem aaM (c:CF) (m:List Int) (f:FR):One m (iJ c m f).1:=by
 unfold iJ
 repeat' split
 all_goals first | exact One.same m | exact One.store m _ _ | exact One.cas m _ _ _
theorem Xb (c:CF) (m:List Int) (f:FR):One m (kH c m f).1:=by
 unfold kH
 repeat' split
 all_goals first | exact One.same m | exact One.store m _ _ | exact One.cas m _ _ _
theorem UP (c:CF) (m:List Int) (f:FR):One m (Az c m f).1:=by
 unfold Az
 repeat' split
 all_goals first | exact One.same m | exact One.store m _ _ | exact One.cas m _ _ _
theorem Uc (c:CF) (m:List Int) (f:FR):One m (wB c m f).1:=by
 unfold wB LH
 repeat' split
 all_goals first | exact One.same m | (dsimp only;exact One.store m _ _)
theorem Kn (c:CF) (m:List Int) (f:FR):One m (iU c m f).1:=by
 unfold iU BK H6
 repeat' split
 all_goals first | exact One.same m | exact aaM c m f | exact Xb c m f | exact UP c m f | exact Uc c m f
end Go.Ab
set_option linter.unusedVariables false
namespace Go.Ab
structure InvA (c:CF) (a:Nat) (m:List Int):Prop where
 wm:Wm m
 may:da c=true
 len:(m.length:Int)=bG c
 l0:ah m 0=a
 l1:ah m 1=0
 mask:mkB (ah m 2)=0
 l3:ah m 3=0
 l5:ah m 5=a
 sq:∀ j:Nat,(j:Int)<c.2.2.1→ah m (6+j)=if j<a then 1 else 0
 le:(a:Int)≤c.2.2.1
section
variable {c:CF} {t:Tyt} {m:List Int} {l:List Int} {F:FR}
end
section
variable {c:CF} {m:List Int} {w v X Y:Int} (hmay:da c=true) (hlen:(m.length:Int)=bG c)
include hmay hlen
end
end Go.Ab
set_option linter.unusedVariables false
namespace Go.Ab
theorem oz {q i:Int}:∀ {t:Tyt} {s:Nat},(q,i) ∈ fB s t↔∃ n x,t[n]? = some x∧q ∈ x.2∧i=((s+n:Nat):Int)
 | [],s=>by simp [fB]
 | x::t,s=>by
  simp only [fB,List.mem_append,List.mem_map,Prod.mk.injEq,oz (t:=t) (s:=s+1)]
  constructor
  ·rintro (⟨a,ha,rfl,rfl⟩ | ⟨n,y,hy,hq,rfl⟩)
   ·exact ⟨0,x,rfl,ha,by simp⟩
   ·exact ⟨n+1,y,by simpa using hy,hq,by omega⟩
  ·rintro ⟨n,y,hy,hq,rfl⟩
   cases n with
   | zero=>
    simp at hy
    subst hy
    exact .inl ⟨q,hq,rfl,by simp⟩
   | succ n=>exact .inr ⟨n,y,by simpa using hy,hq,by omega⟩
theorem Kf (n:Nat):∀ (l:List (Int×Int)) (had:aaZ n),(∀ q ∈ l,0≤q.2)→(EC (fV n) l had).1=true →
  (∀ q ∈ l,q.2<q.1∧q.1<n∧had.1[q.1.toNat]? = some false)∧(l.map (·.1)).Nodup
 | [],had,_,_=>by simp
 | q::l,had,h0,h=>by
  simp only [EC] at h
  have hq0:=h0 q (by simp)
  cases hb:Bm n had.1 q with
  | true=>simp [fV,hb] at h
  | false=>
   have e1:(fV n had q).1=true:=by simp [fV,hb]
   have e2:(fV n had q).2.1=had.1.set q.1.toNat true:=by simp [fV,hb]
   rw [e1,if_pos rfl] at h
   obtain ⟨a,b⟩:=Kf n l _ (fun x hx=>h0 x (by simp [hx])) h
   simp only [Bm,Bool.or_eq_false_iff,decide_eq_false_iff_not] at hb
   obtain ⟨⟨h1,h2⟩,h3⟩:=hb
   have h4:q.1.toNat<had.1.length:=by rw [had.2];omega
   have h5:had.1[q.1.toNat]? = some false:=by
    rw [List.getElem?_eq_getElem h4] at h3 ⊢
    simpa using h3
   rw [e2] at a
   have h6:∀ x ∈ l,x.1≠q.1:=by
    intro x hx e
    have:=(a x hx).2.2
    rw [e,List.getElem?_set_self h4] at this
    cases this
   refine ⟨?_,?_⟩
   ·intro x hx
    rcases List.mem_cons.1 hx with rfl | hx
    ·exact ⟨by omega,by omega,h5⟩
    ·obtain ⟨u,v,w⟩:=a x hx
     refine ⟨u,v,?_⟩
     have hx0:=h0 x (by simp [hx])
     rwa [List.getElem?_set_ne (by have:=h6 x hx;omega)] at w
   ·rw [List.map_cons,List.nodup_cons]
    refine ⟨?_,b⟩
    intro hm
    obtain ⟨x,hx,e⟩:=List.mem_map.1 hm
    exact h6 x hx e
structure May (t:Tyt):Prop where
 len:t.length≤30
 work:∀ x ∈ t,0≤x.1∧x.1≤20
 kids:∀ q ∈ fB 0 t,0≤q.2∧q.2<q.1∧q.1<t.length
 once:((fB 0 t).map (·.1)).Nodup
theorem r4 {t:Tyt} {s:Nat} (q) (h:q ∈ fB s t):0≤q.2:=by
 obtain ⟨a,b⟩:=q
 obtain ⟨n,x,_,_,rfl⟩:=oz.1 h
 simp
 omega
theorem Ba {t:Tyt} (h:oF t=true):May t:=by
 unfold oF at h
 simp only [Bool.and_eq_true,decide_eq_true_eq,Bool.not_eq_true'] at h
 obtain ⟨⟨h1,h2⟩,h3⟩:=h
 obtain ⟨a,b⟩:=Kf t.length _ _ r4 h3
 refine ⟨h1,?_,fun q hq=>⟨r4 q hq,(a q hq).1,(a q hq).2.1⟩,b⟩
 intro x hx
 have:=List.any_eq_false.1 h2 x hx
 simp only [pi,Bool.or_eq_true,decide_eq_true_eq,not_or] at this
 omega
theorem Fi {α β:Type} {f:α→β}:∀ {l:List α},(l.map f).Nodup→∀ {a b:α},a ∈ l→b ∈ l→f a=f b→a=b
 | [],_,a,b,ha,_,_=>by simp at ha
 | x::l,h,a,b,ha,hb,e=>by
  rw [List.map_cons,List.nodup_cons] at h
  rcases List.mem_cons.1 ha with ha1 | ha1 <;> rcases List.mem_cons.1 hb with hb1 | hb1
  ·rw [ha1,hb1]
  ·exact absurd (show f x ∈ l.map f from List.mem_map.2 ⟨b,hb1,by rw [← e,ha1]⟩) h.1
  ·exact absurd (show f x ∈ l.map f from List.mem_map.2 ⟨a,ha1,by rw [e,hb1]⟩) h.1
  ·exact Fi h.2 ha1 hb1 e
theorem OB (p:Int):∀ (l:List (Int×Int)) (r:Int),EC (iW p) l r=match l.find? (fun q=>q.1==p) with | some q=>(false,q.2) | none=>(true,r)
 | [],r=>rfl
 | q::l,r=>by
  simp only [EC,iW,List.find?_cons]
  by_cases h:q.1=p
  ·simp [h]
  ·simp [h,beq_false_of_ne h,OB p l r]
theorem IN {t:Tyt} {p o:Int} (hm:oF t=true) (h:(p,o) ∈ fB 0 t):gw t p=o:=by
 have hM:=Ba hm
 cases hf:(fB 0 t).find? (fun q=>q.1==p) with
 | none=>
  rw [List.find?_eq_none] at hf
  have:=hf _ h
  simp at this
 | some q=>
  have h1:=List.mem_of_find?_eq_some hf
  have h2:=List.find?_some hf
  simp only [beq_iff_eq] at h2
  have h3:q=(p,o):=by
   have hn:=hM.once
   exact Fi hn h1 h h2
  rw [gw,if_pos hm,OB,hf,h3]
  rfl
end Go.Ab
set_option maxRecDepth 100000
set_option linter.unusedVariables false
namespace Go.Ab
theorem aeR (x:Int×List Int):fI x=some (pi x):=by
 unfold fI pi
 cases decide (x.1<0) <;> rfl
section
variable (k:Nat) (hk:9223372036854775808≤k)
include hk
theorem Yt (t:Tyt) (ht:Wt t):dE k t=some (aeu t):=by
 have hlen:=ht.len
 have key:∀ r i n,t.drop i=r→i≤t.length→r.length<n→bC k t n (i:Int)=some ((r.take (41 - i)).all (fun x=>decide (x.2.length≤40))&&decide (t.length≤40)):=by
  intro r
  induction r with
  | nil=>
   intro i n hr hi hn
   obtain ⟨n,rfl⟩:=ib hn
   have:i=t.length:=by have:=cV hr;omega
   subst this
   rw [bC,Co,cond_false,Wl]
   simp
  | cons x r ih=>
   intro i n hr hi hn
   obtain ⟨n,rfl⟩:=ib hn
   obtain ⟨a,b,c,d,e⟩:=b8 hr
   rw [bC,ltN a,cond_true]
   by_cases h:i≤40
   ·rw [leT (show (i:Int)≤40 by omega),cond_true,fG b,ab]
    have e1:41 - i=(41 - (i+1))+1:=by omega
    rw [e1,List.take_succ_cons,List.all_cons]
    by_cases h2:x.2.length≤40
    ·rw [ltF (show ((x.2.length:Nat):Int)≤40 by omega),cond_false,gH (by omega),ih (i+1) n c (by omega) (by simp only [List.length_cons] at hn;omega),decide_eq_true h2,Bool.true_and]
    ·rw [ltT (show (40:Int)<(x.2.length:Nat) by omega),cond_true,decide_eq_false h2]
     rfl
   ·rw [leF (show (40:Int)<i by omega),cond_false,Wl]
    have e1:41 - i=0:=by omega
    rw [e1]
    simp
 have:=key t 0 k rfl (Nat.zero_le _) (by omega)
 rw [dE]
 simpa [aeu] using this
theorem Y7 (t:Tyt) (ht:Wt t):aL k t=some (t.any pi):=by
 have hlen:=ht.len
 rw [aL,aU]
 rw [OV (F:=fun n i=>av (k+8) t n i) (l:=t) pi ?_ ?_ _ (by omega)]
 ·rw [ab,Be]
 ·intro n
  simp only [av,Co,cond_false]
 ·intro n i x hi hx
  simp only [av,ltN hi,cond_true,fG hx,ab,aeR,Prod.eta]
  rw [gH (by omega)]
theorem IP (t:Tyt) (ht:Wt t):cH k t=some (oF t):=by
 have hlen:=ht.len
 rw [cH,Y7 k hk t ht,ab]
 unfold oF
 by_cases h1:t.length≤30
 ·rw [aow h1,cond_false,decide_eq_true h1]
  cases h2:t.any pi with
  | true=>rfl
  | false=>
   have h3:decide ((0:Int)≤(t.length:Int)∧(t.length:Int)≤9223372036854775807∧(t.length:Int)*1≤70368744177664)=true:=by simp;omega
   rw [h3,cond_false,cond_true]
   -- one task's kids
   have inner:∀ (x:Int×List Int) (hx:x ∈ t) (i:Nat) (hi:i<t.length) (o:Int→List Bool→Option Bool) (R:List (Int×Int)) (n0:Nat)
     (ho:∀ had:aaZ t.length,o ((i+1:Nat):Int) had.1=some (EC (fV t.length) R had).1),
     ∀ r j n (had:aaZ t.length),x.2.drop j=r→r.length<n →
      dm k t o n x.2 (x.2.length:Int) (j:Int) had.1 (i:Int)=some (EC (fV t.length) (r.map (fun q=>(q,(i:Int)))++R) had).1:=by
    intro x hx i hi o R n0 ho r
    have hxl:=ht.kids x hx
    induction r with
    | nil=>
     intro j n had hr hn
     obtain ⟨n,rfl⟩:=ib hn
     have hj:=cV hr
     rw [dm,ltF (by omega),cond_false,gH (by omega),ho]
     rfl
    | cons q r ih=>
     intro j n had hr hn
     obtain ⟨n,rfl⟩:=ib hn
     obtain ⟨a,b,c,d,e⟩:=b8 hr
     have hb:=had.2
     rw [dm,ltN a,cond_true,fG b,ab,List.map_cons,List.cons_append,EC]
     by_cases h1:q≤(i:Int)
     ·rw [leT h1,cond_true]
      simp [fV,Bm,leT h1]
     ·rw [leF (show (i:Int)<q by omega),cond_false]
      by_cases h2:(t.length:Int)≤q
      ·rw [leT h2,cond_true]
       simp [fV,Bm,leT h2]
      ·rw [leF (show q<(t.length:Int) by omega),cond_false]
       have h5:decide ((0:Int)≤q∧q.toNat<t.length)=true:=by simp;omega
       have h3:q.toNat<had.1.length:=by rw [hb];omega
       have h4:had.1[q.toNat]? = some had.1[q.toNat]:=List.getElem?_eq_getElem h3
       rw [h5,cond_true,h4,ab,cond_true,ab,gH (by omega)]
       cases hh:had.1[q.toNat] with
       | true=>simp [fV,Bm,leF (show (i:Int)<q by omega),leF (show q<(t.length:Int) by omega),h4,hh]
       | false=>
        rw [cond_false]
        have e1:fV t.length had (q,(i:Int))=(true,⟨had.1.set q.toNat true,by simp [had.2]⟩):=by
         simp [fV,Bm,leF (show (i:Int)<q by omega),leF (show q<(t.length:Int) by omega),h4,hh]
        rw [e1]
        simp only [if_true]
        exact ih (j+1) n ⟨had.1.set q.toNat true,by simp [had.2]⟩ c (by simp only [List.length_cons] at hn;omega)
   have outer:∀ r i n (had:aaZ t.length),t.drop i=r→i≤t.length→r.length<n→bX k t n (i:Int) had.1=some (EC (fV t.length) (fB i r) had).1:=by
    intro r
    induction r with
    | nil=>
     intro i n had hr hi hn
     obtain ⟨n,rfl⟩:=ib hn
     have:=cV hr
     rw [bX,ltF (by omega),cond_false]
     rfl
    | cons x r ih=>
     intro i n had hr hi hn
     obtain ⟨n,rfl⟩:=ib hn
     obtain ⟨a,b,c,d,e⟩:=b8 hr
     have hxl:=ht.kids x d
     rw [bX,ltN a,cond_true,fG b,ab,fB]
     have:=inner x d i a (fun s47 s56=>bX k t n s47 s56) (fB (i+1) r) n (fun had=>ih (i+1) n had c (by omega) (by simp only [List.length_cons] at hn;omega)) x.2 0 (k+17) had rfl (by omega)
     simpa using this
   have:=outer t 0 (k+17) (If t.length) rfl (Nat.zero_le _) (by omega)
   simpa [If] using this
 ·rw [apa (by omega),cond_true,decide_eq_false h1]
  rfl
end
end Go.Ab
set_option linter.unusedVariables false
namespace Go.Ab
theorem gR (z:Int):IntKind.u64.wrap z=z%18446744073709551616:=by simp [IntKind.wrap,IntKind.bits,IntKind.signed]
theorem KJ {c:CF} {x:Int} (h0:0≤x) (h1:x≤18446744073709551615):iv c x=some (lY c x):=by
 unfold iv lY
 simp only [Prod.eta,gL,ab]
 cases hm:da c with
 | false=>rfl
 | true=>
  have hc:=aA hm
  have hi:IntKind.u64.wrap c.2.2.1=c.2.2.1:=lN (by omega) (by omega)
  have h3:=Int.emod_lt_of_pos x (show 0<c.2.2.1 by omega)
  have h4:=Int.emod_nonneg x (show c.2.2.1≠0 by omega)
  have e1:IntKind.i64.wrap (c.1 - 1)=c.1 - 1:=by rw [IntKind.wrap_i64];omega
  rw [Bool.not_true,cond_false,aaU,ab,e1,decide_eq_true (by omega),Bool.not_true,cond_false,hi,Hm,decide_eq_false (by omega),Bool.not_false,cond_true,if_pos rfl,Int.tmod_eq_emod_of_nonneg h0]
  have e2:IntKind.i64.wrap (x%c.2.2.1)=x%c.2.2.1:=by rw [IntKind.wrap_i64];omega
  rw [e2,IntKind.wrap_i64]
  congr 1
  omega
theorem Wx {c:CF} {x:Int} (h0:0≤x) (h1:x≤18446744073709551615):md c x=some (BL c x):=by
 unfold md BL
 simp only [Prod.eta,gL,ab]
 cases hm:da c with
 | false=>rfl
 | true=>
  have hc:=aA hm
  have hi:IntKind.u64.wrap c.2.2.1=c.2.2.1:=lN (by omega) (by omega)
  have h3:=Int.emod_lt_of_pos x (show 0<c.2.2.1 by omega)
  have h4:=Int.emod_nonneg x (show c.2.2.1≠0 by omega)
  have e1:IntKind.i64.wrap (c.1 - 1)=c.1 - 1:=by rw [IntKind.wrap_i64];omega
  rw [Bool.not_true,cond_false,aaU,ab,e1,decide_eq_true (by omega),Bool.not_true,cond_false,hi,Hm,decide_eq_false (by omega),Bool.not_false,cond_true,if_pos rfl,Int.tmod_eq_emod_of_nonneg h0]
  have e2:IntKind.i64.wrap (x%c.2.2.1)=x%c.2.2.1:=by rw [IntKind.wrap_i64];omega
  have e3:IntKind.i64.wrap (6+c.2.2.1)=6+c.2.2.1:=by rw [IntKind.wrap_i64];omega
  rw [e2,e3,IntKind.wrap_i64]
  congr 1
  omega
theorem Re {c:CF} {x:Int} (hm:da c=true) (h0:0≤x) (h1:x≤18446744073709551615):IntKind.u64.wrap (IntKind.u64.wrap (x.tdiv (IntKind.u64.wrap c.2.2.1))*2)=Ca c x:=by
 have hc:=aA hm
 have hi:IntKind.u64.wrap c.2.2.1=c.2.2.1:=lN (by omega) (by omega)
 have h3:0≤x/c.2.2.1:=Int.ediv_nonneg h0 (by omega)
 have h4:x/c.2.2.1≤x:=Int.ediv_le_self _ h0
 rw [hi,Int.tdiv_eq_ediv_of_nonneg h0,lN h3 (by omega),gR]
 rfl
theorem As (a b:Int):IntKind.u64.wrap (a+b)=fh a b:=by rw [gR];rfl
theorem gq (a b:Int):0≤fh a b∧fh a b≤18446744073709551615:=by unfold fh;omega
theorem ne0 {c:CF} (hm:da c=true):(IntKind.u64.wrap c.2.2.1 !=0)=true:=by
 have hc:=aA hm
 rw [lN (by omega) (by omega),Hm,decide_eq_false (by omega)]
 rfl
theorem Ww {c:CF} {x:Int} (hm:da c=true) (h0:0≤x) (h1:x≤18446744073709551615):kx c x=some (BR c x):=by
 unfold kx BR
 rw [ne0 hm,cond_true,Re hm h0 h1,As]
theorem OE (a b:Int):fA a b=some (uK a b):=rfl
theorem PX (c:CF) (m:List Int) (f:FR) (op:Int):kL c m f op=some (oQ c m f op):=by
 unfold kL oa oQ
 simp only [Prod.eta,gL,Cp,ni,ab]
 cases hm:da c with
 | false=>rfl
 | true=>
  rw [cond_true,ab,nh,Bool.true_and]
  by_cases h1:(m.length:Int)=bG c
  ·rw [decide_eq_true h1,cond_true,Bool.true_and]
   unfold ea
   rw [Hm,Bool.not_not,nh]
   by_cases h2:f.2.2.2.2.2.2=0
   ·rw [decide_eq_true h2,cond_true]
    by_cases h3:f.1=op
    ·rw [decide_eq_true h3,cond_true]
     by_cases h4:0≤f.2.1
     ·rw [leT h4,cond_true]
      congr 1
      simp [h2,h3,h4]
     ·rw [leF (by omega),cond_false]
      simp [h4]
    ·rw [decide_eq_false h3,cond_false]
     simp [h3]
   ·rw [decide_eq_false h2,cond_false]
    simp [h2]
  ·rw [decide_eq_false h1,cond_false]
   rfl
theorem Jw {c:CF} {m:List Int} {f:FR} {op:Int} (h:oQ c m f op=true):da c=true∧(m.length:Int)=bG c∧f.2.2.2.2.2.2=0∧f.1=op∧0≤f.2.1∧f.2.1<5:=by
 unfold oQ at h
 rw [Bool.and_eq_true,Bool.and_eq_true,decide_eq_true_eq,decide_eq_true_eq] at h
 exact ⟨h.1.1,h.1.2,h.2⟩
theorem Ot (c:CF) {m:List Int} (hm:Wm m) (hl:m.length≤1000) {f:FR} (hf:Wf f):ml c m f=some (iJ c m f):=by
 unfold ml iJ
 try simp only [Prod.eta]
 rw [bM (by omega),ab,PX,ab]
 cases h:oQ c m f 3 with
 | false=>rfl
 | true=>
  obtain ⟨hmay,_,h6,h0,h1,h1'⟩:=Jw h
  rw [Bool.not_true,cond_false,if_neg (by simp)]
  obtain ⟨a0,a1,a2,a3,a4,a5,a6⟩:=f
  simp only at h6 h0 h1 h1' ⊢
  have e:decide (0≤a1∧a1.toNat<5)=true:=by rw [decide_eq_true_eq];omega
  rw [e,cond_true]
  obtain ⟨w3,w4,w5⟩:=hf
  simp only at w3 w4 w5
  rcases (show a1=0∨a1=1∨a1=2∨a1=3∨a1=4 by omega) with rfl | rfl | rfl | rfl | rfl
  ·simp [fk,ab]
  ·simp only [KJ w4.1 w4.2,fk,ab,ne0 hmay,Re hmay w4.1 w4.2,OE,ki,nh,cond_true]
   by_cases h5:ah m (lY c a4)=Ca c a4
   ·simp [h5]
   ·by_cases h7:uK (ah m (lY c a4)) (Ca c a4)<0
    ·simp [h5,h7,eN]
    ·simp [h5,h7]
  ·simp only [As,Jr hl,ab]
   cases hc:(pP m 5 a4 (fh a4 1)).2 <;> simp [hc]
  ·simp only [Wx w4.1 w4.2,kX hl,ab]
   simp
  ·simp only [KJ w4.1 w4.2,ne0 hmay,Re hmay w4.1 w4.2,As,kX hl,ab,ki,cond_true]
   simp [eN]
theorem Qk (c:CF) {m:List Int} (hm:Wm m) (hl:m.length≤1000) {f:FR} (hf:Wf f):mg c m f=some (kH c m f):=by
 unfold mg kH
 try simp only [Prod.eta]
 rw [bM (by omega),ab,PX,ab]
 cases h:oQ c m f 4 with
 | false=>rfl
 | true=>
  obtain ⟨hmay,_,h6,h0,h1,h1'⟩:=Jw h
  rw [Bool.not_true,cond_false,if_neg (by simp)]
  obtain ⟨a0,a1,a2,a3,a4,a5,a6⟩:=f
  simp only at h6 h0 h1 h1' ⊢
  obtain ⟨w3,w4,w5⟩:=hf
  simp only at w3 w4 w5
  rcases (show a1=0∨a1=1∨a1=2∨a1=3∨a1=4 by omega) with rfl | rfl | rfl | rfl | rfl
  ·simp [fk,ab]
  ·simp only [KJ w4.1 w4.2,fk,ab,Ww hmay w4.1 w4.2,OE,ki,nh]
   by_cases h5:uK (ah m (lY c a4)) (BR c a4)=0
   ·simp [h5]
   ·by_cases h7:uK (ah m (lY c a4)) (BR c a4)<0
    ·simp [h5,h7,eN]
    ·simp [h5,h7]
  ·simp only [As,Jr hl,ab]
   cases hc:(pP m 4 a4 (fh a4 1)).2 <;> simp [hc]
  ·simp only [Wx w4.1 w4.2,fk,ab]
   simp
  ·simp only [KJ w4.1 w4.2,Ww hmay w4.1 w4.2,As,kX hl,ab,ki]
   simp [eN]
theorem Gy (c:CF) {m:List Int} (hm:Wm m) (hl:m.length≤1000) {f:FR} (hf:Wf f):bk c m f=some (BK c m f):=by
 unfold bk BK
 simp only [Prod.eta,Ot c hm hl hf,Qk c hm hl hf,ab,nh]
 by_cases h3:f.1=3
 ·simp [h3]
 ·by_cases h4:f.1=4
  ·simp [h4]
  ·simp [h3,h4,bM (b:=8) (l:=m) (by omega),ab]
theorem Hc {k:Nat} (hk:1000≤k) (c:CF) {m:List Int} (hm:Wm m) (hl:m.length≤1000) {f:FR} (hf:Wf f):co k c m f=some (H6 c m f):=by
 unfold co H6
 simp only [Prod.eta,Yj c hm hl hf,WK hk c hm hl hf,ab,nh]
 by_cases h5:f.1=5
 ·rw [decide_eq_true h5,cond_true,if_pos h5]
 ·rw [decide_eq_false h5,cond_false,if_neg h5]
  by_cases h6:f.1=6
  ·rw [decide_eq_true h6,cond_true,cond_true,if_pos (.inl h6)]
  ·rw [decide_eq_false h6,cond_false]
   by_cases h7:f.1=7
   ·rw [decide_eq_true h7,cond_true,if_pos (.inr h7)]
   ·rw [decide_eq_false h7,cond_false,if_neg (by omega),bM (by omega),ab]
theorem aeD {m:List Int} (hl:m.length≤1000) (i v:Int):dx m i v=some (if 0≤i∧i<m.length then (ao m i (fh (ah m i) v),ah m i) else (m,0)):=by
 unfold dx
 rw [bM (by omega),ab,agC,ab]
 by_cases h:0≤i∧i<m.length
 ·have hd:decide (0≤i∧i.toNat<m.length)=true:=decide_eq_true (by omega)
  rw [decide_eq_true h,Bool.not_true,cond_false,(m9 h).1,ab,hd,cond_true,(m9 h).2,ab,ab,if_pos h,As]
  unfold ao
  rw [if_pos h.1]
 ·rw [decide_eq_false h,Bool.not_false,cond_true,if_neg h]
theorem Ws {k:Nat} (hk:9223372036854775808≤k) (c:CF) {t:Tyt} (ht:Wt t) (m:List Int) (x:SB):eW k c t m x=some (wy c t m x):=by
 unfold eW wy
 simp only [Prod.eta,gL,Cp,ab]
 rw [IP (k+4) (by omega) t ht]
 cases hm:da c with
 | false=>rfl
 | true=>
  rw [cond_true,nh,Bool.true_and]
  by_cases h1:(m.length:Int)=bG c
  ·rw [decide_eq_true h1,cond_true,Bool.true_and,ab]
   cases ht2:oF t with
   | false=>rfl
   | true=>
    rw [cond_true,Bool.true_and]
    by_cases h2:0≤x.1
    ·rw [leT h2,cond_true]
     by_cases h3:x.1<6
     ·rw [ltT h3,cond_true]
      cases hl:x.2.1 with
      | nil=>simp
      | cons r rest=>
       have h0:idx (r::rest) 0=some r:=rfl
       rw [ltT (by simp),cond_true,h0,ab,ab]
       by_cases h4:0≤r
       ·rw [leT h4,cond_true]
        congr 1
        simp [h2,h3,eL,h4]
       ·rw [leF (by omega),cond_false]
        simp [eL,h4]
     ·rw [ltF (by omega),cond_false]
      simp [h3]
    ·rw [leF (by omega),cond_false]
     simp [h2]
  ·rw [decide_eq_false h1,cond_false]
   rfl
theorem AI {c:CF} {t:Tyt} {m:List Int} {x:SB} (h:wy c t m x=true):da c=true∧(m.length:Int)=bG c∧oF t=true∧0≤x.1∧x.1<6∧∃ r rest,x.2.1=r::rest∧0≤r∧r<t.length:=by
 unfold wy at h
 simp only [Bool.and_eq_true,decide_eq_true_eq] at h
 obtain ⟨⟨⟨h1,h2⟩,h3⟩,h4,h5,h6,h7,h8⟩:=h
 cases hx:x.2.1 with
 | nil=>exact absurd hx h6
 | cons r rest=>
  rw [hx] at h7 h8
  exact ⟨h1,h2,h3,h4,h5,r,rest,rfl,h7,h8⟩
theorem rj {c:CF} (h:da c=true):12≤bG c∧bG c≤190:=by
 have hm:=aA h
 have:=dG h (w:=c.1) (by omega) (by omega)
 unfold bG
 rw [if_pos h]
 have e:wT c c.1=6+2*c.2.2.1+c.1*(3+c.2.1):=rfl
 have h3:1*(3+c.2.1)≤c.1*(3+c.2.1):=Int.mul_le_mul_of_nonneg_right (by omega) (by omega)
 omega
theorem aa1 {k:Nat} (hk:9223372036854775808≤k) (c:CF) {t:Tyt} (ht:Wt t) {m:List Int} (hm:Wm m) (hl:m.length≤1000) (i:Int) {x:SB} (hf:Wf x.2.2) (hr:x.2.1.length≤1000) (ht2:t.length≤1000):fo k c t m i x=some (fL c t m i x):=by
 unfold fo fL
 try simp only [Prod.eta]
 rw [bM (by omega),ab,bM (by omega),ab,Ws (by omega) c ht,ab]
 cases hmay:wy c t m x with
 | false=>rfl
 | true=>
  rw [Bool.not_true,cond_false,if_neg (by simp)]
  obtain ⟨h1,h2,h3,h4,h5,r,rest,hx,h6,h7⟩:=AI hmay
  have hsz:=rj h1
  obtain ⟨pc,roots,F⟩:=x
  simp only at hx h4 h5 hf hr ⊢
  subst hx
  have hi0:idx (r::rest) 0=some r:=rfl
  have hroom:room 1 24=true:=rfl
  have hroom2:room 2 24=true:=rfl
  have hd:decide ((1:Int)≤((r::rest).length:Int))=true:=decide_eq_true (by simp;omega)
  have hdr:List.drop (Int.toNat 1) (r::rest)=rest:=rfl
  have hh:eL (r::rest)=r:=rfl
  have hur:IntKind.u64.wrap r=r:=lN h6 (by omega)
  have htl:(r::rest).tail=rest:=rfl
  rw [hi0,ab]
  simp only [Gy c hm hl hf,Hc (k:=k+20) (by omega) c hm hl hf,fk,aeD hl,ab,ni,ZT,hroom,hroom2,hd,hdr,hh,htl,cond_true,hur,nh,Hm]
  have hb:∀ op w v:Int,aF op w v=some (op,0,w,v,0,0,0):=fun _ _ _=>rfl
  simp only [hb,ab]
  have hin:(0:Int)≤0∧(0:Int)<m.length:=by omega
  have hcall:iU c m F=if F.1=3∨F.1=4 then BK c m F else H6 c m F:=rfl
  rcases (show pc=0∨pc=1∨pc=2∨pc=3∨pc=4∨pc=5 by omega) with rfl | rfl | rfl | rfl | rfl | rfl
  ·by_cases h:ah m 3=0
   ·simp [h]
   ·simp [h,dd]
  ·simp only [if_pos hin]
   simp
  ·by_cases e3:F.1=3
   ·have ec:iU c m F=BK c m F:=by rw [hcall,if_pos (.inl e3)]
    rw [ec]
    cases ho:ea (BK c m F).2 with
    | false=>simp [e3,ho]
    | true=>
     by_cases h8:(BK c m F).2.2.2.2.2.2.2=2
     ·simp [e3,ho,h8]
     ·simp [e3,ho,h8]
   ·by_cases e4:F.1=4
    ·have ec:iU c m F=BK c m F:=by rw [hcall,if_pos (.inr e4)]
     rw [ec]
     cases ho:ea (BK c m F).2 with
     | false=>simp [e4,ho]
     | true=>
      by_cases h8:(BK c m F).2.2.2.2.2.2.2=2
      ·simp [e4,ho,h8]
      ·simp [e4,ho,h8]
    ·have ec:iU c m F=H6 c m F:=by rw [hcall,if_neg (by omega)]
     rw [ec]
     cases ho:ea (H6 c m F).2 with
     | false=>simp [e3,e4,ho]
     | true=>
      by_cases h8:(H6 c m F).2.2.2.2.2.2.2=2
      ·simp [e3,e4,ho,h8]
      ·simp [e3,e4,ho,h8]
  ·by_cases h:ah m 1=0
   ·simp [h]
   ·simp [h,dd]
  ·by_cases e3:F.1=3
   ·have ec:iU c m F=BK c m F:=by rw [hcall,if_pos (.inl e3)]
    rw [ec]
    cases ho:ea (BK c m F).2 with
    | false=>simp [e3,ho]
    | true=>simp [e3,ho,dd]
   ·by_cases e4:F.1=4
    ·have ec:iU c m F=BK c m F:=by rw [hcall,if_pos (.inr e4)]
     rw [ec]
     cases ho:ea (BK c m F).2 with
     | false=>simp [e4,ho]
     | true=>simp [e4,ho,dd]
    ·have ec:iU c m F=H6 c m F:=by rw [hcall,if_neg (by omega)]
     rw [ec]
     cases ho:ea (H6 c m F).2 with
     | false=>simp [e3,e4,ho]
     | true=>simp [e3,e4,ho,dd]
  ·simp only [if_pos hin]
   by_cases h:ah m 0=1
   ·simp [h,dd,hroom2]
   ·simp [h,dd]
end Go.Ab
set_option linter.unusedVariables false
namespace Go.Ab
def onW (c:CF) (w x:Int):Int:=if da c=true∧0≤w∧w<c.1 then wT c w+x else -1
def Hn (c:CF) (w:Int):Int:=onW c w 0
def Ix (c:CF) (w:Int):Int:=onW c w 1
def pA (c:CF) (w x:Int):Int:=onW c w (3+wL .u64 x (c.2.1 - 1))
def PO (a b:Int):Int:=(a - b)%18446744073709551616
def eq (c:CF) (m:List Int) (f:FR):List Int×FR:=
 if pW c m f 0 4=false then (m,f)
 else if f.2.1=0 then (m,f.1,1,f.2.2.1,f.2.2.2.1,ah m (Ix c f.2.2.1),f.2.2.2.2.2)
 else if f.2.1=1 then (if c.2.1≤PO f.2.2.2.2.1 (ah m (Hn c f.2.2.1)) then (m,eN f 2 f.2.2.2.1) else (m,f.1,2,f.2.2.1,f.2.2.2.1,f.2.2.2.2.1,ah m (Hn c f.2.2.1),f.2.2.2.2.2.2))
 else if f.2.1=2 then (ao m (pA c f.2.2.1 f.2.2.2.2.1) f.2.2.2.1,f.1,3,f.2.2)
 else (ao m (Ix c f.2.2.1) (fh f.2.2.2.2.1 1),eN f 1 f.2.2.2.1)
def iK (c:CF) (m:List Int) (f:FR):List Int×FR:=
 if pW c m f 1 7=false then (m,f)
 else if f.2.1=0 then (m,f.1,1,f.2.2.1,f.2.2.2.1,PO (ah m (Ix c f.2.2.1)) 1,f.2.2.2.2.2)
 else if f.2.1=1 then (ao m (Ix c f.2.2.1) f.2.2.2.2.1,f.1,2,f.2.2)
 else if f.2.1=2 then (m,f.1,if uK f.2.2.2.2.1 (ah m (Hn c f.2.2.1))<0 then 6 else 3,f.2.2.1,f.2.2.2.1,f.2.2.2.2.1,ah m (Hn c f.2.2.1),f.2.2.2.2.2.2)
 else if f.2.1=3 then (if f.2.2.2.2.1≠f.2.2.2.2.2.1 then (m,eN f 1 (ah m (pA c f.2.2.1 f.2.2.2.2.1))) else (m,f.1,4,f.2.2.1,ah m (pA c f.2.2.1 f.2.2.2.2.1),f.2.2.2.2))
 else if f.2.1=4 then (let r:=pP m (Hn c f.2.2.1) f.2.2.2.2.2.1 (fh f.2.2.2.2.2.1 1);(r.1,f.1,if r.2=true then 5 else 6,f.2.2))
 else if f.2.1=5 then (ao m (Ix c f.2.2.1) (fh f.2.2.2.2.1 1),eN f 1 f.2.2.2.1)
 else (ao m (Ix c f.2.2.1) (fh f.2.2.2.2.1 1),eN f 3 0)
def be (c:CF) (m:List Int) (f:FR):List Int×FR:=
 if pW c m f 2 4=false then (m,f)
 else if f.2.1=0 then (m,f.1,1,f.2.2.1,f.2.2.2.1,f.2.2.2.2.1,ah m (Hn c f.2.2.1),f.2.2.2.2.2.2)
 else if f.2.1=1 then (if uK (ah m (Ix c f.2.2.1)) f.2.2.2.2.2.1≤0 then (m,eN f 3 0) else (m,f.1,2,f.2.2.1,f.2.2.2.1,ah m (Ix c f.2.2.1),f.2.2.2.2.2))
 else if f.2.1=2 then (m,f.1,3,f.2.2.1,ah m (pA c f.2.2.1 f.2.2.2.2.2.1),f.2.2.2.2)
 else (let r:=pP m (Hn c f.2.2.1) f.2.2.2.2.2.1 (fh f.2.2.2.2.2.1 1);if r.2=true then (r.1,eN f 1 f.2.2.2.1) else (r.1,eN f 4 0))
def BW (c:CF) (m:List Int) (f:FR):List Int×FR:=if f.1=0 then eq c m f else if f.1=1 then iK c m f else if f.1=2 then be c m f else (m,f)
def dr (c:CF) (m:List Int) (f:FR):List Int×FR:=if f.1=0∨f.1=1∨f.1=2 then BW c m f else iU c m f
theorem aeC (a b:Int):IntKind.u64.wrap (a - b)=PO a b:=by rw [gR];rfl
theorem U1 (a b:Int):0≤PO a b∧PO a b≤18446744073709551615:=by unfold PO;omega
theorem Ep {x D:Int} (h0:0≤x) (h1:x≤18446744073709551615) (hD:1≤D) (hE:D≤16):0≤wL .u64 x (D - 1)∧wL .u64 x (D - 1)≤D - 1:=by
 obtain ⟨a,rfl⟩:=Int.eq_ofNat_of_zero_le h0
 obtain ⟨b,hb⟩:∃ b:Nat,D - 1=(b:Int):=⟨(D - 1).toNat,by omega⟩
 rw [hb,Uo (by omega) (by omega)]
 have:=Nat.and_le_right (n:=a) (m:=b)
 omega
theorem RU (c:CF) (w:Int):iu c w=some (Hn c w):=by
 unfold iu Hn onW
 try simp only [Prod.eta]
 rw [gL,ab]
 cases h:da c with
 | false=>simp
 | true=>
  have hm:=aA h
  rw [Bool.not_true,cond_false,dN (by omega),aaU,ab]
  by_cases h1:0≤w∧w≤c.1 - 1
  ·have ht:=dG h h1.1 (by omega)
   rw [decide_eq_true h1,Bool.not_true,cond_false,Gm h (by omega) (by omega),ab,if_pos ⟨rfl,by omega,by omega⟩,Int.add_zero]
  ·rw [decide_eq_false h1,Bool.not_false,cond_true,if_neg (by omega)]
theorem Pk (c:CF) (w:Int):dz c w=some (Ix c w):=by
 unfold dz Ix onW
 try simp only [Prod.eta]
 rw [gL,ab]
 cases h:da c with
 | false=>simp
 | true=>
  have hm:=aA h
  rw [Bool.not_true,cond_false,dN (by omega),aaU,ab]
  by_cases h1:0≤w∧w≤c.1 - 1
  ·have ht:=dG h h1.1 (by omega)
   rw [decide_eq_true h1,Bool.not_true,cond_false,Gm h (by omega) (by omega),ab,dN (by omega),if_pos ⟨rfl,by omega,by omega⟩]
  ·rw [decide_eq_false h1,Bool.not_false,cond_true,if_neg (by omega)]
theorem QM (c:CF) (w:Int) {x:Int} (h0:0≤x) (hx:x≤18446744073709551615):f9 c w x=some (pA c w x):=by
 unfold f9 pA onW
 try simp only [Prod.eta]
 rw [gL,ab]
 cases h:da c with
 | false=>simp
 | true=>
  have hm:=aA h
  rw [Bool.not_true,cond_false,dN (z:=c.1 - 1) (by omega),aaU,ab]
  by_cases h1:0≤w∧w≤c.1 - 1
  ·have ht:=dG h h1.1 (by omega)
   have ha:=Ep h0 hx (show 1≤c.2.1 by omega) (by omega)
   rw [decide_eq_true h1,Bool.not_true,cond_false,Gm h (by omega) (by omega),ab,if_pos ⟨rfl,by omega,by omega⟩,dN (z:=c.2.1 - 1) (by omega),lN (z:=c.2.1 - 1) (by omega) (by omega),dN (z:=wL .u64 x (c.2.1 - 1)) (by omega),dN (z:=wT c w+3) (by omega),dN (by omega),Int.add_assoc]
  ·rw [decide_eq_false h1,Bool.not_false,cond_true,if_neg (by omega)]
section
variable (k:Nat) (c:CF) (m:List Int) (a2 a3 a4 a5:Int) (n:Nat) {x:List Int} (p q:Int)
theorem aet:an k c m (2,1,a2,a3,a4,a5,0) (n+1) x p q 0=an k c m (2,1,a2,a3,a4,a5,0) n x p q 1:=by
 rw [an]
 rfl
theorem ac0:an k c m (2,2,a2,a3,a4,a5,0) (n+1) x p q 0=an k c m (2,2,a2,a3,a4,a5,0) n x p q 1:=by
 rw [an]
 rfl
theorem adb:an k c m (2,2,a2,a3,a4,a5,0) (n+1) x p q 1=an k c m (2,2,a2,a3,a4,a5,0) n x p q 2:=by
 rw [an]
 rfl
theorem ad3:an k c m (2,3,a2,a3,a4,a5,0) (n+1) x p q 0=an k c m (2,3,a2,a3,a4,a5,0) n x p q 1:=by
 rw [an]
 rfl
theorem aeo:an k c m (2,3,a2,a3,a4,a5,0) (n+1) x p q 1=an k c m (2,3,a2,a3,a4,a5,0) n x p q 2:=by
 rw [an]
 rfl
theorem ac3:an k c m (2,3,a2,a3,a4,a5,0) (n+1) x p q 2=an k c m (2,3,a2,a3,a4,a5,0) n x p q 3:=by
 rw [an]
 rfl
theorem afn:an k c m (2,0,a2,a3,a4,a5,0) (n+1) x p q 0=some (x,(2,1,a2,a3,a4,ah x p,0)):=by
 have e:an k c m (2,0,a2,a3,a4,a5,0) (n+1) x p q 0=ob (aE x p) fun r=>some (x,(2,1,a2,a3,a4,r,0)):=by
  rw [an]
  rfl
 rw [e,fk,ab]
theorem afu:an k c m (2,1,a2,a3,a4,a5,0) (n+1) x p q 1=some (if uK (ah x q) a5≤0 then (x,(2,0,a2,0,0,0,3)) else (x,(2,2,a2,a3,ah x q,a5,0))):=by
 have e:an k c m (2,1,a2,a3,a4,a5,0) (n+1) x p q 1=ob (aE x q) fun r=>ob (fA r a5) fun y=>bif decide (y≤0) then some (x,(2,0,a2,0,0,0,3)) else some (x,(2,2,a2,a3,r,a5,0)):=by
  rw [an]
  rfl
 rw [e,fk,ab,OE,ab]
 by_cases h:uK (ah x q) a5≤0
 ·rw [leT h,cond_true,if_pos h]
 ·rw [leF (by omega),cond_false,if_neg h]
theorem ad4 (h0:0≤a5) (h1:a5≤18446744073709551615):an k c m (2,2,a2,a3,a4,a5,0) (n+1) x p q 2=some (x,(2,3,a2,ah x (pA c a2 a5),a4,a5,0)):=by
 have e:an k c m (2,2,a2,a3,a4,a5,0) (n+1) x p q 2=ob (f9 c a2 a5) fun s=>ob (aE x s) fun r=>some (x,(2,3,a2,r,a4,a5,0)):=by
  rw [an]
  rfl
 rw [e,QM c a2 h0 h1,ab,fk,ab]
theorem adi (hl:x.length≤1000):an k c m (2,3,a2,a3,a4,a5,0) (n+1) x p q 3=some (if (pP x p a5 (fh a5 1)).2=true then ((pP x p a5 (fh a5 1)).1,(2,0,a2,a3,0,0,1)) else ((pP x p a5 (fh a5 1)).1,(2,0,a2,0,0,0,4))):=by
 have e:an k c m (2,3,a2,a3,a4,a5,0) (n+1) x p q 3=ob (dw x p a5 (IntKind.u64.wrap (a5+1))) fun r=>bif r.2 then some (r.1,(2,0,a2,a3,0,0,1)) else some (r.1,(2,0,a2,0,0,0,4)):=by
  rw [an]
  rfl
 rw [e,As,Jr hl,ab]
 cases (pP x p a5 (fh a5 1)).2 <;> rfl
end
section
variable (c:CF) {m:List Int} (hm:Wm m) (hl:m.length≤1000) {f:FR} (hf:Wf f)
include hm hl hf
theorem My:lq c m f=some (eq c m f):=by
 have _h:=hm
 unfold lq eq
 try simp only [Prod.eta]
 rw [bM (by omega),ab,Kc,ab]
 cases h:pW c m f 0 4 with
 | false=>rfl
 | true=>
  obtain ⟨hmay,_,h6,h2,h2',h0,h1,h1'⟩:=EK h
  have hc:=aA hmay
  rw [cond_true,if_neg (by simp)]
  obtain ⟨a0,a1,a2,a3,a4,a5,a6⟩:=f
  simp only at h6 h2 h2' h0 h1 h1' ⊢
  obtain ⟨w3,w4,w5⟩:=hf
  simp only at w3 w4 w5
  rcases (show a1=0∨a1=1∨a1=2∨a1=3 by omega) with rfl | rfl | rfl | rfl
  ·simp [Pk,fk,ab]
  ·simp only [RU,fk,ab,ki,aeC,lN (z:=c.2.1) (by omega) (by omega)]
   by_cases h5:c.2.1≤PO a4 (ah m (Hn c a2))
   ·simp [h5,eN]
   ·simp [h5]
  ·simp only [QM c a2 w4.1 w4.2,kX hl,ab]
   simp
  ·simp only [Pk,kX hl,ab,ki,As]
   simp [eN]
theorem QQ:mE c m f=some (iK c m f):=by
 have _h:=hm
 unfold mE iK
 try simp only [Prod.eta]
 rw [bM (by omega),ab,Kc,ab]
 cases h:pW c m f 1 7 with
 | false=>rfl
 | true=>
  obtain ⟨hmay,_,h6,h2,h2',h0,h1,h1'⟩:=EK h
  rw [Bool.not_true,cond_false,if_neg (by simp)]
  obtain ⟨a0,a1,a2,a3,a4,a5,a6⟩:=f
  simp only at h6 h2 h2' h0 h1 h1' ⊢
  obtain ⟨w3,w4,w5⟩:=hf
  simp only at w3 w4 w5
  rw [RU,ab,Pk,ab]
  have hw:∀ z:Int,0≤z→z≤100→IntKind.i64.wrap (z+1)=z+1:=fun z _ _=>dN (by omega)
  rcases (show a1=0∨a1=1∨a1=2∨a1=3∨a1=4∨a1=5∨a1=6 by omega) with rfl | rfl | rfl | rfl | rfl | rfl | rfl
  ·rw [hw 0 (by decide) (by decide)]
   simp [fk,ab,aeC]
  ·rw [hw 1 (by decide) (by decide)]
   simp [kX hl,ab]
  ·rw [hw 2 (by decide) (by decide)]
   simp only [fk,ab,OE]
   by_cases h5:uK a4 (ah m (Hn c a2))<0
   ·simp [h5]
   ·simp [h5]
  ·rw [hw 3 (by decide) (by decide)]
   simp only [QM c a2 w4.1 w4.2,fk,ab,ki,Hm]
   by_cases h5:a4=a5
   ·simp [h5]
   ·simp [h5,eN]
  ·rw [hw 4 (by decide) (by decide)]
   simp only [As,Jr hl,ab]
   cases hc:(pP m (Hn c a2) a5 (fh a5 1)).2 <;> simp [hc]
  ·simp only [As,kX hl,ab,ki]
   simp [eN]
  ·simp only [As,kX hl,ab,ki]
   simp [eN]
theorem I2 (k:Nat):iy k c m f=some (be c m f):=by
 have _h:=hm
 unfold iy be
 try simp only [Prod.eta]
 rw [bM (by omega),ab,Kc,ab]
 cases h:pW c m f 2 4 with
 | false=>rfl
 | true=>
  obtain ⟨hmay,_,h6,h2,h2',h0,h1,h1'⟩:=EK h
  rw [Bool.not_true,cond_false,if_neg (by simp)]
  obtain ⟨a0,a1,a2,a3,a4,a5,a6⟩:=f
  simp only at h6 h2 h2' h0 h1 h1' ⊢
  obtain ⟨w3,w4,w5⟩:=hf
  simp only at w3 w4 w5
  subst h6
  subst h0
  rw [RU,ab,Pk,ab]
  rcases (show a1=0∨a1=1∨a1=2∨a1=3 by omega) with rfl | rfl | rfl | rfl
  ·rw [if_pos rfl]
   exact afn k c m a2 a3 a4 a5 (k+22) _ _
  ·rw [if_neg (by decide),if_pos rfl]
   exact (aet k c m a2 a3 a4 a5 (k+22) _ _).trans (afu k c m a2 a3 a4 a5 (k+21) _ _)
  ·rw [if_neg (by decide),if_neg (by decide),if_pos rfl]
   exact (ac0 k c m a2 a3 a4 a5 (k+22) _ _).trans ((adb k c m a2 a3 a4 a5 (k+21) _ _).trans (ad4 k c m a2 a3 a4 a5 (k+20) _ _ w5.1 w5.2))
  ·rw [if_neg (by decide),if_neg (by decide),if_neg (by decide)]
   exact (ad3 k c m a2 a3 a4 a5 (k+22) _ _).trans ((aeo k c m a2 a3 a4 a5 (k+21) _ _).trans ((ac3 k c m a2 a3 a4 a5 (k+20) _ _).trans (adi k c m a2 a3 a4 a5 (k+19) _ _ hl)))
theorem LO (k:Nat):fc k c m f=some (BW c m f):=by
 unfold fc BW
 simp only [Prod.eta,My c hm hl hf,QQ c hm hl hf,I2 c hm hl hf,ab,nh]
 by_cases h0:f.1=0
 ·simp [h0]
 ·by_cases h1:f.1=1
  ·simp [h1]
  ·by_cases h2:f.1=2
   ·simp [h2]
   ·simp [h0,h1,h2,bM (b:=8) (l:=m) (by omega),ab]
end
end Go.Ab
set_option maxRecDepth 100000
set_option linter.unusedVariables false
namespace Go.Ab
structure FwT (t:Tyt):Prop where
 len:t.length≤40
 kids:∀ x ∈ t,x.2.length≤40
theorem aeG {t:Tyt} (h:aeu t=true):FwT t:=by
 simp only [aeu,Bool.and_eq_true,decide_eq_true_eq,List.all_eq_true] at h
 refine ⟨h.2,fun x hx=>h.1 x ?_⟩
 rwa [List.take_of_length_le (by omega)]
theorem FwT.wt {t:Tyt} (h:FwT t):Wt t:=⟨by have:=h.len;omega,fun x hx=>by have:=h.kids x hx;omega⟩
def mM (t:Tyt) (q:Int):Int×List Int:=(t[q.toNat]?).getD (0,[])
def GX (t:Tyt) (x:Int×Int×Int):Bool:=
 decide (0≤x.1)&&decide (x.1<t.length)&&(decide (0≤x.2.1)&&decide (x.2.1≤(mM t x.1).1))&&(decide (0≤x.2.2)&&decide (x.2.2≤((mM t x.1).2.length:Int))) &&
  !(decide (x.2.1<(mM t x.1).1)&&decide (0<x.2.2))
def cu (t:Tyt) (s:Tye):Bool:=oF t&&s.all (GX t)
theorem Ov {t:Tyt} {q:Int} (h0:0≤q) (h1:q<t.length):idx t q=some (mM t q):=by
 rw [idx,if_pos h0,mM,List.getElem?_eq_getElem (by omega)]
 rfl
theorem Er {t:Tyt} {q:Int} (h0:0≤q) (h1:q<t.length):mM t q ∈ t:=by
 rw [mM,List.getElem?_eq_getElem (show q.toNat<t.length by omega)]
 exact List.getElem_mem _
theorem Oy {α:Type} (b:Nat) (l:List α) (h:l.length*b≤70368744177664):aK b l=some l:=by
 unfold aK
 rw [anz,decide_eq_true h,cr]
theorem ac2 (a b:Int):gb a b=some (decide (0≤a)&&decide (a≤b)):=by
 rw [gb]
 cases decide ((0:Int)≤a) <;> rfl
section
variable (k:Nat) (hk:9223372036854775808≤k)
include hk
theorem Qd (t:Tyt) (ht:Wt t) (s:Tye) (hs:s.length≤9223372036854775807):fX k t s=some (cu t s):=by
 have hlen:=ht.len
 rw [fX,IP k hk t ht,ab,cu]
 cases hm:oF t with
 | false=>rfl
 | true=>
  have h30:=HN hm
  rw [cond_true,OV (F:=fun n i=>bP k n s (s.length:Int) t i) (l:=s) (fun x => !GX t x) ?_ ?_ _ (by omega),ab,Be]
  ·rw [List.all_eq_not_any_not,Bool.true_and]
  ·intro n
   simp only [bP,Co,cond_false]
  ·intro n i x hi hx
   simp only [bP,ltN hi,cond_true,fG hx,ab,ac2]
   rw [gH (by omega),dN (z:=(t.length:Int) - 1) (by omega)]
   have e0:decide (x.1≤(t.length:Int) - 1)=decide (x.1<(t.length:Int)):=by
    by_cases h:x.1<(t.length:Int)
    ·rw [decide_eq_true h,decide_eq_true (by omega)]
    ·rw [decide_eq_false h,decide_eq_false (by omega)]
   rw [e0]
   unfold GX
   by_cases h0:0≤x.1
   ·by_cases h1:x.1<(t.length:Int)
    ·rw [leT h0,ltT h1,Ov h0 h1,ab]
     simp only [Bool.and_self,Bool.not_true,cond_false,Bool.true_and]
     cases (decide (0≤x.2.1)&&decide (x.2.1≤(mM t x.1).1)) with
     | false=>rfl
     | true=>
      cases (decide (0≤x.2.2)&&decide (x.2.2≤((mM t x.1).2.length:Int))) with
      | false=>rfl
      | true=>
       cases decide (x.2.1<(mM t x.1).1) with
       | false=>rfl
       | true=>cases decide (0<x.2.2) <;> rfl
    ·rw [ltF (show (t.length:Int)≤x.1 by omega)]
     simp
   ·rw [leF (show x.1<0 by omega)]
    simp
end
def dM (t:Tyt) (s:Tye):Int×Int:=
 match s.getLast? with
 | none=>(0,0)
 | some x=>if cu t s=false then (0,0) else if x.2.1<(mM t x.1).1 then (1,x.1) else if x.2.2<((mM t x.1).2.length:Int) then (2,((mM t x.1).2[x.2.2.toNat]?).getD 0) else (3,x.1)
def doB (t:Tyt) (s:Tye):Tye:=
 match s.getLast? with
 | none=>s
 | some x=>if cu t s=false then s else if x.2.1<(mM t x.1).1 then s.dropLast++[(x.1,x.2.1+1,x.2.2)] else if x.2.2<((mM t x.1).2.length:Int) then s.dropLast++[(x.1,x.2.1,x.2.2+1)] else s.dropLast
def gN (t:Tyt) (s:Tye) (q:Int):Tye:=
 if cu t s=true∧0≤q∧q<t.length then s++[(q,0,0)] else s
def Oa (t:Tyt) (x:Int×Int×Int):Int:=(mM t x.1).1 - x.2.1+((mM t x.1).2.length:Int) - x.2.2+1
def MV (t:Tyt) (s:Tye):Int:=if cu t s=true then (s.map (Oa t)).sum else 0
theorem kE {α:Type} (s:List α):s=[]∨∃ r x,s=r++[x]:=by
 rcases List.eq_nil_or_concat s with h | ⟨r,x,h⟩
 ·exact .inl h
 ·exact .inr ⟨r,x,by rw [h,List.concat_eq_append]⟩
theorem JN {α:Type} (r:List α) (x:α):(((r++[x]).length:Nat):Int) - 1=(r.length:Int):=by simp
theorem JK {α:Type} (r:List α) (x:α):(r++[x])[r.length]? = some x:=by simp
theorem T8 {α:Type} (r:List α) (x y:α):(r++[x]).set r.length y=r++[y]:=by simp
theorem QZ {α:Type} (r:List α) (x:α):(r++[x]).take r.length=r:=by simp
theorem nZ (t:Tyt) (r:Tye) (x:Int×Int×Int):dM t (r++[x])=if cu t (r++[x])=false then (0,0) else if x.2.1<(mM t x.1).1 then (1,x.1) else if x.2.2<((mM t x.1).2.length:Int) then (2,((mM t x.1).2[x.2.2.toNat]?).getD 0) else (3,x.1):=by
 simp [dM]
theorem wV (t:Tyt) (r:Tye) (x:Int×Int×Int):doB t (r++[x])=if cu t (r++[x])=false then r++[x] else if x.2.1<(mM t x.1).1 then r++[(x.1,x.2.1+1,x.2.2)] else if x.2.2<((mM t x.1).2.length:Int) then r++[(x.1,x.2.1,x.2.2+1)] else r:=by
 simp [doB]
theorem aaC (t:Tyt) (s:Tye):(doB t s).length≤s.length:=by
 rcases kE s with rfl | ⟨r,x,rfl⟩
 ·simp [doB]
 ·rw [wV]
  split
  ·exact Nat.le_refl _
  ·split
   ·simp
   ·split <;> simp
theorem LY (t:Tyt) (s:Tye) (q:Int):(gN t s q).length≤s.length+1:=by
 unfold gN
 split <;> simp
structure It (t:Tyt) (x:Int×Int×Int):Prop where
 h0:0≤x.1
 h1:x.1<t.length
 d0:0≤x.2.1
 d1:x.2.1≤(mM t x.1).1
 c0:0≤x.2.2
 c1:x.2.2≤((mM t x.1).2.length:Int)
 z:x.2.1<(mM t x.1).1→x.2.2=0
theorem Lu {t:Tyt} {x:Int×Int×Int}:GX t x=true↔It t x:=by
 simp only [GX,Bool.and_eq_true,decide_eq_true_eq,Bool.not_eq_true',Bool.and_eq_false_iff,decide_eq_false_iff_not]
 constructor
 ·rintro ⟨⟨⟨⟨a,b⟩,c,d⟩,e,f⟩,g⟩
  exact ⟨a,b,c,d,e,f,fun h=>by rcases g with g | g <;> omega⟩
 ·rintro ⟨a,b,c,d,e,f,g⟩
  refine ⟨⟨⟨⟨a,b⟩,c,d⟩,e,f⟩,?_⟩
  by_cases h:x.2.1<(mM t x.1).1
  ·exact .inr (by have:=g h;omega)
  ·exact .inl h
theorem gS {t:Tyt} {r:Tye} {x:Int×Int×Int}:cu t (r++[x])=true↔oF t=true∧(∀ y ∈ r,It t y)∧It t x:=by
 simp only [cu,Bool.and_eq_true,List.all_eq_true,List.mem_append,List.mem_singleton,Lu]
 constructor
 ·rintro ⟨a,b⟩
  exact ⟨a,fun y hy=>b y (.inl hy),b x (.inr rfl)⟩
 ·rintro ⟨a,b,c⟩
  refine ⟨a,fun y hy => ?_⟩
  rcases hy with h | rfl
  ·exact b y h
  ·exact c
theorem mw {t:Tyt} {r:Tye}:cu t r=true↔oF t=true∧(∀ y ∈ r,It t y):=by
 simp only [cu,Bool.and_eq_true,List.all_eq_true,Lu]
section
variable (k:Nat) (hk:9223372036854775808≤k)
include hk
theorem Pf (t:Tyt) (ht:Wt t) (s:Tye) (hs:s.length≤1048576):ee k t s=some (dM t s):=by
 rw [ee]
 rcases kE s with rfl | ⟨r,x,rfl⟩
 ·rfl
 ·have hr:r.length+1≤1048576:=by simpa using hs
  have e1:((((r++[x]).length:Nat):Int)==0)=false:=by simp;omega
  rw [e1,cond_false,Qd k hk t ht _ (by omega),ab,nZ]
  cases h:cu t (r++[x]) with
  | false=>rfl
  | true=>
   obtain ⟨hm,hr',hx⟩:=gS.1 h
   have hl:=ht.kids _ (Er hx.h0 hx.h1)
   rw [Bool.not_true,cond_false,JN,dN (by omega),fG (JK r x),ab,Ov hx.h0 hx.h1,ab,if_neg (show ¬ (true=false) by simp)]
   by_cases h1:x.2.1<(mM t x.1).1
   ·rw [ltT h1,cond_true,if_pos h1]
   ·rw [ltF (by omega),cond_false,if_neg h1]
    by_cases h2:x.2.2<((mM t x.1).2.length:Int)
    ·have:=hx.c0
     rw [ltT h2,cond_true,if_pos h2,idx,if_pos hx.c0,List.getElem?_eq_getElem (by omega),ab]
     rfl
    ·rw [ltF (by omega),cond_false,if_neg h2]
theorem alj (t:Tyt) (ht:Wt t) (s:Tye) (hs:s.length≤1048576):gg k t s=some (doB t s):=by
 rw [gg,Oy _ _ (by omega),ab,Pf k hk t ht s hs,ab]
 rcases kE s with rfl | ⟨r,x,rfl⟩
 ·rfl
 ·have hr:r.length+1≤1048576:=by simpa using hs
  rw [JN,dN (by omega),nZ,wV,Int.toNat_natCast,JK,QZ]
  simp only [T8,ab]
  have e1:decide ((0:Int)≤(r.length:Int)∧r.length<(r++[x]).length)=true:=by simp
  have e2:decide ((0:Int)≤(r.length:Int)∧r.length≤(r++[x]).length)=true:=by simp
  have e3:decide (r.length≤(r++[x]).length)=true:=by simp
  rw [e1,e2,e3]
  cases h:cu t (r++[x]) with
  | false=>rfl
  | true=>
   obtain ⟨hm,hr',hx⟩:=gS.1 h
   have hw:=(Ba hm).work _ (Er hx.h0 hx.h1)
   have hl:=ht.kids _ (Er hx.h0 hx.h1)
   have:=hx.d0
   have:=hx.c0
   rw [if_neg (show ¬ (true=false) by simp),if_neg (show ¬ (true=false) by simp)]
   by_cases h1:x.2.1<(mM t x.1).1
   ·rw [if_pos h1,if_pos h1]
    simp only [beq_self_eq_true,cond_true]
    rw [dN (by omega)]
   ·rw [if_neg h1,if_neg h1]
    by_cases h2:x.2.2<((mM t x.1).2.length:Int)
    ·rw [if_pos h2,if_pos h2]
     simp only [Int.reduceBEq,cond_true,cond_false]
     rw [dN (by omega)]
    ·rw [if_neg h2,if_neg h2]
     rfl
theorem Ru (t:Tyt) (ht:Wt t) (s:Tye) (hs:s.length≤1048576) (q:Int):dF k t s q=some (gN t s q):=by
 have hlen:=ht.len
 rw [dF,Oy _ _ (by omega),ab,Qd k hk t ht s (by omega),ab,gN]
 cases h:cu t s with
 | false=>simp
 | true=>
  have h30:=HN (mw.1 h).1
  rw [Bool.not_true,cond_false,ac2,ab,dN (by omega)]
  by_cases h0:0≤q
  ·by_cases h1:q<t.length
   ·have e2:room (s++[(q,(0:Int),(0:Int))]).length 24=true:=Gl (by simp;omega)
    rw [leT h0,leT (show q≤(t.length:Int) - 1 by omega),Bool.and_self,Bool.not_true,cond_false,e2,cond_true,if_pos ⟨rfl,h0,h1⟩]
   ·rw [leF (show (t.length:Int) - 1<q by omega),if_neg (by omega)]
    simp
  ·rw [leF (show q<0 by omega),if_neg (by omega)]
   simp
end
theorem adf {t:Tyt} {q:Int} (hm:oF t=true) (h0:0≤q) (h1:q<t.length):It t (q,0,0):=
 ⟨h0,h1,by simp,((Ba hm).work _ (Er h0 h1)).1,by simp,by simp,fun _=>rfl⟩
theorem AM {t:Tyt} {r:Tye} {x:Int×Int×Int} (h:cu t (r++[x])=true):MV t (r++[x])=MV t r+Oa t x:=by
 obtain ⟨a,b,c⟩:=gS.1 h
 rw [MV,if_pos h,MV,if_pos (mw.2 ⟨a,b⟩),List.map_append,List.sum_append]
 simp
theorem Sx {t:Tyt} {r:Tye} {x:Int×Int×Int} (h:cu t (r++[x])=true):cu t (doB t (r++[x]))=true∧MV t (doB t (r++[x]))=MV t (r++[x]) - 1:=by
 obtain ⟨a,b,c⟩:=gS.1 h
 obtain ⟨q0,q1,q2,q3,q4,q5,q6⟩:=c
 rw [AM h,wV,if_neg (by simp [h])]
 split
 ·rename_i h1
  have h2:cu t (r++[(x.1,x.2.1+1,x.2.2)])=true:=gS.2 ⟨a,b,⟨q0,q1,by simp only;omega,by simp only;omega,q4,q5,fun _=>q6 h1⟩⟩
  refine ⟨h2,?_⟩
  rw [AM h2]
  unfold Oa
  simp only
  omega
 ·rename_i h1
  split
  ·rename_i h3
   have h2:cu t (r++[(x.1,x.2.1,x.2.2+1)])=true:=gS.2 ⟨a,b,⟨q0,q1,q2,q3,by simp only;omega,by simp only;omega,fun h=>absurd h h1⟩⟩
   refine ⟨h2,?_⟩
   rw [AM h2]
   unfold Oa
   simp only
   omega
  ·rename_i h3
   refine ⟨mw.2 ⟨a,b⟩,?_⟩
   unfold Oa
   omega
end Go.Ab
set_option linter.unusedVariables false
namespace Go.Ab
abbrev WB:=Int×Tye×FR×Int×Int
def wA (op w v:Int):FR:=(op,0,w,v,0,0,0)
def d8 (c:CF) (t:Tyt) (m:List Int) (w:Int) (x:WB):Bool:=da c&&decide ((m.length:Int)=bG c)&&oF t&&decide (0≤w∧w<c.1∧0≤x.1∧x.1<16)&&cu t x.2.1
def BN (d w W:Int):Int:=if W<2∨w<0∨W≤w then -1 else (w+1+d%(W - 1))%W
def toW (pc:Int) (x:WB):WB:=(pc,x.2.1,dd,x.2.2.2)
def iV (pc op w v:Int) (x:WB):WB:=(pc,x.2.1,wA op w v,x.2.2.2)
def Al:Int:=18446744073709551615
def NH (v:Int):Int:=IntKind.i64.wrap v
abbrev WR:=List Int×WB×List EV
def I3 (c:CF) (t:Tyt) (m:List Int) (w:Int) (x:WB):WR:=
 let r:=dr c m x.2.2.1
 if ea r.2=false then (r.1,(x.1,x.2.1,r.2,x.2.2.2),[])
 else if r.2.2.2.2.2.2.2≠1 then (r.1,toW 1 x,[])
 else (r.1,(9,gN t x.2.1 (NH r.2.2.2.2.1),dd,x.2.2.2),[(2,NH r.2.2.2.2.1,w)])
def wz (c:CF) (m:List Int) (w:Int) (x:WB):WR:=(ao m 1 (fh (ah m 1) 1),(2,x.2.1,wA 4 w 0,c.2.2.2,x.2.2.2.2),[])
def mQ (c:CF) (m:List Int) (w:Int) (x:WB) (d:Int):WR:=
 let r:=dr c m x.2.2.1
 if ea r.2=false then (r.1,(x.1,x.2.1,r.2,x.2.2.2),[])
 else if r.2.2.2.2.2.2.2=1 then (r.1,(4,x.2.1,r.2,x.2.2.2),[])
 else if x.1=2∧0≤BN d w c.1 then (r.1,iV 3 2 (BN d w c.1) 0 x,[])
 else if x.2.2.2.1≤0 then (r.1,iV 5 5 w 0 x,[])
 else (r.1,(2,x.2.1,wA 4 w 0,x.2.2.2.1 - 1,x.2.2.2.2),[])
def lg (t:Tyt) (m:List Int) (w:Int) (x:WB):WR:=
 (ao m 1 (fh (ah m 1) Al),(if ah m 1=1 then 14 else 9,gN t x.2.1 (NH x.2.2.1.2.2.2.1),if ah m 1=1 then wA 6 w 0 else dd,x.2.2.2),[(2,NH x.2.2.1.2.2.2.1,w)])
def uI (c:CF) (m:List Int) (x:WB):WR:=let r:=dr c m x.2.2.1;(r.1,(6,x.2.1,r.2,x.2.2.2),[])
def ng (m:List Int) (x:WB):WR:=(ao m 1 (fh (ah m 1) Al),(7,x.2.1,x.2.2.1,x.2.2.2.1,0),[])
def D9 (f:FR) (v:Int):FR:=(f.1,f.2.1,f.2.2.1,v,f.2.2.2.2)
def ez (c:CF) (m:List Int) (x:WB):WR:=
 let k:=x.2.2.2.2
 let most:=2+2*c.1
 let v:=(k - 2)/2
 if k<0∨most≤k then (m,(8,x.2.1,D9 x.2.2.1 0,x.2.2.2.1,0),[])
 else
  let f:=if k=0 then D9 x.2.2.1 (ah m 4) else if k=1 then x.2.2.1 else if k%2=0 then D9 x.2.2.1 (ah m (Hn c v)) else x.2.2.1
  let some:=if k=0 then false else if k=1 then decide (ah m 5≠f.2.2.2.1) else if k%2=0 then false else decide (0<uK (ah m (Ix c v)) f.2.2.2.1)
  if some=true then (m,toW 1 x,[])
  else if k+1=most then (m,(8,x.2.1,D9 f 0,x.2.2.2.1,0),[])
  else (m,(7,x.2.1,f,x.2.2.2.1,k+1),[])
def gJ (c:CF) (m:List Int) (x:WB):WR:=let r:=dr c m x.2.2.1;if ea r.2=true then (r.1,toW 1 x,[]) else (r.1,(x.1,x.2.1,r.2,x.2.2.2),[])
def K1 (t:Tyt) (m:List Int) (w:Int) (x:WB):WR:=
 let a:=dM t x.2.1
 if a.1=1 then (m,(x.1,doB t x.2.1,x.2.2),[]) else if a.1=2 then (m,(10,x.2),[]) else if a.1=3 then (m,(15,x.2),[]) else (m,iV 0 1 w 0 x,[])
def rz (t:Tyt) (m:List Int) (w:Int) (x:WB):WR:=
 let a:=dM t x.2.1
 if a.1≠2 then (m,toW 9 x,[]) else (ao m 0 (fh (ah m 0) 1),(11,doB t x.2.1,wA 0 w (IntKind.u64.wrap a.2),x.2.2.2),[(3,a.2,w)])
def pB (c:CF) (m:List Int) (w:Int) (x:WB):WR:=
 let r:=dr c m x.2.2.1
 if ea r.2=false then (r.1,(x.1,x.2.1,r.2,x.2.2.2),[]) else if r.2.2.2.2.2.2.2=2 then (r.1,iV 12 3 w r.2.2.2.2.1 x,[]) else (r.1,toW 13 x,[])
def pD (c:CF) (t:Tyt) (m:List Int) (w:Int) (x:WB):WR:=
 let r:=dr c m x.2.2.1
 if ea r.2=false then (r.1,(x.1,x.2.1,r.2,x.2.2.2),[])
 else if r.2.2.2.2.2.2.2=2 then (r.1,(9,gN t x.2.1 (NH r.2.2.2.2.1),dd,x.2.2.2),[(2,NH r.2.2.2.2.1,w)]) else (r.1,toW 13 x,[])
def Jm (m:List Int) (w:Int) (x:WB):WR:=if ah m 1=0 then (m,iV 14 6 w 0 x,[]) else (m,toW 9 x,[])
def rO (c:CF) (m:List Int) (x:WB):WR:=let r:=dr c m x.2.2.1;if ea r.2=true then (r.1,toW 9 x,[]) else (r.1,(x.1,x.2.1,r.2,x.2.2.2),[])
def rV (t:Tyt) (m:List Int) (w:Int) (x:WB):WR:=
 let a:=dM t x.2.1
 if a.1≠3 then (m,toW 9 x,[])
 else (ao m 0 (fh (ah m 0) Al),(if doB t x.2.1=[] then (0,[],wA 1 w 0,x.2.2.2) else (9,doB t x.2.1,dd,x.2.2.2)),if ah m 0=1 then [(4,a.2,w),(5,0,w)] else [(4,a.2,w)])
def a9 (c:CF) (t:Tyt) (m:List Int) (w:Int) (x:WB) (d:Int):WR:=
 if d8 c t m w x=false then (m,x,[])
 else if x.1=0 then I3 c t m w x else if x.1=1 then wz c m w x else if x.1=2∨x.1=3 then mQ c m w x d else if x.1=4 then lg t m w x
 else if x.1=5 then uI c m x else if x.1=6 then ng m x else if x.1=7 then ez c m x else if x.1=8 then gJ c m x
 else if x.1=9 then K1 t m w x else if x.1=10 then rz t m w x else if x.1=11 then pB c m w x else if x.1=12 then pD c t m w x
 else if x.1=13 then Jm m w x else if x.1=14 then rO c m x else rV t m w x
theorem ab9 {d w W:Int} (hd:0≤d∧d≤18446744073709551615) (hW:W≤8):fm d w W=some (BN d w W):=by
 unfold fm BN
 by_cases h2:W<2
 ·rw [ltT h2,cond_true,if_pos (.inl h2)]
 ·rw [ltF (by omega),cond_false]
  unfold cG
  by_cases h0:0≤w
  ·rw [leT h0,cond_true]
   by_cases h1:w<W
   ·rw [ltT h1,ab,Bool.not_true,cond_false,if_neg (by omega),lN (z:=W) (by omega) (by omega),lN (z:=W - 1) (by omega) (by omega),lN (z:=w) (by omega) (by omega),lN (z:=w+1) (by omega) (by omega),Hm,decide_eq_false (by omega),Bool.not_false,cond_true,Hm,decide_eq_false (by omega),Bool.not_false,cond_true,Int.tmod_eq_emod_of_nonneg hd.1]
    have e1:=Int.emod_nonneg d (show W - 1≠0 by omega)
    have e2:=Int.emod_lt_of_pos d (show 0<W - 1 by omega)
    have e3:=Int.emod_nonneg (w+1+d%(W - 1)) (show W≠0 by omega)
    have e4:=Int.emod_lt_of_pos (w+1+d%(W - 1)) (show 0<W by omega)
    rw [lN (by omega) (by omega),Int.tmod_eq_emod_of_nonneg (by omega),dN (by omega)]
   ·rw [ltF (by omega),ab,Bool.not_false,cond_true,if_pos (by omega)]
  ·rw [leF (by omega),cond_false,ab,Bool.not_false,cond_true,if_pos (by omega)]
theorem Q0 {k:Nat} (hk:9223372036854775808≤k) (c:CF) {t:Tyt} (ht:Wt t) (m:List Int) (w:Int) (x:WB) (hs:x.2.1.length≤9000):kD k c t m w x=some (d8 c t m w x):=by
 unfold kD d8
 simp only [Prod.eta,gL,Cp,ab]
 rw [IP (k+4) (by omega) t ht,Qd (k+3) (by omega) t ht x.2.1 (by omega)]
 cases hm:da c with
 | false=>rfl
 | true=>
  rw [cond_true,nh,Bool.true_and]
  by_cases h1:(m.length:Int)=bG c
  ·rw [decide_eq_true h1,cond_true,Bool.true_and,ab]
   cases ht2:oF t with
   | false=>rfl
   | true=>
    rw [cond_true,Bool.true_and]
    by_cases h2:0≤w
    ·rw [leT h2,cond_true]
     by_cases h3:w<c.1
     ·rw [ltT h3,cond_true]
      by_cases h4:0≤x.1
      ·rw [leT h4,cond_true]
       by_cases h5:x.1<16
       ·rw [ltT h5,cond_true,ab,decide_eq_true ⟨h2,h3,h4,h5⟩,Bool.true_and]
       ·rw [ltF (by omega),cond_false,decide_eq_false (by omega)];rfl
      ·rw [leF (by omega),cond_false,decide_eq_false (by omega)];rfl
     ·rw [ltF (by omega),cond_false,decide_eq_false (by omega)];rfl
    ·rw [leF (by omega),cond_false,decide_eq_false (by omega)];rfl
  ·rw [decide_eq_false h1,cond_false]
   rfl
theorem XK (w:Int):og w=some (0,[],wA 1 w 0,0,0):=rfl
end Go.Ab
set_option linter.unusedVariables false
set_option linter.unusedSimpArgs false
set_option maxRecDepth 100000
set_option maxHeartbeats 4000000
namespace Go.Ab
theorem b6 (op w v:Int):aF op w v=some (wA op w v):=rfl
theorem FN:room 1 24=true:=rfl
theorem ae7:room 2 24=true:=rfl
theorem wQ {a b:Int} (h:a=b):(a==b)=true:=by simp [h]
theorem bK {a b:Int} (h:a≠b):(a==b)=false:=by simp [h]
theorem Mw (c:CF) (m:List Int) (f:FR):(BW c m f=dr c m f∧((f.1==0)=true∨(f.1==0)=false∧((f.1==1)=true∨(f.1==1)=false∧(f.1==2)=true)))∨(BK c m f=dr c m f∧(f.1==0)=false∧(f.1==1)=false∧(f.1==2)=false∧((f.1==3)=true∨(f.1==3)=false∧(f.1==4)=true))∨(H6 c m f=dr c m f∧(f.1==0)=false∧(f.1==1)=false∧(f.1==2)=false∧(f.1==3)=false∧(f.1==4)=false):=by
 unfold dr iU
 simp only [nh,decide_eq_true_eq,decide_eq_false_iff_not]
 by_cases h:f.1=0∨f.1=1∨f.1=2
 ·rw [if_pos h];exact .inl ⟨rfl,by omega⟩
 ·rw [if_neg h]
  by_cases g:f.1=3∨f.1=4
  ·rw [if_pos g];exact .inr (.inl ⟨rfl,by omega⟩)
  ·rw [if_neg g];exact .inr (.inr ⟨rfl,by omega⟩)
section
variable {k:Nat} (hk:9223372036854779000≤k) (c:CF) {t:Tyt} (ht:Wt t) {m:List Int} (hm:Wm m) (hl:m.length≤1000) (w:Int) {x:WB} (hf:Wf x.2.2.1) (hs:x.2.1.length≤9000) (hsp:x.2.2.2.1≤9223372036854775807) {d:Int} (hd:0≤d∧d≤18446744073709551615)
include hk ht hm hl hf hs hsp hd
theorem Zv {β:Type} (K:List Int×FR→Option β):Bg k c m x.2.2.1 K=K (dr c m x.2.2.1):=by
 have _h:=And.intro hsp hd
 have _h2:=And.intro ht hs
 have hdk:=LO c hm hl hf (k+31)
 have hij:=Gy c hm hl hf
 have hev:=Hc (k:=k+40) (by omega) c hm hl hf
 unfold Bg
 rcases Mw c m x.2.2.1 with ⟨h,e | ⟨e,e1 | e1⟩⟩ | ⟨h,e,e1,e2,e3 | e3⟩ | ⟨h,e⟩
 all_goals simp only [*,cond_true,cond_false,ab]
theorem Tp:gV k c t m w x d=some (a9 c t m w x d):=by
 have _h1:=hsp
 have _h2:=hd
 unfold gV
 try simp only [Prod.eta]
 rw [bM (by omega),ab,bM (by omega),ab,Q0 (by omega) c ht m w x hs,ab]
 cases hmay:d8 c t m w x with
 | false=>
  unfold a9
  rw [hmay]
  rfl
 | true=>
  rw [Bool.not_true,cond_false]
  have hb:da c=true∧(m.length:Int)=bG c∧0≤w∧w<c.1∧0≤x.1∧x.1<16:=by
   unfold d8 at hmay
   simp only [Bool.and_eq_true,decide_eq_true_eq] at hmay
   exact ⟨hmay.1.1.1.1,hmay.1.1.1.2,hmay.1.2⟩
  obtain ⟨hmc,hlen,hw0,hw1,hp0,hp1⟩:=hb
  have hc:=aA hmc
  have hsz:=rj hmc
  have hadd:∀ i v:Int,0≤i→i<2→dx m i v=some (ao m i (fh (ah m i) v),ah m i):=fun i v h0 h1=>by rw [aeD hl,if_pos (by omega)]
  have hcg:=fun K=>Zv (k:=k) (β:=List Int×WB×List EV) hk c ht hm hl hf hs hsp hd K
  have hst:=fun q=>Ru (k+36) (by omega) t ht x.2.1 (by omega) q
  have hdo:=alj (k+36) (by omega) t ht x.2.1 (by omega)
  have hnx:=Pf (k+37) (by omega) t ht x.2.1 (by omega)
  have hvi:=ab9 (w:=w) (W:=c.1) hd (by omega)
  rcases (show x.1=0∨x.1=1∨x.1=2∨x.1=3∨x.1=4∨x.1=5∨x.1=6∨x.1=7∨x.1=8∨x.1=9∨x.1=10∨x.1=11∨x.1=12∨x.1=13∨x.1=14∨x.1=15 by omega) with hp | hp | hp | hp | hp | hp | hp | hp | hp | hp | hp | hp | hp | hp | hp | hp
  ·have hW:a9 c t m w x d=I3 c t m w x:=by unfold a9;rw [hmay];simp [hp]
   rw [hW]
   rw [wQ hp,cond_true]
   unfold I3
   rw [hcg]
   simp only [cond_true,cond_false,ab,ni,Prod.eta,b6]
   generalize dr c m x.2.2.1=r
   cases ho:ea r.2 with
   | false=>simp [ho,hp]
   | true=>
    by_cases h9:r.2.2.2.2.2.2.2=1
    ·simp [ho,h9,hst,ab,FN,dd,NH]
    ·have q9:(r.2.2.2.2.2.2.2 !=1)=true:=by simp [h9]
     simp [ho,h9,q9,toW,dd]
  ·have hW:a9 c t m w x d=wz c m w x:=by unfold a9;rw [hmay];simp [hp]
   rw [hW]
   rw [bK (show x.1≠0 by omega),cond_false,wQ hp,cond_true]
   rw [hadd 1 1 (by decide) (by decide),ab,b6,ab]
   rfl
  ·have hW:a9 c t m w x d=mQ c m w x d:=by unfold a9;rw [hmay];simp [hp]
   rw [hW]
   rw [bK (show x.1≠0 by omega),cond_false,bK (show x.1≠1 by omega),cond_false,wQ hp,cond_true]
   rw [hvi,ab]
   unfold mQ
   rw [hcg]
   simp only [cond_true,cond_false,ab,ni,Prod.eta,b6,wQ hp]
   generalize dr c m x.2.2.1=r
   cases ho:ea r.2 with
   | false=>simp [ho,hp]
   | true=>
    by_cases h9:r.2.2.2.2.2.2.2=1
    ·simp [ho,h9]
    ·have q9:=bK h9
     by_cases h8:0≤BN d w c.1
     ·simp [ho,h9,q9,hp,h8,iV]
     ·by_cases h7:x.2.2.2.1≤0
      ·simp [ho,h9,q9,hp,h8,h7,iV]
      ·rw [dN (z:=x.2.2.2.1 - 1) (by omega)]
       simp [ho,h9,q9,hp,h8,h7,iV]
  ·have hW:a9 c t m w x d=mQ c m w x d:=by unfold a9;rw [hmay];simp [hp]
   rw [hW]
   rw [bK (show x.1≠0 by omega),cond_false,bK (show x.1≠1 by omega),cond_false,bK (show x.1≠2 by omega),cond_false,wQ hp,cond_true]
   rw [hvi,ab]
   unfold mQ
   rw [hcg]
   simp only [cond_true,cond_false,ab,ni,Prod.eta,b6,bK (show x.1≠2 by omega)]
   generalize dr c m x.2.2.1=r
   cases ho:ea r.2 with
   | false=>simp [ho,hp]
   | true=>
    by_cases h9:r.2.2.2.2.2.2.2=1
    ·simp [ho,h9]
    ·have q9:=bK h9
     by_cases h7:x.2.2.2.1≤0
     ·simp [ho,h9,q9,hp,h7,iV]
     ·rw [dN (z:=x.2.2.2.1 - 1) (by omega)]
      simp [ho,h9,q9,hp,h7,iV]
  ·have hW:a9 c t m w x d=lg t m w x:=by unfold a9;rw [hmay];simp [hp]
   rw [hW]
   rw [bK (show x.1≠0 by omega),cond_false,bK (show x.1≠1 by omega),cond_false,bK (show x.1≠2 by omega),cond_false,bK (show x.1≠3 by omega),cond_false,wQ hp,cond_true]
   rw [hadd 1 _ (by decide) (by decide),ab,b6,ab,hst,ab,ab,FN,cond_true,cond_true,nh]
   by_cases h9:ah m 1=1
   ·simp [lg,h9,Al,NH]
   ·simp [lg,h9,Al,NH,dd]
  ·have hW:a9 c t m w x d=uI c m x:=by unfold a9;rw [hmay];simp [hp]
   rw [hW]
   rw [bK (show x.1≠0 by omega),cond_false,bK (show x.1≠1 by omega),cond_false,bK (show x.1≠2 by omega),cond_false,bK (show x.1≠3 by omega),cond_false,bK (show x.1≠4 by omega),cond_false,wQ hp,cond_true]
   unfold uI
   rw [hcg]
   simp only [cond_true,cond_false,ab,ni,Prod.eta,b6]
  ·have hW:a9 c t m w x d=ng m x:=by unfold a9;rw [hmay];simp [hp]
   rw [hW]
   rw [bK (show x.1≠0 by omega),cond_false,bK (show x.1≠1 by omega),cond_false,bK (show x.1≠2 by omega),cond_false,bK (show x.1≠3 by omega),cond_false,bK (show x.1≠4 by omega),cond_false,bK (show x.1≠5 by omega),cond_false,wQ hp,cond_true]
   rw [hadd 1 _ (by decide) (by decide),ab]
   rfl
  ·have hW:a9 c t m w x d=ez c m x:=by unfold a9;rw [hmay];simp [hp]
   rw [hW]
   rw [bK (show x.1≠0 by omega),cond_false,bK (show x.1≠1 by omega),cond_false,bK (show x.1≠2 by omega),cond_false,bK (show x.1≠3 by omega),cond_false,bK (show x.1≠4 by omega),cond_false,bK (show x.1≠5 by omega),cond_false,bK (show x.1≠6 by omega),cond_false,wQ hp,cond_true]
   have hM:IntKind.i64.wrap (2+IntKind.i64.wrap (2*c.1))=2+2*c.1:=by rw [dN (z:=2*c.1) (by omega),dN (by omega)]
   rw [hM]
   by_cases h1:x.2.2.2.2<0
   ·rw [ltT h1,cond_true]
    simp only [ez,if_pos (show x.2.2.2.2<0∨2+2*c.1≤x.2.2.2.2 from .inl h1),D9]
   ·rw [ltF (by omega),cond_false]
    by_cases h2:2+2*c.1≤x.2.2.2.2
    ·rw [leT h2,cond_true]
     simp only [ez,if_pos (show x.2.2.2.2<0∨2+2*c.1≤x.2.2.2.2 from .inr h2),D9]
    ·rw [leF (by omega),cond_false,dN (z:=x.2.2.2.2+1) (by omega)]
     have hn:¬ (x.2.2.2.2<0∨2+2*c.1≤x.2.2.2.2):=by omega
     by_cases e0:x.2.2.2.2=0
     ·rw [wQ e0,cond_true,fk,ab]
      by_cases h5:x.2.2.2.2+1=2+2*c.1
      ·rw [wQ h5,cond_true]
       simp only [ez,if_neg hn,if_pos e0,Bool.false_eq_true,if_false,if_pos h5,D9]
      ·rw [bK h5,cond_false]
       simp only [ez,if_neg hn,if_pos e0,Bool.false_eq_true,if_false,if_neg h5,D9,hp]
     ·rw [bK e0,cond_false]
      by_cases e1:x.2.2.2.2=1
      ·rw [wQ e1,cond_true,fk,ab,Hm]
       by_cases h9:ah m 5=x.2.2.1.2.2.2.1
       ·rw [decide_eq_true h9,Bool.not_true,cond_false]
        skip
        by_cases h5:x.2.2.2.2+1=2+2*c.1
        ·rw [wQ h5,cond_true]
         simp only [ez,if_neg hn,if_neg e0,if_pos e1,h9,ne_eq,not_true_eq_false,decide_false,Bool.false_eq_true,if_false,if_pos h5,D9]
        ·rw [bK h5,cond_false]
         simp only [ez,if_neg hn,if_neg e0,if_pos e1,h9,ne_eq,not_true_eq_false,decide_false,Bool.false_eq_true,if_false,if_neg h5,D9,hp]
       ·rw [decide_eq_false h9,Bool.not_false,cond_true]
        simp only [ez,if_neg hn,if_neg e0,if_pos e1,h9,ne_eq,not_false_eq_true,decide_true,if_true,toW,dd]
      ·rw [bK e1,cond_false,Int.tmod_eq_emod_of_nonneg (by omega),dN (z:=x.2.2.2.2 - 2) (by omega),Int.tdiv_eq_ediv_of_nonneg (by omega),dN (z:=(x.2.2.2.2 - 2)/2) (by omega)]
       by_cases e2:x.2.2.2.2%2=0
       ·rw [wQ e2,cond_true,RU,ab,fk,ab]
        skip
        by_cases h5:x.2.2.2.2+1=2+2*c.1
        ·rw [wQ h5,cond_true]
         simp only [ez,if_neg hn,if_neg e0,if_neg e1,if_pos e2,Bool.false_eq_true,if_false,if_pos h5,D9]
        ·rw [bK h5,cond_false]
         simp only [ez,if_neg hn,if_neg e0,if_neg e1,if_pos e2,Bool.false_eq_true,if_false,if_neg h5,D9,hp]
       ·rw [bK e2,cond_false,Pk,ab,fk,ab,OE,ab]
        by_cases h9:0<uK (ah m (Ix c ((x.2.2.2.2 - 2)/2))) x.2.2.1.2.2.2.1
        ·rw [ltT h9,cond_true]
         simp only [ez,if_neg hn,if_neg e0,if_neg e1,if_neg e2,h9,decide_true,if_true,toW,dd]
        ·rw [ltF (by omega),cond_false]
         skip
         by_cases h5:x.2.2.2.2+1=2+2*c.1
         ·rw [wQ h5,cond_true]
          simp only [ez,if_neg hn,if_neg e0,if_neg e1,if_neg e2,h9,decide_false,Bool.false_eq_true,if_false,if_pos h5,D9]
         ·rw [bK h5,cond_false]
          simp only [ez,if_neg hn,if_neg e0,if_neg e1,if_neg e2,h9,decide_false,Bool.false_eq_true,if_false,if_neg h5,D9,hp]
  ·have hW:a9 c t m w x d=gJ c m x:=by unfold a9;rw [hmay];simp [hp]
   rw [hW]
   rw [bK (show x.1≠0 by omega),cond_false,bK (show x.1≠1 by omega),cond_false,bK (show x.1≠2 by omega),cond_false,bK (show x.1≠3 by omega),cond_false,bK (show x.1≠4 by omega),cond_false,bK (show x.1≠5 by omega),cond_false,bK (show x.1≠6 by omega),cond_false,bK (show x.1≠7 by omega),cond_false,wQ hp,cond_true]
   unfold gJ
   rw [hcg]
   simp only [cond_true,cond_false,ab,ni,Prod.eta,b6]
   generalize dr c m x.2.2.1=r
   cases ho:ea r.2 <;> simp [ho,hp,toW,dd]
  ·have hW:a9 c t m w x d=K1 t m w x:=by unfold a9;rw [hmay];simp [hp]
   rw [hW]
   rw [bK (show x.1≠0 by omega),cond_false,bK (show x.1≠1 by omega),cond_false,bK (show x.1≠2 by omega),cond_false,bK (show x.1≠3 by omega),cond_false,bK (show x.1≠4 by omega),cond_false,bK (show x.1≠5 by omega),cond_false,bK (show x.1≠6 by omega),cond_false,bK (show x.1≠7 by omega),cond_false,bK (show x.1≠8 by omega),cond_false,wQ hp,cond_true]
   rw [hnx,ab,nh,nh,nh,hdo,ab,b6,ab]
   unfold K1
   by_cases h1:(dM t x.2.1).1=1
   ·simp [h1,hp]
   ·by_cases h2:(dM t x.2.1).1=2
    ·simp [h2]
    ·by_cases h3:(dM t x.2.1).1=3
     ·simp [h3]
     ·simp [h1,h2,h3,iV]
  ·have hW:a9 c t m w x d=rz t m w x:=by unfold a9;rw [hmay];simp [hp]
   rw [hW]
   rw [bK (show x.1≠0 by omega),cond_false,bK (show x.1≠1 by omega),cond_false,bK (show x.1≠2 by omega),cond_false,bK (show x.1≠3 by omega),cond_false,bK (show x.1≠4 by omega),cond_false,bK (show x.1≠5 by omega),cond_false,bK (show x.1≠6 by omega),cond_false,bK (show x.1≠7 by omega),cond_false,bK (show x.1≠8 by omega),cond_false,bK (show x.1≠9 by omega),cond_false,wQ hp,cond_true]
   rw [hnx,ab,Hm,hadd 0 _ (by decide) (by decide),ab,FN,cond_true,hdo,ab,b6,ab]
   unfold rz
   by_cases h2:(dM t x.2.1).1=2
   ·simp [h2]
   ·simp [h2,toW,dd]
  ·have hW:a9 c t m w x d=pB c m w x:=by unfold a9;rw [hmay];simp [hp]
   rw [hW]
   rw [bK (show x.1≠0 by omega),cond_false,bK (show x.1≠1 by omega),cond_false,bK (show x.1≠2 by omega),cond_false,bK (show x.1≠3 by omega),cond_false,bK (show x.1≠4 by omega),cond_false,bK (show x.1≠5 by omega),cond_false,bK (show x.1≠6 by omega),cond_false,bK (show x.1≠7 by omega),cond_false,bK (show x.1≠8 by omega),cond_false,bK (show x.1≠9 by omega),cond_false,bK (show x.1≠10 by omega),cond_false,wQ hp,cond_true]
   unfold pB
   rw [hcg]
   simp only [cond_true,cond_false,ab,ni,Prod.eta,b6]
   generalize dr c m x.2.2.1=r
   cases ho:ea r.2 with
   | false=>simp [ho,hp]
   | true=>
    by_cases h9:r.2.2.2.2.2.2.2=2
    ·simp [ho,h9,iV]
    ·have q9:=bK h9
     simp [ho,h9,q9,toW,dd]
  ·have hW:a9 c t m w x d=pD c t m w x:=by unfold a9;rw [hmay];simp [hp]
   rw [hW]
   rw [bK (show x.1≠0 by omega),cond_false,bK (show x.1≠1 by omega),cond_false,bK (show x.1≠2 by omega),cond_false,bK (show x.1≠3 by omega),cond_false,bK (show x.1≠4 by omega),cond_false,bK (show x.1≠5 by omega),cond_false,bK (show x.1≠6 by omega),cond_false,bK (show x.1≠7 by omega),cond_false,bK (show x.1≠8 by omega),cond_false,bK (show x.1≠9 by omega),cond_false,bK (show x.1≠10 by omega),cond_false,bK (show x.1≠11 by omega),cond_false,wQ hp,cond_true]
   unfold pD
   rw [hcg]
   simp only [cond_true,cond_false,ab,ni,Prod.eta,b6]
   generalize dr c m x.2.2.1=r
   cases ho:ea r.2 with
   | false=>simp [ho,hp]
   | true=>
    by_cases h9:r.2.2.2.2.2.2.2=2
    ·simp [ho,h9,hst,ab,FN,dd,NH]
    ·have q9:=bK h9
     simp [ho,h9,q9,toW,dd]
  ·have hW:a9 c t m w x d=Jm m w x:=by unfold a9;rw [hmay];simp [hp]
   rw [hW]
   rw [bK (show x.1≠0 by omega),cond_false,bK (show x.1≠1 by omega),cond_false,bK (show x.1≠2 by omega),cond_false,bK (show x.1≠3 by omega),cond_false,bK (show x.1≠4 by omega),cond_false,bK (show x.1≠5 by omega),cond_false,bK (show x.1≠6 by omega),cond_false,bK (show x.1≠7 by omega),cond_false,bK (show x.1≠8 by omega),cond_false,bK (show x.1≠9 by omega),cond_false,bK (show x.1≠10 by omega),cond_false,bK (show x.1≠11 by omega),cond_false,bK (show x.1≠12 by omega),cond_false,wQ hp,cond_true]
   rw [fk,ab,nh,b6,ab]
   by_cases h9:ah m 1=0
   ·simp [Jm,h9,iV]
   ·simp [Jm,h9,toW,dd]
  ·have hW:a9 c t m w x d=rO c m x:=by unfold a9;rw [hmay];simp [hp]
   rw [hW]
   rw [bK (show x.1≠0 by omega),cond_false,bK (show x.1≠1 by omega),cond_false,bK (show x.1≠2 by omega),cond_false,bK (show x.1≠3 by omega),cond_false,bK (show x.1≠4 by omega),cond_false,bK (show x.1≠5 by omega),cond_false,bK (show x.1≠6 by omega),cond_false,bK (show x.1≠7 by omega),cond_false,bK (show x.1≠8 by omega),cond_false,bK (show x.1≠9 by omega),cond_false,bK (show x.1≠10 by omega),cond_false,bK (show x.1≠11 by omega),cond_false,bK (show x.1≠12 by omega),cond_false,bK (show x.1≠13 by omega),cond_false,wQ hp,cond_true]
   unfold rO
   rw [hcg]
   simp only [cond_true,cond_false,ab,ni,Prod.eta,b6]
   generalize dr c m x.2.2.1=r
   cases ho:ea r.2 <;> simp [ho,hp,toW,dd]
  ·have hW:a9 c t m w x d=rV t m w x:=by unfold a9;rw [hmay];simp [hp]
   rw [hW]
   rw [bK (show x.1≠0 by omega),cond_false,bK (show x.1≠1 by omega),cond_false,bK (show x.1≠2 by omega),cond_false,bK (show x.1≠3 by omega),cond_false,bK (show x.1≠4 by omega),cond_false,bK (show x.1≠5 by omega),cond_false,bK (show x.1≠6 by omega),cond_false,bK (show x.1≠7 by omega),cond_false,bK (show x.1≠8 by omega),cond_false,bK (show x.1≠9 by omega),cond_false,bK (show x.1≠10 by omega),cond_false,bK (show x.1≠11 by omega),cond_false,bK (show x.1≠12 by omega),cond_false,bK (show x.1≠13 by omega),cond_false,bK (show x.1≠14 by omega),cond_false,wQ hp,cond_true]
   simp only [hnx,ab,Hm,hadd 0 _ (by decide) (by decide),FN,ae7,cond_true,hdo,b6,nh]
   unfold rV
   by_cases h3:(dM t x.2.1).1=3
   ·by_cases h1:ah m 0=1
    ·by_cases h2:doB t x.2.1=[]
     ·simp [h3,h1,h2,Al]
     ·have h4:¬ (((doB t x.2.1).length:Int)=0):=by simp [h2]
      simp [h3,h1,h2,h4,Al,dd]
    ·by_cases h2:doB t x.2.1=[]
     ·simp [h3,h1,h2,Al]
     ·have h4:¬ (((doB t x.2.1).length:Int)=0):=by simp [h2]
      simp [h3,h1,h2,h4,Al,dd]
   ·simp [h3,toW,dd]
end
end Go.Ab
set_option linter.unusedVariables false
namespace Go.Ab
theorem ir {c:CF} {t:Tyt} {m:List Int} {w:Int} {x:WB} {d:Int} {P:WR→Prop} (hs:d8 c t m w x=false→P (m,x,[])) (p0:d8 c t m w x=true→x.1=0→P (I3 c t m w x)) (p1:d8 c t m w x=true→x.1=1→P (wz c m w x)) (p2:d8 c t m w x=true→x.1=2∨x.1=3→P (mQ c m w x d)) (p4:d8 c t m w x=true→x.1=4→P (lg t m w x)) (p5:d8 c t m w x=true→x.1=5→P (uI c m x)) (p6:d8 c t m w x=true→x.1=6→P (ng m x)) (p7:d8 c t m w x=true→x.1=7→P (ez c m x)) (p8:d8 c t m w x=true→x.1=8→P (gJ c m x)) (p9:d8 c t m w x=true→x.1=9→P (K1 t m w x)) (p10:d8 c t m w x=true→x.1=10→P (rz t m w x)) (p11:d8 c t m w x=true→x.1=11→P (pB c m w x)) (p12:d8 c t m w x=true→x.1=12→P (pD c t m w x)) (p13:d8 c t m w x=true→x.1=13→P (Jm m w x)) (p14:d8 c t m w x=true→x.1=14→P (rO c m x)) (p15:d8 c t m w x=true→x.1=15→P (rV t m w x)):P (a9 c t m w x d):=by
 unfold a9
 by_cases hm:d8 c t m w x=false
 ·rw [if_pos hm];exact hs hm
 rw [if_neg hm]
 have hm':d8 c t m w x=true:=by simpa using hm
 have hb:0≤x.1∧x.1<16:=by
  unfold d8 at hm'
  simp only [Bool.and_eq_true,decide_eq_true_eq] at hm'
  exact hm'.1.2.2.2
 by_cases e0:x.1=0
 ·rw [if_pos e0];exact p0 hm' e0
 rw [if_neg e0]
 by_cases e1:x.1=1
 ·rw [if_pos e1];exact p1 hm' e1
 rw [if_neg e1]
 by_cases e2:x.1=2∨x.1=3
 ·rw [if_pos e2];exact p2 hm' e2
 rw [if_neg e2]
 by_cases e4:x.1=4
 ·rw [if_pos e4];exact p4 hm' e4
 rw [if_neg e4]
 by_cases e5:x.1=5
 ·rw [if_pos e5];exact p5 hm' e5
 rw [if_neg e5]
 by_cases e6:x.1=6
 ·rw [if_pos e6];exact p6 hm' e6
 rw [if_neg e6]
 by_cases e7:x.1=7
 ·rw [if_pos e7];exact p7 hm' e7
 rw [if_neg e7]
 by_cases e8:x.1=8
 ·rw [if_pos e8];exact p8 hm' e8
 rw [if_neg e8]
 by_cases e9:x.1=9
 ·rw [if_pos e9];exact p9 hm' e9
 rw [if_neg e9]
 by_cases e10:x.1=10
 ·rw [if_pos e10];exact p10 hm' e10
 rw [if_neg e10]
 by_cases e11:x.1=11
 ·rw [if_pos e11];exact p11 hm' e11
 rw [if_neg e11]
 by_cases e12:x.1=12
 ·rw [if_pos e12];exact p12 hm' e12
 rw [if_neg e12]
 by_cases e13:x.1=13
 ·rw [if_pos e13];exact p13 hm' e13
 rw [if_neg e13]
 by_cases e14:x.1=14
 ·rw [if_pos e14];exact p14 hm' e14
 rw [if_neg e14]
 exact p15 hm' (by omega)
end Go.Ab
set_option linter.unusedVariables false
namespace Go.Ab
theorem SZ (c:CF) (m:List Int) (f:FR):One m (eq c m f).1:=by
 unfold eq
 repeat' split
 all_goals first | exact One.same m | exact One.store m _ _ | exact One.cas m _ _ _
theorem YJ (c:CF) (m:List Int) (f:FR):One m (iK c m f).1:=by
 unfold iK
 repeat' split
 all_goals first | exact One.same m | exact One.store m _ _ | exact One.cas m _ _ _
theorem Qq (c:CF) (m:List Int) (f:FR):One m (be c m f).1:=by
 unfold be
 dsimp only
 repeat' split
 all_goals first | exact One.same m | exact One.store m _ _ | exact One.cas m _ _ _
theorem OI (c:CF) (m:List Int) (f:FR):One m (dr c m f).1:=by
 unfold dr BW
 repeat' split
 all_goals first | exact One.same m | exact SZ c m f | exact YJ c m f | exact Qq c m f | exact Kn c m f
section
variable {c:CF} {t:Tyt} {m:List Int} {w:Int} {x:WB} {d:Int}
theorem Ei:One m (a9 c t m w x d).1:=by
 refine ir (P:=fun r=>One m r.1) (fun _=>One.same m) ?_ ?_ ?_ ?_ ?_ ?_ ?_ ?_ ?_ ?_ ?_ ?_ ?_ ?_ ?_
 all_goals intro _ _
 all_goals dsimp only [I3,wz,mQ,lg,uI,ng,ez,gJ,K1,rz,pB,pD,Jm,rO,rV]
 all_goals repeat' split
 all_goals (try dsimp only)
 all_goals first | exact One.same m | exact One.store m _ _ | exact OI c m _
theorem S7:(a9 c t m w x d).2.2.length≤2:=by
 refine ir (P:=fun r=>r.2.2.length≤2) (fun _=>Nat.zero_le _) ?_ ?_ ?_ ?_ ?_ ?_ ?_ ?_ ?_ ?_ ?_ ?_ ?_ ?_ ?_
 all_goals intro _ _
 all_goals dsimp only [I3,wz,mQ,lg,uI,ng,ez,gJ,K1,rz,pB,pD,Jm,rO,rV]
 all_goals repeat' split
 all_goals simp
theorem PN:(a9 c t m w x d).2.1.2.1.length≤x.2.1.length+1:=by
 have h1:=fun q=>LY t x.2.1 q
 have h2:=aaC t x.2.1
 refine ir (P:=fun r=>r.2.1.2.1.length≤x.2.1.length+1) (fun _=>Nat.le_succ _) ?_ ?_ ?_ ?_ ?_ ?_ ?_ ?_ ?_ ?_ ?_ ?_ ?_ ?_ ?_
 all_goals intro _ _
 all_goals dsimp only [I3,wz,mQ,lg,uI,ng,ez,gJ,K1,rz,pB,pD,Jm,rO,rV,toW,iV]
 all_goals repeat' split
 all_goals first | exact Nat.le_succ _ | exact h1 _ | (dsimp only;omega) | simp
theorem I4 {s:Tye} (h:cu t s=true) (q:Int):cu t (gN t s q)=true:=by
 unfold gN
 split
 ·rename_i g
  have:=mw.1 h
  exact gS.2 ⟨this.1,this.2,adf this.1 g.2.1 g.2.2⟩
 ·exact h
theorem Y1 {s:Tye} (h:cu t s=true):cu t (doB t s)=true:=by
 rcases kE s with rfl | ⟨r,y,rfl⟩
 ·exact h
 ·exact (Sx h).1
theorem HV (h:d8 c t m w x=true):da c=true∧(m.length:Int)=bG c∧oF t=true∧(0≤w∧w<c.1∧0≤x.1∧x.1<16)∧cu t x.2.1=true:=by
 unfold d8 at h
 simp only [Bool.and_eq_true,decide_eq_true_eq] at h
 exact ⟨h.1.1.1.1,h.1.1.1.2,h.1.1.2,h.1.2,h.2⟩
theorem PI (h1:da c=true) (h2:(m.length:Int)=bG c) (h3:oF t=true) (h4:0≤w∧w<c.1∧0≤x.1∧x.1<16) (h5:cu t x.2.1=true):d8 c t m w x=true:=by
 unfold d8
 rw [h1,h3,h5,decide_eq_true h2,decide_eq_true h4]
 rfl
theorem Uv (h:d8 c t m w x=true):d8 c t (a9 c t m w x d).1 w (a9 c t m w x d).2.1=true:=by
 obtain ⟨h1,h2,h3,h4,h5⟩:=HV h
 have hl:=(Ei (c:=c) (t:=t) (m:=m) (w:=w) (x:=x) (d:=d)).len
 have key:0≤(a9 c t m w x d).2.1.1∧(a9 c t m w x d).2.1.1<16∧cu t (a9 c t m w x d).2.1.2.1=true:=by
  have g1:=I4 h5
  have g2:=Y1 h5
  have g3:cu t []=true:=mw.2 ⟨h3,fun y hy=>absurd hy (by simp)⟩
  refine ir (P:=fun r=>0≤r.2.1.1∧r.2.1.1<16∧cu t r.2.1.2.1=true) (fun _=>⟨h4.2.2.1,h4.2.2.2,h5⟩) ?_ ?_ ?_ ?_ ?_ ?_ ?_ ?_ ?_ ?_ ?_ ?_ ?_ ?_ ?_
  all_goals intro _ _
  all_goals dsimp only [I3,wz,mQ,lg,uI,ng,ez,gJ,K1,rz,pB,pD,Jm,rO,rV,toW,iV]
  all_goals repeat' split
  all_goals refine ⟨?_,?_,?_⟩
  all_goals (try dsimp only)
  all_goals first | omega | exact h5 | exact g1 _ | exact g2 | exact g3
 exact PI h1 (by rw [hl];exact h2) h3 ⟨h4.1,h4.2.1,key.1,key.2.1⟩ key.2.2
theorem TR {w W:Int}:0≤BN d w W↔¬ (W<2∨w<0∨W≤w):=by
 unfold BN
 split
 ·rename_i h
  exact ⟨fun g=>absurd g (by decide),fun g=>absurd h g⟩
 ·rename_i h
  exact ⟨fun _=>h,fun _=>Int.emod_nonneg _ (by omega)⟩
end
end Go.Ab
set_option linter.unusedVariables false
namespace Go.Ab
section
variable {c:CF} {m:List Int} {f:FR} {j:Int} (hj:j=0∨j=1∨j=3)
include hj
theorem lK {w x:Int} (hx:0≤x):onW c w x≠j:=by
 unfold onW
 split
 ·rename_i h
  have hm:=aA h.1
  have:=dG h.1 h.2.1 (by omega)
  omega
 ·omega
theorem pm {w x:Int} (h0:0≤x) (h1:x≤18446744073709551615):pA c w x≠j:=by
 unfold pA onW
 split
 ·rename_i h
  have hm:=aA h.1
  have:=dG h.1 h.2.1 (by omega)
  have:=Ep h0 h1 (show 1≤c.2.1 by omega) (by omega)
  omega
 ·omega
theorem By (x:Int):lY c x≠j:=by
 unfold lY
 split
 ·rename_i h
  have:=aA h
  have:=Int.emod_nonneg x (show c.2.2.1≠0 by omega)
  omega
 ·omega
theorem AW (x:Int):BL c x≠j:=by
 unfold BL
 split
 ·rename_i h
  have:=aA h
  have:=Int.emod_nonneg x (show c.2.2.1≠0 by omega)
  omega
 ·omega
theorem oY (w:Int):fU c w≠j:=by
 unfold fU
 split
 ·rename_i h
  have hm:=aA h.1
  have:=dG h.1 h.2.1 (by omega)
  omega
 ·omega
omit hj in
theorem ks {i v:Int} (h:i≠j):ah (ao m i v) j=ah m j:=az v h
omit hj in
theorem kc {i o v:Int} (h:i≠j):ah (pP m i o v).1 j=ah m j:=by
 unfold pP
 split
 ·exact ks h
 ·rfl
section
variable (hf:Wf f)
include hf
theorem Qn:ah (eq c m f).1 j=ah m j:=by
 have w4:=hf.2.1
 have _h:=hj
 unfold eq
 try dsimp only
 repeat' split
 all_goals first | rfl | exact ks (By hj _) | exact ks (AW hj _) | exact ks (oY hj _) | exact ks (lK hj (by decide)) | exact kc (lK hj (by decide)) | exact ks (pm hj w4.1 w4.2) | exact kc (show (2:Int)≠j by omega) | exact kc (show (4:Int)≠j by omega) | exact kc (show (5:Int)≠j by omega) | exact ks (show (2:Int)≠j by omega)
theorem Rt:ah (iK c m f).1 j=ah m j:=by
 have w4:=hf.2.1
 have _h:=hj
 unfold iK
 try dsimp only
 repeat' split
 all_goals first | rfl | exact ks (By hj _) | exact ks (AW hj _) | exact ks (oY hj _) | exact ks (lK hj (by decide)) | exact kc (lK hj (by decide)) | exact ks (pm hj w4.1 w4.2) | exact kc (show (2:Int)≠j by omega) | exact kc (show (4:Int)≠j by omega) | exact kc (show (5:Int)≠j by omega) | exact ks (show (2:Int)≠j by omega)
theorem LM:ah (be c m f).1 j=ah m j:=by
 have w4:=hf.2.1
 have _h:=hj
 unfold be
 try dsimp only
 repeat' split
 all_goals first | rfl | exact ks (By hj _) | exact ks (AW hj _) | exact ks (oY hj _) | exact ks (lK hj (by decide)) | exact kc (lK hj (by decide)) | exact ks (pm hj w4.1 w4.2) | exact kc (show (2:Int)≠j by omega) | exact kc (show (4:Int)≠j by omega) | exact kc (show (5:Int)≠j by omega) | exact ks (show (2:Int)≠j by omega)
theorem Ku:ah (iJ c m f).1 j=ah m j:=by
 have w4:=hf.2.1
 have _h:=hj
 unfold iJ
 try dsimp only
 repeat' split
 all_goals first | rfl | exact ks (By hj _) | exact ks (AW hj _) | exact ks (oY hj _) | exact ks (lK hj (by decide)) | exact kc (lK hj (by decide)) | exact ks (pm hj w4.1 w4.2) | exact kc (show (2:Int)≠j by omega) | exact kc (show (4:Int)≠j by omega) | exact kc (show (5:Int)≠j by omega) | exact ks (show (2:Int)≠j by omega)
theorem KY:ah (kH c m f).1 j=ah m j:=by
 have w4:=hf.2.1
 have _h:=hj
 unfold kH
 try dsimp only
 repeat' split
 all_goals first | rfl | exact ks (By hj _) | exact ks (AW hj _) | exact ks (oY hj _) | exact ks (lK hj (by decide)) | exact kc (lK hj (by decide)) | exact ks (pm hj w4.1 w4.2) | exact kc (show (2:Int)≠j by omega) | exact kc (show (4:Int)≠j by omega) | exact kc (show (5:Int)≠j by omega) | exact ks (show (2:Int)≠j by omega)
theorem GZ:ah (Az c m f).1 j=ah m j:=by
 have w4:=hf.2.1
 have _h:=hj
 unfold Az
 try dsimp only
 repeat' split
 all_goals first | rfl | exact ks (By hj _) | exact ks (AW hj _) | exact ks (oY hj _) | exact ks (lK hj (by decide)) | exact kc (lK hj (by decide)) | exact ks (pm hj w4.1 w4.2) | exact kc (show (2:Int)≠j by omega) | exact kc (show (4:Int)≠j by omega) | exact kc (show (5:Int)≠j by omega) | exact ks (show (2:Int)≠j by omega)
theorem G5:ah (wB c m f).1 j=ah m j:=by
 have w4:=hf.2.1
 have _h:=hj
 unfold wB LH
 try dsimp only
 repeat' split
 all_goals first | rfl | exact ks (By hj _) | exact ks (AW hj _) | exact ks (oY hj _) | exact ks (lK hj (by decide)) | exact kc (lK hj (by decide)) | exact ks (pm hj w4.1 w4.2) | exact kc (show (2:Int)≠j by omega) | exact kc (show (4:Int)≠j by omega) | exact kc (show (5:Int)≠j by omega) | exact ks (show (2:Int)≠j by omega)
theorem LB:ah (dr c m f).1 j=ah m j:=by
 unfold dr BW iU BK H6
 repeat' split
 all_goals first | with_reducible rfl | with_reducible exact Qn hj hf | with_reducible exact Rt hj hf | with_reducible exact LM hj hf | with_reducible exact Ku hj hf | with_reducible exact KY hj hf | with_reducible exact GZ hj hf | with_reducible exact G5 hj hf
end
end
def I8:List EV→Int×Bool→Int×Bool
 | [],s=>s
 | e::l,s=>I8 l (if e.1=3 then IntKind.u64.wrap (s.1+1) else if e.1=4 then IntKind.u64.wrap (s.1 - 1) else s.1,s.2||decide (e.1=5))
theorem UV (s:Int):fh s Al=IntKind.u64.wrap (s - 1):=by
 rw [gR]
 unfold fh Al
 omega
theorem ahk (s:Int):fh s 1=IntKind.u64.wrap (s+1):=by
 rw [gR]
 rfl
section
variable {c:CF} {t:Tyt} {m:List Int} {w:Int} {x:WB} {d:Int}
theorem QB (hm:Wm m) (hl:2≤m.length) (hf:Wf x.2.2.1):ah (a9 c t m w x d).1 0=(I8 (a9 c t m w x d).2.2 (ah m 0,false)).1∧((I8 (a9 c t m w x d).2.2 (ah m 0,false)).2=true↔ah m 0=1∧(I8 (a9 c t m w x d).2.2 (ah m 0,false)).1=0):=by
 have hk:=LB (c:=c) (m:=m) (f:=x.2.2.1) (j:=0) (by decide) hf
 have hs:∀ v,ah (ao m 0 v) 0=v:=fun v=>dZ v (by decide) (by omega)
 have h1:∀ v,ah (ao m 1 v) 0=ah m 0:=fun v=>ks (by decide)
 have z:∀ {l:List EV},(l=[]∨∃ a b,l=[(2,a,b)])→ah m 0=(I8 l (ah m 0,false)).1∧((I8 l (ah m 0,false)).2=true↔ah m 0=1∧(I8 l (ah m 0,false)).1=0):=fun h=>by
  rcases h with rfl | ⟨a,b,rfl⟩
  ·refine ⟨rfl,?_⟩
   dsimp only [I8]
   exact ⟨fun g=>(by cases g),fun g=>absurd g.2 (by omega)⟩
  ·refine ⟨rfl,?_⟩
   dsimp only [I8]
   exact ⟨fun g=>(by cases g),fun g=>absurd g.2 (by rw [if_neg (by decide),if_neg (by decide)];omega)⟩
 have hr:=ct hm 0
 refine ir (P:=fun r=>ah r.1 0=(I8 r.2.2 (ah m 0,false)).1∧((I8 r.2.2 (ah m 0,false)).2=true↔ah m 0=1∧(I8 r.2.2 (ah m 0,false)).1=0)) (fun _=>z (.inl rfl)) ?_ ?_ ?_ ?_ ?_ ?_ ?_ ?_ ?_ ?_ ?_ ?_ ?_ ?_ ?_
 all_goals intro _ hp
 ·unfold I3
  dsimp only
  repeat' split
  all_goals (dsimp only;rw [hk];exact z (by first | exact .inl rfl | exact .inr ⟨_,_,rfl⟩))
 ·unfold wz
  dsimp only
  rw [h1]
  exact z (.inl rfl)
 ·unfold mQ
  dsimp only
  repeat' split
  all_goals (dsimp only;rw [hk];exact z (.inl rfl))
 ·unfold lg
  dsimp only
  rw [h1]
  exact z (.inr ⟨_,_,rfl⟩)
 ·unfold uI
  dsimp only
  rw [hk]
  exact z (.inl rfl)
 ·unfold ng
  dsimp only
  rw [h1]
  exact z (.inl rfl)
 ·unfold ez
  dsimp only
  repeat' split
  all_goals (dsimp only;exact z (.inl rfl))
 ·unfold gJ
  dsimp only
  split
  all_goals (dsimp only;rw [hk];exact z (.inl rfl))
 ·unfold K1
  dsimp only
  repeat' split
  all_goals (dsimp only;exact z (.inl rfl))
 ·unfold rz
  dsimp only
  split
  ·exact z (.inl rfl)
  ·dsimp only
   rw [hs,ahk]
   dsimp only [I8]
   rw [if_pos rfl]
   refine ⟨rfl,fun g=>(by cases g),fun g => ?_⟩
   have:=g.2
   rw [g.1] at this
   exact absurd this (by decide)
 ·unfold pB
  dsimp only
  repeat' split
  all_goals (dsimp only;rw [hk];exact z (.inl rfl))
 ·unfold pD
  dsimp only
  repeat' split
  all_goals (dsimp only;rw [hk];exact z (by first | exact .inl rfl | exact .inr ⟨_,_,rfl⟩))
 ·unfold Jm
  split
  all_goals exact z (.inl rfl)
 ·unfold rO
  dsimp only
  split
  all_goals (dsimp only;rw [hk];exact z (.inl rfl))
 ·unfold rV
  dsimp only
  split
  ·exact z (.inl rfl)
  ·dsimp only
   rw [hs,UV]
   by_cases h:ah m 0=1
   ·rw [if_pos h,h]
    refine ⟨rfl,fun _=>⟨rfl,rfl⟩,fun _=>rfl⟩
   ·rw [if_neg h]
    refine ⟨rfl,fun g=>(by cases g),fun g=>absurd g.1 h⟩
end
end Go.Ab
set_option linter.unusedVariables false
namespace Go.Ab
theorem Lt {c:CF} {m:List Int} {f:FR} (hm:Wm m) (hf:Wf f):Wm (wB c m f).1∧Wf (wB c m f).2∧(wB c m f).1.length=m.length:=by
 have hr:=ct hm 2
 obtain ⟨w3,w4,w5⟩:=hf
 have hk4:=JJ w4.1
 have hk5:=JJ w5.1
 have hc5:=PG hk5.1 hk5.2
 unfold wB
 split
 ·exact ⟨hm,⟨w3,w4,w5⟩,rfl⟩
 ·split
  ·exact ⟨hm,⟨w3,hr,w5⟩,rfl⟩
  ·split
   ·split
    ·refine ⟨hm.set 2 ?_ ?_,?_,(by simp only [];exact iB)⟩
     ·split
      ·exact (w8 _ _).1
      ·exact (w8 _ _).1
     ·split
      ·exact (w8 _ _).2
      ·exact (w8 _ _).2
     ·have hl:=QL (mkB f.2.2.2.2.1)
      simp only []
      by_cases hz:mkB f.2.2.2.2.1=0
      ·rw [if_pos hz]
       exact ⟨by simp [eN],by simp [eN],by simp [eN]⟩
      ·rw [if_neg hz]
       refine ⟨w3,w4,?_⟩
       simp only
       split
       ·split <;> omega
       ·omega
    ·exact ⟨hm,⟨w3,w4,w5⟩,rfl⟩
   ·split
    ·exact ⟨hm.set _ (by decide) (by decide),⟨w5,by simp [eN],by simp [eN]⟩,(by simp only [];exact iB)⟩
    ·refine ⟨hm.set _ (by decide) (by decide),?_,(by simp only [];exact iB)⟩
     split
     ·exact ⟨by simp [eN];omega,by simp [eN],by simp [eN]⟩
     ·exact ⟨w3,w4,by simp only;omega⟩
theorem Xk {c:CF} {m:List Int} {f:FR} (hm:Wm m) (hf:Wf f):Wm (Az c m f).1∧Wf (Az c m f).2:=by
 have hr:=ct hm 2
 obtain ⟨w3,w4,w5⟩:=hf
 have hs:=abK (w:=f.2.2.1) w5.1 w5.2
 unfold Az
 dsimp only
 split
 ·exact ⟨hm,w3,w4,w5⟩
 ·split
  ·exact ⟨hm,w3,hr,w5⟩
  ·split
   ·split
    ·exact ⟨hm,w3,w4,hr⟩
    ·exact ⟨hm,by simp [eN,Wf]⟩
   ·split
    ·exact ⟨hm.cas _ _ hs.1 hs.2,w3,w4,w5⟩
    ·split
     ·exact ⟨hm,w3,w4,ct hm _⟩
     ·exact ⟨hm.set _ (by decide) (by decide),by simp [eN,Wf]⟩
theorem ach {c:CF} {m:List Int} {f:FR} (hm:Wm m) (hf:Wf f):Wm (iJ c m f).1∧Wf (iJ c m f).2:=by
 obtain ⟨w3,w4,w5⟩:=hf
 have ha:=gq f.2.2.2.2.1 1
 have hb:=gq (Ca c f.2.2.2.2.1) 1
 unfold iJ
 dsimp only
 split
 ·exact ⟨hm,w3,w4,w5⟩
 ·split
  ·exact ⟨hm,w3,ct hm 5,w5⟩
  ·split
   ·split
    ·exact ⟨hm,w3,w4,ct hm _⟩
    ·split
     ·exact ⟨hm,w3,by simp [eN],by simp [eN]⟩
     ·exact ⟨hm,w3,w4,ct hm _⟩
   ·split
    ·exact ⟨hm.cas _ _ ha.1 ha.2,w3,w4,w5⟩
    ·split
     ·exact ⟨hm.set _ w3.1 w3.2,w3,w4,w5⟩
     ·exact ⟨hm.set _ hb.1 hb.2,w3,by simp [eN],by simp [eN]⟩
theorem afF {c:CF} {m:List Int} {f:FR} (hm:Wm m) (hf:Wf f):Wm (kH c m f).1∧Wf (kH c m f).2:=by
 obtain ⟨w3,w4,w5⟩:=hf
 have ha:=gq f.2.2.2.2.1 1
 have hb:=gq (BR c f.2.2.2.2.1) 1
 unfold kH
 dsimp only
 split
 ·exact ⟨hm,w3,w4,w5⟩
 ·split
  ·exact ⟨hm,w3,ct hm 4,w5⟩
  ·split
   ·split
    ·exact ⟨hm,w3,w4,ct hm _⟩
    ·split
     ·exact ⟨hm,by simp [eN],by simp [eN],by simp [eN]⟩
     ·exact ⟨hm,w3,w4,ct hm _⟩
   ·split
    ·exact ⟨hm.cas _ _ ha.1 ha.2,w3,w4,w5⟩
    ·split
     ·exact ⟨hm,ct hm _,w4,w5⟩
     ·exact ⟨hm.set _ hb.1 hb.2,w3,by simp [eN],by simp [eN]⟩
theorem Qj {c:CF} {m:List Int} {f:FR} (hm:Wm m) (hf:Wf f):Wm (iU c m f).1∧Wf (iU c m f).2:=by
 unfold iU BK H6
 repeat' split
 all_goals first | exact ach hm hf | exact afF hm hf | exact Xk hm hf | exact ⟨(Lt hm hf).1,(Lt hm hf).2.1⟩ | exact ⟨hm,hf⟩
theorem VU {c:CF} {t:Tyt} {m:List Int} {i:Int} {x:SB} (hm:Wm m) (hf:Wf x.2.2) (ht:t.length≤1000):Wm (fL c t m i x).1∧Wf (fL c t m i x).2.1.2.2:=by
 have hc:=Qj (c:=c) hm hf
 have hz:Wf dd:=by simp [Wf,dd]
 have h1:=gq (ah m 0) 1
 have h2:=gq (ah m 0) 18446744073709551615
 cases hmay:wy c t m x with
 | false=>
  have e:fL c t m i x=(m,x,[]):=by unfold fL;rw [hmay,if_pos rfl]
  rw [e]
  exact ⟨hm,hf⟩
 | true=>
  obtain ⟨_,_,_,_,_,r,rest,hx,h6,h7⟩:=AI hmay
  have hh:eL x.2.1=r:=by rw [hx];rfl
  unfold fL
  rw [hmay,if_neg (by simp),hh]
  dsimp only
  have h3:Wf (3,0,i,r,0,0,0):=⟨⟨h6,by simp only;omega⟩,by simp,by simp⟩
  have h4:Wf (6,0,i,0,0,0,0):=by simp [Wf]
  repeat' split
  all_goals first | exact ⟨hm,hf⟩ | exact ⟨hm,hz⟩ | exact ⟨hm,h4⟩ | exact ⟨hm.set 0 h1.1 h1.2,h3⟩ | exact hc | exact ⟨hc.1,hz⟩ | exact ⟨hm.set 0 h2.1 h2.2,hz⟩
end Go.Ab
set_option linter.unusedVariables false
namespace Go.Ab
abbrev PB:=CF×Tyt×List Int×List WB×List SB
abbrev PK:=Int×Int×Int
def uo (t:Tyt) (x:SB):Bool:=decide (0≤x.1∧x.1<6)&&x.2.1.all (fun r=>decide (0≤r∧r<t.length))&&(decide (x.1=0)||decide (x.2.1≠[]))
def G1 (c:CF) (t:Tyt) (m:List Int):Nat→List WB→Bool
 | _,[]=>true
 | i,x::l=>d8 c t m i x&&G1 c t m (i+1) l
def iM (p:PB):Bool:=da p.1&&decide ((p.2.2.2.1.length:Int)=p.1.1∧p.2.2.2.2.length≤3)&&G1 p.1 p.2.1 p.2.2.1 0 p.2.2.2.1&&p.2.2.2.2.all (uo p.2.1)
def BY (k:PK) (w s:Int):Bool:=decide (k.1=0∧0≤k.2.1∧k.2.1<w∨k.1=1∧0≤k.2.1∧k.2.1<s∨k.1=2∨k.1=3)
def eM (p:PB) (k:PK):PB×List EV:=
 if k.1=0 then match p.2.2.2.1[k.2.1.toNat]? with
  | some x=>((p.1,p.2.1,(a9 p.1 p.2.1 p.2.2.1 k.2.1 x k.2.2).1,p.2.2.2.1.set k.2.1.toNat (a9 p.1 p.2.1 p.2.2.1 k.2.1 x k.2.2).2.1,p.2.2.2.2),(a9 p.1 p.2.1 p.2.2.1 k.2.1 x k.2.2).2.2)
  | none=>(p,[])
 else if k.1=1 then match p.2.2.2.2[k.2.1.toNat]? with
  | some x=>if wy p.1 p.2.1 p.2.2.1 x=true then ((p.1,p.2.1,(fL p.1 p.2.1 p.2.2.1 k.2.1 x).1,p.2.2.2.1,p.2.2.2.2.set k.2.1.toNat (fL p.1 p.2.1 p.2.2.1 k.2.1 x).2.1),(fL p.1 p.2.1 p.2.2.1 k.2.1 x).2.2) else (p,[])
  | none=>(p,[])
 else if k.1=2 then ((p.1,p.2.1,ao p.2.2.1 3 1,p.2.2.2.1,p.2.2.2.2),[])
 else (p,[])
def lA (p:PB):List PK→PB×List EV
 | []=>(p,[])
 | k::l=>if BY k p.1.1 p.2.2.2.2.length=true then ((lA (eM p k).1 l).1,(eM p k).2++(lA (eM p k).1 l).2) else lA p l
def ahU (p:PB) (l:List PK):PB×List EV:=if iM p=true then lA p l else (p,[])
theorem XZ {c:CF} {m:List Int} {f:FR} (hm:Wm m) (hf:Wf f):Wm (eq c m f).1∧Wf (eq c m f).2:=by
 have hl:=fun i=>ct hm i
 obtain ⟨w3,w4,w5⟩:=hf
 have ha:=gq f.2.2.2.2.1 1
 unfold eq
 repeat' split
 ·exact ⟨hm,w3,w4,w5⟩
 ·exact ⟨hm,w3,hl _,w5⟩
 ·exact ⟨hm,w3,by simp [eN],by simp [eN]⟩
 ·exact ⟨hm,w3,w4,hl _⟩
 ·exact ⟨hm.set _ w3.1 w3.2,w3,w4,w5⟩
 ·exact ⟨hm.set _ ha.1 ha.2,w3,by simp [eN],by simp [eN]⟩
theorem acg {c:CF} {m:List Int} {f:FR} (hm:Wm m) (hf:Wf f):Wm (iK c m f).1∧Wf (iK c m f).2:=by
 have hl:=fun i=>ct hm i
 obtain ⟨w3,w4,w5⟩:=hf
 have ha:=gq f.2.2.2.2.1 1
 have hb:=gq f.2.2.2.2.2.1 1
 have hs:=fun a b=>U1 a b
 unfold iK
 dsimp only
 split
 ·exact ⟨hm,w3,w4,w5⟩
 split
 ·exact ⟨hm,w3,hs _ _,w5⟩
 split
 ·exact ⟨hm.set _ w4.1 w4.2,w3,w4,w5⟩
 split
 ·exact ⟨hm,w3,w4,hl _⟩
 split
 ·split
  ·exact ⟨hm,hl _,by simp [eN],by simp [eN]⟩
  ·exact ⟨hm,hl _,w4,w5⟩
 split
 ·exact ⟨hm.cas _ _ hb.1 hb.2,w3,w4,w5⟩
 split
 ·exact ⟨hm.set _ ha.1 ha.2,w3,by simp [eN],by simp [eN]⟩
 ·exact ⟨hm.set _ ha.1 ha.2,by simp [eN],by simp [eN],by simp [eN]⟩
theorem SX {c:CF} {m:List Int} {f:FR} (hm:Wm m) (hf:Wf f):Wm (be c m f).1∧Wf (be c m f).2:=by
 have hl:=fun i=>ct hm i
 obtain ⟨w3,w4,w5⟩:=hf
 have hb:=gq f.2.2.2.2.2.1 1
 unfold be
 dsimp only
 split
 ·exact ⟨hm,w3,w4,w5⟩
 split
 ·exact ⟨hm,w3,w4,hl _⟩
 split
 ·split
  ·exact ⟨hm,by simp [eN],by simp [eN],by simp [eN]⟩
  ·exact ⟨hm,w3,hl _,w5⟩
 split
 ·exact ⟨hm,hl _,w4,w5⟩
 split
 ·exact ⟨hm.cas _ _ hb.1 hb.2,w3,by simp [eN],by simp [eN]⟩
 ·exact ⟨hm.cas _ _ hb.1 hb.2,by simp [eN],by simp [eN],by simp [eN]⟩
theorem KV {c:CF} {m:List Int} {f:FR} (hm:Wm m) (hf:Wf f):Wm (dr c m f).1∧Wf (dr c m f).2:=by
 unfold dr BW
 split
 ·split
  ·exact XZ hm hf
  ·split
   ·exact acg hm hf
   ·split
    ·exact SX hm hf
    ·exact ⟨hm,hf⟩
 ·exact Qj hm hf
structure WOk (n:Nat) (x:WB):Prop where
 f:Wf x.2.2.1
 s:x.2.1.length≤n
 sp:x.2.2.2.1≤9223372036854775807
structure SOk (x:SB):Prop where
 f:Wf x.2.2
 s:x.2.1.length≤1000
theorem abf (a:Int):0≤IntKind.u64.wrap a∧IntKind.u64.wrap a≤18446744073709551615:=by
 rw [gR]
 omega
section
variable {c:CF} {t:Tyt} {m:List Int} {w:Int} {x:WB} {d:Int} {n:Nat}
theorem aaG (hm:Wm m) (hf:Wf x.2.2.1):Wm (a9 c t m w x d).1:=by
 have h1:=(KV (c:=c) hm hf).1
 have h2:=fun a b=>gq a b
 refine ir (P:=fun r=>Wm r.1) (fun _=>hm) ?_ ?_ ?_ ?_ ?_ ?_ ?_ ?_ ?_ ?_ ?_ ?_ ?_ ?_ ?_
 all_goals intro _ _
 all_goals dsimp only [I3,wz,mQ,lg,uI,ng,ez,gJ,K1,rz,pB,pD,Jm,rO,rV]
 all_goals repeat' split
 all_goals (try dsimp only)
 all_goals first | exact hm | exact h1 | exact hm.set _ (h2 _ _).1 (h2 _ _).2
theorem Ye (hm:Wm m) (hf:Wf x.2.2.1):Wf (a9 c t m w x d).2.1.2.2.1:=by
 have h1:=(KV (c:=c) hm hf).2
 have h2:=fun i=>ct hm i
 have h3:=fun a=>abf a
 have z:Wf dd:=by simp [Wf,dd]
 have zr:(0:Int)≤0∧(0:Int)≤18446744073709551615:=by decide
 have b:∀ op w,Wf (wA op w 0):=fun op w=>by simp [Wf,wA]
 have b2:∀ op w v,0≤v∧v≤18446744073709551615→Wf (wA op w v):=fun op w v h=>⟨h,by simp [wA],by simp [wA]⟩
 obtain ⟨w3,w4,w5⟩:=hf
 refine ir (P:=fun r=>Wf r.2.1.2.2.1) (fun _=>⟨w3,w4,w5⟩) ?_ ?_ ?_ ?_ ?_ ?_ ?_ ?_ ?_ ?_ ?_ ?_ ?_ ?_ ?_
 all_goals intro _ _
 all_goals dsimp only [I3,wz,mQ,lg,uI,ng,ez,gJ,K1,rz,pB,pD,Jm,rO,rV,toW,iV,D9]
 all_goals repeat' split
 all_goals (try dsimp only)
 all_goals first | exact h1 | exact z | exact b _ _ | exact b2 _ _ _ (h3 _) | exact b2 _ _ _ h1.1 | exact ⟨w3,w4,w5⟩ | exact ⟨h2 _,w4,w5⟩ | exact ⟨h2 4,w4,w5⟩ | exact ⟨zr,w4,w5⟩
theorem Y5 (hc:da c=true) (hs:x.2.2.2.1≤9223372036854775807):(a9 c t m w x d).2.1.2.2.2.1≤9223372036854775807:=by
 have h4:=aA hc
 refine ir (P:=fun r=>r.2.1.2.2.2.1≤9223372036854775807) (fun _=>hs) ?_ ?_ ?_ ?_ ?_ ?_ ?_ ?_ ?_ ?_ ?_ ?_ ?_ ?_ ?_
 all_goals intro _ _
 all_goals dsimp only [I3,wz,mQ,lg,uI,ng,ez,gJ,K1,rz,pB,pD,Jm,rO,rV,toW,iV]
 all_goals repeat' split
 all_goals (try dsimp only)
 all_goals omega
theorem X7 (hc:da c=true) (hm:Wm m) (h:WOk n x):WOk (n+1) (a9 c t m w x d).2.1:=
 ⟨Ye hm h.f,by have:=PN (c:=c) (t:=t) (m:=m) (w:=w) (x:=x) (d:=d);have:=h.s;omega,Y5 hc h.sp⟩
end
section
variable {c:CF} {t:Tyt} {m:List Int} {i:Int} {x:SB}
theorem RY:One m (fL c t m i x).1:=by
 unfold fL
 dsimp only
 repeat' split
 all_goals first | exact One.same m | exact One.store m _ _ | (dsimp only;exact One.store m _ _) | exact Kn c m _
theorem Kj:(fL c t m i x).1.length=m.length:=RY.len
theorem uc:(fL c t m i x).2.1.2.1=x.2.1∨(fL c t m i x).2.1.2.1=x.2.1.tail∧(fL c t m i x).2.1.1=0:=by
 unfold fL
 dsimp only
 repeat' split
 all_goals first | exact .inl rfl | exact .inr ⟨rfl,rfl⟩
theorem Tw:(fL c t m i x).2.2.length≤2:=by
 unfold fL
 dsimp only
 repeat' split
 all_goals simp
theorem acB (h:0≤x.1∧x.1<6):0≤(fL c t m i x).2.1.1∧(fL c t m i x).2.1.1<6:=by
 unfold fL
 dsimp only
 repeat' split
 all_goals (try dsimp only)
 all_goals omega
theorem YR (h:uo t x=true) (hm:wy c t m x=true):uo t (fL c t m i x).2.1=true:=by
 unfold uo at h ⊢
 simp only [Bool.and_eq_true,decide_eq_true_eq,List.all_eq_true,Bool.or_eq_true] at h ⊢
 obtain ⟨_,_,_,h4,h5,r,rest,hx,h6,h7⟩:=AI hm
 refine ⟨⟨acB h.1.1,fun y hy => ?_⟩,?_⟩
 ·rcases uc (c:=c) (t:=t) (m:=m) (i:=i) (x:=x) with e | e
  ·rw [e] at hy;exact h.1.2 y hy
  ·rw [e.1] at hy;exact h.1.2 y (List.mem_of_mem_tail hy)
 ·rcases uc (c:=c) (t:=t) (m:=m) (i:=i) (x:=x) with e | e
  ·refine .inr ?_
   rw [e,hx]
   simp
  ·exact .inl e.2
theorem acE (hm:Wm m) (ht:t.length≤1000) (h:SOk x):SOk (fL c t m i x).2.1:=by
 refine ⟨(VU hm h.f ht).2,?_⟩
 have:=h.s
 rcases uc (c:=c) (t:=t) (m:=m) (i:=i) (x:=x) with e | e
 ·rw [e];exact h.s
 ·rw [e.1,List.length_tail];omega
end
structure Good (n:Nat) (p:PB):Prop where
 t:FwT p.2.1
 tl:p.2.1.length≤1000
 m:Wm p.2.2.1
 w:∀ x ∈ p.2.2.2.1,WOk n x
 s:∀ x ∈ p.2.2.2.2,SOk x
theorem AQ {c:CF} {t:Tyt} {m:List Int}:∀ {l:List WB} {i:Nat},G1 c t m i l=true↔∀ (j:Nat) x,l[j]? = some x→d8 c t m ((i+j:Nat):Int) x=true
 | [],i=>by simp [G1]
 | y::l,i=>by
  rw [G1,Bool.and_eq_true,AQ (l:=l)]
  constructor
  ·intro h j x hx
   cases j with
   | zero=>cases hx;exact h.1
   | succ j=>
    have:=h.2 j x hx
    rw [show i+(j+1)=i+1+j by omega]
    exact this
  ·intro h
   refine ⟨h 0 y rfl,fun j x hx => ?_⟩
   have:=h (j+1) x hx
   rw [show i+1+j=i+(j+1) by omega]
   exact this
theorem BB {c:CF} {t:Tyt} {m m':List Int} {w:Int} {x:WB} (h:m'.length=m.length):d8 c t m' w x=d8 c t m w x:=by
 unfold d8
 rw [h]
theorem nW {p:PB} (h:iM p=true):da p.1=true∧(p.2.2.2.1.length:Int)=p.1.1∧p.2.2.2.2.length≤3∧(∀ (j:Nat) x,p.2.2.2.1[j]? = some x→d8 p.1 p.2.1 p.2.2.1 (j:Int) x=true)∧(∀ x ∈ p.2.2.2.2,uo p.2.1 x=true):=by
 unfold iM at h
 simp only [Bool.and_eq_true,decide_eq_true_eq,List.all_eq_true] at h
 refine ⟨h.1.1.1,h.1.1.2.1,h.1.1.2.2,fun j x hx => ?_,h.2⟩
 have:=AQ.1 h.1.2 j x hx
 rw [Nat.zero_add] at this
 exact this
theorem DF {p:PB} (h1:da p.1=true) (h2:(p.2.2.2.1.length:Int)=p.1.1) (h3:p.2.2.2.2.length≤3) (h4:∀ (j:Nat) x,p.2.2.2.1[j]? = some x→d8 p.1 p.2.1 p.2.2.1 (j:Int) x=true) (h5:∀ x ∈ p.2.2.2.2,uo p.2.1 x=true):iM p=true:=by
 unfold iM
 simp only [Bool.and_eq_true,decide_eq_true_eq,List.all_eq_true]
 refine ⟨⟨⟨h1,h2,h3⟩,AQ.2 fun j x hx => ?_⟩,h5⟩
 rw [Nat.zero_add]
 exact h4 j x hx
theorem IC {α:Type} {l:List α} {i:Nat} {y x:α} (h:x ∈ l.set i y):x ∈ l∨x=y:=by
 rcases List.mem_or_eq_of_mem_set h with h | h
 ·exact .inl h
 ·exact .inr h
theorem mU {p:PB} {k:PK} {P:PB×List EV→Prop} (h0:P (p,[]))
  (hw:∀ x,p.2.2.2.1[k.2.1.toNat]? = some x→k.1=0→P ((p.1,p.2.1,(a9 p.1 p.2.1 p.2.2.1 k.2.1 x k.2.2).1,p.2.2.2.1.set k.2.1.toNat (a9 p.1 p.2.1 p.2.2.1 k.2.1 x k.2.2).2.1,p.2.2.2.2),(a9 p.1 p.2.1 p.2.2.1 k.2.1 x k.2.2).2.2))
  (hs:∀ x,p.2.2.2.2[k.2.1.toNat]? = some x→wy p.1 p.2.1 p.2.2.1 x=true→P ((p.1,p.2.1,(fL p.1 p.2.1 p.2.2.1 k.2.1 x).1,p.2.2.2.1,p.2.2.2.2.set k.2.1.toNat (fL p.1 p.2.1 p.2.2.1 k.2.1 x).2.1),(fL p.1 p.2.1 p.2.2.1 k.2.1 x).2.2))
  (hc:P ((p.1,p.2.1,ao p.2.2.1 3 1,p.2.2.2.1,p.2.2.2.2),[])):P (eM p k):=by
 unfold eM
 split
 ·rename_i e
  split
  ·rename_i x hx;exact hw x hx e
  ·exact h0
 ·split
  ·split
   ·rename_i x hx
    split
    ·rename_i hm;exact hs x hx hm
    ·exact h0
   ·exact h0
  ·split
   ·exact hc
   ·exact h0
theorem RA {p:PB} {k:PK}:(eM p k).1.2.2.1.length=p.2.2.1.length:=by
 refine mU (P:=fun r=>r.1.2.2.1.length=p.2.2.1.length) rfl (fun x _ _=>Ei.len) (fun x _ _=>Kj) (show (ao p.2.2.1 3 1).length=p.2.2.1.length from iB)
theorem A4 {p:PB} {k:PK}:(eM p k).1.1=p.1∧(eM p k).1.2.1=p.2.1∧(eM p k).1.2.2.2.1.length=p.2.2.2.1.length∧(eM p k).1.2.2.2.2.length=p.2.2.2.2.length:=by
 refine mU (P:=fun r=>r.1.1=p.1∧r.1.2.1=p.2.1∧r.1.2.2.2.1.length=p.2.2.2.1.length∧r.1.2.2.2.2.length=p.2.2.2.2.length) ⟨rfl,rfl,rfl,rfl⟩ (fun x _ _=>⟨rfl,rfl,List.length_set,rfl⟩) (fun x _ _=>⟨rfl,rfl,rfl,List.length_set⟩) ⟨rfl,rfl,rfl,rfl⟩
theorem KH {p:PB} {k:PK}:(eM p k).2.length≤2:=
 mU (P:=fun r=>r.2.length≤2) (Nat.zero_le _) (fun x _ _=>S7) (fun x _ _=>Tw) (Nat.zero_le _)
theorem ru {n:Nat} {p:PB} {k:PK} (h:Good n p) (hc:da p.1=true):Good (n+1) (eM p k).1:=by
 have up:∀ x ∈ p.2.2.2.1,WOk (n+1) x:=fun x hx=>⟨(h.w x hx).f,Nat.le_succ_of_le (h.w x hx).s,(h.w x hx).sp⟩
 refine mU (P:=fun r=>Good (n+1) r.1) ⟨h.t,h.tl,h.m,up,h.s⟩ (fun x hx _ => ?_) (fun x hx _ => ?_) ⟨h.t,h.tl,show Wm (ao p.2.2.1 3 1) from h.m.set 3 (by decide) (by decide),up,h.s⟩
 ·have hx':=h.w x (List.mem_of_getElem? hx)
  refine ⟨h.t,h.tl,aaG h.m hx'.f,fun y hy => ?_,h.s⟩
  rcases IC hy with hy | rfl
  ·exact up y hy
  ·exact X7 hc h.m hx'
 ·have hx':=h.s x (List.mem_of_getElem? hx)
  refine ⟨h.t,h.tl,(VU h.m hx'.f h.tl).1,up,fun y hy => ?_⟩
  rcases IC hy with hy | rfl
  ·exact h.s y hy
  ·exact acE h.m h.tl hx'
theorem pV {p:PB} {k:PK} (h:iM p=true) (hk:BY k p.1.1 p.2.2.2.2.length=true):iM (eM p k).1=true:=by
 obtain ⟨h1,h2,h3,h4,h5⟩:=nW h
 refine mU (P:=fun r=>iM r.1=true) h (fun x hx hk0 => ?_) (fun x hx hm => ?_) ?_
 ·have h0:0≤k.2.1:=by
   unfold BY at hk
   rw [decide_eq_true_eq] at hk
   omega
  have hkk:((k.2.1.toNat:Nat):Int)=k.2.1:=by omega
  refine DF h1 (by dsimp only;rw [List.length_set];exact h2) h3 (fun j y hy => ?_) h5
  dsimp only at hy ⊢
  rw [List.getElem?_set] at hy
  split at hy
  ·rename_i e
   split at hy
   ·cases hy
    subst e
    rw [hkk]
    have:=h4 _ x hx
    rw [hkk] at this
    exact Uv this
   ·cases hy
  ·rw [BB Ei.len]
   exact h4 j y hy
 ·refine DF h1 h2 (by dsimp only;rw [List.length_set];exact h3) (fun j y hy => ?_) fun y hy => ?_
  ·dsimp only
   rw [BB Kj]
   exact h4 j y hy
  ·rcases IC hy with hy | rfl
   ·exact h5 y hy
   ·exact YR (h5 x (List.mem_of_getElem? hx)) hm
 ·refine DF h1 h2 h3 (fun j y hy => ?_) h5
  dsimp only
  rw [BB iB]
  exact h4 j y hy
theorem H8 {P:PB→Prop} (hs:∀ p k,iM p=true→BY k p.1.1 p.2.2.2.2.length=true→P p→P (eM p k).1):∀ {l:List PK} {p:PB},iM p=true→P p→P (lA p l).1∧iM (lA p l).1=true
 | [],p,h,hp=>⟨hp,h⟩
 | k::l,p,h,hp=>by
  rw [lA]
  split
  ·rename_i hk
   exact H8 hs (pV h hk) (hs p k h hk hp)
  ·exact H8 hs h hp
end Go.Ab
set_option linter.unusedVariables false
set_option linter.unusedSimpArgs false
namespace Go.Ab
theorem aal (n w:Int):cG n w=some (decide (0≤n∧n<w)):=by
 unfold cG
 by_cases h0:0≤n
 ·rw [leT h0,cond_true]
  by_cases h1:n<w
  ·rw [ltT h1,decide_eq_true ⟨h0,h1⟩]
  ·rw [ltF (by omega),decide_eq_false (by omega)]
 ·rw [leF (by omega),cond_false,decide_eq_false (by omega)]
theorem Y2 (k:PK) (w s:Int):ij k w s=some (BY k w s):=by
 unfold ij BY
 simp only [aal,ab,nh]
 by_cases h0:k.1=0
 ·by_cases hb:0≤k.2.1∧k.2.1<w
  ·simp [h0,hb]
  ·simp [h0,hb]
 ·by_cases h1:k.1=1
  ·by_cases hb:0≤k.2.1∧k.2.1<s
   ·simp [h1,hb]
   ·simp [h1,hb]
  ·by_cases h2:k.1=2
   ·simp [h2]
   ·simp [h0,h1,h2]
theorem wW {α:Type}:∀ {l:List α} {i:Nat} {x:α},l[i]? = some x→l.set i x=l
 | [],_,_,h=>by cases h
 | a::l,0,x,h=>by cases h;rfl
 | a::l,i+1,x,h=>by rw [List.set_cons_succ,wW (l:=l) (by simpa using h)]
theorem aln {i n:Nat} (h:i<n):decide ((0:Int)≤(i:Int)∧(i:Int).toNat<n)=true:=decide_eq_true ⟨by omega,by omega⟩
theorem Qp (k:Nat) (hk:1000≤k) {t:Tyt} (ht:FwT t):dy k t=some t:=by
 have hl:=ht.len
 unfold dy
 rw [bM (by omega),ab]
 have key:∀ (r:Tyt) (q n:Nat),t.drop q=r→q≤t.length→r.length<n→di k t n t (t.length:Int) (q:Int) t=some t:=by
  intro r
  induction r with
  | nil=>
   intro q n hr hq hn
   obtain ⟨n,rfl⟩:=ib hn
   have:=cV hr
   rw [di,ltF (by omega),cond_false,decide_eq_true (Nat.le_refl _),cr,List.take_length]
  | cons v r ih=>
   intro q n hr hq hn
   obtain ⟨n,rfl⟩:=ib hn
   obtain ⟨h0,h1,h2,_,h4⟩:=b8 hr
   have hv:=ht.kids v (List.mem_of_getElem? h1)
   rw [di,ltN h0,cond_true,aln h0,cond_true,Int.toNat_natCast,h1,ab,bM (by omega),ab,cond_true,ab,gH (by omega),wW h1]
   exact ih (q+1) n h2 (by omega) (by simp only [List.length_cons] at hn;omega)
 have:=key t 0 (k+1) rfl (Nat.zero_le _) (by omega)
 simpa using this
theorem amY (k n:Nat) {t:Tyt} {l:List Int} (hl:l.length≤1000) (hn:l.length<n):cf k n l (l.length:Int) t 0=some (Na (fun r => !decide (0≤r∧r<(t.length:Int))) l 0):=by
 refine OV (F:=fun n i=>cf k n l (l.length:Int) t i) (l:=l) _ ?_ ?_ n hn
 ·intro n
  simp only [cf,Co,cond_false]
 ·intro n i x hi hx
  simp only [cf,ltN hi,cond_true,fG hx,ab]
  rw [gH (by omega)]
  by_cases h0:x<0
  ·rw [ltT h0,cond_true,decide_eq_false (by omega)]
   rfl
  ·rw [ltF (by omega),cond_false]
   by_cases h1:(t.length:Int)≤x
   ·rw [leT h1,cond_true,decide_eq_false (by omega)]
    rfl
   ·rw [leF (by omega),cond_false,decide_eq_true (by omega)]
    rfl
theorem ab4 (k n:Nat) (hk:1000≤k) {t:Tyt} {S:List SB} (hS:S.length≤1000) (hr:∀ x ∈ S,x.2.1.length≤1000) (hn:S.length<n):bN k n S (S.length:Int) t 0=some (Na (fun x => !uo t x) S 0):=by
 refine OV (F:=fun n i=>bN k n S (S.length:Int) t i) (l:=S) _ ?_ ?_ n hn
 ·intro n
  simp only [bN,Co,cond_false]
 ·intro n i x hi hx
  have hx':=hr x (List.mem_of_getElem? hx)
  have ho:=amY k (k+29) (t:=t) hx' (by omega)
  simp only [bN,ltN hi,cond_true,fG hx,ab,ho,Be]
  rw [gH (by omega)]
  have e:uo t x=(decide (0≤x.1∧x.1<6) && !(x.2.1.any fun r => !decide (0≤r∧r<(t.length:Int)))&&(decide (x.1=0)||decide (x.2.1≠[]))):=by
   unfold uo
   rw [List.all_eq_not_any_not]
  rw [e,Hm,nh]
  by_cases h0:x.1<0
  ·rw [ltT h0,cond_true,decide_eq_false (show ¬ (0≤x.1∧x.1<6) by omega)]
   rfl
  ·rw [ltF (by omega),cond_false]
   by_cases h6:6≤x.1
   ·rw [leT h6,cond_true,decide_eq_false (show ¬ (0≤x.1∧x.1<6) by omega)]
    rfl
   ·rw [leF (by omega),cond_false,decide_eq_true (show 0≤x.1∧x.1<6 by omega)]
    cases (x.2.1.any fun r => !decide (0≤r∧r<(t.length:Int))) with
    | true=>rfl
    | false=>
     rw [cond_false]
     by_cases hz:x.1=0
     ·rw [decide_eq_true hz]
      rfl
     ·rw [decide_eq_false hz,Bool.not_false,cond_true]
      by_cases hn:x.2.1=[]
      ·rw [hn]
       rfl
      ·have hl:¬ ((x.2.1.length:Int)=0):=by
        intro h
        exact hn (List.length_eq_zero_iff.1 (by omega))
       rw [decide_eq_false hl,decide_eq_true hn]
       rfl
section
variable {k:Nat} (hk:9223372036854779000≤k) {p:PB} (ht:Wt p.2.1) (hw:∀ x ∈ p.2.2.2.1,x.2.1.length≤9000) (hs:∀ x ∈ p.2.2.2.2,x.2.1.length≤1000)
include hk ht hw hs
theorem VO:eF k p=some (iM p):=by
 unfold eF iM
 simp only [Prod.eta,gL,ab]
 cases hm:da p.1 with
 | false=>rfl
 | true=>
  have hc:=aA hm
  rw [Bool.not_true,cond_false,Bool.true_and,Hm]
  by_cases h1:(p.2.2.2.1.length:Int)=p.1.1
  ·rw [decide_eq_true h1,Bool.not_true,cond_false]
   by_cases h3:(3:Int)<p.2.2.2.2.length
   ·rw [ltT h3,cond_true,decide_eq_false (by omega)]
    rfl
   ·rw [ltF (by omega),cond_false,decide_eq_true ⟨h1,by omega⟩,Bool.true_and]
    have key:∀ (r:List WB) (q n:Nat),p.2.2.2.1.drop q=r→q≤p.2.2.2.1.length→r.length<n→er k p n (q:Int)=some (G1 p.1 p.2.1 p.2.2.1 q r&&p.2.2.2.2.all (uo p.2.1)):=by
     intro r
     induction r with
     | nil=>
      intro q n hr hq hn
      obtain ⟨n,rfl⟩:=ib hn
      have:=cV hr
      rw [er,ltF (by omega),cond_false,ab4 k (k+32) (by omega) (by omega) hs (by omega),ab,Be,G1,Bool.true_and,List.all_eq_not_any_not]
     | cons v r ih=>
      intro q n hr hq hn
      obtain ⟨n,rfl⟩:=ib hn
      obtain ⟨h0,h1',h2,_,h4⟩:=b8 hr
      have hv:=hw v (List.mem_of_getElem? h1')
      rw [er,ltN h0,cond_true,fG h1',ab]
      try simp only [Prod.eta]
      rw [Q0 (by omega) p.1 ht p.2.2.1 (q:Int) v hv,ab,G1,gH (by omega),ih (q+1) n h2 (by omega) (by simp only [List.length_cons] at hn;omega)]
      cases d8 p.1 p.2.1 p.2.2.1 (q:Int) v <;> rfl
    have:=key p.2.2.2.1 0 (k+33) rfl (Nat.zero_le _) (by omega)
    simpa using this
  ·rw [decide_eq_false h1,Bool.not_false,cond_true,decide_eq_false (fun h=>h1 h.1)]
   rfl
end
theorem O8 (k:Nat) (c1 c2 c3 c4:Int) (t:Tyt) (m:List Int) (W:List WB) {S:List SB} (hS:S.length≤1000) (hr:∀ x ∈ S,x.2.1.length≤1000):∀ (r:List SB) (q n:Nat),S.drop q=r→q≤S.length→r.length<n →
  cQ k n c1 c2 c3 c4 t m W S (S.length:Int) W (q:Int) S=some (c1,c2,c3,c4,t,m,W,S,W,S):=by
 intro r
 induction r with
 | nil=>
  intro q n hr hq hn
  obtain ⟨n,rfl⟩:=ib hn
  have:=cV hr
  rw [cQ,ltF (by omega),cond_false]
 | cons v r ih=>
  intro q n hr' hq hn
  obtain ⟨n,rfl⟩:=ib hn
  obtain ⟨h0,h1,h2,_,h4⟩:=b8 hr'
  have hv:=hr v (List.mem_of_getElem? h1)
  rw [cQ,ltN h0,cond_true,aln h0,cond_true,Int.toNat_natCast,h1,ab,bM (by omega),ab,cond_true,ab,gH (by omega)]
  try simp only [Prod.eta]
  rw [wW h1]
  exact ih (q+1) n h2 (by omega) (by simp only [List.length_cons] at hn;omega)
theorem UE (k:Nat) (hk:1000≤k) (c1 c2 c3 c4:Int) (t:Tyt) (m:List Int) {W:List WB} {S:List SB} (hW:W.length≤1000) (hw:∀ x ∈ W,x.2.1.length≤9000) (hS:S.length≤1000) (hs:∀ x ∈ S,x.2.1.length≤1000):∀ (r:List WB) (q n:Nat),W.drop q=r→q≤W.length→r.length<n →
  bO k n c1 c2 c3 c4 t m W S (W.length:Int) (q:Int) W=some (c1,c2,c3,c4,t,m,W,S,W,S):=by
 intro r
 induction r with
 | nil=>
  intro q n hr hq hn
  obtain ⟨n,rfl⟩:=ib hn
  have:=cV hr
  rw [bO,ltF (by omega),cond_false]
  exact O8 k c1 c2 c3 c4 t m W hS hs S 0 (k+61) rfl (Nat.zero_le _) (by omega)
 | cons v r ih=>
  intro q n hr' hq hn
  obtain ⟨n,rfl⟩:=ib hn
  obtain ⟨h0,h1,h2,_,h4⟩:=b8 hr'
  have hv:=hw v (List.mem_of_getElem? h1)
  rw [bO,ltN h0,cond_true,aln h0,cond_true,Int.toNat_natCast,h1,ab,bM (by omega),ab,cond_true,ab,gH (by omega)]
  try simp only [Prod.eta]
  rw [wW h1]
  exact ih (q+1) n h2 (by omega) (by simp only [List.length_cons] at hn;omega)
def Wp (l:List PK):Prop:=∀ x ∈ l,0≤x.2.2∧x.2.2≤18446744073709551615
section
variable {k:Nat} (hk:9223372036854779000≤k) {p0:PB} {l:List PK} (hl:l.length≤1000) (hd:Wp l)
include hk hl hd
theorem Ua:∀ (r:List PK) (q n N:Nat) (p:PB) (W0:List WB) (S0:List SB) (evs:List EV) (e:Nat),l.drop q=r→q≤l.length→r.length<n→(e=3∨e=0)→p.1=p0.1→p.2.2.2.2.length=p0.2.2.2.2.length→W0.length=p.2.2.2.1.length→S0.length=p.2.2.2.2.length→Good N p→iM p=true→N+r.length≤9000→evs.length+2*r.length≤4000 →
  bE k p0 l n p.1.1 p.1.2.1 p.1.2.2.1 p.1.2.2.2 p.2.1 W0 S0 p.2.2.2.1 p.2.2.2.2 evs (q:Int) p.2.2.1 e=some ((lA p r).1,evs++(lA p r).2):=by
 intro r
 induction r with
 | nil=>
  intro q n N p W0 S0 evs e hr hq hn he hc hS hW0 hS0 hg hm hN hE
  obtain ⟨n,rfl⟩:=ib hn
  have:=cV hr
  rw [bE,ltF (by omega),cond_false,decide_eq_true (by omega),cr,decide_eq_true (by omega),cr,hW0,hS0,List.take_length,List.take_length,lA,List.append_nil]
 | cons v r ih=>
  intro q n N p W0 S0 evs e hr hq hn he hc hS hW0 hS0 hg hm hN hE
  obtain ⟨n,rfl⟩:=ib hn
  obtain ⟨h0,h1,h2,_,h4⟩:=b8 hr
  have hv:=hd v (List.mem_of_getElem? h1)
  obtain ⟨m1,m2,m3,m4,m5⟩:=nW hm
  have hcc:=aA m1
  simp only [List.length_cons] at hn hN hE
  have hml:p.2.2.1.length≤1000:=by
   have hW1:0<p.2.2.2.1.length:=by omega
   have:=(HV (m4 0 _ (List.getElem?_eq_getElem hW1))).2.1
   have:=rj m1
   omega
  have hes:(e==3||e==0)=true:=by rcases he with rfl | rfl <;> rfl
  have next:∀ (evs':List EV) (p':PB),p'.1=p.1→p'.2.1=p.2.1→p'.2.2.2.1.length=p.2.2.2.1.length→p'.2.2.2.2.length=p.2.2.2.2.length→Good (N+1) p'→iM p'=true→evs'.length≤evs.length+2→∀ e',(e'=3∨e'=0) →
    bE k p0 l n p.1.1 p.1.2.1 p.1.2.2.1 p.1.2.2.2 p.2.1 W0 S0 p'.2.2.2.1 p'.2.2.2.2 evs' ((q+1:Nat):Int) p'.2.2.1 e'=some ((lA p' r).1,evs'++(lA p' r).2):=fun evs' p' g1 g2 g3 g4 g5 g6 g7 e' he'=>by
   have:=ih (q+1) n (N+1) p' W0 S0 evs' e' h2 (by omega) (by omega) he' (by rw [g1,hc]) (by omega) (by omega) (by omega) g5 g6 (by omega) (by omega)
   rw [g1,g2] at this
   exact this
  have hw:IntKind.i64.wrap ((q:Int)+1)=((q+1:Nat):Int):=gH (by omega)
  have up:Good (N+1) p:=⟨hg.t,hg.tl,hg.m,fun x hx=>⟨(hg.w x hx).f,Nat.le_succ_of_le (hg.w x hx).s,(hg.w x hx).sp⟩,hg.s⟩
  rw [bE,ltN h0,cond_true,fG h1,ab]
  simp only [Prod.eta,hw]
  rw [Y2,ab,lA,← hc,← hS]
  cases hf:BY v p.1.1 p.2.2.2.2.length with
  | false=>
   rw [cond_false,if_neg (by simp)]
   exact next evs p rfl rfl rfl rfl up hm (by omega) e he
  | true=>
   have st:=A4 (p:=p) (k:=v)
   have sg:=ru (k:=v) hg m1
   have sm:=pV hm hf
   have se:=KH (p:=p) (k:=v)
   have nx:=fun e' he'=>next (evs++(eM p v).2) (eM p v).1 st.1 st.2.1 st.2.2.1 st.2.2.2 sg sm (by rw [List.length_append];omega) e' he'
   have hroom:room (evs++(eM p v).2).length 24=true:=Gl (by rw [List.length_append];omega)
   have hroom0:room evs.length 24=true:=Gl (by omega)
   rw [cond_true,if_pos rfl]
   simp only [← List.append_assoc]
   have hfit:=hf
   unfold BY at hfit
   rw [decide_eq_true_eq] at hfit
   by_cases k0:v.1=0
   ·have hb:0≤v.2.1∧v.2.1<p.1.1:=by omega
    have hi:v.2.1.toNat<p.2.2.2.1.length:=by omega
    have hx:=List.getElem?_eq_getElem hi
    have hdec:decide (0≤v.2.1∧v.2.1.toNat<W0.length)=true:=decide_eq_true ⟨hb.1,by omega⟩
    generalize p.2.2.2.1[v.2.1.toNat]=x at hx
    have hxo:=hg.w x (List.mem_of_getElem? hx)
    have es:eM p v=((p.1,p.2.1,(a9 p.1 p.2.1 p.2.2.1 v.2.1 x v.2.2).1,p.2.2.2.1.set v.2.1.toNat (a9 p.1 p.2.1 p.2.2.1 v.2.1 x v.2.2).2.1,p.2.2.2.2),(a9 p.1 p.2.1 p.2.2.1 v.2.1 x v.2.2).2.2):=by
     unfold eM
     rw [if_pos k0,hx]
    rw [nh,decide_eq_true k0,cond_true,hdec,cond_true,hx,ab]
    try simp only [Prod.eta]
    rw [Tp (by omega) p.1 hg.t.wt hg.m hml v.2.1 hxo.f (by have:=hxo.s;omega) (by have:=hxo.sp;omega) hv,ab,cond_true,ab,hes,cr]
    rw [es] at nx hroom ⊢
    rw [hroom,cond_true]
    exact nx 3 (.inl rfl)
   ·rw [nh,decide_eq_false k0,cond_false]
    by_cases k1:v.1=1
    ·have hb:0≤v.2.1∧v.2.1<(p.2.2.2.2.length:Int):=by omega
     have hi:v.2.1.toNat<p.2.2.2.2.length:=by omega
     have hx:=List.getElem?_eq_getElem hi
     have hdec:decide (0≤v.2.1∧v.2.1.toNat<S0.length)=true:=decide_eq_true ⟨hb.1,by omega⟩
     generalize p.2.2.2.2[v.2.1.toNat]=x at hx
     have hxo:=hg.s x (List.mem_of_getElem? hx)
     rw [nh,decide_eq_true k1,cond_true,hdec,cond_true,hx,ab]
     try simp only [Prod.eta]
     rw [Ws (by omega) p.1 hg.t.wt,ab]
     cases hsm:wy p.1 p.2.1 p.2.2.1 x with
     | false=>
      have es:eM p v=(p,[]):=by
       unfold eM
       rw [if_neg k0,if_pos k1,hx]
       dsimp only
       rw [hsm,if_neg (by simp)]
      rw [es] at nx ⊢
      rw [cond_false,hes,cr,hroom0,cond_true]
      have:=nx 3 (.inl rfl)
      rw [List.append_nil] at this ⊢
      exact this
     | true=>
      have es:eM p v=((p.1,p.2.1,(fL p.1 p.2.1 p.2.2.1 v.2.1 x).1,p.2.2.2.1,p.2.2.2.2.set v.2.1.toNat (fL p.1 p.2.1 p.2.2.1 v.2.1 x).2.1),(fL p.1 p.2.1 p.2.2.1 v.2.1 x).2.2):=by
       unfold eM
       rw [if_neg k0,if_pos k1,hx]
       dsimp only
       rw [hsm,if_pos rfl]
      rw [cond_true,cond_true,ab]
      rw [aa1 (by omega) p.1 hg.t.wt hg.m hml v.2.1 hxo.f hxo.s hg.tl,ab,cond_true,ab,hes,cr]
      rw [es] at nx hroom ⊢
      rw [hroom,cond_true]
      exact nx 3 (.inl rfl)
    ·rw [nh,decide_eq_false k1,cond_false]
     by_cases k2:v.1=2
     ·have es:eM p v=((p.1,p.2.1,ao p.2.2.1 3 1,p.2.2.2.1,p.2.2.2.2),[]):=by
       unfold eM
       rw [if_neg k0,if_neg k1,if_pos k2]
      rw [nh,decide_eq_true k2,cond_true,kX hml,ab,hes,cr,hroom0,cond_true]
      rw [es] at nx ⊢
      have:=nx 3 (.inl rfl)
      rw [List.append_nil] at this ⊢
      exact this
     ·have es:eM p v=(p,[]):=by
       unfold eM
       rw [if_neg k0,if_neg k1,if_neg k2]
      rw [nh,decide_eq_false k2,cond_false,hes,cr,hroom0,cond_true]
      rw [es] at nx ⊢
      have:=nx 3 (.inl rfl)
      rw [List.append_nil] at this ⊢
      exact this
theorem amF {N:Nat} (hg:Good N p0) (hW:p0.2.2.2.1.length≤20) (hS:p0.2.2.2.2.length≤20) (hml:p0.2.2.1.length≤1000) (hN:N+l.length≤9000):mq k p0 l=some (ahU p0 l):=by
 have hw:∀ x ∈ p0.2.2.2.1,x.2.1.length≤9000:=fun x hx=>by have:=(hg.w x hx).s;omega
 have hs:∀ x ∈ p0.2.2.2.2,x.2.1.length≤1000:=fun x hx=>(hg.s x hx).s
 unfold mq ahU
 try simp only [Prod.eta]
 rw [Qp _ (by omega) hg.t,ab,bM (by omega),ab,bM (by omega),ab,bM (by omega),ab]
 have ho:=UE k (by omega) p0.1.1 p0.1.2.1 p0.1.2.2.1 p0.1.2.2.2 p0.2.1 p0.2.2.1 (by omega) hw (by omega) hs p0.2.2.2.1 0 (k+61) rfl (Nat.zero_le _) (by omega)
 refine (congrArg (fun z=>ob z _) ho).trans ?_
 rw [ab]
 dsimp only
 rw [decide_eq_true (Nat.le_refl _),cr,decide_eq_true (Nat.le_refl _),cr,VO (by omega) hg.t.wt hw hs,ab,List.take_length,List.take_length,decide_eq_true (Nat.le_refl _),decide_eq_true (Nat.le_refl _)]
 cases hm:iM p0 with
 | false=>
  rw [Bool.not_false,cond_true,cr,cr,if_neg (by simp),List.take_length,List.take_length]
 | true=>
  rw [Bool.not_true,cond_false,if_pos rfl]
  exact Ua hk hl hd l 0 (k+62) N p0 p0.2.2.2.1 p0.2.2.2.2 [] 0 rfl (Nat.zero_le _) (by omega) (.inr rfl) rfl rfl rfl rfl hg hm hN (by simp;omega)
end
end Go.Ab
set_option linter.unusedVariables false
set_option linter.unusedSimpArgs false
namespace Go.Ab
theorem NX (n:Nat) (i:Int):ah (List.replicate n 0) i=0:=by
 unfold ah
 split
 ·rw [List.getElem?_replicate]
  split <;> rfl
 ·rfl
theorem amW {k:Nat} (hk:1000≤k) (c:CF):mb k c=some (List.replicate (bG c).toNat 0):=by
 have hs:0≤bG c∧bG c≤190:=by
  unfold bG
  split
  ·rename_i h
   have hm:=aA h
   have:=dG h (w:=c.1) (by omega) (by omega)
   omega
  ·omega
 have key:∀ (d i n t:Nat),(t=0∨t=1)→i+d=(bG c).toNat→d<n→eQ k c n (bG c) (List.replicate i 0) (i:Int) t=some (List.replicate (bG c).toNat 0):=by
  intro d
  induction d with
  | zero=>
   intro i n t ht hi hn
   obtain ⟨n,rfl⟩:=ib hn
   rw [eQ,ltF (by omega),cond_false]
   rw [show i=(bG c).toNat by omega]
  | succ d ih=>
   intro i n t ht hi hn
   obtain ⟨n,rfl⟩:=ib hn
   have h1:(t==1||t==0)=true:=by rcases ht with rfl | rfl <;> rfl
   rw [eQ,ltT (by omega),cond_true,h1,cr,Gl (by simp;omega),cond_true,gH (by omega)]
   have:=ih (i+1) n 1 (.inr rfl) (by omega) (by omega)
   rw [List.replicate_succ'] at this
   exact this
 unfold mb
 simp only [Prod.eta,Cp,ab]
 exact key (bG c).toNat 0 (k+3) 0 (.inl rfl) (by omega) (by omega)
theorem aft {l:List Int} (h:l.length≤1000):iD l=some (0,l,dd):=by
 unfold iD
 rw [bM (by omega),ab]
 rfl
theorem JO {α:Type} (p:α→Bool):∀ (l:List α) (i:Nat),Na p l i = -1∨∃ (j:Nat) (x:α),Na p l i=((i+j:Nat):Int)∧l[j]? = some x∧p x=true
 | [],_ => .inl rfl
 | x::r,i=>by
  rw [Na]
  by_cases h:p x=true
  ·rw [if_pos h]
   exact .inr ⟨0,x,rfl,rfl,h⟩
  ·rw [if_neg h]
   rcases JO p r (i+1) with e | ⟨j,y,e,h1,h2⟩
   ·exact .inl e
   ·refine .inr ⟨j+1,y,?_,h1,h2⟩
    rw [e]
    congr 1
    omega
theorem W4 (k:Nat) {l:List Int} (hl:l.length≤1000) (hk:1001≤k) (v:Int):dC k l v=some (Na (fun y=>v==y) l 0):=by
 unfold dC
 refine OV (F:=fun n i=>bw k l v n i) (l:=l) _ ?_ ?_ k (by omega)
 ·intro n
  simp only [bw,Co,cond_false]
 ·intro n i y hi hy
  simp only [bw,ltN hi,cond_true,fG hy,ab]
  rw [gH (by omega)]
def RtB (t:Tyt) (y:Int):Prop:=(0≤y∧y<(t.length:Int))∧gw t y = -1
section
variable (k:Nat) (hk:9223372036854775808≤k)
include hk
theorem OJ (t:Tyt) (ht:Wt t) (q:Int):fe k t q=some (gw t q):=by
 have hlen:=ht.len
 rw [fe,IP k hk t ht,ab]
 unfold gw
 cases hm:oF t with
 | false=>rfl
 | true=>
  rw [cond_true,if_pos rfl]
  have inner:∀ (x:Int×List Int) (hx:x ∈ t) (i:Nat) (hi:i<t.length) (o:Int→Option Int) (R:List (Int×Int)) (z:Int)
    (ho:o ((i+1:Nat):Int)=some (if (EC (iW q) R z).1 then -1 else (EC (iW q) R z).2)),
    ∀ r j n,x.2.drop j=r→r.length<n →
     bV k t q o n x.2 (x.2.length:Int) (j:Int) (i:Int)=some (if (EC (iW q) (r.map (fun p=>(p,(i:Int)))++R) z).1 then -1 else (EC (iW q) (r.map (fun p=>(p,(i:Int)))++R) z).2):=by
   intro x hx i hi o R z ho r
   have hxl:=ht.kids x hx
   induction r with
   | nil=>
    intro j n hr hn
    obtain ⟨n,rfl⟩:=ib hn
    have hj:=cV hr
    rw [bV,ltF (by omega),cond_false,gH (by omega),ho]
    rfl
   | cons p r ih=>
    intro j n hr hn
    obtain ⟨n,rfl⟩:=ib hn
    obtain ⟨a,b,c,d,e⟩:=b8 hr
    rw [bV,ltN a,cond_true,fG b,ab,List.map_cons,List.cons_append,EC,nh]
    by_cases h1:p=q
    ·simp [h1,iW]
    ·rw [decide_eq_false h1,cond_false,gH (by omega),ih (j+1) n c (by simp only [List.length_cons] at hn;omega)]
     simp [iW,h1]
     -- the number handed on is not changed
  have outer:∀ r i n (z:Int),t.drop i=r→i≤t.length→r.length<n→bl k t q n (i:Int)=some (if (EC (iW q) (fB i r) z).1 then -1 else (EC (iW q) (fB i r) z).2):=by
   intro r
   induction r with
   | nil=>
    intro i n z hr hi hn
    obtain ⟨n,rfl⟩:=ib hn
    have:=cV hr
    rw [bl,ltF (by omega),cond_false]
    rfl
   | cons x r ih=>
    intro i n z hr hi hn
    obtain ⟨n,rfl⟩:=ib hn
    obtain ⟨a,b,c,d,e⟩:=b8 hr
    have hxl:=ht.kids x d
    rw [bl,ltN a,cond_true,fG b,ab,fB]
    have:=inner x d i a (fun s=>bl k t q n s) (fB (i+1) r) z (ih (i+1) n z c (by omega) (by simp only [List.length_cons] at hn;omega)) x.2 0 (k+18) rfl (by omega)
    simpa using this
  have:=outer t 0 (k+18) 0 rfl (Nat.zero_le _) (by omega)
  simpa using this
end
theorem ZR {k:Nat} (hk:9223372036854775808≤k) {t:Tyt} (ht:FwT t):∀ (d i n g e:Nat) (L:List Int),i+d=t.length→d<n→L.length≤i→(e=0∨e=1)→(L≠[]→e=1)→(∀ r ∈ L,RtB t r)→L.Nodup∧(∀ r ∈ L,r<(i:Int)) →
  ∃ g' L' e',bD k n t (t.length:Int) g L (i:Int) e=some (g',L',e')∧L'.length≤t.length∧(L'≠[]→e'=1)∧(∀ r ∈ L',RtB t r)∧L'.Nodup:=by
 have hlen:=ht.len
 intro d
 induction d with
 | zero=>
  intro i n g e L hi hn hL he hne hr hd
  obtain ⟨n,rfl⟩:=ib hn
  rw [bD,ltF (by omega),cond_false]
  exact ⟨g,L,e,rfl,by omega,hne,hr,hd.1⟩
 | succ d ih=>
  intro i n g e L hi hn hL he hne hr hd
  obtain ⟨n,rfl⟩:=ib hn
  rw [bD,ltT (by omega),cond_true,OJ k hk t ht.wt,ab,gH (by omega)]
  cases hz:gw t (i:Int) == -1 with
  | true=>
   have he1:(e==1||e==0)=true:=by rcases he with rfl | rfl <;> rfl
   rw [cond_true,he1,cr,Gl (by simp;omega),cond_true]
   refine ih (i+1) n (g+1) 1 (L++[(i:Int)]) (by omega) (by omega) (by simp;omega) (.inr rfl) (fun _=>rfl) (fun r hr' => ?_) ⟨?_,fun r hr' => ?_⟩
   ·rcases List.mem_append.1 hr' with h | h
    ·exact hr r h
    ·rw [List.mem_singleton.1 h]
     exact ⟨by omega,by simpa using hz⟩
   ·refine List.nodup_append.2 ⟨hd.1,by simp,fun a ha b hb => ?_⟩
    have:=hd.2 a ha
    rw [List.mem_singleton.1 hb]
    omega
   ·rcases List.mem_append.1 hr' with h | h
    ·have:=hd.2 r h
     omega
    ·rw [List.mem_singleton.1 h];omega
  | false=>
   rw [cond_false]
   exact ih (i+1) n g e L (by omega) (by omega) (by omega) he hne hr ⟨hd.1,fun r h=>by have:=hd.2 r h;omega⟩
def FT (w:Nat):WB:=(0,[],wA 1 (w:Int) 0,0,0)
def mr (n:Nat):List WB:=(List.range n).map FT
def gM (roots:List (List Int)):List SB:=roots.map fun l=>(0,l,dd)
def BO (c:CF) (t:Tyt) (roots:List (List Int)):PB:=(c,t,List.replicate (bG c).toNat 0,mr c.1.toNat,gM roots)
def NU:PB:=((0,0,0,0),[],[],[],[])
section
variable {k:Nat} (hk:9223372036854779000≤k) (c:CF) (t:Tyt) (ht:t.length≤40) (roots:List (List Int))
include hk ht
theorem QW (o0:Tyt→List Int→Nat→List WB→Int→List SB→Nat→Nat→List Int→Option (PB×Bool)) (t':Tyt) (m:List Int) (W:List WB) (i0:Int) (S:List SB) (C x:List Int) (hx:x.length≤1000) (hS:S.length≤100) (e:Nat) (he:e=9∨e=0) :
  ∀ (r:List Int) (q n len z:Nat) (L:List Int),x.drop q=r→q≤x.length→r.length<n→len≤L.length→L.length≤40→(0<len→z=1)→(∀ y ∈ L.take len,RtB t y)→(∀ y ∈ x.take q,RtB t y)→(C++(x.take q++L.take len)).Nodup →
  cT k c t roots o0 n x t' m (x.length:Int) z W len (q:Int) L i0 S e=some (NU,false) ∨
  ∃ (len' z':Nat) (L':List Int),len'≤L'.length∧L'.length≤40∧(0<len'→z'=1)∧(∀ y ∈ L'.take len',RtB t y)∧(∀ y ∈ x,RtB t y)∧(C++(x++L'.take len')).Nodup ∧
   cT k c t roots o0 n x t' m (x.length:Int) z W len (q:Int) L i0 S e=o0 t' m z' W (IntKind.i64.wrap (i0+1)) (S++[(0,x,dd)]) 9 len' L':=by
 have _h:=ht
 intro r
 induction r with
 | nil=>
  intro q n len z L hr hq hn hlen hL hz hy hxq hd
  obtain ⟨n,rfl⟩:=ib hn
  have:=cV hr
  have he1:(e==9||e==0)=true:=by rcases he with rfl | rfl <;> rfl
  refine .inr ⟨len,z,L,hlen,hL,hz,hy,?_,?_,?_⟩
  ·rw [List.take_of_length_le (by omega)] at hxq
   exact hxq
  ·rw [List.take_of_length_le (by omega)] at hd
   exact hd
  ·rw [cT,ltF (by omega),cond_false,aft hx,ab,he1,cr]
   rw [Gl (by simp;omega),cond_true]
 | cons v r ih=>
  intro q n len z L hr hq hn hlen hL hz hy hxq hd
  obtain ⟨n,rfl⟩:=ib hn
  obtain ⟨h0,h1,h2,_,h4⟩:=b8 hr
  simp only [List.length_cons] at hn
  rw [cT,ltN h0,cond_true,fG h1,ab,decide_eq_true hlen,cr,W4 (k+20) (by rw [List.length_take];omega) (by omega) v,ab]
  rcases JO (fun y=>v==y) (L.take len) 0 with e1 | ⟨j,y,e1,hj,hvy⟩
  ·rw [e1]
   exact .inl rfl
  ·have hvy':v=y:=by simpa using hvy
   have hjl:j<len:=by
    have:=(List.getElem?_eq_some_iff.1 hj).1
    rw [List.length_take] at this
    omega
   have hyr:=hy y (List.mem_of_getElem? hj)
   rw [e1,Nat.zero_add,ltF (by omega),cond_false,hz (by omega),show ((1:Nat)==1)=true from rfl,cr,gH (by omega),Int.toNat_natCast,Int.toNat_natCast,decide_eq_true (show len≤L.length∧(0:Int)≤(j:Int)∧(j:Int)<((j+1:Nat):Int)∧j+1≤len∧len≤9223372036854775807 by omega),cr,gH (by omega),show len - (j+1 - j)=len - 1 by omega]
   have hc1:(G9 (L.take len) j (j+1)).length=len:=by
    rw [K0 (by omega) (by rw [List.length_take];omega),List.length_take]
    omega
   have hc2:(G9 (L.take len) j (j+1)++L.drop len).length=L.length:=by
    rw [List.length_append,hc1,List.length_drop]
    omega
   refine ih (q+1) n (len - 1) 1 _ h2 (by omega) (by omega) (by rw [hc2];omega) (by rw [hc2];exact hL) (fun _=>rfl) ?_ ?_ ?_
   ·intro y' hy'
    rw [List.take_append_of_le_length (by rw [hc1];omega)] at hy'
    unfold G9 at hy'
    rw [List.take_append_of_le_length (by simp;omega)] at hy'
    rcases List.mem_append.1 (List.mem_of_mem_take hy') with h | h
    ·exact hy y' (List.mem_of_mem_take h)
    ·exact hy y' (List.mem_of_mem_drop h)
   ·intro y' hy'
    rw [List.take_add_one,h1] at hy'
    rcases List.mem_append.1 hy' with h | h
    ·exact hxq y' h
    ·rw [show y'=v by simpa using h,hvy']
     exact hyr
   ·have hsp:L.take len=(L.take len).take j++y::(L.take len).drop (j+1):=by
     have:=List.take_append_drop j (L.take len)
     rw [List.drop_eq_getElem_cons (by rw [List.length_take];omega)] at this
     have hg : (L.take len)[j]'(by rw [List.length_take]; omega) = y := by
      have:=List.getElem?_eq_getElem (l:=L.take len) (i:=j) (by rw [List.length_take];omega)
      rw [hj] at this
      exact (Option.some.inj this).symm
     rw [hg] at this
     exact this.symm
    have ht1:(G9 (L.take len) j (j+1)++L.drop len).take (len - 1)=(L.take len).take j++(L.take len).drop (j+1):=by
     rw [List.take_append_of_le_length (by rw [hc1];omega)]
     unfold G9
     rw [List.take_append_of_le_length (by simp;omega),List.take_of_length_le (by simp;omega)]
    rw [ht1,List.take_add_one,h1]
    rw [hsp] at hd
    refine (List.Perm.nodup_iff ?_).1 hd
    refine List.Perm.append_left C ?_
    rw [List.append_assoc]
    refine List.Perm.append_left _ ?_
    rw [hvy']
    exact List.perm_middle
theorem Qa (hR:roots.length≤3) (hr:∀ l ∈ roots,l.length≤1000) (W:List WB):∀ (r:List (List Int)) (q n len z e:Nat) (L:List Int) (t':Tyt) (m:List Int),roots.drop q=r→q≤roots.length→r.length<n→len≤L.length→L.length≤40→(0<len→z=1)→(e=9∨e=0)→(∀ y ∈ L.take len,RtB t y)→(∀ l ∈ roots.take q,∀ y ∈ l,RtB t y)→((roots.take q).flatten++L.take len).Nodup →
  bY k c t roots n t' m z W (q:Int) (gM (roots.take q)) e len L=some (NU,false) ∨
  bY k c t roots n t' m z W (q:Int) (gM (roots.take q)) e len L=some ((c,t',m,W,gM roots),true)∧(∀ l ∈ roots,∀ y ∈ l,RtB t y)∧roots.flatten.Nodup:=by
 intro r
 induction r with
 | nil=>
  intro q n len z e L t' m hq' hq hn hlen hL hz he hy hxq hd
  obtain ⟨n,rfl⟩:=ib hn
  have:=cV hq'
  rw [List.take_of_length_le (by omega)] at hxq hd ⊢
  rw [bY,ltF (by omega),cond_false]
  exact .inr ⟨rfl,hxq,(List.nodup_append.1 hd).1⟩
 | cons v r ih=>
  intro q n len z e L t' m hq' hq hn hlen hL hz he hy hxq hd
  obtain ⟨n,rfl⟩:=ib hn
  obtain ⟨h0,h1,h2,_,h4⟩:=b8 hq'
  simp only [List.length_cons] at hn
  have hv:=hr v (List.mem_of_getElem? h1)
  have hSl:(gM (roots.take q)).length≤100:=by unfold gM;rw [List.length_map,List.length_take];omega
  rw [bY,ltN h0,cond_true,fG h1,ab]
  rcases QW hk c t ht roots (fun s62 s63 s64 s77 s113 s115 s116 s135 s138=>bY k c t roots n s62 s63 s64 s77 s113 s115 s116 s135 s138) t' m W (q:Int) (gM (roots.take q)) (roots.take q).flatten v hv hSl e he v 0 (k+21) len z L rfl (Nat.zero_le _) (by omega) hlen hL hz hy (by simp) (by simpa using hd) with h | ⟨len',z',L',g1,g2,g3,g4,g5,gd,g6⟩
  ·exact .inl h
  ·have hs:gM (roots.take q)++[(0,v,dd)]=gM (roots.take (q+1)):=by
    unfold gM
    rw [List.take_add_one,h1,List.map_append]
    rfl
   rw [hs,gH (by omega)] at g6
   have:=ih (q+1) n len' z' 9 L' t' m h2 (by omega) (by omega) g1 g2 g3 (.inl rfl) g4 (fun l hl=>by
    rw [List.take_add_one,h1] at hl
    rcases List.mem_append.1 hl with h | h
    ·exact hxq l h
    ·rw [show l=v by simpa using h]
     exact g5) (by
    rw [List.take_add_one,h1,List.flatten_append]
    simpa [List.append_assoc] using gd)
   have g6':cT k c t roots (fun s62 s63 s64 s77 s113 s115 s116 s135 s138=>bY k c t roots n s62 s63 s64 s77 s113 s115 s116 s135 s138) (k+21) v t' m (v.length:Int) z W len 0 L (q:Int) (gM (roots.take q)) e=_:=g6
   rw [g6']
   exact this
theorem T2 (hR:roots.length≤3) (hr:∀ l ∈ roots,l.length≤1000) (hc:0≤c.1∧c.1≤8) (t':Tyt) (m L:List Int) (z:Nat) (hL:L.length≤40) (hz:L≠[]→z=1) (hy:∀ y ∈ L,RtB t y) (hd:L.Nodup):∀ (d i n e:Nat),(i:Int)+d=c.1→d<n→(e=11∨e=0) →
  cU k c t roots n t' m L z (i:Int) (mr i) e=some (NU,false) ∨
  cU k c t roots n t' m L z (i:Int) (mr i) e=some ((c,t',m,mr c.1.toNat,gM roots),true)∧(∀ l ∈ roots,∀ y ∈ l,RtB t y)∧roots.flatten.Nodup:=by
 intro d
 induction d with
 | zero=>
  intro i n e hi hn he
  obtain ⟨n,rfl⟩:=ib hn
  rw [cU,ltF (by omega),cond_false,show c.1.toNat=i by omega]
  exact Qa hk c t ht roots hR hr (mr i) roots 0 (k+21) L.length z 0 L t' m rfl (Nat.zero_le _) (by omega) (Nat.le_refl _) hL (fun h=>hz (fun e=>by rw [e] at h;cases h)) (.inr rfl) (by rw [List.take_length];exact hy) (by simp) (by simpa using hd)
 | succ d ih=>
  intro i n e hi hn he
  obtain ⟨n,rfl⟩:=ib hn
  have he1:(e==11||e==0)=true:=by rcases he with rfl | rfl <;> rfl
  rw [cU,ltT (by omega),cond_true,XK,ab,he1,cr]
  rw [Gl (by rw [List.length_append];unfold mr;simp;omega),cond_true,gH (by omega)]
  have hw:mr i++[FT i]=mr (i+1):=by
   unfold mr
   rw [List.range_succ,List.map_append]
   rfl
  have:=ih (i+1) n 11 (by omega) (by omega) (.inl rfl)
  rw [← hw] at this
  exact this
end
theorem aai {k:Nat} (hk:9223372036854779000≤k) (c:CF) {t:Tyt} (ht:FwT t) {roots:List (List Int)} (hr:∀ l ∈ roots,l.length≤1000) :
  kw k c t roots=some (NU,false)∨kw k c t roots=some (BO c t roots,true)∧da c=true∧oF t=true∧roots.length≤3∧(∀ l ∈ roots,∀ y ∈ l,RtB t y)∧roots.flatten.Nodup:=by
 unfold kw
 try simp only [Prod.eta]
 rw [gL,ab]
 cases hm:da c with
 | false=>exact .inl rfl
 | true=>
  have hc:=aA hm
  rw [Bool.not_true,cond_false,IP _ (by omega) t ht.wt,ab]
  cases ht2:oF t with
  | false=>exact .inl rfl
  | true=>
   rw [Bool.not_true,cond_false]
   by_cases h3:(3:Int)<roots.length
   ·rw [ltT h3]
    exact .inl rfl
   ·obtain ⟨g',L',e',h1,h2,h4,h5,h6⟩:=ZR (k:=k) (by omega) ht t.length 0 (k+20) 0 0 [] (by omega) (by have:=ht.len;omega) (Nat.zero_le _) (.inl rfl) (fun h=>absurd rfl h) (by simp) ⟨List.nodup_nil,by simp⟩
    rw [ltF (by omega),cond_false,IP _ (by omega) t ht.wt,ab,ht2,Bool.not_true,cond_false]
    refine (show _∨_ from ?_)
    have h1':bD k (k+20) t (t.length:Int) 0 [] 0 0=some (g',L',e'):=h1
    rw [h1',ab,Qp _ (by omega) ht,ab,amW (by omega),ab]
    have hl:=ht.len
    rcases T2 (k:=k) hk c t ht.len roots (by omega) hr (by omega) t (List.replicate (bG c).toNat 0) L' e' (by omega) h4 h5 h6 c.1.toNat 0 (k+21) 0 (by omega) (by omega) (.inr rfl) with h | ⟨h,h'⟩
    ·exact .inl h
    ·exact .inr ⟨h,rfl,rfl,by omega,h'⟩
end Go.Ab
set_option linter.unusedVariables false
namespace Go.Ab
theorem afH {k:Nat} (hk:9223372036854775808≤k) {l:List (List Int)} (hl:l.length≤9223372036854775807):∃ b,cd k l=some b∧(b=true→l.length≤10∧∀ x ∈ l,x.length≤60):=by
 unfold cd
 have key:∀ (r:List (List Int)) (q n:Nat),l.drop q=r→q≤l.length→r.length<n→(∀ x ∈ l.take q,x.length≤60)→∃ b,aT k l n (q:Int)=some b∧(b=true→l.length≤10∧∀ x ∈ l,x.length≤60):=by
  intro r
  induction r with
  | nil=>
   intro q n hr hq hn hx
   obtain ⟨n,rfl⟩:=ib hn
   have:=cV hr
   rw [List.take_of_length_le (by omega)] at hx
   rw [aT,ltF (by omega),cond_false]
   refine ⟨_,rfl,fun h=>⟨?_,hx⟩⟩
   have:=of_decide_eq_true h
   omega
  | cons v r ih=>
   intro q n hr hq hn hx
   obtain ⟨n,rfl⟩:=ib hn
   obtain ⟨h0,h1,h2,_,h4⟩:=b8 hr
   rw [aT,ltN h0,cond_true]
   by_cases hq10:(q:Int)≤10
   ·rw [leT hq10,cond_true,fG h1,ab]
    by_cases h60:(60:Int)<v.length
    ·rw [ltT h60,cond_true]
     exact ⟨_,rfl,fun h=>by cases h⟩
    ·rw [ltF (by omega),cond_false,gH (by omega)]
     refine ih (q+1) n h2 (by omega) (by simp only [List.length_cons] at hn;omega) fun x hx' => ?_
     rw [List.take_add_one,h1] at hx'
     rcases List.mem_append.1 hx' with h | h
     ·exact hx x h
     ·rw [show x=v by simpa using h];omega
   ·rw [leF (by omega),cond_false]
    refine ⟨_,rfl,fun h => ?_⟩
    have:=of_decide_eq_true h
    omega
 exact key l 0 k rfl (Nat.zero_le _) (by omega) (by simp)
theorem DI:∀ {l:List PK} {n:Nat} {p:PB},Good n p→iM p=true→Good (n+l.length) (lA p l).1
 | [],n,p,h,_=>h
 | k::l,n,p,h,hm=>by
  rw [lA]
  split
  ·rename_i hk
   have:=DI (l:=l) (ru (k:=k) h (nW hm).1) (pV hm hk)
   rw [List.length_cons,show n+(l.length+1)=n+1+l.length by omega]
   exact this
  ·have:=DI (l:=l) h hm
   rw [List.length_cons]
   exact ⟨this.t,this.tl,this.m,fun x hx=>⟨(this.w x hx).f,by have:=(this.w x hx).s;omega,(this.w x hx).sp⟩,this.s⟩
theorem Zf {l:List PK} {p:PB} (hm:iM p=true):iM (lA p l).1=true:=
 (H8 (P:=fun _=>True) (fun _ _ _ _ _=>trivial) hm trivial).2
theorem D3:∀ {l:List PK} {p:PB},(lA p l).1.1=p.1∧(lA p l).1.2.1=p.2.1∧(lA p l).1.2.2.2.1.length=p.2.2.2.1.length∧(lA p l).1.2.2.2.2.length=p.2.2.2.2.length∧(lA p l).1.2.2.1.length=p.2.2.1.length
 | [],p=>⟨rfl,rfl,rfl,rfl,rfl⟩
 | k::l,p=>by
  rw [lA]
  split
  ·obtain ⟨a1,a2,a3,a4,a5⟩:=D3 (l:=l) (p:=(eM p k).1)
   obtain ⟨b1,b2,b3,b4⟩:=A4 (p:=p) (k:=k)
   have b5:=RA (p:=p) (k:=k)
   exact ⟨a1.trans b1,a2.trans b2,a3.trans b3,a4.trans b4,a5.trans b5⟩
  ·exact D3
theorem IO:∀ {l:List PK} {p:PB},(lA p l).2.length≤2*l.length
 | [],p=>Nat.le_refl _
 | k::l,p=>by
  rw [lA]
  split
  ·have:=IO (l:=l) (p:=(eM p k).1)
   have:=KH (p:=p) (k:=k)
   simp only [List.length_append,List.length_cons]
   omega
  ·have:=IO (l:=l) (p:=p)
   simp only [List.length_cons]
   omega
theorem r6 {p:PB} (h:iM p=true):p.2.2.2.1.length≤8∧p.2.2.2.2.length≤3∧12≤p.2.2.1.length∧p.2.2.1.length≤190:=by
 obtain ⟨m1,m2,m3,m4,_⟩:=nW h
 have hc:=aA m1
 have:=(HV (m4 0 _ (List.getElem?_eq_getElem (show 0<p.2.2.2.1.length by omega)))).2.1
 have:=rj m1
 omega
theorem QN {c:CF} {t:Tyt} {roots:List (List Int)} (hc:da c=true) (ht:oF t=true) (hR:roots.length≤3) (hr:∀ l ∈ roots,∀ y ∈ l,0≤y∧y<(t.length:Int)):iM (BO c t roots)=true:=by
 have hm:=aA hc
 have hs:=rj hc
 refine DF hc ?_ ?_ (fun j x hx => ?_) (fun x hx => ?_)
 ·show ((mr c.1.toNat).length:Int)=c.1
  unfold mr
  rw [List.length_map,List.length_range]
  omega
 ·show (gM roots).length≤3
  unfold gM
  rw [List.length_map]
  exact hR
 ·have hx':(mr c.1.toNat)[j]? = some x:=hx
  unfold mr at hx'
  rw [List.getElem?_map,Option.map_eq_some_iff] at hx'
  obtain ⟨i,hi,rfl⟩:=hx'
  obtain ⟨hj,rfl⟩:=List.getElem?_eq_some_iff.1 hi
  rw [List.length_range] at hj
  rw [List.getElem_range]
  refine PI hc ?_ ht ⟨by omega,by show (j:Int)<c.1;omega,Int.le_refl 0,(show (0:Int)<16 by decide)⟩ (mw.2 ⟨ht,fun y hy=>absurd hy (by simp [FT])⟩)
  show ((List.replicate (bG c).toNat (0:Int)).length:Int)=bG c
  rw [List.length_replicate]
  omega
 ·have hx':x ∈ gM roots:=hx
  unfold gM at hx'
  obtain ⟨l,hl,rfl⟩:=List.mem_map.1 hx'
  unfold uo
  simp only [Bool.and_eq_true,List.all_eq_true,decide_eq_true_eq,Bool.or_eq_true]
  exact ⟨⟨by decide,hr l hl⟩,.inl (by trivial)⟩
theorem J9 {c:CF} {t:Tyt} {roots:List (List Int)} (ht:FwT t) (hr:∀ l ∈ roots,l.length≤60):Good 0 (BO c t roots):=by
 have z:(0:Int)≤0∧(0:Int)≤18446744073709551615:=by decide
 refine ⟨ht,by have:=ht.len;show t.length≤1000;omega,?_,fun x hx => ?_,fun x hx => ?_⟩
 ·refine ⟨?_,fun v hv => ?_⟩
  ·show (List.replicate (bG c).toNat (0:Int)).length≤_
   rw [List.length_replicate]
   have:bG c≤190:=by
    unfold bG
    split
    ·rename_i h
     have hm:=aA h
     have:=dG h (w:=c.1) (by omega) (by omega)
     omega
    ·omega
   omega
  ·rw [List.eq_of_mem_replicate hv]
   exact z
 ·have hx':x ∈ mr c.1.toNat:=hx
  unfold mr at hx'
  obtain ⟨i,_,rfl⟩:=List.mem_map.1 hx'
  exact ⟨⟨z,z,z⟩,Nat.le_refl _,by show (0:Int)≤9223372036854775807;decide⟩
 ·have hx':x ∈ gM roots:=hx
  unfold gM at hx'
  obtain ⟨l,hl,rfl⟩:=List.mem_map.1 hx'
  exact ⟨⟨z,z,z⟩,by have:=hr l hl;show l.length≤1000;omega⟩
end Go.Ab
set_option linter.unusedVariables false
namespace Go.Ab
def aly:FR:=(-1,0,0,0,0,0,0)
structure Pl where
 m:List Int
 left:List (List Int)
 cur:List FR
 over:List FR
def aib (m:List Int) (w:Int):Nat:=if rR (ah m 2) w=true then 1 else 0
def afk (f:FR) (w:Int):Nat:=if Tu f w=true then 1 else 0
def agn (l:List FR) (w:Int):Nat:=l.countP fun f=>Tu f w
def ZO (c:CF) (m:List Int) (w:Int):Nat:=if ah m (fU c w)=0 then 0 else 1
def w3B (f:FR):Nat:=if f.1=5∧3≤f.2.1 then 1 else 0
def w4B (f:FR):Prop:=f.1=5∧f.2.1=4
def anQ (x:Int):Prop:=0≤x∧x≤18446744073709551615
def anV (n:Nat) (i:Nat) (f:FR):Prop:=
 f=aly∨∃ op pc X Y:Int,f=(op,pc,(i:Int),0,X,Y,0)∧anQ X∧anQ Y ∧
  ((op=5∧0≤pc∧pc≤4)∨(op=6∧0≤pc∧pc≤2∧(pc=2→Y<n))∨(op=7∧0≤pc∧pc≤2∧(pc=2→0<Y∧Y<65536∧∀ j:Nat,n≤j→j<16→rR Y j=false)))
structure OkP (c:CF) (n:Nat) (m:List Int) (l:List FR):Prop where
 wm:Wm m
 may:da c=true
 cn:c.1=n
 len:(m.length:Int)=bG c
 clen:l.length=n
 frm:∀ i f,l[i]? = some f→anV n i f
 low:∀ j:Nat,n≤j→j<16→rR (ah m 2) j=false
 par:∀ w:Nat,w<n→ah m (fU c w)=0∨ah m (fU c w)=1
 sgn:∀ (w:Nat) f,l[w]? = some f→aib m w+agn l w+ZO c m w=w3B f
 end4:∀ (w:Nat) f,l[w]? = some f→w4B f→ZO c m w=1
theorem UN {l:List FR} {i:Nat} {f g:FR} (hf:l[i]? = some f) (w:Int):agn (l.set i g) w+afk f w=agn l w+afk g w:=by
 obtain ⟨hi,rfl⟩:=List.getElem?_eq_some_iff.1 hf
 have hle:l[i] ∈ l:=List.getElem_mem _
 unfold agn afk
 rw [List.countP_set hi]
 by_cases h:Tu l[i] w=true
 ·have:0<l.countP fun f=>Tu f w:=List.countP_pos_iff.2 ⟨_,hle,h⟩
  simp only [h,if_true]
  omega
 ·simp only [h,if_false]
  simp
theorem OkP.step {c:CF} {n:Nat} {m m':List Int} {l:List FR} (h:OkP c n m l) {i:Nat} {f g:FR} (hf:l[i]? = some f) (wm:Wm m') (len:m'.length=m.length) (hg:anV n i g)
  (low:∀ j:Nat,n≤j→j<16→rR (ah m' 2) j=false) (par:∀ w:Nat,w<n→ah m' (fU c w)=0∨ah m' (fU c w)=1)
  (sg:∀ w:Nat,w<n→aib m' w+afk g w+ZO c m' w+(if w=i then w3B f else 0)=aib m w+afk f w+ZO c m w+(if w=i then w3B g else 0))
  (e4:w4B g→ZO c m' i=1) (e5:∀ w:Nat,w<n→w≠i→ZO c m w=1→ZO c m' w=1):OkP c n m' (l.set i g):=by
 have hi:i<l.length:=(List.getElem?_eq_some_iff.1 hf).1
 have key:∀ (w:Nat) (x:FR),(l.set i g)[w]? = some x→w<n∧((w=i∧x=g)∨(w≠i∧l[w]? = some x)):=by
  intro w x hx
  have hw:=(List.getElem?_eq_some_iff.1 hx).1
  rw [List.length_set,h.clen] at hw
  refine ⟨hw,?_⟩
  by_cases e:w=i
  ·subst e
   rw [List.getElem?_set_self hi] at hx
   exact .inl ⟨rfl,(Option.some.inj hx).symm⟩
  ·rw [List.getElem?_set_ne (by omega)] at hx
   exact .inr ⟨e,hx⟩
 refine ⟨wm,h.may,h.cn,by rw [len];exact h.len,by rw [List.length_set];exact h.clen,?_,low,par,?_,?_⟩
 ·intro w x hx
  rcases key w x hx with ⟨_,⟨rfl,rfl⟩ | ⟨_,hx⟩⟩
  ·exact hg
  ·exact h.frm w x hx
 ·intro w x hx
  have ho:=UN (g:=g) hf (w:Int)
  rcases key w x hx with ⟨hw,⟨rfl,rfl⟩ | ⟨e,hx⟩⟩
  ·have h1:=h.sgn w f hf
   have h2:=sg w hw
   rw [if_pos rfl,if_pos rfl] at h2
   omega
  ·have h1:=h.sgn w x hx
   have h2:=sg w hw
   rw [if_neg e,if_neg e] at h2
   omega
 ·intro w x hx hx4
  rcases key w x hx with ⟨hw,⟨rfl,rfl⟩ | ⟨e,hx⟩⟩
  ·exact e4 hx4
  ·exact e5 w hw e (h.end4 w x hx hx4)
section
variable {c:CF} {m:List Int} {i a5 X:Int} (hmay:da c=true) (hlen:(m.length:Int)=bG c)
include hmay hlen
end
end Go.Ab
set_option linter.unusedVariables false
namespace Go.Ab
structure Adr (c:CF) (j:Int):Prop where
 on:∀ w x,x=0∨x=1→onW c w x≠j
 slot:∀ w x,0≤x→x≤18446744073709551615→pA c w x≠j
 seq:∀ x,lY c x≠j
 val:∀ x,BL c x≠j
 n0:(0:Int)≠j
 n1:(1:Int)≠j
 n3:(3:Int)≠j
 n4:(4:Int)≠j
 n5:(5:Int)≠j
theorem Wo {a b D x y:Int} (hD:D=1∨D=2∨D=4∨D=8∨D=16) (hx:0≤x∧x<3+D) (hy:0≤y∧y<3+D) (h:x≠y):a*(3+D)+x≠b*(3+D)+y:=by
 rcases hD with rfl | rfl | rfl | rfl | rfl <;> omega
theorem ao0 {c:CF}:Adr c 2:=by
 refine ⟨fun w x hx => ?_,fun w x h0 h1 => ?_,fun x => ?_,fun x => ?_,by decide,by decide,by decide,by decide,by decide⟩
 ·unfold onW
  split
  ·rename_i h
   have hm:=aA h.1
   have:=dG h.1 h.2.1 (by omega)
   omega
  ·omega
 ·unfold pA onW
  split
  ·rename_i h
   have hm:=aA h.1
   have:=dG h.1 h.2.1 (by omega)
   have:=Ep h0 h1 (show 1≤c.2.1 by omega) (by omega)
   omega
  ·omega
 ·unfold lY
  split
  ·rename_i h
   have:=aA h
   have:=Int.emod_nonneg x (show c.2.2.1≠0 by omega)
   omega
  ·omega
 ·unfold BL
  split
  ·rename_i h
   have:=aA h
   have:=Int.emod_nonneg x (show c.2.2.1≠0 by omega)
   omega
  ·omega
theorem aov {c:CF} {v:Int} (hc:da c=true) (h0:0≤v) (h1:v<c.1):Adr c (fU c v):=by
 have hp:fU c v=6+2*c.2.2.1+(v*(3+c.2.1)+2):=by
  unfold fU
  rw [if_pos ⟨hc,h0,h1⟩,wT]
  omega
 have hm:=aA hc
 have ht:=dG hc h0 (by omega)
 rw [hp]
 refine ⟨fun w x hx => ?_,fun w x g0 g1 => ?_,fun x => ?_,fun x => ?_,by omega,by omega,by omega,by omega,by omega⟩
 ·unfold onW
  split
  ·have:=Wo (a:=w) (b:=v) hm.2.2.1 (x:=x) (y:=2) (by omega) (by omega) (by omega)
   unfold wT
   omega
  ·omega
 ·unfold pA onW
  split
  ·have ha:=Ep g0 g1 (show 1≤c.2.1 by omega) (by omega)
   have:=Wo (a:=w) (b:=v) hm.2.2.1 (x:=3+wL .u64 x (c.2.1 - 1)) (y:=2) (by omega) (by omega) (by omega)
   unfold wT
   omega
  ·omega
 ·unfold lY
  rw [if_pos hc]
  have a:=Int.emod_lt_of_pos x (show 0<c.2.2.1 by omega)
  have b:0≤v*(3+c.2.1):=ht.2.2.2
  generalize x%c.2.2.1=g at a ⊢
  omega
 ·unfold BL
  rw [if_pos hc]
  have a:=Int.emod_lt_of_pos x (show 0<c.2.2.1 by omega)
  have b:0≤v*(3+c.2.1):=ht.2.2.2
  generalize x%c.2.2.1=g at a ⊢
  omega
section
variable {c:CF} {m:List Int} {f:FR} {j:Int} (hj:Adr c j) (hf:Wf f)
include hj hf
end
section
variable {c:CF} {m:List Int} {f:FR}
end
def pkW (x:WB):Prop:=x.1=8∧3≤x.2.2.1.2.1
def owF (f:FR) (v:Int):Prop:=f.2.1=2∧f.2.2.2.2.2.1=v
def owW (x:WB) (v:Int):Prop:=x.1=14∧owF x.2.2.1 v
def owS (x:SB) (v:Int):Prop:=x.1=4∧owF x.2.2 v
def Fwk (n w:Int) (x:WB):Prop:=
 (x.1=0∨x.1=2∨x.1=3∨x.1=11∨x.1=12→x.2.2.1.1<5)∧(x.1=5→x.2.2.1=wA 5 w 0) ∧
 (x.1=6∨x.1=7→x.2.2.1.1=5∧x.2.2.1.2.1=1∧x.2.2.1.2.2.1=w∧x.2.2.1.2.2.2.2.2.2=0) ∧
 (x.1=8→x.2.2.1.1=5∧(0≤x.2.2.1.2.1∧x.2.2.1.2.1≤4)∧x.2.2.1.2.2.1=w∧x.2.2.1.2.2.2.2.2.2=0) ∧
 (x.1=14→x.2.2.1.1=6∧(0≤x.2.2.1.2.1∧x.2.2.1.2.1≤2)∧x.2.2.1.2.2.2.2.2.2=0∧(x.2.2.1.2.1=2→x.2.2.1.2.2.2.2.2.1<n))
def Fsb (n:Int) (x:SB):Prop:=
 (x.1=2→x.2.2.1<5)∧(x.1=4→x.2.2.1=6∧(0≤x.2.2.2.1∧x.2.2.2.1≤2)∧x.2.2.2.2.2.2.2.2=0∧(x.2.2.2.1=2→x.2.2.2.2.2.2.2.1<n))
def ajc (n:Int) (m:List Int):Prop:=∀ j:Int,n≤j→j<16→rR (ah m 2) j=false
structure Ef (c:CF) (m m':List Int) (pk0 pk1:Prop) (me:Int) (ow0 ow1:Int→Prop):Prop where
 low:ajc c.1 m→ajc c.1 m'
 bit:∀ v,0≤v→v<c.1→rR (ah m 2) v=true→rR (ah m' 2) v=true∨ow1 v
 par:∀ v,0≤v→v<c.1→ah m (fU c v)≠0→ah m' (fU c v)≠0∨v=me∧¬ pk1
 owe:∀ v,0≤v→v<c.1→ow0 v→ow1 v∨ah m' (fU c v)≠0
 new:pk1→pk0∨rR (ah m' 2) me=true∨ah m' (fU c me)≠0
section
variable {c:CF} {m m':List Int} {pk0 pk1:Prop} {me:Int} {ow0 ow1:Int→Prop}
theorem Ef.calm (hc:da c=true) (h:∀ j,Adr c j→ah m' j=ah m j) (ho:∀ v,ow0 v→ow1 v) (hp:pk1→pk0):Ef c m m' pk0 pk1 me ow0 ow1:=by
 have h2:=h 2 ao0
 refine ⟨fun hl j h0 h1=>by rw [h2];exact hl j h0 h1,fun v _ _ hb => .inl (by rw [h2];exact hb),fun v h0 h1 hb => .inl (by rw [h _ (aov hc h0 h1)];exact hb),fun v _ _ hv => .inl (ho v hv),fun h => .inl (hp h)⟩
theorem Ef.same (ho:∀ v,ow0 v→ow1 v) (hp:pk1→pk0):Ef c m m pk0 pk1 me ow0 ow1:=
 ⟨fun hl=>hl,fun v _ _ hb => .inl hb,fun v _ _ hb => .inl hb,fun v _ _ hv => .inl (ho v hv),fun h => .inl (hp h)⟩
end
section
variable {c:CF} {m:List Int} {f:FR} (hc:da c=true) (hl:(m.length:Int)=bG c) (hm:Wm m) (hf:Wf f)
include hc hl hm hf
end
end Go.Ab
set_option linter.unusedVariables false
namespace Go.Ab
section
variable {n w:Int} {x:WB}
end
theorem Ef.mono {c:CF} {m m':List Int} {p0 p1 q0 q1:Prop} {me:Int} {a0 a1 b0 b1:Int→Prop} (h:Ef c m m' p0 p1 me a0 a1) (h1:q1→p1) (h0:p0→q0) (ha:∀ v,b0 v→a0 v) (hb:∀ v,a1 v→b1 v):Ef c m m' q0 q1 me b0 b1:=
 ⟨h.low,fun v g0 g1 hv=>(h.bit v g0 g1 hv).imp id (hb v),fun v g0 g1 hv=>(h.par v g0 g1 hv).imp id fun e=>⟨e.1,fun q=>e.2 (h1 q)⟩,fun v g0 g1 hv=>(h.owe v g0 g1 (ha v hv)).imp (hb v) id,fun q=>(h.new (h1 q)).imp h0 id⟩
section
variable {c:CF} {t:Tyt} {m:List Int} {w:Int} {x:WB} {d:Int}
end
section
variable {c:CF} {t:Tyt} {m:List Int} {i:Int} {x:SB}
end
def apf (W:List WB) (S:List SB) (v:Int):Prop:=(∃ y ∈ W,owW y v)∨∃ y ∈ S,owS y v
structure Sgn (p:PB):Prop where
 w:∀ (i:Nat) x,p.2.2.2.1[i]? = some x→Fwk p.1.1 i x
 s:∀ x ∈ p.2.2.2.2,Fsb p.1.1 x
 low:ajc p.1.1 p.2.2.1
 sg:∀ (i:Nat) x,p.2.2.2.1[i]? = some x→pkW x→rR (ah p.2.2.1 2) i=true∨ah p.2.2.1 (fU p.1 i)≠0∨apf p.2.2.2.1 p.2.2.2.2 i
end Go.Ab
set_option linter.unusedVariables false
set_option linter.unusedSimpArgs false
namespace Go.Ab
end Go.Ab
set_option linter.unusedVariables false
namespace Go.Ab
end Go.Ab
set_option linter.unusedVariables false
namespace Go.Ab
structure Hdr (c:CF) (j:Int):Prop where
 bot:∀ w,Ix c w≠j
 slot:∀ w x,0≤x→x≤18446744073709551615→pA c w x≠j
 seq:∀ x,lY c x≠j
 val:∀ x,BL c x≠j
 park:∀ w,fU c w≠j
 n0:(0:Int)≠j
 n1:(1:Int)≠j
 n2:(2:Int)≠j
 n3:(3:Int)≠j
 n5:(5:Int)≠j
theorem XQ {c:CF} {w x:Int} (hx:0≤x):onW c w x = -1∨da c=true∧0≤w∧w<c.1∧onW c w x=6+2*c.2.2.1+(w*(3+c.2.1)+x)∧8≤onW c w x:=by
 unfold onW
 split
 ·rename_i h
  have hm:=aA h.1
  have:=dG h.1 h.2.1 (by omega)
  refine .inr ⟨h.1,h.2.1,h.2.2,?_,by omega⟩
  unfold wT
  omega
 ·exact .inl rfl
theorem Zb {c:CF} {w:Int}:fU c w=onW c w 2:=by
 unfold fU onW
 rfl
section
variable {c:CF} {m:List Int} {f:FR} {j:Int} (hj:Hdr c j) (hf:Wf f)
include hj hf
end
section
variable {c:CF} {t:Tyt} {m:List Int} {w:Int} {x:WB} {d:Int} {j:Int}
end
structure Ew (c:CF) (m m':List Int) (me:Int):Prop where
 ep:epB (ah m' 2)=epB (ah m 2)∨epB (ah m' 2)=epB (ah m 2)+1
 bit:∀ v,0≤v→v<c.1→v≠me→rR (ah m' 2) v=true→rR (ah m 2) v=true
theorem Ew.same {c:CF} {m m':List Int} {me:Int} (h:ah m' 2=ah m 2):Ew c m m' me:=⟨.inl (by rw [h]),fun v _ _ _ hb=>by rw [h] at hb;exact hb⟩
section
variable {c:CF} {m:List Int} {f:FR} (hc:da c=true) (hl:(m.length:Int)=bG c) (hm:Wm m) (hf:Wf f)
include hc hl hm hf
end
end Go.Ab
set_option linter.unusedVariables false
namespace Go.Ab
def dq (c:CF) (x:Int):Int:=x/c.2.2.1
def sqI (c:CF) (m:List Int) (x:Int):Int:=ah m (lY c x)
def vlI (c:CF) (m:List Int) (x:Int):Int:=ah m (BL c x)
theorem Kp {c:CF} (hc:da c=true) {x y:Int} (h:x%c.2.2.1=y%c.2.2.1) (hl:x<y):dq c x<dq c y:=by
 have hm:=aA hc
 unfold dq
 have a:=Int.mul_ediv_add_emod x c.2.2.1
 have b:=Int.mul_ediv_add_emod y c.2.2.1
 have hp:c.2.2.1*(x/c.2.2.1)<c.2.2.1*(y/c.2.2.1):=by omega
 exact Int.lt_of_mul_lt_mul_left hp (by omega)
theorem PW {c:CF} {x y:Int} (h:x%c.2.2.1=y%c.2.2.1) (hl:dq c x=dq c y):x=y:=by
 unfold dq at hl
 have a:=Int.mul_ediv_add_emod x c.2.2.1
 have b:=Int.mul_ediv_add_emod y c.2.2.1
 rw [hl] at a
 omega
theorem u2 {c:CF} (hc:da c=true) {x:Int} (h0:0≤x):0≤dq c x∧dq c x≤x:=by
 have hm:=aA hc
 unfold dq
 exact ⟨Int.ediv_nonneg h0 (by omega),Int.ediv_le_self _ h0⟩
theorem nQ {c:CF} (hc:da c=true) (x:Int):lY c x=6+x%c.2.2.1:=by unfold lY;rw [if_pos hc]
theorem wn {c:CF} (hc:da c=true) (x:Int):BL c x=6+c.2.2.1+x%c.2.2.1:=by unfold BL;rw [if_pos hc]
theorem ID {c:CF} (hc:da c=true) {x:Int} (h0:0≤x) (h1:x≤1000000):Ca c x=2*dq c x:=by
 have:=u2 hc h0
 unfold Ca
 unfold dq at this ⊢
 omega
theorem OD {c:CF} (hc:da c=true) {x:Int} (h0:0≤x) (h1:x≤1000000):BR c x=2*dq c x+1:=by
 have:=u2 hc h0
 unfold BR fh
 rw [ID hc h0 h1]
 omega
section
variable {c:CF} {m:List Int} (hc:da c=true) (hl:(m.length:Int)=bG c)
include hc hl
theorem lG:6+2*c.2.2.1<m.length:=by
 have hm:=aA hc
 have:=dG hc (w:=c.1) (by omega) (by omega)
 have hs:bG c=wT c c.1:=by unfold bG;rw [if_pos hc]
 have ht:wT c c.1=6+2*c.2.2.1+c.1*(3+c.2.1):=rfl
 have hp:0<c.1*(3+c.2.1):=Int.mul_pos (by omega) (by omega)
 omega
theorem w9 (X v y:Int):sqI c (ao m (lY c X) v) y=if y%c.2.2.1=X%c.2.2.1 then v else sqI c m y:=by
 have hm:=aA hc
 have hs:=lG hc hl
 have a:=Int.emod_nonneg X (show c.2.2.1≠0 by omega)
 have b:=Int.emod_lt_of_pos X (show 0<c.2.2.1 by omega)
 unfold sqI
 rw [nQ hc,nQ hc]
 split
 ·rename_i e
  rw [e,dZ _ (by omega) (by omega)]
 ·exact az _ (by omega)
theorem rC (X v y:Int):vlI c (ao m (lY c X) v) y=vlI c m y:=by
 have _h:=hl
 have hm:=aA hc
 have a:=Int.emod_nonneg y (show c.2.2.1≠0 by omega)
 have b:=Int.emod_lt_of_pos X (show 0<c.2.2.1 by omega)
 unfold vlI
 rw [nQ hc,wn hc]
 exact az _ (by omega)
theorem Ld (X v y:Int):vlI c (ao m (BL c X) v) y=if y%c.2.2.1=X%c.2.2.1 then v else vlI c m y:=by
 have hm:=aA hc
 have hs:=lG hc hl
 have a:=Int.emod_nonneg X (show c.2.2.1≠0 by omega)
 have b:=Int.emod_lt_of_pos X (show 0<c.2.2.1 by omega)
 unfold vlI
 rw [wn hc,wn hc]
 split
 ·rename_i e
  rw [e,dZ _ (by omega) (by omega)]
 ·exact az _ (by omega)
theorem GH (X v y:Int):sqI c (ao m (BL c X) v) y=sqI c m y:=by
 have _h:=hl
 have hm:=aA hc
 have a:=Int.emod_nonneg X (show c.2.2.1≠0 by omega)
 have b:=Int.emod_lt_of_pos y (show 0<c.2.2.1 by omega)
 unfold sqI
 rw [nQ hc,wn hc]
 exact az _ (by omega)
theorem JP {i:Int} (v y:Int) (hi:i<6):sqI c (ao m i v) y=sqI c m y:=by
 have _h:=hl
 have hm:=aA hc
 have a:=Int.emod_nonneg y (show c.2.2.1≠0 by omega)
 unfold sqI
 rw [nQ hc]
 exact az _ (by omega)
theorem KF {i:Int} (v y:Int) (hi:i<6):vlI c (ao m i v) y=vlI c m y:=by
 have _h:=hl
 have hm:=aA hc
 have a:=Int.emod_nonneg y (show c.2.2.1≠0 by omega)
 unfold vlI
 rw [wn hc]
 exact az _ (by omega)
theorem wM (X v:Int):ah (ao m (lY c X) v) 4=ah m 4∧ah (ao m (lY c X) v) 5=ah m 5:=by
 have _h:=hl
 have hm:=aA hc
 have a:=Int.emod_nonneg X (show c.2.2.1≠0 by omega)
 rw [nQ hc]
 exact ⟨az _ (by omega),az _ (by omega)⟩
theorem KZ (X v:Int):ah (ao m (BL c X) v) 4=ah m 4∧ah (ao m (BL c X) v) 5=ah m 5:=by
 have _h:=hl
 have hm:=aA hc
 have a:=Int.emod_nonneg X (show c.2.2.1≠0 by omega)
 rw [wn hc]
 exact ⟨az _ (by omega),az _ (by omega)⟩
end
structure InjI (c:CF) (m:List Int) (cE cD:Int→Nat):Prop where
 h0:0≤ah m 4
 ht:ah m 4≤ah m 5
 tb:ah m 5≤1000000
 a:∀ x,0≤x→x<ah m 5→(if 2*dq c x<sqI c m x then 1 else 0)+cE x=1
 b:∀ x,ah m 5≤x→cE x=0∧sqI c m x≤2*dq c x
 r:∀ x,0≤x→x<ah m 4→(if 2*dq c x+2≤sqI c m x then 1 else 0)+cD x=1
 d:∀ x,ah m 4≤x→cD x=0∧sqI c m x≤2*dq c x+1
structure EFr (c:CF) (m:List Int) (f:FR):Prop where
 op:f.1=3
 res:f.2.2.2.2.2.2=0
 pc:0≤f.2.1∧f.2.1≤4
 p1:f.2.1=1∨f.2.1=2→0≤f.2.2.2.2.1∧f.2.2.2.2.1≤ah m 5
 p2:f.2.1=2→f.2.2.2.2.1=ah m 5→sqI c m f.2.2.2.2.1=2*dq c f.2.2.2.2.1
 p3:3≤f.2.1→0≤f.2.2.2.2.1∧f.2.2.2.2.1<ah m 5∧sqI c m f.2.2.2.2.1=2*dq c f.2.2.2.2.1
 p4:f.2.1=4→vlI c m f.2.2.2.2.1=f.2.2.2.1
structure DFr (c:CF) (m:List Int) (f:FR):Prop where
 op:f.1=4
 res:f.2.2.2.2.2.2=0
 pc:0≤f.2.1∧f.2.1≤4
 p1:f.2.1=1∨f.2.1=2→0≤f.2.2.2.2.1∧f.2.2.2.2.1≤ah m 4
 p2:f.2.1=2→f.2.2.2.2.1=ah m 4→sqI c m f.2.2.2.2.1=2*dq c f.2.2.2.2.1+1
 p3:3≤f.2.1→0≤f.2.2.2.2.1∧f.2.2.2.2.1<ah m 4∧sqI c m f.2.2.2.2.1=2*dq c f.2.2.2.2.1+1
def clF (f:FR) (q:Int):Nat:=if 3≤f.2.1∧f.2.2.2.2.1=q then 1 else 0
def oo (c:CF) (m:List Int) (k:Int):Nat:=(List.range (ah m 5 - ah m 4).toNat).countP fun i:Nat=>decide (2*dq c (ah m 4+(i:Int))<sqI c m (ah m 4+(i:Int))∧vlI c m (ah m 4+(i:Int))=k)
def hdD (c:CF) (m:List Int) (f:FR) (k:Int):Nat:=if f.2.1=3∧vlI c m f.2.2.2.2.1=k∨f.2.1=4∧f.2.2.2.1=k then 1 else 0
theorem fq {n:Nat} {p q:Nat→Bool} (h:∀ i,i<n→p i=q i):(List.range n).countP p=(List.range n).countP q:=
 List.countP_congr fun i hi=>by rw [h i (List.mem_range.1 hi)]
theorem NR {n j:Nat} {p q:Nat→Bool} (hj:j<n) (hp:p j=false) (hq:q j=true) (h:∀ i,i<n→i≠j→p i=q i):(List.range n).countP q=(List.range n).countP p+1:=by
 have e:List.range n=List.range j++j::(List.range' (j+1) (n - j - 1)):=by
  rw [List.range_eq_range',List.range_eq_range',← List.range'_succ,show n - j - 1+1=n - j by omega]
  have:=(List.range'_append (s:=0) (m:=j) (n:=n - j) (step:=1)).symm
  rw [show j+(n - j)=n by omega] at this
  simpa using this
 rw [e,List.countP_append,List.countP_append,List.countP_cons,List.countP_cons,hp,hq]
 have h1:(List.range j).countP p=(List.range j).countP q:=fq fun i hi=>h i (by omega) (by omega)
 have h2:(List.range' (j+1) (n - j - 1)).countP p=(List.range' (j+1) (n - j - 1)).countP q:=List.countP_congr fun i hi=>by
  rw [List.mem_range'] at hi
  obtain ⟨a,b,rfl⟩:=hi
  rw [h _ (by omega) (by omega)]
 rw [h1,h2]
 simp
 omega
end Go.Ab
set_option linter.unusedVariables false
namespace Go.Ab
def NI (X q:Int):Nat:=if X=q then 1 else 0
theorem Aa (X:Int):NI X X=1:=by unfold NI;rw [if_pos rfl]
theorem oP {X q:Int} (h:q≠X):NI X q=0:=by unfold NI;rw [if_neg (fun e=>h e.symm)]
section
variable {c:CF} {m:List Int} (hc:da c=true) (hl:(m.length:Int)=bG c)
include hc hl
theorem pb {x y:Int} (e:x%c.2.2.1=y%c.2.2.1):sqI c m x=sqI c m y:=by
 have _h:=hl
 unfold sqI
 rw [nQ hc,nQ hc,e]
theorem P8 {X:Int} {cE cD:Int→Nat} (hI:InjI c m cE cD) (hX:X=ah m 5) (hfree:sqI c m X=2*dq c X) (hb:X+1≤1000000) :
  InjI c (ao m 5 (X+1)) (fun q=>cE q+NI X q) cD∧∀ k,oo c (ao m 5 (X+1)) k=oo c m k:=by
 have hs:=lG hc hl
 have hmc:=aA hc
 have l5:ah (ao m 5 (X+1)) 5=X+1:=dZ _ (by decide) (by omega)
 have l4:ah (ao m 5 (X+1)) 4=ah m 4:=az _ (by decide)
 have sq:=fun y=>JP hc hl (i:=5) (X+1) y (by decide)
 have vl:=fun y=>KF hc hl (i:=5) (X+1) y (by decide)
 have hle:=hI.ht
 have h0:=hI.h0
 refine ⟨⟨by rw [l4];exact hI.h0,by rw [l4,l5];omega,by rw [l5];exact hb,fun x x0 x1 => ?_,fun x hx => ?_,fun x x0 x1 => ?_,fun x hx => ?_⟩,fun k => ?_⟩
 ·rw [sq]
  rw [l5] at x1
  by_cases e:x=X
  ·have hb0:=(hI.b x (by omega)).1
   subst e
   rw [hfree,if_neg (by omega),Aa]
   omega
  ·have:=hI.a x x0 (by omega)
   rw [oP e]
   exact this
 ·rw [l5] at hx
  obtain ⟨b1,b2⟩:=hI.b x (by omega)
  rw [sq,oP (by omega)]
  exact ⟨b1,b2⟩
 ·rw [l4] at x1
  rw [sq]
  exact hI.r x x0 x1
 ·rw [l4] at hx
  rw [sq]
  exact hI.d x hx
 ·unfold oo
  rw [l4,l5,hX]
  have e:(ah m 5+1 - ah m 4).toNat=(ah m 5 - ah m 4).toNat+1:=by omega
  rw [e,List.range_succ,List.countP_append]
  rw [← hX]
  have h1:(List.range (X - ah m 4).toNat).countP (fun i:Nat=>decide (2*dq c (ah m 4+(i:Int))<sqI c (ao m 5 (X+1)) (ah m 4+(i:Int))∧vlI c (ao m 5 (X+1)) (ah m 4+(i:Int))=k))=(List.range (X - ah m 4).toNat).countP (fun i:Nat=>decide (2*dq c (ah m 4+(i:Int))<sqI c m (ah m 4+(i:Int))∧vlI c m (ah m 4+(i:Int))=k)):=fq fun i _=>by rw [sq,vl]
  rw [h1,List.countP_cons,List.countP_nil,show ah m 4+(((X - ah m 4).toNat:Nat):Int)=X by omega,sq,hfree,decide_eq_false (fun h=>by omega)]
  rfl
theorem Xc {X v:Int} {cE cD:Int→Nat} (hI:InjI c m cE cD) (x0:0≤X) (x1:X<ah m 5) (hfree:sqI c m X=2*dq c X) :
  InjI c (ao m (BL c X) v) cE cD∧(∀ k,oo c (ao m (BL c X) v) k=oo c m k)∧(∀ y,sqI c m y=2*dq c y→y≠X→vlI c (ao m (BL c X) v) y=vlI c m y)∧∀ y,sqI c m y=2*dq c y+1→vlI c (ao m (BL c X) v) y=vlI c m y:=by
 obtain ⟨l4,l5⟩:=KZ hc hl X v
 have sq:=fun y=>GH hc hl X v y
 have vl:=fun y=>Ld hc hl X v y
 refine ⟨⟨by rw [l4];exact hI.h0,by rw [l4,l5];exact hI.ht,by rw [l5];exact hI.tb,fun x a b=>by rw [sq];exact hI.a x a (by rw [← l5];exact b),fun x hx=>by rw [sq];exact hI.b x (by rw [← l5];exact hx),fun x a b=>by rw [sq];exact hI.r x a (by rw [← l4];exact b),fun x hx=>by rw [sq];exact hI.d x (by rw [← l4];exact hx)⟩,fun k => ?_,fun y hy hne => ?_,fun y hy => ?_⟩
 ·unfold oo
  rw [l4,l5]
  refine fq fun i hi => ?_
  rw [sq,vl]
  split
  ·rename_i e
   have hd:=(hI.d (ah m 4+(i:Int)) (by omega)).2
   have hsame:=pb hc hl e
   have hn:¬ 2*dq c (ah m 4+(i:Int))<sqI c m (ah m 4+(i:Int)):=by omega
   rw [decide_eq_false (fun h=>hn h.1),decide_eq_false (fun h=>hn h.1)]
  ·rfl
 ·rw [vl,if_neg]
  intro e
  have hsame:=pb hc hl e
  exact hne (PW e (by omega))
 ·rw [vl,if_neg]
  intro e
  have hsame:=pb hc hl e
  omega
theorem acY {X:Int} {cE cD:Int→Nat} (hI:InjI c m cE cD) (hD:∀ x,0<cD x→sqI c m x=2*dq c x+1) (x0:0≤X) (hfree:sqI c m X=2*dq c X):ah m 4≤X:=by
 have _h:=And.intro hc hl
 by_cases h:ah m 4≤X
 ·exact h
 ·exfalso
  have hr:=hI.r X x0 (by omega)
  rw [if_neg (by omega)] at hr
  have:=hD X (by omega)
  omega
theorem XY {X:Int} {c0 cD:Int→Nat} (hI:InjI c m (fun q=>c0 q+NI X q) cD) (hD:∀ x,0<cD x→sqI c m x=2*dq c x+1) (hE:∀ x,0<c0 x→sqI c m x=2*dq c x) (x0:0≤X) (x1:X<ah m 5) (hfree:sqI c m X=2*dq c X) :
  InjI c (ao m (lY c X) (2*dq c X+1)) c0 cD∧(∀ k,oo c (ao m (lY c X) (2*dq c X+1)) k=oo c m k+if vlI c m X=k then 1 else 0)∧∀ y,sqI c m y≠2*dq c X→sqI c (ao m (lY c X) (2*dq c X+1)) y=sqI c m y:=by
 have hs:=lG hc hl
 obtain ⟨l4,l5⟩:=wM hc hl X (2*dq c X+1)
 have sq:=fun y=>w9 hc hl X (2*dq c X+1) y
 have vl:=fun y=>rC hc hl X (2*dq c X+1) y
 have hh:=acY hc hl hI hD x0 hfree
 have hA:=hI.a X x0 x1
 rw [Aa] at hA
 have ss:∀ y,y%c.2.2.1=X%c.2.2.1→sqI c m y=2*dq c X:=fun y e=>by rw [pb hc hl e,hfree]
 have lt:∀ y,y%c.2.2.1=X%c.2.2.1→y<X→dq c y<dq c X:=fun y e h=>Kp hc e h
 have gt:∀ y,y%c.2.2.1=X%c.2.2.1→X<y→dq c X<dq c y:=fun y e h=>Kp hc e.symm h
 refine ⟨⟨by rw [l4];exact hI.h0,by rw [l4,l5];exact hI.ht,by rw [l5];exact hI.tb,fun x a b => ?_,fun x hx => ?_,fun x a b => ?_,fun x hx => ?_⟩,fun k => ?_,fun y hy => ?_⟩
 ·rw [l5] at b
  have hx:=hI.a x a b
  rw [sq]
  by_cases e:x%c.2.2.1=X%c.2.2.1
  ·rw [if_pos e]
   have hsx:=ss x e
   rcases Int.lt_trichotomy x X with h | h | h
   ·have:=lt x e h
    rw [oP (by omega)] at hx
    rw [if_pos (by omega)] at hx ⊢
    exact hx
   ·subst h
    rw [if_pos (by omega)]
    omega
   ·have:=gt x e h
    exfalso
    rw [oP (by omega),if_neg (by omega)] at hx
    have:=hE x (by omega)
    omega
  ·rw [if_neg e]
   have hne:x≠X:=fun h=>e (by rw [h])
   rw [oP hne] at hx
   exact hx
 ·rw [l5] at hx
  obtain ⟨b1,b2⟩:=hI.b x hx
  have hne:x≠X:=by omega
  rw [sq]
  refine ⟨by omega,?_⟩
  split
  ·rename_i e
   have:=gt x e (by omega)
   omega
  ·exact b2
 ·rw [l4] at b
  have hx:=hI.r x a b
  rw [sq]
  split
  ·rename_i e
   have hsx:=ss x e
   have:=lt x e (by omega)
   rw [if_pos (by omega)] at hx ⊢
   exact hx
  ·exact hx
 ·rw [l4] at hx
  obtain ⟨d1,d2⟩:=hI.d x hx
  rw [sq]
  refine ⟨d1,?_⟩
  split
  ·rename_i e
   have hsx:=ss x e
   omega
  ·exact d2
 ·unfold oo
  rw [l4,l5]
  have hj:(X - ah m 4).toNat<(ah m 5 - ah m 4).toNat:=by omega
  have hX:ah m 4+(((X - ah m 4).toNat:Nat):Int)=X:=by omega
  have oth:∀ i:Nat,i<(ah m 5 - ah m 4).toNat→i≠(X - ah m 4).toNat→decide (2*dq c (ah m 4+(i:Int))<sqI c m (ah m 4+(i:Int))∧vlI c m (ah m 4+(i:Int))=k)=decide (2*dq c (ah m 4+(i:Int))<sqI c (ao m (lY c X) (2*dq c X+1)) (ah m 4+(i:Int))∧vlI c (ao m (lY c X) (2*dq c X+1)) (ah m 4+(i:Int))=k):=by
   intro i hi hne
   rw [sq,vl,if_neg]
   intro e
   have hsx:=ss _ e
   have hd:=(hI.d (ah m 4+(i:Int)) (by omega)).2
   have ha:=hI.a (ah m 4+(i:Int)) (by have:=hI.h0;omega) (by omega)
   rcases Int.lt_trichotomy (ah m 4+(i:Int)) X with h | h | h
   ·have:=lt _ e h
    omega
   ·omega
   ·have:=gt _ e h
    rw [oP (by omega),if_neg (by omega)] at ha
    have:=hE _ (show 0<c0 (ah m 4+(i:Int)) by omega)
    omega
  by_cases hk:vlI c m X=k
  ·rw [if_pos hk]
   refine NR hj ?_ ?_ oth
   ·rw [hX,hfree]
    exact decide_eq_false (fun h=>by omega)
   ·rw [hX,sq,vl,if_pos rfl]
    exact decide_eq_true ⟨by omega,hk⟩
  ·rw [if_neg hk,Nat.add_zero]
   refine (fq fun i hi => ?_).symm
   by_cases e:i=(X - ah m 4).toNat
   ·subst e
    rw [hX,vl,decide_eq_false (fun h=>hk h.2),decide_eq_false (fun h=>hk h.2)]
   ·exact oth i hi e
 ·rw [sq,if_neg]
  intro e
  exact hy (ss y e)
end
end Go.Ab
set_option linter.unusedVariables false
namespace Go.Ab
section
variable {c:CF} {m:List Int} (hc:da c=true) (hl:(m.length:Int)=bG c)
include hc hl
theorem Mk {X:Int} {cE cD:Int→Nat} (hI:InjI c m cE cD) (hX:X=ah m 4) (hfull:sqI c m X=2*dq c X+1) :
  X<ah m 5∧InjI c (ao m 4 (X+1)) cE (fun q=>cD q+NI X q)∧∀ k,oo c m k=oo c (ao m 4 (X+1)) k+if vlI c m X=k then 1 else 0:=by
 have hs:=lG hc hl
 have hmc:=aA hc
 have l4:ah (ao m 4 (X+1)) 4=X+1:=dZ _ (by decide) (by omega)
 have l5:ah (ao m 4 (X+1)) 5=ah m 5:=az _ (by decide)
 have sq:=fun y=>JP hc hl (i:=4) (X+1) y (by decide)
 have vl:=fun y=>KF hc hl (i:=4) (X+1) y (by decide)
 have h0:=hI.h0
 have hlt:X<ah m 5:=by
  by_cases h:X<ah m 5
  ·exact h
  ·have:=(hI.b X (by omega)).2
   omega
 refine ⟨hlt,⟨by rw [l4];omega,by rw [l4,l5];omega,by rw [l5];exact hI.tb,fun x a b=>by rw [sq];exact hI.a x a (by rw [← l5];exact b),fun x hx=>by rw [sq];exact hI.b x (by rw [← l5];exact hx),fun x a b => ?_,fun x hx => ?_⟩,fun k => ?_⟩
 ·rw [l4] at b
  rw [sq]
  by_cases e:x=X
  ·have hd:=(hI.d X (by omega)).1
   subst e
   rw [hfull,if_neg (by omega),Aa]
   omega
  ·have:=hI.r x a (by omega)
   rw [oP e]
   exact this
 ·rw [l4] at hx
  obtain ⟨d1,d2⟩:=hI.d x (by omega)
  rw [sq,oP (by omega)]
  exact ⟨d1,d2⟩
 ·unfold oo
  rw [l4,l5,← hX]
  have e:(ah m 5 - X).toNat=(ah m 5 - (X+1)).toNat+1:=by omega
  rw [e,List.range_succ_eq_map,List.countP_cons,List.countP_map]
  have h1:(List.range (ah m 5 - (X+1)).toNat).countP ((fun i:Nat=>decide (2*dq c (X+(i:Int))<sqI c m (X+(i:Int))∧vlI c m (X+(i:Int))=k)) ∘ Nat.succ)=(List.range (ah m 5 - (X+1)).toNat).countP (fun i:Nat=>decide (2*dq c (X+1+(i:Int))<sqI c (ao m 4 (X+1)) (X+1+(i:Int))∧vlI c (ao m 4 (X+1)) (X+1+(i:Int))=k)):=fq fun i _=>by
   rw [sq,vl,show X+1+(i:Int)=X+((i+1:Nat):Int) by omega]
   rfl
  rw [h1]
  congr 1
  rw [show X+((0:Nat):Int)=X by omega,hfull]
  by_cases hk:vlI c m X=k
  ·rw [if_pos hk,decide_eq_true ⟨by omega,hk⟩]
   rfl
  ·rw [if_neg hk,decide_eq_false (fun h=>hk h.2)]
   rfl
theorem Vs {X:Int} {cE d0:Int→Nat} (hI:InjI c m cE (fun q=>d0 q+NI X q)) (hD:∀ x,0<d0 x→sqI c m x=2*dq c x+1) (hE:∀ x,0<cE x→sqI c m x=2*dq c x) (x0:0≤X) (x1:X<ah m 4) (hfull:sqI c m X=2*dq c X+1) :
  InjI c (ao m (lY c X) (2*dq c X+2)) cE d0∧(∀ k,oo c (ao m (lY c X) (2*dq c X+2)) k=oo c m k)∧∀ y,sqI c m y≠2*dq c X+1→sqI c (ao m (lY c X) (2*dq c X+2)) y=sqI c m y:=by
 have hs:=lG hc hl
 obtain ⟨l4,l5⟩:=wM hc hl X (2*dq c X+2)
 have sq:=fun y=>w9 hc hl X (2*dq c X+2) y
 have vl:=fun y=>rC hc hl X (2*dq c X+2) y
 have ht:=hI.ht
 have hR:=hI.r X x0 x1
 rw [Aa] at hR
 have ss:∀ y,y%c.2.2.1=X%c.2.2.1→sqI c m y=2*dq c X+1:=fun y e=>by rw [pb hc hl e,hfull]
 have lt:∀ y,y%c.2.2.1=X%c.2.2.1→y<X→dq c y<dq c X:=fun y e h=>Kp hc e h
 have gt:∀ y,y%c.2.2.1=X%c.2.2.1→X<y→dq c X<dq c y:=fun y e h=>Kp hc e.symm h
 have none:∀ y,y%c.2.2.1=X%c.2.2.1→X<y→ah m 5≤y:=fun y e h=>by
  by_cases hy:ah m 5≤y
  ·exact hy
  ·exfalso
   have ha:=hI.a y (by omega) (by omega)
   have hg:=gt y e h
   have hsy:=ss y e
   rw [if_neg (by omega)] at ha
   have:=hE y (by omega)
   omega
 refine ⟨⟨by rw [l4];exact hI.h0,by rw [l4,l5];exact hI.ht,by rw [l5];exact hI.tb,fun x a b => ?_,fun x hx => ?_,fun x a b => ?_,fun x hx => ?_⟩,fun k => ?_,fun y hy => ?_⟩
 ·rw [l5] at b
  have hx:=hI.a x a b
  rw [sq]
  split
  ·rename_i e
   have hsx:=ss x e
   rcases Int.lt_trichotomy x X with h | h | h
   ·have:=lt x e h
    rw [if_pos (by omega)] at hx ⊢
    exact hx
   ·subst h
    rw [if_pos (by omega)] at hx ⊢
    exact hx
   ·have:=none x e h
    omega
  ·exact hx
 ·rw [l5] at hx
  obtain ⟨b1,b2⟩:=hI.b x hx
  rw [sq]
  refine ⟨b1,?_⟩
  split
  ·rename_i e
   have:=gt x e (by omega)
   omega
  ·exact b2
 ·rw [l4] at b
  have hx:=hI.r x a b
  rw [sq]
  by_cases e:x%c.2.2.1=X%c.2.2.1
  ·rw [if_pos e]
   have hsx:=ss x e
   rcases Int.lt_trichotomy x X with h | h | h
   ·have:=lt x e h
    rw [oP (by omega)] at hx
    rw [if_pos (by omega)] at hx ⊢
    exact hx
   ·subst h
    rw [if_pos (by omega)]
    rw [if_neg (by omega)] at hR
    omega
   ·have:=none x e h
    omega
  ·rw [if_neg e]
   have hne:x≠X:=fun h=>e (by rw [h])
   rw [oP hne] at hx
   exact hx
 ·rw [l4] at hx
  obtain ⟨d1,d2⟩:=hI.d x hx
  rw [sq]
  refine ⟨by omega,?_⟩
  split
  ·rename_i e
   have:=gt x e (by omega)
   omega
  ·exact d2
 ·unfold oo
  rw [l4,l5]
  refine fq fun i hi => ?_
  rw [sq,vl,if_neg]
  intro e
  have:=none _ e (by omega)
  omega
 ·rw [sq,if_neg]
  intro e
  exact hy (ss y e)
end
end Go.Ab
set_option linter.unusedVariables false
namespace Go.Ab
def adr (c:CF) (v j:Int):Int:=6+2*c.2.2.1+(v*(3+c.2.1)+j)
def dT (c:CF) (m:List Int) (v:Int):Int:=ah m (adr c v 0)
def dB (c:CF) (m:List Int) (v:Int):Int:=ah m (adr c v 1)
def dS (c:CF) (m:List Int) (v x:Int):Int:=ah m (adr c v (3+x%c.2.1))
theorem aaF {c:CF} (hc:da c=true) {x:Int} (h0:0≤x) (h1:x≤18446744073709551615):wL .u64 x (c.2.1 - 1)=x%c.2.1:=by
 have hD:=(aA hc).2.2.1
 generalize c.2.1=D at hD ⊢
 obtain ⟨a,rfl⟩:=Int.eq_ofNat_of_zero_le h0
 rcases hD with rfl | rfl | rfl | rfl | rfl
 ·rw [show (1:Int) - 1=((0:Nat):Int) by decide,Uo (by omega) (by omega),Nat.and_zero]
  omega
 ·rw [show (2:Int) - 1=((2 ^ 1 - 1:Nat):Int) by decide,Uo (by omega) (by omega),Nat.and_two_pow_sub_one_eq_mod]
  omega
 ·rw [show (4:Int) - 1=((2 ^ 2 - 1:Nat):Int) by decide,Uo (by omega) (by omega),Nat.and_two_pow_sub_one_eq_mod]
  omega
 ·rw [show (8:Int) - 1=((2 ^ 3 - 1:Nat):Int) by decide,Uo (by omega) (by omega),Nat.and_two_pow_sub_one_eq_mod]
  omega
 ·rw [show (16:Int) - 1=((2 ^ 4 - 1:Nat):Int) by decide,Uo (by omega) (by omega),Nat.and_two_pow_sub_one_eq_mod]
  omega
section
variable {c:CF} (hc:da c=true) {v:Int} (h0:0≤v) (h1:v<c.1)
include hc h0 h1
theorem JV (j:Int):onW c v j=adr c v j:=by
 unfold onW adr wT
 rw [if_pos ⟨hc,h0,h1⟩]
 omega
theorem Jf:Hn c v=adr c v 0:=JV hc h0 h1 0
theorem H3:Ix c v=adr c v 1:=JV hc h0 h1 1
theorem E4 {x:Int} (x0:0≤x) (x1:x≤18446744073709551615):pA c v x=adr c v (3+x%c.2.1):=by
 unfold pA
 rw [JV hc h0 h1,aaF hc x0 x1]
theorem C2 {m:List Int} (hl:(m.length:Int)=bG c) {j:Int} (j0:0≤j) (j1:j<3+c.2.1):6+2*c.2.2.1≤adr c v j∧adr c v j<m.length:=by
 have hm:=aA hc
 have ht:=dG hc h0 (by omega)
 have hs:bG c=wT c c.1:=by unfold bG;rw [if_pos hc]
 rw [hl,hs]
 unfold adr wT
 have hD:=hm.2.2.1
 refine ⟨by omega,?_⟩
 generalize c.2.1=D at hD j1 ⊢
 rcases hD with rfl | rfl | rfl | rfl | rfl <;> omega
end
theorem r5 {c:CF} (hc:da c=true) {u v j k:Int} (hj:0≤j∧j<3+c.2.1) (hk:0≤k∧k<3+c.2.1) (h:u≠v∨j≠k):adr c u j≠adr c v k:=by
 have hD:=(aA hc).2.2.1
 unfold adr
 generalize c.2.1=D at hD hj hk ⊢
 rcases hD with rfl | rfl | rfl | rfl | rfl <;> omega
theorem Bn {c:CF} (hc:da c=true) (x:Int):0≤x%c.2.1∧x%c.2.1<c.2.1:=by
 have hD:=(aA hc).2.2.1
 generalize c.2.1=D at hD ⊢
 rcases hD with rfl | rfl | rfl | rfl | rfl <;> omega
theorem ai4 {c:CF} (hc:da c=true) {x y:Int} (h:x<y) (h2:y<x+c.2.1):x%c.2.1≠y%c.2.1:=by
 have hD:=(aA hc).2.2.1
 generalize c.2.1=D at hD h2 ⊢
 rcases hD with rfl | rfl | rfl | rfl | rfl <;> omega
structure DEq (c:CF) (m m':List Int) (v:Int):Prop where
 t:dT c m' v=dT c m v
 b:dB c m' v=dB c m v
 s:∀ x,dS c m' v x=dS c m v x
theorem DEq.rfl' {c:CF} {m:List Int} {v:Int}:DEq c m m v:=⟨rfl,rfl,fun _=>rfl⟩
theorem BD {c:CF} (hc:da c=true) {m:List Int} {v i a:Int} (h:∀ j,0≤j→j<3+c.2.1→j≠2→i≠adr c v j):DEq c m (ao m i a) v:=by
 have hm:=aA hc
 refine ⟨az _ (h 0 (by decide) (by omega) (by decide)),az _ (h 1 (by decide) (by omega) (by decide)),fun x => ?_⟩
 have:=Bn hc x
 exact az _ (h _ (by omega) (by omega) (by omega))
theorem lS {c:CF} (hc:da c=true) {m:List Int} {v i a:Int} (h0:0≤v) (h1:v<c.1) (hi:i<6+2*c.2.2.1):DEq c m (ao m i a) v:=by
 refine BD hc fun j j0 j1 _ e => ?_
 have hm:=aA hc
 have ht:=dG hc h0 (by omega)
 unfold adr at e
 omega
structure InjEq (c:CF) (m m':List Int):Prop where
 h:ah m' 4=ah m 4
 t:ah m' 5=ah m 5
 s:∀ x,sqI c m' x=sqI c m x
 v:∀ x,vlI c m' x=vlI c m x
theorem InjEq.rfl' {c:CF} {m:List Int}:InjEq c m m:=⟨rfl,rfl,fun _=>rfl,fun _=>rfl⟩
theorem fZ {c:CF} (hc:da c=true) {m:List Int} {i a:Int} (h:i<4∨6+2*c.2.2.1≤i):InjEq c m (ao m i a):=by
 have hm:=aA hc
 refine ⟨az _ (by omega),az _ (by omega),fun x => ?_,fun x => ?_⟩
 ·have a:=Int.emod_nonneg x (show c.2.2.1≠0 by omega)
  have b:=Int.emod_lt_of_pos x (show 0<c.2.2.1 by omega)
  refine az _ ?_
  rw [nQ hc]
  omega
 ·have a:=Int.emod_nonneg x (show c.2.2.1≠0 by omega)
  have b:=Int.emod_lt_of_pos x (show 0<c.2.2.1 by omega)
  refine az _ ?_
  rw [wn hc]
  omega
def dqN (c:CF) (m:List Int) (v hi k:Int):Nat:=(List.range (hi - dT c m v).toNat).countP fun i:Nat=>decide (dS c m v (dT c m v+(i:Int))=k)
theorem r7 {c:CF} {m m':List Int} {v hi k:Int} (ht:dT c m' v=dT c m v) (hs:∀ y,dT c m v≤y→y<hi→dS c m' v y=dS c m v y):dqN c m' v hi k=dqN c m v hi k:=by
 unfold dqN
 rw [ht]
 refine fq fun i hi => ?_
 rw [hs _ (by omega) (by omega)]
theorem J4 {c:CF} {m:List Int} {v hi k:Int} (h:dT c m v≤hi):dqN c m v (hi+1) k=dqN c m v hi k+if dS c m v hi=k then 1 else 0:=by
 unfold dqN
 rw [show (hi+1 - dT c m v).toNat=(hi - dT c m v).toNat+1 by omega,List.range_succ,List.countP_append,List.countP_cons,List.countP_nil,show dT c m v+(((hi - dT c m v).toNat:Nat):Int)=hi by omega]
 by_cases e:dS c m v hi=k
 ·rw [if_pos e,decide_eq_true e]
  rfl
 ·rw [if_neg e,decide_eq_false e]
  rfl
theorem P5 {c:CF} {m m':List Int} {v hi k:Int} (h:dT c m v<hi) (ht:dT c m' v=dT c m v+1) (hs:∀ x,dS c m' v x=dS c m v x):dqN c m v hi k=dqN c m' v hi k+if dS c m v (dT c m v)=k then 1 else 0:=by
 unfold dqN
 rw [ht,show (hi - dT c m v).toNat=(hi - (dT c m v+1)).toNat+1 by omega,List.range_succ_eq_map,List.countP_cons,List.countP_map]
 have h1:(List.range (hi - (dT c m v+1)).toNat).countP ((fun i:Nat=>decide (dS c m v (dT c m v+(i:Int))=k)) ∘ Nat.succ)=(List.range (hi - (dT c m v+1)).toNat).countP (fun i:Nat=>decide (dS c m' v (dT c m v+1+(i:Int))=k)):=fq fun i _=>by
  rw [hs,show dT c m v+1+(i:Int)=dT c m v+((i+1:Nat):Int) by omega]
  rfl
 rw [h1]
 congr 1
 rw [show dT c m v+((0:Nat):Int)=dT c m v by omega]
 by_cases e:dS c m v (dT c m v)=k
 ·rw [if_pos e,decide_eq_true e]
  rfl
 ·rw [if_neg e,decide_eq_false e]
  rfl
theorem Xi {c:CF} {m:List Int} {v hi k:Int} (h:hi≤dT c m v):dqN c m v hi k=0:=by
 unfold dqN
 rw [show (hi - dT c m v).toNat=0 by omega]
 rfl
structure PsF (c:CF) (m:List Int) (v:Int) (f:FR):Prop where
 op:f.1=0
 who:f.2.2.1=v
 res:f.2.2.2.2.2.2=0
 pc:0≤f.2.1∧f.2.1≤3
 p1:1≤f.2.1→f.2.2.2.2.1=dB c m v
 p2:2≤f.2.1→f.2.2.2.2.2.1≤dT c m v∧f.2.2.2.2.1 - f.2.2.2.2.2.1<c.2.1
 p3:f.2.1=3→dS c m v f.2.2.2.2.1=f.2.2.2.1
def hiP (f:FR) (b:Int):Int:=if f.2.1=2∨f.2.1=4∨f.2.1=5∨f.2.1=6∨f.2.1=3∧f.2.2.2.2.1=f.2.2.2.2.2.1 then fh b 1 else b
structure PoF (c:CF) (m:List Int) (v:Int) (f:FR):Prop where
 op:f.1=1
 who:f.2.2.1=v
 res:f.2.2.2.2.2.2=0
 pc:0≤f.2.1∧f.2.1≤6
 p1:f.2.1=1→f.2.2.2.2.1=PO (dB c m v) 1
 p2:2≤f.2.1→f.2.2.2.2.1=dB c m v
 p3:f.2.1=3∨f.2.1=4→0≤f.2.2.2.2.2.1∧f.2.2.2.2.2.1≤dT c m v∧f.2.2.2.2.2.1≤f.2.2.2.2.1
 p4:f.2.1=4→f.2.2.2.2.2.1=f.2.2.2.2.1∧f.2.2.2.1=dS c m v f.2.2.2.2.1
 p5:f.2.1=5∨f.2.1=6→dT c m v=fh (dB c m v) 1
def hdP (c:CF) (m:List Int) (f:FR) (k:Int):Nat:=if f.2.1=3∧f.2.2.2.2.1≠f.2.2.2.2.2.1∧dS c m f.2.2.1 f.2.2.2.2.1=k∨f.2.1=5∧f.2.2.2.1=k then 1 else 0
structure VOk (c:CF) (m:List Int) (v hi:Int):Prop where
 t0:0≤dT c m v
 le:dT c m v≤hi
 rm:hi≤dT c m v+c.2.1
 bd:hi≤1000000
structure ThF (c:CF) (m:List Int) (hi:Int) (f:FR):Prop where
 op:f.1=2
 res:f.2.2.2.2.2.2=0
 pc:0≤f.2.1∧f.2.1≤3
 p1:1≤f.2.1→0≤f.2.2.2.2.2.1∧f.2.2.2.2.2.1≤dT c m f.2.2.1
 p2:2≤f.2.1→f.2.2.2.2.2.1=dT c m f.2.2.1→dT c m f.2.2.1<hi
 p3:f.2.1=3→f.2.2.2.2.2.1=dT c m f.2.2.1→f.2.2.2.1=dS c m f.2.2.1 (dT c m f.2.2.1)
theorem ThF.stay {c:CF} {m m':List Int} {hi hi':Int} {f:FR} (h:ThF c m hi f) (ht:dT c m' f.2.2.1=dT c m f.2.2.1) (hh:dT c m f.2.2.1<hi→dT c m f.2.2.1<hi'∧dS c m' f.2.2.1 (dT c m f.2.2.1)=dS c m f.2.2.1 (dT c m f.2.2.1)):ThF c m' hi' f:=by
 refine ⟨h.op,h.res,h.pc,fun e=>by rw [ht];exact h.p1 e,fun e e2 => ?_,fun e e2 => ?_⟩
 ·rw [ht] at e2 ⊢
  exact (hh (h.p2 e e2)).1
 ·rw [ht] at e2 ⊢
  rw [h.p3 e e2,(hh (h.p2 (by omega) e2)).2]
theorem ThF.top {c:CF} {m m':List Int} {hi hi':Int} {f:FR} (h:ThF c m hi f) (ht:dT c m' f.2.2.1=dT c m f.2.2.1+1):ThF c m' hi' f:=by
 refine ⟨h.op,h.res,h.pc,fun e=>by rw [ht];have:=h.p1 e;omega,fun e e2 => ?_,fun e e2 => ?_⟩
 ·have:=h.p1 (by omega)
  omega
 ·have:=h.p1 (by omega)
  omega
theorem GN {a b:Int} (ha:0≤a∧a≤1000000) (hb:0≤b∧b≤1000000):uK a b=a - b:=by
 unfold uK
 rw [gR]
 simp only [IntKind.wrap,IntKind.bits,IntKind.signed]
 simp
 omega
theorem OZ {b:Int} (hb:0≤b∧b≤1000000):uK 18446744073709551615 b = -1 - b:=by
 unfold uK
 rw [gR]
 simp only [IntKind.wrap,IntKind.bits,IntKind.signed]
 simp
 omega
end Go.Ab
set_option linter.unusedVariables false
namespace Go.Ab
theorem lE {a:Int} (h:0≤a∧a≤1000000):fh a 1=a+1:=by unfold fh;omega
theorem P6 {c:CF} {m:List Int} (hc:da c=true) (hl:(m.length:Int)=bG c) {f:FR} {op pcs:Int} (h:f.2.2.2.2.2.2=0∧0≤f.2.2.1∧f.2.2.1<c.1∧f.1=op∧0≤f.2.1∧f.2.1<pcs):¬ pW c m f op pcs=false:=by
 unfold pW
 rw [hc,decide_eq_true hl,decide_eq_true h]
 decide
theorem EW {m:List Int} {i o n:Int} (h0:0≤i) (h1:i<m.length) (h:ah m i=o):pP m i o n=(ao m i n,true):=by
 unfold pP
 rw [if_pos ⟨h0,h1,h⟩]
theorem Lz {m:List Int} {i o n:Int} (h:ah m i≠o):pP m i o n=(m,false):=by
 unfold pP
 rw [if_neg (fun e=>h e.2.2)]
section
variable {c:CF} {m:List Int} (hc:da c=true) (hl:(m.length:Int)=bG c) {v:Int} (h0:0≤v) (h1:v<c.1) {f:FR}
include hc hl h0 h1
theorem uw {j a:Int} (j0:0≤j) (j1:j<3+c.2.1):InjEq c m (ao m (adr c v j) a)∧∀ u,u≠v→DEq c m (ao m (adr c v j) a) u:=
 ⟨fZ hc (.inr (C2 hc h0 h1 hl j0 j1).1),fun u hu=>BD hc fun i i0 i1 _ e=>r5 hc ⟨j0,j1⟩ ⟨i0,i1⟩ (.inl fun e2=>hu e2.symm) e⟩
theorem Ow {a:Int}:dT c (ao m (adr c v 1) a) v=dT c m v∧dB c (ao m (adr c v 1) a) v=a∧∀ x,dS c (ao m (adr c v 1) a) v x=dS c m v x:=by
 have hD:=(aA hc).2.2.1
 have hin:=C2 hc h0 h1 hl (j:=1) (by decide) (by omega)
 refine ⟨az _ (r5 hc ⟨by decide,by omega⟩ ⟨by decide,by omega⟩ (.inr (by decide))),dZ _ (by have:=(aA hc).2.2.2.1;omega) hin.2,fun x => ?_⟩
 have:=Bn hc x
 exact az _ (r5 hc ⟨by decide,by omega⟩ ⟨by omega,by omega⟩ (.inr (by omega)))
theorem Wv {a:Int}:dT c (ao m (adr c v 0) a) v=a∧dB c (ao m (adr c v 0) a) v=dB c m v∧∀ x,dS c (ao m (adr c v 0) a) v x=dS c m v x:=by
 have hD:=(aA hc).2.2.1
 have hin:=C2 hc h0 h1 hl (j:=0) (by decide) (by omega)
 refine ⟨dZ _ (by have:=(aA hc).2.2.2.1;omega) hin.2,az _ (r5 hc ⟨by decide,by omega⟩ ⟨by decide,by omega⟩ (.inr (by decide))),fun x => ?_⟩
 have:=Bn hc x
 exact az _ (r5 hc ⟨by decide,by omega⟩ ⟨by omega,by omega⟩ (.inr (by omega)))
theorem abx {X a:Int}:dT c (ao m (adr c v (3+X%c.2.1)) a) v=dT c m v∧dB c (ao m (adr c v (3+X%c.2.1)) a) v=dB c m v∧dS c (ao m (adr c v (3+X%c.2.1)) a) v X=a∧∀ x,x%c.2.1≠X%c.2.1→dS c (ao m (adr c v (3+X%c.2.1)) a) v x=dS c m v x:=by
 have hD:=(aA hc).2.2.1
 have hX:=Bn hc X
 have hin:=C2 hc h0 h1 hl (j:=3+X%c.2.1) (by omega) (by omega)
 refine ⟨az _ (r5 hc ⟨by omega,by omega⟩ ⟨by decide,by omega⟩ (.inr (by omega))),az _ (r5 hc ⟨by omega,by omega⟩ ⟨by decide,by omega⟩ (.inr (by omega))),dZ _ (by have:=(aA hc).2.2.2.1;omega) hin.2,fun x hx => ?_⟩
 have:=Bn hc x
 exact az _ (r5 hc ⟨by omega,by omega⟩ ⟨by omega,by omega⟩ (.inr (by omega)))
theorem Oo (hf:PsF c m v f) (hv:VOk c m v (dB c m v)) :
  InjEq c m (eq c m f).1∧(∀ u,u≠v→DEq c m (eq c m f).1 u)∧dT c (eq c m f).1 v=dT c m v∧(∀ y,dT c m v≤y→y<dB c m v→dS c (eq c m f).1 v y=dS c m v y) ∧
   ((ea (eq c m f).2=false∧PsF c (eq c m f).1 v (eq c m f).2∧dB c (eq c m f).1 v=dB c m v∧(eq c m f).2.2.2.2.1=f.2.2.2.1) ∨
    (ea (eq c m f).2=true∧(eq c m f).2.2.2.2.2.2.2=2∧dB c (eq c m f).1 v=dB c m v∧(eq c m f).2.2.2.2.1=f.2.2.2.1) ∨
    (ea (eq c m f).2=true∧(eq c m f).2.2.2.2.2.2.2=1∧dB c (eq c m f).1 v=dB c m v+1∧dB c m v+1≤dT c m v+c.2.1∧dS c (eq c m f).1 v (dB c m v)=f.2.2.2.1)):=by
 obtain ⟨op,pc,who,val,X,Y,res⟩:=f
 obtain ⟨ho,hw,hr,hp,p1,p2,p3⟩:=hf
 obtain ⟨t0,tl,rm,bd⟩:=hv
 dsimp only at *
 subst ho hw hr
 rw [eq,if_neg (P6 hc hl ⟨rfl,h0,h1,rfl,by dsimp only;omega,by dsimp only;omega⟩)]
 dsimp only
 rw [Jf hc h0 h1,H3 hc h0 h1]
 have eT:ah m (adr c who 0)=dT c m who:=rfl
 have eB:ah m (adr c who 1)=dB c m who:=rfl
 rw [eT,eB]
 by_cases e0:pc=0
 ·rw [if_pos e0]
  exact ⟨.rfl',fun _ _ => .rfl',rfl,fun _ _ _=>rfl,.inl ⟨rfl,⟨rfl,rfl,rfl,by dsimp only;decide,fun _=>rfl,fun h=>absurd h (show ¬ (2:Int)≤1 by decide),fun h=>absurd h (show ¬ (1:Int)=3 by decide)⟩,rfl,rfl⟩⟩
 rw [if_neg e0]
 have eX:=p1 (by omega)
 subst eX
 by_cases e1:pc=1
 ·rw [if_pos e1]
  have hs:PO (dB c m who) (dT c m who)=dB c m who - dT c m who:=by unfold PO;omega
  rw [hs]
  by_cases hfull:c.2.1≤dB c m who - dT c m who
  ·rw [if_pos hfull]
   exact ⟨.rfl',fun _ _ => .rfl',rfl,fun _ _ _=>rfl,.inr (.inl ⟨rfl,rfl,rfl,rfl⟩)⟩
  ·rw [if_neg hfull]
   exact ⟨.rfl',fun _ _ => .rfl',rfl,fun _ _ _=>rfl,.inl ⟨rfl,⟨rfl,rfl,rfl,by dsimp only;decide,fun _=>rfl,fun h=>⟨Int.le_refl _,by dsimp only;omega⟩,fun h=>absurd h (show ¬ (2:Int)=3 by decide)⟩,rfl,rfl⟩⟩
 rw [if_neg e1]
 have e2':=p2 (by omega)
 by_cases e2:pc=2
 ·rw [if_pos e2,E4 hc h0 h1 (by omega) (by omega)]
  have hX:=Bn hc (dB c m who)
  obtain ⟨a1,a2⟩:=uw hc hl h0 h1 (j:=3+dB c m who%c.2.1) (a:=val) (by omega) (by omega)
  obtain ⟨b1,b2,b3,b4⟩:=abx hc hl h0 h1 (X:=dB c m who) (a:=val)
  refine ⟨a1,a2,b1,fun y y0 y1=>b4 y (ai4 hc y1 (by omega)),.inl ⟨rfl,⟨rfl,rfl,rfl,by dsimp only;decide,fun _=>b2.symm,fun _=>⟨by rw [b1];exact e2'.1,e2'.2⟩,fun _=>b3⟩,b2,rfl⟩⟩
 ·rw [if_neg e2]
  obtain ⟨a1,a2⟩:=uw hc hl h0 h1 (j:=1) (a:=fh (dB c m who) 1) (by decide) (by have:=(aA hc).2.2.1;omega)
  obtain ⟨b1,b2,b3⟩:=Ow hc hl h0 h1 (a:=fh (dB c m who) 1)
  refine ⟨a1,a2,b1,fun y _ _=>b3 y,.inr (.inr ⟨rfl,rfl,by rw [b2,lE (by omega)],by omega,by rw [b3];exact p3 (by omega)⟩)⟩
theorem Sq (hwm:Wm m) (hf:PoF c m v f) (hv:VOk c m v (hiP f (dB c m v))) :
  InjEq c m (iK c m f).1∧(∀ u,u≠v→DEq c m (iK c m f).1 u)∧(∀ y,dS c (iK c m f).1 v y=dS c m v y) ∧
   ((ea (iK c m f).2=false∧PoF c (iK c m f).1 v (iK c m f).2∧VOk c (iK c m f).1 v (hiP (iK c m f).2 (dB c (iK c m f).1 v))∧hiP (iK c m f).2 (dB c (iK c m f).1 v)≤hiP f (dB c m v) ∧
     (∀ k,dqN c (iK c m f).1 v (hiP (iK c m f).2 (dB c (iK c m f).1 v)) k+hdP c (iK c m f).1 (iK c m f).2 k=dqN c m v (hiP f (dB c m v)) k+hdP c m f k) ∧
     (dT c (iK c m f).1 v=dT c m v∧(dT c m v<hiP f (dB c m v)→dT c m v<hiP (iK c m f).2 (dB c (iK c m f).1 v))∨dT c (iK c m f).1 v=dT c m v+1)) ∨
    (ea (iK c m f).2=true∧dT c (iK c m f).1 v=dT c m v∧dB c (iK c m f).1 v=hiP f (dB c m v) ∧
     ((iK c m f).2.2.2.2.2.2.2=1∧(∀ k,hdP c m f k=if (iK c m f).2.2.2.2.1=k then 1 else 0)∨(iK c m f).2.2.2.2.2.2.2≠1∧∀ k,hdP c m f k=0))):=by
 obtain ⟨op,pc,who,val,X,Y,res⟩:=f
 obtain ⟨ho,hw,hr,hp,p1,p2,p3,p4,p5⟩:=hf
 dsimp only at *
 subst ho hw hr
 have hm:=aA hc
 rw [iK,if_neg (P6 hc hl ⟨rfl,h0,h1,rfl,by dsimp only;omega,by dsimp only;omega⟩)]
 dsimp only
 rw [Jf hc h0 h1,H3 hc h0 h1]
 have eT:ah m (adr c who 0)=dT c m who:=rfl
 have eB:ah m (adr c who 1)=dB c m who:=rfl
 rw [eT,eB]
 by_cases e0:pc=0
 ·subst e0
  rw [if_pos rfl]
  dsimp only
  refine ⟨.rfl',fun _ _ => .rfl',fun _=>rfl,.inl ⟨rfl,⟨rfl,rfl,rfl,by dsimp only;decide,fun _=>rfl,fun h=>absurd h (show ¬ (2:Int)≤1 by decide),fun h=>absurd h (show ¬ ((1:Int)=3∨(1:Int)=4) by decide),fun h=>absurd h (show ¬ (1:Int)=4 by decide),fun h=>absurd h (show ¬ ((1:Int)=5∨(1:Int)=6) by decide)⟩,hv,Int.le_refl _,fun k=>rfl,.inl ⟨rfl,fun h=>h⟩⟩⟩
 rw [if_neg e0]
 by_cases e1:pc=1
 ·subst e1
  rw [if_pos rfl]
  have eX:=p1 rfl
  obtain ⟨a1,a2⟩:=uw hc hl h0 h1 (j:=1) (a:=X) (by decide) (by omega)
  obtain ⟨b1,b2,b3⟩:=Ow hc hl h0 h1 (a:=X)
  obtain ⟨t0,tl,rm,bd⟩:=hv
  have hh:hiP (1,1,who,val,X,Y,0) (dB c m who)=dB c m who:=rfl
  rw [hh] at tl rm bd
  have hh':hiP (1,2,who,val,X,Y,0) (dB c (ao m (adr c who 1) X) who)=dB c m who:=by
   unfold hiP
   rw [if_pos (.inl rfl),b2,eX]
   unfold fh PO
   omega
  rw [hh',hh]
  refine ⟨a1,a2,b3,.inl ⟨rfl,⟨rfl,rfl,rfl,by dsimp only;decide,fun h=>absurd h (show ¬ (2:Int)=1 by decide),fun _=>b2.symm,fun h=>absurd h (show ¬ ((2:Int)=3∨(2:Int)=4) by decide),fun h=>absurd h (show ¬ (2:Int)=4 by decide),fun h=>absurd h (show ¬ ((2:Int)=5∨(2:Int)=6) by decide)⟩,⟨by rw [b1];exact t0,by rw [b1];exact tl,by rw [b1];exact rm,bd⟩,Int.le_refl _,fun k => ?_,.inl ⟨b1,fun h=>h⟩⟩⟩
  rw [r7 b1 (fun y _ _=>b3 y)]
  rfl
 rw [if_neg e1]
 have eX:=p2 (by omega)
 subst eX
 by_cases e2:pc=2
 ·subst e2
  rw [if_pos rfl]
  obtain ⟨t0,tl,rm,bd⟩:=hv
  have hh:hiP (1,2,who,val,dB c m who,Y,0) (dB c m who)=fh (dB c m who) 1:=rfl
  rw [hh] at tl rm bd ⊢
  by_cases hx:dB c m who=18446744073709551615
  ·have ha:fh (dB c m who) 1=0:=by rw [hx];rfl
   have hfar:uK (dB c m who) (dT c m who)<0:=by rw [hx,OZ (by omega)];omega
   rw [if_pos hfar]
   dsimp only
   have hh':hiP (1,6,who,val,dB c m who,dT c m who,0) (dB c m who)=fh (dB c m who) 1:=rfl
   rw [hh']
   refine ⟨.rfl',fun _ _ => .rfl',fun _=>rfl,.inl ⟨rfl,⟨rfl,rfl,rfl,by dsimp only;decide,fun h=>absurd h (show ¬ (6:Int)=1 by decide),fun _=>rfl,fun h=>absurd h (show ¬ ((6:Int)=3∨(6:Int)=4) by decide),fun h=>absurd h (show ¬ (6:Int)=4 by decide),fun h=>by omega⟩,⟨t0,tl,rm,bd⟩,Int.le_refl _,fun k=>rfl,.inl ⟨rfl,fun h=>h⟩⟩⟩
  ·by_cases hneg:dB c m who<0∨1000000<dB c m who
   ·exfalso
    have hr:=ct hwm (adr c who 1)
    rw [eB] at hr
    unfold fh at tl rm bd
    omega
   have hb:0≤dB c m who∧dB c m who≤1000000:=by omega
   rw [lE hb] at tl rm bd ⊢
   rw [GN hb (by omega)]
   by_cases hlt:dB c m who - dT c m who<0
   ·rw [if_pos hlt]
    dsimp only
    have hh':hiP (1,6,who,val,dB c m who,dT c m who,0) (dB c m who)=dB c m who+1:=by
     rw [← lE hb];rfl
    rw [hh']
    refine ⟨.rfl',fun _ _ => .rfl',fun _=>rfl,.inl ⟨rfl,⟨rfl,rfl,rfl,by dsimp only;decide,fun h=>absurd h (show ¬ (6:Int)=1 by decide),fun _=>rfl,fun h=>absurd h (show ¬ ((6:Int)=3∨(6:Int)=4) by decide),fun h=>absurd h (show ¬ (6:Int)=4 by decide),fun h=>by rw [lE hb];omega⟩,⟨t0,tl,rm,bd⟩,Int.le_refl _,fun k=>rfl,.inl ⟨rfl,fun h=>h⟩⟩⟩
   ·rw [if_neg hlt]
    dsimp only
    have hP:PoF c m who (1,3,who,val,dB c m who,dT c m who,0):=⟨rfl,rfl,rfl,by dsimp only;decide,fun h=>absurd h (show ¬ (3:Int)=1 by decide),fun _=>rfl,fun h=>⟨t0,Int.le_refl _,by dsimp only;omega⟩,fun h=>absurd h (show ¬ (3:Int)=4 by decide),fun h=>absurd h (show ¬ ((3:Int)=5∨(3:Int)=6) by decide)⟩
    by_cases heq:dB c m who=dT c m who
    ·have hh':hiP (1,3,who,val,dB c m who,dT c m who,0) (dB c m who)=dB c m who+1:=by
      unfold hiP
      rw [if_pos (.inr (.inr (.inr (.inr ⟨rfl,heq⟩)))),lE hb]
     rw [hh']
     refine ⟨.rfl',fun _ _ => .rfl',fun _=>rfl,.inl ⟨rfl,hP,⟨t0,tl,rm,bd⟩,Int.le_refl _,fun k => ?_,.inl ⟨rfl,fun h=>h⟩⟩⟩
     unfold hdP
     rw [if_neg (by dsimp only;omega),if_neg (by dsimp only;omega)]
    ·have hh':hiP (1,3,who,val,dB c m who,dT c m who,0) (dB c m who)=dB c m who:=by
      unfold hiP
      rw [if_neg (by dsimp only;omega)]
     rw [hh']
     refine ⟨.rfl',fun _ _ => .rfl',fun _=>rfl,.inl ⟨rfl,hP,⟨t0,by omega,by omega,by omega⟩,by omega,fun k => ?_,.inl ⟨rfl,fun h=>by omega⟩⟩⟩
     rw [J4 (by omega)]
     unfold hdP
     rw [if_neg (c:=((1:Int),(2:Int),who,val,dB c m who,Y,(0:Int)).2.1=3∧_∨_) (by dsimp only;omega)]
     by_cases hk:dS c m who (dB c m who)=k
     ·rw [if_pos (.inl ⟨rfl,heq,hk⟩),if_pos hk]
     ·rw [if_neg (by dsimp only;omega),if_neg hk]
 rw [if_neg e2]
 by_cases e3:pc=3
 ·subst e3
  rw [if_pos rfl]
  obtain ⟨q0,q1,q2⟩:=p3 (.inl rfl)
  have hb0:0≤dB c m who:=by omega
  have hb1:dB c m who≤1000000:=by
   have hr:=ct hwm (adr c who 1)
   rw [eB] at hr
   have b1:=hv.bd
   have b2:=hv.le
   unfold hiP at b1 b2
   dsimp only at b1 b2
   unfold fh at b1 b2
   split at b1
   ·rw [if_pos (by assumption)] at b2
    omega
   ·omega
  rw [E4 hc h0 h1 (by omega) (by omega)]
  have eS:ah m (adr c who (3+dB c m who%c.2.1))=dS c m who (dB c m who):=rfl
  rw [eS]
  by_cases hxy:dB c m who=Y
  ·rw [if_neg (fun h=>h hxy)]
   have hh:hiP (1,3,who,val,dB c m who,Y,0) (dB c m who)=fh (dB c m who) 1:=by
    unfold hiP
    rw [if_pos (.inr (.inr (.inr (.inr ⟨rfl,hxy⟩))))]
   have hh':hiP (1,4,who,dS c m who (dB c m who),dB c m who,Y,0) (dB c m who)=fh (dB c m who) 1:=rfl
   rw [hh] at hv ⊢
   rw [hh']
   refine ⟨.rfl',fun _ _ => .rfl',fun _=>rfl,.inl ⟨rfl,⟨rfl,rfl,rfl,by dsimp only;decide,fun h=>absurd h (show ¬ (4:Int)=1 by decide),fun _=>rfl,fun _=>⟨q0,q1,q2⟩,fun _=>⟨hxy.symm,rfl⟩,fun h=>absurd h (show ¬ ((4:Int)=5∨(4:Int)=6) by decide)⟩,hv,Int.le_refl _,fun k => ?_,.inl ⟨rfl,fun h=>h⟩⟩⟩
   unfold hdP
   rw [if_neg (by dsimp only;omega),if_neg (by dsimp only;omega)]
  ·rw [if_pos hxy]
   have hh:hiP (1,3,who,val,dB c m who,Y,0) (dB c m who)=dB c m who:=by
    unfold hiP
    rw [if_neg (by dsimp only;omega)]
   rw [hh]
   refine ⟨.rfl',fun _ _ => .rfl',fun _=>rfl,.inr ⟨rfl,rfl,rfl,.inl ⟨rfl,fun k => ?_⟩⟩⟩
   unfold hdP
   by_cases hk:dS c m who (dB c m who)=k
   ·rw [if_pos (.inl ⟨rfl,hxy,hk⟩)]
    exact (if_pos hk).symm
   ·rw [if_neg (by dsimp only;omega)]
    exact (if_neg hk).symm
 rw [if_neg e3]
 have hh:hiP (1,pc,who,val,dB c m who,Y,0) (dB c m who)=fh (dB c m who) 1:=by
  unfold hiP
  rw [if_pos (by dsimp only;omega)]
 rw [hh] at hv ⊢
 obtain ⟨t0,tl,rm,bd⟩:=hv
 by_cases e4:pc=4
 ·subst e4
  rw [if_pos rfl]
  obtain ⟨q0,q1,q2⟩:=p3 (.inr rfl)
  obtain ⟨r1,r2⟩:=p4 rfl
  have hb:0≤dB c m who∧dB c m who≤1000000:=⟨by omega,by
   have hr:=ct hwm (adr c who 1)
   rw [eB] at hr
   unfold fh at bd tl
   omega⟩
  rw [lE hb] at tl rm bd ⊢
  have hin:=C2 hc h0 h1 hl (j:=0) (by decide) (by omega)
  by_cases hy:dT c m who=Y
  ·rw [EW (by omega) hin.2 hy]
   dsimp only
   rw [if_pos rfl]
   obtain ⟨a1,a2⟩:=uw hc hl h0 h1 (j:=0) (a:=fh Y 1) (by decide) (by omega)
   obtain ⟨b1,b2,b3⟩:=Wv hc hl h0 h1 (a:=fh Y 1)
   have hY:fh Y 1=dT c m who+1:=by rw [lE (by omega),hy]
   have hh':hiP (1,5,who,val,dB c m who,Y,0) (dB c (ao m (adr c who 0) (fh Y 1)) who)=dB c m who+1:=by
    rw [b2,← lE hb];rfl
   rw [hh']
   refine ⟨a1,a2,b3,.inl ⟨rfl,⟨rfl,rfl,rfl,by dsimp only;decide,fun h=>absurd h (show ¬ (5:Int)=1 by decide),fun _=>b2.symm,fun h=>absurd h (show ¬ ((5:Int)=3∨(5:Int)=4) by decide),fun h=>absurd h (show ¬ (5:Int)=4 by decide),fun h=>by rw [b1,b2,lE hb,hY];omega⟩,⟨by rw [b1];omega,by rw [b1];omega,by rw [b1];omega,bd⟩,Int.le_refl _,fun k => ?_,.inr (by rw [b1,hY])⟩⟩
   rw [P5 (m:=m) (m':=ao m (adr c who 0) (fh Y 1)) (by omega) (by rw [b1,hY]) b3]
   unfold hdP
   rw [if_neg (c:=((1:Int),(4:Int),who,val,dB c m who,Y,(0:Int)).2.1=3∧_∨_) (by dsimp only;omega)]
   have e:dS c m who (dT c m who)=val:=by rw [r2,hy,r1]
   rw [e]
   by_cases hk:val=k
   ·rw [if_pos (.inr ⟨rfl,hk⟩),if_pos hk]
   ·rw [if_neg (by dsimp only;omega),if_neg hk]
  ·rw [Lz hy]
   dsimp only
   rw [if_neg (by decide)]
   have hh':hiP (1,6,who,val,dB c m who,Y,0) (dB c m who)=dB c m who+1:=by
    rw [← lE hb];rfl
   rw [hh']
   refine ⟨.rfl',fun _ _ => .rfl',fun _=>rfl,.inl ⟨rfl,⟨rfl,rfl,rfl,by dsimp only;decide,fun h=>absurd h (show ¬ (6:Int)=1 by decide),fun _=>rfl,fun h=>absurd h (show ¬ ((6:Int)=3∨(6:Int)=4) by decide),fun h=>absurd h (show ¬ (6:Int)=4 by decide),fun h=>by rw [lE hb];omega⟩,⟨t0,tl,rm,bd⟩,Int.le_refl _,fun k => ?_,.inl ⟨rfl,fun h=>h⟩⟩⟩
   unfold hdP
   rw [if_neg (by dsimp only;omega),if_neg (by dsimp only;omega)]
 rw [if_neg e4]
 obtain ⟨a1,a2⟩:=uw hc hl h0 h1 (j:=1) (a:=fh (dB c m who) 1) (by decide) (by omega)
 obtain ⟨b1,b2,b3⟩:=Ow hc hl h0 h1 (a:=fh (dB c m who) 1)
 by_cases e5:pc=5
 ·subst e5
  rw [if_pos rfl]
  refine ⟨a1,a2,b3,.inr ⟨rfl,b1,b2,.inl ⟨rfl,fun k => ?_⟩⟩⟩
  unfold hdP
  by_cases hk:val=k
  ·rw [if_pos (.inr ⟨rfl,hk⟩)]
   exact (if_pos hk).symm
  ·rw [if_neg (by dsimp only;omega)]
   exact (if_neg hk).symm
 ·rw [if_neg e5]
  refine ⟨a1,a2,b3,.inr ⟨rfl,b1,b2,.inr ⟨show ¬ (3:Int)=1 by decide,fun k => ?_⟩⟩⟩
  unfold hdP
  rw [if_neg (by dsimp only;omega)]
end
theorem Mx {c:CF} {m:List Int} (hc:da c=true) (hl:(m.length:Int)=bG c) {f:FR} {hi:Int} (h0:0≤f.2.2.1) (h1:f.2.2.1<c.1) (hf:ThF c m hi f) (hv:VOk c m f.2.2.1 hi) (hb:uK (dB c m f.2.2.1) (dT c m f.2.2.1)≤0∨dT c m f.2.2.1<hi) (hw:∀ y,0≤y→y<dT c m f.2.2.1→True) :
  InjEq c m (be c m f).1∧(∀ u,u≠f.2.2.1→DEq c m (be c m f).1 u)∧(∀ y,dS c (be c m f).1 f.2.2.1 y=dS c m f.2.2.1 y)∧dB c (be c m f).1 f.2.2.1=dB c m f.2.2.1 ∧
   ((ea (be c m f).2=false∧(be c m f).1=m∧ThF c m hi (be c m f).2∧(be c m f).2.2.2.1=f.2.2.1) ∨
    (ea (be c m f).2=true∧(be c m f).2.2.2.2.2.2.2≠1∧(be c m f).1=m) ∨
    (ea (be c m f).2=true∧(be c m f).2.2.2.2.2.2.2=1∧dT c (be c m f).1 f.2.2.1=dT c m f.2.2.1+1∧dT c m f.2.2.1<hi∧(be c m f).2.2.2.2.1=dS c m f.2.2.1 (dT c m f.2.2.1))):=by
 obtain ⟨op,pc,who,val,X,Y,res⟩:=f
 obtain ⟨ho,hr,hp,p1,p2,p3⟩:=hf
 obtain ⟨t0,tl,rm,bd⟩:=hv
 dsimp only at *
 subst ho hr
 have hm:=aA hc
 rw [be,if_neg (P6 hc hl ⟨rfl,h0,h1,rfl,by dsimp only;omega,by dsimp only;omega⟩)]
 dsimp only
 rw [Jf hc h0 h1,H3 hc h0 h1]
 have eT:ah m (adr c who 0)=dT c m who:=rfl
 have eB:ah m (adr c who 1)=dB c m who:=rfl
 rw [eT,eB]
 by_cases e0:pc=0
 ·rw [if_pos e0]
  exact ⟨.rfl',fun _ _ => .rfl',fun _=>rfl,rfl,.inl ⟨rfl,rfl,⟨rfl,rfl,by dsimp only;decide,fun _=>⟨t0,Int.le_refl _⟩,fun h=>absurd h (show ¬ (2:Int)≤1 by decide),fun h=>absurd h (show ¬ (1:Int)=3 by decide)⟩,rfl⟩⟩
 rw [if_neg e0]
 have q1:=p1 (by omega)
 by_cases e1:pc=1
 ·rw [if_pos e1]
  by_cases hfar:uK (dB c m who) Y≤0
  ·rw [if_pos hfar]
   exact ⟨.rfl',fun _ _ => .rfl',fun _=>rfl,rfl,.inr (.inl ⟨rfl,show ¬ (3:Int)=1 by decide,rfl⟩)⟩
  ·rw [if_neg hfar]
   refine ⟨.rfl',fun _ _ => .rfl',fun _=>rfl,rfl,.inl ⟨rfl,rfl,⟨rfl,rfl,by dsimp only;decide,fun _=>q1,fun _ e => ?_,fun h=>absurd h (show ¬ (2:Int)=3 by decide)⟩,rfl⟩⟩
   dsimp only at e ⊢
   rw [e] at hfar
   omega
 rw [if_neg e1]
 by_cases e2:pc=2
 ·rw [if_pos e2,E4 hc h0 h1 (by omega) (by omega)]
  refine ⟨.rfl',fun _ _ => .rfl',fun _=>rfl,rfl,.inl ⟨rfl,rfl,⟨rfl,rfl,by dsimp only;decide,fun _=>q1,fun _ e=>p2 (by omega) e,fun _ e => ?_⟩,rfl⟩⟩
  dsimp only at e ⊢
  rw [e]
  rfl
 ·rw [if_neg e2]
  have hin:=C2 hc h0 h1 hl (j:=0) (by decide) (by omega)
  by_cases hy:dT c m who=Y
  ·rw [EW (by omega) hin.2 hy]
   dsimp only
   rw [if_pos rfl]
   obtain ⟨a1,a2⟩:=uw hc hl h0 h1 (j:=0) (a:=fh Y 1) (by decide) (by omega)
   obtain ⟨b1,b2,b3⟩:=Wv hc hl h0 h1 (a:=fh Y 1)
   exact ⟨a1,a2,b3,b2,.inr (.inr ⟨rfl,rfl,by dsimp only;rw [b1,lE (by omega),hy],p2 (by omega) hy.symm,p3 (by omega) hy.symm⟩)⟩
  ·rw [Lz hy]
   dsimp only
   rw [if_neg (by decide)]
   exact ⟨.rfl',fun _ _ => .rfl',fun _=>rfl,rfl,.inr (.inl ⟨rfl,show ¬ (4:Int)=1 by decide,rfl⟩)⟩
end Go.Ab
