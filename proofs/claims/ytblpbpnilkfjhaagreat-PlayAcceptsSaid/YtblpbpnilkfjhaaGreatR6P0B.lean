import Derived.Test.YtblpbpnilkfjhaaGreatR6P0A
import Derived.Test.YtblpbpnilkfjhaaGreatR6G0A
import Derived.Test.YtblpbpnilkfjhaaGreatR6G0B
import Derived.Test.YtblpbpnilkfjhaaGreatAbLibC
set_option linter.unusedVariables false
set_option linter.unusedSimpArgs false
set_option linter.unusedVariables false
namespace Go.Ab
end Go.Ab
set_option linter.unusedVariables false
namespace Go.Ab
structure Hdr (c:CF) (j:Int):Prop where
 bot:∀ w,Ke c w≠j
 slot:∀ w x,0≤x→x≤18446744073709551615→r9 c w x≠j
 seq:∀ x,nA c x≠j
 val:∀ x,CY c x≠j
 park:∀ w,f6 c w≠j
 n0:(0:Int)≠j
 n1:(1:Int)≠j
 n2:(2:Int)≠j
 n3:(3:Int)≠j
 n5:(5:Int)≠j
theorem aa3 {c:CF} {w x:Int} (hx:0≤x):onW c w x = -1∨dj c=true∧0≤w∧w<c.1∧onW c w x=6+2*c.2.2.1+(w*(3+c.2.1)+x)∧8≤onW c w x:=by
 unfold onW
 split
 ·rename_i h
  have hm:=aC h.1
  have:=dX h.1 h.2.1 (by omega)
  refine .inr ⟨h.1,h.2.1,h.2.2,?_,by omega⟩
  unfold AK
  omega
 ·exact .inl rfl
theorem abx {c:CF} {w:Int}:f6 c w=onW c w 2:=by
 unfold f6 onW
 rfl
section
variable {c:CF} {m:List Int} {f:FR} {j:Int} (hj:Hdr c j) (hf:Wf f)
include hj hf
end
section
variable {c:CF} {t:Tyt} {m:List Int} {w:Int} {x:WB} {d:Int} {j:Int}
end
structure Ew (c:CF) (m m':List Int) (me:Int):Prop where
 ep:epB (ah m' 2)=epB (ah m 2)∨epB (ah m' 2)=epB (ah m 2)+1
 bit:∀ v,0≤v→v<c.1→v≠me→uH (ah m' 2) v=true→uH (ah m 2) v=true
theorem Ew.same {c:CF} {m m':List Int} {me:Int} (h:ah m' 2=ah m 2):Ew c m m' me:=⟨.inl (by rw [h]),fun v _ _ _ hb=>by rw [h] at hb;exact hb⟩
section
variable {c:CF} {m:List Int} {f:FR} (hc:dj c=true) (hl:(m.length:Int)=bN c) (hm:Wm m) (hf:Wf f)
include hc hl hm hf
end
end Go.Ab
set_option linter.unusedVariables false
namespace Go.Ab
def dF (c:CF) (x:Int):Int:=x/c.2.2.1
def sqI (c:CF) (m:List Int) (x:Int):Int:=ah m (nA c x)
def vlI (c:CF) (m:List Int) (x:Int):Int:=ah m (CY c x)
theorem KA {c:CF} (hc:dj c=true) {x y:Int} (h:x%c.2.2.1=y%c.2.2.1) (hl:x<y):dF c x<dF c y:=by
 have hm:=aC hc
 unfold dF
 have a:=Int.mul_ediv_add_emod x c.2.2.1
 have b:=Int.mul_ediv_add_emod y c.2.2.1
 have hp:c.2.2.1*(x/c.2.2.1)<c.2.2.1*(y/c.2.2.1):=by omega
 exact Int.lt_of_mul_lt_mul_left hp (by omega)
theorem Qv {c:CF} {x y:Int} (h:x%c.2.2.1=y%c.2.2.1) (hl:dF c x=dF c y):x=y:=by
 unfold dF at hl
 have a:=Int.mul_ediv_add_emod x c.2.2.1
 have b:=Int.mul_ediv_add_emod y c.2.2.1
 rw [hl] at a
 omega
theorem wz {c:CF} (hc:dj c=true) {x:Int} (h0:0≤x):0≤dF c x∧dF c x≤x:=by
 have hm:=aC hc
 unfold dF
 exact ⟨Int.ediv_nonneg h0 (by omega),Int.ediv_le_self _ h0⟩
theorem o8 {c:CF} (hc:dj c=true) (x:Int):nA c x=6+x%c.2.2.1:=by unfold nA;rw [if_pos hc]
theorem Aj {c:CF} (hc:dj c=true) (x:Int):CY c x=6+c.2.2.1+x%c.2.2.1:=by unfold CY;rw [if_pos hc]
theorem Jy {c:CF} (hc:dj c=true) {x:Int} (h0:0≤x) (h1:x≤1000000):Dd c x=2*dF c x:=by
 have:=wz hc h0
 unfold Dd
 unfold dF at this ⊢
 omega
theorem Pa {c:CF} (hc:dj c=true) {x:Int} (h0:0≤x) (h1:x≤1000000):Dk c x=2*dF c x+1:=by
 have:=wz hc h0
 unfold Dk fG
 rw [Jy hc h0 h1]
 omega
section
variable {c:CF} {m:List Int} (hc:dj c=true) (hl:(m.length:Int)=bN c)
include hc hl
theorem mK:6+2*c.2.2.1<m.length:=by
 have hm:=aC hc
 have:=dX hc (w:=c.1) (by omega) (by omega)
 have hs:bN c=AK c c.1:=by unfold bN;rw [if_pos hc]
 have ht:AK c c.1=6+2*c.2.2.1+c.1*(3+c.2.1):=rfl
 have hp:0<c.1*(3+c.2.1):=Int.mul_pos (by omega) (by omega)
 omega
theorem AJ (X v y:Int):sqI c (ar m (nA c X) v) y=if y%c.2.2.1=X%c.2.2.1 then v else sqI c m y:=by
 have hm:=aC hc
 have hs:=mK hc hl
 have a:=Int.emod_nonneg X (show c.2.2.1≠0 by omega)
 have b:=Int.emod_lt_of_pos X (show 0<c.2.2.1 by omega)
 unfold sqI
 rw [o8 hc,o8 hc]
 split
 ·rename_i e
  rw [e,ee _ (by omega) (by omega)]
 ·exact aE _ (by omega)
theorem uV (X v y:Int):vlI c (ar m (nA c X) v) y=vlI c m y:=by
 have _h:=hl
 have hm:=aC hc
 have a:=Int.emod_nonneg y (show c.2.2.1≠0 by omega)
 have b:=Int.emod_lt_of_pos X (show 0<c.2.2.1 by omega)
 unfold vlI
 rw [o8 hc,Aj hc]
 exact aE _ (by omega)
theorem LM (X v y:Int):vlI c (ar m (CY c X) v) y=if y%c.2.2.1=X%c.2.2.1 then v else vlI c m y:=by
 have hm:=aC hc
 have hs:=mK hc hl
 have a:=Int.emod_nonneg X (show c.2.2.1≠0 by omega)
 have b:=Int.emod_lt_of_pos X (show 0<c.2.2.1 by omega)
 unfold vlI
 rw [Aj hc,Aj hc]
 split
 ·rename_i e
  rw [e,ee _ (by omega) (by omega)]
 ·exact aE _ (by omega)
theorem GT (X v y:Int):sqI c (ar m (CY c X) v) y=sqI c m y:=by
 have _h:=hl
 have hm:=aC hc
 have a:=Int.emod_nonneg X (show c.2.2.1≠0 by omega)
 have b:=Int.emod_lt_of_pos y (show 0<c.2.2.1 by omega)
 unfold sqI
 rw [o8 hc,Aj hc]
 exact aE _ (by omega)
theorem LU {i:Int} (v y:Int) (hi:i<6):sqI c (ar m i v) y=sqI c m y:=by
 have _h:=hl
 have hm:=aC hc
 have a:=Int.emod_nonneg y (show c.2.2.1≠0 by omega)
 unfold sqI
 rw [o8 hc]
 exact aE _ (by omega)
theorem MG {i:Int} (v y:Int) (hi:i<6):vlI c (ar m i v) y=vlI c m y:=by
 have _h:=hl
 have hm:=aC hc
 have a:=Int.emod_nonneg y (show c.2.2.1≠0 by omega)
 unfold vlI
 rw [Aj hc]
 exact aE _ (by omega)
theorem AV (X v:Int):ah (ar m (nA c X) v) 4=ah m 4∧ah (ar m (nA c X) v) 5=ah m 5:=by
 have _h:=hl
 have hm:=aC hc
 have a:=Int.emod_nonneg X (show c.2.2.1≠0 by omega)
 rw [o8 hc]
 exact ⟨aE _ (by omega),aE _ (by omega)⟩
theorem L2 (X v:Int):ah (ar m (CY c X) v) 4=ah m 4∧ah (ar m (CY c X) v) 5=ah m 5:=by
 have _h:=hl
 have hm:=aC hc
 have a:=Int.emod_nonneg X (show c.2.2.1≠0 by omega)
 rw [Aj hc]
 exact ⟨aE _ (by omega),aE _ (by omega)⟩
end
structure InjI (c:CF) (m:List Int) (cE cD:Int→Nat):Prop where
 h0:0≤ah m 4
 ht:ah m 4≤ah m 5
 tb:ah m 5≤1000000
 a:∀ x,0≤x→x<ah m 5→(if 2*dF c x<sqI c m x then 1 else 0)+cE x=1
 b:∀ x,ah m 5≤x→cE x=0∧sqI c m x≤2*dF c x
 r:∀ x,0≤x→x<ah m 4→(if 2*dF c x+2≤sqI c m x then 1 else 0)+cD x=1
 d:∀ x,ah m 4≤x→cD x=0∧sqI c m x≤2*dF c x+1
structure EFr (c:CF) (m:List Int) (f:FR):Prop where
 op:f.1=3
 res:f.2.2.2.2.2.2=0
 pc:0≤f.2.1∧f.2.1≤4
 p1:f.2.1=1∨f.2.1=2→0≤f.2.2.2.2.1∧f.2.2.2.2.1≤ah m 5
 p2:f.2.1=2→f.2.2.2.2.1=ah m 5→sqI c m f.2.2.2.2.1=2*dF c f.2.2.2.2.1
 p3:3≤f.2.1→0≤f.2.2.2.2.1∧f.2.2.2.2.1<ah m 5∧sqI c m f.2.2.2.2.1=2*dF c f.2.2.2.2.1
 p4:f.2.1=4→vlI c m f.2.2.2.2.1=f.2.2.2.1
structure DFr (c:CF) (m:List Int) (f:FR):Prop where
 op:f.1=4
 res:f.2.2.2.2.2.2=0
 pc:0≤f.2.1∧f.2.1≤4
 p1:f.2.1=1∨f.2.1=2→0≤f.2.2.2.2.1∧f.2.2.2.2.1≤ah m 4
 p2:f.2.1=2→f.2.2.2.2.1=ah m 4→sqI c m f.2.2.2.2.1=2*dF c f.2.2.2.2.1+1
 p3:3≤f.2.1→0≤f.2.2.2.2.1∧f.2.2.2.2.1<ah m 4∧sqI c m f.2.2.2.2.1=2*dF c f.2.2.2.2.1+1
def clF (f:FR) (q:Int):Nat:=if 3≤f.2.1∧f.2.2.2.2.1=q then 1 else 0
def pU (c:CF) (m:List Int) (k:Int):Nat:=(List.range (ah m 5 - ah m 4).toNat).countP fun i:Nat=>decide (2*dF c (ah m 4+(i:Int))<sqI c m (ah m 4+(i:Int))∧vlI c m (ah m 4+(i:Int))=k)
def hdD (c:CF) (m:List Int) (f:FR) (k:Int):Nat:=if f.2.1=3∧vlI c m f.2.2.2.2.1=k∨f.2.1=4∧f.2.2.2.1=k then 1 else 0
theorem fV {n:Nat} {p q:Nat→Bool} (h:∀ i,i<n→p i=q i):(List.range n).countP p=(List.range n).countP q:=
 List.countP_congr fun i hi=>by rw [h i (List.mem_range.1 hi)]
theorem PO {n j:Nat} {p q:Nat→Bool} (hj:j<n) (hp:p j=false) (hq:q j=true) (h:∀ i,i<n→i≠j→p i=q i):(List.range n).countP q=(List.range n).countP p+1:=by
 have e:List.range n=List.range j++j::(List.range' (j+1) (n - j - 1)):=by
  rw [List.range_eq_range',List.range_eq_range',← List.range'_succ,show n - j - 1+1=n - j by omega]
  have:=(List.range'_append (s:=0) (m:=j) (n:=n - j) (step:=1)).symm
  rw [show j+(n - j)=n by omega] at this
  simpa using this
 rw [e,List.countP_append,List.countP_append,List.countP_cons,List.countP_cons,hp,hq]
 have h1:(List.range j).countP p=(List.range j).countP q:=fV fun i hi=>h i (by omega) (by omega)
 have h2:(List.range' (j+1) (n - j - 1)).countP p=(List.range' (j+1) (n - j - 1)).countP q:=List.countP_congr fun i hi=>by
  rw [List.mem_range'] at hi
  obtain ⟨a,b,rfl⟩:=hi
  rw [h _ (by omega) (by omega)]
 rw [h1,h2]
 simp
 omega
end Go.Ab
set_option linter.unusedVariables false
namespace Go.Ab
def OK (X q:Int):Nat:=if X=q then 1 else 0
theorem AU (X:Int):OK X X=1:=by unfold OK;rw [if_pos rfl]
theorem ru {X q:Int} (h:q≠X):OK X q=0:=by unfold OK;rw [if_neg (fun e=>h e.symm)]
section
variable {c:CF} {m:List Int} (hc:dj c=true) (hl:(m.length:Int)=bN c)
include hc hl
theorem rz {x y:Int} (e:x%c.2.2.1=y%c.2.2.1):sqI c m x=sqI c m y:=by
 have _h:=hl
 unfold sqI
 rw [o8 hc,o8 hc,e]
theorem Pq {X:Int} {cE cD:Int→Nat} (hI:InjI c m cE cD) (hX:X=ah m 5) (hfree:sqI c m X=2*dF c X) (hb:X+1≤1000000) :
  InjI c (ar m 5 (X+1)) (fun q=>cE q+OK X q) cD∧∀ k,pU c (ar m 5 (X+1)) k=pU c m k:=by
 have hs:=mK hc hl
 have hmc:=aC hc
 have l5:ah (ar m 5 (X+1)) 5=X+1:=ee _ (by decide) (by omega)
 have l4:ah (ar m 5 (X+1)) 4=ah m 4:=aE _ (by decide)
 have sq:=fun y=>LU hc hl (i:=5) (X+1) y (by decide)
 have vl:=fun y=>MG hc hl (i:=5) (X+1) y (by decide)
 have hle:=hI.ht
 have h0:=hI.h0
 refine ⟨⟨by rw [l4];exact hI.h0,by rw [l4,l5];omega,by rw [l5];exact hb,fun x x0 x1 => ?_,fun x hx => ?_,fun x x0 x1 => ?_,fun x hx => ?_⟩,fun k => ?_⟩
 ·rw [sq]
  rw [l5] at x1
  by_cases e:x=X
  ·have hb0:=(hI.b x (by omega)).1
   subst e
   rw [hfree,if_neg (by omega),AU]
   omega
  ·have:=hI.a x x0 (by omega)
   rw [ru e]
   exact this
 ·rw [l5] at hx
  obtain ⟨b1,b2⟩:=hI.b x (by omega)
  rw [sq,ru (by omega)]
  exact ⟨b1,b2⟩
 ·rw [l4] at x1
  rw [sq]
  exact hI.r x x0 x1
 ·rw [l4] at hx
  rw [sq]
  exact hI.d x hx
 ·unfold pU
  rw [l4,l5,hX]
  have e:(ah m 5+1 - ah m 4).toNat=(ah m 5 - ah m 4).toNat+1:=by omega
  rw [e,List.range_succ,List.countP_append]
  rw [← hX]
  have h1:(List.range (X - ah m 4).toNat).countP (fun i:Nat=>decide (2*dF c (ah m 4+(i:Int))<sqI c (ar m 5 (X+1)) (ah m 4+(i:Int))∧vlI c (ar m 5 (X+1)) (ah m 4+(i:Int))=k))=(List.range (X - ah m 4).toNat).countP (fun i:Nat=>decide (2*dF c (ah m 4+(i:Int))<sqI c m (ah m 4+(i:Int))∧vlI c m (ah m 4+(i:Int))=k)):=fV fun i _=>by rw [sq,vl]
  rw [h1,List.countP_cons,List.countP_nil,show ah m 4+(((X - ah m 4).toNat:Nat):Int)=X by omega,sq,hfree,decide_eq_false (fun h=>by omega)]
  rfl
theorem YZ {X v:Int} {cE cD:Int→Nat} (hI:InjI c m cE cD) (x0:0≤X) (x1:X<ah m 5) (hfree:sqI c m X=2*dF c X) :
  InjI c (ar m (CY c X) v) cE cD∧(∀ k,pU c (ar m (CY c X) v) k=pU c m k)∧(∀ y,sqI c m y=2*dF c y→y≠X→vlI c (ar m (CY c X) v) y=vlI c m y)∧∀ y,sqI c m y=2*dF c y+1→vlI c (ar m (CY c X) v) y=vlI c m y:=by
 obtain ⟨l4,l5⟩:=L2 hc hl X v
 have sq:=fun y=>GT hc hl X v y
 have vl:=fun y=>LM hc hl X v y
 refine ⟨⟨by rw [l4];exact hI.h0,by rw [l4,l5];exact hI.ht,by rw [l5];exact hI.tb,fun x a b=>by rw [sq];exact hI.a x a (by rw [← l5];exact b),fun x hx=>by rw [sq];exact hI.b x (by rw [← l5];exact hx),fun x a b=>by rw [sq];exact hI.r x a (by rw [← l4];exact b),fun x hx=>by rw [sq];exact hI.d x (by rw [← l4];exact hx)⟩,fun k => ?_,fun y hy hne => ?_,fun y hy => ?_⟩
 ·unfold pU
  rw [l4,l5]
  refine fV fun i hi => ?_
  rw [sq,vl]
  split
  ·rename_i e
   have hd:=(hI.d (ah m 4+(i:Int)) (by omega)).2
   have hsame:=rz hc hl e
   have hn:¬ 2*dF c (ah m 4+(i:Int))<sqI c m (ah m 4+(i:Int)):=by omega
   rw [decide_eq_false (fun h=>hn h.1),decide_eq_false (fun h=>hn h.1)]
  ·rfl
 ·rw [vl,if_neg]
  intro e
  have hsame:=rz hc hl e
  exact hne (Qv e (by omega))
 ·rw [vl,if_neg]
  intro e
  have hsame:=rz hc hl e
  omega
theorem aeT {X:Int} {cE cD:Int→Nat} (hI:InjI c m cE cD) (hD:∀ x,0<cD x→sqI c m x=2*dF c x+1) (x0:0≤X) (hfree:sqI c m X=2*dF c X):ah m 4≤X:=by
 have _h:=And.intro hc hl
 by_cases h:ah m 4≤X
 ·exact h
 ·exfalso
  have hr:=hI.r X x0 (by omega)
  rw [if_neg (by omega)] at hr
  have:=hD X (by omega)
  omega
theorem aaj {X:Int} {c0 cD:Int→Nat} (hI:InjI c m (fun q=>c0 q+OK X q) cD) (hD:∀ x,0<cD x→sqI c m x=2*dF c x+1) (hE:∀ x,0<c0 x→sqI c m x=2*dF c x) (x0:0≤X) (x1:X<ah m 5) (hfree:sqI c m X=2*dF c X) :
  InjI c (ar m (nA c X) (2*dF c X+1)) c0 cD∧(∀ k,pU c (ar m (nA c X) (2*dF c X+1)) k=pU c m k+if vlI c m X=k then 1 else 0)∧∀ y,sqI c m y≠2*dF c X→sqI c (ar m (nA c X) (2*dF c X+1)) y=sqI c m y:=by
 have hs:=mK hc hl
 obtain ⟨l4,l5⟩:=AV hc hl X (2*dF c X+1)
 have sq:=fun y=>AJ hc hl X (2*dF c X+1) y
 have vl:=fun y=>uV hc hl X (2*dF c X+1) y
 have hh:=aeT hc hl hI hD x0 hfree
 have hA:=hI.a X x0 x1
 rw [AU] at hA
 have ss:∀ y,y%c.2.2.1=X%c.2.2.1→sqI c m y=2*dF c X:=fun y e=>by rw [rz hc hl e,hfree]
 have lt:∀ y,y%c.2.2.1=X%c.2.2.1→y<X→dF c y<dF c X:=fun y e h=>KA hc e h
 have gt:∀ y,y%c.2.2.1=X%c.2.2.1→X<y→dF c X<dF c y:=fun y e h=>KA hc e.symm h
 refine ⟨⟨by rw [l4];exact hI.h0,by rw [l4,l5];exact hI.ht,by rw [l5];exact hI.tb,fun x a b => ?_,fun x hx => ?_,fun x a b => ?_,fun x hx => ?_⟩,fun k => ?_,fun y hy => ?_⟩
 ·rw [l5] at b
  have hx:=hI.a x a b
  rw [sq]
  by_cases e:x%c.2.2.1=X%c.2.2.1
  ·rw [if_pos e]
   have hsx:=ss x e
   rcases Int.lt_trichotomy x X with h | h | h
   ·have:=lt x e h
    rw [ru (by omega)] at hx
    rw [if_pos (by omega)] at hx ⊢
    exact hx
   ·subst h
    rw [if_pos (by omega)]
    omega
   ·have:=gt x e h
    exfalso
    rw [ru (by omega),if_neg (by omega)] at hx
    have:=hE x (by omega)
    omega
  ·rw [if_neg e]
   have hne:x≠X:=fun h=>e (by rw [h])
   rw [ru hne] at hx
   exact hx
 ·rw [l5] at hx
  obtain ⟨b1,b2⟩:=hI.b x hx
  have hne:x≠X:=by omega
  rw [sq]
  refine ⟨by omega,?_⟩
  split
  ·rename_i e
   have:=gt x e (by omega)
   omega
  ·exact b2
 ·rw [l4] at b
  have hx:=hI.r x a b
  rw [sq]
  split
  ·rename_i e
   have hsx:=ss x e
   have:=lt x e (by omega)
   rw [if_pos (by omega)] at hx ⊢
   exact hx
  ·exact hx
 ·rw [l4] at hx
  obtain ⟨d1,d2⟩:=hI.d x hx
  rw [sq]
  refine ⟨d1,?_⟩
  split
  ·rename_i e
   have hsx:=ss x e
   omega
  ·exact d2
 ·unfold pU
  rw [l4,l5]
  have hj:(X - ah m 4).toNat<(ah m 5 - ah m 4).toNat:=by omega
  have hX:ah m 4+(((X - ah m 4).toNat:Nat):Int)=X:=by omega
  have oth:∀ i:Nat,i<(ah m 5 - ah m 4).toNat→i≠(X - ah m 4).toNat→decide (2*dF c (ah m 4+(i:Int))<sqI c m (ah m 4+(i:Int))∧vlI c m (ah m 4+(i:Int))=k)=decide (2*dF c (ah m 4+(i:Int))<sqI c (ar m (nA c X) (2*dF c X+1)) (ah m 4+(i:Int))∧vlI c (ar m (nA c X) (2*dF c X+1)) (ah m 4+(i:Int))=k):=by
   intro i hi hne
   rw [sq,vl,if_neg]
   intro e
   have hsx:=ss _ e
   have hd:=(hI.d (ah m 4+(i:Int)) (by omega)).2
   have ha:=hI.a (ah m 4+(i:Int)) (by have:=hI.h0;omega) (by omega)
   rcases Int.lt_trichotomy (ah m 4+(i:Int)) X with h | h | h
   ·have:=lt _ e h
    omega
   ·omega
   ·have:=gt _ e h
    rw [ru (by omega),if_neg (by omega)] at ha
    have:=hE _ (show 0<c0 (ah m 4+(i:Int)) by omega)
    omega
  by_cases hk:vlI c m X=k
  ·rw [if_pos hk]
   refine PO hj ?_ ?_ oth
   ·rw [hX,hfree]
    exact decide_eq_false (fun h=>by omega)
   ·rw [hX,sq,vl,if_pos rfl]
    exact decide_eq_true ⟨by omega,hk⟩
  ·rw [if_neg hk,Nat.add_zero]
   refine (fV fun i hi => ?_).symm
   by_cases e:i=(X - ah m 4).toNat
   ·subst e
    rw [hX,vl,decide_eq_false (fun h=>hk h.2),decide_eq_false (fun h=>hk h.2)]
   ·exact oth i hi e
 ·rw [sq,if_neg]
  intro e
  exact hy (ss y e)
end
end Go.Ab
set_option linter.unusedVariables false
namespace Go.Ab
section
variable {c:CF} {m:List Int} (hc:dj c=true) (hl:(m.length:Int)=bN c)
include hc hl
theorem OE {X:Int} {cE cD:Int→Nat} (hI:InjI c m cE cD) (hX:X=ah m 4) (hfull:sqI c m X=2*dF c X+1) :
  X<ah m 5∧InjI c (ar m 4 (X+1)) cE (fun q=>cD q+OK X q)∧∀ k,pU c m k=pU c (ar m 4 (X+1)) k+if vlI c m X=k then 1 else 0:=by
 have hs:=mK hc hl
 have hmc:=aC hc
 have l4:ah (ar m 4 (X+1)) 4=X+1:=ee _ (by decide) (by omega)
 have l5:ah (ar m 4 (X+1)) 5=ah m 5:=aE _ (by decide)
 have sq:=fun y=>LU hc hl (i:=4) (X+1) y (by decide)
 have vl:=fun y=>MG hc hl (i:=4) (X+1) y (by decide)
 have h0:=hI.h0
 have hlt:X<ah m 5:=by
  by_cases h:X<ah m 5
  ·exact h
  ·have:=(hI.b X (by omega)).2
   omega
 refine ⟨hlt,⟨by rw [l4];omega,by rw [l4,l5];omega,by rw [l5];exact hI.tb,fun x a b=>by rw [sq];exact hI.a x a (by rw [← l5];exact b),fun x hx=>by rw [sq];exact hI.b x (by rw [← l5];exact hx),fun x a b => ?_,fun x hx => ?_⟩,fun k => ?_⟩
 ·rw [l4] at b
  rw [sq]
  by_cases e:x=X
  ·have hd:=(hI.d X (by omega)).1
   subst e
   rw [hfull,if_neg (by omega),AU]
   omega
  ·have:=hI.r x a (by omega)
   rw [ru e]
   exact this
 ·rw [l4] at hx
  obtain ⟨d1,d2⟩:=hI.d x (by omega)
  rw [sq,ru (by omega)]
  exact ⟨d1,d2⟩
 ·unfold pU
  rw [l4,l5,← hX]
  have e:(ah m 5 - X).toNat=(ah m 5 - (X+1)).toNat+1:=by omega
  rw [e,List.range_succ_eq_map,List.countP_cons,List.countP_map]
  have h1:(List.range (ah m 5 - (X+1)).toNat).countP ((fun i:Nat=>decide (2*dF c (X+(i:Int))<sqI c m (X+(i:Int))∧vlI c m (X+(i:Int))=k)) ∘ Nat.succ)=(List.range (ah m 5 - (X+1)).toNat).countP (fun i:Nat=>decide (2*dF c (X+1+(i:Int))<sqI c (ar m 4 (X+1)) (X+1+(i:Int))∧vlI c (ar m 4 (X+1)) (X+1+(i:Int))=k)):=fV fun i _=>by
   rw [sq,vl,show X+1+(i:Int)=X+((i+1:Nat):Int) by omega]
   rfl
  rw [h1]
  congr 1
  rw [show X+((0:Nat):Int)=X by omega,hfull]
  by_cases hk:vlI c m X=k
  ·rw [if_pos hk,decide_eq_true ⟨by omega,hk⟩]
   rfl
  ·rw [if_neg hk,decide_eq_false (fun h=>hk h.2)]
   rfl
theorem UO {X:Int} {cE d0:Int→Nat} (hI:InjI c m cE (fun q=>d0 q+OK X q)) (hD:∀ x,0<d0 x→sqI c m x=2*dF c x+1) (hE:∀ x,0<cE x→sqI c m x=2*dF c x) (x0:0≤X) (x1:X<ah m 4) (hfull:sqI c m X=2*dF c X+1) :
  InjI c (ar m (nA c X) (2*dF c X+2)) cE d0∧(∀ k,pU c (ar m (nA c X) (2*dF c X+2)) k=pU c m k)∧∀ y,sqI c m y≠2*dF c X+1→sqI c (ar m (nA c X) (2*dF c X+2)) y=sqI c m y:=by
 have hs:=mK hc hl
 obtain ⟨l4,l5⟩:=AV hc hl X (2*dF c X+2)
 have sq:=fun y=>AJ hc hl X (2*dF c X+2) y
 have vl:=fun y=>uV hc hl X (2*dF c X+2) y
 have ht:=hI.ht
 have hR:=hI.r X x0 x1
 rw [AU] at hR
 have ss:∀ y,y%c.2.2.1=X%c.2.2.1→sqI c m y=2*dF c X+1:=fun y e=>by rw [rz hc hl e,hfull]
 have lt:∀ y,y%c.2.2.1=X%c.2.2.1→y<X→dF c y<dF c X:=fun y e h=>KA hc e h
 have gt:∀ y,y%c.2.2.1=X%c.2.2.1→X<y→dF c X<dF c y:=fun y e h=>KA hc e.symm h
 have none:∀ y,y%c.2.2.1=X%c.2.2.1→X<y→ah m 5≤y:=fun y e h=>by
  by_cases hy:ah m 5≤y
  ·exact hy
  ·exfalso
   have ha:=hI.a y (by omega) (by omega)
   have hg:=gt y e h
   have hsy:=ss y e
   rw [if_neg (by omega)] at ha
   have:=hE y (by omega)
   omega
 refine ⟨⟨by rw [l4];exact hI.h0,by rw [l4,l5];exact hI.ht,by rw [l5];exact hI.tb,fun x a b => ?_,fun x hx => ?_,fun x a b => ?_,fun x hx => ?_⟩,fun k => ?_,fun y hy => ?_⟩
 ·rw [l5] at b
  have hx:=hI.a x a b
  rw [sq]
  split
  ·rename_i e
   have hsx:=ss x e
   rcases Int.lt_trichotomy x X with h | h | h
   ·have:=lt x e h
    rw [if_pos (by omega)] at hx ⊢
    exact hx
   ·subst h
    rw [if_pos (by omega)] at hx ⊢
    exact hx
   ·have:=none x e h
    omega
  ·exact hx
 ·rw [l5] at hx
  obtain ⟨b1,b2⟩:=hI.b x hx
  rw [sq]
  refine ⟨b1,?_⟩
  split
  ·rename_i e
   have:=gt x e (by omega)
   omega
  ·exact b2
 ·rw [l4] at b
  have hx:=hI.r x a b
  rw [sq]
  by_cases e:x%c.2.2.1=X%c.2.2.1
  ·rw [if_pos e]
   have hsx:=ss x e
   rcases Int.lt_trichotomy x X with h | h | h
   ·have:=lt x e h
    rw [ru (by omega)] at hx
    rw [if_pos (by omega)] at hx ⊢
    exact hx
   ·subst h
    rw [if_pos (by omega)]
    rw [if_neg (by omega)] at hR
    omega
   ·have:=none x e h
    omega
  ·rw [if_neg e]
   have hne:x≠X:=fun h=>e (by rw [h])
   rw [ru hne] at hx
   exact hx
 ·rw [l4] at hx
  obtain ⟨d1,d2⟩:=hI.d x hx
  rw [sq]
  refine ⟨by omega,?_⟩
  split
  ·rename_i e
   have:=gt x e (by omega)
   omega
  ·exact d2
 ·unfold pU
  rw [l4,l5]
  refine fV fun i hi => ?_
  rw [sq,vl,if_neg]
  intro e
  have:=none _ e (by omega)
  omega
 ·rw [sq,if_neg]
  intro e
  exact hy (ss y e)
end
end Go.Ab
set_option linter.unusedVariables false
namespace Go.Ab
def adr (c:CF) (v j:Int):Int:=6+2*c.2.2.1+(v*(3+c.2.1)+j)
def dT (c:CF) (m:List Int) (v:Int):Int:=ah m (adr c v 0)
def dB (c:CF) (m:List Int) (v:Int):Int:=ah m (adr c v 1)
def dS (c:CF) (m:List Int) (v x:Int):Int:=ah m (adr c v (3+x%c.2.1))
theorem aal {c:CF} (hc:dj c=true) {x:Int} (h0:0≤x) (h1:x≤18446744073709551615):AS .u64 x (c.2.1 - 1)=x%c.2.1:=by
 have hD:=(aC hc).2.2.1
 generalize c.2.1=D at hD ⊢
 obtain ⟨a,rfl⟩:=Int.eq_ofNat_of_zero_le h0
 rcases hD with rfl | rfl | rfl | rfl | rfl
 ·rw [show (1:Int) - 1=((0:Nat):Int) by decide,VB (by omega) (by omega),Nat.and_zero]
  omega
 ·rw [show (2:Int) - 1=((2 ^ 1 - 1:Nat):Int) by decide,VB (by omega) (by omega),Nat.and_two_pow_sub_one_eq_mod]
  omega
 ·rw [show (4:Int) - 1=((2 ^ 2 - 1:Nat):Int) by decide,VB (by omega) (by omega),Nat.and_two_pow_sub_one_eq_mod]
  omega
 ·rw [show (8:Int) - 1=((2 ^ 3 - 1:Nat):Int) by decide,VB (by omega) (by omega),Nat.and_two_pow_sub_one_eq_mod]
  omega
 ·rw [show (16:Int) - 1=((2 ^ 4 - 1:Nat):Int) by decide,VB (by omega) (by omega),Nat.and_two_pow_sub_one_eq_mod]
  omega
section
variable {c:CF} (hc:dj c=true) {v:Int} (h0:0≤v) (h1:v<c.1)
include hc h0 h1
theorem Ld (j:Int):onW c v j=adr c v j:=by
 unfold onW adr AK
 rw [if_pos ⟨hc,h0,h1⟩]
 omega
theorem ID:Iq c v=adr c v 0:=Ld hc h0 h1 0
theorem JG:Ke c v=adr c v 1:=Ld hc h0 h1 1
theorem FC {x:Int} (x0:0≤x) (x1:x≤18446744073709551615):r9 c v x=adr c v (3+x%c.2.1):=by
 unfold r9
 rw [Ld hc h0 h1,aal hc x0 x1]
theorem DO {m:List Int} (hl:(m.length:Int)=bN c) {j:Int} (j0:0≤j) (j1:j<3+c.2.1):6+2*c.2.2.1≤adr c v j∧adr c v j<m.length:=by
 have hm:=aC hc
 have ht:=dX hc h0 (by omega)
 have hs:bN c=AK c c.1:=by unfold bN;rw [if_pos hc]
 rw [hl,hs]
 unfold adr AK
 have hD:=hm.2.2.1
 refine ⟨by omega,?_⟩
 generalize c.2.1=D at hD j1 ⊢
 rcases hD with rfl | rfl | rfl | rfl | rfl <;> omega
end
theorem uF {c:CF} (hc:dj c=true) {u v j k:Int} (hj:0≤j∧j<3+c.2.1) (hk:0≤k∧k<3+c.2.1) (h:u≠v∨j≠k):adr c u j≠adr c v k:=by
 have hD:=(aC hc).2.2.1
 unfold adr
 generalize c.2.1=D at hD hj hk ⊢
 rcases hD with rfl | rfl | rfl | rfl | rfl <;> omega
theorem CQ {c:CF} (hc:dj c=true) (x:Int):0≤x%c.2.1∧x%c.2.1<c.2.1:=by
 have hD:=(aC hc).2.2.1
 generalize c.2.1=D at hD ⊢
 rcases hD with rfl | rfl | rfl | rfl | rfl <;> omega
theorem alK {c:CF} (hc:dj c=true) {x y:Int} (h:x<y) (h2:y<x+c.2.1):x%c.2.1≠y%c.2.1:=by
 have hD:=(aC hc).2.2.1
 generalize c.2.1=D at hD h2 ⊢
 rcases hD with rfl | rfl | rfl | rfl | rfl <;> omega
structure DEq (c:CF) (m m':List Int) (v:Int):Prop where
 t:dT c m' v=dT c m v
 b:dB c m' v=dB c m v
 s:∀ x,dS c m' v x=dS c m v x
theorem DEq.rfl' {c:CF} {m:List Int} {v:Int}:DEq c m m v:=⟨rfl,rfl,fun _=>rfl⟩
theorem B7 {c:CF} (hc:dj c=true) {m:List Int} {v i a:Int} (h:∀ j,0≤j→j<3+c.2.1→j≠2→i≠adr c v j):DEq c m (ar m i a) v:=by
 have hm:=aC hc
 refine ⟨aE _ (h 0 (by decide) (by omega) (by decide)),aE _ (h 1 (by decide) (by omega) (by decide)),fun x => ?_⟩
 have:=CQ hc x
 exact aE _ (h _ (by omega) (by omega) (by omega))
theorem mX {c:CF} (hc:dj c=true) {m:List Int} {v i a:Int} (h0:0≤v) (h1:v<c.1) (hi:i<6+2*c.2.2.1):DEq c m (ar m i a) v:=by
 refine B7 hc fun j j0 j1 _ e => ?_
 have hm:=aC hc
 have ht:=dX hc h0 (by omega)
 unfold adr at e
 omega
structure InjEq (c:CF) (m m':List Int):Prop where
 h:ah m' 4=ah m 4
 t:ah m' 5=ah m 5
 s:∀ x,sqI c m' x=sqI c m x
 v:∀ x,vlI c m' x=vlI c m x
theorem InjEq.rfl' {c:CF} {m:List Int}:InjEq c m m:=⟨rfl,rfl,fun _=>rfl,fun _=>rfl⟩
theorem gD {c:CF} (hc:dj c=true) {m:List Int} {i a:Int} (h:i<4∨6+2*c.2.2.1≤i):InjEq c m (ar m i a):=by
 have hm:=aC hc
 refine ⟨aE _ (by omega),aE _ (by omega),fun x => ?_,fun x => ?_⟩
 ·have a:=Int.emod_nonneg x (show c.2.2.1≠0 by omega)
  have b:=Int.emod_lt_of_pos x (show 0<c.2.2.1 by omega)
  refine aE _ ?_
  rw [o8 hc]
  omega
 ·have a:=Int.emod_nonneg x (show c.2.2.1≠0 by omega)
  have b:=Int.emod_lt_of_pos x (show 0<c.2.2.1 by omega)
  refine aE _ ?_
  rw [Aj hc]
  omega
def dqN (c:CF) (m:List Int) (v hi k:Int):Nat:=(List.range (hi - dT c m v).toNat).countP fun i:Nat=>decide (dS c m v (dT c m v+(i:Int))=k)
theorem uX {c:CF} {m m':List Int} {v hi k:Int} (ht:dT c m' v=dT c m v) (hs:∀ y,dT c m v≤y→y<hi→dS c m' v y=dS c m v y):dqN c m' v hi k=dqN c m v hi k:=by
 unfold dqN
 rw [ht]
 refine fV fun i hi => ?_
 rw [hs _ (by omega) (by omega)]
theorem KH {c:CF} {m:List Int} {v hi k:Int} (h:dT c m v≤hi):dqN c m v (hi+1) k=dqN c m v hi k+if dS c m v hi=k then 1 else 0:=by
 unfold dqN
 rw [show (hi+1 - dT c m v).toNat=(hi - dT c m v).toNat+1 by omega,List.range_succ,List.countP_append,List.countP_cons,List.countP_nil,show dT c m v+(((hi - dT c m v).toNat:Nat):Int)=hi by omega]
 by_cases e:dS c m v hi=k
 ·rw [if_pos e,decide_eq_true e]
  rfl
 ·rw [if_neg e,decide_eq_false e]
  rfl
theorem PD {c:CF} {m m':List Int} {v hi k:Int} (h:dT c m v<hi) (ht:dT c m' v=dT c m v+1) (hs:∀ x,dS c m' v x=dS c m v x):dqN c m v hi k=dqN c m' v hi k+if dS c m v (dT c m v)=k then 1 else 0:=by
 unfold dqN
 rw [ht,show (hi - dT c m v).toNat=(hi - (dT c m v+1)).toNat+1 by omega,List.range_succ_eq_map,List.countP_cons,List.countP_map]
 have h1:(List.range (hi - (dT c m v+1)).toNat).countP ((fun i:Nat=>decide (dS c m v (dT c m v+(i:Int))=k)) ∘ Nat.succ)=(List.range (hi - (dT c m v+1)).toNat).countP (fun i:Nat=>decide (dS c m' v (dT c m v+1+(i:Int))=k)):=fV fun i _=>by
  rw [hs,show dT c m v+1+(i:Int)=dT c m v+((i+1:Nat):Int) by omega]
  rfl
 rw [h1]
 congr 1
 rw [show dT c m v+((0:Nat):Int)=dT c m v by omega]
 by_cases e:dS c m v (dT c m v)=k
 ·rw [if_pos e,decide_eq_true e]
  rfl
 ·rw [if_neg e,decide_eq_false e]
  rfl
theorem ab4 {c:CF} {m:List Int} {v hi k:Int} (h:hi≤dT c m v):dqN c m v hi k=0:=by
 unfold dqN
 rw [show (hi - dT c m v).toNat=0 by omega]
 rfl
structure PsF (c:CF) (m:List Int) (v:Int) (f:FR):Prop where
 op:f.1=0
 who:f.2.2.1=v
 res:f.2.2.2.2.2.2=0
 pc:0≤f.2.1∧f.2.1≤3
 p1:1≤f.2.1→f.2.2.2.2.1=dB c m v
 p2:2≤f.2.1→f.2.2.2.2.2.1≤dT c m v∧f.2.2.2.2.1 - f.2.2.2.2.2.1<c.2.1
 p3:f.2.1=3→dS c m v f.2.2.2.2.1=f.2.2.2.1
def hiP (f:FR) (b:Int):Int:=if f.2.1=2∨f.2.1=4∨f.2.1=5∨f.2.1=6∨f.2.1=3∧f.2.2.2.2.1=f.2.2.2.2.2.1 then fG b 1 else b
structure PoF (c:CF) (m:List Int) (v:Int) (f:FR):Prop where
 op:f.1=1
 who:f.2.2.1=v
 res:f.2.2.2.2.2.2=0
 pc:0≤f.2.1∧f.2.1≤6
 p1:f.2.1=1→f.2.2.2.2.1=Rp (dB c m v) 1
 p2:2≤f.2.1→f.2.2.2.2.1=dB c m v
 p3:f.2.1=3∨f.2.1=4→0≤f.2.2.2.2.2.1∧f.2.2.2.2.2.1≤dT c m v∧f.2.2.2.2.2.1≤f.2.2.2.2.1
 p4:f.2.1=4→f.2.2.2.2.2.1=f.2.2.2.2.1∧f.2.2.2.1=dS c m v f.2.2.2.2.1
 p5:f.2.1=5∨f.2.1=6→dT c m v=fG (dB c m v) 1
def hdP (c:CF) (m:List Int) (f:FR) (k:Int):Nat:=if f.2.1=3∧f.2.2.2.2.1≠f.2.2.2.2.2.1∧dS c m f.2.2.1 f.2.2.2.2.1=k∨f.2.1=5∧f.2.2.2.1=k then 1 else 0
structure VOk (c:CF) (m:List Int) (v hi:Int):Prop where
 t0:0≤dT c m v
 le:dT c m v≤hi
 rm:hi≤dT c m v+c.2.1
 bd:hi≤1000000
structure ThF (c:CF) (m:List Int) (hi:Int) (f:FR):Prop where
 op:f.1=2
 res:f.2.2.2.2.2.2=0
 pc:0≤f.2.1∧f.2.1≤3
 p1:1≤f.2.1→0≤f.2.2.2.2.2.1∧f.2.2.2.2.2.1≤dT c m f.2.2.1
 p2:2≤f.2.1→f.2.2.2.2.2.1=dT c m f.2.2.1→dT c m f.2.2.1<hi
 p3:f.2.1=3→f.2.2.2.2.2.1=dT c m f.2.2.1→f.2.2.2.1=dS c m f.2.2.1 (dT c m f.2.2.1)
theorem ThF.stay {c:CF} {m m':List Int} {hi hi':Int} {f:FR} (h:ThF c m hi f) (ht:dT c m' f.2.2.1=dT c m f.2.2.1) (hh:dT c m f.2.2.1<hi→dT c m f.2.2.1<hi'∧dS c m' f.2.2.1 (dT c m f.2.2.1)=dS c m f.2.2.1 (dT c m f.2.2.1)):ThF c m' hi' f:=by
 refine ⟨h.op,h.res,h.pc,fun e=>by rw [ht];exact h.p1 e,fun e e2 => ?_,fun e e2 => ?_⟩
 ·rw [ht] at e2 ⊢
  exact (hh (h.p2 e e2)).1
 ·rw [ht] at e2 ⊢
  rw [h.p3 e e2,(hh (h.p2 (by omega) e2)).2]
theorem ThF.top {c:CF} {m m':List Int} {hi hi':Int} {f:FR} (h:ThF c m hi f) (ht:dT c m' f.2.2.1=dT c m f.2.2.1+1):ThF c m' hi' f:=by
 refine ⟨h.op,h.res,h.pc,fun e=>by rw [ht];have:=h.p1 e;omega,fun e e2 => ?_,fun e e2 => ?_⟩
 ·have:=h.p1 (by omega)
  omega
 ·have:=h.p1 (by omega)
  omega
theorem GA {a b:Int} (ha:0≤a∧a≤1000000) (hb:0≤b∧b≤1000000):wC a b=a - b:=by
 unfold wC
 rw [kg]
 simp only [IntKind.wrap,IntKind.bits,IntKind.signed]
 simp
 omega
theorem Pn {b:Int} (hb:0≤b∧b≤1000000):wC 18446744073709551615 b = -1 - b:=by
 unfold wC
 rw [kg]
 simp only [IntKind.wrap,IntKind.bits,IntKind.signed]
 simp
 omega
end Go.Ab
set_option linter.unusedVariables false
namespace Go.Ab
theorem mR {a:Int} (h:0≤a∧a≤1000000):fG a 1=a+1:=by unfold fG;omega
theorem PZ {c:CF} {m:List Int} (hc:dj c=true) (hl:(m.length:Int)=bN c) {f:FR} {op pcs:Int} (h:f.2.2.2.2.2.2=0∧0≤f.2.2.1∧f.2.2.1<c.1∧f.1=op∧0≤f.2.1∧f.2.1<pcs):¬ uJ c m f op pcs=false:=by
 unfold uJ
 rw [hc,decide_eq_true hl,decide_eq_true h]
 decide
theorem FG {m:List Int} {i o n:Int} (h0:0≤i) (h1:i<m.length) (h:ah m i=o):uc m i o n=(ar m i n,true):=by
 unfold uc
 rw [if_pos ⟨h0,h1,h⟩]
theorem KR {m:List Int} {i o n:Int} (h:ah m i≠o):uc m i o n=(m,false):=by
 unfold uc
 rw [if_neg (fun e=>h e.2.2)]
section
variable {c:CF} {m:List Int} (hc:dj c=true) (hl:(m.length:Int)=bN c) {v:Int} (h0:0≤v) (h1:v<c.1) {f:FR}
include hc hl h0 h1
theorem wv {j a:Int} (j0:0≤j) (j1:j<3+c.2.1):InjEq c m (ar m (adr c v j) a)∧∀ u,u≠v→DEq c m (ar m (adr c v j) a) u:=
 ⟨gD hc (.inr (DO hc h0 h1 hl j0 j1).1),fun u hu=>B7 hc fun i i0 i1 _ e=>uF hc ⟨j0,j1⟩ ⟨i0,i1⟩ (.inl fun e2=>hu e2.symm) e⟩
theorem Ry {a:Int}:dT c (ar m (adr c v 1) a) v=dT c m v∧dB c (ar m (adr c v 1) a) v=a∧∀ x,dS c (ar m (adr c v 1) a) v x=dS c m v x:=by
 have hD:=(aC hc).2.2.1
 have hin:=DO hc h0 h1 hl (j:=1) (by decide) (by omega)
 refine ⟨aE _ (uF hc ⟨by decide,by omega⟩ ⟨by decide,by omega⟩ (.inr (by decide))),ee _ (by have:=(aC hc).2.2.2.1;omega) hin.2,fun x => ?_⟩
 have:=CQ hc x
 exact aE _ (uF hc ⟨by decide,by omega⟩ ⟨by omega,by omega⟩ (.inr (by omega)))
theorem Xw {a:Int}:dT c (ar m (adr c v 0) a) v=a∧dB c (ar m (adr c v 0) a) v=dB c m v∧∀ x,dS c (ar m (adr c v 0) a) v x=dS c m v x:=by
 have hD:=(aC hc).2.2.1
 have hin:=DO hc h0 h1 hl (j:=0) (by decide) (by omega)
 refine ⟨ee _ (by have:=(aC hc).2.2.2.1;omega) hin.2,aE _ (uF hc ⟨by decide,by omega⟩ ⟨by decide,by omega⟩ (.inr (by decide))),fun x => ?_⟩
 have:=CQ hc x
 exact aE _ (uF hc ⟨by decide,by omega⟩ ⟨by omega,by omega⟩ (.inr (by omega)))
theorem YL {X a:Int}:dT c (ar m (adr c v (3+X%c.2.1)) a) v=dT c m v∧dB c (ar m (adr c v (3+X%c.2.1)) a) v=dB c m v∧dS c (ar m (adr c v (3+X%c.2.1)) a) v X=a∧∀ x,x%c.2.1≠X%c.2.1→dS c (ar m (adr c v (3+X%c.2.1)) a) v x=dS c m v x:=by
 have hD:=(aC hc).2.2.1
 have hX:=CQ hc X
 have hin:=DO hc h0 h1 hl (j:=3+X%c.2.1) (by omega) (by omega)
 refine ⟨aE _ (uF hc ⟨by omega,by omega⟩ ⟨by decide,by omega⟩ (.inr (by omega))),aE _ (uF hc ⟨by omega,by omega⟩ ⟨by decide,by omega⟩ (.inr (by omega))),ee _ (by have:=(aC hc).2.2.2.1;omega) hin.2,fun x hx => ?_⟩
 have:=CQ hc x
 exact aE _ (uF hc ⟨by omega,by omega⟩ ⟨by omega,by omega⟩ (.inr (by omega)))
theorem PX (hf:PsF c m v f) (hv:VOk c m v (dB c m v)) :
  InjEq c m (eN c m f).1∧(∀ u,u≠v→DEq c m (eN c m f).1 u)∧dT c (eN c m f).1 v=dT c m v∧(∀ y,dT c m v≤y→y<dB c m v→dS c (eN c m f).1 v y=dS c m v y) ∧
   ((ew (eN c m f).2=false∧PsF c (eN c m f).1 v (eN c m f).2∧dB c (eN c m f).1 v=dB c m v∧(eN c m f).2.2.2.2.1=f.2.2.2.1) ∨
    (ew (eN c m f).2=true∧(eN c m f).2.2.2.2.2.2.2=2∧dB c (eN c m f).1 v=dB c m v∧(eN c m f).2.2.2.2.1=f.2.2.2.1) ∨
    (ew (eN c m f).2=true∧(eN c m f).2.2.2.2.2.2.2=1∧dB c (eN c m f).1 v=dB c m v+1∧dB c m v+1≤dT c m v+c.2.1∧dS c (eN c m f).1 v (dB c m v)=f.2.2.2.1)):=by
 obtain ⟨op,pc,who,val,X,Y,res⟩:=f
 obtain ⟨ho,hw,hr,hp,p1,p2,p3⟩:=hf
 obtain ⟨t0,tl,rm,bd⟩:=hv
 dsimp only at *
 subst ho hw hr
 rw [eN,if_neg (PZ hc hl ⟨rfl,h0,h1,rfl,by dsimp only;omega,by dsimp only;omega⟩)]
 dsimp only
 rw [ID hc h0 h1,JG hc h0 h1]
 have eT:ah m (adr c who 0)=dT c m who:=rfl
 have eB:ah m (adr c who 1)=dB c m who:=rfl
 rw [eT,eB]
 by_cases e0:pc=0
 ·rw [if_pos e0]
  exact ⟨.rfl',fun _ _ => .rfl',rfl,fun _ _ _=>rfl,.inl ⟨rfl,⟨rfl,rfl,rfl,by dsimp only;decide,fun _=>rfl,fun h=>absurd h (show ¬ (2:Int)≤1 by decide),fun h=>absurd h (show ¬ (1:Int)=3 by decide)⟩,rfl,rfl⟩⟩
 rw [if_neg e0]
 have eX:=p1 (by omega)
 subst eX
 by_cases e1:pc=1
 ·rw [if_pos e1]
  have hs:Rp (dB c m who) (dT c m who)=dB c m who - dT c m who:=by unfold Rp;omega
  rw [hs]
  by_cases hfull:c.2.1≤dB c m who - dT c m who
  ·rw [if_pos hfull]
   exact ⟨.rfl',fun _ _ => .rfl',rfl,fun _ _ _=>rfl,.inr (.inl ⟨rfl,rfl,rfl,rfl⟩)⟩
  ·rw [if_neg hfull]
   exact ⟨.rfl',fun _ _ => .rfl',rfl,fun _ _ _=>rfl,.inl ⟨rfl,⟨rfl,rfl,rfl,by dsimp only;decide,fun _=>rfl,fun h=>⟨Int.le_refl _,by dsimp only;omega⟩,fun h=>absurd h (show ¬ (2:Int)=3 by decide)⟩,rfl,rfl⟩⟩
 rw [if_neg e1]
 have e2':=p2 (by omega)
 by_cases e2:pc=2
 ·rw [if_pos e2,FC hc h0 h1 (by omega) (by omega)]
  have hX:=CQ hc (dB c m who)
  obtain ⟨a1,a2⟩:=wv hc hl h0 h1 (j:=3+dB c m who%c.2.1) (a:=val) (by omega) (by omega)
  obtain ⟨b1,b2,b3,b4⟩:=YL hc hl h0 h1 (X:=dB c m who) (a:=val)
  refine ⟨a1,a2,b1,fun y y0 y1=>b4 y (alK hc y1 (by omega)),.inl ⟨rfl,⟨rfl,rfl,rfl,by dsimp only;decide,fun _=>b2.symm,fun _=>⟨by rw [b1];exact e2'.1,e2'.2⟩,fun _=>b3⟩,b2,rfl⟩⟩
 ·rw [if_neg e2]
  obtain ⟨a1,a2⟩:=wv hc hl h0 h1 (j:=1) (a:=fG (dB c m who) 1) (by decide) (by have:=(aC hc).2.2.1;omega)
  obtain ⟨b1,b2,b3⟩:=Ry hc hl h0 h1 (a:=fG (dB c m who) 1)
  refine ⟨a1,a2,b1,fun y _ _=>b3 y,.inr (.inr ⟨rfl,rfl,by rw [b2,mR (by omega)],by omega,by rw [b3];exact p3 (by omega)⟩)⟩
theorem SU (hwm:Wm m) (hf:PoF c m v f) (hv:VOk c m v (hiP f (dB c m v))) :
  InjEq c m (lb c m f).1∧(∀ u,u≠v→DEq c m (lb c m f).1 u)∧(∀ y,dS c (lb c m f).1 v y=dS c m v y) ∧
   ((ew (lb c m f).2=false∧PoF c (lb c m f).1 v (lb c m f).2∧VOk c (lb c m f).1 v (hiP (lb c m f).2 (dB c (lb c m f).1 v))∧hiP (lb c m f).2 (dB c (lb c m f).1 v)≤hiP f (dB c m v) ∧
     (∀ k,dqN c (lb c m f).1 v (hiP (lb c m f).2 (dB c (lb c m f).1 v)) k+hdP c (lb c m f).1 (lb c m f).2 k=dqN c m v (hiP f (dB c m v)) k+hdP c m f k) ∧
     (dT c (lb c m f).1 v=dT c m v∧(dT c m v<hiP f (dB c m v)→dT c m v<hiP (lb c m f).2 (dB c (lb c m f).1 v))∨dT c (lb c m f).1 v=dT c m v+1)) ∨
    (ew (lb c m f).2=true∧dT c (lb c m f).1 v=dT c m v∧dB c (lb c m f).1 v=hiP f (dB c m v) ∧
     ((lb c m f).2.2.2.2.2.2.2=1∧(∀ k,hdP c m f k=if (lb c m f).2.2.2.2.1=k then 1 else 0)∨(lb c m f).2.2.2.2.2.2.2≠1∧∀ k,hdP c m f k=0))):=by
 obtain ⟨op,pc,who,val,X,Y,res⟩:=f
 obtain ⟨ho,hw,hr,hp,p1,p2,p3,p4,p5⟩:=hf
 dsimp only at *
 subst ho hw hr
 have hm:=aC hc
 rw [lb,if_neg (PZ hc hl ⟨rfl,h0,h1,rfl,by dsimp only;omega,by dsimp only;omega⟩)]
 dsimp only
 rw [ID hc h0 h1,JG hc h0 h1]
 have eT:ah m (adr c who 0)=dT c m who:=rfl
 have eB:ah m (adr c who 1)=dB c m who:=rfl
 rw [eT,eB]
 by_cases e0:pc=0
 ·subst e0
  rw [if_pos rfl]
  dsimp only
  refine ⟨.rfl',fun _ _ => .rfl',fun _=>rfl,.inl ⟨rfl,⟨rfl,rfl,rfl,by dsimp only;decide,fun _=>rfl,fun h=>absurd h (show ¬ (2:Int)≤1 by decide),fun h=>absurd h (show ¬ ((1:Int)=3∨(1:Int)=4) by decide),fun h=>absurd h (show ¬ (1:Int)=4 by decide),fun h=>absurd h (show ¬ ((1:Int)=5∨(1:Int)=6) by decide)⟩,hv,Int.le_refl _,fun k=>rfl,.inl ⟨rfl,fun h=>h⟩⟩⟩
 rw [if_neg e0]
 by_cases e1:pc=1
 ·subst e1
  rw [if_pos rfl]
  have eX:=p1 rfl
  obtain ⟨a1,a2⟩:=wv hc hl h0 h1 (j:=1) (a:=X) (by decide) (by omega)
  obtain ⟨b1,b2,b3⟩:=Ry hc hl h0 h1 (a:=X)
  obtain ⟨t0,tl,rm,bd⟩:=hv
  have hh:hiP (1,1,who,val,X,Y,0) (dB c m who)=dB c m who:=rfl
  rw [hh] at tl rm bd
  have hh':hiP (1,2,who,val,X,Y,0) (dB c (ar m (adr c who 1) X) who)=dB c m who:=by
   unfold hiP
   rw [if_pos (.inl rfl),b2,eX]
   unfold fG Rp
   omega
  rw [hh',hh]
  refine ⟨a1,a2,b3,.inl ⟨rfl,⟨rfl,rfl,rfl,by dsimp only;decide,fun h=>absurd h (show ¬ (2:Int)=1 by decide),fun _=>b2.symm,fun h=>absurd h (show ¬ ((2:Int)=3∨(2:Int)=4) by decide),fun h=>absurd h (show ¬ (2:Int)=4 by decide),fun h=>absurd h (show ¬ ((2:Int)=5∨(2:Int)=6) by decide)⟩,⟨by rw [b1];exact t0,by rw [b1];exact tl,by rw [b1];exact rm,bd⟩,Int.le_refl _,fun k => ?_,.inl ⟨b1,fun h=>h⟩⟩⟩
  rw [uX b1 (fun y _ _=>b3 y)]
  rfl
 rw [if_neg e1]
 have eX:=p2 (by omega)
 subst eX
 by_cases e2:pc=2
 ·subst e2
  rw [if_pos rfl]
  obtain ⟨t0,tl,rm,bd⟩:=hv
  have hh:hiP (1,2,who,val,dB c m who,Y,0) (dB c m who)=fG (dB c m who) 1:=rfl
  rw [hh] at tl rm bd ⊢
  by_cases hx:dB c m who=18446744073709551615
  ·have ha:fG (dB c m who) 1=0:=by rw [hx];rfl
   have hfar:wC (dB c m who) (dT c m who)<0:=by rw [hx,Pn (by omega)];omega
   rw [if_pos hfar]
   dsimp only
   have hh':hiP (1,6,who,val,dB c m who,dT c m who,0) (dB c m who)=fG (dB c m who) 1:=rfl
   rw [hh']
   refine ⟨.rfl',fun _ _ => .rfl',fun _=>rfl,.inl ⟨rfl,⟨rfl,rfl,rfl,by dsimp only;decide,fun h=>absurd h (show ¬ (6:Int)=1 by decide),fun _=>rfl,fun h=>absurd h (show ¬ ((6:Int)=3∨(6:Int)=4) by decide),fun h=>absurd h (show ¬ (6:Int)=4 by decide),fun h=>by omega⟩,⟨t0,tl,rm,bd⟩,Int.le_refl _,fun k=>rfl,.inl ⟨rfl,fun h=>h⟩⟩⟩
  ·by_cases hneg:dB c m who<0∨1000000<dB c m who
   ·exfalso
    have hr:=cC hwm (adr c who 1)
    rw [eB] at hr
    unfold fG at tl rm bd
    omega
   have hb:0≤dB c m who∧dB c m who≤1000000:=by omega
   rw [mR hb] at tl rm bd ⊢
   rw [GA hb (by omega)]
   by_cases hlt:dB c m who - dT c m who<0
   ·rw [if_pos hlt]
    dsimp only
    have hh':hiP (1,6,who,val,dB c m who,dT c m who,0) (dB c m who)=dB c m who+1:=by
     rw [← mR hb];rfl
    rw [hh']
    refine ⟨.rfl',fun _ _ => .rfl',fun _=>rfl,.inl ⟨rfl,⟨rfl,rfl,rfl,by dsimp only;decide,fun h=>absurd h (show ¬ (6:Int)=1 by decide),fun _=>rfl,fun h=>absurd h (show ¬ ((6:Int)=3∨(6:Int)=4) by decide),fun h=>absurd h (show ¬ (6:Int)=4 by decide),fun h=>by rw [mR hb];omega⟩,⟨t0,tl,rm,bd⟩,Int.le_refl _,fun k=>rfl,.inl ⟨rfl,fun h=>h⟩⟩⟩
   ·rw [if_neg hlt]
    dsimp only
    have hP:PoF c m who (1,3,who,val,dB c m who,dT c m who,0):=⟨rfl,rfl,rfl,by dsimp only;decide,fun h=>absurd h (show ¬ (3:Int)=1 by decide),fun _=>rfl,fun h=>⟨t0,Int.le_refl _,by dsimp only;omega⟩,fun h=>absurd h (show ¬ (3:Int)=4 by decide),fun h=>absurd h (show ¬ ((3:Int)=5∨(3:Int)=6) by decide)⟩
    by_cases heq:dB c m who=dT c m who
    ·have hh':hiP (1,3,who,val,dB c m who,dT c m who,0) (dB c m who)=dB c m who+1:=by
      unfold hiP
      rw [if_pos (.inr (.inr (.inr (.inr ⟨rfl,heq⟩)))),mR hb]
     rw [hh']
     refine ⟨.rfl',fun _ _ => .rfl',fun _=>rfl,.inl ⟨rfl,hP,⟨t0,tl,rm,bd⟩,Int.le_refl _,fun k => ?_,.inl ⟨rfl,fun h=>h⟩⟩⟩
     unfold hdP
     rw [if_neg (by dsimp only;omega),if_neg (by dsimp only;omega)]
    ·have hh':hiP (1,3,who,val,dB c m who,dT c m who,0) (dB c m who)=dB c m who:=by
      unfold hiP
      rw [if_neg (by dsimp only;omega)]
     rw [hh']
     refine ⟨.rfl',fun _ _ => .rfl',fun _=>rfl,.inl ⟨rfl,hP,⟨t0,by omega,by omega,by omega⟩,by omega,fun k => ?_,.inl ⟨rfl,fun h=>by omega⟩⟩⟩
     rw [KH (by omega)]
     unfold hdP
     rw [if_neg (c:=((1:Int),(2:Int),who,val,dB c m who,Y,(0:Int)).2.1=3∧_∨_) (by dsimp only;omega)]
     by_cases hk:dS c m who (dB c m who)=k
     ·rw [if_pos (.inl ⟨rfl,heq,hk⟩),if_pos hk]
     ·rw [if_neg (by dsimp only;omega),if_neg hk]
 rw [if_neg e2]
 by_cases e3:pc=3
 ·subst e3
  rw [if_pos rfl]
  obtain ⟨q0,q1,q2⟩:=p3 (.inl rfl)
  have hb0:0≤dB c m who:=by omega
  have hb1:dB c m who≤1000000:=by
   have hr:=cC hwm (adr c who 1)
   rw [eB] at hr
   have b1:=hv.bd
   have b2:=hv.le
   unfold hiP at b1 b2
   dsimp only at b1 b2
   unfold fG at b1 b2
   split at b1
   ·rw [if_pos (by assumption)] at b2
    omega
   ·omega
  rw [FC hc h0 h1 (by omega) (by omega)]
  have eS:ah m (adr c who (3+dB c m who%c.2.1))=dS c m who (dB c m who):=rfl
  rw [eS]
  by_cases hxy:dB c m who=Y
  ·rw [if_neg (fun h=>h hxy)]
   have hh:hiP (1,3,who,val,dB c m who,Y,0) (dB c m who)=fG (dB c m who) 1:=by
    unfold hiP
    rw [if_pos (.inr (.inr (.inr (.inr ⟨rfl,hxy⟩))))]
   have hh':hiP (1,4,who,dS c m who (dB c m who),dB c m who,Y,0) (dB c m who)=fG (dB c m who) 1:=rfl
   rw [hh] at hv ⊢
   rw [hh']
   refine ⟨.rfl',fun _ _ => .rfl',fun _=>rfl,.inl ⟨rfl,⟨rfl,rfl,rfl,by dsimp only;decide,fun h=>absurd h (show ¬ (4:Int)=1 by decide),fun _=>rfl,fun _=>⟨q0,q1,q2⟩,fun _=>⟨hxy.symm,rfl⟩,fun h=>absurd h (show ¬ ((4:Int)=5∨(4:Int)=6) by decide)⟩,hv,Int.le_refl _,fun k => ?_,.inl ⟨rfl,fun h=>h⟩⟩⟩
   unfold hdP
   rw [if_neg (by dsimp only;omega),if_neg (by dsimp only;omega)]
  ·rw [if_pos hxy]
   have hh:hiP (1,3,who,val,dB c m who,Y,0) (dB c m who)=dB c m who:=by
    unfold hiP
    rw [if_neg (by dsimp only;omega)]
   rw [hh]
   refine ⟨.rfl',fun _ _ => .rfl',fun _=>rfl,.inr ⟨rfl,rfl,rfl,.inl ⟨rfl,fun k => ?_⟩⟩⟩
   unfold hdP
   by_cases hk:dS c m who (dB c m who)=k
   ·rw [if_pos (.inl ⟨rfl,hxy,hk⟩)]
    exact (if_pos hk).symm
   ·rw [if_neg (by dsimp only;omega)]
    exact (if_neg hk).symm
 rw [if_neg e3]
 have hh:hiP (1,pc,who,val,dB c m who,Y,0) (dB c m who)=fG (dB c m who) 1:=by
  unfold hiP
  rw [if_pos (by dsimp only;omega)]
 rw [hh] at hv ⊢
 obtain ⟨t0,tl,rm,bd⟩:=hv
 by_cases e4:pc=4
 ·subst e4
  rw [if_pos rfl]
  obtain ⟨q0,q1,q2⟩:=p3 (.inr rfl)
  obtain ⟨r1,r2⟩:=p4 rfl
  have hb:0≤dB c m who∧dB c m who≤1000000:=⟨by omega,by
   have hr:=cC hwm (adr c who 1)
   rw [eB] at hr
   unfold fG at bd tl
   omega⟩
  rw [mR hb] at tl rm bd ⊢
  have hin:=DO hc h0 h1 hl (j:=0) (by decide) (by omega)
  by_cases hy:dT c m who=Y
  ·rw [FG (by omega) hin.2 hy]
   dsimp only
   rw [if_pos rfl]
   obtain ⟨a1,a2⟩:=wv hc hl h0 h1 (j:=0) (a:=fG Y 1) (by decide) (by omega)
   obtain ⟨b1,b2,b3⟩:=Xw hc hl h0 h1 (a:=fG Y 1)
   have hY:fG Y 1=dT c m who+1:=by rw [mR (by omega),hy]
   have hh':hiP (1,5,who,val,dB c m who,Y,0) (dB c (ar m (adr c who 0) (fG Y 1)) who)=dB c m who+1:=by
    rw [b2,← mR hb];rfl
   rw [hh']
   refine ⟨a1,a2,b3,.inl ⟨rfl,⟨rfl,rfl,rfl,by dsimp only;decide,fun h=>absurd h (show ¬ (5:Int)=1 by decide),fun _=>b2.symm,fun h=>absurd h (show ¬ ((5:Int)=3∨(5:Int)=4) by decide),fun h=>absurd h (show ¬ (5:Int)=4 by decide),fun h=>by rw [b1,b2,mR hb,hY];omega⟩,⟨by rw [b1];omega,by rw [b1];omega,by rw [b1];omega,bd⟩,Int.le_refl _,fun k => ?_,.inr (by rw [b1,hY])⟩⟩
   rw [PD (m:=m) (m':=ar m (adr c who 0) (fG Y 1)) (by omega) (by rw [b1,hY]) b3]
   unfold hdP
   rw [if_neg (c:=((1:Int),(4:Int),who,val,dB c m who,Y,(0:Int)).2.1=3∧_∨_) (by dsimp only;omega)]
   have e:dS c m who (dT c m who)=val:=by rw [r2,hy,r1]
   rw [e]
   by_cases hk:val=k
   ·rw [if_pos (.inr ⟨rfl,hk⟩),if_pos hk]
   ·rw [if_neg (by dsimp only;omega),if_neg hk]
  ·rw [KR hy]
   dsimp only
   rw [if_neg (by decide)]
   have hh':hiP (1,6,who,val,dB c m who,Y,0) (dB c m who)=dB c m who+1:=by
    rw [← mR hb];rfl
   rw [hh']
   refine ⟨.rfl',fun _ _ => .rfl',fun _=>rfl,.inl ⟨rfl,⟨rfl,rfl,rfl,by dsimp only;decide,fun h=>absurd h (show ¬ (6:Int)=1 by decide),fun _=>rfl,fun h=>absurd h (show ¬ ((6:Int)=3∨(6:Int)=4) by decide),fun h=>absurd h (show ¬ (6:Int)=4 by decide),fun h=>by rw [mR hb];omega⟩,⟨t0,tl,rm,bd⟩,Int.le_refl _,fun k => ?_,.inl ⟨rfl,fun h=>h⟩⟩⟩
   unfold hdP
   rw [if_neg (by dsimp only;omega),if_neg (by dsimp only;omega)]
 rw [if_neg e4]
 obtain ⟨a1,a2⟩:=wv hc hl h0 h1 (j:=1) (a:=fG (dB c m who) 1) (by decide) (by omega)
 obtain ⟨b1,b2,b3⟩:=Ry hc hl h0 h1 (a:=fG (dB c m who) 1)
 by_cases e5:pc=5
 ·subst e5
  rw [if_pos rfl]
  refine ⟨a1,a2,b3,.inr ⟨rfl,b1,b2,.inl ⟨rfl,fun k => ?_⟩⟩⟩
  unfold hdP
  by_cases hk:val=k
  ·rw [if_pos (.inr ⟨rfl,hk⟩)]
   exact (if_pos hk).symm
  ·rw [if_neg (by dsimp only;omega)]
   exact (if_neg hk).symm
 ·rw [if_neg e5]
  refine ⟨a1,a2,b3,.inr ⟨rfl,b1,b2,.inr ⟨show ¬ (3:Int)=1 by decide,fun k => ?_⟩⟩⟩
  unfold hdP
  rw [if_neg (by dsimp only;omega)]
end
theorem Ny {c:CF} {m:List Int} (hc:dj c=true) (hl:(m.length:Int)=bN c) {f:FR} {hi:Int} (h0:0≤f.2.2.1) (h1:f.2.2.1<c.1) (hf:ThF c m hi f) (hv:VOk c m f.2.2.1 hi) (hb:wC (dB c m f.2.2.1) (dT c m f.2.2.1)≤0∨dT c m f.2.2.1<hi) (hw:∀ y,0≤y→y<dT c m f.2.2.1→True) :
  InjEq c m (bv c m f).1∧(∀ u,u≠f.2.2.1→DEq c m (bv c m f).1 u)∧(∀ y,dS c (bv c m f).1 f.2.2.1 y=dS c m f.2.2.1 y)∧dB c (bv c m f).1 f.2.2.1=dB c m f.2.2.1 ∧
   ((ew (bv c m f).2=false∧(bv c m f).1=m∧ThF c m hi (bv c m f).2∧(bv c m f).2.2.2.1=f.2.2.1) ∨
    (ew (bv c m f).2=true∧(bv c m f).2.2.2.2.2.2.2≠1∧(bv c m f).1=m) ∨
    (ew (bv c m f).2=true∧(bv c m f).2.2.2.2.2.2.2=1∧dT c (bv c m f).1 f.2.2.1=dT c m f.2.2.1+1∧dT c m f.2.2.1<hi∧(bv c m f).2.2.2.2.1=dS c m f.2.2.1 (dT c m f.2.2.1))):=by
 obtain ⟨op,pc,who,val,X,Y,res⟩:=f
 obtain ⟨ho,hr,hp,p1,p2,p3⟩:=hf
 obtain ⟨t0,tl,rm,bd⟩:=hv
 dsimp only at *
 subst ho hr
 have hm:=aC hc
 rw [bv,if_neg (PZ hc hl ⟨rfl,h0,h1,rfl,by dsimp only;omega,by dsimp only;omega⟩)]
 dsimp only
 rw [ID hc h0 h1,JG hc h0 h1]
 have eT:ah m (adr c who 0)=dT c m who:=rfl
 have eB:ah m (adr c who 1)=dB c m who:=rfl
 rw [eT,eB]
 by_cases e0:pc=0
 ·rw [if_pos e0]
  exact ⟨.rfl',fun _ _ => .rfl',fun _=>rfl,rfl,.inl ⟨rfl,rfl,⟨rfl,rfl,by dsimp only;decide,fun _=>⟨t0,Int.le_refl _⟩,fun h=>absurd h (show ¬ (2:Int)≤1 by decide),fun h=>absurd h (show ¬ (1:Int)=3 by decide)⟩,rfl⟩⟩
 rw [if_neg e0]
 have q1:=p1 (by omega)
 by_cases e1:pc=1
 ·rw [if_pos e1]
  by_cases hfar:wC (dB c m who) Y≤0
  ·rw [if_pos hfar]
   exact ⟨.rfl',fun _ _ => .rfl',fun _=>rfl,rfl,.inr (.inl ⟨rfl,show ¬ (3:Int)=1 by decide,rfl⟩)⟩
  ·rw [if_neg hfar]
   refine ⟨.rfl',fun _ _ => .rfl',fun _=>rfl,rfl,.inl ⟨rfl,rfl,⟨rfl,rfl,by dsimp only;decide,fun _=>q1,fun _ e => ?_,fun h=>absurd h (show ¬ (2:Int)=3 by decide)⟩,rfl⟩⟩
   dsimp only at e ⊢
   rw [e] at hfar
   omega
 rw [if_neg e1]
 by_cases e2:pc=2
 ·rw [if_pos e2,FC hc h0 h1 (by omega) (by omega)]
  refine ⟨.rfl',fun _ _ => .rfl',fun _=>rfl,rfl,.inl ⟨rfl,rfl,⟨rfl,rfl,by dsimp only;decide,fun _=>q1,fun _ e=>p2 (by omega) e,fun _ e => ?_⟩,rfl⟩⟩
  dsimp only at e ⊢
  rw [e]
  rfl
 ·rw [if_neg e2]
  have hin:=DO hc h0 h1 hl (j:=0) (by decide) (by omega)
  by_cases hy:dT c m who=Y
  ·rw [FG (by omega) hin.2 hy]
   dsimp only
   rw [if_pos rfl]
   obtain ⟨a1,a2⟩:=wv hc hl h0 h1 (j:=0) (a:=fG Y 1) (by decide) (by omega)
   obtain ⟨b1,b2,b3⟩:=Xw hc hl h0 h1 (a:=fG Y 1)
   exact ⟨a1,a2,b3,b2,.inr (.inr ⟨rfl,rfl,by dsimp only;rw [b1,mR (by omega),hy],p2 (by omega) hy.symm,p3 (by omega) hy.symm⟩)⟩
  ·rw [KR hy]
   dsimp only
   rw [if_neg (by decide)]
   exact ⟨.rfl',fun _ _ => .rfl',fun _=>rfl,rfl,.inr (.inl ⟨rfl,show ¬ (4:Int)=1 by decide,rfl⟩)⟩
end Go.Ab
set_option linter.unusedVariables false
namespace Go.Ab
theorem Rx {c:CF} {m:List Int} (hc:dj c=true) (hl:(m.length:Int)=bN c) {f:FR} {op:Int} (h:f.2.2.2.2.2.2=0∧f.1=op∧0≤f.2.1∧f.2.1<5):¬ rj c m f op=false:=by
 unfold rj
 rw [hc,decide_eq_true hl,decide_eq_true h]
 decide
theorem InjEq.efr {c:CF} {m m':List Int} (h:InjEq c m m') {f:FR} (hf:EFr c m f):EFr c m' f:=
 ⟨hf.op,hf.res,hf.pc,fun e=>by rw [h.t];exact hf.p1 e,fun e e2=>by rw [h.s];exact hf.p2 e (by rw [← h.t];exact e2),fun e=>by rw [h.t,h.s];exact hf.p3 e,fun e=>by rw [h.v];exact hf.p4 e⟩
theorem InjEq.dfr {c:CF} {m m':List Int} (h:InjEq c m m') {f:FR} (hf:DFr c m f):DFr c m' f:=
 ⟨hf.op,hf.res,hf.pc,fun e=>by rw [h.h];exact hf.p1 e,fun e e2=>by rw [h.s];exact hf.p2 e (by rw [← h.h];exact e2),fun e=>by rw [h.h,h.s];exact hf.p3 e⟩
theorem InjEq.hd {c:CF} {m m':List Int} (h:InjEq c m m') (f:FR) (k:Int):hdD c m' f k=hdD c m f k:=by
 unfold hdD
 rw [h.v]
theorem InjEq.n {c:CF} {m m':List Int} (h:InjEq c m m') (k:Int):pU c m' k=pU c m k:=by
 unfold pU
 rw [h.t,h.h]
 exact fV fun i _=>by rw [h.s,h.v]
theorem InjEq.inj {c:CF} {m m':List Int} (h:InjEq c m m') {cE cD:Int→Nat} (hI:InjI c m cE cD):InjI c m' cE cD:=
 ⟨by rw [h.h];exact hI.h0,by rw [h.h,h.t];exact hI.ht,by rw [h.t];exact hI.tb,fun x a b=>by rw [h.s];exact hI.a x a (by rw [← h.t];exact b),fun x a=>by rw [h.s];exact hI.b x (by rw [← h.t];exact a),fun x a b=>by rw [h.s];exact hI.r x a (by rw [← h.h];exact b),fun x a=>by rw [h.s];exact hI.d x (by rw [← h.h];exact a)⟩
section
variable {c:CF} {m:List Int} (hc:dj c=true) (hl:(m.length:Int)=bN c) {f:FR} {c0 cD cE d0:Int→Nat}
include hc hl
theorem Mf (hI:InjI c m (fun q=>c0 q+clF f q) cD) (hf:EFr c m f) (hD:∀ x,0<cD x→sqI c m x=2*dF c x+1) (hE:∀ x,0<c0 x→sqI c m x=2*dF c x) (hb:ah m 5+1≤1000000) :
  (∀ u,0≤u→u<c.1→DEq c m (kZ c m f).1 u)∧(∀ g,EFr c m g→(3≤g.2.1→3≤f.2.1→g.2.2.2.2.1≠f.2.2.2.2.1)→EFr c (kZ c m f).1 g)∧(∀ g,DFr c m g→DFr c (kZ c m f).1 g∧∀ k,hdD c (kZ c m f).1 g k=hdD c m g k)∧ah (kZ c m f).1 5≤ah m 5+1 ∧
   ((ew (kZ c m f).2=false∧EFr c (kZ c m f).1 (kZ c m f).2∧InjI c (kZ c m f).1 (fun q=>c0 q+clF (kZ c m f).2 q) cD∧(∀ k,pU c (kZ c m f).1 k=pU c m k)∧(kZ c m f).2.2.2.2.1=f.2.2.2.1) ∨
    (ew (kZ c m f).2=true∧(kZ c m f).2.2.2.2.2.2.2=2∧InjI c (kZ c m f).1 c0 cD∧(∀ k,pU c (kZ c m f).1 k=pU c m k)∧(kZ c m f).2.2.2.2.1=f.2.2.2.1) ∨
    (ew (kZ c m f).2=true∧(kZ c m f).2.2.2.2.2.2.2=1∧InjI c (kZ c m f).1 c0 cD∧∀ k,pU c (kZ c m f).1 k=pU c m k+if f.2.2.2.1=k then 1 else 0)):=by
 obtain ⟨op,pc,who,val,X,Y,res⟩:=f
 obtain ⟨ho,hr,hp,p1,p2,p3,p4⟩:=hf
 dsimp only at *
 subst ho hr
 have hm:=aC hc
 have hs:=mK hc hl
 have t0:=hI.h0
 have t1:=hI.ht
 have low:∀ p:Int,p<3→(fun q=>c0 q+clF (3,p,who,val,X,Y,0) q)=c0:=fun p hp=>funext fun q=>by
  unfold clF
  rw [if_neg (by dsimp only;omega)]
  rfl
 have low2:∀ p x y:Int,p<3→(fun q=>c0 q+clF (3,p,who,val,x,y,0) q)=c0:=fun p x y hp=>funext fun q=>by
  unfold clF
  rw [if_neg (by dsimp only;omega)]
  rfl
 have hi3:∀ p y:Int,3≤p→(fun q=>c0 q+clF (3,p,who,val,X,y,0) q)=fun q=>c0 q+OK X q:=fun p y hp=>funext fun q=>by
  unfold clF OK
  by_cases e:X=q
  ·rw [if_pos ⟨hp,e⟩,if_pos e]
  ·rw [if_neg (fun h=>e h.2),if_neg e]
 rw [kZ,if_neg (Rx hc hl ⟨rfl,rfl,by dsimp only;omega,by dsimp only;omega⟩)]
 dsimp only
 by_cases e0:pc=0
 ·rw [if_pos e0]
  dsimp only
  rw [low pc (by omega)] at hI
  refine ⟨fun _ _ _ => .rfl',fun g hg _=>hg,fun g hg=>⟨hg,fun _=>rfl⟩,by omega,.inl ⟨rfl,⟨rfl,rfl,by dsimp only;decide,fun _=>⟨by dsimp only;omega,Int.le_refl _⟩,fun h=>absurd h (show ¬ (1:Int)=2 by decide),fun h=>absurd h (show ¬ (3:Int)≤1 by decide),fun h=>absurd h (show ¬ (1:Int)=4 by decide)⟩,?_,fun _=>rfl,rfl⟩⟩
  rw [low2 1 _ _ (by decide)]
  exact hI
 rw [if_neg e0]
 by_cases e1:pc=1
 ·rw [if_pos e1]
  have q1:=p1 (.inl e1)
  rw [low pc (by omega)] at hI
  rw [Jy hc q1.1 (by omega)]
  have eS:ah m (nA c X)=sqI c m X:=rfl
  rw [eS]
  by_cases hfree:sqI c m X=2*dF c X
  ·rw [if_pos hfree]
   dsimp only
   refine ⟨fun _ _ _ => .rfl',fun g hg _=>hg,fun g hg=>⟨hg,fun _=>rfl⟩,by omega,.inl ⟨rfl,⟨rfl,rfl,by dsimp only;decide,fun _=>q1,fun _ _=>hfree,fun h=>absurd h (show ¬ (3:Int)≤2 by decide),fun h=>absurd h (show ¬ (2:Int)=4 by decide)⟩,?_,fun _=>rfl,rfl⟩⟩
   rw [low2 2 _ _ (by decide)]
   exact hI
  rw [if_neg hfree]
  by_cases hfar:wC (sqI c m X) (2*dF c X)<0
  ·rw [if_pos hfar]
   exact ⟨fun _ _ _ => .rfl',fun g hg _=>hg,fun g hg=>⟨hg,fun _=>rfl⟩,by dsimp only;omega,.inr (.inl ⟨rfl,rfl,hI,fun _=>rfl,rfl⟩)⟩
  ·rw [if_neg hfar]
   dsimp only
   refine ⟨fun _ _ _ => .rfl',fun g hg _=>hg,fun g hg=>⟨hg,fun _=>rfl⟩,by omega,.inl ⟨rfl,⟨rfl,rfl,by dsimp only;decide,fun h=>absurd h (show ¬ ((0:Int)=1∨(0:Int)=2) by decide),fun h=>absurd h (show ¬ (0:Int)=2 by decide),fun h=>absurd h (show ¬ (3:Int)≤0 by decide),fun h=>absurd h (show ¬ (0:Int)=4 by decide)⟩,?_,fun _=>rfl,rfl⟩⟩
   rw [low2 0 _ _ (by decide)]
   exact hI
 rw [if_neg e1]
 by_cases e2:pc=2
 ·rw [if_pos e2]
  have q1:=p1 (.inr e2)
  rw [low pc (by omega)] at hI
  rw [mR (by omega)]
  by_cases hx:ah m 5=X
  ·rw [FG (by decide) (by omega) hx]
   dsimp only
   rw [if_pos rfl]
   have hfree:=p2 e2 hx.symm
   obtain ⟨i1,i2⟩:=Pq hc hl hI hx.symm hfree (by omega)
   have l5:ah (ar m 5 (X+1)) 5=X+1:=ee _ (by decide) (by omega)
   have l4:ah (ar m 5 (X+1)) 4=ah m 4:=aE _ (by decide)
   have sq:=fun y=>LU hc hl (i:=5) (X+1) y (by decide)
   have vl:=fun y=>MG hc hl (i:=5) (X+1) y (by decide)
   refine ⟨fun u u0 u1=>mX hc u0 u1 (by omega),fun g hg _=>⟨hg.op,hg.res,hg.pc,fun e => ?_,fun e e' => ?_,fun e => ?_,fun e => ?_⟩,fun g hg=>⟨⟨hg.op,hg.res,hg.pc,fun e => ?_,fun e e' => ?_,fun e => ?_⟩,fun k => ?_⟩,by rw [l5];omega,.inl ⟨rfl,⟨rfl,rfl,by dsimp only;decide,fun h=>absurd h (show ¬ ((3:Int)=1∨(3:Int)=2) by decide),fun h=>absurd h (show ¬ (3:Int)=2 by decide),fun _ => ?_,fun h=>absurd h (show ¬ (3:Int)=4 by decide)⟩,?_,i2,rfl⟩⟩
   ·have:=hg.p1 e;rw [l5];omega
   ·have:=hg.p1 (.inr e);rw [l5] at e';omega
   ·have:=hg.p3 e;rw [l5,sq];exact ⟨this.1,by omega,this.2.2⟩
   ·rw [vl];exact hg.p4 e
   ·rw [l4];exact hg.p1 e
   ·rw [l4] at e';rw [sq];exact hg.p2 e e'
   ·rw [l4,sq];exact hg.p3 e
   ·unfold hdD;rw [vl]
   ·dsimp only;rw [l5,sq];exact ⟨q1.1,by omega,hfree⟩
   ·rw [hi3 3 Y (by decide)];exact i1
  ·rw [KR hx]
   dsimp only
   rw [if_neg (by decide)]
   refine ⟨fun _ _ _ => .rfl',fun g hg _=>hg,fun g hg=>⟨hg,fun _=>rfl⟩,by omega,.inl ⟨rfl,⟨rfl,rfl,by dsimp only;decide,fun h=>absurd h (show ¬ ((0:Int)=1∨(0:Int)=2) by decide),fun h=>absurd h (show ¬ (0:Int)=2 by decide),fun h=>absurd h (show ¬ (3:Int)≤0 by decide),fun h=>absurd h (show ¬ (0:Int)=4 by decide)⟩,?_,fun _=>rfl,rfl⟩⟩
   rw [low2 0 _ _ (by decide)]
   exact hI
 rw [if_neg e2]
 obtain ⟨x0,x1,hfree⟩:=p3 (by omega)
 rw [hi3 pc Y (by omega)] at hI
 have hsx:=CQ hc X
 have sI0:=Int.emod_nonneg X (show c.2.2.1≠0 by omega)
 have sI1:=Int.emod_lt_of_pos X (show 0<c.2.2.1 by omega)
 by_cases e3:pc=3
 ·rw [if_pos e3]
  dsimp only
  obtain ⟨i1,i2,i3,i4⟩:=YZ hc hl (v:=val) hI x0 x1 hfree
  obtain ⟨l4,l5⟩:=L2 hc hl X val
  have sq:=fun y=>GT hc hl X val y
  refine ⟨fun u u0 u1=>mX hc u0 u1 (by rw [Aj hc];omega),fun g hg hne=>⟨hg.op,hg.res,hg.pc,fun e => ?_,fun e e' => ?_,fun e => ?_,fun e => ?_⟩,fun g hg=>⟨⟨hg.op,hg.res,hg.pc,fun e => ?_,fun e e' => ?_,fun e => ?_⟩,fun k => ?_⟩,by rw [l5];omega,.inl ⟨rfl,⟨rfl,rfl,by dsimp only;decide,fun h=>absurd h (show ¬ ((4:Int)=1∨(4:Int)=2) by decide),fun h=>absurd h (show ¬ (4:Int)=2 by decide),fun _ => ?_,fun _ => ?_⟩,?_,i2,rfl⟩⟩
  ·rw [l5];exact hg.p1 e
  ·rw [l5] at e';rw [sq];exact hg.p2 e e'
  ·rw [l5,sq];exact hg.p3 e
  ·rw [i3 _ (hg.p3 (by omega)).2.2 (hne (by omega) (by omega))];exact hg.p4 e
  ·rw [l4];exact hg.p1 e
  ·rw [l4] at e';rw [sq];exact hg.p2 e e'
  ·rw [l4,sq];exact hg.p3 e
  ·unfold hdD
   by_cases e:g.2.1=3
   ·rw [i4 _ (hg.p3 (by omega)).2.2]
   ·simp only [e,false_and]
  ·dsimp only;rw [l5,sq];exact ⟨x0,x1,hfree⟩
  ·dsimp only;rw [LM hc hl,if_pos rfl]
  ·rw [hi3 4 Y (by decide)];exact i1
 ·rw [if_neg e3]
  have hX:X≤1000000:=by omega
  rw [Jy hc x0 hX]
  have hlap:=wz hc x0
  rw [show fG (2*dF c X) 1=2*dF c X+1 by unfold fG;omega]
  obtain ⟨i1,i2,i3⟩:=aaj hc hl hI hD hE x0 x1 hfree
  obtain ⟨l4,l5⟩:=AV hc hl X (2*dF c X+1)
  have vl:=fun y=>uV hc hl X (2*dF c X+1) y
  have sq:=fun y=>AJ hc hl X (2*dF c X+1) y
  have keep:∀ y,sqI c m y=2*dF c y→y≠X→sqI c (ar m (nA c X) (2*dF c X+1)) y=sqI c m y:=fun y hy hn=>by
   rw [sq,if_neg]
   intro e
   have:=rz hc hl (m:=m) e
   exact hn (Qv e (by omega))
  refine ⟨fun u u0 u1=>mX hc u0 u1 (by rw [o8 hc];omega),fun g hg hne=>⟨hg.op,hg.res,hg.pc,fun e => ?_,fun e e' => ?_,fun e => ?_,fun e => ?_⟩,fun g hg=>⟨⟨hg.op,hg.res,hg.pc,fun e => ?_,fun e e' => ?_,fun e => ?_⟩,fun k => ?_⟩,by dsimp only;rw [l5];omega,.inr (.inr ⟨rfl,rfl,i1,fun k => ?_⟩)⟩
  ·dsimp only;rw [l5];exact hg.p1 e
  ·dsimp only at e' ⊢
   rw [l5] at e'
   rw [keep _ (hg.p2 e e') (by omega)];exact hg.p2 e e'
  ·dsimp only
   have:=hg.p3 e
   rw [l5,keep _ this.2.2 (hne e (by omega))];exact this
  ·dsimp only;rw [vl];exact hg.p4 e
  ·dsimp only;rw [l4];exact hg.p1 e
  ·dsimp only at e' ⊢
   rw [l4] at e'
   have:=hg.p2 e e'
   rw [i3 _ (by omega)];exact this
  ·dsimp only
   have:=hg.p3 e
   rw [l4,i3 _ (by omega)];exact this
  ·unfold hdD;dsimp only;rw [vl]
  ·rw [i2,p4 (by omega)]
theorem UT (hw:Wm m) (hI:InjI c m cE (fun q=>d0 q+clF f q)) (hf:DFr c m f) (hD:∀ x,0<d0 x→sqI c m x=2*dF c x+1) (hE:∀ x,0<cE x→sqI c m x=2*dF c x) :
  (∀ u,0≤u→u<c.1→DEq c m (lZ c m f).1 u)∧(∀ g,DFr c m g→(3≤g.2.1→3≤f.2.1→g.2.2.2.2.1≠f.2.2.2.2.1)→DFr c (lZ c m f).1 g∧∀ k,hdD c (lZ c m f).1 g k=hdD c m g k)∧(∀ g,EFr c m g→EFr c (lZ c m f).1 g)∧ah (lZ c m f).1 5=ah m 5 ∧
   ((ew (lZ c m f).2=false∧DFr c (lZ c m f).1 (lZ c m f).2∧InjI c (lZ c m f).1 cE (fun q=>d0 q+clF (lZ c m f).2 q)∧∀ k,pU c (lZ c m f).1 k+hdD c (lZ c m f).1 (lZ c m f).2 k=pU c m k+hdD c m f k) ∨
    (ew (lZ c m f).2=true∧(lZ c m f).2.2.2.2.2.2.2=1∧InjI c (lZ c m f).1 cE d0∧(∀ k,pU c (lZ c m f).1 k=pU c m k)∧∀ k,hdD c m f k=if (lZ c m f).2.2.2.2.1=k then 1 else 0) ∨
    (ew (lZ c m f).2=true∧(lZ c m f).2.2.2.2.2.2.2≠1∧InjI c (lZ c m f).1 cE d0∧(∀ k,pU c (lZ c m f).1 k=pU c m k)∧∀ k,hdD c m f k=0)):=by
 obtain ⟨op,pc,who,val,X,Y,res⟩:=f
 obtain ⟨ho,hr,hp,p1,p2,p3⟩:=hf
 dsimp only at *
 subst ho hr
 have hm:=aC hc
 have hs:=mK hc hl
 have t0:=hI.h0
 have t1:=hI.ht
 have t2:=hI.tb
 have low2:∀ p v x y:Int,p<3→(fun q=>d0 q+clF (4,p,who,v,x,y,0) q)=d0:=fun p v x y hp=>funext fun q=>by
  unfold clF
  rw [if_neg (by dsimp only;omega)]
  rfl
 have hi3:∀ p v y:Int,3≤p→(fun q=>d0 q+clF (4,p,who,v,X,y,0) q)=fun q=>d0 q+OK X q:=fun p v y hp=>funext fun q=>by
  unfold clF OK
  by_cases e:X=q
  ·rw [if_pos ⟨hp,e⟩,if_pos e]
  ·rw [if_neg (fun h=>e h.2),if_neg e]
 have hd0:∀ (m':List Int) (p v x y k:Int),p<3→hdD c m' (4,p,who,v,x,y,0) k=0:=fun m' p v x y k hp=>by
  unfold hdD
  rw [if_neg (by dsimp only;omega)]
 rw [lZ,if_neg (Rx hc hl ⟨rfl,rfl,by dsimp only;omega,by dsimp only;omega⟩)]
 dsimp only
 by_cases e0:pc=0
 ·rw [if_pos e0]
  dsimp only
  rw [low2 pc _ _ _ (by omega)] at hI
  refine ⟨fun _ _ _ => .rfl',fun g hg _=>⟨hg,fun _=>rfl⟩,fun g hg=>hg,rfl,.inl ⟨rfl,⟨rfl,rfl,by dsimp only;decide,fun _=>⟨by dsimp only;omega,Int.le_refl _⟩,fun h=>absurd h (show ¬ (1:Int)=2 by decide),fun h=>absurd h (show ¬ (3:Int)≤1 by decide)⟩,?_,fun k => ?_⟩⟩
  ·rw [low2 1 _ _ _ (by decide)]
   exact hI
  ·rw [hd0 _ _ _ _ _ _ (by omega),hd0 _ _ _ _ _ _ (by omega)]
 rw [if_neg e0]
 by_cases e1:pc=1
 ·rw [if_pos e1]
  have q1:=p1 (.inl e1)
  rw [low2 pc _ _ _ (by omega)] at hI
  rw [Pa hc q1.1 (by omega)]
  have eS:ah m (nA c X)=sqI c m X:=rfl
  rw [eS]
  have hr:0≤sqI c m X∧sqI c m X≤18446744073709551615:=cC hw _
  have hlap:=wz hc q1.1
  by_cases hfull:wC (sqI c m X) (2*dF c X+1)=0
  ·rw [if_pos hfull]
   dsimp only
   have he:sqI c m X=2*dF c X+1:=by
    unfold wC at hfull
    rw [kg] at hfull
    simp only [IntKind.wrap,IntKind.bits,IntKind.signed] at hfull
    simp at hfull
    omega
   refine ⟨fun _ _ _ => .rfl',fun g hg _=>⟨hg,fun _=>rfl⟩,fun g hg=>hg,rfl,.inl ⟨rfl,⟨rfl,rfl,by dsimp only;decide,fun _=>q1,fun _ _=>he,fun h=>absurd h (show ¬ (3:Int)≤2 by decide)⟩,?_,fun k => ?_⟩⟩
   ·rw [low2 2 _ _ _ (by decide)]
    exact hI
   ·rw [hd0 _ _ _ _ _ _ (by omega),hd0 _ _ _ _ _ _ (by omega)]
  rw [if_neg hfull]
  by_cases hfar:wC (sqI c m X) (2*dF c X+1)<0
  ·rw [if_pos hfar]
   exact ⟨fun _ _ _ => .rfl',fun g hg _=>⟨hg,fun _=>rfl⟩,fun g hg=>hg,rfl,.inr (.inr ⟨rfl,show ¬ (3:Int)=1 by decide,hI,fun _=>rfl,fun k=>hd0 _ _ _ _ _ _ (by omega)⟩)⟩
  ·rw [if_neg hfar]
   dsimp only
   refine ⟨fun _ _ _ => .rfl',fun g hg _=>⟨hg,fun _=>rfl⟩,fun g hg=>hg,rfl,.inl ⟨rfl,⟨rfl,rfl,by dsimp only;decide,fun h=>absurd h (show ¬ ((0:Int)=1∨(0:Int)=2) by decide),fun h=>absurd h (show ¬ (0:Int)=2 by decide),fun h=>absurd h (show ¬ (3:Int)≤0 by decide)⟩,?_,fun k => ?_⟩⟩
   ·rw [low2 0 _ _ _ (by decide)]
    exact hI
   ·rw [hd0 _ _ _ _ _ _ (by omega),hd0 _ _ _ _ _ _ (by omega)]
 rw [if_neg e1]
 by_cases e2:pc=2
 ·rw [if_pos e2]
  have q1:=p1 (.inr e2)
  rw [low2 pc _ _ _ (by omega)] at hI
  rw [mR (by omega)]
  by_cases hx:ah m 4=X
  ·rw [FG (by decide) (by omega) hx]
   dsimp only
   rw [if_pos rfl]
   have hfull:=p2 e2 hx.symm
   obtain ⟨ilt,i1,i2⟩:=OE hc hl hI hx.symm hfull
   have l4:ah (ar m 4 (X+1)) 4=X+1:=ee _ (by decide) (by omega)
   have l5:ah (ar m 4 (X+1)) 5=ah m 5:=aE _ (by decide)
   have sq:=fun y=>LU hc hl (i:=4) (X+1) y (by decide)
   have vl:=fun y=>MG hc hl (i:=4) (X+1) y (by decide)
   refine ⟨fun u u0 u1=>mX hc u0 u1 (by omega),fun g hg _=>⟨⟨hg.op,hg.res,hg.pc,fun e => ?_,fun e e' => ?_,fun e => ?_⟩,fun k => ?_⟩,fun g hg=>⟨hg.op,hg.res,hg.pc,fun e => ?_,fun e e' => ?_,fun e => ?_,fun e => ?_⟩,l5,.inl ⟨rfl,⟨rfl,rfl,by dsimp only;decide,fun h=>absurd h (show ¬ ((3:Int)=1∨(3:Int)=2) by decide),fun h=>absurd h (show ¬ (3:Int)=2 by decide),fun _ => ?_⟩,?_,fun k => ?_⟩⟩
   ·have:=hg.p1 e;rw [l4];omega
   ·have:=hg.p1 (.inr e);rw [l4] at e';omega
   ·have:=hg.p3 e;rw [l4,sq];exact ⟨this.1,by omega,this.2.2⟩
   ·unfold hdD;rw [vl]
   ·rw [l5];exact hg.p1 e
   ·rw [l5] at e';rw [sq];exact hg.p2 e e'
   ·rw [l5,sq];exact hg.p3 e
   ·rw [vl];exact hg.p4 e
   ·dsimp only;rw [l4,sq];exact ⟨q1.1,by omega,hfull⟩
   ·rw [hi3 3 _ Y (by decide)];exact i1
   ·rw [hd0 m pc val X Y k (by omega),i2 k]
    unfold hdD
    dsimp only
    rw [vl]
    by_cases hk:vlI c m X=k
    ·rw [if_pos (.inl ⟨rfl,hk⟩),if_pos hk]
    ·rw [if_neg (by omega),if_neg hk]
  ·rw [KR hx]
   dsimp only
   rw [if_neg (by decide)]
   refine ⟨fun _ _ _ => .rfl',fun g hg _=>⟨hg,fun _=>rfl⟩,fun g hg=>hg,rfl,.inl ⟨rfl,⟨rfl,rfl,by dsimp only;decide,fun h=>absurd h (show ¬ ((0:Int)=1∨(0:Int)=2) by decide),fun h=>absurd h (show ¬ (0:Int)=2 by decide),fun h=>absurd h (show ¬ (3:Int)≤0 by decide)⟩,?_,fun k => ?_⟩⟩
   ·rw [low2 0 _ _ _ (by decide)]
    exact hI
   ·rw [hd0 _ _ _ _ _ _ (by omega),hd0 _ _ _ _ _ _ (by omega)]
 rw [if_neg e2]
 obtain ⟨x0,x1,hfull⟩:=p3 (by omega)
 rw [hi3 pc _ Y (by omega)] at hI
 have sI0:=Int.emod_nonneg X (show c.2.2.1≠0 by omega)
 have sI1:=Int.emod_lt_of_pos X (show 0<c.2.2.1 by omega)
 by_cases e3:pc=3
 ·rw [if_pos e3]
  subst e3
  dsimp only
  refine ⟨fun _ _ _ => .rfl',fun g hg _=>⟨hg,fun _=>rfl⟩,fun g hg=>hg,rfl,.inl ⟨rfl,⟨rfl,rfl,by dsimp only;decide,fun h=>absurd h (show ¬ ((4:Int)=1∨(4:Int)=2) by decide),fun h=>absurd h (show ¬ (4:Int)=2 by decide),fun _=>⟨x0,x1,hfull⟩⟩,?_,fun k => ?_⟩⟩
  ·rw [hi3 4 _ Y (by decide)];exact hI
  ·unfold hdD
   dsimp only
   have eV:ah m (CY c X)=vlI c m X:=rfl
   rw [eV]
   by_cases hk:vlI c m X=k
   ·rw [if_pos (.inr ⟨rfl,hk⟩),if_pos (.inl ⟨rfl,hk⟩)]
   ·rw [if_neg (by omega),if_neg (by omega)]
 ·rw [if_neg e3]
  have e4:pc=4:=by omega
  subst e4
  have hX:X≤1000000:=by omega
  rw [Pa hc x0 hX]
  have hlap:=wz hc x0
  rw [show fG (2*dF c X+1) 1=2*dF c X+2 by unfold fG;omega]
  obtain ⟨i1,i2,i3⟩:=UO hc hl hI hD hE x0 x1 hfull
  obtain ⟨l4,l5⟩:=AV hc hl X (2*dF c X+2)
  have vl:=fun y=>uV hc hl X (2*dF c X+2) y
  have sq:=fun y=>AJ hc hl X (2*dF c X+2) y
  have keep:∀ y,sqI c m y=2*dF c y+1→y≠X→sqI c (ar m (nA c X) (2*dF c X+2)) y=sqI c m y:=fun y hy hn=>by
   rw [sq,if_neg]
   intro e
   have:=rz hc hl (m:=m) e
   exact hn (Qv e (by omega))
  refine ⟨fun u u0 u1=>mX hc u0 u1 (by rw [o8 hc];omega),fun g hg hne=>⟨⟨hg.op,hg.res,hg.pc,fun e => ?_,fun e e' => ?_,fun e => ?_⟩,fun k => ?_⟩,fun g hg=>⟨hg.op,hg.res,hg.pc,fun e => ?_,fun e e' => ?_,fun e => ?_,fun e => ?_⟩,l5,.inr (.inl ⟨rfl,rfl,i1,i2,fun k => ?_⟩)⟩
  ·dsimp only;rw [l4];exact hg.p1 e
  ·dsimp only at e' ⊢
   rw [l4] at e'
   rw [keep _ (hg.p2 e e') (by omega)];exact hg.p2 e e'
  ·dsimp only
   have:=hg.p3 e
   rw [l4,keep _ this.2.2 (hne e (by omega))];exact this
  ·unfold hdD;dsimp only;rw [vl]
  ·dsimp only;rw [l5];exact hg.p1 e
  ·dsimp only at e' ⊢
   rw [l5] at e'
   have:=hg.p2 e e'
   rw [i3 _ (by omega)];exact this
  ·dsimp only
   have:=hg.p3 e
   rw [l5,i3 _ (by omega)];exact this
  ·dsimp only;rw [vl];exact hg.p4 e
  ·unfold hdD
   dsimp only [fy]
   by_cases hk:val=k
   ·rw [if_pos (.inr ⟨rfl,hk⟩)]
    exact (if_pos hk).symm
   ·rw [if_neg (by omega)]
    exact (if_neg hk).symm
end
end Go.Ab
set_option linter.unusedVariables false
namespace Go.Ab
def fl {α:Type} (g:Nat→α→Nat):Nat→List α→Nat
 | _,[]=>0
 | n,x::l=>g n x+fl g (n+1) l
theorem m8 {α:Type} {g g':Nat→α→Nat}:∀ {n:Nat} {W W':List α},W'.length=W.length→(∀ (j:Nat) x x',W[j]? = some x→W'[j]? = some x'→g' (n+j) x'=g (n+j) x)→fl g' n W'=fl g n W
 | n,[],[],_,_=>rfl
 | n,[],_::_,h,_=>by simp at h
 | n,_::_,[],h,_=>by simp at h
 | n,x::l,x'::l',hl,h=>by
  rw [fl,fl,m8 (n:=n+1) (W:=l) (W':=l') (by simpa using hl) (fun j z z' hz hz'=>by
   have:=h (j+1) z z' hz hz'
   rw [show n+1+j=n+(j+1) by omega]
   exact this)]
  have:=h 0 x x' rfl rfl
  rw [Nat.add_zero] at this
  rw [this]
theorem Ev {α:Type} {g g':Nat→α→Nat}:∀ {n v:Nat} {W W':List α} {z z':α},W'.length=W.length→W[v]? = some z→W'[v]? = some z'→(∀ (j:Nat) x x',j≠v→W[j]? = some x→W'[j]? = some x'→g' (n+j) x'=g (n+j) x)→fl g' n W'+g (n+v) z=fl g n W+g' (n+v) z'
 | n,_,[],_,_,_,_,hz,_,_=>by simp at hz
 | n,_,_::_,[],_,_,hl,_,_,_=>by simp at hl
 | n,0,x::l,x'::l',z,z',hl,hz,hz',h=>by
  cases hz
  cases hz'
  rw [fl,fl,m8 (n:=n+1) (W:=l) (W':=l') (g:=g) (g':=g') (by simpa using hl) (fun j z z' hz hz'=>by
   have:=h (j+1) z z' (by omega) hz hz'
   rw [show n+1+j=n+(j+1) by omega]
   exact this)]
  simp only [Nat.add_zero]
  omega
 | n,v+1,x::l,x'::l',z,z',hl,hz,hz',h=>by
  have ih:=Ev (n:=n+1) (v:=v) (W:=l) (W':=l') (g:=g) (g':=g') (by simpa using hl) (z:=z) (z':=z') hz hz' (fun j a b hj ha hb=>by
   have:=h (j+1) a b (by omega) ha hb
   rw [show n+1+j=n+(j+1) by omega]
   exact this)
  have h0:=h 0 x x' (by omega) rfl rfl
  rw [Nat.add_zero] at h0
  rw [show n+1+v=n+(v+1) by omega] at ih
  rw [fl,fl,h0]
  omega
theorem iI {α:Type} {g:Nat→α→Nat}:∀ {n i:Nat} {W:List α} {x:α},W[i]? = some x→g (n+i) x≤fl g n W
 | n,_,[],_,h=>by simp at h
 | n,0,x::l,_,h=>by
  cases h
  rw [fl,Nat.add_zero]
  omega
 | n,i+1,x::l,y,h=>by
  have:=iI (g:=g) (n:=n+1) (i:=i) (W:=l) (x:=y) h
  rw [show n+1+i=n+(i+1) by omega] at this
  rw [fl]
  omega
theorem uR {α:Type} {g:Nat→α→Nat}:∀ {n i j:Nat} {W:List α} {x z:α},i≠j→W[i]? = some x→W[j]? = some z→g (n+i) x+g (n+j) z≤fl g n W
 | n,_,_,[],_,_,_,h,_=>by simp at h
 | n,0,0,_::_,_,_,h,_,_=>absurd rfl h
 | n,0,j+1,x::l,_,z,_,h,h2=>by
  cases h
  have:=iI (g:=g) (n:=n+1) (i:=j) (W:=l) (x:=z) h2
  rw [show n+1+j=n+(j+1) by omega] at this
  rw [fl,Nat.add_zero]
  omega
 | n,i+1,0,x::l,y,_,_,h2,h=>by
  cases h
  have:=iI (g:=g) (n:=n+1) (i:=i) (W:=l) (x:=y) h2
  rw [show n+1+i=n+(i+1) by omega] at this
  rw [fl]
  simp only [Nat.add_zero]
  omega
 | n,i+1,j+1,x::l,y,z,hn,h,h2=>by
  have:=uR (g:=g) (n:=n+1) (i:=i) (j:=j) (W:=l) (x:=y) (z:=z) (by omega) h h2
  rw [show n+1+i=n+(i+1) by omega,show n+1+j=n+(j+1) by omega] at this
  rw [fl]
  omega
theorem pL {α:Type} {g:Nat→α→Nat} {W:List α} {i:Nat} {x y:α} (h:W[i]? = some x):fl g 0 (W.set i y)+g i x=fl g 0 W+g i y:=by
 obtain ⟨hi,rfl⟩:=List.getElem?_eq_some_iff.1 h
 have:=Ev (g:=g) (g':=g) (n:=0) (v:=i) (W:=W) (W':=W.set i y) (z:=W[i]) (z':=y) List.length_set (List.getElem?_eq_getElem hi) (List.getElem?_set_self hi) (fun j a b hj ha hb=>by
  rw [List.getElem?_set_ne (by omega),ha] at hb
  cases hb
  rfl)
 rw [Nat.zero_add] at this
 exact this
def hdW (c:CF) (m:List Int) (x:WB) (k:Int):Nat:=if x.1=0 then hdP c m x.2.2.1 k else if x.1=2 then hdD c m x.2.2.1 k else if x.1=4∨x.1=11∨x.1=12 then (if x.2.2.1.2.2.2.1=k then 1 else 0) else 0
def hiW (c:CF) (m:List Int) (v:Int) (x:WB):Int:=if x.1=0 then hiP x.2.2.1 (dB c m v) else dB c m v
def clE (x:WB) (q:Int):Nat:=if x.1=12 then clF x.2.2.1 q else 0
def clD (x:WB) (q:Int):Nat:=if x.1=2 then clF x.2.2.1 q else 0
def clS (x:SB) (q:Int):Nat:=if x.1=2 then clF x.2.2 q else 0
def wc (c:CF) (m:List Int) (W:List WB) (k:Int):Nat:=fl (fun _ x=>hdW c m x k) 0 W
def Aq (c:CF) (m:List Int) (W:List WB) (k:Int):Nat:=fl (fun i x=>dqN c m i (hiW c m i x) k) 0 W
def pB (c:CF) (m:List Int) (W:List WB) (k:Int):Nat:=wc c m W k+Aq c m W k+pU c m k
structure OwQ (c:CF) (m:List Int) (n:Nat) (i:Int) (x:WB):Prop where
 v:VOk c m i (hiW c m i x)
 n:hiW c m i x≤n
 po:x.1=0→PoF c m i x.2.2.1
 ps:x.1=11→PsF c m i x.2.2.1
structure OwI (c:CF) (m:List Int) (x:WB):Prop where
 de:x.1=2→DFr c m x.2.2.1
 en:x.1=12→EFr c m x.2.2.1
 ev:x.1=5∨x.1=6∨x.1=7∨x.1=8∨x.1=14→5≤x.2.2.1.1
structure MstA (n:Nat) (c:CF) (m:List Int) (W:List WB) (S:List SB):Prop where
 inj:InjI c m (fun q=>fl (fun _ x=>clE x q) 0 W+fl (fun _ x=>clS x q) 0 S) (fun q=>fl (fun _ x=>clD x q) 0 W)
 b5:ah m 5≤n
 q:∀ (i:Nat) x,W[i]? = some x→OwQ c m n i x
 i:∀ x ∈ W,OwI c m x
 th:∀ x ∈ W,x.1=3→0≤x.2.2.1.2.2.1∧x.2.2.1.2.2.1<c.1∧∀ z,W[x.2.2.1.2.2.1.toNat]? = some z→ThF c m (hiW c m x.2.2.1.2.2.1 z) x.2.2.1
 s:∀ x ∈ S,(x.1=2→EFr c m x.2.2∧x.2.2.2.2.2.1=iS x.2.1)∧(x.1=4→5≤x.2.2.1)
theorem DEq.hi {c:CF} {m m':List Int} {v:Int} (h:DEq c m m' v) (x:WB):hiW c m' v x=hiW c m v x:=by
 unfold hiW
 rw [h.b]
theorem DEq.vok {c:CF} {m m':List Int} {v hi:Int} (h:DEq c m m' v) (hv:VOk c m v hi):VOk c m' v hi:=⟨by rw [h.t];exact hv.t0,by rw [h.t];exact hv.le,by rw [h.t];exact hv.rm,hv.bd⟩
theorem DEq.pof {c:CF} {m m':List Int} {v:Int} (h:DEq c m m' v) {f:FR} (hf:PoF c m v f):PoF c m' v f:=
 ⟨hf.op,hf.who,hf.res,hf.pc,fun e=>by rw [h.b];exact hf.p1 e,fun e=>by rw [h.b];exact hf.p2 e,fun e=>by rw [h.t];exact hf.p3 e,fun e=>by rw [h.s];exact hf.p4 e,fun e=>by rw [h.t,h.b];exact hf.p5 e⟩
theorem DEq.psf {c:CF} {m m':List Int} {v:Int} (h:DEq c m m' v) {f:FR} (hf:PsF c m v f):PsF c m' v f:=
 ⟨hf.op,hf.who,hf.res,hf.pc,fun e=>by rw [h.b];exact hf.p1 e,fun e=>by rw [h.t];exact hf.p2 e,fun e=>by rw [h.s];exact hf.p3 e⟩
theorem DEq.owq {c:CF} {m m':List Int} {n n':Nat} {i:Int} {x:WB} (h:DEq c m m' i) (hn:n≤n') (hx:OwQ c m n i x):OwQ c m' n' i x:=
 ⟨by rw [h.hi];exact h.vok hx.v,by rw [h.hi];have:=hx.n;omega,fun e=>h.pof (hx.po e),fun e=>h.psf (hx.ps e)⟩
theorem DEq.n {c:CF} {m m':List Int} {v:Int} (h:DEq c m m' v) (hi k:Int):dqN c m' v hi k=dqN c m v hi k:=uX h.t fun y _ _=>h.s y
theorem DEq.hdp {c:CF} {m m':List Int} {f:FR} (h:DEq c m m' f.2.2.1) (k:Int):hdP c m' f k=hdP c m f k:=by
 unfold hdP
 rw [h.s]
theorem ab7 {c:CF} {m m':List Int} {n n':Nat} {i:Int} {x:WB} (hx:OwQ c m n i x) (hn:n≤n') (ht:dT c m' i=dT c m i+1) (hb:dB c m' i=dB c m i) (hs:∀ y,dS c m' i y=dS c m i y) (hlt:dT c m i<hiW c m i x):OwQ c m' n' i x:=by
 have hh:hiW c m' i x=hiW c m i x:=by unfold hiW;rw [hb]
 obtain ⟨a,b,d,e⟩:=hx.v
 refine ⟨⟨by omega,by rw [hh];omega,by rw [hh];omega,by rw [hh];exact e⟩,by rw [hh];have:=hx.n;omega,fun e0 => ?_,fun e0 => ?_⟩
 ·have hf:=hx.po e0
  refine ⟨hf.op,hf.who,hf.res,hf.pc,fun e=>by rw [hb];exact hf.p1 e,fun e=>by rw [hb];exact hf.p2 e,fun e=>by have:=hf.p3 e;omega,fun e=>by rw [hs];exact hf.p4 e,fun e => ?_⟩
  have h5:=hf.p5 e
  unfold hiW at hlt
  rw [if_pos e0] at hlt
  unfold hiP at hlt
  rw [if_pos (by omega)] at hlt
  omega
 ·have hf:=hx.ps e0
  exact ⟨hf.op,hf.who,hf.res,hf.pc,fun e=>by rw [hb];exact hf.p1 e,fun e=>by have:=hf.p2 e;omega,fun e=>by rw [hs];exact hf.p3 e⟩
section
variable {c:CF} {m m':List Int} {n:Nat} {W:List WB} {S:List SB} {i:Nat}
def oE (W:List WB) (S:List SB) (x:WB) (q:Int):Nat:=fl (fun _ x=>clE x q) 0 W - clE x q+fl (fun _ x=>clS x q) 0 S
def oD (W:List WB) (x:WB) (q:Int):Nat:=fl (fun _ x=>clD x q) 0 W - clD x q
theorem O6 {x:WB} (hx:W[i]? = some x) (q:Int):fl (fun _ x=>clE x q) 0 W+fl (fun _ x=>clS x q) 0 S=oE W S x q+clE x q:=by
 have:=iI (g:=fun _ x=>clE x q) (n:=0) hx
 unfold oE
 omega
theorem PV {x:WB} (hx:W[i]? = some x) (q:Int):fl (fun _ x=>clD x q) 0 W=oD W x q+clD x q:=by
 have:=iI (g:=fun _ x=>clD x q) (n:=0) hx
 unfold oD
 omega
theorem asm (hc:dj c=true) (hW:(W.length:Int)=c.1) (hI:MstA n c m W S) {x y:WB} (hx:W[i]? = some x) (hinj:InjI c m' (fun q=>oE W S x q+clE y q) (fun q=>oD W x q+clD y q)) (hb5:ah m' 5≤ah m 5+1)
  (tE:∀ g,EFr c m g→(∀ q,clF g q≤oE W S x q)→EFr c m' g)
  (tD:∀ g,DFr c m g→(∀ q,clF g q≤oD W x q)→DFr c m' g∧∀ k,hdD c m' g k=hdD c m g k)
  {u:Nat} {z z':WB} (hz:W[u]? = some z) (hz':(W.set i y)[u]? = some z') (hu:∀ j:Nat,j≠u→(j:Int)<c.1→DEq c m m' j) (hui:u≠i→dT c m' u=dT c m u+1∧dB c m' u=dB c m u∧(∀ a,dS c m' u a=dS c m u a)∧dT c m u<hiW c m u z∧hiW c m' i y=hiW c m i x)
  (hth:∀ f:FR,f.2.2.1=u→ThF c m (hiW c m u z) f→ThF c m' (hiW c m' u z') f)
  (yq:OwQ c m' (n+1) i y) (yi:OwI c m' y) (yt:y.1=3→0≤y.2.2.1.2.2.1∧y.2.2.1.2.2.1<c.1∧∀ a,(W.set i y)[y.2.2.1.2.2.1.toNat]? = some a→ThF c m' (hiW c m' y.2.2.1.2.2.1 a) y.2.2.1) :
  MstA (n+1) c m' (W.set i y) S∧(∀ k,wc c m' (W.set i y) k+hdW c m x k=wc c m W k+hdW c m' y k)∧∀ k,Aq c m' (W.set i y) k+dqN c m u (hiW c m u z) k=Aq c m W k+dqN c m' u (hiW c m' u z') k:=by
 obtain ⟨hi,hxe⟩:=List.getElem?_eq_some_iff.1 hx
 have oth:∀ {j:Nat} {a:WB},(W.set i y)[j]? = some a→j=i∧a=y∨j≠i∧W[j]? = some a:=by
  intro j a ha
  rw [List.getElem?_set] at ha
  split at ha
  ·rename_i e
   cases ha
   exact .inl ⟨e.symm,rfl⟩
  ·rename_i e
   exact .inr ⟨fun h=>e h.symm,ha⟩
 have clE2:∀ {j:Nat} {a:WB},j≠i→W[j]? = some a→∀ q,clE a q≤oE W S x q:=fun hj ha q=>by
  have:=uR (g:=fun _ x=>clE x q) (n:=0) hj ha hx
  unfold oE
  omega
 have clS2:∀ a ∈ S,∀ q,clS a q≤oE W S x q:=fun a ha q=>by
  obtain ⟨j,hj⟩:=List.mem_iff_getElem?.1 ha
  have:=iI (g:=fun _ x=>clS x q) (n:=0) hj
  unfold oE
  omega
 have clD2:∀ {j:Nat} {a:WB},j≠i→W[j]? = some a→∀ q,clD a q≤oD W x q:=fun hj ha q=>by
  have:=uR (g:=fun _ x=>clD x q) (n:=0) hj ha hx
  unfold oD
  omega
 have othI:∀ {j:Nat} {a:WB},j≠i→W[j]? = some a→OwI c m' a∧∀ k,hdW c m' a k=hdW c m a k:=by
  intro j a hj ha
  have h:=hI.i a (List.mem_of_getElem? ha)
  have hq:=hI.q j a ha
  refine ⟨⟨fun e=>(tD _ (h.de e) fun q => ?_).1,fun e=>tE _ (h.en e) fun q => ?_,h.ev⟩,fun k => ?_⟩
  ·have:=clD2 hj ha q
   unfold clD at this
   rwa [if_pos e] at this
  ·have:=clE2 hj ha q
   unfold clE at this
   rwa [if_pos e] at this
  ·unfold hdW
   split
   ·rename_i e
    have hf:=hq.po e
    by_cases hju:j=u
    ·subst hju
     have hs:=(hui hj).2.2.1
     unfold hdP
     rw [hf.who,hs]
    ·have hlt:=(List.getElem?_eq_some_iff.1 ha).1
     refine DEq.hdp ?_ k
     rw [hf.who]
     exact hu j hju (by omega)
   ·split
    ·rename_i e
     exact (tD _ (h.de e) fun q=>by
      have:=clD2 hj ha q
      unfold clD at this
      rwa [if_pos e] at this).2 k
    ·rfl
 have othQ:∀ {j:Nat} {a:WB},j≠i→W[j]? = some a→OwQ c m' (n+1) j a:=by
  intro j a hj ha
  by_cases hju:j=u
  ·subst hju
   obtain ⟨a1,a2,a3,a4,_⟩:=hui hj
   rw [hz] at ha
   cases ha
   exact ab7 (hI.q j z hz) (Nat.le_succ n) a1 a2 a3 a4
  ·have hlt:=(List.getElem?_eq_some_iff.1 ha).1
   exact (hu j hju (by omega)).owq (Nat.le_succ n) (hI.q j a ha)
 have othH:∀ {j:Nat} {a b:WB},j≠u→W[j]? = some a→(W.set i y)[j]? = some b→hiW c m' j b=hiW c m j a:=by
  intro j a b hj ha hb
  rcases oth hb with ⟨e,rfl⟩ | ⟨e,hb⟩
  ·subst e
   rw [hx] at ha
   cases ha
   exact (hui fun h=>hj h.symm).2.2.2.2
  ·rw [ha] at hb
   cases hb
   have hlt:=(List.getElem?_eq_some_iff.1 ha).1
   exact (hu j hj (by omega)).hi a
 refine ⟨⟨?_,by have:=hI.b5;omega,fun j a ha => ?_,fun a ha => ?_,fun a ha e => ?_,fun a ha => ?_⟩,fun k => ?_,fun k => ?_⟩
 ·have e1:(fun q=>fl (fun _ x=>clE x q) 0 (W.set i y)+fl (fun _ x=>clS x q) 0 S)=fun q=>oE W S x q+clE y q:=funext fun q=>by
   have:=pL (g:=fun _ x=>clE x q) (y:=y) hx
   have h2:=iI (g:=fun _ x=>clE x q) (n:=0) hx
   unfold oE
   omega
  have e2:(fun q=>fl (fun _ x=>clD x q) 0 (W.set i y))=fun q=>oD W x q+clD y q:=funext fun q=>by
   have:=pL (g:=fun _ x=>clD x q) (y:=y) hx
   have h2:=iI (g:=fun _ x=>clD x q) (n:=0) hx
   unfold oD
   omega
  rw [e1,e2]
  exact hinj
 ·rcases oth ha with ⟨rfl,rfl⟩ | ⟨e,ha⟩
  ·exact yq
  ·exact othQ e ha
 ·obtain ⟨j,hj⟩:=List.mem_iff_getElem?.1 ha
  rcases oth hj with ⟨_,rfl⟩ | ⟨e,hj⟩
  ·exact yi
  ·exact (othI e hj).1
 ·obtain ⟨j,hj⟩:=List.mem_iff_getElem?.1 ha
  rcases oth hj with ⟨_,rfl⟩ | ⟨e2,hj⟩
  ·exact yt e
  ·obtain ⟨w0,w1,w2⟩:=hI.th a (List.mem_of_getElem? hj) e
   refine ⟨w0,w1,fun b hb => ?_⟩
   by_cases hw:a.2.2.1.2.2.1.toNat=u
   ·have hwu:a.2.2.1.2.2.1=u:=by omega
    rw [hw,hz'] at hb
    cases hb
    have:=hth a.2.2.1 hwu
    rw [← hwu] at this
    exact this (w2 z (by rw [hw];exact hz))
   ·obtain ⟨d,hd⟩:∃ d,W[a.2.2.1.2.2.1.toNat]? = some d:=⟨_,List.getElem?_eq_getElem (by omega)⟩
    have hh:=othH hw hd hb
    have hk:((a.2.2.1.2.2.1.toNat:Nat):Int)=a.2.2.1.2.2.1:=by omega
    rw [hk] at hh
    have hD:=hu _ hw (by omega)
    rw [hk] at hD
    rw [hh]
    exact (w2 d hd).stay hD.t fun h=>⟨h,hD.s _⟩
 ·have h:=hI.s a ha
  refine ⟨fun e=>⟨tE _ (h.1 e).1 fun q => ?_,(h.1 e).2⟩,h.2⟩
  have:=clS2 a ha q
  unfold clS at this
  rwa [if_pos e] at this
 ·have:=Ev (g:=fun _ x=>hdW c m x k) (g':=fun _ x=>hdW c m' x k) (n:=0) (v:=i) (W:=W) (W':=W.set i y) (z:=x) (z':=y) List.length_set hx (List.getElem?_set_self hi) (fun j a b hj ha hb=>by
   rcases oth hb with ⟨e,_⟩ | ⟨e,hb⟩
   ·exact absurd e hj
   ·rw [ha] at hb
    cases hb
    exact (othI e ha).2 k)
  exact this
 ·have:=Ev (g:=fun i x=>dqN c m i (hiW c m i x) k) (g':=fun i x=>dqN c m' i (hiW c m' i x) k) (n:=0) (v:=u) (W:=W) (W':=W.set i y) (z:=z) (z':=z') List.length_set hz hz' (fun j a b hj ha hb=>by
   rw [Nat.zero_add,othH hj ha hb]
   have hlt:=(List.getElem?_eq_some_iff.1 ha).1
   exact (hu j hj (by omega)).n _ _)
  rw [Nat.zero_add] at this
  exact this
end
end Go.Ab
set_option linter.unusedVariables false
namespace Go.Ab
structure NewF (c:CF) (i:Int) (y:WB):Prop where
 f0:y.1=0→y.2.2.1.1=1∧y.2.2.1.2.2.1=i∧y.2.2.1.2.1=0∧y.2.2.1.2.2.2.2.2.2=0
 f11:y.1=11→y.2.2.1.1=0∧y.2.2.1.2.2.1=i∧y.2.2.1.2.1=0∧y.2.2.1.2.2.2.2.2.2=0
 f2:y.1=2→y.2.2.1.1=4∧y.2.2.1.2.1=0∧y.2.2.1.2.2.2.2.2.2=0
 f12:y.1=12→y.2.2.1.1=3∧y.2.2.1.2.1=0∧y.2.2.1.2.2.2.2.2.2=0
 f3:y.1=3→y.2.2.1.1=2∧y.2.2.1.2.1=0∧y.2.2.1.2.2.2.2.2.2=0∧0≤y.2.2.1.2.2.1∧y.2.2.1.2.2.1<c.1
 ev:y.1=5∨y.1=6∨y.1=7∨y.1=8∨y.1=14→5≤y.2.2.1.1
def hdY (y:WB) (k:Int):Nat:=if y.1=4∨y.1=11∨y.1=12 then (if y.2.2.1.2.2.2.1=k then 1 else 0) else 0
section
variable {c:CF} {m m':List Int} {n:Nat} {W:List WB} {S:List SB} {i:Nat}
theorem NewF.hi {y:WB} (h:NewF c i y) (v:Int):hiW c m v y=dB c m v:=by
 unfold hiW
 split
 ·rename_i e
  obtain ⟨_,_,h3,_⟩:=h.f0 e
  unfold hiP
  rw [if_neg (by omega)]
 ·rfl
theorem NewF.hd {y:WB} (h:NewF c i y) (k:Int):hdW c m y k=hdY y k:=by
 unfold hdW hdY
 split
 ·rename_i e
  obtain ⟨_,_,h3,_⟩:=h.f0 e
  unfold hdP
  rw [if_neg (by omega),if_neg (by omega)]
 ·split
  ·rename_i e
   obtain ⟨_,h3,_⟩:=h.f2 e
   unfold hdD
   rw [if_neg (by omega),if_neg (by omega)]
  ·rfl
theorem NewF.cl {y:WB} (h:NewF c i y) (q:Int):clE y q=0∧clD y q=0:=by
 unfold clE clD clF
 constructor
 ·split
  ·rename_i e
   obtain ⟨_,h3,_⟩:=h.f12 e
   rw [if_neg (by omega)]
  ·rfl
 ·split
  ·rename_i e
   obtain ⟨_,h3,_⟩:=h.f2 e
   rw [if_neg (by omega)]
  ·rfl
theorem NewF.owi {y:WB} (h:NewF c i y):OwI c m y:=by
 refine ⟨fun e => ?_,fun e => ?_,h.ev⟩
 ·obtain ⟨h1,h2,h3⟩:=h.f2 e
  exact ⟨h1,h3,by omega,fun _=>by omega,fun _=>by omega,fun _=>by omega⟩
 ·obtain ⟨h1,h2,h3⟩:=h.f12 e
  exact ⟨h1,h3,by omega,fun _=>by omega,fun _=>by omega,fun _=>by omega,fun _=>by omega⟩
theorem Cg (hc:dj c=true) (hW:(W.length:Int)=c.1) (hI:MstA n c m W S) {x y:WB} (hx:W[i]? = some x) (hN:NewF c i y) (hinj:InjI c m' (oE W S x) (oD W x)) (hb5:ah m' 5≤ah m 5+1)
  (tE:∀ g,EFr c m g→(∀ q,clF g q≤oE W S x q)→EFr c m' g)
  (tD:∀ g,DFr c m g→(∀ q,clF g q≤oD W x q)→DFr c m' g∧∀ k,hdD c m' g k=hdD c m g k)
  (hu:∀ j:Nat,j≠i→(j:Int)<c.1→DEq c m m' j) (ht:dT c m' i=dT c m i) (hb:dB c m' i=hiW c m i x) (hs:∀ a,dT c m i≤a→a<hiW c m i x→dS c m' i a=dS c m i a) :
  MstA (n+1) c m' (W.set i y) S∧(∀ k,wc c m' (W.set i y) k+hdW c m x k=wc c m W k+hdY y k)∧∀ k,Aq c m' (W.set i y) k=Aq c m W k:=by
 obtain ⟨hi,hxe⟩:=List.getElem?_eq_some_iff.1 hx
 have hset:(W.set i y)[i]? = some y:=List.getElem?_set_self hi
 have hq:=hI.q i x hx
 have hih:hiW c m' i y=hiW c m i x:=by rw [hN.hi,hb]
 have hv:VOk c m' i (hiW c m' i y):=⟨by rw [ht];exact hq.v.t0,by rw [ht,hih];exact hq.v.le,by rw [ht,hih];exact hq.v.rm,by rw [hih];exact hq.v.bd⟩
 obtain ⟨a1,a2,a3⟩:=asm hc hW hI hx (y:=y) (m':=m') (by
   have e1:(fun q=>oE W S x q+clE y q)=oE W S x:=funext fun q=>by rw [(hN.cl q).1];rfl
   have e2:(fun q=>oD W x q+clD y q)=oD W x:=funext fun q=>by rw [(hN.cl q).2];rfl
   rw [e1,e2]
   exact hinj) hb5 tE tD (u:=i) hx hset hu (fun h=>absurd rfl h) (fun f hf h=>by
   rw [← hf] at h ht hs hih ⊢
   rw [hih]
   exact h.stay ht fun h=>⟨h,hs _ (Int.le_refl _) h⟩)
  ⟨hv,by rw [hih];have:=hq.n;omega,fun e=>by
   obtain ⟨h1,h2,h3,h4⟩:=hN.f0 e
   exact ⟨h1,h2,h4,by omega,fun _=>by omega,fun _=>by omega,fun _=>by omega,fun _=>by omega,fun _=>by omega⟩,fun e=>by
   obtain ⟨h1,h2,h3,h4⟩:=hN.f11 e
   exact ⟨h1,h2,h4,by omega,fun _=>by omega,fun _=>by omega,fun _=>by omega⟩⟩ hN.owi (fun e=>by
   obtain ⟨h1,h2,h3,h4,h5⟩:=hN.f3 e
   exact ⟨h4,h5,fun a _=>⟨h1,h3,by omega,fun _=>by omega,fun _=>by omega,fun _=>by omega⟩⟩)
 refine ⟨a1,fun k => ?_,fun k => ?_⟩
 ·rw [a2,hN.hd]
 ·have:=a3 k
  rw [hih,uX ht hs] at this
  omega
theorem AT (hI:MstA n c m W S) {x:WB} (hx:W[i]? = some x) (ie:InjEq c m m') (cx:∀ q,clE x q=0∧clD x q=0):InjI c m' (oE W S x) (oD W x):=by
 have e1:(fun q=>fl (fun _ x=>clE x q) 0 W+fl (fun _ x=>clS x q) 0 S)=oE W S x:=funext fun q=>by rw [O6 hx,(cx q).1];rfl
 have e2:(fun q=>fl (fun _ x=>clD x q) 0 W)=oD W x:=funext fun q=>by rw [PV hx,(cx q).2];rfl
 have:=hI.inj
 rw [e1,e2] at this
 exact ie.inj this
theorem AN (hc:dj c=true) (hW:(W.length:Int)=c.1) (hI:MstA n c m W S) {x y:WB} (hx:W[i]? = some x) (hN:NewF c i y) (ie:InjEq c m m') (cx:∀ q,clE x q=0∧clD x q=0)
  (hu:∀ j:Nat,j≠i→(j:Int)<c.1→DEq c m m' j) (ht:dT c m' i=dT c m i) (hb:dB c m' i=hiW c m i x) (hs:∀ a,dT c m i≤a→a<hiW c m i x→dS c m' i a=dS c m i a) :
  MstA (n+1) c m' (W.set i y) S∧∀ k,pB c m' (W.set i y) k+hdW c m x k=pB c m W k+hdY y k:=by
 obtain ⟨a1,a2,a3⟩:=Cg hc hW hI hx hN (AT hI hx ie cx) (by rw [ie.t];omega) (fun g hg _=>ie.efr hg) (fun g hg _=>⟨ie.dfr hg,ie.hd g⟩) hu ht hb hs
 refine ⟨a1,fun k => ?_⟩
 have:=a2 k
 have:=a3 k
 unfold pB
 rw [ie.n k]
 omega
theorem Zd (hc:dj c=true) (hW:(W.length:Int)=c.1) (hI:MstA n c m W S) {x y:WB} (hx:W[i]? = some x) (hN:NewF c i y) (ie:InjEq c m m') (hx0:x.1≠0∧x.1≠2∧x.1≠12) (hu:∀ u,0≤u→u<c.1→DEq c m m' u) :
  MstA (n+1) c m' (W.set i y) S∧∀ k,pB c m' (W.set i y) k+hdY x k=pB c m W k+hdY y k:=by
 have hi:=(List.getElem?_eq_some_iff.1 hx).1
 have hii:=hu i (by omega) (by omega)
 have hh:hiW c m i x=dB c m i:=by unfold hiW;rw [if_neg hx0.1]
 obtain ⟨a1,a2⟩:=AN hc hW hI hx hN ie (fun q=>by unfold clE clD;rw [if_neg hx0.2.2,if_neg hx0.2.1];exact ⟨rfl,rfl⟩) (fun j _ h=>hu j (by omega) h) hii.t (by rw [hh,hii.b]) (fun a _ _=>hii.s a)
 refine ⟨a1,fun k => ?_⟩
 have e:hdW c m x k=hdY x k:=by
  unfold hdW hdY
  rw [if_neg hx0.1,if_neg hx0.2.1]
 rw [← e]
 exact a2 k
theorem IK (hc:dj c=true) (hW:(W.length:Int)=c.1) (hI:MstA n c m W S) {x y:WB} (hx:W[i]? = some x) (ie:InjEq c m m') (hx0:x.1≠2∧x.1≠12) (hy0:y.1≠2∧y.1≠12∧y.1≠3∧y.1≠5∧y.1≠6∧y.1≠7∧y.1≠8∧y.1≠14)
  (hu:∀ j:Nat,j≠i→(j:Int)<c.1→DEq c m m' j) (hth:∀ f:FR,f.2.2.1=i→ThF c m (hiW c m i x) f→ThF c m' (hiW c m' i y) f) (yq:OwQ c m' (n+1) i y) :
  MstA (n+1) c m' (W.set i y) S∧∀ k,pB c m' (W.set i y) k+(hdW c m x k+dqN c m i (hiW c m i x) k)=pB c m W k+(hdW c m' y k+dqN c m' i (hiW c m' i y) k):=by
 obtain ⟨hi,hxe⟩:=List.getElem?_eq_some_iff.1 hx
 have hset:(W.set i y)[i]? = some y:=List.getElem?_set_self hi
 have hin:=AT hI hx ie (fun q=>by unfold clE clD;rw [if_neg hx0.2,if_neg hx0.1];exact ⟨rfl,rfl⟩)
 obtain ⟨a1,a2,a3⟩:=asm hc hW hI hx (y:=y) (m':=m') (by
   have e1:(fun q=>oE W S x q+clE y q)=oE W S x:=funext fun q=>by unfold clE;rw [if_neg hy0.2.1];rfl
   have e2:(fun q=>oD W x q+clD y q)=oD W x:=funext fun q=>by unfold clD;rw [if_neg hy0.1];rfl
   rw [e1,e2]
   exact hin) (by rw [ie.t];omega) (fun g hg _=>ie.efr hg) (fun g hg _=>⟨ie.dfr hg,ie.hd g⟩) (u:=i) hx hset hu (fun h=>absurd rfl h) hth yq
  ⟨fun e=>absurd e hy0.1,fun e=>absurd e hy0.2.1,fun e=>by omega⟩ (fun e=>absurd e hy0.2.2.1)
 refine ⟨a1,fun k => ?_⟩
 have:=a2 k
 have:=a3 k
 unfold pB
 rw [ie.n k]
 omega
theorem RB (hc:dj c=true) (hW:(W.length:Int)=c.1) (hI:MstA n c m W S) {x y:WB} (hx:W[i]? = some x) (hx0:x.1≠0) (hy0:y.1=2∨y.1=12) (hinj:InjI c m' (fun q=>oE W S x q+clE y q) (fun q=>oD W x q+clD y q)) (hb5:ah m' 5≤ah m 5+1)
  (tE:∀ g,EFr c m g→(∀ q,clF g q≤oE W S x q)→EFr c m' g)
  (tD:∀ g,DFr c m g→(∀ q,clF g q≤oD W x q)→DFr c m' g∧∀ k,hdD c m' g k=hdD c m g k)
  (hu:∀ u,0≤u→u<c.1→DEq c m m' u) (yi:OwI c m' y) :
  MstA (n+1) c m' (W.set i y) S∧(∀ k,wc c m' (W.set i y) k+hdW c m x k=wc c m W k+hdW c m' y k)∧∀ k,Aq c m' (W.set i y) k=Aq c m W k:=by
 obtain ⟨hi,hxe⟩:=List.getElem?_eq_some_iff.1 hx
 have hset:(W.set i y)[i]? = some y:=List.getElem?_set_self hi
 have hii:=hu i (by omega) (by omega)
 have hq:=hI.q i x hx
 have h1:hiW c m i x=dB c m i:=by unfold hiW;rw [if_neg hx0]
 have h2:hiW c m' i y=dB c m' i:=by unfold hiW;rw [if_neg (by omega)]
 have hh:hiW c m' i y=hiW c m i x:=by rw [h1,h2,hii.b]
 obtain ⟨a1,a2,a3⟩:=asm hc hW hI hx (y:=y) (m':=m') hinj hb5 tE tD (u:=i) hx hset (fun j _ h=>hu j (by omega) h) (fun h=>absurd rfl h) (fun f hf h=>by
   rw [← hf] at h hii hh ⊢
   rw [hh]
   exact h.stay hii.t fun h=>⟨h,hii.s _⟩)
  ⟨by rw [hh];exact hii.vok hq.v,by rw [hh];have:=hq.n;omega,fun e=>by omega,fun e=>by omega⟩ yi (fun e=>by omega)
 refine ⟨a1,a2,fun k => ?_⟩
 have:=a3 k
 rw [hh,hii.n] at this
 omega
end
end Go.Ab
set_option linter.unusedVariables false
namespace Go.Ab
def evC (e:Int) (l:List EV) (k:Int):Nat:=l.countP fun v=>decide (v.1=e∧v.2.1=k)
theorem lg {e a j w k:Int}:evC e [(a,j,w)] k=if a=e∧j=k then 1 else 0:=by
 unfold evC
 rw [List.countP_cons,List.countP_nil]
 by_cases h:a=e∧j=k
 ·rw [if_pos h]
  simp [h.1,h.2]
 ·rw [if_neg h]
  simp only [decide_eq_false h,if_false,Bool.false_eq_true,Nat.zero_add]
theorem nN {α:Type} {g:Nat→α→Nat}:∀ {n:Nat} {W:List α},0<fl g n W→∃ j x,W[j]? = some x∧0<g (n+j) x
 | n,[],h=>by simp [fl] at h
 | n,x::l,h=>by
  rw [fl] at h
  by_cases h0:0<g n x
  ·exact ⟨0,x,rfl,h0⟩
  ·obtain ⟨j,z,hz,hp⟩:=nN (n:=n+1) (W:=l) (g:=g) (by omega)
   exact ⟨j+1,z,hz,by rw [show n+(j+1)=n+1+j by omega];exact hp⟩
theorem AH {c:CF} {m:List Int} {f:FR} (hc:dj c=true) (h:5≤f.1):InjEq c m (dG c m f).1∧(∀ u,0≤u→u<c.1→DEq c m (dG c m f).1 u)∧(dG c m f).2.1=f.1:=by
 have hm:=aC hc
 have s2:∀ a,InjEq c m (ar m 2 a)∧∀ u,0≤u→u<c.1→DEq c m (ar m 2 a) u:=fun a=>⟨gD hc (.inl (by decide)),fun u u0 u1=>mX hc u0 u1 (by omega)⟩
 have sp:∀ w a,InjEq c m (ar m (f6 c w) a)∧∀ u,0≤u→u<c.1→DEq c m (ar m (f6 c w) a) u:=fun w a=>by
  rw [abx]
  rcases aa3 (c:=c) (w:=w) (x:=2) (by decide) with e | ⟨_,w0,w1,e,e2⟩
  ·rw [e]
   exact ⟨.rfl',fun _ _ _ => .rfl'⟩
  ·have ht:=dX hc w0 (by omega)
   refine ⟨gD hc (.inr (by omega)),fun u u0 u1=>B7 hc fun j j0 j1 j2 e3 => ?_⟩
   rw [Ld hc w0 w1] at e3
   exact uF hc ⟨by decide,by omega⟩ ⟨j0,j1⟩ (.inr fun h=>j2 h.symm) e3
 have sc:∀ o a,InjEq c m (uc m 2 o a).1∧∀ u,0≤u→u<c.1→DEq c m (uc m 2 o a).1 u:=fun o a=>by
  unfold uc
  split
  ·exact s2 a
  ·exact ⟨.rfl',fun _ _ _ => .rfl'⟩
 have z:InjEq c m m∧∀ u,0≤u→u<c.1→DEq c m m u:=⟨.rfl',fun _ _ _ => .rfl'⟩
 have key:(InjEq c m (dG c m f).1∧∀ u,0≤u→u<c.1→DEq c m (dG c m f).1 u)∧(dG c m f).2.1=f.1:=by
  unfold dG lm Kf
  rw [if_neg (by omega),if_neg (by omega)]
  split
  ·unfold CN
   repeat' split
   all_goals first | exact ⟨z,rfl⟩ | exact ⟨sc _ _,rfl⟩ | exact ⟨sp _ _,rfl⟩
  ·split
   ·unfold AA NJ
    repeat' split
    all_goals first | exact ⟨z,rfl⟩ | exact ⟨s2 _,rfl⟩ | exact ⟨sp _ _,rfl⟩
   ·exact ⟨z,rfl⟩
 exact ⟨key.1.1,key.1.2,key.2⟩
def Xz (a:Int):Bool:=decide (a≠0∧a≠11∧a≠2∧a≠12∧a≠3∧a≠5∧a≠6∧a≠7∧a≠8∧a≠14)
theorem fH {c:CF} {i:Int} {y:WB} (h:Xz y.1=true):NewF c i y:=by
 unfold Xz at h
 have h:=of_decide_eq_true h
 constructor <;> intro e <;> omega
theorem mS {c:CF} {i:Int} {y:WB} (h:y.1=5∨y.1=6∨y.1=7∨y.1=8∨y.1=14) (h5:5≤y.2.2.1.1):NewF c i y:=by
 constructor <;> intro e <;> first | exact h5 | omega
section
variable {c:CF} {t:Tyt} {m:List Int} {n:Nat} {W:List WB} {S:List SB} {i:Nat} {x:WB} {d:Int}
def lJ (c:CF) (m:List Int) (n:Nat) (W:List WB) (S:List SB) (i:Nat) (r:WR):Prop:=
 MstA (n+1) c r.1 (W.set i r.2.1) S∧∀ k,pB c r.1 (W.set i r.2.1) k+evC 2 r.2.2 k=pB c m W k+evC 3 r.2.2 k
variable (hc:dj c=true) (hl:(m.length:Int)=bN c) (hW:(W.length:Int)=c.1) (hwm:Wm m) (hI:MstA n c m W S) (hx:W[i]? = some x) (hn:n+1≤1000000) (hsm:∀ k,0<pB c m W k→0≤k∧k<1000)
theorem PE {k:Int} (hx:W[i]? = some x) (h:0<hdW c m x k):0<pB c m W k:=by
 have:=iI (g:=fun _ x=>hdW c m x k) (n:=0) hx
 unfold pB wc
 omega
theorem wo {v:Int} (h:0≤v∧v<1000):OI v=v:=by
 unfold OI
 simp only [IntKind.wrap,IntKind.bits,IntKind.signed]
 simp
 omega
include hc hl hW hwm hI hx hn hsm
theorem Bs (hx0:x.1≠0∧x.1≠2∧x.1≠12) {m':List Int} {y:WB} {evs:List EV} (hN:NewF c i y) (ie:InjEq c m m') (hu:∀ u,0≤u→u<c.1→DEq c m m' u) (he:∀ k,hdY y k+evC 2 evs k=hdY x k+evC 3 evs k):lJ c m n W S i (m',y,evs):=by
 have _h:=And.intro hl (And.intro hwm (And.intro hn hsm))
 obtain ⟨a1,a2⟩:=Zd hc hW hI hx hN ie hx0 hu
 refine ⟨a1,fun k => ?_⟩
 have:=a2 k
 have:=he k
 dsimp only
 omega
theorem GF (hx0:x.1≠0∧x.1≠2∧x.1≠12) {j a:Int} (hj:j<4) {y:WB} {evs:List EV} (hN:NewF c i y) (he:∀ k,hdY y k+evC 2 evs k=hdY x k+evC 3 evs k):lJ c m n W S i (ar m j a,y,evs):=by
 have hm:=aC hc
 exact Bs hc hl hW hwm hI hx hn hsm hx0 hN (gD hc (.inl hj)) (fun u u0 u1=>mX hc u0 u1 (by omega)) he
theorem rC (hx0:x.1≠0∧x.1≠2∧x.1≠12) {y:WB} {evs:List EV} (hN:NewF c i y) (he:∀ k,hdY y k+evC 2 evs k=hdY x k+evC 3 evs k):lJ c m n W S i (m,y,evs):=
 Bs hc hl hW hwm hI hx hn hsm hx0 hN .rfl' (fun _ _ _ => .rfl') he
theorem afB (e:x.1=0):lJ c m n W S i (IQ c t m i x):=by
 have _h:=hn
 have hi:=(List.getElem?_eq_some_iff.1 hx).1
 have hq:=hI.q i x hx
 have hf:=hq.po e
 have hv:=hq.v
 have hh:hiW c m i x=hiP x.2.2.1 (dB c m i):=by unfold hiW;rw [if_pos e]
 have hd:∀ k,hdW c m x k=hdP c m x.2.2.1 k:=fun k=>by unfold hdW;rw [if_pos e]
 rw [hh] at hv
 have hk:dG c m x.2.2.1=lb c m x.2.2.1:=by
  unfold dG C7
  rw [hf.op]
  rfl
 obtain ⟨ie,du,ds,hcase⟩:=SU hc hl (Int.natCast_nonneg i) (by omega) hwm hf hv
 unfold IQ
 rw [hk]
 dsimp only
 have hne:∀ j:Nat,j≠i→(j:Int)<c.1→DEq c m (lb c m x.2.2.1).1 j:=fun j hj _=>du j (by omega)
 rcases hcase with ⟨o,pf,vf,hle,hcnt,htop⟩ | ⟨o,ht,hb,hcase⟩
 ·rw [if_pos o]
  have hh':hiW c (lb c m x.2.2.1).1 i (x.1,x.2.1,(lb c m x.2.2.1).2,x.2.2.2)=hiP (lb c m x.2.2.1).2 (dB c (lb c m x.2.2.1).1 i):=by
   unfold hiW
   exact if_pos e
  obtain ⟨a1,a2⟩:=IK hc hW hI hx (y:=(x.1,x.2.1,(lb c m x.2.2.1).2,x.2.2.2)) ie (by omega) (by dsimp only;omega) hne (fun f hfi h=>by
   rw [hh] at h
   rw [hh']
   rw [← hfi] at h htop ds ⊢
   rcases htop with ⟨t1,t2⟩ | t1
   ·exact h.stay t1 fun h=>⟨t2 h,ds _⟩
   ·exact h.top t1) ⟨by rw [hh'];exact vf,by rw [hh'];have:=hq.n;omega,fun _=>pf,fun h=>absurd (h.symm.trans e) (by decide)⟩
  refine ⟨a1,fun k => ?_⟩
  have h1:=a2 k
  have h2:=hcnt k
  have hd':hdW c (lb c m x.2.2.1).1 (x.1,x.2.1,(lb c m x.2.2.1).2,x.2.2.2) k=hdP c (lb c m x.2.2.1).1 (lb c m x.2.2.1).2 k:=if_pos e
  rw [hd,hd',hh,hh'] at h1
  have e2:evC 2 [] k=0:=rfl
  have e3:evC 3 [] k=0:=rfl
  dsimp only
  omega
 ·rw [if_neg (by rw [o];decide)]
  have hb':dB c (lb c m x.2.2.1).1 i=hiW c m i x:=by rw [hb,hh]
  have cx:∀ q,clE x q=0∧clD x q=0:=fun q=>by
   unfold clE clD
   rw [if_neg (by omega),if_neg (by omega)]
   exact ⟨rfl,rfl⟩
  rcases hcase with ⟨r1,hh1⟩ | ⟨r1,hh1⟩
  ·rw [if_neg (fun h=>h r1)]
   have hs:=hsm _ (PE hx (show 0<hdW c m x (lb c m x.2.2.1).2.2.2.2.1 by rw [hd,hh1,if_pos rfl];decide))
   rw [wo hs]
   obtain ⟨a1,a2⟩:=AN hc hW hI hx (y:=(9,iU t x.2.1 (lb c m x.2.2.1).2.2.2.2.1,dx,x.2.2.2)) (fH rfl) ie cx hne ht hb' (fun a _ _=>ds a)
   refine ⟨a1,fun k => ?_⟩
   have h1:=a2 k
   rw [hd,hh1] at h1
   rw [lg,lg]
   rw [show hdY (9,iU t x.2.1 (lb c m x.2.2.1).2.2.2.2.1,dx,x.2.2.2) k=0 from rfl] at h1
   dsimp only
   simp only [true_and,show ¬ ((2:Int)=3) by decide,false_and,if_false]
   omega
  ·rw [if_pos r1]
   obtain ⟨a1,a2⟩:=AN hc hW hI hx (y:=toW 1 x) (fH rfl) ie cx hne ht hb' (fun a _ _=>ds a)
   refine ⟨a1,fun k => ?_⟩
   have h1:=a2 k
   rw [hd,hh1] at h1
   rw [show hdY (toW 1 x) k=0 from rfl] at h1
   exact h1
theorem Ls (q:Int) (h:0<oD W x q):sqI c m q=2*dF c q+1:=by
 have _h:=And.intro hc (And.intro hl (And.intro hW (And.intro hwm (And.intro hn (And.intro hsm hx)))))
 have h2:0<fl (fun _ x=>clD x q) 0 W:=by unfold oD at h;omega
 obtain ⟨j,a,ha,hp⟩:=nN h2
 unfold clD at hp
 split at hp
 ·rename_i e
  unfold clF at hp
  split at hp
  ·rename_i e2
   have:=((hI.i a (List.mem_of_getElem? ha)).de e).p3 e2.1
   rw [e2.2] at this
   exact this.2.2
  ·omega
 ·omega
theorem LE (q:Int) (h:0<oE W S x q):sqI c m q=2*dF c q:=by
 have _h:=And.intro hc (And.intro hl (And.intro hW (And.intro hwm (And.intro hn (And.intro hsm hx)))))
 have h2:0<fl (fun _ x=>clE x q) 0 W∨0<fl (fun _ x=>clS x q) 0 S:=by unfold oE at h;omega
 rcases h2 with h2 | h2
 ·obtain ⟨j,a,ha,hp⟩:=nN h2
  unfold clE at hp
  split at hp
  ·rename_i e
   unfold clF at hp
   split at hp
   ·rename_i e2
    have:=((hI.i a (List.mem_of_getElem? ha)).en e).p3 e2.1
    rw [e2.2] at this
    exact this.2.2
   ·omega
  ·omega
 ·obtain ⟨j,a,ha,hp⟩:=nN h2
  unfold clS at hp
  split at hp
  ·rename_i e
   unfold clF at hp
   split at hp
   ·rename_i e2
    have:=((hI.s a (List.mem_of_getElem? ha)).1 e).1.p3 e2.1
    rw [e2.2] at this
    exact this.2.2
   ·omega
  ·omega
theorem aeU (e:x.1=2):lJ c m n W S i (oo c m i x d):=by
 have hi:=(List.getElem?_eq_some_iff.1 hx).1
 have hf:=(hI.i x (List.mem_of_getElem? hx)).de e
 have hd:∀ k,hdW c m x k=hdD c m x.2.2.1 k:=fun k=>by unfold hdW;rw [if_neg (by omega),if_pos e]
 have hk:dG c m x.2.2.1=lZ c m x.2.2.1:=by
  unfold dG lm CZ
  rw [hf.op]
  rfl
 have eE:(fun q=>fl (fun _ x=>clE x q) 0 W+fl (fun _ x=>clS x q) 0 S)=oE W S x:=funext fun q=>by
  rw [O6 hx]
  unfold clE
  rw [if_neg (by omega)]
  rfl
 have eD:(fun q=>fl (fun _ x=>clD x q) 0 W)=fun q=>oD W x q+clF x.2.2.1 q:=funext fun q=>by
  rw [PV hx]
  unfold clD
  rw [if_pos e]
 have hin:=hI.inj
 rw [eE,eD] at hin
 obtain ⟨du,tD,tE,l5,hcase⟩:=UT hc hl hwm hin hf (Ls hc hl hW hwm hI hx hn hsm) (LE hc hl hW hwm hI hx hn hsm)
 have tD':∀ g,DFr c m g→(∀ q,clF g q≤oD W x q)→DFr c (lZ c m x.2.2.1).1 g∧∀ k,hdD c (lZ c m x.2.2.1).1 g k=hdD c m g k:=fun g hg hq=>tD g hg fun g3 f3 ex=>by
  have h1:=hq g.2.2.2.2.1
  unfold clF at h1
  rw [if_pos ⟨g3,rfl⟩] at h1
  have h2:=hin.r g.2.2.2.2.1 (hg.p3 g3).1 (hg.p3 g3).2.1
  unfold clF at h2
  rw [if_pos (c:=3≤x.2.2.1.2.1∧_) ⟨f3,ex.symm⟩] at h2
  omega
 have tE':∀ g,EFr c m g→(∀ q,clF g q≤oE W S x q)→EFr c (lZ c m x.2.2.1).1 g:=fun g hg _=>tE g hg
 unfold oo
 rw [hk]
 dsimp only
 have hh:hiW c m i x=dB c m i:=by unfold hiW;rw [if_neg (by omega)]
 have hii:=du i (by omega) (by omega)
 rcases hcase with ⟨o,pf,ji,hcnt⟩ | ⟨o,r1,ji,jn,hh1⟩ | ⟨o,r1,ji,jn,hh1⟩
 ·rw [if_pos o]
  obtain ⟨a1,a2,a3⟩:=RB hc hW hI hx (y:=(x.1,x.2.1,(lZ c m x.2.2.1).2,x.2.2.2)) (by omega) (.inl e) (by
   have e1:(fun q=>oE W S x q+clE (x.1,x.2.1,(lZ c m x.2.2.1).2,x.2.2.2) q)=oE W S x:=funext fun q=>by
    unfold clE
    rw [if_neg (by dsimp only;omega)]
    rfl
   have e2:(fun q=>oD W x q+clD (x.1,x.2.1,(lZ c m x.2.2.1).2,x.2.2.2) q)=fun q=>oD W x q+clF (lZ c m x.2.2.1).2 q:=funext fun q=>by
    unfold clD
    rw [if_pos (by exact e)]
   rw [e1,e2]
   exact ji) (by rw [l5];omega) tE' tD' du ⟨fun _=>pf,fun h=>by dsimp only at h;omega,fun h=>by dsimp only at h;omega⟩
  refine ⟨a1,fun k => ?_⟩
  have h1:=a2 k
  have h2:=a3 k
  have h3:=hcnt k
  have hd':hdW c (lZ c m x.2.2.1).1 (x.1,x.2.1,(lZ c m x.2.2.1).2,x.2.2.2) k=hdD c (lZ c m x.2.2.1).1 (lZ c m x.2.2.1).2 k:=by
   unfold hdW
   rw [if_neg (by dsimp only;omega),if_pos (by exact e)]
  rw [hd,hd'] at h1
  have e2:evC 2 [] k=0:=rfl
  have e3:evC 3 [] k=0:=rfl
  unfold pB
  dsimp only
  omega
 ·have fin:∀ y:WB,NewF c i y→(∀ k,hdY y k=if (lZ c m x.2.2.1).2.2.2.2.1=k then 1 else 0)→lJ c m n W S i ((lZ c m x.2.2.1).1,y,[]):=fun y hN hy=>by
   obtain ⟨a1,a2,a3⟩:=Cg hc hW hI hx hN ji (by rw [l5];omega) tE' tD' (fun j _ h=>du j (by omega) h) hii.t (by rw [hh,hii.b]) (fun a _ _=>hii.s a)
   refine ⟨a1,fun k => ?_⟩
   have h1:=a2 k
   have h2:=a3 k
   have h3:=jn k
   rw [hd,hh1,hy] at h1
   have e2:evC 2 [] k=0:=rfl
   have e3:evC 3 [] k=0:=rfl
   unfold pB
   dsimp only
   omega
  rw [if_neg (by rw [o];decide),if_pos r1]
  exact fin _ (fH rfl) fun k=>rfl
 ·have fin:∀ y:WB,NewF c i y→(∀ k,hdY y k=0)→lJ c m n W S i ((lZ c m x.2.2.1).1,y,[]):=fun y hN hy=>by
   obtain ⟨a1,a2,a3⟩:=Cg hc hW hI hx hN ji (by rw [l5];omega) tE' tD' (fun j _ h=>du j (by omega) h) hii.t (by rw [hh,hii.b]) (fun a _ _=>hii.s a)
   refine ⟨a1,fun k => ?_⟩
   have h1:=a2 k
   have h2:=a3 k
   have h3:=jn k
   rw [hd,hh1,hy] at h1
   have e2:evC 2 [] k=0:=rfl
   have e3:evC 3 [] k=0:=rfl
   unfold pB
   dsimp only
   omega
  rw [if_neg (by rw [o];decide),if_neg r1]
  by_cases h2:x.1=2∧0≤Df d i c.1
  ·rw [if_pos h2]
   refine fin _ ?_ fun k=>rfl
   have hv:=SG.1 h2.2
   have hr:Df d i c.1<c.1:=by
    unfold Df
    rw [if_neg hv]
    exact Int.emod_lt_of_pos _ (by omega)
   constructor <;> intro h <;> dsimp only [lq,AB] at h ⊢ <;> omega
  ·rw [if_neg h2]
   by_cases h3:x.2.2.2.1≤0
   ·rw [if_pos h3]
    exact fin _ (mS (.inl rfl) (show (5:Int)≤5 by decide)) fun k=>rfl
   ·rw [if_neg h3]
    refine fin _ ?_ fun k=>rfl
    constructor <;> intro h <;> dsimp only [lq,AB] at h ⊢ <;> omega
end
end Go.Ab
set_option linter.unusedVariables false
namespace Go.Ab
section
variable {c:CF} {t:Tyt} {m:List Int} {n:Nat} {W:List WB} {S:List SB} {i:Nat} {x:WB} {d:Int}
theorem ag4 {z:WB} {v:Int} (h:OwQ c m n v z) (hwm:Wm m) (hc:dj c=true) (h0:0≤v) (h1:v<c.1):wC (dB c m v) (dT c m v)≤0∨dT c m v<hiW c m v z:=by
 have hr:0≤dB c m v∧dB c m v≤18446744073709551615:=cC hwm _
 obtain ⟨t0,tl,rm,bd⟩:=h.v
 have key:hiW c m v z=dB c m v∨hiW c m v z=fG (dB c m v) 1:=by
  unfold hiW hiP
  split
  ·split
   ·exact .inr rfl
   ·exact .inl rfl
  ·exact .inl rfl
 by_cases hx:dB c m v=18446744073709551615
 ·rw [hx,Pn (by omega)]
  omega
 ·have hb:dB c m v≤hiW c m v z:=by
   rcases key with e | e
   ·omega
   ·rw [e]
    unfold fG
    omega
  rw [GA (by omega) (by omega)]
  omega
variable (hc:dj c=true) (hl:(m.length:Int)=bN c) (hW:(W.length:Int)=c.1) (hwm:Wm m) (hI:MstA n c m W S) (hx:W[i]? = some x) (hn:n+1≤1000000) (hsm:∀ k,0<pB c m W k→0≤k∧k<1000)
include hc hl hW hwm hI hx hn hsm
theorem Tn (e:x.1=3):lJ c m n W S i (oo c m i x d):=by
 have hi:=(List.getElem?_eq_some_iff.1 hx).1
 obtain ⟨w0,w1,w2⟩:=hI.th x (List.mem_of_getElem? hx) e
 obtain ⟨u,hu⟩:∃ u:Nat,x.2.2.1.2.2.1=(u:Int):=⟨x.2.2.1.2.2.1.toNat,by omega⟩
 rw [hu] at w0 w1 w2
 rw [Int.toNat_natCast] at w2
 have hz : W[u]? = some (W[u]'(by omega)) := List.getElem?_eq_getElem (by omega)
 generalize W[u]'(by omega) = z at hz
 have hf:=w2 z hz
 have hqz:=hI.q u z hz
 have hd:∀ k,hdW c m x k=0:=fun k=>by unfold hdW;rw [if_neg (by omega),if_neg (by omega),if_neg (by omega)]
 have hk:dG c m x.2.2.1=bv c m x.2.2.1:=by
  unfold dG C7
  rw [hf.op]
  rfl
 obtain ⟨ie,du,ds,db,hcase⟩:=Ny hc hl (by rw [hu];exact w0) (by rw [hu];exact w1) hf (by rw [hu];exact hqz.v) (by rw [hu];exact ag4 hqz hwm hc w0 w1) (fun _ _ _=>trivial)
 rw [hu] at du ds db hcase
 have hh:hiW c m i x=dB c m i:=by unfold hiW;rw [if_neg (by omega)]
 have hx0:x.1≠0∧x.1≠2∧x.1≠12:=by omega
 unfold oo
 rw [hk]
 dsimp only
 rcases hcase with ⟨o,mm,pf,hwho⟩ | ⟨o,r1,mm⟩ | ⟨o,r1,ht,hlt,hval⟩
 ·rw [if_pos o,mm]
  have hset:(W.set i (x.1,x.2.1,(bv c m x.2.2.1).2,x.2.2.2))[i]? = some (x.1,x.2.1,(bv c m x.2.2.1).2,x.2.2.2):=List.getElem?_set_self hi
  have hq:=hI.q i x hx
  have hin:=AT hI hx (m':=m) .rfl' (fun q=>by unfold clE clD;rw [if_neg hx0.2.2,if_neg hx0.2.1];exact ⟨rfl,rfl⟩)
  have hhy:hiW c m i (x.1,x.2.1,(bv c m x.2.2.1).2,x.2.2.2)=hiW c m i x:=by
   rw [hh]
   unfold hiW
   rw [if_neg (by exact hx0.1)]
  have ha:∀ a,(W.set i (x.1,x.2.1,(bv c m x.2.2.1).2,x.2.2.2))[u]? = some a→hiW c m u a=hiW c m u z:=fun a ha=>by
   by_cases hui:u=i
   ·subst hui
    rw [hset] at ha
    cases ha
    rw [hx] at hz
    cases hz
    exact hhy
   ·rw [List.getElem?_set_ne (by omega),hz] at ha
    cases ha
    rfl
  obtain ⟨a1,a2,a3⟩:=asm hc hW hI hx (y:=(x.1,x.2.1,(bv c m x.2.2.1).2,x.2.2.2)) (m':=m) (by
    have e1:(fun q=>oE W S x q+clE (x.1,x.2.1,(bv c m x.2.2.1).2,x.2.2.2) q)=oE W S x:=funext fun q=>by unfold clE;rw [if_neg (by exact hx0.2.2)];rfl
    have e2:(fun q=>oD W x q+clD (x.1,x.2.1,(bv c m x.2.2.1).2,x.2.2.2) q)=oD W x:=funext fun q=>by unfold clD;rw [if_neg (by exact hx0.2.1)];rfl
    rw [e1,e2]
    exact hin) (by omega) (fun g hg _=>hg) (fun g hg _=>⟨hg,fun _=>rfl⟩) (u:=i) hx hset (fun _ _ _ => .rfl') (fun h=>absurd rfl h) (fun f hfi h=>by rw [hhy];exact h)
   ⟨by rw [hhy];exact hq.v,by rw [hhy];have:=hq.n;omega,fun h=>absurd h hx0.1,fun h=>absurd (h.symm.trans e) (by decide)⟩ ⟨fun h=>absurd h hx0.2.1,fun h=>absurd h hx0.2.2,fun h=>by dsimp only at h;omega⟩
   (fun _=>by
    dsimp only
    rw [hwho,Int.toNat_natCast]
    exact ⟨w0,w1,fun a h=>by rw [ha a h];exact pf⟩)
  refine ⟨a1,fun k => ?_⟩
  have h1:=a2 k
  have h2:=a3 k
  have hd':hdW c m (x.1,x.2.1,(bv c m x.2.2.1).2,x.2.2.2) k=0:=by
   unfold hdW
   rw [if_neg (by exact hx0.1),if_neg (by exact hx0.2.1),if_neg (by dsimp only;omega)]
  rw [hd,hd'] at h1
  rw [hhy] at h2
  have e2:evC 2 [] k=0:=rfl
  have e3:evC 3 [] k=0:=rfl
  unfold pB
  dsimp only
  omega
 ·rw [if_neg (by rw [o];decide),if_neg r1,mm,if_neg (fun h=>by omega)]
  have hy0:∀ k,hdY x k=0:=fun k=>by unfold hdY;rw [if_neg (by omega)]
  by_cases h3:x.2.2.2.1≤0
  ·rw [if_pos h3]
   exact rC hc hl hW hwm hI hx hn hsm hx0 (mS (.inl rfl) (show (5:Int)≤5 by decide)) fun k=>by rw [hy0];rfl
  ·rw [if_neg h3]
   refine rC hc hl hW hwm hI hx hn hsm hx0 ?_ fun k=>by rw [hy0];rfl
   constructor <;> intro h <;> dsimp only [lq,AB] at h ⊢ <;> omega
 ·rw [if_neg (by rw [o];decide),if_pos r1]
  have hN:NewF c i (4,x.2.1,(bv c m x.2.2.1).2,x.2.2.2):=fH rfl
  have hset:(W.set i (4,x.2.1,(bv c m x.2.2.1).2,x.2.2.2))[i]? = some (4,x.2.1,(bv c m x.2.2.1).2,x.2.2.2):=List.getElem?_set_self hi
  have hq:=hI.q i x hx
  have hin:=AT hI hx (m':=(bv c m x.2.2.1).1) ie (fun q=>by unfold clE clD;rw [if_neg hx0.2.2,if_neg hx0.2.1];exact ⟨rfl,rfl⟩)
  have hbi:dB c (bv c m x.2.2.1).1 i=dB c m i:=by
   by_cases hui:u=i
   ·subst hui
    exact db
   ·exact (du i (by omega)).b
  have hhy:hiW c (bv c m x.2.2.1).1 i (4,x.2.1,(bv c m x.2.2.1).2,x.2.2.2)=hiW c m i x:=by
   rw [hN.hi,hh,hbi]
  obtain ⟨z',hz',hhz⟩:∃ z',(W.set i (4,x.2.1,(bv c m x.2.2.1).2,x.2.2.2))[u]? = some z'∧hiW c (bv c m x.2.2.1).1 u z'=hiW c m u z:=by
   by_cases hui:u=i
   ·subst hui
    refine ⟨_,hset,?_⟩
    rw [hx] at hz
    cases hz
    exact hhy
   ·refine ⟨z,by rw [List.getElem?_set_ne (by omega)];exact hz,?_⟩
    unfold hiW
    rw [db]
  have hyq:OwQ c (bv c m x.2.2.1).1 (n+1) i (4,x.2.1,(bv c m x.2.2.1).2,x.2.2.2):=by
   refine ⟨?_,by rw [hhy];have:=hq.n;omega,fun h=>absurd h (show ¬ (4:Int)=0 by decide),fun h=>absurd h (show ¬ (4:Int)=11 by decide)⟩
   rw [hhy]
   by_cases hui:u=i
   ·subst hui
    rw [hx] at hz
    cases hz
    obtain ⟨b1,b2,b3,b4⟩:=hq.v
    exact ⟨by omega,by omega,by omega,b4⟩
   ·exact (du i (by omega)).vok hq.v
  obtain ⟨a1,a2,a3⟩:=asm hc hW hI hx (y:=(4,x.2.1,(bv c m x.2.2.1).2,x.2.2.2)) (m':=(bv c m x.2.2.1).1) (by
    have e1:(fun q=>oE W S x q+clE (4,x.2.1,(bv c m x.2.2.1).2,x.2.2.2) q)=oE W S x:=rfl
    have e2:(fun q=>oD W x q+clD (4,x.2.1,(bv c m x.2.2.1).2,x.2.2.2) q)=oD W x:=rfl
    rw [e1,e2]
    exact hin) (by rw [ie.t];omega) (fun g hg _=>ie.efr hg) (fun g hg _=>⟨ie.dfr hg,ie.hd g⟩) (u:=u) hz hz' (fun j hj _=>du j (by omega)) (fun h=>⟨ht,db,ds,hlt,hhy⟩)
   (fun f hfu h=>by
    rw [← hfu] at h ht ⊢
    exact h.top ht)
   hyq hN.owi (fun h=>absurd h (show ¬ (4:Int)=3 by decide))
  refine ⟨a1,fun k => ?_⟩
  have h1:=a2 k
  have h2:=a3 k
  rw [hd,hN.hd] at h1
  rw [hhz,PD hlt ht ds] at h2
  have h3:hdY (4,x.2.1,(bv c m x.2.2.1).2,x.2.2.2) k=if dS c m u (dT c m u)=k then 1 else 0:=by
   rw [← hval]
   rfl
  rw [h3] at h1
  have h4:=ie.n k
  have e2:evC 2 [] k=0:=rfl
  have e3:evC 3 [] k=0:=rfl
  unfold pB
  dsimp only
  omega
theorem abr (e:x.1=11):lJ c m n W S i (rX c m i x):=by
 have _h:=And.intro hsm hwm
 have hi:=(List.getElem?_eq_some_iff.1 hx).1
 have hq:=hI.q i x hx
 have hf:=hq.ps e
 have hv:=hq.v
 have hh:hiW c m i x=dB c m i:=by unfold hiW;rw [if_neg (by omega)]
 have hd:∀ k,hdW c m x k=if x.2.2.1.2.2.2.1=k then 1 else 0:=fun k=>by unfold hdW;rw [if_neg (by omega),if_neg (by omega),if_pos (.inr (.inl e))]
 rw [hh] at hv
 have hk:dG c m x.2.2.1=eN c m x.2.2.1:=by
  unfold dG C7
  rw [hf.op]
  rfl
 obtain ⟨ie,du,dt,ds,hcase⟩:=PX hc hl (Int.natCast_nonneg i) (by omega) hf hv
 unfold rX
 rw [hk]
 dsimp only
 have hne:∀ j:Nat,j≠i→(j:Int)<c.1→DEq c m (eN c m x.2.2.1).1 j:=fun j hj _=>du j (by omega)
 have cx:∀ q,clE x q=0∧clD x q=0:=fun q=>by
  unfold clE clD
  rw [if_neg (by omega),if_neg (by omega)]
  exact ⟨rfl,rfl⟩
 rcases hcase with ⟨o,pf,db,hval⟩ | ⟨o,r1,db,hval⟩ | ⟨o,r1,db,hrm,hval⟩
 ·rw [if_pos o]
  have hh':hiW c (eN c m x.2.2.1).1 i (x.1,x.2.1,(eN c m x.2.2.1).2,x.2.2.2)=dB c m i:=by
   unfold hiW
   rw [if_neg (by dsimp only;omega),db]
  obtain ⟨a1,a2⟩:=IK hc hW hI hx (y:=(x.1,x.2.1,(eN c m x.2.2.1).2,x.2.2.2)) ie (by omega) (by dsimp only;omega) hne (fun f hfi h=>by
   rw [hh] at h
   rw [hh']
   rw [← hfi] at h dt ds ⊢
   exact h.stay dt fun h=>⟨h,ds _ (Int.le_refl _) h⟩) ⟨by rw [hh'];exact ⟨by rw [dt];exact hv.t0,by rw [dt];exact hv.le,by rw [dt];exact hv.rm,hv.bd⟩,by rw [hh',← hh];have:=hq.n;omega,fun h=>absurd (h.symm.trans e) (by decide),fun _=>pf⟩
  refine ⟨a1,fun k => ?_⟩
  have h1:=a2 k
  have hd':hdW c (eN c m x.2.2.1).1 (x.1,x.2.1,(eN c m x.2.2.1).2,x.2.2.2) k=if x.2.2.1.2.2.2.1=k then 1 else 0:=by
   unfold hdW
   rw [if_neg (by dsimp only;omega),if_neg (by dsimp only;omega),if_pos (.inr (.inl e))]
   dsimp only
   rw [hval]
  rw [hd,hd',hh,hh',uX dt ds] at h1
  have e2:evC 2 [] k=0:=rfl
  have e3:evC 3 [] k=0:=rfl
  dsimp only
  omega
 ·rw [if_neg (by rw [o];decide),if_pos r1]
  obtain ⟨a1,a2⟩:=AN hc hW hI hx (y:=lq 12 3 i (eN c m x.2.2.1).2.2.2.2.1 x) (by constructor <;> intro h <;> dsimp only [lq,AB] at h ⊢ <;> omega) ie cx hne dt (by rw [db,hh]) (by rw [hh];exact ds)
  refine ⟨a1,fun k => ?_⟩
  have h1:=a2 k
  have hd':hdY (lq 12 3 i (eN c m x.2.2.1).2.2.2.2.1 x) k=if x.2.2.1.2.2.2.1=k then 1 else 0:=by
   rw [← hval]
   rfl
  rw [hd,hd'] at h1
  have e2:evC 2 [] k=0:=rfl
  have e3:evC 3 [] k=0:=rfl
  dsimp only
  omega
 ·rw [if_neg (by rw [o];decide),if_neg (by rw [r1];decide)]
  have hh':hiW c (eN c m x.2.2.1).1 i (toW 13 x)=dB c m i+1:=by
   unfold hiW
   rw [if_neg (by exact (show ¬ (13:Int)=0 by decide)),db]
  obtain ⟨a1,a2⟩:=IK hc hW hI hx (y:=toW 13 x) ie (by omega) (show (13:Int)≠2∧(13:Int)≠12∧(13:Int)≠3∧(13:Int)≠5∧(13:Int)≠6∧(13:Int)≠7∧(13:Int)≠8∧(13:Int)≠14 by decide) hne (fun f hfi h=>by
   rw [hh] at h
   rw [hh']
   rw [← hfi] at h dt ds ⊢
   exact h.stay dt fun h=>⟨by omega,ds _ (Int.le_refl _) h⟩) ⟨by
    rw [hh']
    have:=hq.n
    exact ⟨by rw [dt];exact hv.t0,by rw [dt];have:=hv.le;omega,by rw [dt];exact hrm,by omega⟩,by rw [hh',← hh];have:=hq.n;omega,fun h=>absurd h (show ¬ (13:Int)=0 by decide),fun h=>absurd h (show ¬ (13:Int)=11 by decide)⟩
  refine ⟨a1,fun k => ?_⟩
  have h1:=a2 k
  have hd':hdW c (eN c m x.2.2.1).1 (toW 13 x) k=0:=rfl
  rw [hd,hd',hh,hh',KH (by rw [dt];exact hv.le),uX dt ds,hval] at h1
  have e2:evC 2 [] k=0:=rfl
  have e3:evC 3 [] k=0:=rfl
  dsimp only
  omega
theorem Y3 (e:x.1=12):lJ c m n W S i (rS c t m i x):=by
 have hi:=(List.getElem?_eq_some_iff.1 hx).1
 have hf:=(hI.i x (List.mem_of_getElem? hx)).en e
 have hd:∀ k,hdW c m x k=if x.2.2.1.2.2.2.1=k then 1 else 0:=fun k=>by unfold hdW;rw [if_neg (by omega),if_neg (by omega),if_pos (.inr (.inr e))]
 have hk:dG c m x.2.2.1=kZ c m x.2.2.1:=by
  unfold dG lm CZ
  rw [hf.op]
  rfl
 have eE:(fun q=>fl (fun _ x=>clE x q) 0 W+fl (fun _ x=>clS x q) 0 S)=fun q=>oE W S x q+clF x.2.2.1 q:=funext fun q=>by
  rw [O6 hx]
  unfold clE
  rw [if_pos e]
 have eD:(fun q=>fl (fun _ x=>clD x q) 0 W)=oD W x:=funext fun q=>by
  rw [PV hx]
  unfold clD
  rw [if_neg (by omega)]
  rfl
 have hin:=hI.inj
 rw [eE,eD] at hin
 obtain ⟨du,tE,tD,l5,hcase⟩:=Mf hc hl hin hf (Ls hc hl hW hwm hI hx hn hsm) (LE hc hl hW hwm hI hx hn hsm) (by have:=hI.b5;omega)
 have tE':∀ g,EFr c m g→(∀ q,clF g q≤oE W S x q)→EFr c (kZ c m x.2.2.1).1 g:=fun g hg hq=>tE g hg fun g3 f3 ex=>by
  have h1:=hq g.2.2.2.2.1
  unfold clF at h1
  rw [if_pos ⟨g3,rfl⟩] at h1
  have h2:=hin.a g.2.2.2.2.1 (hg.p3 g3).1 (hg.p3 g3).2.1
  unfold clF at h2
  rw [if_pos (c:=3≤x.2.2.1.2.1∧_) ⟨f3,ex.symm⟩] at h2
  omega
 have tD':∀ g,DFr c m g→(∀ q,clF g q≤oD W x q)→DFr c (kZ c m x.2.2.1).1 g∧∀ k,hdD c (kZ c m x.2.2.1).1 g k=hdD c m g k:=fun g hg _=>tD g hg
 unfold rS
 rw [hk]
 dsimp only
 have hh:hiW c m i x=dB c m i:=by unfold hiW;rw [if_neg (by omega)]
 have hii:=du i (by omega) (by omega)
 rcases hcase with ⟨o,pf,ji,jn,hval⟩ | ⟨o,r1,ji,jn,hval⟩ | ⟨o,r1,ji,jn⟩
 ·rw [if_pos o]
  obtain ⟨a1,a2,a3⟩:=RB hc hW hI hx (y:=(x.1,x.2.1,(kZ c m x.2.2.1).2,x.2.2.2)) (by omega) (.inr e) (by
   have e1:(fun q=>oE W S x q+clE (x.1,x.2.1,(kZ c m x.2.2.1).2,x.2.2.2) q)=fun q=>oE W S x q+clF (kZ c m x.2.2.1).2 q:=funext fun q=>by
    unfold clE
    rw [if_pos (by exact e)]
   have e2:(fun q=>oD W x q+clD (x.1,x.2.1,(kZ c m x.2.2.1).2,x.2.2.2) q)=oD W x:=funext fun q=>by
    unfold clD
    rw [if_neg (by dsimp only;omega)]
    rfl
   rw [e1,e2]
   exact ji) l5 tE' tD' du ⟨fun h=>by dsimp only at h;omega,fun _=>pf,fun h=>by dsimp only at h;omega⟩
  refine ⟨a1,fun k => ?_⟩
  have h1:=a2 k
  have h2:=a3 k
  have h3:=jn k
  have hd':hdW c (kZ c m x.2.2.1).1 (x.1,x.2.1,(kZ c m x.2.2.1).2,x.2.2.2) k=if x.2.2.1.2.2.2.1=k then 1 else 0:=by
   unfold hdW
   rw [if_neg (by dsimp only;omega),if_neg (by dsimp only;omega),if_pos (.inr (.inr e))]
   dsimp only
   rw [hval]
  rw [hd,hd'] at h1
  have e2:evC 2 [] k=0:=rfl
  have e3:evC 3 [] k=0:=rfl
  unfold pB
  dsimp only
  omega
 ·rw [if_neg (by rw [o];decide),if_pos r1]
  have hs:=hsm _ (PE hx (show 0<hdW c m x (kZ c m x.2.2.1).2.2.2.2.1 by rw [hd,hval,if_pos rfl];decide))
  rw [wo hs]
  obtain ⟨a1,a2,a3⟩:=Cg hc hW hI hx (y:=(9,iU t x.2.1 (kZ c m x.2.2.1).2.2.2.2.1,dx,x.2.2.2)) (fH rfl) ji l5 tE' tD' (fun j _ h=>du j (by omega) h) hii.t (by rw [hh,hii.b]) (fun a _ _=>hii.s a)
  refine ⟨a1,fun k => ?_⟩
  have h1:=a2 k
  have h2:=a3 k
  have h3:=jn k
  rw [hd,← hval,show hdY (9,iU t x.2.1 (kZ c m x.2.2.1).2.2.2.2.1,dx,x.2.2.2) k=0 from rfl] at h1
  rw [lg,lg]
  unfold pB
  dsimp only
  simp only [true_and,show ¬ ((2:Int)=3) by decide,false_and,if_false]
  omega
 ·rw [if_neg (by rw [o];decide),if_neg (by rw [r1];decide)]
  obtain ⟨a1,a2,a3⟩:=Cg hc hW hI hx (y:=toW 13 x) (fH rfl) ji l5 tE' tD' (fun j _ h=>du j (by omega) h) hii.t (by rw [hh,hii.b]) (fun a _ _=>hii.s a)
  refine ⟨a1,fun k => ?_⟩
  have h1:=a2 k
  have h2:=a3 k
  have h3:=jn k
  rw [hd,show hdY (toW 13 x) k=0 from rfl] at h1
  have e2:evC 2 [] k=0:=rfl
  have e3:evC 3 [] k=0:=rfl
  unfold pB
  dsimp only
  omega
end
end Go.Ab
set_option linter.unusedVariables false
namespace Go.Ab
theorem aiq {v:Int} (h:0≤v∧v<1000):IntKind.u64.wrap v=v:=by
 rw [kg]
 omega
theorem SQ {t:Tyt} {s:Tye} {k:Int} (h:ea t s=(2,k)):0≤k∧k<t.length∧t.length≤30:=by
 rcases lQ s with rfl | ⟨r,x,rfl⟩
 ·simp [ea] at h
 ·rw [pI] at h
  split at h
  ·simp at h
  ·rename_i hs
   have hs':cG t (r++[x])=true:=by simpa using hs
   split at h
   ·simp at h
   ·split at h
    ·rename_i h1 h2
     have hm:nQ t=true:=by unfold cG at hs';rw [Bool.and_eq_true] at hs';exact hs'.1
     have hM:=B4 hm
     have hit:It t x:=by
      unfold cG at hs'
      rw [Bool.and_eq_true,List.all_eq_true] at hs'
      exact ME.1 (hs'.2 x (by simp))
     have e:((nY t x.1).2[x.2.2.toNat]?).getD 0=k:=by
      simpa using h
     obtain ⟨c0,q0⟩:=And.intro hit.c0 hit.h0
     have hlt:x.2.2.toNat<(nY t x.1).2.length:=by omega
     rw [List.getElem?_eq_getElem hlt] at e
     have hq:=hM.kids (k,x.1) (ng.2 ⟨x.1.toNat,nY t x.1,by
      unfold nY
      rw [List.getElem?_eq_getElem (by have:=hit.h1;omega)]
      rfl,by rw [← e];exact List.getElem_mem hlt,by congr 1;omega⟩)
     have:=hM.len
     dsimp only at hq
     omega
    ·simp at h
theorem MstA.mono {n n':Nat} {c:CF} {m:List Int} {W:List WB} {S:List SB} (h:MstA n c m W S) (hn:n≤n'):MstA n' c m W S:=
 ⟨h.inj,by have:=h.b5;omega,fun i x hx=>by
  have:=h.q i x hx
  exact ⟨this.v,by have:=this.n;omega,this.po,this.ps⟩,h.i,h.th,h.s⟩
theorem Hx {α:Type} {l:List α} {i:Nat} {x:α} (h:l[i]? = some x):l.set i x=l:=by
 obtain ⟨hi,rfl⟩:=List.getElem?_eq_some_iff.1 h
 exact List.set_getElem_self hi
section
variable {c:CF} {t:Tyt} {m:List Int} {n:Nat} {W:List WB} {S:List SB} {i:Nat} {x:WB} {d:Int}
variable (hc:dj c=true) (hl:(m.length:Int)=bN c) (hW:(W.length:Int)=c.1) (hwm:Wm m) (hI:MstA n c m W S) (hx:W[i]? = some x) (hn:n+1≤1000000) (hsm:∀ k,0<pB c m W k→0≤k∧k<1000)
include hc hl hW hwm hI hx hn hsm
theorem Tv:lJ c m n W S i (br c t m i x d):=by
 have hO:=hI.i x (List.mem_of_getElem? hx)
 have far:x.1≠0∧x.1≠2∧x.1≠12→x.1≠4→x.1≠11→∀ k,hdY x k=0:=fun h h4 h11 k=>by unfold hdY;rw [if_neg (by omega)]
 refine kC (P:=fun r=>lJ c m n W S i r) (fun _ => ?_) (fun _ e => ?_) (fun _ e => ?_) (fun _ e => ?_) (fun _ e => ?_) (fun _ e => ?_) (fun _ e => ?_) (fun _ e => ?_) (fun _ e => ?_) (fun _ e => ?_) (fun _ e => ?_) (fun _ e => ?_) (fun _ e => ?_) (fun _ e => ?_) (fun _ e => ?_) (fun _ e => ?_)
 ·unfold lJ
  dsimp only
  rw [Hx hx]
  exact ⟨hI.mono (Nat.le_succ n),fun k=>rfl⟩
 ·exact afB hc hl hW hwm hI hx hn hsm e
 ·refine GF hc hl hW hwm hI hx hn hsm (by omega) (by decide) ?_ fun k=>by rw [far (by omega) (by omega) (by omega)];rfl
  constructor <;> intro h <;> dsimp only [AB] at h ⊢ <;> omega
 ·rcases e with e | e
  ·exact aeU hc hl hW hwm hI hx hn hsm e
  ·exact Tn hc hl hW hwm hI hx hn hsm e
 ·unfold ml
  have hd:∀ k,hdW c m x k=if x.2.2.1.2.2.2.1=k then 1 else 0:=fun k=>by unfold hdW;rw [if_neg (by omega),if_neg (by omega),if_pos (.inl e)]
  have hs:=hsm _ (PE hx (show 0<hdW c m x x.2.2.1.2.2.2.1 by rw [hd,if_pos rfl];decide))
  rw [wo hs]
  refine GF hc hl hW hwm hI hx hn hsm (by omega) (by decide) ?_ fun k => ?_
  ·by_cases h1:ah m 1=1
   ·rw [if_pos h1,if_pos h1]
    exact mS (.inr (.inr (.inr (.inr rfl)))) (show (5:Int)≤6 by decide)
   ·rw [if_neg h1,if_neg h1]
    exact fH rfl
  ·have e1:hdY x k=if x.2.2.1.2.2.2.1=k then 1 else 0:=by unfold hdY;rw [if_pos (.inl e)]
   rw [e1,lg,lg]
   have e2:hdY (if ah m 1=1 then 14 else 9,iU t x.2.1 x.2.2.1.2.2.2.1,if ah m 1=1 then AB 6 i 0 else dx,x.2.2.2) k=0:=by
    by_cases h1:ah m 1=1
    ·rw [if_pos h1,if_pos h1]
     rfl
    ·rw [if_neg h1,if_neg h1]
     rfl
   rw [e2]
   simp only [true_and,show ¬ ((2:Int)=3) by decide,false_and,if_false]
   omega
 ·obtain ⟨ie,du,op⟩:=AH (m:=m) hc (hO.ev (.inl e))
  exact Bs hc hl hW hwm hI hx hn hsm (by omega) (mS (.inr (.inl rfl)) (show 5≤(dG c m x.2.2.1).2.1 by rw [op];exact hO.ev (.inl e))) ie du fun k=>by rw [far (by omega) (by omega) (by omega)];rfl
 ·exact GF hc hl hW hwm hI hx hn hsm (by omega) (by decide) (mS (.inr (.inr (.inl rfl))) (hO.ev (.inr (.inl e)))) fun k=>by rw [far (by omega) (by omega) (by omega)];rfl
 ·have h5:=hO.ev (.inr (.inr (.inl e)))
  have z:=far (by omega) (by omega) (by omega)
  have s8:∀ (f:FR) (a b:Int),f.1=x.2.2.1.1→NewF c i (8,x.2.1,f,a,b):=fun f a b hf=>mS (.inr (.inr (.inr (.inl rfl)))) (by rw [← hf] at h5;exact h5)
  have s7:∀ (f:FR) (a b:Int),f.1=x.2.2.1.1→NewF c i (7,x.2.1,f,a,b):=fun f a b hf=>mS (.inr (.inr (.inl rfl))) (by rw [← hf] at h5;exact h5)
  have fin:∀ y,NewF c i y→(∀ k,hdY y k=0)→lJ c m n W S i (m,y,[]):=fun y hN hy=>rC hc hl hW hwm hI hx hn hsm (by omega) hN fun k=>by rw [hy,z];rfl
  have hfe:∀ f:FR,f=(if x.2.2.2.2=0 then Fx x.2.2.1 (ah m 4) else if x.2.2.2.2=1 then x.2.2.1 else if x.2.2.2.2%2=0 then Fx x.2.2.1 (ah m (Iq c ((x.2.2.2.2 - 2)/2))) else x.2.2.1)→f.1=x.2.2.1.1:=fun f hf=>by
   rw [hf]
   repeat' split
   all_goals rfl
  unfold fc
  dsimp only
  generalize hf:(if x.2.2.2.2=0 then Fx x.2.2.1 (ah m 4) else if x.2.2.2.2=1 then x.2.2.1 else if x.2.2.2.2%2=0 then Fx x.2.2.1 (ah m (Iq c ((x.2.2.2.2 - 2)/2))) else x.2.2.1)=f
  have hfo:=hfe f hf.symm
  generalize (if x.2.2.2.2=0 then false else if x.2.2.2.2=1 then decide (ah m 5≠f.2.2.2.1) else if x.2.2.2.2%2=0 then false else decide (0<wC (ah m (Ke c ((x.2.2.2.2 - 2)/2))) f.2.2.2.1))=b
  split
  ·exact fin _ (s8 _ _ _ rfl) fun k=>rfl
  ·split
   ·exact fin _ (fH rfl) fun k=>rfl
   ·split
    ·exact fin _ (s8 _ _ _ hfo) fun k=>rfl
    ·exact fin _ (s7 _ _ _ hfo) fun k=>rfl
 ·obtain ⟨ie,du,op⟩:=AH (m:=m) hc (hO.ev (.inr (.inr (.inr (.inl e)))))
  unfold gU
  dsimp only
  split
  ·exact Bs hc hl hW hwm hI hx hn hsm (by omega) (fH rfl) ie du fun k=>by rw [far (by omega) (by omega) (by omega)];rfl
  ·exact Bs hc hl hW hwm hI hx hn hsm (by omega) (mS (.inr (.inr (.inr (.inl e)))) (by dsimp only;rw [op];exact hO.ev (.inr (.inr (.inr (.inl e)))))) ie du fun k=>by
    rw [far (by omega) (by omega) (by omega)]
    unfold hdY
    rw [if_neg (by dsimp only;omega)]
    rfl
 ·have fin:∀ y,NewF c i y→(∀ k,hdY y k=0)→lJ c m n W S i (m,y,[]):=fun y hN hy=>rC hc hl hW hwm hI hx hn hsm (by omega) hN fun k=>by rw [hy,far (by omega) (by omega) (by omega)];rfl
  unfold K9
  dsimp only
  split
  ·exact fin _ (fH (by dsimp only;rw [e];rfl)) fun k=>by unfold hdY;rw [if_neg (by dsimp only;omega)]
  ·split
   ·exact fin _ (fH rfl) fun k=>rfl
   ·split
    ·exact fin _ (fH rfl) fun k=>rfl
    ·refine fin _ ?_ fun k=>rfl
     constructor <;> intro h <;> dsimp only [lq,AB] at h ⊢ <;> omega
 ·unfold u3
  dsimp only
  split
  ·exact rC hc hl hW hwm hI hx hn hsm (by omega) (fH rfl) fun k=>by rw [far (by omega) (by omega) (by omega)];rfl
  ·rename_i h2
   have hk:=SQ (t:=t) (s:=x.2.1) (k:=(ea t x.2.1).2) (by
    have h2:(ea t x.2.1).1=2:=by simpa using h2
    rw [← h2])
   rw [aiq (by omega)]
   refine GF hc hl hW hwm hI hx hn hsm (by omega) (by decide) ?_ fun k => ?_
   ·constructor <;> intro h <;> dsimp only [AB] at h ⊢ <;> omega
   ·rw [far (by omega) (by omega) (by omega),lg,lg]
    have e2:hdY (11,doB t x.2.1,AB 0 i (ea t x.2.1).2,x.2.2.2) k=if (ea t x.2.1).2=k then 1 else 0:=rfl
    rw [e2]
    simp only [true_and,show ¬ ((3:Int)=2) by decide,false_and,if_false]
    omega
 ·exact abr hc hl hW hwm hI hx hn hsm e
 ·exact Y3 hc hl hW hwm hI hx hn hsm e
 ·have fin:∀ y,NewF c i y→(∀ k,hdY y k=0)→lJ c m n W S i (m,y,[]):=fun y hN hy=>rC hc hl hW hwm hI hx hn hsm (by omega) hN fun k=>by rw [hy,far (by omega) (by omega) (by omega)];rfl
  unfold IX
  split
  ·exact fin _ (mS (.inr (.inr (.inr (.inr rfl)))) (show (5:Int)≤6 by decide)) fun k=>rfl
  ·exact fin _ (fH rfl) fun k=>rfl
 ·obtain ⟨ie,du,op⟩:=AH (m:=m) hc (hO.ev (.inr (.inr (.inr (.inr e)))))
  unfold uq
  dsimp only
  split
  ·exact Bs hc hl hW hwm hI hx hn hsm (by omega) (fH rfl) ie du fun k=>by rw [far (by omega) (by omega) (by omega)];rfl
  ·exact Bs hc hl hW hwm hI hx hn hsm (by omega) (mS (.inr (.inr (.inr (.inr e)))) (by dsimp only;rw [op];exact hO.ev (.inr (.inr (.inr (.inr e)))))) ie du fun k=>by
    rw [far (by omega) (by omega) (by omega)]
    unfold hdY
    rw [if_neg (by dsimp only;omega)]
    rfl
 ·unfold uE
  dsimp only
  split
  ·exact rC hc hl hW hwm hI hx hn hsm (by omega) (fH rfl) fun k=>by rw [far (by omega) (by omega) (by omega)];rfl
  ·have he:∀ k,evC 2 (if ah m 0=1 then [(4,(ea t x.2.1).2,(i:Int)),(5,0,(i:Int))] else [(4,(ea t x.2.1).2,(i:Int))]) k=0∧evC 3 (if ah m 0=1 then [(4,(ea t x.2.1).2,(i:Int)),(5,0,(i:Int))] else [(4,(ea t x.2.1).2,(i:Int))]) k=0:=fun k=>by
    unfold evC
    split <;> simp
   refine GF hc hl hW hwm hI hx hn hsm (by omega) (by decide) ?_ fun k => ?_
   ·split
    ·constructor <;> intro h <;> dsimp only [AB] at h ⊢ <;> omega
    ·exact fH rfl
   ·rw [far (by omega) (by omega) (by omega),(he k).1,(he k).2]
    unfold hdY
    rw [if_neg]
    split <;> (dsimp only;omega)
end
end Go.Ab
set_option linter.unusedVariables false
namespace Go.Ab
section
variable {c:CF} {m m':List Int} {n:Nat} {W:List WB} {S:List SB} {i:Nat}
def oS (W:List WB) (S:List SB) (x:SB) (q:Int):Nat:=fl (fun _ x=>clE x q) 0 W+(fl (fun _ x=>clS x q) 0 S - clS x q)
theorem WZ {x:SB} (hx:S[i]? = some x) (q:Int):fl (fun _ x=>clE x q) 0 W+fl (fun _ x=>clS x q) 0 S=oS W S x q+clS x q:=by
 have:=iI (g:=fun _ x=>clS x q) (n:=0) hx
 unfold oS
 omega
theorem al7 (hc:dj c=true) (hW:(W.length:Int)=c.1) (hI:MstA n c m W S) {x y:SB} (hx:S[i]? = some x) (hinj:InjI c m' (fun q=>oS W S x q+clS y q) (fun q=>fl (fun _ x=>clD x q) 0 W)) (hb5:ah m' 5≤ah m 5+1)
  (tE:∀ g,EFr c m g→(∀ q,clF g q≤oS W S x q)→EFr c m' g)
  (tD:∀ g,DFr c m g→DFr c m' g∧∀ k,hdD c m' g k=hdD c m g k)
  (hu:∀ u,0≤u→u<c.1→DEq c m m' u) (hy:(y.1=2→EFr c m' y.2.2∧y.2.2.2.2.2.1=iS y.2.1)∧(y.1=4→5≤y.2.2.1)) :
  MstA (n+1) c m' W (S.set i y)∧(∀ k,wc c m' W k=wc c m W k)∧∀ k,Aq c m' W k=Aq c m W k:=by
 have _h:=hc
 obtain ⟨hi,hxe⟩:=List.getElem?_eq_some_iff.1 hx
 have clE2:∀ a ∈ W,∀ q,clE a q≤oS W S x q:=fun a ha q=>by
  obtain ⟨j,hj⟩:=List.mem_iff_getElem?.1 ha
  have:=iI (g:=fun _ x=>clE x q) (n:=0) hj
  unfold oS
  omega
 have clS2:∀ {j:Nat} {a:SB},j≠i→S[j]? = some a→∀ q,clS a q≤oS W S x q:=fun hj ha q=>by
  have:=uR (g:=fun _ x=>clS x q) (n:=0) hj ha hx
  unfold oS
  omega
 have hlt:∀ {j:Nat} {a:WB},W[j]? = some a→(j:Int)<c.1:=fun ha=>by
  have:=(List.getElem?_eq_some_iff.1 ha).1
  omega
 have hdw:∀ {j:Nat} {a:WB},W[j]? = some a→∀ k,hdW c m' a k=hdW c m a k:=by
  intro j a ha k
  have h:=hI.i a (List.mem_of_getElem? ha)
  have hq:=hI.q j a ha
  unfold hdW
  split
  ·rename_i e
   refine DEq.hdp ?_ k
   rw [(hq.po e).who]
   exact hu j (by omega) (hlt ha)
  ·split
   ·rename_i e
    exact (tD _ (h.de e)).2 k
   ·rfl
 refine ⟨⟨?_,by have:=hI.b5;omega,fun j a ha=>(hu j (by omega) (hlt ha)).owq (Nat.le_succ n) (hI.q j a ha),fun a ha => ?_,fun a ha e => ?_,fun a ha => ?_⟩,fun k => ?_,fun k => ?_⟩
 ·have e1:(fun q=>fl (fun _ x=>clE x q) 0 W+fl (fun _ x=>clS x q) 0 (S.set i y))=fun q=>oS W S x q+clS y q:=funext fun q=>by
   have:=pL (g:=fun _ x=>clS x q) (y:=y) hx
   have h2:=iI (g:=fun _ x=>clS x q) (n:=0) hx
   unfold oS
   omega
  rw [e1]
  exact hinj
 ·have h:=hI.i a ha
  refine ⟨fun e=>(tD _ (h.de e)).1,fun e=>tE _ (h.en e) fun q => ?_,h.ev⟩
  have:=clE2 a ha q
  unfold clE at this
  rwa [if_pos e] at this
 ·obtain ⟨w0,w1,w2⟩:=hI.th a ha e
  refine ⟨w0,w1,fun b hb => ?_⟩
  have hD:=hu _ w0 w1
  rw [hD.hi]
  exact (w2 b hb).stay hD.t fun h=>⟨h,hD.s _⟩
 ·obtain ⟨j,hj⟩:=List.mem_iff_getElem?.1 ha
  rw [List.getElem?_set] at hj
  split at hj
  ·cases hj
   exact hy
  ·rename_i e
   have h:=hI.s a (List.mem_of_getElem? hj)
   refine ⟨fun e2=>⟨tE _ (h.1 e2).1 fun q => ?_,(h.1 e2).2⟩,h.2⟩
   have:=clS2 (fun h=>e h.symm) hj q
   unfold clS at this
   rwa [if_pos e2] at this
 ·exact m8 rfl fun j a b ha hb=>by
   rw [ha] at hb
   cases hb
   exact hdw ha k
 ·exact m8 rfl fun j a b ha hb=>by
   rw [ha] at hb
   cases hb
   have hD:=hu j (by omega) (hlt ha)
   rw [Nat.zero_add,hD.hi,hD.n]
def U0 (c:CF) (m:List Int) (n:Nat) (W:List WB) (S:List SB) (i:Nat) (r:List Int×SB×List EV):Prop:=
 MstA (n+1) c r.1 W (S.set i r.2.1)∧∀ k,pB c r.1 W k=pB c m W k+evC 0 r.2.2 k
theorem mQ (hc:dj c=true) (hW:(W.length:Int)=c.1) (hI:MstA n c m W S) {x y:SB} {evs:List EV} (hx:S[i]? = some x) (hx2:x.1≠2) (ie:InjEq c m m') (hu:∀ u,0≤u→u<c.1→DEq c m m' u) (hy:(y.1=2→y.2.2.1=3∧y.2.2.2.1=0∧y.2.2.2.2.2.2.2.2=0∧y.2.2.2.2.2.1=iS y.2.1)∧(y.1=4→5≤y.2.2.1)) (he:∀ k,evC 0 evs k=0):U0 c m n W S i (m',y,evs):=by
 have hcl:∀ q,clS y q=0:=fun q=>by
  unfold clS clF
  split
  ·rename_i e
   have:=(hy.1 e).2.1
   rw [if_neg (by omega)]
  ·rfl
 have hin:=hI.inj
 have e1:(fun q=>fl (fun _ x=>clE x q) 0 W+fl (fun _ x=>clS x q) 0 S)=fun q=>oS W S x q+clS y q:=funext fun q=>by
  rw [WZ hx,hcl]
  unfold clS
  rw [if_neg hx2]
 rw [e1] at hin
 obtain ⟨a1,a2,a3⟩:=al7 hc hW hI hx (ie.inj hin) (by rw [ie.t];omega) (fun g hg _=>ie.efr hg) (fun g hg=>⟨ie.dfr hg,ie.hd g⟩) hu ⟨fun e=>by
  obtain ⟨h1,h2,h3,h4⟩:=hy.1 e
  exact ⟨⟨h1,h3,by omega,fun _=>by omega,fun _=>by omega,fun _=>by omega,fun _=>by omega⟩,h4⟩,hy.2⟩
 refine ⟨a1,fun k => ?_⟩
 have:=a2 k
 have:=a3 k
 have:=ie.n k
 have:=he k
 unfold pB
 dsimp only
 omega
theorem ab3 {t:Tyt} {w:Int} (hc:dj c=true) (hl:(m.length:Int)=bN c) (hW:(W.length:Int)=c.1) (hI:MstA n c m W S) {x:SB} (hx:S[i]? = some x) (hn:n+1≤1000000):U0 c m n W S i (gR c t m w x):=by
 have hm:=aC hc
 have hO:=hI.s x (List.mem_of_getElem? hx)
 have e0:∀ k,evC 0 [] k=0:=fun k=>rfl
 have eR:∀ (j w k:Int),evC 0 [(1,j,w)] k=0:=fun j w k=>by rw [lg,if_neg (by omega)]
 unfold gR
 split
 ·unfold U0
  dsimp only
  rw [Hx hx]
  exact ⟨hI.mono (Nat.le_succ n),fun k=>rfl⟩
 split
 ·rename_i e
  split
  ·exact mQ hc hW hI hx (by omega) .rfl' (fun _ _ _ => .rfl') ⟨fun h=>absurd h (show ¬ (0:Int)=2 by decide),fun h=>absurd h (show ¬ (0:Int)=4 by decide)⟩ (eR _ _)
  ·exact mQ hc hW hI hx (by omega) .rfl' (fun _ _ _ => .rfl') ⟨fun h=>absurd h (show ¬ (1:Int)=2 by decide),fun h=>absurd h (show ¬ (1:Int)=4 by decide)⟩ e0
 split
 ·exact mQ hc hW hI hx (by omega) (gD hc (.inl (by decide))) (fun u u0 u1=>mX hc u0 u1 (by omega)) ⟨fun _=>⟨rfl,rfl,rfl,rfl⟩,fun h=>absurd h (show ¬ (2:Int)=4 by decide)⟩ e0
 split
 ·rename_i e
  obtain ⟨hf,hval0⟩:=hO.1 e
  have hk:lm c m x.2.2=kZ c m x.2.2:=by
   unfold lm CZ
   rw [hf.op]
   rfl
  have hin:=hI.inj
  have e1:(fun q=>fl (fun _ x=>clE x q) 0 W+fl (fun _ x=>clS x q) 0 S)=fun q=>oS W S x q+clF x.2.2 q:=funext fun q=>by
   rw [WZ hx]
   unfold clS
   rw [if_pos e]
  rw [e1] at hin
  obtain ⟨du,tE,tD,l5,hcase⟩:=Mf hc hl hin hf (fun q h=>by
   obtain ⟨j,a,ha,hp⟩:=nN h
   unfold clD at hp
   split at hp
   ·rename_i e
    unfold clF at hp
    split at hp
    ·rename_i e2
     have:=((hI.i a (List.mem_of_getElem? ha)).de e).p3 e2.1
     rw [e2.2] at this
     exact this.2.2
    ·omega
   ·omega) (fun q h=>by
   have h2:0<fl (fun _ x=>clE x q) 0 W∨0<fl (fun _ x=>clS x q) 0 S:=by unfold oS at h;omega
   rcases h2 with h2 | h2
   ·obtain ⟨j,a,ha,hp⟩:=nN h2
    unfold clE at hp
    split at hp
    ·rename_i e
     unfold clF at hp
     split at hp
     ·rename_i e2
      have:=((hI.i a (List.mem_of_getElem? ha)).en e).p3 e2.1
      rw [e2.2] at this
      exact this.2.2
     ·omega
    ·omega
   ·obtain ⟨j,a,ha,hp⟩:=nN h2
    unfold clS at hp
    split at hp
    ·rename_i e
     unfold clF at hp
     split at hp
     ·rename_i e2
      have:=((hI.s a (List.mem_of_getElem? ha)).1 e).1.p3 e2.1
      rw [e2.2] at this
      exact this.2.2
     ·omega
    ·omega) (by have:=hI.b5;omega)
  have tE':∀ g,EFr c m g→(∀ q,clF g q≤oS W S x q)→EFr c (kZ c m x.2.2).1 g:=fun g hg hq=>tE g hg fun g3 f3 ex=>by
   have h1:=hq g.2.2.2.2.1
   unfold clF at h1
   rw [if_pos ⟨g3,rfl⟩] at h1
   have h2:=hin.a g.2.2.2.2.1 (hg.p3 g3).1 (hg.p3 g3).2.1
   unfold clF at h2
   rw [if_pos (c:=3≤x.2.2.2.1∧_) ⟨f3,ex.symm⟩] at h2
   omega
  dsimp only
  rw [hk]
  have fin:∀ (y:SB) (evs:List EV),(∀ q,clS y q=0)→InjI c (kZ c m x.2.2).1 (oS W S x) (fun q=>fl (fun _ x=>clD x q) 0 W)→y.1≠2→y.1≠4→(∀ k,pU c (kZ c m x.2.2).1 k=pU c m k+evC 0 evs k)→U0 c m n W S i ((kZ c m x.2.2).1,y,evs):=fun y evs hcl ji y2 y4 hj=>by
   obtain ⟨a1,a2,a3⟩:=al7 hc hW hI hx (y:=y) (by
    have e2:(fun q=>oS W S x q+clS y q)=oS W S x:=funext fun q=>by rw [hcl];rfl
    rw [e2]
    exact ji) l5 tE' tD du ⟨fun h=>absurd h y2,fun h=>absurd h y4⟩
   refine ⟨a1,fun k => ?_⟩
   have:=a2 k
   have:=a3 k
   have:=hj k
   unfold pB
   dsimp only
   omega
  rcases hcase with ⟨o,pf,ji,jn,hval⟩ | ⟨o,r1,ji,jn,hval⟩ | ⟨o,r1,ji,jn⟩
  ·rw [if_pos o]
   obtain ⟨a1,a2,a3⟩:=al7 hc hW hI hx (y:=(2,x.2.1,(kZ c m x.2.2).2)) (m':=(kZ c m x.2.2).1) ji l5 tE' tD du ⟨fun _=>⟨pf,hval.trans hval0⟩,fun h=>absurd h (show ¬ (2:Int)=4 by decide)⟩
   refine ⟨a1,fun k => ?_⟩
   have:=a2 k
   have:=a3 k
   have:=jn k
   have:=e0 k
   unfold pB
   dsimp only
   omega
  ·rw [if_neg (by rw [o];decide),if_pos r1]
   exact fin _ _ (fun q=>rfl) ji (show (5:Int)≠2 by decide) (show (5:Int)≠4 by decide) fun k=>by rw [jn,e0];rfl
  ·rw [if_neg (by rw [o];decide),if_neg (by rw [r1];decide)]
   refine fin _ _ (fun q=>rfl) ji (show (3:Int)≠2 by decide) (show (3:Int)≠4 by decide) fun k => ?_
   rw [jn,lg]
   have hv:x.2.2.2.2.2.1=iS x.2.1:=hval0
   rw [hv]
   simp only [true_and]
 split
 ·rename_i e
  split
  ·exact mQ hc hW hI hx (by omega) .rfl' (fun _ _ _ => .rfl') ⟨fun h=>absurd h (show ¬ (0:Int)=2 by decide),fun h=>absurd h (show ¬ (0:Int)=4 by decide)⟩ e0
  ·exact mQ hc hW hI hx (by omega) .rfl' (fun _ _ _ => .rfl') ⟨fun h=>absurd h (show ¬ (4:Int)=2 by decide),fun _=>show (5:Int)≤6 by decide⟩ e0
 split
 ·rename_i e
  have h5:=hO.2 e
  obtain ⟨ie,du,op⟩:=AH (m:=m) hc h5
  have hk:dG c m x.2.2=lm c m x.2.2:=by
   unfold dG
   rw [if_neg (by omega)]
  rw [hk] at ie du op
  dsimp only
  split
  ·exact mQ hc hW hI hx (by omega) ie du ⟨fun h=>absurd h (show ¬ (0:Int)=2 by decide),fun h=>absurd h (show ¬ (0:Int)=4 by decide)⟩ e0
  ·exact mQ hc hW hI hx (by omega) ie du ⟨fun h=>absurd h (show ¬ (4:Int)=2 by decide),fun _=>by dsimp only;rw [op];exact h5⟩ e0
 ·refine mQ hc hW hI hx (by omega) (gD hc (.inl (by decide))) (fun u u0 u1=>mX hc u0 u1 (by omega)) ⟨fun h=>absurd h (show ¬ (0:Int)=2 by decide),fun h=>absurd h (show ¬ (0:Int)=4 by decide)⟩ fun k => ?_
  unfold evC
  split <;> simp
end
end Go.Ab
set_option linter.unusedVariables false
set_option linter.unusedSimpArgs false
namespace Go.Ab
theorem QX (t:Tyt) (s:List Int) (e:Int×Int×Int):(gE t s e).1.length=s.length:=by
 unfold gE
 split
 ·rfl
 ·split
  ·rfl
  ·split
   ·rfl
   ·split <;> simp
theorem SK (t:Tyt) (s:List Int) (e:Int×Int×Int) (h:(gE t s e).2=false):(gE t s e).1=s:=by
 unfold gE at h ⊢
 split
 ·rfl
 ·split
  ·rfl
  ·split
   ·rfl
   ·split
    ·rename_i h1 h2 h3 _ n hr
     rw [if_neg h1,if_neg h2,if_neg h3,hr] at h
     cases h
    ·rfl
theorem Ql {s:List Int} {i:Nat} {x:Int} (h:(s[i]?).getD x=x):s.set i x=s:=by
 apply List.ext_getElem?
 intro j
 by_cases e:i=j
 ·subst e
  by_cases hi:i<s.length
  ·rw [List.getElem?_set_self hi]
   rw [List.getElem?_eq_getElem hi] at h ⊢
   simpa using h.symm
  ·rw [List.getElem?_eq_none (by simpa using hi),List.getElem?_eq_none (by simpa using hi)]
 ·rw [List.getElem?_set_ne e]
end Go.Ab
namespace Go.Ab
theorem Bh {t:Tyt} {s:List Int} {kd q n:Int} (h:CR t s kd q=some n) :
  (kd=0∧(s[q.toNat]?).getD 0=0∧n=1∧dE t q<0)∨(kd=1∧(s[q.toNat]?).getD 0=0∧n=0∧dE t q<0) ∨
  (kd=3∧(s[q.toNat]?).getD 0=0∧n=1∧0≤dE t q∧s[(dE t q).toNat]? = some 2)∨(kd=2∧(s[q.toNat]?).getD 0=1∧n=2) ∨
  (kd=4∧(s[q.toNat]?).getD 0=2∧n=3∧((((t[q.toNat]?).getD (0,[])).2.any fun i=>(idx s i).getD 1==0)=false)):=by
 unfold CR at h
 simp only at h
 split at h
 ·rename_i h0
  split at h
  ·rename_i h1
   cases h
   exact .inl ⟨h0,h1.1,rfl,h1.2⟩
  ·cases h
 ·split at h
  ·rename_i h0
   split at h
   ·rename_i h1
    cases h
    exact .inr (.inl ⟨h0,h1.1,rfl,h1.2⟩)
   ·cases h
  ·split at h
   ·rename_i h0
    split at h
    ·rename_i h1
     cases h
     exact .inr (.inr (.inl ⟨h0,h1.1,rfl,h1.2.1,h1.2.2⟩))
    ·cases h
   ·split at h
    ·rename_i h0
     split at h
     ·rename_i h1
      cases h
      exact .inr (.inr (.inr (.inl ⟨h0,h1,rfl⟩)))
     ·cases h
    ·split at h
     ·rename_i h0
      split at h
      ·rename_i h1
       cases h
       exact .inr (.inr (.inr (.inr ⟨h0,h1.1,rfl,h1.2⟩)))
      ·cases h
     ·cases h
inductive Hap (t:Tyt) (s:List Int) (e:Int×Int×Int) (u:List Int):Prop where
 | idle (h:e.1=5) (hc:FH s=true) (hu:u=s)
 | rule (n:Int) (h5:e.1≠5) (h0:0≤e.2.1) (hl:e.2.1<t.length) (hr:CR t s e.1 e.2.1=some n) (hu:u=s.set e.2.1.toNat n)
theorem Xa {t:Tyt} {s:List Int} {e:Int×Int×Int} (h:(gE t s e).2=true):iT t s=true∧Hap t s e (gE t s e).1:=by
 unfold gE at h ⊢
 split
 ·rename_i h1
  rw [if_pos h1] at h
  cases h
 ·rename_i h1
  rw [if_neg h1] at h
  have hf:iT t s=true:=by simpa using h1
  refine ⟨hf,?_⟩
  split
  ·rename_i h2
   rw [if_pos h2] at h
   exact .idle h2 h rfl
  ·rename_i h2
   rw [if_neg h2] at h
   split
   ·rename_i h3
    rw [if_pos h3] at h
    cases h
   ·rename_i h3
    rw [if_neg h3] at h
    split
    ·rename_i n hr
     exact .rule n h2 (by omega) (by omega) hr rfl
    ·rename_i hr
     rw [hr] at h
     cases h
theorem nX (t:Tyt):∀ (a b:Tye) (s:List Int),Gc t (a++b) s=if (Gc t a s).2=true then Gc t b (Gc t a s).1 else Gc t a s
 | [],b,s=>rfl
 | e::a,b,s=>by
  simp only [List.cons_append,Gc]
  by_cases h:(gE t s e).2=true
  ·simp only [h,if_true]
   exact nX t a b _
  ·simp [h]
end Go.Ab
namespace Go.Ab
def mE (s:List Int):Int:=(s.countP rT:Nat)
theorem UU (s:List Int):FH s=true↔mE s=0:=by
 unfold FH mE
 rw [Bool.not_eq_true',List.any_eq_false]
 constructor
 ·intro h
  have:s.countP rT=0:=by
   rw [List.countP_eq_zero]
   exact h
  omega
 ·intro h x hx
  have:s.countP rT=0:=by omega
  exact (List.countP_eq_zero.1 this) x hx
theorem KE:∀ (s:List Int) (i:Nat) (x n:Int),s[i]? = some x→mE (s.set i n)=mE s+(if rT n then 1 else 0) - (if rT x then 1 else 0)
 | [],i,x,n,h=>by simp at h
 | y::s,0,x,n,h=>by
  simp at h
  subst h
  simp only [List.set_cons_zero,mE]
  by_cases a:rT n=true <;> by_cases b:rT y=true <;> simp [a,b] <;> omega
 | y::s,i+1,x,n,h=>by
  have ih:=KE s i x n (by simpa using h)
  simp only [List.set_cons_succ,mE] at ih ⊢
  by_cases b:rT y=true
  ·rw [List.countP_cons_of_pos b,List.countP_cons_of_pos b]
   omega
  ·rw [List.countP_cons_of_neg b,List.countP_cons_of_neg b]
   exact ih
def evD (e:Int×Int×Int):Int:=if e.1=0∨e.1=3 then 1 else if e.1=4 then -1 else 0
theorem O1 {t:Tyt} {s:List Int} {e:Int×Int×Int} (h:(gE t s e).2=true):mE (gE t s e).1=mE s+evD e:=by
 obtain ⟨hf,hh⟩:=Xa h
 have hsl:s.length=t.length:=by
  simp only [iT,Bool.and_eq_true,beq_iff_eq] at hf
  exact hf.1.2
 cases hh with
 | idle h5 hc hu=>
  rw [hu]
  simp [evD,h5]
 | rule n h5 h0 hl hr hu=>
  have i1:s[e.2.1.toNat]? = some s[e.2.1.toNat]:=List.getElem?_eq_getElem (by omega)
  rw [hu,KE s _ _ n i1]
  rcases Bh hr with ⟨a,b,c,_⟩ | ⟨a,b,c,_⟩ | ⟨a,b,c,_⟩ | ⟨a,b,c⟩ | ⟨a,b,c,_⟩ <;>
  ·rw [i1] at b
   simp only [Option.getD_some] at b
   rw [b,c]
   simp [evD,a,rT] <;> omega
theorem Wo (t:Tyt):mE (KO t)=0:=by
 unfold KO
 split
 ·have:(List.replicate t.length (0:Int)).countP rT=0:=by
   rw [List.countP_eq_zero]
   intro x hx
   rw [List.eq_of_mem_replicate hx]
   decide
  unfold mE
  omega
 ·rfl
theorem QK {t:Tyt} {s:List Int} {e:Int×Int×Int} (h:iT t s=true):iT t (gE t s e).1=true:=by
 cases hb:(gE t s e).2 with
 | false=>rw [SK t s e hb];exact h
 | true=>
  obtain ⟨_,hh⟩:=Xa hb
  cases hh with
  | idle _ _ hu=>rw [hu];exact h
  | rule n h5 h0 hl hr hu=>
   rw [hu]
   have hn:¬ ac0 n=true:=by
    rcases Bh hr with ⟨_,_,b,_⟩ | ⟨_,_,b,_⟩ | ⟨_,_,b,_⟩ | ⟨_,_,b⟩ | ⟨_,_,b,_⟩ <;> (rw [b];decide)
   simp only [iT,Bool.and_eq_true,beq_iff_eq,List.length_set,Bool.not_eq_true',List.any_eq_false] at h ⊢
   refine ⟨h.1,fun x hx => ?_⟩
   rcases List.mem_or_eq_of_mem_set hx with g | g
   ·exact h.2 x g
   ·rw [g];exact hn
theorem Vg {t:Tyt} (h:nQ t=true):iT t (KO t)=true:=by
 unfold KO
 rw [if_pos h]
 simp only [iT,h,Bool.true_and,List.length_replicate,Bool.and_eq_true,beq_iff_eq,Bool.not_eq_true',List.any_eq_false]
 refine ⟨trivial,fun x hx => ?_⟩
 rw [List.eq_of_mem_replicate hx]
 decide
end Go.Ab
set_option linter.unusedVariables false
namespace Go.Ab
abbrev TK:=Tyt
abbrev IT:=Int×Int×Int
def stA (s:List Int) (k:Int):Int:=if 0≤k then (s[k.toNat]?).getD 0 else 0
theorem pi {s:List Int} {k v:Int} (h0:0≤k) (h1:k<s.length) (q:Int):stA (s.set k.toNat v) q=if q=k then v else stA s q:=by
 unfold stA
 by_cases e:q=k
 ·subst e
  rw [if_pos rfl,if_pos h0,List.getElem?_set_self (by omega)]
  rfl
 ·rw [if_neg e]
  by_cases hq:0≤q
  ·rw [if_pos hq,if_pos hq,List.getElem?_set_ne (by omega)]
  ·rw [if_neg hq,if_neg hq]
theorem o9 {s:List Int} {k:Int} (h:stA s k≠0):0≤k∧k<s.length:=by
 unfold stA at h
 split at h
 ·rename_i h0
  by_cases h1:k<s.length
  ·exact ⟨h0,h1⟩
  ·rw [List.getElem?_eq_none (by omega)] at h
   exact absurd rfl h
 ·exact absurd rfl h
theorem my {t:TK} {s:List Int} (h:iT t s=true):nQ t=true∧s.length=t.length:=by
 simp only [iT,Bool.and_eq_true,beq_iff_eq] at h
 exact h.1
def oA (t:TK) (q:Int):List Int:=(nY t q).2
theorem Cl {t:TK} {q k:Int} (hm:nQ t=true) (h0:0≤q) (h:k ∈ oA t q):dE t k=q∧q<k∧k<t.length:=by
 unfold oA nY at h
 cases e:t[q.toNat]? with
 | none=>rw [e] at h;cases h
 | some x=>
  rw [e] at h
  have hq:(k,q) ∈ d9 0 t:=ng.2 ⟨q.toNat,x,e,h,by omega⟩
  have:=(B4 hm).kids _ hq
  dsimp only at this
  exact ⟨CL hm hq,this.2.1,this.2.2⟩
theorem NR {t:TK}:∀ {s:Nat},((d9 s t).map (·.1)).Nodup→∀ x ∈ t,x.2.Nodup:=by
 induction t with
 | nil=>intro s _ x hx;cases hx
 | cons y t ih=>
  intro s h x hx
  rw [d9,List.map_append] at h
  obtain ⟨h1,h2,_⟩:=List.nodup_append.1 h
  rcases List.mem_cons.1 hx with rfl | hx
  ·rw [List.map_map,show ((fun x:Int×Int=>x.1) ∘ fun k:Int=>(k,(s:Int)))=id from rfl,List.map_id] at h1
   exact h1
  ·exact ih h2 x hx
theorem ab6 {t:TK} {q k:Int} (hm:nQ t=true) {i j:Nat} (hi:(oA t q)[i]? = some k) (hj:(oA t q)[j]? = some k):i=j:=by
 unfold oA nY at hi hj
 cases e:t[q.toNat]? with
 | none=>rw [e] at hi;simp at hi
 | some x=>
  rw [e] at hi hj
  have hn:=NR (B4 hm).once x (List.mem_of_getElem? e)
  have h1:x.2[i]? = some k:=hi
  have h2:x.2[j]? = some k:=hj
  exact (List.getElem?_inj (List.getElem?_eq_some_iff.1 h1).1 hn).1 (h1.trans h2.symm)
def tkN (l:List IT) (k:Int):Nat:=l.countP fun a=>decide (a.1=k)
theorem mI (r:List IT) (a:IT) (k:Int):tkN (r++[a]) k=tkN r k+if a.1=k then 1 else 0:=by
 unfold tkN
 rw [List.countP_append,List.countP_cons,List.countP_nil]
 by_cases e:a.1=k
 ·rw [if_pos e,decide_eq_true e];rfl
 ·rw [if_neg e,decide_eq_false e];rfl
theorem IZ {l:List IT} {a:IT} (h:a ∈ l):0<tkN l a.1:=List.countP_pos_iff.2 ⟨a,h,decide_eq_true rfl⟩
def ahQ (W:List WB) (k:Int):Nat:=fl (fun _ x=>tkN x.2.1 k) 0 W
def pR (x:SB):List Int:=if x.1=3∨x.1=4 then x.2.1.tail else x.2.1
def adw (S:List SB) (r:Int):Nat:=fl (fun _ x=>(pR x).count r) 0 S
def HA (t:TK) (s:List Int) (a:IT):Prop:=∀ (j:Nat) k,(oA t a.1)[j]? = some k→((j:Int)<a.2.2→stA s k≠0)∧(a.2.2≤(j:Int)→stA s k=0)
structure MstB (t:TK) (W:List WB) (S:List SB) (s:List Int):Prop where
 fit:iT t s=true
 run:∀ k,ahQ W k=if stA s k=2 then 1 else 0
 kid:∀ x ∈ W,∀ a ∈ x.2.1,HA t s a
 new:∀ q k,0≤q→stA s q≤1→k ∈ oA t q→stA s k=0
 root:∀ x ∈ S,∀ r ∈ pR x,RtB t r∧stA s r=0
 nod:∀ r,adw S r≤1
section
variable {t:TK} {W:List WB} {S:List SB} {s:List Int} {i:Nat} {x y:WB} {k:Int}
theorem Pw (hx:W[i]? = some x) (k:Int):tkN x.2.1 k≤ahQ W k:=iI (g:=fun _ (x:WB)=>tkN x.2.1 k) (n:=0) hx
theorem E3 (hx:W[i]? = some x) (k:Int):ahQ (W.set i y) k+tkN x.2.1 k=ahQ W k+tkN y.2.1 k:=pL (g:=fun _ (x:WB)=>tkN x.2.1 k) (y:=y) hx
theorem Gr {α:Type} {W:List α} {i:Nat} {y a:α} (h:a ∈ W.set i y):a=y∨∃ j,j≠i∧W[j]? = some a:=by
 obtain ⟨j,hj⟩:=List.mem_iff_getElem?.1 h
 rw [List.getElem?_set] at hj
 split at hj
 ·split at hj
  ·cases hj
   exact .inl rfl
  ·cases hj
 ·rename_i e
  exact .inr ⟨j,fun h=>e h.symm,hj⟩
theorem afp (hB:MstB t W S s) (hx:W[i]? = some x) (h:y.2.1=x.2.1∨∃ r a b,x.2.1=r++[a]∧y.2.1=r++[b]∧b.1=a.1∧b.2.2=a.2.2):MstB t (W.set i y) S s:=by
 have hk:∀ k,tkN y.2.1 k=tkN x.2.1 k:=fun k=>by
  rcases h with h | ⟨r,a,b,e1,e2,e3,_⟩
  ·rw [h]
  ·rw [e1,e2,mI,mI,e3]
 refine ⟨hB.fit,fun k => ?_,fun z hz a ha => ?_,hB.new,hB.root,hB.nod⟩
 ·rw [← hB.run]
  have:=E3 (y:=y) hx k
  have:=hk k
  omega
 ·rcases Gr hz with rfl | ⟨j,_,hj⟩
  ·have hxx:=hB.kid x (List.mem_of_getElem? hx)
   rcases h with h | ⟨r,a',b,e1,e2,e3,e4⟩
   ·rw [h] at ha
    exact hxx a ha
   ·rw [e2] at ha
    rcases List.mem_append.1 ha with ha | ha
    ·exact hxx a (by rw [e1];exact List.mem_append_left _ ha)
    ·rw [List.mem_singleton.1 ha]
     have:=hxx a' (by rw [e1];simp)
     unfold HA at this ⊢
     rw [e3,e4]
     exact this
  ·exact hB.kid z (List.mem_of_getElem? hj) a ha
theorem AI (hB:MstB t W S s) {v:Int} (hv:0≤v∧v≤3):iT t (s.set k.toNat v)=true:=by
 have h:=hB.fit
 simp only [iT,Bool.and_eq_true,beq_iff_eq,List.length_set,Bool.not_eq_true',List.any_eq_false] at h ⊢
 refine ⟨h.1,fun x hx => ?_⟩
 rcases List.mem_or_eq_of_mem_set hx with g | g
 ·exact h.2 x g
 ·rw [g]
  unfold ac0
  simp
  omega
theorem YQ (hB:MstB t W S s) (hx:W[i]? = some x) (hk:stA s k=1) (hy:y.2.1=x.2.1++[(k,0,0)]):MstB t (W.set i y) S (s.set k.toNat 2):=by
 obtain ⟨k0,k1⟩:=o9 (s:=s) (k:=k) (by omega)
 obtain ⟨hm,hsl⟩:=my hB.fit
 have st:=pi (s:=s) (v:=2) k0 k1
 refine ⟨AI hB (by omega),fun q => ?_,fun z hz a ha => ?_,fun q j q0 hq hj => ?_,fun z hz r hr => ?_,hB.nod⟩
 ·have h1:=E3 (y:=y) hx q
  rw [hy,mI,hB.run q] at h1
  rw [st]
  dsimp only at h1
  by_cases e:q=k
  ·rw [if_pos (show k=q from e.symm),if_neg (show ¬ stA s q=2 by rw [e];omega)] at h1
   rw [if_pos e,if_pos rfl]
   omega
  ·rw [if_neg (show ¬ k=q from fun h=>e h.symm)] at h1
   rw [if_neg e]
   omega
 ·have old:HA t s a→HA t (s.set k.toNat 2) a:=fun h j q hj=>by
   obtain ⟨h1,h2⟩:=h j q hj
   rw [st]
   refine ⟨fun h => ?_,fun h => ?_⟩
   ·split
    ·decide
    ·exact h1 h
   ·have:=h2 h
    rw [if_neg (fun e=>by subst e;omega)]
    exact this
  rcases Gr hz with rfl | ⟨j,_,hj⟩
  ·rw [hy] at ha
   rcases List.mem_append.1 ha with ha | ha
   ·exact old (hB.kid x (List.mem_of_getElem? hx) a ha)
   ·rw [List.mem_singleton.1 ha]
    intro j q hj
    dsimp only at hj ⊢
    have hmem:q ∈ oA t k:=List.mem_of_getElem? hj
    have:=Cl hm k0 hmem
    refine ⟨fun h=>by omega,fun _ => ?_⟩
    rw [st,if_neg (by omega)]
    exact hB.new k q k0 (by omega) hmem
  ·exact old (hB.kid z (List.mem_of_getElem? hj) a ha)
 ·rw [st] at hq
  split at hq
  ·omega
  ·have:=hB.new q j q0 hq hj
   rw [st,if_neg (fun e=>by subst e;omega)]
   exact this
 ·obtain ⟨h1,h2⟩:=hB.root z hz r hr
  exact ⟨h1,by rw [st,if_neg (fun e=>by subst e;omega)];exact h2⟩
theorem F5 (hB:MstB t W S s) (hx:W[i]? = some x) {r:List IT} {a:IT} (hr:x.2.1=r++[a]):stA s a.1=2∧tkN r a.1=0∧∀ j z,j≠i→W[j]? = some z→tkN z.2.1 a.1=0:=by
 have h1:=Pw hx a.1
 have h2:=hB.run a.1
 rw [hr,mI,if_pos rfl] at h1
 have h3:stA s a.1=2:=by
  by_cases e:stA s a.1=2
  ·exact e
  ·rw [if_neg e] at h2
   omega
 rw [if_pos h3] at h2
 refine ⟨h3,by omega,fun j z hj hz => ?_⟩
 have h4:=uR (g:=fun _ (x:WB)=>tkN x.2.1 a.1) (n:=0) hj hz hx
 have h5:fl (fun _ (x:WB)=>tkN x.2.1 a.1) 0 W=1:=h2
 rw [h5,hr,mI,if_pos rfl] at h4
 omega
theorem ZJ (hB:MstB t W S s) (hx:W[i]? = some x) {r:List IT} {a b:IT} (hr:x.2.1=r++[a]) (hy:y.2.1=r++[b]) (hb:b.1=a.1∧b.2.2=a.2.2+1) (a0:0≤a.1) (c0:0≤a.2.2) (hk:(oA t a.1)[a.2.2.toNat]? = some k):stA s k=0∧dE t k=a.1∧0≤k∧k<t.length∧MstB t (W.set i y) S (s.set k.toNat 1):=by
 obtain ⟨hm,hsl⟩:=my hB.fit
 obtain ⟨p1,p2,p3⟩:=Cl hm a0 (List.mem_of_getElem? hk)
 have hxx:=hB.kid x (List.mem_of_getElem? hx)
 have ha:=hxx a (by rw [hr];simp)
 have hk0:stA s k=0:=(ha _ _ hk).2 (by omega)
 obtain ⟨t1,t2,t3⟩:=F5 hB hx hr
 have st:=pi (s:=s) (k:=k) (v:=1) (by omega) (by omega)
 have old:∀ a':IT,0≤a'.1→a'.1≠a.1→HA t s a'→HA t (s.set k.toNat 1) a':=fun a' h0 hne h j q hj=>by
  obtain ⟨h1,h2⟩:=h j q hj
  have hp:=Cl hm h0 (List.mem_of_getElem? hj)
  rw [st,if_neg (fun e=>by subst e;omega)]
  exact ⟨h1,h2⟩
 refine ⟨hk0,p1,by omega,p3,AI hB (by omega),fun q => ?_,fun z hz a' ha' => ?_,fun q j q0 hq hj => ?_,fun z hz r' hr' => ?_,hB.nod⟩
 ·have h1:=E3 (y:=y) hx q
  rw [hr,hy,mI,mI,hb.1,hB.run q] at h1
  rw [st]
  by_cases e:q=k
  ·rw [if_neg (show ¬ stA s q=2 by rw [e];omega)] at h1
   rw [if_pos e,if_neg (by decide)]
   omega
  ·rw [if_neg e]
   omega
 ·have nn:∀ {l:List IT},tkN l a.1=0→a' ∈ l→a'.1≠a.1:=fun h h2 e=>by
   have:=IZ h2
   rw [e] at this
   omega
  have pos:stA s a'.1=2→0≤a'.1:=fun h=>(o9 (s:=s) (k:=a'.1) (by omega)).1
  have two:∀ {j:Nat} {z:WB},W[j]? = some z→a' ∈ z.2.1→stA s a'.1=2:=fun hz h2=>by
   have h1:=Pw hz a'.1
   have h3:=IZ h2
   have h4:=hB.run a'.1
   by_cases e:stA s a'.1=2
   ·exact e
   ·rw [if_neg e] at h4
    omega
  rcases Gr hz with rfl | ⟨j,hji,hj⟩
  ·rw [hy] at ha'
   rcases List.mem_append.1 ha' with h | h
   ·have hmem:a' ∈ x.2.1:=by rw [hr];exact List.mem_append_left _ h
    exact old a' (pos (two hx hmem)) (nn t2 h) (hxx a' hmem)
   ·rw [List.mem_singleton.1 h]
    intro j q hj
    rw [hb.1] at hj
    obtain ⟨h1,h2⟩:=ha j q hj
    rw [hb.2,st]
    by_cases e:q=k
    ·subst e
     have:=ab6 hm hj hk
     rw [if_pos rfl]
     exact ⟨fun _=>by decide,fun _=>by omega⟩
    ·rw [if_neg e]
     refine ⟨fun h=>h1 ?_,fun h=>h2 (by omega)⟩
     by_cases e2:(j:Int)=a.2.2
     ·exfalso
      apply e
      have:a.2.2.toNat=j:=by omega
      rw [this,hj] at hk
      exact Option.some.inj hk
     ·omega
  ·exact old a' (pos (two hj ha')) (nn (t3 j z hji hj) ha') (hB.kid z (List.mem_of_getElem? hj) a' ha')
 ·have hq0:stA s q≤1:=by
   rw [st] at hq
   split at hq
   ·rename_i e;subst e;omega
   ·exact hq
  have hp:=Cl hm q0 hj
  have:=hB.new q j q0 hq0 hj
  rw [st,if_neg]
  ·exact this
  ·intro e
   subst e
   rw [p1] at hp
   rw [← hp.1] at hq0
   omega
 ·obtain ⟨h1,h2⟩:=hB.root z hz r' hr'
  refine ⟨h1,?_⟩
  rw [st,if_neg]
  ·exact h2
  ·intro e
   subst e
   have:=h1.2
   omega
theorem afC (hB:MstB t W S s) (hx:W[i]? = some x) {a:IT} (hr:x.2.1=y.2.1++[a]) (hall:((oA t a.1).length:Int)≤a.2.2):stA s a.1=2∧(∀ q ∈ oA t a.1,stA s q≠0)∧MstB t (W.set i y) S (s.set a.1.toNat 3):=by
 obtain ⟨hm,hsl⟩:=my hB.fit
 have hxx:=hB.kid x (List.mem_of_getElem? hx)
 obtain ⟨t1,t2,t3⟩:=F5 hB hx hr
 obtain ⟨k0,k1⟩:=o9 (s:=s) (k:=a.1) (by omega)
 have st:=pi (s:=s) (k:=a.1) (v:=3) k0 k1
 refine ⟨t1,fun q hq => ?_,AI hB (by omega),fun q => ?_,fun z hz a' ha' => ?_,fun q j q0 hq hj => ?_,fun z hz r' hr' => ?_,hB.nod⟩
 ·obtain ⟨j,hj⟩:=List.mem_iff_getElem?.1 hq
  have hlt:=(List.getElem?_eq_some_iff.1 hj).1
  exact (hxx a (by rw [hr];simp) j q hj).1 (by omega)
 ·have h1:=E3 (y:=y) hx q
  rw [hr,mI,hB.run q] at h1
  rw [st]
  by_cases e:q=a.1
  ·subst e
   rw [if_pos rfl,if_pos t1] at h1
   rw [if_pos rfl,if_neg (by decide)]
   omega
  ·rw [if_neg (fun h=>e h.symm)] at h1
   rw [if_neg e]
   omega
 ·have old:HA t s a'→HA t (s.set a.1.toNat 3) a':=fun h j q hj=>by
   obtain ⟨h1,h2⟩:=h j q hj
   rw [st]
   refine ⟨fun h => ?_,fun h => ?_⟩
   ·split
    ·decide
    ·exact h1 h
   ·have:=h2 h
    rw [if_neg (fun e=>by subst e;omega)]
    exact this
  rcases Gr hz with rfl | ⟨j,hji,hj⟩
  ·exact old (hxx a' (by rw [hr];exact List.mem_append_left _ ha'))
  ·exact old (hB.kid z (List.mem_of_getElem? hj) a' ha')
 ·rw [st] at hq
  split at hq
  ·omega
  ·have:=hB.new q j q0 hq hj
   rw [st,if_neg (fun e=>by subst e;omega)]
   exact this
 ·obtain ⟨h1,h2⟩:=hB.root z hz r' hr'
  exact ⟨h1,by rw [st,if_neg (fun e=>by subst e;omega)];exact h2⟩
end
section
variable {t:TK} {W:List WB} {S:List SB} {s:List Int} {i:Nat} {x y:SB} {k:Int}
theorem Pm (hx:S[i]? = some x) (r:Int):adw (S.set i y) r+(pR x).count r=adw S r+(pR y).count r:=pL (g:=fun _ (x:SB)=>(pR x).count r) (y:=y) hx
theorem Uy (hB:MstB t W S s) (hx:S[i]? = some x) (h:pR y=pR x∨∃ r,pR x=r::pR y):MstB t W (S.set i y) s:=by
 refine ⟨hB.fit,hB.run,hB.kid,hB.new,fun z hz r hr => ?_,fun r => ?_⟩
 ·rcases Gr hz with rfl | ⟨j,_,hj⟩
  ·refine hB.root x (List.mem_of_getElem? hx) r ?_
   rcases h with h | ⟨q,h⟩
   ·rw [← h];exact hr
   ·rw [h];exact List.mem_cons_of_mem _ hr
  ·exact hB.root z (List.mem_of_getElem? hj) r hr
 ·have h1:=Pm (y:=y) hx r
  have h2:=hB.nod r
  rcases h with h | ⟨q,h⟩
  ·rw [h] at h1;omega
  ·rw [h,List.count_cons] at h1;omega
theorem anb (hB:MstB t W S s) (hx:S[i]? = some x) (h:pR x=k::pR y):RtB t k∧stA s k=0∧MstB t W (S.set i y) (s.set k.toNat 1):=by
 obtain ⟨hm,hsl⟩:=my hB.fit
 obtain ⟨hR,hk0⟩:=hB.root x (List.mem_of_getElem? hx) k (by rw [h];simp)
 have st:=pi (s:=s) (k:=k) (v:=1) hR.1.1 (by have:=hR.1.2;omega)
 have hB':=Uy (y:=y) hB hx (.inr ⟨k,h⟩)
 have nok:∀ {q j:Int},0≤q→j ∈ oA t q→j≠k:=fun q0 hj e=>by
  have:=Cl hm q0 hj
  rw [e,hR.2] at this
  omega
 refine ⟨hR,hk0,AI hB (by omega),fun q => ?_,fun z hz a ha j q hj => ?_,fun q j q0 hq hj => ?_,fun z hz r hr => ?_,hB'.nod⟩
 ·rw [st,hB.run q]
  by_cases e:q=k
  ·rw [if_pos e,if_neg (show ¬ stA s q=2 by rw [e];omega),if_neg (by decide)]
  ·rw [if_neg e]
 ·have hpos:0≤a.1:=by
   obtain ⟨i',hi'⟩:=List.mem_iff_getElem?.1 hz
   have h1:=Pw hi' a.1
   have h3:=IZ ha
   have h4:=hB.run a.1
   by_cases e:stA s a.1=2
   ·exact (o9 (s:=s) (k:=a.1) (by omega)).1
   ·rw [if_neg e] at h4
    omega
  rw [st,if_neg (nok hpos (List.mem_of_getElem? hj))]
  exact hB.kid z hz a ha j q hj
 ·have hq0:stA s q≤1:=by
   rw [st] at hq
   split at hq
   ·rename_i e;subst e;omega
   ·exact hq
  rw [st,if_neg (nok q0 hj)]
  exact hB.new q j q0 hq0 hj
 ·obtain ⟨h1,h2⟩:=hB'.root z hz r hr
  refine ⟨h1,?_⟩
  rw [st,if_neg]
  ·exact h2
  ·intro e
   subst e
   have c1:=hB.nod r
   have c2:=Pm (y:=y) hx r
   rw [h,List.count_cons_self] at c2
   obtain ⟨j,hj⟩:=List.mem_iff_getElem?.1 hz
   have c3:=iI (g:=fun _ x=>(pR x).count r) (n:=0) hj
   have c4:0<(pR z).count r:=List.count_pos_iff.2 hr
   have c5:fl (fun _ x=>(pR x).count r) 0 (S.set i y)=adw (S.set i y) r:=rfl
   omega
end
end Go.Ab
set_option linter.unusedVariables false
namespace Go.Ab
def pdB (x:SB):Nat:=if x.1=2∨x.1=5 then 1 else 0
def pdS (S:List SB):Nat:=fl (fun _ x=>pdB x) 0 S
structure MstP (n:Nat) (p:PB) (s:List Int):Prop where
 a:MstA n p.1 p.2.2.1 p.2.2.2.1 p.2.2.2.2
 b:MstB p.2.1 p.2.2.2.1 p.2.2.2.2 s
 rdy:∀ k,pB p.1 p.2.2.1 p.2.2.2.1 k=if stA s k=1 then 1 else 0
 pend:ah p.2.2.1 0=mE s+(pdS p.2.2.2.2:Int)
theorem nd {t:TK} {s:List Int} {a k w n:Int} (hf:iT t s=true) (h5:a≠5) (k0:0≤k) (k1:k<t.length) (hr:CR t s a k=some n):gE t s (a,k,w)=(s.set k.toNat n,true):=by
 unfold gE
 rw [if_neg (by rw [hf];decide),if_neg h5,if_neg (by dsimp only;omega)]
 dsimp only
 rw [hr]
theorem pr {s:List Int} {k:Int} (h:0≤k):(s[k.toNat]?).getD 0=stA s k:=by unfold stA;rw [if_pos h]
theorem rG {t:TK} {s s':List Int} {e:EV} (h:gE t s e=(s',true)):Gc t [e] s=(s',true):=by
 rw [Gc,h,if_pos rfl]
 rfl
theorem OQ {t:TK} {s s':List Int} {e:EV} {o w:Int} (h:gE t s e=(s',true)) (hf:iT t s'=true) (hc:FH s'=true):Gc t [e,(5,o,w)] s=(s',true):=by
 rw [Gc,h,if_pos rfl]
 refine rG ?_
 unfold gE
 rw [if_neg (by rw [hf];decide),if_pos rfl,hc]
theorem acU {t:TK} {s:List Int} {k w:Int} (hf:iT t s=true) (h:stA s k=1):gE t s (2,k,w)=(s.set k.toNat 2,true):=by
 obtain ⟨k0,k1⟩:=o9 (s:=s) (k:=k) (by omega)
 refine nd hf (by decide) k0 (by have:=(my hf).2;omega) ?_
 unfold CR
 dsimp only
 rw [pr k0,if_neg (by decide),if_neg (by decide),if_neg (by decide),if_pos rfl,if_pos h]
theorem ZK {t:TK} {s:List Int} {k j w:Int} (hf:iT t s=true) (k0:0≤k) (k1:k<t.length) (h:stA s k=0) (hp:dE t k=j) (h2:stA s j=2):gE t s (3,k,w)=(s.set k.toNat 1,true):=by
 obtain ⟨j0,j1⟩:=o9 (s:=s) (k:=j) (by omega)
 refine nd hf (by decide) k0 k1 ?_
 unfold CR
 dsimp only
 rw [pr k0,if_neg (by decide),if_neg (by decide),if_pos rfl,hp,if_pos]
 refine ⟨h,j0,?_⟩
 have:=h2
 rw [← pr j0,List.getElem?_eq_getElem (by omega)] at this
 rw [List.getElem?_eq_getElem (by omega)]
 exact congrArg some this
theorem aff {t:TK} {s:List Int} {k w:Int} (hf:iT t s=true) (h:stA s k=2) (ha:∀ q ∈ oA t k,stA s q≠0):gE t s (4,k,w)=(s.set k.toNat 3,true):=by
 obtain ⟨k0,k1⟩:=o9 (s:=s) (k:=k) (by omega)
 refine nd hf (by decide) k0 (by have:=(my hf).2;omega) ?_
 unfold CR
 dsimp only
 rw [pr k0,if_neg (by decide),if_neg (by decide),if_neg (by decide),if_neg (by decide),if_pos rfl,if_pos]
 refine ⟨h,?_⟩
 rw [List.any_eq_false]
 intro q hq
 have h1:=ha q hq
 obtain ⟨q0,q1⟩:=o9 h1
 rw [← pr q0,List.getElem?_eq_getElem (by omega)] at h1
 unfold idx
 rw [if_pos q0,List.getElem?_eq_getElem (by omega)]
 simpa using h1
theorem akN {t:TK} {s:List Int} {k w:Int} (hf:iT t s=true) (hR:RtB t k) (h:stA s k=0):gE t s (0,k,w)=(s.set k.toNat 1,true):=by
 refine nd hf (by decide) hR.1.1 hR.1.2 ?_
 unfold CR
 dsimp only
 rw [pr hR.1.1,if_pos rfl,if_pos ⟨h,by rw [hR.2];decide⟩]
theorem afE {t:TK} {s:List Int} {k w:Int} (hf:iT t s=true) (hR:RtB t k) (h:stA s k=0):gE t s (1,k,w)=(s,true):=by
 have h1:=nd (t:=t) (s:=s) (a:=1) (k:=k) (w:=w) (n:=0) hf (by decide) hR.1.1 hR.1.2 (by
  unfold CR
  dsimp only
  rw [pr hR.1.1,if_neg (by decide),if_pos rfl,if_pos ⟨h,by rw [hR.2];decide⟩])
 rw [h1,Ql]
 rw [pr hR.1.1,h]
theorem Wv {c:CF} {t:TK} {m:List Int} {w:Int} {x:WB} {d:Int} :
  ((br c t m w x d).2.2=[]∧((br c t m w x d).2.1.2.1=x.2.1∨(ea t x.2.1).1=1∧(br c t m w x d).2.1.2.1=doB t x.2.1)) ∨
  (∃ k,(br c t m w x d).2.2=[(2,k,w)]∧(br c t m w x d).2.1.2.1=iU t x.2.1 k) ∨
  ((ea t x.2.1).1=2∧(br c t m w x d).2.2=[(3,(ea t x.2.1).2,w)]∧(br c t m w x d).2.1.2.1=doB t x.2.1) ∨
  ((ea t x.2.1).1=3∧(br c t m w x d).2.1.2.1=doB t x.2.1∧((br c t m w x d).2.2=[(4,(ea t x.2.1).2,w)]∨(br c t m w x d).2.2=[(4,(ea t x.2.1).2,w),(5,0,w)])):=by
 refine kC (P:=fun r=>(r.2.2=[]∧(r.2.1.2.1=x.2.1∨(ea t x.2.1).1=1∧r.2.1.2.1=doB t x.2.1))∨(∃ k,r.2.2=[(2,k,w)]∧r.2.1.2.1=iU t x.2.1 k)∨((ea t x.2.1).1=2∧r.2.2=[(3,(ea t x.2.1).2,w)]∧r.2.1.2.1=doB t x.2.1)∨((ea t x.2.1).1=3∧r.2.1.2.1=doB t x.2.1∧(r.2.2=[(4,(ea t x.2.1).2,w)]∨r.2.2=[(4,(ea t x.2.1).2,w),(5,0,w)]))) (fun _ => .inl ⟨rfl,.inl rfl⟩) ?_ ?_ ?_ ?_ ?_ ?_ ?_ ?_ ?_ ?_ ?_ ?_ ?_ ?_ ?_
 all_goals intro _ _
 all_goals dsimp only [IQ,Ax,oo,ml,wT,oF,fc,gU,K9,u3,rX,rS,IX,uq,uE,toW,lq]
 all_goals repeat' split
 all_goals first
  | exact .inl ⟨rfl,.inl rfl⟩
  | exact .inl ⟨rfl,.inr ⟨by assumption,rfl⟩⟩
  | exact .inr (.inl ⟨_,rfl,rfl⟩)
  | (rename_i h;exact .inr (.inr (.inl ⟨by simpa using h,rfl,rfl⟩)))
  | skip
 all_goals rename_i h0 h1 h2
 all_goals refine .inr (.inr (.inr ⟨by simpa using h0,?_,?_⟩))
 all_goals first
  | rfl
  | exact h1.symm
  | exact .inl rfl
  | exact .inr rfl
theorem Qe {c:CF} {t:TK} {m:List Int} {i:Int} {x:SB} (hms:Au c t m x=true) (hf:Wf x.2.2) (h1:1≤m.length) :
  ((gR c t m i x).2.2=[]∧pR (gR c t m i x).2.1=pR x∧(ah (gR c t m i x).1 0=fG (ah m 0) 1∧pdB x=0∧pdB (gR c t m i x).2.1=1∨ah (gR c t m i x).1 0=ah m 0∧pdB (gR c t m i x).2.1=pdB x)) ∨
  ((gR c t m i x).2.2=[(1,iS x.2.1,i)]∧pR x=iS x.2.1::pR (gR c t m i x).2.1∧ah (gR c t m i x).1 0=ah m 0∧pdB (gR c t m i x).2.1=pdB x) ∨
  ((gR c t m i x).2.2=[(0,iS x.2.1,i)]∧pR x=iS x.2.1::pR (gR c t m i x).2.1∧ah (gR c t m i x).1 0=ah m 0∧pdB x=1∧pdB (gR c t m i x).2.1=0) ∨
  (pR x=iS x.2.1::pR (gR c t m i x).2.1∧ah (gR c t m i x).1 0=fG (ah m 0) 18446744073709551615∧pdB x=1∧pdB (gR c t m i x).2.1=0∧(ah m 0=1∧(gR c t m i x).2.2=[(1,iS x.2.1,i),(5,0,i)]∨ah m 0≠1∧(gR c t m i x).2.2=[(1,iS x.2.1,i)])):=by
 obtain ⟨_,_,_,b0,b1,r,rest,hx,_⟩:=Co hms
 have hhd:iS x.2.1=r:=by rw [hx];rfl
 have htl:x.2.1.tail=rest:=by rw [hx];rfl
 have j0:(0:Int)=0∨(0:Int)=1∨(0:Int)=3:=by decide
 have hk:ah (lm c m x.2.2).1 0=ah m 0:=by
  unfold lm CZ Kf
  repeat' split
  all_goals first | with_reducible rfl | with_reducible exact LG j0 hf | with_reducible exact Lj j0 hf | with_reducible exact HY j0 hf | with_reducible exact GJ j0 hf
 have hs:∀ v,ah (ar m 0 v) 0=v:=fun v=>ee v (by decide) (by omega)
 have e1:∀ a,pR (0,x.2.1.tail,a)=rest:=fun a=>by unfold pR;rw [if_neg (show ¬ ((0:Int)=3∨(0:Int)=4) by decide)];exact htl
 have e2:∀ a,pR (3,x.2.1,a)=rest:=fun a=>by unfold pR;rw [if_pos (.inl rfl)];exact htl
 have e3:∀ a,pR (4,x.2.1,a)=rest:=fun a=>by unfold pR;rw [if_pos (.inr rfl)];exact htl
 have e4:∀ b a,b≠3∧b≠4→pR (b,x.2.1,a)=x.2.1:=fun b a h=>by unfold pR;rw [if_neg (by dsimp only;omega)]
 have p0:∀ b l a,b≠2∧b≠5→pdB (b,l,a)=0:=fun b l a h=>by unfold pdB;rw [if_neg (by dsimp only;omega)]
 have p1:∀ b l a,b=2∨b=5→pdB (b,l,a)=1:=fun b l a h=>by unfold pdB;rw [if_pos (by exact h)]
 have qx0:x.1≠2∧x.1≠5→pdB x=0:=fun h=>p0 x.1 x.2.1 x.2.2 h
 have qx1:x.1=2∨x.1=5→pdB x=1:=fun h=>p1 x.1 x.2.1 x.2.2 h
 have rx0:x.1≠3∧x.1≠4→pR x=r::rest:=fun h=>by rw [← hx];exact e4 x.1 x.2.2 h
 have rx1:x.1=3∨x.1=4→pR x=rest:=fun h=>by unfold pR;rw [if_pos h];exact htl
 unfold gR
 rw [if_neg (by rw [hms];decide),hhd]
 by_cases c0:x.1=0
 ·rw [if_pos c0]
  split
  ·exact .inr (.inl ⟨rfl,by rw [rx0 (by omega),e1],rfl,by rw [qx0 (by omega)];rfl⟩)
  ·exact .inl ⟨rfl,by rw [rx0 (by omega),← hx];exact e4 1 x.2.2 (by decide),.inr ⟨rfl,by rw [qx0 (by omega)];rfl⟩⟩
 rw [if_neg c0]
 by_cases c1:x.1=1
 ·rw [if_pos c1]
  exact .inl ⟨rfl,by rw [rx0 (by omega),← hx];exact e4 2 _ (by decide),.inl ⟨hs _,qx0 (by omega),rfl⟩⟩
 rw [if_neg c1]
 by_cases c2:x.1=2
 ·rw [if_pos c2]
  dsimp only
  split
  ·exact .inl ⟨rfl,by rw [rx0 (by omega),← hx];exact e4 2 _ (by decide),.inr ⟨hk,by rw [qx1 (by omega)];rfl⟩⟩
  ·split
   ·exact .inl ⟨rfl,by rw [rx0 (by omega),← hx];exact e4 5 _ (by decide),.inr ⟨hk,by rw [qx1 (by omega)];rfl⟩⟩
   ·exact .inr (.inr (.inl ⟨rfl,by rw [rx0 (by omega),e2],hk,qx1 (by omega),rfl⟩))
 rw [if_neg c2]
 by_cases c3:x.1=3
 ·rw [if_pos c3]
  split
  ·exact .inl ⟨rfl,by rw [rx1 (by omega),e1],.inr ⟨rfl,by rw [qx0 (by omega)];rfl⟩⟩
  ·exact .inl ⟨rfl,by rw [rx1 (by omega),e3],.inr ⟨rfl,by rw [qx0 (by omega)];rfl⟩⟩
 rw [if_neg c3]
 by_cases c4:x.1=4
 ·rw [if_pos c4]
  dsimp only
  split
  ·exact .inl ⟨rfl,by rw [rx1 (by omega),e1],.inr ⟨hk,by rw [qx0 (by omega)];rfl⟩⟩
  ·exact .inl ⟨rfl,by rw [rx1 (by omega),e3],.inr ⟨hk,by rw [qx0 (by omega)];rfl⟩⟩
 rw [if_neg c4]
 refine .inr (.inr (.inr ⟨by rw [rx0 (by omega),e1],hs _,qx1 (by omega),rfl,?_⟩))
 by_cases hm0:ah m 0=1
 ·exact .inl ⟨hm0,if_pos hm0⟩
 ·exact .inr ⟨hm0,if_neg hm0⟩
end Go.Ab
set_option linter.unusedVariables false
namespace Go.Ab
theorem F4 {t:TK} {l:List IT} {n:Int} (h:(ea t l).1=n) (hn:n≠0):∃ r a,l=r++[a]∧It t a∧(n=1∧doB t l=r++[(a.1,a.2.1+1,a.2.2)]∨n=2∧doB t l=r++[(a.1,a.2.1,a.2.2+1)]∧(oA t a.1)[a.2.2.toNat]? = some (ea t l).2∨n=3∧doB t l=r∧(ea t l).2=a.1∧((oA t a.1).length:Int)≤a.2.2):=by
 rcases lQ l with rfl | ⟨r,a,rfl⟩
 ·simp [ea] at h
  omega
 ·rw [pI] at h ⊢
  rw [AQ]
  by_cases hs:cG t (r++[a])=false
  ·rw [if_pos hs] at h
   exact absurd h.symm hn
  ·have hs':cG t (r++[a])=true:=by simpa using hs
   have hit:It t a:=by
    unfold cG at hs'
    rw [Bool.and_eq_true,List.all_eq_true] at hs'
    exact ME.1 (hs'.2 a (by simp))
   rw [if_neg hs] at h ⊢
   rw [if_neg hs]
   refine ⟨r,a,rfl,hit,?_⟩
   by_cases h1:a.2.1<(nY t a.1).1
   ·rw [if_pos h1] at h ⊢
    rw [if_pos h1]
    exact .inl ⟨h.symm,rfl⟩
   ·rw [if_neg h1] at h ⊢
    rw [if_neg h1]
    by_cases h2:a.2.2<((nY t a.1).2.length:Int)
    ·rw [if_pos h2] at h ⊢
     rw [if_pos h2]
     refine .inr (.inl ⟨h.symm,rfl,?_⟩)
     have:=hit.c0
     unfold oA
     rw [List.getElem?_eq_getElem (by omega)]
     rfl
    ·rw [if_neg h2] at h ⊢
     rw [if_neg h2]
     exact .inr (.inr ⟨h.symm,rfl,rfl,by unfold oA;omega⟩)
theorem QT (s:List Int):0≤mE s∧mE s≤s.length:=by
 unfold mE
 have:=List.countP_le_length (p:=rT) (l:=s)
 omega
theorem XG (S:List SB):pdS S≤S.length:=by
 have key:∀ (n:Nat) (S:List SB),fl (fun _ x=>pdB x) n S≤S.length:=by
  intro n S
  induction S generalizing n with
  | nil=>exact Nat.le_refl _
  | cons x l ih=>
   rw [fl,List.length_cons]
   have h1:=ih (n+1)
   have h2:pdB x≤1:=by unfold pdB;split <;> omega
   omega
 exact key 0 S
theorem KG {s:List Int} (h:mE s=0):FH s=true:=(UU s).2 h
theorem EE {t:TK} {s s':List Int} {e:EV} (h:gE t s e=(s',true)):mE s'=mE s+evD e:=by
 have:=O1 (t:=t) (s:=s) (e:=e) (by rw [h])
 rw [h] at this
 exact this
theorem YR {t:TK} {s s':List Int} {e:EV} (hf:iT t s=true) (h:gE t s e=(s',true)):iT t s'=true:=by
 have:=QK (e:=e) hf
 rw [h] at this
 exact this
theorem ev0 (e k:Int):evC e [] k=0:=rfl
theorem IH {e a j w k:Int} (h:a≠e):evC e [(a,j,w)] k=0:=by rw [lg,if_neg (fun g=>h g.1)]
theorem OT {e a j w o v k:Int} (h:a≠e) (h2:(5:Int)≠e):evC e [(a,j,w),(5,o,v)] k=0:=by
 refine List.countP_eq_zero.2 fun v hv => ?_
 rcases List.mem_cons.1 hv with rfl | hv
 ·simp [h]
 ·rw [List.mem_singleton.1 hv]
  simp [h2]
theorem Ky {e j w k:Int}:evC e [(e,j,w)] k=if j=k then 1 else 0:=by
 rw [lg]
 by_cases h:j=k
 ·rw [if_pos ⟨rfl,h⟩,if_pos h]
 ·rw [if_neg (fun g=>h g.2),if_neg h]
structure IdleOk (m m':List Int) (s s':List Int) (evs:List EV):Prop where
 idle:(∃ e ∈ evs,e.1=5)↔ah m 0≠0∧ah m' 0=0
 calm:(∃ e ∈ evs,e.1=5)→FH s'=true
theorem oT {m m' s s':List Int} {evs:List EV} (h:∀ e ∈ evs,e.1≠5) (h2:ah m 0=0∨ah m' 0≠0):IdleOk m m' s s' evs:=by
 have hn:¬ ∃ e ∈ evs,e.1=5:=fun ⟨e,he,e5⟩=>h e he e5
 exact ⟨⟨fun h=>absurd h hn,fun h=>by rcases h2 with h2 | h2 <;> omega⟩,fun h=>absurd h hn⟩
theorem Lz {m m' s s':List Int} {evs:List EV} (h:∃ e ∈ evs,e.1=5) (h1:ah m 0≠0) (h2:ah m' 0=0) (h3:FH s'=true):IdleOk m m' s s' evs:=
 ⟨⟨fun _=>⟨h1,h2⟩,fun _=>h⟩,fun _=>h3⟩
theorem Qf {n:Nat} {c:CF} {m m':List Int} {W:List WB} {S:List SB} (hW:(W.length:Int)=c.1) (hA:MstA n c m W S) (ie:InjEq c m m') (du:∀ u,0≤u→u<c.1→DEq c m m' u):MstA (n+1) c m' W S∧∀ k,pB c m' W k=pB c m W k:=by
 have hlt:∀ {j:Nat} {a:WB},W[j]? = some a→(j:Int)<c.1:=fun ha=>by
  have:=(List.getElem?_eq_some_iff.1 ha).1
  omega
 refine ⟨⟨ie.inj hA.inj,by rw [ie.t];have:=hA.b5;omega,fun j a ha=>(du j (by omega) (hlt ha)).owq (Nat.le_succ n) (hA.q j a ha),fun a ha => ?_,fun a ha e => ?_,fun a ha => ?_⟩,fun k => ?_⟩
 ·have h:=hA.i a ha
  exact ⟨fun e=>ie.dfr (h.de e),fun e=>ie.efr (h.en e),h.ev⟩
 ·obtain ⟨w0,w1,w2⟩:=hA.th a ha e
  refine ⟨w0,w1,fun b hb => ?_⟩
  have hD:=du _ w0 w1
  rw [hD.hi]
  exact (w2 b hb).stay hD.t fun h=>⟨h,hD.s _⟩
 ·have h:=hA.s a ha
  exact ⟨fun e=>⟨ie.efr (h.1 e).1,(h.1 e).2⟩,h.2⟩
 ·have h1:wc c m' W k=wc c m W k:=m8 rfl fun j a b ha hb=>by
   rw [ha] at hb
   cases hb
   unfold hdW
   split
   ·rename_i e
    refine DEq.hdp ?_ k
    rw [((hA.q j a ha).po e).who]
    exact du j (by omega) (hlt ha)
   ·split
    ·exact ie.hd _ k
    ·rfl
  have h2:Aq c m' W k=Aq c m W k:=m8 rfl fun j a b ha hb=>by
   rw [ha] at hb
   cases hb
   have hD:=du j (by omega) (hlt ha)
   rw [Nat.zero_add,hD.hi,hD.n]
  unfold pB
  rw [h1,h2,ie.n]
section
variable {n:Nat} {p:PB} {k:PK} {s:List Int}
theorem U3 (hg:Good n p) (hm:fx p=true) (hk:Db k p.1.1 p.2.2.2.2.length=true) (hn:n+1≤1000000) (h:MstP n p s):∃ s',Gc p.2.1 (gg p k).2 s=(s',true)∧MstP (n+1) (gg p k).1 s'∧IdleOk p.2.2.1 (gg p k).1.2.2.1 s s' (gg p k).2:=by
 obtain ⟨c,t,m,W,S⟩:=p
 obtain ⟨hc,hW,hS3,hmw,hms⟩:=oh hm
 have hl2:=pW hm
 dsimp only at *
 obtain ⟨hA,hB,hr,hp⟩:=h
 dsimp only at *
 have hf:=hB.fit
 obtain ⟨hmb,hsl⟩:=my hf
 have h30:=CC hmb
 have hbl:=QT s
 have hpl:=XG S
 have hcm:=aC hc
 have nomv:MstP (n+1) (c,t,m,W,S) s:=⟨hA.mono (Nat.le_succ n),hB,hr,hp⟩
 have same0:∀ m':List Int,ah m' 0=ah m 0→∀ s',IdleOk m m' s s' []:=fun m' e s'=>oT (fun _ h=>absurd h List.not_mem_nil) (by omega)
 refine pY (P:=fun r=>∃ s',Gc t r.2 s=(s',true)∧MstP (n+1) r.1 s'∧IdleOk m r.1.2.2.1 s s' r.2) ⟨s,rfl,nomv,same0 m rfl s⟩ (fun x hx hk0 => ?_) (fun x hx hmay => ?_) ?_
 ·have hi0:0≤k.2.1:=by
   unfold Db at hk
   rw [decide_eq_true_eq] at hk
   omega
  have hkk:((k.2.1.toNat:Nat):Int)=k.2.1:=by omega
  have hwm:=hmw _ x hx
  have hl:(m.length:Int)=bN c:=by
   unfold eA at hwm
   simp only [Bool.and_eq_true,decide_eq_true_eq] at hwm
   exact hwm.1.1.1.2
  have hstk:cG t x.2.1=true:=by
   unfold eA at hwm
   simp only [Bool.and_eq_true,decide_eq_true_eq] at hwm
   exact hwm.2
  have hsm:∀ q,0<pB c m W q→0≤q∧q<1000:=fun q hq=>by
   rw [hr] at hq
   split at hq
   ·rename_i e
    have:=o9 (s:=s) (k:=q) (by omega)
    omega
   ·omega
  have hst:=Tv (t:=t) (d:=k.2.2) hc hl hW hg.m hA hx hn hsm
  rw [hkk] at hst
  obtain ⟨hA',hcnt⟩:=hst
  obtain ⟨hpd,hid⟩:=Sb (c:=c) (t:=t) (m:=m) (w:=k.2.1) (d:=k.2.2) hg.m (show 2≤m.length by omega) (hg.w x (List.mem_of_getElem? hx)).f
  dsimp only
  rcases Wv (c:=c) (t:=t) (m:=m) (w:=k.2.1) (x:=x) (d:=k.2.2) with ⟨he,hy⟩ | ⟨j,he,hy⟩ | ⟨hnx,he,hy⟩ | ⟨hnx,hy,he⟩
  ·rw [he] at hpd hcnt ⊢
   have hB':MstB t (W.set k.2.1.toNat (br c t m k.2.1 x k.2.2).2.1) S s:=afp hB hx (by
    rcases hy with hy | ⟨hnx,hy⟩
    ·exact .inl hy
    ·obtain ⟨r,a,e1,_,hh⟩:=F4 hnx (by decide)
     rcases hh with ⟨_,e2⟩ | ⟨e2,_⟩ | ⟨e2,_⟩
     ·exact .inr ⟨r,a,(a.1,a.2.1+1,a.2.2),e1,by rw [hy,e2],rfl,rfl⟩
     ·omega
     ·omega)
   exact ⟨s,rfl,⟨hA',hB',fun q=>by have:=hcnt q;rw [ev0,ev0] at this;rw [← hr q];exact this,hpd.trans hp⟩,same0 _ hpd s⟩
  ·rw [he] at hpd hcnt ⊢
   have hj1:stA s j=1:=by
    have h1:=hcnt j
    rw [Ky,if_pos rfl,IH (by decide),hr j] at h1
    by_cases e:stA s j=1
    ·exact e
    ·rw [if_neg e] at h1;omega
   obtain ⟨j0,j1⟩:=o9 (s:=s) (k:=j) (by omega)
   have hsb:iU t x.2.1 j=x.2.1++[(j,0,0)]:=by
    unfold iU
    rw [if_pos ⟨hstk,j0,by omega⟩]
   have hstep:=acU (w:=k.2.1) hf hj1
   have hbu:=EE hstep
   refine ⟨_,rG hstep,⟨hA',YQ hB hx hj1 (hy.trans hsb),fun q => ?_,?_⟩,?_⟩
   ·have h1:=hcnt q
    rw [Ky,IH (by decide),hr q] at h1
    rw [pi j0 j1]
    by_cases e:q=j
    ·rw [if_pos e.symm,if_pos (by rw [e];exact hj1)] at h1
     rw [if_pos e,if_neg (by decide)]
     dsimp only
     omega
    ·rw [if_neg (show ¬ j=q from fun g=>e g.symm)] at h1
     rw [if_neg e]
     dsimp only
     omega
   ·dsimp only
    rw [hpd,hbu,show evD (2,j,k.2.1)=0 from rfl,Int.add_zero]
    exact hp
   ·exact oT (fun e h=>by rw [List.mem_singleton.1 h];exact (show (2:Int)≠5 by decide)) (by
     by_cases e0:ah m 0=0
     ·exact .inl e0
     ·exact .inr (by rw [hpd];exact e0))
  ·rw [he] at hpd hcnt ⊢
   obtain ⟨r,a,e1,hit,hh⟩:=F4 hnx (by decide)
   have hh':doB t x.2.1=r++[(a.1,a.2.1,a.2.2+1)]∧(oA t a.1)[a.2.2.toNat]? = some (ea t x.2.1).2:=by
    rcases hh with ⟨e2,_⟩ | ⟨_,e2⟩ | ⟨e2,_⟩
    ·omega
    ·exact e2
    ·omega
   obtain ⟨s1,s2,s3,s4,hB'⟩:=ZJ hB hx e1 (hy.trans hh'.1) ⟨rfl,rfl⟩ hit.h0 hit.c0 hh'.2
   have hstep:=ZK (w:=k.2.1) hf s3 s4 s1 s2 (F5 hB hx e1).1
   have hbu:=EE hstep
   have hpd2:ah (br c t m k.2.1 x k.2.2).1 0=ah m 0+1:=by
    rw [hpd]
    show IntKind.u64.wrap (ah m 0+1)=_
    rw [kg]
    omega
   refine ⟨_,rG hstep,⟨hA',hB',fun q => ?_,?_⟩,?_⟩
   ·have h1:=hcnt q
    rw [Ky,IH (by decide),hr q] at h1
    rw [pi s3 (by omega)]
    by_cases e:q=(ea t x.2.1).2
    ·rw [if_pos e.symm,if_neg (by rw [e];omega)] at h1
     rw [if_pos e,if_pos rfl]
     dsimp only
     omega
    ·rw [if_neg (show ¬ (ea t x.2.1).2=q from fun g=>e g.symm)] at h1
     rw [if_neg e]
     dsimp only
     omega
   ·dsimp only
    rw [hpd2,hbu,show evD (3,(ea t x.2.1).2,k.2.1)=1 from rfl]
    omega
   ·exact oT (fun e h=>by rw [List.mem_singleton.1 h];exact (show (3:Int)≠5 by decide)) (.inr (by omega))
  ·obtain ⟨r,a,e1,hit,hh⟩:=F4 hnx (by decide)
   have hh':doB t x.2.1=r∧(ea t x.2.1).2=a.1∧((oA t a.1).length:Int)≤a.2.2:=by
    rcases hh with ⟨e2,_⟩ | ⟨e2,_⟩ | ⟨_,e2⟩
    ·omega
    ·omega
    ·exact e2
   obtain ⟨s1,s2,hB'⟩:=afC (y:=(br c t m k.2.1 x k.2.2).2.1) hB hx (a:=a) (by rw [hy,hh'.1];exact e1) hh'.2.2
   have hstep:=aff (w:=k.2.1) hf s1 s2
   have hbu:=EE hstep
   have hff:=YR hf hstep
   have hd4:evD (4,a.1,k.2.1) = -1:=rfl
   rw [hd4] at hbu
   have hbl2:=QT (s.set a.1.toNat 3)
   obtain ⟨a0,a1⟩:=o9 (s:=s) (k:=a.1) (by omega)
   have hready:∀ q,(if stA s q=1 then 1 else 0:Nat)=if stA (s.set a.1.toNat 3) q=1 then 1 else 0:=fun q=>by
    rw [pi a0 a1]
    by_cases e:q=a.1
    ·rw [if_pos e,if_neg (by rw [e];omega),if_neg (by decide)]
    ·rw [if_neg e]
   rw [hh'.2.1] at he
   have hpd2:ah (br c t m k.2.1 x k.2.2).1 0=ah m 0 - 1:=by
    rw [hpd]
    rcases he with he | he <;> rw [he]
    ·show IntKind.u64.wrap (ah m 0 - 1)=_
     rw [kg]
     omega
    ·show IntKind.u64.wrap (ah m 0 - 1)=_
     rw [kg]
     omega
   have hpend:ah (br c t m k.2.1 x k.2.2).1 0=mE (s.set a.1.toNat 3)+(pdS S:Int):=by omega
   rcases he with he | he
   ·rw [he] at hcnt hid hpd ⊢
    have hne:ah m 0≠1:=fun e=>by
     have:=hid.2 ⟨e,by rw [← hpd,hpd2,e];rfl⟩
     exact absurd this (show ¬ (Ki [(4,a.1,k.2.1)] (ah m 0,false)).2=true from Bool.false_ne_true)
    exact ⟨_,rG hstep,⟨hA',hB',fun q=>by
     have h1:=hcnt q
     rw [IH (by decide),IH (by decide),hr q] at h1
     rw [← hready]
     exact h1,hpend⟩,oT (fun e h=>by rw [List.mem_singleton.1 h];exact (show (4:Int)≠5 by decide)) (.inr (by omega))⟩
   ·rw [he] at hcnt hid ⊢
    have h1:=(hid.1 (show (Ki [(4,a.1,k.2.1),(5,0,k.2.1)] (ah m 0,false)).2=true from rfl)).1
    have hb0:mE (s.set a.1.toNat 3)=0:=by omega
    exact ⟨_,OQ hstep hff (KG hb0),⟨hA',hB',fun q=>by
     have h1:=hcnt q
     rw [OT (by decide) (by decide),OT (by decide) (by decide),hr q] at h1
     rw [← hready]
     exact h1,hpend⟩,Lz ⟨(5,0,k.2.1),by simp,rfl⟩ (by omega) (by omega) (KG hb0)⟩
 ·obtain ⟨_,hml,_⟩:=Co hmay
  obtain ⟨hA',hcnt⟩:=ab3 (t:=t) (w:=k.2.1) hc hml hW hA hx hn
  have hsx:=hg.s x (List.mem_of_getElem? hx)
  have hpS:pdS (S.set k.2.1.toNat (gR c t m k.2.1 x).2.1)+pdB x=pdS S+pdB (gR c t m k.2.1 x).2.1:=pL (g:=fun _ (x:SB)=>pdB x) (y:=(gR c t m k.2.1 x).2.1) hx
  have hpl2:=XG (S.set k.2.1.toNat (gR c t m k.2.1 x).2.1)
  rw [List.length_set] at hpl2
  dsimp only
  rcases Qe (c:=c) (t:=t) (m:=m) (i:=k.2.1) hmay hsx.f (by omega) with ⟨he,hrm,hp0⟩ | ⟨he,hrm,hp0,hpd⟩ | ⟨he,hrm,hp0,hpx,hpy⟩ | ⟨hrm,hp0,hpx,hpy,he⟩
  ·rw [he] at hcnt ⊢
   have hq:ah (gR c t m k.2.1 x).1 0=mE s+(pdS (S.set k.2.1.toNat (gR c t m k.2.1 x).2.1):Int)∧(ah m 0=0∨ah (gR c t m k.2.1 x).1 0≠0):=by
    rcases hp0 with ⟨h1,h2,h3⟩ | ⟨h1,h2⟩
    ·have e:fG (ah m 0) 1=ah m 0+1:=by unfold fG;omega
     rw [h1,e]
     omega
    ·rw [h1]
     omega
   exact ⟨s,rfl,⟨hA',Uy hB hx (.inl hrm),fun q=>by
    have h1:=hcnt q
    rw [ev0,hr q] at h1
    exact h1,hq.1⟩,oT (fun _ h=>absurd h List.not_mem_nil) hq.2⟩
  ·rw [he] at hcnt ⊢
   obtain ⟨hR,h0⟩:=hB.root x (List.mem_of_getElem? hx) (iS x.2.1) (by rw [hrm];simp)
   refine ⟨s,rG (afE hf hR h0),⟨hA',Uy hB hx (.inr ⟨_,hrm⟩),fun q => ?_,?_⟩,oT (fun e h=>by rw [List.mem_singleton.1 h];exact (show (1:Int)≠5 by decide)) ?_⟩
   ·have h1:=hcnt q
    rw [IH (by decide),hr q] at h1
    exact h1
   ·dsimp only
    omega
   ·rw [hp0]
    by_cases e:ah m 0=0
    ·exact .inl e
    ·exact .inr e
  ·rw [he] at hcnt ⊢
   obtain ⟨hR,h0,hB'⟩:=anb hB hx hrm
   have hstep:=akN (w:=k.2.1) hf hR h0
   have hbu:=EE hstep
   rw [show evD (0,iS x.2.1,k.2.1)=1 from rfl] at hbu
   refine ⟨_,rG hstep,⟨hA',hB',fun q => ?_,?_⟩,oT (fun e h=>by rw [List.mem_singleton.1 h];exact (show (0:Int)≠5 by decide)) ?_⟩
   ·have h1:=hcnt q
    rw [Ky,hr q] at h1
    rw [pi hR.1.1 (by have:=hR.1.2;omega)]
    by_cases e:q=iS x.2.1
    ·rw [if_pos e.symm,if_neg (by rw [e];omega)] at h1
     rw [if_pos e,if_pos rfl]
     dsimp only
     omega
    ·rw [if_neg (show ¬ iS x.2.1=q from fun g=>e g.symm)] at h1
     rw [if_neg e]
     dsimp only
     omega
   ·dsimp only
    rw [hp0,hbu]
    omega
   ·rw [hp0]
    by_cases e:ah m 0=0
    ·exact .inl e
    ·exact .inr e
  ·obtain ⟨hR,h0⟩:=hB.root x (List.mem_of_getElem? hx) (iS x.2.1) (by rw [hrm];simp)
   have e1:fG (ah m 0) 18446744073709551615=ah m 0 - 1:=by unfold fG;omega
   rw [e1] at hp0
   have hB':=Uy (y:=(gR c t m k.2.1 x).2.1) hB hx (.inr ⟨_,hrm⟩)
   have hpend:ah (gR c t m k.2.1 x).1 0=mE s+(pdS (S.set k.2.1.toNat (gR c t m k.2.1 x).2.1):Int):=by omega
   have hstep:=afE (w:=k.2.1) hf hR h0
   rcases he with ⟨hm1,he⟩ | ⟨hm1,he⟩
   ·rw [he] at hcnt ⊢
    have hb0:mE s=0:=by omega
    exact ⟨s,OQ hstep hf (KG hb0),⟨hA',hB',fun q=>by
     have h1:=hcnt q
     rw [OT (by decide) (by decide),hr q] at h1
     exact h1,hpend⟩,Lz ⟨(5,0,k.2.1),by simp,rfl⟩ (by omega) (by omega) (KG hb0)⟩
   ·rw [he] at hcnt ⊢
    exact ⟨s,rG hstep,⟨hA',hB',fun q=>by
     have h1:=hcnt q
     rw [IH (by decide),hr q] at h1
     exact h1,hpend⟩,oT (fun e h=>by rw [List.mem_singleton.1 h];exact (show (1:Int)≠5 by decide)) (.inr (by omega))⟩
 ·have hl0:ah (ar m 3 1) 0=ah m 0:=ks (by decide)
  have ie:InjEq c m (ar m 3 1):=gD hc (.inl (by decide))
  have du:∀ u,0≤u→u<c.1→DEq c m (ar m 3 1) u:=fun u u0 u1=>mX hc u0 u1 (by omega)
  obtain ⟨hA',hN⟩:=Qf (n:=n) hW hA ie du
  exact ⟨s,rfl,⟨hA',hB,fun q=>by
   have h1:=hN q
   rw [hr q] at h1
   exact h1,hl0.trans hp⟩,same0 _ hl0 s⟩
end
end Go.Ab
set_option linter.unusedVariables false
namespace Go.Ab
theorem BP {α:Type} {g:Nat→α→Nat}:∀ {n:Nat} {W:List α},(∀ (j:Nat) x,W[j]? = some x→g (n+j) x=0)→fl g n W=0
 | n,[],_=>rfl
 | n,x::l,h=>by
  rw [fl,BP (n:=n+1) (W:=l) fun j z hz=>by
   have:=h (j+1) z hz
   rw [show n+1+j=n+(j+1) by omega]
   exact this]
  have:=h 0 x rfl
  rw [Nat.add_zero] at this
  rw [this]
theorem FI {t:TK} (k:Int):stA (KO t) k=0:=by
 unfold stA KO
 split
 ·split
  ·rw [List.getElem?_replicate]
   split <;> rfl
  ·simp
 ·rfl
theorem Zi {c:CF} {t:TK} {roots:List (List Int)} (hc:dj c=true) (hm:nQ t=true) (hr:∀ l ∈ roots,∀ y ∈ l,RtB t y) (hd:roots.flatten.Nodup):MstP 0 (Fh c t roots) (KO t):=by
 have hcm:=aC hc
 have key:∀ (i:Nat) x,(nI c.1.toNat)[i]? = some x→x=GH i∧(i:Int)<c.1:=by
  intro i x hx
  unfold nI at hx
  rw [List.getElem?_map,Option.map_eq_some_iff] at hx
  obtain ⟨j,hj,rfl⟩:=hx
  obtain ⟨hi,rfl⟩:=List.getElem?_eq_some_iff.1 hj
  rw [List.getElem_range]
  rw [List.length_range] at hi
  exact ⟨rfl,by omega⟩
 have keyM:∀ x ∈ nI c.1.toNat,∃ i,x=GH i:=fun x hx=>by
  obtain ⟨i,hi⟩:=List.mem_iff_getElem?.1 hx
  exact ⟨i,(key i x hi).1⟩
 have keyS:∀ x ∈ lc roots,∃ l ∈ roots,x=(0,l,dx):=fun x hx=>by
  unfold lc at hx
  obtain ⟨l,hl,rfl⟩:=List.mem_map.1 hx
  exact ⟨l,hl,rfl⟩
 have z:∀ i,ah (List.replicate (bN c).toNat 0) i=0:=fun i=>Rb _ i
 generalize hM:List.replicate (bN c).toNat (0:Int)=M at z
 have hp:Fh c t roots=(c,t,M,nI c.1.toNat,lc roots):=by rw [← hM];rfl
 rw [hp]
 have hT:∀ v,dT c M v=0:=fun v=>z _
 have hBt:∀ v,dB c M v=0:=fun v=>z _
 have hiz:∀ (v:Int) (i:Nat),hiW c M v (GH i)=0:=fun v i=>by
  unfold hiW
  rw [if_pos (show (GH i).1=0 from rfl)]
  exact hBt v
 have sz:∀ {g:Nat→WB→Nat},(∀ j,g j (GH j)=0)→fl g 0 (nI c.1.toNat)=0:=fun h=>BP fun j x hx=>by
  rw [(key j x hx).1,Nat.zero_add]
  exact h j
 have ss:∀ {g:Nat→SB→Nat},(∀ j l,g j (0,l,dx)=0)→fl g 0 (lc roots)=0:=fun h=>BP fun j x hx=>by
  obtain ⟨l,_,rfl⟩:=keyS x (List.mem_of_getElem? hx)
  exact h _ l
 have lap0:∀ x,0≤x→0≤dF c x:=fun x h=>(wz hc h).1
 have sq0:∀ x,sqI c M x=0:=fun x=>z _
 refine ⟨⟨⟨?_,?_,?_,fun x a b => ?_,fun x a=>⟨?_,?_⟩,fun x a b => ?_,fun x a=>⟨?_,?_⟩⟩,?_,fun i x hx => ?_,fun x hx => ?_,fun x hx e => ?_,fun x hx => ?_⟩,⟨Vg hm,fun k => ?_,fun x hx a ha => ?_,fun q k _ _ _=>FI k,fun x hx r hr' => ?_,fun r => ?_⟩,fun k => ?_,?_⟩
 ·dsimp only;rw [z];exact Int.le_refl _
 ·dsimp only;rw [z,z];exact Int.le_refl _
 ·dsimp only;rw [z];decide
 ·dsimp only at b;rw [z] at b;omega
 ·dsimp only
  rw [sz fun j=>rfl,ss fun j l=>rfl]
 ·dsimp only at a ⊢
  rw [z] at a
  have:=lap0 x a
  rw [sq0]
  omega
 ·dsimp only at b;rw [z] at b;omega
 ·exact sz fun j=>rfl
 ·dsimp only at a ⊢
  rw [z] at a
  have:=lap0 x a
  rw [sq0]
  omega
 ·dsimp only;rw [z];exact Int.le_refl _
 ·obtain ⟨rfl,hi⟩:=key i x hx
  refine ⟨?_,?_,fun _=>⟨rfl,rfl,rfl,show (0:Int)≤0∧(0:Int)≤6 by decide,fun h=>absurd h (show ¬ (0:Int)=1 by decide),fun h=>absurd h (show ¬ (2:Int)≤0 by decide),fun h=>absurd h (show ¬ ((0:Int)=3∨(0:Int)=4) by decide),fun h=>absurd h (show ¬ (0:Int)=4 by decide),fun h=>absurd h (show ¬ ((0:Int)=5∨(0:Int)=6) by decide)⟩,fun h=>absurd h (show ¬ (0:Int)=11 by decide)⟩
  ·dsimp only
   rw [hiz]
   exact ⟨by rw [hT];decide,by rw [hT];decide,by rw [hT];omega,by decide⟩
  ·dsimp only
   rw [hiz]
   decide
 ·obtain ⟨i,rfl⟩:=keyM x hx
  exact ⟨fun h=>absurd h (show ¬ (0:Int)=2 by decide),fun h=>absurd h (show ¬ (0:Int)=12 by decide),fun h=>absurd h (show ¬ ((0:Int)=5∨(0:Int)=6∨(0:Int)=7∨(0:Int)=8∨(0:Int)=14) by decide)⟩
 ·obtain ⟨i,rfl⟩:=keyM x hx
  exact absurd e (show ¬ (0:Int)=3 by decide)
 ·obtain ⟨l,_,rfl⟩:=keyS x hx
  exact ⟨fun h=>absurd h (show ¬ (0:Int)=2 by decide),fun h=>absurd h (show ¬ (0:Int)=4 by decide)⟩
 ·dsimp only
  rw [FI,if_neg (by decide)]
  exact sz fun j=>rfl
 ·obtain ⟨i,rfl⟩:=keyM x hx
  cases ha
 ·obtain ⟨l,hl,rfl⟩:=keyS x hx
  exact ⟨hr l hl r hr',FI r⟩
 ·have cnt:∀ (n:Nat) (L:List (List Int)),fl (fun _ (x:SB)=>(pR x).count r) n (lc L)=L.flatten.count r:=by
   intro n L
   induction L generalizing n with
   | nil=>rfl
   | cons l L ih=>
    have e:lc (l::L)=(0,l,dx)::lc L:=rfl
    rw [e,fl,ih (n+1),List.flatten_cons,List.count_append]
    rfl
  have:=cnt 0 roots
  unfold adw
  dsimp only
  rw [this]
  exact List.nodup_iff_count.1 hd r
 ·dsimp only
  rw [FI,if_neg (by decide)]
  unfold pB wc Aq pU
  rw [sz fun j => ?_,sz fun j => ?_,z,z]
  ·rfl
  ·rw [hiz]
   exact ab4 (by rw [hT];decide)
  ·rfl
 ·dsimp only
  rw [z,Wo]
  unfold pdS
  rw [ss fun j l=>rfl]
  rfl
theorem EM:∀ {l:List PK} {p:PB} {n:Nat} {s:List Int},Good n p→fx p=true→n+l.length≤1000000→MstP n p s→∃ s',Gc p.2.1 (oY p l).2 s=(s',true)∧MstP (n+l.length) (oY p l).1 s'
 | [],p,n,s,_,_,_,h=>⟨s,rfl,h⟩
 | k::l,p,n,s,hg,hm,hn,h=>by
  rw [List.length_cons] at hn
  rw [oY]
  split
  ·rename_i hk
   obtain ⟨s1,h1,h2,_⟩:=U3 hg hm hk (by omega) h
   obtain ⟨s2,h3,h4⟩:=EM (l:=l) (Cb (k:=k) hg (oh hm).1) (AD hm hk) (by omega) h2
   rw [Cy.2.1] at h3
   refine ⟨s2,?_,?_⟩
   ·dsimp only
    rw [nX,h1,if_pos rfl]
    exact h3
   ·dsimp only
    rw [List.length_cons,show n+(l.length+1)=n+1+l.length by omega]
    exact h4
  ·obtain ⟨s2,h3,h4⟩:=EM (l:=l) hg hm (by omega) h
   refine ⟨s2,h3,?_⟩
   rw [List.length_cons]
   obtain ⟨a,b,d,e⟩:=h4
   exact ⟨a.mono (by omega),b,d,e⟩
end Go.Ab
set_option linter.unusedVariables false
set_option linter.unusedSimpArgs false
namespace Go.Ab
def Ap:List Int→List PK
 | a::b::c::r=>(a%4,b,c)::Ap r
 | _=>[]
def Wby (l:List Int):Prop:=∀ x ∈ l,0≤x∧x≤255
theorem JD:∀ l:List Int,3*(Ap l).length≤l.length
 | []=>Nat.le_refl _
 | [_]=>by simp [Ap]
 | [_,_]=>by simp [Ap]
 | a::b::c::r=>by
  have:=JD r
  simp only [Ap,List.length_cons]
  omega
theorem XB:∀ {l:List Int},Wby l→Wp (Ap l)
 | [],_=>fun x hx=>by simp [Ap] at hx
 | [_],_=>fun x hx=>by simp [Ap] at hx
 | [_,_],_=>fun x hx=>by simp [Ap] at hx
 | a::b::c::r,h=>fun x hx=>by
  rw [Ap] at hx
  rcases List.mem_cons.1 hx with rfl | hx
  ·have:=h c (by simp)
   exact ⟨this.1,Int.le_trans this.2 (by decide)⟩
  ·exact XB (l:=r) (fun y hy=>h y (by simp [hy])) x hx
section
variable {k:Nat} (hk:10000≤k) {b:List Int} (hb:Wby b) (hl:b.length≤2000)
include hk hb hl
theorem Ux:∀ (n i:Nat) (r:List Int) (acc:List PK) (e:Nat),b.drop i=r→i≤b.length+3→r.length<n→(e=3∨e=0)→acc.length≤i →
  ct k b n (i:Int) e acc=some (acc++Ap r):=by
 have _h:=hk
 intro n
 induction n with
 | zero=>intro i r acc e _ _ h;omega
 | succ n ih=>
  intro i r acc e hr hi hn he ha
  have hes:(e==3||e==0)=true:=by rcases he with rfl | rfl <;> rfl
  have hw:IntKind.i64.wrap ((i:Int)+3)=(i:Int)+3:=fw (by omega)
  rw [ct]
  by_cases h0:i<b.length
  ·have hrl:r.length=b.length - i:=by rw [← hr,List.length_drop]
   rw [ltN h0,cond_true,decide_eq_true (show (0:Int)≤(i:Int)∧(i:Int)≤(b.length:Int) by omega),cond_true]
   simp only [Int.toNat_natCast,hr]
   have fin:∀ r':List Int,b.drop (i+3)=r'→r'.length<n→∀ acc' e',(e'=3∨e'=0)→acc'.length≤i+3→ct k b n ((i:Int)+3) e' acc'=some (acc'++Ap r'):=fun r' h1 h2 acc' e' h3 h4=>by
    rw [show (i:Int)+3=((i+3:Nat):Int) by omega]
    exact ih (i+3) r' acc' e' h1 (by omega) h2 h3 h4
   have hd3:b.drop (i+3)=r.drop 3:=by rw [← hr,List.drop_drop]
   by_cases h3:r.length<3
   ·have hs:(bif decide ((r.length:Int)<3) then (r.length:Int) else 3)=(r.length:Int):=by rw [ltT (by omega),cond_true]
    rw [hs,fw (show -9223372036854775808≤(i:Int)+(r.length:Int)∧(i:Int)+(r.length:Int)≤9223372036854775807 by omega)]
    have e1:((i:Int)+(r.length:Int)).toNat=i+r.length:=by omega
    rw [e1,decide_eq_true (by omega),cond_true]
    have ht:(b.take (i+r.length)).drop i=r:=by
     rw [List.take_of_length_le (by omega)]
     exact hr
    rw [ht,nM,decide_eq_false (by omega),cond_false]
    have hrn:Ap r=[]:=by
     rcases r with _ | ⟨x,_ | ⟨y,_ | ⟨z,r⟩⟩⟩
     ·rfl
     ·rfl
     ·rfl
     ·simp at h3;omega
    have hd0:r.drop 3=[]:=List.drop_eq_nil_iff.2 (by omega)
    have:=fin [] (by rw [hd3,hd0]) (by simp;omega) acc e he (by omega)
    rw [hw,this,hrn]
    rfl
   ·have hs:(bif decide ((r.length:Int)<3) then (r.length:Int) else 3)=3:=by rw [ltF (by omega),cond_false]
    rw [hs,fw (show -9223372036854775808≤(i:Int)+3∧(i:Int)+3≤9223372036854775807 by omega)]
    have e1:((i:Int)+3).toNat=i+3:=by omega
    rw [e1,decide_eq_true (by omega),cond_true]
    rcases r with _ | ⟨x,_ | ⟨y,_ | ⟨z,r⟩⟩⟩
    ·simp at h3
    ·simp at h3
    ·simp at h3
    ·have ht:(b.take (i+3)).drop i=[x,y,z]:=by
      rw [List.drop_take,hr,show i+3 - i=3 by omega]
      rfl
     have hx:x ∈ b:=List.mem_of_mem_drop (by rw [hr];simp)
     have hy:y ∈ b:=List.mem_of_mem_drop (by rw [hr];simp)
     have hz:z ∈ b:=List.mem_of_mem_drop (by rw [hr];simp)
     have bx:=hb x hx
     have by':=hb y hy
     have bz:=hb z hz
     simp only [ht]
     rw [show ((([x,y,z]:List Int).length:Int)==3)=true from rfl,cond_true]
     have i0:idx [x,y,z] 0=some x:=rfl
     have i1:idx [x,y,z] 1=some y:=rfl
     have i2:idx [x,y,z] 2=some z:=rfl
     rw [i0,ab,i1,ab,i2,ab,hes,bC,Int.tmod_eq_emod_of_nonneg bx.1]
     have hm:=Int.emod_nonneg x (show (4:Int)≠0 by decide)
     have hm2:=Int.emod_lt_of_pos x (show (0:Int)<4 by decide)
     rw [fw (z:=x%4) (by omega),fw (z:=y) (by omega),mF (z:=z) (by omega) (by omega),As (by rw [List.length_append];simp;omega),cond_true]
     have:=fin r (by rw [hd3];rfl) (by simp at hn;omega) (acc++[(x%4,y,z)]) 3 (.inl rfl) (by rw [List.length_append];simp;omega)
     rw [this,Ap,List.append_assoc]
     rfl
  ·have hr0:r=[]:=by rw [← hr];exact List.drop_eq_nil_iff.2 (by omega)
   rw [ltF (by omega),cond_false,hr0]
   simp [Ap]
theorem V5:iO k b=some (Ap b):=by
 unfold iO
 exact Ux hk hb hl (k+22) 0 b [] 0 rfl (by omega) (by omega) (.inr rfl) (Nat.le_refl _)
end
def f8 (w s:Nat) (d:Int):List PK:=(List.range w).map (fun i:Nat=>((0:Int),(i:Int),d))++(List.range s).map (fun i:Nat=>((1:Int),(i:Int),d))
theorem H8 (w s:Nat) (d:Int):(f8 w s d).length=w+s:=by simp [f8]
theorem TM {w s:Nat} {d:Int} (h:0≤d∧d≤18446744073709551615):Wp (f8 w s d):=by
 intro x hx
 unfold f8 at hx
 rcases List.mem_append.1 hx with hx | hx
 ·obtain ⟨i,_,rfl⟩:=List.mem_map.1 hx
  exact h
 ·obtain ⟨i,_,rfl⟩:=List.mem_map.1 hx
  exact h
section
variable {k:Nat} (hk:100≤k) {w s:Nat} (hw:w≤20) (hs:s≤20) (d:Int)
include hk hw hs
theorem aqc:∀ (r i n e:Nat),i+r=s→r<n→(e=3∨e=0)→dD k w s d n ((List.range w).map (fun i:Nat=>((0:Int),(i:Int),d))++(List.range i).map (fun i:Nat=>((1:Int),(i:Int),d))) e (i:Int)=some (f8 w s d):=by
 have _h:=hk
 intro r
 induction r with
 | zero=>
  intro i n e hi hn he
  obtain ⟨n,rfl⟩:=ki hn
  rw [dD,ltF (by omega),cond_false,show i=s by omega]
  rfl
 | succ r ih=>
  intro i n e hi hn he
  obtain ⟨n,rfl⟩:=ki hn
  have hes:(e==3||e==0)=true:=by rcases he with rfl | rfl <;> rfl
  rw [dD,ltT (by omega),cond_true,hes,bC,As (by simp;omega),cond_true,ga (by omega)]
  have:=ih (i+1) n 3 (by omega) (by omega) (.inl rfl)
  rw [List.range_succ,List.map_append] at this
  rw [List.append_assoc]
  exact this
theorem apW:∀ (r i n e:Nat),i+r=w→r<n→(e=3∨e=0)→dr k w s d n ((List.range i).map (fun i:Nat=>((0:Int),(i:Int),d))) (i:Int) e=some (f8 w s d):=by
 intro r
 induction r with
 | zero=>
  intro i n e hi hn he
  obtain ⟨n,rfl⟩:=ki hn
  rw [dr,ltF (by omega),cond_false,show i=w by omega]
  have:=aqc hk hw hs d s 0 (k+1) e (by omega) (by omega) he
  rw [List.range_zero,List.map_nil,List.append_nil] at this
  exact this
 | succ r ih=>
  intro i n e hi hn he
  obtain ⟨n,rfl⟩:=ki hn
  have hes:(e==3||e==0)=true:=by rcases he with rfl | rfl <;> rfl
  rw [dr,ltT (by omega),cond_true,hes,bC,As (by simp;omega),cond_true,ga (by omega)]
  have:=ih (i+1) n 3 (by omega) (by omega) (.inl rfl)
  rw [List.range_succ,List.map_append] at this
  exact this
theorem acs:gL k w s d=some (f8 w s d):=by
 unfold gL
 rw [I4,ab,decide_eq_true (by omega),Bool.not_true,cond_false,I4,ab,decide_eq_true (by omega),Bool.not_true,cond_false]
 exact apW hk hw hs d w 0 (k+1) 0 (by omega) (by omega) (.inr rfl)
end
def OU (c:CF) (m:List Int):Nat→List WB→Bool
 | _,[]=>true
 | i,x::l=>ah7 x&&decide (ah m (f6 c i)=0)&&OU c m (i+1) l
def adM (p:PB):Bool:=fx p && !(p.2.2.2.2.any fun x => !decide (x.1=0))&&OU p.1 p.2.2.1 0 p.2.2.2.1
def TA (p:PB):Bool:=adM p&&decide (ah p.2.2.1 0=0) && !(p.2.2.2.2.any fun x=>decide (0<(x.2.1.length:Int)))
theorem ZY (x:SB):iy x=some (!decide (x.1=0)):=by
 unfold iy
 rw [E0]
theorem XM (k:Nat) (hk:100≤k) {S:List SB} (hS:S.length≤20):aQ k S=some (S.any fun x => !decide (x.1=0)):=by
 unfold aQ bc
 have h:au (k+8) S (k+8+8) 0=some (Jo (fun x => !decide (x.1=0)) S 0):=by
  refine C4 (F:=fun n i=>au (k+8) S n i) (l:=S) _ ?_ ?_ _ (by omega)
  ·intro n
   simp only [au,pd,cond_false]
  ·intro n i x hi hx
   simp only [au,ltN hi,cond_true,fA hx,ab,Prod.eta,ZY]
   rw [ga (by omega)]
 rw [h,ab,mV]
theorem acz (k:Nat) (hk:100≤k) {S:List SB} (hS:S.length≤20):aP k S=some (S.any fun x=>decide (0<(x.2.1.length:Int))):=by
 unfold aP aZ
 have h:ao (k+8) S (k+8+8) 0=some (Jo (fun x=>decide (0<(x.2.1.length:Int))) S 0):=by
  refine C4 (F:=fun n i=>ao (k+8) S n i) (l:=S) _ ?_ ?_ _ (by omega)
  ·intro n
   simp only [ao,pd,cond_false]
  ·intro n i x hi hx
   simp only [ao,ltN hi,cond_true,fA hx,ab,ic]
   rw [ga (by omega)]
 rw [h,ab,mV]
section
variable {k:Nat} (hk:9223372036854779000≤k) {p:PB} (ht:Wt p.2.1) (hw:∀ x ∈ p.2.2.2.1,x.2.1.length≤9000) (hs:∀ x ∈ p.2.2.2.2,x.2.1.length≤1000)
include hk ht hw hs
theorem U6:iz k p=some (adM p):=by
 unfold iz adM
 rw [LY hk ht hw hs,ab]
 cases hm:fx p with
 | false=>rfl
 | true=>
  obtain ⟨h1,h2,h3,h4,h5⟩:=oh hm
  have hc:=aC h1
  rw [Bool.not_true,cond_false,XM _ (by omega) (by omega),ab]
  cases p.2.2.2.2.any fun x => !decide (x.1=0) with
  | true=>rfl
  | false=>
   rw [cond_false,Bool.not_false,Bool.and_true,Bool.true_and]
   have key:∀ (r:List WB) (q n:Nat),p.2.2.2.1.drop q=r→q≤p.2.2.2.1.length→r.length<n→cV k p n (q:Int)=some (OU p.1 p.2.2.1 q r):=by
    intro r
    induction r with
    | nil=>
     intro q n hr hq hn
     obtain ⟨n,rfl⟩:=ki hn
     have:=eb hr
     rw [cV,ltF (by omega),cond_false,OU]
    | cons v r ih=>
     intro q n hr hq hn
     obtain ⟨n,rfl⟩:=ki hn
     obtain ⟨g0,g1,g2,_,g4⟩:=cX hr
     have hlay:fX p.1 (q:Int)=some (f6 p.1 (q:Int)):=Lx p.1 _
     rw [cV,ltN g0,cond_true,fA g1,ab]
     simp only [Prod.eta,NG,ab,hlay,ff]
     rw [OU,ga (by omega),ih (q+1) n g2 (by omega) (by simp only [List.length_cons] at hn;omega),E0]
     cases ah7 v with
     | false=>rfl
     | true=>
      by_cases h:ah p.2.2.1 (f6 p.1 q)=0
      ·rw [decide_eq_true h];rfl
      ·rw [decide_eq_false h];rfl
   have:=key p.2.2.2.1 0 (k+35) rfl (Nat.zero_le _) (by omega)
   exact this
theorem Sw:ip k p=some (TA p):=by
 unfold ip TA
 rw [U6 hk ht hw hs,ab]
 cases ha:adM p with
 | false=>rfl
 | true=>
  have hm:fx p=true:=by
   unfold adM at ha
   simp only [Bool.and_eq_true] at ha
   exact ha.1.1
  obtain ⟨h1,h2,h3,h4,h5⟩:=oh hm
  rw [cond_true,ff,ab,nM]
  by_cases h:ah p.2.2.1 0=0
  ·rw [decide_eq_true h,cond_true,acz _ (by omega) (by omega),ab]
   rfl
  ·rw [decide_eq_false h]
   rfl
end
end Go.Ab
set_option linter.unusedVariables false
set_option linter.unusedSimpArgs false
namespace Go.Ab
def RlK {A B:Type} (x:Option (A×B)) (y:Option (A×B×Nat)):Prop:=∀ r,x=some r→∃ e,(e=3∨e=0)∧y=some (r.1,r.2,e)
section
variable {A B C:Type}
theorem RlK.non {y:Option (A×B×Nat)}:RlK none y:=fun r h=>by cases h
theorem RlK.fin (a:A) (b:B) {e:Nat} (h:e=3∨e=0):RlK (some (a,b)) (some (a,b,e)):=fun r hr=>by cases hr;exact ⟨e,h,rfl⟩
theorem RlK.ob {a:Option C} {f:C→Option (A×B)} {g:C→Option (A×B×Nat)} (h:∀ x,RlK (f x) (g x)):RlK (ob a f) (ob a g):=by
 cases a with
 | none=>exact .non
 | some x=>rw [ab,ab];exact h x
theorem RlK.cond {c:Bool} {x x':Option (A×B)} {y y':Option (A×B×Nat)} (h:RlK x y) (h':RlK x' y'):RlK (bif c then x else x') (bif c then y else y'):=by
 cases c
 ·exact h'
 ·exact h
theorem RlK.ck {c:Bool} {x:Option (A×B)} {y:Option (A×B×Nat)} (h:RlK x y):RlK (ck c x) (ck c y):=by
 cases c
 ·exact fun r hr=>by cases hr
 ·rw [bC,bC];exact h
end
theorem Yl (k:Nat) (p:PB) (l:List PK):∀ (n:Nat) (a b c d:Int) (t:Tyt) (W0:List WB) (S0:List SB) (W:List WB) (S:List SB) (evs:List EV) (q:Int) (m:List Int) (e:Nat),(e=3∨e=0) →
  RlK (bh k p l n a b c d t W0 S0 W S evs q m e) (bR k p l n a b c d t W0 S0 W S evs q m e):=by
 intro n
 induction n with
 | zero=>intros;exact .non
 | succ n ih=>
  intro a b c d t W0 S0 W S evs q m e he
  rw [bh,bR]
  repeat' first | exact RlK.non | exact RlK.fin _ _ he | exact ih _ _ _ _ _ _ _ _ _ _ _ _ _ (.inl rfl) | exact ih _ _ _ _ _ _ _ _ _ _ _ _ _ he | apply RlK.cond | apply RlK.ck | (refine RlK.ob fun x => ?_)
theorem abz (k:Nat) (p:PB) (l:List PK):RlK (kz k p l) (kx k p l):=by
 unfold kz kx
 repeat' first | exact RlK.non | exact RlK.fin _ _ (.inr rfl) | exact Yl _ _ _ _ _ _ _ _ _ _ _ _ _ _ _ _ _ (.inr rfl) | apply RlK.cond | apply RlK.ck | (refine RlK.ob fun x => ?_)
theorem ahJ {k:Nat} (hk:9223372036854779000≤k) {p:PB} (ht:FwT p.2.1) (hw:∀ x ∈ p.2.2.2.1,x.2.1.length≤9000) (hs:∀ x ∈ p.2.2.2.2,x.2.1.length≤1000) (hW:p.2.2.2.1.length≤20) (hS:p.2.2.2.2.length≤20) (hml:p.2.2.1.length≤1000):fQ k p=some (p,[]):=by
 unfold fQ
 try simp only [Prod.eta]
 rw [I7 _ (by omega) ht,ab,bH (by omega),ab,bH (by omega),ab,bH (by omega),ab]
 have ho:=LL k (by omega) p.1.1 p.1.2.1 p.1.2.2.1 p.1.2.2.2 p.2.1 p.2.2.1 (by omega) hw (by omega) hs p.2.2.2.1 0 (k+61) rfl (Nat.zero_le _) (by omega)
 refine (congrArg (fun z=>ob z _) ho).trans ?_
 rw [ab]
 dsimp only
 rw [decide_eq_true (Nat.le_refl _),bC,decide_eq_true (Nat.le_refl _),bC,LY (by omega) ht.wt hw hs,ab,List.take_length,List.take_length,decide_eq_true (Nat.le_refl _),decide_eq_true (Nat.le_refl _)]
 cases hm:fx p with
 | false=>
  rw [Bool.not_false,cond_true,bC,bC,List.take_length,List.take_length]
 | true=>
  rw [Bool.not_true,cond_false,fp,decide_eq_true (Nat.le_refl _),bC,decide_eq_true (Nat.le_refl _),bC,List.take_length,List.take_length]
def drB:Nat→Nat→PB→PB×List EV×Nat
 | 0,i,p=>(p,[],i)
 | d+1,i,p=>if TA p=true then (p,[],i) else
  let r:=oY p (f8 p.1.1.toNat p.2.2.2.2.length i)
  let q:=drB d (i+1) r.1
  (q.1,r.2++q.2.1,q.2.2)
def Gv (p:PB) (n:Nat):PB×List EV×Nat:=if fx p=true then drB n 0 p else (p,[],0)
theorem LS {p:PB} (hm:fx p=true):p.1.1.toNat≤8∧((p.1.1.toNat:Nat):Int)=p.1.1:=by
 have hc:=aC (oh hm).1
 omega
theorem Good.mono {n m:Nat} {p:PB} (h:Good n p) (hnm:n≤m):Good m p:=⟨h.t,h.tl,h.m,fun x hx=>⟨(h.w x hx).f,Nat.le_trans (h.w x hx).s hnm,(h.w x hx).sp⟩,h.s⟩
section
variable {k:Nat} (hk:9223372036854779100≤k)
include hk
theorem aeR {p:PB} {N:Nat} (hg:Good N p) (hm:fx p=true) {l:List PK} (hd:Wp l) (hl:l.length≤20) (hN:N+l.length≤9000):∃ e,(e=3∨e=0)∧kx k p l=some ((oY p l).1,(oY p l).2,e):=by
 have L:=pW hm
 have h:=aeq (k:=k) (by omega) (l:=l) (by omega) hd hg (by omega) (by omega) (by omega) hN
 unfold ahV at h
 rw [if_pos hm] at h
 exact abz k p l _ h
theorem Oz {p0:PB} {v1:Int} (hv:v1≤5000):∀ (d n i N:Nat) (p:PB) (evs:List EV) (e:Nat),(i:Int)+d=max v1 0→d<n→(e=3∨e=0)→p.1=p0.1→p.2.2.2.2.length=p0.2.2.2.2.length→Good N p→fx p=true→N+11*d≤9000→evs.length≤22*i →
  dn k p0 v1 n p.1.1 p.1.2.1 p.1.2.2.1 p.1.2.2.2 p.2.1 p.2.2.1 p.2.2.2.1 p.2.2.2.2 (i:Int) e evs=some ((drB d i p).1,evs++(drB d i p).2.1,((drB d i p).2.2:Int)):=by
 intro d
 induction d with
 | zero=>
  intro n i N p evs e hi hn he h1 h2 hg hm hN hE
  obtain ⟨n,rfl⟩:=ki hn
  rw [dn]
  have hc:(bif decide ((5000:Int)<v1) then (5000:Int) else v1)=v1:=by rw [ltF (by omega),cond_false]
  rw [hc,ltF (by omega),cond_false,drB,List.append_nil]
 | succ d ih=>
  intro n i N p evs e hi hn he h1 h2 hg hm hN hE
  obtain ⟨n,rfl⟩:=ki hn
  have L:=pW hm
  obtain ⟨b1,b2⟩:=LS hm
  have hc:(bif decide ((5000:Int)<v1) then (5000:Int) else v1)=v1:=by rw [ltF (by omega),cond_false]
  have hes:(e==3||e==0)=true:=by rcases he with rfl | rfl <;> rfl
  have hrd:gL (k+86) p.1.1 (p.2.2.2.2.length:Int) (i:Int)=some (f8 p.1.1.toNat p.2.2.2.2.length i):=by
   have:=acs (k:=k+86) (by omega) (w:=p.1.1.toNat) (s:=p.2.2.2.2.length) (by omega) (by omega) (i:Int)
   rw [b2] at this
   exact this
  rw [dn,hc,ltT (by omega),cond_true,mF (z:=(i:Int)) (by omega) (by omega),← h1,← h2,hrd,ab]
  simp only [Prod.eta]
  rw [Sw (by omega) hg.t.wt (fun x hx=>by have:=(hg.w x hx).s;omega) (fun x hx=>(hg.s x hx).s),ab,drB]
  cases hr:TA p with
  | true=>rw [cond_true,if_pos rfl,List.append_nil]
  | false=>
   rw [cond_false,if_neg (by simp)]
   have hrl:=H8 p.1.1.toNat p.2.2.2.2.length (i:Int)
   obtain ⟨e',he',hrun⟩:=aeR (k:=k+24) (by omega) hg hm (l:=f8 p.1.1.toNat p.2.2.2.2.length (i:Int)) (TM (by omega)) (by omega) (by omega)
   have hev:=BD (l:=f8 p.1.1.toNat p.2.2.2.2.length (i:Int)) (p:=p)
   have hsm:=u6 (l:=f8 p.1.1.toNat p.2.2.2.2.length (i:Int)) (p:=p)
   have hgd:=(pG (l:=f8 p.1.1.toNat p.2.2.2.2.length (i:Int)) hg hm).mono (m:=N+11) (by omega)
   have hmy:=EJ (l:=f8 p.1.1.toNat p.2.2.2.2.length (i:Int)) hm
   rw [hrun,ab,hes,bC]
   generalize oY p (f8 p.1.1.toNat p.2.2.2.2.length (i:Int))=r at hev hsm hgd hmy ⊢
   have hap:(evs++r.2).length≤22*(i+1):=by rw [List.length_append];omega
   dsimp only
   rw [As (by omega),cond_true,ga (by omega)]
   have:=ih n (i+1) (N+11) r.1 (evs++r.2) 3 (by omega) (by omega) (.inl rfl) (by rw [hsm.1,h1]) (by rw [hsm.2.2.2.1,h2]) hgd hmy (by omega) hap
   rw [List.append_assoc] at this
   exact this
theorem abg {p:PB} {N:Nat} (hg:Good N p) (hW:p.2.2.2.1.length≤20) (hS:p.2.2.2.2.length≤20) (hml:p.2.2.1.length≤1000) {v:Int} (hv:v≤5000) (hN:N+11*v.toNat≤9000):fP k p v=some ((Gv p v.toNat).1,(Gv p v.toNat).2.1,((Gv p v.toNat).2.2:Int)):=by
 have hw:∀ x ∈ p.2.2.2.1,x.2.1.length≤9000:=fun x hx=>by have:=(hg.w x hx).s;omega
 have hs:∀ x ∈ p.2.2.2.2,x.2.1.length≤1000:=fun x hx=>(hg.s x hx).s
 unfold fP Gv
 simp only [Prod.eta]
 rw [ahJ (by omega) hg.t hw hs hW hS hml,ab,LY (by omega) hg.t.wt hw hs,ab]
 cases hm:fx p with
 | false=>
  rw [Bool.not_false,cond_true,if_neg (by simp)]
  rfl
 | true=>
  rw [Bool.not_true,cond_false,if_pos rfl]
  have:=Oz (k:=k) hk (p0:=p) (v1:=v) (by omega) v.toNat (k+88) 0 N p [] 0 (by omega) (by omega) (.inr rfl) rfl rfl hg hm (by omega) (Nat.le_refl _)
  rw [List.nil_append] at this
  exact this
theorem abm (c:CF) {t:Tyt} (ht:FwT t) {roots:List (List Int)} (hr:∀ l ∈ roots,l.length≤60) {b:List Int} (hb:Wby b) (hl:b.length≤2000) :
  i6 k c t roots b=some (QN,[],false)∨i6 k c t roots b=some ((oY (Fh c t roots) (Ap b)).1,(oY (Fh c t roots) (Ap b)).2,true)∧dj c=true∧nQ t=true∧roots.length≤3∧(∀ l ∈ roots,∀ y ∈ l,RtB t y)∧roots.flatten.Nodup:=by
 unfold i6
 simp only [Prod.eta]
 rcases aaO (k:=k+41) (by omega) c ht (roots:=roots) (fun x hx=>by have:=hr x hx;omega) with h | ⟨h,hc,ht2,h3,hr'⟩
 ·rw [h,ab]
  exact .inl rfl
 ·refine .inr ⟨?_,hc,ht2,h3,hr'⟩
  have g0:=Mi (c:=c) ht hr
  have m0:=P4 hc ht2 h3 (fun l hl y hy=>(hr'.1 l hl y hy).1)
  have L:=pW m0
  have hd:=JD b
  rw [h,ab,Bool.not_true,cond_false,V5 (by omega) hb hl,ab,aeq (by omega) (by omega) (XB hb) g0 (by omega) (by omega) (by omega) (by omega)]
  unfold ahV
  rw [if_pos m0,ab]
end
end Go.Ab
set_option maxRecDepth 100000
set_option linter.unusedVariables false
namespace Go.Ab
theorem X3 (x:Int):gm x=some (ac0 x):=by
 unfold gm ac0
 cases decide (x<0) <;> rfl
theorem ab5 (x:Int):gk x=some (rT x):=by
 unfold gk rT
 cases x==1 <;> rfl
theorem Su {t:Tyt} {s:List Int} (h:iT t s=true):nQ t=true∧s.length=t.length:=by
 simp only [iT,Bool.and_eq_true,beq_iff_eq] at h
 exact h.1
theorem VA (t:Tyt):(KO t).length≤30:=by
 unfold KO
 split
 ·rename_i h
  simpa using CC h
 ·simp
section
variable (k:Nat) (hk:9223372036854775808≤k)
include hk
theorem afO (t:Tyt) (ht:Wt t):md k t=some (KO t):=by
 rw [md,EW k hk t ht,ab,KO]
 cases hm:nQ t with
 | false=>rfl
 | true=>
  have h30:=CC hm
  have h3:decide ((0:Int)≤(t.length:Int)∧(t.length:Int)≤9223372036854775807∧(t.length:Int)*8≤70368744177664)=true:=by simp;omega
  rw [h3]
  rfl
theorem afl (s:List Int) (hs:s.length≤9223372036854775807):kT k s=some (FH s):=by
 rw [kT,a9,bl,C4 (F:=fun n i=>aH (k+8) s n i) (l:=s) rT ?_ ?_ _ (by omega),ab,mV,ab]
 ·rfl
 ·intro n
  simp only [aH,pd,cond_false]
 ·intro n i x hi hx
  simp only [aH,ltN hi,cond_true,fA hx,ab,ab5]
  rw [ga (by omega)]
theorem ade (t:Tyt) (ht:Wt t) (s:List Int) (hs:s.length≤9223372036854775807):kK k t s=some (iT t s):=by
 rw [kK,EW k hk t ht,ab,a8,bk,C4 (F:=fun n i=>aG (k+1+8) s n i) (l:=s) ac0 ?_ ?_ _ (by omega),ab,mV,ab,iT,aiz]
 ·have e:(s.length==t.length)=decide (s.length=t.length):=by
   by_cases h:s.length=t.length <;> simp [h]
  rw [e]
  cases nQ t <;> cases decide (s.length=t.length) <;> rfl
 ·intro n
  simp only [aG,pd,cond_false]
 ·intro n i x hi hx
  simp only [aG,ltN hi,cond_true,fA hx,ab,X3]
  rw [ga (by omega)]
theorem adk (t:Tyt) (ht:Wt t) (s:List Int) (hs:s.length≤1048576) (e:Int×Int×Int):kX k t s e=some (gE t s e):=by
 rw [kX,Kh 8 s (by omega),ab,ade (k+1) (by omega) t ht s (by omega),ab,gE]
 cases hf:iT t s with
 | false=>rfl
 | true=>
  obtain ⟨hm,hl⟩:=Su hf
  have hM:=B4 hm
  obtain ⟨kd,q,w⟩:=e
  rw [Bool.not_true,cond_false,if_neg (show ¬ (true=false) by simp),nM]
  simp only
  by_cases h5:kd=5
  ·rw [decide_eq_true h5,cond_true,if_pos h5,afl (k+2) (by omega) s (by omega),ab]
  ·rw [decide_eq_false h5,cond_false,if_neg h5]
   by_cases h0:q<0
   ·rw [ltT h0,if_pos (.inl h0)];rfl
   ·by_cases h1:(t.length:Int)≤q
    ·rw [ltF (by omega),leT h1,if_pos (.inr h1)];rfl
    ·have hx:s[q.toNat]? = some s[q.toNat]:=List.getElem?_eq_getElem (by omega)
     have hix:idx s q=some s[q.toNat]:=by rw [idx,if_pos (by omega),hx]
     have hd:decide ((0:Int)≤q∧q.toNat<s.length)=true:=by simp;omega
     have htx:t[q.toNat]? = some t[q.toNat]:=List.getElem?_eq_getElem (by omega)
     have hit:idx t q=some t[q.toNat]:=by rw [idx,if_pos (by omega),htx]
     rw [ltF (by omega),leF (by omega),cond_false,cond_false,if_neg (by omega),Hr (k:=k) (by omega) t ht,ab]
     simp only [hix,ab,hd,hx,cond_true,nM,E0,CR,Option.getD_some]
     by_cases k0:kd=0
     ·subst k0
      by_cases a:s[q.toNat]=0 <;> by_cases b:dE t q<0 <;> simp [a,b]
     by_cases k1:kd=1
     ·subst k1
      by_cases a:s[q.toNat]=0 <;> by_cases b:dE t q<0 <;> simp [a,b]
     by_cases k3:kd=3
     ·subst k3
      by_cases a:s[q.toNat]=0
      ·by_cases b:0≤dE t q
       ·obtain ⟨y,hy⟩:∃ y,s[(dE t q).toNat]? = some y:=by
         rcases H9 q hm with ⟨c,_⟩ | ⟨o,ho,c⟩
         ·omega
         ·have:=hM.kids _ ho
          simp only at this
          exact ⟨_,List.getElem?_eq_getElem (by omega)⟩
        have hiy:idx s (dE t q)=some y:=by rw [idx,if_pos b,hy]
        rw [hiy]
        by_cases d:y=2 <;> simp [a,b,hy,d,ab]
       ·simp [a,b]
      ·simp [a]
     by_cases k2:kd=2
     ·subst k2
      by_cases a:s[q.toNat]=1 <;> simp [a,ib,ab]
     by_cases k4:kd=4
     ·subst k4
      have hin:∀ i ∈ (t[q.toNat]).2,∃ v,idx s i=some v:=by
       intro i hi
       have hk:=hM.kids (i,((0+q.toNat:Nat):Int)) (ng.2 ⟨q.toNat,_,htx,hi,rfl⟩)
       simp only at hk
       rw [idx,if_pos (by omega)]
       exact ⟨_,List.getElem?_eq_getElem (by omega)⟩
      have hkl:=ht.kids _ (List.getElem_mem (show q.toNat<t.length by omega))
      rw [hit,ab,C4 (F:=fun n i=>cq k n (t[q.toNat]).2 ((t[q.toNat]).2.length:Int) s i) (l:=(t[q.toNat]).2) (fun i=>(idx s i).getD 1==0) ?_ ?_ _ (by omega),ab,mV,htx,Option.getD_some]
      ·by_cases a:s[q.toNat]=2 <;> cases hb:((t[q.toNat]).2.any fun i=>(idx s i).getD 1==0) <;> simp [a]
      ·intro n
       simp only [cq,pd,cond_false]
      ·intro n i x hi hx
       obtain ⟨v,hv⟩:=hin x (List.mem_of_getElem? hx)
       simp only [cq,ltN hi,cond_true,fA hx,hv,ab,Option.getD_some]
       rw [ga (by omega)]
     simp [k0,k1,k2,k3,k4]
theorem amK (t:Tyt) (ht:Wt t) (l:Tye) (hl:l.length≤9223372036854775807):mn k t l=some (VZ t l):=by
 rw [mn,afO (k+2) (by omega) t ht,ab,VZ]
 have hn:=VA t
 have key:∀ r i n s,l.drop i=r→i≤l.length→r.length<n→s.length≤1048576→dW k t l n s true (i:Int)=some (Gc t r s):=by
  intro r
  induction r with
  | nil=>
   intro i n s hr hi hn hs
   obtain ⟨n,rfl⟩:=ki hn
   have:=eb hr
   rw [dW,ltF (by omega),cond_false]
   rfl
  | cons x r ih=>
   intro i n s hr hi hn hs
   obtain ⟨n,rfl⟩:=ki hn
   obtain ⟨a,b,c,d,e⟩:=cX hr
   have hlen:=QX t s x
   rw [dW,ltN a,cond_true,fA b,ab,ga (by omega),adk k hk t ht s hs,ab,Gc]
   cases h:(gE t s (x.1,x.2.1,x.2.2)).2 with
   | false=>rw [Bool.not_false,cond_true,if_neg (by simp)]
   | true=>rw [Bool.not_true,cond_false,if_pos rfl,ih (i+1) n _ c (by omega) (by simp only [List.length_cons] at hn;omega) (by rw [hlen];exact hs)]
 have:=key l 0 (k+22) (KO t) rfl (Nat.zero_le _) (by omega) (by omega)
 simpa using this
theorem Gt (t:Tyt) (ht:Wt t) (l:Tye) (hl:l.length≤9223372036854775807):ed k t l=some ((VZ t l).2&&nQ t):=by
 rw [ed,amK k hk t ht l hl,ab,EW (k+4) (by omega) t ht,ab]
 cases (VZ t l).2 <;> rfl
end
end Go.Ab
set_option linter.unusedVariables false
namespace Go.Ab
theorem My {p:PB} (hm:fx p=true) (i:Nat):(f8 p.1.1.toNat p.2.2.2.2.length (i:Int)).length≤11:=by
 have L:=pW hm
 have hb:=LS hm
 rw [H8]
 omega
theorem Xx:∀ (d i n:Nat) (p:PB) (s:List Int),Good n p→fx p=true→n+11*d≤1000000→MstP n p s →
  ∃ s',Gc p.2.1 (drB d i p).2.1 s=(s',true)∧MstP (n+11*d) (drB d i p).1 s'∧Good (n+11*d) (drB d i p).1∧fx (drB d i p).1=true∧(drB d i p).1.2.1=p.2.1
 | 0,i,n,p,s,hg,hm,hn,h=>⟨s,rfl,h,hg,hm,rfl⟩
 | d+1,i,n,p,s,hg,hm,hn,h=>by
  have up:∀ {k:Nat} {q:PB} {z:List Int},MstP k q z→∀ j,k≤j→MstP j q z:=fun hh j hj=>by
   obtain ⟨a,b,c,e⟩:=hh
   exact ⟨a.mono hj,b,c,e⟩
  have hl:=My hm i
  rw [drB]
  split
  ·exact ⟨s,rfl,up h _ (Nat.le_add_right _ _),hg.mono (Nat.le_add_right _ _),hm,rfl⟩
  ·obtain ⟨s1,h1,h2⟩:=EM (l:=f8 p.1.1.toNat p.2.2.2.2.length (i:Int)) hg hm (by omega) h
   have g1:=(pG (l:=f8 p.1.1.toNat p.2.2.2.2.length (i:Int)) hg hm).mono (m:=n+11) (by omega)
   have m1:=EJ (l:=f8 p.1.1.toNat p.2.2.2.2.length (i:Int)) hm
   have t1:=(u6 (l:=f8 p.1.1.toNat p.2.2.2.2.length (i:Int)) (p:=p)).2.1
   obtain ⟨s2,h3,h4,h5,h6,h7⟩:=Xx d (i+1) (n+11) _ s1 g1 m1 (by omega) (up h2 _ (by omega))
   rw [t1] at h3 h7
   refine ⟨s2,?_,up h4 _ (by omega),h5.mono (by omega),h6,h7⟩
   dsimp only
   rw [nX,h1,if_pos rfl]
   exact h3
end Go.Ab
set_option linter.unusedVariables false
set_option linter.unusedSimpArgs false
namespace Go.Ab
section
variable {k:Nat} (hk:9223372036854779000≤k)
include hk
end
end Go.Ab
namespace Go.Ab
open Go.WideShapes
structure Ll (l:List (List Int)):Prop where
 len:l.length≤9223372036854775807
 each:∀ x ∈ l,x.length≤9223372036854775807
theorem aoN {l:List (List Int)} (hm:l.length≤maxLen) (h:∀ x ∈ l,(∀ n ∈ x,i64 n)∧x.length≤maxLen):Ll l:=⟨aeK hm,fun x hx=>aeK (h x hx).2⟩
end Go.Ab
namespace Go.Ab
open Go.WideShapes
end Go.Ab
namespace Go.Ab
open Go.WideShapes
end Go.Ab
namespace Go.Ab
open Go.WideShapes
end Go.Ab
namespace Go.Ab
open Go.WideShapes
theorem aoa {l:List Int} (h:∀ n ∈ l,(Lit.int .u8 n).wf=true) (hm:l.length≤maxLen):Wby l:=by
 intro x hx
 have h1:IntKind.min .u8=0:=by decide
 have h2:IntKind.max .u8=255:=by decide
 simpa [Lit.wf,h1,h2] using h x hx
end Go.Ab
