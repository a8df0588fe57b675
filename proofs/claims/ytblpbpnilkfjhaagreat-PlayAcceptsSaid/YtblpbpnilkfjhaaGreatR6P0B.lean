import Derived.Test.YtblpbpnilkfjhaaGreatR6P0A
import Derived.Test.YtblpbpnilkfjhaaGreatR6G0A
import Derived.Test.YtblpbpnilkfjhaaGreatR6G0B
import Derived.Test.YtblpbpnilkfjhaaGreatAbLibC
set_option linter.unusedVariables false
set_option linter.unusedSimpArgs false
set_option linter.unusedVariables false
namespace Go.Ab
end Go.Ab
set_option linter.unusedVariables false
namespace Go.Ab
structure Hdr (c:CF) (j:Int):Prop where
 bot:∀ w,I7 c w≠j
 slot:∀ w x,0≤x→x≤18446744073709551615→rS c w x≠j
 seq:∀ x,nH c x≠j
 val:∀ x,CY c x≠j
 park:∀ w,f6 c w≠j
 n0:(0:Int)≠j
 n1:(1:Int)≠j
 n2:(2:Int)≠j
 n3:(3:Int)≠j
 n5:(5:Int)≠j
theorem ZS {c:CF} {w x:Int} (hx:0≤x):onW c w x = -1∨dl c=true∧0≤w∧w<c.1∧onW c w x=6+2*c.2.2.1+(w*(3+c.2.1)+x)∧8≤onW c w x:=by
 unfold onW
 split
 ·rename_i h
  have hm:=aC h.1
  have:=dV h.1 h.2.1 (by omega)
  refine .inr ⟨h.1,h.2.1,h.2.2,?_,by omega⟩
  unfold AD
  omega
 ·exact .inl rfl
theorem aau {c:CF} {w:Int}:f6 c w=onW c w 2:=by
 unfold f6 onW
 rfl
section
variable {c:CF} {m:List Int} {f:FR} {j:Int} (hj:Hdr c j) (hf:Wf f)
include hj hf
end
section
variable {c:CF} {t:Tyt} {m:List Int} {w:Int} {x:WB} {d:Int} {j:Int}
end
structure Ew (c:CF) (m m':List Int) (me:Int):Prop where
 ep:epB (ah m' 2)=epB (ah m 2)∨epB (ah m' 2)=epB (ah m 2)+1
 bit:∀ v,0≤v→v<c.1→v≠me→uE (ah m' 2) v=true→uE (ah m 2) v=true
theorem Ew.same {c:CF} {m m':List Int} {me:Int} (h:ah m' 2=ah m 2):Ew c m m' me:=⟨.inl (by rw [h]),fun v _ _ _ hb=>by rw [h] at hb;exact hb⟩
section
variable {c:CF} {m:List Int} {f:FR} (hc:dl c=true) (hl:(m.length:Int)=bN c) (hm:Wm m) (hf:Wf f)
include hc hl hm hf
end
end Go.Ab
set_option linter.unusedVariables false
namespace Go.Ab
def dG (c:CF) (x:Int):Int:=x/c.2.2.1
def sqI (c:CF) (m:List Int) (x:Int):Int:=ah m (nH c x)
def vlI (c:CF) (m:List Int) (x:Int):Int:=ah m (CY c x)
theorem KW {c:CF} (hc:dl c=true) {x y:Int} (h:x%c.2.2.1=y%c.2.2.1) (hl:x<y):dG c x<dG c y:=by
 have hm:=aC hc
 unfold dG
 have a:=Int.mul_ediv_add_emod x c.2.2.1
 have b:=Int.mul_ediv_add_emod y c.2.2.1
 have hp:c.2.2.1*(x/c.2.2.1)<c.2.2.1*(y/c.2.2.1):=by omega
 exact Int.lt_of_mul_lt_mul_left hp (by omega)
theorem Rh {c:CF} {x y:Int} (h:x%c.2.2.1=y%c.2.2.1) (hl:dG c x=dG c y):x=y:=by
 unfold dG at hl
 have a:=Int.mul_ediv_add_emod x c.2.2.1
 have b:=Int.mul_ediv_add_emod y c.2.2.1
 rw [hl] at a
 omega
theorem wD {c:CF} (hc:dl c=true) {x:Int} (h0:0≤x):0≤dG c x∧dG c x≤x:=by
 have hm:=aC hc
 unfold dG
 exact ⟨Int.ediv_nonneg h0 (by omega),Int.ediv_le_self _ h0⟩
theorem pb {c:CF} (hc:dl c=true) (x:Int):nH c x=6+x%c.2.2.1:=by unfold nH;rw [if_pos hc]
theorem Ai {c:CF} (hc:dl c=true) (x:Int):CY c x=6+c.2.2.1+x%c.2.2.1:=by unfold CY;rw [if_pos hc]
theorem J7 {c:CF} (hc:dl c=true) {x:Int} (h0:0≤x) (h1:x≤1000000):Db c x=2*dG c x:=by
 have:=wD hc h0
 unfold Db
 unfold dG at this ⊢
 omega
theorem O7 {c:CF} (hc:dl c=true) {x:Int} (h0:0≤x) (h1:x≤1000000):C9 c x=2*dG c x+1:=by
 have:=wD hc h0
 unfold C9 fG
 rw [J7 hc h0 h1]
 omega
section
variable {c:CF} {m:List Int} (hc:dl c=true) (hl:(m.length:Int)=bN c)
include hc hl
theorem mR:6+2*c.2.2.1<m.length:=by
 have hm:=aC hc
 have:=dV hc (w:=c.1) (by omega) (by omega)
 have hs:bN c=AD c c.1:=by unfold bN;rw [if_pos hc]
 have ht:AD c c.1=6+2*c.2.2.1+c.1*(3+c.2.1):=rfl
 have hp:0<c.1*(3+c.2.1):=Int.mul_pos (by omega) (by omega)
 omega
theorem AH (X v y:Int):sqI c (ao m (nH c X) v) y=if y%c.2.2.1=X%c.2.2.1 then v else sqI c m y:=by
 have hm:=aC hc
 have hs:=mR hc hl
 have a:=Int.emod_nonneg X (show c.2.2.1≠0 by omega)
 have b:=Int.emod_lt_of_pos X (show 0<c.2.2.1 by omega)
 unfold sqI
 rw [pb hc,pb hc]
 split
 ·rename_i e
  rw [e,eh _ (by omega) (by omega)]
 ·exact aE _ (by omega)
theorem uS (X v y:Int):vlI c (ao m (nH c X) v) y=vlI c m y:=by
 have _h:=hl
 have hm:=aC hc
 have a:=Int.emod_nonneg y (show c.2.2.1≠0 by omega)
 have b:=Int.emod_lt_of_pos X (show 0<c.2.2.1 by omega)
 unfold vlI
 rw [pb hc,Ai hc]
 exact aE _ (by omega)
theorem Mx (X v y:Int):vlI c (ao m (CY c X) v) y=if y%c.2.2.1=X%c.2.2.1 then v else vlI c m y:=by
 have hm:=aC hc
 have hs:=mR hc hl
 have a:=Int.emod_nonneg X (show c.2.2.1≠0 by omega)
 have b:=Int.emod_lt_of_pos X (show 0<c.2.2.1 by omega)
 unfold vlI
 rw [Ai hc,Ai hc]
 split
 ·rename_i e
  rw [e,eh _ (by omega) (by omega)]
 ·exact aE _ (by omega)
theorem GQ (X v y:Int):sqI c (ao m (CY c X) v) y=sqI c m y:=by
 have _h:=hl
 have hm:=aC hc
 have a:=Int.emod_nonneg X (show c.2.2.1≠0 by omega)
 have b:=Int.emod_lt_of_pos y (show 0<c.2.2.1 by omega)
 unfold sqI
 rw [pb hc,Ai hc]
 exact aE _ (by omega)
theorem L5 {i:Int} (v y:Int) (hi:i<6):sqI c (ao m i v) y=sqI c m y:=by
 have _h:=hl
 have hm:=aC hc
 have a:=Int.emod_nonneg y (show c.2.2.1≠0 by omega)
 unfold sqI
 rw [pb hc]
 exact aE _ (by omega)
theorem Lc {i:Int} (v y:Int) (hi:i<6):vlI c (ao m i v) y=vlI c m y:=by
 have _h:=hl
 have hm:=aC hc
 have a:=Int.emod_nonneg y (show c.2.2.1≠0 by omega)
 unfold vlI
 rw [Ai hc]
 exact aE _ (by omega)
theorem AJ (X v:Int):ah (ao m (nH c X) v) 4=ah m 4∧ah (ao m (nH c X) v) 5=ah m 5:=by
 have _h:=hl
 have hm:=aC hc
 have a:=Int.emod_nonneg X (show c.2.2.1≠0 by omega)
 rw [pb hc]
 exact ⟨aE _ (by omega),aE _ (by omega)⟩
theorem KR (X v:Int):ah (ao m (CY c X) v) 4=ah m 4∧ah (ao m (CY c X) v) 5=ah m 5:=by
 have _h:=hl
 have hm:=aC hc
 have a:=Int.emod_nonneg X (show c.2.2.1≠0 by omega)
 rw [Ai hc]
 exact ⟨aE _ (by omega),aE _ (by omega)⟩
end
structure InjI (c:CF) (m:List Int) (cE cD:Int→Nat):Prop where
 h0:0≤ah m 4
 ht:ah m 4≤ah m 5
 tb:ah m 5≤1000000
 a:∀ x,0≤x→x<ah m 5→(if 2*dG c x<sqI c m x then 1 else 0)+cE x=1
 b:∀ x,ah m 5≤x→cE x=0∧sqI c m x≤2*dG c x
 r:∀ x,0≤x→x<ah m 4→(if 2*dG c x+2≤sqI c m x then 1 else 0)+cD x=1
 d:∀ x,ah m 4≤x→cD x=0∧sqI c m x≤2*dG c x+1
structure EFr (c:CF) (m:List Int) (f:FR):Prop where
 op:f.1=3
 res:f.2.2.2.2.2.2=0
 pc:0≤f.2.1∧f.2.1≤4
 p1:f.2.1=1∨f.2.1=2→0≤f.2.2.2.2.1∧f.2.2.2.2.1≤ah m 5
 p2:f.2.1=2→f.2.2.2.2.1=ah m 5→sqI c m f.2.2.2.2.1=2*dG c f.2.2.2.2.1
 p3:3≤f.2.1→0≤f.2.2.2.2.1∧f.2.2.2.2.1<ah m 5∧sqI c m f.2.2.2.2.1=2*dG c f.2.2.2.2.1
 p4:f.2.1=4→vlI c m f.2.2.2.2.1=f.2.2.2.1
structure DFr (c:CF) (m:List Int) (f:FR):Prop where
 op:f.1=4
 res:f.2.2.2.2.2.2=0
 pc:0≤f.2.1∧f.2.1≤4
 p1:f.2.1=1∨f.2.1=2→0≤f.2.2.2.2.1∧f.2.2.2.2.1≤ah m 4
 p2:f.2.1=2→f.2.2.2.2.1=ah m 4→sqI c m f.2.2.2.2.1=2*dG c f.2.2.2.2.1+1
 p3:3≤f.2.1→0≤f.2.2.2.2.1∧f.2.2.2.2.1<ah m 4∧sqI c m f.2.2.2.2.1=2*dG c f.2.2.2.2.1+1
def clF (f:FR) (q:Int):Nat:=if 3≤f.2.1∧f.2.2.2.2.1=q then 1 else 0
def pS (c:CF) (m:List Int) (k:Int):Nat:=(List.range (ah m 5 - ah m 4).toNat).countP fun i:Nat=>decide (2*dG c (ah m 4+(i:Int))<sqI c m (ah m 4+(i:Int))∧vlI c m (ah m 4+(i:Int))=k)
def hdD (c:CF) (m:List Int) (f:FR) (k:Int):Nat:=if f.2.1=3∧vlI c m f.2.2.2.2.1=k∨f.2.1=4∧f.2.2.2.1=k then 1 else 0
theorem fZ {n:Nat} {p q:Nat→Bool} (h:∀ i,i<n→p i=q i):(List.range n).countP p=(List.range n).countP q:=
 List.countP_congr fun i hi=>by rw [h i (List.mem_range.1 hi)]
theorem QJ {n j:Nat} {p q:Nat→Bool} (hj:j<n) (hp:p j=false) (hq:q j=true) (h:∀ i,i<n→i≠j→p i=q i):(List.range n).countP q=(List.range n).countP p+1:=by
 have e:List.range n=List.range j++j::(List.range' (j+1) (n - j - 1)):=by
  rw [List.range_eq_range',List.range_eq_range',← List.range'_succ,show n - j - 1+1=n - j by omega]
  have:=(List.range'_append (s:=0) (m:=j) (n:=n - j) (step:=1)).symm
  rw [show j+(n - j)=n by omega] at this
  simpa using this
 rw [e,List.countP_append,List.countP_append,List.countP_cons,List.countP_cons,hp,hq]
 have h1:(List.range j).countP p=(List.range j).countP q:=fZ fun i hi=>h i (by omega) (by omega)
 have h2:(List.range' (j+1) (n - j - 1)).countP p=(List.range' (j+1) (n - j - 1)).countP q:=List.countP_congr fun i hi=>by
  rw [List.mem_range'] at hi
  obtain ⟨a,b,rfl⟩:=hi
  rw [h _ (by omega) (by omega)]
 rw [h1,h2]
 simp
 omega
end Go.Ab
set_option linter.unusedVariables false
namespace Go.Ab
def OI (X q:Int):Nat:=if X=q then 1 else 0
theorem AI (X:Int):OI X X=1:=by unfold OI;rw [if_pos rfl]
theorem ru {X q:Int} (h:q≠X):OI X q=0:=by unfold OI;rw [if_neg (fun e=>h e.symm)]
section
variable {c:CF} {m:List Int} (hc:dl c=true) (hl:(m.length:Int)=bN c)
include hc hl
theorem rz {x y:Int} (e:x%c.2.2.1=y%c.2.2.1):sqI c m x=sqI c m y:=by
 have _h:=hl
 unfold sqI
 rw [pb hc,pb hc,e]
theorem PS {X:Int} {cE cD:Int→Nat} (hI:InjI c m cE cD) (hX:X=ah m 5) (hfree:sqI c m X=2*dG c X) (hb:X+1≤1000000) :
  InjI c (ao m 5 (X+1)) (fun q=>cE q+OI X q) cD∧∀ k,pS c (ao m 5 (X+1)) k=pS c m k:=by
 have hs:=mR hc hl
 have hmc:=aC hc
 have l5:ah (ao m 5 (X+1)) 5=X+1:=eh _ (by decide) (by omega)
 have l4:ah (ao m 5 (X+1)) 4=ah m 4:=aE _ (by decide)
 have sq:=fun y=>L5 hc hl (i:=5) (X+1) y (by decide)
 have vl:=fun y=>Lc hc hl (i:=5) (X+1) y (by decide)
 have hle:=hI.ht
 have h0:=hI.h0
 refine ⟨⟨by rw [l4];exact hI.h0,by rw [l4,l5];omega,by rw [l5];exact hb,fun x x0 x1 => ?_,fun x hx => ?_,fun x x0 x1 => ?_,fun x hx => ?_⟩,fun k => ?_⟩
 ·rw [sq]
  rw [l5] at x1
  by_cases e:x=X
  ·have hb0:=(hI.b x (by omega)).1
   subst e
   rw [hfree,if_neg (by omega),AI]
   omega
  ·have:=hI.a x x0 (by omega)
   rw [ru e]
   exact this
 ·rw [l5] at hx
  obtain ⟨b1,b2⟩:=hI.b x (by omega)
  rw [sq,ru (by omega)]
  exact ⟨b1,b2⟩
 ·rw [l4] at x1
  rw [sq]
  exact hI.r x x0 x1
 ·rw [l4] at hx
  rw [sq]
  exact hI.d x hx
 ·unfold pS
  rw [l4,l5,hX]
  have e:(ah m 5+1 - ah m 4).toNat=(ah m 5 - ah m 4).toNat+1:=by omega
  rw [e,List.range_succ,List.countP_append]
  rw [← hX]
  have h1:(List.range (X - ah m 4).toNat).countP (fun i:Nat=>decide (2*dG c (ah m 4+(i:Int))<sqI c (ao m 5 (X+1)) (ah m 4+(i:Int))∧vlI c (ao m 5 (X+1)) (ah m 4+(i:Int))=k))=(List.range (X - ah m 4).toNat).countP (fun i:Nat=>decide (2*dG c (ah m 4+(i:Int))<sqI c m (ah m 4+(i:Int))∧vlI c m (ah m 4+(i:Int))=k)):=fZ fun i _=>by rw [sq,vl]
  rw [h1,List.countP_cons,List.countP_nil,show ah m 4+(((X - ah m 4).toNat:Nat):Int)=X by omega,sq,hfree,decide_eq_false (fun h=>by omega)]
  rfl
theorem abf {X v:Int} {cE cD:Int→Nat} (hI:InjI c m cE cD) (x0:0≤X) (x1:X<ah m 5) (hfree:sqI c m X=2*dG c X) :
  InjI c (ao m (CY c X) v) cE cD∧(∀ k,pS c (ao m (CY c X) v) k=pS c m k)∧(∀ y,sqI c m y=2*dG c y→y≠X→vlI c (ao m (CY c X) v) y=vlI c m y)∧∀ y,sqI c m y=2*dG c y+1→vlI c (ao m (CY c X) v) y=vlI c m y:=by
 obtain ⟨l4,l5⟩:=KR hc hl X v
 have sq:=fun y=>GQ hc hl X v y
 have vl:=fun y=>Mx hc hl X v y
 refine ⟨⟨by rw [l4];exact hI.h0,by rw [l4,l5];exact hI.ht,by rw [l5];exact hI.tb,fun x a b=>by rw [sq];exact hI.a x a (by rw [← l5];exact b),fun x hx=>by rw [sq];exact hI.b x (by rw [← l5];exact hx),fun x a b=>by rw [sq];exact hI.r x a (by rw [← l4];exact b),fun x hx=>by rw [sq];exact hI.d x (by rw [← l4];exact hx)⟩,fun k => ?_,fun y hy hne => ?_,fun y hy => ?_⟩
 ·unfold pS
  rw [l4,l5]
  refine fZ fun i hi => ?_
  rw [sq,vl]
  split
  ·rename_i e
   have hd:=(hI.d (ah m 4+(i:Int)) (by omega)).2
   have hsame:=rz hc hl e
   have hn:¬ 2*dG c (ah m 4+(i:Int))<sqI c m (ah m 4+(i:Int)):=by omega
   rw [decide_eq_false (fun h=>hn h.1),decide_eq_false (fun h=>hn h.1)]
  ·rfl
 ·rw [vl,if_neg]
  intro e
  have hsame:=rz hc hl e
  exact hne (Rh e (by omega))
 ·rw [vl,if_neg]
  intro e
  have hsame:=rz hc hl e
  omega
theorem aek {X:Int} {cE cD:Int→Nat} (hI:InjI c m cE cD) (hD:∀ x,0<cD x→sqI c m x=2*dG c x+1) (x0:0≤X) (hfree:sqI c m X=2*dG c X):ah m 4≤X:=by
 have _h:=And.intro hc hl
 by_cases h:ah m 4≤X
 ·exact h
 ·exfalso
  have hr:=hI.r X x0 (by omega)
  rw [if_neg (by omega)] at hr
  have:=hD X (by omega)
  omega
theorem acl {X:Int} {c0 cD:Int→Nat} (hI:InjI c m (fun q=>c0 q+OI X q) cD) (hD:∀ x,0<cD x→sqI c m x=2*dG c x+1) (hE:∀ x,0<c0 x→sqI c m x=2*dG c x) (x0:0≤X) (x1:X<ah m 5) (hfree:sqI c m X=2*dG c X) :
  InjI c (ao m (nH c X) (2*dG c X+1)) c0 cD∧(∀ k,pS c (ao m (nH c X) (2*dG c X+1)) k=pS c m k+if vlI c m X=k then 1 else 0)∧∀ y,sqI c m y≠2*dG c X→sqI c (ao m (nH c X) (2*dG c X+1)) y=sqI c m y:=by
 have hs:=mR hc hl
 obtain ⟨l4,l5⟩:=AJ hc hl X (2*dG c X+1)
 have sq:=fun y=>AH hc hl X (2*dG c X+1) y
 have vl:=fun y=>uS hc hl X (2*dG c X+1) y
 have hh:=aek hc hl hI hD x0 hfree
 have hA:=hI.a X x0 x1
 rw [AI] at hA
 have ss:∀ y,y%c.2.2.1=X%c.2.2.1→sqI c m y=2*dG c X:=fun y e=>by rw [rz hc hl e,hfree]
 have lt:∀ y,y%c.2.2.1=X%c.2.2.1→y<X→dG c y<dG c X:=fun y e h=>KW hc e h
 have gt:∀ y,y%c.2.2.1=X%c.2.2.1→X<y→dG c X<dG c y:=fun y e h=>KW hc e.symm h
 refine ⟨⟨by rw [l4];exact hI.h0,by rw [l4,l5];exact hI.ht,by rw [l5];exact hI.tb,fun x a b => ?_,fun x hx => ?_,fun x a b => ?_,fun x hx => ?_⟩,fun k => ?_,fun y hy => ?_⟩
 ·rw [l5] at b
  have hx:=hI.a x a b
  rw [sq]
  by_cases e:x%c.2.2.1=X%c.2.2.1
  ·rw [if_pos e]
   have hsx:=ss x e
   rcases Int.lt_trichotomy x X with h | h | h
   ·have:=lt x e h
    rw [ru (by omega)] at hx
    rw [if_pos (by omega)] at hx ⊢
    exact hx
   ·subst h
    rw [if_pos (by omega)]
    omega
   ·have:=gt x e h
    exfalso
    rw [ru (by omega),if_neg (by omega)] at hx
    have:=hE x (by omega)
    omega
  ·rw [if_neg e]
   have hne:x≠X:=fun h=>e (by rw [h])
   rw [ru hne] at hx
   exact hx
 ·rw [l5] at hx
  obtain ⟨b1,b2⟩:=hI.b x hx
  have hne:x≠X:=by omega
  rw [sq]
  refine ⟨by omega,?_⟩
  split
  ·rename_i e
   have:=gt x e (by omega)
   omega
  ·exact b2
 ·rw [l4] at b
  have hx:=hI.r x a b
  rw [sq]
  split
  ·rename_i e
   have hsx:=ss x e
   have:=lt x e (by omega)
   rw [if_pos (by omega)] at hx ⊢
   exact hx
  ·exact hx
 ·rw [l4] at hx
  obtain ⟨d1,d2⟩:=hI.d x hx
  rw [sq]
  refine ⟨d1,?_⟩
  split
  ·rename_i e
   have hsx:=ss x e
   omega
  ·exact d2
 ·unfold pS
  rw [l4,l5]
  have hj:(X - ah m 4).toNat<(ah m 5 - ah m 4).toNat:=by omega
  have hX:ah m 4+(((X - ah m 4).toNat:Nat):Int)=X:=by omega
  have oth:∀ i:Nat,i<(ah m 5 - ah m 4).toNat→i≠(X - ah m 4).toNat→decide (2*dG c (ah m 4+(i:Int))<sqI c m (ah m 4+(i:Int))∧vlI c m (ah m 4+(i:Int))=k)=decide (2*dG c (ah m 4+(i:Int))<sqI c (ao m (nH c X) (2*dG c X+1)) (ah m 4+(i:Int))∧vlI c (ao m (nH c X) (2*dG c X+1)) (ah m 4+(i:Int))=k):=by
   intro i hi hne
   rw [sq,vl,if_neg]
   intro e
   have hsx:=ss _ e
   have hd:=(hI.d (ah m 4+(i:Int)) (by omega)).2
   have ha:=hI.a (ah m 4+(i:Int)) (by have:=hI.h0;omega) (by omega)
   rcases Int.lt_trichotomy (ah m 4+(i:Int)) X with h | h | h
   ·have:=lt _ e h
    omega
   ·omega
   ·have:=gt _ e h
    rw [ru (by omega),if_neg (by omega)] at ha
    have:=hE _ (show 0<c0 (ah m 4+(i:Int)) by omega)
    omega
  by_cases hk:vlI c m X=k
  ·rw [if_pos hk]
   refine QJ hj ?_ ?_ oth
   ·rw [hX,hfree]
    exact decide_eq_false (fun h=>by omega)
   ·rw [hX,sq,vl,if_pos rfl]
    exact decide_eq_true ⟨by omega,hk⟩
  ·rw [if_neg hk,Nat.add_zero]
   refine (fZ fun i hi => ?_).symm
   by_cases e:i=(X - ah m 4).toNat
   ·subst e
    rw [hX,vl,decide_eq_false (fun h=>hk h.2),decide_eq_false (fun h=>hk h.2)]
   ·exact oth i hi e
 ·rw [sq,if_neg]
  intro e
  exact hy (ss y e)
end
end Go.Ab
set_option linter.unusedVariables false
namespace Go.Ab
section
variable {c:CF} {m:List Int} (hc:dl c=true) (hl:(m.length:Int)=bN c)
include hc hl
theorem MQ {X:Int} {cE cD:Int→Nat} (hI:InjI c m cE cD) (hX:X=ah m 4) (hfull:sqI c m X=2*dG c X+1) :
  X<ah m 5∧InjI c (ao m 4 (X+1)) cE (fun q=>cD q+OI X q)∧∀ k,pS c m k=pS c (ao m 4 (X+1)) k+if vlI c m X=k then 1 else 0:=by
 have hs:=mR hc hl
 have hmc:=aC hc
 have l4:ah (ao m 4 (X+1)) 4=X+1:=eh _ (by decide) (by omega)
 have l5:ah (ao m 4 (X+1)) 5=ah m 5:=aE _ (by decide)
 have sq:=fun y=>L5 hc hl (i:=4) (X+1) y (by decide)
 have vl:=fun y=>Lc hc hl (i:=4) (X+1) y (by decide)
 have h0:=hI.h0
 have hlt:X<ah m 5:=by
  by_cases h:X<ah m 5
  ·exact h
  ·have:=(hI.b X (by omega)).2
   omega
 refine ⟨hlt,⟨by rw [l4];omega,by rw [l4,l5];omega,by rw [l5];exact hI.tb,fun x a b=>by rw [sq];exact hI.a x a (by rw [← l5];exact b),fun x hx=>by rw [sq];exact hI.b x (by rw [← l5];exact hx),fun x a b => ?_,fun x hx => ?_⟩,fun k => ?_⟩
 ·rw [l4] at b
  rw [sq]
  by_cases e:x=X
  ·have hd:=(hI.d X (by omega)).1
   subst e
   rw [hfull,if_neg (by omega),AI]
   omega
  ·have:=hI.r x a (by omega)
   rw [ru e]
   exact this
 ·rw [l4] at hx
  obtain ⟨d1,d2⟩:=hI.d x (by omega)
  rw [sq,ru (by omega)]
  exact ⟨d1,d2⟩
 ·unfold pS
  rw [l4,l5,← hX]
  have e:(ah m 5 - X).toNat=(ah m 5 - (X+1)).toNat+1:=by omega
  rw [e,List.range_succ_eq_map,List.countP_cons,List.countP_map]
  have h1:(List.range (ah m 5 - (X+1)).toNat).countP ((fun i:Nat=>decide (2*dG c (X+(i:Int))<sqI c m (X+(i:Int))∧vlI c m (X+(i:Int))=k)) ∘ Nat.succ)=(List.range (ah m 5 - (X+1)).toNat).countP (fun i:Nat=>decide (2*dG c (X+1+(i:Int))<sqI c (ao m 4 (X+1)) (X+1+(i:Int))∧vlI c (ao m 4 (X+1)) (X+1+(i:Int))=k)):=fZ fun i _=>by
   rw [sq,vl,show X+1+(i:Int)=X+((i+1:Nat):Int) by omega]
   rfl
  rw [h1]
  congr 1
  rw [show X+((0:Nat):Int)=X by omega,hfull]
  by_cases hk:vlI c m X=k
  ·rw [if_pos hk,decide_eq_true ⟨by omega,hk⟩]
   rfl
  ·rw [if_neg hk,decide_eq_false (fun h=>hk h.2)]
   rfl
theorem Vh {X:Int} {cE d0:Int→Nat} (hI:InjI c m cE (fun q=>d0 q+OI X q)) (hD:∀ x,0<d0 x→sqI c m x=2*dG c x+1) (hE:∀ x,0<cE x→sqI c m x=2*dG c x) (x0:0≤X) (x1:X<ah m 4) (hfull:sqI c m X=2*dG c X+1) :
  InjI c (ao m (nH c X) (2*dG c X+2)) cE d0∧(∀ k,pS c (ao m (nH c X) (2*dG c X+2)) k=pS c m k)∧∀ y,sqI c m y≠2*dG c X+1→sqI c (ao m (nH c X) (2*dG c X+2)) y=sqI c m y:=by
 have hs:=mR hc hl
 obtain ⟨l4,l5⟩:=AJ hc hl X (2*dG c X+2)
 have sq:=fun y=>AH hc hl X (2*dG c X+2) y
 have vl:=fun y=>uS hc hl X (2*dG c X+2) y
 have ht:=hI.ht
 have hR:=hI.r X x0 x1
 rw [AI] at hR
 have ss:∀ y,y%c.2.2.1=X%c.2.2.1→sqI c m y=2*dG c X+1:=fun y e=>by rw [rz hc hl e,hfull]
 have lt:∀ y,y%c.2.2.1=X%c.2.2.1→y<X→dG c y<dG c X:=fun y e h=>KW hc e h
 have gt:∀ y,y%c.2.2.1=X%c.2.2.1→X<y→dG c X<dG c y:=fun y e h=>KW hc e.symm h
 have none:∀ y,y%c.2.2.1=X%c.2.2.1→X<y→ah m 5≤y:=fun y e h=>by
  by_cases hy:ah m 5≤y
  ·exact hy
  ·exfalso
   have ha:=hI.a y (by omega) (by omega)
   have hg:=gt y e h
   have hsy:=ss y e
   rw [if_neg (by omega)] at ha
   have:=hE y (by omega)
   omega
 refine ⟨⟨by rw [l4];exact hI.h0,by rw [l4,l5];exact hI.ht,by rw [l5];exact hI.tb,fun x a b => ?_,fun x hx => ?_,fun x a b => ?_,fun x hx => ?_⟩,fun k => ?_,fun y hy => ?_⟩
 ·rw [l5] at b
  have hx:=hI.a x a b
  rw [sq]
  split
  ·rename_i e
   have hsx:=ss x e
   rcases Int.lt_trichotomy x X with h | h | h
   ·have:=lt x e h
    rw [if_pos (by omega)] at hx ⊢
    exact hx
   ·subst h
    rw [if_pos (by omega)] at hx ⊢
    exact hx
   ·have:=none x e h
    omega
  ·exact hx
 ·rw [l5] at hx
  obtain ⟨b1,b2⟩:=hI.b x hx
  rw [sq]
  refine ⟨b1,?_⟩
  split
  ·rename_i e
   have:=gt x e (by omega)
   omega
  ·exact b2
 ·rw [l4] at b
  have hx:=hI.r x a b
  rw [sq]
  by_cases e:x%c.2.2.1=X%c.2.2.1
  ·rw [if_pos e]
   have hsx:=ss x e
   rcases Int.lt_trichotomy x X with h | h | h
   ·have:=lt x e h
    rw [ru (by omega)] at hx
    rw [if_pos (by omega)] at hx ⊢
    exact hx
   ·subst h
    rw [if_pos (by omega)]
    rw [if_neg (by omega)] at hR
    omega
   ·have:=none x e h
    omega
  ·rw [if_neg e]
   have hne:x≠X:=fun h=>e (by rw [h])
   rw [ru hne] at hx
   exact hx
 ·rw [l4] at hx
  obtain ⟨d1,d2⟩:=hI.d x hx
  rw [sq]
  refine ⟨by omega,?_⟩
  split
  ·rename_i e
   have:=gt x e (by omega)
   omega
  ·exact d2
 ·unfold pS
  rw [l4,l5]
  refine fZ fun i hi => ?_
  rw [sq,vl,if_neg]
  intro e
  have:=none _ e (by omega)
  omega
 ·rw [sq,if_neg]
  intro e
  exact hy (ss y e)
end
end Go.Ab
set_option linter.unusedVariables false
namespace Go.Ab
def adr (c:CF) (v j:Int):Int:=6+2*c.2.2.1+(v*(3+c.2.1)+j)
def dT (c:CF) (m:List Int) (v:Int):Int:=ah m (adr c v 0)
def dB (c:CF) (m:List Int) (v:Int):Int:=ah m (adr c v 1)
def dS (c:CF) (m:List Int) (v x:Int):Int:=ah m (adr c v (3+x%c.2.1))
theorem Zy {c:CF} (hc:dl c=true) {x:Int} (h0:0≤x) (h1:x≤18446744073709551615):AP .u64 x (c.2.1 - 1)=x%c.2.1:=by
 have hD:=(aC hc).2.2.1
 generalize c.2.1=D at hD ⊢
 obtain ⟨a,rfl⟩:=Int.eq_ofNat_of_zero_le h0
 rcases hD with rfl | rfl | rfl | rfl | rfl
 ·rw [show (1:Int) - 1=((0:Nat):Int) by decide,Ud (by omega) (by omega),Nat.and_zero]
  omega
 ·rw [show (2:Int) - 1=((2 ^ 1 - 1:Nat):Int) by decide,Ud (by omega) (by omega),Nat.and_two_pow_sub_one_eq_mod]
  omega
 ·rw [show (4:Int) - 1=((2 ^ 2 - 1:Nat):Int) by decide,Ud (by omega) (by omega),Nat.and_two_pow_sub_one_eq_mod]
  omega
 ·rw [show (8:Int) - 1=((2 ^ 3 - 1:Nat):Int) by decide,Ud (by omega) (by omega),Nat.and_two_pow_sub_one_eq_mod]
  omega
 ·rw [show (16:Int) - 1=((2 ^ 4 - 1:Nat):Int) by decide,Ud (by omega) (by omega),Nat.and_two_pow_sub_one_eq_mod]
  omega
section
variable {c:CF} (hc:dl c=true) {v:Int} (h0:0≤v) (h1:v<c.1)
include hc h0 h1
theorem My (j:Int):onW c v j=adr c v j:=by
 unfold onW adr AD
 rw [if_pos ⟨hc,h0,h1⟩]
 omega
theorem I5:Iq c v=adr c v 0:=My hc h0 h1 0
theorem Jr:I7 c v=adr c v 1:=My hc h0 h1 1
theorem EZ {x:Int} (x0:0≤x) (x1:x≤18446744073709551615):rS c v x=adr c v (3+x%c.2.1):=by
 unfold rS
 rw [My hc h0 h1,Zy hc x0 x1]
theorem Eb {m:List Int} (hl:(m.length:Int)=bN c) {j:Int} (j0:0≤j) (j1:j<3+c.2.1):6+2*c.2.2.1≤adr c v j∧adr c v j<m.length:=by
 have hm:=aC hc
 have ht:=dV hc h0 (by omega)
 have hs:bN c=AD c c.1:=by unfold bN;rw [if_pos hc]
 rw [hl,hs]
 unfold adr AD
 have hD:=hm.2.2.1
 refine ⟨by omega,?_⟩
 generalize c.2.1=D at hD j1 ⊢
 rcases hD with rfl | rfl | rfl | rfl | rfl <;> omega
end
theorem uM {c:CF} (hc:dl c=true) {u v j k:Int} (hj:0≤j∧j<3+c.2.1) (hk:0≤k∧k<3+c.2.1) (h:u≠v∨j≠k):adr c u j≠adr c v k:=by
 have hD:=(aC hc).2.2.1
 unfold adr
 generalize c.2.1=D at hD hj hk ⊢
 rcases hD with rfl | rfl | rfl | rfl | rfl <;> omega
theorem Bm {c:CF} (hc:dl c=true) (x:Int):0≤x%c.2.1∧x%c.2.1<c.2.1:=by
 have hD:=(aC hc).2.2.1
 generalize c.2.1=D at hD ⊢
 rcases hD with rfl | rfl | rfl | rfl | rfl <;> omega
theorem akd {c:CF} (hc:dl c=true) {x y:Int} (h:x<y) (h2:y<x+c.2.1):x%c.2.1≠y%c.2.1:=by
 have hD:=(aC hc).2.2.1
 generalize c.2.1=D at hD h2 ⊢
 rcases hD with rfl | rfl | rfl | rfl | rfl <;> omega
structure DEq (c:CF) (m m':List Int) (v:Int):Prop where
 t:dT c m' v=dT c m v
 b:dB c m' v=dB c m v
 s:∀ x,dS c m' v x=dS c m v x
theorem DEq.rfl' {c:CF} {m:List Int} {v:Int}:DEq c m m v:=⟨rfl,rfl,fun _=>rfl⟩
theorem Bt {c:CF} (hc:dl c=true) {m:List Int} {v i a:Int} (h:∀ j,0≤j→j<3+c.2.1→j≠2→i≠adr c v j):DEq c m (ao m i a) v:=by
 have hm:=aC hc
 refine ⟨aE _ (h 0 (by decide) (by omega) (by decide)),aE _ (h 1 (by decide) (by omega) (by decide)),fun x => ?_⟩
 have:=Bm hc x
 exact aE _ (h _ (by omega) (by omega) (by omega))
theorem mW {c:CF} (hc:dl c=true) {m:List Int} {v i a:Int} (h0:0≤v) (h1:v<c.1) (hi:i<6+2*c.2.2.1):DEq c m (ao m i a) v:=by
 refine Bt hc fun j j0 j1 _ e => ?_
 have hm:=aC hc
 have ht:=dV hc h0 (by omega)
 unfold adr at e
 omega
structure InjEq (c:CF) (m m':List Int):Prop where
 h:ah m' 4=ah m 4
 t:ah m' 5=ah m 5
 s:∀ x,sqI c m' x=sqI c m x
 v:∀ x,vlI c m' x=vlI c m x
theorem InjEq.rfl' {c:CF} {m:List Int}:InjEq c m m:=⟨rfl,rfl,fun _=>rfl,fun _=>rfl⟩
theorem gH {c:CF} (hc:dl c=true) {m:List Int} {i a:Int} (h:i<4∨6+2*c.2.2.1≤i):InjEq c m (ao m i a):=by
 have hm:=aC hc
 refine ⟨aE _ (by omega),aE _ (by omega),fun x => ?_,fun x => ?_⟩
 ·have a:=Int.emod_nonneg x (show c.2.2.1≠0 by omega)
  have b:=Int.emod_lt_of_pos x (show 0<c.2.2.1 by omega)
  refine aE _ ?_
  rw [pb hc]
  omega
 ·have a:=Int.emod_nonneg x (show c.2.2.1≠0 by omega)
  have b:=Int.emod_lt_of_pos x (show 0<c.2.2.1 by omega)
  refine aE _ ?_
  rw [Ai hc]
  omega
def dqN (c:CF) (m:List Int) (v hi k:Int):Nat:=(List.range (hi - dT c m v).toNat).countP fun i:Nat=>decide (dS c m v (dT c m v+(i:Int))=k)
theorem uP {c:CF} {m m':List Int} {v hi k:Int} (ht:dT c m' v=dT c m v) (hs:∀ y,dT c m v≤y→y<hi→dS c m' v y=dS c m v y):dqN c m' v hi k=dqN c m v hi k:=by
 unfold dqN
 rw [ht]
 refine fZ fun i hi => ?_
 rw [hs _ (by omega) (by omega)]
theorem Ls {c:CF} {m:List Int} {v hi k:Int} (h:dT c m v≤hi):dqN c m v (hi+1) k=dqN c m v hi k+if dS c m v hi=k then 1 else 0:=by
 unfold dqN
 rw [show (hi+1 - dT c m v).toNat=(hi - dT c m v).toNat+1 by omega,List.range_succ,List.countP_append,List.countP_cons,List.countP_nil,show dT c m v+(((hi - dT c m v).toNat:Nat):Int)=hi by omega]
 by_cases e:dS c m v hi=k
 ·rw [if_pos e,decide_eq_true e]
  rfl
 ·rw [if_neg e,decide_eq_false e]
  rfl
theorem Q6 {c:CF} {m m':List Int} {v hi k:Int} (h:dT c m v<hi) (ht:dT c m' v=dT c m v+1) (hs:∀ x,dS c m' v x=dS c m v x):dqN c m v hi k=dqN c m' v hi k+if dS c m v (dT c m v)=k then 1 else 0:=by
 unfold dqN
 rw [ht,show (hi - dT c m v).toNat=(hi - (dT c m v+1)).toNat+1 by omega,List.range_succ_eq_map,List.countP_cons,List.countP_map]
 have h1:(List.range (hi - (dT c m v+1)).toNat).countP ((fun i:Nat=>decide (dS c m v (dT c m v+(i:Int))=k)) ∘ Nat.succ)=(List.range (hi - (dT c m v+1)).toNat).countP (fun i:Nat=>decide (dS c m' v (dT c m v+1+(i:Int))=k)):=fZ fun i _=>by
  rw [hs,show dT c m v+1+(i:Int)=dT c m v+((i+1:Nat):Int) by omega]
  rfl
 rw [h1]
 congr 1
 rw [show dT c m v+((0:Nat):Int)=dT c m v by omega]
 by_cases e:dS c m v (dT c m v)=k
 ·rw [if_pos e,decide_eq_true e]
  rfl
 ·rw [if_neg e,decide_eq_false e]
  rfl
theorem acy {c:CF} {m:List Int} {v hi k:Int} (h:hi≤dT c m v):dqN c m v hi k=0:=by
 unfold dqN
 rw [show (hi - dT c m v).toNat=0 by omega]
 rfl
structure PsF (c:CF) (m:List Int) (v:Int) (f:FR):Prop where
 op:f.1=0
 who:f.2.2.1=v
 res:f.2.2.2.2.2.2=0
 pc:0≤f.2.1∧f.2.1≤3
 p1:1≤f.2.1→f.2.2.2.2.1=dB c m v
 p2:2≤f.2.1→f.2.2.2.2.2.1≤dT c m v∧f.2.2.2.2.1 - f.2.2.2.2.2.1<c.2.1
 p3:f.2.1=3→dS c m v f.2.2.2.2.1=f.2.2.2.1
def hiP (f:FR) (b:Int):Int:=if f.2.1=2∨f.2.1=4∨f.2.1=5∨f.2.1=6∨f.2.1=3∧f.2.2.2.2.1=f.2.2.2.2.2.1 then fG b 1 else b
structure PoF (c:CF) (m:List Int) (v:Int) (f:FR):Prop where
 op:f.1=1
 who:f.2.2.1=v
 res:f.2.2.2.2.2.2=0
 pc:0≤f.2.1∧f.2.1≤6
 p1:f.2.1=1→f.2.2.2.2.1=OS (dB c m v) 1
 p2:2≤f.2.1→f.2.2.2.2.1=dB c m v
 p3:f.2.1=3∨f.2.1=4→0≤f.2.2.2.2.2.1∧f.2.2.2.2.2.1≤dT c m v∧f.2.2.2.2.2.1≤f.2.2.2.2.1
 p4:f.2.1=4→f.2.2.2.2.2.1=f.2.2.2.2.1∧f.2.2.2.1=dS c m v f.2.2.2.2.1
 p5:f.2.1=5∨f.2.1=6→dT c m v=fG (dB c m v) 1
def hdP (c:CF) (m:List Int) (f:FR) (k:Int):Nat:=if f.2.1=3∧f.2.2.2.2.1≠f.2.2.2.2.2.1∧dS c m f.2.2.1 f.2.2.2.2.1=k∨f.2.1=5∧f.2.2.2.1=k then 1 else 0
structure VOk (c:CF) (m:List Int) (v hi:Int):Prop where
 t0:0≤dT c m v
 le:dT c m v≤hi
 rm:hi≤dT c m v+c.2.1
 bd:hi≤1000000
structure ThF (c:CF) (m:List Int) (hi:Int) (f:FR):Prop where
 op:f.1=2
 res:f.2.2.2.2.2.2=0
 pc:0≤f.2.1∧f.2.1≤3
 p1:1≤f.2.1→0≤f.2.2.2.2.2.1∧f.2.2.2.2.2.1≤dT c m f.2.2.1
 p2:2≤f.2.1→f.2.2.2.2.2.1=dT c m f.2.2.1→dT c m f.2.2.1<hi
 p3:f.2.1=3→f.2.2.2.2.2.1=dT c m f.2.2.1→f.2.2.2.1=dS c m f.2.2.1 (dT c m f.2.2.1)
theorem ThF.stay {c:CF} {m m':List Int} {hi hi':Int} {f:FR} (h:ThF c m hi f) (ht:dT c m' f.2.2.1=dT c m f.2.2.1) (hh:dT c m f.2.2.1<hi→dT c m f.2.2.1<hi'∧dS c m' f.2.2.1 (dT c m f.2.2.1)=dS c m f.2.2.1 (dT c m f.2.2.1)):ThF c m' hi' f:=by
 refine ⟨h.op,h.res,h.pc,fun e=>by rw [ht];exact h.p1 e,fun e e2 => ?_,fun e e2 => ?_⟩
 ·rw [ht] at e2 ⊢
  exact (hh (h.p2 e e2)).1
 ·rw [ht] at e2 ⊢
  rw [h.p3 e e2,(hh (h.p2 (by omega) e2)).2]
theorem ThF.top {c:CF} {m m':List Int} {hi hi':Int} {f:FR} (h:ThF c m hi f) (ht:dT c m' f.2.2.1=dT c m f.2.2.1+1):ThF c m' hi' f:=by
 refine ⟨h.op,h.res,h.pc,fun e=>by rw [ht];have:=h.p1 e;omega,fun e e2 => ?_,fun e e2 => ?_⟩
 ·have:=h.p1 (by omega)
  omega
 ·have:=h.p1 (by omega)
  omega
theorem G4 {a b:Int} (ha:0≤a∧a≤1000000) (hb:0≤b∧b≤1000000):wG a b=a - b:=by
 unfold wG
 rw [ky]
 simp only [IntKind.wrap,IntKind.bits,IntKind.signed]
 simp
 omega
theorem QN {b:Int} (hb:0≤b∧b≤1000000):wG 18446744073709551615 b = -1 - b:=by
 unfold wG
 rw [ky]
 simp only [IntKind.wrap,IntKind.bits,IntKind.signed]
 simp
 omega
end Go.Ab
set_option linter.unusedVariables false
namespace Go.Ab
theorem mI {a:Int} (h:0≤a∧a≤1000000):fG a 1=a+1:=by unfold fG;omega
theorem P6 {c:CF} {m:List Int} (hc:dl c=true) (hl:(m.length:Int)=bN c) {f:FR} {op pcs:Int} (h:f.2.2.2.2.2.2=0∧0≤f.2.2.1∧f.2.2.1<c.1∧f.1=op∧0≤f.2.1∧f.2.1<pcs):¬ uO c m f op pcs=false:=by
 unfold uO
 rw [hc,decide_eq_true hl,decide_eq_true h]
 decide
theorem FA {m:List Int} {i o n:Int} (h0:0≤i) (h1:i<m.length) (h:ah m i=o):ub m i o n=(ao m i n,true):=by
 unfold ub
 rw [if_pos ⟨h0,h1,h⟩]
theorem LU {m:List Int} {i o n:Int} (h:ah m i≠o):ub m i o n=(m,false):=by
 unfold ub
 rw [if_neg (fun e=>h e.2.2)]
section
variable {c:CF} {m:List Int} (hc:dl c=true) (hl:(m.length:Int)=bN c) {v:Int} (h0:0≤v) (h1:v<c.1) {f:FR}
include hc hl h0 h1
theorem wO {j a:Int} (j0:0≤j) (j1:j<3+c.2.1):InjEq c m (ao m (adr c v j) a)∧∀ u,u≠v→DEq c m (ao m (adr c v j) a) u:=
 ⟨gH hc (.inr (Eb hc h0 h1 hl j0 j1).1),fun u hu=>Bt hc fun i i0 i1 _ e=>uM hc ⟨j0,j1⟩ ⟨i0,i1⟩ (.inl fun e2=>hu e2.symm) e⟩
theorem PT {a:Int}:dT c (ao m (adr c v 1) a) v=dT c m v∧dB c (ao m (adr c v 1) a) v=a∧∀ x,dS c (ao m (adr c v 1) a) v x=dS c m v x:=by
 have hD:=(aC hc).2.2.1
 have hin:=Eb hc h0 h1 hl (j:=1) (by decide) (by omega)
 refine ⟨aE _ (uM hc ⟨by decide,by omega⟩ ⟨by decide,by omega⟩ (.inr (by decide))),eh _ (by have:=(aC hc).2.2.2.1;omega) hin.2,fun x => ?_⟩
 have:=Bm hc x
 exact aE _ (uM hc ⟨by decide,by omega⟩ ⟨by omega,by omega⟩ (.inr (by omega)))
theorem WM {a:Int}:dT c (ao m (adr c v 0) a) v=a∧dB c (ao m (adr c v 0) a) v=dB c m v∧∀ x,dS c (ao m (adr c v 0) a) v x=dS c m v x:=by
 have hD:=(aC hc).2.2.1
 have hin:=Eb hc h0 h1 hl (j:=0) (by decide) (by omega)
 refine ⟨eh _ (by have:=(aC hc).2.2.2.1;omega) hin.2,aE _ (uM hc ⟨by decide,by omega⟩ ⟨by decide,by omega⟩ (.inr (by decide))),fun x => ?_⟩
 have:=Bm hc x
 exact aE _ (uM hc ⟨by decide,by omega⟩ ⟨by omega,by omega⟩ (.inr (by omega)))
theorem YH {X a:Int}:dT c (ao m (adr c v (3+X%c.2.1)) a) v=dT c m v∧dB c (ao m (adr c v (3+X%c.2.1)) a) v=dB c m v∧dS c (ao m (adr c v (3+X%c.2.1)) a) v X=a∧∀ x,x%c.2.1≠X%c.2.1→dS c (ao m (adr c v (3+X%c.2.1)) a) v x=dS c m v x:=by
 have hD:=(aC hc).2.2.1
 have hX:=Bm hc X
 have hin:=Eb hc h0 h1 hl (j:=3+X%c.2.1) (by omega) (by omega)
 refine ⟨aE _ (uM hc ⟨by omega,by omega⟩ ⟨by decide,by omega⟩ (.inr (by omega))),aE _ (uM hc ⟨by omega,by omega⟩ ⟨by decide,by omega⟩ (.inr (by omega))),eh _ (by have:=(aC hc).2.2.2.1;omega) hin.2,fun x hx => ?_⟩
 have:=Bm hc x
 exact aE _ (uM hc ⟨by omega,by omega⟩ ⟨by omega,by omega⟩ (.inr (by omega)))
theorem PV (hf:PsF c m v f) (hv:VOk c m v (dB c m v)) :
  InjEq c m (eO c m f).1∧(∀ u,u≠v→DEq c m (eO c m f).1 u)∧dT c (eO c m f).1 v=dT c m v∧(∀ y,dT c m v≤y→y<dB c m v→dS c (eO c m f).1 v y=dS c m v y) ∧
   ((ej (eO c m f).2=false∧PsF c (eO c m f).1 v (eO c m f).2∧dB c (eO c m f).1 v=dB c m v∧(eO c m f).2.2.2.2.1=f.2.2.2.1) ∨
    (ej (eO c m f).2=true∧(eO c m f).2.2.2.2.2.2.2=2∧dB c (eO c m f).1 v=dB c m v∧(eO c m f).2.2.2.2.1=f.2.2.2.1) ∨
    (ej (eO c m f).2=true∧(eO c m f).2.2.2.2.2.2.2=1∧dB c (eO c m f).1 v=dB c m v+1∧dB c m v+1≤dT c m v+c.2.1∧dS c (eO c m f).1 v (dB c m v)=f.2.2.2.1)):=by
 obtain ⟨op,pc,who,val,X,Y,res⟩:=f
 obtain ⟨ho,hw,hr,hp,p1,p2,p3⟩:=hf
 obtain ⟨t0,tl,rm,bd⟩:=hv
 dsimp only at *
 subst ho hw hr
 rw [eO,if_neg (P6 hc hl ⟨rfl,h0,h1,rfl,by dsimp only;omega,by dsimp only;omega⟩)]
 dsimp only
 rw [I5 hc h0 h1,Jr hc h0 h1]
 have eT:ah m (adr c who 0)=dT c m who:=rfl
 have eB:ah m (adr c who 1)=dB c m who:=rfl
 rw [eT,eB]
 by_cases e0:pc=0
 ·rw [if_pos e0]
  exact ⟨.rfl',fun _ _ => .rfl',rfl,fun _ _ _=>rfl,.inl ⟨rfl,⟨rfl,rfl,rfl,by dsimp only;decide,fun _=>rfl,fun h=>absurd h (show ¬ (2:Int)≤1 by decide),fun h=>absurd h (show ¬ (1:Int)=3 by decide)⟩,rfl,rfl⟩⟩
 rw [if_neg e0]
 have eX:=p1 (by omega)
 subst eX
 by_cases e1:pc=1
 ·rw [if_pos e1]
  have hs:OS (dB c m who) (dT c m who)=dB c m who - dT c m who:=by unfold OS;omega
  rw [hs]
  by_cases hfull:c.2.1≤dB c m who - dT c m who
  ·rw [if_pos hfull]
   exact ⟨.rfl',fun _ _ => .rfl',rfl,fun _ _ _=>rfl,.inr (.inl ⟨rfl,rfl,rfl,rfl⟩)⟩
  ·rw [if_neg hfull]
   exact ⟨.rfl',fun _ _ => .rfl',rfl,fun _ _ _=>rfl,.inl ⟨rfl,⟨rfl,rfl,rfl,by dsimp only;decide,fun _=>rfl,fun h=>⟨Int.le_refl _,by dsimp only;omega⟩,fun h=>absurd h (show ¬ (2:Int)=3 by decide)⟩,rfl,rfl⟩⟩
 rw [if_neg e1]
 have e2':=p2 (by omega)
 by_cases e2:pc=2
 ·rw [if_pos e2,EZ hc h0 h1 (by omega) (by omega)]
  have hX:=Bm hc (dB c m who)
  obtain ⟨a1,a2⟩:=wO hc hl h0 h1 (j:=3+dB c m who%c.2.1) (a:=val) (by omega) (by omega)
  obtain ⟨b1,b2,b3,b4⟩:=YH hc hl h0 h1 (X:=dB c m who) (a:=val)
  refine ⟨a1,a2,b1,fun y y0 y1=>b4 y (akd hc y1 (by omega)),.inl ⟨rfl,⟨rfl,rfl,rfl,by dsimp only;decide,fun _=>b2.symm,fun _=>⟨by rw [b1];exact e2'.1,e2'.2⟩,fun _=>b3⟩,b2,rfl⟩⟩
 ·rw [if_neg e2]
  obtain ⟨a1,a2⟩:=wO hc hl h0 h1 (j:=1) (a:=fG (dB c m who) 1) (by decide) (by have:=(aC hc).2.2.1;omega)
  obtain ⟨b1,b2,b3⟩:=PT hc hl h0 h1 (a:=fG (dB c m who) 1)
  refine ⟨a1,a2,b1,fun y _ _=>b3 y,.inr (.inr ⟨rfl,rfl,by rw [b2,mI (by omega)],by omega,by rw [b3];exact p3 (by omega)⟩)⟩
theorem TP (hwm:Wm m) (hf:PoF c m v f) (hv:VOk c m v (hiP f (dB c m v))) :
  InjEq c m (k7 c m f).1∧(∀ u,u≠v→DEq c m (k7 c m f).1 u)∧(∀ y,dS c (k7 c m f).1 v y=dS c m v y) ∧
   ((ej (k7 c m f).2=false∧PoF c (k7 c m f).1 v (k7 c m f).2∧VOk c (k7 c m f).1 v (hiP (k7 c m f).2 (dB c (k7 c m f).1 v))∧hiP (k7 c m f).2 (dB c (k7 c m f).1 v)≤hiP f (dB c m v) ∧
     (∀ k,dqN c (k7 c m f).1 v (hiP (k7 c m f).2 (dB c (k7 c m f).1 v)) k+hdP c (k7 c m f).1 (k7 c m f).2 k=dqN c m v (hiP f (dB c m v)) k+hdP c m f k) ∧
     (dT c (k7 c m f).1 v=dT c m v∧(dT c m v<hiP f (dB c m v)→dT c m v<hiP (k7 c m f).2 (dB c (k7 c m f).1 v))∨dT c (k7 c m f).1 v=dT c m v+1)) ∨
    (ej (k7 c m f).2=true∧dT c (k7 c m f).1 v=dT c m v∧dB c (k7 c m f).1 v=hiP f (dB c m v) ∧
     ((k7 c m f).2.2.2.2.2.2.2=1∧(∀ k,hdP c m f k=if (k7 c m f).2.2.2.2.1=k then 1 else 0)∨(k7 c m f).2.2.2.2.2.2.2≠1∧∀ k,hdP c m f k=0))):=by
 obtain ⟨op,pc,who,val,X,Y,res⟩:=f
 obtain ⟨ho,hw,hr,hp,p1,p2,p3,p4,p5⟩:=hf
 dsimp only at *
 subst ho hw hr
 have hm:=aC hc
 rw [k7,if_neg (P6 hc hl ⟨rfl,h0,h1,rfl,by dsimp only;omega,by dsimp only;omega⟩)]
 dsimp only
 rw [I5 hc h0 h1,Jr hc h0 h1]
 have eT:ah m (adr c who 0)=dT c m who:=rfl
 have eB:ah m (adr c who 1)=dB c m who:=rfl
 rw [eT,eB]
 by_cases e0:pc=0
 ·subst e0
  rw [if_pos rfl]
  dsimp only
  refine ⟨.rfl',fun _ _ => .rfl',fun _=>rfl,.inl ⟨rfl,⟨rfl,rfl,rfl,by dsimp only;decide,fun _=>rfl,fun h=>absurd h (show ¬ (2:Int)≤1 by decide),fun h=>absurd h (show ¬ ((1:Int)=3∨(1:Int)=4) by decide),fun h=>absurd h (show ¬ (1:Int)=4 by decide),fun h=>absurd h (show ¬ ((1:Int)=5∨(1:Int)=6) by decide)⟩,hv,Int.le_refl _,fun k=>rfl,.inl ⟨rfl,fun h=>h⟩⟩⟩
 rw [if_neg e0]
 by_cases e1:pc=1
 ·subst e1
  rw [if_pos rfl]
  have eX:=p1 rfl
  obtain ⟨a1,a2⟩:=wO hc hl h0 h1 (j:=1) (a:=X) (by decide) (by omega)
  obtain ⟨b1,b2,b3⟩:=PT hc hl h0 h1 (a:=X)
  obtain ⟨t0,tl,rm,bd⟩:=hv
  have hh:hiP (1,1,who,val,X,Y,0) (dB c m who)=dB c m who:=rfl
  rw [hh] at tl rm bd
  have hh':hiP (1,2,who,val,X,Y,0) (dB c (ao m (adr c who 1) X) who)=dB c m who:=by
   unfold hiP
   rw [if_pos (.inl rfl),b2,eX]
   unfold fG OS
   omega
  rw [hh',hh]
  refine ⟨a1,a2,b3,.inl ⟨rfl,⟨rfl,rfl,rfl,by dsimp only;decide,fun h=>absurd h (show ¬ (2:Int)=1 by decide),fun _=>b2.symm,fun h=>absurd h (show ¬ ((2:Int)=3∨(2:Int)=4) by decide),fun h=>absurd h (show ¬ (2:Int)=4 by decide),fun h=>absurd h (show ¬ ((2:Int)=5∨(2:Int)=6) by decide)⟩,⟨by rw [b1];exact t0,by rw [b1];exact tl,by rw [b1];exact rm,bd⟩,Int.le_refl _,fun k => ?_,.inl ⟨b1,fun h=>h⟩⟩⟩
  rw [uP b1 (fun y _ _=>b3 y)]
  rfl
 rw [if_neg e1]
 have eX:=p2 (by omega)
 subst eX
 by_cases e2:pc=2
 ·subst e2
  rw [if_pos rfl]
  obtain ⟨t0,tl,rm,bd⟩:=hv
  have hh:hiP (1,2,who,val,dB c m who,Y,0) (dB c m who)=fG (dB c m who) 1:=rfl
  rw [hh] at tl rm bd ⊢
  by_cases hx:dB c m who=18446744073709551615
  ·have ha:fG (dB c m who) 1=0:=by rw [hx];rfl
   have hfar:wG (dB c m who) (dT c m who)<0:=by rw [hx,QN (by omega)];omega
   rw [if_pos hfar]
   dsimp only
   have hh':hiP (1,6,who,val,dB c m who,dT c m who,0) (dB c m who)=fG (dB c m who) 1:=rfl
   rw [hh']
   refine ⟨.rfl',fun _ _ => .rfl',fun _=>rfl,.inl ⟨rfl,⟨rfl,rfl,rfl,by dsimp only;decide,fun h=>absurd h (show ¬ (6:Int)=1 by decide),fun _=>rfl,fun h=>absurd h (show ¬ ((6:Int)=3∨(6:Int)=4) by decide),fun h=>absurd h (show ¬ (6:Int)=4 by decide),fun h=>by omega⟩,⟨t0,tl,rm,bd⟩,Int.le_refl _,fun k=>rfl,.inl ⟨rfl,fun h=>h⟩⟩⟩
  ·by_cases hneg:dB c m who<0∨1000000<dB c m who
   ·exfalso
    have hr:=cB hwm (adr c who 1)
    rw [eB] at hr
    unfold fG at tl rm bd
    omega
   have hb:0≤dB c m who∧dB c m who≤1000000:=by omega
   rw [mI hb] at tl rm bd ⊢
   rw [G4 hb (by omega)]
   by_cases hlt:dB c m who - dT c m who<0
   ·rw [if_pos hlt]
    dsimp only
    have hh':hiP (1,6,who,val,dB c m who,dT c m who,0) (dB c m who)=dB c m who+1:=by
     rw [← mI hb];rfl
    rw [hh']
    refine ⟨.rfl',fun _ _ => .rfl',fun _=>rfl,.inl ⟨rfl,⟨rfl,rfl,rfl,by dsimp only;decide,fun h=>absurd h (show ¬ (6:Int)=1 by decide),fun _=>rfl,fun h=>absurd h (show ¬ ((6:Int)=3∨(6:Int)=4) by decide),fun h=>absurd h (show ¬ (6:Int)=4 by decide),fun h=>by rw [mI hb];omega⟩,⟨t0,tl,rm,bd⟩,Int.le_refl _,fun k=>rfl,.inl ⟨rfl,fun h=>h⟩⟩⟩
   ·rw [if_neg hlt]
    dsimp only
    have hP:PoF c m who (1,3,who,val,dB c m who,dT c m who,0):=⟨rfl,rfl,rfl,by dsimp only;decide,fun h=>absurd h (show ¬ (3:Int)=1 by decide),fun _=>rfl,fun h=>⟨t0,Int.le_refl _,by dsimp only;omega⟩,fun h=>absurd h (show ¬ (3:Int)=4 by decide),fun h=>absurd h (show ¬ ((3:Int)=5∨(3:Int)=6) by decide)⟩
    by_cases heq:dB c m who=dT c m who
    ·have hh':hiP (1,3,who,val,dB c m who,dT c m who,0) (dB c m who)=dB c m who+1:=by
      unfold hiP
      rw [if_pos (.inr (.inr (.inr (.inr ⟨rfl,heq⟩)))),mI hb]
     rw [hh']
     refine ⟨.rfl',fun _ _ => .rfl',fun _=>rfl,.inl ⟨rfl,hP,⟨t0,tl,rm,bd⟩,Int.le_refl _,fun k => ?_,.inl ⟨rfl,fun h=>h⟩⟩⟩
     unfold hdP
     rw [if_neg (by dsimp only;omega),if_neg (by dsimp only;omega)]
    ·have hh':hiP (1,3,who,val,dB c m who,dT c m who,0) (dB c m who)=dB c m who:=by
      unfold hiP
      rw [if_neg (by dsimp only;omega)]
     rw [hh']
     refine ⟨.rfl',fun _ _ => .rfl',fun _=>rfl,.inl ⟨rfl,hP,⟨t0,by omega,by omega,by omega⟩,by omega,fun k => ?_,.inl ⟨rfl,fun h=>by omega⟩⟩⟩
     rw [Ls (by omega)]
     unfold hdP
     rw [if_neg (c:=((1:Int),(2:Int),who,val,dB c m who,Y,(0:Int)).2.1=3∧_∨_) (by dsimp only;omega)]
     by_cases hk:dS c m who (dB c m who)=k
     ·rw [if_pos (.inl ⟨rfl,heq,hk⟩),if_pos hk]
     ·rw [if_neg (by dsimp only;omega),if_neg hk]
 rw [if_neg e2]
 by_cases e3:pc=3
 ·subst e3
  rw [if_pos rfl]
  obtain ⟨q0,q1,q2⟩:=p3 (.inl rfl)
  have hb0:0≤dB c m who:=by omega
  have hb1:dB c m who≤1000000:=by
   have hr:=cB hwm (adr c who 1)
   rw [eB] at hr
   have b1:=hv.bd
   have b2:=hv.le
   unfold hiP at b1 b2
   dsimp only at b1 b2
   unfold fG at b1 b2
   split at b1
   ·rw [if_pos (by assumption)] at b2
    omega
   ·omega
  rw [EZ hc h0 h1 (by omega) (by omega)]
  have eS:ah m (adr c who (3+dB c m who%c.2.1))=dS c m who (dB c m who):=rfl
  rw [eS]
  by_cases hxy:dB c m who=Y
  ·rw [if_neg (fun h=>h hxy)]
   have hh:hiP (1,3,who,val,dB c m who,Y,0) (dB c m who)=fG (dB c m who) 1:=by
    unfold hiP
    rw [if_pos (.inr (.inr (.inr (.inr ⟨rfl,hxy⟩))))]
   have hh':hiP (1,4,who,dS c m who (dB c m who),dB c m who,Y,0) (dB c m who)=fG (dB c m who) 1:=rfl
   rw [hh] at hv ⊢
   rw [hh']
   refine ⟨.rfl',fun _ _ => .rfl',fun _=>rfl,.inl ⟨rfl,⟨rfl,rfl,rfl,by dsimp only;decide,fun h=>absurd h (show ¬ (4:Int)=1 by decide),fun _=>rfl,fun _=>⟨q0,q1,q2⟩,fun _=>⟨hxy.symm,rfl⟩,fun h=>absurd h (show ¬ ((4:Int)=5∨(4:Int)=6) by decide)⟩,hv,Int.le_refl _,fun k => ?_,.inl ⟨rfl,fun h=>h⟩⟩⟩
   unfold hdP
   rw [if_neg (by dsimp only;omega),if_neg (by dsimp only;omega)]
  ·rw [if_pos hxy]
   have hh:hiP (1,3,who,val,dB c m who,Y,0) (dB c m who)=dB c m who:=by
    unfold hiP
    rw [if_neg (by dsimp only;omega)]
   rw [hh]
   refine ⟨.rfl',fun _ _ => .rfl',fun _=>rfl,.inr ⟨rfl,rfl,rfl,.inl ⟨rfl,fun k => ?_⟩⟩⟩
   unfold hdP
   by_cases hk:dS c m who (dB c m who)=k
   ·rw [if_pos (.inl ⟨rfl,hxy,hk⟩)]
    exact (if_pos hk).symm
   ·rw [if_neg (by dsimp only;omega)]
    exact (if_neg hk).symm
 rw [if_neg e3]
 have hh:hiP (1,pc,who,val,dB c m who,Y,0) (dB c m who)=fG (dB c m who) 1:=by
  unfold hiP
  rw [if_pos (by dsimp only;omega)]
 rw [hh] at hv ⊢
 obtain ⟨t0,tl,rm,bd⟩:=hv
 by_cases e4:pc=4
 ·subst e4
  rw [if_pos rfl]
  obtain ⟨q0,q1,q2⟩:=p3 (.inr rfl)
  obtain ⟨r1,r2⟩:=p4 rfl
  have hb:0≤dB c m who∧dB c m who≤1000000:=⟨by omega,by
   have hr:=cB hwm (adr c who 1)
   rw [eB] at hr
   unfold fG at bd tl
   omega⟩
  rw [mI hb] at tl rm bd ⊢
  have hin:=Eb hc h0 h1 hl (j:=0) (by decide) (by omega)
  by_cases hy:dT c m who=Y
  ·rw [FA (by omega) hin.2 hy]
   dsimp only
   rw [if_pos rfl]
   obtain ⟨a1,a2⟩:=wO hc hl h0 h1 (j:=0) (a:=fG Y 1) (by decide) (by omega)
   obtain ⟨b1,b2,b3⟩:=WM hc hl h0 h1 (a:=fG Y 1)
   have hY:fG Y 1=dT c m who+1:=by rw [mI (by omega),hy]
   have hh':hiP (1,5,who,val,dB c m who,Y,0) (dB c (ao m (adr c who 0) (fG Y 1)) who)=dB c m who+1:=by
    rw [b2,← mI hb];rfl
   rw [hh']
   refine ⟨a1,a2,b3,.inl ⟨rfl,⟨rfl,rfl,rfl,by dsimp only;decide,fun h=>absurd h (show ¬ (5:Int)=1 by decide),fun _=>b2.symm,fun h=>absurd h (show ¬ ((5:Int)=3∨(5:Int)=4) by decide),fun h=>absurd h (show ¬ (5:Int)=4 by decide),fun h=>by rw [b1,b2,mI hb,hY];omega⟩,⟨by rw [b1];omega,by rw [b1];omega,by rw [b1];omega,bd⟩,Int.le_refl _,fun k => ?_,.inr (by rw [b1,hY])⟩⟩
   rw [Q6 (m:=m) (m':=ao m (adr c who 0) (fG Y 1)) (by omega) (by rw [b1,hY]) b3]
   unfold hdP
   rw [if_neg (c:=((1:Int),(4:Int),who,val,dB c m who,Y,(0:Int)).2.1=3∧_∨_) (by dsimp only;omega)]
   have e:dS c m who (dT c m who)=val:=by rw [r2,hy,r1]
   rw [e]
   by_cases hk:val=k
   ·rw [if_pos (.inr ⟨rfl,hk⟩),if_pos hk]
   ·rw [if_neg (by dsimp only;omega),if_neg hk]
  ·rw [LU hy]
   dsimp only
   rw [if_neg (by decide)]
   have hh':hiP (1,6,who,val,dB c m who,Y,0) (dB c m who)=dB c m who+1:=by
    rw [← mI hb];rfl
   rw [hh']
   refine ⟨.rfl',fun _ _ => .rfl',fun _=>rfl,.inl ⟨rfl,⟨rfl,rfl,rfl,by dsimp only;decide,fun h=>absurd h (show ¬ (6:Int)=1 by decide),fun _=>rfl,fun h=>absurd h (show ¬ ((6:Int)=3∨(6:Int)=4) by decide),fun h=>absurd h (show ¬ (6:Int)=4 by decide),fun h=>by rw [mI hb];omega⟩,⟨t0,tl,rm,bd⟩,Int.le_refl _,fun k => ?_,.inl ⟨rfl,fun h=>h⟩⟩⟩
   unfold hdP
   rw [if_neg (by dsimp only;omega),if_neg (by dsimp only;omega)]
 rw [if_neg e4]
 obtain ⟨a1,a2⟩:=wO hc hl h0 h1 (j:=1) (a:=fG (dB c m who) 1) (by decide) (by omega)
 obtain ⟨b1,b2,b3⟩:=PT hc hl h0 h1 (a:=fG (dB c m who) 1)
 by_cases e5:pc=5
 ·subst e5
  rw [if_pos rfl]
  refine ⟨a1,a2,b3,.inr ⟨rfl,b1,b2,.inl ⟨rfl,fun k => ?_⟩⟩⟩
  unfold hdP
  by_cases hk:val=k
  ·rw [if_pos (.inr ⟨rfl,hk⟩)]
   exact (if_pos hk).symm
  ·rw [if_neg (by dsimp only;omega)]
   exact (if_neg hk).symm
 ·rw [if_neg e5]
  refine ⟨a1,a2,b3,.inr ⟨rfl,b1,b2,.inr ⟨show ¬ (3:Int)=1 by decide,fun k => ?_⟩⟩⟩
  unfold hdP
  rw [if_neg (by dsimp only;omega)]
end
theorem N2 {c:CF} {m:List Int} (hc:dl c=true) (hl:(m.length:Int)=bN c) {f:FR} {hi:Int} (h0:0≤f.2.2.1) (h1:f.2.2.1<c.1) (hf:ThF c m hi f) (hv:VOk c m f.2.2.1 hi) (hb:wG (dB c m f.2.2.1) (dT c m f.2.2.1)≤0∨dT c m f.2.2.1<hi) (hw:∀ y,0≤y→y<dT c m f.2.2.1→True) :
  InjEq c m (br c m f).1∧(∀ u,u≠f.2.2.1→DEq c m (br c m f).1 u)∧(∀ y,dS c (br c m f).1 f.2.2.1 y=dS c m f.2.2.1 y)∧dB c (br c m f).1 f.2.2.1=dB c m f.2.2.1 ∧
   ((ej (br c m f).2=false∧(br c m f).1=m∧ThF c m hi (br c m f).2∧(br c m f).2.2.2.1=f.2.2.1) ∨
    (ej (br c m f).2=true∧(br c m f).2.2.2.2.2.2.2≠1∧(br c m f).1=m) ∨
    (ej (br c m f).2=true∧(br c m f).2.2.2.2.2.2.2=1∧dT c (br c m f).1 f.2.2.1=dT c m f.2.2.1+1∧dT c m f.2.2.1<hi∧(br c m f).2.2.2.2.1=dS c m f.2.2.1 (dT c m f.2.2.1))):=by
 obtain ⟨op,pc,who,val,X,Y,res⟩:=f
 obtain ⟨ho,hr,hp,p1,p2,p3⟩:=hf
 obtain ⟨t0,tl,rm,bd⟩:=hv
 dsimp only at *
 subst ho hr
 have hm:=aC hc
 rw [br,if_neg (P6 hc hl ⟨rfl,h0,h1,rfl,by dsimp only;omega,by dsimp only;omega⟩)]
 dsimp only
 rw [I5 hc h0 h1,Jr hc h0 h1]
 have eT:ah m (adr c who 0)=dT c m who:=rfl
 have eB:ah m (adr c who 1)=dB c m who:=rfl
 rw [eT,eB]
 by_cases e0:pc=0
 ·rw [if_pos e0]
  exact ⟨.rfl',fun _ _ => .rfl',fun _=>rfl,rfl,.inl ⟨rfl,rfl,⟨rfl,rfl,by dsimp only;decide,fun _=>⟨t0,Int.le_refl _⟩,fun h=>absurd h (show ¬ (2:Int)≤1 by decide),fun h=>absurd h (show ¬ (1:Int)=3 by decide)⟩,rfl⟩⟩
 rw [if_neg e0]
 have q1:=p1 (by omega)
 by_cases e1:pc=1
 ·rw [if_pos e1]
  by_cases hfar:wG (dB c m who) Y≤0
  ·rw [if_pos hfar]
   exact ⟨.rfl',fun _ _ => .rfl',fun _=>rfl,rfl,.inr (.inl ⟨rfl,show ¬ (3:Int)=1 by decide,rfl⟩)⟩
  ·rw [if_neg hfar]
   refine ⟨.rfl',fun _ _ => .rfl',fun _=>rfl,rfl,.inl ⟨rfl,rfl,⟨rfl,rfl,by dsimp only;decide,fun _=>q1,fun _ e => ?_,fun h=>absurd h (show ¬ (2:Int)=3 by decide)⟩,rfl⟩⟩
   dsimp only at e ⊢
   rw [e] at hfar
   omega
 rw [if_neg e1]
 by_cases e2:pc=2
 ·rw [if_pos e2,EZ hc h0 h1 (by omega) (by omega)]
  refine ⟨.rfl',fun _ _ => .rfl',fun _=>rfl,rfl,.inl ⟨rfl,rfl,⟨rfl,rfl,by dsimp only;decide,fun _=>q1,fun _ e=>p2 (by omega) e,fun _ e => ?_⟩,rfl⟩⟩
  dsimp only at e ⊢
  rw [e]
  rfl
 ·rw [if_neg e2]
  have hin:=Eb hc h0 h1 hl (j:=0) (by decide) (by omega)
  by_cases hy:dT c m who=Y
  ·rw [FA (by omega) hin.2 hy]
   dsimp only
   rw [if_pos rfl]
   obtain ⟨a1,a2⟩:=wO hc hl h0 h1 (j:=0) (a:=fG Y 1) (by decide) (by omega)
   obtain ⟨b1,b2,b3⟩:=WM hc hl h0 h1 (a:=fG Y 1)
   exact ⟨a1,a2,b3,b2,.inr (.inr ⟨rfl,rfl,by dsimp only;rw [b1,mI (by omega),hy],p2 (by omega) hy.symm,p3 (by omega) hy.symm⟩)⟩
  ·rw [LU hy]
   dsimp only
   rw [if_neg (by decide)]
   exact ⟨.rfl',fun _ _ => .rfl',fun _=>rfl,rfl,.inr (.inl ⟨rfl,show ¬ (4:Int)=1 by decide,rfl⟩)⟩
end Go.Ab
set_option linter.unusedVariables false
namespace Go.Ab
theorem Rf {c:CF} {m:List Int} (hc:dl c=true) (hl:(m.length:Int)=bN c) {f:FR} {op:Int} (h:f.2.2.2.2.2.2=0∧f.1=op∧0≤f.2.1∧f.2.1<5):¬ ry c m f op=false:=by
 unfold ry
 rw [hc,decide_eq_true hl,decide_eq_true h]
 decide
theorem InjEq.efr {c:CF} {m m':List Int} (h:InjEq c m m') {f:FR} (hf:EFr c m f):EFr c m' f:=
 ⟨hf.op,hf.res,hf.pc,fun e=>by rw [h.t];exact hf.p1 e,fun e e2=>by rw [h.s];exact hf.p2 e (by rw [← h.t];exact e2),fun e=>by rw [h.t,h.s];exact hf.p3 e,fun e=>by rw [h.v];exact hf.p4 e⟩
theorem InjEq.dfr {c:CF} {m m':List Int} (h:InjEq c m m') {f:FR} (hf:DFr c m f):DFr c m' f:=
 ⟨hf.op,hf.res,hf.pc,fun e=>by rw [h.h];exact hf.p1 e,fun e e2=>by rw [h.s];exact hf.p2 e (by rw [← h.h];exact e2),fun e=>by rw [h.h,h.s];exact hf.p3 e⟩
theorem InjEq.hd {c:CF} {m m':List Int} (h:InjEq c m m') (f:FR) (k:Int):hdD c m' f k=hdD c m f k:=by
 unfold hdD
 rw [h.v]
theorem InjEq.n {c:CF} {m m':List Int} (h:InjEq c m m') (k:Int):pS c m' k=pS c m k:=by
 unfold pS
 rw [h.t,h.h]
 exact fZ fun i _=>by rw [h.s,h.v]
theorem InjEq.inj {c:CF} {m m':List Int} (h:InjEq c m m') {cE cD:Int→Nat} (hI:InjI c m cE cD):InjI c m' cE cD:=
 ⟨by rw [h.h];exact hI.h0,by rw [h.h,h.t];exact hI.ht,by rw [h.t];exact hI.tb,fun x a b=>by rw [h.s];exact hI.a x a (by rw [← h.t];exact b),fun x a=>by rw [h.s];exact hI.b x (by rw [← h.t];exact a),fun x a b=>by rw [h.s];exact hI.r x a (by rw [← h.h];exact b),fun x a=>by rw [h.s];exact hI.d x (by rw [← h.h];exact a)⟩
section
variable {c:CF} {m:List Int} (hc:dl c=true) (hl:(m.length:Int)=bN c) {f:FR} {c0 cD cE d0:Int→Nat}
include hc hl
theorem LV (hI:InjI c m (fun q=>c0 q+clF f q) cD) (hf:EFr c m f) (hD:∀ x,0<cD x→sqI c m x=2*dG c x+1) (hE:∀ x,0<c0 x→sqI c m x=2*dG c x) (hb:ah m 5+1≤1000000) :
  (∀ u,0≤u→u<c.1→DEq c m (lb c m f).1 u)∧(∀ g,EFr c m g→(3≤g.2.1→3≤f.2.1→g.2.2.2.2.1≠f.2.2.2.2.1)→EFr c (lb c m f).1 g)∧(∀ g,DFr c m g→DFr c (lb c m f).1 g∧∀ k,hdD c (lb c m f).1 g k=hdD c m g k)∧ah (lb c m f).1 5≤ah m 5+1 ∧
   ((ej (lb c m f).2=false∧EFr c (lb c m f).1 (lb c m f).2∧InjI c (lb c m f).1 (fun q=>c0 q+clF (lb c m f).2 q) cD∧(∀ k,pS c (lb c m f).1 k=pS c m k)∧(lb c m f).2.2.2.2.1=f.2.2.2.1) ∨
    (ej (lb c m f).2=true∧(lb c m f).2.2.2.2.2.2.2=2∧InjI c (lb c m f).1 c0 cD∧(∀ k,pS c (lb c m f).1 k=pS c m k)∧(lb c m f).2.2.2.2.1=f.2.2.2.1) ∨
    (ej (lb c m f).2=true∧(lb c m f).2.2.2.2.2.2.2=1∧InjI c (lb c m f).1 c0 cD∧∀ k,pS c (lb c m f).1 k=pS c m k+if f.2.2.2.1=k then 1 else 0)):=by
 obtain ⟨op,pc,who,val,X,Y,res⟩:=f
 obtain ⟨ho,hr,hp,p1,p2,p3,p4⟩:=hf
 dsimp only at *
 subst ho hr
 have hm:=aC hc
 have hs:=mR hc hl
 have t0:=hI.h0
 have t1:=hI.ht
 have low:∀ p:Int,p<3→(fun q=>c0 q+clF (3,p,who,val,X,Y,0) q)=c0:=fun p hp=>funext fun q=>by
  unfold clF
  rw [if_neg (by dsimp only;omega)]
  rfl
 have low2:∀ p x y:Int,p<3→(fun q=>c0 q+clF (3,p,who,val,x,y,0) q)=c0:=fun p x y hp=>funext fun q=>by
  unfold clF
  rw [if_neg (by dsimp only;omega)]
  rfl
 have hi3:∀ p y:Int,3≤p→(fun q=>c0 q+clF (3,p,who,val,X,y,0) q)=fun q=>c0 q+OI X q:=fun p y hp=>funext fun q=>by
  unfold clF OI
  by_cases e:X=q
  ·rw [if_pos ⟨hp,e⟩,if_pos e]
  ·rw [if_neg (fun h=>e h.2),if_neg e]
 rw [lb,if_neg (Rf hc hl ⟨rfl,rfl,by dsimp only;omega,by dsimp only;omega⟩)]
 dsimp only
 by_cases e0:pc=0
 ·rw [if_pos e0]
  dsimp only
  rw [low pc (by omega)] at hI
  refine ⟨fun _ _ _ => .rfl',fun g hg _=>hg,fun g hg=>⟨hg,fun _=>rfl⟩,by omega,.inl ⟨rfl,⟨rfl,rfl,by dsimp only;decide,fun _=>⟨by dsimp only;omega,Int.le_refl _⟩,fun h=>absurd h (show ¬ (1:Int)=2 by decide),fun h=>absurd h (show ¬ (3:Int)≤1 by decide),fun h=>absurd h (show ¬ (1:Int)=4 by decide)⟩,?_,fun _=>rfl,rfl⟩⟩
  rw [low2 1 _ _ (by decide)]
  exact hI
 rw [if_neg e0]
 by_cases e1:pc=1
 ·rw [if_pos e1]
  have q1:=p1 (.inl e1)
  rw [low pc (by omega)] at hI
  rw [J7 hc q1.1 (by omega)]
  have eS:ah m (nH c X)=sqI c m X:=rfl
  rw [eS]
  by_cases hfree:sqI c m X=2*dG c X
  ·rw [if_pos hfree]
   dsimp only
   refine ⟨fun _ _ _ => .rfl',fun g hg _=>hg,fun g hg=>⟨hg,fun _=>rfl⟩,by omega,.inl ⟨rfl,⟨rfl,rfl,by dsimp only;decide,fun _=>q1,fun _ _=>hfree,fun h=>absurd h (show ¬ (3:Int)≤2 by decide),fun h=>absurd h (show ¬ (2:Int)=4 by decide)⟩,?_,fun _=>rfl,rfl⟩⟩
   rw [low2 2 _ _ (by decide)]
   exact hI
  rw [if_neg hfree]
  by_cases hfar:wG (sqI c m X) (2*dG c X)<0
  ·rw [if_pos hfar]
   exact ⟨fun _ _ _ => .rfl',fun g hg _=>hg,fun g hg=>⟨hg,fun _=>rfl⟩,by dsimp only;omega,.inr (.inl ⟨rfl,rfl,hI,fun _=>rfl,rfl⟩)⟩
  ·rw [if_neg hfar]
   dsimp only
   refine ⟨fun _ _ _ => .rfl',fun g hg _=>hg,fun g hg=>⟨hg,fun _=>rfl⟩,by omega,.inl ⟨rfl,⟨rfl,rfl,by dsimp only;decide,fun h=>absurd h (show ¬ ((0:Int)=1∨(0:Int)=2) by decide),fun h=>absurd h (show ¬ (0:Int)=2 by decide),fun h=>absurd h (show ¬ (3:Int)≤0 by decide),fun h=>absurd h (show ¬ (0:Int)=4 by decide)⟩,?_,fun _=>rfl,rfl⟩⟩
   rw [low2 0 _ _ (by decide)]
   exact hI
 rw [if_neg e1]
 by_cases e2:pc=2
 ·rw [if_pos e2]
  have q1:=p1 (.inr e2)
  rw [low pc (by omega)] at hI
  rw [mI (by omega)]
  by_cases hx:ah m 5=X
  ·rw [FA (by decide) (by omega) hx]
   dsimp only
   rw [if_pos rfl]
   have hfree:=p2 e2 hx.symm
   obtain ⟨i1,i2⟩:=PS hc hl hI hx.symm hfree (by omega)
   have l5:ah (ao m 5 (X+1)) 5=X+1:=eh _ (by decide) (by omega)
   have l4:ah (ao m 5 (X+1)) 4=ah m 4:=aE _ (by decide)
   have sq:=fun y=>L5 hc hl (i:=5) (X+1) y (by decide)
   have vl:=fun y=>Lc hc hl (i:=5) (X+1) y (by decide)
   refine ⟨fun u u0 u1=>mW hc u0 u1 (by omega),fun g hg _=>⟨hg.op,hg.res,hg.pc,fun e => ?_,fun e e' => ?_,fun e => ?_,fun e => ?_⟩,fun g hg=>⟨⟨hg.op,hg.res,hg.pc,fun e => ?_,fun e e' => ?_,fun e => ?_⟩,fun k => ?_⟩,by rw [l5];omega,.inl ⟨rfl,⟨rfl,rfl,by dsimp only;decide,fun h=>absurd h (show ¬ ((3:Int)=1∨(3:Int)=2) by decide),fun h=>absurd h (show ¬ (3:Int)=2 by decide),fun _ => ?_,fun h=>absurd h (show ¬ (3:Int)=4 by decide)⟩,?_,i2,rfl⟩⟩
   ·have:=hg.p1 e;rw [l5];omega
   ·have:=hg.p1 (.inr e);rw [l5] at e';omega
   ·have:=hg.p3 e;rw [l5,sq];exact ⟨this.1,by omega,this.2.2⟩
   ·rw [vl];exact hg.p4 e
   ·rw [l4];exact hg.p1 e
   ·rw [l4] at e';rw [sq];exact hg.p2 e e'
   ·rw [l4,sq];exact hg.p3 e
   ·unfold hdD;rw [vl]
   ·dsimp only;rw [l5,sq];exact ⟨q1.1,by omega,hfree⟩
   ·rw [hi3 3 Y (by decide)];exact i1
  ·rw [LU hx]
   dsimp only
   rw [if_neg (by decide)]
   refine ⟨fun _ _ _ => .rfl',fun g hg _=>hg,fun g hg=>⟨hg,fun _=>rfl⟩,by omega,.inl ⟨rfl,⟨rfl,rfl,by dsimp only;decide,fun h=>absurd h (show ¬ ((0:Int)=1∨(0:Int)=2) by decide),fun h=>absurd h (show ¬ (0:Int)=2 by decide),fun h=>absurd h (show ¬ (3:Int)≤0 by decide),fun h=>absurd h (show ¬ (0:Int)=4 by decide)⟩,?_,fun _=>rfl,rfl⟩⟩
   rw [low2 0 _ _ (by decide)]
   exact hI
 rw [if_neg e2]
 obtain ⟨x0,x1,hfree⟩:=p3 (by omega)
 rw [hi3 pc Y (by omega)] at hI
 have hsx:=Bm hc X
 have sI0:=Int.emod_nonneg X (show c.2.2.1≠0 by omega)
 have sI1:=Int.emod_lt_of_pos X (show 0<c.2.2.1 by omega)
 by_cases e3:pc=3
 ·rw [if_pos e3]
  dsimp only
  obtain ⟨i1,i2,i3,i4⟩:=abf hc hl (v:=val) hI x0 x1 hfree
  obtain ⟨l4,l5⟩:=KR hc hl X val
  have sq:=fun y=>GQ hc hl X val y
  refine ⟨fun u u0 u1=>mW hc u0 u1 (by rw [Ai hc];omega),fun g hg hne=>⟨hg.op,hg.res,hg.pc,fun e => ?_,fun e e' => ?_,fun e => ?_,fun e => ?_⟩,fun g hg=>⟨⟨hg.op,hg.res,hg.pc,fun e => ?_,fun e e' => ?_,fun e => ?_⟩,fun k => ?_⟩,by rw [l5];omega,.inl ⟨rfl,⟨rfl,rfl,by dsimp only;decide,fun h=>absurd h (show ¬ ((4:Int)=1∨(4:Int)=2) by decide),fun h=>absurd h (show ¬ (4:Int)=2 by decide),fun _ => ?_,fun _ => ?_⟩,?_,i2,rfl⟩⟩
  ·rw [l5];exact hg.p1 e
  ·rw [l5] at e';rw [sq];exact hg.p2 e e'
  ·rw [l5,sq];exact hg.p3 e
  ·rw [i3 _ (hg.p3 (by omega)).2.2 (hne (by omega) (by omega))];exact hg.p4 e
  ·rw [l4];exact hg.p1 e
  ·rw [l4] at e';rw [sq];exact hg.p2 e e'
  ·rw [l4,sq];exact hg.p3 e
  ·unfold hdD
   by_cases e:g.2.1=3
   ·rw [i4 _ (hg.p3 (by omega)).2.2]
   ·simp only [e,false_and]
  ·dsimp only;rw [l5,sq];exact ⟨x0,x1,hfree⟩
  ·dsimp only;rw [Mx hc hl,if_pos rfl]
  ·rw [hi3 4 Y (by decide)];exact i1
 ·rw [if_neg e3]
  have hX:X≤1000000:=by omega
  rw [J7 hc x0 hX]
  have hlap:=wD hc x0
  rw [show fG (2*dG c X) 1=2*dG c X+1 by unfold fG;omega]
  obtain ⟨i1,i2,i3⟩:=acl hc hl hI hD hE x0 x1 hfree
  obtain ⟨l4,l5⟩:=AJ hc hl X (2*dG c X+1)
  have vl:=fun y=>uS hc hl X (2*dG c X+1) y
  have sq:=fun y=>AH hc hl X (2*dG c X+1) y
  have keep:∀ y,sqI c m y=2*dG c y→y≠X→sqI c (ao m (nH c X) (2*dG c X+1)) y=sqI c m y:=fun y hy hn=>by
   rw [sq,if_neg]
   intro e
   have:=rz hc hl (m:=m) e
   exact hn (Rh e (by omega))
  refine ⟨fun u u0 u1=>mW hc u0 u1 (by rw [pb hc];omega),fun g hg hne=>⟨hg.op,hg.res,hg.pc,fun e => ?_,fun e e' => ?_,fun e => ?_,fun e => ?_⟩,fun g hg=>⟨⟨hg.op,hg.res,hg.pc,fun e => ?_,fun e e' => ?_,fun e => ?_⟩,fun k => ?_⟩,by dsimp only;rw [l5];omega,.inr (.inr ⟨rfl,rfl,i1,fun k => ?_⟩)⟩
  ·dsimp only;rw [l5];exact hg.p1 e
  ·dsimp only at e' ⊢
   rw [l5] at e'
   rw [keep _ (hg.p2 e e') (by omega)];exact hg.p2 e e'
  ·dsimp only
   have:=hg.p3 e
   rw [l5,keep _ this.2.2 (hne e (by omega))];exact this
  ·dsimp only;rw [vl];exact hg.p4 e
  ·dsimp only;rw [l4];exact hg.p1 e
  ·dsimp only at e' ⊢
   rw [l4] at e'
   have:=hg.p2 e e'
   rw [i3 _ (by omega)];exact this
  ·dsimp only
   have:=hg.p3 e
   rw [l4,i3 _ (by omega)];exact this
  ·unfold hdD;dsimp only;rw [vl]
  ·rw [i2,p4 (by omega)]
theorem Uj (hw:Wm m) (hI:InjI c m cE (fun q=>d0 q+clF f q)) (hf:DFr c m f) (hD:∀ x,0<d0 x→sqI c m x=2*dG c x+1) (hE:∀ x,0<cE x→sqI c m x=2*dG c x) :
  (∀ u,0≤u→u<c.1→DEq c m (lZ c m f).1 u)∧(∀ g,DFr c m g→(3≤g.2.1→3≤f.2.1→g.2.2.2.2.1≠f.2.2.2.2.1)→DFr c (lZ c m f).1 g∧∀ k,hdD c (lZ c m f).1 g k=hdD c m g k)∧(∀ g,EFr c m g→EFr c (lZ c m f).1 g)∧ah (lZ c m f).1 5=ah m 5 ∧
   ((ej (lZ c m f).2=false∧DFr c (lZ c m f).1 (lZ c m f).2∧InjI c (lZ c m f).1 cE (fun q=>d0 q+clF (lZ c m f).2 q)∧∀ k,pS c (lZ c m f).1 k+hdD c (lZ c m f).1 (lZ c m f).2 k=pS c m k+hdD c m f k) ∨
    (ej (lZ c m f).2=true∧(lZ c m f).2.2.2.2.2.2.2=1∧InjI c (lZ c m f).1 cE d0∧(∀ k,pS c (lZ c m f).1 k=pS c m k)∧∀ k,hdD c m f k=if (lZ c m f).2.2.2.2.1=k then 1 else 0) ∨
    (ej (lZ c m f).2=true∧(lZ c m f).2.2.2.2.2.2.2≠1∧InjI c (lZ c m f).1 cE d0∧(∀ k,pS c (lZ c m f).1 k=pS c m k)∧∀ k,hdD c m f k=0)):=by
 obtain ⟨op,pc,who,val,X,Y,res⟩:=f
 obtain ⟨ho,hr,hp,p1,p2,p3⟩:=hf
 dsimp only at *
 subst ho hr
 have hm:=aC hc
 have hs:=mR hc hl
 have t0:=hI.h0
 have t1:=hI.ht
 have t2:=hI.tb
 have low2:∀ p v x y:Int,p<3→(fun q=>d0 q+clF (4,p,who,v,x,y,0) q)=d0:=fun p v x y hp=>funext fun q=>by
  unfold clF
  rw [if_neg (by dsimp only;omega)]
  rfl
 have hi3:∀ p v y:Int,3≤p→(fun q=>d0 q+clF (4,p,who,v,X,y,0) q)=fun q=>d0 q+OI X q:=fun p v y hp=>funext fun q=>by
  unfold clF OI
  by_cases e:X=q
  ·rw [if_pos ⟨hp,e⟩,if_pos e]
  ·rw [if_neg (fun h=>e h.2),if_neg e]
 have hd0:∀ (m':List Int) (p v x y k:Int),p<3→hdD c m' (4,p,who,v,x,y,0) k=0:=fun m' p v x y k hp=>by
  unfold hdD
  rw [if_neg (by dsimp only;omega)]
 rw [lZ,if_neg (Rf hc hl ⟨rfl,rfl,by dsimp only;omega,by dsimp only;omega⟩)]
 dsimp only
 by_cases e0:pc=0
 ·rw [if_pos e0]
  dsimp only
  rw [low2 pc _ _ _ (by omega)] at hI
  refine ⟨fun _ _ _ => .rfl',fun g hg _=>⟨hg,fun _=>rfl⟩,fun g hg=>hg,rfl,.inl ⟨rfl,⟨rfl,rfl,by dsimp only;decide,fun _=>⟨by dsimp only;omega,Int.le_refl _⟩,fun h=>absurd h (show ¬ (1:Int)=2 by decide),fun h=>absurd h (show ¬ (3:Int)≤1 by decide)⟩,?_,fun k => ?_⟩⟩
  ·rw [low2 1 _ _ _ (by decide)]
   exact hI
  ·rw [hd0 _ _ _ _ _ _ (by omega),hd0 _ _ _ _ _ _ (by omega)]
 rw [if_neg e0]
 by_cases e1:pc=1
 ·rw [if_pos e1]
  have q1:=p1 (.inl e1)
  rw [low2 pc _ _ _ (by omega)] at hI
  rw [O7 hc q1.1 (by omega)]
  have eS:ah m (nH c X)=sqI c m X:=rfl
  rw [eS]
  have hr:0≤sqI c m X∧sqI c m X≤18446744073709551615:=cB hw _
  have hlap:=wD hc q1.1
  by_cases hfull:wG (sqI c m X) (2*dG c X+1)=0
  ·rw [if_pos hfull]
   dsimp only
   have he:sqI c m X=2*dG c X+1:=by
    unfold wG at hfull
    rw [ky] at hfull
    simp only [IntKind.wrap,IntKind.bits,IntKind.signed] at hfull
    simp at hfull
    omega
   refine ⟨fun _ _ _ => .rfl',fun g hg _=>⟨hg,fun _=>rfl⟩,fun g hg=>hg,rfl,.inl ⟨rfl,⟨rfl,rfl,by dsimp only;decide,fun _=>q1,fun _ _=>he,fun h=>absurd h (show ¬ (3:Int)≤2 by decide)⟩,?_,fun k => ?_⟩⟩
   ·rw [low2 2 _ _ _ (by decide)]
    exact hI
   ·rw [hd0 _ _ _ _ _ _ (by omega),hd0 _ _ _ _ _ _ (by omega)]
  rw [if_neg hfull]
  by_cases hfar:wG (sqI c m X) (2*dG c X+1)<0
  ·rw [if_pos hfar]
   exact ⟨fun _ _ _ => .rfl',fun g hg _=>⟨hg,fun _=>rfl⟩,fun g hg=>hg,rfl,.inr (.inr ⟨rfl,show ¬ (3:Int)=1 by decide,hI,fun _=>rfl,fun k=>hd0 _ _ _ _ _ _ (by omega)⟩)⟩
  ·rw [if_neg hfar]
   dsimp only
   refine ⟨fun _ _ _ => .rfl',fun g hg _=>⟨hg,fun _=>rfl⟩,fun g hg=>hg,rfl,.inl ⟨rfl,⟨rfl,rfl,by dsimp only;decide,fun h=>absurd h (show ¬ ((0:Int)=1∨(0:Int)=2) by decide),fun h=>absurd h (show ¬ (0:Int)=2 by decide),fun h=>absurd h (show ¬ (3:Int)≤0 by decide)⟩,?_,fun k => ?_⟩⟩
   ·rw [low2 0 _ _ _ (by decide)]
    exact hI
   ·rw [hd0 _ _ _ _ _ _ (by omega),hd0 _ _ _ _ _ _ (by omega)]
 rw [if_neg e1]
 by_cases e2:pc=2
 ·rw [if_pos e2]
  have q1:=p1 (.inr e2)
  rw [low2 pc _ _ _ (by omega)] at hI
  rw [mI (by omega)]
  by_cases hx:ah m 4=X
  ·rw [FA (by decide) (by omega) hx]
   dsimp only
   rw [if_pos rfl]
   have hfull:=p2 e2 hx.symm
   obtain ⟨ilt,i1,i2⟩:=MQ hc hl hI hx.symm hfull
   have l4:ah (ao m 4 (X+1)) 4=X+1:=eh _ (by decide) (by omega)
   have l5:ah (ao m 4 (X+1)) 5=ah m 5:=aE _ (by decide)
   have sq:=fun y=>L5 hc hl (i:=4) (X+1) y (by decide)
   have vl:=fun y=>Lc hc hl (i:=4) (X+1) y (by decide)
   refine ⟨fun u u0 u1=>mW hc u0 u1 (by omega),fun g hg _=>⟨⟨hg.op,hg.res,hg.pc,fun e => ?_,fun e e' => ?_,fun e => ?_⟩,fun k => ?_⟩,fun g hg=>⟨hg.op,hg.res,hg.pc,fun e => ?_,fun e e' => ?_,fun e => ?_,fun e => ?_⟩,l5,.inl ⟨rfl,⟨rfl,rfl,by dsimp only;decide,fun h=>absurd h (show ¬ ((3:Int)=1∨(3:Int)=2) by decide),fun h=>absurd h (show ¬ (3:Int)=2 by decide),fun _ => ?_⟩,?_,fun k => ?_⟩⟩
   ·have:=hg.p1 e;rw [l4];omega
   ·have:=hg.p1 (.inr e);rw [l4] at e';omega
   ·have:=hg.p3 e;rw [l4,sq];exact ⟨this.1,by omega,this.2.2⟩
   ·unfold hdD;rw [vl]
   ·rw [l5];exact hg.p1 e
   ·rw [l5] at e';rw [sq];exact hg.p2 e e'
   ·rw [l5,sq];exact hg.p3 e
   ·rw [vl];exact hg.p4 e
   ·dsimp only;rw [l4,sq];exact ⟨q1.1,by omega,hfull⟩
   ·rw [hi3 3 _ Y (by decide)];exact i1
   ·rw [hd0 m pc val X Y k (by omega),i2 k]
    unfold hdD
    dsimp only
    rw [vl]
    by_cases hk:vlI c m X=k
    ·rw [if_pos (.inl ⟨rfl,hk⟩),if_pos hk]
    ·rw [if_neg (by omega),if_neg hk]
  ·rw [LU hx]
   dsimp only
   rw [if_neg (by decide)]
   refine ⟨fun _ _ _ => .rfl',fun g hg _=>⟨hg,fun _=>rfl⟩,fun g hg=>hg,rfl,.inl ⟨rfl,⟨rfl,rfl,by dsimp only;decide,fun h=>absurd h (show ¬ ((0:Int)=1∨(0:Int)=2) by decide),fun h=>absurd h (show ¬ (0:Int)=2 by decide),fun h=>absurd h (show ¬ (3:Int)≤0 by decide)⟩,?_,fun k => ?_⟩⟩
   ·rw [low2 0 _ _ _ (by decide)]
    exact hI
   ·rw [hd0 _ _ _ _ _ _ (by omega),hd0 _ _ _ _ _ _ (by omega)]
 rw [if_neg e2]
 obtain ⟨x0,x1,hfull⟩:=p3 (by omega)
 rw [hi3 pc _ Y (by omega)] at hI
 have sI0:=Int.emod_nonneg X (show c.2.2.1≠0 by omega)
 have sI1:=Int.emod_lt_of_pos X (show 0<c.2.2.1 by omega)
 by_cases e3:pc=3
 ·rw [if_pos e3]
  subst e3
  dsimp only
  refine ⟨fun _ _ _ => .rfl',fun g hg _=>⟨hg,fun _=>rfl⟩,fun g hg=>hg,rfl,.inl ⟨rfl,⟨rfl,rfl,by dsimp only;decide,fun h=>absurd h (show ¬ ((4:Int)=1∨(4:Int)=2) by decide),fun h=>absurd h (show ¬ (4:Int)=2 by decide),fun _=>⟨x0,x1,hfull⟩⟩,?_,fun k => ?_⟩⟩
  ·rw [hi3 4 _ Y (by decide)];exact hI
  ·unfold hdD
   dsimp only
   have eV:ah m (CY c X)=vlI c m X:=rfl
   rw [eV]
   by_cases hk:vlI c m X=k
   ·rw [if_pos (.inr ⟨rfl,hk⟩),if_pos (.inl ⟨rfl,hk⟩)]
   ·rw [if_neg (by omega),if_neg (by omega)]
 ·rw [if_neg e3]
  have e4:pc=4:=by omega
  subst e4
  have hX:X≤1000000:=by omega
  rw [O7 hc x0 hX]
  have hlap:=wD hc x0
  rw [show fG (2*dG c X+1) 1=2*dG c X+2 by unfold fG;omega]
  obtain ⟨i1,i2,i3⟩:=Vh hc hl hI hD hE x0 x1 hfull
  obtain ⟨l4,l5⟩:=AJ hc hl X (2*dG c X+2)
  have vl:=fun y=>uS hc hl X (2*dG c X+2) y
  have sq:=fun y=>AH hc hl X (2*dG c X+2) y
  have keep:∀ y,sqI c m y=2*dG c y+1→y≠X→sqI c (ao m (nH c X) (2*dG c X+2)) y=sqI c m y:=fun y hy hn=>by
   rw [sq,if_neg]
   intro e
   have:=rz hc hl (m:=m) e
   exact hn (Rh e (by omega))
  refine ⟨fun u u0 u1=>mW hc u0 u1 (by rw [pb hc];omega),fun g hg hne=>⟨⟨hg.op,hg.res,hg.pc,fun e => ?_,fun e e' => ?_,fun e => ?_⟩,fun k => ?_⟩,fun g hg=>⟨hg.op,hg.res,hg.pc,fun e => ?_,fun e e' => ?_,fun e => ?_,fun e => ?_⟩,l5,.inr (.inl ⟨rfl,rfl,i1,i2,fun k => ?_⟩)⟩
  ·dsimp only;rw [l4];exact hg.p1 e
  ·dsimp only at e' ⊢
   rw [l4] at e'
   rw [keep _ (hg.p2 e e') (by omega)];exact hg.p2 e e'
  ·dsimp only
   have:=hg.p3 e
   rw [l4,keep _ this.2.2 (hne e (by omega))];exact this
  ·unfold hdD;dsimp only;rw [vl]
  ·dsimp only;rw [l5];exact hg.p1 e
  ·dsimp only at e' ⊢
   rw [l5] at e'
   have:=hg.p2 e e'
   rw [i3 _ (by omega)];exact this
  ·dsimp only
   have:=hg.p3 e
   rw [l5,i3 _ (by omega)];exact this
  ·dsimp only;rw [vl];exact hg.p4 e
  ·unfold hdD
   dsimp only [fw]
   by_cases hk:val=k
   ·rw [if_pos (.inr ⟨rfl,hk⟩)]
    exact (if_pos hk).symm
   ·rw [if_neg (by omega)]
    exact (if_neg hk).symm
end
end Go.Ab
set_option linter.unusedVariables false
namespace Go.Ab
def fk {α:Type} (g:Nat→α→Nat):Nat→List α→Nat
 | _,[]=>0
 | n,x::l=>g n x+fk g (n+1) l
theorem nt {α:Type} {g g':Nat→α→Nat}:∀ {n:Nat} {W W':List α},W'.length=W.length→(∀ (j:Nat) x x',W[j]? = some x→W'[j]? = some x'→g' (n+j) x'=g (n+j) x)→fk g' n W'=fk g n W
 | n,[],[],_,_=>rfl
 | n,[],_::_,h,_=>by simp at h
 | n,_::_,[],h,_=>by simp at h
 | n,x::l,x'::l',hl,h=>by
  rw [fk,fk,nt (n:=n+1) (W:=l) (W':=l') (by simpa using hl) (fun j z z' hz hz'=>by
   have:=h (j+1) z z' hz hz'
   rw [show n+1+j=n+(j+1) by omega]
   exact this)]
  have:=h 0 x x' rfl rfl
  rw [Nat.add_zero] at this
  rw [this]
theorem FO {α:Type} {g g':Nat→α→Nat}:∀ {n v:Nat} {W W':List α} {z z':α},W'.length=W.length→W[v]? = some z→W'[v]? = some z'→(∀ (j:Nat) x x',j≠v→W[j]? = some x→W'[j]? = some x'→g' (n+j) x'=g (n+j) x)→fk g' n W'+g (n+v) z=fk g n W+g' (n+v) z'
 | n,_,[],_,_,_,_,hz,_,_=>by simp at hz
 | n,_,_::_,[],_,_,hl,_,_,_=>by simp at hl
 | n,0,x::l,x'::l',z,z',hl,hz,hz',h=>by
  cases hz
  cases hz'
  rw [fk,fk,nt (n:=n+1) (W:=l) (W':=l') (g:=g) (g':=g') (by simpa using hl) (fun j z z' hz hz'=>by
   have:=h (j+1) z z' (by omega) hz hz'
   rw [show n+1+j=n+(j+1) by omega]
   exact this)]
  simp only [Nat.add_zero]
  omega
 | n,v+1,x::l,x'::l',z,z',hl,hz,hz',h=>by
  have ih:=FO (n:=n+1) (v:=v) (W:=l) (W':=l') (g:=g) (g':=g') (by simpa using hl) (z:=z) (z':=z') hz hz' (fun j a b hj ha hb=>by
   have:=h (j+1) a b (by omega) ha hb
   rw [show n+1+j=n+(j+1) by omega]
   exact this)
  have h0:=h 0 x x' (by omega) rfl rfl
  rw [Nat.add_zero] at h0
  rw [show n+1+v=n+(v+1) by omega] at ih
  rw [fk,fk,h0]
  omega
theorem iq {α:Type} {g:Nat→α→Nat}:∀ {n i:Nat} {W:List α} {x:α},W[i]? = some x→g (n+i) x≤fk g n W
 | n,_,[],_,h=>by simp at h
 | n,0,x::l,_,h=>by
  cases h
  rw [fk,Nat.add_zero]
  omega
 | n,i+1,x::l,y,h=>by
  have:=iq (g:=g) (n:=n+1) (i:=i) (W:=l) (x:=y) h
  rw [show n+1+i=n+(i+1) by omega] at this
  rw [fk]
  omega
theorem um {α:Type} {g:Nat→α→Nat}:∀ {n i j:Nat} {W:List α} {x z:α},i≠j→W[i]? = some x→W[j]? = some z→g (n+i) x+g (n+j) z≤fk g n W
 | n,_,_,[],_,_,_,h,_=>by simp at h
 | n,0,0,_::_,_,_,h,_,_=>absurd rfl h
 | n,0,j+1,x::l,_,z,_,h,h2=>by
  cases h
  have:=iq (g:=g) (n:=n+1) (i:=j) (W:=l) (x:=z) h2
  rw [show n+1+j=n+(j+1) by omega] at this
  rw [fk,Nat.add_zero]
  omega
 | n,i+1,0,x::l,y,_,_,h2,h=>by
  cases h
  have:=iq (g:=g) (n:=n+1) (i:=i) (W:=l) (x:=y) h2
  rw [show n+1+i=n+(i+1) by omega] at this
  rw [fk]
  simp only [Nat.add_zero]
  omega
 | n,i+1,j+1,x::l,y,z,hn,h,h2=>by
  have:=um (g:=g) (n:=n+1) (i:=i) (j:=j) (W:=l) (x:=y) (z:=z) (by omega) h h2
  rw [show n+1+i=n+(i+1) by omega,show n+1+j=n+(j+1) by omega] at this
  rw [fk]
  omega
theorem pK {α:Type} {g:Nat→α→Nat} {W:List α} {i:Nat} {x y:α} (h:W[i]? = some x):fk g 0 (W.set i y)+g i x=fk g 0 W+g i y:=by
 obtain ⟨hi,rfl⟩:=List.getElem?_eq_some_iff.1 h
 have:=FO (g:=g) (g':=g) (n:=0) (v:=i) (W:=W) (W':=W.set i y) (z:=W[i]) (z':=y) List.length_set (List.getElem?_eq_getElem hi) (List.getElem?_set_self hi) (fun j a b hj ha hb=>by
  rw [List.getElem?_set_ne (by omega),ha] at hb
  cases hb
  rfl)
 rw [Nat.zero_add] at this
 exact this
def hdW (c:CF) (m:List Int) (x:WB) (k:Int):Nat:=if x.1=0 then hdP c m x.2.2.1 k else if x.1=2 then hdD c m x.2.2.1 k else if x.1=4∨x.1=11∨x.1=12 then (if x.2.2.1.2.2.2.1=k then 1 else 0) else 0
def hiW (c:CF) (m:List Int) (v:Int) (x:WB):Int:=if x.1=0 then hiP x.2.2.1 (dB c m v) else dB c m v
def clE (x:WB) (q:Int):Nat:=if x.1=12 then clF x.2.2.1 q else 0
def clD (x:WB) (q:Int):Nat:=if x.1=2 then clF x.2.2.1 q else 0
def clS (x:SB) (q:Int):Nat:=if x.1=2 then clF x.2.2 q else 0
def wa (c:CF) (m:List Int) (W:List WB) (k:Int):Nat:=fk (fun _ x=>hdW c m x k) 0 W
def AB (c:CF) (m:List Int) (W:List WB) (k:Int):Nat:=fk (fun i x=>dqN c m i (hiW c m i x) k) 0 W
def pD (c:CF) (m:List Int) (W:List WB) (k:Int):Nat:=wa c m W k+AB c m W k+pS c m k
structure OwQ (c:CF) (m:List Int) (n:Nat) (i:Int) (x:WB):Prop where
 v:VOk c m i (hiW c m i x)
 n:hiW c m i x≤n
 po:x.1=0→PoF c m i x.2.2.1
 ps:x.1=11→PsF c m i x.2.2.1
structure OwI (c:CF) (m:List Int) (x:WB):Prop where
 de:x.1=2→DFr c m x.2.2.1
 en:x.1=12→EFr c m x.2.2.1
 ev:x.1=5∨x.1=6∨x.1=7∨x.1=8∨x.1=14→5≤x.2.2.1.1
structure MstA (n:Nat) (c:CF) (m:List Int) (W:List WB) (S:List SB):Prop where
 inj:InjI c m (fun q=>fk (fun _ x=>clE x q) 0 W+fk (fun _ x=>clS x q) 0 S) (fun q=>fk (fun _ x=>clD x q) 0 W)
 b5:ah m 5≤n
 q:∀ (i:Nat) x,W[i]? = some x→OwQ c m n i x
 i:∀ x ∈ W,OwI c m x
 th:∀ x ∈ W,x.1=3→0≤x.2.2.1.2.2.1∧x.2.2.1.2.2.1<c.1∧∀ z,W[x.2.2.1.2.2.1.toNat]? = some z→ThF c m (hiW c m x.2.2.1.2.2.1 z) x.2.2.1
 s:∀ x ∈ S,(x.1=2→EFr c m x.2.2∧x.2.2.2.2.2.1=iS x.2.1)∧(x.1=4→5≤x.2.2.1)
theorem DEq.hi {c:CF} {m m':List Int} {v:Int} (h:DEq c m m' v) (x:WB):hiW c m' v x=hiW c m v x:=by
 unfold hiW
 rw [h.b]
theorem DEq.vok {c:CF} {m m':List Int} {v hi:Int} (h:DEq c m m' v) (hv:VOk c m v hi):VOk c m' v hi:=⟨by rw [h.t];exact hv.t0,by rw [h.t];exact hv.le,by rw [h.t];exact hv.rm,hv.bd⟩
theorem DEq.pof {c:CF} {m m':List Int} {v:Int} (h:DEq c m m' v) {f:FR} (hf:PoF c m v f):PoF c m' v f:=
 ⟨hf.op,hf.who,hf.res,hf.pc,fun e=>by rw [h.b];exact hf.p1 e,fun e=>by rw [h.b];exact hf.p2 e,fun e=>by rw [h.t];exact hf.p3 e,fun e=>by rw [h.s];exact hf.p4 e,fun e=>by rw [h.t,h.b];exact hf.p5 e⟩
theorem DEq.psf {c:CF} {m m':List Int} {v:Int} (h:DEq c m m' v) {f:FR} (hf:PsF c m v f):PsF c m' v f:=
 ⟨hf.op,hf.who,hf.res,hf.pc,fun e=>by rw [h.b];exact hf.p1 e,fun e=>by rw [h.t];exact hf.p2 e,fun e=>by rw [h.s];exact hf.p3 e⟩
theorem DEq.owq {c:CF} {m m':List Int} {n n':Nat} {i:Int} {x:WB} (h:DEq c m m' i) (hn:n≤n') (hx:OwQ c m n i x):OwQ c m' n' i x:=
 ⟨by rw [h.hi];exact h.vok hx.v,by rw [h.hi];have:=hx.n;omega,fun e=>h.pof (hx.po e),fun e=>h.psf (hx.ps e)⟩
theorem DEq.n {c:CF} {m m':List Int} {v:Int} (h:DEq c m m' v) (hi k:Int):dqN c m' v hi k=dqN c m v hi k:=uP h.t fun y _ _=>h.s y
theorem DEq.hdp {c:CF} {m m':List Int} {f:FR} (h:DEq c m m' f.2.2.1) (k:Int):hdP c m' f k=hdP c m f k:=by
 unfold hdP
 rw [h.s]
theorem acR {c:CF} {m m':List Int} {n n':Nat} {i:Int} {x:WB} (hx:OwQ c m n i x) (hn:n≤n') (ht:dT c m' i=dT c m i+1) (hb:dB c m' i=dB c m i) (hs:∀ y,dS c m' i y=dS c m i y) (hlt:dT c m i<hiW c m i x):OwQ c m' n' i x:=by
 have hh:hiW c m' i x=hiW c m i x:=by unfold hiW;rw [hb]
 obtain ⟨a,b,d,e⟩:=hx.v
 refine ⟨⟨by omega,by rw [hh];omega,by rw [hh];omega,by rw [hh];exact e⟩,by rw [hh];have:=hx.n;omega,fun e0 => ?_,fun e0 => ?_⟩
 ·have hf:=hx.po e0
  refine ⟨hf.op,hf.who,hf.res,hf.pc,fun e=>by rw [hb];exact hf.p1 e,fun e=>by rw [hb];exact hf.p2 e,fun e=>by have:=hf.p3 e;omega,fun e=>by rw [hs];exact hf.p4 e,fun e => ?_⟩
  have h5:=hf.p5 e
  unfold hiW at hlt
  rw [if_pos e0] at hlt
  unfold hiP at hlt
  rw [if_pos (by omega)] at hlt
  omega
 ·have hf:=hx.ps e0
  exact ⟨hf.op,hf.who,hf.res,hf.pc,fun e=>by rw [hb];exact hf.p1 e,fun e=>by have:=hf.p2 e;omega,fun e=>by rw [hs];exact hf.p3 e⟩
section
variable {c:CF} {m m':List Int} {n:Nat} {W:List WB} {S:List SB} {i:Nat}
def oE (W:List WB) (S:List SB) (x:WB) (q:Int):Nat:=fk (fun _ x=>clE x q) 0 W - clE x q+fk (fun _ x=>clS x q) 0 S
def oD (W:List WB) (x:WB) (q:Int):Nat:=fk (fun _ x=>clD x q) 0 W - clD x q
theorem Pm {x:WB} (hx:W[i]? = some x) (q:Int):fk (fun _ x=>clE x q) 0 W+fk (fun _ x=>clS x q) 0 S=oE W S x q+clE x q:=by
 have:=iq (g:=fun _ x=>clE x q) (n:=0) hx
 unfold oE
 omega
theorem Rz {x:WB} (hx:W[i]? = some x) (q:Int):fk (fun _ x=>clD x q) 0 W=oD W x q+clD x q:=by
 have:=iq (g:=fun _ x=>clD x q) (n:=0) hx
 unfold oD
 omega
theorem asm (hc:dl c=true) (hW:(W.length:Int)=c.1) (hI:MstA n c m W S) {x y:WB} (hx:W[i]? = some x) (hinj:InjI c m' (fun q=>oE W S x q+clE y q) (fun q=>oD W x q+clD y q)) (hb5:ah m' 5≤ah m 5+1)
  (tE:∀ g,EFr c m g→(∀ q,clF g q≤oE W S x q)→EFr c m' g)
  (tD:∀ g,DFr c m g→(∀ q,clF g q≤oD W x q)→DFr c m' g∧∀ k,hdD c m' g k=hdD c m g k)
  {u:Nat} {z z':WB} (hz:W[u]? = some z) (hz':(W.set i y)[u]? = some z') (hu:∀ j:Nat,j≠u→(j:Int)<c.1→DEq c m m' j) (hui:u≠i→dT c m' u=dT c m u+1∧dB c m' u=dB c m u∧(∀ a,dS c m' u a=dS c m u a)∧dT c m u<hiW c m u z∧hiW c m' i y=hiW c m i x)
  (hth:∀ f:FR,f.2.2.1=u→ThF c m (hiW c m u z) f→ThF c m' (hiW c m' u z') f)
  (yq:OwQ c m' (n+1) i y) (yi:OwI c m' y) (yt:y.1=3→0≤y.2.2.1.2.2.1∧y.2.2.1.2.2.1<c.1∧∀ a,(W.set i y)[y.2.2.1.2.2.1.toNat]? = some a→ThF c m' (hiW c m' y.2.2.1.2.2.1 a) y.2.2.1) :
  MstA (n+1) c m' (W.set i y) S∧(∀ k,wa c m' (W.set i y) k+hdW c m x k=wa c m W k+hdW c m' y k)∧∀ k,AB c m' (W.set i y) k+dqN c m u (hiW c m u z) k=AB c m W k+dqN c m' u (hiW c m' u z') k:=by
 obtain ⟨hi,hxe⟩:=List.getElem?_eq_some_iff.1 hx
 have oth:∀ {j:Nat} {a:WB},(W.set i y)[j]? = some a→j=i∧a=y∨j≠i∧W[j]? = some a:=by
  intro j a ha
  rw [List.getElem?_set] at ha
  split at ha
  ·rename_i e
   cases ha
   exact .inl ⟨e.symm,rfl⟩
  ·rename_i e
   exact .inr ⟨fun h=>e h.symm,ha⟩
 have clE2:∀ {j:Nat} {a:WB},j≠i→W[j]? = some a→∀ q,clE a q≤oE W S x q:=fun hj ha q=>by
  have:=um (g:=fun _ x=>clE x q) (n:=0) hj ha hx
  unfold oE
  omega
 have clS2:∀ a ∈ S,∀ q,clS a q≤oE W S x q:=fun a ha q=>by
  obtain ⟨j,hj⟩:=List.mem_iff_getElem?.1 ha
  have:=iq (g:=fun _ x=>clS x q) (n:=0) hj
  unfold oE
  omega
 have clD2:∀ {j:Nat} {a:WB},j≠i→W[j]? = some a→∀ q,clD a q≤oD W x q:=fun hj ha q=>by
  have:=um (g:=fun _ x=>clD x q) (n:=0) hj ha hx
  unfold oD
  omega
 have othI:∀ {j:Nat} {a:WB},j≠i→W[j]? = some a→OwI c m' a∧∀ k,hdW c m' a k=hdW c m a k:=by
  intro j a hj ha
  have h:=hI.i a (List.mem_of_getElem? ha)
  have hq:=hI.q j a ha
  refine ⟨⟨fun e=>(tD _ (h.de e) fun q => ?_).1,fun e=>tE _ (h.en e) fun q => ?_,h.ev⟩,fun k => ?_⟩
  ·have:=clD2 hj ha q
   unfold clD at this
   rwa [if_pos e] at this
  ·have:=clE2 hj ha q
   unfold clE at this
   rwa [if_pos e] at this
  ·unfold hdW
   split
   ·rename_i e
    have hf:=hq.po e
    by_cases hju:j=u
    ·subst hju
     have hs:=(hui hj).2.2.1
     unfold hdP
     rw [hf.who,hs]
    ·have hlt:=(List.getElem?_eq_some_iff.1 ha).1
     refine DEq.hdp ?_ k
     rw [hf.who]
     exact hu j hju (by omega)
   ·split
    ·rename_i e
     exact (tD _ (h.de e) fun q=>by
      have:=clD2 hj ha q
      unfold clD at this
      rwa [if_pos e] at this).2 k
    ·rfl
 have othQ:∀ {j:Nat} {a:WB},j≠i→W[j]? = some a→OwQ c m' (n+1) j a:=by
  intro j a hj ha
  by_cases hju:j=u
  ·subst hju
   obtain ⟨a1,a2,a3,a4,_⟩:=hui hj
   rw [hz] at ha
   cases ha
   exact acR (hI.q j z hz) (Nat.le_succ n) a1 a2 a3 a4
  ·have hlt:=(List.getElem?_eq_some_iff.1 ha).1
   exact (hu j hju (by omega)).owq (Nat.le_succ n) (hI.q j a ha)
 have othH:∀ {j:Nat} {a b:WB},j≠u→W[j]? = some a→(W.set i y)[j]? = some b→hiW c m' j b=hiW c m j a:=by
  intro j a b hj ha hb
  rcases oth hb with ⟨e,rfl⟩ | ⟨e,hb⟩
  ·subst e
   rw [hx] at ha
   cases ha
   exact (hui fun h=>hj h.symm).2.2.2.2
  ·rw [ha] at hb
   cases hb
   have hlt:=(List.getElem?_eq_some_iff.1 ha).1
   exact (hu j hj (by omega)).hi a
 refine ⟨⟨?_,by have:=hI.b5;omega,fun j a ha => ?_,fun a ha => ?_,fun a ha e => ?_,fun a ha => ?_⟩,fun k => ?_,fun k => ?_⟩
 ·have e1:(fun q=>fk (fun _ x=>clE x q) 0 (W.set i y)+fk (fun _ x=>clS x q) 0 S)=fun q=>oE W S x q+clE y q:=funext fun q=>by
   have:=pK (g:=fun _ x=>clE x q) (y:=y) hx
   have h2:=iq (g:=fun _ x=>clE x q) (n:=0) hx
   unfold oE
   omega
  have e2:(fun q=>fk (fun _ x=>clD x q) 0 (W.set i y))=fun q=>oD W x q+clD y q:=funext fun q=>by
   have:=pK (g:=fun _ x=>clD x q) (y:=y) hx
   have h2:=iq (g:=fun _ x=>clD x q) (n:=0) hx
   unfold oD
   omega
  rw [e1,e2]
  exact hinj
 ·rcases oth ha with ⟨rfl,rfl⟩ | ⟨e,ha⟩
  ·exact yq
  ·exact othQ e ha
 ·obtain ⟨j,hj⟩:=List.mem_iff_getElem?.1 ha
  rcases oth hj with ⟨_,rfl⟩ | ⟨e,hj⟩
  ·exact yi
  ·exact (othI e hj).1
 ·obtain ⟨j,hj⟩:=List.mem_iff_getElem?.1 ha
  rcases oth hj with ⟨_,rfl⟩ | ⟨e2,hj⟩
  ·exact yt e
  ·obtain ⟨w0,w1,w2⟩:=hI.th a (List.mem_of_getElem? hj) e
   refine ⟨w0,w1,fun b hb => ?_⟩
   by_cases hw:a.2.2.1.2.2.1.toNat=u
   ·have hwu:a.2.2.1.2.2.1=u:=by omega
    rw [hw,hz'] at hb
    cases hb
    have:=hth a.2.2.1 hwu
    rw [← hwu] at this
    exact this (w2 z (by rw [hw];exact hz))
   ·obtain ⟨d,hd⟩:∃ d,W[a.2.2.1.2.2.1.toNat]? = some d:=⟨_,List.getElem?_eq_getElem (by omega)⟩
    have hh:=othH hw hd hb
    have hk:((a.2.2.1.2.2.1.toNat:Nat):Int)=a.2.2.1.2.2.1:=by omega
    rw [hk] at hh
    have hD:=hu _ hw (by omega)
    rw [hk] at hD
    rw [hh]
    exact (w2 d hd).stay hD.t fun h=>⟨h,hD.s _⟩
 ·have h:=hI.s a ha
  refine ⟨fun e=>⟨tE _ (h.1 e).1 fun q => ?_,(h.1 e).2⟩,h.2⟩
  have:=clS2 a ha q
  unfold clS at this
  rwa [if_pos e] at this
 ·have:=FO (g:=fun _ x=>hdW c m x k) (g':=fun _ x=>hdW c m' x k) (n:=0) (v:=i) (W:=W) (W':=W.set i y) (z:=x) (z':=y) List.length_set hx (List.getElem?_set_self hi) (fun j a b hj ha hb=>by
   rcases oth hb with ⟨e,_⟩ | ⟨e,hb⟩
   ·exact absurd e hj
   ·rw [ha] at hb
    cases hb
    exact (othI e ha).2 k)
  exact this
 ·have:=FO (g:=fun i x=>dqN c m i (hiW c m i x) k) (g':=fun i x=>dqN c m' i (hiW c m' i x) k) (n:=0) (v:=u) (W:=W) (W':=W.set i y) (z:=z) (z':=z') List.length_set hz hz' (fun j a b hj ha hb=>by
   rw [Nat.zero_add,othH hj ha hb]
   have hlt:=(List.getElem?_eq_some_iff.1 ha).1
   exact (hu j hj (by omega)).n _ _)
  rw [Nat.zero_add] at this
  exact this
end
end Go.Ab
set_option linter.unusedVariables false
namespace Go.Ab
structure NewF (c:CF) (i:Int) (y:WB):Prop where
 f0:y.1=0→y.2.2.1.1=1∧y.2.2.1.2.2.1=i∧y.2.2.1.2.1=0∧y.2.2.1.2.2.2.2.2.2=0
 f11:y.1=11→y.2.2.1.1=0∧y.2.2.1.2.2.1=i∧y.2.2.1.2.1=0∧y.2.2.1.2.2.2.2.2.2=0
 f2:y.1=2→y.2.2.1.1=4∧y.2.2.1.2.1=0∧y.2.2.1.2.2.2.2.2.2=0
 f12:y.1=12→y.2.2.1.1=3∧y.2.2.1.2.1=0∧y.2.2.1.2.2.2.2.2.2=0
 f3:y.1=3→y.2.2.1.1=2∧y.2.2.1.2.1=0∧y.2.2.1.2.2.2.2.2.2=0∧0≤y.2.2.1.2.2.1∧y.2.2.1.2.2.1<c.1
 ev:y.1=5∨y.1=6∨y.1=7∨y.1=8∨y.1=14→5≤y.2.2.1.1
def hdY (y:WB) (k:Int):Nat:=if y.1=4∨y.1=11∨y.1=12 then (if y.2.2.1.2.2.2.1=k then 1 else 0) else 0
section
variable {c:CF} {m m':List Int} {n:Nat} {W:List WB} {S:List SB} {i:Nat}
theorem NewF.hi {y:WB} (h:NewF c i y) (v:Int):hiW c m v y=dB c m v:=by
 unfold hiW
 split
 ·rename_i e
  obtain ⟨_,_,h3,_⟩:=h.f0 e
  unfold hiP
  rw [if_neg (by omega)]
 ·rfl
theorem NewF.hd {y:WB} (h:NewF c i y) (k:Int):hdW c m y k=hdY y k:=by
 unfold hdW hdY
 split
 ·rename_i e
  obtain ⟨_,_,h3,_⟩:=h.f0 e
  unfold hdP
  rw [if_neg (by omega),if_neg (by omega)]
 ·split
  ·rename_i e
   obtain ⟨_,h3,_⟩:=h.f2 e
   unfold hdD
   rw [if_neg (by omega),if_neg (by omega)]
  ·rfl
theorem NewF.cl {y:WB} (h:NewF c i y) (q:Int):clE y q=0∧clD y q=0:=by
 unfold clE clD clF
 constructor
 ·split
  ·rename_i e
   obtain ⟨_,h3,_⟩:=h.f12 e
   rw [if_neg (by omega)]
  ·rfl
 ·split
  ·rename_i e
   obtain ⟨_,h3,_⟩:=h.f2 e
   rw [if_neg (by omega)]
  ·rfl
theorem NewF.owi {y:WB} (h:NewF c i y):OwI c m y:=by
 refine ⟨fun e => ?_,fun e => ?_,h.ev⟩
 ·obtain ⟨h1,h2,h3⟩:=h.f2 e
  exact ⟨h1,h3,by omega,fun _=>by omega,fun _=>by omega,fun _=>by omega⟩
 ·obtain ⟨h1,h2,h3⟩:=h.f12 e
  exact ⟨h1,h3,by omega,fun _=>by omega,fun _=>by omega,fun _=>by omega,fun _=>by omega⟩
theorem Cb (hc:dl c=true) (hW:(W.length:Int)=c.1) (hI:MstA n c m W S) {x y:WB} (hx:W[i]? = some x) (hN:NewF c i y) (hinj:InjI c m' (oE W S x) (oD W x)) (hb5:ah m' 5≤ah m 5+1)
  (tE:∀ g,EFr c m g→(∀ q,clF g q≤oE W S x q)→EFr c m' g)
  (tD:∀ g,DFr c m g→(∀ q,clF g q≤oD W x q)→DFr c m' g∧∀ k,hdD c m' g k=hdD c m g k)
  (hu:∀ j:Nat,j≠i→(j:Int)<c.1→DEq c m m' j) (ht:dT c m' i=dT c m i) (hb:dB c m' i=hiW c m i x) (hs:∀ a,dT c m i≤a→a<hiW c m i x→dS c m' i a=dS c m i a) :
  MstA (n+1) c m' (W.set i y) S∧(∀ k,wa c m' (W.set i y) k+hdW c m x k=wa c m W k+hdY y k)∧∀ k,AB c m' (W.set i y) k=AB c m W k:=by
 obtain ⟨hi,hxe⟩:=List.getElem?_eq_some_iff.1 hx
 have hset:(W.set i y)[i]? = some y:=List.getElem?_set_self hi
 have hq:=hI.q i x hx
 have hih:hiW c m' i y=hiW c m i x:=by rw [hN.hi,hb]
 have hv:VOk c m' i (hiW c m' i y):=⟨by rw [ht];exact hq.v.t0,by rw [ht,hih];exact hq.v.le,by rw [ht,hih];exact hq.v.rm,by rw [hih];exact hq.v.bd⟩
 obtain ⟨a1,a2,a3⟩:=asm hc hW hI hx (y:=y) (m':=m') (by
   have e1:(fun q=>oE W S x q+clE y q)=oE W S x:=funext fun q=>by rw [(hN.cl q).1];rfl
   have e2:(fun q=>oD W x q+clD y q)=oD W x:=funext fun q=>by rw [(hN.cl q).2];rfl
   rw [e1,e2]
   exact hinj) hb5 tE tD (u:=i) hx hset hu (fun h=>absurd rfl h) (fun f hf h=>by
   rw [← hf] at h ht hs hih ⊢
   rw [hih]
   exact h.stay ht fun h=>⟨h,hs _ (Int.le_refl _) h⟩)
  ⟨hv,by rw [hih];have:=hq.n;omega,fun e=>by
   obtain ⟨h1,h2,h3,h4⟩:=hN.f0 e
   exact ⟨h1,h2,h4,by omega,fun _=>by omega,fun _=>by omega,fun _=>by omega,fun _=>by omega,fun _=>by omega⟩,fun e=>by
   obtain ⟨h1,h2,h3,h4⟩:=hN.f11 e
   exact ⟨h1,h2,h4,by omega,fun _=>by omega,fun _=>by omega,fun _=>by omega⟩⟩ hN.owi (fun e=>by
   obtain ⟨h1,h2,h3,h4,h5⟩:=hN.f3 e
   exact ⟨h4,h5,fun a _=>⟨h1,h3,by omega,fun _=>by omega,fun _=>by omega,fun _=>by omega⟩⟩)
 refine ⟨a1,fun k => ?_,fun k => ?_⟩
 ·rw [a2,hN.hd]
 ·have:=a3 k
  rw [hih,uP ht hs] at this
  omega
theorem AY (hI:MstA n c m W S) {x:WB} (hx:W[i]? = some x) (ie:InjEq c m m') (cx:∀ q,clE x q=0∧clD x q=0):InjI c m' (oE W S x) (oD W x):=by
 have e1:(fun q=>fk (fun _ x=>clE x q) 0 W+fk (fun _ x=>clS x q) 0 S)=oE W S x:=funext fun q=>by rw [Pm hx,(cx q).1];rfl
 have e2:(fun q=>fk (fun _ x=>clD x q) 0 W)=oD W x:=funext fun q=>by rw [Rz hx,(cx q).2];rfl
 have:=hI.inj
 rw [e1,e2] at this
 exact ie.inj this
theorem AZ (hc:dl c=true) (hW:(W.length:Int)=c.1) (hI:MstA n c m W S) {x y:WB} (hx:W[i]? = some x) (hN:NewF c i y) (ie:InjEq c m m') (cx:∀ q,clE x q=0∧clD x q=0)
  (hu:∀ j:Nat,j≠i→(j:Int)<c.1→DEq c m m' j) (ht:dT c m' i=dT c m i) (hb:dB c m' i=hiW c m i x) (hs:∀ a,dT c m i≤a→a<hiW c m i x→dS c m' i a=dS c m i a) :
  MstA (n+1) c m' (W.set i y) S∧∀ k,pD c m' (W.set i y) k+hdW c m x k=pD c m W k+hdY y k:=by
 obtain ⟨a1,a2,a3⟩:=Cb hc hW hI hx hN (AY hI hx ie cx) (by rw [ie.t];omega) (fun g hg _=>ie.efr hg) (fun g hg _=>⟨ie.dfr hg,ie.hd g⟩) hu ht hb hs
 refine ⟨a1,fun k => ?_⟩
 have:=a2 k
 have:=a3 k
 unfold pD
 rw [ie.n k]
 omega
theorem abo (hc:dl c=true) (hW:(W.length:Int)=c.1) (hI:MstA n c m W S) {x y:WB} (hx:W[i]? = some x) (hN:NewF c i y) (ie:InjEq c m m') (hx0:x.1≠0∧x.1≠2∧x.1≠12) (hu:∀ u,0≤u→u<c.1→DEq c m m' u) :
  MstA (n+1) c m' (W.set i y) S∧∀ k,pD c m' (W.set i y) k+hdY x k=pD c m W k+hdY y k:=by
 have hi:=(List.getElem?_eq_some_iff.1 hx).1
 have hii:=hu i (by omega) (by omega)
 have hh:hiW c m i x=dB c m i:=by unfold hiW;rw [if_neg hx0.1]
 obtain ⟨a1,a2⟩:=AZ hc hW hI hx hN ie (fun q=>by unfold clE clD;rw [if_neg hx0.2.2,if_neg hx0.2.1];exact ⟨rfl,rfl⟩) (fun j _ h=>hu j (by omega) h) hii.t (by rw [hh,hii.b]) (fun a _ _=>hii.s a)
 refine ⟨a1,fun k => ?_⟩
 have e:hdW c m x k=hdY x k:=by
  unfold hdW hdY
  rw [if_neg hx0.1,if_neg hx0.2.1]
 rw [← e]
 exact a2 k
theorem JG (hc:dl c=true) (hW:(W.length:Int)=c.1) (hI:MstA n c m W S) {x y:WB} (hx:W[i]? = some x) (ie:InjEq c m m') (hx0:x.1≠2∧x.1≠12) (hy0:y.1≠2∧y.1≠12∧y.1≠3∧y.1≠5∧y.1≠6∧y.1≠7∧y.1≠8∧y.1≠14)
  (hu:∀ j:Nat,j≠i→(j:Int)<c.1→DEq c m m' j) (hth:∀ f:FR,f.2.2.1=i→ThF c m (hiW c m i x) f→ThF c m' (hiW c m' i y) f) (yq:OwQ c m' (n+1) i y) :
  MstA (n+1) c m' (W.set i y) S∧∀ k,pD c m' (W.set i y) k+(hdW c m x k+dqN c m i (hiW c m i x) k)=pD c m W k+(hdW c m' y k+dqN c m' i (hiW c m' i y) k):=by
 obtain ⟨hi,hxe⟩:=List.getElem?_eq_some_iff.1 hx
 have hset:(W.set i y)[i]? = some y:=List.getElem?_set_self hi
 have hin:=AY hI hx ie (fun q=>by unfold clE clD;rw [if_neg hx0.2,if_neg hx0.1];exact ⟨rfl,rfl⟩)
 obtain ⟨a1,a2,a3⟩:=asm hc hW hI hx (y:=y) (m':=m') (by
   have e1:(fun q=>oE W S x q+clE y q)=oE W S x:=funext fun q=>by unfold clE;rw [if_neg hy0.2.1];rfl
   have e2:(fun q=>oD W x q+clD y q)=oD W x:=funext fun q=>by unfold clD;rw [if_neg hy0.1];rfl
   rw [e1,e2]
   exact hin) (by rw [ie.t];omega) (fun g hg _=>ie.efr hg) (fun g hg _=>⟨ie.dfr hg,ie.hd g⟩) (u:=i) hx hset hu (fun h=>absurd rfl h) hth yq
  ⟨fun e=>absurd e hy0.1,fun e=>absurd e hy0.2.1,fun e=>by omega⟩ (fun e=>absurd e hy0.2.2.1)
 refine ⟨a1,fun k => ?_⟩
 have:=a2 k
 have:=a3 k
 unfold pD
 rw [ie.n k]
 omega
theorem QI (hc:dl c=true) (hW:(W.length:Int)=c.1) (hI:MstA n c m W S) {x y:WB} (hx:W[i]? = some x) (hx0:x.1≠0) (hy0:y.1=2∨y.1=12) (hinj:InjI c m' (fun q=>oE W S x q+clE y q) (fun q=>oD W x q+clD y q)) (hb5:ah m' 5≤ah m 5+1)
  (tE:∀ g,EFr c m g→(∀ q,clF g q≤oE W S x q)→EFr c m' g)
  (tD:∀ g,DFr c m g→(∀ q,clF g q≤oD W x q)→DFr c m' g∧∀ k,hdD c m' g k=hdD c m g k)
  (hu:∀ u,0≤u→u<c.1→DEq c m m' u) (yi:OwI c m' y) :
  MstA (n+1) c m' (W.set i y) S∧(∀ k,wa c m' (W.set i y) k+hdW c m x k=wa c m W k+hdW c m' y k)∧∀ k,AB c m' (W.set i y) k=AB c m W k:=by
 obtain ⟨hi,hxe⟩:=List.getElem?_eq_some_iff.1 hx
 have hset:(W.set i y)[i]? = some y:=List.getElem?_set_self hi
 have hii:=hu i (by omega) (by omega)
 have hq:=hI.q i x hx
 have h1:hiW c m i x=dB c m i:=by unfold hiW;rw [if_neg hx0]
 have h2:hiW c m' i y=dB c m' i:=by unfold hiW;rw [if_neg (by omega)]
 have hh:hiW c m' i y=hiW c m i x:=by rw [h1,h2,hii.b]
 obtain ⟨a1,a2,a3⟩:=asm hc hW hI hx (y:=y) (m':=m') hinj hb5 tE tD (u:=i) hx hset (fun j _ h=>hu j (by omega) h) (fun h=>absurd rfl h) (fun f hf h=>by
   rw [← hf] at h hii hh ⊢
   rw [hh]
   exact h.stay hii.t fun h=>⟨h,hii.s _⟩)
  ⟨by rw [hh];exact hii.vok hq.v,by rw [hh];have:=hq.n;omega,fun e=>by omega,fun e=>by omega⟩ yi (fun e=>by omega)
 refine ⟨a1,a2,fun k => ?_⟩
 have:=a3 k
 rw [hh,hii.n] at this
 omega
end
end Go.Ab
set_option linter.unusedVariables false
namespace Go.Ab
def evC (e:Int) (l:List EV) (k:Int):Nat:=l.countP fun v=>decide (v.1=e∧v.2.1=k)
theorem lu {e a j w k:Int}:evC e [(a,j,w)] k=if a=e∧j=k then 1 else 0:=by
 unfold evC
 rw [List.countP_cons,List.countP_nil]
 by_cases h:a=e∧j=k
 ·rw [if_pos h]
  simp [h.1,h.2]
 ·rw [if_neg h]
  simp only [decide_eq_false h,if_false,Bool.false_eq_true,Nat.zero_add]
theorem nV {α:Type} {g:Nat→α→Nat}:∀ {n:Nat} {W:List α},0<fk g n W→∃ j x,W[j]? = some x∧0<g (n+j) x
 | n,[],h=>by simp [fk] at h
 | n,x::l,h=>by
  rw [fk] at h
  by_cases h0:0<g n x
  ·exact ⟨0,x,rfl,h0⟩
  ·obtain ⟨j,z,hz,hp⟩:=nV (n:=n+1) (W:=l) (g:=g) (by omega)
   exact ⟨j+1,z,hz,by rw [show n+(j+1)=n+1+j by omega];exact hp⟩
theorem AV {c:CF} {m:List Int} {f:FR} (hc:dl c=true) (h:5≤f.1):InjEq c m (dF c m f).1∧(∀ u,0≤u→u<c.1→DEq c m (dF c m f).1 u)∧(dF c m f).2.1=f.1:=by
 have hm:=aC hc
 have s2:∀ a,InjEq c m (ao m 2 a)∧∀ u,0≤u→u<c.1→DEq c m (ao m 2 a) u:=fun a=>⟨gH hc (.inl (by decide)),fun u u0 u1=>mW hc u0 u1 (by omega)⟩
 have sp:∀ w a,InjEq c m (ao m (f6 c w) a)∧∀ u,0≤u→u<c.1→DEq c m (ao m (f6 c w) a) u:=fun w a=>by
  rw [aau]
  rcases ZS (c:=c) (w:=w) (x:=2) (by decide) with e | ⟨_,w0,w1,e,e2⟩
  ·rw [e]
   exact ⟨.rfl',fun _ _ _ => .rfl'⟩
  ·have ht:=dV hc w0 (by omega)
   refine ⟨gH hc (.inr (by omega)),fun u u0 u1=>Bt hc fun j j0 j1 j2 e3 => ?_⟩
   rw [My hc w0 w1] at e3
   exact uM hc ⟨by decide,by omega⟩ ⟨j0,j1⟩ (.inr fun h=>j2 h.symm) e3
 have sc:∀ o a,InjEq c m (ub m 2 o a).1∧∀ u,0≤u→u<c.1→DEq c m (ub m 2 o a).1 u:=fun o a=>by
  unfold ub
  split
  ·exact s2 a
  ·exact ⟨.rfl',fun _ _ _ => .rfl'⟩
 have z:InjEq c m m∧∀ u,0≤u→u<c.1→DEq c m m u:=⟨.rfl',fun _ _ _ => .rfl'⟩
 have key:(InjEq c m (dF c m f).1∧∀ u,0≤u→u<c.1→DEq c m (dF c m f).1 u)∧(dF c m f).2.1=f.1:=by
  unfold dF lj Jl
  rw [if_neg (by omega),if_neg (by omega)]
  split
  ·unfold Co
   repeat' split
   all_goals first | exact ⟨z,rfl⟩ | exact ⟨sc _ _,rfl⟩ | exact ⟨sp _ _,rfl⟩
  ·split
   ·unfold Aq Oo
    repeat' split
    all_goals first | exact ⟨z,rfl⟩ | exact ⟨s2 _,rfl⟩ | exact ⟨sp _ _,rfl⟩
   ·exact ⟨z,rfl⟩
 exact ⟨key.1.1,key.1.2,key.2⟩
def Xc (a:Int):Bool:=decide (a≠0∧a≠11∧a≠2∧a≠12∧a≠3∧a≠5∧a≠6∧a≠7∧a≠8∧a≠14)
theorem fF {c:CF} {i:Int} {y:WB} (h:Xc y.1=true):NewF c i y:=by
 unfold Xc at h
 have h:=of_decide_eq_true h
 constructor <;> intro e <;> omega
theorem mS {c:CF} {i:Int} {y:WB} (h:y.1=5∨y.1=6∨y.1=7∨y.1=8∨y.1=14) (h5:5≤y.2.2.1.1):NewF c i y:=by
 constructor <;> intro e <;> first | exact h5 | omega
section
variable {c:CF} {t:Tyt} {m:List Int} {n:Nat} {W:List WB} {S:List SB} {i:Nat} {x:WB} {d:Int}
def lI (c:CF) (m:List Int) (n:Nat) (W:List WB) (S:List SB) (i:Nat) (r:WR):Prop:=
 MstA (n+1) c r.1 (W.set i r.2.1) S∧∀ k,pD c r.1 (W.set i r.2.1) k+evC 2 r.2.2 k=pD c m W k+evC 3 r.2.2 k
variable (hc:dl c=true) (hl:(m.length:Int)=bN c) (hW:(W.length:Int)=c.1) (hwm:Wm m) (hI:MstA n c m W S) (hx:W[i]? = some x) (hn:n+1≤1000000) (hsm:∀ k,0<pD c m W k→0≤k∧k<1000)
theorem Pg {k:Int} (hx:W[i]? = some x) (h:0<hdW c m x k):0<pD c m W k:=by
 have:=iq (g:=fun _ x=>hdW c m x k) (n:=0) hx
 unfold pD wa
 omega
theorem wU {v:Int} (h:0≤v∧v<1000):OK v=v:=by
 unfold OK
 simp only [IntKind.wrap,IntKind.bits,IntKind.signed]
 simp
 omega
include hc hl hW hwm hI hx hn hsm
theorem CG (hx0:x.1≠0∧x.1≠2∧x.1≠12) {m':List Int} {y:WB} {evs:List EV} (hN:NewF c i y) (ie:InjEq c m m') (hu:∀ u,0≤u→u<c.1→DEq c m m' u) (he:∀ k,hdY y k+evC 2 evs k=hdY x k+evC 3 evs k):lI c m n W S i (m',y,evs):=by
 have _h:=And.intro hl (And.intro hwm (And.intro hn hsm))
 obtain ⟨a1,a2⟩:=abo hc hW hI hx hN ie hx0 hu
 refine ⟨a1,fun k => ?_⟩
 have:=a2 k
 have:=he k
 dsimp only
 omega
theorem HN (hx0:x.1≠0∧x.1≠2∧x.1≠12) {j a:Int} (hj:j<4) {y:WB} {evs:List EV} (hN:NewF c i y) (he:∀ k,hdY y k+evC 2 evs k=hdY x k+evC 3 evs k):lI c m n W S i (ao m j a,y,evs):=by
 have hm:=aC hc
 exact CG hc hl hW hwm hI hx hn hsm hx0 hN (gH hc (.inl hj)) (fun u u0 u1=>mW hc u0 u1 (by omega)) he
theorem rX (hx0:x.1≠0∧x.1≠2∧x.1≠12) {y:WB} {evs:List EV} (hN:NewF c i y) (he:∀ k,hdY y k+evC 2 evs k=hdY x k+evC 3 evs k):lI c m n W S i (m,y,evs):=
 CG hc hl hW hwm hI hx hn hsm hx0 hN .rfl' (fun _ _ _ => .rfl') he
theorem ahE (e:x.1=0):lI c m n W S i (JS c t m i x):=by
 have _h:=hn
 have hi:=(List.getElem?_eq_some_iff.1 hx).1
 have hq:=hI.q i x hx
 have hf:=hq.po e
 have hv:=hq.v
 have hh:hiW c m i x=hiP x.2.2.1 (dB c m i):=by unfold hiW;rw [if_pos e]
 have hd:∀ k,hdW c m x k=hdP c m x.2.2.1 k:=fun k=>by unfold hdW;rw [if_pos e]
 rw [hh] at hv
 have hk:dF c m x.2.2.1=k7 c m x.2.2.1:=by
  unfold dF C0
  rw [hf.op]
  rfl
 obtain ⟨ie,du,ds,hcase⟩:=TP hc hl (Int.natCast_nonneg i) (by omega) hwm hf hv
 unfold JS
 rw [hk]
 dsimp only
 have hne:∀ j:Nat,j≠i→(j:Int)<c.1→DEq c m (k7 c m x.2.2.1).1 j:=fun j hj _=>du j (by omega)
 rcases hcase with ⟨o,pf,vf,hle,hcnt,htop⟩ | ⟨o,ht,hb,hcase⟩
 ·rw [if_pos o]
  have hh':hiW c (k7 c m x.2.2.1).1 i (x.1,x.2.1,(k7 c m x.2.2.1).2,x.2.2.2)=hiP (k7 c m x.2.2.1).2 (dB c (k7 c m x.2.2.1).1 i):=by
   unfold hiW
   exact if_pos e
  obtain ⟨a1,a2⟩:=JG hc hW hI hx (y:=(x.1,x.2.1,(k7 c m x.2.2.1).2,x.2.2.2)) ie (by omega) (by dsimp only;omega) hne (fun f hfi h=>by
   rw [hh] at h
   rw [hh']
   rw [← hfi] at h htop ds ⊢
   rcases htop with ⟨t1,t2⟩ | t1
   ·exact h.stay t1 fun h=>⟨t2 h,ds _⟩
   ·exact h.top t1) ⟨by rw [hh'];exact vf,by rw [hh'];have:=hq.n;omega,fun _=>pf,fun h=>absurd (h.symm.trans e) (by decide)⟩
  refine ⟨a1,fun k => ?_⟩
  have h1:=a2 k
  have h2:=hcnt k
  have hd':hdW c (k7 c m x.2.2.1).1 (x.1,x.2.1,(k7 c m x.2.2.1).2,x.2.2.2) k=hdP c (k7 c m x.2.2.1).1 (k7 c m x.2.2.1).2 k:=if_pos e
  rw [hd,hd',hh,hh'] at h1
  have e2:evC 2 [] k=0:=rfl
  have e3:evC 3 [] k=0:=rfl
  dsimp only
  omega
 ·rw [if_neg (by rw [o];decide)]
  have hb':dB c (k7 c m x.2.2.1).1 i=hiW c m i x:=by rw [hb,hh]
  have cx:∀ q,clE x q=0∧clD x q=0:=fun q=>by
   unfold clE clD
   rw [if_neg (by omega),if_neg (by omega)]
   exact ⟨rfl,rfl⟩
  rcases hcase with ⟨r1,hh1⟩ | ⟨r1,hh1⟩
  ·rw [if_neg (fun h=>h r1)]
   have hs:=hsm _ (Pg hx (show 0<hdW c m x (k7 c m x.2.2.1).2.2.2.2.1 by rw [hd,hh1,if_pos rfl];decide))
   rw [wU hs]
   obtain ⟨a1,a2⟩:=AZ hc hW hI hx (y:=(9,iU t x.2.1 (k7 c m x.2.2.1).2.2.2.2.1,dw,x.2.2.2)) (fF rfl) ie cx hne ht hb' (fun a _ _=>ds a)
   refine ⟨a1,fun k => ?_⟩
   have h1:=a2 k
   rw [hd,hh1] at h1
   rw [lu,lu]
   rw [show hdY (9,iU t x.2.1 (k7 c m x.2.2.1).2.2.2.2.1,dw,x.2.2.2) k=0 from rfl] at h1
   dsimp only
   simp only [true_and,show ¬ ((2:Int)=3) by decide,false_and,if_false]
   omega
  ·rw [if_pos r1]
   obtain ⟨a1,a2⟩:=AZ hc hW hI hx (y:=toW 1 x) (fF rfl) ie cx hne ht hb' (fun a _ _=>ds a)
   refine ⟨a1,fun k => ?_⟩
   have h1:=a2 k
   rw [hd,hh1] at h1
   rw [show hdY (toW 1 x) k=0 from rfl] at h1
   exact h1
theorem Mn (q:Int) (h:0<oD W x q):sqI c m q=2*dG c q+1:=by
 have _h:=And.intro hc (And.intro hl (And.intro hW (And.intro hwm (And.intro hn (And.intro hsm hx)))))
 have h2:0<fk (fun _ x=>clD x q) 0 W:=by unfold oD at h;omega
 obtain ⟨j,a,ha,hp⟩:=nV h2
 unfold clD at hp
 split at hp
 ·rename_i e
  unfold clF at hp
  split at hp
  ·rename_i e2
   have:=((hI.i a (List.mem_of_getElem? ha)).de e).p3 e2.1
   rw [e2.2] at this
   exact this.2.2
  ·omega
 ·omega
theorem Lu (q:Int) (h:0<oE W S x q):sqI c m q=2*dG c q:=by
 have _h:=And.intro hc (And.intro hl (And.intro hW (And.intro hwm (And.intro hn (And.intro hsm hx)))))
 have h2:0<fk (fun _ x=>clE x q) 0 W∨0<fk (fun _ x=>clS x q) 0 S:=by unfold oE at h;omega
 rcases h2 with h2 | h2
 ·obtain ⟨j,a,ha,hp⟩:=nV h2
  unfold clE at hp
  split at hp
  ·rename_i e
   unfold clF at hp
   split at hp
   ·rename_i e2
    have:=((hI.i a (List.mem_of_getElem? ha)).en e).p3 e2.1
    rw [e2.2] at this
    exact this.2.2
   ·omega
  ·omega
 ·obtain ⟨j,a,ha,hp⟩:=nV h2
  unfold clS at hp
  split at hp
  ·rename_i e
   unfold clF at hp
   split at hp
   ·rename_i e2
    have:=((hI.s a (List.mem_of_getElem? ha)).1 e).1.p3 e2.1
    rw [e2.2] at this
    exact this.2.2
   ·omega
  ·omega
theorem afn (e:x.1=2):lI c m n W S i (oa c m i x d):=by
 have hi:=(List.getElem?_eq_some_iff.1 hx).1
 have hf:=(hI.i x (List.mem_of_getElem? hx)).de e
 have hd:∀ k,hdW c m x k=hdD c m x.2.2.1 k:=fun k=>by unfold hdW;rw [if_neg (by omega),if_pos e]
 have hk:dF c m x.2.2.1=lZ c m x.2.2.1:=by
  unfold dF lj CZ
  rw [hf.op]
  rfl
 have eE:(fun q=>fk (fun _ x=>clE x q) 0 W+fk (fun _ x=>clS x q) 0 S)=oE W S x:=funext fun q=>by
  rw [Pm hx]
  unfold clE
  rw [if_neg (by omega)]
  rfl
 have eD:(fun q=>fk (fun _ x=>clD x q) 0 W)=fun q=>oD W x q+clF x.2.2.1 q:=funext fun q=>by
  rw [Rz hx]
  unfold clD
  rw [if_pos e]
 have hin:=hI.inj
 rw [eE,eD] at hin
 obtain ⟨du,tD,tE,l5,hcase⟩:=Uj hc hl hwm hin hf (Mn hc hl hW hwm hI hx hn hsm) (Lu hc hl hW hwm hI hx hn hsm)
 have tD':∀ g,DFr c m g→(∀ q,clF g q≤oD W x q)→DFr c (lZ c m x.2.2.1).1 g∧∀ k,hdD c (lZ c m x.2.2.1).1 g k=hdD c m g k:=fun g hg hq=>tD g hg fun g3 f3 ex=>by
  have h1:=hq g.2.2.2.2.1
  unfold clF at h1
  rw [if_pos ⟨g3,rfl⟩] at h1
  have h2:=hin.r g.2.2.2.2.1 (hg.p3 g3).1 (hg.p3 g3).2.1
  unfold clF at h2
  rw [if_pos (c:=3≤x.2.2.1.2.1∧_) ⟨f3,ex.symm⟩] at h2
  omega
 have tE':∀ g,EFr c m g→(∀ q,clF g q≤oE W S x q)→EFr c (lZ c m x.2.2.1).1 g:=fun g hg _=>tE g hg
 unfold oa
 rw [hk]
 dsimp only
 have hh:hiW c m i x=dB c m i:=by unfold hiW;rw [if_neg (by omega)]
 have hii:=du i (by omega) (by omega)
 rcases hcase with ⟨o,pf,ji,hcnt⟩ | ⟨o,r1,ji,jn,hh1⟩ | ⟨o,r1,ji,jn,hh1⟩
 ·rw [if_pos o]
  obtain ⟨a1,a2,a3⟩:=QI hc hW hI hx (y:=(x.1,x.2.1,(lZ c m x.2.2.1).2,x.2.2.2)) (by omega) (.inl e) (by
   have e1:(fun q=>oE W S x q+clE (x.1,x.2.1,(lZ c m x.2.2.1).2,x.2.2.2) q)=oE W S x:=funext fun q=>by
    unfold clE
    rw [if_neg (by dsimp only;omega)]
    rfl
   have e2:(fun q=>oD W x q+clD (x.1,x.2.1,(lZ c m x.2.2.1).2,x.2.2.2) q)=fun q=>oD W x q+clF (lZ c m x.2.2.1).2 q:=funext fun q=>by
    unfold clD
    rw [if_pos (by exact e)]
   rw [e1,e2]
   exact ji) (by rw [l5];omega) tE' tD' du ⟨fun _=>pf,fun h=>by dsimp only at h;omega,fun h=>by dsimp only at h;omega⟩
  refine ⟨a1,fun k => ?_⟩
  have h1:=a2 k
  have h2:=a3 k
  have h3:=hcnt k
  have hd':hdW c (lZ c m x.2.2.1).1 (x.1,x.2.1,(lZ c m x.2.2.1).2,x.2.2.2) k=hdD c (lZ c m x.2.2.1).1 (lZ c m x.2.2.1).2 k:=by
   unfold hdW
   rw [if_neg (by dsimp only;omega),if_pos (by exact e)]
  rw [hd,hd'] at h1
  have e2:evC 2 [] k=0:=rfl
  have e3:evC 3 [] k=0:=rfl
  unfold pD
  dsimp only
  omega
 ·have fin:∀ y:WB,NewF c i y→(∀ k,hdY y k=if (lZ c m x.2.2.1).2.2.2.2.1=k then 1 else 0)→lI c m n W S i ((lZ c m x.2.2.1).1,y,[]):=fun y hN hy=>by
   obtain ⟨a1,a2,a3⟩:=Cb hc hW hI hx hN ji (by rw [l5];omega) tE' tD' (fun j _ h=>du j (by omega) h) hii.t (by rw [hh,hii.b]) (fun a _ _=>hii.s a)
   refine ⟨a1,fun k => ?_⟩
   have h1:=a2 k
   have h2:=a3 k
   have h3:=jn k
   rw [hd,hh1,hy] at h1
   have e2:evC 2 [] k=0:=rfl
   have e3:evC 3 [] k=0:=rfl
   unfold pD
   dsimp only
   omega
  rw [if_neg (by rw [o];decide),if_pos r1]
  exact fin _ (fF rfl) fun k=>rfl
 ·have fin:∀ y:WB,NewF c i y→(∀ k,hdY y k=0)→lI c m n W S i ((lZ c m x.2.2.1).1,y,[]):=fun y hN hy=>by
   obtain ⟨a1,a2,a3⟩:=Cb hc hW hI hx hN ji (by rw [l5];omega) tE' tD' (fun j _ h=>du j (by omega) h) hii.t (by rw [hh,hii.b]) (fun a _ _=>hii.s a)
   refine ⟨a1,fun k => ?_⟩
   have h1:=a2 k
   have h2:=a3 k
   have h3:=jn k
   rw [hd,hh1,hy] at h1
   have e2:evC 2 [] k=0:=rfl
   have e3:evC 3 [] k=0:=rfl
   unfold pD
   dsimp only
   omega
  rw [if_neg (by rw [o];decide),if_neg r1]
  by_cases h2:x.1=2∧0≤Dc d i c.1
  ·rw [if_pos h2]
   refine fin _ ?_ fun k=>rfl
   have hv:=VF.1 h2.2
   have hr:Dc d i c.1<c.1:=by
    unfold Dc
    rw [if_neg hv]
    exact Int.emod_lt_of_pos _ (by omega)
   constructor <;> intro h <;> dsimp only [lq,Ap] at h ⊢ <;> omega
  ·rw [if_neg h2]
   by_cases h3:x.2.2.2.1≤0
   ·rw [if_pos h3]
    exact fin _ (mS (.inl rfl) (show (5:Int)≤5 by decide)) fun k=>rfl
   ·rw [if_neg h3]
    refine fin _ ?_ fun k=>rfl
    constructor <;> intro h <;> dsimp only [lq,Ap] at h ⊢ <;> omega
end
end Go.Ab
set_option linter.unusedVariables false
namespace Go.Ab
section
variable {c:CF} {t:Tyt} {m:List Int} {n:Nat} {W:List WB} {S:List SB} {i:Nat} {x:WB} {d:Int}
theorem aeF {z:WB} {v:Int} (h:OwQ c m n v z) (hwm:Wm m) (hc:dl c=true) (h0:0≤v) (h1:v<c.1):wG (dB c m v) (dT c m v)≤0∨dT c m v<hiW c m v z:=by
 have hr:0≤dB c m v∧dB c m v≤18446744073709551615:=cB hwm _
 obtain ⟨t0,tl,rm,bd⟩:=h.v
 have key:hiW c m v z=dB c m v∨hiW c m v z=fG (dB c m v) 1:=by
  unfold hiW hiP
  split
  ·split
   ·exact .inr rfl
   ·exact .inl rfl
  ·exact .inl rfl
 by_cases hx:dB c m v=18446744073709551615
 ·rw [hx,QN (by omega)]
  omega
 ·have hb:dB c m v≤hiW c m v z:=by
   rcases key with e | e
   ·omega
   ·rw [e]
    unfold fG
    omega
  rw [G4 (by omega) (by omega)]
  omega
variable (hc:dl c=true) (hl:(m.length:Int)=bN c) (hW:(W.length:Int)=c.1) (hwm:Wm m) (hI:MstA n c m W S) (hx:W[i]? = some x) (hn:n+1≤1000000) (hsm:∀ k,0<pD c m W k→0≤k∧k<1000)
include hc hl hW hwm hI hx hn hsm
theorem UA (e:x.1=3):lI c m n W S i (oa c m i x d):=by
 have hi:=(List.getElem?_eq_some_iff.1 hx).1
 obtain ⟨w0,w1,w2⟩:=hI.th x (List.mem_of_getElem? hx) e
 obtain ⟨u,hu⟩:∃ u:Nat,x.2.2.1.2.2.1=(u:Int):=⟨x.2.2.1.2.2.1.toNat,by omega⟩
 rw [hu] at w0 w1 w2
 rw [Int.toNat_natCast] at w2
 have hz : W[u]? = some (W[u]'(by omega)) := List.getElem?_eq_getElem (by omega)
 generalize W[u]'(by omega) = z at hz
 have hf:=w2 z hz
 have hqz:=hI.q u z hz
 have hd:∀ k,hdW c m x k=0:=fun k=>by unfold hdW;rw [if_neg (by omega),if_neg (by omega),if_neg (by omega)]
 have hk:dF c m x.2.2.1=br c m x.2.2.1:=by
  unfold dF C0
  rw [hf.op]
  rfl
 obtain ⟨ie,du,ds,db,hcase⟩:=N2 hc hl (by rw [hu];exact w0) (by rw [hu];exact w1) hf (by rw [hu];exact hqz.v) (by rw [hu];exact aeF hqz hwm hc w0 w1) (fun _ _ _=>trivial)
 rw [hu] at du ds db hcase
 have hh:hiW c m i x=dB c m i:=by unfold hiW;rw [if_neg (by omega)]
 have hx0:x.1≠0∧x.1≠2∧x.1≠12:=by omega
 unfold oa
 rw [hk]
 dsimp only
 rcases hcase with ⟨o,mm,pf,hwho⟩ | ⟨o,r1,mm⟩ | ⟨o,r1,ht,hlt,hval⟩
 ·rw [if_pos o,mm]
  have hset:(W.set i (x.1,x.2.1,(br c m x.2.2.1).2,x.2.2.2))[i]? = some (x.1,x.2.1,(br c m x.2.2.1).2,x.2.2.2):=List.getElem?_set_self hi
  have hq:=hI.q i x hx
  have hin:=AY hI hx (m':=m) .rfl' (fun q=>by unfold clE clD;rw [if_neg hx0.2.2,if_neg hx0.2.1];exact ⟨rfl,rfl⟩)
  have hhy:hiW c m i (x.1,x.2.1,(br c m x.2.2.1).2,x.2.2.2)=hiW c m i x:=by
   rw [hh]
   unfold hiW
   rw [if_neg (by exact hx0.1)]
  have ha:∀ a,(W.set i (x.1,x.2.1,(br c m x.2.2.1).2,x.2.2.2))[u]? = some a→hiW c m u a=hiW c m u z:=fun a ha=>by
   by_cases hui:u=i
   ·subst hui
    rw [hset] at ha
    cases ha
    rw [hx] at hz
    cases hz
    exact hhy
   ·rw [List.getElem?_set_ne (by omega),hz] at ha
    cases ha
    rfl
  obtain ⟨a1,a2,a3⟩:=asm hc hW hI hx (y:=(x.1,x.2.1,(br c m x.2.2.1).2,x.2.2.2)) (m':=m) (by
    have e1:(fun q=>oE W S x q+clE (x.1,x.2.1,(br c m x.2.2.1).2,x.2.2.2) q)=oE W S x:=funext fun q=>by unfold clE;rw [if_neg (by exact hx0.2.2)];rfl
    have e2:(fun q=>oD W x q+clD (x.1,x.2.1,(br c m x.2.2.1).2,x.2.2.2) q)=oD W x:=funext fun q=>by unfold clD;rw [if_neg (by exact hx0.2.1)];rfl
    rw [e1,e2]
    exact hin) (by omega) (fun g hg _=>hg) (fun g hg _=>⟨hg,fun _=>rfl⟩) (u:=i) hx hset (fun _ _ _ => .rfl') (fun h=>absurd rfl h) (fun f hfi h=>by rw [hhy];exact h)
   ⟨by rw [hhy];exact hq.v,by rw [hhy];have:=hq.n;omega,fun h=>absurd h hx0.1,fun h=>absurd (h.symm.trans e) (by decide)⟩ ⟨fun h=>absurd h hx0.2.1,fun h=>absurd h hx0.2.2,fun h=>by dsimp only at h;omega⟩
   (fun _=>by
    dsimp only
    rw [hwho,Int.toNat_natCast]
    exact ⟨w0,w1,fun a h=>by rw [ha a h];exact pf⟩)
  refine ⟨a1,fun k => ?_⟩
  have h1:=a2 k
  have h2:=a3 k
  have hd':hdW c m (x.1,x.2.1,(br c m x.2.2.1).2,x.2.2.2) k=0:=by
   unfold hdW
   rw [if_neg (by exact hx0.1),if_neg (by exact hx0.2.1),if_neg (by dsimp only;omega)]
  rw [hd,hd'] at h1
  rw [hhy] at h2
  have e2:evC 2 [] k=0:=rfl
  have e3:evC 3 [] k=0:=rfl
  unfold pD
  dsimp only
  omega
 ·rw [if_neg (by rw [o];decide),if_neg r1,mm,if_neg (fun h=>by omega)]
  have hy0:∀ k,hdY x k=0:=fun k=>by unfold hdY;rw [if_neg (by omega)]
  by_cases h3:x.2.2.2.1≤0
  ·rw [if_pos h3]
   exact rX hc hl hW hwm hI hx hn hsm hx0 (mS (.inl rfl) (show (5:Int)≤5 by decide)) fun k=>by rw [hy0];rfl
  ·rw [if_neg h3]
   refine rX hc hl hW hwm hI hx hn hsm hx0 ?_ fun k=>by rw [hy0];rfl
   constructor <;> intro h <;> dsimp only [lq,Ap] at h ⊢ <;> omega
 ·rw [if_neg (by rw [o];decide),if_pos r1]
  have hN:NewF c i (4,x.2.1,(br c m x.2.2.1).2,x.2.2.2):=fF rfl
  have hset:(W.set i (4,x.2.1,(br c m x.2.2.1).2,x.2.2.2))[i]? = some (4,x.2.1,(br c m x.2.2.1).2,x.2.2.2):=List.getElem?_set_self hi
  have hq:=hI.q i x hx
  have hin:=AY hI hx (m':=(br c m x.2.2.1).1) ie (fun q=>by unfold clE clD;rw [if_neg hx0.2.2,if_neg hx0.2.1];exact ⟨rfl,rfl⟩)
  have hbi:dB c (br c m x.2.2.1).1 i=dB c m i:=by
   by_cases hui:u=i
   ·subst hui
    exact db
   ·exact (du i (by omega)).b
  have hhy:hiW c (br c m x.2.2.1).1 i (4,x.2.1,(br c m x.2.2.1).2,x.2.2.2)=hiW c m i x:=by
   rw [hN.hi,hh,hbi]
  obtain ⟨z',hz',hhz⟩:∃ z',(W.set i (4,x.2.1,(br c m x.2.2.1).2,x.2.2.2))[u]? = some z'∧hiW c (br c m x.2.2.1).1 u z'=hiW c m u z:=by
   by_cases hui:u=i
   ·subst hui
    refine ⟨_,hset,?_⟩
    rw [hx] at hz
    cases hz
    exact hhy
   ·refine ⟨z,by rw [List.getElem?_set_ne (by omega)];exact hz,?_⟩
    unfold hiW
    rw [db]
  have hyq:OwQ c (br c m x.2.2.1).1 (n+1) i (4,x.2.1,(br c m x.2.2.1).2,x.2.2.2):=by
   refine ⟨?_,by rw [hhy];have:=hq.n;omega,fun h=>absurd h (show ¬ (4:Int)=0 by decide),fun h=>absurd h (show ¬ (4:Int)=11 by decide)⟩
   rw [hhy]
   by_cases hui:u=i
   ·subst hui
    rw [hx] at hz
    cases hz
    obtain ⟨b1,b2,b3,b4⟩:=hq.v
    exact ⟨by omega,by omega,by omega,b4⟩
   ·exact (du i (by omega)).vok hq.v
  obtain ⟨a1,a2,a3⟩:=asm hc hW hI hx (y:=(4,x.2.1,(br c m x.2.2.1).2,x.2.2.2)) (m':=(br c m x.2.2.1).1) (by
    have e1:(fun q=>oE W S x q+clE (4,x.2.1,(br c m x.2.2.1).2,x.2.2.2) q)=oE W S x:=rfl
    have e2:(fun q=>oD W x q+clD (4,x.2.1,(br c m x.2.2.1).2,x.2.2.2) q)=oD W x:=rfl
    rw [e1,e2]
    exact hin) (by rw [ie.t];omega) (fun g hg _=>ie.efr hg) (fun g hg _=>⟨ie.dfr hg,ie.hd g⟩) (u:=u) hz hz' (fun j hj _=>du j (by omega)) (fun h=>⟨ht,db,ds,hlt,hhy⟩)
   (fun f hfu h=>by
    rw [← hfu] at h ht ⊢
    exact h.top ht)
   hyq hN.owi (fun h=>absurd h (show ¬ (4:Int)=3 by decide))
  refine ⟨a1,fun k => ?_⟩
  have h1:=a2 k
  have h2:=a3 k
  rw [hd,hN.hd] at h1
  rw [hhz,Q6 hlt ht ds] at h2
  have h3:hdY (4,x.2.1,(br c m x.2.2.1).2,x.2.2.2) k=if dS c m u (dT c m u)=k then 1 else 0:=by
   rw [← hval]
   rfl
  rw [h3] at h1
  have h4:=ie.n k
  have e2:evC 2 [] k=0:=rfl
  have e3:evC 3 [] k=0:=rfl
  unfold pD
  dsimp only
  omega
theorem Y3 (e:x.1=11):lI c m n W S i (ua c m i x):=by
 have _h:=And.intro hsm hwm
 have hi:=(List.getElem?_eq_some_iff.1 hx).1
 have hq:=hI.q i x hx
 have hf:=hq.ps e
 have hv:=hq.v
 have hh:hiW c m i x=dB c m i:=by unfold hiW;rw [if_neg (by omega)]
 have hd:∀ k,hdW c m x k=if x.2.2.1.2.2.2.1=k then 1 else 0:=fun k=>by unfold hdW;rw [if_neg (by omega),if_neg (by omega),if_pos (.inr (.inl e))]
 rw [hh] at hv
 have hk:dF c m x.2.2.1=eO c m x.2.2.1:=by
  unfold dF C0
  rw [hf.op]
  rfl
 obtain ⟨ie,du,dt,ds,hcase⟩:=PV hc hl (Int.natCast_nonneg i) (by omega) hf hv
 unfold ua
 rw [hk]
 dsimp only
 have hne:∀ j:Nat,j≠i→(j:Int)<c.1→DEq c m (eO c m x.2.2.1).1 j:=fun j hj _=>du j (by omega)
 have cx:∀ q,clE x q=0∧clD x q=0:=fun q=>by
  unfold clE clD
  rw [if_neg (by omega),if_neg (by omega)]
  exact ⟨rfl,rfl⟩
 rcases hcase with ⟨o,pf,db,hval⟩ | ⟨o,r1,db,hval⟩ | ⟨o,r1,db,hrm,hval⟩
 ·rw [if_pos o]
  have hh':hiW c (eO c m x.2.2.1).1 i (x.1,x.2.1,(eO c m x.2.2.1).2,x.2.2.2)=dB c m i:=by
   unfold hiW
   rw [if_neg (by dsimp only;omega),db]
  obtain ⟨a1,a2⟩:=JG hc hW hI hx (y:=(x.1,x.2.1,(eO c m x.2.2.1).2,x.2.2.2)) ie (by omega) (by dsimp only;omega) hne (fun f hfi h=>by
   rw [hh] at h
   rw [hh']
   rw [← hfi] at h dt ds ⊢
   exact h.stay dt fun h=>⟨h,ds _ (Int.le_refl _) h⟩) ⟨by rw [hh'];exact ⟨by rw [dt];exact hv.t0,by rw [dt];exact hv.le,by rw [dt];exact hv.rm,hv.bd⟩,by rw [hh',← hh];have:=hq.n;omega,fun h=>absurd (h.symm.trans e) (by decide),fun _=>pf⟩
  refine ⟨a1,fun k => ?_⟩
  have h1:=a2 k
  have hd':hdW c (eO c m x.2.2.1).1 (x.1,x.2.1,(eO c m x.2.2.1).2,x.2.2.2) k=if x.2.2.1.2.2.2.1=k then 1 else 0:=by
   unfold hdW
   rw [if_neg (by dsimp only;omega),if_neg (by dsimp only;omega),if_pos (.inr (.inl e))]
   dsimp only
   rw [hval]
  rw [hd,hd',hh,hh',uP dt ds] at h1
  have e2:evC 2 [] k=0:=rfl
  have e3:evC 3 [] k=0:=rfl
  dsimp only
  omega
 ·rw [if_neg (by rw [o];decide),if_pos r1]
  obtain ⟨a1,a2⟩:=AZ hc hW hI hx (y:=lq 12 3 i (eO c m x.2.2.1).2.2.2.2.1 x) (by constructor <;> intro h <;> dsimp only [lq,Ap] at h ⊢ <;> omega) ie cx hne dt (by rw [db,hh]) (by rw [hh];exact ds)
  refine ⟨a1,fun k => ?_⟩
  have h1:=a2 k
  have hd':hdY (lq 12 3 i (eO c m x.2.2.1).2.2.2.2.1 x) k=if x.2.2.1.2.2.2.1=k then 1 else 0:=by
   rw [← hval]
   rfl
  rw [hd,hd'] at h1
  have e2:evC 2 [] k=0:=rfl
  have e3:evC 3 [] k=0:=rfl
  dsimp only
  omega
 ·rw [if_neg (by rw [o];decide),if_neg (by rw [r1];decide)]
  have hh':hiW c (eO c m x.2.2.1).1 i (toW 13 x)=dB c m i+1:=by
   unfold hiW
   rw [if_neg (by exact (show ¬ (13:Int)=0 by decide)),db]
  obtain ⟨a1,a2⟩:=JG hc hW hI hx (y:=toW 13 x) ie (by omega) (show (13:Int)≠2∧(13:Int)≠12∧(13:Int)≠3∧(13:Int)≠5∧(13:Int)≠6∧(13:Int)≠7∧(13:Int)≠8∧(13:Int)≠14 by decide) hne (fun f hfi h=>by
   rw [hh] at h
   rw [hh']
   rw [← hfi] at h dt ds ⊢
   exact h.stay dt fun h=>⟨by omega,ds _ (Int.le_refl _) h⟩) ⟨by
    rw [hh']
    have:=hq.n
    exact ⟨by rw [dt];exact hv.t0,by rw [dt];have:=hv.le;omega,by rw [dt];exact hrm,by omega⟩,by rw [hh',← hh];have:=hq.n;omega,fun h=>absurd h (show ¬ (13:Int)=0 by decide),fun h=>absurd h (show ¬ (13:Int)=11 by decide)⟩
  refine ⟨a1,fun k => ?_⟩
  have h1:=a2 k
  have hd':hdW c (eO c m x.2.2.1).1 (toW 13 x) k=0:=rfl
  rw [hd,hd',hh,hh',Ls (by rw [dt];exact hv.le),uP dt ds,hval] at h1
  have e2:evC 2 [] k=0:=rfl
  have e3:evC 3 [] k=0:=rfl
  dsimp only
  omega
theorem ZU (e:x.1=12):lI c m n W S i (rW c t m i x):=by
 have hi:=(List.getElem?_eq_some_iff.1 hx).1
 have hf:=(hI.i x (List.mem_of_getElem? hx)).en e
 have hd:∀ k,hdW c m x k=if x.2.2.1.2.2.2.1=k then 1 else 0:=fun k=>by unfold hdW;rw [if_neg (by omega),if_neg (by omega),if_pos (.inr (.inr e))]
 have hk:dF c m x.2.2.1=lb c m x.2.2.1:=by
  unfold dF lj CZ
  rw [hf.op]
  rfl
 have eE:(fun q=>fk (fun _ x=>clE x q) 0 W+fk (fun _ x=>clS x q) 0 S)=fun q=>oE W S x q+clF x.2.2.1 q:=funext fun q=>by
  rw [Pm hx]
  unfold clE
  rw [if_pos e]
 have eD:(fun q=>fk (fun _ x=>clD x q) 0 W)=oD W x:=funext fun q=>by
  rw [Rz hx]
  unfold clD
  rw [if_neg (by omega)]
  rfl
 have hin:=hI.inj
 rw [eE,eD] at hin
 obtain ⟨du,tE,tD,l5,hcase⟩:=LV hc hl hin hf (Mn hc hl hW hwm hI hx hn hsm) (Lu hc hl hW hwm hI hx hn hsm) (by have:=hI.b5;omega)
 have tE':∀ g,EFr c m g→(∀ q,clF g q≤oE W S x q)→EFr c (lb c m x.2.2.1).1 g:=fun g hg hq=>tE g hg fun g3 f3 ex=>by
  have h1:=hq g.2.2.2.2.1
  unfold clF at h1
  rw [if_pos ⟨g3,rfl⟩] at h1
  have h2:=hin.a g.2.2.2.2.1 (hg.p3 g3).1 (hg.p3 g3).2.1
  unfold clF at h2
  rw [if_pos (c:=3≤x.2.2.1.2.1∧_) ⟨f3,ex.symm⟩] at h2
  omega
 have tD':∀ g,DFr c m g→(∀ q,clF g q≤oD W x q)→DFr c (lb c m x.2.2.1).1 g∧∀ k,hdD c (lb c m x.2.2.1).1 g k=hdD c m g k:=fun g hg _=>tD g hg
 unfold rW
 rw [hk]
 dsimp only
 have hh:hiW c m i x=dB c m i:=by unfold hiW;rw [if_neg (by omega)]
 have hii:=du i (by omega) (by omega)
 rcases hcase with ⟨o,pf,ji,jn,hval⟩ | ⟨o,r1,ji,jn,hval⟩ | ⟨o,r1,ji,jn⟩
 ·rw [if_pos o]
  obtain ⟨a1,a2,a3⟩:=QI hc hW hI hx (y:=(x.1,x.2.1,(lb c m x.2.2.1).2,x.2.2.2)) (by omega) (.inr e) (by
   have e1:(fun q=>oE W S x q+clE (x.1,x.2.1,(lb c m x.2.2.1).2,x.2.2.2) q)=fun q=>oE W S x q+clF (lb c m x.2.2.1).2 q:=funext fun q=>by
    unfold clE
    rw [if_pos (by exact e)]
   have e2:(fun q=>oD W x q+clD (x.1,x.2.1,(lb c m x.2.2.1).2,x.2.2.2) q)=oD W x:=funext fun q=>by
    unfold clD
    rw [if_neg (by dsimp only;omega)]
    rfl
   rw [e1,e2]
   exact ji) l5 tE' tD' du ⟨fun h=>by dsimp only at h;omega,fun _=>pf,fun h=>by dsimp only at h;omega⟩
  refine ⟨a1,fun k => ?_⟩
  have h1:=a2 k
  have h2:=a3 k
  have h3:=jn k
  have hd':hdW c (lb c m x.2.2.1).1 (x.1,x.2.1,(lb c m x.2.2.1).2,x.2.2.2) k=if x.2.2.1.2.2.2.1=k then 1 else 0:=by
   unfold hdW
   rw [if_neg (by dsimp only;omega),if_neg (by dsimp only;omega),if_pos (.inr (.inr e))]
   dsimp only
   rw [hval]
  rw [hd,hd'] at h1
  have e2:evC 2 [] k=0:=rfl
  have e3:evC 3 [] k=0:=rfl
  unfold pD
  dsimp only
  omega
 ·rw [if_neg (by rw [o];decide),if_pos r1]
  have hs:=hsm _ (Pg hx (show 0<hdW c m x (lb c m x.2.2.1).2.2.2.2.1 by rw [hd,hval,if_pos rfl];decide))
  rw [wU hs]
  obtain ⟨a1,a2,a3⟩:=Cb hc hW hI hx (y:=(9,iU t x.2.1 (lb c m x.2.2.1).2.2.2.2.1,dw,x.2.2.2)) (fF rfl) ji l5 tE' tD' (fun j _ h=>du j (by omega) h) hii.t (by rw [hh,hii.b]) (fun a _ _=>hii.s a)
  refine ⟨a1,fun k => ?_⟩
  have h1:=a2 k
  have h2:=a3 k
  have h3:=jn k
  rw [hd,← hval,show hdY (9,iU t x.2.1 (lb c m x.2.2.1).2.2.2.2.1,dw,x.2.2.2) k=0 from rfl] at h1
  rw [lu,lu]
  unfold pD
  dsimp only
  simp only [true_and,show ¬ ((2:Int)=3) by decide,false_and,if_false]
  omega
 ·rw [if_neg (by rw [o];decide),if_neg (by rw [r1];decide)]
  obtain ⟨a1,a2,a3⟩:=Cb hc hW hI hx (y:=toW 13 x) (fF rfl) ji l5 tE' tD' (fun j _ h=>du j (by omega) h) hii.t (by rw [hh,hii.b]) (fun a _ _=>hii.s a)
  refine ⟨a1,fun k => ?_⟩
  have h1:=a2 k
  have h2:=a3 k
  have h3:=jn k
  rw [hd,show hdY (toW 13 x) k=0 from rfl] at h1
  have e2:evC 2 [] k=0:=rfl
  have e3:evC 3 [] k=0:=rfl
  unfold pD
  dsimp only
  omega
end
end Go.Ab
set_option linter.unusedVariables false
namespace Go.Ab
theorem alQ {v:Int} (h:0≤v∧v<1000):IntKind.u64.wrap v=v:=by
 rw [ky]
 omega
theorem UO {t:Tyt} {s:Tye} {k:Int} (h:ea t s=(2,k)):0≤k∧k<t.length∧t.length≤30:=by
 rcases l9 s with rfl | ⟨r,x,rfl⟩
 ·simp [ea] at h
 ·rw [pJ] at h
  split at h
  ·simp at h
  ·rename_i hs
   have hs':cG t (r++[x])=true:=by simpa using hs
   split at h
   ·simp at h
   ·split at h
    ·rename_i h1 h2
     have hm:ow t=true:=by unfold cG at hs';rw [Bool.and_eq_true] at hs';exact hs'.1
     have hM:=CK hm
     have hit:It t x:=by
      unfold cG at hs'
      rw [Bool.and_eq_true,List.all_eq_true] at hs'
      exact KL.1 (hs'.2 x (by simp))
     have e:((nR t x.1).2[x.2.2.toNat]?).getD 0=k:=by
      simpa using h
     obtain ⟨c0,q0⟩:=And.intro hit.c0 hit.h0
     have hlt:x.2.2.toNat<(nR t x.1).2.length:=by omega
     rw [List.getElem?_eq_getElem hlt] at e
     have hq:=hM.kids (k,x.1) (nB.2 ⟨x.1.toNat,nR t x.1,by
      unfold nR
      rw [List.getElem?_eq_getElem (by have:=hit.h1;omega)]
      rfl,by rw [← e];exact List.getElem_mem hlt,by congr 1;omega⟩)
     have:=hM.len
     dsimp only at hq
     omega
    ·simp at h
theorem MstA.mono {n n':Nat} {c:CF} {m:List Int} {W:List WB} {S:List SB} (h:MstA n c m W S) (hn:n≤n'):MstA n' c m W S:=
 ⟨h.inj,by have:=h.b5;omega,fun i x hx=>by
  have:=h.q i x hx
  exact ⟨this.v,by have:=this.n;omega,this.po,this.ps⟩,h.i,h.th,h.s⟩
theorem HQ {α:Type} {l:List α} {i:Nat} {x:α} (h:l[i]? = some x):l.set i x=l:=by
 obtain ⟨hi,rfl⟩:=List.getElem?_eq_some_iff.1 h
 exact List.set_getElem_self hi
section
variable {c:CF} {t:Tyt} {m:List Int} {n:Nat} {W:List WB} {S:List SB} {i:Nat} {x:WB} {d:Int}
variable (hc:dl c=true) (hl:(m.length:Int)=bN c) (hW:(W.length:Int)=c.1) (hwm:Wm m) (hI:MstA n c m W S) (hx:W[i]? = some x) (hn:n+1≤1000000) (hsm:∀ k,0<pD c m W k→0≤k∧k<1000)
include hc hl hW hwm hI hx hn hsm
theorem T4:lI c m n W S i (bw c t m i x d):=by
 have hO:=hI.i x (List.mem_of_getElem? hx)
 have far:x.1≠0∧x.1≠2∧x.1≠12→x.1≠4→x.1≠11→∀ k,hdY x k=0:=fun h h4 h11 k=>by unfold hdY;rw [if_neg (by omega)]
 refine kE (P:=fun r=>lI c m n W S i r) (fun _ => ?_) (fun _ e => ?_) (fun _ e => ?_) (fun _ e => ?_) (fun _ e => ?_) (fun _ e => ?_) (fun _ e => ?_) (fun _ e => ?_) (fun _ e => ?_) (fun _ e => ?_) (fun _ e => ?_) (fun _ e => ?_) (fun _ e => ?_) (fun _ e => ?_) (fun _ e => ?_) (fun _ e => ?_)
 ·unfold lI
  dsimp only
  rw [HQ hx]
  exact ⟨hI.mono (Nat.le_succ n),fun k=>rfl⟩
 ·exact ahE hc hl hW hwm hI hx hn hsm e
 ·refine HN hc hl hW hwm hI hx hn hsm (by omega) (by decide) ?_ fun k=>by rw [far (by omega) (by omega) (by omega)];rfl
  constructor <;> intro h <;> dsimp only [Ap] at h ⊢ <;> omega
 ·rcases e with e | e
  ·exact afn hc hl hW hwm hI hx hn hsm e
  ·exact UA hc hl hW hwm hI hx hn hsm e
 ·unfold mf
  have hd:∀ k,hdW c m x k=if x.2.2.1.2.2.2.1=k then 1 else 0:=fun k=>by unfold hdW;rw [if_neg (by omega),if_neg (by omega),if_pos (.inl e)]
  have hs:=hsm _ (Pg hx (show 0<hdW c m x x.2.2.1.2.2.2.1 by rw [hd,if_pos rfl];decide))
  rw [wU hs]
  refine HN hc hl hW hwm hI hx hn hsm (by omega) (by decide) ?_ fun k => ?_
  ·by_cases h1:ah m 1=1
   ·rw [if_pos h1,if_pos h1]
    exact mS (.inr (.inr (.inr (.inr rfl)))) (show (5:Int)≤6 by decide)
   ·rw [if_neg h1,if_neg h1]
    exact fF rfl
  ·have e1:hdY x k=if x.2.2.1.2.2.2.1=k then 1 else 0:=by unfold hdY;rw [if_pos (.inl e)]
   rw [e1,lu,lu]
   have e2:hdY (if ah m 1=1 then 14 else 9,iU t x.2.1 x.2.2.1.2.2.2.1,if ah m 1=1 then Ap 6 i 0 else dw,x.2.2.2) k=0:=by
    by_cases h1:ah m 1=1
    ·rw [if_pos h1,if_pos h1]
     rfl
    ·rw [if_neg h1,if_neg h1]
     rfl
   rw [e2]
   simp only [true_and,show ¬ ((2:Int)=3) by decide,false_and,if_false]
   omega
 ·obtain ⟨ie,du,op⟩:=AV (m:=m) hc (hO.ev (.inl e))
  exact CG hc hl hW hwm hI hx hn hsm (by omega) (mS (.inr (.inl rfl)) (show 5≤(dF c m x.2.2.1).2.1 by rw [op];exact hO.ev (.inl e))) ie du fun k=>by rw [far (by omega) (by omega) (by omega)];rfl
 ·exact HN hc hl hW hwm hI hx hn hsm (by omega) (by decide) (mS (.inr (.inr (.inl rfl))) (hO.ev (.inr (.inl e)))) fun k=>by rw [far (by omega) (by omega) (by omega)];rfl
 ·have h5:=hO.ev (.inr (.inr (.inl e)))
  have z:=far (by omega) (by omega) (by omega)
  have s8:∀ (f:FR) (a b:Int),f.1=x.2.2.1.1→NewF c i (8,x.2.1,f,a,b):=fun f a b hf=>mS (.inr (.inr (.inr (.inl rfl)))) (by rw [← hf] at h5;exact h5)
  have s7:∀ (f:FR) (a b:Int),f.1=x.2.2.1.1→NewF c i (7,x.2.1,f,a,b):=fun f a b hf=>mS (.inr (.inr (.inl rfl))) (by rw [← hf] at h5;exact h5)
  have fin:∀ y,NewF c i y→(∀ k,hdY y k=0)→lI c m n W S i (m,y,[]):=fun y hN hy=>rX hc hl hW hwm hI hx hn hsm (by omega) hN fun k=>by rw [hy,z];rfl
  have hfe:∀ f:FR,f=(if x.2.2.2.2=0 then Fu x.2.2.1 (ah m 4) else if x.2.2.2.2=1 then x.2.2.1 else if x.2.2.2.2%2=0 then Fu x.2.2.1 (ah m (Iq c ((x.2.2.2.2 - 2)/2))) else x.2.2.1)→f.1=x.2.2.1.1:=fun f hf=>by
   rw [hf]
   repeat' split
   all_goals rfl
  unfold fg
  dsimp only
  generalize hf:(if x.2.2.2.2=0 then Fu x.2.2.1 (ah m 4) else if x.2.2.2.2=1 then x.2.2.1 else if x.2.2.2.2%2=0 then Fu x.2.2.1 (ah m (Iq c ((x.2.2.2.2 - 2)/2))) else x.2.2.1)=f
  have hfo:=hfe f hf.symm
  generalize (if x.2.2.2.2=0 then false else if x.2.2.2.2=1 then decide (ah m 5≠f.2.2.2.1) else if x.2.2.2.2%2=0 then false else decide (0<wG (ah m (I7 c ((x.2.2.2.2 - 2)/2))) f.2.2.2.1))=b
  split
  ·exact fin _ (s8 _ _ _ rfl) fun k=>rfl
  ·split
   ·exact fin _ (fF rfl) fun k=>rfl
   ·split
    ·exact fin _ (s8 _ _ _ hfo) fun k=>rfl
    ·exact fin _ (s7 _ _ _ hfo) fun k=>rfl
 ·obtain ⟨ie,du,op⟩:=AV (m:=m) hc (hO.ev (.inr (.inr (.inr (.inl e)))))
  unfold gZ
  dsimp only
  split
  ·exact CG hc hl hW hwm hI hx hn hsm (by omega) (fF rfl) ie du fun k=>by rw [far (by omega) (by omega) (by omega)];rfl
  ·exact CG hc hl hW hwm hI hx hn hsm (by omega) (mS (.inr (.inr (.inr (.inl e)))) (by dsimp only;rw [op];exact hO.ev (.inr (.inr (.inr (.inl e)))))) ie du fun k=>by
    rw [far (by omega) (by omega) (by omega)]
    unfold hdY
    rw [if_neg (by dsimp only;omega)]
    rfl
 ·have fin:∀ y,NewF c i y→(∀ k,hdY y k=0)→lI c m n W S i (m,y,[]):=fun y hN hy=>rX hc hl hW hwm hI hx hn hsm (by omega) hN fun k=>by rw [hy,far (by omega) (by omega) (by omega)];rfl
  unfold K1
  dsimp only
  split
  ·exact fin _ (fF (by dsimp only;rw [e];rfl)) fun k=>by unfold hdY;rw [if_neg (by dsimp only;omega)]
  ·split
   ·exact fin _ (fF rfl) fun k=>rfl
   ·split
    ·exact fin _ (fF rfl) fun k=>rfl
    ·refine fin _ ?_ fun k=>rfl
     constructor <;> intro h <;> dsimp only [lq,Ap] at h ⊢ <;> omega
 ·unfold ux
  dsimp only
  split
  ·exact rX hc hl hW hwm hI hx hn hsm (by omega) (fF rfl) fun k=>by rw [far (by omega) (by omega) (by omega)];rfl
  ·rename_i h2
   have hk:=UO (t:=t) (s:=x.2.1) (k:=(ea t x.2.1).2) (by
    have h2:(ea t x.2.1).1=2:=by simpa using h2
    rw [← h2])
   rw [alQ (by omega)]
   refine HN hc hl hW hwm hI hx hn hsm (by omega) (by decide) ?_ fun k => ?_
   ·constructor <;> intro h <;> dsimp only [Ap] at h ⊢ <;> omega
   ·rw [far (by omega) (by omega) (by omega),lu,lu]
    have e2:hdY (11,doB t x.2.1,Ap 0 i (ea t x.2.1).2,x.2.2.2) k=if (ea t x.2.1).2=k then 1 else 0:=rfl
    rw [e2]
    simp only [true_and,show ¬ ((3:Int)=2) by decide,false_and,if_false]
    omega
 ·exact Y3 hc hl hW hwm hI hx hn hsm e
 ·exact ZU hc hl hW hwm hI hx hn hsm e
 ·have fin:∀ y,NewF c i y→(∀ k,hdY y k=0)→lI c m n W S i (m,y,[]):=fun y hN hy=>rX hc hl hW hwm hI hx hn hsm (by omega) hN fun k=>by rw [hy,far (by omega) (by omega) (by omega)];rfl
  unfold Ke
  split
  ·exact fin _ (mS (.inr (.inr (.inr (.inr rfl)))) (show (5:Int)≤6 by decide)) fun k=>rfl
  ·exact fin _ (fF rfl) fun k=>rfl
 ·obtain ⟨ie,du,op⟩:=AV (m:=m) hc (hO.ev (.inr (.inr (.inr (.inr e)))))
  unfold uj
  dsimp only
  split
  ·exact CG hc hl hW hwm hI hx hn hsm (by omega) (fF rfl) ie du fun k=>by rw [far (by omega) (by omega) (by omega)];rfl
  ·exact CG hc hl hW hwm hI hx hn hsm (by omega) (mS (.inr (.inr (.inr (.inr e)))) (by dsimp only;rw [op];exact hO.ev (.inr (.inr (.inr (.inr e)))))) ie du fun k=>by
    rw [far (by omega) (by omega) (by omega)]
    unfold hdY
    rw [if_neg (by dsimp only;omega)]
    rfl
 ·unfold ui
  dsimp only
  split
  ·exact rX hc hl hW hwm hI hx hn hsm (by omega) (fF rfl) fun k=>by rw [far (by omega) (by omega) (by omega)];rfl
  ·have he:∀ k,evC 2 (if ah m 0=1 then [(4,(ea t x.2.1).2,(i:Int)),(5,0,(i:Int))] else [(4,(ea t x.2.1).2,(i:Int))]) k=0∧evC 3 (if ah m 0=1 then [(4,(ea t x.2.1).2,(i:Int)),(5,0,(i:Int))] else [(4,(ea t x.2.1).2,(i:Int))]) k=0:=fun k=>by
    unfold evC
    split <;> simp
   refine HN hc hl hW hwm hI hx hn hsm (by omega) (by decide) ?_ fun k => ?_
   ·split
    ·constructor <;> intro h <;> dsimp only [Ap] at h ⊢ <;> omega
    ·exact fF rfl
   ·rw [far (by omega) (by omega) (by omega),(he k).1,(he k).2]
    unfold hdY
    rw [if_neg]
    split <;> (dsimp only;omega)
end
end Go.Ab
set_option linter.unusedVariables false
namespace Go.Ab
section
variable {c:CF} {m m':List Int} {n:Nat} {W:List WB} {S:List SB} {i:Nat}
def oS (W:List WB) (S:List SB) (x:SB) (q:Int):Nat:=fk (fun _ x=>clE x q) 0 W+(fk (fun _ x=>clS x q) 0 S - clS x q)
theorem XI {x:SB} (hx:S[i]? = some x) (q:Int):fk (fun _ x=>clE x q) 0 W+fk (fun _ x=>clS x q) 0 S=oS W S x q+clS x q:=by
 have:=iq (g:=fun _ x=>clS x q) (n:=0) hx
 unfold oS
 omega
theorem amB (hc:dl c=true) (hW:(W.length:Int)=c.1) (hI:MstA n c m W S) {x y:SB} (hx:S[i]? = some x) (hinj:InjI c m' (fun q=>oS W S x q+clS y q) (fun q=>fk (fun _ x=>clD x q) 0 W)) (hb5:ah m' 5≤ah m 5+1)
  (tE:∀ g,EFr c m g→(∀ q,clF g q≤oS W S x q)→EFr c m' g)
  (tD:∀ g,DFr c m g→DFr c m' g∧∀ k,hdD c m' g k=hdD c m g k)
  (hu:∀ u,0≤u→u<c.1→DEq c m m' u) (hy:(y.1=2→EFr c m' y.2.2∧y.2.2.2.2.2.1=iS y.2.1)∧(y.1=4→5≤y.2.2.1)) :
  MstA (n+1) c m' W (S.set i y)∧(∀ k,wa c m' W k=wa c m W k)∧∀ k,AB c m' W k=AB c m W k:=by
 have _h:=hc
 obtain ⟨hi,hxe⟩:=List.getElem?_eq_some_iff.1 hx
 have clE2:∀ a ∈ W,∀ q,clE a q≤oS W S x q:=fun a ha q=>by
  obtain ⟨j,hj⟩:=List.mem_iff_getElem?.1 ha
  have:=iq (g:=fun _ x=>clE x q) (n:=0) hj
  unfold oS
  omega
 have clS2:∀ {j:Nat} {a:SB},j≠i→S[j]? = some a→∀ q,clS a q≤oS W S x q:=fun hj ha q=>by
  have:=um (g:=fun _ x=>clS x q) (n:=0) hj ha hx
  unfold oS
  omega
 have hlt:∀ {j:Nat} {a:WB},W[j]? = some a→(j:Int)<c.1:=fun ha=>by
  have:=(List.getElem?_eq_some_iff.1 ha).1
  omega
 have hdw:∀ {j:Nat} {a:WB},W[j]? = some a→∀ k,hdW c m' a k=hdW c m a k:=by
  intro j a ha k
  have h:=hI.i a (List.mem_of_getElem? ha)
  have hq:=hI.q j a ha
  unfold hdW
  split
  ·rename_i e
   refine DEq.hdp ?_ k
   rw [(hq.po e).who]
   exact hu j (by omega) (hlt ha)
  ·split
   ·rename_i e
    exact (tD _ (h.de e)).2 k
   ·rfl
 refine ⟨⟨?_,by have:=hI.b5;omega,fun j a ha=>(hu j (by omega) (hlt ha)).owq (Nat.le_succ n) (hI.q j a ha),fun a ha => ?_,fun a ha e => ?_,fun a ha => ?_⟩,fun k => ?_,fun k => ?_⟩
 ·have e1:(fun q=>fk (fun _ x=>clE x q) 0 W+fk (fun _ x=>clS x q) 0 (S.set i y))=fun q=>oS W S x q+clS y q:=funext fun q=>by
   have:=pK (g:=fun _ x=>clS x q) (y:=y) hx
   have h2:=iq (g:=fun _ x=>clS x q) (n:=0) hx
   unfold oS
   omega
  rw [e1]
  exact hinj
 ·have h:=hI.i a ha
  refine ⟨fun e=>(tD _ (h.de e)).1,fun e=>tE _ (h.en e) fun q => ?_,h.ev⟩
  have:=clE2 a ha q
  unfold clE at this
  rwa [if_pos e] at this
 ·obtain ⟨w0,w1,w2⟩:=hI.th a ha e
  refine ⟨w0,w1,fun b hb => ?_⟩
  have hD:=hu _ w0 w1
  rw [hD.hi]
  exact (w2 b hb).stay hD.t fun h=>⟨h,hD.s _⟩
 ·obtain ⟨j,hj⟩:=List.mem_iff_getElem?.1 ha
  rw [List.getElem?_set] at hj
  split at hj
  ·cases hj
   exact hy
  ·rename_i e
   have h:=hI.s a (List.mem_of_getElem? hj)
   refine ⟨fun e2=>⟨tE _ (h.1 e2).1 fun q => ?_,(h.1 e2).2⟩,h.2⟩
   have:=clS2 (fun h=>e h.symm) hj q
   unfold clS at this
   rwa [if_pos e2] at this
 ·exact nt rfl fun j a b ha hb=>by
   rw [ha] at hb
   cases hb
   exact hdw ha k
 ·exact nt rfl fun j a b ha hb=>by
   rw [ha] at hb
   cases hb
   have hD:=hu j (by omega) (hlt ha)
   rw [Nat.zero_add,hD.hi,hD.n]
def Vq (c:CF) (m:List Int) (n:Nat) (W:List WB) (S:List SB) (i:Nat) (r:List Int×SB×List EV):Prop:=
 MstA (n+1) c r.1 W (S.set i r.2.1)∧∀ k,pD c r.1 W k=pD c m W k+evC 0 r.2.2 k
theorem mO (hc:dl c=true) (hW:(W.length:Int)=c.1) (hI:MstA n c m W S) {x y:SB} {evs:List EV} (hx:S[i]? = some x) (hx2:x.1≠2) (ie:InjEq c m m') (hu:∀ u,0≤u→u<c.1→DEq c m m' u) (hy:(y.1=2→y.2.2.1=3∧y.2.2.2.1=0∧y.2.2.2.2.2.2.2.2=0∧y.2.2.2.2.2.1=iS y.2.1)∧(y.1=4→5≤y.2.2.1)) (he:∀ k,evC 0 evs k=0):Vq c m n W S i (m',y,evs):=by
 have hcl:∀ q,clS y q=0:=fun q=>by
  unfold clS clF
  split
  ·rename_i e
   have:=(hy.1 e).2.1
   rw [if_neg (by omega)]
  ·rfl
 have hin:=hI.inj
 have e1:(fun q=>fk (fun _ x=>clE x q) 0 W+fk (fun _ x=>clS x q) 0 S)=fun q=>oS W S x q+clS y q:=funext fun q=>by
  rw [XI hx,hcl]
  unfold clS
  rw [if_neg hx2]
 rw [e1] at hin
 obtain ⟨a1,a2,a3⟩:=amB hc hW hI hx (ie.inj hin) (by rw [ie.t];omega) (fun g hg _=>ie.efr hg) (fun g hg=>⟨ie.dfr hg,ie.hd g⟩) hu ⟨fun e=>by
  obtain ⟨h1,h2,h3,h4⟩:=hy.1 e
  exact ⟨⟨h1,h3,by omega,fun _=>by omega,fun _=>by omega,fun _=>by omega,fun _=>by omega⟩,h4⟩,hy.2⟩
 refine ⟨a1,fun k => ?_⟩
 have:=a2 k
 have:=a3 k
 have:=ie.n k
 have:=he k
 unfold pD
 dsimp only
 omega
theorem Zw {t:Tyt} {w:Int} (hc:dl c=true) (hl:(m.length:Int)=bN c) (hW:(W.length:Int)=c.1) (hI:MstA n c m W S) {x:SB} (hx:S[i]? = some x) (hn:n+1≤1000000):Vq c m n W S i (gO c t m w x):=by
 have hm:=aC hc
 have hO:=hI.s x (List.mem_of_getElem? hx)
 have e0:∀ k,evC 0 [] k=0:=fun k=>rfl
 have eR:∀ (j w k:Int),evC 0 [(1,j,w)] k=0:=fun j w k=>by rw [lu,if_neg (by omega)]
 unfold gO
 split
 ·unfold Vq
  dsimp only
  rw [HQ hx]
  exact ⟨hI.mono (Nat.le_succ n),fun k=>rfl⟩
 split
 ·rename_i e
  split
  ·exact mO hc hW hI hx (by omega) .rfl' (fun _ _ _ => .rfl') ⟨fun h=>absurd h (show ¬ (0:Int)=2 by decide),fun h=>absurd h (show ¬ (0:Int)=4 by decide)⟩ (eR _ _)
  ·exact mO hc hW hI hx (by omega) .rfl' (fun _ _ _ => .rfl') ⟨fun h=>absurd h (show ¬ (1:Int)=2 by decide),fun h=>absurd h (show ¬ (1:Int)=4 by decide)⟩ e0
 split
 ·exact mO hc hW hI hx (by omega) (gH hc (.inl (by decide))) (fun u u0 u1=>mW hc u0 u1 (by omega)) ⟨fun _=>⟨rfl,rfl,rfl,rfl⟩,fun h=>absurd h (show ¬ (2:Int)=4 by decide)⟩ e0
 split
 ·rename_i e
  obtain ⟨hf,hval0⟩:=hO.1 e
  have hk:lj c m x.2.2=lb c m x.2.2:=by
   unfold lj CZ
   rw [hf.op]
   rfl
  have hin:=hI.inj
  have e1:(fun q=>fk (fun _ x=>clE x q) 0 W+fk (fun _ x=>clS x q) 0 S)=fun q=>oS W S x q+clF x.2.2 q:=funext fun q=>by
   rw [XI hx]
   unfold clS
   rw [if_pos e]
  rw [e1] at hin
  obtain ⟨du,tE,tD,l5,hcase⟩:=LV hc hl hin hf (fun q h=>by
   obtain ⟨j,a,ha,hp⟩:=nV h
   unfold clD at hp
   split at hp
   ·rename_i e
    unfold clF at hp
    split at hp
    ·rename_i e2
     have:=((hI.i a (List.mem_of_getElem? ha)).de e).p3 e2.1
     rw [e2.2] at this
     exact this.2.2
    ·omega
   ·omega) (fun q h=>by
   have h2:0<fk (fun _ x=>clE x q) 0 W∨0<fk (fun _ x=>clS x q) 0 S:=by unfold oS at h;omega
   rcases h2 with h2 | h2
   ·obtain ⟨j,a,ha,hp⟩:=nV h2
    unfold clE at hp
    split at hp
    ·rename_i e
     unfold clF at hp
     split at hp
     ·rename_i e2
      have:=((hI.i a (List.mem_of_getElem? ha)).en e).p3 e2.1
      rw [e2.2] at this
      exact this.2.2
     ·omega
    ·omega
   ·obtain ⟨j,a,ha,hp⟩:=nV h2
    unfold clS at hp
    split at hp
    ·rename_i e
     unfold clF at hp
     split at hp
     ·rename_i e2
      have:=((hI.s a (List.mem_of_getElem? ha)).1 e).1.p3 e2.1
      rw [e2.2] at this
      exact this.2.2
     ·omega
    ·omega) (by have:=hI.b5;omega)
  have tE':∀ g,EFr c m g→(∀ q,clF g q≤oS W S x q)→EFr c (lb c m x.2.2).1 g:=fun g hg hq=>tE g hg fun g3 f3 ex=>by
   have h1:=hq g.2.2.2.2.1
   unfold clF at h1
   rw [if_pos ⟨g3,rfl⟩] at h1
   have h2:=hin.a g.2.2.2.2.1 (hg.p3 g3).1 (hg.p3 g3).2.1
   unfold clF at h2
   rw [if_pos (c:=3≤x.2.2.2.1∧_) ⟨f3,ex.symm⟩] at h2
   omega
  dsimp only
  rw [hk]
  have fin:∀ (y:SB) (evs:List EV),(∀ q,clS y q=0)→InjI c (lb c m x.2.2).1 (oS W S x) (fun q=>fk (fun _ x=>clD x q) 0 W)→y.1≠2→y.1≠4→(∀ k,pS c (lb c m x.2.2).1 k=pS c m k+evC 0 evs k)→Vq c m n W S i ((lb c m x.2.2).1,y,evs):=fun y evs hcl ji y2 y4 hj=>by
   obtain ⟨a1,a2,a3⟩:=amB hc hW hI hx (y:=y) (by
    have e2:(fun q=>oS W S x q+clS y q)=oS W S x:=funext fun q=>by rw [hcl];rfl
    rw [e2]
    exact ji) l5 tE' tD du ⟨fun h=>absurd h y2,fun h=>absurd h y4⟩
   refine ⟨a1,fun k => ?_⟩
   have:=a2 k
   have:=a3 k
   have:=hj k
   unfold pD
   dsimp only
   omega
  rcases hcase with ⟨o,pf,ji,jn,hval⟩ | ⟨o,r1,ji,jn,hval⟩ | ⟨o,r1,ji,jn⟩
  ·rw [if_pos o]
   obtain ⟨a1,a2,a3⟩:=amB hc hW hI hx (y:=(2,x.2.1,(lb c m x.2.2).2)) (m':=(lb c m x.2.2).1) ji l5 tE' tD du ⟨fun _=>⟨pf,hval.trans hval0⟩,fun h=>absurd h (show ¬ (2:Int)=4 by decide)⟩
   refine ⟨a1,fun k => ?_⟩
   have:=a2 k
   have:=a3 k
   have:=jn k
   have:=e0 k
   unfold pD
   dsimp only
   omega
  ·rw [if_neg (by rw [o];decide),if_pos r1]
   exact fin _ _ (fun q=>rfl) ji (show (5:Int)≠2 by decide) (show (5:Int)≠4 by decide) fun k=>by rw [jn,e0];rfl
  ·rw [if_neg (by rw [o];decide),if_neg (by rw [r1];decide)]
   refine fin _ _ (fun q=>rfl) ji (show (3:Int)≠2 by decide) (show (3:Int)≠4 by decide) fun k => ?_
   rw [jn,lu]
   have hv:x.2.2.2.2.2.1=iS x.2.1:=hval0
   rw [hv]
   simp only [true_and]
 split
 ·rename_i e
  split
  ·exact mO hc hW hI hx (by omega) .rfl' (fun _ _ _ => .rfl') ⟨fun h=>absurd h (show ¬ (0:Int)=2 by decide),fun h=>absurd h (show ¬ (0:Int)=4 by decide)⟩ e0
  ·exact mO hc hW hI hx (by omega) .rfl' (fun _ _ _ => .rfl') ⟨fun h=>absurd h (show ¬ (4:Int)=2 by decide),fun _=>show (5:Int)≤6 by decide⟩ e0
 split
 ·rename_i e
  have h5:=hO.2 e
  obtain ⟨ie,du,op⟩:=AV (m:=m) hc h5
  have hk:dF c m x.2.2=lj c m x.2.2:=by
   unfold dF
   rw [if_neg (by omega)]
  rw [hk] at ie du op
  dsimp only
  split
  ·exact mO hc hW hI hx (by omega) ie du ⟨fun h=>absurd h (show ¬ (0:Int)=2 by decide),fun h=>absurd h (show ¬ (0:Int)=4 by decide)⟩ e0
  ·exact mO hc hW hI hx (by omega) ie du ⟨fun h=>absurd h (show ¬ (4:Int)=2 by decide),fun _=>by dsimp only;rw [op];exact h5⟩ e0
 ·refine mO hc hW hI hx (by omega) (gH hc (.inl (by decide))) (fun u u0 u1=>mW hc u0 u1 (by omega)) ⟨fun h=>absurd h (show ¬ (0:Int)=2 by decide),fun h=>absurd h (show ¬ (0:Int)=4 by decide)⟩ fun k => ?_
  unfold evC
  split <;> simp
end
end Go.Ab
set_option linter.unusedVariables false
set_option linter.unusedSimpArgs false
namespace Go.Ab
theorem QS (t:Tyt) (s:List Int) (e:Int×Int×Int):(gD t s e).1.length=s.length:=by
 unfold gD
 split
 ·rfl
 ·split
  ·rfl
  ·split
   ·rfl
   ·split <;> simp
theorem Vv (t:Tyt) (s:List Int) (e:Int×Int×Int) (h:(gD t s e).2=false):(gD t s e).1=s:=by
 unfold gD at h ⊢
 split
 ·rfl
 ·split
  ·rfl
  ·split
   ·rfl
   ·split
    ·rename_i h1 h2 h3 _ n hr
     rw [if_neg h1,if_neg h2,if_neg h3,hr] at h
     cases h
    ·rfl
theorem Re {s:List Int} {i:Nat} {x:Int} (h:(s[i]?).getD x=x):s.set i x=s:=by
 apply List.ext_getElem?
 intro j
 by_cases e:i=j
 ·subst e
  by_cases hi:i<s.length
  ·rw [List.getElem?_set_self hi]
   rw [List.getElem?_eq_getElem hi] at h ⊢
   simpa using h.symm
  ·rw [List.getElem?_eq_none (by simpa using hi),List.getElem?_eq_none (by simpa using hi)]
 ·rw [List.getElem?_set_ne e]
end Go.Ab
namespace Go.Ab
theorem B4 {t:Tyt} {s:List Int} {kd q n:Int} (h:B3 t s kd q=some n) :
  (kd=0∧(s[q.toNat]?).getD 0=0∧n=1∧dr t q<0)∨(kd=1∧(s[q.toNat]?).getD 0=0∧n=0∧dr t q<0) ∨
  (kd=3∧(s[q.toNat]?).getD 0=0∧n=1∧0≤dr t q∧s[(dr t q).toNat]? = some 2)∨(kd=2∧(s[q.toNat]?).getD 0=1∧n=2) ∨
  (kd=4∧(s[q.toNat]?).getD 0=2∧n=3∧((((t[q.toNat]?).getD (0,[])).2.any fun i=>(idx s i).getD 1==0)=false)):=by
 unfold B3 at h
 simp only at h
 split at h
 ·rename_i h0
  split at h
  ·rename_i h1
   cases h
   exact .inl ⟨h0,h1.1,rfl,h1.2⟩
  ·cases h
 ·split at h
  ·rename_i h0
   split at h
   ·rename_i h1
    cases h
    exact .inr (.inl ⟨h0,h1.1,rfl,h1.2⟩)
   ·cases h
  ·split at h
   ·rename_i h0
    split at h
    ·rename_i h1
     cases h
     exact .inr (.inr (.inl ⟨h0,h1.1,rfl,h1.2.1,h1.2.2⟩))
    ·cases h
   ·split at h
    ·rename_i h0
     split at h
     ·rename_i h1
      cases h
      exact .inr (.inr (.inr (.inl ⟨h0,h1,rfl⟩)))
     ·cases h
    ·split at h
     ·rename_i h0
      split at h
      ·rename_i h1
       cases h
       exact .inr (.inr (.inr (.inr ⟨h0,h1.1,rfl,h1.2⟩)))
      ·cases h
     ·cases h
inductive Hap (t:Tyt) (s:List Int) (e:Int×Int×Int) (u:List Int):Prop where
 | idle (h:e.1=5) (hc:Fq s=true) (hu:u=s)
 | rule (n:Int) (h5:e.1≠5) (h0:0≤e.2.1) (hl:e.2.1<t.length) (hr:B3 t s e.1 e.2.1=some n) (hu:u=s.set e.2.1.toNat n)
theorem Xu {t:Tyt} {s:List Int} {e:Int×Int×Int} (h:(gD t s e).2=true):iT t s=true∧Hap t s e (gD t s e).1:=by
 unfold gD at h ⊢
 split
 ·rename_i h1
  rw [if_pos h1] at h
  cases h
 ·rename_i h1
  rw [if_neg h1] at h
  have hf:iT t s=true:=by simpa using h1
  refine ⟨hf,?_⟩
  split
  ·rename_i h2
   rw [if_pos h2] at h
   exact .idle h2 h rfl
  ·rename_i h2
   rw [if_neg h2] at h
   split
   ·rename_i h3
    rw [if_pos h3] at h
    cases h
   ·rename_i h3
    rw [if_neg h3] at h
    split
    ·rename_i n hr
     exact .rule n h2 (by omega) (by omega) hr rfl
    ·rename_i hr
     rw [hr] at h
     cases h
theorem nQ (t:Tyt):∀ (a b:Tye) (s:List Int),Gc t (a++b) s=if (Gc t a s).2=true then Gc t b (Gc t a s).1 else Gc t a s
 | [],b,s=>rfl
 | e::a,b,s=>by
  simp only [List.cons_append,Gc]
  by_cases h:(gD t s e).2=true
  ·simp only [h,if_true]
   exact nQ t a b _
  ·simp [h]
end Go.Ab
namespace Go.Ab
def mE (s:List Int):Int:=(s.countP r5:Nat)
theorem UP (s:List Int):Fq s=true↔mE s=0:=by
 unfold Fq mE
 rw [Bool.not_eq_true',List.any_eq_false]
 constructor
 ·intro h
  have:s.countP r5=0:=by
   rw [List.countP_eq_zero]
   exact h
  omega
 ·intro h x hx
  have:s.countP r5=0:=by omega
  exact (List.countP_eq_zero.1 this) x hx
theorem Lf:∀ (s:List Int) (i:Nat) (x n:Int),s[i]? = some x→mE (s.set i n)=mE s+(if r5 n then 1 else 0) - (if r5 x then 1 else 0)
 | [],i,x,n,h=>by simp at h
 | y::s,0,x,n,h=>by
  simp at h
  subst h
  simp only [List.set_cons_zero,mE]
  by_cases a:r5 n=true <;> by_cases b:r5 y=true <;> simp [a,b] <;> omega
 | y::s,i+1,x,n,h=>by
  have ih:=Lf s i x n (by simpa using h)
  simp only [List.set_cons_succ,mE] at ih ⊢
  by_cases b:r5 y=true
  ·rw [List.countP_cons_of_pos b,List.countP_cons_of_pos b]
   omega
  ·rw [List.countP_cons_of_neg b,List.countP_cons_of_neg b]
   exact ih
def evD (e:Int×Int×Int):Int:=if e.1=0∨e.1=3 then 1 else if e.1=4 then -1 else 0
theorem Px {t:Tyt} {s:List Int} {e:Int×Int×Int} (h:(gD t s e).2=true):mE (gD t s e).1=mE s+evD e:=by
 obtain ⟨hf,hh⟩:=Xu h
 have hsl:s.length=t.length:=by
  simp only [iT,Bool.and_eq_true,beq_iff_eq] at hf
  exact hf.1.2
 cases hh with
 | idle h5 hc hu=>
  rw [hu]
  simp [evD,h5]
 | rule n h5 h0 hl hr hu=>
  have i1:s[e.2.1.toNat]? = some s[e.2.1.toNat]:=List.getElem?_eq_getElem (by omega)
  rw [hu,Lf s _ _ n i1]
  rcases B4 hr with ⟨a,b,c,_⟩ | ⟨a,b,c,_⟩ | ⟨a,b,c,_⟩ | ⟨a,b,c⟩ | ⟨a,b,c,_⟩ <;>
  ·rw [i1] at b
   simp only [Option.getD_some] at b
   rw [b,c]
   simp [evD,a,r5] <;> omega
theorem TQ (t:Tyt):mE (Mk t)=0:=by
 unfold Mk
 split
 ·have:(List.replicate t.length (0:Int)).countP r5=0:=by
   rw [List.countP_eq_zero]
   intro x hx
   rw [List.eq_of_mem_replicate hx]
   decide
  unfold mE
  omega
 ·rfl
theorem RB {t:Tyt} {s:List Int} {e:Int×Int×Int} (h:iT t s=true):iT t (gD t s e).1=true:=by
 cases hb:(gD t s e).2 with
 | false=>rw [Vv t s e hb];exact h
 | true=>
  obtain ⟨_,hh⟩:=Xu hb
  cases hh with
  | idle _ _ hu=>rw [hu];exact h
  | rule n h5 h0 hl hr hu=>
   rw [hu]
   have hn:¬ acY n=true:=by
    rcases B4 hr with ⟨_,_,b,_⟩ | ⟨_,_,b,_⟩ | ⟨_,_,b,_⟩ | ⟨_,_,b⟩ | ⟨_,_,b,_⟩ <;> (rw [b];decide)
   simp only [iT,Bool.and_eq_true,beq_iff_eq,List.length_set,Bool.not_eq_true',List.any_eq_false] at h ⊢
   refine ⟨h.1,fun x hx => ?_⟩
   rcases List.mem_or_eq_of_mem_set hx with g | g
   ·exact h.2 x g
   ·rw [g];exact hn
theorem TL {t:Tyt} (h:ow t=true):iT t (Mk t)=true:=by
 unfold Mk
 rw [if_pos h]
 simp only [iT,h,Bool.true_and,List.length_replicate,Bool.and_eq_true,beq_iff_eq,Bool.not_eq_true',List.any_eq_false]
 refine ⟨trivial,fun x hx => ?_⟩
 rw [List.eq_of_mem_replicate hx]
 decide
end Go.Ab
set_option linter.unusedVariables false
namespace Go.Ab
abbrev TK:=Tyt
abbrev IT:=Int×Int×Int
def stA (s:List Int) (k:Int):Int:=if 0≤k then (s[k.toNat]?).getD 0 else 0
theorem pu {s:List Int} {k v:Int} (h0:0≤k) (h1:k<s.length) (q:Int):stA (s.set k.toNat v) q=if q=k then v else stA s q:=by
 unfold stA
 by_cases e:q=k
 ·subst e
  rw [if_pos rfl,if_pos h0,List.getElem?_set_self (by omega)]
  rfl
 ·rw [if_neg e]
  by_cases hq:0≤q
  ·rw [if_pos hq,if_pos hq,List.getElem?_set_ne (by omega)]
  ·rw [if_neg hq,if_neg hq]
theorem o7 {s:List Int} {k:Int} (h:stA s k≠0):0≤k∧k<s.length:=by
 unfold stA at h
 split at h
 ·rename_i h0
  by_cases h1:k<s.length
  ·exact ⟨h0,h1⟩
  ·rw [List.getElem?_eq_none (by omega)] at h
   exact absurd rfl h
 ·exact absurd rfl h
theorem mw {t:TK} {s:List Int} (h:iT t s=true):ow t=true∧s.length=t.length:=by
 simp only [iT,Bool.and_eq_true,beq_iff_eq] at h
 exact h.1
def nU (t:TK) (q:Int):List Int:=(nR t q).2
theorem Cl {t:TK} {q k:Int} (hm:ow t=true) (h0:0≤q) (h:k ∈ nU t q):dr t k=q∧q<k∧k<t.length:=by
 unfold nU nR at h
 cases e:t[q.toNat]? with
 | none=>rw [e] at h;cases h
 | some x=>
  rw [e] at h
  have hq:(k,q) ∈ d8 0 t:=nB.2 ⟨q.toNat,x,e,h,by omega⟩
  have:=(CK hm).kids _ hq
  dsimp only at this
  exact ⟨BA hm hq,this.2.1,this.2.2⟩
theorem N6 {t:TK}:∀ {s:Nat},((d8 s t).map (·.1)).Nodup→∀ x ∈ t,x.2.Nodup:=by
 induction t with
 | nil=>intro s _ x hx;cases hx
 | cons y t ih=>
  intro s h x hx
  rw [d8,List.map_append] at h
  obtain ⟨h1,h2,_⟩:=List.nodup_append.1 h
  rcases List.mem_cons.1 hx with rfl | hx
  ·rw [List.map_map,show ((fun x:Int×Int=>x.1) ∘ fun k:Int=>(k,(s:Int)))=id from rfl,List.map_id] at h1
   exact h1
  ·exact ih h2 x hx
theorem acu {t:TK} {q k:Int} (hm:ow t=true) {i j:Nat} (hi:(nU t q)[i]? = some k) (hj:(nU t q)[j]? = some k):i=j:=by
 unfold nU nR at hi hj
 cases e:t[q.toNat]? with
 | none=>rw [e] at hi;simp at hi
 | some x=>
  rw [e] at hi hj
  have hn:=N6 (CK hm).once x (List.mem_of_getElem? e)
  have h1:x.2[i]? = some k:=hi
  have h2:x.2[j]? = some k:=hj
  exact (List.getElem?_inj (List.getElem?_eq_some_iff.1 h1).1 hn).1 (h1.trans h2.symm)
def tkN (l:List IT) (k:Int):Nat:=l.countP fun a=>decide (a.1=k)
theorem mN (r:List IT) (a:IT) (k:Int):tkN (r++[a]) k=tkN r k+if a.1=k then 1 else 0:=by
 unfold tkN
 rw [List.countP_append,List.countP_cons,List.countP_nil]
 by_cases e:a.1=k
 ·rw [if_pos e,decide_eq_true e];rfl
 ·rw [if_neg e,decide_eq_false e];rfl
theorem IQ {l:List IT} {a:IT} (h:a ∈ l):0<tkN l a.1:=List.countP_pos_iff.2 ⟨a,h,decide_eq_true rfl⟩
def ahO (W:List WB) (k:Int):Nat:=fk (fun _ x=>tkN x.2.1 k) 0 W
def pO (x:SB):List Int:=if x.1=3∨x.1=4 then x.2.1.tail else x.2.1
def agW (S:List SB) (r:Int):Nat:=fk (fun _ x=>(pO x).count r) 0 S
def HC (t:TK) (s:List Int) (a:IT):Prop:=∀ (j:Nat) k,(nU t a.1)[j]? = some k→((j:Int)<a.2.2→stA s k≠0)∧(a.2.2≤(j:Int)→stA s k=0)
structure MstB (t:TK) (W:List WB) (S:List SB) (s:List Int):Prop where
 fit:iT t s=true
 run:∀ k,ahO W k=if stA s k=2 then 1 else 0
 kid:∀ x ∈ W,∀ a ∈ x.2.1,HC t s a
 new:∀ q k,0≤q→stA s q≤1→k ∈ nU t q→stA s k=0
 root:∀ x ∈ S,∀ r ∈ pO x,RtB t r∧stA s r=0
 nod:∀ r,agW S r≤1
section
variable {t:TK} {W:List WB} {S:List SB} {s:List Int} {i:Nat} {x y:WB} {k:Int}
theorem Qq (hx:W[i]? = some x) (k:Int):tkN x.2.1 k≤ahO W k:=iq (g:=fun _ (x:WB)=>tkN x.2.1 k) (n:=0) hx
theorem EX (hx:W[i]? = some x) (k:Int):ahO (W.set i y) k+tkN x.2.1 k=ahO W k+tkN y.2.1 k:=pK (g:=fun _ (x:WB)=>tkN x.2.1 k) (y:=y) hx
theorem HP {α:Type} {W:List α} {i:Nat} {y a:α} (h:a ∈ W.set i y):a=y∨∃ j,j≠i∧W[j]? = some a:=by
 obtain ⟨j,hj⟩:=List.mem_iff_getElem?.1 h
 rw [List.getElem?_set] at hj
 split at hj
 ·split at hj
  ·cases hj
   exact .inl rfl
  ·cases hj
 ·rename_i e
  exact .inr ⟨j,fun h=>e h.symm,hj⟩
theorem agk (hB:MstB t W S s) (hx:W[i]? = some x) (h:y.2.1=x.2.1∨∃ r a b,x.2.1=r++[a]∧y.2.1=r++[b]∧b.1=a.1∧b.2.2=a.2.2):MstB t (W.set i y) S s:=by
 have hk:∀ k,tkN y.2.1 k=tkN x.2.1 k:=fun k=>by
  rcases h with h | ⟨r,a,b,e1,e2,e3,_⟩
  ·rw [h]
  ·rw [e1,e2,mN,mN,e3]
 refine ⟨hB.fit,fun k => ?_,fun z hz a ha => ?_,hB.new,hB.root,hB.nod⟩
 ·rw [← hB.run]
  have:=EX (y:=y) hx k
  have:=hk k
  omega
 ·rcases HP hz with rfl | ⟨j,_,hj⟩
  ·have hxx:=hB.kid x (List.mem_of_getElem? hx)
   rcases h with h | ⟨r,a',b,e1,e2,e3,e4⟩
   ·rw [h] at ha
    exact hxx a ha
   ·rw [e2] at ha
    rcases List.mem_append.1 ha with ha | ha
    ·exact hxx a (by rw [e1];exact List.mem_append_left _ ha)
    ·rw [List.mem_singleton.1 ha]
     have:=hxx a' (by rw [e1];simp)
     unfold HC at this ⊢
     rw [e3,e4]
     exact this
  ·exact hB.kid z (List.mem_of_getElem? hj) a ha
theorem AK (hB:MstB t W S s) {v:Int} (hv:0≤v∧v≤3):iT t (s.set k.toNat v)=true:=by
 have h:=hB.fit
 simp only [iT,Bool.and_eq_true,beq_iff_eq,List.length_set,Bool.not_eq_true',List.any_eq_false] at h ⊢
 refine ⟨h.1,fun x hx => ?_⟩
 rcases List.mem_or_eq_of_mem_set hx with g | g
 ·exact h.2 x g
 ·rw [g]
  unfold acY
  simp
  omega
theorem YS (hB:MstB t W S s) (hx:W[i]? = some x) (hk:stA s k=1) (hy:y.2.1=x.2.1++[(k,0,0)]):MstB t (W.set i y) S (s.set k.toNat 2):=by
 obtain ⟨k0,k1⟩:=o7 (s:=s) (k:=k) (by omega)
 obtain ⟨hm,hsl⟩:=mw hB.fit
 have st:=pu (s:=s) (v:=2) k0 k1
 refine ⟨AK hB (by omega),fun q => ?_,fun z hz a ha => ?_,fun q j q0 hq hj => ?_,fun z hz r hr => ?_,hB.nod⟩
 ·have h1:=EX (y:=y) hx q
  rw [hy,mN,hB.run q] at h1
  rw [st]
  dsimp only at h1
  by_cases e:q=k
  ·rw [if_pos (show k=q from e.symm),if_neg (show ¬ stA s q=2 by rw [e];omega)] at h1
   rw [if_pos e,if_pos rfl]
   omega
  ·rw [if_neg (show ¬ k=q from fun h=>e h.symm)] at h1
   rw [if_neg e]
   omega
 ·have old:HC t s a→HC t (s.set k.toNat 2) a:=fun h j q hj=>by
   obtain ⟨h1,h2⟩:=h j q hj
   rw [st]
   refine ⟨fun h => ?_,fun h => ?_⟩
   ·split
    ·decide
    ·exact h1 h
   ·have:=h2 h
    rw [if_neg (fun e=>by subst e;omega)]
    exact this
  rcases HP hz with rfl | ⟨j,_,hj⟩
  ·rw [hy] at ha
   rcases List.mem_append.1 ha with ha | ha
   ·exact old (hB.kid x (List.mem_of_getElem? hx) a ha)
   ·rw [List.mem_singleton.1 ha]
    intro j q hj
    dsimp only at hj ⊢
    have hmem:q ∈ nU t k:=List.mem_of_getElem? hj
    have:=Cl hm k0 hmem
    refine ⟨fun h=>by omega,fun _ => ?_⟩
    rw [st,if_neg (by omega)]
    exact hB.new k q k0 (by omega) hmem
  ·exact old (hB.kid z (List.mem_of_getElem? hj) a ha)
 ·rw [st] at hq
  split at hq
  ·omega
  ·have:=hB.new q j q0 hq hj
   rw [st,if_neg (fun e=>by subst e;omega)]
   exact this
 ·obtain ⟨h1,h2⟩:=hB.root z hz r hr
  exact ⟨h1,by rw [st,if_neg (fun e=>by subst e;omega)];exact h2⟩
theorem E2 (hB:MstB t W S s) (hx:W[i]? = some x) {r:List IT} {a:IT} (hr:x.2.1=r++[a]):stA s a.1=2∧tkN r a.1=0∧∀ j z,j≠i→W[j]? = some z→tkN z.2.1 a.1=0:=by
 have h1:=Qq hx a.1
 have h2:=hB.run a.1
 rw [hr,mN,if_pos rfl] at h1
 have h3:stA s a.1=2:=by
  by_cases e:stA s a.1=2
  ·exact e
  ·rw [if_neg e] at h2
   omega
 rw [if_pos h3] at h2
 refine ⟨h3,by omega,fun j z hj hz => ?_⟩
 have h4:=um (g:=fun _ (x:WB)=>tkN x.2.1 a.1) (n:=0) hj hz hx
 have h5:fk (fun _ (x:WB)=>tkN x.2.1 a.1) 0 W=1:=h2
 rw [h5,hr,mN,if_pos rfl] at h4
 omega
theorem X2 (hB:MstB t W S s) (hx:W[i]? = some x) {r:List IT} {a b:IT} (hr:x.2.1=r++[a]) (hy:y.2.1=r++[b]) (hb:b.1=a.1∧b.2.2=a.2.2+1) (a0:0≤a.1) (c0:0≤a.2.2) (hk:(nU t a.1)[a.2.2.toNat]? = some k):stA s k=0∧dr t k=a.1∧0≤k∧k<t.length∧MstB t (W.set i y) S (s.set k.toNat 1):=by
 obtain ⟨hm,hsl⟩:=mw hB.fit
 obtain ⟨p1,p2,p3⟩:=Cl hm a0 (List.mem_of_getElem? hk)
 have hxx:=hB.kid x (List.mem_of_getElem? hx)
 have ha:=hxx a (by rw [hr];simp)
 have hk0:stA s k=0:=(ha _ _ hk).2 (by omega)
 obtain ⟨t1,t2,t3⟩:=E2 hB hx hr
 have st:=pu (s:=s) (k:=k) (v:=1) (by omega) (by omega)
 have old:∀ a':IT,0≤a'.1→a'.1≠a.1→HC t s a'→HC t (s.set k.toNat 1) a':=fun a' h0 hne h j q hj=>by
  obtain ⟨h1,h2⟩:=h j q hj
  have hp:=Cl hm h0 (List.mem_of_getElem? hj)
  rw [st,if_neg (fun e=>by subst e;omega)]
  exact ⟨h1,h2⟩
 refine ⟨hk0,p1,by omega,p3,AK hB (by omega),fun q => ?_,fun z hz a' ha' => ?_,fun q j q0 hq hj => ?_,fun z hz r' hr' => ?_,hB.nod⟩
 ·have h1:=EX (y:=y) hx q
  rw [hr,hy,mN,mN,hb.1,hB.run q] at h1
  rw [st]
  by_cases e:q=k
  ·rw [if_neg (show ¬ stA s q=2 by rw [e];omega)] at h1
   rw [if_pos e,if_neg (by decide)]
   omega
  ·rw [if_neg e]
   omega
 ·have nn:∀ {l:List IT},tkN l a.1=0→a' ∈ l→a'.1≠a.1:=fun h h2 e=>by
   have:=IQ h2
   rw [e] at this
   omega
  have pos:stA s a'.1=2→0≤a'.1:=fun h=>(o7 (s:=s) (k:=a'.1) (by omega)).1
  have two:∀ {j:Nat} {z:WB},W[j]? = some z→a' ∈ z.2.1→stA s a'.1=2:=fun hz h2=>by
   have h1:=Qq hz a'.1
   have h3:=IQ h2
   have h4:=hB.run a'.1
   by_cases e:stA s a'.1=2
   ·exact e
   ·rw [if_neg e] at h4
    omega
  rcases HP hz with rfl | ⟨j,hji,hj⟩
  ·rw [hy] at ha'
   rcases List.mem_append.1 ha' with h | h
   ·have hmem:a' ∈ x.2.1:=by rw [hr];exact List.mem_append_left _ h
    exact old a' (pos (two hx hmem)) (nn t2 h) (hxx a' hmem)
   ·rw [List.mem_singleton.1 h]
    intro j q hj
    rw [hb.1] at hj
    obtain ⟨h1,h2⟩:=ha j q hj
    rw [hb.2,st]
    by_cases e:q=k
    ·subst e
     have:=acu hm hj hk
     rw [if_pos rfl]
     exact ⟨fun _=>by decide,fun _=>by omega⟩
    ·rw [if_neg e]
     refine ⟨fun h=>h1 ?_,fun h=>h2 (by omega)⟩
     by_cases e2:(j:Int)=a.2.2
     ·exfalso
      apply e
      have:a.2.2.toNat=j:=by omega
      rw [this,hj] at hk
      exact Option.some.inj hk
     ·omega
  ·exact old a' (pos (two hj ha')) (nn (t3 j z hji hj) ha') (hB.kid z (List.mem_of_getElem? hj) a' ha')
 ·have hq0:stA s q≤1:=by
   rw [st] at hq
   split at hq
   ·rename_i e;subst e;omega
   ·exact hq
  have hp:=Cl hm q0 hj
  have:=hB.new q j q0 hq0 hj
  rw [st,if_neg]
  ·exact this
  ·intro e
   subst e
   rw [p1] at hp
   rw [← hp.1] at hq0
   omega
 ·obtain ⟨h1,h2⟩:=hB.root z hz r' hr'
  refine ⟨h1,?_⟩
  rw [st,if_neg]
  ·exact h2
  ·intro e
   subst e
   have:=h1.2
   omega
theorem aeL (hB:MstB t W S s) (hx:W[i]? = some x) {a:IT} (hr:x.2.1=y.2.1++[a]) (hall:((nU t a.1).length:Int)≤a.2.2):stA s a.1=2∧(∀ q ∈ nU t a.1,stA s q≠0)∧MstB t (W.set i y) S (s.set a.1.toNat 3):=by
 obtain ⟨hm,hsl⟩:=mw hB.fit
 have hxx:=hB.kid x (List.mem_of_getElem? hx)
 obtain ⟨t1,t2,t3⟩:=E2 hB hx hr
 obtain ⟨k0,k1⟩:=o7 (s:=s) (k:=a.1) (by omega)
 have st:=pu (s:=s) (k:=a.1) (v:=3) k0 k1
 refine ⟨t1,fun q hq => ?_,AK hB (by omega),fun q => ?_,fun z hz a' ha' => ?_,fun q j q0 hq hj => ?_,fun z hz r' hr' => ?_,hB.nod⟩
 ·obtain ⟨j,hj⟩:=List.mem_iff_getElem?.1 hq
  have hlt:=(List.getElem?_eq_some_iff.1 hj).1
  exact (hxx a (by rw [hr];simp) j q hj).1 (by omega)
 ·have h1:=EX (y:=y) hx q
  rw [hr,mN,hB.run q] at h1
  rw [st]
  by_cases e:q=a.1
  ·subst e
   rw [if_pos rfl,if_pos t1] at h1
   rw [if_pos rfl,if_neg (by decide)]
   omega
  ·rw [if_neg (fun h=>e h.symm)] at h1
   rw [if_neg e]
   omega
 ·have old:HC t s a'→HC t (s.set a.1.toNat 3) a':=fun h j q hj=>by
   obtain ⟨h1,h2⟩:=h j q hj
   rw [st]
   refine ⟨fun h => ?_,fun h => ?_⟩
   ·split
    ·decide
    ·exact h1 h
   ·have:=h2 h
    rw [if_neg (fun e=>by subst e;omega)]
    exact this
  rcases HP hz with rfl | ⟨j,hji,hj⟩
  ·exact old (hxx a' (by rw [hr];exact List.mem_append_left _ ha'))
  ·exact old (hB.kid z (List.mem_of_getElem? hj) a' ha')
 ·rw [st] at hq
  split at hq
  ·omega
  ·have:=hB.new q j q0 hq hj
   rw [st,if_neg (fun e=>by subst e;omega)]
   exact this
 ·obtain ⟨h1,h2⟩:=hB.root z hz r' hr'
  exact ⟨h1,by rw [st,if_neg (fun e=>by subst e;omega)];exact h2⟩
end
section
variable {t:TK} {W:List WB} {S:List SB} {s:List Int} {i:Nat} {x y:SB} {k:Int}
theorem QZ (hx:S[i]? = some x) (r:Int):agW (S.set i y) r+(pO x).count r=agW S r+(pO y).count r:=pK (g:=fun _ (x:SB)=>(pO x).count r) (y:=y) hx
theorem Uf (hB:MstB t W S s) (hx:S[i]? = some x) (h:pO y=pO x∨∃ r,pO x=r::pO y):MstB t W (S.set i y) s:=by
 refine ⟨hB.fit,hB.run,hB.kid,hB.new,fun z hz r hr => ?_,fun r => ?_⟩
 ·rcases HP hz with rfl | ⟨j,_,hj⟩
  ·refine hB.root x (List.mem_of_getElem? hx) r ?_
   rcases h with h | ⟨q,h⟩
   ·rw [← h];exact hr
   ·rw [h];exact List.mem_cons_of_mem _ hr
  ·exact hB.root z (List.mem_of_getElem? hj) r hr
 ·have h1:=QZ (y:=y) hx r
  have h2:=hB.nod r
  rcases h with h | ⟨q,h⟩
  ·rw [h] at h1;omega
  ·rw [h,List.count_cons] at h1;omega
theorem ann (hB:MstB t W S s) (hx:S[i]? = some x) (h:pO x=k::pO y):RtB t k∧stA s k=0∧MstB t W (S.set i y) (s.set k.toNat 1):=by
 obtain ⟨hm,hsl⟩:=mw hB.fit
 obtain ⟨hR,hk0⟩:=hB.root x (List.mem_of_getElem? hx) k (by rw [h];simp)
 have st:=pu (s:=s) (k:=k) (v:=1) hR.1.1 (by have:=hR.1.2;omega)
 have hB':=Uf (y:=y) hB hx (.inr ⟨k,h⟩)
 have nok:∀ {q j:Int},0≤q→j ∈ nU t q→j≠k:=fun q0 hj e=>by
  have:=Cl hm q0 hj
  rw [e,hR.2] at this
  omega
 refine ⟨hR,hk0,AK hB (by omega),fun q => ?_,fun z hz a ha j q hj => ?_,fun q j q0 hq hj => ?_,fun z hz r hr => ?_,hB'.nod⟩
 ·rw [st,hB.run q]
  by_cases e:q=k
  ·rw [if_pos e,if_neg (show ¬ stA s q=2 by rw [e];omega),if_neg (by decide)]
  ·rw [if_neg e]
 ·have hpos:0≤a.1:=by
   obtain ⟨i',hi'⟩:=List.mem_iff_getElem?.1 hz
   have h1:=Qq hi' a.1
   have h3:=IQ ha
   have h4:=hB.run a.1
   by_cases e:stA s a.1=2
   ·exact (o7 (s:=s) (k:=a.1) (by omega)).1
   ·rw [if_neg e] at h4
    omega
  rw [st,if_neg (nok hpos (List.mem_of_getElem? hj))]
  exact hB.kid z hz a ha j q hj
 ·have hq0:stA s q≤1:=by
   rw [st] at hq
   split at hq
   ·rename_i e;subst e;omega
   ·exact hq
  rw [st,if_neg (nok q0 hj)]
  exact hB.new q j q0 hq0 hj
 ·obtain ⟨h1,h2⟩:=hB'.root z hz r hr
  refine ⟨h1,?_⟩
  rw [st,if_neg]
  ·exact h2
  ·intro e
   subst e
   have c1:=hB.nod r
   have c2:=QZ (y:=y) hx r
   rw [h,List.count_cons_self] at c2
   obtain ⟨j,hj⟩:=List.mem_iff_getElem?.1 hz
   have c3:=iq (g:=fun _ x=>(pO x).count r) (n:=0) hj
   have c4:0<(pO z).count r:=List.count_pos_iff.2 hr
   have c5:fk (fun _ x=>(pO x).count r) 0 (S.set i y)=agW (S.set i y) r:=rfl
   omega
end
end Go.Ab
set_option linter.unusedVariables false
namespace Go.Ab
def pdB (x:SB):Nat:=if x.1=2∨x.1=5 then 1 else 0
def pdS (S:List SB):Nat:=fk (fun _ x=>pdB x) 0 S
structure MstP (n:Nat) (p:PB) (s:List Int):Prop where
 a:MstA n p.1 p.2.2.1 p.2.2.2.1 p.2.2.2.2
 b:MstB p.2.1 p.2.2.2.1 p.2.2.2.2 s
 rdy:∀ k,pD p.1 p.2.2.1 p.2.2.2.1 k=if stA s k=1 then 1 else 0
 pend:ah p.2.2.1 0=mE s+(pdS p.2.2.2.2:Int)
theorem nd {t:TK} {s:List Int} {a k w n:Int} (hf:iT t s=true) (h5:a≠5) (k0:0≤k) (k1:k<t.length) (hr:B3 t s a k=some n):gD t s (a,k,w)=(s.set k.toNat n,true):=by
 unfold gD
 rw [if_neg (by rw [hf];decide),if_neg h5,if_neg (by dsimp only;omega)]
 dsimp only
 rw [hr]
theorem o9 {s:List Int} {k:Int} (h:0≤k):(s[k.toNat]?).getD 0=stA s k:=by unfold stA;rw [if_pos h]
theorem rY {t:TK} {s s':List Int} {e:EV} (h:gD t s e=(s',true)):Gc t [e] s=(s',true):=by
 rw [Gc,h,if_pos rfl]
 rfl
theorem RI {t:TK} {s s':List Int} {e:EV} {o w:Int} (h:gD t s e=(s',true)) (hf:iT t s'=true) (hc:Fq s'=true):Gc t [e,(5,o,w)] s=(s',true):=by
 rw [Gc,h,if_pos rfl]
 refine rY ?_
 unfold gD
 rw [if_neg (by rw [hf];decide),if_pos rfl,hc]
theorem aaC {t:TK} {s:List Int} {k w:Int} (hf:iT t s=true) (h:stA s k=1):gD t s (2,k,w)=(s.set k.toNat 2,true):=by
 obtain ⟨k0,k1⟩:=o7 (s:=s) (k:=k) (by omega)
 refine nd hf (by decide) k0 (by have:=(mw hf).2;omega) ?_
 unfold B3
 dsimp only
 rw [o9 k0,if_neg (by decide),if_neg (by decide),if_neg (by decide),if_pos rfl,if_pos h]
theorem Yi {t:TK} {s:List Int} {k j w:Int} (hf:iT t s=true) (k0:0≤k) (k1:k<t.length) (h:stA s k=0) (hp:dr t k=j) (h2:stA s j=2):gD t s (3,k,w)=(s.set k.toNat 1,true):=by
 obtain ⟨j0,j1⟩:=o7 (s:=s) (k:=j) (by omega)
 refine nd hf (by decide) k0 k1 ?_
 unfold B3
 dsimp only
 rw [o9 k0,if_neg (by decide),if_neg (by decide),if_pos rfl,hp,if_pos]
 refine ⟨h,j0,?_⟩
 have:=h2
 rw [← o9 j0,List.getElem?_eq_getElem (by omega)] at this
 rw [List.getElem?_eq_getElem (by omega)]
 exact congrArg some this
theorem ahn {t:TK} {s:List Int} {k w:Int} (hf:iT t s=true) (h:stA s k=2) (ha:∀ q ∈ nU t k,stA s q≠0):gD t s (4,k,w)=(s.set k.toNat 3,true):=by
 obtain ⟨k0,k1⟩:=o7 (s:=s) (k:=k) (by omega)
 refine nd hf (by decide) k0 (by have:=(mw hf).2;omega) ?_
 unfold B3
 dsimp only
 rw [o9 k0,if_neg (by decide),if_neg (by decide),if_neg (by decide),if_neg (by decide),if_pos rfl,if_pos]
 refine ⟨h,?_⟩
 rw [List.any_eq_false]
 intro q hq
 have h1:=ha q hq
 obtain ⟨q0,q1⟩:=o7 h1
 rw [← o9 q0,List.getElem?_eq_getElem (by omega)] at h1
 unfold idx
 rw [if_pos q0,List.getElem?_eq_getElem (by omega)]
 simpa using h1
theorem amI {t:TK} {s:List Int} {k w:Int} (hf:iT t s=true) (hR:RtB t k) (h:stA s k=0):gD t s (0,k,w)=(s.set k.toNat 1,true):=by
 refine nd hf (by decide) hR.1.1 hR.1.2 ?_
 unfold B3
 dsimp only
 rw [o9 hR.1.1,if_pos rfl,if_pos ⟨h,by rw [hR.2];decide⟩]
theorem afT {t:TK} {s:List Int} {k w:Int} (hf:iT t s=true) (hR:RtB t k) (h:stA s k=0):gD t s (1,k,w)=(s,true):=by
 have h1:=nd (t:=t) (s:=s) (a:=1) (k:=k) (w:=w) (n:=0) hf (by decide) hR.1.1 hR.1.2 (by
  unfold B3
  dsimp only
  rw [o9 hR.1.1,if_neg (by decide),if_pos rfl,if_pos ⟨h,by rw [hR.2];decide⟩])
 rw [h1,Re]
 rw [o9 hR.1.1,h]
theorem We {c:CF} {t:TK} {m:List Int} {w:Int} {x:WB} {d:Int} :
  ((bw c t m w x d).2.2=[]∧((bw c t m w x d).2.1.2.1=x.2.1∨(ea t x.2.1).1=1∧(bw c t m w x d).2.1.2.1=doB t x.2.1)) ∨
  (∃ k,(bw c t m w x d).2.2=[(2,k,w)]∧(bw c t m w x d).2.1.2.1=iU t x.2.1 k) ∨
  ((ea t x.2.1).1=2∧(bw c t m w x d).2.2=[(3,(ea t x.2.1).2,w)]∧(bw c t m w x d).2.1.2.1=doB t x.2.1) ∨
  ((ea t x.2.1).1=3∧(bw c t m w x d).2.1.2.1=doB t x.2.1∧((bw c t m w x d).2.2=[(4,(ea t x.2.1).2,w)]∨(bw c t m w x d).2.2=[(4,(ea t x.2.1).2,w),(5,0,w)])):=by
 refine kE (P:=fun r=>(r.2.2=[]∧(r.2.1.2.1=x.2.1∨(ea t x.2.1).1=1∧r.2.1.2.1=doB t x.2.1))∨(∃ k,r.2.2=[(2,k,w)]∧r.2.1.2.1=iU t x.2.1 k)∨((ea t x.2.1).1=2∧r.2.2=[(3,(ea t x.2.1).2,w)]∧r.2.1.2.1=doB t x.2.1)∨((ea t x.2.1).1=3∧r.2.1.2.1=doB t x.2.1∧(r.2.2=[(4,(ea t x.2.1).2,w)]∨r.2.2=[(4,(ea t x.2.1).2,w),(5,0,w)]))) (fun _ => .inl ⟨rfl,.inl rfl⟩) ?_ ?_ ?_ ?_ ?_ ?_ ?_ ?_ ?_ ?_ ?_ ?_ ?_ ?_ ?_
 all_goals intro _ _
 all_goals dsimp only [JS,Ay,oa,mf,wC,oC,fg,gZ,K1,ux,ua,rW,Ke,uj,ui,toW,lq]
 all_goals repeat' split
 all_goals first
  | exact .inl ⟨rfl,.inl rfl⟩
  | exact .inl ⟨rfl,.inr ⟨by assumption,rfl⟩⟩
  | exact .inr (.inl ⟨_,rfl,rfl⟩)
  | (rename_i h;exact .inr (.inr (.inl ⟨by simpa using h,rfl,rfl⟩)))
  | skip
 all_goals rename_i h0 h1 h2
 all_goals refine .inr (.inr (.inr ⟨by simpa using h0,?_,?_⟩))
 all_goals first
  | rfl
  | exact h1.symm
  | exact .inl rfl
  | exact .inr rfl
theorem Qc {c:CF} {t:TK} {m:List Int} {i:Int} {x:SB} (hms:Az c t m x=true) (hf:Wf x.2.2) (h1:1≤m.length) :
  ((gO c t m i x).2.2=[]∧pO (gO c t m i x).2.1=pO x∧(ah (gO c t m i x).1 0=fG (ah m 0) 1∧pdB x=0∧pdB (gO c t m i x).2.1=1∨ah (gO c t m i x).1 0=ah m 0∧pdB (gO c t m i x).2.1=pdB x)) ∨
  ((gO c t m i x).2.2=[(1,iS x.2.1,i)]∧pO x=iS x.2.1::pO (gO c t m i x).2.1∧ah (gO c t m i x).1 0=ah m 0∧pdB (gO c t m i x).2.1=pdB x) ∨
  ((gO c t m i x).2.2=[(0,iS x.2.1,i)]∧pO x=iS x.2.1::pO (gO c t m i x).2.1∧ah (gO c t m i x).1 0=ah m 0∧pdB x=1∧pdB (gO c t m i x).2.1=0) ∨
  (pO x=iS x.2.1::pO (gO c t m i x).2.1∧ah (gO c t m i x).1 0=fG (ah m 0) 18446744073709551615∧pdB x=1∧pdB (gO c t m i x).2.1=0∧(ah m 0=1∧(gO c t m i x).2.2=[(1,iS x.2.1,i),(5,0,i)]∨ah m 0≠1∧(gO c t m i x).2.2=[(1,iS x.2.1,i)])):=by
 obtain ⟨_,_,_,b0,b1,r,rest,hx,_⟩:=A5 hms
 have hhd:iS x.2.1=r:=by rw [hx];rfl
 have htl:x.2.1.tail=rest:=by rw [hx];rfl
 have j0:(0:Int)=0∨(0:Int)=1∨(0:Int)=3:=by decide
 have hk:ah (lj c m x.2.2).1 0=ah m 0:=by
  unfold lj CZ Jl
  repeat' split
  all_goals first | with_reducible rfl | with_reducible exact KC j0 hf | with_reducible exact L4 j0 hf | with_reducible exact HZ j0 hf | with_reducible exact GO j0 hf
 have hs:∀ v,ah (ao m 0 v) 0=v:=fun v=>eh v (by decide) (by omega)
 have e1:∀ a,pO (0,x.2.1.tail,a)=rest:=fun a=>by unfold pO;rw [if_neg (show ¬ ((0:Int)=3∨(0:Int)=4) by decide)];exact htl
 have e2:∀ a,pO (3,x.2.1,a)=rest:=fun a=>by unfold pO;rw [if_pos (.inl rfl)];exact htl
 have e3:∀ a,pO (4,x.2.1,a)=rest:=fun a=>by unfold pO;rw [if_pos (.inr rfl)];exact htl
 have e4:∀ b a,b≠3∧b≠4→pO (b,x.2.1,a)=x.2.1:=fun b a h=>by unfold pO;rw [if_neg (by dsimp only;omega)]
 have p0:∀ b l a,b≠2∧b≠5→pdB (b,l,a)=0:=fun b l a h=>by unfold pdB;rw [if_neg (by dsimp only;omega)]
 have p1:∀ b l a,b=2∨b=5→pdB (b,l,a)=1:=fun b l a h=>by unfold pdB;rw [if_pos (by exact h)]
 have qx0:x.1≠2∧x.1≠5→pdB x=0:=fun h=>p0 x.1 x.2.1 x.2.2 h
 have qx1:x.1=2∨x.1=5→pdB x=1:=fun h=>p1 x.1 x.2.1 x.2.2 h
 have rx0:x.1≠3∧x.1≠4→pO x=r::rest:=fun h=>by rw [← hx];exact e4 x.1 x.2.2 h
 have rx1:x.1=3∨x.1=4→pO x=rest:=fun h=>by unfold pO;rw [if_pos h];exact htl
 unfold gO
 rw [if_neg (by rw [hms];decide),hhd]
 by_cases c0:x.1=0
 ·rw [if_pos c0]
  split
  ·exact .inr (.inl ⟨rfl,by rw [rx0 (by omega),e1],rfl,by rw [qx0 (by omega)];rfl⟩)
  ·exact .inl ⟨rfl,by rw [rx0 (by omega),← hx];exact e4 1 x.2.2 (by decide),.inr ⟨rfl,by rw [qx0 (by omega)];rfl⟩⟩
 rw [if_neg c0]
 by_cases c1:x.1=1
 ·rw [if_pos c1]
  exact .inl ⟨rfl,by rw [rx0 (by omega),← hx];exact e4 2 _ (by decide),.inl ⟨hs _,qx0 (by omega),rfl⟩⟩
 rw [if_neg c1]
 by_cases c2:x.1=2
 ·rw [if_pos c2]
  dsimp only
  split
  ·exact .inl ⟨rfl,by rw [rx0 (by omega),← hx];exact e4 2 _ (by decide),.inr ⟨hk,by rw [qx1 (by omega)];rfl⟩⟩
  ·split
   ·exact .inl ⟨rfl,by rw [rx0 (by omega),← hx];exact e4 5 _ (by decide),.inr ⟨hk,by rw [qx1 (by omega)];rfl⟩⟩
   ·exact .inr (.inr (.inl ⟨rfl,by rw [rx0 (by omega),e2],hk,qx1 (by omega),rfl⟩))
 rw [if_neg c2]
 by_cases c3:x.1=3
 ·rw [if_pos c3]
  split
  ·exact .inl ⟨rfl,by rw [rx1 (by omega),e1],.inr ⟨rfl,by rw [qx0 (by omega)];rfl⟩⟩
  ·exact .inl ⟨rfl,by rw [rx1 (by omega),e3],.inr ⟨rfl,by rw [qx0 (by omega)];rfl⟩⟩
 rw [if_neg c3]
 by_cases c4:x.1=4
 ·rw [if_pos c4]
  dsimp only
  split
  ·exact .inl ⟨rfl,by rw [rx1 (by omega),e1],.inr ⟨hk,by rw [qx0 (by omega)];rfl⟩⟩
  ·exact .inl ⟨rfl,by rw [rx1 (by omega),e3],.inr ⟨hk,by rw [qx0 (by omega)];rfl⟩⟩
 rw [if_neg c4]
 refine .inr (.inr (.inr ⟨by rw [rx0 (by omega),e1],hs _,qx1 (by omega),rfl,?_⟩))
 by_cases hm0:ah m 0=1
 ·exact .inl ⟨hm0,if_pos hm0⟩
 ·exact .inr ⟨hm0,if_neg hm0⟩
end Go.Ab
set_option linter.unusedVariables false
namespace Go.Ab
theorem Fg {t:TK} {l:List IT} {n:Int} (h:(ea t l).1=n) (hn:n≠0):∃ r a,l=r++[a]∧It t a∧(n=1∧doB t l=r++[(a.1,a.2.1+1,a.2.2)]∨n=2∧doB t l=r++[(a.1,a.2.1,a.2.2+1)]∧(nU t a.1)[a.2.2.toNat]? = some (ea t l).2∨n=3∧doB t l=r∧(ea t l).2=a.1∧((nU t a.1).length:Int)≤a.2.2):=by
 rcases l9 l with rfl | ⟨r,a,rfl⟩
 ·simp [ea] at h
  omega
 ·rw [pJ] at h ⊢
  rw [AE]
  by_cases hs:cG t (r++[a])=false
  ·rw [if_pos hs] at h
   exact absurd h.symm hn
  ·have hs':cG t (r++[a])=true:=by simpa using hs
   have hit:It t a:=by
    unfold cG at hs'
    rw [Bool.and_eq_true,List.all_eq_true] at hs'
    exact KL.1 (hs'.2 a (by simp))
   rw [if_neg hs] at h ⊢
   rw [if_neg hs]
   refine ⟨r,a,rfl,hit,?_⟩
   by_cases h1:a.2.1<(nR t a.1).1
   ·rw [if_pos h1] at h ⊢
    rw [if_pos h1]
    exact .inl ⟨h.symm,rfl⟩
   ·rw [if_neg h1] at h ⊢
    rw [if_neg h1]
    by_cases h2:a.2.2<((nR t a.1).2.length:Int)
    ·rw [if_pos h2] at h ⊢
     rw [if_pos h2]
     refine .inr (.inl ⟨h.symm,rfl,?_⟩)
     have:=hit.c0
     unfold nU
     rw [List.getElem?_eq_getElem (by omega)]
     rfl
    ·rw [if_neg h2] at h ⊢
     rw [if_neg h2]
     exact .inr (.inr ⟨h.symm,rfl,rfl,by unfold nU;omega⟩)
theorem Rn (s:List Int):0≤mE s∧mE s≤s.length:=by
 unfold mE
 have:=List.countP_le_length (p:=r5) (l:=s)
 omega
theorem XK (S:List SB):pdS S≤S.length:=by
 have key:∀ (n:Nat) (S:List SB),fk (fun _ x=>pdB x) n S≤S.length:=by
  intro n S
  induction S generalizing n with
  | nil=>exact Nat.le_refl _
  | cons x l ih=>
   rw [fk,List.length_cons]
   have h1:=ih (n+1)
   have h2:pdB x≤1:=by unfold pdB;split <;> omega
   omega
 exact key 0 S
theorem LC {s:List Int} (h:mE s=0):Fq s=true:=(UP s).2 h
theorem E6 {t:TK} {s s':List Int} {e:EV} (h:gD t s e=(s',true)):mE s'=mE s+evD e:=by
 have:=Px (t:=t) (s:=s) (e:=e) (by rw [h])
 rw [h] at this
 exact this
theorem abt {t:TK} {s s':List Int} {e:EV} (hf:iT t s=true) (h:gD t s e=(s',true)):iT t s'=true:=by
 have:=RB (e:=e) hf
 rw [h] at this
 exact this
theorem ev0 (e k:Int):evC e [] k=0:=rfl
theorem Kk {e a j w k:Int} (h:a≠e):evC e [(a,j,w)] k=0:=by rw [lu,if_neg (fun g=>h g.1)]
theorem Rl {e a j w o v k:Int} (h:a≠e) (h2:(5:Int)≠e):evC e [(a,j,w),(5,o,v)] k=0:=by
 refine List.countP_eq_zero.2 fun v hv => ?_
 rcases List.mem_cons.1 hv with rfl | hv
 ·simp [h]
 ·rw [List.mem_singleton.1 hv]
  simp [h2]
theorem L6 {e j w k:Int}:evC e [(e,j,w)] k=if j=k then 1 else 0:=by
 rw [lu]
 by_cases h:j=k
 ·rw [if_pos ⟨rfl,h⟩,if_pos h]
 ·rw [if_neg (fun g=>h g.2),if_neg h]
structure IdleOk (m m':List Int) (s s':List Int) (evs:List EV):Prop where
 idle:(∃ e ∈ evs,e.1=5)↔ah m 0≠0∧ah m' 0=0
 calm:(∃ e ∈ evs,e.1=5)→Fq s'=true
theorem o4 {m m' s s':List Int} {evs:List EV} (h:∀ e ∈ evs,e.1≠5) (h2:ah m 0=0∨ah m' 0≠0):IdleOk m m' s s' evs:=by
 have hn:¬ ∃ e ∈ evs,e.1=5:=fun ⟨e,he,e5⟩=>h e he e5
 exact ⟨⟨fun h=>absurd h hn,fun h=>by rcases h2 with h2 | h2 <;> omega⟩,fun h=>absurd h hn⟩
theorem LZ {m m' s s':List Int} {evs:List EV} (h:∃ e ∈ evs,e.1=5) (h1:ah m 0≠0) (h2:ah m' 0=0) (h3:Fq s'=true):IdleOk m m' s s' evs:=
 ⟨⟨fun _=>⟨h1,h2⟩,fun _=>h⟩,fun _=>h3⟩
theorem QO {n:Nat} {c:CF} {m m':List Int} {W:List WB} {S:List SB} (hW:(W.length:Int)=c.1) (hA:MstA n c m W S) (ie:InjEq c m m') (du:∀ u,0≤u→u<c.1→DEq c m m' u):MstA (n+1) c m' W S∧∀ k,pD c m' W k=pD c m W k:=by
 have hlt:∀ {j:Nat} {a:WB},W[j]? = some a→(j:Int)<c.1:=fun ha=>by
  have:=(List.getElem?_eq_some_iff.1 ha).1
  omega
 refine ⟨⟨ie.inj hA.inj,by rw [ie.t];have:=hA.b5;omega,fun j a ha=>(du j (by omega) (hlt ha)).owq (Nat.le_succ n) (hA.q j a ha),fun a ha => ?_,fun a ha e => ?_,fun a ha => ?_⟩,fun k => ?_⟩
 ·have h:=hA.i a ha
  exact ⟨fun e=>ie.dfr (h.de e),fun e=>ie.efr (h.en e),h.ev⟩
 ·obtain ⟨w0,w1,w2⟩:=hA.th a ha e
  refine ⟨w0,w1,fun b hb => ?_⟩
  have hD:=du _ w0 w1
  rw [hD.hi]
  exact (w2 b hb).stay hD.t fun h=>⟨h,hD.s _⟩
 ·have h:=hA.s a ha
  exact ⟨fun e=>⟨ie.efr (h.1 e).1,(h.1 e).2⟩,h.2⟩
 ·have h1:wa c m' W k=wa c m W k:=nt rfl fun j a b ha hb=>by
   rw [ha] at hb
   cases hb
   unfold hdW
   split
   ·rename_i e
    refine DEq.hdp ?_ k
    rw [((hA.q j a ha).po e).who]
    exact du j (by omega) (hlt ha)
   ·split
    ·exact ie.hd _ k
    ·rfl
  have h2:AB c m' W k=AB c m W k:=nt rfl fun j a b ha hb=>by
   rw [ha] at hb
   cases hb
   have hD:=du j (by omega) (hlt ha)
   rw [Nat.zero_add,hD.hi,hD.n]
  unfold pD
  rw [h1,h2,ie.n]
section
variable {n:Nat} {p:PB} {k:PK} {s:List Int}
theorem TI (hg:Good n p) (hm:fy p=true) (hk:Dg k p.1.1 p.2.2.2.2.length=true) (hn:n+1≤1000000) (h:MstP n p s):∃ s',Gc p.2.1 (gh p k).2 s=(s',true)∧MstP (n+1) (gh p k).1 s'∧IdleOk p.2.2.1 (gh p k).1.2.2.1 s s' (gh p k).2:=by
 obtain ⟨c,t,m,W,S⟩:=p
 obtain ⟨hc,hW,hS3,hmw,hms⟩:=ou hm
 have hl2:=pB hm
 dsimp only at *
 obtain ⟨hA,hB,hr,hp⟩:=h
 dsimp only at *
 have hf:=hB.fit
 obtain ⟨hmb,hsl⟩:=mw hf
 have h30:=BM hmb
 have hbl:=Rn s
 have hpl:=XK S
 have hcm:=aC hc
 have nomv:MstP (n+1) (c,t,m,W,S) s:=⟨hA.mono (Nat.le_succ n),hB,hr,hp⟩
 have same0:∀ m':List Int,ah m' 0=ah m 0→∀ s',IdleOk m m' s s' []:=fun m' e s'=>o4 (fun _ h=>absurd h List.not_mem_nil) (by omega)
 refine pP (P:=fun r=>∃ s',Gc t r.2 s=(s',true)∧MstP (n+1) r.1 s'∧IdleOk m r.1.2.2.1 s s' r.2) ⟨s,rfl,nomv,same0 m rfl s⟩ (fun x hx hk0 => ?_) (fun x hx hmay => ?_) ?_
 ·have hi0:0≤k.2.1:=by
   unfold Dg at hk
   rw [decide_eq_true_eq] at hk
   omega
  have hkk:((k.2.1.toNat:Nat):Int)=k.2.1:=by omega
  have hwm:=hmw _ x hx
  have hl:(m.length:Int)=bN c:=by
   unfold eC at hwm
   simp only [Bool.and_eq_true,decide_eq_true_eq] at hwm
   exact hwm.1.1.1.2
  have hstk:cG t x.2.1=true:=by
   unfold eC at hwm
   simp only [Bool.and_eq_true,decide_eq_true_eq] at hwm
   exact hwm.2
  have hsm:∀ q,0<pD c m W q→0≤q∧q<1000:=fun q hq=>by
   rw [hr] at hq
   split at hq
   ·rename_i e
    have:=o7 (s:=s) (k:=q) (by omega)
    omega
   ·omega
  have hst:=T4 (t:=t) (d:=k.2.2) hc hl hW hg.m hA hx hn hsm
  rw [hkk] at hst
  obtain ⟨hA',hcnt⟩:=hst
  obtain ⟨hpd,hid⟩:=PH (c:=c) (t:=t) (m:=m) (w:=k.2.1) (d:=k.2.2) hg.m (show 2≤m.length by omega) (hg.w x (List.mem_of_getElem? hx)).f
  dsimp only
  rcases We (c:=c) (t:=t) (m:=m) (w:=k.2.1) (x:=x) (d:=k.2.2) with ⟨he,hy⟩ | ⟨j,he,hy⟩ | ⟨hnx,he,hy⟩ | ⟨hnx,hy,he⟩
  ·rw [he] at hpd hcnt ⊢
   have hB':MstB t (W.set k.2.1.toNat (bw c t m k.2.1 x k.2.2).2.1) S s:=agk hB hx (by
    rcases hy with hy | ⟨hnx,hy⟩
    ·exact .inl hy
    ·obtain ⟨r,a,e1,_,hh⟩:=Fg hnx (by decide)
     rcases hh with ⟨_,e2⟩ | ⟨e2,_⟩ | ⟨e2,_⟩
     ·exact .inr ⟨r,a,(a.1,a.2.1+1,a.2.2),e1,by rw [hy,e2],rfl,rfl⟩
     ·omega
     ·omega)
   exact ⟨s,rfl,⟨hA',hB',fun q=>by have:=hcnt q;rw [ev0,ev0] at this;rw [← hr q];exact this,hpd.trans hp⟩,same0 _ hpd s⟩
  ·rw [he] at hpd hcnt ⊢
   have hj1:stA s j=1:=by
    have h1:=hcnt j
    rw [L6,if_pos rfl,Kk (by decide),hr j] at h1
    by_cases e:stA s j=1
    ·exact e
    ·rw [if_neg e] at h1;omega
   obtain ⟨j0,j1⟩:=o7 (s:=s) (k:=j) (by omega)
   have hsb:iU t x.2.1 j=x.2.1++[(j,0,0)]:=by
    unfold iU
    rw [if_pos ⟨hstk,j0,by omega⟩]
   have hstep:=aaC (w:=k.2.1) hf hj1
   have hbu:=E6 hstep
   refine ⟨_,rY hstep,⟨hA',YS hB hx hj1 (hy.trans hsb),fun q => ?_,?_⟩,?_⟩
   ·have h1:=hcnt q
    rw [L6,Kk (by decide),hr q] at h1
    rw [pu j0 j1]
    by_cases e:q=j
    ·rw [if_pos e.symm,if_pos (by rw [e];exact hj1)] at h1
     rw [if_pos e,if_neg (by decide)]
     dsimp only
     omega
    ·rw [if_neg (show ¬ j=q from fun g=>e g.symm)] at h1
     rw [if_neg e]
     dsimp only
     omega
   ·dsimp only
    rw [hpd,hbu,show evD (2,j,k.2.1)=0 from rfl,Int.add_zero]
    exact hp
   ·exact o4 (fun e h=>by rw [List.mem_singleton.1 h];exact (show (2:Int)≠5 by decide)) (by
     by_cases e0:ah m 0=0
     ·exact .inl e0
     ·exact .inr (by rw [hpd];exact e0))
  ·rw [he] at hpd hcnt ⊢
   obtain ⟨r,a,e1,hit,hh⟩:=Fg hnx (by decide)
   have hh':doB t x.2.1=r++[(a.1,a.2.1,a.2.2+1)]∧(nU t a.1)[a.2.2.toNat]? = some (ea t x.2.1).2:=by
    rcases hh with ⟨e2,_⟩ | ⟨_,e2⟩ | ⟨e2,_⟩
    ·omega
    ·exact e2
    ·omega
   obtain ⟨s1,s2,s3,s4,hB'⟩:=X2 hB hx e1 (hy.trans hh'.1) ⟨rfl,rfl⟩ hit.h0 hit.c0 hh'.2
   have hstep:=Yi (w:=k.2.1) hf s3 s4 s1 s2 (E2 hB hx e1).1
   have hbu:=E6 hstep
   have hpd2:ah (bw c t m k.2.1 x k.2.2).1 0=ah m 0+1:=by
    rw [hpd]
    show IntKind.u64.wrap (ah m 0+1)=_
    rw [ky]
    omega
   refine ⟨_,rY hstep,⟨hA',hB',fun q => ?_,?_⟩,?_⟩
   ·have h1:=hcnt q
    rw [L6,Kk (by decide),hr q] at h1
    rw [pu s3 (by omega)]
    by_cases e:q=(ea t x.2.1).2
    ·rw [if_pos e.symm,if_neg (by rw [e];omega)] at h1
     rw [if_pos e,if_pos rfl]
     dsimp only
     omega
    ·rw [if_neg (show ¬ (ea t x.2.1).2=q from fun g=>e g.symm)] at h1
     rw [if_neg e]
     dsimp only
     omega
   ·dsimp only
    rw [hpd2,hbu,show evD (3,(ea t x.2.1).2,k.2.1)=1 from rfl]
    omega
   ·exact o4 (fun e h=>by rw [List.mem_singleton.1 h];exact (show (3:Int)≠5 by decide)) (.inr (by omega))
  ·obtain ⟨r,a,e1,hit,hh⟩:=Fg hnx (by decide)
   have hh':doB t x.2.1=r∧(ea t x.2.1).2=a.1∧((nU t a.1).length:Int)≤a.2.2:=by
    rcases hh with ⟨e2,_⟩ | ⟨e2,_⟩ | ⟨_,e2⟩
    ·omega
    ·omega
    ·exact e2
   obtain ⟨s1,s2,hB'⟩:=aeL (y:=(bw c t m k.2.1 x k.2.2).2.1) hB hx (a:=a) (by rw [hy,hh'.1];exact e1) hh'.2.2
   have hstep:=ahn (w:=k.2.1) hf s1 s2
   have hbu:=E6 hstep
   have hff:=abt hf hstep
   have hd4:evD (4,a.1,k.2.1) = -1:=rfl
   rw [hd4] at hbu
   have hbl2:=Rn (s.set a.1.toNat 3)
   obtain ⟨a0,a1⟩:=o7 (s:=s) (k:=a.1) (by omega)
   have hready:∀ q,(if stA s q=1 then 1 else 0:Nat)=if stA (s.set a.1.toNat 3) q=1 then 1 else 0:=fun q=>by
    rw [pu a0 a1]
    by_cases e:q=a.1
    ·rw [if_pos e,if_neg (by rw [e];omega),if_neg (by decide)]
    ·rw [if_neg e]
   rw [hh'.2.1] at he
   have hpd2:ah (bw c t m k.2.1 x k.2.2).1 0=ah m 0 - 1:=by
    rw [hpd]
    rcases he with he | he <;> rw [he]
    ·show IntKind.u64.wrap (ah m 0 - 1)=_
     rw [ky]
     omega
    ·show IntKind.u64.wrap (ah m 0 - 1)=_
     rw [ky]
     omega
   have hpend:ah (bw c t m k.2.1 x k.2.2).1 0=mE (s.set a.1.toNat 3)+(pdS S:Int):=by omega
   rcases he with he | he
   ·rw [he] at hcnt hid hpd ⊢
    have hne:ah m 0≠1:=fun e=>by
     have:=hid.2 ⟨e,by rw [← hpd,hpd2,e];rfl⟩
     exact absurd this (show ¬ (IH [(4,a.1,k.2.1)] (ah m 0,false)).2=true from Bool.false_ne_true)
    exact ⟨_,rY hstep,⟨hA',hB',fun q=>by
     have h1:=hcnt q
     rw [Kk (by decide),Kk (by decide),hr q] at h1
     rw [← hready]
     exact h1,hpend⟩,o4 (fun e h=>by rw [List.mem_singleton.1 h];exact (show (4:Int)≠5 by decide)) (.inr (by omega))⟩
   ·rw [he] at hcnt hid ⊢
    have h1:=(hid.1 (show (IH [(4,a.1,k.2.1),(5,0,k.2.1)] (ah m 0,false)).2=true from rfl)).1
    have hb0:mE (s.set a.1.toNat 3)=0:=by omega
    exact ⟨_,RI hstep hff (LC hb0),⟨hA',hB',fun q=>by
     have h1:=hcnt q
     rw [Rl (by decide) (by decide),Rl (by decide) (by decide),hr q] at h1
     rw [← hready]
     exact h1,hpend⟩,LZ ⟨(5,0,k.2.1),by simp,rfl⟩ (by omega) (by omega) (LC hb0)⟩
 ·obtain ⟨_,hml,_⟩:=A5 hmay
  obtain ⟨hA',hcnt⟩:=Zw (t:=t) (w:=k.2.1) hc hml hW hA hx hn
  have hsx:=hg.s x (List.mem_of_getElem? hx)
  have hpS:pdS (S.set k.2.1.toNat (gO c t m k.2.1 x).2.1)+pdB x=pdS S+pdB (gO c t m k.2.1 x).2.1:=pK (g:=fun _ (x:SB)=>pdB x) (y:=(gO c t m k.2.1 x).2.1) hx
  have hpl2:=XK (S.set k.2.1.toNat (gO c t m k.2.1 x).2.1)
  rw [List.length_set] at hpl2
  dsimp only
  rcases Qc (c:=c) (t:=t) (m:=m) (i:=k.2.1) hmay hsx.f (by omega) with ⟨he,hrm,hp0⟩ | ⟨he,hrm,hp0,hpd⟩ | ⟨he,hrm,hp0,hpx,hpy⟩ | ⟨hrm,hp0,hpx,hpy,he⟩
  ·rw [he] at hcnt ⊢
   have hq:ah (gO c t m k.2.1 x).1 0=mE s+(pdS (S.set k.2.1.toNat (gO c t m k.2.1 x).2.1):Int)∧(ah m 0=0∨ah (gO c t m k.2.1 x).1 0≠0):=by
    rcases hp0 with ⟨h1,h2,h3⟩ | ⟨h1,h2⟩
    ·have e:fG (ah m 0) 1=ah m 0+1:=by unfold fG;omega
     rw [h1,e]
     omega
    ·rw [h1]
     omega
   exact ⟨s,rfl,⟨hA',Uf hB hx (.inl hrm),fun q=>by
    have h1:=hcnt q
    rw [ev0,hr q] at h1
    exact h1,hq.1⟩,o4 (fun _ h=>absurd h List.not_mem_nil) hq.2⟩
  ·rw [he] at hcnt ⊢
   obtain ⟨hR,h0⟩:=hB.root x (List.mem_of_getElem? hx) (iS x.2.1) (by rw [hrm];simp)
   refine ⟨s,rY (afT hf hR h0),⟨hA',Uf hB hx (.inr ⟨_,hrm⟩),fun q => ?_,?_⟩,o4 (fun e h=>by rw [List.mem_singleton.1 h];exact (show (1:Int)≠5 by decide)) ?_⟩
   ·have h1:=hcnt q
    rw [Kk (by decide),hr q] at h1
    exact h1
   ·dsimp only
    omega
   ·rw [hp0]
    by_cases e:ah m 0=0
    ·exact .inl e
    ·exact .inr e
  ·rw [he] at hcnt ⊢
   obtain ⟨hR,h0,hB'⟩:=ann hB hx hrm
   have hstep:=amI (w:=k.2.1) hf hR h0
   have hbu:=E6 hstep
   rw [show evD (0,iS x.2.1,k.2.1)=1 from rfl] at hbu
   refine ⟨_,rY hstep,⟨hA',hB',fun q => ?_,?_⟩,o4 (fun e h=>by rw [List.mem_singleton.1 h];exact (show (0:Int)≠5 by decide)) ?_⟩
   ·have h1:=hcnt q
    rw [L6,hr q] at h1
    rw [pu hR.1.1 (by have:=hR.1.2;omega)]
    by_cases e:q=iS x.2.1
    ·rw [if_pos e.symm,if_neg (by rw [e];omega)] at h1
     rw [if_pos e,if_pos rfl]
     dsimp only
     omega
    ·rw [if_neg (show ¬ iS x.2.1=q from fun g=>e g.symm)] at h1
     rw [if_neg e]
     dsimp only
     omega
   ·dsimp only
    rw [hp0,hbu]
    omega
   ·rw [hp0]
    by_cases e:ah m 0=0
    ·exact .inl e
    ·exact .inr e
  ·obtain ⟨hR,h0⟩:=hB.root x (List.mem_of_getElem? hx) (iS x.2.1) (by rw [hrm];simp)
   have e1:fG (ah m 0) 18446744073709551615=ah m 0 - 1:=by unfold fG;omega
   rw [e1] at hp0
   have hB':=Uf (y:=(gO c t m k.2.1 x).2.1) hB hx (.inr ⟨_,hrm⟩)
   have hpend:ah (gO c t m k.2.1 x).1 0=mE s+(pdS (S.set k.2.1.toNat (gO c t m k.2.1 x).2.1):Int):=by omega
   have hstep:=afT (w:=k.2.1) hf hR h0
   rcases he with ⟨hm1,he⟩ | ⟨hm1,he⟩
   ·rw [he] at hcnt ⊢
    have hb0:mE s=0:=by omega
    exact ⟨s,RI hstep hf (LC hb0),⟨hA',hB',fun q=>by
     have h1:=hcnt q
     rw [Rl (by decide) (by decide),hr q] at h1
     exact h1,hpend⟩,LZ ⟨(5,0,k.2.1),by simp,rfl⟩ (by omega) (by omega) (LC hb0)⟩
   ·rw [he] at hcnt ⊢
    exact ⟨s,rY hstep,⟨hA',hB',fun q=>by
     have h1:=hcnt q
     rw [Kk (by decide),hr q] at h1
     exact h1,hpend⟩,o4 (fun e h=>by rw [List.mem_singleton.1 h];exact (show (1:Int)≠5 by decide)) (.inr (by omega))⟩
 ·have hl0:ah (ao m 3 1) 0=ah m 0:=ks (by decide)
  have ie:InjEq c m (ao m 3 1):=gH hc (.inl (by decide))
  have du:∀ u,0≤u→u<c.1→DEq c m (ao m 3 1) u:=fun u u0 u1=>mW hc u0 u1 (by omega)
  obtain ⟨hA',hN⟩:=QO (n:=n) hW hA ie du
  exact ⟨s,rfl,⟨hA',hB,fun q=>by
   have h1:=hN q
   rw [hr q] at h1
   exact h1,hl0.trans hp⟩,same0 _ hl0 s⟩
end
end Go.Ab
set_option linter.unusedVariables false
namespace Go.Ab
theorem Cj {α:Type} {g:Nat→α→Nat}:∀ {n:Nat} {W:List α},(∀ (j:Nat) x,W[j]? = some x→g (n+j) x=0)→fk g n W=0
 | n,[],_=>rfl
 | n,x::l,h=>by
  rw [fk,Cj (n:=n+1) (W:=l) fun j z hz=>by
   have:=h (j+1) z hz
   rw [show n+1+j=n+(j+1) by omega]
   exact this]
  have:=h 0 x rfl
  rw [Nat.add_zero] at this
  rw [this]
theorem EJ {t:TK} (k:Int):stA (Mk t) k=0:=by
 unfold stA Mk
 split
 ·split
  ·rw [List.getElem?_replicate]
   split <;> rfl
  ·simp
 ·rfl
theorem ab2 {c:CF} {t:TK} {roots:List (List Int)} (hc:dl c=true) (hm:ow t=true) (hr:∀ l ∈ roots,∀ y ∈ l,RtB t y) (hd:roots.flatten.Nodup):MstP 0 (F3 c t roots) (Mk t):=by
 have hcm:=aC hc
 have key:∀ (i:Nat) x,(m9 c.1.toNat)[i]? = some x→x=Gl i∧(i:Int)<c.1:=by
  intro i x hx
  unfold m9 at hx
  rw [List.getElem?_map,Option.map_eq_some_iff] at hx
  obtain ⟨j,hj,rfl⟩:=hx
  obtain ⟨hi,rfl⟩:=List.getElem?_eq_some_iff.1 hj
  rw [List.getElem_range]
  rw [List.length_range] at hi
  exact ⟨rfl,by omega⟩
 have keyM:∀ x ∈ m9 c.1.toNat,∃ i,x=Gl i:=fun x hx=>by
  obtain ⟨i,hi⟩:=List.mem_iff_getElem?.1 hx
  exact ⟨i,(key i x hi).1⟩
 have keyS:∀ x ∈ ly roots,∃ l ∈ roots,x=(0,l,dw):=fun x hx=>by
  unfold ly at hx
  obtain ⟨l,hl,rfl⟩:=List.mem_map.1 hx
  exact ⟨l,hl,rfl⟩
 have z:∀ i,ah (List.replicate (bN c).toNat 0) i=0:=fun i=>OU _ i
 generalize hM:List.replicate (bN c).toNat (0:Int)=M at z
 have hp:F3 c t roots=(c,t,M,m9 c.1.toNat,ly roots):=by rw [← hM];rfl
 rw [hp]
 have hT:∀ v,dT c M v=0:=fun v=>z _
 have hBt:∀ v,dB c M v=0:=fun v=>z _
 have hiz:∀ (v:Int) (i:Nat),hiW c M v (Gl i)=0:=fun v i=>by
  unfold hiW
  rw [if_pos (show (Gl i).1=0 from rfl)]
  exact hBt v
 have sz:∀ {g:Nat→WB→Nat},(∀ j,g j (Gl j)=0)→fk g 0 (m9 c.1.toNat)=0:=fun h=>Cj fun j x hx=>by
  rw [(key j x hx).1,Nat.zero_add]
  exact h j
 have ss:∀ {g:Nat→SB→Nat},(∀ j l,g j (0,l,dw)=0)→fk g 0 (ly roots)=0:=fun h=>Cj fun j x hx=>by
  obtain ⟨l,_,rfl⟩:=keyS x (List.mem_of_getElem? hx)
  exact h _ l
 have lap0:∀ x,0≤x→0≤dG c x:=fun x h=>(wD hc h).1
 have sq0:∀ x,sqI c M x=0:=fun x=>z _
 refine ⟨⟨⟨?_,?_,?_,fun x a b => ?_,fun x a=>⟨?_,?_⟩,fun x a b => ?_,fun x a=>⟨?_,?_⟩⟩,?_,fun i x hx => ?_,fun x hx => ?_,fun x hx e => ?_,fun x hx => ?_⟩,⟨TL hm,fun k => ?_,fun x hx a ha => ?_,fun q k _ _ _=>EJ k,fun x hx r hr' => ?_,fun r => ?_⟩,fun k => ?_,?_⟩
 ·dsimp only;rw [z];exact Int.le_refl _
 ·dsimp only;rw [z,z];exact Int.le_refl _
 ·dsimp only;rw [z];decide
 ·dsimp only at b;rw [z] at b;omega
 ·dsimp only
  rw [sz fun j=>rfl,ss fun j l=>rfl]
 ·dsimp only at a ⊢
  rw [z] at a
  have:=lap0 x a
  rw [sq0]
  omega
 ·dsimp only at b;rw [z] at b;omega
 ·exact sz fun j=>rfl
 ·dsimp only at a ⊢
  rw [z] at a
  have:=lap0 x a
  rw [sq0]
  omega
 ·dsimp only;rw [z];exact Int.le_refl _
 ·obtain ⟨rfl,hi⟩:=key i x hx
  refine ⟨?_,?_,fun _=>⟨rfl,rfl,rfl,show (0:Int)≤0∧(0:Int)≤6 by decide,fun h=>absurd h (show ¬ (0:Int)=1 by decide),fun h=>absurd h (show ¬ (2:Int)≤0 by decide),fun h=>absurd h (show ¬ ((0:Int)=3∨(0:Int)=4) by decide),fun h=>absurd h (show ¬ (0:Int)=4 by decide),fun h=>absurd h (show ¬ ((0:Int)=5∨(0:Int)=6) by decide)⟩,fun h=>absurd h (show ¬ (0:Int)=11 by decide)⟩
  ·dsimp only
   rw [hiz]
   exact ⟨by rw [hT];decide,by rw [hT];decide,by rw [hT];omega,by decide⟩
  ·dsimp only
   rw [hiz]
   decide
 ·obtain ⟨i,rfl⟩:=keyM x hx
  exact ⟨fun h=>absurd h (show ¬ (0:Int)=2 by decide),fun h=>absurd h (show ¬ (0:Int)=12 by decide),fun h=>absurd h (show ¬ ((0:Int)=5∨(0:Int)=6∨(0:Int)=7∨(0:Int)=8∨(0:Int)=14) by decide)⟩
 ·obtain ⟨i,rfl⟩:=keyM x hx
  exact absurd e (show ¬ (0:Int)=3 by decide)
 ·obtain ⟨l,_,rfl⟩:=keyS x hx
  exact ⟨fun h=>absurd h (show ¬ (0:Int)=2 by decide),fun h=>absurd h (show ¬ (0:Int)=4 by decide)⟩
 ·dsimp only
  rw [EJ,if_neg (by decide)]
  exact sz fun j=>rfl
 ·obtain ⟨i,rfl⟩:=keyM x hx
  cases ha
 ·obtain ⟨l,hl,rfl⟩:=keyS x hx
  exact ⟨hr l hl r hr',EJ r⟩
 ·have cnt:∀ (n:Nat) (L:List (List Int)),fk (fun _ (x:SB)=>(pO x).count r) n (ly L)=L.flatten.count r:=by
   intro n L
   induction L generalizing n with
   | nil=>rfl
   | cons l L ih=>
    have e:ly (l::L)=(0,l,dw)::ly L:=rfl
    rw [e,fk,ih (n+1),List.flatten_cons,List.count_append]
    rfl
  have:=cnt 0 roots
  unfold agW
  dsimp only
  rw [this]
  exact List.nodup_iff_count.1 hd r
 ·dsimp only
  rw [EJ,if_neg (by decide)]
  unfold pD wa AB pS
  rw [sz fun j => ?_,sz fun j => ?_,z,z]
  ·rfl
  ·rw [hiz]
   exact acy (by rw [hT];decide)
  ·rfl
 ·dsimp only
  rw [z,TQ]
  unfold pdS
  rw [ss fun j l=>rfl]
  rfl
theorem Ey:∀ {l:List PK} {p:PB} {n:Nat} {s:List Int},Good n p→fy p=true→n+l.length≤1000000→MstP n p s→∃ s',Gc p.2.1 (oU p l).2 s=(s',true)∧MstP (n+l.length) (oU p l).1 s'
 | [],p,n,s,_,_,_,h=>⟨s,rfl,h⟩
 | k::l,p,n,s,hg,hm,hn,h=>by
  rw [List.length_cons] at hn
  rw [oU]
  split
  ·rename_i hk
   obtain ⟨s1,h1,h2,_⟩:=TI hg hm hk (by omega) h
   obtain ⟨s2,h3,h4⟩:=Ey (l:=l) (Ci (k:=k) hg (ou hm).1) (AQ hm hk) (by omega) h2
   rw [Bi.2.1] at h3
   refine ⟨s2,?_,?_⟩
   ·dsimp only
    rw [nQ,h1,if_pos rfl]
    exact h3
   ·dsimp only
    rw [List.length_cons,show n+(l.length+1)=n+1+l.length by omega]
    exact h4
  ·obtain ⟨s2,h3,h4⟩:=Ey (l:=l) hg hm (by omega) h
   refine ⟨s2,h3,?_⟩
   rw [List.length_cons]
   obtain ⟨a,b,d,e⟩:=h4
   exact ⟨a.mono (by omega),b,d,e⟩
end Go.Ab
set_option linter.unusedVariables false
set_option linter.unusedSimpArgs false
namespace Go.Ab
def AA:List Int→List PK
 | a::b::c::r=>(a%4,b,c)::AA r
 | _=>[]
def Wby (l:List Int):Prop:=∀ x ∈ l,0≤x∧x≤255
theorem Jx:∀ l:List Int,3*(AA l).length≤l.length
 | []=>Nat.le_refl _
 | [_]=>by simp [AA]
 | [_,_]=>by simp [AA]
 | a::b::c::r=>by
  have:=Jx r
  simp only [AA,List.length_cons]
  omega
theorem Xm:∀ {l:List Int},Wby l→Wp (AA l)
 | [],_=>fun x hx=>by simp [AA] at hx
 | [_],_=>fun x hx=>by simp [AA] at hx
 | [_,_],_=>fun x hx=>by simp [AA] at hx
 | a::b::c::r,h=>fun x hx=>by
  rw [AA] at hx
  rcases List.mem_cons.1 hx with rfl | hx
  ·have:=h c (by simp)
   exact ⟨this.1,Int.le_trans this.2 (by decide)⟩
  ·exact Xm (l:=r) (fun y hy=>h y (by simp [hy])) x hx
section
variable {k:Nat} (hk:10000≤k) {b:List Int} (hb:Wby b) (hl:b.length≤2000)
include hk hb hl
theorem TH:∀ (n i:Nat) (r:List Int) (acc:List PK) (e:Nat),b.drop i=r→i≤b.length+3→r.length<n→(e=3∨e=0)→acc.length≤i →
  cu k b n (i:Int) e acc=some (acc++AA r):=by
 have _h:=hk
 intro n
 induction n with
 | zero=>intro i r acc e _ _ h;omega
 | succ n ih=>
  intro i r acc e hr hi hn he ha
  have hes:(e==3||e==0)=true:=by rcases he with rfl | rfl <;> rfl
  have hw:IntKind.i64.wrap ((i:Int)+3)=(i:Int)+3:=fx (by omega)
  rw [cu]
  by_cases h0:i<b.length
  ·have hrl:r.length=b.length - i:=by rw [← hr,List.length_drop]
   rw [ltN h0,cond_true,decide_eq_true (show (0:Int)≤(i:Int)∧(i:Int)≤(b.length:Int) by omega),cond_true]
   simp only [Int.toNat_natCast,hr]
   have fin:∀ r':List Int,b.drop (i+3)=r'→r'.length<n→∀ acc' e',(e'=3∨e'=0)→acc'.length≤i+3→cu k b n ((i:Int)+3) e' acc'=some (acc'++AA r'):=fun r' h1 h2 acc' e' h3 h4=>by
    rw [show (i:Int)+3=((i+3:Nat):Int) by omega]
    exact ih (i+3) r' acc' e' h1 (by omega) h2 h3 h4
   have hd3:b.drop (i+3)=r.drop 3:=by rw [← hr,List.drop_drop]
   by_cases h3:r.length<3
   ·have hs:(bif decide ((r.length:Int)<3) then (r.length:Int) else 3)=(r.length:Int):=by rw [ltT (by omega),cond_true]
    rw [hs,fx (show -9223372036854775808≤(i:Int)+(r.length:Int)∧(i:Int)+(r.length:Int)≤9223372036854775807 by omega)]
    have e1:((i:Int)+(r.length:Int)).toNat=i+r.length:=by omega
    rw [e1,decide_eq_true (by omega),cond_true]
    have ht:(b.take (i+r.length)).drop i=r:=by
     rw [List.take_of_length_le (by omega)]
     exact hr
    rw [ht,nM,decide_eq_false (by omega),cond_false]
    have hrn:AA r=[]:=by
     rcases r with _ | ⟨x,_ | ⟨y,_ | ⟨z,r⟩⟩⟩
     ·rfl
     ·rfl
     ·rfl
     ·simp at h3;omega
    have hd0:r.drop 3=[]:=List.drop_eq_nil_iff.2 (by omega)
    have:=fin [] (by rw [hd3,hd0]) (by simp;omega) acc e he (by omega)
    rw [hw,this,hrn]
    rfl
   ·have hs:(bif decide ((r.length:Int)<3) then (r.length:Int) else 3)=3:=by rw [ltF (by omega),cond_false]
    rw [hs,fx (show -9223372036854775808≤(i:Int)+3∧(i:Int)+3≤9223372036854775807 by omega)]
    have e1:((i:Int)+3).toNat=i+3:=by omega
    rw [e1,decide_eq_true (by omega),cond_true]
    rcases r with _ | ⟨x,_ | ⟨y,_ | ⟨z,r⟩⟩⟩
    ·simp at h3
    ·simp at h3
    ·simp at h3
    ·have ht:(b.take (i+3)).drop i=[x,y,z]:=by
      rw [List.drop_take,hr,show i+3 - i=3 by omega]
      rfl
     have hx:x ∈ b:=List.mem_of_mem_drop (by rw [hr];simp)
     have hy:y ∈ b:=List.mem_of_mem_drop (by rw [hr];simp)
     have hz:z ∈ b:=List.mem_of_mem_drop (by rw [hr];simp)
     have bx:=hb x hx
     have by':=hb y hy
     have bz:=hb z hz
     simp only [ht]
     rw [show ((([x,y,z]:List Int).length:Int)==3)=true from rfl,cond_true]
     have i0:idx [x,y,z] 0=some x:=rfl
     have i1:idx [x,y,z] 1=some y:=rfl
     have i2:idx [x,y,z] 2=some z:=rfl
     rw [i0,ab,i1,ab,i2,ab,hes,bC,Int.tmod_eq_emod_of_nonneg bx.1]
     have hm:=Int.emod_nonneg x (show (4:Int)≠0 by decide)
     have hm2:=Int.emod_lt_of_pos x (show (0:Int)<4 by decide)
     rw [fx (z:=x%4) (by omega),fx (z:=y) (by omega),mG (z:=z) (by omega) (by omega),Aw (by rw [List.length_append];simp;omega),cond_true]
     have:=fin r (by rw [hd3];rfl) (by simp at hn;omega) (acc++[(x%4,y,z)]) 3 (.inl rfl) (by rw [List.length_append];simp;omega)
     rw [this,AA,List.append_assoc]
     rfl
  ·have hr0:r=[]:=by rw [← hr];exact List.drop_eq_nil_iff.2 (by omega)
   rw [ltF (by omega),cond_false,hr0]
   simp [AA]
theorem VA:iI k b=some (AA b):=by
 unfold iI
 exact TH hk hb hl (k+22) 0 b [] 0 rfl (by omega) (by omega) (.inr rfl) (Nat.le_refl _)
end
def f8 (w s:Nat) (d:Int):List PK:=(List.range w).map (fun i:Nat=>((0:Int),(i:Int),d))++(List.range s).map (fun i:Nat=>((1:Int),(i:Int),d))
theorem GE (w s:Nat) (d:Int):(f8 w s d).length=w+s:=by simp [f8]
theorem Vj {w s:Nat} {d:Int} (h:0≤d∧d≤18446744073709551615):Wp (f8 w s d):=by
 intro x hx
 unfold f8 at hx
 rcases List.mem_append.1 hx with hx | hx
 ·obtain ⟨i,_,rfl⟩:=List.mem_map.1 hx
  exact h
 ·obtain ⟨i,_,rfl⟩:=List.mem_map.1 hx
  exact h
section
variable {k:Nat} (hk:100≤k) {w s:Nat} (hw:w≤20) (hs:s≤20) (d:Int)
include hk hw hs
theorem aqz:∀ (r i n e:Nat),i+r=s→r<n→(e=3∨e=0)→dA k w s d n ((List.range w).map (fun i:Nat=>((0:Int),(i:Int),d))++(List.range i).map (fun i:Nat=>((1:Int),(i:Int),d))) e (i:Int)=some (f8 w s d):=by
 have _h:=hk
 intro r
 induction r with
 | zero=>
  intro i n e hi hn he
  obtain ⟨n,rfl⟩:=iZ hn
  rw [dA,ltF (by omega),cond_false,show i=s by omega]
  rfl
 | succ r ih=>
  intro i n e hi hn he
  obtain ⟨n,rfl⟩:=iZ hn
  have hes:(e==3||e==0)=true:=by rcases he with rfl | rfl <;> rfl
  rw [dA,ltT (by omega),cond_true,hes,bC,Aw (by simp;omega),cond_true,gg (by omega)]
  have:=ih (i+1) n 3 (by omega) (by omega) (.inl rfl)
  rw [List.range_succ,List.map_append] at this
  rw [List.append_assoc]
  exact this
theorem aqj:∀ (r i n e:Nat),i+r=w→r<n→(e=3∨e=0)→dy k w s d n ((List.range i).map (fun i:Nat=>((0:Int),(i:Int),d))) (i:Int) e=some (f8 w s d):=by
 intro r
 induction r with
 | zero=>
  intro i n e hi hn he
  obtain ⟨n,rfl⟩:=iZ hn
  rw [dy,ltF (by omega),cond_false,show i=w by omega]
  have:=aqz hk hw hs d s 0 (k+1) e (by omega) (by omega) he
  rw [List.range_zero,List.map_nil,List.append_nil] at this
  exact this
 | succ r ih=>
  intro i n e hi hn he
  obtain ⟨n,rfl⟩:=iZ hn
  have hes:(e==3||e==0)=true:=by rcases he with rfl | rfl <;> rfl
  rw [dy,ltT (by omega),cond_true,hes,bC,Aw (by simp;omega),cond_true,gg (by omega)]
  have:=ih (i+1) n 3 (by omega) (by omega) (.inl rfl)
  rw [List.range_succ,List.map_append] at this
  exact this
theorem aaN:gK k w s d=some (f8 w s d):=by
 unfold gK
 rw [Is,ab,decide_eq_true (by omega),Bool.not_true,cond_false,Is,ab,decide_eq_true (by omega),Bool.not_true,cond_false]
 exact aqj hk hw hs d w 0 (k+1) 0 (by omega) (by omega) (.inr rfl)
end
def RY (c:CF) (m:List Int):Nat→List WB→Bool
 | _,[]=>true
 | i,x::l=>ah9 x&&decide (ah m (f6 c i)=0)&&RY c m (i+1) l
def aeB (p:PB):Bool:=fy p && !(p.2.2.2.2.any fun x => !decide (x.1=0))&&RY p.1 p.2.2.1 0 p.2.2.2.1
def Vm (p:PB):Bool:=aeB p&&decide (ah p.2.2.1 0=0) && !(p.2.2.2.2.any fun x=>decide (0<(x.2.1.length:Int)))
theorem Zd (x:SB):iK x=some (!decide (x.1=0)):=by
 unfold iK
 rw [E3]
theorem aao (k:Nat) (hk:100≤k) {S:List SB} (hS:S.length≤20):aQ k S=some (S.any fun x => !decide (x.1=0)):=by
 unfold aQ bc
 have h:au (k+8) S (k+8+8) 0=some (JE (fun x => !decide (x.1=0)) S 0):=by
  refine Dk (F:=fun n i=>au (k+8) S n i) (l:=S) _ ?_ ?_ _ (by omega)
  ·intro n
   simp only [au,pp,cond_false]
  ·intro n i x hi hx
   simp only [au,ltN hi,cond_true,fO hx,ab,Prod.eta,Zd]
   rw [gg (by omega)]
 rw [h,ab,mX]
theorem acz (k:Nat) (hk:100≤k) {S:List SB} (hS:S.length≤20):aP k S=some (S.any fun x=>decide (0<(x.2.1.length:Int))):=by
 unfold aP aZ
 have h:ar (k+8) S (k+8+8) 0=some (JE (fun x=>decide (0<(x.2.1.length:Int))) S 0):=by
  refine Dk (F:=fun n i=>ar (k+8) S n i) (l:=S) _ ?_ ?_ _ (by omega)
  ·intro n
   simp only [ar,pp,cond_false]
  ·intro n i x hi hx
   simp only [ar,ltN hi,cond_true,fO hx,ab,ic]
   rw [gg (by omega)]
 rw [h,ab,mX]
section
variable {k:Nat} (hk:9223372036854779000≤k) {p:PB} (ht:Wt p.2.1) (hw:∀ x ∈ p.2.2.2.1,x.2.1.length≤9000) (hs:∀ x ∈ p.2.2.2.2,x.2.1.length≤1000)
include hk ht hw hs
theorem So:gY k p=some (aeB p):=by
 unfold gY aeB
 rw [Ky hk ht hw hs,ab]
 cases hm:fy p with
 | false=>rfl
 | true=>
  obtain ⟨h1,h2,h3,h4,h5⟩:=ou hm
  have hc:=aC h1
  rw [Bool.not_true,cond_false,aao _ (by omega) (by omega),ab]
  cases p.2.2.2.2.any fun x => !decide (x.1=0) with
  | true=>rfl
  | false=>
   rw [cond_false,Bool.not_false,Bool.and_true,Bool.true_and]
   have key:∀ (r:List WB) (q n:Nat),p.2.2.2.1.drop q=r→q≤p.2.2.2.1.length→r.length<n→cS k p n (q:Int)=some (RY p.1 p.2.2.1 q r):=by
    intro r
    induction r with
    | nil=>
     intro q n hr hq hn
     obtain ⟨n,rfl⟩:=iZ hn
     have:=eb hr
     rw [cS,ltF (by omega),cond_false,RY]
    | cons v r ih=>
     intro q n hr hq hn
     obtain ⟨n,rfl⟩:=iZ hn
     obtain ⟨g0,g1,g2,_,g4⟩:=cW hr
     have hlay:fX p.1 (q:Int)=some (f6 p.1 (q:Int)):=KT p.1 _
     rw [cS,ltN g0,cond_true,fO g1,ab]
     simp only [Prod.eta,Nq,ab,hlay,ff]
     rw [RY,gg (by omega),ih (q+1) n g2 (by omega) (by simp only [List.length_cons] at hn;omega),E3]
     cases ah9 v with
     | false=>rfl
     | true=>
      by_cases h:ah p.2.2.1 (f6 p.1 q)=0
      ·rw [decide_eq_true h];rfl
      ·rw [decide_eq_false h];rfl
   have:=key p.2.2.2.1 0 (k+35) rfl (Nat.zero_le _) (by omega)
   exact this
theorem VT:iR k p=some (Vm p):=by
 unfold iR Vm
 rw [So hk ht hw hs,ab]
 cases ha:aeB p with
 | false=>rfl
 | true=>
  have hm:fy p=true:=by
   unfold aeB at ha
   simp only [Bool.and_eq_true] at ha
   exact ha.1.1
  obtain ⟨h1,h2,h3,h4,h5⟩:=ou hm
  rw [cond_true,ff,ab,nM]
  by_cases h:ah p.2.2.1 0=0
  ·rw [decide_eq_true h,cond_true,acz _ (by omega) (by omega),ab]
   rfl
  ·rw [decide_eq_false h]
   rfl
end
end Go.Ab
set_option linter.unusedVariables false
set_option linter.unusedSimpArgs false
namespace Go.Ab
def RlK {A B:Type} (x:Option (A×B)) (y:Option (A×B×Nat)):Prop:=∀ r,x=some r→∃ e,(e=3∨e=0)∧y=some (r.1,r.2,e)
section
variable {A B C:Type}
theorem RlK.non {y:Option (A×B×Nat)}:RlK none y:=fun r h=>by cases h
theorem RlK.fin (a:A) (b:B) {e:Nat} (h:e=3∨e=0):RlK (some (a,b)) (some (a,b,e)):=fun r hr=>by cases hr;exact ⟨e,h,rfl⟩
theorem RlK.ob {a:Option C} {f:C→Option (A×B)} {g:C→Option (A×B×Nat)} (h:∀ x,RlK (f x) (g x)):RlK (ob a f) (ob a g):=by
 cases a with
 | none=>exact .non
 | some x=>rw [ab,ab];exact h x
theorem RlK.cond {c:Bool} {x x':Option (A×B)} {y y':Option (A×B×Nat)} (h:RlK x y) (h':RlK x' y'):RlK (bif c then x else x') (bif c then y else y'):=by
 cases c
 ·exact h'
 ·exact h
theorem RlK.ck {c:Bool} {x:Option (A×B)} {y:Option (A×B×Nat)} (h:RlK x y):RlK (ck c x) (ck c y):=by
 cases c
 ·exact fun r hr=>by cases hr
 ·rw [bC,bC];exact h
end
theorem abI (k:Nat) (p:PB) (l:List PK):∀ (n:Nat) (a b c d:Int) (t:Tyt) (W0:List WB) (S0:List SB) (W:List WB) (S:List SB) (evs:List EV) (q:Int) (m:List Int) (e:Nat),(e=3∨e=0) →
  RlK (bh k p l n a b c d t W0 S0 W S evs q m e) (bR k p l n a b c d t W0 S0 W S evs q m e):=by
 intro n
 induction n with
 | zero=>intros;exact .non
 | succ n ih=>
  intro a b c d t W0 S0 W S evs q m e he
  rw [bh,bR]
  repeat' first | exact RlK.non | exact RlK.fin _ _ he | exact ih _ _ _ _ _ _ _ _ _ _ _ _ _ (.inl rfl) | exact ih _ _ _ _ _ _ _ _ _ _ _ _ _ he | apply RlK.cond | apply RlK.ck | (refine RlK.ob fun x => ?_)
theorem ZM (k:Nat) (p:PB) (l:List PK):RlK (ku k p l) (i5 k p l):=by
 unfold ku i5
 repeat' first | exact RlK.non | exact RlK.fin _ _ (.inr rfl) | exact abI _ _ _ _ _ _ _ _ _ _ _ _ _ _ _ _ _ (.inr rfl) | apply RlK.cond | apply RlK.ck | (refine RlK.ob fun x => ?_)
theorem afs {k:Nat} (hk:9223372036854779000≤k) {p:PB} (ht:FwT p.2.1) (hw:∀ x ∈ p.2.2.2.1,x.2.1.length≤9000) (hs:∀ x ∈ p.2.2.2.2,x.2.1.length≤1000) (hW:p.2.2.2.1.length≤20) (hS:p.2.2.2.2.length≤20) (hml:p.2.2.1.length≤1000):fN k p=some (p,[]):=by
 unfold fN
 try simp only [Prod.eta]
 rw [Ix _ (by omega) ht,ab,bH (by omega),ab,bH (by omega),ab,bH (by omega),ab]
 have ho:=Lt k (by omega) p.1.1 p.1.2.1 p.1.2.2.1 p.1.2.2.2 p.2.1 p.2.2.1 (by omega) hw (by omega) hs p.2.2.2.1 0 (k+61) rfl (Nat.zero_le _) (by omega)
 refine (congrArg (fun z=>ob z _) ho).trans ?_
 rw [ab]
 dsimp only
 rw [decide_eq_true (Nat.le_refl _),bC,decide_eq_true (Nat.le_refl _),bC,Ky (by omega) ht.wt hw hs,ab,List.take_length,List.take_length,decide_eq_true (Nat.le_refl _),decide_eq_true (Nat.le_refl _)]
 cases hm:fy p with
 | false=>
  rw [Bool.not_false,cond_true,bC,bC,List.take_length,List.take_length]
 | true=>
  rw [Bool.not_true,cond_false,ft,decide_eq_true (Nat.le_refl _),bC,decide_eq_true (Nat.le_refl _),bC,List.take_length,List.take_length]
def drB:Nat→Nat→PB→PB×List EV×Nat
 | 0,i,p=>(p,[],i)
 | d+1,i,p=>if Vm p=true then (p,[],i) else
  let r:=oU p (f8 p.1.1.toNat p.2.2.2.2.length i)
  let q:=drB d (i+1) r.1
  (q.1,r.2++q.2.1,q.2.2)
def GH (p:PB) (n:Nat):PB×List EV×Nat:=if fy p=true then drB n 0 p else (p,[],0)
theorem KJ {p:PB} (hm:fy p=true):p.1.1.toNat≤8∧((p.1.1.toNat:Nat):Int)=p.1.1:=by
 have hc:=aC (ou hm).1
 omega
theorem Good.mono {n m:Nat} {p:PB} (h:Good n p) (hnm:n≤m):Good m p:=⟨h.t,h.tl,h.m,fun x hx=>⟨(h.w x hx).f,Nat.le_trans (h.w x hx).s hnm,(h.w x hx).sp⟩,h.s⟩
section
variable {k:Nat} (hk:9223372036854779100≤k)
include hk
theorem ade {p:PB} {N:Nat} (hg:Good N p) (hm:fy p=true) {l:List PK} (hd:Wp l) (hl:l.length≤20) (hN:N+l.length≤9000):∃ e,(e=3∨e=0)∧i5 k p l=some ((oU p l).1,(oU p l).2,e):=by
 have L:=pB hm
 have h:=aea (k:=k) (by omega) (l:=l) (by omega) hd hg (by omega) (by omega) (by omega) hN
 unfold ahQ at h
 rw [if_pos hm] at h
 exact ZM k p l _ h
theorem Nf {p0:PB} {v1:Int} (hv:v1≤5000):∀ (d n i N:Nat) (p:PB) (evs:List EV) (e:Nat),(i:Int)+d=max v1 0→d<n→(e=3∨e=0)→p.1=p0.1→p.2.2.2.2.length=p0.2.2.2.2.length→Good N p→fy p=true→N+11*d≤9000→evs.length≤22*i →
  dC k p0 v1 n p.1.1 p.1.2.1 p.1.2.2.1 p.1.2.2.2 p.2.1 p.2.2.1 p.2.2.2.1 p.2.2.2.2 (i:Int) e evs=some ((drB d i p).1,evs++(drB d i p).2.1,((drB d i p).2.2:Int)):=by
 intro d
 induction d with
 | zero=>
  intro n i N p evs e hi hn he h1 h2 hg hm hN hE
  obtain ⟨n,rfl⟩:=iZ hn
  rw [dC]
  have hc:(bif decide ((5000:Int)<v1) then (5000:Int) else v1)=v1:=by rw [ltF (by omega),cond_false]
  rw [hc,ltF (by omega),cond_false,drB,List.append_nil]
 | succ d ih=>
  intro n i N p evs e hi hn he h1 h2 hg hm hN hE
  obtain ⟨n,rfl⟩:=iZ hn
  have L:=pB hm
  obtain ⟨b1,b2⟩:=KJ hm
  have hc:(bif decide ((5000:Int)<v1) then (5000:Int) else v1)=v1:=by rw [ltF (by omega),cond_false]
  have hes:(e==3||e==0)=true:=by rcases he with rfl | rfl <;> rfl
  have hrd:gK (k+86) p.1.1 (p.2.2.2.2.length:Int) (i:Int)=some (f8 p.1.1.toNat p.2.2.2.2.length i):=by
   have:=aaN (k:=k+86) (by omega) (w:=p.1.1.toNat) (s:=p.2.2.2.2.length) (by omega) (by omega) (i:Int)
   rw [b2] at this
   exact this
  rw [dC,hc,ltT (by omega),cond_true,mG (z:=(i:Int)) (by omega) (by omega),← h1,← h2,hrd,ab]
  simp only [Prod.eta]
  rw [VT (by omega) hg.t.wt (fun x hx=>by have:=(hg.w x hx).s;omega) (fun x hx=>(hg.s x hx).s),ab,drB]
  cases hr:Vm p with
  | true=>rw [cond_true,if_pos rfl,List.append_nil]
  | false=>
   rw [cond_false,if_neg (by simp)]
   have hrl:=GE p.1.1.toNat p.2.2.2.2.length (i:Int)
   obtain ⟨e',he',hrun⟩:=ade (k:=k+24) (by omega) hg hm (l:=f8 p.1.1.toNat p.2.2.2.2.length (i:Int)) (Vj (by omega)) (by omega) (by omega)
   have hev:=Cc (l:=f8 p.1.1.toNat p.2.2.2.2.length (i:Int)) (p:=p)
   have hsm:=uw (l:=f8 p.1.1.toNat p.2.2.2.2.length (i:Int)) (p:=p)
   have hgd:=(pF (l:=f8 p.1.1.toNat p.2.2.2.2.length (i:Int)) hg hm).mono (m:=N+11) (by omega)
   have hmy:=EC (l:=f8 p.1.1.toNat p.2.2.2.2.length (i:Int)) hm
   rw [hrun,ab,hes,bC]
   generalize oU p (f8 p.1.1.toNat p.2.2.2.2.length (i:Int))=r at hev hsm hgd hmy ⊢
   have hap:(evs++r.2).length≤22*(i+1):=by rw [List.length_append];omega
   dsimp only
   rw [Aw (by omega),cond_true,gg (by omega)]
   have:=ih n (i+1) (N+11) r.1 (evs++r.2) 3 (by omega) (by omega) (.inl rfl) (by rw [hsm.1,h1]) (by rw [hsm.2.2.2.1,h2]) hgd hmy (by omega) hap
   rw [List.append_assoc] at this
   exact this
theorem acP {p:PB} {N:Nat} (hg:Good N p) (hW:p.2.2.2.1.length≤20) (hS:p.2.2.2.2.length≤20) (hml:p.2.2.1.length≤1000) {v:Int} (hv:v≤5000) (hN:N+11*v.toNat≤9000):fA k p v=some ((GH p v.toNat).1,(GH p v.toNat).2.1,((GH p v.toNat).2.2:Int)):=by
 have hw:∀ x ∈ p.2.2.2.1,x.2.1.length≤9000:=fun x hx=>by have:=(hg.w x hx).s;omega
 have hs:∀ x ∈ p.2.2.2.2,x.2.1.length≤1000:=fun x hx=>(hg.s x hx).s
 unfold fA GH
 simp only [Prod.eta]
 rw [afs (by omega) hg.t hw hs hW hS hml,ab,Ky (by omega) hg.t.wt hw hs,ab]
 cases hm:fy p with
 | false=>
  rw [Bool.not_false,cond_true,if_neg (by simp)]
  rfl
 | true=>
  rw [Bool.not_true,cond_false,if_pos rfl]
  have:=Nf (k:=k) hk (p0:=p) (v1:=v) (by omega) v.toNat (k+88) 0 N p [] 0 (by omega) (by omega) (.inr rfl) rfl rfl hg hm (by omega) (Nat.le_refl _)
  rw [List.nil_append] at this
  exact this
theorem X9 (c:CF) {t:Tyt} (ht:FwT t) {roots:List (List Int)} (hr:∀ l ∈ roots,l.length≤60) {b:List Int} (hb:Wby b) (hl:b.length≤2000) :
  kz k c t roots b=some (PM,[],false)∨kz k c t roots b=some ((oU (F3 c t roots) (AA b)).1,(oU (F3 c t roots) (AA b)).2,true)∧dl c=true∧ow t=true∧roots.length≤3∧(∀ l ∈ roots,∀ y ∈ l,RtB t y)∧roots.flatten.Nodup:=by
 unfold kz
 simp only [Prod.eta]
 rcases YN (k:=k+41) (by omega) c ht (roots:=roots) (fun x hx=>by have:=hr x hx;omega) with h | ⟨h,hc,ht2,h3,hr'⟩
 ·rw [h,ab]
  exact .inl rfl
 ·refine .inr ⟨?_,hc,ht2,h3,hr'⟩
  have g0:=Ly (c:=c) ht hr
  have m0:=Rv hc ht2 h3 (fun l hl y hy=>(hr'.1 l hl y hy).1)
  have L:=pB m0
  have hd:=Jx b
  rw [h,ab,Bool.not_true,cond_false,VA (by omega) hb hl,ab,aea (by omega) (by omega) (Xm hb) g0 (by omega) (by omega) (by omega) (by omega)]
  unfold ahQ
  rw [if_pos m0,ab]
end
end Go.Ab
set_option maxRecDepth 100000
set_option linter.unusedVariables false
namespace Go.Ab
theorem Zh (x:Int):gi x=some (acY x):=by
 unfold gi acY
 cases decide (x<0) <;> rfl
theorem acU (x:Int):gl x=some (r5 x):=by
 unfold gl r5
 cases x==1 <;> rfl
theorem VO {t:Tyt} {s:List Int} (h:iT t s=true):ow t=true∧s.length=t.length:=by
 simp only [iT,Bool.and_eq_true,beq_iff_eq] at h
 exact h.1
theorem U0 (t:Tyt):(Mk t).length≤30:=by
 unfold Mk
 split
 ·rename_i h
  simpa using BM h
 ·simp
section
variable (k:Nat) (hk:9223372036854775808≤k)
include hk
theorem ahd (t:Tyt) (ht:Wt t):mq k t=some (Mk t):=by
 rw [mq,FM k hk t ht,ab,Mk]
 cases hm:ow t with
 | false=>rfl
 | true=>
  have h30:=BM hm
  have h3:decide ((0:Int)≤(t.length:Int)∧(t.length:Int)≤9223372036854775807∧(t.length:Int)*8≤70368744177664)=true:=by simp;omega
  rw [h3]
  rfl
theorem afz (s:List Int) (hs:s.length≤9223372036854775807):kP k s=some (Fq s):=by
 rw [kP,a8,bl,Dk (F:=fun n i=>aH (k+8) s n i) (l:=s) r5 ?_ ?_ _ (by omega),ab,mX,ab]
 ·rfl
 ·intro n
  simp only [aH,pp,cond_false]
 ·intro n i x hi hx
  simp only [aH,ltN hi,cond_true,fO hx,ab,acU]
  rw [gg (by omega)]
theorem ahp (t:Tyt) (ht:Wt t) (s:List Int) (hs:s.length≤9223372036854775807):kQ k t s=some (iT t s):=by
 rw [kQ,FM k hk t ht,ab,a9,bk,Dk (F:=fun n i=>aG (k+1+8) s n i) (l:=s) acY ?_ ?_ _ (by omega),ab,mX,ab,iT,ajt]
 ·have e:(s.length==t.length)=decide (s.length=t.length):=by
   by_cases h:s.length=t.length <;> simp [h]
  rw [e]
  cases ow t <;> cases decide (s.length=t.length) <;> rfl
 ·intro n
  simp only [aG,pp,cond_false]
 ·intro n i x hi hx
  simp only [aG,ltN hi,cond_true,fO hx,ab,Zh]
  rw [gg (by omega)]
theorem aho (t:Tyt) (ht:Wt t) (s:List Int) (hs:s.length≤1048576) (e:Int×Int×Int):kY k t s e=some (gD t s e):=by
 rw [kY,Jh 8 s (by omega),ab,ahp (k+1) (by omega) t ht s (by omega),ab,gD]
 cases hf:iT t s with
 | false=>rfl
 | true=>
  obtain ⟨hm,hl⟩:=VO hf
  have hM:=CK hm
  obtain ⟨kd,q,w⟩:=e
  rw [Bool.not_true,cond_false,if_neg (show ¬ (true=false) by simp),nM]
  simp only
  by_cases h5:kd=5
  ·rw [decide_eq_true h5,cond_true,if_pos h5,afz (k+2) (by omega) s (by omega),ab]
  ·rw [decide_eq_false h5,cond_false,if_neg h5]
   by_cases h0:q<0
   ·rw [ltT h0,if_pos (.inl h0)];rfl
   ·by_cases h1:(t.length:Int)≤q
    ·rw [ltF (by omega),leT h1,if_pos (.inr h1)];rfl
    ·have hx:s[q.toNat]? = some s[q.toNat]:=List.getElem?_eq_getElem (by omega)
     have hix:idx s q=some s[q.toNat]:=by rw [idx,if_pos (by omega),hx]
     have hd:decide ((0:Int)≤q∧q.toNat<s.length)=true:=by simp;omega
     have htx:t[q.toNat]? = some t[q.toNat]:=List.getElem?_eq_getElem (by omega)
     have hit:idx t q=some t[q.toNat]:=by rw [idx,if_pos (by omega),htx]
     rw [ltF (by omega),leF (by omega),cond_false,cond_false,if_neg (by omega),HD (k:=k) (by omega) t ht,ab]
     simp only [hix,ab,hd,hx,cond_true,nM,E3,B3,Option.getD_some]
     by_cases k0:kd=0
     ·subst k0
      by_cases a:s[q.toNat]=0 <;> by_cases b:dr t q<0 <;> simp [a,b]
     by_cases k1:kd=1
     ·subst k1
      by_cases a:s[q.toNat]=0 <;> by_cases b:dr t q<0 <;> simp [a,b]
     by_cases k3:kd=3
     ·subst k3
      by_cases a:s[q.toNat]=0
      ·by_cases b:0≤dr t q
       ·obtain ⟨y,hy⟩:∃ y,s[(dr t q).toNat]? = some y:=by
         rcases Gf q hm with ⟨c,_⟩ | ⟨o,ho,c⟩
         ·omega
         ·have:=hM.kids _ ho
          simp only at this
          exact ⟨_,List.getElem?_eq_getElem (by omega)⟩
        have hiy:idx s (dr t q)=some y:=by rw [idx,if_pos b,hy]
        rw [hiy]
        by_cases d:y=2 <;> simp [a,b,hy,d,ab]
       ·simp [a,b]
      ·simp [a]
     by_cases k2:kd=2
     ·subst k2
      by_cases a:s[q.toNat]=1 <;> simp [a,iL,ab]
     by_cases k4:kd=4
     ·subst k4
      have hin:∀ i ∈ (t[q.toNat]).2,∃ v,idx s i=some v:=by
       intro i hi
       have hk:=hM.kids (i,((0+q.toNat:Nat):Int)) (nB.2 ⟨q.toNat,_,htx,hi,rfl⟩)
       simp only at hk
       rw [idx,if_pos (by omega)]
       exact ⟨_,List.getElem?_eq_getElem (by omega)⟩
      have hkl:=ht.kids _ (List.getElem_mem (show q.toNat<t.length by omega))
      rw [hit,ab,Dk (F:=fun n i=>b9 k n (t[q.toNat]).2 ((t[q.toNat]).2.length:Int) s i) (l:=(t[q.toNat]).2) (fun i=>(idx s i).getD 1==0) ?_ ?_ _ (by omega),ab,mX,htx,Option.getD_some]
      ·by_cases a:s[q.toNat]=2 <;> cases hb:((t[q.toNat]).2.any fun i=>(idx s i).getD 1==0) <;> simp [a]
      ·intro n
       simp only [b9,pp,cond_false]
      ·intro n i x hi hx
       obtain ⟨v,hv⟩:=hin x (List.mem_of_getElem? hx)
       simp only [b9,ltN hi,cond_true,fO hx,hv,ab,Option.getD_some]
       rw [gg (by omega)]
     simp [k0,k1,k2,k3,k4]
theorem al0 (t:Tyt) (ht:Wt t) (l:Tye) (hl:l.length≤9223372036854775807):mz k t l=some (Ue t l):=by
 rw [mz,ahd (k+2) (by omega) t ht,ab,Ue]
 have hn:=U0 t
 have key:∀ r i n s,l.drop i=r→i≤l.length→r.length<n→s.length≤1048576→dW k t l n s true (i:Int)=some (Gc t r s):=by
  intro r
  induction r with
  | nil=>
   intro i n s hr hi hn hs
   obtain ⟨n,rfl⟩:=iZ hn
   have:=eb hr
   rw [dW,ltF (by omega),cond_false]
   rfl
  | cons x r ih=>
   intro i n s hr hi hn hs
   obtain ⟨n,rfl⟩:=iZ hn
   obtain ⟨a,b,c,d,e⟩:=cW hr
   have hlen:=QS t s x
   rw [dW,ltN a,cond_true,fO b,ab,gg (by omega),aho k hk t ht s hs,ab,Gc]
   cases h:(gD t s (x.1,x.2.1,x.2.2)).2 with
   | false=>rw [Bool.not_false,cond_true,if_neg (by simp)]
   | true=>rw [Bool.not_true,cond_false,if_pos rfl,ih (i+1) n _ c (by omega) (by simp only [List.length_cons] at hn;omega) (by rw [hlen];exact hs)]
 have:=key l 0 (k+22) (Mk t) rfl (Nat.zero_le _) (by omega) (by omega)
 simpa using this
theorem G7 (t:Tyt) (ht:Wt t) (l:Tye) (hl:l.length≤9223372036854775807):eg k t l=some ((Ue t l).2&&ow t):=by
 rw [eg,al0 k hk t ht l hl,ab,FM (k+4) (by omega) t ht,ab]
 cases (Ue t l).2 <;> rfl
end
end Go.Ab
set_option linter.unusedVariables false
namespace Go.Ab
theorem LB {p:PB} (hm:fy p=true) (i:Nat):(f8 p.1.1.toNat p.2.2.2.2.length (i:Int)).length≤11:=by
 have L:=pB hm
 have hb:=KJ hm
 rw [GE]
 omega
theorem WY:∀ (d i n:Nat) (p:PB) (s:List Int),Good n p→fy p=true→n+11*d≤1000000→MstP n p s →
  ∃ s',Gc p.2.1 (drB d i p).2.1 s=(s',true)∧MstP (n+11*d) (drB d i p).1 s'∧Good (n+11*d) (drB d i p).1∧fy (drB d i p).1=true∧(drB d i p).1.2.1=p.2.1
 | 0,i,n,p,s,hg,hm,hn,h=>⟨s,rfl,h,hg,hm,rfl⟩
 | d+1,i,n,p,s,hg,hm,hn,h=>by
  have up:∀ {k:Nat} {q:PB} {z:List Int},MstP k q z→∀ j,k≤j→MstP j q z:=fun hh j hj=>by
   obtain ⟨a,b,c,e⟩:=hh
   exact ⟨a.mono hj,b,c,e⟩
  have hl:=LB hm i
  rw [drB]
  split
  ·exact ⟨s,rfl,up h _ (Nat.le_add_right _ _),hg.mono (Nat.le_add_right _ _),hm,rfl⟩
  ·obtain ⟨s1,h1,h2⟩:=Ey (l:=f8 p.1.1.toNat p.2.2.2.2.length (i:Int)) hg hm (by omega) h
   have g1:=(pF (l:=f8 p.1.1.toNat p.2.2.2.2.length (i:Int)) hg hm).mono (m:=n+11) (by omega)
   have m1:=EC (l:=f8 p.1.1.toNat p.2.2.2.2.length (i:Int)) hm
   have t1:=(uw (l:=f8 p.1.1.toNat p.2.2.2.2.length (i:Int)) (p:=p)).2.1
   obtain ⟨s2,h3,h4,h5,h6,h7⟩:=WY d (i+1) (n+11) _ s1 g1 m1 (by omega) (up h2 _ (by omega))
   rw [t1] at h3 h7
   refine ⟨s2,?_,up h4 _ (by omega),h5.mono (by omega),h6,h7⟩
   dsimp only
   rw [nQ,h1,if_pos rfl]
   exact h3
end Go.Ab
set_option linter.unusedVariables false
set_option linter.unusedSimpArgs false
namespace Go.Ab
section
variable {k:Nat} (hk:9223372036854779000≤k)
include hk
end
end Go.Ab
namespace Go.Ab
open Go.WideShapes
structure Ll (l:List (List Int)):Prop where
 len:l.length≤9223372036854775807
 each:∀ x ∈ l,x.length≤9223372036854775807
theorem akW {l:List (List Int)} (hm:l.length≤maxLen) (h:∀ x ∈ l,(∀ n ∈ x,i64 n)∧x.length≤maxLen):Ll l:=⟨af2 hm,fun x hx=>af2 (h x hx).2⟩
end Go.Ab
namespace Go.Ab
open Go.WideShapes
end Go.Ab
namespace Go.Ab
open Go.WideShapes
end Go.Ab
namespace Go.Ab
open Go.WideShapes
end Go.Ab
namespace Go.Ab
open Go.WideShapes
theorem alu {l:List Int} (h:∀ n ∈ l,(Lit.int .u8 n).wf=true) (hm:l.length≤maxLen):Wby l:=by
 intro x hx
 have h1:IntKind.min .u8=0:=by decide
 have h2:IntKind.max .u8=255:=by decide
 simpa [Lit.wf,h1,h2] using h x hx
end Go.Ab
