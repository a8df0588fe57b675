import Derived.Test.YtblpbpnilkfjhaaGreatR6PP
import Derived.Test.YtblpbpnilkfjhaaGreatR6GL9
set_option linter.unusedVariables false
set_option linter.unusedSimpArgs false
set_option linter.unusedVariables false
namespace Go.Ab
section
variable {k:Nat} (hk:9223372036854779900<k) (l:List PK) (hl:Wp l) (hl3:l.length≤300) (p0:PB)
include hk hl hl3
theorem Kr:∀ (r:List PK) (q n:Nat) (p:PB),l.drop q=r→q≤l.length→r.length<n→Aw (300+q) p →
  cH k p0 l n (q:Int) p.1.1 p.1.2.1 p.1.2.2.1 p.1.2.2.2 p.2.1 p.2.2.1 p.2.2.2.1 p.2.2.2.2 true=some true:=by
 intro r
 induction r with
 | nil=>
  intro q n p hr hq hn ha
  obtain ⟨n,rfl⟩:=ir hn
  have hql:=dN hr
  have hw:=fun x (hx:x ∈ p.2.2.2.1)=>(show x.2.1.length≤9000 by have:=(ha.g.w x hx).s;omega)
  have hs:=fun x (hx:x ∈ p.2.2.2.2)=>(ha.g.s x hx).s
  rw [cH,cond_true]
  simp only [Prod.eta]
  rw [Ih (by omega) ha.g.t.wt hw hs,af]
  have he:((q:Int)==(l.length:Int))=true:=by rw [my];exact decide_eq_true (by omega)
  cases hb:Us p with
  | false=>rw [Bool.not_false,cond_true,he,cond_true]
  | true=>
   obtain ⟨z,z1,z2⟩:=pj (k:=k+28) (by omega) ha (by omega) hb
   rw [Bool.not_true,cond_false,z1,af,he,cond_true,leT z2]
 | cons v r ih=>
  intro q n p hr hq hn ha
  obtain ⟨n,rfl⟩:=ir hn
  obtain ⟨h0,h1,h2,_,h4⟩:=cU hr
  simp only [List.length_cons] at hn
  have L:=CI ha.m
  have hw:=fun x (hx:x ∈ p.2.2.2.1)=>(show x.2.1.length≤9000 by have:=(ha.g.w x hx).s;omega)
  have hs:=fun x (hx:x ∈ p.2.2.2.2)=>(ha.g.s x hx).s
  have hv:Wp [v]:=fun x hx=>by rw [List.mem_singleton.1 hx];exact hl v (List.mem_of_getElem? h1)
  have ha':=ha.step (by omega) v
  have hst:fU k p v=some (mJ p [v]):=by
   rw [VC,Z2 (by omega) (by simp) hv ha.g (by omega) (by omega) (by omega) (by simp;omega)]
   unfold ade
   rw [if_pos ha.m]
  have fin:=ih (q+1) n _ h2 (by omega) (by omega) ha'
  have he:((q:Int)==(l.length:Int))=false:=by rw [my];exact decide_eq_false (by omega)
  rw [cH,cond_true]
  simp only [Prod.eta]
  rw [Ih (by omega) ha.g.t.wt hw hs,af]
  cases hb:Us p with
  | false=>
   rw [Bool.not_false,cond_true,he,cond_false,f6 h1,af]
   try simp only [Prod.eta]
   rw [hst,af,gH (by omega)]
   exact fin
  | true=>
   obtain ⟨z,z1,z2⟩:=pj (k:=k+28) (by omega) ha (by omega) hb
   rw [Bool.not_true,cond_false,z1,af,he,cond_false,f6 h1,af]
   try simp only [Prod.eta]
   rw [hst,af,gH (by omega),leT z2]
   exact fin
end
theorem FY {k:Nat} (hk:9223372036854779900<k) (c:CF) {t:Tyt} (ht:Wt t) (roots:List (List Int)) (hR:roots.length≤9223372036854775807) {b:List Int} (hb:Wby b) (l:List PK) (hl:Wp l) :
  cI k c t roots b l=some true:=by
 unfold cI
 obtain ⟨f,hf,hfew⟩:=acl (k:=k+91) (by omega) hR
 try simp only [Prod.eta]
 rw [V1 (k+91) (by omega) t ht,af,hf,af]
 cases hfb:YH t with
 | false=>rfl
 | true=>
  have hF:=Z1 hfb
  rw [Bool.not_true,cond_false]
  cases f with
  | false=>rfl
  | true=>
   obtain ⟨hR10,hR60⟩:=hfew rfl
   rw [Bool.not_true,cond_false]
   by_cases hb9:(900:Int)<b.length
   ·rw [ltT hb9,cond_true]
   rw [ltF (by omega),cond_false]
   by_cases hl3:(300:Int)<l.length
   ·rw [ltT hl3,cond_true]
   rw [ltF (by omega),cond_false]
   rcases acU (k:=k+28) (by omega) c hF hR60 hb (by omega) with h | ⟨h,hc,ht2,hr3,hr⟩
   ·rw [h,af]
    rfl
   ·have a0:=aaG hF hR60 hc ht2 hr3 hr
    have hd:=Hh b
    have a1:=a0.run (l:=BW b) (by omega)
    rw [h,af]
    dsimp only
    generalize (mJ (Aa c t roots) (BW b)).1=p at a1
    have a2:Aw (300+0) p:=⟨a1.g.mono (by omega),a1.m,a1.s,a1.k,a1.j.up (by omega)⟩
    have ha:=Kr (k:=k+27) (by omega) l hl (by omega) p l 0 (k+27+64) p rfl (Nat.zero_le _) (by omega) a2
    have hA:ib (k+27) p l=some true:=by
     unfold ib
     try simp only [Prod.eta]
     rw [HY (by omega) a1.g.t.wt (fun x hx=>by have:=(a1.g.w x hx).s;omega) (fun x hx=>(a1.g.s x hx).s),af,a1.m,Bool.not_true,cond_false]
     exact ha
    rw [Bool.not_true,cond_false,hA,af]
theorem law_PlAwake (k:Nat) (hk:9223372036854779993<k) (c:CF) (hc:TO c) (t:Tyt) (ht:Wt t) (roots:List (List Int)) (hR:Ll roots) (b:List Int) (hb:Wby b) (l:List PK) (hl:Wpk l) :
  xC k none 9 [.agg (Px c),I8 t,.ro (roots.map fT),Q0 .u8 b,.ro (l.map fi)]=some (.lit (.bool true),[]):=by
 obtain ⟨i,rfl⟩:∃ i,k=i+93:=⟨k - 93,by omega⟩
 have h:=FY (k:=i) (by omega) c ht roots hR.len hb l hl
 obtain ⟨W,D,I,S⟩:=c
 rw [Px,I8]
 refine (lO i W D I S t roots b l).trans ?_
 rw [h]
 rfl
end Go.Ab
