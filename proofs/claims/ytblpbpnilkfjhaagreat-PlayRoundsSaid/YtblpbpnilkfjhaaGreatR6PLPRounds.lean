import Derived.Test.YtblpbpnilkfjhaaGreatR6PPlay
import Derived.Test.YtblpbpnilkfjhaaGreatR6PWf8
import Derived.Test.YtblpbpnilkfjhaaGreatR6GL10
set_option linter.unusedVariables false
set_option linter.unusedSimpArgs false
set_option linter.unusedVariables false
namespace Go.Ab
theorem G6:∀ (d d' i:Nat) (p:PB),d'≤d→(drB d i p).2.2≤i+d∧(drB d' i p).2.2≤(drB d i p).2.2∧∃ tl,(drB d i p).2.1=(drB d' i p).2.1++tl∧((drB d' i p).2.2=i+d'∨(drB d' i p).2.2=(drB d i p).2.2)
 | 0,d',i,p,h=>by
  rw [show d'=0 by omega]
  exact ⟨Nat.le_refl _,Nat.le_refl _,[],(List.append_nil _).symm,.inl rfl⟩
 | d+1,0,i,p,h=>by
  rw [drB,drB]
  split
  ·exact ⟨Nat.le_add_right _ _,Nat.le_refl _,[],rfl,.inl rfl⟩
  ·have:=G6 d 0 (i+1) (nb p (gl p.1.1.toNat p.2.2.2.2.length i)).1 (Nat.zero_le _)
   rw [drB] at this
   dsimp only at this ⊢
   exact ⟨by omega,by omega,_,rfl,.inl rfl⟩
 | d+1,d'+1,i,p,h=>by
  rw [drB,drB]
  split
  ·exact ⟨Nat.le_add_right _ _,Nat.le_refl _,[],rfl,.inr rfl⟩
  ·obtain ⟨a,b,tl,e,f⟩:=G6 d d' (i+1) (nb p (gl p.1.1.toNat p.2.2.2.2.length i)).1 (by omega)
   dsimp only
   refine ⟨by omega,b,tl,by rw [e,List.append_assoc],?_⟩
   rcases f with f | f
   ·exact .inl (by omega)
   ·exact .inr f
theorem RR:∀ (d i:Nat) (p:PB),fB p=true→(drB d i p).2.1.length≤22*d
 | 0,i,p,_=>Nat.le_refl _
 | d+1,i,p,hm=>by
  have L:=ov hm
  have hb:=Gs hm
  rw [drB]
  split
  ·exact Nat.zero_le _
  ·have:=RR d (i+1) (nb p (gl p.1.1.toNat p.2.2.2.2.length i)).1 (FA hm)
   have h2:=Bl (l:=gl p.1.1.toNat p.2.2.2.2.length i) (p:=p)
   rw [D8] at h2
   dsimp only
   rw [List.length_append]
   omega
theorem LE {k:Nat} {l:List EV} (hk:l.length<k) (hl:l.length≤9223372036854775806):dw k l l=some true:=by
 unfold dw
 rw [A5,decide_eq_true rfl,Bool.not_true,cond_false]
 have key:∀ (r:List EV) (q n:Nat),l.drop q=r→r.length<n→bC k l l n (q:Int)=some true:=by
  intro r
  induction r with
  | nil=>
   intro q n hr hn
   obtain ⟨n,rfl⟩:=gu hn
   have:=dE hr
   rw [bC,ltF (by omega),cond_false]
  | cons v r ih=>
   intro q n hr hn
   obtain ⟨n,rfl⟩:=gu hn
   obtain ⟨h0,h1,h2,_,h4⟩:=cM hr
   rw [bC,ltN h0,cond_true,fU h1,af,af,fY (by omega)]
   have:(v.1==v.1&&(v.2.1==v.2.1&&v.2.2==v.2.2))=true:=by simp
   rw [this,Bool.not_true,cond_false]
   exact ih (q+1) n h2 (by simp only [List.length_cons] at hn;omega)
 exact key l 0 k rfl hk
theorem CE {k:Nat} (hk:9223372036854779900<k) (c:CF) {t:Tyt} (ht:Wt t) (roots:List (List Int)) (hR:roots.length≤9223372036854775807) {b:List Int} (hb:Wby b) (n d:Int) :
  cz k c t roots b n d=some true:=by
 unfold cz
 obtain ⟨f,hf,hfew⟩:=abq (k:=k+91) (by omega) hR
 simp only [Prod.eta]
 rw [VF (k+91) (by omega) t ht,af,hf,af]
 cases hfb:YG t with
 | false=>rfl
 | true=>
  have hF:=XL hfb
  rw [Bool.not_true,cond_false]
  cases f with
  | false=>rfl
  | true=>
   obtain ⟨hR10,hR60⟩:=hfew rfl
   rw [Bool.not_true,cond_false]
   by_cases hl:(900:Int)<b.length
   ·rw [ltT hl,cond_true]
   rw [ltF (by omega),cond_false]
   by_cases h0:n<0
   ·rw [ltT h0,cond_true]
   rw [ltF (by omega),cond_false]
   by_cases h1:(100:Int)<n
   ·rw [ltT h1,cond_true]
   rw [ltF (by omega),cond_false]
   by_cases h2:d<0
   ·rw [ltT h2,cond_true]
   rw [ltF (by omega),cond_false]
   by_cases h3:n<d
   ·rw [ltT h3,cond_true]
   rw [ltF (by omega),cond_false]
   obtain ⟨p,evs,is,hp,hg,hW,hS,hM⟩:∃ p evs is,fL (k+28) c t roots b=some (p,evs,is)∧Good 300 p∧p.2.2.2.1.length≤20∧p.2.2.2.2.length≤20∧p.2.2.1.length≤1000:=by
    rcases Xx (k:=k+28) (by omega) c hF hR60 hb (by omega) with h | ⟨h,hc,ht2,hr3,hr⟩
    ·exact ⟨_,_,_,h,L8.mono (by omega),by simp [rh],by simp [rh],by simp [rh]⟩
    ·have g0:=Gr (c:=c) hF hR60
     have m0:=KR hc ht2 hr3 hr
     have hd:=Fb b
     have L:=ov (FA (l:=Bo b) m0)
     exact ⟨_,_,_,h,(rY g0 m0).mono (by omega),by omega,by omega,by omega⟩
   rw [hp,af]
   dsimp only
   rw [L1 (k:=k+2) (by omega) hg hW hS hM (v:=n) (by omega) (by omega),af,L1 (k:=k+2) (by omega) hg hW hS hM (v:=d) (by omega) (by omega),af]
   dsimp only
   have key:∃ tl,(gp p n.toNat).2.2≤n.toNat∧(gp p d.toNat).2.2≤(gp p n.toNat).2.2∧(gp p n.toNat).2.1=(gp p d.toNat).2.1++tl∧((gp p d.toNat).2.2=d.toNat∨(gp p d.toNat).2.2=(gp p n.toNat).2.2)∧(gp p d.toNat).2.2≤d.toNat∧(gp p n.toNat).2.1.length≤22*n.toNat:=by
    unfold gp
    cases hm:fB p with
    | false=>exact ⟨[],Nat.zero_le _,Nat.le_refl _,rfl,.inr rfl,Nat.zero_le _,Nat.zero_le _⟩
    | true=>
     obtain ⟨a,b',tl,e,f⟩:=G6 n.toNat d.toNat 0 p (by omega)
     have a2:=(G6 d.toNat d.toNat 0 p (Nat.le_refl _)).1
     refine ⟨tl,by simpa using a,by simpa using b',by simpa using e,by simpa using f,by simpa using a2,by simpa using RR n.toNat 0 p hm⟩
   obtain ⟨tl,k1,k2,k3,k4,k5,k6⟩:=key
   have k7:(gp p d.toNat).2.1.length≤(gp p n.toNat).2.1.length:=by rw [k3,List.length_append];omega
   rw [ltF (by omega),cond_false,ltF (by omega),cond_false,ltF (by omega),cond_false,ltF (by omega),cond_false,decide_eq_true (by omega),cond_true,k3,List.take_left',LE (by omega) (by omega),af,cond_true,mg,mg]
   ·by_cases e:((gp p d.toNat).2.2:Int)=d
    ·rw [decide_eq_true e,cond_true]
    ·rw [decide_eq_false e,cond_false,decide_eq_true (by omega)]
   ·rfl
theorem law_PRounds (k:Nat) (hk:9223372036854779993<k) (c:CF) (hc:RQ c) (t:Tyt) (ht:Wt t) (roots:List (List Int)) (hR:Ll roots) (b:List Int) (hb:Wby b) (n:Int) (hn:i64 n) (d:Int) (hd:i64 d) :
  xC k none 10 [.agg (lA c),Hl t,.ro (roots.map cA),NU .u8 b,.lit (.int .i64 n),.lit (.int .i64 d)]=some (.lit (.bool true),[]):=by
 obtain ⟨i,rfl⟩:∃ i,k=i+93:=⟨k - 93,by omega⟩
 have h:=CE (k:=i) (by omega) c ht roots hR.len hb n d
 obtain ⟨W,D,I,S⟩:=c
 rw [lA,Hl]
 refine (kU i W D I S t roots b n d).trans ?_
 rw [h]
 rfl
end Go.Ab
