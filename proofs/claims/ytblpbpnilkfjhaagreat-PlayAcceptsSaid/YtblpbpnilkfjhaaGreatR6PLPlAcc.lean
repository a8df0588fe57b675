import Derived.Test.YtblpbpnilkfjhaaGreatR6P0B
import Derived.Test.YtblpbpnilkfjhaaGreatR6GL14
set_option linter.unusedVariables false
set_option linter.unusedSimpArgs false
set_option linter.unusedVariables false
namespace Go.Ab
theorem WK:∀ (d i n:Nat) (p:PB),Good n p→fy p=true→(drB d i p).2.1.length≤22*d
 | 0,i,n,p,hg,hm=>Nat.le_refl _
 | d+1,i,n,p,hg,hm=>by
  rw [drB]
  split
  ·exact Nat.zero_le _
  ·have hl:=LB hm i
   have e1:=Cc (l:=f8 p.1.1.toNat p.2.2.2.2.length (i:Int)) (p:=p)
   have:=WK d (i+1) _ _ (pF (l:=f8 p.1.1.toNat p.2.2.2.2.length (i:Int)) hg hm) (EC hm)
   dsimp only
   rw [List.length_append]
   omega
theorem NZ {k:Nat} (hk:9223372036854779900<k) (c:CF) {t:Tyt} (ht:Wt t) (roots:List (List Int)) (hR:roots.length≤9223372036854775807) {b:List Int} (hb:Wby b) (v:Int) :
  cC k c t roots b v=some true:=by
 unfold cC
 obtain ⟨f,hf,hfew⟩:=af0 (k:=k+91) (by omega) hR
 try simp only [Prod.eta]
 rw [aaY (k+91) (by omega) t ht,ab,hf,ab]
 cases hfb:afg t with
 | false=>rfl
 | true=>
  have hF:=af6 hfb
  rw [Bool.not_true,cond_false]
  cases f with
  | false=>rfl
  | true=>
   obtain ⟨hR10,hR60⟩:=hfew rfl
   rw [Bool.not_true,cond_false]
   by_cases hb9:(900:Int)<b.length
   ·rw [ltT hb9,cond_true]
   rw [ltF (by omega),cond_false]
   by_cases hv6:(60:Int)<v
   ·rw [ltT hv6,cond_true]
   rw [ltF (by omega),cond_false]
   rcases X9 (k:=k+28) (by omega) c hF hR60 hb (by omega) with h | ⟨h,hc,ht2,hr3,hr,hd⟩
   ·rw [h,ab]
    rfl
   ·have hdl:=Jx b
    rw [h,ab,Bool.not_true,cond_false]
    have g0:=Ly (c:=c) hF hR60
    have m0:=Rv hc ht2 hr3 (fun l hl y hy=>(hr l hl y hy).1)
    have s0:=ab2 hc ht2 hr hd
    have t0:(F3 c t roots).2.1=t:=rfl
    generalize F3 c t roots=p at g0 m0 s0 t0
    have m1:=EC (l:=AA b) m0
    have g1:=(pF (l:=AA b) g0 m0).mono (m:=300) (by omega)
    obtain ⟨s,h1,h2⟩:=Ey (l:=AA b) g0 m0 (by omega) s0
    have hev:=Cc (l:=AA b) (p:=p)
    have ts:=(uw (l:=AA b) (p:=p)).2.1
    rw [t0] at h1 ts
    dsimp only
    generalize (oU p (AA b)).2=ev at h1 hev
    generalize (oU p (AA b)).1=q at m1 g1 h2 ts
    have L1:=pB m1
    have h2':MstP 300 q s:=by
     obtain ⟨a,b',c',d'⟩:=h2
     exact ⟨a.mono (by omega),b',c',d'⟩
    have hvn:v.toNat≤60:=by omega
    rw [acP (k:=k+2) (by omega) g1 (by omega) (by omega) (by omega) (v:=v) (by omega) (by omega),ab]
    obtain ⟨s2,h3,h4,-,-,-⟩:=WY v.toNat 0 300 q s g1 m1 (by omega) h2'
    have hde:=WK v.toNat 0 300 q g1 m1
    rw [ts] at h3
    unfold GH
    rw [if_pos m1]
    dsimp only
    generalize (drB v.toNat 0 q).2.1=ev2 at h3 hde
    have n0:Ue t []=(Mk t,true):=rfl
    have e1:(Ue t ev).2=true:=by rw [Ue,h1]
    have e2:(Ue t (ev++ev2)).2=true:=by rw [Ue,nQ,h1,if_pos rfl,h3]
    have e3:decide (ev.length*24≤70368744177664)=true:=decide_eq_true (by omega)
    have e4:room (ev++ev2).length 24=true:=Aw (by rw [List.length_append];omega)
    rw [G7 (k+68) (by omega) t ht _ (by omega),ab,e1,ht2,Bool.and_self,cond_true,e3,cond_true,e4,cond_true,G7 (k+68) (by omega) t ht _ (by rw [List.length_append];omega),e2,ht2]
    rfl
theorem law_PlAcc (k:Nat) (hk:9223372036854779993<k) (c:CF) (hc:Xr c) (t:Tyt) (ht:Wt t) (roots:List (List Int)) (hR:Ll roots) (b:List Int) (hb:Wby b) (v:Int) (hv:i64 v) :
  xC k none 14 [.agg (mi c),KH t,.ro (roots.map cz),Vi .u8 b,.lit (.int .i64 v)]=some (.lit (.bool true),[]):=by
 obtain ⟨i,rfl⟩:∃ i,k=i+93:=⟨k - 93,by omega⟩
 have h:=NZ (k:=i) (by omega) c ht roots hR.len hb v
 obtain ⟨W,D,I,S⟩:=c
 rw [mi,KH]
 refine (mD i W D I S t roots b v).trans ?_
 rw [h]
 rfl
end Go.Ab
