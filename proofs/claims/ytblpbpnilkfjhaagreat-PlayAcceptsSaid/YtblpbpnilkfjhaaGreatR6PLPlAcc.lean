import Derived.Test.YtblpbpnilkfjhaaGreatR6P0B
import Derived.Test.YtblpbpnilkfjhaaGreatR6GL14
set_option linter.unusedVariables false
set_option linter.unusedSimpArgs false
set_option linter.unusedVariables false
namespace Go.Ab
theorem WF:∀ (d i n:Nat) (p:PB),Good n p→fx p=true→(drB d i p).2.1.length≤22*d
 | 0,i,n,p,hg,hm=>Nat.le_refl _
 | d+1,i,n,p,hg,hm=>by
  rw [drB]
  split
  ·exact Nat.zero_le _
  ·have hl:=My hm i
   have e1:=BD (l:=f8 p.1.1.toNat p.2.2.2.2.length (i:Int)) (p:=p)
   have:=WF d (i+1) _ _ (pG (l:=f8 p.1.1.toNat p.2.2.2.2.length (i:Int)) hg hm) (EJ hm)
   dsimp only
   rw [List.length_append]
   omega
theorem OD {k:Nat} (hk:9223372036854779900<k) (c:CF) {t:Tyt} (ht:Wt t) (roots:List (List Int)) (hR:roots.length≤9223372036854775807) {b:List Int} (hb:Wby b) (v:Int) :
  cB k c t roots b v=some true:=by
 unfold cB
 obtain ⟨f,hf,hfew⟩:=aeJ (k:=k+91) (by omega) hR
 try simp only [Prod.eta]
 rw [aa4 (k+91) (by omega) t ht,ab,hf,ab]
 cases hfb:adW t with
 | false=>rfl
 | true=>
  have hF:=adq hfb
  rw [Bool.not_true,cond_false]
  cases f with
  | false=>rfl
  | true=>
   obtain ⟨hR10,hR60⟩:=hfew rfl
   rw [Bool.not_true,cond_false]
   by_cases hb9:(900:Int)<b.length
   ·rw [ltT hb9,cond_true]
   rw [ltF (by omega),cond_false]
   by_cases hv6:(60:Int)<v
   ·rw [ltT hv6,cond_true]
   rw [ltF (by omega),cond_false]
   rcases abm (k:=k+28) (by omega) c hF hR60 hb (by omega) with h | ⟨h,hc,ht2,hr3,hr,hd⟩
   ·rw [h,ab]
    rfl
   ·have hdl:=JD b
    rw [h,ab,Bool.not_true,cond_false]
    have g0:=Mi (c:=c) hF hR60
    have m0:=P4 hc ht2 hr3 (fun l hl y hy=>(hr l hl y hy).1)
    have s0:=Zi hc ht2 hr hd
    have t0:(Fh c t roots).2.1=t:=rfl
    generalize Fh c t roots=p at g0 m0 s0 t0
    have m1:=EJ (l:=Ap b) m0
    have g1:=(pG (l:=Ap b) g0 m0).mono (m:=300) (by omega)
    obtain ⟨s,h1,h2⟩:=EM (l:=Ap b) g0 m0 (by omega) s0
    have hev:=BD (l:=Ap b) (p:=p)
    have ts:=(u6 (l:=Ap b) (p:=p)).2.1
    rw [t0] at h1 ts
    dsimp only
    generalize (oY p (Ap b)).2=ev at h1 hev
    generalize (oY p (Ap b)).1=q at m1 g1 h2 ts
    have L1:=pW m1
    have h2':MstP 300 q s:=by
     obtain ⟨a,b',c',d'⟩:=h2
     exact ⟨a.mono (by omega),b',c',d'⟩
    have hvn:v.toNat≤60:=by omega
    rw [abg (k:=k+2) (by omega) g1 (by omega) (by omega) (by omega) (v:=v) (by omega) (by omega),ab]
    obtain ⟨s2,h3,h4,-,-,-⟩:=Xx v.toNat 0 300 q s g1 m1 (by omega) h2'
    have hde:=WF v.toNat 0 300 q g1 m1
    rw [ts] at h3
    unfold Gv
    rw [if_pos m1]
    dsimp only
    generalize (drB v.toNat 0 q).2.1=ev2 at h3 hde
    have n0:VZ t []=(KO t,true):=rfl
    have e1:(VZ t ev).2=true:=by rw [VZ,h1]
    have e2:(VZ t (ev++ev2)).2=true:=by rw [VZ,nX,h1,if_pos rfl,h3]
    have e3:decide (ev.length*24≤70368744177664)=true:=decide_eq_true (by omega)
    have e4:room (ev++ev2).length 24=true:=As (by rw [List.length_append];omega)
    rw [Gt (k+68) (by omega) t ht _ (by omega),ab,e1,ht2,Bool.and_self,cond_true,e3,cond_true,e4,cond_true,Gt (k+68) (by omega) t ht _ (by rw [List.length_append];omega),e2,ht2]
    rfl
theorem law_PlAcc (k:Nat) (hk:9223372036854779993<k) (c:CF) (hc:Xc c) (t:Tyt) (ht:Wt t) (roots:List (List Int)) (hR:Ll roots) (b:List Int) (hb:Wby b) (v:Int) (hv:i64 v) :
  xC k none 14 [.agg (mi c),K6 t,.ro (roots.map cz),U9 .u8 b,.lit (.int .i64 v)]=some (.lit (.bool true),[]):=by
 obtain ⟨i,rfl⟩:∃ i,k=i+93:=⟨k - 93,by omega⟩
 have h:=OD (k:=i) (by omega) c ht roots hR.len hb v
 obtain ⟨W,D,I,S⟩:=c
 rw [mi,K6]
 refine (mG i W D I S t roots b v).trans ?_
 rw [h]
 rfl
end Go.Ab
