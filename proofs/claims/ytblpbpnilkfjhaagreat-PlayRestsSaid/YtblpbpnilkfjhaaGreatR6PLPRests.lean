import Derived.Test.YtblpbpnilkfjhaaGreatR6PP
import Derived.Test.YtblpbpnilkfjhaaGreatR6GZ
import Derived.Test.YtblpbpnilkfjhaaGreatR6GL12
set_option linter.unusedVariables false
set_option linter.unusedSimpArgs false
set_option linter.unusedVariables false
namespace Go.Ab
theorem L0:∀ (d i n:Nat) (p:PB),Good n p→eI p=true→Good (n+11*d) (drB d i p).1∧eI (drB d i p).1=true
 | 0,i,n,p,hg,hm=>⟨hg,hm⟩
 | d+1,i,n,p,hg,hm=>by
  have L:=kW hm
  have hb:=Hx hm
  rw [drB]
  split
  ·exact ⟨hg.mono (Nat.le_add_right _ _),hm⟩
  ·have hl:=D8 p.1.1.toNat p.2.2.2.2.length (i:Int)
   have g1:=(m9 (l:=iH p.1.1.toNat p.2.2.2.2.length (i:Int)) hg hm).mono (m:=n+11) (by omega)
   have:=L0 d (i+1) (n+11) _ g1 (FH hm)
   exact ⟨this.1.mono (by omega),this.2⟩
theorem VU {k:Nat} (hk:9223372036854779000≤k) {p:PB} (ht:Wt p.2.1) (hw:∀ x ∈ p.2.2.2.1,x.2.1.length≤9000) (hR:Rest p):kw k p=some 0:=by
 have L:=kW hR.may
 unfold kw
 have key:∀ (r:List SB) (q n:Nat),p.2.2.2.2.drop q=r→r.length<n→dF k p n 0 (q:Int)=some 0:=by
  intro r
  induction r with
  | nil=>
   intro q n hr hn
   obtain ⟨n,rfl⟩:=fF hn
   have:=cC hr
   rw [dF,ltF (by omega),cond_false]
   simp only [Prod.eta]
   rw [Dt hk ht hw (fun x hx=>by rw [(hR.idle x hx).2];simp),af,hR.may]
   rfl
  | cons v r ih=>
   intro q n hr hn
   obtain ⟨n,rfl⟩:=fF hn
   obtain ⟨h0,h1,h2,_,h4⟩:=bO hr
   have hv:=(hR.idle v (List.mem_of_getElem? h1)).2
   have hz:IntKind.i64.wrap (0+(v.2.1.length:Int))=0:=by rw [hv];rfl
   rw [dF,ltN h0,cond_true,dS h1,af,hz,eQ (by omega)]
   exact ih (q+1) n h2 (by simp only [List.length_cons] at hn;omega)
 exact key p.2.2.2.2 0 (k+35) rfl (by omega)
theorem Gj {k:Nat} (hk:9223372036854779900<k) (c:CF) {t:Tyt} (ht:Wt t) (roots:List (List Int)) (hR:roots.length≤9223372036854775807) {b:List Int} (hb:Wby b) (l:List PK) (hl:Wp l) :
  cM k c t roots b l=some true:=by
 unfold cM
 obtain ⟨f,hf,hfew⟩:=aax (k:=k+91) (by omega) hR
 simp only [Prod.eta]
 rw [WU (k+91) (by omega) t ht,af,hf,af]
 cases hfb:aaM t with
 | false=>rfl
 | true=>
  have hF:=aag hfb
  rw [Bool.not_true,cond_false]
  cases f with
  | false=>rfl
  | true=>
   obtain ⟨hR10,hR60⟩:=hfew rfl
   rw [Bool.not_true,cond_false]
   by_cases hb9:(900:Int)<b.length
   ·rw [ltT hb9,cond_true]
   rw [ltF (by omega),cond_false]
   by_cases hl6:(60:Int)<l.length
   ·rw [ltT hl6,cond_true]
   rw [ltF (by omega),cond_false]
   rcases adf (k:=k+28) (by omega) c hF hR60 hb (by omega) with h | ⟨h,hc,ht2,hr3,hr⟩
   ·rw [h,af]
    dsimp only
    rw [Hl (k:=k+2) (by omega) ML (by simp [rq]) (by simp [rq]) (by simp [rq]) (v:=300) (by omega) (by omega),af]
    rfl
   ·have g0:=Ho (c:=c) hF hR60
    have m0:=Ni hc ht2 hr3 hr
    have hd:=GN b
    have g1:=(m9 (l:=AG b) g0 m0).mono (m:=300) (by omega)
    have m1:=FH (l:=AG b) m0
    rw [h,af]
    dsimp only
    generalize (mB (Ka c t roots) (AG b)).1=p at g1 m1
    have L1:=kW m1
    rw [Hl (k:=k+2) (by omega) g1 (by omega) (by omega) (by omega) (v:=300) (by omega) (by omega),af,Bool.not_true,cond_false]
    dsimp only
    have hq:Good 3600 (nu p (300:Int).toNat).1∧eI (nu p (300:Int).toNat).1=true:=by
     unfold nu
     rw [if_pos m1]
     obtain ⟨a,b'⟩:=L0 300 0 300 p g1 m1
     exact ⟨a,b'⟩
    generalize (nu p (300:Int).toNat).1=q at hq
    obtain ⟨g2,m2⟩:=hq
    have L2:=kW m2
    have hw2:∀ x ∈ q.2.2.2.1,x.2.1.length≤9000:=fun x hx=>by have:=(g2.w x hx).s;omega
    have hs2:∀ x ∈ q.2.2.2.2,x.2.1.length≤1000:=fun x hx=>(g2.s x hx).s
    rw [BG (k:=k+55) (by omega) g2.t.wt hw2 hs2,af]
    cases hrb:Aq q with
    | false=>rfl
    | true=>
     have hRq:=Iq.1 hrb
     obtain ⟨hR2,he⟩:=Cy (l:=l) hRq
     have g3:=(m9 (l:=l) g2 m2).mono (m:=3700) (by omega)
     have hrun:fo (k+29) q l=some ((mB q l).1,[]):=by
      rw [U5 (k:=k+29) (by omega) (by omega) hl g2 (by omega) (by omega) (by omega) (by omega)]
      unfold adY
      rw [if_pos m2,← he]
     rw [Bool.not_true,cond_false,hrun,af]
     dsimp only
     have g2':=Hl (k:=k+2) (by omega) (p:=q) g2 (by omega) (by omega) (by omega) (v:=300) (by omega) (by omega)
     rw [Kr hrb] at g2'
     rw [g2',af]
     dsimp only
     rw [show (((([]:List EV).length:Nat):Int)==0)=true from rfl,cond_true,BG (k:=k+55) (by omega) g3.t.wt (fun x hx=>by have:=(g3.w x hx).s;omega) (fun x hx=>(g3.s x hx).s),af,Iq.2 hR2,cond_true,cond_true]
     rw [show (((0:Nat):Int)==0)=true from rfl,cond_true,Ym (k:=k+81) (by omega) g2.t (by omega) (by omega) hw2 (by omega) hs2,af,cond_true,VU (k:=k+56) (by omega) g2.t.wt hw2 hRq,af]
     rfl
theorem law_PRests (k:Nat) (hk:9223372036854779993<k) (c:CF) (hc:Uo c) (t:Tyt) (ht:Wt t) (roots:List (List Int)) (hR:Ll roots) (b:List Int) (hb:Wby b) (l:List PK) (hl:Wpk l) :
  xC k none 12 [.agg (MZ c),HH t,.ro (roots.map eo),Pw .u8 b,.ro (l.map eP)]=some (.lit (.bool true),[]):=by
 obtain ⟨i,rfl⟩:∃ i,k=i+93:=⟨k - 93,by omega⟩
 have h:=Gj (k:=i) (by omega) c ht roots hR.len hb l hl
 obtain ⟨W,D,I,S⟩:=c
 rw [MZ,HH]
 refine (lQ i W D I S t roots b l).trans ?_
 rw [h]
 rfl
end Go.Ab
