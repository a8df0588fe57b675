import Derived.Test.YtblpbpnilkfjhaaGreatR6PQ
import Derived.Test.YtblpbpnilkfjhaaGreatR6GL5
import Derived.Test.YtblpbpnilkfjhaaGreatR6PP
set_option linter.unusedVariables false
set_option linter.unusedSimpArgs false
set_option linter.unusedVariables false
namespace Go.Ab
section
variable {k:Nat} (hk:9223372036854779900≤k) (c:CF) {t:Tyt} (roots:List (List Int)) (l:List PK)
include hk
theorem X5 (m:List Int) (S:List SB) (hS:S.length≤3):∀ (r:List SB) (q f:Nat) (n:Int),S.drop q=r→q≤S.length→r.length<f → -5000≤n→n≤5000+q→n+(dJ (fun _ x=>pdB x) q r:Nat)=ah m 0→0≤ah m 0 →
  aJ k c t roots l f m S n (q:Int)=some true:=by
 have _h:=hk
 intro r
 induction r with
 | nil=>
  intro q f n hr hq hf hn1 hn2 hn h0
  obtain ⟨f,rfl⟩:=ib hf
  have:=dq hr
  have e:n=ah m 0:=by rw [← hn];simp [dJ]
  rw [aJ,ltF (by omega),cond_false,d9,ae,kK (by omega) (by omega),← e,lP,decide_eq_true rfl,cond_true,decide_eq_true (by omega)]
 | cons v r ih=>
  intro q f n hr hq hf hn1 hn2 hn h0
  obtain ⟨f,rfl⟩:=ib hf
  obtain ⟨g0,g1,g2,_,g4⟩:=ct hr
  simp only [List.length_cons] at hf
  have hq1:IntKind.i64.wrap ((q:Int)+1)=((q+1:Nat):Int):=gP (by omega)
  rw [dJ] at hn
  rw [aJ,ltN g0,cond_true,fZ g1,ae,ae,hq1,eo (by omega),lP,lP]
  unfold pdB at hn
  by_cases e2:v.1=2
  ·rw [if_pos (.inl e2)] at hn
   rw [decide_eq_true e2,cond_true]
   exact ih (q+1) f (n+1) g2 (by omega) (by omega) (by omega) (by omega) (by unfold pdB;omega) h0
  ·rw [decide_eq_false e2,cond_false]
   by_cases e5:v.1=5
   ·rw [if_pos (.inr e5)] at hn
    rw [decide_eq_true e5,cond_true]
    exact ih (q+1) f (n+1) g2 (by omega) (by omega) (by omega) (by omega) (by unfold pdB;omega) h0
   ·rw [if_neg (by omega)] at hn
    rw [decide_eq_false e5,cond_false]
    exact ih (q+1) f n g2 (by omega) (by omega) (by omega) (by omega) (by unfold pdB;omega) h0
theorem Za (m:List Int) (S:List SB) (hS:S.length≤3) (E:List EV) (hE:E.length≤2000) (h0:0≤ah m 0):∀ (r:List EV) (q f:Nat) (n:Int),E.drop q=r→q≤E.length→r.length<f → -(q:Int)≤n→n≤q→n+(r.map evD).sum+(pdS S:Nat)=ah m 0 →
  aw k c t roots l f E m S n (q:Int)=some true:=by
 intro r
 induction r with
 | nil=>
  intro q f n hr hq hf hn1 hn2 hn
  obtain ⟨f,rfl⟩:=ib hf
  have:=dq hr
  have e:n+(pdS S:Nat)=ah m 0:=by rw [← hn];simp
  rw [aw,ltF (by omega),cond_false]
  exact X5 hk c roots l m S hS S 0 (k+80) n rfl (Nat.zero_le _) (by omega) (by omega) (by omega) e h0
 | cons v r ih=>
  intro q f n hr hq hf hn1 hn2 hn
  obtain ⟨f,rfl⟩:=ib hf
  obtain ⟨g0,g1,g2,_,g4⟩:=ct hr
  simp only [List.length_cons] at hf
  have hq1:IntKind.i64.wrap ((q:Int)+1)=((q+1:Nat):Int):=gP (by omega)
  rw [List.map_cons,List.sum_cons] at hn
  rw [aw,ltN g0,cond_true,fZ g1]
  simp only [ae]
  rw [hq1,eo (z:=n+1) (by omega),eo (z:=n+1 - 1) (by omega),eo (z:=n - 1) (by omega),lP,lP,lP]
  unfold evD at hn
  by_cases e0:v.1=0
  ·rw [if_pos (.inl e0)] at hn
   rw [decide_eq_true e0,cond_true,decide_eq_false (show ¬ v.1=4 by omega),cond_false]
   exact ih (q+1) f (n+1) g2 (by omega) (by omega) (by omega) (by omega) (by unfold evD;omega)
  ·rw [decide_eq_false e0,cond_false]
   by_cases e3:v.1=3
   ·rw [if_pos (.inr e3)] at hn
    rw [decide_eq_true e3,cond_true,decide_eq_false (show ¬ v.1=4 by omega),cond_false]
    exact ih (q+1) f (n+1) g2 (by omega) (by omega) (by omega) (by omega) (by unfold evD;omega)
   ·rw [if_neg (by omega)] at hn
    rw [decide_eq_false e3,cond_false]
    by_cases e4:v.1=4
    ·rw [if_pos e4] at hn
     rw [decide_eq_true e4,cond_true]
     exact ih (q+1) f (n - 1) g2 (by omega) (by omega) (by omega) (by omega) (by unfold evD;omega)
    ·rw [if_neg e4] at hn
     rw [decide_eq_false e4,cond_false]
     exact ih (q+1) f n g2 (by omega) (by omega) (by omega) (by omega) (by unfold evD;omega)
theorem Cy (ht:Wt t) (hR:roots.length≤9223372036854775807) (hl:Wp l):bU k c t roots l=some true:=by
 unfold bU
 obtain ⟨b,hb,hfew⟩:=aaz (k:=k+79) (by omega) hR
 simp only [Prod.eta]
 rw [VS (k+79) (by omega) t ht,ae,hb,ae]
 cases hf:aao t with
 | false=>rfl
 | true=>
  have hF:=Yl hf
  rw [Bool.not_true,cond_false]
  cases b with
  | false=>rfl
  | true=>
   obtain ⟨hR10,hR60⟩:=hfew rfl
   rw [Bool.not_true,cond_false]
   by_cases hl5:(500:Int)<l.length
   ·rw [ltT hl5,cond_true]
   rw [ltF (by omega),cond_false]
   rcases TH (k:=k+58) (by omega) c hF (roots:=roots) (fun x hx=>by have:=hR60 x hx;omega) with h | ⟨h,hc,ht2,h3,hr,hd⟩
   ·rw [h]
    rfl
   ·rw [h,ae]
    have g0:=PR (c:=c) hF hR60
    have m0:=Uy hc ht2 h3 (fun l hl y hy=>(hr l hl y hy).1)
    have s0:=SY hc ht2 hr hd
    have t0:(Gi c t roots).2.1=t:=rfl
    generalize Gi c t roots=p at g0 m0 s0 t0
    have L0:=Co m0
    have r1:fD (k+17) p l=some (rN p l):=by
     rw [aeN (by omega) (by omega) hl g0 (by omega) (by omega) (by omega) (by omega)]
     unfold adV
     rw [if_pos m0]
    have m1:=V9 (l:=l) m0
    obtain ⟨s,h1,h2⟩:=Gq (l:=l) g0 m0 (by omega) s0
    have hev:=GP (l:=l) (p:=p)
    have hb:=H3 p.2.1 (rN p l).2 (Re t) (by rw [h1])
    rw [h1,G9] at hb
    rw [r1,ae,Bool.not_true,cond_false]
    have L1:=Co m1
    have hp:=h2.pend
    have hbl:=FF s
    dsimp only at hb
    exact Za hk c roots l (rN p l).1.2.2.1 (rN p l).1.2.2.2.2 L1.2.1 (rN p l).2 (by omega) (by omega) (rN p l).2 0 (k+80) 0 rfl (Nat.zero_le _) (by omega) (by decide) (by decide) (by omega)
end
theorem law_PPending (k:Nat) (hk:9223372036854779990<k) (c:CF) (hc:Sj c) (t:Tyt) (ht:Wt t) (roots:List (List Int)) (hR:Ll roots) (l:List PK) (hl:Wpk l) :
  xC k none 5 [.agg (PC c),H7 t,.ro (roots.map fQ),.ro (l.map ga)]=some (.lit (.bool true),[]):=by
 obtain ⟨i,rfl⟩:∃ i,k=i+81:=⟨k - 81,by omega⟩
 have h:=Cy (k:=i) (by omega) c roots l ht hR.len hl
 obtain ⟨W,D,I,S⟩:=c
 rw [PC,H7,ki,h]
 rfl
end Go.Ab
