import Derived.Test.YtblpbpnilkfjhaaGreatR6P0B
import Derived.Test.YtblpbpnilkfjhaaGreatR6GL11
set_option linter.unusedVariables false
set_option linter.unusedSimpArgs false
set_option linter.unusedVariables false
namespace Go.Ab
theorem SL {k:Nat} (hk:9223372036854775808≤k) {t:TK} (ht:Wt t) (hm:oF t=true):∃ w,fy k t=some ((t.length:Int),w):=by
 have hM:=Ba hm
 have key:∀ (r:TK) (i n:Nat) (s:Int),t.drop i=r→i≤t.length→r.length<n→∃ w,cP k t n s (i:Int)=some ((t.length:Int),w):=by
  intro r
  induction r with
  | nil=>
   intro i n s hr hi hn
   obtain ⟨n,rfl⟩:=ib hn
   have:=cV hr
   rw [cP,ltF (by omega),cond_false]
   exact ⟨_,rfl⟩
  | cons x r ih=>
   intro i n s hr hi hn
   obtain ⟨n,rfl⟩:=ib hn
   obtain ⟨a,b,d,_,e⟩:=b8 hr
   have:=hM.len
   rw [cP,ltN a,cond_true,fG b,ab,gH (by omega)]
   exact ih (i+1) n _ d (by omega) (by simp only [List.length_cons] at hn;omega)
 unfold fy
 rw [IP _ (by omega) t ht,ab,hm,Bool.not_true,cond_false]
 have:=hM.len
 exact key t 0 (k+19) 0 rfl (Nat.zero_le _) (by omega)
theorem Pt:∀ {L:List (List Int)},(∀ l ∈ L,l.length≤60)→L.flatten.length≤60*L.length
 | [],_=>Nat.le_refl _
 | l::L,h=>by
  have h1:=Pt (L:=L) fun x hx=>h x (List.mem_cons_of_mem _ hx)
  have h2:=h l (by simp)
  rw [List.flatten_cons,List.length_append,List.length_cons]
  omega
section
variable {k:Nat} (hk:9223372036854779900<k) (c:CF) {t:TK} (roots:List (List Int)) (b:List Int)
include hk
theorem ZV (evs:List EV) (p:PB) (N:Nat) (hN:N≤600) (hS:p.2.2.2.2.length≤3) {s r d a w:Int} (h1:eY (k+91) t evs=some (s,r,d)) (h2:fy (k+72) t=some (a,w)) (h3:∀ k',k+50≤k'→gT k' p=some (afW p.2.2.2.2:Int)) (hs:0≤s∧s≤9000) (hr:0≤r∧r≤9000) (hl:afW p.2.2.2.2≤9000) (hsum:s+r+(afW p.2.2.2.2:Int) - (abO p.2.2.2.2:Int)=N) (hd:0≤d∧d≤a):∀ (l:List SB) (q f h:Nat),p.2.2.2.2.drop q=l→q≤p.2.2.2.2.length→l.length<f→h≤q→h+dp (fun _ (x:SB)=>if x.1=3∨x.1=4 then 1 else 0) q l=abO p.2.2.2.2 →
  aJ k c t roots b f evs p.1.1 p.1.2.1 p.1.2.2.1 p.1.2.2.2 p.2.1 p.2.2.1 p.2.2.2.1 p.2.2.2.2 (N:Int) (h:Int) (q:Int)=some true:=by
 have _h:=hk
 intro l
 induction l with
 | nil=>
  intro q f h hl' hq hf hh he
  obtain ⟨f,rfl⟩:=ib hf
  have:=cV hl'
  have e:h=abO p.2.2.2.2:=by rw [← he];rfl
  rw [aJ,ltF (by omega),cond_false,h1,ab,h2,ab]
  simp only [Prod.eta]
  rw [h3 _ (by omega),ab,dN (z:=s+r) (by omega),dN (z:=s+r+_) (by omega),dN (by omega),nh,decide_eq_true (by omega),cond_true,decide_eq_true hd.2,cond_true,decide_eq_true hd.1]
 | cons v l ih=>
  intro q f h hl' hq hf hh he
  obtain ⟨f,rfl⟩:=ib hf
  obtain ⟨i0,i1,i2,_,i4⟩:=b8 hl'
  simp only [List.length_cons] at hf
  have hq1:IntKind.i64.wrap ((q:Int)+1)=((q+1:Nat):Int):=gH (by omega)
  have hh1:IntKind.i64.wrap ((h:Int)+1)=((h+1:Nat):Int):=gH (by omega)
  rw [dp] at he
  rw [aJ,ltN i0,cond_true,fG i1,ab,ab,hq1,hh1,nh,nh]
  by_cases e3:v.1=3
  ·rw [if_pos (.inl e3)] at he
   rw [decide_eq_true e3,cond_true]
   exact ih (q+1) f (h+1) i2 (by omega) (by omega) (by omega) (by omega)
  ·rw [decide_eq_false e3,cond_false]
   by_cases e4:v.1=4
   ·rw [if_pos (.inr e4)] at he
    rw [decide_eq_true e4,cond_true]
    exact ih (q+1) f (h+1) i2 (by omega) (by omega) (by omega) (by omega)
   ·rw [if_neg (by omega)] at he
    rw [decide_eq_false e4,cond_false]
    exact ih (q+1) f h i2 (by omega) (by omega) (by omega) (by omega)
theorem YU (hR:roots.length≤3) (hr:∀ l ∈ roots,l.length≤60) (evs:List EV) (a1 a2 a3 a4:Int) (t':TK) (m:List Int) (W:List WB) (S:List SB) (h:aJ k c t roots b (k+92) evs a1 a2 a3 a4 t' m W S (roots.flatten.length:Int) 0 0=some true):∀ (l:List (List Int)) (q f n:Nat),roots.drop q=l→q≤roots.length→l.length<f→n≤60*q→n+l.flatten.length=roots.flatten.length →
  aS k c t roots b f evs a1 a2 a3 a4 t' m W S (n:Int) (q:Int)=some true:=by
 have _h:=hk
 intro l
 induction l with
 | nil=>
  intro q f n hl hq hf hn he
  obtain ⟨f,rfl⟩:=ib hf
  have:=cV hl
  rw [aS,ltF (by omega),cond_false,show n=roots.flatten.length by rw [← he];rfl]
  exact h
 | cons v l ih=>
  intro q f n hl hq hf hn he
  obtain ⟨f,rfl⟩:=ib hf
  obtain ⟨i0,i1,i2,_,i4⟩:=b8 hl
  simp only [List.length_cons] at hf
  have hv:=hr v (List.mem_of_getElem? i1)
  have hq1:IntKind.i64.wrap ((q:Int)+1)=((q+1:Nat):Int):=gH (by omega)
  have hn1:IntKind.i64.wrap ((n:Int)+(v.length:Int))=((n+v.length:Nat):Int):=by
   rw [dN (by omega)]
   omega
  rw [List.flatten_cons,List.length_append] at he
  rw [aS,ltN i0,cond_true,fG i1,ab,hq1,hn1]
  exact ih (q+1) f (n+v.length) i2 (by omega) (by omega) (by omega) (by omega)
theorem Iy (ht:Wt t) (hR:roots.length≤9223372036854775807) (hb:Wby b):cW k c t roots b=some true:=by
 unfold cW
 obtain ⟨f,hf,hfew⟩:=afH (k:=k+91) (by omega) hR
 try simp only [Prod.eta]
 rw [Yt (k+91) (by omega) t ht,ab,hf,ab]
 cases hfb:aeu t with
 | false=>rfl
 | true=>
  have hF:=aeG hfb
  rw [Bool.not_true,cond_false]
  cases f with
  | false=>rfl
  | true=>
   obtain ⟨hR10,hR60⟩:=hfew rfl
   rw [Bool.not_true,cond_false]
   by_cases hb9:(900:Int)<b.length
   ·rw [ltT hb9,cond_true]
   rw [ltF (by omega),cond_false]
   rcases Xd (k:=k+28) (by omega) c hF hR60 hb (by omega) with h | ⟨h,hc,ht2,hr3,hr,hd⟩
   ·rw [h,ab]
    rfl
   ·have hdl:=HU b
    rw [h,ab,Bool.not_true,cond_false]
    have g0:=J9 (c:=c) hF hR60
    have m0:=QN hc ht2 hr3 (fun l hl y hy=>(hr l hl y hy).1)
    have s0:=Y9 hc ht2 hr hd
    have r0:=aeF c t roots
    have t0:(BO c t roots).2.1=t:=rfl
    generalize BO c t roots=p at g0 m0 s0 t0 r0
    have m1:=Zf (l:=nv b) m0
    have g1:=DI (l:=nv b) g0 m0
    obtain ⟨s,h1,h2⟩:=Hs (l:=nv b) g0 m0 (by omega) s0
    have hev:=IO (l:=nv b) (p:=p)
    have hrl:=Qo (l:=nv b) g0 m0
    have hdn:=Wz p.2.1 (lA p (nv b)).2 (Rh t) (by rw [h1])
    rw [h1,aex] at hdn
    have hsl:=(gF h2.b.fit).2
    have hdl2:dnN s≤s.length:=List.countP_le_length
    have ts:=(D3 (l:=nv b) (p:=p)).2.1
    rw [ts,t0] at hsl
    have hTl:eY (k+91) t (lA p (nv b)).2=some _:=YK (by omega) t (by omega)
    obtain ⟨w,hw⟩:=SL (k:=k+72) (by omega) ht ht2
    have L1:=r6 m1
    have hlp:=QR (t:=(lA p (nv b)).1.2.1) (S:=(lA p (nv b)).1.2.2.2.2) (nW m1).2.2.2.2
    have hfl:=Pt hR60
    have hgt:Wt (lA p (nv b)).1.2.1:=by rw [ts,t0];exact ht
    have hws:=fun x (hx:x ∈ (lA p (nv b)).1.2.2.2.1)=>(show x.2.1.length≤9000 by have:=(g1.w x hx).s;omega)
    have hss:=fun x (hx:x ∈ (lA p (nv b)).1.2.2.2.2)=>(g1.s x hx).s
    have hhl:abO (lA p (nv b)).1.2.2.2.2≤3:=by
     have:∀ (L:List SB) (n:Nat),dp (fun _ (x:SB)=>if x.1=3∨x.1=4 then 1 else 0) n L≤L.length:=by
      intro L
      induction L with
      | nil=>intro n;exact Nat.le_refl _
      | cons x L ih=>
       intro n
       rw [dp,List.length_cons]
       have:=ih (n+1)
       split <;> omega
     have:=this (lA p (nv b)).1.2.2.2.2 0
     unfold abO
     omega
    dsimp only at hdn
    refine YU hk c roots b hr3 hR60 _ _ _ _ _ _ _ _ _ ?_ roots 0 (k+92) 0 rfl (Nat.zero_le _) (by omega) (by decide) (Nat.zero_add _)
    exact ZV hk c roots b (lA p (nv b)).2 (lA p (nv b)).1 roots.flatten.length (by omega) L1.2.1 hTl hw (fun k' hk'=>acs (by omega) hgt m1 hws hss) (by omega) (by omega) (by omega) (by omega) (by omega) (lA p (nv b)).1.2.2.2.2 0 (k+92) 0 rfl (Nat.zero_le _) (by omega) (Nat.le_refl _) (Nat.zero_add _)
end
theorem law_PlLeft (k:Nat) (hk:9223372036854779993<k) (c:CF) (hc:Wd c) (t:Tyt) (ht:Wt t) (roots:List (List Int)) (hR:Ll roots) (b:List Int) (hb:Wby b) :
  xC k none 11 [.agg (Cb c),J3 t,.ro (roots.map cR),TJ .u8 b]=some (.lit (.bool true),[]):=by
 obtain ⟨i,rfl⟩:∃ i,k=i+93:=⟨k - 93,by omega⟩
 have h:=Iy (k:=i) (by omega) c roots b ht hR.len hb
 obtain ⟨W,D,I,S⟩:=c
 rw [Cb,J3]
 refine (mN i W D I S t roots b).trans ?_
 rw [h]
 rfl
end Go.Ab
