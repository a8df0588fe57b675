import Derived.Test.YtblpbpnilkfjhaaGreatR6P0B
import Derived.Test.YtblpbpnilkfjhaaGreatR6GL11
set_option linter.unusedVariables false
set_option linter.unusedSimpArgs false
set_option linter.unusedVariables false
namespace Go.Ab
theorem TM {k:Nat} (hk:9223372036854775808≤k) {t:TK} (ht:Wt t) (hm:oq t=true):∃ w,fy k t=some ((t.length:Int),w):=by
 have hM:=AO hm
 have key:∀ (r:TK) (i n:Nat) (s:Int),t.drop i=r→i≤t.length→r.length<n→∃ w,cO k t n s (i:Int)=some ((t.length:Int),w):=by
  intro r
  induction r with
  | nil=>
   intro i n s hr hi hn
   obtain ⟨n,rfl⟩:=gS hn
   have:=cV hr
   rw [cO,ltF (by omega),cond_false]
   exact ⟨_,rfl⟩
  | cons x r ih=>
   intro i n s hr hi hn
   obtain ⟨n,rfl⟩:=gS hn
   obtain ⟨a,b,d,_,e⟩:=bW hr
   have:=hM.len
   rw [cO,ltN a,cond_true,fJ b,ab,gr (by omega)]
   exact ih (i+1) n _ d (by omega) (by simp only [List.length_cons] at hn;omega)
 unfold fy
 rw [Ii _ (by omega) t ht,ab,hm,Bool.not_true,cond_false]
 have:=hM.len
 exact key t 0 (k+19) 0 rfl (Nat.zero_le _) (by omega)
theorem P9:∀ {L:List (List Int)},(∀ l ∈ L,l.length≤60)→L.flatten.length≤60*L.length
 | [],_=>Nat.le_refl _
 | l::L,h=>by
  have h1:=P9 (L:=L) fun x hx=>h x (List.mem_cons_of_mem _ hx)
  have h2:=h l (by simp)
  rw [List.flatten_cons,List.length_append,List.length_cons]
  omega
section
variable {k:Nat} (hk:9223372036854779900<k) (c:CF) {t:TK} (roots:List (List Int)) (b:List Int)
include hk
theorem ZC (evs:List EV) (p:PB) (N:Nat) (hN:N≤600) (hS:p.2.2.2.2.length≤3) {s r d a w:Int} (h1:fj (k+91) t evs=some (s,r,d)) (h2:fy (k+72) t=some (a,w)) (h3:∀ k',k+50≤k'→gO k' p=some (adB p.2.2.2.2:Int)) (hs:0≤s∧s≤9000) (hr:0≤r∧r≤9000) (hl:adB p.2.2.2.2≤9000) (hsum:s+r+(adB p.2.2.2.2:Int) - (abN p.2.2.2.2:Int)=N) (hd:0≤d∧d≤a):∀ (l:List SB) (q f h:Nat),p.2.2.2.2.drop q=l→q≤p.2.2.2.2.length→l.length<f→h≤q→h+dp (fun _ (x:SB)=>if x.1=3∨x.1=4 then 1 else 0) q l=abN p.2.2.2.2 →
  aJ k c t roots b f evs p.1.1 p.1.2.1 p.1.2.2.1 p.1.2.2.2 p.2.1 p.2.2.1 p.2.2.2.1 p.2.2.2.2 (N:Int) (h:Int) (q:Int)=some true:=by
 have _h:=hk
 intro l
 induction l with
 | nil=>
  intro q f h hl' hq hf hh he
  obtain ⟨f,rfl⟩:=gS hf
  have:=cV hl'
  have e:h=abN p.2.2.2.2:=by rw [← he];rfl
  rw [aJ,ltF (by omega),cond_false,h1,ab,h2,ab]
  simp only [Prod.eta]
  rw [h3 _ (by omega),ab,dM (z:=s+r) (by omega),dM (z:=s+r+_) (by omega),dM (by omega),ni,decide_eq_true (by omega),cond_true,decide_eq_true hd.2,cond_true,decide_eq_true hd.1]
 | cons v l ih=>
  intro q f h hl' hq hf hh he
  obtain ⟨f,rfl⟩:=gS hf
  obtain ⟨i0,i1,i2,_,i4⟩:=bW hl'
  simp only [List.length_cons] at hf
  have hq1:IntKind.i64.wrap ((q:Int)+1)=((q+1:Nat):Int):=gr (by omega)
  have hh1:IntKind.i64.wrap ((h:Int)+1)=((h+1:Nat):Int):=gr (by omega)
  rw [dp] at he
  rw [aJ,ltN i0,cond_true,fJ i1,ab,ab,hq1,hh1,ni,ni]
  by_cases e3:v.1=3
  ·rw [if_pos (.inl e3)] at he
   rw [decide_eq_true e3,cond_true]
   exact ih (q+1) f (h+1) i2 (by omega) (by omega) (by omega) (by omega)
  ·rw [decide_eq_false e3,cond_false]
   by_cases e4:v.1=4
   ·rw [if_pos (.inr e4)] at he
    rw [decide_eq_true e4,cond_true]
    exact ih (q+1) f (h+1) i2 (by omega) (by omega) (by omega) (by omega)
   ·rw [if_neg (by omega)] at he
    rw [decide_eq_false e4,cond_false]
    exact ih (q+1) f h i2 (by omega) (by omega) (by omega) (by omega)
theorem Yy (hR:roots.length≤3) (hr:∀ l ∈ roots,l.length≤60) (evs:List EV) (a1 a2 a3 a4:Int) (t':TK) (m:List Int) (W:List WB) (S:List SB) (h:aJ k c t roots b (k+92) evs a1 a2 a3 a4 t' m W S (roots.flatten.length:Int) 0 0=some true):∀ (l:List (List Int)) (q f n:Nat),roots.drop q=l→q≤roots.length→l.length<f→n≤60*q→n+l.flatten.length=roots.flatten.length →
  aT k c t roots b f evs a1 a2 a3 a4 t' m W S (n:Int) (q:Int)=some true:=by
 have _h:=hk
 intro l
 induction l with
 | nil=>
  intro q f n hl hq hf hn he
  obtain ⟨f,rfl⟩:=gS hf
  have:=cV hl
  rw [aT,ltF (by omega),cond_false,show n=roots.flatten.length by rw [← he];rfl]
  exact h
 | cons v l ih=>
  intro q f n hl hq hf hn he
  obtain ⟨f,rfl⟩:=gS hf
  obtain ⟨i0,i1,i2,_,i4⟩:=bW hl
  simp only [List.length_cons] at hf
  have hv:=hr v (List.mem_of_getElem? i1)
  have hq1:IntKind.i64.wrap ((q:Int)+1)=((q+1:Nat):Int):=gr (by omega)
  have hn1:IntKind.i64.wrap ((n:Int)+(v.length:Int))=((n+v.length:Nat):Int):=by
   rw [dM (by omega)]
   omega
  rw [List.flatten_cons,List.length_append] at he
  rw [aT,ltN i0,cond_true,fJ i1,ab,hq1,hn1]
  exact ih (q+1) f (n+v.length) i2 (by omega) (by omega) (by omega) (by omega)
theorem Jp (ht:Wt t) (hR:roots.length≤9223372036854775807) (hb:Wby b):cW k c t roots b=some true:=by
 unfold cW
 obtain ⟨f,hf,hfew⟩:=abS (k:=k+91) (by omega) hR
 try simp only [Prod.eta]
 rw [aac (k+91) (by omega) t ht,ab,hf,ab]
 cases hfb:adG t with
 | false=>rfl
 | true=>
  have hF:=adi hfb
  rw [Bool.not_true,cond_false]
  cases f with
  | false=>rfl
  | true=>
   obtain ⟨hR10,hR60⟩:=hfew rfl
   rw [Bool.not_true,cond_false]
   by_cases hb9:(900:Int)<b.length
   ·rw [ltT hb9,cond_true]
   rw [ltF (by omega),cond_false]
   rcases YO (k:=k+28) (by omega) c hF hR60 hb (by omega) with h | ⟨h,hc,ht2,hr3,hr,hd⟩
   ·rw [h,ab]
    rfl
   ·have hdl:=IC b
    rw [h,ab,Bool.not_true,cond_false]
    have g0:=KO (c:=c) hF hR60
    have m0:=ON hc ht2 hr3 (fun l hl y hy=>(hr l hl y hy).1)
    have s0:=Xb hc ht2 hr hd
    have r0:=aev c t roots
    have t0:(B2 c t roots).2.1=t:=rfl
    generalize B2 c t roots=p at g0 m0 s0 t0 r0
    have m1:=aaE (l:=nv b) m0
    have g1:=EN (l:=nv b) g0 m0
    obtain ⟨s,h1,h2⟩:=Ia (l:=nv b) g0 m0 (by omega) s0
    have hev:=Jr (l:=nv b) (p:=p)
    have hrl:=O8 (l:=nv b) g0 m0
    have hdn:=Wa p.2.1 (lz p (nv b)).2 (Rf t) (by rw [h1])
    rw [h1,acW] at hdn
    have hsl:=(gH h2.b.fit).2
    have hdl2:dnN s≤s.length:=List.countP_le_length
    have ts:=(DK (l:=nv b) (p:=p)).2.1
    rw [ts,t0] at hsl
    have hTl:fj (k+91) t (lz p (nv b)).2=some _:=aa2 (by omega) t (by omega)
    obtain ⟨w,hw⟩:=TM (k:=k+72) (by omega) ht ht2
    have L1:=pZ m1
    have hlp:=NX (t:=(lz p (nv b)).1.2.1) (S:=(lz p (nv b)).1.2.2.2.2) (nU m1).2.2.2.2
    have hfl:=P9 hR60
    have hgt:Wt (lz p (nv b)).1.2.1:=by rw [ts,t0];exact ht
    have hws:=fun x (hx:x ∈ (lz p (nv b)).1.2.2.2.1)=>(show x.2.1.length≤9000 by have:=(g1.w x hx).s;omega)
    have hss:=fun x (hx:x ∈ (lz p (nv b)).1.2.2.2.2)=>(g1.s x hx).s
    have hhl:abN (lz p (nv b)).1.2.2.2.2≤3:=by
     have:∀ (L:List SB) (n:Nat),dp (fun _ (x:SB)=>if x.1=3∨x.1=4 then 1 else 0) n L≤L.length:=by
      intro L
      induction L with
      | nil=>intro n;exact Nat.le_refl _
      | cons x L ih=>
       intro n
       rw [dp,List.length_cons]
       have:=ih (n+1)
       split <;> omega
     have:=this (lz p (nv b)).1.2.2.2.2 0
     unfold abN
     omega
    dsimp only at hdn
    refine Yy hk c roots b hr3 hR60 _ _ _ _ _ _ _ _ _ ?_ roots 0 (k+92) 0 rfl (Nat.zero_le _) (by omega) (by decide) (Nat.zero_add _)
    exact ZC hk c roots b (lz p (nv b)).2 (lz p (nv b)).1 roots.flatten.length (by omega) L1.2.1 hTl hw (fun k' hk'=>acL (by omega) hgt m1 hws hss) (by omega) (by omega) (by omega) (by omega) (by omega) (lz p (nv b)).1.2.2.2.2 0 (k+92) 0 rfl (Nat.zero_le _) (by omega) (Nat.le_refl _) (Nat.zero_add _)
end
theorem law_PlLeft (k:Nat) (hk:9223372036854779993<k) (c:CF) (hc:Wx c) (t:Tyt) (ht:Wt t) (roots:List (List Int)) (hR:Ll roots) (b:List Int) (hb:Wby b) :
  xC k none 11 [.agg (BV c),Lg t,.ro (roots.map cR),Sl .u8 b]=some (.lit (.bool true),[]):=by
 obtain ⟨i,rfl⟩:∃ i,k=i+93:=⟨k - 93,by omega⟩
 have h:=Jp (k:=i) (by omega) c roots b ht hR.len hb
 obtain ⟨W,D,I,S⟩:=c
 rw [BV,Lg]
 refine (mO i W D I S t roots b).trans ?_
 rw [h]
 rfl
end Go.Ab
