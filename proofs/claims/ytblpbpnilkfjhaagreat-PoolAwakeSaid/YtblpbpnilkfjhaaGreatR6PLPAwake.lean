import Derived.Test.YtblpbpnilkfjhaaGreatR6PP
import Derived.Test.YtblpbpnilkfjhaaGreatR6GL4
set_option linter.unusedVariables false
set_option linter.unusedSimpArgs false
set_option linter.unusedVariables false
namespace Go.Ab
section
variable {k:Nat} (hk:9223372036854779900<k) (c:CF) {t:Tyt} (roots:List (List Int)) (l:List PK) (hl:Wp l) (hl5:l.length≤500)
include hk hl hl5
theorem I0:∀ (r:List PK) (q n:Nat) (p:PB),l.drop q=r→q≤l.length→r.length<n→Aw q p →
  aL k c t roots l n true (q:Int) p.1.1 p.1.2.1 p.1.2.2.1 p.1.2.2.2 p.2.1 p.2.2.1 p.2.2.2.1 p.2.2.2.2=some true:=by
 intro r
 induction r with
 | nil=>
  intro q n p hr hq hn ha
  obtain ⟨n,rfl⟩:=gE hn
  have:=dy hr
  rw [aL,ltF (by omega),cond_false,Bool.not_true,cond_false]
  simp only [Prod.eta]
  rw [Hs (by omega) ha.g.t.wt (fun x hx=>by have:=(ha.g.w x hx).s;omega) (fun x hx=>(ha.g.s x hx).s),ae,ha.m]
 | cons v r ih=>
  intro q n p hr hq hn ha
  obtain ⟨n,rfl⟩:=gE hn
  obtain ⟨h0,h1,h2,_,h4⟩:=cH hr
  simp only [List.length_cons] at hn
  have L:=H8 ha.m
  have hv:Wp [v]:=fun x hx=>by rw [List.mem_singleton.1 hx];exact hl v (List.mem_of_getElem? h1)
  have ha':=ha.step (by omega) v
  have hst:fy (k+16) p v=some (mh p [v]):=by
   rw [Ue,ahz (by omega) (by simp) hv ha.g (by omega) (by omega) (by omega) (by simp;omega)]
   unfold aeZ
   rw [if_pos ha.m]
  rw [aL,ltN h0,cond_true,cond_true,ga h1,ae]
  simp only [Prod.eta]
  rw [hst,ae,Pd (by omega) ha'.g.t.wt (fun x hx=>by have:=(ha'.g.w x hx).s;omega) (fun x hx=>(ha'.g.s x hx).s),ae,gg (by omega)]
  have fin:=ih (q+1) n _ h2 (by omega) (by omega) ha'
  cases hb:YM (mh p [v]).1 with
  | false=>rw [cond_false];exact fin
  | true=>
   obtain ⟨z,z1,z2⟩:=BH (k:=k+44) (by omega) ha' (by omega) hb
   rw [cond_true,z1,ae,ltF (by omega),cond_false]
   exact fin
theorem EU (ht:Wt t) (hR:roots.length≤9223372036854775807):bo k c t roots l=some true:=by
 unfold bo
 obtain ⟨b,hb,hfew⟩:=SF (k:=k+79) (by omega) hR
 try simp only [Prod.eta]
 rw [K6 (k+79) (by omega) t ht,ae,hb,ae]
 cases hf:YL t with
 | false=>rfl
 | true=>
  have hF:=acE hf
  rw [Bool.not_true,cond_false]
  cases b with
  | false=>rfl
  | true=>
   obtain ⟨hR10,hR60⟩:=hfew rfl
   rw [Bool.not_true,cond_false,ltF (by omega),cond_false]
   rcases aaq (k:=k+58) (by omega) c hF (roots:=roots) (fun x hx=>by have:=hR60 x hx;omega) with h | ⟨h,hc,ht2,h3,hr⟩
   ·rw [h,ae,aL]
    dsimp only
    by_cases h0:(0:Int)<(l.length:Int)
    ·rw [ltT h0]
     rfl
    ·rw [ltF (by omega)]
     rfl
   ·rw [h,ae]
    exact I0 hk c roots l hl hl5 l 0 (k+80) _ rfl (Nat.zero_le _) (by omega) (acp hF hR60 hc ht2 h3 hr)
end
theorem law_PAwake (k:Nat) (hk:9223372036854779990<k) (c:CF) (hc:Tx c) (t:Tyt) (ht:Wt t) (roots:List (List Int)) (hR:Ll roots) (l:List PK) (hl:Wpk l) :
  xC k none 4 [.agg (Lv c),Ic t,.ro (roots.map dG),.ro (l.map gf)]=some (.lit (.bool true),[]):=by
 obtain ⟨i,rfl⟩:∃ i,k=i+81:=⟨k - 81,by omega⟩
 have h:bo i c t roots l=some true:=by
  by_cases h5:l.length≤500
  ·exact EU (k:=i) (by omega) c roots l hl h5 ht hR.len
  ·unfold bo
   obtain ⟨b,hb,hfew⟩:=SF (k:=i+79) (by omega) hR.len
   rw [K6 (i+79) (by omega) t ht,ae,hb,ae,ltT (by omega),cond_true]
   cases YL t <;> cases b <;> rfl
 obtain ⟨W,D,I,S⟩:=c
 rw [Lv,Ic,kW,h]
 rfl
end Go.Ab
