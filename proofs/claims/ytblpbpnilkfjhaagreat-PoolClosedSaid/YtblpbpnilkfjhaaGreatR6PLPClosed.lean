import Derived.Test.YtblpbpnilkfjhaaGreatR6PP
import Derived.Test.YtblpbpnilkfjhaaGreatR6GL6
set_option linter.unusedVariables false
set_option linter.unusedSimpArgs false
set_option linter.unusedVariables false
namespace Go.Ab
def u3:List EV→Nat
 | []=>0
 | e::l=>(if e.1=0 then 1 else 0)+u3 l
theorem HN:∀ (a b:List EV),u3 (a++b)=u3 a+u3 b
 | [],b=>by rw [List.nil_append,u3,Nat.zero_add]
 | e::a,b=>by rw [List.cons_append,u3,u3,HN a b,Nat.add_assoc]
def crd (x:SB):Nat:=if x.1=1∨x.1=2 then 1 else 0
def GE (l:List SB):Nat:=(l.map crd).sum
def AU:List SB→Nat
 | []=>0
 | x::l=>(if x.1=0 then 0 else 1)+AU l
theorem EJ:∀ l:List SB,GE l≤AU l
 | []=>Nat.le_refl _
 | x::l=>by
  have:=EJ l
  unfold GE at this ⊢
  rw [List.map_cons,List.sum_cons,AU]
  have h:crd x≤if x.1=0 then 0 else 1:=by
   unfold crd
   split <;> split <;> omega
  omega
theorem I0:∀ {l:List SB} {i:Nat} {x y:SB},l[i]? = some x→GE (l.set i y)+crd x=GE l+crd y
 | [],_,_,_,h=>by cases h
 | a::l,0,x,y,h=>by
  cases h
  unfold GE
  simp only [List.set_cons_zero,List.map_cons,List.sum_cons]
  omega
 | a::l,i+1,x,y,h=>by
  have:=I0 (l:=l) (i:=i) (x:=x) (y:=y) (by simpa using h)
  unfold GE at this ⊢
  simp only [List.set_cons_succ,List.map_cons,List.sum_cons]
  omega
section
variable {c:CF} {t:List (Int×List Int)} {m:List Int}
theorem MD {w:Int} {x:WB} {d:Int}:u3 (bB c t m w x d).2.2=0:=by
 refine f4 (P:=fun r=>u3 r.2.2=0) (fun _=>rfl) ?_ ?_ ?_ ?_ ?_ ?_ ?_ ?_ ?_ ?_ ?_ ?_ ?_ ?_ ?_
 all_goals intro _ _
 all_goals dsimp only [GF,oC,mn,gW,nO,kz,dF,ft,GJ,np,ne,nt,Ec,nz,nD]
 all_goals repeat' split
 all_goals rfl
theorem R9 {w:Int} {x:WB} {d:Int} (hf:Wf x.2.2.1):aB (bB c t m w x d).1 3=aB m 3:=by
 have hk:=F4 (c:=c) (m:=m) (f:=x.2.2.1) (j:=3) (by decide) hf
 have h0:∀ v,aB (aW m 0 v) 3=aB m 3:=fun v=>ks (by decide)
 have h1:∀ v,aB (aW m 1 v) 3=aB m 3:=fun v=>ks (by decide)
 refine f4 (P:=fun r=>aB r.1 3=aB m 3) (fun _=>rfl) ?_ ?_ ?_ ?_ ?_ ?_ ?_ ?_ ?_ ?_ ?_ ?_ ?_ ?_ ?_
 all_goals intro _ _
 all_goals dsimp only [GF,oC,mn,gW,nO,kz,dF,ft,GJ,np,ne,nt,Ec,nz,nD]
 all_goals repeat' split
 all_goals first | rfl | exact hk | exact h0 _ | exact h1 _
theorem Mz {f:FR} (hf:Wf f):aB (i7 c m f).1 3=aB m 3:=by
 have h3:(3:Int)=0∨(3:Int)=1∨(3:Int)=3:=by decide
 unfold i7 wL D0
 repeat' split
 all_goals first | with_reducible rfl | with_reducible exact E2 h3 hf | with_reducible exact Es h3 hf | with_reducible exact AM h3 hf | with_reducible exact Bg h3 hf
theorem UW {i:Int} {x:SB} (hf:Wf x.2.2):aB (kr c t m i x).1 3=aB m 3:=by
 have hk:=Mz (c:=c) (m:=m) hf
 have h0:∀ v,aB (aW m 0 v) 3=aB m 3:=fun v=>ks (by decide)
 unfold kr
 dsimp only
 repeat' split
 all_goals first | rfl | exact hk | exact h0 _ | (dsimp only;first | rfl | exact hk | exact h0 _)
theorem Tf {i:Int} {x:SB} (h3:aB m 3≠0):u3 (kr c t m i x).2.2+crd (kr c t m i x).2.1≤crd x:=by
 unfold kr
 dsimp only
 split
 ·exact Nat.le_of_eq (Nat.zero_add _)
 split
 ·exact Nat.zero_le _
 split
 ·rename_i h
  have:crd x=1:=by unfold crd;rw [if_pos (.inl h)]
  rw [this]
  exact Nat.le_refl _
 split
 ·rename_i h
  have:crd x=1:=by unfold crd;rw [if_pos (.inr h)]
  rw [this]
  split
  ·exact Nat.le_refl _
  ·split
   ·exact Nat.zero_le _
   ·exact Nat.le_refl _
 split
 ·split <;> exact Nat.zero_le _
 split
 ·split <;> exact Nat.zero_le _
 ·split <;> exact Nat.zero_le _
end
theorem MI {p:PB} {k:PK} {n:Nat} (hg:Good n p) (hm:ga p=true) (h3:aB p.2.2.1 3≠0):aB (dV p k).1.2.2.1 3≠0∧u3 (dV p k).2+GE (dV p k).1.2.2.2.2≤GE p.2.2.2.2:=by
 have hl:=(oE hm).2.2
 refine mL (P:=fun r=>aB r.1.2.2.1 3≠0∧u3 r.2+GE r.1.2.2.2.2≤GE p.2.2.2.2) ⟨h3,Nat.le_of_eq (Nat.zero_add _)⟩ (fun x hx _=>⟨?_,?_⟩) (fun x hx _=>⟨?_,?_⟩) ⟨?_,Nat.le_of_eq (Nat.zero_add _)⟩
 ·show aB (bB p.1 p.2.1 p.2.2.1 k.2.1 x k.2.2).1 3≠0
  rw [R9 (hg.w x (List.mem_of_getElem? hx)).f]
  exact h3
 ·show u3 (bB p.1 p.2.1 p.2.2.1 k.2.1 x k.2.2).2.2+GE p.2.2.2.2≤_
  rw [MD]
  exact Nat.le_of_eq (Nat.zero_add _)
 ·show aB (kr p.1 p.2.1 p.2.2.1 k.2.1 x).1 3≠0
  rw [UW (hg.s x (List.mem_of_getElem? hx)).f]
  exact h3
 ·have h:=Tf (c:=p.1) (t:=p.2.1) (i:=k.2.1) (x:=x) h3
  have h2:=I0 (y:=(kr p.1 p.2.1 p.2.2.1 k.2.1 x).2.1) hx
  show u3 (kr p.1 p.2.1 p.2.2.1 k.2.1 x).2.2+GE (p.2.2.2.2.set k.2.1.toNat (kr p.1 p.2.1 p.2.2.1 k.2.1 x).2.1)≤_
  omega
 ·show aB (aW p.2.2.1 3 1) 3≠0
  rw [uA 1 (by decide) (by omega)]
  decide
theorem CI:∀ {l:List PK} {p:PB} {n:Nat},Good n p→ga p=true→aB p.2.2.1 3≠0→u3 (ng p l).2≤GE p.2.2.2.2
 | [],p,n,_,_,_=>Nat.zero_le _
 | k::l,p,n,hg,hm,h3=>by
  rw [ng]
  split
  ·rename_i hk
   obtain ⟨a,b⟩:=MI (k:=k) hg hm h3
   have:=CI (l:=l) (mS (k:=k) hg (nr hm).1) (mH hm hk) a
   show u3 ((dV p k).2++(ng (dV p k).1 l).2)≤_
   rw [HN]
   omega
  ·exact CI hg hm h3
section
variable {k:Nat} (hk:9223372036854779900<k) (c:CF) {t:List (Int×List Int)} (roots:List (List Int)) (l j:List PK)
include hk
theorem K8 (evs:List EV) (m:List Int) (hE:evs.length≤10000):∀ (r:List EV) (q n z a:Nat),evs.drop q=r→q≤evs.length→r.length<n→u3 r+a=z→z≤100 →
  aL k c t roots l j n evs m (z:Int) (q:Int)=some (aB m 3==1):=by
 have _h:=hk
 intro r
 induction r with
 | nil=>
  intro q n z a hr hq hn ha hz
  obtain ⟨n,rfl⟩:=fZ hn
  have:=cY hr
  rw [aL,ltF (by omega),cond_false,leT (by omega),cond_true,dH,ae]
 | cons v r ih=>
  intro q n z a hr hq hn ha hz
  obtain ⟨n,rfl⟩:=fZ hn
  obtain ⟨h0,h1,h2,_,h4⟩:=cj hr
  simp only [List.length_cons] at hn
  rw [u3] at ha
  rw [aL,ltN h0,cond_true,fd h1,ae,lu,fA (by omega)]
  by_cases hv:v.1=0
  ·rw [if_pos hv] at ha
   rw [decide_eq_true hv,cond_true,eo (z:=(z:Int) - 1) (by omega),show (z:Int) - 1=((z - 1:Nat):Int) by omega]
   exact ih (q+1) n (z - 1) a h2 (by omega) (by omega) (by omega) (by omega)
  ·rw [if_neg hv] at ha
   rw [decide_eq_false hv,cond_false]
   exact ih (q+1) n z a h2 (by omega) (by omega) (by omega) hz
theorem HE (evs:List EV) (m:List Int) (hE:evs.length≤10000) (S:List SB) (hS:S.length≤3) (ha:u3 evs≤AU S):∀ (r:List SB) (q n z:Nat),S.drop q=r→q≤S.length→r.length<n→z+AU r=AU S→z≤q →
  aK k c t roots l j n evs S m (z:Int) (q:Int)=some (aB m 3==1):=by
 intro r
 induction r with
 | nil=>
  intro q n z hr hq hn hz hzq
  obtain ⟨n,rfl⟩:=fZ hn
  have:=cY hr
  rw [AU] at hz
  rw [aK,ltF (by omega),cond_false]
  exact K8 hk c roots l j evs m hE evs 0 (k+80) z (z - u3 evs) rfl (Nat.zero_le _) (by omega) (by omega) (by omega)
 | cons v r ih=>
  intro q n z hr hq hn hz hzq
  obtain ⟨n,rfl⟩:=fZ hn
  obtain ⟨h0,h1,h2,_,h4⟩:=cj hr
  simp only [List.length_cons] at hn
  rw [AU] at hz
  rw [aK,ltN h0,cond_true,fd h1,ae]
  have hq1:IntKind.i64.wrap ((q:Int)+1)=((q+1:Nat):Int):=fA (by omega)
  have hz1:IntKind.i64.wrap ((z:Int)+1)=((z+1:Nat):Int):=fA (by omega)
  rw [hq1,hz1]
  have hb:f5 v=some (v.1!=0):=rfl
  simp only [Prod.eta,hb,ae]
  rw [Bc]
  by_cases hv:v.1=0
  ·rw [if_pos hv] at hz
   rw [decide_eq_true hv,Bool.not_true,cond_false]
   exact ih (q+1) n z h2 (by omega) (by omega) (by omega) (by omega)
  ·rw [if_neg hv] at hz
   rw [decide_eq_false hv,Bool.not_false,cond_true]
   exact ih (q+1) n (z+1) h2 (by omega) (by omega) (by omega) (by omega)
theorem AN (ht:Wt t) (hR:roots.length≤9223372036854775807) (hl:Wp l) (hj:Wp j):bW k c t roots l j=some true:=by
 unfold bW
 obtain ⟨b,hb,hfew⟩:=W6 (k:=k+79) (by omega) hR
 simp only [Prod.eta]
 rw [RN (k+79) (by omega) t ht,ae,hb,ae]
 cases hf:YS t with
 | false=>rfl
 | true=>
  have hF:=WQ hf
  rw [Bool.not_true,cond_false]
  cases b with
  | false=>rfl
  | true=>
   obtain ⟨hR10,hR60⟩:=hfew rfl
   rw [Bool.not_true,cond_false]
   by_cases hl5:(250:Int)<l.length
   ·rw [ltT hl5,cond_true]
   rw [ltF (by omega),cond_false]
   by_cases hj5:(250:Int)<j.length
   ·rw [ltT hj5,cond_true]
   rw [ltF (by omega),cond_false]
   rcases XN (k:=k+58) (by omega) c hF (roots:=roots) (fun x hx=>by have:=hR60 x hx;omega) with h | ⟨h,hc,ht2,h3,hr⟩
   ·rw [h]
    rfl
   ·rw [h,ae]
    have g0:=Kn (c:=c) hF hR60
    have m0:=R8 hc ht2 h3 hr
    generalize Km c t roots=p at g0 m0
    have L0:=oE m0
    have r1:cI (k+17) p l=some (ng p l):=by
     rw [Sw (by omega) (by omega) hl g0 (by omega) (by omega) (by omega) (by omega)]
     unfold UM
     rw [if_pos m0]
    have g1:=xr (l:=l) g0 m0
    have m1:=To (l:=l) m0
    rw [Bool.not_true,cond_false,r1,ae]
    generalize (ng p l).1=q at g1 m1
    have L1:=oE m1
    have hw2:Wp [((2:Int),(0:Int),(0:Int))]:=fun x hx=>by rw [List.mem_singleton.1 hx];decide
    have r2:eA (k+16) q (2,0,0)=some ((q.1,q.2.1,aW q.2.2.1 3 1,q.2.2.2.1,q.2.2.2.2),[]):=by
     rw [PN,Sw (by omega) (by decide) hw2 g1 (by omega) (by omega) (by omega) (by simp;omega)]
     unfold UM
     rw [if_pos m1]
     have hp:oV (2,0,0) q.1.1 q.2.2.2.2.length=true:=by
      unfold oV
      rw [decide_eq_true_eq]
      exact .inr (.inr (.inl rfl))
     rw [ng,if_pos hp,ng]
     rfl
    have g2:Good (0+l.length+1) (dV q (2,0,0)).1:=mS g1 (nr m1).1
    have m2:ga (dV q (2,0,0)).1=true:=mH m1 (by unfold oV;rw [decide_eq_true_eq];exact .inr (.inr (.inl rfl)))
    have es:(dV q (2,0,0)).1=(q.1,q.2.1,aW q.2.2.1 3 1,q.2.2.2.1,q.2.2.2.2):=rfl
    rw [es] at g2 m2
    rw [r2,ae]
    have L2:=oE m2
    have r3:cI (k+17) (q.1,q.2.1,aW q.2.2.1 3 1,q.2.2.2.1,q.2.2.2.2) j=some (ng (q.1,q.2.1,aW q.2.2.1 3 1,q.2.2.2.1,q.2.2.2.2) j):=by
     rw [Sw (by omega) (by omega) hj g2 (by omega) (by omega) (by omega) (by omega)]
     unfold UM
     rw [if_pos m2]
    have h31:aB (aW q.2.2.1 3 1) 3=1:=uA 1 (by decide) (by omega)
    have ha:=CI (l:=j) g2 m2 (by show aB (aW q.2.2.1 3 1) 3≠0;rw [h31];decide)
    have hev:=CB (l:=j) (p:=(q.1,q.2.1,aW q.2.2.1 3 1,q.2.2.2.1,q.2.2.2.2))
    try simp only [Prod.eta] at r3 ⊢
    rw [r3,ae]
    have hbz:=EJ q.2.2.2.2
    have fin:=HE hk c (t:=t) roots l j (ng (q.1,q.2.1,aW q.2.2.1 3 1,q.2.2.2.1,q.2.2.2.2) j).2 (aW q.2.2.1 3 1) (by omega) q.2.2.2.2 (by omega) (Nat.le_trans ha hbz) q.2.2.2.2 0 (k+80) 0 rfl (Nat.zero_le _) (by omega) (by omega) (Nat.zero_le _)
    rw [h31] at fin
    exact fin
end
theorem law_PClosed (k:Nat) (hk:9223372036854779990<k) (c:CF) (hc:OV c) (t:List (Int×List Int)) (ht:Wt t) (roots:List (List Int)) (hR:Ll roots) (l:List PK) (hl:Wpk l) (j:List PK) (hj:Wpk j) :
  xC k none 6 [.agg (Ii c),DJ t,.ro (roots.map cU),.ro (l.map dg),.ro (j.map dg)]=some (.lit (.bool true),[]):=by
 obtain ⟨i,rfl⟩:∃ i,k=i+81:=⟨k - 81,by omega⟩
 have h:=AN (k:=i) (by omega) c roots l j ht hR.len hl hj
 obtain ⟨W,D,I,S⟩:=c
 rw [Ii,DJ,ii,h]
 rfl
end Go.Ab
