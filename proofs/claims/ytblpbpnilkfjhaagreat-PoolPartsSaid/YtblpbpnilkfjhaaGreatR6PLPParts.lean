import Derived.Test.YtblpbpnilkfjhaaGreatR6PFewP
import Derived.Test.YtblpbpnilkfjhaaGreatR6PWf9
import Derived.Test.YtblpbpnilkfjhaaGreatR6GL3
set_option linter.unusedVariables false
set_option linter.unusedSimpArgs false
set_option linter.unusedVariables false
namespace Go.Ab
theorem Ei {p:PB} {l:List PK}:(n8 p l).2.length≤2*l.length:=by
 unfold n8
 split
 ·exact Cl
 ·exact Nat.zero_le _
theorem Ez {p:PB} {l:List PK}:gY (n8 p l).1=gY p:=by
 unfold n8
 split
 ·rename_i h
  rw [h]
  exact QR h
 ·rfl
theorem Ar {n:Nat} {p:PB} {l:List PK} (h:Good n p):Good (n+l.length) (n8 p l).1:=by
 unfold n8
 split
 ·rename_i hm
  exact wy h hm
 ·exact ⟨h.t,h.tl,h.m,fun x hx=>⟨(h.w x hx).f,Nat.le_trans (h.w x hx).s (Nat.le_add_right _ _),(h.w x hx).sp⟩,h.s⟩
theorem An {p:PB} {l:List PK}:(n8 p l).1.2.2.2.1.length=p.2.2.2.1.length∧(n8 p l).1.2.2.2.2.length=p.2.2.2.2.length∧(n8 p l).1.2.2.1.length=p.2.2.1.length:=by
 unfold n8
 split
 ·exact ⟨mB.2.2.1,mB.2.2.2.1,mB.2.2.2.2⟩
 ·exact ⟨rfl,rfl,rfl⟩
theorem LO {p:PB} {l j:List PK}:n8 p (l++j)=((n8 (n8 p l).1 j).1,(n8 p l).2++(n8 (n8 p l).1 j).2):=by
 have h:=Ez (p:=p) (l:=l)
 by_cases hm:gY p=true
 ·rw [hm] at h
  unfold n8 at h ⊢
  rw [if_pos hm] at h
  rw [if_pos hm,if_pos hm,if_pos h]
  exact xf
 ·have e:∀ l,n8 p l=(p,[]):=fun l=>by unfold n8;rw [if_neg hm]
  rw [e,e]
  dsimp only
  rw [e]
  rfl
theorem B6 {k:Nat} (hk:9223372036854779900<k) {p:PB} (hp:PoolOk p) {l j:List PK} (hl:Wp l) (hj:Wp j):b7 k p l j=some true:=by
 unfold b7
 simp only [Prod.eta]
 obtain ⟨b,hb,hf⟩:=Wj (k:=k+78) (by omega) hp.t hp.wl hp.sl
 rw [hb,ae]
 cases b with
 | false=>rfl
 | true=>
  obtain ⟨f1,f2,f3,f4,f5,f6⟩:=hf rfl
  rw [Bool.not_true,cond_false]
  by_cases h1:(250:Int)<l.length
  ·rw [ltT h1,cond_true]
  rw [ltF (by omega),cond_false]
  by_cases h2:(250:Int)<j.length
  ·rw [ltT h2,cond_true]
  rw [ltF (by omega),cond_false]
  have g0:=hp.good (WQ f1) f5 f6
  have g1:=Ar (l:=l) g0
  have s1:=An (p:=p) (l:=l)
  have e1:=Ei (p:=p) (l:=l)
  have m1:=Ez (p:=p) (l:=l)
  have ha:=LO (p:=p) (l:=l) (j:=j)
  have w0:Wp (l++j):=fun x hx=>by
   rcases List.mem_append.1 hx with h | h
   ·exact hl x h
   ·exact hj x h
  have r1:cJ (k+17) p l=some (n8 p l):=Ui (by omega) (by omega) hl g0 (by omega) (by omega) (by omega) (by omega)
  have r3:cJ (k+17) p (l++j)=some (n8 p (l++j)):=Ui (by omega) (by rw [List.length_append];omega) w0 g0 (by omega) (by omega) (by omega) (by rw [List.length_append];omega)
  rw [r1,ae,r3,ha]
  generalize n8 p l=a at g1 s1 e1 m1
  obtain ⟨q,x⟩:=a
  dsimp only at g1 s1 e1 m1 ⊢
  have r2:cJ (k+17) q j=some (n8 q j):=Ui (by omega) (by omega) hj g1 (by omega) (by omega) (by omega) (by omega)
  have g2:=Ar (l:=j) g1
  have s2:=An (p:=q) (l:=j)
  have e2:=Ei (p:=q) (l:=j)
  rw [r2,ae]
  generalize n8 q j=a at g2 s2 e2
  obtain ⟨z,y⟩:=a
  dsimp only at g2 s2 e2 ⊢
  have hev:(x++y).length≤1000:=by rw [List.length_append];omega
  rw [decide_eq_true (by omega),cond_true,Hf (by rw [List.length_append];omega),cond_true,ae,decide_eq_true (by omega),cond_true,Hf (by omega),cond_true]
  dsimp only
  rw [Jz (by omega) (by omega),ae,Sc (by omega) g2.t (by omega) (by omega) (fun v hv=>by have:=(g2.w v hv).s;omega) (by omega) (fun v hv=>(g2.s v hv).s),ae,cond_true,cond_true,
   Ja (by omega) g1.t.wt (fun v hv=>by have:=(g1.w v hv).s;omega) (fun v hv=>(g1.s v hv).s),ae,Ja (by omega) g0.t.wt (fun v hv=>by have:=(g0.w v hv).s;omega) (fun v hv=>(g0.s v hv).s),ae,m1]
  simp
theorem law_PParts (k:Nat) (hk:9223372036854779990<k) (p:PB) (hp:PoolOk p) (l:List PK) (hl:Wpk l) (j:List PK) (hj:Wpk j):xC k none 3 [.agg (J1 p),.ro (l.map eT),.ro (j.map eT)]=some (.lit (.bool true),[]):=by
 obtain ⟨i,rfl⟩:∃ i,k=i+81:=⟨k - 81,by omega⟩
 have h:=B6 (k:=i) (by omega) hp hl hj
 obtain ⟨⟨W,D,I,S⟩,t,m,w,s⟩:=p
 rw [J1]
 refine (iP i W D I S t m w s l j).trans ?_
 rw [h]
 rfl
end Go.Ab
