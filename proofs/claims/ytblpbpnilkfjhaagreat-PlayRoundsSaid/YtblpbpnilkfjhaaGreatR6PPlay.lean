import Derived.Test.YtblpbpnilkfjhaaGreatR6PPlayW
import Derived.Test.YtblpbpnilkfjhaaGreatR6PP
set_option linter.unusedVariables false
set_option linter.unusedSimpArgs false
set_option linter.unusedVariables false
set_option linter.unusedSimpArgs false
namespace Go.Ab
def RlK {A B:Type} (x:Option (A×B)) (y:Option (A×B×Nat)):Prop:=∀ r,x=some r→∃ e,(e=3∨e=0)∧y=some (r.1,r.2,e)
section
variable {A B C:Type}
theorem RlK.non {y:Option (A×B×Nat)}:RlK none y:=fun r h=>by cases h
theorem RlK.fin (a:A) (b:B) {e:Nat} (h:e=3∨e=0):RlK (some (a,b)) (some (a,b,e)):=fun r hr=>by cases hr;exact ⟨e,h,rfl⟩
theorem RlK.ob {a:Option C} {f:C→Option (A×B)} {g:C→Option (A×B×Nat)} (h:∀ x,RlK (f x) (g x)):RlK (ob a f) (ob a g):=by
 cases a with
 | none=>exact .non
 | some x=>rw [af,af];exact h x
theorem RlK.cond {c:Bool} {x x':Option (A×B)} {y y':Option (A×B×Nat)} (h:RlK x y) (h':RlK x' y'):RlK (bif c then x else x') (bif c then y else y'):=by
 cases c
 ·exact h'
 ·exact h
theorem RlK.ck {c:Bool} {x:Option (A×B)} {y:Option (A×B×Nat)} (h:RlK x y):RlK (ck c x) (ck c y):=by
 cases c
 ·exact fun r hr=>by cases hr
 ·rw [br,br];exact h
end
theorem V1 (k:Nat) (p:PB) (l:List PK):∀ (n:Nat) (a b c d:Int) (t:Tyt) (W0:List WB) (S0:List SB) (W:List WB) (S:List SB) (evs:List EV) (q:Int) (m:List Int) (e:Nat),(e=3∨e=0) →
  RlK (bh k p l n a b c d t W0 S0 W S evs q m e) (bK k p l n a b c d t W0 S0 W S evs q m e):=by
 intro n
 induction n with
 | zero=>intros;exact .non
 | succ n ih=>
  intro a b c d t W0 S0 W S evs q m e he
  rw [bh,bK]
  repeat' first | exact RlK.non | exact RlK.fin _ _ he | exact ih _ _ _ _ _ _ _ _ _ _ _ _ _ (.inl rfl) | exact ih _ _ _ _ _ _ _ _ _ _ _ _ _ he | apply RlK.cond | apply RlK.ck | (refine RlK.ob fun x => ?_)
theorem Vq (k:Nat) (p:PB) (l:List PK):RlK (gB k p l) (gF k p l):=by
 unfold gB gF
 repeat' first | exact RlK.non | exact RlK.fin _ _ (.inr rfl) | exact V1 _ _ _ _ _ _ _ _ _ _ _ _ _ _ _ _ _ (.inr rfl) | apply RlK.cond | apply RlK.ck | (refine RlK.ob fun x => ?_)
theorem abJ {k:Nat} (hk:9223372036854779000≤k) {p:PB} (ht:FwT p.2.1) (hw:∀ x ∈ p.2.2.2.1,x.2.1.length≤9000) (hs:∀ x ∈ p.2.2.2.2,x.2.1.length≤1000) (hW:p.2.2.2.1.length≤20) (hS:p.2.2.2.2.length≤20) (hml:p.2.2.1.length≤1000):eM k p=some (p,[]):=by
 unfold eM
 try simp only [Prod.eta]
 rw [F4 _ (by omega) ht,af,bu (by omega),af,bu (by omega),af,bu (by omega),af]
 have ho:=G5 k (by omega) p.1.1 p.1.2.1 p.1.2.2.1 p.1.2.2.2 p.2.1 p.2.2.1 (by omega) hw (by omega) hs p.2.2.2.1 0 (k+61) rfl (Nat.zero_le _) (by omega)
 refine (congrArg (fun z=>ob z _) ho).trans ?_
 rw [af]
 dsimp only
 rw [decide_eq_true (Nat.le_refl _),br,decide_eq_true (Nat.le_refl _),br,G8 (by omega) ht.wt hw hs,af,List.take_length,List.take_length,decide_eq_true (Nat.le_refl _),decide_eq_true (Nat.le_refl _)]
 cases hm:fB p with
 | false=>
  rw [Bool.not_false,cond_true,br,br,List.take_length,List.take_length]
 | true=>
  rw [Bool.not_true,cond_false,eA,decide_eq_true (Nat.le_refl _),br,decide_eq_true (Nat.le_refl _),br,List.take_length,List.take_length]
def drB:Nat→Nat→PB→PB×List EV×Nat
 | 0,i,p=>(p,[],i)
 | d+1,i,p=>if Qr p=true then (p,[],i) else
  let r:=nb p (gl p.1.1.toNat p.2.2.2.2.length i)
  let q:=drB d (i+1) r.1
  (q.1,r.2++q.2.1,q.2.2)
def gp (p:PB) (n:Nat):PB×List EV×Nat:=if fB p=true then drB n 0 p else (p,[],0)
theorem Gs {p:PB} (hm:fB p=true):p.1.1.toNat≤8∧((p.1.1.toNat:Nat):Int)=p.1.1:=by
 have hc:=bO (nU hm).1
 omega
theorem Good.mono {n m:Nat} {p:PB} (h:Good n p) (hnm:n≤m):Good m p:=⟨h.t,h.tl,h.m,fun x hx=>⟨(h.w x hx).f,Nat.le_trans (h.w x hx).s hnm,(h.w x hx).sp⟩,h.s⟩
section
variable {k:Nat} (hk:9223372036854779100≤k)
include hk
theorem YW {p:PB} {N:Nat} (hg:Good N p) (hm:fB p=true) {l:List PK} (hd:Wp l) (hl:l.length≤20) (hN:N+l.length≤9000):∃ e,(e=3∨e=0)∧gF k p l=some ((nb p l).1,(nb p l).2,e):=by
 have L:=ov hm
 have h:=aag (k:=k) (by omega) (l:=l) (by omega) hd hg (by omega) (by omega) (by omega) hN
 unfold ab1 at h
 rw [if_pos hm] at h
 exact Vq k p l _ h
theorem IY {p0:PB} {v1:Int} (hv:v1≤5000):∀ (d n i N:Nat) (p:PB) (evs:List EV) (e:Nat),(i:Int)+d=max v1 0→d<n→(e=3∨e=0)→p.1=p0.1→p.2.2.2.2.length=p0.2.2.2.2.length→Good N p→fB p=true→N+11*d≤9000→evs.length≤22*i →
  cZ k p0 v1 n p.1.1 p.1.2.1 p.1.2.2.1 p.1.2.2.2 p.2.1 p.2.2.1 p.2.2.2.1 p.2.2.2.2 (i:Int) e evs=some ((drB d i p).1,evs++(drB d i p).2.1,((drB d i p).2.2:Int)):=by
 intro d
 induction d with
 | zero=>
  intro n i N p evs e hi hn he h1 h2 hg hm hN hE
  obtain ⟨n,rfl⟩:=gu hn
  rw [cZ]
  have hc:(bif decide ((5000:Int)<v1) then (5000:Int) else v1)=v1:=by rw [ltF (by omega),cond_false]
  rw [hc,ltF (by omega),cond_false,drB,List.append_nil]
 | succ d ih=>
  intro n i N p evs e hi hn he h1 h2 hg hm hN hE
  obtain ⟨n,rfl⟩:=gu hn
  have L:=ov hm
  obtain ⟨b1,b2⟩:=Gs hm
  have hc:(bif decide ((5000:Int)<v1) then (5000:Int) else v1)=v1:=by rw [ltF (by omega),cond_false]
  have hes:(e==3||e==0)=true:=by rcases he with rfl | rfl <;> rfl
  have hrd:fT (k+86) p.1.1 (p.2.2.2.2.length:Int) (i:Int)=some (gl p.1.1.toNat p.2.2.2.2.length i):=by
   have:=VK (k:=k+86) (by omega) (w:=p.1.1.toNat) (s:=p.2.2.2.2.length) (by omega) (by omega) (i:Int)
   rw [b2] at this
   exact this
  rw [cZ,hc,ltT (by omega),cond_true,kL (z:=(i:Int)) (by omega) (by omega),← h1,← h2,hrd,af]
  simp only [Prod.eta]
  rw [PJ (by omega) hg.t.wt (fun x hx=>by have:=(hg.w x hx).s;omega) (fun x hx=>(hg.s x hx).s),af,drB]
  cases hr:Qr p with
  | true=>rw [cond_true,if_pos rfl,List.append_nil]
  | false=>
   rw [cond_false,if_neg (by simp)]
   have hrl:=D8 p.1.1.toNat p.2.2.2.2.length (i:Int)
   obtain ⟨e',he',hrun⟩:=YW (k:=k+24) (by omega) hg hm (l:=gl p.1.1.toNat p.2.2.2.2.length (i:Int)) (QT (by omega)) (by omega) (by omega)
   have hev:=Bl (l:=gl p.1.1.toNat p.2.2.2.2.length (i:Int)) (p:=p)
   have hsm:=BU (l:=gl p.1.1.toNat p.2.2.2.2.length (i:Int)) (p:=p)
   have hgd:=(rY (l:=gl p.1.1.toNat p.2.2.2.2.length (i:Int)) hg hm).mono (m:=N+11) (by omega)
   have hmy:=FA (l:=gl p.1.1.toNat p.2.2.2.2.length (i:Int)) hm
   rw [hrun,af,hes,br]
   generalize nb p (gl p.1.1.toNat p.2.2.2.2.length (i:Int))=r at hev hsm hgd hmy ⊢
   have hap:(evs++r.2).length≤22*(i+1):=by rw [List.length_append];omega
   dsimp only
   rw [ur (by omega),cond_true,fY (by omega)]
   have:=ih n (i+1) (N+11) r.1 (evs++r.2) 3 (by omega) (by omega) (.inl rfl) (by rw [hsm.1,h1]) (by rw [hsm.2.2.2.1,h2]) hgd hmy (by omega) hap
   rw [List.append_assoc] at this
   exact this
theorem L1 {p:PB} {N:Nat} (hg:Good N p) (hW:p.2.2.2.1.length≤20) (hS:p.2.2.2.2.length≤20) (hml:p.2.2.1.length≤1000) {v:Int} (hv:v≤5000) (hN:N+11*v.toNat≤9000):dR k p v=some ((gp p v.toNat).1,(gp p v.toNat).2.1,((gp p v.toNat).2.2:Int)):=by
 have hw:∀ x ∈ p.2.2.2.1,x.2.1.length≤9000:=fun x hx=>by have:=(hg.w x hx).s;omega
 have hs:∀ x ∈ p.2.2.2.2,x.2.1.length≤1000:=fun x hx=>(hg.s x hx).s
 unfold dR gp
 simp only [Prod.eta]
 rw [abJ (by omega) hg.t hw hs hW hS hml,af,G8 (by omega) hg.t.wt hw hs,af]
 cases hm:fB p with
 | false=>
  rw [Bool.not_false,cond_true,if_neg (by simp)]
  rfl
 | true=>
  rw [Bool.not_true,cond_false,if_pos rfl]
  have:=IY (k:=k) hk (p0:=p) (v1:=v) (by omega) v.toNat (k+88) 0 N p [] 0 (by omega) (by omega) (.inr rfl) rfl rfl hg hm (by omega) (Nat.le_refl _)
  rw [List.nil_append] at this
  exact this
theorem Xx (c:CF) {t:Tyt} (ht:FwT t) {roots:List (List Int)} (hr:∀ l ∈ roots,l.length≤60) {b:List Int} (hb:Wby b) (hl:b.length≤2000) :
  fL k c t roots b=some (rh,[],false)∨fL k c t roots b=some ((nb (Kn c t roots) (Bo b)).1,(nb (Kn c t roots) (Bo b)).2,true)∧gh c=true∧wM t=true∧roots.length≤3∧(∀ l ∈ roots,∀ y ∈ l,0≤y∧y<(t.length:Int)):=by
 unfold fL
 simp only [Prod.eta]
 rcases YV (k:=k+41) (by omega) c ht (roots:=roots) (fun x hx=>by have:=hr x hx;omega) with h | ⟨h,hc,ht2,h3,hr'⟩
 ·rw [h,af]
  exact .inl rfl
 ·refine .inr ⟨?_,hc,ht2,h3,hr'⟩
  have g0:=Gr (c:=c) ht hr
  have m0:=KR hc ht2 h3 hr'
  have L:=ov m0
  have hd:=Fb b
  rw [h,af,Bool.not_true,cond_false,Pc (by omega) hb hl,af,aag (by omega) (by omega) (Q5 hb) g0 (by omega) (by omega) (by omega) (by omega)]
  unfold ab1
  rw [if_pos m0,af]
end
theorem L8:Good 0 rh:=⟨⟨by decide,by simp [rh]⟩,by decide,⟨by decide,by simp [rh]⟩,by simp [rh],by simp [rh]⟩
end Go.Ab
