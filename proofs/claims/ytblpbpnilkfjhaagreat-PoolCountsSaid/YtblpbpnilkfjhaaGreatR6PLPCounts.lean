import Derived.Test.YtblpbpnilkfjhaaGreatR6PP
import Derived.Test.YtblpbpnilkfjhaaGreatR6GL8
set_option linter.unusedVariables false
set_option linter.unusedSimpArgs false
set_option linter.unusedVariables false
namespace Go.Ab
def skN (W:List WB):Nat:=W.countP dj
theorem SZ {W:List WB} {i:Nat} {x y:WB} (h:W[i]? = some x):skN (W.set i y)+(if dj x=true then 1 else 0)=skN W+if dj y=true then 1 else 0:=by
 obtain ⟨hi,rfl⟩:=List.getElem?_eq_some_iff.1 h
 unfold skN
 rw [List.countP_set hi]
 by_cases h2:dj W[i]=true
 ·have:0<W.countP dj:=List.countP_pos_iff.2 ⟨_,List.getElem_mem hi,h2⟩
  simp only [h2,if_true]
  omega
 ·simp only [h2,if_false]
  simp
theorem V8 {c:CF} {t:List (Int×List Int)} {m:List Int} {i:Int} {x:SB} (hf:Wf x.2.2):aq (lA c t m i x).1 1=aq m 1:=by
 have h1:(1:Int)=0∨(1:Int)=1∨(1:Int)=3:=by decide
 have hk:aq (fB c m x.2.2).1 1=aq m 1:=by
  unfold fB rS xb
  repeat' split
  all_goals first | with_reducible rfl | with_reducible exact E4 h1 hf | with_reducible exact Fk h1 hf | with_reducible exact BF h1 hf | with_reducible exact BD h1 hf
 have h0:∀ v,aq (aW m 0 v) 1=aq m 1:=fun v=>ks (by decide)
 unfold lA
 dsimp only
 repeat' split
 all_goals first | rfl | exact hk | exact h0 _ | (dsimp only;first | rfl | exact hk | exact h0 _)
def Skn (p:PB):Prop:=aq p.2.2.1 1=(skN p.2.2.2.1:Int)
theorem Ph {n:Nat} {p:PB} {k:PK} (hg:Good n p) (hm:gw p=true) (h:Skn p):Skn (fi p k).1:=by
 have hl:=xy hm
 unfold Skn at h ⊢
 have hn:skN p.2.2.2.1≤p.2.2.2.1.length:=List.countP_le_length
 refine la (P:=fun r=>aq r.1.2.2.1 1=(skN r.1.2.2.2.1:Int)) h (fun x hx _ => ?_) (fun x hx _ => ?_) ?_
 ·have hs:=Jo (c:=p.1) (t:=p.2.1) (w:=k.2.1) (d:=k.2.2) hg.m (by omega) (hg.w x (List.mem_of_getElem? hx)).f
  have hc:=SZ (y:=(bz p.1 p.2.1 p.2.2.1 k.2.1 x k.2.2).2.1) hx
  dsimp only
  rw [hs,h]
  generalize (bz p.1 p.2.1 p.2.2.1 k.2.1 x k.2.2).2.1=y at hc ⊢
  unfold HT
  cases hb:dj x <;> cases hy:dj y <;> rw [hb,hy] at hc
  ·simp at hc ⊢;omega
  ·simp at hc
   rw [if_neg (by decide),if_pos rfl,gA (by omega) (by omega)]
   omega
  ·simp at hc
   rw [if_neg (by decide),if_neg (by decide),gA (by omega) (by omega)]
   omega
  ·simp at hc ⊢;omega
 ·dsimp only
  rw [V8 (hg.s x (List.mem_of_getElem? hx)).f]
  exact h
 ·have:aq (aW p.2.2.1 3 1) 1=aq p.2.2.1 1:=ks (by decide)
  dsimp only
  rw [this]
  exact h
theorem DM:∀ {l:List PK} {p:PB} {n:Nat},Good n p→gw p=true→Sgn p→Skn p→Sgn (oJ p l).1∧Skn (oJ p l).1
 | [],p,n,_,_,h1,h2=>⟨h1,h2⟩
 | k::l,p,n,hg,hm,h1,h2=>by
  rw [oJ]
  split
  ·rename_i hk
   exact DM (l:=l) (pQ (k:=k) hg (mV hm).1) (pI hm hk) (NM hg hm hk h1) (Ph hg hm h2)
  ·exact DM hg hm h1 h2
theorem SQ {c:CF} {t:List (Int×List Int)} {roots:List (List Int)}:Sgn (DY c t roots)∧Skn (DY c t roots):=by
 have key:∀ (i:Nat) x,(iS c.1.toNat)[i]? = some x→x=O3 i:=by
  intro i x hx
  unfold iS at hx
  rw [List.getElem?_map,Option.map_eq_some_iff] at hx
  obtain ⟨j,hj,rfl⟩:=hx
  obtain ⟨hi,rfl⟩:=List.getElem?_eq_some_iff.1 hj
  rw [List.getElem_range]
 refine ⟨⟨fun i x hx => ?_,fun x hx => ?_,fun j _ _ => ?_,fun i x hx hp => ?_⟩,?_⟩
 ·rw [key i x hx]
  exact eO (.inl rfl) (show (1:Int)<5 by decide)
 ·have hx':x ∈ i8 roots:=hx
  unfold i8 at hx'
  obtain ⟨l,_,rfl⟩:=List.mem_map.1 hx'
  exact iE (show (0:Int)≠2 by decide) (show (0:Int)≠4 by decide)
 ·show gk (aq (List.replicate (cB c).toNat 0) 2) j=false
  rw [BB]
  unfold gk
  rw [Int.zero_ediv]
  rfl
 ·rw [key i x hx] at hp
  exact absurd hp.1 (show ¬ (0:Int)=8 by decide)
 ·unfold Skn
  show aq (List.replicate (cB c).toNat 0) 1=(skN (iS c.1.toNat):Int)
  rw [BB]
  have:skN (iS c.1.toNat)=0:=by
   unfold skN iS
   rw [List.countP_map,List.countP_eq_zero]
   intro i _
   exact Bool.false_ne_true
  rw [this]
  rfl
theorem Hw (f:FR):fl f=some (Ag f):=by
 obtain ⟨a0,a1,a2,a3,a4,a5,a6⟩:=f
 unfold fl Ag
 simp only [i7,ae,dd,iJ]
 by_cases h1:a0=5
 ·by_cases h2:a6=0
  ·simp [h1,h2]
  ·have:(a6 !=0)=true:=by simp [h2]
   simp [h1,h2,this]
 ·simp [h1]
def VE (x:WB):Bool:=decide (x.1=8)&&Ag x.2.2.1
theorem GY (x:WB):ez x=some (VE x):=by
 unfold ez VE
 try simp only [Prod.eta]
 rw [Hw,ae,iJ]
 by_cases h:x.1=8
 ·rw [decide_eq_true h,cond_true,Bool.true_and]
 ·rw [decide_eq_false h,cond_false,Bool.false_and]
def aaM (c:CF) (m:List Int) (w:Int) (x:WB):Bool:=VE x&&decide (aq m (cD c w)=0) && !gk (aq m 2) w
def LI (c:CF) (m:List Int):Nat→List WB→Nat
 | _,[]=>0
 | q,x::l=>(if aaM c m q x=true then 1 else 0)+LI c m (q+1) l
def wkT (x:WB):Bool:=decide (x.1=14)&&decide (x.2.2.1.2.1=2)
def sbT (x:SB):Bool:=decide (x.1=4)&&decide (x.2.2.2.1=2)
def VG (W:List WB) (S:List SB):List Int:=(W.filter wkT).map (fun x=>x.2.2.1.2.2.2.2.2.1)++(S.filter sbT).map (fun x=>x.2.2.2.2.2.2.2.1)
theorem aay (T:List Int) (q n:Nat):T.countP (fun y=>decide ((q:Int)≤y∧y<q+(n+1:Nat)))=T.countP (fun y=>decide (y=(q:Int)))+T.countP (fun y=>decide (((q+1:Nat):Int)≤y∧y<(q+1:Nat)+(n:Nat))):=by
 induction T with
 | nil=>rfl
 | cons a T ih=>
  rw [List.countP_cons,List.countP_cons,List.countP_cons,ih]
  by_cases h1:a=(q:Int)
  ·rw [decide_eq_true h1,decide_eq_true (show (q:Int)≤a∧a<q+(n+1:Nat) by omega),decide_eq_false (show ¬ (((q+1:Nat):Int)≤a∧a<(q+1:Nat)+(n:Nat)) by omega)]
   simp
   omega
  ·rw [decide_eq_false h1]
   by_cases h2:((q+1:Nat):Int)≤a∧a<(q+1:Nat)+(n:Nat)
   ·rw [decide_eq_true h2,decide_eq_true (show (q:Int)≤a∧a<q+(n+1:Nat) by omega)]
    simp
    omega
   ·rw [decide_eq_false h2,decide_eq_false (show ¬ ((q:Int)≤a∧a<q+(n+1:Nat)) by omega)]
    simp
theorem Qp {c:CF} {m:List Int} {T:List Int}:∀ {l:List WB} {q:Nat},(∀ (j:Nat) x,l[j]? = some x→aaM c m ((q+j:Nat):Int) x=true→((q+j:Nat):Int) ∈ T)→LI c m q l≤T.countP (fun y=>decide ((q:Int)≤y∧y<q+(l.length:Nat)))
 | [],q,_=>Nat.zero_le _
 | x::l,q,h=>by
  have h2:=Qp (l:=l) (q:=q+1) fun j y hy ha=>by
   rw [show q+1+j=q+(j+1) by omega] at ha ⊢
   exact h (j+1) y hy ha
  rw [LI,List.length_cons,aay]
  split
  ·rename_i ha
   have:(q:Int) ∈ T:=h 0 x rfl ha
   have:0<T.countP (fun y=>decide (y=(q:Int))):=List.countP_pos_iff.2 ⟨_,this,by simp⟩
   omega
  ·omega
theorem RJ {p:PB} (h:Sgn p):LI p.1 p.2.2.1 0 p.2.2.2.1≤(VG p.2.2.2.1 p.2.2.2.2).length:=by
 refine Nat.le_trans (Qp (T:=VG p.2.2.2.1 p.2.2.2.2) fun j x hx ha => ?_) List.countP_le_length
 rw [Nat.zero_add] at ha ⊢
 unfold aaM VE Ag at ha
 simp only [Bool.and_eq_true,decide_eq_true_eq,Bool.not_eq_true'] at ha
 have hp:pkW x:=⟨ha.1.1.1,by have:=ha.1.1.2.2.2;omega⟩
 unfold VG
 rw [List.mem_append]
 rcases h.sg j x hx hp with ho | ho | ho
 ·rw [ha.2] at ho;cases ho
 ·exact absurd ha.1.2 ho
 ·rcases ho with ⟨y,hy,h1,h2,h3⟩ | ⟨y,hy,h1,h2,h3⟩
  ·refine .inl (List.mem_map.2 ⟨y,List.mem_filter.2 ⟨hy,?_⟩,h3⟩)
   unfold wkT
   rw [decide_eq_true h1,decide_eq_true h2]
   rfl
  ·refine .inr (List.mem_map.2 ⟨y,List.mem_filter.2 ⟨hy,?_⟩,h3⟩)
   unfold sbT
   rw [decide_eq_true h1,decide_eq_true h2]
   rfl
theorem Sw {x w:Int} (h0:0≤x) (h1:x≤18446744073709551615) (hw:0≤w) (hw2:w<16):(Dm IntKind.u64 (1:Int) w !=(0:Int))=true∧((IntKind.u64.wrap (x.tdiv (Dm IntKind.u64 (1:Int) w))).tmod (2:Int)==(0:Int)) = !gk x w:=by
 have hp:(0:Int)<2 ^ w.toNat:=by
  have h2:((2 ^ w.toNat:Nat):Int)=(2:Int) ^ w.toNat:=by rw [Int.natCast_pow];rfl
  have:0<2 ^ w.toNat:=Nat.pow_pos (by decide)
  omega
 rw [WV hw (by omega),Bm,decide_eq_false (by omega),Int.tdiv_eq_ediv_of_nonneg h0]
 refine ⟨rfl,?_⟩
 have e0:0≤x/2 ^ w.toNat:=Int.ediv_nonneg h0 (by omega)
 have e1:x/2 ^ w.toNat≤x:=Int.ediv_le_self _ h0
 rw [gA e0 (by omega),Int.tmod_eq_emod_of_nonneg e0,iJ]
 unfold gk
 by_cases h:x/2 ^ w.toNat%2=1
 ·rw [decide_eq_true h,decide_eq_false (by omega)];rfl
 ·rw [decide_eq_false h,decide_eq_true (by omega)];rfl
section
variable {k:Nat} (hk:9223372036854779900<k) (c:CF) {t:List (Int×List Int)} (roots:List (List Int)) (l:List PK)
include hk
theorem XR (m:List Int) (W:List WB) (hW:(W.length:Int)=c.1) (hW8:W.length≤8) (S:List SB) (hS:S.length≤3) (a n:Nat) (hn:n≤W.length) (hm:aq m 1=n):∀ (r:List SB) (q f z:Nat),S.drop q=r→q≤S.length→r.length<f→z≤100+q→a≤z+(r.filter sbT).length →
  aH k c t roots l f m W S (n:Int) (a:Int) (z:Int) (q:Int)=some true:=by
 have _h:=hk
 intro r
 induction r with
 | nil=>
  intro q f z hr hq hf hz ha
  obtain ⟨f,rfl⟩:=gf hf
  have:=cX hr
  simp only [List.filter_nil,List.length_nil] at ha
  rw [aH,ltF (by omega),cond_false,iJ,decide_eq_true hW,cond_true,dG,ae,hm,gA (by omega) (by omega),iJ,decide_eq_true rfl,cond_true,leT (by omega),cond_true,leT (by omega)]
 | cons v r ih=>
  intro q f z hr hq hf hz ha
  obtain ⟨f,rfl⟩:=gf hf
  obtain ⟨h0,h1,h2,_,h4⟩:=b7 hr
  simp only [List.length_cons] at hf
  have hq1:IntKind.i64.wrap ((q:Int)+1)=((q+1:Nat):Int):=eU (by omega)
  have hz1:IntKind.i64.wrap ((z:Int)+1)=((z+1:Nat):Int):=eU (by omega)
  rw [aH,ltN h0,cond_true,fe h1,ae,ae,hq1,hz1,iJ,iJ]
  rw [List.filter_cons] at ha
  unfold sbT at ha
  by_cases e1:v.1=4
  ·by_cases e2:v.2.2.2.1=2
   ·rw [decide_eq_true e1,decide_eq_true e2] at ha ⊢
    rw [cond_true,cond_true]
    refine ih (q+1) f (z+1) h2 (by omega) (by omega) (by omega) ?_
    simp only [Bool.and_true,if_true,List.length_cons] at ha
    unfold sbT
    omega
   ·rw [decide_eq_true e1,decide_eq_false e2] at ha ⊢
    rw [cond_true,cond_false]
    exact ih (q+1) f z h2 (by omega) (by omega) (by omega) ha
  ·rw [decide_eq_false e1] at ha ⊢
   rw [cond_false]
   exact ih (q+1) f z h2 (by omega) (by omega) (by omega) ha
theorem V1 (m:List Int) (W:List WB) (hW:(W.length:Int)=c.1) (hW8:W.length≤8) (S:List SB) (hS:S.length≤3) (a n:Nat) (hn:n≤W.length) (hm:aq m 1=n):∀ (r:List WB) (q f z:Nat),W.drop q=r→q≤W.length→r.length<f→z≤q→a≤z+(r.filter wkT).length+(S.filter sbT).length →
  aE k c t roots l f m W S (n:Int) (a:Int) (z:Int) (q:Int)=some true:=by
 intro r
 induction r with
 | nil=>
  intro q f z hr hq hf hz ha
  obtain ⟨f,rfl⟩:=gf hf
  have:=cX hr
  simp only [List.filter_nil,List.length_nil] at ha
  rw [aE,ltF (by omega),cond_false]
  exact XR hk c roots l m W hW hW8 S hS a n hn hm S 0 (k+80) z rfl (Nat.zero_le _) (by omega) (by omega) (by omega)
 | cons v r ih=>
  intro q f z hr hq hf hz ha
  obtain ⟨f,rfl⟩:=gf hf
  obtain ⟨h0,h1,h2,_,h4⟩:=b7 hr
  simp only [List.length_cons] at hf
  have hq1:IntKind.i64.wrap ((q:Int)+1)=((q+1:Nat):Int):=eU (by omega)
  have hz1:IntKind.i64.wrap ((z:Int)+1)=((z+1:Nat):Int):=eU (by omega)
  rw [aE,ltN h0,cond_true,fe h1,ae,ae,hq1,hz1,iJ,iJ]
  rw [List.filter_cons] at ha
  unfold wkT at ha
  by_cases e1:v.1=14
  ·by_cases e2:v.2.2.1.2.1=2
   ·rw [decide_eq_true e1,decide_eq_true e2] at ha ⊢
    rw [cond_true,cond_true]
    refine ih (q+1) f (z+1) h2 (by omega) (by omega) (by omega) ?_
    simp only [Bool.and_true,if_true,List.length_cons] at ha
    unfold wkT
    omega
   ·rw [decide_eq_true e1,decide_eq_false e2] at ha ⊢
    rw [cond_true,cond_false]
    exact ih (q+1) f z h2 (by omega) (by omega) (by omega) ha
  ·rw [decide_eq_false e1] at ha ⊢
   rw [cond_false]
   exact ih (q+1) f z h2 (by omega) (by omega) (by omega) ha
theorem Xw (m:List Int) (hm2:Wm m) (W:List WB) (hW:(W.length:Int)=c.1) (hW8:W.length≤8) (S:List SB) (hS:S.length≤3) (hm:aq m 1=skN W) (hle:LI c m 0 W≤(VG W S).length):∀ (r:List WB) (q f n a:Nat),W.drop q=r→q≤W.length→r.length<f→n≤q→a≤q→n+skN r=skN W→a+LI c m q r=LI c m 0 W →
  an k c t roots l f m W S (n:Int) (a:Int) (q:Int)=some true:=by
 intro r
 induction r with
 | nil=>
  intro q f n a hr hq hf hn ha hn2 ha2
  obtain ⟨f,rfl⟩:=gf hf
  have:=cX hr
  have e1:n=skN W:=by rw [← hn2];rfl
  have e2:a=LI c m 0 W:=by rw [← ha2];rfl
  have:(VG W S).length=(W.filter wkT).length+(S.filter sbT).length:=by unfold VG;simp
  rw [an,ltF (by omega),cond_false]
  exact V1 hk c roots l m W hW hW8 S hS a n (by rw [e1];exact List.countP_le_length) (by rw [hm,e1]) W 0 (k+80) 0 rfl (Nat.zero_le _) (by omega) (by omega) (by omega)
 | cons v r ih=>
  intro q f n a hr hq hf hn ha hn2 ha2
  obtain ⟨f,rfl⟩:=gf hf
  obtain ⟨h0,h1,h2,_,h4⟩:=b7 hr
  simp only [List.length_cons] at hf
  have hq1:IntKind.i64.wrap ((q:Int)+1)=((q+1:Nat):Int):=eU (by omega)
  have hn1:IntKind.i64.wrap ((n:Int)+1)=((n+1:Nat):Int):=eU (by omega)
  have ha1:IntKind.i64.wrap ((a:Int)+1)=((a+1:Nat):Int):=eU (by omega)
  obtain ⟨b1,b2⟩:=Sw (cy hm2 2).1 (cy hm2 2).2 (show (0:Int)≤(q:Int) by omega) (show (q:Int)<16 by omega)
  have hsk:skN (v::r)=skN r+if dj v=true then 1 else 0:=by unfold skN;rw [List.countP_cons]
  rw [hsk] at hn2
  rw [LI] at ha2
  unfold aaM at ha2
  have hx:∀ n':Nat,n'≤q+1→n'+skN r=skN W →
    (bif VE v then
     bif aq m (cD c q)==(0:Int) then
     bif !gk (aq m 2) q then an k c t roots l f m W S (n':Int) ((a+1:Nat):Int) ((q+1:Nat):Int) else an k c t roots l f m W S (n':Int) (a:Int) ((q+1:Nat):Int)
     else an k c t roots l f m W S (n':Int) (a:Int) ((q+1:Nat):Int)
    else an k c t roots l f m W S (n':Int) (a:Int) ((q+1:Nat):Int))=some true:=by
   intro n' hn' hs
   cases h5:VE v with
   | false=>
    rw [h5] at ha2
    simp only [Bool.false_and,Bool.false_eq_true,if_false,Nat.zero_add] at ha2
    rw [cond_false]
    exact ih (q+1) f n' a h2 (by omega) (by omega) hn' (by omega) hs ha2
   | true=>
    rw [h5] at ha2
    rw [cond_true,iJ]
    by_cases h6:aq m (cD c q)=0
    ·rw [decide_eq_true h6] at ha2 ⊢
     rw [cond_true]
     cases h7:gk (aq m 2) q with
     | true=>
      rw [h7] at ha2
      simp only [Bool.not_true,Bool.and_false,Bool.false_eq_true,if_false,Nat.zero_add] at ha2
      rw [Bool.not_true,cond_false]
      exact ih (q+1) f n' a h2 (by omega) (by omega) hn' (by omega) hs ha2
     | false=>
      rw [h7] at ha2
      simp only [Bool.not_false,Bool.and_true,if_true] at ha2
      rw [Bool.not_false,cond_true]
      exact ih (q+1) f n' (a+1) h2 (by omega) (by omega) hn' (by omega) hs (by omega)
    ·rw [decide_eq_false h6] at ha2 ⊢
     simp only [Bool.and_false,Bool.false_and,Bool.false_eq_true,if_false,Nat.zero_add] at ha2
     rw [cond_false]
     exact ih (q+1) f n' a h2 (by omega) (by omega) hn' (by omega) hs ha2
  rw [an,ltN h0,cond_true,ltT (by omega),cond_true,fe h1,ae]
  simp only [Prod.eta,J4 (k:=k+77) (by omega),GY,E5,dG,ae,hq1,hn1,ha1,b1,b2,leT (show (0:Int)≤(q:Int) by omega),cond_true]
  cases h8:dj v with
  | true=>
   rw [h8] at hn2
   rw [if_pos rfl] at hn2
   rw [cond_true]
   exact hx (n+1) (by omega) (by omega)
  | false=>
   rw [h8] at hn2
   rw [if_neg (by decide)] at hn2
   rw [cond_false]
   exact hx n (by omega) (by omega)
theorem Cn (ht:Wt t) (hR:roots.length≤9223372036854775807) (hl:Wp l):bX k c t roots l=some true:=by
 unfold bX
 obtain ⟨b,hb,hfew⟩:=Zg (k:=k+79) (by omega) hR
 simp only [Prod.eta]
 rw [Td (k+79) (by omega) t ht,ae,hb,ae]
 cases hf:aaA t with
 | false=>rfl
 | true=>
  have hF:=XH hf
  rw [Bool.not_true,cond_false]
  cases b with
  | false=>rfl
  | true=>
   obtain ⟨hR10,hR60⟩:=hfew rfl
   rw [Bool.not_true,cond_false]
   by_cases hl5:(500:Int)<l.length
   ·rw [ltT hl5,cond_true]
   rw [ltF (by omega),cond_false]
   rcases aai (k:=k+58) (by omega) c hF (roots:=roots) (fun x hx=>by have:=hR60 x hx;omega) with h | ⟨h,hc,ht2,h3,hr⟩
   ·rw [h]
    rw [ae]
    obtain ⟨r,hr⟩:∃ r,eE (k+17) Dr l=some r:=by
     have g0:Good 0 Dr:=⟨⟨by decide,fun x hx=>(by cases hx)⟩,by decide,⟨by decide,fun x hx=>(by cases hx)⟩,fun x hx=>(by cases hx),fun x hx=>(by cases hx)⟩
     exact ⟨_,XD (by omega) (by omega) hl g0 (by decide) (by decide) (by decide) (by omega)⟩
    try simp only [Dr] at hr ⊢
    rw [hr]
    rfl
   ·rw [h,ae]
    have g0:=On (c:=c) hF hR60
    have m0:=Tt hc ht2 h3 hr
    obtain ⟨s0,k0⟩:=SQ (c:=c) (t:=t) (roots:=roots)
    have c0:(DY c t roots).1=c:=rfl
    generalize DY c t roots=p at g0 m0 s0 k0 c0
    have L0:=xy m0
    have r1:eE (k+17) p l=some (oJ p l):=by
     rw [XD (by omega) (by omega) hl g0 (by omega) (by omega) (by omega) (by omega)]
     unfold abm
     rw [if_pos m0]
    have g1:=Aa (l:=l) g0 m0
    have m1:=Tj (l:=l) m0
    obtain ⟨s1,k1⟩:=DM (l:=l) g0 m0 s0 k0
    have e1:=(xH (l:=l) (p:=p)).1
    rw [r1,ae,Bool.not_true,cond_false]
    generalize (oJ p l).1=q at g1 m1 s1 k1 e1
    have L1:=xy m1
    have hq:q.1=c:=e1.trans c0
    have hW:=(mV m1).2.1
    have:=RJ s1
    rw [hq] at hW this
    exact Xw hk c (t:=t) roots l q.2.2.1 g1.m q.2.2.2.1 hW L1.1 q.2.2.2.2 L1.2.1 k1 this q.2.2.2.1 0 (k+80) 0 0 rfl (Nat.zero_le _) (by omega) (Nat.le_refl _) (Nat.le_refl _) (Nat.zero_add _) (Nat.zero_add _)
end
theorem law_PCounts (k:Nat) (hk:9223372036854779990<k) (c:CF) (hc:QL c) (t:List (Int×List Int)) (ht:Wt t) (roots:List (List Int)) (hR:Ll roots) (l:List PK) (hl:Wpk l) :
  xC k none 8 [.agg (KL c),FZ t,.ro (roots.map cO),.ro (l.map ej)]=some (.lit (.bool true),[]):=by
 obtain ⟨i,rfl⟩:∃ i,k=i+81:=⟨k - 81,by omega⟩
 have h:=Cn (k:=i) (by omega) c roots l ht hR.len hl
 obtain ⟨W,D,I,S⟩:=c
 rw [KL,FZ,iN,h]
 rfl
end Go.Ab
