import Derived.Test.YtblpbpnilkfjhaaGreatR6PP
import Derived.Test.YtblpbpnilkfjhaaGreatR6GL7
set_option linter.unusedVariables false
set_option linter.unusedSimpArgs false
set_option linter.unusedVariables false
namespace Go.Ab
theorem Mi:∀ {n:Nat} {l:List Int},l.Nodup→(∀ y ∈ l,0≤y∧y<(n:Int))→l.length≤n:=by
 intro n l hd hl
 have h:(l.map Int.toNat).Nodup:=by
  refine List.pairwise_map.2 (List.Pairwise.imp_of_mem (fun {a b} ha hb hab e => ?_) hd)
  have:=hl a ha
  have:=hl b hb
  omega
 have h2:(l.map Int.toNat) ⊆ List.range n:=by
  intro x hx
  obtain ⟨y,hy,rfl⟩:=List.mem_map.1 hx
  have:=hl y hy
  rw [List.mem_range]
  omega
 have:=List.Nodup.length_le_of_subset h h2
 rw [List.length_map,List.length_range] at this
 exact this
theorem IC {k:Nat} (hk:9223372036854779000≤k) {c:CF} {t:Tyt} {roots:List (List Int)} (ht:FwT t) (hr:∀ l ∈ roots,l.length≤60) (hc:ku c=true) (hm:oE (mU c t roots)=true) :
  SZ (mU c t roots)=false∧dp k (mU c t roots)=some 0:=by
 have hg:=Fh (c:=c) ht hr
 have hmc:=cw hc
 constructor
 ·have hW:(iB c.1.toNat)=HS 0::((List.range (c.1.toNat - 1)).map fun i=>HS (i+1)):=by
   unfold iB
   rw [show c.1.toNat=(c.1.toNat - 1)+1 by omega,List.range_succ_eq_map,List.map_cons,List.map_map]
   rfl
  unfold SZ
  have:AC (mU c t roots).1 (mU c t roots).2.2.1 0 (mU c t roots).2.2.2.1=false:=by
   show AC c _ 0 (iB c.1.toNat)=false
   rw [hW,AC]
   rfl
  rw [this,Bool.and_false]
 ·obtain ⟨z,h1,h2⟩:=KV hk hg.t.wt (fun x hx=>by have:=(hg.w x hx).s;omega) (fun x hx=>(hg.s x hx).s) hm
  have z0:∀ i,bX (mU c t roots).2.2.1 i=0:=fun i=>Iw _ _
  rw [h1,h2 fun v _ _ hv => ?_]
  ·rw [z0,z0]
   rfl
  ·unfold neD at hv
   rw [z0,z0] at hv
   exact absurd hv.1 (by decide)
section
variable {k:Nat} (hk:9223372036854779900<k) (c:CF) {t:Tyt} (roots:List (List Int))
include hk
theorem L0 (hR:roots.length≤10) (hr:∀ l ∈ roots,l.length≤60) (is:Bool) {p:PB} {W2:List WB} {n0:Nat}
  (h1:ej (k+45) p=some true) (h2:dm (k+44) p=some false) (h3:eb (k+43) p=some false) (h4:dp (k+44) p=some 0)
  (h5:(p.2.2.2.1.length:Int)=c.1) (h6:p.2.2.2.2.length=roots.length) (h7:roots.flatten.length≤t.length) (h8:roots.flatten.length≠0→is=false∧W2=[]) :
  ∀ (r:List (List Int)) (q f z:Nat),roots.drop q=r→q≤roots.length→r.length<f→z+r.flatten.length=roots.flatten.length→z≤60*q →
   aZ k c t roots f is p.1.1 p.1.2.1 p.1.2.2.1 p.1.2.2.2 p.2.1 p.2.2.1 p.2.2.2.1 p.2.2.2.2 W2 (z:Int) (q:Int)=some true:=by
 have _h:=hk
 intro r
 induction r with
 | nil=>
  intro q f z hq' hq hf hz hz6
  obtain ⟨f,rfl⟩:=gJ hf
  have:=dX hq'
  have hz':z=roots.flatten.length:=by simpa using hz
  rw [aZ,ltF (by omega),cond_false]
  simp only [Prod.eta]
  rw [h1,ar,cond_true,h2,ar,Bool.not_false,cond_true,h3,ar,Bool.not_false,cond_true,h4,ar,show ((0:Int)==0)=true from rfl,cond_true,L1,decide_eq_true h5,cond_true,L1,decide_eq_true (by omega),cond_true,L1]
  have hle:decide ((z:Int)≤(t.length:Int))=true:=decide_eq_true (by omega)
  by_cases h0:(z:Int)=0
  ·rw [decide_eq_true h0,cond_true,hle]
  ·obtain ⟨a,b⟩:=h8 (by omega)
   subst a b
   rw [decide_eq_false h0,cond_false,Bool.not_false,cond_true,show (((([]:List WB).length:Nat):Int)==0)=true from rfl,cond_true,hle]
 | cons v r ih=>
  intro q f z hq' hq hf hz hz6
  obtain ⟨f,rfl⟩:=gJ hf
  obtain ⟨g0,g1,g2,_,g4⟩:=dc hq'
  have hv:=hr v (List.mem_of_getElem? g1)
  simp only [List.length_cons] at hf
  rw [List.flatten_cons,List.length_append] at hz
  rw [aZ,ltN g0,cond_true,fj g1,ar,fL (by omega),kP (z:=(z:Int)+(v.length:Int)) (by omega),show (z:Int)+(v.length:Int)=((z+v.length:Nat):Int) by omega]
  exact ih (q+1) f (z+v.length) g2 (by omega) (by omega) (by omega) (by omega)
theorem FW (ht:Wt t) (hR:roots.length≤9223372036854775807):cN k c t roots=some true:=by
 unfold cN
 obtain ⟨b,hb,hfew⟩:=XM (k:=k+79) (by omega) hR
 try simp only [Prod.eta]
 rw [Rk (k+79) (by omega) t ht,ar,hb,ar]
 cases hf:U5 t with
 | false=>rfl
 | true=>
  have hF:=V2 hf
  rw [Bool.not_true,cond_false]
  cases b with
  | false=>rfl
  | true=>
   obtain ⟨hR10,hR60⟩:=hfew rfl
   rw [Bool.not_true,cond_false]
   rcases J6 (k:=k+58) (by omega) c hF (roots:=roots) (fun x hx=>by have:=hR60 x hx;omega) with h | ⟨h,hc,ht2,h3,hr,hd⟩
   ·rw [h]
    rfl
   ·have m0:=TO hc ht2 h3 hr
    have g0:=Fh (c:=c) hF hR60
    obtain ⟨q1,q2⟩:=IC (k:=k+44) (by omega) hF hR60 hc m0
    have hmc:=cw hc
    have hw:∀ x ∈ (mU c t roots).2.2.2.1,x.2.1.length≤9000:=fun x hx=>by have:=(g0.w x hx).s;omega
    have hs:∀ x ∈ (mU c t roots).2.2.2.2,x.2.1.length≤1000:=fun x hx=>(g0.s x hx).s
    have hrest:Mc (mU c t roots)=false:=by
     unfold Mc
     rw [q1]
     rfl
    have hle:roots.flatten.length≤t.length:=Mi hd fun y hy=>by
     obtain ⟨l,hl,hyl⟩:=List.mem_flatten.1 hy
     exact hr l hl y hyl
    rw [h,ar,Bool.not_true,cond_false,decide_eq_true (by omega),cond_true,GB (by rw [List.length_append];omega),cond_true]
    have fin:=fun (is:Bool) (W2:List WB) h8=>L0 hk c (t:=t) roots hR10 hR60 is (p:=mU c t roots) (W2:=W2) (n0:=0)
     (by rw [JI (by omega) g0.t.wt hw hs,m0]) (by rw [EQ (by omega) g0.t.wt hw hs,q1]) (by rw [NM (by omega) g0.t.wt hw hs,hrest]) q2
     (by show ((iB c.1.toNat).length:Int)=c.1;unfold iB;rw [List.length_map,List.length_range];omega) (by show (ia roots).length=_;unfold ia;rw [List.length_map]) hle h8 roots 0 (k+80) 0 rfl (Nat.zero_le _) (by omega) (by omega) (by omega)
    rcases J6 (k:=k+58) (by omega) c hF (roots:=roots++roots) (fun x hx=>by
     rcases List.mem_append.1 hx with h | h
     ·have:=hR60 x h;omega
     ·have:=hR60 x h;omega) with h' | ⟨h',_,_,_,_,hd'⟩
    ·rw [h',ar]
     exact fin false [] fun _=>⟨rfl,rfl⟩
    ·rw [h',ar]
     refine fin true _ fun h0 => ?_
     exfalso
     rw [List.flatten_append] at hd'
     have:=(List.nodup_append.1 hd').2.2
     cases hfl:roots.flatten with
     | nil=>rw [hfl] at h0;exact h0 rfl
     | cons a l=>
      rw [hfl] at this
      exact this a (by simp) a (by simp) rfl
end
theorem law_PNew (k:Nat) (hk:9223372036854779990<k) (c:CF) (hc:OT c) (t:Tyt) (ht:Wt t) (roots:List (List Int)) (hR:Ll roots) :
  xC k none 7 [.agg (JO c),EK t,.ro (roots.map cX)]=some (.lit (.bool true),[]):=by
 obtain ⟨i,rfl⟩:∃ i,k=i+81:=⟨k - 81,by omega⟩
 have h:=FW (k:=i) (by omega) c roots ht hR.len
 obtain ⟨W,D,I,S⟩:=c
 rw [JO,EK]
 refine (kv i W D I S t roots).trans ?_
 rw [h]
 rfl
end Go.Ab
