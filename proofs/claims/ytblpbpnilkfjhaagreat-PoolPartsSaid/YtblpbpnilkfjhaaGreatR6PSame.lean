import Derived.Test.YtblpbpnilkfjhaaGreatR6PP
set_option linter.unusedVariables false
set_option linter.unusedSimpArgs false
set_option linter.unusedVariables false
set_option linter.unusedSimpArgs false
namespace Go.Ab
section
variable {k:Nat} (hk:9223372036854779000≤k)
include hk
theorem Ov {l:List Int} (hl:l.length≤1000):b8 k l l=some true:=by
 unfold b8
 rw [Kd,decide_eq_true rfl,Bool.not_true,cond_false]
 have key:∀ (r:List Int) (q n:Nat),l.drop q=r→r.length<n→bw k l l n (q:Int)=some true:=by
  intro r
  induction r with
  | nil=>
   intro q n hr hn
   obtain ⟨n,rfl⟩:=gD hn
   have:=cE hr
   rw [bw,ltF (by omega),cond_false]
  | cons v r ih=>
   intro q n hr hn
   obtain ⟨n,rfl⟩:=gD hn
   obtain ⟨h0,h1,h2,_,h4⟩:=bT hr
   rw [bw,ltN h0,cond_true,eO h1,ae,ae,gW (by omega),xv,decide_eq_true rfl,Bool.not_true,cond_false]
   exact ih (q+1) n h2 (by simp only [List.length_cons] at hn;omega)
 exact key l 0 k rfl (by omega)
theorem Yt {t:Tyt} (ht:FwT t):eV k t t=some true:=by
 have hl:=ht.len
 unfold eV aW
 rw [Kd,decide_eq_true rfl,Bool.not_true,cond_false]
 have key:∀ (r:Tyt) (q n:Nat),t.drop q=r→r.length<n→ap k t t n (q:Int)=some true:=by
  intro r
  induction r with
  | nil=>
   intro q n hr hn
   obtain ⟨n,rfl⟩:=gD hn
   have:=cE hr
   rw [ap,ltF (by omega),cond_false]
  | cons v r ih=>
   intro q n hr hn
   obtain ⟨n,rfl⟩:=gD hn
   obtain ⟨h0,h1,h2,_,h4⟩:=bT hr
   have hv:=ht.kids v (List.mem_of_getElem? h1)
   rw [ap,ltN h0,cond_true,eO h1,ae,ae,gW (by omega)]
   unfold eU
   simp only [Prod.eta]
   rw [lb,decide_eq_true rfl,cond_true,Ov (by omega) (by omega),ae,ae,Bool.not_true,cond_false]
   exact ih (q+1) n h2 (by simp only [List.length_cons] at hn;omega)
 have h:=key t 0 (k+8) rfl (by omega)
 have h':ap k t t (k+8) 0=some true:=h
 rw [h',ae]
theorem Wr {m:List Int} (hl:m.length≤1000):gR k m m=some true:=by
 unfold gR
 have key:∀ (r:List Int) (q n:Nat),m.drop q=r→r.length<n→cU k m m n (q:Int)=some true:=by
  intro r
  induction r with
  | nil=>
   intro q n hr hn
   obtain ⟨n,rfl⟩:=gD hn
   have:=cE hr
   rw [cU,ltF (by omega),cond_false]
   simp
  | cons v r ih=>
   intro q n hr hn
   obtain ⟨n,rfl⟩:=gD hn
   obtain ⟨h0,h1,h2,_,h4⟩:=bT hr
   have:=ih (q+1) n h2 (by simp only [List.length_cons] at hn;omega)
   simp only [cU,ltN h0,cond_true,eO h1,ae,gW (show q≤9223372036854775806 by omega),this]
   simp
 exact key m 0 k rfl (by omega)
theorem XD {W:List WB} (hW:W.length≤20) (hw:∀ x ∈ W,x.2.1.length≤9000):aT k W W=some true:=by
 unfold aT
 rw [Kd,decide_eq_true rfl,Bool.not_true,cond_false]
 have key:∀ (r:List WB) (q n:Nat),W.drop q=r→r.length<n→aD k W W n (q:Int)=some true:=by
  intro r
  induction r with
  | nil=>
   intro q n hr hn
   obtain ⟨n,rfl⟩:=gD hn
   have:=cE hr
   rw [aD,ltF (by omega),cond_false]
  | cons v r ih=>
   intro q n hr hn
   obtain ⟨n,rfl⟩:=gD hn
   obtain ⟨h0,h1,h2,_,h4⟩:=bT hr
   obtain ⟨b,hb,hb'⟩:=LA (k:=k+5) (by omega) v v (hw v (List.mem_of_getElem? h1))
   rw [aD,ltN h0,cond_true,eO h1,ae,ae,gW (by omega)]
   simp only [Prod.eta]
   rw [hb,ae,hb'.2 rfl,Bool.not_true,cond_false]
   exact ih (q+1) n h2 (by simp only [List.length_cons] at hn;omega)
 exact key W 0 (k+8) rfl (by omega)
theorem V7 {S:List SB} (hS:S.length≤20) (hs:∀ x ∈ S,x.2.1.length≤1000):aS k S S=some true:=by
 unfold aS
 rw [Kd,decide_eq_true rfl,Bool.not_true,cond_false]
 have key:∀ (r:List SB) (q n:Nat),S.drop q=r→r.length<n→aC k S S n (q:Int)=some true:=by
  intro r
  induction r with
  | nil=>
   intro q n hr hn
   obtain ⟨n,rfl⟩:=gD hn
   have:=cE hr
   rw [aC,ltF (by omega),cond_false]
  | cons v r ih=>
   intro q n hr hn
   obtain ⟨n,rfl⟩:=gD hn
   obtain ⟨h0,h1,h2,_,h4⟩:=bT hr
   have hv:=hs v (List.mem_of_getElem? h1)
   have hsame:eQ (k+6) v v=some true:=by
    unfold eQ
    simp [Ov (k:=k+6) (by omega) hv,ae]
   rw [aC,ltN h0,cond_true,eO h1,ae,ae,gW (by omega)]
   simp only [Prod.eta]
   rw [hsame,ae,Bool.not_true,cond_false]
   exact ih (q+1) n h2 (by simp only [List.length_cons] at hn;omega)
 exact key S 0 (k+8) rfl (by omega)
theorem Sc {p:PB} (ht:FwT p.2.1) (hml:p.2.2.1.length≤1000) (hW:p.2.2.2.1.length≤20) (hw:∀ x ∈ p.2.2.2.1,x.2.1.length≤9000) (hS:p.2.2.2.2.length≤20) (hs:∀ x ∈ p.2.2.2.2,x.2.1.length≤1000):gE k p p=some true:=by
 unfold gE
 have h:(p.1.1==p.1.1&&(p.1.2.1==p.1.2.1&&(p.1.2.2.1==p.1.2.2.1&&p.1.2.2.2==p.1.2.2.2)))=true:=by simp
 rw [h,cond_true,Yt (by omega) ht,ae,cond_true,Wr (by omega) hml,ae,cond_true,XD (by omega) hW hw,ae,cond_true,V7 (by omega) hS hs,ae]
end
end Go.Ab
