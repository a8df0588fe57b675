import Derived.Test.YtblpbpnilkfjhaaGreatR6PSame
set_option linter.unusedVariables false
set_option linter.unusedSimpArgs false
set_option linter.unusedVariables false
namespace Go.Ab
theorem Jz {k:Nat} {l:List EV} (hk:l.length<k) (hl:l.length≤9223372036854775806):cP k l l=some true:=by
 unfold cP
 rw [xv,decide_eq_true rfl,Bool.not_true,cond_false]
 have key:∀ (r:List EV) (q n:Nat),l.drop q=r→r.length<n→bu k l l n (q:Int)=some true:=by
  intro r
  induction r with
  | nil=>
   intro q n hr hn
   obtain ⟨n,rfl⟩:=gD hn
   have:=cE hr
   rw [bu,ltF (by omega),cond_false]
  | cons v r ih=>
   intro q n hr hn
   obtain ⟨n,rfl⟩:=gD hn
   obtain ⟨h0,h1,h2,_,h4⟩:=bT hr
   rw [bu,ltN h0,cond_true,eO h1,ae,ae,gW (by omega)]
   have:(v.1==v.1&&(v.2.1==v.2.1&&v.2.2==v.2.2))=true:=by simp
   rw [this,Bool.not_true,cond_false]
   exact ih (q+1) n h2 (by simp only [List.length_cons] at hn;omega)
 exact key l 0 k rfl hk
theorem Wj {k:Nat} (hk:9223372036854775810≤k) {p:PB} (ht:Wt p.2.1) (hw:p.2.2.2.1.length≤9223372036854775807) (hs:p.2.2.2.2.length≤9223372036854775807):∃ b,cN k p=some b ∧
  (b=true→Un p.2.1=true∧p.2.2.2.1.length≤10∧p.2.2.2.2.length≤10∧p.2.2.1.length≤500∧(∀ x ∈ p.2.2.2.1,x.2.1.length≤40)∧∀ x ∈ p.2.2.2.2,x.2.1.length≤60):=by
 unfold cN
 rw [TI k (by omega) p.2.1 ht,ae]
 generalize hfb:Un p.2.1=fb
 have tail:∀ (w40:p.2.2.2.1.length≤10→∀ x ∈ p.2.2.2.1,x.2.1.length≤40) (s60:p.2.2.2.2.length≤10→∀ x ∈ p.2.2.2.2,x.2.1.length≤60),∃ b,(bif fb then bif decide ((p.2.2.2.1.length:Int)≤10) then bif decide ((p.2.2.2.2.length:Int)≤10) then some (decide ((p.2.2.1.length:Int)≤500)) else some false else some false else some false)=some b ∧
   (b=true→fb=true∧p.2.2.2.1.length≤10∧p.2.2.2.2.length≤10∧p.2.2.1.length≤500∧(∀ x ∈ p.2.2.2.1,x.2.1.length≤40)∧∀ x ∈ p.2.2.2.2,x.2.1.length≤60):=by
  intro w40 s60
  cases fb with
  | false=>exact ⟨_,rfl,fun h=>by cases h⟩
  | true=>
   by_cases h1:(p.2.2.2.1.length:Int)≤10
   ·by_cases h2:(p.2.2.2.2.length:Int)≤10
    ·rw [decide_eq_true h1,decide_eq_true h2]
     refine ⟨_,rfl,fun h => ?_⟩
     have:=of_decide_eq_true h
     exact ⟨rfl,by omega,by omega,by omega,w40 (by omega),s60 (by omega)⟩
    ·rw [decide_eq_true h1,decide_eq_false h2]
     exact ⟨_,rfl,fun h=>by cases h⟩
   ·rw [decide_eq_false h1]
    exact ⟨_,rfl,fun h=>by cases h⟩
 have key1:∀ (w40:p.2.2.2.1.length≤10→∀ x ∈ p.2.2.2.1,x.2.1.length≤40) (r:List SB) (q n:Nat),p.2.2.2.2.drop q=r→q≤p.2.2.2.2.length→r.length<n→(∀ x ∈ p.2.2.2.2.take q,x.2.1.length≤60)→∃ b,bf k p n fb (q:Int)=some b ∧
   (b=true→fb=true∧p.2.2.2.1.length≤10∧p.2.2.2.2.length≤10∧p.2.2.1.length≤500∧(∀ x ∈ p.2.2.2.1,x.2.1.length≤40)∧∀ x ∈ p.2.2.2.2,x.2.1.length≤60):=by
  intro w40 r
  induction r with
  | nil=>
   intro q n hr hq hn hx
   obtain ⟨n,rfl⟩:=gD hn
   have:=cE hr
   rw [List.take_of_length_le (by omega)] at hx
   rw [bf,ltF (by omega),cond_false]
   exact tail w40 fun _=>hx
  | cons v r ih=>
   intro q n hr hq hn hx
   obtain ⟨n,rfl⟩:=gD hn
   obtain ⟨h0,h1,h2,_,h4⟩:=bT hr
   rw [bf,ltN h0,cond_true]
   by_cases hq10:(q:Int)≤10
   ·rw [leT hq10,cond_true,eO h1,ae]
    by_cases h60:(60:Int)<v.2.1.length
    ·rw [ltT h60,cond_true]
     exact ⟨_,rfl,fun h=>by cases h⟩
    ·rw [ltF (by omega),cond_false,gW (by omega)]
     refine ih (q+1) n h2 (by omega) (by simp only [List.length_cons] at hn;omega) fun x hx' => ?_
     rw [List.take_add_one,h1] at hx'
     rcases List.mem_append.1 hx' with h | h
     ·exact hx x h
     ·rw [show x=v by simpa using h];omega
   ·rw [leF (by omega),cond_false]
    exact tail w40 fun h=>by omega
 have key0:∀ (r:List WB) (q n:Nat),p.2.2.2.1.drop q=r→q≤p.2.2.2.1.length→r.length<n→(∀ x ∈ p.2.2.2.1.take q,x.2.1.length≤40)→∃ b,bv k p n fb (q:Int)=some b ∧
   (b=true→fb=true∧p.2.2.2.1.length≤10∧p.2.2.2.2.length≤10∧p.2.2.1.length≤500∧(∀ x ∈ p.2.2.2.1,x.2.1.length≤40)∧∀ x ∈ p.2.2.2.2,x.2.1.length≤60):=by
  intro r
  induction r with
  | nil=>
   intro q n hr hq hn hx
   obtain ⟨n,rfl⟩:=gD hn
   have:=cE hr
   rw [List.take_of_length_le (by omega)] at hx
   rw [bv,ltF (by omega),cond_false]
   exact key1 (fun _=>hx) p.2.2.2.2 0 (k+1) rfl (Nat.zero_le _) (by omega) (by simp)
  | cons v r ih=>
   intro q n hr hq hn hx
   obtain ⟨n,rfl⟩:=gD hn
   obtain ⟨h0,h1,h2,_,h4⟩:=bT hr
   rw [bv,ltN h0,cond_true]
   by_cases hq10:(q:Int)≤10
   ·rw [leT hq10,cond_true,eO h1,ae]
    by_cases h40:(40:Int)<v.2.1.length
    ·rw [ltT h40,cond_true]
     exact ⟨_,rfl,fun h=>by cases h⟩
    ·rw [ltF (by omega),cond_false,gW (by omega)]
     refine ih (q+1) n h2 (by omega) (by simp only [List.length_cons] at hn;omega) fun x hx' => ?_
     rw [List.take_add_one,h1] at hx'
     rcases List.mem_append.1 hx' with h | h
     ·exact hx x h
     ·rw [show x=v by simpa using h];omega
   ·rw [leF (by omega),cond_false]
    exact key1 (fun h=>by omega) p.2.2.2.2 0 (k+1) rfl (Nat.zero_le _) (by omega) (by simp)
 exact key0 p.2.2.2.1 0 (k+1) rfl (Nat.zero_le _) (by omega) (by simp)
end Go.Ab
