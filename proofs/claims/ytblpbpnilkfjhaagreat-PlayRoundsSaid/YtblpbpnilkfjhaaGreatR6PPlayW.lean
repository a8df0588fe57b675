import Derived.Test.YtblpbpnilkfjhaaGreatR6PSkn
import Derived.Test.YtblpbpnilkfjhaaGreatR6GY
import Derived.Test.YtblpbpnilkfjhaaGreatR6GYe
set_option linter.unusedVariables false
set_option linter.unusedSimpArgs false
set_option linter.unusedVariables false
set_option linter.unusedSimpArgs false
namespace Go.Ab
def Bo:List Int→List PK
 | a::b::c::r=>(a%4,b,c)::Bo r
 | _=>[]
def Wby (l:List Int):Prop:=∀ x ∈ l,0≤x∧x≤255
theorem Fb:∀ l:List Int,3*(Bo l).length≤l.length
 | []=>Nat.le_refl _
 | [_]=>by simp [Bo]
 | [_,_]=>by simp [Bo]
 | a::b::c::r=>by
  have:=Fb r
  simp only [Bo,List.length_cons]
  omega
theorem Q5:∀ {l:List Int},Wby l→Wp (Bo l)
 | [],_=>fun x hx=>by simp [Bo] at hx
 | [_],_=>fun x hx=>by simp [Bo] at hx
 | [_,_],_=>fun x hx=>by simp [Bo] at hx
 | a::b::c::r,h=>fun x hx=>by
  rw [Bo] at hx
  rcases List.mem_cons.1 hx with rfl | hx
  ·have:=h c (by simp)
   exact ⟨this.1,Int.le_trans this.2 (by decide)⟩
  ·exact Q5 (l:=r) (fun y hy=>h y (by simp [hy])) x hx
section
variable {k:Nat} (hk:10000≤k) {b:List Int} (hb:Wby b) (hl:b.length≤2000)
include hk hb hl
theorem OP:∀ (n i:Nat) (r:List Int) (acc:List PK) (e:Nat),b.drop i=r→i≤b.length+3→r.length<n→(e=3∨e=0)→acc.length≤i →
  cj k b n (i:Int) e acc=some (acc++Bo r):=by
 have _h:=hk
 intro n
 induction n with
 | zero=>intro i r acc e _ _ h;omega
 | succ n ih=>
  intro i r acc e hr hi hn he ha
  have hes:(e==3||e==0)=true:=by rcases he with rfl | rfl <;> rfl
  have hw:IntKind.i64.wrap ((i:Int)+3)=(i:Int)+3:=eD (by omega)
  rw [cj]
  by_cases h0:i<b.length
  ·have hrl:r.length=b.length - i:=by rw [← hr,List.length_drop]
   rw [ltN h0,cond_true,decide_eq_true (show (0:Int)≤(i:Int)∧(i:Int)≤(b.length:Int) by omega),cond_true]
   simp only [Int.toNat_natCast,hr]
   have fin:∀ r':List Int,b.drop (i+3)=r'→r'.length<n→∀ acc' e',(e'=3∨e'=0)→acc'.length≤i+3→cj k b n ((i:Int)+3) e' acc'=some (acc'++Bo r'):=fun r' h1 h2 acc' e' h3 h4=>by
    rw [show (i:Int)+3=((i+3:Nat):Int) by omega]
    exact ih (i+3) r' acc' e' h1 (by omega) h2 h3 h4
   have hd3:b.drop (i+3)=r.drop 3:=by rw [← hr,List.drop_drop]
   by_cases h3:r.length<3
   ·have hs:(bif decide ((r.length:Int)<3) then (r.length:Int) else 3)=(r.length:Int):=by rw [ltT (by omega),cond_true]
    rw [hs,eD (show -9223372036854775808≤(i:Int)+(r.length:Int)∧(i:Int)+(r.length:Int)≤9223372036854775807 by omega)]
    have e1:((i:Int)+(r.length:Int)).toNat=i+r.length:=by omega
    rw [e1,decide_eq_true (by omega),cond_true]
    have ht:(b.take (i+r.length)).drop i=r:=by
     rw [List.take_of_length_le (by omega)]
     exact hr
    rw [ht,mg,decide_eq_false (by omega),cond_false]
    have hrn:Bo r=[]:=by
     rcases r with _ | ⟨x,_ | ⟨y,_ | ⟨z,r⟩⟩⟩
     ·rfl
     ·rfl
     ·rfl
     ·simp at h3;omega
    have hd0:r.drop 3=[]:=List.drop_eq_nil_iff.2 (by omega)
    have:=fin [] (by rw [hd3,hd0]) (by simp;omega) acc e he (by omega)
    rw [hw,this,hrn]
    rfl
   ·have hs:(bif decide ((r.length:Int)<3) then (r.length:Int) else 3)=3:=by rw [ltF (by omega),cond_false]
    rw [hs,eD (show -9223372036854775808≤(i:Int)+3∧(i:Int)+3≤9223372036854775807 by omega)]
    have e1:((i:Int)+3).toNat=i+3:=by omega
    rw [e1,decide_eq_true (by omega),cond_true]
    rcases r with _ | ⟨x,_ | ⟨y,_ | ⟨z,r⟩⟩⟩
    ·simp at h3
    ·simp at h3
    ·simp at h3
    ·have ht:(b.take (i+3)).drop i=[x,y,z]:=by
      rw [List.drop_take,hr,show i+3 - i=3 by omega]
      rfl
     have hx:x ∈ b:=List.mem_of_mem_drop (by rw [hr];simp)
     have hy:y ∈ b:=List.mem_of_mem_drop (by rw [hr];simp)
     have hz:z ∈ b:=List.mem_of_mem_drop (by rw [hr];simp)
     have bx:=hb x hx
     have by':=hb y hy
     have bz:=hb z hz
     simp only [ht]
     rw [show ((([x,y,z]:List Int).length:Int)==3)=true from rfl,cond_true]
     have i0:idx [x,y,z] 0=some x:=rfl
     have i1:idx [x,y,z] 1=some y:=rfl
     have i2:idx [x,y,z] 2=some z:=rfl
     rw [i0,af,i1,af,i2,af,hes,br,Int.tmod_eq_emod_of_nonneg bx.1]
     have hm:=Int.emod_nonneg x (show (4:Int)≠0 by decide)
     have hm2:=Int.emod_lt_of_pos x (show (0:Int)<4 by decide)
     rw [eD (z:=x%4) (by omega),eD (z:=y) (by omega),kL (z:=z) (by omega) (by omega),ur (by rw [List.length_append];simp;omega),cond_true]
     have:=fin r (by rw [hd3];rfl) (by simp at hn;omega) (acc++[(x%4,y,z)]) 3 (.inl rfl) (by rw [List.length_append];simp;omega)
     rw [this,Bo,List.append_assoc]
     rfl
  ·have hr0:r=[]:=by rw [← hr];exact List.drop_eq_nil_iff.2 (by omega)
   rw [ltF (by omega),cond_false,hr0]
   simp [Bo]
theorem Pc:f4 k b=some (Bo b):=by
 unfold f4
 exact OP hk hb hl (k+22) 0 b [] 0 rfl (by omega) (by omega) (.inr rfl) (Nat.le_refl _)
end
def gl (w s:Nat) (d:Int):List PK:=(List.range w).map (fun i:Nat=>((0:Int),(i:Int),d))++(List.range s).map (fun i:Nat=>((1:Int),(i:Int),d))
theorem D8 (w s:Nat) (d:Int):(gl w s d).length=w+s:=by simp [gl]
theorem QT {w s:Nat} {d:Int} (h:0≤d∧d≤18446744073709551615):Wp (gl w s d):=by
 intro x hx
 unfold gl at hx
 rcases List.mem_append.1 hx with hx | hx
 ·obtain ⟨i,_,rfl⟩:=List.mem_map.1 hx
  exact h
 ·obtain ⟨i,_,rfl⟩:=List.mem_map.1 hx
  exact h
section
variable {k:Nat} (hk:100≤k) {w s:Nat} (hw:w≤20) (hs:s≤20) (d:Int)
include hk hw hs
theorem ahi:∀ (r i n e:Nat),i+r=s→r<n→(e=3∨e=0)→cW k w s d n ((List.range w).map (fun i:Nat=>((0:Int),(i:Int),d))++(List.range i).map (fun i:Nat=>((1:Int),(i:Int),d))) e (i:Int)=some (gl w s d):=by
 have _h:=hk
 intro r
 induction r with
 | zero=>
  intro i n e hi hn he
  obtain ⟨n,rfl⟩:=gu hn
  rw [cW,ltF (by omega),cond_false,show i=s by omega]
  rfl
 | succ r ih=>
  intro i n e hi hn he
  obtain ⟨n,rfl⟩:=gu hn
  have hes:(e==3||e==0)=true:=by rcases he with rfl | rfl <;> rfl
  rw [cW,ltT (by omega),cond_true,hes,br,ur (by simp;omega),cond_true,fY (by omega)]
  have:=ih (i+1) n 3 (by omega) (by omega) (.inl rfl)
  rw [List.range_succ,List.map_append] at this
  rw [List.append_assoc]
  exact this
theorem ahU:∀ (r i n e:Nat),i+r=w→r<n→(e=3∨e=0)→dc k w s d n ((List.range i).map (fun i:Nat=>((0:Int),(i:Int),d))) (i:Int) e=some (gl w s d):=by
 intro r
 induction r with
 | zero=>
  intro i n e hi hn he
  obtain ⟨n,rfl⟩:=gu hn
  rw [dc,ltF (by omega),cond_false,show i=w by omega]
  have:=ahi hk hw hs d s 0 (k+1) e (by omega) (by omega) he
  rw [List.range_zero,List.map_nil,List.append_nil] at this
  exact this
 | succ r ih=>
  intro i n e hi hn he
  obtain ⟨n,rfl⟩:=gu hn
  have hes:(e==3||e==0)=true:=by rcases he with rfl | rfl <;> rfl
  rw [dc,ltT (by omega),cond_true,hes,br,ur (by simp;omega),cond_true,fY (by omega)]
  have:=ih (i+1) n 3 (by omega) (by omega) (.inl rfl)
  rw [List.range_succ,List.map_append] at this
  exact this
theorem VK:fT k w s d=some (gl w s d):=by
 unfold fT
 rw [Er,af,decide_eq_true (by omega),Bool.not_true,cond_false,Er,af,decide_eq_true (by omega),Bool.not_true,cond_false]
 exact ahU hk hw hs d w 0 (k+1) 0 (by omega) (by omega) (.inr rfl)
end
def MF (c:CF) (m:List Int):Nat→List WB→Bool
 | _,[]=>true
 | i,x::l=>abW x&&decide (aM m (kK c i)=0)&&MF c m (i+1) l
def aa7 (p:PB):Bool:=fB p && !(p.2.2.2.2.any fun x => !decide (x.1=0))&&MF p.1 p.2.2.1 0 p.2.2.2.1
def Qr (p:PB):Bool:=aa7 p&&decide (aM p.2.2.1 0=0) && !(p.2.2.2.2.any fun x=>decide (0<(x.2.1.length:Int)))
theorem Tf (x:SB):go x=some (!decide (x.1=0)):=by
 unfold go
 rw [A5]
theorem Xm (k:Nat) (hk:100≤k) {S:List SB} (hS:S.length≤20):aR k S=some (S.any fun x => !decide (x.1=0)):=by
 unfold aR bd
 have h:aB (k+8) S (k+8+8) 0=some (Eo (fun x => !decide (x.1=0)) S 0):=by
  refine Fx (F:=fun n i=>aB (k+8) S n i) (l:=S) _ ?_ ?_ _ (by omega)
  ·intro n
   simp only [aB,rF,cond_false]
  ·intro n i x hi hx
   simp only [aB,ltN hi,cond_true,fU hx,af,Prod.eta,Tf]
   rw [fY (by omega)]
 rw [h,af,nN]
theorem Wu (k:Nat) (hk:100≤k) {S:List SB} (hS:S.length≤20):aO k S=some (S.any fun x=>decide (0<(x.2.1.length:Int))):=by
 unfold aO aZ
 have h:az (k+8) S (k+8+8) 0=some (Eo (fun x=>decide (0<(x.2.1.length:Int))) S 0):=by
  refine Fx (F:=fun n i=>az (k+8) S n i) (l:=S) _ ?_ ?_ _ (by omega)
  ·intro n
   simp only [az,rF,cond_false]
  ·intro n i x hi hx
   simp only [az,ltN hi,cond_true,fU hx,af,f9]
   rw [fY (by omega)]
 rw [h,af,nN]
section
variable {k:Nat} (hk:9223372036854779000≤k) {p:PB} (ht:Wt p.2.1) (hw:∀ x ∈ p.2.2.2.1,x.2.1.length≤9000) (hs:∀ x ∈ p.2.2.2.2,x.2.1.length≤1000)
include hk ht hw hs
theorem Pk:fZ k p=some (aa7 p):=by
 unfold fZ aa7
 rw [G8 hk ht hw hs,af]
 cases hm:fB p with
 | false=>rfl
 | true=>
  obtain ⟨h1,h2,h3,h4,h5⟩:=nU hm
  have hc:=bO h1
  rw [Bool.not_true,cond_false,Xm _ (by omega) (by omega),af]
  cases p.2.2.2.2.any fun x => !decide (x.1=0) with
  | true=>rfl
  | false=>
   rw [cond_false,Bool.not_false,Bool.and_true,Bool.true_and]
   have key:∀ (r:List WB) (q n:Nat),p.2.2.2.1.drop q=r→q≤p.2.2.2.1.length→r.length<n→cH k p n (q:Int)=some (MF p.1 p.2.2.1 q r):=by
    intro r
    induction r with
    | nil=>
     intro q n hr hq hn
     obtain ⟨n,rfl⟩:=gu hn
     have:=dE hr
     rw [cH,ltF (by omega),cond_false,MF]
    | cons v r ih=>
     intro q n hr hq hn
     obtain ⟨n,rfl⟩:=gu hn
     obtain ⟨g0,g1,g2,_,g4⟩:=cM hr
     have hlay:fg p.1 (q:Int)=some (kK p.1 (q:Int)):=HT p.1 _
     rw [cH,ltN g0,cond_true,fU g1,af]
     simp only [Prod.eta,Ix,af,hlay,ej]
     rw [MF,fY (by omega),ih (q+1) n g2 (by omega) (by simp only [List.length_cons] at hn;omega),A5]
     cases abW v with
     | false=>rfl
     | true=>
      by_cases h:aM p.2.2.1 (kK p.1 q)=0
      ·rw [decide_eq_true h];rfl
      ·rw [decide_eq_false h];rfl
   have:=key p.2.2.2.1 0 (k+35) rfl (Nat.zero_le _) (by omega)
   exact this
theorem PJ:gb k p=some (Qr p):=by
 unfold gb Qr
 rw [Pk hk ht hw hs,af]
 cases ha:aa7 p with
 | false=>rfl
 | true=>
  have hm:fB p=true:=by
   unfold aa7 at ha
   simp only [Bool.and_eq_true] at ha
   exact ha.1.1
  obtain ⟨h1,h2,h3,h4,h5⟩:=nU hm
  rw [cond_true,ej,af,mg]
  by_cases h:aM p.2.2.1 0=0
  ·rw [decide_eq_true h,cond_true,Wu _ (by omega) (by omega),af]
   rfl
  ·rw [decide_eq_false h]
   rfl
end
end Go.Ab
