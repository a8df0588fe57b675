import Derived.Test.YtblpbpnilkfjhaaGreatAbLibA
import Derived.CallsIn
import Derived.RangeFuncRecord
import Derived.OrdersIn
import Derived.ControlIn
import Derived.LoopNIn
import Derived.Deep.Slices
import Derived.ChangeArms
set_option linter.unusedVariables false
set_option linter.unusedSimpArgs false
namespace Go.Ab
open Go.RowKit
section cut
variable {P:Program} {wl B0:Nat} {w0:World} {R R':Ro} {σ σ':List Sg} {H:Hp} {w w':World}
theorem ol {α β:Type} {f:α→β} {l:List α} {i:Nat} {y:β} (h:(l.map f)[i]? = some y):∃ x,l[i]? = some x∧y=f x:=by
 rw [List.getElem?_map] at h
 cases hx:l[i]? with
 | none=>rw [hx] at h;cases h
 | some x=>rw [hx] at h;cases h;exact ⟨x,rfl,rfl⟩
theorem b7.kill (n:Nat) {cs:List V} {vs:Array Value} (h:b7 R σ cs vs):b7 R (σ.take n) (eZ n cs) vs:=by
 refine ⟨by rw [h.1,fR,List.length_map],fun i c hc => ?_⟩
 rw [fR] at hc
 obtain ⟨x,hx,rfl⟩:=ol hc
 exact (h.2 i x hx).kill n
theorem b7.shift (τ:List Sg) {cs:List V} {vs:Array Value} (h:b7 R σ cs vs):b7 R (τ++σ) (cX τ.length cs) vs:=by
 refine ⟨by rw [h.1,er,List.length_map],fun i c hc => ?_⟩
 rw [er] at hc
 obtain ⟨x,hx,rfl⟩:=ol hc
 exact (h.2 i x hx).shift τ
theorem HR {f:List V→List V} {g:V→V} (hf:∀ l,f l=l.map g) {rs:List (List V)} {i j:Nat} {r:List V} {x:V}
  (h1:(if dq rs then rs else rs.map f)[i]? = some r) (h2:r[j]? = some x):∃ r' x',rs[i]? = some r'∧r'[j]? = some x'∧((dq rs=true∧x=x')∨x=g x'):=by
 split at h1
 ·rename_i hp
  exact ⟨r,x,h1,h2,.inl ⟨hp,rfl⟩⟩
 ·obtain ⟨r',hr',rfl⟩:=ol h1
  rw [hf] at h2
  obtain ⟨x',hx',rfl⟩:=ol h2
  exact ⟨r',x',hr',hx',.inr rfl⟩
theorem ul {f:List V→List V} {g:V→V} (hf:∀ l,f l=l.map g) (hg:∀ v,v.one=true→(g v).one=true) {rs:List (List V)} {esz:Nat} (h:∀ r ∈ rs,r.length=esz∧bg r=true) :
  ∀ r ∈ (if dq rs then rs else rs.map f),r.length=esz∧bg r=true:=by
 split
 ·exact h
 ·intro r hr
  obtain ⟨r',hr',rfl⟩:=List.mem_map.1 hr
  obtain ⟨h1,h2⟩:=h r' hr'
  rw [hf]
  refine ⟨by simpa using h1,?_⟩
  simp only [bg,List.all_eq_true,List.mem_map] at *
  rintro x ⟨y,hy,rfl⟩
  exact hg y (h2 y hy)
theorem uq {f:List V→List V} {rs:List (List V)}:(if dq rs then rs else rs.map f).length=rs.length:=by
 split <;> simp
theorem Kn.kill (n:Nat) {s:Sg} {b:B} (h:Kn R σ w s b):Kn R (σ.take n) w s (b.kill n):=by
 cases b with
 | rows esz rs g live=>
  obtain ⟨h1,h2,h0,h3,h4⟩:=h
  refine ⟨h1,h2,h0,ul (fR n) (K7 n) h3,?_⟩
  cases hb:s.blk with
  | none=>rw [hb] at h4;simp only at h4;subst h4;rfl
  | some k=>
   rw [hb] at h4
   obtain ⟨arr,e,h5,h6,h7,h8⟩:=h4
   refine ⟨arr,e,h5,h6,fun i j r x hr hx => ?_,fun o ho=>⟨(h8 o ho).1,?_⟩⟩
   ·obtain ⟨r',x',a1,a2,a3⟩:=HR (fR n) hr hx
    obtain ⟨cv,b1,b2⟩:=h7 i j r' x' a1 a2
    refine ⟨cv,b1,?_⟩
    rcases a3 with ⟨a3,rfl⟩ | rfl
    ·exact b2.free _ (mB a3 a1 a2)
    ·exact b2.kill n
   ·rw [show (nP n rs).length=rs.length from uq]
    exact (h8 o ho).2
 | box cs=>
  obtain ⟨h1,h2,k,arr,e,h3,h4,h5,h6⟩:=h
  exact ⟨h1,Du n cs h2,k,arr,e,h3,h4,h5.kill n,h6⟩
 | map es=>
  obtain ⟨h1,k,ents,clock,h3,h4,h5,h6⟩:=h
  refine ⟨h1,k,ents,clock,h3,h4,by simpa using h5,fun i e he => ?_⟩
  obtain ⟨e',he',rfl⟩:=ol he
  obtain ⟨m,a1,a2,a3⟩:=h6 i e' he'
  exact ⟨m,a1,a2,a3.kill n⟩
 | dead=>trivial
 | loop l=>
  obtain ⟨h1,k,r,h3,h4,h5,h6,h8,h9,h10,h11⟩:=h
  exact ⟨h1,k,r,h3,h4,h5,h6,h8,h9,h10,h11.kill n⟩
theorem Kn.shift (τ:List Sg) {s:Sg} {b:B} (h:Kn R σ w s b):Kn R (τ++σ) w s (b.shift τ.length):=by
 cases b with
 | rows esz rs g live=>
  obtain ⟨h1,h2,h0,h3,h4⟩:=h
  refine ⟨h1,h2,h0,ul (er _) (Ie _) h3,?_⟩
  cases hb:s.blk with
  | none=>rw [hb] at h4;simp only at h4;subst h4;rfl
  | some k=>
   rw [hb] at h4
   obtain ⟨arr,e,h5,h6,h7,h8⟩:=h4
   refine ⟨arr,e,h5,h6,fun i j r x hr hx => ?_,fun o ho=>⟨(h8 o ho).1,?_⟩⟩
   ·obtain ⟨r',x',a1,a2,a3⟩:=HR (er _) hr hx
    obtain ⟨cv,b1,b2⟩:=h7 i j r' x' a1 a2
    refine ⟨cv,b1,?_⟩
    rcases a3 with ⟨a3,rfl⟩ | rfl
    ·exact b2.free _ (mB a3 a1 a2)
    ·exact b2.shift τ
   ·rw [show (ml τ.length rs).length=rs.length from uq]
    exact (h8 o ho).2
 | box cs=>
  obtain ⟨h1,h2,k,arr,e,h3,h4,h5,h6⟩:=h
  exact ⟨h1,BU _ cs h2,k,arr,e,h3,h4,h5.shift τ,h6⟩
 | map es=>
  obtain ⟨h1,k,ents,clock,h3,h4,h5,h6⟩:=h
  refine ⟨h1,k,ents,clock,h3,h4,by simpa using h5,fun i e he => ?_⟩
  obtain ⟨e',he',rfl⟩:=ol he
  obtain ⟨m,a1,a2,a3⟩:=h6 i e' he'
  exact ⟨m,a1,a2,a3.shift τ⟩
 | dead=>trivial
 | loop l=>
  obtain ⟨h1,k,r,h3,h4,h5,h6,h8,h9,h10,h11⟩:=h
  exact ⟨h1,k,r,h3,h4,h5,h6,h8,h9,h10,h11.shift τ⟩
theorem us (n:Nat) (b:B):(b.kill n).isDead=b.isDead:=by cases b <;> rfl
theorem ny (n:Nat) (b:B):(b.shift n).isDead=b.isDead:=by cases b <;> rfl
theorem pE {n:Nat} {H:Hp} {id:Nat} {b:B} (h:(pX n H)[id]? = some b):∃ x,H[id]? = some x∧id<n∧b=x.kill n:=by
 obtain ⟨x,h1,rfl⟩:=ol h
 obtain ⟨h2,h3⟩:=fY h1
 exact ⟨x,h2,h3,rfl⟩
theorem Inv.cut (n:Nat) (hI:Inv wl B0 w0 R σ H w):Inv wl B0 w0 R (σ.take n) (pX n H) w where
 below:=hI.below
 base:=hI.base
 len:=by simp [pX,hI.len]
 blk id b s h1 h2 hh:=by
  obtain ⟨x,a1,a2,rfl⟩:=pE h1
  exact (hI.blk id x s a1 (fY h2).1 hh).kill n
 inj i j bi bj si sj k h1 h2 d1 d2 h3 h4 e1 e2:=by
  obtain ⟨x,a1,a2,rfl⟩:=pE h1
  obtain ⟨y,b1,b2,rfl⟩:=pE h2
  rw [us] at d1 d2
  exact hI.inj i j x y si sj k a1 b1 d1 d2 (fY h3).1 (fY h4).1 e1 e2
 ge id x s b h h1 d h2 e:=by
  obtain ⟨y,a1,a2,rfl⟩:=pE h1
  rw [us] at d
  exact hI.ge id y s b h a1 d (fY h2).1 e
 lt id x s b h1 d h2 e:=by
  obtain ⟨y,a1,a2,rfl⟩:=pE h1
  rw [us] at d
  exact hI.lt id y s b a1 d (fY h2).1 e
 ro:=hI.ro
theorem Inv.roMono (hI:Inv wl B0 w0 R σ H w) (hR:iz R R') (hn:∀ b o,R' b o≠none→R b o≠none∨∀ (id:Nat) (x:B) (s:Sg),H[id]? = some x→x.isDead=false→σ[id]? = some s→s.blk≠some b)
  (hro:∀ (b o:Nat) (v:Value),R' b o=some v→w.cell? ⟨b,o,none⟩=some v):Inv wl B0 w0 R' σ H w where
 below:=hI.below
 base:=hI.base
 len:=hI.len
 blk id b s h1 h2 hh:=by
  by_cases hd:b.isDead=true
  ·cases b <;> first | trivial | cases hd
  ·have hd:b.isDead=false:=by simpa using hd
   exact (hI.blk id b s h1 h2 hh).mono hR (Ext.refl σ) (fun _ _=>rfl) (fun k o hk ho=>(hn k o ho).elim (fun h=>h) (fun h=>absurd hk (h id b s h1 hd h2)))
 inj:=hI.inj
 ge:=hI.ge
 lt:=hI.lt
 ro:=hro
theorem Inv.join {B1:Nat} {w1:World} {τ:List Sg} {K:Hp} (hI:Inv wl B0 w0 R σ H w) (hK:Inv 0 B1 w1 R τ K w) (hB:B0≤B1)
  (hlt:∀ (id:Nat) (x:B) (s:Sg) (b:Nat),H[id]? = some x→x.isDead=false→σ[id]? = some s→s.blk=some b→b<B1) :
  Inv wl B0 w0 R (σ++τ) (H++K.map (B.shift H.length)) w:=by
 have hl:=hI.len
 have cases':∀ (id:Nat) (x:B) (s:Sg),(H++K.map (B.shift H.length))[id]? = some x→(σ++τ)[id]? = some s →
   (H[id]? = some x∧σ[id]? = some s)∨(∃ k y,id=H.length+k∧K[k]? = some y∧x=y.shift H.length∧τ[k]? = some s):=by
  intro id x s h1 h2
  by_cases hid:id<H.length
  ·rw [List.getElem?_append_left hid] at h1
   rw [List.getElem?_append_left (by omega)] at h2
   exact .inl ⟨h1,h2⟩
  ·rw [List.getElem?_append_right (by omega)] at h1 h2
   obtain ⟨y,hy,rfl⟩:=ol h1
   refine .inr ⟨id - H.length,y,by omega,hy,rfl,?_⟩
   rwa [hl] at h2
 refine ⟨hI.below,hI.base,by simp [hl,hK.len],?_,?_,?_,?_,hI.ro⟩
 ·intro id x s h1 h2 hh
  rcases cases' id x s h1 h2 with ⟨a,b⟩ | ⟨k,y,rfl,a,rfl,b⟩
  ·exact (hI.blk id x s a b hh).mono (iz.refl R) (Ext.append σ τ) (fun _ _=>rfl) (fun _ _ _ h=>h)
  ·have:=(hK.blk k y s a b hh).shift σ
   rwa [hl] at this
 ·intro i j bi bj si sj b h1 h2 d1 d2 h3 h4 e1 e2
  rcases cases' i bi si h1 h3 with ⟨a,c⟩ | ⟨k,y,rfl,a,rfl,c⟩
  ·rcases cases' j bj sj h2 h4 with ⟨a',c'⟩ | ⟨k',y',rfl,a',rfl,c'⟩
   ·exact hI.inj i j bi bj si sj b a a' d1 d2 c c' e1 e2
   ·rw [ny] at d2
    have:=hlt i bi si b a d1 c e1
    have:=hK.ge k' y' sj b (Nat.zero_le _) a' d2 c' e2
    omega
  ·rw [ny] at d1
   rcases cases' j bj sj h2 h4 with ⟨a',c'⟩ | ⟨k',y',rfl,a',rfl,c'⟩
   ·have:=hlt j bj sj b a' d2 c' e2
    have:=hK.ge k y si b (Nat.zero_le _) a d1 c e1
    omega
   ·rw [ny] at d2
    have:=hK.inj k k' y y' si sj b a a' d1 d2 c c' e1 e2
    omega
 ·intro id x s b h h1 d h2 e
  rcases cases' id x s h1 h2 with ⟨a,c⟩ | ⟨k,y,rfl,a,rfl,c⟩
  ·exact hI.ge id x s b h a d c e
  ·rw [ny] at d
   have:=hK.ge k y s b (Nat.zero_le _) a d c e
   omega
 ·intro id x s b h1 d h2 e
  rcases cases' id x s h1 h2 with ⟨a,c⟩ | ⟨k,y,rfl,a,rfl,c⟩
  ·exact hI.lt id x s b a d c e
  ·rw [ny] at d
   exact hK.lt k y s b a d c e
theorem Inv.start (hI:Inv wl B0 w0 R σ H w):Inv 0 w.heap.size w R [] [] w where
 below:=Below.refl _ w
 base:=Nat.le_refl _
 len:=rfl
 blk id b s h1:=by simp at h1
 inj i j bi bj si sj b h1:=by simp at h1
 ge id x s b h h1:=by simp at h1
 lt id x s b h1:=by simp at h1
 ro:=hI.ro
theorem Inv.look (hI:Inv wl B0 w0 R σ H w):Inv H.length w.heap.size w R σ H w where
 below:=Below.refl _ w
 base:=Nat.le_refl _
 len:=hI.len
 blk:=hI.blk
 inj:=hI.inj
 ge id x s b h h1:=by
  have:=(List.getElem?_eq_some_iff.1 h1).1
  omega
 lt:=hI.lt
 ro:=hI.ro
theorem Inv.drop (hI:Inv wl B0 w0 R σ H w) (id:Nat):Inv wl B0 w0 R σ (H.set id .dead) w:=by
 have old:∀ (i:Nat) (x:B),(H.set id .dead)[i]? = some x→x = .dead∨H[i]? = some x:=by
  intro i x h
  rcases ba h with ⟨_,rfl,_⟩ | ⟨_,h⟩
  ·exact .inl rfl
  ·exact .inr h
 refine ⟨hI.below,hI.base,by simp [hI.len],?_,?_,?_,?_,hI.ro⟩
 ·intro i x s h1 h2 hh
  rcases old i x h1 with rfl | h1
  ·trivial
  ·exact hI.blk i x s h1 h2 hh
 ·intro i j bi bj si sj b h1 h2 d1 d2 h3 h4 e1 e2
  rcases old i bi h1 with rfl | h1
  ·cases d1
  ·rcases old j bj h2 with rfl | h2
   ·cases d2
   ·exact hI.inj i j bi bj si sj b h1 h2 d1 d2 h3 h4 e1 e2
 ·intro i x s b h h1 d h2 e
  rcases old i x h1 with rfl | h1
  ·cases d
  ·exact hI.ge i x s b h h1 d h2 e
 ·intro i x s b h1 d h2 e
  rcases old i x h1 with rfl | h1
  ·cases d
  ·exact hI.lt i x s b h1 d h2 e
theorem Inv.adopt (hI:Inv wl B0 w0 R σ H w) {b:B} {s:Sg}
  (hs:∀ k,s.blk=some k→B0≤k∧k<w.heap.size∧∀ (id:Nat) (x:B) (y:Sg),H[id]? = some x→x.isDead=false→σ[id]? = some y→y.blk≠some k)
  (hr:s.hole=false→Kn R (σ++[s]) w s b):Inv wl B0 w0 R (σ++[s]) (H++[b]) w:=by
 have old:∀ (id:Nat) (x:B) (y:Sg),(H++[b])[id]? = some x→(σ++[s])[id]? = some y→(H[id]? = some x∧σ[id]? = some y)∨(id=H.length∧x=b∧y=s):=by
  intro id x y h1 h2
  rcases fT h1 with ⟨hlt,h1⟩ | ⟨e,h1⟩
  ·rcases fT h2 with ⟨_,h2⟩ | ⟨e2,h2⟩
   ·exact .inl ⟨h1,h2⟩
   ·rw [hI.len] at e2;omega
  ·rcases fT h2 with ⟨hlt,h2⟩ | ⟨e2,h2⟩
   ·rw [hI.len] at hlt;omega
   ·exact .inr ⟨e,h1,h2⟩
 refine ⟨hI.below,hI.base,by simp [hI.len],?_,?_,?_,?_,hI.ro⟩
 ·intro id x y h1 h2 hh
  rcases old id x y h1 h2 with ⟨a,c⟩ | ⟨rfl,rfl,rfl⟩
  ·exact (hI.blk id x y a c hh).mono (iz.refl R) (Ext.append σ [s]) (fun _ _=>rfl) (fun _ _ _ h=>h)
  ·exact hr hh
 ·intro i j bi bj si sj k h1 h2 d1 d2 h3 h4 e1 e2
  rcases old i bi si h1 h3 with ⟨a,c⟩ | ⟨rfl,rfl,rfl⟩
  ·rcases old j bj sj h2 h4 with ⟨a',c'⟩ | ⟨rfl,rfl,rfl⟩
   ·exact hI.inj i j bi bj si sj k a a' d1 d2 c c' e1 e2
   ·exact absurd e1 ((hs k e2).2.2 i bi si a d1 c)
  ·rcases old j bj sj h2 h4 with ⟨a',c'⟩ | ⟨rfl,rfl,rfl⟩
   ·exact absurd e2 ((hs k e1).2.2 j bj sj a' d2 c')
   ·rfl
 ·intro id x y k hle h1 d h2 e
  rcases old id x y h1 h2 with ⟨a,c⟩ | ⟨rfl,rfl,rfl⟩
  ·exact hI.ge id x y k hle a d c e
  ·exact (hs k e).1
 ·intro id x y k h1 d h2 e
  rcases old id x y h1 h2 with ⟨a,c⟩ | ⟨rfl,rfl,rfl⟩
  ·exact hI.lt id x y k a d c e
  ·exact (hs k e).2.1
end cut
end Go.Ab
namespace Go.Ab
open Go.RowKit
section home
variable {P:Program} {B1:Nat} {w1:World} {R R':Ro} {σ σ' τ:List Sg} {H:Hp} {w w':World}
structure Home (B1:Nat) (w1:World) (R:Ro) (σ:List Sg) (H:Hp) (τ:List Sg) (acc:Hp) (w:World):Prop where
 left:Inv 0 B1 w1 R σ H w
 kept:Inv 0 B1 w1 R τ acc w
 apart:∀ (i j:Nat) (x y:B) (s t:Sg) (b:Nat),H[i]? = some x→x.isDead=false→σ[i]? = some s→s.blk=some b→acc[j]? = some y→y.isDead=false→τ[j]? = some t→t.blk≠some b
theorem Hf {acc acc':Hp} {v v':V} {cv:Value} {H':Hp} (hS:Home B1 w1 R σ H τ acc w) (h:uT v H acc=some (v',H',acc')) (hv:RelV R σ v cv) :
  ∃ τ',Home B1 w1 R σ H' τ' acc' w∧Ext τ τ'∧RelV R τ' v' cv∧(v.one=true→v'.one=true):=by
 unfold uT at h
 split at h
 ·rename_i id g len
  split at h
  ·rename_i e rs g' live hb
   split at h
   ·rename_i hc
    obtain ⟨rfl,c2,c3,c4⟩:=hc
    cases h
    obtain ⟨A,l,c,s,rfl,hs,hh,hg,hl⟩:=mC hv
    obtain ⟨hgen,hesz,hz0,hrow,hnone,hsome⟩:=lO hS.left hb hs hh
    obtain ⟨rfl,hn,hsm⟩:=hl hgen.symm
    let s':Sg:=⟨s.blk,0,e,s.cap,false⟩
    have hrel:Kn R (τ++[s']) w s' (.rows e (rs.take l) 0 live):=by
     refine ⟨rfl,rfl,hz0,fun r hr=>hrow r (List.mem_of_mem_take hr),?_⟩
     cases hblk:s.blk with
     | none=>
      have:=hnone hblk
      subst this
      simp
     | some b=>
      obtain ⟨arr,ty,h5,h6,h7,h8⟩:=hsome b hblk
      refine ⟨arr,ty,h5,h6,fun i j r x hr hx => ?_,fun o ho => ?_⟩
      ·obtain ⟨hr,_⟩:=fY hr
       obtain ⟨cv,a1,a2⟩:=h7 i j r x hr hx
       exact ⟨cv,a1,a2.free _ (mB c4 hr hx)⟩
      ·obtain ⟨h9,h10⟩:=h8 o ho
       refine ⟨h9,?_⟩
       rcases c3 with c3 | c3
       ·rw [c3] at h9;cases h9
       ·rw [List.length_take,c3,Nat.min_self];exact h10
    have hnew:∀ (i:Nat) (x:B) (y:Sg),acc[i]? = some x→x.isDead=false→τ[i]? = some y→∀ k,s'.blk=some k→y.blk≠some k:=fun i x y h1 d h2 k hk=>hS.apart id i _ x s y k hb rfl hs hk h1 d h2
    refine ⟨τ++[s'],⟨hS.left.drop id,hS.kept.adopt (fun k hk=>⟨hS.left.ge id _ s k (Nat.zero_le _) hb rfl hs hk,hS.left.lt id _ s k hb rfl hs hk,fun i x y h1 d h2=>hnew i x y h1 d h2 k hk⟩) (fun _=>hrel),?_⟩,Ext.append τ _,?_,fun _=>rfl⟩
    ·intro i j x y t u b h1 d1 h2 e1 h3 d2 h4
     rcases ba h1 with ⟨_,rfl,_⟩ | ⟨hi,h1⟩
     ·cases d1
     ·rcases fT h3 with ⟨hlt,h3⟩ | ⟨e3,h3⟩
      ·rcases fT h4 with ⟨_,h4⟩ | ⟨e4,_⟩
       ·exact hS.apart i j x y t u b h1 d1 h2 e1 h3 d2 h4
       ·have:=hS.kept.len;omega
      ·rcases fT h4 with ⟨hlt,_⟩ | ⟨_,rfl⟩
       ·have:=hS.kept.len;omega
       ·intro e5
        exact hi (hS.left.inj i id x _ t s b h1 hb d1 rfl h2 hs e1 e5)
    ·refine .own _ _ _ _ _ _ s' (by rw [← hS.kept.len];simp) rfl (Nat.le_refl _) (fun _=>⟨rfl,hn,fun b hb => ?_⟩)
     obtain ⟨a1,a2,a3⟩:=hsm b hb
     refine ⟨a1,a2,?_⟩
     show c*e≤s.cap
     rw [← hesz];exact a3
   ·cases h
  ·cases h
 ·cases h
  cases hv
  exact ⟨τ,hS,Ext.refl τ,.roNil _ _,fun _=>rfl⟩
 ·split at h
  ·rename_i hp
   cases h
   exact ⟨τ,hS,Ext.refl τ,hv.free τ hp,fun h=>h⟩
  ·cases h
theorem G0:∀ {vs vs':List V} {cvs:Array Value} {acc acc' H H':Hp} {τ:List Sg},Home B1 w1 R σ H τ acc w→uC vs H acc=some (vs',H',acc')→b7 R σ vs cvs →
  ∃ τ',Home B1 w1 R σ H' τ' acc' w∧Ext τ τ'∧b7 R τ' vs' cvs∧(bg vs=true→bg vs'=true)
 | [],vs',cvs,acc,acc',H,H',τ,hS,h,hr=>by
  cases h
  have:=hr.nil_inv
  subst this
  exact ⟨τ,hS,Ext.refl τ,b7.nil R τ,fun h=>h⟩
 | v::vs,vs',cvs,acc,acc',H,H',τ,hS,h,hr=>by
  simp only [uC,Option.bind_eq_some_iff] at h
  obtain ⟨p,hp,q,hq,h⟩:=h
  cases h
  obtain ⟨cv,l,rfl,h1,h2⟩:=hr.uncons
  obtain ⟨τ1,s1,x1,r1,o1⟩:=Hf hS hp h1
  obtain ⟨τ2,s2,x2,r2,o2⟩:=G0 s1 hq h2
  refine ⟨τ2,s2,x1.trans x2,(r1.mono (iz.refl R) x2).cons r2,fun ho => ?_⟩
  simp only [bg,List.all_cons,Bool.and_eq_true] at *
  exact ⟨o1 ho.1,o2 ho.2⟩
theorem HK {acc acc':Hp} {v v':V} {cv:Value} {H':Hp} (hS:Home B1 w1 R σ H τ acc w) (h:Ik v H acc=some (v',H',acc')) (hv:RelV R σ v cv) :
  ∃ τ',Home B1 w1 R σ H' τ' acc' w∧Ext τ τ'∧RelV R τ' v' cv:=by
 unfold Ik at h
 split at h
 ·rename_i cs
  simp only [Option.bind_eq_some_iff] at h
  obtain ⟨p,hp,h⟩:=h
  cases h
  obtain ⟨vs,rfl,ho,hr⟩:=Ez hv
  obtain ⟨τ1,s1,x1,r1,o1⟩:=G0 hS hp hr
  exact ⟨τ1,s1,x1,.agg _ _ r1.1 (o1 ho) r1.2⟩
 ·obtain ⟨τ1,s1,x1,r1,_⟩:=Hf hS h hv
  exact ⟨τ1,s1,x1,r1⟩
theorem DO:∀ {vs vs':List V} {cvs:Array Value} {acc acc' H H':Hp} {τ:List Sg},Home B1 w1 R σ H τ acc w→rr vs H acc=some (vs',H',acc')→b7 R σ vs cvs →
  ∃ τ',Home B1 w1 R σ H' τ' acc' w∧Ext τ τ'∧b7 R τ' vs' cvs
 | [],vs',cvs,acc,acc',H,H',τ,hS,h,hr=>by
  cases h
  have:=hr.nil_inv
  subst this
  exact ⟨τ,hS,Ext.refl τ,b7.nil R τ⟩
 | v::vs,vs',cvs,acc,acc',H,H',τ,hS,h,hr=>by
  simp only [rr,Option.bind_eq_some_iff] at h
  obtain ⟨p,hp,q,hq,h⟩:=h
  cases h
  obtain ⟨cv,l,rfl,h1,h2⟩:=hr.uncons
  obtain ⟨τ1,s1,x1,r1⟩:=HK hS hp h1
  obtain ⟨τ2,s2,x2,r2⟩:=DO s1 hq h2
  exact ⟨τ2,s2,x1.trans x2,(r1.mono (iz.refl R) x2).cons r2⟩
theorem ON {keep:Nat→Bool}:∀ {vs vs':List V} {i:Nat} {cvs:Array Value} {H H':Hp} {R:Ro},Inv 0 B1 w1 R σ H w→fzK keep i vs H=some (vs',H')→b7 R σ vs cvs →
  ∃ R',Stp (TB B1) 0 B1 w1 R σ w R' σ H' w∧b7 R' σ vs' cvs
 | [],vs',i,cvs,H,H',R,hI,h,hr=>by
  cases h
  exact ⟨R,Stp.refl hI,hr⟩
 | v::vs,vs',i,cvs,H,H',R,hI,h,hr=>by
  simp only [fzK,Option.bind_eq_some_iff] at h
  obtain ⟨p,hp,q,hq,h⟩:=h
  cases h
  obtain ⟨cv,l,rfl,h1,h2⟩:=hr.uncons
  have step:∃ R1,Stp (TB B1) 0 B1 w1 R σ w R1 σ p.2 w∧RelV R1 σ p.1 cv:=by
   split at hp
   ·cases hp;exact ⟨R,Stp.refl hI,h1⟩
   ·exact FC hI hp h1
  obtain ⟨R1,s1,r1⟩:=step
  obtain ⟨R2,s2,r2⟩:=ON s1.inv hq (h2.mono s1.le s1.ext)
  exact ⟨R2,s1.trans s2 (Nat.le_refl _),(r1.mono s2.le s2.ext).cons r2⟩
theorem Inv.bare (hI:Inv 0 B1 w1 R σ H w):Inv 0 B1 w1 R [] [] w where
 below:=hI.below
 base:=hI.base
 len:=rfl
 blk id b s h1:=by simp at h1
 inj i j bi bj si sj b h1:=by simp at h1
 ge id x s b h h1:=by simp at h1
 lt id x s b h1:=by simp at h1
 ro:=hI.ro
theorem Inv.home (hI:Inv 0 B1 w1 R σ H w):Home B1 w1 R σ H [] [] w:=
 ⟨hI,hI.bare,fun i j x y s t b _ _ _ _ h=>by simp at h⟩
theorem U8 (hI:Inv 0 B1 w1 R σ H w) {keep:Option (Nat→Bool)} {v v':V} {K:Hp} {cv:Value} (h:nE keep v H=some (v',K)) (hv:RelV R σ v cv) :
  ∃ R' τ,Inv 0 B1 w1 R' τ K w∧RelV R' τ v' cv∧iz R R'∧(∀ b o,R' b o≠none→R b o≠none∨B1≤b):=by
 have hnew:∀ {R':Ro} {σ':List Sg} {H':Hp},Stp (TB B1) 0 B1 w1 R σ w R' σ' H' w→∀ b o,R' b o≠none→R b o≠none∨B1≤b:=by
  intro R' σ' H' hst b o hb
  rcases hst.new b o hb with h | h | h
  ·exact .inl h
  ·exact .inr h
  ·have:=hI.base;exact .inr (by omega)
 unfold nE at h
 split at h
 ·simp only [Option.bind_eq_some_iff] at h
  obtain ⟨q,hq,h⟩:=h
  obtain ⟨R',s1,r1⟩:=Kl hI hq hv
  split at h
  ·rename_i hp
   cases h
   exact ⟨R',[],s1.inv.bare,r1.free [] hp,s1.le,hnew s1⟩
  ·cases h
   exact ⟨R',σ,s1.inv,r1,s1.le,hnew s1⟩
 ·rename_i keep
  split at h
  ·rename_i vs
   simp only [Option.bind_eq_some_iff] at h
   obtain ⟨p,hp,q,hq,h⟩:=h
   cases h
   obtain ⟨cvs,rfl,hr⟩:=Qo hv
   obtain ⟨R',s1,r1⟩:=ON hI hp hr
   obtain ⟨τ,s2,_,r2⟩:=DO s1.inv.home hq r1
   exact ⟨R',τ,s2.kept,.tup _ _ r2.1 r2.2,s1.le,hnew s1⟩
  ·simp only [Option.bind_eq_some_iff] at h
   obtain ⟨q,hq,h⟩:=h
   cases h
   obtain ⟨τ,s2,_,r2⟩:=HK hI.home hq hv
   exact ⟨R,τ,s2.kept,r2,iz.refl R,fun b o h => .inl h⟩
end home
end Go.Ab
namespace Go.Ab
open Go.RowKit
section calls
variable {P:Program} {wl B0:Nat} {w0:World} {R R':Ro} {σ σ' τ:List Sg} {H:Hp} {w w':World}
def Ni (wl B0:Nat) (w0:World) (R:Ro) (σ:List Sg) (w:World) (v:V) (H':Hp):Ending→World→Prop
 | .returned cv,w'=>∃ R' σ',Stp (TB B0) wl B0 w0 R σ w R' σ' H' w'∧RelV R' σ' v cv∧w.heap.size≤w'.heap.size
 | _,_=>False
def Q5 (wl B0:Nat) (w0:World) (R:Ro) (σ:List Sg) (w:World) (v:V) (H':Hp):Ending→World→Prop
 | .returned cv,w'=>∃ R' σ',Stp (TB B0) wl B0 w0 R σ w R' σ' H' w'∧RelV R' σ' v cv∧Below w.heap.size w w'
 | _,_=>False
theorem Q5.ends {v:V} {H':Hp} {e:Ending} (h:Q5 wl B0 w0 R σ w v H' e w'):Ni wl B0 w0 R σ w v H' e w':=by
 cases e with
 | returned cv=>obtain ⟨R',σ',a,b,c⟩:=h;exact ⟨R',σ',a,b,c.size⟩
 | panicked=>exact h
 | outgrown=>exact h
def CW (P : Program) (g : FuncId) : Prop := ∃ fn, P.funcs[g]? = some fn ∧ (fn.name == "runtime.NumGoroutine") = false ∧ fn.body.isNone = false
def mr (P:Program) (call:Nat→FuncId→List V→Hp→Option (V×Hp)):Prop:=
 ∀ (wl:Nat) (g:FuncId) (args:List V) (H:Hp) (v:V) (H':Hp),call wl g args H=some (v,H')→CW P g ∧
  ∀ (B0:Nat) (w0:World) (R:Ro) (σ:List Sg) (w:World) (cargs:Array Value),Inv wl B0 w0 R σ H w→b7 R σ args cargs→Calls P g cargs w (Ni wl B0 w0 R σ w v H')
def C7 (P:Program) (yld:Nat→Nat→List V→Hp→Option (V×Hp)):Prop:=
 ∀ (wl l:Nat) (args:List V) (H:Hp) (v:V) (H':Hp),yld wl l args H=some (v,H') →
  ∀ (B0:Nat) (w0:World) (R:Ro) (σ:List Sg) (w:World) (cargs:Array Value),Inv wl B0 w0 R σ H w→b7 R σ args cargs →
   ∀ (b:Nat) (s:Sg),σ[l]? = some s→s.hole=false→(s.gen=0→s.blk=some b)→∃ r:Loop,w.heap[b]? = some (.loop r)∧cargs.size=r.params.size ∧
    ∀ n,RoundIn Fence.wide n P b r.fn ((r.params.zip cargs).foldl (fun tmps (t,a)=>tmps.setIfInBounds t a) r.tmps) r.assign r.body w (Ni wl B0 w0 R σ w v H')
theorem Stp.cut {T:Nat→Prop} {H':Hp} {n:Nat} (h:Stp T wl B0 w0 R σ w R' σ' H' w') (hn:σ.length≤n):Stp T wl B0 w0 R σ w R' (σ'.take n) (pX n H') w' where
 inv:=h.inv.cut n
 ext id s hs:=by
  obtain ⟨s',a,b⟩:=h.ext id s hs
  have:=(List.getElem?_eq_some_iff.1 hs).1
  exact ⟨s',by rw [take_getElem? _ _ _ (by omega)];exact a,b⟩
 le:=h.le
 new:=h.new
 fr:=h.fr
 df:=h.df
 hl id s hs hh:=by
  have:=(List.getElem?_eq_some_iff.1 hs).1
  rw [take_getElem? _ _ _ (by omega)]
  exact h.hl id s hs hh
theorem RelV.scal (R':Ro) (σ':List Sg) {v:V} {cv:Value} (h:RelV R σ v cv):v.scal=true→RelV R' σ' v cv:=by
 have get:∀ {l:List V},lz l=true→∀ {i:Nat} {x:V},l[i]? = some x→x.scal=true:=by
  intro l hl i x hx
  induction l generalizing i with
  | nil=>simp at hx
  | cons a l ih=>
   simp only [lz,Bool.and_eq_true] at hl
   cases i with
   | zero=>simp at hx;subst hx;exact hl.1
   | succ i=>exact ih hl.2 (by simpa using hx)
 induction h with
 | lit v=>exact fun _ => .lit v
 | agg cs vs hl ho h ih=>exact fun hp => .agg cs vs hl ho (fun i c hc=>ih i c hc (get (by simpa [V.scal] using hp) hc))
 | tup cs vs hl h ih=>exact fun hp => .tup cs vs hl (fun i c hc=>ih i c hc (get (by simpa [V.scal] using hp) hc))
 | _=>simp [V.scal]
theorem GD (hI:Inv wl B0 w0 R σ H w) {R1:Ro} {σ1:List Sg} {H1:Hp} (s:Stp (TB w.heap.size) 0 w.heap.size w R [] w R1 σ1 H1 w')
  {R2:Ro} (hle:iz R1 R2) (hnew:∀ b o,R2 b o≠none→R1 b o≠none∨w.heap.size≤b) (hro:∀ (b o:Nat) (v:Value),R2 b o=some v→w'.cell? ⟨b,o,none⟩=some v) :
  Inv wl B0 w0 R2 σ H w'∧iz R R2∧(∀ b o,R2 b o≠none→R b o≠none∨w.heap.size≤b):=by
 have hnew':∀ b o,R2 b o≠none→R b o≠none∨w.heap.size≤b:=by
  intro b o hb
  rcases hnew b o hb with h | h
  ·rcases s.new b o h with h | h | h
   ·exact .inl h
   ·exact .inr h
   ·exact .inr h
  ·exact .inr h
 refine ⟨(hI.world s.inv.below).roMono (s.le.trans hle) (fun b o hb => ?_) hro,s.le.trans hle,hnew'⟩
 rcases hnew' b o hb with h | h
 ·exact .inl h
 ·refine .inr fun id x t h1 d h2 e => ?_
  have:=hI.lt id x t b h1 d h2 e
  omega
theorem o6 {cx:Cx} (hP:cx.P=P) (hC:mr P cx.call) {g:FuncId} {args:List V} {v:V} {H':Hp} {cargs:Array Value} (h:lN cx g args H=some (v,H')) (hp:aW args=true)
  (hI:Inv wl B0 w0 R σ H w) (hA:b7 R σ args cargs):CW P g∧Calls P g cargs w (Q5 wl B0 w0 R σ w v H'):=by
 subst hP
 unfold lN at h
 simp only [Option.bind_eq_some_iff] at h
 obtain ⟨p,hc,q,hq,h⟩:=h
 cases h
 obtain ⟨pv,pH⟩:=p
 obtain ⟨hE,hcall⟩:=hC 0 g args [] pv pH hc
 refine ⟨hE,(hcall _ _ _ _ _ _ hI.start (hA.free [] hp)).mono fun e w' he => ?_⟩
 cases e with
 | panicked=>exact he
 | outgrown=>exact he
 | returned cv=>
  obtain ⟨R1,σ1,s,r,hsz⟩:=he
  obtain ⟨R2,τ,hK,r2,hle,hnew⟩:=U8 s.inv hq r
  obtain ⟨hI2,hle2,hnew2⟩:=GD hI s hle hnew hK.ro
  have hj:=hI2.join hK hI.base hI.lt
  have hb:=s.inv.below
  refine ⟨R2,σ++τ,⟨hj,Ext.append σ τ,hle2,fun b o ho=>(hnew2 b o ho).imp id .inr,fun b hlt _=>hb.block b hlt,fun b ds hd=>hb.block b (Array.getElem?_eq_some_iff.1 hd).1,
   fun id t ht _=>by rw [List.getElem?_append_left (List.getElem?_eq_some_iff.1 ht).1];exact ht⟩,?_,hb⟩
  have:=r2.shift σ
  rwa [hI.len] at this
theorem I8 {cx:Cx} (hP:cx.P=P) (hW:cx.wl=wl) (hC:mr P cx.call) {g:FuncId} {args:List V} {v:V} {H':Hp} {cargs:Array Value} (h:FF cx g args H=some (v,H'))
  (hI:Inv wl B0 w0 R σ H w) (hA:b7 R σ args cargs):CW P g∧Calls P g cargs w (Ni wl B0 w0 R σ w v H'):=by
 subst hW
 unfold FF at h
 simp only [Option.bind_eq_some_iff] at h
 obtain ⟨a,ha,h⟩:=h
 have step:∃ R1,Stp (TB B0) cx.wl B0 w0 R σ w R1 σ a.2 w∧b7 R1 σ a.1 cargs:=by
  split at ha
  ·cases ha;exact ⟨R,Stp.refl hI,hA⟩
  ·exact AX hI ha hA
 obtain ⟨R1,s1,r1⟩:=step
 split at h
 ·rename_i hp
  simp only [Option.bind_eq_some_iff] at h
  obtain ⟨q,hq,h⟩:=h
  cases h
  obtain ⟨hE,hcall⟩:=o6 hP hC (v:=q.1) (H':=q.2) hq hp s1.inv r1
  refine ⟨hE,hcall.mono fun e w' he => ?_⟩
  cases e with
  | panicked=>exact he
  | outgrown=>exact he
  | returned cv=>
   obtain ⟨R2,σ2,s2,r2,hb⟩:=he
   cases hs:q.1.scal with
   | false=>exact ⟨R2,σ2,s1.trans s2 (Nat.le_refl _),r2,hb.size⟩
   | true=>exact ⟨R,σ,hI.stp hb,r2.scal R σ hs,hb.size⟩
 ·simp only [Option.bind_eq_some_iff] at h
  obtain ⟨p,hc,q,hq,h⟩:=h
  obtain ⟨pv,pH⟩:=p
  obtain ⟨hE,hcall⟩:=hC _ g a.1 a.2 pv pH hc
  subst hP
  refine ⟨hE,(hcall _ _ _ _ _ _ s1.inv r1).mono fun e w' he => ?_⟩
  cases e with
  | panicked=>exact he
  | outgrown=>exact he
  | returned cv=>
   obtain ⟨R2,σ2,s2,r2,hsz⟩:=he
   have step:∃ R3,Stp (TB B0) cx.wl B0 w0 R2 σ2 w' R3 σ2 q.2 w'∧RelV R3 σ2 q.1 cv:=by
    split at hq
    ·cases hq;exact ⟨R2,Stp.refl s2.inv,r2⟩
    ·exact Kl s2.inv hq r2
   obtain ⟨R3,s3,r3⟩:=step
   have hst:=(s1.trans s2 (Nat.le_refl _)).trans s3 hsz
   split at h
   ·rename_i hp
    cases h
    have hl:σ.length≤a.2.length:=by rw [← s1.inv.len];exact Nat.le_refl _
    exact ⟨R3,_,hst.cut hl,r3.free _ hp,hsz⟩
   ·cases h
    exact ⟨R3,σ2,hst,r3,hsz⟩
theorem G8 {cx:Cx} (hP:cx.P=P) (hW:cx.wl=wl) (hC:mr P cx.call) {ord:Bool} {g:FuncId} {args:List V} {v:V} {H':Hp} {cargs:Array Value} (h:lK cx ord g args H=some (v,H'))
  (hI:Inv wl B0 w0 R σ H w) (hA:b7 R σ args cargs):CW P g∧Calls P g cargs w (Q5 wl B0 w0 R σ w v H'):=by
 subst hW
 unfold lK at h
 split at h
 ·split at h
  ·rename_i hp
   exact o6 hP hC h hp hI hA
  ·split at h
   ·cases h
   ·simp only [Option.bind_eq_some_iff] at h
    obtain ⟨a,ha,h⟩:=h
    obtain ⟨R1,s1,r1⟩:=AX hI ha hA
    split at h
    ·rename_i hp
     simp only [Option.bind_eq_some_iff] at h
     obtain ⟨q,hq,h⟩:=h
     cases h
     obtain ⟨hE,hcall⟩:=o6 hP hC (v:=q.1) (H':=q.2) hq hp s1.inv r1
     refine ⟨hE,hcall.mono fun e w' he => ?_⟩
     cases e with
     | panicked=>exact he
     | outgrown=>exact he
     | returned cv=>
      obtain ⟨R2,σ2,s2,r2,hb⟩:=he
      cases hs:q.1.scal with
      | false=>exact ⟨R2,σ2,s1.trans s2 (Nat.le_refl _),r2,hb⟩
      | true=>exact ⟨R,σ,hI.stp hb,r2.scal R σ hs,hb⟩
    ·simp only [Option.bind_eq_some_iff] at h
     obtain ⟨p,hc,h⟩:=h
     split at h
     ·rename_i hs
      cases h
      obtain ⟨pv,pH⟩:=p
      obtain ⟨hE,hcall⟩:=hC _ g a.1 a.2 pv pH hc
      subst hP
      refine ⟨hE,(hcall _ _ _ _ _ _ s1.inv.look r1).mono fun e w' he => ?_⟩
      cases e with
      | panicked=>exact he
      | outgrown=>exact he
      | returned cv=>
       obtain ⟨R2,σ2,s2,r2,_⟩:=he
       exact ⟨R,σ,hI.stp s2.inv.below,r2.scal R σ hs,s2.inv.below⟩
     ·cases h
 ·split at h
  ·rename_i hp
   simp only [Option.bind_eq_some_iff] at h
   obtain ⟨p,hc,q,hq,h⟩:=h
   split at h
   ·rename_i hpq
    cases h
    obtain ⟨pv,pH⟩:=p
    obtain ⟨hE,hcall⟩:=hC 0 g args [] pv pH hc
    subst hP
    refine ⟨hE,(hcall _ _ _ _ _ _ hI.start (hA.free [] hp)).mono fun e w' he => ?_⟩
    cases e with
    | panicked=>exact he
    | outgrown=>exact he
    | returned cv=>
     obtain ⟨R1,σ1,s,r,hsz⟩:=he
     obtain ⟨R2,s2,r2⟩:=Kl s.inv hq r
     have hnew:∀ b o,R2 b o≠none→R1 b o≠none∨w.heap.size≤b:=fun b o hb=>by
      rcases s2.new b o hb with h | h | h
      ·exact .inl h
      ·exact .inr h
      ·exact .inr (by omega)
     obtain ⟨hI2,hle2,hnew2⟩:=GD hI s s2.le hnew s2.inv.ro
     have hb:=s.inv.below
     exact ⟨R2,σ,⟨hI2,Ext.refl σ,hle2,fun b o ho=>(hnew2 b o ho).imp id .inr,fun b hlt _=>hb.block b hlt,fun b ds hd=>hb.block b (Array.getElem?_eq_some_iff.1 hd).1,fun _ _ h _=>h⟩,r2.free σ hpq,hb⟩
   ·cases h
  ·cases h
theorem HI {g:FuncId} {args:Array Value} (h:CW P g):(callFunc g args).run P w = .ok (.enter g args) w:=by
 obtain ⟨fn,h1,h2,h3⟩:=h
 have h2 : fn.name ≠ "runtime.NumGoroutine" := by simpa using h2
 cases hb:fn.body with
 | none=>rw [hb] at h3;cases h3
 | some c=>simp [callFunc,Sem.run_bind,h1,h2,hb]
theorem rq {p q:V×Hp} (h:dD H p=some q):p=q:=by
 unfold dD at h
 split at h
 ·exact Option.some.inj h
 ·cases h
def Fw (r:Option Nat):Fence := { Fence.wide with round:=r }
theorem Ec {r:Option Nat} {n:Nat} {f:FuncId} {args:Array Value} {X:Ending→World→Prop} (h:Calls P f args w X):CallsIn (Fw r) n P f args w X:=
 (callsIn_wide (n:=n)).2 h
theorem Ij (cas cbs:Array Value) (i:Nat):(cas++cbs).getD i undef=if i<cas.size then cas.getD i undef else cbs.getD (i - cas.size) undef:=by
 simp only [Array.getD_eq_getD_getElem?,Array.getElem?_append]
 split <;> rfl
theorem nF {as bs:List V} {cas cbs:Array Value} (h1:b7 R σ as cas) (h2:b7 R σ bs cbs):b7 R σ (as++bs) (cas++cbs):=by
 refine ⟨by simp [h1.1,h2.1],fun i c hc => ?_⟩
 rw [Ij]
 by_cases hi:i<as.length
 ·rw [List.getElem?_append_left hi] at hc
  rw [if_pos (by rw [h1.1];exact hi)]
  exact h1.2 i c hc
 ·rw [List.getElem?_append_right (by omega)] at hc
  rw [if_neg (by rw [h1.1];exact hi),h1.1]
  exact h2.2 _ c hc
theorem WQ {f:Fn} {a b:List V} {cv:Value} (h:RelV R σ (.fn f a b) cv):∃ va vb,cv = .func f va vb∧b7 R σ a va∧b7 R σ b vb:=by
 cases h with
 | fn f a b va vb ha hb h1 h2=>exact ⟨va,vb,rfl,⟨ha,h1⟩,⟨hb,h2⟩⟩
theorem Yq {l:Nat} {cv:Value} (h:RelV R σ (.yld l) cv):∃ b s,cv = .func (.yield b) #[] #[]∧σ[l]? = some s∧s.hole=false∧(s.gen=0→s.blk=some b):=by
 cases h with
 | yld _ b s h1 h2 h3=>exact ⟨b,s,rfl,h1,h2,h3⟩
theorem SX {cx:Cx} (hP:cx.P=P) (hW:cx.wl=wl) (hC:mr P cx.call) (hY:C7 P cx.yld) {ro:Option Nat} {n:Nat} {calm ord:Bool} {o:Oper} {env:List V} {a:Act} {v:V} {H':Hp}
  {Q:Exit→Act→World→Prop} {K:Act→World→Prop}
  (hI:Inv wl B0 w0 R σ H w) (hE:b7 R σ env a.tmps) (h:opV cx calm ord o.op env H=some (v,H'))
  (hK:∀ (cv:Value) (w':World) (R':Ro) (σ':List Sg),Stp (TB B0) wl B0 w0 R σ w R' σ' H' w'→RelV R' σ' v cv→w.heap.size≤w'.heap.size→K (a.put o.dst cv) w') :
  o.wpIn (Fw ro) n P a w K Q:=by
 refine ⟨fun _ _=>trivial,?_⟩
 have hsem:o.semAt (Fw ro).round a.eval=execOp a.eval o:=by
  refine Oper.semAt_eq _ _ _ (fun c hc => ?_)
  rw [hc] at h
  cases h
 rw [hsem]
 by_cases hc:iX o.op=true
 ·-- a call
  unfold iX at hc
  split at hc
  ·rename_i c ho
   split at hc
   ·rename_i f hf
    rw [ho] at h
    simp only [opV,hf,Option.bind_eq_some_iff] at h
    obtain ⟨fv,hfv,as,has,h⟩:=h
    have hF:=bJ hE hfv
    have hA:=u7 hE has
    rw [toL] at hA
    unfold nZ at h
    split at h
    ·rename_i g first caps
     obtain ⟨va,vb,he,hfi,hca⟩:=WQ hF
     have hall:=nF (nF hfi hA) hca
     have key:CW P g∧Calls P g (va++c.args.map a.eval++vb) w (Ni wl B0 w0 R σ w v H'):=by
      split at h
      ·obtain ⟨h1,h2⟩:=G8 hP hW hC h hI hall
       exact ⟨h1,h2.mono fun _ _=>Q5.ends⟩
      ·obtain ⟨q,hq,hn⟩:=Option.bind_eq_some_iff.1 h
       have:q=(v,H'):=rq hn
       subst this
       exact I8 hP hW hC hq hI hall
     have hrun:(execOp a.eval o).run P w = .ok (.enter g (va++c.args.map a.eval++vb)) w:=by
      simp only [execOp,ho,resolve,hf,he,Deferred.ofValue,Sem.run_bind,Sem.run_pure,Result.andThen_ok,invoke,HI key.1]
     rw [hrun,Oper.uponIn_enter]
     refine ⟨fun h=>(by cases h),(Ec key.2).mono fun e w' he => ?_⟩
     cases e with
     | panicked=>exact he.elim
     | outgrown=>exact he.elim
     | returned cv=>
      obtain ⟨R',σ',s,r,hsz⟩:=he
      exact hK cv w' R' σ' s r hsz
    ·rename_i l
     split at h
     ·cases h
     ·simp only [Option.bind_eq_some_iff] at h
      obtain ⟨fa,hfa,q,h,hn⟩:=h
      have:q=(v,H'):=rq hn
      subst this
      obtain ⟨b,s,he,hs,hh,hg⟩:=Yq hF
      subst hW
      obtain ⟨R1,s1,r1⟩:=AX hI hfa hA
      obtain ⟨r,hr,hsz,hround⟩:=hY _ l fa.1 fa.2 v H' h B0 w0 R1 σ w _ s1.inv r1 b s hs hh hg
      have hy:=run_yield (P:=P) (l:=b) (args:=c.args.map a.eval) hr hsz
      have hrun:(execOp a.eval o).run P w = .ok (.round b r.fn ((r.params.zip (c.args.map a.eval)).foldl (fun tmps (t,a)=>tmps.setIfInBounds t a) r.tmps) r.assign r.body) w:=by
       simp only [execOp,ho,resolve,hf,he,Deferred.ofValue,Sem.run_bind,Sem.run_pure,Result.andThen_ok,invoke,Array.empty_append,hy]
      rw [hrun,Oper.uponIn_round]
      refine ⟨fun h=>(by cases h),RoundIn.mono (show RoundIn (Fw ro) (n - 1) P _ _ _ _ _ _ _ from hround (n - 1)) fun e w' he => ?_⟩
      cases e with
      | panicked=>exact he.elim
      | outgrown=>exact he.elim
      | returned cv=>
       obtain ⟨R',σ',s2,r2,hsz2⟩:=he
       exact hK cv w' R' σ' (s1.trans s2 (Nat.le_refl _)) r2 hsz2
    ·cases h
   ·cases hc
  ·cases hc
 ·have hc:iX o.op=false:=by simpa using hc
  obtain ⟨nx,cv,w',R',σ',hrun,hnx,hst,hr,hsz⟩:=QY hP hW hI hE hc h
  rw [hrun]
  rcases hnx with rfl | ⟨rfl,rfl⟩
  ·rw [Oper.uponIn_value];exact hK _ _ _ _ hst hr hsz
  ·rw [Oper.uponIn_skip];exact hK _ _ _ _ hst hr hsz
end calls
end Go.Ab
namespace Go.Ab
open Go.RowKit
section region
variable {P:Program} {wl B0:Nat} {w0:World} {R0 R R':Ro} {σ0 σ σ':List Sg} {ws:World} {n1:Nat} {H:Hp} {w w':World}
def Au (n1:Nat):List Deferred→World→Prop
 | [],_=>True
 | d::ds,w=>(∃ r,d.target = .collected r∧n1≤r∧w.heap[r]? = some (.deferred (some []))∧∀ d' ∈ ds,d'.target ≠ .collected r)∧Au n1 ds w
theorem Au.keep:∀ {ds:List Deferred},Au n1 ds w→(∀ (b:Nat) (x:Option (List Deferred)),w.heap[b]? = some (.deferred x)→w'.heap[b]? = w.heap[b]?)→Au n1 ds w'
 | [],_,_=>trivial
 | _::_,⟨⟨r,h1,h2,h3,h4⟩,h5⟩,hk=>⟨⟨r,h1,h2,(hk r _ h3).trans h3,h4⟩,h5.keep hk⟩
structure At (wl B0:Nat) (w0:World) (R0:Ro) (σ0:List Sg) (ws:World) (n1:Nat) (s:St) (R:Ro) (σ:List Sg) (a:Act) (w:World):Prop where
 env:b7 R σ s.env a.tmps
 stp:Stp (TB B0) wl B0 w0 R0 σ0 ws R σ s.H w
 size:ws.heap.size≤w.heap.size
 marks:Au n1 a.defers w
theorem Dy (a:Act) (d:Option Tmp) (v:Value):(a.put d v).defers=a.defers:=by cases d <;> rfl
theorem MA {env:List V} {tmps:Array Value} {a:Act} (h:b7 R σ env a.tmps) (d:Option Tmp) {v:V} {cv:Value} (hv:RelV R σ v cv):b7 R σ (oL env d v) (a.put d cv).tmps:=by
 cases d with
 | none=>exact h
 | some d=>exact h.set d hv
theorem At.op {s:St} {a:Act} (h:At wl B0 w0 R0 σ0 ws n1 s R σ a w) {v:V} {cv:Value} {H':Hp} (d:Option Tmp) (st:Stp (TB B0) wl B0 w0 R σ w R' σ' H' w') (hv:RelV R' σ' v cv) (hs:w.heap.size≤w'.heap.size) :
  At wl B0 w0 R0 σ0 ws n1 ⟨oL s.env d v,H'⟩ R' σ' (a.put d cv) w' where
 env:=MA (tmps:=a.tmps) (h.env.mono st.le st.ext) d hv
 stp:=h.stp.trans st h.size
 size:=Nat.le_trans h.size hs
 marks:=by rw [Dy];exact h.marks.keep st.df
def nq (ops:Array Oper) (o:Oper) (env:List V) (ran:Bool):Prop:=
 match o.guard with
 | none=>ran=true
 | some (j,want)=>∃ d,(ops[j]?).bind (·.dst)=some d∧((∃ b,env[d]? = some (.lit (.bool b))∧ran=(b==want))∨(∃ vs,env[d]? = some (.lit (.tuple vs))∧ran=false))
theorem nq.wanted {ops:Array Oper} {o:Oper} {env:List V} {ran:Bool} (h:nq ops o env ran) {tmps:Array Value}
  (hE:∀ j want d c,o.guard=some (j,want)→(ops[j]?).bind (·.dst)=some d→env[d]? = some c→∃ v,tmps[d]? = some v∧RelV R σ c v):Region.wanted o (yielded ops tmps)=ran:=by
 unfold nq at h
 unfold Region.wanted
 cases hg:o.guard with
 | none=>rw [hg] at h;exact h.symm
 | some p=>
  obtain ⟨j,want⟩:=p
  rw [hg] at h
  obtain ⟨d,hd,h⟩:=h
  simp only [yielded,hd,Option.bind_some]
  rcases h with ⟨b,hb,rfl⟩ | ⟨vs,hvs,rfl⟩
  ·obtain ⟨v,hv,hr⟩:=hE j want d _ hg hd hb
   have:=hr.lit_inv
   subst this
   rw [hv]
   cases b <;> cases want <;> rfl
  ·obtain ⟨v,hv,hr⟩:=hE j want d _ hg hd hvs
   have:=hr.lit_inv
   subst this
   rw [hv]
   rfl
variable {T:Type}
theorem H8 {cx:Cx} {n0:Nat} {rg:Rg} {ops:Array Oper} {o:Oper} {i:Nat} {rest:List (Oper×Nat)} {logs:List Nat×List Nat} {K:St→Option T} {s:St} {r:T}
  (h:FX cx n0 rg ops ((o,i)::rest) logs K s=some r) :
  (nq ops o s.env true∧fb n0 (rg.strict i) o.op s.env=true∧∃ p,opV cx (rg.calm i) (rg.ord i) o.op s.env s.H=some p∧FX cx n0 rg ops rest (LM rg i o.op s.env logs) K ⟨oL s.env o.dst p.1,p.2⟩=some r) ∨
  (nq ops o s.env false∧FX cx n0 rg ops rest logs K ⟨oL s.env o.dst (.lit undef),s.H⟩=some r):=by
 have run:∀ {env:List V},(if fb n0 (rg.strict i) o.op env then
    (opV cx (rg.calm i) (rg.ord i) o.op env s.H).bind fun p=>FX cx n0 rg ops rest (LM rg i o.op env logs) K ⟨oL env o.dst p.1,p.2⟩
   else none)=some r→fb n0 (rg.strict i) o.op env=true∧∃ p,opV cx (rg.calm i) (rg.ord i) o.op env s.H=some p∧FX cx n0 rg ops rest (LM rg i o.op env logs) K ⟨oL env o.dst p.1,p.2⟩=some r:=by
  intro env h
  split at h
  ·rename_i hs
   simp only [Option.bind_eq_some_iff] at h
   exact ⟨hs,h⟩
  ·cases h
 unfold FX at h
 simp only at h
 split at h
 ·rename_i hg
  exact .inl ⟨by unfold nq;rw [hg],run h⟩
 ·rename_i j want hg
  split at h
  ·cases h
  ·rename_i d hd
   split at h
   ·rename_i b hb
    have hset:∀ b',b=b'→s.env.set d (.lit (.bool b'))=s.env:=by
     rintro _ rfl
     apply List.ext_getElem?
     intro k
     by_cases hk:k=d
     ·subst hk;rw [List.getElem?_set_self (List.getElem?_eq_some_iff.1 hb).1,hb]
     ·rw [List.getElem?_set_ne (by omega)]
    have gv:∀ ran,ran=(b==want)→nq ops o s.env ran:=fun ran e=>by
     unfold nq
     rw [hg]
     exact ⟨d,hd,.inl ⟨b,hb,e⟩⟩
    unfold JD at h
    cases b with
    | true=>
     rw [cond_true] at h
     cases want with
     | true=>rw [if_pos rfl,hset true rfl] at h;exact .inl ⟨gv _ rfl,run h⟩
     | false=>rw [if_neg (by simp),hset true rfl] at h;exact .inr ⟨gv _ rfl,h⟩
    | false=>
     rw [cond_false] at h
     cases want with
     | true=>rw [if_pos rfl,hset false rfl] at h;exact .inr ⟨gv _ rfl,h⟩
     | false=>rw [if_neg (by simp),hset false rfl] at h;exact .inl ⟨gv _ rfl,run h⟩
   ·rename_i vs hvs
    exact .inr ⟨by unfold nq;rw [hg];exact ⟨d,hd,.inr ⟨vs,hvs,rfl⟩⟩,h⟩
   ·cases h
theorem Mu {cx:Cx} (hP:cx.P=P) (hW:cx.wl=wl) (hC:mr P cx.call) (hY:C7 P cx.yld) {ro:Option Nat} {n n0:Nat} {ops:Array Oper} {K:St→Option T} {r:T} {Q:Exit→Act→World→Prop}
  (hQ:∀ (s:St) (R:Ro) (σ:List Sg) (a:Act) (w:World),K s=some r→At wl B0 w0 R0 σ0 ws n1 s R σ a w→Q .normal a w) :
  ∀ (l:List (Oper×Nat)),(∀ p ∈ l,ops[p.2]? = some p.1)→∀ (s:St) (logs:List Nat×List Nat) (R:Ro) (σ:List Sg) (a:Act) (w:World),
   FX cx n0 Rg.none ops l logs K s=some r→At wl B0 w0 R0 σ0 ws n1 s R σ a w→wpOpsIn (Fw ro) n P ops Q (l.map (·.2)) a w
 | [],_,s,logs,R,σ,a,w,h,hA=>hQ s R σ a w h hA
 | (o,i)::rest,hl,s,logs,R,σ,a,w,h,hA=>by
  have ho:ops[i]? = some o:=hl (o,i) (by simp)
  have ih:=Mu hP hW hC hY (ro:=ro) (n:=n) (n0:=n0) hQ rest (fun p hp=>hl p (by simp [hp]))
  have hgd:∀ j want d c,o.guard=some (j,want)→(ops[j]?).bind (·.dst)=some d→s.env[d]? = some c→∃ v,a.tmps[d]? = some v∧RelV R σ c v:=fun j want d c _ _ hc=>hA.env.get hc
  simp only [List.map_cons,wpOpsIn,ho]
  rcases H8 h with ⟨hg,_,p,hp,hr⟩ | ⟨hg,hr⟩
  ·rw [hg.wanted hgd]
   simp only [if_true]
   exact SX hP hW hC hY hA.stp.inv hA.env hp (fun cv w' R' σ' st hv hs=>ih _ _ _ _ _ _ hr (hA.op o.dst st hv hs))
  ·rw [hg.wanted hgd]
   simp only [Bool.false_eq_true,if_false]
   exact ⟨fun _ _=>trivial,ih _ _ _ _ _ _ hr (hA.op o.dst (Stp.refl hA.stp.inv) (.lit undef) (Nat.le_refl _))⟩
theorem Ih (ops:Array Oper):(∀ p ∈ ops.toList.zipIdx,ops[p.2]? = some p.1)∧ops.toList.zipIdx.map (·.2)=List.range ops.size:=by
 constructor
 ·rintro ⟨o,i⟩ hp
  have:=List.mem_zipIdx_iff_getElem?.1 hp
  simpa using this
 ·simp [List.range_eq_range']
end region
end Go.Ab
namespace Go.Ab
section
variable {F:Fence} {n:Nat} {P:Program} {a:Act} {w:World} {Q:Exit→Act→World→Prop}
theorem Bn {b:Frame} {k:List Item} {cs:List Frame} {c:Code} :
  step P (lone (b.atR a (.code (.scope c)::k)) cs w) = .next (lone (b.atR a (.code c :: .inScope c::k)) cs w):=
 step_lone_go (by simp [stepG,stepG.exec,Frame.atR])
theorem FP {b:Frame} {k:List Item} {cs:List Frame} {c:Code} :
  step P (lone (b.atR a (.inScope c::k)) cs w) = .next (lone (b.atR a k) cs w):=
 step_lone_go (by simp [stepG,stepG.exec,Frame.atR])
def alJ (c:Code) (Q:Exit→Act→World→Prop):Exit→Act→World→Prop
 | .goto l,a,w=>findLabel c l=none∧Q (.goto l) a w
 | e,a,w=>Q e a w
def AG (F:Fence) (n:Nat) (P:Program) (c:Code) (Q:Exit→Act→World→Prop):Exit→Act→World→Prop
 | .goto l,a,w=>match findLabel c l with
  | some rest=>rest.wpIn F n P (alJ c Q) a w
  | none=>Q (.goto l) a w
 | e,a,w=>Q e a w
theorem w9 {c:Code} {b:Frame} {k:List Item} {cs:List Frame} {m:Machine} {e:Exit} {a':Act} {w':World} (hb:F.fn b.fn) (hr:F.room (cs.length+1+n))
  (hg:∀ l,e = .goto l→findLabel c l=none) (h:ArrivesIn (Machine.fenced P F) P m b (.inScope c::k) cs e a' w'):ArrivesIn (Machine.fenced P F) P m b k cs e a' w':=by
 cases e with
 | normal=>exact StepsIn.trans h (.one (fenced_calm hb hr rfl) FP)
 | exit id=>
  have hx:exitTo id (.inScope c::k)=exitTo id k:=by simp [exitTo]
  exact ⟨fun k' hk=>h.1 k' (by rw [hx];exact hk),fun hr hk=>h.2 hr (by rw [hx];exact hk)⟩
 | goto l=>
  have hx:gotoIn l (.inScope c::k)=gotoIn l k:=by simp [gotoIn,hg l rfl]
  exact ⟨fun k' hk=>h.1 k' (by rw [hx];exact hk),fun hr hk=>h.2 hr (by rw [hx];exact hk)⟩
 | ret=>exact h
 | panic ch=>exact h
 | outgrown=>exact h
theorem Iz {c:Code} (h:c.wpIn F n P (AG F n P c Q) a w):(Code.scope c).wpIn F n P Q a w:=by
 intro b k cs hro hb hr
 have h0:(lone (b.atR a (.code (.scope c)::k)) cs w).fenced P F:=fenced_calm hb hr rfl
 obtain ⟨e,a₁,w₁,hq,harr⟩:=h b (.inScope c::k) cs hro hb hr
 by_cases hg:∃ l rest,e = .goto l∧findLabel c l=some rest
 ·obtain ⟨l,rest,rfl,hl⟩:=hg
  simp only [AG,hl] at hq
  have hgo:=harr.1 (.code rest :: .inScope c::k) (by simp [gotoIn,hl])
  obtain ⟨e₂,a₂,w₂,hq₂,harr₂⟩:=hq b (.inScope c::k) cs hro hb hr
  refine ⟨e₂,a₂,w₂,?_,.of_steps (.head h0 Bn hgo) (w9 hb hr (fun l' e' => ?_) harr₂)⟩
  ·cases e₂ <;> first | exact hq₂ | exact hq₂.2
  ·subst e';exact hq₂.1
 ·have hno:∀ l,e = .goto l→findLabel c l=none:=by
   intro l he
   cases hl:findLabel c l with
   | none=>rfl
   | some rest=>exact absurd ⟨l,rest,he,hl⟩ hg
  refine ⟨e,a₁,w₁,?_,.of_steps (.one h0 Bn) (w9 hb hr hno harr)⟩
  cases e with
  | goto l=>simpa only [AG,hno l rfl] using hq
  | _=>exact hq
end
end Go.Ab
namespace Go.Ab
open Go.RowKit
section code
variable {P:Program} {wl B0:Nat} {w0:World} {R0 R R':Ro} {σ0 σ σ':List Sg} {ws:World} {n1:Nat} {H:Hp} {w w':World}
variable {T:Type}
def Out.toE:Out→Exit
 | .norm => .normal
 | .exit id => .exit id
 | .goto l => .goto l
 | .ret => .ret
def SZ (wl B0:Nat) (w0:World) (R0:Ro) (σ0:List Sg) (ws:World) (n1:Nat) (K:Out→St→Option T) (r:T):Exit→Act→World→Prop:=fun e a w=>
 ∃ (o:Out) (s:St) (R:Ro) (σ:List Sg),e=o.toE∧K o s=some r∧At wl B0 w0 R0 σ0 ws n1 s R σ a w
def Ei (P:Program):Prop:=
 ∀ (cx:Cx),cx.P=P→mr P cx.call→C7 P cx.yld→∀ (T:Type) (B0:Nat) (w0:World) (R0:Ro) (σ0:List Sg) (ws:World) (n1:Nat) (ro:Option Nat) (n id:Nat) (ops:Array Oper) (K:St→Option T) (r:T) (Q:Exit→Act→World→Prop),
  (∀ (s:St) (R:Ro) (σ:List Sg) (a:Act) (w:World),K s=some r→At cx.wl B0 w0 R0 σ0 ws n1 s R σ a w→Q .normal a w)→Fx ops=true →
  ∀ (s:St) (R:Ro) (σ:List Sg) (a:Act) (w:World),FX cx s.H.length (u9 ops) ops (aw ops) ([],[]) K s=some r→At cx.wl B0 w0 R0 σ0 ws n1 s R σ a w→(Code.region id ops true).wpIn (Fw ro) n P Q a w
theorem eW:∀ (c:Code) (l:Nat),bO l c=(findLabel c l).isSome
 | .seq a b,l=>by
  simp only [bO,findLabel,eW a l,eW b l]
  cases findLabel a l <;> simp
 | .label l',l=>by simp only [bO,findLabel];split <;> simp_all
 | .skip,l | .refuse _,l | .region ..,l | .cond ..,l | .block ..,l | .loop _,l | .exit _,l | .goto _,l | .ret,l | .scope _,l | .rangeFunc ..,l=>by simp [bO,findLabel]
theorem Ext.length (h:Ext σ σ'):σ.length≤σ'.length:=by
 by_cases h0:σ.length=0
 ·omega
 ·obtain ⟨s', hs, _⟩ := h (σ.length - 1) (σ[σ.length - 1]'(by omega)) (by simp [show σ.length - 1 < σ.length by omega])
  have:=(List.getElem?_eq_some_iff.1 hs).1
  omega
theorem HX {n0:Nat} {drop:Tmp→Bool}:∀ {env:List V} {k:Nat} {vs:List Value},(vs.length=env.length∧∀ (i:Nat) (c:V) (v:Value),env[i]? = some c→vs[i]? = some v→RelV R σ c v) →
  ((Fi n0 drop k env).length=env.length∧∀ (i:Nat) (c:V) (v:Value),(Fi n0 drop k env)[i]? = some c→vs[i]? = some v→RelV R (σ.take n0) c v)
 | [],k,vs,h=>⟨rfl,fun i c v hc=>by simp [Fi] at hc⟩
 | x::env,k,vs,h=>by
  obtain ⟨hl,hr⟩:=h
  cases vs with
  | nil=>simp at hl
  | cons y vs=>
   obtain ⟨i1,i2⟩:=HX (n0:=n0) (drop:=drop) (env:=env) (k:=k+1) (vs:=vs) ⟨by simpa using hl,fun i c v hc hv=>hr (i+1) c v (by simpa using hc) (by simpa using hv)⟩
   refine ⟨by simp [Fi,i1],fun i c v hc hv => ?_⟩
   cases i with
   | zero=>
    simp only [Fi,List.getElem?_cons_zero,Option.some.injEq] at hc hv
    subst hc hv
    split
    ·exact .junk _
    ·exact (hr 0 x _ rfl rfl).kill n0
   | succ i=>exact i2 i c v (by simpa [Fi] using hc) (by simpa using hv)
theorem At.tidy {s:St} {a:Act} (h:At wl B0 w0 R0 σ0 ws n1 s R σ a w) {n0:Nat} (hn:σ0.length≤n0) (drop:Tmp→Bool):At wl B0 w0 R0 σ0 ws n1 (tidy n0 drop s) R (σ.take n0) a w where
 env:=by
  obtain ⟨h1,h2⟩:=HX (R:=R) (σ:=σ) (n0:=n0) (drop:=drop) (env:=s.env) (k:=0) (vs:=a.tmps.toList)
   ⟨by simpa using h.env.1,fun i c v hc hv=>by
    obtain ⟨u,hu,hr⟩:=h.env.get hc
    have:a.tmps[i]? = some v:=by simpa using hv
    rw [hu] at this;cases this;exact hr⟩
  refine ⟨by show _=(Fi n0 drop 0 s.env).length;rw [h1];exact h.env.1,fun i c hc => ?_⟩
  have hi:i<a.tmps.size:=by
   have:=(List.getElem?_eq_some_iff.1 hc).1
   have e:=h.env.1
   simp only [Ab.tidy] at this
   omega
  have:=h2 i c a.tmps[i] hc (by simp [hi])
  simpa [hi] using this
 stp:=h.stp.cut hn
 size:=h.size
 marks:=h.marks
theorem Inv.elsewhere (hI:Inv wl B0 w0 R σ H w) {b:Nat} {o:Obj} (hb:B0≤b) (hbl:b<w.heap.size)
  (hn:∀ (id:Nat) (x:B) (s:Sg),H[id]? = some x→x.isDead=false→σ[id]? = some s→s.hole=false→s.blk≠some b) (hro:∀ x,R b x=none):Inv wl B0 w0 R σ H (w.putObj b o):=by
 have hother:∀ k,k≠b→(w.putObj b o).heap[k]? = w.heap[k]? := fun k hk=>World.putObj_heap_other hk
 refine ⟨hI.below.trans ⟨rfl,rfl,rfl,by simp,fun k hk=>hother k (by omega)⟩,by simpa using hI.base,hI.len,?_,hI.inj,hI.ge,?_,?_⟩
 ·intro id x s h1 h2 hh
  by_cases hd:x.isDead=true
  ·cases x <;> first | trivial | cases hd
  ·have hd:x.isDead=false:=by simpa using hd
   exact (hI.blk id x s h1 h2 hh).mono (iz.refl R) (Ext.refl σ) (fun k hk=>hother k (fun e=>hn id x s h1 hd h2 hh (by rw [hk,e]))) (fun _ _ _ h=>h)
 ·intro id x s k h1 d h2 e
  simpa using hI.lt id x s k h1 d h2 e
 ·intro k x v hv
  have h1:=hI.ro k x v hv
  have hk:k≠b:=fun e=>by subst e;rw [hro] at hv;cases hv
  simp only [World.cell?] at h1 ⊢
  rw [hother k hk];exact h1
theorem Inv.ro_loop (hI:Inv wl B0 w0 R σ H w) {b:Nat} (h:∀ arr e f,w.heap[b]? ≠ some (.cells arr e f)) (x:Nat):R b x=none:=by
 cases hr:R b x with
 | none=>rfl
 | some v=>
  have:=hI.ro b x v hr
  unfold World.cell? at this
  split at this
  ·rename_i arr e f hb
   exact absurd hb (h arr e f)
  ·cases this
theorem LQ {cx:Cx} {ro:Option Nat} {n n0 named:Nat} {rw':List Tmp×List Tmp} {c:Code} {K:Out→St→Option T} {r:T} (hn:σ0.length≤n0)
  (ih:∀ (K:Out→St→Option T) (s:St) (R:Ro) (σ:List Sg) (a:Act) (w:World),be cx c none K s=some r→At wl B0 w0 R0 σ0 ws n1 s R σ a w→c.wpIn (Fw ro) n P (SZ wl B0 w0 R0 σ0 ws n1 K r) a w) :
  ∀ (m:Nat) (s:St) (R:Ro) (σ:List Sg) (a:Act) (w:World),RU (be cx c none) n0 named rw' K m s=some r→At wl B0 w0 R0 σ0 ws n1 s R σ a w→c.roundsIn (Fw ro) n P (SZ wl B0 w0 R0 σ0 ws n1 K r) m a w
 | 0,s,R,σ,a,w,h,hA=>by cases h
 | m+1,s,R,σ,a,w,h,hA=>by
  simp only [RU] at h
  refine Go.wpIn_mono (ih _ s R σ a w h hA) ?_
  rintro e a' w' ⟨o,s',R',σ',rfl,hk,hA'⟩
  cases o with
  | norm=>exact LQ hn ih m _ _ _ a' w' hk (hA'.tidy hn _)
  | ret=>exact ⟨.ret,s',R',σ',rfl,hk,hA'⟩
  | exit id=>exact ⟨.exit id,_,R',_,rfl,hk,hA'.tidy hn _⟩
  | goto l=>exact ⟨.goto l,_,R',_,rfl,hk,hA'.tidy hn _⟩
theorem Wr {cx:Cx} (hP:cx.P=P) (hC:mr P cx.call) {n:Nat} {f:Operand} {ps:Array Tmp} {x y:Code} {K:Out→St→Option T} {r:T} {s:St} {a:Act} (hn1:n1≤ws.heap.size)
  (h:be cx (.rangeFunc f ps x y) none K s=some r) (hA:At cx.wl B0 w0 R0 σ0 ws n1 s R σ a w):cx.round=false∧(Code.rangeFunc f ps x y).wpIn (Fw none) n P (SZ cx.wl B0 w0 R0 σ0 ws n1 K r) a w:=by
 subst hP
 simp only [be] at h
 split at h
 ·cases h
 ·rename_i hcr
  simp only [Bool.or_eq_true,Bool.not_eq_true',not_or,Bool.not_eq_true,Bool.not_eq_false] at hcr
  obtain ⟨hround,hwl⟩:=hcr
  have hwl:cx.wl≤s.H.length:=Nat.le_of_ble_eq_true hwl
  refine ⟨hround,?_⟩
  split at h
  ·rename_i g caps hf
   simp only [Option.bind_eq_some_iff] at h
   obtain ⟨p,hp,h⟩:=h
   obtain ⟨pv,pH⟩:=p
   obtain ⟨hE,hcall⟩:=hC _ g _ _ pv pH hp
   refine wpIn_rangeFunc fun fn _ => ?_
   obtain ⟨va,vb,hfe,hfi,hca⟩:=WQ (bJ hA.env hf)
   have hva:va = #[]:=hfi.nil_inv
   subst hva
   let lr:Loop := { state := .ready,pending:=none,fn,tmps:=a.tmps,params:=ps,assign:=x,body:=y,defers:=w.heap.size }
   let w₁:=(w.alloc (.deferred (some []))).alloc (.loop lr)
   let yv:Value := .func (.yield (w.heap.size+1)) #[] #[]
   have hI:=hA.stp.inv
   have hb0:Below w.heap.size w (w.alloc (.deferred (some []))):=Below.one_alloc w _
   have hI1:=hI.world hb0
   let sl:Sg:=⟨some (w.heap.size+1),0,0,0,false⟩
   have hsz1:(w.alloc (.deferred (some []))).heap.size=w.heap.size+1:=by simp
   have hst1:Stp (TB B0) cx.wl B0 w0 R σ w R (σ++[sl]) (s.H++[.loop { st := .ready,pending:=none,fn:=cx.fid,tmps:=s.env,params:=ps.toList,assign:=x,body:=y }]) w₁:=by
    refine (hI.stp hb0).trans (hI1.push_stp (w':=w₁) (s:=sl) (Below.one_alloc _ _) (fun k hk=>by cases hk;exact ⟨by omega,by simp [w₁]⟩) ?_) hb0.size
    refine ⟨rfl,w.heap.size+1,lr,rfl,?_,rfl,rfl,rfl,rfl,rfl,hA.env.mono (iz.refl R) (Ext.append σ _)⟩
    rw [← hsz1]
    exact iH _ _
   refine ⟨w.heap.size+1,[{ target := .collected w.heap.size,args := #[] }],w₁,{ target := .fn (.func g) vb,args := #[] ++ #[yv] },w₁,g,#[yv]++vb,w₁,run_enterLoop_outer _ _ _ _ _,?_,fun _ _=>trivial,?_,fun h=>(by cases h),Ec (r:=none) ?_⟩
   ·have hm:Array.map a.eval #[.const yv] = #[yv]:=by simp [Act.eval]
    simp only [resolve,hfe,Deferred.ofValue,Sem.run_pure]
    rw [hm]
   ·simp only [invoke,Array.empty_append,HI hE]
   ·have hargs:b7 R (σ++[sl]) (.yld s.H.length::caps) (#[yv]++vb):=by
     have h1:b7 R (σ++[sl]) [.yld s.H.length] #[yv]:=by
      have:RelV R (σ++[sl]) (.yld s.H.length) yv := .yld _ _ sl (by rw [← hI.len];simp) rfl (fun _=>rfl)
      exact this.cons (b7.nil R _)
     exact nF h1 (hca.mono (iz.refl R) (Ext.append σ _))
    refine (hcall _ _ _ _ _ _ hst1.inv hargs).mono fun e w₃ he => ?_
    cases e with
    | panicked=>exact he.elim
    | outgrown=>exact he.elim
    | returned cv=>
     obtain ⟨R3,σ3,st3,_,hsz3⟩:=he
     have hsz:w.heap.size≤w₃.heap.size:=by
      have:w₁.heap.size=w.heap.size+2:=by simp [w₁]
      omega
     simp only at h
     split at h
     ·rename_i l' hl'
      obtain ⟨s3,hs3,hle3⟩:=st3.ext s.H.length sl (by rw [← hI.len];simp)
      have hh3:=hle3.hole rfl
      obtain ⟨hgen,b,rl,hblk,hheap,hstate,hpend,_⟩:=st3.inv.blk _ _ s3 hl' hs3 hh3
      have hsame:=hle3.same rfl (by rw [hgen];exact Nat.zero_le _)
      subst hsame
      have hbe:b=w.heap.size+1:=by cases hblk;rfl
      subst hbe
      split at h
      ·cases h
      ·rename_i hbusy
       let w₄:=w₃.putObj (w.heap.size+1) (.loop { rl with state := .exhausted })
       have hrun:(Instr.endLoop (w.heap.size+1)).run cx.P w₃ = .ok rl.pending w₄:=run_endLoop hheap (by rw [hstate];exact hbusy)
       have hl0:(σ.length:Nat)≤s.H.length:=by rw [hI.len];exact Nat.le_refl _
       have hstp3:Stp (TB B0) cx.wl B0 w0 R σ w R3 σ3 pH w₃:=hst1.trans st3 (by simp [w₁];omega)
       have hcut:=hstp3.cut hl0
       have hblt:w.heap.size+1<w₃.heap.size:=(Array.getElem?_eq_some_iff.1 hheap).1
       have hro:∀ z,R3 (w.heap.size+1) z=none:=st3.inv.ro_loop (fun arr e f=>by rw [hheap];simp)
       have hnb:∀ (id:Nat) (z:B) (t:Sg),(pX s.H.length pH)[id]? = some z→z.isDead=false→(σ3.take s.H.length)[id]? = some t→t.hole=false→t.blk≠some (w.heap.size+1):=by
        intro id z t h1 d h2 _ e
        obtain ⟨z',h1',hlt,rfl⟩:=pE h1
        rw [us] at d
        have:=st3.inv.inj id s.H.length z' _ t sl _ h1' hl' d rfl (fY h2).1 hs3 e rfl
        omega
       have hB0:B0≤w.heap.size:=hI.base
       have hI4:=hcut.inv.elsewhere (o := .loop { rl with state := .exhausted }) (b:=w.heap.size+1) (by omega) hblt hnb hro
       have hst4:Stp (TB B0) cx.wl B0 w0 R σ w R3 (σ3.take s.H.length) (pX s.H.length pH) w₄:=by
        refine ⟨hI4,hcut.ext,hcut.le,hcut.new,fun k hk hT => ?_,fun k ds hk => ?_,hcut.hl⟩
        ·rw [show w₄.heap[k]? = w₃.heap[k]? from World.putObj_heap_other (by omega)]
         exact hcut.fr k hk hT
        ·have:=(Array.getElem?_eq_some_iff.1 hk).1
         rw [show w₄.heap[k]? = w₃.heap[k]? from World.putObj_heap_other (by omega)]
         exact hcut.df k ds hk
       have hd3:w₃.heap[w.heap.size]? = some (.deferred (some [])):=by
        have h1:w₁.heap[w.heap.size]? = some (.deferred (some [])):=by
         rw [Below.heap_alloc _ _ _ (by omega)]
         exact iH w _
        rw [st3.df _ _ h1];exact h1
       have hd4:w₄.heap[w.heap.size]? = some (.deferred (some [])):=by
        rw [show w₄.heap[w.heap.size]? = w₃.heap[w.heap.size]? from World.putObj_heap_other (by omega)]
        exact hd3
       have hmk:Au n1 ([{ target := .collected w.heap.size,args := #[] }]++a.defers) w₄:=by
        refine ⟨⟨w.heap.size,rfl,Nat.le_trans hn1 hA.size,hd4,?_⟩,hA.marks.keep hst4.df⟩
        have:∀ {ds:List Deferred},Au n1 ds w→∀ d' ∈ ds,d'.target ≠ .collected w.heap.size:=by
         intro ds
         induction ds with
         | nil=>intro _ d' hd;cases hd
         | cons d ds ihd=>
          rintro ⟨⟨q,h1,h2,h3,_⟩,h5⟩ d' hd
          rcases List.mem_cons.1 hd with rfl | hd
          ·intro e
           rw [h1] at e
           cases e
           have:=(Array.getElem?_eq_some_iff.1 h3).1
           omega
          ·exact ihd h5 d' hd
        exact this hA.marks
       have hsz4:w.heap.size≤w₄.heap.size:=by simp [w₄];exact hsz
       have hA4:At cx.wl B0 w0 R0 σ0 ws n1 ⟨s.env,pX s.H.length pH⟩ R3 (σ3.take s.H.length) { a with defers:=[{ target := .collected w.heap.size,args := #[] }]++a.defers } w₄:=
        ⟨hA.env.mono hst4.le hst4.ext,hA.stp.trans hst4 hA.size,Nat.le_trans hA.size hsz4,hmk⟩
       refine ⟨rl.pending,w₄,hrun,?_⟩
       rw [hpend]
       cases hpe:l'.pending with
       | none=>rw [hpe] at h;exact ⟨.norm,_,_,_,rfl,h,hA4⟩
       | some c=>
        rw [hpe] at h
        cases c <;> first | cases h | skip
        ·exact wpIn_exit ⟨.exit _,_,_,_,rfl,h,hA4⟩
        ·exact wpIn_goto ⟨.goto _,_,_,_,rfl,h,hA4⟩
        ·exact wpIn_ret ⟨.ret,_,_,_,rfl,h,hA4⟩
     ·cases h
  ·cases h
theorem gr {cx:Cx} (hP:cx.P=P) (hC:mr P cx.call) (hY:C7 P cx.yld) (hD:Ei P) {ro:Option Nat} (hro:cx.round=false→ro=none) {n:Nat} {r:T} (hn1:n1≤ws.heap.size):∀ (c:Code),
  (∀ (K:Out→St→Option T) (s:St) (R:Ro) (σ:List Sg) (a:Act) (w:World),be cx c none K s=some r→At cx.wl B0 w0 R0 σ0 ws n1 s R σ a w→c.wpIn (Fw ro) n P (SZ cx.wl B0 w0 R0 σ0 ws n1 K r) a w) ∧
  (∀ (l:Nat) (K:Out→St→Option T) (s:St) (R:Ro) (σ:List Sg) (a:Act) (w:World),be cx c (some l) K s=some r→At cx.wl B0 w0 R0 σ0 ws n1 s R σ a w →
   ∃ rest,findLabel c l=some rest∧rest.wpIn (Fw ro) n P (SZ cx.wl B0 w0 R0 σ0 ws n1 K r) a w)
 | .skip=>⟨fun K s R σ a w h hA=>wpIn_skip ⟨.norm,s,R,σ,rfl,h,hA⟩,fun l K s R σ a w h=>by simp [be] at h⟩
 | .label l'=>⟨fun K s R σ a w h hA=>wpIn_label ⟨.norm,s,R,σ,rfl,h,hA⟩,fun l K s R σ a w h hA=>by
   simp only [be] at h
   split at h
   ·rename_i he
    exact ⟨.skip,by simp only [findLabel,he,if_true],wpIn_skip ⟨.norm,s,R,σ,rfl,h,hA⟩⟩
   ·cases h⟩
 | .exit id=>⟨fun K s R σ a w h hA=>wpIn_exit ⟨.exit id,s,R,σ,rfl,h,hA⟩,fun l K s R σ a w h=>by simp [be] at h⟩
 | .goto l'=>⟨fun K s R σ a w h hA=>wpIn_goto ⟨.goto l',s,R,σ,rfl,h,hA⟩,fun l K s R σ a w h=>by simp [be] at h⟩
 | .ret=>⟨fun K s R σ a w h hA=>wpIn_ret ⟨.ret,s,R,σ,rfl,h,hA⟩,fun l K s R σ a w h=>by simp [be] at h⟩
 | .refuse _=>⟨fun K s R σ a w h=>by simp [be] at h,fun l K s R σ a w h=>by simp [be] at h⟩
 | .region id ops draw=>⟨fun K s R σ a w h hA=>by
   simp only [be] at h
   split at h
   ·rename_i hd
    have hd:draw=true:=by simpa using hd
    subst hd
    split at h
    ·rename_i hok
     exact hD cx hP hC hY T B0 w0 R0 σ0 ws n1 ro n id ops (K .norm) r _ (fun s R σ a w hk hA=>⟨.norm,s,R,σ,rfl,hk,hA⟩) hok s R σ a w h hA
    ·cases h
   ·rename_i hd
    have hd:draw=false:=by simpa using hd
    subst hd
    refine wpIn_region ?_
    have:=Mu hP rfl hC hY (ro:=ro) (n:=n) (Q:=SZ cx.wl B0 w0 R0 σ0 ws n1 K r) (fun s R σ a w hk hA=>⟨.norm,s,R,σ,rfl,hk,hA⟩) ops.toList.zipIdx (Ih ops).1 s _ R σ a w h hA
    rw [(Ih ops).2] at this
    exact this,fun l K s R σ a w h=>by simp [be] at h⟩
 | .seq x y=>by
  obtain ⟨hx,hx'⟩:=gr hP hC hY hD hro hn1 x
  obtain ⟨hy,hy'⟩:=gr hP hC hY hD hro hn1 y
  have after:∀ (K:Out→St→Option T) (e:Exit) (a:Act) (w:World),SZ cx.wl B0 w0 R0 σ0 ws n1 (fun o s'=>match o with | .norm=>be cx y none K s' | o=>K o s') r e a w →
    Exit.then (y.wpIn (Fw ro) n P (SZ cx.wl B0 w0 R0 σ0 ws n1 K r)) (SZ cx.wl B0 w0 R0 σ0 ws n1 K r) e a w:=by
   rintro K e a w ⟨o,s,R,σ,rfl,hk,hA⟩
   cases o with
   | norm=>exact hy K s R σ a w hk hA
   | exit id=>exact ⟨.exit id,s,R,σ,rfl,hk,hA⟩
   | goto l=>exact ⟨.goto l,s,R,σ,rfl,hk,hA⟩
   | ret=>exact ⟨.ret,s,R,σ,rfl,hk,hA⟩
  refine ⟨fun K s R σ a w h hA => ?_,fun l K s R σ a w h hA => ?_⟩
  ·simp only [be] at h
   exact wpIn_seq (Go.wpIn_mono (hx _ s R σ a w h hA) (after K))
  ·simp only [be] at h
   split at h
   ·rename_i hl
    rw [eW] at hl
    obtain ⟨rest,hf,hw⟩:=hx' l _ s R σ a w h hA
    exact ⟨.seq rest y,by simp only [findLabel,hf],wpIn_seq (Go.wpIn_mono hw (after K))⟩
   ·rename_i hl
    rw [eW] at hl
    obtain ⟨rest,hf,hw⟩:=hy' l _ s R σ a w h hA
    have hfx:findLabel x l=none:=by simpa using hl
    exact ⟨rest,by simp only [findLabel,hfx,hf],hw⟩
 | .cond c x y=>by
  obtain ⟨hx,_⟩:=gr hP hC hY hD hro hn1 x
  obtain ⟨hy,_⟩:=gr hP hC hY hD hro hn1 y
  refine ⟨fun K s R σ a w h hA => ?_,fun l K s R σ a w h=>by simp [be] at h⟩
  simp only [be] at h
  split at h
  ·rename_i t ht
   have:=(bJ hA.env ht).lit_inv
   refine wpIn_cond this ?_
   cases t with
   | true=>exact hx K s R σ a w h hA
   | false=>exact hy K s R σ a w h hA
  ·cases h
 | .block id x=>by
  obtain ⟨hx,_⟩:=gr hP hC hY hD hro hn1 x
  refine ⟨fun K s R σ a w h hA => ?_,fun l K s R σ a w h=>by simp [be] at h⟩
  simp only [be] at h
  refine wpIn_block (Go.wpIn_mono (hx _ s R σ a w h hA) ?_)
  rintro e a' w' ⟨o,s',R',σ',rfl,hk,hA'⟩
  cases o with
  | norm=>exact ⟨.norm,s',R',σ',rfl,hk,hA'⟩
  | exit id'=>
   simp only [Out.toE,Exit.inBlock]
   simp only at hk
   split at hk
   ·rename_i he
    rw [if_pos he]
    exact ⟨.norm,s',R',σ',rfl,hk,hA'⟩
   ·rename_i he
    rw [if_neg he]
    exact ⟨.exit id',s',R',σ',rfl,hk,hA'⟩
  | goto l=>exact ⟨.goto l,s',R',σ',rfl,hk,hA'⟩
  | ret=>exact ⟨.ret,s',R',σ',rfl,hk,hA'⟩
 | .loop x=>by
  obtain ⟨hx,_⟩:=gr hP hC hY hD hro hn1 x
  refine ⟨fun K s R σ a w h hA => ?_,fun l K s R σ a w h=>by simp [be] at h⟩
  simp only [be] at h
  have hl:σ0.length≤s.H.length:=by
   have:=hA.stp.ext.length
   rw [← hA.stp.inv.len];exact this
  exact wpIn_loop_rounds cx.n (LQ hl hx cx.n _ R _ a w h (hA.tidy hl _))
 | .scope x=>by
  obtain ⟨hx,hx'⟩:=gr hP hC hY hD hro hn1 x
  refine ⟨fun K s R σ a w h hA => ?_,fun l K s R σ a w h=>by simp [be] at h⟩
  simp only [be] at h
  refine Iz (Go.wpIn_mono (hx _ s R σ a w h hA) ?_)
  rintro e a' w' ⟨o,s',R',σ',rfl,hk,hA'⟩
  cases o with
  | norm=>exact ⟨.norm,s',R',σ',rfl,hk,hA'⟩
  | exit id'=>exact ⟨.exit id',s',R',σ',rfl,hk,hA'⟩
  | ret=>exact ⟨.ret,s',R',σ',rfl,hk,hA'⟩
  | goto l=>
   simp only [Out.toE,AG]
   simp only at hk
   split at hk
   ·rename_i hl
    rw [eW] at hl
    obtain ⟨rest,hf,hw⟩:=hx' l _ s' R' σ' a' w' hk hA'
    rw [hf]
    refine Go.wpIn_mono hw ?_
    rintro e a'' w'' ⟨o, s'', R'', σ'', rfl, hk, hA''⟩
    cases o with
    | norm => exact ⟨.norm, s'', R'', σ'', rfl, hk, hA''⟩
    | exit id' => exact ⟨.exit id', s'', R'', σ'', rfl, hk, hA''⟩
    | ret => exact ⟨.ret, s'', R'', σ'', rfl, hk, hA''⟩
    | goto l'=>
     simp only at hk
     split at hk
     ·cases hk
     ·rename_i hl'
      rw [eW] at hl'
      exact ⟨by simpa using hl', .goto l', s'', R'', σ'', rfl, hk, hA''⟩
   ·rename_i hl
    rw [eW] at hl
    have hf:findLabel x l=none:=by simpa using hl
    rw [hf]
    exact ⟨.goto l,s',R',σ',rfl,hk,hA'⟩
 | .rangeFunc f ps x y=>⟨fun K s R σ a w h hA=>by
   obtain ⟨hr,hw⟩:=Wr (n:=n) hP hC hn1 h hA
   rw [hro hr]
   exact hw,fun l K s R σ a w h=>by simp [be] at h⟩
end code
end Go.Ab
namespace Go.Ab
open Go.RowKit
section func
variable {P:Program} {wl B0:Nat} {w0:World} {R0 R R':Ro} {σ0 σ σ':List Sg} {ws:World} {n1:Nat} {H:Hp} {w w':World}
theorem RO {a v:V} {t:TypeId} {ca:Value} (h:o8 P t a H=some v) (ha:RelV R σ a ca):∃ p,ca = .pointer (some p):=by
 unfold o8 at h
 split at h
 ·cases ha;exact ⟨_,rfl⟩
 ·obtain ⟨p,s,rfl,_⟩:=wJ ha;exact ⟨p,rfl⟩
 ·cases h
def KA (tmps:Array Value):ResultVar→Sem Value
 | .tmp t=>pure (tmps.getD t undef)
 | .cell a t=>do loadVar t (← asAddr (tmps.getD a undef))
theorem V4 (hI:Inv wl B0 w0 R σ H w) {env:List V} {tmps:Array Value} (hE:b7 R σ env tmps) {x:ResultVar} {v:V} (h:ah3 P x ⟨env,H⟩=some v):∃ cv,(KA tmps x).run P w = .ok cv w∧RelV R σ v cv:=by
 cases x with
 | tmp t=>exact ⟨_,rfl,hE.2 t v h⟩
 | cell a t=>
  simp only [ah3] at h
  split at h
  ·rename_i y hy
   have ha:=hE.2 a y hy
   obtain ⟨cv,hrun,hr⟩:=Hr hI h ha
   obtain ⟨p,hp⟩:=RO h ha
   refine ⟨cv,?_,hr⟩
   rw [hp] at hrun
   simp only [Instr.loadAt,Instr.sureAddr,Sem.run_bind,Sem.run_pure,Result.andThen_ok] at hrun
   simp only [KA,hp,asAddr,Sem.run_bind,Sem.run_pure,Result.andThen_ok,hrun]
  ·cases h
theorem Ib (hI:Inv wl B0 w0 R σ H w) {env:List V} {tmps:Array Value} (hE:b7 R σ env tmps):∀ {rs:List ResultVar} {vs:List V},QR P rs ⟨env,H⟩=some vs →
  ∃ cvs:List Value,(rs.mapM (KA tmps)).run P w = .ok cvs w∧b7 R σ vs cvs.toArray
 | [],vs,h=>by cases h;exact ⟨[],rfl,b7.nil R σ⟩
 | x::rs,vs,h=>by
  simp only [QR,Option.bind_eq_some_iff] at h
  obtain ⟨v,hv,l,hl,e⟩:=h
  cases e
  obtain ⟨cv,h1,h2⟩:=V4 hI hE hv
  obtain ⟨cvs,h3,h4⟩:=Ib hI hE hl
  exact ⟨cv::cvs,by simp only [List.mapM_cons,Sem.run_bind,h1,h3,Result.andThen_ok,Sem.run_pure],h2.cons h4⟩
theorem IJ (hI:Inv wl B0 w0 R σ H w) {env:List V} {tmps:Array Value} (hE:b7 R σ env tmps) {fn:Func} {v:V} (h:iJ P fn.results.toList ⟨env,H⟩=some v) :
  ∃ cv,(results fn tmps).run P w = .ok cv w∧RelV R σ v cv:=by
 unfold iJ at h
 simp only [Option.bind_eq_some_iff] at h
 obtain ⟨vs,hvs,h⟩:=h
 obtain ⟨cvs,hrun,hr⟩:=Ib hI hE hvs
 have hres:(results fn tmps).run P w = .ok (if h:cvs.toArray.size=1 then cvs.toArray[0] else .tuple cvs.toArray) w:=by
  have:results fn tmps=(do let vs ← fn.results.mapM (KA tmps);pure (if h:vs.size=1 then vs[0] else .tuple vs)):=rfl
  rw [this]
  simp only [Array.mapM_eq_mapM_toList,Sem.run_bind,Sem.run_map,hrun,Result.andThen_ok,Sem.run_pure]
 refine ⟨_,hres,?_⟩
 split at h
 ·cases h
  obtain ⟨cv,l,he,h1,h2⟩:=hr.uncons
  have:=h2.nil_inv
  have hl:l=[]:=by simpa using this
  subst hl
  have hc:cvs=[cv]:=by simpa using he
  subst hc
  exact h1
 ·rename_i hne
  cases h
  have hl:cvs.toArray.size≠1:=by
   intro e
   have:=hr.1
   rw [e] at this
   cases vs with
   | nil=>simp at this
   | cons a l=>cases l with
    | nil=>exact hne a rfl
    | cons=>simp at this
  rw [dif_neg hl]
  exact .tup _ _ hr.1 hr.2
def V9 (P : Program) : Prop := ∀ (f : FuncId) (fn : Func), P.funcs[f]? = some fn → (fn.name == "runtime.NumGoroutine") = false
theorem wi {n:Nat} {fn:Func} {env:List V} {tmps:Array Value} {v:V} {X:Ending→World→Prop} (hres:iJ P fn.results.toList ⟨env,H⟩=some v) (hE:b7 R σ env tmps) (hn1:ws.heap.size≤n1) (hB:B0≤n1)
  (hX:∀ cv w',Stp (TB B0) wl B0 w0 R0 σ0 ws R σ H w'→RelV R σ v cv→ws.heap.size≤w'.heap.size→X (.returned cv) w') :
  ∀ (ds:List Deferred) (w:World),Au n1 ds w→Stp (TB B0) wl B0 w0 R0 σ0 ws R σ H w→ws.heap.size≤w.heap.size→LeavesInM (Fw none) n P fn tmps X ds .returning w
 | [],w,_,st,hs=>by
  obtain ⟨cv,h1,h2⟩:=IJ st.inv hE hres
  exact ⟨cv,h1,hX cv w st h2 hs⟩
 | d::ds,w,⟨⟨r,h1,h2,h3,h4⟩,h5⟩,st,hs=>by
  have hrl:r<w.heap.size:=(Array.getElem?_eq_some_iff.1 h3).1
  have hother:∀ k,k≠r→(w.putObj r (.deferred none)).heap[k]? = w.heap[k]? := fun k hk=>World.putObj_heap_other hk
  have st':Stp (TB B0) wl B0 w0 R0 σ0 ws R σ H (w.putObj r (.deferred none)):=by
   refine ⟨st.inv.elsewhere (by omega) hrl (fun id x s a b c hh=>st.inv.notDfr a b c hh h3) (st.inv.ro_loop (fun arr e f=>by rw [h3];simp)),st.ext,st.le,st.new,fun k hk hT => ?_,fun k x hk => ?_,st.hl⟩
   ·rw [hother k (by omega)];exact st.fr k hk hT
   ·have:=(Array.getElem?_eq_some_iff.1 hk).1
    rw [hother k (by omega)];exact st.df k x hk
  have hm:∀ {ds:List Deferred},Au n1 ds w→(∀ d' ∈ ds,d'.target ≠ .collected r)→Au n1 ds (w.putObj r (.deferred none)):=by
   intro ds
   induction ds with
   | nil=>intros;trivial
   | cons d' ds ih=>
    rintro ⟨⟨q,g1,g2,g3,g4⟩,g5⟩ hno
    have hq:q≠r:=fun e=>hno d' (by simp) (by rw [g1,e])
    exact ⟨⟨q, g1, g2, by rw [hother q hq]; exact g3, g4⟩, ih g5 (fun d'' hd => hno d'' (by simp [hd]))⟩
  refine ⟨by simp,.inl ⟨r,_,h1,run_takeDeferred h3,?_⟩⟩
  exact wi hres hE hn1 hB hX ds _ (hm h5 h4) st' (by simpa using hs)
theorem uv (R:Ro) (σ:List Sg) (n:Nat) (v:Value):b7 R σ (List.replicate n (.lit v)) (Array.replicate n v):=by
 refine ⟨by simp,fun i c hc => ?_⟩
 have hi:=(List.getElem?_eq_some_iff.1 hc).1
 have:=(List.getElem?_eq_some_iff.1 hc).2
 simp at this hi
 subst this
 simp [hi]
 exact .lit v
theorem Su {cx:Cx} (hP:cx.P=P) (hr:cx.round=false) (hC:mr P cx.call) (hY:C7 P cx.yld) (hD:Ei P) {f:FuncId} {fn:Func} (hf:P.funcs[f]? = some fn) {args:List V} {v:V} {H':Hp}
  (h:C4 cx fn args H=some (v,H')) {cargs:Array Value} (hI:Inv cx.wl B0 w0 R σ H w) (hA:b7 R σ args cargs) :
  fn.body.isNone=false∧Calls P f cargs w (Ni cx.wl B0 w0 R σ w v H'):=by
 unfold C4 at h
 split at h
 ·cases h
 ·rename_i c hb
  refine ⟨by rw [hb];rfl,callsIn_wide (n:=0).1 ?_⟩
  have hAt:At cx.wl B0 w0 R σ w w.heap.size ⟨args++List.replicate (fn.ntmps - args.length) (.lit undef),H⟩ R σ { tmps:=cargs++Array.replicate (fn.ntmps - cargs.size) undef,defers:=[] } w:=by
   refine ⟨?_,Stp.refl hI,Nat.le_refl _,trivial⟩
   have:=nF hA (uv R σ (fn.ntmps - args.length) undef)
   rw [hA.1]
   exact this
  have hw:=(gr hP hC hY hD (ro:=none) (fun _=>rfl) (n:=0) (Nat.le_refl _) c).1 _ _ R σ _ w h hAt
  refine callsIn_of_wp_marks (F:=Fw none) hf hb trivial (Go.wpIn_mono hw ?_)
  rintro e a' w' ⟨o,s,R',σ',rfl,hk,hA'⟩
  have fin:∀ {x:Option (V×Hp)},x=(iJ cx.P fn.results.toList s).map (fun v=>(v,s.H))→x=some (v,H')→LeavesInM (Fw none) 0 P fn a'.tmps (Ni cx.wl B0 w0 R σ w v H') a'.defers .returning w':=by
   rintro _ rfl hx
   simp only [Option.map_eq_some_iff] at hx
   obtain ⟨v',hv,e⟩:=hx
   cases e
   rw [hP] at hv
   exact wi (env := s.env) (H := s.H) hv hA'.env (Nat.le_refl _) hI.base (fun cv w'' st r hs => ⟨R', σ', st, r, hs⟩) a'.defers w' hA'.marks hA'.stp hA'.size
  cases o with
  | norm=>exact fin rfl hk
  | ret=>exact fin rfl hk
  | exit id=>cases hk
  | goto l=>cases hk
theorem uZ:∀ {ts:List Tmp} {args env:List V} {cargs:List Value} {tmps:Array Value},args.length=ts.length→b7 R σ args cargs.toArray→b7 R σ env tmps →
  b7 R σ (fe env ts args) ((ts.zip cargs).foldl (fun tmps (t,a)=>tmps.setIfInBounds t a) tmps)
 | [],[],env,cargs,tmps,_,hA,hE=>by simpa [fe] using hE
 | t::ts,v::args,env,cargs,tmps,hl,hA,hE=>by
  obtain ⟨cv,l,he,h1,h2⟩:=hA.uncons
  have hc:cargs=cv::l:=by simpa using he
  subst hc
  simp only [fe,List.zip_cons_cons,List.foldl_cons]
  exact uZ (by simpa using hl) h2 (hE.set t h1)
theorem KO (hI:Inv wl B0 w0 R σ H w) {id:Nat} {l l':Lp} {s:Sg} {b:Nat} {r r':Loop} (hH:H[id]? = some (.loop l)) (hs:σ[id]? = some s) (hh:s.hole=false) (hle:wl≤id) (hb:s.blk=some b)
  (hr:w.heap[b]? = some (.loop r)) (h1:r'.state=l'.st) (h2:r'.pending=l'.pending) (h3:r'.params.toList=l'.params) (h4:r'.assign=l'.assign) (h5:r'.body=l'.body) (h6:b7 R σ l'.tmps r'.tmps) :
  Stp (TB B0) wl B0 w0 R σ w R σ (H.set id (.loop l')) (w.putObj b (.loop r')):=by
 have hB:B0≤b:=hI.ge id _ s b hle hH rfl hs hb
 have hbl:b<w.heap.size:=hI.lt id _ s b hH rfl hs hb
 have hgen:s.gen=0:=(hI.blk id _ s hH hs hh).1
 have hset:=hI.set (R':=R) (w':=w.putObj b (.loop r')) (b' := .loop l') (s':=s) hH rfl hs hh hle (wQ.refl s) (fun k hk => .inl hk)
  ⟨rfl,rfl,rfl,by simp,fun k hk=>World.putObj_heap_other (by omega)⟩ (by simp) (fun k _ hk=>World.putObj_heap_other (fun e=>hk (by rw [e];exact hb))) (iz.refl R) (fun _ _ h => .inl h)
  (fun k o u hu' hk=>by
   rw [hb] at hk;cases hk
   have:=hI.ro b o u hu'
   simp [World.cell?,hr] at this)
  ⟨hgen,b,r',hb,World.putObj_heap_same hbl,h1,h2,h3,h4,h5,by rw [dY hs];exact h6⟩
 rw [dY hs] at hset
 exact hset.widen (fun k hk=>by rw [hb] at hk;cases hk;exact hB)
theorem At.loop {s:St} {a:Act} (h:At wl B0 w0 R0 σ0 ws n1 s R σ a w) {id:Nat} {l:Lp} {s0:Sg} {b:Nat} (h0:σ0[id]? = some s0) (hh:s0.hole=false) (hg:s0.gen=0) (hb:s0.blk=some b) (hl:s.H[id]? = some (.loop l)) :
  σ[id]? = some s0∧∃ r:Loop,w.heap[b]? = some (.loop r)∧r.state=l.st∧r.pending=l.pending∧r.params.toList=l.params∧r.assign=l.assign∧r.body=l.body∧b7 R σ l.tmps r.tmps:=by
 obtain ⟨s',hs',hle⟩:=h.stp.ext id s0 h0
 have hh':=hle.hole hh
 obtain ⟨hgen,b',r,h3,h4,h5,h6,h8,h9,h10,h11⟩:=h.stp.inv.blk id _ s' hl hs' hh'
 have:=hle.same hh (by omega)
 subst this
 rw [hb] at h3
 cases h3
 exact ⟨hs',r,h4,h5,h6,h8,h9,h10,h11⟩
theorem Rt {cx:Cx} (hP:cx.P=P) (hC:mr P cx.call) (hY:C7 P cx.yld) (hD:Ei P) (hround:cx.round=true) {id:Nat} {l:Lp} {args:List V} {v:V} {H':Hp} (hl:H[id]? = some (.loop l))
  (h:Hn cx id l args H=some (v,H')) {cargs:Array Value} (hI:Inv cx.wl B0 w0 R σ H w) (hA:b7 R σ args cargs) {b:Nat} {s:Sg} (hs:σ[id]? = some s) (hh:s.hole=false) (hb:s.gen=0→s.blk=some b) :
  ∃ r:Loop,w.heap[b]? = some (.loop r)∧cargs.size=r.params.size ∧
   ∀ n,RoundIn Fence.wide n P b r.fn ((r.params.zip cargs).foldl (fun tmps (t,a)=>tmps.setIfInBounds t a) r.tmps) r.assign r.body w (Ni cx.wl B0 w0 R σ w v H'):=by
 unfold Hn at h
 split at h
 ·rename_i hcond
  obtain ⟨c1,c2,c3⟩:=hcond
  have hwl:cx.wl≤id:=Nat.le_of_ble_eq_true c3
  obtain ⟨hgen,b',r,h3,h4,h5,h6,h8,h9,h10,h11⟩:=hI.blk id _ s hl hs hh
  have hb:=hb hgen
  rw [h3] at hb
  cases hb
  refine ⟨r,h4,by have:=hA.1;rw [this,c2,← h8];simp,fun n => ?_⟩
  have henv:b7 R σ (fe l.tmps l.params args) ((r.params.zip cargs).foldl (fun tmps (t,a)=>tmps.setIfInBounds t a) r.tmps):=by
   rw [← Array.foldl_toList,Array.toList_zip,h8]
   exact uZ c2 (by simpa using hA) h11
  have hAt:At cx.wl B0 w0 R σ w 0 ⟨fe l.tmps l.params args,H⟩ R σ { tmps:=(r.params.zip cargs).foldl (fun tmps (t,a)=>tmps.setIfInBounds t a) r.tmps,defers:=[] } w:=
   ⟨henv,Stp.refl hI,Nat.le_refl _,trivial⟩
  have hro:cx.round=false→some b=none:=fun e=>by rw [hround] at e;cases e
  have hw:=(gr hP hC hY hD (ro:=some b) hro (n:=n) (Nat.zero_le _) l.assign).1 _ _ R σ _ w h hAt
  rw [← h9] at hw
  refine roundIn_of_wpIn (F:=Fence.wide) trivial (Go.wpIn_mono (show r.assign.wpIn (Fence.wide.inRound b) n P _ _ _ from hw) ?_)
  rintro e a1 w1 ⟨o,s1,R1,σ1,rfl,hk,hA1⟩
  cases o with
  | exit id'=>cases hk
  | goto l'=>cases hk
  | ret=>cases hk
  | norm=>
   simp only at hk
   split at hk
   ·rename_i l' hl'
    split at hk
    ·rename_i hready
     obtain ⟨hs1,r1,g4,g5,g6,g8,g9,g10,g11⟩:=hA1.loop hs hh hgen h3 hl'
     have hst:=KO (l' := { l' with st := .busy }) (r' := { r1 with state := .busy }) hA1.stp.inv hl' hs1 hh hwl h3 g4 rfl g6 g8 g9 g10 g11
     refine ⟨_,run_beginRound g4 (by rw [g5];exact hready),?_⟩
     have hA2:At cx.wl B0 w0 R σ w 0 ⟨s1.env,s1.H.set id (.loop { l' with st := .busy })⟩ R1 σ1 a1 (w1.putObj b (.loop { r1 with state := .busy })):=
      ⟨hA1.env,hA1.stp.trans hst hA1.size,by simpa using hA1.size,hA1.marks.keep hst.df⟩
     have hw2:=(gr hP hC hY hD (ro:=some b) hro (n:=n) (Nat.zero_le _) l.body).1 _ _ R1 σ1 a1 _ hk hA2
     rw [← h10] at hw2
     refine Go.wpIn_mono (show r.body.wpIn (Fence.wide.inRound b) n P _ _ _ from hw2) ?_
     rintro e a3 w3 ⟨o',s3,R3,σ3,rfl,hk3,hA3⟩
     simp only at hk3
     split at hk3
     ·rename_i l'' hl''
      cases hk3
      obtain ⟨hs3, r3, k4, k5, k6, k8, k9, k10, k11⟩ := hA3.loop hs hh hgen h3 hl''
      have hend:=run_endRound (P:=P) (ed o') k4
      have hst3 := KO (l' := { l'' with st := if (ed o').isNone then .ready else .done, pending := ed o' }) (r' := { r3 with state := if (ed o').isNone then .ready else .done, pending := ed o' })
       hA3.stp.inv hl'' hs3 hh hwl h3 k4 rfl rfl k8 k9 k10 k11
      have hfin : Ni cx.wl B0 w0 R σ w (.lit (.bool (ed o').isNone)) (pX H.length (s3.H.set id (.loop { l'' with st := if (ed o').isNone then .ready else .done, pending := ed o' })))
        (.returned (.bool (ed o').isNone)) (w3.putObj b (.loop { r3 with state:=if (ed o').isNone then .ready else .done,pending:=ed o' })):=
       ⟨R3,_,(hA3.stp.trans hst3 hA3.size).cut (by rw [hI.len];exact Nat.le_refl _),.lit _,by simpa using hA3.size⟩
      cases o' with
      | norm=>exact ⟨_,_,hend,hfin⟩
      | ret=>exact ⟨_,_,hend,hfin⟩
      | exit id'=>exact ⟨_,_,hend,hfin⟩
      | goto l'=>exact ⟨_,_,hend,hfin⟩
     ·cases hk3
    ·cases hk
   ·cases hk
 ·cases h
def VD (P:Program) (M:Mode):Prop:=
 ∀ (f:FuncId) (o:List V→Hp→Option (V×Hp)),M.orc f=some o→∀ (args:List V) (H:Hp) (v:V) (H':Hp),o args H=some (v,H')→CW P f ∧
  ∀ (B0:Nat) (w0:World) (R:Ro) (σ:List Sg) (w:World) (cargs:Array Value),Inv 0 B0 w0 R σ H w→b7 R σ args cargs→Calls P f cargs w (Ni 0 B0 w0 R σ w v H')
theorem ahm {M:Mode} (hN:V9 P) (hO:VD P M) (hD:Ei P):∀ k,mr P (evF P M k)∧C7 P (evY P M k)
 | 0=>⟨fun wl g args H v H' h=>by simp [evF] at h,fun wl l args H v H' h=>by simp [evY] at h⟩
 | k+1=>by
  obtain ⟨hC,hY⟩:=ahm hN hO hD k
  refine ⟨fun wl g args H v H' h => ?_,fun wl l args H v H' h => ?_⟩
  ·simp only [evF] at h
   split at h
   ·rename_i o ho
    split at h
    ·rename_i h0
     subst h0
     exact hO g o ho args H v H' h
    ·cases h
   ·split at h
    ·cases h
    ·rename_i fn hf
     have key:=fun (B0:Nat) (w0:World) (R:Ro) (σ:List Sg) (w:World) (cargs:Array Value) (hI:Inv wl B0 w0 R σ H w) (hA:b7 R σ args cargs)=>
      Su (cx := { P,M,fid:=g,round:=false,wl,call:=evF P M k,yld:=evY P M k,n:=k }) rfl rfl hC hY hD hf h hI hA
     refine ⟨⟨fn,hf,hN g fn hf,?_⟩,fun B0 w0 R σ w cargs hI hA=>(key B0 w0 R σ w cargs hI hA).2⟩
     unfold C4 at h
     cases hb:fn.body with
     | none=>rw [hb] at h;cases h
     | some c=>rfl
  ·intro B0 w0 R σ w cargs hI hA b s hs hh hb
   simp only [evY] at h
   split at h
   ·rename_i r hr
    exact Rt (cx := { P,M,fid:=r.fn,round:=true,wl,call:=evF P M k,yld:=evY P M k,n:=k }) rfl hC hY hD rfl hr h hI hA hs hh hb
   ·cases h
end func
end Go.Ab
namespace Go.Ab
section loc
variable {P:Program} {wl:Nat} {H H':Hp}
def B.seen:B→B
 | .rows e rs g _ => .rows e rs g true
 | b=>b
def cP (H:Hp) (id:Nat):Option B:=(H[id]?).map B.seen
structure Keeps (H H':Hp) (W:Option Nat):Prop where
 len:H.length≤H'.length
 same:∀ id,id<H.length→W≠some id→cP H' id=cP H id
theorem Keeps.refl (H:Hp) (W:Option Nat):Keeps H H W:=⟨Nat.le_refl _,fun _ _ _=>rfl⟩
theorem Keeps.trans {H1:Hp} {W:Option Nat} (h:Keeps H H1 W) (k:Keeps H1 H' W):Keeps H H' W:=
 ⟨Nat.le_trans h.len k.len,fun id hi hw=>(k.same id (Nat.lt_of_lt_of_le hi h.len) hw).trans (h.same id hi hw)⟩
theorem Keeps.push (H K:Hp) (W:Option Nat):Keeps H (H++K) W:=
 ⟨by simp,fun id hi _=>by unfold cP;rw [List.getElem?_append_left hi]⟩
theorem Keeps.set (H:Hp) (id:Nat) (b:B):Keeps H (H.set id b) (some id):=
 ⟨by simp,fun k _ hk=>by unfold cP;rw [List.getElem?_set_ne (fun e=>hk (by rw [e]))]⟩
theorem Keeps.live {id:Nat} {e g:Nat} {rs:List (List V)} {l l':Bool} (h:H[id]? = some (.rows e rs g l)) (W:Option Nat):Keeps H (H.set id (.rows e rs g l')) W:=
 ⟨by simp,fun k hk _=>by
  unfold cP
  by_cases hki:k=id
  ·subst hki;rw [List.getElem?_set_self hk,h];rfl
  ·rw [List.getElem?_set_ne (fun e=>hki e.symm)]⟩
theorem Keeps.weaken {W:Option Nat} (h:Keeps H H' none):Keeps H H' W:=⟨h.len,fun id hi _=>h.same id hi (by simp)⟩
theorem He {v v':V} (h:fzC wl v H=some (v',H')):Keeps H H' none:=by
 unfold fzC at h
 split at h
 ·split at h
  ·rename_i hb
   split at h
   ·split at h
    ·cases h;exact Keeps.live hb none
    ·cases h
   ·cases h
  ·cases h
 ·cases h;exact Keeps.refl _ _
theorem uW {nl:Bool}:∀ {vs vs':List V} {H H':Hp},fzL wl nl vs H=some (vs',H')→Keeps H H' none
 | [],vs',H,H',h=>by cases h;exact Keeps.refl _ _
 | v::vs,vs',H,H',h=>by
  simp only [fzL,Option.bind_eq_some_iff] at h
  obtain ⟨p,hp,q,hq,h⟩:=h
  cases h
  have h1:Keeps H p.2 none:=by
   split at hp
   ·split at hp <;> (cases hp;exact Keeps.refl _ _)
   ·exact He hp
  exact h1.trans (uW hq)
theorem Qs {v v':V} (h:fzA wl v H=some (v',H')):Keeps H H' none:=by
 unfold fzA at h
 split at h
 ·simp only [Option.bind_eq_some_iff] at h
  obtain ⟨p,hp,h⟩:=h
  cases h
  exact uW hp
 ·exact He h
theorem DK:∀ {vs vs':List V} {H H':Hp},oN wl vs H=some (vs',H')→Keeps H H' none
 | [],vs',H,H',h=>by cases h;exact Keeps.refl _ _
 | v::vs,vs',H,H',h=>by
  simp only [oN,Option.bind_eq_some_iff] at h
  obtain ⟨p,hp,q,hq,h⟩:=h
  cases h
  exact (Qs hp).trans (DK hq)
theorem lQ (vs:List V) (H:Hp) (W:Option Nat):Keeps H (bG vs H).2 W:=by
 obtain ⟨L,hL⟩:=oq vs H
 rw [hL];exact Keeps.push H L W
theorem BP {size:Nat}:∀ {parts:List (Nat×V)} {rs rs':List (List V)} {H H':Hp},gf wl size parts rs H=some (rs',H')→Keeps H H' none
 | [],rs,rs',H,H',h=>by cases h;exact Keeps.refl _ _
 | (i,v)::parts,rs,rs',H,H',h=>by
  unfold gf at h
  split at h
  ·simp only [Option.bind_eq_some_iff] at h
   obtain ⟨p,hp,h⟩:=h
   split at h
   ·exact (uW hp).trans (BP h)
   ·cases h
  ·cases h
theorem H3 {t:TypeId} {a v:V} (h:rx P wl t a v H=some H'):Keeps H H' (KU a):=by
 unfold rx at h
 split at h
 ·rename_i id g row off vs _
  split at h
  ·split at h
   ·split at h
    ·cases h
     exact (lQ vs H _).trans (Keeps.set _ _ _)
    ·cases h
   ·simp only [Option.bind_eq_some_iff] at h
    obtain ⟨p,hp,h⟩:=h
    split at h
    ·split at h
     ·simp only [Option.bind_eq_some_iff] at h
      obtain ⟨r,hr,h⟩:=h
      split at h
      ·cases h
       exact (uW hp).weaken.trans (Keeps.set _ _ _)
      ·cases h
     ·cases h
    ·cases h
   ·cases h
  ·cases h
 ·cases h
theorem Ex {t:TypeId} {m k v:V} (h:lg P wl t m k v H=some H'):Keeps H H' (KU m):=by
 unfold lg at h
 split at h
 ·split at h
  ·split at h
   ·split at h
    ·split at h
     ·cases h;exact Keeps.set _ _ _
     ·cases h
    ·cases h
   ·cases h
  ·cases h
 ·cases h
theorem Fc {t:TypeId} {s x v:V} (h:bA P wl t s x H=some (v,H')):Keeps H H' (KU s):=by
 unfold bA at h
 split at h
 ·cases h
 ·simp only [Option.bind_eq_some_iff] at h
  obtain ⟨xs,hx,h⟩:=h
  split at h
  ·split at h
   ·split at h
    ·cases h;exact Keeps.push _ _ _
    ·cases h
   ·split at h
    ·split at h
     ·cases h;exact Keeps.set _ _ _
     ·cases h
    ·cases h
   ·cases h
  ·cases h
theorem Ar {t:TypeId} {l c v:V} (h:aX P t l c H=some (v,H')):Keeps H H' none:=by
 unfold aX at h
 split at h
 ·cases h
 ·split at h
  ·split at h
   ·split at h
    ·split at h
     ·cases h;exact Keeps.push _ _ _
     ·cases h
    ·cases h
   ·cases h
  ·cases h
theorem wd {t:TypeId} {len:Nat} {parts:List (Nat×V)} {v:V} (h:aL P wl t len parts H=some (v,H')):Keeps H H' none:=by
 unfold aL at h
 split at h
 ·cases h
 ·split at h
  ·split at h
   ·simp only [Option.bind_eq_some_iff] at h
    obtain ⟨p,hp,h⟩:=h
    cases h
    exact (BP hp).trans (Keeps.push _ _ _)
   ·cases h
  ·cases h
theorem HB {calm:Bool} {t:TypeId} {x v:V} {lo hi mx:Option V} (h:cy P wl calm t x lo hi mx H=some (v,H')):Keeps H H' none:=by
 unfold cy at h
 split at h
 ·cases h
 ·split at h
  ·simp only [Option.bind_eq_some_iff] at h
   obtain ⟨_,_,_,_,_,_,h⟩:=h
   split at h
   ·cases h;exact Keeps.refl _ _
   ·cases h
  ·split at h
   ·simp only [Option.bind_eq_some_iff] at h
    obtain ⟨_,_,h⟩:=h
    split at h
    ·split at h
     ·cases h;exact Keeps.refl _ _
     ·cases h
    ·cases h
   ·simp only [Option.bind_eq_some_iff] at h
    obtain ⟨_,_,_,_,h⟩:=h
    split at h
    ·rename_i hb
     split at h
     ·cases h;exact Keeps.live hb none
     ·cases h
    ·cases h
   ·cases h
  ·cases h
theorem C1 {cx:Cx} {ord:Bool} {g:FuncId} {args:List V} {v:V} (h:lK cx ord g args H=some (v,H')):Keeps H H' none:=by
 have pure_:∀ {args:List V} {v:V} {H H':Hp},lN cx g args H=some (v,H')→Keeps H H' none:=by
  intro args v H H' h
  unfold lN at h
  simp only [Option.bind_eq_some_iff] at h
  obtain ⟨p,_,q,_,h⟩:=h
  cases h
  exact Keeps.push _ _ _
 unfold lK at h
 split at h
 ·split at h
  ·exact pure_ h
  ·split at h
   ·cases h
   ·simp only [Option.bind_eq_some_iff] at h
    obtain ⟨a,ha,h⟩:=h
    split at h
    ·simp only [Option.bind_eq_some_iff] at h
     obtain ⟨q,hq,h⟩:=h
     cases h
     cases hs:q.1.scal with
     | true=>exact Keeps.refl _ _
     | false=>exact (DK ha).trans (pure_ (v:=q.1) hq)
    ·simp only [Option.bind_eq_some_iff] at h
     obtain ⟨p,_,h⟩:=h
     split at h
     ·cases h;exact Keeps.refl _ _
     ·cases h
 ·split at h
  ·simp only [Option.bind_eq_some_iff] at h
   obtain ⟨p,_,q,_,h⟩:=h
   split at h
   ·cases h;exact Keeps.refl _ _
   ·cases h
  ·cases h
theorem uV {p q:V×Hp} (h:dD H p=some q):H.length≤q.2.length:=by
 unfold dD at h
 split at h
 ·rename_i hl
  cases h
  exact Nat.le_of_ble_eq_true hl
 ·cases h
theorem GA {cx:Cx} {calm ord:Bool} {op:Op} {env:List V} {v:V} (h:opV cx calm ord op env H=some (v,H')) :
  H.length≤H'.length∧((iX op=true→calm=true)→Keeps H H' (oZ env (eq op))):=by
 have fin:∀ {W:Option Nat},W=oZ env (eq op)→Keeps H H' W→H.length≤H'.length∧((iX op=true→calm=true)→Keeps H H' (oZ env (eq op))):=by
  rintro _ rfl h;exact ⟨h.len,fun _=>h⟩
 have q:Keeps H H' none→H.length≤H'.length∧((iX op=true→calm=true)→Keeps H H' (oZ env (eq op))):=fun h=>⟨h.len,fun _=>h.weaken⟩
 unfold opV at h
 split at h
 case h_1=>simp only [Option.map_eq_some_iff] at h;obtain ⟨_,_,e⟩:=h;cases e;exact q (Keeps.refl _ _)
 case h_2=>
  simp only [Option.map_eq_some_iff] at h
  obtain ⟨_,_,e⟩:=h
  split at e
  ·cases e;exact q (Keeps.push _ _ _)
  ·cases e;exact q (Keeps.refl _ _)
 case h_3=>simp only [Option.bind_eq_some_iff,Option.map_eq_some_iff] at h;obtain ⟨_,_,_,_,_,_,_,_,e⟩:=h;cases e;exact q (Keeps.refl _ _)
 case h_4=>
  simp only [Option.bind_eq_some_iff] at h
  obtain ⟨z,_,h⟩:=h
  split at h
  ·cases h;exact q ((lQ _ _ _).trans (Keeps.push _ _ _))
  ·cases h
 case h_5=>
  simp only [Option.bind_eq_some_iff] at h
  obtain ⟨_,_,_,_,h⟩:=h
  cases h;exact q ((lQ _ _ _).trans (Keeps.push _ _ _))
 case h_6=>simp only [Option.bind_eq_some_iff,Option.map_eq_some_iff] at h;obtain ⟨_,_,_,_,e⟩:=h;cases e;exact q (Keeps.refl _ _)
 case h_7=>
  simp only [Option.bind_eq_some_iff] at h
  obtain ⟨_,_,h⟩:=h
  split at h
  ·cases h
  ·exact q (wd h)
 case h_8=>
  simp only [Option.bind_eq_some_iff,Option.map_eq_some_iff] at h
  obtain ⟨m,hm,_,_,_,_,H1,hH,e⟩:=h
  cases e
  refine fin ?_ (Ex hH)
  simp only [eq,oZ,hm]
 case h_9=>simp only [Option.bind_eq_some_iff,Option.map_eq_some_iff] at h;obtain ⟨_,_,_,_,e⟩:=h;cases e;exact q (Keeps.refl _ _)
 case h_10=>
  simp only [Option.bind_eq_some_iff,Option.map_eq_some_iff] at h
  obtain ⟨a,ha,_,_,H1,hH,e⟩:=h
  cases e
  refine fin ?_ (H3 hH)
  simp only [eq,oZ,ha]
 case h_11=>simp only [Option.bind_eq_some_iff,Option.map_eq_some_iff] at h;obtain ⟨_,_,_,_,e⟩:=h;cases e;exact q (Keeps.refl _ _)
 case h_12=>simp only [Option.bind_eq_some_iff,Option.map_eq_some_iff] at h;obtain ⟨_,_,_,_,_,_,e⟩:=h;cases e;exact q (Keeps.refl _ _)
 case h_13=>simp only [Option.bind_eq_some_iff,Option.map_eq_some_iff] at h;obtain ⟨_,_,_,_,e⟩:=h;cases e;exact q (Keeps.refl _ _)
 case h_14=>simp only [Option.bind_eq_some_iff,Option.map_eq_some_iff] at h;obtain ⟨_,_,_,_,e⟩:=h;cases e;exact q (Keeps.refl _ _)
 case h_15=>simp only [Option.bind_eq_some_iff,Option.map_eq_some_iff] at h;obtain ⟨_,_,_,_,e⟩:=h;cases e;exact q (Keeps.refl _ _)
 case h_16=>
  split at h
  ·cases h;exact q (Keeps.push _ _ _)
  ·cases h
 case h_17=>
  simp only [Option.bind_eq_some_iff] at h
  obtain ⟨_,_,_,_,h⟩:=h
  exact q (Ar h)
 case h_18=>
  simp only [Option.bind_eq_some_iff] at h
  obtain ⟨_,_,_,_,_,_,_,_,h⟩:=h
  exact q (HB h)
 case h_19=>simp only [Option.bind_eq_some_iff,Option.map_eq_some_iff] at h;obtain ⟨_,_,_,_,e⟩:=h;cases e;exact q (Keeps.refl _ _)
 case h_20=>simp only [Option.bind_eq_some_iff,Option.map_eq_some_iff] at h;obtain ⟨_,_,_,_,e⟩:=h;cases e;exact q (Keeps.refl _ _)
 case h_21=>simp only [Option.bind_eq_some_iff,Option.map_eq_some_iff] at h;obtain ⟨_,_,_,_,_,_,e⟩:=h;cases e;exact q (Keeps.refl _ _)
 case h_22=>simp only [Option.bind_eq_some_iff,Option.map_eq_some_iff] at h;obtain ⟨_,_,_,_,_,_,e⟩:=h;cases e;exact q (Keeps.refl _ _)
 case h_23=>simp only [Option.bind_eq_some_iff,Option.map_eq_some_iff] at h;obtain ⟨_,_,_,_,_,_,e⟩:=h;cases e;exact q (Keeps.refl _ _)
 case h_24=>simp only [Option.bind_eq_some_iff,Option.map_eq_some_iff] at h;obtain ⟨_,_,_,_,e⟩:=h;cases e;exact q (Keeps.refl _ _)
 case h_25 c=>
  split at h
  ·rename_i b hb
   simp only [Option.bind_eq_some_iff] at h
   obtain ⟨as,has,h⟩:=h
   unfold OJ at h
   split at h
   ·split at h
    ·split at h
     ·simp only [Option.map_eq_some_iff] at h
      obtain ⟨_,_,e⟩:=h
      cases e;exact q (Keeps.refl _ _)
     ·cases h
    ·cases h
   ·split at h
    ·split at h
     ·rename_i s x _ _
      refine fin ?_ (Fc h)
      cases hl:c.args.toList with
      | nil=>rw [hl] at has;cases has
      | cons y ys=>
       rw [hl] at has
       simp only [ES,Option.bind_eq_some_iff] at has
       obtain ⟨v0,hv0,l,_,e⟩:=has
       cases e
       have:c.args[0]? = some y:=by
        have:c.args.toList[0]? = some y:=by rw [hl];rfl
        simpa using this
       simp only [eq,hb,this,oZ,hv0]
     ·cases h
    ·cases h
   ·simp only [Option.map_eq_some_iff] at h
    obtain ⟨_,_,e⟩:=h
    cases e;exact q (Keeps.refl _ _)
   ·simp only [Option.map_eq_some_iff] at h
    obtain ⟨_,_,e⟩:=h
    cases e;exact q (Keeps.refl _ _)
   ·cases h
  ·rename_i f hf
   simp only [Option.bind_eq_some_iff] at h
   obtain ⟨fv,_,as,_,h⟩:=h
   unfold nZ at h
   split at h
   ·split at h
    ·exact q (C1 h)
    ·rename_i hcalm
     simp only [Option.bind_eq_some_iff] at h
     obtain ⟨p,_,h⟩:=h
     exact ⟨uV h,fun hc=>absurd (hc (by simp [iX,hf])) (by simpa using hcalm)⟩
   ·split at h
    ·cases h
    ·rename_i hcalm
     simp only [Option.bind_eq_some_iff] at h
     obtain ⟨_,_,p,_,h⟩:=h
     exact ⟨uV h,fun hc=>absurd (hc (by simp [iX,hf])) (by simpa using hcalm)⟩
   ·cases h
  ·cases h
 case h_26=>cases h
end loc
end Go.Ab
namespace Go.Ab
section loc
variable {P:Program} {wl:Nat} {H H' H2:Hp}
def Ct (env env':List V) (x:Operand):Prop:=∀ t,x = .tmp t→env[t]? = env'[t]?
theorem aT {env env':List V} {x:Operand} (h:Ct env env' x):evO env x=evO env' x:=by
 cases x <;> first | rfl | exact h _ rfl
theorem pG {env env':List V}:∀ {xs:List Operand},(∀ x ∈ xs,Ct env env' x)→ES env xs=ES env' xs
 | [],_=>rfl
 | x::xs,h=>by
  simp only [ES,aT (h x (by simp)),pG (xs:=xs) (fun y hy=>h y (by simp [hy]))]
theorem wR {env env':List V}:∀ {xs:List (Nat×Operand)},(∀ x ∈ xs,Ct env env' x.2)→Pw (evO env) xs=Pw (evO env') xs
 | [],_=>rfl
 | (i,x)::xs,h=>by
  simp only [Pw,aT (h (i,x) (by simp)),wR (xs:=xs) (fun y hy=>h y (by simp [hy]))]
theorem wW {env env':List V} {x:Option Operand} (h:∀ y,x=some y→Ct env env' y):O3 env x=O3 env' x:=by
 cases x with
 | none=>rfl
 | some x=>simp only [O3,aT (h x rfl)]
theorem Im {cx:Cx} {calm ord:Bool} {op:Op} {env env':List V} (h:∀ x ∈ op.operands,Ct env env' x):opV cx calm ord op env H=opV cx calm ord op env' H:=by
 cases op
 case build t ps=>simp only [opV,wR (env:=env) (env':=env') (xs:=ps.toList) (fun x hx=>h x.2 (by simp only [Op.operands];simp;exact ⟨x.1,by simpa using hx⟩))]
 case buildSlice t n ps=>simp only [opV,wR (env:=env) (env':=env') (xs:=ps.toList) (fun x hx=>h x.2 (by simp only [Op.operands];simp;exact ⟨x.1,by simpa using hx⟩))]
 case makeFunc f x y=>
  simp only [opV,pG (env:=env) (env':=env') (xs:=x.toList) (fun z hz=>h z (by simp only [Op.operands];simp at hz;simp [hz])),
   pG (env:=env) (env':=env') (xs:=y.toList) (fun z hz=>h z (by simp only [Op.operands];simp at hz;simp [hz]))]
 case slice t x lo hi mx=>
  simp only [opV,aT (h x (by simp [Op.operands])),wW (x:=lo) (fun y hy=>h y (by simp [Op.operands,hy])),wW (x:=hi) (fun y hy=>h y (by simp [Op.operands,hy])),
   wW (x:=mx) (fun y hy=>h y (by simp [Op.operands,hy]))]
 case call c=>
  have hargs:ES env c.args.toList=ES env' c.args.toList:=pG (fun z hz=>h z (by simp only [Op.operands,Call.operands];simp at hz;simp [hz]))
  simp only [opV,hargs]
  cases hc:c.callee with
  | value f=>simp only [aT (h f (by simp [Op.operands,Call.operands,hc]))]
  | invoke r m=>rfl
  | builtin b=>rfl
 case pick c x y=>simp only [opV,aT (h c (by simp [Op.operands])),aT (h x (by simp [Op.operands])),aT (h y (by simp [Op.operands]))]
 case insert t m k v=>simp only [opV,aT (h m (by simp [Op.operands])),aT (h k (by simp [Op.operands])),aT (h v (by simp [Op.operands]))]
 case store t x y=>simp only [opV,aT (h x (by simp [Op.operands])),aT (h y (by simp [Op.operands]))]
 case binOp op t x y u=>simp only [opV,aT (h x (by simp [Op.operands])),aT (h y (by simp [Op.operands]))]
 case makeSlice t x y=>simp only [opV,aT (h x (by simp [Op.operands])),aT (h y (by simp [Op.operands]))]
 case indexAddr t x y=>simp only [opV,aT (h x (by simp [Op.operands])),aT (h y (by simp [Op.operands]))]
 case index t x y=>simp only [opV,aT (h x (by simp [Op.operands])),aT (h y (by simp [Op.operands]))]
 case lookup t x y ok=>simp only [opV,aT (h x (by simp [Op.operands])),aT (h y (by simp [Op.operands]))]
 case move x=>simp only [opV,aT (h x (by simp [Op.operands]))]
 case assign x=>simp only [opV,aT (h x (by simp [Op.operands]))]
 case box t x=>simp only [opV,aT (h x (by simp [Op.operands]))]
 case load t x=>simp only [opV,aT (h x (by simp [Op.operands]))]
 case nilCheck x=>simp only [opV,aT (h x (by simp [Op.operands]))]
 case unOp op t x=>simp only [opV,aT (h x (by simp [Op.operands]))]
 case convert s d x=>simp only [opV,aT (h x (by simp [Op.operands]))]
 case fieldAddr t x i=>simp only [opV,aT (h x (by simp [Op.operands]))]
 case field t x i=>simp only [opV,aT (h x (by simp [Op.operands]))]
 case extract x i=>simp only [opV,aT (h x (by simp [Op.operands]))]
 all_goals rfl
theorem Pq {cx:Cx} {calm ord:Bool} {op:Op} {env:List V} {v:V} (hk:re op = .plain) (h:opV cx calm ord op env H=some (v,H')):H'=H∧∀ H2,opV cx calm ord op env H2=some (v,H2):=by
 cases op
 case call c=>
  cases hc:c.callee with
  | value f=>simp [re,hc] at hk
  | invoke r m=>simp [re,hc] at hk
  | builtin b=>
   simp only [opV,hc,Option.bind_eq_some_iff] at h ⊢
   obtain ⟨as,has,h⟩:=h
   cases b <;> simp only [re,hc] at hk <;> first | cases hk | skip
   case builtin.max.intro=>
    simp only [OJ,Option.map_eq_some_iff] at h
    obtain ⟨v',hv,e⟩:=h
    cases e
    exact ⟨rfl,fun H2=>⟨as,has,by simp only [OJ,hv,Option.map_some]⟩⟩
   case builtin.min.intro=>
    simp only [OJ,Option.map_eq_some_iff] at h
    obtain ⟨v',hv,e⟩:=h
    cases e
    exact ⟨rfl,fun H2=>⟨as,has,by simp only [OJ,hv,Option.map_some]⟩⟩
   case builtin.append=>split at hk <;> cases hk
 case assign x=>
  cases x with
  | const c=>simp [re] at hk
  | tmp t=>
   simp only [opV,Option.map_eq_some_iff] at h ⊢
   obtain ⟨y,hy,e⟩:=h
   cases e
   exact ⟨rfl,fun H2=>⟨_,hy,rfl⟩⟩
  | func f=>
   simp only [opV,Option.map_eq_some_iff] at h ⊢
   obtain ⟨y,hy,e⟩:=h
   cases e
   exact ⟨rfl,fun H2=>⟨_,hy,rfl⟩⟩
  | global g=>
   simp only [opV,Option.map_eq_some_iff] at h ⊢
   obtain ⟨y,hy,e⟩:=h
   cases hy
 case move x=>simp only [opV,Option.map_eq_some_iff] at h ⊢;obtain ⟨y,hy,e⟩:=h;cases e;exact ⟨rfl,fun H2=>⟨_,hy,rfl⟩⟩
 case pick c x y=>simp only [opV,Option.bind_eq_some_iff,Option.map_eq_some_iff] at h ⊢;obtain ⟨_,h1,_,h2,_,h3,_,h4,e⟩:=h;cases e;exact ⟨rfl,fun H2=>⟨_,h1,_,h2,_,h3,_,h4,rfl⟩⟩
 case build t ps=>simp only [opV,Option.bind_eq_some_iff,Option.map_eq_some_iff] at h ⊢;obtain ⟨_,h1,_,h2,e⟩:=h;cases e;exact ⟨rfl,fun H2=>⟨_,h1,_,h2,rfl⟩⟩
 case binOp op t x y u=>simp only [opV,Option.bind_eq_some_iff,Option.map_eq_some_iff] at h ⊢;obtain ⟨_,h1,_,h2,_,h3,e⟩:=h;cases e;exact ⟨rfl,fun H2=>⟨_,h1,_,h2,_,h3,rfl⟩⟩
 case unOp op t x=>simp only [opV,Option.bind_eq_some_iff,Option.map_eq_some_iff] at h ⊢;obtain ⟨_,h1,_,h2,e⟩:=h;cases e;exact ⟨rfl,fun H2=>⟨_,h1,_,h2,rfl⟩⟩
 case convert s d x=>simp only [opV,Option.bind_eq_some_iff,Option.map_eq_some_iff] at h ⊢;obtain ⟨_,h1,_,h2,e⟩:=h;cases e;exact ⟨rfl,fun H2=>⟨_,h1,_,h2,rfl⟩⟩
 case makeFunc f x y=>simp only [opV,Option.bind_eq_some_iff,Option.map_eq_some_iff] at h ⊢;obtain ⟨_,h1,_,h2,e⟩:=h;cases e;exact ⟨rfl,fun H2=>⟨_,h1,_,h2,rfl⟩⟩
 case extract x i=>simp only [opV,Option.bind_eq_some_iff,Option.map_eq_some_iff] at h ⊢;obtain ⟨_,h1,_,h2,e⟩:=h;cases e;exact ⟨rfl,fun H2=>⟨_,h1,_,h2,rfl⟩⟩
 case field t x i=>simp only [opV,Option.bind_eq_some_iff,Option.map_eq_some_iff] at h ⊢;obtain ⟨_,h1,_,h2,e⟩:=h;cases e;exact ⟨rfl,fun H2=>⟨_,h1,_,h2,rfl⟩⟩
 case fieldAddr t x i=>simp only [opV,Option.bind_eq_some_iff,Option.map_eq_some_iff] at h ⊢;obtain ⟨_,h1,_,h2,e⟩:=h;cases e;exact ⟨rfl,fun H2=>⟨_,h1,_,h2,rfl⟩⟩
 case index t x i=>simp only [opV,Option.bind_eq_some_iff,Option.map_eq_some_iff] at h ⊢;obtain ⟨_,h1,_,h2,_,h3,e⟩:=h;cases e;exact ⟨rfl,fun H2=>⟨_,h1,_,h2,_,h3,rfl⟩⟩
 all_goals simp [re] at hk
theorem FH {id:Nat} {cs:List V} (hs:cP H2 id=cP H id) (h:H[id]? = some (.box cs)):H2[id]? = some (.box cs):=by
 unfold cP at hs
 rw [h] at hs
 cases h2:H2[id]? with
 | none=>rw [h2] at hs;cases hs
 | some b=>rw [h2] at hs;cases b <;> simp [B.seen] at hs <;> rw [hs]
theorem UJ {id:Nat} {es:List (Value×V)} (hs:cP H2 id=cP H id) (h:H[id]? = some (.map es)):H2[id]? = some (.map es):=by
 unfold cP at hs
 rw [h] at hs
 cases h2:H2[id]? with
 | none=>rw [h2] at hs;cases hs
 | some b=>rw [h2] at hs;cases b <;> simp [B.seen] at hs <;> rw [hs]
theorem pr {id e g:Nat} {rs:List (List V)} {l:Bool} (hs:cP H2 id=cP H id) (h:H[id]? = some (.rows e rs g l)):∃ l',H2[id]? = some (.rows e rs g l'):=by
 unfold cP at hs
 rw [h] at hs
 cases h2:H2[id]? with
 | none=>rw [h2] at hs;cases hs
 | some b=>
  rw [h2] at hs
  cases b <;> simp [B.seen] at hs
  rename_i e' rs' g' l'
  obtain ⟨rfl,rfl,rfl⟩:=hs
  exact ⟨l',rfl⟩
def acZ (H H2:Hp) (x:V):Prop:=∀ id,KU x=some id→cP H2 id=cP H id
theorem MJ {t:TypeId} {a v:V} (h:o8 P t a H=some v) (hs:acZ H H2 a):o8 P t a H2=some v:=by
 unfold o8 at h ⊢
 split at h
 ·exact h
 ·rename_i id g row off
  split at h
  ·rename_i cs hb;rw [FH (hs id rfl) hb];exact h
  ·rename_i e rs g' l hb;obtain ⟨l',hl⟩:=pr (hs id rfl) hb;rw [hl];exact h
  ·cases h
 ·cases h
theorem Qj {x v:V} (h:OD x H=some v) (hs:acZ H H2 x):OD x H2=some v:=by
 unfold OD at h ⊢
 split at h
 ·exact h
 ·exact h
 ·rename_i id g row off
  split at h
  ·rename_i cs hb;rw [FH (hs id rfl) hb];exact h
  ·rename_i e rs g' l hb;obtain ⟨l',hl⟩:=pr (hs id rfl) hb;rw [hl];exact h
  ·cases h
 ·cases h
theorem Pi {x v:V} (h:AM x H=some v) (hs:acZ H H2 x):AM x H2=some v:=by
 unfold AM at h ⊢
 split at h
 ·exact h
 ·exact h
 ·rename_i id g len
  split at h
  ·rename_i e rs g' l hb;obtain ⟨l',hl⟩:=pr (hs id rfl) hb;rw [hl];exact h
  ·cases h
 ·cases h
theorem GX {t:TypeId} {m k v:V} {ok:Bool} (h:kq P t m k ok H=some v) (hs:acZ H H2 m):kq P t m k ok H2=some v:=by
 unfold kq at h ⊢
 split at h
 ·split at h
  ·rename_i hk
   rw [if_pos hk]
   split at h
   ·rename_i z id kk n hz
    split at h
    ·rename_i es hb
     simp only [UJ (hs id rfl) hb]
     exact h
    ·cases h
   ·cases h
  ·cases h
 ·cases h
theorem BC {t:TypeId} {x i v:V} (h:aA P t x i H=some v) (hs:acZ H H2 x):aA P t x i H2=some v:=by
 unfold aA at h ⊢
 split at h
 ·rename_i k n
  split at h
  ·rename_i hn
   simp only [if_pos hn]
   split at h
   ·rename_i e hu
    split at h
    ·exact h
    ·rename_i id g len
     split at h
     ·rename_i s rs g' l hb
      obtain ⟨l',hl⟩:=pr (hs id rfl) hb
      simp only [hl]
      exact h
     ·cases h
    ·cases h
   ·exact h
   ·cases h
  ·cases h
 ·cases h
theorem Ch {t:TypeId} {x v:V} {lo hi mx:Option V} (h:cy P wl true t x lo hi mx H=some (v,H')) (hs:acZ H H2 x):H'=H∧cy P wl true t x lo hi mx H2=some (v,H2):=by
 unfold cy at h ⊢
 split at h
 ·cases h
 ·rename_i e he
  split at h
  ·simp only [Option.bind_eq_some_iff] at h ⊢
   obtain ⟨a,ha,b,hb,c,hc,h⟩:=h
   split at h
   ·rename_i hcond
    cases h
    exact ⟨rfl,a,ha,b,hb,c,hc,by rw [if_pos hcond]⟩
   ·cases h
  ·rename_i id g len
   split at h
   ·simp only [Option.bind_eq_some_iff] at h ⊢
    obtain ⟨a,ha,h⟩:=h
    split at h
    ·rename_i s rs g' l hb
     split at h
     ·rename_i hcond
      cases h
      obtain ⟨l',hl⟩:=pr (hs id rfl) hb
      exact ⟨rfl,a,ha,by simp only [hl];rw [if_pos hcond]⟩
     ·cases h
    ·cases h
   ·simp only [Option.bind_eq_some_iff] at h
    obtain ⟨a,ha,b,hb,h⟩:=h
    split at h
    ·split at h
     ·rename_i hcond
      exact absurd hcond.2.1 (by simp)
     ·cases h
    ·cases h
   ·cases h
  ·cases h
theorem PU {cx:Cx} {ord:Bool} {op:Op} {env:List V} {v:V} (hk:re op = .reads) (h:opV cx true ord op env H=some (v,H')) :
  H'=H∧∀ H2,(∀ id,oZ env (mL op)=some id→cP H2 id=cP H id)→opV cx true ord op env H2=some (v,H2):=by
 cases op
 case load t x=>
  simp only [opV,Option.bind_eq_some_iff,Option.map_eq_some_iff] at h ⊢
  obtain ⟨y,hy,v',hv,e⟩:=h
  cases e
  exact ⟨rfl,fun H2 hs=>⟨y,hy,v,MJ hv (fun id hid=>hs id (by simp only [mL,oZ,hy,hid])),rfl⟩⟩
 case lookup t m k ok=>
  simp only [opV,Option.bind_eq_some_iff,Option.map_eq_some_iff] at h ⊢
  obtain ⟨y,hy,z,hz,v',hv,e⟩:=h
  cases e
  exact ⟨rfl,fun H2 hs=>⟨y,hy,z,hz,v,GX hv (fun id hid=>hs id (by simp only [mL,oZ,hy,hid])),rfl⟩⟩
 case nilCheck x=>
  simp only [opV,Option.bind_eq_some_iff,Option.map_eq_some_iff] at h ⊢
  obtain ⟨y,hy,v',hv,e⟩:=h
  cases e
  exact ⟨rfl,fun H2 hs=>⟨y,hy,v,Qj hv (fun id hid=>hs id (by simp only [mL,oZ,hy,hid])),rfl⟩⟩
 case indexAddr t x i=>
  simp only [opV,Option.bind_eq_some_iff,Option.map_eq_some_iff] at h ⊢
  obtain ⟨y,hy,z,hz,v',hv,e⟩:=h
  cases e
  exact ⟨rfl,fun H2 hs=>⟨y,hy,z,hz,v,BC hv (fun id hid=>hs id (by simp only [mL,oZ,hy,hid])),rfl⟩⟩
 case slice t x lo hi mx=>
  simp only [opV,Option.bind_eq_some_iff] at h ⊢
  obtain ⟨y,hy,a,ha,b,hb,c,hc,h⟩:=h
  exact ⟨(Ch h (H2:=H) (fun _ _=>rfl)).1,fun H2 hs=>⟨y,hy,a,ha,b,hb,c,hc,(Ch h (fun id hid=>hs id (by simp only [mL,oZ,hy,hid]))).2⟩⟩
 case call c=>
  cases hc:c.callee with
  | value f=>simp [re,hc] at hk
  | invoke r m=>simp [re,hc] at hk
  | builtin b=>
   simp only [opV,hc,Option.bind_eq_some_iff] at h ⊢
   obtain ⟨as,has,h⟩:=h
   cases b <;> simp only [re,hc] at hk <;> first | cases hk | skip
   case builtin.len.intro=>
    unfold OJ at h
    simp only at h
    split at h
    ·rename_i t x hts
     split at h
     ·rename_i he
      simp only [Option.map_eq_some_iff] at h
      obtain ⟨v',hv,e⟩:=h
      cases e
      refine ⟨rfl,fun H2 hs=>⟨_,has,?_⟩⟩
      unfold OJ
      simp only [hts,he,if_true,Option.map_eq_some_iff]
      refine ⟨v,Pi hv (fun id hid=>hs id ?_),rfl⟩
      cases hl:c.args.toList with
      | nil=>rw [hl] at has;cases has
      | cons y ys=>
       rw [hl] at has
       simp only [ES,Option.bind_eq_some_iff] at has
       obtain ⟨v0,hv0,l,_,e⟩:=has
       cases e
       have:c.args[0]? = some y:=by
        have:c.args.toList[0]? = some y:=by rw [hl];rfl
        simpa using this
       simp only [mL,hc,this,oZ,hv0,hid]
     ·cases h
    ·cases h
   case builtin.append=>split at hk <;> cases hk
 case assign x=>cases x <;> simp [re] at hk
 all_goals simp [re] at hk
theorem P9 {cx:Cx} {op:Op} {env:List V} {v:V} (hk:KV op=true) (h:opV cx true false op env H=some (v,H')):H'=H∧∀ H2,opV cx true false op env H2=some (v,H2):=by
 unfold KV at hk
 split at hk
 ·rename_i c
  split at hk
  ·rename_i f hf
   simp only [opV,hf,Option.bind_eq_some_iff] at h ⊢
   obtain ⟨fv,hfv,as,has,h⟩:=h
   unfold nZ at h
   split at h
   ·rename_i g first caps
    simp only [if_true] at h
    unfold lK at h
    simp only [Bool.false_eq_true,if_false] at h
    split at h
    ·rename_i hp
     simp only [Option.bind_eq_some_iff] at h
     obtain ⟨p,h1,q,h2,h⟩:=h
     split at h
     ·rename_i h3
      cases h
      refine ⟨rfl,fun H2=>⟨_,hfv,as,has,?_⟩⟩
      unfold nZ
      simp only [if_true]
      unfold lK
      simp only [Bool.false_eq_true,if_false,hp,if_true,Option.bind_eq_some_iff]
      exact ⟨p,h1,q,h2,by rw [if_pos h3]⟩
     ·cases h
    ·cases h
   ·simp at h
   ·cases h
  ·cases hk
 ·cases hk
end loc
end Go.Ab
namespace Go.Ab
section bef
def uN (acc:Array Nat) (o:Oper):Array Nat:=acc.push (o.after.foldl (init:=0) fun s e=>if Region.binds .any e then s ||| 2 ^ e.on ||| acc.getD e.on 0 else s)
theorem Gu (ops:Array Oper):Region.before ops=ops.toList.foldl uN #[]:=by
 unfold Region.before
 rw [← Array.foldl_toList]
 rfl
theorem ED:∀ (l:List Oper) (acc:Array Nat) (k:Nat),k<acc.size→(l.foldl uN acc)[k]? = acc[k]?
 | [],_,_,_=>rfl
 | o::l,acc,k,hk=>by
  rw [List.foldl_cons,ED l _ k (by simp [uN];omega)]
  simp [uN,Array.getElem?_push,show k≠acc.size by omega]
theorem QE:∀ (l:List Oper) (acc:Array Nat) (j:Nat) (o:Oper),l[j]? = some o→∃ A:Array Nat,A.size=acc.size+j ∧
  (l.foldl uN acc)[acc.size+j]? = some (o.after.foldl (init:=0) fun s e=>if Region.binds .any e then s ||| 2 ^ e.on ||| A.getD e.on 0 else s)∧∀ k,k<A.size→(l.foldl uN acc)[k]? = A[k]?
 | [],acc,j,o,h=>by simp at h
 | x::l,acc,0,o,h=>by
  simp at h
  subst h
  refine ⟨acc,rfl,?_,fun k hk=>ED _ _ _ hk⟩
  rw [List.foldl_cons,Nat.add_zero,ED l _ _ (by simp [uN])]
  simp [uN]
 | x::l,acc,j+1,o,h=>by
  obtain ⟨A,h1,h2,h3⟩:=QE l (uN acc x) j o (by simpa using h)
  have hs:(uN acc x).size=acc.size+1:=by simp [uN]
  refine ⟨A,by omega,?_,fun k hk=>by rw [List.foldl_cons];exact h3 k hk⟩
  rw [List.foldl_cons,show acc.size+(j+1)=(uN acc x).size+j by omega]
  exact h2
theorem Mg (look:Nat→Nat) (k:Nat):∀ (es:List Edge) (s:Nat),(es.foldl (fun s e=>if Region.binds .any e then s ||| 2 ^ e.on ||| look e.on else s) s).testBit k=true →
  s.testBit k=true∨∃ e ∈ es,Region.binds .any e=true∧(k=e.on∨(look e.on).testBit k=true)
 | [],s,h => .inl h
 | e::es,s,h=>by
  rw [List.foldl_cons] at h
  rcases Mg look k es _ h with h | ⟨e',h1,h2,h3⟩
  ·split at h
   ·rename_i hb
    rw [Nat.testBit_or,Nat.testBit_or,Nat.testBit_two_pow] at h
    simp only [Bool.or_eq_true,decide_eq_true_eq] at h
    rcases h with (h | h) | h
    ·exact .inl h
    ·exact .inr ⟨e,by simp,hb,.inl h.symm⟩
    ·exact .inr ⟨e,by simp,hb,.inr h⟩
   ·exact .inl h
  ·exact .inr ⟨e',by simp [h1],h2,h3⟩
def ag6 (ops:Array Oper):Prop:=∀ i o,ops[i]? = some o→∀ e ∈ o.after,Region.binds .any e=true→e.on<i
theorem CN {ops:Array Oper} (hb:ag6 ops) {i:Nat} {o:Oper} (ho:ops[i]? = some o) {k:Nat} (h:((Region.before ops).getD i 0).testBit k=true) :
  ∃ e ∈ o.after,Region.binds .any e=true∧(k=e.on∨((Region.before ops).getD e.on 0).testBit k=true):=by
 obtain ⟨A,h1,h2,h3⟩:=QE ops.toList #[] i o (by simpa using ho)
 rw [← Gu] at h2 h3
 simp only [List.size_toArray,List.length_nil,Nat.zero_add] at h1 h2
 have hv:(Region.before ops).getD i 0=o.after.foldl (init:=0) fun s e=>if Region.binds .any e then s ||| 2 ^ e.on ||| A.getD e.on 0 else s:=by
  simp only [Array.getD_eq_getD_getElem?,h2,Option.getD_some]
 rw [hv,← Array.foldl_toList] at h
 rcases Mg (fun j=>A.getD j 0) k _ _ h with h | ⟨e,he,hbe,h⟩
 ·simp at h
 ·have he':e ∈ o.after:=by simpa using he
  refine ⟨e,he',hbe,h.imp id fun h => ?_⟩
  have:=hb i o ho e he' hbe
  have h3:=h3 e.on (by omega)
  simp only [Array.getD_eq_getD_getElem?] at h ⊢
  rw [h3];exact h
theorem OQ {ops:Array Oper} (hb:ag6 ops):∀ (i k:Nat),((Region.before ops).getD i 0).testBit k=true→k<i:=by
 intro i
 induction i using Nat.strongRecOn with
 | _ i ih=>
  intro k h
  cases ho:ops[i]? with
  | none=>
   have hi:(Region.before ops).getD i 0=0:=by
    have:(Region.before ops).size=ops.size:=by
     have:∀ (l:List Oper) (acc:Array Nat),(l.foldl uN acc).size=acc.size+l.length:=by
      intro l
      induction l with
      | nil=>intros;rfl
      | cons x l ihl=>intro acc;rw [List.foldl_cons,ihl];simp [uN];omega
     rw [Gu,this];simp
    have h1:ops.size≤i:=by simpa using ho
    simp [Array.getD_eq_getD_getElem?,Array.getElem?_eq_none (by omega:(Region.before ops).size≤i)]
   rw [hi] at h
   simp at h
  | some o=>
   obtain ⟨e,he,hbe,h⟩:=CN hb ho h
   have h1:=hb i o ho e he hbe
   rcases h with h | h
   ·omega
   ·have:=ih e.on h1 k h
    omega
end bef
section order
variable {ops:Array Oper}
theorem HF {p:Oper×Nat}:p ∈ aw ops↔ops[p.2]? = some p.1:=by
 unfold aw
 simp only [List.mem_append,List.mem_filter]
 have:p ∈ ops.toList.zipIdx↔ops[p.2]? = some p.1:=by
  rw [List.mem_zipIdx_iff_getElem?]
  simp
 rw [this]
 cases bT ops (Region.before ops) p.2 <;> simp
theorem Xy (l:List Oper) (k:Nat):(l.zipIdx k).Pairwise (fun a b=>a.2<b.2):=by
 induction l generalizing k with
 | nil=>exact .nil
 | cons x l ih=>
  rw [List.zipIdx_cons]
  refine .cons (fun p hp => ?_) (ih (k+1))
  have:=List.mem_zipIdx hp
  show k<p.2
  omega
theorem NC:(aw ops).Pairwise (fun a b=>a.2≠b.2∧(bT ops (Region.before ops) a.2=true∨(bT ops (Region.before ops) b.2=false∧a.2<b.2))):=by
 unfold aw
 rw [List.pairwise_append]
 refine ⟨?_,?_,?_⟩
 ·refine List.Pairwise.imp_of_mem ?_ ((Xy ops.toList 0).filter _)
  intro a b ha hb h
  exact ⟨by omega,.inl (List.mem_filter.1 ha).2⟩
 ·refine List.Pairwise.imp_of_mem ?_ ((Xy ops.toList 0).filter _)
  intro a b ha hb h
  exact ⟨by omega,.inr ⟨by simpa using (List.mem_filter.1 hb).2,h⟩⟩
 ·intro a ha b hb
  have h1:=(List.mem_filter.1 ha).2
  have h2:=(List.mem_filter.1 hb).2
  refine ⟨fun e => ?_,.inl h1⟩
  rw [e] at h1
  simp [h1] at h2
theorem kL {p q:Nat} {x y:Oper×Nat} (hpq:p<q) (hx:(aw ops)[p]? = some x) (hy:(aw ops)[q]? = some y) :
  x.2≠y.2∧(bT ops (Region.before ops) x.2=true∨(bT ops (Region.before ops) y.2=false∧x.2<y.2)):=by
 have hp:=(List.getElem?_eq_some_iff.1 hx)
 have hq:=(List.getElem?_eq_some_iff.1 hy)
 obtain ⟨hp1,rfl⟩:=hp
 obtain ⟨hq1,rfl⟩:=hq
 exact List.pairwise_iff_getElem.1 NC p q hp1 hq1 hpq
theorem P5 {i:Nat} {o:Oper} (h:ops[i]? = some o):∃ p:Nat,(aw ops)[p]? = some (o,i):=
 List.mem_iff_getElem?.1 (HF.2 h)
theorem fH (hb:ag6 ops) {p q:Nat} {o o':Oper} {i j:Nat} (hpq:p<q) (hx:(aw ops)[p]? = some (o,i)) (hy:(aw ops)[q]? = some (o',j))
  (h:cN (Region.before ops) i j=true):((Region.before ops).getD j 0).testBit i=true:=by
 obtain ⟨hne,h1⟩:=kL hpq hx hy
 simp only at hne h1
 unfold cN at h
 simp only [Bool.or_eq_true,beq_iff_eq] at h
 rcases h with (h | h) | h
 ·exact absurd h hne
 ·rcases h1 with h1 | ⟨_,h1⟩
  ·unfold bT at h1
   simp only [Bool.and_eq_true,beq_iff_eq] at h1
   rw [h1.1.2] at h
   simp at h
  ·have:=OQ hb i j h
   omega
 ·exact h
end order
section trace
variable {T:Type}
theorem wg {cx:Cx} {n0:Nat} {rg:Rg} {ops:Array Oper} {K:St→Option T} {r:T}:∀ (L:List (Oper×Nat)) (logs:List Nat×List Nat) (s:St),FX cx n0 rg ops L logs K s=some r →
  ∃ (S:Nat→St) (ran:Nat→Bool) (val:Nat→V) (fin:List Nat×List Nat),S 0=s∧K (S L.length)=some r∧(rg.any=true→Bq fin=true)∧(∀ x ∈ logs.1,x ∈ fin.1)∧(∀ x ∈ logs.2,x ∈ fin.2) ∧
   ∀ (q:Nat) (o:Oper) (i:Nat),L[q]? = some (o,i)→nq ops o (S q).env (ran q)∧(S (q+1)).env=oL (S q).env o.dst (val q) ∧
    (ran q=true→fb n0 (rg.strict i) o.op (S q).env=true∧opV cx (rg.calm i) (rg.ord i) o.op (S q).env (S q).H=some (val q,(S (q+1)).H) ∧
     (rg.any=true→(rg.loose i=true→∀ k,oZ (S q).env (mL o.op)=some k→k ∈ fin.1)∧(rg.loose i=false→re o.op = .loud→∀ k,oZ (S q).env (eq o.op)=some k→k ∈ fin.2))) ∧
    (ran q=false→val q = .lit undef∧(S (q+1)).H=(S q).H)
 | [],logs,s,h=>by
  refine ⟨fun _=>s,fun _=>true,fun _ => .junk,logs,rfl,?_,?_,fun _ h=>h,fun _ h=>h,fun q o i h=>by simp at h⟩
  ·unfold FX at h
   split at h
   ·split at h
    ·exact h
    ·cases h
   ·exact h
  ·intro ha
   unfold FX at h
   rw [if_pos ha] at h
   split at h
   ·assumption
   ·cases h
 | (o,i)::rest,logs,s,h=>by
  have logA_sub:(∀ x ∈ logs.1,x ∈ (LM rg i o.op s.env logs).1)∧(∀ x ∈ logs.2,x ∈ (LM rg i o.op s.env logs).2):=by
   unfold LM
   split
   ·split
    ·split
     ·exact ⟨fun x hx=>by simp [hx],fun x hx=>hx⟩
     ·exact ⟨fun x hx=>hx,fun x hx=>hx⟩
    ·split
     ·split
      ·exact ⟨fun x hx=>hx,fun x hx=>by simp [hx]⟩
      ·exact ⟨fun x hx=>hx,fun x hx=>hx⟩
     ·exact ⟨fun x hx=>hx,fun x hx=>hx⟩
   ·exact ⟨fun x hx=>hx,fun x hx=>hx⟩
  rcases H8 h with ⟨hg,hst,p,hp,hr⟩ | ⟨hg,hr⟩
  ·obtain ⟨S,ran,val,fin,e0,eK,hap,h1,h2,hall⟩:=wg rest _ _ hr
   refine ⟨fun n=>match n with | 0=>s | n+1=>S n,fun n=>match n with | 0=>true | n+1=>ran n,fun n=>match n with | 0=>p.1 | n+1=>val n,fin,rfl,eK,hap,
    fun x hx=>h1 x (logA_sub.1 x hx),fun x hx=>h2 x (logA_sub.2 x hx),fun q o' i' hq => ?_⟩
   cases q with
   | zero=>
    simp at hq
    obtain ⟨rfl,rfl⟩:=hq
    refine ⟨hg,by show (S 0).env=_;rw [e0],fun _=>⟨hst,by show _=some (p.1,(S 0).H);rw [e0];exact hp,fun ha=>⟨fun hl k hk=>h1 k ?_,fun hl hk' k hk=>h2 k ?_⟩⟩,fun h=>by cases h⟩
    ·unfold LM
     rw [if_pos ha,if_pos hl,hk]
     simp
    ·unfold LM
     rw [if_pos ha,if_neg (by simp [hl]),if_pos hk',hk]
     simp
   | succ q=>exact hall q o' i' (by simpa using hq)
  ·obtain ⟨S,ran,val,fin,e0,eK,hap,h1,h2,hall⟩:=wg rest _ _ hr
   refine ⟨fun n=>match n with | 0=>s | n+1=>S n,fun n=>match n with | 0=>false | n+1=>ran n,fun n=>match n with | 0 => .lit undef | n+1=>val n,fin,rfl,eK,hap,h1,h2,fun q o' i' hq => ?_⟩
   cases q with
   | zero=>
    simp at hq
    obtain ⟨rfl,rfl⟩:=hq
    exact ⟨hg,by show (S 0).env=_;rw [e0],fun h=>(by cases h),fun _=>⟨rfl,by show (S 0).H=_;rw [e0]⟩⟩
   | succ q=>exact hall q o' i' (by simpa using hq)
end trace
section slots
variable {env0:List V} {L:List (Oper×Nat)} {val:Nat→V} {D D':Nat→Bool}
def Dt (env0:List V) (L:List (Oper×Nat)) (val:Nat→V) (D:Nat→Bool):Nat→List V
 | 0=>env0
 | m+1=>match L[m]? with
  | some (o,_)=>if D m then oL (Dt env0 L val D m) o.dst (val m) else Dt env0 L val D m
  | none=>Dt env0 L val D m
theorem lL (env:List V) (d:Option Tmp) (v:V) (t:Tmp):(oL env d v)[t]? = if d=some t then (env[t]?).map (fun _=>v) else env[t]? := by
 cases d with
 | none=>simp [oL]
 | some d=>
  simp only [oL]
  by_cases h:d=t
  ·subst h;simp [List.getElem?_set_self'];rfl
  ·rw [List.getElem?_set_ne h,if_neg (by simp [h])]
theorem Bd {t:Tmp}:∀ (m:Nat),(∀ q,q<m→∀ o i,L[q]? = some (o,i)→o.dst=some t→D q=D' q)→(Dt env0 L val D m)[t]? = (Dt env0 L val D' m)[t]?
 | 0,_=>rfl
 | m+1,h=>by
  have ih:=Bd m (fun q hq=>h q (by omega))
  simp only [Dt]
  split
  ·rename_i o i hL
   by_cases hd:o.dst=some t
   ·have:=h m (by omega) o i hL hd
    rw [this]
    split
    ·rw [lL,lL,ih]
    ·exact ih
   ·have e:∀ (b:Bool) (x:List V),(if b=true then oL x o.dst (val m) else x)[t]? = x[t]? := by
     intro b x
     split
     ·rw [lL,if_neg hd]
     ·rfl
    rw [e,e,ih]
  ·exact ih
theorem H7 {S:Nat→St} (h0:(S 0).env=env0) (h:∀ (q:Nat) (o:Oper) (i:Nat),L[q]? = some (o,i)→(S (q+1)).env=oL (S q).env o.dst (val q)) (p:Nat) :
  ∀ m,m≤L.length→Dt env0 L val (fun q=>decide (q<p)) m=(S (min m p)).env
 | 0,_=>by simp [Dt,h0]
 | m+1,hm=>by
  have ih:=H7 h0 h p m (by omega)
  simp only [Dt]
  have hl:m<L.length:=by omega
  obtain ⟨o,i,hL⟩:∃ o i,L[m]? = some (o,i):=⟨L[m].1,L[m].2,by simp [hl]⟩
  rw [hL]
  simp only [decide_eq_true_eq]
  split
  ·rename_i hmp
   rw [ih,Nat.min_eq_left (by omega),Nat.min_eq_left (by omega),h m o i hL]
  ·rename_i hmp
   rw [ih,Nat.min_eq_right (by omega),Nat.min_eq_right (by omega)]
theorem aht {p:Nat} {o:Oper} {i:Nat} (hp:L[p]? = some (o,i)) (hD:D p=false) (hD':∀ q,q≠p→D' q=D q) (hDp:D' p=true)
  (hno:∀ q,p<q→D q=true→∀ o' i',L[q]? = some (o',i')→∀ t,o.dst=some t→o'.dst≠some t) :
  ∀ (m:Nat),p<m→∀ (t:Tmp),(Dt env0 L val D' m)[t]? = (oL (Dt env0 L val D m) o.dst (val p))[t]?
 | 0,hm,_=>by omega
 | m+1,hm,t=>by
  simp only [Dt]
  by_cases hmp:m=p
  ·subst hmp
   rw [hp]
   simp only [hD,hDp,if_true,Bool.false_eq_true,if_false]
   rw [lL,lL,Bd (D:=D') (D':=D) m (fun q hq _ _ _ _=>hD' q (by omega))]
  ·have ih:=aht hp hD hD' hDp hno m (by omega)
   split
   ·rename_i o' i' hL
    rw [hD' m hmp]
    split
    ·rename_i hDm
     rw [lL,ih t,lL,lL,lL]
     by_cases h1:o.dst=some t
     ·have h2:=hno m (by omega) hDm o' i' hL t h1
      rw [if_neg h2,if_pos h1,if_pos h1,if_neg h2]
     ·rw [if_neg h1,if_neg h1]
    ·exact ih t
   ·exact ih t
end slots
end Go.Ab
namespace Go.Ab
open Go.RowKit
section holes
variable {P:Program} {wl B0:Nat} {w0:World} {R0 R R':Ro} {σ0 σ σ':List Sg} {ws:World} {n1:Nat} {H:Hp} {w w':World}
def lA:Sg:=⟨none,0,0,0,true⟩
theorem Stp.hole {T:Nat→Prop} (h:Stp T wl B0 w0 R0 σ0 ws R σ H w) (b:B):Stp T wl B0 w0 R0 σ0 ws R (σ++[lA]) (H++[b]) w:=
 ⟨h.inv.adopt (fun k hk=>by cases hk) (fun h=>by cases h),h.ext.trans (Ext.append σ _),h.le,h.new,h.fr,h.df,fun id s hs hh=>by
  have:=h.hl id s hs hh
  rw [List.getElem?_append_left (List.getElem?_eq_some_iff.1 this).1];exact this⟩
theorem Ext.fill {j:Nat} {s s':Sg} (hs:σ[j]? = some s) (hh:s.hole=true):Ext σ (σ.set j s'):=by
 intro i t ht
 by_cases hi:i=j
 ·subst hi
  rw [hs] at ht;cases ht
  exact ⟨s',by rw [List.getElem?_set_self (List.getElem?_eq_some_iff.1 hs).1],.inl hh⟩
 ·exact ⟨t,by rw [List.getElem?_set_ne (by omega)];exact ht,wQ.refl t⟩
theorem Inv.fill (hI:Inv wl B0 w0 R σ H w) {j:Nat} {cs:List V} {cells:Array Value} (e:TypeId) (hs:σ[j]? = some lA) (hH:H[j]? = some (.box cs)) (ho:bg cs=true) (hr:b7 R σ cs cells) :
  Inv wl B0 w0 R (σ.set j ⟨some w.heap.size,0,0,0,false⟩) H (w.alloc (.cells cells e)):=by
 have hW:=hI.world (Below.one_alloc w (.cells cells e))
 have hext:Ext σ (σ.set j ⟨some w.heap.size,0,0,0,false⟩):=Ext.fill hs rfl
 refine ⟨hW.below,hW.base,by simp [hI.len],?_,?_,?_,?_,hW.ro⟩
 ·intro id x y h1 h2 hh
  rcases ba h2 with ⟨rfl,rfl,_⟩ | ⟨hi,h2⟩
  ·rw [hH] at h1;cases h1
   exact ⟨rfl,ho,w.heap.size,cells,e,rfl,iH w _,hr.mono (iz.refl R) hext,fun o=>hI.ro_new o⟩
  ·exact (hW.blk id x y h1 h2 hh).mono (iz.refl R) hext (fun _ _=>rfl) (fun _ _ _ h=>h)
 ·intro i i' bi bj si sj k h1 h2 d1 d2 h3 h4 e1 e2
  rcases ba h3 with ⟨ei,es,_⟩ | ⟨hi,h3'⟩
  ·rcases ba h4 with ⟨ei',es',_⟩ | ⟨hi',h4'⟩
   ·rw [ei,ei']
   ·rw [es] at e1
    cases e1
    have:=hI.lt i' bj sj _ h2 d2 h4' e2
    omega
  ·rcases ba h4 with ⟨ei',es',_⟩ | ⟨hi',h4'⟩
   ·rw [es'] at e2
    cases e2
    have:=hI.lt i bi si _ h1 d1 h3' e1
    omega
   ·exact hI.inj i i' bi bj si sj k h1 h2 d1 d2 h3' h4' e1 e2
 ·intro id x y k hle h1 d h2 e1
  rcases ba h2 with ⟨rfl,rfl,_⟩ | ⟨hi,h2⟩
  ·cases e1;exact hI.base
  ·exact hI.ge id x y k hle h1 d h2 e1
 ·intro id x y k h1 d h2 e1
  rcases ba h2 with ⟨rfl,rfl,_⟩ | ⟨hi,h2⟩
  ·cases e1;simp
  ·exact hW.lt id x y k h1 d h2 e1
theorem Stp.fill (h:Stp (TB B0) wl B0 w0 R0 σ0 ws R σ H w) (hsz:ws.heap.size≤w.heap.size) {j:Nat} {cs:List V} {cells:Array Value} (e:TypeId) (hj:σ0.length≤j) (hs:σ[j]? = some lA) (hH:H[j]? = some (.box cs)) (ho:bg cs=true) (hr:b7 R σ cs cells) :
  Stp (TB B0) wl B0 w0 R0 σ0 ws R (σ.set j ⟨some w.heap.size,0,0,0,false⟩) H (w.alloc (.cells cells e)):=by
 have hb:=Below.one_alloc w (.cells cells e)
 refine ⟨h.inv.fill e hs hH ho hr,h.ext.trans (Ext.fill hs rfl),h.le,h.new,fun k hk hT=>(hb.block k (by omega)).trans (h.fr k hk hT),fun k ds hk => ?_,fun id s hs' hh => ?_⟩
 ·have:=(Array.getElem?_eq_some_iff.1 hk).1
  exact (hb.block k (by omega)).trans (h.df k ds hk)
 ·have:=(List.getElem?_eq_some_iff.1 hs').1
  rw [List.getElem?_set_ne (by omega)]
  exact h.hl id s hs' hh
end holes
section facts
variable {ops:Array Oper}
theorem pL (h:Fx ops=true):ag6 ops ∧
  (∀ (i j:Nat) (o o':Oper) (t:Tmp),ops[i]? = some o→ops[j]? = some o'→t ∈ rJ ops o'→o.dst=some t→cN (Region.before ops) i j=true) ∧
  (∀ (i j:Nat) (o o':Oper),ops[i]? = some o→ops[j]? = some o'→gF ops (Region.before ops) i=true→gF ops (Region.before ops) j=true→cN (Region.before ops) i j=true):=by
 unfold Fx at h
 simp only [Bool.and_eq_true,List.all_eq_true,List.mem_range] at h
 obtain ⟨ht,h⟩:=h
 have lt:∀ {i:Nat} {o:Oper},ops[i]? = some o→i<ops.size:=fun h=>(Array.getElem?_eq_some_iff.1 h).1
 have get:∀ {i:Nat} {o:Oper},ops[i]? = some o→_:=fun {i o} ho=>h i (lt ho)
 refine ⟨?_,?_,?_⟩
 ·intro i o ho e he hb
  have:=get ho
  rw [ho] at this
  simp only [Bool.and_eq_true,Array.all_eq_true_iff_forall_mem,Bool.or_eq_true,Bool.not_eq_true',decide_eq_true_eq] at this
  rcases this.1.2 e he with h1 | h1
  ·rw [hb] at h1;cases h1
  ·exact h1
 ·intro i j o o' t ho ho' hn hd
  unfold XB at ht
  simp only [List.all_eq_true,List.mem_range] at ht
  have:=ht j (lt ho')
  rw [ho'] at this
  simp only [List.all_eq_true,List.mem_range] at this
  have:=this t hn i (lt ho)
  rw [ho] at this
  simp only [Bool.or_eq_true,bne_iff_ne,ne_eq] at this
  rcases this with h1 | h1
  ·exact absurd hd h1
  ·exact h1
 ·intro i j o o' ho ho' h1 h2
  have:=get ho
  rw [ho] at this
  simp only [Bool.and_eq_true,Bool.or_eq_true,Bool.not_eq_true',List.all_eq_true,List.mem_range] at this
  rcases this.2 with h3 | h3
  ·rw [h1] at h3;cases h3
  ·rcases h3 j (lt ho') with h4 | h4
   ·rw [h2] at h4;cases h4
   ·exact h4
theorem pg {i:Nat} {o:Oper} (h:ops[i]? = some o):HS ops i=re o.op:=by unfold HS;rw [h]
theorem mj {i:Nat} {o:Oper} (h:ops[i]? = some o) (hh:bT ops (Region.before ops) i=true):(∃ t,o.op = .alloc t)∧o.guard=none:=by
 unfold bT at hh
 rw [h] at hh
 simp only [Bool.and_eq_true] at hh
 obtain ⟨⟨⟨h1,h2⟩,_⟩,_⟩:=hh
 refine ⟨?_,by simpa using h2⟩
 unfold QV at h1
 split at h1
 ·exact ⟨_,by assumption⟩
 ·cases h1
theorem Vk {op:Op} {env:List V} (h:re op ≠ .loud):oZ env (eq op)=none:=by
 cases op <;> first | rfl | skip
 case store=>exact absurd rfl h
 case insert=>exact absurd rfl h
 case call c=>
  simp only [eq]
  split
  ·rename_i hb
   cases ha:c.args[0]? with
   | none=>rfl
   | some x=>
    cases x with
    | const v=>
     simp only [oZ,evO]
     unfold f9
     split
     ·split <;> rfl
     ·unfold oK
      split <;> rfl
    | tmp t=>exact absurd (by simp [re,hb,ha]) h
    | func f=>exact absurd (by simp [re,hb,ha]) h
    | global g=>exact absurd (by simp [re,hb,ha]) h
  ·rfl
theorem Ko {i j:Nat} {o:Oper} (hj:ops[j]? = some o) (hk:HS ops j ≠ .plain) (h:cN (Region.before ops) i j=false):Eh ops (Region.before ops) i=true:=by
 unfold Eh
 cases ha:alO ops (Region.before ops) i with
 | false=>simp
 | true=>
  unfold alO at ha
  simp only [List.all_eq_true,List.mem_range,Bool.or_eq_true,beq_iff_eq] at ha
  rcases ha j (Array.getElem?_eq_some_iff.1 hj).1 with h1 | h1
  ·exact absurd h1 hk
  ·rw [h] at h1;cases h1
theorem mM (bef:Array Nat) (i j:Nat):cN bef i j=cN bef j i:=by
 unfold cN
 by_cases h:i=j
 ·subst h;rfl
 ·have h1:(i==j)=false:=by simpa using h
  have h2:(j==i)=false:=by simpa using fun e:j=i=>h e.symm
  rw [h1,h2,Bool.false_or,Bool.false_or,Bool.or_comm]
end facts
end Go.Ab
namespace Go.Ab
open Go.RowKit
structure Tr (cx:Cx) (ops:Array Oper) (S:Nat→St) (ran:Nat→Bool) (val:Nat→V) (fin:List Nat×List Nat):Prop where
 ok:Fx ops=true
 apart:(u9 ops).any=true→Bq fin=true
 each:∀ (q:Nat) (o:Oper) (i:Nat),(aw ops)[q]? = some (o,i)→nq ops o (S q).env (ran q)∧(S (q+1)).env=oL (S q).env o.dst (val q) ∧
    (ran q=true→fb (S 0).H.length ((u9 ops).strict i) o.op (S q).env=true∧opV cx ((u9 ops).calm i) ((u9 ops).ord i) o.op (S q).env (S q).H=some (val q,(S (q+1)).H) ∧
     ((u9 ops).any=true→((u9 ops).loose i=true→∀ k,oZ (S q).env (mL o.op)=some k→k ∈ fin.1)∧((u9 ops).loose i=false→re o.op = .loud→∀ k,oZ (S q).env (eq o.op)=some k→k ∈ fin.2))) ∧
    (ran q=false→val q = .lit undef∧(S (q+1)).H=(S q).H)
section tr
variable {cx:Cx} {ops:Array Oper} {S:Nat→St} {ran:Nat→Bool} {val:Nat→V} {fin:List Nat×List Nat}
theorem Tr.at_lt {q:Nat} (h:q<(aw ops).length):∃ o i,(aw ops)[q]? = some (o,i):=⟨(aw ops)[q].1,(aw ops)[q].2,by simp [h]⟩
theorem Tr.get {q:Nat} {o:Oper} {i:Nat} (h:(aw ops)[q]? = some (o,i)):ops[i]? = some o:=HF.1 (List.mem_of_getElem? h)
theorem Tr.len1 (tr:Tr cx ops S ran val fin) {q:Nat} (h:q<(aw ops).length):(S q).H.length≤(S (q+1)).H.length:=by
 obtain ⟨o,i,hq⟩:=Tr.at_lt h
 obtain ⟨_,_,h1,h2⟩:=tr.each q o i hq
 cases hr:ran q with
 | true=>exact (GA (h1 hr).2.1).1
 | false=>rw [(h2 hr).2];exact Nat.le_refl _
theorem Tr.len (tr : Tr cx ops S ran val fin) {p : Nat} : ∀ {q : Nat}, p ≤ q → q ≤ (aw ops).length → (S p).H.length ≤ (S q).H.length
  | 0, h, _ => by have : p = 0 := by omega
                  subst this; exact Nat.le_refl _
  | q + 1, h, hq => by
    by_cases hp : p = q + 1
    · subst hp; exact Nat.le_refl _
    · exact Nat.le_trans (tr.len (by omega) (by omega)) (tr.len1 (by omega))
theorem Tr.seen (tr:Tr cx ops S ran val fin) {q:Nat} {o:Oper} {i:Nat} (hq:(aw ops)[q]? = some (o,i)) (hc:iX o.op=true→(u9 ops).calm i=true) {id:Nat} (hid:id<(S q).H.length)
  (hw:ran q=true→re o.op = .loud→oZ (S q).env (eq o.op)≠some id):cP (S (q+1)).H id=cP (S q).H id:=by
 obtain ⟨_,_,h1,h2⟩:=tr.each q o i hq
 cases hr:ran q with
 | true=>
  have hk:=(GA (h1 hr).2.1).2 hc
  refine hk.same id hid ?_
  by_cases hl:re o.op = .loud
  ·exact hw hr hl
  ·rw [Vk hl];simp
 | false=>rw [(h2 hr).2]
theorem Tr.quiet (tr:Tr cx ops S ran val fin) {q:Nat} {o:Oper} {i:Nat} (hq:(aw ops)[q]? = some (o,i)) (he:gF ops (Region.before ops) i=false) (hh:bT ops (Region.before ops) i=false) :
  (S (q+1)).H=(S q).H∧(ran q=true→∀ H2,(re o.op = .reads→∀ id,oZ (S q).env (mL o.op)=some id→cP H2 id=cP (S q).H id) →
   opV cx ((u9 ops).calm i) ((u9 ops).ord i) o.op (S q).env H2=some (val q,H2)):=by
 obtain ⟨_,_,h1,h2⟩:=tr.each q o i hq
 have ho:=Tr.get hq
 have hkd:=pg ho
 cases hr:ran q with
 | false=>exact ⟨(h2 hr).2,fun h=>by cases h⟩
 | true=>
  obtain ⟨_,hop,_⟩:=h1 hr
  unfold gF at he
  rw [hkd] at he
  cases hk:re o.op with
  | plain=>
   obtain ⟨e,h3⟩:=Pq hk hop
   exact ⟨e,fun _ H2 _=>h3 H2⟩
  | loud=>rw [hk] at he;cases he
  | reads=>
   rw [hk] at he
   have he':Eh ops (Region.before ops) i=true:=by simpa using he
   have hcalm:(u9 ops).calm i=true:=he'
   rw [hcalm] at hop ⊢
   obtain ⟨e,h3⟩:=PU hk hop
   exact ⟨e,fun _ H2 hs=>h3 H2 (hs rfl)⟩
  | makes=>
   rw [hk,hh] at he
   simp only [Bool.not_false,Bool.true_and,Bool.not_eq_false',Bool.and_eq_true,Bool.not_eq_true'] at he
   obtain ⟨hcall,hordM⟩:=he
   have hcall':KV o.op=true:=by unfold W8 at hcall;rw [ho] at hcall;exact hcall
   have hord:(u9 ops).ord i=false:=hordM
   have hcalm:(u9 ops).calm i=true:=by
    unfold aoJ at hordM
    have hex:∃ j,j<ops.size∧((!aaw (HS ops j)||bT ops (Region.before ops) j||cN (Region.before ops) i j)=false):=by
     rcases Classical.em (∃ j,j<ops.size∧((!aaw (HS ops j)||bT ops (Region.before ops) j||cN (Region.before ops) i j)=false)) with h | h
     ·exact h
     ·exfalso
      have:((List.range ops.size).all fun j => !aaw (HS ops j)||bT ops (Region.before ops) j||cN (Region.before ops) i j)=true:=by
       rw [List.all_eq_true]
       intro j hj
       rw [List.mem_range] at hj
       cases hv:(!aaw (HS ops j)||bT ops (Region.before ops) j||cN (Region.before ops) i j) with
       | true=>rfl
       | false=>exact absurd ⟨j,hj,hv⟩ h
      rw [this] at hordM
      cases hordM
    obtain ⟨j,hj,hv⟩:=hex
    simp only [Bool.or_eq_false_iff,Bool.not_eq_false'] at hv
    exact Ko (j:=j) (o:=ops[j]) (by simp [hj]) (fun e=>by rw [e] at hv;simp [aaw] at hv) hv.2
   rw [hcalm,hord] at hop ⊢
   obtain ⟨e,h3⟩:=P9 hcall' hop
   exact ⟨e,fun _ H2 _=>h3 H2⟩
end tr
section draw
variable {cx:Cx} {ops:Array Oper} {S:Nat→St} {ran:Nat→Bool} {val:Nat→V} {fin:List Nat×List Nat}
variable {B0:Nat} {w0:World} {R0 R R':Ro} {σ0 σ σ':List Sg} {ws:World} {n1:Nat} {w w':World}
def Dl (ops:Array Oper) (listed:Array Bool) (q:Nat):Bool:=match (aw ops)[q]? with | some (_,i)=>listed.getD i false | none=>false
structure DInv (cx:Cx) (ops:Array Oper) (S:Nat→St) (ran:Nat→Bool) (val:Nat→V) (B0:Nat) (w0:World) (R0:Ro) (σ0:List Sg) (ws:World) (n1:Nat) (listed:Array Bool) (a:Act) (w:World) (k:Nat) (R:Ro) (σ:List Sg):Prop where
 size:listed.size=ops.size
 closed:∀ i,listed.getD i false=true→∀ j,((Region.before ops).getD i 0).testBit j=true→listed.getD j false=true
 front:∀ (q:Nat) (o:Oper) (i:Nat),(aw ops)[q]? = some (o,i)→gF ops (Region.before ops) i=true→(listed.getD i false=true↔q<k)
 lo:∀ (q:Nat) (o:Oper) (i:Nat),(aw ops)[q]? = some (o,i)→bT ops (Region.before ops) i=true→q<k
 hi:k≤(aw ops).length
 env:b7 R σ (Dt (S 0).env (aw ops) val (Dl ops listed) (aw ops).length) a.tmps
 stp:Stp (TB B0) cx.wl B0 w0 R0 σ0 ws R σ (S k).H w
 sz:ws.heap.size≤w.heap.size
 marks:Au n1 a.defers w
 n0:σ0.length≤(S 0).H.length
 holes:∀ (q:Nat) (o:Oper) (i:Nat),(aw ops)[q]? = some (o,i)→bT ops (Region.before ops) i=true→listed.getD i false=false →
  ∃ (j:Nat) (z:Value) (t:TypeId) (cs:List V),o.op = .alloc t∧fM cx.P t=some z∧val q = .ptr j 0 0 0∧(S (q+1)).H.length=j+1∧(S 0).H.length≤j ∧
   (S (q+1)).H[j]? = some (.box cs)∧bg cs=true∧b7 R σ cs z.cells∧σ[j]? = some lA
 far:∀ (q:Nat) (o:Oper) (i:Nat),(aw ops)[q]? = some (o,i)→re o.op = .loud→listed.getD i false=true→ran q=true→∀ id,oZ (S q).env (eq o.op)=some id→∃ s,σ[id]? = some s∧s.hole=false
theorem NH (env0:List V) (L:List (Oper×Nat)) (val:Nat→V) (D:Nat→Bool):∀ m,(Dt env0 L val D m).length=env0.length
 | 0=>rfl
 | m+1=>by
  have ih:=NH env0 L val D m
  simp only [Dt]
  split
  ·split
   ·rename_i o _ _ _
    cases ho:o.dst <;> simp [oL,ih]
   ·exact ih
  ·exact ih
theorem Wz (env:List V) (d:Option Tmp) (v:V):(oL env d v).length=env.length:=by cases d <;> simp [oL]
theorem adi {listed:Array Bool} {p i:Nat} {o:Oper} (hp:(aw ops)[p]? = some (o,i)) (hs:listed.size=ops.size) :
  Dl ops (listed.setIfInBounds i true) p=true∧∀ q,q≠p→Dl ops (listed.setIfInBounds i true) q=Dl ops listed q:=by
 have hi:i<listed.size:=by rw [hs];exact (Array.getElem?_eq_some_iff.1 (Tr.get hp)).1
 refine ⟨by unfold Dl;rw [hp];simp [hi],fun q hq => ?_⟩
 unfold Dl
 cases hL:(aw ops)[q]? with
 | none=>rfl
 | some x=>
  obtain ⟨o',i'⟩:=x
  have hne:i≠i':=by
   rcases Nat.lt_or_ge p q with h | h
   ·exact (kL h hp hL).1
   ·exact ((kL (by omega) hL hp).1).symm
  exact getD_set_ne false hne
theorem DInv.next (tr:Tr cx ops S ran val fin) {listed:Array Bool} {a:Act} {k:Nat} (h:DInv cx ops S ran val B0 w0 R0 σ0 ws n1 listed a w k R σ) {i p:Nat} {o:Oper} (hp:(aw ops)[p]? = some (o,i))
  (hi:listed.getD i false=false) (hready:∀ j,((Region.before ops).getD i 0).testBit j=true→listed.getD j false=true) {k':Nat} {cv:Value}
  (hfront:∀ (q:Nat) (o:Oper) (i':Nat),(aw ops)[q]? = some (o,i')→gF ops (Region.before ops) i'=true→((listed.setIfInBounds i true).getD i' false=true↔q<k')) (hkk:k≤k') (hk':k'≤(aw ops).length)
  (hstp:Stp (TB B0) cx.wl B0 w0 R0 σ0 ws R' σ' (S k').H w') (hR:iz R R') (hE:Ext σ σ') (hv:RelV R' σ' (val p) cv) (hsz:ws.heap.size≤w'.heap.size) (hm:Au n1 a.defers w')
  (hho:∀ (q:Nat) (o':Oper) (i' j:Nat),q≠p→(aw ops)[q]? = some (o',i')→bT ops (Region.before ops) i'=true→listed.getD i' false=false→val q = .ptr j 0 0 0→(S (q+1)).H.length=j+1→σ[j]? = some lA→σ'[j]? = some lA)
  (hfar:re o.op = .loud→ran p=true→∀ id,oZ (S p).env (eq o.op)=some id→∃ s,σ[id]? = some s∧s.hole=false) :
  DInv cx ops S ran val B0 w0 R0 σ0 ws n1 (listed.setIfInBounds i true) (a.put o.dst cv) w' k' R' σ':=by
 obtain ⟨hback,htmp,_⟩:=pL tr.ok
 obtain ⟨d1,d2⟩:=adi hp h.size
 have ho:=Tr.get hp
 have hidx:i<listed.size:=by rw [h.size];exact (Array.getElem?_eq_some_iff.1 ho).1
 have hD:Dl ops listed p=false:=by unfold Dl;rw [hp];exact hi
 refine ⟨by simpa using h.size,?_,hfront,fun q o i' a b=>Nat.lt_of_lt_of_le (h.lo q o i' a b) hkk,hk',?_,hstp,hsz,by rw [Dy];exact hm,h.n0,?_,?_⟩
 ·intro i' hi' j hj
  by_cases e:i=i'
  ·subst e;exact getD_set_true (hready j hj)
  ·rw [getD_set_ne false e] at hi'
   exact getD_set_true (h.closed i' hi' j hj)
 ·have hput:∀ t:Tmp,(Dt (S 0).env (aw ops) val (Dl ops (listed.setIfInBounds i true)) (aw ops).length)[t]? = (oL (Dt (S 0).env (aw ops) val (Dl ops listed) (aw ops).length) o.dst (val p))[t]? := by
   refine aht hp hD d2 d1 (fun q hpq hDq o' i' hL t ht ht' => ?_) _ (List.getElem?_eq_some_iff.1 hp).1
   have hord:=htmp i i' o o' t ho (Tr.get hL) (by unfold rJ;simp [ht']) ht
   have hb:=fH hback hpq hp hL hord
   have hDq':listed.getD i' false=true:=by unfold Dl at hDq;rw [hL] at hDq;exact hDq
   have:=h.closed i' hDq' i hb
   rw [hi] at this
   cases this
  have hrel:=MA (tmps:=a.tmps) (h.env.mono hR hE) o.dst hv
  refine ⟨by rw [hrel.1,NH,Wz,NH],fun t c hc => ?_⟩
  rw [hput] at hc
  exact hrel.2 t c hc
 ·intro q o' i' hL hh hl
  have hne:i≠i':=by
   intro e
   subst e
   simp [hidx] at hl
  rw [getD_set_ne false hne] at hl
  obtain ⟨j,z,t,cs,e1,e2,e3,e4,e5,e6,e7,e8,e9⟩:=h.holes q o' i' hL hh hl
  have hqp:q≠p:=by
   intro e
   subst e
   rw [hp] at hL
   cases hL
   exact hne rfl
  exact ⟨j,z,t,cs,e1,e2,e3,e4,e5,e6,e7,e8.mono hR hE,hho q o' i' j hqp hL hh hl e3 e4 e9⟩
 ·intro q o' i' hL hk hl hr id hid
  have hold:∃ s,σ[id]? = some s∧s.hole=false:=by
   by_cases e:i=i'
   ·subst e
    have hqp:q=p:=by
     rcases Nat.lt_trichotomy q p with h1 | h1 | h1
     ·exact absurd rfl (kL h1 hL hp).1
     ·exact h1
     ·exact absurd rfl (kL h1 hp hL).1
    subst hqp
    rw [hp] at hL
    cases hL
    exact hfar hk hr id hid
   ·rw [getD_set_ne false e] at hl
    exact h.far q o' i' hL hk hl hr id hid
  obtain ⟨s,h1,h2⟩:=hold
  obtain ⟨s',h3,h4⟩:=hE id s h1
  exact ⟨s',h3,h4.hole h2⟩
end draw
end Go.Ab
namespace Go.Ab
open Go.RowKit
section draw
variable {P:Program} {cx:Cx} {ops:Array Oper} {S:Nat→St} {ran:Nat→Bool} {val:Nat→V} {fin:List Nat×List Nat}
variable {B0:Nat} {w0:World} {R0 R R':Ro} {σ0 σ σ':List Sg} {ws:World} {n1:Nat} {w w':World} {listed:Array Bool} {a:Act} {k:Nat}
theorem DInv.agree (tr:Tr cx ops S ran val fin) (h:DInv cx ops S ran val B0 w0 R0 σ0 ws n1 listed a w k R σ) {i p:Nat} {o:Oper} (hp:(aw ops)[p]? = some (o,i))
  (hi:listed.getD i false=false) (hready:∀ j,((Region.before ops).getD i 0).testBit j=true→listed.getD j false=true) {t:Tmp} (ht:t ∈ rJ ops o) :
  (Dt (S 0).env (aw ops) val (Dl ops listed) (aw ops).length)[t]? = (S p).env[t]? := by
 obtain ⟨hback,htmp,_⟩:=pL tr.ok
 have ho:=Tr.get hp
 have hpN:=(List.getElem?_eq_some_iff.1 hp).1
 rw [Bd (D':=fun q=>decide (q<p)) _ (fun q _ o' i' hL hd => ?_),H7 rfl (fun q o i hq=>(tr.each q o i hq).2.1) p _ (Nat.le_refl _),Nat.min_eq_right (by omega)]
 have hord:=htmp i' i o' o t (Tr.get hL) ho ht hd
 rcases Nat.lt_trichotomy q p with hqp | rfl | hqp
 ·have hb:=fH hback hqp hL hp hord
  have:=hready i' hb
  unfold Dl
  rw [hL]
  simp [hqp]
  simpa using this
 ·rw [hp] at hL
  cases hL
  unfold Dl
  rw [hp]
  simp
  simpa using hi
 ·have hb:=fH hback hqp hp hL (by rw [mM];exact hord)
  cases hD:Dl ops listed q with
  | false=>simp;omega
  | true=>
   exfalso
   have hDq:listed.getD i' false=true:=by unfold Dl at hD;rw [hL] at hD;exact hD
   have:=h.closed i' hDq i hb
   rw [hi] at this
   cases this
theorem Tr.same (tr : Tr cx ops S ran val fin) {p q : Nat} (hpq : p ≤ q) (hq : q ≤ (aw ops).length)
    (h : ∀ m, p ≤ m → m < q → ∀ o i, (aw ops)[m]? = some (o, i) → gF ops (Region.before ops) i = false ∧ bT ops (Region.before ops) i = false) : (S q).H = (S p).H := by
  induction q with
  | zero => have : p = 0 := by omega
            subst this; rfl
  | succ q ih =>
    by_cases e : p = q + 1
    · rw [e]
    · obtain ⟨o, i, hL⟩ := Tr.at_lt (ops := ops) (q := q) (by omega)
      obtain ⟨h1, h2⟩ := h q (by omega) (by omega) o i hL
      rw [(tr.quiet hL h1 h2).1]
      exact ih (by omega) (by omega) (fun m a b => h m a (by omega))
theorem Tr.seenAll (tr : Tr cx ops S ran val fin) {id : Nat} {p q : Nat} (hpq : p ≤ q) (hq : q ≤ (aw ops).length)
    (h : ∀ m, p ≤ m → m < q → ∀ o i, (aw ops)[m]? = some (o, i) → cP (S (m + 1)).H id = cP (S m).H id) : cP (S q).H id = cP (S p).H id := by
  induction q with
  | zero => have : p = 0 := by omega
            subst this; rfl
  | succ q ih =>
    by_cases e : p = q + 1
    · rw [e]
    · obtain ⟨o, i, hL⟩ := Tr.at_lt (ops := ops) (q := q) (by omega)
      rw [h q (by omega) (by omega) o i hL]
      exact ih (by omega) (by omega) (fun m a b => h m a (by omega))
theorem Ce {H H':Hp} {id:Nat} (h:H'=H):cP H' id=cP H id:=by rw [h]
theorem Kt {op:Op} (h:iX op=true):re op = .makes:=by
 unfold iX at h
 split at h
 ·split at h
  ·rename_i c f hf;simp [re,hf]
  ·cases h
 ·cases h
theorem Tr.step_seen (tr:Tr cx ops S ran val fin) {m:Nat} {o:Oper} {i:Nat} (hL:(aw ops)[m]? = some (o,i)) {id:Nat} (hid:id<(S m).H.length)
  (hcalm:gF ops (Region.before ops) i=true→HS ops i ≠ .loud→Eh ops (Region.before ops) i=true)
  (hw:gF ops (Region.before ops) i=true→HS ops i = .loud→ran m=true→oZ (S m).env (eq o.op)≠some id):cP (S (m+1)).H id=cP (S m).H id:=by
 have ho:=Tr.get hL
 have hkd:=pg ho
 cases he:gF ops (Region.before ops) i with
 | true=>
  refine tr.seen hL (fun hc=>hcalm he ?_) hid (fun hr hl=>hw he (by rw [hkd];exact hl) hr)
  rw [hkd,Kt hc];simp
 | false=>
  cases hh:bT ops (Region.before ops) i with
  | false=>exact Ce (tr.quiet hL he hh).1
  | true=>
   obtain ⟨⟨t,hop⟩,_⟩:=mj ho hh
   refine tr.seen hL (fun hc => ?_) hid (fun _ hl => ?_)
   ·rw [hop] at hc;cases hc
   ·rw [hop] at hl;cases hl
theorem IK {op:Op} {x:Operand} (h:eq op=some x):x ∈ op.operands:=by
 cases op <;> simp only [eq] at h <;> first | (cases h;done) | skip
 case store=>cases h;simp [Op.operands]
 case insert=>cases h;simp [Op.operands]
 case call c=>
  split at h
  ·have:=Array.mem_of_getElem? h
   simp only [Op.operands,Call.operands]
   simp [this]
  ·cases h
theorem NJ {env env':List V} {x:Option Operand} (h:∀ y,x=some y→Ct env env' y):oZ env x=oZ env' x:=by
 cases x with
 | none=>rfl
 | some y=>simp only [oZ];rw [aT (h y rfl)]
theorem Na (v:Value):KU (f9 v)=none:=by
 unfold f9
 split
 ·split <;> rfl
 ·unfold oK
  split <;> rfl
theorem Y7 {R:Ro} {σ:List Sg} {env:List V} {cvs:Array Value} (h:b7 R σ env cvs) {x:Option Operand} {id:Nat} (hid:oZ env x=some id):∃ s,σ[id]? = some s∧s.hole=false:=by
 cases x with
 | none=>cases hid
 | some y=>
  simp only [oZ] at hid
  split at hid
  ·rename_i v hv
   cases y with
   | tmp t=>
    simp only [evO] at hv
    obtain ⟨c,_,hr⟩:=h.get hv
    cases hr <;> simp only [KU] at hid <;> first | cases hid | skip
    all_goals exact ⟨_,by assumption,by assumption⟩
   | const v=>
    simp only [evO,Option.some.injEq] at hv
    subst hv
    rw [Na] at hid
    cases hid
   | func f=>
    simp only [evO,Option.some.injEq] at hv
    subst hv
    cases hid
   | global g=>cases hv
  ·cases hid
theorem RH (hP:cx.P=P) (hC:mr P cx.call) (hY:C7 P cx.yld) {ro:Option Nat} {n:Nat} (tr:Tr cx ops S ran val fin) (h:DInv cx ops S ran val B0 w0 R0 σ0 ws n1 listed a w k R σ) {i:Nat}
  (hr:i ∈ Region.ready .any ops listed) {Q:Exit→Act→World→Prop} {K:Act→World→Prop}
  (hK:∀ (a':Act) (w':World) (k':Nat) (R':Ro) (σ':List Sg),DInv cx ops S ran val B0 w0 R0 σ0 ws n1 (listed.setIfInBounds i true) a' w' k' R' σ'→K a' w'):wpOpIn (Fw ro) n P ops Q i K a w:=by
 obtain ⟨hback,htmp,heff⟩:=pL tr.ok
 obtain ⟨hi',o,ho,hall⟩:=mem_ready.1 hr
 have hidx:i<listed.size:=by rw [h.size];exact (Array.getElem?_eq_some_iff.1 ho).1
 have hi:listed.getD i false=false:=by
  simp [Array.getD_eq_getD_getElem?,hidx] at hi' ⊢
  exact hi'
 have hready:∀ j,((Region.before ops).getD i 0).testBit j=true→listed.getD j false=true:=by
  intro j hj
  obtain ⟨e,he,hb,h1⟩:=CN hback ho hj
  have h2:=hall e he hb
  rcases h1 with rfl | h1
  ·exact h2
  ·exact h.closed e.on h2 j h1
 obtain ⟨p,hp⟩:=P5 ho
 have hpN:p<(aw ops).length:=(List.getElem?_eq_some_iff.1 hp).1
 have hag:=fun t ht=>h.agree tr hp hi hready (t:=t) ht
 obtain ⟨hg,_,hrun,hskip⟩:=tr.each p o i hp
 -- the guard
 have hgd:∀ j want d c,o.guard=some (j,want)→(ops[j]?).bind (·.dst)=some d→(S p).env[d]? = some c→∃ v,a.tmps[d]? = some v∧RelV R σ c v:=by
  intro j want d c hgu hd hc
  have hd':d ∈ rJ ops o:=by unfold rJ;simp [hgu,hd]
  rw [← hag d hd'] at hc
  exact h.env.get hc
 have hw:=hg.wanted hgd
 -- slots
 have hcon:∀ x ∈ o.op.operands,Ct (S p).env (Dt (S 0).env (aw ops) val (Dl ops listed) (aw ops).length) x:=by
  intro x hx t e
  subst e
  refine (hag t ?_).symm
  unfold rJ
  simp
  exact .inr (.inl ⟨_,hx,rfl⟩)
 -- those that may change the heap
 have hbetween:gF ops (Region.before ops) i=true→k≤p∧∀ m,k≤m→m<p→∀ o i,(aw ops)[m]? = some (o,i)→gF ops (Region.before ops) i=false∧bT ops (Region.before ops) i=false:=by
  intro he
  refine ⟨?_,fun m hkm hmp o' i' hL=>⟨?_,?_⟩⟩
  ·rcases Nat.lt_or_ge p k with h1 | h1
   ·have:=(h.front p o i hp he).2 h1
    rw [hi] at this
    cases this
   ·exact h1
  ·cases he':gF ops (Region.before ops) i' with
   | false=>rfl
   | true=>
    have hb:=fH hback hmp hL hp (heff i' i o' o (Tr.get hL) ho he' he)
    have:=(h.front m o' i' hL he').1 (hready i' hb)
    omega
  ·cases hh:bT ops (Region.before ops) i' with
   | false=>rfl
   | true=>have:=h.lo m o' i' hL hh;omega
 have hfrontE:gF ops (Region.before ops) i=true→∀ (q:Nat) (o':Oper) (i':Nat),(aw ops)[q]? = some (o',i')→gF ops (Region.before ops) i'=true→((listed.setIfInBounds i true).getD i' false=true↔q<p+1):=by
  intro he q o' i' hL he'
  obtain ⟨hkp,hnone⟩:=hbetween he
  by_cases e:i=i'
  ·subst e
   have hqp:q=p:=by
    rcases Nat.lt_trichotomy q p with h1 | h1 | h1
    ·exact absurd rfl (kL h1 hL hp).1
    ·exact h1
    ·exact absurd rfl (kL h1 hp hL).1
   subst hqp
   simp [hidx]
  ·rw [getD_set_ne false e,h.front q o' i' hL he']
   constructor
   ·intro h1;omega
   ·intro h1
    rcases Nat.lt_or_ge q k with h2 | h2
    ·exact h2
    ·have hqp:q≠p:=by
      intro e2
      subst e2
      rw [hp] at hL
      cases hL
      exact e rfl
     have:=(hnone q h2 (by omega) o' i' hL).1
     rw [he'] at this
     cases this
 have hfrontQ:gF ops (Region.before ops) i=false→∀ (q:Nat) (o':Oper) (i':Nat),(aw ops)[q]? = some (o',i')→gF ops (Region.before ops) i'=true→((listed.setIfInBounds i true).getD i' false=true↔q<k):=by
  intro he q o' i' hL he'
  have e:i≠i':=by
   intro e
   subst e
   rw [he] at he'
   cases he'
  rw [getD_set_ne false e]
  exact h.front q o' i' hL he'
 have hkeep:∀ (σ':List Sg),(∀ (id:Nat) (s:Sg),σ[id]? = some s→s.hole=true→σ'[id]? = some s) →
   ∀ (q:Nat) (o':Oper) (i' j:Nat),q≠p→(aw ops)[q]? = some (o',i')→bT ops (Region.before ops) i'=true→listed.getD i' false=false→val q = .ptr j 0 0 0→(S (q+1)).H.length=j+1→σ[j]? = some lA→σ'[j]? = some lA:=
  fun σ' hl q o' i' j _ _ _ _ _ _ hs=>hl j lA hs rfl
 have hfar:re o.op = .loud→ran p=true→∀ id,oZ (S p).env (eq o.op)=some id→∃ s,σ[id]? = some s∧s.hole=false:=by
  intro _ _ id hid
  refine Y7 (env:=Dt (S 0).env (aw ops) val (Dl ops listed) (aw ops).length) (cvs:=a.tmps) (x:=eq o.op) h.env ?_
  rw [← NJ (fun x hx=>hcon x (IK hx))]
  exact hid
 -- look at the operation
 unfold wpOpIn
 simp only [ho]
 rw [hw]
 cases hran:ran p with
 | false=>
  simp only [Bool.false_eq_true,if_false]
  refine ⟨fun _ _=>trivial,?_⟩
  obtain ⟨hv,hH⟩:=hskip hran
  have hrel:RelV R σ (val p) undef:=by rw [hv];exact .lit _
  cases he:gF ops (Region.before ops) i with
  | true=>
   obtain ⟨hkp,hnone⟩:=hbetween he
   have hs:=tr.same hkp (by omega) hnone
   have hst:Stp (TB B0) cx.wl B0 w0 R0 σ0 ws R σ (S (p+1)).H w:=by rw [hH,hs];exact h.stp
   exact hK _ _ (p+1) R σ (h.next tr hp hi hready (hfrontE he) (by omega) (by omega) hst (iz.refl R) (Ext.refl σ) hrel h.sz h.marks (hkeep σ (fun _ _ h _=>h)) hfar)
  | false=>
   exact hK _ _ k R σ (h.next tr hp hi hready (hfrontQ he) (Nat.le_refl _) h.hi h.stp (iz.refl R) (Ext.refl σ) hrel h.sz h.marks (hkeep σ (fun _ _ h _=>h)) hfar)
 | true=>
  simp only [if_true]
  obtain ⟨hstrict,hop,hlog⟩:=hrun hran
  cases hh:bT ops (Region.before ops) i with
  | true=>
   -- a variable that was looked at first
   obtain ⟨⟨t',hal⟩,_⟩:=mj ho hh
   obtain ⟨j,z,t,cs,e1,e2,e3,e4,e5,e6,e7,e8,e9⟩:=h.holes p o i hp hh hi
   have hlo:=h.lo p o i hp hh
   have hjk:cP (S k).H j=cP (S (p+1)).H j:=by
    refine tr.seenAll (by omega) h.hi (fun m hpm hmk o' i' hL => ?_)
    have hmN:m<(aw ops).length:=by have:=h.hi;omega
    have hjm:j<(S m).H.length:=by have:=tr.len (show p+1≤m from hpm) (by omega);omega
    have hunord:gF ops (Region.before ops) i'=true→cN (Region.before ops) i' i=false:=by
     intro he'
     cases hord:cN (Region.before ops) i' i with
     | false=>rfl
     | true=>
      have hb:=fH hback (show p<m by omega) hp hL (by rw [mM];exact hord)
      have hl:=(h.front m o' i' hL he').2 hmk
      have:=h.closed i' hl i hb
      rw [hi] at this
      cases this
    refine tr.step_seen hL hjm (fun he' _=>Ko (j:=i) ho (by rw [pg ho,e1];simp [re]) (hunord he')) (fun he' hl hrm e => ?_)
    obtain ⟨s,g1,g2⟩:=h.far m o' i' hL (by rw [← pg (Tr.get hL)];exact hl) ((h.front m o' i' hL he').2 hmk) hrm j e
    rw [e9] at g1
    cases g1
    cases g2
   have hbox:=FH hjk e6
   have hex:(execOp a.eval o).run P w = .ok (.value (.pointer (some ⟨w.heap.size,0,none⟩))) (w.alloc (.cells z.cells t)):=by
    subst hP
    simp only [execOp,e1,Instr.alloc,Sem.run_bind,Ft e2,Result.andThen_ok,newVar,newRow,run_newObj_alloc,Sem.run_pure]
   have hsem:o.semAt (Fw ro).round a.eval=execOp a.eval o:=Oper.semAt_eq _ _ _ (fun c hc=>by rw [e1] at hc;cases hc)
   refine ⟨fun _ _=>trivial,?_⟩
   rw [hsem,hex,Oper.uponIn_value]
   have hst:=h.stp.fill h.sz t (by have:=h.n0;omega) e9 hbox e7 e8
   have he:gF ops (Region.before ops) i=false:=by
    unfold gF
    rw [pg ho,e1]
    simp [re,hh]
   refine hK _ _ k R _ (h.next tr hp hi hready (hfrontQ he) (Nat.le_refl _) h.hi hst (iz.refl R) (Ext.fill e9 rfl) ?_ (by have:=h.sz;simp;omega) (h.marks.keep (fun b x hb => ?_)) (fun q o' i' j' hqp hL hh' hl' hv' hlen' hs' => ?_) hfar)
   ·rw [e3]
    refine .ptr j 0 0 0 _ ⟨some w.heap.size,0,0,0,false⟩ (by rw [List.getElem?_set_self (List.getElem?_eq_some_iff.1 e9).1]) rfl (Nat.le_refl _) (fun _=>⟨w.heap.size,rfl,rfl⟩)
   ·exact (Below.one_alloc w _).block b (Array.getElem?_eq_some_iff.1 hb).1
   ·have hjj:j'≠j:=by
     intro e
     subst e
     have hq:=(List.getElem?_eq_some_iff.1 hL).1
     obtain ⟨j2,_,_,_,_,_,g3,g4,_,_⟩:=h.holes q o' i' hL hh' hl'
     rw [hv'] at g3
     cases g3
     rcases Nat.lt_or_ge q p with h1 | h1
     ·have h2:=tr.len (show q+1≤p from h1) (by omega)
      have h3:(S p).H.length<(S (p+1)).H.length:=by
       rw [e1] at hop
       simp only [opV,Option.bind_eq_some_iff] at hop
       obtain ⟨z',_,hop⟩:=hop
       split at hop
       ·have e:=(Prod.mk.inj (Option.some.inj hop)).2
        rw [← e]
        have:=(lQ (b8 z') (S p).H none).len
        simp
        omega
       ·cases hop
      omega
     ·have h2:=tr.len (show p+1≤q by omega) (by omega)
      have h3:(S q).H.length<(S (q+1)).H.length:=by
       obtain ⟨hg',_,hrun',_⟩:=tr.each q o' i' hL
       obtain ⟨⟨t2,hal2⟩,hgn⟩:=mj (Tr.get hL) hh'
       have hran':ran q=true:=by unfold nq at hg';rw [hgn] at hg';exact hg'
       obtain ⟨_,hop',_⟩:=hrun' hran'
       rw [hal2] at hop'
       simp only [opV,Option.bind_eq_some_iff] at hop'
       obtain ⟨z',_,hop'⟩:=hop'
       split at hop'
       ·have e:=(Prod.mk.inj (Option.some.inj hop')).2
        rw [← e]
        have:=(lQ (b8 z') (S q).H none).len
        simp
        omega
       ·cases hop'
      omega
    rw [List.getElem?_set_ne (fun e=>hjj e.symm)]
    exact hs'
  | false=>
   cases he:gF ops (Region.before ops) i with
   | true=>
    obtain ⟨hkp,hnone⟩:=hbetween he
    have hs:=tr.same hkp (by omega) hnone
    rw [Im hcon,hs] at hop
    refine SX hP rfl hC hY h.stp.inv h.env hop (fun cv w' R' σ' st hv hsz => ?_)
    exact hK _ _ (p+1) R' σ' (h.next tr hp hi hready (hfrontE he) (by omega) (by omega) (h.stp.trans st h.sz) st.le st.ext hv (Nat.le_trans h.sz hsz) (h.marks.keep st.df) (hkeep σ' st.hl) hfar)
   | false=>
    obtain ⟨_,hq⟩:=tr.quiet hp he hh
    have hop2:=hq hran (S k).H (fun hrd id hid => ?_)
    ·rw [Im hcon] at hop2
     refine SX hP rfl hC hY h.stp.inv h.env hop2 (fun cv w' R' σ' st hv hsz => ?_)
     exact hK _ _ k R' σ' (h.next tr hp hi hready (hfrontQ he) (Nat.le_refl _) h.hi (h.stp.trans st h.sz) st.le st.ext hv (Nat.le_trans h.sz hsz) (h.marks.keep st.df) (hkeep σ' st.hl) hfar)
    ·-- what it looks at lies as it lay
     have hkr:HS ops i = .reads:=by rw [pg ho];exact hrd
     -- those in between are in no order with it
     have hun1:∀ m,k≤m→m<p→∀ o' i',(aw ops)[m]? = some (o',i')→gF ops (Region.before ops) i'=true→cN (Region.before ops) i i'=false:=by
      intro m hkm hmp o' i' hL he'
      cases hord:cN (Region.before ops) i i' with
      | false=>rfl
      | true=>
       have hb:=fH hback hmp hL hp (by rw [mM];exact hord)
       have:=(h.front m o' i' hL he').1 (hready i' hb)
       omega
     have hun2:∀ m,p<m→m<k→∀ o' i',(aw ops)[m]? = some (o',i')→gF ops (Region.before ops) i'=true→cN (Region.before ops) i i'=false:=by
      intro m hpm hmk o' i' hL he'
      cases hord:cN (Region.before ops) i i' with
      | false=>rfl
      | true=>
       have hb:=fH hback hpm hp hL hord
       have:=h.closed i' ((h.front m o' i' hL he').2 hmk) i hb
       rw [hi] at this
       cases this
     have hstep:∀ m o' i',(aw ops)[m]? = some (o',i')→bT ops (Region.before ops) i'=false→(gF ops (Region.before ops) i'=true→cN (Region.before ops) i i'=false) →
       (S 0).H.length≤(S m).H.length→cP (S (m+1)).H id=cP (S m).H id:=by
      intro m o' i' hL hnh hun hlen
      have ho':=Tr.get hL
      cases he':gF ops (Region.before ops) i' with
      | false=>
       exact Ce (tr.quiet hL he' hnh).1
      | true=>
       have hfloat:(u9 ops).strict i=true:=by
        show Jw ops (Region.before ops) i=true
        unfold Jw
        rw [hkr]
        simp only [beq_self_eq_true,Bool.true_and,List.any_eq_true,List.mem_range]
        exact ⟨i',(Array.getElem?_eq_some_iff.1 ho').1,by rw [he',hun he'];rfl⟩
       have hlt:id<(S 0).H.length:=by
        unfold fb at hstrict
        rw [hfloat,if_pos rfl,hid] at hstrict
        simpa using hstrict
       refine tr.step_seen hL (by omega) (fun _ _=>Ko (j:=i) ho (by rw [hkr];simp) (by rw [mM];exact hun he')) (fun _ hl hrm => ?_)
       -- it is written,and looked at out of order: the lists are apart
       have hloose:(u9 ops).loose i=true:=by
        show wT ops (Region.before ops) i=true
        unfold wT
        rw [hkr]
        simp only [beq_self_eq_true,Bool.true_and,Bool.not_eq_true']
        cases hL':amc ops (Region.before ops) i with
        | false=>rfl
        | true=>
         unfold amc at hL'
         simp only [List.all_eq_true,List.mem_range,Bool.or_eq_true,bne_iff_ne,ne_eq] at hL'
         rcases hL' i' (Array.getElem?_eq_some_iff.1 ho').1 with h1 | h1
         ·exact absurd hl h1
         ·rw [hun he'] at h1;cases h1
       have hany:(u9 ops).any=true:=by
        show AN ops (Region.before ops)=true
        unfold AN
        simp only [List.any_eq_true,List.mem_range]
        exact ⟨i,(Array.getElem?_eq_some_iff.1 ho).1,hloose⟩
       have h1:=(hlog hany).1 hloose id hid
       obtain ⟨_,_,hrun',_⟩:=tr.each m o' i' hL
       obtain ⟨_,_,hlog'⟩:=hrun' hrm
       have hnl:(u9 ops).loose i'=false:=by
        show wT ops (Region.before ops) i'=false
        unfold wT
        rw [hl];rfl
       intro e
       have h2:=(hlog' hany).2 hnl (by rw [← pg ho'];exact hl) id e
       have:=tr.apart hany
       unfold Bq at this
       rw [List.all_eq_true] at this
       have:=this id h1
       simp [h2] at this
     rcases Nat.le_total k p with hkp | hpk
     ·refine (tr.seenAll hkp (by omega) (fun m hkm hmp o' i' hL => ?_)).symm
      refine hstep m o' i' hL ?_ (hun1 m hkm hmp o' i' hL) (tr.len (Nat.zero_le _) (by omega))
      cases hh':bT ops (Region.before ops) i' with
      | false=>rfl
      | true=>have:=h.lo m o' i' hL hh';omega
     ·refine tr.seenAll hpk h.hi (fun m hpm hmk o' i' hL => ?_)
      by_cases hmp:m=p
      ·subst hmp
       exact Ce (by rw [hp] at hL;cases hL;exact (tr.quiet hp he hh).1)
      ·have hmN:m≤(aw ops).length:=by have:=h.hi;omega
       refine hstep m o' i' hL ?_ (hun2 m (by omega) hmk o' i' hL) (tr.len (Nat.zero_le _) hmN)
       cases hh':bT ops (Region.before ops) i' with
       | false=>rfl
       | true=>
        rcases (kL (show p<m by omega) hp hL).2 with h1 | h1
        ·rw [hh] at h1;cases h1
        ·rw [hh'] at h1;exact h1.1
end draw
end Go.Ab
namespace Go.Ab
open Go.RowKit
section draw
variable {P:Program} {cx:Cx} {ops:Array Oper} {S:Nat→St} {ran:Nat→Bool} {val:Nat→V} {fin:List Nat×List Nat}
variable {B0:Nat} {w0:World} {R0 R R':Ro} {σ0 σ σ':List Sg} {ws:World} {n1:Nat} {w w':World} {listed:Array Bool} {a:Act} {k:Nat}
def BQ (ops:Array Oper):Nat:=(ops.toList.zipIdx.filter (fun p=>bT ops (Region.before ops) p.2)).length
theorem Gv:BQ ops≤(aw ops).length:=by unfold BQ aw;simp
theorem pW {q:Nat} {o:Oper} {i:Nat} (hq:(aw ops)[q]? = some (o,i)):bT ops (Region.before ops) i=true↔q<BQ ops:=by
 unfold aw at hq
 simp only at hq
 by_cases h:q<BQ ops
 ·rw [List.getElem?_append_left (by exact h)] at hq
  have:=(List.mem_filter.1 (List.mem_of_getElem? hq)).2
  exact ⟨fun _=>h,fun _=>this⟩
 ·rw [List.getElem?_append_right (by exact Nat.le_of_not_lt h)] at hq
  have:=(List.mem_filter.1 (List.mem_of_getElem? hq)).2
  exact ⟨fun e=>by simp [e] at this,fun e=>absurd e h⟩
theorem RJ (tr:Tr cx ops S ran val fin) (hI:Stp (TB B0) cx.wl B0 w0 R0 σ0 ws R σ (S 0).H w) (hsz:ws.heap.size≤w.heap.size):∀ m,m≤BQ ops →
  ∃ τ:List Sg,Stp (TB B0) cx.wl B0 w0 R0 σ0 ws R (σ++τ) (S m).H w ∧
   ∀ (q:Nat) (o:Oper) (i:Nat),q<m→(aw ops)[q]? = some (o,i) →
    ∃ (j:Nat) (z:Value) (t:TypeId) (cs:List V),o.op = .alloc t∧fM cx.P t=some z∧val q = .ptr j 0 0 0∧(S (q+1)).H.length=j+1∧(S 0).H.length≤j ∧
     (S (q+1)).H[j]? = some (.box cs)∧bg cs=true∧b7 R (σ++τ) cs z.cells∧(σ++τ)[j]? = some lA
 | 0,_=>⟨[],by simpa using hI,fun q o i h=>by omega⟩
 | m+1,hm=>by
  obtain ⟨τ,st,hall⟩:=RJ tr hI hsz m (by omega)
  have hmN:m<(aw ops).length:=by have:=Gv (ops:=ops);omega
  obtain ⟨o,i,hL⟩:=Tr.at_lt hmN
  have hh:=(pW hL).2 (by omega)
  obtain ⟨⟨t,hal⟩,hgn⟩:=mj (Tr.get hL) hh
  obtain ⟨hg,_,hrun,_⟩:=tr.each m o i hL
  have hran:ran m=true:=by unfold nq at hg;rw [hgn] at hg;exact hg
  obtain ⟨_,hop,_⟩:=hrun hran
  rw [hal] at hop
  simp only [opV,Option.bind_eq_some_iff] at hop
  obtain ⟨z,hz,hop⟩:=hop
  split at hop
  ·rename_i hon
   have hpair:=Prod.mk.inj (Option.some.inj hop)
   obtain ⟨hv,hH⟩:=hpair
   obtain ⟨τ',s1,r1,o1,l1⟩:=pT st.inv (nr (R:=R) (σ:=σ++τ) z hon)
   have s2:=(st.trans (s1.widen (fun _ h=>h.elim)) hsz).hole (.box (bG (b8 z) (S m).H).1)
   rw [hH] at s2
   have hl:(bG (b8 z) (S m).H).2.length=(σ++τ++τ').length:=s1.inv.len.symm
   refine ⟨τ++τ'++[lA],by simpa [List.append_assoc] using s2,fun q o' i' hq hL' => ?_⟩
   by_cases hqm:q=m
   ·subst hqm
    rw [hL] at hL'
    cases hL'
    refine ⟨(bG (b8 z) (S q).H).2.length,z,t,(bG (b8 z) (S q).H).1,hal,hz,hv.symm,by rw [← hH];simp,?_,by rw [← hH];simp,o1 hon,?_,?_⟩
    ·have h1:=tr.len (Nat.zero_le q) (by omega)
     have h2:=(lQ (b8 z) (S q).H none).len
     omega
    ·have:=r1.mono (iz.refl R) (Ext.append (σ++τ++τ') [lA])
     simpa [List.append_assoc] using this
    ·rw [hl,show σ++(τ++τ'++[lA])=(σ++τ++τ')++[lA] by simp [List.append_assoc]]
     simp
   ·obtain ⟨j,z',t',cs,e1,e2,e3,e4,e5,e6,e7,e8,e9⟩:=hall q o' i' (by omega) hL'
    have e:σ++(τ++τ'++[lA])=(σ++τ)++(τ'++[lA]):=by simp [List.append_assoc]
    refine ⟨j,z',t',cs,e1,e2,e3,e4,e5,e6,e7,?_,?_⟩
    ·rw [e];exact e8.mono (iz.refl R) (Ext.append _ _)
    ·rw [e,List.getElem?_append_left (List.getElem?_eq_some_iff.1 e9).1];exact e9
  ·cases hop
def left (ops:Array Oper) (listed:Array Bool):Nat:=((List.range ops.size).filter (fun i => !listed.getD i false)).length
theorem Mj {i : Nat} (hs : listed.size = ops.size) (hi : i < ops.size) (hl : listed.getD i false = false) : left ops (listed.setIfInBounds i true) < left ops listed := by
  unfold left
  have hsub : (List.range ops.size).filter (fun j => !(listed.setIfInBounds i true).getD j false) = ((List.range ops.size).filter (fun j => !listed.getD j false)).filter (fun j => j != i) := by
    rw [List.filter_filter]
    refine List.filter_congr (fun j hj => ?_)
    by_cases e : i = j
    · subst e
      simp [show i < listed.size by omega]
    · rw [getD_set_ne false e]
      have : (j != i) = true := by simpa using fun h : j = i => e h.symm
      simp [this]
  rw [hsub]
  refine List.length_filter_lt_length_iff_exists.2 ⟨i, ?_, by simp⟩
  rw [List.mem_filter]
  exact ⟨by simpa using hi, by simp only [hl]; rfl⟩
theorem Nn (hb:ag6 ops) (h:Region.ready .any ops listed=[]) (hs:listed.size=ops.size):∀ i,i<ops.size→listed.getD i false=true:=by
 intro i
 induction i using Nat.strongRecOn with
 | _ i ih=>
  intro hi
  cases hl:listed.getD i false with
  | true=>rfl
  | false=>
   exfalso
   have:i ∈ Region.ready .any ops listed:=by
    refine mem_ready.2 ⟨?_,ops[i],by simp [hi],fun e he hbe => ?_⟩
    ·have:i<listed.size:=by omega
     simp [Array.getD_eq_getD_getElem?,this] at hl ⊢
     exact hl
    ·have:=hb i ops[i] (by simp [hi]) e he hbe
     exact ih e.on this (by omega)
   rw [h] at this
   cases this
theorem adz (hP:cx.P=P) (hC:mr P cx.call) (hY:C7 P cx.yld) {ro:Option Nat} {n:Nat} {T:Type} {K:St→Option T} {r:T} {Q:Exit→Act→World→Prop} (tr:Tr cx ops S ran val fin)
  (hK:K (S (aw ops).length)=some r) (hQ:∀ (s:St) (R:Ro) (σ:List Sg) (a:Act) (w:World),K s=some r→At cx.wl B0 w0 R0 σ0 ws n1 s R σ a w→Q .normal a w) :
  ∀ (iZ:Nat) (listed:Array Bool) (a:Act) (w:World) (k:Nat) (R:Ro) (σ:List Sg),DInv cx ops S ran val B0 w0 R0 σ0 ws n1 listed a w k R σ→left ops listed≤iZ→wpAnyIn (Fw ro) n P .any ops Q iZ listed a w:=by
 have hback:=(pL tr.ok).1
 have done:∀ {listed:Array Bool} {a:Act} {w:World} {k:Nat} {R:Ro} {σ:List Sg},DInv cx ops S ran val B0 w0 R0 σ0 ws n1 listed a w k R σ→(∀ i,i<ops.size→listed.getD i false=true)→Q .normal a w:=by
  intro listed a w k R σ h hall
  have hd:∀ q o i,(aw ops)[q]? = some (o,i)→Dl ops listed q=true:=by
   intro q o i hL
   unfold Dl
   rw [hL]
   exact hall i (Array.getElem?_eq_some_iff.1 (Tr.get hL)).1
  have hH:(S (aw ops).length).H=(S k).H:=by
   refine tr.same h.hi (Nat.le_refl _) (fun m hkm _ o i hL=>⟨?_,?_⟩)
   ·cases he:gF ops (Region.before ops) i with
    | false=>rfl
    | true=>
     have:=(h.front m o i hL he).1 (hall i (Array.getElem?_eq_some_iff.1 (Tr.get hL)).1)
     omega
   ·cases hh:bT ops (Region.before ops) i with
    | false=>rfl
    | true=>have:=h.lo m o i hL hh;omega
  refine hQ _ R σ a w hK ⟨⟨?_,fun t c hc => ?_⟩,by rw [hH];exact h.stp,h.sz,h.marks⟩
  ·have:=h.env.1
   rw [NH] at this
   have h2:=H7 (env0:=(S 0).env) rfl (fun q o i hq=>(tr.each q o i hq).2.1) (aw ops).length (aw ops).length (Nat.le_refl _)
   rw [Nat.min_self] at h2
   rw [this,← h2,NH]
  ·refine h.env.2 t c ?_
   rw [Bd (D':=fun q=>decide (q<(aw ops).length)) _ (fun q hq o i hL _=>by rw [hd q o i hL];simp [hq]),
    H7 rfl (fun q o i hq=>(tr.each q o i hq).2.1) _ _ (Nat.le_refl _),Nat.min_self]
   exact hc
 intro iZ
 induction iZ with
 | zero=>
  intro listed a w k R σ h hf
  have hall:∀ i,i<ops.size→listed.getD i false=true:=by
   intro i hi
   cases hl:listed.getD i false with
   | true=>rfl
   | false=>
    have:=Mj h.size hi hl
    omega
  refine ⟨?_,done h hall⟩
  cases hr:Region.ready .any ops listed with
  | nil=>rfl
  | cons x xs=>
   exfalso
   have hx:x ∈ Region.ready .any ops listed:=by rw [hr];simp
   obtain ⟨h1,o,ho,_⟩:=mem_ready.1 hx
   have hxs:=(Array.getElem?_eq_some_iff.1 ho).1
   have:=hall x hxs
   have hlt:x<listed.size:=by rw [h.size];exact hxs
   simp [Array.getD_eq_getD_getElem?,hlt] at h1 this
   rw [h1] at this
   cases this
 | succ iZ ih=>
  intro listed a w k R σ h hf
  refine ⟨fun hr=>done h (Nn hback hr h.size),fun i hi => ?_⟩
  refine RH hP hC hY tr h hi (fun a' w' k' R' σ' h'=>ih _ a' w' k' R' σ' h' ?_)
  obtain ⟨h1,o,ho,_⟩:=mem_ready.1 hi
  have hxs:=(Array.getElem?_eq_some_iff.1 ho).1
  have hlt:i<listed.size:=by rw [h.size];exact hxs
  have hl:listed.getD i false=false:=by
   simp [Array.getD_eq_getD_getElem?,hlt] at h1 ⊢
   exact h1
  have:=Mj h.size hxs hl
  omega
theorem PF {P:Program} (hm:P.follows .mixedOrders=true):Ei P:=by
 intro cx hP hC hY T B0 w0 R0 σ0 ws n1 ro n id ops K r Q hQ hok s R σ a w h hA
 refine wpIn_region_any hm ?_
 obtain ⟨S,ran,val,fin,e0,eK,hap,_,_,hall⟩:=wg (aw ops) ([],[]) s h
 have tr:Tr cx ops S ran val fin:=⟨hok,hap,fun q o i hq=>by rw [e0];exact hall q o i hq⟩
 have hb:Below w.heap.size w { w with drawn:=w.drawn+1 }:=(Below.refl _ w).drew
 have hst:Stp (TB B0) cx.wl B0 w0 R0 σ0 ws R σ (S 0).H { w with drawn:=w.drawn+1 }:=by
  rw [e0];exact hA.stp.trans (hA.stp.inv.stp hb) hA.size
 obtain ⟨τ,st,hho⟩:=RJ tr hst hA.size (BQ ops) (Nat.le_refl _)
 have hff:∀ i,(Array.replicate ops.size false).getD i false=false:=by
  intro i
  by_cases hi:i<ops.size
  ·simp [hi]
  ·simp [hi]
 have hl0:left ops (Array.replicate ops.size false)≤ops.size:=by
  unfold left
  refine Nat.le_trans (List.length_filter_le _ _) ?_
  simp
 refine adz hP hC hY tr eK hQ ops.size _ a _ (BQ ops) R (σ++τ) ?_ hl0
 refine ⟨by simp,fun i hi => ?_,fun q o i hL he => ?_,fun q o i hL hh=>(pW hL).1 hh,Gv,?_,st,hA.size,hA.marks.keep (fun b x hb'=>rfl),?_,fun q o i hL hh _=>hho q o i ((pW hL).1 hh) hL,fun q o i hL _ hl => ?_⟩
 ·rw [hff] at hi;cases hi
 ·rw [hff]
  refine ⟨fun h=>(by cases h),fun h => ?_⟩
  have:=(pW hL).2 h
  unfold gF at he
  obtain ⟨⟨t,hal⟩,_⟩:=mj (Tr.get hL) this
  rw [pg (Tr.get hL),hal] at he
  simp [re,this] at he
 ·have henv:b7 R (σ++τ) s.env a.tmps:=hA.env.mono (iz.refl R) (Ext.append σ τ)
  refine ⟨by rw [NH,e0];exact henv.1,fun t c hc => ?_⟩
  rw [Bd (D':=fun q=>decide (q<0)) _ (fun q hq o i hL _=>by unfold Dl;rw [hL];simpa using hff i),
   H7 rfl (fun q o i hq=>(tr.each q o i hq).2.1) 0 _ (Nat.le_refl _),Nat.min_zero,e0] at hc
  exact henv.2 t c hc
 ·rw [e0,← hA.stp.inv.len]
  exact hA.stp.ext.length
 ·rw [hff] at hl;cases hl
theorem VM {P:Program} {M:Mode} (hm:P.follows .mixedOrders=true) (hN:V9 P) (hO:VD P M) (k:Nat):mr P (evF P M k):=(ahm hN hO (PF hm) k).1
end draw
end Go.Ab
namespace Go.Ab
open Go.RowKit
def BB (r:Array Oper):List (Option Tmp×Op×Option (Nat×Bool)):=r.toList.map fun o=>(o.dst,o.op,o.guard)
theorem gS {o:Option Tmp×Op×Option (Nat×Bool)} {l:List (Option Tmp×Op×Option (Nat×Bool))} {r:List Oper} (h:r.map (fun o=>(o.dst,o.op,o.guard))=o::l) :
  ∃ x xs,r=x::xs∧x.dst=o.1∧x.op=o.2.1∧x.guard=o.2.2∧xs.map (fun o=>(o.dst,o.op,o.guard))=l:=by
 cases r with
 | nil=>simp at h
 | cons x xs=>
  simp only [List.map_cons,List.cons.injEq] at h
  obtain ⟨h1,h2⟩:=h
  subst h1
  exact ⟨x,xs,rfl,rfl,rfl,rfl,h2⟩
structure Copies (c:Code) (t:TypeId):Prop where
 body:∃ (i0 i1 i2 i3:Nat) (r0 r1 r2 r3:Array Oper) (u:TypeId),c = .seq (.region i0 r0 false) (.seq (.seq (.region i1 r1 false) (.cond (.tmp 4) (.seq (.region i2 r2 false) .ret) .skip)) (.seq (.region i3 r3 false) .ret)) ∧
  BB r0=[(some 2,.assign (.const (.slice none 0 0)),none)] ∧
  BB r1=[(some 3,.move (.tmp 0),none),(some 4,.binOp .eql t (.tmp 3) (.const (.slice none 0 0)) u,none)] ∧
  BB r2=[(some 2,.assign (.const (.slice none 0 0)),none)] ∧
  BB r3=[(some 5,.buildSlice t 0 #[],none),(some 6,.move (.tmp 0),none),(some 7,.call { callee := .builtin .append,args := #[.tmp 5,.tmp 6],argTypes := #[t,t] },none),(some 2,.assign (.tmp 7),none)]
def lF (P:Program) (t:TypeId) (args:List V) (H:Hp):Option (V×Hp):=
 match args with
 | [x]=>
  (mF P t).bind fun e=>(fM P e).bind fun z=>(bZ x H).bind fun rs=>
   if cr (aR P e) rs&&JK P e&&bg (b8 z)&&(b8 z).length==aR P e&&Nat.ble (rs.length*P.bytesOf e) 70368744177664 then
    some (.own (H.length+1) 1 rs.length,H++[.rows 0 [] 0 true,.rows (aR P e) rs 1 true])
   else none
 | _=>none
section clone
variable {P:Program} {wl B0:Nat} {w0:World} {R R':Ro} {σ σ':List Sg} {H:Hp} {w w':World}
theorem Cr {x:V} {rs:List (List V)} {cx:Value} (h:bZ x H=some rs) (hx:RelV R σ x cx):∃ A l c,cx = .slice A l c:=by
 unfold bZ at h
 split at h
 ·obtain ⟨A,c,e,_⟩:=PZ hx;exact ⟨A,_,c,e⟩
 ·cases hx;exact ⟨_,_,_,rfl⟩
 ·obtain ⟨A,l,c,s,e,_⟩:=mC hx;exact ⟨A,l,c,e⟩
 ·cases h
theorem Nt (hI:Inv wl B0 w0 R σ H w) {x:V} {rs:List (List V)} {l c:Nat} (h:bZ x H=some rs) (hx:RelV R σ x (.slice none l c)):rs=[]:=by
 unfold bZ at h
 split at h
 ·cases h
  cases hx
  rfl
 ·cases h;rfl
 ·rename_i id g len
  split at h
  ·rename_i e rs' g' lv hb
   split at h
   ·rename_i hc
    obtain ⟨rfl,hlen⟩:=hc
    cases h
    obtain ⟨A,l',c',s,e',hs,hh,hg,hl⟩:=mC hx
    obtain ⟨hgen,_,_,_,hnone,hsome⟩:=lO hI hb hs hh
    obtain ⟨rfl,hn,hsm⟩:=hl hgen.symm
    cases hblk:s.blk with
    | none=>have:=hn hblk;rw [this.1];simp
    | some b=>
     have:=(hsm b hblk).1
     rw [this] at e'
     cases e'
   ·cases h
  ·cases h
 ·cases h
theorem P2 {t e:TypeId} {o:Oper} {ρ:Operand→Value} {ox:Operand} {u:TypeId} {A:Option Addr} {l c:Nat} (ht:P.underlying t=some (.slice e)) (ho:o.op = .binOp .eql t ox (.const (.slice none 0 0)) u)
  (hx:ρ ox = .slice A l c) (hc:ρ (.const (.slice none 0 0)) = .slice none 0 0):(execOp ρ o).run P w = .ok (.value (.bool A.isNone)) w:=by
 obtain ⟨d,hd⟩:∃ d,Op.maxDepth=d+1:=⟨_,rfl⟩
 simp only [execOp,ho,hx,hc]
 cases A with
 | none=>simp [eqGuard,binOp,Op.equal,hd,Op.equalIn,run_underlying ht]
 | some a=>simp [eqGuard,binOp,Op.equal,hd,Op.equalIn,run_underlying ht]
theorem we {F:Fence} {n:Nat} {ops:Array Oper} {Q:Exit→Act→World→Prop} {i:Nat} {rest:List Nat} {o:Oper} {a:Act} (ho:ops[i]? = some o) (hg:o.guard=none) (h:o.wpIn F n P a w (wpOpsIn F n P ops Q rest) Q) :
  wpOpsIn F n P ops Q (i::rest) a w:=by
 simp only [wpOpsIn,ho,Region.wanted,hg,if_true]
 exact h
theorem Cu {x:V} {rs:List (List V)} (h:bZ x H=some rs) (K:Hp):bZ x (H++K)=some rs:=by
 unfold bZ at h ⊢
 split at h
 ·exact h
 ·exact h
 ·rename_i id g len
  split at h
  ·rename_i hb
   rw [List.getElem?_append_left (List.getElem?_eq_some_iff.1 hb).1,hb]
   exact h
  ·cases h
 ·cases h
theorem i6 {fn:Func} {f:FuncId} {t:TypeId} (hm:P.follows .mixedOrders=true) (hf:P.funcs[f]? = some fn) (hbody:∃ c,fn.body=some c∧Copies c t) (hres:fn.results = #[.tmp 2]) (hnt:fn.ntmps=8)
  {args:List V} {v:V} {H':Hp} (h:lF P t args H=some (v,H')) {cargs:Array Value} (hI:Inv 0 B0 w0 R σ H w) (hA:b7 R σ args cargs):Calls P f cargs w (Ni 0 B0 w0 R σ w v H'):=by
 obtain ⟨c,hb,hcop⟩:=hbody
 obtain ⟨i0,i1,i2,i3,r0,r1,r2,r3,u,rfl,sh0,sh1,sh2,sh3⟩:=hcop.body
 unfold BB at sh0 sh1 sh2 sh3
 obtain ⟨q0,l0,e0,d0,p0,g0,n0⟩:=gS sh0
 obtain ⟨q1,l1,e1,d1,p1,g1,n1⟩:=gS sh1
 obtain ⟨q2,l2,e2,d2,p2,g2,n2⟩:=gS n1
 obtain ⟨q3,l3,e3,d3,p3,g3,n3⟩:=gS sh2
 obtain ⟨q4,l4,e4,d4,p4,g4,n4⟩:=gS sh3
 obtain ⟨q5,l5,e5,d5,p5,g5,n5⟩:=gS n4
 obtain ⟨q6,l6,e6,d6,p6,g6,n6⟩:=gS n5
 obtain ⟨q7,l7,e7,d7,p7,g7,n7⟩:=gS n6
 simp only at d0 p0 g0 d1 p1 g1 d2 p2 g2 d3 p3 g3 d4 p4 g4 d5 p5 g5 d6 p6 g6 d7 p7 g7
 have hl0:l0=[]:=by simpa using n0
 have hl2:l2=[]:=by simpa using n2
 have hl3:l3=[]:=by simpa using n3
 have hl7:l7=[]:=by simpa using n7
 subst hl0 hl2 hl3 hl7 e2 e5 e6 e7
 have a0':r0 = #[q0]:=by apply Array.ext';simpa using e0
 have a1':r1 = #[q1,q2]:=by apply Array.ext';simpa using e1
 have a2':r2 = #[q3]:=by apply Array.ext';simpa using e3
 have a3':r3 = #[q4,q5,q6,q7]:=by apply Array.ext';simpa using e4
 subst a0' a1' a2' a3'
 clear sh0 sh1 sh2 sh3 e0 e1 e3 e4 n0 n1 n2 n3 n4 n5 n6 n7 hcop
 unfold lF at h
 split at h
 ·rename_i x
  simp only [Option.bind_eq_some_iff] at h
  obtain ⟨e,he,z,hz,rs,hrs,h⟩:=h
  split at h
  ·rename_i hc
   simp only [Bool.and_eq_true,beq_iff_eq] at hc
   obtain ⟨⟨⟨⟨hok,hgr⟩,hzo⟩,hzl⟩,hbig⟩:=hc
   have hbig:rs.length*P.bytesOf e≤70368744177664:=Nat.le_of_ble_eq_true hbig
   cases h
   have hte:=ki he
   have hsz:aR P e≠0:=(DR hgr).choose_spec.choose_spec.2.2.2.2.2.1
   obtain ⟨cv,l,hl,hx,hnil⟩:=hA.uncons
   have hl0:l=[]:=by simpa using hnil.nil_inv
   subst hl0
   subst hl
   obtain ⟨A,len,cap,hcv⟩:=Cr hrs hx
   subst hcv
   let cx:Cx := { P,M:=⟨fun _=>none,fun _ _=>none,fun _=>false,fun _=>0⟩,fid:=f,round:=false,wl:=0,call:=fun _ _ _ _=>none,yld:=fun _ _ _ _=>none,n:=0 }
   have hC:mr P cx.call:=fun _ _ _ _ _ _ h=>by cases h
   have hY:C7 P cx.yld:=fun _ _ _ _ _ _ h=>by cases h
   have hD:Ei P:=PF hm
   let T:=V×Hp
   let K:Out→St→Option T:=fun o s=>match o with | .ret=>(s.env[2]?).map fun v=>(v,s.H) | _=>none
   let r:T:=(.own (H.length+1) 1 rs.length,H++[.rows 0 [] 0 true,.rows (aR P e) rs 1 true])
   -- the start
   let env0:List V:=[x]++List.replicate 7 (.lit undef)
   let a0:Act := { tmps := #[.slice A len cap]++Array.replicate 7 undef,defers:=[] }
   have hA0:At 0 B0 w0 R σ w w.heap.size ⟨env0,H⟩ R σ a0 w:=⟨nF (hx.cons (b7.nil R σ)) (uv R σ 7 undef),Stp.refl hI,Nat.le_refl _,trivial⟩
   refine callsIn_wide (n:=0).1 (callsIn_of_wp_marks (F:=Fw none) hf hb trivial ?_)
   have htm:(#[Value.slice A len cap]++Array.replicate (fn.ntmps - (#[Value.slice A len cap]:Array Value).size) undef)=a0.tmps:=by rw [hnt];rfl
   rw [htm]
   -- the end
   have fin:∀ (s:St) (R':Ro) (σ':List Sg) (a:Act) (w':World),At 0 B0 w0 R σ w w.heap.size s R' σ' a w'→s.H=r.2→s.env[2]? = some r.1→LeavesInM (Fw none) 0 P fn a.tmps (Ni 0 B0 w0 R σ w r.1 r.2) a.defers .returning w':=by
    intro s R' σ' a w' hAt hH hv
    have:=hAt.stp
    rw [hH] at this
    refine wi (env := s.env) (H := r.2) ?_ hAt.env (Nat.le_refl _) hI.base (fun cv w'' st r hs => ⟨R', σ', st, r, hs⟩) a.defers w' hAt.marks this hAt.size
    rw [hres]
    simp [iJ,QR,ah3,hv]
   have r0:=(gr (P:=P) (cx:=cx) (T:=St) rfl hC hY hD (ro:=none) (fun _=>rfl) (n:=0) (r:=⟨env0.set 2 (.own H.length 0 0),H++[.rows 0 [] 0 true]⟩) (Nat.le_refl _) (.region i0 #[q0] false)).1
    (fun o s=>match o with | .norm=>some s | _=>none) ⟨env0,H⟩ R σ a0 w (by simp [be,FX,Rg.none,fb,opV,d0,p0,g0,env0,oL,evO,f9,oK]) hA0
   refine wpIn_seq (Go.wpIn_mono r0 ?_)
   rintro e1 a1 w1 ⟨o1,s1,R1,σ1,rfl,hk1,hA1⟩
   cases o1 with
   | exit=>cases hk1
   | goto=>cases hk1
   | ret=>cases hk1
   | norm=>
    cases hk1
    refine wpIn_seq (wpIn_seq (wpIn_region ?_))
    refine we (o:=q1) rfl g1 ?_
    refine SX (cx:=cx) (calm:=false) (ord:=true) (env:=env0.set 2 (.own H.length 0 0)) (H:=H++[.rows 0 [] 0 true]) (v:=x) (H':=H++[.rows 0 [] 0 true]) rfl rfl hC hY hA1.stp.inv hA1.env (by simp [p1,opV,evO,env0]) (fun cv w2 R2 σ2 st2 hv2 hs2 => ?_)
    have hA2:=hA1.op (some 3) st2 hv2 hs2
    obtain ⟨A',l',c',hcv⟩:=Cr hrs hv2
    subst hcv
    rw [d1]
    change wpOpsIn (Fw none) 0 P #[q1,q2] _ [1] (a1.put (some 3) (.slice A' l' c')) w2
    refine we (o:=q2) rfl g2 ?_
    refine ⟨fun _ _=>trivial,?_⟩
    have h3:(a1.put (some 3) (.slice A' l' c')).eval (.tmp 3) = .slice A' l' c':=by
     have hsz3:3<a1.tmps.size:=by
      have:=hA1.env.1
      simp [env0] at this
      omega
     simp [Act.put,Act.eval,hsz3]
    have hrun:=P2 (P:=P) (w:=w2) (o:=q2) (ox := .tmp 3) hte p2 h3 rfl
    rw [Oper.semAt_eq _ _ _ (fun c hc=>by rw [p2] at hc;cases hc),hrun,Oper.uponIn_value,d2]
    have hA3:=hA2.op (some 4) (Stp.refl hA2.stp.inv) (.lit (.bool A'.isNone)) (Nat.le_refl _)
    have h4:=(hA3.env.2 4 (.lit (.bool A'.isNone)) rfl).lit_inv
    have hH3:bZ x (H++[B.rows 0 [] 0 true])=some rs:=Cu hrs _
    refine wpIn_cond h4 ?_
    cases hA':A' with
    | none=>
     -- nil
     subst hA'
     have hrs0:=Nt hA3.stp.inv hH3 hv2
     refine wpIn_seq (wpIn_region ?_)
     refine we (o:=q3) rfl g3 ?_
     refine ⟨fun _ _=>trivial,?_⟩
     have hrun2:(execOp ((a1.put (some 3) (.slice none l' c')).put (some 4) (.bool true)).eval q3).run P w2 = .ok (.value (.slice none 0 0)) w2:=by simp only [execOp,p3,Sem.run_pure];rfl
     rw [Oper.semAt_eq _ _ _ (fun c hc=>by rw [p3] at hc;cases hc)]
     erw [hrun2]
     rw [Oper.uponIn_value,d3]
     refine wpIn_ret ?_
     let s':Sg:=⟨none,1,aR P e,0,false⟩
     have hp:=hA3.stp.inv.push_stp (T:=TB B0) (b := .rows (aR P e) [] 1 true) (s:=s') (Below.refl _ _) (fun k hk=>by cases hk) ⟨rfl,rfl,fun h=>absurd rfl h,fun r hr=>by simp at hr,rfl⟩
     have hA4:=hA3.op (cv := .slice none 0 0) (v := .own (H.length+1) 1 0) (some 2) hp (.own _ _ _ _ _ _ s' (by
      have:=hA3.stp.inv.len
      simp at this
      rw [List.getElem?_append_right (by omega)]
      simp [this]) rfl (Nat.le_refl _) (fun _=>⟨rfl,fun _=>⟨rfl,rfl⟩,fun b hb=>by cases hb⟩)) (Nat.le_refl _)
     refine fin _ _ _ _ _ hA4 ?_ ?_
     ·show (H++[B.rows 0 [] 0 true])++[B.rows (aR P e) [] 1 true]=H++[.rows 0 [] 0 true,.rows (aR P e) rs 1 true]
      rw [hrs0];simp
     ·show _=some (V.own (H.length+1) 1 rs.length)
      rw [hrs0]
      rfl
    | some ad=>
     -- not nil
     subst hA'
     refine wpIn_skip ?_
     have hcomp:be cx (.seq (.region i3 #[q4,q5,q6,q7] false) .ret) none K ⟨oL (oL (env0.set 2 (.own H.length 0 0)) (some 3) x) (some 4) (.lit (.bool false)),H++[.rows 0 [] 0 true]⟩=some r:=by
      simp only [be,Bool.false_eq_true,if_false]
      simp [FX,Rg.none,fb,opV,d4,p4,g4,d5,p5,g5,d6,p6,g6,d7,p7,g7,Pw,aL,he,hz,hsz,hzo,hzl,gf,oL,env0,evO,ES,OJ,bA,Cu hrs,hok,hgr,hbig,cx,K,r]
     have hw:=(gr (P:=P) (cx:=cx) (T:=T) rfl hC hY hD (ro:=none) (fun _=>rfl) (n:=0) (r:=r) (Nat.le_refl _) (.seq (.region i3 #[q4,q5,q6,q7] false) .ret)).1 K _ _ _ _ _ hcomp hA3
     refine Go.wpIn_mono hw ?_
     rintro e5 a5 w5 ⟨o5,s5,R5,σ5,rfl,hk5,hA5⟩
     cases o5 with
     | norm=>cases hk5
     | exit=>cases hk5
     | goto=>cases hk5
     | ret=>
      simp only [K,Option.map_eq_some_iff] at hk5
      obtain ⟨v5,hv5,e5⟩:=hk5
      exact fin s5 R5 σ5 a5 w5 hA5 (by rw [← e5]) (by rw [← e5];exact hv5)
  ·cases h
 ·cases h
end clone
end Go.Ab
namespace Go.Ab
open Go.RowKit
def Va (w:World):Ro:=fun b o=>w.cell? ⟨b,o,none⟩
theorem Ye (w:World):Inv 0 w.heap.size w (Va w) [] [] w where
 below:=Below.refl _ w
 base:=Nat.le_refl _
 len:=rfl
 blk id b s h1:=by simp at h1
 inj i j bi bj si sj b h1:=by simp at h1
 ge id x s b h h1:=by simp at h1
 lt id x s b h1:=by simp at h1
 ro b o v h:=h
theorem NO {P:Program} {M:Mode} (hm:P.follows .mixedOrders=true) (hN:V9 P) (hO:VD P M) {k f:Nat} {args:List V} {v:Value} {H':Hp}
  (h:evF P M k 0 f args []=some (.lit v,H')) {cargs:Array Value} {w:World} (hA:b7 (Va w) [] args cargs):Calls P f cargs w fun e w'=>e = .returned v∧Below w.heap.size w w':=by
 refine ((VM hm hN hO k 0 f args [] (.lit v) H' h).2 _ _ _ _ w cargs (Ye w) hA).mono fun e w' he => ?_
 cases e with
 | returned cv=>
  obtain ⟨R',σ',st,hr,_⟩:=he
  have:=hr.lit_inv
  subst this
  exact ⟨rfl,st.inv.below⟩
 | panicked=>exact he.elim
 | outgrown=>exact he.elim
def Vi (k:IntKind) (l:List Int):V := .ro (l.map fun n=>[.lit (.int k n)])
end Go.Ab
namespace Go.Ab
section sym
variable {T:Type}
end sym
end Go.Ab
namespace Go.Ab
open Go.RowKit
section data
variable {P:Program} {w:World} {H:Type} {enc:TypeId×Value→H}
inductive Shape (P:Program):TypeId→List V→Prop where
 | int {t:TypeId} {k:IntKind} (n:Int) (ht:P.underlying t=some (.int k)) (hn:(Lit.int k n).wf=true):Shape P t [.lit (.int k n)]
 | bool {t:TypeId} (b:Bool) (ht:P.underlying t=some .bool):Shape P t [.lit (.bool b)]
 | slice {t e:TypeId} (rows:List (List V)) (ht:P.underlying t=some (.slice e)) (hr:∀ r ∈ rows,Shape P e r) (hl:∀ r ∈ rows,r.length=P.cellsOf e) (hm:rows.length≤maxLen):Shape P t [.ro rows]
 | struct {t:TypeId} {fs:Array Field} (vs:List V) (ht:P.underlying t=some (.struct fs)) (hl:vs.length=P.cellsOf t)
   (hf:∀ (i:Nat) (f:Field),fs[i]? = some f→Shape P f.type ((vs.drop f.offset).take (P.cellsOf f.type))):Shape P t vs
def ri (P:Program):List Field→Nat→Nat→Bool
 | [],k,n=>k==n
 | f::fs,k,n=>f.offset==k&&ri P fs (k+P.cellsOf f.type) n
def EE (P : Program) : Nat → TypeId → Bool
  | 0, _ => false
  | d + 1, t =>
    match P.underlying t with
    | some .bool => true
    | some (.int _) => true
    | some (.slice e) => EE P d e && P.cellsOf e != 0
    | some (.struct fs) => ri P fs.toList 0 (P.cellsOf t) && fs.toList.all fun f => EE P d f.type
    | _ => false
structure Known (P:Program) (w:World) (t:TypeId) (cs:List Value) (vs:List V):Prop where
 len:vs.length=cs.length
 rel:∀ (i:Nat) (v:V) (c:Value),vs[i]? = some v→cs[i]? = some c→RelV (Va w) [] v c
 pure:aW vs=true
 ones:bg vs=true
 shape:Shape P t vs
structure Cells (w:World) (cs:List Value) (vs:List V):Prop where
 len:vs.length=cs.length
 rel:∀ (i:Nat) (v:V) (c:Value),vs[i]? = some v→cs[i]? = some c→RelV (Va w) [] v c
 pure:aW vs=true
 ones:bg vs=true
theorem GZ (a b:List V):aW (a++b)=(aW a&&aW b):=by
 induction a with
 | nil=>simp [aW]
 | cons x a ih=>simp [aW,ih,Bool.and_assoc]
theorem Cells.append {as bs:List Value} {xs ys:List V} (h:Cells w as xs) (k:Cells w bs ys):Cells w (as++bs) (xs++ys):=by
 refine ⟨by simp [h.len,k.len],fun i v c hv hc => ?_,by rw [GZ,h.pure,k.pure];rfl,by simp only [bg,List.all_append,Bool.and_eq_true];exact ⟨h.ones,k.ones⟩⟩
 by_cases hi:i<xs.length
 ·rw [List.getElem?_append_left hi] at hv
  rw [List.getElem?_append_left (by rw [← h.len];exact hi)] at hc
  exact h.rel i v c hv hc
 ·rw [List.getElem?_append_right (by omega)] at hv
  rw [List.getElem?_append_right (by rw [← h.len];omega),← h.len] at hc
  exact k.rel _ v c hv hc
theorem Aa:∀ (fs:List Field) (k:Nat) (cs:List Value),ri P fs k (k+cs.length)=true →
  (∀ f ∈ fs,∃ vs,Cells w ((cs.drop (f.offset - k)).take (P.cellsOf f.type)) vs∧Shape P f.type vs) →
  ∃ vs,Cells w cs vs∧∀ f ∈ fs,Shape P f.type ((vs.drop (f.offset - k)).take (P.cellsOf f.type))
 | [],k,cs,hl,_=>by
  simp [ri] at hl
  subst hl
  exact ⟨[],⟨rfl,fun i v c hv=>by simp at hv,rfl,rfl⟩,fun f hf=>by simp at hf⟩
 | f::fs,k,cs,hl,h=>by
  simp only [ri,Bool.and_eq_true,beq_iff_eq] at hl
  obtain ⟨ho,hl⟩:=hl
  have off:∀ g ∈ fs,k+P.cellsOf f.type≤g.offset:=by
   have:∀ (l:List Field) (k n:Nat),ri P l k n=true→∀ g ∈ l,k≤g.offset:=by
    intro l
    induction l with
    | nil=>intro k n _ g hg;simp at hg
    | cons x l ih=>
     intro k n hx g hg
     simp only [ri,Bool.and_eq_true,beq_iff_eq] at hx
     rcases List.mem_cons.1 hg with rfl | hg
     ·omega
     ·have:=ih _ _ hx.2 g hg;omega
   exact this fs _ _ hl
  have fin:∀ (l:List Field) (k n:Nat),ri P l k n=true→k≤n:=by
   intro l
   induction l with
   | nil=>intro k n hx;simp [ri] at hx;omega
   | cons x l ih=>
    intro k n hx
    simp only [ri,Bool.and_eq_true,beq_iff_eq] at hx
    have:=ih _ _ hx.2
    omega
  have hle:=fin fs _ _ hl
  obtain ⟨v0,h0,s0⟩:=h f (by simp)
  rw [ho,Nat.sub_self,List.drop_zero] at h0
  have hl0:v0.length=P.cellsOf f.type:=by rw [h0.len,List.length_take];omega
  obtain ⟨vs,h1,s1⟩:=Aa fs (k+P.cellsOf f.type) (cs.drop (P.cellsOf f.type)) (by rw [List.length_drop];rw [show k+P.cellsOf f.type+(cs.length - P.cellsOf f.type)=k+cs.length by omega];exact hl) (fun g hg=>by
   obtain ⟨vs,a,b⟩:=h g (by simp [hg])
   refine ⟨vs,?_,b⟩
   rw [List.drop_drop]
   have:=off g hg
   rw [show P.cellsOf f.type+(g.offset - (k+P.cellsOf f.type))=g.offset - k by omega]
   exact a)
  refine ⟨v0++vs,?_,fun g hg => ?_⟩
  ·have:=h0.append h1
   rwa [List.take_append_drop] at this
  ·rcases List.mem_cons.1 hg with rfl | hg
   ·rw [ho,Nat.sub_self,List.drop_zero,List.take_append_of_le_length (by omega),List.take_of_length_le (by omega)]
    exact s0
   ·have:=off g hg
    rw [List.drop_append,List.drop_of_length_le (by omega),List.nil_append,hl0]
    rw [show g.offset - k - P.cellsOf f.type=g.offset - (k+P.cellsOf f.type) by omega]
    exact s1 g hg
theorem Ej : ∀ (d iZ : Nat) (t : TypeId) (cs : List Value) (x : DataW H × List MemPlace), EE P d t = true → DataW.trod enc P w 0 (fun _ => true) true iZ t cs = some x → ∃ vs, Cells w cs vs ∧ Shape P t vs
  | 0, _, _, _, _, hp, _ => by cases hp
  | d + 1, iZ, t, cs, x, hp, h => by
    unfold EE at hp
    split at hp
    · rename_i ht
      obtain ⟨b, rfl, _⟩ := DataW.trod_bool ht h
      exact ⟨[.lit (.bool b)], ⟨rfl, fun i v c hv hc => by cases i <;> simp at hv hc; subst hv hc; exact .lit _, rfl, rfl⟩, .bool b ht⟩
    · rename_i k ht
      obtain ⟨n, rfl, _, hw⟩ := DataW.trod_int ht h
      exact ⟨[.lit (.int k n)], ⟨rfl, fun i v c hv hc => by cases i <;> simp at hv hc; subst hv hc; exact .lit _, rfl, rfl⟩, .int n ht hw⟩
    · rename_i e ht
      simp only [Bool.and_eq_true, bne_iff_ne, ne_eq] at hp
      obtain ⟨hpe, hne⟩ := hp
      rcases Go.Deep.open_slice ht h with ⟨rfl, _⟩ | ⟨a, len, cap, m, n, D, Pl, rfl, _, hlc, hcm, hmm, _, hx⟩
      · exact ⟨[.ro []], ⟨rfl, fun i v c hv hc => by cases i <;> simp at hv hc; subst hv hc; exact .roNil _ _, rfl, rfl⟩, .slice [] ht (by simp) (by simp) (by simp)⟩
      · have hx' : ∀ i, i < len → ∃ vs, ∃ cs', w.cells? 0 (a.add (i * P.cellsOf e)) (P.cellsOf e) = some cs' ∧ Cells w cs' vs ∧ Shape P e vs := by
          intro i hi
          obtain ⟨cs', h1, h2⟩ := hx i (by simp at hmm; omega)
          obtain ⟨vs, h3, h4⟩ := Ej d n e cs' _ hpe h2
          exact ⟨vs, cs', h1, h3, h4⟩
        obtain ⟨f, hf⟩ := Go.Deep.choose_lt (α := List V) (p := fun i vs => ∃ cs', w.cells? 0 (a.add (i * P.cellsOf e)) (P.cellsOf e) = some cs' ∧ Cells w cs' vs ∧ Shape P e vs) hx'
        by_cases h0 : len = 0
        · subst h0
          exact ⟨[.ro []], ⟨rfl, fun i v c hv hc => by cases i <;> simp at hv hc; subst hv hc; exact .roNil _ _, rfl, rfl⟩, .slice [] ht (by simp) (by simp) (by simp)⟩
        · have hsp : a.spot = none := by
            obtain ⟨cs', h1, _⟩ := hf 0 (by omega)
            obtain ⟨_, h2, h3⟩ := World.cells?_some h1
            have h4 := h3 0 (by omega)
            have hz : a.add (0 * P.cellsOf e) = a := by simp [Addr.add]
            rw [hz] at h4
            have hz2 : a.add 0 = a := by simp [Addr.add]
            rw [hz2, List.getElem?_eq_getElem (by omega)] at h4
            unfold World.cell? at h4
            split at h4
            · split at h4
              · cases h4
              · rename_i hs; simpa using hs
            · cases h4
          obtain ⟨b, off, sp⟩ := a
          simp only at hsp
          subst hsp
          have hcell : ∀ i j, i < len → j < P.cellsOf e → ∃ c, w.cell? ⟨b, off + (i * P.cellsOf e + j), none⟩ = some c ∧ ∀ v, (f i)[j]? = some v → RelV (Va w) [] v c := by
            intro i j hi hj
            obtain ⟨cs', h1, h2, _⟩ := hf i hi
            obtain ⟨_, h3, h4⟩ := World.cells?_some h1
            have h5 := h4 j hj
            rw [cR, cR, List.getElem?_eq_getElem (by omega), Nat.add_assoc] at h5
            exact ⟨_, h5, fun v hv => h2.rel j v _ hv (List.getElem?_eq_getElem (by omega))⟩
          have hlen : ∀ i, i < len → (f i).length = P.cellsOf e := by
            intro i hi
            obtain ⟨cs', h1, h2, _⟩ := hf i hi
            rw [h2.len, (World.cells?_some h1).2.1]
          have hrow : ∀ i r, ((List.range len).map f)[i]? = some r → i < len ∧ r = f i := by
            intro i r hr
            obtain ⟨y, hy, rfl⟩ := ol hr
            have h1 := (List.getElem?_eq_some_iff.1 hy).1
            have h2 := (List.getElem?_eq_some_iff.1 hy).2
            simp at h1 h2
            exact ⟨h1, by rw [h2]⟩
          have hmem : ∀ r ∈ (List.range len).map f, ∃ i, i < len ∧ r = f i := by
            intro r hr
            obtain ⟨i, hi, rfl⟩ := List.mem_map.1 hr
            exact ⟨i, by simpa using hi, rfl⟩
          have hrl : ((List.range len).map f).length = len := by simp
          have hpr : dq ((List.range len).map f) = true := by
            unfold dq
            rw [List.all_eq_true]
            intro r hr
            obtain ⟨i, hi, rfl⟩ := hmem r hr
            obtain ⟨_, _, h2, _⟩ := hf i hi
            exact h2.pure
          have hon : ((List.range len).map f).all bg = true := by
            rw [List.all_eq_true]
            intro r hr
            obtain ⟨i, hi, rfl⟩ := hmem r hr
            obtain ⟨_, _, h2, _⟩ := hf i hi
            exact h2.ones
          have hrel := RelV.ro (R := Va w) (σ := []) ((List.range len).map f) b off cap (P.cellsOf e) (fun i j => (w.cell? ⟨b, off + (i * P.cellsOf e + j), none⟩).getD undef) (by rw [hrl]; exact hlc)
            (fun r hr => by obtain ⟨i, hi, rfl⟩ := hmem r hr; exact hlen i hi) hpr hon
            (fun i j r v h1 h2 => by
              obtain ⟨hi, rfl⟩ := hrow i r h1
              have hj := (List.getElem?_eq_some_iff.1 h2).1
              rw [hlen i hi] at hj
              obtain ⟨c, h3, h4⟩ := hcell i j hi hj
              rw [h3]
              exact h4 v h2)
            (fun i j r v h1 h2 => by
              obtain ⟨hi, rfl⟩ := hrow i r h1
              have hj := (List.getElem?_eq_some_iff.1 h2).1
              rw [hlen i hi] at hj
              obtain ⟨c, h3, _⟩ := hcell i j hi hj
              show w.cell? _ = _
              rw [h3]
              rfl)
          rw [hrl] at hrel
          refine ⟨[.ro ((List.range len).map f)], ⟨rfl, fun i v c hv hc => by cases i <;> simp at hv hc; subst hv hc; exact hrel, rfl, rfl⟩, .slice _ ht (fun r hr => ?_) (fun r hr => ?_) (by rw [hrl]; omega)⟩
          · obtain ⟨i, hi, rfl⟩ := hmem r hr
            obtain ⟨_, _, _, h3⟩ := hf i hi
            exact h3
          · obtain ⟨i, hi, rfl⟩ := hmem r hr
            exact hlen i hi
    · rename_i fs ht
      simp only [Bool.and_eq_true] at hp
      obtain ⟨hline, hall⟩ := hp
      obtain ⟨xs, n, _, _, hl, hxl, hxf⟩ := DataW.trod_struct ht h
      rw [List.all_eq_true] at hall
      obtain ⟨vs, h1, h2⟩ := Aa (P := P) (w := w) fs.toList 0 cs (by rw [Nat.zero_add, hl]; exact hline) (fun f hf => by
        obtain ⟨i, hi⟩ := List.mem_iff_getElem?.1 hf
        have hi' : fs[i]? = some f := by simpa using hi
        have hx := hxf i f hi'
        have hlt : i < xs.length := by rw [hxl]; exact (Array.getElem?_eq_some_iff.1 hi').1
        rw [List.getElem?_eq_getElem hlt] at hx
        obtain ⟨vs, a, b⟩ := Ej d n f.type _ _ (hall f hf) hx
        exact ⟨vs, by rw [Nat.sub_zero]; exact a, b⟩)
      refine ⟨vs, h1, .struct vs ht (by rw [h1.len, hl]) (fun i f hf => ?_)⟩
      have := h2 f (List.mem_of_getElem? (by simpa using hf))
      rwa [Nat.sub_zero] at this
    · cases hp
end data
end Go.Ab
namespace Go.Ab
section typed
variable {P:Program}
theorem nC {t:TypeId} {k:IntKind} {vs:List V} (ht:P.underlying t=some (.int k)) (h:Shape P t vs):∃ n,vs=[.lit (.int k n)]∧(Lit.int k n).wf=true:=by
 cases h with
 | int n ht' hn=>rw [ht] at ht';cases ht';exact ⟨n,rfl,hn⟩
 | bool b ht'=>rw [ht] at ht';cases ht'
 | slice rows ht'=>rw [ht] at ht';cases ht'
 | struct vs ht'=>rw [ht] at ht';cases ht'
theorem rL {t e:TypeId} {vs:List V} (ht:P.underlying t=some (.slice e)) (h:Shape P t vs):∃ rows,vs=[.ro rows]∧(∀ r ∈ rows,Shape P e r)∧rows.length≤maxLen:=by
 cases h with
 | int n ht' hn=>rw [ht] at ht';cases ht'
 | bool b ht'=>rw [ht] at ht';cases ht'
 | slice rows ht' hr hl hm=>rw [ht] at ht';cases ht';exact ⟨rows,rfl,hr,hm⟩
 | struct vs ht'=>rw [ht] at ht';cases ht'
theorem Af {t:TypeId} {fs:Array Field} {vs:List V} (ht:P.underlying t=some (.struct fs)) (h:Shape P t vs) :
  vs.length=P.cellsOf t∧∀ (i:Nat) (f:Field),fs[i]? = some f→Shape P f.type ((vs.drop f.offset).take (P.cellsOf f.type)):=by
 cases h with
 | int n ht' hn=>rw [ht] at ht';cases ht'
 | bool b ht'=>rw [ht] at ht';cases ht'
 | slice rows ht'=>rw [ht] at ht';cases ht'
 | struct vs ht' hl hf=>rw [ht] at ht';cases ht';exact ⟨hl,hf⟩
theorem pC {α:Type} {enc:α→List V} {Q:α→Prop}:∀ {rows:List (List V)},(∀ r ∈ rows,∃ a,r=enc a∧Q a)→∃ l:List α,rows=l.map enc∧∀ a ∈ l,Q a
 | [],_=>⟨[],rfl,by simp⟩
 | r::rows,h=>by
  obtain ⟨a,rfl,ha⟩:=h r (by simp)
  obtain ⟨l,rfl,hl⟩:=pC (rows:=rows) (fun r hr=>h r (by simp [hr]))
  exact ⟨a::l,rfl,by intro b hb;rcases List.mem_cons.1 hb with rfl | hb;exact ha;exact hl b hb⟩
theorem wy {t e:TypeId} {k:IntKind} {vs:List V} (ht:P.underlying t=some (.slice e)) (he:P.underlying e=some (.int k)) (h:Shape P t vs) :
  ∃ l:List Int,vs=[Vi k l]∧(∀ n ∈ l,(Lit.int k n).wf=true)∧l.length≤maxLen:=by
 obtain ⟨rows,rfl,hr,hm⟩:=rL ht h
 obtain ⟨l,rfl,hl⟩:=pC (enc:=fun n=>[V.lit (.int k n)]) (Q:=fun n=>(Lit.int k n).wf=true) (fun r h=>nC he (hr r h))
 exact ⟨l,rfl,hl,by simpa using hm⟩
def ak (t:Int×List Int):List V:=[.lit (.int .i64 t.1),Vi .i64 t.2]
def KH (l:Tyt):V := .ro (l.map ak)
def i64 (n:Int):Prop:=(Lit.int .i64 n).wf=true
theorem J3 {t e i s:TypeId} {f0 f1:Field} {vs:List V} (ht:P.underlying t=some (.slice e)) (he:P.underlying e=some (.struct #[f0,f1])) (h0:f0.type=i) (h1:f1.type=s) (o0:f0.offset=0) (o1:f1.offset=1)
  (hi:P.underlying i=some (.int .i64)) (hs:P.underlying s=some (.slice i)) (ci:P.cellsOf i=1) (cs:P.cellsOf s=1) (ce:P.cellsOf e=2) (h:Shape P t vs) :
  ∃ l:Tyt,vs=[KH l]∧(∀ x ∈ l,i64 x.1∧(∀ n ∈ x.2,i64 n)∧x.2.length≤maxLen)∧l.length≤maxLen:=by
 obtain ⟨rows,rfl,hr,hm⟩:=rL ht h
 obtain ⟨l,rfl,hl⟩:=pC (enc:=ak) (Q:=fun x=>i64 x.1∧(∀ n ∈ x.2,i64 n)∧x.2.length≤maxLen) (rows:=rows) (fun r hx=>by
  obtain ⟨a,b⟩:=Af he (hr r hx)
  have s0:=b 0 f0 rfl
  have s1:=b 1 f1 rfl
  rw [h0,o0,ci,List.drop_zero] at s0
  rw [h1,o1,cs] at s1
  rw [ce] at a
  obtain ⟨n,e0,w0⟩:=nC hi s0
  obtain ⟨l,e1,w1,m1⟩:=wy hs hi s1
  match r,a with
  | [x,y],_=>
   simp at e0 e1
   subst e0 e1
   exact ⟨(n,l),rfl,w0,w1,m1⟩)
 exact ⟨l,rfl,hl,by simpa using hm⟩
def az (t:Int×Int×Int):List V:=[.lit (.int .i64 t.1),.lit (.int .i64 t.2.1),.lit (.int .i64 t.2.2)]
end typed
end Go.Ab
