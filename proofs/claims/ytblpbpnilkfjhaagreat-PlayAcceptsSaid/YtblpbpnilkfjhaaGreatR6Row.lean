import Derived.Test.YtblpbpnilkfjhaaGreatR6Facts
set_option linter.unusedVariables false
set_option linter.unusedSimpArgs false
namespace Go.Ab
open Go.Proofs
theorem Vb {v:V} {h h':Hp} {x:Value} (e:nE none v h=some (.lit x,h')):v = .lit x:=by
 cases v with
 | lit y=>
  rw [VR] at e
  cases e
  rfl
 | own id g len=>
  simp only [nE,fzR,Gx,fzA,wH,fzB] at e
  generalize h[id]? = b at e
  cases b with
  | none=>cases e
  | some b=>
   cases b with
   | rows s rs g' lv=>
    simp only at e
    generalize (g==g'&&decide (len≤rs.length)&&(dq rs&&Nat.ble 0 id))=c at e
    cases c <;> simp [V.pure] at e
   | _=>cases e
 | agg cs=>
  simp only [nE,fzR,Gx,fzA] at e
  generalize fzL 0 true cs h=b at e
  cases b with
  | none=>cases e
  | some p=>
   simp only [Option.bind_some] at e
   split at e <;> simp at e
 | tup cs=>
  simp only [nE,fzR] at e
  generalize nX 0 cs h=b at e
  cases b with
  | none=>cases e
  | some p=>
   simp only [Option.bind_some] at e
   split at e <;> simp at e
 | nil=>simp [nE,fzR,Gx,V.pure] at e
 | ro r=>simp [nE,fzR,Gx,fzA,fzC,V.pure] at e
 | any=>simp [nE,fzR,Gx,fzA,fzC,V.pure] at e
 | junk=>simp [nE,fzR,Gx,fzA,fzC,V.pure] at e
 | fn f a b=>
  simp only [nE,fzR,Gx,fzA,fzC,Option.bind_some] at e
  split at e <;> simp at e
 | yld l=>simp [nE,fzR,Gx,fzA,fzC,V.pure] at e
 | rp c=>simp [nE,fzR,Gx,fzA,fzC,V.pure] at e
 | ptr i g r o=>simp [nE,fzR,Gx,fzA,fzC,V.pure] at e
 | map i=>simp [nE,fzR,Gx,fzA,fzC,V.pure] at e
theorem aez {k g:Nat} {args:List V} {x:Value} {h:Hp} (e:xC k none g args=some (.lit x,h)):∃ H',evF Tryz.prog xM k 0 g args []=some (.lit x,H'):=by
 unfold xC at e
 cases hv:evF Tryz.prog xM k 0 g args [] with
 | none=>rw [hv] at e;cases e
 | some p=>
  rw [hv] at e
  obtain ⟨v,h'⟩:=p
  have:=Vb e
  subst this
  exact ⟨h',rfl⟩
end Go.Ab
