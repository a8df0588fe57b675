import Derived.Test.YtblpbpnilkfjhaaGreatR6Facts
set_option linter.unusedVariables false
set_option linter.unusedSimpArgs false
namespace Go.Ab
open Go.Proofs
theorem Wy {v:V} {h h':Hp} {x:Value} (e:m6 none v h=some (.lit x,h')):v = .lit x:=by
 cases v with
 | lit y=>
  rw [Ta] at e
  cases e
  rfl
 | own id g len=>
  simp only [m6,fzR,Hf,fzA,wP,fzB] at e
  generalize h[id]? = b at e
  cases b with
  | none=>cases e
  | some b=>
   cases b with
   | rows s rs g' lv=>
    simp only at e
    generalize (g==g'&&decide (len≤rs.length)&&(dq rs&&Nat.ble 0 id))=c at e
    cases c <;> simp [V.pure] at e
   | _=>cases e
 | agg cs=>
  simp only [m6,fzR,Hf,fzA] at e
  generalize fzL 0 true cs h=b at e
  cases b with
  | none=>cases e
  | some p=>
   simp only [Option.bind_some] at e
   split at e <;> simp at e
 | tup cs=>
  simp only [m6,fzR] at e
  generalize om 0 cs h=b at e
  cases b with
  | none=>cases e
  | some p=>
   simp only [Option.bind_some] at e
   split at e <;> simp at e
 | nil=>simp [m6,fzR,Hf,V.pure] at e
 | ro r=>simp [m6,fzR,Hf,fzA,fzC,V.pure] at e
 | any=>simp [m6,fzR,Hf,fzA,fzC,V.pure] at e
 | junk=>simp [m6,fzR,Hf,fzA,fzC,V.pure] at e
 | fn f a b=>
  simp only [m6,fzR,Hf,fzA,fzC,Option.bind_some] at e
  split at e <;> simp at e
 | yld l=>simp [m6,fzR,Hf,fzA,fzC,V.pure] at e
 | rp c=>simp [m6,fzR,Hf,fzA,fzC,V.pure] at e
 | ptr i g r o=>simp [m6,fzR,Hf,fzA,fzC,V.pure] at e
 | map i=>simp [m6,fzR,Hf,fzA,fzC,V.pure] at e
theorem af1 {k g:Nat} {args:List V} {x:Value} {h:Hp} (e:xC k none g args=some (.lit x,h)):∃ H',evF Tryz.prog xM k 0 g args []=some (.lit x,H'):=by
 unfold xC at e
 cases hv:evF Tryz.prog xM k 0 g args [] with
 | none=>rw [hv] at e;cases e
 | some p=>
  rw [hv] at e
  obtain ⟨v,h'⟩:=p
  have:=Wy e
  subst this
  exact ⟨h',rfl⟩
end Go.Ab
