import Derived.Test.YtblpbpnilkfjhaaGreatAbLibB
import Derived.Test.YtblpbpnilkfjhaaGreatAbLibC
import Derived.Test.YtblpbpnilkfjhaaGreatProg
set_option linter.unusedVariables false
set_option linter.unusedSimpArgs false
namespace Go.Ab
open Go.Proofs
def KQ (P:Program) (named:Nat→Nat):Mode where
 orc f:=if f=76 then some (lF P 26) else if f=77 then some (lF P 27) else if f=78 then some (lF P 28) else if f=79 then some (lF P 63) else if f=80 then some (lF P 53) else if f=102 then some (lF P 24) else if f=62 then some YQ else none
 keepRes c f:=if f=17∧c=36 then some (fun i=>i==1) else if f=76∧c=143∨f=79∧c=163∨f=79∧c=181∨f=77∧c=41∨f=78∧c=41∨f=102∧c=58∨f=41∧c=17∨f=57∧c=23∨f=62∧c=23∨f=80∧c=115 then some (fun _=>true) else none
 keepArg f:=f==62||f==210||f==211||f==212
 named:=named
theorem mixed:Tryz.prog.follows .mixedOrders=true:=by kernel_rfl
theorem VN:∃ c,Tryz.f76.body=some c∧Copies c 26:=⟨_,rfl,⟨⟨_,_,_,_,_,_,_,_,_,rfl,rfl,rfl,rfl,rfl⟩⟩⟩
theorem VH:∃ c,Tryz.f77.body=some c∧Copies c 27:=⟨_,rfl,⟨⟨_,_,_,_,_,_,_,_,_,rfl,rfl,rfl,rfl,rfl⟩⟩⟩
theorem Tx:∃ c,Tryz.f78.body=some c∧Copies c 28:=⟨_,rfl,⟨⟨_,_,_,_,_,_,_,_,_,rfl,rfl,rfl,rfl,rfl⟩⟩⟩
theorem UW:∃ c,Tryz.f79.body=some c∧Copies c 63:=⟨_,rfl,⟨⟨_,_,_,_,_,_,_,_,_,rfl,rfl,rfl,rfl,rfl⟩⟩⟩
theorem UY:∃ c,Tryz.f80.body=some c∧Copies c 53:=⟨_,rfl,⟨⟨_,_,_,_,_,_,_,_,_,rfl,rfl,rfl,rfl,rfl⟩⟩⟩
theorem PG:∃ c,Tryz.f102.body=some c∧Copies c 24:=⟨_,rfl,⟨⟨_,_,_,_,_,_,_,_,_,rfl,rfl,rfl,rfl,rfl⟩⟩⟩
def ahK:Go.Shelf.Ren:=⟨fun n=>if n=23 then 62 else n,fun n=>if n=22 then 53 else n,id⟩
theorem abA:Lays2.n23 Tryz.prog ahK:=by
 constructor
 all_goals first | kernel_rfl | (intro w;kernel_rfl)
theorem mJ:V9 Tryz.prog:=by
 have h : (Tryz.prog.funcs.toList.all fun fn => !(fn.name == "runtime.NumGoroutine")) = true := by kernel_rfl
 intro f fn hf
 rw [List.all_eq_true] at h
 have:=h fn (by simpa using Array.mem_of_getElem? hf)
 simpa using this
theorem ada (named:Nat→Nat):VD Tryz.prog (KQ Tryz.prog named):=by
 intro f o ho args H v H' h
 simp only [KQ] at ho
 split at ho
 ·rename_i hf
  cases ho
  subst hf
  exact ⟨⟨Tryz.f76,Tryz.func76,mJ 76 _ Tryz.func76,rfl⟩,fun B0 w0 R σ w cargs hI hA=>i6 mixed Tryz.func76 VN rfl rfl h hI hA⟩
 ·split at ho
  ·rename_i hf
   cases ho
   subst hf
   exact ⟨⟨Tryz.f77,Tryz.func77,mJ 77 _ Tryz.func77,rfl⟩,fun B0 w0 R σ w cargs hI hA=>i6 mixed Tryz.func77 VH rfl rfl h hI hA⟩
  ·split at ho
   ·rename_i hf
    cases ho
    subst hf
    exact ⟨⟨Tryz.f78,Tryz.func78,mJ 78 _ Tryz.func78,rfl⟩,fun B0 w0 R σ w cargs hI hA=>i6 mixed Tryz.func78 Tx rfl rfl h hI hA⟩
   ·split at ho
    ·rename_i hf
     cases ho
     subst hf
     exact ⟨⟨Tryz.f79,Tryz.func79,mJ 79 _ Tryz.func79,rfl⟩,fun B0 w0 R σ w cargs hI hA=>i6 mixed Tryz.func79 UW rfl rfl h hI hA⟩
    ·split at ho
     ·rename_i hf
      cases ho
      subst hf
      exact ⟨⟨Tryz.f80,Tryz.func80,mJ 80 _ Tryz.func80,rfl⟩,fun B0 w0 R σ w cargs hI hA=>i6 mixed Tryz.func80 UY rfl rfl h hI hA⟩
     ·split at ho
      ·rename_i hf
       cases ho
       subst hf
       exact ⟨⟨Tryz.f102,Tryz.func102,mJ 102 _ Tryz.func102,rfl⟩,fun B0 w0 R σ w cargs hI hA=>i6 mixed Tryz.func102 PG rfl rfl h hI hA⟩
      ·split at ho
       ·rename_i hf
        cases ho
        subst hf
        exact ⟨⟨Tryz.f62,Tryz.func62,mJ 62 _ Tryz.func62,rfl⟩,fun B0 w0 R σ w cargs hI hA=>Hj abA h hI hA⟩
       ·cases ho
theorem Wc {named:Nat→Nat} {k f:Nat} {args:List V} {v:Value} {H':Hp} (h:evF Tryz.prog (KQ Tryz.prog named) k 0 f args []=some (.lit v,H')) {cargs:Array Value} {w:World} (hA:b7 (Va w) [] args cargs) :
  Calls Tryz.prog f cargs w fun e w'=>e = .returned v∧RowKit.Below w.heap.size w w':=NO mixed mJ (ada named) h hA
end Go.Ab
