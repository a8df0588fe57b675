import Derived.Test.YtblpbpnilkfjhaaGreatAbLibB
import Derived.Test.YtblpbpnilkfjhaaGreatAbLibC
import Derived.Test.YtblpbpnilkfjhaaGreatProg
set_option linter.unusedVariables false
set_option linter.unusedSimpArgs false
namespace Go.Ab
open Go.Proofs
def J2 (P:Program) (named:Nat→Nat):Mode where
 orc f:=if f=76 then some (kg P 26) else if f=77 then some (kg P 27) else if f=78 then some (kg P 28) else if f=79 then some (kg P 63) else if f=80 then some (kg P 53) else if f=102 then some (kg P 24) else if f=62 then some W7 else none
 keepRes c f:=if f=17∧c=36 then some (fun i=>i==1) else if f=76∧c=143∨f=79∧c=163∨f=79∧c=181∨f=77∧c=41∨f=78∧c=41∨f=102∧c=58∨f=41∧c=17∨f=57∧c=23∨f=62∧c=23 then some (fun _=>true) else none
 keepArg f:=f==62||f==210||f==211||f==212
 named:=named
theorem mixed:Tryz.prog.follows .mixedOrders=true:=by kernel_rfl
theorem UT:∃ c,Tryz.f76.body=some c∧Copies c 26:=⟨_,rfl,⟨⟨_,_,_,_,_,_,_,_,_,rfl,rfl,rfl,rfl,rfl⟩⟩⟩
theorem Ub:∃ c,Tryz.f77.body=some c∧Copies c 27:=⟨_,rfl,⟨⟨_,_,_,_,_,_,_,_,_,rfl,rfl,rfl,rfl,rfl⟩⟩⟩
theorem TS:∃ c,Tryz.f78.body=some c∧Copies c 28:=⟨_,rfl,⟨⟨_,_,_,_,_,_,_,_,_,rfl,rfl,rfl,rfl,rfl⟩⟩⟩
theorem TZ:∃ c,Tryz.f79.body=some c∧Copies c 63:=⟨_,rfl,⟨⟨_,_,_,_,_,_,_,_,_,rfl,rfl,rfl,rfl,rfl⟩⟩⟩
theorem TD:∃ c,Tryz.f80.body=some c∧Copies c 53:=⟨_,rfl,⟨⟨_,_,_,_,_,_,_,_,_,rfl,rfl,rfl,rfl,rfl⟩⟩⟩
theorem N1:∃ c,Tryz.f102.body=some c∧Copies c 24:=⟨_,rfl,⟨⟨_,_,_,_,_,_,_,_,_,rfl,rfl,rfl,rfl,rfl⟩⟩⟩
def aeW:Go.Shelf.Ren:=⟨fun n=>if n=23 then 62 else n,fun n=>if n=22 then 53 else n,id⟩
theorem abG:Lays2.n23 Tryz.prog aeW:=by
 constructor
 all_goals first | kernel_rfl | (intro w;kernel_rfl)
theorem lF:T0 Tryz.prog:=by
 have h : (Tryz.prog.funcs.toList.all fun fn => !(fn.name == "runtime.NumGoroutine")) = true := by kernel_rfl
 intro f fn hf
 rw [List.all_eq_true] at h
 have:=h fn (by simpa using Array.mem_of_getElem? hf)
 simpa using this
theorem afI (named:Nat→Nat):Ul Tryz.prog (J2 Tryz.prog named):=by
 intro f o ho args H v H' h
 simp only [J2] at ho
 split at ho
 ·rename_i hf
  cases ho
  subst hf
  exact ⟨⟨Tryz.f76,Tryz.func76,lF 76 _ Tryz.func76,rfl⟩,fun B0 w0 R σ w cargs hI hA=>ii mixed Tryz.func76 UT rfl rfl h hI hA⟩
 ·split at ho
  ·rename_i hf
   cases ho
   subst hf
   exact ⟨⟨Tryz.f77,Tryz.func77,lF 77 _ Tryz.func77,rfl⟩,fun B0 w0 R σ w cargs hI hA=>ii mixed Tryz.func77 Ub rfl rfl h hI hA⟩
  ·split at ho
   ·rename_i hf
    cases ho
    subst hf
    exact ⟨⟨Tryz.f78,Tryz.func78,lF 78 _ Tryz.func78,rfl⟩,fun B0 w0 R σ w cargs hI hA=>ii mixed Tryz.func78 TS rfl rfl h hI hA⟩
   ·split at ho
    ·rename_i hf
     cases ho
     subst hf
     exact ⟨⟨Tryz.f79,Tryz.func79,lF 79 _ Tryz.func79,rfl⟩,fun B0 w0 R σ w cargs hI hA=>ii mixed Tryz.func79 TZ rfl rfl h hI hA⟩
    ·split at ho
     ·rename_i hf
      cases ho
      subst hf
      exact ⟨⟨Tryz.f80,Tryz.func80,lF 80 _ Tryz.func80,rfl⟩,fun B0 w0 R σ w cargs hI hA=>ii mixed Tryz.func80 TD rfl rfl h hI hA⟩
     ·split at ho
      ·rename_i hf
       cases ho
       subst hf
       exact ⟨⟨Tryz.f102,Tryz.func102,lF 102 _ Tryz.func102,rfl⟩,fun B0 w0 R σ w cargs hI hA=>ii mixed Tryz.func102 N1 rfl rfl h hI hA⟩
      ·split at ho
       ·rename_i hf
        cases ho
        subst hf
        exact ⟨⟨Tryz.f62,Tryz.func62,lF 62 _ Tryz.func62,rfl⟩,fun B0 w0 R σ w cargs hI hA=>Ff abG h hI hA⟩
       ·cases ho
theorem U4 {named:Nat→Nat} {k f:Nat} {args:List V} {v:Value} {H':Hp} (h:evF Tryz.prog (J2 Tryz.prog named) k 0 f args []=some (.lit v,H')) {cargs:Array Value} {w:World} (hA:bT (TC w) [] args cargs) :
  Calls Tryz.prog f cargs w fun e w'=>e = .returned v∧RowKit.Below w.heap.size w w':=MU mixed lF (afI named) h hA
end Go.Ab
