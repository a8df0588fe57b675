import Derived.Test.YtblpbpnilkfjhaaGreatR6PP
set_option linter.unusedVariables false
set_option linter.unusedSimpArgs false
set_option linter.unusedVariables false
set_option linter.unusedSimpArgs false
namespace Go.Ab
theorem Jj (f:FR):gm f=some (EE f):=by
 obtain ⟨a0,a1,a2,a3,a4,a5,a6⟩:=f
 unfold gm EE
 simp only [lR,af,gL,mg]
 by_cases h1:a0=5
 ·by_cases h2:a6=0
  ·simp [h1,h2]
  ·have:(a6 !=0)=true:=by simp [h2]
   simp [h1,h2,this]
 ·simp [h1]
def abW (x:WB):Bool:=decide (x.1=8)&&EE x.2.2.1
theorem Ix (x:WB):gn x=some (abW x):=by
 unfold gn abW
 try simp only [Prod.eta]
 rw [Jj,af,mg]
 by_cases h:x.1=8
 ·rw [decide_eq_true h,cond_true,Bool.true_and]
 ·rw [decide_eq_false h,cond_false,Bool.false_and]
end Go.Ab
