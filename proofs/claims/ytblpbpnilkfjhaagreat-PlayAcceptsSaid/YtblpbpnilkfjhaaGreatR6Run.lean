import Derived.Test.YtblpbpnilkfjhaaGreatAbLibC
import Derived.Test.YtblpbpnilkfjhaaGreatR6Seat
set_option linter.unusedVariables false
set_option linter.unusedSimpArgs false
namespace Go.Ab
open Go.Proofs
def xR (f g:Nat):Option (Nat→Bool):=sif (g==17&&f==36) (some fun i=>i==1) (sif (g==76&&f==143||g==79&&f==163||g==79&&f==181||g==77&&f==41||g==78&&f==41||g==102&&f==58||g==41&&f==17||g==57&&f==23||g==62&&f==23||g==80&&f==115) (some fun _=>true) none)
def xA (g:Nat):Bool:=g==62||g==210||g==211||g==212
theorem aeN (f g:Nat):xM.keepRes f g=xR f g:=by
 show (if g=17∧f=36 then some (fun i=>i==1) else if g=76∧f=143∨g=79∧f=163∨g=79∧f=181∨g=77∧f=41∨g=78∧f=41∨g=102∧f=58∨g=41∧f=17∨g=57∧f=23∨g=62∧f=23∨g=80∧f=115 then some (fun _=>true) else none)=_
 unfold xR sif
 simp only [Bool.cond_eq_ite,Bool.or_eq_true,Bool.and_eq_true,beq_iff_eq,or_assoc]
theorem aef (g:Nat):xM.keepArg g=xA g:=rfl
section
variable {k fid wl n g:Nat} {rd o:Bool} {first caps args:List V} {H:Hp}
theorem ip:nZ (xX (xS k) fid wl n rd) false o (.fn (.func g) first caps) args H=bq (sif (xA g) (some (first++args++caps,H)) (oN wl (first++args++caps) H)) fun a=>
   sif (aW a.1) (bq (xC k (xR fid g) g a.1) (ldQ H a.2))
    (bq (evF Tryz.prog xM k wl g a.1 a.2) fun p=>bq (sif (xR fid g).isSome (some p) (fzR wl p.1 p.2)) fun q=>dD H (sif q.1.pure (q.1,pX a.2.length q.2) q)):=by
 rw [← aef,← aeN]
 exact QF
theorem iF:nZ (xX (xS k) fid wl n rd) true true (.fn (.func g) first caps) args H =
   sif (aW (first++args++caps)) (bq (xC k (xR fid g) g (first++args++caps)) (ldP H)) (sif (xA g) none (bq (oN wl (first++args++caps) H) fun a=>
    sif (aW a.1) (bq (xC k (xR fid g) g a.1) fun q=>bq (ldP a.2 q) fun q=>some (q.1,sif q.1.scal H q.2)) (bq (evF Tryz.prog xM k a.2.length g a.1 a.2) fun p=>sif p.1.scal (some (p.1,H)) none))):=by
 rw [← aef,← aeN]
 exact Ng
theorem iw:nZ (xX (xS k) fid wl n rd) true false (.fn (.func g) first caps) args H=sif (aW (first++args++caps)) (bq (xC k none g (first++args++caps)) fun q=>sif q.1.pure (some (q.1,H)) none) none:=Np
theorem gU {l:Nat}:nZ (xX (xS k) fid wl n rd) false o (.yld l) args H=bq (oN wl args H) fun a=>bq (evY Tryz.prog xM k wl l a.1 a.2) (dD H):=rfl
noncomputable def xY (k wl id:Nat) (args:List V) (H:Hp) (b:Option B):Res:=yB Tryz.prog xM k wl id args H b
theorem EH {id:Nat}:evY Tryz.prog xM (k+1) wl id args H=xY k wl id args H (H[id]?):=aaS
theorem dh {id f:Nat} {pe:Option Code} {ts:List V} {ps:List Tmp} {a b:Code} :
  xY k wl id args H (some (.loop ⟨.ready,pe,f,ts,ps,a,b⟩))=sif (decide (args.length=ps.length)&&Nat.ble wl id)
   (bF (xX (xS k) f wl k true) (asK (xX (xS k) f wl k true) id H.length b) [.seq a] .norm ⟨fe ts ps args,H⟩) none:=UI
noncomputable def xG (k fid wl n:Nat) (ps:List Tmp) (a b:Code) (K:Out→St→Res) (env:List V) (H:Hp) (v:V):Res:=rgC (xX (xS k) fid wl n false) ps a b K env H v
theorem iN {f:Operand} {ps:Array Tmp} {a b:Code} {K:Out→St→Res} {env:List V} :
  be (xX (xS k) fid wl n false) (.rangeFunc f ps a b) none K ⟨env,H⟩=sif (Nat.ble wl H.length) (bq (evO env f) (xG k fid wl n ps.toList a b K env H)) none:=VG rfl
theorem nY {ps:List Tmp} {a b:Code} {K:Out→St→Res} {env:List V} :
  xG k fid wl n ps a b K env H (.fn (.func g) [] caps)=bq (evF Tryz.prog xM k wl g (.yld H.length::caps) (H++[.loop ⟨.ready,none,fid,env,ps,a,b⟩])) (rfK K env H.length):=adB
theorem aD {kp:Option (Nat→Bool)}:xC k kp g args=rt kp (evF Tryz.prog xM k 0 g args []):=rfl
end
end Go.Ab
