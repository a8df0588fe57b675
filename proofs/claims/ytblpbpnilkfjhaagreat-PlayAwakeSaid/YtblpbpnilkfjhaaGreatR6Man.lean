import Derived.Test.YtblpbpnilkfjhaaGreatR6Run
import Derived.Test.YtblpbpnilkfjhaaGreatR6Facts
set_option linter.unusedVariables false
set_option linter.unusedSimpArgs false
namespace Go.Ab
open Go.Proofs
theorem IO (k:Nat) (l:List Int):evF Tryz.prog xM (k+1) 0 76 [.ro (l.map (aG .u64))] []=ob (aO 8 l) fun r=>some (.own 1 1 r.length,[.rows 0 [] 0 true,.rows 1 (r.map (aG .u64)) 1 true]):=by
 have h:evF Tryz.prog xM (k+1) 0 76 [.ro (l.map (aG .u64))] []=iG Tryz.prog 26 [.ro (l.map (aG .u64))] []:=by kernel_rfl
 rw [h]
 exact iP (P:=Tryz.prog) (t:=26) (e:=46) (sz:=1) (bytes:=8) (enc:=(aG .u64)) (by kernel_rfl) ⟨(fD Tryz.prog 46).getD default,by kernel_rfl,by kernel_rfl,by kernel_rfl⟩ (by kernel_rfl) (by kernel_rfl) (by kernel_rfl) (fun _=>rfl) l
theorem aea (k:Nat) (l:List Int):xC (k+1) none 76 [.ro (List.map (aG .u64) l)]=ob (aO 8 l) fun r=>some (.ro (List.map (aG .u64) r),[]):=by
 rw [aH,IO]
 exact oM (fun _=>rfl) l 1
theorem Zu (k:Nat) (l:List Int):xC (k+1) (some fun _=>true) 76 [.ro (List.map (aG .u64) l)]=ob (aO 8 l) fun r=>some (.own 0 0 r.length,[.rows 1 (List.map (aG .u64) r) 0 true]):=by
 rw [aH,IO]
 exact kO (fun _=>rfl) l 1
theorem Sa (k:Nat) (l:List Tyw):evF Tryz.prog xM (k+1) 0 77 [.ro (l.map aM)] []=ob (aO 104 l) fun r=>some (.own 1 1 r.length,[.rows 0 [] 0 true,.rows 11 (r.map aM) 1 true]):=by
 have h:evF Tryz.prog xM (k+1) 0 77 [.ro (l.map aM)] []=iG Tryz.prog 27 [.ro (l.map aM)] []:=by kernel_rfl
 rw [h]
 exact iP (P:=Tryz.prog) (t:=27) (e:=65) (sz:=11) (bytes:=104) (enc:=aM) (by kernel_rfl) ⟨(fD Tryz.prog 65).getD default,by kernel_rfl,by kernel_rfl,by kernel_rfl⟩ (by kernel_rfl) (by kernel_rfl) (by kernel_rfl) (fun _=>rfl) l
theorem abX (k:Nat) (l:List Tyw):xC (k+1) (some fun _=>true) 77 [.ro (List.map aM l)]=ob (aO 104 l) fun r=>some (.own 0 0 r.length,[.rows 11 (List.map aM r) 0 true]):=by
 rw [aH,Sa]
 exact kO lI l 11
theorem PX (k:Nat) (l:List Tys):evF Tryz.prog xM (k+1) 0 78 [.ro (l.map bD)] []=ob (aO 88 l) fun r=>some (.own 1 1 r.length,[.rows 0 [] 0 true,.rows 9 (r.map bD) 1 true]):=by
 have h:evF Tryz.prog xM (k+1) 0 78 [.ro (l.map bD)] []=iG Tryz.prog 28 [.ro (l.map bD)] []:=by kernel_rfl
 rw [h]
 exact iP (P:=Tryz.prog) (t:=28) (e:=57) (sz:=9) (bytes:=88) (enc:=bD) (by kernel_rfl) ⟨(fD Tryz.prog 57).getD default,by kernel_rfl,by kernel_rfl,by kernel_rfl⟩ (by kernel_rfl) (by kernel_rfl) (by kernel_rfl) (fun _=>rfl) l
theorem YR (k:Nat) (l:List Tys):xC (k+1) (some fun _=>true) 78 [.ro (List.map bD l)]=ob (aO 88 l) fun r=>some (.own 0 0 r.length,[.rows 9 (List.map bD r) 0 true]):=by
 rw [aH,PX]
 exact kO nd l 9
theorem IK (k:Nat) (l:Tye):evF Tryz.prog xM (k+1) 0 79 [.ro (l.map aX)] []=ob (aO 24 l) fun r=>some (.own 1 1 r.length,[.rows 0 [] 0 true,.rows 3 (r.map aX) 1 true]):=by
 have h:evF Tryz.prog xM (k+1) 0 79 [.ro (l.map aX)] []=iG Tryz.prog 63 [.ro (l.map aX)] []:=by kernel_rfl
 rw [h]
 exact iP (P:=Tryz.prog) (t:=63) (e:=129) (sz:=3) (bytes:=24) (enc:=aX) (by kernel_rfl) ⟨(fD Tryz.prog 129).getD default,by kernel_rfl,by kernel_rfl,by kernel_rfl⟩ (by kernel_rfl) (by kernel_rfl) (by kernel_rfl) (fun _=>rfl) l
theorem adQ (k:Nat) (l:Tye):xC (k+1) none 79 [.ro (List.map aX l)]=ob (aO 24 l) fun r=>some (.ro (List.map aX r),[]):=by
 rw [aH,IK]
 exact oM (fun _=>rfl) l 3
theorem aaP (k:Nat) (l:Tye):xC (k+1) (some fun _=>true) 79 [.ro (List.map aX l)]=ob (aO 24 l) fun r=>some (.own 0 0 r.length,[.rows 3 (List.map aX r) 0 true]):=by
 rw [aH,IK]
 exact kO (fun _=>rfl) l 3
theorem QG (k:Nat) (l:List Int):evF Tryz.prog xM (k+1) 0 80 [.ro (l.map (aG .i64))] []=ob (aO 8 l) fun r=>some (.own 1 1 r.length,[.rows 0 [] 0 true,.rows 1 (r.map (aG .i64)) 1 true]):=by
 have h:evF Tryz.prog xM (k+1) 0 80 [.ro (l.map (aG .i64))] []=iG Tryz.prog 53 [.ro (l.map (aG .i64))] []:=by kernel_rfl
 rw [h]
 exact iP (P:=Tryz.prog) (t:=53) (e:=3) (sz:=1) (bytes:=8) (enc:=(aG .i64)) (by kernel_rfl) ⟨(fD Tryz.prog 3).getD default,by kernel_rfl,by kernel_rfl,by kernel_rfl⟩ (by kernel_rfl) (by kernel_rfl) (by kernel_rfl) (fun _=>rfl) l
theorem ago (k:Nat) (l:List Int):xC (k+1) none 80 [.ro (List.map (aG .i64) l)]=ob (aO 8 l) fun r=>some (.ro (List.map (aG .i64) r),[]):=by
 rw [aH,QG]
 exact oM (fun _=>rfl) l 1
theorem Np (k:Nat) (l:Tyt):evF Tryz.prog xM (k+1) 0 102 [.ro (l.map ao)] []=ob (aO 32 l) fun r=>some (.own 1 1 r.length,[.rows 0 [] 0 true,.rows 2 (r.map ao) 1 true]):=by
 have h:evF Tryz.prog xM (k+1) 0 102 [.ro (l.map ao)] []=iG Tryz.prog 24 [.ro (l.map ao)] []:=by kernel_rfl
 rw [h]
 exact iP (P:=Tryz.prog) (t:=24) (e:=101) (sz:=2) (bytes:=32) (enc:=ao) (by kernel_rfl) ⟨(fD Tryz.prog 101).getD default,by kernel_rfl,by kernel_rfl,by kernel_rfl⟩ (by kernel_rfl) (by kernel_rfl) (by kernel_rfl) (fun _=>rfl) l
theorem XY (k:Nat) (l:Tyt):xC (k+1) (some fun _=>true) 102 [.ro (List.map ao l)]=ob (aO 32 l) fun r=>some (.own 0 0 r.length,[.rows 2 (List.map ao r) 0 true]):=by
 rw [aH,Np]
 exact kO nF l 2
theorem ZL {k id g len:Nat} {a b:Int} {H:Hp}:evF Tryz.prog xM (k+1) 0 62 [.own id g len,.lit (.int .i64 a),.lit (.int .i64 b)] H=dlB id g len a b H H[id]? := by
 rw [Wy (by rfl),Xo]
def xQ0:=PLift.up (aI (aI (aI (aI (aI (aI @xF @aci) @acQ) @Y7) (aI (aI (aI @ait @RZ) @YI) (aI @ag5 @xR.eq_1))) (aI (aI (aI (aI @xA.eq_1 @aea) @Zu) @abX) (aI @YR (aI @adQ @aaP)))) (aI (aI @ago @XY) (aI @ZL @Pm)))
theorem xQ:type_of% xQ0.down:=xQ0.down
end Go.Ab
