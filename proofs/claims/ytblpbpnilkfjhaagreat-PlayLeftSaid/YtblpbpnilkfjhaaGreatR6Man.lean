import Derived.Test.YtblpbpnilkfjhaaGreatR6Run
import Derived.Test.YtblpbpnilkfjhaaGreatR6Facts
set_option linter.unusedVariables false
set_option linter.unusedSimpArgs false
namespace Go.Ab
open Go.Proofs
theorem Lb (k:Nat) (l:List Int):evF Tryz.prog xM (k+1) 0 76 [.ro (l.map (aw .u64))] []=ob (aK 8 l) fun r=>some (.own 1 1 r.length,[.rows 0 [] 0 true,.rows 1 (r.map (aw .u64)) 1 true]):=by
 have h:evF Tryz.prog xM (k+1) 0 76 [.ro (l.map (aw .u64))] []=kg Tryz.prog 26 [.ro (l.map (aw .u64))] []:=by kernel_rfl
 rw [h]
 exact kC (P:=Tryz.prog) (t:=26) (e:=46) (sz:=1) (bytes:=8) (enc:=(aw .u64)) (by kernel_rfl) ⟨(fC Tryz.prog 46).getD default,by kernel_rfl,by kernel_rfl,by kernel_rfl⟩ (by kernel_rfl) (by kernel_rfl) (by kernel_rfl) (fun _=>rfl) l
theorem MD (k:Nat) (l:List Int):xC (k+1) none 76 [.ro (List.map (aw .u64) l)]=ob (aK 8 l) fun r=>some (.ro (List.map (aw .u64) r),[]):=by
 rw [aD,Lb]
 exact gW (fun _=>rfl) l 1
theorem Cu (k:Nat) (l:List Int):xC (k+1) (some fun _=>true) 76 [.ro (List.map (aw .u64) l)]=ob (aK 8 l) fun r=>some (.own 0 0 r.length,[.rows 1 (List.map (aw .u64) r) 0 true]):=by
 rw [aD,Lb]
 exact ig (fun _=>rfl) l 1
theorem Ju (k:Nat) (l:List Tyw):evF Tryz.prog xM (k+1) 0 77 [.ro (l.map aC)] []=ob (aK 104 l) fun r=>some (.own 1 1 r.length,[.rows 0 [] 0 true,.rows 11 (r.map aC) 1 true]):=by
 have h:evF Tryz.prog xM (k+1) 0 77 [.ro (l.map aC)] []=kg Tryz.prog 27 [.ro (l.map aC)] []:=by kernel_rfl
 rw [h]
 exact kC (P:=Tryz.prog) (t:=27) (e:=65) (sz:=11) (bytes:=104) (enc:=aC) (by kernel_rfl) ⟨(fC Tryz.prog 65).getD default,by kernel_rfl,by kernel_rfl,by kernel_rfl⟩ (by kernel_rfl) (by kernel_rfl) (by kernel_rfl) (fun _=>rfl) l
theorem LQ (k:Nat) (l:List Tyw):xC (k+1) none 77 [.ro (List.map aC l)]=ob (aK 104 l) fun r=>some (.ro (List.map aC r),[]):=by
 rw [aD,Ju]
 exact gW kz l 11
theorem Dq (k:Nat) (l:List Tyw):xC (k+1) (some fun _=>true) 77 [.ro (List.map aC l)]=ob (aK 104 l) fun r=>some (.own 0 0 r.length,[.rows 11 (List.map aC r) 0 true]):=by
 rw [aD,Ju]
 exact ig kz l 11
theorem K4 (k:Nat) (l:List Tys):evF Tryz.prog xM (k+1) 0 78 [.ro (l.map bh)] []=ob (aK 88 l) fun r=>some (.own 1 1 r.length,[.rows 0 [] 0 true,.rows 9 (r.map bh) 1 true]):=by
 have h:evF Tryz.prog xM (k+1) 0 78 [.ro (l.map bh)] []=kg Tryz.prog 28 [.ro (l.map bh)] []:=by kernel_rfl
 rw [h]
 exact kC (P:=Tryz.prog) (t:=28) (e:=57) (sz:=9) (bytes:=88) (enc:=bh) (by kernel_rfl) ⟨(fC Tryz.prog 57).getD default,by kernel_rfl,by kernel_rfl,by kernel_rfl⟩ (by kernel_rfl) (by kernel_rfl) (by kernel_rfl) (fun _=>rfl) l
theorem Nl (k:Nat) (l:List Tys):xC (k+1) none 78 [.ro (List.map bh l)]=ob (aK 88 l) fun r=>some (.ro (List.map bh r),[]):=by
 rw [aD,K4]
 exact gW l9 l 9
theorem CM (k:Nat) (l:List Tys):xC (k+1) (some fun _=>true) 78 [.ro (List.map bh l)]=ob (aK 88 l) fun r=>some (.own 0 0 r.length,[.rows 9 (List.map bh r) 0 true]):=by
 rw [aD,K4]
 exact ig l9 l 9
theorem K8 (k:Nat) (l:Tye):evF Tryz.prog xM (k+1) 0 79 [.ro (l.map aB)] []=ob (aK 24 l) fun r=>some (.own 1 1 r.length,[.rows 0 [] 0 true,.rows 3 (r.map aB) 1 true]):=by
 have h:evF Tryz.prog xM (k+1) 0 79 [.ro (l.map aB)] []=kg Tryz.prog 63 [.ro (l.map aB)] []:=by kernel_rfl
 rw [h]
 exact kC (P:=Tryz.prog) (t:=63) (e:=129) (sz:=3) (bytes:=24) (enc:=aB) (by kernel_rfl) ⟨(fC Tryz.prog 129).getD default,by kernel_rfl,by kernel_rfl,by kernel_rfl⟩ (by kernel_rfl) (by kernel_rfl) (by kernel_rfl) (fun _=>rfl) l
theorem Mi (k:Nat) (l:Tye):xC (k+1) none 79 [.ro (List.map aB l)]=ob (aK 24 l) fun r=>some (.ro (List.map aB r),[]):=by
 rw [aD,K8]
 exact gW (fun _=>rfl) l 3
theorem C7 (k:Nat) (l:Tye):xC (k+1) (some fun _=>true) 79 [.ro (List.map aB l)]=ob (aK 24 l) fun r=>some (.own 0 0 r.length,[.rows 3 (List.map aB r) 0 true]):=by
 rw [aD,K8]
 exact ig (fun _=>rfl) l 3
theorem Kw (k:Nat) (l:List Int):evF Tryz.prog xM (k+1) 0 80 [.ro (l.map (aw .i64))] []=ob (aK 8 l) fun r=>some (.own 1 1 r.length,[.rows 0 [] 0 true,.rows 1 (r.map (aw .i64)) 1 true]):=by
 have h:evF Tryz.prog xM (k+1) 0 80 [.ro (l.map (aw .i64))] []=kg Tryz.prog 53 [.ro (l.map (aw .i64))] []:=by kernel_rfl
 rw [h]
 exact kC (P:=Tryz.prog) (t:=53) (e:=3) (sz:=1) (bytes:=8) (enc:=(aw .i64)) (by kernel_rfl) ⟨(fC Tryz.prog 3).getD default,by kernel_rfl,by kernel_rfl,by kernel_rfl⟩ (by kernel_rfl) (by kernel_rfl) (by kernel_rfl) (fun _=>rfl) l
theorem Mn (k:Nat) (l:List Int):xC (k+1) none 80 [.ro (List.map (aw .i64) l)]=ob (aK 8 l) fun r=>some (.ro (List.map (aw .i64) r),[]):=by
 rw [aD,Kw]
 exact gW (fun _=>rfl) l 1
theorem Cm (k:Nat) (l:List Int):xC (k+1) (some fun _=>true) 80 [.ro (List.map (aw .i64) l)]=ob (aK 8 l) fun r=>some (.own 0 0 r.length,[.rows 1 (List.map (aw .i64) r) 0 true]):=by
 rw [aD,Kw]
 exact ig (fun _=>rfl) l 1
theorem FK (k:Nat) (l:Tyt):evF Tryz.prog xM (k+1) 0 102 [.ro (l.map ak)] []=ob (aK 32 l) fun r=>some (.own 1 1 r.length,[.rows 0 [] 0 true,.rows 2 (r.map ak) 1 true]):=by
 have h:evF Tryz.prog xM (k+1) 0 102 [.ro (l.map ak)] []=kg Tryz.prog 24 [.ro (l.map ak)] []:=by kernel_rfl
 rw [h]
 exact kC (P:=Tryz.prog) (t:=24) (e:=101) (sz:=2) (bytes:=32) (enc:=ak) (by kernel_rfl) ⟨(fC Tryz.prog 101).getD default,by kernel_rfl,by kernel_rfl,by kernel_rfl⟩ (by kernel_rfl) (by kernel_rfl) (by kernel_rfl) (fun _=>rfl) l
theorem C8 (k:Nat) (l:Tyt):xC (k+1) none 102 [.ro (List.map ak l)]=ob (aK 32 l) fun r=>some (.ro (List.map ak r),[]):=by
 rw [aD,FK]
 exact gW mt l 2
theorem ut (k:Nat) (l:Tyt):xC (k+1) (some fun _=>true) 102 [.ro (List.map ak l)]=ob (aK 32 l) fun r=>some (.own 0 0 r.length,[.rows 2 (List.map ak r) 0 true]):=by
 rw [aD,FK]
 exact ig mt l 2
theorem Ni (k:Nat):xC (k+1) none 76 [.nil]=some (.ro [],[]):=by kernel_rfl
theorem Dc (k:Nat):xC (k+1) (some fun _=>true) 76 [.nil]=some (.own 0 0 0,[.rows 1 [] 0 true]):=by kernel_rfl
theorem Mq (k:Nat):xC (k+1) none 77 [.nil]=some (.ro [],[]):=by kernel_rfl
theorem Da (k:Nat):xC (k+1) (some fun _=>true) 77 [.nil]=some (.own 0 0 0,[.rows 11 [] 0 true]):=by kernel_rfl
theorem M9 (k:Nat):xC (k+1) none 78 [.nil]=some (.ro [],[]):=by kernel_rfl
theorem C0 (k:Nat):xC (k+1) (some fun _=>true) 78 [.nil]=some (.own 0 0 0,[.rows 9 [] 0 true]):=by kernel_rfl
theorem Mf (k:Nat):xC (k+1) none 79 [.nil]=some (.ro [],[]):=by kernel_rfl
theorem Cc (k:Nat):xC (k+1) (some fun _=>true) 79 [.nil]=some (.own 0 0 0,[.rows 3 [] 0 true]):=by kernel_rfl
theorem NA (k:Nat):xC (k+1) none 80 [.nil]=some (.ro [],[]):=by kernel_rfl
theorem CL (k:Nat):xC (k+1) (some fun _=>true) 80 [.nil]=some (.own 0 0 0,[.rows 1 [] 0 true]):=by kernel_rfl
theorem Dp (k:Nat):xC (k+1) none 102 [.nil]=some (.ro [],[]):=by kernel_rfl
theorem uh (k:Nat):xC (k+1) (some fun _=>true) 102 [.nil]=some (.own 0 0 0,[.rows 2 [] 0 true]):=by kernel_rfl
theorem C3 {k id g len:Nat} {a b:Int} {H:Hp}:evF Tryz.prog xM (k+1) 0 62 [.own id g len,.lit (.int .i64 a),.lit (.int .i64 b)] H=dlB id g len a b H H[id]? := by
 rw [ZK (by rfl),XU]
def xQ0:=PLift.up (aI (aI (aI (aI (aI (aI @xF @Cj) @Dk) (aI @Cr @Cs)) (aI (aI (aI @abM @ow) @Cd) (aI @NC @xR.eq_1))) (aI (aI (aI (aI @xA.eq_1 @MD) @Cu) (aI @LQ @Dq)) (aI (aI @Nl @CM) (aI @Mi @C7)))) (aI (aI (aI (aI (aI @Mn @Cm) @C8) (aI @ut @Ni)) (aI (aI @Dc @Mq) (aI @Da @M9))) (aI (aI (aI (aI @C0 @Mf) @Cc) (aI @NA @CL)) (aI (aI @Dp @uh) (aI @C3 @oi)))))
theorem xQ:type_of% xQ0.down:=xQ0.down
end Go.Ab
