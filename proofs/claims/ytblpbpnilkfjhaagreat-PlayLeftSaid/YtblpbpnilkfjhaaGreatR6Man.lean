import Derived.Test.YtblpbpnilkfjhaaGreatR6Run
import Derived.Test.YtblpbpnilkfjhaaGreatR6Facts
set_option linter.unusedVariables false
set_option linter.unusedSimpArgs false
namespace Go.Ab
open Go.Proofs
theorem J0 (k:Nat) (l:List Int):evF Tryz.prog xM (k+1) 0 76 [.ro (l.map (aw .u64))] []=ob (aK 8 l) fun r=>some (.own 1 1 r.length,[.rows 0 [] 0 true,.rows 1 (r.map (aw .u64)) 1 true]):=by
 have h:evF Tryz.prog xM (k+1) 0 76 [.ro (l.map (aw .u64))] []=ki Tryz.prog 26 [.ro (l.map (aw .u64))] []:=by kernel_rfl
 rw [h]
 exact kw (P:=Tryz.prog) (t:=26) (e:=46) (sz:=1) (bytes:=8) (enc:=(aw .u64)) (by kernel_rfl) ⟨(fB Tryz.prog 46).getD default,by kernel_rfl,by kernel_rfl,by kernel_rfl⟩ (by kernel_rfl) (by kernel_rfl) (by kernel_rfl) (fun _=>rfl) l
theorem MG (k:Nat) (l:List Int):xC (k+1) none 76 [.ro (List.map (aw .u64) l)]=ob (aK 8 l) fun r=>some (.ro (List.map (aw .u64) r),[]):=by
 rw [aD,J0]
 exact ik (fun _=>rfl) l 1
theorem CZ (k:Nat) (l:List Int):xC (k+1) (some fun _=>true) 76 [.ro (List.map (aw .u64) l)]=ob (aK 8 l) fun r=>some (.own 0 0 r.length,[.rows 1 (List.map (aw .u64) r) 0 true]):=by
 rw [aD,J0]
 exact ib (fun _=>rfl) l 1
theorem JZ (k:Nat) (l:List Tyw):evF Tryz.prog xM (k+1) 0 77 [.ro (l.map aC)] []=ob (aK 104 l) fun r=>some (.own 1 1 r.length,[.rows 0 [] 0 true,.rows 11 (r.map aC) 1 true]):=by
 have h:evF Tryz.prog xM (k+1) 0 77 [.ro (l.map aC)] []=ki Tryz.prog 27 [.ro (l.map aC)] []:=by kernel_rfl
 rw [h]
 exact kw (P:=Tryz.prog) (t:=27) (e:=65) (sz:=11) (bytes:=104) (enc:=aC) (by kernel_rfl) ⟨(fB Tryz.prog 65).getD default,by kernel_rfl,by kernel_rfl,by kernel_rfl⟩ (by kernel_rfl) (by kernel_rfl) (by kernel_rfl) (fun _=>rfl) l
theorem LV (k:Nat) (l:List Tyw):xC (k+1) none 77 [.ro (List.map aC l)]=ob (aK 104 l) fun r=>some (.ro (List.map aC r),[]):=by
 rw [aD,JZ]
 exact ik kL l 11
theorem Da (k:Nat) (l:List Tyw):xC (k+1) (some fun _=>true) 77 [.ro (List.map aC l)]=ob (aK 104 l) fun r=>some (.own 0 0 r.length,[.rows 11 (List.map aC r) 0 true]):=by
 rw [aD,JZ]
 exact ib kL l 11
theorem KC (k:Nat) (l:List Tys):evF Tryz.prog xM (k+1) 0 78 [.ro (l.map bh)] []=ob (aK 88 l) fun r=>some (.own 1 1 r.length,[.rows 0 [] 0 true,.rows 9 (r.map bh) 1 true]):=by
 have h:evF Tryz.prog xM (k+1) 0 78 [.ro (l.map bh)] []=ki Tryz.prog 28 [.ro (l.map bh)] []:=by kernel_rfl
 rw [h]
 exact kw (P:=Tryz.prog) (t:=28) (e:=57) (sz:=9) (bytes:=88) (enc:=bh) (by kernel_rfl) ⟨(fB Tryz.prog 57).getD default,by kernel_rfl,by kernel_rfl,by kernel_rfl⟩ (by kernel_rfl) (by kernel_rfl) (by kernel_rfl) (fun _=>rfl) l
theorem Ng (k:Nat) (l:List Tys):xC (k+1) none 78 [.ro (List.map bh l)]=ob (aK 88 l) fun r=>some (.ro (List.map bh r),[]):=by
 rw [aD,KC]
 exact ik my l 9
theorem Dd (k:Nat) (l:List Tys):xC (k+1) (some fun _=>true) 78 [.ro (List.map bh l)]=ob (aK 88 l) fun r=>some (.own 0 0 r.length,[.rows 9 (List.map bh r) 0 true]):=by
 rw [aD,KC]
 exact ib my l 9
theorem J3 (k:Nat) (l:Tye):evF Tryz.prog xM (k+1) 0 79 [.ro (l.map aB)] []=ob (aK 24 l) fun r=>some (.own 1 1 r.length,[.rows 0 [] 0 true,.rows 3 (r.map aB) 1 true]):=by
 have h:evF Tryz.prog xM (k+1) 0 79 [.ro (l.map aB)] []=ki Tryz.prog 63 [.ro (l.map aB)] []:=by kernel_rfl
 rw [h]
 exact kw (P:=Tryz.prog) (t:=63) (e:=129) (sz:=3) (bytes:=24) (enc:=aB) (by kernel_rfl) ⟨(fB Tryz.prog 129).getD default,by kernel_rfl,by kernel_rfl,by kernel_rfl⟩ (by kernel_rfl) (by kernel_rfl) (by kernel_rfl) (fun _=>rfl) l
theorem MB (k:Nat) (l:Tye):xC (k+1) none 79 [.ro (List.map aB l)]=ob (aK 24 l) fun r=>some (.ro (List.map aB r),[]):=by
 rw [aD,J3]
 exact ik (fun _=>rfl) l 3
theorem Ci (k:Nat) (l:Tye):xC (k+1) (some fun _=>true) 79 [.ro (List.map aB l)]=ob (aK 24 l) fun r=>some (.own 0 0 r.length,[.rows 3 (List.map aB r) 0 true]):=by
 rw [aD,J3]
 exact ib (fun _=>rfl) l 3
theorem Lr (k:Nat) (l:List Int):evF Tryz.prog xM (k+1) 0 80 [.ro (l.map (aw .i64))] []=ob (aK 8 l) fun r=>some (.own 1 1 r.length,[.rows 0 [] 0 true,.rows 1 (r.map (aw .i64)) 1 true]):=by
 have h:evF Tryz.prog xM (k+1) 0 80 [.ro (l.map (aw .i64))] []=ki Tryz.prog 53 [.ro (l.map (aw .i64))] []:=by kernel_rfl
 rw [h]
 exact kw (P:=Tryz.prog) (t:=53) (e:=3) (sz:=1) (bytes:=8) (enc:=(aw .i64)) (by kernel_rfl) ⟨(fB Tryz.prog 3).getD default,by kernel_rfl,by kernel_rfl,by kernel_rfl⟩ (by kernel_rfl) (by kernel_rfl) (by kernel_rfl) (fun _=>rfl) l
theorem ML (k:Nat) (l:List Int):xC (k+1) none 80 [.ro (List.map (aw .i64) l)]=ob (aK 8 l) fun r=>some (.ro (List.map (aw .i64) r),[]):=by
 rw [aD,Lr]
 exact ik (fun _=>rfl) l 1
theorem CR (k:Nat) (l:List Int):xC (k+1) (some fun _=>true) 80 [.ro (List.map (aw .i64) l)]=ob (aK 8 l) fun r=>some (.own 0 0 r.length,[.rows 1 (List.map (aw .i64) r) 0 true]):=by
 rw [aD,Lr]
 exact ib (fun _=>rfl) l 1
theorem Hi (k:Nat) (l:Tyt):evF Tryz.prog xM (k+1) 0 102 [.ro (l.map ak)] []=ob (aK 32 l) fun r=>some (.own 1 1 r.length,[.rows 0 [] 0 true,.rows 2 (r.map ak) 1 true]):=by
 have h:evF Tryz.prog xM (k+1) 0 102 [.ro (l.map ak)] []=ki Tryz.prog 24 [.ro (l.map ak)] []:=by kernel_rfl
 rw [h]
 exact kw (P:=Tryz.prog) (t:=24) (e:=101) (sz:=2) (bytes:=32) (enc:=ak) (by kernel_rfl) ⟨(fB Tryz.prog 101).getD default,by kernel_rfl,by kernel_rfl,by kernel_rfl⟩ (by kernel_rfl) (by kernel_rfl) (by kernel_rfl) (fun _=>rfl) l
theorem CH (k:Nat) (l:Tyt):xC (k+1) none 102 [.ro (List.map ak l)]=ob (aK 32 l) fun r=>some (.ro (List.map ak r),[]):=by
 rw [aD,Hi]
 exact ik mi l 2
theorem uo (k:Nat) (l:Tyt):xC (k+1) (some fun _=>true) 102 [.ro (List.map ak l)]=ob (aK 32 l) fun r=>some (.own 0 0 r.length,[.rows 2 (List.map ak r) 0 true]):=by
 rw [aD,Hi]
 exact ib mi l 2
theorem Mv (k:Nat):xC (k+1) none 76 [.nil]=some (.ro [],[]):=by kernel_rfl
theorem Dp (k:Nat):xC (k+1) (some fun _=>true) 76 [.nil]=some (.own 0 0 0,[.rows 1 [] 0 true]):=by kernel_rfl
theorem Nb (k:Nat):xC (k+1) none 77 [.nil]=some (.ro [],[]):=by kernel_rfl
theorem Cy (k:Nat):xC (k+1) (some fun _=>true) 77 [.nil]=some (.own 0 0 0,[.rows 11 [] 0 true]):=by kernel_rfl
theorem MS (k:Nat):xC (k+1) none 78 [.nil]=some (.ro [],[]):=by kernel_rfl
theorem Cq (k:Nat):xC (k+1) (some fun _=>true) 78 [.nil]=some (.own 0 0 0,[.rows 9 [] 0 true]):=by kernel_rfl
theorem Mt (k:Nat):xC (k+1) none 79 [.nil]=some (.ro [],[]):=by kernel_rfl
theorem CK (k:Nat):xC (k+1) (some fun _=>true) 79 [.nil]=some (.own 0 0 0,[.rows 3 [] 0 true]):=by kernel_rfl
theorem MD (k:Nat):xC (k+1) none 80 [.nil]=some (.ro [],[]):=by kernel_rfl
theorem Cf (k:Nat):xC (k+1) (some fun _=>true) 80 [.nil]=some (.own 0 0 0,[.rows 1 [] 0 true]):=by kernel_rfl
theorem Dc (k:Nat):xC (k+1) none 102 [.nil]=some (.ro [],[]):=by kernel_rfl
theorem uI (k:Nat):xC (k+1) (some fun _=>true) 102 [.nil]=some (.own 0 0 0,[.rows 2 [] 0 true]):=by kernel_rfl
theorem Cm {k id g len:Nat} {a b:Int} {H:Hp}:evF Tryz.prog xM (k+1) 0 62 [.own id g len,.lit (.int .i64 a),.lit (.int .i64 b)] H=dlB id g len a b H H[id]? := by
 rw [aaU (by rfl),W8]
def xQ0:=PLift.up (aI (aI (aI (aI (aI (aI @xF @C6) @Dk) (aI @Cw @Dr)) (aI (aI (aI @abO @oi) @CM) (aI @Nr @xR.eq_1))) (aI (aI (aI (aI @xA.eq_1 @MG) @CZ) (aI @LV @Da)) (aI (aI @Ng @Dd) (aI @MB @Ci)))) (aI (aI (aI (aI (aI @ML @CR) @CH) (aI @uo @Mv)) (aI (aI @Dp @Nb) (aI @Cy @MS))) (aI (aI (aI (aI @Cq @Mt) @CK) (aI @MD @Cf)) (aI (aI @Dc @uI) (aI @Cm @om)))))
theorem xQ:type_of% xQ0.down:=xQ0.down
end Go.Ab
