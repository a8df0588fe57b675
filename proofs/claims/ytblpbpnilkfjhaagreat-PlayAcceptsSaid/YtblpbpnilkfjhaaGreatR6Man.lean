import Derived.Test.YtblpbpnilkfjhaaGreatR6Run
import Derived.Test.YtblpbpnilkfjhaaGreatR6Facts
set_option linter.unusedVariables false
set_option linter.unusedSimpArgs false
namespace Go.Ab
open Go.Proofs
theorem L3 (k:Nat) (l:List Int):evF Tryz.prog xM (k+1) 0 76 [.ro (l.map (av .u64))] []=ob (aN 8 l) fun r=>some (.own 1 1 r.length,[.rows 0 [] 0 true,.rows 1 (r.map (av .u64)) 1 true]):=by
 have h:evF Tryz.prog xM (k+1) 0 76 [.ro (l.map (av .u64))] []=lE Tryz.prog 26 [.ro (l.map (av .u64))] []:=by kernel_rfl
 rw [h]
 exact lY (P:=Tryz.prog) (t:=26) (e:=46) (sz:=1) (bytes:=8) (enc:=(av .u64)) (by kernel_rfl) ⟨(fN Tryz.prog 46).getD default,by kernel_rfl,by kernel_rfl,by kernel_rfl⟩ (by kernel_rfl) (by kernel_rfl) (by kernel_rfl) (fun _=>rfl) l
theorem oe (k:Nat) (l:List Int):xC (k+1) none 76 [.ro (List.map (av .u64) l)]=ob (aN 8 l) fun r=>some (.ro (List.map (av .u64) r),[]):=by
 rw [aD,L3]
 exact ko (fun _=>rfl) l 1
theorem ik (k:Nat) (l:List Int):xC (k+1) (some fun _=>true) 76 [.ro (List.map (av .u64) l)]=ob (aN 8 l) fun r=>some (.own 0 0 r.length,[.rows 1 (List.map (av .u64) r) 0 true]):=by
 rw [aD,L3]
 exact iW (fun _=>rfl) l 1
theorem KM (k:Nat) (l:List Tyw):evF Tryz.prog xM (k+1) 0 77 [.ro (l.map aF)] []=ob (aN 104 l) fun r=>some (.own 1 1 r.length,[.rows 0 [] 0 true,.rows 11 (r.map aF) 1 true]):=by
 have h:evF Tryz.prog xM (k+1) 0 77 [.ro (l.map aF)] []=lE Tryz.prog 27 [.ro (l.map aF)] []:=by kernel_rfl
 rw [h]
 exact lY (P:=Tryz.prog) (t:=27) (e:=65) (sz:=11) (bytes:=104) (enc:=aF) (by kernel_rfl) ⟨(fN Tryz.prog 65).getD default,by kernel_rfl,by kernel_rfl,by kernel_rfl⟩ (by kernel_rfl) (by kernel_rfl) (by kernel_rfl) (fun _=>rfl) l
theorem ot (k:Nat) (l:List Tyw):xC (k+1) none 77 [.ro (List.map aF l)]=ob (aN 104 l) fun r=>some (.ro (List.map aF r),[]):=by
 rw [aD,KM]
 exact ko lS l 11
theorem gZ (k:Nat) (l:List Tyw):xC (k+1) (some fun _=>true) 77 [.ro (List.map aF l)]=ob (aN 104 l) fun r=>some (.own 0 0 r.length,[.rows 11 (List.map aF r) 0 true]):=by
 rw [aD,KM]
 exact iW lS l 11
theorem Ml (k:Nat) (l:List Tys):evF Tryz.prog xM (k+1) 0 78 [.ro (l.map bn)] []=ob (aN 88 l) fun r=>some (.own 1 1 r.length,[.rows 0 [] 0 true,.rows 9 (r.map bn) 1 true]):=by
 have h:evF Tryz.prog xM (k+1) 0 78 [.ro (l.map bn)] []=lE Tryz.prog 28 [.ro (l.map bn)] []:=by kernel_rfl
 rw [h]
 exact lY (P:=Tryz.prog) (t:=28) (e:=57) (sz:=9) (bytes:=88) (enc:=bn) (by kernel_rfl) ⟨(fN Tryz.prog 57).getD default,by kernel_rfl,by kernel_rfl,by kernel_rfl⟩ (by kernel_rfl) (by kernel_rfl) (by kernel_rfl) (fun _=>rfl) l
theorem oB (k:Nat) (l:List Tys):xC (k+1) none 78 [.ro (List.map bn l)]=ob (aN 88 l) fun r=>some (.ro (List.map bn r),[]):=by
 rw [aD,Ml]
 exact ko nv l 9
theorem iH (k:Nat) (l:List Tys):xC (k+1) (some fun _=>true) 78 [.ro (List.map bn l)]=ob (aN 88 l) fun r=>some (.own 0 0 r.length,[.rows 9 (List.map bn r) 0 true]):=by
 rw [aD,Ml]
 exact iW nv l 9
theorem KN (k:Nat) (l:Tye):evF Tryz.prog xM (k+1) 0 79 [.ro (l.map az)] []=ob (aN 24 l) fun r=>some (.own 1 1 r.length,[.rows 0 [] 0 true,.rows 3 (r.map az) 1 true]):=by
 have h:evF Tryz.prog xM (k+1) 0 79 [.ro (l.map az)] []=lE Tryz.prog 63 [.ro (l.map az)] []:=by kernel_rfl
 rw [h]
 exact lY (P:=Tryz.prog) (t:=63) (e:=129) (sz:=3) (bytes:=24) (enc:=az) (by kernel_rfl) ⟨(fN Tryz.prog 129).getD default,by kernel_rfl,by kernel_rfl,by kernel_rfl⟩ (by kernel_rfl) (by kernel_rfl) (by kernel_rfl) (fun _=>rfl) l
theorem oa (k:Nat) (l:Tye):xC (k+1) none 79 [.ro (List.map az l)]=ob (aN 24 l) fun r=>some (.ro (List.map az r),[]):=by
 rw [aD,KN]
 exact ko (fun _=>rfl) l 3
theorem iq (k:Nat) (l:Tye):xC (k+1) (some fun _=>true) 79 [.ro (List.map az l)]=ob (aN 24 l) fun r=>some (.own 0 0 r.length,[.rows 3 (List.map az r) 0 true]):=by
 rw [aD,KN]
 exact iW (fun _=>rfl) l 3
theorem L9 (k:Nat) (l:List Int):evF Tryz.prog xM (k+1) 0 80 [.ro (l.map (av .i64))] []=ob (aN 8 l) fun r=>some (.own 1 1 r.length,[.rows 0 [] 0 true,.rows 1 (r.map (av .i64)) 1 true]):=by
 have h:evF Tryz.prog xM (k+1) 0 80 [.ro (l.map (av .i64))] []=lE Tryz.prog 53 [.ro (l.map (av .i64))] []:=by kernel_rfl
 rw [h]
 exact lY (P:=Tryz.prog) (t:=53) (e:=3) (sz:=1) (bytes:=8) (enc:=(av .i64)) (by kernel_rfl) ⟨(fN Tryz.prog 3).getD default,by kernel_rfl,by kernel_rfl,by kernel_rfl⟩ (by kernel_rfl) (by kernel_rfl) (by kernel_rfl) (fun _=>rfl) l
theorem oj (k:Nat) (l:List Int):xC (k+1) none 80 [.ro (List.map (av .i64) l)]=ob (aN 8 l) fun r=>some (.ro (List.map (av .i64) r),[]):=by
 rw [aD,L9]
 exact ko (fun _=>rfl) l 1
theorem iu (k:Nat) (l:List Int):xC (k+1) (some fun _=>true) 80 [.ro (List.map (av .i64) l)]=ob (aN 8 l) fun r=>some (.own 0 0 r.length,[.rows 1 (List.map (av .i64) r) 0 true]):=by
 rw [aD,L9]
 exact iW (fun _=>rfl) l 1
theorem Gl (k:Nat) (l:Tyt):evF Tryz.prog xM (k+1) 0 102 [.ro (l.map ak)] []=ob (aN 32 l) fun r=>some (.own 1 1 r.length,[.rows 0 [] 0 true,.rows 2 (r.map ak) 1 true]):=by
 have h:evF Tryz.prog xM (k+1) 0 102 [.ro (l.map ak)] []=lE Tryz.prog 24 [.ro (l.map ak)] []:=by kernel_rfl
 rw [h]
 exact lY (P:=Tryz.prog) (t:=24) (e:=101) (sz:=2) (bytes:=32) (enc:=ak) (by kernel_rfl) ⟨(fN Tryz.prog 101).getD default,by kernel_rfl,by kernel_rfl,by kernel_rfl⟩ (by kernel_rfl) (by kernel_rfl) (by kernel_rfl) (fun _=>rfl) l
theorem iP (k:Nat) (l:Tyt):xC (k+1) none 102 [.ro (List.map ak l)]=ob (aN 32 l) fun r=>some (.ro (List.map ak r),[]):=by
 rw [aD,Gl]
 exact ko nr l 2
theorem eZ (k:Nat) (l:Tyt):xC (k+1) (some fun _=>true) 102 [.ro (List.map ak l)]=ob (aN 32 l) fun r=>some (.own 0 0 r.length,[.rows 2 (List.map ak r) 0 true]):=by
 rw [aD,Gl]
 exact iW nr l 2
theorem oq (k:Nat):xC (k+1) none 76 [.nil]=some (.ro [],[]):=by kernel_rfl
theorem ij (k:Nat):xC (k+1) (some fun _=>true) 76 [.nil]=some (.own 0 0 0,[.rows 1 [] 0 true]):=by kernel_rfl
theorem nW (k:Nat):xC (k+1) none 77 [.nil]=some (.ro [],[]):=by kernel_rfl
theorem gY (k:Nat):xC (k+1) (some fun _=>true) 77 [.nil]=some (.own 0 0 0,[.rows 11 [] 0 true]):=by kernel_rfl
theorem nR (k:Nat):xC (k+1) none 78 [.nil]=some (.ro [],[]):=by kernel_rfl
theorem iA (k:Nat):xC (k+1) (some fun _=>true) 78 [.nil]=some (.own 0 0 0,[.rows 9 [] 0 true]):=by kernel_rfl
theorem nO (k:Nat):xC (k+1) none 79 [.nil]=some (.ro [],[]):=by kernel_rfl
theorem io (k:Nat):xC (k+1) (some fun _=>true) 79 [.nil]=some (.own 0 0 0,[.rows 3 [] 0 true]):=by kernel_rfl
theorem ov (k:Nat):xC (k+1) none 80 [.nil]=some (.ro [],[]):=by kernel_rfl
theorem ir (k:Nat):xC (k+1) (some fun _=>true) 80 [.nil]=some (.own 0 0 0,[.rows 1 [] 0 true]):=by kernel_rfl
theorem iG (k:Nat):xC (k+1) none 102 [.nil]=some (.ro [],[]):=by kernel_rfl
theorem eQ (k:Nat):xC (k+1) (some fun _=>true) 102 [.nil]=some (.own 0 0 0,[.rows 2 [] 0 true]):=by kernel_rfl
theorem iF {k id g len:Nat} {a b:Int} {H:Hp}:evF Tryz.prog xM (k+1) 0 62 [.own id g len,.lit (.int .i64 a),.lit (.int .i64 b)] H=dlB id g len a b H H[id]? := by
 rw [ZM (by rfl),Zs]
def xQ0:=PLift.up (aI (aI (aI (aI (aI (aI @xF @iN) @iQ) (aI @iw @iD)) (aI (aI (aI @FB @dh) @gX) (aI @nP @xR.eq_1))) (aI (aI (aI (aI @xA.eq_1 @oe) @ik) (aI @ot @gZ)) (aI (aI @oB @iH) (aI @oa @iq)))) (aI (aI (aI (aI (aI @oj @iu) @iP) (aI @eZ @oq)) (aI (aI @ij @nW) (aI @gY @nR))) (aI (aI (aI (aI @iA @nO) @io) (aI @ov @ir)) (aI (aI @iG @eQ) (aI @iF @di)))))
theorem xQ:type_of% xQ0.down:=xQ0.down
end Go.Ab
