import Derived.Test.YtblpbpnilkfjhaaGreatR6Run
import Derived.Test.YtblpbpnilkfjhaaGreatR6Facts
set_option linter.unusedVariables false
set_option linter.unusedSimpArgs false
namespace Go.Ab
open Go.Proofs
theorem LD (k:Nat) (l:List Int):evF Tryz.prog xM (k+1) 0 76 [.ro (l.map (av .u64))] []=ob (aN 8 l) fun r=>some (.own 1 1 r.length,[.rows 0 [] 0 true,.rows 1 (r.map (av .u64)) 1 true]):=by
 have h:evF Tryz.prog xM (k+1) 0 76 [.ro (l.map (av .u64))] []=lF Tryz.prog 26 [.ro (l.map (av .u64))] []:=by kernel_rfl
 rw [h]
 exact lV (P:=Tryz.prog) (t:=26) (e:=46) (sz:=1) (bytes:=8) (enc:=(av .u64)) (by kernel_rfl) ⟨(fM Tryz.prog 46).getD default,by kernel_rfl,by kernel_rfl,by kernel_rfl⟩ (by kernel_rfl) (by kernel_rfl) (by kernel_rfl) (fun _=>rfl) l
theorem oh (k:Nat) (l:List Int):xC (k+1) none 76 [.ro (List.map (av .u64) l)]=ob (aN 8 l) fun r=>some (.ro (List.map (av .u64) r),[]):=by
 rw [aD,LD]
 exact kv (fun _=>rfl) l 1
theorem gX (k:Nat) (l:List Int):xC (k+1) (some fun _=>true) 76 [.ro (List.map (av .u64) l)]=ob (aN 8 l) fun r=>some (.own 0 0 r.length,[.rows 1 (List.map (av .u64) r) 0 true]):=by
 rw [aD,LD]
 exact i7 (fun _=>rfl) l 1
theorem KB (k:Nat) (l:List Tyw):evF Tryz.prog xM (k+1) 0 77 [.ro (l.map aF)] []=ob (aN 104 l) fun r=>some (.own 1 1 r.length,[.rows 0 [] 0 true,.rows 11 (r.map aF) 1 true]):=by
 have h:evF Tryz.prog xM (k+1) 0 77 [.ro (l.map aF)] []=lF Tryz.prog 27 [.ro (l.map aF)] []:=by kernel_rfl
 rw [h]
 exact lV (P:=Tryz.prog) (t:=27) (e:=65) (sz:=11) (bytes:=104) (enc:=aF) (by kernel_rfl) ⟨(fM Tryz.prog 65).getD default,by kernel_rfl,by kernel_rfl,by kernel_rfl⟩ (by kernel_rfl) (by kernel_rfl) (by kernel_rfl) (fun _=>rfl) l
theorem oA (k:Nat) (l:List Tyw):xC (k+1) none 77 [.ro (List.map aF l)]=ob (aN 104 l) fun r=>some (.ro (List.map aF r),[]):=by
 rw [aD,KB]
 exact kv l8 l 11
theorem iD (k:Nat) (l:List Tyw):xC (k+1) (some fun _=>true) 77 [.ro (List.map aF l)]=ob (aN 104 l) fun r=>some (.own 0 0 r.length,[.rows 11 (List.map aF r) 0 true]):=by
 rw [aD,KB]
 exact i7 l8 l 11
theorem KY (k:Nat) (l:List Tys):evF Tryz.prog xM (k+1) 0 78 [.ro (l.map bn)] []=ob (aN 88 l) fun r=>some (.own 1 1 r.length,[.rows 0 [] 0 true,.rows 9 (r.map bn) 1 true]):=by
 have h:evF Tryz.prog xM (k+1) 0 78 [.ro (l.map bn)] []=lF Tryz.prog 28 [.ro (l.map bn)] []:=by kernel_rfl
 rw [h]
 exact lV (P:=Tryz.prog) (t:=28) (e:=57) (sz:=9) (bytes:=88) (enc:=bn) (by kernel_rfl) ⟨(fM Tryz.prog 57).getD default,by kernel_rfl,by kernel_rfl,by kernel_rfl⟩ (by kernel_rfl) (by kernel_rfl) (by kernel_rfl) (fun _=>rfl) l
theorem oj (k:Nat) (l:List Tys):xC (k+1) none 78 [.ro (List.map bn l)]=ob (aN 88 l) fun r=>some (.ro (List.map bn r),[]):=by
 rw [aD,KY]
 exact kv m7 l 9
theorem iy (k:Nat) (l:List Tys):xC (k+1) (some fun _=>true) 78 [.ro (List.map bn l)]=ob (aN 88 l) fun r=>some (.own 0 0 r.length,[.rows 9 (List.map bn r) 0 true]):=by
 rw [aD,KY]
 exact i7 m7 l 9
theorem LJ (k:Nat) (l:Tye):evF Tryz.prog xM (k+1) 0 79 [.ro (l.map az)] []=ob (aN 24 l) fun r=>some (.own 1 1 r.length,[.rows 0 [] 0 true,.rows 3 (r.map az) 1 true]):=by
 have h:evF Tryz.prog xM (k+1) 0 79 [.ro (l.map az)] []=lF Tryz.prog 63 [.ro (l.map az)] []:=by kernel_rfl
 rw [h]
 exact lV (P:=Tryz.prog) (t:=63) (e:=129) (sz:=3) (bytes:=24) (enc:=az) (by kernel_rfl) ⟨(fM Tryz.prog 129).getD default,by kernel_rfl,by kernel_rfl,by kernel_rfl⟩ (by kernel_rfl) (by kernel_rfl) (by kernel_rfl) (fun _=>rfl) l
theorem og (k:Nat) (l:Tye):xC (k+1) none 79 [.ro (List.map az l)]=ob (aN 24 l) fun r=>some (.ro (List.map az r),[]):=by
 rw [aD,LJ]
 exact kv (fun _=>rfl) l 3
theorem ii (k:Nat) (l:Tye):xC (k+1) (some fun _=>true) 79 [.ro (List.map az l)]=ob (aN 24 l) fun r=>some (.own 0 0 r.length,[.rows 3 (List.map az r) 0 true]):=by
 rw [aD,LJ]
 exact i7 (fun _=>rfl) l 3
theorem LE (k:Nat) (l:List Int):evF Tryz.prog xM (k+1) 0 80 [.ro (l.map (av .i64))] []=ob (aN 8 l) fun r=>some (.own 1 1 r.length,[.rows 0 [] 0 true,.rows 1 (r.map (av .i64)) 1 true]):=by
 have h:evF Tryz.prog xM (k+1) 0 80 [.ro (l.map (av .i64))] []=lF Tryz.prog 53 [.ro (l.map (av .i64))] []:=by kernel_rfl
 rw [h]
 exact lV (P:=Tryz.prog) (t:=53) (e:=3) (sz:=1) (bytes:=8) (enc:=(av .i64)) (by kernel_rfl) ⟨(fM Tryz.prog 3).getD default,by kernel_rfl,by kernel_rfl,by kernel_rfl⟩ (by kernel_rfl) (by kernel_rfl) (by kernel_rfl) (fun _=>rfl) l
theorem oi (k:Nat) (l:List Int):xC (k+1) none 80 [.ro (List.map (av .i64) l)]=ob (aN 8 l) fun r=>some (.ro (List.map (av .i64) r),[]):=by
 rw [aD,LE]
 exact kv (fun _=>rfl) l 1
theorem iP (k:Nat) (l:List Int):xC (k+1) (some fun _=>true) 80 [.ro (List.map (av .i64) l)]=ob (aN 8 l) fun r=>some (.own 0 0 r.length,[.rows 1 (List.map (av .i64) r) 0 true]):=by
 rw [aD,LE]
 exact i7 (fun _=>rfl) l 1
theorem Gs (k:Nat) (l:Tyt):evF Tryz.prog xM (k+1) 0 102 [.ro (l.map ak)] []=ob (aN 32 l) fun r=>some (.own 1 1 r.length,[.rows 0 [] 0 true,.rows 2 (r.map ak) 1 true]):=by
 have h:evF Tryz.prog xM (k+1) 0 102 [.ro (l.map ak)] []=lF Tryz.prog 24 [.ro (l.map ak)] []:=by kernel_rfl
 rw [h]
 exact lV (P:=Tryz.prog) (t:=24) (e:=101) (sz:=2) (bytes:=32) (enc:=ak) (by kernel_rfl) ⟨(fM Tryz.prog 101).getD default,by kernel_rfl,by kernel_rfl,by kernel_rfl⟩ (by kernel_rfl) (by kernel_rfl) (by kernel_rfl) (fun _=>rfl) l
theorem ir (k:Nat) (l:Tyt):xC (k+1) none 102 [.ro (List.map ak l)]=ob (aN 32 l) fun r=>some (.ro (List.map ak r),[]):=by
 rw [aD,Gs]
 exact kv np l 2
theorem eJ (k:Nat) (l:Tyt):xC (k+1) (some fun _=>true) 102 [.ro (List.map ak l)]=ob (aN 32 l) fun r=>some (.own 0 0 r.length,[.rows 2 (List.map ak r) 0 true]):=by
 rw [aD,Gs]
 exact i7 np l 2
theorem oB (k:Nat):xC (k+1) none 76 [.nil]=some (.ro [],[]):=by kernel_rfl
theorem iC (k:Nat):xC (k+1) (some fun _=>true) 76 [.nil]=some (.own 0 0 0,[.rows 1 [] 0 true]):=by kernel_rfl
theorem nN (k:Nat):xC (k+1) none 77 [.nil]=some (.ro [],[]):=by kernel_rfl
theorem gV (k:Nat):xC (k+1) (some fun _=>true) 77 [.nil]=some (.own 0 0 0,[.rows 11 [] 0 true]):=by kernel_rfl
theorem oe (k:Nat):xC (k+1) none 78 [.nil]=some (.ro [],[]):=by kernel_rfl
theorem iB (k:Nat):xC (k+1) (some fun _=>true) 78 [.nil]=some (.own 0 0 0,[.rows 9 [] 0 true]):=by kernel_rfl
theorem ov (k:Nat):xC (k+1) none 79 [.nil]=some (.ro [],[]):=by kernel_rfl
theorem iu (k:Nat):xC (k+1) (some fun _=>true) 79 [.nil]=some (.own 0 0 0,[.rows 3 [] 0 true]):=by kernel_rfl
theorem oo (k:Nat):xC (k+1) none 80 [.nil]=some (.ro [],[]):=by kernel_rfl
theorem ig (k:Nat):xC (k+1) (some fun _=>true) 80 [.nil]=some (.own 0 0 0,[.rows 1 [] 0 true]):=by kernel_rfl
theorem iQ (k:Nat):xC (k+1) none 102 [.nil]=some (.ro [],[]):=by kernel_rfl
theorem eY (k:Nat):xC (k+1) (some fun _=>true) 102 [.nil]=some (.own 0 0 0,[.rows 2 [] 0 true]):=by kernel_rfl
theorem io {k id g len:Nat} {a b:Int} {H:Hp}:evF Tryz.prog xM (k+1) 0 62 [.own id g len,.lit (.int .i64 a),.lit (.int .i64 b)] H=dlB id g len a b H H[id]? := by
 rw [Yg (by rfl),aaZ]
def xQ0:=PLift.up (aI (aI (aI (aI (aI (aI @xF @ip) @iF) (aI @iw @gU)) (aI (aI (aI @EH @dh) @iN) (aI @nY @xR.eq_1))) (aI (aI (aI (aI @xA.eq_1 @oh) @gX) (aI @oA @iD)) (aI (aI @oj @iy) (aI @og @ii)))) (aI (aI (aI (aI (aI @oi @iP) @ir) (aI @eJ @oB)) (aI (aI @iC @nN) (aI @gV @oe))) (aI (aI (aI (aI @iB @ov) @iu) (aI @oo @ig)) (aI (aI @iQ @eY) (aI @io @cZ)))))
theorem xQ:type_of% xQ0.down:=xQ0.down
end Go.Ab
