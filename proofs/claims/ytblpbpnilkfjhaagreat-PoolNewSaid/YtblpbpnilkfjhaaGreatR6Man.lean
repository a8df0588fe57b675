import Derived.Test.YtblpbpnilkfjhaaGreatR6Run
import Derived.Test.YtblpbpnilkfjhaaGreatR6Facts
set_option linter.unusedVariables false
set_option linter.unusedSimpArgs false
namespace Go.Ab
open Go.Proofs
theorem Fs (k:Nat) (l:List Int):evF Tryz.prog xM (k+1) 0 76 [.ro (l.map (aF .u64))] []=ob (aQ 8 l) fun r=>some (.own 1 1 r.length,[.rows 0 [] 0 true,.rows 1 (r.map (aF .u64)) 1 true]):=by
 have h:evF Tryz.prog xM (k+1) 0 76 [.ro (l.map (aF .u64))] []=fS Tryz.prog 26 [.ro (l.map (aF .u64))] []:=by kernel_rfl
 rw [h]
 exact gl (P:=Tryz.prog) (t:=26) (e:=46) (sz:=1) (bytes:=8) (enc:=(aF .u64)) (by kernel_rfl) ⟨(en Tryz.prog 46).getD default,by kernel_rfl,by kernel_rfl,by kernel_rfl⟩ (by kernel_rfl) (by kernel_rfl) (by kernel_rfl) (fun _=>rfl) l
theorem aa9 (k:Nat) (l:List Int):xC (k+1) none 76 [.ro (List.map (aF .u64) l)]=ob (aQ 8 l) fun r=>some (.ro (List.map (aF .u64) r),[]):=by
 rw [aH,Fs]
 exact fu (fun _=>rfl) l 1
theorem W4 (k:Nat) (l:List Int):xC (k+1) (some fun _=>true) 76 [.ro (List.map (aF .u64) l)]=ob (aQ 8 l) fun r=>some (.own 0 0 r.length,[.rows 1 (List.map (aF .u64) r) 0 true]):=by
 rw [aH,Fs]
 exact fl (fun _=>rfl) l 1
theorem Eh (k:Nat) (l:List Tyw):evF Tryz.prog xM (k+1) 0 77 [.ro (l.map aU)] []=ob (aQ 104 l) fun r=>some (.own 1 1 r.length,[.rows 0 [] 0 true,.rows 11 (r.map aU) 1 true]):=by
 have h:evF Tryz.prog xM (k+1) 0 77 [.ro (l.map aU)] []=fS Tryz.prog 27 [.ro (l.map aU)] []:=by kernel_rfl
 rw [h]
 exact gl (P:=Tryz.prog) (t:=27) (e:=65) (sz:=11) (bytes:=104) (enc:=aU) (by kernel_rfl) ⟨(en Tryz.prog 65).getD default,by kernel_rfl,by kernel_rfl,by kernel_rfl⟩ (by kernel_rfl) (by kernel_rfl) (by kernel_rfl) (fun _=>rfl) l
theorem acM (k:Nat) (l:List Tyw):xC (k+1) none 77 [.ro (List.map aU l)]=ob (aQ 104 l) fun r=>some (.ro (List.map aU r),[]):=by
 rw [aH,Eh]
 exact fu f6 l 11
theorem XJ (k:Nat) (l:List Tyw):xC (k+1) (some fun _=>true) 77 [.ro (List.map aU l)]=ob (aQ 104 l) fun r=>some (.own 0 0 r.length,[.rows 11 (List.map aU r) 0 true]):=by
 rw [aH,Eh]
 exact fl f6 l 11
theorem Eu (k:Nat) (l:List Tys):evF Tryz.prog xM (k+1) 0 78 [.ro (l.map cf)] []=ob (aQ 88 l) fun r=>some (.own 1 1 r.length,[.rows 0 [] 0 true,.rows 9 (r.map cf) 1 true]):=by
 have h:evF Tryz.prog xM (k+1) 0 78 [.ro (l.map cf)] []=fS Tryz.prog 28 [.ro (l.map cf)] []:=by kernel_rfl
 rw [h]
 exact gl (P:=Tryz.prog) (t:=28) (e:=57) (sz:=9) (bytes:=88) (enc:=cf) (by kernel_rfl) ⟨(en Tryz.prog 57).getD default,by kernel_rfl,by kernel_rfl,by kernel_rfl⟩ (by kernel_rfl) (by kernel_rfl) (by kernel_rfl) (fun _=>rfl) l
theorem aby (k:Nat) (l:List Tys):xC (k+1) none 78 [.ro (List.map cf l)]=ob (aQ 88 l) fun r=>some (.ro (List.map cf r),[]):=by
 rw [aH,Eu]
 exact fu ig l 9
theorem Ug (k:Nat) (l:List Tys):xC (k+1) (some fun _=>true) 78 [.ro (List.map cf l)]=ob (aQ 88 l) fun r=>some (.own 0 0 r.length,[.rows 9 (List.map cf r) 0 true]):=by
 rw [aH,Eu]
 exact fl ig l 9
theorem Ei (k:Nat) (l:Tye):evF Tryz.prog xM (k+1) 0 79 [.ro (l.map aS)] []=ob (aQ 24 l) fun r=>some (.own 1 1 r.length,[.rows 0 [] 0 true,.rows 3 (r.map aS) 1 true]):=by
 have h:evF Tryz.prog xM (k+1) 0 79 [.ro (l.map aS)] []=fS Tryz.prog 63 [.ro (l.map aS)] []:=by kernel_rfl
 rw [h]
 exact gl (P:=Tryz.prog) (t:=63) (e:=129) (sz:=3) (bytes:=24) (enc:=aS) (by kernel_rfl) ⟨(en Tryz.prog 129).getD default,by kernel_rfl,by kernel_rfl,by kernel_rfl⟩ (by kernel_rfl) (by kernel_rfl) (by kernel_rfl) (fun _=>rfl) l
theorem ZM (k:Nat) (l:Tye):xC (k+1) none 79 [.ro (List.map aS l)]=ob (aQ 24 l) fun r=>some (.ro (List.map aS r),[]):=by
 rw [aH,Ei]
 exact fu (fun _=>rfl) l 3
theorem Xu (k:Nat) (l:Tye):xC (k+1) (some fun _=>true) 79 [.ro (List.map aS l)]=ob (aQ 24 l) fun r=>some (.own 0 0 r.length,[.rows 3 (List.map aS r) 0 true]):=by
 rw [aH,Ei]
 exact fl (fun _=>rfl) l 3
theorem Ey (k:Nat) (l:List Int):evF Tryz.prog xM (k+1) 0 80 [.ro (l.map (aF .i64))] []=ob (aQ 8 l) fun r=>some (.own 1 1 r.length,[.rows 0 [] 0 true,.rows 1 (r.map (aF .i64)) 1 true]):=by
 have h:evF Tryz.prog xM (k+1) 0 80 [.ro (l.map (aF .i64))] []=fS Tryz.prog 53 [.ro (l.map (aF .i64))] []:=by kernel_rfl
 rw [h]
 exact gl (P:=Tryz.prog) (t:=53) (e:=3) (sz:=1) (bytes:=8) (enc:=(aF .i64)) (by kernel_rfl) ⟨(en Tryz.prog 3).getD default,by kernel_rfl,by kernel_rfl,by kernel_rfl⟩ (by kernel_rfl) (by kernel_rfl) (by kernel_rfl) (fun _=>rfl) l
theorem Zv (k:Nat) (l:List Int):xC (k+1) none 80 [.ro (List.map (aF .i64) l)]=ob (aQ 8 l) fun r=>some (.ro (List.map (aF .i64) r),[]):=by
 rw [aH,Ey]
 exact fu (fun _=>rfl) l 1
theorem XG (k:Nat) (l:List Int):xC (k+1) (some fun _=>true) 80 [.ro (List.map (aF .i64) l)]=ob (aQ 8 l) fun r=>some (.own 0 0 r.length,[.rows 1 (List.map (aF .i64) r) 0 true]):=by
 rw [aH,Ey]
 exact fl (fun _=>rfl) l 1
theorem Bh (k:Nat) (l:Tyt):evF Tryz.prog xM (k+1) 0 102 [.ro (l.map an)] []=ob (aQ 32 l) fun r=>some (.own 1 1 r.length,[.rows 0 [] 0 true,.rows 2 (r.map an) 1 true]):=by
 have h:evF Tryz.prog xM (k+1) 0 102 [.ro (l.map an)] []=fS Tryz.prog 24 [.ro (l.map an)] []:=by kernel_rfl
 rw [h]
 exact gl (P:=Tryz.prog) (t:=24) (e:=101) (sz:=2) (bytes:=32) (enc:=an) (by kernel_rfl) ⟨(en Tryz.prog 101).getD default,by kernel_rfl,by kernel_rfl,by kernel_rfl⟩ (by kernel_rfl) (by kernel_rfl) (by kernel_rfl) (fun _=>rfl) l
theorem U8 (k:Nat) (l:Tyt):xC (k+1) none 102 [.ro (List.map an l)]=ob (aQ 32 l) fun r=>some (.ro (List.map an r),[]):=by
 rw [aH,Bh]
 exact fu iH l 2
theorem TI (k:Nat) (l:Tyt):xC (k+1) (some fun _=>true) 102 [.ro (List.map an l)]=ob (aQ 32 l) fun r=>some (.own 0 0 r.length,[.rows 2 (List.map an r) 0 true]):=by
 rw [aH,Bh]
 exact fl iH l 2
theorem Ts (k:Nat):xC (k+1) none 76 [.nil]=some (.ro [],[]):=by kernel_rfl
theorem HU (k:Nat):xC (k+1) (some fun _=>true) 76 [.nil]=some (.own 0 0 0,[.rows 1 [] 0 true]):=by kernel_rfl
theorem PF (k:Nat):xC (k+1) none 77 [.nil]=some (.ro [],[]):=by kernel_rfl
theorem JH (k:Nat):xC (k+1) (some fun _=>true) 77 [.nil]=some (.own 0 0 0,[.rows 11 [] 0 true]):=by kernel_rfl
theorem QD (k:Nat):xC (k+1) none 78 [.nil]=some (.ro [],[]):=by kernel_rfl
theorem JG (k:Nat):xC (k+1) (some fun _=>true) 78 [.nil]=some (.own 0 0 0,[.rows 9 [] 0 true]):=by kernel_rfl
theorem QB (k:Nat):xC (k+1) none 79 [.nil]=some (.ro [],[]):=by kernel_rfl
theorem Jz (k:Nat):xC (k+1) (some fun _=>true) 79 [.nil]=some (.own 0 0 0,[.rows 3 [] 0 true]):=by kernel_rfl
theorem QM (k:Nat):xC (k+1) none 80 [.nil]=some (.ro [],[]):=by kernel_rfl
theorem I9 (k:Nat):xC (k+1) (some fun _=>true) 80 [.nil]=some (.own 0 0 0,[.rows 1 [] 0 true]):=by kernel_rfl
theorem IS (k:Nat):xC (k+1) none 102 [.nil]=some (.ro [],[]):=by kernel_rfl
theorem DR (k:Nat):xC (k+1) (some fun _=>true) 102 [.nil]=some (.own 0 0 0,[.rows 2 [] 0 true]):=by kernel_rfl
theorem WG {k id g len:Nat} {a b:Int} {H:Hp}:evF Tryz.prog xM (k+1) 0 62 [.own id g len,.lit (.int .i64 a),.lit (.int .i64 b)] H=dlB id g len a b H H[id]? := by
 rw [Pm (by rfl),Qf]
def xQ0:=PLift.up (aI (aI (aI (aI (aI (aI @xF @We) @VF) (aI @XB @Wx)) (aI (aI (aI @adS @L6) @Xx) (aI @Y8 @xR.eq_1))) (aI (aI (aI (aI @xA.eq_1 @aa9) @W4) (aI @acM @XJ)) (aI (aI @aby @Ug) (aI @ZM @Xu)))) (aI (aI (aI (aI (aI @Zv @XG) @U8) (aI @TI @Ts)) (aI (aI @HU @PF) (aI @JH @QD))) (aI (aI (aI (aI @JG @QB) @Jz) (aI @QM @I9)) (aI (aI @IS @DR) (aI @WG @Mr)))))
theorem xQ:type_of% xQ0.down:=xQ0.down
end Go.Ab
