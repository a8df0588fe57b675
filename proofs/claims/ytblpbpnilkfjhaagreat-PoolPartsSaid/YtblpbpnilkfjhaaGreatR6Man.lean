import Derived.Test.YtblpbpnilkfjhaaGreatR6Run
import Derived.Test.YtblpbpnilkfjhaaGreatR6Facts
set_option linter.unusedVariables false
set_option linter.unusedSimpArgs false
namespace Go.Ab
open Go.Proofs
theorem Fl (k:Nat) (l:List Int):evF Tryz.prog xM (k+1) 0 76 [.ro (l.map (aQ .u64))] []=ob (aK 8 l) fun r=>some (.own 1 1 r.length,[.rows 0 [] 0 true,.rows 1 (r.map (aQ .u64)) 1 true]):=by
 have h:evF Tryz.prog xM (k+1) 0 76 [.ro (l.map (aQ .u64))] []=fQ Tryz.prog 26 [.ro (l.map (aQ .u64))] []:=by kernel_rfl
 rw [h]
 exact gn (P:=Tryz.prog) (t:=26) (e:=46) (sz:=1) (bytes:=8) (enc:=(aQ .u64)) (by kernel_rfl) ⟨(ef Tryz.prog 46).getD default,by kernel_rfl,by kernel_rfl,by kernel_rfl⟩ (by kernel_rfl) (by kernel_rfl) (by kernel_rfl) (fun _=>rfl) l
theorem acr (k:Nat) (l:List Int):xC (k+1) none 76 [.ro (List.map (aQ .u64) l)]=ob (aK 8 l) fun r=>some (.ro (List.map (aQ .u64) r),[]):=by
 rw [aN,Fl]
 exact fu (fun _=>rfl) l 1
theorem Xx (k:Nat) (l:List Int):xC (k+1) (some fun _=>true) 76 [.ro (List.map (aQ .u64) l)]=ob (aK 8 l) fun r=>some (.own 0 0 r.length,[.rows 1 (List.map (aQ .u64) r) 0 true]):=by
 rw [aN,Fl]
 exact fl (fun _=>rfl) l 1
theorem EM (k:Nat) (l:List Tyw):evF Tryz.prog xM (k+1) 0 77 [.ro (l.map aY)] []=ob (aK 104 l) fun r=>some (.own 1 1 r.length,[.rows 0 [] 0 true,.rows 11 (r.map aY) 1 true]):=by
 have h:evF Tryz.prog xM (k+1) 0 77 [.ro (l.map aY)] []=fQ Tryz.prog 27 [.ro (l.map aY)] []:=by kernel_rfl
 rw [h]
 exact gn (P:=Tryz.prog) (t:=27) (e:=65) (sz:=11) (bytes:=104) (enc:=aY) (by kernel_rfl) ⟨(ef Tryz.prog 65).getD default,by kernel_rfl,by kernel_rfl,by kernel_rfl⟩ (by kernel_rfl) (by kernel_rfl) (by kernel_rfl) (fun _=>rfl) l
theorem aaq (k:Nat) (l:List Tyw):xC (k+1) none 77 [.ro (List.map aY l)]=ob (aK 104 l) fun r=>some (.ro (List.map aY r),[]):=by
 rw [aN,EM]
 exact fu gm l 11
theorem Xb (k:Nat) (l:List Tyw):xC (k+1) (some fun _=>true) 77 [.ro (List.map aY l)]=ob (aK 104 l) fun r=>some (.own 0 0 r.length,[.rows 11 (List.map aY r) 0 true]):=by
 rw [aN,EM]
 exact fl gm l 11
theorem DN (k:Nat) (l:List Tys):evF Tryz.prog xM (k+1) 0 78 [.ro (l.map cG)] []=ob (aK 88 l) fun r=>some (.own 1 1 r.length,[.rows 0 [] 0 true,.rows 9 (r.map cG) 1 true]):=by
 have h:evF Tryz.prog xM (k+1) 0 78 [.ro (l.map cG)] []=fQ Tryz.prog 28 [.ro (l.map cG)] []:=by kernel_rfl
 rw [h]
 exact gn (P:=Tryz.prog) (t:=28) (e:=57) (sz:=9) (bytes:=88) (enc:=cG) (by kernel_rfl) ⟨(ef Tryz.prog 57).getD default,by kernel_rfl,by kernel_rfl,by kernel_rfl⟩ (by kernel_rfl) (by kernel_rfl) (by kernel_rfl) (fun _=>rfl) l
theorem aa8 (k:Nat) (l:List Tys):xC (k+1) none 78 [.ro (List.map cG l)]=ob (aK 88 l) fun r=>some (.ro (List.map cG r),[]):=by
 rw [aN,DN]
 exact fu iT l 9
theorem YV (k:Nat) (l:List Tys):xC (k+1) (some fun _=>true) 78 [.ro (List.map cG l)]=ob (aK 88 l) fun r=>some (.own 0 0 r.length,[.rows 9 (List.map cG r) 0 true]):=by
 rw [aN,DN]
 exact fl iT l 9
theorem EH (k:Nat) (l:Tye):evF Tryz.prog xM (k+1) 0 79 [.ro (l.map aE)] []=ob (aK 24 l) fun r=>some (.own 1 1 r.length,[.rows 0 [] 0 true,.rows 3 (r.map aE) 1 true]):=by
 have h:evF Tryz.prog xM (k+1) 0 79 [.ro (l.map aE)] []=fQ Tryz.prog 63 [.ro (l.map aE)] []:=by kernel_rfl
 rw [h]
 exact gn (P:=Tryz.prog) (t:=63) (e:=129) (sz:=3) (bytes:=24) (enc:=aE) (by kernel_rfl) ⟨(ef Tryz.prog 129).getD default,by kernel_rfl,by kernel_rfl,by kernel_rfl⟩ (by kernel_rfl) (by kernel_rfl) (by kernel_rfl) (fun _=>rfl) l
theorem abU (k:Nat) (l:Tye):xC (k+1) none 79 [.ro (List.map aE l)]=ob (aK 24 l) fun r=>some (.ro (List.map aE r),[]):=by
 rw [aN,EH]
 exact fu (fun _=>rfl) l 3
theorem Yp (k:Nat) (l:Tye):xC (k+1) (some fun _=>true) 79 [.ro (List.map aE l)]=ob (aK 24 l) fun r=>some (.own 0 0 r.length,[.rows 3 (List.map aE r) 0 true]):=by
 rw [aN,EH]
 exact fl (fun _=>rfl) l 3
theorem Fh (k:Nat) (l:List Int):evF Tryz.prog xM (k+1) 0 80 [.ro (l.map (aQ .i64))] []=ob (aK 8 l) fun r=>some (.own 1 1 r.length,[.rows 0 [] 0 true,.rows 1 (r.map (aQ .i64)) 1 true]):=by
 have h:evF Tryz.prog xM (k+1) 0 80 [.ro (l.map (aQ .i64))] []=fQ Tryz.prog 53 [.ro (l.map (aQ .i64))] []:=by kernel_rfl
 rw [h]
 exact gn (P:=Tryz.prog) (t:=53) (e:=3) (sz:=1) (bytes:=8) (enc:=(aQ .i64)) (by kernel_rfl) ⟨(ef Tryz.prog 3).getD default,by kernel_rfl,by kernel_rfl,by kernel_rfl⟩ (by kernel_rfl) (by kernel_rfl) (by kernel_rfl) (fun _=>rfl) l
theorem acG (k:Nat) (l:List Int):xC (k+1) none 80 [.ro (List.map (aQ .i64) l)]=ob (aK 8 l) fun r=>some (.ro (List.map (aQ .i64) r),[]):=by
 rw [aN,Fh]
 exact fu (fun _=>rfl) l 1
theorem Xe (k:Nat) (l:List Int):xC (k+1) (some fun _=>true) 80 [.ro (List.map (aQ .i64) l)]=ob (aK 8 l) fun r=>some (.own 0 0 r.length,[.rows 1 (List.map (aQ .i64) r) 0 true]):=by
 rw [aN,Fh]
 exact fl (fun _=>rfl) l 1
theorem BA (k:Nat) (l:Tyt):evF Tryz.prog xM (k+1) 0 102 [.ro (l.map aA)] []=ob (aK 32 l) fun r=>some (.own 1 1 r.length,[.rows 0 [] 0 true,.rows 2 (r.map aA) 1 true]):=by
 have h:evF Tryz.prog xM (k+1) 0 102 [.ro (l.map aA)] []=fQ Tryz.prog 24 [.ro (l.map aA)] []:=by kernel_rfl
 rw [h]
 exact gn (P:=Tryz.prog) (t:=24) (e:=101) (sz:=2) (bytes:=32) (enc:=aA) (by kernel_rfl) ⟨(ef Tryz.prog 101).getD default,by kernel_rfl,by kernel_rfl,by kernel_rfl⟩ (by kernel_rfl) (by kernel_rfl) (by kernel_rfl) (fun _=>rfl) l
theorem Xn (k:Nat) (l:Tyt):xC (k+1) none 102 [.ro (List.map aA l)]=ob (aK 32 l) fun r=>some (.ro (List.map aA r),[]):=by
 rw [aN,BA]
 exact fu i5 l 2
theorem RK (k:Nat) (l:Tyt):xC (k+1) (some fun _=>true) 102 [.ro (List.map aA l)]=ob (aK 32 l) fun r=>some (.own 0 0 r.length,[.rows 2 (List.map aA r) 0 true]):=by
 rw [aN,BA]
 exact fl i5 l 2
theorem Y8 (k:Nat):xC (k+1) none 76 [.nil]=some (.ro [],[]):=by kernel_rfl
theorem Pq (k:Nat):xC (k+1) (some fun _=>true) 76 [.nil]=some (.own 0 0 0,[.rows 1 [] 0 true]):=by kernel_rfl
theorem Yo (k:Nat):xC (k+1) none 77 [.nil]=some (.ro [],[]):=by kernel_rfl
theorem Pk (k:Nat):xC (k+1) (some fun _=>true) 77 [.nil]=some (.own 0 0 0,[.rows 11 [] 0 true]):=by kernel_rfl
theorem X1 (k:Nat):xC (k+1) none 78 [.nil]=some (.ro [],[]):=by kernel_rfl
theorem On (k:Nat):xC (k+1) (some fun _=>true) 78 [.nil]=some (.own 0 0 0,[.rows 9 [] 0 true]):=by kernel_rfl
theorem WG (k:Nat):xC (k+1) none 79 [.nil]=some (.ro [],[]):=by kernel_rfl
theorem Pr (k:Nat):xC (k+1) (some fun _=>true) 79 [.nil]=some (.own 0 0 0,[.rows 3 [] 0 true]):=by kernel_rfl
theorem Ww (k:Nat):xC (k+1) none 80 [.nil]=some (.ro [],[]):=by kernel_rfl
theorem Ph (k:Nat):xC (k+1) (some fun _=>true) 80 [.nil]=some (.own 0 0 0,[.rows 1 [] 0 true]):=by kernel_rfl
theorem Oj (k:Nat):xC (k+1) none 102 [.nil]=some (.ro [],[]):=by kernel_rfl
theorem IC (k:Nat):xC (k+1) (some fun _=>true) 102 [.nil]=some (.own 0 0 0,[.rows 2 [] 0 true]):=by kernel_rfl
theorem XL {k id g len:Nat} {a b:Int} {H:Hp}:evF Tryz.prog xM (k+1) 0 62 [.own id g len,.lit (.int .i64 a),.lit (.int .i64 b)] H=dlB id g len a b H H[id]? := by
 rw [T9 (by rfl),Sk]
def xQ0:=PLift.up (And.intro (And.intro (And.intro (And.intro (And.intro (And.intro @xF @WU) @W1) (And.intro @Zb @WL)) (And.intro (And.intro (And.intro @aeY @NI) @Vu) (And.intro @aaR @xR.eq_1))) (And.intro (And.intro (And.intro (And.intro @xA.eq_1 @acr) @Xx) (And.intro @aaq @Xb)) (And.intro (And.intro @aa8 @YV) (And.intro @abU @Yp)))) (And.intro (And.intro (And.intro (And.intro (And.intro @acG @Xe) @Xn) (And.intro @RK @Y8)) (And.intro (And.intro @Pq @Yo) (And.intro @Pk @X1))) (And.intro (And.intro (And.intro (And.intro @On @WG) @Pr) (And.intro @Ww @Ph)) (And.intro (And.intro @Oj @IC) (And.intro @XL @NB)))))
theorem xQ:type_of% xQ0.down:=xQ0.down
end Go.Ab
