import Derived.Test.YtblpbpnilkfjhaaGreatR6Run
import Derived.Test.YtblpbpnilkfjhaaGreatR6Facts
set_option linter.unusedVariables false
set_option linter.unusedSimpArgs false
namespace Go.Ab
open Go.Proofs
theorem Hm (k:Nat) (l:List Int):evF Tryz.prog xM (k+1) 0 76 [.ro (l.map (aQ .u64))] []=ob (aP 8 l) fun r=>some (.own 1 1 r.length,[.rows 0 [] 0 true,.rows 1 (r.map (aQ .u64)) 1 true]):=by
 have h:evF Tryz.prog xM (k+1) 0 76 [.ro (l.map (aQ .u64))] []=gW Tryz.prog 26 [.ro (l.map (aQ .u64))] []:=by kernel_rfl
 rw [h]
 exact ix (P:=Tryz.prog) (t:=26) (e:=46) (sz:=1) (bytes:=8) (enc:=(aQ .u64)) (by kernel_rfl) ⟨(eQ Tryz.prog 46).getD default,by kernel_rfl,by kernel_rfl,by kernel_rfl⟩ (by kernel_rfl) (by kernel_rfl) (by kernel_rfl) (fun _=>rfl) l
theorem ac5 (k:Nat) (l:List Int):xC (k+1) none 76 [.ro (List.map (aQ .u64) l)]=ob (aP 8 l) fun r=>some (.ro (List.map (aQ .u64) r),[]):=by
 rw [aO,Hm]
 exact nC (fun _=>rfl) l 1
theorem Yx (k:Nat) (l:List Int):xC (k+1) (some fun _=>true) 76 [.ro (List.map (aQ .u64) l)]=ob (aP 8 l) fun r=>some (.own 0 0 r.length,[.rows 1 (List.map (aQ .u64) r) 0 true]):=by
 rw [aO,Hm]
 exact iW (fun _=>rfl) l 1
theorem Qt (k:Nat) (l:List Tyw):evF Tryz.prog xM (k+1) 0 77 [.ro (l.map aZ)] []=ob (aP 104 l) fun r=>some (.own 1 1 r.length,[.rows 0 [] 0 true,.rows 11 (r.map aZ) 1 true]):=by
 have h:evF Tryz.prog xM (k+1) 0 77 [.ro (l.map aZ)] []=gW Tryz.prog 27 [.ro (l.map aZ)] []:=by kernel_rfl
 rw [h]
 exact ix (P:=Tryz.prog) (t:=27) (e:=65) (sz:=11) (bytes:=104) (enc:=aZ) (by kernel_rfl) ⟨(eQ Tryz.prog 65).getD default,by kernel_rfl,by kernel_rfl,by kernel_rfl⟩ (by kernel_rfl) (by kernel_rfl) (by kernel_rfl) (fun _=>rfl) l
theorem YD (k:Nat) (l:List Tyw):xC (k+1) (some fun _=>true) 77 [.ro (List.map aZ l)]=ob (aP 104 l) fun r=>some (.own 0 0 r.length,[.rows 11 (List.map aZ r) 0 true]):=by
 rw [aO,Qt]
 exact iW lG l 11
theorem Qg (k:Nat) (l:List Tys):evF Tryz.prog xM (k+1) 0 78 [.ro (l.map dh)] []=ob (aP 88 l) fun r=>some (.own 1 1 r.length,[.rows 0 [] 0 true,.rows 9 (r.map dh) 1 true]):=by
 have h:evF Tryz.prog xM (k+1) 0 78 [.ro (l.map dh)] []=gW Tryz.prog 28 [.ro (l.map dh)] []:=by kernel_rfl
 rw [h]
 exact ix (P:=Tryz.prog) (t:=28) (e:=57) (sz:=9) (bytes:=88) (enc:=dh) (by kernel_rfl) ⟨(eQ Tryz.prog 57).getD default,by kernel_rfl,by kernel_rfl,by kernel_rfl⟩ (by kernel_rfl) (by kernel_rfl) (by kernel_rfl) (fun _=>rfl) l
theorem aaA (k:Nat) (l:List Tys):xC (k+1) (some fun _=>true) 78 [.ro (List.map dh l)]=ob (aP 88 l) fun r=>some (.own 0 0 r.length,[.rows 9 (List.map dh r) 0 true]):=by
 rw [aO,Qg]
 exact iW mE l 9
theorem HX (k:Nat) (l:Tye):evF Tryz.prog xM (k+1) 0 79 [.ro (l.map a8)] []=ob (aP 24 l) fun r=>some (.own 1 1 r.length,[.rows 0 [] 0 true,.rows 3 (r.map a8) 1 true]):=by
 have h:evF Tryz.prog xM (k+1) 0 79 [.ro (l.map a8)] []=gW Tryz.prog 63 [.ro (l.map a8)] []:=by kernel_rfl
 rw [h]
 exact ix (P:=Tryz.prog) (t:=63) (e:=129) (sz:=3) (bytes:=24) (enc:=a8) (by kernel_rfl) ⟨(eQ Tryz.prog 129).getD default,by kernel_rfl,by kernel_rfl,by kernel_rfl⟩ (by kernel_rfl) (by kernel_rfl) (by kernel_rfl) (fun _=>rfl) l
theorem adv (k:Nat) (l:Tye):xC (k+1) none 79 [.ro (List.map a8 l)]=ob (aP 24 l) fun r=>some (.ro (List.map a8 r),[]):=by
 rw [aO,HX]
 exact nC (fun _=>rfl) l 3
theorem WX (k:Nat) (l:Tye):xC (k+1) (some fun _=>true) 79 [.ro (List.map a8 l)]=ob (aP 24 l) fun r=>some (.own 0 0 r.length,[.rows 3 (List.map a8 r) 0 true]):=by
 rw [aO,HX]
 exact iW (fun _=>rfl) l 3
theorem Q2 (k:Nat) (l:List Int):evF Tryz.prog xM (k+1) 0 80 [.ro (l.map (aQ .i64))] []=ob (aP 8 l) fun r=>some (.own 1 1 r.length,[.rows 0 [] 0 true,.rows 1 (r.map (aQ .i64)) 1 true]):=by
 have h:evF Tryz.prog xM (k+1) 0 80 [.ro (l.map (aQ .i64))] []=gW Tryz.prog 53 [.ro (l.map (aQ .i64))] []:=by kernel_rfl
 rw [h]
 exact ix (P:=Tryz.prog) (t:=53) (e:=3) (sz:=1) (bytes:=8) (enc:=(aQ .i64)) (by kernel_rfl) ⟨(eQ Tryz.prog 3).getD default,by kernel_rfl,by kernel_rfl,by kernel_rfl⟩ (by kernel_rfl) (by kernel_rfl) (by kernel_rfl) (fun _=>rfl) l
theorem aee (k:Nat) (l:List Int):xC (k+1) none 80 [.ro (List.map (aQ .i64) l)]=ob (aP 8 l) fun r=>some (.ro (List.map (aQ .i64) r),[]):=by
 rw [aO,Q2]
 exact nC (fun _=>rfl) l 1
theorem M6 (k:Nat) (l:Tyt):evF Tryz.prog xM (k+1) 0 102 [.ro (l.map ap)] []=ob (aP 32 l) fun r=>some (.own 1 1 r.length,[.rows 0 [] 0 true,.rows 2 (r.map ap) 1 true]):=by
 have h:evF Tryz.prog xM (k+1) 0 102 [.ro (l.map ap)] []=gW Tryz.prog 24 [.ro (l.map ap)] []:=by kernel_rfl
 rw [h]
 exact ix (P:=Tryz.prog) (t:=24) (e:=101) (sz:=2) (bytes:=32) (enc:=ap) (by kernel_rfl) ⟨(eQ Tryz.prog 101).getD default,by kernel_rfl,by kernel_rfl,by kernel_rfl⟩ (by kernel_rfl) (by kernel_rfl) (by kernel_rfl) (fun _=>rfl) l
theorem Vl (k:Nat) (l:Tyt):xC (k+1) (some fun _=>true) 102 [.ro (List.map ap l)]=ob (aP 32 l) fun r=>some (.own 0 0 r.length,[.rows 2 (List.map ap r) 0 true]):=by
 rw [aO,M6]
 exact iW mZ l 2
theorem VT (k:Nat):xC (k+1) none 76 [.nil]=some (.ro [],[]):=by kernel_rfl
theorem KF (k:Nat):xC (k+1) (some fun _=>true) 76 [.nil]=some (.own 0 0 0,[.rows 1 [] 0 true]):=by kernel_rfl
theorem Vt (k:Nat):xC (k+1) none 77 [.nil]=some (.ro [],[]):=by kernel_rfl
theorem Lf (k:Nat):xC (k+1) (some fun _=>true) 77 [.nil]=some (.own 0 0 0,[.rows 11 [] 0 true]):=by kernel_rfl
theorem UO (k:Nat):xC (k+1) none 78 [.nil]=some (.ro [],[]):=by kernel_rfl
theorem Na (k:Nat):xC (k+1) (some fun _=>true) 78 [.nil]=some (.own 0 0 0,[.rows 9 [] 0 true]):=by kernel_rfl
theorem Vy (k:Nat):xC (k+1) none 79 [.nil]=some (.ro [],[]):=by kernel_rfl
theorem Ny (k:Nat):xC (k+1) (some fun _=>true) 79 [.nil]=some (.own 0 0 0,[.rows 3 [] 0 true]):=by kernel_rfl
theorem Tz (k:Nat):xC (k+1) none 80 [.nil]=some (.ro [],[]):=by kernel_rfl
theorem LY (k:Nat):xC (k+1) (some fun _=>true) 80 [.nil]=some (.own 0 0 0,[.rows 1 [] 0 true]):=by kernel_rfl
theorem Nm (k:Nat):xC (k+1) none 102 [.nil]=some (.ro [],[]):=by kernel_rfl
theorem Gz (k:Nat):xC (k+1) (some fun _=>true) 102 [.nil]=some (.own 0 0 0,[.rows 2 [] 0 true]):=by kernel_rfl
theorem ZY {k id g len:Nat} {a b:Int} {H:Hp}:evF Tryz.prog xM (k+1) 0 62 [.own id g len,.lit (.int .i64 a),.lit (.int .i64 b)] H=dlB id g len a b H H[id]? := by
 rw [Uv (by rfl),Tv]
def xQ0:=PLift.up (aI (aI (aI (aI (aI (aI @xF @XW) @YO) @XE) (aI (aI (aI @afT @Qb) @YB) (aI @aeP @xR.eq_1))) (aI (aI (aI (aI @xA.eq_1 @ac5) @Yx) @YD) (aI @aaA (aI @adv @WX)))) (aI (aI @aee @Vl) (aI @ZY @NR)))
theorem xQ:type_of% xQ0.down:=xQ0.down
end Go.Ab
