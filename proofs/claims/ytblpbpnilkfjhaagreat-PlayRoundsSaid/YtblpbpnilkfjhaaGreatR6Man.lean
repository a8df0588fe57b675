import Derived.Test.YtblpbpnilkfjhaaGreatR6Run
import Derived.Test.YtblpbpnilkfjhaaGreatR6Facts
set_option linter.unusedVariables false
set_option linter.unusedSimpArgs false
namespace Go.Ab
open Go.Proofs
theorem GV (k:Nat) (l:List Int):evF Tryz.prog xM (k+1) 0 76 [.ro (l.map (aF .u64))] []=ob (aL 8 l) fun r=>some (.own 1 1 r.length,[.rows 0 [] 0 true,.rows 1 (r.map (aF .u64)) 1 true]):=by
 have h:evF Tryz.prog xM (k+1) 0 76 [.ro (l.map (aF .u64))] []=iC Tryz.prog 26 [.ro (l.map (aF .u64))] []:=by kernel_rfl
 rw [h]
 exact iW (P:=Tryz.prog) (t:=26) (e:=46) (sz:=1) (bytes:=8) (enc:=(aF .u64)) (by kernel_rfl) ⟨(fk Tryz.prog 46).getD default,by kernel_rfl,by kernel_rfl,by kernel_rfl⟩ (by kernel_rfl) (by kernel_rfl) (by kernel_rfl) (fun _=>rfl) l
theorem m9 (k:Nat) (l:List Int):xC (k+1) none 76 [.ro (List.map (aF .u64) l)]=ob (aL 8 l) fun r=>some (.ro (List.map (aF .u64) r),[]):=by
 rw [aH,GV]
 exact gr (fun _=>rfl) l 1
theorem iG (k:Nat) (l:List Int):xC (k+1) (some fun _=>true) 76 [.ro (List.map (aF .u64) l)]=ob (aL 8 l) fun r=>some (.own 0 0 r.length,[.rows 1 (List.map (aF .u64) r) 0 true]):=by
 rw [aH,GV]
 exact gG (fun _=>rfl) l 1
theorem Gv (k:Nat) (l:List Tyw):evF Tryz.prog xM (k+1) 0 77 [.ro (l.map aG)] []=ob (aL 104 l) fun r=>some (.own 1 1 r.length,[.rows 0 [] 0 true,.rows 11 (r.map aG) 1 true]):=by
 have h:evF Tryz.prog xM (k+1) 0 77 [.ro (l.map aG)] []=iC Tryz.prog 27 [.ro (l.map aG)] []:=by kernel_rfl
 rw [h]
 exact iW (P:=Tryz.prog) (t:=27) (e:=65) (sz:=11) (bytes:=104) (enc:=aG) (by kernel_rfl) ⟨(fk Tryz.prog 65).getD default,by kernel_rfl,by kernel_rfl,by kernel_rfl⟩ (by kernel_rfl) (by kernel_rfl) (by kernel_rfl) (fun _=>rfl) l
theorem m8 (k:Nat) (l:List Tyw):xC (k+1) none 77 [.ro (List.map aG l)]=ob (aL 104 l) fun r=>some (.ro (List.map aG r),[]):=by
 rw [aH,Gv]
 exact gr iU l 11
theorem io (k:Nat) (l:List Tyw):xC (k+1) (some fun _=>true) 77 [.ro (List.map aG l)]=ob (aL 104 l) fun r=>some (.own 0 0 r.length,[.rows 11 (List.map aG r) 0 true]):=by
 rw [aH,Gv]
 exact gG iU l 11
theorem G1 (k:Nat) (l:List Tys):evF Tryz.prog xM (k+1) 0 78 [.ro (l.map bn)] []=ob (aL 88 l) fun r=>some (.own 1 1 r.length,[.rows 0 [] 0 true,.rows 9 (r.map bn) 1 true]):=by
 have h:evF Tryz.prog xM (k+1) 0 78 [.ro (l.map bn)] []=iC Tryz.prog 28 [.ro (l.map bn)] []:=by kernel_rfl
 rw [h]
 exact iW (P:=Tryz.prog) (t:=28) (e:=57) (sz:=9) (bytes:=88) (enc:=bn) (by kernel_rfl) ⟨(fk Tryz.prog 57).getD default,by kernel_rfl,by kernel_rfl,by kernel_rfl⟩ (by kernel_rfl) (by kernel_rfl) (by kernel_rfl) (fun _=>rfl) l
theorem nk (k:Nat) (l:List Tys):xC (k+1) none 78 [.ro (List.map bn l)]=ob (aL 88 l) fun r=>some (.ro (List.map bn r),[]):=by
 rw [aH,G1]
 exact gr lh l 9
theorem iw (k:Nat) (l:List Tys):xC (k+1) (some fun _=>true) 78 [.ro (List.map bn l)]=ob (aL 88 l) fun r=>some (.own 0 0 r.length,[.rows 9 (List.map bn r) 0 true]):=by
 rw [aH,G1]
 exact gG lh l 9
theorem GZ (k:Nat) (l:Tye):evF Tryz.prog xM (k+1) 0 79 [.ro (l.map aD)] []=ob (aL 24 l) fun r=>some (.own 1 1 r.length,[.rows 0 [] 0 true,.rows 3 (r.map aD) 1 true]):=by
 have h:evF Tryz.prog xM (k+1) 0 79 [.ro (l.map aD)] []=iC Tryz.prog 63 [.ro (l.map aD)] []:=by kernel_rfl
 rw [h]
 exact iW (P:=Tryz.prog) (t:=63) (e:=129) (sz:=3) (bytes:=24) (enc:=aD) (by kernel_rfl) ⟨(fk Tryz.prog 129).getD default,by kernel_rfl,by kernel_rfl,by kernel_rfl⟩ (by kernel_rfl) (by kernel_rfl) (by kernel_rfl) (fun _=>rfl) l
theorem ni (k:Nat) (l:Tye):xC (k+1) none 79 [.ro (List.map aD l)]=ob (aL 24 l) fun r=>some (.ro (List.map aD r),[]):=by
 rw [aH,GZ]
 exact gr (fun _=>rfl) l 3
theorem iq (k:Nat) (l:Tye):xC (k+1) (some fun _=>true) 79 [.ro (List.map aD l)]=ob (aL 24 l) fun r=>some (.own 0 0 r.length,[.rows 3 (List.map aD r) 0 true]):=by
 rw [aH,GZ]
 exact gG (fun _=>rfl) l 3
theorem Hg (k:Nat) (l:List Int):evF Tryz.prog xM (k+1) 0 80 [.ro (l.map (aF .i64))] []=ob (aL 8 l) fun r=>some (.own 1 1 r.length,[.rows 0 [] 0 true,.rows 1 (r.map (aF .i64)) 1 true]):=by
 have h:evF Tryz.prog xM (k+1) 0 80 [.ro (l.map (aF .i64))] []=iC Tryz.prog 53 [.ro (l.map (aF .i64))] []:=by kernel_rfl
 rw [h]
 exact iW (P:=Tryz.prog) (t:=53) (e:=3) (sz:=1) (bytes:=8) (enc:=(aF .i64)) (by kernel_rfl) ⟨(fk Tryz.prog 3).getD default,by kernel_rfl,by kernel_rfl,by kernel_rfl⟩ (by kernel_rfl) (by kernel_rfl) (by kernel_rfl) (fun _=>rfl) l
theorem m7 (k:Nat) (l:List Int):xC (k+1) none 80 [.ro (List.map (aF .i64) l)]=ob (aL 8 l) fun r=>some (.ro (List.map (aF .i64) r),[]):=by
 rw [aH,Hg]
 exact gr (fun _=>rfl) l 1
theorem ix (k:Nat) (l:List Int):xC (k+1) (some fun _=>true) 80 [.ro (List.map (aF .i64) l)]=ob (aL 8 l) fun r=>some (.own 0 0 r.length,[.rows 1 (List.map (aF .i64) r) 0 true]):=by
 rw [aH,Hg]
 exact gG (fun _=>rfl) l 1
theorem CP (k:Nat) (l:Tyt):evF Tryz.prog xM (k+1) 0 102 [.ro (l.map an)] []=ob (aL 32 l) fun r=>some (.own 1 1 r.length,[.rows 0 [] 0 true,.rows 2 (r.map an) 1 true]):=by
 have h:evF Tryz.prog xM (k+1) 0 102 [.ro (l.map an)] []=iC Tryz.prog 24 [.ro (l.map an)] []:=by kernel_rfl
 rw [h]
 exact iW (P:=Tryz.prog) (t:=24) (e:=101) (sz:=2) (bytes:=32) (enc:=an) (by kernel_rfl) ⟨(fk Tryz.prog 101).getD default,by kernel_rfl,by kernel_rfl,by kernel_rfl⟩ (by kernel_rfl) (by kernel_rfl) (by kernel_rfl) (fun _=>rfl) l
theorem iu (k:Nat) (l:Tyt):xC (k+1) none 102 [.ro (List.map an l)]=ob (aL 32 l) fun r=>some (.ro (List.map an r),[]):=by
 rw [aH,CP]
 exact gr lu l 2
theorem fw (k:Nat) (l:Tyt):xC (k+1) (some fun _=>true) 102 [.ro (List.map an l)]=ob (aL 32 l) fun r=>some (.own 0 0 r.length,[.rows 2 (List.map an r) 0 true]):=by
 rw [aH,CP]
 exact gG lu l 2
theorem ng (k:Nat):xC (k+1) none 76 [.nil]=some (.ro [],[]):=by kernel_rfl
theorem iD (k:Nat):xC (k+1) (some fun _=>true) 76 [.nil]=some (.own 0 0 0,[.rows 1 [] 0 true]):=by kernel_rfl
theorem nh (k:Nat):xC (k+1) none 77 [.nil]=some (.ro [],[]):=by kernel_rfl
theorem iF (k:Nat):xC (k+1) (some fun _=>true) 77 [.nil]=some (.own 0 0 0,[.rows 11 [] 0 true]):=by kernel_rfl
theorem na (k:Nat):xC (k+1) none 78 [.nil]=some (.ro [],[]):=by kernel_rfl
theorem iJ (k:Nat):xC (k+1) (some fun _=>true) 78 [.nil]=some (.own 0 0 0,[.rows 9 [] 0 true]):=by kernel_rfl
theorem nj (k:Nat):xC (k+1) none 79 [.nil]=some (.ro [],[]):=by kernel_rfl
theorem ir (k:Nat):xC (k+1) (some fun _=>true) 79 [.nil]=some (.own 0 0 0,[.rows 3 [] 0 true]):=by kernel_rfl
theorem nf (k:Nat):xC (k+1) none 80 [.nil]=some (.ro [],[]):=by kernel_rfl
theorem iK (k:Nat):xC (k+1) (some fun _=>true) 80 [.nil]=some (.own 0 0 0,[.rows 1 [] 0 true]):=by kernel_rfl
theorem ij (k:Nat):xC (k+1) none 102 [.nil]=some (.ro [],[]):=by kernel_rfl
theorem ft (k:Nat):xC (k+1) (some fun _=>true) 102 [.nil]=some (.own 0 0 0,[.rows 2 [] 0 true]):=by kernel_rfl
theorem iB {k id g len:Nat} {a b:Int} {H:Hp}:evF Tryz.prog xM (k+1) 0 62 [.own id g len,.lit (.int .i64 a),.lit (.int .i64 b)] H=dlB id g len a b H H[id]? := by
 rw [T8 (by rfl),Vv]
def xQ0:=PLift.up (And.intro (And.intro (And.intro (And.intro (And.intro (And.intro @xF @iA) @iE) (And.intro @ip @iy)) (And.intro (And.intro (And.intro @En @dD) @iH) (And.intro @nn @xR.eq_1))) (And.intro (And.intro (And.intro (And.intro @xA.eq_1 @m9) @iG) (And.intro @m8 @io)) (And.intro (And.intro @nk @iw) (And.intro @ni @iq)))) (And.intro (And.intro (And.intro (And.intro (And.intro @m7 @ix) @iu) (And.intro @fw @ng)) (And.intro (And.intro @iD @nh) (And.intro @iF @na))) (And.intro (And.intro (And.intro (And.intro @iJ @nj) @ir) (And.intro @nf @iK)) (And.intro (And.intro @ij @ft) (And.intro @iB @dG)))))
theorem xQ:type_of% xQ0.down:=xQ0.down
end Go.Ab
