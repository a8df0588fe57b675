import Derived.Test.YtblpbpnilkfjhaaGreatR6Run
import Derived.Test.YtblpbpnilkfjhaaGreatR6Facts
set_option linter.unusedVariables false
set_option linter.unusedSimpArgs false
namespace Go.Ab
open Go.Proofs
theorem H4 (k:Nat) (l:List Int):evF Tryz.prog xM (k+1) 0 76 [.ro (l.map (aN .u64))] []=ob (aO 8 l) fun r=>some (.own 1 1 r.length,[.rows 0 [] 0 true,.rows 1 (r.map (aN .u64)) 1 true]):=by
 have h:evF Tryz.prog xM (k+1) 0 76 [.ro (l.map (aN .u64))] []=gX Tryz.prog 26 [.ro (l.map (aN .u64))] []:=by kernel_rfl
 rw [h]
 exact iv (P:=Tryz.prog) (t:=26) (e:=46) (sz:=1) (bytes:=8) (enc:=(aN .u64)) (by kernel_rfl) ⟨(eZ Tryz.prog 46).getD default,by kernel_rfl,by kernel_rfl,by kernel_rfl⟩ (by kernel_rfl) (by kernel_rfl) (by kernel_rfl) (fun _=>rfl) l
theorem ag6 (k:Nat) (l:List Int):xC (k+1) none 76 [.ro (List.map (aN .u64) l)]=ob (aO 8 l) fun r=>some (.ro (List.map (aN .u64) r),[]):=by
 rw [aK,H4]
 exact gA (fun _=>rfl) l 1
theorem Z1 (k:Nat) (l:List Int):xC (k+1) (some fun _=>true) 76 [.ro (List.map (aN .u64) l)]=ob (aO 8 l) fun r=>some (.own 0 0 r.length,[.rows 1 (List.map (aN .u64) r) 0 true]):=by
 rw [aK,H4]
 exact gn (fun _=>rfl) l 1
theorem HO (k:Nat) (l:List Tyw):evF Tryz.prog xM (k+1) 0 77 [.ro (l.map aY)] []=ob (aO 104 l) fun r=>some (.own 1 1 r.length,[.rows 0 [] 0 true,.rows 11 (r.map aY) 1 true]):=by
 have h:evF Tryz.prog xM (k+1) 0 77 [.ro (l.map aY)] []=gX Tryz.prog 27 [.ro (l.map aY)] []:=by kernel_rfl
 rw [h]
 exact iv (P:=Tryz.prog) (t:=27) (e:=65) (sz:=11) (bytes:=104) (enc:=aY) (by kernel_rfl) ⟨(eZ Tryz.prog 65).getD default,by kernel_rfl,by kernel_rfl,by kernel_rfl⟩ (by kernel_rfl) (by kernel_rfl) (by kernel_rfl) (fun _=>rfl) l
theorem afY (k:Nat) (l:List Tyw):xC (k+1) none 77 [.ro (List.map aY l)]=ob (aO 104 l) fun r=>some (.ro (List.map aY r),[]):=by
 rw [aK,HO]
 exact gA iz l 11
theorem ZT (k:Nat) (l:List Tyw):xC (k+1) (some fun _=>true) 77 [.ro (List.map aY l)]=ob (aO 104 l) fun r=>some (.own 0 0 r.length,[.rows 11 (List.map aY r) 0 true]):=by
 rw [aK,HO]
 exact gn iz l 11
theorem HJ (k:Nat) (l:List Tys):evF Tryz.prog xM (k+1) 0 78 [.ro (l.map cR)] []=ob (aO 88 l) fun r=>some (.own 1 1 r.length,[.rows 0 [] 0 true,.rows 9 (r.map cR) 1 true]):=by
 have h:evF Tryz.prog xM (k+1) 0 78 [.ro (l.map cR)] []=gX Tryz.prog 28 [.ro (l.map cR)] []:=by kernel_rfl
 rw [h]
 exact iv (P:=Tryz.prog) (t:=28) (e:=57) (sz:=9) (bytes:=88) (enc:=cR) (by kernel_rfl) ⟨(eZ Tryz.prog 57).getD default,by kernel_rfl,by kernel_rfl,by kernel_rfl⟩ (by kernel_rfl) (by kernel_rfl) (by kernel_rfl) (fun _=>rfl) l
theorem ahB (k:Nat) (l:List Tys):xC (k+1) none 78 [.ro (List.map cR l)]=ob (aO 88 l) fun r=>some (.ro (List.map cR r),[]):=by
 rw [aK,HJ]
 exact gA kH l 9
theorem aal (k:Nat) (l:List Tys):xC (k+1) (some fun _=>true) 78 [.ro (List.map cR l)]=ob (aO 88 l) fun r=>some (.own 0 0 r.length,[.rows 9 (List.map cR r) 0 true]):=by
 rw [aK,HJ]
 exact gn kH l 9
theorem GY (k:Nat) (l:Tye):evF Tryz.prog xM (k+1) 0 79 [.ro (l.map aZ)] []=ob (aO 24 l) fun r=>some (.own 1 1 r.length,[.rows 0 [] 0 true,.rows 3 (r.map aZ) 1 true]):=by
 have h:evF Tryz.prog xM (k+1) 0 79 [.ro (l.map aZ)] []=gX Tryz.prog 63 [.ro (l.map aZ)] []:=by kernel_rfl
 rw [h]
 exact iv (P:=Tryz.prog) (t:=63) (e:=129) (sz:=3) (bytes:=24) (enc:=aZ) (by kernel_rfl) ⟨(eZ Tryz.prog 129).getD default,by kernel_rfl,by kernel_rfl,by kernel_rfl⟩ (by kernel_rfl) (by kernel_rfl) (by kernel_rfl) (fun _=>rfl) l
theorem afz (k:Nat) (l:Tye):xC (k+1) none 79 [.ro (List.map aZ l)]=ob (aO 24 l) fun r=>some (.ro (List.map aZ r),[]):=by
 rw [aK,GY]
 exact gA (fun _=>rfl) l 3
theorem ZX (k:Nat) (l:Tye):xC (k+1) (some fun _=>true) 79 [.ro (List.map aZ l)]=ob (aO 24 l) fun r=>some (.own 0 0 r.length,[.rows 3 (List.map aZ r) 0 true]):=by
 rw [aK,GY]
 exact gn (fun _=>rfl) l 3
theorem GX (k:Nat) (l:List Int):evF Tryz.prog xM (k+1) 0 80 [.ro (l.map (aN .i64))] []=ob (aO 8 l) fun r=>some (.own 1 1 r.length,[.rows 0 [] 0 true,.rows 1 (r.map (aN .i64)) 1 true]):=by
 have h:evF Tryz.prog xM (k+1) 0 80 [.ro (l.map (aN .i64))] []=gX Tryz.prog 53 [.ro (l.map (aN .i64))] []:=by kernel_rfl
 rw [h]
 exact iv (P:=Tryz.prog) (t:=53) (e:=3) (sz:=1) (bytes:=8) (enc:=(aN .i64)) (by kernel_rfl) ⟨(eZ Tryz.prog 3).getD default,by kernel_rfl,by kernel_rfl,by kernel_rfl⟩ (by kernel_rfl) (by kernel_rfl) (by kernel_rfl) (fun _=>rfl) l
theorem aeD (k:Nat) (l:List Int):xC (k+1) none 80 [.ro (List.map (aN .i64) l)]=ob (aO 8 l) fun r=>some (.ro (List.map (aN .i64) r),[]):=by
 rw [aK,GX]
 exact gA (fun _=>rfl) l 1
theorem Zh (k:Nat) (l:List Int):xC (k+1) (some fun _=>true) 80 [.ro (List.map (aN .i64) l)]=ob (aO 8 l) fun r=>some (.own 0 0 r.length,[.rows 1 (List.map (aN .i64) r) 0 true]):=by
 rw [aK,GX]
 exact gn (fun _=>rfl) l 1
theorem CO (k:Nat) (l:Tyt):evF Tryz.prog xM (k+1) 0 102 [.ro (l.map ap)] []=ob (aO 32 l) fun r=>some (.own 1 1 r.length,[.rows 0 [] 0 true,.rows 2 (r.map ap) 1 true]):=by
 have h:evF Tryz.prog xM (k+1) 0 102 [.ro (l.map ap)] []=gX Tryz.prog 24 [.ro (l.map ap)] []:=by kernel_rfl
 rw [h]
 exact iv (P:=Tryz.prog) (t:=24) (e:=101) (sz:=2) (bytes:=32) (enc:=ap) (by kernel_rfl) ⟨(eZ Tryz.prog 101).getD default,by kernel_rfl,by kernel_rfl,by kernel_rfl⟩ (by kernel_rfl) (by kernel_rfl) (by kernel_rfl) (fun _=>rfl) l
theorem aa8 (k:Nat) (l:Tyt):xC (k+1) none 102 [.ro (List.map ap l)]=ob (aO 32 l) fun r=>some (.ro (List.map ap r),[]):=by
 rw [aK,CO]
 exact gA li l 2
theorem WA (k:Nat) (l:Tyt):xC (k+1) (some fun _=>true) 102 [.ro (List.map ap l)]=ob (aO 32 l) fun r=>some (.own 0 0 r.length,[.rows 2 (List.map ap r) 0 true]):=by
 rw [aK,CO]
 exact gn li l 2
theorem Xn (k:Nat):xC (k+1) none 76 [.nil]=some (.ro [],[]):=by kernel_rfl
theorem KW (k:Nat):xC (k+1) (some fun _=>true) 76 [.nil]=some (.own 0 0 0,[.rows 1 [] 0 true]):=by kernel_rfl
theorem Ug (k:Nat):xC (k+1) none 77 [.nil]=some (.ro [],[]):=by kernel_rfl
theorem KS (k:Nat):xC (k+1) (some fun _=>true) 77 [.nil]=some (.own 0 0 0,[.rows 11 [] 0 true]):=by kernel_rfl
theorem XZ (k:Nat):xC (k+1) none 78 [.nil]=some (.ro [],[]):=by kernel_rfl
theorem NS (k:Nat):xC (k+1) (some fun _=>true) 78 [.nil]=some (.own 0 0 0,[.rows 9 [] 0 true]):=by kernel_rfl
theorem YD (k:Nat):xC (k+1) none 79 [.nil]=some (.ro [],[]):=by kernel_rfl
theorem Ko (k:Nat):xC (k+1) (some fun _=>true) 79 [.nil]=some (.own 0 0 0,[.rows 3 [] 0 true]):=by kernel_rfl
theorem V0 (k:Nat):xC (k+1) none 80 [.nil]=some (.ro [],[]):=by kernel_rfl
theorem NN (k:Nat):xC (k+1) (some fun _=>true) 80 [.nil]=some (.own 0 0 0,[.rows 1 [] 0 true]):=by kernel_rfl
theorem KV (k:Nat):xC (k+1) none 102 [.nil]=some (.ro [],[]):=by kernel_rfl
theorem Gc (k:Nat):xC (k+1) (some fun _=>true) 102 [.nil]=some (.own 0 0 0,[.rows 2 [] 0 true]):=by kernel_rfl
theorem ZE {k id g len:Nat} {a b:Int} {H:Hp}:evF Tryz.prog xM (k+1) 0 62 [.own id g len,.lit (.int .i64 a),.lit (.int .i64 b)] H=dlB id g len a b H H[id]? := by
 rw [Uo (by rfl),Yd]
def xQ0:=PLift.up (aI (aI (aI (aI (aI (aI @xF @aaI) @YU) (aI @aaQ @ads)) (aI (aI (aI @aiT @Qd) @aaz) (aI @ah5 @xR.eq_1))) (aI (aI (aI (aI @xA.eq_1 @ag6) @Z1) (aI @afY @ZT)) (aI (aI @ahB @aal) (aI @afz @ZX)))) (aI (aI (aI (aI (aI @aeD @Zh) @aa8) (aI @WA @Xn)) (aI (aI @KW @Ug) (aI @KS @XZ))) (aI (aI (aI (aI @NS @YD) @Ko) (aI @V0 @NN)) (aI (aI @KV @Gc) (aI @ZE @P8)))))
theorem xQ:type_of% xQ0.down:=xQ0.down
end Go.Ab
