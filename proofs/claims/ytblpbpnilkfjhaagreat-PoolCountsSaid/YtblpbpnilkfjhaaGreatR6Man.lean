import Derived.Test.YtblpbpnilkfjhaaGreatR6Run
import Derived.Test.YtblpbpnilkfjhaaGreatR6Facts
set_option linter.unusedVariables false
set_option linter.unusedSimpArgs false
namespace Go.Ab
open Go.Proofs
theorem Gj (k:Nat) (l:List Int):evF Tryz.prog xM (k+1) 0 76 [.ro (l.map (aI .u64))] []=ob (aL 8 l) fun r=>some (.own 1 1 r.length,[.rows 0 [] 0 true,.rows 1 (r.map (aI .u64)) 1 true]):=by
 have h:evF Tryz.prog xM (k+1) 0 76 [.ro (l.map (aI .u64))] []=gl Tryz.prog 26 [.ro (l.map (aI .u64))] []:=by kernel_rfl
 rw [h]
 exact gO (P:=Tryz.prog) (t:=26) (e:=46) (sz:=1) (bytes:=8) (enc:=(aI .u64)) (by kernel_rfl) ⟨(eG Tryz.prog 46).getD default,by kernel_rfl,by kernel_rfl,by kernel_rfl⟩ (by kernel_rfl) (by kernel_rfl) (by kernel_rfl) (fun _=>rfl) l
theorem abb (k:Nat) (l:List Int):xC (k+1) none 76 [.ro (List.map (aI .u64) l)]=ob (aL 8 l) fun r=>some (.ro (List.map (aI .u64) r),[]):=by
 rw [aK,Gj]
 exact fF (fun _=>rfl) l 1
theorem YC (k:Nat) (l:List Int):xC (k+1) (some fun _=>true) 76 [.ro (List.map (aI .u64) l)]=ob (aL 8 l) fun r=>some (.own 0 0 r.length,[.rows 1 (List.map (aI .u64) r) 0 true]):=by
 rw [aK,Gj]
 exact fK (fun _=>rfl) l 1
theorem E8 (k:Nat) (l:List (Int×List (Int×Int×Int)×(Int×Int×Int×Int×Int×Int×Int)×Int×Int)):evF Tryz.prog xM (k+1) 0 77 [.ro (l.map aP)] []=ob (aL 104 l) fun r=>some (.own 1 1 r.length,[.rows 0 [] 0 true,.rows 11 (r.map aP) 1 true]):=by
 have h:evF Tryz.prog xM (k+1) 0 77 [.ro (l.map aP)] []=gl Tryz.prog 27 [.ro (l.map aP)] []:=by kernel_rfl
 rw [h]
 exact gO (P:=Tryz.prog) (t:=27) (e:=65) (sz:=11) (bytes:=104) (enc:=aP) (by kernel_rfl) ⟨(eG Tryz.prog 65).getD default,by kernel_rfl,by kernel_rfl,by kernel_rfl⟩ (by kernel_rfl) (by kernel_rfl) (by kernel_rfl) (fun _=>rfl) l
theorem aee (k:Nat) (l:List (Int×List (Int×Int×Int)×(Int×Int×Int×Int×Int×Int×Int)×Int×Int)):xC (k+1) none 77 [.ro (List.map aP l)]=ob (aL 104 l) fun r=>some (.ro (List.map aP r),[]):=by
 rw [aK,E8]
 exact fF gE l 11
theorem X6 (k:Nat) (l:List (Int×List (Int×Int×Int)×(Int×Int×Int×Int×Int×Int×Int)×Int×Int)):xC (k+1) (some fun _=>true) 77 [.ro (List.map aP l)]=ob (aL 104 l) fun r=>some (.own 0 0 r.length,[.rows 11 (List.map aP r) 0 true]):=by
 rw [aK,E8]
 exact fK gE l 11
theorem FO (k:Nat) (l:List (Int×List Int×Int×Int×Int×Int×Int×Int×Int)):evF Tryz.prog xM (k+1) 0 78 [.ro (l.map b8)] []=ob (aL 88 l) fun r=>some (.own 1 1 r.length,[.rows 0 [] 0 true,.rows 9 (r.map b8) 1 true]):=by
 have h:evF Tryz.prog xM (k+1) 0 78 [.ro (l.map b8)] []=gl Tryz.prog 28 [.ro (l.map b8)] []:=by kernel_rfl
 rw [h]
 exact gO (P:=Tryz.prog) (t:=28) (e:=57) (sz:=9) (bytes:=88) (enc:=b8) (by kernel_rfl) ⟨(eG Tryz.prog 57).getD default,by kernel_rfl,by kernel_rfl,by kernel_rfl⟩ (by kernel_rfl) (by kernel_rfl) (by kernel_rfl) (fun _=>rfl) l
theorem adG (k:Nat) (l:List (Int×List Int×Int×Int×Int×Int×Int×Int×Int)):xC (k+1) none 78 [.ro (List.map b8 l)]=ob (aL 88 l) fun r=>some (.ro (List.map b8 r),[]):=by
 rw [aK,FO]
 exact fF kv l 9
theorem Wg (k:Nat) (l:List (Int×List Int×Int×Int×Int×Int×Int×Int×Int)):xC (k+1) (some fun _=>true) 78 [.ro (List.map b8 l)]=ob (aL 88 l) fun r=>some (.own 0 0 r.length,[.rows 9 (List.map b8 r) 0 true]):=by
 rw [aK,FO]
 exact fK kv l 9
theorem Fx (k:Nat) (l:List (Int×Int×Int)):evF Tryz.prog xM (k+1) 0 79 [.ro (l.map aM)] []=ob (aL 24 l) fun r=>some (.own 1 1 r.length,[.rows 0 [] 0 true,.rows 3 (r.map aM) 1 true]):=by
 have h:evF Tryz.prog xM (k+1) 0 79 [.ro (l.map aM)] []=gl Tryz.prog 63 [.ro (l.map aM)] []:=by kernel_rfl
 rw [h]
 exact gO (P:=Tryz.prog) (t:=63) (e:=129) (sz:=3) (bytes:=24) (enc:=aM) (by kernel_rfl) ⟨(eG Tryz.prog 129).getD default,by kernel_rfl,by kernel_rfl,by kernel_rfl⟩ (by kernel_rfl) (by kernel_rfl) (by kernel_rfl) (fun _=>rfl) l
theorem ad9 (k:Nat) (l:List (Int×Int×Int)):xC (k+1) none 79 [.ro (List.map aM l)]=ob (aL 24 l) fun r=>some (.ro (List.map aM r),[]):=by
 rw [aK,Fx]
 exact fF (fun _=>rfl) l 3
theorem Zp (k:Nat) (l:List (Int×Int×Int)):xC (k+1) (some fun _=>true) 79 [.ro (List.map aM l)]=ob (aL 24 l) fun r=>some (.own 0 0 r.length,[.rows 3 (List.map aM r) 0 true]):=by
 rw [aK,Fx]
 exact fK (fun _=>rfl) l 3
theorem ER (k:Nat) (l:List Int):evF Tryz.prog xM (k+1) 0 80 [.ro (l.map (aI .i64))] []=ob (aL 8 l) fun r=>some (.own 1 1 r.length,[.rows 0 [] 0 true,.rows 1 (r.map (aI .i64)) 1 true]):=by
 have h:evF Tryz.prog xM (k+1) 0 80 [.ro (l.map (aI .i64))] []=gl Tryz.prog 53 [.ro (l.map (aI .i64))] []:=by kernel_rfl
 rw [h]
 exact gO (P:=Tryz.prog) (t:=53) (e:=3) (sz:=1) (bytes:=8) (enc:=(aI .i64)) (by kernel_rfl) ⟨(eG Tryz.prog 3).getD default,by kernel_rfl,by kernel_rfl,by kernel_rfl⟩ (by kernel_rfl) (by kernel_rfl) (by kernel_rfl) (fun _=>rfl) l
theorem ac0 (k:Nat) (l:List Int):xC (k+1) none 80 [.ro (List.map (aI .i64) l)]=ob (aL 8 l) fun r=>some (.ro (List.map (aI .i64) r),[]):=by
 rw [aK,ER]
 exact fF (fun _=>rfl) l 1
theorem Y3 (k:Nat) (l:List Int):xC (k+1) (some fun _=>true) 80 [.ro (List.map (aI .i64) l)]=ob (aL 8 l) fun r=>some (.own 0 0 r.length,[.rows 1 (List.map (aI .i64) r) 0 true]):=by
 rw [aK,ER]
 exact fK (fun _=>rfl) l 1
theorem BZ (k:Nat) (l:List (Int×List Int)):evF Tryz.prog xM (k+1) 0 102 [.ro (l.map ao)] []=ob (aL 32 l) fun r=>some (.own 1 1 r.length,[.rows 0 [] 0 true,.rows 2 (r.map ao) 1 true]):=by
 have h:evF Tryz.prog xM (k+1) 0 102 [.ro (l.map ao)] []=gl Tryz.prog 24 [.ro (l.map ao)] []:=by kernel_rfl
 rw [h]
 exact gO (P:=Tryz.prog) (t:=24) (e:=101) (sz:=2) (bytes:=32) (enc:=ao) (by kernel_rfl) ⟨(eG Tryz.prog 101).getD default,by kernel_rfl,by kernel_rfl,by kernel_rfl⟩ (by kernel_rfl) (by kernel_rfl) (by kernel_rfl) (fun _=>rfl) l
theorem Y0 (k:Nat) (l:List (Int×List Int)):xC (k+1) none 102 [.ro (List.map ao l)]=ob (aL 32 l) fun r=>some (.ro (List.map ao r),[]):=by
 rw [aK,BZ]
 exact fF kz l 2
theorem U0 (k:Nat) (l:List (Int×List Int)):xC (k+1) (some fun _=>true) 102 [.ro (List.map ao l)]=ob (aL 32 l) fun r=>some (.own 0 0 r.length,[.rows 2 (List.map ao r) 0 true]):=by
 rw [aK,BZ]
 exact fK kz l 2
theorem JP (k:Nat):xC (k+1) none 76 [.nil]=some (.ro [],[]):=by kernel_rfl
theorem Bh (k:Nat):xC (k+1) (some fun _=>true) 76 [.nil]=some (.own 0 0 0,[.rows 1 [] 0 true]):=by kernel_rfl
theorem IB (k:Nat):xC (k+1) none 77 [.nil]=some (.ro [],[]):=by kernel_rfl
theorem Cf (k:Nat):xC (k+1) (some fun _=>true) 77 [.nil]=some (.own 0 0 0,[.rows 11 [] 0 true]):=by kernel_rfl
theorem IX (k:Nat):xC (k+1) none 78 [.nil]=some (.ro [],[]):=by kernel_rfl
theorem Cj (k:Nat):xC (k+1) (some fun _=>true) 78 [.nil]=some (.own 0 0 0,[.rows 9 [] 0 true]):=by kernel_rfl
theorem IO (k:Nat):xC (k+1) none 79 [.nil]=some (.ro [],[]):=by kernel_rfl
theorem BP (k:Nat):xC (k+1) (some fun _=>true) 79 [.nil]=some (.own 0 0 0,[.rows 3 [] 0 true]):=by kernel_rfl
theorem KM (k:Nat):xC (k+1) none 80 [.nil]=some (.ro [],[]):=by kernel_rfl
theorem CB (k:Nat):xC (k+1) (some fun _=>true) 80 [.nil]=some (.own 0 0 0,[.rows 1 [] 0 true]):=by kernel_rfl
theorem CV (k:Nat):xC (k+1) none 102 [.nil]=some (.ro [],[]):=by kernel_rfl
theorem r9 (k:Nat):xC (k+1) (some fun _=>true) 102 [.nil]=some (.own 0 0 0,[.rows 2 [] 0 true]):=by kernel_rfl
theorem Xl {k id g len:Nat} {a b:Int} {H:Hp}:evF Tryz.prog xM (k+1) 0 62 [.own id g len,.lit (.int .i64 a),.lit (.int .i64 b)] H=dlB id g len a b H H[id]? := by
 rw [Vy (by rfl),Vm]
def xQ0:=PLift.up (And.intro (And.intro (And.intro (And.intro (And.intro (And.intro @xF @XX) @W3) (And.intro @ZH @Ym)) (And.intro (And.intro (And.intro @afK @OE) @W9) (And.intro @abW @xR.eq_1))) (And.intro (And.intro (And.intro (And.intro @xA.eq_1 @abb) @YC) (And.intro @aee @X6)) (And.intro (And.intro @adG @Wg) (And.intro @ad9 @Zp)))) (And.intro (And.intro (And.intro (And.intro (And.intro @ac0 @Y3) @Y0) (And.intro @U0 @JP)) (And.intro (And.intro @Bh @IB) (And.intro @Cf @IX))) (And.intro (And.intro (And.intro (And.intro @Cj @IO) @BP) (And.intro @KM @CB)) (And.intro (And.intro @CV @r9) (And.intro @Xl @NH)))))
theorem xQ:type_of% xQ0.down:=xQ0.down
end Go.Ab
