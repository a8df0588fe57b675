import Derived.Test.YtblpbpnilkfjhaaGreatR6Run
import Derived.Test.YtblpbpnilkfjhaaGreatR6Facts
set_option linter.unusedVariables false
set_option linter.unusedSimpArgs false
namespace Go.Ab
open Go.Proofs
theorem ID (k:Nat) (l:List Int):evF Tryz.prog xM (k+1) 0 76 [.ro (l.map (aF .u64))] []=ob (aQ 8 l) fun r=>some (.own 1 1 r.length,[.rows 0 [] 0 true,.rows 1 (r.map (aF .u64)) 1 true]):=by
 have h:evF Tryz.prog xM (k+1) 0 76 [.ro (l.map (aF .u64))] []=iE Tryz.prog 26 [.ro (l.map (aF .u64))] []:=by kernel_rfl
 rw [h]
 exact i7 (P:=Tryz.prog) (t:=26) (e:=46) (sz:=1) (bytes:=8) (enc:=(aF .u64)) (by kernel_rfl) ⟨(fC Tryz.prog 46).getD default,by kernel_rfl,by kernel_rfl,by kernel_rfl⟩ (by kernel_rfl) (by kernel_rfl) (by kernel_rfl) (fun _=>rfl) l
theorem agW (k:Nat) (l:List Int):xC (k+1) none 76 [.ro (List.map (aF .u64) l)]=ob (aQ 8 l) fun r=>some (.ro (List.map (aF .u64) r),[]):=by
 rw [aH,ID]
 exact gT (fun _=>rfl) l 1
theorem acr (k:Nat) (l:List Int):xC (k+1) (some fun _=>true) 76 [.ro (List.map (aF .u64) l)]=ob (aQ 8 l) fun r=>some (.own 0 0 r.length,[.rows 1 (List.map (aF .u64) r) 0 true]):=by
 rw [aH,ID]
 exact gR (fun _=>rfl) l 1
theorem Il (k:Nat) (l:List Tyw):evF Tryz.prog xM (k+1) 0 77 [.ro (l.map aK)] []=ob (aQ 104 l) fun r=>some (.own 1 1 r.length,[.rows 0 [] 0 true,.rows 11 (r.map aK) 1 true]):=by
 have h:evF Tryz.prog xM (k+1) 0 77 [.ro (l.map aK)] []=iE Tryz.prog 27 [.ro (l.map aK)] []:=by kernel_rfl
 rw [h]
 exact i7 (P:=Tryz.prog) (t:=27) (e:=65) (sz:=11) (bytes:=104) (enc:=aK) (by kernel_rfl) ⟨(fC Tryz.prog 65).getD default,by kernel_rfl,by kernel_rfl,by kernel_rfl⟩ (by kernel_rfl) (by kernel_rfl) (by kernel_rfl) (fun _=>rfl) l
theorem agv (k:Nat) (l:List Tyw):xC (k+1) none 77 [.ro (List.map aK l)]=ob (aQ 104 l) fun r=>some (.ro (List.map aK r),[]):=by
 rw [aH,Il]
 exact gT iY l 11
theorem adk (k:Nat) (l:List Tyw):xC (k+1) (some fun _=>true) 77 [.ro (List.map aK l)]=ob (aQ 104 l) fun r=>some (.own 0 0 r.length,[.rows 11 (List.map aK r) 0 true]):=by
 rw [aH,Il]
 exact gR iY l 11
theorem HI (k:Nat) (l:List Tys):evF Tryz.prog xM (k+1) 0 78 [.ro (l.map bD)] []=ob (aQ 88 l) fun r=>some (.own 1 1 r.length,[.rows 0 [] 0 true,.rows 9 (r.map bD) 1 true]):=by
 have h:evF Tryz.prog xM (k+1) 0 78 [.ro (l.map bD)] []=iE Tryz.prog 28 [.ro (l.map bD)] []:=by kernel_rfl
 rw [h]
 exact i7 (P:=Tryz.prog) (t:=28) (e:=57) (sz:=9) (bytes:=88) (enc:=bD) (by kernel_rfl) ⟨(fC Tryz.prog 57).getD default,by kernel_rfl,by kernel_rfl,by kernel_rfl⟩ (by kernel_rfl) (by kernel_rfl) (by kernel_rfl) (fun _=>rfl) l
theorem afL (k:Nat) (l:List Tys):xC (k+1) none 78 [.ro (List.map bD l)]=ob (aQ 88 l) fun r=>some (.ro (List.map bD r),[]):=by
 rw [aH,HI]
 exact gT lh l 9
theorem adr (k:Nat) (l:List Tys):xC (k+1) (some fun _=>true) 78 [.ro (List.map bD l)]=ob (aQ 88 l) fun r=>some (.own 0 0 r.length,[.rows 9 (List.map bD r) 0 true]):=by
 rw [aH,HI]
 exact gR lh l 9
theorem IM (k:Nat) (l:Tye):evF Tryz.prog xM (k+1) 0 79 [.ro (l.map aJ)] []=ob (aQ 24 l) fun r=>some (.own 1 1 r.length,[.rows 0 [] 0 true,.rows 3 (r.map aJ) 1 true]):=by
 have h:evF Tryz.prog xM (k+1) 0 79 [.ro (l.map aJ)] []=iE Tryz.prog 63 [.ro (l.map aJ)] []:=by kernel_rfl
 rw [h]
 exact i7 (P:=Tryz.prog) (t:=63) (e:=129) (sz:=3) (bytes:=24) (enc:=aJ) (by kernel_rfl) ⟨(fC Tryz.prog 129).getD default,by kernel_rfl,by kernel_rfl,by kernel_rfl⟩ (by kernel_rfl) (by kernel_rfl) (by kernel_rfl) (fun _=>rfl) l
theorem agx (k:Nat) (l:Tye):xC (k+1) none 79 [.ro (List.map aJ l)]=ob (aQ 24 l) fun r=>some (.ro (List.map aJ r),[]):=by
 rw [aH,IM]
 exact gT (fun _=>rfl) l 3
theorem aa6 (k:Nat) (l:Tye):xC (k+1) (some fun _=>true) 79 [.ro (List.map aJ l)]=ob (aQ 24 l) fun r=>some (.own 0 0 r.length,[.rows 3 (List.map aJ r) 0 true]):=by
 rw [aH,IM]
 exact gR (fun _=>rfl) l 3
theorem HS (k:Nat) (l:List Int):evF Tryz.prog xM (k+1) 0 80 [.ro (l.map (aF .i64))] []=ob (aQ 8 l) fun r=>some (.own 1 1 r.length,[.rows 0 [] 0 true,.rows 1 (r.map (aF .i64)) 1 true]):=by
 have h:evF Tryz.prog xM (k+1) 0 80 [.ro (l.map (aF .i64))] []=iE Tryz.prog 53 [.ro (l.map (aF .i64))] []:=by kernel_rfl
 rw [h]
 exact i7 (P:=Tryz.prog) (t:=53) (e:=3) (sz:=1) (bytes:=8) (enc:=(aF .i64)) (by kernel_rfl) ⟨(fC Tryz.prog 3).getD default,by kernel_rfl,by kernel_rfl,by kernel_rfl⟩ (by kernel_rfl) (by kernel_rfl) (by kernel_rfl) (fun _=>rfl) l
theorem aft (k:Nat) (l:List Int):xC (k+1) none 80 [.ro (List.map (aF .i64) l)]=ob (aQ 8 l) fun r=>some (.ro (List.map (aF .i64) r),[]):=by
 rw [aH,HS]
 exact gT (fun _=>rfl) l 1
theorem aaz (k:Nat) (l:List Int):xC (k+1) (some fun _=>true) 80 [.ro (List.map (aF .i64) l)]=ob (aQ 8 l) fun r=>some (.own 0 0 r.length,[.rows 1 (List.map (aF .i64) r) 0 true]):=by
 rw [aH,HS]
 exact gR (fun _=>rfl) l 1
theorem E7 (k:Nat) (l:Tyt):evF Tryz.prog xM (k+1) 0 102 [.ro (l.map an)] []=ob (aQ 32 l) fun r=>some (.own 1 1 r.length,[.rows 0 [] 0 true,.rows 2 (r.map an) 1 true]):=by
 have h:evF Tryz.prog xM (k+1) 0 102 [.ro (l.map an)] []=iE Tryz.prog 24 [.ro (l.map an)] []:=by kernel_rfl
 rw [h]
 exact i7 (P:=Tryz.prog) (t:=24) (e:=101) (sz:=2) (bytes:=32) (enc:=an) (by kernel_rfl) ⟨(fC Tryz.prog 101).getD default,by kernel_rfl,by kernel_rfl,by kernel_rfl⟩ (by kernel_rfl) (by kernel_rfl) (by kernel_rfl) (fun _=>rfl) l
theorem adV (k:Nat) (l:Tyt):xC (k+1) none 102 [.ro (List.map an l)]=ob (aQ 32 l) fun r=>some (.ro (List.map an r),[]):=by
 rw [aH,E7]
 exact gT lx l 2
theorem XS (k:Nat) (l:Tyt):xC (k+1) (some fun _=>true) 102 [.ro (List.map an l)]=ob (aQ 32 l) fun r=>some (.own 0 0 r.length,[.rows 2 (List.map an r) 0 true]):=by
 rw [aH,E7]
 exact gR lx l 2
theorem aeI (k:Nat):xC (k+1) none 76 [.nil]=some (.ro [],[]):=by kernel_rfl
theorem abd (k:Nat):xC (k+1) (some fun _=>true) 76 [.nil]=some (.own 0 0 0,[.rows 1 [] 0 true]):=by kernel_rfl
theorem af6 (k:Nat):xC (k+1) none 77 [.nil]=some (.ro [],[]):=by kernel_rfl
theorem adT (k:Nat):xC (k+1) (some fun _=>true) 77 [.nil]=some (.own 0 0 0,[.rows 11 [] 0 true]):=by kernel_rfl
theorem age (k:Nat):xC (k+1) none 78 [.nil]=some (.ro [],[]):=by kernel_rfl
theorem acI (k:Nat):xC (k+1) (some fun _=>true) 78 [.nil]=some (.own 0 0 0,[.rows 9 [] 0 true]):=by kernel_rfl
theorem ahF (k:Nat):xC (k+1) none 79 [.nil]=some (.ro [],[]):=by kernel_rfl
theorem adR (k:Nat):xC (k+1) (some fun _=>true) 79 [.nil]=some (.own 0 0 0,[.rows 3 [] 0 true]):=by kernel_rfl
theorem agJ (k:Nat):xC (k+1) none 80 [.nil]=some (.ro [],[]):=by kernel_rfl
theorem adD (k:Nat):xC (k+1) (some fun _=>true) 80 [.nil]=some (.own 0 0 0,[.rows 1 [] 0 true]):=by kernel_rfl
theorem Zs (k:Nat):xC (k+1) none 102 [.nil]=some (.ro [],[]):=by kernel_rfl
theorem V6 (k:Nat):xC (k+1) (some fun _=>true) 102 [.nil]=some (.own 0 0 0,[.rows 2 [] 0 true]):=by kernel_rfl
theorem ab8 {k id g len:Nat} {a b:Int} {H:Hp}:evF Tryz.prog xM (k+1) 0 62 [.own id g len,.lit (.int .i64 a),.lit (.int .i64 b)] H=dlB id g len a b H H[id]? := by
 rw [Zb (by rfl),Xj]
def xQ0:=PLift.up (And.intro (And.intro (And.intro (And.intro (And.intro (And.intro @xF @ab5) @acy) (And.intro @ZB @acG)) (And.intro (And.intro (And.intro @aks @QZ) @acU) (And.intro @ae0 @xR.eq_1))) (And.intro (And.intro (And.intro (And.intro @xA.eq_1 @agW) @acr) (And.intro @agv @adk)) (And.intro (And.intro @afL @adr) (And.intro @agx @aa6)))) (And.intro (And.intro (And.intro (And.intro (And.intro @aft @aaz) @adV) (And.intro @XS @aeI)) (And.intro (And.intro @abd @af6) (And.intro @adT @age))) (And.intro (And.intro (And.intro (And.intro @acI @ahF) @adR) (And.intro @agJ @adD)) (And.intro (And.intro @Zs @V6) (And.intro @ab8 @Pp)))))
theorem xQ:type_of% xQ0.down:=xQ0.down
end Go.Ab
