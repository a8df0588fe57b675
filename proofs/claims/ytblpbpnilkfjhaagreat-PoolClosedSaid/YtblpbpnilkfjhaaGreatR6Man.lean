import Derived.Test.YtblpbpnilkfjhaaGreatR6Run
import Derived.Test.YtblpbpnilkfjhaaGreatR6Facts
set_option linter.unusedVariables false
set_option linter.unusedSimpArgs false
namespace Go.Ab
open Go.Proofs
theorem DP (k:Nat) (l:List Int):evF Tryz.prog xM (k+1) 0 76 [.ro (l.map (aG .u64))] []=ob (aJ 8 l) fun r=>some (.own 1 1 r.length,[.rows 0 [] 0 true,.rows 1 (r.map (aG .u64)) 1 true]):=by
 have h:evF Tryz.prog xM (k+1) 0 76 [.ro (l.map (aG .u64))] []=fV Tryz.prog 26 [.ro (l.map (aG .u64))] []:=by kernel_rfl
 rw [h]
 exact gn (P:=Tryz.prog) (t:=26) (e:=46) (sz:=1) (bytes:=8) (enc:=(aG .u64)) (by kernel_rfl) ⟨(ef Tryz.prog 46).getD default,by kernel_rfl,by kernel_rfl,by kernel_rfl⟩ (by kernel_rfl) (by kernel_rfl) (by kernel_rfl) (fun _=>rfl) l
theorem aaM (k:Nat) (l:List Int):xC (k+1) none 76 [.ro (List.map (aG .u64) l)]=ob (aJ 8 l) fun r=>some (.ro (List.map (aG .u64) r),[]):=by
 rw [aM,DP]
 exact fm (fun _=>rfl) l 1
theorem YO (k:Nat) (l:List Int):xC (k+1) (some fun _=>true) 76 [.ro (List.map (aG .u64) l)]=ob (aJ 8 l) fun r=>some (.own 0 0 r.length,[.rows 1 (List.map (aG .u64) r) 0 true]):=by
 rw [aM,DP]
 exact fu (fun _=>rfl) l 1
theorem E8 (k:Nat) (l:List (Int×List (Int×Int×Int)×(Int×Int×Int×Int×Int×Int×Int)×Int×Int)):evF Tryz.prog xM (k+1) 0 77 [.ro (l.map aH)] []=ob (aJ 104 l) fun r=>some (.own 1 1 r.length,[.rows 0 [] 0 true,.rows 11 (r.map aH) 1 true]):=by
 have h:evF Tryz.prog xM (k+1) 0 77 [.ro (l.map aH)] []=fV Tryz.prog 27 [.ro (l.map aH)] []:=by kernel_rfl
 rw [h]
 exact gn (P:=Tryz.prog) (t:=27) (e:=65) (sz:=11) (bytes:=104) (enc:=aH) (by kernel_rfl) ⟨(ef Tryz.prog 65).getD default,by kernel_rfl,by kernel_rfl,by kernel_rfl⟩ (by kernel_rfl) (by kernel_rfl) (by kernel_rfl) (fun _=>rfl) l
theorem Zs (k:Nat) (l:List (Int×List (Int×Int×Int)×(Int×Int×Int×Int×Int×Int×Int)×Int×Int)):xC (k+1) none 77 [.ro (List.map aH l)]=ob (aJ 104 l) fun r=>some (.ro (List.map aH r),[]):=by
 rw [aM,E8]
 exact fm gm l 11
theorem YC (k:Nat) (l:List (Int×List (Int×Int×Int)×(Int×Int×Int×Int×Int×Int×Int)×Int×Int)):xC (k+1) (some fun _=>true) 77 [.ro (List.map aH l)]=ob (aJ 104 l) fun r=>some (.own 0 0 r.length,[.rows 11 (List.map aH r) 0 true]):=by
 rw [aM,E8]
 exact fu gm l 11
theorem Eb (k:Nat) (l:List (Int×List Int×Int×Int×Int×Int×Int×Int×Int)):evF Tryz.prog xM (k+1) 0 78 [.ro (l.map bL)] []=ob (aJ 88 l) fun r=>some (.own 1 1 r.length,[.rows 0 [] 0 true,.rows 9 (r.map bL) 1 true]):=by
 have h:evF Tryz.prog xM (k+1) 0 78 [.ro (l.map bL)] []=fV Tryz.prog 28 [.ro (l.map bL)] []:=by kernel_rfl
 rw [h]
 exact gn (P:=Tryz.prog) (t:=28) (e:=57) (sz:=9) (bytes:=88) (enc:=bL) (by kernel_rfl) ⟨(ef Tryz.prog 57).getD default,by kernel_rfl,by kernel_rfl,by kernel_rfl⟩ (by kernel_rfl) (by kernel_rfl) (by kernel_rfl) (fun _=>rfl) l
theorem Zm (k:Nat) (l:List (Int×List Int×Int×Int×Int×Int×Int×Int×Int)):xC (k+1) none 78 [.ro (List.map bL l)]=ob (aJ 88 l) fun r=>some (.ro (List.map bL r),[]):=by
 rw [aM,Eb]
 exact fm i5 l 9
theorem T7 (k:Nat) (l:List (Int×List Int×Int×Int×Int×Int×Int×Int×Int)):xC (k+1) (some fun _=>true) 78 [.ro (List.map bL l)]=ob (aJ 88 l) fun r=>some (.own 0 0 r.length,[.rows 9 (List.map bL r) 0 true]):=by
 rw [aM,Eb]
 exact fu i5 l 9
theorem Eh (k:Nat) (l:List (Int×Int×Int)):evF Tryz.prog xM (k+1) 0 79 [.ro (l.map aE)] []=ob (aJ 24 l) fun r=>some (.own 1 1 r.length,[.rows 0 [] 0 true,.rows 3 (r.map aE) 1 true]):=by
 have h:evF Tryz.prog xM (k+1) 0 79 [.ro (l.map aE)] []=fV Tryz.prog 63 [.ro (l.map aE)] []:=by kernel_rfl
 rw [h]
 exact gn (P:=Tryz.prog) (t:=63) (e:=129) (sz:=3) (bytes:=24) (enc:=aE) (by kernel_rfl) ⟨(ef Tryz.prog 129).getD default,by kernel_rfl,by kernel_rfl,by kernel_rfl⟩ (by kernel_rfl) (by kernel_rfl) (by kernel_rfl) (fun _=>rfl) l
theorem aaR (k:Nat) (l:List (Int×Int×Int)):xC (k+1) none 79 [.ro (List.map aE l)]=ob (aJ 24 l) fun r=>some (.ro (List.map aE r),[]):=by
 rw [aM,Eh]
 exact fm (fun _=>rfl) l 3
theorem Ul (k:Nat) (l:List (Int×Int×Int)):xC (k+1) (some fun _=>true) 79 [.ro (List.map aE l)]=ob (aJ 24 l) fun r=>some (.own 0 0 r.length,[.rows 3 (List.map aE r) 0 true]):=by
 rw [aM,Eh]
 exact fu (fun _=>rfl) l 3
theorem Ea (k:Nat) (l:List Int):evF Tryz.prog xM (k+1) 0 80 [.ro (l.map (aG .i64))] []=ob (aJ 8 l) fun r=>some (.own 1 1 r.length,[.rows 0 [] 0 true,.rows 1 (r.map (aG .i64)) 1 true]):=by
 have h:evF Tryz.prog xM (k+1) 0 80 [.ro (l.map (aG .i64))] []=fV Tryz.prog 53 [.ro (l.map (aG .i64))] []:=by kernel_rfl
 rw [h]
 exact gn (P:=Tryz.prog) (t:=53) (e:=3) (sz:=1) (bytes:=8) (enc:=(aG .i64)) (by kernel_rfl) ⟨(ef Tryz.prog 3).getD default,by kernel_rfl,by kernel_rfl,by kernel_rfl⟩ (by kernel_rfl) (by kernel_rfl) (by kernel_rfl) (fun _=>rfl) l
theorem acw (k:Nat) (l:List Int):xC (k+1) none 80 [.ro (List.map (aG .i64) l)]=ob (aJ 8 l) fun r=>some (.ro (List.map (aG .i64) r),[]):=by
 rw [aM,Ea]
 exact fm (fun _=>rfl) l 1
theorem Xh (k:Nat) (l:List Int):xC (k+1) (some fun _=>true) 80 [.ro (List.map (aG .i64) l)]=ob (aJ 8 l) fun r=>some (.own 0 0 r.length,[.rows 1 (List.map (aG .i64) r) 0 true]):=by
 rw [aM,Ea]
 exact fu (fun _=>rfl) l 1
theorem xJ (k:Nat) (l:List (Int×List Int)):evF Tryz.prog xM (k+1) 0 102 [.ro (l.map an)] []=ob (aJ 32 l) fun r=>some (.own 1 1 r.length,[.rows 0 [] 0 true,.rows 2 (r.map an) 1 true]):=by
 have h:evF Tryz.prog xM (k+1) 0 102 [.ro (l.map an)] []=fV Tryz.prog 24 [.ro (l.map an)] []:=by kernel_rfl
 rw [h]
 exact gn (P:=Tryz.prog) (t:=24) (e:=101) (sz:=2) (bytes:=32) (enc:=an) (by kernel_rfl) ⟨(ef Tryz.prog 101).getD default,by kernel_rfl,by kernel_rfl,by kernel_rfl⟩ (by kernel_rfl) (by kernel_rfl) (by kernel_rfl) (fun _=>rfl) l
theorem WZ (k:Nat) (l:List (Int×List Int)):xC (k+1) none 102 [.ro (List.map an l)]=ob (aJ 32 l) fun r=>some (.ro (List.map an r),[]):=by
 rw [aM,xJ]
 exact fm ik l 2
theorem RW (k:Nat) (l:List (Int×List Int)):xC (k+1) (some fun _=>true) 102 [.ro (List.map an l)]=ob (aJ 32 l) fun r=>some (.own 0 0 r.length,[.rows 2 (List.map an r) 0 true]):=by
 rw [aM,xJ]
 exact fu ik l 2
theorem M1 (k:Nat):xC (k+1) none 76 [.nil]=some (.ro [],[]):=by kernel_rfl
theorem DV (k:Nat):xC (k+1) (some fun _=>true) 76 [.nil]=some (.own 0 0 0,[.rows 1 [] 0 true]):=by kernel_rfl
theorem K0 (k:Nat):xC (k+1) none 77 [.nil]=some (.ro [],[]):=by kernel_rfl
theorem DO (k:Nat):xC (k+1) (some fun _=>true) 77 [.nil]=some (.own 0 0 0,[.rows 11 [] 0 true]):=by kernel_rfl
theorem Nb (k:Nat):xC (k+1) none 78 [.nil]=some (.ro [],[]):=by kernel_rfl
theorem EZ (k:Nat):xC (k+1) (some fun _=>true) 78 [.nil]=some (.own 0 0 0,[.rows 9 [] 0 true]):=by kernel_rfl
theorem NP (k:Nat):xC (k+1) none 79 [.nil]=some (.ro [],[]):=by kernel_rfl
theorem EL (k:Nat):xC (k+1) (some fun _=>true) 79 [.nil]=some (.own 0 0 0,[.rows 3 [] 0 true]):=by kernel_rfl
theorem Nv (k:Nat):xC (k+1) none 80 [.nil]=some (.ro [],[]):=by kernel_rfl
theorem EK (k:Nat):xC (k+1) (some fun _=>true) 80 [.nil]=some (.own 0 0 0,[.rows 1 [] 0 true]):=by kernel_rfl
theorem E3 (k:Nat):xC (k+1) none 102 [.nil]=some (.ro [],[]):=by kernel_rfl
theorem u9 (k:Nat):xC (k+1) (some fun _=>true) 102 [.nil]=some (.own 0 0 0,[.rows 2 [] 0 true]):=by kernel_rfl
theorem UY {k id g len:Nat} {a b:Int} {H:Hp}:evF Tryz.prog xM (k+1) 0 62 [.own id g len,.lit (.int .i64 a),.lit (.int .i64 b)] H=dlB id g len a b H H[id]? := by
 rw [Sn (by rfl),Sk]
def xQ0:=PLift.up (And.intro (And.intro (And.intro (And.intro (And.intro (And.intro @xF @Yb) @Vr) (And.intro @VB @X7)) (And.intro (And.intro (And.intro @adR @Kq) @VI) (And.intro @acn @xR.eq_1))) (And.intro (And.intro (And.intro (And.intro @xA.eq_1 @aaM) @YO) (And.intro @Zs @YC)) (And.intro (And.intro @Zm @T7) (And.intro @aaR @Ul)))) (And.intro (And.intro (And.intro (And.intro (And.intro @acw @Xh) @WZ) (And.intro @RW @M1)) (And.intro (And.intro @DV @K0) (And.intro @DO @Nb))) (And.intro (And.intro (And.intro (And.intro @EZ @NP) @EL) (And.intro @Nv @EK)) (And.intro (And.intro @E3 @u9) (And.intro @UY @K3)))))
theorem xQ:type_of% xQ0.down:=xQ0.down
end Go.Ab
