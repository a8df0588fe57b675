/- slices.Repeat of one row, some times: a block of its own of as many rows. -/
import Derived.Test.YthnifkacfonhgaaAbLibB
import Derived.Test.YthnifkacfonhgaaR2Mul
import Derived.Laws.IdiomCopy
import Derived.Deep.RegionLaw
set_option linter.unusedVariables false
set_option linter.unusedSimpArgs false
set_option linter.unusedVariables false
namespace Go.Ab
open Go.Proofs Go.RowKit
theorem wp_copyR {P : Program} (w : World) {o : Oper} {a : Act} {K : Act → World → Prop} {Q : Exit → Act → World → Prop} (d s : Operand) (t t' : TypeId)
    (ho : o.op = .call { callee := .builtin .copy, args := #[d, s], argTypes := #[t, t'] }) (v u : Value) (hd : a.eval d = v) (hs : a.eval s = u) {v' : Value} {w' : World}
    (hr : (Builtin.copy_ #[t, t'] o.type #[v, u]).run P w = .ok v' w') (h : K (a.put o.dst v') w') : o.wp P a w K Q := by
  unfold Oper.wp execOp
  simp only [ho, resolve, invoke, builtin, Sem.run_bind, Sem.run_pure, Result.andThen_ok, List.map_toArray, List.map_cons, List.map_nil, hd, hs, hr]
  exact h
theorem wpList_copyR {P : Program} (w : World) {ops : Array Oper} {rest : List Oper} {o : Oper} {a : Act} {Q : Exit → Act → World → Prop} (hgd : o.guard = none) (d s : Operand) (t t' : TypeId)
    (ho : o.op = .call { callee := .builtin .copy, args := #[d, s], argTypes := #[t, t'] }) (v u : Value) (hd : a.eval d = v) (hs : a.eval s = u) {v' : Value} {w' : World}
    (hr : (Builtin.copy_ #[t, t'] o.type #[v, u]).run P w = .ok v' w') (h : wpList P ops Q rest (a.put o.dst v') w') : wpList P ops Q (o :: rest) a w :=
  wpList_plain hgd fun _ hK => wp_copyR w d s t t' ho v u hd hs hr (hK _ _ h)
theorem step_copyR {P : Program} {ops : Array Oper} {o : Oper} {a : Act} {w : World} {K : Act → World → Prop} {Q : Exit → Act → World → Prop} {E : Prop}
    (hg : o.guard = none) (d x : Operand) (dT sT : TypeId) (hop : o.op = Op.call { callee := Callee.builtin Builtin.copy, args := #[d, x], argTypes := #[dT, sT] })
    (v u : Value) (hd : a.eval d = v) (hx : a.eval x = u) {v' : Value} {w' : World} (hr : (Builtin.copy_ #[dT, sT] o.type #[v, u]).run P w = .ok v' w') (hK : K (a.put o.dst v') w') :
    if Region.wanted o (yielded ops a.tmps) = true then Oper.wp P o a w K Q else E := by
  have hw : Region.wanted o (yielded ops a.tmps) = true := by simp [Region.wanted, hg]
  rw [if_pos hw]
  exact wp_copyR w d x dT sT hop v u hd hx hr hK
theorem run_copyN {P : Program} (w : World) (dT sT ty elem : TypeId) (b off dL dC sL sC size : Nat) (A : Option Addr) (arr : Array Value) (e : TypeId) (cs : List Value)
    (hu : P.underlying dT = some (.slice elem)) (hs : (P.info? elem).map (·.size) = some size)
    (hsrc : (Builtin.firstCells size (Nat.min sL dL) (.slice A sL sC)).run P w = .ok cs.toArray w)
    (hg : w.heap[b]? = some (.cells arr e (0, 0))) (hfit : off + cs.length ≤ arr.size) (h1 : ∀ v ∈ cs, v.oneCell' = true) :
    (Builtin.copy_ #[dT, sT] ty #[.slice (some ⟨b, off, none⟩) dL dC, .slice A sL sC]).run P w = .ok (goInt (Nat.min sL dL)) (w.setRow b (splC arr off cs)) := by
  have hst := storeCells_run (P := P) (w := w) (b := b) (off := off) hg cs 0 arr w hg (by simpa using hfit) h1
  rw [Nat.add_zero] at hst
  cases hq : P.info? elem with
  | none => simp [hq] at hs
  | some i =>
    have hi : i.size = size := by simpa [hq] using hs
    simp [Builtin.copy_, run_underlying hu, Builtin.lenOf, sizeOf, typeInfo, hq, hi, hsrc, hst]
structure RowsAt (w wr : World) (n c size : Nat) (e : TypeId) (row : List Value) : Prop where
  below : Below w.heap.size w wr
  arr : ∃ arr : Array Value, wr.heap[w.heap.size]? = some (.cells arr e (0, 0)) ∧ arr.size = c * size ∧ ∀ i j, i < n → j < size → arr[i * size + j]? = row[j]?
theorem RowsAt.more {P : Program} {w wr : World} {n c size : Nat} {e : TypeId} {row : List Value} (h : RowsAt w wr n c size e row) (hl : row.length = size) (ho : ∀ v ∈ row, v.oneCell' = true) {m : Nat} (hm : n + m ≤ c)
    {cs : List Value} (hcl : cs.length = m * size) (hc : ∀ i j, i < m → j < size → cs[i * size + j]? = row[j]?) {dT sT ty : TypeId} {dL dC sL sC : Nat} {A : Option Addr}
    (hu : P.underlying dT = some (.slice e)) (hs : (P.info? e).map (·.size) = some size) (hmin : Nat.min sL dL = m)
    (hsrc : (Builtin.firstCells size m (.slice A sL sC)).run P wr = .ok cs.toArray wr) :
    ∃ wr', (Builtin.copy_ #[dT, sT] ty #[.slice (some ⟨w.heap.size, n * size, none⟩) dL dC, .slice A sL sC]).run P wr = .ok (goInt m) wr' ∧ RowsAt w wr' (n + m) c size e row := by
  obtain ⟨hb, arr, hg, hsz, hrows⟩ := h
  have hfit : n * size + cs.length ≤ arr.size := by
    rw [hcl, hsz, ← Nat.add_mul]
    exact Nat.mul_le_mul_right _ hm
  have hone : ∀ v ∈ cs, v.oneCell' = true := by
    intro v hv
    obtain ⟨k, hk, rfl⟩ := List.mem_iff_getElem.1 hv
    have hs0 : size ≠ 0 := by
      intro h0
      subst h0
      rw [Nat.mul_zero] at hcl
      omega
    have hk2 : k / size < m := Nat.div_lt_of_lt_mul (by rw [Nat.mul_comm]; omega)
    have hk3 : k % size < size := Nat.mod_lt _ (by omega)
    have := hc (k / size) (k % size) hk2 hk3
    rw [Nat.div_add_mod', List.getElem?_eq_getElem hk, List.getElem?_eq_getElem (by omega)] at this
    rw [Option.some.inj this]
    exact ho _ (List.getElem_mem _)
  have hrun := run_copyN (P := P) wr dT sT ty e w.heap.size (n * size) dL dC sL sC size A arr e cs hu hs (by rw [hmin]; exact hsrc) hg hfit hone
  rw [hmin] at hrun
  refine ⟨_, hrun, hb.trans (setRow_below (Nat.le_refl _)), splC arr (n * size) cs, setRow_heap wr w.heap.size arr _ e _ hg, by rw [splC_size, hsz], ?_⟩
  intro i j hi hj
  rw [splC_get cs arr (n * size) (i * size + j) hfit, hcl]
  by_cases h1 : i < n
  · have : i * size + j < n * size := rowLt h1 hj
    rw [if_neg (by omega)]
    exact hrows i j h1 hj
  · obtain ⟨d, rfl⟩ : ∃ d, i = n + d := ⟨i - n, by omega⟩
    have h2 : d * size + j < m * size := rowLt (by omega) hj
    rw [Nat.add_mul, if_pos (by omega), show n * size + d * size + j - n * size = d * size + j by omega]
    exact hc d j (by omega) hj
theorem RowsAt.drew {w wr : World} {n c size : Nat} {e : TypeId} {row : List Value} (h : RowsAt w wr n c size e row) : RowsAt w wr.drew n c size e row := ⟨h.below.drew, h.arr⟩
theorem RowsAt.load {P : Program} {w wr : World} {n c size : Nat} {e : TypeId} {row : List Value} (h : RowsAt w wr n c size e row) (hl : row.length = size) {m sL sC : Nat} (hm : m ≤ n) (hn : n ≤ c) :
    ∃ cs : List Value, cs.length = m * size ∧ (∀ i j, i < m → j < size → cs[i * size + j]? = row[j]?) ∧ (Builtin.firstCells size m (.slice (some ⟨w.heap.size, 0, none⟩) sL sC)).run P wr = .ok cs.toArray wr := by
  obtain ⟨hb, arr, hg, hsz, hrows⟩ := h
  have hle : m * size ≤ arr.size := by rw [hsz]; exact Nat.mul_le_mul_right _ (by omega)
  refine ⟨arr.toList.take (m * size), by simp; omega, ?_, ?_⟩
  · intro i j hi hj
    have : i * size + j < m * size := rowLt hi hj
    rw [List.getElem?_take_of_lt this, Array.getElem?_toList]
    exact hrows i j (by omega) hj
  · have hll : (arr.toList.take (m * size)).length = m * size := by simp; omega
    have := run_loadCells_list (P := P) wr ⟨w.heap.size, 0, none⟩ (arr.toList.take (m * size)) (fun j v hj => by
      have hj2 : j < m * size := by have := (List.getElem?_eq_some_iff.1 hj).1; omega
      rw [List.getElem?_take_of_lt hj2, Array.getElem?_toList] at hj
      rw [add_plain', Nat.zero_add, World.cell?, hg]
      simpa using hj)
    rw [hll] at this
    exact this
set_option maxRecDepth 100000 in
set_option maxHeartbeats 2000000 in
theorem rep_walk (w : World) (A : Option Addr) (cap c : Nat) (h1 : 1 ≤ c) (h8 : c ≤ 8) (row : List Value) (hl : row.length = 7) (ho : ∀ v ∈ row, v.oneCell' = true)
    (hsrc : ∀ w', Below w.heap.size w w' → (Builtin.firstCells 7 1 (.slice A 1 cap)).run Try.prog w' = .ok row.toArray w') :
    Calls Try.prog 84 #[.slice A 1 cap, .int .i64 (c : Int)] w fun e w' => e = .returned (.slice (some ⟨w.heap.size, 0, none⟩) c c) ∧ RowsAt w w' c c 7 28 row := by
  have c64 := mul_walk w c h1 h8
  have hs : (Try.prog.info? 28).map (·.size) = some 7 := by kernel_rfl
  obtain ⟨i, hi, hsi⟩ : ∃ i, Try.prog.info? 28 = some i ∧ i.size = 7 := by simpa [Option.map_eq_some_iff] using hs
  have h63 : (c : Int) ≤ 9223372036854775807 := by omega
  obtain ⟨w1, hmk, hR⟩ : ∃ w1, (Instr.makeSlice 53 (.int .i64 (c : Int)) (.int .i64 (c : Int))).run Try.prog w = .ok (.slice (some ⟨w.heap.size, 0, none⟩) c c) w1 ∧ RowsAt w w1 0 c 7 28 row := by
    obtain ⟨z, hz⟩ : ∃ z, zeroOf Try.prog 28 = some z := Option.isSome_iff_exists.1 (by kernel_rfl)
    obtain ⟨i', hi', hiz⟩ := zeroOf_some hz
    rw [hi] at hi'
    cases hi'
    have hb : i.bytes = 56 := by
      have : (Try.prog.info? 28).map (·.bytes) = some 56 := by kernel_rfl
      rw [hi] at this
      simpa using this
    have hrun := run_make (P := Try.prog) w 53 28 i z Try.underlying53 hi hiz .i64 .i64 c c (by omega) (Int.le_refl _) (by rw [hb]; omega) h63
    rw [hsi] at hrun
    exact ⟨_, hrun, Below.one_alloc _ _, _, alloc_new w _, size_madeCells _ _, fun i j h => absurd h (Nat.not_lt_zero _)⟩
  obtain ⟨w2, hcp1, hR2⟩ := hR.more (P := Try.prog) (dT := 53) (sT := 53) (ty := 3) (dL := c) (dC := c) (sL := 1) (sC := cap) (A := A) hl ho (m := 1) (by omega) (cs := row) (by rw [hl]) (fun i j hi hj => by
      have : i = 0 := by omega
      subst this
      rw [Nat.zero_mul, Nat.zero_add]) Try.underlying53 hs (by show min 1 c = 1; omega) (hsrc _ hR.below)
  rw [Nat.zero_mul] at hcp1
  rw [Nat.zero_add] at hR2
  go_enter Try.func84, Try.ntmps84
  go_wp2_with (first
    | (go_at_call 99; refine c64.mono ?_; rintro e w' ⟨rfl, hw⟩; rw [hw])
    | (at_builtin; refine wpList_copyR _ rfl _ _ 53 53 rfl _ _ rfl rfl hcp1 ?_))
  clear hcp1 hmk hR
  go_loopw [8] (fun v wr => ∃ n : Nat, 1 ≤ n ∧ n ≤ c ∧ v = .int .i64 n ∧ RowsAt w wr n c 7 28 row) (fun v _ => c - (intOf v).toNat)
  case atStart => exact ⟨1, Nat.le_refl _, h1, rfl, hR2⟩
  case round =>
    obtain ⟨n, hn1, hnc, rfl, hRn⟩ := hrel
    by_cases hlt : n < c
    · have hlt' : (n : Int) < (c : Int) := by omega
      obtain ⟨m, hm, hmn, hmc, hm1⟩ : ∃ m, Nat.min n (c - n) = m ∧ m ≤ n ∧ n + m ≤ c ∧ 1 ≤ m := ⟨min n (c - n), rfl, by omega, by omega, by omega⟩
      have hsl1 : ∀ W, (Instr.slice 53 (.slice (some ⟨w.heap.size, 0, none⟩) c c) (some (.int .i64 (n : Int))) none none).run Try.prog W = .ok (.slice (some ⟨w.heap.size, n * 7, none⟩) (c - n) (c - n)) W := by
        intro W
        rw [run_slice_l W 53 _ _ _ (by rw [Try.underlying53]; rfl) .i64 n (by omega) (by omega)]
        have hz : (sizeOf (Try.prog.elem 53)).run Try.prog W = .ok 7 W := by
          have : Try.prog.elem 53 = 28 := by simp [Program.elem, Try.underlying53]
          rw [this, run_size hi, show szOf Try.prog 28 = 7 by kernel_rfl]
        rw [hz]
        simp only [Result.andThen, sliced, Option.map_some, Addr.add, Int.toNat_natCast]
        rw [if_neg (by omega)]
        simp
        omega
      have hsl2 : ∀ W, (Instr.slice 53 (.slice (some ⟨w.heap.size, 0, none⟩) c c) none (some (.int .i64 (n : Int))) none).run Try.prog W = .ok (.slice (some ⟨w.heap.size, 0, none⟩) n c) W := by
        intro W
        rw [run_slice_h W 53 _ _ _ (by rw [Try.underlying53]; rfl) .i64 n (by omega) (by omega)]
        have hz : (sizeOf (Try.prog.elem 53)).run Try.prog W = .ok 7 W := by
          have : Try.prog.elem 53 = 28 := by simp [Program.elem, Try.underlying53]
          rw [this, run_size hi, show szOf Try.prog 28 = 7 by kernel_rfl]
        rw [hz]
        simp [Result.andThen, sliced, Addr.add]
      obtain ⟨cs, hcl, hcs, hld⟩ := hRn.drew.load (P := Try.prog) (m := m) (sL := n) (sC := c) hl hmn hnc
      obtain ⟨w3, hcp2, hR3⟩ := hRn.drew.more (P := Try.prog) (dT := 53) (sT := 53) (ty := 3) (dL := c - n) (dC := c - n) (sL := n) (sC := c) hl ho hmc hcl hcs Try.underlying53 hs hm hld
      go_wp2
      go_region_law (refine step_copyR rfl _ _ 53 53 rfl (.slice (some ⟨w.heap.size, n * 7, none⟩) (c - n) (c - n)) (.slice (some ⟨w.heap.size, 0, none⟩) n c) (by simp [Act.eval, Act.put]) (by simp [Act.eval, Act.put]) hcp2 ?_)
      have hwr : IntKind.i64.wrap ((n : Int) + (m : Int)) = ((n + m : Nat) : Int) := by rw [IntKind.wrap_i64]; omega
      simp [Act.put, hwr]
      go_roundw
      case rel =>
        have R : 1 ≤ n + m ∧ n + m ≤ c ∧ Value.int .i64 ((n + m : Nat) : Int) = .int .i64 ((n + m : Nat) : Int) ∧ RowsAt w w3 (n + m) c 7 28 row := ⟨by omega, hmc, rfl, hR3⟩
        first
          | exact ⟨n + m, R⟩
          | ((repeat apply Exists.intro); exact ⟨⟨n + m, R⟩, rfl⟩)
      case measure => simp [hwr, intOf]; omega
    · have hnl : ¬ (n : Int) < (c : Int) := by omega
      have : n = c := by omega
      subst this
      go_wp2
      go_ret
      exact ⟨rfl, hRn⟩
def repO (args : List V) (H : Hp) : Option (V × Hp) :=
  match args with
  | [x, .lit (.int .i64 n)] => (rowsOf x H).bind fun rs =>
      match rs with
      | [r] => if okRows 7 [r] && (Nat.ble 1 n.toNat && Nat.ble n.toNat 8) then some (.own H.length 0 n.toNat, H ++ [.rows 7 (List.replicate n.toNat r) 0 true]) else none
      | _ => none
  | _ => none
theorem rep_calls {B0 : Nat} {w0 w : World} {R : Ro} {σ : List Sg} {H H' : Hp} {args : List V} {v : V} (h : repO args H = some (v, H')) {cargs : Array Value} (hI : Inv 0 B0 w0 R σ H w) (hA : RelA R σ args cargs) :
    Calls Try.prog 84 cargs w (Ends 0 B0 w0 R σ w v H') := by
  unfold repO at h
  split at h
  · rename_i x n
    simp only [Option.bind_eq_some_iff] at h
    obtain ⟨rs, hrs, h⟩ := h
    split at h
    · rename_i r
      split at h
      · rename_i hc
        simp only [Bool.and_eq_true] at hc
        obtain ⟨hok, hn1, hn8⟩ := hc
        have hn1 := Nat.le_of_ble_eq_true hn1
        have hn8 := Nat.le_of_ble_eq_true hn8
        cases h
        obtain ⟨cx, l, hl, hx, hA⟩ := hA.uncons
        obtain ⟨cn, l2, hl2, hn, hA⟩ := hA.uncons
        have hl3 : l2 = [] := by simpa using hA.nil_inv
        subst hl3
        have hl4 : l = [cn] := by simpa using hl2
        subst hl4
        have hcn := hn.lit_inv
        subst hcn
        subst hl
        obtain ⟨A, cap, news, hcx, hnl, hno, hr, hcs, hld⟩ := rowsOf_run (P := Try.prog) hI hrs hx hok (by decide)
        subst hcx
        obtain ⟨c, rfl⟩ : ∃ c : Nat, n = c := ⟨n.toNat, by omega⟩
        simp only [Int.toNat_natCast] at hn1 hn8 ⊢
        have hw := rep_walk w A cap c hn1 hn8 news (by rw [hnl]; rfl) hno hld
        refine hw.mono ?_
        rintro e w' ⟨rfl, hR⟩
        obtain ⟨hb, arr, hg, hsz, hrows⟩ := hR
        have hlt : w.heap.size < w'.heap.size := (Array.getElem?_eq_some_iff.1 hg).1
        obtain ⟨hrl, hro⟩ := hr r (by simp)
        let s : Sg := ⟨some w.heap.size, 0, 7, c * 7, false⟩
        have key : ∀ (i j : Nat) (q : List V) (y : V), (List.replicate c r)[i]? = some q → q[j]? = some y → ∃ cv, arr[i * 7 + j]? = some cv ∧ RelV R (σ ++ [s]) y cv := by
          intro i j q y hi hj
          rw [List.getElem?_replicate] at hi
          split at hi
          · rename_i hic
            cases hi
            have hj7 : j < 7 := by have := (List.getElem?_eq_some_iff.1 hj).1; omega
            obtain ⟨cv, hcv, hrel⟩ := hcs 0 j r y rfl hj
            rw [Nat.zero_mul, Nat.zero_add] at hcv
            exact ⟨cv, by rw [hrows i j hic hj7, hcv], hrel.mono (RoLe.refl R) (Ext.append σ [s])⟩
          · cases hi
        have hp := hI.push_stp (T := TB B0) (b := .rows 7 (List.replicate c r) 0 true) (s := s) hb (fun k hk => by cases hk; exact ⟨Nat.le_refl _, hlt⟩)
          ⟨rfl, rfl, fun _ => by decide, fun q hq => by rw [(List.mem_replicate.1 hq).2]; exact ⟨hrl, hro⟩, arr, 28, hg, hsz, key, fun o ho => absurd (hI.ro_new o) ho⟩
        refine ⟨R, σ ++ [s], hp, ?_, Nat.le_of_lt hlt⟩
        exact .own _ _ _ _ _ _ s (by rw [← hI.len]; simp) rfl (Nat.le_refl _) (fun _ => ⟨rfl, (fun hb => by cases hb), fun b hb => by cases hb; exact ⟨rfl, Nat.le_refl _, Nat.le_refl _⟩⟩)
      · cases h
    · cases h
  · cases h
end Go.Ab
