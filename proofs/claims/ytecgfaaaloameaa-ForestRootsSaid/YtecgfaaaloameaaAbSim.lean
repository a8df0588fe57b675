/- Operations on typed data: what each comes to, as rewriting rules. -/
import Derived.Test.YtecgfaaaloameaaAbStep
namespace Go.Ab
section combinators
variable {H : Hp} {K : V → Hp → Res} {k : Hp → Res} {A B C : Res}
@[congr] theorem bm_congr {x y : Option V} (h : x = y) : bm x H K = bm y H K := by rw [h]
@[congr] theorem bp_congr {x y : Option (V × Hp)} (h : x = y) : bp x K = bp y K := by rw [h]
@[congr] theorem bs_congr {x y : Option Hp} (h : x = y) : bs x k = bs y k := by rw [h]
@[congr] theorem cnd_congr {x y : V} (h : x = y) : cnd x A B = cnd y A B := by rw [h]
@[congr] theorem gd_congr {x y : V} (h : x = y) : gd x A B C = gd y A B C := by rw [h]

/-- A part that may fail, on typed data. -/
def ob {α : Type} (x : Option α) (k : α → Res) : Res := x.bind k
/-- Is it so? -/
def ck (c : Bool) (k : Res) : Res := bif c then k else none

theorem bm_some {v : V} : bm (some v) H K = K v H := rfl
theorem bm_none : bm none H K = none := rfl
theorem bp_some {v : V} {h : Hp} : bp (some (v, h)) K = K v h := rfl
theorem bp_none : bp none K = none := rfl
theorem bs_some {h : Hp} : bs (some h) k = k h := rfl
theorem bs_none : bs none k = none := rfl
theorem bm_map {α : Type} {x : Option α} {f : α → V} : bm (x.map f) H K = ob x fun a => K (f a) H := by cases x <;> rfl
theorem bm_bind {α : Type} {x : Option α} {f : α → Option V} : bm (x.bind f) H K = ob x fun a => bm (f a) H K := by cases x <;> rfl
theorem bp_map {α : Type} {x : Option α} {f : α → V × Hp} : bp (x.map f) K = ob x fun a => K (f a).1 (f a).2 := by cases x <;> rfl
theorem bp_bind {α : Type} {x : Option α} {f : α → Option (V × Hp)} : bp (x.bind f) K = ob x fun a => bp (f a) K := by cases x <;> rfl
theorem bs_map {α : Type} {x : Option α} {f : α → Hp} : bs (x.map f) k = ob x fun a => k (f a) := by cases x <;> rfl
theorem bs_bind {α : Type} {x : Option α} {f : α → Option Hp} : bs (x.bind f) k = ob x fun a => bs (f a) k := by cases x <;> rfl
theorem bm_bif {c : Bool} {x : Option V} : bm (bif c then x else none) H K = ck c (bm x H K) := by cases c <;> rfl
theorem bp_bif {c : Bool} {x : Option (V × Hp)} : bp (bif c then x else none) K = ck c (bp x K) := by cases c <;> rfl
theorem bs_bif {c : Bool} {x : Option Hp} : bs (bif c then x else none) k = ck c (bs x k) := by cases c <;> rfl
theorem cnd_b {t : Bool} : cnd (.lit (.bool t)) A B = bif t then A else B := rfl
theorem gd_b {t : Bool} : gd (.lit (.bool t)) A B C = bif t then A else B := rfl
theorem gd_u : gd uu A B C = C := rfl
theorem ck_true : ck true A = A := rfl
theorem ck_false : ck false A = none := rfl
theorem ob_some {α : Type} {a : α} {f : α → Res} : ob (some a) f = f a := rfl
theorem ob_none {α : Type} {f : α → Res} : ob none f = none := rfl
end combinators

/-- The i-th one. -/
def idx {α : Type} (l : List α) (i : Int) : Option α := if 0 ≤ i then l[i.toNat]? else none
theorem idx_nat {α : Type} (l : List α) (i : Nat) : idx l (i : Int) = l[i]? := by simp [idx]

section ops
variable {P : Program} {t : TypeId} {k k' : IntKind} {a b : Int} {x y : V}
theorem vBin_add : vBin P .add t (.lit (.int k a)) (.lit (.int k b)) = some (.lit (.int k (k.wrap (a + b)))) := by simp [vBin, litBin]
theorem vBin_sub : vBin P .sub t (.lit (.int k a)) (.lit (.int k b)) = some (.lit (.int k (k.wrap (a - b)))) := by simp [vBin, litBin]
theorem vBin_mul : vBin P .mul t (.lit (.int k a)) (.lit (.int k b)) = some (.lit (.int k (k.wrap (a * b)))) := by simp [vBin, litBin]
theorem vBin_eql : vBin P .eql t (.lit (.int k a)) (.lit (.int k b)) = some (.lit (.bool (a == b))) := by simp [vBin, litBin]
theorem vBin_neq : vBin P .neq t (.lit (.int k a)) (.lit (.int k b)) = some (.lit (.bool (a != b))) := by simp [vBin, litBin]
theorem vBin_lss : vBin P .lss t (.lit (.int k a)) (.lit (.int k b)) = some (.lit (.bool (decide (a < b)))) := by simp [vBin, litBin]
theorem vBin_leq : vBin P .leq t (.lit (.int k a)) (.lit (.int k b)) = some (.lit (.bool (decide (a ≤ b)))) := by simp [vBin, litBin]
theorem vBin_gtr : vBin P .gtr t (.lit (.int k a)) (.lit (.int k b)) = some (.lit (.bool (decide (b < a)))) := by simp [vBin, litBin]
theorem vBin_geq : vBin P .geq t (.lit (.int k a)) (.lit (.int k b)) = some (.lit (.bool (decide (b ≤ a)))) := by simp [vBin, litBin]
theorem vBin_quo : vBin P .quo t (.lit (.int k a)) (.lit (.int k b)) = bif b != 0 then some (.lit (.int k (k.wrap (a.tdiv b)))) else none := by
  by_cases h : b = 0
  · simp [vBin, litBin, h]
  · simp [vBin, litBin, h, (bne_iff_ne).2 h]
theorem vBin_rem : vBin P .rem t (.lit (.int k a)) (.lit (.int k b)) = bif b != 0 then some (.lit (.int k (a.tmod b))) else none := by
  by_cases h : b = 0
  · simp [vBin, litBin, h]
  · simp [vBin, litBin, h, (bne_iff_ne).2 h]
theorem vBin_beql {p q : Bool} (h : isBoolT P t = true) : vBin P .eql t (.lit (.bool p)) (.lit (.bool q)) = some (.lit (.bool (p == q))) := by simp [vBin, h]
theorem vBin_bneq {p q : Bool} (h : isBoolT P t = true) : vBin P .neq t (.lit (.bool p)) (.lit (.bool q)) = some (.lit (.bool (!(p == q)))) := by simp [vBin, h]
theorem vUn_not {p : Bool} : vUn .not (.lit (.bool p)) = some (.lit (.bool !p)) := rfl
theorem vUn_neg : vUn .neg (.lit (.int k a)) = some (.lit (.int k (k.wrap (0 - a)))) := rfl
theorem vPick_b {p : Bool} : vPick (.lit (.bool p)) x y = some (bif p then x else y) := rfl
theorem vExtract_0 {l : List V} : vExtract (.tup (x :: l)) 0 = some x := rfl
theorem vExtract_1 {l : List V} : vExtract (.tup (x :: y :: l)) 1 = some y := rfl
theorem vExtract_2 {z : V} {l : List V} : vExtract (.tup (x :: y :: z :: l)) 2 = some z := rfl
end ops

/-- Rows of numbers, bools. -/
def intR (k : IntKind) (n : Int) : List V := [.lit (.int k n)]
def boolR (b : Bool) : List V := [.lit (.bool b)]

section mem
variable {P : Program} {t : TypeId} {H : Hp} {wl : Nat}

theorem vLoad_rp {cs : List V} : vLoad P t (.rp cs) H = ldCells P t cs := rfl
def ldB (P : Program) (t : TypeId) (g row off : Nat) : Option B → Option V
  | some (.box cs) => bif g == 0 && row == 0 then ldCells P t (cs.drop off) else none
  | some (.rows _ rs g' _) => bif g == g' then (rs[row]?).bind fun r => ldCells P t (r.drop off) else none
  | _ => none
theorem vLoad_ptr {id g row off : Nat} : vLoad P t (.ptr id g row off) H = ldB P t g row off (H[id]?) := by
  unfold vLoad ldB
  dsimp only
  generalize H[id]? = b0
  cases b0 with
  | none => rfl
  | some b => cases b <;> simp [Bool.cond_eq_ite]
theorem ldB_box {off : Nat} {cs : List V} : ldB P t 0 0 off (some (.box cs)) = ldCells P t (cs.drop off) := rfl
theorem ldB_rows {α : Type} {l : List α} {enc : α → List V} {g row off e : Nat} {lv : Bool} :
    ldB P t g row off (some (.rows e (l.map enc) g lv)) = (l[row]?).bind fun x => ldCells P t ((enc x).drop off) := by
  simp [ldB]
  cases l[row]? <;> rfl

/-- What a store into a block makes of the heap. -/
def stBk (P : Program) (wl : Nat) (t : TypeId) (id g row off : Nat) (vs : List V) (H : Hp) : Option B → Option Hp
  | some (.box cs) =>
    bif g == 0 && row == 0 && szOf P t != 0 && vs.length == szOf P t && decide (off + vs.length ≤ cs.length) then
      some ((matL vs H).2.set id (.box (spl cs off (matL vs H).1)))
    else none
  | some (.rows _ _ _ _) => (fzL wl true vs H).bind fun p =>
    match p.2[id]? with
    | some (.rows e rs g' true) =>
      bif g == g' && szOf P t != 0 && vs.length == szOf P t then
        (rs[row]?).bind fun r => bif decide (off + p.1.length ≤ r.length) then some (p.2.set id (.rows e (rs.set row (spl r off p.1)) g' true)) else none
      else none
    | _ => none
  | _ => none
theorem vStore_ptr {id g row off : Nat} {v : V} : vStore P wl t (.ptr id g row off) v H = (v.cells).bind fun vs => bif Nat.ble wl id then stBk P wl t id g row off vs H (H[id]?) else none := by
  unfold vStore
  cases hv : v.cells with
  | none => simp
  | some vs =>
    simp only [Option.bind_some]
    cases hw : Nat.ble wl id with
    | false => simp
    | true =>
      simp only [if_true, cond_true]
      unfold stBk
      generalize H[id]? = b0
      cases b0 with
      | none => rfl
      | some b =>
        cases b with
        | box cs => simp only [Bool.cond_eq_ite, Bool.and_eq_true, beq_iff_eq, bne_iff_ne, decide_eq_true_eq, and_assoc]
        | rows e rs g' lv =>
          simp only
          congr 1
          funext p
          generalize p.2[id]? = b1
          cases b1 with
          | none => rfl
          | some b => 
            cases b with
            | rows e rs g' lv => cases lv <;> simp [Bool.cond_eq_ite, and_assoc]
            | _ => rfl
        | _ => rfl

theorem vIndexAddr_ro {α : Type} {l : List α} {enc : α → List V} {e : TypeId} {k : IntKind} {n : Int} (hu : P.underlying t = some (.slice e)) (hs : ∀ x, (enc x).length = szOf P e) (hz : (szOf P e != 0) = true) :
    vIndexAddr P t (.ro (l.map enc)) (.lit (.int k n)) H = (idx l n).map fun x => .rp (enc x) := by
  have hz' : szOf P e ≠ 0 := by simpa using hz
  unfold vIndexAddr idx
  simp only [hu]
  split
  · cases hl : l[n.toNat]? with
    | none => simp [hl]
    | some x => simp [hl, hs, hz']
  · rfl
def ixB (sz g len id : Nat) (n : Int) : Option B → Option V
  | some (.rows s _ g' _) => bif g == g' && s == sz then bif decide (0 ≤ n ∧ n.toNat < len) then some (.ptr id g n.toNat 0) else none else none
  | _ => none
theorem vIndexAddr_own {id g len : Nat} {e : TypeId} {k : IntKind} {n : Int} (hu : P.underlying t = some (.slice e)) (hz : (szOf P e != 0) = true) :
    vIndexAddr P t (.own id g len) (.lit (.int k n)) H = ixB (szOf P e) g len id n (H[id]?) := by
  have hz' : szOf P e ≠ 0 := by simpa using hz
  unfold vIndexAddr ixB
  simp only [hu]
  by_cases hn : 0 ≤ n
  · simp only [hn, if_true, true_and]
    generalize H[id]? = b0
    cases b0 with
    | none => rfl
    | some b =>
      cases b with
      | rows s rs g' lv =>
        simp only [hz', ne_eq, not_false_eq_true, and_true, Bool.cond_eq_ite, Bool.and_eq_true, beq_iff_eq, decide_eq_true_eq]
      | _ => rfl
  · simp only [hn, if_false, false_and, decide_false]
    generalize H[id]? = b0
    cases b0 with
    | none => rfl
    | some b =>
      cases b with
      | rows s rs g' lv => simp
      | _ => rfl
theorem ixB_rows {sz g len id : Nat} {n : Int} {rs : List (List V)} {lv : Bool} : ixB sz g len id n (some (.rows sz rs g lv)) = bif decide (0 ≤ n ∧ n.toNat < len) then some (.ptr id g n.toNat 0) else none := by
  simp [ixB]

theorem vLen_ro {rows : List (List V)} : vLen (.ro rows) H = some (.lit (.int .i64 rows.length)) := rfl
theorem vLen_nil : vLen .nil H = some (.lit (.int .i64 0)) := rfl
def lnB (g len : Nat) : Option B → Option V
  | some (.rows _ _ g' _) => bif g == g' then some (.lit (.int .i64 len)) else none
  | _ => none
theorem vLen_own {id g len : Nat} : vLen (.own id g len) H = lnB g len (H[id]?) := by
  unfold vLen lnB
  dsimp only
  generalize H[id]? = b0
  cases b0 with
  | none => rfl
  | some b => cases b <;> simp [Bool.cond_eq_ite]
theorem lnB_rows {g len e : Nat} {rs : List (List V)} {lv : Bool} : lnB g len (some (.rows e rs g lv)) = some (.lit (.int .i64 len)) := by simp [lnB]
theorem opBox_lit {v : Value} (h : v.oneCell' = true) : opBox (.lit v) H = some (.ptr H.length 0 0 0, H ++ [.box [.lit v]]) := by
  simp [opBox, V.cells, V.one, h, matL]
theorem opBox_int {k : IntKind} {n : Int} : opBox (.lit (.int k n)) H = some (.ptr H.length 0 0 0, H ++ [.box [.lit (.int k n)]]) := opBox_lit rfl
theorem opBox_bool {b : Bool} : opBox (.lit (.bool b)) H = some (.ptr H.length 0 0 0, H ++ [.box [.lit (.bool b)]]) := opBox_lit rfl
theorem opBox_ro {r : List (List V)} : opBox (.ro r) H = some (.ptr H.length 0 0 0, H ++ [.box [.ro r]]) := by simp [opBox, V.cells, V.one, matL]
theorem opBox_agg {l : List V} : opBox (.agg l) H = some (.ptr (matL l H).2.length 0 0 0, (matL l H).2 ++ [.box (matL l H).1]) := by simp [opBox, V.cells]
theorem matL_nil : matL [] H = ([], H) := rfl
theorem matL_lit {v : Value} {l : List V} : matL (.lit v :: l) H = (.lit v :: (matL l H).1, (matL l H).2) := rfl
theorem matL_ro {r : List (List V)} {l : List V} : matL (.ro r :: l) H = (.ro r :: (matL l H).1, (matL l H).2) := rfl
theorem matL_own {i g n : Nat} {l : List V} : matL (.own i g n :: l) H = (.own i g n :: (matL l H).1, (matL l H).2) := rfl
theorem matL_ptr {i g n o : Nat} {l : List V} : matL (.ptr i g n o :: l) H = (.ptr i g n o :: (matL l H).1, (matL l H).2) := rfl
theorem matL_fn {f : Fn} {a b l : List V} : matL (.fn f a b :: l) H = (.fn f a b :: (matL l H).1, (matL l H).2) := rfl
theorem matL_none {l : List V} : matL (.nil :: l) H = (.own H.length 0 0 :: (matL l (H ++ [.rows 0 [] 0 true])).1, (matL l (H ++ [.rows 0 [] 0 true])).2) := rfl
theorem cells_lit {v : Value} (h : v.oneCell' = true) : V.cells (.lit v) = some [.lit v] := by simp [V.cells, V.one, h]
theorem cells_int {k : IntKind} {n : Int} : V.cells (.lit (.int k n)) = some [.lit (.int k n)] := cells_lit rfl
theorem cells_bool {b : Bool} : V.cells (.lit (.bool b)) = some [.lit (.bool b)] := cells_lit rfl
theorem cells_ro {r : List (List V)} : V.cells (.ro r) = some [.ro r] := rfl
theorem cells_own {i g n : Nat} : V.cells (.own i g n) = some [.own i g n] := rfl
theorem cells_ptr {i g n o : Nat} : V.cells (.ptr i g n o) = some [.ptr i g n o] := rfl
theorem cells_fn {f : Fn} {a b : List V} : V.cells (.fn f a b) = some [.fn f a b] := rfl
theorem cells_nil : V.cells .nil = some [.nil] := rfl
theorem cells_agg {l : List V} : V.cells (.agg l) = some l := rfl
theorem vNil_ptr {id g row off : Nat} : vNil (.ptr id g row off) H = (match H[id]? with
    | some (.box _) => bif g == 0 then some (.ptr id g row off) else none
    | some (.rows _ _ g' _) => bif g == g' then some (.ptr id g row off) else none
    | _ => none) := by
  unfold vNil
  dsimp only
  generalize H[id]? = b0
  cases b0 with
  | none => rfl
  | some b => cases b <;> simp [Bool.cond_eq_ite]
theorem vNil_fn {f : FuncId} {a b : List V} : vNil (.fn (.func f) a b) H = some (.fn (.func f) a b) := rfl
theorem vNil_rp {c : List V} : vNil (.rp c) H = some (.rp c) := rfl

theorem nextK_ret {cx : Cx} {c : Code} {n0 : Nat} {K : Out → St → Res} {n : Nat} {s : St} : nextK cx c n0 K n .ret s = K .ret s := rfl
theorem resO_1 {v : V} : resO [some v] H = some (v, H) := rfl
theorem resO_2 {v w : V} : resO [some v, some w] H = some (.tup [v, w], H) := rfl
theorem resO_3 {v w x : V} : resO [some v, some w, some x] H = some (.tup [v, w, x], H) := rfl
theorem getH_zero {b : B} {H : List B} : (b :: H)[0]? = some b := rfl
theorem getH_succ {b : B} {H : List B} {n : Nat} : (b :: H)[n + 1]? = H[n]? := rfl
end mem
end Go.Ab
