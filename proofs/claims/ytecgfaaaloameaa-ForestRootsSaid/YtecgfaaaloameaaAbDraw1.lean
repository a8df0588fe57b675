/- Regions that draw their order: what is ahead of what; the run in its own order; slots. -/
import Derived.Test.YtecgfaaaloameaaAbLocal2
namespace Go.Ab
section bef

def stepB (acc : Array Nat) (o : Oper) : Array Nat := acc.push (o.after.foldl (init := 0) fun s e => if Region.binds .any e then s ||| 2 ^ e.on ||| acc.getD e.on 0 else s)

theorem before_eq (ops : Array Oper) : Region.before ops = ops.toList.foldl stepB #[] := by
  unfold Region.before
  rw [← Array.foldl_toList]
  rfl

theorem fold_pre : ∀ (l : List Oper) (acc : Array Nat) (k : Nat), k < acc.size → (l.foldl stepB acc)[k]? = acc[k]?
  | [], _, _, _ => rfl
  | o :: l, acc, k, hk => by
    rw [List.foldl_cons, fold_pre l _ k (by simp [stepB]; omega)]
    simp [stepB, Array.getElem?_push, show k ≠ acc.size by omega]

theorem fold_at : ∀ (l : List Oper) (acc : Array Nat) (j : Nat) (o : Oper), l[j]? = some o → ∃ A : Array Nat, A.size = acc.size + j ∧
    (l.foldl stepB acc)[acc.size + j]? = some (o.after.foldl (init := 0) fun s e => if Region.binds .any e then s ||| 2 ^ e.on ||| A.getD e.on 0 else s) ∧ ∀ k, k < A.size → (l.foldl stepB acc)[k]? = A[k]?
  | [], acc, j, o, h => by simp at h
  | x :: l, acc, 0, o, h => by
    simp at h
    subst h
    refine ⟨acc, rfl, ?_, fun k hk => fold_pre _ _ _ hk⟩
    rw [List.foldl_cons, Nat.add_zero, fold_pre l _ _ (by simp [stepB])]
    simp [stepB]
  | x :: l, acc, j + 1, o, h => by
    obtain ⟨A, h1, h2, h3⟩ := fold_at l (stepB acc x) j o (by simpa using h)
    have hs : (stepB acc x).size = acc.size + 1 := by simp [stepB]
    refine ⟨A, by omega, ?_, fun k hk => by rw [List.foldl_cons]; exact h3 k hk⟩
    rw [List.foldl_cons, show acc.size + (j + 1) = (stepB acc x).size + j by omega]
    exact h2

theorem fold_bit (look : Nat → Nat) (k : Nat) : ∀ (es : List Edge) (s : Nat), (es.foldl (fun s e => if Region.binds .any e then s ||| 2 ^ e.on ||| look e.on else s) s).testBit k = true →
    s.testBit k = true ∨ ∃ e ∈ es, Region.binds .any e = true ∧ (k = e.on ∨ (look e.on).testBit k = true)
  | [], s, h => .inl h
  | e :: es, s, h => by
    rw [List.foldl_cons] at h
    rcases fold_bit look k es _ h with h | ⟨e', h1, h2, h3⟩
    · split at h
      · rename_i hb
        rw [Nat.testBit_or, Nat.testBit_or, Nat.testBit_two_pow] at h
        simp only [Bool.or_eq_true, decide_eq_true_eq] at h
        rcases h with (h | h) | h
        · exact .inl h
        · exact .inr ⟨e, by simp, hb, .inl h.symm⟩
        · exact .inr ⟨e, by simp, hb, .inr h⟩
      · exact .inl h
    · exact .inr ⟨e', by simp [h1], h2, h3⟩

/-- Edges point backwards. -/
def Back (ops : Array Oper) : Prop := ∀ i o, ops[i]? = some o → ∀ e ∈ o.after, Region.binds .any e = true → e.on < i

theorem before_spec {ops : Array Oper} (hb : Back ops) {i : Nat} {o : Oper} (ho : ops[i]? = some o) {k : Nat} (h : ((Region.before ops).getD i 0).testBit k = true) :
    ∃ e ∈ o.after, Region.binds .any e = true ∧ (k = e.on ∨ ((Region.before ops).getD e.on 0).testBit k = true) := by
  obtain ⟨A, h1, h2, h3⟩ := fold_at ops.toList #[] i o (by simpa using ho)
  rw [← before_eq] at h2 h3
  simp only [List.size_toArray, List.length_nil, Nat.zero_add] at h1 h2
  have hv : (Region.before ops).getD i 0 = o.after.foldl (init := 0) fun s e => if Region.binds .any e then s ||| 2 ^ e.on ||| A.getD e.on 0 else s := by
    simp only [Array.getD_eq_getD_getElem?, h2, Option.getD_some]
  rw [hv, ← Array.foldl_toList] at h
  rcases fold_bit (fun j => A.getD j 0) k _ _ h with h | ⟨e, he, hbe, h⟩
  · simp at h
  · have he' : e ∈ o.after := by simpa using he
    refine ⟨e, he', hbe, h.imp id fun h => ?_⟩
    have := hb i o ho e he' hbe
    have h3 := h3 e.on (by omega)
    simp only [Array.getD_eq_getD_getElem?] at h ⊢
    rw [h3]; exact h

theorem before_lt {ops : Array Oper} (hb : Back ops) : ∀ (i k : Nat), ((Region.before ops).getD i 0).testBit k = true → k < i := by
  intro i
  induction i using Nat.strongRecOn with
  | _ i ih =>
    intro k h
    cases ho : ops[i]? with
    | none =>
      have hi : (Region.before ops).getD i 0 = 0 := by
        have : (Region.before ops).size = ops.size := by
          have : ∀ (l : List Oper) (acc : Array Nat), (l.foldl stepB acc).size = acc.size + l.length := by
            intro l
            induction l with
            | nil => intros; rfl
            | cons x l ihl => intro acc; rw [List.foldl_cons, ihl]; simp [stepB]; omega
          rw [before_eq, this]; simp
        have h1 : ops.size ≤ i := by simpa using ho
        simp [Array.getD_eq_getD_getElem?, Array.getElem?_eq_none (by omega : (Region.before ops).size ≤ i)]
      rw [hi] at h
      simp at h
    | some o =>
      obtain ⟨e, he, hbe, h⟩ := before_spec hb ho h
      have h1 := hb i o ho e he hbe
      rcases h with h | h
      · omega
      · have := ih e.on h1 k h
        omega

end bef

section order
variable {ops : Array Oper}

theorem order_mem {p : Oper × Nat} : p ∈ orderOf ops ↔ ops[p.2]? = some p.1 := by
  unfold orderOf
  simp only [List.mem_append, List.mem_filter]
  have : p ∈ ops.toList.zipIdx ↔ ops[p.2]? = some p.1 := by
    rw [List.mem_zipIdx_iff_getElem?]
    simp
  rw [this]
  cases isHoist ops (Region.before ops) p.2 <;> simp

theorem zip_lt (l : List Oper) (k : Nat) : (l.zipIdx k).Pairwise (fun a b => a.2 < b.2) := by
  induction l generalizing k with
  | nil => exact .nil
  | cons x l ih =>
    rw [List.zipIdx_cons]
    refine .cons (fun p hp => ?_) (ih (k + 1))
    have := List.mem_zipIdx hp
    show k < p.2
    omega

/-- Those that are looked at first; then one behind the other. -/
theorem order_pair : (orderOf ops).Pairwise (fun a b => a.2 ≠ b.2 ∧ (isHoist ops (Region.before ops) a.2 = true ∨ (isHoist ops (Region.before ops) b.2 = false ∧ a.2 < b.2))) := by
  unfold orderOf
  rw [List.pairwise_append]
  refine ⟨?_, ?_, ?_⟩
  · refine List.Pairwise.imp_of_mem ?_ ((zip_lt ops.toList 0).filter _)
    intro a b ha hb h
    exact ⟨by omega, .inl (List.mem_filter.1 ha).2⟩
  · refine List.Pairwise.imp_of_mem ?_ ((zip_lt ops.toList 0).filter _)
    intro a b ha hb h
    exact ⟨by omega, .inr ⟨by simpa using (List.mem_filter.1 hb).2, h⟩⟩
  · intro a ha b hb
    have h1 := (List.mem_filter.1 ha).2
    have h2 := (List.mem_filter.1 hb).2
    refine ⟨fun e => ?_, .inl h1⟩
    rw [e] at h1
    simp [h1] at h2

theorem order_rel {p q : Nat} {x y : Oper × Nat} (hpq : p < q) (hx : (orderOf ops)[p]? = some x) (hy : (orderOf ops)[q]? = some y) :
    x.2 ≠ y.2 ∧ (isHoist ops (Region.before ops) x.2 = true ∨ (isHoist ops (Region.before ops) y.2 = false ∧ x.2 < y.2)) := by
  have hp := (List.getElem?_eq_some_iff.1 hx)
  have hq := (List.getElem?_eq_some_iff.1 hy)
  obtain ⟨hp1, rfl⟩ := hp
  obtain ⟨hq1, rfl⟩ := hq
  exact List.pairwise_iff_getElem.1 order_pair p q hp1 hq1 hpq

/-- Where an operation stands. -/
theorem order_pos {i : Nat} {o : Oper} (h : ops[i]? = some o) : ∃ p : Nat, (orderOf ops)[p]? = some (o, i) :=
  List.mem_iff_getElem?.1 (order_mem.2 h)

/-- Of two that are ordered, the one that comes first is ahead. -/
theorem order_before (hb : Back ops) {p q : Nat} {o o' : Oper} {i j : Nat} (hpq : p < q) (hx : (orderOf ops)[p]? = some (o, i)) (hy : (orderOf ops)[q]? = some (o', j))
    (h : ordered (Region.before ops) i j = true) : ((Region.before ops).getD j 0).testBit i = true := by
  obtain ⟨hne, h1⟩ := order_rel hpq hx hy
  simp only at hne h1
  unfold ordered at h
  simp only [Bool.or_eq_true, beq_iff_eq] at h
  rcases h with (h | h) | h
  · exact absurd h hne
  · rcases h1 with h1 | ⟨_, h1⟩
    · unfold isHoist at h1
      simp only [Bool.and_eq_true, beq_iff_eq] at h1
      rw [h1.1.2] at h
      simp at h
    · have := before_lt hb i j h
      omega
  · exact h

end order

section trace
variable {T : Type}

theorem opsK_trace {cx : Cx} {n0 : Nat} {rg : Rg} {ops : Array Oper} {K : St → Option T} {r : T} : ∀ (L : List (Oper × Nat)) (logs : List Nat × List Nat) (s : St), opsK cx n0 rg ops L logs K s = some r →
    ∃ (S : Nat → St) (ran : Nat → Bool) (val : Nat → V) (fin : List Nat × List Nat), S 0 = s ∧ K (S L.length) = some r ∧ (rg.any = true → apartA fin = true) ∧ (∀ x ∈ logs.1, x ∈ fin.1) ∧ (∀ x ∈ logs.2, x ∈ fin.2) ∧
      ∀ (q : Nat) (o : Oper) (i : Nat), L[q]? = some (o, i) → GuardV ops o (S q).env (ran q) ∧ (S (q + 1)).env = putE (S q).env o.dst (val q) ∧
        (ran q = true → strictOk n0 (rg.strict i) o.op (S q).env = true ∧ opV cx (rg.calm i) (rg.ord i) o.op (S q).env (S q).H = some (val q, (S (q + 1)).H) ∧
          (rg.any = true → (rg.loose i = true → ∀ k, idAt (S q).env (readOf o.op) = some k → k ∈ fin.1) ∧ (rg.loose i = false → opKd o.op = .loud → ∀ k, idAt (S q).env (writeOf o.op) = some k → k ∈ fin.2))) ∧
        (ran q = false → val q = .lit undef ∧ (S (q + 1)).H = (S q).H)
  | [], logs, s, h => by
    refine ⟨fun _ => s, fun _ => true, fun _ => .junk, logs, rfl, ?_, ?_, fun _ h => h, fun _ h => h, fun q o i h => by simp at h⟩
    · unfold opsK at h
      split at h
      · split at h
        · exact h
        · cases h
      · exact h
    · intro ha
      unfold opsK at h
      rw [if_pos ha] at h
      split at h
      · assumption
      · cases h
  | (o, i) :: rest, logs, s, h => by
    have logA_sub : (∀ x ∈ logs.1, x ∈ (logA rg i o.op s.env logs).1) ∧ (∀ x ∈ logs.2, x ∈ (logA rg i o.op s.env logs).2) := by
      unfold logA
      split
      · split
        · split
          · exact ⟨fun x hx => by simp [hx], fun x hx => hx⟩
          · exact ⟨fun x hx => hx, fun x hx => hx⟩
        · split
          · split
            · exact ⟨fun x hx => hx, fun x hx => by simp [hx]⟩
            · exact ⟨fun x hx => hx, fun x hx => hx⟩
          · exact ⟨fun x hx => hx, fun x hx => hx⟩
      · exact ⟨fun x hx => hx, fun x hx => hx⟩
    rcases opsK_cons h with ⟨hg, hst, p, hp, hr⟩ | ⟨hg, hr⟩
    · obtain ⟨S, ran, val, fin, e0, eK, hap, h1, h2, hall⟩ := opsK_trace rest _ _ hr
      refine ⟨fun n => match n with | 0 => s | n + 1 => S n, fun n => match n with | 0 => true | n + 1 => ran n, fun n => match n with | 0 => p.1 | n + 1 => val n, fin, rfl, eK, hap,
        fun x hx => h1 x (logA_sub.1 x hx), fun x hx => h2 x (logA_sub.2 x hx), fun q o' i' hq => ?_⟩
      cases q with
      | zero =>
        simp at hq
        obtain ⟨rfl, rfl⟩ := hq
        refine ⟨hg, by show (S 0).env = _; rw [e0], fun _ => ⟨hst, by show _ = some (p.1, (S 0).H); rw [e0]; exact hp, fun ha => ⟨fun hl k hk => h1 k ?_, fun hl hk' k hk => h2 k ?_⟩⟩, fun h => by cases h⟩
        · unfold logA
          rw [if_pos ha, if_pos hl, hk]
          simp
        · unfold logA
          rw [if_pos ha, if_neg (by simp [hl]), if_pos hk', hk]
          simp
      | succ q => exact hall q o' i' (by simpa using hq)
    · obtain ⟨S, ran, val, fin, e0, eK, hap, h1, h2, hall⟩ := opsK_trace rest _ _ hr
      refine ⟨fun n => match n with | 0 => s | n + 1 => S n, fun n => match n with | 0 => false | n + 1 => ran n, fun n => match n with | 0 => .lit undef | n + 1 => val n, fin, rfl, eK, hap, h1, h2, fun q o' i' hq => ?_⟩
      cases q with
      | zero =>
        simp at hq
        obtain ⟨rfl, rfl⟩ := hq
        exact ⟨hg, by show (S 0).env = _; rw [e0], fun h => (by cases h), fun _ => ⟨rfl, by show (S 0).H = _; rw [e0]⟩⟩
      | succ q => exact hall q o' i' (by simpa using hq)

end trace

section slots
variable {env0 : List V} {L : List (Oper × Nat)} {val : Nat → V} {D D' : Nat → Bool}

/-- The slots when those that are told by D have run. -/
def Xenv (env0 : List V) (L : List (Oper × Nat)) (val : Nat → V) (D : Nat → Bool) : Nat → List V
  | 0 => env0
  | m + 1 => match L[m]? with
    | some (o, _) => if D m then putE (Xenv env0 L val D m) o.dst (val m) else Xenv env0 L val D m
    | none => Xenv env0 L val D m

theorem putE_get (env : List V) (d : Option Tmp) (v : V) (t : Tmp) : (putE env d v)[t]? = if d = some t then (env[t]?).map (fun _ => v) else env[t]? := by
  cases d with
  | none => simp [putE]
  | some d =>
    simp only [putE]
    by_cases h : d = t
    · subst h; simp [List.getElem?_set_self']; rfl
    · rw [List.getElem?_set_ne h, if_neg (by simp [h])]

theorem X_agree {t : Tmp} : ∀ (m : Nat), (∀ q, q < m → ∀ o i, L[q]? = some (o, i) → o.dst = some t → D q = D' q) → (Xenv env0 L val D m)[t]? = (Xenv env0 L val D' m)[t]?
  | 0, _ => rfl
  | m + 1, h => by
    have ih := X_agree m (fun q hq => h q (by omega))
    simp only [Xenv]
    split
    · rename_i o i hL
      by_cases hd : o.dst = some t
      · have := h m (by omega) o i hL hd
        rw [this]
        split
        · rw [putE_get, putE_get, ih]
        · exact ih
      · have e : ∀ (b : Bool) (x : List V), (if b = true then putE x o.dst (val m) else x)[t]? = x[t]? := by
          intro b x
          split
          · rw [putE_get, if_neg hd]
          · rfl
        rw [e, e, ih]
    · exact ih

theorem X_line {S : Nat → St} (h0 : (S 0).env = env0) (h : ∀ (q : Nat) (o : Oper) (i : Nat), L[q]? = some (o, i) → (S (q + 1)).env = putE (S q).env o.dst (val q)) (p : Nat) :
    ∀ m, m ≤ L.length → Xenv env0 L val (fun q => decide (q < p)) m = (S (min m p)).env
  | 0, _ => by simp [Xenv, h0]
  | m + 1, hm => by
    have ih := X_line h0 h p m (by omega)
    simp only [Xenv]
    have hl : m < L.length := by omega
    obtain ⟨o, i, hL⟩ : ∃ o i, L[m]? = some (o, i) := ⟨L[m].1, L[m].2, by simp [hl]⟩
    rw [hL]
    simp only [decide_eq_true_eq]
    split
    · rename_i hmp
      rw [ih, Nat.min_eq_left (by omega), Nat.min_eq_left (by omega), h m o i hL]
    · rename_i hmp
      rw [ih, Nat.min_eq_right (by omega), Nat.min_eq_right (by omega)]

theorem X_put {p : Nat} {o : Oper} {i : Nat} (hp : L[p]? = some (o, i)) (hD : D p = false) (hD' : ∀ q, q ≠ p → D' q = D q) (hDp : D' p = true)
    (hno : ∀ q, p < q → D q = true → ∀ o' i', L[q]? = some (o', i') → ∀ t, o.dst = some t → o'.dst ≠ some t) :
    ∀ (m : Nat), p < m → ∀ (t : Tmp), (Xenv env0 L val D' m)[t]? = (putE (Xenv env0 L val D m) o.dst (val p))[t]?
  | 0, hm, _ => by omega
  | m + 1, hm, t => by
    simp only [Xenv]
    by_cases hmp : m = p
    · subst hmp
      rw [hp]
      simp only [hD, hDp, if_true, Bool.false_eq_true, if_false]
      rw [putE_get, putE_get, X_agree (D := D') (D' := D) m (fun q hq _ _ _ _ => hD' q (by omega))]
    · have ih := X_put hp hD hD' hDp hno m (by omega)
      split
      · rename_i o' i' hL
        rw [hD' m hmp]
        split
        · rename_i hDm
          rw [putE_get, ih t, putE_get, putE_get, putE_get]
          by_cases h1 : o.dst = some t
          · have h2 := hno m (by omega) hDm o' i' hL t h1
            rw [if_neg h2, if_pos h1, if_pos h1, if_neg h2]
          · rw [if_neg h1, if_neg h1]
        · exact ih t
      · exact ih t

end slots
end Go.Ab
