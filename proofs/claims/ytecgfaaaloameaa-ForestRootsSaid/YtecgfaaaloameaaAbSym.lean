/- The abstract evaluator, run on unknown data: loops as one word; what a loop comes to. -/
import Derived.Test.YtecgfaaaloameaaAbRow
namespace Go.Ab
section sym
variable {T : Type}

/-- A loop's rounds, as one word: what runs in it is not looked at. -/
def loopK (cx : Cx) (a : Code) (n0 : Nat) (K : Out → St → Option T) (s : St) : Option T := iterK (execK cx a none) n0 (cx.M.named cx.fid) (rwCode a ([], [])) K cx.n s

theorem execK_loop (cx : Cx) (a : Code) (K : Out → St → Option T) (s : St) :
    execK cx (.loop a) none K s = loopK cx a s.H.length K (tidy s.H.length (dropT (cx.M.named cx.fid) (rwCode a ([], [])) false) s) := rfl
theorem execK_skip (cx : Cx) (K : Out → St → Option T) (s : St) : execK cx .skip none K s = K .norm s := rfl
theorem execK_seq (cx : Cx) (a b : Code) (K : Out → St → Option T) (s : St) : execK cx (.seq a b) none K s = execK cx a none (fun o s' => match o with | .norm => execK cx b none K s' | o => K o s') s := rfl
theorem execK_exit (cx : Cx) (id : Nat) (K : Out → St → Option T) (s : St) : execK cx (.exit id) none K s = K (.exit id) s := rfl
theorem execK_ret (cx : Cx) (K : Out → St → Option T) (s : St) : execK cx .ret none K s = K .ret s := rfl
theorem execK_label (cx : Cx) (l : Nat) (K : Out → St → Option T) (s : St) : execK cx (.label l) none K s = K .norm s := rfl
theorem execK_block (cx : Cx) (id : Nat) (a : Code) (K : Out → St → Option T) (s : St) :
    execK cx (.block id a) none K s = execK cx a none (fun o s' => match o with | .exit id' => if id' = id then K .norm s' else K (.exit id') s' | o => K o s') s := rfl
theorem execK_cond (cx : Cx) (c : Operand) (a b : Code) (K : Out → St → Option T) (s : St) {t : Bool} (h : evO s.env c = some (.lit (.bool t))) :
    execK cx (.cond c a b) none K s = bif t then execK cx a none K s else execK cx b none K s := by simp only [execK, h]
theorem execK_region (cx : Cx) (id : Nat) (ops : Array Oper) (K : Out → St → Option T) (s : St) :
    execK cx (.region id ops false) none K s = opsK cx s.H.length Rg.none ops ops.toList.zipIdx ([], []) (K .norm) s := by simp [execK]
theorem execK_draw (cx : Cx) (id : Nat) (ops : Array Oper) (K : Out → St → Option T) (s : St) (h : regOk ops = true) :
    execK cx (.region id ops true) none K s = opsK cx s.H.length (rgOf ops) ops (orderOf ops) ([], []) (K .norm) s := by simp [execK, h]

/-- The end of a loop's run. -/
def endK (cx : Cx) (a : Code) (n0 : Nat) (K : Out → St → Option T) (p : Out × St) : Option T :=
  match p.1 with
  | .ret => K .ret p.2
  | .norm => none
  | o => K o (tidy n0 (dropT (cx.M.named cx.fid) (rwCode a ([], [])) true) p.2)

/-- A loop whose rounds are told: at round i it stands at 'st i'; it goes on, or it is left by 'early i'. -/
theorem loop_run (cx : Cx) (a : Code) (n0 : Nat) (K : Out → St → Option T) (st pre : Nat → St) (early : Nat → Option (Out × St)) (N : Nat)
    (h : ∀ i, i ≤ N → ∀ K' : Out → St → Option T, execK cx a none K' (st i) = match early i with | none => K' .norm (pre i) | some p => K' p.1 p.2)
    (hne : ∀ i p, early i = some p → p.1 ≠ .norm)
    (ht : ∀ i, i < N → early i = none → tidy n0 (dropT (cx.M.named cx.fid) (rwCode a ([], [])) false) (pre i) = st (i + 1))
    (hN : (early N).isSome = true) (hn : N < cx.n) :
    ∃ j p, j ≤ N ∧ (∀ i, i < j → early i = none) ∧ early j = some p ∧ loopK cx a n0 K (st 0) = endK cx a n0 K p := by
  have key : ∀ m i, i ≤ N → N - i < m → (∀ k, k < i → early k = none) →
      ∃ j p, j ≤ N ∧ (∀ i, i < j → early i = none) ∧ early j = some p ∧
        iterK (execK cx a none) n0 (cx.M.named cx.fid) (rwCode a ([], [])) K m (st i) = endK cx a n0 K p := by
    intro m
    induction m with
    | zero => intro i _ h2; omega
    | succ m ih =>
      intro i hi hm hpre
      simp only [iterK]
      rw [h i hi]
      cases he : early i with
      | none =>
        have hiN : i ≠ N := by
          intro e
          subst e
          rw [he] at hN
          cases hN
        simp only
        rw [ht i (by omega) he]
        exact ih (i + 1) (by omega) (by omega) (fun k hk => by
          rcases Nat.lt_succ_iff_lt_or_eq.1 hk with h | rfl
          · exact hpre k h
          · exact he)
      | some p =>
        refine ⟨i, p, hi, hpre, he, ?_⟩
        have := hne i p he
        obtain ⟨o, s⟩ := p
        cases o <;> first | rfl | exact absurd rfl this
  exact key cx.n 0 (Nat.zero_le _) (by omega) (fun k hk => by omega)

/-- A round with what comes behind it: the state is tidied. -/
def roundK (cx : Cx) (a : Code) (n0 : Nat) (K : Out → St → Option T) (s : St) : Option T :=
  execK cx a none (fun o s' => match o with
    | .norm => K .norm (tidy n0 (dropT (cx.M.named cx.fid) (rwCode a ([], [])) false) s')
    | .ret => K .ret s'
    | .exit id => K (.exit id) (tidy n0 (dropT (cx.M.named cx.fid) (rwCode a ([], [])) true) s')
    | .goto l => K (.goto l) (tidy n0 (dropT (cx.M.named cx.fid) (rwCode a ([], [])) true) s')) s

/-- A loop whose rounds are told, each as it goes on or is left. -/
theorem loop_rounds (cx : Cx) (a : Code) (n0 : Nat) (K : Out → St → Option T) (st : Nat → St) (cont : Nat → Prop) (E : Nat → Out → St → Prop) (N : Nat)
    (h : ∀ i, i ≤ N → (cont i ∧ ∀ K' : Out → St → Option T, roundK cx a n0 K' (st i) = K' .norm (st (i + 1))) ∨ (∃ o s, o ≠ .norm ∧ E i o s ∧ ∀ K' : Out → St → Option T, roundK cx a n0 K' (st i) = K' o s))
    (hN : ¬ cont N) (hn : N < cx.n) : ∃ j o s, j ≤ N ∧ (∀ i, i < j → cont i) ∧ E j o s ∧ loopK cx a n0 K (st 0) = K o s := by
  have key : ∀ m i, i ≤ N → N - i < m → (∀ k, k < i → cont k) →
      ∃ j o s, j ≤ N ∧ (∀ i, i < j → cont i) ∧ E j o s ∧ iterK (execK cx a none) n0 (cx.M.named cx.fid) (rwCode a ([], [])) K m (st i) = K o s := by
    intro m
    induction m with
    | zero => intro i _ h2; omega
    | succ m ih =>
      intro i hi hm hpre
      have e : iterK (execK cx a none) n0 (cx.M.named cx.fid) (rwCode a ([], [])) K (m + 1) (st i) =
          roundK cx a n0 (fun o s => match o with | .norm => iterK (execK cx a none) n0 (cx.M.named cx.fid) (rwCode a ([], [])) K m s | o => K o s) (st i) := by
        simp only [iterK, roundK]
        congr 1
        funext o s'
        cases o <;> rfl
      rw [e]
      rcases h i hi with ⟨hc, hr⟩ | ⟨o, s, ho, hE, hr⟩
      · rw [hr]
        have hiN : i ≠ N := fun e => hN (e ▸ hc)
        exact ih (i + 1) (by omega) (by omega) (fun k hk => by
          rcases Nat.lt_succ_iff_lt_or_eq.1 hk with h | rfl
          · exact hpre k h
          · exact hc)
      · refine ⟨i, o, s, hi, hpre, hE, ?_⟩
        rw [hr]
        cases o <;> first | rfl | exact absurd rfl ho
  exact key cx.n 0 (Nat.zero_le _) (by omega) (fun k hk => by omega)

/-- Slots that are dropped, as a row of bools. -/
def dropL (l : List Bool) (t : Tmp) : Bool := l.getD t false

/-- 'tidyE' by a row of bools. -/
def tidyL (n0 : Nat) : List Bool → List V → List V
  | _, [] => []
  | [], v :: vs => v.kill n0 :: tidyL n0 [] vs
  | b :: bs, v :: vs => (bif b then .junk else v.kill n0) :: tidyL n0 bs vs

theorem tidyL_eq (n0 : Nat) (d : Nat → Bool) : ∀ (env : List V) (k : Nat) (l : List Bool), (∀ t : Nat, d (k + t) = l.getD t false) → tidyE n0 d k env = tidyL n0 l env
  | [], k, l, _ => by cases l <;> rfl
  | v :: vs, k, l, h => by
    have h0 := h 0
    have h1 : ∀ t : Nat, d (k + 1 + t) = l.getD (t + 1) false := fun t => by rw [← h (t + 1)]; congr 1; omega
    cases l with
    | nil =>
      simp only [tidyE, tidyL]
      simp at h0
      rw [h0, tidyL_eq n0 d vs (k + 1) [] (fun t => by rw [h1 t]; simp)]
      rfl
    | cons b bs =>
      simp only [tidyE, tidyL]
      simp at h0
      rw [h0, tidyL_eq n0 d vs (k + 1) bs (fun t => by rw [h1 t]; simp)]
      cases b <;> rfl

/-- The row is right. -/
def dropOk (named : Nat) (rw : List Tmp × List Tmp) (last : Bool) (l : List Bool) : Bool :=
  rw.2.all (fun t => decide (t < l.length)) && (List.range l.length).all (fun t => dropT named rw last t == l.getD t false)

theorem dropOk_spec {named : Nat} {rw : List Tmp × List Tmp} {last : Bool} {l : List Bool} (h : dropOk named rw last l = true) (t : Nat) : dropT named rw last t = l.getD t false := by
  unfold dropOk at h
  simp only [Bool.and_eq_true, List.all_eq_true, List.mem_range, decide_eq_true_eq, beq_iff_eq] at h
  by_cases ht : t < l.length
  · exact h.2 t ht
  · have : rw.2.contains t = false := by
      cases hc : rw.2.contains t with
      | false => rfl
      | true =>
        exact absurd (h.1 t (by simpa using hc)) ht
    unfold dropT
    rw [this]
    simp [List.getD_eq_getElem?_getD, List.getElem?_eq_none (Nat.le_of_not_lt ht)]

/-- A round, and what comes behind it, by rows of bools. -/
def roundL (cx : Cx) (a : Code) (n0 : Nat) (d1 d2 : List Bool) (K : Out → St → Option T) (s : St) : Option T :=
  execK cx a none (fun o s' => match o with
    | .norm => K .norm ⟨tidyL n0 d1 s'.env, cutH n0 s'.H⟩
    | .ret => K .ret s'
    | .exit id => K (.exit id) ⟨tidyL n0 d2 s'.env, cutH n0 s'.H⟩
    | .goto l => K (.goto l) ⟨tidyL n0 d2 s'.env, cutH n0 s'.H⟩) s

theorem roundL_eq (cx : Cx) (a : Code) (n0 : Nat) {d1 d2 : List Bool} (h1 : dropOk (cx.M.named cx.fid) (rwCode a ([], [])) false d1 = true) (h2 : dropOk (cx.M.named cx.fid) (rwCode a ([], [])) true d2 = true) (K : Out → St → Option T) (s : St) :
    roundK cx a n0 K s = roundL cx a n0 d1 d2 K s := by
  unfold roundK roundL
  congr 1
  funext o s'
  have e1 : tidyE n0 (dropT (cx.M.named cx.fid) (rwCode a ([], [])) false) 0 s'.env = tidyL n0 d1 s'.env := tidyL_eq n0 _ s'.env 0 d1 (fun t => by rw [Nat.zero_add]; exact dropOk_spec h1 t)
  have e2 : tidyE n0 (dropT (cx.M.named cx.fid) (rwCode a ([], [])) true) 0 s'.env = tidyL n0 d2 s'.env := tidyL_eq n0 _ s'.env 0 d2 (fun t => by rw [Nat.zero_add]; exact dropOk_spec h2 t)
  cases o <;> simp only [tidy, e1, e2]

/-- The same, for a goal in which the loop stands: it is entered at s0. -/
theorem loop_goal {cx : Cx} {a : Code} {n0 : Nat} {K : Out → St → Option T} {s0 : St} (G : Option T → Prop) (d1 d2 : List Bool) (st : Nat → St) (cont : Nat → Prop) (E : Nat → Out → St → Prop) (N : Nat)
    (h1 : dropOk (cx.M.named cx.fid) (rwCode a ([], [])) false d1 = true) (h2 : dropOk (cx.M.named cx.fid) (rwCode a ([], [])) true d2 = true)
    (h0 : (⟨tidyL n0 d1 s0.env, cutH n0 s0.H⟩ : St) = st 0)
    (h : ∀ i, i ≤ N → (cont i ∧ ∀ K' : Out → St → Option T, roundL cx a n0 d1 d2 K' (st i) = K' .norm (st (i + 1))) ∨ (∃ o s, o ≠ .norm ∧ E i o s ∧ ∀ K' : Out → St → Option T, roundL cx a n0 d1 d2 K' (st i) = K' o s))
    (hN : ¬ cont N) (hn : N < cx.n) (fin : ∀ j o s, j ≤ N → (∀ i, i < j → cont i) → E j o s → G (K o s)) :
    G (loopK cx a n0 K (tidy n0 (dropT (cx.M.named cx.fid) (rwCode a ([], [])) false) s0)) := by
  have e : tidy n0 (dropT (cx.M.named cx.fid) (rwCode a ([], [])) false) s0 = st 0 := by
    rw [← h0]
    unfold tidy
    rw [tidyL_eq n0 _ s0.env 0 d1 (fun t => by rw [Nat.zero_add]; exact dropOk_spec h1 t)]
  rw [e]
  obtain ⟨j, o, s, hj, hc, hE, hr⟩ := loop_rounds cx a n0 K st cont E N (fun i hi => by
    rcases h i hi with ⟨hc, hr⟩ | ⟨o, s, ho, hE, hr⟩
    · exact .inl ⟨hc, fun K' => (roundL_eq cx a n0 h1 h2 K' _).trans (hr K')⟩
    · exact .inr ⟨o, s, ho, hE, fun K' => (roundL_eq cx a n0 h1 h2 K' _).trans (hr K')⟩) hN hn
  rw [hr]
  exact fin j o s hj hc hE

end sym
end Go.Ab
