/- Ranges over functions, on typed data. -/
import Derived.Test.YtecgfaaaloameaaAbSim2
namespace Go.Ab

/-- Behind the body of a round. -/
def bdK (id n : Nat) : Out → St → Res := fun o s => match s.H[id]? with
  | some (.loop l) => some (.lit (.bool (outCode o).isNone), cutH n (s.H.set id (.loop { l with st := if (outCode o).isNone then .ready else .done, pending := outCode o })))
  | _ => none
/-- Behind the assignment of a round. -/
def asK (cx : Cx) (id n : Nat) (body : Code) : Out → St → Res := fun o s => match o with
  | .norm => match s.H[id]? with
    | some (.loop l) => if l.st = .ready then runK cx (bdK id n) [.seq body] .norm ⟨s.env, s.H.set id (.loop { l with st := .busy })⟩ else none
    | _ => none
  | _ => none

theorem evY_round {P : Program} {M : Mode} {k wl id : Nat} {args : List V} {H : Hp} {l : Lp} (hl : H[id]? = some (.loop l)) (hs : l.st = .ready) (ha : args.length = l.params.length) (hw : Nat.ble wl id = true) :
    evY P M (k + 1) wl id args H =
      runK { P, M, fid := l.fn, round := true, wl, call := evF P M k, yld := evY P M k, n := k } (asK { P, M, fid := l.fn, round := true, wl, call := evF P M k, yld := evY P M k, n := k } id H.length l.body)
        [.seq l.assign] .norm ⟨setParams l.tmps l.params args, H⟩ := by
  simp only [evY, hl, roundV, hs, ha, hw, and_self, if_true]
  show execK _ l.assign none _ _ = execK _ l.assign none (runK _ _ []) _
  congr 1

/-- The end of a range over a function. -/
def rfK (K : Out → St → Res) (env : List V) (n : Nat) (p : V × Hp) : Res :=
  match p.2[n]? with
  | some (.loop l) => if l.st = .busy then none else
    match l.pending with
    | none => K .norm ⟨env, cutH n p.2⟩
    | some .ret => K .ret ⟨env, cutH n p.2⟩
    | some (.exit id) => K (.exit id) ⟨env, cutH n p.2⟩
    | some (.goto id) => K (.goto id) ⟨env, cutH n p.2⟩
    | some _ => none
  | _ => none
theorem execK_range {cx : Cx} {f : Operand} {ps : Array Tmp} {a b : Code} {K : Out → St → Res} {s : St} {g : FuncId} {caps : List V} (hr : cx.round = false) (hw : Nat.ble cx.wl s.H.length = true) (hf : evO s.env f = some (.fn (.func g) [] caps)) :
    execK cx (.rangeFunc f ps a b) none K s = (cx.call cx.wl g (.yld s.H.length :: caps) (s.H ++ [.loop { st := .ready, pending := none, fn := cx.fid, tmps := s.env, params := ps.toList, assign := a, body := b }])).bind (rfK K s.env s.H.length) := by
  simp only [execK, hr, hw, hf, Bool.not_true, Bool.or_self, Bool.false_eq_true, if_false]
  congr 1

theorem callV_yld {cx : Cx} {o : Bool} {l : Nat} {args : List V} {H : Hp} (hd : dataL args = true) : callV cx false o (.yld l) args H = (cx.yld cx.wl l args H).bind (noShorter H) := by
  unfold callV
  simp [dataL_fz hd]

/-- A run over what is handed on: it ends at the first that is not gone on behind. -/
def runS {σ α : Type} (step : σ → α → Bool × σ) : List α → σ → Bool × σ
  | [], s => (true, s)
  | x :: r, s => if (step s x).1 then runS step r (step s x).2 else step s x
end Go.Ab
