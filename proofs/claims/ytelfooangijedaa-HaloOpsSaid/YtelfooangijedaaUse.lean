/- The evaluator in use: tables of what calls hand back; a statement's walk. -/
import Derived.Test.YtelfooangijedaaEnvB
import Derived.KernelRfl
import Derived.ChangeSame
import Derived.WalkKit
import Derived.ProofKit
import Derived.OpenShut
namespace Go.V
open Go.RowKit
set_option linter.unusedVariables false
variable {E : Env} {cp : CallP} {ce : CallE}

def noE : CallE := fun _ _ _ _ _ => none
theorem noE_ok : EffOK E noE := fun α g args h k res hr => by cases hr
/-- a table with one more function in it -/
def withF (cp : CallP) (f : Nat) (e : List R → Option R) : CallP := .of fun g args => bif Nat.beq f g then e args else cp g args
theorem with_ok {f : Nat} {e : List R → Option R} (hcp : PureOK E cp) (h : ∀ args r, e args = some r → ∃ cp', PureOK E cp' ∧ cp' f args = some r) : PureOK E (withF cp f e) := by
  intro g args r hr
  change (bif Nat.beq f g then e args else cp g args) = some r at hr
  cases hb : Nat.beq f g with
  | true =>
    obtain rfl := nbeq.1 hb
    rw [hb] at hr
    obtain ⟨cp', h1, h2⟩ := h args r hr
    exact h1 f args r h2
  | false => rw [hb] at hr; exact hcp g args r hr
/-- one function, by its body; what it calls stands in the table -/
noncomputable def step (E : Env) (cp : CallP) : CallP := pureOf (callBody E cp noE)
theorem step_ok (hE : EnvOK E) (hcp : PureOK E cp) : PureOK E (step E cp) := pure_sound (callBody_sound hE hcp noE_ok)
theorem walk_of {f : Nat} {args : List R} {vs : List Value} {r : R} (h : PureOK E cp) (hr : cp f args = some r) (w : World) (hrd : ∀ γ : Gh, (∀ b, γ.rd b = none) → rdRs w γ args vs) :
    Calls E.P f vs.toArray w fun e w' => ∃ v γ', e = .returned v ∧ Below w.heap.size w w' ∧ rdR w' γ' r v :=
  ((h f args r hr).2 ⟨[], fun _ => none, fun _ => none, w.heap.size⟩ w vs 0 (hrd _ fun _ => rfl) (fun _ _ => rfl) (Nat.le_refl _) (fun b hb => by cases hb)).mono fun e w' ⟨v, γ', h1, h2, h3, _⟩ => ⟨v, γ', h1, h2.below, h3⟩
theorem walk_true {f : Nat} {args : List R} {vs : List Value} (h : PureOK E cp) (hr : cp f args = some (.one (.g .bool true))) (w : World) (hrd : ∀ γ : Gh, (∀ b, γ.rd b = none) → rdRs w γ args vs) :
    Calls E.P f vs.toArray w fun e w' => e = .returned (.bool true) ∧ Below w.heap.size w w' :=
  (walk_of h hr w hrd).mono fun e w' ⟨v, γ', h1, h2, h3⟩ => by
    simp only [rdR, rdD, rdT] at h3
    subst h3
    exact ⟨h1, h2⟩
end Go.V
namespace Go
open Go.ChangeShapes Go.WideShapes Go.ChangeAt Go.RowKit
section
variable {H : Type} {enc : TypeId × Value → H} {P : Program}
/-- what a statement asks of the end, where nothing is asked again -/
theorem post_flat {f : Func} {s : ChangeSpec} {apart fresh handsOn : Bool} {W W' : World} {args : Array Value} {v : Value} {ds gs : List (DataW H)} {before pa pv : List MemPlace}
    (hW : DataW.Whole enc P f.params.toList s.vars apart W args.toList ds gs before)
    (hres : ∀ (b : Nat) (sp : Nat → Bool) (hd : Bool), DataW.TrodAll enc P W' b sp hd f.resultTypes.toList (v.resultList f.resultTypes.size) (s.fn H (ds ++ gs)).results [])
    (hargs : ∀ sp : Nat → Bool, (∀ p ∈ before, sp p.block = true) → DataW.TrodAll enc P W' 0 sp true f.params.toList args.toList (s.fn H (ds ++ gs)).args pa)
    (hvars : ∀ sp : Nat → Bool, (∀ p ∈ before, sp p.block = true) → DataW.TrodVars enc P W' sp s.vars (s.fn H (ds ++ gs)).vars pv)
    (hps : before = pa ++ pv) (hk : W.keptBut W' (· ∈ before)) :
    s.post enc P f apart fresh handsOn false W args v W' := by
  have hold : ∀ p ∈ before, (fun b => decide (b < W.heap.size)) p.block = true := fun p hp => by simpa using hW.lt p hp
  refine ⟨ds, gs, before, [], pa, pv, hW, hres _ _ _, hargs _ hold, hvars _ hold, World.keptBut_mono (fun p hp => ⟨hp, ?_⟩) hk, fun h => by cases h⟩
  rw [hps, List.mem_append] at hp
  exact Or.inr hp
end
end Go
namespace Go.V
/-- a function's code, and its parts -/
def codeOf (P : Program) (f : Nat) : Code := match P.funcs[f]? with
  | some fn => match fn.body with
    | some c => c
    | none => .skip
  | none => .skip
def _root_.Go.Code.l : Code → Code
  | .seq a _ => a
  | c => c
def _root_.Go.Code.r : Code → Code
  | .seq _ b => b
  | c => c
def resultsOf (P : Program) (f : Nat) : List ResultVar := match P.funcs[f]? with
  | some fn => fn.results.toList
  | none => []
/-- what is done when a call that only computes ends -/
def kEnd (E : Env) (f : Nat) : Kont R := fun e st => match e with
  | .exit _ => none
  | _ => match resR E (resultsOf E.P f) st with
    | some r => some (fin st.heap r)
    | none => none
theorem bif_k {τ α : Type} {c : Bool} (K : τ → α) {A B : α} {a b : τ} (ha : A = K a) (hb : B = K b) : (bif c then A else B) = K (bif c then a else b) := by cases c <;> assumption
end Go.V
namespace Go.V
variable {E : Env} {cp : CallP}
def bodyB (P : Program) (f : Nat) (args : List R) (nt : Nat) : Bool := match P.funcs[f]? with
  | some fn => fn.body.isSome && fn.ntmps.beq nt && args.length.ble nt && !(anyRef args || R.hasOwL args)
  | none => false
theorem step_is {f nt : Nat} {args : List R} {regs : List (Nat × R)} (h : bodyB E.P f args nt = true) (hr : initRegs 0 args = regs) :
    step E cp f args = runCode E f cp noE (codeOf E.P f) ⟨regs, [], [], nt⟩ (kEnd E f) := by
  unfold bodyB at h
  change (bif anyRef args || R.hasOwL args then none else callBody E cp noE R f args [] fun r h => some (fin h r)) = _
  unfold callBody codeOf kEnd resultsOf
  cases hf : E.P.funcs[f]? with
  | none => rw [hf] at h; cases h
  | some fn =>
    rw [hf] at h
    simp only [Bool.and_eq_true, nbeq, Bool.not_eq_true'] at h
    obtain ⟨⟨⟨h1, h2⟩, h3⟩, h4⟩ := h
    cases hb : fn.body with
    | none => rw [hb] at h1; cases h1
    | some c =>
      simp only [hb, h4, cond_false, ← h2, hr]
      rw [h2, h3]
      simp only [cond_true]
      rfl
end Go.V
namespace Go.V
variable {E : Env} {cp : CallP} {ce : CallE}
def regOps : Code → List Oper
  | .region _ ops _ => ops.toList
  | _ => []
def _root_.Go.Code.t : Code → Code
  | .cond _ a _ => a
  | c => c
def _root_.Go.Code.e : Code → Code
  | .cond _ _ b => b
  | c => c
def opAt (all : List Oper) (n : Nat) : Oper := (all[n]?).getD ⟨none, .alloc 0, 0, default, #[], none⟩
def callOf (o : Oper) : Call := match o.op with
  | .call c => c
  | _ => ⟨.builtin .len, #[], #[]⟩
def calleeOf (c : Call) : Operand := match c.callee with
  | .value x => x
  | _ => .tmp 0
theorem bif_t {α : Type} {c : Bool} {A B X : α} (hc : c = true) (ha : A = X) : (bif c then A else B) = X := by rw [hc]; exact ha
theorem bif_f {α : Type} {c : Bool} {A B X : α} (hc : c = false) (hb : B = X) : (bif c then A else B) = X := by rw [hc]; exact hb
end Go.V
namespace Go.V
variable {E : Env} {cp : CallP} {ce : CallE} {f : Nat}
def condOf : Code → Operand
  | .cond x _ _ => x
  | _ => .tmp 0
theorem cond_eq {α : Type} {c : Code} {st st' : St} {k : Kont α} {b : Bool} (hc : c = .cond (condOf c) c.t c.e) (hx : evalO E 0 (look st.regs) (condOf c) = some (.one (.g .bool b))) (hs : st.past E f (condOf c) = st') :
    runCode E f cp ce c st k = bif b then runCode E f cp ce c.t st' k else runCode E f cp ce c.e st' k := by
  have e : runCode E f cp ce c st k = runCode E f cp ce (.cond (condOf c) c.t c.e) st k := congrArg (fun z => runCode E f cp ce z st k) hc
  rw [e]
  simp only [runCode, hx, hs]
end Go.V
