/- What the evaluator hands on does not hang on what is done with it. -/
import Derived.Test.YtelfooangijedaaOps9
namespace Go.V
section
variable {E : Env} {f : Nat} {cp : CallP} {o : Oper} {lk : Nat → Option R} {h : Heap} {α : Type}

theorem atIdx_bind {i : Int} {g : Nat → Option Eff} {k : Eff → Option α} : ∀ {n j : Nat}, atIdx i (fun m => (g m).bind k) j n = (atIdx i g j n).bind k
  | 0, j => by simp [atIdx]
  | n + 1, j => by
    simp only [atIdx]
    cases (i == (j : Int)) with
    | true => rfl
    | false => exact atIdx_bind
theorem typed_bind {own : Bool} {dst ty : Nat} {r : R} {g : R → Option Eff} {k : Eff → Option α} : typed E own dst ty r (fun q => (g q).bind k) = (typed E own dst ty r g).bind k := by
  unfold typed
  split
  · cases unTup _ r <;> rfl
  · split
    · cases unOne own _ _ r <;> rfl
    · rfl

theorem cond_bind {c : Bool} {x y : Option Eff} {k : Eff → Option α} : (bif c then x else y).bind k = bif c then x.bind k else y.bind k := by cases c <;> rfl
theorem dite_bind {c : Prop} [Decidable c] {x : c → Option Eff} {y : ¬c → Option Eff} {k : Eff → Option α} : (if h : c then x h else y h).bind k = if h : c then (x h).bind k else (y h).bind k := by split <;> rfl
theorem atIdx_bind' {i : Int} {g : Nat → Option Eff} {k : Eff → Option α} {g' : Nat → Option α} {n j : Nat} (hg : ∀ m, g' m = (g m).bind k) : atIdx i g' j n = (atIdx i g j n).bind k := by
  rw [← atIdx_bind]
  congr 1
  exact funext hg
theorem effK_bind (k : Eff → Option α) : effK E f cp o lk h k = (effK E f cp o lk h some).bind k := by
  unfold effK
  simp only [CallP.hk]
  cases ho : o.op <;> simp only [Option.bind_none]
  all_goals (repeat' (first | rfl | split | (simp; done)))
  all_goals (try simp only [cond_bind, Option.bind_some, Option.bind_none])
  all_goals (repeat' (first | rfl | split | (simp; done)))
  all_goals first
    | (refine atIdx_bind' fun m => ?_; first | rfl | (repeat' (first | rfl | split | (simp; done))))
    | (rename_i g caps args _ _; cases (cp g ((args ++ caps.map R.one).map (R.map D.strip))) with
        | none => rfl
        | some r => simp only [Option.bind_some]; rw [← typed_bind]; rfl)
    | trace_state
end
end Go.V
