/- What functions compute. -/
import Derived.Test.YtaehdmelnmajnaaHSem2
namespace Go.V.P
open Go.RowKit Go.V Go.Proofs
set_option linter.unusedVariables false
set_option maxRecDepth 100000
section
variable {α : Type} (y1 : (List Int)) (y2 : (Int × (List Int))) (y3 : (Int × (List Int))) (y4 : (Int × (List Int))) (k : St → Option α)
noncomputable abbrev C0 := codeOf E.P 8
noncomputable abbrev P0 := @preK α E 8 cpA semE
abbrev S0_0 : St := ⟨[(1, rF 0)], [[.sem y1]], [], 34⟩
theorem law10_shown_r1 : P0 2 C0 ⟨[], [], [], 34⟩ k = Option.bind semNew fun y1 : (List Int) => k (S0_0 y1) := by kernel_rfl
theorem law10_shown_f1000003 : P0 1 C0.r.r.l (S0_0 y1) k = k ⟨[(1, rF 0), (7, rb false)], [[.sem y1]], [], 34⟩ := by kernel_rfl
abbrev S0_1 : St := ⟨[(1, rF 0), (2, ri y2.1)], [[.sem y2.2]], [], 34⟩
theorem law10_shown_r4 : P0 1 C0.r.r.r (S0_0 y1) k = Option.bind (semWait y1 (0 : Int)) fun y2 : (Int × (List Int)) => k (S0_1 y2) := by kernel_rfl
abbrev S0_2 : St := ⟨[(1, rF 0), (2, ri y2.1), (3, ri y3.1)], [[.sem y3.2]], [], 34⟩
theorem law10_shown_r5 : P0 1 C0.r.r.r.r (S0_1 y2) k = Option.bind (semSignal y2.2 (0 : Int)) fun y3 : (Int × (List Int)) => k (S0_2 y2 y3) := by kernel_rfl
abbrev S0_3 : St := ⟨[(1, rF 0), (2, ri y2.1), (3, ri y3.1), (4, ri y4.1)], [[.sem y4.2]], [], 34⟩
theorem law10_shown_r6 : P0 1 C0.r.r.r.r.r (S0_2 y2 y3) k = Option.bind (semWait y3.2 (0 : Int)) fun y4 : (Int × (List Int)) => k (S0_3 y2 y3 y4) := by kernel_rfl
def law10_shown_r7_p : Option (Bool × (List Int)) := (bif (y2.1 == 20) then (bif (y3.1 == 0) then (bif (y4.1 == 0) then (Option.bind (semWait y4.2 (0 : Int)) (fun y5 : (Int × (List Int)) => (bif (y5.1 == 20) then (Option.bind (semSignal y5.2 (8 : Int)) (fun y6 : (Int × (List Int)) => (some ((y6.1 == 1), y6.2)))) else (some (false, y5.2))))) else (some (false, y4.2))) else (some (false, y4.2))) else (some (false, y4.2)))
theorem law10_shown_r7 : P0 1 C0.r.r.r.r.r.r (S0_3 y2 y3 y4) k = Option.bind (law10_shown_r7_p y2 y3 y4) (fun y7 : (Bool × (List Int)) => k ⟨[(0, rb y7.1)], [[.sem y7.2]], [], 34⟩) := .trans (by kernel_rfl) (bif_b (bif_b (bif_b (bind_b fun y5 => (bif_b (bind_b fun y6 => some_b) some_b)) some_b) some_b) some_b)
/-- quilt/quiltlaw10.shown -/
def law10_shown : Option Bool := (Option.bind semNew (fun y1 : (List Int) => (Option.bind (semWait y1 (0 : Int)) (fun y2 : (Int × (List Int)) => (Option.bind (semSignal y2.2 (0 : Int)) (fun y3 : (Int × (List Int)) => (Option.bind (semWait y3.2 (0 : Int)) (fun y4 : (Int × (List Int)) => (Option.bind (law10_shown_r7_p y2 y3 y4) (fun y7 : (Bool × (List Int)) => (some y7.1)))))))))))
theorem law10_shown_is : stepS E cpA semE 8 [] = Option.bind (law10_shown) (fun y : Bool => some (rb y : R)) := by
  refine .trans ?_ (bind_b fun y1 => (bind_b fun y2 => (bind_b fun y3 => (bind_b fun y4 => (bind_b fun y7 => some_b)))))
  refine (stepG_is (nt := 34) (regs := [])).trans ?_
  refine (pre2 (law10_shown_r1 _)).trans (bind_g fun y1 => ?_)
  refine .trans seq_push ?_
  refine (pre1 (law10_shown_f1000003 y1 _)).trans ?_
  refine (cond_f (st' := (S0_0 y1)) ).trans ?_
  refine (skip_eq).trans ?_
  refine (seqC_normal (st' := (S0_0 y1))).trans ?_
  refine (pre1 (law10_shown_r4 y1 _)).trans (bind_g fun y2 => ?_)
  refine (pre1 (law10_shown_r5 y2 _)).trans (bind_g fun y3 => ?_)
  refine (pre1 (law10_shown_r6 y2 y3 _)).trans (bind_g fun y4 => ?_)
  refine (pre1 (law10_shown_r7 y2 y3 y4 _)).trans (bind_g fun y7 => ?_)
  refine (ret_eq).trans ?_
  kernel_rfl
noncomputable def cp1 : CallP := withC cpA 8 [] (.one pB) (fun y : Bool => y) (fun x => law10_shown)
theorem cp1_ok : PureOK E cp1 := conS eok cpA_ok semE_ok fun x => Eq.mp (by kernel_rfl) (law10_shown_is)
end
end Go.V.P
