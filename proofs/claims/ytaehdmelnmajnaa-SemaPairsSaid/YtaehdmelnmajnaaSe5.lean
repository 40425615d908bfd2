/- What functions compute. -/
import Derived.Test.YtaehdmelnmajnaaSe2
namespace Go.V.P
open Go.RowKit Go.V Go.Proofs
set_option linter.unusedVariables false
set_option maxRecDepth 100000
section
variable {α : Type} (c1_ : (List Int)) (y602 : (List Int)) (y639 : (List Int)) (s657 : (Int × (List Int))) (s670 : (Int × (List Int))) (y672 : (Int × (List Int))) (y673 : (Int × (List Int))) (y674 : (Int × (List Int))) (k : St → Option α) (q : Kont α)
noncomputable abbrev C6 := codeOf E.P 15
noncomputable abbrev P6 := @preK α E 15 cp4 semE
noncomputable abbrev R6 := @runCode α E 15 cp4 semE
abbrev S6_0 : St := ⟨[(0, rF 0), (3, rF 1)], [[.sem c1_], [.sem y602]], [], 24⟩
theorem sema_Sems_Clone_r1 : P6 2 C6 ⟨[(0, rF 0)], [[.sem c1_]], [], 24⟩ k = Option.bind semNew fun y602 : (List Int) => k (S6_0 c1_ y602) := by kernel_rfl
abbrev S6_1 : St := ⟨[(3, rF 1), (8, rl (.one (.int .i64)) y639), (9, ri (y639.length : Int)), (10, ri 0)], [[.sem c1_], [.sem y602]], [], 24⟩
theorem sema_Sems_Clone_r2 : P6 1 C6.r.r.l (S6_0 c1_ y602) k = Option.bind (semAll c1_) fun y639 : (List Int) => k (S6_1 c1_ y602 y639) := by kernel_rfl
abbrev S6_2 : St := ⟨[(3, rF 1), (8, rl (.one (.int .i64)) y639), (9, ri (y639.length : Int)), (10, ri s657.1)], [[.sem c1_], [.sem s657.2]], [], 24⟩
theorem sema_Sems_Clone_fz : P6 1 C6.r.r.l.r.b.b (S6_2 c1_ y639 s657) k = k ⟨[(3, rF 1), (8, rl (.one (.int .i64)) y639), (9, ri (y639.length : Int)), (10, ri s657.1), (11, rb (decide (s657.1 < (y639.length : Int))))], [[.sem c1_], [.sem s657.2]], [], 24⟩ := by kernel_rfl
def sema_Sems_Clone_r4_p : Option Unit := (bif (decide ((0 : Int) ≤ s657.1)) then (bif (decide (s657.1 < (y639.length : Int))) then (some ()) else none) else none)
abbrev S6_3 : St := ⟨[(3, rF 1), (4, ri s657.1), (5, ri (gt y639 s657.1 (0 : Int))), (8, rl (.one (.int .i64)) y639), (9, ri (y639.length : Int)), (10, ri s657.1)], [[.sem c1_], [.sem s657.2]], [], 24⟩
theorem sema_Sems_Clone_r4 : P6 1 C6.r.r.l.r.b.b.r.r.l.b (S6_2 c1_ y639 s657) k = Option.bind (sema_Sems_Clone_r4_p y639 s657) (fun y666 : Unit => k (S6_3 c1_ y639 s657)) := .trans (by kernel_rfl) (bif_b (bif_b some_b none_b) none_b)
abbrev S6_4 : St := ⟨[(3, rF 1), (4, ri s657.1), (8, rl (.one (.int .i64)) y639), (9, ri (y639.length : Int)), (10, ri s657.1), (15, ri (gt y639 s657.1 (0 : Int))), (16, ri 0)], [[.sem c1_], [.sem s657.2]], [], 24⟩
theorem sema_Sems_Clone_f6 : P6 1 C6.r.r.l.r.b.b.r.r.l.b.r (S6_3 c1_ y639 s657) k = k (S6_4 c1_ y639 s657) := by kernel_rfl
abbrev S6_5 : St := ⟨[(3, rF 1), (4, ri s657.1), (8, rl (.one (.int .i64)) y639), (9, ri (y639.length : Int)), (10, ri s657.1), (15, ri (gt y639 s657.1 (0 : Int))), (16, ri s670.1)], [[.sem c1_], [.sem s670.2]], [], 24⟩
theorem sema_Sems_Clone_fzx1 : P6 1 C6.r.r.l.r.b.b.r.r.l.b.r.r.b.b (S6_5 c1_ y639 s657 s670) k = k ⟨[(3, rF 1), (4, ri s657.1), (8, rl (.one (.int .i64)) y639), (9, ri (y639.length : Int)), (10, ri s657.1), (15, ri (gt y639 s657.1 (0 : Int))), (16, ri s670.1), (17, rb (decide (s670.1 < (gt y639 s657.1 (0 : Int)))))], [[.sem c1_], [.sem s670.2]], [], 24⟩ := by kernel_rfl
abbrev S6_6 : St := ⟨[(3, rF 1), (4, ri s657.1), (8, rl (.one (.int .i64)) y639), (9, ri (y639.length : Int)), (10, ri s657.1), (15, ri (gt y639 s657.1 (0 : Int))), (16, ri s670.1)], [[.sem c1_], [.sem y672.2]], [], 24⟩
theorem sema_Sems_Clone_r7 : R6 C6.r.r.l.r.b.b.r.r.l.b.r.r.b.b.r.r.l.b (S6_5 c1_ y639 s657 s670) q = Option.bind (semSignal s670.2 s657.1) fun y672 : (Int × (List Int)) => q .normal (S6_6 c1_ y639 s657 s670 y672) := by kernel_rfl
theorem sema_Sems_Clone_r8 : R6 C6.r.r.l.r.b.b.r.r.l.b.r.r.b.b.r.r.r (S6_6 c1_ y639 s657 s670 y672) q = q .normal ⟨[(3, rF 1), (4, ri s657.1), (8, rl (.one (.int .i64)) y639), (9, ri (y639.length : Int)), (10, ri s657.1), (15, ri (gt y639 s657.1 (0 : Int))), (16, ri (IntKind.wrap .i64 (s670.1 + 1)))], [[.sem c1_], [.sem y672.2]], [], 24⟩ := by kernel_rfl
def sema_Sems_Clone_l6_p : Option ((Int × (List Int)) ⊕ (Int × (List Int))) := (bif (decide (s670.1 < (gt y639 s657.1 (0 : Int)))) then (Option.bind (semSignal s670.2 s657.1) (fun y672 : (Int × (List Int)) => (some (Sum.inl ((IntKind.wrap .i64 (s670.1 + 1)), y672.2))))) else (some (Sum.inr s670)))
abbrev S6_7 : St := ⟨[(3, rF 1), (4, ri s657.1), (8, rl (.one (.int .i64)) y639), (9, ri (y639.length : Int)), (10, ri s657.1), (15, ri (gt y639 s657.1 (0 : Int))), (16, ri y673.1)], [[.sem c1_], [.sem y673.2]], [], 24⟩
theorem sema_Sems_Clone_l6_b : R6 C6.r.r.l.r.b.b.r.r.l.b.r.r.b.b (S6_5 c1_ y639 s657 s670) (loopKont 2 q) = Option.bind (sema_Sems_Clone_l6_p y639 s657 s670) (either (fun y : (Int × (List Int)) => q .normal ⟨[(3, rF 1), (4, ri s657.1), (8, rl (.one (.int .i64)) y639), (9, ri (y639.length : Int)), (10, ri s657.1), (15, ri (gt y639 s657.1 (0 : Int))), (16, ri y.1)], [[.sem c1_], [.sem y.2]], [], 24⟩) (fun y673 : (Int × (List Int)) => q (.exit 2) (S6_7 c1_ y639 s657 y673))) := by
  refine .trans ?_ (bif_b (bind_b fun y672 => e2_0) e2_1)
  refine (pre1 (sema_Sems_Clone_fzx1 c1_ y639 s657 s670 _)).trans ?_
  refine .trans seq_push ?_
  refine (cond_e (b := (decide (s670.1 < (gt y639 s657.1 (0 : Int))))) (st' := (S6_5 c1_ y639 s657 s670)) ).trans (bif_g ?_ ?_)
  · refine (skip_eq).trans ?_
    refine (seqC_normal (st' := (S6_5 c1_ y639 s657 s670))).trans ?_
    refine .trans seq_push ?_
    refine (block_push (id := 3)).trans ?_
    refine (sema_Sems_Clone_r7 c1_ y639 s657 s670 _).trans (bind_g fun y672 => ?_)
    refine block_normal.trans ?_
    refine (seqC_normal (st' := (S6_6 c1_ y639 s657 s670 y672))).trans ?_
    refine (sema_Sems_Clone_r8 c1_ y639 s657 s670 y672 _).trans ?_
    kernel_rfl
  · refine ((exit_eq (j := 2))).trans ?_
    refine seqC_exit.trans ?_
    kernel_rfl
theorem sema_Sems_Clone_l6 : R6 C6.r.r.l.r.b.b.r.r.l.b.r.r.b (S6_4 c1_ y639 s657) q = Option.bind (iterN (sema_Sems_Clone_l6_p y639 s657) LL ((0 : Int), s657.2)) (fun y673 : (Int × (List Int)) => q (.exit 2) (S6_7 c1_ y639 s657 y673)) :=
  Eq.trans (by kernel_rfl) (loop_iter1 (S := fun s670 : (Int × (List Int)) => (S6_5 c1_ y639 s657 s670)) (Y1 := fun y673 : (Int × (List Int)) => ((.exit 2), (S6_7 c1_ y639 s657 y673))) (fun s q => sema_Sems_Clone_l6_b c1_ y639 s657 s q) (fun z => rfl) LL ((0 : Int), s657.2))
abbrev S6_8 : St := ⟨[(3, rF 1), (8, rl (.one (.int .i64)) y639), (9, ri (y639.length : Int)), (10, ri s657.1)], [[.sem c1_], [.sem y673.2]], [], 24⟩
theorem sema_Sems_Clone_r9 : R6 C6.r.r.l.r.b.b.r.r.r (S6_8 c1_ y639 s657 y673) q = q .normal ⟨[(3, rF 1), (8, rl (.one (.int .i64)) y639), (9, ri (y639.length : Int)), (10, ri (IntKind.wrap .i64 (s657.1 + 1)))], [[.sem c1_], [.sem y673.2]], [], 24⟩ := by kernel_rfl
def sema_Sems_Clone_l3_p : Option ((Int × (List Int)) ⊕ (Int × (List Int))) := (bif (decide (s657.1 < (y639.length : Int))) then (Option.bind (sema_Sems_Clone_r4_p y639 s657) (fun y666 : Unit => (Option.bind (iterN (sema_Sems_Clone_l6_p y639 s657) LL ((0 : Int), s657.2)) (fun y673 : (Int × (List Int)) => (some (Sum.inl ((IntKind.wrap .i64 (s657.1 + 1)), y673.2))))))) else (some (Sum.inr s657)))
abbrev S6_9 : St := ⟨[(3, rF 1), (8, rl (.one (.int .i64)) y639), (9, ri (y639.length : Int)), (10, ri y674.1)], [[.sem c1_], [.sem y674.2]], [], 24⟩
theorem sema_Sems_Clone_l3_b : R6 C6.r.r.l.r.b.b (S6_2 c1_ y639 s657) (loopKont 2 q) = Option.bind (sema_Sems_Clone_l3_p y639 s657) (either (fun y : (Int × (List Int)) => q .normal ⟨[(3, rF 1), (8, rl (.one (.int .i64)) y639), (9, ri (y639.length : Int)), (10, ri y.1)], [[.sem c1_], [.sem y.2]], [], 24⟩) (fun y674 : (Int × (List Int)) => q (.exit 0) (S6_9 c1_ y639 y674))) := by
  refine .trans ?_ (bif_b (bind_b fun y666 => (bind_b fun y673 => e2_0)) e2_1)
  refine (pre1 (sema_Sems_Clone_fz c1_ y639 s657 _)).trans ?_
  refine .trans seq_push ?_
  refine (cond_e (b := (decide (s657.1 < (y639.length : Int)))) (st' := (S6_2 c1_ y639 s657)) ).trans (bif_g ?_ ?_)
  · refine (skip_eq).trans ?_
    refine (seqC_normal (st' := (S6_2 c1_ y639 s657))).trans ?_
    refine .trans seq_push ?_
    refine (block_push (id := 1)).trans ?_
    refine (pre1 (sema_Sems_Clone_r4 c1_ y639 s657 _)).trans (bind_g fun y666 => ?_)
    refine (pre1 (sema_Sems_Clone_f6 c1_ y639 s657 _)).trans ?_
    refine (block_push (id := 2)).trans ?_
    refine (sema_Sems_Clone_l6 c1_ y639 s657 _).trans (bind_g fun y673 => ?_)
    refine block_same.trans ?_
    refine block_normal.trans ?_
    refine (seqC_normal (st' := (S6_8 c1_ y639 s657 y673))).trans ?_
    refine (sema_Sems_Clone_r9 c1_ y639 s657 y673 _).trans ?_
    kernel_rfl
  · refine ((exit_eq (j := 0))).trans ?_
    refine seqC_exit.trans ?_
    kernel_rfl
theorem sema_Sems_Clone_l3 : R6 C6.r.r.l.r.b (S6_1 c1_ y602 y639) q = Option.bind (iterN (sema_Sems_Clone_l3_p y639) LL ((0 : Int), y602)) (fun y674 : (Int × (List Int)) => q (.exit 0) (S6_9 c1_ y639 y674)) :=
  Eq.trans (by kernel_rfl) (loop_iter1 (S := fun s657 : (Int × (List Int)) => (S6_2 c1_ y639 s657)) (Y1 := fun y674 : (Int × (List Int)) => ((.exit 0), (S6_9 c1_ y639 y674))) (fun s q => sema_Sems_Clone_l3_b c1_ y639 s q) (fun z => rfl) LL ((0 : Int), y602))
theorem sema_Sems_Clone_fzx2 : P6 1 C6.r.r.r ⟨[(3, rF 1)], [[.sem c1_], [.sem y674.2]], [], 24⟩ k = k ⟨[(2, rF 1)], [[.sem c1_], [.sem y674.2]], [], 24⟩ := by kernel_rfl
/-- (*quilt/sema.Sems).Clone -/
def sema_Sems_Clone : Option (Unit × (List Int)) := (Option.bind semNew (fun y602 : (List Int) => (Option.bind (semAll c1_) (fun y639 : (List Int) => (Option.bind (iterN (sema_Sems_Clone_l3_p y639) LL ((0 : Int), y602)) (fun y674 : (Int × (List Int)) => (some ((), y674.2))))))))
theorem sema_Sems_Clone_is (k : R → Heap → Option α) : callBody E cp4 semE α 15 [rF 0] [[.sem c1_]] k = Option.bind (sema_Sems_Clone c1_) (fun y : (Unit × (List Int)) => k (.one (.ref 1 0)) [[.sem c1_], [.sem y.2]]) := by
  refine .trans ?_ (bind_b fun y602 => (bind_b fun y639 => (bind_b fun y674 => some_b)))
  refine (body_is (nt := 24) (regs := [(0, rF 0)]) (by kernel_rfl) (by kernel_rfl)).trans ?_
  refine (pre2 (sema_Sems_Clone_r1 c1_ _)).trans (bind_g fun y602 => ?_)
  refine .trans seq_push ?_
  refine (pre1 (sema_Sems_Clone_r2 c1_ y602 _)).trans (bind_g fun y639 => ?_)
  refine (block_push (id := 0)).trans ?_
  refine (sema_Sems_Clone_l3 c1_ y602 y639 _).trans (bind_g fun y674 => ?_)
  refine block_same.trans ?_
  refine (seqC_normal (st' := ⟨[(3, rF 1)], [[.sem c1_], [.sem y674.2]], [], 24⟩)).trans ?_
  refine (pre1 (sema_Sems_Clone_fzx2 c1_ y674 _)).trans ?_
  refine (ret_eq).trans ?_
  kernel_rfl
noncomputable def ce1 : CallE := withE semE 15 (decA [(.one (.ref 0 0))] [(.cons .sem .nil)]) (.one (.one (.ref 1 0))) (fun y : (Unit × (List Int)) => y.1) (fun x y => [[.sem x.2.1.1], [.sem y.2]]) (fun x => sema_Sems_Clone x.2.1.1)
theorem ce1_ok : EffOK E ce1 := conE eok cp4_ok semE_ok fun α x k => Eq.mp (by kernel_rfl) (sema_Sems_Clone_is x.2.1.1 k)
end
end Go.V.P
