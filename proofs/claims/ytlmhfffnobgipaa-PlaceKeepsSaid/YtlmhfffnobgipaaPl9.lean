/- What functions compute. -/
import Derived.Test.YtlmhfffnobgipaaPl5
namespace Go.V.P
open Go.RowKit Go.V Go.Proofs
set_option linter.unusedVariables false
set_option maxRecDepth 100000
section
variable {α β : Type} (g_ : Graph) (y2719 : Bool) (y2720 : Graph) (y2721 : ((List I4) × Int)) (y2722 : ((List Int) × Int)) (s2802 : Int) (s2822 : Int) (s2841 : (Int × Int × (List Int))) (y2845 : Int) (y2846 : (Int × Int × (List Int))) (y2847 : (Int × Int)) (k : St → Option α) (q : Kont α)
noncomputable abbrev C73 := codeOf E.P 6
noncomputable abbrev P73 := @preK α E 6 cp67 ce3
noncomputable abbrev R73 := @runCode α E 6 cp67 ce3
theorem law17_PlaceKeeps_r1 : P73 2 C73 ⟨[(0, rA tsGraph g_)], [], [], 135⟩ k = Option.bind law17_shown fun y2719 : Bool => k ⟨[(1, rF 0), (3, rb y2719)], [(tsGraph.leaves g_)], [], 135⟩ := by kernel_rfl
theorem law17_PlaceKeeps_r2 : P73 1 C73.r.r ⟨[(1, rF 0), (3, rb y2719)], [(tsGraph.leaves g_)], [], 135⟩ k = Option.bind (law17_less g_) fun y2720 : Graph => k ⟨[(1, rF 0), (3, rb y2719)], [(tsGraph.leaves y2720)], [], 135⟩ := by kernel_rfl
abbrev S73_0 : St := ⟨[(1, rF 0), (3, rb y2719), (4, rO tsI4 y2721.1 4), (5, ri y2721.2)], [(tsGraph.leaves y2720)], [], 135⟩
theorem law17_PlaceKeeps_r3 : P73 1 C73.r.r.r ⟨[(1, rF 0), (3, rb y2719)], [(tsGraph.leaves y2720)], [], 135⟩ k = Option.bind (ref03_Values y2720) fun y2721 : ((List I4) × Int) => k (S73_0 y2719 y2720 y2721) := by kernel_rfl
theorem law17_PlaceKeeps_f1000005 : P73 1 C73.r.r.r.r.l (S73_0 y2719 y2720 y2721) k = k ⟨[(1, rF 0), (3, rb y2719), (4, rO tsI4 y2721.1 4), (25, rb (y2721.2 != 0))], [(tsGraph.leaves y2720)], [], 135⟩ := by kernel_rfl
abbrev S73_1 : St := ⟨[(1, rF 0), (3, rb y2719), (4, rO tsI4 y2721.1 4)], [(tsGraph.leaves y2720)], [], 135⟩
theorem law17_PlaceKeeps_fz : P73 1 C73.r.r.r.r.l.r.t (S73_1 y2719 y2720 y2721) k = k ⟨[(2, rb y2719)], [[]], [], 135⟩ := by kernel_rfl
abbrev S73_2 : St := ⟨[(1, rF 0), (3, rb y2719), (4, rO tsI4 y2721.1 4), (6, .one (.ow (.one (.int .i64)) y2722.1 (.v 6))), (7, ri y2722.2)], [(tsGraph.leaves y2720)], [], 135⟩
theorem law17_PlaceKeeps_r6 : P73 1 C73.r.r.r.r.r (S73_1 y2719 y2720 y2721) k = Option.bind (place_Places y2720) fun y2722 : ((List Int) × Int) => k (S73_2 y2719 y2720 y2721 y2722) := by kernel_rfl
def law17_PlaceKeeps_r7_q (K : Bool → β) : β := (bif (y2722.2 != 0) then (K true) else (K ((y2722.1.length : Int) != (y2721.1.length : Int))))
def law17_PlaceKeeps_r7_p : Bool := law17_PlaceKeeps_r7_q y2721 y2722 (fun y => y)
theorem law17_PlaceKeeps_r7_n (K : Bool → β) : law17_PlaceKeeps_r7_q y2721 y2722 K = K (law17_PlaceKeeps_r7_p y2721 y2722) := (bif_k K rfl rfl)
theorem law17_PlaceKeeps_r7 : P73 1 C73.r.r.r.r.r.r.l (S73_2 y2719 y2720 y2721 y2722) k = k ⟨[(1, rF 0), (3, rb y2719), (4, rO tsI4 y2721.1 4), (6, .one (.ow (.one (.int .i64)) y2722.1 (.v 6))), (40, rb (law17_PlaceKeeps_r7_p y2721 y2722))], [(tsGraph.leaves y2720)], [], 135⟩ := Eq.trans (by kernel_rfl) (law17_PlaceKeeps_r7_n y2721 y2722 (fun y2724 : Bool => k ⟨[(1, rF 0), (3, rb y2719), (4, rO tsI4 y2721.1 4), (6, .one (.ow (.one (.int .i64)) y2722.1 (.v 6))), (40, rb y2724)], [(tsGraph.leaves y2720)], [], 135⟩))
abbrev S73_3 : St := ⟨[(1, rF 0), (3, rb y2719), (4, rO tsI4 y2721.1 4), (6, .one (.ow (.one (.int .i64)) y2722.1 (.v 6)))], [(tsGraph.leaves y2720)], [], 135⟩
abbrev S73_4 : St := ⟨[(2, rb false)], [[]], [], 135⟩
theorem law17_PlaceKeeps_fzx1 : P73 1 C73.r.r.r.r.r.r.l.r.t (S73_3 y2719 y2720 y2721 y2722) k = k S73_4 := by kernel_rfl
abbrev S73_5 : St := ⟨[(1, rF 0), (3, rb y2719), (4, rO tsI4 y2721.1 4), (6, .one (.ow (.one (.int .i64)) y2722.1 (.v 6))), (8, ri 0)], [(tsGraph.leaves y2720)], [], 135⟩
theorem law17_PlaceKeeps_f10 : P73 1 C73.r.r.r.r.r.r.r.l (S73_3 y2719 y2720 y2721 y2722) k = k (S73_5 y2719 y2720 y2721 y2722) := by kernel_rfl
abbrev S73_6 : St := ⟨[(1, rF 0), (3, rb y2719), (4, rO tsI4 y2721.1 4), (6, .one (.ow (.one (.int .i64)) y2722.1 (.v 6))), (8, ri s2802)], [(tsGraph.leaves y2720)], [], 135⟩
theorem law17_PlaceKeeps_fzx2 : P73 1 C73.r.r.r.r.r.r.r.l.r.b.b.l (S73_6 y2719 y2720 y2721 y2722 s2802) k = k ⟨[(1, rF 0), (3, rb y2719), (4, rO tsI4 y2721.1 4), (6, .one (.ow (.one (.int .i64)) y2722.1 (.v 6))), (8, ri s2802), (45, rb (decide (s2802 < (y2720.2.2.length : Int))))], [(tsGraph.leaves y2720)], [], 135⟩ := by kernel_rfl
def law17_PlaceKeeps_r12_p : Option Unit := (bif (decide ((0 : Int) ≤ s2802)) then (bif (decide (s2802 < (y2720.2.2.length : Int))) then (some ()) else none) else none)
abbrev S73_7 : St := ⟨[(1, rF 0), (3, rb y2719), (4, rO tsI4 y2721.1 4), (6, .one (.ow (.one (.int .i64)) y2722.1 (.v 6))), (8, ri s2802), (9, ri (gt y2720.2.2 s2802 (0 : Int)))], [(tsGraph.leaves y2720)], [], 135⟩
theorem law17_PlaceKeeps_r12 : P73 1 C73.r.r.r.r.r.r.r.l.r.b.b.r.l.b (S73_6 y2719 y2720 y2721 y2722 s2802) k = Option.bind (law17_PlaceKeeps_r12_p y2720 s2802) (fun y2815 : Unit => k (S73_7 y2719 y2720 y2721 y2722 s2802)) := .trans (by kernel_rfl) (bif_b (bif_b some_b none_b) none_b)
abbrev S73_8 : St := ⟨[(1, rF 0), (3, rb y2719), (4, rO tsI4 y2721.1 4), (6, .one (.ow (.one (.int .i64)) y2722.1 (.v 6))), (8, ri s2802), (9, ri (gt y2720.2.2 s2802 (0 : Int))), (10, ri (IntKind.wrap .i64 ((gt y2720.2.2 s2802 (0 : Int)) + 1)))], [(tsGraph.leaves y2720)], [], 135⟩
theorem law17_PlaceKeeps_f14 : P73 1 C73.r.r.r.r.r.r.r.l.r.b.b.r.l.b.r (S73_7 y2719 y2720 y2721 y2722 s2802) k = k (S73_8 y2719 y2720 y2721 y2722 s2802) := by kernel_rfl
abbrev S73_9 : St := ⟨[(1, rF 0), (3, rb y2719), (4, rO tsI4 y2721.1 4), (6, .one (.ow (.one (.int .i64)) y2722.1 (.v 6))), (8, ri s2802), (9, ri (gt y2720.2.2 s2802 (0 : Int))), (10, ri s2822)], [(tsGraph.leaves y2720)], [], 135⟩
theorem law17_PlaceKeeps_fzx3 : P73 1 C73.r.r.r.r.r.r.r.l.r.b.b.r.l.b.r.r.b.b.l (S73_9 y2719 y2720 y2721 y2722 s2802 s2822) k = k ⟨[(1, rF 0), (3, rb y2719), (4, rO tsI4 y2721.1 4), (6, .one (.ow (.one (.int .i64)) y2722.1 (.v 6))), (8, ri s2802), (9, ri (gt y2720.2.2 s2802 (0 : Int))), (10, ri s2822), (58, rb (decide (s2822 < (y2721.1.length : Int))))], [(tsGraph.leaves y2720)], [], 135⟩ := by kernel_rfl
def law17_PlaceKeeps_r16_p : Option Bool := (bif (decide ((0 : Int) ≤ s2822)) then (bif (decide (s2822 < (y2722.1.length : Int))) then (bif (decide ((0 : Int) ≤ (gt y2720.2.2 s2802 (0 : Int)))) then (bif (decide ((gt y2720.2.2 s2802 (0 : Int)) < (y2722.1.length : Int))) then (bif (decide ((0 : Int) ≤ s2822)) then (bif (decide (s2822 < (y2722.1.length : Int))) then (bif (decide ((0 : Int) ≤ s2822)) then (bif (decide (s2822 < (y2721.1.length : Int))) then (bif (decide ((0 : Int) ≤ (gt y2720.2.2 s2802 (0 : Int)))) then (bif (decide ((gt y2720.2.2 s2802 (0 : Int)) < (y2722.1.length : Int))) then (bif (decide ((0 : Int) ≤ (gt y2720.2.2 s2802 (0 : Int)))) then (bif (decide ((gt y2720.2.2 s2802 (0 : Int)) < (y2721.1.length : Int))) then (some (decide ((max (gt y2722.1 s2822 (0 : Int)) (gt y2722.1 (gt y2720.2.2 s2802 (0 : Int)) (0 : Int))) < (min (IntKind.wrap .i64 ((gt y2722.1 s2822 (0 : Int)) + (ref02_Size ((gt y2721.1 s2822 dI4).1, (gt y2721.1 s2822 dI4).2.1, (gt y2721.1 s2822 dI4).2.2.1)))) (IntKind.wrap .i64 ((gt y2722.1 (gt y2720.2.2 s2802 (0 : Int)) (0 : Int)) + (ref02_Size ((gt y2721.1 (gt y2720.2.2 s2802 (0 : Int)) dI4).1, (gt y2721.1 (gt y2720.2.2 s2802 (0 : Int)) dI4).2.1, (gt y2721.1 (gt y2720.2.2 s2802 (0 : Int)) dI4).2.2.1)))))))) else none) else none) else none) else none) else none) else none) else none) else none) else none) else none) else none) else none)
theorem law17_PlaceKeeps_r16 : P73 1 C73.r.r.r.r.r.r.r.l.r.b.b.r.l.b.r.r.b.b.r.l.b (S73_9 y2719 y2720 y2721 y2722 s2802 s2822) k = Option.bind (law17_PlaceKeeps_r16_p y2720 y2721 y2722 s2802 s2822) (fun y2824 : Bool => k ⟨[(1, rF 0), (3, rb y2719), (4, rO tsI4 y2721.1 4), (6, .one (.ow (.one (.int .i64)) y2722.1 (.v 6))), (8, ri s2802), (9, ri (gt y2720.2.2 s2802 (0 : Int))), (10, ri s2822), (93, rb y2824)], [(tsGraph.leaves y2720)], [], 135⟩) := .trans (by kernel_rfl) (bif_b (bif_b (bif_b (bif_b (bif_b (bif_b (bif_b (bif_b (bif_b (bif_b (bif_b (bif_b some_b none_b) none_b) none_b) none_b) none_b) none_b) none_b) none_b) none_b) none_b) none_b) none_b)
theorem law17_PlaceKeeps_fzx4 : P73 1 C73.r.r.r.r.r.r.r.l.r.b.b.r.l.b.r.r.b.b.r.l.b.r.t (S73_9 y2719 y2720 y2721 y2722 s2802 s2822) k = k S73_4 := by kernel_rfl
theorem law17_PlaceKeeps_r15 : R73 C73.r.r.r.r.r.r.r.l.r.b.b.r.l.b.r.r.b.b.r.r (S73_9 y2719 y2720 y2721 y2722 s2802 s2822) q = q .normal ⟨[(1, rF 0), (3, rb y2719), (4, rO tsI4 y2721.1 4), (6, .one (.ow (.one (.int .i64)) y2722.1 (.v 6))), (8, ri s2802), (9, ri (gt y2720.2.2 s2802 (0 : Int))), (10, ri (IntKind.wrap .i64 (s2822 + 1)))], [(tsGraph.leaves y2720)], [], 135⟩ := by kernel_rfl
def law17_PlaceKeeps_l14_p : Option (Int ⊕ (Int ⊕ Unit)) := (bif (decide (s2822 < (y2721.1.length : Int))) then (Option.bind (law17_PlaceKeeps_r16_p y2720 y2721 y2722 s2802 s2822) (fun y2824 : Bool => (bif y2824 then (some (Sum.inr (Sum.inr ()))) else (some (Sum.inl (IntKind.wrap .i64 (s2822 + 1))))))) else (some (Sum.inr (Sum.inl s2822))))
abbrev S73_10 (y2825 : Int) : St := ⟨[(1, rF 0), (3, rb y2719), (4, rO tsI4 y2721.1 4), (6, .one (.ow (.one (.int .i64)) y2722.1 (.v 6))), (8, ri s2802), (9, ri (gt y2720.2.2 s2802 (0 : Int))), (10, ri y2825)], [(tsGraph.leaves y2720)], [], 135⟩
theorem law17_PlaceKeeps_l14_b : R73 C73.r.r.r.r.r.r.r.l.r.b.b.r.l.b.r.r.b.b (S73_9 y2719 y2720 y2721 y2722 s2802 s2822) (loopKont 1 q) = Option.bind (law17_PlaceKeeps_l14_p y2720 y2721 y2722 s2802 s2822) (either (fun y : Int => q .normal ⟨[(1, rF 0), (3, rb y2719), (4, rO tsI4 y2721.1 4), (6, .one (.ow (.one (.int .i64)) y2722.1 (.v 6))), (8, ri s2802), (9, ri (gt y2720.2.2 s2802 (0 : Int))), (10, ri y)], [(tsGraph.leaves y2720)], [], 135⟩) (either (fun y2825 : Int => q (.exit 2) (S73_10 y2719 y2720 y2721 y2722 s2802 y2825)) (fun y2826 : Unit => q .ret S73_4))) := by
  refine .trans ?_ (bif_b (bind_b fun y2824 => (bif_b e3_2 e3_0)) e3_1)
  refine .trans seq_push ?_
  refine (pre1 (law17_PlaceKeeps_fzx3 y2719 y2720 y2721 y2722 s2802 s2822 _)).trans ?_
  refine (cond_e (b := (decide (s2822 < (y2721.1.length : Int)))) (st' := (S73_9 y2719 y2720 y2721 y2722 s2802 s2822)) ).trans (bif_g ?_ ?_)
  · refine (skip_eq).trans ?_
    refine (seqC_normal (st' := (S73_9 y2719 y2720 y2721 y2722 s2802 s2822))).trans ?_
    refine .trans seq_push ?_
    refine (block_push (id := 3)).trans ?_
    refine (pre1 (law17_PlaceKeeps_r16 y2719 y2720 y2721 y2722 s2802 s2822 _)).trans (bind_g fun y2824 => ?_)
    refine (cond_e (b := y2824) (st' := (S73_9 y2719 y2720 y2721 y2722 s2802 s2822)) ).trans (bif_g ?_ ?_)
    · refine (pre1 (law17_PlaceKeeps_fzx4 y2719 y2720 y2721 y2722 s2802 s2822 _)).trans ?_
      refine (ret_eq).trans ?_
      refine block_ret.trans ?_
      refine seqC_ret.trans ?_
      kernel_rfl
    · refine (skip_eq).trans ?_
      refine block_normal.trans ?_
      refine (seqC_normal (st' := (S73_9 y2719 y2720 y2721 y2722 s2802 s2822))).trans ?_
      refine (law17_PlaceKeeps_r15 y2719 y2720 y2721 y2722 s2802 s2822 _).trans ?_
      kernel_rfl
  · refine ((exit_eq (j := 2))).trans ?_
    refine seqC_exit.trans ?_
    kernel_rfl
theorem law17_PlaceKeeps_l14 : R73 C73.r.r.r.r.r.r.r.l.r.b.b.r.l.b.r.r.b (S73_8 y2719 y2720 y2721 y2722 s2802) q = Option.bind (iterN (law17_PlaceKeeps_l14_p y2720 y2721 y2722 s2802) LL (IntKind.wrap .i64 ((gt y2720.2.2 s2802 (0 : Int)) + 1))) (either (fun y2825 : Int => q (.exit 2) (S73_10 y2719 y2720 y2721 y2722 s2802 y2825)) (fun y2826 : Unit => q .ret S73_4)) :=
  Eq.trans (by kernel_rfl) (loop_iter2 (S := fun s2822 : Int => (S73_9 y2719 y2720 y2721 y2722 s2802 s2822)) (Y1 := fun y2825 : Int => ((.exit 2), (S73_10 y2719 y2720 y2721 y2722 s2802 y2825))) (Y2 := fun y2826 : Unit => (.ret, S73_4)) (fun s q => law17_PlaceKeeps_l14_b y2719 y2720 y2721 y2722 s2802 s q) (fun z => rfl) (fun z => rfl) LL (IntKind.wrap .i64 ((gt y2720.2.2 s2802 (0 : Int)) + 1)))
theorem law17_PlaceKeeps_r11 : R73 C73.r.r.r.r.r.r.r.l.r.b.b.r.r (S73_6 y2719 y2720 y2721 y2722 s2802) q = q .normal ⟨[(1, rF 0), (3, rb y2719), (4, rO tsI4 y2721.1 4), (6, .one (.ow (.one (.int .i64)) y2722.1 (.v 6))), (8, ri (IntKind.wrap .i64 (s2802 + 1)))], [(tsGraph.leaves y2720)], [], 135⟩ := by kernel_rfl
def law17_PlaceKeeps_l10_p : Option (Int ⊕ (Int ⊕ Unit)) := (bif (decide (s2802 < (y2720.2.2.length : Int))) then (Option.bind (law17_PlaceKeeps_r12_p y2720 s2802) (fun y2815 : Unit => (Option.bind (iterN (law17_PlaceKeeps_l14_p y2720 y2721 y2722 s2802) LL (IntKind.wrap .i64 ((gt y2720.2.2 s2802 (0 : Int)) + 1))) (either (fun y2825 : Int => (some (Sum.inl (IntKind.wrap .i64 (s2802 + 1))))) (fun y2826 : Unit => (some (Sum.inr (Sum.inr ())))))))) else (some (Sum.inr (Sum.inl s2802))))
abbrev S73_11 (y2827 : Int) : St := ⟨[(1, rF 0), (3, rb y2719), (4, rO tsI4 y2721.1 4), (6, .one (.ow (.one (.int .i64)) y2722.1 (.v 6))), (8, ri y2827)], [(tsGraph.leaves y2720)], [], 135⟩
theorem law17_PlaceKeeps_l10_b : R73 C73.r.r.r.r.r.r.r.l.r.b.b (S73_6 y2719 y2720 y2721 y2722 s2802) (loopKont 1 q) = Option.bind (law17_PlaceKeeps_l10_p y2720 y2721 y2722 s2802) (either (fun y : Int => q .normal ⟨[(1, rF 0), (3, rb y2719), (4, rO tsI4 y2721.1 4), (6, .one (.ow (.one (.int .i64)) y2722.1 (.v 6))), (8, ri y)], [(tsGraph.leaves y2720)], [], 135⟩) (either (fun y2827 : Int => q (.exit 0) (S73_11 y2719 y2720 y2721 y2722 y2827)) (fun y2828 : Unit => q .ret S73_4))) := by
  refine .trans ?_ (bif_b (bind_b fun y2815 => (bind_b (either_b (fun y2825 => e3_0) (fun y2826 => e3_2)))) e3_1)
  refine .trans seq_push ?_
  refine (pre1 (law17_PlaceKeeps_fzx2 y2719 y2720 y2721 y2722 s2802 _)).trans ?_
  refine (cond_e (b := (decide (s2802 < (y2720.2.2.length : Int)))) (st' := (S73_6 y2719 y2720 y2721 y2722 s2802)) ).trans (bif_g ?_ ?_)
  · refine (skip_eq).trans ?_
    refine (seqC_normal (st' := (S73_6 y2719 y2720 y2721 y2722 s2802))).trans ?_
    refine .trans seq_push ?_
    refine (block_push (id := 1)).trans ?_
    refine (pre1 (law17_PlaceKeeps_r12 y2719 y2720 y2721 y2722 s2802 _)).trans (bind_g fun y2815 => ?_)
    refine (pre1 (law17_PlaceKeeps_f14 y2719 y2720 y2721 y2722 s2802 _)).trans ?_
    refine (block_push (id := 2)).trans ?_
    refine (law17_PlaceKeeps_l14 y2719 y2720 y2721 y2722 s2802 _).trans (bind_g (either_g (fun y2825 => ?_) (fun y2826 => ?_)))
    · refine block_same.trans ?_
      refine block_normal.trans ?_
      refine (seqC_normal (st' := (S73_6 y2719 y2720 y2721 y2722 s2802))).trans ?_
      refine (law17_PlaceKeeps_r11 y2719 y2720 y2721 y2722 s2802 _).trans ?_
      kernel_rfl
    · refine block_ret.trans ?_
      refine block_ret.trans ?_
      refine seqC_ret.trans ?_
      kernel_rfl
  · refine ((exit_eq (j := 0))).trans ?_
    refine seqC_exit.trans ?_
    kernel_rfl
theorem law17_PlaceKeeps_l10 : R73 C73.r.r.r.r.r.r.r.l.r.b (S73_5 y2719 y2720 y2721 y2722) q = Option.bind (iterN (law17_PlaceKeeps_l10_p y2720 y2721 y2722) LL (0 : Int)) (either (fun y2827 : Int => q (.exit 0) (S73_11 y2719 y2720 y2721 y2722 y2827)) (fun y2828 : Unit => q .ret S73_4)) :=
  Eq.trans (by kernel_rfl) (loop_iter2 (S := fun s2802 : Int => (S73_6 y2719 y2720 y2721 y2722 s2802)) (Y1 := fun y2827 : Int => ((.exit 0), (S73_11 y2719 y2720 y2721 y2722 y2827))) (Y2 := fun y2828 : Unit => (.ret, S73_4)) (fun s q => law17_PlaceKeeps_l10_b y2719 y2720 y2721 y2722 s q) (fun z => rfl) (fun z => rfl) LL (0 : Int))
theorem law17_PlaceKeeps_f1000019 : P73 1 C73.r.r.r.r.r.r.r.r.l (S73_1 y2719 y2720 y2721) k = k ⟨[(1, rF 0), (3, rb y2719), (4, rO tsI4 y2721.1 4), (96, rb (decide ((y2721.1.length : Int) > 4)))], [(tsGraph.leaves y2720)], [], 135⟩ := by kernel_rfl
theorem law17_PlaceKeeps_fzx5 : P73 1 C73.r.r.r.r.r.r.r.r.l.r.t (S73_1 y2719 y2720 y2721) k = k ⟨[(2, rb y2719)], [[]], [], 135⟩ := by kernel_rfl
abbrev S73_12 : St := ⟨[(3, rb y2719), (4, rO tsI4 y2721.1 4), (11, rF 1), (12, ri 0)], [[], [dl tsI4 y2720.1, dl tsNode y2720.2.1, .ow (.one (.int .i64)) [] (.h 1 2)]], [], 135⟩
theorem law17_PlaceKeeps_f23 : P73 3 C73.r.r.r.r.r.r.r.r.r (S73_1 y2719 y2720 y2721) k = k (S73_12 y2719 y2720 y2721) := by kernel_rfl
abbrev S73_13 : St := ⟨[(3, rb y2719), (4, rO tsI4 y2721.1 4), (11, rF 1), (12, ri 0), (13, ri 0)], [[], [dl tsI4 y2720.1, dl tsNode y2720.2.1, .ow (.one (.int .i64)) [] (.h 1 2)]], [], 135⟩
theorem law17_PlaceKeeps_f24 : P73 1 C73.r.r.r.r.r.r.r.r.r.r.r.r.l (S73_12 y2719 y2720 y2721) k = k (S73_13 y2719 y2720 y2721) := by kernel_rfl
abbrev S73_14 : St := ⟨[(3, rb y2719), (4, rO tsI4 y2721.1 4), (11, rF 1), (12, ri s2841.1), (13, ri s2841.2.1)], [[], [dl tsI4 y2720.1, dl tsNode y2720.2.1, .ow (.one (.int .i64)) s2841.2.2 (.h 1 2)]], [], 135⟩
theorem law17_PlaceKeeps_fzx6 : P73 1 C73.r.r.r.r.r.r.r.r.r.r.r.r.l.r.b.b.l (S73_14 y2719 y2720 y2721 s2841) k = k ⟨[(3, rb y2719), (4, rO tsI4 y2721.1 4), (11, rF 1), (12, ri s2841.1), (13, ri s2841.2.1), (103, rb (decide (s2841.2.1 < (y2721.1.length : Int))))], [[], [dl tsI4 y2720.1, dl tsNode y2720.2.1, .ow (.one (.int .i64)) s2841.2.2 (.h 1 2)]], [], 135⟩ := by kernel_rfl
def law17_PlaceKeeps_r26_p : Option Unit := (bif (decide (s2841.2.2.length + ([s2841.2.1] : List Int).length ≤ maxL)) then (some ()) else none)
abbrev S73_15 : St := ⟨[(3, rb y2719), (4, rO tsI4 y2721.1 4), (11, rF 1), (12, ri s2841.1), (13, ri s2841.2.1)], [[], [dl tsI4 y2720.1, dl tsNode y2720.2.1, .ow (.one (.int .i64)) (s2841.2.2 ++ [s2841.2.1]) (.h 1 2)]], [], 135⟩
theorem law17_PlaceKeeps_r26 : P73 1 C73.r.r.r.r.r.r.r.r.r.r.r.r.l.r.b.b.r.l.b (S73_14 y2719 y2720 y2721 s2841) k = Option.bind (law17_PlaceKeeps_r26_p s2841) (fun y2844 : Unit => k (S73_15 y2719 y2720 y2721 s2841)) := .trans (by kernel_rfl) (bif_b some_b none_b)
def law17_PlaceKeeps_r27_p : Option Int := (bif (decide ((0 : Int) ≤ s2841.2.1)) then (bif (decide (s2841.2.1 < (y2721.1.length : Int))) then (some (IntKind.wrap .i64 (s2841.1 + (ref02_Size ((gt y2721.1 s2841.2.1 dI4).1, (gt y2721.1 s2841.2.1 dI4).2.1, (gt y2721.1 s2841.2.1 dI4).2.2.1))))) else none) else none)
abbrev S73_16 : St := ⟨[(3, rb y2719), (4, rO tsI4 y2721.1 4), (11, rF 1), (12, ri y2845), (13, ri s2841.2.1)], [[], [dl tsI4 y2720.1, dl tsNode y2720.2.1, .ow (.one (.int .i64)) (s2841.2.2 ++ [s2841.2.1]) (.h 1 2)]], [], 135⟩
theorem law17_PlaceKeeps_r27 : R73 C73.r.r.r.r.r.r.r.r.r.r.r.r.l.r.b.b.r.l.b.r (S73_15 y2719 y2720 y2721 s2841) q = Option.bind (law17_PlaceKeeps_r27_p y2721 s2841) (fun y2845 : Int => q .normal (S73_16 y2719 y2720 y2721 s2841 y2845)) := .trans (by kernel_rfl) (bif_b (bif_b some_b none_b) none_b)
theorem law17_PlaceKeeps_r25 : R73 C73.r.r.r.r.r.r.r.r.r.r.r.r.l.r.b.b.r.r (S73_16 y2719 y2720 y2721 s2841 y2845) q = q .normal ⟨[(3, rb y2719), (4, rO tsI4 y2721.1 4), (11, rF 1), (12, ri y2845), (13, ri (IntKind.wrap .i64 (s2841.2.1 + 1)))], [[], [dl tsI4 y2720.1, dl tsNode y2720.2.1, .ow (.one (.int .i64)) (s2841.2.2 ++ [s2841.2.1]) (.h 1 2)]], [], 135⟩ := by kernel_rfl
def law17_PlaceKeeps_l24_p : Option ((Int × Int × (List Int)) ⊕ (Int × Int × (List Int))) := (bif (decide (s2841.2.1 < (y2721.1.length : Int))) then (Option.bind (law17_PlaceKeeps_r26_p s2841) (fun y2844 : Unit => (Option.bind (law17_PlaceKeeps_r27_p y2721 s2841) (fun y2845 : Int => (some (Sum.inl (y2845, (IntKind.wrap .i64 (s2841.2.1 + 1)), (s2841.2.2 ++ [s2841.2.1])))))))) else (some (Sum.inr s2841)))
abbrev S73_17 : St := ⟨[(3, rb y2719), (4, rO tsI4 y2721.1 4), (11, rF 1), (12, ri y2846.1), (13, ri y2846.2.1)], [[], [dl tsI4 y2720.1, dl tsNode y2720.2.1, .ow (.one (.int .i64)) y2846.2.2 (.h 1 2)]], [], 135⟩
theorem law17_PlaceKeeps_l24_b : R73 C73.r.r.r.r.r.r.r.r.r.r.r.r.l.r.b.b (S73_14 y2719 y2720 y2721 s2841) (loopKont 2 q) = Option.bind (law17_PlaceKeeps_l24_p y2721 s2841) (either (fun y : (Int × Int × (List Int)) => q .normal ⟨[(3, rb y2719), (4, rO tsI4 y2721.1 4), (11, rF 1), (12, ri y.1), (13, ri y.2.1)], [[], [dl tsI4 y2720.1, dl tsNode y2720.2.1, .ow (.one (.int .i64)) y.2.2 (.h 1 2)]], [], 135⟩) (fun y2846 : (Int × Int × (List Int)) => q (.exit 4) (S73_17 y2719 y2720 y2721 y2846))) := by
  refine .trans ?_ (bif_b (bind_b fun y2844 => (bind_b fun y2845 => e2_0)) e2_1)
  refine .trans seq_push ?_
  refine (pre1 (law17_PlaceKeeps_fzx6 y2719 y2720 y2721 s2841 _)).trans ?_
  refine (cond_e (b := (decide (s2841.2.1 < (y2721.1.length : Int)))) (st' := (S73_14 y2719 y2720 y2721 s2841)) ).trans (bif_g ?_ ?_)
  · refine (skip_eq).trans ?_
    refine (seqC_normal (st' := (S73_14 y2719 y2720 y2721 s2841))).trans ?_
    refine .trans seq_push ?_
    refine (block_push (id := 5)).trans ?_
    refine (pre1 (law17_PlaceKeeps_r26 y2719 y2720 y2721 s2841 _)).trans (bind_g fun y2844 => ?_)
    refine (law17_PlaceKeeps_r27 y2719 y2720 y2721 s2841 _).trans (bind_g fun y2845 => ?_)
    refine block_normal.trans ?_
    refine (seqC_normal (st' := (S73_16 y2719 y2720 y2721 s2841 y2845))).trans ?_
    refine (law17_PlaceKeeps_r25 y2719 y2720 y2721 s2841 y2845 _).trans ?_
    kernel_rfl
  · refine ((exit_eq (j := 4))).trans ?_
    refine seqC_exit.trans ?_
    kernel_rfl
theorem law17_PlaceKeeps_l24 : R73 C73.r.r.r.r.r.r.r.r.r.r.r.r.l.r.b (S73_13 y2719 y2720 y2721) q = Option.bind (iterN (law17_PlaceKeeps_l24_p y2721) LL ((0 : Int), (0 : Int), [])) (fun y2846 : (Int × Int × (List Int)) => q (.exit 4) (S73_17 y2719 y2720 y2721 y2846)) :=
  Eq.trans (by kernel_rfl) (loop_iter1 (S := fun s2841 : (Int × Int × (List Int)) => (S73_14 y2719 y2720 y2721 s2841)) (Y1 := fun y2846 : (Int × Int × (List Int)) => ((.exit 4), (S73_17 y2719 y2720 y2721 y2846))) (fun s q => law17_PlaceKeeps_l24_b y2719 y2720 y2721 s q) (fun z => rfl) LL ((0 : Int), (0 : Int), []))
abbrev S73_18 : St := ⟨[(3, rb y2719), (11, rF 1), (12, ri y2846.1)], [[], [dl tsI4 y2720.1, dl tsNode y2720.2.1, .ow (.one (.int .i64)) y2846.2.2 (.h 1 2)]], [], 135⟩
theorem law17_PlaceKeeps_r28 : P73 1 C73.r.r.r.r.r.r.r.r.r.r.r.r.r (S73_18 y2719 y2720 y2846) k = Option.bind (place_Total (y2720.1, y2720.2.1, y2846.2.2)) fun y2847 : (Int × Int) => k ⟨[(3, rb y2719), (12, ri y2846.1), (14, ri y2847.1), (15, ri y2847.2)], [[], []], [], 135⟩ := by kernel_rfl
def law17_PlaceKeeps_r29_q (K : Bool → β) : β := (bif y2719 then (bif (y2847.2 == 0) then (K (y2847.1 == y2846.1)) else (K false)) else (K false))
def law17_PlaceKeeps_r29_p : Bool := law17_PlaceKeeps_r29_q y2719 y2846 y2847 (fun y => y)
theorem law17_PlaceKeeps_r29_n (K : Bool → β) : law17_PlaceKeeps_r29_q y2719 y2846 y2847 K = K (law17_PlaceKeeps_r29_p y2719 y2846 y2847) := (bif_k K (bif_k K rfl rfl) rfl)
theorem law17_PlaceKeeps_r29 : P73 1 C73.r.r.r.r.r.r.r.r.r.r.r.r.r.r ⟨[(3, rb y2719), (12, ri y2846.1), (14, ri y2847.1), (15, ri y2847.2)], [[], []], [], 135⟩ k = k ⟨[(2, rb (law17_PlaceKeeps_r29_p y2719 y2846 y2847))], [[], []], [], 135⟩ := Eq.trans (by kernel_rfl) (law17_PlaceKeeps_r29_n y2719 y2846 y2847 (fun y2848 : Bool => k ⟨[(2, rb y2848)], [[], []], [], 135⟩))
/-- quilt/quiltlaw17.PlaceKeeps -/
def law17_PlaceKeeps : Option Bool := (Option.bind law17_shown (fun y2719 : Bool => (Option.bind (law17_less g_) (fun y2720 : Graph => (Option.bind (ref03_Values y2720) (fun y2721 : ((List I4) × Int) => (bif (y2721.2 != 0) then (some y2719) else (Option.bind (place_Places y2720) (fun y2722 : ((List Int) × Int) => (bif (law17_PlaceKeeps_r7_p y2721 y2722) then (some false) else (Option.bind (iterN (law17_PlaceKeeps_l10_p y2720 y2721 y2722) LL (0 : Int)) (either (fun y2827 : Int => (bif (decide ((y2721.1.length : Int) > 4)) then (some y2719) else (Option.bind (iterN (law17_PlaceKeeps_l24_p y2721) LL ((0 : Int), (0 : Int), [])) (fun y2846 : (Int × Int × (List Int)) => (Option.bind (place_Total (y2720.1, y2720.2.1, y2846.2.2)) (fun y2847 : (Int × Int) => (some (law17_PlaceKeeps_r29_p y2719 y2846 y2847)))))))) (fun y2828 : Unit => (some false))))))))))))))
theorem law17_PlaceKeeps_is : stepS E cp67 ce3 6 [rA tsGraph g_] = Option.bind (law17_PlaceKeeps g_) (fun y : Bool => some (rb y : R)) := by
  refine .trans ?_ (bind_b fun y2719 => (bind_b fun y2720 => (bind_b fun y2721 => (bif_b some_b (bind_b fun y2722 => (bif_b some_b (bind_b (either_b (fun y2827 => (bif_b some_b (bind_b fun y2846 => (bind_b fun y2847 => some_b)))) (fun y2828 => some_b)))))))))
  refine (stepG_is (nt := 135) (regs := [(0, rA tsGraph g_)])).trans ?_
  refine (pre2 (law17_PlaceKeeps_r1 g_ _)).trans (bind_g fun y2719 => ?_)
  refine (pre1 (law17_PlaceKeeps_r2 g_ y2719 _)).trans (bind_g fun y2720 => ?_)
  refine (pre1 (law17_PlaceKeeps_r3 y2719 y2720 _)).trans (bind_g fun y2721 => ?_)
  refine .trans seq_push ?_
  refine (pre1 (law17_PlaceKeeps_f1000005 y2719 y2720 y2721 _)).trans ?_
  refine (cond_e (b := (y2721.2 != 0)) (st' := (S73_1 y2719 y2720 y2721)) ).trans (bif_g ?_ ?_)
  · refine (pre1 (law17_PlaceKeeps_fz y2719 y2720 y2721 _)).trans ?_
    refine (ret_eq).trans ?_
    refine seqC_ret.trans ?_
    kernel_rfl
  · refine (skip_eq).trans ?_
    refine (seqC_normal (st' := (S73_1 y2719 y2720 y2721))).trans ?_
    refine (pre1 (law17_PlaceKeeps_r6 y2719 y2720 y2721 _)).trans (bind_g fun y2722 => ?_)
    refine .trans seq_push ?_
    refine (pre1 (law17_PlaceKeeps_r7 y2719 y2720 y2721 y2722 _)).trans ?_
    refine (cond_e (b := (law17_PlaceKeeps_r7_p y2721 y2722)) (st' := (S73_3 y2719 y2720 y2721 y2722)) ).trans (bif_g ?_ ?_)
    · refine (pre1 (law17_PlaceKeeps_fzx1 y2719 y2720 y2721 y2722 _)).trans ?_
      refine (ret_eq).trans ?_
      refine seqC_ret.trans ?_
      kernel_rfl
    · refine (skip_eq).trans ?_
      refine (seqC_normal (st' := (S73_3 y2719 y2720 y2721 y2722))).trans ?_
      refine .trans seq_push ?_
      refine (pre1 (law17_PlaceKeeps_f10 y2719 y2720 y2721 y2722 _)).trans ?_
      refine (block_push (id := 0)).trans ?_
      refine (law17_PlaceKeeps_l10 y2719 y2720 y2721 y2722 _).trans (bind_g (either_g (fun y2827 => ?_) (fun y2828 => ?_)))
      · refine block_same.trans ?_
        refine (seqC_normal (st' := (S73_1 y2719 y2720 y2721))).trans ?_
        refine .trans seq_push ?_
        refine (pre1 (law17_PlaceKeeps_f1000019 y2719 y2720 y2721 _)).trans ?_
        refine (cond_e (b := (decide ((y2721.1.length : Int) > 4))) (st' := (S73_1 y2719 y2720 y2721)) ).trans (bif_g ?_ ?_)
        · refine (pre1 (law17_PlaceKeeps_fzx5 y2719 y2720 y2721 _)).trans ?_
          refine (ret_eq).trans ?_
          refine seqC_ret.trans ?_
          kernel_rfl
        · refine (skip_eq).trans ?_
          refine (seqC_normal (st' := (S73_1 y2719 y2720 y2721))).trans ?_
          refine (pre3 (law17_PlaceKeeps_f23 y2719 y2720 y2721 _)).trans ?_
          refine .trans seq_push ?_
          refine (pre1 (law17_PlaceKeeps_f24 y2719 y2720 y2721 _)).trans ?_
          refine (block_push (id := 4)).trans ?_
          refine (law17_PlaceKeeps_l24 y2719 y2720 y2721 _).trans (bind_g fun y2846 => ?_)
          refine block_same.trans ?_
          refine (seqC_normal (st' := (S73_18 y2719 y2720 y2846))).trans ?_
          refine (pre1 (law17_PlaceKeeps_r28 y2719 y2720 y2846 _)).trans (bind_g fun y2847 => ?_)
          refine (pre1 (law17_PlaceKeeps_r29 y2719 y2846 y2847 _)).trans ?_
          refine (ret_eq).trans ?_
          kernel_rfl
      · refine block_ret.trans ?_
        refine seqC_ret.trans ?_
        kernel_rfl
noncomputable def cp71 : CallP := withC cp67 6 [(.agg tsGraph)] (.one pB) (fun y : Bool => y) (fun x => law17_PlaceKeeps x.1)
theorem cp71_ok : PureOK E cp71 := conS eok cp67_ok ce3_ok fun x => Eq.mp (by kernel_rfl) (law17_PlaceKeeps_is x.1)
theorem law17_PlaceKeeps_walk (ht : law17_PlaceKeeps g_ = some true) (w : World) (vs : List Value) (hrd : ∀ γ : Gh, Free γ → rdRs w γ [argR true tsGraph g_] vs) : Calls E.P 6 vs.toArray w fun e w' => e = .returned (.bool true) ∧ Below w.heap.size w w' :=
  walk_true (E := E) (stepS_ok eok cp67_ok ce3_ok) (show stepS E cp67 ce3 6 [rA tsGraph g_] = some (.one (.g .bool true)) from by rw [law17_PlaceKeeps_is, ht]; rfl) w fun γ hγ => Eq.mp (by kernel_rfl) (hrd γ hγ)
end
end Go.V.P
