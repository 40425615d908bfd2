/- What functions compute. -/
import Derived.Test.YtlmhfffnobgipaaPl4
namespace Go.V.P
open Go.RowKit Go.V Go.Proofs
set_option linter.unusedVariables false
set_option maxRecDepth 100000
section
variable {α : Type} (g_ : Graph) (s1916 : ((List Int) × Int)) (s2096 : (Int × Int)) (s2113 : (Int × Int)) (y2117 : Int) (y2118 : (Int × Int)) (y2119 : (Int × Int)) (s2130 : (Int × Int)) (y2132 : Int) (y2133 : (Int × Int)) (y2135 : ((List Int) × Int)) (k : St → Option α) (q : Kont α)
noncomputable abbrev C61 := codeOf E.P 24
noncomputable abbrev P61 := @preK α E 24 cp58 ce3
noncomputable abbrev R61 := @runCode α E 24 cp58 ce3
noncomputable abbrev Q61 := @seqC α E 24 cp58 ce3
abbrev S61_0 : St := ⟨[(1, rC tsGraph g_), (3, .one (.ow (.one (.int .i64)) [] (.v 3)))], [], [], 73⟩
theorem ref03_Last_f2 : P61 2 C61 ⟨[(0, rA tsGraph g_)], [], [], 73⟩ k = k (S61_0 g_) := by kernel_rfl
abbrev S61_1 : St := ⟨[(1, rC tsGraph g_), (3, .one (.ow (.one (.int .i64)) [] (.v 3))), (4, ri 0)], [], [], 73⟩
theorem ref03_Last_f3 : P61 1 C61.r.r.l (S61_0 g_) k = k (S61_1 g_) := by kernel_rfl
abbrev S61_2 : St := ⟨[(1, rC tsGraph g_), (3, .one (.ow (.one (.int .i64)) s1916.1 (.v 3))), (4, ri s1916.2)], [], [], 73⟩
theorem ref03_Last_fz : P61 1 C61.r.r.l.r.b.b.l (S61_2 g_ s1916) k = k ⟨[(1, rC tsGraph g_), (3, .one (.ow (.one (.int .i64)) s1916.1 (.v 3))), (4, ri s1916.2), (18, rb (decide (s1916.2 < (IntKind.wrap .i64 ((g_.1.length : Int) + (g_.2.1.length : Int))))))], [], [], 73⟩ := by kernel_rfl
abbrev S61_3 : St := ⟨[(1, rC tsGraph g_), (3, .one (.ow (.one (.int .i64)) s1916.1 (.v 3))), (4, ri s1916.2), (5, ri (-1 : Int))], [], [], 73⟩
theorem ref03_Last_f6 : P61 1 C61.r.r.l.r.b.b.r.l.b (S61_2 g_ s1916) k = k (S61_3 g_ s1916) := by kernel_rfl
abbrev S61_4 : St := ⟨[(1, rC tsGraph g_), (3, .one (.ow (.one (.int .i64)) s1916.1 (.v 3))), (4, ri s1916.2), (5, ri (-1 : Int)), (6, ri 0)], [], [], 73⟩
theorem ref03_Last_f7 : P61 1 C61.r.r.l.r.b.b.r.l.b.r.l (S61_3 g_ s1916) k = k (S61_4 g_ s1916) := by kernel_rfl
abbrev S61_5 : St := ⟨[(1, rC tsGraph g_), (3, .one (.ow (.one (.int .i64)) s1916.1 (.v 3))), (4, ri s1916.2), (5, ri s2096.1), (6, ri s2096.2)], [], [], 73⟩
theorem ref03_Last_fzx1 : P61 1 C61.r.r.l.r.b.b.r.l.b.r.l.r.b.b.l (S61_5 g_ s1916 s2096) k = k ⟨[(1, rC tsGraph g_), (3, .one (.ow (.one (.int .i64)) s1916.1 (.v 3))), (4, ri s1916.2), (5, ri s2096.1), (6, ri s2096.2), (25, rb (decide (s2096.2 < (g_.2.1.length : Int))))], [], [], 73⟩ := by kernel_rfl
abbrev S61_6 : St := ⟨[(1, rC tsGraph g_), (3, .one (.ow (.one (.int .i64)) s1916.1 (.v 3))), (4, ri s1916.2), (5, ri s2096.1), (6, ri s2096.2), (7, ri 0)], [], [], 73⟩
theorem ref03_Last_f10 : P61 1 C61.r.r.l.r.b.b.r.l.b.r.l.r.b.b.r.l.b (S61_5 g_ s1916 s2096) k = k (S61_6 g_ s1916 s2096) := by kernel_rfl
def ref03_Last_r10_p : Option Unit := (bif (decide ((0 : Int) ≤ s2096.2)) then (bif (decide (s2096.2 < (g_.2.1.length : Int))) then (some ()) else none) else none)
abbrev S61_7 : St := ⟨[(1, rC tsGraph g_), (3, .one (.ow (.one (.int .i64)) s1916.1 (.v 3))), (4, ri s1916.2), (5, ri s2113.1), (6, ri s2096.2), (7, ri s2113.2)], [], [], 73⟩
theorem ref03_Last_r10 : P61 1 C61.r.r.l.r.b.b.r.l.b.r.l.r.b.b.r.l.b.r.b.b.l (S61_7 g_ s1916 s2096 s2113) k = Option.bind (ref03_Last_r10_p g_ s2096) (fun y2115 : Unit => k ⟨[(1, rC tsGraph g_), (3, .one (.ow (.one (.int .i64)) s1916.1 (.v 3))), (4, ri s1916.2), (5, ri s2113.1), (6, ri s2096.2), (7, ri s2113.2), (36, rb (decide (s2113.2 < (((gt g_.2.1 s2096.2 dNode).2.1).length : Int))))], [], [], 73⟩) := .trans (by kernel_rfl) (bif_b (bif_b some_b none_b) none_b)
def ref03_Last_r12_p : Option Unit := (bif (decide ((0 : Int) ≤ s2096.2)) then (bif (decide (s2096.2 < (g_.2.1.length : Int))) then (bif (decide ((0 : Int) ≤ s2113.2)) then (bif (decide (s2113.2 < (((gt g_.2.1 s2096.2 dNode).2.1).length : Int))) then (some ()) else none) else none) else none) else none)
theorem ref03_Last_r12 : P61 1 C61.r.r.l.r.b.b.r.l.b.r.l.r.b.b.r.l.b.r.b.b.r.l.b (S61_7 g_ s1916 s2096 s2113) k = Option.bind (ref03_Last_r12_p g_ s2096 s2113) (fun y2116 : Unit => k ⟨[(1, rC tsGraph g_), (3, .one (.ow (.one (.int .i64)) s1916.1 (.v 3))), (4, ri s1916.2), (5, ri s2113.1), (6, ri s2096.2), (7, ri s2113.2), (49, rb ((gt ((gt g_.2.1 s2096.2 dNode).2.1) s2113.2 (0 : Int)) == s1916.2))], [], [], 73⟩) := .trans (by kernel_rfl) (bif_b (bif_b (bif_b (bif_b some_b none_b) none_b) none_b) none_b)
abbrev S61_8 : St := ⟨[(1, rC tsGraph g_), (3, .one (.ow (.one (.int .i64)) s1916.1 (.v 3))), (4, ri s1916.2), (5, ri s2096.2), (6, ri s2096.2), (7, ri s2113.2)], [], [], 73⟩
theorem ref03_Last_r13 : R61 C61.r.r.l.r.b.b.r.l.b.r.l.r.b.b.r.l.b.r.b.b.r.l.b.r.t (S61_7 g_ s1916 s2096 s2113) q = q .normal (S61_8 g_ s1916 s2096 s2113) := by kernel_rfl
def ref03_Last_j12_p : Option Int := (Option.bind (ref03_Last_r12_p g_ s2096 s2113) (fun y2116 : Unit => (bif ((gt ((gt g_.2.1 s2096.2 dNode).2.1) s2113.2 (0 : Int)) == s1916.2) then (some s2096.2) else (some s2113.1))))
abbrev S61_9 : St := ⟨[(1, rC tsGraph g_), (3, .one (.ow (.one (.int .i64)) s1916.1 (.v 3))), (4, ri s1916.2), (5, ri y2117), (6, ri s2096.2), (7, ri s2113.2)], [], [], 73⟩
theorem ref03_Last_j12 : R61 C61.r.r.l.r.b.b.r.l.b.r.l.r.b.b.r.l.b.r.b.b.r.l (S61_7 g_ s1916 s2096 s2113) (Q61 C61.r.r.l.r.b.b.r.l.b.r.l.r.b.b.r.l.b.r.b.b.r.r q) = Option.bind (ref03_Last_j12_p g_ s1916 s2096 s2113) (fun y2117 : Int => R61 C61.r.r.l.r.b.b.r.l.b.r.l.r.b.b.r.l.b.r.b.b.r.r (S61_9 g_ s1916 s2096 s2113 y2117) q) := by
  refine .trans ?_ (bind_b fun y2116 => (bif_b some_b some_b))
  refine (block_push (id := 5)).trans ?_
  refine (pre1 (ref03_Last_r12 g_ s1916 s2096 s2113 _)).trans (bind_g fun y2116 => ?_)
  refine (cond_e (b := ((gt ((gt g_.2.1 s2096.2 dNode).2.1) s2113.2 (0 : Int)) == s1916.2)) (st' := (S61_7 g_ s1916 s2096 s2113)) ).trans (bif_g ?_ ?_)
  · refine (ref03_Last_r13 g_ s1916 s2096 s2113 _).trans ?_
    refine block_normal.trans ?_
    refine (seqC_normal (st' := (S61_8 g_ s1916 s2096 s2113))).trans ?_
    kernel_rfl
  · refine (skip_eq).trans ?_
    refine block_normal.trans ?_
    refine (seqC_normal (st' := (S61_7 g_ s1916 s2096 s2113))).trans ?_
    kernel_rfl
theorem ref03_Last_r11 : R61 C61.r.r.l.r.b.b.r.l.b.r.l.r.b.b.r.l.b.r.b.b.r.r (S61_9 g_ s1916 s2096 s2113 y2117) q = q .normal ⟨[(1, rC tsGraph g_), (3, .one (.ow (.one (.int .i64)) s1916.1 (.v 3))), (4, ri s1916.2), (5, ri y2117), (6, ri s2096.2), (7, ri (IntKind.wrap .i64 (s2113.2 + 1)))], [], [], 73⟩ := by kernel_rfl
def ref03_Last_l10_p : Option ((Int × Int) ⊕ (Int × Int)) := (Option.bind (ref03_Last_r10_p g_ s2096) (fun y2115 : Unit => (bif (decide (s2113.2 < (((gt g_.2.1 s2096.2 dNode).2.1).length : Int))) then (Option.bind (ref03_Last_j12_p g_ s1916 s2096 s2113) (fun y2117 : Int => (some (Sum.inl (y2117, (IntKind.wrap .i64 (s2113.2 + 1))))))) else (some (Sum.inr s2113)))))
abbrev S61_10 : St := ⟨[(1, rC tsGraph g_), (3, .one (.ow (.one (.int .i64)) s1916.1 (.v 3))), (4, ri s1916.2), (5, ri y2118.1), (6, ri s2096.2), (7, ri y2118.2)], [], [], 73⟩
theorem ref03_Last_l10_b : R61 C61.r.r.l.r.b.b.r.l.b.r.l.r.b.b.r.l.b.r.b.b (S61_7 g_ s1916 s2096 s2113) (loopKont 0 q) = Option.bind (ref03_Last_l10_p g_ s1916 s2096 s2113) (either (fun y : (Int × Int) => q .normal ⟨[(1, rC tsGraph g_), (3, .one (.ow (.one (.int .i64)) s1916.1 (.v 3))), (4, ri s1916.2), (5, ri y.1), (6, ri s2096.2), (7, ri y.2)], [], [], 73⟩) (fun y2118 : (Int × Int) => q (.exit 4) (S61_10 g_ s1916 s2096 y2118))) := by
  refine .trans ?_ (bind_b fun y2115 => (bif_b (bind_b fun y2117 => e2_0) e2_1))
  refine .trans seq_push ?_
  refine (pre1 (ref03_Last_r10 g_ s1916 s2096 s2113 _)).trans (bind_g fun y2115 => ?_)
  refine (cond_e (b := (decide (s2113.2 < (((gt g_.2.1 s2096.2 dNode).2.1).length : Int)))) (st' := (S61_7 g_ s1916 s2096 s2113)) ).trans (bif_g ?_ ?_)
  · refine (skip_eq).trans ?_
    refine (seqC_normal (st' := (S61_7 g_ s1916 s2096 s2113))).trans ?_
    refine .trans seq_push ?_
    refine (ref03_Last_j12 g_ s1916 s2096 s2113 _).trans (bind_g fun y2117 => ?_)
    refine (ref03_Last_r11 g_ s1916 s2096 s2113 y2117 _).trans ?_
    kernel_rfl
  · refine ((exit_eq (j := 4))).trans ?_
    refine seqC_exit.trans ?_
    kernel_rfl
theorem ref03_Last_l10 : R61 C61.r.r.l.r.b.b.r.l.b.r.l.r.b.b.r.l.b.r.b (S61_6 g_ s1916 s2096) q = Option.bind (iterN (ref03_Last_l10_p g_ s1916 s2096) LL (s2096.1, (0 : Int))) (fun y2118 : (Int × Int) => q (.exit 4) (S61_10 g_ s1916 s2096 y2118)) :=
  Eq.trans (by kernel_rfl) (loop_iter1 (S := fun s2113 : (Int × Int) => (S61_7 g_ s1916 s2096 s2113)) (Y1 := fun y2118 : (Int × Int) => ((.exit 4), (S61_10 g_ s1916 s2096 y2118))) (fun s q => ref03_Last_l10_b g_ s1916 s2096 s q) (fun z => rfl) LL (s2096.1, (0 : Int)))
abbrev S61_11 : St := ⟨[(1, rC tsGraph g_), (3, .one (.ow (.one (.int .i64)) s1916.1 (.v 3))), (4, ri s1916.2), (5, ri y2118.1), (6, ri s2096.2)], [], [], 73⟩
theorem ref03_Last_r8 : R61 C61.r.r.l.r.b.b.r.l.b.r.l.r.b.b.r.r (S61_11 g_ s1916 s2096 y2118) q = q .normal ⟨[(1, rC tsGraph g_), (3, .one (.ow (.one (.int .i64)) s1916.1 (.v 3))), (4, ri s1916.2), (5, ri y2118.1), (6, ri (IntKind.wrap .i64 (s2096.2 + 1)))], [], [], 73⟩ := by kernel_rfl
def ref03_Last_l7_p : Option ((Int × Int) ⊕ (Int × Int)) := (bif (decide (s2096.2 < (g_.2.1.length : Int))) then (Option.bind (iterN (ref03_Last_l10_p g_ s1916 s2096) LL (s2096.1, (0 : Int))) (fun y2118 : (Int × Int) => (some (Sum.inl (y2118.1, (IntKind.wrap .i64 (s2096.2 + 1))))))) else (some (Sum.inr s2096)))
abbrev S61_12 : St := ⟨[(1, rC tsGraph g_), (3, .one (.ow (.one (.int .i64)) s1916.1 (.v 3))), (4, ri s1916.2), (5, ri y2119.1), (6, ri y2119.2)], [], [], 73⟩
theorem ref03_Last_l7_b : R61 C61.r.r.l.r.b.b.r.l.b.r.l.r.b.b (S61_5 g_ s1916 s2096) (loopKont 0 q) = Option.bind (ref03_Last_l7_p g_ s1916 s2096) (either (fun y : (Int × Int) => q .normal ⟨[(1, rC tsGraph g_), (3, .one (.ow (.one (.int .i64)) s1916.1 (.v 3))), (4, ri s1916.2), (5, ri y.1), (6, ri y.2)], [], [], 73⟩) (fun y2119 : (Int × Int) => q (.exit 2) (S61_12 g_ s1916 y2119))) := by
  refine .trans ?_ (bif_b (bind_b fun y2118 => e2_0) e2_1)
  refine .trans seq_push ?_
  refine (pre1 (ref03_Last_fzx1 g_ s1916 s2096 _)).trans ?_
  refine (cond_e (b := (decide (s2096.2 < (g_.2.1.length : Int)))) (st' := (S61_5 g_ s1916 s2096)) ).trans (bif_g ?_ ?_)
  · refine (skip_eq).trans ?_
    refine (seqC_normal (st' := (S61_5 g_ s1916 s2096))).trans ?_
    refine .trans seq_push ?_
    refine (block_push (id := 3)).trans ?_
    refine (pre1 (ref03_Last_f10 g_ s1916 s2096 _)).trans ?_
    refine (block_push (id := 4)).trans ?_
    refine (ref03_Last_l10 g_ s1916 s2096 _).trans (bind_g fun y2118 => ?_)
    refine block_same.trans ?_
    refine block_normal.trans ?_
    refine (seqC_normal (st' := (S61_11 g_ s1916 s2096 y2118))).trans ?_
    refine (ref03_Last_r8 g_ s1916 s2096 y2118 _).trans ?_
    kernel_rfl
  · refine ((exit_eq (j := 2))).trans ?_
    refine seqC_exit.trans ?_
    kernel_rfl
theorem ref03_Last_l7 : R61 C61.r.r.l.r.b.b.r.l.b.r.l.r.b (S61_4 g_ s1916) q = Option.bind (iterN (ref03_Last_l7_p g_ s1916) LL ((-1 : Int), (0 : Int))) (fun y2119 : (Int × Int) => q (.exit 2) (S61_12 g_ s1916 y2119)) :=
  Eq.trans (by kernel_rfl) (loop_iter1 (S := fun s2096 : (Int × Int) => (S61_5 g_ s1916 s2096)) (Y1 := fun y2119 : (Int × Int) => ((.exit 2), (S61_12 g_ s1916 y2119))) (fun s q => ref03_Last_l7_b g_ s1916 s q) (fun z => rfl) LL ((-1 : Int), (0 : Int)))
abbrev S61_13 : St := ⟨[(1, rC tsGraph g_), (3, .one (.ow (.one (.int .i64)) s1916.1 (.v 3))), (4, ri s1916.2), (5, ri y2119.1)], [], [], 73⟩
abbrev S61_14 : St := ⟨[(1, rC tsGraph g_), (3, .one (.ow (.one (.int .i64)) s1916.1 (.v 3))), (4, ri s1916.2), (5, ri y2119.1), (8, ri 0)], [], [], 73⟩
theorem ref03_Last_f15 : P61 1 C61.r.r.l.r.b.b.r.l.b.r.r.l (S61_13 g_ s1916 y2119) k = k (S61_14 g_ s1916 y2119) := by kernel_rfl
abbrev S61_15 : St := ⟨[(1, rC tsGraph g_), (3, .one (.ow (.one (.int .i64)) s1916.1 (.v 3))), (4, ri s1916.2), (5, ri s2130.1), (8, ri s2130.2)], [], [], 73⟩
theorem ref03_Last_fzx2 : P61 1 C61.r.r.l.r.b.b.r.l.b.r.r.l.r.b.b.l (S61_15 g_ s1916 s2130) k = k ⟨[(1, rC tsGraph g_), (3, .one (.ow (.one (.int .i64)) s1916.1 (.v 3))), (4, ri s1916.2), (5, ri s2130.1), (8, ri s2130.2), (55, rb (decide (s2130.2 < (g_.2.2.length : Int))))], [], [], 73⟩ := by kernel_rfl
def ref03_Last_r17_p : Option Unit := (bif (decide ((0 : Int) ≤ s2130.2)) then (bif (decide (s2130.2 < (g_.2.2.length : Int))) then (some ()) else none) else none)
theorem ref03_Last_r17 : P61 1 C61.r.r.l.r.b.b.r.l.b.r.r.l.r.b.b.r.l.b (S61_15 g_ s1916 s2130) k = Option.bind (ref03_Last_r17_p g_ s2130) (fun y2131 : Unit => k ⟨[(1, rC tsGraph g_), (3, .one (.ow (.one (.int .i64)) s1916.1 (.v 3))), (4, ri s1916.2), (5, ri s2130.1), (8, ri s2130.2), (64, rb ((gt g_.2.2 s2130.2 (0 : Int)) == s1916.2))], [], [], 73⟩) := .trans (by kernel_rfl) (bif_b (bif_b some_b none_b) none_b)
abbrev S61_16 : St := ⟨[(1, rC tsGraph g_), (3, .one (.ow (.one (.int .i64)) s1916.1 (.v 3))), (4, ri s1916.2), (5, ri (g_.2.1.length : Int)), (8, ri s2130.2)], [], [], 73⟩
theorem ref03_Last_r18 : R61 C61.r.r.l.r.b.b.r.l.b.r.r.l.r.b.b.r.l.b.r.t (S61_15 g_ s1916 s2130) q = q .normal (S61_16 g_ s1916 s2130) := by kernel_rfl
def ref03_Last_j17_p : Option Int := (Option.bind (ref03_Last_r17_p g_ s2130) (fun y2131 : Unit => (bif ((gt g_.2.2 s2130.2 (0 : Int)) == s1916.2) then (some (g_.2.1.length : Int)) else (some s2130.1))))
abbrev S61_17 : St := ⟨[(1, rC tsGraph g_), (3, .one (.ow (.one (.int .i64)) s1916.1 (.v 3))), (4, ri s1916.2), (5, ri y2132), (8, ri s2130.2)], [], [], 73⟩
theorem ref03_Last_j17 : R61 C61.r.r.l.r.b.b.r.l.b.r.r.l.r.b.b.r.l (S61_15 g_ s1916 s2130) (Q61 C61.r.r.l.r.b.b.r.l.b.r.r.l.r.b.b.r.r q) = Option.bind (ref03_Last_j17_p g_ s1916 s2130) (fun y2132 : Int => R61 C61.r.r.l.r.b.b.r.l.b.r.r.l.r.b.b.r.r (S61_17 g_ s1916 s2130 y2132) q) := by
  refine .trans ?_ (bind_b fun y2131 => (bif_b some_b some_b))
  refine (block_push (id := 7)).trans ?_
  refine (pre1 (ref03_Last_r17 g_ s1916 s2130 _)).trans (bind_g fun y2131 => ?_)
  refine (cond_e (b := ((gt g_.2.2 s2130.2 (0 : Int)) == s1916.2)) (st' := (S61_15 g_ s1916 s2130)) ).trans (bif_g ?_ ?_)
  · refine (ref03_Last_r18 g_ s1916 s2130 _).trans ?_
    refine block_normal.trans ?_
    refine (seqC_normal (st' := (S61_16 g_ s1916 s2130))).trans ?_
    kernel_rfl
  · refine (skip_eq).trans ?_
    refine block_normal.trans ?_
    refine (seqC_normal (st' := (S61_15 g_ s1916 s2130))).trans ?_
    kernel_rfl
theorem ref03_Last_r16 : R61 C61.r.r.l.r.b.b.r.l.b.r.r.l.r.b.b.r.r (S61_17 g_ s1916 s2130 y2132) q = q .normal ⟨[(1, rC tsGraph g_), (3, .one (.ow (.one (.int .i64)) s1916.1 (.v 3))), (4, ri s1916.2), (5, ri y2132), (8, ri (IntKind.wrap .i64 (s2130.2 + 1)))], [], [], 73⟩ := by kernel_rfl
def ref03_Last_l15_p : Option ((Int × Int) ⊕ (Int × Int)) := (bif (decide (s2130.2 < (g_.2.2.length : Int))) then (Option.bind (ref03_Last_j17_p g_ s1916 s2130) (fun y2132 : Int => (some (Sum.inl (y2132, (IntKind.wrap .i64 (s2130.2 + 1))))))) else (some (Sum.inr s2130)))
abbrev S61_18 : St := ⟨[(1, rC tsGraph g_), (3, .one (.ow (.one (.int .i64)) s1916.1 (.v 3))), (4, ri s1916.2), (5, ri y2133.1), (8, ri y2133.2)], [], [], 73⟩
theorem ref03_Last_l15_b : R61 C61.r.r.l.r.b.b.r.l.b.r.r.l.r.b.b (S61_15 g_ s1916 s2130) (loopKont 0 q) = Option.bind (ref03_Last_l15_p g_ s1916 s2130) (either (fun y : (Int × Int) => q .normal ⟨[(1, rC tsGraph g_), (3, .one (.ow (.one (.int .i64)) s1916.1 (.v 3))), (4, ri s1916.2), (5, ri y.1), (8, ri y.2)], [], [], 73⟩) (fun y2133 : (Int × Int) => q (.exit 6) (S61_18 g_ s1916 y2133))) := by
  refine .trans ?_ (bif_b (bind_b fun y2132 => e2_0) e2_1)
  refine .trans seq_push ?_
  refine (pre1 (ref03_Last_fzx2 g_ s1916 s2130 _)).trans ?_
  refine (cond_e (b := (decide (s2130.2 < (g_.2.2.length : Int)))) (st' := (S61_15 g_ s1916 s2130)) ).trans (bif_g ?_ ?_)
  · refine (skip_eq).trans ?_
    refine (seqC_normal (st' := (S61_15 g_ s1916 s2130))).trans ?_
    refine .trans seq_push ?_
    refine (ref03_Last_j17 g_ s1916 s2130 _).trans (bind_g fun y2132 => ?_)
    refine (ref03_Last_r16 g_ s1916 s2130 y2132 _).trans ?_
    kernel_rfl
  · refine ((exit_eq (j := 6))).trans ?_
    refine seqC_exit.trans ?_
    kernel_rfl
theorem ref03_Last_l15 : R61 C61.r.r.l.r.b.b.r.l.b.r.r.l.r.b (S61_14 g_ s1916 y2119) q = Option.bind (iterN (ref03_Last_l15_p g_ s1916) LL (y2119.1, (0 : Int))) (fun y2133 : (Int × Int) => q (.exit 6) (S61_18 g_ s1916 y2133)) :=
  Eq.trans (by kernel_rfl) (loop_iter1 (S := fun s2130 : (Int × Int) => (S61_15 g_ s1916 s2130)) (Y1 := fun y2133 : (Int × Int) => ((.exit 6), (S61_18 g_ s1916 y2133))) (fun s q => ref03_Last_l15_b g_ s1916 s q) (fun z => rfl) LL (y2119.1, (0 : Int)))
def ref03_Last_r19_p : Option Unit := (bif (decide (s1916.1.length + ([y2133.1] : List Int).length ≤ maxL)) then (some ()) else none)
abbrev S61_19 : St := ⟨[(1, rC tsGraph g_), (3, .one (.ow (.one (.int .i64)) s1916.1 (.v 3))), (4, ri s1916.2), (5, ri y2133.1)], [], [], 73⟩
abbrev S61_20 : St := ⟨[(1, rC tsGraph g_), (3, .one (.ow (.one (.int .i64)) (s1916.1 ++ [y2133.1]) (.v 3))), (4, ri s1916.2)], [], [], 73⟩
theorem ref03_Last_r19 : R61 C61.r.r.l.r.b.b.r.l.b.r.r.r (S61_19 g_ s1916 y2133) q = Option.bind (ref03_Last_r19_p s1916 y2133) (fun y2134 : Unit => q .normal (S61_20 g_ s1916 y2133)) := .trans (by kernel_rfl) (bif_b some_b none_b)
theorem ref03_Last_r4 : R61 C61.r.r.l.r.b.b.r.r (S61_20 g_ s1916 y2133) q = q .normal ⟨[(1, rC tsGraph g_), (3, .one (.ow (.one (.int .i64)) (s1916.1 ++ [y2133.1]) (.v 3))), (4, ri (IntKind.wrap .i64 (s1916.2 + 1)))], [], [], 73⟩ := by kernel_rfl
def ref03_Last_l3_p : Option (((List Int) × Int) ⊕ ((List Int) × Int)) := (bif (decide (s1916.2 < (IntKind.wrap .i64 ((g_.1.length : Int) + (g_.2.1.length : Int))))) then (Option.bind (iterN (ref03_Last_l7_p g_ s1916) LL ((-1 : Int), (0 : Int))) (fun y2119 : (Int × Int) => (Option.bind (iterN (ref03_Last_l15_p g_ s1916) LL (y2119.1, (0 : Int))) (fun y2133 : (Int × Int) => (Option.bind (ref03_Last_r19_p s1916 y2133) (fun y2134 : Unit => (some (Sum.inl ((s1916.1 ++ [y2133.1]), (IntKind.wrap .i64 (s1916.2 + 1))))))))))) else (some (Sum.inr s1916)))
abbrev S61_21 : St := ⟨[(1, rC tsGraph g_), (3, .one (.ow (.one (.int .i64)) y2135.1 (.v 3))), (4, ri y2135.2)], [], [], 73⟩
theorem ref03_Last_l3_b : R61 C61.r.r.l.r.b.b (S61_2 g_ s1916) (loopKont 0 q) = Option.bind (ref03_Last_l3_p g_ s1916) (either (fun y : ((List Int) × Int) => q .normal ⟨[(1, rC tsGraph g_), (3, .one (.ow (.one (.int .i64)) y.1 (.v 3))), (4, ri y.2)], [], [], 73⟩) (fun y2135 : ((List Int) × Int) => q (.exit 0) (S61_21 g_ y2135))) := by
  refine .trans ?_ (bif_b (bind_b fun y2119 => (bind_b fun y2133 => (bind_b fun y2134 => e2_0))) e2_1)
  refine .trans seq_push ?_
  refine (pre1 (ref03_Last_fz g_ s1916 _)).trans ?_
  refine (cond_e (b := (decide (s1916.2 < (IntKind.wrap .i64 ((g_.1.length : Int) + (g_.2.1.length : Int)))))) (st' := (S61_2 g_ s1916)) ).trans (bif_g ?_ ?_)
  · refine (skip_eq).trans ?_
    refine (seqC_normal (st' := (S61_2 g_ s1916))).trans ?_
    refine .trans seq_push ?_
    refine (block_push (id := 1)).trans ?_
    refine (pre1 (ref03_Last_f6 g_ s1916 _)).trans ?_
    refine .trans seq_push ?_
    refine (pre1 (ref03_Last_f7 g_ s1916 _)).trans ?_
    refine (block_push (id := 2)).trans ?_
    refine (ref03_Last_l7 g_ s1916 _).trans (bind_g fun y2119 => ?_)
    refine block_same.trans ?_
    refine (seqC_normal (st' := (S61_13 g_ s1916 y2119))).trans ?_
    refine .trans seq_push ?_
    refine (pre1 (ref03_Last_f15 g_ s1916 y2119 _)).trans ?_
    refine (block_push (id := 6)).trans ?_
    refine (ref03_Last_l15 g_ s1916 y2119 _).trans (bind_g fun y2133 => ?_)
    refine block_same.trans ?_
    refine (seqC_normal (st' := (S61_19 g_ s1916 y2133))).trans ?_
    refine (ref03_Last_r19 g_ s1916 y2133 _).trans (bind_g fun y2134 => ?_)
    refine block_normal.trans ?_
    refine (seqC_normal (st' := (S61_20 g_ s1916 y2133))).trans ?_
    refine (ref03_Last_r4 g_ s1916 y2133 _).trans ?_
    kernel_rfl
  · refine ((exit_eq (j := 0))).trans ?_
    refine seqC_exit.trans ?_
    kernel_rfl
theorem ref03_Last_l3 : R61 C61.r.r.l.r.b (S61_1 g_) q = Option.bind (iterN (ref03_Last_l3_p g_) LL ([], (0 : Int))) (fun y2135 : ((List Int) × Int) => q (.exit 0) (S61_21 g_ y2135)) :=
  Eq.trans (by kernel_rfl) (loop_iter1 (S := fun s1916 : ((List Int) × Int) => (S61_2 g_ s1916)) (Y1 := fun y2135 : ((List Int) × Int) => ((.exit 0), (S61_21 g_ y2135))) (fun s q => ref03_Last_l3_b g_ s q) (fun z => rfl) LL ([], (0 : Int)))
theorem ref03_Last_fzx3 : P61 1 C61.r.r.r ⟨[(3, .one (.ow (.one (.int .i64)) y2135.1 (.v 3)))], [], [], 73⟩ k = k ⟨[(2, .one (.ow (.one (.int .i64)) y2135.1 (.v 3)))], [], [], 73⟩ := by kernel_rfl
/-- quilt/quiltref03.Last -/
def ref03_Last : Option (List Int) := (Option.bind (iterN (ref03_Last_l3_p g_) LL ([], (0 : Int))) (fun y2135 : ((List Int) × Int) => (some y2135.1)))
theorem ref03_Last_is : stepO E cp58 ce3 24 [rA tsGraph g_] = Option.bind (ref03_Last g_) (fun y : (List Int) => some (.one (.ow (.one (.int .i64)) y (.s 0)) : R)) := by
  refine .trans ?_ (bind_b fun y2135 => some_b)
  refine (stepG_is (nt := 73) (regs := [(0, rA tsGraph g_)])).trans ?_
  refine (pre2 (ref03_Last_f2 g_ _)).trans ?_
  refine .trans seq_push ?_
  refine (pre1 (ref03_Last_f3 g_ _)).trans ?_
  refine (block_push (id := 0)).trans ?_
  refine (ref03_Last_l3 g_ _).trans (bind_g fun y2135 => ?_)
  refine block_same.trans ?_
  refine (seqC_normal (st' := ⟨[(3, .one (.ow (.one (.int .i64)) y2135.1 (.v 3)))], [], [], 73⟩)).trans ?_
  refine (pre1 (ref03_Last_fzx3 y2135 _)).trans ?_
  refine (ret_eq).trans ?_
  kernel_rfl
noncomputable def cp59 : CallP := withC cp58 24 [(.agg tsGraph)] (.one (.one (.ow (.one (.int .i64))))) (fun y : (List Int) => y) (fun x => ref03_Last x.1)
theorem cp59_ok : PureOK E cp59 := conO eok cp58_ok ce3_ok fun x => Eq.mp (by kernel_rfl) (ref03_Last_is x.1)
end
section
variable {α : Type} (g_ : Graph) (y1257 : ((List I4) × Int)) (y2136 : (List Int)) (s2147 : ((List I2) × Int)) (y2149 : (List I2)) (y2150 : ((List I2) × Int)) (k : St → Option α) (q : Kont α)
noncomputable abbrev C62 := codeOf E.P 11
noncomputable abbrev P62 := @preK α E 11 cp59 ce3
noncomputable abbrev R62 := @runCode α E 11 cp59 ce3
abbrev S62_0 : St := ⟨[(1, rC tsGraph g_), (5, ri y1257.2)], [], [], 45⟩
theorem ref17_Live_r1 : P62 2 C62 ⟨[(0, rA tsGraph g_)], [], [], 45⟩ k = Option.bind (ref03_Values g_) fun y1257 : ((List I4) × Int) => k (S62_0 g_ y1257) := by kernel_rfl
theorem ref17_Live_f1000003 : P62 1 C62.r.r.l (S62_0 g_ y1257) k = k ⟨[(1, rC tsGraph g_), (5, ri y1257.2), (16, rb (y1257.2 != 0))], [], [], 45⟩ := by kernel_rfl
theorem ref17_Live_fz : P62 1 C62.r.r.l.r.t (S62_0 g_ y1257) k = k ⟨[(2, .one (.ow tsI2 [] (.v 2))), (3, ri y1257.2)], [], [], 45⟩ := by kernel_rfl
abbrev S62_1 : St := ⟨[(1, rC tsGraph g_), (6, .one (.ow (.one (.int .i64)) y2136 (.v 6)))], [], [], 45⟩
theorem ref17_Live_r4 : P62 1 C62.r.r.r ⟨[(1, rC tsGraph g_)], [], [], 45⟩ k = Option.bind (ref03_Last g_) fun y2136 : (List Int) => k (S62_1 g_ y2136) := by kernel_rfl
abbrev S62_2 : St := ⟨[(1, rC tsGraph g_), (6, .one (.ow (.one (.int .i64)) y2136 (.v 6))), (7, .one (.ow tsI2 [] (.v 7)))], [], [], 45⟩
theorem ref17_Live_f6 : P62 1 C62.r.r.r.r (S62_1 g_ y2136) k = k (S62_2 g_ y2136) := by kernel_rfl
abbrev S62_3 : St := ⟨[(1, rC tsGraph g_), (6, .one (.ow (.one (.int .i64)) y2136 (.v 6))), (7, .one (.ow tsI2 [] (.v 7))), (8, ri 0)], [], [], 45⟩
theorem ref17_Live_f7 : P62 1 C62.r.r.r.r.r.l (S62_2 g_ y2136) k = k (S62_3 g_ y2136) := by kernel_rfl
abbrev S62_4 : St := ⟨[(1, rC tsGraph g_), (6, .one (.ow (.one (.int .i64)) y2136 (.v 6))), (7, rO tsI2 s2147.1 7), (8, ri s2147.2)], [], [], 45⟩
theorem ref17_Live_fzx1 : P62 1 C62.r.r.r.r.r.l.r.b.b.l (S62_4 g_ y2136 s2147) k = k ⟨[(1, rC tsGraph g_), (6, .one (.ow (.one (.int .i64)) y2136 (.v 6))), (7, rO tsI2 s2147.1 7), (8, ri s2147.2), (24, rb (decide (s2147.2 < (y2136.length : Int))))], [], [], 45⟩ := by kernel_rfl
abbrev S62_5 : St := ⟨[(1, rC tsGraph g_), (6, .one (.ow (.one (.int .i64)) y2136 (.v 6))), (7, rO tsI2 s2147.1 7), (8, ri s2147.2), (9, ri (max (IntKind.wrap .i64 (s2147.2 - (g_.1.length : Int))) (-1 : Int)))], [], [], 45⟩
theorem ref17_Live_f10 : P62 1 C62.r.r.r.r.r.l.r.b.b.r.l.b (S62_4 g_ y2136 s2147) k = k (S62_5 g_ y2136 s2147) := by kernel_rfl
def ref17_Live_r10_p : Option (List I2) := (bif (decide ((0 : Int) ≤ s2147.2)) then (bif (decide (s2147.2 < (y2136.length : Int))) then (bif (decide (s2147.1.length + ([((max (IntKind.wrap .i64 (s2147.2 - (g_.1.length : Int))) (-1 : Int)), (max (max (IntKind.wrap .i64 (s2147.2 - (g_.1.length : Int))) (-1 : Int)) (gt y2136 s2147.2 (0 : Int))))] : List I2).length ≤ maxL)) then (some (s2147.1 ++ [((max (IntKind.wrap .i64 (s2147.2 - (g_.1.length : Int))) (-1 : Int)), (max (max (IntKind.wrap .i64 (s2147.2 - (g_.1.length : Int))) (-1 : Int)) (gt y2136 s2147.2 (0 : Int))))])) else none) else none) else none)
abbrev S62_6 : St := ⟨[(1, rC tsGraph g_), (6, .one (.ow (.one (.int .i64)) y2136 (.v 6))), (7, rO tsI2 y2149 7), (8, ri s2147.2)], [], [], 45⟩
theorem ref17_Live_r10 : R62 C62.r.r.r.r.r.l.r.b.b.r.l.b.r (S62_5 g_ y2136 s2147) q = Option.bind (ref17_Live_r10_p g_ y2136 s2147) (fun y2149 : (List I2) => q .normal (S62_6 g_ y2136 s2147 y2149)) := .trans (by kernel_rfl) (bif_b (bif_b (bif_b some_b none_b) none_b) none_b)
theorem ref17_Live_r8 : R62 C62.r.r.r.r.r.l.r.b.b.r.r (S62_6 g_ y2136 s2147 y2149) q = q .normal ⟨[(1, rC tsGraph g_), (6, .one (.ow (.one (.int .i64)) y2136 (.v 6))), (7, rO tsI2 y2149 7), (8, ri (IntKind.wrap .i64 (s2147.2 + 1)))], [], [], 45⟩ := by kernel_rfl
def ref17_Live_l7_p : Option (((List I2) × Int) ⊕ ((List I2) × Int)) := (bif (decide (s2147.2 < (y2136.length : Int))) then (Option.bind (ref17_Live_r10_p g_ y2136 s2147) (fun y2149 : (List I2) => (some (Sum.inl (y2149, (IntKind.wrap .i64 (s2147.2 + 1))))))) else (some (Sum.inr s2147)))
abbrev S62_7 : St := ⟨[(1, rC tsGraph g_), (6, .one (.ow (.one (.int .i64)) y2136 (.v 6))), (7, rO tsI2 y2150.1 7), (8, ri y2150.2)], [], [], 45⟩
theorem ref17_Live_l7_b : R62 C62.r.r.r.r.r.l.r.b.b (S62_4 g_ y2136 s2147) (loopKont 0 q) = Option.bind (ref17_Live_l7_p g_ y2136 s2147) (either (fun y : ((List I2) × Int) => q .normal ⟨[(1, rC tsGraph g_), (6, .one (.ow (.one (.int .i64)) y2136 (.v 6))), (7, rO tsI2 y.1 7), (8, ri y.2)], [], [], 45⟩) (fun y2150 : ((List I2) × Int) => q (.exit 0) (S62_7 g_ y2136 y2150))) := by
  refine .trans ?_ (bif_b (bind_b fun y2149 => e2_0) e2_1)
  refine .trans seq_push ?_
  refine (pre1 (ref17_Live_fzx1 g_ y2136 s2147 _)).trans ?_
  refine (cond_e (b := (decide (s2147.2 < (y2136.length : Int)))) (st' := (S62_4 g_ y2136 s2147)) ).trans (bif_g ?_ ?_)
  · refine (skip_eq).trans ?_
    refine (seqC_normal (st' := (S62_4 g_ y2136 s2147))).trans ?_
    refine .trans seq_push ?_
    refine (block_push (id := 1)).trans ?_
    refine (pre1 (ref17_Live_f10 g_ y2136 s2147 _)).trans ?_
    refine (ref17_Live_r10 g_ y2136 s2147 _).trans (bind_g fun y2149 => ?_)
    refine block_normal.trans ?_
    refine (seqC_normal (st' := (S62_6 g_ y2136 s2147 y2149))).trans ?_
    refine (ref17_Live_r8 g_ y2136 s2147 y2149 _).trans ?_
    kernel_rfl
  · refine ((exit_eq (j := 0))).trans ?_
    refine seqC_exit.trans ?_
    kernel_rfl
theorem ref17_Live_l7 : R62 C62.r.r.r.r.r.l.r.b (S62_3 g_ y2136) q = Option.bind (iterN (ref17_Live_l7_p g_ y2136) LL ([], (0 : Int))) (fun y2150 : ((List I2) × Int) => q (.exit 0) (S62_7 g_ y2136 y2150)) :=
  Eq.trans (by kernel_rfl) (loop_iter1 (S := fun s2147 : ((List I2) × Int) => (S62_4 g_ y2136 s2147)) (Y1 := fun y2150 : ((List I2) × Int) => ((.exit 0), (S62_7 g_ y2136 y2150))) (fun s q => ref17_Live_l7_b g_ y2136 s q) (fun z => rfl) LL ([], (0 : Int)))
theorem ref17_Live_fzx2 : P62 1 C62.r.r.r.r.r.r ⟨[(7, rO tsI2 y2150.1 7)], [], [], 45⟩ k = k ⟨[(2, rO tsI2 y2150.1 7), (3, ri 0)], [], [], 45⟩ := by kernel_rfl
/-- quilt/quiltref17.Live -/
def ref17_Live : Option ((List I2) × Int) := (Option.bind (ref03_Values g_) (fun y1257 : ((List I4) × Int) => (bif (y1257.2 != 0) then (some ([], y1257.2)) else (Option.bind (ref03_Last g_) (fun y2136 : (List Int) => (Option.bind (iterN (ref17_Live_l7_p g_ y2136) LL ([], (0 : Int))) (fun y2150 : ((List I2) × Int) => (some (y2150.1, (0 : Int))))))))))
theorem ref17_Live_is : stepO E cp59 ce3 11 [rA tsGraph g_] = Option.bind (ref17_Live g_) (fun y : ((List I2) × Int) => some (.tup [.one (.ow tsI2 y.1 (.s 0)), ri y.2] : R)) := by
  refine .trans ?_ (bind_b fun y1257 => (bif_b some_b (bind_b fun y2136 => (bind_b fun y2150 => some_b))))
  refine (stepG_is (nt := 45) (regs := [(0, rA tsGraph g_)])).trans ?_
  refine (pre2 (ref17_Live_r1 g_ _)).trans (bind_g fun y1257 => ?_)
  refine .trans seq_push ?_
  refine (pre1 (ref17_Live_f1000003 g_ y1257 _)).trans ?_
  refine (cond_e (b := (y1257.2 != 0)) (st' := (S62_0 g_ y1257)) ).trans (bif_g ?_ ?_)
  · refine (pre1 (ref17_Live_fz g_ y1257 _)).trans ?_
    refine (ret_eq).trans ?_
    refine seqC_ret.trans ?_
    kernel_rfl
  · refine (skip_eq).trans ?_
    refine (seqC_normal (st' := ⟨[(1, rC tsGraph g_)], [], [], 45⟩)).trans ?_
    refine (pre1 (ref17_Live_r4 g_ _)).trans (bind_g fun y2136 => ?_)
    refine (pre1 (ref17_Live_f6 g_ y2136 _)).trans ?_
    refine .trans seq_push ?_
    refine (pre1 (ref17_Live_f7 g_ y2136 _)).trans ?_
    refine (block_push (id := 0)).trans ?_
    refine (ref17_Live_l7 g_ y2136 _).trans (bind_g fun y2150 => ?_)
    refine block_same.trans ?_
    refine (seqC_normal (st' := ⟨[(7, rO tsI2 y2150.1 7)], [], [], 45⟩)).trans ?_
    refine (pre1 (ref17_Live_fzx2 y2150 _)).trans ?_
    refine (ret_eq).trans ?_
    kernel_rfl
noncomputable def cp60 : CallP := withC cp59 11 [(.agg tsGraph)] (.tup [(.one (.ow tsI2)), pI]) (fun y : ((List I2) × Int) => (y.1, y.2, ())) (fun x => ref17_Live x.1)
theorem cp60_ok : PureOK E cp60 := conO eok cp59_ok ce3_ok fun x => Eq.mp (by kernel_rfl) (ref17_Live_is x.1)
end
section
variable {α β : Type} (a_ : I2) (b_ : I2) (k : St → Option α)
noncomputable abbrev C63 := codeOf E.P 20
noncomputable abbrev P63 := @preK α E 20 cp60 ce3
def ref17_Together_r1_q (K : Bool → β) : β := (bif (decide (a_.2 ≥ b_.1)) then (K (decide (b_.2 ≥ a_.1))) else (K false))
def ref17_Together_r1_p : Bool := ref17_Together_r1_q a_ b_ (fun y => y)
theorem ref17_Together_r1_n (K : Bool → β) : ref17_Together_r1_q a_ b_ K = K (ref17_Together_r1_p a_ b_) := (bif_k K rfl rfl)
theorem ref17_Together_r1 : P63 2 C63 ⟨[(0, rA tsI2 a_), (1, rA tsI2 b_)], [], [], 17⟩ k = k ⟨[(4, rb (ref17_Together_r1_p a_ b_))], [], [], 17⟩ := Eq.trans (by kernel_rfl) (ref17_Together_r1_n a_ b_ (fun y2159 : Bool => k ⟨[(4, rb y2159)], [], [], 17⟩))
/-- quilt/quiltref17.Together -/
def ref17_Together_q (K : Bool → β) : β := (K (ref17_Together_r1_p a_ b_))
def ref17_Together : Bool := ref17_Together_q a_ b_ (fun y => y)
theorem ref17_Together_n (K : Bool → β) : ref17_Together_q a_ b_ K = K (ref17_Together a_ b_) := rfl
theorem ref17_Together_is : stepS E cp60 ce3 20 [rA tsI2 a_, rA tsI2 b_] = (fun y : Bool => some (rb y : R)) (ref17_Together a_ b_) := by
  refine Eq.trans ?_ (ref17_Together_n a_ b_ (fun y : Bool => some (rb y : R)))
  refine (stepG_is (nt := 17) (regs := [(0, rA tsI2 a_), (1, rA tsI2 b_)])).trans ?_
  unfold ref17_Together_q
  refine (pre2 (ref17_Together_r1 a_ b_ _)).trans ?_
  refine (ret_eq).trans ?_
  kernel_rfl
noncomputable def cp61 : CallP := withC cp60 20 [(.agg tsI2), (.agg tsI2)] (.one pB) (fun y : Bool => y) (fun x => some (ref17_Together x.1 x.2.1))
theorem cp61_ok : PureOK E cp61 := conS eok cp60_ok ce3_ok fun x => Eq.mp (by kernel_rfl) (ref17_Together_is x.1 x.2.1)
end
section
variable {α : Type} (g_ : Graph) (y2153 : ((List I4) × Int)) (y2154 : ((List I2) × Int)) (s2240 : ((List Int) × Int)) (y2257 : Int) (s2268 : (Int × Int)) (y2270 : (Int × Int)) (y2271 : (Int × Int)) (y2273 : ((List Int) × Int)) (k : St → Option α) (q : Kont α)
noncomputable abbrev C64 := codeOf E.P 13
noncomputable abbrev P64 := @preK α E 13 cp61 ce3
noncomputable abbrev R64 := @runCode α E 13 cp61 ce3
noncomputable abbrev Q64 := @seqC α E 13 cp61 ce3
abbrev S64_0 : St := ⟨[(1, rC tsGraph g_), (4, rO tsI4 y2153.1 4), (5, ri y2153.2)], [], [], 85⟩
theorem ref17_Places_r1 : P64 2 C64 ⟨[(0, rA tsGraph g_)], [], [], 85⟩ k = Option.bind (ref03_Values g_) fun y2153 : ((List I4) × Int) => k (S64_0 g_ y2153) := by kernel_rfl
theorem ref17_Places_f1000003 : P64 1 C64.r.r.l (S64_0 g_ y2153) k = k ⟨[(1, rC tsGraph g_), (4, rO tsI4 y2153.1 4), (5, ri y2153.2), (19, rb (y2153.2 != 0))], [], [], 85⟩ := by kernel_rfl
theorem ref17_Places_fz : P64 1 C64.r.r.l.r.t (S64_0 g_ y2153) k = k ⟨[(2, .one (.ow (.one (.int .i64)) [] (.v 2))), (3, ri y2153.2)], [], [], 85⟩ := by kernel_rfl
abbrev S64_1 : St := ⟨[(1, rC tsGraph g_), (4, rO tsI4 y2153.1 4)], [], [], 85⟩
abbrev S64_2 : St := ⟨[(4, rO tsI4 y2153.1 4), (6, rO tsI2 y2154.1 6)], [], [], 85⟩
theorem ref17_Places_r4 : P64 1 C64.r.r.r (S64_1 g_ y2153) k = Option.bind (ref17_Live g_) fun y2154 : ((List I2) × Int) => k (S64_2 y2153 y2154) := by kernel_rfl
abbrev S64_3 : St := ⟨[(4, rO tsI4 y2153.1 4), (6, rO tsI2 y2154.1 6), (8, .one (.ow (.one (.int .i64)) [] (.v 8)))], [], [], 85⟩
theorem ref17_Places_f6 : P64 1 C64.r.r.r.r (S64_2 y2153 y2154) k = k (S64_3 y2153 y2154) := by kernel_rfl
abbrev S64_4 : St := ⟨[(4, rO tsI4 y2153.1 4), (6, rO tsI2 y2154.1 6), (8, .one (.ow (.one (.int .i64)) [] (.v 8))), (9, ri 0)], [], [], 85⟩
theorem ref17_Places_f7 : P64 1 C64.r.r.r.r.r.l (S64_3 y2153 y2154) k = k (S64_4 y2153 y2154) := by kernel_rfl
abbrev S64_5 : St := ⟨[(4, rO tsI4 y2153.1 4), (6, rO tsI2 y2154.1 6), (8, .one (.ow (.one (.int .i64)) s2240.1 (.v 8))), (9, ri s2240.2)], [], [], 85⟩
theorem ref17_Places_fzx1 : P64 1 C64.r.r.r.r.r.l.r.b.b.l (S64_5 y2153 y2154 s2240) k = k ⟨[(4, rO tsI4 y2153.1 4), (6, rO tsI2 y2154.1 6), (8, .one (.ow (.one (.int .i64)) s2240.1 (.v 8))), (9, ri s2240.2), (30, rb (decide (s2240.2 < (y2153.1.length : Int))))], [], [], 85⟩ := by kernel_rfl
def ref17_Places_r10_p : Option Int := (bif (decide ((0 : Int) ≤ s2240.2)) then (bif (decide (s2240.2 < (y2153.1.length : Int))) then (some (ref02_Size ((gt y2153.1 s2240.2 dI4).1, (gt y2153.1 s2240.2 dI4).2.1, (gt y2153.1 s2240.2 dI4).2.2.1))) else none) else none)
abbrev S64_6 : St := ⟨[(4, rO tsI4 y2153.1 4), (6, rO tsI2 y2154.1 6), (8, .one (.ow (.one (.int .i64)) s2240.1 (.v 8))), (9, ri s2240.2), (10, ri 0), (11, ri y2257)], [], [], 85⟩
theorem ref17_Places_r10 : P64 2 C64.r.r.r.r.r.l.r.b.b.r.l.b (S64_5 y2153 y2154 s2240) k = Option.bind (ref17_Places_r10_p y2153 s2240) (fun y2257 : Int => k (S64_6 y2153 y2154 s2240 y2257)) := .trans (by kernel_rfl) (bif_b (bif_b some_b none_b) none_b)
abbrev S64_7 : St := ⟨[(4, rO tsI4 y2153.1 4), (6, rO tsI2 y2154.1 6), (8, .one (.ow (.one (.int .i64)) s2240.1 (.v 8))), (9, ri s2240.2), (10, ri 0), (11, ri y2257), (12, ri 0)], [], [], 85⟩
theorem ref17_Places_f12 : P64 1 C64.r.r.r.r.r.l.r.b.b.r.l.b.r.r.l (S64_6 y2153 y2154 s2240 y2257) k = k (S64_7 y2153 y2154 s2240 y2257) := by kernel_rfl
abbrev S64_8 : St := ⟨[(4, rO tsI4 y2153.1 4), (6, rO tsI2 y2154.1 6), (8, .one (.ow (.one (.int .i64)) s2240.1 (.v 8))), (9, ri s2240.2), (10, ri s2268.1), (11, ri y2257), (12, ri s2268.2)], [], [], 85⟩
theorem ref17_Places_fzx2 : P64 1 C64.r.r.r.r.r.l.r.b.b.r.l.b.r.r.l.r.b.b.l (S64_8 y2153 y2154 s2240 y2257 s2268) k = k ⟨[(4, rO tsI4 y2153.1 4), (6, rO tsI2 y2154.1 6), (8, .one (.ow (.one (.int .i64)) s2240.1 (.v 8))), (9, ri s2240.2), (10, ri s2268.1), (11, ri y2257), (12, ri s2268.2), (42, rb (decide (s2268.2 < (s2240.1.length : Int))))], [], [], 85⟩ := by kernel_rfl
def ref17_Places_r14_p : Option Bool := (bif (decide ((0 : Int) ≤ s2268.2)) then (bif (decide (s2268.2 < (y2154.1.length : Int))) then (bif (decide ((0 : Int) ≤ s2240.2)) then (bif (decide (s2240.2 < (y2154.1.length : Int))) then (bif (ref17_Together (gt y2154.1 s2268.2 dI2) (gt y2154.1 s2240.2 dI2)) then (bif (decide ((0 : Int) ≤ s2268.2)) then (bif (decide (s2268.2 < (s2240.1.length : Int))) then (bif (decide ((0 : Int) ≤ s2268.2)) then (bif (decide (s2268.2 < (s2240.1.length : Int))) then (bif (decide ((0 : Int) ≤ s2268.2)) then (bif (decide (s2268.2 < (y2153.1.length : Int))) then (some (decide ((max s2268.1 (gt s2240.1 s2268.2 (0 : Int))) < (min (IntKind.wrap .i64 (s2268.1 + y2257)) (IntKind.wrap .i64 ((gt s2240.1 s2268.2 (0 : Int)) + (ref02_Size ((gt y2153.1 s2268.2 dI4).1, (gt y2153.1 s2268.2 dI4).2.1, (gt y2153.1 s2268.2 dI4).2.2.1)))))))) else none) else none) else none) else none) else none) else none) else (some false)) else none) else none) else none) else none)
theorem ref17_Places_r14 : P64 1 C64.r.r.r.r.r.l.r.b.b.r.l.b.r.r.l.r.b.b.r.l.b (S64_8 y2153 y2154 s2240 y2257 s2268) k = Option.bind (ref17_Places_r14_p y2153 y2154 s2240 y2257 s2268) (fun y2269 : Bool => k ⟨[(4, rO tsI4 y2153.1 4), (6, rO tsI2 y2154.1 6), (8, .one (.ow (.one (.int .i64)) s2240.1 (.v 8))), (9, ri s2240.2), (10, ri s2268.1), (11, ri y2257), (12, ri s2268.2), (77, rb y2269)], [], [], 85⟩) := .trans (by kernel_rfl) (bif_b (bif_b (bif_b (bif_b (bif_b (bif_b (bif_b (bif_b (bif_b (bif_b (bif_b some_b none_b) none_b) none_b) none_b) none_b) none_b) some_b) none_b) none_b) none_b) none_b)
abbrev S64_9 : St := ⟨[(4, rO tsI4 y2153.1 4), (6, rO tsI2 y2154.1 6), (8, .one (.ow (.one (.int .i64)) s2240.1 (.v 8))), (9, ri s2240.2), (10, ri (IntKind.wrap .i64 (s2268.1 + 1))), (11, ri y2257)], [], [], 85⟩
theorem ref17_Places_f16 : P64 1 C64.r.r.r.r.r.l.r.b.b.r.l.b.r.r.l.r.b.b.r.l.b.r.t (S64_8 y2153 y2154 s2240 y2257 s2268) k = k (S64_9 y2153 y2154 s2240 y2257 s2268) := by kernel_rfl
abbrev S64_10 : St := ⟨[(4, rO tsI4 y2153.1 4), (6, rO tsI2 y2154.1 6), (8, .one (.ow (.one (.int .i64)) s2240.1 (.v 8))), (9, ri s2240.2), (10, ri (IntKind.wrap .i64 (s2268.1 + 1))), (11, ri y2257), (12, ri (-1 : Int))], [], [], 85⟩
theorem ref17_Places_r16 : R64 C64.r.r.r.r.r.l.r.b.b.r.l.b.r.r.l.r.b.b.r.l.b.r.t.r (S64_9 y2153 y2154 s2240 y2257 s2268) q = q .normal (S64_10 y2153 y2154 s2240 y2257 s2268) := by kernel_rfl
def ref17_Places_j14_p : Option (Int × Int) := (Option.bind (ref17_Places_r14_p y2153 y2154 s2240 y2257 s2268) (fun y2269 : Bool => (bif y2269 then (some ((IntKind.wrap .i64 (s2268.1 + 1)), (-1 : Int))) else (some s2268))))
abbrev S64_11 : St := ⟨[(4, rO tsI4 y2153.1 4), (6, rO tsI2 y2154.1 6), (8, .one (.ow (.one (.int .i64)) s2240.1 (.v 8))), (9, ri s2240.2), (10, ri y2270.1), (11, ri y2257), (12, ri y2270.2)], [], [], 85⟩
theorem ref17_Places_j14 : R64 C64.r.r.r.r.r.l.r.b.b.r.l.b.r.r.l.r.b.b.r.l (S64_8 y2153 y2154 s2240 y2257 s2268) (Q64 C64.r.r.r.r.r.l.r.b.b.r.l.b.r.r.l.r.b.b.r.r q) = Option.bind (ref17_Places_j14_p y2153 y2154 s2240 y2257 s2268) (fun y2270 : (Int × Int) => R64 C64.r.r.r.r.r.l.r.b.b.r.l.b.r.r.l.r.b.b.r.r (S64_11 y2153 y2154 s2240 y2257 y2270) q) := by
  refine .trans ?_ (bind_b fun y2269 => (bif_b some_b some_b))
  refine (block_push (id := 3)).trans ?_
  refine (pre1 (ref17_Places_r14 y2153 y2154 s2240 y2257 s2268 _)).trans (bind_g fun y2269 => ?_)
  refine (cond_e (b := y2269) (st' := (S64_8 y2153 y2154 s2240 y2257 s2268)) ).trans (bif_g ?_ ?_)
  · refine (pre1 (ref17_Places_f16 y2153 y2154 s2240 y2257 s2268 _)).trans ?_
    refine (ref17_Places_r16 y2153 y2154 s2240 y2257 s2268 _).trans ?_
    refine block_normal.trans ?_
    refine (seqC_normal (st' := (S64_10 y2153 y2154 s2240 y2257 s2268))).trans ?_
    kernel_rfl
  · refine (skip_eq).trans ?_
    refine block_normal.trans ?_
    refine (seqC_normal (st' := (S64_8 y2153 y2154 s2240 y2257 s2268))).trans ?_
    kernel_rfl
theorem ref17_Places_r13 : R64 C64.r.r.r.r.r.l.r.b.b.r.l.b.r.r.l.r.b.b.r.r (S64_11 y2153 y2154 s2240 y2257 y2270) q = q .normal ⟨[(4, rO tsI4 y2153.1 4), (6, rO tsI2 y2154.1 6), (8, .one (.ow (.one (.int .i64)) s2240.1 (.v 8))), (9, ri s2240.2), (10, ri y2270.1), (11, ri y2257), (12, ri (IntKind.wrap .i64 (y2270.2 + 1)))], [], [], 85⟩ := by kernel_rfl
def ref17_Places_l12_p : Option ((Int × Int) ⊕ (Int × Int)) := (bif (decide (s2268.2 < (s2240.1.length : Int))) then (Option.bind (ref17_Places_j14_p y2153 y2154 s2240 y2257 s2268) (fun y2270 : (Int × Int) => (some (Sum.inl (y2270.1, (IntKind.wrap .i64 (y2270.2 + 1))))))) else (some (Sum.inr s2268)))
abbrev S64_12 : St := ⟨[(4, rO tsI4 y2153.1 4), (6, rO tsI2 y2154.1 6), (8, .one (.ow (.one (.int .i64)) s2240.1 (.v 8))), (9, ri s2240.2), (10, ri y2271.1), (11, ri y2257), (12, ri y2271.2)], [], [], 85⟩
theorem ref17_Places_l12_b : R64 C64.r.r.r.r.r.l.r.b.b.r.l.b.r.r.l.r.b.b (S64_8 y2153 y2154 s2240 y2257 s2268) (loopKont 0 q) = Option.bind (ref17_Places_l12_p y2153 y2154 s2240 y2257 s2268) (either (fun y : (Int × Int) => q .normal ⟨[(4, rO tsI4 y2153.1 4), (6, rO tsI2 y2154.1 6), (8, .one (.ow (.one (.int .i64)) s2240.1 (.v 8))), (9, ri s2240.2), (10, ri y.1), (11, ri y2257), (12, ri y.2)], [], [], 85⟩) (fun y2271 : (Int × Int) => q (.exit 2) (S64_12 y2153 y2154 s2240 y2257 y2271))) := by
  refine .trans ?_ (bif_b (bind_b fun y2270 => e2_0) e2_1)
  refine .trans seq_push ?_
  refine (pre1 (ref17_Places_fzx2 y2153 y2154 s2240 y2257 s2268 _)).trans ?_
  refine (cond_e (b := (decide (s2268.2 < (s2240.1.length : Int)))) (st' := (S64_8 y2153 y2154 s2240 y2257 s2268)) ).trans (bif_g ?_ ?_)
  · refine (skip_eq).trans ?_
    refine (seqC_normal (st' := (S64_8 y2153 y2154 s2240 y2257 s2268))).trans ?_
    refine .trans seq_push ?_
    refine (ref17_Places_j14 y2153 y2154 s2240 y2257 s2268 _).trans (bind_g fun y2270 => ?_)
    refine (ref17_Places_r13 y2153 y2154 s2240 y2257 y2270 _).trans ?_
    kernel_rfl
  · refine ((exit_eq (j := 2))).trans ?_
    refine seqC_exit.trans ?_
    kernel_rfl
theorem ref17_Places_l12 : R64 C64.r.r.r.r.r.l.r.b.b.r.l.b.r.r.l.r.b (S64_7 y2153 y2154 s2240 y2257) q = Option.bind (iterN (ref17_Places_l12_p y2153 y2154 s2240 y2257) LL ((0 : Int), (0 : Int))) (fun y2271 : (Int × Int) => q (.exit 2) (S64_12 y2153 y2154 s2240 y2257 y2271)) :=
  Eq.trans (by kernel_rfl) (loop_iter1 (S := fun s2268 : (Int × Int) => (S64_8 y2153 y2154 s2240 y2257 s2268)) (Y1 := fun y2271 : (Int × Int) => ((.exit 2), (S64_12 y2153 y2154 s2240 y2257 y2271))) (fun s q => ref17_Places_l12_b y2153 y2154 s2240 y2257 s q) (fun z => rfl) LL ((0 : Int), (0 : Int)))
def ref17_Places_r17_p : Option Unit := (bif (decide (s2240.1.length + ([y2271.1] : List Int).length ≤ maxL)) then (some ()) else none)
abbrev S64_13 : St := ⟨[(4, rO tsI4 y2153.1 4), (6, rO tsI2 y2154.1 6), (8, .one (.ow (.one (.int .i64)) s2240.1 (.v 8))), (9, ri s2240.2), (10, ri y2271.1)], [], [], 85⟩
abbrev S64_14 : St := ⟨[(4, rO tsI4 y2153.1 4), (6, rO tsI2 y2154.1 6), (8, .one (.ow (.one (.int .i64)) (s2240.1 ++ [y2271.1]) (.v 8))), (9, ri s2240.2)], [], [], 85⟩
theorem ref17_Places_r17 : R64 C64.r.r.r.r.r.l.r.b.b.r.l.b.r.r.r (S64_13 y2153 y2154 s2240 y2271) q = Option.bind (ref17_Places_r17_p s2240 y2271) (fun y2272 : Unit => q .normal (S64_14 y2153 y2154 s2240 y2271)) := .trans (by kernel_rfl) (bif_b some_b none_b)
theorem ref17_Places_r8 : R64 C64.r.r.r.r.r.l.r.b.b.r.r (S64_14 y2153 y2154 s2240 y2271) q = q .normal ⟨[(4, rO tsI4 y2153.1 4), (6, rO tsI2 y2154.1 6), (8, .one (.ow (.one (.int .i64)) (s2240.1 ++ [y2271.1]) (.v 8))), (9, ri (IntKind.wrap .i64 (s2240.2 + 1)))], [], [], 85⟩ := by kernel_rfl
def ref17_Places_l7_p : Option (((List Int) × Int) ⊕ ((List Int) × Int)) := (bif (decide (s2240.2 < (y2153.1.length : Int))) then (Option.bind (ref17_Places_r10_p y2153 s2240) (fun y2257 : Int => (Option.bind (iterN (ref17_Places_l12_p y2153 y2154 s2240 y2257) LL ((0 : Int), (0 : Int))) (fun y2271 : (Int × Int) => (Option.bind (ref17_Places_r17_p s2240 y2271) (fun y2272 : Unit => (some (Sum.inl ((s2240.1 ++ [y2271.1]), (IntKind.wrap .i64 (s2240.2 + 1))))))))))) else (some (Sum.inr s2240)))
abbrev S64_15 : St := ⟨[(4, rO tsI4 y2153.1 4), (6, rO tsI2 y2154.1 6), (8, .one (.ow (.one (.int .i64)) y2273.1 (.v 8))), (9, ri y2273.2)], [], [], 85⟩
theorem ref17_Places_l7_b : R64 C64.r.r.r.r.r.l.r.b.b (S64_5 y2153 y2154 s2240) (loopKont 0 q) = Option.bind (ref17_Places_l7_p y2153 y2154 s2240) (either (fun y : ((List Int) × Int) => q .normal ⟨[(4, rO tsI4 y2153.1 4), (6, rO tsI2 y2154.1 6), (8, .one (.ow (.one (.int .i64)) y.1 (.v 8))), (9, ri y.2)], [], [], 85⟩) (fun y2273 : ((List Int) × Int) => q (.exit 0) (S64_15 y2153 y2154 y2273))) := by
  refine .trans ?_ (bif_b (bind_b fun y2257 => (bind_b fun y2271 => (bind_b fun y2272 => e2_0))) e2_1)
  refine .trans seq_push ?_
  refine (pre1 (ref17_Places_fzx1 y2153 y2154 s2240 _)).trans ?_
  refine (cond_e (b := (decide (s2240.2 < (y2153.1.length : Int)))) (st' := (S64_5 y2153 y2154 s2240)) ).trans (bif_g ?_ ?_)
  · refine (skip_eq).trans ?_
    refine (seqC_normal (st' := (S64_5 y2153 y2154 s2240))).trans ?_
    refine .trans seq_push ?_
    refine (block_push (id := 1)).trans ?_
    refine (pre2 (ref17_Places_r10 y2153 y2154 s2240 _)).trans (bind_g fun y2257 => ?_)
    refine .trans seq_push ?_
    refine (pre1 (ref17_Places_f12 y2153 y2154 s2240 y2257 _)).trans ?_
    refine (block_push (id := 2)).trans ?_
    refine (ref17_Places_l12 y2153 y2154 s2240 y2257 _).trans (bind_g fun y2271 => ?_)
    refine block_same.trans ?_
    refine (seqC_normal (st' := (S64_13 y2153 y2154 s2240 y2271))).trans ?_
    refine (ref17_Places_r17 y2153 y2154 s2240 y2271 _).trans (bind_g fun y2272 => ?_)
    refine block_normal.trans ?_
    refine (seqC_normal (st' := (S64_14 y2153 y2154 s2240 y2271))).trans ?_
    refine (ref17_Places_r8 y2153 y2154 s2240 y2271 _).trans ?_
    kernel_rfl
  · refine ((exit_eq (j := 0))).trans ?_
    refine seqC_exit.trans ?_
    kernel_rfl
theorem ref17_Places_l7 : R64 C64.r.r.r.r.r.l.r.b (S64_4 y2153 y2154) q = Option.bind (iterN (ref17_Places_l7_p y2153 y2154) LL ([], (0 : Int))) (fun y2273 : ((List Int) × Int) => q (.exit 0) (S64_15 y2153 y2154 y2273)) :=
  Eq.trans (by kernel_rfl) (loop_iter1 (S := fun s2240 : ((List Int) × Int) => (S64_5 y2153 y2154 s2240)) (Y1 := fun y2273 : ((List Int) × Int) => ((.exit 0), (S64_15 y2153 y2154 y2273))) (fun s q => ref17_Places_l7_b y2153 y2154 s q) (fun z => rfl) LL ([], (0 : Int)))
theorem ref17_Places_fzx3 : P64 1 C64.r.r.r.r.r.r ⟨[(8, .one (.ow (.one (.int .i64)) y2273.1 (.v 8)))], [], [], 85⟩ k = k ⟨[(2, .one (.ow (.one (.int .i64)) y2273.1 (.v 8))), (3, ri 0)], [], [], 85⟩ := by kernel_rfl
/-- quilt/quiltref17.Places -/
def ref17_Places : Option ((List Int) × Int) := (Option.bind (ref03_Values g_) (fun y2153 : ((List I4) × Int) => (bif (y2153.2 != 0) then (some ([], y2153.2)) else (Option.bind (ref17_Live g_) (fun y2154 : ((List I2) × Int) => (Option.bind (iterN (ref17_Places_l7_p y2153 y2154) LL ([], (0 : Int))) (fun y2273 : ((List Int) × Int) => (some (y2273.1, (0 : Int))))))))))
theorem ref17_Places_is : stepO E cp61 ce3 13 [rA tsGraph g_] = Option.bind (ref17_Places g_) (fun y : ((List Int) × Int) => some (.tup [.one (.ow (.one (.int .i64)) y.1 (.s 0)), ri y.2] : R)) := by
  refine .trans ?_ (bind_b fun y2153 => (bif_b some_b (bind_b fun y2154 => (bind_b fun y2273 => some_b))))
  refine (stepG_is (nt := 85) (regs := [(0, rA tsGraph g_)])).trans ?_
  refine (pre2 (ref17_Places_r1 g_ _)).trans (bind_g fun y2153 => ?_)
  refine .trans seq_push ?_
  refine (pre1 (ref17_Places_f1000003 g_ y2153 _)).trans ?_
  refine (cond_e (b := (y2153.2 != 0)) (st' := (S64_0 g_ y2153)) ).trans (bif_g ?_ ?_)
  · refine (pre1 (ref17_Places_fz g_ y2153 _)).trans ?_
    refine (ret_eq).trans ?_
    refine seqC_ret.trans ?_
    kernel_rfl
  · refine (skip_eq).trans ?_
    refine (seqC_normal (st' := (S64_1 g_ y2153))).trans ?_
    refine (pre1 (ref17_Places_r4 g_ y2153 _)).trans (bind_g fun y2154 => ?_)
    refine (pre1 (ref17_Places_f6 y2153 y2154 _)).trans ?_
    refine .trans seq_push ?_
    refine (pre1 (ref17_Places_f7 y2153 y2154 _)).trans ?_
    refine (block_push (id := 0)).trans ?_
    refine (ref17_Places_l7 y2153 y2154 _).trans (bind_g fun y2273 => ?_)
    refine block_same.trans ?_
    refine (seqC_normal (st' := ⟨[(8, .one (.ow (.one (.int .i64)) y2273.1 (.v 8)))], [], [], 85⟩)).trans ?_
    refine (pre1 (ref17_Places_fzx3 y2273 _)).trans ?_
    refine (ret_eq).trans ?_
    kernel_rfl
noncomputable def cp62 : CallP := withC cp61 13 [(.agg tsGraph)] (.tup [(.one (.ow (.one (.int .i64)))), pI]) (fun y : ((List Int) × Int) => (y.1, y.2, ())) (fun x => ref17_Places x.1)
theorem cp62_ok : PureOK E cp62 := conO eok cp61_ok ce3_ok fun x => Eq.mp (by kernel_rfl) (ref17_Places_is x.1)
end
section
variable {α : Type} (g_ : Graph) (y2275 : ((List I4) × Int)) (s2286 : (Int × Int)) (y2289 : (Int × Int)) (k : St → Option α) (q : Kont α)
noncomputable abbrev C65 := codeOf E.P 14
noncomputable abbrev P65 := @preK α E 14 cp62 ce3
noncomputable abbrev R65 := @runCode α E 14 cp62 ce3
abbrev S65_0 : St := ⟨[(4, rO tsI4 y2275.1 4), (5, ri y2275.2)], [], [], 27⟩
theorem place_Total_r1 : P65 2 C65 ⟨[(0, rA tsGraph g_)], [], [], 27⟩ k = Option.bind (place_lots g_) fun y2275 : ((List I4) × Int) => k (S65_0 y2275) := by kernel_rfl
abbrev S65_1 : St := ⟨[(4, rO tsI4 y2275.1 4), (5, ri y2275.2), (6, ri 0)], [], [], 27⟩
theorem place_Total_f3 : P65 1 C65.r.r (S65_0 y2275) k = k (S65_1 y2275) := by kernel_rfl
abbrev S65_2 : St := ⟨[(5, ri y2275.2), (6, ri 0), (14, rO tsI4 y2275.1 4), (15, ri (y2275.1.length : Int)), (16, ri 0)], [], [], 27⟩
theorem place_Total_f4 : P65 1 C65.r.r.r.l (S65_1 y2275) k = k (S65_2 y2275) := by kernel_rfl
abbrev S65_3 : St := ⟨[(5, ri y2275.2), (6, ri s2286.1), (14, rO tsI4 y2275.1 4), (15, ri (y2275.1.length : Int)), (16, ri s2286.2)], [], [], 27⟩
theorem place_Total_fz : P65 1 C65.r.r.r.l.r.b.b (S65_3 y2275 s2286) k = k ⟨[(5, ri y2275.2), (6, ri s2286.1), (14, rO tsI4 y2275.1 4), (15, ri (y2275.1.length : Int)), (16, ri s2286.2), (17, rb (decide (s2286.2 < (y2275.1.length : Int))))], [], [], 27⟩ := by kernel_rfl
def place_Total_r5_p : Option Unit := (bif (decide ((0 : Int) ≤ s2286.2)) then (bif (decide (s2286.2 < (y2275.1.length : Int))) then (some ()) else none) else none)
abbrev S65_4 : St := ⟨[(5, ri y2275.2), (6, ri s2286.1), (8, rF 0), (14, rO tsI4 y2275.1 4), (15, ri (y2275.1.length : Int)), (16, ri s2286.2)], [(tsI4.leaves (gt y2275.1 s2286.2 dI4))], [], 27⟩
theorem place_Total_r5 : P65 1 C65.r.r.r.l.r.b.b.r.r.l.b (S65_3 y2275 s2286) k = Option.bind (place_Total_r5_p y2275 s2286) (fun y2288 : Unit => k (S65_4 y2275 s2286)) := .trans (by kernel_rfl) (bif_b (bif_b some_b none_b) none_b)
abbrev S65_5 : St := ⟨[(5, ri y2275.2), (6, ri (max s2286.1 ((gt y2275.1 s2286.2 dI4).2.2.2))), (14, rO tsI4 y2275.1 4), (15, ri (y2275.1.length : Int)), (16, ri s2286.2)], [[]], [], 27⟩
theorem place_Total_r6 : R65 C65.r.r.r.l.r.b.b.r.r.l.b.r (S65_4 y2275 s2286) q = q .normal (S65_5 y2275 s2286) := by kernel_rfl
theorem place_Total_r7 : R65 C65.r.r.r.l.r.b.b.r.r.r (S65_5 y2275 s2286) q = q .normal ⟨[(5, ri y2275.2), (6, ri (max s2286.1 ((gt y2275.1 s2286.2 dI4).2.2.2))), (14, rO tsI4 y2275.1 4), (15, ri (y2275.1.length : Int)), (16, ri (IntKind.wrap .i64 (s2286.2 + 1)))], [[]], [], 27⟩ := by kernel_rfl
def place_Total_l4_p : Option ((Int × Int) ⊕ (Int × Int)) := (bif (decide (s2286.2 < (y2275.1.length : Int))) then (Option.bind (place_Total_r5_p y2275 s2286) (fun y2288 : Unit => (some (Sum.inl ((max s2286.1 ((gt y2275.1 s2286.2 dI4).2.2.2)), (IntKind.wrap .i64 (s2286.2 + 1))))))) else (some (Sum.inr s2286)))
abbrev S65_6 : St := ⟨[(5, ri y2275.2), (6, ri y2289.1), (14, rO tsI4 y2275.1 4), (15, ri (y2275.1.length : Int)), (16, ri y2289.2)], [], [], 27⟩
theorem place_Total_l4_b : R65 C65.r.r.r.l.r.b.b (S65_3 y2275 s2286) (loopKont 0 q) = Option.bind (place_Total_l4_p y2275 s2286) (either (fun y : (Int × Int) => q .normal ⟨[(5, ri y2275.2), (6, ri y.1), (14, rO tsI4 y2275.1 4), (15, ri (y2275.1.length : Int)), (16, ri y.2)], [], [], 27⟩) (fun y2289 : (Int × Int) => q (.exit 0) (S65_6 y2275 y2289))) := by
  refine .trans ?_ (bif_b (bind_b fun y2288 => e2_0) e2_1)
  refine (pre1 (place_Total_fz y2275 s2286 _)).trans ?_
  refine .trans seq_push ?_
  refine (cond_e (b := (decide (s2286.2 < (y2275.1.length : Int)))) (st' := (S65_3 y2275 s2286)) ).trans (bif_g ?_ ?_)
  · refine (skip_eq).trans ?_
    refine (seqC_normal (st' := (S65_3 y2275 s2286))).trans ?_
    refine .trans seq_push ?_
    refine (block_push (id := 1)).trans ?_
    refine (pre1 (place_Total_r5 y2275 s2286 _)).trans (bind_g fun y2288 => ?_)
    refine (place_Total_r6 y2275 s2286 _).trans ?_
    refine block_normal.trans ?_
    refine (seqC_normal (st' := (S65_5 y2275 s2286))).trans ?_
    refine (place_Total_r7 y2275 s2286 _).trans ?_
    kernel_rfl
  · refine ((exit_eq (j := 0))).trans ?_
    refine seqC_exit.trans ?_
    kernel_rfl
theorem place_Total_l4 : R65 C65.r.r.r.l.r.b (S65_2 y2275) q = Option.bind (iterN (place_Total_l4_p y2275) LL ((0 : Int), (0 : Int))) (fun y2289 : (Int × Int) => q (.exit 0) (S65_6 y2275 y2289)) :=
  Eq.trans (by kernel_rfl) (loop_iter1 (S := fun s2286 : (Int × Int) => (S65_3 y2275 s2286)) (Y1 := fun y2289 : (Int × Int) => ((.exit 0), (S65_6 y2275 y2289))) (fun s q => place_Total_l4_b y2275 s q) (fun z => rfl) LL ((0 : Int), (0 : Int)))
theorem place_Total_fzx1 : P65 1 C65.r.r.r.r ⟨[(5, ri y2275.2), (6, ri y2289.1)], [], [], 27⟩ k = k ⟨[(2, ri y2289.1), (3, ri y2275.2)], [], [], 27⟩ := by kernel_rfl
/-- quilt/place.Total -/
def place_Total : Option (Int × Int) := (Option.bind (place_lots g_) (fun y2275 : ((List I4) × Int) => (Option.bind (iterN (place_Total_l4_p y2275) LL ((0 : Int), (0 : Int))) (fun y2289 : (Int × Int) => (some (y2289.1, y2275.2))))))
theorem place_Total_is : stepS E cp62 ce3 14 [rA tsGraph g_] = Option.bind (place_Total g_) (fun y : (Int × Int) => some (.tup [ri y.1, ri y.2] : R)) := by
  refine .trans ?_ (bind_b fun y2275 => (bind_b fun y2289 => some_b))
  refine (stepG_is (nt := 27) (regs := [(0, rA tsGraph g_)])).trans ?_
  refine (pre2 (place_Total_r1 g_ _)).trans (bind_g fun y2275 => ?_)
  refine (pre1 (place_Total_f3 y2275 _)).trans ?_
  refine .trans seq_push ?_
  refine (pre1 (place_Total_f4 y2275 _)).trans ?_
  refine (block_push (id := 0)).trans ?_
  refine (place_Total_l4 y2275 _).trans (bind_g fun y2289 => ?_)
  refine block_same.trans ?_
  refine (seqC_normal (st' := ⟨[(5, ri y2275.2), (6, ri y2289.1)], [], [], 27⟩)).trans ?_
  refine (pre1 (place_Total_fzx1 y2275 y2289 _)).trans ?_
  refine (ret_eq).trans ?_
  kernel_rfl
noncomputable def cp63 : CallP := withC cp62 14 [(.agg tsGraph)] (.tup [pI, pI]) (fun y : (Int × Int) => (y.1, y.2, ())) (fun x => place_Total x.1)
theorem cp63_ok : PureOK E cp63 := conS eok cp62_ok ce3_ok fun x => Eq.mp (by kernel_rfl) (place_Total_is x.1)
end
section
variable {α : Type} (g_ : Graph) (y2291 : ((List Int) × Int)) (y2292 : ((List I4) × Int)) (s2303 : (Int × Int)) (y2305 : Int) (y2306 : (Int × Int)) (k : St → Option α) (q : Kont α)
noncomputable abbrev C66 := codeOf E.P 15
noncomputable abbrev P66 := @preK α E 15 cp63 ce3
noncomputable abbrev R66 := @runCode α E 15 cp63 ce3
abbrev S66_0 : St := ⟨[(1, rC tsGraph g_), (4, .one (.ow (.one (.int .i64)) y2291.1 (.v 4))), (5, ri y2291.2)], [], [], 43⟩
theorem ref17_Total_r1 : P66 2 C66 ⟨[(0, rA tsGraph g_)], [], [], 43⟩ k = Option.bind (ref17_Places g_) fun y2291 : ((List Int) × Int) => k (S66_0 g_ y2291) := by kernel_rfl
theorem ref17_Total_f1000003 : P66 1 C66.r.r.l (S66_0 g_ y2291) k = k ⟨[(1, rC tsGraph g_), (4, .one (.ow (.one (.int .i64)) y2291.1 (.v 4))), (5, ri y2291.2), (16, rb (y2291.2 != 0))], [], [], 43⟩ := by kernel_rfl
theorem ref17_Total_fz : P66 1 C66.r.r.l.r.t (S66_0 g_ y2291) k = k ⟨[(2, ri 0), (3, ri y2291.2)], [], [], 43⟩ := by kernel_rfl
abbrev S66_1 : St := ⟨[(1, rC tsGraph g_), (4, .one (.ow (.one (.int .i64)) y2291.1 (.v 4)))], [], [], 43⟩
abbrev S66_2 : St := ⟨[(4, .one (.ow (.one (.int .i64)) y2291.1 (.v 4))), (6, rO tsI4 y2292.1 6)], [], [], 43⟩
theorem ref17_Total_r4 : P66 1 C66.r.r.r (S66_1 g_ y2291) k = Option.bind (ref03_Values g_) fun y2292 : ((List I4) × Int) => k (S66_2 y2291 y2292) := by kernel_rfl
abbrev S66_3 : St := ⟨[(4, .one (.ow (.one (.int .i64)) y2291.1 (.v 4))), (6, rO tsI4 y2292.1 6), (8, ri 0)], [], [], 43⟩
theorem ref17_Total_f6 : P66 1 C66.r.r.r.r (S66_2 y2291 y2292) k = k (S66_3 y2291 y2292) := by kernel_rfl
abbrev S66_4 : St := ⟨[(4, .one (.ow (.one (.int .i64)) y2291.1 (.v 4))), (6, rO tsI4 y2292.1 6), (8, ri 0), (9, ri 0)], [], [], 43⟩
theorem ref17_Total_f7 : P66 1 C66.r.r.r.r.r.l (S66_3 y2291 y2292) k = k (S66_4 y2291 y2292) := by kernel_rfl
abbrev S66_5 : St := ⟨[(4, .one (.ow (.one (.int .i64)) y2291.1 (.v 4))), (6, rO tsI4 y2292.1 6), (8, ri s2303.1), (9, ri s2303.2)], [], [], 43⟩
theorem ref17_Total_fzx1 : P66 1 C66.r.r.r.r.r.l.r.b.b.l (S66_5 y2291 y2292 s2303) k = k ⟨[(4, .one (.ow (.one (.int .i64)) y2291.1 (.v 4))), (6, rO tsI4 y2292.1 6), (8, ri s2303.1), (9, ri s2303.2), (26, rb (decide (s2303.2 < (y2291.1.length : Int))))], [], [], 43⟩ := by kernel_rfl
def ref17_Total_r9_p : Option Int := (bif (decide ((0 : Int) ≤ s2303.2)) then (bif (decide (s2303.2 < (y2291.1.length : Int))) then (bif (decide ((0 : Int) ≤ s2303.2)) then (bif (decide (s2303.2 < (y2292.1.length : Int))) then (some (max s2303.1 (IntKind.wrap .i64 ((gt y2291.1 s2303.2 (0 : Int)) + (ref02_Size ((gt y2292.1 s2303.2 dI4).1, (gt y2292.1 s2303.2 dI4).2.1, (gt y2292.1 s2303.2 dI4).2.2.1)))))) else none) else none) else none) else none)
abbrev S66_6 : St := ⟨[(4, .one (.ow (.one (.int .i64)) y2291.1 (.v 4))), (6, rO tsI4 y2292.1 6), (8, ri y2305), (9, ri s2303.2)], [], [], 43⟩
theorem ref17_Total_r9 : R66 C66.r.r.r.r.r.l.r.b.b.r.l.b (S66_5 y2291 y2292 s2303) q = Option.bind (ref17_Total_r9_p y2291 y2292 s2303) (fun y2305 : Int => q .normal (S66_6 y2291 y2292 s2303 y2305)) := .trans (by kernel_rfl) (bif_b (bif_b (bif_b (bif_b some_b none_b) none_b) none_b) none_b)
theorem ref17_Total_r8 : R66 C66.r.r.r.r.r.l.r.b.b.r.r (S66_6 y2291 y2292 s2303 y2305) q = q .normal ⟨[(4, .one (.ow (.one (.int .i64)) y2291.1 (.v 4))), (6, rO tsI4 y2292.1 6), (8, ri y2305), (9, ri (IntKind.wrap .i64 (s2303.2 + 1)))], [], [], 43⟩ := by kernel_rfl
def ref17_Total_l7_p : Option ((Int × Int) ⊕ (Int × Int)) := (bif (decide (s2303.2 < (y2291.1.length : Int))) then (Option.bind (ref17_Total_r9_p y2291 y2292 s2303) (fun y2305 : Int => (some (Sum.inl (y2305, (IntKind.wrap .i64 (s2303.2 + 1))))))) else (some (Sum.inr s2303)))
abbrev S66_7 : St := ⟨[(4, .one (.ow (.one (.int .i64)) y2291.1 (.v 4))), (6, rO tsI4 y2292.1 6), (8, ri y2306.1), (9, ri y2306.2)], [], [], 43⟩
theorem ref17_Total_l7_b : R66 C66.r.r.r.r.r.l.r.b.b (S66_5 y2291 y2292 s2303) (loopKont 0 q) = Option.bind (ref17_Total_l7_p y2291 y2292 s2303) (either (fun y : (Int × Int) => q .normal ⟨[(4, .one (.ow (.one (.int .i64)) y2291.1 (.v 4))), (6, rO tsI4 y2292.1 6), (8, ri y.1), (9, ri y.2)], [], [], 43⟩) (fun y2306 : (Int × Int) => q (.exit 0) (S66_7 y2291 y2292 y2306))) := by
  refine .trans ?_ (bif_b (bind_b fun y2305 => e2_0) e2_1)
  refine .trans seq_push ?_
  refine (pre1 (ref17_Total_fzx1 y2291 y2292 s2303 _)).trans ?_
  refine (cond_e (b := (decide (s2303.2 < (y2291.1.length : Int)))) (st' := (S66_5 y2291 y2292 s2303)) ).trans (bif_g ?_ ?_)
  · refine (skip_eq).trans ?_
    refine (seqC_normal (st' := (S66_5 y2291 y2292 s2303))).trans ?_
    refine .trans seq_push ?_
    refine (block_push (id := 1)).trans ?_
    refine (ref17_Total_r9 y2291 y2292 s2303 _).trans (bind_g fun y2305 => ?_)
    refine block_normal.trans ?_
    refine (seqC_normal (st' := (S66_6 y2291 y2292 s2303 y2305))).trans ?_
    refine (ref17_Total_r8 y2291 y2292 s2303 y2305 _).trans ?_
    kernel_rfl
  · refine ((exit_eq (j := 0))).trans ?_
    refine seqC_exit.trans ?_
    kernel_rfl
theorem ref17_Total_l7 : R66 C66.r.r.r.r.r.l.r.b (S66_4 y2291 y2292) q = Option.bind (iterN (ref17_Total_l7_p y2291 y2292) LL ((0 : Int), (0 : Int))) (fun y2306 : (Int × Int) => q (.exit 0) (S66_7 y2291 y2292 y2306)) :=
  Eq.trans (by kernel_rfl) (loop_iter1 (S := fun s2303 : (Int × Int) => (S66_5 y2291 y2292 s2303)) (Y1 := fun y2306 : (Int × Int) => ((.exit 0), (S66_7 y2291 y2292 y2306))) (fun s q => ref17_Total_l7_b y2291 y2292 s q) (fun z => rfl) LL ((0 : Int), (0 : Int)))
theorem ref17_Total_fzx2 : P66 1 C66.r.r.r.r.r.r ⟨[(8, ri y2306.1)], [], [], 43⟩ k = k ⟨[(2, ri y2306.1), (3, ri 0)], [], [], 43⟩ := by kernel_rfl
/-- quilt/quiltref17.Total -/
def ref17_Total : Option (Int × Int) := (Option.bind (ref17_Places g_) (fun y2291 : ((List Int) × Int) => (bif (y2291.2 != 0) then (some ((0 : Int), y2291.2)) else (Option.bind (ref03_Values g_) (fun y2292 : ((List I4) × Int) => (Option.bind (iterN (ref17_Total_l7_p y2291 y2292) LL ((0 : Int), (0 : Int))) (fun y2306 : (Int × Int) => (some (y2306.1, (0 : Int))))))))))
theorem ref17_Total_is : stepS E cp63 ce3 15 [rA tsGraph g_] = Option.bind (ref17_Total g_) (fun y : (Int × Int) => some (.tup [ri y.1, ri y.2] : R)) := by
  refine .trans ?_ (bind_b fun y2291 => (bif_b some_b (bind_b fun y2292 => (bind_b fun y2306 => some_b))))
  refine (stepG_is (nt := 43) (regs := [(0, rA tsGraph g_)])).trans ?_
  refine (pre2 (ref17_Total_r1 g_ _)).trans (bind_g fun y2291 => ?_)
  refine .trans seq_push ?_
  refine (pre1 (ref17_Total_f1000003 g_ y2291 _)).trans ?_
  refine (cond_e (b := (y2291.2 != 0)) (st' := (S66_0 g_ y2291)) ).trans (bif_g ?_ ?_)
  · refine (pre1 (ref17_Total_fz g_ y2291 _)).trans ?_
    refine (ret_eq).trans ?_
    refine seqC_ret.trans ?_
    kernel_rfl
  · refine (skip_eq).trans ?_
    refine (seqC_normal (st' := (S66_1 g_ y2291))).trans ?_
    refine (pre1 (ref17_Total_r4 g_ y2291 _)).trans (bind_g fun y2292 => ?_)
    refine (pre1 (ref17_Total_f6 y2291 y2292 _)).trans ?_
    refine .trans seq_push ?_
    refine (pre1 (ref17_Total_f7 y2291 y2292 _)).trans ?_
    refine (block_push (id := 0)).trans ?_
    refine (ref17_Total_l7 y2291 y2292 _).trans (bind_g fun y2306 => ?_)
    refine block_same.trans ?_
    refine (seqC_normal (st' := ⟨[(8, ri y2306.1)], [], [], 43⟩)).trans ?_
    refine (pre1 (ref17_Total_fzx2 y2306 _)).trans ?_
    refine (ret_eq).trans ?_
    kernel_rfl
noncomputable def cp64 : CallP := withC cp63 15 [(.agg tsGraph)] (.tup [pI, pI]) (fun y : (Int × Int) => (y.1, y.2, ())) (fun x => ref17_Total x.1)
theorem cp64_ok : PureOK E cp64 := conS eok cp63_ok ce3_ok fun x => Eq.mp (by kernel_rfl) (ref17_Total_is x.1)
end
section
variable {α : Type} (a_ : (List I2)) (b_ : (List I2)) (s2319 : Int) (k : St → Option α) (q : Kont α)
noncomputable abbrev C67 := codeOf E.P 16
noncomputable abbrev P67 := @preK α E 16 cp64 ce3
noncomputable abbrev R67 := @runCode α E 16 cp64 ce3
abbrev S67_0 : St := ⟨[(0, rl tsI2 a_), (1, rl tsI2 b_)], [], [], 26⟩
theorem ref17_SameLives_f1 : P67 1 C67 (S67_0 a_ b_) k = k (S67_0 a_ b_) := by kernel_rfl
theorem ref17_SameLives_f1000002 : P67 1 C67.r.l (S67_0 a_ b_) k = k ⟨[(0, rl tsI2 a_), (1, rl tsI2 b_), (10, rb ((a_.length : Int) != (b_.length : Int)))], [], [], 26⟩ := by kernel_rfl
abbrev S67_1 : St := ⟨[(4, rb false)], [], [], 26⟩
theorem ref17_SameLives_fz : P67 1 C67.r.l.r.t (S67_0 a_ b_) k = k S67_1 := by kernel_rfl
abbrev S67_2 : St := ⟨[(0, rl tsI2 a_), (1, rl tsI2 b_), (5, ri 0)], [], [], 26⟩
theorem ref17_SameLives_f4 : P67 1 C67.r.r.l (S67_0 a_ b_) k = k (S67_2 a_ b_) := by kernel_rfl
abbrev S67_3 : St := ⟨[(0, rl tsI2 a_), (1, rl tsI2 b_), (5, ri s2319)], [], [], 26⟩
theorem ref17_SameLives_fzx1 : P67 1 C67.r.r.l.r.b.b.l (S67_3 a_ b_ s2319) k = k ⟨[(0, rl tsI2 a_), (1, rl tsI2 b_), (5, ri s2319), (14, rb (decide (s2319 < (a_.length : Int))))], [], [], 26⟩ := by kernel_rfl
def ref17_SameLives_r6_p : Option Bool := (bif (decide ((0 : Int) ≤ s2319)) then (bif (decide (s2319 < (a_.length : Int))) then (bif (decide ((0 : Int) ≤ s2319)) then (bif (decide (s2319 < (b_.length : Int))) then (some (!((((gt a_ s2319 dI2).1) == ((gt b_ s2319 dI2).1)) && ((((gt a_ s2319 dI2).2) == ((gt b_ s2319 dI2).2)) && true)))) else none) else none) else none) else none)
theorem ref17_SameLives_r6 : P67 1 C67.r.r.l.r.b.b.r.l.b (S67_3 a_ b_ s2319) k = Option.bind (ref17_SameLives_r6_p a_ b_ s2319) (fun y2321 : Bool => k ⟨[(0, rl tsI2 a_), (1, rl tsI2 b_), (5, ri s2319), (25, rb y2321)], [], [], 26⟩) := .trans (by kernel_rfl) (bif_b (bif_b (bif_b (bif_b some_b none_b) none_b) none_b) none_b)
theorem ref17_SameLives_fzx2 : P67 1 C67.r.r.l.r.b.b.r.l.b.r.t (S67_3 a_ b_ s2319) k = k S67_1 := by kernel_rfl
theorem ref17_SameLives_r5 : R67 C67.r.r.l.r.b.b.r.r (S67_3 a_ b_ s2319) q = q .normal ⟨[(0, rl tsI2 a_), (1, rl tsI2 b_), (5, ri (IntKind.wrap .i64 (s2319 + 1)))], [], [], 26⟩ := by kernel_rfl
def ref17_SameLives_l4_p : Option (Int ⊕ (Int ⊕ Unit)) := (bif (decide (s2319 < (a_.length : Int))) then (Option.bind (ref17_SameLives_r6_p a_ b_ s2319) (fun y2321 : Bool => (bif y2321 then (some (Sum.inr (Sum.inr ()))) else (some (Sum.inl (IntKind.wrap .i64 (s2319 + 1))))))) else (some (Sum.inr (Sum.inl s2319))))
abbrev S67_4 (y2322 : Int) : St := ⟨[(0, rl tsI2 a_), (1, rl tsI2 b_), (5, ri y2322)], [], [], 26⟩
theorem ref17_SameLives_l4_b : R67 C67.r.r.l.r.b.b (S67_3 a_ b_ s2319) (loopKont 0 q) = Option.bind (ref17_SameLives_l4_p a_ b_ s2319) (either (fun y : Int => q .normal ⟨[(0, rl tsI2 a_), (1, rl tsI2 b_), (5, ri y)], [], [], 26⟩) (either (fun y2322 : Int => q (.exit 0) (S67_4 a_ b_ y2322)) (fun y2323 : Unit => q .ret S67_1))) := by
  refine .trans ?_ (bif_b (bind_b fun y2321 => (bif_b e3_2 e3_0)) e3_1)
  refine .trans seq_push ?_
  refine (pre1 (ref17_SameLives_fzx1 a_ b_ s2319 _)).trans ?_
  refine (cond_e (b := (decide (s2319 < (a_.length : Int)))) (st' := (S67_3 a_ b_ s2319)) ).trans (bif_g ?_ ?_)
  · refine (skip_eq).trans ?_
    refine (seqC_normal (st' := (S67_3 a_ b_ s2319))).trans ?_
    refine .trans seq_push ?_
    refine (block_push (id := 1)).trans ?_
    refine (pre1 (ref17_SameLives_r6 a_ b_ s2319 _)).trans (bind_g fun y2321 => ?_)
    refine (cond_e (b := y2321) (st' := (S67_3 a_ b_ s2319)) ).trans (bif_g ?_ ?_)
    · refine (pre1 (ref17_SameLives_fzx2 a_ b_ s2319 _)).trans ?_
      refine (ret_eq).trans ?_
      refine block_ret.trans ?_
      refine seqC_ret.trans ?_
      kernel_rfl
    · refine (skip_eq).trans ?_
      refine block_normal.trans ?_
      refine (seqC_normal (st' := (S67_3 a_ b_ s2319))).trans ?_
      refine (ref17_SameLives_r5 a_ b_ s2319 _).trans ?_
      kernel_rfl
  · refine ((exit_eq (j := 0))).trans ?_
    refine seqC_exit.trans ?_
    kernel_rfl
theorem ref17_SameLives_l4 : R67 C67.r.r.l.r.b (S67_2 a_ b_) q = Option.bind (iterN (ref17_SameLives_l4_p a_ b_) LL (0 : Int)) (either (fun y2322 : Int => q (.exit 0) (S67_4 a_ b_ y2322)) (fun y2323 : Unit => q .ret S67_1)) :=
  Eq.trans (by kernel_rfl) (loop_iter2 (S := fun s2319 : Int => (S67_3 a_ b_ s2319)) (Y1 := fun y2322 : Int => ((.exit 0), (S67_4 a_ b_ y2322))) (Y2 := fun y2323 : Unit => (.ret, S67_1)) (fun s q => ref17_SameLives_l4_b a_ b_ s q) (fun z => rfl) (fun z => rfl) LL (0 : Int))
theorem ref17_SameLives_fzx3 : P67 1 C67.r.r.r ⟨[], [], [], 26⟩ k = k ⟨[(4, rb true)], [], [], 26⟩ := by kernel_rfl
/-- quilt/quiltref17.SameLives -/
def ref17_SameLives : Option Bool := (bif ((a_.length : Int) != (b_.length : Int)) then (some false) else (Option.bind (iterN (ref17_SameLives_l4_p a_ b_) LL (0 : Int)) (either (fun y2322 : Int => (some true)) (fun y2323 : Unit => (some false)))))
theorem ref17_SameLives_is : stepS E cp64 ce3 16 [rl tsI2 a_, rl tsI2 b_] = Option.bind (ref17_SameLives a_ b_) (fun y : Bool => some (rb y : R)) := by
  refine .trans ?_ (bif_b some_b (bind_b (either_b (fun y2322 => some_b) (fun y2323 => some_b))))
  refine (stepG_is (nt := 26) (regs := [(0, rl tsI2 a_), (1, rl tsI2 b_)])).trans ?_
  refine (pre1 (ref17_SameLives_f1 a_ b_ _)).trans ?_
  refine .trans seq_push ?_
  refine (pre1 (ref17_SameLives_f1000002 a_ b_ _)).trans ?_
  refine (cond_e (b := ((a_.length : Int) != (b_.length : Int))) (st' := (S67_0 a_ b_)) ).trans (bif_g ?_ ?_)
  · refine (pre1 (ref17_SameLives_fz a_ b_ _)).trans ?_
    refine (ret_eq).trans ?_
    refine seqC_ret.trans ?_
    kernel_rfl
  · refine (skip_eq).trans ?_
    refine (seqC_normal (st' := (S67_0 a_ b_))).trans ?_
    refine .trans seq_push ?_
    refine (pre1 (ref17_SameLives_f4 a_ b_ _)).trans ?_
    refine (block_push (id := 0)).trans ?_
    refine (ref17_SameLives_l4 a_ b_ _).trans (bind_g (either_g (fun y2322 => ?_) (fun y2323 => ?_)))
    · refine block_same.trans ?_
      refine (seqC_normal (st' := ⟨[], [], [], 26⟩)).trans ?_
      refine (pre1 (ref17_SameLives_fzx3 _)).trans ?_
      refine (ret_eq).trans ?_
      kernel_rfl
    · refine block_ret.trans ?_
      refine seqC_ret.trans ?_
      kernel_rfl
noncomputable def cp65 : CallP := withC cp64 16 [(pL tsI2), (pL tsI2)] (.one pB) (fun y : Bool => y) (fun x => ref17_SameLives x.1 x.2.1)
theorem cp65_ok : PureOK E cp65 := conS eok cp64_ok ce3_ok fun x => Eq.mp (by kernel_rfl) (ref17_SameLives_is x.1 x.2.1)
end
section
variable {α : Type} (a_ : (List Int)) (b_ : (List Int)) (s2336 : Int) (k : St → Option α) (q : Kont α)
noncomputable abbrev C68 := codeOf E.P 26
noncomputable abbrev P68 := @preK α E 26 cp65 ce3
noncomputable abbrev R68 := @runCode α E 26 cp65 ce3
abbrev S68_0 : St := ⟨[(0, rl (.one (.int .i64)) a_), (1, rl (.one (.int .i64)) b_)], [], [], 26⟩
theorem ref03_ints_f1 : P68 1 C68 (S68_0 a_ b_) k = k (S68_0 a_ b_) := by kernel_rfl
theorem ref03_ints_f1000002 : P68 1 C68.r.l (S68_0 a_ b_) k = k ⟨[(0, rl (.one (.int .i64)) a_), (1, rl (.one (.int .i64)) b_), (10, rb ((a_.length : Int) != (b_.length : Int)))], [], [], 26⟩ := by kernel_rfl
abbrev S68_1 : St := ⟨[(4, rb false)], [], [], 26⟩
theorem ref03_ints_fz : P68 1 C68.r.l.r.t (S68_0 a_ b_) k = k S68_1 := by kernel_rfl
abbrev S68_2 : St := ⟨[(0, rl (.one (.int .i64)) a_), (1, rl (.one (.int .i64)) b_), (5, ri 0)], [], [], 26⟩
theorem ref03_ints_f4 : P68 1 C68.r.r.l (S68_0 a_ b_) k = k (S68_2 a_ b_) := by kernel_rfl
abbrev S68_3 : St := ⟨[(0, rl (.one (.int .i64)) a_), (1, rl (.one (.int .i64)) b_), (5, ri s2336)], [], [], 26⟩
theorem ref03_ints_fzx1 : P68 1 C68.r.r.l.r.b.b.l (S68_3 a_ b_ s2336) k = k ⟨[(0, rl (.one (.int .i64)) a_), (1, rl (.one (.int .i64)) b_), (5, ri s2336), (14, rb (decide (s2336 < (a_.length : Int))))], [], [], 26⟩ := by kernel_rfl
def ref03_ints_r6_p : Option Unit := (bif (decide ((0 : Int) ≤ s2336)) then (bif (decide (s2336 < (a_.length : Int))) then (bif (decide ((0 : Int) ≤ s2336)) then (bif (decide (s2336 < (b_.length : Int))) then (some ()) else none) else none) else none) else none)
theorem ref03_ints_r6 : P68 1 C68.r.r.l.r.b.b.r.l.b (S68_3 a_ b_ s2336) k = Option.bind (ref03_ints_r6_p a_ b_ s2336) (fun y2338 : Unit => k ⟨[(0, rl (.one (.int .i64)) a_), (1, rl (.one (.int .i64)) b_), (5, ri s2336), (25, rb ((gt a_ s2336 (0 : Int)) != (gt b_ s2336 (0 : Int))))], [], [], 26⟩) := .trans (by kernel_rfl) (bif_b (bif_b (bif_b (bif_b some_b none_b) none_b) none_b) none_b)
theorem ref03_ints_fzx2 : P68 1 C68.r.r.l.r.b.b.r.l.b.r.t (S68_3 a_ b_ s2336) k = k S68_1 := by kernel_rfl
theorem ref03_ints_r5 : R68 C68.r.r.l.r.b.b.r.r (S68_3 a_ b_ s2336) q = q .normal ⟨[(0, rl (.one (.int .i64)) a_), (1, rl (.one (.int .i64)) b_), (5, ri (IntKind.wrap .i64 (s2336 + 1)))], [], [], 26⟩ := by kernel_rfl
def ref03_ints_l4_p : Option (Int ⊕ (Int ⊕ Unit)) := (bif (decide (s2336 < (a_.length : Int))) then (Option.bind (ref03_ints_r6_p a_ b_ s2336) (fun y2338 : Unit => (bif ((gt a_ s2336 (0 : Int)) != (gt b_ s2336 (0 : Int))) then (some (Sum.inr (Sum.inr ()))) else (some (Sum.inl (IntKind.wrap .i64 (s2336 + 1))))))) else (some (Sum.inr (Sum.inl s2336))))
abbrev S68_4 (y2339 : Int) : St := ⟨[(0, rl (.one (.int .i64)) a_), (1, rl (.one (.int .i64)) b_), (5, ri y2339)], [], [], 26⟩
theorem ref03_ints_l4_b : R68 C68.r.r.l.r.b.b (S68_3 a_ b_ s2336) (loopKont 0 q) = Option.bind (ref03_ints_l4_p a_ b_ s2336) (either (fun y : Int => q .normal ⟨[(0, rl (.one (.int .i64)) a_), (1, rl (.one (.int .i64)) b_), (5, ri y)], [], [], 26⟩) (either (fun y2339 : Int => q (.exit 0) (S68_4 a_ b_ y2339)) (fun y2340 : Unit => q .ret S68_1))) := by
  refine .trans ?_ (bif_b (bind_b fun y2338 => (bif_b e3_2 e3_0)) e3_1)
  refine .trans seq_push ?_
  refine (pre1 (ref03_ints_fzx1 a_ b_ s2336 _)).trans ?_
  refine (cond_e (b := (decide (s2336 < (a_.length : Int)))) (st' := (S68_3 a_ b_ s2336)) ).trans (bif_g ?_ ?_)
  · refine (skip_eq).trans ?_
    refine (seqC_normal (st' := (S68_3 a_ b_ s2336))).trans ?_
    refine .trans seq_push ?_
    refine (block_push (id := 1)).trans ?_
    refine (pre1 (ref03_ints_r6 a_ b_ s2336 _)).trans (bind_g fun y2338 => ?_)
    refine (cond_e (b := ((gt a_ s2336 (0 : Int)) != (gt b_ s2336 (0 : Int)))) (st' := (S68_3 a_ b_ s2336)) ).trans (bif_g ?_ ?_)
    · refine (pre1 (ref03_ints_fzx2 a_ b_ s2336 _)).trans ?_
      refine (ret_eq).trans ?_
      refine block_ret.trans ?_
      refine seqC_ret.trans ?_
      kernel_rfl
    · refine (skip_eq).trans ?_
      refine block_normal.trans ?_
      refine (seqC_normal (st' := (S68_3 a_ b_ s2336))).trans ?_
      refine (ref03_ints_r5 a_ b_ s2336 _).trans ?_
      kernel_rfl
  · refine ((exit_eq (j := 0))).trans ?_
    refine seqC_exit.trans ?_
    kernel_rfl
theorem ref03_ints_l4 : R68 C68.r.r.l.r.b (S68_2 a_ b_) q = Option.bind (iterN (ref03_ints_l4_p a_ b_) LL (0 : Int)) (either (fun y2339 : Int => q (.exit 0) (S68_4 a_ b_ y2339)) (fun y2340 : Unit => q .ret S68_1)) :=
  Eq.trans (by kernel_rfl) (loop_iter2 (S := fun s2336 : Int => (S68_3 a_ b_ s2336)) (Y1 := fun y2339 : Int => ((.exit 0), (S68_4 a_ b_ y2339))) (Y2 := fun y2340 : Unit => (.ret, S68_1)) (fun s q => ref03_ints_l4_b a_ b_ s q) (fun z => rfl) (fun z => rfl) LL (0 : Int))
theorem ref03_ints_fzx3 : P68 1 C68.r.r.r ⟨[], [], [], 26⟩ k = k ⟨[(4, rb true)], [], [], 26⟩ := by kernel_rfl
/-- quilt/quiltref03.ints -/
def ref03_ints : Option Bool := (bif ((a_.length : Int) != (b_.length : Int)) then (some false) else (Option.bind (iterN (ref03_ints_l4_p a_ b_) LL (0 : Int)) (either (fun y2339 : Int => (some true)) (fun y2340 : Unit => (some false)))))
theorem ref03_ints_is : stepS E cp65 ce3 26 [rl (.one (.int .i64)) a_, rl (.one (.int .i64)) b_] = Option.bind (ref03_ints a_ b_) (fun y : Bool => some (rb y : R)) := by
  refine .trans ?_ (bif_b some_b (bind_b (either_b (fun y2339 => some_b) (fun y2340 => some_b))))
  refine (stepG_is (nt := 26) (regs := [(0, rl (.one (.int .i64)) a_), (1, rl (.one (.int .i64)) b_)])).trans ?_
  refine (pre1 (ref03_ints_f1 a_ b_ _)).trans ?_
  refine .trans seq_push ?_
  refine (pre1 (ref03_ints_f1000002 a_ b_ _)).trans ?_
  refine (cond_e (b := ((a_.length : Int) != (b_.length : Int))) (st' := (S68_0 a_ b_)) ).trans (bif_g ?_ ?_)
  · refine (pre1 (ref03_ints_fz a_ b_ _)).trans ?_
    refine (ret_eq).trans ?_
    refine seqC_ret.trans ?_
    kernel_rfl
  · refine (skip_eq).trans ?_
    refine (seqC_normal (st' := (S68_0 a_ b_))).trans ?_
    refine .trans seq_push ?_
    refine (pre1 (ref03_ints_f4 a_ b_ _)).trans ?_
    refine (block_push (id := 0)).trans ?_
    refine (ref03_ints_l4 a_ b_ _).trans (bind_g (either_g (fun y2339 => ?_) (fun y2340 => ?_)))
    · refine block_same.trans ?_
      refine (seqC_normal (st' := ⟨[], [], [], 26⟩)).trans ?_
      refine (pre1 (ref03_ints_fzx3 _)).trans ?_
      refine (ret_eq).trans ?_
      kernel_rfl
    · refine block_ret.trans ?_
      refine seqC_ret.trans ?_
      kernel_rfl
noncomputable def cp66 : CallP := withC cp65 26 [(.one (.g (.sl (.one (.int .i64))))), (.one (.g (.sl (.one (.int .i64)))))] (.one pB) (fun y : Bool => y) (fun x => ref03_ints x.1 x.2.1)
theorem cp66_ok : PureOK E cp66 := conS eok cp65_ok ce3_ok fun x => Eq.mp (by kernel_rfl) (ref03_ints_is x.1 x.2.1)
end
section
variable {α : Type} (a_ : (List Int)) (b_ : (List Int)) (k : St → Option α)
noncomputable abbrev C69 := codeOf E.P 17
noncomputable abbrev P69 := @preK α E 17 cp66 ce3
theorem ref03_Ints_r1 : P69 2 C69 ⟨[(0, rl (.one (.int .i64)) a_), (1, rl (.one (.int .i64)) b_)], [], [], 8⟩ k = Option.bind (ref03_ints a_ b_) fun y2341 : Bool => k ⟨[(4, rb y2341)], [], [], 8⟩ := by kernel_rfl
/-- quilt/quiltref03.Ints -/
def ref03_Ints : Option Bool := (Option.bind (ref03_ints a_ b_) (fun y2341 : Bool => (some y2341)))
theorem ref03_Ints_is : stepS E cp66 ce3 17 [rl (.one (.int .i64)) a_, rl (.one (.int .i64)) b_] = Option.bind (ref03_Ints a_ b_) (fun y : Bool => some (rb y : R)) := by
  refine .trans ?_ (bind_b fun y2341 => some_b)
  refine (stepG_is (nt := 8) (regs := [(0, rl (.one (.int .i64)) a_), (1, rl (.one (.int .i64)) b_)])).trans ?_
  refine (pre2 (ref03_Ints_r1 a_ b_ _)).trans (bind_g fun y2341 => ?_)
  refine (ret_eq).trans ?_
  kernel_rfl
noncomputable def cp67 : CallP := withC cp66 17 [(.one (.g (.sl (.one (.int .i64))))), (.one (.g (.sl (.one (.int .i64)))))] (.one pB) (fun y : Bool => y) (fun x => ref03_Ints x.1 x.2.1)
theorem cp67_ok : PureOK E cp67 := conS eok cp66_ok ce3_ok fun x => Eq.mp (by kernel_rfl) (ref03_Ints_is x.1 x.2.1)
end
end Go.V.P
